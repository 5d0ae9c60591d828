/-
 The program's limbo: adding blocks, draining, pushing.
-/
import Derived.Test.YtejgooipbmnioaaGreatDoorG28
set_option linter.unusedVariables false
set_option linter.unusedSimpArgs false
set_option linter.unusedSectionVars false
set_option maxRecDepth 20000
set_option maxHeartbeats 4000000
namespace Go.Stx
open Go Go.Proofs
attribute [local irreducible] TW cg eg bn aC aV cR df
section
abbrev rE:List (Nat×Nat):=[(0,0),(1,0),(2,0),(3,0),(4,0),(5,0),(6,0),(7,0),(8,0),(9,0),(10,0),(12,0),(13,0),(11,2),(14,2),(15,2),(16,3),(17,0),(18,0),(19,3)]
open T23
variable [Gl]
theorem wW (c:bC) (l:List (Int×Int)) (qE:Int) (bs:List Int) (b:Int):kU c l qE (bs++[b])=if 0≤cG c b then kU c l qE bs++[(b,qE)] else kU c l qE bs:=by
 unfold kU
 rw [List.filter_append]
 by_cases h:0≤cG c b
 · simp [h]
 · simp [h]
theorem Hs (c:bC) (l:List (Int×Int)) (qE:Int) (bs:List Int):(kU c l qE bs).length≤l.length+bs.length:=by
 unfold kU
 have:=List.length_filter_le (fun b=>decide (0≤cG c b)) bs
 rw [List.length_append,List.length_map]
 omega
theorem EK (p:Nat) (c:bC) (sx:b9 c) (l:List (Int×Int)) (qE:Int) (vb:Value) (bs:List Int) (hb:∀b∈bs,b<2^62) (hl:l.length<2^28) (My:bs.length<2^28) :
 aY Tryz.prog 251 [pv p,.int .i64 qE,vb] [.h (ml p c l),.h (au .i64 vb bs)] (fun _=>True) (fun _=>[.h (ml p c (kU c l qE bs)),.h (au .i64 vb bs)]):=by
 intro A F hw hS
 refine ab Tryz.func251 rfl (by kernel_rfl) fun _=>?_
 obtain⟨v0,hS⟩:=ml.open hS .z
 dsimp only [IV,af,ag] at hS
 have hI:=ak.nH hS (.s (.s .z))
 obtain⟨ob,cb,rfl,_⟩:=hI.dJ
 have hq:=ut hS hw
 revert hq hS hw;clear hS;refine W trivial (J2 @AW.aa @ah.eq_1) (J1 ?_)<;>unhygienic intros
 refine eS (fun k fr A'=>A'.Wf∧∃(i:Nat),k=bs.length-i∧i≤bs.length∧fr 0=pv p∧fr 1=.int .i64 qE∧fr 10=.slice ob bs.length cb∧fr 11=.int .i64 bs.length∧fr 12=.int .i64 i∧
  ak A' [.h (ml p c (kU c l qE (bs.take i))),.h (au .i64 (.slice ob bs.length cb) bs),.h F]) bs.length ?_ ?_
 · refine⟨hw,0,by simp,by simp,by simp,by simp,by simp,by simp,by simp,?_⟩
   have e:kU c l qE (bs.take 0)=l:=by simp [kU]
   rw [e]
   exact ml.dR (v:=v0) hS (.s .z (.s .z .z))
 · clear hq hI hS hw
   rintro k fr A' ⟨hw,i,rfl,hi,h0,h1,LI,y4,AH,hS⟩
   obtain⟨v,hS⟩:=ml.open hS .z
   dsimp only [IV,af,ag] at hS
   have hI:=ak.nH hS (.s (.s .z))
   have rX:=Hs c l qE (bs.take i)
   have WY:(bs.take i).length≤bs.length:=by simp;omega
   have hq:=ut hS hw
   refine dI ?_
   by_cases dO:i<bs.length
   · have fG:(i:Int)<bs.length:=by omega
     have mf:IntKind.i64.wrap ((i:Int)+1)=((i+1:Nat):Int):=aw (by omega) (by omega)
     obtain⟨pp,cK,rfl,dG,bA⟩:=hI.at dO
     have FA:bs.take (i+1)=bs.take i++[bs[i]]:=List.take_succ_eq_append_getElem dO
     have i8:=qe c sx bs[i] (hb _ (List.getElem_mem dO))
     dsimp only [bC.v] at i8
     by_cases h:0≤cG c bs[i]
     · repeat' (first
     | (with_reducible apply Of;(·first|(simp;done)|(simp;rfl));(·first|(simp;done)|(simp;rfl));(·exact wA);(·exact sA);(·first|exact pA|exact kA);(·first|exact AW.cW _ _|((repeat' (first|apply ap.z|apply ap.s));done)|(simp [hq];(repeat' (first|rfl|refine⟨rfl,?_⟩));done)|(simp;done)|(simp;rfl)|(simp [hq];done)|(simp [hq];rfl));(·first|omega|(simp;omega));(·intro _ _;trivial);rintro _ _ _ hS hw _;(try dsimp only [AW.bq] at hS);have hq:=ut hS hw)
     | (refine jx fun R hR=>?_;simp [aw,az,h0,h1,LI,y4,AH,hq,dG,bA,h,dO,fG,mf,AW.aa,ah];try simp (disch:=omega) only [if_pos,if_neg,aw,az])
     | (refine hR _ _ ?_;clear hR R)|(refine hK _ _ ?_;clear hK K)|refine nx ?_
     | refine wn fun K hK=>?_
     | simp only [wS]
     | (refine bT (i8 _) ?_;rintro _ _ ⟨rfl,rfl⟩ _ _)
     | refine wb ?_|refine wr ?_|refine wk ?_|refine we ?_|refine ws ?_|refine wq ?_
     | (refine wc rfl (fun hc=>?_) (fun hc=>?_)<;>(try simp at hc)<;>(try omega))
     | (refine ib (fun hc=>?_) (fun hc=>?_)<;>(try omega)<;>(try simp (disch:=omega) only [if_pos,if_neg])))
       refine⟨bs.length-(i+1),by omega,?_,i+1,rfl,by omega,by simp [h0],by simp [h1],by simp [LI],by simp [y4],by simp,?_⟩
       · first|exact hw|exact hw.set _ (hw.lt (hS.g 2 rfl))
       · rw [FA,wW,if_pos h]
         apply ak.bS
         · apply ml.dR
           (·exact sA)
           (·first|exact pA|exact kA)
         (·first|exact pA|exact kA)
     · revert hq hS hw;(repeat first|clear hq|clear hS|clear hw|revert hc|revert zn|revert zA|revert R|revert K);refine W (J1 @i8) (rQ h0 h1 LI y4 AH dG bA h dO fG mf @AW.aa @ah.eq_1) (J1 ?_)<;>unhygienic intros
       refine⟨bs.length-(i+1),by omega,hw,i+1,rfl,by omega,by simp [h0],by simp [h1],by simp [LI],by simp [y4],by simp,?_⟩
       · rw [FA,wW,if_neg h]
         apply ak.bS
         · apply ml.dR
           (·exact sA)
           (·first|exact pA|exact kA)
         (·first|exact pA|exact kA)
   · have GQ:i=bs.length:=by omega
     subst GQ
     rw [List.take_length] at hS
     revert hq hS hw;(repeat first|clear hq|clear hS|clear hw|revert hc|revert zn|revert zA|revert R|revert K);refine W trivial (J7 h0 h1 LI y4 AH @AW.aa @ah.eq_1) (J1 ?_)<;>unhygienic intros
     refine⟨_,by first|rfl|(simp;rfl),trivial,?_⟩
     exact ml.dR (v:=v) hS (.s .z (.s .z .z))
theorem tJ (l:List (Int×Int)) (k9:Int) (x:Int×Int):iI (l++[x]) k9=if k9<x.2 then iI l k9++[x] else iI l k9:=by
 unfold iI
 rw [List.filter_append]
 by_cases h:k9<x.2<;>simp [h]
theorem tN (c:bC) (l:List (Int×Int)) (k9:Int) (x:Int×Int):jU c (l++[x]) k9=if k9<x.2 then jU c l k9 else jU c l k9++[⟨cG c x.1,x.1,0,0⟩]:=by
 unfold jU
 rw [List.filter_append]
 by_cases h:k9<x.2<;>simp [h]
theorem sv (p:Nat) (c:bC) (sx:b9 c) (l:List (Int×Int)) (k9:Int) (hb:∀x∈l,x.1<2^62) (hl:l.length<2^28) :
 ct Tryz.prog 99 [pv p,.int .i64 k9] [.h (ml p c l)] (fun dp v=>v=pv dp) (fun dp=>[.h (ml p c (iI l k9)),.h (uU dp (jU c l k9))]):=by
 intro A F hw hS
 refine ab Tryz.func99 rfl (by kernel_rfl) fun _=>?_
 obtain⟨v0,hS⟩:=ml.open hS .z
 dsimp only [IV,af,ag] at hS
 have hI:=ak.wF hS (.s .z)
 obtain⟨ob,cb,rfl,_⟩:=hI.dJ
 have hq:=ut hS hw
 revert hq hS hw;clear hS;refine W (J1 (od rE)) (J2 @AW.aa @ah.eq_1) (J1 ?_)<;>unhygienic intros
 refine eS (fun k fr A'=>A'.Wf∧∃(i:Nat),k=l.length-i∧i≤l.length∧fr 0=pv p∧fr 1=.int .i64 k9∧fr 5=pv A.next∧fr 17=.slice ob l.length cb∧fr 18=.int .i64 l.length∧fr 19=.int .i64 i∧
  ak A' [.h (MD (fr 6) (iI (l.take i) k9)),.h (uU A.next (jU c (l.take i) k9)),.at p (Lh c (.slice ob l.length cb)),.h (MD (.slice ob l.length cb) l),.h F]) l.length ?_ ?_
 · have h1:=hS.alloc hw (.cells [.slice none 0 0] true 1)
   have h2:=ak.UC (uU.nil h1 .z)
   refine⟨hw.alloc _,0,by simp,by simp,by simp,by simp,by simp,by simp,by simp,by simp,?_⟩
   exact h2
 · clear hq hI hS
   rintro k fr A' ⟨km,i,rfl,hi,h0,h1,h5,P4,P3,V2,hS⟩
   obtain⟨vl,q,JP,hS⟩:=uU.open hS (.s .z)
   dsimp only [ND,af,ag] at hS
   have rX:(iI (l.take i) k9).length≤l.length:=by
    have e1:=List.length_filter_le (fun x:Int×Int=>decide (k9<x.2)) (l.take i)
    have e2:(l.take i).length≤l.length:=by simp;omega
    unfold iI
    omega
   have Zv:(q.map Prod.fst).length≤l.length:=by
    have e0:q.length=(jU c (l.take i) k9).length:=by rw [←JP,List.length_map]
    have e1:=List.length_filter_le (fun x:Int×Int=>!decide (k9<x.2)) (l.take i)
    have e2:(l.take i).length≤l.length:=by simp;omega
    unfold jU at e0
    rw [List.length_map] at e0 ⊢
    omega
   replace hw:=km
   refine dI ?_
   by_cases dO:i<l.length
   · have fG:(i:Int)<l.length:=by omega
     have mf:IntKind.i64.wrap ((i:Int)+1)=((i+1:Nat):Int):=aw (by omega) (by omega)
     obtain⟨pp,cK,rfl,dG,eT,bA⟩:=ak.St hS (.s (.s (.s (.s (.s .z))))) dO
     have FA:l.take (i+1)=l.take i++[l[i]]:=List.take_succ_eq_append_getElem dO
     have i8:=qe c sx l[i].1 (hb _ (List.getElem_mem dO))
     dsimp only [bC.v] at i8
     have hq:=ut hS hw
     by_cases h:k9<l[i].2
     · repeat' (first
     | (with_reducible apply Of;(·first|(simp;done)|(simp;rfl));(·first|(simp;done)|(simp;rfl));(·exact wA);(·exact sA);(·first|exact pA|exact kA);(·first|exact AW.cW _ _|((repeat' (first|apply ap.z|apply ap.s));done)|(simp [hq];(repeat' (first|rfl|refine⟨rfl,?_⟩));done)|(simp;done)|(simp;rfl)|(simp [hq];done)|(simp [hq];rfl));(·first|omega|(simp;omega));(·intro _ _;trivial);rintro _ _ _ hS hw _;(try dsimp only [AW.bq] at hS);have hq:=ut hS hw)
     | (refine jx fun R hR=>?_;simp [aw,az,h0,h1,h5,P4,P3,V2,hq,dG,eT,bA,h,dO,fG,mf,AW.aa,ah];try simp (disch:=omega) only [if_pos,if_neg,aw,az])
     | (refine hR _ _ ?_;clear hR R)|(refine hK _ _ ?_;clear hK K)|refine nx ?_
     | refine wn fun K hK=>?_
     | simp only [wS,rE]
     | refine wl Tryz.mx rE (by decide +kernel) fun K hK=>?_
     | refine wb ?_|refine wr ?_|refine wk ?_|refine we ?_|refine ws ?_|refine wq ?_
     | (refine wc rfl (fun hc=>?_) (fun hc=>?_)<;>(try simp at hc)<;>(try omega))
     | (refine ib (fun hc=>?_) (fun hc=>?_)<;>(try omega)<;>(try simp (disch:=omega) only [if_pos,if_neg])))
       refine⟨l.length-(i+1),by omega,hw,i+1,rfl,by omega,by simp [h0],by simp [h1],by simp [h5],by simp [P4],by simp [P3],by simp,?_⟩
       rw [FA,tJ,if_pos h,tN,if_pos h]
       simp
       apply ak.bS
       · apply uU.dR JP
         (·exact sA)
         (·first|exact pA|exact kA)
       (·first|exact pA|exact kA)
     · repeat' (first
     | (with_reducible apply Po;(·first|(simp;done)|(simp;rfl));(·first|(simp;done)|(simp;rfl));(·exact wA);(·exact sA);(·first|exact pA|exact kA);(·first|exact AW.cW _ _|((repeat' (first|apply ap.z|apply ap.s));done)|(simp [hq];(repeat' (first|rfl|refine⟨rfl,?_⟩));done)|(simp;done)|(simp;rfl)|(simp [hq];done)|(simp [hq];rfl));(·first|omega|(simp;omega));(·intro _ _;trivial);rintro _ _ _ hS hw _;(try dsimp only [AW.bq] at hS);have hq:=ut hS hw)
     | (refine jx fun R hR=>?_;simp [aw,az,h0,h1,h5,P4,P3,V2,hq,dG,eT,bA,h,dO,fG,mf,AW.aa,ah];try simp (disch:=omega) only [if_pos,if_neg,aw,az])
     | (refine hR _ _ ?_;clear hR R)|(refine hK _ _ ?_;clear hK K)|refine nx ?_
     | refine wn fun K hK=>?_
     | simp only [wS,rE]
     | refine wl Tryz.mx rE (by decide +kernel) fun K hK=>?_
     | (refine bT (i8 _) ?_;rintro _ _ ⟨rfl,rfl⟩ _ _)
     | (refine bT (uh _ _ _) ?_;rintro _ _ ⟨rfl,rfl⟩ _ _)
     | refine wb ?_|refine wr ?_|refine wk ?_|refine we ?_|refine ws ?_|refine wq ?_
     | (refine wc rfl (fun hc=>?_) (fun hc=>?_)<;>(try simp at hc)<;>(try omega))
     | (refine ib (fun hc=>?_) (fun hc=>?_)<;>(try omega)<;>(try simp (disch:=omega) only [if_pos,if_neg])))
       simp only [List.length_map] at hS
       refine⟨l.length-(i+1),by omega,?_,i+1,rfl,by omega,by simp [h0],by simp [h1],by simp [h5],by simp [P4],by simp [P3],by simp,?_⟩
       · exact wA
       · rw [FA,tJ,if_neg h,tN,if_neg h]
         simp
         apply ak.bS
         · apply uU.Uo JP
           (·exact sA)
           (·first|exact pA|exact kA)
           (·first|exact pA|exact kA)
           (·first|exact pA|exact kA)
           (·first|exact pA|exact kA)
         (·first|exact pA|exact kA)
   · have GQ:i=l.length:=by omega
     subst GQ
     rw [List.take_length] at hS JP
     obtain⟨o6,c6,h6,_⟩:=(ak.wF hS (.s (.s (.s .z)))).dJ
     rw [h6] at hS
     have hq:=ut hS hw
     revert hq hS hw;(repeat first|clear hq|clear hS|clear hw|revert hc|revert zn|revert zA|revert R|revert K);refine W (J1 (od rE)) (J9 h0 h1 h5 h6 P4 P3 V2 @AW.aa @ah.eq_1) (J1 ?_)<;>unhygienic intros
     refine⟨_,by first|rfl|(simp [h5];rfl),?_⟩
     apply sB
     (·first|rfl|(simp;done))
     apply ak.bS
     · apply ml.dR
       · apply uU.dR JP
         (·exact sA)
         (·first|exact pA|exact kA)
       (·first|exact pA|exact kA)
     (·first|exact pA|exact kA)
theorem Ik (p:Nat) (o:Option Addr) (n c:Nat) (A:AW) (hg:A.bR p=some (.cells [.slice o n c] true 1)):eF 103 [pv p] A (.bool (decide (n=0))):=by
 refine ab Tryz.func103 rfl (by kernel_rfl) fun _=>?_
 refine W trivial (J2 hg @AW.aa) (J1 ?_)<;>unhygienic intros
 exact⟨_,by first|rfl|(simp;rfl),by simp,rfl⟩
theorem Fb (p:Nat) (l:List fm):aY Tryz.prog 103 [pv p] [.h (uU p l)] (fun v=>v=.bool (decide (l.length=0))) (fun _=>[.h (uU p l)]):=by
 intro A F hw hS
 obtain⟨vl,q,JP,hS⟩:=uU.open hS .z
 dsimp only [ND,af,ag] at hS
 obtain⟨o,c,rfl,_⟩:=(ak.wF hS (.s .z)).dJ
 have QU:q.length=l.length:=by rw [←JP,List.length_map]
 refine(Ik p o _ c A (hS.g 0 rfl)).mono ?_
 rintro _ _ ⟨rfl,rfl⟩
 exact⟨by simp [QU],uU.dR JP hS (.s .z (.s .z (.s .z .z)))⟩
theorem Fa (p pb:Nat) (x:fm) (l:List fm) (M:Mm) (hl:l.length<2^29) :
 aY Tryz.prog 101 [pv p,pv pb] [.h (uU p (x::l)),dx pb M] (fun v=>v=(tq (x::l) M).1.v) (fun _=>[.h (uU p (tq (x::l) M).2.1),dx pb (tq (x::l) M).2.2]):=by
 intro A F hw cY
 refine ab Tryz.func101 rfl (by kernel_rfl) fun _=>?_
 dsimp only [af,ag] at cY
 obtain⟨vl,q,JP,hS⟩:=uU.open cY .z
 clear cY
 dsimp only [ND,af,ag] at hS
 cases q with
 | nil=>cases JP
 | cons y q=>
   obtain⟨n,x'⟩:=y
   obtain⟨h1,U9⟩:=List.cons.inj JP
   clear JP
   dsimp only at h1
   subst h1
   rw [List.map_cons] at hS
   dsimp only at hS
   have ij:=ak.Rl hS (.s (.s .z))
   clear hS
   obtain⟨bb,off,c,cK,rfl,TU,DO,dG,hS,i8⟩:=ak.MP ij (.s (.s (.s .z)))
   clear ij
   have hd:=fun A hg=>Ik p (some ⟨bb,off,none⟩) ((q.map Prod.fst).length+1) c A hg
   rw [decide_eq_false (by omega)] at hd
   have Y7:(q.map Prod.fst).length=l.length:=by rw [←U9,List.length_map,List.length_map]
   rw [Y7] at hS hd i8 TU DO
   have hc3:off<cK.length:=by omega
   have e1:(1:Int)≤(l.length:Int)+1:=by omega
   have e0:(0:Int)<(l.length:Int)+1:=by omega
   have TH:=fun A hg=>sl n (dP x' M).2.1 A hg
   have VJ:=fun A' L' K' h1 h2=>(i8 A' L' K' h1 h2).1
   have VI:=fun A' L' K' h1 h2=>(i8 A' L' K' h1 h2).2
   unfold tq
   have hq:=ut hS hw
   by_cases h:(dP x' M).2.1.bX=3
   · rw [decide_eq_true h] at TH
     revert hq hS hw;refine W (J3 (Tg.mk (n:=10) (fun {A L K k}=>ka (A:=A) (L:=L) (K:=K) (k:=k) hd)) (Tg.mk (n:=10) (fun {A L K k}=>ka (A:=A) (L:=L) (K:=K) (k:=k) TH)) (oB n pb x' M)) (w8 dG TU e1 e0 @tu.eq_1 @d8.eq_1 @AW.aa @ah.eq_1 @bj.eq_1 @ba.v.eq_1) (J1 ?_)<;>unhygienic intros
     refine⟨_,by first|rfl|(simp [hq,AW.aa,ah];rfl),by first|rfl|(simp [ba.v];done),?_⟩
     rw [if_pos h]
     apply ak.bS
     · apply uU.dR U9
       · apply VI
         (·exact sA)
         (·first|exact pA|exact kA)
       dsimp only [ND]
       (·first|exact pA|exact kA)
     (·first|exact pA|exact kA)
   · rw [decide_eq_false h] at TH
     revert hq hS hw;(repeat first|clear hq|clear hS|clear hw|revert hc|revert zn|revert zA|revert R|revert K);refine W (J3 (Tg.mk (n:=10) (fun {A L K k}=>ka (A:=A) (L:=L) (K:=K) (k:=k) hd)) (Tg.mk (n:=10) (fun {A L K k}=>ka (A:=A) (L:=L) (K:=K) (k:=k) TH)) (oB n pb x' M)) (w8 dG TU e1 e0 @tu.eq_1 @d8.eq_1 @AW.aa @ah.eq_1 @bj.eq_1 @ba.v.eq_1) (J1 ?_)<;>unhygienic intros
     refine⟨_,by first|rfl|(simp [hq,AW.aa,ah];rfl),by first|rfl|(simp [ba.v];done),?_⟩
     rw [if_neg h]
     apply ak.bS
     · apply uU.dR (q:=(n,(dP x' M).2.1)::q) (by rw [List.map_cons,U9])
       · apply ak.Rm (n:=n) (p:=(dP x' M).2.1) (q:=q)
         · apply VJ
           (·exact sA)
           (·first|exact pA|exact kA)
         (·first|exact pA|exact kA)
         (·first|exact pA|exact kA)
       dsimp only [ND,List.map_cons]
       (·first|exact pA|exact kA)
     (·first|exact pA|exact kA)
end
section
abbrev kF:List (Nat×Nat):=[(0,0),(1,0),(2,0),(3,0),(4,0),(5,0),(6,0),(7,0),(8,3)]
abbrev kE:List (Nat×Nat):=[(0,0),(1,0),(2,0),(3,0),(4,0),(5,0),(6,0),(7,0),(8,0),(9,0),(10,0),(11,3)]
abbrev kD:List (Nat×Nat):=[(0,0),(1,0),(2,0),(3,0),(4,0),(5,0),(6,0),(7,0),(8,0),(9,0),(10,0),(11,0),(12,0),(13,0),(14,0),(15,0),(16,0),(21,0),(17,2),(18,0),(19,0),(20,0),(22,0),(23,3)]
abbrev kC:List (Nat×Nat):=[(0,0),(1,0),(2,0),(3,0),(4,0),(5,0),(6,0)]
open T6
variable [Gl]
theorem GF {i:cz} (h:dL i=0) (ho:i.op=4∨i.op=5∨i.op=6):0≤i.cQ∧i.cQ≤64:=by
 unfold dL at h
 split at h
 · cases h
 · split at h
   · rename_i h1
     simp only [Bool.and_eq_true,fQ] at h1
     obtain⟨_,h5⟩:=h1
     rw [if_neg (by omega),if_neg (by omega),if_pos ho] at h5
     simpa using h5
   · cases h
class AF where
 ok:Int→Prop
section
variable [AF]
def zE (fn:Int):Prop:=AF.ok fn
def DB (fF:Int→Int→Int→Int):Prop:=∀fn x y:Int,zE fn→∀A,eF 185 [.int .i64 fn,.int .u64 x,.int .u64 y] A (.tuple #[.int .u64 (fF fn x y),.int .i64 0])
def JH (l:List cz):Prop:=∀i∈l,i.op=3→zE i.cQ
theorem ZW {fF:Int→Int→Int→Int} (hA:DB fF) (fn x y:Int) (h:zE fn) {A:AW} {k:Value→AW→Prop} (hk:k (.tuple #[.int .u64 (fF fn x y),.int .i64 0]) A):aC Tryz.prog 185 [.int .i64 fn,.int .u64 x,.int .u64 y] A k:=by
 refine bT (hA fn x y h A) ?_
 rintro _ _ ⟨rfl,rfl⟩ _ _
 exact hk
theorem yM {fF:Int→Int→Int→Int} (hA:DB fF) (b:Nat) (t:be) (va vs vf vd vl vo:Value) (o:Option Addr) (cc:Nat) (i:cz) (mg:(0≤i.op∧i.op≤6)∨i.op=17) (hi:dL i=0) (rX:i.op=3→zE i.cQ) (ki:0≤t.pc∧t.pc<2^40) :
 aY Tryz.prog 119 [pv b,iC i] [.at b (nM t.d ⟨va,vs,vf,vd,.slice o t.ay.length cc,vl,vo⟩)] (fun _=>True) (fun _=>[.at b (nM (t.gZ fF i).d ⟨va,vs,vf,vd,.slice o t.ay.length cc,vl,vo⟩)]):=by
 obtain⟨r1,r2,r3,_⟩:=kw hi
 have iV:IntKind.i64.wrap (t.d.pc+1)=t.d.pc+1:=aw (by show -9223372036854775808≤t.pc+1;omega) (by show t.pc+1≤9223372036854775807;omega)
 have ho:i.op=0∨i.op=1∨i.op=2∨i.op=3∨i.op=4∨i.op=5∨i.op=6∨i.op=17:=by omega
 have Mu:=fun(d:vZ) pc=>sR b d va vs vf vd vl vo o t.ay.length cc pc
 unfold iC
 rcases ho with h|h|h|h|h|h|h|h
 · have e:t.gZ fF i=t.to (t.pc+1):=by
    unfold be.gZ
    rw [if_neg (by omega),if_neg (by omega),if_neg (by omega),if_neg (by omega),if_neg (by omega),Int.add_zero]
   rw [e]
   intro A F hw hS
   refine ab Tryz.func119 rfl (by kernel_rfl) fun _=>?_
   dsimp only [af,ag] at hS
   have hq:=eD hS hw
   revert hq hS hw;refine W (J5 (od kF) (od kE) (od kD) (od kC) (Mu t.d (t.d.pc+1))) (J4 h iV @AW.aa @ah.eq_1) (J1 ?_)<;>unhygienic intros
   refine⟨_,by first|rfl|(simp;rfl),by first|trivial|rfl|(simp;done),?_⟩
   apply ak.bS
   (·exact sA)
   (·first|exact pA|exact kA)
 · have ha:=r1 (by rw [h];rfl)
   have xC:=fun x=>sS (d:=t.d) (w:=⟨va,vs,vf,vd,.slice o t.ay.length cc,vl,vo⟩) (x:=x) ha
   have e:t.gZ fF i=(t.ez i.a (IntKind.u64.wrap i.cQ)).to (t.pc+1):=by
    unfold be.gZ
    rw [if_pos h,if_neg (by omega),Int.add_zero]
   rw [e]
   intro A F hw hS
   refine ab Tryz.func119 rfl (by kernel_rfl) fun _=>?_
   dsimp only [af,ag] at hS
   have hq:=eD hS hw
   revert hq hS hw;(repeat first|clear hq|clear hS|clear hw|revert hc|revert zn|revert zA|revert R|revert K);refine W (J5 (od kF) (od kE) (od kD) (od kC) (Mu { t.d with dC:=t.d.dC.set i.a (IntKind.u64.wrap i.cQ) } (t.d.pc+1))) (J7 h iV xC ha.1 ha.2 @AW.aa @ah.eq_1) (J1 ?_)<;>unhygienic intros
   refine⟨_,by first|rfl|(simp;rfl),by first|trivial|rfl|(simp;done),?_⟩
   apply ak.bS
   (·exact sA)
   (·first|exact pA|exact kA)
 · have ha:=r1 (by rw [h];rfl)
   have hb:=r2 (by rw [h];rfl)
   have xC:=fun x=>sS (d:=t.d) (w:=⟨va,vs,vf,vd,.slice o t.ay.length cc,vl,vo⟩) (x:=x) ha
   have rW:=mU (d:=t.d) (w:=⟨va,vs,vf,vd,.slice o t.ay.length cc,vl,vo⟩) hb
   have e:t.gZ fF i=(t.ez i.a (t.dC.bR i.b)).to (t.pc+1):=by
    unfold be.gZ
    rw [if_neg (by omega),if_pos h,if_neg (by omega),Int.add_zero]
   rw [e]
   intro A F hw hS
   refine ab Tryz.func119 rfl (by kernel_rfl) fun _=>?_
   dsimp only [af,ag] at hS
   have hq:=eD hS hw
   revert hq hS hw;(repeat first|clear hq|clear hS|clear hw|revert hc|revert zn|revert zA|revert R|revert K);refine W (J5 (od kF) (od kE) (od kD) (od kC) (Mu { t.d with dC:=t.d.dC.set i.a (t.d.dC.bR i.b) } (t.d.pc+1))) (w8 h iV xC rW ha.1 ha.2 hb.1 hb.2 @AW.aa @ah.eq_1) (J1 ?_)<;>unhygienic intros
   refine⟨_,by first|rfl|(simp;rfl),by first|trivial|rfl|(simp;done),?_⟩
   apply ak.bS
   (·exact sA)
   (·first|exact pA|exact kA)
 · have ha:=r1 (by rw [h];rfl)
   have hb:=r2 (by rw [h];rfl)
   have OE:=r3 (by rw [h];rfl)
   have xC:=fun x=>sS (d:=t.d) (w:=⟨va,vs,vf,vd,.slice o t.ay.length cc,vl,vo⟩) (x:=x) ha
   have rW:=mU (d:=t.d) (w:=⟨va,vs,vf,vd,.slice o t.ay.length cc,vl,vo⟩) hb
   have Vu:=mU (d:=t.d) (w:=⟨va,vs,vf,vd,.slice o t.ay.length cc,vl,vo⟩) OE
   have e:t.gZ fF i=(t.ez i.a (fF i.cQ (t.dC.bR i.b) (t.dC.bR i.c))).to (t.pc+1):=by
    unfold be.gZ
    rw [if_neg (by omega),if_neg (by omega),if_pos h,if_neg (by omega),Int.add_zero]
   have Q0:=rX h
   rw [e]
   intro A F hw hS
   refine ab Tryz.func119 rfl (by kernel_rfl) fun _=>?_
   dsimp only [af,ag] at hS
   have hq:=eD hS hw
   repeat' (first
   | (refine jx fun R hR=>?_;simp [aw,az,hq,h,iV,xC,rW,Vu,ha.1,ha.2,hb.1,hb.2,OE.1,OE.2,AW.aa,ah];try simp (disch:=omega) only [if_pos,if_neg,aw,az])
   | (refine hR _ _ ?_;clear hR R)|(refine hK _ _ ?_;clear hK K)|refine nx ?_
   | refine wn fun K hK=>?_
   | simp only [wS,kF,kE,kD,kC]
   | refine wl Tryz.mx kF (by decide +kernel) fun K hK=>?_
   | refine wl Tryz.mx kE (by decide +kernel) fun K hK=>?_
   | refine wl Tryz.mx kD (by decide +kernel) fun K hK=>?_
   | refine wl Tryz.mx kC (by decide +kernel) fun K hK=>?_
   | (refine ZW hA _ _ _ Q0 ?_)
   | (apply aY.cA (Mu { t.d with dC:=t.d.dC.set i.a (fF i.cQ (t.d.dC.bR i.b) (t.d.dC.bR i.c)) } (t.d.pc+1));(·exact wA);(·exact sA);(·first|exact pA|exact kA);rintro _ _ _ hS hw _;have hS:=lA hS;have hq:=eD hS hw)
   | refine wb ?_|refine wr ?_|refine wk ?_|refine we ?_|refine ws ?_|refine wq ?_
   | (refine wc rfl (fun hc=>?_) (fun hc=>?_)<;>(try simp at hc)<;>(try omega))
   | (refine ib (fun hc=>?_) (fun hc=>?_)<;>(try omega)<;>(try simp (disch:=omega) only [if_pos,if_neg])))
   refine⟨_,by first|rfl|(simp;rfl),by first|trivial|rfl|(simp;done),?_⟩
   apply ak.bS
   (·exact sA)
   (·first|exact pA|exact kA)
 · have TO:=GF hi (.inl h)
   have kl:IntKind.i64.wrap (t.d.pc+1+i.cQ)=t.d.pc+1+i.cQ:=aw (by show -9223372036854775808≤t.pc+1+i.cQ;omega) (by show t.pc+1+i.cQ≤9223372036854775807;omega)
   have e:t.gZ fF i=t.to (t.pc+1+i.cQ):=by
    unfold be.gZ
    rw [if_neg (by omega),if_neg (by omega),if_neg (by omega),if_neg (by omega),if_pos (.inl h)]
   rw [e]
   intro A F hw hS
   refine ab Tryz.func119 rfl (by kernel_rfl) fun _=>?_
   dsimp only [af,ag] at hS
   have hq:=eD hS hw
   revert hq hS hw;(repeat first|clear hq|clear hS|clear hw|revert hc|revert zn|revert zA|revert R|revert K);refine W (J5 (od kF) (od kE) (od kD) (od kC) (Mu t.d (t.d.pc+1+i.cQ))) (J5 h iV kl @AW.aa @ah.eq_1) (J1 ?_)<;>unhygienic intros
   refine⟨_,by first|rfl|(simp;rfl),by first|trivial|rfl|(simp;done),?_⟩
   apply ak.bS
   (·exact sA)
   (·first|exact pA|exact kA)
 · have ha:=r1 (by rw [h];rfl)
   have rW:=mU (d:=t.d) (w:=⟨va,vs,vf,vd,.slice o t.ay.length cc,vl,vo⟩) ha
   have TO:=GF hi (.inr (.inl h))
   have kl:IntKind.i64.wrap (t.d.pc+1+i.cQ)=t.d.pc+1+i.cQ:=aw (by show -9223372036854775808≤t.pc+1+i.cQ;omega) (by show t.pc+1+i.cQ≤9223372036854775807;omega)
   by_cases hz:t.d.dC.bR i.a=0
   · have e:t.gZ fF i=t.to (t.pc+1+i.cQ):=by
      unfold be.gZ
      rw [if_neg (by omega),if_neg (by omega),if_neg (by omega),if_neg (by omega),if_pos (.inr (.inl ⟨h,hz⟩))]
     rw [e]
     intro A F hw hS
     refine ab Tryz.func119 rfl (by kernel_rfl) fun _=>?_
     dsimp only [af,ag] at hS
     have hq:=eD hS hw
     revert hq hS hw;(repeat first|clear hq|clear hS|clear hw|revert hc|revert zn|revert zA|revert R|revert K);refine W (J5 (od kF) (od kE) (od kD) (od kC) (Mu t.d (t.d.pc+1+i.cQ))) (J9 h iV kl rW hz ha.1 ha.2 @AW.aa @ah.eq_1) (J1 ?_)<;>unhygienic intros
     refine⟨_,by first|rfl|(simp;rfl),by first|trivial|rfl|(simp;done),?_⟩
     apply ak.bS
     (·exact sA)
     (·first|exact pA|exact kA)
   · have oG:¬t.dC.bR i.a=0:=hz
     have e:t.gZ fF i=t.to (t.pc+1):=by
      unfold be.gZ
      rw [if_neg (by omega),if_neg (by omega),if_neg (by omega),if_neg (by omega),if_neg (fun hh=>by rcases hh with hh|⟨_,hh⟩|⟨hh,_⟩<;>first|exact oG hh|omega),Int.add_zero]
     rw [e]
     intro A F hw hS
     refine ab Tryz.func119 rfl (by kernel_rfl) fun _=>?_
     dsimp only [af,ag] at hS
     have hq:=eD hS hw
     revert hq hS hw;(repeat first|clear hq|clear hS|clear hw|revert hc|revert zn|revert zA|revert R|revert K);refine W (J5 (od kF) (od kE) (od kD) (od kC) (Mu t.d (t.d.pc+1))) (J8 h iV rW hz ha.1 ha.2 @AW.aa @ah.eq_1) (J1 ?_)<;>unhygienic intros
     refine⟨_,by first|rfl|(simp;rfl),by first|trivial|rfl|(simp;done),?_⟩
     apply ak.bS
     (·exact sA)
     (·first|exact pA|exact kA)
 · have ha:=r1 (by rw [h];rfl)
   have rW:=mU (d:=t.d) (w:=⟨va,vs,vf,vd,.slice o t.ay.length cc,vl,vo⟩) ha
   have TO:=GF hi (.inr (.inr h))
   have kl:IntKind.i64.wrap (t.d.pc+1+i.cQ)=t.d.pc+1+i.cQ:=aw (by show -9223372036854775808≤t.pc+1+i.cQ;omega) (by show t.pc+1+i.cQ≤9223372036854775807;omega)
   by_cases hz:t.d.dC.bR i.a=0
   · have oG:t.dC.bR i.a=0:=hz
     have e:t.gZ fF i=t.to (t.pc+1):=by
      unfold be.gZ
      rw [if_neg (by omega),if_neg (by omega),if_neg (by omega),if_neg (by omega),if_neg (fun hh=>by rcases hh with hh|⟨hh,_⟩|⟨_,hh⟩<;>first|exact hh oG|omega),Int.add_zero]
     rw [e]
     intro A F hw hS
     refine ab Tryz.func119 rfl (by kernel_rfl) fun _=>?_
     dsimp only [af,ag] at hS
     have hq:=eD hS hw
     revert hq hS hw;(repeat first|clear hq|clear hS|clear hw|revert hc|revert zn|revert zA|revert R|revert K);refine W (J5 (od kF) (od kE) (od kD) (od kC) (Mu t.d (t.d.pc+1))) (J8 h iV rW hz ha.1 ha.2 @AW.aa @ah.eq_1) (J1 ?_)<;>unhygienic intros
     refine⟨_,by first|rfl|(simp;rfl),by first|trivial|rfl|(simp;done),?_⟩
     apply ak.bS
     (·exact sA)
     (·first|exact pA|exact kA)
   · have oG:t.dC.bR i.a≠0:=hz
     have e:t.gZ fF i=t.to (t.pc+1+i.cQ):=by
      unfold be.gZ
      rw [if_neg (by omega),if_neg (by omega),if_neg (by omega),if_neg (by omega),if_pos (.inr (.inr ⟨h,oG⟩))]
     rw [e]
     intro A F hw hS
     refine ab Tryz.func119 rfl (by kernel_rfl) fun _=>?_
     dsimp only [af,ag] at hS
     have hq:=eD hS hw
     revert hq hS hw;(repeat first|clear hq|clear hS|clear hw|revert hc|revert zn|revert zA|revert R|revert K);refine W (J5 (od kF) (od kE) (od kD) (od kC) (Mu t.d (t.d.pc+1+i.cQ))) (J9 h iV kl rW hz ha.1 ha.2 @AW.aa @ah.eq_1) (J1 ?_)<;>unhygienic intros
     refine⟨_,by first|rfl|(simp;rfl),by first|trivial|rfl|(simp;done),?_⟩
     apply ak.bS
     (·exact sA)
     (·first|exact pA|exact kA)
 · have ha:=r1 (by rw [h];rfl)
   have xC:=fun x=>sS (d:=t.d) (w:=⟨va,vs,vf,vd,.slice o t.ay.length cc,vl,vo⟩) (x:=x) ha
   have e:t.gZ fF i=(t.ez i.a (IntKind.u64.wrap t.iZ)).to (t.pc+1):=by
    unfold be.gZ
    rw [if_neg (by omega),if_neg (by omega),if_neg (by omega),if_pos h,if_neg (by omega),Int.add_zero]
   rw [e]
   intro A F hw hS
   refine ab Tryz.func119 rfl (by kernel_rfl) fun _=>?_
   dsimp only [af,ag] at hS
   have hq:=eD hS hw
   revert hq hS hw;(repeat first|clear hq|clear hS|clear hw|revert hc|revert zn|revert zA|revert R|revert K);refine W (J5 (od kF) (od kE) (od kD) (od kC) (Mu { t.d with dC:=t.d.dC.set i.a (IntKind.u64.wrap t.d.iZ) } (t.d.pc+1))) (J7 h iV xC ha.1 ha.2 @AW.aa @ah.eq_1) (J1 ?_)<;>unhygienic intros
   refine⟨_,by first|rfl|(simp;rfl),by first|trivial|rfl|(simp;done),?_⟩
   apply ak.bS
   (·exact sA)
   (·first|exact pA|exact kA)
end
structure OO where
 cr:Nat
 dQ:Nat
 iN:Nat
 ef:Nat
 vs:Value
 vo:Value
def fb:Option aT→Nat→Value|none,_=>.pointer none|some _,n=>pv n
def fa:Option il→Nat→Value|none,_=>.pointer none|some _,n=>pv n
def jF:Option (List fm)→Nat→Value|none,_=>.pointer none|some _,n=>pv n
def dv:Option aT→Nat→HP|none,_=>eG|some s,n=>bf n s
def du:Option il→Nat→HP|none,_=>eG|some f,n=>pt n (pq f)
def ff:Option (List fm)→Nat→HP|none,_=>eG|some l,n=>uU n l
structure ls where
 bb:Nat
 off:Nat
 ew:Nat
 cK:List Value
abbrev ls.o (k:ls):dK:=.cells k.cK true 5
structure CR (k:ls) (l:List cz):Prop where
 len:l.length≤k.ew
 le:k.off+l.length*5≤k.cK.length
 eq:l.flatMap aP=(k.cK.drop k.off).take (l.length*5)
theorem CR.is {k:ls} {l:List cz} (h:CR k l) {A:AW} (hg:A.bR k.bb=some k.o):lX A (.slice (some ⟨k.bb,k.off,none⟩) l.length k.ew) l:=
 .inr ⟨⟨k.bb,k.off,none⟩,k.ew,k.cK,true,5,rfl,h.len,hg,rfl,h.le,h.eq⟩
theorem CR.at {k:ls} {l:List cz} (h:CR k l) {i:Nat} (hi:i<l.length):k.off+i*5+5≤k.cK.length∧(k.cK.drop (k.off+i*5)).take 5=aP l[i]:=by
 have h1:=h.le
 refine⟨by omega,?_⟩
 rw [←yP l i hi,h.eq,←List.drop_drop,List.drop_take,List.take_take]
 congr 1
 omega
theorem L2 {A:AW} {L K:List It} {v:Value} {l:List cz} (h:ak A L) (hp:ap L (.h (BR v l)) K) (hl:0<l.length) :
 ∃k,v=.slice (some ⟨k.bb,k.off,none⟩) l.length k.ew∧CR k l∧ak A (.at k.bb k.o::K):=by
 unfold ak at h
 rw [hp.aR] at h
 rcases d9.cases h with ⟨_,h0,_⟩|⟨b,off,c,cK,rfl,h1,h2,h3,h4⟩
 · omega
 · exact⟨⟨b,off,c,cK⟩,rfl,⟨h1,h2,h3⟩,h4⟩
theorem Jw {k:ls} {l:List cz} (hR:CR k l) {A:AW} {L K:List It} (h:ak A L) (hp:ap L (.at k.bb k.o) K):ak A (.h (BR (.slice (some ⟨k.bb,k.off,none⟩) l.length k.ew) l)::K):=by
 unfold ak at h
 rw [hp.aR] at h
 exact d9.mk hR.len hR.le hR.eq h
def gC (q:ls) (b:Nat) (t:be) (f:OO):List It:=[.at b (nM t.d ⟨fb t.iE f.cr,f.vs,fa t.dA f.dQ,jF t.dt f.iN,.slice (some ⟨q.bb,q.off,none⟩) t.ay.length q.ew,pv f.ef,f.vo⟩),.h (dv t.iE f.cr),.h (hZ f.vs t.dY),.h (du t.dA f.dQ),.h (ff t.dt f.iN),
 .at q.bb q.o,.h (ml f.ef t.cf t.fu),.h (hZ f.vo t.fV)]
def fx (q:ls) (b:Nat) (t:be):HP:=nI fun f:OO=>aR (gC q b t f)
theorem fx.open {A:AW} {L K:List It} {q:ls} {b:Nat} {t:be} (h:ak A L) (hp:ap L (.h (fx q b t)) K):∃f,ak A (gC q b t f++K):=jE h hp
theorem fx.dR {A:AW} {L K:List It} {q:ls} {b:Nat} {t:be} {cr dQ iN ef:Nat} {vs vo:Value} (h:ak A L) (e:aD L (gC q b t ⟨cr,dQ,iN,ef,vs,vo⟩) K):ak A (.h (fx q b t)::K):=ii ⟨cr,dQ,iN,ef,vs,vo⟩ h e
theorem fx.bS {A:AW} {L K G K2:List It} {q:ls} {b:Nat} {t:be} {cr dQ iN ef:Nat} {vs vo:Value} (h:ak A L) (e:aD L (gC q b t ⟨cr,dQ,iN,ef,vs,vo⟩) K) (e2:aD K G K2):ak A (.h (fx q b t)::G):=ak.bS (fx.dR h e) (.s .z e2)
theorem aY.O4 {P:Program} {f:FuncId} {args:List Value} {q:ls} {b:Nat} {t:be} {nG:List It} {φ:Value→Prop} {post:Value→List It} (hc:aY P f args (.h (fx q b t)::nG) φ post) {cr dQ iN ef:Nat} {vs vo:Value} {A:AW} {L K K0:List It} {k:Value→AW→Prop} (hw:A.Wf) (hS:ak A L)
 (e:aD L (gC q b t ⟨cr,dQ,iN,ef,vs,vo⟩) K0) (e2:aD K0 nG K) (hk:∀v A',φ v→ak A' (post v++K)→A'.Wf→A.next≤A'.next→k v A'):aC P f args A k:=
 aY.cA hc hw (fx.dR hS e) (.s .z e2) hk
theorem ct.O4 {ι:Type} {P:Program} {f:FuncId} {args:List Value} {q:ls} {b:Nat} {t:be} {nG:List It} {φ:ι→Value→Prop} {post:ι→List It} (hc:ct P f args (.h (fx q b t)::nG) φ post) {cr dQ iN ef:Nat} {vs vo:Value} {A:AW} {L K K0:List It} {k:Value→AW→Prop} (hw:A.Wf) (hS:ak A L)
 (e:aD L (gC q b t ⟨cr,dQ,iN,ef,vs,vo⟩) K0) (e2:aD K0 nG K) (hk:∀x v A',φ x v→ak A' (post x++K)→A'.Wf→A.next≤A'.next→k v A'):aC P f args A k:=
 ct.cA hc hw (fx.dR hS e) (.s .z e2) hk
theorem fT {L G K:List It} (h':aD L G K:=by first|(((try simp only [da,de,et]);dsimp only [gC,be.qM,be.d,dv,fb,du,fa,ff,jF,af,ag];(try simp only [da,de,et]);(try dsimp only [dv,fb,du,fa,ff,jF]));(repeat' (first|apply aD.z|apply aD.s|apply ap.z|apply ap.pt|apply ap.s));done)|fail):aD L G K:=h'
end
end Go.Stx
