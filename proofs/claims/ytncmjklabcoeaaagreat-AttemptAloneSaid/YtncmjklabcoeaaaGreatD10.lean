/-
 The program's machine that checks, and what it needs of slices as items.
-/
import Derived.Test.YtncmjklabcoeaaaGreatD09
import Derived.Test.YtncmjklabcoeaaaGreatD07
import Derived.Test.YtncmjklabcoeaaaGreatD08
set_option linter.unusedVariables false
set_option linter.unusedSimpArgs false
set_option maxRecDepth 20000
set_option maxHeartbeats 4000000
namespace Go.Stx
open Go Go.Proofs
attribute [local irreducible] fj cm aH bB dK ei
section
abbrev FC:List (Nat×Nat):=[(0,0),(1,0),(2,0),(4,0),(5,0),(6,0),(7,0),(3,2),(8,0),(9,0),(10,0),(11,3)]
open T3
theorem an.dp {A:AW} {L K:List It} (h:an A L) (e:aX L K []):an A K:=by
 unfold an at *
 rw [e.bn] at h
 exact h.left
theorem an.IW {A:AW} {L K:List It} {x:It} (h:an A L) (e:ay L x K):an A (x::K):=by
 unfold an at *
 rw [e.bn] at h
 exact h
theorem an.Rb {A:AW} {L K:List It} {k:IntKind} {v:Value} {x:Int} {l:List Int} (h:an A L) (hp:ay L (.h (ar k v (x::l))) K) :
 ∃b off c dh,v=.slice (some ⟨b,off,none⟩) (l.length+1) c∧l.length+1≤c∧off+(l.length+1)≤dh.length∧dh[off]? = some (.int k x)∧
  (∀A' K',an A' (.at b (.cells dh true 1)::K')→an A' (.h (ar k (.slice (some ⟨b,off+1,none⟩) l.length (c-1)) l)::K'))∧
  (∀A' K',an A' (.at b (.cells dh true 1)::K')→an A' (.h (ar k v (x::l))::K'))∧an A (.at b (.cells dh true 1)::K):=by
 have h1:bK A (ar k v (x::l)*bn K):=by
  have h0:=h
  unfold an at h0
  rw [hp.bn] at h0
  exact h0
 rcases jo.cases h1 with ⟨_,h0,_⟩|⟨b,off,c,dh,rfl,h2,h3,h4,h5⟩
 · simp at h0
 · simp only [List.length_cons,Nat.mul_one] at h2 h3 h4
   have h6:=h4
   rw [List.drop_eq_getElem_cons (by omega),List.map_cons,List.take_succ_cons] at h6
   have h7:=List.cons.inj h6
   refine⟨b,off,c,dh,rfl,h2,h3,?_,fun A' K' hh=>?_,fun A' K' hh=>?_,h5⟩
   · rw [List.getElem?_eq_getElem (by omega),←h7.1]
   · exact ar.mk rfl (by omega) (by omega) h7.2 hh
   · exact ar.mk (by simp) (by simpa using h2) (by simpa using h3) (by simpa using h4) hh
def iV (b:Nat) (s:ft):HP:=rt fun v:Value=>pt b (.cells [v,.int .i64 s.rv,.bool s.ii] true 1)*ar .i64 v s.aj
theorem iV.open {A:AW} {L K:List It} {b:Nat} {s:ft} (h:an A L) (hp:ay L (.h (iV b s)) K) :
 ∃v,an A (.at b (.cells [v,.int .i64 s.rv,.bool s.ii] true 1)::.h (ar .i64 v s.aj)::K):=by
 unfold an at h
 rw [hp.bn] at h
 have h1:bK A (iV b s*bn K):=h
 unfold iV at h1
 rw [bK.ex] at h1
 obtain⟨v,h2⟩:=h1
 exact⟨v,h2.dp (by show _=pt b _*(ar .i64 v s.aj*bn K);rw [HP.cq])⟩
theorem iV.eh {A:AW} {L K:List It} {b:Nat} {s:ft} {v:Value} (h:an A L) (hp:aX L [.at b (.cells [v,.int .i64 s.rv,.bool s.ii] true 1),.h (ar .i64 v s.aj)] K):an A (.h (iV b s)::K):=by
 unfold an at h
 rw [hp.bn] at h
 show bK A (iV b s*bn K)
 unfold iV
 rw [bK.ex]
 exact⟨v,h.dp (by show pt b _*(ar .i64 v s.aj*fa)*bn K=_;rw [dx])⟩
theorem an.gM {A:AW} {L K:List It} {k:IntKind} {v:Value} {l:List Int} (h:an A L) (hp:ay L (.h (ar k v l)) K):cF A k v l:=by
 unfold an at h
 rw [hp.bn] at h
 exact ar.is h
theorem oJ (b:Nat) (o:Option Addr) (n c:Nat) (rv:Int) (f:Bool) (A:AW) (hg:A.cy b=some (.cells [.slice o n c,.int .i64 rv,.bool f] true 1)) :
 eF 144 [.pointer (some ⟨b,0,none⟩)] A (.bool (f || decide (n=0))):=by
 refine ab Tryz.func144 rfl (by kernel_rfl) fun _=>?_
 cases f
 all_goals(refine W trivial (J2 hg @AW.aa) (J1 ?_)<;>unhygienic intros)
 all_goals exact⟨_,rfl,by simp;try omega,rfl⟩
theorem Aa (b pb:Nat) (s:ft) (M:Mm) :
 aP Tryz.prog 145 [.pointer (some ⟨b,0,none⟩),.pointer (some ⟨pb,0,none⟩)] [.h (iV b s),eb pb M]
  (fun v=>v=(eR s M).1.v) (fun _=>[.h (iV b (eR s M).2.1),eb pb (eR s M).2.2]):=by
 intro A F hw l9
 refine ab Tryz.func145 rfl (by kernel_rfl) fun _=>?_
 obtain⟨vo,hS⟩:=iV.open l9 .z
 obtain⟨oo,co,rfl,_⟩:=(an.gM hS (.s .z)).cL
 obtain⟨os,rv,ii⟩:=s
 by_cases hd:(ii || decide (os.length=0))=true
 · have hq:=Z4 hS hw
   have mf:∀A',A'.cy b=some (.cells [.slice oo os.length co,.int .i64 rv,.bool ii] true 1)→eF 144 [.pointer (some ⟨b,0,none⟩)] A' (.bool true):=fun A' h=>by
    have:=oJ b oo os.length co rv ii A' h
    rwa [hd] at this
   have e:eR ⟨os,rv,ii⟩ M=(bq.zero,⟨os,rv,ii⟩,M):=if_pos hd
   revert hq hS hw;refine W (J2 (od FC) @mf) (J5 hd @AW.aa @af.eq_1 @aS.eq_1 @bq.v.eq_1) (J1 ?_)<;>unhygienic intros
   rw [e]
   refine⟨_,by simp [hq,AW.aa,af];rfl,by simp [bq.v,bq.zero],?_⟩
   apply an.cC
   · apply iV.eh (b:=b) (s:=⟨os,rv,ii⟩) (v:=.slice oo os.length co)
     (·exact sA)
     (·repeat' (first|apply aX.z|apply aX.s|apply ay.z|(apply ay.Au;simp;done)|apply ay.s))
   (·repeat' (first|apply aX.z|apply aX.s|apply ay.z|(apply ay.Au;simp;done)|apply ay.s))
 · obtain⟨hf,hn⟩:ii=false∧¬os.length=0:=by simpa using hd
   subst hf
   cases os with
   | nil=>simp at hn
   | cons o os=>
   obtain⟨bo,off,c,dh,hv,UF,BG,eH,Rt,Qw,hS⟩:=an.Rb hS (.s .z)
   injection hv with vN Kl EJ
   subst vN;subst EJ
   have mf:∀A',A'.cy b=some (.cells [.slice (some ⟨bo,off,none⟩) (os.length+1) co,.int .i64 rv,.bool false] true 1)→eF 144 [.pointer (some ⟨b,0,none⟩)] A' (.bool false):=fun A' h=>oJ b _ _ co rv false A' h
   have e:eR ⟨o::os,rv,false⟩ M=(gX M 2 o,⟨os,rv,decide (rv<ge (gX M 2 o).fI)⟩,M):=if_neg hd
   have hq:=Z4 hS hw
   revert hq hS hw;(repeat first|clear hq|clear hS|clear hw|revert hc|revert zn|revert zA|revert R|revert K);refine W (J4 (od FC) @mf @th (Pg pb)) (J6 eH @eB.eq_1 @AW.aa @af.eq_1 @aS.eq_1 @bq.v.eq_1) (J1 ?_)<;>unhygienic intros
   rw [e]
   refine⟨_,by simp [hq,AW.aa,af];rfl,by simp [bq.v,bq.zero],?_⟩
   apply an.cC
   · apply iV.eh (b:=b) (s:=⟨os,rv,decide (rv<ge (gX M 2 o).fI)⟩) (v:=.slice (some ⟨bo,off+1,none⟩) os.length (co-1))
     · apply Rt
       apply an.IW
       (·exact sA)
       (·repeat' (first|apply aX.z|apply aX.s|apply ay.z|(apply ay.Au;simp;done)|apply ay.s))
     (·repeat' (first|apply aX.z|apply aX.s|apply ay.z|(apply ay.Au;simp;done)|apply ay.s))
   (·repeat' (first|apply aX.z|apply aX.s|apply ay.z|(apply ay.Au;simp;done)|apply ay.s))
end
section
open T9
def gZ (a:bq):Int:=if a.cell=8 then 9 else if a.eV=3 then 10 else 8
def gu (a:bq):Int:=if a.cell=8 then 22 else if a.eV=3 then 23 else 21
theorem Fu (a:bq) (A:AW) (hw:A.Wf):aH Tryz.prog 136 [a.v] A (fun v A'=>v=.int .i64 (gZ a)∧A.le A'):=by
 refine ab Tryz.func136 rfl (by kernel_rfl) fun _=>?_
 by_cases h1:a.cell=8<;>by_cases h2:a.eV=3
 all_goals(revert hw;refine W trivial (J5 h1 h2 @AW.aa @af.eq_1 @bq.v.eq_1) (J1 ?_)<;>unhygienic intros)
 all_goals exact⟨_,rfl,by simp [gZ,h1,h2],AW.le.alloc _ _⟩
theorem Do (a:bq) (A:AW) (hw:A.Wf):aH Tryz.prog 164 [a.v] A (fun v A'=>v=.int .i64 (gu a)∧A.le A'):=by
 refine ab Tryz.func164 rfl (by kernel_rfl) fun _=>?_
 by_cases h1:a.cell=8<;>by_cases h2:a.eV=3
 all_goals(revert hw;refine W trivial (J5 h1 h2 @AW.aa @af.eq_1 @bq.v.eq_1) (J1 ?_)<;>unhygienic intros)
 all_goals exact⟨_,rfl,by simp [gu,h1,h2],AW.le.alloc _ _⟩
theorem HH (v:Value) (l:List Int) (x:Int) (A:AW) (h:cF A .i64 v l) (hl:l.length<2^62) :
 aH Tryz.prog 221 [v,.int .i64 x] A (fun u A'=>(∃r:Int,u=.int .i64 r∧(0≤r↔x∈l))∧A=A'):=by
 refine ab Tryz.func221 rfl (by kernel_rfl) fun _=>?_
 obtain⟨o,c,rfl,_⟩:=h.cL
 refine W trivial trivial (J1 ?_)<;>unhygienic intros
 refine ed (fun k fr A'=>A=A'∧∃i:Nat,k=l.length-i∧i≤l.length∧fr 0=.slice o l.length c∧fr 1=.int .i64 x∧fr 7=.int .i64 l.length∧fr 8=.int .i64 i∧∀j,j<i→l[j]?≠some x) l.length ?_ ?_
 · refine⟨rfl,0,by simp,by simp,rfl,rfl,rfl,rfl,by simp⟩
 · rintro k fr A' ⟨rfl,i,rfl,hi,h0,h1,h7,h8,hj⟩
   by_cases dQ:i<l.length
   · obtain⟨p,dh,rfl,eH,dg⟩:=h.at dQ
     have mc:IntKind.i64.wrap ((i:Int)+1)=((i+1:Nat):Int):=ak (by omega) (by omega)
     refine eW ?_
     (repeat first|revert hc|revert zn|revert zA|revert R|revert K);refine W trivial (J8 h0 h1 h7 h8 eH dg dQ mc) (J2 ?_ ?_)<;>unhygienic intros
     · refine⟨_,rfl,⟨(i:Int),by simp,?_⟩,rfl⟩
       have hx:l[i]=x:=by simp_all
       exact⟨fun _=>hx▸List.getElem_mem dQ,fun _=>by omega⟩
     · refine⟨l.length-(i+1),by omega,rfl,i+1,rfl,by omega,?_,?_,?_,?_,?_⟩
       · simp [h0]
       · simp [h1]
       · simp [h7]
       · simp
       · intro j i9
         by_cases e:j=i
         · subst e
           rw [List.getElem?_eq_getElem dQ]
           intro e2
           injection e2 with e2
           simp_all
         · exact hj j (by omega)
   · refine eW ?_
     (repeat first|revert hc|revert zn|revert zA|revert R|revert K);refine W trivial (J5 h0 h1 h7 h8 dQ) (J1 ?_)<;>unhygienic intros
     refine⟨_,rfl,⟨-1,by simp,?_⟩,rfl⟩
     refine⟨fun h=>by omega,fun hm=>?_⟩
     obtain⟨j,vT,Gc⟩:=List.getElem_of_mem hm
     exact absurd (by rw [List.getElem?_eq_getElem vT,Gc]) (hj j (by omega))
theorem tv (v:Value) (l:List Int) (x:Int) (A:AW) (h:cF A .i64 v l) (hl:l.length<2^62) :
 eF 130 [v,.int .i64 x] A (.bool (decide (x∈l))):=by
 refine ab Tryz.func130 rfl (by kernel_rfl) fun _=>?_
 repeat' (first
 | (refine il fun R hR=>?_;simp [ak,au];try simp (disch:=omega) only [if_pos,if_neg,ak,au])
 | (refine hR _ _ ?_;clear hR R)|(refine hK _ _ ?_;clear hK K)|refine nx ?_
 | refine wn fun K hK=>?_
 | simp only [wS]
 | (refine bD (HH v l x _ h hl) ?_<;>rintro _ _ ⟨⟨r,rfl,hr⟩,rfl⟩ _ _)
 | refine wb ?_|refine wr ?_|refine wk ?_|refine we ?_|refine ws ?_|refine wq ?_
 | (refine wc rfl (fun hc=>?_) (fun hc=>?_)<;>(try simp at hc)<;>(try omega))
 | (refine ib (fun hc=>?_) (fun hc=>?_)<;>(try omega)<;>(try simp (disch:=omega) only [if_pos,if_neg])))
 exact⟨_,rfl,by simp [hr],rfl⟩
end
section
abbrev y8:List (Nat×Nat):=[(0,0),(1,0),(2,0),(3,0),(4,0),(5,0),(6,0),(7,0),(8,0),(9,0),(10,0)]
open T9
theorem an.append {P:Program} {A:AW} {L K:List It} {t e:TypeId} {i:TypeInfo} {z:Value} {v:Value} {k:IntKind} {l:List Int} (h:an A L) (hp:ay L (.h (ar k v l)) K) (y:Int)
 (hu:P.underlying t=some (.slice e)) (hi:P.info? e=some i) (hz:i.zero=some z) (iq:i.size=1) (rb:z.cells.size=1) (cU:l.length<2 ^ 40) (BH:i.bytes≤8) (hw:A.Wf) :
 ∃v' A',iH P (A.alloc (.cells [.int k y] true 1)) t t v (.slice (some ⟨A.next,0,none⟩) 1 1)=some (v',A')∧an A' (.h (ar k v' (l++[y]))::K)∧A'.Wf∧A.next≤A'.next∧∃o c,v'=.slice o (l.length+1) c:=by
 have h1:bK A (ar k v l*bn K):=by
  unfold an at h
  rw [hp.bn] at h
  exact h
 obtain⟨v',A',e1,h2,h3,h4⟩:=ar.append (P:=P) (t:=t) y hu hi hz iq rb h1 cU BH hw
 obtain⟨o,c,h5,_⟩:=(ar.is h2).cL
 exact⟨v',A',e1,h2,h3,h4,o,c,by simpa using h5⟩
def ko (dA:Nat) (v:Value):ef:=.cells [.int .i64 dA,v] true 1
def oV (b:Nat) (dA:Nat) (l:List Int):HP:=rt fun v:Value=>pt b (ko dA v)*ar .i64 v l
def cr (dA:Nat) (l:List Int) (x:Int):Bool×List Int:=if x∈l then (true,l) else if dA≤l.length then (false,l) else (true,l++[x])
theorem oV.open {A:AW} {L K:List It} {b dA:Nat} {l:List Int} (h:an A L) (hp:ay L (.h (oV b dA l)) K):∃v,an A (.at b (ko dA v)::.h (ar .i64 v l)::K):=by
 unfold an at h
 rw [hp.bn] at h
 have h1:bK A (oV b dA l*bn K):=h
 unfold oV at h1
 rw [bK.ex] at h1
 obtain⟨v,h2⟩:=h1
 exact⟨v,h2.dp (by show _=pt b _*(ar .i64 v l*bn K);rw [HP.cq])⟩
theorem oV.eh {A:AW} {L K:List It} {b dA:Nat} {l:List Int} {v:Value} (h:an A L) (hp:aX L [.at b (ko dA v),.h (ar .i64 v l)] K):an A (.h (oV b dA l)::K):=by
 unfold an at h
 rw [hp.bn] at h
 show bK A (oV b dA l*bn K)
 unfold oV
 rw [bK.ex]
 exact⟨v,h.dp (by show pt b _*(ar .i64 v l*fa)*bn K=_;rw [dx])⟩
theorem E3 (b dA:Nat) (v:Value) (l:List Int) (x:Int) (A:AW) (hg:A.cy b=some (ko dA v)) (h:cF A .i64 v l) (hl:l.length<2^62) :
 eF 222 [.pointer (some ⟨b,0,none⟩),.int .i64 x] A (.bool (decide (x∈l))):=by
 refine ab Tryz.func222 rfl (by kernel_rfl) fun _=>?_
 dsimp only [ko] at hg
 refine W (J1 (tv v l x _ h hl)) (J2 hg @AW.aa) (J1 ?_)<;>unhygienic intros
 all_goals exact⟨_,rfl,rfl,rfl⟩
theorem ld (b dA:Nat) (l:List Int) (x:Int) (hc:l.length≤dA) (BG:dA≤32) :
 aP Tryz.prog 131 [.pointer (some ⟨b,0,none⟩),.int .i64 x] [.h (oV b dA l)] (fun u=>u=.bool (cr dA l x).1) (fun _=>[.h (oV b dA (cr dA l x).2)]):=by
 intro A F hw l9
 refine ab Tryz.func131 rfl (by kernel_rfl) fun _=>?_
 obtain⟨vo,hS⟩:=oV.open l9 .z
 have hI:=an.gM hS (.s .z)
 have nM:=hS.g 0 rfl
 have hg:=nM
 dsimp only [ko] at hg
 obtain⟨oo,co,rfl,_⟩:=hI.cL
 have tm:=E3 b dA _ l x A nM hI (by omega)
 by_cases h1:x∈l
 · rw [decide_eq_true h1] at tm
   have e:cr dA l x=(true,l):=if_pos h1
   revert hS hw hc;refine W (J2 (od y8) @tm) (J3 hg h1 @AW.aa) (J1 ?_)<;>unhygienic intros
   refine⟨_,rfl,by simp [e],?_⟩
   rw [e]
   exact l9
 rw [decide_eq_false h1] at tm
 by_cases h2:dA≤l.length
 · have e:cr dA l x=(false,l):=by unfold cr;rw [if_neg h1,if_pos h2]
   have h3:(dA:Int)≤l.length:=by omega
   skip
   revert hS hw;(repeat first|clear hS|clear hw|revert hc|revert zn|revert zA|revert R|revert K);refine W (J2 (od y8) @tm) (J4 hg h1 h3 @AW.aa) (J1 ?_)<;>unhygienic intros
   refine⟨_,rfl,by simp [e],?_⟩
   rw [e]
   exact l9
 have e:cr dA l x=(true,l++[x]):=by unfold cr;rw [if_neg h1,if_neg h2]
 have h3:¬(dA:Int)≤l.length:=by omega
 have h4:¬(l.length:Int)=dA:=by omega
 obtain⟨v',A',e1,lp,it,_,o2,c2,rfl⟩:=an.append (P:=Tryz.prog) (t:=72) hS (.s .z) x Tryz.underlying72 Tryz.info3 Tryz.zero3 rfl rfl (by omega) (by simp) hw
 have pM:=lp.g 1 rfl
 dsimp only [ko] at pM
 revert hS hw;(repeat first|clear hS|clear hw|revert hc|revert zn|revert zA|revert R|revert K);refine W (J2 (od y8) @tm) (J8 hg h1 h3 h4 e1 pM @AW.aa @af.eq_1) (J1 ?_)<;>unhygienic intros
 refine⟨_,by first|rfl|(simp;rfl),by simp [e],?_⟩
 rw [e]
 exact oV.eh (v:=.slice o2 (l.length+1) c2) (an.jd lp (.s .z)) (.s .z (.s .z .z))
end
def sZ (c:bG) (b:Int):Int×Int:=
 if b<0 then (-1,-1)
 else if b<c.c0 then (0,c.base+b)
 else if b-c.c0<c.c1 then (1,c.base+c.c0+(b-c.c0)*2)
 else if b-c.c0-c.c1<c.c2 then (2,c.base+c.c0+c.c1*2+(b-c.c0-c.c1)*4)
 else if b-c.c0-c.c1-c.c2<c.c3 then (3,c.base+c.c0+c.c1*2+c.c2*4+(b-c.c0-c.c1-c.c2)*8)
 else (-1,-1)
def ds (c:bG) (b:Int):Int:=(sZ c b).1
def eL (c:bG) (b:Int):Int:=(sZ c b).2
def gT (c:bG) (a:Int):Int:=match (List.range c.nb.toNat).find? (fun b:Nat=>eL c (b:Int) == a) with
 | some b=>b
 | none=>-1
def fJ (c:bG) (a:Int):Int:=if 0≤a∧a<c.aF+c.nb then a.tmod c.aj else -1
inductive vu where
 | fy
 | Gw
 | cC (ax:Int)
 | take (v:Int)
 | fu (a v:Int)
 | r9
 | cM (b v:Int)
inductive qX where
 | take
 | cM (b:Int)
inductive ba where
 | bm
 | jV (k:vu)
 | ej
 | bz (r:dY) (u:qX)
 | eE (p:mN)
 | fF
 | dI
 | dG (c:ft)
 | cN
 | et (w:gL)
 | cK (w:gL)
 | ij
 | fm
 | eZ (p:kM)
 | fW
def ba.eo:ba→Int
 | .bm=>0 | .jV _=>1 | .ej=>2 | .bz _ _=>3 | .eE _=>4 | .fF=>5 | .dI=>6 | .dG _=>7
 | .cN=>8 | .et _=>9 | .cK _=>10 | .ij=>11 | .fm=>12 | .eZ _=>13 | .fW=>14
structure aD where
 cf:bG
 ag:Int
 av:Int
 ax:Int
 value:Int
 br:Option dC
 ai:Bool
 ah:List Int
 ac:List Int
 ap:List Int
 set:List Int
 aM:ln
 ao:Int
 aj:List Int
 aG:Option eM
 aE:Option fL
 am:Nat
 aA:ba
def aD.Gu (s:aD):Bool:=!decide (s.aA.eo=0)
def aD.rv (s:aD):Int:=match s.br with|some e=>e.kc|none=>-1
def aD.iv (s:aD):Bool:=decide (s.ax=1) && decide (0<s.aM.bl.length)
def aD.sy (s:aD):Int:=if s.ai=true∧s.iv=true then IntKind.i64.wrap (IntKind.i64.wrap s.ao+1) else -1
def aD.eo (s:aD):Int:=match s.aE with|some t=>t.eo|none=>-1
def aD.dH (s:aD):List Int:=match s.aG with|some l=>l.dH|none=>[]
def gg (s:aD):aD:=
 if s.ax=1∨s.am=s.ac.length then { s with aA:=.fW }
 else { s with aA:=.eZ ⟨ds s.cf (s.ac.getD s.am 0),s.ac.getD s.am 0,0,0⟩ }
def gy (s:aD) (ax:Int):aD:=gg { s with ax:=ax }
def nN (s:aD) (ax:Int):aD:=
 if decide (ax=1) && decide (0<s.aM.bl.length) then
  let os:=dX (s.aM.bl.map (fJ s.cf))
  { s with ax:=ax,aj:=os,aG:=some ⟨s.ag,dX os,[],0,false⟩,aA:=.fF }
 else { s with ax:=ax,aE:=some ⟨false,0,false⟩,aA:=.dI }
def fH (s:aD):aD:=
 if s.aj.length=0 then { s with aA:=.fm } else { s with aA:=.cK ⟨s.aj,s.dH⟩ }
def iI (s:aD) (a v:Int):Bool×aD:=
 if (di s.aM a v).1=true then (true,{ s with aM:=(di s.aM a v).2 }) else (false,gy s 3)
def jX (s:aD) (b st:Int):aD:=
 if st≠IntKind.u64.wrap (IntKind.u64.wrap (ds s.cf b)+1) then nN s 8
 else if s.cf.ap≤s.ap.length then gy s 3
 else if (iI s (s.cf.aF+b) 0).1=true then { (iI s (s.cf.aF+b) 0).2 with ap:=s.ap++[b] } else (iI s (s.cf.aF+b) 0).2
def hY:Nat→Int→aD→Bool×aD
 | 0,_,s=>(true,s)
 | n+1,a,s=>if (iI s a 0).1=true then hY n (a+1) (iI s a 0).2 else (false,(iI s a 0).2)
def fV (s:aD) (dB gi:Int):aD:=
 if gi<0 then gy s 4
 else
  let s1:={ s with ac:=s.ac++[gi] }
  let r:=iI s1 (s.cf.aF+gi) (dB+1)
  if r.1=true then
   let q:=hY (2 ^ dB.toNat) (eL s.cf gi) r.2
   if q.1=true then { q.2 with value:=IntKind.u64.wrap (eL s.cf gi) } else q.2
  else r.2
def nK (s:aD):vu→aD
 | .fy=>nN s 7
 | .Gw=>nN s 8
 | .cC ax=>nN s ax
 | .take v=>{ s with value:=v }
 | .fu a v=>if s.cf.aF≤a then nN s 7 else (iI s a v).2
 | .r9=>gy s 3
 | .cM b v=>jX s b v
def AD (s:aD) (v:Int):qX→aD
 | .take=>{ s with value:=v }
 | .cM b=>jX s b v
abbrev ri:=bq×Int×aD×Mm
def gD (s:aD) (M:Mm) (e:dC):ri:=
 let r:=go e M
 let s1:={ s with br:=some r.2.1 }
 if r.2.1.cj=3 then (r.1,4,{ s1 with aA:=.bm },r.2.2)
 else (r.1,if e.kc≠r.2.1.kc then 3 else 2,s1,r.2.2)
def dZ (s:aD) (M:Mm) (c:dY) (u:qX):ri:=
 let r:=cB c M
 let s1:={ s with aA:=.bz r.2.1 u }
 if r.2.1.done=false then (r.1,5+c.cj,s1,r.2.2)
 else if r.2.1.du=true then (r.1,5+c.cj,gy s1 9,r.2.2)
 else
  let s2:=if c.cA<s.cf.aF∧¬c.cA∈s.ah then { s1 with ah:=s.ah++[c.cA] } else s1
  if (cr s.cf.ah.toNat s.set c.dl).1=true then (r.1,5+c.cj,AD { s2 with set:=(cr s.cf.ah.toNat s.set c.dl).2,aA:=.bm } r.2.1.val u,r.2.2)
  else (r.1,5+c.cj,gy s2 3,r.2.2)
def mE (s:aD) (M:Mm) (p:mN):ri:=
 let r:=fx p M
 (r.1,gZ r.1,if r.2.1.cj=3 then fV { s with aA:=.bm } p.dB r.2.1.block else { s with aA:=.eE r.2.1 },r.2.2)
def jk (s:aD) (M:Mm) (l:eM):ri:=
 let r:=dF l M
 let s1:={ s with aG:=some r.2.1 }
 (r.1,if r.1.eV=3 then 12 else 11,if r.2.1.done=true then { s1 with aE:=some ⟨false,0,false⟩,aA:=.dI } else s1,r.2.2)
def im (s:aD) (M:Mm) (t:fL):ri:=
 let r:=gn t M
 let s1:={ s with aE:=some r.2.1 }
 (r.1,if r.1.eV=4 then 13 else 14,if r.2.1.done=true then { s1 with aA:=if s.set.length=0 then .cN else .dG ⟨s.set,s.rv,false⟩ } else s1,r.2.2)
def hU (s:aD) (M:Mm) (c:ft):ri:=
 let r:=eR c M
 let s1:={ s with aA:=.dG r.2.1 }
 (r.1,15,if r.2.1.ii=true then fH { s1 with ax:=9 } else if r.2.1.done=true then { s1 with aA:=.cN } else s1,r.2.2)
def fb (s:aD) (M:Mm):ri:=
 let a:=gX M 3 0
 let s1:={ s with ao:=a.fI }
 (a,16,if s.iv=true∧IntKind.u64.wrap s.cf.ao≤a.fI then fH { s1 with ax:=6 }
  else if s.iv=true then { s1 with ai:=true,aA:=.et ⟨s.aM.bl,s.aM.df⟩ } else fH { s1 with ai:=true },M)
def iZ (s:aD) (M:Mm) (w:gL):ri:=
 let r:=lq w M
 (r.1,17,if r.2.1.done=true then { s with aA:=.cK ⟨s.aj,List.replicate s.aj.length (gN s.sy)⟩ } else { s with aA:=.et r.2.1 },r.2.2)
def lC (s:aD) (M:Mm) (w:gL):ri:=
 let r:=j3 w M
 (r.1,18,{ s with aA:=if r.2.1.done=true then (if 0≤s.sy then .ij else .fm) else .cK r.2.1 },r.2.2)
def kv (s:aD) (M:Mm) (p:kM):ri:=
 let r:=dE p M
 (r.1,gu r.1,if r.2.1.cj=3 then gg { s with am:=s.am+1,aA:=.eZ r.2.1 } else { s with aA:=.eZ r.2.1 },r.2.2)
def cD (s:aD) (M:Mm):ri:=match s.aA with
 | .bm=>(bq.zero,0,s,M)
 | .jV k=>(bq.zero,0,nK { s with aA:=.bm } k,M)
 | .ej=>match s.br with
   | some e=>gD s M e
   | none=>(bq.zero,0,s,M)
 | .bz c u=>dZ s M c u
 | .eE p=>mE s M p
 | .fF=>match s.aG with
   | some l=>jk s M l
   | none=>(bq.zero,0,s,M)
 | .dI=>match s.aE with
   | some t=>im s M t
   | none=>(bq.zero,0,s,M)
 | .dG c=>hU s M c
 | .cN=>fb s M
 | .et w=>iZ s M w
 | .cK w=>lC s M w
 | .ij=>(wx M 3 0 (IntKind.u64.wrap (s.ao+1)),19,{ s with aA:=.fm },ww M 3 0 (IntKind.u64.wrap (s.ao+1)))
 | .fm=>(wx M 5 0 (pg s.eo),20,gg s,ww M 5 0 (pg s.eo))
 | .eZ p=>kv s M p
 | .fW=>(wx M 6 s.ag 0,24,{ s with aA:=.bm,av:=2 },ww M 6 s.ag 0)
def aD.jY (s:aD) (av:Int):Bool:=decide (s.aA.eo=0) && decide (s.av=av)
def jG (s:aD):Int×aD:=
 if s.jY 0=true then (0,{ s with av:=1,br:=some ⟨s.ag,0,0⟩,aA:=.ej }) else (1,s)
def nD (s:aD) (a:Int) (u:qX):aD:={ s with aA:=.bz ⟨a,fJ s.cf a,s.rv,0,0,0,false⟩ u }
def Bn (s:aD) (a:Int):Int×aD:=
 if s.jY 1=true then
  if s.cf.aF≤a then (0,{ s with aA:=.jV .fy })
  else if (eC s.aM a).2=true then (0,{ s with aA:=.jV (.take (eC s.aM a).1) })
  else (0,nD s a .take)
 else (1,s)
def CF (s:aD) (a v:Int):Int×aD:=if s.jY 1=true then (0,{ s with aA:=.jV (.fu a v) }) else (1,s)
def An (s:aD) (dB:Int):Int×aD:=
 if s.jY 1=true then
  if dB<0∨4≤dB then (2,s)
  else if s.cf.ac≤s.ac.length then (0,{ s with aA:=.jV .r9 })
  else (0,{ s with aA:=.eE ⟨dB,0,0,0,-1⟩ })
 else (1,s)
def AB (s:aD) (a:Int):Int×aD:=
 if s.jY 1=true then
  if gT s.cf a<0 then (0,{ s with aA:=.jV .Gw })
  else if (eC s.aM (s.cf.aF+gT s.cf a)).2=true then (0,{ s with aA:=.jV (.cM (gT s.cf a) (eC s.aM (s.cf.aF+gT s.cf a)).1) })
  else (0,nD s (s.cf.aF+gT s.cf a) (.cM (gT s.cf a)))
 else (1,s)
def xN (s:aD) (ax:Int):Int×aD:=
 if s.jY 1=true then
  if ax≠1∧ax≠2 then (2,s) else (0,{ s with aA:=.jV (.cC ax) })
 else (1,s)
def gv (w:Int):ln:=
 let n:=if w≤0 then 1 else if w≤1 then 2 else if w≤2 then 4 else if w≤4 then 8 else if w≤8 then 16 else if w≤16 then 32 else 64
 ⟨w.toNat,[],[],List.replicate n (-1)⟩
def iD (c:bG) (t:Int):aD:=⟨c,t,0,0,0,none,false,[],[],[],[],gv c.bX,0,[],none,none,0,.bm⟩
end Go.Stx
