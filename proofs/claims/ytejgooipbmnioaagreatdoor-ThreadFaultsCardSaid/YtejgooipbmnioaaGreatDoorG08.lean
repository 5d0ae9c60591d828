/-
 Layout at valid configurations: the reference's functions, and the search for a block.
-/
import Derived.Test.YtejgooipbmnioaaGreatDoorG07
set_option linter.unusedVariables false
set_option linter.unusedSimpArgs false
set_option linter.unusedSectionVars false
set_option maxRecDepth 20000
set_option maxHeartbeats 4000000
namespace Go.Stx
open Go Go.Proofs
attribute [local irreducible] TW cg eg bn aC aV cR df
section
open T6
variable [Gl]
set_option maxHeartbeats 2000000 in
theorem Ed (c:bC) (hc:b9 c) (A:AW):aC Tryz.prog 129 [c.v] A (fun v A'=>v=.int .i64 0∧A=A'):=by
 refine aC.DP (V:=.int .i64 0) (by simp) (fun hw=>?_) (by kernel_rfl)
 refine ab Tryz.func129 rfl (by kernel_rfl) fun _=>?_
 obtain⟨w0,w1⟩:=hc.aQ
 obtain⟨r0,r1⟩:=hc.an
 obtain⟨k0,JM⟩:=hc.k0
 obtain⟨k1,JL⟩:=hc.k1
 obtain⟨k2,JK⟩:=hc.k2
 obtain⟨k3,JJ⟩:=hc.k3
 obtain⟨b0,b1⟩:=hc.base
 obtain⟨x0,x1⟩:=hc.reads
 obtain⟨y0,y1⟩:=hc.bN
 obtain⟨z0,z1⟩:=hc.ai
 obtain⟨u0,u1⟩:=hc.av
 obtain⟨t0,t1⟩:=hc.ax
 have kn:=hc.nb
 have kf:=hc.Ny
 have e:c.nb=c.c0+c.c1+c.c2+c.c3:=rfl
 have e':c.hw=c.c0+c.c1*2+c.c2*4+c.c3*8:=rfl
 dsimp only [bC.v]
 revert hw;(try revert hc);refine W (J1 @tH) (Z0 w0 w1 r0 r1 b0 b1 x0 x1 y0 y1 z0 z1 u0 u1 t0 t1 @AW.aa @ah.eq_1) (J1 ?_)<;>unhygienic intros
 refine bu 5 ?_
 have f1:c.c0+c.c1+c.c2+c.c3≤64:=by omega
 have f2:¬64<c.c0+c.c1+c.c2+c.c3:=by omega
 have f3:¬c.aQ<c.base+(c.c0+c.c1*2+c.c2*4+c.c3*8):=by omega
 revert hw;(repeat first|clear hw|revert hc|revert zn|revert zA|revert R|revert K);refine W (J1 @tH) (XH w0 w1 r0 r1 k0 JM k1 JL k2 JK k3 JJ b0 b1 x0 x1 y0 y1 z0 (rQ z1 u0 u1 t0 t1 f2 f3 @AW.aa @ah.eq_1 @Yk @Pg @Uw @Uv)) (J1 ?_)<;>unhygienic intros
 all_goals exact⟨_,by first|(simp;done)|(simp;rfl),rfl,AW.le.alloc _ _⟩
set_option maxHeartbeats 1000000 in
theorem tM (c:bC) (hc:b9 c) (A:AW):aC Tryz.prog 82 [c.v] A (fun v A'=>v=.int .i64 c.nb∧A=A'):=by
 refine aC.DP (V:=.int .i64 c.nb) (by simp) (fun hw=>?_) (by kernel_rfl)
 refine ab Tryz.func82 rfl (by kernel_rfl) fun _=>?_
 obtain⟨w0,w1⟩:=hc.aQ
 obtain⟨r0,r1⟩:=hc.an
 obtain⟨k0,JM⟩:=hc.k0
 obtain⟨k1,JL⟩:=hc.k1
 obtain⟨k2,JK⟩:=hc.k2
 obtain⟨k3,JJ⟩:=hc.k3
 obtain⟨b0,b1⟩:=hc.base
 obtain⟨x0,x1⟩:=hc.reads
 obtain⟨y0,y1⟩:=hc.bN
 obtain⟨z0,z1⟩:=hc.ai
 obtain⟨u0,u1⟩:=hc.av
 obtain⟨t0,t1⟩:=hc.ax
 have kn:=hc.nb
 have kf:=hc.Ny
 have e:c.nb=c.c0+c.c1+c.c2+c.c3:=rfl
 have e':c.hw=c.c0+c.c1*2+c.c2*4+c.c3*8:=rfl
 have wK:=Ed c hc
 dsimp only [bC.v] at wK ⊢
 revert hw;(try revert hc);refine W (J1 @wK) (J2 @AW.aa @ah.eq_1) (J1 ?_)<;>unhygienic intros
 all_goals exact⟨_,by first|(simp;done)|(simp;rfl),rfl,AW.le.alloc _ _⟩
set_option maxHeartbeats 2000000 in
theorem Ec (c:bC) (hc:b9 c) (b:Int) (A:AW):aC Tryz.prog 93 [c.v,.int .i64 b] A (fun v A'=>v=.int .i64 (cG c b)∧A=A'):=by
 refine aC.DP (V:=.int .i64 (cG c b)) (by simp) (fun hw=>?_) (by kernel_rfl)
 refine ab Tryz.func93 rfl (by kernel_rfl) fun _=>?_
 obtain⟨w0,w1⟩:=hc.aQ
 obtain⟨r0,r1⟩:=hc.an
 obtain⟨k0,JM⟩:=hc.k0
 obtain⟨k1,JL⟩:=hc.k1
 obtain⟨k2,JK⟩:=hc.k2
 obtain⟨k3,JJ⟩:=hc.k3
 obtain⟨b0,b1⟩:=hc.base
 obtain⟨x0,x1⟩:=hc.reads
 obtain⟨y0,y1⟩:=hc.bN
 obtain⟨z0,z1⟩:=hc.ai
 obtain⟨u0,u1⟩:=hc.av
 obtain⟨t0,t1⟩:=hc.ax
 have kn:=hc.nb
 have kf:=hc.Ny
 have e:c.nb=c.c0+c.c1+c.c2+c.c3:=rfl
 have e':c.hw=c.c0+c.c1*2+c.c2*4+c.c3*8:=rfl
 have wK:=tM c hc
 by_cases ti:0≤b∧b<c.nb
 · obtain⟨q,hq⟩:∃q,cG c b=q:=⟨_,rfl⟩
   have l0:q=(if b<c.c0 then 0 else if b-c.c0<c.c1 then 1 else if b-c.c0-c.c1<c.c2 then 2 else 3):=by
    rw [←hq]
    unfold cG td
    rw [if_neg (by omega)]
    repeat' split
    all_goals(first|rfl|omega)
   rw [hq]
   obtain⟨i0,i1⟩:=ti
   have i2:¬b<0:=by omega
   have i3:¬c.nb≤b:=by omega
   dsimp only [bC.v] at wK ⊢
   revert hq hw;(try revert hc);refine W (J1 @wK) (J4 i2 i3 @AW.aa @ah.eq_1) (J1 ?_)<;>unhygienic intros
   refine bu 5 ?_
   revert hq hw;(repeat first|clear hq|clear hw|revert hc|revert zn|revert zA|revert R|revert K);refine W trivial (J2 @AW.aa @ah.eq_1) (J4 ?_ ?_ ?_ ?_)<;>unhygienic intros
   all_goals(
    refine⟨_,by first|(simp;done)|(simp;rfl),?_,?_⟩
    · rw [l0]
      simp (disch:=omega) only [if_pos,if_neg]
    · exact AW.le.alloc _ _)
 · have l1:cG c b = -1:=by unfold cG;rw [K6 hc b ti]
   rw [l1]
   dsimp only [bC.v] at wK ⊢
   revert hw;(repeat first|clear hw|revert hc|revert zn|revert zA|revert R|revert K);refine W (J1 @wK) (J2 @AW.aa @ah.eq_1) (J2 ?_ ?_)<;>unhygienic intros
   all_goals(first|omega|exact⟨_,by first|(simp;done)|(simp;rfl),rfl,AW.le.alloc _ _⟩)
end
section
open T6
variable [Gl]
theorem G3 {c:bC} {a:Int} (h:∀b:Nat,(b:Int)<c.nb→gs c b≠a):i9 c a = -1:=by
 unfold i9
 have:(List.range c.nb.toNat).find? (fun b:Nat=>gs c (b:Int) == a)=none:=by
  rw [List.find?_eq_none]
  intro x hx
  have:=List.mem_range.1 hx
  simpa using h x (by omega)
 rw [this]
theorem G0 {c:bC} {a:Int} {b:Nat} (hb:(b:Int)<c.nb) (h:gs c b=a) (h':∀j:Nat,j<b→gs c j≠a):i9 c a=b:=by
 unfold i9
 have:(List.range c.nb.toNat).find? (fun b:Nat=>gs c (b:Int) == a)=some b:=by
  rw [List.find?_eq_some_iff_append]
  refine⟨by simpa using h,List.range b,(List.range (c.nb.toNat-b-1)).map (·+ (b+1)),?_,fun x hx=>?_⟩
  · have:c.nb.toNat=b+(1+(c.nb.toNat-b-1)):=by omega
    rw [this,List.range_add,List.range_add]
    simp
    intro q _
    omega
  · have:=List.mem_range.1 hx
    simpa using h' x this
 rw [this]
set_option maxHeartbeats 1000000 in
theorem Jk (c:bC) (hc:b9 c) (a:Int) (A:AW):aC Tryz.prog 265 [c.v,.int .u64 a] A (fun v A'=>v=.int .i64 (i9 c a)∧A=A'):=by
 refine aC.DP (V:=.int .i64 (i9 c a)) (by simp) (fun hw=>?_) (by kernel_rfl)
 refine ab Tryz.func265 rfl (by kernel_rfl) fun _=>?_
 obtain⟨w0,w1⟩:=hc.aQ
 obtain⟨r0,r1⟩:=hc.an
 obtain⟨k0,JM⟩:=hc.k0
 obtain⟨k1,JL⟩:=hc.k1
 obtain⟨k2,JK⟩:=hc.k2
 obtain⟨k3,JJ⟩:=hc.k3
 obtain⟨b0,b1⟩:=hc.base
 obtain⟨x0,x1⟩:=hc.reads
 obtain⟨y0,y1⟩:=hc.bN
 obtain⟨z0,z1⟩:=hc.ai
 obtain⟨u0,u1⟩:=hc.av
 obtain⟨t0,t1⟩:=hc.ax
 have kn:=hc.nb
 have kf:=hc.Ny
 have e:c.nb=c.c0+c.c1+c.c2+c.c3:=rfl
 have e':c.hw=c.c0+c.c1*2+c.c2*4+c.c3*8:=rfl
 have hh:=ge c hc
 have wK:=fun b hb=>y9 c hc b hb
 have BA:0≤c.nb:=by omega
 obtain⟨n,hn⟩:∃n:Nat,c.nb=n:=⟨c.nb.toNat,by omega⟩
 have W8:n≤64:=by omega
 rw [hn] at hh
 dsimp only [bC.v] at hh wK ⊢
 revert hw;(try revert hc);refine W (J1 @hh) (J2 @AW.aa @ah.eq_1) (J1 ?_)<;>unhygienic intros
 refine eS (fun k fr A'=>A'=A.alloc (.cells c.cells true 1)∧∃i:Nat,k=n-i∧i≤n∧fr 1=.int .u64 a∧fr 2=.pointer (some ⟨A.next,0,none⟩)∧fr 7=.int .i64 n∧fr 8=.int .i64 i∧∀j:Nat,j<i→gs c j≠a) n ?_ ?_
 · refine⟨rfl,0,by simp,by simp,rfl,rfl,rfl,rfl,by simp⟩
 · rintro k fr A' ⟨rfl,i,rfl,hi,h1,h2,h7,h8,hj⟩
   dsimp only [bC.cells]
   by_cases dO:i<n
   · have fG:(i:Int)<n:=by omega
     have mf:IntKind.i64.wrap ((i:Int)+1)=((i+1:Nat):Int):=aw (by omega) (by omega)
     have hf:=ul hc i (by omega)
     have hp:(0:Int)<2 ^ (cG c i).toNat:=Int.pow_pos (by omega)
     have Pz:IntKind.u64.wrap (gs c i)=gs c i:=az (by omega) (by omega)
     refine dI ?_
     by_cases hx:gs c i=a
     · repeat' (first
     | (refine jx fun R hR=>?_;simp [aw,az,h1,h2,h7,h8,dO,fG,mf,Pz,hx,AW.aa,ah];try simp (disch:=omega) only [if_pos,if_neg,aw,az])
     | (refine hR _ _ ?_;clear hR R)|(refine hK _ _ ?_;clear hK K)|refine nx ?_
     | refine wn fun K hK=>?_
     | simp only [wS]
     | (refine bT (wK _ (by omega) _) ?_;rintro _ _ ⟨rfl,rfl⟩ _ _)
     | (refine bT (hh _) ?_;rintro _ _ ⟨rfl,rfl⟩ _ _)
     | refine wb ?_|refine wr ?_|refine wk ?_|refine we ?_|refine ws ?_|refine wq ?_
     | (refine wc rfl (fun hc=>?_) (fun hc=>?_)<;>(try simp at hc)<;>(try omega))
     | (refine ib (fun hc=>?_) (fun hc=>?_)<;>(try omega)<;>(try simp (disch:=omega) only [if_pos,if_neg])))
       refine⟨_,by first|(simp;done)|(simp;rfl),by rw [G0 (by omega) hx hj],AW.le.alloc _ _⟩
     · repeat' (first
     | (refine jx fun R hR=>?_;simp [aw,az,h1,h2,h7,h8,dO,fG,mf,Pz,hx,AW.aa,ah];try simp (disch:=omega) only [if_pos,if_neg,aw,az])
     | (refine hR _ _ ?_;clear hR R)|(refine hK _ _ ?_;clear hK K)|refine nx ?_
     | refine wn fun K hK=>?_
     | simp only [wS]
     | (refine bT (wK _ (by omega) _) ?_;rintro _ _ ⟨rfl,rfl⟩ _ _)
     | (refine bT (hh _) ?_;rintro _ _ ⟨rfl,rfl⟩ _ _)
     | refine wb ?_|refine wr ?_|refine wk ?_|refine we ?_|refine ws ?_|refine wq ?_
     | (refine wc rfl (fun hc=>?_) (fun hc=>?_)<;>(try simp at hc)<;>(try omega))
     | (refine ib (fun hc=>?_) (fun hc=>?_)<;>(try omega)<;>(try simp (disch:=omega) only [if_pos,if_neg])))
       refine⟨n-(i+1),by omega,rfl,i+1,rfl,by omega,by simp [h1],by simp [h2],by simp [h7],by simp,fun j vC=>?_⟩
       by_cases e:j=i
       · subst e;exact hx
       · exact hj j (by omega)
   · have fG:¬(i:Int)<n:=by omega
     refine dI ?_
     revert hw;(repeat first|clear hw|revert hc|revert zn|revert zA|revert R|revert K);refine W (J1 @hh) (J8 h1 h2 h7 h8 dO fG @AW.aa @ah.eq_1) (J1 ?_)<;>unhygienic intros
     refine⟨_,by first|(simp;done)|(simp;rfl),by rw [G3 fun b hb=>hj b (by omega)],AW.le.alloc _ _⟩
end
section
open T6
variable [Gl]
theorem Ex (n:Int) (A:AW) (hn:0≤n∧n≤32):aC Tryz.prog 258 [.int .i64 n] A (fun v A'=>v=.pointer (some ⟨A.next,0,none⟩)∧A'=A.alloc (qN n.toNat (.slice none 0 0))):=by
 refine ab Tryz.func258 rfl (by kernel_rfl) fun _=>?_
 obtain⟨k,rfl⟩:∃k:Nat,n=k:=⟨n.toNat,by omega⟩
 have e1:min (k:Int) 32=k:=by omega
 have e2:max 0 (k:Int)=k:=by omega
 have e3:(if 0<k then (k:Int) else 0)=k:=by split<;>omega
 refine W trivial (J3 e1 e2 @qN.eq_1) (J1 ?_)<;>unhygienic intros
 refine⟨_,rfl,rfl,?_⟩
 simp [e1,e2,e3,qN]
set_option maxHeartbeats 1000000 in
theorem Hb (b ew:Nat) (va vv vi:Value) (dq:List Int) (hl:dq.length≤64) :
 aY Tryz.prog 293 [.pointer (some ⟨b,0,none⟩)] [.at b (jA ew va vv vi),.h (au .i64 vi dq)] (fun _=>True)
  (fun _=>[.at b (jA ew (.slice none 0 0) (.slice none 0 0) vi),.h (au .i64 vi (List.replicate dq.length (-1)))]):=by
 intro A F hw hS
 refine ab Tryz.func293 rfl (by kernel_rfl) fun _=>?_
 dsimp only [af,ag] at hS
 have hg:=hS.g 0 rfl
 obtain⟨oi,ci,rfl,_⟩:=(ak.nH hS (.s .z)).dJ
 dsimp only [jA] at hg
 revert hS hw;refine W trivial (J3 hg @AW.aa @ah.eq_1) (J1 ?_)<;>unhygienic intros
 refine eS (fun k fr A'=>A'.Wf∧∃i:Nat,k=dq.length-i∧i≤dq.length∧fr 0=.pointer (some ⟨b,0,none⟩)∧fr 15=.int .i64 dq.length∧fr 16=.int .i64 i∧
  ak A' (.at b (jA ew (.slice none 0 0) (.slice none 0 0) (.slice oi dq.length ci))::.h (au .i64 (.slice oi dq.length ci) (List.replicate i (-1)++dq.drop i))::[.h F])) dq.length ?_ ?_
 · refine⟨?_,0,by simp,by simp,rfl,by simp,by simp,?_⟩
   · repeat' (first|assumption|apply AW.Wf.alloc|apply AW.Wf.set|apply ak.Rz hS hw .z|exact Nat.le_refl _)
   · simp only [List.replicate_zero,ag,List.drop_zero]
     refine ak.bS (ak.ez (ak.ez hS .z) .z) (.s .z (.s .z (.s .z .z)))
 · rintro k fr A' ⟨km,i,rfl,hi,h0,Sk,tC,mh⟩
   have H9:=mh.g 0 rfl
   dsimp only [jA] at H9
   refine dI ?_
   by_cases dO:i<dq.length
   · have fG:(i:Int)<dq.length:=by omega
     have mf:IntKind.i64.wrap ((i:Int)+1)=((i+1:Nat):Int):=aw (by omega) (by omega)
     have bW:(List.replicate i (-1:Int)++dq.drop i).length=dq.length:=by simp;omega
     obtain⟨bi,CA,ci',F4,hv,LE,dG,jB,ij⟩:=ak.HK mh (.s .z) (j:=i) (by omega)
     rw [bW] at hv LE
     injection hv with Lo U2 QN
     subst Lo;subst QN
     have Nk:=ij.g 0 rfl
     have H7:CA+i<F4.length:=by omega
     revert hS hw;(repeat first|clear hS|clear hw|revert hc|revert zn|revert zA|revert R|revert K);refine W trivial (AT h0 Sk tC H9 Nk dO fG mf dG H7 @AW.aa @ah.eq_1) (J1 ?_)<;>unhygienic intros
     refine⟨dq.length-(i+1),by omega,?_,i+1,rfl,by omega,by simp [h0],by simp [Sk],by simp,?_⟩
     · exact km.set _ (km.lt Nk)
     · have h9:=jB (-1) _ _ (ak.ez ij .z)
       have e9:(List.replicate i (-1:Int)++dq.drop i).set i (-1)=List.replicate (i+1) (-1)++dq.drop (i+1):=by
        rw [List.set_append_right _ _ (by simp)]
        simp only [List.length_replicate,Nat.sub_self]
        rw [List.drop_eq_getElem_cons dO,List.set_cons_zero,List.replicate_succ',List.append_assoc];rfl
       rw [e9] at h9
       exact ak.bS h9 (.s (.s .z) (.s .z (.s .z .z)))
   · have GQ:i=dq.length:=by omega
     subst GQ
     revert hS hw;(repeat first|clear hS|clear hw|revert hc|revert zn|revert zA|revert R|revert K);refine W trivial (J6 h0 Sk tC H9 @AW.aa @ah.eq_1) (J1 ?_)<;>unhygienic intros
     refine⟨_,rfl,trivial,?_⟩
     have e9:List.replicate dq.length (-1:Int)++dq.drop dq.length=List.replicate dq.length (-1):=by simp
     rw [e9] at mh
     exact ak.bS mh (.s .z (.s .z (.s .z .z)))
theorem au.Ry {A:AW} {F:HP} (n:Nat) (h:bz A F) (hw:A.Wf):bz (A.alloc (.cells (ep [.int .i64 0] n) true 1)) (au .i64 (.slice (some ⟨A.next,0,none⟩) n n) (List.replicate n 0)*F):=by
 have bW:(ep [Value.int .i64 0] n).length=n:=by simp [ic]
 have vE:(List.replicate n (0:Int)).map (Value.int .i64)=ep [Value.int .i64 0] n:=by
  clear bW
  induction n with
  | zero=>rfl
  | succ n ih=>rw [List.replicate_succ,List.map_cons,ih];rfl
 refine au.mk (by simp) (by simp) (by simp [bW]) ?_ (h.alloc hw _)
 rw [vE,List.drop_zero,List.take_of_length_le (by simp [bW])]
def Li (w:Nat):Nat:=if w≤0 then 1 else if w≤1 then 2 else if w≤2 then 4 else if w≤4 then 8 else if w≤8 then 16 else if w≤16 then 32 else 64
theorem Gn (w:Nat):gq w=⟨w,[],[],List.replicate (Li w) (-1)⟩:=by
 have h:∀k:Nat,((w:Int)≤k)=(w≤k):=fun k=>propext (by omega)
 have e:(if (w:Int)≤0 then 1 else if (w:Int)≤1 then 2 else if (w:Int)≤2 then 4 else if (w:Int)≤4 then 8 else if (w:Int)≤8 then 16 else if (w:Int)≤16 then 32 else 64)=Li w:=by
  unfold Li
  repeat' split
  all_goals(first|rfl|omega)
 unfold gq
 rw [e];rfl
theorem M2 {p w:Nat} (hw:w≤32) (h:p=1∨p=2∨p=4∨p=8∨p=16∨p=32∨p=64) (h1:p=1∨p<4*w) (h2:2*w≤p):p=Li w:=by
 unfold Li
 repeat' split
 all_goals omega
set_option maxHeartbeats 1000000 in
theorem Ez (w:Nat) (Ln:w≤32) (A:AW) (L:List It) (hw:A.Wf) (hS:ak A L) :
 aC Tryz.prog 259 [.int .i64 w] A (fun v A'=>∃b,v=.pointer (some ⟨b,0,none⟩)∧ak A' (.h (mK b (gq w))::L)):=by
 refine ab Tryz.func259 rfl (by kernel_rfl) fun _=>?_
 have e1:min (w:Int) 32=w:=by omega
 have e2:max 0 (w:Int)=w:=by omega
 have e3:(if 0<w then (w:Int) else 0)=w:=by split<;>omega
 revert hS hw;refine W trivial (J3 e1 e2 e3) (J1 ?_)<;>unhygienic intros
 refine eS (fun k fr A'=>A'=A.alloc (jA w (.slice none 0 0) (.slice none 0 0) (.slice none 0 0))∧∃p:Nat,k=64-p∧fr 3=.pointer (some ⟨A.next,0,none⟩)∧fr 4=.int .i64 p∧
  (p=1∨p=2∨p=4∨p=8∨p=16∨p=32∨p=64)∧(p=1∨p<4*w)) 63 ?_ ?_
 · refine⟨?_,1,by simp,by simp,by simp,by simp,by simp⟩
   simp [e1,e2,e3,jA]
 · rintro k fr A' ⟨rfl,p,rfl,h3,h4,hp,JQ⟩
   have uW:(A.alloc (jA w (.slice none 0 0) (.slice none 0 0) (.slice none 0 0))).bR A.next=some (.cells [.int .i64 w,.slice none 0 0,.slice none 0 0,.slice none 0 0] true 1):=by simp [jA]
   have Oj:=hw.alloc (jA w (.slice none 0 0) (.slice none 0 0) (.slice none 0 0))
   have Zx:=hS.alloc hw (jA w (.slice none 0 0) (.slice none 0 0) (.slice none 0 0))
   generalize A.alloc (jA w (.slice none 0 0) (.slice none 0 0) (.slice none 0 0))=A1 at *
   have mf:IntKind.i64.wrap ((p:Int)*2)=((p*2:Nat):Int):=by rw [aw (by omega) (by omega)];omega
   refine dI ?_
   by_cases dO:p<2*w
   · have fG:(p:Int)<2*w:=by omega
     revert hS hw;(repeat first|clear hS|clear hw|revert hc|revert zn|revert zA|revert R|revert K);refine W trivial (J7 h3 h4 uW fG mf @AW.aa @ah.eq_1) (J1 ?_)<;>unhygienic intros
     refine⟨64-p*2,by omega,rfl,p*2,rfl,by simp [h3],by simp,by omega,by omega⟩
   · have fG:¬(p:Int)<2*w:=by omega
     have Nb:=M2 Ln hp JQ (by omega)
     have iX:(A.next=A1.next)=False:=eq_false (by have:=Oj.lt uW;omega)
     have ke:ak (A1.alloc (.cells (ep [.int .i64 0] p) true 1)) (.h (au .i64 (.slice (some ⟨A1.next,0,none⟩) p p) (List.replicate p 0))::.at A.next (jA w (.slice none 0 0) (.slice none 0 0) (.slice none 0 0))::L):=au.Ry p Zx Oj
     have hS:=ke
     have hw:=Oj.alloc (.cells (ep [.int .i64 0] p) true 1)
     revert hS hw;(repeat first|clear hS|clear hw|revert hc|revert zn|revert zA|revert R|revert K);refine W trivial (J7 h3 h4 uW fG iX @AW.aa @ah.eq_1) (J1 ?_)<;>unhygienic intros
     refine aY.cA (Hb A.next w (.slice none 0 0) (.slice none 0 0) (.slice (some ⟨A1.next,0,none⟩) p p) (List.replicate p 0) (by simp;omega)) (hw.set _ (by simp;have:=Oj.lt uW;omega)) (ak.ez hS (.s .z)) (.s .z (.s .z .z)) ?_
     rintro _ A3 _ hS hw _
     simp only [List.length_replicate] at hS
     revert hS hw;(repeat first|clear hS|clear hw|revert hc|revert zn|revert zA|revert R|revert K);refine W trivial (J3 h3 @AW.aa @ah.eq_1) (J1 ?_)<;>unhygienic intros
     refine⟨_,by first|(simp;done)|(simp;rfl),A.next,rfl,?_⟩
     rw [Gn,←Nb]
     have h1:ak A3 (.h (au .i64 (.slice none 0 0) [])::.h (au .u64 (.slice none 0 0) [])::_):=au.nil (k:=.i64) (au.nil (k:=.u64) hS)
     exact mK.dR (s:=⟨w,[],[],List.replicate p (-1)⟩) (va:=.slice none 0 0) (vv:=.slice none 0 0) (vi:=.slice (some ⟨A1.next,0,none⟩) p p) h1 (.s (.s (.s .z)) (.s .z (.s .z (.s .z .z))))
end
section
abbrev tX:List (Nat×Nat):=[(0,0),(1,0),(2,0),(3,0),(4,0),(5,0),(6,0),(7,0),(8,0),(9,0),(10,0),(11,0),(12,0),(13,3)]
abbrev tW:List (Nat×Nat):=[(0,0),(1,0),(2,0),(3,0),(4,0),(5,0),(6,0),(7,0),(8,0),(9,0),(10,0)]
abbrev tV:List (Nat×Nat):=[(0,0),(1,0),(2,0),(3,0),(4,0),(5,0),(6,0),(7,0),(8,0),(9,0),(10,0),(11,3)]
open T6
variable [Gl]
set_option maxRecDepth 20000 in
set_option maxHeartbeats 2000000 in
theorem wD (b:Nat) (s:nK) (a v:Int) (ko:lV s) (ha:0≤a) (DO:s.ew≤32) (OA:s.index.length≤64) :
 aY Tryz.prog 257 [.pointer (some ⟨b,0,none⟩),.int .i64 a,.int .u64 v] [.h (mK b s)] (fun u=>u=.bool (eB s a v).1) (fun _=>[.h (mK b (eB s a v).2)]):=by
 intro A F hw cY
 refine ab Tryz.func257 rfl (by kernel_rfl) fun _=>?_
 obtain⟨va,vv,vi,hS⟩:=mK.open cY .z
 try dsimp only [af,ag] at hS
 have OH:=ak.nH hS (.s .z)
 have OF:=ak.nH hS (.s (.s .z))
 have OG:=ak.nH hS (.s (.s (.s .z)))
 have uW:=hS.g 0 rfl
 obtain⟨p,hp,pm,qG⟩:=wy b va vv vi s a A ko ha DO OA uW OH OG
 have bW:s.bU.length≤32:=Nat.le_trans ko.ew DO
 have hlv:=ko.Gy
 have hg:=uW
 dsimp only [jA] at hg
 obtain⟨oa,ca,rfl,_⟩:=OH.dJ
 obtain⟨ov,cv,rfl,_⟩:=OF.dJ
 obtain⟨bi,CA,ci,F4,rfl,LE,dG,jB,ij⟩:=ak.HK hS (.s (.s (.s .z))) hp
 have Nk:=ij.g 0 rfl
 have Q2:¬a<0:=by omega
 have Na:(p:Int)<s.index.length:=by omega
 have RY:s.index.getD p 0=ix s.index p:=by
  unfold ix
  rw [List.getD_eq_getElem?_getD,List.getD_eq_getElem?_getD,List.getElem?_eq_getElem hp];rfl
 rw [RY] at dG
 rcases pm with ⟨e,Jd,PN⟩|⟨Jd,ES,GK⟩
 · rw [PN] at dG
   have dO:e<s.ey.length:=by rw [ko.Gy];exact(qc Jd).1
   have AC:eB s a v=(true,{ s with ey:=s.ey.set e v }):=by simp [eB,Jd]
   obtain⟨bv,MR,cv',Pc,hv,Xh,Lp,RH,ke⟩:=ak.HK ij (.s (.s (.s .z))) dO
   injection hv with Lo U2 QN
   subst Lo;subst QN
   have zR:=ke.g 0 rfl
   revert hS hw;refine W (J4 (od tX) (od tW) (od tV) @qG) (Ix hg Q2 Nk zR dG Lp dO hp Na @AW.aa @ah.eq_1) (J1 ?_)<;>unhygienic intros
   refine⟨_,by first|rfl|(simp;rfl),by simp [AC],?_⟩
   rw [AC]
   have h1:=RH v _ _ (ak.ez ke .z)
   have h2:=ak.bS h1 (G:=.at bi (.cells F4 true 1)::.h (au .u64 (.slice (some ⟨bv,MR,none⟩) s.ey.length cv) (s.ey.set e v))::.at b (jA s.ew (.slice oa s.bU.length ca) (.slice (some ⟨bv,MR,none⟩) s.ey.length cv) (.slice (some ⟨bi,CA,none⟩) s.index.length ci))::.h (au .i64 (.slice oa s.bU.length ca) s.bU)::[.h F]) (.s (.s .z) (.s .z (.s .z (.s .z (.s .z .z)))))
   have h3:=jB (s.index.getD p 0) _ _ (by
    have e1:F4.set (CA+p) (.int .i64 (s.index.getD p 0))=F4:=by
     apply List.ext_getElem?
     intro q
     by_cases eq:CA+p=q
     · subst eq
       rw [List.getElem?_set_self (by omega),RY,dG,PN]
     · rw [List.getElem?_set_ne eq]
    rw [e1]
    exact h2)
   have e2:s.index.set p (s.index.getD p 0)=s.index:=by
    apply List.ext_getElem?
    intro q
    by_cases eq:p=q
    · subst eq
      rw [List.getElem?_set_self hp,List.getD_eq_getElem?_getD,List.getElem?_eq_getElem hp];rfl
    · rw [List.getElem?_set_ne eq]
   rw [e2] at h3
   exact mK.dR (s:={ s with ey:=s.ey.set e v }) (va:=.slice oa s.bU.length ca) (vv:=.slice (some ⟨bv,MR,none⟩) s.ey.length cv) (vi:=.slice (some ⟨bi,CA,none⟩) s.index.length ci)
    h3 (.s (.s (.s .z)) (.s (.s (.s .z)) (.s (.s .z) (.s .z .z))))
 · have Ov:¬0≤ix s.index p:=by omega
   by_cases hfull:s.bU.length=s.ew
   · have AC:eB s a v=(false,s):=by simp [eB,Jd,hfull]
     have h3:(s.bU.length:Int)=s.ew:=by omega
     revert hS hw;(repeat first|clear hS|clear hw|revert hc|revert zn|revert zA|revert R|revert K);refine W (J4 (od tX) (od tW) (od tV) @qG) (J9 hg Q2 Nk dG hp Na h3 Ov @AW.aa) (J1 ?_)<;>unhygienic intros
     refine⟨_,rfl,by simp [AC],?_⟩
     rw [AC]
     exact cY
   · have AC:eB s a v=(true,{ s with bU:=s.bU++[a],ey:=s.ey++[v],index:=s.index.set p s.bU.length }):=by
      simp [eB,Jd,hfull,GK]
     have h3:¬(s.bU.length:Int)=s.ew:=by omega
     have xj:(bi=b)=False:=eq_false (fun e=>by
      have:=ij.eu hw
      dsimp only [bg,bB,cj,eA] at this
      have h5:=this.2.2.1.1.1
      rw [h5] at e
      exact e.elim)
     revert hS hw;(repeat first|clear hS|clear hw|revert hc|revert zn|revert zA|revert R|revert K);refine W (J4 (od tX) (od tW) (od tV) @qG) (Ix hg Q2 Nk dG hp Na h3 Ov xj @AW.aa @ah.eq_1) (J1 ?_)<;>unhygienic intros
     have hS:=jB s.bU.length _ _ (ak.ez ij .z)
     have hw:=hw.set (some (.cells (F4.set (CA+p) (.int .i64 s.bU.length)) true 1)) (hw.lt Nk)
     generalize A.set bi (some (.cells (F4.set (CA+p) (.int .i64 s.bU.length)) true 1))=A1 at *
     have hq:=U8 hS hw
     repeat' (first
     | (with_reducible apply Wx;(·first|(simp;done)|(simp;rfl));(·first|(simp;done)|(simp;rfl));(·exact wA);(·exact sA);(·first|exact pA|exact kA);(·first|(simp;done)|(simp;rfl)|(simp [hq];done)|(simp [hq];rfl));(·first|omega|(simp;omega));(·exact fun A' uy=>(by have h9:=ak.GU uy<;>simp only [bg,jA] at h9<;>simp only [h9]));rintro _ _ _ hS hw _;(try dsimp only [AW.bq] at hS);have hq:=eD hS hw)
     | (with_reducible apply Ww;(·first|(simp;done)|(simp;rfl));(·first|(simp;done)|(simp;rfl));(·exact wA);(·exact sA);(·first|exact pA|exact kA);(·first|(simp;done)|(simp;rfl)|(simp [hq];done)|(simp [hq];rfl));(·first|omega|(simp;omega));(·exact fun A' uy=>(by have h9:=ak.GU uy<;>simp only [bg,jA] at h9<;>simp only [h9]));rintro _ _ _ hS hw _;(try dsimp only [AW.bq] at hS);have hq:=eD hS hw)
     | (refine MJ (fun R hR=>?_) (fun R hR=>?_)<;>(first|(with_reducible apply WQ;(·first|(simp;done)|(simp;rfl));(·first|(simp;done)|(simp;rfl));(·exact wA);(·exact sA);(·first|exact pA|exact kA);(·first|(simp;done)|(simp;rfl)|(simp [hq];done)|(simp [hq];rfl));(·first|omega|(simp;omega));(·exact fun A' uy=>(by have h9:=ak.GU uy<;>simp only [bg,jA] at h9<;>simp only [h9]));rintro _ _ _ hS hw _;(try dsimp only [AW.bq] at hS);have hq:=eD hS hw)|(with_reducible apply WP;(·first|(simp;done)|(simp;rfl));(·first|(simp;done)|(simp;rfl));(·exact wA);(·exact sA);(·first|exact pA|exact kA);(·first|(simp;done)|(simp;rfl)|(simp [hq];done)|(simp [hq];rfl));(·first|omega|(simp;omega));(·exact fun A' uy=>(by have h9:=ak.GU uy<;>simp only [bg,jA] at h9<;>simp only [h9]));rintro _ _ _ hS hw _;(try dsimp only [AW.bq] at hS);have hq:=eD hS hw)|(simp [aw,az,hq,hg,AW.aa,ah];try simp (disch:=omega) only [if_pos,if_neg,aw,az])))
     | (refine jx fun R hR=>?_;simp [aw,az,hq,hg,AW.aa,ah];try simp (disch:=omega) only [if_pos,if_neg,aw,az])
     | (refine hR _ _ ?_;clear hR R)|(refine hK _ _ ?_;clear hK K)|refine nx ?_
     | (refine N3 fun R hR=>?_;simp [aw,az,hq,hg,AW.aa,ah];try simp (disch:=omega) only [if_pos,if_neg,aw,az])
     | (refine MJ (fun R hR=>?_) (fun R hR=>?_)<;>(simp [aw,az,hq,hg,AW.aa,ah];try simp (disch:=omega) only [if_pos,if_neg,aw,az]))
     | refine N1 ?_
     | refine wn fun K hK=>?_
     | simp only [wS,tX,tW,tV]
     | simp only [cg,sQ,lJ,Option.map_none,Option.map_some,List.getElem?_toArray,List.getElem?_cons_zero,List.getElem?_cons_succ,List.getD_cons_zero,List.getD_cons_succ,Option.bind_some]
     | refine wl Tryz.mx tX (by decide +kernel) fun K hK=>?_
     | refine wl Tryz.mx tW (by decide +kernel) fun K hK=>?_
     | refine wl Tryz.mx tV (by decide +kernel) fun K hK=>?_
     | (refine ⟨fun A' uy=>by simp [AW.aa,uy],?_⟩)
     | (refine wt (fun A'=>A'.bR b=some (.cells [.int .i64 s.ew,.slice oa s.bU.length ca,.slice ov s.ey.length cv,.slice (some ⟨bi,CA,none⟩) s.index.length ci] true 1)) Tryz.mx [0,0,0,0,0,1,0,2,3,0,0,0,1,0,2,3,0,0,4,0,0,4] (.bh 0 (.bh 1 (.bh 2 (.bh 3 (.bh 4 (.bh 5 (.bh 6 (.bh 9 (.bh 10 (.bh 11 (.bh 12 (.bh 13 (.sc 7 (.sc 8 (.bh 14 (.bh 15 (.bh 16 (.bh 17 (.bh 18 (.bh 19 (.bh 20 (.bh 21 .nil)))))))) 14 (.bh 8 (.bh 15 (.bh 16 (.bh 17 (.bh 18 (.bh 19 (.bh 20 (.bh 21 .nil))))))))) 14 (.bh 7 (.bh 8 (.bh 15 (.bh 16 (.bh 17 (.bh 18 (.bh 19 (.bh 20 (.bh 21 .nil)))))))))))))))))))))) (by decide +kernel) fun K hK=>?_)
     | refine wb ?_|refine wr ?_|refine wk ?_|refine we ?_|refine ws ?_|refine wq ?_
     | (refine wc rfl (fun hc=>?_) (fun hc=>?_)<;>(try simp at hc)<;>(try omega))
     | (refine ib (fun hc=>?_) (fun hc=>?_)<;>(try omega)<;>(try simp (disch:=omega) only [if_pos,if_neg])))
     all_goals(
      refine⟨_,by first|(simp;done)|(simp;rfl),by simp [AC],?_⟩
      rw [AC]
      apply ak.bS
      · apply mK.dR (s:={ s with bU:=s.bU++[a],ey:=s.ey++[v],index:=s.index.set p s.bU.length })
        (·exact sA)
        (·first|exact pA|exact kA)
      · repeat' (first|apply aD.z|apply aD.s|apply ap.z|apply ap.s))
end
end Go.Stx
