/-
 The reference's redo log: Put.
-/
import Derived.Test.YtncmjklabcoeaaaGreatD12
import Derived.Test.YtncmjklabcoeaaaGreatD10
set_option linter.unusedVariables false
set_option linter.unusedSimpArgs false
set_option maxRecDepth 20000
set_option maxHeartbeats 4000000
namespace Go.Stx
open Go Go.Proofs
attribute [local irreducible] fj cm aH bB dK ei
section
open T0
theorem an.Cf {A:AW} {L K:List It} {k:IntKind} {v:Value} {l:List Int} (h:an A L) (hp:ay L (.h (ar k v l)) K) {j:Nat} (hj:j<l.length) :
 ∃b off c dh,v=.slice (some ⟨b,off,none⟩) l.length c∧off+l.length≤dh.length∧dh[off+j]? = some (.int k (l.getD j 0))∧
  (∀y A' K',an A' (.at b (.cells (dh.set (off+j) (.int k y)) true 1)::K')→an A' (.h (ar k v (l.set j y))::K'))∧an A (.at b (.cells dh true 1)::K):=by
 have h1:bK A (ar k v l*bn K):=by
  have h0:=h
  unfold an at h0
  rw [hp.bn] at h0
  exact h0
 rcases jo.cases h1 with ⟨_,h0,_⟩|⟨b,off,c,dh,rfl,h2,h3,h4,h5⟩
 · omega
 · rw [Nat.mul_one] at h3 h4
   refine⟨b,off,c,dh,rfl,h3,?_,fun y A' K' hh=>ar.mk (by simp) (by simpa using h2) (by simpa using h3) ?_ hh,h5⟩
   · have:dh[off+j]? = (l.map (Value.int k))[j]?:=by rw [h4,List.getElem?_take_of_lt hj,List.getElem?_drop]
     rw [this,List.getElem?_map,List.getElem?_eq_getElem hj,List.getD_eq_getElem?_getD,List.getElem?_eq_getElem hj];rfl
   · rw [List.map_set,h4,List.drop_set,if_neg (by omega),show off+j-off=j by omega,List.length_set,List.take_set]
def fY (b:Nat) (s:ln):HP:=rt fun va:Value=>rt fun vv:Value=>rt fun vi:Value=>pt b (gw s.dA va vv vi)*(ar .i64 va s.bl*(ar .u64 vv s.df*ar .i64 vi s.index))
theorem fY.open {A:AW} {L K:List It} {b:Nat} {s:ln} (h:an A L) (hp:ay L (.h (fY b s)) K) :
 ∃va vv vi,an A (.at b (gw s.dA va vv vi)::.h (ar .i64 va s.bl)::.h (ar .u64 vv s.df)::.h (ar .i64 vi s.index)::K):=by
 unfold an at h
 rw [hp.bn] at h
 have h1:bK A (fY b s*bn K):=h
 unfold fY at h1
 rw [bK.ex] at h1
 obtain⟨va,h1⟩:=h1
 rw [bK.ex] at h1
 obtain⟨vv,h1⟩:=h1
 rw [bK.ex] at h1
 obtain⟨vi,h1⟩:=h1
 exact⟨va,vv,vi,h1.dp (by show _=pt b _*(ar .i64 va s.bl*(ar .u64 vv s.df*(ar .i64 vi s.index*bn K)));ac_rfl)⟩
theorem fY.eh {A:AW} {L K:List It} {b:Nat} {s:ln} {va vv vi:Value} (h:an A L) (hp:aX L [.at b (gw s.dA va vv vi),.h (ar .i64 va s.bl),.h (ar .u64 vv s.df),.h (ar .i64 vi s.index)] K):an A (.h (fY b s)::K):=by
 unfold an at h
 rw [hp.bn] at h
 show bK A (fY b s*bn K)
 unfold fY
 rw [bK.ex]
 refine⟨va,?_⟩
 rw [bK.ex]
 refine⟨vv,?_⟩
 rw [bK.ex]
 exact⟨vi,h.dp (by show pt b _*(ar .i64 va s.bl*(ar .u64 vv s.df*(ar .i64 vi s.index*fa)))*bn K=_;rw [dx])⟩
theorem xY {a:Int} {n:Nat} (ha:0≤a):a.tmod (n:Int)=((a.toNat % n:Nat):Int):=by
 rw [Int.tmod_eq_emod_of_nonneg ha,Int.natCast_emod,Int.toNat_of_nonneg ha]
theorem Cp {n:Nat} (hn:0<n) (tR:n≤64) {a:Int} (ha:0≤a):(IntKind.i64.wrap (a.tmod (n:Int)*5)).tmod (n:Int)=(jm n a:Int):=by
 have h1:a.toNat % n<n:=Nat.mod_lt _ hn
 rw [xY ha]
 generalize he:a.toNat % n=r at h1
 rw [ak (x:=(r:Int)*5) (by omega) (by omega),xY (by omega)]
 have h2:((r:Int)*5).toNat=r*5:=by omega
 rw [h2]
 unfold jm
 rw [he]
theorem Ik {n k:Nat} (hn:0<n) (tR:n≤64) (m:Nat):(((st n k m:Nat):Int)+1).tmod (n:Int)=((st n k (m+1):Nat):Int):=by
 have h1:=uf (k:=k) (d:=m) hn
 have h2:=uf (k:=k) (d:=m+1) hn
 rw [xY (by omega)]
 have h3:(((st n k m:Nat):Int)+1).toNat=st n k m+1:=by omega
 have h4:(st n k m+1) % n=st n k (m+1):=by unfold st;rw [Nat.mod_add_mod];rfl
 rw [h3,h4]
end
section
open T0
theorem FJ (n:Int) (A:AW) (hn:0≤n∧n≤32):aH Tryz.prog 117 [.int .i64 n] A (fun v A'=>v=.pointer (some ⟨A.next,0,none⟩)∧A'=A.alloc (ko n.toNat (.slice none 0 0))):=by
 refine ab Tryz.func117 rfl (by kernel_rfl) fun _=>?_
 obtain⟨k,rfl⟩:∃k:Nat,n=k:=⟨n.toNat,by omega⟩
 have e1:min (k:Int) 32=k:=by omega
 have e2:max 0 (k:Int)=k:=by omega
 have e3:(if 0<k then (k:Int) else 0)=k:=by split<;>omega
 refine W trivial (J3 e1 e2 @ko.eq_1) (J1 ?_)<;>unhygienic intros
 refine⟨_,rfl,rfl,?_⟩
 simp [e1,e2,e3,ko]
theorem wE (n m:Int) (A:AW) (hn:0≤n∧n≤m):eF 168 [.int .i64 n,.int .i64 m] A (.int .i64 n):=by
 refine ab Tryz.func168 rfl (by kernel_rfl) fun _=>?_
 have e1:min n m=n:=by omega
 have e2:max 0 n=n:=by omega
 refine W trivial (J2 e1 e2) (J1 ?_)<;>unhygienic intros
 refine⟨_,rfl,by simp [e1,e2];try omega,rfl⟩
theorem C8 (n:Int) (A:AW) (hn:0≤n∧n≤32):aH Tryz.prog 66 [.int .i64 n] A (fun v A'=>v=.pointer (some ⟨A.next,0,none⟩)∧A'=A.alloc (ko n.toNat (.slice none 0 0))):=by
 refine ab Tryz.func66 rfl (by kernel_rfl) fun _=>?_
 obtain⟨k,rfl⟩:∃k:Nat,n=k:=⟨n.toNat,by omega⟩
 refine W (J1 (wE k 32 _ (by omega))) (J1 @ko.eq_1) (J1 ?_)<;>unhygienic intros
 refine⟨_,rfl,rfl,?_⟩
 simp [ko]
theorem H3 (b dA:Nat) (va vv vi:Value) (cc:List Int) (hl:cc.length≤64) :
 aP Tryz.prog 212 [.pointer (some ⟨b,0,none⟩)] [.at b (gw dA va vv vi),.h (ar .i64 vi cc)] (fun _=>True)
  (fun _=>[.at b (gw dA (.slice none 0 0) (.slice none 0 0) vi),.h (ar .i64 vi (List.replicate cc.length (-1)))]):=by
 intro A F hw hS
 refine ab Tryz.func212 rfl (by kernel_rfl) fun _=>?_
 dsimp only [na,zo] at hS
 have hg:=hS.g 0 rfl
 obtain⟨oi,ci,rfl,_⟩:=(an.gM hS (.s .z)).cL
 dsimp only [gw] at hg
 revert hS hw;refine W trivial (J3 hg @AW.aa @af.eq_1) (J1 ?_)<;>unhygienic intros
 refine ed (fun k fr A'=>A'.Wf∧∃i:Nat,k=cc.length-i∧i≤cc.length∧fr 0=.pointer (some ⟨b,0,none⟩)∧fr 15=.int .i64 cc.length∧fr 16=.int .i64 i∧
  an A' (.at b (gw dA (.slice none 0 0) (.slice none 0 0) (.slice oi cc.length ci))::.h (ar .i64 (.slice oi cc.length ci) (List.replicate i (-1)++cc.drop i))::[.h F])) cc.length ?_ ?_
 · refine⟨?_,0,by simp,by simp,rfl,by simp,by simp,?_⟩
   · repeat' (first|assumption|apply AW.Wf.alloc|apply AW.Wf.set|apply an.uP hS hw .z|exact Nat.le_refl _)
   · simp only [List.replicate_zero,zo,List.drop_zero]
     refine an.cC (an.jd (an.jd hS .z) .z) (.s .z (.s .z (.s .z .z)))
 · rintro k fr A' ⟨gY,i,rfl,hi,h0,UV,NM,oG⟩
   have EO:=oG.g 0 rfl
   dsimp only [gw] at EO
   refine eW ?_
   by_cases dQ:i<cc.length
   · have ey:(i:Int)<cc.length:=by omega
     have mc:IntKind.i64.wrap ((i:Int)+1)=((i+1:Nat):Int):=ak (by omega) (by omega)
     have cU:(List.replicate i (-1:Int)++cc.drop i).length=cc.length:=by simp;omega
     obtain⟨bi,tH,YN,Bc,hv,P3,eH,fz,mg⟩:=an.Cf oG (.s .z) (j:=i) (by omega)
     rw [cU] at hv P3
     injection hv with vN Kl EJ
     subst vN;subst EJ
     have Ko:=mg.g 0 rfl
     have IP:tH+i<Bc.length:=by omega
     revert hS hw;(repeat first|clear hS|clear hw|revert hc|revert zn|revert zA|revert R|revert K);refine W trivial (Ml h0 UV NM EO Ko dQ ey mc eH IP @AW.aa @af.eq_1) (J1 ?_)<;>unhygienic intros
     refine⟨cc.length-(i+1),by omega,?_,i+1,rfl,by omega,by simp [h0],by simp [UV],by simp,?_⟩
     · exact gY.set _ (gY.lt Ko)
     · have h9:=fz (-1) _ _ (an.jd mg .z)
       have e9:(List.replicate i (-1:Int)++cc.drop i).set i (-1)=List.replicate (i+1) (-1)++cc.drop (i+1):=by
        rw [List.set_append_right _ _ (by simp)]
        simp only [List.length_replicate,Nat.sub_self]
        rw [List.drop_eq_getElem_cons dQ,List.set_cons_zero,List.replicate_succ',List.append_assoc];rfl
       rw [e9] at h9
       exact an.cC h9 (.s (.s .z) (.s .z (.s .z .z)))
   · have zG:i=cc.length:=by omega
     subst zG
     revert hS hw;(repeat first|clear hS|clear hw|revert hc|revert zn|revert zA|revert R|revert K);refine W trivial (J6 h0 UV NM EO @AW.aa @af.eq_1) (J1 ?_)<;>unhygienic intros
     refine⟨_,rfl,trivial,?_⟩
     have e9:List.replicate cc.length (-1:Int)++cc.drop cc.length=List.replicate cc.length (-1):=by simp
     rw [e9] at oG
     exact an.cC oG (.s .z (.s .z (.s .z .z)))
theorem ar.Rj {A:AW} {F:HP} (n:Nat) (h:bK A F) (hw:A.Wf):bK (A.alloc (.cells (fh [.int .i64 0] n) true 1)) (ar .i64 (.slice (some ⟨A.next,0,none⟩) n n) (List.replicate n 0)*F):=by
 have cU:(fh [Value.int .i64 0] n).length=n:=by simp [iT]
 have pO:(List.replicate n (0:Int)).map (Value.int .i64)=fh [Value.int .i64 0] n:=by
  clear cU
  induction n with
  | zero=>rfl
  | succ n ih=>rw [List.replicate_succ,List.map_cons,ih];rfl
 refine ar.mk (by simp) (by simp) (by simp [cU]) ?_ (h.alloc hw _)
 rw [pO,List.drop_zero,List.take_of_length_le (by simp [cU])]
def Lk (w:Nat):Nat:=if w≤0 then 1 else if w≤1 then 2 else if w≤2 then 4 else if w≤4 then 8 else if w≤8 then 16 else if w≤16 then 32 else 64
theorem zg (w:Nat):gv w=⟨w,[],[],List.replicate (Lk w) (-1)⟩:=by
 have h:∀k:Nat,((w:Int)≤k)=(w≤k):=fun k=>propext (by omega)
 have e:(if (w:Int)≤0 then 1 else if (w:Int)≤1 then 2 else if (w:Int)≤2 then 4 else if (w:Int)≤4 then 8 else if (w:Int)≤8 then 16 else if (w:Int)≤16 then 32 else 64)=Lk w:=by
  unfold Lk
  repeat' split
  all_goals(first|rfl|omega)
 unfold gv
 rw [e];rfl
theorem IE {p w:Nat} (hw:w≤32) (h:p=1∨p=2∨p=4∨p=8∨p=16∨p=32∨p=64) (h1:p=1∨p<4*w) (h2:2*w≤p):p=Lk w:=by
 unfold Lk
 repeat' split
 all_goals omega
theorem FL (w:Nat) (DF:w≤32) (A:AW) (L:List It) (hw:A.Wf) (hS:an A L) :
 aH Tryz.prog 118 [.int .i64 w] A (fun v A'=>∃b,v=.pointer (some ⟨b,0,none⟩)∧an A' (.h (fY b (gv w))::L)):=by
 refine ab Tryz.func118 rfl (by kernel_rfl) fun _=>?_
 have e1:min (w:Int) 32=w:=by omega
 have e2:max 0 (w:Int)=w:=by omega
 have e3:(if 0<w then (w:Int) else 0)=w:=by split<;>omega
 revert hS hw;refine W trivial (J3 e1 e2 e3) (J1 ?_)<;>unhygienic intros
 refine ed (fun k fr A'=>A'=A.alloc (gw w (.slice none 0 0) (.slice none 0 0) (.slice none 0 0))∧∃p:Nat,k=64-p∧fr 3=.pointer (some ⟨A.next,0,none⟩)∧fr 4=.int .i64 p∧
  (p=1∨p=2∨p=4∨p=8∨p=16∨p=32∨p=64)∧(p=1∨p<4*w)) 63 ?_ ?_
 · refine⟨?_,1,by simp,by simp,by simp,by simp,by simp⟩
   simp [e1,e2,e3,gw]
 · rintro k fr A' ⟨rfl,p,rfl,h3,h4,hp,EL⟩
   have nM:(A.alloc (gw w (.slice none 0 0) (.slice none 0 0) (.slice none 0 0))).cy A.next=some (.cells [.int .i64 w,.slice none 0 0,.slice none 0 0,.slice none 0 0] true 1):=by simp [gw]
   have Nb:=hw.alloc (gw w (.slice none 0 0) (.slice none 0 0) (.slice none 0 0))
   have Ym:=hS.alloc hw (gw w (.slice none 0 0) (.slice none 0 0) (.slice none 0 0))
   generalize A.alloc (gw w (.slice none 0 0) (.slice none 0 0) (.slice none 0 0))=A1 at *
   have mc:IntKind.i64.wrap ((p:Int)*2)=((p*2:Nat):Int):=by rw [ak (by omega) (by omega)];omega
   refine eW ?_
   by_cases dQ:p<2*w
   · have ey:(p:Int)<2*w:=by omega
     revert hS hw;(repeat first|clear hS|clear hw|revert hc|revert zn|revert zA|revert R|revert K);refine W trivial (J7 h3 h4 nM ey mc @AW.aa @af.eq_1) (J1 ?_)<;>unhygienic intros
     refine⟨64-p*2,by omega,rfl,p*2,rfl,by simp [h3],by simp,by omega,by omega⟩
   · have ey:¬(p:Int)<2*w:=by omega
     have Nn:=IE DF hp EL (by omega)
     have ke:(A.next=A1.next)=False:=eq_false (by have:=Nb.lt nM;omega)
     have lp:an (A1.alloc (.cells (fh [.int .i64 0] p) true 1)) (.h (ar .i64 (.slice (some ⟨A1.next,0,none⟩) p p) (List.replicate p 0))::.at A.next (gw w (.slice none 0 0) (.slice none 0 0) (.slice none 0 0))::L):=ar.Rj p Ym Nb
     have hS:=lp
     have hw:=Nb.alloc (.cells (fh [.int .i64 0] p) true 1)
     revert hS hw;(repeat first|clear hS|clear hw|revert hc|revert zn|revert zA|revert R|revert K);refine W trivial (J7 h3 h4 nM ey ke @AW.aa @af.eq_1) (J1 ?_)<;>unhygienic intros
     refine aP.el (H3 A.next w (.slice none 0 0) (.slice none 0 0) (.slice (some ⟨A1.next,0,none⟩) p p) (List.replicate p 0) (by simp;omega)) (hw.set _ (by simp;have:=Nb.lt nM;omega)) (an.jd hS (.s .z)) (.s .z (.s .z .z)) ?_
     rintro _ A3 _ hS hw _
     simp only [List.length_replicate] at hS
     revert hS hw;(repeat first|clear hS|clear hw|revert hc|revert zn|revert zA|revert R|revert K);refine W trivial (J3 h3 @AW.aa @af.eq_1) (J1 ?_)<;>unhygienic intros
     refine⟨_,by first|(simp;done)|(simp;rfl),A.next,rfl,?_⟩
     rw [zg,←Nn]
     have h1:an A3 (.h (ar .i64 (.slice none 0 0) [])::.h (ar .u64 (.slice none 0 0) [])::_):=ar.nil (k:=.i64) (ar.nil (k:=.u64) hS)
     exact fY.eh (s:=⟨w,[],[],List.replicate p (-1)⟩) (va:=.slice none 0 0) (vv:=.slice none 0 0) (vi:=.slice (some ⟨A1.next,0,none⟩) p p) h1 (.s (.s (.s .z)) (.s .z (.s .z (.s .z .z))))
theorem Fm (b w:Nat) (DF:w≤32) (va vv vi:Value) :
 aP Tryz.prog 169 [.pointer (some ⟨b,0,none⟩)] [.at b (gw w va vv vi)] (fun _=>True) (fun _=>[.h (fY b (gv w))]):=by
 intro A F hw hS
 refine ab Tryz.func169 rfl (by kernel_rfl) fun _=>?_
 dsimp only [na,zo] at hS
 have hg:=hS.g 0 rfl
 dsimp only [gw] at hg
 revert hS hw;refine W trivial (J3 hg @AW.aa @af.eq_1) (J1 ?_)<;>unhygienic intros
 refine ed (fun k fr A'=>A'=A∧∃p:Nat,k=64-p∧fr 0=.pointer (some ⟨b,0,none⟩)∧fr 2=.int .i64 p∧
  (p=1∨p=2∨p=4∨p=8∨p=16∨p=32∨p=64)∧(p=1∨p<4*w)) 63 ?_ ?_
 · refine⟨rfl,1,by simp,by simp,by simp,by simp,by simp⟩
 · rintro k fr A' ⟨rfl,p,rfl,h0,h2,hp,EL⟩
   have mc:IntKind.i64.wrap (2*(p:Int))=((p*2:Nat):Int):=by rw [ak (by omega) (by omega)];omega
   refine eW ?_
   by_cases dQ:p<2*w
   · have ey:(p:Int)<2*w:=by omega
     revert hS hw;(repeat first|clear hS|clear hw|revert hc|revert zn|revert zA|revert R|revert K);refine W trivial (J7 h0 h2 hg ey mc @AW.aa @af.eq_1) (J1 ?_)<;>unhygienic intros
     refine⟨64-p*2,by omega,rfl,p*2,rfl,by simp [h0],by simp,by omega,by omega⟩
   · have ey:¬(p:Int)<2*w:=by omega
     have Nn:=IE DF hp EL (by omega)
     have XG:p≤64:=by omega
     revert hS hw;(repeat first|clear hS|clear hw|revert hc|revert zn|revert zA|revert R|revert K);refine W trivial (J6 h0 h2 hg ey @AW.aa @af.eq_1) (J1 ?_)<;>unhygienic intros
     refine ed (fun k fr A'=>A'.Wf∧∃i:Nat,k=p-i∧i≤p∧fr 0=.pointer (some ⟨b,0,none⟩)∧fr 2=.int .i64 p∧fr 3=.int .i64 i∧
      ∃vi,an A' (.at b (gw w (.slice none 0 0) (.slice none 0 0) vi)::.h (ar .i64 vi (List.replicate i (-1)))::[.h F])) p ?_ ?_
     · refine⟨?_,0,by simp,by simp,by simp [h0],by simp [h2],by simp,.slice none 0 0,?_⟩
       · have:=hw.lt hg
         exact((hw.set _ this).set _ this).set _ this
       · exact an.cC (an.rV .i64 (an.jd (an.jd (an.jd hS .z) .z) .z)) (.s (.s .z) (.s .z (.s .z .z)))
     · rintro k fr A' ⟨hw,i,rfl,hi,h0,h2,h3,vi,hS⟩
       refine eW ?_
       by_cases dQ:i<p
       · have ey:(i:Int)<p:=by omega
         have mc:IntKind.i64.wrap ((i:Int)+1)=((i+1:Nat):Int):=ak (by omega) (by omega)
         have hq:=ZX hS hw
         revert hq hS hw;(repeat first|clear hq|clear hS|clear hw|revert hc|revert zn|revert zA|revert R|revert K);refine Wx trivial (J7 h0 h2 h3 ey mc @AW.aa @af.eq_1) (J1 ?_)<;>unhygienic intros
         refine⟨p-(i+1),by omega,?_,i+1,rfl,by omega,by simp [h0],by simp [h2],by simp,?_⟩
         · repeat' (first|assumption|apply AW.Wf.alloc|apply AW.Wf.set|exact Nat.le_refl _|(simp only [AW.aZ,AW.dq];omega)|apply an.uP hS hw|apply ay.z|apply ay.s)
         · simp only [←List.replicate_succ',List.length_replicate] at hS
           exact⟨_,an.cC (an.jd hS (.s (.s .z))) (.s .z (.s .z (.s (.s .z) .z)))⟩
       · have zG:i=p:=by omega
         subst zG
         have hq:=ZX hS hw
         revert hq hS hw;(repeat first|clear hq|clear hS|clear hw|revert hc|revert zn|revert zA|revert R|revert K);refine W trivial (J5 h0 h2 h3 @AW.aa @af.eq_1) (J1 ?_)<;>unhygienic intros
         refine⟨_,rfl,trivial,?_⟩
         rw [zg,←Nn]
         have h1:an A' (.h (ar .i64 (.slice none 0 0) [])::.h (ar .u64 (.slice none 0 0) [])::_):=ar.nil (k:=.i64) (ar.nil (k:=.u64) hS)
         exact an.cC (fY.eh (s:=⟨w,[],[],List.replicate i (-1)⟩) (va:=.slice none 0 0) (vv:=.slice none 0 0) (vi:=vi) h1 (.s (.s (.s .z)) (.s .z (.s .z (.s .z .z))))) (.s .z (.s .z .z))
theorem Da (w:Nat) (DF:w≤32) (A:AW) (L:List It) (hw:A.Wf) (hS:an A L) :
 aH Tryz.prog 67 [.int .i64 w] A (fun v A'=>∃b,v=.pointer (some ⟨b,0,none⟩)∧an A' (.h (fY b (gv w))::L)):=by
 refine ab Tryz.func67 rfl (by kernel_rfl) fun _=>?_
 revert hS hw;refine W (J1 (wE w 32 _ (by omega))) (J1 @AW.aa) (J1 ?_)<;>unhygienic intros
 refine aP.el (Fm A.next w DF (.slice none 0 0) (.slice none 0 0) (.slice none 0 0)) (hw.alloc _) (an.jn hS hw) (.s .z .z) ?_
 rintro _ A3 _ hS hw _
 revert hS hw;(repeat first|clear hS|clear hw|revert hc|revert zn|revert zA|revert R|revert K);refine W trivial (J2 @AW.aa @af.eq_1) (J1 ?_)<;>unhygienic intros
 exact⟨_,by first|(simp;done)|(simp;rfl),A.next,rfl,hS⟩
end
end Go.Stx
