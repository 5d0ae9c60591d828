/-
 Both cells made alike at made configurations.
-/
import Derived.Test.YtncmjklabcoeaaaGreatD39
import Derived.Test.YtncmjklabcoeaaaGreatD34
import Derived.Test.YtncmjklabcoeaaaGreatD43
import Derived.Deep.Slices
import Derived.Lib.SmallJoins
set_option linter.unusedVariables false
set_option linter.unusedSimpArgs false
set_option maxRecDepth 20000
set_option maxHeartbeats 4000000
namespace Go.Stx
open Go Go.Proofs
attribute [local irreducible] fj cm aH bB dK ei TW hN
section
open T25
theorem Ac (c:bG) (hF:rj c) (nt:Nat) (h1:1≤nt) (NM:nt≤16) (vi:Value) (dm:List Int) (hi:(dm.length:Int)=c.aF) (A:AW) (F:HP) (hw:A.Wf) (hS:an A [.h (ar .u64 vi dm),.h F]) :
 aH Tryz.prog 39 [c.v,.int .i64 (nt:Int),vi] A (fun v A'=>∃pb,v=.tuple #[pv pb,.int .i64 0]∧an A' [eb pb (km c nt dm),.h (ar .u64 vi dm),.h F]):=by
 have ho:=hF.ok.aj
 have hl:=sK hF
 obtain⟨aF,aj,base,n0,n1,n2,n3,ah,bX,ac,ap,ao,cT⟩:=c
 dsimp only at hi ho hl
 have l9:bK A (ar .u64 vi dm*(F*fa)):=hS
 refine(BK nt (fD n0 n1).length aj.toNat vi dm aF aj base n0 n1 n2 n3 ah bX ac ap ao cT hF A (F*fa) (ar .u64 vi dm) (fun A F h=>ar.is h) hw l9 h1 NM hi (by omega) rfl).mono ?_
 rintro v A' ⟨pb,rfl,h⟩
 refine⟨pb,rfl,?_⟩
 have e:(fun k=>if k=0 then dm++List.replicate (fD n0 n1).length 0 else if k=1 then List.replicate aj.toNat 0 else if k=5 then List.replicate nt 0 else if k=6 then fp n0 n1 else if k=7 then fD n0 n1 else [0])=km ⟨aF,aj,base,n0,n1,n2,n3,ah,bX,ac,ap,ao,cT⟩ nt dm:=by
  unfold km
  dsimp only
  rw [←hl,Int.toNat_natCast]
 rw [e] at h
 exact h
theorem xS {c:bG} (hc:dt c):((hZ c).length:Int)=c.aF:=by
 have:=hc.aF
 unfold hZ
 simp
 omega
theorem EU {c:bG} (j:Nat) (hj:(j:Int)<c.aF):(hZ c).take (j+1)=(hZ c).take j++[10*(j:Int)+1]:=by
 rw [List.take_add_one]
 congr 1
 unfold hZ
 rw [List.getElem?_map,List.getElem?_range (by omega)]
 rfl
theorem LS {P:Program} {f:FuncId} {args:List Value} {A:AW} {Q:HP} {X:Nat→It} {g:Nat→Value} (h:∀F,an A [.h Q,.h F]→aH P f args A (fun v A'=>∃pb,v=g pb∧an A' [X pb,.h Q,.h F]))
 {L K:List It} {k:Value→AW→Prop} (hS:an A L) (hp:ay L (.h Q) K) (hk:∀pb A',an A' (X pb::.h Q::K)→A'.Wf→k (g pb) A'):aH P f args A k:=by
 have oG:an A [.h Q,.h (bn K)]:=by
  unfold an at *
  rw [hp.bn] at hS
  show bK A (Q*(bn K*fa))
  rw [dx]
  exact hS
 refine bD (h (bn K) oG) ?_
 rintro _ A' ⟨pb,rfl,h2⟩ gY _
 refine hk pb A' ?_ gY
 unfold an at *
 have h3:bK A' ((X pb).hp*(Q*(bn K*fa))):=h2
 rwa [dx] at h3
set_option maxRecDepth 100000 in
theorem yl (c:bG) (hF:rj c) (nt:Nat) (qh:1≤nt) (NM:nt≤16) (A:AW) (F:HP) (hw:A.Wf) (hS:an A [.h F]) :
 aH Tryz.prog 10 [c.v,.int .i64 (nt:Int)] A (fun v A'=>∃pb mb,v=.tuple #[.agg #[pv pb,pv mb],.bool true]∧an A' [eb pb (km c nt (hZ c)),fw c mb (km c nt (hZ c)),.h F]):=by
 refine ab Tryz.func10 rfl (by kernel_rfl) fun _=>?_
 have Rp:=hF.ok.aF
 have cU:=xS hF.ok
 have Nx:=fun vi A F hw hS=>Ac c hF nt qh NM vi (hZ c) cU A F hw hS
 have Oz:=fun vi A F hw hS=>Fi c hF nt NM vi (hZ c) cU A F hw hS
 dsimp only [bG.v] at Nx Oz ⊢
 revert hS hw;have gR:=trivial;refine W trivial (J2 @AW.aa @af.eq_1) (J1 ?_)<;>unhygienic intros
 refine ed (fun k fr A'=>A'.Wf∧∃(j:Nat) (v6:Value) (q:List Int),q=(hZ c).take j∧k=(hZ c).length-j∧j≤(hZ c).length∧fr 1=.int .i64 (nt:Int)∧fr 2=pv A.next∧fr 4=pv (A.next+1)∧fr 6=v6∧fr 7=.int .i64 (j:Int)∧
  an A' [.at A.next (oK c),.at (A.next+1) (.cells [.pointer none,.pointer none] true 1),.h (ar .u64 v6 q),.h F]) (hZ c).length ?_ ?_
 · refine⟨(hw.alloc _).alloc _,0,mY,[],by simp,by simp,by simp,by simp,by simp,by simp,by simp,by simp,?_⟩
   apply an.cC
   · apply an.rV .u64
     (·exact sA)
   (·first|exact pA|exact kA)
 clear hS hw
 rintro k fr A1 ⟨hw,j,v6,q,zD,rfl,hj,f1,f2,f4,f6,f7,hS⟩
 have Lu:q.length=j:=by rw [zD];simp;omega
 obtain⟨o6,c6,rfl,_⟩:=(an.gM hS (.s (.s .z))).cL
 have hq:=ZY hS hw
 by_cases ey:(j:Int)<c.aF
 · have vT:IntKind.i64.wrap ((j:Int)+1)=((j+1:Nat):Int):=ak (by omega) (by omega)
   have e0:IntKind.i64.wrap (10*(j:Int))=10*(j:Int):=ak (by omega) (by omega)
   have e2:IntKind.i64.wrap (10*(j:Int)+1)=10*(j:Int)+1:=ak (by omega) (by omega)
   have e3:IntKind.u64.wrap (10*(j:Int)+1)=10*(j:Int)+1:=au (by omega) (by omega)
   have zz:=EU j ey
   revert hq hS hw;(repeat first|clear hq|clear hS|clear hw|revert hc|revert zn|revert zA|revert R|revert K);have gR:=trivial;refine Wx trivial (Ml f1 f2 f4 f6 f7 ey e0 e2 e3 vT @AW.aa @af.eq_1) (J1 ?_)<;>unhygienic intros
   refine⟨(hZ c).length-(j+1),by omega,?_,j+1,_,q++[10*(j:Int)+1],by rw [zz,zD],rfl,by omega,by simp [f1],by simp [f2],by simp [f4],by simp;rfl,by simp,?_⟩
   · repeat' (first|assumption|apply AW.Wf.alloc|apply AW.Wf.set|exact Nat.le_refl _|(simp only [AW.aZ,AW.dq];omega)|apply an.uP hS hw|apply ay.z|apply ay.s)
   · apply an.cC
     (·exact sA)
     (·first|exact pA|exact kA)
 have QE:j=(hZ c).length:=by omega
 have Lv:q=hZ c:=by rw [zD,QE,List.take_length]
 subst Lv
 clear zD
 revert hq hS hw;(repeat first|clear hq|clear hS|clear hw|revert hc|revert zn|revert zA|revert R|revert K);have gR:=trivial;refine W trivial (J8 f1 f2 f4 f6 f7 ey @AW.aa @af.eq_1) (J1 ?_)<;>unhygienic intros
 refine LS (X:=fun pb=>eb pb (km c nt (hZ c))) (g:=fun pb=>.tuple #[pv pb,.int .i64 0]) (fun F hS=>Nx _ A1 F hw hS) hS (.s (.s .z)) ?_
 intro pb A2 hS hw
 have hq:=ZY hS hw
 revert hq hS hw;(repeat first|clear hq|clear hS|clear hw|revert hc|revert zn|revert zA|revert R|revert K);have gR:=trivial;refine W trivial (J7 f1 f2 f4 f6 f7 @AW.aa @af.eq_1) (J1 ?_)<;>unhygienic intros
 refine LS (X:=fun pb=>fw c pb (km c nt (hZ c))) (g:=fun pb=>pv pb) (fun F hS=>Oz _ A2 F hw hS) hS (.s .z) ?_
 intro mb A3 hS hw
 have hq:=ZY hS hw
 revert hq hS hw;(repeat first|clear hq|clear hS|clear hw|revert hc|revert zn|revert zA|revert R|revert K);have gR:=trivial;refine W trivial (J7 f1 f2 f4 f6 f7 @AW.aa @af.eq_1) (J1 ?_)<;>unhygienic intros
 refine⟨_,by first|(simp [hq,f4,AW.aa];done)|(simp [hq,f4,AW.aa];rfl),pb,mb,rfl,?_⟩
 apply an.cC
 (·exact sA)
 (·first|exact pA|exact kA)
end
theorem BV {n:Int} (h:0≤n∧n<65535):iu (n+1)=n:=by
 rw [CH (by omega)]
 omega
theorem B5 {c:bG} (hF:rj c) (nt:Nat):oR c nt 0 (km c nt (hZ c)):=by
 have xv:=oC hF.ok
 have ho:=hF.ok.aj
 have h0:=hF.c0
 have h1:=hF.c1
 have h2:=hF.c2
 have h3:=hF.c3
 have XR:c.nb=c.c0+c.c1+c.c2+c.c3:=rfl
 refine⟨?_,?_,rfl,rfl,rfl,?_,rfl,sK hF,?_,?_,?_,?_,?_⟩
 · show (((hZ c)++List.replicate c.nb.toNat 0).length:Int)=_
   have:=xS hF.ok
   simp only [List.length_append,List.length_replicate]
   omega
 · show ((List.replicate c.aj.toNat (0:Int)).length:Int)=_
   simp only [List.length_replicate]
   omega
 · show (List.replicate nt (0:Int)).length=nt
   simp
 · intro i
   show kG c i ((fp c.c0 c.c1).getD i 0)
   by_cases hi:i<4
   · rw [List.getD_eq_getElem?_getD,Cn hF i hi]
     show kG c i (if 0<tV c i then oS c i+1 else 0)
     split
     · rename_i hp
       have hr:=Gt hF i
       refine⟨by omega,?_,fun _=>?_⟩
       · rw [BV (by omega)]
         have:i=0∨i=1∨i=2∨i=3:=by omega
         rcases this with rfl|rfl|rfl|rfl<;>simp only [tV,oS] at hp ⊢<;>omega
       · rw [BV (by omega)]
         have:i=0∨i=1∨i=2∨i=3:=by omega
         rcases this with rfl|rfl|rfl|rfl<;>simp only [tV,oS] at hp ⊢<;>unfold ds sZ
         · rw [if_neg (by omega),if_pos (by omega)];rfl
         · rw [if_neg (by omega),if_neg (by omega),if_pos (by omega)];rfl
         · omega
         · omega
     · exact kG.zero hF.ok _
   · rw [List.getD_eq_getElem?_getD,List.getElem?_eq_none (by simp [fp];omega)]
     exact kG.zero hF.ok _
 · intro b
   show nd c (ds c b) ((fD c.c0 c.c1).getD b 0)
   by_cases hb:(b:Int)<c.nb
   · rw [List.getD_eq_getElem?_getD,FG hF b hb]
     show nd c (ds c b) (if (b:Int)+1<c.nb∧ds c (b+1)=ds c b then (b:Int)+2 else 0)
     split
     · rename_i h
       refine⟨by omega,by omega,fun _=>?_⟩
       rw [show (b:Int)+2-1=b+1 by omega]
       exact h.2
     · exact nd.zero hF.ok _
   · have:=sK hF
     rw [List.getD_eq_getElem?_getD,List.getElem?_eq_none (by omega)]
     exact nd.zero hF.ok _
 · show (0:Int)≤0∧(0:Int)≤((0:Nat):Int)
   omega
 · show (0:Int)≤0∧(0:Int)≤((0:Nat):Int)
   omega
 · intro i
   show jp 0 ((List.replicate c.aj.toNat (0:Int)).getD i 0)
   rw [List.getD_eq_getElem?_getD]
   by_cases hi:i<c.aj.toNat
   · rw [List.getElem?_replicate_of_lt hi];exact jp.zero 0
   · rw [List.getElem?_eq_none (by simp;omega)];exact jp.zero 0
def E0 (s:aD):Prop:=s.av=0→s.br=none∧s.aA=.bm
theorem pF (s:aD):(gg s).av=s.av:=by unfold gg;split<;>rfl
theorem k9 (s:aD) (ax:Int):(gy s ax).av=s.av:=pF _
theorem oI (s:aD) (ax:Int):(nN s ax).av=s.av:=by unfold nN;split<;>rfl
theorem og (s:aD):(fH s).av=s.av:=by unfold fH;split<;>rfl
theorem kr (s:aD) (a v:Int):(iI s a v).2.av=s.av:=by
 unfold iI
 split
 · rfl
 · exact k9 s 3
theorem u6 (s:aD) (b st:Int):(jX s b st).av=s.av:=by
 unfold jX
 split
 · exact oI s 8
 · split
   · exact k9 s 3
   · split
     · exact kr s _ 0
     · exact kr s _ 0
theorem qu:∀(n:Nat) (a:Int) (s:aD),(hY n a s).2.av=s.av
 | 0,_,_=>rfl
 | n+1,a,s=>by
   unfold hY
   split
   · rw [qu n];exact kr s a 0
   · exact kr s a 0
theorem wd (s:aD) (dB gi:Int):(fV s dB gi).av=s.av:=by
 unfold fV
 split
 · exact k9 s 4
 · dsimp only
   split
   · split
     · show (hY _ _ _).2.av=_
       rw [qu];exact kr { s with ac:=s.ac++[gi] } _ _
     · rw [qu];exact kr { s with ac:=s.ac++[gi] } _ _
   · exact kr { s with ac:=s.ac++[gi] } _ _
theorem HC (s:aD) (l:vu):(nK s l).av=s.av:=by
 cases l with
 | fu a v=>
   unfold nK
   dsimp only
   split
   · exact oI s 7
   · exact kr s a v
 | fy=>exact oI s 7
 | Gw=>exact oI s 8
 | cC ax=>exact oI s ax
 | take v=>rfl
 | r9=>exact k9 s 3
 | cM b v=>exact u6 s b v
theorem G0 (s:aD) (v:Int) (u:qX):(AD s v u).av=s.av:=by
 cases u with
 | take=>rfl
 | cM b=>exact u6 s b v
theorem BL (s:aD) (M:Mm):(cD s M).2.2.1.av=(match s.aA with | .fW=>2|_=>s.av):=by
 unfold cD
 cases hd:s.aA with
 | fW=>rfl
 | bm=>rfl
 | jV k=>exact HC _ k
 | ej=>
   dsimp only
   cases s.br with
   | none=>rfl
   | some e=>
     dsimp only [gD]
     split<;>rfl
 | bz r u=>
   show (dZ s M r u).2.2.1.av=s.av
   unfold dZ
   dsimp only
   split
   · rfl
   · split
     · exact k9 _ 9
     · split
       · dsimp only
         rw [G0]
         split<;>rfl
       · dsimp only
         rw [k9]
         split<;>rfl
 | eE p=>
   show (mE s M p).2.2.1.av=s.av
   unfold mE
   dsimp only
   split
   · rw [wd]
   · rfl
 | fF=>
   dsimp only
   cases s.aG with
   | none=>rfl
   | some l=>
     dsimp only [jk]
     split<;>rfl
 | dI=>
   dsimp only
   cases s.aE with
   | none=>rfl
   | some t=>
     dsimp only [im]
     split<;>rfl
 | dG ck=>
   show (hU s M ck).2.2.1.av=s.av
   unfold hU
   dsimp only
   split
   · rw [og]
   · split<;>rfl
 | cN=>
   show (fb s M).2.2.1.av=s.av
   unfold fb
   dsimp only
   split
   · rw [og]
   · split
     · rfl
     · rw [og]
 | et w=>
   show (iZ s M w).2.2.1.av=s.av
   unfold iZ
   dsimp only
   split<;>rfl
 | cK w=>rfl
 | ij=>rfl
 | fm=>exact pF s
 | eZ p=>
   show (kv s M p).2.2.1.av=s.av
   unfold kv
   dsimp only
   split
   · rw [pF]
   · rfl
theorem E0.step {s:aD} (h:E0 s) (M:Mm):E0 (cD s M).2.2.1:=by
 intro h0
 rw [BL] at h0
 split at h0
 · omega
 · obtain⟨h1,h2⟩:=h h0
   unfold cD
   rw [h2]
   exact⟨h1,h2⟩
theorem E0.SE {s s':aD} (h:E0 s) (h1:s'=s∨s'.av=1):E0 s':=by
 rcases h1 with rfl|h1
 · exact h
 · intro h0;omega
def gQ (qs:List nc):List Value:=qs.flatMap nc.cells
def qZ (A:AW) (v:Value) (qs:List nc):Prop:=mQ A 4 v qs.length (gQ qs)
theorem qZ.keeps {A B:AW} (hk:oP A B) {v:Value} {qs:List nc} (h:qZ A v qs):qZ B v qs:=mQ.keeps hk h
theorem qZ.cL {A:AW} {v:Value} {qs:List nc} (h:qZ A v qs):∃o c,v=.slice o qs.length c∧qs.length≤c:=mQ.cL h
theorem rH:∀(qs:List nc) (i:Nat) (hi:i<qs.length) (j:Nat),j<4→(gQ qs)[i*4+j]? = (qs[i].cells)[j]?
 | q::qs,0,_,j,hj=>by
   show ((q.cells)++gQ qs)[0*4+j]? = _
   rw [List.getElem?_append_left (by show 0*4+j<4;omega)]
   simp
 | q::qs,i+1,hi,j,hj=>by
   show ((q.cells)++gQ qs)[(i+1)*4+j]? = _
   rw [List.getElem?_append_right (by show 4≤(i+1)*4+j;omega)]
   rw [show (i+1)*4+j-q.cells.length=i*4+j by show (i+1)*4+j-4=_;omega]
   exact rH qs i (by simpa using hi) j hj
theorem qZ.at {A:AW} {o:Option Addr} {n c:Nat} {qs:List nc} (h:qZ A (.slice o n c) qs) {i:Nat} (hi:i<qs.length) :
 ∃p dh own,o=some p∧A.cy p.block=some (.cells dh own 4)∧∀j,j<4→dh[p.off+i*4+j]? = (qs[i].cells)[j]?:=by
 rcases h with ⟨⟨o',h1⟩,h2,_⟩|⟨p,c',dh,own,u,h1,h2,h3,rfl,h4,h5⟩
 · omega
 · injection h1 with e1 e2 e3
   subst e1
   refine⟨p,dh,own,rfl,h3,fun j hj=>?_⟩
   have:=rH qs i hi j hj
   rw [h5] at this
   rw [←this,List.getElem?_take_of_lt (by omega),List.getElem?_drop]
   congr 1
   omega
def vW:bG:=⟨4,2,0,0,0,0,0,2,2,0,0,9,false⟩
theorem sU:rj vW:=⟨⟨by decide,by decide,by decide,by decide,by decide,by decide,by decide,by decide,by decide,by decide,by decide,by decide,by decide,by decide⟩,.inl rfl,.inl rfl,rfl,rfl⟩
def nv (i:Nat) (s:aD):Int×aD:=if i=3 then CF s 3 7 else if i=4 then xN s 1 else (0,s)
def qn:Nat→aD×Mm
 | 0=>((jG (iD vW 1)).2,km vW 2 (hZ vW))
 | i+1=>((cD (nv i (qn i).1).2 (qn i).2).2.2.1,(cD (nv i (qn i).1).2 (qn i).2).2.2.2)
def qO:List Int:=[2,3,4,0,0,11,12,13,14,16,17,18,19,20,24]
set_option maxRecDepth 100000 in
theorem L8:∀i,i<15→(nv i (qn i).1).1=0∧(cD (nv i (qn i).1).2 (qn i).2).2.1=qO.getD i 0:=by decide +kernel
set_option maxRecDepth 100000 in
theorem Qh:(qn 15).1.av=2∧(qn 15).1.ax=1∧(qn 15).1.sy=1∧((qn 15).2 0).length=4∧((qn 15).2 0)[3]? = some 7∧((qn 15).2 2).getD 0 0=1:=by decide +kernel
theorem L7:∀i,i≤15→oW vW i (qn i).1∧oR vW 2 i (qn i).2
 | 0,_=>⟨Cy (tK sU.ok 0 1 (by decide)),B5 sU 2⟩
 | i+1,h=>by
   obtain⟨h1,h2⟩:=L7 i (by omega)
   have h3:oW vW i (nv i (qn i).1).2:=by
    unfold nv
    split
    · exact GW h1 3 7 (by decide)
    · split
      · exact DV h1 1
      · exact h1
   have:=BY sU.ok (by omega:i<2^40) h3 h2
   exact⟨this.1,this.2⟩
theorem FR {α β:Type} {f:α→Option β}:∀(L:List α) (ys:List β),L.mapM f=some ys→∀x∈L,∃y,f x=some y
 | [],_,_,x,hx=>by simp at hx
 | a::L,ys,h,x,hx=>by
   rw [List.mapM_cons] at h
   simp only [bind,Option.bind_eq_some_iff,pure,Option.some.injEq] at h
   obtain⟨y,hy,zs,hz,_⟩:=h
   rcases List.mem_cons.1 hx with rfl|hx
   · exact⟨y,hy⟩
   · exact FR L zs hz x hx
theorem Qi {α:Type} {cs:Array α} (h:cs.size=5):∃c0 c1 c2 c3 c4,cs = #[c0,c1,c2,c3,c4]:=by
 obtain⟨l⟩:=cs
 match l,h with
 | [c0,c1,c2,c3,c4],_=>exact⟨c0,c1,c2,c3,c4,rfl⟩
theorem okWide_arr5 {P:Program} {W:World} {k e:TypeId} (hu:P.underlying k=some (.array 5 e)) (size:P.cellsOf k=5) {r:Reach} {b0:Nat} {v:Value} (h:Value.okWide P W r b0 k v):∃xs:Array Value,v=.agg xs∧xs.size=5:=by
 simp only [Value.okWide,hu] at h
 obtain⟨cs,h1,h2,_⟩:=h
 exact⟨cs,h1,by rw [h2,size]⟩
theorem open_arr5 {H:Type} {enc:TypeId×Value→H} {P:Program} {W:World} {base:Nat} {sp:Nat→Bool} {PX:Bool} {k e:TypeId} {q:IntKind} (hu:P.underlying k=some (.array 5 e)) (he:P.underlying e=some (.int q)) (bu:P.cellsOf e=1) (size:P.cellsOf k=5)
 {xs:Array Value} (hn:xs.size=5) {d:DataW H} {ps:List MemPlace} (hd:DataW.Trod enc P W base sp PX k (.agg xs) d ps):∃a0 a1 a2 a3 a4,xs = #[.int q a0,.int q a1,.int q a2,.int q a3,.int q a4]:=by
 obtain⟨c0,c1,c2,c3,c4,rfl⟩:=Qi hn
 obtain⟨fuel,hf⟩:=hd
 cases fuel with
 | zero=>simp [DataW.trod] at hf
 | succ m=>
   rw [DataW.trod_step] at hf
   unfold DataW.trodStep at hf
   simp only [hu,Value.cells] at hf
   rw [if_pos (by rw [size];rfl)] at hf
   simp only [Option.map_eq_some_iff] at hf
   obtain⟨ys,hy,_⟩:=hf
   have hm:=FR _ ys hy
   rw [bu] at hm
   have g:∀i,i<5→∃a,([c0,c1,c2,c3,c4].drop (i*1)).take 1=[Value.int q a]:=fun i hi=>by
    obtain⟨y,h1⟩:=hm i (List.mem_range.2 hi)
    obtain⟨a,h2,_⟩:=DataW.trod_int he h1
    exact⟨a,h2⟩
   obtain⟨a0,e0⟩:=g 0 (by omega)
   obtain⟨a1,e1⟩:=g 1 (by omega)
   obtain⟨a2,e2⟩:=g 2 (by omega)
   obtain⟨a3,e3⟩:=g 3 (by omega)
   obtain⟨a4,e4⟩:=g 4 (by omega)
   simp at e0 e1 e2 e3 e4
   subst e0 e1 e2 e3 e4
   exact⟨a0,a1,a2,a3,a4,rfl⟩
def ReqsIn (w:World) (a:Option Addr) (len dA:Nat):Prop:=
 (a=none∧len=0∧dA=0)∨∃x,a=some x∧len≤dA∧dA≤maxLen∧∃Q:Nat→nc,∀i,i<dA→∀j,j<4→w.cell? (x.add (i*4+j))=(Q i).cells[j]?
theorem open_reqs {H:Type} {enc:TypeId×Value→H} {P:Program} {w:World} {base:Nat} {PX:Bool} {t e:TypeId} {f0 f1 f2 f3:Field} {fuel:Nat} {cs:List Value} {x:DataW H×List MemPlace} (ht:P.underlying t=some (.slice e)) (he:P.underlying e=some (.struct #[f0,f1,f2,f3]))
 (ce:P.cellsOf e=4) (o0:f0.offset=0∧P.cellsOf f0.type=1∧P.underlying f0.type=some (.int .i64)) (o1:f1.offset=1∧P.cellsOf f1.type=1∧P.underlying f1.type=some (.int .i64)) (o2:f2.offset=2∧P.cellsOf f2.type=1∧P.underlying f2.type=some (.int .i64)) (o3:f3.offset=3∧P.cellsOf f3.type=1∧P.underlying f3.type=some (.int .u64))
 (h:DataW.trod enc P w base (fun _=>true) PX fuel t cs=some x) {a:Option Addr} {len dA:Nat} (pO:cs=[.slice a len dA]):ReqsIn w a len dA:=by
 rcases Go.Deep.open_slice ht h with ⟨h0,_⟩|⟨b,l,c,m,n,D,Pl,h0,hb,hl,hm,VQ,_,hx⟩
 · rw [pO] at h0
   injection h0 with h0 _
   injection h0 with e1 e2 e3
   exact .inl ⟨e1,e2,e3⟩
 · rw [pO] at h0
   injection h0 with h0 _
   injection h0 with e1 e2 e3
   subst e2 e3
   simp only [if_true] at VQ
   subst VQ
   have Sn:∀i,i<m→∃q:nc,∀j,j<4→w.cell? (b.add (i*4+j))=q.cells[j]?:=by
    intro i hi
    obtain⟨oQ,h1,h2⟩:=hx i hi
    rw [ce] at h1
    obtain⟨_,cU,dg⟩:=World.cells?_some h1
    obtain⟨y0,y1,y2,y3,k,_,_,g0,g1,g2,g3⟩:=Go.Joins.trod_struct4 he h2
    obtain⟨c0,c1,c2,c3,hc⟩:∃c0 c1 c2 c3,oQ=[c0,c1,c2,c3]:=by
     match oQ,cU with
     | [c0,c1,c2,c3],_=>exact⟨c0,c1,c2,c3,rfl⟩
    subst hc
    rw [o0.1,o0.2.1] at g0
    rw [o1.1,o1.2.1] at g1
    rw [o2.1,o2.2.1] at g2
    rw [o3.1,o3.2.1] at g3
    obtain⟨z0,q0,_⟩:=DataW.trod_int o0.2.2 g0
    obtain⟨z1,q1,_⟩:=DataW.trod_int o1.2.2 g1
    obtain⟨z2,q2,_⟩:=DataW.trod_int o2.2.2 g2
    obtain⟨z3,q3,_⟩:=DataW.trod_int o3.2.2 g3
    simp at q0 q1 q2 q3
    subst q0 q1 q2 q3
    refine⟨⟨z0,z1,z2,z3⟩,fun j hj=>?_⟩
    have:=dg j hj
    rw [Go.Deep.add_add] at this
    rw [this]
    rfl
   refine .inr ⟨b,e1,hl,hm,?_⟩
   refine⟨fun i=>if hi:i<m then (Sn i hi).choose else ⟨0,0,0,0⟩,fun i hi j hj=>?_⟩
   dsimp only
   rw [dif_pos hi]
   exact(Sn i hi).choose_spec j hj
theorem qB (qs:List nc):(gQ qs).length=qs.length*4:=by
 unfold gQ
 induction qs with
 | nil=>rfl
 | cons q r ih=>rw [List.flatMap_cons,List.length_append,ih];show 4+_=_;simp;omega
theorem Bm (qs:List nc) (n:Nat) (h:n≤qs.length):(gQ qs).take (n*4)=gQ (qs.take n):=by
 have e:qs=qs.take n++qs.drop n:=(List.take_append_drop n qs).symm
 have hl:(gQ (qs.take n)).length=n*4:=by rw [qB,List.length_take,Nat.min_eq_left h]
 calc (gQ qs).take (n*4)=(gQ (qs.take n++qs.drop n)).take (n*4):=by rw [←e]
  _=(gQ (qs.take n)++gQ (qs.drop n)).take (n*4):=by unfold gQ;rw [List.flatMap_append]
  _=gQ (qs.take n):=by rw [←hl,List.take_left'];rfl
theorem intro_reqs {m:Mp} {A:AW} {w:World} (hs:Sim m A w) (xJ:A.NoOwn) {a:Option Addr} {len dA:Nat} (h:ReqsIn w a len dA) :
 ∃m' A' v qs,Mp.le m m'∧A.le A'∧Sim m' A' w∧A'.NoOwn∧cz m' v (.slice a len dA)∧qZ A' v qs:=by
 rcases h with ⟨rfl,rfl,rfl⟩|⟨x,rfl,OH,Zt,Q,dg⟩
 · exact⟨m,A,.slice none 0 0,[],Mp.le_refl m,AW.le.refl A,hs,xJ,.lc,.inl ⟨⟨none,rfl⟩,rfl,rfl⟩⟩
 · by_cases P2:dA=0
   · subst P2
     have:len=0:=by omega
     subst this
     exact⟨m,A,.slice (some ⟨0,0,some 0⟩) 0 0,[],Mp.le_refl m,AW.le.refl A,hs,xJ,.slice (.inr ⟨rfl,rfl,.inl rfl⟩) (Nat.le_refl _) (Nat.le_refl _),.inl ⟨⟨_,rfl⟩,rfl,rfl⟩⟩
   · have h0:w.cell? (x.add (0*4+0))=some (.int .i64 (Q 0).ag):=dg 0 (by omega) 0 (by omega)
     rw [show x.add (0*4+0)=x by unfold Addr.add;simp] at h0
     have zB:x.spot=none:=by
      unfold World.cell? at h0
      split at h0
      · split at h0
        · cases h0
        · rename_i zB;simpa using zB
      · cases h0
     have JO:∃iX e fr,w.heap[x.block]? = some (.cells iX e fr):=by
      unfold World.cell? at h0
      split at h0
      · rename_i c e fr hh;exact⟨c,e,fr,hh⟩
      · cases h0
     obtain⟨iX,e,fr,JO⟩:=JO
     have BF:∀i,i<dA→∀j,j<4→iX[x.off+(i*4+j)]? = (Q i).cells[j]?:=fun i hi j hj=>by
      have h1:=dg i hi j hj
      rw [oM _ _ zB] at h1
      simpa [World.cell?,JO] using h1
     obtain⟨qs,VH⟩:∃qs,qs=(List.range dA).map Q:=⟨_,rfl⟩
     have Lu:qs.length=dA:=by rw [VH];simp
     obtain⟨Qy,Nw⟩:=Sim.NP hs xJ (gQ qs) ⟨x.block,x.off,4,iX.size⟩ JO rfl (fun j v hv=>by
      have hj:=(List.getElem?_eq_some_iff.1 hv).1
      rw [qB,Lu] at hj
      have hi:j / 4<qs.length:=by omega
      have h1:=rH qs (j / 4) hi (j % 4) (by omega)
      rw [show j / 4*4+j % 4=j by omega,hv] at h1
      have h2:=BF (j / 4) (by omega) (j % 4) (by omega)
      rw [show x.off+(j / 4*4+j % 4)=x.off+j by omega] at h2
      have h3:qs[j / 4]=Q (j / 4):=by simp [VH]
      rw [h3] at h1
      refine⟨v,h2.trans h1.symm,?_⟩
      have h4:j % 4=0∨j % 4=1∨j % 4=2∨j % 4=3:=by omega
      rcases h4 with h4|h4|h4|h4<;>rw [h4] at h1<;>simp [nc.cells] at h1<;>subst h1<;>exact .int _ _)
     have me:x.off+dA*4≤iX.size:=by
      have h1:iX[x.off+((dA-1)*4+3)]? = some (.int .u64 (Q (dA-1)).v):=BF (dA-1) (by omega) 3 (by omega)
      have:=(Array.getElem?_eq_some_iff.1 h1).1
      omega
     refine⟨_,_,.slice (some ⟨A.next,0,none⟩) len len,qs.take len,hs.DD _,AW.le.alloc A _,Qy,Nw,?_,?_⟩
     · refine .slice (.inl ⟨rfl,zB,⟨x.block,x.off,4,iX.size⟩,by simp [Mp.ext],rfl,rfl,?_⟩) (Nat.le_refl _) OH
       exact me
     · have hl:(qs.take len).length=len:=by rw [List.length_take,Nat.min_eq_left (by omega)]
       refine .inr ⟨⟨A.next,0,none⟩,len,gQ qs,false,4,?_,?_,AW.gO _ _,rfl,?_,?_⟩
       · rw [hl]
       · rw [hl];exact Nat.le_refl _
       · rw [hl,qB,Lu];show 0+len*4≤dA*4;omega
       · rw [List.drop_zero,hl,Bm _ _ (by omega)]
theorem intro_arr5 {m:Mp} (a0 a1 a2 a3 a4:Int):cz m (.agg #[.int .i64 a0,.int .i64 a1,.int .i64 a2,.int .i64 a3,.int .i64 a4]) (.agg #[.int .i64 a0,.int .i64 a1,.int .i64 a2,.int .i64 a3,.int .i64 a4]):=by
 refine .agg rfl fun i v v' h1 h2=>?_
 rw [h1] at h2
 injection h2 with h2
 subst h2
 have hi:=(Array.getElem?_eq_some_iff.1 h1).1
 have:i=0∨i=1∨i=2∨i=3∨i=4:=by simp at hi;omega
 rcases this with rfl|rfl|rfl|rfl|rfl<;>simp at h1<;>subst h1<;>exact .int _ _
end Go.Stx
