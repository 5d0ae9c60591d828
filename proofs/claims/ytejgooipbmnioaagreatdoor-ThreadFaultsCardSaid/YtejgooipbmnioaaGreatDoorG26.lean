/-
 Programs of instructions in memory; where a transaction ends; letters in a text.
-/
import Derived.Test.YtejgooipbmnioaaGreatDoorG25
set_option linter.unusedVariables false
set_option linter.unusedSimpArgs false
set_option linter.unusedSectionVars false
set_option maxRecDepth 20000
set_option maxHeartbeats 4000000
namespace Go.Stx
open Go Go.Proofs
attribute [local irreducible] TW cg eg bn aC aV cR df
section
namespace TGFbA
theorem jD [Gl] {A:AW} {L:List It} {T:Prop} (hS:ak A L) (hw:A.Wf) (h':(bg A L∧bB A L∧cj L)=T:=by first|(dsimp only [af,ag,bg,bB,cj,eA];done)|exact rfl):T:=h'▸hS.eu hw
end TGFbA
open TGFbA
variable [Gl]
def aP (i:cz):List Value:=[.int .i64 i.op,.int .i64 i.a,.int .i64 i.b,.int .i64 i.c,.int .i64 i.cQ]
def lX (A:AW) (v:Value) (p:List cz):Prop:=iF A 5 v p.length (p.flatMap aP)
theorem yP:∀(l:List cz) (j:Nat) (hj:j<l.length),((l.flatMap aP).drop (j*5)).take 5=aP l[j]
 | x::l,0,_=>by simp [aP]
 | x::l,j+1,h=>by
   have:=yP l j (by simpa using h)
   have e:(j+1)*5=(aP x).length+j*5:=by simp [aP];omega
   rw [List.flatMap_cons,e,←List.drop_drop,List.drop_left]
   simpa using this
theorem lX.dJ {A:AW} {v:Value} {l:List cz} (h:lX A v l):∃o c,v=.slice o l.length c∧l.length≤c:=iF.dJ h
theorem lX.le {A B:AW} (hl:A.le B) (hw:A.Wf) {v:Value} {l:List cz} (h:lX A v l):lX B v l:=iF.le hl hw h
theorem lX.at {A:AW} {o:Option Addr} {c n:Nat} {l:List cz} (h:lX A (.slice o n c) l) {i:Nat} (hi:i<l.length) :
 ∃p cK,o=some p∧A.cK p.block=some cK∧p.off+i*5+5≤cK.length∧(cK.drop (p.off+i*5)).take 5=aP l[i]:=by
 rcases h with ⟨⟨o,h1⟩,h2,_⟩|⟨p,c,cK,own,u,h1,h2,h3,h4,h5,h6⟩
 · omega
 · injection h1 with h1 _ _
   refine⟨p,cK,h1,AW.Cs h3,by omega,?_⟩
   rw [←yP l i hi,h6,←List.drop_drop,List.drop_take,List.take_take]
   congr 1
   omega
theorem EL {cK:List Value} {b:Nat} {x:cz} (h:(cK.drop b).take 5=aP x) (q:Nat) (hq:q<5):cK[b+q]? = (aP x)[q]?:=by
 rw [←h,List.getElem?_take_of_lt hq,List.getElem?_drop]
theorem vA {cK:List Value} {b:Nat} {x:cz} (h:(cK.drop b).take 5=aP x):cK[b]? = some (.int .i64 x.op):=EL h 0 (by omega)
set_option maxHeartbeats 1000000 in
theorem rg (v:Value) (p:List cz) (b:Nat) (A:AW) (h:lX A v p) (hl:p.length<2^30) (hb:b<p.length) :
 aC Tryz.prog 204 [v,.int .i64 b] A (fun u A'=>u=.int .i64 (dy p b)∧A=A'):=by
 refine ab Tryz.func204 rfl (by kernel_rfl) fun hw=>?_
 obtain⟨o,c,rfl,_⟩:=h.dJ
 have Fz:IntKind.i64.wrap ((b:Int)+1)=((b+1:Nat):Int):=aw (by omega) (by omega)
 revert hw;refine W trivial (J1 Fz) (J1 ?_)<;>unhygienic intros
 refine eS (fun k fr A'=>A=A'∧∃i:Nat,k=p.length-i∧i≤p.length∧fr 0=.slice o p.length c∧fr 5=.int .i64 i∧dy p b=og p i) (p.length-(b+1)) ?_ ?_
 · exact⟨rfl,b+1,rfl,by omega,rfl,rfl,rfl⟩
 · rintro k fr A' ⟨rfl,i,rfl,hi,h0,h5,he⟩
   by_cases dO:i<p.length
   · obtain⟨q,cK,rfl,dG,eT,bA⟩:=h.at dO
     have mg:=vA bA
     have mf:IntKind.i64.wrap ((i:Int)+1)=((i+1:Nat):Int):=aw (by omega) (by omega)
     have cX:=s9 dO
     have ho:eh p i=p[i].op:=pj (List.getElem?_eq_getElem dO)
     rw [ho] at cX
     by_cases h8:p[i].op=8
     · rw [if_pos h8] at cX
       refine dI ?_
       revert hw;(repeat first|clear hw|revert hc|revert zn|revert zA|revert R|revert K);refine W trivial (J8 h0 h5 dG mg eT dO mf h8) (J1 ?_)<;>unhygienic intros
       simp [he,cX]
     · rw [if_neg h8] at cX
       refine dI ?_
       revert hw;(repeat first|clear hw|revert hc|revert zn|revert zA|revert R|revert K);refine W trivial (J8 h0 h5 dG mg eT dO mf h8) (J1 ?_)<;>unhygienic intros
       refine⟨p.length-(i+1),by omega,rfl,i+1,rfl,by omega,?_,?_,?_⟩
       · simp [h0]
       · simp
       · rw [he,cX]
   · have DN:i=p.length:=by omega
     refine dI ?_
     revert hw;(repeat first|clear hw|revert hc|revert zn|revert zA|revert R|revert K);refine W trivial (J3 h0 h5 dO) (J1 ?_)<;>unhygienic intros
     subst DN
     simp [he,vy (Nat.le_refl _)]
set_option maxHeartbeats 1000000 in
theorem IX (v:Value) (p:List cz) (k t:Nat) (A:AW) (h:lX A v p) (hl:p.length<2^30) (hk:k<p.length) (ht:t≤p.length) :
 aC Tryz.prog 205 [v,.int .i64 k,.int .i64 t] A (fun u A'=>u=.bool (jk p k t)∧A=A'):=by
 refine ab Tryz.func205 rfl (by kernel_rfl) fun hw=>?_
 obtain⟨o,c,rfl,_⟩:=h.dJ
 have Fz:IntKind.i64.wrap ((k:Int)+1)=((k+1:Nat):Int):=aw (by omega) (by omega)
 have Oj:IntKind.i64.wrap ((p.length:Int)-1)=((p.length-1:Nat):Int):=by rw [aw (by omega) (by omega)];omega
 revert hw;refine W trivial (J1 Fz) (J1 ?_)<;>unhygienic intros
 refine eS (fun n fr A'=>A=A'∧∃i:Nat,n=t-i∧k+1≤i∧fr 0=.slice o p.length c∧fr 2=.int .i64 t∧fr 7=.int .i64 i∧
  (jk p k t=true↔∃b,i≤b∧b<t∧eh p b=7∧t≤min (dy p b) (p.length-1))) (t-(k+1)) ?_ ?_
 · refine⟨rfl,k+1,rfl,Nat.le_refl _,rfl,rfl,rfl,?_⟩
   rw [jk,List.any_eq_true]
   constructor
   · rintro ⟨b,hb,hh⟩
     simp only [Bool.and_eq_true,decide_eq_true_eq] at hh
     exact⟨b,by omega,List.mem_range.1 hb,hh.1.2,hh.2⟩
   · rintro ⟨b,h1,h2,h3,h4⟩
     exact⟨b,List.mem_range.2 h2,by simp only [Bool.and_eq_true,decide_eq_true_eq];exact⟨⟨by omega,h3⟩,h4⟩⟩
 · rintro n fr A' ⟨rfl,i,rfl,hi,h0,h2,h7,he⟩
   by_cases dO:i<t
   · have DN:i<p.length:=by omega
     obtain⟨q,cK,rfl,dG,eT,bA⟩:=h.at DN
     have mg:=vA bA
     have mf:IntKind.i64.wrap ((i:Int)+1)=((i+1:Nat):Int):=aw (by omega) (by omega)
     have ho:eh p i=p[i].op:=pj (List.getElem?_eq_getElem DN)
     by_cases h7':p[i].op=7
     · have pm:=rg _ p i A h hl DN
       by_cases OE:t≤min (dy p i) (p.length-1)
       · have e:jk p k t=true:=he.2 ⟨i,Nat.le_refl _,dO,by rw [ho];exact h7',OE⟩
         have DO:((t:Int)≤if p.length-1<dy p i then ((p.length-1:Nat):Int) else (dy p i:Int)):=by split<;>omega
         refine dI ?_
         revert hw;(repeat first|clear hw|revert hc|revert zn|revert zA|revert R|revert K);refine W (J1 @pm) (rQ h0 h2 h7 dG mg eT dO DN mf Oj h7' DO e) (J1 ?_)<;>unhygienic intros
         simp [dN,bH,bO,cH,bI,bM,e]
       · have DO:¬((t:Int)≤if p.length-1<dy p i then ((p.length-1:Nat):Int) else (dy p i:Int)):=by split<;>omega
         refine dI ?_
         revert hw;(repeat first|clear hw|revert hc|revert zn|revert zA|revert R|revert K);refine W (J1 @pm) (AT h0 h2 h7 dG mg eT dO DN mf Oj h7' DO) (J1 ?_)<;>unhygienic intros
         refine⟨t-(i+1),by omega,rfl,i+1,rfl,by omega,?_,?_,?_,?_⟩
         · simp [h0]
         · simp [h2]
         · simp
         · rw [he]
           constructor
           · rintro ⟨b,g1,g2,g3,g4⟩
             have:b≠i:=fun e=>OE (by rw [←e];exact g4)
             exact⟨b,by omega,g2,g3,g4⟩
           · rintro ⟨b,g1,g2,g3,g4⟩
             exact⟨b,by omega,g2,g3,g4⟩
     · refine dI ?_
       revert hw;(repeat first|clear hw|revert hc|revert zn|revert zA|revert R|revert K);refine W trivial (Ix h0 h2 h7 dG mg eT dO DN mf Oj h7') (J1 ?_)<;>unhygienic intros
       refine⟨t-(i+1),by omega,rfl,i+1,rfl,by omega,?_,?_,?_,?_⟩
       · simp [h0]
       · simp [h2]
       · simp
       · rw [he]
         constructor
         · rintro ⟨b,g1,g2,g3,g4⟩
           have:b≠i:=fun e=>h7' (by rw [←ho,←e];exact g3)
           exact⟨b,by omega,g2,g3,g4⟩
         · rintro ⟨b,g1,g2,g3,g4⟩
           exact⟨b,by omega,g2,g3,g4⟩
   · have e:jk p k t=false:=by
      cases hp:jk p k t with
      | false=>rfl
      | true=>obtain⟨b,g1,g2,_⟩:=he.1 hp;omega
     refine dI ?_
     revert hw;(repeat first|clear hw|revert hc|revert zn|revert zA|revert R|revert K);refine W trivial (J5 h0 h2 h7 dO e) (J1 ?_)<;>unhygienic intros
     simp [dN,bH,bO,cH,bI,bM,e]
end
section
open Go.Proofs Go
variable [Gl]
theorem d9.De {P:Program} {A:AW} {t e:TypeId} {i:TypeInfo} {z:Value} {v:Value} {size m:Nat} {cs kh:List Value} {F:HP} (n:Nat)
 (hu:P.underlying t=some (.slice e)) (hi:P.info? e=some i) (hz:i.zero=some z) (fH:i.size=size) (mr:z.cells.size=size) (h0:0<size)
 (hn:A.bR n=some (.cells kh true size)) (ER:kh.length=size) (lQ:kh.all Value.oneCell'=true) (h:bz A (d9 size v m cs*F)) (bW:m<2 ^ 30) (vI:i.bytes≤2 ^ 16) (hw:A.Wf) :
 ∃v' A',fC P A t t v (.slice (some ⟨n,0,none⟩) 1 1)=some (v',A')∧bz A' (d9 size v' (m+1) (cs++kh)*F)∧A'.Wf∧A.next≤A'.next:=by
 subst fH
 have jH:hY A i.size (.slice (some ⟨n,0,none⟩) 1 1)=some (1,kh):=by
  have e1:kh.take i.size=kh:=List.take_of_length_le (by omega)
  simp [hY,AW.cK,hn,ER,e1]
 have hb:(m+1)*i.bytes≤140737488355328:=by
  have h1:=Nat.mul_le_mul (show m+1≤2 ^ 30 by omega) vI
  omega
 have jX:m+1≤140737488355328:=by omega
 rcases d9.cases h with ⟨rfl,rfl,rfl,h2⟩|⟨b,off,c,cK,rfl,h1,h2,h3,h4⟩
 · refine⟨.slice (some ⟨A.next,0,none⟩) (0+1) (0+1),A.alloc (.cells ([]++kh) true i.size),?_,?_,hw.alloc _,by simp⟩
   · simp only [fC,hu,hi,hz,jH,fB]
     rw [if_pos ⟨mr,h0,trivial⟩,if_neg (by omega),if_pos ⟨jX,hb,lQ⟩]
     try simp
   · have:=h2.alloc hw (.cells ([]++kh) true i.size)
     have h9:bz (A.alloc (.cells ([]++kh) true i.size)) (pt A.next (.cells kh true i.size)*F):=this
     exact d9.mk (size:=i.size) (n:=1) (off:=0) (c:=1) (by simp) (by simp [ER]) (by simp [←ER]) h9
 · have hg:=h4.bR
   have dO:=hw.lt hg
   have i8:cs.length=m*i.size:=by rw [h3,List.length_take,List.length_drop];omega
   refine⟨.slice (some ⟨A.next,0,none⟩) (m+1) (m+1),(A.set b none).alloc (.cells ((cK.drop off).take (m*i.size)++kh) true i.size),?_,?_,
    (hw.set none dO).alloc _,by simp⟩
   · simp only [fC,hu,hi,hz,jH,fB,hg]
     rw [if_pos ⟨mr,h0,trivial⟩,if_neg (by simp),if_pos ⟨trivial,h2⟩]
     simp only
     rw [if_neg (by omega),if_pos ⟨jX,hb,lQ⟩]
   · have h5:=(h4.GB).alloc (hw.set none dO) (.cells ((cK.drop off).take (m*i.size)++kh) true i.size)
     have h6:bz ((A.set b none).alloc (.cells ((cK.drop off).take (m*i.size)++kh) true i.size)) (pt A.next (.cells (cs++kh) true i.size)*F):=by
      have:=h5
      rw [←h3] at this ⊢
      exact this
     have h7:(cs++kh).length=(m+1)*i.size:=by rw [List.length_append,i8,ER,Nat.add_mul,Nat.one_mul]
     refine d9.mk (Nat.le_refl _) (by omega) ?_ h6
     rw [List.drop_zero,List.take_of_length_le (by omega)]
theorem d9.NR {P:Program} {A:AW} {t e:TypeId} {i:TypeInfo} {z:Value} {v x:Value} {size m m2:Nat} {cs kh:List Value} {F:HP}
 (hu:P.underlying t=some (.slice e)) (hi:P.info? e=some i) (hz:i.zero=some z) (fH:i.size=size) (mr:z.cells.size=size) (h0:0<size)
 (hx:iF A size x m2 kh) (lQ:kh.all Value.oneCell'=true) (h:bz A (d9 size v m cs*F)) (bW:m+m2<2 ^ 30) (vI:i.bytes≤2 ^ 16) (hw:A.Wf) :
 ∃v' A',fC P A t t v x=some (v',A')∧bz A' (d9 size v' (m+m2) (cs++kh)*F)∧A'.Wf∧A.next≤A'.next:=by
 subst fH
 have jH:hY A i.size x=some (m2,kh):=iF.lj hx
 have ER:kh.length=m2*i.size:=hx.length
 have hb:(m+m2)*i.bytes≤140737488355328:=by
  have h1:=Nat.mul_le_mul (show m+m2≤2 ^ 30 by omega) vI
  omega
 have jX:m+m2≤140737488355328:=by omega
 by_cases hm:m2=0
 · subst hm
   have I8:kh=[]:=List.eq_nil_of_length_eq_zero (by omega)
   subst I8
   refine⟨v,A,?_,by simpa using h,hw,Nat.le_refl _⟩
   have holds:∃b,fB A i.size v=some (b,m,cs):=by
    rcases d9.cases h with ⟨rfl,rfl,rfl,h2⟩|⟨b,off,c,cK,rfl,h1,h2,h3,h4⟩
    · exact⟨none,rfl⟩
    · refine⟨some ⟨b,off,none⟩,?_⟩
      simp [fB,h4.bR,h2,h3]
   obtain⟨b,th⟩:=holds
   simp [fC,hu,hi,hz,mr,h0,jH,th]
 · rcases d9.cases h with ⟨rfl,rfl,rfl,h2⟩|⟨b,off,c,cK,rfl,h1,h2,h3,h4⟩
   · refine⟨.slice (some ⟨A.next,0,none⟩) (0+m2) (0+m2),A.alloc (.cells kh true i.size),?_,?_,hw.alloc _,by simp⟩
     · simp only [fC,hu,hi,hz,jH,fB]
       rw [if_pos ⟨mr,h0,trivial⟩,if_neg hm,if_pos ⟨jX,hb,lQ⟩]
       simp
     · have h9:=h2.alloc hw (.cells kh true i.size)
       exact d9.mk (size:=i.size) (n:=0+m2) (off:=0) (c:=0+m2) (Nat.le_refl _) (by simp [ER]) (by simp [←ER]) h9
   · have hg:=h4.bR
     have dO:=hw.lt hg
     have i8:cs.length=m*i.size:=by rw [h3,List.length_take,List.length_drop];omega
     refine⟨.slice (some ⟨A.next,0,none⟩) (m+m2) (m+m2),(A.set b none).alloc (.cells ((cK.drop off).take (m*i.size)++kh) true i.size),?_,?_,
      (hw.set none dO).alloc _,by simp⟩
     · simp only [fC,hu,hi,hz,jH,fB,hg]
       rw [if_pos ⟨mr,h0,trivial⟩,if_neg (by simp),if_pos ⟨trivial,h2⟩]
       simp only
       rw [if_neg hm,if_pos ⟨jX,hb,lQ⟩]
     · have h5:=(h4.GB).alloc (hw.set none dO) (.cells ((cK.drop off).take (m*i.size)++kh) true i.size)
       have h6:bz ((A.set b none).alloc (.cells ((cK.drop off).take (m*i.size)++kh) true i.size)) (pt A.next (.cells (cs++kh) true i.size)*F):=by
        have:=h5
        rw [←h3] at this ⊢
        exact this
       have h7:(cs++kh).length=(m+m2)*i.size:=by rw [List.length_append,i8,ER,Nat.add_mul]
       refine d9.mk (Nat.le_refl _) (by omega) ?_ h6
       rw [List.drop_zero,List.take_of_length_le (by omega)]
section
variable {P:Program} {S:AW→Prop} {K:Fr→AW→Prop} {fR:List uZ} {a:Fr} {A:AW} {d:Option Tmp} {m:Nat} {x y:Operand} {t e:TypeId} {i:TypeInfo} {z:Value} {n size:Nat} {v:Value} {cs kh:List Value} {L K':List It}
theorem Kx {k':Value→AW→Prop} (hu:P.underlying t=some (.slice e)) (hi:P.info? e=some i) (hz:i.zero=some z) (fH:i.size=size) (mr:z.cells.size=size) (h0:0<size) (vI:i.bytes≤2 ^ 16)
 (e1:ip a x=v) (e2:ip a y=.slice (some ⟨n,0,none⟩) 1 1) (hw:A.Wf) (hS:ak A L) (hp:ap L (.h (d9 size v m cs)) K') (hn:A.bR n=some (.cells kh true size)) (ER:kh.length=size) (lQ:kh.all Value.oneCell'=true) (bW:m<2 ^ 30)
 (hk:∀o c A',ak A' (.h (d9 size (.slice o (m+1) c) (m+1) (cs++kh))::K')→A'.Wf→A.next≤A'.next→k' (.slice o (m+1) c) A') :
 gz P (.call ⟨.builtin .append,#[x,y],#[t,t]⟩) (ip a) A k':=by
 have h1:bz A (d9 size v m cs*aR K'):=by
  unfold ak at hS
  rw [hp.aR] at hS
  exact hS
 obtain⟨v',A',e3,h2,h3,h4⟩:=d9.De (P:=P) (t:=t) n hu hi hz fH mr h0 hn ER lQ h1 bW vI hw
 obtain⟨o,c,h5,_⟩:=(d9.is h2).dJ
 subst h5
 exact vP e1 e2 e3 (hk o c A' h2 h3 h4)
theorem KY (hu:P.underlying t=some (.slice e)) (hi:P.info? e=some i) (hz:i.zero=some z) (fH:i.size=size) (mr:z.cells.size=size) (h0:0<size) (vI:i.bytes≤2 ^ 16)
 (e1:ip a x=v) (e2:ip a y=.slice (some ⟨n,0,none⟩) 1 1) (hw:A.Wf) (hS:ak A L) (hp:ap L (.h (d9 size v m cs)) K') (hn:A.bR n=some (.cells kh true size)) (ER:kh.length=size) (lQ:kh.all Value.oneCell'=true) (bW:m<2 ^ 30)
 (hs:∀A',ak A' K'→S A')
 (hk:∀o c A',ak A' (.h (d9 size (.slice o (m+1) c) (m+1) (cs++kh))::K')→A'.Wf→A.next≤A'.next→bn P S K fR (eb a d (.slice o (m+1) c)) A') :
 bn P S K (⟨d,.call ⟨.builtin .append,#[x,y],#[t,t]⟩,none,3⟩::fR) a A:=by
 unfold bn
 rw [if_pos (by simp)]
 exact Kx hu hi hz fH mr h0 vI e1 e2 hw hS hp hn ER lQ bW fun o c A' h1 h2 h3=>⟨hs A' h1.tail,hk o c A' h1 h2 h3⟩
end
def lp.cells (o:lp):List Value:=[.int .i64 o.pc,.int .i64 o.fY,.int .u64 o.val]
def oC (l:List lp):List Value:=l.flatMap lp.cells
def hZ (v:Value) (l:List lp):HP:=d9 3 v l.length (oC l)
theorem KK (l:List lp) (o:lp):oC l++o.cells=oC (l++[o]):=by simp [oC]
section
variable {S:AW→Prop} {K:Fr→AW→Prop} {fR:List uZ} {a:Fr} {A:AW} {d:Option Tmp} {x y:Operand} {l:List lp} {n:Nat} {v:Value} {L K' K2:List It} {y1 y2 y3:Int}
theorem Bt (e1:ip a x=v) (e2:ip a y=.slice (some ⟨n,0,none⟩) 1 1) (hw:A.Wf) (hS:ak A L) (hp:ap L (.h (hZ v l)) K') (hn:A.bR n=some (.cells [.int .i64 y1,.int .i64 y2,.int .u64 y3] true 3)) (bW:l.length<2 ^ 30)
 (hs:∀A',ak A' K'→S A')
 (hk:∀o c A',ak A' (.h (hZ (.slice o (l.length+1) c) (l++[⟨y1,y2,y3⟩]))::K')→A'.Wf→A.next≤A'.next→bn Tryz.prog S K fR (eb a d (.slice o (l.length+1) c)) A') :
 bn Tryz.prog S K (⟨d,.call ⟨.builtin .append,#[x,y],#[64,64]⟩,none,3⟩::fR) a A:=by
 refine KY (P:=Tryz.prog) (size:=3) (m:=l.length) (cs:=oC l) Tryz.underlying64 Tryz.info63 Tryz.zero63 rfl rfl (by omega) (by decide) e1 e2 hw hS hp hn rfl rfl bW hs fun o c A' h1 h2 h3=>hk o c A' ?_ h2 h3
 have e:hZ (.slice o (l.length+1) c) (l++[⟨y1,y2,y3⟩])=d9 3 (.slice o (l.length+1) c) (l.length+1) (oC l++[.int .i64 y1,.int .i64 y2,.int .u64 y3]):=by
  unfold hZ
  rw [←KK,List.length_append]
  rfl
 rw [e]
 exact h1
theorem HL (l:List lp):(oC l).all Value.oneCell'=true:=by
 rw [List.all_eq_true]
 intro v hv
 obtain⟨x,_,hx⟩:=List.mem_flatMap.1 hv
 simp only [lp.cells,List.mem_cons,List.not_mem_nil,or_false] at hx
 rcases hx with rfl|rfl|rfl<;>rfl
theorem KZ {v2:Value} {l2:List lp} (e1:ip a x=v) (e2:ip a y=v2) (hw:A.Wf) (hS:ak A L) (hp:ap L (.h (hZ v l)) K') (JQ:ap L (.h (hZ v2 l2)) K2) (bW:l.length+l2.length<2 ^ 30)
 (hs:∀A',ak A' K'→S A')
 (hk:∀o c A',ak A' (.h (hZ (.slice o (l.length+l2.length) c) (l++l2))::K')→A'.Wf→A.next≤A'.next→bn Tryz.prog S K fR (eb a d (.slice o (l.length+l2.length) c)) A') :
 bn Tryz.prog S K (⟨d,.call ⟨.builtin .append,#[x,y],#[64,64]⟩,none,3⟩::fR) a A:=by
 have h1:bz A (d9 3 v l.length (oC l)*aR K'):=by
  have mh:=hS
  unfold ak at mh
  rw [hp.aR] at mh
  exact mh
 have h2:iF A 3 v2 l2.length (oC l2):=by
  have mh:=hS
  unfold ak at mh
  rw [JQ.aR] at mh
  exact d9.is mh
 obtain⟨v',A',e3,h3,h4,h5⟩:=d9.NR (P:=Tryz.prog) (size:=3) (t:=64) Tryz.underlying64 Tryz.info63 Tryz.zero63 rfl rfl (by omega) h2 (HL l2) h1 bW (by decide) hw
 obtain⟨o,c,h6,_⟩:=(d9.is h3).dJ
 subst h6
 have h7:ak A' (.h (hZ (.slice o (l.length+l2.length) c) (l++l2))::K'):=by
  have e:hZ (.slice o (l.length+l2.length) c) (l++l2)=d9 3 (.slice o (l.length+l2.length) c) (l.length+l2.length) (oC l++oC l2):=by
   unfold hZ
   rw [List.length_append,show oC (l++l2)=oC l++oC l2 by simp [oC]]
  show bz A' (hZ (.slice o (l.length+l2.length) c) (l++l2)*aR K')
  rw [e]
  exact h3
 unfold bn
 rw [if_pos (by simp)]
 exact vP e1 e2 e3 ⟨hs A' h7.tail,hk o c A' h7 h4 h5⟩
end
structure vZ where
 bQ:Int
 jP:R8
 gB:Int
 aK:Bool
 eO:Int
 cf:bC
 id:Int
 nt:Int
 pc:Int
 dC:R8
 iZ:Int
 done:Bool
 gv:Int
structure JV where
 va:Value
 vs:Value
 vf:Value
 vd:Value
 vc:Value
 vl:Value
 vo:Value
def be.d (t:be):vZ:=⟨t.bQ,t.jP,t.gB,t.aK,t.eO,t.cf,t.id,t.nt,t.pc,t.dC,t.iZ,t.done,t.gv⟩
def kX (d:vZ) (w:JV):List Value:=[w.va,.int .i64 d.bQ,.int .u64 d.jP.r0,.int .u64 d.jP.r1,.int .u64 d.jP.r2,.int .u64 d.jP.r3,.int .u64 d.jP.r4,.int .u64 d.jP.r5,.int .u64 d.jP.r6,.int .u64 d.jP.r7,.int .i64 d.gB,w.vs,.bool d.aK,.int .i64 d.eO,w.vf,w.vd,.int .i64 d.cf.aQ,.int .i64 d.cf.an,.int .i64 d.cf.base,.int .i64 d.cf.c0,.int .i64 d.cf.c1,.int .i64 d.cf.c2,.int .i64 d.cf.c3,.int .i64 d.cf.reads,.int .i64 d.cf.bN,.int .i64 d.cf.ai,.int .i64 d.cf.av,.int .i64 d.cf.ax,.bool d.cf.aK,.int .i64 d.id,.int .i64 d.nt,w.vc,.int .i64 d.pc,.int .u64 d.dC.r0,.int .u64 d.dC.r1,.int .u64 d.dC.r2,.int .u64 d.dC.r3,.int .u64 d.dC.r4,.int .u64 d.dC.r5,.int .u64 d.dC.r6,.int .u64 d.dC.r7,.int .i64 d.iZ,.bool d.done,w.vl,w.vo,.int .i64 d.gv]
abbrev nM (d:vZ) (w:JV):dK:=.cells (kX d w) true 1
variable {d:vZ} {w:JV}
@[simp] theorem S7:(kX d w).length=46:=rfl
@[simp] theorem Um:(kX d w)[0]? = some (w.va):=rfl
@[simp] theorem Ul:(kX d w)[1]? = some (.int .i64 d.bQ):=rfl
@[simp] theorem Tp:(kX d w)[10]? = some (.int .i64 d.gB):=rfl
@[simp] theorem To:(kX d w)[11]? = some (w.vs):=rfl
@[simp] theorem Tn:(kX d w)[12]? = some (.bool d.aK):=rfl
@[simp] theorem Tm:(kX d w)[13]? = some (.int .i64 d.eO):=rfl
@[simp] theorem Tl:(kX d w)[14]? = some (w.vf):=rfl
@[simp] theorem Tk:(kX d w)[15]? = some (w.vd):=rfl
@[simp] theorem Th:(kX d w)[29]? = some (.int .i64 d.id):=rfl
@[simp] theorem Tf:(kX d w)[30]? = some (.int .i64 d.nt):=rfl
@[simp] theorem Te:(kX d w)[31]? = some (w.vc):=rfl
@[simp] theorem Td:(kX d w)[32]? = some (.int .i64 d.pc):=rfl
@[simp] theorem Tc:(kX d w)[41]? = some (.int .i64 d.iZ):=rfl
@[simp] theorem Tb:(kX d w)[42]? = some (.bool d.done):=rfl
@[simp] theorem Ta:(kX d w)[43]? = some (w.vl):=rfl
@[simp] theorem S9:(kX d w)[44]? = some (w.vo):=rfl
@[simp] theorem S8:(kX d w)[45]? = some (.int .i64 d.gv):=rfl
@[simp] theorem Tj:(kX d w)[16]? = some (.int .i64 d.cf.aQ):=rfl
@[simp] theorem Ti:(kX d w)[28]? = some (.bool d.cf.aK):=rfl
@[simp] theorem Un:((kX d w).drop 16).take 13=[.int .i64 d.cf.aQ,.int .i64 d.cf.an,.int .i64 d.cf.base,.int .i64 d.cf.c0,.int .i64 d.cf.c1,.int .i64 d.cf.c2,.int .i64 d.cf.c3,.int .i64 d.cf.reads,.int .i64 d.cf.bN,.int .i64 d.cf.ai,.int .i64 d.cf.av,.int .i64 d.cf.ax,.bool d.cf.aK]:=rfl
@[simp] theorem Uk:((kX d w).drop 33).take 8=d.dC.cells:=rfl
@[simp] theorem Ug:((kX d w).drop 2).take 8=d.jP.cells:=rfl
@[simp] theorem Uh:((kX d w).drop 32).take 11=.int .i64 d.pc::(d.dC.cells++[.int .i64 d.iZ,.bool d.done]):=rfl
@[simp] theorem Uj {x:Value}:(kX d w).set 0 (x)=kX d { w with va:=x }:=rfl
@[simp] theorem Ui {x:Int}:(kX d w).set 1 (.int .i64 x)=kX { d with bQ:=x } w:=rfl
@[simp] theorem S6 {x:Int}:(kX d w).set 10 (.int .i64 x)=kX { d with gB:=x } w:=rfl
@[simp] theorem SZ {x:Value}:(kX d w).set 11 (x)=kX d { w with vs:=x }:=rfl
@[simp] theorem SY {x:Bool}:(kX d w).set 12 (.bool x)=kX { d with aK:=x } w:=rfl
@[simp] theorem SX {x:Int}:(kX d w).set 13 (.int .i64 x)=kX { d with eO:=x } w:=rfl
@[simp] theorem SW {x:Value}:(kX d w).set 14 (x)=kX d { w with vf:=x }:=rfl
@[simp] theorem SV {x:Value}:(kX d w).set 15 (x)=kX d { w with vd:=x }:=rfl
@[simp] theorem SU {x:Int}:(kX d w).set 32 (.int .i64 x)=kX { d with pc:=x } w:=rfl
@[simp] theorem ST {x:Int}:(kX d w).set 41 (.int .i64 x)=kX { d with iZ:=x } w:=rfl
@[simp] theorem SS {x:Bool}:(kX d w).set 42 (.bool x)=kX { d with done:=x } w:=rfl
@[simp] theorem SR {x:Value}:(kX d w).set 44 (x)=kX d { w with vo:=x }:=rfl
@[simp] theorem SQ {x:Int}:(kX d w).set 45 (.int .i64 x)=kX { d with gv:=x } w:=rfl
@[simp] theorem SO {r:R8}:eI (kX d w) 2 r.cells=kX { d with jP:=r } w:=rfl
@[simp] theorem SP {r:R8}:eI (kX d w) 33 r.cells=kX { d with dC:=r } w:=rfl
theorem mU {i:Int} (h:0≤i∧i<8):(kX d w)[33+i.toNat]? = some (.int .u64 (d.dC.bR i)):=by
 have h1:i=0∨i=1∨i=2∨i=3∨i=4∨i=5∨i=6∨i=7:=by omega
 rcases h1 with rfl|rfl|rfl|rfl|rfl|rfl|rfl|rfl<;>rfl
theorem sS {i x:Int} (h:0≤i∧i<8):(kX d w).set (33+i.toNat) (.int .u64 x)=kX { d with dC:=d.dC.set i x } w:=by
 have h1:i=0∨i=1∨i=2∨i=3∨i=4∨i=5∨i=6∨i=7:=by omega
 rcases h1 with rfl|rfl|rfl|rfl|rfl|rfl|rfl|rfl<;>rfl
def BR (v:Value) (l:List cz):HP:=d9 5 v l.length (l.flatMap aP)
theorem sB {ι:Type} {φ ψ:ι→Prop} {x:ι} (h1:φ x) (h2:ψ x):∃x,φ x∧ψ x:=⟨x,h1,h2⟩
theorem ak.wF {A:AW} {L K:List It} {size n:Nat} {v:Value} {cs:List Value} (h:ak A L) (hp:ap L (.h (d9 size v n cs)) K):iF A size v n cs:=by
 unfold ak at h
 rw [hp.aR] at h
 exact d9.is h
end
end Go.Stx
