/-
 The program's thread: its small functions.
-/
import Derived.Test.YtejgooipbmnioaaGreatDoorG26
set_option linter.unusedVariables false
set_option linter.unusedSimpArgs false
set_option linter.unusedSectionVars false
set_option maxRecDepth 20000
set_option maxHeartbeats 4000000
namespace Go.Stx
open Go Go.Proofs
attribute [local irreducible] TW cg eg bn aC aV cR df
section
abbrev HS:List (Nat×Nat):=[(0,0),(1,0),(2,0),(3,0),(4,0),(5,0),(6,0),(7,0),(8,0),(9,0),(10,0),(11,0),(12,0),(13,2),(14,3),(15,0),(16,0),(17,3)]
open T6
variable [Gl]
theorem sR (b:Nat) (d:vZ) (va vs vf vd vl vo:Value) (o:Option Addr) (n c:Nat) (pc:Int):aY Tryz.prog 55 [pv b,.int .i64 pc] [.at b (nM d ⟨va,vs,vf,vd,.slice o n c,vl,vo⟩)] (fun _=>True)
 (fun _=>[.at b (nM { d with pc:=pc,done:=decide (pc=n) } ⟨va,vs,vf,vd,.slice o n c,vl,vo⟩)]):=by
 intro A F hw hS
 refine ab Tryz.func55 rfl (by kernel_rfl) fun _=>?_
 dsimp only [af,ag] at hS
 have hq:=eD hS hw
 revert hq hS hw;refine W trivial (J2 @AW.aa @ah.eq_1) (J1 ?_)<;>unhygienic intros
 refine⟨_,by first|rfl|(simp;rfl),by first|trivial|rfl|(simp;done),?_⟩
 apply ak.bS
 (·exact sA)
 (·first|exact pA|exact kA)
theorem jf (b:Nat) (d:vZ) (va vs vf vd vl vo:Value) (o:Option Addr) (n c:Nat) (h:0≤d.pc∧d.pc<2^40):aY Tryz.prog 105 [pv b] [.at b (nM d ⟨va,vs,vf,vd,.slice o n c,vl,vo⟩)] (fun _=>True)
 (fun _=>[.at b (nM { d with pc:=d.pc+1,done:=decide (d.pc+1=n) } ⟨va,vs,vf,vd,.slice o n c,vl,vo⟩)]):=by
 intro A F hw hS
 refine ab Tryz.func105 rfl (by kernel_rfl) fun _=>?_
 dsimp only [af,ag] at hS
 have hq:=eD hS hw
 have H3:IntKind.i64.wrap (d.pc+1)=d.pc+1:=aw (by omega) (by omega)
 revert hq hS hw;refine W (J1 (sR b d va vs vf vd vl vo o n c (d.pc+1))) (J3 H3 @AW.aa @ah.eq_1) (J1 ?_)<;>unhygienic intros
 refine⟨_,by first|rfl|(simp;rfl),by first|trivial|rfl|(simp;done),?_⟩
 apply ak.bS
 (·exact sA)
 (·first|exact pA|exact kA)
theorem gX (b:Nat) (d:vZ) (w:JV) (l:List lp) (kd v:Int) (hl:l.length<2^30):ct Tryz.prog 104 [pv b,.int .i64 kd,.int .u64 v] [.at b (nM d w),.h (hZ w.vo l)] (fun _ _=>True)
 (fun vo=>[.at b (nM d { w with vo:=vo }),.h (hZ vo (l++[⟨d.pc,kd,v⟩]))]):=by
 intro A F hw hS
 refine ab Tryz.func104 rfl (by kernel_rfl) fun _=>?_
 dsimp only [af,ag] at hS
 have hq:=eD hS hw
 repeat' (first
 | (with_reducible apply Bt;(·first|(simp;done)|(simp;rfl));(·first|(simp;done)|(simp;rfl));(·exact wA);(·exact sA);(·first|exact pA|exact kA);(·first|exact AW.cW _ _|((repeat' (first|apply ap.z|apply ap.s));done)|(simp [hq];(repeat' (first|rfl|refine⟨rfl,?_⟩));done)|(simp;done)|(simp;rfl)|(simp [hq];done)|(simp [hq];rfl));(·first|omega|(simp;omega));(·intro _ _;trivial);rintro _ _ _ hS hw _;(try dsimp only [AW.bq] at hS);have hq:=eD hS hw)
 | (refine jx fun R hR=>?_;simp [aw,az,hq,AW.aa,ah];try simp (disch:=omega) only [if_pos,if_neg,aw,az])
 | (refine hR _ _ ?_;clear hR R)|(refine hK _ _ ?_;clear hK K)|refine nx ?_
 | refine wn fun K hK=>?_
 | simp only [wS,HS]
 | refine wl Tryz.mx HS (by decide +kernel) fun K hK=>?_
 | refine wb ?_|refine wr ?_|refine wk ?_|refine we ?_|refine ws ?_|refine wq ?_
 | (refine wc rfl (fun hc=>?_) (fun hc=>?_)<;>(try simp at hc)<;>(try omega))
 | (refine ib (fun hc=>?_) (fun hc=>?_)<;>(try omega)<;>(try simp (disch:=omega) only [if_pos,if_neg])))
 refine⟨_,by first|rfl|(simp;rfl),?_⟩
 apply sB
 (·first|trivial|rfl|(simp;done))
 apply ak.bS
 (·exact sA)
 (·first|exact pA|exact kA)
theorem ql (b:Nat) (d:vZ) (w:JV) (r cQ:Int) (h:0≤r∧r<8) (A:AW) (hg:A.bR b=some (nM d w)):eF 177 [pv b,.int .i64 r,.int .i64 cQ] A (.int .u64 (IntKind.u64.wrap (d.dC.bR r+IntKind.u64.wrap cQ))):=by
 refine ab Tryz.func177 rfl (by kernel_rfl) fun _=>?_
 have rW:=mU (d:=d) (w:=w) h
 refine W trivial (J6 hg rW h.1 h.2 @AW.aa @ah.eq_1) (J1 ?_)<;>unhygienic intros
 exact⟨_,by first|rfl|(simp;rfl),rfl,rfl⟩
def iC (i:cz):Value:=.agg #[.int .i64 i.op,.int .i64 i.a,.int .i64 i.b,.int .i64 i.c,.int .i64 i.cQ]
def mA (d:vZ) (i:cz):Int:=if i.op=12 then IntKind.u64.wrap (d.dC.bR i.b+IntKind.u64.wrap i.cQ) else IntKind.u64.wrap (d.dC.bR i.a+IntKind.u64.wrap i.cQ)
theorem B7 (b:Nat) (d:vZ) (w:JV) (i:cz) (ha:i.op=12∨i.op=13) (h:dL i=0) (A:AW) (hg:A.bR b=some (nM d w)):eF 113 [pv b,iC i] A (.int .u64 (mA d i)):=by
 refine aC.DP (V:=.int .u64 (mA d i)) (by simp) (fun hw=>?_) (by kernel_rfl)
 refine ab Tryz.func113 rfl (by kernel_rfl) fun _=>?_
 obtain⟨r1,r2,_⟩:=kw h
 have dO:=hw.lt hg
 have iX:¬b=A.next:=by omega
 unfold iC mA
 rcases ha with h2|h2
 · have hb:=r2 (by rw [h2];rfl)
   repeat' (first
   | (refine jx fun R hR=>?_;simp [aw,az,hg,h2,iX,AW.aa,ah];try simp (disch:=omega) only [if_pos,if_neg,aw,az])
   | (refine hR _ _ ?_;clear hR R)|(refine hK _ _ ?_;clear hK K)|refine nx ?_
   | refine wn fun K hK=>?_
   | simp only [wS]
   | (refine bT (ql b d w i.b i.cQ hb _ ((AW.gx _ _ iX).trans hg)) ?_;rintro _ _ ⟨rfl,rfl⟩ _ _)
   | refine wb ?_|refine wr ?_|refine wk ?_|refine we ?_|refine ws ?_|refine wq ?_
   | (refine wc rfl (fun hc=>?_) (fun hc=>?_)<;>(try simp at hc)<;>(try omega))
   | (refine ib (fun hc=>?_) (fun hc=>?_)<;>(try omega)<;>(try simp (disch:=omega) only [if_pos,if_neg])))
   exact⟨_,by first|(simp;done)|(simp;rfl),by simp [h2],AW.le.alloc _ _⟩
 · have hb:=r1 (by rw [h2];rfl)
   repeat' (first
   | (refine jx fun R hR=>?_;simp [aw,az,hg,h2,iX,AW.aa,ah];try simp (disch:=omega) only [if_pos,if_neg,aw,az])
   | (refine hR _ _ ?_;clear hR R)|(refine hK _ _ ?_;clear hK K)|refine nx ?_
   | refine wn fun K hK=>?_
   | simp only [wS]
   | (refine bT (ql b d w i.a i.cQ hb _ ((AW.gx _ _ iX).trans hg)) ?_;rintro _ _ ⟨rfl,rfl⟩ _ _)
   | refine wb ?_|refine wr ?_|refine wk ?_|refine we ?_|refine ws ?_|refine wq ?_
   | (refine wc rfl (fun hc=>?_) (fun hc=>?_)<;>(try simp at hc)<;>(try omega))
   | (refine ib (fun hc=>?_) (fun hc=>?_)<;>(try omega)<;>(try simp (disch:=omega) only [if_pos,if_neg])))
   exact⟨_,by first|(simp;done)|(simp;rfl),by simp [h2],AW.le.alloc _ _⟩
end
section
abbrev HR:List (Nat×Nat):=[(0,0),(1,0),(2,0),(3,0),(4,0),(5,0),(6,0),(7,0),(8,3)]
abbrev HQ:List (Nat×Nat):=[(0,0),(1,0),(2,0),(3,0),(4,0),(5,0),(6,0),(7,0),(8,0),(9,0),(10,0),(11,0),(12,0),(13,0),(14,2),(15,3),(16,0),(17,0),(18,0),(19,3)]
abbrev HO:List (Nat×Nat):=[(0,0),(1,0),(2,0),(3,0),(4,0),(5,0),(6,0),(7,0),(8,0),(9,0),(10,3),(11,0),(12,0),(13,0),(14,3),(15,0),(16,0),(17,0),(18,3)]
abbrev rI:List (Nat×Nat):=[(0,0),(1,0),(2,0),(3,0),(4,0),(5,0),(6,0),(7,0),(8,0),(9,0),(10,2),(11,3)]
abbrev rH:List (Nat×Nat):=[(0,0),(1,0),(2,0),(3,0),(4,0),(5,0),(6,0),(7,0),(8,0),(9,0),(11,0),(12,0),(13,0),(14,0),(15,0),(16,0),(17,0),(18,0),(10,2),(19,3)]
abbrev rG:List (Nat×Nat):=[(0,0),(1,0),(2,0),(3,0),(4,0),(5,0),(6,0),(7,3)]
abbrev rF:List (Nat×Nat):=[(0,0),(1,0),(2,0),(3,0),(4,0),(5,0),(6,0),(7,0),(8,0),(9,0),(10,0),(11,0),(12,0),(13,3)]
abbrev xz:List (Nat×Nat):=[(0,0),(1,0),(2,0),(3,0),(4,0),(5,0),(6,0),(7,2),(8,3)]
abbrev xy:List (Nat×Nat):=[(0,0),(1,0),(2,0),(3,0),(4,0),(5,0),(6,0),(8,0),(9,0),(10,0),(11,0),(12,0),(13,0),(14,0),(15,0),(7,2),(16,3)]
open T6
variable [Gl]
theorem qw (n:Nat) (s:aT):∀A':AW,A'.Wf→ak A' [.h (bf n s)]→eF 57 [pv n] A' (.bool s.jt):=fun A' h1 h2=>BJ n s s.aG A' h1 (bf.Ms h2 .z)
theorem u7 (n:Nat) (s:aT):∀A':AW,A'.Wf→ak A' [.h (bf n s)]→eF 163 [pv n] A' (.int .i64 s.aA):=fun A' h1 h2=>FW n s _ s.aG A' h1 (bf.Ms h2 .z)
theorem qu (n:Nat) (s:aT):∀A':AW,A'.Wf→ak A' [.h (bf n s)]→eF 109 [pv n] A' (.int .i64 s.ay):=fun A' h1 h2=>Jv n s _ s.aG A' h1 (bf.Ms h2 .z)
theorem xQ (n:Nat) (s:aT):∀A':AW,A'.Wf→ak A' [.h (bf n s)]→eF 249 [pv n] A' (.int .u64 s.value):=fun A' h1 h2=>FM n s _ s.aG A' h1 (bf.Ms h2 .z)
theorem L0 (n:Nat) (s:aT):∀A':AW,A'.Wf→ak A' [.h (bf n s)]→eF 107 [pv n] A' (.bool s.aj):=fun A' h1 h2=>C4 n s _ s.aG A' h1 (bf.Ms h2 .z)
theorem DX (n:Nat) (s:aT):∀A':AW,A'.Wf→ak A' [.h (bf n s)]→eF 244 [pv n] A' (.int .i64 s.qE):=fun A' h1 h2=>my n s _ s.aG A' h1 (bf.Ms h2 .z)
theorem UD (c:bC) (hc:b9 c) (t:Int):ct Tryz.prog 180 [c.v,.int .i64 t] [] (fun n v=>v=pv n) (fun n=>[.h (bf n (fl c t))]):=
 fun A F hw hS=>KT c hc t A F hw hS
theorem wZ (b:Nat) (d:vZ) (va vs vf vd vl vo:Value) (o:Option Addr) (n c:Nat) (i1 i2 i3 cQ:Int) (v:Int) (fV:List lp) (hi:dL ⟨12,i1,i2,i3,cQ⟩=0) (ki:0≤d.pc∧d.pc<2^40) (hl:fV.length<2^30) :
 ct Tryz.prog 184 [pv b,iC ⟨12,i1,i2,i3,cQ⟩,.int .u64 v] [.at b (nM d ⟨va,vs,vf,vd,.slice o n c,vl,vo⟩),.h (hZ vo fV)] (fun _ _=>True)
  (fun vo=>[.at b (nM { d with dC:=d.dC.set i1 v,pc:=d.pc+1,done:=decide (d.pc+1=n) } ⟨va,vs,vf,vd,.slice o n c,vl,vo⟩),.h (hZ vo (fV++[⟨d.pc,4,v⟩]))]):=by
 unfold iC
 have ha:=(kw hi).1 rfl
 dsimp only at ha
 have xC:=fun x=>sS (d:=d) (w:=⟨va,vs,vf,vd,.slice o n c,vl,vo⟩) (x:=x) ha
 intro A F hw hS
 refine ab Tryz.func184 rfl (by kernel_rfl) fun _=>?_
 dsimp only [af,ag] at hS
 have hq:=eD hS hw
 revert hq hS hw;refine Wu (J3 (Tg.mk (n:=36) (fun x1=>gX b { d with dC:=d.dC.set i1 v } x1 fV 4 v hl)) (Tg.mk (n:=37) (fun x1 x2 x3 x4 x5 x6 x7 x8 x9=>jf b { d with dC:=d.dC.set i1 v } x1 x2 x3 x4 x5 x6 x7 x8 x9 ki)) (od HR)) (J5 xC ha.1 ha.2 @AW.aa @ah.eq_1) (J1 ?_)<;>unhygienic intros
 refine⟨_,by first|rfl|(simp;rfl),?_⟩
 apply sB
 (·first|trivial|rfl|(simp;done))
 apply ak.bS
 (·exact sA)
 (·first|exact pA|exact kA)
theorem wY (b:Nat) (d:vZ) (va vs vf vd vl vo:Value) (o:Option Addr) (n c:Nat) (i1 i2 i3 cQ:Int) (v:Int) (fV:List lp) (hi:dL ⟨13,i1,i2,i3,cQ⟩=0) (ki:0≤d.pc∧d.pc<2^40) (hl:fV.length<2^30) :
 ct Tryz.prog 184 [pv b,iC ⟨13,i1,i2,i3,cQ⟩,.int .u64 v] [.at b (nM d ⟨va,vs,vf,vd,.slice o n c,vl,vo⟩),.h (hZ vo fV)] (fun _ _=>True)
  (fun vo=>[.at b (nM { d with pc:=d.pc+1,done:=decide (d.pc+1=n) } ⟨va,vs,vf,vd,.slice o n c,vl,vo⟩),.h (hZ vo (fV++[⟨d.pc,5,v⟩]))]):=by
 unfold iC
 intro A F hw hS
 refine ab Tryz.func184 rfl (by kernel_rfl) fun _=>?_
 dsimp only [af,ag] at hS
 have hq:=eD hS hw
 revert hq hS hw;refine Wu (J3 (Tg.mk (n:=36) (fun x1=>gX b d x1 fV 5 v hl)) (Tg.mk (n:=37) (fun x1 x2 x3 x4 x5 x6 x7 x8 x9=>jf b d x1 x2 x3 x4 x5 x6 x7 x8 x9 ki)) (od HR)) (J2 @AW.aa @ah.eq_1) (J1 ?_)<;>unhygienic intros
 refine⟨_,by first|rfl|(simp;rfl),?_⟩
 apply sB
 (·first|trivial|rfl|(simp;done))
 apply ak.bS
 (·exact sA)
 (·first|exact pA|exact kA)
theorem E0 (b n:Nat) (d:vZ) (vs vf vd vc vl vo:Value) (s:aT) (dY:List lp) (r kd:Int) (hr:0≤r∧r<8) (hl:dY.length<2^30) :
 ct Tryz.prog 166 [pv b,.int .i64 r,.int .i64 kd] [.at b (nM d ⟨pv n,vs,vf,vd,vc,vl,vo⟩),.h (bf n s),.h (hZ vs dY)] (fun _ _=>True)
  (fun vs=>[.at b (nM { d with dC:=d.dC.set r s.value } ⟨pv n,vs,vf,vd,vc,vl,vo⟩),.h (bf n s),.h (hZ vs (dY++[⟨d.pc,kd,s.value⟩]))]):=by
 have xC:=fun x=>sS (d:=d) (w:=⟨pv n,vs,vf,vd,vc,vl,vo⟩) (x:=x) hr
 intro A F hw hS
 refine ab Tryz.func166 rfl (by kernel_rfl) fun _=>?_
 dsimp only [af,ag] at hS
 have hq:=eD hS hw
 repeat' (first
 | (with_reducible apply Bt;(·first|(simp;done)|(simp;rfl));(·first|(simp;done)|(simp;rfl));(·exact wA);(·exact sA);(·first|exact pA|exact kA);(·first|exact AW.cW _ _|((repeat' (first|apply ap.z|apply ap.s));done)|(simp [hq];(repeat' (first|rfl|refine⟨rfl,?_⟩));done)|(simp;done)|(simp;rfl)|(simp [hq];done)|(simp [hq];rfl));(·first|omega|(simp;omega));(·intro _ _;trivial);rintro _ _ _ hS hw _;(try dsimp only [AW.bq] at hS);have hq:=eD hS hw)
 | (refine jx fun R hR=>?_;simp [aw,az,hq,xC,hr.1,hr.2,AW.aa,ah];try simp (disch:=omega) only [if_pos,if_neg,aw,az])
 | (refine hR _ _ ?_;clear hR R)|(refine hK _ _ ?_;clear hK K)|refine nx ?_
 | refine wn fun K hK=>?_
 | simp only [wS,HQ]
 | refine wl Tryz.mx HQ (by decide +kernel) fun K hK=>?_
 | (apply ej (xQ n s);(·exact wA);(·exact sA);(·first|exact pA|exact kA);)
 | refine wb ?_|refine wr ?_|refine wk ?_|refine we ?_|refine ws ?_|refine wq ?_
 | (refine wc rfl (fun hc=>?_) (fun hc=>?_)<;>(try simp at hc)<;>(try omega))
 | (refine ib (fun hc=>?_) (fun hc=>?_)<;>(try omega)<;>(try simp (disch:=omega) only [if_pos,if_neg])))
 refine⟨_,by first|rfl|(simp;rfl),?_⟩
 apply sB
 (·first|trivial|rfl|(simp;done))
 apply ak.bS
 (·exact sA)
 (·first|exact pA|exact kA)
theorem ak.Pm {A:AW} {L:List It} (h:ak A L):ak A (.h (hZ (.slice none 0 0) [])::L):=d9.nil h
theorem wm (b:Nat) (d:vZ) (w:JV) (hc:b9 d.cf) (TT:0≤d.gv∧d.gv<2^40):ct Tryz.prog 115 [pv b] [.at b (nM d w)] (fun _ _=>True)
 (fun n=>[.at b (nM { d with gv:=d.gv+1 } { w with va:=pv n,vs:=.slice none 0 0 }),.h (bf n (gf (fl d.cf d.id)).2),.h (hZ (.slice none 0 0) [])]):=by
 have H3:IntKind.i64.wrap (d.gv+1)=d.gv+1:=aw (by omega) (by omega)
 intro A F hw hS
 refine ab Tryz.func115 rfl (by kernel_rfl) fun _=>?_
 dsimp only [af,ag] at hS
 have hq:=eD hS hw
 repeat' (first
 | (refine jx fun R hR=>?_;simp [aw,az,hq,H3,AW.aa,ah];try simp (disch:=omega) only [if_pos,if_neg,aw,az])
 | (refine hR _ _ ?_;clear hR R)|(refine hK _ _ ?_;clear hK K)|refine nx ?_
 | refine wn fun K hK=>?_
 | simp only [wS,HO]
 | refine wl Tryz.mx HO (by decide +kernel) fun K hK=>?_
 | (apply ct.cA (UD d.cf hc d.id);(·exact wA);(·exact sA);(·first|exact pA|exact kA);(rintro xw _ _ rfl hS hw _;have hS:=lA hS;(try (have hq:=eD hS hw))))
 | (apply aY.cA (He _ (fl d.cf d.id));(·exact wA);(·exact sA);(·first|exact pA|exact kA);rintro _ _ _ hS hw _;have hS:=lA hS;have hq:=eD hS hw)
 | refine wb ?_|refine wr ?_|refine wk ?_|refine we ?_|refine ws ?_|refine wq ?_
 | (refine wc rfl (fun hc=>?_) (fun hc=>?_)<;>(try simp at hc)<;>(try omega))
 | (refine ib (fun hc=>?_) (fun hc=>?_)<;>(try omega)<;>(try simp (disch:=omega) only [if_pos,if_neg])))
 refine⟨_,by first|rfl|(simp;rfl),?_⟩
 apply sB
 (·trivial)
 apply ak.bS
 · apply ak.Pm
   (·exact sA)
 (·first|exact pA|exact kA)
def vj (d:vZ) (i:cz) (s:aT):aT:=
 if i.op=10 then (Eb s (IntKind.u64.wrap (d.dC.bR i.b+IntKind.u64.wrap i.cQ))).2 else if i.op=11 then (DH s (IntKind.u64.wrap (d.dC.bR i.a+IntKind.u64.wrap i.cQ)) (d.dC.bR i.b)).2 else if i.op=14 then (Ip s i.cQ).2
 else if i.op=15 then (If s (d.dC.bR i.a)).2 else if i.op=8 then (zS s 1).2 else if i.op=9 then (zS s 2).2 else s
theorem Kf (x:Int):0≤IntKind.u64.wrap x:=(ks x).1
theorem OM (b:Nat) (d:vZ) (w:JV) (r cQ:Int) (h:0≤r∧r<8) {A:AW} {L K:List It} {k:Value→AW→Prop} (hw:A.Wf) (hS:ak A L) (hp:ap L (.at b (nM d w)) K)
 (hk:k (.int .u64 (IntKind.u64.wrap (d.dC.bR r+IntKind.u64.wrap cQ))) A):aC Tryz.prog 177 [pv b,.int .i64 r,.int .i64 cQ] A k:=by
 have hg:A.bR b=some (nM d w):=by
  unfold ak at hS
  rw [hp.aR] at hS
  exact bz.bR hS
 refine bT (ql b d w r cQ h A hg) ?_
 rintro _ _ ⟨rfl,rfl⟩ _ _
 exact hk
theorem xZ (b:Nat) (d:vZ) (w:JV) (i:cz) (ha:i.op=12∨i.op=13) (h:dL i=0) {A:AW} {L K:List It} {k:Value→AW→Prop} (hw:A.Wf) (hS:ak A L) (hp:ap L (.at b (nM d w)) K)
 (hk:k (.int .u64 (mA d i)) A):aC Tryz.prog 113 [pv b,iC i] A k:=by
 have hg:A.bR b=some (nM d w):=by
  unfold ak at hS
  rw [hp.aR] at hS
  exact bz.bR hS
 refine bT (B7 b d w i ha h A hg) ?_
 rintro _ _ ⟨rfl,rfl⟩ _ _
 exact hk
theorem Cv (b n:Nat) (d:vZ) (vs vf vd vc vl vo:Value) (i:cz) (s:aT) (hC:fA s) (mg:i.op=10∨i.op=11∨i.op=14∨i.op=15∨i.op=8∨i.op=9) (hi:dL i=0) :
 aY Tryz.prog 116 [pv b,iC i] [.at b (nM d ⟨pv n,vs,vf,vd,vc,vl,vo⟩),.h (bf n s)] (fun _=>True) (fun _=>[.at b (nM d ⟨pv n,vs,vf,vd,vc,vl,vo⟩),.h (bf n (vj d i s))]):=by
 obtain⟨r1,r2,_⟩:=kw hi
 unfold iC
 rcases mg with h2|h2|h2|h2|h2|h2
 · have hb:=r2 (by rw [h2];rfl)
   have e:vj d i s=_:=if_pos h2
   intro A F hw hS
   refine ab Tryz.func116 rfl (by kernel_rfl) fun _=>?_
   dsimp only [af,ag] at hS
   have hq:=eD hS hw
   revert hq hS hw;refine Wu (J6 (Tg.mk (n:=10) (fun {A L K k} x1=>OM (A:=A) (L:=L) (K:=K) (k:=k) b d x1 i.b i.cQ hb)) (Tg.mk (n:=37) (fun x1=>Bl n s _ hC (Kf x1))) (od rI) (od rH) (od rG) (od rF)) (J3 h2 @AW.aa @ah.eq_1) (J1 ?_)<;>unhygienic intros
   rw [e]
   refine⟨_,by first|rfl|(simp;rfl),by first|trivial|rfl|(simp;done),?_⟩
   apply ak.bS
   (·exact sA)
   (·first|exact pA|exact kA)
 · have ha:=r1 (by rw [h2];rfl)
   have hb:=r2 (by rw [h2];rfl)
   have rW:=mU (d:=d) (w:=⟨pv n,vs,vf,vd,vc,vl,vo⟩) hb
   have e:vj d i s=(DH s (IntKind.u64.wrap (d.dC.bR i.a+IntKind.u64.wrap i.cQ)) (d.dC.bR i.b)).2:=by unfold vj;rw [if_neg (by omega),if_pos h2]
   intro A F hw hS
   refine ab Tryz.func116 rfl (by kernel_rfl) fun _=>?_
   dsimp only [af,ag] at hS
   have hq:=eD hS hw
   revert hq hS hw;(repeat first|clear hq|clear hS|clear hw|revert hc|revert zn|revert zA|revert R|revert K);refine W (J6 (Tg.mk (n:=10) (fun {A L K k} x1=>OM (A:=A) (L:=L) (K:=K) (k:=k) b d x1 i.a i.cQ ha)) (od rI) (od rH) (od rG) (od rF) (xO n s)) (J6 h2 rW hb.1 hb.2 @AW.aa @ah.eq_1) (J1 ?_)<;>unhygienic intros
   rw [e]
   refine⟨_,by first|rfl|(simp;rfl),by first|trivial|rfl|(simp;done),?_⟩
   apply ak.bS
   (·exact sA)
   (·first|exact pA|exact kA)
 · have e:vj d i s=(Ip s i.cQ).2:=by unfold vj;rw [if_neg (by omega),if_neg (by omega),if_pos h2]
   intro A F hw hS
   refine ab Tryz.func116 rfl (by kernel_rfl) fun _=>?_
   dsimp only [af,ag] at hS
   have hq:=eD hS hw
   revert hq hS hw;(repeat first|clear hq|clear hS|clear hw|revert hc|revert zn|revert zA|revert R|revert K);refine Wu (J5 (Tg.mk (n:=37) (fun x1=>Ho n s x1 hC)) (od rI) (od rH) (od rG) (od rF)) (J3 h2 @AW.aa @ah.eq_1) (J1 ?_)<;>unhygienic intros
   rw [e]
   refine⟨_,by first|rfl|(simp;rfl),by first|trivial|rfl|(simp;done),?_⟩
   apply ak.bS
   (·exact sA)
   (·first|exact pA|exact kA)
 · have ha:=r1 (by rw [h2];rfl)
   have rW:=mU (d:=d) (w:=⟨pv n,vs,vf,vd,vc,vl,vo⟩) ha
   have e:vj d i s=(If s (d.dC.bR i.a)).2:=by unfold vj;rw [if_neg (by omega),if_neg (by omega),if_neg (by omega),if_pos h2]
   intro A F hw hS
   refine ab Tryz.func116 rfl (by kernel_rfl) fun _=>?_
   dsimp only [af,ag] at hS
   have hq:=eD hS hw
   revert hq hS hw;(repeat first|clear hq|clear hS|clear hw|revert hc|revert zn|revert zA|revert R|revert K);refine Wu (J5 (Tg.mk (n:=37) (fun x1=>Ji n s x1 hC)) (od rI) (od rH) (od rG) (od rF)) (J6 h2 rW ha.1 ha.2 @AW.aa @ah.eq_1) (J1 ?_)<;>unhygienic intros
   rw [e]
   refine⟨_,by first|rfl|(simp;rfl),by first|trivial|rfl|(simp;done),?_⟩
   apply ak.bS
   (·exact sA)
   (·first|exact pA|exact kA)
 · have e:vj d i s=(zS s 1).2:=by unfold vj;rw [if_neg (by omega),if_neg (by omega),if_neg (by omega),if_neg (by omega),if_pos h2]
   intro A F hw hS
   refine ab Tryz.func116 rfl (by kernel_rfl) fun _=>?_
   dsimp only [af,ag] at hS
   have hq:=eD hS hw
   revert hq hS hw;(repeat first|clear hq|clear hS|clear hw|revert hc|revert zn|revert zA|revert R|revert K);refine W (J5 (od rI) (od rH) (od rG) (od rF) (ri n s 1)) (J3 h2 @AW.aa @ah.eq_1) (J1 ?_)<;>unhygienic intros
   rw [e]
   refine⟨_,by first|rfl|(simp;rfl),by first|trivial|rfl|(simp;done),?_⟩
   apply ak.bS
   (·exact sA)
   (·first|exact pA|exact kA)
 · have e:vj d i s=(zS s 2).2:=by unfold vj;rw [if_neg (by omega),if_neg (by omega),if_neg (by omega),if_neg (by omega),if_neg (by omega),if_pos h2]
   intro A F hw hS
   refine ab Tryz.func116 rfl (by kernel_rfl) fun _=>?_
   dsimp only [af,ag] at hS
   have hq:=eD hS hw
   revert hq hS hw;(repeat first|clear hq|clear hS|clear hw|revert hc|revert zn|revert zA|revert R|revert K);refine W (J5 (od rI) (od rH) (od rG) (od rF) (ri n s 2)) (J3 h2 @AW.aa @ah.eq_1) (J1 ?_)<;>unhygienic intros
   rw [e]
   refine⟨_,by first|rfl|(simp;rfl),by first|trivial|rfl|(simp;done),?_⟩
   apply ak.bS
   (·exact sA)
   (·first|exact pA|exact kA)
def Hj (d:vZ) (i:cz) (s:aT):aT:=if 1<d.eO+1 then (zS s 1).2 else if i.op=12 then (Eb s (mA d i)).2 else (DH s (mA d i) (d.dC.bR i.b)).2
theorem Kk (d:vZ) (i:cz):0≤mA d i:=by unfold mA;split<;>exact Kf _
theorem IE (b n:Nat) (d:vZ) (vs vf vd vc vl vo:Value) (i:cz) (s:aT) (hC:fA s) (mg:i.op=12∨i.op=13) (hi:dL i=0) (Xk:0≤d.eO∧d.eO<2^40) :
 aY Tryz.prog 59 [pv b,iC i] [.at b (nM d ⟨pv n,vs,vf,vd,vc,vl,vo⟩),.h (bf n s)] (fun _=>True) (fun _=>[.at b (nM { d with eO:=d.eO+1 } ⟨pv n,vs,vf,vd,vc,vl,vo⟩),.h (bf n (Hj d i s))]):=by
 have H3:IntKind.i64.wrap (d.eO+1)=d.eO+1:=aw (by omega) (by omega)
 obtain⟨r1,r2,_⟩:=kw hi
 obtain⟨op,i1,i2,i3,cQ⟩:=i
 dsimp only at mg r2
 unfold iC
 by_cases h1:1<d.eO+1
 · have e:Hj d ⟨op,i1,i2,i3,cQ⟩ s=_:=if_pos h1
   intro A F hw hS
   refine ab Tryz.func59 rfl (by kernel_rfl) fun _=>?_
   dsimp only [af,ag] at hS
   have hq:=eD hS hw
   revert hq hS hw;refine W (J3 (od xz) (od xy) (ri n s 1)) (J4 H3 h1 @AW.aa @ah.eq_1) (J1 ?_)<;>unhygienic intros
   rw [e]
   refine⟨_,by first|rfl|(simp;rfl),by first|trivial|rfl|(simp;done),?_⟩
   apply ak.bS
   (·exact sA)
   (·first|exact pA|exact kA)
 · rcases mg with h2|h2
   · subst h2
     have e:Hj d ⟨12,i1,i2,i3,cQ⟩ s=(Eb s (mA { d with eO:=d.eO+1 } ⟨12,i1,i2,i3,cQ⟩)).2:=by unfold Hj;rw [if_neg h1,if_pos rfl];rfl
     intro A F hw hS
     refine ab Tryz.func59 rfl (by kernel_rfl) fun _=>?_
     dsimp only [af,ag] at hS
     have hq:=eD hS hw
     repeat' (first
     | (refine jx fun R hR=>?_;simp [aw,az,hq,H3,h1,AW.aa,ah];try simp (disch:=omega) only [if_pos,if_neg,aw,az])
     | (refine hR _ _ ?_;clear hR R)|(refine hK _ _ ?_;clear hK K)|refine nx ?_
     | refine wn fun K hK=>?_
     | simp only [wS,xz,xy]
     | refine wl Tryz.mx xz (by decide +kernel) fun K hK=>?_
     | refine wl Tryz.mx xy (by decide +kernel) fun K hK=>?_
     | (apply xZ b { d with eO:=d.eO+1 } _ ⟨12,i1,i2,i3,cQ⟩ (.inl rfl) hi;(·exact wA);(·exact sA);(·first|exact pA|exact kA);)
     | (apply aY.cA (Bl n s _ hC (Kk _ _));(·exact wA);(·exact sA);(·first|exact pA|exact kA);rintro _ _ _ hS hw _;have hS:=lA hS;have hq:=eD hS hw)
     | refine wb ?_|refine wr ?_|refine wk ?_|refine we ?_|refine ws ?_|refine wq ?_
     | (refine wc rfl (fun hc=>?_) (fun hc=>?_)<;>(try simp at hc)<;>(try omega))
     | (refine ib (fun hc=>?_) (fun hc=>?_)<;>(try omega)<;>(try simp (disch:=omega) only [if_pos,if_neg])))
     rw [e]
     refine⟨_,by first|rfl|(simp;rfl),by first|trivial|rfl|(simp;done),?_⟩
     apply ak.bS
     (·exact sA)
     (·first|exact pA|exact kA)
   · subst h2
     have hb:=r2 rfl
     have rW:=mU (d:={ d with eO:=d.eO+1 }) (w:=⟨pv n,vs,vf,vd,vc,vl,vo⟩) hb
     have e:Hj d ⟨13,i1,i2,i3,cQ⟩ s=(DH s (mA { d with eO:=d.eO+1 } ⟨13,i1,i2,i3,cQ⟩) (d.dC.bR i2)).2:=by unfold Hj;rw [if_neg h1,if_neg (show ¬(13:Int)=12 by decide)];rfl
     intro A F hw hS
     refine ab Tryz.func59 rfl (by kernel_rfl) fun _=>?_
     dsimp only [af,ag] at hS
     have hq:=eD hS hw
     revert hq hS hw;(repeat first|clear hq|clear hS|clear hw|revert hc|revert zn|revert zA|revert R|revert K);refine W (J4 (Tg.mk (n:=10) (fun {A L K k} x1=>xZ (A:=A) (L:=L) (K:=K) (k:=k) b { d with eO:=d.eO+1 } x1 ⟨13,i1,i2,i3,cQ⟩ (.inr rfl) hi)) (od xz) (od xy) (xO n s)) (J7 H3 h1 rW hb.1 hb.2 @AW.aa @ah.eq_1) (J1 ?_)<;>unhygienic intros
     rw [e]
     refine⟨_,by first|rfl|(simp;rfl),by first|trivial|rfl|(simp;done),?_⟩
     apply ak.bS
     (·exact sA)
     (·first|exact pA|exact kA)
end
end Go.Stx
