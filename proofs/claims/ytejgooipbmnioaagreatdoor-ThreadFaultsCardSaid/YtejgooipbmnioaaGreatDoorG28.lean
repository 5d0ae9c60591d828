/-
 The program's fences.
-/
import Derived.Test.YtejgooipbmnioaaGreatDoorG27
set_option linter.unusedVariables false
set_option linter.unusedSimpArgs false
set_option linter.unusedSectionVars false
set_option maxRecDepth 20000
set_option maxHeartbeats 4000000
namespace Go.Stx
open Go Go.Proofs
attribute [local irreducible] TW cg eg bn aC aV cR df
section
abbrev HN:List (Nat×Nat):=[(0,0),(1,0),(2,0),(3,0),(4,0),(5,0),(6,0),(7,0),(8,0),(9,0),(10,0),(11,0),(12,0),(13,0),(14,0),(15,0)]
abbrev HM:List (Nat×Nat):=[(0,0),(1,0),(2,0),(3,0),(4,0),(5,0),(6,0),(7,0),(8,0)]
open T21
variable [Gl]
theorem ka {f:FuncId} {args:List Value} {V:Value} {b:Nat} {o:dK} (hC:∀A:AW,A.bR b=some o→eF f args A V) {A:AW} {L K:List It} {k:Value→AW→Prop} (hw:A.Wf) (hS:ak A L) (hp:ap L (.at b o) K) (hk:k V A):aC Tryz.prog f args A k:=by
 have hg:A.bR b=some o:=by
  unfold ak at hS
  rw [hp.aR] at hS
  exact bz.bR hS
 refine bT (hC A hg) ?_
 rintro _ _ ⟨rfl,rfl⟩ _ _
 exact hk
def pq (f:il):dK:=.cells [.int .i64 f.am,.int .i64 f.kv,.bool f.fw,.int .u64 f.uo,.int .i64 f.next] true 1
theorem Aq (t n:Int) (A:AW):aC Tryz.prog 118 [.int .i64 t,.int .i64 n] A (fun v A'=>v=.pointer (some ⟨A.next,0,none⟩)∧A'=A.alloc (pq ⟨t,n,false,0,0⟩)):=by
 refine ab Tryz.func118 rfl (by kernel_rfl) fun _=>?_
 refine W trivial trivial (J1 ?_)<;>unhygienic intros
 exact⟨_,rfl,rfl,rfl⟩
theorem kQ (b:Nat) (s:il) (A:AW) (hg:A.bR b=some (pq s)):eF 98 [.pointer (some ⟨b,0,none⟩)] A (.bool s.done):=by
 refine ab Tryz.func98 rfl (by kernel_rfl) fun _=>?_
 dsimp only [pq] at hg
 unfold il.done
 cases h:s.fw
 · refine W (J1 (od HN)) (J3 hg h @AW.aa) (J1 ?_)<;>unhygienic intros
   exact⟨_,rfl,by simp,rfl⟩
 · (repeat first|revert hc|revert zn|revert zA|revert R|revert K);refine W (J1 (od HN)) (J3 hg h @AW.aa) (J1 ?_)<;>unhygienic intros
   exact⟨_,rfl,by simp,rfl⟩
theorem AJ (b:Nat) (s:il) (A:AW) (hg:A.bR b=some (pq s)):eF 100 [.pointer (some ⟨b,0,none⟩)] A (.int .i64 s.k9):=by
 refine ab Tryz.func100 rfl (by kernel_rfl) fun _=>?_
 dsimp only [pq] at hg
 unfold il.k9
 cases h:s.fw
 · refine W trivial (J3 hg h @AW.aa) (J1 ?_)<;>unhygienic intros
   exact⟨_,rfl,by simp,rfl⟩
 · (repeat first|revert hc|revert zn|revert zA|revert R|revert K);refine W trivial (J3 hg h @AW.aa) (J1 ?_)<;>unhygienic intros
   exact⟨_,rfl,by simp,rfl⟩
theorem qJ (x:Int) (A:AW):eF 208 [.int .u64 x] A (.int .i64 (if x=0 then 0 else if x=1 then 1 else 2)):=by
 refine ab Tryz.func208 rfl (by kernel_rfl) fun _=>?_
 refine W trivial trivial (J3 ?_ ?_ ?_)<;>unhygienic intros
 all_goals exact⟨_,rfl,by simp_all,rfl⟩
theorem rf (b:Nat) (s:il) (x:Int) (A:AW) (hg:A.bR b=some (pq s)):eF 142 [.pointer (some ⟨b,0,none⟩),.int .u64 x] A (.bool (s.vq x)):=by
 refine ab Tryz.func142 rfl (by kernel_rfl) fun _=>?_
 dsimp only [pq] at hg
 unfold il.vq
 by_cases h0:x=0
 · have cX:=qJ x
   rw [if_pos h0] at cX
   refine W (J1 @cX) (J2 hg @AW.aa) (J1 ?_)<;>unhygienic intros
   exact⟨_,rfl,by simp [h0],rfl⟩
 · by_cases h1:x=1
   · have cX:=qJ x
     rw [if_neg h0,if_pos h1] at cX
     (repeat first|revert hc|revert zn|revert zA|revert R|revert K);refine W (J1 @cX) (J2 hg @AW.aa) (J1 ?_)<;>unhygienic intros
     exact⟨_,rfl,by simp [h1],rfl⟩
   · have cX:=qJ x
     rw [if_neg h0,if_neg h1] at cX
     (repeat first|revert hc|revert zn|revert zA|revert R|revert K);refine W (J1 @cX) (J2 hg @AW.aa) (J1 ?_)<;>unhygienic intros
     exact⟨_,rfl,by simp [h0,h1],rfl⟩
theorem uB (b:Nat) (f:il) (hn:0≤f.next∧f.next<2^40):aY Tryz.prog 141 [.pointer (some ⟨b,0,none⟩)] [.at b (pq f)] (fun _=>True) (fun _=>[.at b (pq f.skip)]):=by
 intro A F hw hS
 refine ab Tryz.func141 rfl (by kernel_rfl) fun _=>?_
 dsimp only [af,ag] at hS
 have hq:=mt hS hw
 have H3:IntKind.i64.wrap (f.next+1)=f.next+1:=aw (by omega) (by omega)
 unfold il.skip
 by_cases h:f.next=f.am
 · have e:(if f.next=f.am then ({ f with next:=f.next+1 }:il) else f)={ f with next:=f.next+1 }:=if_pos h
   rw [←h] at hq
   revert hq hS hw;refine W (J1 (od HM)) (J3 H3 @AW.aa @ah.eq_1) (J1 ?_)<;>unhygienic intros
   all_goals(
    try rw [e]
    refine⟨_,by simp [hq,AW.aa,ah];rfl,by first|trivial|(simp [ba.v,ba.zero,h];done),?_⟩
    apply ak.bS
    (·exact sA)
    (·repeat' (first|apply aD.z|apply aD.s|apply ap.z|(apply ap.DF;simp [pq,h];done)|apply ap.s)))
 · have e:(if f.next=f.am then ({ f with next:=f.next+1 }:il) else f)=f:=if_neg h
   revert hq hS hw;(repeat first|clear hq|clear hS|clear hw|revert hc|revert zn|revert zA|revert R|revert K);refine W (J1 (od HM)) (J3 h @AW.aa @ah.eq_1) (J1 ?_)<;>unhygienic intros
   all_goals(
    try rw [e]
    refine⟨_,by simp [hq,AW.aa,ah];rfl,by first|trivial|(simp [ba.v,ba.zero,h];done),?_⟩
    apply ak.bS
    (·exact sA)
    (·repeat' (first|apply aD.z|apply aD.s|apply ap.z|(apply ap.DF;simp [pq,h];done)|apply ap.s)))
theorem Jm (f:il) (M:Mm):(f.done=true∧fM f M=(ba.zero,f)) ∨
 ((f.done=false∧f.fw=false)∧fM f M=(gI M 3 0,({ f with fw:=true,uo:=(gI M 3 0).fg }:il).skip)) ∨
 ((f.done=false∧f.fw=true∧f.vq (gI M 6 f.next).fg=true)∧fM f M=(gI M 6 f.next,({ f with next:=f.next+1 }:il).skip)) ∨
 ((f.done=false∧f.fw=true∧f.vq (gI M 6 f.next).fg=false)∧fM f M=(gI M 6 f.next,f)):=by
 unfold fM
 cases h0:f.done<;>cases h1:f.fw<;>cases h2:f.vq (gI M 6 f.next).fg<;>simp
theorem CZ (b pb:Nat) (f:il) (M:Mm) (hn:0≤f.next∧f.next<2^39) :
 aY Tryz.prog 97 [.pointer (some ⟨b,0,none⟩),.pointer (some ⟨pb,0,none⟩)] [.at b (pq f),dx pb M]
  (fun v=>v=(fM f M).1.v) (fun _=>[.at b (pq (fM f M).2),dx pb M]):=by
 intro A F hw hS
 refine ab Tryz.func97 rfl (by kernel_rfl) fun _=>?_
 dsimp only [af,ag] at hS
 have hq:=mt hS hw
 have H3:IntKind.i64.wrap (f.next+1)=f.next+1:=aw (by omega) (by omega)
 have FD:0≤f.next∧f.next<2^40:=by omega
 have Y2:0≤f.next+1∧f.next+1<2^40:=by omega
 rcases Jm f M with ⟨h,e⟩|⟨h,e⟩|⟨h,e⟩|⟨h,e⟩
 · have hd:=fun A hg=>kQ b f A hg
   rw [h] at hd
   revert hq hS hw;refine W (J1 (Tg.mk (n:=10) (fun {A L K k}=>ka (A:=A) (L:=L) (K:=K) (k:=k) hd))) (J5 h @AW.aa @ah.eq_1 @bj.eq_1 @ba.v.eq_1) (J1 ?_)<;>unhygienic intros
   all_goals(
    try rw [e]
    refine⟨_,by simp [hq,AW.aa,ah];rfl,by first|trivial|(simp [ba.v,ba.zero,h];done),?_⟩
    apply ak.bS
    (·exact sA)
    (·repeat' (first|apply aD.z|apply aD.s|apply ap.z|(apply ap.DF;simp [pq,h];done)|apply ap.s)))
 · have hd:=fun A hg=>kQ b f A hg
   rw [h.1] at hd
   revert hq hS hw;(repeat first|clear hq|clear hS|clear hw|revert hc|revert zn|revert zA|revert R|revert K);refine Wu (J4 (Tg.mk (n:=10) (fun {A L K k}=>ka (A:=A) (L:=L) (K:=K) (k:=k) hd)) (⟨⟩:Os (fun A'=>A'.bR (A.next+1)=some (.cells (Qw (gI M 3 0)) true 1)) [(0,0),(1,0),(2,0),(3,1),(4,0),(5,0),(6,3),(7,0),(8,0),(9,3)]) (Lk pb) (uB b { f with fw:=true,uo:=(gI M 3 0).fg } FD)) (J5 h @AW.aa @ah.eq_1 @bj.eq_1 @ba.v.eq_1) (J1 ?_)<;>unhygienic intros
   all_goals(
    try rw [e]
    refine⟨_,by simp [hq,AW.aa,ah];rfl,by first|trivial|(simp [ba.v,ba.zero,h];done),?_⟩
    apply ak.bS
    (·exact sA)
    (·repeat' (first|apply aD.z|apply aD.s|apply ap.z|(apply ap.DF;simp [pq,h];done)|apply ap.s)))
 · have hd:=fun A hg=>kQ b f A hg
   have hp:=fun A hg=>rf b f (gI M 6 f.next).fg A hg
   rw [h.1] at hd
   rw [h.2.2] at hp
   have e2:({ f with next:=f.next+1 }:il)=⟨f.am,f.kv,true,f.uo,f.next+1⟩:=by rw [←h.2.1]
   rw [e2] at e
   revert hq hS hw;(repeat first|clear hq|clear hS|clear hw|revert hc|revert zn|revert zA|revert R|revert K);refine W (J4 (Tg.mk (n:=10) (fun {A L K k}=>ka (A:=A) (L:=L) (K:=K) (k:=k) hd)) (Tg.mk (n:=10) (fun {A L K k}=>ka (A:=A) (L:=L) (K:=K) (k:=k) hp)) (Lk pb) (uB b ⟨f.am,f.kv,true,f.uo,f.next+1⟩ Y2)) (J6 h H3 @AW.aa @ah.eq_1 @bj.eq_1 @ba.v.eq_1) (J1 ?_)<;>unhygienic intros
   all_goals(
    try rw [e]
    refine⟨_,by simp [hq,AW.aa,ah];rfl,by first|trivial|(simp [ba.v,ba.zero,h];done),?_⟩
    apply ak.bS
    (·exact sA)
    (·repeat' (first|apply aD.z|apply aD.s|apply ap.z|(apply ap.DF;simp [pq,h];done)|apply ap.s)))
 · have hd:=fun A hg=>kQ b f A hg
   have hp:=fun A hg=>rf b f (gI M 6 f.next).fg A hg
   rw [h.1] at hd
   rw [h.2.2] at hp
   revert hq hS hw;(repeat first|clear hq|clear hS|clear hw|revert hc|revert zn|revert zA|revert R|revert K);refine W (J3 (Tg.mk (n:=10) (fun {A L K k}=>ka (A:=A) (L:=L) (K:=K) (k:=k) hd)) (Tg.mk (n:=10) (fun {A L K k}=>ka (A:=A) (L:=L) (K:=K) (k:=k) hp)) (Lk pb)) (J5 h @AW.aa @ah.eq_1 @bj.eq_1 @ba.v.eq_1) (J1 ?_)<;>unhygienic intros
   all_goals(
    try rw [e]
    refine⟨_,by simp [hq,AW.aa,ah];rfl,by first|trivial|(simp [ba.v,ba.zero,h];done),?_⟩
    apply ak.bS
    (·exact sA)
    (·repeat' (first|apply aD.z|apply aD.s|apply ap.z|(apply ap.DF;simp [pq,h];done)|apply ap.s)))
end
section
open Go.Proofs Go
variable [Gl]
def Jq (l:List (Int×Int)):List Value:=l.flatMap fun x=>[.int .i64 x.1,.int .i64 x.2]
def MD (v:Value) (l:List (Int×Int)):HP:=d9 2 v l.length (Jq l)
def wd (v:Value) (l:List Nat):HP:=d9 1 v l.length (l.map pv)
theorem iF.Rk {A:AW} {o:Option Addr} {c n m size:Nat} {cs x:List Value} (h:iF A size (.slice o n c) m cs) {i:Nat} (hi:i<m) (hx:(cs.drop (i*size)).take size=x) :
 ∃p cK,o=some p∧A.cK p.block=some cK∧p.off+i*size+size≤cK.length∧(cK.drop (p.off+i*size)).take size=x:=by
 rcases h with ⟨⟨o,h1⟩,h2,_⟩|⟨p,c,cK,own,u,h1,h2,h3,h4,h5,h6⟩
 · omega
 · injection h1 with h1 _ _
   have h7:i*size+size≤m*size:=by
    have:=Nat.mul_le_mul_right size (show i+1≤m by omega)
    rwa [Nat.add_mul,Nat.one_mul] at this
   refine⟨p,cK,h1,AW.Cs h3,by omega,?_⟩
   rw [←hx,h6,←List.drop_drop,List.drop_take,List.take_take]
   congr 1
   omega
theorem yt {α:Type} (f:α→List Value) (k:Nat) (hf:∀x,(f x).length=k):∀(l:List α) (i:Nat) (hi:i<l.length),((l.flatMap f).drop (i*k)).take k=f l[i]
 | [],i,hi=>by simp at hi
 | x::l,0,hi=>by
   simp only [List.flatMap_cons,Nat.zero_mul,List.drop_zero,List.getElem_cons_zero]
   rw [←hf x,List.take_left']
   rfl
 | x::l,i+1,hi=>by
   rw [List.flatMap_cons,Nat.add_mul,Nat.one_mul,Nat.add_comm,←List.drop_drop,List.drop_left' (hf x)]
   exact yt f k hf l i (by simpa using hi)
theorem ak.St {A:AW} {L K:List It} {o:Option Addr} {n c:Nat} {l:List (Int×Int)} (hS:ak A L) (hp:ap L (.h (MD (.slice o n c) l)) K) {i:Nat} (hi:i<l.length) :
 ∃p cK,o=some p∧A.cK p.block=some cK∧p.off+i*2+2≤cK.length∧(cK.drop (p.off+i*2)).take 2=[.int .i64 l[i].1,.int .i64 l[i].2]:=
 iF.Rk (ak.wF hS hp) hi (yt _ 2 (fun _=>rfl) l i hi)
section
variable {S:AW→Prop} {K:Fr→AW→Prop} {fR:List uZ} {a:Fr} {A:AW} {d:Option Tmp} {x y:Operand} {n:Nat} {v:Value} {L K':List It}
theorem Of {l:List (Int×Int)} {y1 y2:Int} (e1:ip a x=v) (e2:ip a y=.slice (some ⟨n,0,none⟩) 1 1) (hw:A.Wf) (hS:ak A L) (hp:ap L (.h (MD v l)) K') (hn:A.bR n=some (.cells [.int .i64 y1,.int .i64 y2] true 2)) (bW:l.length<2 ^ 30)
 (hs:∀A',ak A' K'→S A')
 (hk:∀o c A',ak A' (.h (MD (.slice o (l.length+1) c) (l++[(y1,y2)]))::K')→A'.Wf→A.next≤A'.next→bn Tryz.prog S K fR (eb a d (.slice o (l.length+1) c)) A') :
 bn Tryz.prog S K (⟨d,.call ⟨.builtin .append,#[x,y],#[186,186]⟩,none,3⟩::fR) a A:=by
 refine KY (P:=Tryz.prog) (size:=2) (m:=l.length) (cs:=Jq l) Tryz.underlying186 Tryz.info268 Tryz.zero268 rfl rfl (by omega) (by decide) e1 e2 hw hS hp hn rfl rfl bW hs fun o c A' h1 h2 h3=>hk o c A' ?_ h2 h3
 have e:MD (.slice o (l.length+1) c) (l++[(y1,y2)])=d9 2 (.slice o (l.length+1) c) (l.length+1) (Jq l++[.int .i64 y1,.int .i64 y2]):=by
  unfold MD
  rw [List.length_append,show Jq (l++[(y1,y2)])=Jq l++[.int .i64 y1,.int .i64 y2] by simp [Jq]]
  rfl
 rw [e]
 exact h1
theorem Po {l:List Nat} {q:Nat} (e1:ip a x=v) (e2:ip a y=.slice (some ⟨n,0,none⟩) 1 1) (hw:A.Wf) (hS:ak A L) (hp:ap L (.h (wd v l)) K') (hn:A.bR n=some (.cells [pv q] true 1)) (bW:l.length<2 ^ 30)
 (hs:∀A',ak A' K'→S A')
 (hk:∀o c A',ak A' (.h (wd (.slice o (l.length+1) c) (l++[q]))::K')→A'.Wf→A.next≤A'.next→bn Tryz.prog S K fR (eb a d (.slice o (l.length+1) c)) A') :
 bn Tryz.prog S K (⟨d,.call ⟨.builtin .append,#[x,y],#[264,264]⟩,none,3⟩::fR) a A:=by
 refine KY (P:=Tryz.prog) (size:=1) (m:=l.length) (cs:=l.map pv) Tryz.underlying264 Tryz.info205 Tryz.zero205 rfl rfl (by omega) (by decide) e1 e2 hw hS hp hn rfl rfl bW hs fun o c A' h1 h2 h3=>hk o c A' ?_ h2 h3
 have e:wd (.slice o (l.length+1) c) (l++[q])=d9 1 (.slice o (l.length+1) c) (l.length+1) (l.map pv++[pv q]):=by
  unfold wd
  rw [List.length_append,List.map_append]
  rfl
 rw [e]
 exact h1
end
def Lh (c:bC) (v:Value):dK:=.cells [.int .i64 c.aQ,.int .i64 c.an,.int .i64 c.base,.int .i64 c.c0,.int .i64 c.c1,.int .i64 c.c2,.int .i64 c.c3,.int .i64 c.reads,.int .i64 c.bN,.int .i64 c.ai,.int .i64 c.av,.int .i64 c.ax,.bool c.aK,v] true 1
def IV (p:Nat) (c:bC) (l:List (Int×Int)) (v:Value):List It:=[.at p (Lh c v),.h (MD v l)]
def ml (p:Nat) (c:bC) (l:List (Int×Int)):HP:=nI fun v:Value=>aR (IV p c l v)
def lM (q:List (Nat×fm)):HP:=q.foldr (fun x P=>pt x.1 (fN x.2)*P) eG
theorem Gc (q:List (Nat×fm)) (x:Nat×fm):lM (q++[x])=pt x.1 (fN x.2)*lM q:=by
 induction q with
 | nil=>rfl
 | cons y q ih=>
   show pt y.1 (fN y.2)*lM (q++[x])=pt x.1 (fN x.2)*(pt y.1 (fN y.2)*lM q)
   rw [ih]
   ac_rfl
theorem ak.Rl {A:AW} {L K:List It} {n:Nat} {p:fm} {q:List (Nat×fm)} (h:ak A L) (h1:ap L (.h (lM ((n,p)::q))) K):ak A (.at n (fN p)::.h (lM q)::K):=by
 unfold ak at h ⊢
 rw [h1.aR] at h
 exact h.dH (by show (pt n (fN p)*lM q)*aR K=pt n (fN p)*(lM q*aR K);ac_rfl)
theorem ak.Rm {A:AW} {L K K2:List It} {n:Nat} {p:fm} {q:List (Nat×fm)} (h:ak A L) (h1:ap L (.at n (fN p)) K) (h2:ap K (.h (lM q)) K2):ak A (.h (lM ((n,p)::q))::K2):=by
 unfold ak at h ⊢
 rw [h1.aR,h2.aR] at h
 exact h.dH (by show pt n (fN p)*(lM q*aR K2)=(pt n (fN p)*lM q)*aR K2;ac_rfl)
def ND (p:Nat) (x:Value×List (Nat×fm)):List It:=[.at p (.cells [x.1] true 1),.h (wd x.1 (x.2.map Prod.fst)),.h (lM x.2)]
def uU (p:Nat) (l:List fm):HP:=nI fun x:Value×{ q:List (Nat×fm) // q.map Prod.snd=l }=>aR (ND p (x.1,x.2.1))
section
variable {A:AW} {L K:List It} {p:Nat}
theorem ml.open {c:bC} {l:List (Int×Int)} (h:ak A L) (hp:ap L (.h (ml p c l)) K):∃v,ak A (IV p c l v++K):=jE h hp
theorem ml.dR {c:bC} {l:List (Int×Int)} {v:Value} (h:ak A L) (e:aD L (IV p c l v) K):ak A (.h (ml p c l)::K):=ii v h e
theorem uU.open {l:List fm} (h:ak A L) (hp:ap L (.h (uU p l)) K):∃v q,q.map Prod.snd=l∧ak A (ND p (v,q)++K):=by
 obtain⟨⟨v,q,hq⟩,h⟩:=jE h hp
 exact⟨v,q,hq,h⟩
theorem uU.dR {l:List fm} {v:Value} {q:List (Nat×fm)} (hq:q.map Prod.snd=l) (h:ak A L) (e:aD L (ND p (v,q)) K):ak A (.h (uU p l)::K):=ii (g:=fun x:Value×{ q:List (Nat×fm) // q.map Prod.snd=l }=>ND p (x.1,x.2.1)) (v,⟨q,hq⟩) h e
theorem uU.nil (h:ak A L) (h1:ap L (.at p (.cells [.slice none 0 0] true 1)) K):ak A (.h (uU p [])::K):=by
 have h2:ak A (.at p (.cells [.slice none 0 0] true 1)::K):=by
  unfold ak at h ⊢
  rw [h1.aR] at h
  exact h
 have h3:ak A (.h eG::.at p (.cells [.slice none 0 0] true 1)::K):=ak.kj h2
 have h4:ak A (.h (wd (.slice none 0 0) [])::.h eG::.at p (.cells [.slice none 0 0] true 1)::K):=d9.nil h3
 exact uU.dR (v:=.slice none 0 0) (q:=[]) rfl h4 (.s (.s (.s .z)) (.s .z (.s .z .z)))
theorem uU.Uo {K1 K2 K3:List It} {n:Nat} {v:Value} {q:List (Nat×fm)} {x:fm} {l:List fm} (hq:q.map Prod.snd=l) (h:ak A L) (h1:ap L (.at p (.cells [v] true 1)) K) (h2:ap K (.h (wd v (q.map Prod.fst++[n]))) K1) (h3:ap K1 (.h (lM q)) K2) (h4:ap K2 (.at n (fN x)) K3) :
 ak A (.h (uU p (l++[x]))::K3):=by
 have h5:ak A (.h (lM (q++[(n,x)]))::.at p (.cells [v] true 1)::.h (wd v ((q++[(n,x)]).map Prod.fst))::K3):=by
  unfold ak at h ⊢
  rw [h1.aR,h2.aR,h3.aR,h4.aR] at h
  show bz A (lM (q++[(n,x)])*(pt p (.cells [v] true 1)*(wd v ((q++[(n,x)]).map Prod.fst)*aR K3)))
  rw [Gc,List.map_append]
  exact h.dH (by show pt p (.cells [v] true 1)*(wd v (q.map Prod.fst++[n])*(lM q*(pt n (fN x)*aR K3)))=_;ac_rfl)
 exact uU.dR (v:=v) (q:=q++[(n,x)]) (by rw [List.map_append,hq];rfl) h5 (.s (.s .z) (.s (.s .z) (.s .z .z)))
theorem ak.MP {v:Value} {n:Nat} {ns:List Nat} (h:ak A L) (hp:ap L (.h (wd v (n::ns))) K) :
 ∃b off c cK,v=.slice (some ⟨b,off,none⟩) (ns.length+1) c∧ns.length+1≤c∧off+(ns.length+1)≤cK.length∧cK[off]? = some (pv n)∧ak A (.at b (.cells cK true 1)::K)∧
  (∀(A':AW) (L' K':List It),ak A' L'→ap L' (.at b (.cells cK true 1)) K'→ak A' (.h (wd (.slice (some ⟨b,off,none⟩) (ns.length+1) c) (n::ns))::K')∧ak A' (.h (wd (.slice (some ⟨b,off+1,none⟩) ns.length (c-1)) ns)::K')):=by
 unfold ak at h
 rw [hp.aR] at h
 rcases d9.cases h with ⟨_,h0,_⟩|⟨b,off,c,cK,rfl,h1,h2,h3,h4⟩
 · simp at h0
 · simp only [List.length_cons,Nat.mul_one] at h1 h2 h3
   have Xt:=h3
   rw [List.drop_eq_getElem_cons (by omega),List.map_cons,List.take_succ_cons] at Xt
   obtain⟨h5,h6⟩:=List.cons.inj Xt
   refine⟨b,off,c,cK,by simp,h1,h2,?_,h4,fun A' L' K' hS hq=>?_⟩
   · rw [List.getElem?_eq_getElem (by omega),←h5]
   · unfold ak at hS
     rw [hq.aR] at hS
     refine⟨d9.mk (by simpa using h1) (by simpa using h2) (by simpa using h3) hS,?_⟩
     exact d9.mk (by omega) (by omega) (by simpa using h6) hS
theorem ak.UC (h:ak A L):ak A (.h (MD (.slice none 0 0) [])::L):=d9.nil h
end
end
end Go.Stx
