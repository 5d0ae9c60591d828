import Derived.Test.YtnnbecihffpedaaGreatDoorF1
set_option linter.all false
open List renaming length->U
open Bool renaming rec->kaD
open List renaming length_cons->ZI,mem_cons->Zz,mem_singleton->ZV
open Nat renaming beq->Zi,eq_of_beq_eq_true->ZR,le_add_left->kbe,le_of_ble_eq_true->kat,lt_of_le_of_lt->Z4
open Option.some renaming injEq->Zd
open Prod.mk renaming injEq->Zk
open Bool renaming false->qn,true->qj
open Go renaming Addr->qM,Operand->qA,Program->qp,TypeId->qy,Value->qi,undef->qE
open Go.Callee renaming builtin->qH
open Go.Op renaming call->qW
open Go.Value renaming bool->qt,pointer->qs,string->qO,tuple->qF
open Option renaming none->qk,some->qf
namespace Go.Stx
open Go
variable [Gl]
noncomputable section
inductive Tr (α:Type) where
 | nil
 | iZ (l:Tr α) (v:Option α) (r:Tr α)
noncomputable def Tr.bk {α:Type}(t:Tr α):Nat->Option α:=
 Tr.rec (motive:=λ_=>Nat->Option α) (λ_=>qk) (λ_ v _ gl gr k=>kaD (motive:=λ_=>Option α) (kaD (motive:=λ_=>Option α) (gr (Nat.div k 2)) (gl (Nat.div k 2)) (Zi (Nat.mod k 2) 0)) v (Zi k 1)) t
def Tr.uw {α:Type}(l:Tr α)(v:Option α)(r:Tr α)(k:Nat):(Tr.iZ l v r).bk k=match Zi k 1 with
 |true=>v
 |false=>match Zi (k % 2) 0 with
   |true=>l.bk (k / 2)
   |false=>r.bk (k / 2):=by show kaD (motive:=λ_=>Option α) (kaD (motive:=λ_=>Option α) (r.bk (k / 2)) (l.bk (k / 2)) (Zi (k % 2) 0)) v (Zi k 1)=_;cases Zi k 1<;>cases Zi (k % 2) 0<;>rfl
def Tr.aM {α:Type}(o:Option α)(d:Nat):Nat->Tr α:=
 Nat.rec (motive:=λ_=>Nat->Tr α) (λ_=>.nil) (λ_ ih k=>
  kaD (motive:=λ_=>Tr α)
   (Tr.rec (motive:=λ_=>Tr α) (.iZ .nil qk .nil) (λa b c _ _=>kaD (motive:=λ_=>Tr α) (.iZ .nil qk (.iZ a b c)) (.iZ (.iZ a b c) qk .nil) (Zi (Nat.mod k 2) 0)) (ih (Nat.div k 2)))
   (.iZ .nil o .nil) (Zi k 1)) d
def Tr.put {α:Type}(d:Nat)(t:Tr α)(k:Nat)(o:Option α):Tr α:=
 Tr.rec (motive:=λ_=>Nat->Tr α) (λk=>Tr.aM o d k)
  (λl v r pl pr k=>kaD (motive:=λ_=>Tr α)
   (kaD (motive:=λ_=>Tr α)
    (Tr.rec (motive:=λ_=>Tr α) (.iZ l v .nil) (λa b c _ _=>.iZ l v (.iZ a b c)) (pr (Nat.div k 2)))
    (Tr.rec (motive:=λ_=>Tr α) (.iZ .nil v r) (λa b c _ _=>.iZ (.iZ a b c) v r) (pl (Nat.div k 2)))
    (Zi (Nat.mod k 2) 0))
   (.iZ l o r) (Zi k 1)) t k
def yk {a b:Nat}(h:a=b):Zi a b=qj:=by subst h;exact Nat.beq_refl a
def nC {a b:Nat}(h:¬a=b):Zi a b=qn:=by
 cases e:Zi a b with
 |false=>rfl
 |true=>exact absurd (ZR e) h
def Uh {α:Type}(l:Tr α)(f:Tr α->Tr α):Tr.rec (motive:=λ_=>Tr α) (f .nil) (λa b c _ _=>f (.iZ a b c)) l=f l:=by cases l<;>rfl
def Tr.Uv {α:Type}(o:Option α):∀(d k j:Nat),1<=k->k<2 ^ d->1<=j->(Tr.aM o d k).bk j=if j=k then o else qk
 |0,k,j,h1,h2,_=>by simp at h2;omega
 |d+1,k,j,h1,h2,h3=>by
   show (kaD (motive:=λ_=>Tr α)
    (Tr.rec (motive:=λ_=>Tr α) (.iZ .nil qk .nil) (λa b c _ _=>kaD (motive:=λ_=>Tr α) (.iZ .nil qk (.iZ a b c)) (.iZ (.iZ a b c) qk .nil) (Zi (k % 2) 0)) (Tr.aM o d (k / 2)))
    (.iZ .nil o .nil) (Zi k 1):Tr α).bk j=_
   by_cases hk:k=1;subst hk;show (Tr.iZ .nil o .nil).bk j=_;rw[Tr.uw];by_cases hj:j=1;subst hj;simp;rw[nC hj,ar hj];cases Zi (j % 2) 0<;>rfl;rw[nC hk];have ih:=λi (hi:1<=i)=>Tr.Uv o d (k / 2) i Ya (by rw[Nat.pow_succ]at h2;omega) hi;by_cases hp:k % 2=0;rw[yk hp];have e3:(Tr.rec (motive:=λ_=>Tr α) (.iZ .nil qk .nil) (λa b c _ _=>.iZ (.iZ a b c) qk .nil) (Tr.aM o d (k / 2)):Tr α)=.iZ (Tr.aM o d (k / 2)) qk .nil:=Uh _ λx=>.iZ x qk .nil;show (Tr.rec (motive:=λ_=>Tr α) (.iZ .nil qk .nil) (λa b c _ _=>.iZ (.iZ a b c) qk .nil) (Tr.aM o d (k / 2)):Tr α).bk j=_;rw[e3,Tr.uw];by_cases hj:j=1;subst hj;rw[ar (show ¬1=k by omega)]<;>rfl;rw[nC hj];by_cases hjp:j % 2=0;rw[yk hjp];show (Tr.aM o d (k / 2)).bk (j / 2)=_;rw[ih (j / 2) Ya];by_cases hjk:j=k;subst hjk;rw[az rfl,az rfl];rw[ar hjk,ar (show ¬j / 2=k / 2 by omega)];rw[nC hjp,ar (show ¬j=k by omega)]<;>rfl
   rw[nC hp];have e3:(Tr.rec (motive:=λ_=>Tr α) (.iZ .nil qk .nil) (λa b c _ _=>.iZ .nil qk (.iZ a b c)) (Tr.aM o d (k / 2)):Tr α)=.iZ .nil qk (Tr.aM o d (k / 2)):=Uh _ λx=>.iZ .nil qk x;show (Tr.rec (motive:=λ_=>Tr α) (.iZ .nil qk .nil) (λa b c _ _=>.iZ .nil qk (.iZ a b c)) (Tr.aM o d (k / 2)):Tr α).bk j=_;rw[e3,Tr.uw];by_cases hj:j=1;subst hj;rw[ar (show ¬1=k by omega)]<;>rfl;rw[nC hj];by_cases hjp:j % 2=0;rw[yk hjp,ar (show ¬j=k by omega)]<;>rfl;rw[nC hjp];show (Tr.aM o d (k / 2)).bk (j / 2)=_;rw[ih (j / 2) Ya];by_cases hjk:j=k;subst hjk;rw[az rfl,az rfl];rw[ar hjk,ar (show ¬j / 2=k / 2 by omega)]
def Tr.put_node {α:Type}(d:Nat)(l:Tr α)(v:Option α)(r:Tr α)(k:Nat)(o:Option α):(Tr.iZ l v r).put d k o=match Zi k 1 with
 |true=>.iZ l o r
 |false=>match Zi (k % 2) 0 with
   |true=>.iZ (l.put d (k / 2) o) v r
   |false=>.iZ l v (r.put d (k / 2) o):=by
 show (kaD (motive:=λ_=>Tr α)
  (kaD (motive:=λ_=>Tr α)
   (Tr.rec (motive:=λ_=>Tr α) (.iZ l v .nil) (λa b c _ _=>.iZ l v (.iZ a b c)) (r.put d (k / 2) o))
   (Tr.rec (motive:=λ_=>Tr α) (.iZ .nil v r) (λa b c _ _=>.iZ (.iZ a b c) v r) (l.put d (k / 2) o))
   (Zi (k % 2) 0))
  (.iZ l o r) (Zi k 1):Tr α)=_
 rw[Uh (r.put d (k / 2) o) (λx=>.iZ l v x),Uh (l.put d (k / 2) o) (λx=>.iZ x v r)];cases Zi k 1<;>cases Zi (k % 2) 0<;>rfl
def Tr.Ba {α:Type}(d:Nat):∀(t:Tr α)(k:Nat)(o:Option α)(j:Nat),1<=k->k<2 ^ d->1<=j->(t.put d k o).bk j=if j=k then o else t.bk j
 | .nil,k,o,j,h1,h2,h3=>Tr.Uv o d k j h1 h2 h3
 | .iZ l v r,k,o,j,h1,h2,h3=>by
   rw[Tr.put_node,Tr.uw];have ihl:=fun(i:Nat) (hk:2<=k) (hi:1<=i)=>Tr.Ba d l (k / 2) o i Ya Ya hi;have ihr:=fun(i:Nat) (hk:2<=k) (hi:1<=i)=>Tr.Ba d r (k / 2) o i Ya Ya hi;by_cases hk:k=1;subst hk;show (Tr.iZ l o r).bk j=_;rw[Tr.uw];by_cases hj:j=1;subst hj;simp;rw[ar hj];simp only[nC hj];simp only[nC hk];by_cases hp:k % 2=0;simp only[yk hp,Tr.uw];by_cases hj:j=1;subst hj;rw[ar (show ¬1=k by omega)]<;>rfl;simp only[nC hj];by_cases hjp:j % 2=0;simp only[yk hjp];rw[ihl (j / 2) Ya Ya];by_cases hjk:j=k;subst hjk;rw[az rfl,az rfl];rw[ar hjk,ar (show ¬j / 2=k / 2 by omega)];simp only[nC hjp];rw[ar (show ¬j=k by omega)];simp only[nC hp,Tr.uw];by_cases hj:j=1;subst hj;rw[ar (show ¬1=k by omega)]<;>rfl;simp only[nC hj];by_cases hjp:j % 2=0;simp only[yk hjp];rw[ar (show ¬j=k by omega)];simp only[nC hjp];rw[ihr (j / 2) Ya Ya]
   by_cases hjk:j=k;subst hjk;rw[az rfl,az rfl];rw[ar hjk,ar (show ¬j / 2=k / 2 by omega)]
def Ff {β:Sort _}(n:Nat)(c:Nat->β):β:=Nat.rec (motive:=λ_=>β) (c 0) (λk _=>c (Nat.succ k)) n
def Bd {β:Sort _}(n:Nat)(c:Nat->β):Ff n c=c n:=by cases n<;>rfl
def fInt {β:Sort _}(n:Int)(c:Int->β):β:=match n with | .ofNat m=>Ff m λm=>c (.ofNat m) | .negSucc m=>Ff m λm=>c (.negSucc m)
def fInt_eq {β:Sort _}(n:Int)(c:Int->β):fInt n c=c n:=by cases n<;>simp[fInt,Bd]
def Vc {β:Sort _}(b:Bool)(c:Bool->β):β:=match b with|true=>c qj|false=>c qn
def QL {β:Sort _}(b:Bool)(c:Bool->β):Vc b c=c b:=by cases b<;>rfl
def Vd {β:Sort _}(a:qM)(c:qM->β):β:=match a with|⟨b,o,s⟩=>Ff b λb=>Ff o λo=>c ⟨b,o,s⟩
def fAddr_eq {β:Sort _}(a:qM)(c:qM->β):Vd a c=c a:=by cases a;simp[Vd,Bd]
def Vb {β:Sort _}(v:qi)(c:qi->β):β:=
 match v with
 |qt b=>Vc b λb=>c (qt b)
 | .int k n=>fInt n λn=>c (.int k n)
 | .float k n=>c (.float k n)
 | .complex k x y=>c (.complex k x y)
 |qO s=>c (qO s)
 |qs qk=>c (qs qk)
 |qs (qf a)=>Vd a λa=>c (qs (qf a))
 | .slice qk n m=>Ff n λn=>Ff m λm=>c (.slice qk n m)
 | .slice (qf a) n m=>Vd a λa=>Ff n λn=>Ff m λm=>c (.slice (qf a) n m)
 | .map qk=>c (.map qk)
 | .map (qf r)=>Ff r λr=>c (.map (qf r))
 | .func f x y=>c (.func f x y)
 | .nilFunc=>c .nilFunc
 | .iface t v=>c (.iface t v)
 | .nilIface=>c .nilIface
 |v=>c v
def QK {β:Sort _}(v:qi)(c:qi->β):Vb v c=c v:=by unfold Vb;split<;>simp[QL,fInt_eq,fAddr_eq,Bd]
def Ja {β:Sort _}:List qi->(List qi->β)->β
 |[],c=>c []
 |v::l,c=>Vb v λv=>Ja l λl=>c (v::l)
def D9 {β:Sort _}:∀(l:List qi)(c:List qi->β),Ja l c=c l
 |[],c=>rfl
 |v::l,c=>by rw[Ja,QK,D9 l]
def Bv {β:Sort _}(v:qi)(c:qi->β):β:=
 match v with
 | .agg ⟨l⟩=>Ja l λl=>c (.agg ⟨l⟩)
 |qF ⟨l⟩=>Ja l λl=>c (qF ⟨l⟩)
 |v=>Vb v c
def nX {β:Sort _}(v:qi)(c:qi->β):Bv v c=c v:=by unfold Bv;split<;>simp[D9,QK]
def NN {β:Sort _}:List (qi×qi)->(List (qi×qi)->β)->β
 |[],c=>c []
 | (k,v)::l,c=>Bv k λk=>Bv v λv=>NN l λl=>c ((k,v)::l)
def Ma {β:Sort _}:∀(l:List (qi×qi))(c:List (qi×qi)->β),NN l c=c l
 |[],c=>rfl
 | (k,v)::l,c=>by rw[NN,nX,nX,Ma l]
def fObj {β:Sort _}(o:Option dt)(c:Option dt->β):β:=
 match o with
 |none=>c qk
 |some (.cells l own u)=>Ja l λl=>Vc own λown=>Ff u λu=>c (qf (.cells l own u))
 |some (.map l own)=>NN l λl=>Vc own λown=>c (qf (.map l own))
def NO {β:Sort _}(o:Option dt)(c:Option dt->β):fObj o c=c o:=by unfold fObj;split<;>simp[D9,Ma,QL,Bd]
def fTr {α:Type}{β:Sort _}(t:Tr α)(c:Tr α->β):β:=match t with | .nil=>c .nil | .iZ l v r=>c (.iZ l v r)
def NM {α:Type}{β:Sort _}(t:Tr α)(c:Tr α->β):fTr t c=c t:=by cases t<;>rfl
structure EM where
 next:Nat
 t:Tr dt
def EM.aw (m:EM):AW:=⟨m.next,λi=>m.t.bk (i+1)⟩
def EM.lS (n:Nat):EM:=⟨n,.nil⟩
def EM.empty_aw {n:Nat}(h:Gl.N=n):(EM.lS n).aw=AW.lS:=by subst h;rfl
abbrev FT:=Tr qi
def FT.fr (a:FT):Fr:=λi=>(a.bk (i+1)).getD qE
def GH {β:Sort _}(a:FT)(d:Option Tmp)(v:qi)(c:FT->β):β:=
 match d with
 |some i=>fTr (a.put 24 (i+1) (qf v)) c
 |none=>c a
def MX (d:Option Tmp):Bool:=match d with|some i=>Nat.ble i 1000000|none=>qj
def rF {β:Sort _}{a:FT}{d:Option Tmp}{v:qi}{c:FT->β}(hd:MX d=qj):∃a',GH a d v c=c a'/\a'.fr=d8 a.fr d v:=by
 cases d with
 |none=>exact⟨a,rfl,rfl⟩
 |some i=>have hi:i<=1000000:=kat hd;refine⟨a.put 24 (i+1) (qf v),by simp[GH,NM],?_⟩;funext j;simp only[FT.fr,d8,mu];rw[Tr.Ba 24 a (i+1) (qf v) (j+1) (kbe 1 i) (Z4 (Nat.succ_le_succ hi) Yd) (kbe 1 j)];by_cases e:j=i;subst e;simp;rw[ar Ya,ar e]
def GV (A:AW)(r:qA->qi):Op->List Nat
 | .alloc _=>[A.next]
 | .box _ _=>[A.next]
 | .buildSlice _ _ _=>[A.next]
 | .makeSlice _ _ _=>[A.next]
 | .makeMap _ _=>[A.next]
 | .store _ x _=>match r x with |qs (qf p)=>[p.block]|_=>[]
 | .mapUpdate _ x _ _=>match r x with | .map (qf q)=>[q]|_=>[]
 | .insert _ x _ _=>match r x with | .map (qf q)=>[q]|_=>[]
 |qW c=>match c.args.toList with
   |s::_=>match r s with | .slice (qf p) _ _=>[p.block,A.next]|_=>[A.next]
   |_=>[]
 |_=>[]
def oO {A:AW}{o:dt}{j:Nat}(h:j∉[A.next]):(A.alloc o).bk j=A.bk j:=by simp at h;simp[AW.alloc,h]
def LA {P:qp}{A A1:AW}{t:qy}{x k v:qi}(h:fv P A t x k v=qf A1){j:Nat}(hj:j∉(match x with | .map (qf q)=>[q]|_=>[])):A1.bk j=A.bk j:=by
 unfold fv at h;split at h
 . simp only[ZV]at hj
   repeat' (split at h)
   all_goals(first|(cases h;done)|(injection h with h;rw[<-h];simp[AW.set,hj]))
 cases h
def V6 {A:AW}{size:Nat}{s:qi}{a:qM}{k:Nat}{ug:List qi}(h:gU A size s=qf (qf a,k,ug)):∃n c,s=.slice (qf a) n c:=by
 unfold gU at h
 repeat' (split at h)
 all_goals(first|(cases h;done)|(simp only[Zd,Zk]at h;obtain⟨h1,_⟩:=h;(subst h1;exact⟨_,_,rfl⟩)))
def Jw {A:AW}{size:Nat}{s:qi}{base:Option qM}{k:Nat}{ug:List qi}(h:gU A size s=qf (base,k,ug)){j:Nat}(hj:j∉(match s with | .slice (qf p) _ _=>[p.block,A.next]|_=>[A.next])){o:dt}:((match base with|some a=>A.set a.block qk|none=>A).alloc o).bk j=A.bk j:=by
 cases base with
 |none=>refine oO λhm=>hj ?_;split;simp at hm ⊢;exact .inr hm;exact hm
 |some a=>obtain⟨n,c,rfl⟩:=V6 h;simp at hj;simp[AW.alloc,AW.set,hj.1,hj.2]
def aab {P:qp}{A A1:AW}{t u:qy}{s x v:qi}(h:fD P A t u s x=qf (v,A1)){j:Nat}(hj:j∉(match s with | .slice (qf p) _ _=>[p.block,A.next]|_=>[A.next])):A1.bk j=A.bk j:=by
 unfold fD at h;split at h<;>try(cases h;done)
 split at h<;>try(cases h;done)
 split at h<;>try(cases h;done)
 split at h<;>try(cases h;done)
 split at h<;>try(cases h;done)
 rename_i hol;split at h;injection h with h;injection h with h1 h2;rw[h2];split at h<;>try(cases h;done)
 injection h with h;injection h with h1 h2;rw[<-h2];exact Jw hol hj
def TS {P:qp}{A A1:AW}{t u:qy}{s x v:qi}(h:mP P A t u s x=qf (v,A1)){j:Nat}(hj:j∉(match s with | .slice (qf p) _ _=>[p.block,A.next]|_=>[A.next])):A1.bk j=A.bk j:=by
 unfold mP at h;split at h<;>try(cases h;done)
 split at h<;>try(cases h;done)
 split at h<;>try(cases h;done)
 split at h<;>try(cases h;done)
 rename_i hol;split at h<;>try(cases h;done)
 split at h;injection h with h;injection h with h1 h2;rw[h2];injection h with h;injection h with h1 h2;rw[<-h2];exact Jw hol hj
def QY {P:qp}{A A1:AW}{t:qy}{x:qi}(h:CU P A t x=qf A1){j:Nat}(hj:j∉(match x with | .slice (qf p) _ _=>[p.block,A.next]|_=>[A.next])):A1.bk j=A.bk j:=by
 unfold CU at h;split at h;injection h with h;rw[h]
 . simp only[Zz,not_or]at hj
   repeat' (split at h)
   all_goals(first|(cases h;done)|(injection h with h;subst h;simp[AW.set,hj.1]))
 cases h
def TB {P:qp}{A A1:AW}{t:qy}{x y v:qi}(h:Mk P A t x y=qf (v,A1)){j:Nat}(hj:j∉(match x with | .slice (qf p) _ _=>[p.block,A.next]|_=>[A.next])):A1.bk j=A.bk j:=by
 unfold Mk at h;split at h<;>try(cases h;done)
 split at h<;>try(cases h;done)
 split at h<;>try(cases h;done)
 split at h<;>try(cases h;done)
 simp only[Zd,Zk]at h;obtain⟨_,rfl⟩:=h;simp only[Zz,List.not_mem_nil,or_false,not_or]at hj;simp[AW.set,hj.1]
def ae_frame {P:qp}{A A1:AW}{r:qA->qi}{op:Op}{v:qi}(h:ae P A r op=qf (v,A1)):∀j,j∉GV A r op->A1.bk j=A.bk j:=by
 intro j hj;cases op<;>simp only[ae]at h<;>(try (cases h;done))<;>simp only[GV]at hj
 case alloc t=>
  unfold CW at h;split at h<;>try(cases h;done)
  split at h<;>try(cases h;done)
  split at h<;>try(cases h;done)
  exact Yab
 case box t x=>
  injection h with h;have e:A1=(Rl A (r x)).2:=by rw[h]
  rw[e];exact oO hj
 case buildSlice t len ps=>
  unfold mO at h;split at h<;>try(cases h;done)
  split at h<;>try(cases h;done)
  split at h<;>try(cases h;done)
  split at h<;>try(cases h;done)
  split at h<;>try(cases h;done)
  exact Yab
 case store t x y=>
  split at h
  . rename_i p hp;rw[hp]at hj;simp only[ZV]at hj;split at h
    . rename_i A2 cJ;injection h with h;injection h with h1 h2;rw[<-h2];unfold aI at cJ
      repeat' (split at cJ)
      all_goals(first|(cases cJ;done)|(injection cJ with cJ;rw[<-cJ];simp[AW.set,hj]))
    cases h
  cases h
 case makeSlice t l c=>
  unfold mM at h;split at h<;>try(cases h;done)
  split at h<;>try(cases h;done)
  split at h<;>try(cases h;done)
  split at h<;>try(cases h;done)
  exact Yab
 case makeMap t x=>
  unfold uF at h
  repeat' (split at h)
  all_goals(first|(cases h;done)|(injection h with h;injection h with h1 h2;rw[<-h2];exact oO hj))
 case mapUpdate t x k y=>split at h;rename_i A2 cJ;injection h with h;injection h with h1 h2;rw[<-h2];exact LA cJ hj;cases h
 case insert t x k y=>split at h;rename_i A2 cJ;injection h with h;injection h with h1 h2;rw[<-h2];exact LA cJ hj;cases h
 case call c=>obtain⟨callee,args,argTypes⟩:=c;simp only at h hj;split at h;rename_i s x t u h1 h2 h3;rw[h2]at hj;simp only at hj;split at h;exact aab h hj;exact TS h hj;rename_i x t h1 h2 h3;rw[h2]at hj;simp only at hj;split at h;rename_i A2 cJ;injection h with h;injection h with h4 h5;rw[<-h5];exact QY cJ hj;cases h;rename_i s x t u h1 h2 h3;rw[h2]at hj;simp only at hj;exact TB h hj;cases h
def qPick (r:qA->qi)(c x y:qA):Option qi:=match r c with |qt b=>qf (if b then r x else r y)|_=>qk
def qLoad (P:qp)(A:AW)(r:qA->qi)(t:qy)(x:qA):Option qi:=match r x with |qs (qf p)=>ja P A t p|_=>qk
def qNil (r:qA->qi)(x:qA):Option qi:=match r x with |qs (qf p)=>qf (qs (qf p))|_=>qk
def qBin (P:qp)(r:qA->qi)(op:BinOp)(t:qy)(x y:qA):Option qi:=
 match y,r y with
 | .const .nilIface,.nilIface=>Oj P op t (r x)
 |_,_=>Rm P op t (r x) (r y)
def qConv (P:qp)(A:AW)(r:qA->qi)(s d:qy)(x:qA):Option qi:=match Rj P s d (r x) with|some v=>qf v|none=>JP P A s d (r x)
def qSlice (P:qp)(A:AW)(r:qA->qi)(t:qy)(x:qA)(lo hi mx:Option qA):Option qi:=
 match mx with
 |none=>Ap P A t (r x) (lo.map r) (hi.map r) qk
 |some q=>Ei P t (r x) (lo.map r) (hi.map r) (r q)
def qExt (r:qA->qi)(t:qA)(i:Nat):Option qi:=match r t with |qF vs=>vs[i]?|_=>qk
def qCall (P:qp)(r:qA->qi)(c:Call):Option qi:=
 match c.callee,c.args.toList,c.argTypes.toList with
 |qH .len,[x],[t]=>oQ P t (r x)
 |qH .min,[x,y],_=>TT qn [r x,r y]
 |qH .max,[x,y],_=>TT qj [r x,r y]
 |_,_,_=>qk
def aqX (P:qp)(A:AW)(r:qA->qi):Op->Option qi
 | .move x=>qf (r x)
 | .assign x=>qf (r x)
 | .pick c x y=>qPick r c x y
 | .build t ps=>JQ P t (pH r ps)
 | .load t x=>qLoad P A r t x
 | .nilCheck x=>qNil r x
 | .binOp op t x y _=>qBin P r op t x y
 | .unOp op _ x=>aun op (r x)
 | .convert s d x=>qConv P A r s d x
 | .makeInterface t x=>uG P t (r x)
 | .slice t x lo hi mx=>qSlice P A r t x lo hi mx
 | .lookup t x ix c=>Bf P A t (r x) (r ix) c
 | .fieldAddr s x f=>uJ P s (r x) f
 | .field t x f=>JL P t (r x) f
 | .indexAddr t x ix=>uH P t (r x) (r ix)
 | .index t x ix=>JK P t (r x) (r ix)
 | .extract t i=>qExt r t i
 | .makeFunc fn fs cs=>qf (.func fn (fs.map r) (cs.map r))
 |qW c=>qCall P r c
 |_=>qk
def Oc (P:qp)(A:AW)(r:qA->qi)(op:Op):aqX P A r op=aq P A r op:=by cases op<;>rfl
def eStore (P:qp)(A:AW)(r:qA->qi)(t:qy)(x y:qA):Option (qi×AW):=
 match r x with
 |qs (qf p)=>
   match aI P A t p (r y) with
   |some A1=>qf (qE,A1)
   |none=>qk
 |_=>qk
def Vf (P:qp)(A:AW)(r:qA->qi)(t:qy)(x k v:qA):Option (qi×AW):=match fv P A t (r x) (r k) (r v) with|some A1=>qf (qE,A1)|none=>qk
def eCall (P:qp)(A:AW)(r:qA->qi)(c:Call):Option (qi×AW):=
 match c.callee,c.args.toList,c.argTypes.toList with
 |qH .append,[s,x],[t,u]=>if t=u then fD P A t u (r s) (r x) else mP P A t u (r s) (r x)
 |qH .clear,[x],[t]=>
   match CU P A t (r x) with
   |some A1=>qf (qE,A1)
   |none=>qk
 |qH .copy,[x,y],[t,_]=>Mk P A t (r x) (r y)
 |_,_,_=>qk
def aeX (P:qp)(A:AW)(r:qA->qi):Op->Option (qi×AW)
 | .alloc t=>CW P A t
 | .box _ x=>qf (Rl A (r x))
 | .buildSlice t len ps=>mO P A t len (pH r ps)
 | .store t x y=>eStore P A r t x y
 | .makeSlice t l c=>mM P A t (r l) (r c)
 | .makeMap t x=>uF P A t (x.map r)
 | .mapUpdate t x k v=>Vf P A r t x k v
 | .insert t x k v=>Vf P A r t x k v
 |qW c=>eCall P A r c
 |_=>qk
def aeX_eq (P:qp)(A:AW)(r:qA->qi)(op:Op):aeX P A r op=ae P A r op:=by cases op<;>rfl
def absT {β:Sort _}(A1:AW):List Nat->Tr dt->(Tr dt->β)->β
 |[],t,c=>c t
 |j::js,t,c=>fObj (A1.bk j) λo=>fTr (t.put 24 (j+1) o) λt=>absT A1 js t c
def T8 {β:Sort _}(m:EM)(A1:AW)(js:List Nat)(c:EM->β):β:=Ff A1.next λn=>absT A1 js m.t λt=>c ⟨n,t⟩
def HR:List Nat->Bool
 |[]=>qj
 |j::js=>match Nat.ble j 1000000 with|true=>HR js|false=>qn
def Vq {β:Sort _}{A1:AW}{c:Tr dt->β}:∀(js:List Nat)(t:Tr dt),HR js=qj->∃t',absT A1 js t c=c t'/\∀i,t'.bk (i+1)=if i∈js then A1.bk i else t.bk (i+1)
 |[],t,_=>⟨t,rfl,λi=>by simp⟩
 |j::js,t,h=>by
   unfold HR at h;split at h;rename_i hj;have hj:j<=1000000:=kat hj;obtain⟨t',h1,h2⟩:=Vq (c:=c) js (t.put 24 (j+1) (A1.bk j)) h;refine⟨t',by rw[absT,NO,NM];exact h1,λi=>?_⟩;rw[h2,Tr.Ba 24 t (j+1) _ (i+1) (kbe 1 j) (Z4 (Nat.succ_le_succ hj) Yd) (kbe 1 i)];by_cases e:i=j;subst e;simp;have:¬i+1=j+1:=Ya
   simp[e];cases h
def aag {β:Sort _}{m:EM}{A1:AW}{js:List Nat}{c:EM->β}(hs:HR js=qj)(hf:∀j,j∉js->A1.bk j=m.aw.bk j):∃m',T8 m A1 js c=c m'/\m'.aw=A1:=by obtain⟨t',h1,h2⟩:=Vq (A1:=A1) (c:=λt=>c ⟨A1.next,t⟩) js m.t hs;refine⟨⟨A1.next,t'⟩,by rw[T8,Bd];exact h1,?_⟩;obtain⟨n,g⟩:=A1;simp only[EM.aw];congr 1;funext i;rw[h2];split;rfl;rename_i hi;exact(hf i hi).symm
abbrev mt:=FuncId->List qi->EM->Option (qi×EM)
def mt.Ok (P:qp)(call:mt):Prop:=∀f args m v m',call f args m=qf (v,m')->aE P f args m.aw λu A'=>u=v/\A'=m'.aw
def QQ (call:mt)(r:qA->qi)(c:Call)(m:EM):Option (qi×EM):=
 match c.callee with
 | .value x=>
   match r x with
   | .func (.func f) fs cs=>Ja (fs.toList++c.args.toList.map r++cs.toList) λargs=>call f args m
   |_=>qk
 |_=>qk
def evGo (call:mt)(r:qA->qi)(op:Op)(m:EM):Option (qi×EM):=
 match op with
 |qW c=>QQ call r c m
 |_=>qk
def evTake (r:qA->qi)(op:Op)(m:EM)(v:qi)(A1:AW):Option (qi×EM):=
 match HR (GV m.aw r op) with
 |true=>Bv v λv=>T8 m A1 (GV m.aw r op) λm'=>qf (v,m')
 |false=>qk
def evMem (P:qp)(call:mt)(r:qA->qi)(op:Op)(m:EM):Option (qi×EM):=
 match aeX P m.aw r op with
 |some (v,A1)=>evTake r op m v A1
 |none=>evGo call r op m
def evOp (P:qp)(call:mt)(r:qA->qi)(op:Op)(m:EM):Option (qi×EM):=
 match aqX P m.aw r op with
 |some v=>Bv v λv=>qf (v,m)
 |none=>evMem P call r op m
def yf {P:qp}{call:mt}(hc:call.Ok P){r:qA->qi}{op:Op}{m m':EM}{v:qi}(h:evOp P call r op m=qf (v,m')){k:qi->AW->Prop}(hk:k v m'.aw):iJ P op r m.aw k:=by unfold evOp at h;rw[Oc]at h;unfold evMem at h;rw[aeX_eq]at h;unfold iJ;split at h;rename_i u hu;rw[hu];rw[nX]at h;simp only[Zd,Zk]at h;obtain⟨rfl,rfl⟩:=h;exact hk;rename_i hu;rw[hu];split at h;rename_i u A1 hu1;rw[hu1];unfold evTake at h;split at h;rename_i hs;rw[nX]at h;obtain⟨m1,h1,h2⟩:=aag (c:=λm'=>qf (u,m')) hs (ae_frame hu1);rw[h1]at h;simp only[Zd,Zk]at h;obtain⟨rfl,rfl⟩:=h;rw[h2]at hk;exact hk;cases h;rename_i hu1;rw[hu1];unfold evGo at h;split at h;rename_i c;unfold QQ at h;split at h;rename_i x hx;split at h;rename_i f fs cs hf;rw[D9]at h;simp only[AB,hx,hf];refine(hc _ _ _ _ _ h).mono ?_;rintro u A'⟨rfl,rfl⟩;exact hk;cases h;cases h;cases h
def Gg (P:qp)(call:mt)(bf:Array Oper):List Oper->FT->EM->Option (FT×EM)
 |[],a,m=>qf (a,m)
 |o::dE,a,m=>
   match MX o.dst with
   |false=>qk
   |true=>
     match iX bf a.fr o with
     |true=>
       match evOp P call (gZ a.fr) o.op m with
       |some (v,m')=>GH a o.dst v λa'=>Gg P call bf dE a' m'
       |none=>qk
     |false=>GH a o.dst qE λa'=>Gg P call bf dE a' m
def Ac {P:qp}{call:mt}(hc:call.Ok P){bf:Array Oper}{K:Fr->AW->Prop}:∀(l:List Oper)(a:FT)(m:EM){a':FT}{m':EM},Gg P call bf l a m=qf (a',m')->K a'.fr m'.aw->OB P bf K l a.fr m.aw
 |[],a,m,a',m',h,hk=>by simp only[Gg,Zd,Zk]at h;obtain⟨rfl,rfl⟩:=h;exact hk
 |o::dE,a,m,a',m',h,hk=>by unfold Gg at h;unfold OB;split at h;cases h;rename_i hd;split at h;rename_i hg;rw[az hg];split at h;rename_i v m1 hv;refine yf hc hv ?_;obtain⟨a1,h1,h2⟩:=rF (a:=a) (v:=v) (c:=λa'=>Gg P call bf dE a' m1) hd;rw[h1]at h;rw[<-h2];exact Ac hc dE a1 m1 h hk;cases h;rename_i hg;rw[ar (by simp[hg])];obtain⟨a1,h1,h2⟩:=rF (a:=a) (v:=qE) (c:=λa'=>Gg P call bf dE a' m) hd;rw[h1]at h;rw[<-h2];exact Ac hc dE a1 m h hk
abbrev Rd:=Op×FT×qi
def BT (P:qp)(call:mt):List yW->FT->EM->Option (FT×EM×List Rd×List EM)
 |[],a,m=>qf (a,m,[],[])
 |o::dE,a,m=>
   match MX o.dst with
   |false=>qk
   |true=>
     match sg a.fr o.guard with
     |true=>
       match Nat.ble o.pw 1 with
       |true=>
         match aqX P m.aw (gZ a.fr) o.op with
         |some v=>Bv v λv=>GH a o.dst v λa'=>
           match BT P call dE a' m with
           |some (a2,m2,rs,ms)=>qf (a2,m2,(match Zi o.pw 1 with|true=>(o.op,a,v)::rs|false=>rs),ms)
           |none=>qk
         |none=>qk
       |false=>
         match Zi o.pw 2 with
         |true=>qk
         |false=>
           match evOp P call (gZ a.fr) o.op m with
           |some (v,m')=>GH a o.dst v λa'=>
             match BT P call dE a' m' with
             |some (a2,m2,rs,ms)=>qf (a2,m2,rs,(match Zi o.pw 3 with|true=>m'::ms|false=>ms))
             |none=>qk
           |none=>qk
     |false=>GH a o.dst qE λa'=>BT P call dE a' m
def oN {P:qp}{call:mt}(hc:call.Ok P){S:AW->Prop}{K:Fr->AW->Prop}:∀(l:List yW)(a:FT)(m:EM){a':FT}{m':EM}{rs:List Rd}{ms:List EM},BT P call l a m=qf (a',m',rs,ms)->
 (∀x∈rs,∀A',S A'->aq P A' (gZ x.2.1.fr) x.1=qf x.2.2)->(∀m∈ms,S m.aw)->K a'.fr m'.aw->aW P S K l a.fr m.aw
 |[],a,m,a',m',rs,ms,h,_,_,hk=>by simp only[BT,Zd,Zk]at h;obtain⟨rfl,rfl,_⟩:=h;exact hk
 |o::dE,a,m,a',m',rs,ms,h,hr,hm,hk=>by
   unfold BT at h;unfold aW;split at h;cases h;rename_i hd;split at h;rename_i hg;rw[az hg];split at h;rename_i SX;have gb:o.pw<=1:=kat SX;rw[Oc]at h;split at h
   . rename_i v hv;rw[nX]at h;obtain⟨a1,h1,h2⟩:=rF (a:=a) (v:=v) (c:=λa'=>match BT P call dE a' m with
      |some (a2,m2,rs,ms)=>qf (a2,m2,(match Zi o.pw 1 with|true=>((o.op,a,v):Rd)::rs|false=>rs),ms)
      |none=>qk) hd
     rw[h1]at h;split at h;rename_i a2 m2 rs1 ms1 DR;simp only[Zd,Zk]at h;obtain⟨rfl,rfl,EE,rfl⟩:=h;have hmode:o.pw=0\/o.pw=1:=Ya;rcases hmode with e|e;rw[e]at EE ⊢;simp only[Zi]at EE;subst EE;simp only[Uc,hv];rw[<-h2];exact oN hc dE a1 m DR hr hm hk;rw[e]at EE ⊢;simp only[Zi]at EE;subst EE;simp only[Uc,hv];refine⟨λA' wY=>hr (o.op,a,v) Yb A' wY,?_⟩;rw[<-h2];exact oN hc dE a1 m DR (λx hx=>hr x Yu) hm hk;cases h
   cases h;rename_i SX;split at h;cases h;rename_i hm2;split at h
   . rename_i v m1 hv;obtain⟨a1,h1,h2⟩:=rF (a:=a) (v:=v) (c:=λa'=>match BT P call dE a' m1 with
      |some (a2,m2,rs,ms)=>qf (a2,m2,rs,(match Zi o.pw 3 with|true=>m1::ms|false=>ms))
      |none=>qk) hd
     rw[h1]at h;split at h
     . rename_i a2 m2 rs1 ms1 DR;simp only[Zd,Zk]at h;obtain⟨rfl,rfl,rfl,hms⟩:=h;have U4:¬o.pw<=1:=λgb=>by rw[Nat.ble_eq_true_of_le gb]at SX;cases SX
       have fL:o.pw≠2:=λe=>by rw[e]at hm2;cases hm2
       have hq:∃q,o.pw=q+3:=⟨o.pw-3,by omega⟩;obtain⟨q,hq⟩:=hq;rw[hq]at hms ⊢;cases q with
       |zero=>simp only[Zi]at hms;subst hms;refine yf hc hv ⟨hm m1 Yb,?_⟩;rw[<-h2];exact oN hc dE a1 m1 DR hr (λx hx=>hm x Yu) hk
       |succ q=>have e3:Zi (q+1+3) 3=qn:=nC Ya;rw[e3]at hms;simp only at hms;subst hms;refine yf hc hv ?_;rw[<-h2];exact oN hc dE a1 m1 DR hr hm hk
     cases h
   cases h;rename_i hg;have Ke:¬sg a.fr o.guard=qj:=(by rw[hg];simp);rw[ar Ke];obtain⟨a1,h1,h2⟩:=rF (a:=a) (v:=qE) (c:=λa'=>BT P call dE a' m) hd;rw[h1]at h;rw[<-h2];exact oN hc dE a1 m h hr hm hk
def AK:Option qM->Option qM->Bool
 |none,qk=>qj
 |some ⟨b,o,qk⟩,qf ⟨b',o',qk⟩=>match Zi b b' with|true=>Zi o o'|false=>qn
 |_,_=>qn
def Dt:∀{x y:Option qM},AK x y=qj->x=y:=by intro x y h;unfold AK at h;split at h;rfl;split at h;rename_i e;rw[ZR e,ZR h];cases h;cases h
def intEq:Int->Int->Bool
 | .ofNat a,.ofNat b=>Zi a b
 | .negSucc a,.negSucc b=>Zi a b
 |_,_=>qn
def intEq_eq {x y:Int}(h:intEq x y=qj):x=y:=by unfold intEq at h;split at h;rw[ZR h];rw[ZR h];cases h
def veq1:qi->qi->Bool
 |qt qj,qt qj=>qj
 |qt qn,qt qn=>qj
 | .int k n,.int k' n'=>match decide (k=k') with|true=>intEq n n'|false=>qn
 |qO s,qO s'=>decide (s.data=s'.data)
 |qs p,qs p'=>AK p p'
 | .slice p n m,.slice p' n' m'=>match AK p p' with|true=>(match Zi n n' with|true=>Zi m m'|false=>qn)|false=>qn
 | .map qk,.map qk=>qj
 | .map (qf r),.map (qf r')=>Zi r r'
 | .nilFunc,.nilFunc=>qj
 | .nilIface,.nilIface=>qj
 |_,_=>qn
def My {x y:qi}(h:veq1 x y=qj):x=y:=by unfold veq1 at h;split at h;rfl;rfl;split at h;rename_i e;rw[of_decide_eq_true e,intEq_eq h];cases h;rename_i s s';have:=of_decide_eq_true h;cases s;cases s';simp only at this;rw[this];rw[Dt h];split at h;rename_i e;split at h;rename_i e2;rw[Dt e,ZR e2,ZR h];cases h;cases h;rfl;rw[ZR h];rfl;rfl;cases h
def veqL:List qi->List qi->Bool
 |[],[]=>qj
 |x::l,y::l'=>match veq1 x y with|true=>veqL l l'|false=>qn
 |_,_=>qn
def Mx:∀{l l':List qi},veqL l l'=qj->l=l'
 |[],[],_=>rfl
 |[],_::_,h=>by cases h
 |_::_,[],h=>by cases h
 |x::l,y::l',h=>by unfold veqL at h;split at h;rename_i e;rw[My e,Mx h];cases h
def veq:qi->qi->Bool
 | .agg ⟨l⟩,.agg ⟨l'⟩=>veqL l l'
 |qF ⟨l⟩,qF ⟨l'⟩=>veqL l l'
 | .iface t x,.iface t' x'=>match Zi t t' with|true=>veq1 x x'|false=>qn
 |x,y=>veq1 x y
def veq_eq {x y:qi}(h:veq x y=qj):x=y:=by unfold veq at h;split at h;rw[Mx h];rw[Mx h];split at h;rename_i e;rw[ZR e,My h];cases h;exact My h
def rdOk1 (P:qp)(m:EM)(x:Rd):Bool:=match aqX P m.aw (gZ x.2.1.fr) x.1 with|some u=>veq u x.2.2|none=>qn
def rdOk (P:qp)(m:EM):List Rd->Bool
 |[]=>qj
 |x::rs=>match rdOk1 P m x with|true=>rdOk P m rs|false=>qn
def Pk (P:qp)(rs:List Rd):List EM->Bool
 |[]=>qj
 |m::ms=>match rdOk P m rs with|true=>Pk P rs ms|false=>qn
def Pm {P:qp}{m:EM}:∀{rs:List Rd},rdOk P m rs=qj->∀x∈rs,aq P m.aw (gZ x.2.1.fr) x.1=qf x.2.2
 |[],_,x,hx=>by cases hx
 |y::rs,h,x,hx=>by unfold rdOk at h;split at h;rename_i h1;rcases Zz.1 hx with e|e;subst e;unfold rdOk1 at h1;rw[Oc]at h1;split at h1;rename_i u hu;rw[hu,veq_eq h1];cases h1;exact Pm h x e;cases h
def EW {P:qp}{rs:List Rd}:∀{ms:List EM},Pk P rs ms=qj->∀m∈ms,∀x∈rs,aq P m.aw (gZ x.2.1.fr) x.1=qf x.2.2
 |[],_,m,hm=>by cases hm
 |y::ms,h,m,hm=>by unfold Pk at h;split at h;rename_i h1;rcases Zz.1 hm with e|e;subst e;exact Pm h1;exact EW h m e;cases h
def GZ {β:Sort _}:List qi->Nat->FT->(FT->β)->β
 |[],_,a,c=>c a
 |v::vs,i,a,c=>Bv v λv=>fTr (a.put 24 (i+1) (qf v)) λa=>GZ vs (i+1) a c
def H8 {β:Sort _}{c:FT->β}:∀(vs:List qi)(i:Nat)(a:FT),i+U vs<=1000000->∃a',GZ vs i a c=c a'/\∀j,a'.fr j=if i<=j then (if j<i+U vs then vs.getD (j-i) qE else a.fr j) else a.fr j
 |[],i,a,_=>⟨a,rfl,λj=>by split;rw[ar Yg];rfl⟩
 |v::vs,i,a,h=>by
   simp only[ZI]at h;obtain⟨a',h1,h2⟩:=H8 (c:=c) vs (i+1) (a.put 24 (i+1) (qf v)) Ya;refine⟨a',by rw[GZ,nX,NM];exact h1,λj=>?_⟩;rw[h2];have e:FT.fr (Tr.put 24 a (i+1) (qf v)) j=if j=i then v else a.fr j:=by simp only[FT.fr];rw[Tr.Ba 24 a (i+1) (qf v) (j+1) Ya (Z4 (show i+1<=1000001 by omega) Yd) Ya];by_cases e:j=i;subst e;simp;rw[ar Ya,ar e]
   rw[e];simp only[ZI];by_cases c1:j=i;subst c1;rw[ar (show ¬j+1<=j by omega),az rfl,az (Nat.le_refl j),az (show j<j+(U vs+1) by omega)];simp;by_cases c2:i+1<=j;rw[az c2,az (show i<=j by omega)];by_cases c3:j<i+1+U vs;rw[az c3,az (show j<i+(U vs+1) by omega)];obtain⟨q,rfl⟩:∃q,j=i+1+q:=⟨j-(i+1),by omega⟩;rw[show i+1+q-(i+1)=q by omega,show i+1+q-i=q+1 by omega];simp;rw[ar c3,ar (show ¬j<i+(U vs+1) by omega),ar c1];rw[ar c2,ar (show ¬i<=j by omega),ar c1]
def aE.N1 {P:qp}{f:FuncId}{R:qi->Prop}(h:aE P f [] AW.lS λv _=>R v)(hR:∀v,R v->fJ v=qj)(A:AW):aE P f [] A λv A'=>R v/\A'=A:=by
 refine⟨h.1,λm w iE hs hl=>?_⟩;have SZ:jE Mp.lS [] iE.toList:=by rw[hl.tt];exact .nil
 refine(h.2 Mp.lS w iE (jN.lS w hs.laid) SZ).mono ?_;rintro e w'⟨v,v',m',A',rfl,ev,hv,hr⟩;have e1:=hv.pE (hR v hr);subst e1;refine⟨v',v',m,A,rfl,Lr.evo hs ⟨λb hb=>ev.sD b hb ?_,ev.os,ev.tape,ev.output,ev.size⟩,.kZ (hR v' hr) m,hr,rfl⟩;rintro ⟨i,o,p,hi,_⟩;cases hi
end
end Go.Stx
