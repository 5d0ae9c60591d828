/-
 The functions of the package fair and of its reference that make picks: what each returns.
-/
import Derived.Test.YtpealkdhmnomhaaGreatDoorF1
import Derived.Test.YtpealkdhmnomhaaGreatDoorF2
set_option linter.unusedVariables false
set_option linter.unusedSimpArgs false
set_option linter.unusedSectionVars false
set_option maxRecDepth 20000
set_option maxHeartbeats 4000000
namespace Go.Stx
open Go Go.Proofs
attribute [local irreducible] cM aV aB aL cU dh
section
def vE:List (Nat×Nat):=[(0,0),(1,0),(2,0),(3,0),(4,0),(5,0),(6,0),(7,0),(8,0)]
def nf:List (Nat×Nat):=[(0,0),(1,0),(2,0),(3,0),(4,0),(5,0),(6,0),(7,0)]
variable [Gl]
def jo (t w:Int):Int:=if t<1\/16<t then 54 else if w<t\/1000<w then 2 else 0
theorem iG (t w:Int) (A:AW):aB Tryz.prog 65 [.int .i64 t,.int .i64 w] A (λv A'=>v=.int .i64 (jo t w)/\A=A'):=by
 refine aK Tryz.func65 λhw=>?_
 repeat' (first|(refine iT λR hR=>?_;simp [];try simp (disch:=omega) only [ay,aw])|(refine hR _ _ ?_;clear hR R)|(refine hK _ _ ?_;clear hK K)|refine nx ?_|refine wn λK hK=>?_|simp only [wS]|(show cM _ _ _ _ _ _;refine nx ?_)|(refine wc rfl (λhc=>?_) (λhc=>?_)<;>(try simp at hc))|(refine ib (λhc=>?_) (λhc=>?_)))
 all_goals(simp [jo]<;>(try simp_all)<;>(try omega))
theorem LB (va vb:Value) (a b:List Int) (A:AW) (ha:bK A .i64 va a) (hb:bK A .i64 vb b) (hla:a.length<2^62) :
 aB Tryz.prog 38 [va,vb] A (λv A'=>v=.bool (decide (a=b))/\A=A'):=by
 refine aK Tryz.func38 λhw=>?_;obtain⟨oa,ca,rfl,_⟩:=ha.bR;obtain⟨ob,cb,rfl,_⟩:=hb.bR
 repeat' (first|(refine iT λR hR=>?_;simp [];try simp (disch:=omega) only [ay,aw,af,an])|(refine hR _ _ ?_;clear hR R)|(refine hK _ _ ?_;clear hK K)|refine nx ?_|refine wn λK hK=>?_|simp only [wS]|(show cM _ _ _ _ _ _;refine nx ?_)|(refine wc rfl (λhc=>?_) (λhc=>?_)<;>(try simp at hc)))
 simp;intro e;subst e;simp at hc;have bW:a.length=b.length:=by omega
 refine df (λk fr A'=>A=A'/\∃i:Nat,k=a.length-i/\i<=a.length/\fr 0=.slice oa a.length ca/\fr 1=.slice ob b.length cb/\fr 5=.int .i64 i/\∀j,j<i->a[j]? = b[j]?) a.length ?_ ?_;refine⟨rfl,0,by simp,by simp,rfl,rfl,rfl,by simp⟩;rintro k fr A' ⟨rfl,i,rfl,hi,h0,h1,h5,hj⟩;by_cases bY:i<a.length
 . obtain⟨p,bS,rfl,bO,hcell⟩:=ha.at bY;obtain⟨q,U9,rfl,V6,Qd⟩:=hb.at (i:=i) (by omega);have GS:i<b.length:=(by omega);have gC:=zd (i:=i);refine aT ?_
   repeat' (first|(refine iT λR hR=>?_;simp [h0,h1,h5,bO,V6,hcell,Qd,bY,GS,gC];try simp (disch:=omega) only [ay,aw,af,an])|(refine hR _ _ ?_;clear hR R)|(refine hK _ _ ?_;clear hK K)|refine nx ?_|refine wn λK hK=>?_|simp only [wS,vE]|refine wl Tryz.mx vE (by decide +kernel) λK hK=>?_|(show cM _ _ _ _ _ _;refine nx ?_)|(refine wc rfl (λhc=>?_) (λhc=>?_)<;>(try simp at hc)))
   simp;intro e;subst e;simp at hc;refine⟨a.length-(i+1),by omega,rfl,i+1,rfl,by omega,?_,?_,?_,?_⟩;simp [h0];simp [h1];simp;intro j kh;by_cases e:j=i;subst e;rw [List.getElem?_eq_getElem bY,List.getElem?_eq_getElem GS,hc];exact hj j (by omega)
 refine aT ?_
 repeat' (first|(refine iT λR hR=>?_;simp [h0,h5,bY];try simp (disch:=omega) only [ay,aw,af,an])|(refine hR _ _ ?_;clear hR R)|(refine hK _ _ ?_;clear hK K)|refine nx ?_|refine wn λK hK=>?_|simp only [wS]|(show cM _ _ _ _ _ _;refine nx ?_)|(refine wc rfl (λhc=>?_) (λhc=>?_)<;>(try simp at hc)))
 have e:a=b:=by
  apply List.ext_getElem?;intro j;by_cases kh:j<i;exact hj j kh;rw [List.getElem?_eq_none (by omega),List.getElem?_eq_none (by omega)]
 simp [e]
def yk (t w:Int) (ga:List Int) (k:Int):Int:=
 if jo t w≠0\/k<0 then -1
 else if w-t<=k % w then k % w-(w-t)
 else if ga.length=0 then 0
 else
  let x:=(ga.getD ((k / w*(w-t)+k % w) % ga.length).toNat 0).tmod t
  if x<0 then x+t else x
theorem Gf {t w:Int} (h:jo t w=0):1<=t/\t<=16/\t<=w/\w<=1000:=by
 unfold jo at h;split at h;omega;split at h<;>omega
theorem SS {w op k:Int} (hw:1<=w) (h0:0<=op) (h1:op<=w) (hk:0<=k):0<=k / w*op/\k / w*op+k % w<=k:=by
 have h2:0<=k / w:=Int.ediv_nonneg hk (by omega);have h3:k / w*op<=k / w*w:=Int.mul_le_mul_of_nonneg_left h1 h2;have h4:=Int.ediv_mul_add_emod k w;exact⟨Int.mul_nonneg h2 h0,by omega⟩
theorem Hc (t w k:Int) (vf:Value) (ga:List Int) (A:AW) (hf:bK A .i64 vf ga) (hl:ga.length<2^62) (hk:k<=9223372036854775807) :
 aB Tryz.prog 40 [.int .i64 t,.int .i64 w,vf,.int .i64 k] A (λv A'=>v=.int .i64 (yk t w ga k)/\A=A'):=by
 refine aK Tryz.func40 λhw=>?_;obtain⟨of,cf,rfl,_⟩:=hf.bR;by_cases hp:jo t w≠0\/k<0
 . by_cases zV:jo t w=0
   . have NU:k<0:=by omega
     repeat' (first|(refine iT λR hR=>?_;simp [zV,NU];try simp (disch:=omega) only [ay,aw,af,an])|(refine hR _ _ ?_;clear hR R)|(refine hK _ _ ?_;clear hK K)|refine nx ?_|refine wn λK hK=>?_|simp only [wS]|(refine bD (iG _ _ _) ?_;rintro _ _ ⟨rfl,rfl⟩ _ _)|(show cM _ _ _ _ _ _;refine nx ?_)|(refine wc rfl (λhc=>?_) (λhc=>?_)<;>(try simp at hc)))
     all_goals simp [yk,hp]
   . repeat' (first|(refine iT λR hR=>?_;simp [zV];try simp (disch:=omega) only [ay,aw,af,an])|(refine hR _ _ ?_;clear hR R)|(refine hK _ _ ?_;clear hK K)|refine nx ?_|refine wn λK hK=>?_|simp only [wS]|(refine bD (iG _ _ _) ?_;rintro _ _ ⟨rfl,rfl⟩ _ _)|(show cM _ _ _ _ _ _;refine nx ?_)|(refine wc rfl (λhc=>?_) (λhc=>?_)<;>(try simp at hc)))
     all_goals simp [yk,hp]
 have zV:jo t w=0:=by omega
 have NU:0<=k:=by omega
 obtain⟨b1,b2,b3,b4⟩:=Gf zV;have gZ:w≠0:=by omega
 have hq:k.tdiv w=k / w:=Int.tdiv_eq_ediv_of_nonneg NU;have hr:k.tmod w=k % w:=Int.tmod_eq_emod_of_nonneg NU;have Fh:0<=k / w:=Int.ediv_nonneg NU (by omega);have hq1:k / w<=k:=Int.ediv_le_self _ NU;have hr0:0<=k % w:=Int.emod_nonneg _ gZ;have Ln:k % w<w:=Int.emod_lt_of_pos _ (by omega);have iZ:IntKind.i64.wrap (w-t)=w-t:=af (by omega) (by omega);have jE:IntKind.i64.wrap (k / w)=k / w:=af (by omega) (by omega);by_cases nV:w-t<=k % w
 . have wV:IntKind.i64.wrap (k % w-(w-t))=k % w-(w-t):=af (by omega) (by omega);have hnk:¬k<0:=by omega
   repeat' (first|(refine iT λR hR=>?_;simp [zV,gZ,hq,hr,iZ,jE,wV,nV,hnk];try simp (disch:=omega) only [ay,aw,af,an])|(refine hR _ _ ?_;clear hR R)|(refine hK _ _ ?_;clear hK K)|refine nx ?_|refine wn λK hK=>?_|simp only [wS,nf]|refine wl Tryz.mx nf (by decide +kernel) λK hK=>?_|(refine bD (iG _ _ _) ?_;rintro _ _ ⟨rfl,rfl⟩ _ _)|(show cM _ _ _ _ _ _;refine nx ?_)|(refine wc rfl (λhc=>?_) (λhc=>?_)<;>(try simp at hc)))
   all_goals simp [yk,zV,nV,hnk]
 have hnk:¬k<0:=by omega
 by_cases Qa:ga.length=0
 . have hfl':ga=[]:=List.eq_nil_of_length_eq_zero Qa
   repeat' (first|(refine iT λR hR=>?_;simp [zV,gZ,hq,hr,iZ,jE,nV,hnk,Qa];try simp (disch:=omega) only [ay,aw,af,an])|(refine hR _ _ ?_;clear hR R)|(refine hK _ _ ?_;clear hK K)|refine nx ?_|refine wn λK hK=>?_|simp only [wS,nf]|refine wl Tryz.mx nf (by decide +kernel) λK hK=>?_|(refine bD (iG _ _ _) ?_;rintro _ _ ⟨rfl,rfl⟩ _ _)|(show cM _ _ _ _ _ _;refine nx ?_)|(refine wc rfl (λhc=>?_) (λhc=>?_)<;>(try simp at hc)))
   all_goals simp [yk,zV,nV,hnk,hfl']
 obtain⟨c1,c2⟩:=SS (w:=w) (op:=w-t) (k:=k) (by omega) (by omega) (by omega) NU;have nz:IntKind.i64.wrap (k / w*(w-t))=k / w*(w-t):=af (by omega) (by omega);have BF:IntKind.i64.wrap (k / w*(w-t)+k % w)=k / w*(w-t)+k % w:=af (by omega) (by omega);have hr2:(k / w*(w-t)+k % w).tmod ga.length=(k / w*(w-t)+k % w) % ga.length:=Int.tmod_eq_emod_of_nonneg (by omega);have hfne:(ga.length:Int)≠0:=by omega
 have hr3:0<=(k / w*(w-t)+k % w) % ga.length:=Int.emod_nonneg _ hfne;have hr4:(k / w*(w-t)+k % w) % ga.length<ga.length:=Int.emod_lt_of_pos _ (by omega);generalize hi:(k / w*(w-t)+k % w) % ga.length=i at *;have wZ:i.toNat<ga.length:=by omega
 obtain⟨p,bS,rfl,bO,hcell⟩:=hf.at wZ;have htne:t≠0:=by omega
 have hx1:=Int.lt_tmod_of_pos ga[i.toNat] (show 0<t by omega);have hx2:=Int.tmod_lt_of_pos ga[i.toNat] (show 0<t by omega);have VY:ga[i.toNat].tmod t<0->IntKind.i64.wrap (ga[i.toNat].tmod t+t)=ga[i.toNat].tmod t+t:=λ_=>af (by omega) (by omega);have hfin:yk t w ga k=if ga[i.toNat].tmod t<0 then ga[i.toNat].tmod t+t else ga[i.toNat].tmod t:=by
  have e:ga.getD i.toNat 0=ga[i.toNat]:=by rw [List.getD_eq_getElem?_getD,List.getElem?_eq_getElem wZ];rfl
  unfold yk;rw [aw hp,aw nV,aw Qa,hi,e]
 have HF:=hfin;clear hfin
 repeat' (first|(refine iT λR hR=>?_;simp [zV,gZ,hq,hr,iZ,jE,nz,BF,nV,hnk,Qa,hr2,hr3,hr4,bO,hcell,htne];try simp (disch:=omega) only [af])|(refine hR _ _ ?_;clear hR R)|(refine hK _ _ ?_;clear hK K)|refine nx ?_|refine wn λK hK=>?_|simp only [wS,nf]|refine wl Tryz.mx nf (by decide +kernel) λK hK=>?_|(refine bD (iG _ _ _) ?_;rintro _ _ ⟨rfl,rfl⟩ _ _)|(show cM _ _ _ _ _ _;refine nx ?_)|(refine wc rfl (λhc=>?_) (λhc=>?_)<;>(try simp at hc)))
 simp [HF,hc];simp [HF,Int.not_lt.2 hc]
end
section
variable [Gl]
def Aq (t w len:Int):Int:=if jo t w≠0 then jo t w else if len<0\/65536<len then 3 else 0
def Eg (t w:Int) (ga:List Int) (n:Nat):List Int:=(List.range n).map fun(k:Nat)=>yk t w ga k
theorem PF (t w:Int) (ga:List Int) (n:Nat):Eg t w ga (n+1)=Eg t w ga n++[yk t w ga n]:=by
 simp [Eg,List.range_succ]
theorem Lh (t w:Int) (ga:List Int) (n:Nat):(Eg t w ga n).length=n:=by simp [Eg]
theorem S6 (t w len:Int) (vf:Value) (ga:List Int) (A:AW) (hf:bK A .i64 vf ga) (hl:ga.length<2^62) :
 aB Tryz.prog 37 [.int .i64 t,.int .i64 w,vf,.int .i64 len] A (λv A'=>∃sv,v=.tuple #[sv,.int .i64 (Aq t w len)]/\
  bK A' .i64 sv (if Aq t w len=0 then Eg t w ga len.toNat else [])/\A.le A'):=by
 refine aK Tryz.func37 λhw=>?_;obtain⟨of,cf,rfl,_⟩:=hf.bR;by_cases hp:jo t w=0
 case neg=>
  have he:Aq t w len=jo t w:=ay hp
  repeat' (first|(refine iT λR hR=>?_;simp [hp];try simp (disch:=omega) only [ay,aw,af,an])|(refine hR _ _ ?_;clear hR R)|(refine hK _ _ ?_;clear hK K)|refine nx ?_|refine wn λK hK=>?_|simp only [wS]|(refine bD (iG _ _ _) ?_;rintro _ _ ⟨rfl,rfl⟩ _ _)|(show cM _ _ _ _ _ _;refine nx ?_)|(refine wc rfl (λhc=>?_) (λhc=>?_)<;>(try simp at hc)))
  simp [he,hp,bK.nil,AW.le.refl]
 by_cases h0:len<0
 . have he:Aq t w len=3:=by rw [Aq,aw (by simpa using hp),ay (.inl h0)]
   repeat' (first|(refine iT λR hR=>?_;simp [hp,h0];try simp (disch:=omega) only [ay,aw,af,an])|(refine hR _ _ ?_;clear hR R)|(refine hK _ _ ?_;clear hK K)|refine nx ?_|refine wn λK hK=>?_|simp only [wS]|(refine bD (iG _ _ _) ?_;rintro _ _ ⟨rfl,rfl⟩ _ _)|(show cM _ _ _ _ _ _;refine nx ?_)|(refine wc rfl (λhc=>?_) (λhc=>?_)<;>(try simp at hc)))
   simp [he,bK.nil,AW.le.refl]
 by_cases h1:65536<len
 . have he:Aq t w len=3:=by rw [Aq,aw (by simpa using hp),ay (.inr h1)]
   repeat' (first|(refine iT λR hR=>?_;simp [hp,h0,h1];try simp (disch:=omega) only [ay,aw,af,an])|(refine hR _ _ ?_;clear hR R)|(refine hK _ _ ?_;clear hK K)|refine nx ?_|refine wn λK hK=>?_|simp only [wS]|(refine bD (iG _ _ _) ?_;rintro _ _ ⟨rfl,rfl⟩ _ _)|(show cM _ _ _ _ _ _;refine nx ?_)|(refine wc rfl (λhc=>?_) (λhc=>?_)<;>(try simp at hc)))
   simp [he,bK.nil,AW.le.refl]
 have he:Aq t w len=0:=by rw [Aq,aw (by simpa using hp),aw (by omega)]
 obtain⟨n,rfl⟩:=Int.eq_ofNat_of_zero_le (show 0<=len by omega);rw [Int.toNat_natCast]
 repeat' (first|(refine iT λR hR=>?_;simp [hp,h0,h1];try simp (disch:=omega) only [ay,aw,af,an])|(refine hR _ _ ?_;clear hR R)|(refine hK _ _ ?_;clear hK K)|refine nx ?_|refine wn λK hK=>?_|simp only [wS]|(refine bD (iG _ _ _) ?_;rintro _ _ ⟨rfl,rfl⟩ _ _)|(show cM _ _ _ _ _ _;refine nx ?_)|(refine wc rfl (λhc=>?_) (λhc=>?_)<;>(try simp at hc)))
 refine df (λk fr A'=>∃(j:Nat) (sv:Value),k=n-j/\j<=n/\fr 0=.int .i64 t/\fr 1=.int .i64 w/\fr 2=.slice of ga.length cf/\fr 11=sv/\fr 25=.int .i64 n/\fr 26=.int .i64 j/\
  eE A.next A' .i64 sv (Eg t w ga j)/\A.le A'/\A'.Wf) n ?_ ?_
 exact⟨0,_,by simp,by simp,rfl,rfl,rfl,rfl,rfl,rfl,eE.nil _ _ _,AW.le.refl A,hw⟩;rintro k fr A' ⟨j,sv,rfl,hj,g0,g1,g2,kZ,g25,g26,iz,fA,jN⟩;have EX:=hf.le fA hw;by_cases bY:j<n
 . have hwj:IntKind.i64.wrap ((j:Int)+1)=((j+1:Nat):Int):=af (by omega) (by omega);obtain⟨v',A2,e1,hown2,Lt,jE,yt⟩:=QS (P:=Tryz.prog) (t:=24) (yk t w ga j) Tryz.underlying24 Tryz.info3 Tryz.zero3 rfl rfl iz (by rw [Lh];omega) (by simp) fA.next jN;rw [<-PF] at hown2
   repeat' (first|(refine iT λR hR=>?_;simp [g0,g1,g2,kZ,g25,g26,bY,hwj,e1];try simp (disch:=omega) only [ay,aw,af,an])|(refine hR _ _ ?_;clear hR R)|(refine hK _ _ ?_;clear hK K)|refine nx ?_|refine wn λK hK=>?_|simp only [wS]|(refine bD (Hc _ _ _ _ _ _ EX hl (by omega)) ?_;rintro _ _ ⟨rfl,rfl⟩ _ _)|(show cM _ _ _ _ _ _;refine nx ?_)|(refine wc rfl (λhc=>?_) (λhc=>?_)<;>(try simp at hc)))
   refine⟨n-(j+1),by omega,j+1,v',rfl,by omega,?_,?_,?_,?_,?_,?_,hown2,Lt A (Nat.le_refl _) fA,jE⟩<;>simp [g0,g1,g2,g25]
 have hjn:j=n:=by omega
 subst hjn
 repeat' (first|(refine iT λR hR=>?_;simp [kZ,g25,g26];try simp (disch:=omega) only [ay,aw,af,an])|(refine hR _ _ ?_;clear hR R)|(refine hK _ _ ?_;clear hK K)|refine nx ?_|refine wn λK hK=>?_|simp only [wS]|(show cM _ _ _ _ _ _;refine nx ?_)|(refine wc rfl (λhc=>?_) (λhc=>?_)<;>(try simp at hc)))
 simp only [aX,bA,aQ,aR,Tryz.results37,Sm];refine⟨_,rfl,sv,?_,?_,fA⟩;simp [he];rw [ay he];exact iz.is
end
section
variable [Gl]
def tp (n w:Int) (ym:List Int) (k:Nat) (t:Int):Option (List Int):=
 if t<0\/n<=t then none
 else if w<=(k:Int)+1/\(ym.set t.toNat ((k:Int)+1)).any (λx=>decide (x<=(k:Int)+1-w)) then none
 else some (ym.set t.toNat ((k:Int)+1))
def w8 (n w:Int):Nat->List Int->List Int->Bool
 | _,_,[]=>true
 | k,ym,t::r=>
   match tp n w ym k t with
   | none=>false
   | some l=>w8 n w (k+1) l r
def vN (n w:Int) (j4:List Int):Bool:=
 if n<1\/16<n\/w<n then false else w8 n w 0 (List.replicate n.toNat 0) j4
theorem IZ (n:Nat):fB [Value.int .i64 0] n=(List.replicate n (0:Int)).map (Value.int .i64):=by
 induction n with
 | zero=>rfl
 | succ n ih=>simp [fB,ih,List.replicate_succ]
theorem JV (n w:Int) (vp:Value) (j4:List Int) (A:AW) (hp:bK A .i64 vp j4) (hl:j4.length<2^40) (Mo:w<2^40) :
 aB Tryz.prog 39 [.int .i64 n,.int .i64 w,vp] A (λv A'=>v=.bool (vN n w j4)/\A.le A'):=by
 refine aK Tryz.func39 λhw=>?_;obtain⟨op,cp,rfl,_⟩:=hp.bR;by_cases h1:n<1
 . have hF:vN n w j4=false:=ay (.inl h1)
   repeat' (first|(refine iT λR hR=>?_;simp [h1];try simp (disch:=omega) only [ay,aw,af,an])|(refine hR _ _ ?_;clear hR R)|(refine hK _ _ ?_;clear hK K)|refine nx ?_|refine wn λK hK=>?_|simp only [wS]|(show cM _ _ _ _ _ _;refine nx ?_)|(refine wc rfl (λhc=>?_) (λhc=>?_)<;>(try simp at hc)))
   simp [hF,AW.le.refl]
 by_cases h2:16<n
 . have hF:vN n w j4=false:=ay (.inr (.inl h2))
   repeat' (first|(refine iT λR hR=>?_;simp [h1,h2];try simp (disch:=omega) only [ay,aw,af,an])|(refine hR _ _ ?_;clear hR R)|(refine hK _ _ ?_;clear hK K)|refine nx ?_|refine wn λK hK=>?_|simp only [wS]|(show cM _ _ _ _ _ _;refine nx ?_)|(refine wc rfl (λhc=>?_) (λhc=>?_)<;>(try simp at hc)))
   simp [hF,AW.le.refl]
 by_cases h3:w<n
 . have hF:vN n w j4=false:=ay (.inr (.inr h3))
   repeat' (first|(refine iT λR hR=>?_;simp [h1,h2,h3];try simp (disch:=omega) only [ay,aw,af,an])|(refine hR _ _ ?_;clear hR R)|(refine hK _ _ ?_;clear hK K)|refine nx ?_|refine wn λK hK=>?_|simp only [wS]|(show cM _ _ _ _ _ _;refine nx ?_)|(refine wc rfl (λhc=>?_) (λhc=>?_)<;>(try simp at hc)))
   simp [hF,AW.le.refl]
 have hF:vN n w j4=w8 n w 0 (List.replicate n.toNat 0) j4:=aw (by omega);obtain⟨N,rfl⟩:=Int.eq_ofNat_of_zero_le (show 0<=n by omega);rw [Int.toNat_natCast] at hF;have hN:N<=16:=by omega
 have H3:(N:Int)<=140737488355328:=by omega
 have lF:(N:Int)*8<=140737488355328:=by omega
 repeat' (first|(refine iT λR hR=>?_;simp [h1,h2,h3,H3,lF,IZ];try simp (disch:=omega) only [ay,aw,af,an])|(refine hR _ _ ?_;clear hR R)|(refine hK _ _ ?_;clear hK K)|refine nx ?_|refine wn λK hK=>?_|simp only [wS]|(show cM _ _ _ _ _ _;refine nx ?_)|(refine wc rfl (λhc=>?_) (λhc=>?_)<;>(try simp at hc)))
 refine df (λk fr A'=>∃(j:Nat) (ym:List Int),k=j4.length-j/\j<=j4.length/\fr 0=.int .i64 N/\fr 1=.int .i64 w/\fr 7=.slice (some ⟨A.next,0,none⟩) N N/\
  fr 25=.slice op j4.length cp/\fr 26=.int .i64 j4.length/\fr 27=.int .i64 j/\
  ym.length=N/\w8 N w j ym (j4.drop j)=vN N w j4/\A'.bk A.next=some (.cells (ym.map (Value.int .i64)) true 1)/\A.le A'/\A'.Wf) j4.length ?_ ?_
 refine⟨0,List.replicate N 0,by simp,by simp,rfl,rfl,?_,?_,?_,?_,by simp,by rw [hF];rfl,?_,AW.le.alloc A _,hw.alloc _⟩<;>simp;rintro k fr A' ⟨j,ym,rfl,hj,g0,g1,g7,g25,g26,g27,NT,yu,jW,fA,jN⟩;have Wa:=hp.le fA hw;by_cases bY:j<j4.length
 case neg=>
  have hjn:j=j4.length:=by omega
  have hT:vN N w j4=true:=by rw [<-yu,hjn,List.drop_length];rfl
  repeat' (first|(refine iT λR hR=>?_;simp [g26,g27,bY];try simp (disch:=omega) only [ay,aw,af,an])|(refine hR _ _ ?_;clear hR R)|(refine hK _ _ ?_;clear hK K)|refine nx ?_|refine wn λK hK=>?_|simp only [wS]|(show cM _ _ _ _ _ _;refine nx ?_)|(refine wc rfl (λhc=>?_) (λhc=>?_)<;>(try simp at hc)))
  simp [hT,fA]
 have hwj:IntKind.i64.wrap ((j:Int)+1)=(j:Int)+1:=af (by omega) (by omega);obtain⟨p,bS,rfl,bO,hcell⟩:=Wa.at bY;rw [List.drop_eq_getElem_cons bY] at yu;generalize ht:j4[j]=t at *;by_cases ht0:t<0
 . have hT:vN N w j4=false:=by rw [<-yu];simp [w8,tp,ht0]
   repeat' (first|(refine iT λR hR=>?_;simp [g25,g26,g27,bY,bO,hcell,ht0];try simp (disch:=omega) only [ay,aw,af,an])|(refine hR _ _ ?_;clear hR R)|(refine hK _ _ ?_;clear hK K)|refine nx ?_|refine wn λK hK=>?_|simp only [wS]|(show cM _ _ _ _ _ _;refine nx ?_)|(refine wc rfl (λhc=>?_) (λhc=>?_)<;>(try simp at hc)))
   simp [hT,fA]
 by_cases ht1:(N:Int)<=t
 . have hT:vN N w j4=false:=by rw [<-yu];simp [w8,tp,ht1]
   repeat' (first|(refine iT λR hR=>?_;simp [g0,g25,g26,g27,bY,bO,hcell,ht0,ht1];try simp (disch:=omega) only [ay,aw,af,an])|(refine hR _ _ ?_;clear hR R)|(refine hK _ _ ?_;clear hK K)|refine nx ?_|refine wn λK hK=>?_|simp only [wS]|(show cM _ _ _ _ _ _;refine nx ?_)|(refine wc rfl (λhc=>?_) (λhc=>?_)<;>(try simp at hc)))
   simp [hT,fA]
 obtain⟨T,rfl⟩:=Int.eq_ofNat_of_zero_le (show 0<=t by omega);have hTN:T<ym.length:=by omega
 have dw:=QL (P:=Tryz.prog) (t:=3) (b:=A.next) (off:=T) ((j:Int)+1) Tryz.info3 rfl jW hTN;generalize HZ:ym.set T ((j:Int)+1)=last2 at dw;have NS:last2.length=N:=by rw [<-HZ,List.length_set,NT]
 have hlt0:A.next<A'.next:=jN.lt jW;generalize hA2:A'.set A.next (some (.cells (last2.map (Value.int .i64)) true 1))=A2 at dw;have hget2:A2.bk A.next=some (.cells (last2.map (Value.int .i64)) true 1):=by rw [<-hA2];exact AW.bV
 have Lt:A.le A2:=by rw [<-hA2];exact fA.set (Nat.le_refl _) _
 have jE:A2.Wf:=by rw [<-hA2];exact jN.set _ hlt0
 have uo:A2.bS A.next=some (last2.map (Value.int .i64)):=AW.yc hget2;have um:tp N w ym j T=if w<=(j:Int)+1/\last2.any (λx=>decide (x<=(j:Int)+1-w)) then none else some last2:=by
  unfold tp;rw [aw (by omega),Int.toNat_natCast,HZ]
 clear hA2 HZ
 repeat' (first|(refine iT λR hR=>?_;simp [g0,g7,g25,g26,g27,bY,bO,hcell,ht0,ht1,hwj,dw,Int.toNat_natCast];try simp (disch:=omega) only [ay])|(refine hR _ _ ?_;clear hR R)|(refine hK _ _ ?_;clear hK K)|refine nx ?_|refine wn λK hK=>?_|simp only [wS]|(show cM _ _ _ _ _ _;refine nx ?_)|(refine wc rfl (λhc=>?_) (λhc=>?_)<;>(try simp at hc)))
 refine df (λk tj A3=>∃i:Nat,A2=A3/\k=N-i/\i<=N/\tj 0=.int .i64 N/\tj 1=.int .i64 w/\tj 7=.slice (some ⟨A.next,0,none⟩) N N/\
  tj 25=.slice (some p) j4.length cp/\tj 26=.int .i64 j4.length/\tj 27=.int .i64 j/\tj 8=.int .i64 j/\tj 44=.slice (some ⟨A.next,0,none⟩) N N/\tj 45=.int .i64 N/\tj 46=.int .i64 i/\
  ∀i' (h:i'<i) (h':i'<last2.length),¬(w<=(j:Int)+1/\last2[i']<=(j:Int)+1-w)) N ?_ ?_
 refine⟨0,rfl,by simp,by simp,?_,?_,?_,?_,?_,?_,?_,?_,?_,?_,by simp⟩<;>simp [g0,g1,g7,g25,g26,g27];rintro k tj A3 ⟨i,rfl,rfl,hi,f0,f1,f7,f25,f26,f27,f8,R0,RZ,f46,zW⟩;by_cases hiN:i<N
 case neg=>
  have hsome:tp N w ym j T=some last2:=by
   rw [um,aw];rintro ⟨JP,yx⟩;rw [List.any_eq_true] at yx;obtain⟨x,hx,hxd⟩:=yx;obtain⟨i',BI,rfl⟩:=List.getElem_of_mem hx;exact zW i' (by omega) BI ⟨JP,by simpa using hxd⟩
  have uK:w8 N w (j+1) last2 (j4.drop (j+1))=vN N w j4:=by rw [<-yu,w8,hsome]
  repeat' (first|(refine iT λR hR=>?_;simp [f27,RZ,f46,hiN,hwj];try simp (disch:=omega) only [ay,aw,af,an])|(refine hR _ _ ?_;clear hR R)|(refine hK _ _ ?_;clear hK K)|refine nx ?_|refine wn λK hK=>?_|simp only [wS]|(show cM _ _ _ _ _ _;refine nx ?_)|(refine wc rfl (λhc=>?_) (λhc=>?_)<;>(try simp at hc)))
  refine⟨j4.length-(j+1),by omega,j+1,last2,rfl,by omega,?_,?_,?_,?_,?_,?_,NS,uK,hget2,Lt,jE⟩<;>simp [f0,f1,f7,f25,f26]
 have gC:=zd (i:=i);have hwq:IntKind.i64.wrap ((j:Int)+1-w)=(j:Int)+1-w:=af (by omega) (by omega);have tD:i<last2.length:=by omega
 have DF:(last2.map (Value.int .i64))[i]? = some (.int .i64 last2[i]):=by rw [List.getElem?_map,List.getElem?_eq_getElem tD];rfl
 have Qc:last2[i]? = some last2[i]:=List.getElem?_eq_getElem tD;by_cases hbad:w<=(j:Int)+1/\last2[i]<=(j:Int)+1-w
 . have NP:tp N w ym j T=none:=by
    rw [um,ay];refine⟨hbad.1,?_⟩;rw [List.any_eq_true];exact⟨last2[i],List.getElem_mem tD,by simpa using hbad.2⟩
   have hT:vN N w j4=false:=(by rw [<-yu,w8,NP]);obtain⟨hbad1,hbad2⟩:=hbad
   repeat' (first|(refine iT λR hR=>?_;simp [f1,f8,R0,RZ,f46,hiN,hwj,hwq,uo,DF,hbad1,hbad2];try simp (disch:=omega) only [ay,aw,af,an])|(refine hR _ _ ?_;clear hR R)|(refine hK _ _ ?_;clear hK K)|refine nx ?_|refine wn λK hK=>?_|simp only [wS]|(show cM _ _ _ _ _ _;refine nx ?_)|(refine wc rfl (λhc=>?_) (λhc=>?_)<;>(try simp at hc)))
   simp [hT,Lt]
 have hnext:∀i' (h:i'<i+1) (h':i'<last2.length),¬(w<=(j:Int)+1/\last2[i']<=(j:Int)+1-w):=by
  intro i' h h';by_cases e:i'=i;subst e;exact hbad;exact zW i' (by omega) h'
 by_cases Ly:w<=(j:Int)+1
 . have hb1':¬last2[i]<=(j:Int)+1-w:=λe=>hbad ⟨Ly,e⟩
   repeat' (first|(refine iT λR hR=>?_;simp [f1,f8,R0,RZ,f46,hiN,hwj,gC,hwq,uo,DF,Ly,hb1'];try simp (disch:=omega) only [ay,aw,af,an])|(refine hR _ _ ?_;clear hR R)|(refine hK _ _ ?_;clear hK K)|refine nx ?_|refine wn λK hK=>?_|simp only [wS]|(show cM _ _ _ _ _ _;refine nx ?_)|(refine wc rfl (λhc=>?_) (λhc=>?_)<;>(try simp at hc)))
   refine⟨N-(i+1),by omega,i+1,rfl,rfl,by omega,?_,?_,?_,?_,?_,?_,?_,?_,?_,?_,hnext⟩<;>simp [f0,f1,f7,f25,f26,f27,f8,R0,RZ]
 . repeat' (first|(refine iT λR hR=>?_;simp [f1,f8,R0,RZ,f46,hiN,hwj,gC,uo,DF,Ly];try simp (disch:=omega) only [ay,aw,af,an])|(refine hR _ _ ?_;clear hR R)|(refine hK _ _ ?_;clear hK K)|refine nx ?_|refine wn λK hK=>?_|simp only [wS]|(show cM _ _ _ _ _ _;refine nx ?_)|(refine wc rfl (λhc=>?_) (λhc=>?_)<;>(try simp at hc)))
   refine⟨N-(i+1),by omega,i+1,rfl,rfl,by omega,?_,?_,?_,?_,?_,?_,?_,?_,?_,?_,hnext⟩<;>simp [f0,f1,f7,f25,f26,f27,f8,R0,RZ]
end
section
variable [Gl]
theorem Bw:Aq 2 3 6=0/\Eg 2 3 [1] 6=[1,0,1,1,0,1]:=by decide
theorem HA:vN 2 3 [1,0,1,1,0,1]=true/\vN 2 2 [0,0]=false:=by decide
theorem QI:yk 2 3 [1] 0=1:=by decide
theorem QJ (A:AW):aB Tryz.prog 17 [] A (λv A'=>v=.bool true/\A.le A'):=by
 refine aK Tryz.func17 λhw=>?_
 repeat' (first|(refine iT λR hR=>?_;simp [];try simp (disch:=omega) only [ay,aw,af,an])|(refine hR _ _ ?_;clear hR R)|(refine hK _ _ ?_;clear hK K)|refine nx ?_|refine wn λK hK=>?_|simp only [wS]|(show cM _ _ _ _ _ _;refine nx ?_))
 have g0:=AW.bN A (.cells [.int .i64 1] true 1);have l0:=AW.le.alloc A (.cells [.int .i64 1] true 1);have w0:=hw.alloc (.cells [.int .i64 1] true 1);refine bD (S6 2 3 6 _ [1] _ (bK.KZ g0 rfl (by decide) rfl) (by decide)) ?_;rintro _ A1 ⟨sv,rfl,h1,l1⟩ w1 n1;rw [ay Bw.1,show (6:Int).toNat=6 from rfl,Bw.2] at h1;rw [Bw.1];have l1':=l0.trans l1;clear g0 l0 w0 l1
 repeat' (first|(refine iT λR hR=>?_;simp [];try simp (disch:=omega) only [ay,aw,af,an])|(refine hR _ _ ?_;clear hR R)|(refine hK _ _ ?_;clear hK K)|refine nx ?_|refine wn λK hK=>?_|simp only [wS]|(show cM _ _ _ _ _ _;refine nx ?_))
 have g0:=AW.bN A1 (.cells [.int .i64 1,.int .i64 0,.int .i64 1,.int .i64 1,.int .i64 0,.int .i64 1] true 1);have l0:=AW.le.alloc A1 (.cells [.int .i64 1,.int .i64 0,.int .i64 1,.int .i64 1,.int .i64 0,.int .i64 1] true 1);have w0:=w1.alloc (.cells [.int .i64 1,.int .i64 0,.int .i64 1,.int .i64 1,.int .i64 0,.int .i64 1] true 1);refine bD (LB _ _ [1,0,1,1,0,1] [1,0,1,1,0,1] _ (h1.le l0 w1) (bK.KZ g0 rfl (by decide) rfl) (by decide)) ?_;rintro _ _ ⟨rfl,rfl⟩ _ _;have h2:=h1.le l0 w1;have l2:=l1'.trans l0;generalize (A1.alloc (.cells [.int .i64 1,.int .i64 0,.int .i64 1,.int .i64 1,.int .i64 0,.int .i64 1] true 1))=A2 at *;clear g0 l0 h1 l1' w1 n1
 repeat' (first|(refine iT λR hR=>?_;simp [];try simp (disch:=omega) only [ay,aw,af,an])|(refine hR _ _ ?_;clear hR R))
 refine bD (JV 2 3 _ [1,0,1,1,0,1] _ h2 (by decide) (by decide)) ?_;rintro _ A3 ⟨rfl,l3⟩ w3 _;rw [HA.1];have l4:=l2.trans l3;clear l2 l3 h2
 repeat' (first|(refine iT λR hR=>?_;simp [];try simp (disch:=omega) only [ay,aw,af,an])|(refine hR _ _ ?_;clear hR R))
 have g0:=AW.bN A3 (.cells [.int .i64 0,.int .i64 0] true 1);have l0:=AW.le.alloc A3 (.cells [.int .i64 0,.int .i64 0] true 1);refine bD (JV 2 2 _ [0,0] _ (bK.KZ g0 rfl (by decide) rfl) (by decide) (by decide)) ?_;rintro _ A4 ⟨rfl,l5⟩ w4 _;rw [HA.2];have l6:=(l4.trans l0).trans l5;clear l4 l0 l5 g0
 repeat' (first|(refine iT λR hR=>?_;simp [];try simp (disch:=omega) only [ay,aw,af,an])|(refine hR _ _ ?_;clear hR R))
 have g0:=AW.bN A4 (.cells [.int .i64 1] true 1);have l0:=AW.le.alloc A4 (.cells [.int .i64 1] true 1);refine bD (Hc 2 3 0 _ [1] _ (bK.KZ g0 rfl (by decide) rfl) (by decide) (by decide)) ?_;rintro _ _ ⟨rfl,rfl⟩ _ _;rw [QI];have l7:=l6.trans l0;clear l6 l0 g0
 repeat' (first|(refine iT λR hR=>?_;simp [];try simp (disch:=omega) only [ay,aw,af,an])|(refine hR _ _ ?_;clear hR R)|(refine hK _ _ ?_;clear hK K)|refine nx ?_|(show cM _ _ _ _ _ _;refine nx ?_))
 simpa using l7
end
end Go.Stx
