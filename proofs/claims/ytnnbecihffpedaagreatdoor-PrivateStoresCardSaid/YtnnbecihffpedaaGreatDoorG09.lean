import Derived.Test.YtnnbecihffpedaaGreatDoorG08
set_option linter.all false
set_option maxRecDepth 20000
set_option maxHeartbeats 4000000
open List renaming length->U
open Go.IntKind renaming i64->Zb
open Go.Proofs.Tryz renaming func110->kah,func69->ZS,prog->qZ
open Go.Value renaming int->Zl
open List renaming replicate->q9,replicate_succ->kbm
open Nat renaming lt_of_le_of_lt->Z4
open Bool renaming false->qn,true->qj
open Go renaming undef->qE
open Go.IntKind renaming i64->qg,u64->qr
open Go.Stx.dt renaming cells->qm
open Go.Value renaming bool->qt,int->qh,slice->ql,tuple->qF
open Option renaming none->qk,some->qf
namespace Go.Stx
open Go Go.Proofs
attribute [local irreducible] TW bK df aW aE aL cY dm
section
open T20 T13
variable [Gl]
def ay.makeK {A:AW}{F:HP}(kk:IntKind)(n:Nat)(h:bD A F)(hw:A.Wf):bD (A.alloc (qm (fH [qh kk 0] n) qj 1)) (ay kk (ql (qf ⟨A.next,0,qk⟩) n n) (q9 n 0)*F):=by
 have cy:U (fH [Zl kk 0] n)=n:=by simp[kG]
 have hcs:(q9 n (0:Int)).map (Zl kk)=fH [Zl kk 0] n:=by
  clear cy
  induction n with
  |zero=>rfl
  |succ n ih=>rw[kbm,List.map_cons,ih];rfl
 exact X3
def aj.makeK {A:AW}{L:List It}(kk:IntKind)(n:Nat)(h:aj A L)(hw:A.Wf):aj (A.alloc (qm (fH [qh kk 0] n) qj 1)) (.h (ay kk (ql (qf ⟨A.next,0,qk⟩) n n) (q9 n 0))::L):=ay.makeK kk n h hw
def HK (b pb:Nat)(s:aJ)(w:jS)(M:Mm)(hd:s.aH=.dy w)(cy:U w.os=U w.ws)(hol:U s.au<2^20):
 bz qZ 116 [pv b,pv pb] [.h (bq b s),eA pb M] (λv=>v=qF #[(gF s M w).1.v,qh qg (gF s M w).2.1])
  (λ_=>[.h (bq b (gF s M w).2.2.1),eA pb (gF s M w).2.2.2]):=by
 (unhygienic cases s);dsimp only at hd;subst hd;dsimp only at hol;obtain⟨x,w',M',hr⟩:∃x e' M',kC w M=(x,e',M'):=⟨_,_,_,rfl⟩;have dT:=λn=>wrStep_L n pb w M cy;rw[hr]at dT;obtain⟨vr,hvr⟩:∃vr,aJ.pX ⟨cf,af,aG,aD,value,bQ,am,reads,ao,aB,set,bJ,aC,au,aQ,aN,av,.dy w⟩=vr:=⟨_,rfl⟩;have hvv:aJ.pX ⟨cf,af,aG,aD,value,bQ,am,reads,ao,aB,set,bJ,aC,au,aQ,aN,av,.dy w'⟩=vr:=hvr;cases h2:w'.done
 . have e:gF ⟨cf,af,aG,aD,value,bQ,am,reads,ao,aB,set,bJ,aC,au,aQ,aN,av,.dy w⟩ M w=(x,17,⟨cf,af,aG,aD,value,bQ,am,reads,ao,aB,set,bJ,aC,au,aQ,aN,av,.dy w'⟩,M'):=by unfold gF;rw[hr];dsimp only;rw[h2];simp
   rw[e];intro A F hw hS;refine aO Tryz.func116 λ_=>?_;dsimp only[aa,ah]at hS;obtain⟨x0,hS⟩:=bq.open hS .z;(unhygienic cases x0);dsimp only[de,jo,dw,ft,bM.dZ,aa,ah]at hS;have hq:=gL hS hw;revert hq hS hw;clear hS;refine Wp (J2 (Tg.mk (n:=10) @Hu) (dT m)) (J4 h2 bL @bx.eq_1 @bj.v.eq_1) ?_<;>(unhygienic intros);refine⟨_,by simp[AW.ab];rfl,by (simp[bj.v];done),?_⟩;apply bq.bZ
   (·exact sA)
   exact fP
   (·exact pP)
   all_goals(first|exact 0|exact qE)
 have e:gF ⟨cf,af,aG,aD,value,bQ,am,reads,ao,aB,set,bJ,aC,au,aQ,aN,av,.dy w⟩ M w=(x,17,⟨cf,af,aG,aD,value,bQ,am,reads,ao,aB,set,bJ,aC,au,aQ,aN,av,.bG ⟨au,q9 (U au) (lR vr)⟩⟩,M'):=by unfold gF;rw[hr];dsimp only;rw[h2,az rfl,hvr]
 rw[e];intro A F hw hS;refine aO Tryz.func116 λ_=>?_;dsimp only[aa,ah]at hS;obtain⟨x0,hS⟩:=bq.open hS .z;(unhygienic cases x0);dsimp only[de,jo,dw,ft,bM.dZ,aa,ah]at hS;obtain⟨oo,co,rfl,_⟩:=(aj.wu hS (.s (.s (.s (.s (.s (.s (.s (.s (.s .z)))))))))).cL;have hq:=gL hS hw;revert hq hS hw;(repeat clear hS);refine Wp db (J3 bL @bx.eq_1 @bj.v.eq_1) ?_<;>(unhygienic intros);apply bz.gk (dT m)
 (·exact wA)
 (·exact sA)
 (·exact pP)
 rintro _ A1 rfl hS hw _;have hS:=lA hS;have hq:=gL hS hw;revert hq hS hw;(repeat first|clear hq|clear hS|clear hw|revert R|revert K);refine Wp (J1 (Tg.mk (n:=10) @Hu)) (J4 h2 bL @bx.eq_1 @bj.v.eq_1) ?_<;>(unhygienic intros);obtain⟨n,hn⟩:∃n,U au=n:=⟨_,rfl⟩;have hinv:∀i,i<=n->q9 i (lR vr)++q9 (n-i) 0=(q9 i (lR vr)++q9 (n-i) (0:Int)):=λ_ _=>rfl
 refine dO (λk fr A'=>A'.Wf/\∃i:Nat,k=n-i/\i<=n/\fr 0=pv b/\fr 4=.pointer (qf ⟨A.next,0,qk⟩)/\fr 6=.pointer (qf ⟨A1.next,0,qk⟩)/\fr 7=ql (qf ⟨A1.next+1,0,qk⟩) n n/\fr 29=qh qg n/\fr 30=qh qg i/\
  aj A' (.h (ay qr (ql (qf ⟨A1.next+1,0,qk⟩) n n) (q9 i (lR vr)++q9 (n-i) 0))::.at A1.next (qm [qh qg x.fB,qh qg x.cell,qh qg x.cZ,qh qr x.eV,qh qr x.put,qt x.done] qj 1)::.at A.next (qm bx qj 1)::.h (jm m w')::eA pb M'::(de b ⟨cf,af,aG,aD,value,bQ,am,reads,ao,aB,set,bJ,aC,au,aQ,aN,av,.dy w'⟩ 9 (.dy w') ⟨fe,fA,bV,dF,dB,m,c0,c1,c2,dL,bI,cx,ql oo (U au) co,fh,dM,fY,cH,cF,br,dN,dQ,iG,fi⟩++[.h F]))) n ?_ ?_
 refine⟨?_,0,by simp,by simp,by simp,by simp,by simp,by simp[hn],by simp[hn],by simp,?_⟩
 (·exact wA)
 simp only[List.replicate_zero,ah,Nat.sub_zero];rw[<-hn];apply aj.bZ;apply aj.makeK
 (·exact sA)
 (·exact wA)
 (dsimp only[de,jo,dw,ft,bM.dZ,tZ,ox,uK,Cl,oB,nY,jQ,ud,tT,Cb,tU,aa,ah])
 (·exact pP)
 rintro k fr A'⟨hw,i,rfl,hi,h0,h4',h6,h7,h29,h30,hS⟩;dsimp only[de,jo,dw,ft,bM.dZ,tZ,ox,uK,Cl,oB,nY,jQ,ud,tT,Cb,tU,aa,ah]at hS;refine aU ?_;by_cases b9:i<n
 . have gf:(i:Int)<n:=Ya;have ij:=C0 (i:=i);have hll:U (q9 i (lR vr)++q9 (n-i) (0:Int))=n:=Yg;obtain⟨bv,offv,cv,rowv,hv,hbv,bP,jM,jH⟩:=aj.Ut hS .z (j:=i) Ya;rw[hll]at hv hbv;injection hv with hv1 hv2 hv3;injection hv1 with hv1;injection hv1 with hv1 hv4 _;subst hv1;subst hv4;have sG:=hS;have hS:=jH;have hq:=gL hS hw;have Qg:i<U rowv:=Ya;simp only[Nat.zero_add]at bP jM;revert hq hS hw;(repeat first|clear hq|clear hS|clear hw|revert hc);refine Wp (J2 (Tg.mk (n:=30) (λA' h1 h2=>td b ⟨cf,af,aG,aD,value,bQ,am,reads,ao,aB,set,bJ,aC,au,aQ,aN,av,.dy w'⟩ 9 (.dy w') A' h1 h2)) @Sj) (oP h0 h4' h6 h7 h29 h30 hvv b9 gf ij bP Qg bL) ?_<;>(unhygienic intros);refine⟨n-(i+1),by omega,hw.set _ (aj.ltR hS hw .z (Nat.le_refl _)),i+1,rfl,by omega,by simp[h0],by simp[h4'],by simp[h6],by simp[h7],by simp[h29],by simp,?_⟩
   have h9:=jM (lR vr) _ _ (aj.io hS .z);have e9:(q9 i (lR vr)++q9 (n-i) (0:Int)).set i (lR vr)=q9 (i+1) (lR vr)++q9 (n-(i+1)) 0:=by rw[List.set_append_right _ _ Yb];simp only[List.length_replicate,Nat.sub_self];rw[show n-i=(n-(i+1))+1 by omega,kbm,List.set_cons_zero,List.replicate_succ',List.append_assoc];rfl
   rw[e9]at h9;exact h9
 have NE:i=n:=Ya
 subst NE;simp only[Nat.sub_self,List.replicate_zero,List.append_nil]at hS;have hq:=gL hS hw;revert hq hS hw;(repeat first|clear hq|clear hS|clear hw|revert hc);refine Wp (J1 (Tg.mk (n:=12) @zF)) (J7 h0 h4' h6 h7 h29 h30 bL) ?_<;>(unhygienic intros);rw[show q9 (U au) (lR vr)=q9 i (lR vr) by rw[hn]];refine⟨_,by simp[h4',AW.ab];rfl,by simp[bj.v,bx],?_⟩;apply bq.bZ
 (·exact sA)
 exact fP
 (·exact pP)
 all_goals(first|exact 0|exact qE)
end
section
abbrev vA:List (Nat×Nat):=[(0,0),(1,0),(2,0),(3,0),(4,0),(5,0),(6,0),(7,0),(8,0),(9,0),(10,0),(11,0),(12,0),(13,0),(14,0),(15,0),(16,0),(17,0),(18,0),(19,0),(20,2),(21,0),(22,0)]
abbrev vz:List (Nat×Nat):=[(0,0),(1,0),(2,0),(3,0),(4,0),(5,0),(6,0),(7,0),(8,0),(9,0),(10,2),(11,3),(12,0),(13,0),(14,0),(15,3)]
abbrev vy:List (Nat×Nat):=[(0,0),(1,0),(2,0),(3,0),(4,0),(5,0),(6,0),(7,0),(8,0),(9,0),(10,0),(11,0),(12,0),(13,2),(14,3),(15,0)]
abbrev vu:List (Nat×Nat):=[(0,0),(1,0),(2,0),(3,0),(4,0),(5,0),(6,0),(7,0),(8,0),(9,2),(10,3)]
open T17 T13
variable [Gl]
set_option maxHeartbeats 16000000 in
def HL (b pb:Nat)(s:aJ)(c:hY)(M:Mm)(hd:s.aH=.be c .take)(hC:iF s)(hrl:U s.reads+1<2^20)(hca:0<=c.bR/\c.bR<=2)(vV:c.gz=fU s.cf c.cr):
 bz qZ 110 [pv b,pv pb] [.h (bq b s),eA pb M] (λv=>v=qF #[(da s M c .take).1.v,qh qg (da s M c .take).2.1])
  (λ_=>[.h (bq b (da s M c .take).2.2.1),eA pb (da s M c .take).2.2.2]):=by
 (unhygienic cases s);dsimp only at hd;subst hd
 skip
 dsimp only at vV hrl;obtain⟨hr0,P5⟩:=hC.cf.reads;have jM:=hC.set;dsimp only at hr0 P5 jM;have vB:cf.reads.toNat<=32:=Ya
 obtain⟨x,c',M',hr⟩:∃x e' M',dh c M=(x,e',M'):=⟨_,_,_,rfl⟩;have dT:=λn=>BF n pb c M;rw[hr]at dT;have CA:Zb.wrap (5+c.bR)=5+c.bR:=an Ya Ya;have jt:Zb.wrap (c.bR+1)=c.bR+1:=an Ya Ya;have y7:¬c'.bR=3->c'.bR=c.bR+1:=by
  intro hn;have EE:(dh c M).2.1=c':=by rw[hr]
  rcases tY c M with ⟨h,e⟩|⟨h,e⟩|⟨h,e⟩|⟨h,e⟩|⟨h,e⟩|⟨h,e⟩<;>(rw[e]at EE;subst EE;dsimp only at hn ⊢;try omega)
 have yR:c'.cr=c.cr:=by
  have EE:(dh c M).2.1=c':=by rw[hr]
  rcases tY c M with ⟨h,e⟩|⟨h,e⟩|⟨h,e⟩|⟨h,e⟩|⟨h,e⟩|⟨h,e⟩<;>(rw[e]at EE;subst EE;rfl)
 have nq:=AJ cf hC.cf c.cr;dsimp only[bu.v]at nq;cases h2:c'.done
 . have h3:¬c'.bR=3:=by simpa[hY.done]using h2
   have e:da ⟨cf,af,aG,aD,value,bQ,am,reads,ao,aB,set,bJ,aC,au,aQ,aN,av,.be c .take⟩ M c .take=(x,5+c.bR,⟨cf,af,aG,aD,value,bQ,am,reads,ao,aB,set,bJ,aC,au,aQ,aN,av,.be c' .take⟩,M'):=by unfold da;rw[hr];dsimp only;rw[h2];simp
   rw[e];intro A F hw hS;refine aO kah λ_=>?_;dsimp only[aa,ah]at hS;obtain⟨x0,hS⟩:=bq.open hS .z;(unhygienic cases x0);dsimp only[de,jo,dw,ft,bM.dZ,aa,ah]at hS;have hq:=gL hS hw;revert hq hS hw;clear hS;refine Wu (J7 (Tg.mk (n:=10) @fK) (od vA) (od vz) (od vy) (od vu) (dT m) (⟨⟩:Ts (λA'=>A'.bk b=qf (qm [pv fe,pv fA,dL,bI,cx,rC bQ bV,pv m,qh qg c.bR,fY,kN aQ dF,jy aN dB,cH,cF,br,dN,qh qg cf.bm,qh qg cf.au,qh qg cf.base,qh qg cf.c0,qh qg cf.c1,qh qg cf.c2,qh qg cf.c3,qh qg cf.reads,qh qg cf.b8,qh qg cf.ao,qh qg cf.aB,qh qg cf.aC,qt cf.aZ,qh qg af,qh qg aG,qh qg aD,qh qg 3,dQ,.func (.func 135) #[] #[pv c0],qh qg c.cr,qh qr value,cG,qh qr aC,qt am,qh qg av] qj 1)) [0,0,0,0,0,0,3,0,0,0,0,1,0,2,3,0] (.aM 0 (.aM 1 (.aM 2 (.aM 3 (.aM 4 (.aM 5 (.aM 7 (.aM 8 (.aM 9 (.aM 10 (.aM 11 (.aM 12 (.wm 6 (.aM 13 (.aM 14 (.aM 15 .nil))) 13 (.aM 6 (.aM 14 (.aM 15 .nil)))))))))))))))))) (J6 h2 CA jt bL @bx.eq_1 @bj.v.eq_1) (J2 ?_ ?_)<;>(unhygienic intros)
   all_goals(have h:c'.bR=c.bR+1/\c'.cr=c.cr:=⟨y7 h3,yR⟩)
   all_goals(
    refine⟨_,by simp[AW.ab];rfl,by simp[bj.v],?_⟩;apply bq.bZ
    (·exact sA)
    exact fP
    (·exact pP)
    all_goals(first|exact 0|exact qE))
 cases h4:c'.iO
 . by_cases h5:c.cr<cf.bm
   . by_cases h6:c.cr∈reads
     . have h7:(if c.cr<cf.bm/\¬c.cr∈reads then (⟨cf,af,aG,aD,value,bQ,am,reads++[c.cr],ao,aB,set,bJ,aC,au,aQ,aN,av,.be c' .take⟩:aJ) else ⟨cf,af,aG,aD,value,bQ,am,reads,ao,aB,set,bJ,aC,au,aQ,aN,av,.be c' .take⟩)=⟨cf,af,aG,aD,value,bQ,am,reads,ao,aB,set,bJ,aC,au,aQ,aN,av,.be c' .take⟩:=ar (λh=>h.2 h6);obtain⟨q,l2,wV⟩:∃q l2,eT cf.reads.toNat set c.gz=(q,l2):=⟨_,_,rfl⟩;have je:=λn=>oF n cf.reads.toNat set (fU cf c.cr) jM vB;rw[<-vV,wV]at je;dsimp only at je;have SZ:U l2<=cf.reads.toNat:=by exact XN
       have Ga:q=qn->l2=set:=by intro DT;exact XI
       cases q
       . have hl2s:=Ga rfl;subst l2;have e:da ⟨cf,af,aG,aD,value,bQ,am,reads,ao,aB,set,bJ,aC,au,aQ,aN,av,.be c .take⟩ M c .take=(x,5+c.bR,kM ⟨cf,af,aG,aD,value,bQ,am,reads,ao,aB,set,bJ,aC,au,aQ,aN,av,.be c' .take⟩ 3,M'):=by exact XQ
         rw[e];intro A F hw hS;refine aO kah λ_=>?_;dsimp only[aa,ah]at hS;obtain⟨x0,hS⟩:=bq.open hS .z;(unhygienic cases x0);dsimp only[de,jo,dw,ft,bM.dZ,aa,ah]at hS;have hq:=gL hS hw;rw[vV]at je;revert hq hS hw;(repeat clear hS);refine Wu (Ay (Tg.mk (n:=10) @fK) (Tg.mk (n:=10) @eF) (Tg.mk (n:=14) @iu) (Tg.mk (n:=20) (kg b ⟨cf,af,aG,aD,value,bQ,am,reads,ao,aB,set,bJ,aC,au,aQ,aN,av,.be c' .take⟩ 3 3 .bC hC.cf hC.al hC.push (Z4 hC.oQ Yd))) (od vA) (od vz) (od vy) (od vu) @nq (dT m) (je fe) (⟨⟩:Ts (λA'=>A'.bk b=qf (qm [pv fe,pv fA,dL,bI,cx,rC bQ bV,pv m,qh qg c.bR,fY,kN aQ dF,jy aN dB,cH,cF,br,dN,qh qg cf.bm,qh qg cf.au,qh qg cf.base,qh qg cf.c0,qh qg cf.c1,qh qg cf.c2,qh qg cf.c3,qh qg cf.reads,qh qg cf.b8,qh qg cf.ao,qh qg cf.aB,qh qg cf.aC,qt cf.aZ,qh qg af,qh qg aG,qh qg aD,qh qg 3,dQ,.func (.func 135) #[] #[pv c0],qh qg c.cr,qh qr value,cG,qh qr aC,qt am,qh qg av] qj 1)) [0,0,0,0,0,0,3,0,0,0,0,1,0,2,3,0] (.aM 0 (.aM 1 (.aM 2 (.aM 3 (.aM 4 (.aM 5 (.aM 7 (.aM 8 (.aM 9 (.aM 10 (.aM 11 (.aM 12 (.wm 6 (.aM 13 (.aM 14 (.aM 15 .nil))) 13 (.aM 6 (.aM 14 (.aM 15 .nil)))))))))))))))))) (J9 h2 h4 h5 h6 CA jt bL @bx.eq_1 @bj.v.eq_1) (J2 ?_ ?_)<;>(unhygienic intros)
         all_goals(
          refine⟨_,by simp[AW.ab];rfl,by simp[bj.v],?_⟩;apply aj.bZ
          (·exact sA)
          (·exact pP))
       have e:da ⟨cf,af,aG,aD,value,bQ,am,reads,ao,aB,set,bJ,aC,au,aQ,aN,av,.be c .take⟩ M c .take=(x,5+c.bR,Bi ⟨cf,af,aG,aD,value,bQ,am,reads,ao,aB,l2,bJ,aC,au,aQ,aN,av,.bC⟩ c'.val .take,M'):=by exact XQ
       rw[e];intro A F hw hS;refine aO kah λ_=>?_;dsimp only[aa,ah]at hS;obtain⟨x0,hS⟩:=bq.open hS .z;(unhygienic cases x0);dsimp only[de,jo,dw,ft,bM.dZ,aa,ah]at hS;have hq:=gL hS hw;rw[vV]at je;revert hq hS hw;(repeat clear hS);refine Wu (oP (Tg.mk (n:=10) @fK) (Tg.mk (n:=10) @eF) (Tg.mk (n:=14) @iu) (Tg.mk (n:=10) @lT) (Tg.mk (n:=21) (tf b c0 ⟨cf,af,aG,aD,value,bQ,am,reads,ao,aB,l2,bJ,aC,au,aQ,aN,av,.bC⟩ c'.val rfl)) (od vA) (od vz) (od vy) (od vu) @nq (dT m) (je fe) (⟨⟩:Ts (λA'=>A'.bk b=qf (qm [pv fe,pv fA,dL,bI,cx,rC bQ bV,pv m,qh qg c.bR,fY,kN aQ dF,jy aN dB,cH,cF,br,dN,qh qg cf.bm,qh qg cf.au,qh qg cf.base,qh qg cf.c0,qh qg cf.c1,qh qg cf.c2,qh qg cf.c3,qh qg cf.reads,qh qg cf.b8,qh qg cf.ao,qh qg cf.aB,qh qg cf.aC,qt cf.aZ,qh qg af,qh qg aG,qh qg aD,qh qg 3,dQ,.func (.func 135) #[] #[pv c0],qh qg c.cr,qh qr value,cG,qh qr aC,qt am,qh qg av] qj 1)) [0,0,0,0,0,0,3,0,0,0,0,1,0,2,3,0] (.aM 0 (.aM 1 (.aM 2 (.aM 3 (.aM 4 (.aM 5 (.aM 7 (.aM 8 (.aM 9 (.aM 10 (.aM 11 (.aM 12 (.wm 6 (.aM 13 (.aM 14 (.aM 15 .nil))) 13 (.aM 6 (.aM 14 (.aM 15 .nil)))))))))))))))))) (J9 h2 h4 h5 h6 CA jt bL @bx.eq_1 @bj.v.eq_1) (J2 ?_ ?_)<;>(unhygienic intros)
       all_goals(
        refine⟨_,by simp[AW.ab];rfl,by simp[bj.v],?_⟩;apply aj.bZ
        (·exact sA)
        (·exact pP))
     have h7:(if c.cr<cf.bm/\¬c.cr∈reads then (⟨cf,af,aG,aD,value,bQ,am,reads++[c.cr],ao,aB,set,bJ,aC,au,aQ,aN,av,.be c' .take⟩:aJ) else ⟨cf,af,aG,aD,value,bQ,am,reads,ao,aB,set,bJ,aC,au,aQ,aN,av,.be c' .take⟩)=⟨cf,af,aG,aD,value,bQ,am,reads++[c.cr],ao,aB,set,bJ,aC,au,aQ,aN,av,.be c' .take⟩:=az ⟨h5,h6⟩;obtain⟨q,l2,wV⟩:∃q l2,eT cf.reads.toNat set c.gz=(q,l2):=⟨_,_,rfl⟩;have je:=λn=>oF n cf.reads.toNat set (fU cf c.cr) jM vB;rw[<-vV,wV]at je;dsimp only at je;have SZ:U l2<=cf.reads.toNat:=by exact XN
     have Ga:q=qn->l2=set:=by intro DT;exact XI
     cases q
     . have hl2s:=Ga rfl;subst l2;have e:da ⟨cf,af,aG,aD,value,bQ,am,reads,ao,aB,set,bJ,aC,au,aQ,aN,av,.be c .take⟩ M c .take=(x,5+c.bR,kM ⟨cf,af,aG,aD,value,bQ,am,reads++[c.cr],ao,aB,set,bJ,aC,au,aQ,aN,av,.be c' .take⟩ 3,M'):=by exact XQ
       rw[e];intro A F hw hS;refine aO kah λ_=>?_;dsimp only[aa,ah]at hS;obtain⟨x0,hS⟩:=bq.open hS .z;(unhygienic cases x0);dsimp only[de,jo,dw,ft,bM.dZ,aa,ah]at hS;have hq:=gL hS hw;rw[vV]at je;revert hq hS hw;(repeat clear hS);refine Wu (Ay (Tg.mk (n:=10) @fK) (Tg.mk (n:=10) @eF) (Tg.mk (n:=14) @iu) (Tg.mk (n:=20) (kg b ⟨cf,af,aG,aD,value,bQ,am,reads++[c.cr],ao,aB,set,bJ,aC,au,aQ,aN,av,.be c' .take⟩ 3 3 .bC hC.cf hC.al hC.push (Z4 hC.oQ Yd))) (od vA) (od vz) (od vy) (od vu) @nq (dT m) (je fe) (⟨⟩:Ts (λA'=>A'.bk b=qf (qm [pv fe,pv fA,dL,bI,cx,rC bQ bV,pv m,qh qg c.bR,fY,kN aQ dF,jy aN dB,cH,cF,br,dN,qh qg cf.bm,qh qg cf.au,qh qg cf.base,qh qg cf.c0,qh qg cf.c1,qh qg cf.c2,qh qg cf.c3,qh qg cf.reads,qh qg cf.b8,qh qg cf.ao,qh qg cf.aB,qh qg cf.aC,qt cf.aZ,qh qg af,qh qg aG,qh qg aD,qh qg 3,dQ,.func (.func 135) #[] #[pv c0],qh qg c.cr,qh qr value,cG,qh qr aC,qt am,qh qg av] qj 1)) [0,0,0,0,0,0,3,0,0,0,0,1,0,2,3,0] (.aM 0 (.aM 1 (.aM 2 (.aM 3 (.aM 4 (.aM 5 (.aM 7 (.aM 8 (.aM 9 (.aM 10 (.aM 11 (.aM 12 (.wm 6 (.aM 13 (.aM 14 (.aM 15 .nil))) 13 (.aM 6 (.aM 14 (.aM 15 .nil)))))))))))))))))) (J9 h2 h4 h5 h6 CA jt bL @bx.eq_1 @bj.v.eq_1) (J2 ?_ ?_)<;>(unhygienic intros)
       all_goals(
        refine⟨_,by simp[AW.ab];rfl,by simp[bj.v],?_⟩;apply aj.bZ
        (·exact sA)
        (·exact pP))
     have e:da ⟨cf,af,aG,aD,value,bQ,am,reads,ao,aB,set,bJ,aC,au,aQ,aN,av,.be c .take⟩ M c .take=(x,5+c.bR,Bi ⟨cf,af,aG,aD,value,bQ,am,reads++[c.cr],ao,aB,l2,bJ,aC,au,aQ,aN,av,.bC⟩ c'.val .take,M'):=by exact XQ
     rw[e];intro A F hw hS;refine aO kah λ_=>?_;dsimp only[aa,ah]at hS;obtain⟨x0,hS⟩:=bq.open hS .z;(unhygienic cases x0);dsimp only[de,jo,dw,ft,bM.dZ,aa,ah]at hS;have hq:=gL hS hw;rw[vV]at je;revert hq hS hw;(repeat clear hS);refine Wu (oP (Tg.mk (n:=10) @fK) (Tg.mk (n:=10) @eF) (Tg.mk (n:=14) @iu) (Tg.mk (n:=10) @lT) (Tg.mk (n:=21) (tf b c0 ⟨cf,af,aG,aD,value,bQ,am,reads++[c.cr],ao,aB,l2,bJ,aC,au,aQ,aN,av,.bC⟩ c'.val rfl)) (od vA) (od vz) (od vy) (od vu) @nq (dT m) (je fe) (⟨⟩:Ts (λA'=>A'.bk b=qf (qm [pv fe,pv fA,dL,bI,cx,rC bQ bV,pv m,qh qg c.bR,fY,kN aQ dF,jy aN dB,cH,cF,br,dN,qh qg cf.bm,qh qg cf.au,qh qg cf.base,qh qg cf.c0,qh qg cf.c1,qh qg cf.c2,qh qg cf.c3,qh qg cf.reads,qh qg cf.b8,qh qg cf.ao,qh qg cf.aB,qh qg cf.aC,qt cf.aZ,qh qg af,qh qg aG,qh qg aD,qh qg 3,dQ,.func (.func 135) #[] #[pv c0],qh qg c.cr,qh qr value,cG,qh qr aC,qt am,qh qg av] qj 1)) [0,0,0,0,0,0,3,0,0,0,0,1,0,2,3,0] (.aM 0 (.aM 1 (.aM 2 (.aM 3 (.aM 4 (.aM 5 (.aM 7 (.aM 8 (.aM 9 (.aM 10 (.aM 11 (.aM 12 (.wm 6 (.aM 13 (.aM 14 (.aM 15 .nil))) 13 (.aM 6 (.aM 14 (.aM 15 .nil)))))))))))))))))) (J9 h2 h4 h5 h6 CA jt bL @bx.eq_1 @bj.v.eq_1) (J2 ?_ ?_)<;>(unhygienic intros)
     all_goals(
      refine⟨_,by simp[AW.ab];rfl,by simp[bj.v],?_⟩;apply aj.bZ
      (·exact sA)
      (·exact pP))
   have h6:True:=trivial;have h7:(if c.cr<cf.bm/\¬c.cr∈reads then (⟨cf,af,aG,aD,value,bQ,am,reads++[c.cr],ao,aB,set,bJ,aC,au,aQ,aN,av,.be c' .take⟩:aJ) else ⟨cf,af,aG,aD,value,bQ,am,reads,ao,aB,set,bJ,aC,au,aQ,aN,av,.be c' .take⟩)=⟨cf,af,aG,aD,value,bQ,am,reads,ao,aB,set,bJ,aC,au,aQ,aN,av,.be c' .take⟩:=ar (λh=>h5 h.1);obtain⟨q,l2,wV⟩:∃q l2,eT cf.reads.toNat set c.gz=(q,l2):=⟨_,_,rfl⟩;have je:=λn=>oF n cf.reads.toNat set (fU cf c.cr) jM vB;rw[<-vV,wV]at je;dsimp only at je;have SZ:U l2<=cf.reads.toNat:=by exact XN
   have Ga:q=qn->l2=set:=by intro DT;exact XI
   cases q
   . have hl2s:=Ga rfl;subst l2;have e:da ⟨cf,af,aG,aD,value,bQ,am,reads,ao,aB,set,bJ,aC,au,aQ,aN,av,.be c .take⟩ M c .take=(x,5+c.bR,kM ⟨cf,af,aG,aD,value,bQ,am,reads,ao,aB,set,bJ,aC,au,aQ,aN,av,.be c' .take⟩ 3,M'):=by exact XQ
     rw[e];intro A F hw hS;refine aO kah λ_=>?_;dsimp only[aa,ah]at hS;obtain⟨x0,hS⟩:=bq.open hS .z;(unhygienic cases x0);dsimp only[de,jo,dw,ft,bM.dZ,aa,ah]at hS;have hq:=gL hS hw;rw[vV]at je;revert hq hS hw;(repeat clear hS);refine Wu (Ay (Tg.mk (n:=10) @fK) (Tg.mk (n:=10) @eF) (Tg.mk (n:=14) @iu) (Tg.mk (n:=20) (kg b ⟨cf,af,aG,aD,value,bQ,am,reads,ao,aB,set,bJ,aC,au,aQ,aN,av,.be c' .take⟩ 3 3 .bC hC.cf hC.al hC.push (Z4 hC.oQ Yd))) (od vA) (od vz) (od vy) (od vu) @nq (dT m) (je fe) (⟨⟩:Ts (λA'=>A'.bk b=qf (qm [pv fe,pv fA,dL,bI,cx,rC bQ bV,pv m,qh qg c.bR,fY,kN aQ dF,jy aN dB,cH,cF,br,dN,qh qg cf.bm,qh qg cf.au,qh qg cf.base,qh qg cf.c0,qh qg cf.c1,qh qg cf.c2,qh qg cf.c3,qh qg cf.reads,qh qg cf.b8,qh qg cf.ao,qh qg cf.aB,qh qg cf.aC,qt cf.aZ,qh qg af,qh qg aG,qh qg aD,qh qg 3,dQ,.func (.func 135) #[] #[pv c0],qh qg c.cr,qh qr value,cG,qh qr aC,qt am,qh qg av] qj 1)) [0,0,0,0,0,0,3,0,0,0,0,1,0,2,3,0] (.aM 0 (.aM 1 (.aM 2 (.aM 3 (.aM 4 (.aM 5 (.aM 7 (.aM 8 (.aM 9 (.aM 10 (.aM 11 (.aM 12 (.wm 6 (.aM 13 (.aM 14 (.aM 15 .nil))) 13 (.aM 6 (.aM 14 (.aM 15 .nil)))))))))))))))))) (J9 h2 h4 h5 h6 CA jt bL @bx.eq_1 @bj.v.eq_1) (J2 ?_ ?_)<;>(unhygienic intros)
     all_goals(
      refine⟨_,by simp[AW.ab];rfl,by simp[bj.v],?_⟩;apply aj.bZ
      (·exact sA)
      (·exact pP))
   have e:da ⟨cf,af,aG,aD,value,bQ,am,reads,ao,aB,set,bJ,aC,au,aQ,aN,av,.be c .take⟩ M c .take=(x,5+c.bR,Bi ⟨cf,af,aG,aD,value,bQ,am,reads,ao,aB,l2,bJ,aC,au,aQ,aN,av,.bC⟩ c'.val .take,M'):=by exact XQ
   rw[e];intro A F hw hS;refine aO kah λ_=>?_;dsimp only[aa,ah]at hS;obtain⟨x0,hS⟩:=bq.open hS .z;(unhygienic cases x0);dsimp only[de,jo,dw,ft,bM.dZ,aa,ah]at hS;have hq:=gL hS hw;rw[vV]at je;revert hq hS hw;(repeat clear hS);refine Wu (oP (Tg.mk (n:=10) @fK) (Tg.mk (n:=10) @eF) (Tg.mk (n:=14) @iu) (Tg.mk (n:=10) @lT) (Tg.mk (n:=21) (tf b c0 ⟨cf,af,aG,aD,value,bQ,am,reads,ao,aB,l2,bJ,aC,au,aQ,aN,av,.bC⟩ c'.val rfl)) (od vA) (od vz) (od vy) (od vu) @nq (dT m) (je fe) (⟨⟩:Ts (λA'=>A'.bk b=qf (qm [pv fe,pv fA,dL,bI,cx,rC bQ bV,pv m,qh qg c.bR,fY,kN aQ dF,jy aN dB,cH,cF,br,dN,qh qg cf.bm,qh qg cf.au,qh qg cf.base,qh qg cf.c0,qh qg cf.c1,qh qg cf.c2,qh qg cf.c3,qh qg cf.reads,qh qg cf.b8,qh qg cf.ao,qh qg cf.aB,qh qg cf.aC,qt cf.aZ,qh qg af,qh qg aG,qh qg aD,qh qg 3,dQ,.func (.func 135) #[] #[pv c0],qh qg c.cr,qh qr value,cG,qh qr aC,qt am,qh qg av] qj 1)) [0,0,0,0,0,0,3,0,0,0,0,1,0,2,3,0] (.aM 0 (.aM 1 (.aM 2 (.aM 3 (.aM 4 (.aM 5 (.aM 7 (.aM 8 (.aM 9 (.aM 10 (.aM 11 (.aM 12 (.wm 6 (.aM 13 (.aM 14 (.aM 15 .nil))) 13 (.aM 6 (.aM 14 (.aM 15 .nil)))))))))))))))))) (J9 h2 h4 h5 h6 CA jt bL @bx.eq_1 @bj.v.eq_1) (J2 ?_ ?_)<;>(unhygienic intros)
   all_goals(
    refine⟨_,by simp[AW.ab];rfl,by simp[bj.v],?_⟩;apply aj.bZ
    (·exact sA)
    (·exact pP))
 have e:da ⟨cf,af,aG,aD,value,bQ,am,reads,ao,aB,set,bJ,aC,au,aQ,aN,av,.be c .take⟩ M c .take=(x,5+c.bR,kM ⟨cf,af,aG,aD,value,bQ,am,reads,ao,aB,set,bJ,aC,au,aQ,aN,av,.be c' .take⟩ 9,M'):=by unfold da;rw[hr];dsimp only;rw[h2,h4];simp
 rw[e];intro A F hw hS;refine aO kah λ_=>?_;dsimp only[aa,ah]at hS;obtain⟨x0,hS⟩:=bq.open hS .z;(unhygienic cases x0);dsimp only[de,jo,dw,ft,bM.dZ,aa,ah]at hS;have hq:=gL hS hw;revert hq hS hw;(repeat clear hS);refine Wu (J9 (Tg.mk (n:=10) @fK) (Tg.mk (n:=10) @eF) (Tg.mk (n:=20) (kg b ⟨cf,af,aG,aD,value,bQ,am,reads,ao,aB,set,bJ,aC,au,aQ,aN,av,.be c' .take⟩ 3 9 .bC hC.cf hC.al hC.push (Z4 hC.oQ Yd))) (od vA) (od vz) (od vy) (od vu) (dT m) (⟨⟩:Ts (λA'=>A'.bk b=qf (qm [pv fe,pv fA,dL,bI,cx,rC bQ bV,pv m,qh qg c.bR,fY,kN aQ dF,jy aN dB,cH,cF,br,dN,qh qg cf.bm,qh qg cf.au,qh qg cf.base,qh qg cf.c0,qh qg cf.c1,qh qg cf.c2,qh qg cf.c3,qh qg cf.reads,qh qg cf.b8,qh qg cf.ao,qh qg cf.aB,qh qg cf.aC,qt cf.aZ,qh qg af,qh qg aG,qh qg aD,qh qg 3,dQ,.func (.func 135) #[] #[pv c0],qh qg c.cr,qh qr value,cG,qh qr aC,qt am,qh qg av] qj 1)) [0,0,0,0,0,0,3,0,0,0,0,1,0,2,3,0] (.aM 0 (.aM 1 (.aM 2 (.aM 3 (.aM 4 (.aM 5 (.aM 7 (.aM 8 (.aM 9 (.aM 10 (.aM 11 (.aM 12 (.wm 6 (.aM 13 (.aM 14 (.aM 15 .nil))) 13 (.aM 6 (.aM 14 (.aM 15 .nil)))))))))))))))))) (J7 h2 h4 CA jt bL @bx.eq_1 @bj.v.eq_1) (J2 ?_ ?_)<;>(unhygienic intros)
 all_goals(
  refine⟨_,by simp[AW.ab];rfl,by simp[bj.v],?_⟩;apply aj.bZ
  (·exact sA)
  (·exact pP))
end
section
abbrev vm:List (Nat×Nat):=[(0,0),(1,0),(2,0),(3,0),(4,0),(5,0),(6,0),(7,0),(8,0),(9,0),(10,0),(11,0),(12,0),(13,0),(14,0),(15,0),(16,0),(17,0),(18,0),(19,0),(20,2),(21,0),(22,0)]
abbrev vg:List (Nat×Nat):=[(0,0),(1,0),(2,0),(3,0),(4,0),(5,0),(6,0),(7,0),(8,0),(9,0),(10,2),(11,3),(12,0),(13,0),(14,0),(15,3)]
abbrev u9:List (Nat×Nat):=[(0,0),(1,0),(2,0),(3,0),(4,0),(5,0),(6,0),(7,0),(8,0),(9,0),(10,0),(11,0),(12,0),(13,2),(14,3),(15,0)]
abbrev u7:List (Nat×Nat):=[(0,0),(1,0),(2,0),(3,0),(4,0),(5,0),(6,0),(7,0),(8,0),(9,2),(10,3)]
open T17 T13
variable [Gl]
set_option maxHeartbeats 16000000 in
def HM (b pb:Nat)(s:aJ)(c:hY)(kb:Int)(M:Mm)(hd:s.aH=.be c (.dz kb))(hC:iF s)(hrl:U s.reads+1<2^20)(hca:0<=c.bR/\c.bR<=2)(vV:c.gz=fU s.cf c.cr)(hkb:0<=kb/\kb<s.cf.nb):
 bz qZ 110 [pv b,pv pb] [.h (bq b s),eA pb M] (λv=>v=qF #[(da s M c (.dz kb)).1.v,qh qg (da s M c (.dz kb)).2.1])
  (λ_=>[.h (bq b (da s M c (.dz kb)).2.2.1),eA pb (da s M c (.dz kb)).2.2.2]):=by
 (unhygienic cases s);dsimp only at hd;subst hd;dsimp only at hkb;dsimp only at vV hrl;obtain⟨hr0,P5⟩:=hC.cf.reads;have jM:=hC.set;dsimp only at hr0 P5 jM;have vB:cf.reads.toNat<=32:=Ya
 obtain⟨x,c',M',hr⟩:∃x e' M',dh c M=(x,e',M'):=⟨_,_,_,rfl⟩;have dT:=λn=>BF n pb c M;rw[hr]at dT;have CA:Zb.wrap (5+c.bR)=5+c.bR:=an Ya Ya;have jt:Zb.wrap (c.bR+1)=c.bR+1:=an Ya Ya;have y7:¬c'.bR=3->c'.bR=c.bR+1:=by
  intro hn;have EE:(dh c M).2.1=c':=by rw[hr]
  rcases tY c M with ⟨h,e⟩|⟨h,e⟩|⟨h,e⟩|⟨h,e⟩|⟨h,e⟩|⟨h,e⟩<;>(rw[e]at EE;subst EE;dsimp only at hn ⊢;try omega)
 have yR:c'.cr=c.cr:=by
  have EE:(dh c M).2.1=c':=by rw[hr]
  rcases tY c M with ⟨h,e⟩|⟨h,e⟩|⟨h,e⟩|⟨h,e⟩|⟨h,e⟩|⟨h,e⟩<;>(rw[e]at EE;subst EE;rfl)
 have nq:=AJ cf hC.cf c.cr;dsimp only[bu.v]at nq;have hCX:∀rd l2,U rd<2^20->U l2<=cf.reads.toNat->iF ⟨cf,af,aG,aD,value,bQ,am,rd,ao,aB,l2,bJ,aC,au,aQ,aN,av,.bC⟩:=λrd l2 h1 h2=>⟨hC.cf,hC.Rw,hC.bJ,hC.fg,hC.cZ,hC.Mj,hC.alb,hC.oQ,hC.push,h2,h1,hC.GQ⟩;cases h2:c'.done
 . have h3:¬c'.bR=3:=by simpa[hY.done]using h2
   have e:da ⟨cf,af,aG,aD,value,bQ,am,reads,ao,aB,set,bJ,aC,au,aQ,aN,av,.be c (.dz kb)⟩ M c (.dz kb)=(x,5+c.bR,⟨cf,af,aG,aD,value,bQ,am,reads,ao,aB,set,bJ,aC,au,aQ,aN,av,.be c' (.dz kb)⟩,M'):=by unfold da;rw[hr];dsimp only;rw[h2];simp
   rw[e];intro A F hw hS;refine aO kah λ_=>?_;dsimp only[aa,ah]at hS;obtain⟨x0,hS⟩:=bq.open hS .z;(unhygienic cases x0);dsimp only[de,jo,dw,ft,bM.dZ,aa,ah]at hS;have hq:=gL hS hw;revert hq hS hw;clear hS;refine Wu (J7 (Tg.mk (n:=10) @fK) (od vm) (od vg) (od u9) (od u7) (dT m) (⟨⟩:Ts (λA'=>A'.bk b=qf (qm [pv fe,pv fA,dL,bI,cx,rC bQ bV,pv m,qh qg c.bR,fY,kN aQ dF,jy aN dB,cH,cF,br,dN,qh qg cf.bm,qh qg cf.au,qh qg cf.base,qh qg cf.c0,qh qg cf.c1,qh qg cf.c2,qh qg cf.c3,qh qg cf.reads,qh qg cf.b8,qh qg cf.ao,qh qg cf.aB,qh qg cf.aC,qt cf.aZ,qh qg af,qh qg aG,qh qg aD,qh qg 3,dQ,.func (.func 231) #[] #[pv c0,pv c1],qh qg c.cr,qh qr value,cG,qh qr aC,qt am,qh qg av] qj 1)) [0,0,0,0,0,0,3,0,0,0,0,1,0,2,3,0] (.aM 0 (.aM 1 (.aM 2 (.aM 3 (.aM 4 (.aM 5 (.aM 7 (.aM 8 (.aM 9 (.aM 10 (.aM 11 (.aM 12 (.wm 6 (.aM 13 (.aM 14 (.aM 15 .nil))) 13 (.aM 6 (.aM 14 (.aM 15 .nil)))))))))))))))))) (J6 h2 CA jt bL @bx.eq_1 @bj.v.eq_1) (J2 ?_ ?_)<;>(unhygienic intros)
   all_goals(have h:c'.bR=c.bR+1/\c'.cr=c.cr:=⟨y7 h3,yR⟩)
   all_goals(
    refine⟨_,by simp[AW.ab];rfl,by simp[bj.v],?_⟩;apply bq.bZ
    (·exact sA)
    exact fP
    (·exact pP)
    all_goals(first|exact 0|exact qE))
 cases h4:c'.iO
 . by_cases h5:c.cr<cf.bm
   . by_cases h6:c.cr∈reads
     . have h7:(if c.cr<cf.bm/\¬c.cr∈reads then (⟨cf,af,aG,aD,value,bQ,am,reads++[c.cr],ao,aB,set,bJ,aC,au,aQ,aN,av,.be c' (.dz kb)⟩:aJ) else ⟨cf,af,aG,aD,value,bQ,am,reads,ao,aB,set,bJ,aC,au,aQ,aN,av,.be c' (.dz kb)⟩)=⟨cf,af,aG,aD,value,bQ,am,reads,ao,aB,set,bJ,aC,au,aQ,aN,av,.be c' (.dz kb)⟩:=ar (λh=>h.2 h6);obtain⟨q,l2,wV⟩:∃q l2,eT cf.reads.toNat set c.gz=(q,l2):=⟨_,_,rfl⟩;have je:=λn=>oF n cf.reads.toNat set (fU cf c.cr) jM vB;rw[<-vV,wV]at je;dsimp only at je;have SZ:U l2<=cf.reads.toNat:=by exact XN
       have Ga:q=qn->l2=set:=by intro DT;exact XI
       cases q
       . have hl2s:=Ga rfl;subst l2;have e:da ⟨cf,af,aG,aD,value,bQ,am,reads,ao,aB,set,bJ,aC,au,aQ,aN,av,.be c (.dz kb)⟩ M c (.dz kb)=(x,5+c.bR,kM ⟨cf,af,aG,aD,value,bQ,am,reads,ao,aB,set,bJ,aC,au,aQ,aN,av,.be c' (.dz kb)⟩ 3,M'):=by exact XQ
         rw[e];intro A F hw hS;refine aO kah λ_=>?_;dsimp only[aa,ah]at hS;obtain⟨x0,hS⟩:=bq.open hS .z;(unhygienic cases x0);dsimp only[de,jo,dw,ft,bM.dZ,aa,ah]at hS;have hq:=gL hS hw;rw[vV]at je;revert hq hS hw;(repeat clear hS);refine Wu (Ay (Tg.mk (n:=10) @fK) (Tg.mk (n:=10) @eF) (Tg.mk (n:=14) @iu) (Tg.mk (n:=20) (kg b ⟨cf,af,aG,aD,value,bQ,am,reads,ao,aB,set,bJ,aC,au,aQ,aN,av,.be c' (.dz kb)⟩ 3 3 .bC hC.cf hC.al hC.push (Z4 hC.oQ Yd))) (od vm) (od vg) (od u9) (od u7) @nq (dT m) (je fe) (⟨⟩:Ts (λA'=>A'.bk b=qf (qm [pv fe,pv fA,dL,bI,cx,rC bQ bV,pv m,qh qg c.bR,fY,kN aQ dF,jy aN dB,cH,cF,br,dN,qh qg cf.bm,qh qg cf.au,qh qg cf.base,qh qg cf.c0,qh qg cf.c1,qh qg cf.c2,qh qg cf.c3,qh qg cf.reads,qh qg cf.b8,qh qg cf.ao,qh qg cf.aB,qh qg cf.aC,qt cf.aZ,qh qg af,qh qg aG,qh qg aD,qh qg 3,dQ,.func (.func 231) #[] #[pv c0,pv c1],qh qg c.cr,qh qr value,cG,qh qr aC,qt am,qh qg av] qj 1)) [0,0,0,0,0,0,3,0,0,0,0,1,0,2,3,0] (.aM 0 (.aM 1 (.aM 2 (.aM 3 (.aM 4 (.aM 5 (.aM 7 (.aM 8 (.aM 9 (.aM 10 (.aM 11 (.aM 12 (.wm 6 (.aM 13 (.aM 14 (.aM 15 .nil))) 13 (.aM 6 (.aM 14 (.aM 15 .nil)))))))))))))))))) (J9 h2 h4 h5 h6 CA jt bL @bx.eq_1 @bj.v.eq_1) (J2 ?_ ?_)<;>(unhygienic intros)
         all_goals(
          refine⟨_,by simp[AW.ab];rfl,by simp[bj.v],?_⟩;apply aj.bZ
          (·exact sA)
          (·exact pP))
       have e:da ⟨cf,af,aG,aD,value,bQ,am,reads,ao,aB,set,bJ,aC,au,aQ,aN,av,.be c (.dz kb)⟩ M c (.dz kb)=(x,5+c.bR,Bi ⟨cf,af,aG,aD,value,bQ,am,reads,ao,aB,l2,bJ,aC,au,aQ,aN,av,.bC⟩ c'.val (.dz kb),M'):=by exact XQ
       rw[e];intro A F hw hS;refine aO kah λ_=>?_;dsimp only[aa,ah]at hS;obtain⟨x0,hS⟩:=bq.open hS .z;(unhygienic cases x0);dsimp only[de,jo,dw,ft,bM.dZ,aa,ah]at hS;have hq:=gL hS hw;rw[vV]at je;revert hq hS hw;(repeat clear hS);refine Wu (oP (Tg.mk (n:=10) @fK) (Tg.mk (n:=10) @eF) (Tg.mk (n:=14) @iu) (Tg.mk (n:=10) @lT) (Tg.mk (n:=21) (vK b c0 c1 ⟨cf,af,aG,aD,value,bQ,am,reads,ao,aB,l2,bJ,aC,au,aQ,aN,av,.bC⟩ kb c'.val rfl (hCX (reads) l2 Ya SZ) hkb)) (od vm) (od vg) (od u9) (od u7) @nq (dT m) (je fe) (⟨⟩:Ts (λA'=>A'.bk b=qf (qm [pv fe,pv fA,dL,bI,cx,rC bQ bV,pv m,qh qg c.bR,fY,kN aQ dF,jy aN dB,cH,cF,br,dN,qh qg cf.bm,qh qg cf.au,qh qg cf.base,qh qg cf.c0,qh qg cf.c1,qh qg cf.c2,qh qg cf.c3,qh qg cf.reads,qh qg cf.b8,qh qg cf.ao,qh qg cf.aB,qh qg cf.aC,qt cf.aZ,qh qg af,qh qg aG,qh qg aD,qh qg 3,dQ,.func (.func 231) #[] #[pv c0,pv c1],qh qg c.cr,qh qr value,cG,qh qr aC,qt am,qh qg av] qj 1)) [0,0,0,0,0,0,3,0,0,0,0,1,0,2,3,0] (.aM 0 (.aM 1 (.aM 2 (.aM 3 (.aM 4 (.aM 5 (.aM 7 (.aM 8 (.aM 9 (.aM 10 (.aM 11 (.aM 12 (.wm 6 (.aM 13 (.aM 14 (.aM 15 .nil))) 13 (.aM 6 (.aM 14 (.aM 15 .nil)))))))))))))))))) (J9 h2 h4 h5 h6 CA jt bL @bx.eq_1 @bj.v.eq_1) (J2 ?_ ?_)<;>(unhygienic intros)
       all_goals(
        refine⟨_,by simp[AW.ab];rfl,by simp[bj.v],?_⟩;apply aj.bZ
        (·exact sA)
        (·exact pP))
     have h7:(if c.cr<cf.bm/\¬c.cr∈reads then (⟨cf,af,aG,aD,value,bQ,am,reads++[c.cr],ao,aB,set,bJ,aC,au,aQ,aN,av,.be c' (.dz kb)⟩:aJ) else ⟨cf,af,aG,aD,value,bQ,am,reads,ao,aB,set,bJ,aC,au,aQ,aN,av,.be c' (.dz kb)⟩)=⟨cf,af,aG,aD,value,bQ,am,reads++[c.cr],ao,aB,set,bJ,aC,au,aQ,aN,av,.be c' (.dz kb)⟩:=az ⟨h5,h6⟩;obtain⟨q,l2,wV⟩:∃q l2,eT cf.reads.toNat set c.gz=(q,l2):=⟨_,_,rfl⟩;have je:=λn=>oF n cf.reads.toNat set (fU cf c.cr) jM vB;rw[<-vV,wV]at je;dsimp only at je;have SZ:U l2<=cf.reads.toNat:=by exact XN
     have Ga:q=qn->l2=set:=by intro DT;exact XI
     cases q
     . have hl2s:=Ga rfl;subst l2;have e:da ⟨cf,af,aG,aD,value,bQ,am,reads,ao,aB,set,bJ,aC,au,aQ,aN,av,.be c (.dz kb)⟩ M c (.dz kb)=(x,5+c.bR,kM ⟨cf,af,aG,aD,value,bQ,am,reads++[c.cr],ao,aB,set,bJ,aC,au,aQ,aN,av,.be c' (.dz kb)⟩ 3,M'):=by exact XQ
       rw[e];intro A F hw hS;refine aO kah λ_=>?_;dsimp only[aa,ah]at hS;obtain⟨x0,hS⟩:=bq.open hS .z;(unhygienic cases x0);dsimp only[de,jo,dw,ft,bM.dZ,aa,ah]at hS;have hq:=gL hS hw;rw[vV]at je;revert hq hS hw;(repeat clear hS);refine Wu (Ay (Tg.mk (n:=10) @fK) (Tg.mk (n:=10) @eF) (Tg.mk (n:=14) @iu) (Tg.mk (n:=20) (kg b ⟨cf,af,aG,aD,value,bQ,am,reads++[c.cr],ao,aB,set,bJ,aC,au,aQ,aN,av,.be c' (.dz kb)⟩ 3 3 .bC hC.cf hC.al hC.push (Z4 hC.oQ Yd))) (od vm) (od vg) (od u9) (od u7) @nq (dT m) (je fe) (⟨⟩:Ts (λA'=>A'.bk b=qf (qm [pv fe,pv fA,dL,bI,cx,rC bQ bV,pv m,qh qg c.bR,fY,kN aQ dF,jy aN dB,cH,cF,br,dN,qh qg cf.bm,qh qg cf.au,qh qg cf.base,qh qg cf.c0,qh qg cf.c1,qh qg cf.c2,qh qg cf.c3,qh qg cf.reads,qh qg cf.b8,qh qg cf.ao,qh qg cf.aB,qh qg cf.aC,qt cf.aZ,qh qg af,qh qg aG,qh qg aD,qh qg 3,dQ,.func (.func 231) #[] #[pv c0,pv c1],qh qg c.cr,qh qr value,cG,qh qr aC,qt am,qh qg av] qj 1)) [0,0,0,0,0,0,3,0,0,0,0,1,0,2,3,0] (.aM 0 (.aM 1 (.aM 2 (.aM 3 (.aM 4 (.aM 5 (.aM 7 (.aM 8 (.aM 9 (.aM 10 (.aM 11 (.aM 12 (.wm 6 (.aM 13 (.aM 14 (.aM 15 .nil))) 13 (.aM 6 (.aM 14 (.aM 15 .nil)))))))))))))))))) (J9 h2 h4 h5 h6 CA jt bL @bx.eq_1 @bj.v.eq_1) (J2 ?_ ?_)<;>(unhygienic intros)
       all_goals(
        refine⟨_,by simp[AW.ab];rfl,by simp[bj.v],?_⟩;apply aj.bZ
        (·exact sA)
        (·exact pP))
     have e:da ⟨cf,af,aG,aD,value,bQ,am,reads,ao,aB,set,bJ,aC,au,aQ,aN,av,.be c (.dz kb)⟩ M c (.dz kb)=(x,5+c.bR,Bi ⟨cf,af,aG,aD,value,bQ,am,reads++[c.cr],ao,aB,l2,bJ,aC,au,aQ,aN,av,.bC⟩ c'.val (.dz kb),M'):=by exact XQ
     rw[e];intro A F hw hS;refine aO kah λ_=>?_;dsimp only[aa,ah]at hS;obtain⟨x0,hS⟩:=bq.open hS .z;(unhygienic cases x0);dsimp only[de,jo,dw,ft,bM.dZ,aa,ah]at hS;have hq:=gL hS hw;rw[vV]at je;revert hq hS hw;(repeat clear hS);refine Wu (oP (Tg.mk (n:=10) @fK) (Tg.mk (n:=10) @eF) (Tg.mk (n:=14) @iu) (Tg.mk (n:=10) @lT) (Tg.mk (n:=21) (vK b c0 c1 ⟨cf,af,aG,aD,value,bQ,am,reads++[c.cr],ao,aB,l2,bJ,aC,au,aQ,aN,av,.bC⟩ kb c'.val rfl (hCX (reads++[c.cr]) l2 Yj SZ) hkb)) (od vm) (od vg) (od u9) (od u7) @nq (dT m) (je fe) (⟨⟩:Ts (λA'=>A'.bk b=qf (qm [pv fe,pv fA,dL,bI,cx,rC bQ bV,pv m,qh qg c.bR,fY,kN aQ dF,jy aN dB,cH,cF,br,dN,qh qg cf.bm,qh qg cf.au,qh qg cf.base,qh qg cf.c0,qh qg cf.c1,qh qg cf.c2,qh qg cf.c3,qh qg cf.reads,qh qg cf.b8,qh qg cf.ao,qh qg cf.aB,qh qg cf.aC,qt cf.aZ,qh qg af,qh qg aG,qh qg aD,qh qg 3,dQ,.func (.func 231) #[] #[pv c0,pv c1],qh qg c.cr,qh qr value,cG,qh qr aC,qt am,qh qg av] qj 1)) [0,0,0,0,0,0,3,0,0,0,0,1,0,2,3,0] (.aM 0 (.aM 1 (.aM 2 (.aM 3 (.aM 4 (.aM 5 (.aM 7 (.aM 8 (.aM 9 (.aM 10 (.aM 11 (.aM 12 (.wm 6 (.aM 13 (.aM 14 (.aM 15 .nil))) 13 (.aM 6 (.aM 14 (.aM 15 .nil)))))))))))))))))) (J9 h2 h4 h5 h6 CA jt bL @bx.eq_1 @bj.v.eq_1) (J2 ?_ ?_)<;>(unhygienic intros)
     all_goals(
      refine⟨_,by simp[AW.ab];rfl,by simp[bj.v],?_⟩;apply aj.bZ
      (·exact sA)
      (·exact pP))
   have h6:True:=trivial;have h7:(if c.cr<cf.bm/\¬c.cr∈reads then (⟨cf,af,aG,aD,value,bQ,am,reads++[c.cr],ao,aB,set,bJ,aC,au,aQ,aN,av,.be c' (.dz kb)⟩:aJ) else ⟨cf,af,aG,aD,value,bQ,am,reads,ao,aB,set,bJ,aC,au,aQ,aN,av,.be c' (.dz kb)⟩)=⟨cf,af,aG,aD,value,bQ,am,reads,ao,aB,set,bJ,aC,au,aQ,aN,av,.be c' (.dz kb)⟩:=ar (λh=>h5 h.1);obtain⟨q,l2,wV⟩:∃q l2,eT cf.reads.toNat set c.gz=(q,l2):=⟨_,_,rfl⟩;have je:=λn=>oF n cf.reads.toNat set (fU cf c.cr) jM vB;rw[<-vV,wV]at je;dsimp only at je;have SZ:U l2<=cf.reads.toNat:=by exact XN
   have Ga:q=qn->l2=set:=by intro DT;exact XI
   cases q
   . have hl2s:=Ga rfl;subst l2;have e:da ⟨cf,af,aG,aD,value,bQ,am,reads,ao,aB,set,bJ,aC,au,aQ,aN,av,.be c (.dz kb)⟩ M c (.dz kb)=(x,5+c.bR,kM ⟨cf,af,aG,aD,value,bQ,am,reads,ao,aB,set,bJ,aC,au,aQ,aN,av,.be c' (.dz kb)⟩ 3,M'):=by exact XQ
     rw[e];intro A F hw hS;refine aO kah λ_=>?_;dsimp only[aa,ah]at hS;obtain⟨x0,hS⟩:=bq.open hS .z;(unhygienic cases x0);dsimp only[de,jo,dw,ft,bM.dZ,aa,ah]at hS;have hq:=gL hS hw;rw[vV]at je;revert hq hS hw;(repeat clear hS);refine Wu (Ay (Tg.mk (n:=10) @fK) (Tg.mk (n:=10) @eF) (Tg.mk (n:=14) @iu) (Tg.mk (n:=20) (kg b ⟨cf,af,aG,aD,value,bQ,am,reads,ao,aB,set,bJ,aC,au,aQ,aN,av,.be c' (.dz kb)⟩ 3 3 .bC hC.cf hC.al hC.push (Z4 hC.oQ Yd))) (od vm) (od vg) (od u9) (od u7) @nq (dT m) (je fe) (⟨⟩:Ts (λA'=>A'.bk b=qf (qm [pv fe,pv fA,dL,bI,cx,rC bQ bV,pv m,qh qg c.bR,fY,kN aQ dF,jy aN dB,cH,cF,br,dN,qh qg cf.bm,qh qg cf.au,qh qg cf.base,qh qg cf.c0,qh qg cf.c1,qh qg cf.c2,qh qg cf.c3,qh qg cf.reads,qh qg cf.b8,qh qg cf.ao,qh qg cf.aB,qh qg cf.aC,qt cf.aZ,qh qg af,qh qg aG,qh qg aD,qh qg 3,dQ,.func (.func 231) #[] #[pv c0,pv c1],qh qg c.cr,qh qr value,cG,qh qr aC,qt am,qh qg av] qj 1)) [0,0,0,0,0,0,3,0,0,0,0,1,0,2,3,0] (.aM 0 (.aM 1 (.aM 2 (.aM 3 (.aM 4 (.aM 5 (.aM 7 (.aM 8 (.aM 9 (.aM 10 (.aM 11 (.aM 12 (.wm 6 (.aM 13 (.aM 14 (.aM 15 .nil))) 13 (.aM 6 (.aM 14 (.aM 15 .nil)))))))))))))))))) (J9 h2 h4 h5 h6 CA jt bL @bx.eq_1 @bj.v.eq_1) (J2 ?_ ?_)<;>(unhygienic intros)
     all_goals(
      refine⟨_,by simp[AW.ab];rfl,by simp[bj.v],?_⟩;apply aj.bZ
      (·exact sA)
      (·exact pP))
   have e:da ⟨cf,af,aG,aD,value,bQ,am,reads,ao,aB,set,bJ,aC,au,aQ,aN,av,.be c (.dz kb)⟩ M c (.dz kb)=(x,5+c.bR,Bi ⟨cf,af,aG,aD,value,bQ,am,reads,ao,aB,l2,bJ,aC,au,aQ,aN,av,.bC⟩ c'.val (.dz kb),M'):=by exact XQ
   rw[e];intro A F hw hS;refine aO kah λ_=>?_;dsimp only[aa,ah]at hS;obtain⟨x0,hS⟩:=bq.open hS .z;(unhygienic cases x0);dsimp only[de,jo,dw,ft,bM.dZ,aa,ah]at hS;have hq:=gL hS hw;rw[vV]at je;revert hq hS hw;(repeat clear hS);refine Wu (oP (Tg.mk (n:=10) @fK) (Tg.mk (n:=10) @eF) (Tg.mk (n:=14) @iu) (Tg.mk (n:=10) @lT) (Tg.mk (n:=21) (vK b c0 c1 ⟨cf,af,aG,aD,value,bQ,am,reads,ao,aB,l2,bJ,aC,au,aQ,aN,av,.bC⟩ kb c'.val rfl (hCX (reads) l2 Ya SZ) hkb)) (od vm) (od vg) (od u9) (od u7) @nq (dT m) (je fe) (⟨⟩:Ts (λA'=>A'.bk b=qf (qm [pv fe,pv fA,dL,bI,cx,rC bQ bV,pv m,qh qg c.bR,fY,kN aQ dF,jy aN dB,cH,cF,br,dN,qh qg cf.bm,qh qg cf.au,qh qg cf.base,qh qg cf.c0,qh qg cf.c1,qh qg cf.c2,qh qg cf.c3,qh qg cf.reads,qh qg cf.b8,qh qg cf.ao,qh qg cf.aB,qh qg cf.aC,qt cf.aZ,qh qg af,qh qg aG,qh qg aD,qh qg 3,dQ,.func (.func 231) #[] #[pv c0,pv c1],qh qg c.cr,qh qr value,cG,qh qr aC,qt am,qh qg av] qj 1)) [0,0,0,0,0,0,3,0,0,0,0,1,0,2,3,0] (.aM 0 (.aM 1 (.aM 2 (.aM 3 (.aM 4 (.aM 5 (.aM 7 (.aM 8 (.aM 9 (.aM 10 (.aM 11 (.aM 12 (.wm 6 (.aM 13 (.aM 14 (.aM 15 .nil))) 13 (.aM 6 (.aM 14 (.aM 15 .nil)))))))))))))))))) (J9 h2 h4 h5 h6 CA jt bL @bx.eq_1 @bj.v.eq_1) (J2 ?_ ?_)<;>(unhygienic intros)
   all_goals(
    refine⟨_,by simp[AW.ab];rfl,by simp[bj.v],?_⟩;apply aj.bZ
    (·exact sA)
    (·exact pP))
 have e:da ⟨cf,af,aG,aD,value,bQ,am,reads,ao,aB,set,bJ,aC,au,aQ,aN,av,.be c (.dz kb)⟩ M c (.dz kb)=(x,5+c.bR,kM ⟨cf,af,aG,aD,value,bQ,am,reads,ao,aB,set,bJ,aC,au,aQ,aN,av,.be c' (.dz kb)⟩ 9,M'):=by unfold da;rw[hr];dsimp only;rw[h2,h4];simp
 rw[e];intro A F hw hS;refine aO kah λ_=>?_;dsimp only[aa,ah]at hS;obtain⟨x0,hS⟩:=bq.open hS .z;(unhygienic cases x0);dsimp only[de,jo,dw,ft,bM.dZ,aa,ah]at hS;have hq:=gL hS hw;revert hq hS hw;(repeat clear hS);refine Wu (J9 (Tg.mk (n:=10) @fK) (Tg.mk (n:=10) @eF) (Tg.mk (n:=20) (kg b ⟨cf,af,aG,aD,value,bQ,am,reads,ao,aB,set,bJ,aC,au,aQ,aN,av,.be c' (.dz kb)⟩ 3 9 .bC hC.cf hC.al hC.push (Z4 hC.oQ Yd))) (od vm) (od vg) (od u9) (od u7) (dT m) (⟨⟩:Ts (λA'=>A'.bk b=qf (qm [pv fe,pv fA,dL,bI,cx,rC bQ bV,pv m,qh qg c.bR,fY,kN aQ dF,jy aN dB,cH,cF,br,dN,qh qg cf.bm,qh qg cf.au,qh qg cf.base,qh qg cf.c0,qh qg cf.c1,qh qg cf.c2,qh qg cf.c3,qh qg cf.reads,qh qg cf.b8,qh qg cf.ao,qh qg cf.aB,qh qg cf.aC,qt cf.aZ,qh qg af,qh qg aG,qh qg aD,qh qg 3,dQ,.func (.func 231) #[] #[pv c0,pv c1],qh qg c.cr,qh qr value,cG,qh qr aC,qt am,qh qg av] qj 1)) [0,0,0,0,0,0,3,0,0,0,0,1,0,2,3,0] (.aM 0 (.aM 1 (.aM 2 (.aM 3 (.aM 4 (.aM 5 (.aM 7 (.aM 8 (.aM 9 (.aM 10 (.aM 11 (.aM 12 (.wm 6 (.aM 13 (.aM 14 (.aM 15 .nil))) 13 (.aM 6 (.aM 14 (.aM 15 .nil)))))))))))))))))) (J7 h2 h4 CA jt bL @bx.eq_1 @bj.v.eq_1) (J2 ?_ ?_)<;>(unhygienic intros)
 all_goals(
  refine⟨_,by simp[AW.ab];rfl,by simp[bj.v],?_⟩;apply aj.bZ
  (·exact sA)
  (·exact pP))
end
section
open T17 T13
variable [Gl]
def OrOk (s:aJ):Prop:=U s.au<2^20/\(U s.au=0\/∃l,s.aQ=qf l/\U s.au=U l.eD)
def LocOk (s:aJ):Fx->Prop
 | .mA a _=>0<=a
 | .dz k _=>0<=k/\k<s.cf.nb
 |_=>True
def UseOk (s:aJ):sT->Prop
 | .take=>True
 | .dz k=>0<=k/\k<s.cf.nb
def DoOk (s:aJ)(M:Mm):bM->Prop
 | .iY k=>LocOk s k
 | .dA=>∃e,s.bQ=qf e
 | .be c u=>U s.reads+1<2^20/\(0<=c.bR/\c.bR<=2)/\c.gz=fU s.cf c.cr/\UseOk s u
 | .eO p=>U s.ao<8/\(0<=p.fa/\p.fa<=3)/\(gB p M).2.1.block<s.cf.nb
 | .ef=>∃l,s.aQ=qf l/\U l.eD<=U l.au/\U l.au<2^38
 | .c8=>∃t,s.aN=qf t
 | .cK _=>OrOk s
 | .bN=>OrOk s
 | .dy w=>U w.os=U w.ws/\U s.au<2^20
 | .bG w=>U w.os=U w.ws
 | .ey=>∃t,s.aN=qf t
 | .eG _=>s.av<U s.ao
 |_=>True
structure Ow (s:aJ) (M:Mm):Prop where
 c:iF s
 d:DoOk s M s.aH
def gN (b pb:Nat)(s:aJ)(M:Mm):Prop:=
 bz qZ 69 [pv b,pv pb] [.h (bq b s),eA pb M] (λv=>v=qF #[(aY s M).1.v,qh qg (aY s M).2.1])
  (λ_=>[.h (bq b (aY s M).2.2.1),eA pb (aY s M).2.2.2])
def Kw (b pb:Nat)(s:aJ)(en:ig)(M:Mm)(hd:s.aH=.dA)(he:s.bQ=qf en):gN b pb s M:=by
 (unhygienic cases s);dsimp only at hd;subst hd;dsimp only at he;subst he;obtain⟨x,ph,s',M',hr⟩:∃x ph s' M',go ⟨cf,af,aG,aD,value,qf en,am,reads,ao,aB,set,bJ,aC,au,aQ,aN,av,.dA⟩ M en=(x,ph,s',M'):=⟨_,_,_,_,rfl⟩;have jX:=HN b pb ⟨cf,af,aG,aD,value,qf en,am,reads,ao,aB,set,bJ,aC,au,aQ,aN,av,.dA⟩ en M rfl rfl;rw[hr]at jX;unfold gN;rw[show aY ⟨cf,af,aG,aD,value,qf en,am,reads,ao,aB,set,bJ,aC,au,aQ,aN,av,.dA⟩ M=go ⟨cf,af,aG,aD,value,qf en,am,reads,ao,aB,set,bJ,aC,au,aQ,aN,av,.dA⟩ M en from rfl,hr];intro A F hw hS;refine aO ZS λ_=>?_;dsimp only[aa,ah]at hS;obtain⟨x0,hS⟩:=bq.open hS .z;(unhygienic cases x0);dsimp only[de,jo,dw,ft,bM.dZ,aa,ah]at hS;have hq:=gL hS hw;revert hq hS hw;clear hS;refine Wp (J1 (Tg.mk (n:=21) @jX)) (J3 bL @bx.eq_1 @bj.v.eq_1) ?_<;>(unhygienic intros)
 all_goals(
  refine⟨_,by simp[AW.ab];rfl,by simp[bj.v],?_⟩;apply aj.bZ
  (·exact sA)
  (·exact pP))
def RQ (b pb:Nat)(s:aJ)(c:hY)(M:Mm)(hd:s.aH=.be c .take)(hC:iF s)(h1:U s.reads+1<2^20)(h2:0<=c.bR/\c.bR<=2)(h3:c.gz=fU s.cf c.cr):gN b pb s M:=by
 (unhygienic cases s);dsimp only at hd;subst hd;obtain⟨x,ph,s',M',hr⟩:∃x ph s' M',da ⟨cf,af,aG,aD,value,bQ,am,reads,ao,aB,set,bJ,aC,au,aQ,aN,av,.be c .take⟩ M c .take=(x,ph,s',M'):=⟨_,_,_,_,rfl⟩;have jX:=HL b pb ⟨cf,af,aG,aD,value,bQ,am,reads,ao,aB,set,bJ,aC,au,aQ,aN,av,.be c .take⟩ c M rfl hC h1 h2 h3;rw[hr]at jX;unfold gN;rw[show aY ⟨cf,af,aG,aD,value,bQ,am,reads,ao,aB,set,bJ,aC,au,aQ,aN,av,.be c .take⟩ M=da ⟨cf,af,aG,aD,value,bQ,am,reads,ao,aB,set,bJ,aC,au,aQ,aN,av,.be c .take⟩ M c .take from rfl,hr];intro A F hw hS;refine aO ZS λ_=>?_;dsimp only[aa,ah]at hS;obtain⟨x0,hS⟩:=bq.open hS .z;(unhygienic cases x0);dsimp only[de,jo,dw,ft,bM.dZ,aa,ah]at hS;have hq:=gL hS hw;revert hq hS hw;clear hS;refine Wp (J1 (Tg.mk (n:=21) @jX)) (J3 bL @bx.eq_1 @bj.v.eq_1) ?_<;>(unhygienic intros)
 all_goals(
  refine⟨_,by simp[AW.ab];rfl,by simp[bj.v],?_⟩;apply aj.bZ
  (·exact sA)
  (·exact pP))
def RS (b pb:Nat)(s:aJ)(c:hY)(kb:Int)(M:Mm)(hd:s.aH=.be c (.dz kb))(hC:iF s)(h1:U s.reads+1<2^20)(h2:0<=c.bR/\c.bR<=2)(h3:c.gz=fU s.cf c.cr)(h4:0<=kb/\kb<s.cf.nb):gN b pb s M:=by
 (unhygienic cases s);dsimp only at hd;subst hd;obtain⟨x,ph,s',M',hr⟩:∃x ph s' M',da ⟨cf,af,aG,aD,value,bQ,am,reads,ao,aB,set,bJ,aC,au,aQ,aN,av,.be c (.dz kb)⟩ M c (.dz kb)=(x,ph,s',M'):=⟨_,_,_,_,rfl⟩;have jX:=HM b pb ⟨cf,af,aG,aD,value,bQ,am,reads,ao,aB,set,bJ,aC,au,aQ,aN,av,.be c (.dz kb)⟩ c kb M rfl hC h1 h2 h3 h4;rw[hr]at jX;unfold gN;rw[show aY ⟨cf,af,aG,aD,value,bQ,am,reads,ao,aB,set,bJ,aC,au,aQ,aN,av,.be c (.dz kb)⟩ M=da ⟨cf,af,aG,aD,value,bQ,am,reads,ao,aB,set,bJ,aC,au,aQ,aN,av,.be c (.dz kb)⟩ M c (.dz kb) from rfl,hr];intro A F hw hS;refine aO ZS λ_=>?_;dsimp only[aa,ah]at hS;obtain⟨x0,hS⟩:=bq.open hS .z;(unhygienic cases x0);dsimp only[de,jo,dw,ft,bM.dZ,aa,ah]at hS;have hq:=gL hS hw;revert hq hS hw;clear hS;refine Wp (J1 (Tg.mk (n:=21) @jX)) (J3 bL @bx.eq_1 @bj.v.eq_1) ?_<;>(unhygienic intros)
 all_goals(
  refine⟨_,by simp[AW.ab];rfl,by simp[bj.v],?_⟩;apply aj.bZ
  (·exact sA)
  (·exact pP))
def MM (b pb:Nat)(s:aJ)(p:sU)(M:Mm)(hd:s.aH=.eO p)(hC:iF s)(h1:U s.ao<8)(h2:0<=p.fa/\p.fa<=3)(h3:(gB p M).2.1.block<s.cf.nb):gN b pb s M:=by
 (unhygienic cases s);dsimp only at hd;subst hd;obtain⟨x,ph,s',M',hr⟩:∃x ph s' M',lx ⟨cf,af,aG,aD,value,bQ,am,reads,ao,aB,set,bJ,aC,au,aQ,aN,av,.eO p⟩ M p=(x,ph,s',M'):=⟨_,_,_,_,rfl⟩;have jX:=MT b pb ⟨cf,af,aG,aD,value,bQ,am,reads,ao,aB,set,bJ,aC,au,aQ,aN,av,.eO p⟩ p M rfl hC h1 h2 h3 (Pp p M);rw[hr]at jX;unfold gN;rw[show aY ⟨cf,af,aG,aD,value,bQ,am,reads,ao,aB,set,bJ,aC,au,aQ,aN,av,.eO p⟩ M=lx ⟨cf,af,aG,aD,value,bQ,am,reads,ao,aB,set,bJ,aC,au,aQ,aN,av,.eO p⟩ M p from rfl,hr];intro A F hw hS;refine aO ZS λ_=>?_;dsimp only[aa,ah]at hS;obtain⟨x0,hS⟩:=bq.open hS .z;(unhygienic cases x0);dsimp only[de,jo,dw,ft,bM.dZ,aa,ah]at hS;have hq:=gL hS hw;revert hq hS hw;clear hS;refine Wp (J1 (Tg.mk (n:=21) @jX)) (J3 bL @bx.eq_1 @bj.v.eq_1) ?_<;>(unhygienic intros)
 all_goals(
  refine⟨_,by simp[AW.ab];rfl,by simp[bj.v],?_⟩;apply aj.bZ
  (·exact sA)
  (·exact pP))
def MO (b pb:Nat)(s:aJ)(l:iR)(M:Mm)(hd:s.aH=.ef)(he:s.aQ=qf l)(h1:U l.eD<=U l.au)(h2:U l.au<2^38):gN b pb s M:=by
 (unhygienic cases s);dsimp only at hd;subst hd;dsimp only at he;subst he;obtain⟨x,ph,s',M',hr⟩:∃x ph s' M',ip ⟨cf,af,aG,aD,value,bQ,am,reads,ao,aB,set,bJ,aC,au,qf l,aN,av,.ef⟩ M l=(x,ph,s',M'):=⟨_,_,_,_,rfl⟩;have jX:=KB b pb ⟨cf,af,aG,aD,value,bQ,am,reads,ao,aB,set,bJ,aC,au,qf l,aN,av,.ef⟩ l M rfl rfl h1 h2;rw[hr]at jX;unfold gN;rw[show aY ⟨cf,af,aG,aD,value,bQ,am,reads,ao,aB,set,bJ,aC,au,qf l,aN,av,.ef⟩ M=ip ⟨cf,af,aG,aD,value,bQ,am,reads,ao,aB,set,bJ,aC,au,qf l,aN,av,.ef⟩ M l from rfl,hr];intro A F hw hS;refine aO ZS λ_=>?_;dsimp only[aa,ah]at hS;obtain⟨x0,hS⟩:=bq.open hS .z;(unhygienic cases x0);dsimp only[de,jo,dw,ft,bM.dZ,aa,ah]at hS;have hq:=gL hS hw;revert hq hS hw;clear hS;refine Wp (J1 (Tg.mk (n:=21) @jX)) (J3 bL @bx.eq_1 @bj.v.eq_1) ?_<;>(unhygienic intros)
 all_goals(
  refine⟨_,by simp[AW.ab];rfl,by simp[bj.v],?_⟩;apply aj.bZ
  (·exact sA)
  (·exact pP))
def MK (b pb:Nat)(s:aJ)(t:jk)(M:Mm)(hd:s.aH=.c8)(he:s.aN=qf t)(h1:U s.set<2^38):gN b pb s M:=by
 (unhygienic cases s);dsimp only at hd;subst hd;dsimp only at he;subst he;obtain⟨x,ph,s',M',hr⟩:∃x ph s' M',ia ⟨cf,af,aG,aD,value,bQ,am,reads,ao,aB,set,bJ,aC,au,aQ,qf t,av,.c8⟩ M t=(x,ph,s',M'):=⟨_,_,_,_,rfl⟩;have jX:=Kz b pb ⟨cf,af,aG,aD,value,bQ,am,reads,ao,aB,set,bJ,aC,au,aQ,qf t,av,.c8⟩ t M rfl rfl h1;rw[hr]at jX;unfold gN;rw[show aY ⟨cf,af,aG,aD,value,bQ,am,reads,ao,aB,set,bJ,aC,au,aQ,qf t,av,.c8⟩ M=ia ⟨cf,af,aG,aD,value,bQ,am,reads,ao,aB,set,bJ,aC,au,aQ,qf t,av,.c8⟩ M t from rfl,hr];intro A F hw hS;refine aO ZS λ_=>?_;dsimp only[aa,ah]at hS;obtain⟨x0,hS⟩:=bq.open hS .z;(unhygienic cases x0);dsimp only[de,jo,dw,ft,bM.dZ,aa,ah]at hS;have hq:=gL hS hw;revert hq hS hw;clear hS;refine Wp (J1 (Tg.mk (n:=21) @jX)) (J3 bL @bx.eq_1 @bj.v.eq_1) ?_<;>(unhygienic intros)
 all_goals(
  refine⟨_,by simp[AW.ab];rfl,by simp[bj.v],?_⟩;apply aj.bZ
  (·exact sA)
  (·exact pP))
def Ky (b pb:Nat)(s:aJ)(c:i8)(M:Mm)(hd:s.aH=.cK c)(h1:OrOk s):gN b pb s M:=by
 (unhygienic cases s);dsimp only at hd;subst hd;obtain⟨x,ph,s',M',hr⟩:∃x ph s' M',gu ⟨cf,af,aG,aD,value,bQ,am,reads,ao,aB,set,bJ,aC,au,aQ,aN,av,.cK c⟩ M c=(x,ph,s',M'):=⟨_,_,_,_,rfl⟩;have jX:=HO b pb ⟨cf,af,aG,aD,value,bQ,am,reads,ao,aB,set,bJ,aC,au,aQ,aN,av,.cK c⟩ c M rfl h1.1 h1.2;rw[hr]at jX;unfold gN;rw[show aY ⟨cf,af,aG,aD,value,bQ,am,reads,ao,aB,set,bJ,aC,au,aQ,aN,av,.cK c⟩ M=gu ⟨cf,af,aG,aD,value,bQ,am,reads,ao,aB,set,bJ,aC,au,aQ,aN,av,.cK c⟩ M c from rfl,hr];intro A F hw hS;refine aO ZS λ_=>?_;dsimp only[aa,ah]at hS;obtain⟨x0,hS⟩:=bq.open hS .z;(unhygienic cases x0);dsimp only[de,jo,dw,ft,bM.dZ,aa,ah]at hS;have hq:=gL hS hw;revert hq hS hw;clear hS;refine Wp (J1 (Tg.mk (n:=21) @jX)) (J3 bL @bx.eq_1 @bj.v.eq_1) ?_<;>(unhygienic intros)
 all_goals(
  refine⟨_,by simp[AW.ab];rfl,by simp[bj.v],?_⟩;apply aj.bZ
  (·exact sA)
  (·exact pP))
def Kx (b pb:Nat)(s:aJ)(M:Mm)(hd:s.aH=.bN)(hC:iF s)(h1:OrOk s):gN b pb s M:=by
 (unhygienic cases s);dsimp only at hd;subst hd;obtain⟨x,ph,s',M',hr⟩:∃x ph s' M',fo ⟨cf,af,aG,aD,value,bQ,am,reads,ao,aB,set,bJ,aC,au,aQ,aN,av,.bN⟩ M=(x,ph,s',M'):=⟨_,_,_,_,rfl⟩;have jX:=GE b pb ⟨cf,af,aG,aD,value,bQ,am,reads,ao,aB,set,bJ,aC,au,aQ,aN,av,.bN⟩ M rfl hC h1.1 h1.2;rw[hr]at jX;unfold gN;rw[show aY ⟨cf,af,aG,aD,value,bQ,am,reads,ao,aB,set,bJ,aC,au,aQ,aN,av,.bN⟩ M=fo ⟨cf,af,aG,aD,value,bQ,am,reads,ao,aB,set,bJ,aC,au,aQ,aN,av,.bN⟩ M from rfl,hr];intro A F hw hS;refine aO ZS λ_=>?_;dsimp only[aa,ah]at hS;obtain⟨x0,hS⟩:=bq.open hS .z;(unhygienic cases x0);dsimp only[de,jo,dw,ft,bM.dZ,aa,ah]at hS;have hq:=gL hS hw;revert hq hS hw;clear hS;refine Wp (J1 (Tg.mk (n:=21) @jX)) (J3 bL @bx.eq_1 @bj.v.eq_1) ?_<;>(unhygienic intros)
 all_goals(
  refine⟨_,by simp[AW.ab];rfl,by simp[bj.v],?_⟩;apply aj.bZ
  (·exact sA)
  (·exact pP))
def MJ (b pb:Nat)(s:aJ)(w:jS)(M:Mm)(hd:s.aH=.dy w)(h1:U w.os=U w.ws)(h2:U s.au<2^20):gN b pb s M:=by
 (unhygienic cases s);dsimp only at hd;subst hd;obtain⟨x,ph,s',M',hr⟩:∃x ph s' M',gF ⟨cf,af,aG,aD,value,bQ,am,reads,ao,aB,set,bJ,aC,au,aQ,aN,av,.dy w⟩ M w=(x,ph,s',M'):=⟨_,_,_,_,rfl⟩;have jX:=HK b pb ⟨cf,af,aG,aD,value,bQ,am,reads,ao,aB,set,bJ,aC,au,aQ,aN,av,.dy w⟩ w M rfl h1 h2;rw[hr]at jX;unfold gN;rw[show aY ⟨cf,af,aG,aD,value,bQ,am,reads,ao,aB,set,bJ,aC,au,aQ,aN,av,.dy w⟩ M=gF ⟨cf,af,aG,aD,value,bQ,am,reads,ao,aB,set,bJ,aC,au,aQ,aN,av,.dy w⟩ M w from rfl,hr];intro A F hw hS;refine aO ZS λ_=>?_;dsimp only[aa,ah]at hS;obtain⟨x0,hS⟩:=bq.open hS .z;(unhygienic cases x0);dsimp only[de,jo,dw,ft,bM.dZ,aa,ah]at hS;have hq:=gL hS hw;revert hq hS hw;clear hS;refine Wp (J1 (Tg.mk (n:=21) @jX)) (J3 bL @bx.eq_1 @bj.v.eq_1) ?_<;>(unhygienic intros)
 all_goals(
  refine⟨_,by simp[AW.ab];rfl,by simp[bj.v],?_⟩;apply aj.bZ
  (·exact sA)
  (·exact pP))
def HG (b pb:Nat)(s:aJ)(w:jS)(M:Mm)(hd:s.aH=.bG w)(h1:U w.os=U w.ws):gN b pb s M:=by
 (unhygienic cases s);dsimp only at hd;subst hd;obtain⟨x,ph,s',M',hr⟩:∃x ph s' M',nM ⟨cf,af,aG,aD,value,bQ,am,reads,ao,aB,set,bJ,aC,au,aQ,aN,av,.bG w⟩ M w=(x,ph,s',M'):=⟨_,_,_,_,rfl⟩;have jX:=EJ b pb ⟨cf,af,aG,aD,value,bQ,am,reads,ao,aB,set,bJ,aC,au,aQ,aN,av,.bG w⟩ w M rfl h1;rw[hr]at jX;unfold gN;rw[show aY ⟨cf,af,aG,aD,value,bQ,am,reads,ao,aB,set,bJ,aC,au,aQ,aN,av,.bG w⟩ M=nM ⟨cf,af,aG,aD,value,bQ,am,reads,ao,aB,set,bJ,aC,au,aQ,aN,av,.bG w⟩ M w from rfl,hr];intro A F hw hS;refine aO ZS λ_=>?_;dsimp only[aa,ah]at hS;obtain⟨x0,hS⟩:=bq.open hS .z;(unhygienic cases x0);dsimp only[de,jo,dw,ft,bM.dZ,aa,ah]at hS;have hq:=gL hS hw;revert hq hS hw;clear hS;refine Wp (J1 (Tg.mk (n:=21) @jX)) (J3 bL @bx.eq_1 @bj.v.eq_1) ?_<;>(unhygienic intros)
 all_goals(
  refine⟨_,by simp[AW.ab];rfl,by simp[bj.v],?_⟩;apply aj.bZ
  (·exact sA)
  (·exact pP))
def ML (b pb:Nat)(s:aJ)(p:gy)(M:Mm)(hd:s.aH=.eG p)(hC:iF s)(h1:s.av<U s.ao):gN b pb s M:=by
 (unhygienic cases s);dsimp only at hd;subst hd;obtain⟨x,ph,s',M',hr⟩:∃x ph s' M',iT ⟨cf,af,aG,aD,value,bQ,am,reads,ao,aB,set,bJ,aC,au,aQ,aN,av,.eG p⟩ M p=(x,ph,s',M'):=⟨_,_,_,_,rfl⟩;have jX:=KA b pb ⟨cf,af,aG,aD,value,bQ,am,reads,ao,aB,set,bJ,aC,au,aQ,aN,av,.eG p⟩ p M rfl hC h1;rw[hr]at jX;unfold gN;rw[show aY ⟨cf,af,aG,aD,value,bQ,am,reads,ao,aB,set,bJ,aC,au,aQ,aN,av,.eG p⟩ M=iT ⟨cf,af,aG,aD,value,bQ,am,reads,ao,aB,set,bJ,aC,au,aQ,aN,av,.eG p⟩ M p from rfl,hr];intro A F hw hS;refine aO ZS λ_=>?_;dsimp only[aa,ah]at hS;obtain⟨x0,hS⟩:=bq.open hS .z;(unhygienic cases x0);dsimp only[de,jo,dw,ft,bM.dZ,aa,ah]at hS;have hq:=gL hS hw;revert hq hS hw;clear hS;refine Wp (J1 (Tg.mk (n:=21) @jX)) (J3 bL @bx.eq_1 @bj.v.eq_1) ?_<;>(unhygienic intros)
 all_goals(
  refine⟨_,by simp[AW.ab];rfl,by simp[bj.v],?_⟩;apply aj.bZ
  (·exact sA)
  (·exact pP))
end
end Go.Stx
