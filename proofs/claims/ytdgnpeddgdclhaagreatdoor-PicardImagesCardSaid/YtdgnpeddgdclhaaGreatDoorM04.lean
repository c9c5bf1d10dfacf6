/- Lemmas that the last file uses. -/
import Derived.Test.YtdgnpeddgdclhaaGreatDoorM03
import Derived.DeepKeys
set_option linter.unusedSimpArgs false
set_option linter.unusedVariables false
set_option linter.defProp false
set_option maxHeartbeats 4000000
namespace Go.Proofs.YtdgnpeddgdclhaaGreatDoor
open Go.RowKit Fp Pu
def sP(z:Rat)(k:Nat):Rat:=nA z (2*k+1)/((2*k+1:Nat):Rat)
def AQ(z:Rat)(N:Nat):Rat:=iL (sP z) (N+1)
def nL(z:Iv)(p:Nat):Nat->Iv
 | 0=>z
 |k+1=>iN (nL z p k) (om z p) p
def ua(z:Iv)(p:Nat):Nat->Iv
 | 0=>z
 |k+1=>jj (ua z p k) (jS (nL z p (k+1)) (jD ((2*k+3:Nat):Int)) p) p
noncomputable def C6(z:Iv)(p N:Nat):Iv:=mK (jj (ua z p N) (qH (nL z p N)) p) 1
theorem xk{z:Iv}(hz:z.ib){p:Nat}(il:8<=p)(ic:p<=512):∀ k,(nL z p k).ib
 | 0=>hz
 |_+1=>qC _ _ ae ae 
theorem BA{z:Iv}(hz:z.ib){p:Nat}(il:8<=p)(ic:p<=512):∀ k,(ua z p k).ib
 | 0=>hz
 |k+1=>rT (BA hz il ic k) (vG _ _ ae ae) ae ae 
theorem af4{z:Iv}(hz:z.ib){p:Nat}(il:8<=p)(ic:p<=512)(N:Nat):(C6 z p N).ib:=Jx (rT (BA hz il ic N) (Cc (xk hz il ic N)) ae ae) 1
theorem N7(r:Rat)(k:Nat):nA r (2*(k+1)+1)=nA r (2*k+1)*(r*r):=by
 show nA r (2*k+1)*r*r=_
 grind
theorem MS{z:Iv}{r:Rat}(hz:z.ib)(h:z.jX r){p:Nat}(il:8<=p)(ic:p<=512):∀ k,(nL z p k).jX (nA r (2*k+1))
 | 0=>by
  have e:nA r (2*0+1)=r:=by show 1*r=r;grind
  rw[e];exact h
 |k+1=>by
  rw[N7];exact IZ (xk hz il ic k) (JE hz ae ae) ae ae (MS hz h il ic k) (Oq hz ae ae h)
theorem Ue{z:Iv}{r:Rat}(hz:z.ib)(h:z.jX r){p:Nat}(il:8<=p)(ic:p<=512):∀ k,k<1000000->(ua z p k).jX (AQ r k)
 | 0,_=>by
  have e:AQ r 0=r:=by
   show 0+1*r/((2*0+1:Nat):Rat)=r;have:((2*0+1:Nat):Rat)=1:=rfl;rw[this,cA,show(1:Rat)⁻¹=1 by decide +kernel];grind
  rw[e];exact h
 |k+1,hk=>xH (BA hz il ic k) (vG _ _ ae ae) ae ae (Ue hz h il ic k ae)
  (G4 (xk hz il ic (k+1)) (Nf (2*k+3) ae) ae ae (MS hz h il ic (k+1)) (Ve (2*k+3)))
theorem J9(r:Rat):∀ n,jc (nA r n)=nA (jc r) n
 | 0=>by show jc 1=1;decide +kernel
 |n+1=>by simp only[nA];rw[xG,J9 r n]
theorem YP(r:Rat)(k:Nat):jc (sP r k)<=nA (jc r) (2*k+1):=by
 unfold sP;have hp:(0:Rat)<((2*k+1:Nat):Rat):=Ak (2*k);have h1:(1:Rat)<=((2*k+1:Nat):Rat):=by
  have:=cX (a:=1) (b:=2*k+1);exact this.2 ae 
 have h0:=BW (mL r).1 (2*k+1);rw[cA,xG,J9];have hi:=fp.2 hp;have e:jc (((2*k+1:Nat):Rat)⁻¹)=((2*k+1:Nat):Rat)⁻¹:=by unfold jc;rw[aR (bA hi)]
 rw[e,<-cA];have x0:=QV h0 hp;have xc:=dm (a:=nA (jc r) (2*k+1)) (b:=((2*k+1:Nat):Rat)) aq;generalize nA (jc r) (2*k+1)/((2*k+1:Nat):Rat)=x at *
 have:=cB h1 x0
 grind
theorem Pv{r:Rat}(hr:jc r*2<=1)(N:Nat):∀ d,iL (fun i=>jc (sP r (N+1+i))) d+nA (jc r) (2*(N+d)+1)<=nA (jc r) (2*N+1)
 | 0=>by simp only[iL,bt];grind
 |d+1=>by
  have ih:=Pv hr N d;have h1:=YP r (N+1+d);have e:2*(N+1+d)+1=2*(N+d+1)+1:= ae ;rw[e,N7]at h1;have e2:2*(N+(d+1))+1=2*(N+d+1)+1:= ae ;rw[e2,N7,iL];have h0:=BW (mL r).1 (2*(N+d)+1);have hz:=(mL r).1;have hs:jc r*jc r*4<=1:=by
   have m:=cB hr (show 0<=jc r*2 by grind)
   grind
  generalize nA (jc r) (2*(N+d)+1)=u at *
  generalize jc r*jc r=v at *
  have m2:=cB hs h0
  grind
theorem af3{z:Iv}{r:Rat}(hz:z.ib)(h:z.jX r)(hr:jc r*2<=1){p:Nat}(il:8<=p)(ic:p<=512){N:Nat}(hN:N<=1000):∀ M,N<=M->(C6 z p N).jX (AQ r M*2):=by
 intro M hM;obtain⟨d,rfl⟩:∃ d,M=N+d:=⟨M-N,ae⟩
 have e1:AQ r (N+d)=AQ r N+iL (fun i=>sP r (N+1+i)) d:=by
  unfold AQ;rw[show N+d+1=N+1+d by omega,DE]
 have t:=Pv hr N d;have b1:=B8 (fun i=>sP r (N+1+i)) d;have p0:=BW (mL r).1 (2*(N+d)+1);have e2:P2 1=2:= ar ;rw[<-e2,e1];refine Oe (xH (BA hz il ic N) (Cc (xk hz il ic N)) ae ae (Ue hz h il ic N ae) (Pt (xk hz il ic N) (MS hz h il ic N) ?_)) 1;rw[J9];grind
theorem akJ{z:Iv}(hz:z.ib)(h:Sub z (pj (-1))){p:Nat}(il:8<=p)(ic:p<=512):Sub (om z p) (pj (-1)):=by
 obtain⟨za,k1,k2⟩:=h.wh rfl;replace k1:(iF (pN (-1))).q<=z.lo.q:=k1;replace k2:z.hi.q<=(pN (-1)).q:=k2;have e:P2 (-1)=1/2:= ar ;rw[oE,qE,e]at k1;rw[qE,e]at k2;have hl:=O9 za;have ha:(iW z).ib:=DO hz;have hq:=ha.q;have hh:(iW z).hi.q<=1/2:=by
  unfold iW;rw[za];show(mu z).q<=1/2;obtain⟨_,_,m⟩:=BC hz.q;have:=hz.q;rcases m with m|m<;>grind
 have G1:=y8 (p:=p) ae (n:=-1) ag ag;have A:=wq (zp (iW z).lo (iW z).lo) (p:=p) ae ae;have B:=wu (zp (iW z).hi (iW z).hi) (p:=p) ae ae;rw[Di]at A B;rw[e]at G1;have iH:0<=(iW z).lo.q*(iW z).lo.q:=bM hl hl;have hhi:(iW z).hi.q*(iW z).hi.q<=1/2:=by
  have h0:0<=(iW z).hi.q:=bH hl hq;have m:=cB hh h0
  grind
 have a1:=A.2 (-(1/2)) G1.neg aq;have b1:=B.2 (1/2) G1 hhi;unfold om kE;rw[zg,za];simp only[bq,a6];rw[aQ ae];refine .inr ⟨rfl,?_,?_⟩
 .show (iF (pN (-1))).q<=_
  rw[oE,qE,e];exact a1.2
 .show _<=(pN (-1)).q
  rw[qE,e];exact b1.2
theorem Ud{z:Iv}(hz:z.ib)(h:Sub z (pj (-1))){p:Nat}(il:8<=p)(ic:p<=512):∀ k,k<=900->Sub (nL z p k) (pj (-((k+1:Nat):Int)))
 | 0,_=>h
 |k+1,hk=>by
  have ih:=Ud hz h il ic k ae;have sq:=akJ hz h il ic;have vT:=xk hz il ic k;obtain⟨ta,_⟩:=ih.wh rfl;obtain⟨ya,_⟩:=sq.wh rfl;exact DT (M3 vT (JE hz ae ae) ta ya (show 1<=p by omega) ae) ae ae ae (by
   rintro r ⟨a,b,ha,hb,rfl⟩;obtain⟨a1,a2⟩:=Ce.1 (ih.jX ha);obtain⟨b1,b2⟩:=Ce.1 (sq.jX hb);rw[<-Sw];exact Pc a1 a2 b1 b2)
theorem af5{z:Iv}(hz:z.ib)(h:z.all=true\/Sub z (pj (-1))){p:Nat}(il:8<=p)(ic:p<=512):∃ N,N<=1000/\(∀ x,x<N->oz (nL z p x) p=false)/\oz (nL z p N) p=true:=by
 have ex:∃ x,x<900/\oz (nL z p x) p=true:=by
  rcases h with h|h
  .exact ⟨0,ae,by show oz z p=true;unfold oz;rw[h];rfl⟩
  .exact ⟨p,ae,XU (xk hz il ic _) (Ud hz h il ic p ae)⟩
 obtain⟨N,n1,n2,n3⟩:=qB ex;exact⟨N,ae,n3,n2⟩
theorem Y4{a b:Rat}(h:a<=b)(k:Nat):sP a k<=sP b k:=by
 unfold sP;rw[cA,cA];exact b8 (N6 ae h) (bA (fp.2 (Ak (2*k))))
theorem Gm{a b:Rat}(h:a<=b)(N:Nat):AQ a N<=AQ b N:=B2 _ fun k _=>Y4 h k
open Go.RowKit Fp Pu
theorem FE{d:Dy}(h:d.m≠0):jc d.q<P2 d.iu:=by
 have hT:d.iu=(ia d.m:Int)+d.e:=by unfold Dy.iu;rw[aQ h]
 have h1:(d.m:Rat)<((2^ia d.m:Nat):Rat):=Rat.natCast_lt_natCast.2 (oM d.m);have h2:=dM h1 (mY d.e);rw[<-uA,<-qe]at h2;have h0:0<=(d.m:Rat)*P2 d.e:=bM cF (bA (mY _));have h4:jc d.q=(d.m:Rat)*P2 d.e:=by
  rw[ql];unfold jc;cases d.neg
  .simp only[bq,a6];rw[aR h0]
  .simp only[bk]
   split<;>grind
 rw[h4,hT];exact h2
theorem ND{d:Dy}(h:d.m≠0):P2 (d.iu-1)<=jc d.q:=by
 have hT:d.iu=(ia d.m:Int)+d.e:=by unfold Dy.iu;rw[aQ h]
 have hb:0<ia d.m:=r7.2 (by rw[bN];omega);have h1:2^(ia d.m-1)<=d.m:=r7.1 ae;have h2:((2^(ia d.m-1):Nat):Rat)<=(d.m:Rat):=cX.2 h1;have h3:=b8 h2 (bA (mY d.e));rw[<-uA,<-qe,show((ia d.m-1:Nat):Int)+d.e=d.iu-1 by rw[hT];omega]at h3;have h4:jc d.q=(d.m:Rat)*P2 d.e:=by
  have h0:0<=(d.m:Rat)*P2 d.e:=bM cF (bA (mY _));rw[ql];unfold jc;cases d.neg
  .simp only[bq,a6];rw[aR h0]
  .simp only[bk]
   split<;>grind
 rw[h4];exact h3
theorem Dg{d:Dy}(h:0<d.q):d.m≠0:=fun e=>by
 have:d.q=0:=by rw[ql,e];simp
 grind
theorem Gv{r:Rat}(h:0<r):jc r=r:=by unfold jc;rw[aR (bA h)]
def u7(d:Dy):Rat:=d.q*P2 (-d.iu)
def y7(d:Dy):Rat:=(u7 d-1)/(u7 d+1)
theorem OX(k:Int):P2 k*P2 (-k)=1:=by rw[<-qe,show k + -k=0 by omega,J3]
theorem UN{d:Dy}(h:0<d.q):1/2<=u7 d/\u7 d<1:=by
 have h1:=ND (Dg h);have h2:=FE (Dg h);rw[Gv h]at h1 h2;have hp:=mY (-d.iu);have e1:=OX d.iu;have e2:P2 (d.iu-1)*P2 (-d.iu)=1/2:=by
  rw[<-qe,show d.iu-1 + -d.iu = -1 by omega];decide +kernel
 have m1:=b8 h1 (bA hp);have m2:=dM h2 hp;unfold u7;constructor<;>grind
theorem Li{a b:Rat}(ha:0<=a)(h:a<=b):(a-1)/(a+1)<=(b-1)/(b+1):=by
 have h1:0<a+1:= aq ;have h2:0<b+1:= aq ;have e1:=dm (a:=a-1) (b:=a+1) aq;have e2:=dm (a:=b-1) (b:=b+1) aq;generalize (a-1)/(a+1)=x at *
 generalize (b-1)/(b+1)=y at *
 apply dp.1;intro iD;have m1:=dM iD h1;have hy:y<1:=by
  apply Rat.not_le.1;intro hle;have:=b8 hle (bA h2)
  grind
 have m2:=cB h (show 0<=1-y by grind)
 grind
theorem OP{d:Dy}(h:0<d.q):-(1/3)<=y7 d/\y7 d<=0:=by
 obtain⟨h1,h2⟩:=UN h;have a:=Li (show(0:Rat)<=1/2 by decide +kernel) h1;have b:=Li (show 0<=u7 d by grind) (bA h2);have e1:((1:Rat)/2-1)/(1/2+1) = -(1/3):= ar ;have e2:((1:Rat)-1)/(1+1)=0:= ar ;rw[e1]at a;rw[e2]at b;exact⟨a,b⟩
theorem JZ(z:Rat)(N:Nat):AQ (-z) N = -AQ z N:=by
 have:∀ n,iL (sP (-z)) n = -iL (sP z) n:=by
  intro n
  induction n with
  |zero=>simp[iL]
  |succ n ih=>
   rw[iL,iL,ih];have:sP (-z) n = -sP z n:=by
    unfold sP;rw[BV,aQ ae];simp only[cA];grind
   rw[this];grind
 exact this _
theorem OQ(N:Nat):AQ 0 N=0:=by
 have:=JZ 0 N;rw[show -(0:Rat)=0 by decide +kernel]at this
 grind
theorem Yw(N:Nat):0<=AQ (1/3) N:=by
 have:=Gm (show(0:Rat)<=1/3 by decide +kernel) N;rwa[OQ]at this
def LQ(d:Dy)(N:Nat):Rat:=AQ (y7 d) N*2+(d.iu:Rat)*(AQ (1/3) N*2)
theorem alk{a b:Dy}(ha:0<a.q)(h:a.q<=b.q):a.iu<=b.iu:=by
 have hb:0<b.q:= aq ;have h1:=ND (Dg ha);have h2:=FE (Dg hb);rw[Gv ha]at h1;rw[Gv hb]at h2;apply bE;intro iD;have:=DK (show b.iu<=a.iu-1 by omega)
 grind
theorem YG{a b:Dy}(ha:0<a.q)(h:a.q<=b.q)(N:Nat):LQ a N<=LQ b N:=by
 have hb:0<b.q:= aq ;have ht:=alk ha h;obtain⟨a1,a2⟩:=OP ha;obtain⟨b1,b2⟩:=OP hb;have c0:=Yw N;unfold LQ;rcases Int.lt_or_eq_of_le ht with iD|heq
 .have k1:=Gm a2 N
  rw[OQ]at k1;have k2:=Gm b1 N;rw[JZ]at k2;have k3:(a.iu:Rat)+1<=(b.iu:Rat):=by
   have:=fM (a:=a.iu+1) (b:=b.iu);have:=this.2 ae;rwa[Rat.intCast_add]at this
  have k4:=b8 k3 (show 0<=AQ (1/3) N*2 by grind)
  grind
 .have hm:u7 a<=u7 b:=by
   unfold u7;rw[heq];exact b8 h (bA (mY _))
  have hz:y7 a<=y7 b:=Li (by have:=(UN ha).1;grind) hm;have:=Gm hz N;rw[heq]
  grind
theorem YH(N:Nat):LQ ⟨false,1,0⟩ N=0:=by
 have e1:y7 ⟨false,1,0⟩ = -(1/3):= ar ;have e2:((⟨false,1,0⟩:Dy).iu:Rat)=1:= ar ;unfold LQ;rw[e1,e2,JZ];grind
open Go.RowKit Fp Pu
noncomputable def tc(d:Dy)(p:Nat):Iv:=mK (lK (me d) p) (-d.iu)
noncomputable def C7(d:Dy)(p:Nat):Iv:=jS (jj (tc d p) (jD (-1)) p) (jj (tc d p) (jD 1) p) p
theorem XZ{d:Dy}(hd:d.ib)(h:d.m≠0):-16384<=d.iu-1/\d.iu<=16384:=by
 have hT:d.iu=(ia d.m:Int)+d.e:=by unfold Dy.iu;rw[aQ h]
 have hb:0<ia d.m:=r7.2 (by rw[bN];omega);have h1:=hd.range;unfold mP at h1;have h2:=hd.exp;constructor
 .omega
 .rw [hT]
  first|omega|(rcases h1 with h1|h1<;>first|omega|exact absurd h1 h)
theorem ajK{d:Dy}(hd:d.ib)(h:0<d.q){p:Nat}(il:8<=p)(ic:p<=512)(ha:(lK (me d) p).all=false):P2 (d.iu-1)<=(lK (me d) p).lo.q/\(lK (me d) p).hi.q<=P2 d.iu:=by
 have hm:=Dg h;obtain⟨t1,t2⟩:=XZ hd hm;have q1:=ND hm;have q2:=FE hm;rw[Gv h]at q1 q2;have A:=wq hd.canon (p:=p) ae ae;have B:=wu hd.canon (p:=p) ae ae;have G1:G p (P2 (d.iu-1)):=.inl ⟨1,d.iu-1,by rw[uE];omega,t1,by rw[uE];omega,aj⟩;have he:¬(jz d p false≠0\/jz d p true≠0):=by
  intro hc;unfold lK kE at ha;rw[show(me d).all=false from rfl]at ha;simp only[bq,a6]at ha;rw[aR (show jz (me d).lo p false≠0\/jz (me d).hi p true≠0 from hc)]at ha;cases ha
 have e1:(lK (me d) p).lo=jh d p false/\(lK (me d) p).hi=jh d p true:=by
  unfold lK kE;rw[show(me d).all=false from rfl];simp only[bq,a6];rw[aQ (show ¬(jz (me d).lo p false≠0\/jz (me d).hi p true≠0)from he)];exact⟨rfl,rfl⟩
 rw[e1.1,e1.2];refine⟨(A.2 _ G1 q1).2,?_⟩;by_cases ht:d.iu<=16383
 .have G2:G p (P2 d.iu):=.inl ⟨1,d.iu,by rw[uE];omega,ae,by rw[uE];omega,aj⟩
  exact(B.2 _ G2 (bA q2)).2
 .obtain ⟨g,_⟩:=B.1 ae 
  have Tc:0<=(jh d p true).q:=bH (bA h) (B.1 ae).2;obtain⟨m,e,hb,_,hr,hv⟩:=g.pos Tc;rw[hv];have h1:(m:Rat)<=((2^ia m:Nat):Rat):=cX.2 (cW (oM m));have h2:=b8 h1 (bA (mY e));rw[<-uA,<-qe]at h2;exact bH h2 (DK ae)
theorem agn{d:Dy}(hd:d.ib){p:Nat}(il:8<=p)(ic:p<=512):(tc d p).jX (u7 d):=Oe (FR (vh hd) ae ae (Nz d)) _
theorem agp{d:Dy}(hd:d.ib){p:Nat}(il:8<=p)(ic:p<=512):(tc d p).ib:=Jx (Ds (vh hd) ae ae) _
theorem ago{d:Dy}(hd:d.ib)(h:0<d.q){p:Nat}(il:8<=p)(ic:p<=512)(ha:(tc d p).all=false):1/2<=(tc d p).lo.q/\(tc d p).hi.q<=1:=by
 unfold tc mK at ha ⊢;cases ra:(lK (me d) p).all
 .rw [ra]at ha
  obtain⟨h1,h2⟩:=ajK hd h il ic ra;simp only[bq,a6]at ha ⊢;unfold kE at ha ⊢;split
  .rename_i he
   rw[aR he]at ha;cases ha
  .rename_i he
   have e1:=OX d.iu;have e2:P2 (d.iu-1)*P2 (-d.iu)=1/2:=by
    rw[<-qe,show d.iu-1 + -d.iu = -1 by omega];decide +kernel
   refine⟨?_,?_⟩
   .show 1/2<=(sK _ _).q
    rw[AD ae,<-e2,u9];exact h1
   .show (sK _ _).q<=1
    rw[AD ae,<-e1,u9];exact h2
 .rw [ra]at ha;cases ha
theorem aed{a b:Rat}(h1:-(1/2)<=a)(h2:a<=1/2)(hb:1<=b):-(1/2)<=a/b/\a/b<=1/2:=by
 have e:=dm (a:=a) (b:=b) aq;generalize a/b=x at *
 constructor
 .apply dp.1
  intro iD;have:=dM iD (show 0<b by grind)
  grind
 .apply dp.1
  intro iD;have:=dM iD (show 0<b by grind)
  grind
theorem agq{d:Dy}(hd:d.ib)(h:0<d.q){p:Nat}(il:8<=p)(ic:p<=512):(C7 d p).ib/\(C7 d p).jX (y7 d)/\((C7 d p).all=true\/Sub (C7 d p) (pj (-1))):=by
 have vM:=agp hd il ic;have hM:=agn hd il ic;have vn:(jD (-1)).ib:=vc ag;have v1:(jD 1).ib:=vc ag;have vA:(jj (tc d p) (jD (-1)) p).ib:=rT vM vn ae ae;have vB:(jj (tc d p) (jD 1) p).ib:=rT vM v1 ae ae;have e1:(((-1:Int)):Rat) = -1:= ar ;have e2:(((1:Int)):Rat)=1:= ar ;have hA:=xH vM vn (p:=p) ae ae hM (yK (-1));have hB:=xH vM v1 (p:=p) ae ae hM (yK 1);rw[e1,show u7 d + -1=u7 d-1 by grind]at hA;rw[e2]at hB;refine⟨vG _ _ ae ae,G4 vA vB ae ae hA hB,?_⟩;cases ma:(tc d p).all
 .right
  obtain⟨m1,m2⟩:=ago hd h il ic ma;have one:∀ (n:Int) r,(jD n).jX r->r=(n:Rat):=fun n r hr=>by
   obtain⟨r1,r2⟩:=hr.jZ rfl;replace r1:(jd n).q<=r:=r1;replace r2:r<=(jd n).q:=r2;rw[xt]at r1 r2;exact dL r2 r1
  have g1:G p (1/2):=by have:=y8 (p:=p) ae (n:=-1) ag ag;rwa[show P2 (-1)=1/2 by decide +kernel]at this
  have g2:G p 1:=by have:=y8 (p:=p) ae (n:=0) ag ag;rwa[J3]at this
  have g4:G p 2:=by have:=y8 (p:=p) ae (n:=1) ag ag;rwa[show P2 1=2 by decide +kernel]at this
  obtain⟨aa,a1,a2⟩:=(Ka vM vn ma rfl (show 1<=p by omega) ae).xj (-(1/2)) (1/2) g1.neg g1 (by
   rintro r ⟨a,b,ha,hb,rfl⟩;obtain⟨b1,b2⟩:=ha.jZ ma;rw[one _ b hb,e1];constructor<;>grind)
  obtain⟨ba,b1,b2⟩:=(Ka vM v1 ma rfl (show 1<=p by omega) ae).xj 1 2 g2 g4 (by
   rintro r ⟨a,b,ha,hb,rfl⟩;obtain⟨b1,b2⟩:=ha.jZ ma;rw[one _ b hb,e2];constructor<;>grind)
  refine DT (G3 vA vB aa (Om ba (.inl aq)) (show 1<=p by omega) ae) ae ag ag ?_;rintro r ⟨a,b,ha,hb,rfl⟩;obtain⟨x1,x2⟩:=ha.jZ aa;obtain⟨y1,y2⟩:=hb.jZ ba;rw[show P2 (-1)=1/2 by decide +kernel];exact aed aq aq aq 
 .left
  show(jS (jj (tc d p) (jD (-1)) p) (jj (tc d p) (jD 1) p) p).all=true;rw[Gw p (.inl ma),D3 p (.inl rfl)];rfl
theorem acD{d:Dy}(hd:d.ib)(h:d.m≠0){p:Nat}(il:8<=p)(ic:p<=512){n:Int}(h1:d.iu<=n)(h2:-1000<=n)(h3:n<=1000):Sub (lK (me d) p) (pj n):=by
 refine ajJ (vh hd) ae ae h2 h3 (.inr ⟨rfl,?_,?_⟩)
 .show (iF (pN n)).q<=d.q
  rw[oE,qE];have:=FE h;have hl:=DK h1;obtain⟨_,a2,a3,_⟩:=mL d.q
  grind
 .show d.q<=(pN n).q
  rw[qE];have:=FE h;have hl:=DK h1;obtain⟨_,a2,a3,_⟩:=mL d.q
  grind
open Go.RowKit Fp Pu
def Yj(y:Iv)(p n:Nat)(x:Nat):PS:=⟨32,true,[(7,.e (iP (((x+1):Nat):Int))),(6,.box 6 0),(5,.box 5 0),(4,.box 4 0),(3,.box 3 0),(2,.box 2 0)],[(6,.cells 41 (iY (sV y p x))),(5,.cells 41 (iY (lk y p x))),(4,.cells 41 [(bP false),(.v (.slice none 0 0)),(iP 0),(bP false),(.v (.slice none 0 0)),(iP 0),(bP false)]),(3,.cells 41 (iY y)),(2,.cells 201 [(iP p)])]⟩
theorem af8{f:Nat->Rat}{X Y:Iv}(h:pf f X)(k:∀ r,X.jX r->Y.jX r):pf f Y:=fun ε hε=>by
 obtain⟨N0,h0⟩:=h ε hε;exact⟨N0,fun N hN=>by obtain⟨r,h1,h2⟩:=h0 N hN;exact⟨r,k r h1,h2⟩⟩
theorem ivW{x:Iv}(hx:x.ib)(ha:x.all=true):x=ie:=by
 obtain⟨h1,h2⟩:=MJ hx ha;obtain⟨a,b,c⟩:=x;simp only at h1 h2 ha;rw[h1,h2,ha];rfl
theorem Zo(x:Iv)(hx:x.ib)(xa:x.all=true)(k:Int)(k1:-32768<=k)(k2:k<=32768):gV 259 [(gZ x),(iP k)] (gZ (mK x k)):=by
 exact tr true Tryz.call259 Tryz.func259 (chain [.o 10 (.e (mz _):PV.le (.e (.sl true 1 7 fun i_ j_=>(iY x).getD (i_*7+j_) (.v (.bool false)))) (.e (ik [x]))),.c (pK _ af:gV 86 [(ik [x])] _),tB 11 (by rw[xa];rfl:(!x.all)=false),.c nv]<|rQ (gZ ie) (gZ (mK x k)) (by rw[show(mK x k)=ie by unfold mK;rw[aR xa]])) ah 
theorem Zp(x:Iv)(hx:x.ib)(xa:x.all=false)(k:Int)(k1:-32768<=k)(k2:k<=32768):gV 259 [(gZ x),(iP k)] (gZ (mK x k)):=by
 obtain⟨v1,v2⟩:=hx.jZ;exact tr true Tryz.call259 Tryz.func259 (chain [.o 10 (.e (mz _):PV.le (.e (.sl true 1 7 fun i_ j_=>(iY x).getD (i_*7+j_) (.v (.bool false)))) (.e (ik [x]))),.c (pK _ af:gV 86 [(ik [x])] _),tB 11 (by rw[xa];rfl:(!x.all)=true),.c (Ki x.lo k af ae ae),.c (Ki x.hi k af ae ae),.c (Bz (kC (canon x.lo.neg x.lo.m (x.lo.e+k))) (kC (canon x.hi.neg x.hi.m (x.hi.e+k))) (mI (canon x.lo.neg x.lo.m (x.lo.e+k))) (mI (canon x.hi.neg x.hi.m (x.hi.e+k))))]<|rQ (gZ (kE (kC (canon x.lo.neg x.lo.m (x.lo.e+k))) (mI (canon x.lo.neg x.lo.m (x.lo.e+k))) (kC (canon x.hi.neg x.hi.m (x.hi.e+k))) (mI (canon x.hi.neg x.hi.m (x.hi.e+k))))) (gZ (mK x k)) (by unfold mK;rw[aQ (by rw[xa];decide)];simp only[aj3,aj4])) ah 
theorem Kh(x:Iv)(hx:x.ib)(k:Int)(k1:-32768<=k)(k2:k<=32768):gV 259 [(gZ x),(iP k)] (gZ (mK x k)):=by
 cases xa:x.all with
 |true=>exact Zo x hx xa k k1 k2
 |false=>exact Zp x hx xa k k1 k2
theorem Zm(x:Iv)(hx:x.ib)(xa:x.all=true)(p:Nat)(il:8<=p)(ic:p<=512):gV 305 [(gZ x),(iP p)] (gZ (lK x p)):=by
 exact tr true Tryz.call305 Tryz.func305 (chain [.o 10 (.e (mz _):PV.le (.e (.sl true 1 7 fun i_ j_=>(iY x).getD (i_*7+j_) (.v (.bool false)))) (.e (ik [x]))),.c (pK _ af:gV 86 [(ik [x])] _),tB 11 (by rw[xa];rfl:(!x.all)=false),.c nv]<|rQ (gZ ie) (gZ (lK x p)) (by rw[show(lK x p)=ie by unfold lK;rw[aR xa]])) ah 
theorem Zn(x:Iv)(hx:x.ib)(xa:x.all=false)(p:Nat)(il:8<=p)(ic:p<=512):gV 305 [(gZ x),(iP p)] (gZ (lK x p)):=by
 obtain⟨v1,v2⟩:=hx.jZ;exact tr true Tryz.call305 Tryz.func305 (chain [.o 10 (.e (mz _):PV.le (.e (.sl true 1 7 fun i_ j_=>(iY x).getD (i_*7+j_) (.v (.bool false)))) (.e (ik [x]))),.c (pK _ af:gV 86 [(ik [x])] _),tB 11 (by rw[xa];rfl:(!x.all)=true),.c (u5 _:gV 87 [(iP p)] _),tB 15 (oZ.2 ⟨ae,ae⟩:(lh (p:Int))=true),.c (GB x.lo p af ae ae),.c (GC x.hi p af ae ae),.c (Bz (jh x.lo p false) (jh x.hi p true) (jz x.lo p false) (jz x.hi p true))]<|rQ (gZ (kE (jh x.lo p false) (jz x.lo p false) (jh x.hi p true) (jz x.hi p true))) (gZ (lK x p)) (by unfold lK;rw[aQ (by rw[xa];decide)])) ah 
theorem DR(x:Iv)(hx:x.ib)(p:Nat)(il:8<=p)(ic:p<=512):gV 305 [(gZ x),(iP p)] (gZ (lK x p)):=by
 cases xa:x.all with
 |true=>exact Zm x hx xa p il ic
 |false=>exact Zn x hx xa p il ic
theorem Zq(x:Iv)(hx:x.ib)(xa:x.all=true)(p:Nat)(il:8<=p)(ic:p<=512):gV 321 [(gZ x),(iP p)] (gZ (om x p)):=by
 have ha:(iW x).all=true:=by rw[zg,xa]
 exact tr true Tryz.call321 Tryz.func321 (chain [.c (MG x af),tB 13 (ha:(iW x).all=true),.c nv]<|rQ (gZ ie) (gZ (om x p)) (by unfold om;rw[aR ha])) ah 
theorem Zr(x:Iv)(hx:x.ib)(xa:x.all=false)(p:Nat)(il:8<=p)(ic:p<=512):gV 321 [(gZ x),(iP p)] (gZ (om x p)):=by
 have ha:(iW x).all=false:=by rw[zg,xa]
 have hv:=DO hx;obtain⟨v1,v2⟩:=hv.jZ;exact tr true Tryz.call321 Tryz.func321 (chain [.c (MG x af),tB 13 (ha:(iW x).all=false),.c (u5 _:gV 87 [(iP p)] _),tB 16 (oZ.2 ⟨ae,ae⟩:(lh (p:Int))=true),.c (Jk ((iW x).lo) ((iW x).lo) p af af ae ae),.c (Jl ((iW x).hi) ((iW x).hi) p af af ae ae),.c (Bz (jh (ml ((iW x).lo) ((iW x).lo)) p false) (jh (ml ((iW x).hi) ((iW x).hi)) p true) (jz (ml ((iW x).lo) ((iW x).lo)) p false) (jz (ml ((iW x).hi) ((iW x).hi)) p true))]<|rQ (gZ (kE (jh (ml ((iW x).lo) ((iW x).lo)) p false) (jz (ml ((iW x).lo) ((iW x).lo)) p false) (jh (ml ((iW x).hi) ((iW x).hi)) p true) (jz (ml ((iW x).hi) ((iW x).hi)) p true))) (gZ (om x p)) (by unfold om;rw[aQ (by rw[ha];decide)];rfl)) ah 
theorem PI(x:Iv)(hx:x.ib)(p:Nat)(il:8<=p)(ic:p<=512):gV 321 [gZ x,iP (p:Int)] (gZ (om x p)):=by
 cases xa:x.all with
 |true=>exact Zq x hx xa p il ic
 |false=>exact Zr x hx xa p il ic
theorem PJ(x:Iv)(hx:x.ib)(xa:x.all=true):gV 298 [(gZ x)] (.iw [gY jx,bP false]):=by
 exact tr true Tryz.call298 Tryz.func298 (chain [.o 5 (.e (mz _):PV.le (.e (.sl true 1 7 fun i_ j_=>(iY x).getD (i_*7+j_) (.v (.bool false)))) (.e (ik [x]))),.c (pK _ af:gV 86 [(ik [x])] _),tB 6 (by rw[xa];rfl:(!x.all)=false),.o 8 (.e vu:PV.le (.e (.agg [(bP false),(.v (.slice none 0 0)),(iP 0)])) (.e (gY jx)))]<|.nil) ah 
theorem wE(n:Int)(h:n.natAbs<4294967296):gV 303 [(iP n)] (gZ (jD n)):=by
 have hv:=rZ h;exact tr true Tryz.call303 Tryz.func303 (chain [.c (qI _ ae:gV 113 [(iP n)] _),.c (C2 (jd n) af)]<|.nil) ah 
theorem AK(p:Nat)(x y:Iv)(hx:x.ib)(hy:y.ib)(il:8<=p)(ic:p<=512):gV 308 [(.agg [(iP p)]),(gZ x),(gZ y)] (gZ (jj x y p)):=by
 exact tr true Tryz.call308 Tryz.func308 (chain [.c (C0 x y p af af ae ae)]<|.nil) ah 
theorem JX(p:Nat)(x y:Iv)(hx:x.ib)(hy:y.ib)(il:8<=p)(ic:p<=512):gV 310 [(.agg [(iP p)]),(gZ x),(gZ y)] (gZ (iN x y p)):=by
 exact tr true Tryz.call310 Tryz.func310 (chain [.c (ET x y p af af ae ae)]<|.nil) ah 
theorem Gc(p:Nat)(x y:Iv)(hx:x.ib)(hy:y.ib)(il:8<=p)(ic:p<=512):gV 307 [(.agg [(iP p)]),(gZ x),(gZ y)] (gZ (jS x y p)):=by
 exact tr true Tryz.call307 Tryz.func307 (chain [.c (TY x y p af af ae ae)]<|.nil) ah 
theorem al0(p:Nat)(x:Iv)(hx:x.ib)(xa:x.all=true)(il:8<=p)(ic:p<=512):gV 322 [(.agg [(iP p)]),(gZ x)] (bP (oz x p)):=by
 exact tr true Tryz.call322 Tryz.func322 (chain [.c (PJ _ hx xa:gV 298 [(gZ x)] _)]<|rQ (bP true) (bP (oz x p)) (by unfold oz;rw[xa];rfl)) ah 
theorem XT{x:Iv}(xa:x.all=false)(p:Nat):oz x p=(((mu x).iK==0)||decide ((mu x).iu<=0-(p:Int))):=by
 unfold oz;rw[xa,amU];congr 1
 .unfold Dy.iK
  by_cases h:(mu x).m=0
  .simp [h]
  .simp only[h,a6,decide_false];split<;>rfl
 .rw [show(0:Int)-(p:Int) = -(p:Int)by omega]
theorem al1(p:Nat)(x:Iv)(hx:x.ib)(xa:x.all=false)(il:8<=p)(ic:p<=512):gV 322 [(.agg [(iP p)]),(gZ x)] (bP (oz x p)):=by
 have hm:=IV hx.jZ.1 hx.jZ.2;exact tr true Tryz.call322 Tryz.func322 (chain [.c (MI x hx xa),.c (nT _ af:gV 35 [(gY (mu x))] _)]<|.w ((Dy.iK (mu x))=0)
  (fun k1=>chain [tB 17 (aK k1)]<|rQ (bP true) (bP (oz x p)) (by rw[XT xa];simp[k1]))
  (fun k1=>chain [tB 17 (aJ k1),.c (oC _ af:gV 130 [(gY (mu x))] _),iq (0-(p:Int)) ae]<|rQ (bP (decide ((Dy.iu (mu x))<=(0-(p:Int))))) (bP (oz x p)) (by rw[XT xa];simp[k1]))) ah 
theorem JY(p:Nat)(x:Iv)(hx:x.ib)(il:8<=p)(ic:p<=512):gV 322 [(.agg [(iP p)]),(gZ x)] (bP (oz x p)):=by
 cases xa:x.all with
 |true=>exact al0 p x hx xa il ic
 |false=>exact al1 p x hx xa il ic
theorem al4(x:Iv)(hx:x.ib)(xa:x.all=true):gV 323 [(gZ x)] (gZ (qH x)):=by
 exact tr true Tryz.call323 Tryz.func323 (chain [.c (PJ _ hx xa:gV 298 [(gZ x)] _),.c nv]<|rQ (gZ ie) (gZ (qH x)) (by rw[show qH x=ie by unfold qH;rw[aR xa];exact ivW hx xa])) ah 
theorem al5(x:Iv)(hx:x.ib)(xa:x.all=false):gV 323 [(gZ x)] (gZ (qH x)):=by
 have hm:=IV hx.jZ.1 hx.jZ.2;exact tr true Tryz.call323 Tryz.func323 (chain [.c (MI x hx xa),.c (xR _ af:gV 191 [(gY (mu x))] _)]<|rQ (gZ (Iv.mk (iF (mu x)) (mu x) false)) (gZ (qH x)) (by unfold qH;rw[aQ (by rw[xa];decide)];try rfl)) ah 
theorem Yq(x:Iv)(hx:x.ib):gV 323 [gZ x] (gZ (qH x)):=by
 cases xa:x.all with
 |true=>exact al4 x hx xa
 |false=>exact al5 x hx xa
theorem alV(y:Iv)(p n:Nat)(hy:y.ib)(il:8<=p)(ic:p<=512)(h2:n<=1000)(iH:∀ x,x<n->oz (lk y p (x+1)) p=false)(hN:oz (lk y p (n+1)) p=true):gV 320 [(.agg [(iP p)]),(gZ y)] (gZ (xS y p (n+1))):=by
 have t0:=vt hy il ic n;have s0:=Cq hy il ic n;have t1:(iN (lk y p n) y p).ib:=qC _ _ ae ae;have n1:(jD (((n+1:Nat)):Int)).ib:=BG _ ae;have t2:(jS (iN (lk y p n) y p) (jD (((n+1:Nat)):Int)) p).ib:=vG _ _ ae ae;have a1:(jj (sV y p n) (jS (iN (lk y p n) y p) (jD (((n+1):Nat):Int)) p) p).ib:=rT s0 t2 ae ae;have r1:=Cc t2;exact tr true Tryz.call320 Tryz.func320 (chain [.c (wE _ ae:gV 303 [(iP 1)] _),.c (wE _ ae:gV 303 [(iP 1)] _),.s (Sp.jv (Yj y p n) 0 n ae (fun x hx kf=>by
    have t0:=vt hy il ic x;have s0:=Cq hy il ic x;have t1:(iN (lk y p x) y p).ib:=qC _ _ ae ae;have n1:(jD (((x+1:Nat)):Int)).ib:=BG _ ae;have t2:(jS (iN (lk y p x) y p) (jD (((x+1:Nat)):Int)) p).ib:=vG _ _ ae ae;exact iB (chain [.c (JX _ _ _ af af ae ae:gV 310 [(.agg [(iP p)]),(gZ (lk y p x)),(gZ y)] _),.c (wE _ ae:gV 303 [(iP (((x+1):Nat):Int))] _),.c (Gc _ _ _ af af ae ae:gV 307 [(.agg [(iP p)]),(gZ (iN (lk y p x) y p)),(gZ (jD (((x+1):Nat):Int)))] _),.c (AK _ _ _ af af ae ae:gV 308 [(.agg [(iP p)]),(gZ (sV y p x)),(gZ (jS (iN (lk y p x) y p) (jD (((x+1):Nat):Int)) p))] _),.c (JY _ _ af ae ae:gV 322 [(.agg [(iP p)]),(gZ (jS (iN (lk y p x) y p) (jD (((x+1):Nat):Int)) p))] _),tB 26 (iH x ae:(oz (jS (iN (lk y p x) y p) (jD (((x+1):Nat):Int)) p) p)=false),iq ((((x+1):Nat):Int)+1) ae]<|.e (chain [.b 6 (.iS rfl:Bx.le (.cells 41 (iY (jj (sV y p x) (jS (iN (lk y p x) y p) (jD (((x+1):Nat):Int)) p) p))) (.cells 41 (iY (sV y p (x+1))))),.b 5 (.iS rfl:Bx.le (.cells 41 (iY (jS (iN (lk y p x) y p) (jD (((x+1):Nat):Int)) p))) (.cells 41 (iY (lk y p (x+1)))))]<|.nil)) ah)
  (fun hx=>by
    exact iB (chain [.c (JX _ _ _ af af ae ae:gV 310 [(.agg [(iP p)]),(gZ (lk y p n)),(gZ y)] _),.c (wE _ ae:gV 303 [(iP (((n+1):Nat):Int))] _),.c (Gc _ _ _ af af ae ae:gV 307 [(.agg [(iP p)]),(gZ (iN (lk y p n) y p)),(gZ (jD (((n+1):Nat):Int)))] _),.c (AK _ _ _ af af ae ae:gV 308 [(.agg [(iP p)]),(gZ (sV y p n)),(gZ (jS (iN (lk y p n) y p) (jD (((n+1):Nat):Int)) p))] _),.c (JY _ _ af ae ae:gV 322 [(.agg [(iP p)]),(gZ (jS (iN (lk y p n) y p) (jD (((n+1):Nat):Int)) p))] _),tB 26 (hN:(oz (jS (iN (lk y p n) y p) (jD (((n+1):Nat):Int)) p) p)=true)]<|.nil) ah) ak:jq 4 Tryz.f320 (Yj y p n 0) (.exit 0) ⟨32,true,[(6,.box 6 0),(5,.box 5 0),(4,.box 4 0),(2,.box 2 0)],[(6,.cells 41 (iY (jj (sV y p n) (jS (iN (lk y p n) y p) (jD (((n+1):Nat):Int)) p) p))),(5,.cells 41 (iY (jS (iN (lk y p n) y p) (jD (((n+1):Nat):Int)) p))),(4,.cells 41 [(bP false),(.v (.slice none 0 0)),(iP 0),(bP false),(.v (.slice none 0 0)),(iP 0),(bP false)]),(2,.cells 201 [(iP p)])]⟩) (chain [.o 7 (.int aw:PV.le (.e (iP 1)) (.e (iP (((0+1):Nat):Int)))),.b 6 (.iS rfl:Bx.le (.cells 41 (iY (jD 1))) (.cells 41 (iY (sV y p 0)))),.b 5 (.iS rfl:Bx.le (.cells 41 (iY (jD 1))) (.cells 41 (iY (lk y p 0))))]<|.nil),.c (Yq _ af:gV 323 [(gZ (jS (iN (lk y p n) y p) (jD (((n+1):Nat):Int)) p))] _),.c (AK _ _ _ af af ae ae:gV 308 [(.agg [(iP p)]),(gZ (jj (sV y p n) (jS (iN (lk y p n) y p) (jD (((n+1):Nat):Int)) p) p)),(gZ (qH (jS (iN (lk y p n) y p) (jD (((n+1):Nat):Int)) p)))] _)]<|rR (gZ (xS y p (n+1))) (.iS rfl:E.le (gZ (jj (jj (sV y p n) (jS (iN (lk y p n) y p) (jD (((n+1):Nat):Int)) p) p) (qH (jS (iN (lk y p n) y p) (jD (((n+1):Nat):Int)) p)) p)) (gZ (xS y p (n+1))))) ah 
theorem alW{y:Iv}(hy:y.ib)(hb:y.all=true\/Sub y (pj (-1))){p:Nat}(il:8<=p)(ic:p<=512):∃ Z,Z.ib/\(∀ r,y.jX r->pf (EQ r) Z)/\gV 320 [.agg [iP (p:Int)],gZ y] (gZ Z):=by
 obtain⟨N,h1,h2,h3,h4⟩:=acI hy hb il ic;obtain⟨n,rfl⟩:∃ n,N=n+1:=⟨N-1,ae⟩
 exact⟨xS y p (n+1),acH hy il ic _,fun r hr=>acG hy hr hb il ic h1 h2,alV y p n hy il ic ae (fun x hx=>h3 (x+1) ae ae) h4⟩
theorem alY(y Z:Iv)(p:Nat)(aea:gV 320 [.agg [iP (p:Int)],gZ y] (gZ Z)):gV 306 [(.agg [(iP p)]),(gZ y),(iP 0)] (gZ Z):=by
 exact tr true Tryz.call306 Tryz.func306 (chain [tB 8 (ag:((0:Int)==0)=true),.c (aea:gV 320 [(.agg [(iP p)]),(gZ y)] _)]<|.nil) ah 
theorem alX(y Z:Iv)(p n:Nat)(hy:y.ib)(hZ:Z.ib)(hn:n<=1000)(hH:gV 306 [.agg [iP (p:Int)],gZ (mK y (-1)),iP (n:Int)] (gZ Z))(il:8<=p)(ic:p<=512):gV 306 [(.agg [(iP p)]),(gZ y),(iP (((n+1):Nat):Int))] (gZ (om Z p)):=by
 exact tr true Tryz.call306 Tryz.func306 (chain [tB 8 (nj ae:((((n+1):Nat):Int)==0)=false),.c (Kh _ af _ ae ae:gV 259 [(gZ y),(iP (-1))] _),iq ((((n+1):Nat):Int)-1) ae,.c (by rw[show(((n+1:Nat):Int)-1)=(n:Int)by omega];exact hH:gV 306 [(.agg [(iP p)]),(gZ (mK y (-1))),(iP ((((n+1):Nat):Int)-1))] (gZ Z)),.c (PI _ af _ ae ae:gV 321 [(gZ Z),(iP p)] _)]<|.nil) ah 
theorem Yk{p:Nat}(il:8<=p)(ic:p<=512):∀ (n:Nat) {y:Iv},n<=500->y.ib->(y.all=true\/Sub y (pj ((n:Int)-1)))->∃ Z,Z.ib/\(∀ r,y.jX r->pf (EQ r) Z)/\gV 306 [.agg [iP (p:Int)],gZ y,iP (n:Int)] (gZ Z)
 | 0,y,_,hy,hb=>by
  obtain⟨Z,h1,h2,h3⟩:=alW hy (by simpa using hb) il ic;exact⟨Z,h1,h2,alY y Z p h3⟩
 |n+1,y,hn,hy,hb=>by
  have hs:=Jx hy (-1);have mo:(mK y (-1)).all=true\/Sub (mK y (-1)) (pj ((n:Int)-1)):=by
   rcases hb with hb|hb
   .left;unfold mK;rw[aR hb];rfl
   .have:=aj6 hb
    rwa[show(((n+1:Nat):Int)-1-1)=(n:Int)-1 by omega]at this
  obtain⟨Z,h1,h2,h3⟩:=Yk il ic n ae hs mo;exact⟨om Z p,JE h1 ae ae,fun r hr=>af6 h1 (h2 _ (Oe hr (-1))) ae ae,alX y Z p n hy h1 ae h3 il ic⟩
theorem OM(p m:Nat)(h1:p<=512)(h2:m<=1000):gV 304 [(iP p),(iP m)] (.agg [iP (((min (p+m) 512:Nat)):Int)]):=by
 exact tr true Tryz.call304 Tryz.func304 (chain [iq ((p:Int)+(m:Int)) ae,.o 8 (.int au:PV.le (.e (iP (if 512<(((p+m):Nat):Int)then 512 else(((p+m):Nat):Int)))) (.e (iP (((min (p+m) 512):Nat):Int))))]<|.nil) ah 
theorem ami(d:Dy)(p:Nat)(hd:d.ib)(h0:d.iK=0)(il:8<=p)(ic:p<=512):gV 282 [(gY d),(iP p)] (gZ (jD 1)):=by
 exact tr true Tryz.call282 Tryz.func282 (chain [.c (nT _ af:gV 35 [(gY d)] _),tB 9 (by rw[h0];rfl:((Dy.iK d)==0)=true),.c (wE _ ae:gV 303 [(iP 1)] _)]<|.nil) ah 
theorem F2{d:Dy}(hd:d.ib):-100000<=d.iu:=by
 unfold Dy.iu;have:=hd.exp;split<;>omega
theorem aln{d:Dy}(h:d.m=0):d.iu=0:=by unfold Dy.iu;rw[aR h]
theorem amh(d:Dy)(p:Nat)(Z:Iv)(hd:d.ib)(h0:d.iK≠0)(ht:d.iu<=100)(hZ:Z.ib)(hH:gV 306 [.agg [iP ((((min (p+(((d.iu+1).toNat)+24)) 512):Nat)):Int)],gZ (lK (me d) (min (p+(((d.iu+1).toNat)+24)) 512)),iP (((((d.iu+1).toNat):Nat)):Int)] (gZ Z))(il:8<=p)(ic:p<=512):gV 282 [(gY d),(iP p)] (gZ (lK Z p)):=by
 have rH:-100000<=d.iu:=F2 hd;have vp:=vh hd;exact tr true Tryz.call282 Tryz.func282 (chain [.c (nT _ af:gV 35 [(gY d)] _),tB 9 (by simpa using h0:((Dy.iK d)==0)=false),.c (oC _ af:gV 130 [(gY d)] _),iq ((Dy.iu d)+1) ae,.o 14 (.int au:PV.le (.e (iP (if 0>((Dy.iu d)+1)then 0 else((Dy.iu d)+1)))) (.e (iP ((d.iu+1).toNat:Int)))),iq (((d.iu+1).toNat:Int)+24) ae,.c (OM _ _ ae ae:gV 304 [(iP p),(iP (((((d.iu+1).toNat)+24):Nat):Int))] _),.c (C2 d af),.c (DR _ af _ ae ae:gV 305 [(gZ (me d)),(iP (((min (p+(((d.iu+1).toNat)+24)) 512):Nat):Int))] _),.c (hH:gV 306 [(.agg [(iP (((min (p+(((d.iu+1).toNat)+24)) 512):Nat):Int))]),(gZ (lK (me d) (min (p+(((d.iu+1).toNat)+24)) 512))),(iP ((d.iu+1).toNat:Int))] _),.c (DR _ af _ ae ae:gV 305 [(gZ Z),(iP p)] _)]<|.nil) ah 
theorem aks{d:Dy}(h:d.iK≠0):d.m≠0:=fun q=>h (by unfold Dy.iK;rw[aR q])
theorem Yt{d:Dy}(hd:d.ib)(ht:d.iu<=100){p:Nat}(il:8<=p)(ic:p<=512):∃ Z,Z.ib/\pf (EQ d.q) Z/\gV 282 [gY d,iP (p:Int)] (gZ Z):=by
 by_cases h0:d.iK=0
 .refine ⟨jD 1,vc ag,?_,ami d p hd h0 il ic⟩
  have hq:d.q=0:=by
   have h1:=qP d;rw[h0]at h1;have a:=h1.1.2;have b:=h1.2.2;have:¬0<d.q:=fun q=>absurd (a q) ag 
   have:¬d.q<0:=fun q=>absurd (b q) ag 
   grind
  rw[hq];exact pf.Nl (k:=0) fun N _=>by rw[YC];exact yK 1
 .have hm:=aks h0
  obtain⟨P,hP⟩:∃ P,P=min (p+((d.iu+1).toNat+24)) 512:=⟨_,rfl⟩
  have hb:=acD hd hm (p:=P) ae ae (n:=((d.iu+1).toNat:Int)-1) ae ae ae;obtain⟨Z,h1,h2,h3⟩:=Yk (p:=P) ae ae ((d.iu+1).toNat) ae (Ds (vh hd) ae ae) (.inr hb);subst hP;refine⟨lK Z p,Ds h1 ae ae,?_,amh d p Z hd h0 ht h1 h3 il ic⟩;have hl:=h2 _ (FR (vh hd) ae ae (Nz d));exact af8 hl fun r hr=>FR h1 ae ae hr
theorem Yr(a b:Iv)(ha:a.ib)(hb:b.ib):gV 281 [(gZ a),(gZ b)] (gZ (tA a b)):=by
 exact tr true Tryz.call281 Tryz.func281 (.w (a.all=true)
  (fun k1=>chain [tB 6 (k1),.c nv]<|rQ (gZ ie) (gZ (tA a b)) (by unfold tA;simp[k1]))
  (fun k1=>chain [tB 6 (aM k1)]<|.w (b.all=true)
   (fun k2=>chain [tB 9 (k2),.c nv]<|rQ (gZ ie) (gZ (tA a b)) (by unfold tA;simp[k1,k2]))
   (fun k2=>chain [tB 9 (aM k2)]<|rQ (gZ (Iv.mk a.lo b.hi false)) (gZ (tA a b)) (by unfold tA;simp[k1,k2])))) ah 
def sI(d:Dy):Bool:=decide (jm (kY d) (jd 1000)<=0)
theorem Gg(d:Dy)(hd:d.ib):gV 280 [(gY d)] (bP (sI d)):=by
 have ha:=ru hd;have hi:(jd 1000).ib:=rZ ag;exact tr true Tryz.call280 Tryz.func280 (chain [.c (D5 d af),.c (qI _ ae:gV 113 [(iP 1000)] _),.c (nS _ _ af af:gV 37 [(gY (kY d)),(gY (jd 1000))] _)]<|.nil) ah 
theorem B5(x:Iv)(p:Nat)(hx:x.ib)(il:8<=p)(ic:p<=512):gV 279 [(gZ x),(iP p)] (bP (!x.all)):=by
 exact tr true Tryz.call279 Tryz.func279 (.w (x.all=true)
  (fun k1=>chain [tB 6 (k1)]<|rQ (bP false) (bP (!x.all)) (by simp[k1]))
  (fun k1=>chain [tB 6 (aM k1),.c (qM x af),tT 14 (8<=(p:Int)) ae,tT 18 ((p:Int)<=512) ae]<|rQ (bP true) (bP (!x.all)) (by simp[k1]))) ah 
theorem al6(x:Iv)(p:Nat)(hx:x.ib)(il:8<=p)(ic:p<=512)(xa:x.all=true):gV 242 [(gZ x),(iP p)] (gZ ie):=by
 exact tr true Tryz.call242 Tryz.func242 (chain [.c (B5 _ _ af ae ae:gV 279 [(gZ x),(iP p)] _),tB 7 (by rw[xa];rfl:(!x.all)=false),.c nv]<|.nil) ah 
theorem al9(x:Iv)(p:Nat)(hx:x.ib)(il:8<=p)(ic:p<=512)(xa:x.all=false)(h1:sI x.lo=false):gV 242 [(gZ x),(iP p)] (gZ ie):=by
 obtain⟨w1,w2⟩:=hx.jZ;exact tr true Tryz.call242 Tryz.func242 (chain [.c (B5 _ _ af ae ae:gV 279 [(gZ x),(iP p)] _),tB 7 (by rw[xa];rfl:(!x.all)=true),.c (Gg _ af:gV 280 [(gY x.lo)] _),tB 12 (h1:(sI x.lo)=false),.c nv]<|.nil) ah 
theorem al7(x:Iv)(p:Nat)(hx:x.ib)(il:8<=p)(ic:p<=512)(xa:x.all=false)(h1:sI x.lo=true)(h2:sI x.hi=false):gV 242 [(gZ x),(iP p)] (gZ ie):=by
 obtain⟨w1,w2⟩:=hx.jZ;exact tr true Tryz.call242 Tryz.func242 (chain [.c (B5 _ _ af ae ae:gV 279 [(gZ x),(iP p)] _),tB 7 (by rw[xa];rfl:(!x.all)=true),.c (Gg _ af:gV 280 [(gY x.lo)] _),tB 12 (h1:(sI x.lo)=true),.c (Gg _ af:gV 280 [(gY x.hi)] _),tB 18 (h2:(sI x.hi)=false),.c nv]<|.nil) ah 
theorem al8(x:Iv)(p:Nat)(hx:x.ib)(il:8<=p)(ic:p<=512)(xa:x.all=false)(h1:sI x.lo=true)(h2:sI x.hi=true)(Z1 Z2:Iv)(z1:Z1.ib)(z2:Z2.ib)(k1:gV 282 [gY x.lo,iP (p:Int)] (gZ Z1))(k2:gV 282 [gY x.hi,iP (p:Int)] (gZ Z2)):gV 242 [(gZ x),(iP p)] (gZ (tA Z1 Z2)):=by
 obtain⟨w1,w2⟩:=hx.jZ;exact tr true Tryz.call242 Tryz.func242 (chain [.c (B5 _ _ af ae ae:gV 279 [(gZ x),(iP p)] _),tB 7 (by rw[xa];rfl:(!x.all)=true),.c (Gg _ af:gV 280 [(gY x.lo)] _),tB 12 (h1:(sI x.lo)=true),.c (Gg _ af:gV 280 [(gY x.hi)] _),tB 18 (h2:(sI x.hi)=true),.c (k1:gV 282 [(gY x.lo),(iP p)] _),.c (k2:gV 282 [(gY x.hi),(iP p)] _),.c (Yr _ _ af af:gV 281 [(gZ Z1),(gZ Z2)] _)]<|.nil) ah 
theorem UM{d:Dy}(hd:d.ib)(h:sI d=true):d.iu<=100:=by
 by_cases h0:d.m=0
 .rw [aln h0];decide
 .unfold sI at h
  rw[bW,o0,xt]at h;have hq:=yM d;have ha:jc d.q<=P2 10:=by
   have:P2 10=1024:= ar ;rw[this];have ad5:((1000:Int):Rat)=1000:=rfl;rw[ad5]at h;exact xF aq aq 
  have:=XY h0 ha;omega
theorem Rq{a b:Iv}(ha:a.ib)(hb:b.ib)(h:a.all=false->b.all=false->a.lo.q<=b.hi.q):(tA a b).ib:=by
 unfold tA;cases xa:a.all
 .cases xb:b.all
  .exact .inr ⟨rfl,ha.jZ.1,hb.jZ.2,(o0 _ _).2 (h xa xb)⟩
  .exact mh
 .exact mh
theorem OL{x:Iv}(hx:x.ib){p:Nat}(il:8<=p)(ic:p<=512):∃ Z,Z.ib/\gV 242 [gZ x,iP (p:Int)] (gZ Z):=by
 cases xa:x.all with
 |true=>exact⟨ie,mh,al6 x p hx il ic xa⟩
 |false=>
  cases h1:sI x.lo with
  |false=>exact⟨ie,mh,al9 x p hx il ic xa h1⟩
  |true=>
   cases h2:sI x.hi with
   |false=>exact⟨ie,mh,al7 x p hx il ic xa h1 h2⟩
   |true=>
    obtain⟨w1,w2⟩:=hx.jZ;obtain⟨Z1,z1,l1,k1⟩:=Yt w1 (UM w1 h1) il ic;obtain⟨Z2,z2,l2,k2⟩:=Yt w2 (UM w2 h2) il ic;exact⟨tA Z1 Z2,Rq z1 z2 fun a b=>af7 l1 l2 (fun ε hε=>Yz hx.q hε) a b,al8 x p hx il ic xa h1 h2 Z1 Z2 z1 z2 k1 k2⟩
open Go.RowKit Fp Pu
def Yl(z:Iv)(p N:Nat)(x:Nat):PS:=⟨39,true,[(8,.e (iP (((2*x+3):Nat):Int))),(7,.box 7 0),(6,.box 6 0),(5,.box 5 0),(4,.box 4 0),(2,.box 2 0)],[(7,.cells 41 (iY (ua z p x))),(6,.cells 41 (iY (nL z p x))),(5,.cells 41 (iY (om z p))),(4,.cells 41 [(bP false),(.v (.slice none 0 0)),(iP 0),(bP false),(.v (.slice none 0 0)),(iP 0),(bP false)]),(2,.cells 201 [(iP p)])]⟩
theorem alZ(z:Iv)(p N:Nat)(hz:z.ib)(il:8<=p)(ic:p<=512)(h2:N<=1000)(iH:∀ x,x<N->oz (nL z p x) p=false)(hN:oz (nL z p N) p=true):gV 309 [(.agg [(iP p)]),(gZ z)] (gZ (C6 z p N)):=by
 have hsq:=JE hz (show 1<=p by omega) (show p<=4096 by omega);have t0:=xk hz il ic N;have s0:=BA hz il ic N;have r0:=Cc t0;have a0:=rT s0 r0 (show 1<=p by omega) (show p<=4096 by omega);exact tr true Tryz.call309 Tryz.func309 (chain [.c (PI _ af _ ae ae:gV 321 [(gZ z),(iP p)] _),.s (Sp.jv (Yl z p N) 0 N ae (fun x hx kf=>by
    have t0:=xk hz il ic x;have s0:=BA hz il ic x;have q0:(iN (nL z p x) (om z p) p).ib:=qC _ _ ae ae;have n1:(jD (((2*x+3:Nat)):Int)).ib:=BG _ ae;have d1:(jS (iN (nL z p x) (om z p) p) (jD (((2*x+3:Nat)):Int)) p).ib:=vG _ _ ae ae;exact iB (chain [.c (JY p (nL z p x) af ae ae),tB 17 (iH x ae:(oz (nL z p x) p)=false),.c (JX p (nL z p x) (om z p) af af ae ae),.c (wE (((2*x+3):Nat):Int) ae),.c (Gc p (iN (nL z p x) (om z p) p) (jD (((2*x+3):Nat):Int)) af af ae ae),.c (AK p (ua z p x) (jS (iN (nL z p x) (om z p) p) (jD (((2*x+3):Nat):Int)) p) af af ae ae),iq ((((2*x+3):Nat):Int)+2) ae]<|.e (chain [.o 8 (.int aw:PV.le (.e (iP ((((2*x+3)+2):Nat):Int))) (.e (iP (((2*(x+1)+3):Nat):Int)))),.b 7 (.iS rfl:Bx.le (.cells 41 (iY (jj (ua z p x) (jS (iN (nL z p x) (om z p) p) (jD (((2*x+3):Nat):Int)) p) p))) (.cells 41 (iY (ua z p (x+1))))),.b 6 (.iS rfl:Bx.le (.cells 41 (iY (iN (nL z p x) (om z p) p))) (.cells 41 (iY (nL z p (x+1)))))]<|.nil)) ah)
  (fun hx=>by
    have t0:=xk hz il ic N;have s0:=BA hz il ic N;have q0:(iN (nL z p N) (om z p) p).ib:=qC _ _ ae ae;have n1:(jD (((2*N+3:Nat)):Int)).ib:=BG _ ae;have d1:(jS (iN (nL z p N) (om z p) p) (jD (((2*N+3:Nat)):Int)) p).ib:=vG _ _ ae ae;exact iB (chain [.c (JY p (nL z p N) af ae ae),tB 17 (hN:(oz (nL z p N) p)=true)]<|.nil) ah) ak:jq 4 Tryz.f309 (Yl z p N 0) (.exit 0) ⟨39,true,[(7,.box 7 0),(6,.box 6 0),(4,.box 4 0),(2,.box 2 0)],[(7,.cells 41 (iY (ua z p N))),(6,.cells 41 (iY (nL z p N))),(4,.cells 41 [(bP false),(.v (.slice none 0 0)),(iP 0),(bP false),(.v (.slice none 0 0)),(iP 0),(bP false)]),(2,.cells 201 [(iP p)])]⟩) (chain [.o 8 (.int aw:PV.le (.e (iP 3)) (.e (iP (((2*0+3):Nat):Int)))),.b 7 (.iS rfl:Bx.le (.cells 41 (iY z)) (.cells 41 (iY (ua z p 0)))),.b 6 (.iS rfl:Bx.le (.cells 41 (iY z)) (.cells 41 (iY (nL z p 0))))]<|.nil),.c (Yq _ af:gV 323 [(gZ (nL z p N))] _),.c (AK p (ua z p N) (qH (nL z p N)) af af ae ae),.c (Kh (jj (ua z p N) (qH (nL z p N)) p) af 1 ae ae)]<|rR (gZ (C6 z p N)) (.refl _:E.le (gZ (mK (jj (ua z p N) (qH (nL z p N)) p) 1)) (gZ (C6 z p N)))) ah 
def B6(f:Nat->Rat)(X:Iv):Prop:=∃ N0,∀ M,N0<=M->X.jX (f M)
theorem B6.mono{f:Nat->Rat}{X Y:Iv}(h:B6 f X)(k:∀ r,X.jX r->Y.jX r):B6 f Y:=h.imp fun _ h M hM=>k _ (h M hM)
theorem Ym{z:Iv}(hz:z.ib)(hb:z.all=true\/Sub z (pj (-1))){p:Nat}(il:8<=p)(ic:p<=512):∃ Z,Z.ib/\(∀ r,z.jX r->jc r*2<=1->B6 (fun M=>AQ r M*2) Z)/\gV 309 [(.agg [(iP p)]),(gZ z)] (gZ Z):=by
 obtain⟨N,h1,h2,h3⟩:=af5 hz hb il ic;exact⟨C6 z p N,af4 hz il ic N,fun r hr ha=>⟨N,fun M hM=>af3 hz hr ha il ic h1 M hM⟩,alZ z p N hz il ic h1 h2 h3⟩
theorem alh{p:Nat}(il:8<=p)(ic:p<=512):(jS (jD 1) (jD 3) p).ib/\(jS (jD 1) (jD 3) p).jX (1/3)/\Sub (jS (jD 1) (jD 3) p) (pj (-1)):=by
 have v1:(jD 1).ib:=vc ag;have v3:(jD 3).ib:=vc ag;have h1:=yK 1;have h3:=yK 3;refine⟨vG _ _ ae ae,?_,?_⟩
 .have:=G4 v1 v3 (p:=p) ae ae h1 h3
  rwa[show((1:Int):Rat)/((3:Int):Rat)=1/3 from rfl]at this
 .have hs:lL (jD 3)≠0:=Om rfl (.inl (by show 0<(jd 3).q;rw[xt];decide))
  refine DT (G3 v1 v3 rfl hs (p:=p) ae ae) ae ag ag ?_;rintro r ⟨a,b,ha,hb,rfl⟩;obtain⟨a1,a2⟩:=ha.jZ rfl;obtain⟨b1,b2⟩:=hb.jZ rfl;change (jd 1).q<=a at a1;change a<=(jd 1).q at a2;change (jd 3).q<=b at b1;change b<=(jd 3).q at b2;rw[xt]at a1 a2 b1 b2;have ea:a=1:=dL a2 a1;have eb:b=3:=dL b2 b1;subst ea eb;have:P2 (-1)=1/2:= ar ;rw[this];exact⟨ar,ar⟩
theorem amb(p:Nat)(Z:Iv)(hZ:Z.ib)(hL:gV 309 [.agg [iP ((((min (p+16) 512):Nat)):Int)],gZ (jS (jD 1) (jD 3) (min (p+16) 512))] (gZ Z))(il:8<=p)(ic:p<=512):gV 311 [(iP p)] (gZ (lK Z p)):=by
 have v1:(jD 1).ib:=vc ag;have v3:(jD 3).ib:=vc ag;exact tr true Tryz.call311 Tryz.func311 (chain [tF 5 ((p:Int)<8) ae,tF 8 (512<(p:Int)) ae,.c (OM p 16 ae ae),.c (wE 1 ae),.c (wE 3 ae),.c (Gc (min (p+16) 512) (jD 1) (jD 3) af af ae ae),.c (hL:gV 309 [(.agg [(iP (((min (p+16) 512):Nat):Int))]),(gZ (jS (jD 1) (jD 3) (min (p+16) 512)))] _),.c (DR Z af p ae ae)]<|.nil) ah 
theorem ama{p:Nat}(il:8<=p)(ic:p<=512):∃ Z,Z.ib/\B6 (fun M=>AQ (1/3) M*2) Z/\gV 311 [iP (p:Int)] (gZ Z):=by
 obtain⟨t1,t2,t3⟩:=alh (p:=min (p+16) 512) ae ae;obtain⟨Z,h1,h2,h3⟩:=Ym t1 (.inr t3) (p:=min (p+16) 512) ae ae;refine⟨lK Z p,Ds h1 ae ae,(h2 _ t2 ar).mono fun r hr=>FR h1 ae ae hr,amb p Z h1 h3 il ic⟩
def xB:Iv:=⟨jx,jx,false⟩
theorem Yu:E.le (.agg [bP false,.v (.slice none 0 0),iP 0,bP false,.v (.slice none 0 0),iP 0,bP false]) (gZ xB):=
 .agg (.cons (.refl _) (.cons Al (.cons (.refl _) (.cons (.refl _) (.cons Al (.cons (.refl _) (.cons (.refl _) .nil)))))))
theorem amf(d:Dy)(p:Nat)(hd:d.ib)(h1:jm d ⟨false,1,0⟩=0)(il:8<=p)(ic:p<=512):gV 283 [(gY d),(iP p)] (gZ xB):=by
 have v1:=De;exact tr true Tryz.call283 Tryz.func283 (chain [.c (Kf:gV 113 [(iP 1)] _),.c (nS _ _ af af:gV 37 [(gY d),(gY (Dy.mk false 1 0))] _),tB 12 (by rw[h1];rfl:((jm d (Dy.mk false 1 0))==0)=true)]<|rR (gZ xB) (Yu:E.le (.agg [(bP false),(.v (.slice none 0 0)),(iP 0),(bP false),(.v (.slice none 0 0)),(iP 0),(bP false)]) (gZ xB))) ah 
theorem amg(d:Dy)(p:Nat)(Z Y:Iv)(hd:d.ib)(h1:¬jm d ⟨false,1,0⟩=0)(Tk:-20000<=d.iu)(rH:d.iu<=20000)(hZ:Z.ib)(hY:Y.ib)(hL:gV 309 [.agg [iP ((((min (p+40) 512):Nat)):Int)],gZ (jS (jj (mK (lK (me d) (min (p+40) 512)) (0-(Dy.iu d))) (jD (-1)) (min (p+40) 512)) (jj (mK (lK (me d) (min (p+40) 512)) (0-(Dy.iu d))) (jD 1) (min (p+40) 512)) (min (p+40) 512))] (gZ Z))(hL2:gV 311 [iP ((((min (p+40) 512):Nat)):Int)] (gZ Y))(il:8<=p)(ic:p<=512):gV 283 [(gY d),(iP p)] (gZ (lK (jj Z (iN (jD d.iu) Y (min (p+40) 512)) (min (p+40) 512)) p)):=by
 have v1:=De;have vp:=vh hd;have vr:(lK (me d) (min (p+40) 512)).ib:=Ds vp ae ae;have vs:(mK (lK (me d) (min (p+40) 512)) (0-(Dy.iu d))).ib:=Jx vr _;have n1:(jD 1).ib:=vc ag;have n2:(jD (-1)).ib:=vc ag;have a1:(jj (mK (lK (me d) (min (p+40) 512)) (0-(Dy.iu d))) (jD (-1)) (min (p+40) 512)).ib:=rT vs n2 ae ae;have a2:(jj (mK (lK (me d) (min (p+40) 512)) (0-(Dy.iu d))) (jD 1) (min (p+40) 512)).ib:=rT vs n1 ae ae;have a3:(jS (jj (mK (lK (me d) (min (p+40) 512)) (0-(Dy.iu d))) (jD (-1)) (min (p+40) 512)) (jj (mK (lK (me d) (min (p+40) 512)) (0-(Dy.iu d))) (jD 1) (min (p+40) 512)) (min (p+40) 512)).ib:=vG _ _ ae ae;have nt:(jD d.iu).ib:=vc ae;have m1:(iN (jD d.iu) Y (min (p+40) 512)).ib:=qC _ _ ae ae;have m2:(jj Z (iN (jD d.iu) Y (min (p+40) 512)) (min (p+40) 512)).ib:=rT hZ m1 ae ae;exact tr true Tryz.call283 Tryz.func283 (chain [.c (Kf:gV 113 [(iP 1)] _),.c (nS _ _ af af:gV 37 [(gY d),(gY (Dy.mk false 1 0))] _),tB 12 (by simpa using h1:((jm d (Dy.mk false 1 0))==0)=false),.c (OM p 40 ae ae),.c (oC _ af:gV 130 [(gY d)] _),.c (C2 d af),.c (DR (me d) af (min (p+40) 512) ae ae),
  iq (0-(Dy.iu d)) ae,.c (Kh (lK (me d) (min (p+40) 512)) af (0-(Dy.iu d)) ae ae),.c (wE (-1) ae),.c (AK (min (p+40) 512) (mK (lK (me d) (min (p+40) 512)) (0-(Dy.iu d))) (jD (-1)) af af ae ae),.c (wE 1 ae),.c (AK (min (p+40) 512) (mK (lK (me d) (min (p+40) 512)) (0-(Dy.iu d))) (jD 1) af af ae ae),.c (Gc (min (p+40) 512) (jj (mK (lK (me d) (min (p+40) 512)) (0-(Dy.iu d))) (jD (-1)) (min (p+40) 512)) (jj (mK (lK (me d) (min (p+40) 512)) (0-(Dy.iu d))) (jD 1) (min (p+40) 512)) af af ae ae),.c (hL:gV 309 [(.agg [(iP (((min (p+40) 512):Nat):Int))]),(gZ (jS (jj (mK (lK (me d) (min (p+40) 512)) (0-(Dy.iu d))) (jD (-1)) (min (p+40) 512)) (jj (mK (lK (me d) (min (p+40) 512)) (0-(Dy.iu d))) (jD 1) (min (p+40) 512)) (min (p+40) 512)))] _),.c (wE (Dy.iu d) ae),.c (hL2:gV 311 [(iP (((min (p+40) 512):Nat):Int))] _),.c (JX (min (p+40) 512) (jD (Dy.iu d)) Y af af ae ae),.c (AK (min (p+40) 512) Z (iN (jD (Dy.iu d)) Y (min (p+40) 512)) af af ae ae),.c (DR (jj Z (iN (jD (Dy.iu d)) Y (min (p+40) 512)) (min (p+40) 512)) af p ae ae)]<|.nil) ah 
theorem Ys{d:Dy}(hd:d.ib)(hq:0<d.q){p:Nat}(il:8<=p)(ic:p<=512):∃ Z,Z.ib/\B6 (LQ d) Z/\gV 283 [gY d,iP (p:Int)] (gZ Z):=by
 by_cases h1:jm d ⟨false,1,0⟩=0
 .refine ⟨xB,.inr ⟨rfl,rm,rm,yE _⟩,⟨0,fun M _=>?_⟩,amf d p hd h1 il ic⟩
  have e:d=⟨false,1,0⟩:=by
   refine Jf hd.canon De.canon (dL ((o0 _ _).1 ae) ((o0 _ _).1 ?_));rw[wK];have:=wK d ⟨false,1,0⟩;omega
  rw[e,YH];exact .inr ⟨by show jx.q<=0;rw[qY];exact b9,by show 0<=jx.q;rw[qY];exact b9⟩
 .have hm:=Dg hq
  obtain⟨t1,t2⟩:=XZ hd hm;obtain⟨P,hP⟩:∃ P,P=min (p+40) 512:=⟨_,rfl⟩
  have p1:8<=P:= ae ;have p2:P<=512:= ae ;obtain⟨z1,z2,z3⟩:=agq hd hq p1 p2;obtain⟨Z,a1,a2,a3⟩:=Ym z1 z3 p1 p2;obtain⟨Y,b1,b2,b3⟩:=ama p1 p2;have m1:(iN (jD d.iu) Y P).ib:=qC _ _ ae ae;have m2:=rT a1 m1 (p:=P) ae ae;refine⟨lK (jj Z (iN (jD d.iu) Y P) P) p,Ds m2 ae ae,?_,?_⟩
  .have hz:=OP hq
   have ha:jc (y7 d)*2<=1:=by
    have:=xF (x:=y7 d) (b:=1/3) aq aq 
    grind
   obtain⟨N1,c1⟩:=a2 _ z2 ha;obtain⟨N2,c2⟩:=b2;refine⟨max N1 N2,fun M hM=>FR m2 ae ae ?_⟩;exact xH a1 m1 ae ae (c1 M ae) (IZ (vc ae) b1 ae ae (yK d.iu) (c2 M ae))
  .subst hP
   have e:C7 d (min (p+40) 512)=jS (jj (mK (lK (me d) (min (p+40) 512)) (0-(Dy.iu d))) (jD (-1)) (min (p+40) 512)) (jj (mK (lK (me d) (min (p+40) 512)) (0-(Dy.iu d))) (jD 1) (min (p+40) 512)) (min (p+40) 512):=by unfold C7 tc;rw[show -d.iu=0-d.iu by omega]
   rw[e]at a3;exact amg d p Z Y hd h1 ae ae a1 b1 a3 b3 il ic
theorem amc(x:Iv)(p:Nat)(hx:x.ib)(il:8<=p)(ic:p<=512)(xa:x.all=true):gV 243 [(gZ x),(iP p)] (gZ ie):=by
 exact tr true Tryz.call243 Tryz.func243 (chain [.c (B5 x p af ae ae),tB 7 (by rw[xa];rfl:(!x.all)=false),.c nv]<|.nil) ah 
theorem ame(x:Iv)(p:Nat)(hx:x.ib)(il:8<=p)(ic:p<=512)(xa:x.all=false)(h1:x.lo.iK<=0):gV 243 [(gZ x),(iP p)] (gZ ie):=by
 obtain⟨w1,w2⟩:=hx.jZ;exact tr true Tryz.call243 Tryz.func243 (chain [.c (B5 x p af ae ae),tB 7 (by rw[xa];rfl:(!x.all)=true),.c (nT _ af:gV 35 [(gY x.lo)] _),tB 13 (aS h1),.c nv]<|.nil) ah 
theorem amd(x:Iv)(p:Nat)(hx:x.ib)(il:8<=p)(ic:p<=512)(xa:x.all=false)(h1:¬x.lo.iK<=0)(Z1 Z2:Iv)(z1:Z1.ib)(z2:Z2.ib)(k1:gV 283 [gY x.lo,iP (p:Int)] (gZ Z1))(k2:gV 283 [gY x.hi,iP (p:Int)] (gZ Z2)):gV 243 [(gZ x),(iP p)] (gZ (tA Z1 Z2)):=by
 obtain⟨w1,w2⟩:=hx.jZ;exact tr true Tryz.call243 Tryz.func243 (chain [.c (B5 x p af ae ae),tB 7 (by rw[xa];rfl:(!x.all)=true),.c (nT _ af:gV 35 [(gY x.lo)] _),tB 13 (aT h1),.c (k1:gV 283 [(gY x.lo),(iP p)] _),.c (k2:gV 283 [(gY x.hi),(iP p)] _),.c (Yr Z1 Z2 af af)]<|.nil) ah 
theorem ON{x:Iv}(hx:x.ib){p:Nat}(il:8<=p)(ic:p<=512):∃ Z,Z.ib/\gV 243 [gZ x,iP (p:Int)] (gZ Z):=by
 cases xa:x.all with
 |true=>exact⟨ie,mh,amc x p hx il ic xa⟩
 |false=>
  by_cases h1:x.lo.iK<=0
  .exact ⟨ie,mh,ame x p hx il ic xa h1⟩
  .obtain ⟨w1,w2⟩:=hx.jZ
   have q1:0<x.lo.q:=(qP _).1.1 ae;have q2:0<x.hi.q:=by have:=hx.q;grind
   obtain⟨Z1,z1,⟨N1,l1⟩,k1⟩:=Ys w1 q1 il ic;obtain⟨Z2,z2,⟨N2,l2⟩,k2⟩:=Ys w2 q2 il ic;refine⟨tA Z1 Z2,Rq z1 z2 fun a b=>?_,amd x p hx il ic xa h1 Z1 Z2 z1 z2 k1 k2⟩;have e1:=((l1 (max N1 N2) ae).jZ a).1;have e2:=((l2 (max N1 N2) ae).jZ b).2;have e3:=YG q1 hx.q (max N1 N2);exact bH e1 (bH e3 e2)
open Go.RowKit Fp Pu
def tZ(a s:Nat):Prop:=s*s<=a/\a<(s+1)*(s+1)
theorem WM(a:Nat):∃ s,tZ a s:=by
 induction a with
 |zero=>exact⟨0,ag,ag⟩
 |succ a ih=>
  obtain⟨s,h1,h2⟩:=ih;by_cases h:(s+1)*(s+1)<=a+1
  .refine ⟨s+1,h,?_⟩
   have:(s+1+1)*(s+1+1)=(s+1)*(s+1)+2*(s+1)+1:=by
    simp only[bK,bn,bJ,bO];omega
   omega
  .exact ⟨s,ae,ae⟩
theorem ajD{a s t:Nat}(h:tZ a s)(ht:t*t<=a):t<=s:=by
 apply bE;intro iD;have:=cK (show s+1<=t by omega) (show s+1<=t by omega);have:=h.2;omega
def oY(a x:Nat):Nat:=(x+a/x)/2
theorem ag2{a s x:Nat}(h:tZ a s)(hx:0<x):s<=oY a x:=by
 unfold oY;apply bE;intro iD;have h1:x+a/x<2*s:=by generalize a/x=q at *;omega
 have h2:a<(a/x+1)*x:=by
  have:=bU a x;have:=bg a hx;rw[bK,bJ,a7 (a/x)];omega
 have hq:a/x+1<=2*s-x/\x<=2*s:=by
  generalize a/x=q at *
  omega
 have h3:(a/x+1)*x<=(2*s-x)*x:=bC x hq.1;have amE:=hq.2;have h4:(2*s-x)*x<=s*s:=by
  obtain⟨k,hk⟩:∃ k,2*s=x+k:=⟨2*s-x,by clear h1 h2 h3 iD hq;omega⟩
  rw[show 2*s-x=k by clear h1 h2 h3 iD hq;omega];clear h1 h2 h3 iD hq;rcases Nat.le_total x s with pT|pT
  .obtain ⟨e,rfl⟩:∃ e,s=x+e:=⟨s-x,ae⟩
   obtain rfl:k=x+2*e:= ae ;simp only[bK,bn,a7 x e,bc];have:0<=e*e:=bL _;have e1:e*(2*x)=2*(e*x):=cD e 2 x;omega
  .obtain ⟨e,rfl⟩:∃ e,x=s+e:=⟨x-s,ae⟩
   obtain⟨f,hf⟩:∃ f,s=k+f:=⟨s-k,ae⟩
   obtain rfl:f=e:= ae ;subst hf;simp only[bK,bn,a7 f k];have:0<=f*f:=bL _;omega
 have:=h.1;omega
theorem ag1{a s x:Nat}(h:tZ a s)(hx:0<x)(hs:s<=x)(hy:x<=oY a x):x=s:=by
 have h1:x<=a/x:=by unfold oY at hy;omega
 have h2:x*x<=a:=(cL hx).1 h1;have:=ajD h h2;omega
def kA(a x:Nat):Nat->Nat
 | 0=>x
 |k+1=>oY a (kA a x k)
theorem ajE(a:Nat){s:Nat}(h:tZ a s):s<=2^((ia a+1)/2):=by
 apply bE;intro iD;have h1:(2^((ia a+1)/2))*(2^((ia a+1)/2))<=s*s:=cK ae ae;rw[<-aV]at h1;have h2:=oM a;have h3:2^ia a<=2^((ia a+1)/2+(ia a+1)/2):=bh ag ae;have:=h.1;omega
theorem ajC{a x s:Nat}(h:tZ a s)(ha:0<a)(hx:s<=x):∃ N,N<=x/\(∀ k,k<N->oY a (kA a x k)<kA a x k)/\kA a x N<=oY a (kA a x N)/\kA a x N=s/\∀ k,k<=N->s<=kA a x k/\kA a x k<=x:=by
 have hs:0<s:=by
  apply bE;intro h0;obtain rfl:s=0:= ae ;have:=h.2;omega
 have pO:∀ k,s<=kA a x k:=fun k=>by
  induction k with
  |zero=>exact hx
  |succ k ih=>exact ag2 h ae 
 have hex:∃ k,k<x+1/\decide (kA a x k<=oY a (kA a x k))=true:=by
  apply bE;intro hc;have hd:∀ k,k<x+1->oY a (kA a x k)<kA a x k:=fun k hk=>by
   apply bE;intro q;exact hc ⟨k,hk,aS ae⟩
  have hb:∀ k,k<=x+1->kA a x k+k<=x:=by
   intro k hk
   induction k with
   |zero=>exact aU _
   |succ k ih=>
    have:=ih ae;have:=hd k ae;show oY a (kA a x k)+(k+1)<=x;omega
  have:=hb (x+1) (aU _);omega
 obtain⟨N,n1,n2,n3⟩:=qB hex;have n2':=ct n2;have iD:∀ k,k<N->oY a (kA a x k)<kA a x k:=fun k hk=>by
  have:=fu (n3 k hk);omega
 have hle:∀ k,k<=N->kA a x k<=x:=by
  intro k hk
  induction k with
  |zero=>exact aU _
  |succ k ih=>
   have:=ih ae;have:=iD k ae;show oY a (kA a x k)<=x;omega
 have e:=ag1 h (by have:=pO N;omega) (pO N) n2';exact⟨N,ae,iD,n2',e,fun k hk=>⟨pO k,hle k hk⟩⟩
open Go.RowKit Fp Pu
def uk(m s:Nat)(e:Int)(p:Nat)(up:Bool):Dy:=jP false s e (decide (s*s≠m)) p up
def yV(m s:Nat)(e:Int)(p:Nat)(up:Bool):Int:=jG false s e (decide (s*s≠m)) p up
theorem akG{m s:Nat}{e:Int}{p:Nat}(h:tZ m s)(hb:p<ia s)(hp:1<=p)(ic:p<=4096)(he:yV m s e p false=0):0<=(uk m s e p false).q/\(uk m s e p false).q<=(s:Rat)*P2 e:=by
 unfold uk yV at *
 by_cases hx:s*s=m
 .rw [aT ae]at he ⊢
  have A:=D0 false s e hp ic;rw[qF]at A;simp only[bq,a6]at A;exact⟨(A.2 0 (.inl (wF p)) (bM cF (bA (mY e)))).2,(A.1 he).2⟩
 .rw [aS ae]at he ⊢
  obtain⟨h1,h2⟩:=Cm e hb false false;rw[h1];rw[h2]at he;have A:=D0 false (2*s+1) (e-1) hp ic;rw[qF]at A;simp only[bq,a6]at A;have h0:=(A.2 0 (.inl (wF p)) (bM cF (bA (mY (e-1))))).2;obtain⟨g,hl⟩:=A.1 he;refine⟨h0,?_⟩;rcases Ll (e:=e) hb (g.pos h0)with k|k
  .exact k
  .exfalso
   have ee:P2 e=P2 (e-1)*2:=by
    have:=qe (e-1) 1;rw[show e-1+1=e by omega,show P2 1=2 by decide +kernel]at this;exact this
   have vZ:=mY (e-1);have c1:((2*s+1:Nat):Rat)=2*(s:Rat)+1:=by rw[dK,cO];rfl
   have c2:((s+1:Nat):Rat)=(s:Rat)+1:=by rw[dK];rfl
   rw[c1]at hl;rw[c2,ee]at k
   grind
theorem akF{m s:Nat}{e:Int}{p:Nat}(h:tZ m s)(hb:p<ia s)(hp:1<=p)(ic:p<=4096)(he:yV m s e p true=0):0<=(uk m s e p true).q/\(m:Rat)*(P2 e*P2 e)<=(uk m s e p true).q*(uk m s e p true).q:=by
 have vZ:=mY e;have s0:(0:Rat)<=(s:Rat):=cF;have key:∀ D:Rat,(s:Rat)*P2 e<=D->(s*s≠m->((s+1:Nat):Rat)*P2 e<=D)->0<=D/\(m:Rat)*(P2 e*P2 e)<=D*D:=by
  intro D h1 h2;have d0:0<=D:=bH (bM s0 (bA vZ)) h1;refine⟨d0,?_⟩;have sq:∀ t:Nat,m<=t*t->(t:Rat)*P2 e<=D->(m:Rat)*(P2 e*P2 e)<=D*D:=by
   intro t ht hD;have t0:(0:Rat)<=(t:Rat):=cF;have c:(m:Rat)<=(t:Rat)*(t:Rat):=by
    have:=cX.2 ht;rwa[cO]at this
   have m1:=b8 c (bM (bA vZ) (bA vZ));have m2:=b8 hD (bM t0 (bA vZ));have m3:=cB hD d0;generalize (t:Rat)=T at *
   generalize P2 e=P at *
   have e1:T*T*(P*P)=T*P*(T*P):= aq 
   grind
  by_cases hx:s*s=m
  .exact sq s ae h1
  .exact sq (s+1) (by have:=h.2;omega) (h2 hx)
 unfold uk yV at *
 by_cases hx:s*s=m
 .rw [aT ae]at he ⊢
  have A:=D1 false s e hp ic;rw[qF]at A;simp only[bq,a6]at A;exact key _ (A.1 he).2 (fun q=>absurd hx q)
 .rw [aS ae]at he ⊢
  obtain⟨h1,h2⟩:=Cm e hb false true;rw[h1];rw[h2]at he;have A:=D1 false (2*s+1) (e-1) hp ic;rw[qF]at A;simp only[bq,a6]at A;obtain⟨g,hl⟩:=A.1 he;have ee:P2 e=P2 (e-1)*2:=by
   have:=qe (e-1) 1;rw[show e-1+1=e by omega,show P2 1=2 by decide +kernel]at this;exact this
  have il:=mY (e-1);have c1:((2*s+1:Nat):Rat)=2*(s:Rat)+1:=by rw[dK,cO];rfl
  rw[c1]at hl;have h0:0<=(jP false (2*s+1) (e-1) false p true).q:=bH (bM aq (bA il)) hl;have iD:(s:Rat)*P2 e<(jP false (2*s+1) (e-1) false p true).q:=by rw[ee];grind
  refine key _ (bA iD) fun _=>?_
  rcases Ll (e:=e) hb (g.pos h0)with k|k
  .exact absurd iD (dp.2 k)
  .exact k
theorem akH{a b:Rat}(ha:0<=a)(hb:0<=b)(h:a*a<=b*b):a<=b:=by
 apply dp.1;intro iD;have m1:=cB (bA iD) hb;have m2:=dM iD (show 0<a by grind)
 grind
theorem akI{m s n t:Nat}{e f:Int}{p:Nat}(h:tZ m s)(k:tZ n t)(hb:p<ia s)(kb:p<ia t)(hp:1<=p)(ic:p<=4096)(hle:(m:Rat)*(P2 e*P2 e)<=(n:Rat)*(P2 f*P2 f)):
 (kE (uk m s e p false) (yV m s e p false) (uk n t f p true) (yV n t f p true)).ib:=by
 unfold kE;split
 .exact mh
 .rename_i he
  obtain⟨a0,a1⟩:=akG (e:=e) h hb hp ic ae;obtain⟨b0,b1⟩:=akF (e:=f) k kb hp ic ae;refine .inr ⟨rfl,mi _ _ _ _ _ _ hp ic,mi _ _ _ _ _ _ hp ic,?_⟩;rw[o0];refine akH a0 b0 ?_;have s0:(0:Rat)<=(s:Rat):=cF;have vZ:=mY e;have m1:=cB a1 a0;have m2:=b8 a1 (bM s0 (bA vZ));have c:(s:Rat)*(s:Rat)<=(m:Rat):=by
   have:=cX.2 h.1;rwa[cO]at this
  have m3:=b8 c (bM (bA vZ) (bA vZ));generalize (uk m s e p false).q=A at *
  generalize (s:Rat)=S at *
  generalize P2 e=P at *
  have e1:S*S*(P*P)=S*P*(S*P):= aq 
  grind
open Go.RowKit Fp Pu
def U3(m N:Nat)(x:Nat):PS:=⟨43,true,[(5,.e (gX (gU (kA m (2^((ia m+1)/2)) x)))),(0,.e (gX (gU m)))],[]⟩
theorem UR(L M:List Nat)(hL:iC L)(hM:iC M)(h1:L.length<=3000)(h2:M.length<=3000):∃ S:List Nat,gV 260 [gX L,gX M] (gX S)/\val S=val L+val M/\iC S/\S.length=max L.length M.length+1:=by
 obtain⟨n,hn⟩:∃ n,n=max L.length M.length+1:=⟨_,rfl⟩
 have iD:val L+val M<4294967296^n:=by
  have a:=lY hL;have b:=lY hM;have e:4294967296^n=4294967296^max L.length M.length*4294967296:=by rw[hn,aZ]
  have c:=bh (show 0<4294967296 by decide) (Nat.le_max_left L.length M.length);have d:=bh (show 0<4294967296 by decide) (Nat.le_max_right L.length M.length);omega
 refine⟨iJ (val L+val M) n,?_,by rw[ux,bu iD],rU _ _,by rw[mC,hn]⟩;refine Ar hL hM Tryz.call260 (fun A c B d w h k _=>U5 A B c d L M w h k h1 h2) fun B w e w' hB r=>?_
 obtain⟨S,v1,v2,v3,r⟩:=r;rw[Co v2 (by rw[v3,hn]) v1];exact rl B w e w' hB r
theorem agO(L:List Nat)(n:Nat)(hL:iC L)(h1:L.length<=3000)(hn:n<=65536):∃ S:List Nat,gV 204 [gX L,iP (n:Int)] (gX S)/\val S=val L*2^n/\iC S:=by
 obtain⟨m,hm⟩:∃ m,m=n/32+(ij L).length+1:=⟨_,rfl⟩
 have iD:val L*2^n<4294967296^m:=by
  have a:=lY hL.ij;rw[oo]at a;have e:4294967296^m=4294967296^(ij L).length*2^(32*(n/32+1)):=by
   rw[hm,show n/32+(ij L).length+1=(ij L).length+(n/32+1)by omega,aV,Nat.pow_mul]
  rw[e];exact anb a (bh ag ae) (aY ag)
 refine⟨iJ (val L*2^n) m,?_,by rw[ux,bu iD],rU _ _⟩;refine Fx hL Tryz.call204 (fun A c w h _=>U6 A c L n w h ae hn) fun A c B w e w' h hB r=>?_
 obtain⟨S,v1,v2,v3,r⟩:=r;rw[Co v2 (by rw[v3,hm]) v1];exact rl B w e w' hB r
def yS(L:List Nat):List Nat:=qn (1%32) ((ij L).drop (1/32))
theorem U1(L:List Nat)(hL:iC L)(h1:L.length<=3000):gV 166 [gX L,iP 1] (gX (yS L)):=
 Fx (n:=((1:Nat):Int)) hL Tryz.call166 (fun A c w h _=>Nb A c L 1 w h ae ag) fun A c B w e w' h hB r=>rl B w e w' hB r
theorem Xf{L:List Nat}(hL:iC L):ij (yS L)=gU (val L/2):=by
 unfold yS;rw[qo (Am _ _),JV hL.ij,oo]
theorem Vb(m x:Nat):oY m x<=max x (m/x):=by
 unfold oY;generalize m/x=q;omega
theorem Uk(a b:Nat):(gU (max a b)).length<=max (gU a).length (gU b).length:=by
 rcases Nat.le_total a b with h|h
 .rw [Nat.max_eq_right h];omega
 .rw [Nat.max_eq_left h];omega
theorem agK(m:Nat)(h:(gU m).length<=256):gV 165 [gX (gU m)] (.iw [gX (gU m),iP 0]):=by
 have:=UU (gU m) (kB m) (by rw[tn];exact h);rwa[tn]at this
theorem agQ(m N:Nat)(h1:(gU m).length<=256)(h0:m≠0)(nf:∀ k,k<N->oY m (kA m (2^((ia m+1)/2)) k)<(kA m (2^((ia m+1)/2)) k))(qy:(kA m (2^((ia m+1)/2)) N)<=oY m (kA m (2^((ia m+1)/2)) N))(lV:∀ k,k<=N->0<(kA m (2^((ia m+1)/2)) k)/\(kA m (2^((ia m+1)/2)) k)<=(2^((ia m+1)/2))):gV 337 [(gX (gU m))] (.iw [gX (gU (kA m (2^((ia m+1)/2)) N)),iP 0]):=by
 have bm:=mR h0;have bl:=vD h1;have z0:(gU (2^((ia m+1)/2))).length<=256:=ng (by rw[show(2^((ia m+1)/2))=1*2^((ia m+1)/2)by omega,qf ag];show 1+_<=_;omega);have hlen:∀ k,k<=N->(gU (kA m (2^((ia m+1)/2)) k)).length<=256:=fun k hk=>aX (lW (lV k hk).2) z0
 obtain⟨S0,A7,sv,oS0⟩:=agO (gU 1) ((ia m+1)/2) (kB 1) ar ae;rw[jC,bJ]at sv;have hS0:gV 167 [gX S0] (gX (gU (2^((ia m+1)/2)))):=by
  have:=tg S0 oS0;rwa[qo oS0,sv]at this
 have zN:=hlen N ae;exact tr true Tryz.call337 Tryz.func337 (chain [.c (agL (gU m) af),.c (r9 _ ae:gV 194 [(gX (gU m))] _),tB 15 (nj ae:((ia m:Int)==0)=false),.o 16 (.e rN:PV.le (.e (.sl false 1 1 fun i_ j_=>[(.v (.int .u32 1))].getD (i_*1+j_) (.v (.bool false)))) (.e (gX (gU 1)))),iq ((ia m:Int)+1) ae,.a (ae:0<(2:Int)),
  iq (((((ia m)+1):Nat):Int)) ae,.c (A7:gV 204 [(gX (gU 1)),(iP (((((ia m)+1)/2):Nat):Int))] _),.c (hS0:gV 167 [(gX S0)] _),.s (Sp.jv (U3 m N) 0 N ae (fun x hx kf=>by
    obtain⟨xl,xu⟩:=lV x ae;obtain⟨Tq,Sq,Ep,dT,dS,oT,oS,lT,lS⟩:=M7 (gU m) (gU (kA m (2^((ia m+1)/2)) x)) (kB m) (kB _) ae (by have:=hlen x ae;omega) (by rw[jC];omega);rw[jC,jC]at dT;have zx:=hlen x ae;have LC:gV 167 [gX Tq] (gX (gU (m/(kA m (2^((ia m+1)/2)) x)))):=by
     have:=tg Tq oT;rwa[qo oT,dT]at this
    have zt:(gU (m/(kA m (2^((ia m+1)/2)) x))).length<=257:=aX (lW (bw _ _)) ae;obtain⟨Uq,hU,uv,oU,lU⟩:=UR (gU (kA m (2^((ia m+1)/2)) x)) (gU (m/(kA m (2^((ia m+1)/2)) x))) (kB _) (kB _) ae ae;rw[jC,jC]at uv;have hV:=U1 Uq oU ae;have CC:gV 167 [gX (yS Uq)] (gX (gU (oY m (kA m (2^((ia m+1)/2)) x)))):=by
     have:=tg (yS Uq) (Am _ _);rwa[Xf oU,uv]at this
    have zn:(gU (oY m (kA m (2^((ia m+1)/2)) x))).length<=257:=aX (lW (Vb m (kA m (2^((ia m+1)/2)) x))) (by have:=Uk (kA m (2^((ia m+1)/2)) x) (m/(kA m (2^((ia m+1)/2)) x));omega);exact iB (chain [.c (Ep:gV 319 [(gX (gU m)),(gX (gU (kA m (2^((ia m+1)/2)) x)))] _),.c (LC:gV 167 [(gX Tq)] _),.c (hU:gV 260 [(gX (gU (kA m (2^((ia m+1)/2)) x))),(gX (gU (m/(kA m (2^((ia m+1)/2)) x))))] _),.c (hV:gV 166 [(gX Uq),(iP 1)] _),.c (CC:gV 167 [(gX (yS Uq))] _),.c (yH _ _ ae ae:gV 131 [(gX (gU (oY m (kA m (2^((ia m+1)/2)) x)))),(gX (gU (kA m (2^((ia m+1)/2)) x)))] _),tF 37 (0<=(jY (oY m (kA m (2^((ia m+1)/2)) x)) (kA m (2^((ia m+1)/2)) x))) (by have:=nf x ae;have:=Cl.2 this;omega)]<|.e (chain [.o 5 (.e (.iS rfl):PV.le (.e (gX (gU (oY m (kA m (2^((ia m+1)/2)) x))))) (.e (gX (gU (kA m (2^((ia m+1)/2)) (x+1))))))]<|.nil)) ah)
  (fun hx=>by
    obtain⟨xl,xu⟩:=lV N ae;obtain⟨Tq,Sq,Ep,dT,dS,oT,oS,lT,lS⟩:=M7 (gU m) (gU (kA m (2^((ia m+1)/2)) N)) (kB m) (kB _) ae (by have:=hlen N ae;omega) (by rw[jC];omega);rw[jC,jC]at dT;have zx:=hlen N ae;have LC:gV 167 [gX Tq] (gX (gU (m/(kA m (2^((ia m+1)/2)) N)))):=by
     have:=tg Tq oT;rwa[qo oT,dT]at this
    have zt:(gU (m/(kA m (2^((ia m+1)/2)) N))).length<=257:=aX (lW (bw _ _)) ae;obtain⟨Uq,hU,uv,oU,lU⟩:=UR (gU (kA m (2^((ia m+1)/2)) N)) (gU (m/(kA m (2^((ia m+1)/2)) N))) (kB _) (kB _) ae ae;rw[jC,jC]at uv;have hV:=U1 Uq oU ae;have CC:gV 167 [gX (yS Uq)] (gX (gU (oY m (kA m (2^((ia m+1)/2)) N)))):=by
     have:=tg (yS Uq) (Am _ _);rwa[Xf oU,uv]at this
    have zn:(gU (oY m (kA m (2^((ia m+1)/2)) N))).length<=257:=aX (lW (Vb m (kA m (2^((ia m+1)/2)) N))) (by have:=Uk (kA m (2^((ia m+1)/2)) N) (m/(kA m (2^((ia m+1)/2)) N));omega);exact iB (chain [.c (Ep:gV 319 [(gX (gU m)),(gX (gU (kA m (2^((ia m+1)/2)) N)))] _),.c (LC:gV 167 [(gX Tq)] _),.c (hU:gV 260 [(gX (gU (kA m (2^((ia m+1)/2)) N))),(gX (gU (m/(kA m (2^((ia m+1)/2)) N))))] _),.c (hV:gV 166 [(gX Uq),(iP 1)] _),.c (CC:gV 167 [(gX (yS Uq))] _),.c (yH _ _ ae ae:gV 131 [(gX (gU (oY m (kA m (2^((ia m+1)/2)) N)))),(gX (gU (kA m (2^((ia m+1)/2)) N)))] _),tT 37 (0<=(jY (oY m (kA m (2^((ia m+1)/2)) N)) (kA m (2^((ia m+1)/2)) N))) (by have:=qy;have:¬jY (oY m (kA m (2^((ia m+1)/2)) N)) (kA m (2^((ia m+1)/2)) N)<0:=fun q=>absurd (Cl.1 q) ae;omega),.c (agK _ ae:gV 165 [(gX (gU (kA m (2^((ia m+1)/2)) N)))] _)]<|.nil) ah) ak:jq 7 Tryz.f337 (U3 m N 0) .ret ⟨43,true,[(3,.e (iP 0)),(2,.e (gX (gU (kA m (2^((ia m+1)/2)) N))))],[]⟩) (chain [.o 5 (.e (.iS rfl):PV.le (.e (gX (gU (2^((ia m+1)/2))))) (.e (gX (gU (kA m (2^((ia m+1)/2)) 0)))))]<|.nil)]<|.nil) ah 
theorem U4(m s:Nat)(h1:(gU m).length<=256)(h0:m≠0)(hr:tZ m s):gV 337 [gX (gU m)] (.iw [gX (gU s),iP 0]):=by
 obtain⟨N,_,a,b,c,d⟩:=ajC hr (dB h0) (ajE m hr);have hs:0<s:=by
  apply bE;intro h;obtain rfl:s=0:= ae ;have:=hr.2;omega
 have:=agQ m N h1 h0 a b fun k hk=>⟨by have:=(d k hk).1;omega,(d k hk).2⟩
 rwa[c]at this
noncomputable def lF(m:Nat):Nat:=Classical.choose (WM m)
theorem BS(m:Nat):tZ m (lF m):=cM (WM m)
def si(d:Dy)(p:Nat):Nat:=if Int.tmod (d.e-(((2*p+4-ia d.m:Nat)):Int)) 2=0 then 2*p+4-ia d.m else 2*p+4-ia d.m+1
noncomputable def uo(d:Dy)(p:Nat)(up:Bool):Dy:=uk (d.m*2^si d p) (lF (d.m*2^si d p)) ((d.e-(si d p:Int))/2) p up
noncomputable def um(d:Dy)(p:Nat)(up:Bool):Int:=yV (d.m*2^si d p) (lF (d.m*2^si d p)) ((d.e-(si d p:Int))/2) p up
theorem JD(d:Dy)(p:Nat):d.e-(si d p:Int)=2*((d.e-(si d p:Int))/2):=by
 have key:∀ x:Int,Int.tmod x 2=0↔x%2=0:=fun x=>by rw[<-Int.dvd_iff_tmod_eq_zero,<-Int.dvd_iff_emod_eq_zero]
 have:(d.e-(si d p:Int))%2=0:=by
  unfold si;split
  .rename_i h;exact(key _).1 h
  .rename_i h
   have h2:¬(d.e-(((2*p+4-ia d.m:Nat)):Int))%2=0:=fun q=>h ((key _).2 q)
   clear h;omega
 omega
theorem Xu(s:Nat):s<=s*s:=by
 by_cases h:s=0
 .subst h;exact bL _
 .exact fT s (dB h)
theorem Xw{d:Dy}(hn:d.neg=false)(K:Nat){E:Int}(h:d.e-(K:Int)=2*E):((d.m*2^K:Nat):Rat)*(P2 E*P2 E)=d.q:=by
 rw[ql,hn,aQ ag,<-qe,cO,<-uA,dZ,<-qe,show(K:Int)+(E+E)=d.e by omega]
theorem N4{m s p:Nat}(h:tZ m s)(hm:2*p+4<=ia m):p<ia s:=by
 apply bE;intro hb;have h1:s<2^ia s:=oM s;have h2:2^ia s<=2^p:=bh ag ae;have h3:=cK (show s+1<=2^p by omega) (show s+1<=2^p by omega);rw[<-aV]at h3;have h4:=h.2;have h5:ia m<=p+p:=kN.2 (bD h4 h3);omega
theorem WN(m s:Nat):((jY (s*s) m) != 0)=decide (s*s≠m):=by
 unfold jY;generalize s*s=q;rcases Nat.lt_trichotomy q m with h|h|h
 .rw [aR h,aS ae];rfl
 .subst h;simp
 .rw [aQ ae,aR h,aS ae];rfl
theorem aiV(d:Dy)(p:Nat)(up:Bool)(hd:d.ib)(hn:d.neg=false)(h0:d.m≠0)(il:8<=p)(ic:p<=512)(pE:Int.tmod (d.e-(((2*p+4-(ia d.m)):Nat):Int)) 2=0):gV 317 [(gY d),(iP p),(bP up)] (.iw [gY (uo d p up),iP (um d p up)]):=by
 have hl:=hd.gU;have hx:=hd.exp;have hr:=hd.range.resolve_left h0;have bp:=mR h0;have hK:si d p=(2*p+4-(ia d.m)):=by unfold si;rw[aR pE]
 have he:=JD d p;rw[hK]at he;have hb:=qf h0 (2*p+4-(ia d.m));have z1:(gU (d.m*2^(2*p+4-(ia d.m)))).length<=256:=ng ae;have sC:(d.m*2^(2*p+4-(ia d.m)))≠0:=dr h0 (dF (aY ag));have rY:=BS (d.m*2^(2*p+4-(ia d.m)));have Bm:=N4 rY (p:=p) ae;have z2:(gU (lF (d.m*2^(2*p+4-(ia d.m)))*lF (d.m*2^(2*p+4-(ia d.m))))).length<=256:=aX (lW rY.1) z1;have z3:(gU (lF (d.m*2^(2*p+4-(ia d.m))))).length<=256:=aX (lW (aX (Xu _) rY.1)) z1;have Hr:lF (d.m*2^(2*p+4-(ia d.m)))≠0\/lF (d.m*2^(2*p+4-(ia d.m)))=0/\(d.e-(((2*p+4-(ia d.m)):Nat):Int))/2=0/\((jY (lF (d.m*2^(2*p+4-(ia d.m)))*lF (d.m*2^(2*p+4-(ia d.m)))) (d.m*2^(2*p+4-(ia d.m)))) != 0)=false:=.inl (fun q=>by rw[q,qR]at Bm;omega);have rX:((jY (lF (d.m*2^(2*p+4-(ia d.m)))*lF (d.m*2^(2*p+4-(ia d.m)))) (d.m*2^(2*p+4-(ia d.m)))) != 0)=true->p<ia (lF (d.m*2^(2*p+4-(ia d.m)))):=fun _=>Bm
 exact tr true Tryz.call317 Tryz.func317 (chain [.o 17 (.e (KV _):PV.le (.e (.sl true 1 3 fun i_ j_=>(jo d).getD (i_*3+j_) (.v (.bool false)))) (.e (np [d]))),.c (NO _ _ af ae ae:gV 177 [(iP p),(np [d])] _),tB 20 (ag:((0:Int)==0)=true),tB 23 (hn:d.neg=false),tB 26 (ag:((0:Int) != 0)=false),tB 31 (nj (pM h0):(((gU d.m).length:Int)==0)=false),
  iq (2*(p:Int)) ae,iq ((((2*p):Nat):Int)+4) ae,.c (G7 _ af:gV 295 [(gY d)] _),iq (((((2*p)+4):Nat):Int)-(ia (Dy.m d):Int)) ae,.o 41 (.int au:PV.le (.e (iP (if(((((2*p)+4):Nat):Int)-(ia (Dy.m d):Int))>0 then(((((2*p)+4):Nat):Int)-(ia (Dy.m d):Int))else 0))) (.e (iP (((2*p+4-(ia d.m)):Nat):Int)))),
  iq (d.e-(((2*p+4-(ia d.m)):Nat):Int)) ae,.a (ae:0<(2:Int)),tB 47 ((by simpa using pE):((Int.tmod (d.e-(((2*p+4-(ia d.m)):Nat):Int)) 2) != 0)=false),.c (vj d.m (2*p+4-(ia d.m)) ae ae ae),.c (U4 _ _ ae af (BS _):gV 337 [(gX (gU (d.m*2^(2*p+4-(ia d.m)))))] _),.c (yJ _ _ ae ae ae:gV 181 [(gX (gU (lF (d.m*2^(2*p+4-(ia d.m)))))),(gX (gU (lF (d.m*2^(2*p+4-(ia d.m))))))] _),
  iq (d.e-(((2*p+4-(ia d.m)):Nat):Int)) ae,.a (ae:0<(2:Int)),iq ((d.e-(((2*p+4-(ia d.m)):Nat):Int))) ae,.o 70 (.int (by generalize hy:(d.e-(((2*p+4-(ia d.m)):Nat):Int))/2=y at *;rw[he];exact anc _ ag):PV.le (.e (iP (Int.tdiv (d.e-(((2*p+4-(ia d.m)):Nat):Int)) 2))) (.e (iP ((d.e-(((2*p+4-(ia d.m)):Nat):Int))/2)))),.c (yH _ _ ae ae:gV 131 [(gX (gU ((lF (d.m*2^(2*p+4-(ia d.m))))*(lF (d.m*2^(2*p+4-(ia d.m))))))),(gX (gU (d.m*2^(2*p+4-(ia d.m)))))] _),.c (Dp _ _ _ _ _ ae af ae ae ae ae af:gV 220 [(.agg [(gX (gU (lF (d.m*2^(2*p+4-(ia d.m)))))),(iP ((d.e-(((2*p+4-(ia d.m)):Nat):Int))/2)),(bP ((jY ((lF (d.m*2^(2*p+4-(ia d.m))))*(lF (d.m*2^(2*p+4-(ia d.m))))) (d.m*2^(2*p+4-(ia d.m)))) != 0))]),(iP p),(bP up)] _)]<|rQ (.iw [(gY (jP false (lF (d.m*2^(2*p+4-(ia d.m)))) ((d.e-(((2*p+4-(ia d.m)):Nat):Int))/2) ((jY ((lF (d.m*2^(2*p+4-(ia d.m))))*(lF (d.m*2^(2*p+4-(ia d.m))))) (d.m*2^(2*p+4-(ia d.m)))) != 0) p up)),(iP (jG false (lF (d.m*2^(2*p+4-(ia d.m)))) ((d.e-(((2*p+4-(ia d.m)):Nat):Int))/2) ((jY ((lF (d.m*2^(2*p+4-(ia d.m))))*(lF (d.m*2^(2*p+4-(ia d.m))))) (d.m*2^(2*p+4-(ia d.m)))) != 0) p up))]) (.iw [gY (uo d p up),iP (um d p up)]) (by unfold uo um uk yV;rw[hK,WN])) ah 
theorem aiW(d:Dy)(p:Nat)(up:Bool)(hd:d.ib)(hn:d.neg=false)(h0:d.m≠0)(il:8<=p)(ic:p<=512)(pE:¬Int.tmod (d.e-(((2*p+4-(ia d.m)):Nat):Int)) 2=0):gV 317 [(gY d),(iP p),(bP up)] (.iw [gY (uo d p up),iP (um d p up)]):=by
 have hl:=hd.gU;have hx:=hd.exp;have hr:=hd.range.resolve_left h0;have bp:=mR h0;have hK:si d p=((2*p+4-(ia d.m))+1):=by unfold si;rw[aQ pE]
 have he:=JD d p;rw[hK]at he;have hb:=qf h0 ((2*p+4-(ia d.m))+1);have z1:(gU (d.m*2^((2*p+4-(ia d.m))+1))).length<=256:=ng ae;have sC:(d.m*2^((2*p+4-(ia d.m))+1))≠0:=dr h0 (dF (aY ag));have rY:=BS (d.m*2^((2*p+4-(ia d.m))+1));have Bm:=N4 rY (p:=p) ae;have z2:(gU (lF (d.m*2^((2*p+4-(ia d.m))+1))*lF (d.m*2^((2*p+4-(ia d.m))+1)))).length<=256:=aX (lW rY.1) z1;have z3:(gU (lF (d.m*2^((2*p+4-(ia d.m))+1)))).length<=256:=aX (lW (aX (Xu _) rY.1)) z1;have Hr:lF (d.m*2^((2*p+4-(ia d.m))+1))≠0\/lF (d.m*2^((2*p+4-(ia d.m))+1))=0/\(d.e-((((2*p+4-(ia d.m))+1):Nat):Int))/2=0/\((jY (lF (d.m*2^((2*p+4-(ia d.m))+1))*lF (d.m*2^((2*p+4-(ia d.m))+1))) (d.m*2^((2*p+4-(ia d.m))+1))) != 0)=false:=.inl (fun q=>by rw[q,qR]at Bm;omega);have rX:((jY (lF (d.m*2^((2*p+4-(ia d.m))+1))*lF (d.m*2^((2*p+4-(ia d.m))+1))) (d.m*2^((2*p+4-(ia d.m))+1))) != 0)=true->p<ia (lF (d.m*2^((2*p+4-(ia d.m))+1))):=fun _=>Bm
 exact tr true Tryz.call317 Tryz.func317 (chain [.o 17 (.e (KV _):PV.le (.e (.sl true 1 3 fun i_ j_=>(jo d).getD (i_*3+j_) (.v (.bool false)))) (.e (np [d]))),.c (NO _ _ af ae ae:gV 177 [(iP p),(np [d])] _),tB 20 (ag:((0:Int)==0)=true),tB 23 (hn:d.neg=false),tB 26 (ag:((0:Int) != 0)=false),tB 31 (nj (pM h0):(((gU d.m).length:Int)==0)=false),
  iq (2*(p:Int)) ae,iq ((((2*p):Nat):Int)+4) ae,.c (G7 _ af:gV 295 [(gY d)] _),iq (((((2*p)+4):Nat):Int)-(ia (Dy.m d):Int)) ae,.o 41 (.int au:PV.le (.e (iP (if(((((2*p)+4):Nat):Int)-(ia (Dy.m d):Int))>0 then(((((2*p)+4):Nat):Int)-(ia (Dy.m d):Int))else 0))) (.e (iP (((2*p+4-(ia d.m)):Nat):Int)))),
  iq (d.e-(((2*p+4-(ia d.m)):Nat):Int)) ae,.a (ae:0<(2:Int)),tB 47 ((by simpa using pE):((Int.tmod (d.e-(((2*p+4-(ia d.m)):Nat):Int)) 2) != 0)=true),
  iq ((((2*p+4-(ia d.m)):Nat):Int)+1) ae,.c (vj d.m ((2*p+4-(ia d.m))+1) ae ae ae),.c (U4 _ _ ae af (BS _):gV 337 [(gX (gU (d.m*2^((2*p+4-(ia d.m))+1))))] _),.c (yJ _ _ ae ae ae:gV 181 [(gX (gU (lF (d.m*2^((2*p+4-(ia d.m))+1))))),(gX (gU (lF (d.m*2^((2*p+4-(ia d.m))+1)))))] _),
  iq (d.e-((((2*p+4-(ia d.m))+1):Nat):Int)) ae,.a (ae:0<(2:Int)),iq ((d.e-((((2*p+4-(ia d.m))+1):Nat):Int))) ae,.o 70 (.int (by generalize hy:(d.e-((((2*p+4-(ia d.m))+1):Nat):Int))/2=y at *;rw[he];exact anc _ ag):PV.le (.e (iP (Int.tdiv (d.e-((((2*p+4-(ia d.m))+1):Nat):Int)) 2))) (.e (iP ((d.e-((((2*p+4-(ia d.m))+1):Nat):Int))/2)))),.c (yH _ _ ae ae:gV 131 [(gX (gU ((lF (d.m*2^((2*p+4-(ia d.m))+1)))*(lF (d.m*2^((2*p+4-(ia d.m))+1)))))),(gX (gU (d.m*2^((2*p+4-(ia d.m))+1))))] _),.c (Dp _ _ _ _ _ ae af ae ae ae ae af:gV 220 [(.agg [(gX (gU (lF (d.m*2^((2*p+4-(ia d.m))+1))))),(iP ((d.e-((((2*p+4-(ia d.m))+1):Nat):Int))/2)),(bP ((jY ((lF (d.m*2^((2*p+4-(ia d.m))+1)))*(lF (d.m*2^((2*p+4-(ia d.m))+1)))) (d.m*2^((2*p+4-(ia d.m))+1))) != 0))]),(iP p),(bP up)] _)]<|rQ (.iw [(gY (jP false (lF (d.m*2^((2*p+4-(ia d.m))+1))) ((d.e-((((2*p+4-(ia d.m))+1):Nat):Int))/2) ((jY ((lF (d.m*2^((2*p+4-(ia d.m))+1)))*(lF (d.m*2^((2*p+4-(ia d.m))+1)))) (d.m*2^((2*p+4-(ia d.m))+1))) != 0) p up)),(iP (jG false (lF (d.m*2^((2*p+4-(ia d.m))+1))) ((d.e-((((2*p+4-(ia d.m))+1):Nat):Int))/2) ((jY ((lF (d.m*2^((2*p+4-(ia d.m))+1)))*(lF (d.m*2^((2*p+4-(ia d.m))+1)))) (d.m*2^((2*p+4-(ia d.m))+1))) != 0) p up))]) (.iw [gY (uo d p up),iP (um d p up)]) (by unfold uo um uk yV;rw[hK,WN])) ah 
theorem Wm(d:Dy)(p:Nat)(up:Bool)(hd:d.ib)(hn:d.neg=false)(h0:d.m≠0)(il:8<=p)(ic:p<=512):gV 317 [(gY d),(iP p),(bP up)] (.iw [gY (uo d p up),iP (um d p up)]):=by
 by_cases h:Int.tmod (d.e-(((2*p+4-(ia d.m)):Nat):Int)) 2=0
 .exact aiV d p up hd hn h0 il ic h
 .exact aiW d p up hd hn h0 il ic h
theorem aiT(d:Dy)(p:Nat)(hd:d.ib)(hn:d.neg=false)(h0:d.m≠0)(il:8<=p)(ic:p<=512):gV 285 [(gY d),(iP p)] (.iw [gY (uo d p false),iP (um d p false)]):=by
 exact tr true Tryz.call285 Tryz.func285 (chain [.c (Wm _ _ _ af af af ae ae:gV 317 [(gY d),(iP p),(bP false)] _)]<|.nil) ah 
theorem aiU(d:Dy)(p:Nat)(hd:d.ib)(hn:d.neg=false)(h0:d.m≠0)(il:8<=p)(ic:p<=512):gV 286 [(gY d),(iP p)] (.iw [gY (uo d p true),iP (um d p true)]):=by
 exact tr true Tryz.call286 Tryz.func286 (chain [.c (Wm _ _ _ af af af ae ae:gV 317 [(gY d),(iP p),(bP true)] _)]<|.nil) ah 
theorem afE(x:Iv)(p:Nat)(hx:x.ib)(il:8<=p)(ic:p<=512)(xa:x.all=true):gV 246 [(gZ x),(iP p)] (gZ ie):=by
 exact tr true Tryz.call246 Tryz.func246 (chain [.o 10 (.e (mz _):PV.le (.e (.sl true 1 7 fun i_ j_=>(iY x).getD (i_*7+j_) (.v (.bool false)))) (.e (ik [x]))),.c (pK _ af:gV 86 [(ik [x])] _),tB 11 (by rw[xa];rfl:(!x.all)=false),.c nv]<|.nil) ah 
theorem afF(x:Iv)(p:Nat)(hx:x.ib)(il:8<=p)(ic:p<=512)(xa:x.all=false)(h1:x.lo.iK<=0):gV 246 [(gZ x),(iP p)] (gZ ie):=by
 obtain⟨w1,w2⟩:=hx.jZ;exact tr true Tryz.call246 Tryz.func246 (chain [.o 10 (.e (mz _):PV.le (.e (.sl true 1 7 fun i_ j_=>(iY x).getD (i_*7+j_) (.v (.bool false)))) (.e (ik [x]))),.c (pK _ af:gV 86 [(ik [x])] _),tB 11 (by rw[xa];rfl:(!x.all)=true),.c (u5 _:gV 87 [(iP p)] _),tB 15 (oZ.2 ⟨ae,ae⟩:(lh (p:Int))=true),.c (nT _ af:gV 35 [(gY x.lo)] _),tB 22 (aS h1),.c nv]<|.nil) ah 
theorem afG(x:Iv)(p:Nat)(hx:x.ib)(il:8<=p)(ic:p<=512)(xa:x.all=false)(h1:¬x.lo.iK<=0)(n1:x.lo.neg=false)(n2:x.hi.neg=false)(m1:x.lo.m≠0)(m2:x.hi.m≠0):gV 246 [(gZ x),(iP p)] (gZ (kE (uo x.lo p false) (um x.lo p false) (uo x.hi p true) (um x.hi p true))):=by
 obtain⟨w1,w2⟩:=hx.jZ;exact tr true Tryz.call246 Tryz.func246 (chain [.o 10 (.e (mz _):PV.le (.e (.sl true 1 7 fun i_ j_=>(iY x).getD (i_*7+j_) (.v (.bool false)))) (.e (ik [x]))),.c (pK _ af:gV 86 [(ik [x])] _),tB 11 (by rw[xa];rfl:(!x.all)=true),.c (u5 _:gV 87 [(iP p)] _),tB 15 (oZ.2 ⟨ae,ae⟩:(lh (p:Int))=true),.c (nT _ af:gV 35 [(gY x.lo)] _),tB 22 (aT h1),.c (aiT _ _ af af af ae ae:gV 285 [(gY x.lo),(iP p)] _),.c (aiU _ _ af af af ae ae:gV 286 [(gY x.hi),(iP p)] _),.c (Bz (uo x.lo p false) (uo x.hi p true) (um x.lo p false) (um x.hi p true))]<|.nil) ah 
theorem Vx{d:Dy}(h:0<d.q):d.neg=false/\d.m≠0:=by
 have hm:d.m≠0:=fun q=>by rw[ql,q]at h;simp at h
 refine⟨?_,hm⟩;cases hn:d.neg
 .rfl
 .rw [ql,hn,aR rfl]at h
  have:=bM (show(0:Rat)<=(d.m:Rat)from cF) (bA (mY d.e))
  grind
theorem Xt{d:Dy}{p:Nat}(il:8<=p)(h0:d.m≠0):p<ia (lF (d.m*2^si d p)):=by
 refine N4 (BS _) ?_;rw[qf h0];unfold si;split<;>omega
theorem MK{x:Iv}(hx:x.ib){p:Nat}(il:8<=p)(ic:p<=512):∃ Z,Z.ib/\gV 246 [gZ x,iP (p:Int)] (gZ Z):=by
 cases xa:x.all with
 |true=>exact⟨ie,mh,afE x p hx il ic xa⟩
 |false=>
  by_cases h1:x.lo.iK<=0
  .exact ⟨ie,mh,afF x p hx il ic xa h1⟩
  .have q1:0<x.lo.q:=(qP _).1.1 ae 
   have q2:0<x.hi.q:=by have:=hx.q;grind
   obtain⟨n1,m1⟩:=Vx q1;obtain⟨n2,m2⟩:=Vx q2;refine⟨_,?_,afG x p hx il ic xa h1 n1 n2 m1 m2⟩;refine akI (BS _) (BS _) (Xt il m1) (Xt il m2) ae ae ?_;rw[Xw n1 _ (JD _ _),Xw n2 _ (JD _ _)];exact hx.q
open Go.RowKit Fp Pu
def j8(X b:Nat):Nat->Nat
 | 0=>2^b
 |k+1=>j8 X b k*X/2^b/(k+1)
theorem RR{X b:Nat}(h:X<=2^(b+1))(t:Nat):t*X/2^b<=2*t:=by
 have hp:0<2^b:=aY ag;have h1:t*X<=t*(2^b*2):=ca t (by rw[<-aZ];exact h);have h2:t*X/2^b<=t*(2^b*2)/2^b:=Nat.div_le_div_right h1;have h3:t*(2^b*2)/2^b=2*t:=by
  rw[show t*(2^b*2)=2^b*(2*t)by rw[cD,a7 t 2]];exact amZ _ hp
 omega
theorem Ef{X b:Nat}(h:X<=2^(b+1)):∀ k,j8 X b k<=2^(b+1)
 | 0=>by show 2^b<=2^(b+1);rw[aZ];omega
 | 1=>by
  show 2^b*X/2^b/1<=_;rw[dC,amZ _ (aY ag)];exact h
 |k+2=>by
  have ih:=Ef h (k+1);have h1:=RR h (j8 X b (k+1));show j8 X b (k+1)*X/2^b/(k+2)<=_;have h2:j8 X b (k+1)*X/2^b/(k+2)<=j8 X b (k+1)*X/2^b/2:=gz ae ag;omega
theorem ade{X b:Nat}(h:X<=2^(b+1))(k:Nat)(hk:3<=k):j8 X b (k+1)*2<=j8 X b k:=by
 have h1:=RR h (j8 X b k);have h2:j8 X b (k+1)<=j8 X b k*X/2^b/4:=gz ae ag;omega
theorem RQ{X b:Nat}(h:X<=2^(b+1)):∀ j,j8 X b (3+j)*2^j<=2^(b+1)
 | 0=>by rw[bN,bO];exact Ef h 3
 |j+1=>by
  have ih:=RQ h j;have h1:=ade h (3+j) ae;have h2:=bC (2^j) h1;rw[aZ,show j8 X b (3+(j+1))*(2^j*2)=j8 X b (3+j+1)*2*2^j by rw[bc,a7 2 (2^j)];rfl];omega
theorem adf{X b:Nat}(h:X<=2^(b+1)):∃ N,1<=N/\N<=b+5/\(∀ k,k<N->j8 X b k≠0)/\j8 X b N=0:=by
 have hz:j8 X b (3+(b+2))=0:=by
  have h1:=RQ h (b+2);apply bE;intro ks;have h2:2^(b+2)<=j8 X b (3+(b+2))*2^(b+2):=fT _ (dB ks);have h3:2^(b+2)=2^(b+1)*2:=aZ (n:=2) (m:=b+1);have h4:0<2^(b+1):=aY ag;omega
 obtain⟨N,n1,n2,n3⟩:=qB (p:=fun k=>decide (j8 X b k=0)) (n:=b+6) ⟨3+(b+2),ae,aS hz⟩;have n2':=ct n2;refine⟨N,?_,ae,fun k hk=>fu (n3 k hk),n2'⟩;rcases N with _|N
 .have:0<2^b:=aY ag 
  have e:2^b=0:=n2';omega
 .omega
theorem aee{f:Nat->Nat}{B:Nat}(h0:f 0<2^B)(h:∀ k,f (k+1)*2<=f k):∃ N,N<=B/\(∀ k,k<N->f k≠0)/\f N=0:=by
 have hp:∀ k,f k*2^k<=f 0:=by
  intro k
  induction k with
  |zero=>rw[bN,bO];exact aU _
  |succ k ih=>
   have:=bC (2^k) (h k);rw[aZ,show f (k+1)*(2^k*2)=f (k+1)*2*2^k by rw[bc,a7 2 (2^k)]];omega
 have hz:f B=0:=by
  apply bE;intro ks;have h2:2^B<=f B*2^B:=fT _ (dB ks);have:=hp B;omega
 obtain⟨N,n1,n2,n3⟩:=qB (p:=fun k=>decide (f k=0)) (n:=B+1) ⟨B,ae,aS hz⟩;exact⟨N,ae,fun k hk=>fu (n3 k hk),ct n2⟩
def jM(a b:Bool×Nat):Bool×Nat:=if a.1=b.1 then(a.1,a.2+b.2)else if a.2<b.2 then(b.1,b.2-a.2)else(a.1,a.2-b.2)
def oN(a:Bool×Nat):Int:=if a.1 then -(a.2:Int)else(a.2:Int)
theorem Le(a b:Bool×Nat):oN (jM a b)=oN a+oN b:=by
 obtain⟨s,m⟩:=a;obtain⟨t,n⟩:=b;unfold jM oN;cases s<;>cases t<;>simp<;>(try split)<;>(try simp)<;>omega
theorem wN(a b:Bool×Nat):(jM a b).2<=a.2+b.2:=by
 unfold jM;split
 .exact aU _
 .split
  .show b.2-a.2<=_;omega
  .show a.2-b.2<=_;omega
open Go.RowKit Fp Pu
def zD(a:Bool×Nat)(b:Nat):Dy:=canon a.1 a.2 (-(b:Int))
theorem RP(a:Bool×Nat)(b:Nat):(zD a b).q=(oN a:Rat)*P2 (-(b:Int)):=by
 unfold zD oN;rw[qF];cases a.1
 .simp only[bq,a6];rw[dI]
 .simp only[bk];rw[fN,dI];grind
def Hp(a:Bool×Nat):Bool×Nat:=jM a (true,16777216)
def Ho(a:Bool×Nat):Bool×Nat:=jM a (false,16777216)
def sc(a:Bool×Nat)(b p:Nat):Iv:=kE (jh (zD (Hp a) b) p false) (jz (zD (Hp a) b) p false) (jh (zD (Ho a) b) p true) (jz (zD (Ho a) b) p true)
theorem agV(a:Bool×Nat)(b:Nat){p:Nat}(hp:1<=p)(ic:p<=4096):(sc a b p).ib:=by
 unfold sc kE;split
 .exact mh
 .rename_i he
  have c1:(zD (Hp a) b).lG:=qJ _ _ _;have c2:(zD (Ho a) b).lG:=qJ _ _ _;have A:=wq c1 hp ic;have B:=wu c2 hp ic;refine .inr ⟨rfl,wA _ hp ic _,wA _ hp ic _,?_⟩;rw[o0];refine bH (A.1 ae).2 (bH ?_ (B.1 ae).2);rw[RP,RP,u9,fM];unfold Hp Ho;rw[Le,Le];simp[oN]
open Go.RowKit Fp Pu
theorem zj(m n:Nat)(h1:(gU m).length<=256)(h2:n<=65536)(h3:(gU (m*2^n)).length<=256):gV 329 [(gX (gU m)),(iP n)] (gX (gU (m*2^n))):=by
 exact tr true Tryz.call329 Tryz.func329 (chain [.c (UZ _ _ af ae af:gV 168 [(gX (gU m)),(iP n)] _)]<|.nil) ah 
theorem vE(m n:Nat)(h1:(gU m).length<=256)(h2:n<=65536):gV 330 [(gX (gU m)),(iP n)] (gX (gU (m/2^n))):=by
 exact tr true Tryz.call330 Tryz.func330 (chain [.c (M9 _ _ af ae:gV 127 [(gX (gU m)),(iP n)] _)]<|.nil) ah 
theorem Kt(m:Nat)(z:Int)(h1:(gU m).length<=256)(h2:0<=z)(h3:z<=65536)(h4:(gU (m*2^z.toNat)).length<=256):gV 329 [gX (gU m),iP z] (gX (gU (m*2^z.toNat))):=by
 have:=zj m z.toNat h1 ae h4;rwa[show(z.toNat:Int)=z by omega]at this
theorem aaM(m:Nat)(z:Int)(h1:(gU m).length<=256)(h2:0<=z)(h3:z<=65536):gV 330 [gX (gU m),iP z] (gX (gU (m/2^z.toNat))):=by
 have:=vE m z.toNat h1 ae;rwa[show(z.toNat:Int)=z by omega]at this
theorem lE{m k:Nat}(h:m<2^k)(hk:k<=8192):(gU m).length<=256:=ng (aX (kN.2 h) hk)
theorem sG{n:Nat}(h:n<4294967296):(gU n).length<=256:=lE (k:=32) h ag 
theorem afq(n:Nat):(jd n).neg=false/\0<=(jd n).e/\(jd n).m*2^(jd n).e.toNat=n/\(jd n).m<=n:=by
 by_cases h:n=0
 .subst h;decide
 .have e1:(jd (n:Int))=canon false n 0:=Bv n
  have e2:canon false n 0=⟨false,n/2^jO n,(jO n:Int)⟩:=by unfold canon;rw[aQ h];simp
  rw[e1,e2];refine⟨rfl,Int.natCast_nonneg _,?_,bw _ _⟩;show n/2^jO n*2^(jO n:Int).toNat=n;rw[fA];exact D4 h
theorem Kw(n:Nat)(h:n<4294967296):gV 331 [(iP n)] (.agg [(bP false),(gX (gU n))]):=by
 obtain⟨p1,p2,p3,p4⟩:=afq n;have hv:=MC n h;have he:=hv.exp;have z1:=hv.gU;have z2:(gU ((jd n).m*2^(Int.toNat (jd n).e))).length<=256:=by rw[p3];exact sG h
 exact tr true Tryz.call331 Tryz.func331 (chain [.c (Kg n ae),.c (Kt _ _ af ae ae af:gV 329 [(gX (gU ((jd (n:Int)).m))),(iP ((jd (n:Int)).e))] _)]<|rQ (.agg [(bP ((jd (n:Int)).neg)),(gX (gU (((jd (n:Int)).m)*2^(Int.toNat ((jd (n:Int)).e)))))]) (.agg [(bP false),(gX (gU n))]) (by rw[p1,p3])) ah 
theorem Z5(m:Nat):((ia m:Int)==0)=decide (m=0):=by
 by_cases h:m=0
 .subst h;rw[qR];rfl
 .have:=mR h
  rw[aT h];exact nj ae 
theorem Cw(a:Bool×Nat)(ha:(gU a.2).length<=256):gV 336 [(.agg [(bP a.1),(gX (gU a.2))])] (bP (decide (a.2=0))):=by
 exact tr true Tryz.call336 Tryz.func336 (chain [.c (r9 _ ae:gV 194 [(gX (gU a.2))] _)]<|rQ (bP ((ia a.2:Int)==0)) (bP (decide (a.2=0))) (by rw[Z5])) ah 
theorem vJ(a:Bool×Nat):gV 326 [(.agg [(bP a.1),(gX (gU a.2))])] (.agg [(bP (!a.1)),(gX (gU a.2))]):=by
 exact tr true Tryz.call326 Tryz.func326 (.nil) ah 
theorem acN(a:Bool×Nat)(ha:(gU a.2).length<=256)(b:Bool×Nat)(hb:(gU b.2).length<=256)(h:a.1=b.1)(hs:(gU (a.2+b.2)).length<=256):gV 335 [(.agg [(bP a.1),(gX (gU a.2))]),(.agg [(bP b.1),(gX (gU b.2))])] (.agg [(bP a.1),(gX (gU (a.2+b.2)))]):=by
 exact tr true Tryz.call335 Tryz.func335 (chain [tB 13 (by rw[h];simp:(a.1==b.1)=true),.c (I1 _ _ af af af:gV 218 [(gX (gU a.2)),(gX (gU b.2))] _)]<|.nil) ah 
theorem acL(a:Bool×Nat)(ha:(gU a.2).length<=256)(b:Bool×Nat)(hb:(gU b.2).length<=256)(h:¬a.1=b.1)(h2:a.2<b.2):gV 335 [(.agg [(bP a.1),(gX (gU a.2))]),(.agg [(bP b.1),(gX (gU b.2))])] (.agg [(bP b.1),(gX (gU (b.2-a.2)))]):=by
 exact tr true Tryz.call335 Tryz.func335 (chain [tB 13 (by simpa using h:(a.1==b.1)=false),.c (yH _ _ ae ae:gV 131 [(gX (gU a.2)),(gX (gU b.2))] _),tT 31 ((jY a.2 b.2)<0) (Cl.2 h2),.c (Fj _ _ af af ae:gV 219 [(gX (gU b.2)),(gX (gU a.2))] _)]<|.nil) ah 
theorem acM(a:Bool×Nat)(ha:(gU a.2).length<=256)(b:Bool×Nat)(hb:(gU b.2).length<=256)(h:¬a.1=b.1)(h2:¬a.2<b.2):gV 335 [(.agg [(bP a.1),(gX (gU a.2))]),(.agg [(bP b.1),(gX (gU b.2))])] (.agg [(bP a.1),(gX (gU (a.2-b.2)))]):=by
 exact tr true Tryz.call335 Tryz.func335 (chain [tB 13 (by simpa using h:(a.1==b.1)=false),.c (yH _ _ ae ae:gV 131 [(gX (gU a.2)),(gX (gU b.2))] _),tF 31 ((jY a.2 b.2)<0) fun q=>h2 (Cl.1 q),.c (Fj _ _ af af ae:gV 219 [(gX (gU a.2)),(gX (gU b.2))] _)]<|.nil) ah 
theorem sA(a:Bool×Nat)(ha:(gU a.2).length<=256)(b:Bool×Nat)(hb:(gU b.2).length<=256)(hs:(gU (a.2+b.2)).length<=256):gV 335 [(.agg [(bP a.1),(gX (gU a.2))]),(.agg [(bP b.1),(gX (gU b.2))])] (.agg [(bP ((jM a b).1)),(gX (gU ((jM a b).2)))]):=by
 unfold jM;split
 .rename_i h;exact acN a ha b hb h hs
 .rename_i h
  split
  .rename_i h2;exact acL a ha b hb h h2
  .rename_i h2;exact acM a ha b hb h h2
theorem Ld(a:Bool×Nat)(ha:(gU a.2).length<=256)(c:Bool×Nat)(hc:(gU c.2).length<=256)(b:Nat)(hb:b<=65536)(hm:(gU (a.2*c.2)).length<=256):gV 332 [(.agg [(bP a.1),(gX (gU a.2))]),(.agg [(bP c.1),(gX (gU c.2))]),(iP b)] (.agg [(bP (a.1 != c.1)),(gX (gU (a.2*c.2/2^b)))]):=by
 exact tr true Tryz.call332 Tryz.func332 (chain [.c (yJ _ _ af af af:gV 181 [(gX (gU a.2)),(gX (gU c.2))] _),.c (vE _ _ af ae:gV 330 [(gX (gU (a.2*c.2))),(iP b)] _)]<|.nil) ah 
theorem Ec(a:Bool×Nat)(ha:(gU a.2).length<=256)(n:Nat)(h0:n≠0)(hn:n<4294967296):gV 342 [(.agg [(bP a.1),(gX (gU a.2))]),(iP n)] (.agg [(bP a.1),(gX (gU (a.2/n)))]):=by
 have zn:(gU n).length<=256:=sG hn;exact tr true Tryz.call342 Tryz.func342 (chain [.c (Kw _ ae:gV 331 [(iP n)] _),.c (yI _ _ ae ae af:gV 296 [(gX (gU a.2)),(gX (gU n))] _)]<|.nil) ah 
def qO(d:Dy)(b:Nat):Bool×Nat:=(d.neg,if d.e+(b:Int)<0 then d.m/2^(0-(d.e+(b:Int))).toNat else d.m*2^(d.e+(b:Int)).toNat)
theorem aav(d:Dy)(hd:d.ib)(b:Nat)(hb:b<=30000)(h:d.e+(b:Int)<0):gV 334 [(gY d),(iP b)] (.agg [(bP ((qO d b).1)),(gX (gU ((qO d b).2)))]):=by
 have hx:=hd.exp;have z1:=hd.gU;exact tr true Tryz.call334 Tryz.func334 (chain [iq (d.e+(b:Int)) ae,tB 11 (aS h),iq (0-(d.e+(b:Int))) ae,.c (aaM _ _ af ae ae:gV 330 [(gX (gU d.m)),(iP (0-(d.e+(b:Int))))] _)]<|rQ (.agg [(bP d.neg),(gX (gU (d.m/2^(Int.toNat (0-(d.e+(b:Int)))))))]) (.agg [(bP ((qO d b).1)),(gX (gU ((qO d b).2)))]) (by unfold qO;rw[aR h])) ah 
theorem aau(d:Dy)(hd:d.ib)(b:Nat)(hb:b<=30000)(h:¬d.e+(b:Int)<0)(hs:(gU (d.m*2^(Int.toNat (d.e+(b:Int))))).length<=256):gV 334 [(gY d),(iP b)] (.agg [(bP ((qO d b).1)),(gX (gU ((qO d b).2)))]):=by
 have hx:=hd.exp;have z1:=hd.gU;exact tr true Tryz.call334 Tryz.func334 (chain [iq (d.e+(b:Int)) ae,tB 11 (aT h),iq (d.e+(b:Int)) ae,.c (Kt _ _ af ae ae af:gV 329 [(gX (gU d.m)),(iP (d.e+(b:Int)))] _)]<|rQ (.agg [(bP d.neg),(gX (gU (d.m*2^(Int.toNat (d.e+(b:Int))))))]) (.agg [(bP ((qO d b).1)),(gX (gU ((qO d b).2)))]) (by unfold qO;rw[aQ h])) ah 
theorem I7{d:Dy}{b K:Nat}(h:d.iu+(b:Int)<=K):(qO d b).2<2^K:=by
 by_cases h0:d.m=0
 .have:(qO d b).2=0:=by unfold qO;simp only[h0];split<;>simp
  rw[this];exact aY ag 
 .rw [F3 h0]at h
  have hm:=oM d.m;unfold qO;simp only;split
  .rename_i hc
   obtain⟨k,hk⟩:∃ k,k=(0-(d.e+(b:Int))).toNat:=⟨_,rfl⟩
   rw[<-hk];by_cases hb:ia d.m<=k
   .rw [bT (bD hm (bh ag hb))];exact aY ag 
   .refine (bR (aY ag)).2 (bD hm ?_)
    rw[<-aV];exact bh ag ae 
  .rename_i hc
   obtain⟨k,hk⟩:∃ k,k=(d.e+(b:Int)).toNat:=⟨_,rfl⟩
   rw[<-hk];have:=cC hm (aY (n:=k) (show 0<2 by decide));rw[<-aV]at this;exact bD this (bh ag ae)
theorem Ku(d:Dy)(hd:d.ib)(b K:Nat)(hb:b<=30000)(hK:K<=8192)(h:d.iu+(b:Int)<=K):gV 334 [gY d,iP (b:Int)] (.agg [(bP ((qO d b).1)),(gX (gU ((qO d b).2)))]):=by
 by_cases hc:d.e+(b:Int)<0
 .exact aav d hd b hb hc
 .refine aau d hd b hb hc ?_
  have:=I7 h;unfold qO at this;rw[aQ hc]at this;exact lE this hK
open Go.RowKit Fp Pu
def mq(f:Nat->Nat):Nat->Bool×Nat
 | 0=>(false,f 0)
 |k+1=>jM (mq f k) (decide ((k+1)%2=1),f (k+1)/(2*(k+1)+1))
theorem Pk{f:Nat->Nat}(hf:∀ k,f (k+1)<=f k):∀ n,(n%2=0->oN (mq f n)<=f 0/\(f 0:Int)-(f 1/3:Nat)<=oN (mq f n)-(f (n+1)/(2*(n+1)+1):Nat))/\(n%2=1->(f 0:Int)-(f 1/3:Nat)<=oN (mq f n)/\oN (mq f n)+(f (n+1)/(2*(n+1)+1):Nat)<=f 0)
 | 0=>⟨fun _=>⟨by simp[mq,oN],by simp[mq,oN]⟩,fun h=> ae⟩
 |n+1=>by
  obtain⟨e,o⟩:=Pk hf n;have hq:f (n+1+1)/(2*(n+1+1)+1)<=f (n+1)/(2*(n+1)+1):=Nat.div_le_div (hf (n+1)) ae ae;have hv:oN (mq f (n+1))=oN (mq f n)+oN (decide ((n+1)%2=1),f (n+1)/(2*(n+1)+1)):=Le _ _;generalize f (n+1)/(2*(n+1)+1)=q1 at *
  generalize f (n+1+1)/(2*(n+1+1)+1)=q2 at *
  generalize f 1/3=q0 at *
  rcases ane n with h|h
  .obtain ⟨e1,e2⟩:=e h
   rw[show decide ((n+1)%2=1)=true from aS ae]at hv;simp only[oN,bk]at hv;exact⟨fun q=> ae,fun _=>⟨by unfold oN at *;omega,by unfold oN at *;omega⟩⟩
  .obtain ⟨e1,e2⟩:=o h
   rw[show decide ((n+1)%2=1)=false from aT ae]at hv;simp only[oN,bq,a6]at hv;exact⟨fun _=>⟨by unfold oN at *;omega,by unfold oN at *;omega⟩,fun q=> ae⟩
theorem Ke{f:Nat->Nat}(hf:∀ k,f (k+1)<=f k)(n:Nat):(mq f n).2<=f 0/\f 0<=(mq f n).2+f 1/3:=by
 have ht:=Pk hf n;have h1:f 1/3<=f 0:=aX (bw _ _) (hf 0);have hb:(f 0:Int)-(f 1/3:Nat)<=oN (mq f n)/\oN (mq f n)<=f 0:=by
  rcases ane n with h|h
  .have:=ht.1 h
   generalize f (n+1)/(2*(n+1)+1)=q at *
   omega
  .have:=ht.2 h
   generalize f (n+1)/(2*(n+1)+1)=q at *
   omega
 generalize mq f n=s at *
 generalize f 1/3=q at *
 obtain⟨b,m⟩:=s;cases b
 .simp only[oN,bq,a6]at hb ⊢;omega
 .simp only[oN,bk]at hb ⊢;omega
theorem Gx{f:Nat->Nat}(hf:∀ k,f (k+1)<=f k):∀ k,f k<=f 0
 | 0=>aU _
 |k+1=>aX (hf k) (Gx hf k)
theorem Cb{f:Nat->Nat}(hf:∀ k,f (k+1)<=f k){B:Nat}(hB:B<=8191)(hz:f 0<2^B)(k:Nat):(gU (f k)).length<=256:=lE (bQ (Gx hf k) hz) ae 
theorem Gy{f:Nat->Nat}(hf:∀ k,f (k+1)<=f k){B:Nat}(hB:B<=8191)(hz:f 0<2^B)(k:Nat):(gU (mq f k).2).length<=256/\(gU (f (k+1)/(2*(k+1)+1))).length<=256:=⟨lE (bQ (Ke hf k).1 hz) ae,lE (bQ (aX (bw _ _) (Gx hf (k+1))) hz) ae⟩
theorem Pm{f:Nat->Nat}(hf:∀ k,f (k+1)<=f k){B:Nat}(hB:B<=8191)(hz:f 0<2^B)(k:Nat):(gU ((mq f k).2+f (k+1)/(2*(k+1)+1))).length<=256:=by
 have h1:=(Ke hf k).1;have h2:=aX (bw (f (k+1)) (2*(k+1)+1)) (Gx hf (k+1));refine lE (k:=B+1) ?_ ae;rw[aZ];omega
def rL(n b:Nat):Nat->Nat
 | 0=>1*2^b/n
 |k+1=>rL n b k/(n*n)
theorem TW{n b:Nat}(hn:2<=n)(k:Nat):rL n b (k+1)*2<=rL n b k:=by
 show rL n b k/(n*n)*2<=_;have h1:rL n b k/(n*n)<=rL n b k/2:=gz (by have:=cK hn hn;omega) ag;omega
theorem MF(n b:Nat):rL n b 0<2^(b+1):=by
 show 1*2^b/n<_;rw[bJ,aZ];have:=bw (2^b) n;have:0<2^b:=aY ag;omega
theorem afy{n b:Nat}(hn:2<=n):∃ N,N<=b+1/\(∀ k,k<N->rL n b (k+1)≠0)/\rL n b (N+1)=0:=by
 obtain⟨N,h1,h2,h3⟩:=aee (MF n b) (TW hn);rcases N with _|N
 .refine ⟨0,ae,fun k hk=>absurd hk (bj _),?_⟩
  have:=TW (b:=b) hn 0;omega
 .exact ⟨N,ae,fun k hk=>h2 (k+1) ae,h3⟩
theorem ahE{T x y f g:Nat}(hT:65536<=T)(hf:f=T/5)(we:x<=f)(qW:f<=x+f/(5*5)/3)(hy:y<=T/239)(hg:g=(jM (false,x*2^4) (true,y*2^2)).2):2<=g/\g<=T*4/\g/2<=T*2:=by
 have h16:(2:Nat)^4=16:=rfl;have h4:(2:Nat)^2=4:=rfl;have e:g=x*16-y*4:=by
  rw[hg,h16,h4];unfold jM;rw[aQ (show ¬false=true from Bool.false_ne_true),aQ (by show ¬x*16<y*4;omega)]
 omega
open Go.RowKit Fp Pu
def Pj(f:Nat->Nat)(g:FuncId)(cap:List E)(N:Nat)(x:Nat):PS:=⟨30,true,[(6,.e (iP (((x+1):Nat):Int))),(5,.box 5 0),(4,.box 4 0),(2,.box 2 0),(1,.e (.fn g cap))],[(5,.cells 209 [(bP ((mq f x).1)),(gX (gU ((mq f x).2)))]),(4,.cells 209 [(bP false),(.v (.slice none 0 0))]),(2,.cells 209 [(bP false),(gX (gU (f x)))])]⟩
theorem aaf(f:Nat->Nat)(g:FuncId)(cap:List E)(N:Nat)(hp:∀ k,k<=N->gV g ((.agg [(bP false),(gX (gU (f k)))])::cap) (.agg [(bP false),(gX (gU (f (k+1))))]))(hf:∀ k,f (k+1)<=f k)(B:Nat)(hB:B<=8191)(hz:f 0<2^B)(h0:∀ k,k<N->f (k+1)≠0)(hN:f (N+1)=0)(rV:N<=100000):gV 346 [(.agg [(bP false),(gX (gU (f 0)))]),(.fn g cap)] (.agg [(bP ((mq f N).1)),(gX (gU ((mq f N).2)))]):=by
 have z00:=Cb hf hB hz 0;exact tr true Tryz.call346 Tryz.func346 (chain [.s (Sp.jv (Pj f g cap N) 0 N ae (fun x hx kf=>by
    have z1:=Cb hf hB hz (x+1);have z0:=Cb hf hB hz x;have zs:=(Gy hf hB hz x).1;have zt:=(Gy hf hB hz x).2;have zu:=Pm hf hB hz x;exact iB (chain [.c (hp x ae:gV g ((.agg [(bP false),(gX (gU (f x)))])::cap) _),.c (Cw (false,(f (x+1))) af:gV 336 [(.agg [(bP false),(gX (gU (f (x+1))))])] _),tF 15 ((f (x+1))=0) (h0 x ae),
     iq (2*(((x+1):Nat):Int)) ae,iq ((((2*(x+1)):Nat):Int)+1) ae,.c (Ec (false,(f (x+1))) af ((2*(x+1))+1) ae ae:gV 342 [(.agg [(bP false),(gX (gU (f (x+1))))]),(iP ((((2*(x+1))+1):Nat):Int))] _),.a (ae:0<(2:Int))]<|.w ((x+1)%2=1)
     (fun ho=>chain [tB 24 (by rw[ho];rfl:(((((x+1)%2):Nat):Int)==1)=true),.c (vJ (false,((f (x+1))/((2*(x+1))+1))):gV 326 [(.agg [(bP false),(gX (gU ((f (x+1))/((2*(x+1))+1))))])] _),.c (sA (mq f x) af ((!false),((f (x+1))/((2*(x+1))+1))) af af:gV 335 [(.agg [(bP ((mq f x).1)),(gX (gU ((mq f x).2)))]),(.agg [(bP (!false)),(gX (gU ((f (x+1))/((2*(x+1))+1))))])] _),
      iq ((((x+1):Nat):Int)+1) ae]<|.e (chain [.b 5 (.iS (by first|rfl|simp[mq,ho]):Bx.le (.cells 209 [(bP ((jM (mq f x) ((!false),((f (x+1))/((2*(x+1))+1)))).1)),(gX (gU ((jM (mq f x) ((!false),((f (x+1))/((2*(x+1))+1)))).2)))]) (.cells 209 [(bP ((mq f (x+1)).1)),(gX (gU ((mq f (x+1)).2)))]))]<|.nil))
     (fun ho=>chain [tB 24 (av:(((((x+1)%2):Nat):Int)==1)=false),.c (sA (mq f x) af (false,((f (x+1))/((2*(x+1))+1))) af af:gV 335 [(.agg [(bP ((mq f x).1)),(gX (gU ((mq f x).2)))]),(.agg [(bP false),(gX (gU ((f (x+1))/((2*(x+1))+1))))])] _),
      iq ((((x+1):Nat):Int)+1) ae]<|.e (chain [.b 5 (.iS (by first|rfl|simp[mq,ho]):Bx.le (.cells 209 [(bP ((jM (mq f x) (false,((f (x+1))/((2*(x+1))+1)))).1)),(gX (gU ((jM (mq f x) (false,((f (x+1))/((2*(x+1))+1)))).2)))]) (.cells 209 [(bP ((mq f (x+1)).1)),(gX (gU ((mq f (x+1)).2)))]))]<|.nil))) ah)
  (fun hx=>by
    have z1:=Cb hf hB hz (N+1);have z0:=Cb hf hB hz N;have zs:=(Gy hf hB hz N).1;have zt:=(Gy hf hB hz N).2;have zu:=Pm hf hB hz N;exact iB (chain [.c (hp N ae:gV g ((.agg [(bP false),(gX (gU (f N)))])::cap) _),.c (Cw (false,(f (N+1))) af:gV 336 [(.agg [(bP false),(gX (gU (f (N+1))))])] _),tB 15 (aS hN)]<|.nil) ah) ak:jq 4 Tryz.f346 (Pj f g cap N 0) .ret ⟨30,true,[(4,.box 4 0)],[(4,.cells 209 [(bP ((mq f N).1)),(gX (gU ((mq f N).2)))])]⟩) (chain [.o 6 (.int aw:PV.le (.e (iP 1)) (.e (iP (((0+1):Nat):Int)))),.b 5 (.iS (by first|rfl|simp[mq,ho]):Bx.le (.cells 209 [(bP false),(gX (gU (f 0)))]) (.cells 209 [(bP ((mq f 0).1)),(gX (gU ((mq f 0).2)))]))]<|.nil)]<|.nil) ah 
theorem aap(m n:Nat)(hm:(gU m).length<=256)(pH:n≠0)(hn:n<60000):gV 347 [(.agg [(bP false),(gX (gU m))]),(.kv 1 fun j_=>[(iP n)].getD j_ .any)] (.agg [(bP false),(gX (gU (m/(n*n))))]):=by
 have hnn:n*n<3600000000:=anf hn hn;have hnz:n*n≠0:=dr pH pH;exact tr true Tryz.call347 Tryz.func347 (chain [iq ((n:Int)*(n:Int)) ae,.c (Ec (false,m) af (n*n) ae ae:gV 342 [(.agg [(bP false),(gX (gU m))]),(iP (((n*n):Nat):Int))] _)]<|.nil) ah 
theorem aaq(n b:Nat)(S:Bool×Nat)(pH:n≠0)(hn:n<60000)(hb:b<=8000)(hS:gV 346 [(.agg [(bP false),(gX (gU (1*2^b/n)))]),.fn 347 [(.kv 1 fun j_=>[(iP n)].getD j_ .any)]] (.agg [(bP S.1),(gX (gU S.2))])):gV 343 [(iP n),(iP b)] (.agg [(bP S.1),(gX (gU S.2))]):=by
 have z0:(gU 1).length<=256:=sG ag;have z1:(gU (1*2^b)).length<=256:=lE (k:=b+1) (by rw[aZ,bJ];have:0<2^b:=aY ag;omega) ae;exact tr true Tryz.call343 Tryz.func343 (chain [.o 6 (.e rN:PV.le (.e (.sl false 1 1 fun i_ j_=>[(.v (.int .u32 1))].getD (i_*1+j_) (.v (.bool false)))) (.e (gX (gU 1)))),.c (zj 1 b af ae af),.c (Ec (false,(1*2^b)) af n ae ae:gV 342 [(.agg [(bP false),(gX (gU (1*2^b)))]),(iP n)] _),.c (hS:gV 346 [(.agg [(bP false),(gX (gU ((1*2^b)/n)))]),(.fn 347 [(.kv 1 fun j_=>[(iP n)].getD j_ .any)])] _)]<|.nil) ah 
theorem Qc(n b:Nat)(pH:2<=n)(hn:n<60000)(hb:b<=8000):∃ S:Bool×Nat,S.2<=2^b/n/\2^b/n<=S.2+2^b/n/(n*n)/3/\gV 343 [iP (n:Int),iP (b:Int)] (.agg [(bP S.1),(gX (gU S.2))]):=by
 obtain⟨N,h1,h2,h3⟩:=afy (b:=b) pH;have hf:∀ k,rL n b (k+1)<=rL n b k:=fun k=>bw _ _
 obtain⟨r1,r2⟩:=Ke hf N;have e0:rL n b 0=2^b/n:=by show 1*2^b/n=_;rw[bJ]
 have e1:rL n b 1=2^b/n/(n*n):=by show rL n b 0/(n*n)=_;rw[e0]
 refine⟨mq (rL n b) N,by rw[<-e0];exact r1,by rw[<-e1,<-e0];exact r2,?_⟩;exact aaq n b _ ae hn hb (aaf (rL n b) 347 _ N (fun k _=>aap (rL n b k) n (Cb hf (show b+1<=8191 by omega) (MF n b) k) ae hn) hf (b+1) ae (MF n b) h2 h3 ae)
theorem aaw(b:Nat)(x y:Bool×Nat)(zx:x.2<2^b)(zy:y.2<2^b)(hb:b<=8000)(hx:gV 343 [iP ((5:Nat):Int),iP (b:Int)] (.agg [(bP x.1),(gX (gU x.2))]))(hy:gV 343 [iP ((239:Nat):Int),iP (b:Int)] (.agg [(bP y.1),(gX (gU y.2))])):gV 328 [(iP b)] (.agg [(bP ((jM (false,x.2*2^4) (true,y.2*2^2)).1)),(gX (gU ((jM (false,x.2*2^4) (true,y.2*2^2)).2)))]):=by
 have z1:(gU x.2).length<=256:=lE zx ae;have z2:(gU y.2).length<=256:=lE zy ae;have e5:2^(b+5)=2^b*32:=by rw[aV]
 have z3:(gU (x.2*2^4)).length<=256:=lE (k:=b+5) ae ae;have z4:(gU (y.2*2^2)).length<=256:=lE (k:=b+5) ae ae;have z5:(gU (x.2*2^4+y.2*2^2)).length<=256:=lE (k:=b+5) ae ae;exact tr true Tryz.call328 Tryz.func328 (chain [.c (hx:gV 343 [(iP 5),(iP b)] _),.c (hy:gV 343 [(iP 239),(iP b)] _),.c (zj x.2 4 af ae af),.c (zj y.2 2 af ae af),.c (sA (false,(x.2*2^4)) af (true,(y.2*2^2)) af af:gV 335 [(.agg [(bP false),(gX (gU (x.2*2^4)))]),(.agg [(bP true),(gX (gU (y.2*2^2)))])] _)]<|.nil) ah 
theorem Qd(b:Nat)(iZ:16<=b)(hb:b<=8000):∃ c:Bool×Nat,2<=c.2/\c.2<=2^b*4/\c.2/2<=2^b*2/\gV 328 [iP (b:Int)] (.agg [(bP c.1),(gX (gU c.2))]):=by
 obtain⟨x,x1,x2,hx⟩:=Qc 5 b ag ag hb;obtain⟨y,y1,y2,hy⟩:=Qc 239 b ag ag hb;have hT:65536<=2^b:=by have:=bh (show 0<2 by decide) iZ;omega
 obtain⟨g1,g2,g3⟩:=ahE hT rfl x1 x2 y1 rfl;exact⟨_,g1,g2,g3,aaw b x y ae ae hb hx hy⟩
open Go.RowKit Fp Pu
theorem X9(n:Nat)(h:n<4294967296):bits .and .u32 (n:Int) 3=((n%4:Nat):Int):=by
 have:=bits_and_u32_nat n 3 h ag;rw[show((3:Int))=((3:Nat):Int)from rfl,this];exact congrArg _ (amO n 2)
theorem aeM(k:Nat)(h:k<=3):bits .and .i64 (4-(k:Int)) 3=(((4-k)%4:Nat):Int):=by
 rcases(show k=0\/k=1\/k=2\/k=3 by omega)with rfl|rfl|rfl|rfl<;>decide
theorem acY{x:Bool×Nat}{m:Nat}(h:m<=x.2):jM x (!x.1,m)=(x.1,x.2-m):=by
 unfold jM;rw[aQ (by show ¬x.1 = !x.1;cases x.1<;>decide),aQ (by show ¬x.2<m;omega)]
theorem ai0(n:Nat):n%4<=3:= ae 
theorem aiZ(n:Nat):(4-n)%4<=3:= ae 
theorem ai1{x:Bool×Nat}{H b t:Nat}(h0:1<=H)(hH:H<=2^(b+t+40)*2):(jM x (!x.1,x.2/H*H)).2/2^(t+40)<=2^(b+1):=by
 rw[acY (cN _ _)];show(x.2-x.2/H*H)/_<=_;have h1:x.2-x.2/H*H=x.2%H:=by
  have:=bU x.2 H;rw[a7 H]at this;omega
 have h2:=bg x.2 (show 0<H by omega);rw[h1];refine Nat.div_le_of_le_mul (aX (cW h2) (aX hH (fJ ?_)));rw[<-aV,show t+40+(b+1)=b+t+40+1 by omega];exact(aZ 2 (b+t+40)).symm
def lf(x:Bool×Nat):Nat->Bool
 | 0=>false
 |k+1=>(lf x k != x.1)
def jR(x:Bool×Nat)(b:Nat):Nat->(Bool×Nat)×(Bool×Nat)
 | 0=>((false,0),(false,1*2^b))
 |k+1=>if(k+1)%2=1 then(jM (jR x b k).1 ((if 2<=(k+1)%4 then !(lf x (k+1))else lf x (k+1)),j8 x.2 b (k+1)),(jR x b k).2)
  else((jR x b k).1,jM (jR x b k).2 ((if 2<=(k+1)%4 then !(lf x (k+1))else lf x (k+1)),j8 x.2 b (k+1)))
theorem Xa{x:Bool×Nat}{b:Nat}(h:x.2<=2^(b+1)):∀ k,(jR x b k).1.2<=(k+1)*2^(b+1)/\(jR x b k).2.2<=(k+1)*2^(b+1)
 | 0=>⟨bL _,by show 1*2^b<=_;have:=aZ (n:=2) (m:=b);omega⟩
 |k+1=>by
  obtain⟨h1,h2⟩:=Xa h k;have h3:=Ef h (k+1);have h4:(k+1+1)*2^(b+1)=(k+1)*2^(b+1)+2^(b+1):=gy _ _;unfold jR;split
  .refine ⟨aX (wN _ _) ?_,by rw[h4];exact aX h2 (Nat.le_add_right _ _)⟩
   rw[h4];exact Nat.add_le_add h1 h3
  .refine ⟨by rw[h4];exact aX h1 (Nat.le_add_right _ _),aX (wN _ _) ?_⟩
   rw[h4];exact Nat.add_le_add h2 h3
theorem Xb{x:Bool×Nat}{b:Nat}(h:x.2<=2^(b+1))(hb:b<=3000){k:Nat}(hk:k<=b+5):(jR x b k).1.2<2^(b+14)/\(jR x b k).2.2<2^(b+14):=by
 obtain⟨h1,h2⟩:=Xa h k;have h3:(k+1)*2^(b+1)<2^(b+14):=by
  rw[show b+14=13+(b+1)by omega,aV 2 13];exact cC ae (aY ag)
 exact⟨bQ h1 h3,bQ h2 h3⟩
theorem adb{T:TypeId}:Bx.le (.cells T [bP false,.v (.slice none 0 0)]) (.cells T [bP false,gX (gU 0)]):=
 .cells (fun _=>rfl) (.cons (.refl _) (.cons Al .nil))
structure YM(x:Bool×Nat)(b k:Nat):Prop where
 t0:(gU (j8 x.2 b k)).length<=256
 t1:(gU (j8 x.2 b (k+1))).length<=256
 tm:(gU (j8 x.2 b k*x.2)).length<=256
 tq:(gU (j8 x.2 b k*x.2/2^b)).length<=256
 s0:(gU (jR x b k).1.2).length<=256
 c0:(gU (jR x b k).2.2).length<=256
 s1:(gU ((jR x b k).1.2+j8 x.2 b (k+1))).length<=256
 c1:(gU ((jR x b k).2.2+j8 x.2 b (k+1))).length<=256
theorem W9{x:Bool×Nat}{b:Nat}(h:x.2<=2^(b+1))(hb:b<=3000){k:Nat}(hk:k<=b+5):YM x b k:=by
 have hp:(2:Nat)^(b+2)=2^(b+1)*2:=aZ _ _;have hq:(0:Nat)<2^(b+1):=aY ag;have t0:=Ef h k;have t1:=Ef h (k+1);obtain⟨s,c⟩:=Xb h hb hk;have hm:j8 x.2 b k*x.2<2^(b+2+(b+2)):=by
  rw[aV];exact anf ae ae 
 have e14:(2:Nat)^(b+15)=2^(b+14)*2:=aZ _ _;have e13:(2:Nat)^(b+1)<=2^(b+14):=bh ag ae;exact⟨lE (k:=b+2) ae ae,lE (k:=b+2) ae ae,lE hm ae,lE (bQ (bw _ _) hm) ae,
  lE s ae,lE c ae,lE (k:=b+15) ae ae,lE (k:=b+15) ae ae⟩
theorem UK{s:Bool}{m b:Nat}(h:m<2^4000)(hb:b<=8000):mP (canon s m (-(b:Int))):=by
 by_cases h0:m=0
 .subst h0;exact .inl rfl
 .have e:canon s m (-(b:Int))=⟨s,m/2^jO m,-(b:Int)+jO m⟩:=by unfold canon;rw[aQ h0]
  have h1:ia m<=4000:=kN.2 h;have h2:=sQ (bw m (2^jO m));have h3:jO m<=4000:=by
   have:=Dh h0;apply bE;intro hc;have:=bh (show 0<2 by decide) (show 4000<=jO m by omega);omega
  rw[e];exact .inr ⟨by show ia (m/2^jO m)<=4096;omega,by show -16384 <= -(b:Int)+jO m;omega,by show -(b:Int)+jO m<=16384;omega,by show(ia (m/2^jO m):Int)+(-(b:Int)+jO m)<=16384;omega⟩
theorem Je{a b i j n:Nat}(ha:a<2^i)(hb:b<2^j)(hi:i<=n)(hj:j<=n):a+b<2^(n+1):=by
 have h1:=bh (show 0<2 by decide) hi;have h2:=bh (show 0<2 by decide) hj;have e:2^(n+1)=2^n*2:=aZ _ _;omega
theorem acZ{a b:Bool×Nat}{i j n:Nat}(ha:a.2<2^i)(hb:b.2<2^j)(hi:i<=n)(hj:j<=n):(jM a b).2<2^(n+1):=bQ (wN _ _) (Je ha hb hi hj)
theorem UL{s:Bool}{m:Nat}{e:Int}(h:mP (canon s m e)):(canon s m e).ib:=⟨qJ _ _ _,h⟩
theorem FA{m i k:Nat}(h:m<2^i)(hk:i<=k):m<2^k:=bD h (bh ag hk)
def pk(a c:Bool×Nat):Bool×Nat:=if a.1=true/\a.2%c.2≠0 then jM (a.1,a.2/c.2) (true,1)else(a.1,a.2/c.2)
theorem RL(a c:Bool×Nat):(pk a c).2<=a.2/c.2+1:=by
 unfold pk;split
 .exact wN _ _
 .exact Nat.le_succ _
theorem ac7(a c:Bool×Nat):(pk a c).2*c.2<=a.2+c.2:=by
 refine aX (bC c.2 (RL a c)) ?_;rw[gy];exact Nat.add_le_add_right (cN _ _) _
theorem UA{lo hi:Dy}{e f:Int}(h:e≠0\/f≠0):kE lo e hi f=ie:=aR h
theorem agu{lo hi:Dy}{e f:Int}(h:e=0)(k:f=0):kE lo e hi f=⟨lo,hi,false⟩:=aQ (by rw[h,k];decide)
open Go.RowKit Fp Pu
def W4(x:Bool×Nat)(b N:Nat)(i:Nat):PS:=⟨43,true,[(8,.e (iP (((i+1):Nat):Int))),(7,.box 7 0),(5,.box 5 0),(4,.box 4 0),(2,.box 2 0),(1,.e (iP b))],[(5,.cells 209 [(bP (((jR x b i).2).1)),(gX (gU (((jR x b i).2).2)))]),(7,.cells 209 [(bP (lf x i)),(gX (gU (j8 x.2 b i)))]),(4,.cells 209 [(bP (((jR x b i).1).1)),(gX (gU (((jR x b i).1).2)))]),(2,.cells 209 [(bP x.1),(gX (gU x.2))])]⟩
theorem IS(n i:Nat):(gU n).getD i 0<4294967296:=by
 by_cases h:i<(gU n).length
 .rw [aW,bd h]
  exact kB n _ (cw h)
 .rw [aW,bS ae];decide
theorem aaK(d:Dy)(b t m:Nat)(cp:Bool×Nat)(hd:d.ib)(ht:t=d.iu.toNat)(iZ:16<=b)(mc:b<=2000)(rH:t<=2000)(K:Nat)(hK:K<=6000)(zx:m<2^K)(zc:2<=cp.2)(zd:(gU cp.2).length<=256)(qU:gV 328 [iP ((((b+t)+40):Nat):Int)] (.agg [(bP cp.1),(gX (gU cp.2))]))(tG:gV 334 [gY d,iP ((((b+t)+40):Nat):Int)] (.agg [(bP true),(gX (gU m))]))(hn:0<(gU (m/(cp.2/2^1))).length):gV 324 [(gY d),(iP b)] (.iw [(.agg [(bP ((jM (true,m) (false,((m/(cp.2/2^1))*(cp.2/2^1)))).1)),(gX (gU ((jM (true,m) (false,((m/(cp.2/2^1))*(cp.2/2^1)))).2/2^(t+40))))]),(iP ((((4-((gU (m/(cp.2/2^1))).getD 0 0%4))%4):Nat):Int))]):=by
 have EI:=F2 hd;have zX:(gU m).length<=256:=lE zx ae;have zH:(gU (cp.2/2^1)).length<=256:=aX (lW (bw _ _)) zd;have nH:(cp.2/2^1)≠0:= ae ;have mM:((m/(cp.2/2^1))*(cp.2/2^1))<=m:=cN _ _;have zN:(gU (m/(cp.2/2^1))).length<=256:=aX (lW (bw _ _)) zX;have zM:(gU ((m/(cp.2/2^1))*(cp.2/2^1))).length<=256:=aX (lW mM) zX;have zA:(gU (m+((m/(cp.2/2^1))*(cp.2/2^1)))).length<=256:=lE (k:=K+1) (by have:=aZ 2 K;omega) ae;have zR:(gU (jM (true,m) (false,((m/(cp.2/2^1))*(cp.2/2^1)))).2).length<=256:=aX (lW (wN _ _)) zA;have zm:(gU (m%(cp.2/2^1))).length<=256:=aX (lW (dk _ _)) zX;have hg:(gU (m/(cp.2/2^1))).getD 0 0<4294967296:=IS _ 0;have h4:(gU (m/(cp.2/2^1))).getD 0 0%4<=3:= ae ;exact tr true Tryz.call324 Tryz.func324 (chain [.c (oC _ af:gV 130 [(gY d)] _),.o 19 (.int au:PV.le (.e (iP (if 0>(Dy.iu d)then 0 else(Dy.iu d)))) (.e (iP t))),iq ((b:Int)+(t:Int)) ae,
  iq ((((b+t):Nat):Int)+40) ae,.c (qU:gV 328 [(iP ((((b+t)+40):Nat):Int))] _),.c (vE cp.2 1 af ae),.c (tG:gV 334 [(gY d),(iP ((((b+t)+40):Nat):Int))] _),.c (yI _ _ ae ae af:gV 296 [(gX (gU m)),(gX (gU (cp.2/2^1)))] _),.c (yJ _ _ af af af:gV 181 [(gX (gU (m/(cp.2/2^1)))),(gX (gU (cp.2/2^1)))] _),.c (sA (true,m) af (false,((m/(cp.2/2^1))*(cp.2/2^1))) af af:gV 335 [(.agg [(bP true),(gX (gU m))]),(.agg [(bP false),(gX (gU ((m/(cp.2/2^1))*(cp.2/2^1))))])] _),tT 61 (0<((gU (m/(cp.2/2^1))).length:Int)) ae,iX (0) ((gU (m/(cp.2/2^1))).length) ae,.o 65 (.int (X9 _ ae):PV.le (.e (.v (.int .u32 (bits .and .u32 ((((gU (m/(cp.2/2^1))).getD 0 0):Nat):Int) 3)))) (.e (.v (.int .u32 (((((gU (m/(cp.2/2^1))).getD 0 0)%4):Nat):Int))))),.o 66 (.int (Mu _ ae):PV.le (.e (iP (IntKind.i64.wrap (((((gU (m/(cp.2/2^1))).getD 0 0)%4):Nat):Int)))) (.e (iP (((((gU (m/(cp.2/2^1))).getD 0 0)%4):Nat):Int)))),
  iq (4-(((((gU (m/(cp.2/2^1))).getD 0 0)%4):Nat):Int)) ae,.o 71 (.int (aeM _ ae):PV.le (.e (iP (bits .and .i64 (4-(((((gU (m/(cp.2/2^1))).getD 0 0)%4):Nat):Int)) 3))) (.e (iP ((((4-((gU (m/(cp.2/2^1))).getD 0 0%4))%4):Nat):Int)))),
  iq ((t:Int)+40) ae,.c (vE ((jM (true,m) (false,((m/(cp.2/2^1))*(cp.2/2^1)))).2) (t+40) af ae)]<|.nil) ah 
theorem aaI(d:Dy)(b t m:Nat)(cp:Bool×Nat)(hd:d.ib)(ht:t=d.iu.toNat)(iZ:16<=b)(mc:b<=2000)(rH:t<=2000)(K:Nat)(hK:K<=6000)(zx:m<2^K)(zc:2<=cp.2)(zd:(gU cp.2).length<=256)(qU:gV 328 [iP ((((b+t)+40):Nat):Int)] (.agg [(bP cp.1),(gX (gU cp.2))]))(tG:gV 334 [gY d,iP ((((b+t)+40):Nat):Int)] (.agg [(bP true),(gX (gU m))]))(hn:¬0<(gU (m/(cp.2/2^1))).length):gV 324 [(gY d),(iP b)] (.iw [(.agg [(bP ((jM (true,m) (false,((m/(cp.2/2^1))*(cp.2/2^1)))).1)),(gX (gU ((jM (true,m) (false,((m/(cp.2/2^1))*(cp.2/2^1)))).2/2^(t+40))))]),(iP 0)]):=by
 have EI:=F2 hd;have zX:(gU m).length<=256:=lE zx ae;have zH:(gU (cp.2/2^1)).length<=256:=aX (lW (bw _ _)) zd;have nH:(cp.2/2^1)≠0:= ae ;have mM:((m/(cp.2/2^1))*(cp.2/2^1))<=m:=cN _ _;have zN:(gU (m/(cp.2/2^1))).length<=256:=aX (lW (bw _ _)) zX;have zM:(gU ((m/(cp.2/2^1))*(cp.2/2^1))).length<=256:=aX (lW mM) zX;have zA:(gU (m+((m/(cp.2/2^1))*(cp.2/2^1)))).length<=256:=lE (k:=K+1) (by have:=aZ 2 K;omega) ae;have zR:(gU (jM (true,m) (false,((m/(cp.2/2^1))*(cp.2/2^1)))).2).length<=256:=aX (lW (wN _ _)) zA;have zm:(gU (m%(cp.2/2^1))).length<=256:=aX (lW (dk _ _)) zX;have hg:(gU (m/(cp.2/2^1))).getD 0 0<4294967296:=IS _ 0;have h4:(gU (m/(cp.2/2^1))).getD 0 0%4<=3:= ae ;exact tr true Tryz.call324 Tryz.func324 (chain [.c (oC _ af:gV 130 [(gY d)] _),.o 19 (.int au:PV.le (.e (iP (if 0>(Dy.iu d)then 0 else(Dy.iu d)))) (.e (iP t))),iq ((b:Int)+(t:Int)) ae,
  iq ((((b+t):Nat):Int)+40) ae,.c (qU:gV 328 [(iP ((((b+t)+40):Nat):Int))] _),.c (vE cp.2 1 af ae),.c (tG:gV 334 [(gY d),(iP ((((b+t)+40):Nat):Int))] _),.c (yI _ _ ae ae af:gV 296 [(gX (gU m)),(gX (gU (cp.2/2^1)))] _),.c (yJ _ _ af af af:gV 181 [(gX (gU (m/(cp.2/2^1)))),(gX (gU (cp.2/2^1)))] _),.c (sA (true,m) af (false,((m/(cp.2/2^1))*(cp.2/2^1))) af af:gV 335 [(.agg [(bP true),(gX (gU m))]),(.agg [(bP false),(gX (gU ((m/(cp.2/2^1))*(cp.2/2^1))))])] _),tF 61 (0<((gU (m/(cp.2/2^1))).length:Int)) ae,iq (4-0) ae,.o 71 (.int ag:PV.le (.e (iP (bits .and .i64 (4-0) 3))) (.e (iP 0))),iq ((t:Int)+40) ae,.c (vE ((jM (true,m) (false,((m/(cp.2/2^1))*(cp.2/2^1)))).2) (t+40) af ae)]<|.nil) ah 
theorem aaL(d:Dy)(b t m:Nat)(cp:Bool×Nat)(hd:d.ib)(ht:t=d.iu.toNat)(iZ:16<=b)(mc:b<=2000)(rH:t<=2000)(K:Nat)(hK:K<=6000)(zx:m<2^K)(zc:2<=cp.2)(zd:(gU cp.2).length<=256)(qU:gV 328 [iP ((((b+t)+40):Nat):Int)] (.agg [(bP cp.1),(gX (gU cp.2))]))(tG:gV 334 [gY d,iP ((((b+t)+40):Nat):Int)] (.agg [(bP false),(gX (gU m))]))(hn:0<(gU (m/(cp.2/2^1))).length):gV 324 [(gY d),(iP b)] (.iw [(.agg [(bP ((jM (false,m) (true,((m/(cp.2/2^1))*(cp.2/2^1)))).1)),(gX (gU ((jM (false,m) (true,((m/(cp.2/2^1))*(cp.2/2^1)))).2/2^(t+40))))]),(iP ((((gU (m/(cp.2/2^1))).getD 0 0%4):Nat):Int))]):=by
 have EI:=F2 hd;have zX:(gU m).length<=256:=lE zx ae;have zH:(gU (cp.2/2^1)).length<=256:=aX (lW (bw _ _)) zd;have nH:(cp.2/2^1)≠0:= ae ;have mM:((m/(cp.2/2^1))*(cp.2/2^1))<=m:=cN _ _;have zN:(gU (m/(cp.2/2^1))).length<=256:=aX (lW (bw _ _)) zX;have zM:(gU ((m/(cp.2/2^1))*(cp.2/2^1))).length<=256:=aX (lW mM) zX;have zA:(gU (m+((m/(cp.2/2^1))*(cp.2/2^1)))).length<=256:=lE (k:=K+1) (by have:=aZ 2 K;omega) ae;have zR:(gU (jM (false,m) (true,((m/(cp.2/2^1))*(cp.2/2^1)))).2).length<=256:=aX (lW (wN _ _)) zA;have zm:(gU (m%(cp.2/2^1))).length<=256:=aX (lW (dk _ _)) zX;have hg:(gU (m/(cp.2/2^1))).getD 0 0<4294967296:=IS _ 0;have h4:(gU (m/(cp.2/2^1))).getD 0 0%4<=3:= ae ;exact tr true Tryz.call324 Tryz.func324 (chain [.c (oC _ af:gV 130 [(gY d)] _),.o 19 (.int au:PV.le (.e (iP (if 0>(Dy.iu d)then 0 else(Dy.iu d)))) (.e (iP t))),iq ((b:Int)+(t:Int)) ae,
  iq ((((b+t):Nat):Int)+40) ae,.c (qU:gV 328 [(iP ((((b+t)+40):Nat):Int))] _),.c (vE cp.2 1 af ae),.c (tG:gV 334 [(gY d),(iP ((((b+t)+40):Nat):Int))] _),.c (yI _ _ ae ae af:gV 296 [(gX (gU m)),(gX (gU (cp.2/2^1)))] _),.c (yJ _ _ af af af:gV 181 [(gX (gU (m/(cp.2/2^1)))),(gX (gU (cp.2/2^1)))] _),.c (sA (false,m) af (true,((m/(cp.2/2^1))*(cp.2/2^1))) af af:gV 335 [(.agg [(bP false),(gX (gU m))]),(.agg [(bP true),(gX (gU ((m/(cp.2/2^1))*(cp.2/2^1))))])] _),tT 61 (0<((gU (m/(cp.2/2^1))).length:Int)) ae,iX (0) ((gU (m/(cp.2/2^1))).length) ae,.o 65 (.int (X9 _ ae):PV.le (.e (.v (.int .u32 (bits .and .u32 ((((gU (m/(cp.2/2^1))).getD 0 0):Nat):Int) 3)))) (.e (.v (.int .u32 (((((gU (m/(cp.2/2^1))).getD 0 0)%4):Nat):Int))))),.o 66 (.int (Mu _ ae):PV.le (.e (iP (IntKind.i64.wrap (((((gU (m/(cp.2/2^1))).getD 0 0)%4):Nat):Int)))) (.e (iP (((((gU (m/(cp.2/2^1))).getD 0 0)%4):Nat):Int)))),
  iq ((t:Int)+40) ae,.c (vE ((jM (false,m) (true,((m/(cp.2/2^1))*(cp.2/2^1)))).2) (t+40) af ae)]<|.nil) ah 
theorem aaJ(d:Dy)(b t m:Nat)(cp:Bool×Nat)(hd:d.ib)(ht:t=d.iu.toNat)(iZ:16<=b)(mc:b<=2000)(rH:t<=2000)(K:Nat)(hK:K<=6000)(zx:m<2^K)(zc:2<=cp.2)(zd:(gU cp.2).length<=256)(qU:gV 328 [iP ((((b+t)+40):Nat):Int)] (.agg [(bP cp.1),(gX (gU cp.2))]))(tG:gV 334 [gY d,iP ((((b+t)+40):Nat):Int)] (.agg [(bP false),(gX (gU m))]))(hn:¬0<(gU (m/(cp.2/2^1))).length):gV 324 [(gY d),(iP b)] (.iw [(.agg [(bP ((jM (false,m) (true,((m/(cp.2/2^1))*(cp.2/2^1)))).1)),(gX (gU ((jM (false,m) (true,((m/(cp.2/2^1))*(cp.2/2^1)))).2/2^(t+40))))]),(iP 0)]):=by
 have EI:=F2 hd;have zX:(gU m).length<=256:=lE zx ae;have zH:(gU (cp.2/2^1)).length<=256:=aX (lW (bw _ _)) zd;have nH:(cp.2/2^1)≠0:= ae ;have mM:((m/(cp.2/2^1))*(cp.2/2^1))<=m:=cN _ _;have zN:(gU (m/(cp.2/2^1))).length<=256:=aX (lW (bw _ _)) zX;have zM:(gU ((m/(cp.2/2^1))*(cp.2/2^1))).length<=256:=aX (lW mM) zX;have zA:(gU (m+((m/(cp.2/2^1))*(cp.2/2^1)))).length<=256:=lE (k:=K+1) (by have:=aZ 2 K;omega) ae;have zR:(gU (jM (false,m) (true,((m/(cp.2/2^1))*(cp.2/2^1)))).2).length<=256:=aX (lW (wN _ _)) zA;have zm:(gU (m%(cp.2/2^1))).length<=256:=aX (lW (dk _ _)) zX;have hg:(gU (m/(cp.2/2^1))).getD 0 0<4294967296:=IS _ 0;have h4:(gU (m/(cp.2/2^1))).getD 0 0%4<=3:= ae ;exact tr true Tryz.call324 Tryz.func324 (chain [.c (oC _ af:gV 130 [(gY d)] _),.o 19 (.int au:PV.le (.e (iP (if 0>(Dy.iu d)then 0 else(Dy.iu d)))) (.e (iP t))),iq ((b:Int)+(t:Int)) ae,
  iq ((((b+t):Nat):Int)+40) ae,.c (qU:gV 328 [(iP ((((b+t)+40):Nat):Int))] _),.c (vE cp.2 1 af ae),.c (tG:gV 334 [(gY d),(iP ((((b+t)+40):Nat):Int))] _),.c (yI _ _ ae ae af:gV 296 [(gX (gU m)),(gX (gU (cp.2/2^1)))] _),.c (yJ _ _ af af af:gV 181 [(gX (gU (m/(cp.2/2^1)))),(gX (gU (cp.2/2^1)))] _),.c (sA (false,m) af (true,((m/(cp.2/2^1))*(cp.2/2^1))) af af:gV 335 [(.agg [(bP false),(gX (gU m))]),(.agg [(bP true),(gX (gU ((m/(cp.2/2^1))*(cp.2/2^1))))])] _),tF 61 (0<((gU (m/(cp.2/2^1))).length:Int)) ae,iq ((t:Int)+40) ae,.c (vE ((jM (false,m) (true,((m/(cp.2/2^1))*(cp.2/2^1)))).2) (t+40) af ae)]<|.nil) ah 
theorem aaH(d:Dy)(b:Nat)(hd:d.ib)(iZ:16<=b)(mc:b<=1000)(ht:d.iu<=100):∃ (r:Bool×Nat) (k:Nat),r.2<=2^(b+1)/\k<=3/\gV 324 [gY d,iP (b:Int)] (.iw [(.agg [(bP r.1),(gX (gU r.2))]),iP (k:Int)]):=by
 obtain⟨t,rH⟩:∃ t,t=d.iu.toNat:=⟨_,rfl⟩
 obtain⟨cp,c1,c2,c3,qU⟩:=Qd (b+t+40) ae ae;have tG:=Ku d hd (b+t+40) 6000 ae ag ae;have iD:=I7 (d:=d) (b:=b+t+40) (K:=6000) ae;generalize qO d (b+t+40)=x at tG iD;have hp:(2:Nat)^(b+t+40+3)=2^(b+t+40)*8:=by rw[aV]
 have zd:(gU cp.2).length<=256:=lE (k:=b+t+40+3) (by have:0<2^(b+t+40):=aY ag;omega) ae;obtain⟨sg,m⟩:=x;have hle:=ai1 (x:=(sg,m)) (H:=cp.2/2^1) (b:=b) (t:=t) ae c3;by_cases hn:0<(gU (m/(cp.2/2^1))).length
 .cases sg with
  |false=>exact⟨((jM (false,m) (true,m/(cp.2/2^1)*(cp.2/2^1))).1,(jM (false,m) (true,m/(cp.2/2^1)*(cp.2/2^1))).2/2^(t+40)),_,hle,ai0 _,aaL d b t m cp hd rH iZ ae ae 6000 ag iD c1 zd qU tG hn⟩
  |true=>exact⟨((jM (true,m) (false,m/(cp.2/2^1)*(cp.2/2^1))).1,(jM (true,m) (false,m/(cp.2/2^1)*(cp.2/2^1))).2/2^(t+40)),_,hle,aiZ _,aaK d b t m cp hd rH iZ ae ae 6000 ag iD c1 zd qU tG hn⟩
 .cases sg with
  |false=>exact⟨((jM (false,m) (true,m/(cp.2/2^1)*(cp.2/2^1))).1,(jM (false,m) (true,m/(cp.2/2^1)*(cp.2/2^1))).2/2^(t+40)),_,hle,bL 3,aaJ d b t m cp hd rH iZ ae ae 6000 ag iD c1 zd qU tG hn⟩
  |true=>exact⟨((jM (true,m) (false,m/(cp.2/2^1)*(cp.2/2^1))).1,(jM (true,m) (false,m/(cp.2/2^1)*(cp.2/2^1))).2/2^(t+40)),_,hle,bL 3,aaI d b t m cp hd rH iZ ae ae 6000 ag iD c1 zd qU tG hn⟩
theorem aaN(x:Bool×Nat)(b N:Nat)(qW:x.2<=2^(b+1))(hb:b<=3000)(rV:N<=b+4)(h0:∀ k,k<N+1->j8 x.2 b k≠0)(hN:j8 x.2 b (N+1)=0):gV 325 [(.agg [(bP x.1),(gX (gU x.2))]),(iP b)] (.iw [(.agg [(bP (((jR x b N).1).1)),(gX (gU (((jR x b N).1).2)))]),(.agg [(bP (((jR x b N).2).1)),(gX (gU (((jR x b N).2).2)))])]):=by
 have zx:(gU x.2).length<=256:=lE (k:=b+2) (by have e:2^(b+2)=2^(b+1)*2:=aZ _ _;have:0<2^(b+1):=aY ag;omega) ae;have z0:(gU 1).length<=256:=sG ag;have z1:(gU (1*2^b)).length<=256:=lE (k:=b+1) (by rw[aZ,bJ];have:0<2^b:=aY ag;omega) ae;exact tr true Tryz.call325 Tryz.func325 (chain [.o 10 (.e rN:PV.le (.e (.sl false 1 1 fun i_ j_=>[(.v (.int .u32 1))].getD (i_*1+j_) (.v (.bool false)))) (.e (gX (gU 1)))),.c (zj 1 b af ae af),.s (Sp.jv (W4 x b N) 0 N ae (fun i hi pG=>by
    have SF:=W9 qW hb (k:=i) ae;obtain⟨f0,f1,f2,f3,f4,f5,f6,f7⟩:=SF;exact iB (chain [.c (Ld ((lf x i),(j8 x.2 b i)) af x af _ ae af:gV 332 [(.agg [(bP (lf x i)),(gX (gU (j8 x.2 b i)))]),(.agg [(bP x.1),(gX (gU x.2))]),(iP b)] _),.c (Ec (((lf x i) != x.1),((j8 x.2 b i)*x.2/2^b)) af (i+1) ae ae:gV 342 [(.agg [(bP ((lf x i) != x.1)),(gX (gU ((j8 x.2 b i)*x.2/2^b)))]),(iP (((i+1):Nat):Int))] _),.c (Cw ((lf x (i+1)),(j8 x.2 b (i+1))) af:gV 336 [(.agg [(bP (lf x (i+1))),(gX (gU (j8 x.2 b (i+1))))])] _),tF 25 ((j8 x.2 b (i+1))=0) (h0 (i+1) ae),.a (ae:0<(4:Int))]<|.w (2<=(i+1)%4)
     (fun h4=>chain [tT 31 (2<=((((i+1)%4):Nat):Int)) ae,.c (vJ ((lf x (i+1)),(j8 x.2 b (i+1))):gV 326 [(.agg [(bP (lf x (i+1))),(gX (gU (j8 x.2 b (i+1))))])] _),.a (ae:0<(2:Int))]<|.w ((i+1)%2=1)
      (fun ho=>chain [tB 36 (by rw[ho];rfl:(((((i+1)%2):Nat):Int)==1)=true),.c (sA ((jR x b i).1) af ((!(lf x (i+1))),(j8 x.2 b (i+1))) af af:gV 335 [(.agg [(bP (((jR x b i).1).1)),(gX (gU (((jR x b i).1).2)))]),(.agg [(bP (!(lf x (i+1)))),(gX (gU (j8 x.2 b (i+1))))])] _),
       iq ((((i+1):Nat):Int)+1) ae]<|.e (chain [.b 5 (.iS (by first|rfl|simp[jR,lf,j8,ho,h4]|simp[jR,lf,j8]):Bx.le (.cells 209 [(bP (((jR x b i).2).1)),(gX (gU (((jR x b i).2).2)))]) (.cells 209 [(bP (((jR x b (i+1)).2).1)),(gX (gU (((jR x b (i+1)).2).2)))])),.b 4 (.iS (by first|rfl|simp[jR,lf,j8,ho,h4]|simp[jR,lf,j8]):Bx.le (.cells 209 [(bP ((jM ((jR x b i).1) ((!(lf x (i+1))),(j8 x.2 b (i+1)))).1)),(gX (gU ((jM ((jR x b i).1) ((!(lf x (i+1))),(j8 x.2 b (i+1)))).2)))]) (.cells 209 [(bP (((jR x b (i+1)).1).1)),(gX (gU (((jR x b (i+1)).1).2)))]))]<|.nil))
      (fun ho=>chain [tB 36 (av:(((((i+1)%2):Nat):Int)==1)=false),.c (sA ((jR x b i).2) af ((!(lf x (i+1))),(j8 x.2 b (i+1))) af af:gV 335 [(.agg [(bP (((jR x b i).2).1)),(gX (gU (((jR x b i).2).2)))]),(.agg [(bP (!(lf x (i+1)))),(gX (gU (j8 x.2 b (i+1))))])] _),
       iq ((((i+1):Nat):Int)+1) ae]<|.e (chain [.b 5 (.iS (by first|rfl|simp[jR,lf,j8,ho,h4]|simp[jR,lf,j8]):Bx.le (.cells 209 [(bP ((jM ((jR x b i).2) ((!(lf x (i+1))),(j8 x.2 b (i+1)))).1)),(gX (gU ((jM ((jR x b i).2) ((!(lf x (i+1))),(j8 x.2 b (i+1)))).2)))]) (.cells 209 [(bP (((jR x b (i+1)).2).1)),(gX (gU (((jR x b (i+1)).2).2)))])),.b 4 (.iS (by first|rfl|simp[jR,lf,j8,ho,h4]|simp[jR,lf,j8]):Bx.le (.cells 209 [(bP (((jR x b i).1).1)),(gX (gU (((jR x b i).1).2)))]) (.cells 209 [(bP (((jR x b (i+1)).1).1)),(gX (gU (((jR x b (i+1)).1).2)))]))]<|.nil)))
     (fun h4=>chain [tF 31 (2<=((((i+1)%4):Nat):Int)) ae,.a (ae:0<(2:Int))]<|.w ((i+1)%2=1)
      (fun ho=>chain [tB 36 (by rw[ho];rfl:(((((i+1)%2):Nat):Int)==1)=true),.c (sA ((jR x b i).1) af ((lf x (i+1)),(j8 x.2 b (i+1))) af af:gV 335 [(.agg [(bP (((jR x b i).1).1)),(gX (gU (((jR x b i).1).2)))]),(.agg [(bP (lf x (i+1))),(gX (gU (j8 x.2 b (i+1))))])] _),
       iq ((((i+1):Nat):Int)+1) ae]<|.e (chain [.b 5 (.iS (by first|rfl|simp[jR,lf,j8,ho,h4]|simp[jR,lf,j8]):Bx.le (.cells 209 [(bP (((jR x b i).2).1)),(gX (gU (((jR x b i).2).2)))]) (.cells 209 [(bP (((jR x b (i+1)).2).1)),(gX (gU (((jR x b (i+1)).2).2)))])),.b 4 (.iS (by first|rfl|simp[jR,lf,j8,ho,h4]|simp[jR,lf,j8]):Bx.le (.cells 209 [(bP ((jM ((jR x b i).1) ((lf x (i+1)),(j8 x.2 b (i+1)))).1)),(gX (gU ((jM ((jR x b i).1) ((lf x (i+1)),(j8 x.2 b (i+1)))).2)))]) (.cells 209 [(bP (((jR x b (i+1)).1).1)),(gX (gU (((jR x b (i+1)).1).2)))]))]<|.nil))
      (fun ho=>chain [tB 36 (av:(((((i+1)%2):Nat):Int)==1)=false),.c (sA ((jR x b i).2) af ((lf x (i+1)),(j8 x.2 b (i+1))) af af:gV 335 [(.agg [(bP (((jR x b i).2).1)),(gX (gU (((jR x b i).2).2)))]),(.agg [(bP (lf x (i+1))),(gX (gU (j8 x.2 b (i+1))))])] _),
       iq ((((i+1):Nat):Int)+1) ae]<|.e (chain [.b 5 (.iS (by first|rfl|simp[jR,lf,j8,ho,h4]|simp[jR,lf,j8]):Bx.le (.cells 209 [(bP ((jM ((jR x b i).2) ((lf x (i+1)),(j8 x.2 b (i+1)))).1)),(gX (gU ((jM ((jR x b i).2) ((lf x (i+1)),(j8 x.2 b (i+1)))).2)))]) (.cells 209 [(bP (((jR x b (i+1)).2).1)),(gX (gU (((jR x b (i+1)).2).2)))])),.b 4 (.iS (by first|rfl|simp[jR,lf,j8,ho,h4]|simp[jR,lf,j8]):Bx.le (.cells 209 [(bP (((jR x b i).1).1)),(gX (gU (((jR x b i).1).2)))]) (.cells 209 [(bP (((jR x b (i+1)).1).1)),(gX (gU (((jR x b (i+1)).1).2)))]))]<|.nil)))) ah)
  (fun hi=>by
    have SF:=W9 qW hb (k:=N) ae;obtain⟨f0,f1,f2,f3,f4,f5,f6,f7⟩:=SF;exact iB (chain [.c (Ld ((lf x N),(j8 x.2 b N)) af x af _ ae af:gV 332 [(.agg [(bP (lf x N)),(gX (gU (j8 x.2 b N)))]),(.agg [(bP x.1),(gX (gU x.2))]),(iP b)] _),.c (Ec (((lf x N) != x.1),((j8 x.2 b N)*x.2/2^b)) af (N+1) ae ae:gV 342 [(.agg [(bP ((lf x N) != x.1)),(gX (gU ((j8 x.2 b N)*x.2/2^b)))]),(iP (((N+1):Nat):Int))] _),.c (Cw ((lf x (N+1)),(j8 x.2 b (N+1))) af:gV 336 [(.agg [(bP (lf x (N+1))),(gX (gU (j8 x.2 b (N+1))))])] _),tB 25 (aS hN)]<|.nil) ah) ak:jq 6 Tryz.f325 (W4 x b N 0) .ret ⟨43,true,[(5,.box 5 0),(4,.box 4 0)],[(5,.cells 209 [(bP (((jR x b N).2).1)),(gX (gU (((jR x b N).2).2)))]),(4,.cells 209 [(bP (((jR x b N).1).1)),(gX (gU (((jR x b N).1).2)))])]⟩) (chain [.o 8 (.int aw:PV.le (.e (iP 1)) (.e (iP (((0+1):Nat):Int)))),.b 5 (.iS (by first|rfl|simp[jR,lf,j8,ho,h4]|simp[jR,lf,j8]):Bx.le (.cells 209 [(bP false),(gX (gU (1*2^b)))]) (.cells 209 [(bP (((jR x b 0).2).1)),(gX (gU (((jR x b 0).2).2)))])),.b 7 (.iS (by first|rfl|simp[jR,lf,j8,ho,h4]|simp[jR,lf,j8]):Bx.le (.cells 209 [(bP false),(gX (gU (1*2^b)))]) (.cells 209 [(bP (lf x 0)),(gX (gU (j8 x.2 b 0)))])),.b 4 (adb:Bx.le (.cells 209 [(bP false),(.v (.slice none 0 0))]) (.cells 209 [(bP (((jR x b 0).1).1)),(gX (gU (((jR x b 0).1).2)))]))]<|.nil)]<|.nil) ah 
theorem aaO(x:Bool×Nat)(b:Nat)(qW:x.2<=2^(b+1))(hb:b<=3000):∃ s c:Bool×Nat,s.2<2^(b+14)/\c.2<2^(b+14)/\gV 325 [(.agg [(bP x.1),(gX (gU x.2))]),iP (b:Int)] (.iw [(.agg [(bP s.1),(gX (gU s.2))]),(.agg [(bP c.1),(gX (gU c.2))])]):=by
 obtain⟨N,n1,n2,n3,n4⟩:=adf qW;obtain⟨M,rfl⟩:∃ M,N=M+1:=⟨N-1,ae⟩
 obtain⟨a1,a2⟩:=Xb qW hb (k:=M) ae;exact⟨_,_,a1,a2,aaN x b M qW hb ae n3 n4⟩
open Go.RowKit Fp Pu
theorem zo(a:Bool×Nat)(b p:Nat)(ha:a.2<2^3000)(hb:b<=8000)(il:8<=p)(ic:p<=512):gV 327 [(.agg [(bP a.1),(gX (gU a.2))]),(iP b),(iP p)] (gZ (sc a b p)):=by
 have z1:(gU 1).length<=256:=sG ag;have z2:(gU (1*2^24)).length<=256:=sG ag;have z3:(gU a.2).length<=256:=lE ha ag;have hs:=Je (n:=3000) ha (show 1*2^24<2^25 by decide) ag ag;have z4:(gU (a.2+1*2^24)).length<=256:=lE hs ag;have l1:=bQ (show(jM a ((!false),(1*2^24))).2<=_ from wN _ _) hs;have l2:=bQ (show(jM a (false,(1*2^24))).2<=_ from wN _ _) hs;have z5:(gU (jM a ((!false),(1*2^24))).2).length<=256:=lE l1 ag;have z6:(gU (jM a (false,(1*2^24))).2).length<=256:=lE l2 ag;have e3:(0-(b:Int)) = -(b:Int):=Int.zero_sub _;have r1:mP (canon (jM a ((!false),(1*2^24))).1 (jM a ((!false),(1*2^24))).2 (0-(b:Int))):=by rw[e3];exact UK (FA (k:=4000) l1 ag) hb
 have r2:mP (canon (jM a (false,(1*2^24))).1 (jM a (false,(1*2^24))).2 (0-(b:Int))):=by rw[e3];exact UK (FA (k:=4000) l2 ag) hb
 have v1:(canon (jM a ((!false),(1*2^24))).1 (jM a ((!false),(1*2^24))).2 (0-(b:Int))).ib:=UL r1;have v2:(canon (jM a (false,(1*2^24))).1 (jM a (false,(1*2^24))).2 (0-(b:Int))).ib:=UL r2;have hN:sc a b p=kE (jh (canon (jM a ((!false),(1*2^24))).1 (jM a ((!false),(1*2^24))).2 (0-(b:Int))) p false) (jz (canon (jM a ((!false),(1*2^24))).1 (jM a ((!false),(1*2^24))).2 (0-(b:Int))) p false) (jh (canon (jM a (false,(1*2^24))).1 (jM a (false,(1*2^24))).2 (0-(b:Int))) p true) (jz (canon (jM a (false,(1*2^24))).1 (jM a (false,(1*2^24))).2 (0-(b:Int))) p true):=by rw[e3];rfl
 exact tr true Tryz.call327 Tryz.func327 (chain [.o 14 (.e rN:PV.le (.e (.sl false 1 1 fun i_ j_=>[(.v (.int .u32 1))].getD (i_*1+j_) (.v (.bool false)))) (.e (gX (gU 1)))),.c (zj 1 24 af ae af),.c (vJ (false,(1*2^24)):gV 326 [(.agg [(bP false),(gX (gU (1*2^24)))])] _),.c (sA a af ((!false),(1*2^24)) af af:gV 335 [(.agg [(bP a.1),(gX (gU a.2))]),(.agg [(bP (!false)),(gX (gU (1*2^24)))])] _),.c (sA a af (false,(1*2^24)) af af:gV 335 [(.agg [(bP a.1),(gX (gU a.2))]),(.agg [(bP false),(gX (gU (1*2^24)))])] _),iq (0-(b:Int)) ae,.c (AY _ _ _ af ae ae af:gV 262 [(bP ((jM a ((!false),(1*2^24))).1)),(gX (gU ((jM a ((!false),(1*2^24))).2))),(iP (0-(b:Int)))] _),
  iq (0-(b:Int)) ae,.c (AY _ _ _ af ae ae af:gV 262 [(bP ((jM a (false,(1*2^24))).1)),(gX (gU ((jM a (false,(1*2^24))).2))),(iP (0-(b:Int)))] _),tB 45 (ag:((0:Int) != 0)=false),tB 48 (ag:((0:Int) != 0)=false),.c (GB (canon ((jM a (!false,(1*2^24))).1) ((jM a (!false,(1*2^24))).2) (0-(b:Int))) p af ae ae),.c (GC (canon ((jM a (false,(1*2^24))).1) ((jM a (false,(1*2^24))).2) (0-(b:Int))) p af ae ae)]<|.w ((jz (canon ((jM a ((!false),(1*2^24))).1) ((jM a ((!false),(1*2^24))).2) (0-(b:Int))) p false)=0)
  (fun k1=>chain [tB 64 (aO k1)]<|.w ((jz (canon ((jM a (false,(1*2^24))).1) ((jM a (false,(1*2^24))).2) (0-(b:Int))) p true)=0)
   (fun k2=>chain [tB 67 (aO k2)]<|rQ (gZ (Iv.mk (jh (canon ((jM a ((!false),(1*2^24))).1) ((jM a ((!false),(1*2^24))).2) (0-(b:Int))) p false) (jh (canon ((jM a (false,(1*2^24))).1) ((jM a (false,(1*2^24))).2) (0-(b:Int))) p true) false)) (gZ (sc a b p)) (by rw[hN,agu k1 k2]))
   (fun k2=>chain [tB 67 (aP k2),.c nv]<|rQ (gZ ie) (gZ (sc a b p)) (by rw[hN,UA (.inr k2)])))
  (fun k1=>chain [tB 64 (aP k1),.c nv]<|rQ (gZ ie) (gZ (sc a b p)) (by rw[hN,UA (.inl k1)]))) ah 
theorem aaF(d:Dy)(p:Nat)(hd:d.ib)(h0:d.iK=0)(il:8<=p)(ic:p<=512):gV 315 [(gY d),(bP true),(iP p)] (gZ (jD 1)):=by
 have hv:=rZ (n:=1) ag;exact tr true Tryz.call315 Tryz.func315 (chain [.c (nT _ af:gV 35 [(gY d)] _),tB 14 (by rw[h0];rfl:((Dy.iK d)==0)=true),.c (qI _ ae:gV 113 [(iP 1)] _),.c (C2 (jd 1) af)]<|.nil) ah 
theorem aax(d:Dy)(p:Nat)(r s c:Bool×Nat)(hd:d.ib)(h0:d.iK≠0)(pC:gV 324 [gY d,iP (((p+64):Nat):Int)] (.iw [(.agg [(bP r.1),(gX (gU r.2))]),(iP 0)]))(pD:gV 325 [(.agg [(bP r.1),(gX (gU r.2))]),iP (((p+64):Nat):Int)] (.iw [(.agg [(bP s.1),(gX (gU s.2))]),(.agg [(bP c.1),(gX (gU c.2))])]))(zs:s.2<2^3000)(zc:c.2<2^3000)(il:8<=p)(ic:p<=512):gV 315 [(gY d),(bP true),(iP p)] (gZ (sc c (p+64) p)):=by
 have zk:c.2<2^3000:=zc;exact tr true Tryz.call315 Tryz.func315 (chain [.c (nT _ af:gV 35 [(gY d)] _),tB 14 (by simpa using h0:((Dy.iK d)==0)=false),iq ((p:Int)+64) ae,.c (pC:gV 324 [(gY d),(iP (((p+64):Nat):Int))] _),.c (pD:gV 325 [(.agg [(bP r.1),(gX (gU r.2))]),(iP (((p+64):Nat):Int))] _),iq (0+1) ae,.a (ae:0<(4:Int)),.o 38 (.int ag:PV.le (.e (iP (Int.tmod (0+1) 4))) (.e (iP 1))),tB 40 (ag:((1:Int)==1)=true),.c (zo c _ _ af ae ae ae:gV 327 [(.agg [(bP c.1),(gX (gU c.2))]),(iP (((p+64):Nat):Int)),(iP p)] _)]<|.nil) ah 
theorem aay(d:Dy)(p:Nat)(r s c:Bool×Nat)(hd:d.ib)(h0:d.iK≠0)(pC:gV 324 [gY d,iP (((p+64):Nat):Int)] (.iw [(.agg [(bP r.1),(gX (gU r.2))]),(iP 1)]))(pD:gV 325 [(.agg [(bP r.1),(gX (gU r.2))]),iP (((p+64):Nat):Int)] (.iw [(.agg [(bP s.1),(gX (gU s.2))]),(.agg [(bP c.1),(gX (gU c.2))])]))(zs:s.2<2^3000)(zc:c.2<2^3000)(il:8<=p)(ic:p<=512):gV 315 [(gY d),(bP true),(iP p)] (gZ (sc ((!s.1),s.2) (p+64) p)):=by
 have zk:((!s.1),s.2).2<2^3000:=zs;exact tr true Tryz.call315 Tryz.func315 (chain [.c (nT _ af:gV 35 [(gY d)] _),tB 14 (by simpa using h0:((Dy.iK d)==0)=false),iq ((p:Int)+64) ae,.c (pC:gV 324 [(gY d),(iP (((p+64):Nat):Int))] _),.c (pD:gV 325 [(.agg [(bP r.1),(gX (gU r.2))]),(iP (((p+64):Nat):Int))] _),iq (1+1) ae,.a (ae:0<(4:Int)),.o 38 (.int ag:PV.le (.e (iP (Int.tmod (1+1) 4))) (.e (iP 2))),tB 40 (ag:((2:Int)==1)=false),tB 43 (ag:((2:Int)==2)=true),.c (vJ (s.1,s.2):gV 326 [(.agg [(bP s.1),(gX (gU s.2))])] _),.c (zo ((!s.1),s.2) _ _ af ae ae ae:gV 327 [(.agg [(bP (!s.1)),(gX (gU s.2))]),(iP (((p+64):Nat):Int)),(iP p)] _)]<|.nil) ah 
theorem aaz(d:Dy)(p:Nat)(r s c:Bool×Nat)(hd:d.ib)(h0:d.iK≠0)(pC:gV 324 [gY d,iP (((p+64):Nat):Int)] (.iw [(.agg [(bP r.1),(gX (gU r.2))]),(iP 2)]))(pD:gV 325 [(.agg [(bP r.1),(gX (gU r.2))]),iP (((p+64):Nat):Int)] (.iw [(.agg [(bP s.1),(gX (gU s.2))]),(.agg [(bP c.1),(gX (gU c.2))])]))(zs:s.2<2^3000)(zc:c.2<2^3000)(il:8<=p)(ic:p<=512):gV 315 [(gY d),(bP true),(iP p)] (gZ (sc ((!c.1),c.2) (p+64) p)):=by
 have zk:((!c.1),c.2).2<2^3000:=zc;exact tr true Tryz.call315 Tryz.func315 (chain [.c (nT _ af:gV 35 [(gY d)] _),tB 14 (by simpa using h0:((Dy.iK d)==0)=false),iq ((p:Int)+64) ae,.c (pC:gV 324 [(gY d),(iP (((p+64):Nat):Int))] _),.c (pD:gV 325 [(.agg [(bP r.1),(gX (gU r.2))]),(iP (((p+64):Nat):Int))] _),iq (2+1) ae,.a (ae:0<(4:Int)),.o 38 (.int ag:PV.le (.e (iP (Int.tmod (2+1) 4))) (.e (iP 3))),tB 40 (ag:((3:Int)==1)=false),tB 43 (ag:((3:Int)==2)=false),tB 47 (ag:((3:Int)==3)=true),.c (vJ (c.1,c.2):gV 326 [(.agg [(bP c.1),(gX (gU c.2))])] _),.c (zo ((!c.1),c.2) _ _ af ae ae ae:gV 327 [(.agg [(bP (!c.1)),(gX (gU c.2))]),(iP (((p+64):Nat):Int)),(iP p)] _)]<|.nil) ah 
theorem aaA(d:Dy)(p:Nat)(r s c:Bool×Nat)(hd:d.ib)(h0:d.iK≠0)(pC:gV 324 [gY d,iP (((p+64):Nat):Int)] (.iw [(.agg [(bP r.1),(gX (gU r.2))]),(iP 3)]))(pD:gV 325 [(.agg [(bP r.1),(gX (gU r.2))]),iP (((p+64):Nat):Int)] (.iw [(.agg [(bP s.1),(gX (gU s.2))]),(.agg [(bP c.1),(gX (gU c.2))])]))(zs:s.2<2^3000)(zc:c.2<2^3000)(il:8<=p)(ic:p<=512):gV 315 [(gY d),(bP true),(iP p)] (gZ (sc s (p+64) p)):=by
 have zk:s.2<2^3000:=zs;exact tr true Tryz.call315 Tryz.func315 (chain [.c (nT _ af:gV 35 [(gY d)] _),tB 14 (by simpa using h0:((Dy.iK d)==0)=false),iq ((p:Int)+64) ae,.c (pC:gV 324 [(gY d),(iP (((p+64):Nat):Int))] _),.c (pD:gV 325 [(.agg [(bP r.1),(gX (gU r.2))]),(iP (((p+64):Nat):Int))] _),iq (3+1) ae,.a (ae:0<(4:Int)),.o 38 (.int ag:PV.le (.e (iP (Int.tmod (3+1) 4))) (.e (iP 0))),tB 40 (ag:((0:Int)==1)=false),tB 43 (ag:((0:Int)==2)=false),tB 47 (ag:((0:Int)==3)=false),.c (zo s _ _ af ae ae ae:gV 327 [(.agg [(bP s.1),(gX (gU s.2))]),(iP (((p+64):Nat):Int)),(iP p)] _)]<|.nil) ah 
theorem aaG(d:Dy)(p:Nat)(hd:d.ib)(h0:d.iK=0)(il:8<=p)(ic:p<=512):gV 315 [(gY d),(bP false),(iP p)] (gZ (me d)):=by
 exact tr true Tryz.call315 Tryz.func315 (chain [.c (nT _ af:gV 35 [(gY d)] _),tB 14 (by rw[h0];rfl:((Dy.iK d)==0)=true),.c (C2 d af)]<|.nil) ah 
theorem aaB(d:Dy)(p:Nat)(r s c:Bool×Nat)(hd:d.ib)(h0:d.iK≠0)(pC:gV 324 [gY d,iP (((p+64):Nat):Int)] (.iw [(.agg [(bP r.1),(gX (gU r.2))]),(iP 0)]))(pD:gV 325 [(.agg [(bP r.1),(gX (gU r.2))]),iP (((p+64):Nat):Int)] (.iw [(.agg [(bP s.1),(gX (gU s.2))]),(.agg [(bP c.1),(gX (gU c.2))])]))(zs:s.2<2^3000)(zc:c.2<2^3000)(il:8<=p)(ic:p<=512):gV 315 [(gY d),(bP false),(iP p)] (gZ (sc s (p+64) p)):=by
 have zk:s.2<2^3000:=zs;exact tr true Tryz.call315 Tryz.func315 (chain [.c (nT _ af:gV 35 [(gY d)] _),tB 14 (by simpa using h0:((Dy.iK d)==0)=false),iq ((p:Int)+64) ae,.c (pC:gV 324 [(gY d),(iP (((p+64):Nat):Int))] _),.c (pD:gV 325 [(.agg [(bP r.1),(gX (gU r.2))]),(iP (((p+64):Nat):Int))] _),.a (ae:0<(4:Int)),.o 38 (.int ag:PV.le (.e (iP (Int.tmod 0 4))) (.e (iP 0))),tB 40 (ag:((0:Int)==1)=false),tB 43 (ag:((0:Int)==2)=false),tB 47 (ag:((0:Int)==3)=false),.c (zo s _ _ af ae ae ae:gV 327 [(.agg [(bP s.1),(gX (gU s.2))]),(iP (((p+64):Nat):Int)),(iP p)] _)]<|.nil) ah 
theorem aaC(d:Dy)(p:Nat)(r s c:Bool×Nat)(hd:d.ib)(h0:d.iK≠0)(pC:gV 324 [gY d,iP (((p+64):Nat):Int)] (.iw [(.agg [(bP r.1),(gX (gU r.2))]),(iP 1)]))(pD:gV 325 [(.agg [(bP r.1),(gX (gU r.2))]),iP (((p+64):Nat):Int)] (.iw [(.agg [(bP s.1),(gX (gU s.2))]),(.agg [(bP c.1),(gX (gU c.2))])]))(zs:s.2<2^3000)(zc:c.2<2^3000)(il:8<=p)(ic:p<=512):gV 315 [(gY d),(bP false),(iP p)] (gZ (sc c (p+64) p)):=by
 have zk:c.2<2^3000:=zc;exact tr true Tryz.call315 Tryz.func315 (chain [.c (nT _ af:gV 35 [(gY d)] _),tB 14 (by simpa using h0:((Dy.iK d)==0)=false),iq ((p:Int)+64) ae,.c (pC:gV 324 [(gY d),(iP (((p+64):Nat):Int))] _),.c (pD:gV 325 [(.agg [(bP r.1),(gX (gU r.2))]),(iP (((p+64):Nat):Int))] _),.a (ae:0<(4:Int)),.o 38 (.int ag:PV.le (.e (iP (Int.tmod 1 4))) (.e (iP 1))),tB 40 (ag:((1:Int)==1)=true),.c (zo c _ _ af ae ae ae:gV 327 [(.agg [(bP c.1),(gX (gU c.2))]),(iP (((p+64):Nat):Int)),(iP p)] _)]<|.nil) ah 
theorem aaD(d:Dy)(p:Nat)(r s c:Bool×Nat)(hd:d.ib)(h0:d.iK≠0)(pC:gV 324 [gY d,iP (((p+64):Nat):Int)] (.iw [(.agg [(bP r.1),(gX (gU r.2))]),(iP 2)]))(pD:gV 325 [(.agg [(bP r.1),(gX (gU r.2))]),iP (((p+64):Nat):Int)] (.iw [(.agg [(bP s.1),(gX (gU s.2))]),(.agg [(bP c.1),(gX (gU c.2))])]))(zs:s.2<2^3000)(zc:c.2<2^3000)(il:8<=p)(ic:p<=512):gV 315 [(gY d),(bP false),(iP p)] (gZ (sc ((!s.1),s.2) (p+64) p)):=by
 have zk:((!s.1),s.2).2<2^3000:=zs;exact tr true Tryz.call315 Tryz.func315 (chain [.c (nT _ af:gV 35 [(gY d)] _),tB 14 (by simpa using h0:((Dy.iK d)==0)=false),iq ((p:Int)+64) ae,.c (pC:gV 324 [(gY d),(iP (((p+64):Nat):Int))] _),.c (pD:gV 325 [(.agg [(bP r.1),(gX (gU r.2))]),(iP (((p+64):Nat):Int))] _),.a (ae:0<(4:Int)),.o 38 (.int ag:PV.le (.e (iP (Int.tmod 2 4))) (.e (iP 2))),tB 40 (ag:((2:Int)==1)=false),tB 43 (ag:((2:Int)==2)=true),.c (vJ (s.1,s.2):gV 326 [(.agg [(bP s.1),(gX (gU s.2))])] _),.c (zo ((!s.1),s.2) _ _ af ae ae ae:gV 327 [(.agg [(bP (!s.1)),(gX (gU s.2))]),(iP (((p+64):Nat):Int)),(iP p)] _)]<|.nil) ah 
theorem aaE(d:Dy)(p:Nat)(r s c:Bool×Nat)(hd:d.ib)(h0:d.iK≠0)(pC:gV 324 [gY d,iP (((p+64):Nat):Int)] (.iw [(.agg [(bP r.1),(gX (gU r.2))]),(iP 3)]))(pD:gV 325 [(.agg [(bP r.1),(gX (gU r.2))]),iP (((p+64):Nat):Int)] (.iw [(.agg [(bP s.1),(gX (gU s.2))]),(.agg [(bP c.1),(gX (gU c.2))])]))(zs:s.2<2^3000)(zc:c.2<2^3000)(il:8<=p)(ic:p<=512):gV 315 [(gY d),(bP false),(iP p)] (gZ (sc ((!c.1),c.2) (p+64) p)):=by
 have zk:((!c.1),c.2).2<2^3000:=zc;exact tr true Tryz.call315 Tryz.func315 (chain [.c (nT _ af:gV 35 [(gY d)] _),tB 14 (by simpa using h0:((Dy.iK d)==0)=false),iq ((p:Int)+64) ae,.c (pC:gV 324 [(gY d),(iP (((p+64):Nat):Int))] _),.c (pD:gV 325 [(.agg [(bP r.1),(gX (gU r.2))]),(iP (((p+64):Nat):Int))] _),.a (ae:0<(4:Int)),.o 38 (.int ag:PV.le (.e (iP (Int.tmod 3 4))) (.e (iP 3))),tB 40 (ag:((3:Int)==1)=false),tB 43 (ag:((3:Int)==2)=false),tB 47 (ag:((3:Int)==3)=true),.c (vJ (c.1,c.2):gV 326 [(.agg [(bP c.1),(gX (gU c.2))])] _),.c (zo ((!c.1),c.2) _ _ af ae ae ae:gV 327 [(.agg [(bP (!c.1)),(gX (gU c.2))]),(iP (((p+64):Nat):Int)),(iP p)] _)]<|.nil) ah 
theorem Qe{d:Dy}(hd:d.ib)(ht:d.iu<=100)(cs:Bool){p:Nat}(il:8<=p)(ic:p<=512):∃ Z,Z.ib/\gV 315 [gY d,bP cs,iP (p:Int)] (gZ Z):=by
 by_cases h0:d.iK=0
 .cases cs with
  |true=>exact⟨_,vc ag,aaF d p hd h0 il ic⟩
  |false=>exact⟨_,vh hd,aaG d p hd h0 il ic⟩
 .obtain ⟨r,k,hr,hk,pC⟩:=aaH d (p+64) hd ae ae ht
  obtain⟨s,c,zs,zc,pD⟩:=aaO r (p+64) hr ae;have zs:=FA zs (k:=3000) ae;have zc:=FA zc (k:=3000) ae;have hv:∀ a:Bool×Nat,(sc a (p+64) p).ib:=fun a=>agV a _ ae ae 
  rcases(show k=0\/k=1\/k=2\/k=3 by omega)with rfl|rfl|rfl|rfl
  .cases cs with
   |true=>exact⟨_,hv _,aax d p r s c hd h0 pC pD zs zc il ic⟩
   |false=>exact⟨_,hv _,aaB d p r s c hd h0 pC pD zs zc il ic⟩
  .cases cs with
   |true=>exact⟨_,hv _,aay d p r s c hd h0 pC pD zs zc il ic⟩
   |false=>exact⟨_,hv _,aaC d p r s c hd h0 pC pD zs zc il ic⟩
  .cases cs with
   |true=>exact⟨_,hv _,aaz d p r s c hd h0 pC pD zs zc il ic⟩
   |false=>exact⟨_,hv _,aaD d p r s c hd h0 pC pD zs zc il ic⟩
  .cases cs with
   |true=>exact⟨_,hv _,aaA d p r s c hd h0 pC pD zs zc il ic⟩
   |false=>exact⟨_,hv _,aaE d p r s c hd h0 pC pD zs zc il ic⟩
open Go.RowKit Fp Pu
theorem afs:(jd (-1)).neg=true/\(jd (-1)).m=1/\(jd (-1)).e=0:= ar 
theorem aaQ : gV 331 [(iP (-1))] (.agg [(bP true),(gX (gU 1))]):=by
 obtain⟨q1,q2,q3⟩:=afs;have z1:(gU (jd (-1)).m).length<=256:=by rw[q2];exact sG ag 
 have z2:(gU ((jd (-1)).m*2^(Int.toNat (jd (-1)).e))).length<=256:=by rw[q2,q3];exact sG ag 
 exact tr true Tryz.call331 Tryz.func331 (chain [.c (qI _ ae:gV 113 [(iP (-1))] _),.c (Kt _ _ af ae ae af:gV 329 [(gX (gU ((jd (-1)).m))),(iP ((jd (-1)).e))] _)]<|rQ (.agg [(bP ((jd (-1)).neg)),(gX (gU (((jd (-1)).m)*2^(Int.toNat ((jd (-1)).e)))))]) (.agg [(bP true),(gX (gU 1))]) (by rw[q1,q2,q3];rfl)) ah 
theorem aao(a c:Bool×Nat)(za:(gU a.2).length<=256)(zc:(gU c.2).length<=256)(c0:c.2≠0)(zs:(gU (a.2/c.2+1)).length<=256)(h1:a.1=false):gV 333 [(.agg [(bP a.1),(gX (gU a.2))]),(.agg [(bP c.1),(gX (gU c.2))])] (.agg [(bP ((pk a c).1)),(gX (gU ((pk a c).2)))]):=by
 have zq:(gU (a.2/c.2)).length<=256:=aX (lW (bw _ _)) za;have zr:(gU (a.2%c.2)).length<=256:=aX (lW (dk _ _)) za;have z1:(gU 1).length<=256:=sG ag;have e:pk a c=(a.1,a.2/c.2):=by unfold pk;rw[aQ (by rw[h1];exact fun q=>Bool.noConfusion q.1)]
 exact tr true Tryz.call333 Tryz.func333 (chain [.c (yI _ _ ae ae af:gV 296 [(gX (gU a.2)),(gX (gU c.2))] _),tB 19 (h1:a.1=false),tB 23 (h1:a.1=false)]<|rQ (.agg [(bP false),(gX (gU (a.2/c.2)))]) (.agg [(bP ((pk a c).1)),(gX (gU ((pk a c).2)))]) (by rw[e,h1])) ah 
theorem aal(a c:Bool×Nat)(za:(gU a.2).length<=256)(zc:(gU c.2).length<=256)(c0:c.2≠0)(zs:(gU (a.2/c.2+1)).length<=256)(h1:a.1=true)(h2:a.2%c.2=0):gV 333 [(.agg [(bP a.1),(gX (gU a.2))]),(.agg [(bP c.1),(gX (gU c.2))])] (.agg [(bP ((pk a c).1)),(gX (gU ((pk a c).2)))]):=by
 have zq:(gU (a.2/c.2)).length<=256:=aX (lW (bw _ _)) za;have zr:(gU (a.2%c.2)).length<=256:=aX (lW (dk _ _)) za;have z1:(gU 1).length<=256:=sG ag;have e:pk a c=(a.1,a.2/c.2):=by unfold pk;rw[aQ (fun q=>q.2 h2)]
 exact tr true Tryz.call333 Tryz.func333 (chain [.c (yI _ _ ae ae af:gV 296 [(gX (gU a.2)),(gX (gU c.2))] _),tB 19 (h1:a.1=true),tB 23 (h1:a.1=true),.c (r9 _ ae:gV 194 [(gX (gU (a.2%c.2)))] _),tF 27 (0<(ia (a.2%c.2):Int)) (by rw[h2,qR];decide)]<|rQ (.agg [(bP true),(gX (gU (a.2/c.2)))]) (.agg [(bP ((pk a c).1)),(gX (gU ((pk a c).2)))]) (by rw[e,h1])) ah 
theorem aam(a c:Bool×Nat)(za:(gU a.2).length<=256)(zc:(gU c.2).length<=256)(c0:c.2≠0)(zs:(gU (a.2/c.2+1)).length<=256)(h1:a.1=true)(h2:a.2%c.2≠0):gV 333 [(.agg [(bP a.1),(gX (gU a.2))]),(.agg [(bP c.1),(gX (gU c.2))])] (.agg [(bP ((pk a c).1)),(gX (gU ((pk a c).2)))]):=by
 have zq:(gU (a.2/c.2)).length<=256:=aX (lW (bw _ _)) za;have zr:(gU (a.2%c.2)).length<=256:=aX (lW (dk _ _)) za;have z1:(gU 1).length<=256:=sG ag;have e:pk a c=jM (a.1,a.2/c.2) (true,1):=by unfold pk;rw[aR ⟨h1,h2⟩]
 exact tr true Tryz.call333 Tryz.func333 (chain [.c (yI _ _ ae ae af:gV 296 [(gX (gU a.2)),(gX (gU c.2))] _),tB 19 (h1:a.1=true),tB 23 (h1:a.1=true),.c (r9 _ ae:gV 194 [(gX (gU (a.2%c.2)))] _),tT 27 (0<(ia (a.2%c.2):Int)) (by have:=mR h2;omega),.c aaQ,.c (sA (true,(a.2/c.2)) af (true,1) af af:gV 335 [(.agg [(bP true),(gX (gU (a.2/c.2)))]),(.agg [(bP true),(gX (gU 1))])] _)]<|rQ (.agg [(bP ((jM (true,(a.2/c.2)) (true,1)).1)),(gX (gU ((jM (true,(a.2/c.2)) (true,1)).2)))]) (.agg [(bP ((pk a c).1)),(gX (gU ((pk a c).2)))]) (by rw[e,h1])) ah 
theorem aan(a c:Bool×Nat)(za:(gU a.2).length<=256)(zc:(gU c.2).length<=256)(c0:c.2≠0)(zs:(gU (a.2/c.2+1)).length<=256):gV 333 [(.agg [(bP a.1),(gX (gU a.2))]),(.agg [(bP c.1),(gX (gU c.2))])] (.agg [(bP ((pk a c).1)),(gX (gU ((pk a c).2)))]):=by
 cases h1:a.1 with
 |false=>rw[<-h1];exact aao a c za zc c0 zs h1
 |true=>
  rw[<-h1];by_cases h2:a.2%c.2=0
  .exact aal a c za zc c0 zs h1 h2
  .exact aam a c za zc c0 zs h1 h2
theorem aat(x:Iv)(n p t w2 sg eg mm:Nat)(cp u v c1 a0 a1 k l0 d0 d1:Bool×Nat)(hx:x.ib)(xa:x.all=false)(hn:n<=3)(ic:p<=2000)(ht:(t:Int)=max (max x.lo.iu x.hi.iu) 0)(t2:t<=2000)(zd:(gU d1.2).length<=256)(qU:gV 328 [iP ((((p+t)+40):Nat):Int)] (.agg [(bP cp.1),(gX (gU cp.2))]))(hU:gV 334 [gY x.hi,iP ((((p+t)+40):Nat):Int)] (.agg [(bP u.1),(gX (gU u.2))]))(hV:gV 334 [gY x.lo,iP ((((p+t)+40):Nat):Int)] (.agg [(bP v.1),(gX (gU v.2))]))(hW:gV 329 [(gX (gU cp.2)),iP ((1:Nat):Int)] (gX (gU w2)))(Cz:gV 332 [(.agg [(bP false),(gX (gU n))]),(.agg [(bP cp.1),(gX (gU cp.2))]),iP ((0:Nat):Int)] (.agg [(bP c1.1),(gX (gU c1.2))]))(hS:gV 330 [(gX (gU c1.2)),iP ((1:Nat):Int)] (gX (gU sg)))(hE:gV 329 [(gX (gU 1)),iP ((((t+24)+4):Nat):Int)] (gX (gU eg)))(tD:gV 335 [(.agg [(bP u.1),(gX (gU u.2))]),(.agg [(bP (!false)),(gX (gU sg))])] (.agg [(bP a0.1),(gX (gU a0.2))]))(zF:gV 335 [(.agg [(bP a0.1),(gX (gU a0.2))]),(.agg [(bP false),(gX (gU eg))])] (.agg [(bP a1.1),(gX (gU a1.2))]))(hK:gV 333 [(.agg [(bP a1.1),(gX (gU a1.2))]),(.agg [(bP false),(gX (gU w2))])] (.agg [(bP k.1),(gX (gU k.2))]))(hM:gV 181 [(gX (gU k.2)),(gX (gU w2))] (.iw [(gX (gU mm)),(iP 0)]))(uP:gV 335 [(.agg [(bP k.1),(gX (gU mm))]),(.agg [(bP false),(gX (gU sg))])] (.agg [(bP l0.1),(gX (gU l0.2))]))(wS:gV 335 [(.agg [(bP l0.1),(gX (gU l0.2))]),(.agg [(bP (!v.1)),(gX (gU v.2))])] (.agg [(bP d0.1),(gX (gU d0.2))]))(CA:gV 335 [(.agg [(bP d0.1),(gX (gU d0.2))]),(.agg [(bP false),(gX (gU eg))])] (.agg [(bP d1.1),(gX (gU d1.2))]))(hz:d1.2=0):gV 316 [(gZ x),(iP n),(iP p)] (bP true):=by
 obtain⟨w1,w2'⟩:=hx.jZ;have z1:(gU 1).length<=256:=sG ag;exact tr true Tryz.call316 Tryz.func316 (chain [.c (oC _ af:gV 130 [(gY x.lo)] _),.c (oC _ af:gV 130 [(gY x.hi)] _),.o 24 (.int (by(repeat' split)<;>omega):PV.le (.e (iP (if 0>(if(Dy.iu x.hi)>(Dy.iu x.lo)then(Dy.iu x.hi)else(Dy.iu x.lo))then 0 else(if(Dy.iu x.hi)>(Dy.iu x.lo)then(Dy.iu x.hi)else(Dy.iu x.lo))))) (.e (iP t))),
  iq ((p:Int)+(t:Int)) ae,iq ((((p+t):Nat):Int)+40) ae,.c (qU:gV 328 [(iP ((((p+t)+40):Nat):Int))] _),.c (hW:gV 329 [(gX (gU cp.2)),(iP 1)] _),.c (Kw n ae),.c (Cz:gV 332 [(.agg [(bP false),(gX (gU n))]),(.agg [(bP cp.1),(gX (gU cp.2))]),(iP 0)] _),.c (hS:gV 330 [(gX (gU c1.2)),(iP 1)] _),.o 42 (.e rN:PV.le (.e (.sl false 1 1 fun i_ j_=>[(.v (.int .u32 1))].getD (i_*1+j_) (.v (.bool false)))) (.e (gX (gU 1)))),iq ((t:Int)+24) ae,iq ((((t+24):Nat):Int)+4) ae,.c (hE:gV 329 [(gX (gU 1)),(iP ((((t+24)+4):Nat):Int))] _),.c (hU:gV 334 [(gY x.hi),(iP ((((p+t)+40):Nat):Int))] _),.c (vJ (false,sg):gV 326 [(.agg [(bP false),(gX (gU sg))])] _),.c (tD:gV 335 [(.agg [(bP u.1),(gX (gU u.2))]),(.agg [(bP (!false)),(gX (gU sg))])] _),.c (zF:gV 335 [(.agg [(bP a0.1),(gX (gU a0.2))]),(.agg [(bP false),(gX (gU eg))])] _),.c (hK:gV 333 [(.agg [(bP a1.1),(gX (gU a1.2))]),(.agg [(bP false),(gX (gU w2))])] _),.c (hM:gV 181 [(gX (gU k.2)),(gX (gU w2))] _),.c (uP:gV 335 [(.agg [(bP k.1),(gX (gU mm))]),(.agg [(bP false),(gX (gU sg))])] _),.c (hV:gV 334 [(gY x.lo),(iP ((((p+t)+40):Nat):Int))] _),.c (vJ (v.1,v.2):gV 326 [(.agg [(bP v.1),(gX (gU v.2))])] _),.c (wS:gV 335 [(.agg [(bP l0.1),(gX (gU l0.2))]),(.agg [(bP (!v.1)),(gX (gU v.2))])] _),.c (CA:gV 335 [(.agg [(bP d0.1),(gX (gU d0.2))]),(.agg [(bP false),(gX (gU eg))])] _),.c (Cw (d1.1,d1.2) af:gV 336 [(.agg [(bP d1.1),(gX (gU d1.2))])] _),tB 83 (aS hz)]<|.nil) ah 
theorem aas(x:Iv)(n p t w2 sg eg mm:Nat)(cp u v c1 a0 a1 k l0 d0 d1:Bool×Nat)(hx:x.ib)(xa:x.all=false)(hn:n<=3)(ic:p<=2000)(ht:(t:Int)=max (max x.lo.iu x.hi.iu) 0)(t2:t<=2000)(zd:(gU d1.2).length<=256)(qU:gV 328 [iP ((((p+t)+40):Nat):Int)] (.agg [(bP cp.1),(gX (gU cp.2))]))(hU:gV 334 [gY x.hi,iP ((((p+t)+40):Nat):Int)] (.agg [(bP u.1),(gX (gU u.2))]))(hV:gV 334 [gY x.lo,iP ((((p+t)+40):Nat):Int)] (.agg [(bP v.1),(gX (gU v.2))]))(hW:gV 329 [(gX (gU cp.2)),iP ((1:Nat):Int)] (gX (gU w2)))(Cz:gV 332 [(.agg [(bP false),(gX (gU n))]),(.agg [(bP cp.1),(gX (gU cp.2))]),iP ((0:Nat):Int)] (.agg [(bP c1.1),(gX (gU c1.2))]))(hS:gV 330 [(gX (gU c1.2)),iP ((1:Nat):Int)] (gX (gU sg)))(hE:gV 329 [(gX (gU 1)),iP ((((t+24)+4):Nat):Int)] (gX (gU eg)))(tD:gV 335 [(.agg [(bP u.1),(gX (gU u.2))]),(.agg [(bP (!false)),(gX (gU sg))])] (.agg [(bP a0.1),(gX (gU a0.2))]))(zF:gV 335 [(.agg [(bP a0.1),(gX (gU a0.2))]),(.agg [(bP false),(gX (gU eg))])] (.agg [(bP a1.1),(gX (gU a1.2))]))(hK:gV 333 [(.agg [(bP a1.1),(gX (gU a1.2))]),(.agg [(bP false),(gX (gU w2))])] (.agg [(bP k.1),(gX (gU k.2))]))(hM:gV 181 [(gX (gU k.2)),(gX (gU w2))] (.iw [(gX (gU mm)),(iP 0)]))(uP:gV 335 [(.agg [(bP k.1),(gX (gU mm))]),(.agg [(bP false),(gX (gU sg))])] (.agg [(bP l0.1),(gX (gU l0.2))]))(wS:gV 335 [(.agg [(bP l0.1),(gX (gU l0.2))]),(.agg [(bP (!v.1)),(gX (gU v.2))])] (.agg [(bP d0.1),(gX (gU d0.2))]))(CA:gV 335 [(.agg [(bP d0.1),(gX (gU d0.2))]),(.agg [(bP false),(gX (gU eg))])] (.agg [(bP d1.1),(gX (gU d1.2))]))(hz:¬d1.2=0):gV 316 [(gZ x),(iP n),(iP p)] (bP (!d1.1)):=by
 obtain⟨w1,w2'⟩:=hx.jZ;have z1:(gU 1).length<=256:=sG ag;exact tr true Tryz.call316 Tryz.func316 (chain [.c (oC _ af:gV 130 [(gY x.lo)] _),.c (oC _ af:gV 130 [(gY x.hi)] _),.o 24 (.int (by(repeat' split)<;>omega):PV.le (.e (iP (if 0>(if(Dy.iu x.hi)>(Dy.iu x.lo)then(Dy.iu x.hi)else(Dy.iu x.lo))then 0 else(if(Dy.iu x.hi)>(Dy.iu x.lo)then(Dy.iu x.hi)else(Dy.iu x.lo))))) (.e (iP t))),
  iq ((p:Int)+(t:Int)) ae,iq ((((p+t):Nat):Int)+40) ae,.c (qU:gV 328 [(iP ((((p+t)+40):Nat):Int))] _),.c (hW:gV 329 [(gX (gU cp.2)),(iP 1)] _),.c (Kw n ae),.c (Cz:gV 332 [(.agg [(bP false),(gX (gU n))]),(.agg [(bP cp.1),(gX (gU cp.2))]),(iP 0)] _),.c (hS:gV 330 [(gX (gU c1.2)),(iP 1)] _),.o 42 (.e rN:PV.le (.e (.sl false 1 1 fun i_ j_=>[(.v (.int .u32 1))].getD (i_*1+j_) (.v (.bool false)))) (.e (gX (gU 1)))),iq ((t:Int)+24) ae,iq ((((t+24):Nat):Int)+4) ae,.c (hE:gV 329 [(gX (gU 1)),(iP ((((t+24)+4):Nat):Int))] _),.c (hU:gV 334 [(gY x.hi),(iP ((((p+t)+40):Nat):Int))] _),.c (vJ (false,sg):gV 326 [(.agg [(bP false),(gX (gU sg))])] _),.c (tD:gV 335 [(.agg [(bP u.1),(gX (gU u.2))]),(.agg [(bP (!false)),(gX (gU sg))])] _),.c (zF:gV 335 [(.agg [(bP a0.1),(gX (gU a0.2))]),(.agg [(bP false),(gX (gU eg))])] _),.c (hK:gV 333 [(.agg [(bP a1.1),(gX (gU a1.2))]),(.agg [(bP false),(gX (gU w2))])] _),.c (hM:gV 181 [(gX (gU k.2)),(gX (gU w2))] _),.c (uP:gV 335 [(.agg [(bP k.1),(gX (gU mm))]),(.agg [(bP false),(gX (gU sg))])] _),.c (hV:gV 334 [(gY x.lo),(iP ((((p+t)+40):Nat):Int))] _),.c (vJ (v.1,v.2):gV 326 [(.agg [(bP v.1),(gX (gU v.2))])] _),.c (wS:gV 335 [(.agg [(bP l0.1),(gX (gU l0.2))]),(.agg [(bP (!v.1)),(gX (gU v.2))])] _),.c (CA:gV 335 [(.agg [(bP d0.1),(gX (gU d0.2))]),(.agg [(bP false),(gX (gU eg))])] _),.c (Cw (d1.1,d1.2) af:gV 336 [(.agg [(bP d1.1),(gX (gU d1.2))])] _),tB 83 (aT hz)]<|.nil) ah 
theorem Eb{a b:Bool×Nat}{i j n:Nat}(ha:a.2<2^i)(hb:b.2<2^j)(hi:i<=n)(hj:j<=n)(hn:n<=8000):∃ r:Bool×Nat,r.2<2^(n+1)/\gV 335 [(.agg [(bP a.1),(gX (gU a.2))]),(.agg [(bP b.1),(gX (gU b.2))])] (.agg [(bP r.1),(gX (gU r.2))]):=
 ⟨jM a b,acZ ha hb hi hj,sA a (lE ha ae) b (lE hb ae) (lE (Je ha hb hi hj) ae)⟩
theorem aar{x:Iv}(hx:x.ib)(xa:x.all=false)(n:Nat)(hn:n<=3)(p:Nat)(ic:p<=1000)(h1:x.lo.iu<=100)(h2:x.hi.iu<=100):∃ r:Bool,gV 316 [gZ x,iP (n:Int),iP (p:Int)] (bP r):=by
 obtain⟨w1,w2⟩:=hx.jZ;obtain⟨t,ht⟩:∃ t:Nat,(t:Int)=max (max x.lo.iu x.hi.iu) 0:=⟨(max (max x.lo.iu x.hi.iu) 0).toNat,ae⟩
 obtain⟨cp,c1,c2,c3,qU⟩:=Qd (p+t+40) ae ae;have hU:=Ku x.hi w2 (p+t+40) 6000 ae ag ae;have hV:=Ku x.lo w1 (p+t+40) 6000 ae ag ae;have yu:=I7 (d:=x.hi) (b:=p+t+40) (K:=6000) ae;have yv:=I7 (d:=x.lo) (b:=p+t+40) (K:=6000) ae;have yc:=FA (m:=cp.2) (i:=p+t+40+3) (k:=2000) (by have e:(2:Nat)^(p+t+40+3)=2^(p+t+40)*8:=aV 2 _ 3;have:0<2^(p+t+40):=aY ag;omega) ae;generalize qO x.hi (p+t+40)=u at hU yu;generalize qO x.lo (p+t+40)=v at hV yv;obtain⟨K,hK⟩:∃ K,K=6000:=⟨_,rfl⟩
 rw[<-hK]at yu yv;obtain⟨J,hJ⟩:∃ J,J=2000:=⟨_,rfl⟩
 rw[<-hJ]at yc;have zc:(gU cp.2).length<=256:=lE yc ae;have yw:cp.2*2^1<2^(J+1):=by have e:2^(J+1)=2^J*2:=aZ _ _;omega
 have hW:=zj cp.2 1 zc ag (lE yw ae);have w0:cp.2*2^1≠0:= ae ;generalize cp.2*2^1=w at hW yw w0;have yn:n*cp.2<2^(J+2):=by have e:2^(J+2)=2^J*4:=aV 2 J 2;have:=bC cp.2 hn;omega
 have Cz:=Ld (false,n) (sG (by show n<_;omega)) cp zc 0 ag (lE yn ae);have y1:n*cp.2/2^0<2^(J+2):=bQ (bw _ _) yn;obtain⟨q,hq⟩:∃ q:Bool×Nat,q=(false != cp.1,n*cp.2/2^0):=⟨_,rfl⟩
 have yq:q.2<2^(J+2):=by rw[hq];exact y1
 have R7:gV 332 [(.agg [(bP false),(gX (gU n))]),(.agg [(bP cp.1),(gX (gU cp.2))]),iP ((0:Nat):Int)] (.agg [(bP q.1),(gX (gU q.2))]):=by rw[hq];exact Cz
 clear Cz hq;have hS:=vE q.2 1 (lE yq ae) ag;have ys:q.2/2^1<2^(J+2):=bQ (bw _ _) yq;generalize q.2/2^1=sg at hS ys;have ye:1*2^(t+24+4)<2^K:=by rw[bJ];exact et ag ae 
 have hE:=zj 1 (t+24+4) (sG ag) ae (lE ye ae);generalize 1*2^(t+24+4)=eg at hE ye;obtain⟨a0,x0,tD⟩:=Eb (b:=(!false,sg)) yu ys (n:=K) ae ae ae;obtain⟨a1,x1,zF⟩:=Eb (b:=(false,eg)) x0 ye (n:=K+1) ae ae ae;have yf:a1.2/w+1<2^(K+3):=by
  have e:2^(K+3)=2^(K+1+1)*2:=aZ _ _;have:=bw a1.2 w;have:0<2^(K+1+1):=aY ag;omega
 have hF:=aan a1 (false,w) (lE x1 ae) (lE yw ae) w0 (lE yf ae);have yk:=bQ (RL a1 (false,w)) yf;have ym:(pk a1 (false,w)).2*w<2^(K+3):=bQ (ac7 a1 (false,w)) (Je (n:=K+2) x1 yw ae ae);generalize pk a1 (false,w)=k at hF yk ym;have hM:=yJ k.2 w (lE yk ae) (lE yw ae) (lE ym ae);generalize k.2*w=mm at hM ym;obtain⟨l0,x2,uP⟩:=Eb (a:=(k.1,mm)) (b:=(false,sg)) ym ys (n:=K+3) ae ae ae;obtain⟨d0,x3,wS⟩:=Eb (b:=(!v.1,v.2)) x2 yv (n:=K+4) ae ae ae;obtain⟨d1,x4,CA⟩:=Eb (b:=(false,eg)) x3 ye (n:=K+5) ae ae ae;by_cases hz:d1.2=0
 .exact ⟨_,aat x n p t w sg eg mm cp u v q a0 a1 k l0 d0 d1 hx xa hn ae ht ae (lE x4 ae) qU hU hV hW R7 hS hE tD zF hF hM uP wS CA hz⟩
 .exact ⟨_,aas x n p t w sg eg mm cp u v q a0 a1 k l0 d0 d1 hx xa hn ae ht ae (lE x4 ae) qU hU hV hW R7 hS hE tD zF hF hM uP wS CA hz⟩
open Go.RowKit Fp Pu
def lp:Iv:=⟨jd (-1),jd 1,false⟩
theorem yY:lp.ib:=.inr ⟨rfl,show(jd (-1)).ib from rZ ag,show(jd 1).ib from rZ ag,ar⟩
theorem xM : gV 313 [] (gZ lp):=by
 have h1:(jd (-1)).ib:=rZ ag;have h2:(jd 1).ib:=rZ ag;exact tr true Tryz.call313 Tryz.func313 (chain [.c (qI _ ae:gV 113 [(iP (-1))] _),.c (qI _ ae:gV 113 [(iP 1)] _)]<|rR (gZ lp) (.iS rfl:E.le (gZ (Iv.mk (jd (-1)) (jd 1) false)) (gZ lp))) ah 
theorem Zi(x y:Iv)(hx:x.ib)(hy:y.ib)(xa:(x.all||y.all)=true):gV 158 [(gZ x),(gZ y)] (gZ ie):=by
 exact tr true Tryz.call158 Tryz.func158 (chain [.o 7 (.e (yA _ _):PV.le (.e (.sl true 2 7 fun i_ j_=>(iY x++iY y).getD (i_*7+j_) (.v (.bool false)))) (.e (ik [x,y]))),.c (yz _ _ af af:gV 86 [(ik [x,y])] _),tB 8 (by rw[xa];rfl:(!(x.all||y.all))=false),.c nv]<|.nil) ah 
theorem Zj{x y:Iv}(hx:x.ib)(hy:y.ib):∃ Z,Z.ib/\gV 158 [gZ x,gZ y] (gZ Z):=by
 cases h:(x.all||y.all)with
 |true=>exact⟨ie,mh,Zi x y hx hy h⟩
 |false=>
  obtain⟨h1,h2⟩:=Bool.or_eq_false_iff.1 h;exact⟨CW x y,aeK hx hy,Zk x y hx hy h1 h2⟩
theorem Zs(x:Iv)(hx:x.ib)(xa:x.all=true):gV 314 [(gZ x),(gZ lp)] (.iw [gZ lp,bP true]):=by
 have hu:=yY;exact tr true Tryz.call314 Tryz.func314 (chain [.c (qM x af),.c (qM lp af),tB 19 (xa:x.all=true)]<|.nil) ah 
theorem Zu(x:Iv)(hx:x.ib)(xa:x.all=false)(h:0<jm (iO x.lo lp.lo) (iU x.hi lp.hi)):gV 314 [(gZ x),(gZ lp)] (.iw [gZ xB,bP false]):=by
 have hu:=yY;obtain⟨v1,v2⟩:=hx.jZ;obtain⟨v3,v4⟩:=hu.jZ;have m1:=oX v1 v3;have m2:=pX v2 v4;exact tr true Tryz.call314 Tryz.func314 (chain [.c (qM x af),.c (qM lp af),tB 19 (xa:x.all=false),tB 23 (rfl:lp.all=false),.c (IM x.lo lp.lo af af),.c (IL x.hi lp.hi af af),.c (nS _ _ af af:gV 37 [(gY (iO x.lo lp.lo)),(gY (iU x.hi lp.hi))] _),tB 41 (aS h)]<|rR (.iw [gZ xB,bP false]) (.iw (.cons Yu (.cons (.refl _) .nil)):E.le (.iw [(.agg [(bP false),(.v (.slice none 0 0)),(iP 0),(bP false),(.v (.slice none 0 0)),(iP 0),(bP false)]),(bP false)]) (.iw [gZ xB,bP false]))) ah 
theorem Zv(x:Iv)(hx:x.ib)(xa:x.all=false)(h:¬0<jm (iO x.lo lp.lo) (iU x.hi lp.hi)):gV 314 [(gZ x),(gZ lp)] (.iw [gZ (Iv.mk (iO x.lo lp.lo) (iU x.hi lp.hi) false),bP true]):=by
 have hu:=yY;obtain⟨v1,v2⟩:=hx.jZ;obtain⟨v3,v4⟩:=hu.jZ;have m1:=oX v1 v3;have m2:=pX v2 v4;exact tr true Tryz.call314 Tryz.func314 (chain [.c (qM x af),.c (qM lp af),tB 19 (xa:x.all=false),tB 23 (rfl:lp.all=false),.c (IM x.lo lp.lo af af),.c (IL x.hi lp.hi af af),.c (nS _ _ af af:gV 37 [(gY (iO x.lo lp.lo)),(gY (iU x.hi lp.hi))] _),tB 41 (aT h)]<|.nil) ah 
structure xC(Y:Iv):Prop where
 v:Y.ib
 f:Y.all=false
 l:jm lp.lo Y.lo<=0
 h:jm Y.hi lp.hi<=0
theorem alD:xC lp:=⟨yY,rfl,ar,ar⟩
theorem Zt{x:Iv}(hx:x.ib):(∃ Y,xC Y/\gV 314 [gZ x,gZ lp] (.iw [gZ Y,bP true]))\/gV 314 [gZ x,gZ lp] (.iw [gZ xB,bP false]):=by
 cases xa:x.all with
 |true=>exact .inl ⟨lp,alD,Zs x hx xa⟩
 |false=>
  by_cases h:0<jm (iO x.lo lp.lo) (iU x.hi lp.hi)
  .exact .inr (Zu x hx xa h)
  .have v1:(iO x.lo lp.lo).ib:=oX hx.jZ.1 yY.jZ.1
   have v2:(iU x.hi lp.hi).ib:=pX hx.jZ.2 yY.jZ.2;have h1:jm lp.lo (iO x.lo lp.lo)<=0:=UF _ _;have h2:jm (iU x.hi lp.hi) lp.hi<=0:=UI _ _;have hq:=Zv x hx xa h;have h3:jm (iO x.lo lp.lo) (iU x.hi lp.hi)<=0:= ae ;generalize iO x.lo lp.lo=a at *
   generalize iU x.hi lp.hi=b at *
   exact .inl ⟨⟨a,b,false⟩,⟨.inr ⟨rfl,v1,v2,h3⟩,rfl,h1,h2⟩,hq⟩
theorem xC.up{Y:Iv}(h:xC Y):xC ⟨Y.lo,jd 1,false⟩:=by
 have e:=h.v.jZ;refine⟨.inr ⟨rfl,e.1,rZ (n:=1) ag,?_⟩,rfl,h.l,show jm (jd 1) (jd 1)<=0 by decide +kernel⟩;have:=h.v.q;rw[o0];exact bH this ((o0 _ _).1 h.h)
theorem xC.dn{Y:Iv}(h:xC Y):xC ⟨jd (-1),Y.hi,false⟩:=by
 have e:=h.v.jZ;refine⟨.inr ⟨rfl,rZ (n:=-1) ag,e.2,?_⟩,rfl,show jm (jd (-1)) (jd (-1))<=0 by decide +kernel,h.h⟩;have:=h.v.q;rw[o0];exact bH ((o0 _ _).1 h.l) this
theorem GN(p:Nat)(il:8<=p)(ic:p<=512):gV 312 [(iP p)] (bP true):=by
 exact tr true Tryz.call312 Tryz.func312 (chain [tT 4 (8<=(p:Int)) ae,tT 7 ((p:Int)<=512) ae]<|.nil) ah 
theorem aag(x:Iv)(cs:Bool)(p:Nat)(hx:x.ib)(xa:x.all=true)(il:8<=p)(ic:p<=512):gV 284 [(gZ x),(bP cs),(iP p)] (gZ ie):=by
 exact tr true Tryz.call284 Tryz.func284 (chain [.c (GN p ae ae),.c (qM x af),tB 22 (xa:x.all=true),.c nv]<|.nil) ah 
theorem aaj(x:Iv)(cs:Bool)(p:Nat)(hx:x.ib)(xa:x.all=false)(il:8<=p)(ic:p<=512)(hu:100<x.lo.iu\/100<x.hi.iu\/¬AL x 64=0\/0<=jm (tp x 64) (jd 7)):gV 284 [(gZ x),(bP cs),(iP p)] (gZ lp):=by
 obtain⟨w1,w2⟩:=hx.jZ;have h7:(jd 7).ib:=rZ ag;have wv:(tp x 64).ib:=wA _ ag ag _;exact tr true Tryz.call284 Tryz.func284 (chain [.c (GN p ae ae),.c (qM x af),tB 22 (xa:x.all=false),.c (oC _ af:gV 130 [(gY x.lo)] _)]<|.w (100<(Dy.iu x.lo))
  (fun k1=>chain [tB 28 (aS k1),.c xM]<|.nil)
  (fun k1=>chain [tB 28 (aT k1),.c (oC _ af:gV 130 [(gY x.hi)] _)]<|.w (100<(Dy.iu x.hi))
   (fun k2=>chain [tB 33 (aS k2),.c xM]<|.nil)
   (fun k2=>chain [tB 33 (aT k2),.c (Kj x 64 af af ae ae)]<|.w (AL x 64=0)
    (fun k3=>chain [tB 40 (aS k3),.c (qI _ ae:gV 113 [(iP 7)] _),.c (nS _ _ af af:gV 37 [(gY (tp x 64)),(gY (jd 7))] _)]<|.w (0<=(jm (tp x 64) (jd 7)))
     (fun k4=>chain [tB 47 (aS k4),.c xM]<|.nil)
     (fun k4=>.x (by rcases hu with q|q|q|q<;>contradiction)))
    (fun k3=>chain [tB 40 (aT k3),.c xM]<|.nil)))) ah 
theorem aai(x:Iv)(cs:Bool)(p:Nat)(hx:x.ib)(xa:x.all=false)(il:8<=p)(ic:p<=512)(h1:¬100<x.lo.iu)(h2:¬100<x.hi.iu)(h3:AL x 64=0)(h4:¬0<=jm (tp x 64) (jd 7))(P1 P2 H:Iv)(wT:∀ c,c=cs->gV 315 [gY x.lo,bP c,iP (p:Int)] (gZ P1))(wU:∀ c,c=cs->gV 315 [gY x.hi,bP c,iP (p:Int)] (gZ P2))(hH:gV 158 [gZ P1,gZ P2] (gZ H))(uQ:gV 314 [gZ H,gZ lp] (.iw [gZ xB,bP false])):gV 284 [(gZ x),(bP cs),(iP p)] (gZ lp):=by
 obtain⟨w1,w2⟩:=hx.jZ;have h7:(jd 7).ib:=rZ ag;have wv:(tp x 64).ib:=wA _ ag ag _;exact tr true Tryz.call284 Tryz.func284 (chain [.c (GN p ae ae),.c (qM x af),tB 22 (xa:x.all=false),.c (oC _ af:gV 130 [(gY x.lo)] _),tB 28 (aT h1),.c (oC _ af:gV 130 [(gY x.hi)] _),tB 33 (aT h2),.c (Kj x 64 af af ae ae),tB 40 (aS h3),.c (qI _ ae:gV 113 [(iP 7)] _),.c (nS _ _ af af:gV 37 [(gY (tp x 64)),(gY (jd 7))] _),tB 47 (aT h4),.c (wT cs aj:gV 315 [(gY x.lo),(bP cs),(iP p)] _),.c (wU cs aj:gV 315 [(gY x.hi),(bP cs),(iP p)] _),.c (hH:gV 158 [(gZ P1),(gZ P2)] _),.c xM,.c (uQ:gV 314 [(gZ H),(gZ lp)] _),.c xM]<|.nil) ah 
def qv(cs:Bool)(R:Nat->Bool)(x Y:Iv):Iv:=if jm x.lo x.hi=0 then Y else⟨if R (if cs=true then 2 else 3)=true then jd (-1)else Y.lo,if R (if cs=true then 0 else 1)=true then jd 1 else Y.hi,Y.all⟩
theorem aah(x:Iv)(cs:Bool)(p:Nat)(hx:x.ib)(xa:x.all=false)(il:8<=p)(ic:p<=512)(h1:¬100<x.lo.iu)(h2:¬100<x.hi.iu)(h3:AL x 64=0)(h4:¬0<=jm (tp x 64) (jd 7))(P1 P2 H Y:Iv)(hY:xC Y)(wT:∀ c,c=cs->gV 315 [gY x.lo,bP c,iP (p:Int)] (gZ P1))(wU:∀ c,c=cs->gV 315 [gY x.hi,bP c,iP (p:Int)] (gZ P2))(hH:gV 158 [gZ P1,gZ P2] (gZ H))(uQ:gV 314 [gZ H,gZ lp] (.iw [gZ Y,bP true]))(R:Nat->Bool)(hM:∀ s:Nat,s<=3->gV 316 [gZ x,iP (s:Int),iP ((p+64:Nat):Int)] (bP (R s))):gV 284 [(gZ x),(bP cs),(iP p)] (gZ (qv cs R x Y)):=by
 obtain⟨w1,w2⟩:=hx.jZ;have h7:(jd 7).ib:=rZ ag;have wv:(tp x 64).ib:=wA _ ag ag _;exact tr true Tryz.call284 Tryz.func284 (chain [.c (GN p ae ae),.c (qM x af),tB 22 (xa:x.all=false),.c (oC _ af:gV 130 [(gY x.lo)] _),tB 28 (aT h1),.c (oC _ af:gV 130 [(gY x.hi)] _),tB 33 (aT h2),.c (Kj x 64 af af ae ae),tB 40 (aS h3),.c (qI _ ae:gV 113 [(iP 7)] _),.c (nS _ _ af af:gV 37 [(gY (tp x 64)),(gY (jd 7))] _),tB 47 (aT h4)]<|.w ((jm x.lo x.hi)=0)
  (fun k1=>chain [.c (wT cs aj:gV 315 [(gY x.lo),(bP cs),(iP p)] _),.c (wU cs aj:gV 315 [(gY x.hi),(bP cs),(iP p)] _),.c (hH:gV 158 [(gZ P1),(gZ P2)] _),.c xM,.c (uQ:gV 314 [(gZ H),(gZ lp)] _),.c (nS _ _ af af:gV 37 [(gY x.lo),(gY x.hi)] _),tB 74 (aK k1)]<|rQ (gZ Y) (gZ (qv cs R x Y)) (by unfold qv;simp[k1]))
  (fun k1=>.w (cs=true)
   (fun k2=>chain [tB 53 (k2),.c (wT true (by simp[k2]):gV 315 [(gY x.lo),(bP true),(iP p)] _),tB 58 (k2),.c (wU true (by simp[k2]):gV 315 [(gY x.hi),(bP true),(iP p)] _),.c (hH:gV 158 [(gZ P1),(gZ P2)] _),.c xM,.c (uQ:gV 314 [(gZ H),(gZ lp)] _),.c (nS _ _ af af:gV 37 [(gY x.lo),(gY x.hi)] _),tB 74 (aJ k1),tB 76 (k2),
    iq ((p:Int)+64) ae,.c (hM 0 ag:gV 316 [(gZ x),(iP 0),(iP (((p+64):Nat):Int))] _)]<|.w (R 0=true)
    (fun k3=>chain [tB 81 (k3),.c (qI _ ae:gV 113 [(iP 1)] _),iq ((p:Int)+64) ae,.c (hM 2 ag:gV 316 [(gZ x),(iP 2),(iP (((p+64):Nat):Int))] _)]<|.w (R 2=true)
     (fun k4=>chain [tB 88 (k4),.c (qI _ ae:gV 113 [(iP (-1))] _)]<|rQ (gZ (Iv.mk (jd (-1)) (jd 1) Y.all)) (gZ (qv cs R x Y)) (by unfold qv;simp[k1,k2,k3,k4]))
     (fun k4=>chain [tB 88 (aM k4)]<|rQ (gZ (Iv.mk Y.lo (jd 1) Y.all)) (gZ (qv cs R x Y)) (by unfold qv;simp[k1,k2,k3,k4])))
    (fun k3=>chain [tB 81 (aM k3),iq ((p:Int)+64) ae,.c (hM 2 ag:gV 316 [(gZ x),(iP 2),(iP (((p+64):Nat):Int))] _)]<|.w (R 2=true)
     (fun k4=>chain [tB 88 (k4),.c (qI _ ae:gV 113 [(iP (-1))] _)]<|rQ (gZ (Iv.mk (jd (-1)) Y.hi Y.all)) (gZ (qv cs R x Y)) (by unfold qv;simp[k1,k2,k3,k4]))
     (fun k4=>chain [tB 88 (aM k4)]<|rQ (gZ Y) (gZ (qv cs R x Y)) (by unfold qv;simp[k1,k2,k3,k4]))))
   (fun k2=>chain [tB 53 (aM k2),.c (wT false (by simp[k2]):gV 315 [(gY x.lo),(bP false),(iP p)] _),tB 58 (aM k2),.c (wU false (by simp[k2]):gV 315 [(gY x.hi),(bP false),(iP p)] _),.c (hH:gV 158 [(gZ P1),(gZ P2)] _),.c xM,.c (uQ:gV 314 [(gZ H),(gZ lp)] _),.c (nS _ _ af af:gV 37 [(gY x.lo),(gY x.hi)] _),tB 74 (aJ k1),tB 76 (aM k2),iq ((p:Int)+64) ae,.c (hM 1 ag:gV 316 [(gZ x),(iP 1),(iP (((p+64):Nat):Int))] _)]<|.w (R 1=true)
    (fun k3=>chain [tB 81 (k3),.c (qI _ ae:gV 113 [(iP 1)] _),iq ((p:Int)+64) ae,.c (hM 3 ag:gV 316 [(gZ x),(iP 3),(iP (((p+64):Nat):Int))] _)]<|.w (R 3=true)
     (fun k4=>chain [tB 88 (k4),.c (qI _ ae:gV 113 [(iP (-1))] _)]<|rQ (gZ (Iv.mk (jd (-1)) (jd 1) Y.all)) (gZ (qv cs R x Y)) (by unfold qv;simp[k1,k2,k3,k4]))
     (fun k4=>chain [tB 88 (aM k4)]<|rQ (gZ (Iv.mk Y.lo (jd 1) Y.all)) (gZ (qv cs R x Y)) (by unfold qv;simp[k1,k2,k3,k4])))
    (fun k3=>chain [tB 81 (aM k3),iq ((p:Int)+64) ae,.c (hM 3 ag:gV 316 [(gZ x),(iP 3),(iP (((p+64):Nat):Int))] _)]<|.w (R 3=true)
     (fun k4=>chain [tB 88 (k4),.c (qI _ ae:gV 113 [(iP (-1))] _)]<|rQ (gZ (Iv.mk (jd (-1)) Y.hi Y.all)) (gZ (qv cs R x Y)) (by unfold qv;simp[k1,k2,k3,k4]))
     (fun k4=>chain [tB 88 (aM k4)]<|rQ (gZ Y) (gZ (qv cs R x Y)) (by unfold qv;simp[k1,k2,k3,k4])))))) ah 
theorem Qb{x:Iv}(hx:x.ib)(cs:Bool){p:Nat}(il:8<=p)(ic:p<=512):∃ Z,Z.ib/\gV 284 [gZ x,bP cs,iP (p:Int)] (gZ Z):=by
 cases xa:x.all with
 |true=>exact⟨_,mh,aag x cs p hx xa il ic⟩
 |false=>
  by_cases hu:100<x.lo.iu\/100<x.hi.iu\/¬AL x 64=0\/0<=jm (tp x 64) (jd 7)
  .exact ⟨_,yY,aaj x cs p hx xa il ic hu⟩
  have h1:¬100<x.lo.iu:=fun q=>hu (.inl q)
  have h2:¬100<x.hi.iu:=fun q=>hu (.inr (.inl q))
  have h3:AL x 64=0:=bE fun q=>hu (.inr (.inr (.inl q)))
  have h4:¬0<=jm (tp x 64) (jd 7):=fun q=>hu (.inr (.inr (.inr q)))
  obtain⟨w1,w2⟩:=hx.jZ;obtain⟨P1,g1,wT⟩:=Qe w1 ae cs il ic;obtain⟨P2,g2,wU⟩:=Qe w2 ae cs il ic;replace wT:∀ c,c=cs->gV 315 [gY x.lo,bP c,iP (p:Int)] (gZ P1):=fun c h=>h▸wT
  replace wU:∀ c,c=cs->gV 315 [gY x.hi,bP c,iP (p:Int)] (gZ P2):=fun c h=>h▸wU
  obtain⟨H,g3,hH⟩:=Zj g1 g2;rcases Zt g3 with⟨Y,hY,uQ⟩|uQ
  rotate_left
  .exact ⟨_,yY,aai x cs p hx xa il ic h1 h2 h3 h4 P1 P2 H wT wU hH uQ⟩
  have ya:=hY.f;have v0:=hY.v;have v1:(Iv.mk (jd (-1)) (jd 1) Y.all).ib:=by rw[ya];exact yY
  have v2:(Iv.mk Y.lo (jd 1) Y.all).ib:=by rw[ya];exact hY.up.v
  have v3:(Iv.mk (jd (-1)) Y.hi Y.all).ib:=by rw[ya];exact hY.dn.v
  have v4:(Iv.mk Y.lo Y.hi Y.all).ib:=hY.v;have hm:∀ s:Nat,∃ r,s<=3->gV 316 [gZ x,iP (s:Int),iP ((p+64:Nat):Int)] (bP r):=fun s=>by
   by_cases hs:s<=3
   .obtain ⟨r,m⟩:=aar hx xa s ae (p+64) ae ae ae 
    exact⟨r,fun _=>m⟩
   .exact ⟨true,fun h=>absurd h hs⟩
  refine⟨qv cs (fun s=>Classical.choose (hm s)) x Y,?_,aah x cs p hx xa il ic h1 h2 h3 h4 P1 P2 H Y hY wT wU hH uQ (fun s=>Classical.choose (hm s)) fun s hs=>cM (hm s) hs⟩;generalize (fun s=>Classical.choose (hm s))=R;unfold qv;by_cases q1:jm x.lo x.hi=0
  .rw [aR q1];exact v0
  rw[aQ q1];by_cases q2:R (if cs=true then 2 else 3)=true<;>by_cases q3:R (if cs=true then 0 else 1)=true<;>simp only[q2,q3,bk,a6,bq]<;>assumption
theorem aaP(x Z:Iv)(p:Nat)(hZ:gV 284 [gZ x,bP false,iP (p:Int)] (gZ Z)):gV 244 [(gZ x),(iP p)] (gZ Z):=by
 exact tr true Tryz.call244 Tryz.func244 (chain [.c (hZ:gV 284 [(gZ x),(bP false),(iP p)] _)]<|.nil) ah 
theorem Kv{x:Iv}(hx:x.ib){p:Nat}(il:8<=p)(ic:p<=512):∃ Z,Z.ib/\gV 244 [gZ x,iP (p:Int)] (gZ Z):=by
 obtain⟨Z,h1,h2⟩:=Qb hx false il ic;exact⟨Z,h1,aaP x Z p h2⟩
theorem aak(x Z:Iv)(p:Nat)(hZ:gV 284 [gZ x,bP true,iP (p:Int)] (gZ Z)):gV 245 [(gZ x),(iP p)] (gZ Z):=by
 exact tr true Tryz.call245 Tryz.func245 (chain [.c (hZ:gV 284 [(gZ x),(bP true),(iP p)] _)]<|.nil) ah 
theorem Ks{x:Iv}(hx:x.ib){p:Nat}(il:8<=p)(ic:p<=512):∃ Z,Z.ib/\gV 245 [gZ x,iP (p:Int)] (gZ Z):=by
 obtain⟨Z,h1,h2⟩:=Qb hx true il ic;exact⟨Z,h1,aak x Z p h2⟩
open Go.RowKit Fp Pu
def lR(a b:Nat):Nat->Nat×Nat
 | 0=>(a,b)
 |k+1=>((lR a b k).2,(lR a b k).1%(lR a b k).2)
theorem K1(a b:Nat):∀ k,lR a b (k+1)=lR b (a%b) k
 | 0=>rfl
 |k+1=>by
  show((lR a b (k+1)).2,(lR a b (k+1)).1%(lR a b (k+1)).2)=_;rw[K1 a b k];rfl
theorem K0(a b:Nat):∀ k,Nat.gcd (lR a b k).1 (lR a b k).2=Nat.gcd a b
 | 0=>rfl
 |k+1=>by
  show Nat.gcd (lR a b k).2 ((lR a b k).1%(lR a b k).2)=_;rw[<-K0 a b k];exact(Nat.gcd_comm _ _).trans ((Nat.gcd_rec _ _).symm.trans (Nat.gcd_comm _ _))
theorem Rs:∀ (b a:Nat),∃ N,(∀ k,k<N->(lR a b k).2≠0)/\(lR a b N).2=0:=by
 intro b
 induction b using Nat.strongRecOn with
 |ind b ih=>
  intro a;by_cases h:b=0
  .exact ⟨0,fun k hk=>absurd hk (bj k),h⟩
  .obtain ⟨N,h1,h2⟩:=ih (a%b) (bg a (dB h)) b
   refine⟨N+1,fun k hk=>?_,by rw[K1];exact h2⟩;rcases k with _|k
   .exact h
   .rw [K1];exact h1 k ae 
def nF(n d:Int)(p:Nat):Iv:=if lJ n d then kE (kt (jd n) (jd d) p false) (nc (jd n) (jd d) p false) (kt (jd n) (jd d) p true) (nc (jd n) (jd d) p true)else ie
theorem MB{d:Int}(h:d≠0):(jd d).m≠0:=by
 intro q;have hq:=xt d;rw[ql,q]at hq;have e:(d:Rat)=0:=by
  rw[<-hq];split<;>simp
 rw[show(0:Rat)=((0:Int):Rat)from rfl,Rat.intCast_inj]at e;exact h e
theorem G5{a b:Dy}(b0:b.m≠0){p:Nat}(hp:1<=p)(ic:p<=4096)(up:Bool):(kt a b p up).ib:=by
 unfold kt;split
 .exact rm
 .exact mi _ _ _ _ _ _ hp ic
theorem ajX(n d:Int){p:Nat}(hp:1<=p)(ic:p<=4096):(nF n d p).ib:=by
 unfold nF;split
 .rename_i h
  obtain⟨r1,_⟩:=FK h;have d0:(jd d).m≠0:=MB ae;unfold kE;split
  .exact mh
  .rename_i he
   obtain⟨A,B⟩:=KM (a:=jd n) d0 hp ic;refine .inr ⟨rfl,G5 d0 hp ic _,G5 d0 hp ic _,?_⟩;rw[o0];exact bH (A.1 ae).2 (B.1 ae).2
 .exact mh
open Go.RowKit Fp Pu
def RZ(a b:Nat)(x:Nat):PS:=⟨12,true,[(0,.e (.v (.int .u64 ((((lR a b x).1):Nat):Int)))),(1,.e (.v (.int .u64 ((((lR a b x).2):Nat):Int))))],[]⟩
theorem adq(a b N:Nat)(ha:a<18446744073709551616)(hb:b<18446744073709551616)(iH:∀ k,k<N->(lR a b k).2≠0)(hN:(lR a b N).2=0):gV 205 [(.v (.int .u64 (a:Int))),(.v (.int .u64 (b:Int)))] (.v (.int .u64 ((((lR a b N).1):Nat):Int))):=by
 exact tr true Tryz.call205 Tryz.func205 (chain [.s (Sp.jv (RZ a b) 0 N ae (fun x hx kf=>by
    have jI:=iH x ae;exact iB (chain [tB 6 (Fi (iH x ae):(((((lR a b x).2):Nat):Int) != 0)=true),.a (ae:0<(((((lR a b x).2):Nat):Int):Int))]<|.e (chain [.o 0 (.int aw:PV.le (.e (.v (.int .u64 ((((lR a b x).2):Nat):Int)))) (.e (.v (.int .u64 ((((lR a b (x+1)).1):Nat):Int))))),.o 1 (.int aw:PV.le (.e (.v (.int .u64 (((((lR a b x).1)%((lR a b x).2)):Nat):Int)))) (.e (.v (.int .u64 ((((lR a b (x+1)).2):Nat):Int)))))]<|.nil)) ah)
  (fun hx=>by
    exact iB (chain [tB 6 (BE hN:(((((lR a b N).2):Nat):Int) != 0)=false)]<|.nil) ah) ak:jq 1 Tryz.f205 (RZ a b 0) (.exit 0) ⟨12,true,[(0,.e (.v (.int .u64 ((((lR a b N).1):Nat):Int))))],[]⟩) (chain [.o 0 (.int aw:PV.le (.e (.v (.int .u64 (a:Int)))) (.e (.v (.int .u64 ((((lR a b 0).1):Nat):Int))))),.o 1 (.int aw:PV.le (.e (.v (.int .u64 (b:Int)))) (.e (.v (.int .u64 ((((lR a b 0).2):Nat):Int)))))]<|.nil)]<|.nil) ah 
theorem adr(a b:Nat)(ha:a<18446744073709551616)(hb:b<18446744073709551616):gV 205 [(.v (.int .u64 (a:Int))),(.v (.int .u64 (b:Int)))] (.v (.int .u64 (Nat.gcd a b:Int))):=by
 obtain⟨N,h1,h2⟩:=Rs b a;have hg:=K0 a b N;rw[h2,Nat.gcd_zero_right]at hg;rw[<-hg];exact adq a b N ha hb h1 h2
theorem aky(m:Nat)(h:m<=1073741824):gV 206 [(iP m)] (.v (.int .u64 (m:Int))):=by
 exact tr true Tryz.call206 Tryz.func206 (chain [tF 4 ((m:Int)<0) ae,.o 9 (.int (px _ ae):PV.le (.e (.v (.int .u64 (IntKind.u64.wrap (m:Int))))) (.e (.v (.int .u64 (m:Int)))))]<|.nil) ah 
theorem akx(m:Nat)(h0:0<m)(h:m<=1073741824):gV 206 [(iP (-(m:Int)))] (.v (.int .u64 (m:Int))):=by
 exact tr true Tryz.call206 Tryz.func206 (chain [tT 4 ((-(m:Int))<0) ae,iq (0-(-(m:Int))) ae,.o 6 (.int ae:PV.le (.e (iP (0-(-(m:Int))))) (.e (iP m))),.o 7 (.int (px _ ae):PV.le (.e (.v (.int .u64 (IntKind.u64.wrap (m:Int))))) (.e (.v (.int .u64 (m:Int)))))]<|.nil) ah 
theorem Xm(n:Int)(h1:-1073741824<=n)(h2:n<=1073741824):gV 206 [iP n] (.v (.int .u64 (n.natAbs:Int))):=by
 by_cases h:0<=n
 .obtain ⟨m,rfl⟩:=dY h
  exact aky m ae 
 .obtain ⟨m,rfl⟩:∃ m:Nat,n = -(m:Int):=⟨n.natAbs,ae⟩
  rw[ff,dA];exact akx m ae ae 
theorem xp(g:Nat):((g:Int)==1)=decide (g=1):=by
 by_cases h:g=1
 .subst h;rfl
 .rw [aT h];exact aJ ae 
theorem Jj(n d:Int):gV 169 [(.agg [(iP n),(iP d)])] (bP (lJ n d)):=by
 exact tr true Tryz.call169 Tryz.func169 (.w (1<=d)
  (fun k1=>chain [tB 5 (aS k1)]<|.w (d<=1073741824)
   (fun k2=>chain [tB 9 (aS k2)]<|.w ((-1073741824)<=n)
    (fun k3=>chain [tB 14 (aS k3)]<|.w (n<=1073741824)
     (fun k4=>chain [tB 19 (aS k4),.c (Xm _ ae ae:gV 206 [(iP n)] _),.c (Xm _ ae ae:gV 206 [(iP d)] _),.c (adr _ _ ae ae:gV 205 [(.v (.int .u64 (Int.natAbs n:Int))),(.v (.int .u64 (Int.natAbs d:Int)))] _)]<|rQ (bP ((Nat.gcd (Int.natAbs n) (Int.natAbs d):Int)==1)) (bP (lJ n d)) (by unfold lJ;simp[xp,k1,k2,k3,k4]))
     (fun k4=>chain [tB 19 (aT k4)]<|rQ (bP false) (bP (lJ n d)) (by unfold lJ;simp[xp,k1,k2,k3,k4])))
    (fun k3=>chain [tB 14 (aT k3)]<|rQ (bP false) (bP (lJ n d)) (by unfold lJ;simp[xp,k1,k2,k3])))
   (fun k2=>chain [tB 9 (aT k2)]<|rQ (bP false) (bP (lJ n d)) (by unfold lJ;simp[xp,k1,k2])))
  (fun k1=>chain [tB 5 (aT k1)]<|rQ (bP false) (bP (lJ n d)) (by unfold lJ;simp[xp,k1]))) ah 
theorem UB{lo hi:Dy}{e f:Int}(h:e≠0\/f≠0):kE lo e hi f=ie:=aR h
theorem agv{lo hi:Dy}{e f:Int}(h:e=0)(k:f=0):kE lo e hi f=⟨lo,hi,false⟩:=aQ (by rw[h,k];decide)
theorem aiM(n d:Int)(p:Nat)(h:lJ n d=true)(il:8<=p)(ic:p<=512):gV 210 [(.agg [(iP n),(iP d)]),(iP p)] (gZ (nF n d p)):=by
 obtain⟨r1,r2,r3,r4⟩:=FK h;have v1:=rZ (n:=n) ae;have v2:=rZ (n:=d) ae;have d0:(jd d).m≠0:=MB ae;exact tr true Tryz.call210 Tryz.func210 (chain [.c (Jj _ _:gV 169 [(.agg [(iP n),(iP d)])] _),tB 11 (by rw[h];rfl:(!(lJ n d))=false),.c (qI _ ae:gV 113 [(iP n)] _),.c (qI _ ae:gV 113 [(iP d)] _),.c (Wg (jd n) (jd d) p af af af ae ae),.c (qI _ ae:gV 113 [(iP n)] _),.c (qI _ ae:gV 113 [(iP d)] _),.c (Wh (jd n) (jd d) p af af af ae ae)]<|.w ((nc (jd n) (jd d) p false)=0)
  (fun k1=>chain [tB 36 (aO k1)]<|.w ((nc (jd n) (jd d) p true)=0)
   (fun k2=>chain [tB 39 (aO k2)]<|rQ (gZ (Iv.mk (kt (jd n) (jd d) p false) (kt (jd n) (jd d) p true) false)) (gZ (nF n d p)) (by unfold nF;rw[aR h,agv k1 k2]))
   (fun k2=>chain [tB 39 (aP k2),.o 41 (.e Ge:PV.le (.e (.agg [(bP false),(.v (.slice none 0 0)),(iP 0),(bP false),(.v (.slice none 0 0)),(iP 0),(bP true)])) (.e (gZ ie)))]<|rQ (gZ ie) (gZ (nF n d p)) (by unfold nF;rw[aR h,UB (.inr k2)])))
  (fun k1=>chain [tB 36 (aP k1),.o 41 (.e Ge:PV.le (.e (.agg [(bP false),(.v (.slice none 0 0)),(iP 0),(bP false),(.v (.slice none 0 0)),(iP 0),(bP true)])) (.e (gZ ie)))]<|rQ (gZ ie) (gZ (nF n d p)) (by unfold nF;rw[aR h,UB (.inl k1)]))) ah 
open Go.RowKit Fp Pu
noncomputable def Cs(x:Iv)(p:Nat):Iv:=@dite Iv (x.ib/\8<=p/\p<=512) (Classical.propDecidable _) (fun h=>Classical.choose (OL h.1 h.2.1 h.2.2)) (fun _=>ie)
theorem acR(x:Iv)(p:Nat):(Cs x p).ib:=by
 unfold Cs;split
 .rename_i h;exact(cM (OL h.1 h.2.1 h.2.2)).1
 .exact mh
theorem acQ(x:Iv)(hx:x.ib)(p:Nat)(il:8<=p)(ic:p<=512):gV 242 [gZ x,iP (p:Int)] (gZ (Cs x p)):=by
 unfold Cs;rw[dif_pos ⟨hx,il,ic⟩];exact(cM (OL hx il ic)).2
noncomputable def Ct(x:Iv)(p:Nat):Iv:=@dite Iv (x.ib/\8<=p/\p<=512) (Classical.propDecidable _) (fun h=>Classical.choose (ON h.1 h.2.1 h.2.2)) (fun _=>ie)
theorem acT(x:Iv)(p:Nat):(Ct x p).ib:=by
 unfold Ct;split
 .rename_i h;exact(cM (ON h.1 h.2.1 h.2.2)).1
 .exact mh
theorem acS(x:Iv)(hx:x.ib)(p:Nat)(il:8<=p)(ic:p<=512):gV 243 [gZ x,iP (p:Int)] (gZ (Ct x p)):=by
 unfold Ct;rw[dif_pos ⟨hx,il,ic⟩];exact(cM (ON hx il ic)).2
noncomputable def Cu(x:Iv)(p:Nat):Iv:=@dite Iv (x.ib/\8<=p/\p<=512) (Classical.propDecidable _) (fun h=>Classical.choose (Kv h.1 h.2.1 h.2.2)) (fun _=>ie)
theorem acV(x:Iv)(p:Nat):(Cu x p).ib:=by
 unfold Cu;split
 .rename_i h;exact(cM (Kv h.1 h.2.1 h.2.2)).1
 .exact mh
theorem acU(x:Iv)(hx:x.ib)(p:Nat)(il:8<=p)(ic:p<=512):gV 244 [gZ x,iP (p:Int)] (gZ (Cu x p)):=by
 unfold Cu;rw[dif_pos ⟨hx,il,ic⟩];exact(cM (Kv hx il ic)).2
noncomputable def Cr(x:Iv)(p:Nat):Iv:=@dite Iv (x.ib/\8<=p/\p<=512) (Classical.propDecidable _) (fun h=>Classical.choose (Ks h.1 h.2.1 h.2.2)) (fun _=>ie)
theorem acP(x:Iv)(p:Nat):(Cr x p).ib:=by
 unfold Cr;split
 .rename_i h;exact(cM (Ks h.1 h.2.1 h.2.2)).1
 .exact mh
theorem acO(x:Iv)(hx:x.ib)(p:Nat)(il:8<=p)(ic:p<=512):gV 245 [gZ x,iP (p:Int)] (gZ (Cr x p)):=by
 unfold Cr;rw[dif_pos ⟨hx,il,ic⟩];exact(cM (Ks hx il ic)).2
noncomputable def Cv(x:Iv)(p:Nat):Iv:=@dite Iv (x.ib/\8<=p/\p<=512) (Classical.propDecidable _) (fun h=>Classical.choose (MK h.1 h.2.1 h.2.2)) (fun _=>ie)
theorem acX(x:Iv)(p:Nat):(Cv x p).ib:=by
 unfold Cv;split
 .rename_i h;exact(cM (MK h.1 h.2.1 h.2.2)).1
 .exact mh
theorem acW(x:Iv)(hx:x.ib)(p:Nat)(il:8<=p)(ic:p<=512):gV 246 [gZ x,iP (p:Int)] (gZ (Cv x p)):=by
 unfold Cv;rw[dif_pos ⟨hx,il,ic⟩];exact(cM (MK hx il ic)).2
open Go.RowKit Fp Pu
def GG(o:mV):Bool:=decide (o.kind<=6)
noncomputable def kG(o:mV)(x y:Iv)(p:Nat):Iv:=
 if o.kind=3 then jj x y p else if o.kind=4 then FY x y p else if o.kind=5 then iN x y p else if o.kind=6 then jS x y p
 else if o.kind=7 then qD x else if o.kind=8 then mg x o.n p else if o.kind=9 then Cs x p else if o.kind=10 then Ct x p
 else if o.kind=11 then Cu x p else if o.kind=12 then Cr x p else if o.kind=13 then Cv x p else ie
noncomputable def ss(o:mV)(l:List Iv)(p:Nat):Iv:=if o.kind=1 then nF o.cn o.cd p else kG o (l.getD o.a ie) (if GG o then l.getD o.b ie else ie) p
noncomputable def iQ(gW:List mV)(xs:List Iv)(p:Nat):Nat->List Iv
 | 0=>xs
 |k+1=>iQ gW xs p k++[ss (gW.getD k iR) (iQ gW xs p k) p]
noncomputable def je(t:pg)(xs:List Iv)(p:Nat):List Iv:=t.ig.map fun k=>(iQ t.gW xs p t.gW.length).getD k ie
noncomputable def mO(s:lM)(x:List Iv)(h:Dy)(b:List Iv)(p:Nat):List Iv:=
 if nd (je s.tape (b++s.params) p)then[]else if nd (tX x (je s.tape (b++s.params) p) h p)then[]else tX x (je s.tape (b++s.params) p) h p
noncomputable def CP(s:lM)(x:List Iv)(h:Dy)(b:List Iv)(p:Nat):Bool:=!(mO s x h b p).isEmpty&&(rK x b&&rK (mO s x h b p) b)
theorem F8(gW:List mV)(xs:List Iv)(p:Nat):∀ k,(iQ gW xs p k).length=xs.length+k
 | 0=>rfl
 |k+1=>by simp only[iQ,cg,F8 gW xs p k,dc,List.length_nil];omega
theorem YY(o:mV){x y:Iv}(hx:x.ib)(hy:y.ib){p:Nat}(hp:1<=p)(ic:p<=4096):(kG o x y p).ib:=by
 unfold kG;split
 .exact rT hx hy hp ic
 split
 .exact rT hx (Fk hy) hp ic
 split
 .exact qC _ _ hp ic
 split
 .exact vG _ _ hp ic
 split
 .exact Fk hx
 split
 .exact ahP hx _ hp ic
 split
 .exact acR _ _
 split
 .exact acT _ _
 split
 .exact acV _ _
 split
 .exact acP _ _
 split
 .exact acX _ _
 .exact mh
theorem Y0(o:mV){l:List Iv}(hl:ph l){p:Nat}(hp:1<=p)(ic:p<=4096):(ss o l p).ib:=by
 unfold ss;split
 .exact ajX _ _ hp ic
 .exact YY o (hl _) (by split;exact hl _;exact mh) hp ic
theorem Ga(gW:List mV){xs:List Iv}(h:ph xs){p:Nat}(hp:1<=p)(ic:p<=4096):∀ k,ph (iQ gW xs p k)
 | 0=>h
 |k+1=>(Ga gW h hp ic k).push (Y0 _ (Ga gW h hp ic k) hp ic)
theorem Ed(t:pg){xs:List Iv}(h:ph xs){p:Nat}(hp:1<=p)(ic:p<=4096):ph (je t xs p):=fun i=>by
 unfold je;rw[aW,cj];cases t.ig[i]? with
 |none=>exact mh
 |some k=>exact Ga t.gW h hp ic _ _
theorem zC(t:pg)(xs:List Iv)(p:Nat):(je t xs p).length=t.ig.length:=by simp[je]
theorem My{s:lM}{x b:List Iv}{h:Dy}{p n:Nat}(hx:kX n x)(hp:1<=p)(ic:p<=4096)(ks:mO s x h b p≠[]):kX n (mO s x h b p):=by
 unfold mO at ks ⊢;split at ks
 .exact absurd rfl ks
 .rename_i h1
  rw[aQ h1];split at ks
  .exact absurd rfl ks
  .rename_i h2
   rw[aQ h2];exact⟨by rw[Bt,hx.len],aeg (by simpa using h2) (afe hx.ok.OK hp ic)⟩
open Go.RowKit Fp Pu
theorem abi:jO 1=0:= ar 
theorem Qk(e:Int):canon false 1 e=⟨false,1,e⟩:=by
 unfold canon;rw[aQ ag,abi];simp
def nM(k:Int):Dy:=⟨false,1,k⟩
theorem OF{k:Int}(h1:-100<=k)(h2:k<=100):mP (nM k):=.inr ⟨by show ia 1<=4096;rw[uE];decide,by show -16384<=k;omega,by show k<=16384;omega,by show(ia 1:Int)+k<=16384;rw[uE];omega⟩
theorem X7{k:Int}(h1:-100<=k)(h2:k<=100):(nM k).ib:=⟨by have:=qJ false 1 k;rwa[Qk]at this,OF h1 h2⟩
theorem X6(k:Int):¬(nM k).iK<0:=by
 rw[(qP _).2,ql];show ¬(if false=true then _ else((1:Nat):Rat)*P2 k)<0;rw[aQ ag];have:=mY k
 grind
theorem akt{d:Dy}(h:¬d.iK<0):0<=d.q:=by
 rw[(qP d).2]at h
 grind
noncomputable def xK(s:lM)(x:List Iv)(h:Dy)(p:Nat)(k:Int):Bool:=sB x (nM k)&&CP s x h (qT x (nM k)) p
open Go.RowKit Fp Pu
def PD(a b:List Iv)(g:FuncId)(cap:List E)(i:Nat):PS:=⟨32,false,[(17,.e (iP i)),(16,.e (iP a.length)),(15,.e (ik a)),(1,.e (ik b)),(2,.e (.fn g cap))],[]⟩
def PB(a b:List Iv)(g:FuncId)(cap:List E)(N:Nat)(i:Nat):PS:=⟨32,false,[(17,.e (iP i)),(16,.e (iP a.length)),(15,.e (ik a)),(1,.e (ik b)),(2,.e (.fn g cap))],[]⟩
def PH(x:List Iv)(d:Dy)(i:Nat):PS:=⟨60,true,[(6,.own 6),(28,.e (iP i)),(27,.e (iP x.length)),(26,.e (ik x)),(3,.box 3 0)],[(6,.row true 41 i 7 (ki ((List.range i).map (fun j_=>qw (x.getD j_ ie) d)))),(3,.cells 31 (jo d))]⟩
def PF(x:List Iv)(d:Dy)(N:Nat)(i:Nat):PS:=⟨60,true,[(6,.own 6),(28,.e (iP i)),(27,.e (iP x.length)),(26,.e (ik x)),(3,.box 3 0)],[(6,.row true 41 i 7 (ki ((List.range i).map (fun j_=>qw (x.getD j_ ie) d)))),(3,.cells 31 (jo d))]⟩
def PG(x:List Iv)(d:Dy)(N:Nat)(i:Nat):PS:=⟨60,true,[(6,.own 6),(28,.e (iP i)),(27,.e (iP x.length)),(26,.e (ik x)),(3,.box 3 0)],[(6,.row true 41 i 7 (ki ((List.range i).map (fun j_=>qw (x.getD j_ ie) d)))),(3,.cells 31 (jo d))]⟩
theorem aae(x:Iv)(hx:x.ib)(xa:x.all=false):gV 155 [(gZ x)] (bP false):=by
 exact tr true Tryz.call155 Tryz.func155 (chain [tB 4 (xa:x.all=false),.c (qM x af)]<|.nil) ah 
theorem DU(b:List Iv)(h1:1<=b.length)(h8:b.length<=8)(hb:oA b):gV 112 [(ik b)] (bP true):=by
 exact tr true Tryz.call112 Tryz.func112 (chain [tT 5 (1<=(b.length:Int)) ae,tT 9 ((b.length:Int)<=8) ae,.c (Af true _ _ 155 [] (fun _=>false) (fun i hi=>aae _ (hb i hi).1 (hb i hi).2) ae (fun _ _=>rfl):gV 17 [(ik b),(.fn 155 [])] _)]<|.nil) ah 
theorem aad(a b:List Iv)(a1:1<=a.length)(a8:a.length<=8)(hl:b.length=a.length)(ha:oA a)(hb:oA b):gV 62 [(ik a),(ik b)] (bP true):=by
 exact tr true Tryz.call62 Tryz.func62 (chain [.c (DU a ae ae af),.c (DU b ae ae af),tB 16 (Fh ae:((a.length:Int)==(b.length:Int))=true)]<|.nil) ah 
theorem PE(a b:List Iv)(g:FuncId)(cap:List E)(f:Nat->Bool)(hl:b.length=a.length)(h8:a.length<=1000)(hp:∀ i,i<a.length->gV g ((gZ (a.getD i ie))::(gZ (b.getD i ie))::cap) (bP (f i)))(iH:∀ i,i<a.length->f i=true):gV 56 [(ik a),(ik b),(.fn g cap)] (bP true):=by
 exact tr false Tryz.call56 Tryz.func56 (chain [tB 14 (BF ae:((a.length:Int) != (b.length:Int))=false),.s (Sp.jv (PD a b g cap) 0 a.length ae (fun i hi pG=>by
    exact iB (chain [tT 18 ((i:Int)<(a.length:Int)) ae,iX ((i:Int)) (a.length) ae,iX ((i:Int)) (b.length) ae,.c (hp i ae:gV g ((gZ (a.getD i ie))::(gZ (b.getD i ie))::cap) _),tB 29 (iH i ae:(f i)=true),iq ((i:Int)+1) ae]<|.nil) ah)
  (fun hi=>by
    exact iB (chain [tF 18 ((a.length:Int)<(a.length:Int)) ae]<|.nil) ah) ak:jq 4 Tryz.f56 (PD a b g cap 0) (.exit 0) ⟨32,false,[],[]⟩) .nil]<|.nil) ah 
theorem Ze(a b:List Iv)(g:FuncId)(cap:List E)(f:Nat->Bool)(hl:b.length=a.length)(h8:a.length<=1000)(hp:∀ i,i<a.length->gV g ((gZ (a.getD i ie))::(gZ (b.getD i ie))::cap) (bP (f i)))(N:Nat)(mE:N<a.length)(iH:∀ i,i<N->f i=true)(hN:f N=false):gV 56 [(ik a),(ik b),(.fn g cap)] (bP false):=by
 exact tr false Tryz.call56 Tryz.func56 (chain [tB 14 (BF ae:((a.length:Int) != (b.length:Int))=false),.s (Sp.jv (PB a b g cap N) 0 N ae (fun i hi pG=>by
    exact iB (chain [tT 18 ((i:Int)<(a.length:Int)) ae,iX ((i:Int)) (a.length) ae,iX ((i:Int)) (b.length) ae,.c (hp i ae:gV g ((gZ (a.getD i ie))::(gZ (b.getD i ie))::cap) _),tB 29 (iH i ae:(f i)=true),iq ((i:Int)+1) ae]<|.nil) ah)
  (fun hi=>by
    exact iB (chain [tT 18 ((N:Int)<(a.length:Int)) ae,iX ((N:Int)) (a.length) ae,iX ((N:Int)) (b.length) ae,.c (hp N ae:gV g ((gZ (a.getD N ie))::(gZ (b.getD N ie))::cap) _),tB 29 (hN:(f N)=false)]<|.nil) ah) ak:jq 4 Tryz.f56 (PB a b g cap N 0) .ret ⟨32,false,[(6,.e (bP false))],[]⟩) .nil]<|.nil) ah 
theorem Zf(a b:List Iv)(g:FuncId)(cap:List E)(f:Nat->Bool)(hl:b.length=a.length)(h8:a.length<=1000)(hp:∀ i,i<a.length->gV g ((gZ (a.getD i ie))::(gZ (b.getD i ie))::cap) (bP (f i))):gV 56 [(ik a),(ik b),(.fn g cap)] (bP ((List.range a.length).all f)):=by
 by_cases h:∃ i,i<a.length/\(!(f i))=true
 .obtain ⟨N,h1,h2,h3⟩:=qB (p:=fun i=>!(f i)) h
  refine(Ze a b g cap f hl h8 hp N h1 (fun i hi=>by simpa using h3 i hi) (by simpa using h2)).jW (.iS ?_);rw[show(List.range a.length).all f=false from List.all_eq_false.2 ⟨N,bI.2 h1,by simpa using h2⟩]
 .have hh:∀ i,i<a.length->f i=true:=fun i hi=>by
   cases hf:f i
   .exact absurd ⟨i,hi,by rw[hf];rfl⟩ h
   .rfl
  refine(PE a b g cap f hl h8 hp hh).jW (.iS ?_);rw[show(List.range a.length).all f=true from bF.2 fun i hi=>hh i (bI.1 hi)]
theorem P9(a b:List Iv)(a1:1<=a.length)(a8:a.length<=8)(hl:b.length=a.length)(ha:oA a)(hb:oA b):gV 24 [(ik a),(ik b)] (bP (rK a b)):=by
 exact tr true Tryz.call24 Tryz.func24 (chain [.c (aad a b ae ae ae af af),.c (Zf a b 63 [] (fun i=>oV (a.getD i ie) (b.getD i ie)) hl ae (fun i hi=>Zl _ _ (ha i hi).1 (hb i ae).1))]<|.nil) ah 
theorem Lq{x:Iv}{d:Dy}(h:uO x d=true):mI (iI x.lo (iF d))=0/\mI (iI x.hi d)=0:=by
 unfold uO at h;rwa[bB,bW,bW]at h
theorem aac(x:List Iv)(d:Dy)(x1:1<=x.length)(x8:x.length<=8)(hx:oA x)(hd:d.ib)(h0:¬d.iK<0)(iH:∀ i,i<x.length->uO (x.getD i ie) d=true):gV 114 [(ik x),(gY d)] (.iw [ik ((List.range x.length).map (fun j_=>qw (x.getD j_ ie) d)),iP 0]):=by
 exact tr true Tryz.call114 Tryz.func114 (chain [.c (DU x ae ae af),.c (qg _ af:gV 68 [(gY d)] _),.c (nT _ af:gV 35 [(gY d)] _),tB 24 (aT h0),.y 6 6 true 41 7 (ki ((List.range 0).map (fun j_=>qw (x.getD j_ ie) d))),.s (Sp.jv (PH x d) 0 x.length ae (fun i hi pG=>by
    obtain⟨w1,w2⟩:=(hx i ae).1.jZ;obtain⟨g1,g2⟩:=Lq (iH i ae);have tN:=th (Iv.mk (kC (iI (x.getD i ie).lo (iF d))) (kC (iI (x.getD i ie).hi d)) false);exact iB (chain [tT 29 ((i:Int)<(x.length:Int)) ae,iX ((i:Int)) (x.length) ae,.c (DS _ _ af af:gV 156 [(gY ((x.getD i ie).lo)),(gY d)] _),.c (DQ ((x.getD i ie).hi) d af af),tB 47 (by rw[g1];rfl:((mI (iI ((x.getD i ie).lo) (iF d))) != 0)=false),tB 50 (by rw[g2];rfl:((mI (iI ((x.getD i ie).hi) d)) != 0)=false),.o 56 (.e (mz _):PV.le (.e (.sl true 1 7 fun i_ j_=>(iY (Iv.mk (kC (iI ((x.getD i ie).lo) (iF d))) (kC (iI ((x.getD i ie).hi) d)) false)).getD (i_*7+j_) (.v (.bool false)))) (.e (ik [(Iv.mk (kC (iI ((x.getD i ie).lo) (iF d))) (kC (iI ((x.getD i ie).hi) d)) false)]))),.a (ae:(i+[(Iv.mk (kC (iI ((x.getD i ie).lo) (iF d))) (kC (iI ((x.getD i ie).hi) d)) false)].length)*88<=140737488355328),iq ((i:Int)+1) ae]<|.e (chain [.b 6 (yB rfl rfl rfl:Bx.le (.row true 41 (i+[(Iv.mk (kC (iI ((x.getD i ie).lo) (iF d))) (kC (iI ((x.getD i ie).hi) d)) false)].length) 7 (fun i_ j_=>if i_<i then(ki ((List.range i).map (fun j_=>qw (x.getD j_ ie) d))) i_ j_ else(E.lZ (ik [(Iv.mk (kC (iI ((x.getD i ie).lo) (iF d))) (kC (iI ((x.getD i ie).hi) d)) false)])) (i_-i) j_)) (.row true 41 (i+1) 7 (ki ((List.range (i+1)).map (fun j_=>qw (x.getD j_ ie) d)))))]<|.nil)) ah)
  (fun hi=>by
    exact iB (chain [tF 29 ((x.length:Int)<(x.length:Int)) ae,.z 6]<|.e (chain [.o 6 (.e (Ag aj):PV.le (.e (.sl true x.length 7 (ki ((List.range x.length).map (fun j_=>qw (x.getD j_ ie) d))))) (.e (ik ((List.range x.length).map (fun j_=>qw (x.getD j_ ie) d)))))]<|.nil)) ah) ak:jq 5 Tryz.f114 (PH x d 0) (.exit 0) ⟨60,true,[(6,.e (ik ((List.range x.length).map (fun j_=>qw (x.getD j_ ie) d))))],[]⟩) .nil]<|.nil) ah 
theorem Z9(x:List Iv)(d:Dy)(x1:1<=x.length)(x8:x.length<=8)(hx:oA x)(hd:d.ib)(h0:¬d.iK<0)(N:Nat)(mE:N<x.length)(iH:∀ i,i<N->uO (x.getD i ie) d=true)(hN:mI (iI (x.getD N ie).lo (iF d))≠0):gV 114 [(ik x),(gY d)] (.iw [.v (.slice none 0 0),iP 9]):=by
 exact tr true Tryz.call114 Tryz.func114 (chain [.c (DU x ae ae af),.c (qg _ af:gV 68 [(gY d)] _),.c (nT _ af:gV 35 [(gY d)] _),tB 24 (aT h0),.y 6 6 true 41 7 (ki ((List.range 0).map (fun j_=>qw (x.getD j_ ie) d))),.s (Sp.jv (PF x d N) 0 N ae (fun i hi pG=>by
    obtain⟨w1,w2⟩:=(hx i ae).1.jZ;obtain⟨g1,g2⟩:=Lq (iH i ae);have tN:=th (Iv.mk (kC (iI (x.getD i ie).lo (iF d))) (kC (iI (x.getD i ie).hi d)) false);exact iB (chain [tT 29 ((i:Int)<(x.length:Int)) ae,iX ((i:Int)) (x.length) ae,.c (DS _ _ af af:gV 156 [(gY ((x.getD i ie).lo)),(gY d)] _),.c (DQ ((x.getD i ie).hi) d af af),tB 47 (by rw[g1];rfl:((mI (iI ((x.getD i ie).lo) (iF d))) != 0)=false),tB 50 (by rw[g2];rfl:((mI (iI ((x.getD i ie).hi) d)) != 0)=false),.o 56 (.e (mz _):PV.le (.e (.sl true 1 7 fun i_ j_=>(iY (Iv.mk (kC (iI ((x.getD i ie).lo) (iF d))) (kC (iI ((x.getD i ie).hi) d)) false)).getD (i_*7+j_) (.v (.bool false)))) (.e (ik [(Iv.mk (kC (iI ((x.getD i ie).lo) (iF d))) (kC (iI ((x.getD i ie).hi) d)) false)]))),.a (ae:(i+[(Iv.mk (kC (iI ((x.getD i ie).lo) (iF d))) (kC (iI ((x.getD i ie).hi) d)) false)].length)*88<=140737488355328),iq ((i:Int)+1) ae]<|.e (chain [.b 6 (yB rfl rfl rfl:Bx.le (.row true 41 (i+[(Iv.mk (kC (iI ((x.getD i ie).lo) (iF d))) (kC (iI ((x.getD i ie).hi) d)) false)].length) 7 (fun i_ j_=>if i_<i then(ki ((List.range i).map (fun j_=>qw (x.getD j_ ie) d))) i_ j_ else(E.lZ (ik [(Iv.mk (kC (iI ((x.getD i ie).lo) (iF d))) (kC (iI ((x.getD i ie).hi) d)) false)])) (i_-i) j_)) (.row true 41 (i+1) 7 (ki ((List.range (i+1)).map (fun j_=>qw (x.getD j_ ie) d)))))]<|.nil)) ah)
  (fun hi=>by
    obtain⟨w1,w2⟩:=(hx N ae).1.jZ;exact iB (chain [tT 29 ((N:Int)<(x.length:Int)) ae,iX ((N:Int)) (x.length) ae,.c (DS _ _ af af:gV 156 [(gY ((x.getD N ie).lo)),(gY d)] _),.c (DQ ((x.getD N ie).hi) d af af),tB 47 (by simpa using hN:((mI (iI ((x.getD N ie).lo) (iF d))) != 0)=true)]<|.nil) ah) ak:jq 5 Tryz.f114 (PF x d N 0) .ret ⟨60,true,[(5,.e (iP 9)),(4,.e (.v (.slice none 0 0)))],[]⟩) .nil]<|.nil) ah 
theorem aaa(x:List Iv)(d:Dy)(x1:1<=x.length)(x8:x.length<=8)(hx:oA x)(hd:d.ib)(h0:¬d.iK<0)(N:Nat)(mE:N<x.length)(iH:∀ i,i<N->uO (x.getD i ie) d=true)(hM:mI (iI (x.getD N ie).lo (iF d))=0)(hN:mI (iI (x.getD N ie).hi d)≠0):gV 114 [(ik x),(gY d)] (.iw [.v (.slice none 0 0),iP 9]):=by
 exact tr true Tryz.call114 Tryz.func114 (chain [.c (DU x ae ae af),.c (qg _ af:gV 68 [(gY d)] _),.c (nT _ af:gV 35 [(gY d)] _),tB 24 (aT h0),.y 6 6 true 41 7 (ki ((List.range 0).map (fun j_=>qw (x.getD j_ ie) d))),.s (Sp.jv (PG x d N) 0 N ae (fun i hi pG=>by
    obtain⟨w1,w2⟩:=(hx i ae).1.jZ;obtain⟨g1,g2⟩:=Lq (iH i ae);have tN:=th (Iv.mk (kC (iI (x.getD i ie).lo (iF d))) (kC (iI (x.getD i ie).hi d)) false);exact iB (chain [tT 29 ((i:Int)<(x.length:Int)) ae,iX ((i:Int)) (x.length) ae,.c (DS _ _ af af:gV 156 [(gY ((x.getD i ie).lo)),(gY d)] _),.c (DQ ((x.getD i ie).hi) d af af),tB 47 (by rw[g1];rfl:((mI (iI ((x.getD i ie).lo) (iF d))) != 0)=false),tB 50 (by rw[g2];rfl:((mI (iI ((x.getD i ie).hi) d)) != 0)=false),.o 56 (.e (mz _):PV.le (.e (.sl true 1 7 fun i_ j_=>(iY (Iv.mk (kC (iI ((x.getD i ie).lo) (iF d))) (kC (iI ((x.getD i ie).hi) d)) false)).getD (i_*7+j_) (.v (.bool false)))) (.e (ik [(Iv.mk (kC (iI ((x.getD i ie).lo) (iF d))) (kC (iI ((x.getD i ie).hi) d)) false)]))),.a (ae:(i+[(Iv.mk (kC (iI ((x.getD i ie).lo) (iF d))) (kC (iI ((x.getD i ie).hi) d)) false)].length)*88<=140737488355328),iq ((i:Int)+1) ae]<|.e (chain [.b 6 (yB rfl rfl rfl:Bx.le (.row true 41 (i+[(Iv.mk (kC (iI ((x.getD i ie).lo) (iF d))) (kC (iI ((x.getD i ie).hi) d)) false)].length) 7 (fun i_ j_=>if i_<i then(ki ((List.range i).map (fun j_=>qw (x.getD j_ ie) d))) i_ j_ else(E.lZ (ik [(Iv.mk (kC (iI ((x.getD i ie).lo) (iF d))) (kC (iI ((x.getD i ie).hi) d)) false)])) (i_-i) j_)) (.row true 41 (i+1) 7 (ki ((List.range (i+1)).map (fun j_=>qw (x.getD j_ ie) d)))))]<|.nil)) ah)
  (fun hi=>by
    obtain⟨w1,w2⟩:=(hx N ae).1.jZ;exact iB (chain [tT 29 ((N:Int)<(x.length:Int)) ae,iX ((N:Int)) (x.length) ae,.c (DS _ _ af af:gV 156 [(gY ((x.getD N ie).lo)),(gY d)] _),.c (DQ ((x.getD N ie).hi) d af af),tB 47 (by rw[hM];rfl:((mI (iI ((x.getD N ie).lo) (iF d))) != 0)=false),tB 50 (by simpa using hN:((mI (iI ((x.getD N ie).hi) d)) != 0)=true)]<|.nil) ah) ak:jq 5 Tryz.f114 (PG x d N 0) .ret ⟨60,true,[(5,.e (iP 9)),(4,.e (.v (.slice none 0 0)))],[]⟩) .nil]<|.nil) ah 
def Ei(x:List Iv)(d:Dy):Int:=if sB x d then 0 else 9
theorem aab(x:List Iv)(d:Dy)(x1:1<=x.length)(x8:x.length<=8)(hx:oA x)(hd:d.ib)(h0:¬d.iK<0):gV 114 [ik x,gY d] (.iw [ik (qT x d),iP (Ei x d)]):=by
 unfold qT Ei;cases hg:sB x d with
 |true=>
  rw[aR rfl,aR rfl];exact aac x d x1 x8 hx hd h0 fun i hi=>bF.1 hg i (bI.2 hi)
 |false=>
  rw[aQ ag,aQ ag];obtain⟨i,hi,hb⟩:=List.all_eq_false.1 hg;obtain⟨N,h1,h2,h3⟩:=qB (p:=fun i=>!(uO (x.getD i ie) d)) ⟨i,bI.1 hi,by simpa using hb⟩;have iH:∀ i,i<N->uO (x.getD i ie) d=true:=fun i hi=>by simpa using h3 i hi
  have h2:uO (x.getD N ie) d=false:=by simpa using h2
  have key:gV 114 [ik x,gY d] (.iw [.v (.slice none 0 0),iP 9]):=by
   by_cases hM:mI (iI (x.getD N ie).lo (iF d))=0
   .exact aaa x d x1 x8 hx hd h0 N h1 iH hM fun q=>by
     unfold uO at h2;rw[hM,q]at h2;exact absurd h2 ag 
   .exact Z9 x d x1 x8 hx hd h0 N h1 iH hM
  exact key.jW (.iw (.cons (.nil _ _ _) (.cons (.refl _) .nil)))
end Go.Proofs.YtdgnpeddgdclhaaGreatDoor
namespace Go.Proofs.YtdgnpeddgdclhaaGreatDoor.Pu
open Go.RowKit
theorem WI{bs br:Nat->Prop}{w:World}{xs:List Value}{a:Value}(h:iG bs br w (.agg (xs.map E.v)) a):a = .agg xs.toArray:=by
 generalize he:E.agg (xs.map E.v)=e at h;cases h with
 |agg l vs hl k=>
  cases he;rw[cS]at hl;have:vs=xs:=eU fun i=>by
   cases hx:xs[i]? with
   |none=>rw[List.getElem?_eq_none_iff]at hx ⊢;omega
   |some x=>
    obtain⟨v,hv⟩:∃ v,vs[i]? = some v:=by
     have hi:i<xs.length:=(bV.1 hx).1;exact⟨vs[i]'(ae),bd ae⟩
    rw[hv,iG.kJ (k i (.v x) v (by rw[cj,hx];rfl) hv)]
  rw[this]
 |_=>cases he
theorem Np{P:Program}{t:TypeId}{m D D':Nat}(hm:m<=10000)(hk:P.keyTypeAt m t=true)(hg:P.eqGuardType P.depth t=false){xs ys:List Value}{la lb:List Lit}
 (hx:P.keyLits D t xs=some la) (hy:P.keyLits D' t ys=some lb) (fx:(Value.agg xs.toArray).formed P t=true) (fy:(Value.agg ys.toArray).formed P t=true) {c:Bool} (hc:c=true↔la=lb):
 pz P .eql t (.agg (xs.map E.v)) (.agg (ys.map E.v)) (.bool c):=by
 intro bs br w a b ox oy ha hb;obtain rfl:=WI ha;obtain rfl:=WI hb;constructor
 .simp only[eqGuard,eP,bq,a6,Sem.run_bind,run_program,Result.andThen_ok,hg,dU,bk,Sem.run_pure]
 .obtain ⟨r,hr,aes⟩:=run_equalIn_deep (10000-m) m t hk w _ _ _ _ la lb fx fy (by simpa[Value.cells]using hx) (by simpa[Value.cells]using hy)
  rw[show 10000-m+m=10000 by omega]at hr;have e:r=c:=by rw[cQ,aes,hc]
  subst e;have:(Op.equal t (.agg xs.toArray) (.agg ys.toArray)).run P w = .ok r w:=hr;simp only[binOp,Sem.run_bind,this,Result.andThen_ok,Sem.run_pure]
end Go.Proofs.YtdgnpeddgdclhaaGreatDoor.Pu
namespace Go.Proofs.YtdgnpeddgdclhaaGreatDoor
open Go.RowKit Fp Pu
theorem Vm{t:TypeId}{m:Nat}(hm:m<=10000)(hk:Tryz.prog.keyTypeAt m t=true)(hg:Tryz.prog.eqGuardType Tryz.prog.depth t=false){xs:List Value}(hx:(Tryz.prog.keyLits 10 t xs).isSome=true)
 (fx:(Value.agg xs.toArray).formed Tryz.prog t=true):pz Tryz.prog .eql t (.agg (xs.map E.v)) (.agg (xs.map E.v)) (.bool true):=by
 obtain⟨l,hl⟩:=fZ.1 hx;exact Np hm hk hg hl hl fx fx aj 
theorem I9{a b c d e f:Int}(h:a=0/\b=0/\c=0/\d=0/\e=0/\f=0):
 pz Tryz.prog .eql 99 (.agg [iP a,iP b,iP c,iP d,iP e,iP f]) (.agg [iP 0,iP 0,iP 0,iP 0,iP 0,iP 0]) (.bool true):=by
 obtain⟨rfl,rfl,rfl,rfl,rfl,rfl⟩:=h;exact Vm (m:=10) (xs:=[.int .i64 0,.int .i64 0,.int .i64 0,.int .i64 0,.int .i64 0,.int .i64 0]) ag ah ah ah ah 
theorem No{a b:Int}(h:a=0/\b=0):pz Tryz.prog .eql 97 (.agg [iP a,iP b]) (.agg [iP 0,iP 0]) (.bool true):=by
 obtain⟨rfl,rfl⟩:=h;exact Vm (m:=10) (xs:=[.int .i64 0,.int .i64 0]) ag ah ah ah ah 
theorem Ae{d:Nat}{n:Int}(h:ku .i64 n):Tryz.prog.keyLits (d+1) 3 [.int .i64 n]=some [.int .i64 n]:=by
 have hw:(Lit.int .i64 n).wf=true:=by
  unfold ku at h;simp[Lit.wf,IntKind.min,IntKind.max,IntKind.signed,IntKind.bits];omega
 unfold Program.keyLits;rw[Tryz.underlying3];simp[hw]
theorem Wd{a b:Int}(ha:ku .i64 a)(hb:ku .i64 b):Tryz.prog.keyLits 10 97 [.int .i64 a,.int .i64 b]=some [.int .i64 a,.int .i64 b]:=by
 have c1:Tryz.prog.cellsOf 97=2:= ah ;have c2:Tryz.prog.cellsOf 3=1:= ah ;unfold Program.keyLits;rw[Tryz.underlying97];simp[c1,c2,eZ,Ae ha,Ae hb]
theorem Vl{a b:Int}{r:Bool}(ha:ku .i64 a)(hb:ku .i64 b)(h:decide (a=0/\b=0)=r):pz Tryz.prog .eql 97 (.agg [iP a,iP b]) (.agg [iP 0,iP 0]) (.bool r):=
 Np (m:=10) (xs:=[.int .i64 a,.int .i64 b]) (ys:=[.int .i64 0,.int .i64 0]) ag ah ah (Wd ha hb) (Wd aI aI) ah ah (by subst h;simp)
theorem ahg{a b c d e f a' b' c' d' e' f':Int}{r:Bool}(hx:Tryz.prog.keyLits 10 99 [.int .i64 a,.int .i64 b,.int .i64 c,.int .i64 d,.int .i64 e,.int .i64 f]=some [.int .i64 a,.int .i64 b,.int .i64 c,.int .i64 d,.int .i64 e,.int .i64 f])(hy:Tryz.prog.keyLits 10 99 [.int .i64 a',.int .i64 b',.int .i64 c',.int .i64 d',.int .i64 e',.int .i64 f']=some [.int .i64 a',.int .i64 b',.int .i64 c',.int .i64 d',.int .i64 e',.int .i64 f'])
 (fx:(Value.agg (List.toArray [.int .i64 a,.int .i64 b,.int .i64 c,.int .i64 d,.int .i64 e,.int .i64 f])).formed Tryz.prog 99=true) (fy:(Value.agg (List.toArray [.int .i64 a',.int .i64 b',.int .i64 c',.int .i64 d',.int .i64 e',.int .i64 f'])).formed Tryz.prog 99=true) (h:decide (a=a'/\b=b'/\c=c'/\d=d'/\e=e'/\f=f')=r):
 pz Tryz.prog .eql 99 (.agg [iP a,iP b,iP c,iP d,iP e,iP f]) (.agg [iP a',iP b',iP c',iP d',iP e',iP f']) (.bool r):=
 Np (m:=10) (xs:=[.int .i64 a,.int .i64 b,.int .i64 c,.int .i64 d,.int .i64 e,.int .i64 f]) (ys:=[.int .i64 a',.int .i64 b',.int .i64 c',.int .i64 d',.int .i64 e',.int .i64 f']) ag ah ah hx hy fx fy (by subst h;simp)
open Go.RowKit Fp Pu
theorem aj0{P:Program}(w:World)(t tx ty e:TypeId)(i:TypeInfo)(z:Value)(ht:P.underlying t=some (.slice e))(hx:P.underlying tx=some (.int .i64))(hi:P.info? e=some i)(hz:i.zero=some z)
 (xf:i.size≠0) (n:Nat) (h0:0<n) (xU:n<=1000000) (R6:n*i.bytes<=281474976710656):
 (Builtin.append_ #[t,tx] ty #[.slice none 0 0,.int .i64 (n:Int)]).run P w =
  .ok (.slice (some ⟨w.heap.size,0,none⟩) n (grownCap w n 0 e)) (w.drew.alloc (.cells (Builtin.zeroCells z.cells n++Builtin.zeroCells z.cells (grownCap w n 0 e-n)) e)):=by
 have hn:n≠0:= ae ;have hns:n*i.size≠0:=dr hn xf;have ad9:¬(9223372036854775807<(n:Int)):= ae ;have ad7:¬(281474976710656<Builtin.nextslicecap n 0*i.bytes):=by rw[nextslicecap_zero h0];omega
 have hw:IntKind.i64.wrap (n:Int)=n:=i64_in _ ae ae;have Ez:¬((n:Int)<0):= ae ;have ad8:¬(281474976710656<(n:Int)*(i.bytes:Int)):=by
  have:(n:Int)*(i.bytes:Int)=((n*i.bytes:Nat):Int):= aj ;rw[this];omega
 simp[Builtin.append_,run_underlying ht,run_underlying hx,sizeOf,typeInfo,zeroValue,hi,hz,asInt,asIntOf,hw,Ez,ad8,hn,hns,ad9,ad7,Question.forced,run_firstCells_none,newRow,grownCap]
theorem al3{P:Program}{w:World}{gW:Array Oper}{rest:List Oper}{o:Oper}{a:Act}{Q:Exit->Act->World->Prop}(Be:o.guard=none)(s x:Operand)(t tx:TypeId)
 (ho:o.op = .call { callee:=.builtin .append,args:=#[s,x],argTypes:=#[t,tx] })
 (e:TypeId) (i:TypeInfo) (z:Value) (ht:P.underlying t=some (.slice e)) (hx:P.underlying tx=some (.int .i64)) (hi:P.info? e=some i) (hz:i.zero=some z)
 (xf:i.size≠0) (n:Nat) (h0:0<n) (xU:n<=1000000) (R6:n*i.bytes<=281474976710656) (hs:a.eval s = .slice none 0 0) (hxx:a.eval x = .int .i64 (n:Int))
 (h:wpList P gW Q rest (a.put o.dst (.slice (some ⟨w.heap.size,0,none⟩) n (grownCap w n 0 e))) (w.drew.alloc (.cells (Builtin.zeroCells z.cells n++Builtin.zeroCells z.cells (grownCap w n 0 e-n)) e))):wpList P gW Q (o::rest) a w:=by
 refine wpList_plain Be fun K hK=>?_
 have lH:=aj0 (P:=P) w t tx o.type e i z ht hx hi hz xf n h0 xU R6;unfold Oper.wp;simp[execOp,ho,resolve,invoke,builtin,hs,hxx,lH,Result.andThen];exact hK _ _ h
theorem YU(w:World)(o:Obj):Below w.heap.size w (w.alloc o).drew:=⟨rfl,rfl,rfl,by rw[show(w.alloc o).drew.heap=w.heap.push o from rfl,Array.size_push];omega,fun x hx=>Below.heap_alloc w _ x hx⟩
theorem YV(w:World)(o:Obj):w.heap.size<(w.alloc o).drew.heap.size:=by rw[show(w.alloc o).drew.heap=w.heap.push o from rfl,Array.size_push];omega
theorem afi:(Tryz.prog.info? 41).map (fun i=>(i.zero,i.size,i.bytes))=some (some (.agg #[.bool false,.slice none 0 0,.int .i64 0,.bool false,.slice none 0 0,.int .i64 0,.bool false]),7,88):= ah 
theorem Yv(n:Nat):∀ u,u ∈ Builtin.zeroCells (Value.cells (.agg #[.bool false,.slice none 0 0,.int .i64 0,.bool false,.slice none 0 0,.int .i64 0,.bool false])) n->r6 u=false:=by
 intro u hu;simp only[Builtin.zeroCells,fD,fE]at hu;obtain⟨q,hq,rfl⟩:=hu;have hc:Value.cells (.agg #[.bool false,.slice none 0 0,.int .i64 0,.bool false,.slice none 0 0,.int .i64 0,.bool false]) = #[.bool false,.slice none 0 0,.int .i64 0,.bool false,.slice none 0 0,.int .i64 0,.bool false]:=rfl;rw[hc]at hq ⊢;have hs:(#[Value.bool false,.slice none 0 0,.int .i64 0,.bool false,.slice none 0 0,.int .i64 0,.bool false]:Array Value).size=7:=rfl;rw[hs];have h7:q%7<7:=bg _ ag;generalize q%7=k at h7;rcases k with _|_|_|_|_|_|_|k
 all_goals first|rfl|omega
set_option maxRecDepth 100000 in
theorem ad1(n:Nat)(hn:n<=1000000):uB Tryz.prog Tb 175 [.v (.slice none 0 0),iP (n:Int)] true 41 0 7 (ki []):=by
 refine⟨Tryz.call175,fun w B vs hK hB hr=>?_⟩;obtain⟨v1,vs,rfl,h1,hr⟩:=hr.lX;obtain⟨v2,vs,rfl,h2,hr⟩:=hr.lX;obtain rfl:=hr.pY;obtain rfl:=iG.kJ h1;obtain rfl:=iG.kJ h2;show Calls _ _ #[.slice none 0 0,.int .i64 (n:Int)] w _;clear h1 h2 hr hB hK;by_cases h0:n=0
 .subst h0
  go_enter Tryz.func175,Tryz.ntmps175;go_wp2;go_ret;exact⟨_,rfl,Below.refl _ _,fun _ _=>undef,.inl ⟨rfl,rfl⟩,fun x hx=>by simp[Value.ownBlock]at hx,fun i j hi=>absurd hi (bj _)⟩
 .obtain ⟨i,hi,hz,h1,h2⟩:=info_parts afi
  have hw:IntKind.i64.wrap ((n:Int)-0)=n:=i64_in _ ae ae;have IC:IntKind.i64.wrap (n:Int)=n:=i64_in _ ae ae;have e2:decide ((n:Int)<0)=false:=aT ae;have e3:decide ((0:Int)<(n:Int))=true:=aS ae;have CG:n<=grownCap w n 0 41:=grownCap_ge w n 0 _;go_enter Tryz.func175,Tryz.ntmps175;go_wp2_with (at_builtin;go_must (refine al3 ai _ _ _ _ ai _ i _ Tryz.underlying26 Tryz.underlying3 hi hz ae n ae ae (by rw[h2];omega) ai ai ?_))
  go_ret;have hz7:(#[Value.bool false,.slice none 0 0,.int .i64 0,.bool false,.slice none 0 0,.int .i64 0,.bool false]:Array Value).size=7:=rfl;refine⟨_,rfl,YU w _,fun _ _=>undef,.inr ⟨w.heap.size,grownCap w n 0 41,_,rfl,heap_alloc_new w _,bL _,grownCap_le_maxLen w n 0 _ (by unfold maxLen;omega),?_,fun i j hi=>absurd hi (bj _),fun _ u hu=>?_⟩,fun x hx=>?_,fun i j hi=>absurd hi (bj _)⟩
  .simp only[gQ,size_zeroCells,hz7,<-bK]
   congr 1;omega
  .rcases eW.1 hu with hu|hu
   .exact Yv _ u hu
   .exact Yv _ u hu
  .simp [Value.ownBlock]at hx
   subst hx;exact⟨aU _,YV w _⟩
open Go.RowKit Fp Pu
abbrev Gq(f:FuncId)(args:List E)(nl:Bool)(T:TypeId)(n sz:Nat)(el:Nat->Nat->E):Prop:=uB Tryz.prog Tb f args nl T n sz el
theorem trn{f:FuncId}{fn:Func}{args:List E}{nl:Bool}{T0:TypeId}{n sz:Nat}{el:Nat->Nat->E}(vS:∀ (vs:Array Value) (w:World),(callFunc f vs).run Tryz.prog w = .ok (.enter f vs) w)
 (hf:Tryz.prog.funcs[f]? = some fn) (t:Tr Tryz.prog Tb) (h:NR TT fn args (.row nl T0 n sz el) t=t.ex fun _=>.a (Bx.le (.row nl T0 n sz el) (.row nl T0 n sz el)) .nil):Gq f args nl T0 n sz el:=
 uB.OE J7 mixed O7 vS hf t h
open Go.RowKit Fp Pu
def XR(t:pg)(x:Nat):PS:=⟨46,true,[(28,.e (iP x)),(27,.e (iP t.gW.length)),(26,.e (nW t.gW)),(1,.box 1 0)],[(1,.cells 25 [(iP t.im),(nW t.gW),(nV t.ig)])]⟩
def XK(s:lM)(x:Nat):PS:=⟨85,true,[(31,.e (iP x)),(30,.e (iP s.tape.gW.length)),(29,.e (nW s.tape.gW)),(3,.box 3 0),(1,.box 1 0)],[(3,.cells 25 [(iP s.tape.im),(nW s.tape.gW),(nV s.tape.ig)]),(1,.cells 28 [(iP s.tape.im),(nW s.tape.gW),(nV s.tape.ig),(iP s.iA),(ik s.params)])]⟩
noncomputable def XQ(t:pg)(xs:List Iv)(p:Nat)(x:Nat):PS:=⟨75,true,[(26,.e (iP x)),(25,.e (iP t.gW.length)),(24,.e (nW t.gW)),(7,.own 22),(2,.e (iP p))],[(22,.row true 41 ((iQ t.gW xs p x).length) 7 (ki (iQ t.gW xs p x)))]⟩
theorem Vq(k:Nat)(h1:3<=k)(h2:k<=6):gV 209 [(iP k)] (iP 2):=by
 exact tr true Tryz.call209 Tryz.func209 (chain [tB 5 (aJ ae:((k:Int)==1)=false)]<|.w ((k:Int)=3)
  (fun k1=>chain [tB 7 (aK k1)]<|.nil)
  (fun k1=>chain [tB 7 (aJ k1)]<|.w ((k:Int)=4)
   (fun k2=>chain [tB 8 (aK k2)]<|.nil)
   (fun k2=>chain [tB 8 (aJ k2)]<|.w ((k:Int)=5)
    (fun k3=>chain [tB 9 (aK k3)]<|.nil)
    (fun k3=>chain [tB 9 (aJ k3)]<|.w ((k:Int)=6)
     (fun k4=>chain [tB 10 (aK k4)]<|.nil)
     (fun k4=>.x ae))))) ah 
theorem Nt(k:Nat)(h1:7<=k)(h2:k<=13):gV 209 [(iP k)] (iP 1):=by
 exact tr true Tryz.call209 Tryz.func209 (chain [tB 5 (aJ ae:((k:Int)==1)=false),tB 7 (aJ ae:((k:Int)==3)=false),tB 8 (aJ ae:((k:Int)==4)=false),tB 9 (aJ ae:((k:Int)==5)=false),tB 10 (aJ ae:((k:Int)==6)=false)]<|.w ((k:Int)=7)
  (fun k1=>chain [tB 12 (aK k1)]<|.nil)
  (fun k1=>chain [tB 12 (aJ k1)]<|.w ((k:Int)=8)
   (fun k2=>chain [tB 13 (aK k2)]<|.nil)
   (fun k2=>chain [tB 13 (aJ k2)]<|.w ((k:Int)=9)
    (fun k3=>chain [tB 14 (aK k3)]<|.nil)
    (fun k3=>chain [tB 14 (aJ k3)]<|.w ((k:Int)=10)
     (fun k4=>chain [tB 15 (aK k4)]<|.nil)
     (fun k4=>chain [tB 15 (aJ k4)]<|.w ((k:Int)=11)
      (fun k5=>chain [tB 16 (aK k5)]<|.nil)
      (fun k5=>chain [tB 16 (aJ k5)]<|.w ((k:Int)=12)
       (fun k6=>chain [tB 17 (aK k6)]<|.nil)
       (fun k6=>chain [tB 17 (aJ k6)]<|.w ((k:Int)=13)
        (fun k7=>chain [tB 18 (aK k7)]<|.nil)
        (fun k7=>.x ae)))))))) ah 
theorem Vp(k:Nat)(h1:k=1):gV 209 [(iP k)] (iP 0):=by
 exact tr true Tryz.call209 Tryz.func209 (chain [tB 5 (aK ae:((k:Int)==1)=true)]<|.nil) ah 
theorem ahh{a b:Int}(h:lJ a b=true):pz Tryz.prog .eql 97 (.agg [iP a,iP b]) (.agg [iP 0,iP 0]) (.bool false):=by
 obtain⟨h1,h2,h3,h4⟩:=FK h;exact Vl aI aI (aT ae)
theorem nn.Km{o:mV}{m:Nat}(h:nn o m)(oe:o.kind≠1)(hk:o.kind<=6):3<=o.kind/\o.a<m/\o.b<m/\o.n=0/\o.cn=0/\o.cd=0:=by
 have h3:=h.k3.resolve_left oe;have ha:=h.a;have hb:=h.b;have hn:=h.n;have hc:=h.c;rw[aQ oe]at ha hc;rw[aR ⟨h3,hk⟩]at hb;rw[aQ ae]at hn;exact⟨h3,ha,hb,hn,hc.1,hc.2⟩
theorem nn.pow{o:mV}{m:Nat}(h:nn o m)(hk:o.kind=8):o.a<m/\o.b=0/\o.n<=16/\o.cn=0/\o.cd=0:=by
 have ha:=h.a;have hb:=h.b;have hn:=h.n;have hc:=h.c;rw[aQ ae]at ha hb hc;rw[aR hk]at hn;exact⟨ha,hb,hn,hc.1,hc.2⟩
theorem nn.un{o:mV}{m:Nat}(h:nn o m)(hk:¬o.kind<=6)(tH:o.kind≠8):o.kind<=13/\o.a<m/\o.b=0/\o.n=0/\o.cn=0/\o.cd=0:=by
 have ha:=h.a;have hb:=h.b;have hn:=h.n;have hc:=h.c;rw[aQ ae]at ha hb hc;rw[aQ tH]at hn;exact⟨h.C3,ha,hb,hn,hc.1,hc.2⟩
theorem nn.num{o:mV}{m:Nat}(h:nn o m)(hk:o.kind=1):o.a=0/\o.b=0/\o.n=0/\lJ o.cn o.cd=true:=by
 have ha:=h.a;have hb:=h.b;have hn:=h.n;have hc:=h.c;rw[aR hk]at ha hc;rw[aQ ae]at hb hn;exact⟨ha,hb,hn,hc⟩
theorem nn.O8{o:mV}{m:Nat}(h:nn o m)(hk:o.kind≠1):o.a<m:=by
 have ha:=h.a;rwa[aQ hk]at ha
theorem ahJ(o:mV)(m:Nat)(h:nn o m)(hk:o.kind=1):gV 234 [(ve o),(iP m)] (bP true):=by
 obtain⟨h2,h3,h4,rY⟩:=h.num hk;exact tr true Tryz.call234 Tryz.func234 (chain [.c (Vp o.kind ae),tB 14 (ag:(decide ((0:Int)<0))=false),tB 17 (ag:((0:Int)==0)=true),.c (Jj o.cn o.cd),tB 20 (rY:(lJ o.cn o.cd)=true),tB 26 (aJ ae:((o.kind:Int)==8)=false),tB 37 (ag:(decide ((0:Int)<0))=false),tB 49 (ag:(decide ((1:Int)<0))=false),.g (I9 ⟨ae,ae,ae,ae,ae,ae⟩:pz Tryz.prog .eql 99 (.agg [(iP 0),(iP o.a),(iP o.b),(iP o.n),(iP 0),(iP 0)]) (.agg [(iP 0),(iP 0),(iP 0),(iP 0),(iP 0),(iP 0)]) (.bool true))]<|.nil) ah 
theorem ahI(o:mV)(m:Nat)(h:nn o m)(oe:o.kind≠1)(hk:o.kind<=6):gV 234 [(ve o),(iP m)] (bP true):=by
 obtain⟨h1,h2,h3,h4,h5,h6⟩:=h.Km oe hk;exact tr true Tryz.call234 Tryz.func234 (chain [.c (Vq o.kind ae ae),tB 14 (ag:(decide ((2:Int)<0))=false),tB 17 (ag:((2:Int)==0)=false),tB 26 (aJ ae:((o.kind:Int)==8)=false),tB 37 (ag:(decide ((0:Int)<2))=true),tF 40 ((o.a:Int)<0) ae,tF 45 ((m:Int)<=(o.a:Int)) ae,tB 49 (ag:(decide ((1:Int)<2))=true),tF 52 ((o.b:Int)<0) ae,tF 57 ((m:Int)<=(o.b:Int)) ae,.g (I9 ⟨ae,ae,ae,ae,ae,ae⟩:pz Tryz.prog .eql 99 (.agg [(iP 0),(iP 0),(iP 0),(iP o.n),(iP o.cn),(iP o.cd)]) (.agg [(iP 0),(iP 0),(iP 0),(iP 0),(iP 0),(iP 0)]) (.bool true))]<|.nil) ah 
theorem ahL(o:mV)(m:Nat)(h:nn o m)(hk:o.kind=8):gV 234 [(ve o),(iP m)] (bP true):=by
 obtain⟨h2,h3,h4,h5,h6⟩:=h.pow hk;exact tr true Tryz.call234 Tryz.func234 (chain [.c (Nt o.kind ae ae),tB 14 (ag:(decide ((1:Int)<0))=false),tB 17 (ag:((1:Int)==0)=false),tB 26 (aK ae:((o.kind:Int)==8)=true),tF 29 ((o.n:Int)<0) ae,tF 33 (16<(o.n:Int)) ae,tB 37 (ag:(decide ((0:Int)<1))=true),tF 40 ((o.a:Int)<0) ae,tF 45 ((m:Int)<=(o.a:Int)) ae,tB 49 (ag:(decide ((1:Int)<1))=false),.g (I9 ⟨ae,ae,ae,ae,ae,ae⟩:pz Tryz.prog .eql 99 (.agg [(iP 0),(iP 0),(iP o.b),(iP 0),(iP o.cn),(iP o.cd)]) (.agg [(iP 0),(iP 0),(iP 0),(iP 0),(iP 0),(iP 0)]) (.bool true))]<|.nil) ah 
theorem ahM(o:mV)(m:Nat)(h:nn o m)(hk:¬o.kind<=6)(tH:o.kind≠8):gV 234 [(ve o),(iP m)] (bP true):=by
 obtain⟨h1,h2,h3,h4,h5,h6⟩:=h.un hk tH;exact tr true Tryz.call234 Tryz.func234 (chain [.c (Nt o.kind ae ae),tB 14 (ag:(decide ((1:Int)<0))=false),tB 17 (ag:((1:Int)==0)=false),tB 26 (aJ ae:((o.kind:Int)==8)=false),tB 37 (ag:(decide ((0:Int)<1))=true),tF 40 ((o.a:Int)<0) ae,tF 45 ((m:Int)<=(o.a:Int)) ae,tB 49 (ag:(decide ((1:Int)<1))=false),.g (I9 ⟨ae,ae,ae,ae,ae,ae⟩:pz Tryz.prog .eql 99 (.agg [(iP 0),(iP 0),(iP o.b),(iP o.n),(iP o.cn),(iP o.cd)]) (.agg [(iP 0),(iP 0),(iP 0),(iP 0),(iP 0),(iP 0)]) (.bool true))]<|.nil) ah 
theorem akV(o:mV)(m:Nat)(h:nn o m)(hk:o.kind=1):gV 133 [(ve o),(iP m)] (bP true):=by
 obtain⟨h2,h3,h4,rY⟩:=h.num hk;exact tr true Tryz.call133 Tryz.func133 (chain [tF 8 ((o.a:Int)<0) ae,tF 12 ((o.b:Int)<0) ae,.g (ahh rY:pz Tryz.prog .eql 97 (.agg [(iP o.cn),(iP o.cd)]) (.agg [(iP 0),(iP 0)]) (.bool false)),tB 21 (aK ae:((o.kind:Int)==1)=true),.c (Jj o.cn o.cd),tB 24 (rY:(lJ o.cn o.cd)=true),tB 28 (aK ae:((o.a:Int)==0)=true),tB 33 (aK ae:((o.b:Int)==0)=true),tB 38 (aK ae:((o.n:Int)==0)=true)]<|.nil) ah 
theorem akU(o:mV)(m:Nat)(h:nn o m)(oe:o.kind≠1)(hk:o.kind<=6):gV 133 [(ve o),(iP m)] (bP true):=by
 obtain⟨h1,h2,h3,h4,h5,h6⟩:=h.Km oe hk;exact tr true Tryz.call133 Tryz.func133 (chain [tF 8 ((o.a:Int)<0) ae,tF 12 ((o.b:Int)<0) ae,.g (No ⟨ae,ae⟩:pz Tryz.prog .eql 97 (.agg [(iP o.cn),(iP o.cd)]) (.agg [(iP 0),(iP 0)]) (.bool true)),tB 21 (aJ ae:((o.kind:Int)==1)=false)]<|.w ((o.kind:Int)=3)
  (fun k1=>chain [tB 41 (aK k1),tT 50 ((o.a:Int)<(m:Int)) ae,tT 56 ((o.b:Int)<(m:Int)) ae,tB 61 (aK ae:((o.n:Int)==0)=true)]<|.nil)
  (fun k1=>chain [tB 41 (aJ k1)]<|.w ((o.kind:Int)=4)
   (fun k2=>chain [tB 42 (aK k2),tT 50 ((o.a:Int)<(m:Int)) ae,tT 56 ((o.b:Int)<(m:Int)) ae,tB 61 (aK ae:((o.n:Int)==0)=true)]<|.nil)
   (fun k2=>chain [tB 42 (aJ k2)]<|.w ((o.kind:Int)=5)
    (fun k3=>chain [tB 43 (aK k3),tT 50 ((o.a:Int)<(m:Int)) ae,tT 56 ((o.b:Int)<(m:Int)) ae,tB 61 (aK ae:((o.n:Int)==0)=true)]<|.nil)
    (fun k3=>chain [tB 43 (aJ k3)]<|.w ((o.kind:Int)=6)
     (fun k4=>chain [tB 44 (aK k4),tT 50 ((o.a:Int)<(m:Int)) ae,tT 56 ((o.b:Int)<(m:Int)) ae,tB 61 (aK ae:((o.n:Int)==0)=true)]<|.nil)
     (fun k4=>.x ae))))) ah 
theorem akX(o:mV)(m:Nat)(h:nn o m)(hk:o.kind=8):gV 133 [(ve o),(iP m)] (bP true):=by
 obtain⟨h2,h3,h4,h5,h6⟩:=h.pow hk;exact tr true Tryz.call133 Tryz.func133 (chain [tF 8 ((o.a:Int)<0) ae,tF 12 ((o.b:Int)<0) ae,.g (No ⟨ae,ae⟩:pz Tryz.prog .eql 97 (.agg [(iP o.cn),(iP o.cd)]) (.agg [(iP 0),(iP 0)]) (.bool true)),tB 21 (aJ ae:((o.kind:Int)==1)=false),tB 41 (aJ ae:((o.kind:Int)==3)=false),tB 42 (aJ ae:((o.kind:Int)==4)=false),tB 43 (aJ ae:((o.kind:Int)==5)=false),tB 44 (aJ ae:((o.kind:Int)==6)=false),tB 64 (aK ae:((o.kind:Int)==8)=true),tT 70 ((o.a:Int)<(m:Int)) ae,tB 75 (aK ae:((o.b:Int)==0)=true),tT 80 (0<=(o.n:Int)) ae,tT 85 ((o.n:Int)<=16) ae]<|.nil) ah 
theorem akY(o:mV)(m:Nat)(h:nn o m)(hk:¬o.kind<=6)(tH:o.kind≠8):gV 133 [(ve o),(iP m)] (bP true):=by
 obtain⟨h1,h2,h3,h4,h5,h6⟩:=h.un hk tH;exact tr true Tryz.call133 Tryz.func133 (chain [tF 8 ((o.a:Int)<0) ae,tF 12 ((o.b:Int)<0) ae,.g (No ⟨ae,ae⟩:pz Tryz.prog .eql 97 (.agg [(iP o.cn),(iP o.cd)]) (.agg [(iP 0),(iP 0)]) (.bool true)),tB 21 (aJ ae:((o.kind:Int)==1)=false),tB 41 (aJ ae:((o.kind:Int)==3)=false),tB 42 (aJ ae:((o.kind:Int)==4)=false),tB 43 (aJ ae:((o.kind:Int)==5)=false),tB 44 (aJ ae:((o.kind:Int)==6)=false),tB 64 (aJ ae:((o.kind:Int)==8)=false)]<|.w ((o.kind:Int)=7)
  (fun k1=>chain [tB 88 (aK k1),tT 99 ((o.a:Int)<(m:Int)) ae,tB 104 (aK ae:((o.b:Int)==0)=true),tB 109 (aK ae:((o.n:Int)==0)=true)]<|.nil)
  (fun k1=>chain [tB 88 (aJ k1)]<|.w ((o.kind:Int)=9)
   (fun k2=>chain [tB 89 (aK k2),tT 99 ((o.a:Int)<(m:Int)) ae,tB 104 (aK ae:((o.b:Int)==0)=true),tB 109 (aK ae:((o.n:Int)==0)=true)]<|.nil)
   (fun k2=>chain [tB 89 (aJ k2)]<|.w ((o.kind:Int)=10)
    (fun k3=>chain [tB 90 (aK k3),tT 99 ((o.a:Int)<(m:Int)) ae,tB 104 (aK ae:((o.b:Int)==0)=true),tB 109 (aK ae:((o.n:Int)==0)=true)]<|.nil)
    (fun k3=>chain [tB 90 (aJ k3)]<|.w ((o.kind:Int)=11)
     (fun k4=>chain [tB 91 (aK k4),tT 99 ((o.a:Int)<(m:Int)) ae,tB 104 (aK ae:((o.b:Int)==0)=true),tB 109 (aK ae:((o.n:Int)==0)=true)]<|.nil)
     (fun k4=>chain [tB 91 (aJ k4)]<|.w ((o.kind:Int)=12)
      (fun k5=>chain [tB 92 (aK k5),tT 99 ((o.a:Int)<(m:Int)) ae,tB 104 (aK ae:((o.b:Int)==0)=true),tB 109 (aK ae:((o.n:Int)==0)=true)]<|.nil)
      (fun k5=>chain [tB 92 (aJ k5)]<|.w ((o.kind:Int)=13)
       (fun k6=>chain [tB 93 (aK k6),tT 99 ((o.a:Int)<(m:Int)) ae,tB 104 (aK ae:((o.b:Int)==0)=true),tB 109 (aK ae:((o.n:Int)==0)=true)]<|.nil)
       (fun k6=>.x ae))))))) ah 
theorem ahK(o:mV)(m:Nat)(h:nn o m):gV 234 [ve o,iP (m:Int)] (bP true):=by
 by_cases oe:o.kind=1
 .exact ahJ o m h oe
 by_cases hk:o.kind<=6
 .exact ahI o m h oe hk
 .by_cases tH:o.kind=8
  .exact ahL o m h tH
  .exact ahM o m h hk tH
theorem akW(o:mV)(m:Nat)(h:nn o m):gV 133 [ve o,iP (m:Int)] (bP true):=by
 by_cases oe:o.kind=1
 .exact akV o m h oe
 by_cases hk:o.kind<=6
 .exact akU o m h oe hk
 .by_cases tH:o.kind=8
  .exact akX o m h tH
  .exact akY o m h hk tH
theorem alf(t:pg)(k:Nat)(hk:k<t.im+t.gW.length)(h8:t.im<=8)(ad6:t.gW.length<=200):gV 235 [(iP k),(.kv 3 fun j_=>[(iP t.im),(nW t.gW),(nV t.ig)].getD j_ .any)] (bP false):=by
 exact tr true Tryz.call235 Tryz.func235 (chain [tF 5 ((k:Int)<0) ae,iq ((t.im:Int)+(t.gW.length:Int)) ae,tF 14 ((((t.im+t.gW.length):Nat):Int)<=(k:Int)) ae]<|.nil) ah 
theorem XS(t:pg)(h:ze t):gV 207 [(yW t)] (bP true):=by
 have h8:=h.im;have Bi:=h.gW;have mS:=h.ig;exact tr true Tryz.call207 Tryz.func207 (chain [tF 7 ((t.im:Int)<0) ae,tF 11 (8<(t.im:Int)) ae,tF 17 (200<(t.gW.length:Int)) ae,tF 23 (200<(t.ig.length:Int)) ae,.s (Sp.jv (XR t) 0 t.gW.length ae (fun x hx kf=>by
    have iE:=h.op x ae;exact iB (chain [tT 29 ((x:Int)<(t.gW.length:Int)) ae,iX ((x:Int)) (t.gW.length) ae,iq ((t.im:Int)+(x:Int)) ae,.c (ahK _ _ iE:gV 234 [(ve (t.gW.getD x iR)),(iP (((t.im+x):Nat):Int))] _),iq ((x:Int)+1) ae]<|.nil) ah)
  (fun hx=>by
    exact iB (chain [tF 29 ((t.gW.length:Int)<(t.gW.length:Int)) ae]<|.nil) ah) ak:jq 4 Tryz.f207 (XR t 0) (.exit 0) ⟨46,true,[(1,.box 1 0)],[(1,.cells 25 [(iP t.im),(nW t.gW),(nV t.ig)])]⟩) .nil,.c (MD true _ _ 235 [(.kv 3 fun j_=>[(iP t.im),(nW t.gW),(nV t.ig)].getD j_ .any)] (fun _=>false) (fun i hi=>alf t _ (h.out i hi) h8 Bi) ae (fun _ _=>rfl):gV 134 [(nV t.ig),(.fn 235 [(.kv 3 fun j_=>[(iP t.im),(nW t.gW),(nV t.ig)].getD j_ .any)])] _)]<|.nil) ah 
theorem ak0(t:pg)(k:Nat)(hk:k<t.im+t.gW.length)(h8:t.im<=8)(ad6:t.gW.length<=200):gV 135 [(iP k),(.kv 3 fun j_=>[(iP t.im),(nW t.gW),(nV t.ig)].getD j_ .any)] (bP false):=by
 exact tr true Tryz.call135 Tryz.func135 (chain [tF 5 ((k:Int)<0) ae,iq ((t.im:Int)+(t.gW.length:Int)) ae,tF 14 ((((t.im+t.gW.length):Nat):Int)<=(k:Int)) ae]<|.nil) ah 
theorem ak2(x:Iv)(hx:x.ib)(xa:x.all=false):gV 136 [(gZ x)] (bP false):=by
 obtain⟨w1,w2,w3⟩:=oW hx xa;exact tr true Tryz.call136 Tryz.func136 (chain [tB 4 (xa:x.all=false),.c (qg _ af:gV 68 [(gY x.lo)] _),.c (qg _ af:gV 68 [(gY x.hi)] _),.c (nS _ _ af af:gV 37 [(gY x.lo),(gY x.hi)] _),tF 23 (0<(jm x.lo x.hi)) ae]<|.nil) ah 
theorem Oz(s:lM)(h:nJ s):gV 82 [(jF s)] (bP true):=by
 have h8:=h.tape.im;have Bi:=h.tape.gW;have mS:=h.tape.ig;have s1:=h.s1;have s4:=h.s4;have ho:=h.ig;have hi:=h.im;have p4:=h.p4;exact tr true Tryz.call82 Tryz.func82 (chain [tF 10 ((s.tape.im:Int)<0) ae,tF 14 (8<(s.tape.im:Int)) ae,tF 20 (200<(s.tape.gW.length:Int)) ae,tF 26 (200<(s.tape.ig.length:Int)) ae,.s (Sp.jv (XK s) 0 s.tape.gW.length ae (fun x hx kf=>by
    have iE:=h.tape.op x ae;exact iB (chain [tT 32 ((x:Int)<(s.tape.gW.length:Int)) ae,iX ((x:Int)) (s.tape.gW.length) ae,iq ((s.tape.im:Int)+(x:Int)) ae,.c (akW _ _ iE:gV 133 [(ve (s.tape.gW.getD x iR)),(iP (((s.tape.im+x):Nat):Int))] _),iq ((x:Int)+1) ae]<|.nil) ah)
  (fun hx=>by
    exact iB (chain [tF 32 ((s.tape.gW.length:Int)<(s.tape.gW.length:Int)) ae]<|.nil) ah) ak:jq 5 Tryz.f82 (XK s 0) (.exit 0) ⟨85,true,[(3,.box 3 0),(1,.box 1 0)],[(3,.cells 25 [(iP s.tape.im),(nW s.tape.gW),(nV s.tape.ig)]),(1,.cells 28 [(iP s.tape.im),(nW s.tape.gW),(nV s.tape.ig),(iP s.iA),(ik s.params)])]⟩) .nil,.c (MD true _ _ 135 [(.kv 3 fun j_=>[(iP s.tape.im),(nW s.tape.gW),(nV s.tape.ig)].getD j_ .any)] (fun _=>false) (fun i hi=>ak0 s.tape _ (h.tape.out i hi) h8 Bi) ae (fun _ _=>rfl):gV 134 [(nV s.tape.ig),(.fn 135 [(.kv 3 fun j_=>[(iP s.tape.im),(nW s.tape.gW),(nV s.tape.ig)].getD j_ .any)])] _),tF 50 ((s.iA:Int)<1) ae,tF 54 (4<(s.iA:Int)) ae,tB 62 (BF ae:((s.tape.ig.length:Int) != (s.iA:Int))=false),
  iq ((s.iA:Int)+(s.params.length:Int)) ae,tB 73 (BF ae:((s.tape.im:Int) != (((s.iA+s.params.length):Nat):Int))=false),tF 79 (4<(s.params.length:Int)) ae,.c (Af true _ _ 136 [] (fun _=>false) (fun i hi=>ak2 _ (h.params i hi).1 (h.params i hi).2) ae (fun _ _=>rfl):gV 17 [(ik s.params),(.fn 136 [])] _)]<|.nil) ah 
theorem Po(o:mV)(x y:Iv)(p:Nat)(hx:x.ib)(hy:y.ib)(r1:3<=o.kind)(r2:o.kind<=13)(r3:o.n<=16)(il:8<=p)(ic:p<=512):gV 211 [(iP o.kind),(iP o.n),(gZ x),(gZ y),(iP p)] (gZ (kG o x y p)):=by
 exact tr true Tryz.call211 Tryz.func211 (.w ((o.kind:Int)=3)
  (fun k1=>chain [tB 13 (aK k1),.c (C0 x y p af af ae ae)]<|rQ (gZ (jj x y p)) (gZ (kG o x y p)) (by unfold kG;simp[show o.kind=3 from ae]))
  (fun k1=>chain [tB 13 (aJ k1)]<|.w ((o.kind:Int)=4)
   (fun k2=>chain [tB 19 (aK k2),.c (afH x y p af af ae ae)]<|rQ (gZ (FY x y p)) (gZ (kG o x y p)) (by unfold kG;simp[show ¬o.kind=3 from ae,show o.kind=4 from ae]))
   (fun k2=>chain [tB 19 (aJ k2)]<|.w ((o.kind:Int)=5)
    (fun k3=>chain [tB 25 (aK k3),.c (ET x y p af af ae ae)]<|rQ (gZ (iN x y p)) (gZ (kG o x y p)) (by unfold kG;simp[show ¬o.kind=3 from ae,show ¬o.kind=4 from ae,show o.kind=5 from ae]))
    (fun k3=>chain [tB 25 (aJ k3)]<|.w ((o.kind:Int)=6)
     (fun k4=>chain [tB 31 (aK k4),.c (TY x y p af af ae ae)]<|rQ (gZ (jS x y p)) (gZ (kG o x y p)) (by unfold kG;simp[show ¬o.kind=3 from ae,show ¬o.kind=4 from ae,show ¬o.kind=5 from ae,show o.kind=6 from ae]))
     (fun k4=>chain [tB 31 (aJ k4)]<|.w ((o.kind:Int)=7)
      (fun k5=>chain [tB 37 (aK k5),.c (T5 x af)]<|rQ (gZ (qD x)) (gZ (kG o x y p)) (by unfold kG;simp[show ¬o.kind=3 from ae,show ¬o.kind=4 from ae,show ¬o.kind=5 from ae,show ¬o.kind=6 from ae,show o.kind=7 from ae]))
      (fun k5=>chain [tB 37 (aJ k5)]<|.w ((o.kind:Int)=8)
       (fun k6=>chain [tB 41 (aK k6),.c (ZF _ _ _ af ae ae ae:gV 241 [(gZ x),(iP o.n),(iP p)] _)]<|rQ (gZ (mg x o.n p)) (gZ (kG o x y p)) (by unfold kG;simp[show ¬o.kind=3 from ae,show ¬o.kind=4 from ae,show ¬o.kind=5 from ae,show ¬o.kind=6 from ae,show ¬o.kind=7 from ae,show o.kind=8 from ae]))
       (fun k6=>chain [tB 41 (aJ k6)]<|.w ((o.kind:Int)=9)
        (fun k7=>chain [tB 47 (aK k7),.c (acQ _ af _ ae ae:gV 242 [(gZ x),(iP p)] _)]<|rQ (gZ (Cs x p)) (gZ (kG o x y p)) (by unfold kG;simp[show ¬o.kind=3 from ae,show ¬o.kind=4 from ae,show ¬o.kind=5 from ae,show ¬o.kind=6 from ae,show ¬o.kind=7 from ae,show ¬o.kind=8 from ae,show o.kind=9 from ae]))
        (fun k7=>chain [tB 47 (aJ k7)]<|.w ((o.kind:Int)=10)
         (fun k8=>chain [tB 52 (aK k8),.c (acS _ af _ ae ae:gV 243 [(gZ x),(iP p)] _)]<|rQ (gZ (Ct x p)) (gZ (kG o x y p)) (by unfold kG;simp[show ¬o.kind=3 from ae,show ¬o.kind=4 from ae,show ¬o.kind=5 from ae,show ¬o.kind=6 from ae,show ¬o.kind=7 from ae,show ¬o.kind=8 from ae,show ¬o.kind=9 from ae,show o.kind=10 from ae]))
         (fun k8=>chain [tB 52 (aJ k8)]<|.w ((o.kind:Int)=11)
          (fun k9=>chain [tB 57 (aK k9),.c (acU _ af _ ae ae:gV 244 [(gZ x),(iP p)] _)]<|rQ (gZ (Cu x p)) (gZ (kG o x y p)) (by unfold kG;simp[show ¬o.kind=3 from ae,show ¬o.kind=4 from ae,show ¬o.kind=5 from ae,show ¬o.kind=6 from ae,show ¬o.kind=7 from ae,show ¬o.kind=8 from ae,show ¬o.kind=9 from ae,show ¬o.kind=10 from ae,show o.kind=11 from ae]))
          (fun k9=>chain [tB 57 (aJ k9)]<|.w ((o.kind:Int)=12)
           (fun k10=>chain [tB 62 (aK k10),.c (acO _ af _ ae ae:gV 245 [(gZ x),(iP p)] _)]<|rQ (gZ (Cr x p)) (gZ (kG o x y p)) (by unfold kG;simp[show ¬o.kind=3 from ae,show ¬o.kind=4 from ae,show ¬o.kind=5 from ae,show ¬o.kind=6 from ae,show ¬o.kind=7 from ae,show ¬o.kind=8 from ae,show ¬o.kind=9 from ae,show ¬o.kind=10 from ae,show ¬o.kind=11 from ae,show o.kind=12 from ae]))
           (fun k10=>chain [tB 62 (aJ k10)]<|.w ((o.kind:Int)=13)
            (fun k11=>chain [tB 67 (aK k11),.c (acW _ af _ ae ae:gV 246 [(gZ x),(iP p)] _)]<|rQ (gZ (Cv x p)) (gZ (kG o x y p)) (by unfold kG;simp[show ¬o.kind=3 from ae,show ¬o.kind=4 from ae,show ¬o.kind=5 from ae,show ¬o.kind=6 from ae,show ¬o.kind=7 from ae,show ¬o.kind=8 from ae,show ¬o.kind=9 from ae,show ¬o.kind=10 from ae,show ¬o.kind=11 from ae,show ¬o.kind=12 from ae,show o.kind=13 from ae]))
            (fun k11=>.x ae)))))))))))) ah 
theorem Qa{nl:Bool}{T n n' sz:Nat}{f g h:Nat->Nat->E}(hn:n=n')(hh:∀ i j,i<n->j<sz->g i j=h i j/\(h i j).nr 2=true):Bx.le (.row nl T (0+n) sz fun i j=>if i<0 then f i j else g (i-0) j) (.row nl T n' sz h):=
 .row ae fun i j hi hj=>by
  have oL:i<n:= ae ;simp only[bj,a6,dh];exact⟨.iS (hh i j oL hj).1,(hh i j oL hj).2⟩
theorem Y9(r:List Iv)(h0:0<r.length)(hl:r.length<=1000):Gq 28 [ik r] true 41 r.length 7 (ki r):=by
 exact trn Tryz.call28 Tryz.func28 (chain [.a (ae:0<r.length),.bo,.a (ae:(0+r.length)*88<=140737488355328)]<|.rb (Qa rfl fun i j hi hj=>⟨rfl,C1 _ _ hj⟩:Bx.le (.row true 41 (0+r.length) 7 (fun i_ j_=>if i_<0 then(fun i_ j_=>([]:List E).getD (i_*7+j_) (.v (.bool false))) i_ j_ else(E.lZ (ik r)) (i_-0) j_)) (.row true 41 r.length 7 (ki r)))) ah 
theorem F9{T n n' x:Nat}{t:pg}{xs:List Iv}{p:Nat}{y:Iv}(hn:n=(iQ t.gW xs p x).length)(vX:n'=(iQ t.gW xs p (x+1)).length)(hy:ss (t.gW.getD x iR) (iQ t.gW xs p x) p=y):
 Bx.le (.row true T (n+[y].length) 7 fun i j=>if i<n then ki (iQ t.gW xs p x) i j else(E.lZ (ik [y])) (i-n) j) (.row true T n' 7 (ki (iQ t.gW xs p (x+1)))):=by
 subst vX hy;exact afQ hn
theorem Vo{o:mV}{m:Nat}(h:nn o m):o.n<=16:=by
 have:=h.n;split at this<;>omega
theorem ald(t:pg)(xs:List Iv)(p:Nat)(h:ze t)(h1:1<=xs.length)(hx:xs.length=t.im)(hv:ph xs)(il:8<=p)(ic:p<=512):gV 173 [(yW t),(ik xs),(iP p)] (ik (iQ t.gW xs p t.gW.length)):=by
 have h8:=h.im;have Bi:=h.gW;exact tr true Tryz.call173 Tryz.func173 (chain [.c (XS t af),tB 19 (BF hx:((xs.length:Int) != (t.im:Int))=false),.cn (Y9 _ ae ae:Gq 28 [(ik xs)] true 41 xs.length 7 (ki xs)),.s (Sp.jv (XQ t xs p) 0 t.gW.length ae (fun x hx kf=>by
    have iE:=h.op x ae;have tW:=Ga t.gW hv (show 1<=p by omega) (show p<=4096 by omega) x;have Ma:=F8 t.gW xs p x;have w1:=tW ((t.gW.getD x iR)).a;by_cases oe:((t.gW.getD x iR)).kind=1
    .have qV:((t.gW.getD x iR)).kind=1:=oe
     obtain⟨o1,o2,o3,rY⟩:=iE.num qV;have wb:ss (t.gW.getD x iR) (iQ t.gW xs p x) p=(nF (t.gW.getD x iR).cn (t.gW.getD x iR).cd p):=by unfold ss;rw[aR qV]
     have tN:=th (nF (t.gW.getD x iR).cn (t.gW.getD x iR).cd p);exact iB (chain [tT 27 ((x:Int)<(t.gW.length:Int)) ae,iX ((x:Int)) (t.gW.length) ae,.c (Vp ((t.gW.getD x iR).kind:Nat) ae),tB 50 (ag:((0:Int)==0)=true),.c (aiM ((t.gW.getD x iR).cn) ((t.gW.getD x iR).cd) p af ae ae),.o 71 (.e (mz _):PV.le (.e (.sl true 1 7 fun i_ j_=>(iY (nF ((t.gW.getD x iR).cn) ((t.gW.getD x iR).cd) p)).getD (i_*7+j_) (.v (.bool false)))) (.e (ik [(nF ((t.gW.getD x iR).cn) ((t.gW.getD x iR).cd) p)]))),.a (ae:((iQ t.gW xs p x).length+[(nF ((t.gW.getD x iR).cn) ((t.gW.getD x iR).cd) p)].length)*88<=140737488355328),iq ((x:Int)+1) ae]<|.e (chain [.b 22 (F9 rfl rfl wb:Bx.le (.row true 41 ((iQ t.gW xs p x).length+[(nF ((t.gW.getD x iR).cn) ((t.gW.getD x iR).cd) p)].length) 7 (fun i_ j_=>if i_<(iQ t.gW xs p x).length then(ki (iQ t.gW xs p x)) i_ j_ else(E.lZ (ik [(nF ((t.gW.getD x iR).cn) ((t.gW.getD x iR).cd) p)])) (i_-(iQ t.gW xs p x).length) j_)) (.row true 41 ((iQ t.gW xs p (x+1)).length) 7 (ki (iQ t.gW xs p (x+1)))))]<|.nil)) ah 
    .by_cases hk:((t.gW.getD x iR)).kind<=6
     .have yd:((t.gW.getD x iR)).kind≠1:=oe
      have qV:((t.gW.getD x iR)).kind<=6:=hk;have wb:ss (t.gW.getD x iR) (iQ t.gW xs p x) p=(kG (t.gW.getD x iR) ((iQ t.gW xs p x).getD ((t.gW.getD x iR).a) ie) ((iQ t.gW xs p x).getD ((t.gW.getD x iR).b) ie) p):=by unfold ss GG;rw[aQ yd,aS qV];rfl
      obtain⟨o1,o2,o3,o4,o5,o6⟩:=iE.Km yd qV;have w2:=tW ((t.gW.getD x iR)).b;have o7:=iE.C3;have tN:=th (kG (t.gW.getD x iR) ((iQ t.gW xs p x).getD ((t.gW.getD x iR).a) ie) ((iQ t.gW xs p x).getD ((t.gW.getD x iR).b) ie) p);exact iB (chain [tT 27 ((x:Int)<(t.gW.length:Int)) ae,iX ((x:Int)) (t.gW.length) ae,.c (Vq ((t.gW.getD x iR).kind:Nat) ae ae),tB 50 (ag:((2:Int)==0)=false),tB 56 (ag:((2:Int)==1)=false),iX (((t.gW.getD x iR).a:Int)) ((iQ t.gW xs p x).length) ae,.a (ae:(t.gW.getD x iR).a<(iQ t.gW xs p x).length),
       iX (((t.gW.getD x iR).b:Int)) ((iQ t.gW xs p x).length) ae,.a (ae:(t.gW.getD x iR).b<(iQ t.gW xs p x).length),.c (Po (t.gW.getD x iR) _ _ _ af af ae ae ae ae ae:gV 211 [(iP ((t.gW.getD x iR).kind:Int)),(iP ((t.gW.getD x iR).n:Int)),(gZ ((iQ t.gW xs p x).getD (t.gW.getD x iR).a ie)),(gZ ((iQ t.gW xs p x).getD (t.gW.getD x iR).b ie)),(iP p)] _),.o 71 (.e (mz _):PV.le (.e (.sl true 1 7 fun i_ j_=>(iY (kG (t.gW.getD x iR) ((iQ t.gW xs p x).getD (t.gW.getD x iR).a ie) ((iQ t.gW xs p x).getD (t.gW.getD x iR).b ie) p)).getD (i_*7+j_) (.v (.bool false)))) (.e (ik [(kG (t.gW.getD x iR) ((iQ t.gW xs p x).getD (t.gW.getD x iR).a ie) ((iQ t.gW xs p x).getD (t.gW.getD x iR).b ie) p)]))),.a (ae:((iQ t.gW xs p x).length+[(kG (t.gW.getD x iR) ((iQ t.gW xs p x).getD (t.gW.getD x iR).a ie) ((iQ t.gW xs p x).getD (t.gW.getD x iR).b ie) p)].length)*88<=140737488355328),
       iq ((x:Int)+1) ae]<|.e (chain [.b 22 (F9 rfl rfl wb:Bx.le (.row true 41 ((iQ t.gW xs p x).length+[(kG (t.gW.getD x iR) ((iQ t.gW xs p x).getD (t.gW.getD x iR).a ie) ((iQ t.gW xs p x).getD (t.gW.getD x iR).b ie) p)].length) 7 (fun i_ j_=>if i_<(iQ t.gW xs p x).length then(ki (iQ t.gW xs p x)) i_ j_ else(E.lZ (ik [(kG (t.gW.getD x iR) ((iQ t.gW xs p x).getD (t.gW.getD x iR).a ie) ((iQ t.gW xs p x).getD (t.gW.getD x iR).b ie) p)])) (i_-(iQ t.gW xs p x).length) j_)) (.row true 41 ((iQ t.gW xs p (x+1)).length) 7 (ki (iQ t.gW xs p (x+1)))))]<|.nil)) ah 
     .have yd:((t.gW.getD x iR)).kind≠1:=oe
      have qV:¬((t.gW.getD x iR)).kind<=6:=hk;have wb:ss (t.gW.getD x iR) (iQ t.gW xs p x) p=(kG (t.gW.getD x iR) ((iQ t.gW xs p x).getD ((t.gW.getD x iR).a) ie) ie p):=by unfold ss GG;rw[aQ yd,aT qV];rfl
      have w2:=mh;have o2:=iE.O8 yd;have o7:=iE.C3;have o8:=Vo iE;have tN:=th (kG (t.gW.getD x iR) ((iQ t.gW xs p x).getD ((t.gW.getD x iR).a) ie) ie p);exact iB (chain [tT 27 ((x:Int)<(t.gW.length:Int)) ae,iX ((x:Int)) (t.gW.length) ae,.c (Nt ((t.gW.getD x iR).kind:Nat) ae ae),tB 50 (ag:((1:Int)==0)=false),tB 56 (ag:((1:Int)==1)=true),iX (((t.gW.getD x iR).a:Int)) ((iQ t.gW xs p x).length) ae,.a (ae:(t.gW.getD x iR).a<(iQ t.gW xs p x).length),.o 66 (.e Ge:PV.le (.e (.agg [(bP false),(.v (.slice none 0 0)),(iP 0),(bP false),(.v (.slice none 0 0)),(iP 0),(bP true)])) (.e (gZ ie))),.c (Po (t.gW.getD x iR) _ _ _ af af ae ae ae ae ae:gV 211 [(iP ((t.gW.getD x iR).kind:Int)),(iP ((t.gW.getD x iR).n:Int)),(gZ ((iQ t.gW xs p x).getD (t.gW.getD x iR).a ie)),(gZ ie),(iP p)] _),.o 71 (.e (mz _):PV.le (.e (.sl true 1 7 fun i_ j_=>(iY (kG (t.gW.getD x iR) ((iQ t.gW xs p x).getD (t.gW.getD x iR).a ie) ie p)).getD (i_*7+j_) (.v (.bool false)))) (.e (ik [(kG (t.gW.getD x iR) ((iQ t.gW xs p x).getD (t.gW.getD x iR).a ie) ie p)]))),.a (ae:((iQ t.gW xs p x).length+[(kG (t.gW.getD x iR) ((iQ t.gW xs p x).getD (t.gW.getD x iR).a ie) ie p)].length)*88<=140737488355328),iq ((x:Int)+1) ae]<|.e (chain [.b 22 (F9 rfl rfl wb:Bx.le (.row true 41 ((iQ t.gW xs p x).length+[(kG (t.gW.getD x iR) ((iQ t.gW xs p x).getD (t.gW.getD x iR).a ie) ie p)].length) 7 (fun i_ j_=>if i_<(iQ t.gW xs p x).length then(ki (iQ t.gW xs p x)) i_ j_ else(E.lZ (ik [(kG (t.gW.getD x iR) ((iQ t.gW xs p x).getD (t.gW.getD x iR).a ie) ie p)])) (i_-(iQ t.gW xs p x).length) j_)) (.row true 41 ((iQ t.gW xs p (x+1)).length) 7 (ki (iQ t.gW xs p (x+1)))))]<|.nil)) ah)
  (fun hx=>by
    exact iB (chain [tF 27 ((t.gW.length:Int)<(t.gW.length:Int)) ae,.z 22]<|.e (chain [.o 7 (.e (Ag aj):PV.le (.e (.sl true ((iQ t.gW xs p t.gW.length).length) 7 (ki (iQ t.gW xs p t.gW.length)))) (.e (ik (iQ t.gW xs p t.gW.length))))]<|.nil)) ah) ak:jq 5 Tryz.f173 (XQ t xs p 0) (.exit 0) ⟨75,true,[(7,.e (ik (iQ t.gW xs p t.gW.length)))],[]⟩) (chain [.b 22 (.iS rfl:Bx.le (.row true 41 xs.length 7 (ki xs)) (.row true 41 ((iQ t.gW xs p 0).length) 7 (ki (iQ t.gW xs p 0))))]<|.nil)]<|.nil) ah 
open Go.RowKit Fp Pu
def nQ(m:List (List Iv)):Nat->List Iv
 | 0=>[]
 |k+1=>nQ m k++m.getD k []
theorem KC(m:List (List Iv))(k:Nat):(nQ m (k+1)).length=(nQ m k).length+(m.getD k []).length:=by simp[nQ]
theorem afP{T n n':Nat}{xs r:List Iv}(hn:n=xs.length)(vX:n'=(xs++r).length):Bx.le (.row true T (n+r.length) 7 fun i j=>if i<n then ki xs i j else(E.lZ (ik r)) (i-n) j) (.row true T n' 7 (ki (xs++r))):=by
 subst hn vX;refine .row aj fun i j hi hj=>⟨.iS ?_,C1 _ _ hj⟩
 by_cases h:i<xs.length
 .rw [aR h]
  show(iY (xs.getD i ie)).getD j .any=(iY ((xs++r).getD i ie)).getD j .any;congr 2;simp[aW,en h]
 .rw [aQ h]
  show(iY (r.getD (i-xs.length) ie)).getD j .any=(iY ((xs++r).getD i ie)).getD j .any;congr 2;simp[aW,eV (show xs.length<=i by omega)]
theorem UE(a b:List Iv):E.le (.sl true 2 1 fun i j=>[ik a,ik b].getD (i*1+j) (.v (.bool false))) (pW [a,b]):=.sl fun i j hi hj=>by
 obtain rfl:j=0:= ae ;obtain rfl|rfl:i=0\/i=1:= ae 
 all_goals exact⟨.refl _,rfl⟩
theorem WR{n:Nat}:E.le (.sl true n 1 fun k _=>.sl true ((fun _=>0) k) 7 ((fun _ _ _=>.any) k)) (pW (List.replicate n [])):=by
 have h:pW (List.replicate n []) = .sl true n 1 fun i _=>ik ((List.replicate n []).getD i []):=by unfold pW;rw[List.length_replicate]
 rw[h];refine .sl fun i j hi hj=>⟨?_,rfl⟩
 have e:(List.replicate n ([]:List Iv)).getD i []=[]:=by simp[aW,hi]
 rw[e];exact .sl fun q _ hq _=>absurd hq (bj _)
def Ql(m:List (List Iv))(x:Nat):PS:=⟨36,true,[(11,.e (iP x)),(10,.e (iP m.length)),(9,.e (pW m)),(3,.e (iP ((nQ m x).length:Int))),(0,.e (pW m))],[]⟩
def Qm(m:List (List Iv))(x:Nat):PS:=⟨36,true,[(27,.e (iP x)),(26,.e (iP m.length)),(25,.e (pW m)),(6,.own 24)],[(24,.row true 41 ((nQ m x).length) 7 (ki (nQ m x)))]⟩
noncomputable def RW(t:pg)(xs:List Iv)(p:Nat)(x:Nat):PS:=⟨91,true,[(43,.e (iP x)),(42,.e (iP 0)),(11,.own 41),(10,.e (ik (iQ t.gW xs p t.gW.length))),(4,.box 4 0),(3,.e (iP p))],[(41,.qa true 26 41 t.ig.length 7 (fun _=>0) (fun _ _ _=>.any) .none),(4,.cells 25 [(iP t.im),(nW t.gW),(nV t.ig)])]⟩
noncomputable def RV(t:pg)(xs:List Iv)(p:Nat)(x:Nat):PS:=⟨91,true,[(16,.own 16),(77,.e (iP x)),(76,.e (iP t.ig.length)),(75,.e (nV t.ig)),(11,.own 41),(10,.e (ik (iQ t.gW xs p t.gW.length)))],[(16,.row true 41 x 7 (ki ((List.range x).map (fun j_=>(iQ t.gW xs p t.gW.length).getD (t.ig.getD j_ 0) ie)))),(41,.qa true 26 41 t.ig.length 7 (fun _=>0) (fun _ _ _=>.any) .none)]⟩
theorem aa9(m:List (List Iv))(hl:m.length<=1000)(hb:∀ k,k<=m.length->(nQ m k).length<=1000):gV 142 [(pW m)] (ik (nQ m m.length)):=by
 have oc:=hb m.length (aU _);exact tr true Tryz.call142 Tryz.func142 (chain [.s (Sp.jv (Ql m) 0 m.length ae (fun x hx kf=>by
    have iZ:=hb (x+1) ae;rw[KC]at iZ;exact iB (chain [tT 12 ((x:Int)<(m.length:Int)) ae,iX ((x:Int)) (m.length) ae,iq (((nQ m x).length:Int)+((m.getD x []).length:Int)) ae,tF 20 (((((nQ m x).length+(m.getD x []).length):Nat):Int)<0) ae,iq ((x:Int)+1) ae]<|.e (chain [.o 3 (.int (by rw[KC]):PV.le (.e (iP ((((nQ m x).length+(m.getD x []).length):Nat):Int))) (.e (iP ((nQ m (x+1)).length:Int))))]<|.nil)) ah)
  (fun hx=>by
    exact iB (chain [tF 12 ((m.length:Int)<(m.length:Int)) ae]<|.nil) ah) ak:jq 3 Tryz.f142 (Ql m 0) (.exit 0) ⟨36,true,[(3,.e (iP ((nQ m m.length).length:Int))),(0,.e (pW m))],[]⟩) (chain [.o 3 (.int rfl:PV.le (.e (iP 0)) (.e (iP ((nQ m 0).length:Int))))]<|.nil),.cn (ad1 _ ae:Gq 175 [(.v (.slice none 0 0)),(iP ((nQ m m.length).length:Int))] true 41 0 7 (ki [])),.s (Sp.jv (Qm m) 0 m.length ae (fun x hx kf=>by
    have iZ:=hb (x+1) ae;rw[KC]at iZ;exact iB (chain [tT 28 ((x:Int)<(m.length:Int)) ae,iX ((x:Int)) (m.length) ae,.a (ae:((nQ m x).length+(m.getD x []).length)*88<=140737488355328),iq ((x:Int)+1) ae]<|.e (chain [.b 24 (afP rfl rfl:Bx.le (.row true 41 ((nQ m x).length+(m.getD x []).length) 7 (fun i_ j_=>if i_<(nQ m x).length then(ki (nQ m x)) i_ j_ else(E.lZ (ik (m.getD x []))) (i_-(nQ m x).length) j_)) (.row true 41 ((nQ m (x+1)).length) 7 (ki (nQ m (x+1)))))]<|.nil)) ah)
  (fun hx=>by
    exact iB (chain [tF 28 ((m.length:Int)<(m.length:Int)) ae,.z 24]<|.e (chain [.o 6 (.e (Ag aj):PV.le (.e (.sl true ((nQ m m.length).length) 7 (ki (nQ m m.length)))) (.e (ik (nQ m m.length))))]<|.nil)) ah) ak:jq 11 Tryz.f142 (Qm m 0) (.exit 2) ⟨36,true,[(6,.e (ik (nQ m m.length)))],[]⟩) (chain [.b 24 (.iS rfl:Bx.le (.row true 41 0 7 (ki [])) (.row true 41 ((nQ m 0).length) 7 (ki (nQ m 0))))]<|.nil)]<|.nil) ah 
theorem QC(a b:List Iv)(ha:a.length<=400)(hb:b.length<=400):gV 142 [pW [a,b]] (ik (a++b)):=by
 have e1:nQ [a,b] 1=a:=rfl;have e2:nQ [a,b] 2=a++b:=rfl;have:=aa9 [a,b] aj fun k hk=>by
  have hk:k<=2:=hk;rcases k with _|_|_|k
  .exact bL _
  .rw [e1];omega
  .rw [e2,cg];omega
  .omega
 rwa[show[a,b].length=2 from rfl,e2]at this
theorem Lj(p:Int):gV 140 [(iP p)] (bP (lh p)):=by
 exact tr true Tryz.call140 Tryz.func140 (.w (8<=p)
  (fun k1=>chain [tB 4 (aS k1)]<|rQ (bP (decide (p<=512))) (bP (lh p)) (by unfold lh;simp[k1]))
  (fun k1=>chain [tB 4 (aT k1)]<|rQ (bP false) (bP (lh p)) (by unfold lh;simp[k1]))) ah 
theorem adk(x:Iv)(hx:x.ib):gV 208 [(gZ x)] (bP false):=by
 exact tr true Tryz.call208 Tryz.func208 (chain [.c (qM x af)]<|.nil) ah 
theorem adl(t:pg)(xs:List Iv)(p:Nat)(h:ze t)(h1:1<=xs.length)(hx:xs.length=t.im)(hv:ph xs)(il:8<=p)(ic:p<=512):gV 172 [(yW t),(ik xs),(iP p)] (bP true):=by
 have h8:=h.im;exact tr true Tryz.call172 Tryz.func172 (chain [.c (XS t af),tB 14 (Fh hx:((xs.length:Int)==(t.im:Int))=true),.c (Lj _:gV 140 [(iP p)] _),tB 18 (oZ.2 ⟨ae,ae⟩:(lh (p:Int))=true),.c (Af true _ _ 208 [] (fun _=>false) (fun i hi=>adk _ (hv i)) ae (fun _ _=>rfl):gV 17 [(ik xs),(.fn 208 [])] _)]<|.nil) ah 
theorem RF(t:pg)(xs:List Iv)(p:Nat):(List.range t.ig.length).map (fun j=>(iQ t.gW xs p t.gW.length).getD (t.ig.getD j 0) ie)=je t xs p:=by
 unfold je;apply eU;intro i;rw[cj,cj];by_cases hi:i<t.ig.length
 .rw [bd (by simpa using hi),bd hi]
  simp[aW,hi]
 .rw [bS (by simpa using hi),bS ae]
  rfl
theorem RX(t:pg)(xs:List Iv)(p:Nat)(h:ze t)(h1:1<=xs.length)(hx:xs.length=t.im)(hv:ph xs)(il:8<=p)(ic:p<=512):gV 141 [(yW t),(ik xs),(iP 0),(iP p)] (.iw [ik (je t xs p),pW (List.replicate t.ig.length [])]):=by
 have h8:=h.im;have Bi:=h.gW;have mS:=h.ig;exact tr true Tryz.call141 Tryz.func141 (chain [.c (adl _ _ _ h h1 hx hv ae ae:gV 172 [(yW t),(ik xs),(iP p)] _),tB 26 (ag:(decide ((0:Int)<0))=false),tF 32 ((t.im:Int)<0) ae,.c (ald t xs p h h1 hx hv ae ae),.a (ae:0<=((t.ig.length:Int):Int)/\((t.ig.length:Int):Int)<=((t.ig.length:Int):Int)),.a (ae:((24:Nat):Int)*(t.ig.length:Int)<=281474976710656/\((t.ig.length:Int):Int)<=9223372036854775807),.s (Sp.jv (RW t xs p) 0 0 ae (fun x hx kf=>by
    exact absurd kf (bj _))
  (fun hx=>by
    exact iB (chain [tB 44 (ag:(decide ((0:Int)<0))=false)]<|.nil) ah) ak:jq 6 Tryz.f141 (RW t xs p 0) (.exit 0) ⟨91,true,[(11,.own 41),(10,.e (ik (iQ t.gW xs p t.gW.length))),(4,.box 4 0)],[(41,.qa true 26 41 t.ig.length 7 (fun _=>0) (fun _ _ _=>.any) .none),(4,.cells 25 [(iP t.im),(nW t.gW),(nV t.ig)])]⟩) .nil,.y 16 16 true 41 7 (ki ((List.range 0).map (fun j_=>(iQ t.gW xs p t.gW.length).getD (t.ig.getD j_ 0) ie))),.s (Sp.jv (RV t xs p) 0 t.ig.length ae (fun x hx kf=>by
    have hot:=h.out x ae;have Ma:=F8 t.gW xs p t.gW.length;have tN:=th ((iQ t.gW xs p t.gW.length).getD (t.ig.getD x 0) ie);exact iB (chain [tT 78 ((x:Int)<(t.ig.length:Int)) ae,iX ((x:Int)) (t.ig.length) ae,iX ((t.ig.getD x 0:Int)) ((iQ t.gW xs p t.gW.length).length) ae,.o 86 (.e (mz _):PV.le (.e (.sl true 1 7 fun i_ j_=>(iY ((iQ t.gW xs p t.gW.length).getD (t.ig.getD x 0) ie)).getD (i_*7+j_) (.v (.bool false)))) (.e (ik [((iQ t.gW xs p t.gW.length).getD (t.ig.getD x 0) ie)]))),.a (ae:(x+[((iQ t.gW xs p t.gW.length).getD (t.ig.getD x 0) ie)].length)*88<=140737488355328),iq ((x:Int)+1) ae]<|.e (chain [.b 16 (yB rfl rfl rfl:Bx.le (.row true 41 (x+[((iQ t.gW xs p t.gW.length).getD (t.ig.getD x 0) ie)].length) 7 (fun i_ j_=>if i_<x then(ki ((List.range x).map (fun j_=>(iQ t.gW xs p t.gW.length).getD (t.ig.getD j_ 0) ie))) i_ j_ else(E.lZ (ik [((iQ t.gW xs p t.gW.length).getD (t.ig.getD x 0) ie)])) (i_-x) j_)) (.row true 41 (x+1) 7 (ki ((List.range (x+1)).map (fun j_=>(iQ t.gW xs p t.gW.length).getD (t.ig.getD j_ 0) ie)))))]<|.nil)) ah)
  (fun hx=>by
    exact iB (chain [tF 78 ((t.ig.length:Int)<(t.ig.length:Int)) ae,.z 16]<|.e (chain [.o 16 (.e (Ag aj):PV.le (.e (.sl true t.ig.length 7 (ki ((List.range t.ig.length).map (fun j_=>(iQ t.gW xs p t.gW.length).getD (t.ig.getD j_ 0) ie))))) (.e (ik ((List.range t.ig.length).map (fun j_=>(iQ t.gW xs p t.gW.length).getD (t.ig.getD j_ 0) ie)))))]<|.nil)) ah) ak:jq 17 Tryz.f141 (RV t xs p 0) (.exit 4) ⟨91,true,[(16,.e (ik ((List.range t.ig.length).map (fun j_=>(iQ t.gW xs p t.gW.length).getD (t.ig.getD j_ 0) ie)))),(11,.own 41)],[(41,.qa true 26 41 t.ig.length 7 (fun _=>0) (fun _ _ _=>.any) .none)]⟩) .nil]<|rR (.iw [ik (je t xs p),pW (List.replicate t.ig.length [])]) (.iw (.cons (.iS (by rw[RF])) (.cons WR .nil)):E.le (.iw [(ik ((List.range t.ig.length).map (fun j_=>(iQ t.gW xs p t.gW.length).getD (t.ig.getD j_ 0) ie))),(.sl true t.ig.length 1 fun k_ _=>.sl true ((fun _=>0) k_) 7 ((fun _ _ _=>.any) k_))]) (.iw [ik (je t xs p),pW (List.replicate t.ig.length [])]))) ah 
theorem adg(x:Iv):gV 171 [(gZ x)] (bP x.all):=by
 exact tr true Tryz.call171 Tryz.func171 (.nil) ah 
theorem Eg(l:List Iv)(hl:l.length<=1000):gV 138 [(ik l)] (bP (nd l)):=by
 exact tr true Tryz.call138 Tryz.func138 (chain [.c (ML true _ _ 171 [] (fun i=>(l.getD i ie).all) (fun i hi=>adg _) ae:gV 17 [(ik l),(.fn 171 [])] _)]<|.nil) ah 
theorem RS(x:Iv)(hx:x.ib):gV 139 [(gZ x)] (bP false):=by
 exact tr true Tryz.call139 Tryz.func139 (chain [.c (qM x af)]<|.nil) ah 
theorem aju(n:Nat)(hn:n<=1000):gV 143 [pW (List.replicate n []),.fn 138 []] (bP false):=by
 have e:∀ i,i<n->(List.replicate n ([]:List Iv)).getD i []=[]:=fun i hi=>by simp[aW,hi]
 refine ajN true _ _ 138 [] (fun _=>false) (fun i hi=>?_) (by simpa using by omega) (fun _ _=>rfl);have oL:i<n:=by simpa using hi
 show gV 138 [ik ((List.replicate n []).getD i [])] _;rw[e i oL];exact Eg [] aj 
theorem Vc{l:List Iv}(h:oA l):nd l=false:=by
 unfold nd;rw[dW];intro i hi;rw[(h i (bI.1 hi)).2];decide
theorem xL{s:lM}{b:List Iv}(h:nJ s)(hb:kX s.iA b):ze s.tape/\1<=(b++s.params).length/\(b++s.params).length=s.tape.im/\ph (b++s.params):=by
 have h1:=h.s1;have h2:=h.im;have h3:=hb.len;refine⟨h.tape,?_,?_,hb.ok.OK.append h.params.OK⟩
 .rw [cg];omega
 .rw [cg];omega
theorem adh(s:lM)(b:List Iv)(p:Nat)(h:nJ s)(hb:kX s.iA b)(il:8<=p)(ic:p<=512)(hn:nd (je s.tape (b++s.params) p)=true):gV 85 [(jF s),(ik b),(iP 0),(iP p)] (.iw [.v (.slice none 0 0),.v (.slice none 0 0),iP 11]):=by
 have s4:=h.s4;have p4:=h.p4;have CJ:=hb.len;have mS:=h.tape.ig;have uX:=Vc hb.ok;have wY:=zC s.tape (b++s.params) p;obtain⟨f1,f2,f3,f4⟩:=xL h hb;exact tr true Tryz.call85 Tryz.func85 (chain [.c (Oz s af),tB 21 (BF hb.len:((b.length:Int) != (s.iA:Int))=false),.c (Eg _ ae:gV 138 [(ik b)] _),tB 25 (uX:(nd b)=false),.c (Af true _ _ 139 [] (fun _=>false) (fun i hi=>RS _ (hb.ok i hi).1) ae (fun _ _=>rfl):gV 17 [(ik b),(.fn 139 [])] _),.c (Lj _:gV 140 [(iP p)] _),tB 32 (oZ.2 ⟨ae,ae⟩:(lh (p:Int))=true),.o 40 (.e (UE _ _):PV.le (.e (.sl true 2 1 fun i_ j_=>[(ik b),(ik s.params)].getD (i_*1+j_) (.v (.bool false)))) (.e (pW [b,s.params]))),.c (QC b s.params ae ae:gV 142 [(pW [b,s.params])] _),.c (RX _ _ _ f1 f2 f3 f4 ae ae:gV 141 [(yW s.tape),(ik (b++s.params)),(iP 0),(iP p)] _),.c (Eg _ ae:gV 138 [(ik (je s.tape (b++s.params) p))] _),tB 48 (hn:(nd (je s.tape (b++s.params) p))=true)]<|.nil) ah 
theorem adi(s:lM)(b:List Iv)(p:Nat)(h:nJ s)(hb:kX s.iA b)(il:8<=p)(ic:p<=512)(hn:nd (je s.tape (b++s.params) p)=false):gV 85 [(jF s),(ik b),(iP 0),(iP p)] (.iw [ik (je s.tape (b++s.params) p),pW (List.replicate s.tape.ig.length []),iP 0]):=by
 have s4:=h.s4;have p4:=h.p4;have CJ:=hb.len;have mS:=h.tape.ig;have uX:=Vc hb.ok;have wY:=zC s.tape (b++s.params) p;obtain⟨f1,f2,f3,f4⟩:=xL h hb;exact tr true Tryz.call85 Tryz.func85 (chain [.c (Oz s af),tB 21 (BF hb.len:((b.length:Int) != (s.iA:Int))=false),.c (Eg _ ae:gV 138 [(ik b)] _),tB 25 (uX:(nd b)=false),.c (Af true _ _ 139 [] (fun _=>false) (fun i hi=>RS _ (hb.ok i hi).1) ae (fun _ _=>rfl):gV 17 [(ik b),(.fn 139 [])] _),.c (Lj _:gV 140 [(iP p)] _),tB 32 (oZ.2 ⟨ae,ae⟩:(lh (p:Int))=true),.o 40 (.e (UE _ _):PV.le (.e (.sl true 2 1 fun i_ j_=>[(ik b),(ik s.params)].getD (i_*1+j_) (.v (.bool false)))) (.e (pW [b,s.params]))),.c (QC b s.params ae ae:gV 142 [(pW [b,s.params])] _),.c (RX _ _ _ f1 f2 f3 f4 ae ae:gV 141 [(yW s.tape),(ik (b++s.params)),(iP 0),(iP p)] _),.c (Eg _ ae:gV 138 [(ik (je s.tape (b++s.params) p))] _),tB 48 (hn:(nd (je s.tape (b++s.params) p))=false),.c (aju _ ae:gV 143 [(pW (List.replicate s.tape.ig.length [])),(.fn 138 [])] _)]<|.nil) ah 
theorem adj(s:lM)(b:List Iv)(p:Nat)(h:nJ s)(hb:kX s.iA b)(il:8<=p)(ic:p<=512)(hn:nd (je s.tape (b++s.params) p)=true):gV 43 [(jF s),(ik b),(iP p)] (.iw [.v (.slice none 0 0),iP 11]):=by
 exact tr true Tryz.call43 Tryz.func43 (chain [.c (adh _ _ _ h hb il ic hn:gV 85 [(jF s),(ik b),(iP 0),(iP p)] _)]<|.nil) ah 
theorem RT(s:lM)(b:List Iv)(p:Nat)(h:nJ s)(hb:kX s.iA b)(il:8<=p)(ic:p<=512)(hn:nd (je s.tape (b++s.params) p)=false):gV 43 [(jF s),(ik b),(iP p)] (.iw [ik (je s.tape (b++s.params) p),iP 0]):=by
 exact tr true Tryz.call43 Tryz.func43 (chain [.c (adi _ _ _ h hb il ic hn:gV 85 [(jF s),(ik b),(iP 0),(iP p)] _)]<|.nil) ah 
open Go.RowKit Fp Pu
noncomputable def TJ(s:lM)(x:List Iv)(d:Dy)(b:List Iv)(p:Nat)(N:Nat)(i:Nat):PS:=⟨66,true,[(14,.own 14),(42,.e (iP i)),(41,.e (iP x.length)),(13,.box 13 0),(11,.e (ik (je s.tape (b++s.params) p))),(1,.e (ik x)),(4,.e (iP p))],[(14,.row true 41 i 7 (ki ((List.range i).map (fun j_=>(jj (x.getD j_ ie) (iN (jU d) ((je s.tape (b++s.params) p).getD j_ ie) p) p))))),(13,.cells 41 ([(bP false),(.v (.slice none 0 0)),(iP 0)]++jo d++[(bP false)]))]⟩
noncomputable def TK(s:lM)(x:List Iv)(d:Dy)(b:List Iv)(p:Nat)(i:Nat):PS:=⟨66,true,[(14,.own 14),(42,.e (iP i)),(41,.e (iP x.length)),(13,.box 13 0),(11,.e (ik (je s.tape (b++s.params) p))),(1,.e (ik x)),(4,.e (iP p))],[(14,.row true 41 i 7 (ki ((List.range i).map (fun j_=>(jj (x.getD j_ ie) (iN (jU d) ((je s.tape (b++s.params) p).getD j_ ie) p) p))))),(13,.cells 41 ([(bP false),(.v (.slice none 0 0)),(iP 0)]++jo d++[(bP false)]))]⟩
def Re(s:lM)(x:List Iv)(d:Dy)(p:Nat)(N:Nat)(k:Nat):PS:=⟨55,true,[(22,.e (iP k)),(10,.sS 64 [(.box 5),(.box 4),(.box 6),(.box 7)]),(7,.box 7 0),(6,.box 6 0),(5,.box 5 0),(4,.box 4 0)],[(7,.cells 3 [(iP p)]),(6,.cells 31 (jo d)),(5,.cells 26 [(ik x)]),(4,.cells 28 [(iP s.tape.im),(nW s.tape.gW),(nV s.tape.ig),(iP s.iA),(ik s.params)])]⟩
theorem ZM(x:Iv)(hx:x.ib)(xa:x.all=false):gV 83 [(gZ x)] (bP false):=by
 exact tr true Tryz.call83 Tryz.func83 (chain [.c (qM x af),tB 8 (xa:x.all=false)]<|.nil) ah 
theorem GF(s:lM)(b:List Iv)(hb:kX s.iA b)(h4:s.iA<=4):gV 42 [(jF s),(ik b)] (bP true):=by
 have CJ:=hb.len;exact tr true Tryz.call42 Tryz.func42 (chain [tB 9 (Fh hb.len:((b.length:Int)==(s.iA:Int))=true),.c (Af true _ _ 83 [] (fun _=>false) (fun i hi=>ZM _ (hb.ok i hi).1 (hb.ok i hi).2) ae (fun _ _=>rfl):gV 17 [(ik b),(.fn 83 [])] _)]<|.nil) ah 
theorem Hm(s:lM)(x:List Iv)(d:Dy)(p:Nat)(h:nJ s)(hx:kX s.iA x)(hd:d.ib)(h0:0<d.iK)(il:8<=p)(ic:p<=512):gV 41 [(jF s),(ik x),(gY d),(iP p)] (bP true):=by
 have s4:=h.s4;exact tr true Tryz.call41 Tryz.func41 (chain [.c (Oz s af),.c (GF _ _ hx ae:gV 42 [(jF s),(ik x)] _),.c (qg _ af:gV 68 [(gY d)] _),.c (nT _ af:gV 35 [(gY d)] _),tB 23 (aS h0),tT 27 (8<=(p:Int)) ae,tT 31 ((p:Int)<=512) ae]<|.nil) ah 
theorem aeV(s:lM)(x:List Iv)(d:Dy)(b:List Iv)(p:Nat)(h:nJ s)(hx:kX s.iA x)(hd:d.ib)(h0:0<d.iK)(hb:kX s.iA b)(il:8<=p)(ic:p<=512)(hn:nd (je s.tape (b++s.params) p)=true):gV 13 [(jF s),(ik x),(gY d),(ik b),(iP p)] (.v (.slice none 0 0)):=by
 have s4:=h.s4;exact tr true Tryz.call13 Tryz.func13 (chain [.c (Hm _ _ _ _ h hx hd h0 il ic:gV 41 [(jF s),(ik x),(gY d),(iP p)] _),.c (GF _ _ hb s4:gV 42 [(jF s),(ik b)] _),.c (adj s b p h hb il ic hn),tB 37 (ag:((11:Int) != 0)=true)]<|.nil) ah 
theorem DB(d:Dy):E.le (.agg ([bP false,.v (.slice none 0 0),iP 0]++jo d++[bP false])) (gZ (jU d)):=
 .agg (.cons (.refl _) (.cons Al (.cons (.refl _) (.cons (.refl _) (.cons (.refl _) (.cons (.refl _) (.cons (.refl _) .nil)))))))
theorem aeW(s:lM)(x:List Iv)(d:Dy)(b:List Iv)(p:Nat)(h:nJ s)(hx:kX s.iA x)(hd:d.ib)(h0:0<d.iK)(hb:kX s.iA b)(il:8<=p)(ic:p<=512)(hn:nd (je s.tape (b++s.params) p)=false)(N:Nat)(mE:N<x.length)(iH:∀ i,i<N->(jj (x.getD i ie) (iN (jU d) ((je s.tape (b++s.params) p).getD i ie) p) p).all=false)(hN:(jj (x.getD N ie) (iN (jU d) ((je s.tape (b++s.params) p).getD N ie) p) p).all=true):gV 13 [(jF s),(ik x),(gY d),(ik b),(iP p)] (.v (.slice none 0 0)):=by
 have s4:=h.s4;have xd:=hx.len;have mS:=h.ig;have wY:=zC s.tape (b++s.params) p;obtain⟨f1,f2,f3,f4⟩:=xL h hb;have fv:=Ed s.tape f4 (show 1<=p by omega) (show p<=4096 by omega);have hq:0<d.q:=(qP d).1.1 h0;have Mm:=FX hd (bA hq);exact tr true Tryz.call13 Tryz.func13 (chain [.c (Hm _ _ _ _ h hx hd h0 il ic:gV 41 [(jF s),(ik x),(gY d),(iP p)] _),.c (GF _ _ hb s4:gV 42 [(jF s),(ik b)] _),.c (RT s b p h hb il ic hn),tB 37 (ag:((0:Int) != 0)=false),.y 14 14 true 41 7 (ki ((List.range 0).map (fun j_=>(jj (x.getD j_ ie) (iN (jU d) ((je s.tape (b++s.params) p).getD j_ ie) p) p)))),.s (Sp.jv (TJ s x d b p N) 0 N ae (fun i hi pG=>by
    have w1:=(hx.ok i ae).1;have w2:=fv i;have w3:=qC (jU d) ((je s.tape (b++s.params) p).getD i ie) (show 1<=p by omega) (show p<=4096 by omega);have tN:=th (jj (x.getD i ie) (iN (jU d) ((je s.tape (b++s.params) p).getD i ie) p) p);exact iB (chain [tT 43 ((i:Int)<(x.length:Int)) ae,iX ((i:Int)) (x.length) ae,.o 49 (.e (DB d):PV.le (.e (.agg ([(bP false),(.v (.slice none 0 0)),(iP 0)]++jo d++[(bP false)]))) (.e (gZ (jU d)))),iX ((i:Int)) ((je s.tape (b++s.params) p).length) ae,.c (ET (jU d) ((je s.tape (b++s.params) p).getD i ie) p af af ae ae),.c (C0 (x.getD i ie) (iN (jU d) ((je s.tape (b++s.params) p).getD i ie) p) p af af ae ae),tB 59 (iH i ae:(jj (x.getD i ie) (iN (jU d) ((je s.tape (b++s.params) p).getD i ie) p) p).all=false),.o 62 (.e (mz _):PV.le (.e (.sl true 1 7 fun i_ j_=>(iY (jj (x.getD i ie) (iN (jU d) ((je s.tape (b++s.params) p).getD i ie) p) p)).getD (i_*7+j_) (.v (.bool false)))) (.e (ik [(jj (x.getD i ie) (iN (jU d) ((je s.tape (b++s.params) p).getD i ie) p) p)]))),.a (ae:(i+[(jj (x.getD i ie) (iN (jU d) ((je s.tape (b++s.params) p).getD i ie) p) p)].length)*88<=140737488355328),iq ((i:Int)+1) ae]<|.e (chain [.b 14 (yB rfl rfl rfl:Bx.le (.row true 41 (i+[(jj (x.getD i ie) (iN (jU d) ((je s.tape (b++s.params) p).getD i ie) p) p)].length) 7 (fun i_ j_=>if i_<i then(ki ((List.range i).map (fun j_=>(jj (x.getD j_ ie) (iN (jU d) ((je s.tape (b++s.params) p).getD j_ ie) p) p)))) i_ j_ else(E.lZ (ik [(jj (x.getD i ie) (iN (jU d) ((je s.tape (b++s.params) p).getD i ie) p) p)])) (i_-i) j_)) (.row true 41 (i+1) 7 (ki ((List.range (i+1)).map (fun j_=>(jj (x.getD j_ ie) (iN (jU d) ((je s.tape (b++s.params) p).getD j_ ie) p) p))))))]<|.nil)) ah)
  (fun hi=>by
    have w1:=(hx.ok N ae).1;have w2:=fv N;have w3:=qC (jU d) ((je s.tape (b++s.params) p).getD N ie) (show 1<=p by omega) (show p<=4096 by omega);exact iB (chain [tT 43 ((N:Int)<(x.length:Int)) ae,iX ((N:Int)) (x.length) ae,.o 49 (.e (DB d):PV.le (.e (.agg ([(bP false),(.v (.slice none 0 0)),(iP 0)]++jo d++[(bP false)]))) (.e (gZ (jU d)))),iX ((N:Int)) ((je s.tape (b++s.params) p).length) ae,.c (ET (jU d) ((je s.tape (b++s.params) p).getD N ie) p af af ae ae),.c (C0 (x.getD N ie) (iN (jU d) ((je s.tape (b++s.params) p).getD N ie) p) p af af ae ae),tB 59 (hN:(jj (x.getD N ie) (iN (jU d) ((je s.tape (b++s.params) p).getD N ie) p) p).all=true)]<|.nil) ah) ak:jq 9 Tryz.f13 (TJ s x d b p N 0) .ret ⟨66,true,[(10,.e (.v (.slice none 0 0)))],[]⟩) .nil]<|.nil) ah 
theorem aeX(s:lM)(x:List Iv)(d:Dy)(b:List Iv)(p:Nat)(h:nJ s)(hx:kX s.iA x)(hd:d.ib)(h0:0<d.iK)(hb:kX s.iA b)(il:8<=p)(ic:p<=512)(hn:nd (je s.tape (b++s.params) p)=false)(iH:∀ i,i<x.length->(jj (x.getD i ie) (iN (jU d) ((je s.tape (b++s.params) p).getD i ie) p) p).all=false):gV 13 [(jF s),(ik x),(gY d),(ik b),(iP p)] (ik ((List.range x.length).map (fun j_=>(jj (x.getD j_ ie) (iN (jU d) ((je s.tape (b++s.params) p).getD j_ ie) p) p)))):=by
 have s4:=h.s4;have xd:=hx.len;have mS:=h.ig;have wY:=zC s.tape (b++s.params) p;obtain⟨f1,f2,f3,f4⟩:=xL h hb;have fv:=Ed s.tape f4 (show 1<=p by omega) (show p<=4096 by omega);have hq:0<d.q:=(qP d).1.1 h0;have Mm:=FX hd (bA hq);exact tr true Tryz.call13 Tryz.func13 (chain [.c (Hm _ _ _ _ h hx hd h0 il ic:gV 41 [(jF s),(ik x),(gY d),(iP p)] _),.c (GF _ _ hb s4:gV 42 [(jF s),(ik b)] _),.c (RT s b p h hb il ic hn),tB 37 (ag:((0:Int) != 0)=false),.y 14 14 true 41 7 (ki ((List.range 0).map (fun j_=>(jj (x.getD j_ ie) (iN (jU d) ((je s.tape (b++s.params) p).getD j_ ie) p) p)))),.s (Sp.jv (TK s x d b p) 0 x.length ae (fun i hi pG=>by
    have w1:=(hx.ok i ae).1;have w2:=fv i;have w3:=qC (jU d) ((je s.tape (b++s.params) p).getD i ie) (show 1<=p by omega) (show p<=4096 by omega);have tN:=th (jj (x.getD i ie) (iN (jU d) ((je s.tape (b++s.params) p).getD i ie) p) p);exact iB (chain [tT 43 ((i:Int)<(x.length:Int)) ae,iX ((i:Int)) (x.length) ae,.o 49 (.e (DB d):PV.le (.e (.agg ([(bP false),(.v (.slice none 0 0)),(iP 0)]++jo d++[(bP false)]))) (.e (gZ (jU d)))),iX ((i:Int)) ((je s.tape (b++s.params) p).length) ae,.c (ET (jU d) ((je s.tape (b++s.params) p).getD i ie) p af af ae ae),.c (C0 (x.getD i ie) (iN (jU d) ((je s.tape (b++s.params) p).getD i ie) p) p af af ae ae),tB 59 (iH i ae:(jj (x.getD i ie) (iN (jU d) ((je s.tape (b++s.params) p).getD i ie) p) p).all=false),.o 62 (.e (mz _):PV.le (.e (.sl true 1 7 fun i_ j_=>(iY (jj (x.getD i ie) (iN (jU d) ((je s.tape (b++s.params) p).getD i ie) p) p)).getD (i_*7+j_) (.v (.bool false)))) (.e (ik [(jj (x.getD i ie) (iN (jU d) ((je s.tape (b++s.params) p).getD i ie) p) p)]))),.a (ae:(i+[(jj (x.getD i ie) (iN (jU d) ((je s.tape (b++s.params) p).getD i ie) p) p)].length)*88<=140737488355328),iq ((i:Int)+1) ae]<|.e (chain [.b 14 (yB rfl rfl rfl:Bx.le (.row true 41 (i+[(jj (x.getD i ie) (iN (jU d) ((je s.tape (b++s.params) p).getD i ie) p) p)].length) 7 (fun i_ j_=>if i_<i then(ki ((List.range i).map (fun j_=>(jj (x.getD j_ ie) (iN (jU d) ((je s.tape (b++s.params) p).getD j_ ie) p) p)))) i_ j_ else(E.lZ (ik [(jj (x.getD i ie) (iN (jU d) ((je s.tape (b++s.params) p).getD i ie) p) p)])) (i_-i) j_)) (.row true 41 (i+1) 7 (ki ((List.range (i+1)).map (fun j_=>(jj (x.getD j_ ie) (iN (jU d) ((je s.tape (b++s.params) p).getD j_ ie) p) p))))))]<|.nil)) ah)
  (fun hi=>by
    exact iB (chain [tF 43 ((x.length:Int)<(x.length:Int)) ae,.z 14]<|.e (chain [.o 14 (.e (Ag aj):PV.le (.e (.sl true x.length 7 (ki ((List.range x.length).map (fun j_=>(jj (x.getD j_ ie) (iN (jU d) ((je s.tape (b++s.params) p).getD j_ ie) p) p)))))) (.e (ik ((List.range x.length).map (fun j_=>(jj (x.getD j_ ie) (iN (jU d) ((je s.tape (b++s.params) p).getD j_ ie) p) p))))))]<|.nil)) ah) ak:jq 9 Tryz.f13 (TK s x d b p 0) (.exit 0) ⟨66,true,[(14,.e (ik ((List.range x.length).map (fun j_=>(jj (x.getD j_ ie) (iN (jU d) ((je s.tape (b++s.params) p).getD j_ ie) p) p)))))],[]⟩) .nil]<|.nil) ah 
theorem ER(s:lM)(x:List Iv)(d:Dy)(b:List Iv)(p:Nat)(h:nJ s)(hx:kX s.iA x)(hd:d.ib)(h0:0<d.iK)(hb:kX s.iA b)(il:8<=p)(ic:p<=512):gV 13 [(jF s),(ik x),(gY d),(ik b),(iP p)] (ik (mO s x d b p)):=by
 unfold mO;cases hn:nd (je s.tape (b++s.params) p)with
 |true=>rw[aR rfl];exact(aeV s x d b p h hx hd h0 hb il ic hn).jW (.nil _ _ _)
 |false=>
  rw[aQ ag];cases ha:nd (tX x (je s.tape (b++s.params) p) d p)with
  |true=>
   rw[aR rfl];unfold nd at ha;rw[di,Bt]at ha;obtain⟨i,hi,mc⟩:=ha;obtain⟨N,h1,h2,h3⟩:=qB (p:=fun i=>((tX x (je s.tape (b++s.params) p) d p).getD i ie).all) ⟨i,bI.1 hi,mc⟩;refine(aeW s x d b p h hx hd h0 hb il ic hn N h1 (fun i hi=>?_) ?_).jW (.nil _ _ _)
   .have:=h3 i hi;rw[Ab (show i<x.length by omega)]at this;exact this
   .rw [Ab h1]at h2;exact h2
  |false=>
   rw[aQ ag];refine aeX s x d b p h hx hd h0 hb il ic hn fun i hi=>?_
   unfold nd at ha;rw[dW,Bt]at ha;have:=ha i (bI.2 hi);rw[Ab hi]at this;exact aM this
theorem aeB(s:lM)(x:List Iv)(d:Dy)(b:List Iv)(p:Nat)(h:nJ s)(hx:kX s.iA x)(hd:d.ib)(h0:0<d.iK)(hb:kX s.iA b)(il:8<=p)(ic:p<=512)(hi:(mO s x d b p)=[]):gV 23 [(jF s),(ik x),(gY d),(ik b),(iP p)] (bP false):=by
 exact tr true Tryz.call23 Tryz.func23 (chain [.c (ER _ _ _ _ _ h hx hd h0 hb il ic:gV 13 [(jF s),(ik x),(gY d),(ik b),(iP p)] _),tB 20 (by rw[hi];rfl:(decide (0<((mO s x d b p).length:Int)))=false)]<|.nil) ah 
theorem AR{n:Nat}{b:List Iv}(h:kX n b)(h1:1<=n)(h4:n<=4):1<=b.length/\b.length<=4/\oA b:=⟨by rw[h.len];exact h1,by rw[h.len];exact h4,h.ok⟩
theorem aeC(s:lM)(x:List Iv)(d:Dy)(b:List Iv)(p:Nat)(h:nJ s)(hx:kX s.iA x)(hd:d.ib)(h0:0<d.iK)(hb:kX s.iA b)(il:8<=p)(ic:p<=512)(hi:(mO s x d b p)≠[]):gV 23 [(jF s),(ik x),(gY d),(ik b),(iP p)] (bP (rK x b&&rK (mO s x d b p) b)):=by
 have s1:=h.s1;have s4:=h.s4;obtain⟨x1,x4,xo⟩:=AR hx s1 s4;obtain⟨b1,b4,bo⟩:=AR hb s1 s4;have xd:=hx.len;have CJ:=hb.len;have w8:=My hx (show 1<=p by omega) (show p<=4096 by omega) hi;obtain⟨i1,i4,io⟩:=AR w8 s1 s4;have hli:=w8.len;exact tr true Tryz.call23 Tryz.func23 (chain [.c (ER _ _ _ _ _ h hx hd h0 hb il ic:gV 13 [(jF s),(ik x),(gY d),(ik b),(iP p)] _),tT 20 (0<((mO s x d b p).length:Int)) ae,.c (P9 x b ae ae ae af af)]<|.w (rK x b=true)
  (fun k1=>chain [tB 24 (k1),.c (P9 (mO s x d b p) b ae ae ae af af)]<|rQ (bP (rK (mO s x d b p) b)) (bP (rK x b&&rK (mO s x d b p) b)) (by simp[k1]))
  (fun k1=>chain [tB 24 (aM k1)]<|rQ (bP false) (bP (rK x b&&rK (mO s x d b p) b)) (by simp[k1]))) ah 
theorem Mf(s:lM)(x:List Iv)(d:Dy)(b:List Iv)(p:Nat)(h:nJ s)(hx:kX s.iA x)(hd:d.ib)(h0:0<d.iK)(hb:kX s.iA b)(il:8<=p)(ic:p<=512):gV 23 [(jF s),(ik x),(gY d),(ik b),(iP p)] (bP (CP s x d b p)):=by
 unfold CP;by_cases hi:(mO s x d b p)=[]
 .have:=aeB s x d b p h hx hd h0 hb il ic hi
  rwa[hi,show(!([]:List Iv).isEmpty&&(rK x b&&rK [] b))=false from rfl]
 .have:=aeC s x d b p h hx hd h0 hb il ic hi
  have e:((mO s x d b p)).isEmpty=false:=by
   cases q:(mO s x d b p)with
   |nil=>exact absurd q hi
   |cons _ _=>rfl
  rwa[e,dU,ev]
theorem als(k:Int)(h1:-100<=k)(h2:k<=100):gV 36 [gY ⟨false,1,0⟩,iP k] (.iw [gY (nM k),iP 0]):=by
 have:=Ki ⟨false,1,0⟩ k De ae ae;have e:canon false 1 (0+k)=nM k:=by rw[Int.zero_add];exact Qk k
 have e2:kC (canon false 1 (0+k))=nM k:=by rw[e];exact AV (OF h1 h2)
 have e3:mI (canon false 1 (0+k))=0:=by rw[e];exact GS (OF h1 h2)
 change gV 36 [gY ⟨false,1,0⟩,iP k] (.iw [gY (kC (canon false 1 (0+k))),iP (mI (canon false 1 (0+k)))])at this;rwa[e2,e3]at this
theorem adZ(x:List Iv)(d:Dy):(Ei x d==0)=sB x d:=by
 unfold Ei;cases sB x d<;>rfl
theorem R4(x:List Iv)(k:Int)(x1:1<=x.length)(x8:x.length<=8)(hx:oA x)(k1:-100<=k)(k2:k<=100):gV 65 [(ik x),(iP k)] (.iw [ik (qT x (nM k)),bP (sB x (nM k))]):=by
 have v:=X7 k1 k2;have sg:=X6 k;exact tr true Tryz.call65 Tryz.func65 (chain [.c (qI _ ae:gV 113 [(iP 1)] _),.c (als _ ae ae:gV 36 [(gY (jd 1)),(iP k)] _),tB 16 (ag:((0:Int) != 0)=false),.c (aab _ _ ae ae af af af:gV 114 [(ik x),(gY (nM k))] _)]<|rR (.iw [ik (qT x (nM k)),bP (sB x (nM k))]) (.iw (.cons (.refl _) (.cons (.iS (by rw[adZ])) .nil)):E.le (.iw [(ik (qT x (nM k))),(bP ((Ei x (nM k))==0))]) (.iw [ik (qT x (nM k)),bP (sB x (nM k))]))) ah 
theorem Y5(s:lM)(x:List Iv)(d:Dy)(p:Nat)(h:nJ s)(hx:kX s.iA x)(hd:d.ib)(h0:0<d.iK)(il:8<=p)(ic:p<=512)(k:Int)(k1:-100<=k)(k2:k<=100)(hg:(sB x (nM k))=false):gV 64 [(iP k),(.kv 1 fun j_=>[(ik x)].getD j_ .any),(.kv 5 fun j_=>[(iP s.tape.im),(nW s.tape.gW),(nV s.tape.ig),(iP s.iA),(ik s.params)].getD j_ .any),(.kv 3 fun j_=>[(bP d.neg),(gX (gU d.m)),(iP d.e)].getD j_ .any),(.kv 1 fun j_=>[(iP p)].getD j_ .any)] (.iw [ik (qT x (nM k)),bP false]):=by
 have s1:=h.s1;have s4:=h.s4;obtain⟨x1,x4,xo⟩:=AR hx s1 s4;exact tr true Tryz.call64 Tryz.func64 (chain [.c (R4 _ _ ae ae xo ae ae:gV 65 [(ik x),(iP k)] _),tB 15 (hg:(sB x (nM k))=false)]<|.nil) ah 
theorem Y6(s:lM)(x:List Iv)(d:Dy)(p:Nat)(h:nJ s)(hx:kX s.iA x)(hd:d.ib)(h0:0<d.iK)(il:8<=p)(ic:p<=512)(k:Int)(k1:-100<=k)(k2:k<=100)(hg:(sB x (nM k))=true):gV 64 [(iP k),(.kv 1 fun j_=>[(ik x)].getD j_ .any),(.kv 5 fun j_=>[(iP s.tape.im),(nW s.tape.gW),(nV s.tape.ig),(iP s.iA),(ik s.params)].getD j_ .any),(.kv 3 fun j_=>[(bP d.neg),(gX (gU d.m)),(iP d.e)].getD j_ .any),(.kv 1 fun j_=>[(iP p)].getD j_ .any)] (.iw [ik (qT x (nM k)),bP (CP s x d (qT x (nM k)) p)]):=by
 have s1:=h.s1;have s4:=h.s4;obtain⟨x1,x4,xo⟩:=AR hx s1 s4;have hb:=ad0 hx (X7 k1 k2) (akt (X6 k)) hg;exact tr true Tryz.call64 Tryz.func64 (chain [.c (R4 _ _ ae ae xo ae ae:gV 65 [(ik x),(iP k)] _),tB 15 (hg:(sB x (nM k))=true),.c (Mf _ _ _ _ _ h hx hd h0 hb il ic:gV 23 [(jF s),(ik x),(gY d),(ik (qT x (nM k))),(iP p)] _)]<|.nil) ah 
theorem Pw(s:lM)(x:List Iv)(d:Dy)(p:Nat)(h:nJ s)(hx:kX s.iA x)(hd:d.ib)(h0:0<d.iK)(il:8<=p)(ic:p<=512)(k:Int)(k1:-100<=k)(k2:k<=100):gV 64 [(iP k),(.kv 1 fun j_=>[(ik x)].getD j_ .any),(.kv 5 fun j_=>[(iP s.tape.im),(nW s.tape.gW),(nV s.tape.ig),(iP s.iA),(ik s.params)].getD j_ .any),(.kv 3 fun j_=>[(bP d.neg),(gX (gU d.m)),(iP d.e)].getD j_ .any),(.kv 1 fun j_=>[(iP p)].getD j_ .any)] (.iw [ik (qT x (nM k)),bP (xK s x d p k)]):=by
 unfold xK;cases hg:sB x (nM k)with
 |false=>exact Y5 s x d p h hx hd h0 il ic k k1 k2 hg
 |true=>exact Y6 s x d p h hx hd h0 il ic k k1 k2 hg
theorem af2{l:List Iv}(h:l≠[]):((l.length:Int)==0)=false:=nj fun q=>h (gv.1 q)
theorem ab9(s:lM)(x:List Iv)(d:Dy)(p:Nat)(h:nJ s)(hx:kX s.iA x)(hd:d.ib)(h0:0<d.iK)(il:8<=p)(ic:p<=512)(N:Nat)(mE:N<24)(iH:∀ k:Nat,k<N->xK s x d p ((k:Int)-20)=false)(hN:xK s x d p ((N:Int)-20)=true):gV 26 [(jF s),(ik x),(gY d),(iP p)] (.iw [ik (qT x (nM ((N:Int)-20))),iP 0]):=by
 exact tr true Tryz.call26 Tryz.func26 (chain [.c (Hm _ _ _ _ h hx hd h0 il ic:gV 41 [(jF s),(ik x),(gY d),(iP p)] _),.s (Sp.jv (Re s x d p N) 0 N ae (fun k hk Ew=>by
    exact iB (chain [tT 23 ((k:Int)<24) ae,iq ((k:Int)-20) ae,.c (Pw _ _ _ _ h hx hd h0 il ic _ ae ae:gV 64 [(iP ((k:Int)-20)),(.kv 1 fun j_=>[(ik x)].getD j_ .any),(.kv 5 fun j_=>[(iP s.tape.im),(nW s.tape.gW),(nV s.tape.ig),(iP s.iA),(ik s.params)].getD j_ .any),(.kv 3 fun j_=>[(bP d.neg),(gX (gU d.m)),(iP d.e)].getD j_ .any),(.kv 1 fun j_=>[(iP p)].getD j_ .any)] _),tB 31 (iH k ae:(xK s x d p ((k:Int)-20))=false),iq ((k:Int)+1) ae]<|.nil) ah)
  (fun hk=>by
    exact iB (chain [tT 23 ((N:Int)<24) ae,iq ((N:Int)-20) ae,.c (Pw _ _ _ _ h hx hd h0 il ic _ ae ae:gV 64 [(iP ((N:Int)-20)),(.kv 1 fun j_=>[(ik x)].getD j_ .any),(.kv 5 fun j_=>[(iP s.tape.im),(nW s.tape.gW),(nV s.tape.ig),(iP s.iA),(ik s.params)].getD j_ .any),(.kv 3 fun j_=>[(bP d.neg),(gX (gU d.m)),(iP d.e)].getD j_ .any),(.kv 1 fun j_=>[(iP p)].getD j_ .any)] _),tB 31 (hN:(xK s x d p ((N:Int)-20))=true)]<|.nil) ah) ak:jq 5 Tryz.f26 (Re s x d p N 0) .ret ⟨55,true,[(9,.e (iP 0)),(8,.e (ik (qT x (nM ((N:Int)-20)))))],[]⟩) .nil]<|.nil) ah 
open Go.RowKit Fp Pu
open Go.RowKit Fp Pu
structure mZ where
 kind:Int
 a:Int
 b:Int
 n:Int
 cn:Int
 cd:Int
structure jr where
 im:Int
 gW:List mZ
 ig:List Int
 iA:Int
 params:List RI
def iV:mZ:=⟨0,0,0,0,0,0⟩
def yR(o:mZ):List E:=[iP o.kind,iP o.a,iP o.b,iP o.n,iP o.cn,iP o.cd]
def BT(o:mZ):E:=.agg (yR o)
def jJ(l:List mZ):E:=.sl true l.length 6 fun i j=>(yR (l.getD i iV)).getD j .any
def jN(l:List Int):E:=.sl true l.length 1 fun i _=>iP (l.getD i 0)
def N9(s:jr):List E:=[iP s.im,jJ s.gW,jN s.ig,iP s.iA,kj s.params]
def lj(s:jr):E:=.agg (N9 s)
structure mZ.ji(o:mZ):Prop where
 kind:ku .i64 o.kind
 a:ku .i64 o.a
 b:ku .i64 o.b
 n:ku .i64 o.n
 cn:ku .i64 o.cn
 cd:ku .i64 o.cd
structure jr.ji(s:jr):Prop where
 im:ku .i64 s.im
 gW:∀ i,(s.gW.getD i iV).ji
 ig:∀ i,ku .i64 (s.ig.getD i 0)
 iA:ku .i64 s.iA
 params:∀ i,(s.params.getD i ju).ji
structure jr.mn(s:jr):Prop where
 gW:s.gW.length<=1000
 ig:s.ig.length<=1000
 params:s.params.length<=1000
def jE(o:mZ)(m:Int):Bool:=
 if o.kind=1 then lJ o.cn o.cd&&decide (o.a=0/\o.b=0/\o.n=0)
 else if 3<=o.kind/\o.kind<=6 then decide (o.cn=0/\o.cd=0/\0<=o.a/\o.a<m/\0<=o.b/\o.b<m/\o.n=0)
 else if o.kind=8 then decide (o.cn=0/\o.cd=0/\0<=o.a/\o.a<m/\o.b=0/\0<=o.n/\o.n<=16)
 else if o.kind=7\/9<=o.kind/\o.kind<=13 then decide (o.cn=0/\o.cd=0/\0<=o.a/\o.a<m/\o.b=0/\o.n=0)
 else false
def FQ(s:jr):Bool:=(List.range s.gW.length).all fun i=>jE (s.gW.getD i iV) (s.im+(i:Int))
def vg(s:jr)(k:Int):Bool:=decide (0<=k/\k<s.im+(s.gW.length:Int))
def vq(s:jr):Bool:=(List.range s.ig.length).all fun i=>vg s (s.ig.getD i 0)
noncomputable def ny(x:RI):Bool:=nm x && !x.all
noncomputable def Du(s:jr):Bool:=(List.range s.params.length).all fun i=>ny (s.params.getD i ju)
noncomputable def mA(s:jr):Bool:=decide (0<=s.im/\s.im<=8/\s.gW.length<=200/\s.ig.length<=200)&&FQ s&&vq s
 && decide (1<=s.iA/\s.iA<=4/\(s.ig.length:Int)=s.iA/\s.im=s.iA+(s.params.length:Int)/\s.params.length<=4)&&Du s
noncomputable def qu(n:Int)(b:List RI):Bool:=decide ((b.length:Int)=n)&&(List.range b.length).all fun i=>ny (b.getD i ju)
noncomputable def xx(d:RD):Bool:=@decide d.Ok (Classical.propDecidable _)
theorem vo{d:RD}:xx d=true↔d.Ok:=@gn _ (Classical.propDecidable _)
noncomputable def mD(s:jr)(x:List RI)(h:RD)(p:Int):Bool:=mA s&&qu s.iA x&&xx h&&decide (0<h.dy.iK)&&decide (8<=p/\p<=512)
theorem xJ{n:Nat}{f:Nat->Bool}(h:¬(List.range n).all f=true):∃ N,N<n/\(!f N)=true/\∀ k,k<N->(!f k)=false:=by
 refine qB ?_;apply bE;intro q;apply h;refine bF.2 fun i hi=>?_
 cases hf:f i with
 |true=>rfl
 |false=>exact absurd ⟨i,bI.1 hi,by rw[hf];rfl⟩ q
theorem Pn{n:Nat}{f:Nat->Bool}:((List.range n).any fun i=>!f i) = !((List.range n).all f):=by
 rw[cQ];simp
theorem ajT{s:jr}(h:¬(0<=s.im/\s.im<=8/\s.gW.length<=200/\s.ig.length<=200/\1<=s.iA/\s.iA<=4/\(s.ig.length:Int)=s.iA/\s.params.length<=4/\s.im=s.iA+(s.params.length:Int))):mA s=false:=by
 refine aM fun q=>h ?_
 unfold mA at q;simp only[bB,bW]at q;obtain⟨⟨⟨⟨a,_⟩,_⟩,b⟩,_⟩:=q;exact⟨a.1,a.2.1,a.2.2.1,a.2.2.2,b.1,b.2.1,b.2.2.1,b.2.2.2.2,b.2.2.2.1⟩
def mZ.v(o:mZ):mV:=⟨o.kind.toNat,o.a.toNat,o.b.toNat,o.n.toNat,o.cn,o.cd⟩
def jr.v(s:jr):lM:=⟨⟨s.im.toNat,s.gW.map mZ.v,s.ig.map Int.toNat⟩,s.iA.toNat,s.params.map RI.iv⟩
theorem nn.of{k a b n m:Nat}{cn cd:Int}(k3:k=1\/3<=k)(C3:k<=13)(ha:k=1->a=0)(CD:¬k=1->a<m)(hb:3<=k/\k<=6->b<m)(mo:¬(3<=k/\k<=6)->b=0)
 (hn:k=8->n<=16) (vX:¬k=8->n=0) (hc:k=1->lJ cn cd=true) (xX:¬k=1->cn=0/\cd=0):nn ⟨k,a,b,n,cn,cd⟩ m:=by
 refine⟨k3,C3,?_,?_,?_,?_⟩
 .show if k=1 then a=0 else a<m
  split<;>simp_all
 .show if 3<=k/\k<=6 then b<m else b=0
  split
  .rename_i h;exact hb h
  .rename_i h;exact mo h
 .show if k=8 then n<=16 else n=0
  split
  .rename_i h;exact hn h
  .rename_i h;exact vX h
 .show if k=1 then lJ cn cd=true else cn=0/\cd=0
  split
  .rename_i h;exact hc h
  .rename_i h;exact xX h
theorem ajG{o:mZ}{m:Nat}(h:jE o (m:Int)=true):nn o.v m/\0<=o.kind/\0<=o.a/\0<=o.b/\0<=o.n:=by
 obtain⟨k,a,b,n,cn,cd⟩:=o;unfold jE at h;simp only at h;show nn ⟨k.toNat,a.toNat,b.toNat,n.toNat,cn,cd⟩ m/\0<=k/\0<=a/\0<=b/\0<=n;split at h
 .rename_i hk
  rw[bB,bW]at h;obtain⟨hr,h1,h2,h3⟩:=h;exact⟨nn.of ae ae ae ae ae ae ae ae (fun _=>hr) ae,ae,ae,ae,ae⟩
 .rename_i oe
  split at h
  .rename_i hk
   have h:=ct h;exact⟨nn.of ae ae ae ae ae ae ae ae ae ae,ae,ae,ae,ae⟩
  .split at h
   .rename_i hk
    have h:=ct h;exact⟨nn.of ae ae ae ae ae ae ae ae ae ae,ae,ae,ae,ae⟩
   .split at h
    .rename_i tH hk
     have h:=ct h;exact⟨nn.of ae ae ae ae ae ae ae ae ae ae,ae,ae,ae,ae⟩
    .cases h
theorem ajI{o:mZ}(h1:0<=o.kind)(h2:0<=o.a)(h3:0<=o.b)(h4:0<=o.n):Jb o.v=yR o:=by
 obtain⟨k,a,b,n,cn,cd⟩:=o;simp only[Jb,yR,mZ.v]at *
 rw[ez h1,ez h2,ez h3,ez h4]
theorem ajU{s:jr}(g:s.ji)(h:mA s=true):nJ s.v/\lj s=jF s.v:=by
 unfold mA at h;simp only[bB,bW]at h;obtain⟨⟨⟨⟨⟨i0,i8,l1,l2⟩,ho⟩,hu⟩,s1,s4,e1,e2,p4⟩,hp⟩:=h;have ho:=bF.1 ho;have hu:=bF.1 hu;have hp:=bF.1 hp;have opAt:∀ i,i<s.gW.length->(s.gW.map mZ.v).getD i iR=(s.gW.getD i iV).v:=fun i hi=>by simp[aW,hi]
 have ouAt:∀ i,i<s.ig.length->(s.ig.map Int.toNat).getD i 0=(s.ig.getD i 0).toNat:=fun i hi=>by simp[aW,hi]
 have paAt:∀ i,i<s.params.length->(s.params.map RI.iv).getD i ie=(s.params.getD i ju).iv:=fun i hi=>by simp[aW,hi]
 have op:∀ i,i<s.gW.length->nn (s.gW.getD i iV).v (s.im.toNat+i)/\0<=(s.gW.getD i iV).kind/\0<=(s.gW.getD i iV).a/\0<=(s.gW.getD i iV).b/\0<=(s.gW.getD i iV).n:=fun i hi=>by
  have:=ho i (bI.2 hi);exact ajG (by rwa[show((s.im.toNat+i:Nat):Int)=s.im+(i:Int)by omega])
 have ou:∀ i,i<s.ig.length->0<=s.ig.getD i 0/\s.ig.getD i 0<s.im+(s.gW.length:Int):=fun i hi=>ct (hu i (bI.2 hi))
 have pa:∀ i,i<s.params.length->(s.params.getD i ju).Ok/\(s.params.getD i ju).all=false:=fun i hi=>by
  have:=hp i (bI.2 hi);unfold ny at this;rw[bB]at this;exact⟨sd.1 this.1,by simpa using this.2⟩
 refine⟨⟨⟨?_,?_,?_,?_,?_⟩,?_,?_,?_,?_,?_,?_⟩,?_⟩
 .show s.im.toNat<=8;omega
 .show (s.gW.map mZ.v).length<=200;rw[cS];exact l1
 .show (s.ig.map Int.toNat).length<=200;rw[cS];exact l2
 .intro i hi
  have hi:i<s.gW.length:=by simpa[jr.v]using hi
  show nn ((s.gW.map mZ.v).getD i iR) (s.im.toNat+i);rw[opAt i hi];exact(op i hi).1
 .intro i hi
  have hi:i<s.ig.length:=by simpa[jr.v]using hi
  show(s.ig.map Int.toNat).getD i 0<s.im.toNat+(s.gW.map mZ.v).length;rw[ouAt i hi,cS];have:=ou i hi;omega
 .show 1<=s.iA.toNat;omega
 .show s.iA.toNat<=4;omega
 .show (s.ig.map Int.toNat).length=s.iA.toNat;rw[cS];omega
 .show s.im.toNat=s.iA.toNat+(s.params.map RI.iv).length;rw[cS];omega
 .show (s.params.map RI.iv).length<=4;rw[cS];exact p4
 .intro i hi
  have hi:i<s.params.length:=by simpa[jr.v]using hi
  show((s.params.map RI.iv).getD i ie).ib/\((s.params.map RI.iv).getD i ie).all=false;rw[paAt i hi];exact⟨(pa i hi).1.valid,(pa i hi).2⟩
 .have e1:iP s.im=iP (s.im.toNat:Int):=by rw[ez i0]
  have e2:iP s.iA=iP (s.iA.toNat:Int):=by rw[ez (show 0<=s.iA by omega)]
  have e3:jJ s.gW=nW (s.gW.map mZ.v):=by
   unfold jJ nW;rw[cS];congr 1;funext i j;by_cases hi:i<s.gW.length
   .rw [opAt i hi]
    obtain⟨_,h1,h2,h3,h4⟩:=op i hi;rw[ajI h1 h2 h3 h4]
   .have a1:s.gW.getD i iV=iV:=by rw[aW,bS ae];rfl
    have a2:(s.gW.map mZ.v).getD i iR=iR:=by rw[aW,bS aF];rfl
    rw[a1,a2];rfl
  have e4:jN s.ig=nV (s.ig.map Int.toNat):=by
   unfold jN nV;rw[cS];congr 1;funext i j;by_cases hi:i<s.ig.length
   .rw [ouAt i hi,ez (ou i hi).1]
   .rw [aW,bS ae,aW (l:=s.ig.map Int.toNat),bS aF]
    rfl
  have e5:kj s.params=ik (s.params.map RI.iv):=by
   rw[<-MM];congr 1;apply eU;intro i;unfold Az;rw[cj,cj];by_cases hi:i<s.params.length
   .have h1:=(pa i hi).1
    have g1:=g.params i;rw[bd hi];rw[aW,bd hi]at h1 g1;exact congrArg some (RI.Ok.eq (x:=s.params[i]) h1 g1).symm
   .rw [bS ae];rfl
  show E.agg [iP s.im,jJ s.gW,jN s.ig,iP s.iA,kj s.params]=_;rw[e1,e2,e3,e4,e5];rfl
open Go.RowKit Fp Pu
def WS(s:jr)(N:Nat)(x:Nat):PS:=⟨85,true,[(31,.e (iP x)),(30,.e (iP s.gW.length)),(29,.e (jJ s.gW)),(3,.box 3 0),(1,.box 1 0)],[(3,.cells 25 [(iP s.im),(jJ s.gW),(jN s.ig)]),(1,.cells 28 [(iP s.im),(jJ s.gW),(jN s.ig),(iP s.iA),(kj s.params)])]⟩
def WT(s:jr)(x:Nat):PS:=⟨85,true,[(31,.e (iP x)),(30,.e (iP s.gW.length)),(29,.e (jJ s.gW)),(3,.box 3 0),(1,.box 1 0)],[(3,.cells 25 [(iP s.im),(jJ s.gW),(jN s.ig)]),(1,.cells 28 [(iP s.im),(jJ s.gW),(jN s.ig),(iP s.iA),(kj s.params)])]⟩
def WU(s:jr)(x:Nat):PS:=⟨85,true,[(31,.e (iP x)),(30,.e (iP s.gW.length)),(29,.e (jJ s.gW)),(3,.box 3 0),(1,.box 1 0)],[(3,.cells 25 [(iP s.im),(jJ s.gW),(jN s.ig)]),(1,.cells 28 [(iP s.im),(jJ s.gW),(jN s.ig),(iP s.iA),(kj s.params)])]⟩
def WV(s:jr)(x:Nat):PS:=⟨85,true,[(31,.e (iP x)),(30,.e (iP s.gW.length)),(29,.e (jJ s.gW)),(3,.box 3 0),(1,.box 1 0)],[(3,.cells 25 [(iP s.im),(jJ s.gW),(jN s.ig)]),(1,.cells 28 [(iP s.im),(jJ s.gW),(jN s.ig),(iP s.iA),(kj s.params)])]⟩
theorem og{a b:Bool}(h:a=true↔b=true):a=b:=cQ.2 h
theorem na{a b:Bool}(h:a=b):bP a=bP b:=h▸rfl
theorem kS{o:mZ}{m:Int}{b:Bool}(h:b=jE o m:=by simp_all[jE,PT]<;>(repeat' split)<;>intros<;>omega):bP b=bP (jE o m):=na h
noncomputable def ahi(o:mZ)(m:Int)(g:o.ji)(C:Bool)(hC:C=decide (o.cn=0/\o.cd=0))(q1:¬o.a<0)(q2:¬o.b<0):Tr Tryz.prog Tb:=
  .w (o.kind=1)
  (fun k1=>chain [tB 21 (aK k1),.c (Jj o.cn o.cd)]<|.w (lJ o.cn o.cd=true)
   (fun k2=>chain [tB 24 (k2)]<|.w (o.a=0)
    (fun k3=>chain [tB 28 (aK k3)]<|.w (o.b=0)
     (fun k4=>chain [tB 33 (aK k4)]<|rQ (bP (o.n==0)) (bP (jE o m)) (kS))
     (fun k4=>chain [tB 33 (aJ k4)]<|rQ (bP false) (bP (jE o m)) (kS)))
    (fun k3=>chain [tB 28 (aJ k3)]<|rQ (bP false) (bP (jE o m)) (kS)))
   (fun k2=>chain [tB 24 (aM k2)]<|rQ (bP false) (bP (jE o m)) (kS)))
  (fun k1=>chain [tB 21 (aJ k1),.j 80 ⟨111,true,[(40,.e (bP (decide (3<=o.kind/\o.kind<=6)))),(19,.e (iP o.kind)),(5,.e (bP C)),(2,.box 2 0),(1,.e (iP m))],[(2,.cells 99 [(iP o.kind),(iP o.a),(iP o.b),(iP o.n),(iP o.cn),(iP o.cd)])]⟩
   (.w (o.kind=3)
    (fun m1=>chain [.v 40 (.bool (aK m1))]<|.e (chain [tB 40 (og an:true=(decide (3<=o.kind/\o.kind<=6)))]<|.nil))
    (fun m1=>chain [.v 40 (.bool (aJ m1))]<|.w (o.kind=4)
     (fun m2=>chain [tB 42 (aK m2)]<|.e (chain [tB 40 (og an:true=(decide (3<=o.kind/\o.kind<=6)))]<|.nil))
     (fun m2=>chain [tB 42 (aJ m2)]<|.w (o.kind=5)
      (fun m3=>chain [tB 43 (aK m3)]<|.e (chain [tB 40 (og an:true=(decide (3<=o.kind/\o.kind<=6)))]<|.nil))
      (fun m3=>chain [tB 43 (aJ m3)]<|.e (chain [tB 40 (og an:(o.kind==6)=(decide (3<=o.kind/\o.kind<=6)))]<|.nil)))))]<|.w (3<=o.kind/\o.kind<=6)
   (fun k2=>chain [.v 40 (.bool (aS k2))]<|.w (C=true)
    (fun k3=>chain [tB 45 (k3)]<|.w (o.a<m)
     (fun k4=>chain [tB 50 (aS k4)]<|.w (o.b<m)
      (fun k5=>chain [tB 56 (aS k5)]<|rQ (bP (o.n==0)) (bP (jE o m)) (kS))
      (fun k5=>chain [tB 56 (aT k5)]<|rQ (bP false) (bP (jE o m)) (kS)))
     (fun k4=>chain [tB 50 (aT k4)]<|rQ (bP false) (bP (jE o m)) (kS)))
    (fun k3=>chain [tB 45 (aM k3)]<|rQ (bP false) (bP (jE o m)) (kS)))
   (fun k2=>chain [.v 40 (.bool (aT k2))]<|.w (o.kind=8)
    (fun k3=>chain [tB 64 (aK k3)]<|.w (C=true)
     (fun k4=>chain [tB 65 (k4)]<|.w (o.a<m)
      (fun k5=>chain [tB 70 (aS k5)]<|.w (o.b=0)
       (fun k6=>chain [tB 75 (aK k6)]<|.w (0<=o.n)
        (fun k7=>chain [tB 80 (aS k7)]<|rQ (bP (decide (o.n<=16))) (bP (jE o m)) (kS))
        (fun k7=>chain [tB 80 (aT k7)]<|rQ (bP false) (bP (jE o m)) (kS)))
       (fun k6=>chain [tB 75 (aJ k6)]<|rQ (bP false) (bP (jE o m)) (kS)))
      (fun k5=>chain [tB 70 (aT k5)]<|rQ (bP false) (bP (jE o m)) (kS)))
     (fun k4=>chain [tB 65 (aM k4)]<|rQ (bP false) (bP (jE o m)) (kS)))
    (fun k3=>chain [tB 64 (aJ k3),.j 174 ⟨111,true,[(87,.e (bP (decide (o.kind=7\/9<=o.kind/\o.kind<=13)))),(5,.e (bP C)),(2,.box 2 0),(1,.e (iP m))],[(2,.cells 99 [(iP o.kind),(iP o.a),(iP o.b),(iP o.n),(iP o.cn),(iP o.cd)])]⟩
   (.w (o.kind=7)
    (fun m1=>chain [.v 87 (.bool (aK m1))]<|.e (chain [tB 87 (og an:true=(decide (o.kind=7\/9<=o.kind/\o.kind<=13)))]<|.nil))
    (fun m1=>chain [.v 87 (.bool (aJ m1))]<|.w (o.kind=9)
     (fun m2=>chain [tB 89 (aK m2)]<|.e (chain [tB 87 (og an:true=(decide (o.kind=7\/9<=o.kind/\o.kind<=13)))]<|.nil))
     (fun m2=>chain [tB 89 (aJ m2)]<|.w (o.kind=10)
      (fun m3=>chain [tB 90 (aK m3)]<|.e (chain [tB 87 (og an:true=(decide (o.kind=7\/9<=o.kind/\o.kind<=13)))]<|.nil))
      (fun m3=>chain [tB 90 (aJ m3)]<|.w (o.kind=11)
       (fun m4=>chain [tB 91 (aK m4)]<|.e (chain [tB 87 (og an:true=(decide (o.kind=7\/9<=o.kind/\o.kind<=13)))]<|.nil))
       (fun m4=>chain [tB 91 (aJ m4)]<|.w (o.kind=12)
        (fun m5=>chain [tB 92 (aK m5)]<|.e (chain [tB 87 (og an:true=(decide (o.kind=7\/9<=o.kind/\o.kind<=13)))]<|.nil))
        (fun m5=>chain [tB 92 (aJ m5)]<|.e (chain [tB 87 (og an:(o.kind==13)=(decide (o.kind=7\/9<=o.kind/\o.kind<=13)))]<|.nil)))))))]<|.w (o.kind=7\/9<=o.kind/\o.kind<=13)
     (fun k4=>chain [.v 87 (.bool (aS k4))]<|.w (C=true)
      (fun k5=>chain [tB 94 (k5)]<|.w (o.a<m)
       (fun k6=>chain [tB 99 (aS k6)]<|.w (o.b=0)
        (fun k7=>chain [tB 104 (aK k7)]<|rQ (bP (o.n==0)) (bP (jE o m)) (kS))
        (fun k7=>chain [tB 104 (aJ k7)]<|rQ (bP false) (bP (jE o m)) (kS)))
       (fun k6=>chain [tB 99 (aT k6)]<|rQ (bP false) (bP (jE o m)) (kS)))
      (fun k5=>chain [tB 94 (aM k5)]<|rQ (bP false) (bP (jE o m)) (kS)))
     (fun k4=>chain [.v 87 (.bool (aT k4))]<|rQ (bP false) (bP (jE o m)) (kS)))))
theorem Fs(o:mZ)(m:Int)(g:o.ji):gV 133 [(BT o),(iP m)] (bP (jE o m)):=by
 exact tr true Tryz.call133 Tryz.func133 (.w (o.a<0)
  (fun k1=>chain [tB 8 (aS k1)]<|rQ (bP false) (bP (jE o m)) (kS))
  (fun k1=>chain [tB 8 (aT k1)]<|.w (o.b<0)
   (fun k2=>chain [tB 12 (aS k2)]<|rQ (bP false) (bP (jE o m)) (kS))
   (fun k2=>chain [tB 12 (aT k2),.g (Vl g.cn g.cd rfl:pz Tryz.prog .eql 97 (.agg [(iP o.cn),(iP o.cd)]) (.agg [(iP 0),(iP 0)]) (.bool (decide (o.cn=0/\o.cd=0))))]<|ahi o m g (decide (o.cn=0/\o.cd=0)) rfl k1 k2))) ah 
theorem akZ(s:jr)(g:s.ji)(k:Int)(h0:0<=s.im)(h8:s.im<=8)(l2:s.gW.length<=200):gV 135 [(iP k),(.kv 3 fun j_=>[(iP s.im),(jJ s.gW),(jN s.ig)].getD j_ .any)] (bP (!vg s k)):=by
 exact tr true Tryz.call135 Tryz.func135 (.w (k<0)
  (fun k1=>chain [tB 5 (aS k1)]<|rQ (bP true) (bP (!vg s k)) (na (by unfold vg;rw[cQ];simp_all)))
  (fun k1=>chain [tB 5 (aT k1),iq (s.im+(s.gW.length:Int)) ae]<|rQ (bP (decide ((s.im+(s.gW.length:Int))<=k))) (bP (!vg s k)) (na (by unfold vg;rw[cQ];simp_all)))) ah 
theorem ak1(x:RI)(g:x.ji):gV 136 [(uh x)] (bP (!ny x)):=by
 have ga:=g.lo;have gb:=g.hi;by_cases ha:x.all=true
 .have e:ny x=false:=by unfold ny;rw[ha];simp
  rw[e];exact tr true Tryz.call136 Tryz.func136 (chain [tB 4 (ha:x.all=true)]<|.nil) ah 
 .replace ha:x.all=false:=by simpa using ha
  by_cases h1:x.lo.Ok
  .by_cases h2:x.hi.Ok
   .have v1:=h1.valid
    have v2:=h2.valid;have e1:uh x=gZ x.iv:=by rw[<-IN,show x.iv.raw=x by show RI.mk x.lo.dy.raw x.hi.dy.raw x.all=x;rw[h1.eq ga,h2.eq gb]]
    rw[e1];by_cases h3:jm x.lo.dy x.hi.dy<=0
    .have e:ny x=true:=by unfold ny;rw[sd.2 (.inr ⟨ha,h1,h2,h3⟩),ha];rfl
     rw[e];exact tr true Tryz.call136 Tryz.func136 (chain [tB 4 (ha:x.iv.all=false),.c (qg _ af:gV 68 [(gY x.iv.lo)] _),.c (qg _ af:gV 68 [(gY x.iv.hi)] _),.c (nS _ _ af af:gV 37 [(gY x.iv.lo),(gY x.iv.hi)] _),tF 23 (0<(jm x.iv.lo x.iv.hi)) (by show ¬0<jm x.lo.dy x.hi.dy;omega)]<|.nil) ah 
    .have e:ny x=false:=by unfold ny;rw[show nm x=false by simpa using fun q=>(sd.1 q).elim (fun q=>by rw[ha]at q;exact Bool.noConfusion q.1) fun q=>h3 q.2.2.2];rfl
     rw[e];exact tr true Tryz.call136 Tryz.func136 (chain [tB 4 (ha:x.iv.all=false),.c (qg _ af:gV 68 [(gY x.iv.lo)] _),.c (qg _ af:gV 68 [(gY x.iv.hi)] _),.c (nS _ _ af af:gV 37 [(gY x.iv.lo),(gY x.iv.hi)] _),tT 23 (0<(jm x.iv.lo x.iv.hi)) (by show 0<jm x.lo.dy x.hi.dy;omega)]<|.nil) ah 
   .have e:ny x=false:=by unfold ny;rw[show nm x=false by simpa using fun q=>(sd.1 q).elim (fun q=>by rw[ha]at q;exact Bool.noConfusion q.1) fun q=>h2 q.2.2.1];rfl
    rw[e];exact tr true Tryz.call136 Tryz.func136 (chain [tB 4 (ha:x.all=false),.c (A4 _ af true (by simp[h1]):gV 68 [(mF x.lo)] _),.c (A4 _ af false (by simp[h2]):gV 68 [(mF x.hi)] _)]<|.nil) ah 
  .have e:ny x=false:=by unfold ny;rw[show nm x=false by simpa using fun q=>(sd.1 q).elim (fun q=>by rw[ha]at q;exact Bool.noConfusion q.1) fun q=>h1 q.2.1];rfl
   rw[e];exact tr true Tryz.call136 Tryz.func136 (chain [tB 4 (ha:x.all=false),.c (A4 _ af false (by simp[h1]):gV 68 [(mF x.lo)] _)]<|.nil) ah 
theorem ZN(x:RI)(g:x.ji):gV 83 [(uh x)] (bP (!ny x)):=by
 exact tr true Tryz.call83 Tryz.func83 (chain [.c (afJ _ g:gV 84 [(uh x)] _)]<|.w (nm x=true)
  (fun k1=>chain [tB 4 (k1)]<|rQ (bP x.all) (bP (!ny x)) (na (by unfold ny;simp_all)))
  (fun k1=>chain [tB 4 (aM k1)]<|rQ (bP true) (bP (!ny x)) (na (by unfold ny;simp_all)))) ah 
theorem Nw(s:jr)(h0:0<=s.im)(h8:s.im<=8)(l2:s.gW.length<=200)(lu:s.ig.length<=200)(g:s.ji):gV 134 [jN s.ig,.fn 135 [(.kv 3 fun j_=>[(iP s.im),(jJ s.gW),(jN s.ig)].getD j_ .any)]] (bP (!vq s)):=by
 have:=aft true s.ig.length (fun i _=>iP (s.ig.getD i 0)) 135 [(.kv 3 fun j_=>[(iP s.im),(jJ s.gW),(jN s.ig)].getD j_ .any)] (fun i=>!vg s (s.ig.getD i 0)) (fun i _=>akZ s g _ h0 h8 l2) (show s.ig.length<=1000000 by omega);rwa[Pn]at this
theorem Vt(f:FuncId)(l:List RI)(hf:∀ i,gV f [uh (l.getD i ju)] (bP (!ny (l.getD i ju))))(hl:l.length<=1000):gV 17 [kj l,.fn f []] (bP (!((List.range l.length).all fun i=>ny (l.getD i ju)))):=by
 have:=ML true l.length (fun i j=>(yQ (l.getD i ju)).getD j .any) f [] (fun i=>!ny (l.getD i ju)) (fun i _=>hf i) (show l.length<=1000000 by omega);rwa[Pn]at this
theorem ak3(s:jr)(g:s.ji)(sm:s.mn)(hc:¬(0<=s.im/\s.im<=8/\s.gW.length<=200/\s.ig.length<=200)):gV 82 [(lj s)] (bP false):=by
 exact tr true Tryz.call82 Tryz.func82 (.w (s.im<0)
  (fun k1=>chain [tB 10 (aS k1)]<|.nil)
  (fun k1=>chain [tB 10 (aT k1)]<|.w (8<s.im)
   (fun k2=>chain [tB 14 (aS k2)]<|.nil)
   (fun k2=>chain [tB 14 (aT k2)]<|.w (200<(s.gW.length:Int))
    (fun k3=>chain [tB 20 (aS k3)]<|.nil)
    (fun k3=>chain [tB 20 (aT k3)]<|.w (200<(s.ig.length:Int))
     (fun k4=>chain [tB 26 (aS k4)]<|.nil)
     (fun k4=>.x ae))))) ah 
theorem ak4(s:jr)(g:s.ji)(sm:s.mn)(i0:0<=s.im)(i8:s.im<=8)(l1:s.gW.length<=200)(l2:s.ig.length<=200)(N:Nat)(mE:N<s.gW.length)(iH:∀ k,k<N->(jE (s.gW.getD k iV) (s.im+(k:Int)))=true)(hN:(jE (s.gW.getD N iV) (s.im+(N:Int)))=false):gV 82 [(lj s)] (bP false):=by
 exact tr true Tryz.call82 Tryz.func82 (chain [tF 10 (s.im<0) ae,tF 14 (8<s.im) ae,tF 20 (200<(s.gW.length:Int)) ae,tF 26 (200<(s.ig.length:Int)) ae,.s (Sp.jv (WS s N) 0 N ae (fun x hx kf=>by
    have nf:=g.gW x;exact iB (chain [tT 32 ((x:Int)<(s.gW.length:Int)) ae,iX ((x:Int)) (s.gW.length) ae,iq (s.im+(x:Int)) ae,.c (Fs (s.gW.getD x iV) (s.im+(x:Int)) nf),tB 42 (by rw[iH x ae];rfl:(!(jE (s.gW.getD x iV) (s.im+(x:Int))))=false),iq ((x:Int)+1) ae]<|.nil) ah)
  (fun hx=>by
    have nf:=g.gW N;exact iB (chain [tT 32 ((N:Int)<(s.gW.length:Int)) ae,iX ((N:Int)) (s.gW.length) ae,iq (s.im+(N:Int)) ae,.c (Fs (s.gW.getD N iV) (s.im+(N:Int)) nf),tB 42 (by rw[hN];rfl:(!(jE (s.gW.getD N iV) (s.im+(N:Int))))=true)]<|.nil) ah) ak:jq 5 Tryz.f82 (WS s N 0) .ret ⟨85,true,[(2,.e (bP false))],[]⟩) .nil]<|.nil) ah 
theorem ak5(s:jr)(g:s.ji)(sm:s.mn)(i0:0<=s.im)(i8:s.im<=8)(l1:s.gW.length<=200)(l2:s.ig.length<=200)(iH:∀ k,k<s.gW.length->(jE (s.gW.getD k iV) (s.im+(k:Int)))=true)(hu:vq s=false):gV 82 [(lj s)] (bP false):=by
 exact tr true Tryz.call82 Tryz.func82 (chain [tF 10 (s.im<0) ae,tF 14 (8<s.im) ae,tF 20 (200<(s.gW.length:Int)) ae,tF 26 (200<(s.ig.length:Int)) ae,.s (Sp.jv (WT s) 0 s.gW.length ae (fun x hx kf=>by
    have nf:=g.gW x;exact iB (chain [tT 32 ((x:Int)<(s.gW.length:Int)) ae,iX ((x:Int)) (s.gW.length) ae,iq (s.im+(x:Int)) ae,.c (Fs (s.gW.getD x iV) (s.im+(x:Int)) nf),tB 42 (by rw[iH x ae];rfl:(!(jE (s.gW.getD x iV) (s.im+(x:Int))))=false),iq ((x:Int)+1) ae]<|.nil) ah)
  (fun hx=>by
    exact iB (chain [tF 32 ((s.gW.length:Int)<(s.gW.length:Int)) ae]<|.nil) ah) ak:jq 5 Tryz.f82 (WT s 0) (.exit 0) ⟨85,true,[(3,.box 3 0),(1,.box 1 0)],[(3,.cells 25 [(iP s.im),(jJ s.gW),(jN s.ig)]),(1,.cells 28 [(iP s.im),(jJ s.gW),(jN s.ig),(iP s.iA),(kj s.params)])]⟩) .nil,.c (Nw s ae ae ae ae g:gV 134 [(jN s.ig),(.fn 135 [(.kv 3 fun j_=>[(iP s.im),(jJ s.gW),(jN s.ig)].getD j_ .any)])] _),tB 47 (by rw[hu];rfl:(!(vq s))=true)]<|.nil) ah 
theorem ak6(s:jr)(g:s.ji)(sm:s.mn)(i0:0<=s.im)(i8:s.im<=8)(l1:s.gW.length<=200)(l2:s.ig.length<=200)(iH:∀ k,k<s.gW.length->(jE (s.gW.getD k iV) (s.im+(k:Int)))=true)(hu:vq s=true)(hc:¬(1<=s.iA/\s.iA<=4/\(s.ig.length:Int)=s.iA/\s.im=s.iA+(s.params.length:Int)/\s.params.length<=4)):gV 82 [(lj s)] (bP false):=by
 have sp:=sm.params;exact tr true Tryz.call82 Tryz.func82 (chain [tF 10 (s.im<0) ae,tF 14 (8<s.im) ae,tF 20 (200<(s.gW.length:Int)) ae,tF 26 (200<(s.ig.length:Int)) ae,.s (Sp.jv (WU s) 0 s.gW.length ae (fun x hx kf=>by
    have nf:=g.gW x;exact iB (chain [tT 32 ((x:Int)<(s.gW.length:Int)) ae,iX ((x:Int)) (s.gW.length) ae,iq (s.im+(x:Int)) ae,.c (Fs (s.gW.getD x iV) (s.im+(x:Int)) nf),tB 42 (by rw[iH x ae];rfl:(!(jE (s.gW.getD x iV) (s.im+(x:Int))))=false),iq ((x:Int)+1) ae]<|.nil) ah)
  (fun hx=>by
    exact iB (chain [tF 32 ((s.gW.length:Int)<(s.gW.length:Int)) ae]<|.nil) ah) ak:jq 5 Tryz.f82 (WU s 0) (.exit 0) ⟨85,true,[(3,.box 3 0),(1,.box 1 0)],[(3,.cells 25 [(iP s.im),(jJ s.gW),(jN s.ig)]),(1,.cells 28 [(iP s.im),(jJ s.gW),(jN s.ig),(iP s.iA),(kj s.params)])]⟩) .nil,.c (Nw s ae ae ae ae g:gV 134 [(jN s.ig),(.fn 135 [(.kv 3 fun j_=>[(iP s.im),(jJ s.gW),(jN s.ig)].getD j_ .any)])] _),tB 47 (by rw[hu];rfl:(!(vq s))=false)]<|.w (s.iA<1)
  (fun k1=>chain [tB 50 (aS k1)]<|.nil)
  (fun k1=>chain [tB 50 (aT k1)]<|.w (4<s.iA)
   (fun k2=>chain [tB 54 (aS k2)]<|.nil)
   (fun k2=>chain [tB 54 (aT k2)]<|.w ((s.ig.length:Int)=s.iA)
    (fun k3=>chain [tB 62 (aO k3),iq (s.iA+(s.params.length:Int)) ae]<|.w (s.im=(s.iA+(s.params.length:Int)))
     (fun k4=>chain [tB 73 (aO k4)]<|.w (4<(s.params.length:Int))
      (fun k5=>chain [tB 79 (aS k5)]<|.nil)
      (fun k5=>.x ae))
     (fun k4=>chain [tB 73 (aP k4)]<|.nil))
    (fun k3=>chain [tB 62 (aP k3)]<|.nil)))) ah 
theorem ak7(s:jr)(g:s.ji)(sm:s.mn)(i0:0<=s.im)(i8:s.im<=8)(l1:s.gW.length<=200)(l2:s.ig.length<=200)(iH:∀ k,k<s.gW.length->(jE (s.gW.getD k iV) (s.im+(k:Int)))=true)(hu:vq s=true)(s1:1<=s.iA)(s4:s.iA<=4)(e1:(s.ig.length:Int)=s.iA)(e2:s.im=s.iA+(s.params.length:Int))(p4:s.params.length<=4):gV 82 [(lj s)] (bP (Du s)):=by
 have sp:=sm.params;exact tr true Tryz.call82 Tryz.func82 (chain [tF 10 (s.im<0) ae,tF 14 (8<s.im) ae,tF 20 (200<(s.gW.length:Int)) ae,tF 26 (200<(s.ig.length:Int)) ae,.s (Sp.jv (WV s) 0 s.gW.length ae (fun x hx kf=>by
    have nf:=g.gW x;exact iB (chain [tT 32 ((x:Int)<(s.gW.length:Int)) ae,iX ((x:Int)) (s.gW.length) ae,iq (s.im+(x:Int)) ae,.c (Fs (s.gW.getD x iV) (s.im+(x:Int)) nf),tB 42 (by rw[iH x ae];rfl:(!(jE (s.gW.getD x iV) (s.im+(x:Int))))=false),iq ((x:Int)+1) ae]<|.nil) ah)
  (fun hx=>by
    exact iB (chain [tF 32 ((s.gW.length:Int)<(s.gW.length:Int)) ae]<|.nil) ah) ak:jq 5 Tryz.f82 (WV s 0) (.exit 0) ⟨85,true,[(3,.box 3 0),(1,.box 1 0)],[(3,.cells 25 [(iP s.im),(jJ s.gW),(jN s.ig)]),(1,.cells 28 [(iP s.im),(jJ s.gW),(jN s.ig),(iP s.iA),(kj s.params)])]⟩) .nil,.c (Nw s ae ae ae ae g:gV 134 [(jN s.ig),(.fn 135 [(.kv 3 fun j_=>[(iP s.im),(jJ s.gW),(jN s.ig)].getD j_ .any)])] _),tB 47 (by rw[hu];rfl:(!(vq s))=false),tF 50 (s.iA<1) ae,tF 54 (4<s.iA) ae,tB 62 (by simp[e1]:((s.ig.length:Int) != s.iA)=false),iq (s.iA+(s.params.length:Int)) ae,tB 73 (by simp[e2]:(s.im != (s.iA+(s.params.length:Int)))=false),tF 79 (4<(s.params.length:Int)) ae,.c (Vt 136 s.params (fun i=>ak1 _ (g.params i)) ae:gV 17 [(kj s.params),(.fn 136 [])] _)]<|rQ (bP (!(!(Du s)))) (bP (Du s)) (na aj)) ah 
theorem XJ(s:jr)(g:s.ji)(sm:s.mn):gV 82 [lj s] (bP (mA s)):=by
 by_cases c1:0<=s.im/\s.im<=8/\s.gW.length<=200/\s.ig.length<=200
 rotate_left
 .rw [show mA s=false by unfold mA;rw[aT c1];rfl]
  exact ak3 s g sm c1
 obtain⟨i0,i8,l1,l2⟩:=c1;by_cases c2:FQ s=true
 rotate_left
 .rw [show mA s=false by unfold mA;rw[aM c2];simp]
  obtain⟨N,n1,n2,n3⟩:=xJ c2;exact ak4 s g sm i0 i8 l1 l2 N n1 (fun k hk=>by simpa using n3 k hk) (by simpa using n2)
 have iH:∀ k,k<s.gW.length->jE (s.gW.getD k iV) (s.im+(k:Int))=true:=fun k hk=>bF.1 c2 k (bI.2 hk)
 cases hu:vq s with
 |false=>
  rw[show mA s=false by unfold mA;rw[hu];simp];exact ak5 s g sm i0 i8 l1 l2 iH hu
 |true=>
  by_cases c3:1<=s.iA/\s.iA<=4/\(s.ig.length:Int)=s.iA/\s.im=s.iA+(s.params.length:Int)/\s.params.length<=4
  .rw [show mA s=Du s by unfold mA;rw[aS (⟨i0,i8,l1,l2⟩:_/\_),c2,hu,aS c3];simp]
   obtain⟨s1,s4,e1,e2,p4⟩:=c3;exact ak7 s g sm i0 i8 l1 l2 iH hu s1 s4 e1 e2 p4
  .rw [show mA s=false by unfold mA;rw[aT c3];simp]
   exact ak6 s g sm i0 i8 l1 l2 iH hu c3
theorem Kl(s:jr)(b:List RI)(gb:∀ i,(b.getD i ju).ji)(oc:b.length<=1000):gV 42 [(lj s),(kj b)] (bP (qu s.iA b)):=by
 exact tr true Tryz.call42 Tryz.func42 (.w ((b.length:Int)=s.iA)
  (fun k1=>chain [tB 9 (aK k1),.c (Vt 83 b (fun i=>ZN _ (gb i)) oc:gV 17 [(kj b),(.fn 83 [])] _)]<|rQ (bP (!(!((List.range b.length).all fun i=>ny (b.getD i ju))))) (bP (qu s.iA b)) (na (by unfold qu;simp[k1])))
  (fun k1=>chain [tB 9 (aJ k1)]<|rQ (bP false) (bP (qu s.iA b)) (na (by unfold qu;simp[k1])))) ah 
theorem ac4(s:jr)(g:s.ji)(sm:s.mn)(x:List RI)(gx:∀ i,(x.getD i ju).ji)(lv:x.length<=1000)(d:RD)(gd:d.ji)(p:Int)(hd:¬d.Ok):gV 41 [(lj s),(kj x),(mF d),(iP p)] (bP (mD s x d p)):=by
 have uT:xx d=false:=aM fun q=>hd (vo.1 q)
 exact tr true Tryz.call41 Tryz.func41 (chain [.c (XJ _ g sm:gV 82 [(lj s)] _)]<|.w (mA s=true)
  (fun k1=>chain [tB 10 (k1),.c (Kl s x gx lv)]<|.w (qu s.iA x=true)
   (fun k2=>chain [tB 14 (k2),.c (A4 _ af false (by simp[hd]):gV 68 [(mF d)] _)]<|rQ (bP false) (bP (mD s x d p)) (na (by unfold mD;simp[uT,k1,k2])))
   (fun k2=>chain [tB 14 (aM k2)]<|rQ (bP false) (bP (mD s x d p)) (na (by unfold mD;simp[uT,k1,k2]))))
  (fun k1=>chain [tB 10 (aM k1)]<|rQ (bP false) (bP (mD s x d p)) (na (by unfold mD;simp[uT,k1])))) ah 
theorem ac5(s:jr)(g:s.ji)(sm:s.mn)(x:List RI)(gx:∀ i,(x.getD i ju).ji)(lv:x.length<=1000)(d:RD)(gd:d.ji)(p:Int)(hd:d.Ok):gV 41 [(lj s),(kj x),(gY d.dy),(iP p)] (bP (mD s x d p)):=by
 have uT:xx d=true:=vo.2 hd;have hv:=hd.valid;exact tr true Tryz.call41 Tryz.func41 (chain [.c (XJ _ g sm:gV 82 [(lj s)] _)]<|.w (mA s=true)
  (fun k1=>chain [tB 10 (k1),.c (Kl s x gx lv)]<|.w (qu s.iA x=true)
   (fun k2=>chain [tB 14 (k2),.c (qg _ af:gV 68 [(gY d.dy)] _),.c (nT _ af:gV 35 [(gY d.dy)] _)]<|.w (0<(Dy.iK d.dy))
    (fun k3=>chain [tB 23 (aS k3)]<|.w (8<=p)
     (fun k4=>chain [tB 27 (aS k4)]<|rQ (bP (decide (p<=512))) (bP (mD s x d p)) (na (by unfold mD;simp[uT,k1,k2,k3,k4])))
     (fun k4=>chain [tB 27 (aT k4)]<|rQ (bP false) (bP (mD s x d p)) (na (by unfold mD;simp[uT,k1,k2,k3,k4]))))
    (fun k3=>chain [tB 23 (aT k3)]<|rQ (bP false) (bP (mD s x d p)) (na (by unfold mD;simp[uT,k1,k2,k3]))))
   (fun k2=>chain [tB 14 (aM k2)]<|rQ (bP false) (bP (mD s x d p)) (na (by unfold mD;simp[uT,k1,k2]))))
  (fun k1=>chain [tB 10 (aM k1)]<|rQ (bP false) (bP (mD s x d p)) (na (by unfold mD;simp[uT,k1])))) ah 
theorem RK(s:jr)(g:s.ji)(sm:s.mn)(x:List RI)(gx:∀ i,(x.getD i ju).ji)(lv:x.length<=1000)(d:RD)(gd:d.ji)(p:Int):gV 41 [lj s,kj x,mF d,iP p] (bP (mD s x d p)):=by
 by_cases hd:d.Ok
 .have:=ac5 s g sm x gx lv d gd p hd
  rwa[<-KP,hd.eq gd]at this
 .exact ac4 s g sm x gx lv d gd p hd
open Go.RowKit Fp Pu
theorem Vn{a b c d e f:Int}(ha:ku .i64 a)(hb:ku .i64 b)(hc:ku .i64 c)(hd:ku .i64 d)(he:ku .i64 e)(hf:ku .i64 f):
 Tryz.prog.keyLits 10 99 [.int .i64 a,.int .i64 b,.int .i64 c,.int .i64 d,.int .i64 e,.int .i64 f]=some [.int .i64 a,.int .i64 b,.int .i64 c,.int .i64 d,.int .i64 e,.int .i64 f]:=by
 have c1:Tryz.prog.cellsOf 99=6:= ah ;have c2:Tryz.prog.cellsOf 3=1:= ah ;have c3:Tryz.prog.cellsOf 97=2:= ah ;have r:Tryz.prog.keyLits 9 97 [.int .i64 e,.int .i64 f]=some [.int .i64 e,.int .i64 f]:=by
  unfold Program.keyLits;rw[Tryz.underlying97];simp[c3,c2,eZ,Ae he,Ae hf]
 unfold Program.keyLits;rw[Tryz.underlying99];simp[c1,c2,c3,eZ,Ae ha,Ae hb,Ae hc,Ae hd,r]
theorem Ja{a b c d e f a' b' c' d' e' f':Int}(ha:ku .i64 a)(hb:ku .i64 b)(hc:ku .i64 c)(hd:ku .i64 d)(he:ku .i64 e)(hf:ku .i64 f)
 (CD:ku .i64 a') (mo:ku .i64 b') (xX:ku .i64 c') (Bd:ku .i64 d') (he':ku .i64 e') (hf':ku .i64 f'):
 pz Tryz.prog .eql 99 (.agg [iP a,iP b,iP c,iP d,iP e,iP f]) (.agg [iP a',iP b',iP c',iP d',iP e',iP f']) (.bool (decide (a=a'/\b=b'/\c=c'/\d=d'/\e=e'/\f=f'))):=
 ahg (Vn ha hb hc hd he hf) (Vn CD mo xX Bd he' hf') ah ah rfl
theorem ui:ku .i64 0:=by unfold ku;decide
theorem alB{d:Int}(h0:0<=d)(h:d<=1073741824):IntKind.u64.wrap d=(d.natAbs:Int):=by rw[IntKind.wrap_u64];omega
open Go.RowKit Fp Pu
theorem Qy{a b:Nat}:0<=jY a b↔b<=a:=by
 unfold jY;split
 .simp;omega
 .split<;>simp<;>omega
theorem VV(m n:Nat)(hl:(gU m).length<=1000)(hn:n<=65536):gV 148 [gX (gU m),iP (n:Int)] (gX (gU (m*2^n))):=
 Fx (kB m) Tryz.call148 (fun A c w h _=>aja A c (gU m) n w h hl hn) fun A c B w e w' h hB r=>by rw[jC]at r;exact rl B w e w' hB r
theorem ain(m n:Nat)(hl:(gU m).length<=3000)(hn:(gU n).length<=3000):gV 149 [gX (gU m),gX (gU n)] (gX (gU (m+n))):=
 Ar (kB m) (kB n) Tryz.call149 (fun A c B d w h k _=>ajd A B c d (gU m) (gU n) w h k hl hn) fun B w e w' hB r=>by rw[jC,jC]at r;exact rl B w e w' hB r
theorem VW(m n:Nat)(hl:(gU m).length<=3000)(hn:n<=m):gV 151 [gX (gU m),gX (gU n)] (gX (gU (m-n))):=
 Ar (kB m) (kB n) Tryz.call151 (fun A c B d w h k _=>ajb A B c d (gU m) (gU n) w h k hl (lW hn) (by rw[jC,jC];exact hn)) fun B w e w' hB r=>by rw[jC,jC]at r;exact rl B w e w' hB r
theorem aim(m n:Nat)(hl:(gU m).length<=3000)(hn:(gU n).length<=3000):gV 150 [gX (gU m),gX (gU n)] (iP (jY m n)):=by
 refine Ar (kB m) (kB n) Tryz.call150 (fun A c B d w h k _=>WC A B c d (gU m) (gU n) w h k (tn _) (tn _) ae ae) ?_;rw[jC,jC];exact rv
theorem WG(a b:Dy)(ha:uz a)(hb:uz b):gV 98 [(gY a),(gY b)] (gY (iI a b)):=by
 obtain⟨ha1,ha2,ha3⟩:=ha;obtain⟨iZ,mc,pn⟩:=hb;have ba:=vD ha1;have bb:=vD iZ;obtain⟨k,hk⟩:∃ k,min a.e b.e=k:=⟨_,rfl⟩
 exact tr true Tryz.call98 Tryz.func98 (.w (((gU a.m).length:Int)=0)
  (fun k1=>by
   have a0:a.m=0:=qN.1 ae;exact chain [tB 11 (aK k1)]<|rQ (gY b) (gY (iI a b)) (by rw[show iI a b=b by unfold iI;rw[aR a0]]))
  (fun k1=>by
   have a0:a.m≠0:=fun h=>k1 (by rw[qN.2 h];rfl)
   exact chain [tB 11 (aJ k1)]<|.w (((gU b.m).length:Int)=0)
    (fun k2=>by
     have b0:b.m=0:=qN.1 ae;exact chain [tB 16 (aK k2)]<|rQ (gY a) (gY (iI a b)) (by rw[show iI a b=a by unfold iI;rw[aQ a0,aR b0]]))
    (fun k2=>by
     have b0:b.m≠0:=fun h=>k2 (by rw[qN.2 h];rfl)
     have hX:(gU (a.m*2^((a.e-k).toNat))).length<=1400:=ng (by rw[qf a0];omega);have hY:(gU (b.m*2^((b.e-k).toNat))).length<=1400:=ng (by rw[qf b0];omega);have hP:=Ug hX hY;have hM:(gU ((a.m*2^((a.e-k).toNat))-(b.m*2^((b.e-k).toNat)))).length<=1400:=aX (lW (dj _ _)) hX;have hN:(gU ((b.m*2^((b.e-k).toNat))-(a.m*2^((a.e-k).toNat)))).length<=1400:=aX (lW (dj _ _)) hY;exact chain [tB 16 (aJ k2),.o 22 (.int (by rw[<-hk];split<;>omega):PV.le (.e (iP (if b.e<a.e then b.e else a.e))) (.e (iP k))),iq (a.e-k) ae,.o 28 (.int ae:PV.le (.e (iP (a.e-k))) (.e (iP ((a.e-k).toNat:Int)))),.c (VV _ _ ae ae:gV 148 [(gX (gU a.m)),(iP ((a.e-k).toNat:Int))] _),iq (b.e-k) ae,.o 35 (.int ae:PV.le (.e (iP (b.e-k))) (.e (iP ((b.e-k).toNat:Int)))),.c (VV _ _ ae ae:gV 148 [(gX (gU b.m)),(iP ((b.e-k).toNat:Int))] _)]<|.w (a.neg=b.neg)
      (fun k3=>chain [tB 41 (aK k3),.c (ain _ _ ae ae:gV 149 [(gX (gU (a.m*2^((a.e-k).toNat)))),(gX (gU (b.m*2^((b.e-k).toNat))))] _),.c (Dq _ _ _ ae ae ae:gV 76 [(bP a.neg),(gX (gU ((a.m*2^((a.e-k).toNat))+(b.m*2^((b.e-k).toNat))))),(iP k)] _)]<|rQ (gY (canon a.neg ((a.m*2^((a.e-k).toNat))+(b.m*2^((b.e-k).toNat))) k)) (gY (iI a b)) (by have h:=XF (s:=a.neg) a0 b0 hk;rw[show(⟨a.neg,b.m,b.e⟩:Dy)=b by rw[k3]]at h;exact congrArg gY h.symm))
      (fun k3=>chain [tB 41 (aJ k3),.c (aim _ _ ae ae:gV 150 [(gX (gU (a.m*2^((a.e-k).toNat)))),(gX (gU (b.m*2^((b.e-k).toNat))))] _)]<|.w (0<=(jY (a.m*2^((a.e-k).toNat)) (b.m*2^((b.e-k).toNat))))
       (fun k4=>by
        have hc:(b.m*2^((b.e-k).toNat))<=(a.m*2^((a.e-k).toNat)):=Qy.1 k4;exact chain [tB 52 (aS k4),.c (VW _ _ ae ae:gV 151 [(gX (gU (a.m*2^((a.e-k).toNat)))),(gX (gU (b.m*2^((b.e-k).toNat))))] _),.c (Dq _ _ _ ae ae ae:gV 76 [(bP a.neg),(gX (gU ((a.m*2^((a.e-k).toNat))-(b.m*2^((b.e-k).toNat))))),(iP k)] _)]<|rQ (gY (canon a.neg ((a.m*2^((a.e-k).toNat))-(b.m*2^((b.e-k).toNat))) k)) (gY (iI a b)) (congrArg gY (XD (s:=a.neg) (t:=b.neg) a0 b0 hk k3 hc).symm))
       (fun k4=>by
        have hc:(a.m*2^((a.e-k).toNat))<(b.m*2^((b.e-k).toNat)):=gE fun h=>k4 (Qy.2 h)
        exact chain [tB 52 (aT k4),.c (VW _ _ ae ae:gV 151 [(gX (gU (b.m*2^((b.e-k).toNat)))),(gX (gU (a.m*2^((a.e-k).toNat))))] _),.c (Dq _ _ _ ae ae ae:gV 76 [(bP b.neg),(gX (gU ((b.m*2^((b.e-k).toNat))-(a.m*2^((a.e-k).toNat))))),(iP k)] _)]<|rQ (gY (canon b.neg ((b.m*2^((b.e-k).toNat))-(a.m*2^((a.e-k).toNat))) k)) (gY (iI a b)) (congrArg gY (XE (s:=a.neg) (t:=b.neg) a0 b0 hk k3 hc).symm)))))) ah 
theorem BO(a b:Dy)(ha:uz a)(hb:uz b):gV 53 [(gY a),(gY b)] (iP (jm a b)):=by
 have hn:uz (iF b):=⟨hb.len,hb.lo,hb.hi⟩
 exact tr true Tryz.call53 Tryz.func53 (chain [.c (vk _:gV 47 [(gY a)] _),.c (vk _:gV 47 [(gY b)] _)]<|.w ((Dy.iK a)=(Dy.iK b))
  (fun k1=>chain [tB 13 (aO k1)]<|.w ((Dy.iK a)=0)
   (fun k2=>chain [tB 18 (aK k2)]<|rQ (iP 0) (iP (jm a b)) (by rw[Ck,aQ (by simpa using k1),aR k2]))
   (fun k2=>chain [tB 18 (aJ k2),.c (Jo _ ha:gV 97 [(gY a)] _),.c (Jo _ hb:gV 97 [(gY b)] _)]<|.w ((Dy.iu a)=(Dy.iu b))
    (fun k3=>chain [tB 23 (aO k3),.c (rO _:gV 99 [(gY b)] _),.c (WG _ _ ha hn:gV 98 [(gY a),(gY (iF b))] _),.c (vk _:gV 47 [(gY (iI a (iF b)))] _)]<|rQ (iP (Dy.iK (iI a (iF b)))) (iP (jm a b)) (by rw[Ck,aQ (by simpa using k1),aQ k2,aQ (by simpa using k3)]))
    (fun k3=>chain [tB 23 (aP k3),.c (Jo _ ha:gV 97 [(gY a)] _),.c (Jo _ hb:gV 97 [(gY b)] _)]<|.w ((decide ((Dy.iu a)<(Dy.iu b)))=(decide (0<(Dy.iK a))))
     (fun k4=>chain [tB 31 (aK k4)]<|rQ (iP (-1)) (iP (jm a b)) (by rw[Ck,aQ (by simpa using k1),aQ k2,aR k3,aR (by simpa using k4)]))
     (fun k4=>chain [tB 31 (aJ k4)]<|rQ (iP 1) (iP (jm a b)) (by rw[Ck,aQ (by simpa using k1),aQ k2,aR k3,aQ (by simpa using k4)])))))
  (fun k1=>chain [tB 13 (aP k1)]<|.w ((Dy.iK a)<(Dy.iK b))
   (fun k2=>chain [tB 16 (aS k2)]<|rQ (iP (-1)) (iP (jm a b)) (by rw[Ck,aR k1,aR k2]))
   (fun k2=>chain [tB 16 (aT k2)]<|rQ (iP 1) (iP (jm a b)) (by rw[Ck,aR k1,aQ k2])))) ah 
end Go.Proofs.YtdgnpeddgdclhaaGreatDoor
