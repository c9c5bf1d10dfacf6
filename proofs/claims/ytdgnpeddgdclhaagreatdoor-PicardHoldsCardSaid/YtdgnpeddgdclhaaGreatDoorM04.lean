/- Lemmas that the last file uses. -/
import Derived.Test.YtdgnpeddgdclhaaGreatDoorM03
import Derived.DeepKeys
set_option linter.unusedSimpArgs false
set_option linter.unusedVariables false
set_option linter.defProp false
set_option maxHeartbeats 4000000
namespace Go.Proofs.YtdgnpeddgdclhaaGreatDoor
open Go.RowKit Fp Pu
def sY(z:Rat)(k:Nat):Rat:=nA z (2*k+1)/((2*k+1:Nat):Rat)
def AQ(z:Rat)(N:Nat):Rat:=iL (sY z) (N+1)
def nM(z:Iv)(p:Nat):Nat->Iv
 | 0=>z
 |k+1=>iQ (nM z p k) (oq z p) p
def ug(z:Iv)(p:Nat):Nat->Iv
 | 0=>z
 |k+1=>jk (ug z p k) (jS (nM z p (k+1)) (jE ((2*k+3:Nat):Int)) p) p
noncomputable def C7(z:Iv)(p N:Nat):Iv:=mL (jk (ug z p N) (qN (nM z p N)) p) 1
theorem xv{z:Iv}(hz:z.ia){p:Nat}(il:8<=p)(ic:p<=512):∀ k,(nM z p k).ia
 | 0=>hz
 |_+1=>qU _ _ ae ae 
theorem BD{z:Iv}(hz:z.ia){p:Nat}(il:8<=p)(ic:p<=512):∀ k,(ug z p k).ia
 | 0=>hz
 |k+1=>r8 (BD hz il ic k) (vP _ _ ae ae) ae ae 
theorem af2{z:Iv}(hz:z.ia){p:Nat}(il:8<=p)(ic:p<=512)(N:Nat):(C7 z p N).ia:=Jv (r8 (BD hz il ic N) (Ce (xv hz il ic N)) ae ae) 1
theorem N6(r:Rat)(k:Nat):nA r (2*(k+1)+1)=nA r (2*k+1)*(r*r):=by
 show nA r (2*k+1)*r*r=_
 grind
theorem MQ{z:Iv}{r:Rat}(hz:z.ia)(h:z.jY r){p:Nat}(il:8<=p)(ic:p<=512):∀ k,(nM z p k).jY (nA r (2*k+1))
 | 0=>by
  have e:nA r (2*0+1)=r:=by show 1*r=r;grind
  rw[e];exact h
 |k+1=>by
  rw[N6];exact M1 (xv hz il ic k) (JC hz ae ae) ae ae (MQ hz h il ic k) (Oo hz ae ae h)
theorem Ug{z:Iv}{r:Rat}(hz:z.ia)(h:z.jY r){p:Nat}(il:8<=p)(ic:p<=512):∀ k,k<1000000->(ug z p k).jY (AQ r k)
 | 0,_=>by
  have e:AQ r 0=r:=by
   show 0+1*r/((2*0+1:Nat):Rat)=r;have:((2*0+1:Nat):Rat)=1:=rfl;rw[this,cA,show(1:Rat)⁻¹=1 by decide +kernel];grind
  rw[e];exact h
 |k+1,hk=>AO (BD hz il ic k) (vP _ _ ae ae) ae ae (Ug hz h il ic k ae)
  (GX (xv hz il ic (k+1)) (Nd (2*k+3) ae) ae ae (MQ hz h il ic (k+1)) (Vg (2*k+3)))
theorem J8(r:Rat):∀ n,jd (nA r n)=nA (jd r) n
 | 0=>by show jd 1=1;decide +kernel
 |n+1=>by simp only[nA];rw[xN,J8 r n]
theorem YQ(r:Rat)(k:Nat):jd (sY r k)<=nA (jd r) (2*k+1):=by
 unfold sY;have hp:(0:Rat)<((2*k+1:Nat):Rat):=Al (2*k);have h1:(1:Rat)<=((2*k+1:Nat):Rat):=by
  have:=cX (a:=1) (b:=2*k+1);exact this.2 ae 
 have h0:=BY (mN r).1 (2*k+1);rw[cA,xN,J8];have hi:=fp.2 hp;have e:jd (((2*k+1:Nat):Rat)⁻¹)=((2*k+1:Nat):Rat)⁻¹:=by unfold jd;rw[aR (bB hi)]
 rw[e,<-cA];have x0:=QS h0 hp;have xc:=dm (a:=nA (jd r) (2*k+1)) (b:=((2*k+1:Nat):Rat)) aq;generalize nA (jd r) (2*k+1)/((2*k+1:Nat):Rat)=x at *
 have:=cB h1 x0
 grind
theorem Pt{r:Rat}(hr:jd r*2<=1)(N:Nat):∀ d,iL (fun i=>jd (sY r (N+1+i))) d+nA (jd r) (2*(N+d)+1)<=nA (jd r) (2*N+1)
 | 0=>by simp only[iL,bt];grind
 |d+1=>by
  have ih:=Pt hr N d;have h1:=YQ r (N+1+d);have e:2*(N+1+d)+1=2*(N+d+1)+1:= ae ;rw[e,N6]at h1;have e2:2*(N+(d+1))+1=2*(N+d+1)+1:= ae ;rw[e2,N6,iL];have h0:=BY (mN r).1 (2*(N+d)+1);have hz:=(mN r).1;have hs:jd r*jd r*4<=1:=by
   have m:=cB hr (show 0<=jd r*2 by grind)
   grind
  generalize nA (jd r) (2*(N+d)+1)=u at *
  generalize jd r*jd r=v at *
  have m2:=cB hs h0
  grind
theorem af1{z:Iv}{r:Rat}(hz:z.ia)(h:z.jY r)(hr:jd r*2<=1){p:Nat}(il:8<=p)(ic:p<=512){N:Nat}(hN:N<=1000):∀ M,N<=M->(C7 z p N).jY (AQ r M*2):=by
 intro M hM;obtain⟨d,rfl⟩:∃ d,M=N+d:=⟨M-N,ae⟩
 have e1:AQ r (N+d)=AQ r N+iL (fun i=>sY r (N+1+i)) d:=by
  unfold AQ;rw[show N+d+1=N+1+d by omega,DG]
 have t:=Pt hr N d;have b1:=Ca (fun i=>sY r (N+1+i)) d;have p0:=BY (mN r).1 (2*(N+d)+1);have e2:P2 1=2:= ar ;rw[<-e2,e1];refine Od (AO (BD hz il ic N) (Ce (xv hz il ic N)) ae ae (Ug hz h il ic N ae) (Ps (xv hz il ic N) (MQ hz h il ic N) ?_)) 1;rw[J8];grind
theorem akF{z:Iv}(hz:z.ia)(h:Sub z (ph (-1))){p:Nat}(il:8<=p)(ic:p<=512):Sub (oq z p) (ph (-1)):=by
 obtain⟨za,k1,k2⟩:=h.wD rfl;replace k1:(iF (pT (-1))).q<=z.lo.q:=k1;replace k2:z.hi.q<=(pT (-1)).q:=k2;have e:P2 (-1)=1/2:= ar ;rw[oF,qK,e]at k1;rw[qK,e]at k2;have hl:=O8 za;have ha:(iY z).ia:=DQ hz;have hq:=ha.q;have hh:(iY z).hi.q<=1/2:=by
  unfold iY;rw[za];show(my z).q<=1/2;obtain⟨_,_,m⟩:=BF hz.q;have:=hz.q;rcases m with m|m<;>grind
 have G1:=zh (p:=p) ae (n:=-1) ag ag;have A:=wI (zF (iY z).lo (iY z).lo) (p:=p) ae ae;have B:=wJ (zF (iY z).hi (iY z).hi) (p:=p) ae ae;rw[Dj]at A B;rw[e]at G1;have iH:0<=(iY z).lo.q*(iY z).lo.q:=bM hl hl;have hhi:(iY z).hi.q*(iY z).hi.q<=1/2:=by
  have h0:0<=(iY z).hi.q:=bG hl hq;have m:=cB hh h0
  grind
 have a1:=A.2 (-(1/2)) G1.neg aq;have b1:=B.2 (1/2) G1 hhi;unfold oq kE;rw[zp,za];simp only[bq,a6];rw[aQ ae];refine .inr ⟨rfl,?_,?_⟩
 .show (iF (pT (-1))).q<=_
  rw[oF,qK,e];exact a1.2
 .show _<=(pT (-1)).q
  rw[qK,e];exact b1.2
theorem Uf{z:Iv}(hz:z.ia)(h:Sub z (ph (-1))){p:Nat}(il:8<=p)(ic:p<=512):∀ k,k<=900->Sub (nM z p k) (ph (-((k+1:Nat):Int)))
 | 0,_=>h
 |k+1,hk=>by
  have ih:=Uf hz h il ic k ae;have sq:=akF hz h il ic;have vT:=xv hz il ic k;obtain⟨ta,_⟩:=ih.wD rfl;obtain⟨ya,_⟩:=sq.wD rfl;exact DW (M0 vT (JC hz ae ae) ta ya (show 1<=p by omega) ae) ae ae ae (by
   rintro r ⟨a,b,ha,hb,rfl⟩;obtain⟨a1,a2⟩:=Cg.1 (ih.jY ha);obtain⟨b1,b2⟩:=Cg.1 (sq.jY hb);rw[<-Su];exact Pb a1 a2 b1 b2)
theorem af3{z:Iv}(hz:z.ia)(h:z.all=true\/Sub z (ph (-1))){p:Nat}(il:8<=p)(ic:p<=512):∃ N,N<=1000/\(∀ x,x<N->oB (nM z p x) p=false)/\oB (nM z p N) p=true:=by
 have ex:∃ x,x<900/\oB (nM z p x) p=true:=by
  rcases h with h|h
  .exact ⟨0,ae,by show oB z p=true;unfold oB;rw[h];rfl⟩
  .exact ⟨p,ae,XV (xv hz il ic _) (Uf hz h il ic p ae)⟩
 obtain⟨N,n1,n2,n3⟩:=qI ex;exact⟨N,ae,n3,n2⟩
theorem Y5{a b:Rat}(h:a<=b)(k:Nat):sY a k<=sY b k:=by
 unfold sY;rw[cA,cA];exact b8 (N5 ae h) (bB (fp.2 (Al (2*k))))
theorem Gj{a b:Rat}(h:a<=b)(N:Nat):AQ a N<=AQ b N:=B4 _ fun k _=>Y5 h k
open Go.RowKit Fp Pu
theorem FC{d:Dy}(h:d.m≠0):jd d.q<P2 d.iu:=by
 have hT:d.iu=(ib d.m:Int)+d.e:=by unfold Dy.iu;rw[aQ h]
 have h1:(d.m:Rat)<((2^ib d.m:Nat):Rat):=Rat.natCast_lt_natCast.2 (oN d.m);have h2:=dO h1 (mZ d.e);rw[<-uG,<-qn]at h2;have h0:0<=(d.m:Rat)*P2 d.e:=bM cF (bB (mZ _));have h4:jd d.q=(d.m:Rat)*P2 d.e:=by
  rw[qv];unfold jd;cases d.neg
  .simp only[bq,a6];rw[aR h0]
  .simp only[bk]
   split<;>grind
 rw[h4,hT];exact h2
theorem NC{d:Dy}(h:d.m≠0):P2 (d.iu-1)<=jd d.q:=by
 have hT:d.iu=(ib d.m:Int)+d.e:=by unfold Dy.iu;rw[aQ h]
 have hb:0<ib d.m:=sk.2 (by rw[bN];omega);have h1:2^(ib d.m-1)<=d.m:=sk.1 ae;have h2:((2^(ib d.m-1):Nat):Rat)<=(d.m:Rat):=cX.2 h1;have h3:=b8 h2 (bB (mZ d.e));rw[<-uG,<-qn,show((ib d.m-1:Nat):Int)+d.e=d.iu-1 by rw[hT];omega]at h3;have h4:jd d.q=(d.m:Rat)*P2 d.e:=by
  have h0:0<=(d.m:Rat)*P2 d.e:=bM cF (bB (mZ _));rw[qv];unfold jd;cases d.neg
  .simp only[bq,a6];rw[aR h0]
  .simp only[bk]
   split<;>grind
 rw[h4];exact h3
theorem Dh{d:Dy}(h:0<d.q):d.m≠0:=fun e=>by
 have:d.q=0:=by rw[qv,e];simp
 grind
theorem Gr{r:Rat}(h:0<r):jd r=r:=by unfold jd;rw[aR (bB h)]
def vh(d:Dy):Rat:=d.q*P2 (-d.iu)
def zg(d:Dy):Rat:=(vh d-1)/(vh d+1)
theorem OW(k:Int):P2 k*P2 (-k)=1:=by rw[<-qn,show k + -k=0 by omega,J2]
theorem UP{d:Dy}(h:0<d.q):1/2<=vh d/\vh d<1:=by
 have h1:=NC (Dh h);have h2:=FC (Dh h);rw[Gr h]at h1 h2;have hp:=mZ (-d.iu);have e1:=OW d.iu;have e2:P2 (d.iu-1)*P2 (-d.iu)=1/2:=by
  rw[<-qn,show d.iu-1 + -d.iu = -1 by omega];decide +kernel
 have m1:=b8 h1 (bB hp);have m2:=dO h2 hp;unfold vh;constructor<;>grind
theorem Lh{a b:Rat}(ha:0<=a)(h:a<=b):(a-1)/(a+1)<=(b-1)/(b+1):=by
 have h1:0<a+1:= aq ;have h2:0<b+1:= aq ;have e1:=dm (a:=a-1) (b:=a+1) aq;have e2:=dm (a:=b-1) (b:=b+1) aq;generalize (a-1)/(a+1)=x at *
 generalize (b-1)/(b+1)=y at *
 apply dp.1;intro iD;have m1:=dO iD h1;have hy:y<1:=by
  apply Rat.not_le.1;intro hle;have:=b8 hle (bB h2)
  grind
 have m2:=cB h (show 0<=1-y by grind)
 grind
theorem OO{d:Dy}(h:0<d.q):-(1/3)<=zg d/\zg d<=0:=by
 obtain⟨h1,h2⟩:=UP h;have a:=Lh (show(0:Rat)<=1/2 by decide +kernel) h1;have b:=Lh (show 0<=vh d by grind) (bB h2);have e1:((1:Rat)/2-1)/(1/2+1) = -(1/3):= ar ;have e2:((1:Rat)-1)/(1+1)=0:= ar ;rw[e1]at a;rw[e2]at b;exact⟨a,b⟩
theorem JY(z:Rat)(N:Nat):AQ (-z) N = -AQ z N:=by
 have:∀ n,iL (sY (-z)) n = -iL (sY z) n:=by
  intro n
  induction n with
  |zero=>simp[iL]
  |succ n ih=>
   rw[iL,iL,ih];have:sY (-z) n = -sY z n:=by
    unfold sY;rw[BX,aQ ae];simp only[cA];grind
   rw[this];grind
 exact this _
theorem OP(N:Nat):AQ 0 N=0:=by
 have:=JY 0 N;rw[show -(0:Rat)=0 by decide +kernel]at this
 grind
theorem Yx(N:Nat):0<=AQ (1/3) N:=by
 have:=Gj (show(0:Rat)<=1/3 by decide +kernel) N;rwa[OP]at this
def LQ(d:Dy)(N:Nat):Rat:=AQ (zg d) N*2+(d.iu:Rat)*(AQ (1/3) N*2)
theorem alg{a b:Dy}(ha:0<a.q)(h:a.q<=b.q):a.iu<=b.iu:=by
 have hb:0<b.q:= aq ;have h1:=NC (Dh ha);have h2:=FC (Dh hb);rw[Gr ha]at h1;rw[Gr hb]at h2;apply bE;intro iD;have:=DM (show b.iu<=a.iu-1 by omega)
 grind
theorem YH{a b:Dy}(ha:0<a.q)(h:a.q<=b.q)(N:Nat):LQ a N<=LQ b N:=by
 have hb:0<b.q:= aq ;have ht:=alg ha h;obtain⟨a1,a2⟩:=OO ha;obtain⟨b1,b2⟩:=OO hb;have c0:=Yx N;unfold LQ;rcases Int.lt_or_eq_of_le ht with iD|heq
 .have k1:=Gj a2 N
  rw[OP]at k1;have k2:=Gj b1 N;rw[JY]at k2;have k3:(a.iu:Rat)+1<=(b.iu:Rat):=by
   have:=fL (a:=a.iu+1) (b:=b.iu);have:=this.2 ae;rwa[Rat.intCast_add]at this
  have k4:=b8 k3 (show 0<=AQ (1/3) N*2 by grind)
  grind
 .have hm:vh a<=vh b:=by
   unfold vh;rw[heq];exact b8 h (bB (mZ _))
  have hz:zg a<=zg b:=Lh (by have:=(UP ha).1;grind) hm;have:=Gj hz N;rw[heq]
  grind
theorem YI(N:Nat):LQ ⟨false,1,0⟩ N=0:=by
 have e1:zg ⟨false,1,0⟩ = -(1/3):= ar ;have e2:((⟨false,1,0⟩:Dy).iu:Rat)=1:= ar ;unfold LQ;rw[e1,e2,JY];grind
open Go.RowKit Fp Pu
noncomputable def tz(d:Dy)(p:Nat):Iv:=mL (lM (mf d) p) (-d.iu)
noncomputable def C8(d:Dy)(p:Nat):Iv:=jS (jk (tz d p) (jE (-1)) p) (jk (tz d p) (jE 1) p) p
theorem X0{d:Dy}(hd:d.ia)(h:d.m≠0):-16384<=d.iu-1/\d.iu<=16384:=by
 have hT:d.iu=(ib d.m:Int)+d.e:=by unfold Dy.iu;rw[aQ h]
 have hb:0<ib d.m:=sk.2 (by rw[bN];omega);have h1:=hd.range;unfold mQ at h1;have h2:=hd.exp;constructor
 .omega
 .rw [hT]
  first|omega|(rcases h1 with h1|h1<;>first|omega|exact absurd h1 h)
theorem ajG{d:Dy}(hd:d.ia)(h:0<d.q){p:Nat}(il:8<=p)(ic:p<=512)(ha:(lM (mf d) p).all=false):P2 (d.iu-1)<=(lM (mf d) p).lo.q/\(lM (mf d) p).hi.q<=P2 d.iu:=by
 have hm:=Dh h;obtain⟨t1,t2⟩:=X0 hd hm;have q1:=NC hm;have q2:=FC hm;rw[Gr h]at q1 q2;have A:=wI hd.canon (p:=p) ae ae;have B:=wJ hd.canon (p:=p) ae ae;have G1:G p (P2 (d.iu-1)):=.inl ⟨1,d.iu-1,by rw[uK];omega,t1,by rw[uK];omega,aj⟩;have he:¬(jz d p false≠0\/jz d p true≠0):=by
  intro hc;unfold lM kE at ha;rw[show(mf d).all=false from rfl]at ha;simp only[bq,a6]at ha;rw[aR (show jz (mf d).lo p false≠0\/jz (mf d).hi p true≠0 from hc)]at ha;cases ha
 have e1:(lM (mf d) p).lo=jj d p false/\(lM (mf d) p).hi=jj d p true:=by
  unfold lM kE;rw[show(mf d).all=false from rfl];simp only[bq,a6];rw[aQ (show ¬(jz (mf d).lo p false≠0\/jz (mf d).hi p true≠0)from he)];exact⟨rfl,rfl⟩
 rw[e1.1,e1.2];refine⟨(A.2 _ G1 q1).2,?_⟩;by_cases ht:d.iu<=16383
 .have G2:G p (P2 d.iu):=.inl ⟨1,d.iu,by rw[uK];omega,ae,by rw[uK];omega,aj⟩
  exact(B.2 _ G2 (bB q2)).2
 .obtain ⟨g,_⟩:=B.1 ae 
  have Tc:0<=(jj d p true).q:=bG (bB h) (B.1 ae).2;obtain⟨m,e,hb,_,hr,hv⟩:=g.pos Tc;rw[hv];have h1:(m:Rat)<=((2^ib m:Nat):Rat):=cX.2 (cW (oN m));have h2:=b8 h1 (bB (mZ e));rw[<-uG,<-qn]at h2;exact bG h2 (DM ae)
theorem agl{d:Dy}(hd:d.ia){p:Nat}(il:8<=p)(ic:p<=512):(tz d p).jY (vh d):=Od (FP (vt hd) ae ae (Ny d)) _
theorem agn{d:Dy}(hd:d.ia){p:Nat}(il:8<=p)(ic:p<=512):(tz d p).ia:=Jv (Du (vt hd) ae ae) _
theorem agm{d:Dy}(hd:d.ia)(h:0<d.q){p:Nat}(il:8<=p)(ic:p<=512)(ha:(tz d p).all=false):1/2<=(tz d p).lo.q/\(tz d p).hi.q<=1:=by
 unfold tz mL at ha ⊢;cases ra:(lM (mf d) p).all
 .rw [ra]at ha
  obtain⟨h1,h2⟩:=ajG hd h il ic ra;simp only[bq,a6]at ha ⊢;unfold kE at ha ⊢;split
  .rename_i he
   rw[aR he]at ha;cases ha
  .rename_i he
   have e1:=OW d.iu;have e2:P2 (d.iu-1)*P2 (-d.iu)=1/2:=by
    rw[<-qn,show d.iu-1 + -d.iu = -1 by omega];decide +kernel
   refine⟨?_,?_⟩
   .show 1/2<=(sU _ _).q
    rw[AE ae,<-e2,vi];exact h1
   .show (sU _ _).q<=1
    rw[AE ae,<-e1,vi];exact h2
 .rw [ra]at ha;cases ha
theorem aec{a b:Rat}(h1:-(1/2)<=a)(h2:a<=1/2)(hb:1<=b):-(1/2)<=a/b/\a/b<=1/2:=by
 have e:=dm (a:=a) (b:=b) aq;generalize a/b=x at *
 constructor
 .apply dp.1
  intro iD;have:=dO iD (show 0<b by grind)
  grind
 .apply dp.1
  intro iD;have:=dO iD (show 0<b by grind)
  grind
theorem ago{d:Dy}(hd:d.ia)(h:0<d.q){p:Nat}(il:8<=p)(ic:p<=512):(C8 d p).ia/\(C8 d p).jY (zg d)/\((C8 d p).all=true\/Sub (C8 d p) (ph (-1))):=by
 have vM:=agn hd il ic;have hM:=agl hd il ic;have vn:(jE (-1)).ia:=vj ag;have v1:(jE 1).ia:=vj ag;have vA:(jk (tz d p) (jE (-1)) p).ia:=r8 vM vn ae ae;have vB:(jk (tz d p) (jE 1) p).ia:=r8 vM v1 ae ae;have e1:(((-1:Int)):Rat) = -1:= ar ;have e2:(((1:Int)):Rat)=1:= ar ;have hA:=AO vM vn (p:=p) ae ae hM (yP (-1));have hB:=AO vM v1 (p:=p) ae ae hM (yP 1);rw[e1,show vh d + -1=vh d-1 by grind]at hA;rw[e2]at hB;refine⟨vP _ _ ae ae,GX vA vB ae ae hA hB,?_⟩;cases ma:(tz d p).all
 .right
  obtain⟨m1,m2⟩:=agm hd h il ic ma;have one:∀ (n:Int) r,(jE n).jY r->r=(n:Rat):=fun n r hr=>by
   obtain⟨r1,r2⟩:=hr.ki rfl;replace r1:(je n).q<=r:=r1;replace r2:r<=(je n).q:=r2;rw[xB]at r1 r2;exact dN r2 r1
  have g1:G p (1/2):=by have:=zh (p:=p) ae (n:=-1) ag ag;rwa[show P2 (-1)=1/2 by decide +kernel]at this
  have g2:G p 1:=by have:=zh (p:=p) ae (n:=0) ag ag;rwa[J2]at this
  have g4:G p 2:=by have:=zh (p:=p) ae (n:=1) ag ag;rwa[show P2 1=2 by decide +kernel]at this
  obtain⟨aa,a1,a2⟩:=(J9 vM vn ma rfl (show 1<=p by omega) ae).xt (-(1/2)) (1/2) g1.neg g1 (by
   rintro r ⟨a,b,ha,hb,rfl⟩;obtain⟨b1,b2⟩:=ha.ki ma;rw[one _ b hb,e1];constructor<;>grind)
  obtain⟨ba,b1,b2⟩:=(J9 vM v1 ma rfl (show 1<=p by omega) ae).xt 1 2 g2 g4 (by
   rintro r ⟨a,b,ha,hb,rfl⟩;obtain⟨b1,b2⟩:=ha.ki ma;rw[one _ b hb,e2];constructor<;>grind)
  refine DW (GW vA vB aa (Ol ba (.inl aq)) (show 1<=p by omega) ae) ae ag ag ?_;rintro r ⟨a,b,ha,hb,rfl⟩;obtain⟨x1,x2⟩:=ha.ki aa;obtain⟨y1,y2⟩:=hb.ki ba;rw[show P2 (-1)=1/2 by decide +kernel];exact aec aq aq aq 
 .left
  show(jS (jk (tz d p) (jE (-1)) p) (jk (tz d p) (jE 1) p) p).all=true;rw[Gs p (.inl ma),D5 p (.inl rfl)];rfl
theorem acE{d:Dy}(hd:d.ia)(h:d.m≠0){p:Nat}(il:8<=p)(ic:p<=512){n:Int}(h1:d.iu<=n)(h2:-1000<=n)(h3:n<=1000):Sub (lM (mf d) p) (ph n):=by
 refine ajF (vt hd) ae ae h2 h3 (.inr ⟨rfl,?_,?_⟩)
 .show (iF (pT n)).q<=d.q
  rw[oF,qK];have:=FC h;have hl:=DM h1;obtain⟨_,a2,a3,_⟩:=mN d.q
  grind
 .show d.q<=(pT n).q
  rw[qK];have:=FC h;have hl:=DM h1;obtain⟨_,a2,a3,_⟩:=mN d.q
  grind
open Go.RowKit Fp Pu
def Yk(y:Iv)(p n:Nat)(x:Nat):PS:=⟨32,true,[(7,.e (iP (((x+1):Nat):Int))),(6,.box 6 0),(5,.box 5 0),(4,.box 4 0),(3,.box 3 0),(2,.box 2 0)],[(6,.cells 41 (iZ (s9 y p x))),(5,.cells 41 (iZ (lq y p x))),(4,.cells 41 [(bP false),(.v (.slice none 0 0)),(iP 0),(bP false),(.v (.slice none 0 0)),(iP 0),(bP false)]),(3,.cells 41 (iZ y)),(2,.cells 201 [(iP p)])]⟩
theorem af6{f:Nat->Rat}{X Y:Iv}(h:pf f X)(k:∀ r,X.jY r->Y.jY r):pf f Y:=fun ε hε=>by
 obtain⟨N0,h0⟩:=h ε hε;exact⟨N0,fun N hN=>by obtain⟨r,h1,h2⟩:=h0 N hN;exact⟨r,k r h1,h2⟩⟩
theorem ivW{x:Iv}(hx:x.ia)(ha:x.all=true):x=ie:=by
 obtain⟨h1,h2⟩:=MH hx ha;obtain⟨a,b,c⟩:=x;simp only at h1 h2 ha;rw[h1,h2,ha];rfl
theorem Zq(x:Iv)(hx:x.ia)(xa:x.all=true)(k:Int)(k1:-32768<=k)(k2:k<=32768):gU 259 [(gZ x),(iP k)] (gZ (mL x k)):=by
 exact tr true Tryz.call259 Tryz.func259 (chain [.o 10 (.e (mC _):PV.le (.e (.sl true 1 7 fun i_ j_=>(iZ x).getD (i_*7+j_) (.v (.bool false)))) (.e (ig [x]))),.c (pQ _ af:gU 86 [(ig [x])] _),tB 11 (by rw[xa];rfl:(!x.all)=false),.c nu]<|rQ (gZ ie) (gZ (mL x k)) (by rw[show(mL x k)=ie by unfold mL;rw[aR xa]])) ah 
theorem Zr(x:Iv)(hx:x.ia)(xa:x.all=false)(k:Int)(k1:-32768<=k)(k2:k<=32768):gU 259 [(gZ x),(iP k)] (gZ (mL x k)):=by
 obtain⟨v1,v2⟩:=hx.ki;exact tr true Tryz.call259 Tryz.func259 (chain [.o 10 (.e (mC _):PV.le (.e (.sl true 1 7 fun i_ j_=>(iZ x).getD (i_*7+j_) (.v (.bool false)))) (.e (ig [x]))),.c (pQ _ af:gU 86 [(ig [x])] _),tB 11 (by rw[xa];rfl:(!x.all)=true),.c (Kh x.lo k af ae ae),.c (Kh x.hi k af ae ae),.c (BB (kB (canon x.lo.neg x.lo.m (x.lo.e+k))) (kB (canon x.hi.neg x.hi.m (x.hi.e+k))) (mJ (canon x.lo.neg x.lo.m (x.lo.e+k))) (mJ (canon x.hi.neg x.hi.m (x.hi.e+k))))]<|rQ (gZ (kE (kB (canon x.lo.neg x.lo.m (x.lo.e+k))) (mJ (canon x.lo.neg x.lo.m (x.lo.e+k))) (kB (canon x.hi.neg x.hi.m (x.hi.e+k))) (mJ (canon x.hi.neg x.hi.m (x.hi.e+k))))) (gZ (mL x k)) (by unfold mL;rw[aQ (by rw[xa];decide)];simp only[ajZ,aj0])) ah 
theorem Kg(x:Iv)(hx:x.ia)(k:Int)(k1:-32768<=k)(k2:k<=32768):gU 259 [(gZ x),(iP k)] (gZ (mL x k)):=by
 cases xa:x.all with
 |true=>exact Zq x hx xa k k1 k2
 |false=>exact Zr x hx xa k k1 k2
theorem Zo(x:Iv)(hx:x.ia)(xa:x.all=true)(p:Nat)(il:8<=p)(ic:p<=512):gU 305 [(gZ x),(iP p)] (gZ (lM x p)):=by
 exact tr true Tryz.call305 Tryz.func305 (chain [.o 10 (.e (mC _):PV.le (.e (.sl true 1 7 fun i_ j_=>(iZ x).getD (i_*7+j_) (.v (.bool false)))) (.e (ig [x]))),.c (pQ _ af:gU 86 [(ig [x])] _),tB 11 (by rw[xa];rfl:(!x.all)=false),.c nu]<|rQ (gZ ie) (gZ (lM x p)) (by rw[show(lM x p)=ie by unfold lM;rw[aR xa]])) ah 
theorem Zp(x:Iv)(hx:x.ia)(xa:x.all=false)(p:Nat)(il:8<=p)(ic:p<=512):gU 305 [(gZ x),(iP p)] (gZ (lM x p)):=by
 obtain⟨v1,v2⟩:=hx.ki;exact tr true Tryz.call305 Tryz.func305 (chain [.o 10 (.e (mC _):PV.le (.e (.sl true 1 7 fun i_ j_=>(iZ x).getD (i_*7+j_) (.v (.bool false)))) (.e (ig [x]))),.c (pQ _ af:gU 86 [(ig [x])] _),tB 11 (by rw[xa];rfl:(!x.all)=true),.c (vf _:gU 87 [(iP p)] _),tB 15 (o0.2 ⟨ae,ae⟩:(lp (p:Int))=true),.c (Gx x.lo p af ae ae),.c (Gy x.hi p af ae ae),.c (BB (jj x.lo p false) (jj x.hi p true) (jz x.lo p false) (jz x.hi p true))]<|rQ (gZ (kE (jj x.lo p false) (jz x.lo p false) (jj x.hi p true) (jz x.hi p true))) (gZ (lM x p)) (by unfold lM;rw[aQ (by rw[xa];decide)])) ah 
theorem DT(x:Iv)(hx:x.ia)(p:Nat)(il:8<=p)(ic:p<=512):gU 305 [(gZ x),(iP p)] (gZ (lM x p)):=by
 cases xa:x.all with
 |true=>exact Zo x hx xa p il ic
 |false=>exact Zp x hx xa p il ic
theorem Zs(x:Iv)(hx:x.ia)(xa:x.all=true)(p:Nat)(il:8<=p)(ic:p<=512):gU 321 [(gZ x),(iP p)] (gZ (oq x p)):=by
 have ha:(iY x).all=true:=by rw[zp,xa]
 exact tr true Tryz.call321 Tryz.func321 (chain [.c (ME x af),tB 13 (ha:(iY x).all=true),.c nu]<|rQ (gZ ie) (gZ (oq x p)) (by unfold oq;rw[aR ha])) ah 
theorem Zt(x:Iv)(hx:x.ia)(xa:x.all=false)(p:Nat)(il:8<=p)(ic:p<=512):gU 321 [(gZ x),(iP p)] (gZ (oq x p)):=by
 have ha:(iY x).all=false:=by rw[zp,xa]
 have hv:=DQ hx;obtain⟨v1,v2⟩:=hv.ki;exact tr true Tryz.call321 Tryz.func321 (chain [.c (ME x af),tB 13 (ha:(iY x).all=false),.c (vf _:gU 87 [(iP p)] _),tB 16 (o0.2 ⟨ae,ae⟩:(lp (p:Int))=true),.c (Jj ((iY x).lo) ((iY x).lo) p af af ae ae),.c (Jk ((iY x).hi) ((iY x).hi) p af af ae ae),.c (BB (jj (mq ((iY x).lo) ((iY x).lo)) p false) (jj (mq ((iY x).hi) ((iY x).hi)) p true) (jz (mq ((iY x).lo) ((iY x).lo)) p false) (jz (mq ((iY x).hi) ((iY x).hi)) p true))]<|rQ (gZ (kE (jj (mq ((iY x).lo) ((iY x).lo)) p false) (jz (mq ((iY x).lo) ((iY x).lo)) p false) (jj (mq ((iY x).hi) ((iY x).hi)) p true) (jz (mq ((iY x).hi) ((iY x).hi)) p true))) (gZ (oq x p)) (by unfold oq;rw[aQ (by rw[ha];decide)];rfl)) ah 
theorem PG(x:Iv)(hx:x.ia)(p:Nat)(il:8<=p)(ic:p<=512):gU 321 [gZ x,iP (p:Int)] (gZ (oq x p)):=by
 cases xa:x.all with
 |true=>exact Zs x hx xa p il ic
 |false=>exact Zt x hx xa p il ic
theorem PH(x:Iv)(hx:x.ia)(xa:x.all=true):gU 298 [(gZ x)] (.iw [gY jA,bP false]):=by
 exact tr true Tryz.call298 Tryz.func298 (chain [.o 5 (.e (mC _):PV.le (.e (.sl true 1 7 fun i_ j_=>(iZ x).getD (i_*7+j_) (.v (.bool false)))) (.e (ig [x]))),.c (pQ _ af:gU 86 [(ig [x])] _),tB 6 (by rw[xa];rfl:(!x.all)=false),.o 8 (.e vE:PV.le (.e (.agg [(bP false),(.v (.slice none 0 0)),(iP 0)])) (.e (gY jA)))]<|.nil) ah 
theorem wO(n:Int)(h:n.natAbs<4294967296):gU 303 [(iP n)] (gZ (jE n)):=by
 have hv:=si h;exact tr true Tryz.call303 Tryz.func303 (chain [.c (qO _ ae:gU 113 [(iP n)] _),.c (C4 (je n) af)]<|.nil) ah 
theorem AL(p:Nat)(x y:Iv)(hx:x.ia)(hy:y.ia)(il:8<=p)(ic:p<=512):gU 308 [(.agg [(iP p)]),(gZ x),(gZ y)] (gZ (jk x y p)):=by
 exact tr true Tryz.call308 Tryz.func308 (chain [.c (C2 x y p af af ae ae)]<|.nil) ah 
theorem JW(p:Nat)(x y:Iv)(hx:x.ia)(hy:y.ia)(il:8<=p)(ic:p<=512):gU 310 [(.agg [(iP p)]),(gZ x),(gZ y)] (gZ (iQ x y p)):=by
 exact tr true Tryz.call310 Tryz.func310 (chain [.c (ET x y p af af ae ae)]<|.nil) ah 
theorem F9(p:Nat)(x y:Iv)(hx:x.ia)(hy:y.ia)(il:8<=p)(ic:p<=512):gU 307 [(.agg [(iP p)]),(gZ x),(gZ y)] (gZ (jS x y p)):=by
 exact tr true Tryz.call307 Tryz.func307 (chain [.c (T2 x y p af af ae ae)]<|.nil) ah 
theorem alW(p:Nat)(x:Iv)(hx:x.ia)(xa:x.all=true)(il:8<=p)(ic:p<=512):gU 322 [(.agg [(iP p)]),(gZ x)] (bP (oB x p)):=by
 exact tr true Tryz.call322 Tryz.func322 (chain [.c (PH _ hx xa:gU 298 [(gZ x)] _)]<|rQ (bP true) (bP (oB x p)) (by unfold oB;rw[xa];rfl)) ah 
theorem XU{x:Iv}(xa:x.all=false)(p:Nat):oB x p=(((my x).iJ==0)||decide ((my x).iu<=0-(p:Int))):=by
 unfold oB;rw[xa,amM];congr 1
 .unfold Dy.iJ
  by_cases h:(my x).m=0
  .simp [h]
  .simp only[h,a6,decide_false];split<;>rfl
 .rw [show(0:Int)-(p:Int) = -(p:Int)by omega]
theorem alX(p:Nat)(x:Iv)(hx:x.ia)(xa:x.all=false)(il:8<=p)(ic:p<=512):gU 322 [(.agg [(iP p)]),(gZ x)] (bP (oB x p)):=by
 have hm:=IT hx.ki.1 hx.ki.2;exact tr true Tryz.call322 Tryz.func322 (chain [.c (MG x hx xa),.c (nU _ af:gU 35 [(gY (my x))] _)]<|.w ((Dy.iJ (my x))=0)
  (fun k1=>chain [tB 17 (aK k1)]<|rQ (bP true) (bP (oB x p)) (by rw[XU xa];simp[k1]))
  (fun k1=>chain [tB 17 (aJ k1),.c (oD _ af:gU 130 [(gY (my x))] _),iq (0-(p:Int)) ae]<|rQ (bP (decide ((Dy.iu (my x))<=(0-(p:Int))))) (bP (oB x p)) (by rw[XU xa];simp[k1]))) ah 
theorem JX(p:Nat)(x:Iv)(hx:x.ia)(il:8<=p)(ic:p<=512):gU 322 [(.agg [(iP p)]),(gZ x)] (bP (oB x p)):=by
 cases xa:x.all with
 |true=>exact alW p x hx xa il ic
 |false=>exact alX p x hx xa il ic
theorem al0(x:Iv)(hx:x.ia)(xa:x.all=true):gU 323 [(gZ x)] (gZ (qN x)):=by
 exact tr true Tryz.call323 Tryz.func323 (chain [.c (PH _ hx xa:gU 298 [(gZ x)] _),.c nu]<|rQ (gZ ie) (gZ (qN x)) (by rw[show qN x=ie by unfold qN;rw[aR xa];exact ivW hx xa])) ah 
theorem al1(x:Iv)(hx:x.ia)(xa:x.all=false):gU 323 [(gZ x)] (gZ (qN x)):=by
 have hm:=IT hx.ki.1 hx.ki.2;exact tr true Tryz.call323 Tryz.func323 (chain [.c (MG x hx xa),.c (xW _ af:gU 191 [(gY (my x))] _)]<|rQ (gZ (Iv.mk (iF (my x)) (my x) false)) (gZ (qN x)) (by unfold qN;rw[aQ (by rw[xa];decide)];try rfl)) ah 
theorem Yr(x:Iv)(hx:x.ia):gU 323 [gZ x] (gZ (qN x)):=by
 cases xa:x.all with
 |true=>exact al0 x hx xa
 |false=>exact al1 x hx xa
theorem alR(y:Iv)(p n:Nat)(hy:y.ia)(il:8<=p)(ic:p<=512)(h2:n<=1000)(iH:∀ x,x<n->oB (lq y p (x+1)) p=false)(hN:oB (lq y p (n+1)) p=true):gU 320 [(.agg [(iP p)]),(gZ y)] (gZ (xX y p (n+1))):=by
 have t0:=vC hy il ic n;have s0:=Cs hy il ic n;have t1:(iQ (lq y p n) y p).ia:=qU _ _ ae ae;have n1:(jE (((n+1:Nat)):Int)).ia:=BJ _ ae;have t2:(jS (iQ (lq y p n) y p) (jE (((n+1:Nat)):Int)) p).ia:=vP _ _ ae ae;have a1:(jk (s9 y p n) (jS (iQ (lq y p n) y p) (jE (((n+1):Nat):Int)) p) p).ia:=r8 s0 t2 ae ae;have r1:=Ce t2;exact tr true Tryz.call320 Tryz.func320 (chain [.c (wO _ ae:gU 303 [(iP 1)] _),.c (wO _ ae:gU 303 [(iP 1)] _),.s (Sp.jx (Yk y p n) 0 n ae (fun x hx ke=>by
    have t0:=vC hy il ic x;have s0:=Cs hy il ic x;have t1:(iQ (lq y p x) y p).ia:=qU _ _ ae ae;have n1:(jE (((x+1:Nat)):Int)).ia:=BJ _ ae;have t2:(jS (iQ (lq y p x) y p) (jE (((x+1:Nat)):Int)) p).ia:=vP _ _ ae ae;exact iB (chain [.c (JW _ _ _ af af ae ae:gU 310 [(.agg [(iP p)]),(gZ (lq y p x)),(gZ y)] _),.c (wO _ ae:gU 303 [(iP (((x+1):Nat):Int))] _),.c (F9 _ _ _ af af ae ae:gU 307 [(.agg [(iP p)]),(gZ (iQ (lq y p x) y p)),(gZ (jE (((x+1):Nat):Int)))] _),.c (AL _ _ _ af af ae ae:gU 308 [(.agg [(iP p)]),(gZ (s9 y p x)),(gZ (jS (iQ (lq y p x) y p) (jE (((x+1):Nat):Int)) p))] _),.c (JX _ _ af ae ae:gU 322 [(.agg [(iP p)]),(gZ (jS (iQ (lq y p x) y p) (jE (((x+1):Nat):Int)) p))] _),tB 26 (iH x ae:(oB (jS (iQ (lq y p x) y p) (jE (((x+1):Nat):Int)) p) p)=false),iq ((((x+1):Nat):Int)+1) ae]<|.e (chain [.b 6 (.iU rfl:Bx.le (.cells 41 (iZ (jk (s9 y p x) (jS (iQ (lq y p x) y p) (jE (((x+1):Nat):Int)) p) p))) (.cells 41 (iZ (s9 y p (x+1))))),.b 5 (.iU rfl:Bx.le (.cells 41 (iZ (jS (iQ (lq y p x) y p) (jE (((x+1):Nat):Int)) p))) (.cells 41 (iZ (lq y p (x+1)))))]<|.nil)) ah)
  (fun hx=>by
    exact iB (chain [.c (JW _ _ _ af af ae ae:gU 310 [(.agg [(iP p)]),(gZ (lq y p n)),(gZ y)] _),.c (wO _ ae:gU 303 [(iP (((n+1):Nat):Int))] _),.c (F9 _ _ _ af af ae ae:gU 307 [(.agg [(iP p)]),(gZ (iQ (lq y p n) y p)),(gZ (jE (((n+1):Nat):Int)))] _),.c (AL _ _ _ af af ae ae:gU 308 [(.agg [(iP p)]),(gZ (s9 y p n)),(gZ (jS (iQ (lq y p n) y p) (jE (((n+1):Nat):Int)) p))] _),.c (JX _ _ af ae ae:gU 322 [(.agg [(iP p)]),(gZ (jS (iQ (lq y p n) y p) (jE (((n+1):Nat):Int)) p))] _),tB 26 (hN:(oB (jS (iQ (lq y p n) y p) (jE (((n+1):Nat):Int)) p) p)=true)]<|.nil) ah) ak:ju 4 Tryz.f320 (Yk y p n 0) (.exit 0) ⟨32,true,[(6,.box 6 0),(5,.box 5 0),(4,.box 4 0),(2,.box 2 0)],[(6,.cells 41 (iZ (jk (s9 y p n) (jS (iQ (lq y p n) y p) (jE (((n+1):Nat):Int)) p) p))),(5,.cells 41 (iZ (jS (iQ (lq y p n) y p) (jE (((n+1):Nat):Int)) p))),(4,.cells 41 [(bP false),(.v (.slice none 0 0)),(iP 0),(bP false),(.v (.slice none 0 0)),(iP 0),(bP false)]),(2,.cells 201 [(iP p)])]⟩) (chain [.o 7 (.int aw:PV.le (.e (iP 1)) (.e (iP (((0+1):Nat):Int)))),.b 6 (.iU rfl:Bx.le (.cells 41 (iZ (jE 1))) (.cells 41 (iZ (s9 y p 0)))),.b 5 (.iU rfl:Bx.le (.cells 41 (iZ (jE 1))) (.cells 41 (iZ (lq y p 0))))]<|.nil),.c (Yr _ af:gU 323 [(gZ (jS (iQ (lq y p n) y p) (jE (((n+1):Nat):Int)) p))] _),.c (AL _ _ _ af af ae ae:gU 308 [(.agg [(iP p)]),(gZ (jk (s9 y p n) (jS (iQ (lq y p n) y p) (jE (((n+1):Nat):Int)) p) p)),(gZ (qN (jS (iQ (lq y p n) y p) (jE (((n+1):Nat):Int)) p)))] _)]<|rR (gZ (xX y p (n+1))) (.iU rfl:E.le (gZ (jk (jk (s9 y p n) (jS (iQ (lq y p n) y p) (jE (((n+1):Nat):Int)) p) p) (qN (jS (iQ (lq y p n) y p) (jE (((n+1):Nat):Int)) p)) p)) (gZ (xX y p (n+1))))) ah 
theorem alS{y:Iv}(hy:y.ia)(hb:y.all=true\/Sub y (ph (-1))){p:Nat}(il:8<=p)(ic:p<=512):∃ Z,Z.ia/\(∀ r,y.jY r->pf (EQ r) Z)/\gU 320 [.agg [iP (p:Int)],gZ y] (gZ Z):=by
 obtain⟨N,h1,h2,h3,h4⟩:=acJ hy hb il ic;obtain⟨n,rfl⟩:∃ n,N=n+1:=⟨N-1,ae⟩
 exact⟨xX y p (n+1),acI hy il ic _,fun r hr=>acH hy hr hb il ic h1 h2,alR y p n hy il ic ae (fun x hx=>h3 (x+1) ae ae) h4⟩
theorem alU(y Z:Iv)(p:Nat)(ad9:gU 320 [.agg [iP (p:Int)],gZ y] (gZ Z)):gU 306 [(.agg [(iP p)]),(gZ y),(iP 0)] (gZ Z):=by
 exact tr true Tryz.call306 Tryz.func306 (chain [tB 8 (ag:((0:Int)==0)=true),.c (ad9:gU 320 [(.agg [(iP p)]),(gZ y)] _)]<|.nil) ah 
theorem alT(y Z:Iv)(p n:Nat)(hy:y.ia)(hZ:Z.ia)(hn:n<=1000)(hH:gU 306 [.agg [iP (p:Int)],gZ (mL y (-1)),iP (n:Int)] (gZ Z))(il:8<=p)(ic:p<=512):gU 306 [(.agg [(iP p)]),(gZ y),(iP (((n+1):Nat):Int))] (gZ (oq Z p)):=by
 exact tr true Tryz.call306 Tryz.func306 (chain [tB 8 (nx ae:((((n+1):Nat):Int)==0)=false),.c (Kg _ af _ ae ae:gU 259 [(gZ y),(iP (-1))] _),iq ((((n+1):Nat):Int)-1) ae,.c (by rw[show(((n+1:Nat):Int)-1)=(n:Int)by omega];exact hH:gU 306 [(.agg [(iP p)]),(gZ (mL y (-1))),(iP ((((n+1):Nat):Int)-1))] (gZ Z)),.c (PG _ af _ ae ae:gU 321 [(gZ Z),(iP p)] _)]<|.nil) ah 
theorem Yl{p:Nat}(il:8<=p)(ic:p<=512):∀ (n:Nat) {y:Iv},n<=500->y.ia->(y.all=true\/Sub y (ph ((n:Int)-1)))->∃ Z,Z.ia/\(∀ r,y.jY r->pf (EQ r) Z)/\gU 306 [.agg [iP (p:Int)],gZ y,iP (n:Int)] (gZ Z)
 | 0,y,_,hy,hb=>by
  obtain⟨Z,h1,h2,h3⟩:=alS hy (by simpa using hb) il ic;exact⟨Z,h1,h2,alU y Z p h3⟩
 |n+1,y,hn,hy,hb=>by
  have hs:=Jv hy (-1);have mP:(mL y (-1)).all=true\/Sub (mL y (-1)) (ph ((n:Int)-1)):=by
   rcases hb with hb|hb
   .left;unfold mL;rw[aR hb];rfl
   .have:=aj2 hb
    rwa[show(((n+1:Nat):Int)-1-1)=(n:Int)-1 by omega]at this
  obtain⟨Z,h1,h2,h3⟩:=Yl il ic n ae hs mP;exact⟨oq Z p,JC h1 ae ae,fun r hr=>af4 h1 (h2 _ (Od hr (-1))) ae ae,alT y Z p n hy h1 ae h3 il ic⟩
theorem OL(p m:Nat)(h1:p<=512)(h2:m<=1000):gU 304 [(iP p),(iP m)] (.agg [iP (((min (p+m) 512:Nat)):Int)]):=by
 exact tr true Tryz.call304 Tryz.func304 (chain [iq ((p:Int)+(m:Int)) ae,.o 8 (.int au:PV.le (.e (iP (if 512<(((p+m):Nat):Int)then 512 else(((p+m):Nat):Int)))) (.e (iP (((min (p+m) 512):Nat):Int))))]<|.nil) ah 
theorem ame(d:Dy)(p:Nat)(hd:d.ia)(h0:d.iJ=0)(il:8<=p)(ic:p<=512):gU 282 [(gY d),(iP p)] (gZ (jE 1)):=by
 exact tr true Tryz.call282 Tryz.func282 (chain [.c (nU _ af:gU 35 [(gY d)] _),tB 9 (by rw[h0];rfl:((Dy.iJ d)==0)=true),.c (wO _ ae:gU 303 [(iP 1)] _)]<|.nil) ah 
theorem FZ{d:Dy}(hd:d.ia):-100000<=d.iu:=by
 unfold Dy.iu;have:=hd.exp;split<;>omega
theorem ali{d:Dy}(h:d.m=0):d.iu=0:=by unfold Dy.iu;rw[aR h]
theorem amd(d:Dy)(p:Nat)(Z:Iv)(hd:d.ia)(h0:d.iJ≠0)(ht:d.iu<=100)(hZ:Z.ia)(hH:gU 306 [.agg [iP ((((min (p+(((d.iu+1).toNat)+24)) 512):Nat)):Int)],gZ (lM (mf d) (min (p+(((d.iu+1).toNat)+24)) 512)),iP (((((d.iu+1).toNat):Nat)):Int)] (gZ Z))(il:8<=p)(ic:p<=512):gU 282 [(gY d),(iP p)] (gZ (lM Z p)):=by
 have rT:-100000<=d.iu:=FZ hd;have vp:=vt hd;exact tr true Tryz.call282 Tryz.func282 (chain [.c (nU _ af:gU 35 [(gY d)] _),tB 9 (by simpa using h0:((Dy.iJ d)==0)=false),.c (oD _ af:gU 130 [(gY d)] _),iq ((Dy.iu d)+1) ae,.o 14 (.int au:PV.le (.e (iP (if 0>((Dy.iu d)+1)then 0 else((Dy.iu d)+1)))) (.e (iP ((d.iu+1).toNat:Int)))),iq (((d.iu+1).toNat:Int)+24) ae,.c (OL _ _ ae ae:gU 304 [(iP p),(iP (((((d.iu+1).toNat)+24):Nat):Int))] _),.c (C4 d af),.c (DT _ af _ ae ae:gU 305 [(gZ (mf d)),(iP (((min (p+(((d.iu+1).toNat)+24)) 512):Nat):Int))] _),.c (hH:gU 306 [(.agg [(iP (((min (p+(((d.iu+1).toNat)+24)) 512):Nat):Int))]),(gZ (lM (mf d) (min (p+(((d.iu+1).toNat)+24)) 512))),(iP ((d.iu+1).toNat:Int))] _),.c (DT _ af _ ae ae:gU 305 [(gZ Z),(iP p)] _)]<|.nil) ah 
theorem ako{d:Dy}(h:d.iJ≠0):d.m≠0:=fun q=>h (by unfold Dy.iJ;rw[aR q])
theorem Yu{d:Dy}(hd:d.ia)(ht:d.iu<=100){p:Nat}(il:8<=p)(ic:p<=512):∃ Z,Z.ia/\pf (EQ d.q) Z/\gU 282 [gY d,iP (p:Int)] (gZ Z):=by
 by_cases h0:d.iJ=0
 .refine ⟨jE 1,vj ag,?_,ame d p hd h0 il ic⟩
  have hq:d.q=0:=by
   have h1:=re d;rw[h0]at h1;have a:=h1.1.2;have b:=h1.2.2;have:¬0<d.q:=fun q=>absurd (a q) ag 
   have:¬d.q<0:=fun q=>absurd (b q) ag 
   grind
  rw[hq];exact pf.Nk (k:=0) fun N _=>by rw[YD];exact yP 1
 .have hm:=ako h0
  obtain⟨P,hP⟩:∃ P,P=min (p+((d.iu+1).toNat+24)) 512:=⟨_,rfl⟩
  have hb:=acE hd hm (p:=P) ae ae (n:=((d.iu+1).toNat:Int)-1) ae ae ae;obtain⟨Z,h1,h2,h3⟩:=Yl (p:=P) ae ae ((d.iu+1).toNat) ae (Du (vt hd) ae ae) (.inr hb);subst hP;refine⟨lM Z p,Du h1 ae ae,?_,amd d p Z hd h0 ht h1 h3 il ic⟩;have hl:=h2 _ (FP (vt hd) ae ae (Ny d));exact af6 hl fun r hr=>FP h1 ae ae hr
theorem Ys(a b:Iv)(ha:a.ia)(hb:b.ia):gU 281 [(gZ a),(gZ b)] (gZ (tL a b)):=by
 exact tr true Tryz.call281 Tryz.func281 (.w (a.all=true)
  (fun k1=>chain [tB 6 (k1),.c nu]<|rQ (gZ ie) (gZ (tL a b)) (by unfold tL;simp[k1]))
  (fun k1=>chain [tB 6 (aM k1)]<|.w (b.all=true)
   (fun k2=>chain [tB 9 (k2),.c nu]<|rQ (gZ ie) (gZ (tL a b)) (by unfold tL;simp[k1,k2]))
   (fun k2=>chain [tB 9 (aM k2)]<|rQ (gZ (Iv.mk a.lo b.hi false)) (gZ (tL a b)) (by unfold tL;simp[k1,k2])))) ah 
def sS(d:Dy):Bool:=decide (jo (k0 d) (je 1000)<=0)
theorem Gc(d:Dy)(hd:d.ia):gU 280 [(gY d)] (bP (sS d)):=by
 have ha:=rI hd;have hi:(je 1000).ia:=si ag;exact tr true Tryz.call280 Tryz.func280 (chain [.c (D7 d af),.c (qO _ ae:gU 113 [(iP 1000)] _),.c (nT _ _ af af:gU 37 [(gY (k0 d)),(gY (je 1000))] _)]<|.nil) ah 
theorem B7(x:Iv)(p:Nat)(hx:x.ia)(il:8<=p)(ic:p<=512):gU 279 [(gZ x),(iP p)] (bP (!x.all)):=by
 exact tr true Tryz.call279 Tryz.func279 (.w (x.all=true)
  (fun k1=>chain [tB 6 (k1)]<|rQ (bP false) (bP (!x.all)) (by simp[k1]))
  (fun k1=>chain [tB 6 (aM k1),.c (qS x af),tT 14 (8<=(p:Int)) ae,tT 18 ((p:Int)<=512) ae]<|rQ (bP true) (bP (!x.all)) (by simp[k1]))) ah 
theorem al2(x:Iv)(p:Nat)(hx:x.ia)(il:8<=p)(ic:p<=512)(xa:x.all=true):gU 242 [(gZ x),(iP p)] (gZ ie):=by
 exact tr true Tryz.call242 Tryz.func242 (chain [.c (B7 _ _ af ae ae:gU 279 [(gZ x),(iP p)] _),tB 7 (by rw[xa];rfl:(!x.all)=false),.c nu]<|.nil) ah 
theorem al5(x:Iv)(p:Nat)(hx:x.ia)(il:8<=p)(ic:p<=512)(xa:x.all=false)(h1:sS x.lo=false):gU 242 [(gZ x),(iP p)] (gZ ie):=by
 obtain⟨w1,w2⟩:=hx.ki;exact tr true Tryz.call242 Tryz.func242 (chain [.c (B7 _ _ af ae ae:gU 279 [(gZ x),(iP p)] _),tB 7 (by rw[xa];rfl:(!x.all)=true),.c (Gc _ af:gU 280 [(gY x.lo)] _),tB 12 (h1:(sS x.lo)=false),.c nu]<|.nil) ah 
theorem al3(x:Iv)(p:Nat)(hx:x.ia)(il:8<=p)(ic:p<=512)(xa:x.all=false)(h1:sS x.lo=true)(h2:sS x.hi=false):gU 242 [(gZ x),(iP p)] (gZ ie):=by
 obtain⟨w1,w2⟩:=hx.ki;exact tr true Tryz.call242 Tryz.func242 (chain [.c (B7 _ _ af ae ae:gU 279 [(gZ x),(iP p)] _),tB 7 (by rw[xa];rfl:(!x.all)=true),.c (Gc _ af:gU 280 [(gY x.lo)] _),tB 12 (h1:(sS x.lo)=true),.c (Gc _ af:gU 280 [(gY x.hi)] _),tB 18 (h2:(sS x.hi)=false),.c nu]<|.nil) ah 
theorem al4(x:Iv)(p:Nat)(hx:x.ia)(il:8<=p)(ic:p<=512)(xa:x.all=false)(h1:sS x.lo=true)(h2:sS x.hi=true)(Z1 Z2:Iv)(z1:Z1.ia)(z2:Z2.ia)(k1:gU 282 [gY x.lo,iP (p:Int)] (gZ Z1))(k2:gU 282 [gY x.hi,iP (p:Int)] (gZ Z2)):gU 242 [(gZ x),(iP p)] (gZ (tL Z1 Z2)):=by
 obtain⟨w1,w2⟩:=hx.ki;exact tr true Tryz.call242 Tryz.func242 (chain [.c (B7 _ _ af ae ae:gU 279 [(gZ x),(iP p)] _),tB 7 (by rw[xa];rfl:(!x.all)=true),.c (Gc _ af:gU 280 [(gY x.lo)] _),tB 12 (h1:(sS x.lo)=true),.c (Gc _ af:gU 280 [(gY x.hi)] _),tB 18 (h2:(sS x.hi)=true),.c (k1:gU 282 [(gY x.lo),(iP p)] _),.c (k2:gU 282 [(gY x.hi),(iP p)] _),.c (Ys _ _ af af:gU 281 [(gZ Z1),(gZ Z2)] _)]<|.nil) ah 
theorem UO{d:Dy}(hd:d.ia)(h:sS d=true):d.iu<=100:=by
 by_cases h0:d.m=0
 .rw [ali h0];decide
 .unfold sS at h
  rw[bZ,pU,xB]at h;have hq:=yR d;have ha:jd d.q<=P2 10:=by
   have:P2 10=1024:= ar ;rw[this];have ad4:((1000:Int):Rat)=1000:=rfl;rw[ad4]at h;exact xM aq aq 
  have:=XZ h0 ha;omega
theorem Rn{a b:Iv}(ha:a.ia)(hb:b.ia)(h:a.all=false->b.all=false->a.lo.q<=b.hi.q):(tL a b).ia:=by
 unfold tL;cases xa:a.all
 .cases xb:b.all
  .exact .inr ⟨rfl,ha.ki.1,hb.ki.2,(pU _ _).2 (h xa xb)⟩
  .exact mj
 .exact mj
theorem OK{x:Iv}(hx:x.ia){p:Nat}(il:8<=p)(ic:p<=512):∃ Z,Z.ia/\gU 242 [gZ x,iP (p:Int)] (gZ Z):=by
 cases xa:x.all with
 |true=>exact⟨ie,mj,al2 x p hx il ic xa⟩
 |false=>
  cases h1:sS x.lo with
  |false=>exact⟨ie,mj,al5 x p hx il ic xa h1⟩
  |true=>
   cases h2:sS x.hi with
   |false=>exact⟨ie,mj,al3 x p hx il ic xa h1 h2⟩
   |true=>
    obtain⟨w1,w2⟩:=hx.ki;obtain⟨Z1,z1,l1,k1⟩:=Yu w1 (UO w1 h1) il ic;obtain⟨Z2,z2,l2,k2⟩:=Yu w2 (UO w2 h2) il ic;exact⟨tL Z1 Z2,Rn z1 z2 fun a b=>af5 l1 l2 (fun ε hε=>YA hx.q hε) a b,al4 x p hx il ic xa h1 h2 Z1 Z2 z1 z2 k1 k2⟩
open Go.RowKit Fp Pu
def Ym(z:Iv)(p N:Nat)(x:Nat):PS:=⟨39,true,[(8,.e (iP (((2*x+3):Nat):Int))),(7,.box 7 0),(6,.box 6 0),(5,.box 5 0),(4,.box 4 0),(2,.box 2 0)],[(7,.cells 41 (iZ (ug z p x))),(6,.cells 41 (iZ (nM z p x))),(5,.cells 41 (iZ (oq z p))),(4,.cells 41 [(bP false),(.v (.slice none 0 0)),(iP 0),(bP false),(.v (.slice none 0 0)),(iP 0),(bP false)]),(2,.cells 201 [(iP p)])]⟩
theorem alV(z:Iv)(p N:Nat)(hz:z.ia)(il:8<=p)(ic:p<=512)(h2:N<=1000)(iH:∀ x,x<N->oB (nM z p x) p=false)(hN:oB (nM z p N) p=true):gU 309 [(.agg [(iP p)]),(gZ z)] (gZ (C7 z p N)):=by
 have hsq:=JC hz (show 1<=p by omega) (show p<=4096 by omega);have t0:=xv hz il ic N;have s0:=BD hz il ic N;have r0:=Ce t0;have a0:=r8 s0 r0 (show 1<=p by omega) (show p<=4096 by omega);exact tr true Tryz.call309 Tryz.func309 (chain [.c (PG _ af _ ae ae:gU 321 [(gZ z),(iP p)] _),.s (Sp.jx (Ym z p N) 0 N ae (fun x hx ke=>by
    have t0:=xv hz il ic x;have s0:=BD hz il ic x;have q0:(iQ (nM z p x) (oq z p) p).ia:=qU _ _ ae ae;have n1:(jE (((2*x+3:Nat)):Int)).ia:=BJ _ ae;have d1:(jS (iQ (nM z p x) (oq z p) p) (jE (((2*x+3:Nat)):Int)) p).ia:=vP _ _ ae ae;exact iB (chain [.c (JX p (nM z p x) af ae ae),tB 17 (iH x ae:(oB (nM z p x) p)=false),.c (JW p (nM z p x) (oq z p) af af ae ae),.c (wO (((2*x+3):Nat):Int) ae),.c (F9 p (iQ (nM z p x) (oq z p) p) (jE (((2*x+3):Nat):Int)) af af ae ae),.c (AL p (ug z p x) (jS (iQ (nM z p x) (oq z p) p) (jE (((2*x+3):Nat):Int)) p) af af ae ae),iq ((((2*x+3):Nat):Int)+2) ae]<|.e (chain [.o 8 (.int aw:PV.le (.e (iP ((((2*x+3)+2):Nat):Int))) (.e (iP (((2*(x+1)+3):Nat):Int)))),.b 7 (.iU rfl:Bx.le (.cells 41 (iZ (jk (ug z p x) (jS (iQ (nM z p x) (oq z p) p) (jE (((2*x+3):Nat):Int)) p) p))) (.cells 41 (iZ (ug z p (x+1))))),.b 6 (.iU rfl:Bx.le (.cells 41 (iZ (iQ (nM z p x) (oq z p) p))) (.cells 41 (iZ (nM z p (x+1)))))]<|.nil)) ah)
  (fun hx=>by
    have t0:=xv hz il ic N;have s0:=BD hz il ic N;have q0:(iQ (nM z p N) (oq z p) p).ia:=qU _ _ ae ae;have n1:(jE (((2*N+3:Nat)):Int)).ia:=BJ _ ae;have d1:(jS (iQ (nM z p N) (oq z p) p) (jE (((2*N+3:Nat)):Int)) p).ia:=vP _ _ ae ae;exact iB (chain [.c (JX p (nM z p N) af ae ae),tB 17 (hN:(oB (nM z p N) p)=true)]<|.nil) ah) ak:ju 4 Tryz.f309 (Ym z p N 0) (.exit 0) ⟨39,true,[(7,.box 7 0),(6,.box 6 0),(4,.box 4 0),(2,.box 2 0)],[(7,.cells 41 (iZ (ug z p N))),(6,.cells 41 (iZ (nM z p N))),(4,.cells 41 [(bP false),(.v (.slice none 0 0)),(iP 0),(bP false),(.v (.slice none 0 0)),(iP 0),(bP false)]),(2,.cells 201 [(iP p)])]⟩) (chain [.o 8 (.int aw:PV.le (.e (iP 3)) (.e (iP (((2*0+3):Nat):Int)))),.b 7 (.iU rfl:Bx.le (.cells 41 (iZ z)) (.cells 41 (iZ (ug z p 0)))),.b 6 (.iU rfl:Bx.le (.cells 41 (iZ z)) (.cells 41 (iZ (nM z p 0))))]<|.nil),.c (Yr _ af:gU 323 [(gZ (nM z p N))] _),.c (AL p (ug z p N) (qN (nM z p N)) af af ae ae),.c (Kg (jk (ug z p N) (qN (nM z p N)) p) af 1 ae ae)]<|rR (gZ (C7 z p N)) (.refl _:E.le (gZ (mL (jk (ug z p N) (qN (nM z p N)) p) 1)) (gZ (C7 z p N)))) ah 
def B8(f:Nat->Rat)(X:Iv):Prop:=∃ N0,∀ M,N0<=M->X.jY (f M)
theorem B8.mono{f:Nat->Rat}{X Y:Iv}(h:B8 f X)(k:∀ r,X.jY r->Y.jY r):B8 f Y:=h.imp fun _ h M hM=>k _ (h M hM)
theorem Yn{z:Iv}(hz:z.ia)(hb:z.all=true\/Sub z (ph (-1))){p:Nat}(il:8<=p)(ic:p<=512):∃ Z,Z.ia/\(∀ r,z.jY r->jd r*2<=1->B8 (fun M=>AQ r M*2) Z)/\gU 309 [(.agg [(iP p)]),(gZ z)] (gZ Z):=by
 obtain⟨N,h1,h2,h3⟩:=af3 hz hb il ic;exact⟨C7 z p N,af2 hz il ic N,fun r hr ha=>⟨N,fun M hM=>af1 hz hr ha il ic h1 M hM⟩,alV z p N hz il ic h1 h2 h3⟩
theorem ald{p:Nat}(il:8<=p)(ic:p<=512):(jS (jE 1) (jE 3) p).ia/\(jS (jE 1) (jE 3) p).jY (1/3)/\Sub (jS (jE 1) (jE 3) p) (ph (-1)):=by
 have v1:(jE 1).ia:=vj ag;have v3:(jE 3).ia:=vj ag;have h1:=yP 1;have h3:=yP 3;refine⟨vP _ _ ae ae,?_,?_⟩
 .have:=GX v1 v3 (p:=p) ae ae h1 h3
  rwa[show((1:Int):Rat)/((3:Int):Rat)=1/3 from rfl]at this
 .have hs:lN (jE 3)≠0:=Ol rfl (.inl (by show 0<(je 3).q;rw[xB];decide))
  refine DW (GW v1 v3 rfl hs (p:=p) ae ae) ae ag ag ?_;rintro r ⟨a,b,ha,hb,rfl⟩;obtain⟨a1,a2⟩:=ha.ki rfl;obtain⟨b1,b2⟩:=hb.ki rfl;change (je 1).q<=a at a1;change a<=(je 1).q at a2;change (je 3).q<=b at b1;change b<=(je 3).q at b2;rw[xB]at a1 a2 b1 b2;have ea:a=1:=dN a2 a1;have eb:b=3:=dN b2 b1;subst ea eb;have:P2 (-1)=1/2:= ar ;rw[this];exact⟨ar,ar⟩
theorem al7(p:Nat)(Z:Iv)(hZ:Z.ia)(hL:gU 309 [.agg [iP ((((min (p+16) 512):Nat)):Int)],gZ (jS (jE 1) (jE 3) (min (p+16) 512))] (gZ Z))(il:8<=p)(ic:p<=512):gU 311 [(iP p)] (gZ (lM Z p)):=by
 have v1:(jE 1).ia:=vj ag;have v3:(jE 3).ia:=vj ag;exact tr true Tryz.call311 Tryz.func311 (chain [tF 5 ((p:Int)<8) ae,tF 8 (512<(p:Int)) ae,.c (OL p 16 ae ae),.c (wO 1 ae),.c (wO 3 ae),.c (F9 (min (p+16) 512) (jE 1) (jE 3) af af ae ae),.c (hL:gU 309 [(.agg [(iP (((min (p+16) 512):Nat):Int))]),(gZ (jS (jE 1) (jE 3) (min (p+16) 512)))] _),.c (DT Z af p ae ae)]<|.nil) ah 
theorem al6{p:Nat}(il:8<=p)(ic:p<=512):∃ Z,Z.ia/\B8 (fun M=>AQ (1/3) M*2) Z/\gU 311 [iP (p:Int)] (gZ Z):=by
 obtain⟨t1,t2,t3⟩:=ald (p:=min (p+16) 512) ae ae;obtain⟨Z,h1,h2,h3⟩:=Yn t1 (.inr t3) (p:=min (p+16) 512) ae ae;refine⟨lM Z p,Du h1 ae ae,(h2 _ t2 ar).mono fun r hr=>FP h1 ae ae hr,al7 p Z h1 h3 il ic⟩
def xI:Iv:=⟨jA,jA,false⟩
theorem Yv:E.le (.agg [bP false,.v (.slice none 0 0),iP 0,bP false,.v (.slice none 0 0),iP 0,bP false]) (gZ xI):=
 .agg (.cons (.refl _) (.cons Am (.cons (.refl _) (.cons (.refl _) (.cons Am (.cons (.refl _) (.cons (.refl _) .nil)))))))
theorem amb(d:Dy)(p:Nat)(hd:d.ia)(h1:jo d ⟨false,1,0⟩=0)(il:8<=p)(ic:p<=512):gU 283 [(gY d),(iP p)] (gZ xI):=by
 have v1:=Df;exact tr true Tryz.call283 Tryz.func283 (chain [.c (Ke:gU 113 [(iP 1)] _),.c (nT _ _ af af:gU 37 [(gY d),(gY (Dy.mk false 1 0))] _),tB 12 (by rw[h1];rfl:((jo d (Dy.mk false 1 0))==0)=true)]<|rR (gZ xI) (Yv:E.le (.agg [(bP false),(.v (.slice none 0 0)),(iP 0),(bP false),(.v (.slice none 0 0)),(iP 0),(bP false)]) (gZ xI))) ah 
theorem amc(d:Dy)(p:Nat)(Z Y:Iv)(hd:d.ia)(h1:¬jo d ⟨false,1,0⟩=0)(Tk:-20000<=d.iu)(rT:d.iu<=20000)(hZ:Z.ia)(hY:Y.ia)(hL:gU 309 [.agg [iP ((((min (p+40) 512):Nat)):Int)],gZ (jS (jk (mL (lM (mf d) (min (p+40) 512)) (0-(Dy.iu d))) (jE (-1)) (min (p+40) 512)) (jk (mL (lM (mf d) (min (p+40) 512)) (0-(Dy.iu d))) (jE 1) (min (p+40) 512)) (min (p+40) 512))] (gZ Z))(hL2:gU 311 [iP ((((min (p+40) 512):Nat)):Int)] (gZ Y))(il:8<=p)(ic:p<=512):gU 283 [(gY d),(iP p)] (gZ (lM (jk Z (iQ (jE d.iu) Y (min (p+40) 512)) (min (p+40) 512)) p)):=by
 have v1:=Df;have vp:=vt hd;have vr:(lM (mf d) (min (p+40) 512)).ia:=Du vp ae ae;have vs:(mL (lM (mf d) (min (p+40) 512)) (0-(Dy.iu d))).ia:=Jv vr _;have n1:(jE 1).ia:=vj ag;have n2:(jE (-1)).ia:=vj ag;have a1:(jk (mL (lM (mf d) (min (p+40) 512)) (0-(Dy.iu d))) (jE (-1)) (min (p+40) 512)).ia:=r8 vs n2 ae ae;have a2:(jk (mL (lM (mf d) (min (p+40) 512)) (0-(Dy.iu d))) (jE 1) (min (p+40) 512)).ia:=r8 vs n1 ae ae;have a3:(jS (jk (mL (lM (mf d) (min (p+40) 512)) (0-(Dy.iu d))) (jE (-1)) (min (p+40) 512)) (jk (mL (lM (mf d) (min (p+40) 512)) (0-(Dy.iu d))) (jE 1) (min (p+40) 512)) (min (p+40) 512)).ia:=vP _ _ ae ae;have nt:(jE d.iu).ia:=vj ae;have m1:(iQ (jE d.iu) Y (min (p+40) 512)).ia:=qU _ _ ae ae;have m2:(jk Z (iQ (jE d.iu) Y (min (p+40) 512)) (min (p+40) 512)).ia:=r8 hZ m1 ae ae;exact tr true Tryz.call283 Tryz.func283 (chain [.c (Ke:gU 113 [(iP 1)] _),.c (nT _ _ af af:gU 37 [(gY d),(gY (Dy.mk false 1 0))] _),tB 12 (by simpa using h1:((jo d (Dy.mk false 1 0))==0)=false),.c (OL p 40 ae ae),.c (oD _ af:gU 130 [(gY d)] _),.c (C4 d af),.c (DT (mf d) af (min (p+40) 512) ae ae),
  iq (0-(Dy.iu d)) ae,.c (Kg (lM (mf d) (min (p+40) 512)) af (0-(Dy.iu d)) ae ae),.c (wO (-1) ae),.c (AL (min (p+40) 512) (mL (lM (mf d) (min (p+40) 512)) (0-(Dy.iu d))) (jE (-1)) af af ae ae),.c (wO 1 ae),.c (AL (min (p+40) 512) (mL (lM (mf d) (min (p+40) 512)) (0-(Dy.iu d))) (jE 1) af af ae ae),.c (F9 (min (p+40) 512) (jk (mL (lM (mf d) (min (p+40) 512)) (0-(Dy.iu d))) (jE (-1)) (min (p+40) 512)) (jk (mL (lM (mf d) (min (p+40) 512)) (0-(Dy.iu d))) (jE 1) (min (p+40) 512)) af af ae ae),.c (hL:gU 309 [(.agg [(iP (((min (p+40) 512):Nat):Int))]),(gZ (jS (jk (mL (lM (mf d) (min (p+40) 512)) (0-(Dy.iu d))) (jE (-1)) (min (p+40) 512)) (jk (mL (lM (mf d) (min (p+40) 512)) (0-(Dy.iu d))) (jE 1) (min (p+40) 512)) (min (p+40) 512)))] _),.c (wO (Dy.iu d) ae),.c (hL2:gU 311 [(iP (((min (p+40) 512):Nat):Int))] _),.c (JW (min (p+40) 512) (jE (Dy.iu d)) Y af af ae ae),.c (AL (min (p+40) 512) Z (iQ (jE (Dy.iu d)) Y (min (p+40) 512)) af af ae ae),.c (DT (jk Z (iQ (jE (Dy.iu d)) Y (min (p+40) 512)) (min (p+40) 512)) af p ae ae)]<|.nil) ah 
theorem Yt{d:Dy}(hd:d.ia)(hq:0<d.q){p:Nat}(il:8<=p)(ic:p<=512):∃ Z,Z.ia/\B8 (LQ d) Z/\gU 283 [gY d,iP (p:Int)] (gZ Z):=by
 by_cases h1:jo d ⟨false,1,0⟩=0
 .refine ⟨xI,.inr ⟨rfl,rD,rD,yJ _⟩,⟨0,fun M _=>?_⟩,amb d p hd h1 il ic⟩
  have e:d=⟨false,1,0⟩:=by
   refine Je hd.canon Df.canon (dN ((pU _ _).1 ae) ((pU _ _).1 ?_));rw[wT];have:=wT d ⟨false,1,0⟩;omega
  rw[e,YI];exact .inr ⟨by show jA.q<=0;rw[rz];exact b9,by show 0<=jA.q;rw[rz];exact b9⟩
 .have hm:=Dh hq
  obtain⟨t1,t2⟩:=X0 hd hm;obtain⟨P,hP⟩:∃ P,P=min (p+40) 512:=⟨_,rfl⟩
  have p1:8<=P:= ae ;have p2:P<=512:= ae ;obtain⟨z1,z2,z3⟩:=ago hd hq p1 p2;obtain⟨Z,a1,a2,a3⟩:=Yn z1 z3 p1 p2;obtain⟨Y,b1,b2,b3⟩:=al6 p1 p2;have m1:(iQ (jE d.iu) Y P).ia:=qU _ _ ae ae;have m2:=r8 a1 m1 (p:=P) ae ae;refine⟨lM (jk Z (iQ (jE d.iu) Y P) P) p,Du m2 ae ae,?_,?_⟩
  .have hz:=OO hq
   have ha:jd (zg d)*2<=1:=by
    have:=xM (x:=zg d) (b:=1/3) aq aq 
    grind
   obtain⟨N1,c1⟩:=a2 _ z2 ha;obtain⟨N2,c2⟩:=b2;refine⟨max N1 N2,fun M hM=>FP m2 ae ae ?_⟩;exact AO a1 m1 ae ae (c1 M ae) (M1 (vj ae) b1 ae ae (yP d.iu) (c2 M ae))
  .subst hP
   have e:C8 d (min (p+40) 512)=jS (jk (mL (lM (mf d) (min (p+40) 512)) (0-(Dy.iu d))) (jE (-1)) (min (p+40) 512)) (jk (mL (lM (mf d) (min (p+40) 512)) (0-(Dy.iu d))) (jE 1) (min (p+40) 512)) (min (p+40) 512):=by unfold C8 tz;rw[show -d.iu=0-d.iu by omega]
   rw[e]at a3;exact amc d p Z Y hd h1 ae ae a1 b1 a3 b3 il ic
theorem al8(x:Iv)(p:Nat)(hx:x.ia)(il:8<=p)(ic:p<=512)(xa:x.all=true):gU 243 [(gZ x),(iP p)] (gZ ie):=by
 exact tr true Tryz.call243 Tryz.func243 (chain [.c (B7 x p af ae ae),tB 7 (by rw[xa];rfl:(!x.all)=false),.c nu]<|.nil) ah 
theorem ama(x:Iv)(p:Nat)(hx:x.ia)(il:8<=p)(ic:p<=512)(xa:x.all=false)(h1:x.lo.iJ<=0):gU 243 [(gZ x),(iP p)] (gZ ie):=by
 obtain⟨w1,w2⟩:=hx.ki;exact tr true Tryz.call243 Tryz.func243 (chain [.c (B7 x p af ae ae),tB 7 (by rw[xa];rfl:(!x.all)=true),.c (nU _ af:gU 35 [(gY x.lo)] _),tB 13 (aS h1),.c nu]<|.nil) ah 
theorem al9(x:Iv)(p:Nat)(hx:x.ia)(il:8<=p)(ic:p<=512)(xa:x.all=false)(h1:¬x.lo.iJ<=0)(Z1 Z2:Iv)(z1:Z1.ia)(z2:Z2.ia)(k1:gU 283 [gY x.lo,iP (p:Int)] (gZ Z1))(k2:gU 283 [gY x.hi,iP (p:Int)] (gZ Z2)):gU 243 [(gZ x),(iP p)] (gZ (tL Z1 Z2)):=by
 obtain⟨w1,w2⟩:=hx.ki;exact tr true Tryz.call243 Tryz.func243 (chain [.c (B7 x p af ae ae),tB 7 (by rw[xa];rfl:(!x.all)=true),.c (nU _ af:gU 35 [(gY x.lo)] _),tB 13 (aT h1),.c (k1:gU 283 [(gY x.lo),(iP p)] _),.c (k2:gU 283 [(gY x.hi),(iP p)] _),.c (Ys Z1 Z2 af af)]<|.nil) ah 
theorem OM{x:Iv}(hx:x.ia){p:Nat}(il:8<=p)(ic:p<=512):∃ Z,Z.ia/\gU 243 [gZ x,iP (p:Int)] (gZ Z):=by
 cases xa:x.all with
 |true=>exact⟨ie,mj,al8 x p hx il ic xa⟩
 |false=>
  by_cases h1:x.lo.iJ<=0
  .exact ⟨ie,mj,ama x p hx il ic xa h1⟩
  .obtain ⟨w1,w2⟩:=hx.ki
   have q1:0<x.lo.q:=(re _).1.1 ae;have q2:0<x.hi.q:=by have:=hx.q;grind
   obtain⟨Z1,z1,⟨N1,l1⟩,k1⟩:=Yt w1 q1 il ic;obtain⟨Z2,z2,⟨N2,l2⟩,k2⟩:=Yt w2 q2 il ic;refine⟨tL Z1 Z2,Rn z1 z2 fun a b=>?_,al9 x p hx il ic xa h1 Z1 Z2 z1 z2 k1 k2⟩;have e1:=((l1 (max N1 N2) ae).ki a).1;have e2:=((l2 (max N1 N2) ae).ki b).2;have e3:=YH q1 hx.q (max N1 N2);exact bG e1 (bG e3 e2)
open Go.RowKit Fp Pu
def uf(a s:Nat):Prop:=s*s<=a/\a<(s+1)*(s+1)
theorem WN(a:Nat):∃ s,uf a s:=by
 induction a with
 |zero=>exact⟨0,ag,ag⟩
 |succ a ih=>
  obtain⟨s,h1,h2⟩:=ih;by_cases h:(s+1)*(s+1)<=a+1
  .refine ⟨s+1,h,?_⟩
   have:(s+1+1)*(s+1+1)=(s+1)*(s+1)+2*(s+1)+1:=by
    simp only[bK,bn,bI,bO];omega
   omega
  .exact ⟨s,ae,ae⟩
theorem ajz{a s t:Nat}(h:uf a s)(ht:t*t<=a):t<=s:=by
 apply bE;intro iD;have:=cK (show s+1<=t by omega) (show s+1<=t by omega);have:=h.2;omega
def oZ(a x:Nat):Nat:=(x+a/x)/2
theorem ag0{a s x:Nat}(h:uf a s)(hx:0<x):s<=oZ a x:=by
 unfold oZ;apply bE;intro iD;have h1:x+a/x<2*s:=by generalize a/x=q at *;omega
 have h2:a<(a/x+1)*x:=by
  have:=bT a x;have:=bg a hx;rw[bK,bI,a7 (a/x)];omega
 have hq:a/x+1<=2*s-x/\x<=2*s:=by
  generalize a/x=q at *
  omega
 have h3:(a/x+1)*x<=(2*s-x)*x:=bC x hq.1;have amy:=hq.2;have h4:(2*s-x)*x<=s*s:=by
  obtain⟨k,hk⟩:∃ k,2*s=x+k:=⟨2*s-x,by clear h1 h2 h3 iD hq;omega⟩
  rw[show 2*s-x=k by clear h1 h2 h3 iD hq;omega];clear h1 h2 h3 iD hq;rcases Nat.le_total x s with qc|qc
  .obtain ⟨e,rfl⟩:∃ e,s=x+e:=⟨s-x,ae⟩
   obtain rfl:k=x+2*e:= ae ;simp only[bK,bn,a7 x e,bc];have:0<=e*e:=bL _;have e1:e*(2*x)=2*(e*x):=cD e 2 x;omega
  .obtain ⟨e,rfl⟩:∃ e,x=s+e:=⟨x-s,ae⟩
   obtain⟨f,hf⟩:∃ f,s=k+f:=⟨s-k,ae⟩
   obtain rfl:f=e:= ae ;subst hf;simp only[bK,bn,a7 f k];have:0<=f*f:=bL _;omega
 have:=h.1;omega
theorem agZ{a s x:Nat}(h:uf a s)(hx:0<x)(hs:s<=x)(hy:x<=oZ a x):x=s:=by
 have h1:x<=a/x:=by unfold oZ at hy;omega
 have h2:x*x<=a:=(cL hx).1 h1;have:=ajz h h2;omega
def kz(a x:Nat):Nat->Nat
 | 0=>x
 |k+1=>oZ a (kz a x k)
theorem ajA(a:Nat){s:Nat}(h:uf a s):s<=2^((ib a+1)/2):=by
 apply bE;intro iD;have h1:(2^((ib a+1)/2))*(2^((ib a+1)/2))<=s*s:=cK ae ae;rw[<-aV]at h1;have h2:=oN a;have h3:2^ib a<=2^((ib a+1)/2+(ib a+1)/2):=bh ag ae;have:=h.1;omega
theorem ajy{a x s:Nat}(h:uf a s)(ha:0<a)(hx:s<=x):∃ N,N<=x/\(∀ k,k<N->oZ a (kz a x k)<kz a x k)/\kz a x N<=oZ a (kz a x N)/\kz a x N=s/\∀ k,k<=N->s<=kz a x k/\kz a x k<=x:=by
 have hs:0<s:=by
  apply bE;intro h0;obtain rfl:s=0:= ae ;have:=h.2;omega
 have pX:∀ k,s<=kz a x k:=fun k=>by
  induction k with
  |zero=>exact hx
  |succ k ih=>exact ag0 h ae 
 have hex:∃ k,k<x+1/\decide (kz a x k<=oZ a (kz a x k))=true:=by
  apply bE;intro hc;have hd:∀ k,k<x+1->oZ a (kz a x k)<kz a x k:=fun k hk=>by
   apply bE;intro q;exact hc ⟨k,hk,aS ae⟩
  have hb:∀ k,k<=x+1->kz a x k+k<=x:=by
   intro k hk
   induction k with
   |zero=>exact aU _
   |succ k ih=>
    have:=ih ae;have:=hd k ae;show oZ a (kz a x k)+(k+1)<=x;omega
  have:=hb (x+1) (aU _);omega
 obtain⟨N,n1,n2,n3⟩:=qI hex;have n2':=ct n2;have iD:∀ k,k<N->oZ a (kz a x k)<kz a x k:=fun k hk=>by
  have:=fu (n3 k hk);omega
 have hle:∀ k,k<=N->kz a x k<=x:=by
  intro k hk
  induction k with
  |zero=>exact aU _
  |succ k ih=>
   have:=ih ae;have:=iD k ae;show oZ a (kz a x k)<=x;omega
 have e:=agZ h (by have:=pX N;omega) (pX N) n2';exact⟨N,ae,iD,n2',e,fun k hk=>⟨pX k,hle k hk⟩⟩
open Go.RowKit Fp Pu
def ux(m s:Nat)(e:Int)(p:Nat)(up:Bool):Dy:=jP false s e (decide (s*s≠m)) p up
def y3(m s:Nat)(e:Int)(p:Nat)(up:Bool):Int:=jG false s e (decide (s*s≠m)) p up
theorem akC{m s:Nat}{e:Int}{p:Nat}(h:uf m s)(hb:p<ib s)(hp:1<=p)(ic:p<=4096)(he:y3 m s e p false=0):0<=(ux m s e p false).q/\(ux m s e p false).q<=(s:Rat)*P2 e:=by
 unfold ux y3 at *
 by_cases hx:s*s=m
 .rw [aT ae]at he ⊢
  have A:=D2 false s e hp ic;rw[qL]at A;simp only[bq,a6]at A;exact⟨(A.2 0 (.inl (wP p)) (bM cF (bB (mZ e)))).2,(A.1 he).2⟩
 .rw [aS ae]at he ⊢
  obtain⟨h1,h2⟩:=Co e hb false false;rw[h1];rw[h2]at he;have A:=D2 false (2*s+1) (e-1) hp ic;rw[qL]at A;simp only[bq,a6]at A;have h0:=(A.2 0 (.inl (wP p)) (bM cF (bB (mZ (e-1))))).2;obtain⟨g,hl⟩:=A.1 he;refine⟨h0,?_⟩;rcases Lj (e:=e) hb (g.pos h0)with k|k
  .exact k
  .exfalso
   have ee:P2 e=P2 (e-1)*2:=by
    have:=qn (e-1) 1;rw[show e-1+1=e by omega,show P2 1=2 by decide +kernel]at this;exact this
   have wq:=mZ (e-1);have c1:((2*s+1:Nat):Rat)=2*(s:Rat)+1:=by rw[dM,cO];rfl
   have c2:((s+1:Nat):Rat)=(s:Rat)+1:=by rw[dM];rfl
   rw[c1]at hl;rw[c2,ee]at k
   grind
theorem akB{m s:Nat}{e:Int}{p:Nat}(h:uf m s)(hb:p<ib s)(hp:1<=p)(ic:p<=4096)(he:y3 m s e p true=0):0<=(ux m s e p true).q/\(m:Rat)*(P2 e*P2 e)<=(ux m s e p true).q*(ux m s e p true).q:=by
 have wq:=mZ e;have s0:(0:Rat)<=(s:Rat):=cF;have key:∀ D:Rat,(s:Rat)*P2 e<=D->(s*s≠m->((s+1:Nat):Rat)*P2 e<=D)->0<=D/\(m:Rat)*(P2 e*P2 e)<=D*D:=by
  intro D h1 h2;have d0:0<=D:=bG (bM s0 (bB wq)) h1;refine⟨d0,?_⟩;have sq:∀ t:Nat,m<=t*t->(t:Rat)*P2 e<=D->(m:Rat)*(P2 e*P2 e)<=D*D:=by
   intro t ht hD;have t0:(0:Rat)<=(t:Rat):=cF;have c:(m:Rat)<=(t:Rat)*(t:Rat):=by
    have:=cX.2 ht;rwa[cO]at this
   have m1:=b8 c (bM (bB wq) (bB wq));have m2:=b8 hD (bM t0 (bB wq));have m3:=cB hD d0;generalize (t:Rat)=T at *
   generalize P2 e=P at *
   have e1:T*T*(P*P)=T*P*(T*P):= aq 
   grind
  by_cases hx:s*s=m
  .exact sq s ae h1
  .exact sq (s+1) (by have:=h.2;omega) (h2 hx)
 unfold ux y3 at *
 by_cases hx:s*s=m
 .rw [aT ae]at he ⊢
  have A:=D3 false s e hp ic;rw[qL]at A;simp only[bq,a6]at A;exact key _ (A.1 he).2 (fun q=>absurd hx q)
 .rw [aS ae]at he ⊢
  obtain⟨h1,h2⟩:=Co e hb false true;rw[h1];rw[h2]at he;have A:=D3 false (2*s+1) (e-1) hp ic;rw[qL]at A;simp only[bq,a6]at A;obtain⟨g,hl⟩:=A.1 he;have ee:P2 e=P2 (e-1)*2:=by
   have:=qn (e-1) 1;rw[show e-1+1=e by omega,show P2 1=2 by decide +kernel]at this;exact this
  have il:=mZ (e-1);have c1:((2*s+1:Nat):Rat)=2*(s:Rat)+1:=by rw[dM,cO];rfl
  rw[c1]at hl;have h0:0<=(jP false (2*s+1) (e-1) false p true).q:=bG (bM aq (bB il)) hl;have iD:(s:Rat)*P2 e<(jP false (2*s+1) (e-1) false p true).q:=by rw[ee];grind
  refine key _ (bB iD) fun _=>?_
  rcases Lj (e:=e) hb (g.pos h0)with k|k
  .exact absurd iD (dp.2 k)
  .exact k
theorem akD{a b:Rat}(ha:0<=a)(hb:0<=b)(h:a*a<=b*b):a<=b:=by
 apply dp.1;intro iD;have m1:=cB (bB iD) hb;have m2:=dO iD (show 0<a by grind)
 grind
theorem akE{m s n t:Nat}{e f:Int}{p:Nat}(h:uf m s)(k:uf n t)(hb:p<ib s)(kb:p<ib t)(hp:1<=p)(ic:p<=4096)(hle:(m:Rat)*(P2 e*P2 e)<=(n:Rat)*(P2 f*P2 f)):
 (kE (ux m s e p false) (y3 m s e p false) (ux n t f p true) (y3 n t f p true)).ia:=by
 unfold kE;split
 .exact mj
 .rename_i he
  obtain⟨a0,a1⟩:=akC (e:=e) h hb hp ic ae;obtain⟨b0,b1⟩:=akB (e:=f) k kb hp ic ae;refine .inr ⟨rfl,mn _ _ _ _ _ _ hp ic,mn _ _ _ _ _ _ hp ic,?_⟩;rw[pU];refine akD a0 b0 ?_;have s0:(0:Rat)<=(s:Rat):=cF;have wq:=mZ e;have m1:=cB a1 a0;have m2:=b8 a1 (bM s0 (bB wq));have c:(s:Rat)*(s:Rat)<=(m:Rat):=by
   have:=cX.2 h.1;rwa[cO]at this
  have m3:=b8 c (bM (bB wq) (bB wq));generalize (ux m s e p false).q=A at *
  generalize (s:Rat)=S at *
  generalize P2 e=P at *
  have e1:S*S*(P*P)=S*P*(S*P):= aq 
  grind
open Go.RowKit Fp Pu
def U5(m N:Nat)(x:Nat):PS:=⟨43,true,[(5,.e (gX (gV (kz m (2^((ib m+1)/2)) x)))),(0,.e (gX (gV m)))],[]⟩
theorem UT(L M:List Nat)(hL:iC L)(hM:iC M)(h1:L.length<=3000)(h2:M.length<=3000):∃ S:List Nat,gU 260 [gX L,gX M] (gX S)/\val S=val L+val M/\iC S/\S.length=max L.length M.length+1:=by
 obtain⟨n,hn⟩:∃ n,n=max L.length M.length+1:=⟨_,rfl⟩
 have iD:val L+val M<4294967296^n:=by
  have a:=lZ hL;have b:=lZ hM;have e:4294967296^n=4294967296^max L.length M.length*4294967296:=by rw[hn,aZ]
  have c:=bh (show 0<4294967296 by decide) (Nat.le_max_left L.length M.length);have d:=bh (show 0<4294967296 by decide) (Nat.le_max_right L.length M.length);omega
 refine⟨iK (val L+val M) n,?_,by rw[uD,bu iD],r9 _ _,by rw[mF,hn]⟩;refine As hL hM Tryz.call260 (fun A c B d w h k _=>U7 A B c d L M w h k h1 h2) fun B w e w' hB r=>?_
 obtain⟨S,v1,v2,v3,r⟩:=r;rw[Cq v2 (by rw[v3,hn]) v1];exact rl B w e w' hB r
theorem agM(L:List Nat)(n:Nat)(hL:iC L)(h1:L.length<=3000)(hn:n<=65536):∃ S:List Nat,gU 204 [gX L,iP (n:Int)] (gX S)/\val S=val L*2^n/\iC S:=by
 obtain⟨m,hm⟩:∃ m,m=n/32+(ik L).length+1:=⟨_,rfl⟩
 have iD:val L*2^n<4294967296^m:=by
  have a:=lZ hL.ik;rw[ot]at a;have e:4294967296^m=4294967296^(ik L).length*2^(32*(n/32+1)):=by
   rw[hm,show n/32+(ik L).length+1=(ik L).length+(n/32+1)by omega,aV,Nat.pow_mul]
  rw[e];exact am4 a (bh ag ae) (aY ag)
 refine⟨iK (val L*2^n) m,?_,by rw[uD,bu iD],r9 _ _⟩;refine Fv hL Tryz.call204 (fun A c w h _=>U8 A c L n w h ae hn) fun A c B w e w' h hB r=>?_
 obtain⟨S,v1,v2,v3,r⟩:=r;rw[Cq v2 (by rw[v3,hm]) v1];exact rl B w e w' hB r
def yX(L:List Nat):List Nat:=qx (1%32) ((ik L).drop (1/32))
theorem U3(L:List Nat)(hL:iC L)(h1:L.length<=3000):gU 166 [gX L,iP 1] (gX (yX L)):=
 Fv (n:=((1:Nat):Int)) hL Tryz.call166 (fun A c w h _=>Na A c L 1 w h ae ag) fun A c B w e w' h hB r=>rl B w e w' hB r
theorem Xg{L:List Nat}(hL:iC L):ik (yX L)=gV (val L/2):=by
 unfold yX;rw[qy (An _ _),JU hL.ik,ot]
theorem Vd(m x:Nat):oZ m x<=max x (m/x):=by
 unfold oZ;generalize m/x=q;omega
theorem Um(a b:Nat):(gV (max a b)).length<=max (gV a).length (gV b).length:=by
 rcases Nat.le_total a b with h|h
 .rw [Nat.max_eq_right h];omega
 .rw [Nat.max_eq_left h];omega
theorem agI(m:Nat)(h:(gV m).length<=256):gU 165 [gX (gV m)] (.iw [gX (gV m),iP 0]):=by
 have:=UX (gV m) (kA m) (by rw[vD];exact h);rwa[vD]at this
theorem agO(m N:Nat)(h1:(gV m).length<=256)(h0:m≠0)(ng:∀ k,k<N->oZ m (kz m (2^((ib m+1)/2)) k)<(kz m (2^((ib m+1)/2)) k))(qG:(kz m (2^((ib m+1)/2)) N)<=oZ m (kz m (2^((ib m+1)/2)) N))(mh:∀ k,k<=N->0<(kz m (2^((ib m+1)/2)) k)/\(kz m (2^((ib m+1)/2)) k)<=(2^((ib m+1)/2))):gU 337 [(gX (gV m))] (.iw [gX (gV (kz m (2^((ib m+1)/2)) N)),iP 0]):=by
 have bm:=mS h0;have bl:=vK h1;have z0:(gV (2^((ib m+1)/2))).length<=256:=nh (by rw[show(2^((ib m+1)/2))=1*2^((ib m+1)/2)by omega,qo ag];show 1+_<=_;omega);have hlen:∀ k,k<=N->(gV (kz m (2^((ib m+1)/2)) k)).length<=256:=fun k hk=>aX (lX (mh k hk).2) z0
 obtain⟨S0,A8,sv,oS0⟩:=agM (gV 1) ((ib m+1)/2) (kA 1) ar ae;rw[jD,bI]at sv;have hS0:gU 167 [gX S0] (gX (gV (2^((ib m+1)/2)))):=by
  have:=tC S0 oS0;rwa[qy oS0,sv]at this
 have zN:=hlen N ae;exact tr true Tryz.call337 Tryz.func337 (chain [.c (agJ (gV m) af),.c (sr _ ae:gU 194 [(gX (gV m))] _),tB 15 (nx ae:((ib m:Int)==0)=false),.o 16 (.e rY:PV.le (.e (.sl false 1 1 fun i_ j_=>[(.v (.int .u32 1))].getD (i_*1+j_) (.v (.bool false)))) (.e (gX (gV 1)))),iq ((ib m:Int)+1) ae,.a (ae:0<(2:Int)),
  iq (((((ib m)+1):Nat):Int)) ae,.c (A8:gU 204 [(gX (gV 1)),(iP (((((ib m)+1)/2):Nat):Int))] _),.c (hS0:gU 167 [(gX S0)] _),.s (Sp.jx (U5 m N) 0 N ae (fun x hx ke=>by
    obtain⟨xl,xu⟩:=mh x ae;obtain⟨Tq,Sq,Er,dT,dS,oT,oS,lT,lS⟩:=M6 (gV m) (gV (kz m (2^((ib m+1)/2)) x)) (kA m) (kA _) ae (by have:=hlen x ae;omega) (by rw[jD];omega);rw[jD,jD]at dT;have zx:=hlen x ae;have LB:gU 167 [gX Tq] (gX (gV (m/(kz m (2^((ib m+1)/2)) x)))):=by
     have:=tC Tq oT;rwa[qy oT,dT]at this
    have zt:(gV (m/(kz m (2^((ib m+1)/2)) x))).length<=257:=aX (lX (bw _ _)) ae;obtain⟨Uq,hU,uv,oU,lU⟩:=UT (gV (kz m (2^((ib m+1)/2)) x)) (gV (m/(kz m (2^((ib m+1)/2)) x))) (kA _) (kA _) ae ae;rw[jD,jD]at uv;have hV:=U3 Uq oU ae;have CE:gU 167 [gX (yX Uq)] (gX (gV (oZ m (kz m (2^((ib m+1)/2)) x)))):=by
     have:=tC (yX Uq) (An _ _);rwa[Xg oU,uv]at this
    have zn:(gV (oZ m (kz m (2^((ib m+1)/2)) x))).length<=257:=aX (lX (Vd m (kz m (2^((ib m+1)/2)) x))) (by have:=Um (kz m (2^((ib m+1)/2)) x) (m/(kz m (2^((ib m+1)/2)) x));omega);exact iB (chain [.c (Er:gU 319 [(gX (gV m)),(gX (gV (kz m (2^((ib m+1)/2)) x)))] _),.c (LB:gU 167 [(gX Tq)] _),.c (hU:gU 260 [(gX (gV (kz m (2^((ib m+1)/2)) x))),(gX (gV (m/(kz m (2^((ib m+1)/2)) x))))] _),.c (hV:gU 166 [(gX Uq),(iP 1)] _),.c (CE:gU 167 [(gX (yX Uq))] _),.c (yM _ _ ae ae:gU 131 [(gX (gV (oZ m (kz m (2^((ib m+1)/2)) x)))),(gX (gV (kz m (2^((ib m+1)/2)) x)))] _),tF 37 (0<=(kg (oZ m (kz m (2^((ib m+1)/2)) x)) (kz m (2^((ib m+1)/2)) x))) (by have:=ng x ae;have:=Cn.2 this;omega)]<|.e (chain [.o 5 (.e (.iU rfl):PV.le (.e (gX (gV (oZ m (kz m (2^((ib m+1)/2)) x))))) (.e (gX (gV (kz m (2^((ib m+1)/2)) (x+1))))))]<|.nil)) ah)
  (fun hx=>by
    obtain⟨xl,xu⟩:=mh N ae;obtain⟨Tq,Sq,Er,dT,dS,oT,oS,lT,lS⟩:=M6 (gV m) (gV (kz m (2^((ib m+1)/2)) N)) (kA m) (kA _) ae (by have:=hlen N ae;omega) (by rw[jD];omega);rw[jD,jD]at dT;have zx:=hlen N ae;have LB:gU 167 [gX Tq] (gX (gV (m/(kz m (2^((ib m+1)/2)) N)))):=by
     have:=tC Tq oT;rwa[qy oT,dT]at this
    have zt:(gV (m/(kz m (2^((ib m+1)/2)) N))).length<=257:=aX (lX (bw _ _)) ae;obtain⟨Uq,hU,uv,oU,lU⟩:=UT (gV (kz m (2^((ib m+1)/2)) N)) (gV (m/(kz m (2^((ib m+1)/2)) N))) (kA _) (kA _) ae ae;rw[jD,jD]at uv;have hV:=U3 Uq oU ae;have CE:gU 167 [gX (yX Uq)] (gX (gV (oZ m (kz m (2^((ib m+1)/2)) N)))):=by
     have:=tC (yX Uq) (An _ _);rwa[Xg oU,uv]at this
    have zn:(gV (oZ m (kz m (2^((ib m+1)/2)) N))).length<=257:=aX (lX (Vd m (kz m (2^((ib m+1)/2)) N))) (by have:=Um (kz m (2^((ib m+1)/2)) N) (m/(kz m (2^((ib m+1)/2)) N));omega);exact iB (chain [.c (Er:gU 319 [(gX (gV m)),(gX (gV (kz m (2^((ib m+1)/2)) N)))] _),.c (LB:gU 167 [(gX Tq)] _),.c (hU:gU 260 [(gX (gV (kz m (2^((ib m+1)/2)) N))),(gX (gV (m/(kz m (2^((ib m+1)/2)) N))))] _),.c (hV:gU 166 [(gX Uq),(iP 1)] _),.c (CE:gU 167 [(gX (yX Uq))] _),.c (yM _ _ ae ae:gU 131 [(gX (gV (oZ m (kz m (2^((ib m+1)/2)) N)))),(gX (gV (kz m (2^((ib m+1)/2)) N)))] _),tT 37 (0<=(kg (oZ m (kz m (2^((ib m+1)/2)) N)) (kz m (2^((ib m+1)/2)) N))) (by have:=qG;have:¬kg (oZ m (kz m (2^((ib m+1)/2)) N)) (kz m (2^((ib m+1)/2)) N)<0:=fun q=>absurd (Cn.1 q) ae;omega),.c (agI _ ae:gU 165 [(gX (gV (kz m (2^((ib m+1)/2)) N)))] _)]<|.nil) ah) ak:ju 7 Tryz.f337 (U5 m N 0) .ret ⟨43,true,[(3,.e (iP 0)),(2,.e (gX (gV (kz m (2^((ib m+1)/2)) N))))],[]⟩) (chain [.o 5 (.e (.iU rfl):PV.le (.e (gX (gV (2^((ib m+1)/2))))) (.e (gX (gV (kz m (2^((ib m+1)/2)) 0)))))]<|.nil)]<|.nil) ah 
theorem U6(m s:Nat)(h1:(gV m).length<=256)(h0:m≠0)(hr:uf m s):gU 337 [gX (gV m)] (.iw [gX (gV s),iP 0]):=by
 obtain⟨N,_,a,b,c,d⟩:=ajy hr (dB h0) (ajA m hr);have hs:0<s:=by
  apply bE;intro h;obtain rfl:s=0:= ae ;have:=hr.2;omega
 have:=agO m N h1 h0 a b fun k hk=>⟨by have:=(d k hk).1;omega,(d k hk).2⟩
 rwa[c]at this
noncomputable def lH(m:Nat):Nat:=Classical.choose (WN m)
theorem BU(m:Nat):uf m (lH m):=cM (WN m)
def sy(d:Dy)(p:Nat):Nat:=if Int.tmod (d.e-(((2*p+4-ib d.m:Nat)):Int)) 2=0 then 2*p+4-ib d.m else 2*p+4-ib d.m+1
noncomputable def uz(d:Dy)(p:Nat)(up:Bool):Dy:=ux (d.m*2^sy d p) (lH (d.m*2^sy d p)) ((d.e-(sy d p:Int))/2) p up
noncomputable def uy(d:Dy)(p:Nat)(up:Bool):Int:=y3 (d.m*2^sy d p) (lH (d.m*2^sy d p)) ((d.e-(sy d p:Int))/2) p up
theorem JB(d:Dy)(p:Nat):d.e-(sy d p:Int)=2*((d.e-(sy d p:Int))/2):=by
 have key:∀ x:Int,Int.tmod x 2=0↔x%2=0:=fun x=>by rw[<-Int.dvd_iff_tmod_eq_zero,<-Int.dvd_iff_emod_eq_zero]
 have:(d.e-(sy d p:Int))%2=0:=by
  unfold sy;split
  .rename_i h;exact(key _).1 h
  .rename_i h
   have h2:¬(d.e-(((2*p+4-ib d.m:Nat)):Int))%2=0:=fun q=>h ((key _).2 q)
   clear h;omega
 omega
theorem Xv(s:Nat):s<=s*s:=by
 by_cases h:s=0
 .subst h;exact bL _
 .exact fR s (dB h)
theorem Xx{d:Dy}(hn:d.neg=false)(K:Nat){E:Int}(h:d.e-(K:Int)=2*E):((d.m*2^K:Nat):Rat)*(P2 E*P2 E)=d.q:=by
 rw[qv,hn,aQ ag,<-qn,cO,<-uG,ef,<-qn,show(K:Int)+(E+E)=d.e by omega]
theorem NY{m s p:Nat}(h:uf m s)(hm:2*p+4<=ib m):p<ib s:=by
 apply bE;intro hb;have h1:s<2^ib s:=oN s;have h2:2^ib s<=2^p:=bh ag ae;have h3:=cK (show s+1<=2^p by omega) (show s+1<=2^p by omega);rw[<-aV]at h3;have h4:=h.2;have h5:ib m<=p+p:=kO.2 (bD h4 h3);omega
theorem WO(m s:Nat):((kg (s*s) m) != 0)=decide (s*s≠m):=by
 unfold kg;generalize s*s=q;rcases Nat.lt_trichotomy q m with h|h|h
 .rw [aR h,aS ae];rfl
 .subst h;simp
 .rw [aQ ae,aR h,aS ae];rfl
theorem aiS(d:Dy)(p:Nat)(up:Bool)(hd:d.ia)(hn:d.neg=false)(h0:d.m≠0)(il:8<=p)(ic:p<=512)(pI:Int.tmod (d.e-(((2*p+4-(ib d.m)):Nat):Int)) 2=0):gU 317 [(gY d),(iP p),(bP up)] (.iw [gY (uz d p up),iP (uy d p up)]):=by
 have hl:=hd.gV;have hx:=hd.exp;have hr:=hd.range.resolve_left h0;have bp:=mS h0;have hK:sy d p=(2*p+4-(ib d.m)):=by unfold sy;rw[aR pI]
 have he:=JB d p;rw[hK]at he;have hb:=qo h0 (2*p+4-(ib d.m));have z1:(gV (d.m*2^(2*p+4-(ib d.m)))).length<=256:=nh ae;have sN:(d.m*2^(2*p+4-(ib d.m)))≠0:=dr h0 (dF (aY ag));have sf:=BU (d.m*2^(2*p+4-(ib d.m)));have Bp:=NY sf (p:=p) ae;have z2:(gV (lH (d.m*2^(2*p+4-(ib d.m)))*lH (d.m*2^(2*p+4-(ib d.m))))).length<=256:=aX (lX sf.1) z1;have z3:(gV (lH (d.m*2^(2*p+4-(ib d.m))))).length<=256:=aX (lX (aX (Xv _) sf.1)) z1;have Ho:lH (d.m*2^(2*p+4-(ib d.m)))≠0\/lH (d.m*2^(2*p+4-(ib d.m)))=0/\(d.e-(((2*p+4-(ib d.m)):Nat):Int))/2=0/\((kg (lH (d.m*2^(2*p+4-(ib d.m)))*lH (d.m*2^(2*p+4-(ib d.m)))) (d.m*2^(2*p+4-(ib d.m)))) != 0)=false:=.inl (fun q=>by rw[q,qX]at Bp;omega);have se:((kg (lH (d.m*2^(2*p+4-(ib d.m)))*lH (d.m*2^(2*p+4-(ib d.m)))) (d.m*2^(2*p+4-(ib d.m)))) != 0)=true->p<ib (lH (d.m*2^(2*p+4-(ib d.m)))):=fun _=>Bp
 exact tr true Tryz.call317 Tryz.func317 (chain [.o 17 (.e (KU _):PV.le (.e (.sl true 1 3 fun i_ j_=>(jq d).getD (i_*3+j_) (.v (.bool false)))) (.e (np [d]))),.c (NN _ _ af ae ae:gU 177 [(iP p),(np [d])] _),tB 20 (ag:((0:Int)==0)=true),tB 23 (hn:d.neg=false),tB 26 (ag:((0:Int) != 0)=false),tB 31 (nx (pS h0):(((gV d.m).length:Int)==0)=false),
  iq (2*(p:Int)) ae,iq ((((2*p):Nat):Int)+4) ae,.c (G3 _ af:gU 295 [(gY d)] _),iq (((((2*p)+4):Nat):Int)-(ib (Dy.m d):Int)) ae,.o 41 (.int au:PV.le (.e (iP (if(((((2*p)+4):Nat):Int)-(ib (Dy.m d):Int))>0 then(((((2*p)+4):Nat):Int)-(ib (Dy.m d):Int))else 0))) (.e (iP (((2*p+4-(ib d.m)):Nat):Int)))),
  iq (d.e-(((2*p+4-(ib d.m)):Nat):Int)) ae,.a (ae:0<(2:Int)),tB 47 ((by simpa using pI):((Int.tmod (d.e-(((2*p+4-(ib d.m)):Nat):Int)) 2) != 0)=false),.c (vv d.m (2*p+4-(ib d.m)) ae ae ae),.c (U6 _ _ ae af (BU _):gU 337 [(gX (gV (d.m*2^(2*p+4-(ib d.m)))))] _),.c (yO _ _ ae ae ae:gU 181 [(gX (gV (lH (d.m*2^(2*p+4-(ib d.m)))))),(gX (gV (lH (d.m*2^(2*p+4-(ib d.m))))))] _),
  iq (d.e-(((2*p+4-(ib d.m)):Nat):Int)) ae,.a (ae:0<(2:Int)),iq ((d.e-(((2*p+4-(ib d.m)):Nat):Int))) ae,.o 70 (.int (by generalize hy:(d.e-(((2*p+4-(ib d.m)):Nat):Int))/2=y at *;rw[he];exact am5 _ ag):PV.le (.e (iP (Int.tdiv (d.e-(((2*p+4-(ib d.m)):Nat):Int)) 2))) (.e (iP ((d.e-(((2*p+4-(ib d.m)):Nat):Int))/2)))),.c (yM _ _ ae ae:gU 131 [(gX (gV ((lH (d.m*2^(2*p+4-(ib d.m))))*(lH (d.m*2^(2*p+4-(ib d.m))))))),(gX (gV (d.m*2^(2*p+4-(ib d.m)))))] _),.c (Dr _ _ _ _ _ ae af ae ae ae ae af:gU 220 [(.agg [(gX (gV (lH (d.m*2^(2*p+4-(ib d.m)))))),(iP ((d.e-(((2*p+4-(ib d.m)):Nat):Int))/2)),(bP ((kg ((lH (d.m*2^(2*p+4-(ib d.m))))*(lH (d.m*2^(2*p+4-(ib d.m))))) (d.m*2^(2*p+4-(ib d.m)))) != 0))]),(iP p),(bP up)] _)]<|rQ (.iw [(gY (jP false (lH (d.m*2^(2*p+4-(ib d.m)))) ((d.e-(((2*p+4-(ib d.m)):Nat):Int))/2) ((kg ((lH (d.m*2^(2*p+4-(ib d.m))))*(lH (d.m*2^(2*p+4-(ib d.m))))) (d.m*2^(2*p+4-(ib d.m)))) != 0) p up)),(iP (jG false (lH (d.m*2^(2*p+4-(ib d.m)))) ((d.e-(((2*p+4-(ib d.m)):Nat):Int))/2) ((kg ((lH (d.m*2^(2*p+4-(ib d.m))))*(lH (d.m*2^(2*p+4-(ib d.m))))) (d.m*2^(2*p+4-(ib d.m)))) != 0) p up))]) (.iw [gY (uz d p up),iP (uy d p up)]) (by unfold uz uy ux y3;rw[hK,WO])) ah 
theorem aiT(d:Dy)(p:Nat)(up:Bool)(hd:d.ia)(hn:d.neg=false)(h0:d.m≠0)(il:8<=p)(ic:p<=512)(pI:¬Int.tmod (d.e-(((2*p+4-(ib d.m)):Nat):Int)) 2=0):gU 317 [(gY d),(iP p),(bP up)] (.iw [gY (uz d p up),iP (uy d p up)]):=by
 have hl:=hd.gV;have hx:=hd.exp;have hr:=hd.range.resolve_left h0;have bp:=mS h0;have hK:sy d p=((2*p+4-(ib d.m))+1):=by unfold sy;rw[aQ pI]
 have he:=JB d p;rw[hK]at he;have hb:=qo h0 ((2*p+4-(ib d.m))+1);have z1:(gV (d.m*2^((2*p+4-(ib d.m))+1))).length<=256:=nh ae;have sN:(d.m*2^((2*p+4-(ib d.m))+1))≠0:=dr h0 (dF (aY ag));have sf:=BU (d.m*2^((2*p+4-(ib d.m))+1));have Bp:=NY sf (p:=p) ae;have z2:(gV (lH (d.m*2^((2*p+4-(ib d.m))+1))*lH (d.m*2^((2*p+4-(ib d.m))+1)))).length<=256:=aX (lX sf.1) z1;have z3:(gV (lH (d.m*2^((2*p+4-(ib d.m))+1)))).length<=256:=aX (lX (aX (Xv _) sf.1)) z1;have Ho:lH (d.m*2^((2*p+4-(ib d.m))+1))≠0\/lH (d.m*2^((2*p+4-(ib d.m))+1))=0/\(d.e-((((2*p+4-(ib d.m))+1):Nat):Int))/2=0/\((kg (lH (d.m*2^((2*p+4-(ib d.m))+1))*lH (d.m*2^((2*p+4-(ib d.m))+1))) (d.m*2^((2*p+4-(ib d.m))+1))) != 0)=false:=.inl (fun q=>by rw[q,qX]at Bp;omega);have se:((kg (lH (d.m*2^((2*p+4-(ib d.m))+1))*lH (d.m*2^((2*p+4-(ib d.m))+1))) (d.m*2^((2*p+4-(ib d.m))+1))) != 0)=true->p<ib (lH (d.m*2^((2*p+4-(ib d.m))+1))):=fun _=>Bp
 exact tr true Tryz.call317 Tryz.func317 (chain [.o 17 (.e (KU _):PV.le (.e (.sl true 1 3 fun i_ j_=>(jq d).getD (i_*3+j_) (.v (.bool false)))) (.e (np [d]))),.c (NN _ _ af ae ae:gU 177 [(iP p),(np [d])] _),tB 20 (ag:((0:Int)==0)=true),tB 23 (hn:d.neg=false),tB 26 (ag:((0:Int) != 0)=false),tB 31 (nx (pS h0):(((gV d.m).length:Int)==0)=false),
  iq (2*(p:Int)) ae,iq ((((2*p):Nat):Int)+4) ae,.c (G3 _ af:gU 295 [(gY d)] _),iq (((((2*p)+4):Nat):Int)-(ib (Dy.m d):Int)) ae,.o 41 (.int au:PV.le (.e (iP (if(((((2*p)+4):Nat):Int)-(ib (Dy.m d):Int))>0 then(((((2*p)+4):Nat):Int)-(ib (Dy.m d):Int))else 0))) (.e (iP (((2*p+4-(ib d.m)):Nat):Int)))),
  iq (d.e-(((2*p+4-(ib d.m)):Nat):Int)) ae,.a (ae:0<(2:Int)),tB 47 ((by simpa using pI):((Int.tmod (d.e-(((2*p+4-(ib d.m)):Nat):Int)) 2) != 0)=true),
  iq ((((2*p+4-(ib d.m)):Nat):Int)+1) ae,.c (vv d.m ((2*p+4-(ib d.m))+1) ae ae ae),.c (U6 _ _ ae af (BU _):gU 337 [(gX (gV (d.m*2^((2*p+4-(ib d.m))+1))))] _),.c (yO _ _ ae ae ae:gU 181 [(gX (gV (lH (d.m*2^((2*p+4-(ib d.m))+1))))),(gX (gV (lH (d.m*2^((2*p+4-(ib d.m))+1)))))] _),
  iq (d.e-((((2*p+4-(ib d.m))+1):Nat):Int)) ae,.a (ae:0<(2:Int)),iq ((d.e-((((2*p+4-(ib d.m))+1):Nat):Int))) ae,.o 70 (.int (by generalize hy:(d.e-((((2*p+4-(ib d.m))+1):Nat):Int))/2=y at *;rw[he];exact am5 _ ag):PV.le (.e (iP (Int.tdiv (d.e-((((2*p+4-(ib d.m))+1):Nat):Int)) 2))) (.e (iP ((d.e-((((2*p+4-(ib d.m))+1):Nat):Int))/2)))),.c (yM _ _ ae ae:gU 131 [(gX (gV ((lH (d.m*2^((2*p+4-(ib d.m))+1)))*(lH (d.m*2^((2*p+4-(ib d.m))+1)))))),(gX (gV (d.m*2^((2*p+4-(ib d.m))+1))))] _),.c (Dr _ _ _ _ _ ae af ae ae ae ae af:gU 220 [(.agg [(gX (gV (lH (d.m*2^((2*p+4-(ib d.m))+1))))),(iP ((d.e-((((2*p+4-(ib d.m))+1):Nat):Int))/2)),(bP ((kg ((lH (d.m*2^((2*p+4-(ib d.m))+1)))*(lH (d.m*2^((2*p+4-(ib d.m))+1)))) (d.m*2^((2*p+4-(ib d.m))+1))) != 0))]),(iP p),(bP up)] _)]<|rQ (.iw [(gY (jP false (lH (d.m*2^((2*p+4-(ib d.m))+1))) ((d.e-((((2*p+4-(ib d.m))+1):Nat):Int))/2) ((kg ((lH (d.m*2^((2*p+4-(ib d.m))+1)))*(lH (d.m*2^((2*p+4-(ib d.m))+1)))) (d.m*2^((2*p+4-(ib d.m))+1))) != 0) p up)),(iP (jG false (lH (d.m*2^((2*p+4-(ib d.m))+1))) ((d.e-((((2*p+4-(ib d.m))+1):Nat):Int))/2) ((kg ((lH (d.m*2^((2*p+4-(ib d.m))+1)))*(lH (d.m*2^((2*p+4-(ib d.m))+1)))) (d.m*2^((2*p+4-(ib d.m))+1))) != 0) p up))]) (.iw [gY (uz d p up),iP (uy d p up)]) (by unfold uz uy ux y3;rw[hK,WO])) ah 
theorem Wo(d:Dy)(p:Nat)(up:Bool)(hd:d.ia)(hn:d.neg=false)(h0:d.m≠0)(il:8<=p)(ic:p<=512):gU 317 [(gY d),(iP p),(bP up)] (.iw [gY (uz d p up),iP (uy d p up)]):=by
 by_cases h:Int.tmod (d.e-(((2*p+4-(ib d.m)):Nat):Int)) 2=0
 .exact aiS d p up hd hn h0 il ic h
 .exact aiT d p up hd hn h0 il ic h
theorem aiQ(d:Dy)(p:Nat)(hd:d.ia)(hn:d.neg=false)(h0:d.m≠0)(il:8<=p)(ic:p<=512):gU 285 [(gY d),(iP p)] (.iw [gY (uz d p false),iP (uy d p false)]):=by
 exact tr true Tryz.call285 Tryz.func285 (chain [.c (Wo _ _ _ af af af ae ae:gU 317 [(gY d),(iP p),(bP false)] _)]<|.nil) ah 
theorem aiR(d:Dy)(p:Nat)(hd:d.ia)(hn:d.neg=false)(h0:d.m≠0)(il:8<=p)(ic:p<=512):gU 286 [(gY d),(iP p)] (.iw [gY (uz d p true),iP (uy d p true)]):=by
 exact tr true Tryz.call286 Tryz.func286 (chain [.c (Wo _ _ _ af af af ae ae:gU 317 [(gY d),(iP p),(bP true)] _)]<|.nil) ah 
theorem afF(x:Iv)(p:Nat)(hx:x.ia)(il:8<=p)(ic:p<=512)(xa:x.all=true):gU 246 [(gZ x),(iP p)] (gZ ie):=by
 exact tr true Tryz.call246 Tryz.func246 (chain [.o 10 (.e (mC _):PV.le (.e (.sl true 1 7 fun i_ j_=>(iZ x).getD (i_*7+j_) (.v (.bool false)))) (.e (ig [x]))),.c (pQ _ af:gU 86 [(ig [x])] _),tB 11 (by rw[xa];rfl:(!x.all)=false),.c nu]<|.nil) ah 
theorem afG(x:Iv)(p:Nat)(hx:x.ia)(il:8<=p)(ic:p<=512)(xa:x.all=false)(h1:x.lo.iJ<=0):gU 246 [(gZ x),(iP p)] (gZ ie):=by
 obtain⟨w1,w2⟩:=hx.ki;exact tr true Tryz.call246 Tryz.func246 (chain [.o 10 (.e (mC _):PV.le (.e (.sl true 1 7 fun i_ j_=>(iZ x).getD (i_*7+j_) (.v (.bool false)))) (.e (ig [x]))),.c (pQ _ af:gU 86 [(ig [x])] _),tB 11 (by rw[xa];rfl:(!x.all)=true),.c (vf _:gU 87 [(iP p)] _),tB 15 (o0.2 ⟨ae,ae⟩:(lp (p:Int))=true),.c (nU _ af:gU 35 [(gY x.lo)] _),tB 22 (aS h1),.c nu]<|.nil) ah 
theorem afH(x:Iv)(p:Nat)(hx:x.ia)(il:8<=p)(ic:p<=512)(xa:x.all=false)(h1:¬x.lo.iJ<=0)(n1:x.lo.neg=false)(n2:x.hi.neg=false)(m1:x.lo.m≠0)(m2:x.hi.m≠0):gU 246 [(gZ x),(iP p)] (gZ (kE (uz x.lo p false) (uy x.lo p false) (uz x.hi p true) (uy x.hi p true))):=by
 obtain⟨w1,w2⟩:=hx.ki;exact tr true Tryz.call246 Tryz.func246 (chain [.o 10 (.e (mC _):PV.le (.e (.sl true 1 7 fun i_ j_=>(iZ x).getD (i_*7+j_) (.v (.bool false)))) (.e (ig [x]))),.c (pQ _ af:gU 86 [(ig [x])] _),tB 11 (by rw[xa];rfl:(!x.all)=true),.c (vf _:gU 87 [(iP p)] _),tB 15 (o0.2 ⟨ae,ae⟩:(lp (p:Int))=true),.c (nU _ af:gU 35 [(gY x.lo)] _),tB 22 (aT h1),.c (aiQ _ _ af af af ae ae:gU 285 [(gY x.lo),(iP p)] _),.c (aiR _ _ af af af ae ae:gU 286 [(gY x.hi),(iP p)] _),.c (BB (uz x.lo p false) (uz x.hi p true) (uy x.lo p false) (uy x.hi p true))]<|.nil) ah 
theorem Vz{d:Dy}(h:0<d.q):d.neg=false/\d.m≠0:=by
 have hm:d.m≠0:=fun q=>by rw[qv,q]at h;simp at h
 refine⟨?_,hm⟩;cases hn:d.neg
 .rfl
 .rw [qv,hn,aR rfl]at h
  have:=bM (show(0:Rat)<=(d.m:Rat)from cF) (bB (mZ d.e))
  grind
theorem Xu{d:Dy}{p:Nat}(il:8<=p)(h0:d.m≠0):p<ib (lH (d.m*2^sy d p)):=by
 refine NY (BU _) ?_;rw[qo h0];unfold sy;split<;>omega
theorem MI{x:Iv}(hx:x.ia){p:Nat}(il:8<=p)(ic:p<=512):∃ Z,Z.ia/\gU 246 [gZ x,iP (p:Int)] (gZ Z):=by
 cases xa:x.all with
 |true=>exact⟨ie,mj,afF x p hx il ic xa⟩
 |false=>
  by_cases h1:x.lo.iJ<=0
  .exact ⟨ie,mj,afG x p hx il ic xa h1⟩
  .have q1:0<x.lo.q:=(re _).1.1 ae 
   have q2:0<x.hi.q:=by have:=hx.q;grind
   obtain⟨n1,m1⟩:=Vz q1;obtain⟨n2,m2⟩:=Vz q2;refine⟨_,?_,afH x p hx il ic xa h1 n1 n2 m1 m2⟩;refine akE (BU _) (BU _) (Xu il m1) (Xu il m2) ae ae ?_;rw[Xx n1 _ (JB _ _),Xx n2 _ (JB _ _)];exact hx.q
open Go.RowKit Fp Pu
def jZ(X b:Nat):Nat->Nat
 | 0=>2^b
 |k+1=>jZ X b k*X/2^b/(k+1)
theorem RP{X b:Nat}(h:X<=2^(b+1))(t:Nat):t*X/2^b<=2*t:=by
 have hp:0<2^b:=aY ag;have h1:t*X<=t*(2^b*2):=ca t (by rw[<-aZ];exact h);have h2:t*X/2^b<=t*(2^b*2)/2^b:=Nat.div_le_div_right h1;have h3:t*(2^b*2)/2^b=2*t:=by
  rw[show t*(2^b*2)=2^b*(2*t)by rw[cD,a7 t 2]];exact amS _ hp
 omega
theorem Eg{X b:Nat}(h:X<=2^(b+1)):∀ k,jZ X b k<=2^(b+1)
 | 0=>by show 2^b<=2^(b+1);rw[aZ];omega
 | 1=>by
  show 2^b*X/2^b/1<=_;rw[dC,amS _ (aY ag)];exact h
 |k+2=>by
  have ih:=Eg h (k+1);have h1:=RP h (jZ X b (k+1));show jZ X b (k+1)*X/2^b/(k+2)<=_;have h2:jZ X b (k+1)*X/2^b/(k+2)<=jZ X b (k+1)*X/2^b/2:=gv ae ag;omega
theorem ade{X b:Nat}(h:X<=2^(b+1))(k:Nat)(hk:3<=k):jZ X b (k+1)*2<=jZ X b k:=by
 have h1:=RP h (jZ X b k);have h2:jZ X b (k+1)<=jZ X b k*X/2^b/4:=gv ae ag;omega
theorem RO{X b:Nat}(h:X<=2^(b+1)):∀ j,jZ X b (3+j)*2^j<=2^(b+1)
 | 0=>by rw[bN,bO];exact Eg h 3
 |j+1=>by
  have ih:=RO h j;have h1:=ade h (3+j) ae;have h2:=bC (2^j) h1;rw[aZ,show jZ X b (3+(j+1))*(2^j*2)=jZ X b (3+j+1)*2*2^j by rw[bc,a7 2 (2^j)];rfl];omega
theorem adf{X b:Nat}(h:X<=2^(b+1)):∃ N,1<=N/\N<=b+5/\(∀ k,k<N->jZ X b k≠0)/\jZ X b N=0:=by
 have hz:jZ X b (3+(b+2))=0:=by
  have h1:=RO h (b+2);apply bE;intro kI;have h2:2^(b+2)<=jZ X b (3+(b+2))*2^(b+2):=fR _ (dB kI);have h3:2^(b+2)=2^(b+1)*2:=aZ (n:=2) (m:=b+1);have h4:0<2^(b+1):=aY ag;omega
 obtain⟨N,n1,n2,n3⟩:=qI (p:=fun k=>decide (jZ X b k=0)) (n:=b+6) ⟨3+(b+2),ae,aS hz⟩;have n2':=ct n2;refine⟨N,?_,ae,fun k hk=>fu (n3 k hk),n2'⟩;rcases N with _|N
 .have:0<2^b:=aY ag 
  have e:2^b=0:=n2';omega
 .omega
theorem aed{f:Nat->Nat}{B:Nat}(h0:f 0<2^B)(h:∀ k,f (k+1)*2<=f k):∃ N,N<=B/\(∀ k,k<N->f k≠0)/\f N=0:=by
 have hp:∀ k,f k*2^k<=f 0:=by
  intro k
  induction k with
  |zero=>rw[bN,bO];exact aU _
  |succ k ih=>
   have:=bC (2^k) (h k);rw[aZ,show f (k+1)*(2^k*2)=f (k+1)*2*2^k by rw[bc,a7 2 (2^k)]];omega
 have hz:f B=0:=by
  apply bE;intro kI;have h2:2^B<=f B*2^B:=fR _ (dB kI);have:=hp B;omega
 obtain⟨N,n1,n2,n3⟩:=qI (p:=fun k=>decide (f k=0)) (n:=B+1) ⟨B,ae,aS hz⟩;exact⟨N,ae,fun k hk=>fu (n3 k hk),ct n2⟩
def jM(a b:Bool×Nat):Bool×Nat:=if a.1=b.1 then(a.1,a.2+b.2)else if a.2<b.2 then(b.1,b.2-a.2)else(a.1,a.2-b.2)
def oP(a:Bool×Nat):Int:=if a.1 then -(a.2:Int)else(a.2:Int)
theorem Ld(a b:Bool×Nat):oP (jM a b)=oP a+oP b:=by
 obtain⟨s,m⟩:=a;obtain⟨t,n⟩:=b;unfold jM oP;cases s<;>cases t<;>simp<;>(try split)<;>(try simp)<;>omega
theorem wW(a b:Bool×Nat):(jM a b).2<=a.2+b.2:=by
 unfold jM;split
 .exact aU _
 .split
  .show b.2-a.2<=_;omega
  .show a.2-b.2<=_;omega
open Go.RowKit Fp Pu
def zK(a:Bool×Nat)(b:Nat):Dy:=canon a.1 a.2 (-(b:Int))
theorem RN(a:Bool×Nat)(b:Nat):(zK a b).q=(oP a:Rat)*P2 (-(b:Int)):=by
 unfold zK oP;rw[qL];cases a.1
 .simp only[bq,a6];rw[dK]
 .simp only[bk];rw[fM,dK];grind
def Hm(a:Bool×Nat):Bool×Nat:=jM a (true,16777216)
def Hl(a:Bool×Nat):Bool×Nat:=jM a (false,16777216)
def ss(a:Bool×Nat)(b p:Nat):Iv:=kE (jj (zK (Hm a) b) p false) (jz (zK (Hm a) b) p false) (jj (zK (Hl a) b) p true) (jz (zK (Hl a) b) p true)
theorem agT(a:Bool×Nat)(b:Nat){p:Nat}(hp:1<=p)(ic:p<=4096):(ss a b p).ia:=by
 unfold ss kE;split
 .exact mj
 .rename_i he
  have c1:(zK (Hm a) b).lI:=qP _ _ _;have c2:(zK (Hl a) b).lI:=qP _ _ _;have A:=wI c1 hp ic;have B:=wJ c2 hp ic;refine .inr ⟨rfl,wK _ hp ic _,wK _ hp ic _,?_⟩;rw[pU];refine bG (A.1 ae).2 (bG ?_ (B.1 ae).2);rw[RN,RN,vi,fL];unfold Hm Hl;rw[Ld,Ld];simp[oP]
open Go.RowKit Fp Pu
theorem zD(m n:Nat)(h1:(gV m).length<=256)(h2:n<=65536)(h3:(gV (m*2^n)).length<=256):gU 329 [(gX (gV m)),(iP n)] (gX (gV (m*2^n))):=by
 exact tr true Tryz.call329 Tryz.func329 (chain [.c (U2 _ _ af ae af:gU 168 [(gX (gV m)),(iP n)] _)]<|.nil) ah 
theorem vN(m n:Nat)(h1:(gV m).length<=256)(h2:n<=65536):gU 330 [(gX (gV m)),(iP n)] (gX (gV (m/2^n))):=by
 exact tr true Tryz.call330 Tryz.func330 (chain [.c (M8 _ _ af ae:gU 127 [(gX (gV m)),(iP n)] _)]<|.nil) ah 
theorem Ks(m:Nat)(z:Int)(h1:(gV m).length<=256)(h2:0<=z)(h3:z<=65536)(h4:(gV (m*2^z.toNat)).length<=256):gU 329 [gX (gV m),iP z] (gX (gV (m*2^z.toNat))):=by
 have:=zD m z.toNat h1 ae h4;rwa[show(z.toNat:Int)=z by omega]at this
theorem aaO(m:Nat)(z:Int)(h1:(gV m).length<=256)(h2:0<=z)(h3:z<=65536):gU 330 [gX (gV m),iP z] (gX (gV (m/2^z.toNat))):=by
 have:=vN m z.toNat h1 ae;rwa[show(z.toNat:Int)=z by omega]at this
theorem lG{m k:Nat}(h:m<2^k)(hk:k<=8192):(gV m).length<=256:=nh (aX (kO.2 h) hk)
theorem sR{n:Nat}(h:n<4294967296):(gV n).length<=256:=lG (k:=32) h ag 
theorem afr(n:Nat):(je n).neg=false/\0<=(je n).e/\(je n).m*2^(je n).e.toNat=n/\(je n).m<=n:=by
 by_cases h:n=0
 .subst h;decide
 .have e1:(je (n:Int))=canon false n 0:=By n
  have e2:canon false n 0=⟨false,n/2^jO n,(jO n:Int)⟩:=by unfold canon;rw[aQ h];simp
  rw[e1,e2];refine⟨rfl,Int.natCast_nonneg _,?_,bw _ _⟩;show n/2^jO n*2^(jO n:Int).toNat=n;rw[fA];exact D6 h
theorem Kv(n:Nat)(h:n<4294967296):gU 331 [(iP n)] (.agg [(bP false),(gX (gV n))]):=by
 obtain⟨p1,p2,p3,p4⟩:=afr n;have hv:=MA n h;have he:=hv.exp;have z1:=hv.gV;have z2:(gV ((je n).m*2^(Int.toNat (je n).e))).length<=256:=by rw[p3];exact sR h
 exact tr true Tryz.call331 Tryz.func331 (chain [.c (Kf n ae),.c (Ks _ _ af ae ae af:gU 329 [(gX (gV ((je (n:Int)).m))),(iP ((je (n:Int)).e))] _)]<|rQ (.agg [(bP ((je (n:Int)).neg)),(gX (gV (((je (n:Int)).m)*2^(Int.toNat ((je (n:Int)).e)))))]) (.agg [(bP false),(gX (gV n))]) (by rw[p1,p3])) ah 
theorem Z7(m:Nat):((ib m:Int)==0)=decide (m=0):=by
 by_cases h:m=0
 .subst h;rw[qX];rfl
 .have:=mS h
  rw[aT h];exact nx ae 
theorem Cy(a:Bool×Nat)(ha:(gV a.2).length<=256):gU 336 [(.agg [(bP a.1),(gX (gV a.2))])] (bP (decide (a.2=0))):=by
 exact tr true Tryz.call336 Tryz.func336 (chain [.c (sr _ ae:gU 194 [(gX (gV a.2))] _)]<|rQ (bP ((ib a.2:Int)==0)) (bP (decide (a.2=0))) (by rw[Z7])) ah 
theorem vS(a:Bool×Nat):gU 326 [(.agg [(bP a.1),(gX (gV a.2))])] (.agg [(bP (!a.1)),(gX (gV a.2))]):=by
 exact tr true Tryz.call326 Tryz.func326 (.nil) ah 
theorem acO(a:Bool×Nat)(ha:(gV a.2).length<=256)(b:Bool×Nat)(hb:(gV b.2).length<=256)(h:a.1=b.1)(hs:(gV (a.2+b.2)).length<=256):gU 335 [(.agg [(bP a.1),(gX (gV a.2))]),(.agg [(bP b.1),(gX (gV b.2))])] (.agg [(bP a.1),(gX (gV (a.2+b.2)))]):=by
 exact tr true Tryz.call335 Tryz.func335 (chain [tB 13 (by rw[h];simp:(a.1==b.1)=true),.c (IY _ _ af af af:gU 218 [(gX (gV a.2)),(gX (gV b.2))] _)]<|.nil) ah 
theorem acM(a:Bool×Nat)(ha:(gV a.2).length<=256)(b:Bool×Nat)(hb:(gV b.2).length<=256)(h:¬a.1=b.1)(h2:a.2<b.2):gU 335 [(.agg [(bP a.1),(gX (gV a.2))]),(.agg [(bP b.1),(gX (gV b.2))])] (.agg [(bP b.1),(gX (gV (b.2-a.2)))]):=by
 exact tr true Tryz.call335 Tryz.func335 (chain [tB 13 (by simpa using h:(a.1==b.1)=false),.c (yM _ _ ae ae:gU 131 [(gX (gV a.2)),(gX (gV b.2))] _),tT 31 ((kg a.2 b.2)<0) (Cn.2 h2),.c (Fi _ _ af af ae:gU 219 [(gX (gV b.2)),(gX (gV a.2))] _)]<|.nil) ah 
theorem acN(a:Bool×Nat)(ha:(gV a.2).length<=256)(b:Bool×Nat)(hb:(gV b.2).length<=256)(h:¬a.1=b.1)(h2:¬a.2<b.2):gU 335 [(.agg [(bP a.1),(gX (gV a.2))]),(.agg [(bP b.1),(gX (gV b.2))])] (.agg [(bP a.1),(gX (gV (a.2-b.2)))]):=by
 exact tr true Tryz.call335 Tryz.func335 (chain [tB 13 (by simpa using h:(a.1==b.1)=false),.c (yM _ _ ae ae:gU 131 [(gX (gV a.2)),(gX (gV b.2))] _),tF 31 ((kg a.2 b.2)<0) fun q=>h2 (Cn.1 q),.c (Fi _ _ af af ae:gU 219 [(gX (gV a.2)),(gX (gV b.2))] _)]<|.nil) ah 
theorem sK(a:Bool×Nat)(ha:(gV a.2).length<=256)(b:Bool×Nat)(hb:(gV b.2).length<=256)(hs:(gV (a.2+b.2)).length<=256):gU 335 [(.agg [(bP a.1),(gX (gV a.2))]),(.agg [(bP b.1),(gX (gV b.2))])] (.agg [(bP ((jM a b).1)),(gX (gV ((jM a b).2)))]):=by
 unfold jM;split
 .rename_i h;exact acO a ha b hb h hs
 .rename_i h
  split
  .rename_i h2;exact acM a ha b hb h h2
  .rename_i h2;exact acN a ha b hb h h2
theorem Lc(a:Bool×Nat)(ha:(gV a.2).length<=256)(c:Bool×Nat)(hc:(gV c.2).length<=256)(b:Nat)(hb:b<=65536)(hm:(gV (a.2*c.2)).length<=256):gU 332 [(.agg [(bP a.1),(gX (gV a.2))]),(.agg [(bP c.1),(gX (gV c.2))]),(iP b)] (.agg [(bP (a.1 != c.1)),(gX (gV (a.2*c.2/2^b)))]):=by
 exact tr true Tryz.call332 Tryz.func332 (chain [.c (yO _ _ af af af:gU 181 [(gX (gV a.2)),(gX (gV c.2))] _),.c (vN _ _ af ae:gU 330 [(gX (gV (a.2*c.2))),(iP b)] _)]<|.nil) ah 
theorem Ee(a:Bool×Nat)(ha:(gV a.2).length<=256)(n:Nat)(h0:n≠0)(hn:n<4294967296):gU 342 [(.agg [(bP a.1),(gX (gV a.2))]),(iP n)] (.agg [(bP a.1),(gX (gV (a.2/n)))]):=by
 have zn:(gV n).length<=256:=sR hn;exact tr true Tryz.call342 Tryz.func342 (chain [.c (Kv _ ae:gU 331 [(iP n)] _),.c (yN _ _ ae ae af:gU 296 [(gX (gV a.2)),(gX (gV n))] _)]<|.nil) ah 
def qV(d:Dy)(b:Nat):Bool×Nat:=(d.neg,if d.e+(b:Int)<0 then d.m/2^(0-(d.e+(b:Int))).toNat else d.m*2^(d.e+(b:Int)).toNat)
theorem aax(d:Dy)(hd:d.ia)(b:Nat)(hb:b<=30000)(h:d.e+(b:Int)<0):gU 334 [(gY d),(iP b)] (.agg [(bP ((qV d b).1)),(gX (gV ((qV d b).2)))]):=by
 have hx:=hd.exp;have z1:=hd.gV;exact tr true Tryz.call334 Tryz.func334 (chain [iq (d.e+(b:Int)) ae,tB 11 (aS h),iq (0-(d.e+(b:Int))) ae,.c (aaO _ _ af ae ae:gU 330 [(gX (gV d.m)),(iP (0-(d.e+(b:Int))))] _)]<|rQ (.agg [(bP d.neg),(gX (gV (d.m/2^(Int.toNat (0-(d.e+(b:Int)))))))]) (.agg [(bP ((qV d b).1)),(gX (gV ((qV d b).2)))]) (by unfold qV;rw[aR h])) ah 
theorem aaw(d:Dy)(hd:d.ia)(b:Nat)(hb:b<=30000)(h:¬d.e+(b:Int)<0)(hs:(gV (d.m*2^(Int.toNat (d.e+(b:Int))))).length<=256):gU 334 [(gY d),(iP b)] (.agg [(bP ((qV d b).1)),(gX (gV ((qV d b).2)))]):=by
 have hx:=hd.exp;have z1:=hd.gV;exact tr true Tryz.call334 Tryz.func334 (chain [iq (d.e+(b:Int)) ae,tB 11 (aT h),iq (d.e+(b:Int)) ae,.c (Ks _ _ af ae ae af:gU 329 [(gX (gV d.m)),(iP (d.e+(b:Int)))] _)]<|rQ (.agg [(bP d.neg),(gX (gV (d.m*2^(Int.toNat (d.e+(b:Int))))))]) (.agg [(bP ((qV d b).1)),(gX (gV ((qV d b).2)))]) (by unfold qV;rw[aQ h])) ah 
theorem I5{d:Dy}{b K:Nat}(h:d.iu+(b:Int)<=K):(qV d b).2<2^K:=by
 by_cases h0:d.m=0
 .have:(qV d b).2=0:=by unfold qV;simp only[h0];split<;>simp
  rw[this];exact aY ag 
 .rw [F0 h0]at h
  have hm:=oN d.m;unfold qV;simp only;split
  .rename_i hc
   obtain⟨k,hk⟩:∃ k,k=(0-(d.e+(b:Int))).toNat:=⟨_,rfl⟩
   rw[<-hk];by_cases hb:ib d.m<=k
   .rw [bS (bD hm (bh ag hb))];exact aY ag 
   .refine (bR (aY ag)).2 (bD hm ?_)
    rw[<-aV];exact bh ag ae 
  .rename_i hc
   obtain⟨k,hk⟩:∃ k,k=(d.e+(b:Int)).toNat:=⟨_,rfl⟩
   rw[<-hk];have:=cC hm (aY (n:=k) (show 0<2 by decide));rw[<-aV]at this;exact bD this (bh ag ae)
theorem Kt(d:Dy)(hd:d.ia)(b K:Nat)(hb:b<=30000)(hK:K<=8192)(h:d.iu+(b:Int)<=K):gU 334 [gY d,iP (b:Int)] (.agg [(bP ((qV d b).1)),(gX (gV ((qV d b).2)))]):=by
 by_cases hc:d.e+(b:Int)<0
 .exact aax d hd b hb hc
 .refine aaw d hd b hb hc ?_
  have:=I5 h;unfold qV at this;rw[aQ hc]at this;exact lG this hK
open Go.RowKit Fp Pu
def mu(f:Nat->Nat):Nat->Bool×Nat
 | 0=>(false,f 0)
 |k+1=>jM (mu f k) (decide ((k+1)%2=1),f (k+1)/(2*(k+1)+1))
theorem Pj{f:Nat->Nat}(hf:∀ k,f (k+1)<=f k):∀ n,(n%2=0->oP (mu f n)<=f 0/\(f 0:Int)-(f 1/3:Nat)<=oP (mu f n)-(f (n+1)/(2*(n+1)+1):Nat))/\(n%2=1->(f 0:Int)-(f 1/3:Nat)<=oP (mu f n)/\oP (mu f n)+(f (n+1)/(2*(n+1)+1):Nat)<=f 0)
 | 0=>⟨fun _=>⟨by simp[mu,oP],by simp[mu,oP]⟩,fun h=> ae⟩
 |n+1=>by
  obtain⟨e,o⟩:=Pj hf n;have hq:f (n+1+1)/(2*(n+1+1)+1)<=f (n+1)/(2*(n+1)+1):=Nat.div_le_div (hf (n+1)) ae ae;have hv:oP (mu f (n+1))=oP (mu f n)+oP (decide ((n+1)%2=1),f (n+1)/(2*(n+1)+1)):=Ld _ _;generalize f (n+1)/(2*(n+1)+1)=q1 at *
  generalize f (n+1+1)/(2*(n+1+1)+1)=q2 at *
  generalize f 1/3=q0 at *
  rcases am6 n with h|h
  .obtain ⟨e1,e2⟩:=e h
   rw[show decide ((n+1)%2=1)=true from aS ae]at hv;simp only[oP,bk]at hv;exact⟨fun q=> ae,fun _=>⟨by unfold oP at *;omega,by unfold oP at *;omega⟩⟩
  .obtain ⟨e1,e2⟩:=o h
   rw[show decide ((n+1)%2=1)=false from aT ae]at hv;simp only[oP,bq,a6]at hv;exact⟨fun _=>⟨by unfold oP at *;omega,by unfold oP at *;omega⟩,fun q=> ae⟩
theorem Kd{f:Nat->Nat}(hf:∀ k,f (k+1)<=f k)(n:Nat):(mu f n).2<=f 0/\f 0<=(mu f n).2+f 1/3:=by
 have ht:=Pj hf n;have h1:f 1/3<=f 0:=aX (bw _ _) (hf 0);have hb:(f 0:Int)-(f 1/3:Nat)<=oP (mu f n)/\oP (mu f n)<=f 0:=by
  rcases am6 n with h|h
  .have:=ht.1 h
   generalize f (n+1)/(2*(n+1)+1)=q at *
   omega
  .have:=ht.2 h
   generalize f (n+1)/(2*(n+1)+1)=q at *
   omega
 generalize mu f n=s at *
 generalize f 1/3=q at *
 obtain⟨b,m⟩:=s;cases b
 .simp only[oP,bq,a6]at hb ⊢;omega
 .simp only[oP,bk]at hb ⊢;omega
theorem Gt{f:Nat->Nat}(hf:∀ k,f (k+1)<=f k):∀ k,f k<=f 0
 | 0=>aU _
 |k+1=>aX (hf k) (Gt hf k)
theorem Cd{f:Nat->Nat}(hf:∀ k,f (k+1)<=f k){B:Nat}(hB:B<=8191)(hz:f 0<2^B)(k:Nat):(gV (f k)).length<=256:=lG (bQ (Gt hf k) hz) ae 
theorem Gu{f:Nat->Nat}(hf:∀ k,f (k+1)<=f k){B:Nat}(hB:B<=8191)(hz:f 0<2^B)(k:Nat):(gV (mu f k).2).length<=256/\(gV (f (k+1)/(2*(k+1)+1))).length<=256:=⟨lG (bQ (Kd hf k).1 hz) ae,lG (bQ (aX (bw _ _) (Gt hf (k+1))) hz) ae⟩
theorem Pk{f:Nat->Nat}(hf:∀ k,f (k+1)<=f k){B:Nat}(hB:B<=8191)(hz:f 0<2^B)(k:Nat):(gV ((mu f k).2+f (k+1)/(2*(k+1)+1))).length<=256:=by
 have h1:=(Kd hf k).1;have h2:=aX (bw (f (k+1)) (2*(k+1)+1)) (Gt hf (k+1));refine lG (k:=B+1) ?_ ae;rw[aZ];omega
def rW(n b:Nat):Nat->Nat
 | 0=>1*2^b/n
 |k+1=>rW n b k/(n*n)
theorem TY{n b:Nat}(hn:2<=n)(k:Nat):rW n b (k+1)*2<=rW n b k:=by
 show rW n b k/(n*n)*2<=_;have h1:rW n b k/(n*n)<=rW n b k/2:=gv (by have:=cK hn hn;omega) ag;omega
theorem MD(n b:Nat):rW n b 0<2^(b+1):=by
 show 1*2^b/n<_;rw[bI,aZ];have:=bw (2^b) n;have:0<2^b:=aY ag;omega
theorem afz{n b:Nat}(hn:2<=n):∃ N,N<=b+1/\(∀ k,k<N->rW n b (k+1)≠0)/\rW n b (N+1)=0:=by
 obtain⟨N,h1,h2,h3⟩:=aed (MD n b) (TY hn);rcases N with _|N
 .refine ⟨0,ae,fun k hk=>absurd hk (bj _),?_⟩
  have:=TY (b:=b) hn 0;omega
 .exact ⟨N,ae,fun k hk=>h2 (k+1) ae,h3⟩
theorem ahC{T x y f g:Nat}(hT:65536<=T)(hf:f=T/5)(wB:x<=f)(q8:f<=x+f/(5*5)/3)(hy:y<=T/239)(hg:g=(jM (false,x*2^4) (true,y*2^2)).2):2<=g/\g<=T*4/\g/2<=T*2:=by
 have h16:(2:Nat)^4=16:=rfl;have h4:(2:Nat)^2=4:=rfl;have e:g=x*16-y*4:=by
  rw[hg,h16,h4];unfold jM;rw[aQ (show ¬false=true from Bool.false_ne_true),aQ (by show ¬x*16<y*4;omega)]
 omega
open Go.RowKit Fp Pu
def Ph(f:Nat->Nat)(g:FuncId)(cap:List E)(N:Nat)(x:Nat):PS:=⟨30,true,[(6,.e (iP (((x+1):Nat):Int))),(5,.box 5 0),(4,.box 4 0),(2,.box 2 0),(1,.e (.fn g cap))],[(5,.cells 209 [(bP ((mu f x).1)),(gX (gV ((mu f x).2)))]),(4,.cells 209 [(bP false),(.v (.slice none 0 0))]),(2,.cells 209 [(bP false),(gX (gV (f x)))])]⟩
theorem aah(f:Nat->Nat)(g:FuncId)(cap:List E)(N:Nat)(hp:∀ k,k<=N->gU g ((.agg [(bP false),(gX (gV (f k)))])::cap) (.agg [(bP false),(gX (gV (f (k+1))))]))(hf:∀ k,f (k+1)<=f k)(B:Nat)(hB:B<=8191)(hz:f 0<2^B)(h0:∀ k,k<N->f (k+1)≠0)(hN:f (N+1)=0)(sc:N<=100000):gU 346 [(.agg [(bP false),(gX (gV (f 0)))]),(.fn g cap)] (.agg [(bP ((mu f N).1)),(gX (gV ((mu f N).2)))]):=by
 have z00:=Cd hf hB hz 0;exact tr true Tryz.call346 Tryz.func346 (chain [.s (Sp.jx (Ph f g cap N) 0 N ae (fun x hx ke=>by
    have z1:=Cd hf hB hz (x+1);have z0:=Cd hf hB hz x;have zs:=(Gu hf hB hz x).1;have zt:=(Gu hf hB hz x).2;have zu:=Pk hf hB hz x;exact iB (chain [.c (hp x ae:gU g ((.agg [(bP false),(gX (gV (f x)))])::cap) _),.c (Cy (false,(f (x+1))) af:gU 336 [(.agg [(bP false),(gX (gV (f (x+1))))])] _),tF 15 ((f (x+1))=0) (h0 x ae),
     iq (2*(((x+1):Nat):Int)) ae,iq ((((2*(x+1)):Nat):Int)+1) ae,.c (Ee (false,(f (x+1))) af ((2*(x+1))+1) ae ae:gU 342 [(.agg [(bP false),(gX (gV (f (x+1))))]),(iP ((((2*(x+1))+1):Nat):Int))] _),.a (ae:0<(2:Int))]<|.w ((x+1)%2=1)
     (fun ho=>chain [tB 24 (by rw[ho];rfl:(((((x+1)%2):Nat):Int)==1)=true),.c (vS (false,((f (x+1))/((2*(x+1))+1))):gU 326 [(.agg [(bP false),(gX (gV ((f (x+1))/((2*(x+1))+1))))])] _),.c (sK (mu f x) af ((!false),((f (x+1))/((2*(x+1))+1))) af af:gU 335 [(.agg [(bP ((mu f x).1)),(gX (gV ((mu f x).2)))]),(.agg [(bP (!false)),(gX (gV ((f (x+1))/((2*(x+1))+1))))])] _),
      iq ((((x+1):Nat):Int)+1) ae]<|.e (chain [.b 5 (.iU (by first|rfl|simp[mu,ho]):Bx.le (.cells 209 [(bP ((jM (mu f x) ((!false),((f (x+1))/((2*(x+1))+1)))).1)),(gX (gV ((jM (mu f x) ((!false),((f (x+1))/((2*(x+1))+1)))).2)))]) (.cells 209 [(bP ((mu f (x+1)).1)),(gX (gV ((mu f (x+1)).2)))]))]<|.nil))
     (fun ho=>chain [tB 24 (av:(((((x+1)%2):Nat):Int)==1)=false),.c (sK (mu f x) af (false,((f (x+1))/((2*(x+1))+1))) af af:gU 335 [(.agg [(bP ((mu f x).1)),(gX (gV ((mu f x).2)))]),(.agg [(bP false),(gX (gV ((f (x+1))/((2*(x+1))+1))))])] _),
      iq ((((x+1):Nat):Int)+1) ae]<|.e (chain [.b 5 (.iU (by first|rfl|simp[mu,ho]):Bx.le (.cells 209 [(bP ((jM (mu f x) (false,((f (x+1))/((2*(x+1))+1)))).1)),(gX (gV ((jM (mu f x) (false,((f (x+1))/((2*(x+1))+1)))).2)))]) (.cells 209 [(bP ((mu f (x+1)).1)),(gX (gV ((mu f (x+1)).2)))]))]<|.nil))) ah)
  (fun hx=>by
    have z1:=Cd hf hB hz (N+1);have z0:=Cd hf hB hz N;have zs:=(Gu hf hB hz N).1;have zt:=(Gu hf hB hz N).2;have zu:=Pk hf hB hz N;exact iB (chain [.c (hp N ae:gU g ((.agg [(bP false),(gX (gV (f N)))])::cap) _),.c (Cy (false,(f (N+1))) af:gU 336 [(.agg [(bP false),(gX (gV (f (N+1))))])] _),tB 15 (aS hN)]<|.nil) ah) ak:ju 4 Tryz.f346 (Ph f g cap N 0) .ret ⟨30,true,[(4,.box 4 0)],[(4,.cells 209 [(bP ((mu f N).1)),(gX (gV ((mu f N).2)))])]⟩) (chain [.o 6 (.int aw:PV.le (.e (iP 1)) (.e (iP (((0+1):Nat):Int)))),.b 5 (.iU (by first|rfl|simp[mu,ho]):Bx.le (.cells 209 [(bP false),(gX (gV (f 0)))]) (.cells 209 [(bP ((mu f 0).1)),(gX (gV ((mu f 0).2)))]))]<|.nil)]<|.nil) ah 
theorem aar(m n:Nat)(hm:(gV m).length<=256)(pM:n≠0)(hn:n<60000):gU 347 [(.agg [(bP false),(gX (gV m))]),(.kv 1 fun j_=>[(iP n)].getD j_ .any)] (.agg [(bP false),(gX (gV (m/(n*n))))]):=by
 have hnn:n*n<3600000000:=am7 hn hn;have hnz:n*n≠0:=dr pM pM;exact tr true Tryz.call347 Tryz.func347 (chain [iq ((n:Int)*(n:Int)) ae,.c (Ee (false,m) af (n*n) ae ae:gU 342 [(.agg [(bP false),(gX (gV m))]),(iP (((n*n):Nat):Int))] _)]<|.nil) ah 
theorem aas(n b:Nat)(S:Bool×Nat)(pM:n≠0)(hn:n<60000)(hb:b<=8000)(hS:gU 346 [(.agg [(bP false),(gX (gV (1*2^b/n)))]),.fn 347 [(.kv 1 fun j_=>[(iP n)].getD j_ .any)]] (.agg [(bP S.1),(gX (gV S.2))])):gU 343 [(iP n),(iP b)] (.agg [(bP S.1),(gX (gV S.2))]):=by
 have z0:(gV 1).length<=256:=sR ag;have z1:(gV (1*2^b)).length<=256:=lG (k:=b+1) (by rw[aZ,bI];have:0<2^b:=aY ag;omega) ae;exact tr true Tryz.call343 Tryz.func343 (chain [.o 6 (.e rY:PV.le (.e (.sl false 1 1 fun i_ j_=>[(.v (.int .u32 1))].getD (i_*1+j_) (.v (.bool false)))) (.e (gX (gV 1)))),.c (zD 1 b af ae af),.c (Ee (false,(1*2^b)) af n ae ae:gU 342 [(.agg [(bP false),(gX (gV (1*2^b)))]),(iP n)] _),.c (hS:gU 346 [(.agg [(bP false),(gX (gV ((1*2^b)/n)))]),(.fn 347 [(.kv 1 fun j_=>[(iP n)].getD j_ .any)])] _)]<|.nil) ah 
theorem P9(n b:Nat)(pM:2<=n)(hn:n<60000)(hb:b<=8000):∃ S:Bool×Nat,S.2<=2^b/n/\2^b/n<=S.2+2^b/n/(n*n)/3/\gU 343 [iP (n:Int),iP (b:Int)] (.agg [(bP S.1),(gX (gV S.2))]):=by
 obtain⟨N,h1,h2,h3⟩:=afz (b:=b) pM;have hf:∀ k,rW n b (k+1)<=rW n b k:=fun k=>bw _ _
 obtain⟨r1,r2⟩:=Kd hf N;have e0:rW n b 0=2^b/n:=by show 1*2^b/n=_;rw[bI]
 have e1:rW n b 1=2^b/n/(n*n):=by show rW n b 0/(n*n)=_;rw[e0]
 refine⟨mu (rW n b) N,by rw[<-e0];exact r1,by rw[<-e1,<-e0];exact r2,?_⟩;exact aas n b _ ae hn hb (aah (rW n b) 347 _ N (fun k _=>aar (rW n b k) n (Cd hf (show b+1<=8191 by omega) (MD n b) k) ae hn) hf (b+1) ae (MD n b) h2 h3 ae)
theorem aay(b:Nat)(x y:Bool×Nat)(zx:x.2<2^b)(zy:y.2<2^b)(hb:b<=8000)(hx:gU 343 [iP ((5:Nat):Int),iP (b:Int)] (.agg [(bP x.1),(gX (gV x.2))]))(hy:gU 343 [iP ((239:Nat):Int),iP (b:Int)] (.agg [(bP y.1),(gX (gV y.2))])):gU 328 [(iP b)] (.agg [(bP ((jM (false,x.2*2^4) (true,y.2*2^2)).1)),(gX (gV ((jM (false,x.2*2^4) (true,y.2*2^2)).2)))]):=by
 have z1:(gV x.2).length<=256:=lG zx ae;have z2:(gV y.2).length<=256:=lG zy ae;have e5:2^(b+5)=2^b*32:=by rw[aV]
 have z3:(gV (x.2*2^4)).length<=256:=lG (k:=b+5) ae ae;have z4:(gV (y.2*2^2)).length<=256:=lG (k:=b+5) ae ae;have z5:(gV (x.2*2^4+y.2*2^2)).length<=256:=lG (k:=b+5) ae ae;exact tr true Tryz.call328 Tryz.func328 (chain [.c (hx:gU 343 [(iP 5),(iP b)] _),.c (hy:gU 343 [(iP 239),(iP b)] _),.c (zD x.2 4 af ae af),.c (zD y.2 2 af ae af),.c (sK (false,(x.2*2^4)) af (true,(y.2*2^2)) af af:gU 335 [(.agg [(bP false),(gX (gV (x.2*2^4)))]),(.agg [(bP true),(gX (gV (y.2*2^2)))])] _)]<|.nil) ah 
theorem Qa(b:Nat)(jc:16<=b)(hb:b<=8000):∃ c:Bool×Nat,2<=c.2/\c.2<=2^b*4/\c.2/2<=2^b*2/\gU 328 [iP (b:Int)] (.agg [(bP c.1),(gX (gV c.2))]):=by
 obtain⟨x,x1,x2,hx⟩:=P9 5 b ag ag hb;obtain⟨y,y1,y2,hy⟩:=P9 239 b ag ag hb;have hT:65536<=2^b:=by have:=bh (show 0<2 by decide) jc;omega
 obtain⟨g1,g2,g3⟩:=ahC hT rfl x1 x2 y1 rfl;exact⟨_,g1,g2,g3,aay b x y ae ae hb hx hy⟩
open Go.RowKit Fp Pu
theorem Ya(n:Nat)(h:n<4294967296):bits .and .u32 (n:Int) 3=((n%4:Nat):Int):=by
 have:=bits_and_u32_nat n 3 h ag;rw[show((3:Int))=((3:Nat):Int)from rfl,this];exact congrArg _ (amG n 2)
theorem ae7(k:Nat)(h:k<=3):bits .and .i64 (4-(k:Int)) 3=(((4-k)%4:Nat):Int):=by
 rcases(show k=0\/k=1\/k=2\/k=3 by omega)with rfl|rfl|rfl|rfl<;>decide
theorem acZ{x:Bool×Nat}{m:Nat}(h:m<=x.2):jM x (!x.1,m)=(x.1,x.2-m):=by
 unfold jM;rw[aQ (by show ¬x.1 = !x.1;cases x.1<;>decide),aQ (by show ¬x.2<m;omega)]
theorem aiX(n:Nat):n%4<=3:= ae 
theorem aiW(n:Nat):(4-n)%4<=3:= ae 
theorem aiY{x:Bool×Nat}{H b t:Nat}(h0:1<=H)(hH:H<=2^(b+t+40)*2):(jM x (!x.1,x.2/H*H)).2/2^(t+40)<=2^(b+1):=by
 rw[acZ (cN _ _)];show(x.2-x.2/H*H)/_<=_;have h1:x.2-x.2/H*H=x.2%H:=by
  have:=bT x.2 H;rw[a7 H]at this;omega
 have h2:=bg x.2 (show 0<H by omega);rw[h1];refine Nat.div_le_of_le_mul (aX (cW h2) (aX hH (fI ?_)));rw[<-aV,show t+40+(b+1)=b+t+40+1 by omega];exact(aZ 2 (b+t+40)).symm
def lh(x:Bool×Nat):Nat->Bool
 | 0=>false
 |k+1=>(lh x k != x.1)
def jR(x:Bool×Nat)(b:Nat):Nat->(Bool×Nat)×(Bool×Nat)
 | 0=>((false,0),(false,1*2^b))
 |k+1=>if(k+1)%2=1 then(jM (jR x b k).1 ((if 2<=(k+1)%4 then !(lh x (k+1))else lh x (k+1)),jZ x.2 b (k+1)),(jR x b k).2)
  else((jR x b k).1,jM (jR x b k).2 ((if 2<=(k+1)%4 then !(lh x (k+1))else lh x (k+1)),jZ x.2 b (k+1)))
theorem Xb{x:Bool×Nat}{b:Nat}(h:x.2<=2^(b+1)):∀ k,(jR x b k).1.2<=(k+1)*2^(b+1)/\(jR x b k).2.2<=(k+1)*2^(b+1)
 | 0=>⟨bL _,by show 1*2^b<=_;have:=aZ (n:=2) (m:=b);omega⟩
 |k+1=>by
  obtain⟨h1,h2⟩:=Xb h k;have h3:=Eg h (k+1);have h4:(k+1+1)*2^(b+1)=(k+1)*2^(b+1)+2^(b+1):=gr _ _;unfold jR;split
  .refine ⟨aX (wW _ _) ?_,by rw[h4];exact aX h2 (Nat.le_add_right _ _)⟩
   rw[h4];exact Nat.add_le_add h1 h3
  .refine ⟨by rw[h4];exact aX h1 (Nat.le_add_right _ _),aX (wW _ _) ?_⟩
   rw[h4];exact Nat.add_le_add h2 h3
theorem Xc{x:Bool×Nat}{b:Nat}(h:x.2<=2^(b+1))(hb:b<=3000){k:Nat}(hk:k<=b+5):(jR x b k).1.2<2^(b+14)/\(jR x b k).2.2<2^(b+14):=by
 obtain⟨h1,h2⟩:=Xb h k;have h3:(k+1)*2^(b+1)<2^(b+14):=by
  rw[show b+14=13+(b+1)by omega,aV 2 13];exact cC ae (aY ag)
 exact⟨bQ h1 h3,bQ h2 h3⟩
theorem adb{T:TypeId}:Bx.le (.cells T [bP false,.v (.slice none 0 0)]) (.cells T [bP false,gX (gV 0)]):=
 .cells (fun _=>rfl) (.cons (.refl _) (.cons Am .nil))
structure YN(x:Bool×Nat)(b k:Nat):Prop where
 t0:(gV (jZ x.2 b k)).length<=256
 t1:(gV (jZ x.2 b (k+1))).length<=256
 tm:(gV (jZ x.2 b k*x.2)).length<=256
 tq:(gV (jZ x.2 b k*x.2/2^b)).length<=256
 s0:(gV (jR x b k).1.2).length<=256
 c0:(gV (jR x b k).2.2).length<=256
 s1:(gV ((jR x b k).1.2+jZ x.2 b (k+1))).length<=256
 c1:(gV ((jR x b k).2.2+jZ x.2 b (k+1))).length<=256
theorem Xa{x:Bool×Nat}{b:Nat}(h:x.2<=2^(b+1))(hb:b<=3000){k:Nat}(hk:k<=b+5):YN x b k:=by
 have hp:(2:Nat)^(b+2)=2^(b+1)*2:=aZ _ _;have hq:(0:Nat)<2^(b+1):=aY ag;have t0:=Eg h k;have t1:=Eg h (k+1);obtain⟨s,c⟩:=Xc h hb hk;have hm:jZ x.2 b k*x.2<2^(b+2+(b+2)):=by
  rw[aV];exact am7 ae ae 
 have e14:(2:Nat)^(b+15)=2^(b+14)*2:=aZ _ _;have e13:(2:Nat)^(b+1)<=2^(b+14):=bh ag ae;exact⟨lG (k:=b+2) ae ae,lG (k:=b+2) ae ae,lG hm ae,lG (bQ (bw _ _) hm) ae,
  lG s ae,lG c ae,lG (k:=b+15) ae ae,lG (k:=b+15) ae ae⟩
theorem UM{s:Bool}{m b:Nat}(h:m<2^4000)(hb:b<=8000):mQ (canon s m (-(b:Int))):=by
 by_cases h0:m=0
 .subst h0;exact .inl rfl
 .have e:canon s m (-(b:Int))=⟨s,m/2^jO m,-(b:Int)+jO m⟩:=by unfold canon;rw[aQ h0]
  have h1:ib m<=4000:=kO.2 h;have h2:=sZ (bw m (2^jO m));have h3:jO m<=4000:=by
   have:=Di h0;apply bE;intro hc;have:=bh (show 0<2 by decide) (show 4000<=jO m by omega);omega
  rw[e];exact .inr ⟨by show ib (m/2^jO m)<=4096;omega,by show -16384 <= -(b:Int)+jO m;omega,by show -(b:Int)+jO m<=16384;omega,by show(ib (m/2^jO m):Int)+(-(b:Int)+jO m)<=16384;omega⟩
theorem Jd{a b i j n:Nat}(ha:a<2^i)(hb:b<2^j)(hi:i<=n)(hj:j<=n):a+b<2^(n+1):=by
 have h1:=bh (show 0<2 by decide) hi;have h2:=bh (show 0<2 by decide) hj;have e:2^(n+1)=2^n*2:=aZ _ _;omega
theorem ac0{a b:Bool×Nat}{i j n:Nat}(ha:a.2<2^i)(hb:b.2<2^j)(hi:i<=n)(hj:j<=n):(jM a b).2<2^(n+1):=bQ (wW _ _) (Jd ha hb hi hj)
theorem UN{s:Bool}{m:Nat}{e:Int}(h:mQ (canon s m e)):(canon s m e).ia:=⟨qP _ _ _,h⟩
theorem Fy{m i k:Nat}(h:m<2^i)(hk:i<=k):m<2^k:=bD h (bh ag hk)
def pj(a c:Bool×Nat):Bool×Nat:=if a.1=true/\a.2%c.2≠0 then jM (a.1,a.2/c.2) (true,1)else(a.1,a.2/c.2)
theorem RJ(a c:Bool×Nat):(pj a c).2<=a.2/c.2+1:=by
 unfold pj;split
 .exact wW _ _
 .exact Nat.le_succ _
theorem ac7(a c:Bool×Nat):(pj a c).2*c.2<=a.2+c.2:=by
 refine aX (bC c.2 (RJ a c)) ?_;rw[gr];exact Nat.add_le_add_right (cN _ _) _
theorem UC{lo hi:Dy}{e f:Int}(h:e≠0\/f≠0):kE lo e hi f=ie:=aR h
theorem ags{lo hi:Dy}{e f:Int}(h:e=0)(k:f=0):kE lo e hi f=⟨lo,hi,false⟩:=aQ (by rw[h,k];decide)
open Go.RowKit Fp Pu
def W5(x:Bool×Nat)(b N:Nat)(i:Nat):PS:=⟨43,true,[(8,.e (iP (((i+1):Nat):Int))),(7,.box 7 0),(5,.box 5 0),(4,.box 4 0),(2,.box 2 0),(1,.e (iP b))],[(5,.cells 209 [(bP (((jR x b i).2).1)),(gX (gV (((jR x b i).2).2)))]),(7,.cells 209 [(bP (lh x i)),(gX (gV (jZ x.2 b i)))]),(4,.cells 209 [(bP (((jR x b i).1).1)),(gX (gV (((jR x b i).1).2)))]),(2,.cells 209 [(bP x.1),(gX (gV x.2))])]⟩
theorem IP(n i:Nat):(gV n).getD i 0<4294967296:=by
 by_cases h:i<(gV n).length
 .rw [aW,bd h]
  exact kA n _ (cw h)
 .rw [aW,bV ae];decide
theorem aaM(d:Dy)(b t m:Nat)(cp:Bool×Nat)(hd:d.ia)(ht:t=d.iu.toNat)(jc:16<=b)(me:b<=2000)(rT:t<=2000)(K:Nat)(hK:K<=6000)(zx:m<2^K)(zc:2<=cp.2)(zd:(gV cp.2).length<=256)(q6:gU 328 [iP ((((b+t)+40):Nat):Int)] (.agg [(bP cp.1),(gX (gV cp.2))]))(tR:gU 334 [gY d,iP ((((b+t)+40):Nat):Int)] (.agg [(bP true),(gX (gV m))]))(hn:0<(gV (m/(cp.2/2^1))).length):gU 324 [(gY d),(iP b)] (.iw [(.agg [(bP ((jM (true,m) (false,((m/(cp.2/2^1))*(cp.2/2^1)))).1)),(gX (gV ((jM (true,m) (false,((m/(cp.2/2^1))*(cp.2/2^1)))).2/2^(t+40))))]),(iP ((((4-((gV (m/(cp.2/2^1))).getD 0 0%4))%4):Nat):Int))]):=by
 have EJ:=FZ hd;have zX:(gV m).length<=256:=lG zx ae;have zH:(gV (cp.2/2^1)).length<=256:=aX (lX (bw _ _)) zd;have nH:(cp.2/2^1)≠0:= ae ;have mM:((m/(cp.2/2^1))*(cp.2/2^1))<=m:=cN _ _;have zN:(gV (m/(cp.2/2^1))).length<=256:=aX (lX (bw _ _)) zX;have zM:(gV ((m/(cp.2/2^1))*(cp.2/2^1))).length<=256:=aX (lX mM) zX;have zA:(gV (m+((m/(cp.2/2^1))*(cp.2/2^1)))).length<=256:=lG (k:=K+1) (by have:=aZ 2 K;omega) ae;have zR:(gV (jM (true,m) (false,((m/(cp.2/2^1))*(cp.2/2^1)))).2).length<=256:=aX (lX (wW _ _)) zA;have zm:(gV (m%(cp.2/2^1))).length<=256:=aX (lX (dk _ _)) zX;have hg:(gV (m/(cp.2/2^1))).getD 0 0<4294967296:=IP _ 0;have h4:(gV (m/(cp.2/2^1))).getD 0 0%4<=3:= ae ;exact tr true Tryz.call324 Tryz.func324 (chain [.c (oD _ af:gU 130 [(gY d)] _),.o 19 (.int au:PV.le (.e (iP (if 0>(Dy.iu d)then 0 else(Dy.iu d)))) (.e (iP t))),iq ((b:Int)+(t:Int)) ae,
  iq ((((b+t):Nat):Int)+40) ae,.c (q6:gU 328 [(iP ((((b+t)+40):Nat):Int))] _),.c (vN cp.2 1 af ae),.c (tR:gU 334 [(gY d),(iP ((((b+t)+40):Nat):Int))] _),.c (yN _ _ ae ae af:gU 296 [(gX (gV m)),(gX (gV (cp.2/2^1)))] _),.c (yO _ _ af af af:gU 181 [(gX (gV (m/(cp.2/2^1)))),(gX (gV (cp.2/2^1)))] _),.c (sK (true,m) af (false,((m/(cp.2/2^1))*(cp.2/2^1))) af af:gU 335 [(.agg [(bP true),(gX (gV m))]),(.agg [(bP false),(gX (gV ((m/(cp.2/2^1))*(cp.2/2^1))))])] _),tT 61 (0<((gV (m/(cp.2/2^1))).length:Int)) ae,iX (0) ((gV (m/(cp.2/2^1))).length) ae,.o 65 (.int (Ya _ ae):PV.le (.e (.v (.int .u32 (bits .and .u32 ((((gV (m/(cp.2/2^1))).getD 0 0):Nat):Int) 3)))) (.e (.v (.int .u32 (((((gV (m/(cp.2/2^1))).getD 0 0)%4):Nat):Int))))),.o 66 (.int (Ms _ ae):PV.le (.e (iP (IntKind.i64.wrap (((((gV (m/(cp.2/2^1))).getD 0 0)%4):Nat):Int)))) (.e (iP (((((gV (m/(cp.2/2^1))).getD 0 0)%4):Nat):Int)))),
  iq (4-(((((gV (m/(cp.2/2^1))).getD 0 0)%4):Nat):Int)) ae,.o 71 (.int (ae7 _ ae):PV.le (.e (iP (bits .and .i64 (4-(((((gV (m/(cp.2/2^1))).getD 0 0)%4):Nat):Int)) 3))) (.e (iP ((((4-((gV (m/(cp.2/2^1))).getD 0 0%4))%4):Nat):Int)))),
  iq ((t:Int)+40) ae,.c (vN ((jM (true,m) (false,((m/(cp.2/2^1))*(cp.2/2^1)))).2) (t+40) af ae)]<|.nil) ah 
theorem aaK(d:Dy)(b t m:Nat)(cp:Bool×Nat)(hd:d.ia)(ht:t=d.iu.toNat)(jc:16<=b)(me:b<=2000)(rT:t<=2000)(K:Nat)(hK:K<=6000)(zx:m<2^K)(zc:2<=cp.2)(zd:(gV cp.2).length<=256)(q6:gU 328 [iP ((((b+t)+40):Nat):Int)] (.agg [(bP cp.1),(gX (gV cp.2))]))(tR:gU 334 [gY d,iP ((((b+t)+40):Nat):Int)] (.agg [(bP true),(gX (gV m))]))(hn:¬0<(gV (m/(cp.2/2^1))).length):gU 324 [(gY d),(iP b)] (.iw [(.agg [(bP ((jM (true,m) (false,((m/(cp.2/2^1))*(cp.2/2^1)))).1)),(gX (gV ((jM (true,m) (false,((m/(cp.2/2^1))*(cp.2/2^1)))).2/2^(t+40))))]),(iP 0)]):=by
 have EJ:=FZ hd;have zX:(gV m).length<=256:=lG zx ae;have zH:(gV (cp.2/2^1)).length<=256:=aX (lX (bw _ _)) zd;have nH:(cp.2/2^1)≠0:= ae ;have mM:((m/(cp.2/2^1))*(cp.2/2^1))<=m:=cN _ _;have zN:(gV (m/(cp.2/2^1))).length<=256:=aX (lX (bw _ _)) zX;have zM:(gV ((m/(cp.2/2^1))*(cp.2/2^1))).length<=256:=aX (lX mM) zX;have zA:(gV (m+((m/(cp.2/2^1))*(cp.2/2^1)))).length<=256:=lG (k:=K+1) (by have:=aZ 2 K;omega) ae;have zR:(gV (jM (true,m) (false,((m/(cp.2/2^1))*(cp.2/2^1)))).2).length<=256:=aX (lX (wW _ _)) zA;have zm:(gV (m%(cp.2/2^1))).length<=256:=aX (lX (dk _ _)) zX;have hg:(gV (m/(cp.2/2^1))).getD 0 0<4294967296:=IP _ 0;have h4:(gV (m/(cp.2/2^1))).getD 0 0%4<=3:= ae ;exact tr true Tryz.call324 Tryz.func324 (chain [.c (oD _ af:gU 130 [(gY d)] _),.o 19 (.int au:PV.le (.e (iP (if 0>(Dy.iu d)then 0 else(Dy.iu d)))) (.e (iP t))),iq ((b:Int)+(t:Int)) ae,
  iq ((((b+t):Nat):Int)+40) ae,.c (q6:gU 328 [(iP ((((b+t)+40):Nat):Int))] _),.c (vN cp.2 1 af ae),.c (tR:gU 334 [(gY d),(iP ((((b+t)+40):Nat):Int))] _),.c (yN _ _ ae ae af:gU 296 [(gX (gV m)),(gX (gV (cp.2/2^1)))] _),.c (yO _ _ af af af:gU 181 [(gX (gV (m/(cp.2/2^1)))),(gX (gV (cp.2/2^1)))] _),.c (sK (true,m) af (false,((m/(cp.2/2^1))*(cp.2/2^1))) af af:gU 335 [(.agg [(bP true),(gX (gV m))]),(.agg [(bP false),(gX (gV ((m/(cp.2/2^1))*(cp.2/2^1))))])] _),tF 61 (0<((gV (m/(cp.2/2^1))).length:Int)) ae,iq (4-0) ae,.o 71 (.int ag:PV.le (.e (iP (bits .and .i64 (4-0) 3))) (.e (iP 0))),iq ((t:Int)+40) ae,.c (vN ((jM (true,m) (false,((m/(cp.2/2^1))*(cp.2/2^1)))).2) (t+40) af ae)]<|.nil) ah 
theorem aaN(d:Dy)(b t m:Nat)(cp:Bool×Nat)(hd:d.ia)(ht:t=d.iu.toNat)(jc:16<=b)(me:b<=2000)(rT:t<=2000)(K:Nat)(hK:K<=6000)(zx:m<2^K)(zc:2<=cp.2)(zd:(gV cp.2).length<=256)(q6:gU 328 [iP ((((b+t)+40):Nat):Int)] (.agg [(bP cp.1),(gX (gV cp.2))]))(tR:gU 334 [gY d,iP ((((b+t)+40):Nat):Int)] (.agg [(bP false),(gX (gV m))]))(hn:0<(gV (m/(cp.2/2^1))).length):gU 324 [(gY d),(iP b)] (.iw [(.agg [(bP ((jM (false,m) (true,((m/(cp.2/2^1))*(cp.2/2^1)))).1)),(gX (gV ((jM (false,m) (true,((m/(cp.2/2^1))*(cp.2/2^1)))).2/2^(t+40))))]),(iP ((((gV (m/(cp.2/2^1))).getD 0 0%4):Nat):Int))]):=by
 have EJ:=FZ hd;have zX:(gV m).length<=256:=lG zx ae;have zH:(gV (cp.2/2^1)).length<=256:=aX (lX (bw _ _)) zd;have nH:(cp.2/2^1)≠0:= ae ;have mM:((m/(cp.2/2^1))*(cp.2/2^1))<=m:=cN _ _;have zN:(gV (m/(cp.2/2^1))).length<=256:=aX (lX (bw _ _)) zX;have zM:(gV ((m/(cp.2/2^1))*(cp.2/2^1))).length<=256:=aX (lX mM) zX;have zA:(gV (m+((m/(cp.2/2^1))*(cp.2/2^1)))).length<=256:=lG (k:=K+1) (by have:=aZ 2 K;omega) ae;have zR:(gV (jM (false,m) (true,((m/(cp.2/2^1))*(cp.2/2^1)))).2).length<=256:=aX (lX (wW _ _)) zA;have zm:(gV (m%(cp.2/2^1))).length<=256:=aX (lX (dk _ _)) zX;have hg:(gV (m/(cp.2/2^1))).getD 0 0<4294967296:=IP _ 0;have h4:(gV (m/(cp.2/2^1))).getD 0 0%4<=3:= ae ;exact tr true Tryz.call324 Tryz.func324 (chain [.c (oD _ af:gU 130 [(gY d)] _),.o 19 (.int au:PV.le (.e (iP (if 0>(Dy.iu d)then 0 else(Dy.iu d)))) (.e (iP t))),iq ((b:Int)+(t:Int)) ae,
  iq ((((b+t):Nat):Int)+40) ae,.c (q6:gU 328 [(iP ((((b+t)+40):Nat):Int))] _),.c (vN cp.2 1 af ae),.c (tR:gU 334 [(gY d),(iP ((((b+t)+40):Nat):Int))] _),.c (yN _ _ ae ae af:gU 296 [(gX (gV m)),(gX (gV (cp.2/2^1)))] _),.c (yO _ _ af af af:gU 181 [(gX (gV (m/(cp.2/2^1)))),(gX (gV (cp.2/2^1)))] _),.c (sK (false,m) af (true,((m/(cp.2/2^1))*(cp.2/2^1))) af af:gU 335 [(.agg [(bP false),(gX (gV m))]),(.agg [(bP true),(gX (gV ((m/(cp.2/2^1))*(cp.2/2^1))))])] _),tT 61 (0<((gV (m/(cp.2/2^1))).length:Int)) ae,iX (0) ((gV (m/(cp.2/2^1))).length) ae,.o 65 (.int (Ya _ ae):PV.le (.e (.v (.int .u32 (bits .and .u32 ((((gV (m/(cp.2/2^1))).getD 0 0):Nat):Int) 3)))) (.e (.v (.int .u32 (((((gV (m/(cp.2/2^1))).getD 0 0)%4):Nat):Int))))),.o 66 (.int (Ms _ ae):PV.le (.e (iP (IntKind.i64.wrap (((((gV (m/(cp.2/2^1))).getD 0 0)%4):Nat):Int)))) (.e (iP (((((gV (m/(cp.2/2^1))).getD 0 0)%4):Nat):Int)))),
  iq ((t:Int)+40) ae,.c (vN ((jM (false,m) (true,((m/(cp.2/2^1))*(cp.2/2^1)))).2) (t+40) af ae)]<|.nil) ah 
theorem aaL(d:Dy)(b t m:Nat)(cp:Bool×Nat)(hd:d.ia)(ht:t=d.iu.toNat)(jc:16<=b)(me:b<=2000)(rT:t<=2000)(K:Nat)(hK:K<=6000)(zx:m<2^K)(zc:2<=cp.2)(zd:(gV cp.2).length<=256)(q6:gU 328 [iP ((((b+t)+40):Nat):Int)] (.agg [(bP cp.1),(gX (gV cp.2))]))(tR:gU 334 [gY d,iP ((((b+t)+40):Nat):Int)] (.agg [(bP false),(gX (gV m))]))(hn:¬0<(gV (m/(cp.2/2^1))).length):gU 324 [(gY d),(iP b)] (.iw [(.agg [(bP ((jM (false,m) (true,((m/(cp.2/2^1))*(cp.2/2^1)))).1)),(gX (gV ((jM (false,m) (true,((m/(cp.2/2^1))*(cp.2/2^1)))).2/2^(t+40))))]),(iP 0)]):=by
 have EJ:=FZ hd;have zX:(gV m).length<=256:=lG zx ae;have zH:(gV (cp.2/2^1)).length<=256:=aX (lX (bw _ _)) zd;have nH:(cp.2/2^1)≠0:= ae ;have mM:((m/(cp.2/2^1))*(cp.2/2^1))<=m:=cN _ _;have zN:(gV (m/(cp.2/2^1))).length<=256:=aX (lX (bw _ _)) zX;have zM:(gV ((m/(cp.2/2^1))*(cp.2/2^1))).length<=256:=aX (lX mM) zX;have zA:(gV (m+((m/(cp.2/2^1))*(cp.2/2^1)))).length<=256:=lG (k:=K+1) (by have:=aZ 2 K;omega) ae;have zR:(gV (jM (false,m) (true,((m/(cp.2/2^1))*(cp.2/2^1)))).2).length<=256:=aX (lX (wW _ _)) zA;have zm:(gV (m%(cp.2/2^1))).length<=256:=aX (lX (dk _ _)) zX;have hg:(gV (m/(cp.2/2^1))).getD 0 0<4294967296:=IP _ 0;have h4:(gV (m/(cp.2/2^1))).getD 0 0%4<=3:= ae ;exact tr true Tryz.call324 Tryz.func324 (chain [.c (oD _ af:gU 130 [(gY d)] _),.o 19 (.int au:PV.le (.e (iP (if 0>(Dy.iu d)then 0 else(Dy.iu d)))) (.e (iP t))),iq ((b:Int)+(t:Int)) ae,
  iq ((((b+t):Nat):Int)+40) ae,.c (q6:gU 328 [(iP ((((b+t)+40):Nat):Int))] _),.c (vN cp.2 1 af ae),.c (tR:gU 334 [(gY d),(iP ((((b+t)+40):Nat):Int))] _),.c (yN _ _ ae ae af:gU 296 [(gX (gV m)),(gX (gV (cp.2/2^1)))] _),.c (yO _ _ af af af:gU 181 [(gX (gV (m/(cp.2/2^1)))),(gX (gV (cp.2/2^1)))] _),.c (sK (false,m) af (true,((m/(cp.2/2^1))*(cp.2/2^1))) af af:gU 335 [(.agg [(bP false),(gX (gV m))]),(.agg [(bP true),(gX (gV ((m/(cp.2/2^1))*(cp.2/2^1))))])] _),tF 61 (0<((gV (m/(cp.2/2^1))).length:Int)) ae,iq ((t:Int)+40) ae,.c (vN ((jM (false,m) (true,((m/(cp.2/2^1))*(cp.2/2^1)))).2) (t+40) af ae)]<|.nil) ah 
theorem aaJ(d:Dy)(b:Nat)(hd:d.ia)(jc:16<=b)(me:b<=1000)(ht:d.iu<=100):∃ (r:Bool×Nat) (k:Nat),r.2<=2^(b+1)/\k<=3/\gU 324 [gY d,iP (b:Int)] (.iw [(.agg [(bP r.1),(gX (gV r.2))]),iP (k:Int)]):=by
 obtain⟨t,rT⟩:∃ t,t=d.iu.toNat:=⟨_,rfl⟩
 obtain⟨cp,c1,c2,c3,q6⟩:=Qa (b+t+40) ae ae;have tR:=Kt d hd (b+t+40) 6000 ae ag ae;have iD:=I5 (d:=d) (b:=b+t+40) (K:=6000) ae;generalize qV d (b+t+40)=x at tR iD;have hp:(2:Nat)^(b+t+40+3)=2^(b+t+40)*8:=by rw[aV]
 have zd:(gV cp.2).length<=256:=lG (k:=b+t+40+3) (by have:0<2^(b+t+40):=aY ag;omega) ae;obtain⟨sg,m⟩:=x;have hle:=aiY (x:=(sg,m)) (H:=cp.2/2^1) (b:=b) (t:=t) ae c3;by_cases hn:0<(gV (m/(cp.2/2^1))).length
 .cases sg with
  |false=>exact⟨((jM (false,m) (true,m/(cp.2/2^1)*(cp.2/2^1))).1,(jM (false,m) (true,m/(cp.2/2^1)*(cp.2/2^1))).2/2^(t+40)),_,hle,aiX _,aaN d b t m cp hd rT jc ae ae 6000 ag iD c1 zd q6 tR hn⟩
  |true=>exact⟨((jM (true,m) (false,m/(cp.2/2^1)*(cp.2/2^1))).1,(jM (true,m) (false,m/(cp.2/2^1)*(cp.2/2^1))).2/2^(t+40)),_,hle,aiW _,aaM d b t m cp hd rT jc ae ae 6000 ag iD c1 zd q6 tR hn⟩
 .cases sg with
  |false=>exact⟨((jM (false,m) (true,m/(cp.2/2^1)*(cp.2/2^1))).1,(jM (false,m) (true,m/(cp.2/2^1)*(cp.2/2^1))).2/2^(t+40)),_,hle,bL 3,aaL d b t m cp hd rT jc ae ae 6000 ag iD c1 zd q6 tR hn⟩
  |true=>exact⟨((jM (true,m) (false,m/(cp.2/2^1)*(cp.2/2^1))).1,(jM (true,m) (false,m/(cp.2/2^1)*(cp.2/2^1))).2/2^(t+40)),_,hle,bL 3,aaK d b t m cp hd rT jc ae ae 6000 ag iD c1 zd q6 tR hn⟩
theorem aaP(x:Bool×Nat)(b N:Nat)(q8:x.2<=2^(b+1))(hb:b<=3000)(sc:N<=b+4)(h0:∀ k,k<N+1->jZ x.2 b k≠0)(hN:jZ x.2 b (N+1)=0):gU 325 [(.agg [(bP x.1),(gX (gV x.2))]),(iP b)] (.iw [(.agg [(bP (((jR x b N).1).1)),(gX (gV (((jR x b N).1).2)))]),(.agg [(bP (((jR x b N).2).1)),(gX (gV (((jR x b N).2).2)))])]):=by
 have zx:(gV x.2).length<=256:=lG (k:=b+2) (by have e:2^(b+2)=2^(b+1)*2:=aZ _ _;have:0<2^(b+1):=aY ag;omega) ae;have z0:(gV 1).length<=256:=sR ag;have z1:(gV (1*2^b)).length<=256:=lG (k:=b+1) (by rw[aZ,bI];have:0<2^b:=aY ag;omega) ae;exact tr true Tryz.call325 Tryz.func325 (chain [.o 10 (.e rY:PV.le (.e (.sl false 1 1 fun i_ j_=>[(.v (.int .u32 1))].getD (i_*1+j_) (.v (.bool false)))) (.e (gX (gV 1)))),.c (zD 1 b af ae af),.s (Sp.jx (W5 x b N) 0 N ae (fun i hi pL=>by
    have SF:=Xa q8 hb (k:=i) ae;obtain⟨f0,f1,f2,f3,f4,f5,f6,f7⟩:=SF;exact iB (chain [.c (Lc ((lh x i),(jZ x.2 b i)) af x af _ ae af:gU 332 [(.agg [(bP (lh x i)),(gX (gV (jZ x.2 b i)))]),(.agg [(bP x.1),(gX (gV x.2))]),(iP b)] _),.c (Ee (((lh x i) != x.1),((jZ x.2 b i)*x.2/2^b)) af (i+1) ae ae:gU 342 [(.agg [(bP ((lh x i) != x.1)),(gX (gV ((jZ x.2 b i)*x.2/2^b)))]),(iP (((i+1):Nat):Int))] _),.c (Cy ((lh x (i+1)),(jZ x.2 b (i+1))) af:gU 336 [(.agg [(bP (lh x (i+1))),(gX (gV (jZ x.2 b (i+1))))])] _),tF 25 ((jZ x.2 b (i+1))=0) (h0 (i+1) ae),.a (ae:0<(4:Int))]<|.w (2<=(i+1)%4)
     (fun h4=>chain [tT 31 (2<=((((i+1)%4):Nat):Int)) ae,.c (vS ((lh x (i+1)),(jZ x.2 b (i+1))):gU 326 [(.agg [(bP (lh x (i+1))),(gX (gV (jZ x.2 b (i+1))))])] _),.a (ae:0<(2:Int))]<|.w ((i+1)%2=1)
      (fun ho=>chain [tB 36 (by rw[ho];rfl:(((((i+1)%2):Nat):Int)==1)=true),.c (sK ((jR x b i).1) af ((!(lh x (i+1))),(jZ x.2 b (i+1))) af af:gU 335 [(.agg [(bP (((jR x b i).1).1)),(gX (gV (((jR x b i).1).2)))]),(.agg [(bP (!(lh x (i+1)))),(gX (gV (jZ x.2 b (i+1))))])] _),
       iq ((((i+1):Nat):Int)+1) ae]<|.e (chain [.b 5 (.iU (by first|rfl|simp[jR,lh,jZ,ho,h4]|simp[jR,lh,jZ]):Bx.le (.cells 209 [(bP (((jR x b i).2).1)),(gX (gV (((jR x b i).2).2)))]) (.cells 209 [(bP (((jR x b (i+1)).2).1)),(gX (gV (((jR x b (i+1)).2).2)))])),.b 4 (.iU (by first|rfl|simp[jR,lh,jZ,ho,h4]|simp[jR,lh,jZ]):Bx.le (.cells 209 [(bP ((jM ((jR x b i).1) ((!(lh x (i+1))),(jZ x.2 b (i+1)))).1)),(gX (gV ((jM ((jR x b i).1) ((!(lh x (i+1))),(jZ x.2 b (i+1)))).2)))]) (.cells 209 [(bP (((jR x b (i+1)).1).1)),(gX (gV (((jR x b (i+1)).1).2)))]))]<|.nil))
      (fun ho=>chain [tB 36 (av:(((((i+1)%2):Nat):Int)==1)=false),.c (sK ((jR x b i).2) af ((!(lh x (i+1))),(jZ x.2 b (i+1))) af af:gU 335 [(.agg [(bP (((jR x b i).2).1)),(gX (gV (((jR x b i).2).2)))]),(.agg [(bP (!(lh x (i+1)))),(gX (gV (jZ x.2 b (i+1))))])] _),
       iq ((((i+1):Nat):Int)+1) ae]<|.e (chain [.b 5 (.iU (by first|rfl|simp[jR,lh,jZ,ho,h4]|simp[jR,lh,jZ]):Bx.le (.cells 209 [(bP ((jM ((jR x b i).2) ((!(lh x (i+1))),(jZ x.2 b (i+1)))).1)),(gX (gV ((jM ((jR x b i).2) ((!(lh x (i+1))),(jZ x.2 b (i+1)))).2)))]) (.cells 209 [(bP (((jR x b (i+1)).2).1)),(gX (gV (((jR x b (i+1)).2).2)))])),.b 4 (.iU (by first|rfl|simp[jR,lh,jZ,ho,h4]|simp[jR,lh,jZ]):Bx.le (.cells 209 [(bP (((jR x b i).1).1)),(gX (gV (((jR x b i).1).2)))]) (.cells 209 [(bP (((jR x b (i+1)).1).1)),(gX (gV (((jR x b (i+1)).1).2)))]))]<|.nil)))
     (fun h4=>chain [tF 31 (2<=((((i+1)%4):Nat):Int)) ae,.a (ae:0<(2:Int))]<|.w ((i+1)%2=1)
      (fun ho=>chain [tB 36 (by rw[ho];rfl:(((((i+1)%2):Nat):Int)==1)=true),.c (sK ((jR x b i).1) af ((lh x (i+1)),(jZ x.2 b (i+1))) af af:gU 335 [(.agg [(bP (((jR x b i).1).1)),(gX (gV (((jR x b i).1).2)))]),(.agg [(bP (lh x (i+1))),(gX (gV (jZ x.2 b (i+1))))])] _),
       iq ((((i+1):Nat):Int)+1) ae]<|.e (chain [.b 5 (.iU (by first|rfl|simp[jR,lh,jZ,ho,h4]|simp[jR,lh,jZ]):Bx.le (.cells 209 [(bP (((jR x b i).2).1)),(gX (gV (((jR x b i).2).2)))]) (.cells 209 [(bP (((jR x b (i+1)).2).1)),(gX (gV (((jR x b (i+1)).2).2)))])),.b 4 (.iU (by first|rfl|simp[jR,lh,jZ,ho,h4]|simp[jR,lh,jZ]):Bx.le (.cells 209 [(bP ((jM ((jR x b i).1) ((lh x (i+1)),(jZ x.2 b (i+1)))).1)),(gX (gV ((jM ((jR x b i).1) ((lh x (i+1)),(jZ x.2 b (i+1)))).2)))]) (.cells 209 [(bP (((jR x b (i+1)).1).1)),(gX (gV (((jR x b (i+1)).1).2)))]))]<|.nil))
      (fun ho=>chain [tB 36 (av:(((((i+1)%2):Nat):Int)==1)=false),.c (sK ((jR x b i).2) af ((lh x (i+1)),(jZ x.2 b (i+1))) af af:gU 335 [(.agg [(bP (((jR x b i).2).1)),(gX (gV (((jR x b i).2).2)))]),(.agg [(bP (lh x (i+1))),(gX (gV (jZ x.2 b (i+1))))])] _),
       iq ((((i+1):Nat):Int)+1) ae]<|.e (chain [.b 5 (.iU (by first|rfl|simp[jR,lh,jZ,ho,h4]|simp[jR,lh,jZ]):Bx.le (.cells 209 [(bP ((jM ((jR x b i).2) ((lh x (i+1)),(jZ x.2 b (i+1)))).1)),(gX (gV ((jM ((jR x b i).2) ((lh x (i+1)),(jZ x.2 b (i+1)))).2)))]) (.cells 209 [(bP (((jR x b (i+1)).2).1)),(gX (gV (((jR x b (i+1)).2).2)))])),.b 4 (.iU (by first|rfl|simp[jR,lh,jZ,ho,h4]|simp[jR,lh,jZ]):Bx.le (.cells 209 [(bP (((jR x b i).1).1)),(gX (gV (((jR x b i).1).2)))]) (.cells 209 [(bP (((jR x b (i+1)).1).1)),(gX (gV (((jR x b (i+1)).1).2)))]))]<|.nil)))) ah)
  (fun hi=>by
    have SF:=Xa q8 hb (k:=N) ae;obtain⟨f0,f1,f2,f3,f4,f5,f6,f7⟩:=SF;exact iB (chain [.c (Lc ((lh x N),(jZ x.2 b N)) af x af _ ae af:gU 332 [(.agg [(bP (lh x N)),(gX (gV (jZ x.2 b N)))]),(.agg [(bP x.1),(gX (gV x.2))]),(iP b)] _),.c (Ee (((lh x N) != x.1),((jZ x.2 b N)*x.2/2^b)) af (N+1) ae ae:gU 342 [(.agg [(bP ((lh x N) != x.1)),(gX (gV ((jZ x.2 b N)*x.2/2^b)))]),(iP (((N+1):Nat):Int))] _),.c (Cy ((lh x (N+1)),(jZ x.2 b (N+1))) af:gU 336 [(.agg [(bP (lh x (N+1))),(gX (gV (jZ x.2 b (N+1))))])] _),tB 25 (aS hN)]<|.nil) ah) ak:ju 6 Tryz.f325 (W5 x b N 0) .ret ⟨43,true,[(5,.box 5 0),(4,.box 4 0)],[(5,.cells 209 [(bP (((jR x b N).2).1)),(gX (gV (((jR x b N).2).2)))]),(4,.cells 209 [(bP (((jR x b N).1).1)),(gX (gV (((jR x b N).1).2)))])]⟩) (chain [.o 8 (.int aw:PV.le (.e (iP 1)) (.e (iP (((0+1):Nat):Int)))),.b 5 (.iU (by first|rfl|simp[jR,lh,jZ,ho,h4]|simp[jR,lh,jZ]):Bx.le (.cells 209 [(bP false),(gX (gV (1*2^b)))]) (.cells 209 [(bP (((jR x b 0).2).1)),(gX (gV (((jR x b 0).2).2)))])),.b 7 (.iU (by first|rfl|simp[jR,lh,jZ,ho,h4]|simp[jR,lh,jZ]):Bx.le (.cells 209 [(bP false),(gX (gV (1*2^b)))]) (.cells 209 [(bP (lh x 0)),(gX (gV (jZ x.2 b 0)))])),.b 4 (adb:Bx.le (.cells 209 [(bP false),(.v (.slice none 0 0))]) (.cells 209 [(bP (((jR x b 0).1).1)),(gX (gV (((jR x b 0).1).2)))]))]<|.nil)]<|.nil) ah 
theorem aaQ(x:Bool×Nat)(b:Nat)(q8:x.2<=2^(b+1))(hb:b<=3000):∃ s c:Bool×Nat,s.2<2^(b+14)/\c.2<2^(b+14)/\gU 325 [(.agg [(bP x.1),(gX (gV x.2))]),iP (b:Int)] (.iw [(.agg [(bP s.1),(gX (gV s.2))]),(.agg [(bP c.1),(gX (gV c.2))])]):=by
 obtain⟨N,n1,n2,n3,n4⟩:=adf q8;obtain⟨M,rfl⟩:∃ M,N=M+1:=⟨N-1,ae⟩
 obtain⟨a1,a2⟩:=Xc q8 hb (k:=M) ae;exact⟨_,_,a1,a2,aaP x b M q8 hb ae n3 n4⟩
open Go.RowKit Fp Pu
theorem zE(a:Bool×Nat)(b p:Nat)(ha:a.2<2^3000)(hb:b<=8000)(il:8<=p)(ic:p<=512):gU 327 [(.agg [(bP a.1),(gX (gV a.2))]),(iP b),(iP p)] (gZ (ss a b p)):=by
 have z1:(gV 1).length<=256:=sR ag;have z2:(gV (1*2^24)).length<=256:=sR ag;have z3:(gV a.2).length<=256:=lG ha ag;have hs:=Jd (n:=3000) ha (show 1*2^24<2^25 by decide) ag ag;have z4:(gV (a.2+1*2^24)).length<=256:=lG hs ag;have l1:=bQ (show(jM a ((!false),(1*2^24))).2<=_ from wW _ _) hs;have l2:=bQ (show(jM a (false,(1*2^24))).2<=_ from wW _ _) hs;have z5:(gV (jM a ((!false),(1*2^24))).2).length<=256:=lG l1 ag;have z6:(gV (jM a (false,(1*2^24))).2).length<=256:=lG l2 ag;have e3:(0-(b:Int)) = -(b:Int):=Int.zero_sub _;have r1:mQ (canon (jM a ((!false),(1*2^24))).1 (jM a ((!false),(1*2^24))).2 (0-(b:Int))):=by rw[e3];exact UM (Fy (k:=4000) l1 ag) hb
 have r2:mQ (canon (jM a (false,(1*2^24))).1 (jM a (false,(1*2^24))).2 (0-(b:Int))):=by rw[e3];exact UM (Fy (k:=4000) l2 ag) hb
 have v1:(canon (jM a ((!false),(1*2^24))).1 (jM a ((!false),(1*2^24))).2 (0-(b:Int))).ia:=UN r1;have v2:(canon (jM a (false,(1*2^24))).1 (jM a (false,(1*2^24))).2 (0-(b:Int))).ia:=UN r2;have hN:ss a b p=kE (jj (canon (jM a ((!false),(1*2^24))).1 (jM a ((!false),(1*2^24))).2 (0-(b:Int))) p false) (jz (canon (jM a ((!false),(1*2^24))).1 (jM a ((!false),(1*2^24))).2 (0-(b:Int))) p false) (jj (canon (jM a (false,(1*2^24))).1 (jM a (false,(1*2^24))).2 (0-(b:Int))) p true) (jz (canon (jM a (false,(1*2^24))).1 (jM a (false,(1*2^24))).2 (0-(b:Int))) p true):=by rw[e3];rfl
 exact tr true Tryz.call327 Tryz.func327 (chain [.o 14 (.e rY:PV.le (.e (.sl false 1 1 fun i_ j_=>[(.v (.int .u32 1))].getD (i_*1+j_) (.v (.bool false)))) (.e (gX (gV 1)))),.c (zD 1 24 af ae af),.c (vS (false,(1*2^24)):gU 326 [(.agg [(bP false),(gX (gV (1*2^24)))])] _),.c (sK a af ((!false),(1*2^24)) af af:gU 335 [(.agg [(bP a.1),(gX (gV a.2))]),(.agg [(bP (!false)),(gX (gV (1*2^24)))])] _),.c (sK a af (false,(1*2^24)) af af:gU 335 [(.agg [(bP a.1),(gX (gV a.2))]),(.agg [(bP false),(gX (gV (1*2^24)))])] _),iq (0-(b:Int)) ae,.c (A4 _ _ _ af ae ae af:gU 262 [(bP ((jM a ((!false),(1*2^24))).1)),(gX (gV ((jM a ((!false),(1*2^24))).2))),(iP (0-(b:Int)))] _),
  iq (0-(b:Int)) ae,.c (A4 _ _ _ af ae ae af:gU 262 [(bP ((jM a (false,(1*2^24))).1)),(gX (gV ((jM a (false,(1*2^24))).2))),(iP (0-(b:Int)))] _),tB 45 (ag:((0:Int) != 0)=false),tB 48 (ag:((0:Int) != 0)=false),.c (Gx (canon ((jM a (!false,(1*2^24))).1) ((jM a (!false,(1*2^24))).2) (0-(b:Int))) p af ae ae),.c (Gy (canon ((jM a (false,(1*2^24))).1) ((jM a (false,(1*2^24))).2) (0-(b:Int))) p af ae ae)]<|.w ((jz (canon ((jM a ((!false),(1*2^24))).1) ((jM a ((!false),(1*2^24))).2) (0-(b:Int))) p false)=0)
  (fun k1=>chain [tB 64 (aO k1)]<|.w ((jz (canon ((jM a (false,(1*2^24))).1) ((jM a (false,(1*2^24))).2) (0-(b:Int))) p true)=0)
   (fun k2=>chain [tB 67 (aO k2)]<|rQ (gZ (Iv.mk (jj (canon ((jM a ((!false),(1*2^24))).1) ((jM a ((!false),(1*2^24))).2) (0-(b:Int))) p false) (jj (canon ((jM a (false,(1*2^24))).1) ((jM a (false,(1*2^24))).2) (0-(b:Int))) p true) false)) (gZ (ss a b p)) (by rw[hN,ags k1 k2]))
   (fun k2=>chain [tB 67 (aP k2),.c nu]<|rQ (gZ ie) (gZ (ss a b p)) (by rw[hN,UC (.inr k2)])))
  (fun k1=>chain [tB 64 (aP k1),.c nu]<|rQ (gZ ie) (gZ (ss a b p)) (by rw[hN,UC (.inl k1)]))) ah 
theorem aaH(d:Dy)(p:Nat)(hd:d.ia)(h0:d.iJ=0)(il:8<=p)(ic:p<=512):gU 315 [(gY d),(bP true),(iP p)] (gZ (jE 1)):=by
 have hv:=si (n:=1) ag;exact tr true Tryz.call315 Tryz.func315 (chain [.c (nU _ af:gU 35 [(gY d)] _),tB 14 (by rw[h0];rfl:((Dy.iJ d)==0)=true),.c (qO _ ae:gU 113 [(iP 1)] _),.c (C4 (je 1) af)]<|.nil) ah 
theorem aaz(d:Dy)(p:Nat)(r s c:Bool×Nat)(hd:d.ia)(h0:d.iJ≠0)(pG:gU 324 [gY d,iP (((p+64):Nat):Int)] (.iw [(.agg [(bP r.1),(gX (gV r.2))]),(iP 0)]))(pH:gU 325 [(.agg [(bP r.1),(gX (gV r.2))]),iP (((p+64):Nat):Int)] (.iw [(.agg [(bP s.1),(gX (gV s.2))]),(.agg [(bP c.1),(gX (gV c.2))])]))(zs:s.2<2^3000)(zc:c.2<2^3000)(il:8<=p)(ic:p<=512):gU 315 [(gY d),(bP true),(iP p)] (gZ (ss c (p+64) p)):=by
 have zk:c.2<2^3000:=zc;exact tr true Tryz.call315 Tryz.func315 (chain [.c (nU _ af:gU 35 [(gY d)] _),tB 14 (by simpa using h0:((Dy.iJ d)==0)=false),iq ((p:Int)+64) ae,.c (pG:gU 324 [(gY d),(iP (((p+64):Nat):Int))] _),.c (pH:gU 325 [(.agg [(bP r.1),(gX (gV r.2))]),(iP (((p+64):Nat):Int))] _),iq (0+1) ae,.a (ae:0<(4:Int)),.o 38 (.int ag:PV.le (.e (iP (Int.tmod (0+1) 4))) (.e (iP 1))),tB 40 (ag:((1:Int)==1)=true),.c (zE c _ _ af ae ae ae:gU 327 [(.agg [(bP c.1),(gX (gV c.2))]),(iP (((p+64):Nat):Int)),(iP p)] _)]<|.nil) ah 
theorem aaA(d:Dy)(p:Nat)(r s c:Bool×Nat)(hd:d.ia)(h0:d.iJ≠0)(pG:gU 324 [gY d,iP (((p+64):Nat):Int)] (.iw [(.agg [(bP r.1),(gX (gV r.2))]),(iP 1)]))(pH:gU 325 [(.agg [(bP r.1),(gX (gV r.2))]),iP (((p+64):Nat):Int)] (.iw [(.agg [(bP s.1),(gX (gV s.2))]),(.agg [(bP c.1),(gX (gV c.2))])]))(zs:s.2<2^3000)(zc:c.2<2^3000)(il:8<=p)(ic:p<=512):gU 315 [(gY d),(bP true),(iP p)] (gZ (ss ((!s.1),s.2) (p+64) p)):=by
 have zk:((!s.1),s.2).2<2^3000:=zs;exact tr true Tryz.call315 Tryz.func315 (chain [.c (nU _ af:gU 35 [(gY d)] _),tB 14 (by simpa using h0:((Dy.iJ d)==0)=false),iq ((p:Int)+64) ae,.c (pG:gU 324 [(gY d),(iP (((p+64):Nat):Int))] _),.c (pH:gU 325 [(.agg [(bP r.1),(gX (gV r.2))]),(iP (((p+64):Nat):Int))] _),iq (1+1) ae,.a (ae:0<(4:Int)),.o 38 (.int ag:PV.le (.e (iP (Int.tmod (1+1) 4))) (.e (iP 2))),tB 40 (ag:((2:Int)==1)=false),tB 43 (ag:((2:Int)==2)=true),.c (vS (s.1,s.2):gU 326 [(.agg [(bP s.1),(gX (gV s.2))])] _),.c (zE ((!s.1),s.2) _ _ af ae ae ae:gU 327 [(.agg [(bP (!s.1)),(gX (gV s.2))]),(iP (((p+64):Nat):Int)),(iP p)] _)]<|.nil) ah 
theorem aaB(d:Dy)(p:Nat)(r s c:Bool×Nat)(hd:d.ia)(h0:d.iJ≠0)(pG:gU 324 [gY d,iP (((p+64):Nat):Int)] (.iw [(.agg [(bP r.1),(gX (gV r.2))]),(iP 2)]))(pH:gU 325 [(.agg [(bP r.1),(gX (gV r.2))]),iP (((p+64):Nat):Int)] (.iw [(.agg [(bP s.1),(gX (gV s.2))]),(.agg [(bP c.1),(gX (gV c.2))])]))(zs:s.2<2^3000)(zc:c.2<2^3000)(il:8<=p)(ic:p<=512):gU 315 [(gY d),(bP true),(iP p)] (gZ (ss ((!c.1),c.2) (p+64) p)):=by
 have zk:((!c.1),c.2).2<2^3000:=zc;exact tr true Tryz.call315 Tryz.func315 (chain [.c (nU _ af:gU 35 [(gY d)] _),tB 14 (by simpa using h0:((Dy.iJ d)==0)=false),iq ((p:Int)+64) ae,.c (pG:gU 324 [(gY d),(iP (((p+64):Nat):Int))] _),.c (pH:gU 325 [(.agg [(bP r.1),(gX (gV r.2))]),(iP (((p+64):Nat):Int))] _),iq (2+1) ae,.a (ae:0<(4:Int)),.o 38 (.int ag:PV.le (.e (iP (Int.tmod (2+1) 4))) (.e (iP 3))),tB 40 (ag:((3:Int)==1)=false),tB 43 (ag:((3:Int)==2)=false),tB 47 (ag:((3:Int)==3)=true),.c (vS (c.1,c.2):gU 326 [(.agg [(bP c.1),(gX (gV c.2))])] _),.c (zE ((!c.1),c.2) _ _ af ae ae ae:gU 327 [(.agg [(bP (!c.1)),(gX (gV c.2))]),(iP (((p+64):Nat):Int)),(iP p)] _)]<|.nil) ah 
theorem aaC(d:Dy)(p:Nat)(r s c:Bool×Nat)(hd:d.ia)(h0:d.iJ≠0)(pG:gU 324 [gY d,iP (((p+64):Nat):Int)] (.iw [(.agg [(bP r.1),(gX (gV r.2))]),(iP 3)]))(pH:gU 325 [(.agg [(bP r.1),(gX (gV r.2))]),iP (((p+64):Nat):Int)] (.iw [(.agg [(bP s.1),(gX (gV s.2))]),(.agg [(bP c.1),(gX (gV c.2))])]))(zs:s.2<2^3000)(zc:c.2<2^3000)(il:8<=p)(ic:p<=512):gU 315 [(gY d),(bP true),(iP p)] (gZ (ss s (p+64) p)):=by
 have zk:s.2<2^3000:=zs;exact tr true Tryz.call315 Tryz.func315 (chain [.c (nU _ af:gU 35 [(gY d)] _),tB 14 (by simpa using h0:((Dy.iJ d)==0)=false),iq ((p:Int)+64) ae,.c (pG:gU 324 [(gY d),(iP (((p+64):Nat):Int))] _),.c (pH:gU 325 [(.agg [(bP r.1),(gX (gV r.2))]),(iP (((p+64):Nat):Int))] _),iq (3+1) ae,.a (ae:0<(4:Int)),.o 38 (.int ag:PV.le (.e (iP (Int.tmod (3+1) 4))) (.e (iP 0))),tB 40 (ag:((0:Int)==1)=false),tB 43 (ag:((0:Int)==2)=false),tB 47 (ag:((0:Int)==3)=false),.c (zE s _ _ af ae ae ae:gU 327 [(.agg [(bP s.1),(gX (gV s.2))]),(iP (((p+64):Nat):Int)),(iP p)] _)]<|.nil) ah 
theorem aaI(d:Dy)(p:Nat)(hd:d.ia)(h0:d.iJ=0)(il:8<=p)(ic:p<=512):gU 315 [(gY d),(bP false),(iP p)] (gZ (mf d)):=by
 exact tr true Tryz.call315 Tryz.func315 (chain [.c (nU _ af:gU 35 [(gY d)] _),tB 14 (by rw[h0];rfl:((Dy.iJ d)==0)=true),.c (C4 d af)]<|.nil) ah 
theorem aaD(d:Dy)(p:Nat)(r s c:Bool×Nat)(hd:d.ia)(h0:d.iJ≠0)(pG:gU 324 [gY d,iP (((p+64):Nat):Int)] (.iw [(.agg [(bP r.1),(gX (gV r.2))]),(iP 0)]))(pH:gU 325 [(.agg [(bP r.1),(gX (gV r.2))]),iP (((p+64):Nat):Int)] (.iw [(.agg [(bP s.1),(gX (gV s.2))]),(.agg [(bP c.1),(gX (gV c.2))])]))(zs:s.2<2^3000)(zc:c.2<2^3000)(il:8<=p)(ic:p<=512):gU 315 [(gY d),(bP false),(iP p)] (gZ (ss s (p+64) p)):=by
 have zk:s.2<2^3000:=zs;exact tr true Tryz.call315 Tryz.func315 (chain [.c (nU _ af:gU 35 [(gY d)] _),tB 14 (by simpa using h0:((Dy.iJ d)==0)=false),iq ((p:Int)+64) ae,.c (pG:gU 324 [(gY d),(iP (((p+64):Nat):Int))] _),.c (pH:gU 325 [(.agg [(bP r.1),(gX (gV r.2))]),(iP (((p+64):Nat):Int))] _),.a (ae:0<(4:Int)),.o 38 (.int ag:PV.le (.e (iP (Int.tmod 0 4))) (.e (iP 0))),tB 40 (ag:((0:Int)==1)=false),tB 43 (ag:((0:Int)==2)=false),tB 47 (ag:((0:Int)==3)=false),.c (zE s _ _ af ae ae ae:gU 327 [(.agg [(bP s.1),(gX (gV s.2))]),(iP (((p+64):Nat):Int)),(iP p)] _)]<|.nil) ah 
theorem aaE(d:Dy)(p:Nat)(r s c:Bool×Nat)(hd:d.ia)(h0:d.iJ≠0)(pG:gU 324 [gY d,iP (((p+64):Nat):Int)] (.iw [(.agg [(bP r.1),(gX (gV r.2))]),(iP 1)]))(pH:gU 325 [(.agg [(bP r.1),(gX (gV r.2))]),iP (((p+64):Nat):Int)] (.iw [(.agg [(bP s.1),(gX (gV s.2))]),(.agg [(bP c.1),(gX (gV c.2))])]))(zs:s.2<2^3000)(zc:c.2<2^3000)(il:8<=p)(ic:p<=512):gU 315 [(gY d),(bP false),(iP p)] (gZ (ss c (p+64) p)):=by
 have zk:c.2<2^3000:=zc;exact tr true Tryz.call315 Tryz.func315 (chain [.c (nU _ af:gU 35 [(gY d)] _),tB 14 (by simpa using h0:((Dy.iJ d)==0)=false),iq ((p:Int)+64) ae,.c (pG:gU 324 [(gY d),(iP (((p+64):Nat):Int))] _),.c (pH:gU 325 [(.agg [(bP r.1),(gX (gV r.2))]),(iP (((p+64):Nat):Int))] _),.a (ae:0<(4:Int)),.o 38 (.int ag:PV.le (.e (iP (Int.tmod 1 4))) (.e (iP 1))),tB 40 (ag:((1:Int)==1)=true),.c (zE c _ _ af ae ae ae:gU 327 [(.agg [(bP c.1),(gX (gV c.2))]),(iP (((p+64):Nat):Int)),(iP p)] _)]<|.nil) ah 
theorem aaF(d:Dy)(p:Nat)(r s c:Bool×Nat)(hd:d.ia)(h0:d.iJ≠0)(pG:gU 324 [gY d,iP (((p+64):Nat):Int)] (.iw [(.agg [(bP r.1),(gX (gV r.2))]),(iP 2)]))(pH:gU 325 [(.agg [(bP r.1),(gX (gV r.2))]),iP (((p+64):Nat):Int)] (.iw [(.agg [(bP s.1),(gX (gV s.2))]),(.agg [(bP c.1),(gX (gV c.2))])]))(zs:s.2<2^3000)(zc:c.2<2^3000)(il:8<=p)(ic:p<=512):gU 315 [(gY d),(bP false),(iP p)] (gZ (ss ((!s.1),s.2) (p+64) p)):=by
 have zk:((!s.1),s.2).2<2^3000:=zs;exact tr true Tryz.call315 Tryz.func315 (chain [.c (nU _ af:gU 35 [(gY d)] _),tB 14 (by simpa using h0:((Dy.iJ d)==0)=false),iq ((p:Int)+64) ae,.c (pG:gU 324 [(gY d),(iP (((p+64):Nat):Int))] _),.c (pH:gU 325 [(.agg [(bP r.1),(gX (gV r.2))]),(iP (((p+64):Nat):Int))] _),.a (ae:0<(4:Int)),.o 38 (.int ag:PV.le (.e (iP (Int.tmod 2 4))) (.e (iP 2))),tB 40 (ag:((2:Int)==1)=false),tB 43 (ag:((2:Int)==2)=true),.c (vS (s.1,s.2):gU 326 [(.agg [(bP s.1),(gX (gV s.2))])] _),.c (zE ((!s.1),s.2) _ _ af ae ae ae:gU 327 [(.agg [(bP (!s.1)),(gX (gV s.2))]),(iP (((p+64):Nat):Int)),(iP p)] _)]<|.nil) ah 
theorem aaG(d:Dy)(p:Nat)(r s c:Bool×Nat)(hd:d.ia)(h0:d.iJ≠0)(pG:gU 324 [gY d,iP (((p+64):Nat):Int)] (.iw [(.agg [(bP r.1),(gX (gV r.2))]),(iP 3)]))(pH:gU 325 [(.agg [(bP r.1),(gX (gV r.2))]),iP (((p+64):Nat):Int)] (.iw [(.agg [(bP s.1),(gX (gV s.2))]),(.agg [(bP c.1),(gX (gV c.2))])]))(zs:s.2<2^3000)(zc:c.2<2^3000)(il:8<=p)(ic:p<=512):gU 315 [(gY d),(bP false),(iP p)] (gZ (ss ((!c.1),c.2) (p+64) p)):=by
 have zk:((!c.1),c.2).2<2^3000:=zc;exact tr true Tryz.call315 Tryz.func315 (chain [.c (nU _ af:gU 35 [(gY d)] _),tB 14 (by simpa using h0:((Dy.iJ d)==0)=false),iq ((p:Int)+64) ae,.c (pG:gU 324 [(gY d),(iP (((p+64):Nat):Int))] _),.c (pH:gU 325 [(.agg [(bP r.1),(gX (gV r.2))]),(iP (((p+64):Nat):Int))] _),.a (ae:0<(4:Int)),.o 38 (.int ag:PV.le (.e (iP (Int.tmod 3 4))) (.e (iP 3))),tB 40 (ag:((3:Int)==1)=false),tB 43 (ag:((3:Int)==2)=false),tB 47 (ag:((3:Int)==3)=true),.c (vS (c.1,c.2):gU 326 [(.agg [(bP c.1),(gX (gV c.2))])] _),.c (zE ((!c.1),c.2) _ _ af ae ae ae:gU 327 [(.agg [(bP (!c.1)),(gX (gV c.2))]),(iP (((p+64):Nat):Int)),(iP p)] _)]<|.nil) ah 
theorem Qb{d:Dy}(hd:d.ia)(ht:d.iu<=100)(cs:Bool){p:Nat}(il:8<=p)(ic:p<=512):∃ Z,Z.ia/\gU 315 [gY d,bP cs,iP (p:Int)] (gZ Z):=by
 by_cases h0:d.iJ=0
 .cases cs with
  |true=>exact⟨_,vj ag,aaH d p hd h0 il ic⟩
  |false=>exact⟨_,vt hd,aaI d p hd h0 il ic⟩
 .obtain ⟨r,k,hr,hk,pG⟩:=aaJ d (p+64) hd ae ae ht
  obtain⟨s,c,zs,zc,pH⟩:=aaQ r (p+64) hr ae;have zs:=Fy zs (k:=3000) ae;have zc:=Fy zc (k:=3000) ae;have hv:∀ a:Bool×Nat,(ss a (p+64) p).ia:=fun a=>agT a _ ae ae 
  rcases(show k=0\/k=1\/k=2\/k=3 by omega)with rfl|rfl|rfl|rfl
  .cases cs with
   |true=>exact⟨_,hv _,aaz d p r s c hd h0 pG pH zs zc il ic⟩
   |false=>exact⟨_,hv _,aaD d p r s c hd h0 pG pH zs zc il ic⟩
  .cases cs with
   |true=>exact⟨_,hv _,aaA d p r s c hd h0 pG pH zs zc il ic⟩
   |false=>exact⟨_,hv _,aaE d p r s c hd h0 pG pH zs zc il ic⟩
  .cases cs with
   |true=>exact⟨_,hv _,aaB d p r s c hd h0 pG pH zs zc il ic⟩
   |false=>exact⟨_,hv _,aaF d p r s c hd h0 pG pH zs zc il ic⟩
  .cases cs with
   |true=>exact⟨_,hv _,aaC d p r s c hd h0 pG pH zs zc il ic⟩
   |false=>exact⟨_,hv _,aaG d p r s c hd h0 pG pH zs zc il ic⟩
open Go.RowKit Fp Pu
theorem aft:(je (-1)).neg=true/\(je (-1)).m=1/\(je (-1)).e=0:= ar 
theorem aaS : gU 331 [(iP (-1))] (.agg [(bP true),(gX (gV 1))]):=by
 obtain⟨q1,q2,q3⟩:=aft;have z1:(gV (je (-1)).m).length<=256:=by rw[q2];exact sR ag 
 have z2:(gV ((je (-1)).m*2^(Int.toNat (je (-1)).e))).length<=256:=by rw[q2,q3];exact sR ag 
 exact tr true Tryz.call331 Tryz.func331 (chain [.c (qO _ ae:gU 113 [(iP (-1))] _),.c (Ks _ _ af ae ae af:gU 329 [(gX (gV ((je (-1)).m))),(iP ((je (-1)).e))] _)]<|rQ (.agg [(bP ((je (-1)).neg)),(gX (gV (((je (-1)).m)*2^(Int.toNat ((je (-1)).e)))))]) (.agg [(bP true),(gX (gV 1))]) (by rw[q1,q2,q3];rfl)) ah 
theorem aaq(a c:Bool×Nat)(za:(gV a.2).length<=256)(zc:(gV c.2).length<=256)(c0:c.2≠0)(zs:(gV (a.2/c.2+1)).length<=256)(h1:a.1=false):gU 333 [(.agg [(bP a.1),(gX (gV a.2))]),(.agg [(bP c.1),(gX (gV c.2))])] (.agg [(bP ((pj a c).1)),(gX (gV ((pj a c).2)))]):=by
 have zq:(gV (a.2/c.2)).length<=256:=aX (lX (bw _ _)) za;have zr:(gV (a.2%c.2)).length<=256:=aX (lX (dk _ _)) za;have z1:(gV 1).length<=256:=sR ag;have e:pj a c=(a.1,a.2/c.2):=by unfold pj;rw[aQ (by rw[h1];exact fun q=>Bool.noConfusion q.1)]
 exact tr true Tryz.call333 Tryz.func333 (chain [.c (yN _ _ ae ae af:gU 296 [(gX (gV a.2)),(gX (gV c.2))] _),tB 19 (h1:a.1=false),tB 23 (h1:a.1=false)]<|rQ (.agg [(bP false),(gX (gV (a.2/c.2)))]) (.agg [(bP ((pj a c).1)),(gX (gV ((pj a c).2)))]) (by rw[e,h1])) ah 
theorem aan(a c:Bool×Nat)(za:(gV a.2).length<=256)(zc:(gV c.2).length<=256)(c0:c.2≠0)(zs:(gV (a.2/c.2+1)).length<=256)(h1:a.1=true)(h2:a.2%c.2=0):gU 333 [(.agg [(bP a.1),(gX (gV a.2))]),(.agg [(bP c.1),(gX (gV c.2))])] (.agg [(bP ((pj a c).1)),(gX (gV ((pj a c).2)))]):=by
 have zq:(gV (a.2/c.2)).length<=256:=aX (lX (bw _ _)) za;have zr:(gV (a.2%c.2)).length<=256:=aX (lX (dk _ _)) za;have z1:(gV 1).length<=256:=sR ag;have e:pj a c=(a.1,a.2/c.2):=by unfold pj;rw[aQ (fun q=>q.2 h2)]
 exact tr true Tryz.call333 Tryz.func333 (chain [.c (yN _ _ ae ae af:gU 296 [(gX (gV a.2)),(gX (gV c.2))] _),tB 19 (h1:a.1=true),tB 23 (h1:a.1=true),.c (sr _ ae:gU 194 [(gX (gV (a.2%c.2)))] _),tF 27 (0<(ib (a.2%c.2):Int)) (by rw[h2,qX];decide)]<|rQ (.agg [(bP true),(gX (gV (a.2/c.2)))]) (.agg [(bP ((pj a c).1)),(gX (gV ((pj a c).2)))]) (by rw[e,h1])) ah 
theorem aao(a c:Bool×Nat)(za:(gV a.2).length<=256)(zc:(gV c.2).length<=256)(c0:c.2≠0)(zs:(gV (a.2/c.2+1)).length<=256)(h1:a.1=true)(h2:a.2%c.2≠0):gU 333 [(.agg [(bP a.1),(gX (gV a.2))]),(.agg [(bP c.1),(gX (gV c.2))])] (.agg [(bP ((pj a c).1)),(gX (gV ((pj a c).2)))]):=by
 have zq:(gV (a.2/c.2)).length<=256:=aX (lX (bw _ _)) za;have zr:(gV (a.2%c.2)).length<=256:=aX (lX (dk _ _)) za;have z1:(gV 1).length<=256:=sR ag;have e:pj a c=jM (a.1,a.2/c.2) (true,1):=by unfold pj;rw[aR ⟨h1,h2⟩]
 exact tr true Tryz.call333 Tryz.func333 (chain [.c (yN _ _ ae ae af:gU 296 [(gX (gV a.2)),(gX (gV c.2))] _),tB 19 (h1:a.1=true),tB 23 (h1:a.1=true),.c (sr _ ae:gU 194 [(gX (gV (a.2%c.2)))] _),tT 27 (0<(ib (a.2%c.2):Int)) (by have:=mS h2;omega),.c aaS,.c (sK (true,(a.2/c.2)) af (true,1) af af:gU 335 [(.agg [(bP true),(gX (gV (a.2/c.2)))]),(.agg [(bP true),(gX (gV 1))])] _)]<|rQ (.agg [(bP ((jM (true,(a.2/c.2)) (true,1)).1)),(gX (gV ((jM (true,(a.2/c.2)) (true,1)).2)))]) (.agg [(bP ((pj a c).1)),(gX (gV ((pj a c).2)))]) (by rw[e,h1])) ah 
theorem aap(a c:Bool×Nat)(za:(gV a.2).length<=256)(zc:(gV c.2).length<=256)(c0:c.2≠0)(zs:(gV (a.2/c.2+1)).length<=256):gU 333 [(.agg [(bP a.1),(gX (gV a.2))]),(.agg [(bP c.1),(gX (gV c.2))])] (.agg [(bP ((pj a c).1)),(gX (gV ((pj a c).2)))]):=by
 cases h1:a.1 with
 |false=>rw[<-h1];exact aaq a c za zc c0 zs h1
 |true=>
  rw[<-h1];by_cases h2:a.2%c.2=0
  .exact aan a c za zc c0 zs h1 h2
  .exact aao a c za zc c0 zs h1 h2
theorem aav(x:Iv)(n p t w2 sg eg mm:Nat)(cp u v c1 a0 a1 k l0 d0 d1:Bool×Nat)(hx:x.ia)(xa:x.all=false)(hn:n<=3)(ic:p<=2000)(ht:(t:Int)=max (max x.lo.iu x.hi.iu) 0)(t2:t<=2000)(zd:(gV d1.2).length<=256)(q6:gU 328 [iP ((((p+t)+40):Nat):Int)] (.agg [(bP cp.1),(gX (gV cp.2))]))(hU:gU 334 [gY x.hi,iP ((((p+t)+40):Nat):Int)] (.agg [(bP u.1),(gX (gV u.2))]))(hV:gU 334 [gY x.lo,iP ((((p+t)+40):Nat):Int)] (.agg [(bP v.1),(gX (gV v.2))]))(hW:gU 329 [(gX (gV cp.2)),iP ((1:Nat):Int)] (gX (gV w2)))(CB:gU 332 [(.agg [(bP false),(gX (gV n))]),(.agg [(bP cp.1),(gX (gV cp.2))]),iP ((0:Nat):Int)] (.agg [(bP c1.1),(gX (gV c1.2))]))(hS:gU 330 [(gX (gV c1.2)),iP ((1:Nat):Int)] (gX (gV sg)))(hE:gU 329 [(gX (gV 1)),iP ((((t+24)+4):Nat):Int)] (gX (gV eg)))(tN:gU 335 [(.agg [(bP u.1),(gX (gV u.2))]),(.agg [(bP (!false)),(gX (gV sg))])] (.agg [(bP a0.1),(gX (gV a0.2))]))(zO:gU 335 [(.agg [(bP a0.1),(gX (gV a0.2))]),(.agg [(bP false),(gX (gV eg))])] (.agg [(bP a1.1),(gX (gV a1.2))]))(hK:gU 333 [(.agg [(bP a1.1),(gX (gV a1.2))]),(.agg [(bP false),(gX (gV w2))])] (.agg [(bP k.1),(gX (gV k.2))]))(hM:gU 181 [(gX (gV k.2)),(gX (gV w2))] (.iw [(gX (gV mm)),(iP 0)]))(uW:gU 335 [(.agg [(bP k.1),(gX (gV mm))]),(.agg [(bP false),(gX (gV sg))])] (.agg [(bP l0.1),(gX (gV l0.2))]))(w9:gU 335 [(.agg [(bP l0.1),(gX (gV l0.2))]),(.agg [(bP (!v.1)),(gX (gV v.2))])] (.agg [(bP d0.1),(gX (gV d0.2))]))(CC:gU 335 [(.agg [(bP d0.1),(gX (gV d0.2))]),(.agg [(bP false),(gX (gV eg))])] (.agg [(bP d1.1),(gX (gV d1.2))]))(hz:d1.2=0):gU 316 [(gZ x),(iP n),(iP p)] (bP true):=by
 obtain⟨w1,w2'⟩:=hx.ki;have z1:(gV 1).length<=256:=sR ag;exact tr true Tryz.call316 Tryz.func316 (chain [.c (oD _ af:gU 130 [(gY x.lo)] _),.c (oD _ af:gU 130 [(gY x.hi)] _),.o 24 (.int (by(repeat' split)<;>omega):PV.le (.e (iP (if 0>(if(Dy.iu x.hi)>(Dy.iu x.lo)then(Dy.iu x.hi)else(Dy.iu x.lo))then 0 else(if(Dy.iu x.hi)>(Dy.iu x.lo)then(Dy.iu x.hi)else(Dy.iu x.lo))))) (.e (iP t))),
  iq ((p:Int)+(t:Int)) ae,iq ((((p+t):Nat):Int)+40) ae,.c (q6:gU 328 [(iP ((((p+t)+40):Nat):Int))] _),.c (hW:gU 329 [(gX (gV cp.2)),(iP 1)] _),.c (Kv n ae),.c (CB:gU 332 [(.agg [(bP false),(gX (gV n))]),(.agg [(bP cp.1),(gX (gV cp.2))]),(iP 0)] _),.c (hS:gU 330 [(gX (gV c1.2)),(iP 1)] _),.o 42 (.e rY:PV.le (.e (.sl false 1 1 fun i_ j_=>[(.v (.int .u32 1))].getD (i_*1+j_) (.v (.bool false)))) (.e (gX (gV 1)))),iq ((t:Int)+24) ae,iq ((((t+24):Nat):Int)+4) ae,.c (hE:gU 329 [(gX (gV 1)),(iP ((((t+24)+4):Nat):Int))] _),.c (hU:gU 334 [(gY x.hi),(iP ((((p+t)+40):Nat):Int))] _),.c (vS (false,sg):gU 326 [(.agg [(bP false),(gX (gV sg))])] _),.c (tN:gU 335 [(.agg [(bP u.1),(gX (gV u.2))]),(.agg [(bP (!false)),(gX (gV sg))])] _),.c (zO:gU 335 [(.agg [(bP a0.1),(gX (gV a0.2))]),(.agg [(bP false),(gX (gV eg))])] _),.c (hK:gU 333 [(.agg [(bP a1.1),(gX (gV a1.2))]),(.agg [(bP false),(gX (gV w2))])] _),.c (hM:gU 181 [(gX (gV k.2)),(gX (gV w2))] _),.c (uW:gU 335 [(.agg [(bP k.1),(gX (gV mm))]),(.agg [(bP false),(gX (gV sg))])] _),.c (hV:gU 334 [(gY x.lo),(iP ((((p+t)+40):Nat):Int))] _),.c (vS (v.1,v.2):gU 326 [(.agg [(bP v.1),(gX (gV v.2))])] _),.c (w9:gU 335 [(.agg [(bP l0.1),(gX (gV l0.2))]),(.agg [(bP (!v.1)),(gX (gV v.2))])] _),.c (CC:gU 335 [(.agg [(bP d0.1),(gX (gV d0.2))]),(.agg [(bP false),(gX (gV eg))])] _),.c (Cy (d1.1,d1.2) af:gU 336 [(.agg [(bP d1.1),(gX (gV d1.2))])] _),tB 83 (aS hz)]<|.nil) ah 
theorem aau(x:Iv)(n p t w2 sg eg mm:Nat)(cp u v c1 a0 a1 k l0 d0 d1:Bool×Nat)(hx:x.ia)(xa:x.all=false)(hn:n<=3)(ic:p<=2000)(ht:(t:Int)=max (max x.lo.iu x.hi.iu) 0)(t2:t<=2000)(zd:(gV d1.2).length<=256)(q6:gU 328 [iP ((((p+t)+40):Nat):Int)] (.agg [(bP cp.1),(gX (gV cp.2))]))(hU:gU 334 [gY x.hi,iP ((((p+t)+40):Nat):Int)] (.agg [(bP u.1),(gX (gV u.2))]))(hV:gU 334 [gY x.lo,iP ((((p+t)+40):Nat):Int)] (.agg [(bP v.1),(gX (gV v.2))]))(hW:gU 329 [(gX (gV cp.2)),iP ((1:Nat):Int)] (gX (gV w2)))(CB:gU 332 [(.agg [(bP false),(gX (gV n))]),(.agg [(bP cp.1),(gX (gV cp.2))]),iP ((0:Nat):Int)] (.agg [(bP c1.1),(gX (gV c1.2))]))(hS:gU 330 [(gX (gV c1.2)),iP ((1:Nat):Int)] (gX (gV sg)))(hE:gU 329 [(gX (gV 1)),iP ((((t+24)+4):Nat):Int)] (gX (gV eg)))(tN:gU 335 [(.agg [(bP u.1),(gX (gV u.2))]),(.agg [(bP (!false)),(gX (gV sg))])] (.agg [(bP a0.1),(gX (gV a0.2))]))(zO:gU 335 [(.agg [(bP a0.1),(gX (gV a0.2))]),(.agg [(bP false),(gX (gV eg))])] (.agg [(bP a1.1),(gX (gV a1.2))]))(hK:gU 333 [(.agg [(bP a1.1),(gX (gV a1.2))]),(.agg [(bP false),(gX (gV w2))])] (.agg [(bP k.1),(gX (gV k.2))]))(hM:gU 181 [(gX (gV k.2)),(gX (gV w2))] (.iw [(gX (gV mm)),(iP 0)]))(uW:gU 335 [(.agg [(bP k.1),(gX (gV mm))]),(.agg [(bP false),(gX (gV sg))])] (.agg [(bP l0.1),(gX (gV l0.2))]))(w9:gU 335 [(.agg [(bP l0.1),(gX (gV l0.2))]),(.agg [(bP (!v.1)),(gX (gV v.2))])] (.agg [(bP d0.1),(gX (gV d0.2))]))(CC:gU 335 [(.agg [(bP d0.1),(gX (gV d0.2))]),(.agg [(bP false),(gX (gV eg))])] (.agg [(bP d1.1),(gX (gV d1.2))]))(hz:¬d1.2=0):gU 316 [(gZ x),(iP n),(iP p)] (bP (!d1.1)):=by
 obtain⟨w1,w2'⟩:=hx.ki;have z1:(gV 1).length<=256:=sR ag;exact tr true Tryz.call316 Tryz.func316 (chain [.c (oD _ af:gU 130 [(gY x.lo)] _),.c (oD _ af:gU 130 [(gY x.hi)] _),.o 24 (.int (by(repeat' split)<;>omega):PV.le (.e (iP (if 0>(if(Dy.iu x.hi)>(Dy.iu x.lo)then(Dy.iu x.hi)else(Dy.iu x.lo))then 0 else(if(Dy.iu x.hi)>(Dy.iu x.lo)then(Dy.iu x.hi)else(Dy.iu x.lo))))) (.e (iP t))),
  iq ((p:Int)+(t:Int)) ae,iq ((((p+t):Nat):Int)+40) ae,.c (q6:gU 328 [(iP ((((p+t)+40):Nat):Int))] _),.c (hW:gU 329 [(gX (gV cp.2)),(iP 1)] _),.c (Kv n ae),.c (CB:gU 332 [(.agg [(bP false),(gX (gV n))]),(.agg [(bP cp.1),(gX (gV cp.2))]),(iP 0)] _),.c (hS:gU 330 [(gX (gV c1.2)),(iP 1)] _),.o 42 (.e rY:PV.le (.e (.sl false 1 1 fun i_ j_=>[(.v (.int .u32 1))].getD (i_*1+j_) (.v (.bool false)))) (.e (gX (gV 1)))),iq ((t:Int)+24) ae,iq ((((t+24):Nat):Int)+4) ae,.c (hE:gU 329 [(gX (gV 1)),(iP ((((t+24)+4):Nat):Int))] _),.c (hU:gU 334 [(gY x.hi),(iP ((((p+t)+40):Nat):Int))] _),.c (vS (false,sg):gU 326 [(.agg [(bP false),(gX (gV sg))])] _),.c (tN:gU 335 [(.agg [(bP u.1),(gX (gV u.2))]),(.agg [(bP (!false)),(gX (gV sg))])] _),.c (zO:gU 335 [(.agg [(bP a0.1),(gX (gV a0.2))]),(.agg [(bP false),(gX (gV eg))])] _),.c (hK:gU 333 [(.agg [(bP a1.1),(gX (gV a1.2))]),(.agg [(bP false),(gX (gV w2))])] _),.c (hM:gU 181 [(gX (gV k.2)),(gX (gV w2))] _),.c (uW:gU 335 [(.agg [(bP k.1),(gX (gV mm))]),(.agg [(bP false),(gX (gV sg))])] _),.c (hV:gU 334 [(gY x.lo),(iP ((((p+t)+40):Nat):Int))] _),.c (vS (v.1,v.2):gU 326 [(.agg [(bP v.1),(gX (gV v.2))])] _),.c (w9:gU 335 [(.agg [(bP l0.1),(gX (gV l0.2))]),(.agg [(bP (!v.1)),(gX (gV v.2))])] _),.c (CC:gU 335 [(.agg [(bP d0.1),(gX (gV d0.2))]),(.agg [(bP false),(gX (gV eg))])] _),.c (Cy (d1.1,d1.2) af:gU 336 [(.agg [(bP d1.1),(gX (gV d1.2))])] _),tB 83 (aT hz)]<|.nil) ah 
theorem Ed{a b:Bool×Nat}{i j n:Nat}(ha:a.2<2^i)(hb:b.2<2^j)(hi:i<=n)(hj:j<=n)(hn:n<=8000):∃ r:Bool×Nat,r.2<2^(n+1)/\gU 335 [(.agg [(bP a.1),(gX (gV a.2))]),(.agg [(bP b.1),(gX (gV b.2))])] (.agg [(bP r.1),(gX (gV r.2))]):=
 ⟨jM a b,ac0 ha hb hi hj,sK a (lG ha ae) b (lG hb ae) (lG (Jd ha hb hi hj) ae)⟩
theorem aat{x:Iv}(hx:x.ia)(xa:x.all=false)(n:Nat)(hn:n<=3)(p:Nat)(ic:p<=1000)(h1:x.lo.iu<=100)(h2:x.hi.iu<=100):∃ r:Bool,gU 316 [gZ x,iP (n:Int),iP (p:Int)] (bP r):=by
 obtain⟨w1,w2⟩:=hx.ki;obtain⟨t,ht⟩:∃ t:Nat,(t:Int)=max (max x.lo.iu x.hi.iu) 0:=⟨(max (max x.lo.iu x.hi.iu) 0).toNat,ae⟩
 obtain⟨cp,c1,c2,c3,q6⟩:=Qa (p+t+40) ae ae;have hU:=Kt x.hi w2 (p+t+40) 6000 ae ag ae;have hV:=Kt x.lo w1 (p+t+40) 6000 ae ag ae;have yu:=I5 (d:=x.hi) (b:=p+t+40) (K:=6000) ae;have yv:=I5 (d:=x.lo) (b:=p+t+40) (K:=6000) ae;have yc:=Fy (m:=cp.2) (i:=p+t+40+3) (k:=2000) (by have e:(2:Nat)^(p+t+40+3)=2^(p+t+40)*8:=aV 2 _ 3;have:0<2^(p+t+40):=aY ag;omega) ae;generalize qV x.hi (p+t+40)=u at hU yu;generalize qV x.lo (p+t+40)=v at hV yv;obtain⟨K,hK⟩:∃ K,K=6000:=⟨_,rfl⟩
 rw[<-hK]at yu yv;obtain⟨J,hJ⟩:∃ J,J=2000:=⟨_,rfl⟩
 rw[<-hJ]at yc;have zc:(gV cp.2).length<=256:=lG yc ae;have yw:cp.2*2^1<2^(J+1):=by have e:2^(J+1)=2^J*2:=aZ _ _;omega
 have hW:=zD cp.2 1 zc ag (lG yw ae);have w0:cp.2*2^1≠0:= ae ;generalize cp.2*2^1=w at hW yw w0;have yn:n*cp.2<2^(J+2):=by have e:2^(J+2)=2^J*4:=aV 2 J 2;have:=bC cp.2 hn;omega
 have CB:=Lc (false,n) (sR (by show n<_;omega)) cp zc 0 ag (lG yn ae);have y1:n*cp.2/2^0<2^(J+2):=bQ (bw _ _) yn;obtain⟨q,hq⟩:∃ q:Bool×Nat,q=(false != cp.1,n*cp.2/2^0):=⟨_,rfl⟩
 have yq:q.2<2^(J+2):=by rw[hq];exact y1
 have R5:gU 332 [(.agg [(bP false),(gX (gV n))]),(.agg [(bP cp.1),(gX (gV cp.2))]),iP ((0:Nat):Int)] (.agg [(bP q.1),(gX (gV q.2))]):=by rw[hq];exact CB
 clear CB hq;have hS:=vN q.2 1 (lG yq ae) ag;have ys:q.2/2^1<2^(J+2):=bQ (bw _ _) yq;generalize q.2/2^1=sg at hS ys;have ye:1*2^(t+24+4)<2^K:=by rw[bI];exact eu ag ae 
 have hE:=zD 1 (t+24+4) (sR ag) ae (lG ye ae);generalize 1*2^(t+24+4)=eg at hE ye;obtain⟨a0,x0,tN⟩:=Ed (b:=(!false,sg)) yu ys (n:=K) ae ae ae;obtain⟨a1,x1,zO⟩:=Ed (b:=(false,eg)) x0 ye (n:=K+1) ae ae ae;have yf:a1.2/w+1<2^(K+3):=by
  have e:2^(K+3)=2^(K+1+1)*2:=aZ _ _;have:=bw a1.2 w;have:0<2^(K+1+1):=aY ag;omega
 have hF:=aap a1 (false,w) (lG x1 ae) (lG yw ae) w0 (lG yf ae);have yk:=bQ (RJ a1 (false,w)) yf;have ym:(pj a1 (false,w)).2*w<2^(K+3):=bQ (ac7 a1 (false,w)) (Jd (n:=K+2) x1 yw ae ae);generalize pj a1 (false,w)=k at hF yk ym;have hM:=yO k.2 w (lG yk ae) (lG yw ae) (lG ym ae);generalize k.2*w=mm at hM ym;obtain⟨l0,x2,uW⟩:=Ed (a:=(k.1,mm)) (b:=(false,sg)) ym ys (n:=K+3) ae ae ae;obtain⟨d0,x3,w9⟩:=Ed (b:=(!v.1,v.2)) x2 yv (n:=K+4) ae ae ae;obtain⟨d1,x4,CC⟩:=Ed (b:=(false,eg)) x3 ye (n:=K+5) ae ae ae;by_cases hz:d1.2=0
 .exact ⟨_,aav x n p t w sg eg mm cp u v q a0 a1 k l0 d0 d1 hx xa hn ae ht ae (lG x4 ae) q6 hU hV hW R5 hS hE tN zO hF hM uW w9 CC hz⟩
 .exact ⟨_,aau x n p t w sg eg mm cp u v q a0 a1 k l0 d0 d1 hx xa hn ae ht ae (lG x4 ae) q6 hU hV hW R5 hS hE tN zO hF hM uW w9 CC hz⟩
open Go.RowKit Fp Pu
def lv:Iv:=⟨je (-1),je 1,false⟩
theorem y6:lv.ia:=.inr ⟨rfl,show(je (-1)).ia from si ag,show(je 1).ia from si ag,ar⟩
theorem xR : gU 313 [] (gZ lv):=by
 have h1:(je (-1)).ia:=si ag;have h2:(je 1).ia:=si ag;exact tr true Tryz.call313 Tryz.func313 (chain [.c (qO _ ae:gU 113 [(iP (-1))] _),.c (qO _ ae:gU 113 [(iP 1)] _)]<|rR (gZ lv) (.iU rfl:E.le (gZ (Iv.mk (je (-1)) (je 1) false)) (gZ lv))) ah 
theorem Zk(x y:Iv)(hx:x.ia)(hy:y.ia)(xa:(x.all||y.all)=true):gU 158 [(gZ x),(gZ y)] (gZ ie):=by
 exact tr true Tryz.call158 Tryz.func158 (chain [.o 7 (.e (yF _ _):PV.le (.e (.sl true 2 7 fun i_ j_=>(iZ x++iZ y).getD (i_*7+j_) (.v (.bool false)))) (.e (ig [x,y]))),.c (yE _ _ af af:gU 86 [(ig [x,y])] _),tB 8 (by rw[xa];rfl:(!(x.all||y.all))=false),.c nu]<|.nil) ah 
theorem Zl{x y:Iv}(hx:x.ia)(hy:y.ia):∃ Z,Z.ia/\gU 158 [gZ x,gZ y] (gZ Z):=by
 cases h:(x.all||y.all)with
 |true=>exact⟨ie,mj,Zk x y hx hy h⟩
 |false=>
  obtain⟨h1,h2⟩:=Bool.or_eq_false_iff.1 h;exact⟨CX x y,ae5 hx hy,Zm x y hx hy h1 h2⟩
theorem Zu(x:Iv)(hx:x.ia)(xa:x.all=true):gU 314 [(gZ x),(gZ lv)] (.iw [gZ lv,bP true]):=by
 have hu:=y6;exact tr true Tryz.call314 Tryz.func314 (chain [.c (qS x af),.c (qS lv af),tB 19 (xa:x.all=true)]<|.nil) ah 
theorem Zw(x:Iv)(hx:x.ia)(xa:x.all=false)(h:0<jo (iR x.lo lv.lo) (iV x.hi lv.hi)):gU 314 [(gZ x),(gZ lv)] (.iw [gZ xI,bP false]):=by
 have hu:=y6;obtain⟨v1,v2⟩:=hx.ki;obtain⟨v3,v4⟩:=hu.ki;have m1:=oY v1 v3;have m2:=qg v2 v4;exact tr true Tryz.call314 Tryz.func314 (chain [.c (qS x af),.c (qS lv af),tB 19 (xa:x.all=false),tB 23 (rfl:lv.all=false),.c (IK x.lo lv.lo af af),.c (IJ x.hi lv.hi af af),.c (nT _ _ af af:gU 37 [(gY (iR x.lo lv.lo)),(gY (iV x.hi lv.hi))] _),tB 41 (aS h)]<|rR (.iw [gZ xI,bP false]) (.iw (.cons Yv (.cons (.refl _) .nil)):E.le (.iw [(.agg [(bP false),(.v (.slice none 0 0)),(iP 0),(bP false),(.v (.slice none 0 0)),(iP 0),(bP false)]),(bP false)]) (.iw [gZ xI,bP false]))) ah 
theorem Zx(x:Iv)(hx:x.ia)(xa:x.all=false)(h:¬0<jo (iR x.lo lv.lo) (iV x.hi lv.hi)):gU 314 [(gZ x),(gZ lv)] (.iw [gZ (Iv.mk (iR x.lo lv.lo) (iV x.hi lv.hi) false),bP true]):=by
 have hu:=y6;obtain⟨v1,v2⟩:=hx.ki;obtain⟨v3,v4⟩:=hu.ki;have m1:=oY v1 v3;have m2:=qg v2 v4;exact tr true Tryz.call314 Tryz.func314 (chain [.c (qS x af),.c (qS lv af),tB 19 (xa:x.all=false),tB 23 (rfl:lv.all=false),.c (IK x.lo lv.lo af af),.c (IJ x.hi lv.hi af af),.c (nT _ _ af af:gU 37 [(gY (iR x.lo lv.lo)),(gY (iV x.hi lv.hi))] _),tB 41 (aT h)]<|.nil) ah 
structure xJ(Y:Iv):Prop where
 v:Y.ia
 f:Y.all=false
 l:jo lv.lo Y.lo<=0
 h:jo Y.hi lv.hi<=0
theorem alz:xJ lv:=⟨y6,rfl,ar,ar⟩
theorem Zv{x:Iv}(hx:x.ia):(∃ Y,xJ Y/\gU 314 [gZ x,gZ lv] (.iw [gZ Y,bP true]))\/gU 314 [gZ x,gZ lv] (.iw [gZ xI,bP false]):=by
 cases xa:x.all with
 |true=>exact .inl ⟨lv,alz,Zu x hx xa⟩
 |false=>
  by_cases h:0<jo (iR x.lo lv.lo) (iV x.hi lv.hi)
  .exact .inr (Zw x hx xa h)
  .have v1:(iR x.lo lv.lo).ia:=oY hx.ki.1 y6.ki.1
   have v2:(iV x.hi lv.hi).ia:=qg hx.ki.2 y6.ki.2;have h1:jo lv.lo (iR x.lo lv.lo)<=0:=UH _ _;have h2:jo (iV x.hi lv.hi) lv.hi<=0:=UK _ _;have hq:=Zx x hx xa h;have h3:jo (iR x.lo lv.lo) (iV x.hi lv.hi)<=0:= ae ;generalize iR x.lo lv.lo=a at *
   generalize iV x.hi lv.hi=b at *
   exact .inl ⟨⟨a,b,false⟩,⟨.inr ⟨rfl,v1,v2,h3⟩,rfl,h1,h2⟩,hq⟩
theorem xJ.up{Y:Iv}(h:xJ Y):xJ ⟨Y.lo,je 1,false⟩:=by
 have e:=h.v.ki;refine⟨.inr ⟨rfl,e.1,si (n:=1) ag,?_⟩,rfl,h.l,show jo (je 1) (je 1)<=0 by decide +kernel⟩;have:=h.v.q;rw[pU];exact bG this ((pU _ _).1 h.h)
theorem xJ.dn{Y:Iv}(h:xJ Y):xJ ⟨je (-1),Y.hi,false⟩:=by
 have e:=h.v.ki;refine⟨.inr ⟨rfl,si (n:=-1) ag,e.2,?_⟩,rfl,show jo (je (-1)) (je (-1))<=0 by decide +kernel,h.h⟩;have:=h.v.q;rw[pU];exact bG ((pU _ _).1 h.l) this
theorem GI(p:Nat)(il:8<=p)(ic:p<=512):gU 312 [(iP p)] (bP true):=by
 exact tr true Tryz.call312 Tryz.func312 (chain [tT 4 (8<=(p:Int)) ae,tT 7 ((p:Int)<=512) ae]<|.nil) ah 
theorem aai(x:Iv)(cs:Bool)(p:Nat)(hx:x.ia)(xa:x.all=true)(il:8<=p)(ic:p<=512):gU 284 [(gZ x),(bP cs),(iP p)] (gZ ie):=by
 exact tr true Tryz.call284 Tryz.func284 (chain [.c (GI p ae ae),.c (qS x af),tB 22 (xa:x.all=true),.c nu]<|.nil) ah 
theorem aal(x:Iv)(cs:Bool)(p:Nat)(hx:x.ia)(xa:x.all=false)(il:8<=p)(ic:p<=512)(hu:100<x.lo.iu\/100<x.hi.iu\/¬AM x 64=0\/0<=jo (tG x 64) (je 7)):gU 284 [(gZ x),(bP cs),(iP p)] (gZ lv):=by
 obtain⟨w1,w2⟩:=hx.ki;have h7:(je 7).ia:=si ag;have wv:(tG x 64).ia:=wK _ ag ag _;exact tr true Tryz.call284 Tryz.func284 (chain [.c (GI p ae ae),.c (qS x af),tB 22 (xa:x.all=false),.c (oD _ af:gU 130 [(gY x.lo)] _)]<|.w (100<(Dy.iu x.lo))
  (fun k1=>chain [tB 28 (aS k1),.c xR]<|.nil)
  (fun k1=>chain [tB 28 (aT k1),.c (oD _ af:gU 130 [(gY x.hi)] _)]<|.w (100<(Dy.iu x.hi))
   (fun k2=>chain [tB 33 (aS k2),.c xR]<|.nil)
   (fun k2=>chain [tB 33 (aT k2),.c (Ki x 64 af af ae ae)]<|.w (AM x 64=0)
    (fun k3=>chain [tB 40 (aS k3),.c (qO _ ae:gU 113 [(iP 7)] _),.c (nT _ _ af af:gU 37 [(gY (tG x 64)),(gY (je 7))] _)]<|.w (0<=(jo (tG x 64) (je 7)))
     (fun k4=>chain [tB 47 (aS k4),.c xR]<|.nil)
     (fun k4=>.x (by rcases hu with q|q|q|q<;>contradiction)))
    (fun k3=>chain [tB 40 (aT k3),.c xR]<|.nil)))) ah 
theorem aak(x:Iv)(cs:Bool)(p:Nat)(hx:x.ia)(xa:x.all=false)(il:8<=p)(ic:p<=512)(h1:¬100<x.lo.iu)(h2:¬100<x.hi.iu)(h3:AM x 64=0)(h4:¬0<=jo (tG x 64) (je 7))(P1 P2 H:Iv)(xd:∀ c,c=cs->gU 315 [gY x.lo,bP c,iP (p:Int)] (gZ P1))(xf:∀ c,c=cs->gU 315 [gY x.hi,bP c,iP (p:Int)] (gZ P2))(hH:gU 158 [gZ P1,gZ P2] (gZ H))(uX:gU 314 [gZ H,gZ lv] (.iw [gZ xI,bP false])):gU 284 [(gZ x),(bP cs),(iP p)] (gZ lv):=by
 obtain⟨w1,w2⟩:=hx.ki;have h7:(je 7).ia:=si ag;have wv:(tG x 64).ia:=wK _ ag ag _;exact tr true Tryz.call284 Tryz.func284 (chain [.c (GI p ae ae),.c (qS x af),tB 22 (xa:x.all=false),.c (oD _ af:gU 130 [(gY x.lo)] _),tB 28 (aT h1),.c (oD _ af:gU 130 [(gY x.hi)] _),tB 33 (aT h2),.c (Ki x 64 af af ae ae),tB 40 (aS h3),.c (qO _ ae:gU 113 [(iP 7)] _),.c (nT _ _ af af:gU 37 [(gY (tG x 64)),(gY (je 7))] _),tB 47 (aT h4),.c (xd cs aj:gU 315 [(gY x.lo),(bP cs),(iP p)] _),.c (xf cs aj:gU 315 [(gY x.hi),(bP cs),(iP p)] _),.c (hH:gU 158 [(gZ P1),(gZ P2)] _),.c xR,.c (uX:gU 314 [(gZ H),(gZ lv)] _),.c xR]<|.nil) ah 
def qD(cs:Bool)(R:Nat->Bool)(x Y:Iv):Iv:=if jo x.lo x.hi=0 then Y else⟨if R (if cs=true then 2 else 3)=true then je (-1)else Y.lo,if R (if cs=true then 0 else 1)=true then je 1 else Y.hi,Y.all⟩
theorem aaj(x:Iv)(cs:Bool)(p:Nat)(hx:x.ia)(xa:x.all=false)(il:8<=p)(ic:p<=512)(h1:¬100<x.lo.iu)(h2:¬100<x.hi.iu)(h3:AM x 64=0)(h4:¬0<=jo (tG x 64) (je 7))(P1 P2 H Y:Iv)(hY:xJ Y)(xd:∀ c,c=cs->gU 315 [gY x.lo,bP c,iP (p:Int)] (gZ P1))(xf:∀ c,c=cs->gU 315 [gY x.hi,bP c,iP (p:Int)] (gZ P2))(hH:gU 158 [gZ P1,gZ P2] (gZ H))(uX:gU 314 [gZ H,gZ lv] (.iw [gZ Y,bP true]))(R:Nat->Bool)(hM:∀ s:Nat,s<=3->gU 316 [gZ x,iP (s:Int),iP ((p+64:Nat):Int)] (bP (R s))):gU 284 [(gZ x),(bP cs),(iP p)] (gZ (qD cs R x Y)):=by
 obtain⟨w1,w2⟩:=hx.ki;have h7:(je 7).ia:=si ag;have wv:(tG x 64).ia:=wK _ ag ag _;exact tr true Tryz.call284 Tryz.func284 (chain [.c (GI p ae ae),.c (qS x af),tB 22 (xa:x.all=false),.c (oD _ af:gU 130 [(gY x.lo)] _),tB 28 (aT h1),.c (oD _ af:gU 130 [(gY x.hi)] _),tB 33 (aT h2),.c (Ki x 64 af af ae ae),tB 40 (aS h3),.c (qO _ ae:gU 113 [(iP 7)] _),.c (nT _ _ af af:gU 37 [(gY (tG x 64)),(gY (je 7))] _),tB 47 (aT h4)]<|.w ((jo x.lo x.hi)=0)
  (fun k1=>chain [.c (xd cs aj:gU 315 [(gY x.lo),(bP cs),(iP p)] _),.c (xf cs aj:gU 315 [(gY x.hi),(bP cs),(iP p)] _),.c (hH:gU 158 [(gZ P1),(gZ P2)] _),.c xR,.c (uX:gU 314 [(gZ H),(gZ lv)] _),.c (nT _ _ af af:gU 37 [(gY x.lo),(gY x.hi)] _),tB 74 (aK k1)]<|rQ (gZ Y) (gZ (qD cs R x Y)) (by unfold qD;simp[k1]))
  (fun k1=>.w (cs=true)
   (fun k2=>chain [tB 53 (k2),.c (xd true (by simp[k2]):gU 315 [(gY x.lo),(bP true),(iP p)] _),tB 58 (k2),.c (xf true (by simp[k2]):gU 315 [(gY x.hi),(bP true),(iP p)] _),.c (hH:gU 158 [(gZ P1),(gZ P2)] _),.c xR,.c (uX:gU 314 [(gZ H),(gZ lv)] _),.c (nT _ _ af af:gU 37 [(gY x.lo),(gY x.hi)] _),tB 74 (aJ k1),tB 76 (k2),
    iq ((p:Int)+64) ae,.c (hM 0 ag:gU 316 [(gZ x),(iP 0),(iP (((p+64):Nat):Int))] _)]<|.w (R 0=true)
    (fun k3=>chain [tB 81 (k3),.c (qO _ ae:gU 113 [(iP 1)] _),iq ((p:Int)+64) ae,.c (hM 2 ag:gU 316 [(gZ x),(iP 2),(iP (((p+64):Nat):Int))] _)]<|.w (R 2=true)
     (fun k4=>chain [tB 88 (k4),.c (qO _ ae:gU 113 [(iP (-1))] _)]<|rQ (gZ (Iv.mk (je (-1)) (je 1) Y.all)) (gZ (qD cs R x Y)) (by unfold qD;simp[k1,k2,k3,k4]))
     (fun k4=>chain [tB 88 (aM k4)]<|rQ (gZ (Iv.mk Y.lo (je 1) Y.all)) (gZ (qD cs R x Y)) (by unfold qD;simp[k1,k2,k3,k4])))
    (fun k3=>chain [tB 81 (aM k3),iq ((p:Int)+64) ae,.c (hM 2 ag:gU 316 [(gZ x),(iP 2),(iP (((p+64):Nat):Int))] _)]<|.w (R 2=true)
     (fun k4=>chain [tB 88 (k4),.c (qO _ ae:gU 113 [(iP (-1))] _)]<|rQ (gZ (Iv.mk (je (-1)) Y.hi Y.all)) (gZ (qD cs R x Y)) (by unfold qD;simp[k1,k2,k3,k4]))
     (fun k4=>chain [tB 88 (aM k4)]<|rQ (gZ Y) (gZ (qD cs R x Y)) (by unfold qD;simp[k1,k2,k3,k4]))))
   (fun k2=>chain [tB 53 (aM k2),.c (xd false (by simp[k2]):gU 315 [(gY x.lo),(bP false),(iP p)] _),tB 58 (aM k2),.c (xf false (by simp[k2]):gU 315 [(gY x.hi),(bP false),(iP p)] _),.c (hH:gU 158 [(gZ P1),(gZ P2)] _),.c xR,.c (uX:gU 314 [(gZ H),(gZ lv)] _),.c (nT _ _ af af:gU 37 [(gY x.lo),(gY x.hi)] _),tB 74 (aJ k1),tB 76 (aM k2),iq ((p:Int)+64) ae,.c (hM 1 ag:gU 316 [(gZ x),(iP 1),(iP (((p+64):Nat):Int))] _)]<|.w (R 1=true)
    (fun k3=>chain [tB 81 (k3),.c (qO _ ae:gU 113 [(iP 1)] _),iq ((p:Int)+64) ae,.c (hM 3 ag:gU 316 [(gZ x),(iP 3),(iP (((p+64):Nat):Int))] _)]<|.w (R 3=true)
     (fun k4=>chain [tB 88 (k4),.c (qO _ ae:gU 113 [(iP (-1))] _)]<|rQ (gZ (Iv.mk (je (-1)) (je 1) Y.all)) (gZ (qD cs R x Y)) (by unfold qD;simp[k1,k2,k3,k4]))
     (fun k4=>chain [tB 88 (aM k4)]<|rQ (gZ (Iv.mk Y.lo (je 1) Y.all)) (gZ (qD cs R x Y)) (by unfold qD;simp[k1,k2,k3,k4])))
    (fun k3=>chain [tB 81 (aM k3),iq ((p:Int)+64) ae,.c (hM 3 ag:gU 316 [(gZ x),(iP 3),(iP (((p+64):Nat):Int))] _)]<|.w (R 3=true)
     (fun k4=>chain [tB 88 (k4),.c (qO _ ae:gU 113 [(iP (-1))] _)]<|rQ (gZ (Iv.mk (je (-1)) Y.hi Y.all)) (gZ (qD cs R x Y)) (by unfold qD;simp[k1,k2,k3,k4]))
     (fun k4=>chain [tB 88 (aM k4)]<|rQ (gZ Y) (gZ (qD cs R x Y)) (by unfold qD;simp[k1,k2,k3,k4])))))) ah 
theorem P8{x:Iv}(hx:x.ia)(cs:Bool){p:Nat}(il:8<=p)(ic:p<=512):∃ Z,Z.ia/\gU 284 [gZ x,bP cs,iP (p:Int)] (gZ Z):=by
 cases xa:x.all with
 |true=>exact⟨_,mj,aai x cs p hx xa il ic⟩
 |false=>
  by_cases hu:100<x.lo.iu\/100<x.hi.iu\/¬AM x 64=0\/0<=jo (tG x 64) (je 7)
  .exact ⟨_,y6,aal x cs p hx xa il ic hu⟩
  have h1:¬100<x.lo.iu:=fun q=>hu (.inl q)
  have h2:¬100<x.hi.iu:=fun q=>hu (.inr (.inl q))
  have h3:AM x 64=0:=bE fun q=>hu (.inr (.inr (.inl q)))
  have h4:¬0<=jo (tG x 64) (je 7):=fun q=>hu (.inr (.inr (.inr q)))
  obtain⟨w1,w2⟩:=hx.ki;obtain⟨P1,g1,xd⟩:=Qb w1 ae cs il ic;obtain⟨P2,g2,xf⟩:=Qb w2 ae cs il ic;replace xd:∀ c,c=cs->gU 315 [gY x.lo,bP c,iP (p:Int)] (gZ P1):=fun c h=>h▸xd
  replace xf:∀ c,c=cs->gU 315 [gY x.hi,bP c,iP (p:Int)] (gZ P2):=fun c h=>h▸xf
  obtain⟨H,g3,hH⟩:=Zl g1 g2;rcases Zv g3 with⟨Y,hY,uX⟩|uX
  rotate_left
  .exact ⟨_,y6,aak x cs p hx xa il ic h1 h2 h3 h4 P1 P2 H xd xf hH uX⟩
  have ya:=hY.f;have v0:=hY.v;have v1:(Iv.mk (je (-1)) (je 1) Y.all).ia:=by rw[ya];exact y6
  have v2:(Iv.mk Y.lo (je 1) Y.all).ia:=by rw[ya];exact hY.up.v
  have v3:(Iv.mk (je (-1)) Y.hi Y.all).ia:=by rw[ya];exact hY.dn.v
  have v4:(Iv.mk Y.lo Y.hi Y.all).ia:=hY.v;have hm:∀ s:Nat,∃ r,s<=3->gU 316 [gZ x,iP (s:Int),iP ((p+64:Nat):Int)] (bP r):=fun s=>by
   by_cases hs:s<=3
   .obtain ⟨r,m⟩:=aat hx xa s ae (p+64) ae ae ae 
    exact⟨r,fun _=>m⟩
   .exact ⟨true,fun h=>absurd h hs⟩
  refine⟨qD cs (fun s=>Classical.choose (hm s)) x Y,?_,aaj x cs p hx xa il ic h1 h2 h3 h4 P1 P2 H Y hY xd xf hH uX (fun s=>Classical.choose (hm s)) fun s hs=>cM (hm s) hs⟩;generalize (fun s=>Classical.choose (hm s))=R;unfold qD;by_cases q1:jo x.lo x.hi=0
  .rw [aR q1];exact v0
  rw[aQ q1];by_cases q2:R (if cs=true then 2 else 3)=true<;>by_cases q3:R (if cs=true then 0 else 1)=true<;>simp only[q2,q3,bk,a6,bq]<;>assumption
theorem aaR(x Z:Iv)(p:Nat)(hZ:gU 284 [gZ x,bP false,iP (p:Int)] (gZ Z)):gU 244 [(gZ x),(iP p)] (gZ Z):=by
 exact tr true Tryz.call244 Tryz.func244 (chain [.c (hZ:gU 284 [(gZ x),(bP false),(iP p)] _)]<|.nil) ah 
theorem Ku{x:Iv}(hx:x.ia){p:Nat}(il:8<=p)(ic:p<=512):∃ Z,Z.ia/\gU 244 [gZ x,iP (p:Int)] (gZ Z):=by
 obtain⟨Z,h1,h2⟩:=P8 hx false il ic;exact⟨Z,h1,aaR x Z p h2⟩
theorem aam(x Z:Iv)(p:Nat)(hZ:gU 284 [gZ x,bP true,iP (p:Int)] (gZ Z)):gU 245 [(gZ x),(iP p)] (gZ Z):=by
 exact tr true Tryz.call245 Tryz.func245 (chain [.c (hZ:gU 284 [(gZ x),(bP true),(iP p)] _)]<|.nil) ah 
theorem Kr{x:Iv}(hx:x.ia){p:Nat}(il:8<=p)(ic:p<=512):∃ Z,Z.ia/\gU 245 [gZ x,iP (p:Int)] (gZ Z):=by
 obtain⟨Z,h1,h2⟩:=P8 hx true il ic;exact⟨Z,h1,aam x Z p h2⟩
open Go.RowKit Fp Pu
def lW(a b:Nat):Nat->Nat×Nat
 | 0=>(a,b)
 |k+1=>((lW a b k).2,(lW a b k).1%(lW a b k).2)
theorem K0(a b:Nat):∀ k,lW a b (k+1)=lW b (a%b) k
 | 0=>rfl
 |k+1=>by
  show((lW a b (k+1)).2,(lW a b (k+1)).1%(lW a b (k+1)).2)=_;rw[K0 a b k];rfl
theorem KZ(a b:Nat):∀ k,Nat.gcd (lW a b k).1 (lW a b k).2=Nat.gcd a b
 | 0=>rfl
 |k+1=>by
  show Nat.gcd (lW a b k).2 ((lW a b k).1%(lW a b k).2)=_;rw[<-KZ a b k];exact(Nat.gcd_comm _ _).trans ((Nat.gcd_rec _ _).symm.trans (Nat.gcd_comm _ _))
theorem Rp:∀ (b a:Nat),∃ N,(∀ k,k<N->(lW a b k).2≠0)/\(lW a b N).2=0:=by
 intro b
 induction b using Nat.strongRecOn with
 |ind b ih=>
  intro a;by_cases h:b=0
  .exact ⟨0,fun k hk=>absurd hk (bj k),h⟩
  .obtain ⟨N,h1,h2⟩:=ih (a%b) (bg a (dB h)) b
   refine⟨N+1,fun k hk=>?_,by rw[K0];exact h2⟩;rcases k with _|k
   .exact h
   .rw [K0];exact h1 k ae 
def nI(n d:Int)(p:Nat):Iv:=if lL n d then kE (kt (je n) (je d) p false) (nd (je n) (je d) p false) (kt (je n) (je d) p true) (nd (je n) (je d) p true)else ie
theorem Mz{d:Int}(h:d≠0):(je d).m≠0:=by
 intro q;have hq:=xB d;rw[qv,q]at hq;have e:(d:Rat)=0:=by
  rw[<-hq];split<;>simp
 rw[show(0:Rat)=((0:Int):Rat)from rfl,Rat.intCast_inj]at e;exact h e
theorem GY{a b:Dy}(b0:b.m≠0){p:Nat}(hp:1<=p)(ic:p<=4096)(up:Bool):(kt a b p up).ia:=by
 unfold kt;split
 .exact rD
 .exact mn _ _ _ _ _ _ hp ic
theorem ajT(n d:Int){p:Nat}(hp:1<=p)(ic:p<=4096):(nI n d p).ia:=by
 unfold nI;split
 .rename_i h
  obtain⟨r1,_⟩:=FI h;have d0:(je d).m≠0:=Mz ae;unfold kE;split
  .exact mj
  .rename_i he
   obtain⟨A,B⟩:=KL (a:=je n) d0 hp ic;refine .inr ⟨rfl,GY d0 hp ic _,GY d0 hp ic _,?_⟩;rw[pU];exact bG (A.1 ae).2 (B.1 ae).2
 .exact mj
open Go.RowKit Fp Pu
def RX(a b:Nat)(x:Nat):PS:=⟨12,true,[(0,.e (.v (.int .u64 ((((lW a b x).1):Nat):Int)))),(1,.e (.v (.int .u64 ((((lW a b x).2):Nat):Int))))],[]⟩
theorem adq(a b N:Nat)(ha:a<18446744073709551616)(hb:b<18446744073709551616)(iH:∀ k,k<N->(lW a b k).2≠0)(hN:(lW a b N).2=0):gU 205 [(.v (.int .u64 (a:Int))),(.v (.int .u64 (b:Int)))] (.v (.int .u64 ((((lW a b N).1):Nat):Int))):=by
 exact tr true Tryz.call205 Tryz.func205 (chain [.s (Sp.jx (RX a b) 0 N ae (fun x hx ke=>by
    have jI:=iH x ae;exact iB (chain [tB 6 (Fh (iH x ae):(((((lW a b x).2):Nat):Int) != 0)=true),.a (ae:0<(((((lW a b x).2):Nat):Int):Int))]<|.e (chain [.o 0 (.int aw:PV.le (.e (.v (.int .u64 ((((lW a b x).2):Nat):Int)))) (.e (.v (.int .u64 ((((lW a b (x+1)).1):Nat):Int))))),.o 1 (.int aw:PV.le (.e (.v (.int .u64 (((((lW a b x).1)%((lW a b x).2)):Nat):Int)))) (.e (.v (.int .u64 ((((lW a b (x+1)).2):Nat):Int)))))]<|.nil)) ah)
  (fun hx=>by
    exact iB (chain [tB 6 (BH hN:(((((lW a b N).2):Nat):Int) != 0)=false)]<|.nil) ah) ak:ju 1 Tryz.f205 (RX a b 0) (.exit 0) ⟨12,true,[(0,.e (.v (.int .u64 ((((lW a b N).1):Nat):Int))))],[]⟩) (chain [.o 0 (.int aw:PV.le (.e (.v (.int .u64 (a:Int)))) (.e (.v (.int .u64 ((((lW a b 0).1):Nat):Int))))),.o 1 (.int aw:PV.le (.e (.v (.int .u64 (b:Int)))) (.e (.v (.int .u64 ((((lW a b 0).2):Nat):Int)))))]<|.nil)]<|.nil) ah 
theorem adr(a b:Nat)(ha:a<18446744073709551616)(hb:b<18446744073709551616):gU 205 [(.v (.int .u64 (a:Int))),(.v (.int .u64 (b:Int)))] (.v (.int .u64 (Nat.gcd a b:Int))):=by
 obtain⟨N,h1,h2⟩:=Rp b a;have hg:=KZ a b N;rw[h2,Nat.gcd_zero_right]at hg;rw[<-hg];exact adq a b N ha hb h1 h2
theorem aku(m:Nat)(h:m<=1073741824):gU 206 [(iP m)] (.v (.int .u64 (m:Int))):=by
 exact tr true Tryz.call206 Tryz.func206 (chain [tF 4 ((m:Int)<0) ae,.o 9 (.int (pB _ ae):PV.le (.e (.v (.int .u64 (IntKind.u64.wrap (m:Int))))) (.e (.v (.int .u64 (m:Int)))))]<|.nil) ah 
theorem akt(m:Nat)(h0:0<m)(h:m<=1073741824):gU 206 [(iP (-(m:Int)))] (.v (.int .u64 (m:Int))):=by
 exact tr true Tryz.call206 Tryz.func206 (chain [tT 4 ((-(m:Int))<0) ae,iq (0-(-(m:Int))) ae,.o 6 (.int ae:PV.le (.e (iP (0-(-(m:Int))))) (.e (iP m))),.o 7 (.int (pB _ ae):PV.le (.e (.v (.int .u64 (IntKind.u64.wrap (m:Int))))) (.e (.v (.int .u64 (m:Int)))))]<|.nil) ah 
theorem Xn(n:Int)(h1:-1073741824<=n)(h2:n<=1073741824):gU 206 [iP n] (.v (.int .u64 (n.natAbs:Int))):=by
 by_cases h:0<=n
 .obtain ⟨m,rfl⟩:=dJ h
  exact aku m ae 
 .obtain ⟨m,rfl⟩:∃ m:Nat,n = -(m:Int):=⟨n.natAbs,ae⟩
  rw[ff,dA];exact akt m ae ae 
theorem xy(g:Nat):((g:Int)==1)=decide (g=1):=by
 by_cases h:g=1
 .subst h;rfl
 .rw [aT h];exact aJ ae 
theorem Ji(n d:Int):gU 169 [(.agg [(iP n),(iP d)])] (bP (lL n d)):=by
 exact tr true Tryz.call169 Tryz.func169 (.w (1<=d)
  (fun k1=>chain [tB 5 (aS k1)]<|.w (d<=1073741824)
   (fun k2=>chain [tB 9 (aS k2)]<|.w ((-1073741824)<=n)
    (fun k3=>chain [tB 14 (aS k3)]<|.w (n<=1073741824)
     (fun k4=>chain [tB 19 (aS k4),.c (Xn _ ae ae:gU 206 [(iP n)] _),.c (Xn _ ae ae:gU 206 [(iP d)] _),.c (adr _ _ ae ae:gU 205 [(.v (.int .u64 (Int.natAbs n:Int))),(.v (.int .u64 (Int.natAbs d:Int)))] _)]<|rQ (bP ((Nat.gcd (Int.natAbs n) (Int.natAbs d):Int)==1)) (bP (lL n d)) (by unfold lL;simp[xy,k1,k2,k3,k4]))
     (fun k4=>chain [tB 19 (aT k4)]<|rQ (bP false) (bP (lL n d)) (by unfold lL;simp[xy,k1,k2,k3,k4])))
    (fun k3=>chain [tB 14 (aT k3)]<|rQ (bP false) (bP (lL n d)) (by unfold lL;simp[xy,k1,k2,k3])))
   (fun k2=>chain [tB 9 (aT k2)]<|rQ (bP false) (bP (lL n d)) (by unfold lL;simp[xy,k1,k2])))
  (fun k1=>chain [tB 5 (aT k1)]<|rQ (bP false) (bP (lL n d)) (by unfold lL;simp[xy,k1]))) ah 
theorem UD{lo hi:Dy}{e f:Int}(h:e≠0\/f≠0):kE lo e hi f=ie:=aR h
theorem agt{lo hi:Dy}{e f:Int}(h:e=0)(k:f=0):kE lo e hi f=⟨lo,hi,false⟩:=aQ (by rw[h,k];decide)
theorem aiJ(n d:Int)(p:Nat)(h:lL n d=true)(il:8<=p)(ic:p<=512):gU 210 [(.agg [(iP n),(iP d)]),(iP p)] (gZ (nI n d p)):=by
 obtain⟨r1,r2,r3,r4⟩:=FI h;have v1:=si (n:=n) ae;have v2:=si (n:=d) ae;have d0:(je d).m≠0:=Mz ae;exact tr true Tryz.call210 Tryz.func210 (chain [.c (Ji _ _:gU 169 [(.agg [(iP n),(iP d)])] _),tB 11 (by rw[h];rfl:(!(lL n d))=false),.c (qO _ ae:gU 113 [(iP n)] _),.c (qO _ ae:gU 113 [(iP d)] _),.c (Wi (je n) (je d) p af af af ae ae),.c (qO _ ae:gU 113 [(iP n)] _),.c (qO _ ae:gU 113 [(iP d)] _),.c (Wj (je n) (je d) p af af af ae ae)]<|.w ((nd (je n) (je d) p false)=0)
  (fun k1=>chain [tB 36 (aO k1)]<|.w ((nd (je n) (je d) p true)=0)
   (fun k2=>chain [tB 39 (aO k2)]<|rQ (gZ (Iv.mk (kt (je n) (je d) p false) (kt (je n) (je d) p true) false)) (gZ (nI n d p)) (by unfold nI;rw[aR h,agt k1 k2]))
   (fun k2=>chain [tB 39 (aP k2),.o 41 (.e Ga:PV.le (.e (.agg [(bP false),(.v (.slice none 0 0)),(iP 0),(bP false),(.v (.slice none 0 0)),(iP 0),(bP true)])) (.e (gZ ie)))]<|rQ (gZ ie) (gZ (nI n d p)) (by unfold nI;rw[aR h,UD (.inr k2)])))
  (fun k1=>chain [tB 36 (aP k1),.o 41 (.e Ga:PV.le (.e (.agg [(bP false),(.v (.slice none 0 0)),(iP 0),(bP false),(.v (.slice none 0 0)),(iP 0),(bP true)])) (.e (gZ ie)))]<|rQ (gZ ie) (gZ (nI n d p)) (by unfold nI;rw[aR h,UD (.inl k1)]))) ah 
open Go.RowKit Fp Pu
noncomputable def Cu(x:Iv)(p:Nat):Iv:=@dite Iv (x.ia/\8<=p/\p<=512) (Classical.propDecidable _) (fun h=>Classical.choose (OK h.1 h.2.1 h.2.2)) (fun _=>ie)
theorem acS(x:Iv)(p:Nat):(Cu x p).ia:=by
 unfold Cu;split
 .rename_i h;exact(cM (OK h.1 h.2.1 h.2.2)).1
 .exact mj
theorem acR(x:Iv)(hx:x.ia)(p:Nat)(il:8<=p)(ic:p<=512):gU 242 [gZ x,iP (p:Int)] (gZ (Cu x p)):=by
 unfold Cu;rw[dif_pos ⟨hx,il,ic⟩];exact(cM (OK hx il ic)).2
noncomputable def Cv(x:Iv)(p:Nat):Iv:=@dite Iv (x.ia/\8<=p/\p<=512) (Classical.propDecidable _) (fun h=>Classical.choose (OM h.1 h.2.1 h.2.2)) (fun _=>ie)
theorem acU(x:Iv)(p:Nat):(Cv x p).ia:=by
 unfold Cv;split
 .rename_i h;exact(cM (OM h.1 h.2.1 h.2.2)).1
 .exact mj
theorem acT(x:Iv)(hx:x.ia)(p:Nat)(il:8<=p)(ic:p<=512):gU 243 [gZ x,iP (p:Int)] (gZ (Cv x p)):=by
 unfold Cv;rw[dif_pos ⟨hx,il,ic⟩];exact(cM (OM hx il ic)).2
noncomputable def Cw(x:Iv)(p:Nat):Iv:=@dite Iv (x.ia/\8<=p/\p<=512) (Classical.propDecidable _) (fun h=>Classical.choose (Ku h.1 h.2.1 h.2.2)) (fun _=>ie)
theorem acW(x:Iv)(p:Nat):(Cw x p).ia:=by
 unfold Cw;split
 .rename_i h;exact(cM (Ku h.1 h.2.1 h.2.2)).1
 .exact mj
theorem acV(x:Iv)(hx:x.ia)(p:Nat)(il:8<=p)(ic:p<=512):gU 244 [gZ x,iP (p:Int)] (gZ (Cw x p)):=by
 unfold Cw;rw[dif_pos ⟨hx,il,ic⟩];exact(cM (Ku hx il ic)).2
noncomputable def Ct(x:Iv)(p:Nat):Iv:=@dite Iv (x.ia/\8<=p/\p<=512) (Classical.propDecidable _) (fun h=>Classical.choose (Kr h.1 h.2.1 h.2.2)) (fun _=>ie)
theorem acQ(x:Iv)(p:Nat):(Ct x p).ia:=by
 unfold Ct;split
 .rename_i h;exact(cM (Kr h.1 h.2.1 h.2.2)).1
 .exact mj
theorem acP(x:Iv)(hx:x.ia)(p:Nat)(il:8<=p)(ic:p<=512):gU 245 [gZ x,iP (p:Int)] (gZ (Ct x p)):=by
 unfold Ct;rw[dif_pos ⟨hx,il,ic⟩];exact(cM (Kr hx il ic)).2
noncomputable def Cx(x:Iv)(p:Nat):Iv:=@dite Iv (x.ia/\8<=p/\p<=512) (Classical.propDecidable _) (fun h=>Classical.choose (MI h.1 h.2.1 h.2.2)) (fun _=>ie)
theorem acY(x:Iv)(p:Nat):(Cx x p).ia:=by
 unfold Cx;split
 .rename_i h;exact(cM (MI h.1 h.2.1 h.2.2)).1
 .exact mj
theorem acX(x:Iv)(hx:x.ia)(p:Nat)(il:8<=p)(ic:p<=512):gU 246 [gZ x,iP (p:Int)] (gZ (Cx x p)):=by
 unfold Cx;rw[dif_pos ⟨hx,il,ic⟩];exact(cM (MI hx il ic)).2
open Go.RowKit Fp Pu
def GB(o:mX):Bool:=decide (o.kind<=6)
noncomputable def kG(o:mX)(x y:Iv)(p:Nat):Iv:=
 if o.kind=3 then jk x y p else if o.kind=4 then FV x y p else if o.kind=5 then iQ x y p else if o.kind=6 then jS x y p
 else if o.kind=7 then qJ x else if o.kind=8 then mi x o.n p else if o.kind=9 then Cu x p else if o.kind=10 then Cv x p
 else if o.kind=11 then Cw x p else if o.kind=12 then Ct x p else if o.kind=13 then Cx x p else ie
noncomputable def sE(o:mX)(l:List Iv)(p:Nat):Iv:=if o.kind=1 then nI o.cn o.cd p else kG o (l.getD o.a ie) (if GB o then l.getD o.b ie else ie) p
noncomputable def iS(gW:List mX)(xs:List Iv)(p:Nat):Nat->List Iv
 | 0=>xs
 |k+1=>iS gW xs p k++[sE (gW.getD k iT) (iS gW xs p k) p]
noncomputable def jf(t:pg)(xs:List Iv)(p:Nat):List Iv:=t.ij.map fun k=>(iS t.gW xs p t.gW.length).getD k ie
noncomputable def kT(s:lj)(x:List Iv)(h:Dy)(b:List Iv)(p:Nat):List Iv:=
 if nf (jf s.tape (b++s.params) p)then[]else if nf (wC x (jf s.tape (b++s.params) p) h p)then[]else wC x (jf s.tape (b++s.params) p) h p
noncomputable def qF(s:lj)(x:List Iv)(h:Dy)(b:List Iv)(p:Nat):Bool:=!(kT s x h b p).isEmpty&&(mU x b&&mU (kT s x h b p) b)
theorem F5(gW:List mX)(xs:List Iv)(p:Nat):∀ k,(iS gW xs p k).length=xs.length+k
 | 0=>rfl
 |k+1=>by simp only[iS,cg,F5 gW xs p k,dc,List.length_nil];omega
theorem YZ(o:mX){x y:Iv}(hx:x.ia)(hy:y.ia){p:Nat}(hp:1<=p)(ic:p<=4096):(kG o x y p).ia:=by
 unfold kG;split
 .exact r8 hx hy hp ic
 split
 .exact r8 hx (Fj hy) hp ic
 split
 .exact qU _ _ hp ic
 split
 .exact vP _ _ hp ic
 split
 .exact Fj hx
 split
 .exact ahN hx _ hp ic
 split
 .exact acS _ _
 split
 .exact acU _ _
 split
 .exact acW _ _
 split
 .exact acQ _ _
 split
 .exact acY _ _
 .exact mj
theorem Y1(o:mX){l:List Iv}(hl:pV l){p:Nat}(hp:1<=p)(ic:p<=4096):(sE o l p).ia:=by
 unfold sE;split
 .exact ajT _ _ hp ic
 .exact YZ o (hl _) (by split;exact hl _;exact mj) hp ic
theorem F7(gW:List mX){xs:List Iv}(h:pV xs){p:Nat}(hp:1<=p)(ic:p<=4096):∀ k,pV (iS gW xs p k)
 | 0=>h
 |k+1=>(F7 gW h hp ic k).push (Y1 _ (F7 gW h hp ic k) hp ic)
theorem Hh(t:pg){xs:List Iv}(h:pV xs){p:Nat}(hp:1<=p)(ic:p<=4096):pV (jf t xs p):=fun i=>by
 unfold jf;rw[aW,cj];cases t.ij[i]? with
 |none=>exact mj
 |some k=>exact F7 t.gW h hp ic _ _
theorem zJ(t:pg)(xs:List Iv)(p:Nat):(jf t xs p).length=t.ij.length:=by simp[jf]
theorem Ad{s:lj}{x b:List Iv}{h:Dy}{p n:Nat}(hx:ks n x)(hp:1<=p)(ic:p<=4096)(kI:kT s x h b p≠[]):ks n (kT s x h b p):=by
 unfold kT at kI ⊢;split at kI
 .exact absurd rfl kI
 .rename_i h1
  rw[aQ h1];split at kI
  .exact absurd rfl kI
  .rename_i h2
   rw[aQ h2];exact⟨by rw[C1,hx.len],aef (by simpa using h2) (afi hx.ok.OJ hp ic)⟩
open Go.RowKit Fp Pu
theorem abj:jO 1=0:= ar 
theorem Qh(e:Int):canon false 1 e=⟨false,1,e⟩:=by
 unfold canon;rw[aQ ag,abj];simp
def nN(k:Int):Dy:=⟨false,1,k⟩
theorem OE{k:Int}(h1:-100<=k)(h2:k<=100):mQ (nN k):=.inr ⟨by show ib 1<=4096;rw[uK];decide,by show -16384<=k;omega,by show k<=16384;omega,by show(ib 1:Int)+k<=16384;rw[uK];omega⟩
theorem X8{k:Int}(h1:-100<=k)(h2:k<=100):(nN k).ia:=⟨by have:=qP false 1 k;rwa[Qh]at this,OE h1 h2⟩
theorem X7(k:Int):¬(nN k).iJ<0:=by
 rw[(re _).2,qv];show ¬(if false=true then _ else((1:Nat):Rat)*P2 k)<0;rw[aQ ag];have:=mZ k
 grind
theorem akp{d:Dy}(h:¬d.iJ<0):0<=d.q:=by
 rw[(re d).2]at h
 grind
noncomputable def xQ(s:lj)(x:List Iv)(h:Dy)(p:Nat)(k:Int):Bool:=sM x (nN k)&&qF s x h (qZ x (nN k)) p
open Go.RowKit Fp Pu
def PB(a b:List Iv)(g:FuncId)(cap:List E)(i:Nat):PS:=⟨32,false,[(17,.e (iP i)),(16,.e (iP a.length)),(15,.e (ig a)),(1,.e (ig b)),(2,.e (.fn g cap))],[]⟩
def PA(a b:List Iv)(g:FuncId)(cap:List E)(N:Nat)(i:Nat):PS:=⟨32,false,[(17,.e (iP i)),(16,.e (iP a.length)),(15,.e (ig a)),(1,.e (ig b)),(2,.e (.fn g cap))],[]⟩
def PF(x:List Iv)(d:Dy)(i:Nat):PS:=⟨60,true,[(6,.own 6),(28,.e (iP i)),(27,.e (iP x.length)),(26,.e (ig x)),(3,.box 3 0)],[(6,.row true 41 i 7 (kf ((List.range i).map (fun j_=>qE (x.getD j_ ie) d)))),(3,.cells 31 (jq d))]⟩
def PD(x:List Iv)(d:Dy)(N:Nat)(i:Nat):PS:=⟨60,true,[(6,.own 6),(28,.e (iP i)),(27,.e (iP x.length)),(26,.e (ig x)),(3,.box 3 0)],[(6,.row true 41 i 7 (kf ((List.range i).map (fun j_=>qE (x.getD j_ ie) d)))),(3,.cells 31 (jq d))]⟩
def PE(x:List Iv)(d:Dy)(N:Nat)(i:Nat):PS:=⟨60,true,[(6,.own 6),(28,.e (iP i)),(27,.e (iP x.length)),(26,.e (ig x)),(3,.box 3 0)],[(6,.row true 41 i 7 (kf ((List.range i).map (fun j_=>qE (x.getD j_ ie) d)))),(3,.cells 31 (jq d))]⟩
theorem aag(x:Iv)(hx:x.ia)(xa:x.all=false):gU 155 [(gZ x)] (bP false):=by
 exact tr true Tryz.call155 Tryz.func155 (chain [tB 4 (xa:x.all=false),.c (qS x af)]<|.nil) ah 
theorem DX(b:List Iv)(h1:1<=b.length)(h8:b.length<=8)(hb:oO b):gU 112 [(ig b)] (bP true):=by
 exact tr true Tryz.call112 Tryz.func112 (chain [tT 5 (1<=(b.length:Int)) ae,tT 9 ((b.length:Int)<=8) ae,.c (BC true _ _ 155 [] (fun _=>false) (fun i hi=>aag _ (hb i hi).1 (hb i hi).2) ae (fun _ _=>rfl):gU 17 [(ig b),(.fn 155 [])] _)]<|.nil) ah 
theorem aaf(a b:List Iv)(a1:1<=a.length)(a8:a.length<=8)(hl:b.length=a.length)(ha:oO a)(hb:oO b):gU 62 [(ig a),(ig b)] (bP true):=by
 exact tr true Tryz.call62 Tryz.func62 (chain [.c (DX a ae ae af),.c (DX b ae ae af),tB 16 (IZ ae:((a.length:Int)==(b.length:Int))=true)]<|.nil) ah 
theorem Zh(a b:List Iv)(g:FuncId)(cap:List E)(f:Nat->Bool)(hl:b.length=a.length)(h8:a.length<=1000)(hp:∀ i,i<a.length->gU g ((gZ (a.getD i ie))::(gZ (b.getD i ie))::cap) (bP (f i)))(iH:∀ i,i<a.length->f i=true):gU 56 [(ig a),(ig b),(.fn g cap)] (bP true):=by
 exact tr false Tryz.call56 Tryz.func56 (chain [tB 14 (BI ae:((a.length:Int) != (b.length:Int))=false),.s (Sp.jx (PB a b g cap) 0 a.length ae (fun i hi pL=>by
    exact iB (chain [tT 18 ((i:Int)<(a.length:Int)) ae,iX ((i:Int)) (a.length) ae,iX ((i:Int)) (b.length) ae,.c (hp i ae:gU g ((gZ (a.getD i ie))::(gZ (b.getD i ie))::cap) _),tB 29 (iH i ae:(f i)=true),iq ((i:Int)+1) ae]<|.nil) ah)
  (fun hi=>by
    exact iB (chain [tF 18 ((a.length:Int)<(a.length:Int)) ae]<|.nil) ah) ak:ju 4 Tryz.f56 (PB a b g cap 0) (.exit 0) ⟨32,false,[],[]⟩) .nil]<|.nil) ah 
theorem Zf(a b:List Iv)(g:FuncId)(cap:List E)(f:Nat->Bool)(hl:b.length=a.length)(h8:a.length<=1000)(hp:∀ i,i<a.length->gU g ((gZ (a.getD i ie))::(gZ (b.getD i ie))::cap) (bP (f i)))(N:Nat)(mG:N<a.length)(iH:∀ i,i<N->f i=true)(hN:f N=false):gU 56 [(ig a),(ig b),(.fn g cap)] (bP false):=by
 exact tr false Tryz.call56 Tryz.func56 (chain [tB 14 (BI ae:((a.length:Int) != (b.length:Int))=false),.s (Sp.jx (PA a b g cap N) 0 N ae (fun i hi pL=>by
    exact iB (chain [tT 18 ((i:Int)<(a.length:Int)) ae,iX ((i:Int)) (a.length) ae,iX ((i:Int)) (b.length) ae,.c (hp i ae:gU g ((gZ (a.getD i ie))::(gZ (b.getD i ie))::cap) _),tB 29 (iH i ae:(f i)=true),iq ((i:Int)+1) ae]<|.nil) ah)
  (fun hi=>by
    exact iB (chain [tT 18 ((N:Int)<(a.length:Int)) ae,iX ((N:Int)) (a.length) ae,iX ((N:Int)) (b.length) ae,.c (hp N ae:gU g ((gZ (a.getD N ie))::(gZ (b.getD N ie))::cap) _),tB 29 (hN:(f N)=false)]<|.nil) ah) ak:ju 4 Tryz.f56 (PA a b g cap N 0) .ret ⟨32,false,[(6,.e (bP false))],[]⟩) .nil]<|.nil) ah 
theorem Zg(a b:List Iv)(g:FuncId)(cap:List E)(f:Nat->Bool)(hl:b.length=a.length)(h8:a.length<=1000)(hp:∀ i,i<a.length->gU g ((gZ (a.getD i ie))::(gZ (b.getD i ie))::cap) (bP (f i))):gU 56 [(ig a),(ig b),(.fn g cap)] (bP ((List.range a.length).all f)):=by
 by_cases h:∃ i,i<a.length/\(!(f i))=true
 .obtain ⟨N,h1,h2,h3⟩:=qI (p:=fun i=>!(f i)) h
  refine(Zf a b g cap f hl h8 hp N h1 (fun i hi=>by simpa using h3 i hi) (by simpa using h2)).jV (.iU ?_);rw[show(List.range a.length).all f=false from List.all_eq_false.2 ⟨N,bJ.2 h1,by simpa using h2⟩]
 .have hh:∀ i,i<a.length->f i=true:=fun i hi=>by
   cases hf:f i
   .exact absurd ⟨i,hi,by rw[hf];rfl⟩ h
   .rfl
  refine(Zh a b g cap f hl h8 hp hh).jV (.iU ?_);rw[show(List.range a.length).all f=true from bH.2 fun i hi=>hh i (bJ.1 hi)]
theorem uN(a b:List Iv)(a1:1<=a.length)(a8:a.length<=8)(hl:b.length=a.length)(ha:oO a)(hb:oO b):gU 24 [(ig a),(ig b)] (bP (mU a b)):=by
 exact tr true Tryz.call24 Tryz.func24 (chain [.c (aaf a b ae ae ae af af),.c (Zg a b 63 [] (fun i=>pP (a.getD i ie) (b.getD i ie)) hl ae (fun i hi=>Zn _ _ (ha i hi).1 (hb i ae).1))]<|.nil) ah 
theorem Lp{x:Iv}{d:Dy}(h:uV x d=true):mJ (iI x.lo (iF d))=0/\mJ (iI x.hi d)=0:=by
 unfold uV at h;rwa[bA,bZ,bZ]at h
theorem aae(x:List Iv)(d:Dy)(x1:1<=x.length)(x8:x.length<=8)(hx:oO x)(hd:d.ia)(h0:¬d.iJ<0)(iH:∀ i,i<x.length->uV (x.getD i ie) d=true):gU 114 [(ig x),(gY d)] (.iw [ig ((List.range x.length).map (fun j_=>qE (x.getD j_ ie) d)),iP 0]):=by
 exact tr true Tryz.call114 Tryz.func114 (chain [.c (DX x ae ae af),.c (qp _ af:gU 68 [(gY d)] _),.c (nU _ af:gU 35 [(gY d)] _),tB 24 (aT h0),.y 6 6 true 41 7 (kf ((List.range 0).map (fun j_=>qE (x.getD j_ ie) d))),.s (Sp.jx (PF x d) 0 x.length ae (fun i hi pL=>by
    obtain⟨w1,w2⟩:=(hx i ae).1.ki;obtain⟨g1,g2⟩:=Lp (iH i ae);have tX:=tD (Iv.mk (kB (iI (x.getD i ie).lo (iF d))) (kB (iI (x.getD i ie).hi d)) false);exact iB (chain [tT 29 ((i:Int)<(x.length:Int)) ae,iX ((i:Int)) (x.length) ae,.c (DU _ _ af af:gU 156 [(gY ((x.getD i ie).lo)),(gY d)] _),.c (DS ((x.getD i ie).hi) d af af),tB 47 (by rw[g1];rfl:((mJ (iI ((x.getD i ie).lo) (iF d))) != 0)=false),tB 50 (by rw[g2];rfl:((mJ (iI ((x.getD i ie).hi) d)) != 0)=false),.o 56 (.e (mC _):PV.le (.e (.sl true 1 7 fun i_ j_=>(iZ (Iv.mk (kB (iI ((x.getD i ie).lo) (iF d))) (kB (iI ((x.getD i ie).hi) d)) false)).getD (i_*7+j_) (.v (.bool false)))) (.e (ig [(Iv.mk (kB (iI ((x.getD i ie).lo) (iF d))) (kB (iI ((x.getD i ie).hi) d)) false)]))),.a (ae:(i+[(Iv.mk (kB (iI ((x.getD i ie).lo) (iF d))) (kB (iI ((x.getD i ie).hi) d)) false)].length)*88<=140737488355328),iq ((i:Int)+1) ae]<|.e (chain [.b 6 (yG rfl rfl rfl:Bx.le (.row true 41 (i+[(Iv.mk (kB (iI ((x.getD i ie).lo) (iF d))) (kB (iI ((x.getD i ie).hi) d)) false)].length) 7 (fun i_ j_=>if i_<i then(kf ((List.range i).map (fun j_=>qE (x.getD j_ ie) d))) i_ j_ else(E.mc (ig [(Iv.mk (kB (iI ((x.getD i ie).lo) (iF d))) (kB (iI ((x.getD i ie).hi) d)) false)])) (i_-i) j_)) (.row true 41 (i+1) 7 (kf ((List.range (i+1)).map (fun j_=>qE (x.getD j_ ie) d)))))]<|.nil)) ah)
  (fun hi=>by
    exact iB (chain [tF 29 ((x.length:Int)<(x.length:Int)) ae,.z 6]<|.e (chain [.o 6 (.e (Ah aj):PV.le (.e (.sl true x.length 7 (kf ((List.range x.length).map (fun j_=>qE (x.getD j_ ie) d))))) (.e (ig ((List.range x.length).map (fun j_=>qE (x.getD j_ ie) d)))))]<|.nil)) ah) ak:ju 5 Tryz.f114 (PF x d 0) (.exit 0) ⟨60,true,[(6,.e (ig ((List.range x.length).map (fun j_=>qE (x.getD j_ ie) d))))],[]⟩) .nil]<|.nil) ah 
theorem aab(x:List Iv)(d:Dy)(x1:1<=x.length)(x8:x.length<=8)(hx:oO x)(hd:d.ia)(h0:¬d.iJ<0)(N:Nat)(mG:N<x.length)(iH:∀ i,i<N->uV (x.getD i ie) d=true)(hN:mJ (iI (x.getD N ie).lo (iF d))≠0):gU 114 [(ig x),(gY d)] (.iw [.v (.slice none 0 0),iP 9]):=by
 exact tr true Tryz.call114 Tryz.func114 (chain [.c (DX x ae ae af),.c (qp _ af:gU 68 [(gY d)] _),.c (nU _ af:gU 35 [(gY d)] _),tB 24 (aT h0),.y 6 6 true 41 7 (kf ((List.range 0).map (fun j_=>qE (x.getD j_ ie) d))),.s (Sp.jx (PD x d N) 0 N ae (fun i hi pL=>by
    obtain⟨w1,w2⟩:=(hx i ae).1.ki;obtain⟨g1,g2⟩:=Lp (iH i ae);have tX:=tD (Iv.mk (kB (iI (x.getD i ie).lo (iF d))) (kB (iI (x.getD i ie).hi d)) false);exact iB (chain [tT 29 ((i:Int)<(x.length:Int)) ae,iX ((i:Int)) (x.length) ae,.c (DU _ _ af af:gU 156 [(gY ((x.getD i ie).lo)),(gY d)] _),.c (DS ((x.getD i ie).hi) d af af),tB 47 (by rw[g1];rfl:((mJ (iI ((x.getD i ie).lo) (iF d))) != 0)=false),tB 50 (by rw[g2];rfl:((mJ (iI ((x.getD i ie).hi) d)) != 0)=false),.o 56 (.e (mC _):PV.le (.e (.sl true 1 7 fun i_ j_=>(iZ (Iv.mk (kB (iI ((x.getD i ie).lo) (iF d))) (kB (iI ((x.getD i ie).hi) d)) false)).getD (i_*7+j_) (.v (.bool false)))) (.e (ig [(Iv.mk (kB (iI ((x.getD i ie).lo) (iF d))) (kB (iI ((x.getD i ie).hi) d)) false)]))),.a (ae:(i+[(Iv.mk (kB (iI ((x.getD i ie).lo) (iF d))) (kB (iI ((x.getD i ie).hi) d)) false)].length)*88<=140737488355328),iq ((i:Int)+1) ae]<|.e (chain [.b 6 (yG rfl rfl rfl:Bx.le (.row true 41 (i+[(Iv.mk (kB (iI ((x.getD i ie).lo) (iF d))) (kB (iI ((x.getD i ie).hi) d)) false)].length) 7 (fun i_ j_=>if i_<i then(kf ((List.range i).map (fun j_=>qE (x.getD j_ ie) d))) i_ j_ else(E.mc (ig [(Iv.mk (kB (iI ((x.getD i ie).lo) (iF d))) (kB (iI ((x.getD i ie).hi) d)) false)])) (i_-i) j_)) (.row true 41 (i+1) 7 (kf ((List.range (i+1)).map (fun j_=>qE (x.getD j_ ie) d)))))]<|.nil)) ah)
  (fun hi=>by
    obtain⟨w1,w2⟩:=(hx N ae).1.ki;exact iB (chain [tT 29 ((N:Int)<(x.length:Int)) ae,iX ((N:Int)) (x.length) ae,.c (DU _ _ af af:gU 156 [(gY ((x.getD N ie).lo)),(gY d)] _),.c (DS ((x.getD N ie).hi) d af af),tB 47 (by simpa using hN:((mJ (iI ((x.getD N ie).lo) (iF d))) != 0)=true)]<|.nil) ah) ak:ju 5 Tryz.f114 (PD x d N 0) .ret ⟨60,true,[(5,.e (iP 9)),(4,.e (.v (.slice none 0 0)))],[]⟩) .nil]<|.nil) ah 
theorem aac(x:List Iv)(d:Dy)(x1:1<=x.length)(x8:x.length<=8)(hx:oO x)(hd:d.ia)(h0:¬d.iJ<0)(N:Nat)(mG:N<x.length)(iH:∀ i,i<N->uV (x.getD i ie) d=true)(hM:mJ (iI (x.getD N ie).lo (iF d))=0)(hN:mJ (iI (x.getD N ie).hi d)≠0):gU 114 [(ig x),(gY d)] (.iw [.v (.slice none 0 0),iP 9]):=by
 exact tr true Tryz.call114 Tryz.func114 (chain [.c (DX x ae ae af),.c (qp _ af:gU 68 [(gY d)] _),.c (nU _ af:gU 35 [(gY d)] _),tB 24 (aT h0),.y 6 6 true 41 7 (kf ((List.range 0).map (fun j_=>qE (x.getD j_ ie) d))),.s (Sp.jx (PE x d N) 0 N ae (fun i hi pL=>by
    obtain⟨w1,w2⟩:=(hx i ae).1.ki;obtain⟨g1,g2⟩:=Lp (iH i ae);have tX:=tD (Iv.mk (kB (iI (x.getD i ie).lo (iF d))) (kB (iI (x.getD i ie).hi d)) false);exact iB (chain [tT 29 ((i:Int)<(x.length:Int)) ae,iX ((i:Int)) (x.length) ae,.c (DU _ _ af af:gU 156 [(gY ((x.getD i ie).lo)),(gY d)] _),.c (DS ((x.getD i ie).hi) d af af),tB 47 (by rw[g1];rfl:((mJ (iI ((x.getD i ie).lo) (iF d))) != 0)=false),tB 50 (by rw[g2];rfl:((mJ (iI ((x.getD i ie).hi) d)) != 0)=false),.o 56 (.e (mC _):PV.le (.e (.sl true 1 7 fun i_ j_=>(iZ (Iv.mk (kB (iI ((x.getD i ie).lo) (iF d))) (kB (iI ((x.getD i ie).hi) d)) false)).getD (i_*7+j_) (.v (.bool false)))) (.e (ig [(Iv.mk (kB (iI ((x.getD i ie).lo) (iF d))) (kB (iI ((x.getD i ie).hi) d)) false)]))),.a (ae:(i+[(Iv.mk (kB (iI ((x.getD i ie).lo) (iF d))) (kB (iI ((x.getD i ie).hi) d)) false)].length)*88<=140737488355328),iq ((i:Int)+1) ae]<|.e (chain [.b 6 (yG rfl rfl rfl:Bx.le (.row true 41 (i+[(Iv.mk (kB (iI ((x.getD i ie).lo) (iF d))) (kB (iI ((x.getD i ie).hi) d)) false)].length) 7 (fun i_ j_=>if i_<i then(kf ((List.range i).map (fun j_=>qE (x.getD j_ ie) d))) i_ j_ else(E.mc (ig [(Iv.mk (kB (iI ((x.getD i ie).lo) (iF d))) (kB (iI ((x.getD i ie).hi) d)) false)])) (i_-i) j_)) (.row true 41 (i+1) 7 (kf ((List.range (i+1)).map (fun j_=>qE (x.getD j_ ie) d)))))]<|.nil)) ah)
  (fun hi=>by
    obtain⟨w1,w2⟩:=(hx N ae).1.ki;exact iB (chain [tT 29 ((N:Int)<(x.length:Int)) ae,iX ((N:Int)) (x.length) ae,.c (DU _ _ af af:gU 156 [(gY ((x.getD N ie).lo)),(gY d)] _),.c (DS ((x.getD N ie).hi) d af af),tB 47 (by rw[hM];rfl:((mJ (iI ((x.getD N ie).lo) (iF d))) != 0)=false),tB 50 (by simpa using hN:((mJ (iI ((x.getD N ie).hi) d)) != 0)=true)]<|.nil) ah) ak:ju 5 Tryz.f114 (PE x d N 0) .ret ⟨60,true,[(5,.e (iP 9)),(4,.e (.v (.slice none 0 0)))],[]⟩) .nil]<|.nil) ah 
def Ej(x:List Iv)(d:Dy):Int:=if sM x d then 0 else 9
theorem aad(x:List Iv)(d:Dy)(x1:1<=x.length)(x8:x.length<=8)(hx:oO x)(hd:d.ia)(h0:¬d.iJ<0):gU 114 [ig x,gY d] (.iw [ig (qZ x d),iP (Ej x d)]):=by
 unfold qZ Ej;cases hg:sM x d with
 |true=>
  rw[aR rfl,aR rfl];exact aae x d x1 x8 hx hd h0 fun i hi=>bH.1 hg i (bJ.2 hi)
 |false=>
  rw[aQ ag,aQ ag];obtain⟨i,hi,hb⟩:=List.all_eq_false.1 hg;obtain⟨N,h1,h2,h3⟩:=qI (p:=fun i=>!(uV (x.getD i ie) d)) ⟨i,bJ.1 hi,by simpa using hb⟩;have iH:∀ i,i<N->uV (x.getD i ie) d=true:=fun i hi=>by simpa using h3 i hi
  have h2:uV (x.getD N ie) d=false:=by simpa using h2
  have key:gU 114 [ig x,gY d] (.iw [.v (.slice none 0 0),iP 9]):=by
   by_cases hM:mJ (iI (x.getD N ie).lo (iF d))=0
   .exact aac x d x1 x8 hx hd h0 N h1 iH hM fun q=>by
     unfold uV at h2;rw[hM,q]at h2;exact absurd h2 ag 
   .exact aab x d x1 x8 hx hd h0 N h1 iH hM
  exact key.jV (.iw (.cons (.nil _ _ _) (.cons (.refl _) .nil)))
end Go.Proofs.YtdgnpeddgdclhaaGreatDoor
namespace Go.Proofs.YtdgnpeddgdclhaaGreatDoor.Pu
open Go.RowKit
theorem WI{bs br:Nat->Prop}{w:World}{xs:List Value}{a:Value}(h:iG bs br w (.agg (xs.map E.v)) a):a = .agg xs.toArray:=by
 generalize he:E.agg (xs.map E.v)=e at h;cases h with
 |agg l vs hl k=>
  cases he;rw[cS]at hl;have:vs=xs:=eU fun i=>by
   cases hx:xs[i]? with
   |none=>rw[List.getElem?_eq_none_iff]at hx ⊢;omega
   |some x=>
    obtain⟨v,hv⟩:∃ v,vs[i]? = some v:=by
     have hi:i<xs.length:=(bU.1 hx).1;exact⟨vs[i]'(ae),bd ae⟩
    rw[hv,iG.kK (k i (.v x) v (by rw[cj,hx];rfl) hv)]
  rw[this]
 |_=>cases he
theorem No{P:Program}{t:TypeId}{m D D':Nat}(hm:m<=10000)(hk:P.keyTypeAt m t=true)(hg:P.eqGuardType P.depth t=false){xs ys:List Value}{la lb:List Lit}
 (hx:P.keyLits D t xs=some la) (hy:P.keyLits D' t ys=some lb) (fx:(Value.agg xs.toArray).formed P t=true) (fy:(Value.agg ys.toArray).formed P t=true) {c:Bool} (hc:c=true↔la=lb):
 pD P .eql t (.agg (xs.map E.v)) (.agg (ys.map E.v)) (.bool c):=by
 intro bs br w a b ox oy ha hb;obtain rfl:=WI ha;obtain rfl:=WI hb;constructor
 .simp only[eqGuard,eP,bq,a6,Sem.run_bind,run_program,Result.andThen_ok,hg,dH,bk,Sem.run_pure]
 .obtain ⟨r,hr,aer⟩:=run_equalIn_deep (10000-m) m t hk w _ _ _ _ la lb fx fy (by simpa[Value.cells]using hx) (by simpa[Value.cells]using hy)
  rw[show 10000-m+m=10000 by omega]at hr;have e:r=c:=by rw[cQ,aer,hc]
  subst e;have:(Op.equal t (.agg xs.toArray) (.agg ys.toArray)).run P w = .ok r w:=hr;simp only[binOp,Sem.run_bind,this,Result.andThen_ok,Sem.run_pure]
end Go.Proofs.YtdgnpeddgdclhaaGreatDoor.Pu
namespace Go.Proofs.YtdgnpeddgdclhaaGreatDoor
open Go.RowKit Fp Pu
theorem Vo{t:TypeId}{m:Nat}(hm:m<=10000)(hk:Tryz.prog.keyTypeAt m t=true)(hg:Tryz.prog.eqGuardType Tryz.prog.depth t=false){xs:List Value}(hx:(Tryz.prog.keyLits 10 t xs).isSome=true)
 (fx:(Value.agg xs.toArray).formed Tryz.prog t=true):pD Tryz.prog .eql t (.agg (xs.map E.v)) (.agg (xs.map E.v)) (.bool true):=by
 obtain⟨l,hl⟩:=fX.1 hx;exact No hm hk hg hl hl fx fx aj 
theorem I7{a b c d e f:Int}(h:a=0/\b=0/\c=0/\d=0/\e=0/\f=0):
 pD Tryz.prog .eql 99 (.agg [iP a,iP b,iP c,iP d,iP e,iP f]) (.agg [iP 0,iP 0,iP 0,iP 0,iP 0,iP 0]) (.bool true):=by
 obtain⟨rfl,rfl,rfl,rfl,rfl,rfl⟩:=h;exact Vo (m:=10) (xs:=[.int .i64 0,.int .i64 0,.int .i64 0,.int .i64 0,.int .i64 0,.int .i64 0]) ag ah ah ah ah 
theorem Nn{a b:Int}(h:a=0/\b=0):pD Tryz.prog .eql 97 (.agg [iP a,iP b]) (.agg [iP 0,iP 0]) (.bool true):=by
 obtain⟨rfl,rfl⟩:=h;exact Vo (m:=10) (xs:=[.int .i64 0,.int .i64 0]) ag ah ah ah ah 
theorem Ag{d:Nat}{n:Int}(h:ku .i64 n):Tryz.prog.keyLits (d+1) 3 [.int .i64 n]=some [.int .i64 n]:=by
 have hw:(Lit.int .i64 n).wf=true:=by
  unfold ku at h;simp[Lit.wf,IntKind.min,IntKind.max,IntKind.signed,IntKind.bits];omega
 unfold Program.keyLits;rw[Tryz.underlying3];simp[hw]
theorem Wf{a b:Int}(ha:ku .i64 a)(hb:ku .i64 b):Tryz.prog.keyLits 10 97 [.int .i64 a,.int .i64 b]=some [.int .i64 a,.int .i64 b]:=by
 have c1:Tryz.prog.cellsOf 97=2:= ah ;have c2:Tryz.prog.cellsOf 3=1:= ah ;unfold Program.keyLits;rw[Tryz.underlying97];simp[c1,c2,eZ,Ag ha,Ag hb]
theorem Vn{a b:Int}{r:Bool}(ha:ku .i64 a)(hb:ku .i64 b)(h:decide (a=0/\b=0)=r):pD Tryz.prog .eql 97 (.agg [iP a,iP b]) (.agg [iP 0,iP 0]) (.bool r):=
 No (m:=10) (xs:=[.int .i64 a,.int .i64 b]) (ys:=[.int .i64 0,.int .i64 0]) ag ah ah (Wf ha hb) (Wf aI aI) ah ah (by subst h;simp)
theorem ahe{a b c d e f a' b' c' d' e' f':Int}{r:Bool}(hx:Tryz.prog.keyLits 10 99 [.int .i64 a,.int .i64 b,.int .i64 c,.int .i64 d,.int .i64 e,.int .i64 f]=some [.int .i64 a,.int .i64 b,.int .i64 c,.int .i64 d,.int .i64 e,.int .i64 f])(hy:Tryz.prog.keyLits 10 99 [.int .i64 a',.int .i64 b',.int .i64 c',.int .i64 d',.int .i64 e',.int .i64 f']=some [.int .i64 a',.int .i64 b',.int .i64 c',.int .i64 d',.int .i64 e',.int .i64 f'])
 (fx:(Value.agg (List.toArray [.int .i64 a,.int .i64 b,.int .i64 c,.int .i64 d,.int .i64 e,.int .i64 f])).formed Tryz.prog 99=true) (fy:(Value.agg (List.toArray [.int .i64 a',.int .i64 b',.int .i64 c',.int .i64 d',.int .i64 e',.int .i64 f'])).formed Tryz.prog 99=true) (h:decide (a=a'/\b=b'/\c=c'/\d=d'/\e=e'/\f=f')=r):
 pD Tryz.prog .eql 99 (.agg [iP a,iP b,iP c,iP d,iP e,iP f]) (.agg [iP a',iP b',iP c',iP d',iP e',iP f']) (.bool r):=
 No (m:=10) (xs:=[.int .i64 a,.int .i64 b,.int .i64 c,.int .i64 d,.int .i64 e,.int .i64 f]) (ys:=[.int .i64 a',.int .i64 b',.int .i64 c',.int .i64 d',.int .i64 e',.int .i64 f']) ag ah ah hx hy fx fy (by subst h;simp)
open Go.RowKit Fp Pu
theorem ajW{P:Program}(w:World)(t tx ty e:TypeId)(i:TypeInfo)(z:Value)(ht:P.underlying t=some (.slice e))(hx:P.underlying tx=some (.int .i64))(hi:P.info? e=some i)(hz:i.zero=some z)
 (xm:i.size≠0) (n:Nat) (h0:0<n) (xZ:n<=1000000) (R4:n*i.bytes<=281474976710656):
 (Builtin.append_ #[t,tx] ty #[.slice none 0 0,.int .i64 (n:Int)]).run P w =
  .ok (.slice (some ⟨w.heap.size,0,none⟩) n (grownCap w n 0 e)) (w.drew.alloc (.cells (Builtin.zeroCells z.cells n++Builtin.zeroCells z.cells (grownCap w n 0 e-n)) e)):=by
 have hn:n≠0:= ae ;have hns:n*i.size≠0:=dr hn xm;have ad8:¬(9223372036854775807<(n:Int)):= ae ;have ad6:¬(281474976710656<Builtin.nextslicecap n 0*i.bytes):=by rw[nextslicecap_zero h0];omega
 have hw:IntKind.i64.wrap (n:Int)=n:=i64_in _ ae ae;have EA:¬((n:Int)<0):= ae ;have ad7:¬(281474976710656<(n:Int)*(i.bytes:Int)):=by
  have:(n:Int)*(i.bytes:Int)=((n*i.bytes:Nat):Int):= aj ;rw[this];omega
 simp[Builtin.append_,run_underlying ht,run_underlying hx,sizeOf,typeInfo,zeroValue,hi,hz,asInt,asIntOf,hw,EA,ad7,hn,hns,ad8,ad6,Question.forced,run_firstCells_none,newRow,grownCap]
theorem alZ{P:Program}{w:World}{gW:Array Oper}{rest:List Oper}{o:Oper}{a:Act}{Q:Exit->Act->World->Prop}(Be:o.guard=none)(s x:Operand)(t tx:TypeId)
 (ho:o.op = .call { callee:=.builtin .append,args:=#[s,x],argTypes:=#[t,tx] })
 (e:TypeId) (i:TypeInfo) (z:Value) (ht:P.underlying t=some (.slice e)) (hx:P.underlying tx=some (.int .i64)) (hi:P.info? e=some i) (hz:i.zero=some z)
 (xm:i.size≠0) (n:Nat) (h0:0<n) (xZ:n<=1000000) (R4:n*i.bytes<=281474976710656) (hs:a.eval s = .slice none 0 0) (hxx:a.eval x = .int .i64 (n:Int))
 (h:wpList P gW Q rest (a.put o.dst (.slice (some ⟨w.heap.size,0,none⟩) n (grownCap w n 0 e))) (w.drew.alloc (.cells (Builtin.zeroCells z.cells n++Builtin.zeroCells z.cells (grownCap w n 0 e-n)) e))):wpList P gW Q (o::rest) a w:=by
 refine wpList_plain Be fun K hK=>?_
 have lJ:=ajW (P:=P) w t tx o.type e i z ht hx hi hz xm n h0 xZ R4;unfold Oper.wp;simp[execOp,ho,resolve,invoke,builtin,hs,hxx,lJ,Result.andThen];exact hK _ _ h
theorem YV(w:World)(o:Obj):Below w.heap.size w (w.alloc o).drew:=⟨rfl,rfl,rfl,by rw[show(w.alloc o).drew.heap=w.heap.push o from rfl,Array.size_push];omega,fun x hx=>Below.heap_alloc w _ x hx⟩
theorem YW(w:World)(o:Obj):w.heap.size<(w.alloc o).drew.heap.size:=by rw[show(w.alloc o).drew.heap=w.heap.push o from rfl,Array.size_push];omega
theorem afm:(Tryz.prog.info? 41).map (fun i=>(i.zero,i.size,i.bytes))=some (some (.agg #[.bool false,.slice none 0 0,.int .i64 0,.bool false,.slice none 0 0,.int .i64 0,.bool false]),7,88):= ah 
theorem Yw(n:Nat):∀ u,u ∈ Builtin.zeroCells (Value.cells (.agg #[.bool false,.slice none 0 0,.int .i64 0,.bool false,.slice none 0 0,.int .i64 0,.bool false])) n->sj u=false:=by
 intro u hu;simp only[Builtin.zeroCells,fD,fE]at hu;obtain⟨q,hq,rfl⟩:=hu;have hc:Value.cells (.agg #[.bool false,.slice none 0 0,.int .i64 0,.bool false,.slice none 0 0,.int .i64 0,.bool false]) = #[.bool false,.slice none 0 0,.int .i64 0,.bool false,.slice none 0 0,.int .i64 0,.bool false]:=rfl;rw[hc]at hq ⊢;have hs:(#[Value.bool false,.slice none 0 0,.int .i64 0,.bool false,.slice none 0 0,.int .i64 0,.bool false]:Array Value).size=7:=rfl;rw[hs];have h7:q%7<7:=bg _ ag;generalize q%7=k at h7;rcases k with _|_|_|_|_|_|_|k
 all_goals first|rfl|omega
set_option maxRecDepth 100000 in
theorem ad0(n:Nat)(hn:n<=1000000):uH Tryz.prog Tb 175 [.v (.slice none 0 0),iP (n:Int)] true 41 0 7 (kf []):=by
 refine⟨Tryz.call175,fun w B vs hK hB hr=>?_⟩;obtain⟨v1,vs,rfl,h1,hr⟩:=hr.lY;obtain⟨v2,vs,rfl,h2,hr⟩:=hr.lY;obtain rfl:=hr.qh;obtain rfl:=iG.kK h1;obtain rfl:=iG.kK h2;show Calls _ _ #[.slice none 0 0,.int .i64 (n:Int)] w _;clear h1 h2 hr hB hK;by_cases h0:n=0
 .subst h0
  go_enter Tryz.func175,Tryz.ntmps175;go_wp2;go_ret;exact⟨_,rfl,Below.refl _ _,fun _ _=>undef,.inl ⟨rfl,rfl⟩,fun x hx=>by simp[Value.ownBlock]at hx,fun i j hi=>absurd hi (bj _)⟩
 .obtain ⟨i,hi,hz,h1,h2⟩:=info_parts afm
  have hw:IntKind.i64.wrap ((n:Int)-0)=n:=i64_in _ ae ae;have IB:IntKind.i64.wrap (n:Int)=n:=i64_in _ ae ae;have e2:decide ((n:Int)<0)=false:=aT ae;have e3:decide ((0:Int)<(n:Int))=true:=aS ae;have CJ:n<=grownCap w n 0 41:=grownCap_ge w n 0 _;go_enter Tryz.func175,Tryz.ntmps175;go_wp2_with (at_builtin;go_must (refine alZ ai _ _ _ _ ai _ i _ Tryz.underlying26 Tryz.underlying3 hi hz ae n ae ae (by rw[h2];omega) ai ai ?_))
  go_ret;have hz7:(#[Value.bool false,.slice none 0 0,.int .i64 0,.bool false,.slice none 0 0,.int .i64 0,.bool false]:Array Value).size=7:=rfl;refine⟨_,rfl,YV w _,fun _ _=>undef,.inr ⟨w.heap.size,grownCap w n 0 41,_,rfl,heap_alloc_new w _,bL _,grownCap_le_maxLen w n 0 _ (by unfold maxLen;omega),?_,fun i j hi=>absurd hi (bj _),fun _ u hu=>?_⟩,fun x hx=>?_,fun i j hi=>absurd hi (bj _)⟩
  .simp only[gO,size_zeroCells,hz7,<-bK]
   congr 1;omega
  .rcases eW.1 hu with hu|hu
   .exact Yw _ u hu
   .exact Yw _ u hu
  .simp [Value.ownBlock]at hx
   subst hx;exact⟨aU _,YW w _⟩
open Go.RowKit Fp Pu
abbrev Gm(f:FuncId)(args:List E)(nl:Bool)(T:TypeId)(n sz:Nat)(el:Nat->Nat->E):Prop:=uH Tryz.prog Tb f args nl T n sz el
theorem trn{f:FuncId}{fn:Func}{args:List E}{nl:Bool}{T0:TypeId}{n sz:Nat}{el:Nat->Nat->E}(wb:∀ (vs:Array Value) (w:World),(callFunc f vs).run Tryz.prog w = .ok (.enter f vs) w)
 (hf:Tryz.prog.funcs[f]? = some fn) (t:Tr Tryz.prog Tb) (h:NQ TT fn args (.row nl T0 n sz el) t=t.ex fun _=>.a (Bx.le (.row nl T0 n sz el) (.row nl T0 n sz el)) .nil):Gm f args nl T0 n sz el:=
 uH.OD J6 mixed O6 wb hf t h
open Go.RowKit Fp Pu
def XS(t:pg)(x:Nat):PS:=⟨46,true,[(28,.e (iP x)),(27,.e (iP t.gW.length)),(26,.e (nY t.gW)),(1,.box 1 0)],[(1,.cells 25 [(iP t.im),(nY t.gW),(nX t.ij)])]⟩
def XL(s:lj)(x:Nat):PS:=⟨85,true,[(31,.e (iP x)),(30,.e (iP s.tape.gW.length)),(29,.e (nY s.tape.gW)),(3,.box 3 0),(1,.box 1 0)],[(3,.cells 25 [(iP s.tape.im),(nY s.tape.gW),(nX s.tape.ij)]),(1,.cells 28 [(iP s.tape.im),(nY s.tape.gW),(nX s.tape.ij),(iP s.iz),(ig s.params)])]⟩
noncomputable def XR(t:pg)(xs:List Iv)(p:Nat)(x:Nat):PS:=⟨75,true,[(26,.e (iP x)),(25,.e (iP t.gW.length)),(24,.e (nY t.gW)),(7,.own 22),(2,.e (iP p))],[(22,.row true 41 ((iS t.gW xs p x).length) 7 (kf (iS t.gW xs p x)))]⟩
theorem Vs(k:Nat)(h1:3<=k)(h2:k<=6):gU 209 [(iP k)] (iP 2):=by
 exact tr true Tryz.call209 Tryz.func209 (chain [tB 5 (aJ ae:((k:Int)==1)=false)]<|.w ((k:Int)=3)
  (fun k1=>chain [tB 7 (aK k1)]<|.nil)
  (fun k1=>chain [tB 7 (aJ k1)]<|.w ((k:Int)=4)
   (fun k2=>chain [tB 8 (aK k2)]<|.nil)
   (fun k2=>chain [tB 8 (aJ k2)]<|.w ((k:Int)=5)
    (fun k3=>chain [tB 9 (aK k3)]<|.nil)
    (fun k3=>chain [tB 9 (aJ k3)]<|.w ((k:Int)=6)
     (fun k4=>chain [tB 10 (aK k4)]<|.nil)
     (fun k4=>.x ae))))) ah 
theorem Ns(k:Nat)(h1:7<=k)(h2:k<=13):gU 209 [(iP k)] (iP 1):=by
 exact tr true Tryz.call209 Tryz.func209 (chain [tB 5 (aJ ae:((k:Int)==1)=false),tB 7 (aJ ae:((k:Int)==3)=false),tB 8 (aJ ae:((k:Int)==4)=false),tB 9 (aJ ae:((k:Int)==5)=false),tB 10 (aJ ae:((k:Int)==6)=false)]<|.w ((k:Int)=7)
  (fun k1=>chain [tB 12 (aK k1)]<|.nil)
  (fun k1=>chain [tB 12 (aJ k1)]<|.w ((k:Int)=8)
   (fun k2=>chain [tB 13 (aK k2)]<|.nil)
   (fun k2=>chain [tB 13 (aJ k2)]<|.w ((k:Int)=9)
    (fun k3=>chain [tB 14 (aK k3)]<|.nil)
    (fun k3=>chain [tB 14 (aJ k3)]<|.w ((k:Int)=10)
     (fun k4=>chain [tB 15 (aK k4)]<|.nil)
     (fun k4=>chain [tB 15 (aJ k4)]<|.w ((k:Int)=11)
      (fun k5=>chain [tB 16 (aK k5)]<|.nil)
      (fun k5=>chain [tB 16 (aJ k5)]<|.w ((k:Int)=12)
       (fun k6=>chain [tB 17 (aK k6)]<|.nil)
       (fun k6=>chain [tB 17 (aJ k6)]<|.w ((k:Int)=13)
        (fun k7=>chain [tB 18 (aK k7)]<|.nil)
        (fun k7=>.x ae)))))))) ah 
theorem Vr(k:Nat)(h1:k=1):gU 209 [(iP k)] (iP 0):=by
 exact tr true Tryz.call209 Tryz.func209 (chain [tB 5 (aK ae:((k:Int)==1)=true)]<|.nil) ah 
theorem ahf{a b:Int}(h:lL a b=true):pD Tryz.prog .eql 97 (.agg [iP a,iP b]) (.agg [iP 0,iP 0]) (.bool false):=by
 obtain⟨h1,h2,h3,h4⟩:=FI h;exact Vn aI aI (aT ae)
theorem nn.Kl{o:mX}{m:Nat}(h:nn o m)(oh:o.kind≠1)(hk:o.kind<=6):3<=o.kind/\o.a<m/\o.b<m/\o.n=0/\o.cn=0/\o.cd=0:=by
 have h3:=h.k3.resolve_left oh;have ha:=h.a;have hb:=h.b;have hn:=h.n;have hc:=h.c;rw[aQ oh]at ha hc;rw[aR ⟨h3,hk⟩]at hb;rw[aQ ae]at hn;exact⟨h3,ha,hb,hn,hc.1,hc.2⟩
theorem nn.pow{o:mX}{m:Nat}(h:nn o m)(hk:o.kind=8):o.a<m/\o.b=0/\o.n<=16/\o.cn=0/\o.cd=0:=by
 have ha:=h.a;have hb:=h.b;have hn:=h.n;have hc:=h.c;rw[aQ ae]at ha hb hc;rw[aR hk]at hn;exact⟨ha,hb,hn,hc.1,hc.2⟩
theorem nn.un{o:mX}{m:Nat}(h:nn o m)(hk:¬o.kind<=6)(tS:o.kind≠8):o.kind<=13/\o.a<m/\o.b=0/\o.n=0/\o.cn=0/\o.cd=0:=by
 have ha:=h.a;have hb:=h.b;have hn:=h.n;have hc:=h.c;rw[aQ ae]at ha hb hc;rw[aQ tS]at hn;exact⟨h.C5,ha,hb,hn,hc.1,hc.2⟩
theorem nn.num{o:mX}{m:Nat}(h:nn o m)(hk:o.kind=1):o.a=0/\o.b=0/\o.n=0/\lL o.cn o.cd=true:=by
 have ha:=h.a;have hb:=h.b;have hn:=h.n;have hc:=h.c;rw[aR hk]at ha hc;rw[aQ ae]at hb hn;exact⟨ha,hb,hn,hc⟩
theorem nn.O7{o:mX}{m:Nat}(h:nn o m)(hk:o.kind≠1):o.a<m:=by
 have ha:=h.a;rwa[aQ hk]at ha
theorem ahH(o:mX)(m:Nat)(h:nn o m)(hk:o.kind=1):gU 234 [(vo o),(iP m)] (bP true):=by
 obtain⟨h2,h3,h4,sf⟩:=h.num hk;exact tr true Tryz.call234 Tryz.func234 (chain [.c (Vr o.kind ae),tB 14 (ag:(decide ((0:Int)<0))=false),tB 17 (ag:((0:Int)==0)=true),.c (Ji o.cn o.cd),tB 20 (sf:(lL o.cn o.cd)=true),tB 26 (aJ ae:((o.kind:Int)==8)=false),tB 37 (ag:(decide ((0:Int)<0))=false),tB 49 (ag:(decide ((1:Int)<0))=false),.g (I7 ⟨ae,ae,ae,ae,ae,ae⟩:pD Tryz.prog .eql 99 (.agg [(iP 0),(iP o.a),(iP o.b),(iP o.n),(iP 0),(iP 0)]) (.agg [(iP 0),(iP 0),(iP 0),(iP 0),(iP 0),(iP 0)]) (.bool true))]<|.nil) ah 
theorem ahG(o:mX)(m:Nat)(h:nn o m)(oh:o.kind≠1)(hk:o.kind<=6):gU 234 [(vo o),(iP m)] (bP true):=by
 obtain⟨h1,h2,h3,h4,h5,h6⟩:=h.Kl oh hk;exact tr true Tryz.call234 Tryz.func234 (chain [.c (Vs o.kind ae ae),tB 14 (ag:(decide ((2:Int)<0))=false),tB 17 (ag:((2:Int)==0)=false),tB 26 (aJ ae:((o.kind:Int)==8)=false),tB 37 (ag:(decide ((0:Int)<2))=true),tF 40 ((o.a:Int)<0) ae,tF 45 ((m:Int)<=(o.a:Int)) ae,tB 49 (ag:(decide ((1:Int)<2))=true),tF 52 ((o.b:Int)<0) ae,tF 57 ((m:Int)<=(o.b:Int)) ae,.g (I7 ⟨ae,ae,ae,ae,ae,ae⟩:pD Tryz.prog .eql 99 (.agg [(iP 0),(iP 0),(iP 0),(iP o.n),(iP o.cn),(iP o.cd)]) (.agg [(iP 0),(iP 0),(iP 0),(iP 0),(iP 0),(iP 0)]) (.bool true))]<|.nil) ah 
theorem ahJ(o:mX)(m:Nat)(h:nn o m)(hk:o.kind=8):gU 234 [(vo o),(iP m)] (bP true):=by
 obtain⟨h2,h3,h4,h5,h6⟩:=h.pow hk;exact tr true Tryz.call234 Tryz.func234 (chain [.c (Ns o.kind ae ae),tB 14 (ag:(decide ((1:Int)<0))=false),tB 17 (ag:((1:Int)==0)=false),tB 26 (aK ae:((o.kind:Int)==8)=true),tF 29 ((o.n:Int)<0) ae,tF 33 (16<(o.n:Int)) ae,tB 37 (ag:(decide ((0:Int)<1))=true),tF 40 ((o.a:Int)<0) ae,tF 45 ((m:Int)<=(o.a:Int)) ae,tB 49 (ag:(decide ((1:Int)<1))=false),.g (I7 ⟨ae,ae,ae,ae,ae,ae⟩:pD Tryz.prog .eql 99 (.agg [(iP 0),(iP 0),(iP o.b),(iP 0),(iP o.cn),(iP o.cd)]) (.agg [(iP 0),(iP 0),(iP 0),(iP 0),(iP 0),(iP 0)]) (.bool true))]<|.nil) ah 
theorem ahK(o:mX)(m:Nat)(h:nn o m)(hk:¬o.kind<=6)(tS:o.kind≠8):gU 234 [(vo o),(iP m)] (bP true):=by
 obtain⟨h1,h2,h3,h4,h5,h6⟩:=h.un hk tS;exact tr true Tryz.call234 Tryz.func234 (chain [.c (Ns o.kind ae ae),tB 14 (ag:(decide ((1:Int)<0))=false),tB 17 (ag:((1:Int)==0)=false),tB 26 (aJ ae:((o.kind:Int)==8)=false),tB 37 (ag:(decide ((0:Int)<1))=true),tF 40 ((o.a:Int)<0) ae,tF 45 ((m:Int)<=(o.a:Int)) ae,tB 49 (ag:(decide ((1:Int)<1))=false),.g (I7 ⟨ae,ae,ae,ae,ae,ae⟩:pD Tryz.prog .eql 99 (.agg [(iP 0),(iP 0),(iP o.b),(iP o.n),(iP o.cn),(iP o.cd)]) (.agg [(iP 0),(iP 0),(iP 0),(iP 0),(iP 0),(iP 0)]) (.bool true))]<|.nil) ah 
theorem akR(o:mX)(m:Nat)(h:nn o m)(hk:o.kind=1):gU 133 [(vo o),(iP m)] (bP true):=by
 obtain⟨h2,h3,h4,sf⟩:=h.num hk;exact tr true Tryz.call133 Tryz.func133 (chain [tF 8 ((o.a:Int)<0) ae,tF 12 ((o.b:Int)<0) ae,.g (ahf sf:pD Tryz.prog .eql 97 (.agg [(iP o.cn),(iP o.cd)]) (.agg [(iP 0),(iP 0)]) (.bool false)),tB 21 (aK ae:((o.kind:Int)==1)=true),.c (Ji o.cn o.cd),tB 24 (sf:(lL o.cn o.cd)=true),tB 28 (aK ae:((o.a:Int)==0)=true),tB 33 (aK ae:((o.b:Int)==0)=true),tB 38 (aK ae:((o.n:Int)==0)=true)]<|.nil) ah 
theorem akQ(o:mX)(m:Nat)(h:nn o m)(oh:o.kind≠1)(hk:o.kind<=6):gU 133 [(vo o),(iP m)] (bP true):=by
 obtain⟨h1,h2,h3,h4,h5,h6⟩:=h.Kl oh hk;exact tr true Tryz.call133 Tryz.func133 (chain [tF 8 ((o.a:Int)<0) ae,tF 12 ((o.b:Int)<0) ae,.g (Nn ⟨ae,ae⟩:pD Tryz.prog .eql 97 (.agg [(iP o.cn),(iP o.cd)]) (.agg [(iP 0),(iP 0)]) (.bool true)),tB 21 (aJ ae:((o.kind:Int)==1)=false)]<|.w ((o.kind:Int)=3)
  (fun k1=>chain [tB 41 (aK k1),tT 50 ((o.a:Int)<(m:Int)) ae,tT 56 ((o.b:Int)<(m:Int)) ae,tB 61 (aK ae:((o.n:Int)==0)=true)]<|.nil)
  (fun k1=>chain [tB 41 (aJ k1)]<|.w ((o.kind:Int)=4)
   (fun k2=>chain [tB 42 (aK k2),tT 50 ((o.a:Int)<(m:Int)) ae,tT 56 ((o.b:Int)<(m:Int)) ae,tB 61 (aK ae:((o.n:Int)==0)=true)]<|.nil)
   (fun k2=>chain [tB 42 (aJ k2)]<|.w ((o.kind:Int)=5)
    (fun k3=>chain [tB 43 (aK k3),tT 50 ((o.a:Int)<(m:Int)) ae,tT 56 ((o.b:Int)<(m:Int)) ae,tB 61 (aK ae:((o.n:Int)==0)=true)]<|.nil)
    (fun k3=>chain [tB 43 (aJ k3)]<|.w ((o.kind:Int)=6)
     (fun k4=>chain [tB 44 (aK k4),tT 50 ((o.a:Int)<(m:Int)) ae,tT 56 ((o.b:Int)<(m:Int)) ae,tB 61 (aK ae:((o.n:Int)==0)=true)]<|.nil)
     (fun k4=>.x ae))))) ah 
theorem akT(o:mX)(m:Nat)(h:nn o m)(hk:o.kind=8):gU 133 [(vo o),(iP m)] (bP true):=by
 obtain⟨h2,h3,h4,h5,h6⟩:=h.pow hk;exact tr true Tryz.call133 Tryz.func133 (chain [tF 8 ((o.a:Int)<0) ae,tF 12 ((o.b:Int)<0) ae,.g (Nn ⟨ae,ae⟩:pD Tryz.prog .eql 97 (.agg [(iP o.cn),(iP o.cd)]) (.agg [(iP 0),(iP 0)]) (.bool true)),tB 21 (aJ ae:((o.kind:Int)==1)=false),tB 41 (aJ ae:((o.kind:Int)==3)=false),tB 42 (aJ ae:((o.kind:Int)==4)=false),tB 43 (aJ ae:((o.kind:Int)==5)=false),tB 44 (aJ ae:((o.kind:Int)==6)=false),tB 64 (aK ae:((o.kind:Int)==8)=true),tT 70 ((o.a:Int)<(m:Int)) ae,tB 75 (aK ae:((o.b:Int)==0)=true),tT 80 (0<=(o.n:Int)) ae,tT 85 ((o.n:Int)<=16) ae]<|.nil) ah 
theorem akU(o:mX)(m:Nat)(h:nn o m)(hk:¬o.kind<=6)(tS:o.kind≠8):gU 133 [(vo o),(iP m)] (bP true):=by
 obtain⟨h1,h2,h3,h4,h5,h6⟩:=h.un hk tS;exact tr true Tryz.call133 Tryz.func133 (chain [tF 8 ((o.a:Int)<0) ae,tF 12 ((o.b:Int)<0) ae,.g (Nn ⟨ae,ae⟩:pD Tryz.prog .eql 97 (.agg [(iP o.cn),(iP o.cd)]) (.agg [(iP 0),(iP 0)]) (.bool true)),tB 21 (aJ ae:((o.kind:Int)==1)=false),tB 41 (aJ ae:((o.kind:Int)==3)=false),tB 42 (aJ ae:((o.kind:Int)==4)=false),tB 43 (aJ ae:((o.kind:Int)==5)=false),tB 44 (aJ ae:((o.kind:Int)==6)=false),tB 64 (aJ ae:((o.kind:Int)==8)=false)]<|.w ((o.kind:Int)=7)
  (fun k1=>chain [tB 88 (aK k1),tT 99 ((o.a:Int)<(m:Int)) ae,tB 104 (aK ae:((o.b:Int)==0)=true),tB 109 (aK ae:((o.n:Int)==0)=true)]<|.nil)
  (fun k1=>chain [tB 88 (aJ k1)]<|.w ((o.kind:Int)=9)
   (fun k2=>chain [tB 89 (aK k2),tT 99 ((o.a:Int)<(m:Int)) ae,tB 104 (aK ae:((o.b:Int)==0)=true),tB 109 (aK ae:((o.n:Int)==0)=true)]<|.nil)
   (fun k2=>chain [tB 89 (aJ k2)]<|.w ((o.kind:Int)=10)
    (fun k3=>chain [tB 90 (aK k3),tT 99 ((o.a:Int)<(m:Int)) ae,tB 104 (aK ae:((o.b:Int)==0)=true),tB 109 (aK ae:((o.n:Int)==0)=true)]<|.nil)
    (fun k3=>chain [tB 90 (aJ k3)]<|.w ((o.kind:Int)=11)
     (fun k4=>chain [tB 91 (aK k4),tT 99 ((o.a:Int)<(m:Int)) ae,tB 104 (aK ae:((o.b:Int)==0)=true),tB 109 (aK ae:((o.n:Int)==0)=true)]<|.nil)
     (fun k4=>chain [tB 91 (aJ k4)]<|.w ((o.kind:Int)=12)
      (fun k5=>chain [tB 92 (aK k5),tT 99 ((o.a:Int)<(m:Int)) ae,tB 104 (aK ae:((o.b:Int)==0)=true),tB 109 (aK ae:((o.n:Int)==0)=true)]<|.nil)
      (fun k5=>chain [tB 92 (aJ k5)]<|.w ((o.kind:Int)=13)
       (fun k6=>chain [tB 93 (aK k6),tT 99 ((o.a:Int)<(m:Int)) ae,tB 104 (aK ae:((o.b:Int)==0)=true),tB 109 (aK ae:((o.n:Int)==0)=true)]<|.nil)
       (fun k6=>.x ae))))))) ah 
theorem ahI(o:mX)(m:Nat)(h:nn o m):gU 234 [vo o,iP (m:Int)] (bP true):=by
 by_cases oh:o.kind=1
 .exact ahH o m h oh
 by_cases hk:o.kind<=6
 .exact ahG o m h oh hk
 .by_cases tS:o.kind=8
  .exact ahJ o m h tS
  .exact ahK o m h hk tS
theorem akS(o:mX)(m:Nat)(h:nn o m):gU 133 [vo o,iP (m:Int)] (bP true):=by
 by_cases oh:o.kind=1
 .exact akR o m h oh
 by_cases hk:o.kind<=6
 .exact akQ o m h oh hk
 .by_cases tS:o.kind=8
  .exact akT o m h tS
  .exact akU o m h hk tS
theorem alb(t:pg)(k:Nat)(hk:k<t.im+t.gW.length)(h8:t.im<=8)(ad5:t.gW.length<=200):gU 235 [(iP k),(.kv 3 fun j_=>[(iP t.im),(nY t.gW),(nX t.ij)].getD j_ .any)] (bP false):=by
 exact tr true Tryz.call235 Tryz.func235 (chain [tF 5 ((k:Int)<0) ae,iq ((t.im:Int)+(t.gW.length:Int)) ae,tF 14 ((((t.im+t.gW.length):Nat):Int)<=(k:Int)) ae]<|.nil) ah 
theorem XT(t:pg)(h:zj t):gU 207 [(y4 t)] (bP true):=by
 have h8:=h.im;have Bl:=h.gW;have mT:=h.ij;exact tr true Tryz.call207 Tryz.func207 (chain [tF 7 ((t.im:Int)<0) ae,tF 11 (8<(t.im:Int)) ae,tF 17 (200<(t.gW.length:Int)) ae,tF 23 (200<(t.ij.length:Int)) ae,.s (Sp.jx (XS t) 0 t.gW.length ae (fun x hx ke=>by
    have iE:=h.op x ae;exact iB (chain [tT 29 ((x:Int)<(t.gW.length:Int)) ae,iX ((x:Int)) (t.gW.length) ae,iq ((t.im:Int)+(x:Int)) ae,.c (ahI _ _ iE:gU 234 [(vo (t.gW.getD x iT)),(iP (((t.im+x):Nat):Int))] _),iq ((x:Int)+1) ae]<|.nil) ah)
  (fun hx=>by
    exact iB (chain [tF 29 ((t.gW.length:Int)<(t.gW.length:Int)) ae]<|.nil) ah) ak:ju 4 Tryz.f207 (XS t 0) (.exit 0) ⟨46,true,[(1,.box 1 0)],[(1,.cells 25 [(iP t.im),(nY t.gW),(nX t.ij)])]⟩) .nil,.c (MB true _ _ 235 [(.kv 3 fun j_=>[(iP t.im),(nY t.gW),(nX t.ij)].getD j_ .any)] (fun _=>false) (fun i hi=>alb t _ (h.out i hi) h8 Bl) ae (fun _ _=>rfl):gU 134 [(nX t.ij),(.fn 235 [(.kv 3 fun j_=>[(iP t.im),(nY t.gW),(nX t.ij)].getD j_ .any)])] _)]<|.nil) ah 
theorem akW(t:pg)(k:Nat)(hk:k<t.im+t.gW.length)(h8:t.im<=8)(ad5:t.gW.length<=200):gU 135 [(iP k),(.kv 3 fun j_=>[(iP t.im),(nY t.gW),(nX t.ij)].getD j_ .any)] (bP false):=by
 exact tr true Tryz.call135 Tryz.func135 (chain [tF 5 ((k:Int)<0) ae,iq ((t.im:Int)+(t.gW.length:Int)) ae,tF 14 ((((t.im+t.gW.length):Nat):Int)<=(k:Int)) ae]<|.nil) ah 
theorem akY(x:Iv)(hx:x.ia)(xa:x.all=false):gU 136 [(gZ x)] (bP false):=by
 obtain⟨w1,w2,w3⟩:=oX hx xa;exact tr true Tryz.call136 Tryz.func136 (chain [tB 4 (xa:x.all=false),.c (qp _ af:gU 68 [(gY x.lo)] _),.c (qp _ af:gU 68 [(gY x.hi)] _),.c (nT _ _ af af:gU 37 [(gY x.lo),(gY x.hi)] _),tF 23 (0<(jo x.lo x.hi)) ae]<|.nil) ah 
theorem Oy(s:lj)(h:mz s):gU 82 [(iM s)] (bP true):=by
 have h8:=h.tape.im;have Bl:=h.tape.gW;have mT:=h.tape.ij;have s1:=h.s1;have s4:=h.s4;have ho:=h.ij;have hi:=h.im;have p4:=h.p4;exact tr true Tryz.call82 Tryz.func82 (chain [tF 10 ((s.tape.im:Int)<0) ae,tF 14 (8<(s.tape.im:Int)) ae,tF 20 (200<(s.tape.gW.length:Int)) ae,tF 26 (200<(s.tape.ij.length:Int)) ae,.s (Sp.jx (XL s) 0 s.tape.gW.length ae (fun x hx ke=>by
    have iE:=h.tape.op x ae;exact iB (chain [tT 32 ((x:Int)<(s.tape.gW.length:Int)) ae,iX ((x:Int)) (s.tape.gW.length) ae,iq ((s.tape.im:Int)+(x:Int)) ae,.c (akS _ _ iE:gU 133 [(vo (s.tape.gW.getD x iT)),(iP (((s.tape.im+x):Nat):Int))] _),iq ((x:Int)+1) ae]<|.nil) ah)
  (fun hx=>by
    exact iB (chain [tF 32 ((s.tape.gW.length:Int)<(s.tape.gW.length:Int)) ae]<|.nil) ah) ak:ju 5 Tryz.f82 (XL s 0) (.exit 0) ⟨85,true,[(3,.box 3 0),(1,.box 1 0)],[(3,.cells 25 [(iP s.tape.im),(nY s.tape.gW),(nX s.tape.ij)]),(1,.cells 28 [(iP s.tape.im),(nY s.tape.gW),(nX s.tape.ij),(iP s.iz),(ig s.params)])]⟩) .nil,.c (MB true _ _ 135 [(.kv 3 fun j_=>[(iP s.tape.im),(nY s.tape.gW),(nX s.tape.ij)].getD j_ .any)] (fun _=>false) (fun i hi=>akW s.tape _ (h.tape.out i hi) h8 Bl) ae (fun _ _=>rfl):gU 134 [(nX s.tape.ij),(.fn 135 [(.kv 3 fun j_=>[(iP s.tape.im),(nY s.tape.gW),(nX s.tape.ij)].getD j_ .any)])] _),tF 50 ((s.iz:Int)<1) ae,tF 54 (4<(s.iz:Int)) ae,tB 62 (BI ae:((s.tape.ij.length:Int) != (s.iz:Int))=false),
  iq ((s.iz:Int)+(s.params.length:Int)) ae,tB 73 (BI ae:((s.tape.im:Int) != (((s.iz+s.params.length):Nat):Int))=false),tF 79 (4<(s.params.length:Int)) ae,.c (BC true _ _ 136 [] (fun _=>false) (fun i hi=>akY _ (h.params i hi).1 (h.params i hi).2) ae (fun _ _=>rfl):gU 17 [(ig s.params),(.fn 136 [])] _)]<|.nil) ah 
theorem Pn(o:mX)(x y:Iv)(p:Nat)(hx:x.ia)(hy:y.ia)(r1:3<=o.kind)(r2:o.kind<=13)(r3:o.n<=16)(il:8<=p)(ic:p<=512):gU 211 [(iP o.kind),(iP o.n),(gZ x),(gZ y),(iP p)] (gZ (kG o x y p)):=by
 exact tr true Tryz.call211 Tryz.func211 (.w ((o.kind:Int)=3)
  (fun k1=>chain [tB 13 (aK k1),.c (C2 x y p af af ae ae)]<|rQ (gZ (jk x y p)) (gZ (kG o x y p)) (by unfold kG;simp[show o.kind=3 from ae]))
  (fun k1=>chain [tB 13 (aJ k1)]<|.w ((o.kind:Int)=4)
   (fun k2=>chain [tB 19 (aK k2),.c (afI x y p af af ae ae)]<|rQ (gZ (FV x y p)) (gZ (kG o x y p)) (by unfold kG;simp[show ¬o.kind=3 from ae,show o.kind=4 from ae]))
   (fun k2=>chain [tB 19 (aJ k2)]<|.w ((o.kind:Int)=5)
    (fun k3=>chain [tB 25 (aK k3),.c (ET x y p af af ae ae)]<|rQ (gZ (iQ x y p)) (gZ (kG o x y p)) (by unfold kG;simp[show ¬o.kind=3 from ae,show ¬o.kind=4 from ae,show o.kind=5 from ae]))
    (fun k3=>chain [tB 25 (aJ k3)]<|.w ((o.kind:Int)=6)
     (fun k4=>chain [tB 31 (aK k4),.c (T2 x y p af af ae ae)]<|rQ (gZ (jS x y p)) (gZ (kG o x y p)) (by unfold kG;simp[show ¬o.kind=3 from ae,show ¬o.kind=4 from ae,show ¬o.kind=5 from ae,show o.kind=6 from ae]))
     (fun k4=>chain [tB 31 (aJ k4)]<|.w ((o.kind:Int)=7)
      (fun k5=>chain [tB 37 (aK k5),.c (T7 x af)]<|rQ (gZ (qJ x)) (gZ (kG o x y p)) (by unfold kG;simp[show ¬o.kind=3 from ae,show ¬o.kind=4 from ae,show ¬o.kind=5 from ae,show ¬o.kind=6 from ae,show o.kind=7 from ae]))
      (fun k5=>chain [tB 37 (aJ k5)]<|.w ((o.kind:Int)=8)
       (fun k6=>chain [tB 41 (aK k6),.c (ZH _ _ _ af ae ae ae:gU 241 [(gZ x),(iP o.n),(iP p)] _)]<|rQ (gZ (mi x o.n p)) (gZ (kG o x y p)) (by unfold kG;simp[show ¬o.kind=3 from ae,show ¬o.kind=4 from ae,show ¬o.kind=5 from ae,show ¬o.kind=6 from ae,show ¬o.kind=7 from ae,show o.kind=8 from ae]))
       (fun k6=>chain [tB 41 (aJ k6)]<|.w ((o.kind:Int)=9)
        (fun k7=>chain [tB 47 (aK k7),.c (acR _ af _ ae ae:gU 242 [(gZ x),(iP p)] _)]<|rQ (gZ (Cu x p)) (gZ (kG o x y p)) (by unfold kG;simp[show ¬o.kind=3 from ae,show ¬o.kind=4 from ae,show ¬o.kind=5 from ae,show ¬o.kind=6 from ae,show ¬o.kind=7 from ae,show ¬o.kind=8 from ae,show o.kind=9 from ae]))
        (fun k7=>chain [tB 47 (aJ k7)]<|.w ((o.kind:Int)=10)
         (fun k8=>chain [tB 52 (aK k8),.c (acT _ af _ ae ae:gU 243 [(gZ x),(iP p)] _)]<|rQ (gZ (Cv x p)) (gZ (kG o x y p)) (by unfold kG;simp[show ¬o.kind=3 from ae,show ¬o.kind=4 from ae,show ¬o.kind=5 from ae,show ¬o.kind=6 from ae,show ¬o.kind=7 from ae,show ¬o.kind=8 from ae,show ¬o.kind=9 from ae,show o.kind=10 from ae]))
         (fun k8=>chain [tB 52 (aJ k8)]<|.w ((o.kind:Int)=11)
          (fun k9=>chain [tB 57 (aK k9),.c (acV _ af _ ae ae:gU 244 [(gZ x),(iP p)] _)]<|rQ (gZ (Cw x p)) (gZ (kG o x y p)) (by unfold kG;simp[show ¬o.kind=3 from ae,show ¬o.kind=4 from ae,show ¬o.kind=5 from ae,show ¬o.kind=6 from ae,show ¬o.kind=7 from ae,show ¬o.kind=8 from ae,show ¬o.kind=9 from ae,show ¬o.kind=10 from ae,show o.kind=11 from ae]))
          (fun k9=>chain [tB 57 (aJ k9)]<|.w ((o.kind:Int)=12)
           (fun k10=>chain [tB 62 (aK k10),.c (acP _ af _ ae ae:gU 245 [(gZ x),(iP p)] _)]<|rQ (gZ (Ct x p)) (gZ (kG o x y p)) (by unfold kG;simp[show ¬o.kind=3 from ae,show ¬o.kind=4 from ae,show ¬o.kind=5 from ae,show ¬o.kind=6 from ae,show ¬o.kind=7 from ae,show ¬o.kind=8 from ae,show ¬o.kind=9 from ae,show ¬o.kind=10 from ae,show ¬o.kind=11 from ae,show o.kind=12 from ae]))
           (fun k10=>chain [tB 62 (aJ k10)]<|.w ((o.kind:Int)=13)
            (fun k11=>chain [tB 67 (aK k11),.c (acX _ af _ ae ae:gU 246 [(gZ x),(iP p)] _)]<|rQ (gZ (Cx x p)) (gZ (kG o x y p)) (by unfold kG;simp[show ¬o.kind=3 from ae,show ¬o.kind=4 from ae,show ¬o.kind=5 from ae,show ¬o.kind=6 from ae,show ¬o.kind=7 from ae,show ¬o.kind=8 from ae,show ¬o.kind=9 from ae,show ¬o.kind=10 from ae,show ¬o.kind=11 from ae,show ¬o.kind=12 from ae,show o.kind=13 from ae]))
            (fun k11=>.x ae)))))))))))) ah 
theorem P7{nl:Bool}{T n n' sz:Nat}{f g h:Nat->Nat->E}(hn:n=n')(hh:∀ i j,i<n->j<sz->g i j=h i j/\(h i j).nr 2=true):Bx.le (.row nl T (0+n) sz fun i j=>if i<0 then f i j else g (i-0) j) (.row nl T n' sz h):=
 .row ae fun i j hi hj=>by
  have oM:i<n:= ae ;simp only[bj,a6,dh];exact⟨.iU (hh i j oM hj).1,(hh i j oM hj).2⟩
theorem Za(r:List Iv)(h0:0<r.length)(hl:r.length<=1000):Gm 28 [ig r] true 41 r.length 7 (kf r):=by
 exact trn Tryz.call28 Tryz.func28 (chain [.a (ae:0<r.length),.bo,.a (ae:(0+r.length)*88<=140737488355328)]<|.rb (P7 rfl fun i j hi hj=>⟨rfl,C3 _ _ hj⟩:Bx.le (.row true 41 (0+r.length) 7 (fun i_ j_=>if i_<0 then(fun i_ j_=>([]:List E).getD (i_*7+j_) (.v (.bool false))) i_ j_ else(E.mc (ig r)) (i_-0) j_)) (.row true 41 r.length 7 (kf r)))) ah 
theorem F6{T n n' x:Nat}{t:pg}{xs:List Iv}{p:Nat}{y:Iv}(hn:n=(iS t.gW xs p x).length)(wk:n'=(iS t.gW xs p (x+1)).length)(hy:sE (t.gW.getD x iT) (iS t.gW xs p x) p=y):
 Bx.le (.row true T (n+[y].length) 7 fun i j=>if i<n then kf (iS t.gW xs p x) i j else(E.mc (ig [y])) (i-n) j) (.row true T n' 7 (kf (iS t.gW xs p (x+1)))):=by
 subst wk hy;exact afR hn
theorem Vq{o:mX}{m:Nat}(h:nn o m):o.n<=16:=by
 have:=h.n;split at this<;>omega
theorem ak9(t:pg)(xs:List Iv)(p:Nat)(h:zj t)(h1:1<=xs.length)(hx:xs.length=t.im)(hv:pV xs)(il:8<=p)(ic:p<=512):gU 173 [(y4 t),(ig xs),(iP p)] (ig (iS t.gW xs p t.gW.length)):=by
 have h8:=h.im;have Bl:=h.gW;exact tr true Tryz.call173 Tryz.func173 (chain [.c (XT t af),tB 19 (BI hx:((xs.length:Int) != (t.im:Int))=false),.cn (Za _ ae ae:Gm 28 [(ig xs)] true 41 xs.length 7 (kf xs)),.s (Sp.jx (XR t xs p) 0 t.gW.length ae (fun x hx ke=>by
    have iE:=h.op x ae;have ud:=F7 t.gW hv (show 1<=p by omega) (show p<=4096 by omega) x;have L9:=F5 t.gW xs p x;have w1:=ud ((t.gW.getD x iT)).a;by_cases oh:((t.gW.getD x iT)).kind=1
    .have q7:((t.gW.getD x iT)).kind=1:=oh
     obtain⟨o1,o2,o3,sf⟩:=iE.num q7;have wA:sE (t.gW.getD x iT) (iS t.gW xs p x) p=(nI (t.gW.getD x iT).cn (t.gW.getD x iT).cd p):=by unfold sE;rw[aR q7]
     have tX:=tD (nI (t.gW.getD x iT).cn (t.gW.getD x iT).cd p);exact iB (chain [tT 27 ((x:Int)<(t.gW.length:Int)) ae,iX ((x:Int)) (t.gW.length) ae,.c (Vr ((t.gW.getD x iT).kind:Nat) ae),tB 50 (ag:((0:Int)==0)=true),.c (aiJ ((t.gW.getD x iT).cn) ((t.gW.getD x iT).cd) p af ae ae),.o 71 (.e (mC _):PV.le (.e (.sl true 1 7 fun i_ j_=>(iZ (nI ((t.gW.getD x iT).cn) ((t.gW.getD x iT).cd) p)).getD (i_*7+j_) (.v (.bool false)))) (.e (ig [(nI ((t.gW.getD x iT).cn) ((t.gW.getD x iT).cd) p)]))),.a (ae:((iS t.gW xs p x).length+[(nI ((t.gW.getD x iT).cn) ((t.gW.getD x iT).cd) p)].length)*88<=140737488355328),iq ((x:Int)+1) ae]<|.e (chain [.b 22 (F6 rfl rfl wA:Bx.le (.row true 41 ((iS t.gW xs p x).length+[(nI ((t.gW.getD x iT).cn) ((t.gW.getD x iT).cd) p)].length) 7 (fun i_ j_=>if i_<(iS t.gW xs p x).length then(kf (iS t.gW xs p x)) i_ j_ else(E.mc (ig [(nI ((t.gW.getD x iT).cn) ((t.gW.getD x iT).cd) p)])) (i_-(iS t.gW xs p x).length) j_)) (.row true 41 ((iS t.gW xs p (x+1)).length) 7 (kf (iS t.gW xs p (x+1)))))]<|.nil)) ah 
    .by_cases hk:((t.gW.getD x iT)).kind<=6
     .have yl:((t.gW.getD x iT)).kind≠1:=oh
      have q7:((t.gW.getD x iT)).kind<=6:=hk;have wA:sE (t.gW.getD x iT) (iS t.gW xs p x) p=(kG (t.gW.getD x iT) ((iS t.gW xs p x).getD ((t.gW.getD x iT).a) ie) ((iS t.gW xs p x).getD ((t.gW.getD x iT).b) ie) p):=by unfold sE GB;rw[aQ yl,aS q7];rfl
      obtain⟨o1,o2,o3,o4,o5,o6⟩:=iE.Kl yl q7;have w2:=ud ((t.gW.getD x iT)).b;have o7:=iE.C5;have tX:=tD (kG (t.gW.getD x iT) ((iS t.gW xs p x).getD ((t.gW.getD x iT).a) ie) ((iS t.gW xs p x).getD ((t.gW.getD x iT).b) ie) p);exact iB (chain [tT 27 ((x:Int)<(t.gW.length:Int)) ae,iX ((x:Int)) (t.gW.length) ae,.c (Vs ((t.gW.getD x iT).kind:Nat) ae ae),tB 50 (ag:((2:Int)==0)=false),tB 56 (ag:((2:Int)==1)=false),iX (((t.gW.getD x iT).a:Int)) ((iS t.gW xs p x).length) ae,.a (ae:(t.gW.getD x iT).a<(iS t.gW xs p x).length),
       iX (((t.gW.getD x iT).b:Int)) ((iS t.gW xs p x).length) ae,.a (ae:(t.gW.getD x iT).b<(iS t.gW xs p x).length),.c (Pn (t.gW.getD x iT) _ _ _ af af ae ae ae ae ae:gU 211 [(iP ((t.gW.getD x iT).kind:Int)),(iP ((t.gW.getD x iT).n:Int)),(gZ ((iS t.gW xs p x).getD (t.gW.getD x iT).a ie)),(gZ ((iS t.gW xs p x).getD (t.gW.getD x iT).b ie)),(iP p)] _),.o 71 (.e (mC _):PV.le (.e (.sl true 1 7 fun i_ j_=>(iZ (kG (t.gW.getD x iT) ((iS t.gW xs p x).getD (t.gW.getD x iT).a ie) ((iS t.gW xs p x).getD (t.gW.getD x iT).b ie) p)).getD (i_*7+j_) (.v (.bool false)))) (.e (ig [(kG (t.gW.getD x iT) ((iS t.gW xs p x).getD (t.gW.getD x iT).a ie) ((iS t.gW xs p x).getD (t.gW.getD x iT).b ie) p)]))),.a (ae:((iS t.gW xs p x).length+[(kG (t.gW.getD x iT) ((iS t.gW xs p x).getD (t.gW.getD x iT).a ie) ((iS t.gW xs p x).getD (t.gW.getD x iT).b ie) p)].length)*88<=140737488355328),
       iq ((x:Int)+1) ae]<|.e (chain [.b 22 (F6 rfl rfl wA:Bx.le (.row true 41 ((iS t.gW xs p x).length+[(kG (t.gW.getD x iT) ((iS t.gW xs p x).getD (t.gW.getD x iT).a ie) ((iS t.gW xs p x).getD (t.gW.getD x iT).b ie) p)].length) 7 (fun i_ j_=>if i_<(iS t.gW xs p x).length then(kf (iS t.gW xs p x)) i_ j_ else(E.mc (ig [(kG (t.gW.getD x iT) ((iS t.gW xs p x).getD (t.gW.getD x iT).a ie) ((iS t.gW xs p x).getD (t.gW.getD x iT).b ie) p)])) (i_-(iS t.gW xs p x).length) j_)) (.row true 41 ((iS t.gW xs p (x+1)).length) 7 (kf (iS t.gW xs p (x+1)))))]<|.nil)) ah 
     .have yl:((t.gW.getD x iT)).kind≠1:=oh
      have q7:¬((t.gW.getD x iT)).kind<=6:=hk;have wA:sE (t.gW.getD x iT) (iS t.gW xs p x) p=(kG (t.gW.getD x iT) ((iS t.gW xs p x).getD ((t.gW.getD x iT).a) ie) ie p):=by unfold sE GB;rw[aQ yl,aT q7];rfl
      have w2:=mj;have o2:=iE.O7 yl;have o7:=iE.C5;have o8:=Vq iE;have tX:=tD (kG (t.gW.getD x iT) ((iS t.gW xs p x).getD ((t.gW.getD x iT).a) ie) ie p);exact iB (chain [tT 27 ((x:Int)<(t.gW.length:Int)) ae,iX ((x:Int)) (t.gW.length) ae,.c (Ns ((t.gW.getD x iT).kind:Nat) ae ae),tB 50 (ag:((1:Int)==0)=false),tB 56 (ag:((1:Int)==1)=true),iX (((t.gW.getD x iT).a:Int)) ((iS t.gW xs p x).length) ae,.a (ae:(t.gW.getD x iT).a<(iS t.gW xs p x).length),.o 66 (.e Ga:PV.le (.e (.agg [(bP false),(.v (.slice none 0 0)),(iP 0),(bP false),(.v (.slice none 0 0)),(iP 0),(bP true)])) (.e (gZ ie))),.c (Pn (t.gW.getD x iT) _ _ _ af af ae ae ae ae ae:gU 211 [(iP ((t.gW.getD x iT).kind:Int)),(iP ((t.gW.getD x iT).n:Int)),(gZ ((iS t.gW xs p x).getD (t.gW.getD x iT).a ie)),(gZ ie),(iP p)] _),.o 71 (.e (mC _):PV.le (.e (.sl true 1 7 fun i_ j_=>(iZ (kG (t.gW.getD x iT) ((iS t.gW xs p x).getD (t.gW.getD x iT).a ie) ie p)).getD (i_*7+j_) (.v (.bool false)))) (.e (ig [(kG (t.gW.getD x iT) ((iS t.gW xs p x).getD (t.gW.getD x iT).a ie) ie p)]))),.a (ae:((iS t.gW xs p x).length+[(kG (t.gW.getD x iT) ((iS t.gW xs p x).getD (t.gW.getD x iT).a ie) ie p)].length)*88<=140737488355328),iq ((x:Int)+1) ae]<|.e (chain [.b 22 (F6 rfl rfl wA:Bx.le (.row true 41 ((iS t.gW xs p x).length+[(kG (t.gW.getD x iT) ((iS t.gW xs p x).getD (t.gW.getD x iT).a ie) ie p)].length) 7 (fun i_ j_=>if i_<(iS t.gW xs p x).length then(kf (iS t.gW xs p x)) i_ j_ else(E.mc (ig [(kG (t.gW.getD x iT) ((iS t.gW xs p x).getD (t.gW.getD x iT).a ie) ie p)])) (i_-(iS t.gW xs p x).length) j_)) (.row true 41 ((iS t.gW xs p (x+1)).length) 7 (kf (iS t.gW xs p (x+1)))))]<|.nil)) ah)
  (fun hx=>by
    exact iB (chain [tF 27 ((t.gW.length:Int)<(t.gW.length:Int)) ae,.z 22]<|.e (chain [.o 7 (.e (Ah aj):PV.le (.e (.sl true ((iS t.gW xs p t.gW.length).length) 7 (kf (iS t.gW xs p t.gW.length)))) (.e (ig (iS t.gW xs p t.gW.length))))]<|.nil)) ah) ak:ju 5 Tryz.f173 (XR t xs p 0) (.exit 0) ⟨75,true,[(7,.e (ig (iS t.gW xs p t.gW.length)))],[]⟩) (chain [.b 22 (.iU rfl:Bx.le (.row true 41 xs.length 7 (kf xs)) (.row true 41 ((iS t.gW xs p 0).length) 7 (kf (iS t.gW xs p 0))))]<|.nil)]<|.nil) ah 
open Go.RowKit Fp Pu
def nR(m:List (List Iv)):Nat->List Iv
 | 0=>[]
 |k+1=>nR m k++m.getD k []
theorem KB(m:List (List Iv))(k:Nat):(nR m (k+1)).length=(nR m k).length+(m.getD k []).length:=by simp[nR]
theorem afQ{T n n':Nat}{xs r:List Iv}(hn:n=xs.length)(wk:n'=(xs++r).length):Bx.le (.row true T (n+r.length) 7 fun i j=>if i<n then kf xs i j else(E.mc (ig r)) (i-n) j) (.row true T n' 7 (kf (xs++r))):=by
 subst hn wk;refine .row aj fun i j hi hj=>⟨.iU ?_,C3 _ _ hj⟩
 by_cases h:i<xs.length
 .rw [aR h]
  show(iZ (xs.getD i ie)).getD j .any=(iZ ((xs++r).getD i ie)).getD j .any;congr 2;simp[aW,eo h]
 .rw [aQ h]
  show(iZ (r.getD (i-xs.length) ie)).getD j .any=(iZ ((xs++r).getD i ie)).getD j .any;congr 2;simp[aW,eV (show xs.length<=i by omega)]
theorem UG(a b:List Iv):E.le (.sl true 2 1 fun i j=>[ig a,ig b].getD (i*1+j) (.v (.bool false))) (qf [a,b]):=.sl fun i j hi hj=>by
 obtain rfl:j=0:= ae ;obtain rfl|rfl:i=0\/i=1:= ae 
 all_goals exact⟨.refl _,rfl⟩
theorem WS{n:Nat}:E.le (.sl true n 1 fun k _=>.sl true ((fun _=>0) k) 7 ((fun _ _ _=>.any) k)) (qf (List.replicate n [])):=by
 have h:qf (List.replicate n []) = .sl true n 1 fun i _=>ig ((List.replicate n []).getD i []):=by unfold qf;rw[List.length_replicate]
 rw[h];refine .sl fun i j hi hj=>⟨?_,rfl⟩
 have e:(List.replicate n ([]:List Iv)).getD i []=[]:=by simp[aW,hi]
 rw[e];exact .sl fun q _ hq _=>absurd hq (bj _)
def Qi(m:List (List Iv))(x:Nat):PS:=⟨36,true,[(11,.e (iP x)),(10,.e (iP m.length)),(9,.e (qf m)),(3,.e (iP ((nR m x).length:Int))),(0,.e (qf m))],[]⟩
def Qj(m:List (List Iv))(x:Nat):PS:=⟨36,true,[(27,.e (iP x)),(26,.e (iP m.length)),(25,.e (qf m)),(6,.own 24)],[(24,.row true 41 ((nR m x).length) 7 (kf (nR m x)))]⟩
noncomputable def RU(t:pg)(xs:List Iv)(p:Nat)(x:Nat):PS:=⟨91,true,[(43,.e (iP x)),(42,.e (iP 0)),(11,.own 41),(10,.e (ig (iS t.gW xs p t.gW.length))),(4,.box 4 0),(3,.e (iP p))],[(41,.qj true 26 41 t.ij.length 7 (fun _=>0) (fun _ _ _=>.any) .none),(4,.cells 25 [(iP t.im),(nY t.gW),(nX t.ij)])]⟩
noncomputable def RT(t:pg)(xs:List Iv)(p:Nat)(x:Nat):PS:=⟨91,true,[(16,.own 16),(77,.e (iP x)),(76,.e (iP t.ij.length)),(75,.e (nX t.ij)),(11,.own 41),(10,.e (ig (iS t.gW xs p t.gW.length)))],[(16,.row true 41 x 7 (kf ((List.range x).map (fun j_=>(iS t.gW xs p t.gW.length).getD (t.ij.getD j_ 0) ie)))),(41,.qj true 26 41 t.ij.length 7 (fun _=>0) (fun _ _ _=>.any) .none)]⟩
theorem aba(m:List (List Iv))(hl:m.length<=1000)(hb:∀ k,k<=m.length->(nR m k).length<=1000):gU 142 [(qf m)] (ig (nR m m.length)):=by
 have nE:=hb m.length (aU _);exact tr true Tryz.call142 Tryz.func142 (chain [.s (Sp.jx (Qi m) 0 m.length ae (fun x hx ke=>by
    have jc:=hb (x+1) ae;rw[KB]at jc;exact iB (chain [tT 12 ((x:Int)<(m.length:Int)) ae,iX ((x:Int)) (m.length) ae,iq (((nR m x).length:Int)+((m.getD x []).length:Int)) ae,tF 20 (((((nR m x).length+(m.getD x []).length):Nat):Int)<0) ae,iq ((x:Int)+1) ae]<|.e (chain [.o 3 (.int (by rw[KB]):PV.le (.e (iP ((((nR m x).length+(m.getD x []).length):Nat):Int))) (.e (iP ((nR m (x+1)).length:Int))))]<|.nil)) ah)
  (fun hx=>by
    exact iB (chain [tF 12 ((m.length:Int)<(m.length:Int)) ae]<|.nil) ah) ak:ju 3 Tryz.f142 (Qi m 0) (.exit 0) ⟨36,true,[(3,.e (iP ((nR m m.length).length:Int))),(0,.e (qf m))],[]⟩) (chain [.o 3 (.int rfl:PV.le (.e (iP 0)) (.e (iP ((nR m 0).length:Int))))]<|.nil),.cn (ad0 _ ae:Gm 175 [(.v (.slice none 0 0)),(iP ((nR m m.length).length:Int))] true 41 0 7 (kf [])),.s (Sp.jx (Qj m) 0 m.length ae (fun x hx ke=>by
    have jc:=hb (x+1) ae;rw[KB]at jc;exact iB (chain [tT 28 ((x:Int)<(m.length:Int)) ae,iX ((x:Int)) (m.length) ae,.a (ae:((nR m x).length+(m.getD x []).length)*88<=140737488355328),iq ((x:Int)+1) ae]<|.e (chain [.b 24 (afQ rfl rfl:Bx.le (.row true 41 ((nR m x).length+(m.getD x []).length) 7 (fun i_ j_=>if i_<(nR m x).length then(kf (nR m x)) i_ j_ else(E.mc (ig (m.getD x []))) (i_-(nR m x).length) j_)) (.row true 41 ((nR m (x+1)).length) 7 (kf (nR m (x+1)))))]<|.nil)) ah)
  (fun hx=>by
    exact iB (chain [tF 28 ((m.length:Int)<(m.length:Int)) ae,.z 24]<|.e (chain [.o 6 (.e (Ah aj):PV.le (.e (.sl true ((nR m m.length).length) 7 (kf (nR m m.length)))) (.e (ig (nR m m.length))))]<|.nil)) ah) ak:ju 11 Tryz.f142 (Qj m 0) (.exit 2) ⟨36,true,[(6,.e (ig (nR m m.length)))],[]⟩) (chain [.b 24 (.iU rfl:Bx.le (.row true 41 0 7 (kf [])) (.row true 41 ((nR m 0).length) 7 (kf (nR m 0))))]<|.nil)]<|.nil) ah 
theorem Qz(a b:List Iv)(ha:a.length<=400)(hb:b.length<=400):gU 142 [qf [a,b]] (ig (a++b)):=by
 have e1:nR [a,b] 1=a:=rfl;have e2:nR [a,b] 2=a++b:=rfl;have:=aba [a,b] aj fun k hk=>by
  have hk:k<=2:=hk;rcases k with _|_|_|k
  .exact bL _
  .rw [e1];omega
  .rw [e2,cg];omega
  .omega
 rwa[show[a,b].length=2 from rfl,e2]at this
theorem Li(p:Int):gU 140 [(iP p)] (bP (lp p)):=by
 exact tr true Tryz.call140 Tryz.func140 (.w (8<=p)
  (fun k1=>chain [tB 4 (aS k1)]<|rQ (bP (decide (p<=512))) (bP (lp p)) (by unfold lp;simp[k1]))
  (fun k1=>chain [tB 4 (aT k1)]<|rQ (bP false) (bP (lp p)) (by unfold lp;simp[k1]))) ah 
theorem adk(x:Iv)(hx:x.ia):gU 208 [(gZ x)] (bP false):=by
 exact tr true Tryz.call208 Tryz.func208 (chain [.c (qS x af)]<|.nil) ah 
theorem adl(t:pg)(xs:List Iv)(p:Nat)(h:zj t)(h1:1<=xs.length)(hx:xs.length=t.im)(hv:pV xs)(il:8<=p)(ic:p<=512):gU 172 [(y4 t),(ig xs),(iP p)] (bP true):=by
 have h8:=h.im;exact tr true Tryz.call172 Tryz.func172 (chain [.c (XT t af),tB 14 (IZ hx:((xs.length:Int)==(t.im:Int))=true),.c (Li _:gU 140 [(iP p)] _),tB 18 (o0.2 ⟨ae,ae⟩:(lp (p:Int))=true),.c (BC true _ _ 208 [] (fun _=>false) (fun i hi=>adk _ (hv i)) ae (fun _ _=>rfl):gU 17 [(ig xs),(.fn 208 [])] _)]<|.nil) ah 
theorem RB(t:pg)(xs:List Iv)(p:Nat):(List.range t.ij.length).map (fun j=>(iS t.gW xs p t.gW.length).getD (t.ij.getD j 0) ie)=jf t xs p:=by
 unfold jf;apply eU;intro i;rw[cj,cj];by_cases hi:i<t.ij.length
 .rw [bd (by simpa using hi),bd hi]
  simp[aW,hi]
 .rw [bV (by simpa using hi),bV ae]
  rfl
theorem RV(t:pg)(xs:List Iv)(p:Nat)(h:zj t)(h1:1<=xs.length)(hx:xs.length=t.im)(hv:pV xs)(il:8<=p)(ic:p<=512):gU 141 [(y4 t),(ig xs),(iP 0),(iP p)] (.iw [ig (jf t xs p),qf (List.replicate t.ij.length [])]):=by
 have h8:=h.im;have Bl:=h.gW;have mT:=h.ij;exact tr true Tryz.call141 Tryz.func141 (chain [.c (adl _ _ _ h h1 hx hv ae ae:gU 172 [(y4 t),(ig xs),(iP p)] _),tB 26 (ag:(decide ((0:Int)<0))=false),tF 32 ((t.im:Int)<0) ae,.c (ak9 t xs p h h1 hx hv ae ae),.a (ae:0<=((t.ij.length:Int):Int)/\((t.ij.length:Int):Int)<=((t.ij.length:Int):Int)),.a (ae:((24:Nat):Int)*(t.ij.length:Int)<=281474976710656/\((t.ij.length:Int):Int)<=9223372036854775807),.s (Sp.jx (RU t xs p) 0 0 ae (fun x hx ke=>by
    exact absurd ke (bj _))
  (fun hx=>by
    exact iB (chain [tB 44 (ag:(decide ((0:Int)<0))=false)]<|.nil) ah) ak:ju 6 Tryz.f141 (RU t xs p 0) (.exit 0) ⟨91,true,[(11,.own 41),(10,.e (ig (iS t.gW xs p t.gW.length))),(4,.box 4 0)],[(41,.qj true 26 41 t.ij.length 7 (fun _=>0) (fun _ _ _=>.any) .none),(4,.cells 25 [(iP t.im),(nY t.gW),(nX t.ij)])]⟩) .nil,.y 16 16 true 41 7 (kf ((List.range 0).map (fun j_=>(iS t.gW xs p t.gW.length).getD (t.ij.getD j_ 0) ie))),.s (Sp.jx (RT t xs p) 0 t.ij.length ae (fun x hx ke=>by
    have hot:=h.out x ae;have L9:=F5 t.gW xs p t.gW.length;have tX:=tD ((iS t.gW xs p t.gW.length).getD (t.ij.getD x 0) ie);exact iB (chain [tT 78 ((x:Int)<(t.ij.length:Int)) ae,iX ((x:Int)) (t.ij.length) ae,iX ((t.ij.getD x 0:Int)) ((iS t.gW xs p t.gW.length).length) ae,.o 86 (.e (mC _):PV.le (.e (.sl true 1 7 fun i_ j_=>(iZ ((iS t.gW xs p t.gW.length).getD (t.ij.getD x 0) ie)).getD (i_*7+j_) (.v (.bool false)))) (.e (ig [((iS t.gW xs p t.gW.length).getD (t.ij.getD x 0) ie)]))),.a (ae:(x+[((iS t.gW xs p t.gW.length).getD (t.ij.getD x 0) ie)].length)*88<=140737488355328),iq ((x:Int)+1) ae]<|.e (chain [.b 16 (yG rfl rfl rfl:Bx.le (.row true 41 (x+[((iS t.gW xs p t.gW.length).getD (t.ij.getD x 0) ie)].length) 7 (fun i_ j_=>if i_<x then(kf ((List.range x).map (fun j_=>(iS t.gW xs p t.gW.length).getD (t.ij.getD j_ 0) ie))) i_ j_ else(E.mc (ig [((iS t.gW xs p t.gW.length).getD (t.ij.getD x 0) ie)])) (i_-x) j_)) (.row true 41 (x+1) 7 (kf ((List.range (x+1)).map (fun j_=>(iS t.gW xs p t.gW.length).getD (t.ij.getD j_ 0) ie)))))]<|.nil)) ah)
  (fun hx=>by
    exact iB (chain [tF 78 ((t.ij.length:Int)<(t.ij.length:Int)) ae,.z 16]<|.e (chain [.o 16 (.e (Ah aj):PV.le (.e (.sl true t.ij.length 7 (kf ((List.range t.ij.length).map (fun j_=>(iS t.gW xs p t.gW.length).getD (t.ij.getD j_ 0) ie))))) (.e (ig ((List.range t.ij.length).map (fun j_=>(iS t.gW xs p t.gW.length).getD (t.ij.getD j_ 0) ie)))))]<|.nil)) ah) ak:ju 17 Tryz.f141 (RT t xs p 0) (.exit 4) ⟨91,true,[(16,.e (ig ((List.range t.ij.length).map (fun j_=>(iS t.gW xs p t.gW.length).getD (t.ij.getD j_ 0) ie)))),(11,.own 41)],[(41,.qj true 26 41 t.ij.length 7 (fun _=>0) (fun _ _ _=>.any) .none)]⟩) .nil]<|rR (.iw [ig (jf t xs p),qf (List.replicate t.ij.length [])]) (.iw (.cons (.iU (by rw[RB])) (.cons WS .nil)):E.le (.iw [(ig ((List.range t.ij.length).map (fun j_=>(iS t.gW xs p t.gW.length).getD (t.ij.getD j_ 0) ie))),(.sl true t.ij.length 1 fun k_ _=>.sl true ((fun _=>0) k_) 7 ((fun _ _ _=>.any) k_))]) (.iw [ig (jf t xs p),qf (List.replicate t.ij.length [])]))) ah 
theorem adg(x:Iv):gU 171 [(gZ x)] (bP x.all):=by
 exact tr true Tryz.call171 Tryz.func171 (.nil) ah 
theorem Eh(l:List Iv)(hl:l.length<=1000):gU 138 [(ig l)] (bP (nf l)):=by
 exact tr true Tryz.call138 Tryz.func138 (chain [.c (MJ true _ _ 171 [] (fun i=>(l.getD i ie).all) (fun i hi=>adg _) ae:gU 17 [(ig l),(.fn 171 [])] _)]<|.nil) ah 
theorem RQ(x:Iv)(hx:x.ia):gU 139 [(gZ x)] (bP false):=by
 exact tr true Tryz.call139 Tryz.func139 (chain [.c (qS x af)]<|.nil) ah 
theorem ajq(n:Nat)(hn:n<=1000):gU 143 [qf (List.replicate n []),.fn 138 []] (bP false):=by
 have e:∀ i,i<n->(List.replicate n ([]:List Iv)).getD i []=[]:=fun i hi=>by simp[aW,hi]
 refine ajJ true _ _ 138 [] (fun _=>false) (fun i hi=>?_) (by simpa using by omega) (fun _ _=>rfl);have oM:i<n:=by simpa using hi
 show gU 138 [ig ((List.replicate n []).getD i [])] _;rw[e i oM];exact Eh [] aj 
theorem Ve{l:List Iv}(h:oO l):nf l=false:=by
 unfold nf;rw[dX];intro i hi;rw[(h i (bJ.1 hi)).2];decide
theorem zz{s:lj}{b:List Iv}(h:mz s)(hb:ks s.iz b):zj s.tape/\1<=(b++s.params).length/\(b++s.params).length=s.tape.im/\pV (b++s.params):=by
 have h1:=h.s1;have h2:=h.im;have h3:=hb.len;refine⟨h.tape,?_,?_,hb.ok.OJ.append h.params.OJ⟩
 .rw [cg];omega
 .rw [cg];omega
theorem adh(s:lj)(b:List Iv)(p:Nat)(h:mz s)(hb:ks s.iz b)(il:8<=p)(ic:p<=512)(hn:nf (jf s.tape (b++s.params) p)=true):gU 85 [(iM s),(ig b),(iP 0),(iP p)] (.iw [.v (.slice none 0 0),.v (.slice none 0 0),iP 11]):=by
 have s4:=h.s4;have p4:=h.p4;have tk:=hb.len;have mT:=h.tape.ij;have Bi:=Ve hb.ok;have xi:=zJ s.tape (b++s.params) p;obtain⟨f1,f2,f3,f4⟩:=zz h hb;exact tr true Tryz.call85 Tryz.func85 (chain [.c (Oy s af),tB 21 (BI hb.len:((b.length:Int) != (s.iz:Int))=false),.c (Eh _ ae:gU 138 [(ig b)] _),tB 25 (Bi:(nf b)=false),.c (BC true _ _ 139 [] (fun _=>false) (fun i hi=>RQ _ (hb.ok i hi).1) ae (fun _ _=>rfl):gU 17 [(ig b),(.fn 139 [])] _),.c (Li _:gU 140 [(iP p)] _),tB 32 (o0.2 ⟨ae,ae⟩:(lp (p:Int))=true),.o 40 (.e (UG _ _):PV.le (.e (.sl true 2 1 fun i_ j_=>[(ig b),(ig s.params)].getD (i_*1+j_) (.v (.bool false)))) (.e (qf [b,s.params]))),.c (Qz b s.params ae ae:gU 142 [(qf [b,s.params])] _),.c (RV _ _ _ f1 f2 f3 f4 ae ae:gU 141 [(y4 s.tape),(ig (b++s.params)),(iP 0),(iP p)] _),.c (Eh _ ae:gU 138 [(ig (jf s.tape (b++s.params) p))] _),tB 48 (hn:(nf (jf s.tape (b++s.params) p))=true)]<|.nil) ah 
theorem adi(s:lj)(b:List Iv)(p:Nat)(h:mz s)(hb:ks s.iz b)(il:8<=p)(ic:p<=512)(hn:nf (jf s.tape (b++s.params) p)=false):gU 85 [(iM s),(ig b),(iP 0),(iP p)] (.iw [ig (jf s.tape (b++s.params) p),qf (List.replicate s.tape.ij.length []),iP 0]):=by
 have s4:=h.s4;have p4:=h.p4;have tk:=hb.len;have mT:=h.tape.ij;have Bi:=Ve hb.ok;have xi:=zJ s.tape (b++s.params) p;obtain⟨f1,f2,f3,f4⟩:=zz h hb;exact tr true Tryz.call85 Tryz.func85 (chain [.c (Oy s af),tB 21 (BI hb.len:((b.length:Int) != (s.iz:Int))=false),.c (Eh _ ae:gU 138 [(ig b)] _),tB 25 (Bi:(nf b)=false),.c (BC true _ _ 139 [] (fun _=>false) (fun i hi=>RQ _ (hb.ok i hi).1) ae (fun _ _=>rfl):gU 17 [(ig b),(.fn 139 [])] _),.c (Li _:gU 140 [(iP p)] _),tB 32 (o0.2 ⟨ae,ae⟩:(lp (p:Int))=true),.o 40 (.e (UG _ _):PV.le (.e (.sl true 2 1 fun i_ j_=>[(ig b),(ig s.params)].getD (i_*1+j_) (.v (.bool false)))) (.e (qf [b,s.params]))),.c (Qz b s.params ae ae:gU 142 [(qf [b,s.params])] _),.c (RV _ _ _ f1 f2 f3 f4 ae ae:gU 141 [(y4 s.tape),(ig (b++s.params)),(iP 0),(iP p)] _),.c (Eh _ ae:gU 138 [(ig (jf s.tape (b++s.params) p))] _),tB 48 (hn:(nf (jf s.tape (b++s.params) p))=false),.c (ajq _ ae:gU 143 [(qf (List.replicate s.tape.ij.length [])),(.fn 138 [])] _)]<|.nil) ah 
theorem adj(s:lj)(b:List Iv)(p:Nat)(h:mz s)(hb:ks s.iz b)(il:8<=p)(ic:p<=512)(hn:nf (jf s.tape (b++s.params) p)=true):gU 43 [(iM s),(ig b),(iP p)] (.iw [.v (.slice none 0 0),iP 11]):=by
 exact tr true Tryz.call43 Tryz.func43 (chain [.c (adh _ _ _ h hb il ic hn:gU 85 [(iM s),(ig b),(iP 0),(iP p)] _)]<|.nil) ah 
theorem RR(s:lj)(b:List Iv)(p:Nat)(h:mz s)(hb:ks s.iz b)(il:8<=p)(ic:p<=512)(hn:nf (jf s.tape (b++s.params) p)=false):gU 43 [(iM s),(ig b),(iP p)] (.iw [ig (jf s.tape (b++s.params) p),iP 0]):=by
 exact tr true Tryz.call43 Tryz.func43 (chain [.c (adi _ _ _ h hb il ic hn:gU 85 [(iM s),(ig b),(iP 0),(iP p)] _)]<|.nil) ah 
open Go.RowKit Fp Pu
noncomputable def TK(s:lj)(x:List Iv)(d:Dy)(b:List Iv)(p:Nat)(N:Nat)(i:Nat):PS:=⟨66,true,[(14,.own 14),(42,.e (iP i)),(41,.e (iP x.length)),(13,.box 13 0),(11,.e (ig (jf s.tape (b++s.params) p))),(1,.e (ig x)),(4,.e (iP p))],[(14,.row true 41 i 7 (kf ((List.range i).map (fun j_=>(jk (x.getD j_ ie) (iQ (jX d) ((jf s.tape (b++s.params) p).getD j_ ie) p) p))))),(13,.cells 41 ([(bP false),(.v (.slice none 0 0)),(iP 0)]++jq d++[(bP false)]))]⟩
noncomputable def TL(s:lj)(x:List Iv)(d:Dy)(b:List Iv)(p:Nat)(i:Nat):PS:=⟨66,true,[(14,.own 14),(42,.e (iP i)),(41,.e (iP x.length)),(13,.box 13 0),(11,.e (ig (jf s.tape (b++s.params) p))),(1,.e (ig x)),(4,.e (iP p))],[(14,.row true 41 i 7 (kf ((List.range i).map (fun j_=>(jk (x.getD j_ ie) (iQ (jX d) ((jf s.tape (b++s.params) p).getD j_ ie) p) p))))),(13,.cells 41 ([(bP false),(.v (.slice none 0 0)),(iP 0)]++jq d++[(bP false)]))]⟩
def Rb(s:lj)(x:List Iv)(d:Dy)(p:Nat)(N:Nat)(k:Nat):PS:=⟨55,true,[(22,.e (iP k)),(10,.s6 64 [(.box 5),(.box 4),(.box 6),(.box 7)]),(7,.box 7 0),(6,.box 6 0),(5,.box 5 0),(4,.box 4 0)],[(7,.cells 3 [(iP p)]),(6,.cells 31 (jq d)),(5,.cells 26 [(ig x)]),(4,.cells 28 [(iP s.tape.im),(nY s.tape.gW),(nX s.tape.ij),(iP s.iz),(ig s.params)])]⟩
theorem ZO(x:Iv)(hx:x.ia)(xa:x.all=false):gU 83 [(gZ x)] (bP false):=by
 exact tr true Tryz.call83 Tryz.func83 (chain [.c (qS x af),tB 8 (xa:x.all=false)]<|.nil) ah 
theorem GA(s:lj)(b:List Iv)(hb:ks s.iz b)(h4:s.iz<=4):gU 42 [(iM s),(ig b)] (bP true):=by
 have tk:=hb.len;exact tr true Tryz.call42 Tryz.func42 (chain [tB 9 (IZ hb.len:((b.length:Int)==(s.iz:Int))=true),.c (BC true _ _ 83 [] (fun _=>false) (fun i hi=>ZO _ (hb.ok i hi).1 (hb.ok i hi).2) ae (fun _ _=>rfl):gU 17 [(ig b),(.fn 83 [])] _)]<|.nil) ah 
theorem Hj(s:lj)(x:List Iv)(d:Dy)(p:Nat)(h:mz s)(hx:ks s.iz x)(hd:d.ia)(h0:0<d.iJ)(il:8<=p)(ic:p<=512):gU 41 [(iM s),(ig x),(gY d),(iP p)] (bP true):=by
 have s4:=h.s4;exact tr true Tryz.call41 Tryz.func41 (chain [.c (Oy s af),.c (GA _ _ hx ae:gU 42 [(iM s),(ig x)] _),.c (qp _ af:gU 68 [(gY d)] _),.c (nU _ af:gU 35 [(gY d)] _),tB 23 (aS h0),tT 27 (8<=(p:Int)) ae,tT 31 ((p:Int)<=512) ae]<|.nil) ah 
theorem afe(s:lj)(x:List Iv)(d:Dy)(b:List Iv)(p:Nat)(h:mz s)(hx:ks s.iz x)(hd:d.ia)(h0:0<d.iJ)(hb:ks s.iz b)(il:8<=p)(ic:p<=512)(hn:nf (jf s.tape (b++s.params) p)=true):gU 13 [(iM s),(ig x),(gY d),(ig b),(iP p)] (.v (.slice none 0 0)):=by
 have s4:=h.s4;exact tr true Tryz.call13 Tryz.func13 (chain [.c (Hj _ _ _ _ h hx hd h0 il ic:gU 41 [(iM s),(ig x),(gY d),(iP p)] _),.c (GA _ _ hb s4:gU 42 [(iM s),(ig b)] _),.c (adj s b p h hb il ic hn),tB 37 (ag:((11:Int) != 0)=true)]<|.nil) ah 
theorem DE(d:Dy):E.le (.agg ([bP false,.v (.slice none 0 0),iP 0]++jq d++[bP false])) (gZ (jX d)):=
 .agg (.cons (.refl _) (.cons Am (.cons (.refl _) (.cons (.refl _) (.cons (.refl _) (.cons (.refl _) (.cons (.refl _) .nil)))))))
theorem aff(s:lj)(x:List Iv)(d:Dy)(b:List Iv)(p:Nat)(h:mz s)(hx:ks s.iz x)(hd:d.ia)(h0:0<d.iJ)(hb:ks s.iz b)(il:8<=p)(ic:p<=512)(hn:nf (jf s.tape (b++s.params) p)=false)(N:Nat)(mG:N<x.length)(iH:∀ i,i<N->(jk (x.getD i ie) (iQ (jX d) ((jf s.tape (b++s.params) p).getD i ie) p) p).all=false)(hN:(jk (x.getD N ie) (iQ (jX d) ((jf s.tape (b++s.params) p).getD N ie) p) p).all=true):gU 13 [(iM s),(ig x),(gY d),(ig b),(iP p)] (.v (.slice none 0 0)):=by
 have s4:=h.s4;have rm:=hx.len;have mT:=h.ij;have xi:=zJ s.tape (b++s.params) p;obtain⟨f1,f2,f3,f4⟩:=zz h hb;have fv:=Hh s.tape f4 (show 1<=p by omega) (show p<=4096 by omega);have hq:0<d.q:=(re d).1.1 h0;have Mk:=JE hd (bB hq);exact tr true Tryz.call13 Tryz.func13 (chain [.c (Hj _ _ _ _ h hx hd h0 il ic:gU 41 [(iM s),(ig x),(gY d),(iP p)] _),.c (GA _ _ hb s4:gU 42 [(iM s),(ig b)] _),.c (RR s b p h hb il ic hn),tB 37 (ag:((0:Int) != 0)=false),.y 14 14 true 41 7 (kf ((List.range 0).map (fun j_=>(jk (x.getD j_ ie) (iQ (jX d) ((jf s.tape (b++s.params) p).getD j_ ie) p) p)))),.s (Sp.jx (TK s x d b p N) 0 N ae (fun i hi pL=>by
    have w1:=(hx.ok i ae).1;have w2:=fv i;have w3:=qU (jX d) ((jf s.tape (b++s.params) p).getD i ie) (show 1<=p by omega) (show p<=4096 by omega);have tX:=tD (jk (x.getD i ie) (iQ (jX d) ((jf s.tape (b++s.params) p).getD i ie) p) p);exact iB (chain [tT 43 ((i:Int)<(x.length:Int)) ae,iX ((i:Int)) (x.length) ae,.o 49 (.e (DE d):PV.le (.e (.agg ([(bP false),(.v (.slice none 0 0)),(iP 0)]++jq d++[(bP false)]))) (.e (gZ (jX d)))),iX ((i:Int)) ((jf s.tape (b++s.params) p).length) ae,.c (ET (jX d) ((jf s.tape (b++s.params) p).getD i ie) p af af ae ae),.c (C2 (x.getD i ie) (iQ (jX d) ((jf s.tape (b++s.params) p).getD i ie) p) p af af ae ae),tB 59 (iH i ae:(jk (x.getD i ie) (iQ (jX d) ((jf s.tape (b++s.params) p).getD i ie) p) p).all=false),.o 62 (.e (mC _):PV.le (.e (.sl true 1 7 fun i_ j_=>(iZ (jk (x.getD i ie) (iQ (jX d) ((jf s.tape (b++s.params) p).getD i ie) p) p)).getD (i_*7+j_) (.v (.bool false)))) (.e (ig [(jk (x.getD i ie) (iQ (jX d) ((jf s.tape (b++s.params) p).getD i ie) p) p)]))),.a (ae:(i+[(jk (x.getD i ie) (iQ (jX d) ((jf s.tape (b++s.params) p).getD i ie) p) p)].length)*88<=140737488355328),iq ((i:Int)+1) ae]<|.e (chain [.b 14 (yG rfl rfl rfl:Bx.le (.row true 41 (i+[(jk (x.getD i ie) (iQ (jX d) ((jf s.tape (b++s.params) p).getD i ie) p) p)].length) 7 (fun i_ j_=>if i_<i then(kf ((List.range i).map (fun j_=>(jk (x.getD j_ ie) (iQ (jX d) ((jf s.tape (b++s.params) p).getD j_ ie) p) p)))) i_ j_ else(E.mc (ig [(jk (x.getD i ie) (iQ (jX d) ((jf s.tape (b++s.params) p).getD i ie) p) p)])) (i_-i) j_)) (.row true 41 (i+1) 7 (kf ((List.range (i+1)).map (fun j_=>(jk (x.getD j_ ie) (iQ (jX d) ((jf s.tape (b++s.params) p).getD j_ ie) p) p))))))]<|.nil)) ah)
  (fun hi=>by
    have w1:=(hx.ok N ae).1;have w2:=fv N;have w3:=qU (jX d) ((jf s.tape (b++s.params) p).getD N ie) (show 1<=p by omega) (show p<=4096 by omega);exact iB (chain [tT 43 ((N:Int)<(x.length:Int)) ae,iX ((N:Int)) (x.length) ae,.o 49 (.e (DE d):PV.le (.e (.agg ([(bP false),(.v (.slice none 0 0)),(iP 0)]++jq d++[(bP false)]))) (.e (gZ (jX d)))),iX ((N:Int)) ((jf s.tape (b++s.params) p).length) ae,.c (ET (jX d) ((jf s.tape (b++s.params) p).getD N ie) p af af ae ae),.c (C2 (x.getD N ie) (iQ (jX d) ((jf s.tape (b++s.params) p).getD N ie) p) p af af ae ae),tB 59 (hN:(jk (x.getD N ie) (iQ (jX d) ((jf s.tape (b++s.params) p).getD N ie) p) p).all=true)]<|.nil) ah) ak:ju 9 Tryz.f13 (TK s x d b p N 0) .ret ⟨66,true,[(10,.e (.v (.slice none 0 0)))],[]⟩) .nil]<|.nil) ah 
theorem afg(s:lj)(x:List Iv)(d:Dy)(b:List Iv)(p:Nat)(h:mz s)(hx:ks s.iz x)(hd:d.ia)(h0:0<d.iJ)(hb:ks s.iz b)(il:8<=p)(ic:p<=512)(hn:nf (jf s.tape (b++s.params) p)=false)(iH:∀ i,i<x.length->(jk (x.getD i ie) (iQ (jX d) ((jf s.tape (b++s.params) p).getD i ie) p) p).all=false):gU 13 [(iM s),(ig x),(gY d),(ig b),(iP p)] (ig ((List.range x.length).map (fun j_=>(jk (x.getD j_ ie) (iQ (jX d) ((jf s.tape (b++s.params) p).getD j_ ie) p) p)))):=by
 have s4:=h.s4;have rm:=hx.len;have mT:=h.ij;have xi:=zJ s.tape (b++s.params) p;obtain⟨f1,f2,f3,f4⟩:=zz h hb;have fv:=Hh s.tape f4 (show 1<=p by omega) (show p<=4096 by omega);have hq:0<d.q:=(re d).1.1 h0;have Mk:=JE hd (bB hq);exact tr true Tryz.call13 Tryz.func13 (chain [.c (Hj _ _ _ _ h hx hd h0 il ic:gU 41 [(iM s),(ig x),(gY d),(iP p)] _),.c (GA _ _ hb s4:gU 42 [(iM s),(ig b)] _),.c (RR s b p h hb il ic hn),tB 37 (ag:((0:Int) != 0)=false),.y 14 14 true 41 7 (kf ((List.range 0).map (fun j_=>(jk (x.getD j_ ie) (iQ (jX d) ((jf s.tape (b++s.params) p).getD j_ ie) p) p)))),.s (Sp.jx (TL s x d b p) 0 x.length ae (fun i hi pL=>by
    have w1:=(hx.ok i ae).1;have w2:=fv i;have w3:=qU (jX d) ((jf s.tape (b++s.params) p).getD i ie) (show 1<=p by omega) (show p<=4096 by omega);have tX:=tD (jk (x.getD i ie) (iQ (jX d) ((jf s.tape (b++s.params) p).getD i ie) p) p);exact iB (chain [tT 43 ((i:Int)<(x.length:Int)) ae,iX ((i:Int)) (x.length) ae,.o 49 (.e (DE d):PV.le (.e (.agg ([(bP false),(.v (.slice none 0 0)),(iP 0)]++jq d++[(bP false)]))) (.e (gZ (jX d)))),iX ((i:Int)) ((jf s.tape (b++s.params) p).length) ae,.c (ET (jX d) ((jf s.tape (b++s.params) p).getD i ie) p af af ae ae),.c (C2 (x.getD i ie) (iQ (jX d) ((jf s.tape (b++s.params) p).getD i ie) p) p af af ae ae),tB 59 (iH i ae:(jk (x.getD i ie) (iQ (jX d) ((jf s.tape (b++s.params) p).getD i ie) p) p).all=false),.o 62 (.e (mC _):PV.le (.e (.sl true 1 7 fun i_ j_=>(iZ (jk (x.getD i ie) (iQ (jX d) ((jf s.tape (b++s.params) p).getD i ie) p) p)).getD (i_*7+j_) (.v (.bool false)))) (.e (ig [(jk (x.getD i ie) (iQ (jX d) ((jf s.tape (b++s.params) p).getD i ie) p) p)]))),.a (ae:(i+[(jk (x.getD i ie) (iQ (jX d) ((jf s.tape (b++s.params) p).getD i ie) p) p)].length)*88<=140737488355328),iq ((i:Int)+1) ae]<|.e (chain [.b 14 (yG rfl rfl rfl:Bx.le (.row true 41 (i+[(jk (x.getD i ie) (iQ (jX d) ((jf s.tape (b++s.params) p).getD i ie) p) p)].length) 7 (fun i_ j_=>if i_<i then(kf ((List.range i).map (fun j_=>(jk (x.getD j_ ie) (iQ (jX d) ((jf s.tape (b++s.params) p).getD j_ ie) p) p)))) i_ j_ else(E.mc (ig [(jk (x.getD i ie) (iQ (jX d) ((jf s.tape (b++s.params) p).getD i ie) p) p)])) (i_-i) j_)) (.row true 41 (i+1) 7 (kf ((List.range (i+1)).map (fun j_=>(jk (x.getD j_ ie) (iQ (jX d) ((jf s.tape (b++s.params) p).getD j_ ie) p) p))))))]<|.nil)) ah)
  (fun hi=>by
    exact iB (chain [tF 43 ((x.length:Int)<(x.length:Int)) ae,.z 14]<|.e (chain [.o 14 (.e (Ah aj):PV.le (.e (.sl true x.length 7 (kf ((List.range x.length).map (fun j_=>(jk (x.getD j_ ie) (iQ (jX d) ((jf s.tape (b++s.params) p).getD j_ ie) p) p)))))) (.e (ig ((List.range x.length).map (fun j_=>(jk (x.getD j_ ie) (iQ (jX d) ((jf s.tape (b++s.params) p).getD j_ ie) p) p))))))]<|.nil)) ah) ak:ju 9 Tryz.f13 (TL s x d b p 0) (.exit 0) ⟨66,true,[(14,.e (ig ((List.range x.length).map (fun j_=>(jk (x.getD j_ ie) (iQ (jX d) ((jf s.tape (b++s.params) p).getD j_ ie) p) p)))))],[]⟩) .nil]<|.nil) ah 
theorem xr(s:lj)(x:List Iv)(d:Dy)(b:List Iv)(p:Nat)(h:mz s)(hx:ks s.iz x)(hd:d.ia)(h0:0<d.iJ)(hb:ks s.iz b)(il:8<=p)(ic:p<=512):gU 13 [(iM s),(ig x),(gY d),(ig b),(iP p)] (ig (kT s x d b p)):=by
 unfold kT;cases hn:nf (jf s.tape (b++s.params) p)with
 |true=>rw[aR rfl];exact(afe s x d b p h hx hd h0 hb il ic hn).jV (.nil _ _ _)
 |false=>
  rw[aQ ag];cases ha:nf (wC x (jf s.tape (b++s.params) p) d p)with
  |true=>
   rw[aR rfl];unfold nf at ha;rw[di,C1]at ha;obtain⟨i,hi,me⟩:=ha;obtain⟨N,h1,h2,h3⟩:=qI (p:=fun i=>((wC x (jf s.tape (b++s.params) p) d p).getD i ie).all) ⟨i,bJ.1 hi,me⟩;refine(aff s x d b p h hx hd h0 hb il ic hn N h1 (fun i hi=>?_) ?_).jV (.nil _ _ _)
   .have:=h3 i hi;rw[Bv (show i<x.length by omega)]at this;exact this
   .rw [Bv h1]at h2;exact h2
  |false=>
   rw[aQ ag];refine afg s x d b p h hx hd h0 hb il ic hn fun i hi=>?_
   unfold nf at ha;rw[dX,C1]at ha;have:=ha i (bJ.2 hi);rw[Bv hi]at this;exact aM this
theorem aeT(s:lj)(x:List Iv)(d:Dy)(b:List Iv)(p:Nat)(h:mz s)(hx:ks s.iz x)(hd:d.ia)(h0:0<d.iJ)(hb:ks s.iz b)(il:8<=p)(ic:p<=512)(hi:(kT s x d b p)=[]):gU 23 [(iM s),(ig x),(gY d),(ig b),(iP p)] (bP false):=by
 exact tr true Tryz.call23 Tryz.func23 (chain [.c (xr _ _ _ _ _ h hx hd h0 hb il ic:gU 13 [(iM s),(ig x),(gY d),(ig b),(iP p)] _),tB 20 (by rw[hi];rfl:(decide (0<((kT s x d b p).length:Int)))=false)]<|.nil) ah 
theorem oc{n:Nat}{b:List Iv}(h:ks n b)(h1:1<=n)(h4:n<=4):1<=b.length/\b.length<=4/\oO b:=⟨by rw[h.len];exact h1,by rw[h.len];exact h4,h.ok⟩
theorem aeX(s:lj)(x:List Iv)(d:Dy)(b:List Iv)(p:Nat)(h:mz s)(hx:ks s.iz x)(hd:d.ia)(h0:0<d.iJ)(hb:ks s.iz b)(il:8<=p)(ic:p<=512)(hi:(kT s x d b p)≠[]):gU 23 [(iM s),(ig x),(gY d),(ig b),(iP p)] (bP (mU x b&&mU (kT s x d b p) b)):=by
 have s1:=h.s1;have s4:=h.s4;obtain⟨x1,x4,xo⟩:=oc hx s1 s4;obtain⟨b1,b4,bo⟩:=oc hb s1 s4;have rm:=hx.len;have tk:=hb.len;have pJ:=Ad hx (show 1<=p by omega) (show p<=4096 by omega) hi;obtain⟨i1,i4,io⟩:=oc pJ s1 s4;have Bg:=pJ.len;exact tr true Tryz.call23 Tryz.func23 (chain [.c (xr _ _ _ _ _ h hx hd h0 hb il ic:gU 13 [(iM s),(ig x),(gY d),(ig b),(iP p)] _),tT 20 (0<((kT s x d b p).length:Int)) ae,.c (uN x b ae ae ae af af)]<|.w (mU x b=true)
  (fun k1=>chain [tB 24 (k1),.c (uN (kT s x d b p) b ae ae ae af af)]<|rQ (bP (mU (kT s x d b p) b)) (bP (mU x b&&mU (kT s x d b p) b)) (by simp[k1]))
  (fun k1=>chain [tB 24 (aM k1)]<|rQ (bP false) (bP (mU x b&&mU (kT s x d b p) b)) (by simp[k1]))) ah 
theorem u9(s:lj)(x:List Iv)(d:Dy)(b:List Iv)(p:Nat)(h:mz s)(hx:ks s.iz x)(hd:d.ia)(h0:0<d.iJ)(hb:ks s.iz b)(il:8<=p)(ic:p<=512):gU 23 [(iM s),(ig x),(gY d),(ig b),(iP p)] (bP (qF s x d b p)):=by
 unfold qF;by_cases hi:(kT s x d b p)=[]
 .have:=aeT s x d b p h hx hd h0 hb il ic hi
  rwa[hi,show(!([]:List Iv).isEmpty&&(mU x b&&mU [] b))=false from rfl]
 .have:=aeX s x d b p h hx hd h0 hb il ic hi
  have e:((kT s x d b p)).isEmpty=false:=by
   cases q:(kT s x d b p)with
   |nil=>exact absurd q hi
   |cons _ _=>rfl
  rwa[e,dH,dZ]
theorem alo(k:Int)(h1:-100<=k)(h2:k<=100):gU 36 [gY ⟨false,1,0⟩,iP k] (.iw [gY (nN k),iP 0]):=by
 have:=Kh ⟨false,1,0⟩ k Df ae ae;have e:canon false 1 (0+k)=nN k:=by rw[Int.zero_add];exact Qh k
 have e2:kB (canon false 1 (0+k))=nN k:=by rw[e];exact AW (OE h1 h2)
 have e3:mJ (canon false 1 (0+k))=0:=by rw[e];exact GO (OE h1 h2)
 change gU 36 [gY ⟨false,1,0⟩,iP k] (.iw [gY (kB (canon false 1 (0+k))),iP (mJ (canon false 1 (0+k)))])at this;rwa[e2,e3]at this
theorem adY(x:List Iv)(d:Dy):(Ej x d==0)=sM x d:=by
 unfold Ej;cases sM x d<;>rfl
theorem R2(x:List Iv)(k:Int)(x1:1<=x.length)(x8:x.length<=8)(hx:oO x)(k1:-100<=k)(k2:k<=100):gU 65 [(ig x),(iP k)] (.iw [ig (qZ x (nN k)),bP (sM x (nN k))]):=by
 have v:=X8 k1 k2;have sg:=X7 k;exact tr true Tryz.call65 Tryz.func65 (chain [.c (qO _ ae:gU 113 [(iP 1)] _),.c (alo _ ae ae:gU 36 [(gY (je 1)),(iP k)] _),tB 16 (ag:((0:Int) != 0)=false),.c (aad _ _ ae ae af af af:gU 114 [(ig x),(gY (nN k))] _)]<|rR (.iw [ig (qZ x (nN k)),bP (sM x (nN k))]) (.iw (.cons (.refl _) (.cons (.iU (by rw[adY])) .nil)):E.le (.iw [(ig (qZ x (nN k))),(bP ((Ej x (nN k))==0))]) (.iw [ig (qZ x (nN k)),bP (sM x (nN k))]))) ah 
theorem Y6(s:lj)(x:List Iv)(d:Dy)(p:Nat)(h:mz s)(hx:ks s.iz x)(hd:d.ia)(h0:0<d.iJ)(il:8<=p)(ic:p<=512)(k:Int)(k1:-100<=k)(k2:k<=100)(hg:(sM x (nN k))=false):gU 64 [(iP k),(.kv 1 fun j_=>[(ig x)].getD j_ .any),(.kv 5 fun j_=>[(iP s.tape.im),(nY s.tape.gW),(nX s.tape.ij),(iP s.iz),(ig s.params)].getD j_ .any),(.kv 3 fun j_=>[(bP d.neg),(gX (gV d.m)),(iP d.e)].getD j_ .any),(.kv 1 fun j_=>[(iP p)].getD j_ .any)] (.iw [ig (qZ x (nN k)),bP false]):=by
 have s1:=h.s1;have s4:=h.s4;obtain⟨x1,x4,xo⟩:=oc hx s1 s4;exact tr true Tryz.call64 Tryz.func64 (chain [.c (R2 _ _ ae ae xo ae ae:gU 65 [(ig x),(iP k)] _),tB 15 (hg:(sM x (nN k))=false)]<|.nil) ah 
theorem Y7(s:lj)(x:List Iv)(d:Dy)(p:Nat)(h:mz s)(hx:ks s.iz x)(hd:d.ia)(h0:0<d.iJ)(il:8<=p)(ic:p<=512)(k:Int)(k1:-100<=k)(k2:k<=100)(hg:(sM x (nN k))=true):gU 64 [(iP k),(.kv 1 fun j_=>[(ig x)].getD j_ .any),(.kv 5 fun j_=>[(iP s.tape.im),(nY s.tape.gW),(nX s.tape.ij),(iP s.iz),(ig s.params)].getD j_ .any),(.kv 3 fun j_=>[(bP d.neg),(gX (gV d.m)),(iP d.e)].getD j_ .any),(.kv 1 fun j_=>[(iP p)].getD j_ .any)] (.iw [ig (qZ x (nN k)),bP (qF s x d (qZ x (nN k)) p)]):=by
 have s1:=h.s1;have s4:=h.s4;obtain⟨x1,x4,xo⟩:=oc hx s1 s4;have hb:=adZ hx (X8 k1 k2) (akp (X7 k)) hg;exact tr true Tryz.call64 Tryz.func64 (chain [.c (R2 _ _ ae ae xo ae ae:gU 65 [(ig x),(iP k)] _),tB 15 (hg:(sM x (nN k))=true),.c (u9 _ _ _ _ _ h hx hd h0 hb il ic:gU 23 [(iM s),(ig x),(gY d),(ig (qZ x (nN k))),(iP p)] _)]<|.nil) ah 
theorem Pv(s:lj)(x:List Iv)(d:Dy)(p:Nat)(h:mz s)(hx:ks s.iz x)(hd:d.ia)(h0:0<d.iJ)(il:8<=p)(ic:p<=512)(k:Int)(k1:-100<=k)(k2:k<=100):gU 64 [(iP k),(.kv 1 fun j_=>[(ig x)].getD j_ .any),(.kv 5 fun j_=>[(iP s.tape.im),(nY s.tape.gW),(nX s.tape.ij),(iP s.iz),(ig s.params)].getD j_ .any),(.kv 3 fun j_=>[(bP d.neg),(gX (gV d.m)),(iP d.e)].getD j_ .any),(.kv 1 fun j_=>[(iP p)].getD j_ .any)] (.iw [ig (qZ x (nN k)),bP (xQ s x d p k)]):=by
 unfold xQ;cases hg:sM x (nN k)with
 |false=>exact Y6 s x d p h hx hd h0 il ic k k1 k2 hg
 |true=>exact Y7 s x d p h hx hd h0 il ic k k1 k2 hg
theorem aca(s:lj)(x:List Iv)(d:Dy)(p:Nat)(h:mz s)(hx:ks s.iz x)(hd:d.ia)(h0:0<d.iJ)(il:8<=p)(ic:p<=512)(N:Nat)(mG:N<24)(iH:∀ k:Nat,k<N->xQ s x d p ((k:Int)-20)=false)(hN:xQ s x d p ((N:Int)-20)=true):gU 26 [(iM s),(ig x),(gY d),(iP p)] (.iw [ig (qZ x (nN ((N:Int)-20))),iP 0]):=by
 exact tr true Tryz.call26 Tryz.func26 (chain [.c (Hj _ _ _ _ h hx hd h0 il ic:gU 41 [(iM s),(ig x),(gY d),(iP p)] _),.s (Sp.jx (Rb s x d p N) 0 N ae (fun k hk Ey=>by
    exact iB (chain [tT 23 ((k:Int)<24) ae,iq ((k:Int)-20) ae,.c (Pv _ _ _ _ h hx hd h0 il ic _ ae ae:gU 64 [(iP ((k:Int)-20)),(.kv 1 fun j_=>[(ig x)].getD j_ .any),(.kv 5 fun j_=>[(iP s.tape.im),(nY s.tape.gW),(nX s.tape.ij),(iP s.iz),(ig s.params)].getD j_ .any),(.kv 3 fun j_=>[(bP d.neg),(gX (gV d.m)),(iP d.e)].getD j_ .any),(.kv 1 fun j_=>[(iP p)].getD j_ .any)] _),tB 31 (iH k ae:(xQ s x d p ((k:Int)-20))=false),iq ((k:Int)+1) ae]<|.nil) ah)
  (fun hk=>by
    exact iB (chain [tT 23 ((N:Int)<24) ae,iq ((N:Int)-20) ae,.c (Pv _ _ _ _ h hx hd h0 il ic _ ae ae:gU 64 [(iP ((N:Int)-20)),(.kv 1 fun j_=>[(ig x)].getD j_ .any),(.kv 5 fun j_=>[(iP s.tape.im),(nY s.tape.gW),(nX s.tape.ij),(iP s.iz),(ig s.params)].getD j_ .any),(.kv 3 fun j_=>[(bP d.neg),(gX (gV d.m)),(iP d.e)].getD j_ .any),(.kv 1 fun j_=>[(iP p)].getD j_ .any)] _),tB 31 (hN:(xQ s x d p ((N:Int)-20))=true)]<|.nil) ah) ak:ju 5 Tryz.f26 (Rb s x d p N 0) .ret ⟨55,true,[(9,.e (iP 0)),(8,.e (ig (qZ x (nN ((N:Int)-20)))))],[]⟩) .nil]<|.nil) ah 
open Go.RowKit Fp Pu
open Go.RowKit Fp Pu
structure na where
 kind:Int
 a:Int
 b:Int
 n:Int
 cn:Int
 cd:Int
structure jr where
 im:Int
 gW:List na
 ij:List Int
 iz:Int
 params:List RI
def iW:na:=⟨0,0,0,0,0,0⟩
def yW(o:na):List E:=[iP o.kind,iP o.a,iP o.b,iP o.n,iP o.cn,iP o.cd]
def BV(o:na):E:=.agg (yW o)
def jJ(l:List na):E:=.sl true l.length 6 fun i j=>(yW (l.getD i iW)).getD j .any
def jN(l:List Int):E:=.sl true l.length 1 fun i _=>iP (l.getD i 0)
def N8(s:jr):List E:=[iP s.im,jJ s.gW,jN s.ij,iP s.iz,jW s.params]
def kZ(s:jr):E:=.agg (N8 s)
structure na.jg(o:na):Prop where
 kind:ku .i64 o.kind
 a:ku .i64 o.a
 b:ku .i64 o.b
 n:ku .i64 o.n
 cn:ku .i64 o.cn
 cd:ku .i64 o.cd
structure jr.jg(s:jr):Prop where
 im:ku .i64 s.im
 gW:∀ i,(s.gW.getD i iW).jg
 ij:∀ i,ku .i64 (s.ij.getD i 0)
 iz:ku .i64 s.iz
 params:∀ i,(s.params.getD i jt).jg
structure jr.ml(s:jr):Prop where
 gW:s.gW.length<=1000
 ij:s.ij.length<=1000
 params:s.params.length<=1000
def jF(o:na)(m:Int):Bool:=
 if o.kind=1 then lL o.cn o.cd&&decide (o.a=0/\o.b=0/\o.n=0)
 else if 3<=o.kind/\o.kind<=6 then decide (o.cn=0/\o.cd=0/\0<=o.a/\o.a<m/\0<=o.b/\o.b<m/\o.n=0)
 else if o.kind=8 then decide (o.cn=0/\o.cd=0/\0<=o.a/\o.a<m/\o.b=0/\0<=o.n/\o.n<=16)
 else if o.kind=7\/9<=o.kind/\o.kind<=13 then decide (o.cn=0/\o.cd=0/\0<=o.a/\o.a<m/\o.b=0/\o.n=0)
 else false
def FO(s:jr):Bool:=(List.range s.gW.length).all fun i=>jF (s.gW.getD i iW) (s.im+(i:Int))
def vq(s:jr)(k:Int):Bool:=decide (0<=k/\k<s.im+(s.gW.length:Int))
def vz(s:jr):Bool:=(List.range s.ij.length).all fun i=>vq s (s.ij.getD i 0)
noncomputable def ny(x:RI):Bool:=nm x && !x.all
noncomputable def Dw(s:jr):Bool:=(List.range s.params.length).all fun i=>ny (s.params.getD i jt)
noncomputable def mD(s:jr):Bool:=decide (0<=s.im/\s.im<=8/\s.gW.length<=200/\s.ij.length<=200)&&FO s&&vz s
 && decide (1<=s.iz/\s.iz<=4/\(s.ij.length:Int)=s.iz/\s.im=s.iz+(s.params.length:Int)/\s.params.length<=4)&&Dw s
noncomputable def pW(n:Int)(b:List RI):Bool:=decide ((b.length:Int)=n)&&(List.range b.length).all fun i=>ny (b.getD i jt)
noncomputable def xE(d:RD):Bool:=@decide d.Ok (Classical.propDecidable _)
theorem vy{d:RD}:xE d=true↔d.Ok:=@gl _ (Classical.propDecidable _)
noncomputable def mv(s:jr)(x:List RI)(h:RD)(p:Int):Bool:=mD s&&pW s.iz x&&xE h&&decide (0<h.dy.iJ)&&decide (8<=p/\p<=512)
theorem xP{n:Nat}{f:Nat->Bool}(h:¬(List.range n).all f=true):∃ N,N<n/\(!f N)=true/\∀ k,k<N->(!f k)=false:=by
 refine qI ?_;apply bE;intro q;apply h;refine bH.2 fun i hi=>?_
 cases hf:f i with
 |true=>rfl
 |false=>exact absurd ⟨i,bJ.1 hi,by rw[hf];rfl⟩ q
theorem Pm{n:Nat}{f:Nat->Bool}:((List.range n).any fun i=>!f i) = !((List.range n).all f):=by
 rw[cQ];simp
theorem ajP{s:jr}(h:¬(0<=s.im/\s.im<=8/\s.gW.length<=200/\s.ij.length<=200/\1<=s.iz/\s.iz<=4/\(s.ij.length:Int)=s.iz/\s.params.length<=4/\s.im=s.iz+(s.params.length:Int))):mD s=false:=by
 refine aM fun q=>h ?_
 unfold mD at q;simp only[bA,bZ]at q;obtain⟨⟨⟨⟨a,_⟩,_⟩,b⟩,_⟩:=q;exact⟨a.1,a.2.1,a.2.2.1,a.2.2.2,b.1,b.2.1,b.2.2.1,b.2.2.2.2,b.2.2.2.1⟩
def na.v(o:na):mX:=⟨o.kind.toNat,o.a.toNat,o.b.toNat,o.n.toNat,o.cn,o.cd⟩
def jr.v(s:jr):lj:=⟨⟨s.im.toNat,s.gW.map na.v,s.ij.map Int.toNat⟩,s.iz.toNat,s.params.map RI.iv⟩
theorem nn.of{k a b n m:Nat}{cn cd:Int}(k3:k=1\/3<=k)(C5:k<=13)(ha:k=1->a=0)(CF:¬k=1->a<m)(hb:3<=k/\k<=6->b<m)(mP:¬(3<=k/\k<=6)->b=0)
 (hn:k=8->n<=16) (wk:¬k=8->n=0) (hc:k=1->lL cn cd=true) (yg:¬k=1->cn=0/\cd=0):nn ⟨k,a,b,n,cn,cd⟩ m:=by
 refine⟨k3,C5,?_,?_,?_,?_⟩
 .show if k=1 then a=0 else a<m
  split<;>simp_all
 .show if 3<=k/\k<=6 then b<m else b=0
  split
  .rename_i h;exact hb h
  .rename_i h;exact mP h
 .show if k=8 then n<=16 else n=0
  split
  .rename_i h;exact hn h
  .rename_i h;exact wk h
 .show if k=1 then lL cn cd=true else cn=0/\cd=0
  split
  .rename_i h;exact hc h
  .rename_i h;exact yg h
theorem ajC{o:na}{m:Nat}(h:jF o (m:Int)=true):nn o.v m/\0<=o.kind/\0<=o.a/\0<=o.b/\0<=o.n:=by
 obtain⟨k,a,b,n,cn,cd⟩:=o;unfold jF at h;simp only at h;show nn ⟨k.toNat,a.toNat,b.toNat,n.toNat,cn,cd⟩ m/\0<=k/\0<=a/\0<=b/\0<=n;split at h
 .rename_i hk
  rw[bA,bZ]at h;obtain⟨hr,h1,h2,h3⟩:=h;exact⟨nn.of ae ae ae ae ae ae ae ae (fun _=>hr) ae,ae,ae,ae,ae⟩
 .rename_i oh
  split at h
  .rename_i hk
   have h:=ct h;exact⟨nn.of ae ae ae ae ae ae ae ae ae ae,ae,ae,ae,ae⟩
  .split at h
   .rename_i hk
    have h:=ct h;exact⟨nn.of ae ae ae ae ae ae ae ae ae ae,ae,ae,ae,ae⟩
   .split at h
    .rename_i tS hk
     have h:=ct h;exact⟨nn.of ae ae ae ae ae ae ae ae ae ae,ae,ae,ae,ae⟩
    .cases h
theorem ajE{o:na}(h1:0<=o.kind)(h2:0<=o.a)(h3:0<=o.b)(h4:0<=o.n):I9 o.v=yW o:=by
 obtain⟨k,a,b,n,cn,cd⟩:=o;simp only[I9,yW,na.v]at *
 rw[ez h1,ez h2,ez h3,ez h4]
theorem ajQ{s:jr}(g:s.jg)(h:mD s=true):mz s.v/\kZ s=iM s.v:=by
 unfold mD at h;simp only[bA,bZ]at h;obtain⟨⟨⟨⟨⟨i0,i8,l1,l2⟩,ho⟩,hu⟩,s1,s4,e1,e2,p4⟩,hp⟩:=h;have ho:=bH.1 ho;have hu:=bH.1 hu;have hp:=bH.1 hp;have opAt:∀ i,i<s.gW.length->(s.gW.map na.v).getD i iT=(s.gW.getD i iW).v:=fun i hi=>by simp[aW,hi]
 have ouAt:∀ i,i<s.ij.length->(s.ij.map Int.toNat).getD i 0=(s.ij.getD i 0).toNat:=fun i hi=>by simp[aW,hi]
 have paAt:∀ i,i<s.params.length->(s.params.map RI.iv).getD i ie=(s.params.getD i jt).iv:=fun i hi=>by simp[aW,hi]
 have op:∀ i,i<s.gW.length->nn (s.gW.getD i iW).v (s.im.toNat+i)/\0<=(s.gW.getD i iW).kind/\0<=(s.gW.getD i iW).a/\0<=(s.gW.getD i iW).b/\0<=(s.gW.getD i iW).n:=fun i hi=>by
  have:=ho i (bJ.2 hi);exact ajC (by rwa[show((s.im.toNat+i:Nat):Int)=s.im+(i:Int)by omega])
 have ou:∀ i,i<s.ij.length->0<=s.ij.getD i 0/\s.ij.getD i 0<s.im+(s.gW.length:Int):=fun i hi=>ct (hu i (bJ.2 hi))
 have pa:∀ i,i<s.params.length->(s.params.getD i jt).Ok/\(s.params.getD i jt).all=false:=fun i hi=>by
  have:=hp i (bJ.2 hi);unfold ny at this;rw[bA]at this;exact⟨su.1 this.1,by simpa using this.2⟩
 refine⟨⟨⟨?_,?_,?_,?_,?_⟩,?_,?_,?_,?_,?_,?_⟩,?_⟩
 .show s.im.toNat<=8;omega
 .show (s.gW.map na.v).length<=200;rw[cS];exact l1
 .show (s.ij.map Int.toNat).length<=200;rw[cS];exact l2
 .intro i hi
  have hi:i<s.gW.length:=by simpa[jr.v]using hi
  show nn ((s.gW.map na.v).getD i iT) (s.im.toNat+i);rw[opAt i hi];exact(op i hi).1
 .intro i hi
  have hi:i<s.ij.length:=by simpa[jr.v]using hi
  show(s.ij.map Int.toNat).getD i 0<s.im.toNat+(s.gW.map na.v).length;rw[ouAt i hi,cS];have:=ou i hi;omega
 .show 1<=s.iz.toNat;omega
 .show s.iz.toNat<=4;omega
 .show (s.ij.map Int.toNat).length=s.iz.toNat;rw[cS];omega
 .show s.im.toNat=s.iz.toNat+(s.params.map RI.iv).length;rw[cS];omega
 .show (s.params.map RI.iv).length<=4;rw[cS];exact p4
 .intro i hi
  have hi:i<s.params.length:=by simpa[jr.v]using hi
  show((s.params.map RI.iv).getD i ie).ia/\((s.params.map RI.iv).getD i ie).all=false;rw[paAt i hi];exact⟨(pa i hi).1.valid,(pa i hi).2⟩
 .have e1:iP s.im=iP (s.im.toNat:Int):=by rw[ez i0]
  have e2:iP s.iz=iP (s.iz.toNat:Int):=by rw[ez (show 0<=s.iz by omega)]
  have e3:jJ s.gW=nY (s.gW.map na.v):=by
   unfold jJ nY;rw[cS];congr 1;funext i j;by_cases hi:i<s.gW.length
   .rw [opAt i hi]
    obtain⟨_,h1,h2,h3,h4⟩:=op i hi;rw[ajE h1 h2 h3 h4]
   .have a1:s.gW.getD i iW=iW:=by rw[aW,bV ae];rfl
    have a2:(s.gW.map na.v).getD i iT=iT:=by rw[aW,bV aF];rfl
    rw[a1,a2];rfl
  have e4:jN s.ij=nX (s.ij.map Int.toNat):=by
   unfold jN nX;rw[cS];congr 1;funext i j;by_cases hi:i<s.ij.length
   .rw [ouAt i hi,ez (ou i hi).1]
   .rw [aW,bV ae,aW (l:=s.ij.map Int.toNat),bV aF]
    rfl
  have e5:jW s.params=ig (s.params.map RI.iv):=by
   rw[<-MK];congr 1;apply eU;intro i;unfold AA;rw[cj,cj];by_cases hi:i<s.params.length
   .have h1:=(pa i hi).1
    have g1:=g.params i;rw[bd hi];rw[aW,bd hi]at h1 g1;exact congrArg some (RI.Ok.eq (x:=s.params[i]) h1 g1).symm
   .rw [bV ae];rfl
  show E.agg [iP s.im,jJ s.gW,jN s.ij,iP s.iz,jW s.params]=_;rw[e1,e2,e3,e4,e5];rfl
open Go.RowKit Fp Pu
def WT(s:jr)(N:Nat)(x:Nat):PS:=⟨85,true,[(31,.e (iP x)),(30,.e (iP s.gW.length)),(29,.e (jJ s.gW)),(3,.box 3 0),(1,.box 1 0)],[(3,.cells 25 [(iP s.im),(jJ s.gW),(jN s.ij)]),(1,.cells 28 [(iP s.im),(jJ s.gW),(jN s.ij),(iP s.iz),(jW s.params)])]⟩
def WU(s:jr)(x:Nat):PS:=⟨85,true,[(31,.e (iP x)),(30,.e (iP s.gW.length)),(29,.e (jJ s.gW)),(3,.box 3 0),(1,.box 1 0)],[(3,.cells 25 [(iP s.im),(jJ s.gW),(jN s.ij)]),(1,.cells 28 [(iP s.im),(jJ s.gW),(jN s.ij),(iP s.iz),(jW s.params)])]⟩
def WV(s:jr)(x:Nat):PS:=⟨85,true,[(31,.e (iP x)),(30,.e (iP s.gW.length)),(29,.e (jJ s.gW)),(3,.box 3 0),(1,.box 1 0)],[(3,.cells 25 [(iP s.im),(jJ s.gW),(jN s.ij)]),(1,.cells 28 [(iP s.im),(jJ s.gW),(jN s.ij),(iP s.iz),(jW s.params)])]⟩
def WW(s:jr)(x:Nat):PS:=⟨85,true,[(31,.e (iP x)),(30,.e (iP s.gW.length)),(29,.e (jJ s.gW)),(3,.box 3 0),(1,.box 1 0)],[(3,.cells 25 [(iP s.im),(jJ s.gW),(jN s.ij)]),(1,.cells 28 [(iP s.im),(jJ s.gW),(jN s.ij),(iP s.iz),(jW s.params)])]⟩
theorem oi{a b:Bool}(h:a=true↔b=true):a=b:=cQ.2 h
theorem nc{a b:Bool}(h:a=b):bP a=bP b:=h▸rfl
theorem kU{o:na}{m:Int}{b:Bool}(h:b=jF o m:=by simp_all[jF,PQ]<;>(repeat' split)<;>intros<;>omega):bP b=bP (jF o m):=nc h
noncomputable def ahg(o:na)(m:Int)(g:o.jg)(C:Bool)(hC:C=decide (o.cn=0/\o.cd=0))(q1:¬o.a<0)(q2:¬o.b<0):Tr Tryz.prog Tb:=
  .w (o.kind=1)
  (fun k1=>chain [tB 21 (aK k1),.c (Ji o.cn o.cd)]<|.w (lL o.cn o.cd=true)
   (fun k2=>chain [tB 24 (k2)]<|.w (o.a=0)
    (fun k3=>chain [tB 28 (aK k3)]<|.w (o.b=0)
     (fun k4=>chain [tB 33 (aK k4)]<|rQ (bP (o.n==0)) (bP (jF o m)) (kU))
     (fun k4=>chain [tB 33 (aJ k4)]<|rQ (bP false) (bP (jF o m)) (kU)))
    (fun k3=>chain [tB 28 (aJ k3)]<|rQ (bP false) (bP (jF o m)) (kU)))
   (fun k2=>chain [tB 24 (aM k2)]<|rQ (bP false) (bP (jF o m)) (kU)))
  (fun k1=>chain [tB 21 (aJ k1),.j 80 ⟨111,true,[(40,.e (bP (decide (3<=o.kind/\o.kind<=6)))),(19,.e (iP o.kind)),(5,.e (bP C)),(2,.box 2 0),(1,.e (iP m))],[(2,.cells 99 [(iP o.kind),(iP o.a),(iP o.b),(iP o.n),(iP o.cn),(iP o.cd)])]⟩
   (.w (o.kind=3)
    (fun m1=>chain [.v 40 (.bool (aK m1))]<|.e (chain [tB 40 (oi an:true=(decide (3<=o.kind/\o.kind<=6)))]<|.nil))
    (fun m1=>chain [.v 40 (.bool (aJ m1))]<|.w (o.kind=4)
     (fun m2=>chain [tB 42 (aK m2)]<|.e (chain [tB 40 (oi an:true=(decide (3<=o.kind/\o.kind<=6)))]<|.nil))
     (fun m2=>chain [tB 42 (aJ m2)]<|.w (o.kind=5)
      (fun m3=>chain [tB 43 (aK m3)]<|.e (chain [tB 40 (oi an:true=(decide (3<=o.kind/\o.kind<=6)))]<|.nil))
      (fun m3=>chain [tB 43 (aJ m3)]<|.e (chain [tB 40 (oi an:(o.kind==6)=(decide (3<=o.kind/\o.kind<=6)))]<|.nil)))))]<|.w (3<=o.kind/\o.kind<=6)
   (fun k2=>chain [.v 40 (.bool (aS k2))]<|.w (C=true)
    (fun k3=>chain [tB 45 (k3)]<|.w (o.a<m)
     (fun k4=>chain [tB 50 (aS k4)]<|.w (o.b<m)
      (fun k5=>chain [tB 56 (aS k5)]<|rQ (bP (o.n==0)) (bP (jF o m)) (kU))
      (fun k5=>chain [tB 56 (aT k5)]<|rQ (bP false) (bP (jF o m)) (kU)))
     (fun k4=>chain [tB 50 (aT k4)]<|rQ (bP false) (bP (jF o m)) (kU)))
    (fun k3=>chain [tB 45 (aM k3)]<|rQ (bP false) (bP (jF o m)) (kU)))
   (fun k2=>chain [.v 40 (.bool (aT k2))]<|.w (o.kind=8)
    (fun k3=>chain [tB 64 (aK k3)]<|.w (C=true)
     (fun k4=>chain [tB 65 (k4)]<|.w (o.a<m)
      (fun k5=>chain [tB 70 (aS k5)]<|.w (o.b=0)
       (fun k6=>chain [tB 75 (aK k6)]<|.w (0<=o.n)
        (fun k7=>chain [tB 80 (aS k7)]<|rQ (bP (decide (o.n<=16))) (bP (jF o m)) (kU))
        (fun k7=>chain [tB 80 (aT k7)]<|rQ (bP false) (bP (jF o m)) (kU)))
       (fun k6=>chain [tB 75 (aJ k6)]<|rQ (bP false) (bP (jF o m)) (kU)))
      (fun k5=>chain [tB 70 (aT k5)]<|rQ (bP false) (bP (jF o m)) (kU)))
     (fun k4=>chain [tB 65 (aM k4)]<|rQ (bP false) (bP (jF o m)) (kU)))
    (fun k3=>chain [tB 64 (aJ k3),.j 174 ⟨111,true,[(87,.e (bP (decide (o.kind=7\/9<=o.kind/\o.kind<=13)))),(5,.e (bP C)),(2,.box 2 0),(1,.e (iP m))],[(2,.cells 99 [(iP o.kind),(iP o.a),(iP o.b),(iP o.n),(iP o.cn),(iP o.cd)])]⟩
   (.w (o.kind=7)
    (fun m1=>chain [.v 87 (.bool (aK m1))]<|.e (chain [tB 87 (oi an:true=(decide (o.kind=7\/9<=o.kind/\o.kind<=13)))]<|.nil))
    (fun m1=>chain [.v 87 (.bool (aJ m1))]<|.w (o.kind=9)
     (fun m2=>chain [tB 89 (aK m2)]<|.e (chain [tB 87 (oi an:true=(decide (o.kind=7\/9<=o.kind/\o.kind<=13)))]<|.nil))
     (fun m2=>chain [tB 89 (aJ m2)]<|.w (o.kind=10)
      (fun m3=>chain [tB 90 (aK m3)]<|.e (chain [tB 87 (oi an:true=(decide (o.kind=7\/9<=o.kind/\o.kind<=13)))]<|.nil))
      (fun m3=>chain [tB 90 (aJ m3)]<|.w (o.kind=11)
       (fun m4=>chain [tB 91 (aK m4)]<|.e (chain [tB 87 (oi an:true=(decide (o.kind=7\/9<=o.kind/\o.kind<=13)))]<|.nil))
       (fun m4=>chain [tB 91 (aJ m4)]<|.w (o.kind=12)
        (fun m5=>chain [tB 92 (aK m5)]<|.e (chain [tB 87 (oi an:true=(decide (o.kind=7\/9<=o.kind/\o.kind<=13)))]<|.nil))
        (fun m5=>chain [tB 92 (aJ m5)]<|.e (chain [tB 87 (oi an:(o.kind==13)=(decide (o.kind=7\/9<=o.kind/\o.kind<=13)))]<|.nil)))))))]<|.w (o.kind=7\/9<=o.kind/\o.kind<=13)
     (fun k4=>chain [.v 87 (.bool (aS k4))]<|.w (C=true)
      (fun k5=>chain [tB 94 (k5)]<|.w (o.a<m)
       (fun k6=>chain [tB 99 (aS k6)]<|.w (o.b=0)
        (fun k7=>chain [tB 104 (aK k7)]<|rQ (bP (o.n==0)) (bP (jF o m)) (kU))
        (fun k7=>chain [tB 104 (aJ k7)]<|rQ (bP false) (bP (jF o m)) (kU)))
       (fun k6=>chain [tB 99 (aT k6)]<|rQ (bP false) (bP (jF o m)) (kU)))
      (fun k5=>chain [tB 94 (aM k5)]<|rQ (bP false) (bP (jF o m)) (kU)))
     (fun k4=>chain [.v 87 (.bool (aT k4))]<|rQ (bP false) (bP (jF o m)) (kU)))))
theorem Fq(o:na)(m:Int)(g:o.jg):gU 133 [(BV o),(iP m)] (bP (jF o m)):=by
 exact tr true Tryz.call133 Tryz.func133 (.w (o.a<0)
  (fun k1=>chain [tB 8 (aS k1)]<|rQ (bP false) (bP (jF o m)) (kU))
  (fun k1=>chain [tB 8 (aT k1)]<|.w (o.b<0)
   (fun k2=>chain [tB 12 (aS k2)]<|rQ (bP false) (bP (jF o m)) (kU))
   (fun k2=>chain [tB 12 (aT k2),.g (Vn g.cn g.cd rfl:pD Tryz.prog .eql 97 (.agg [(iP o.cn),(iP o.cd)]) (.agg [(iP 0),(iP 0)]) (.bool (decide (o.cn=0/\o.cd=0))))]<|ahg o m g (decide (o.cn=0/\o.cd=0)) rfl k1 k2))) ah 
theorem akV(s:jr)(g:s.jg)(k:Int)(h0:0<=s.im)(h8:s.im<=8)(l2:s.gW.length<=200):gU 135 [(iP k),(.kv 3 fun j_=>[(iP s.im),(jJ s.gW),(jN s.ij)].getD j_ .any)] (bP (!vq s k)):=by
 exact tr true Tryz.call135 Tryz.func135 (.w (k<0)
  (fun k1=>chain [tB 5 (aS k1)]<|rQ (bP true) (bP (!vq s k)) (nc (by unfold vq;rw[cQ];simp_all)))
  (fun k1=>chain [tB 5 (aT k1),iq (s.im+(s.gW.length:Int)) ae]<|rQ (bP (decide ((s.im+(s.gW.length:Int))<=k))) (bP (!vq s k)) (nc (by unfold vq;rw[cQ];simp_all)))) ah 
theorem akX(x:RI)(g:x.jg):gU 136 [(uq x)] (bP (!ny x)):=by
 have ga:=g.lo;have gb:=g.hi;by_cases ha:x.all=true
 .have e:ny x=false:=by unfold ny;rw[ha];simp
  rw[e];exact tr true Tryz.call136 Tryz.func136 (chain [tB 4 (ha:x.all=true)]<|.nil) ah 
 .replace ha:x.all=false:=by simpa using ha
  by_cases h1:x.lo.Ok
  .by_cases h2:x.hi.Ok
   .have v1:=h1.valid
    have v2:=h2.valid;have e1:uq x=gZ x.iv:=by rw[<-IL,show x.iv.raw=x by show RI.mk x.lo.dy.raw x.hi.dy.raw x.all=x;rw[h1.eq ga,h2.eq gb]]
    rw[e1];by_cases h3:jo x.lo.dy x.hi.dy<=0
    .have e:ny x=true:=by unfold ny;rw[su.2 (.inr ⟨ha,h1,h2,h3⟩),ha];rfl
     rw[e];exact tr true Tryz.call136 Tryz.func136 (chain [tB 4 (ha:x.iv.all=false),.c (qp _ af:gU 68 [(gY x.iv.lo)] _),.c (qp _ af:gU 68 [(gY x.iv.hi)] _),.c (nT _ _ af af:gU 37 [(gY x.iv.lo),(gY x.iv.hi)] _),tF 23 (0<(jo x.iv.lo x.iv.hi)) (by show ¬0<jo x.lo.dy x.hi.dy;omega)]<|.nil) ah 
    .have e:ny x=false:=by unfold ny;rw[show nm x=false by simpa using fun q=>(su.1 q).elim (fun q=>by rw[ha]at q;exact Bool.noConfusion q.1) fun q=>h3 q.2.2.2];rfl
     rw[e];exact tr true Tryz.call136 Tryz.func136 (chain [tB 4 (ha:x.iv.all=false),.c (qp _ af:gU 68 [(gY x.iv.lo)] _),.c (qp _ af:gU 68 [(gY x.iv.hi)] _),.c (nT _ _ af af:gU 37 [(gY x.iv.lo),(gY x.iv.hi)] _),tT 23 (0<(jo x.iv.lo x.iv.hi)) (by show 0<jo x.lo.dy x.hi.dy;omega)]<|.nil) ah 
   .have e:ny x=false:=by unfold ny;rw[show nm x=false by simpa using fun q=>(su.1 q).elim (fun q=>by rw[ha]at q;exact Bool.noConfusion q.1) fun q=>h2 q.2.2.1];rfl
    rw[e];exact tr true Tryz.call136 Tryz.func136 (chain [tB 4 (ha:x.all=false),.c (A5 _ af true (by simp[h1]):gU 68 [(mr x.lo)] _),.c (A5 _ af false (by simp[h2]):gU 68 [(mr x.hi)] _)]<|.nil) ah 
  .have e:ny x=false:=by unfold ny;rw[show nm x=false by simpa using fun q=>(su.1 q).elim (fun q=>by rw[ha]at q;exact Bool.noConfusion q.1) fun q=>h1 q.2.1];rfl
   rw[e];exact tr true Tryz.call136 Tryz.func136 (chain [tB 4 (ha:x.all=false),.c (A5 _ af false (by simp[h1]):gU 68 [(mr x.lo)] _)]<|.nil) ah 
theorem ZP(x:RI)(g:x.jg):gU 83 [(uq x)] (bP (!ny x)):=by
 exact tr true Tryz.call83 Tryz.func83 (chain [.c (afK _ g:gU 84 [(uq x)] _)]<|.w (nm x=true)
  (fun k1=>chain [tB 4 (k1)]<|rQ (bP x.all) (bP (!ny x)) (nc (by unfold ny;simp_all)))
  (fun k1=>chain [tB 4 (aM k1)]<|rQ (bP true) (bP (!ny x)) (nc (by unfold ny;simp_all)))) ah 
theorem Nv(s:jr)(h0:0<=s.im)(h8:s.im<=8)(l2:s.gW.length<=200)(lu:s.ij.length<=200)(g:s.jg):gU 134 [jN s.ij,.fn 135 [(.kv 3 fun j_=>[(iP s.im),(jJ s.gW),(jN s.ij)].getD j_ .any)]] (bP (!vz s)):=by
 have:=afu true s.ij.length (fun i _=>iP (s.ij.getD i 0)) 135 [(.kv 3 fun j_=>[(iP s.im),(jJ s.gW),(jN s.ij)].getD j_ .any)] (fun i=>!vq s (s.ij.getD i 0)) (fun i _=>akV s g _ h0 h8 l2) (show s.ij.length<=1000000 by omega);rwa[Pm]at this
theorem Vv(f:FuncId)(l:List RI)(hf:∀ i,gU f [uq (l.getD i jt)] (bP (!ny (l.getD i jt))))(hl:l.length<=1000):gU 17 [jW l,.fn f []] (bP (!((List.range l.length).all fun i=>ny (l.getD i jt)))):=by
 have:=MJ true l.length (fun i j=>(yV (l.getD i jt)).getD j .any) f [] (fun i=>!ny (l.getD i jt)) (fun i _=>hf i) (show l.length<=1000000 by omega);rwa[Pm]at this
theorem akZ(s:jr)(g:s.jg)(sm:s.ml)(hc:¬(0<=s.im/\s.im<=8/\s.gW.length<=200/\s.ij.length<=200)):gU 82 [(kZ s)] (bP false):=by
 exact tr true Tryz.call82 Tryz.func82 (.w (s.im<0)
  (fun k1=>chain [tB 10 (aS k1)]<|.nil)
  (fun k1=>chain [tB 10 (aT k1)]<|.w (8<s.im)
   (fun k2=>chain [tB 14 (aS k2)]<|.nil)
   (fun k2=>chain [tB 14 (aT k2)]<|.w (200<(s.gW.length:Int))
    (fun k3=>chain [tB 20 (aS k3)]<|.nil)
    (fun k3=>chain [tB 20 (aT k3)]<|.w (200<(s.ij.length:Int))
     (fun k4=>chain [tB 26 (aS k4)]<|.nil)
     (fun k4=>.x ae))))) ah 
theorem ak0(s:jr)(g:s.jg)(sm:s.ml)(i0:0<=s.im)(i8:s.im<=8)(l1:s.gW.length<=200)(l2:s.ij.length<=200)(N:Nat)(mG:N<s.gW.length)(iH:∀ k,k<N->(jF (s.gW.getD k iW) (s.im+(k:Int)))=true)(hN:(jF (s.gW.getD N iW) (s.im+(N:Int)))=false):gU 82 [(kZ s)] (bP false):=by
 exact tr true Tryz.call82 Tryz.func82 (chain [tF 10 (s.im<0) ae,tF 14 (8<s.im) ae,tF 20 (200<(s.gW.length:Int)) ae,tF 26 (200<(s.ij.length:Int)) ae,.s (Sp.jx (WT s N) 0 N ae (fun x hx ke=>by
    have ng:=g.gW x;exact iB (chain [tT 32 ((x:Int)<(s.gW.length:Int)) ae,iX ((x:Int)) (s.gW.length) ae,iq (s.im+(x:Int)) ae,.c (Fq (s.gW.getD x iW) (s.im+(x:Int)) ng),tB 42 (by rw[iH x ae];rfl:(!(jF (s.gW.getD x iW) (s.im+(x:Int))))=false),iq ((x:Int)+1) ae]<|.nil) ah)
  (fun hx=>by
    have ng:=g.gW N;exact iB (chain [tT 32 ((N:Int)<(s.gW.length:Int)) ae,iX ((N:Int)) (s.gW.length) ae,iq (s.im+(N:Int)) ae,.c (Fq (s.gW.getD N iW) (s.im+(N:Int)) ng),tB 42 (by rw[hN];rfl:(!(jF (s.gW.getD N iW) (s.im+(N:Int))))=true)]<|.nil) ah) ak:ju 5 Tryz.f82 (WT s N 0) .ret ⟨85,true,[(2,.e (bP false))],[]⟩) .nil]<|.nil) ah 
theorem ak1(s:jr)(g:s.jg)(sm:s.ml)(i0:0<=s.im)(i8:s.im<=8)(l1:s.gW.length<=200)(l2:s.ij.length<=200)(iH:∀ k,k<s.gW.length->(jF (s.gW.getD k iW) (s.im+(k:Int)))=true)(hu:vz s=false):gU 82 [(kZ s)] (bP false):=by
 exact tr true Tryz.call82 Tryz.func82 (chain [tF 10 (s.im<0) ae,tF 14 (8<s.im) ae,tF 20 (200<(s.gW.length:Int)) ae,tF 26 (200<(s.ij.length:Int)) ae,.s (Sp.jx (WU s) 0 s.gW.length ae (fun x hx ke=>by
    have ng:=g.gW x;exact iB (chain [tT 32 ((x:Int)<(s.gW.length:Int)) ae,iX ((x:Int)) (s.gW.length) ae,iq (s.im+(x:Int)) ae,.c (Fq (s.gW.getD x iW) (s.im+(x:Int)) ng),tB 42 (by rw[iH x ae];rfl:(!(jF (s.gW.getD x iW) (s.im+(x:Int))))=false),iq ((x:Int)+1) ae]<|.nil) ah)
  (fun hx=>by
    exact iB (chain [tF 32 ((s.gW.length:Int)<(s.gW.length:Int)) ae]<|.nil) ah) ak:ju 5 Tryz.f82 (WU s 0) (.exit 0) ⟨85,true,[(3,.box 3 0),(1,.box 1 0)],[(3,.cells 25 [(iP s.im),(jJ s.gW),(jN s.ij)]),(1,.cells 28 [(iP s.im),(jJ s.gW),(jN s.ij),(iP s.iz),(jW s.params)])]⟩) .nil,.c (Nv s ae ae ae ae g:gU 134 [(jN s.ij),(.fn 135 [(.kv 3 fun j_=>[(iP s.im),(jJ s.gW),(jN s.ij)].getD j_ .any)])] _),tB 47 (by rw[hu];rfl:(!(vz s))=true)]<|.nil) ah 
theorem ak2(s:jr)(g:s.jg)(sm:s.ml)(i0:0<=s.im)(i8:s.im<=8)(l1:s.gW.length<=200)(l2:s.ij.length<=200)(iH:∀ k,k<s.gW.length->(jF (s.gW.getD k iW) (s.im+(k:Int)))=true)(hu:vz s=true)(hc:¬(1<=s.iz/\s.iz<=4/\(s.ij.length:Int)=s.iz/\s.im=s.iz+(s.params.length:Int)/\s.params.length<=4)):gU 82 [(kZ s)] (bP false):=by
 have sp:=sm.params;exact tr true Tryz.call82 Tryz.func82 (chain [tF 10 (s.im<0) ae,tF 14 (8<s.im) ae,tF 20 (200<(s.gW.length:Int)) ae,tF 26 (200<(s.ij.length:Int)) ae,.s (Sp.jx (WV s) 0 s.gW.length ae (fun x hx ke=>by
    have ng:=g.gW x;exact iB (chain [tT 32 ((x:Int)<(s.gW.length:Int)) ae,iX ((x:Int)) (s.gW.length) ae,iq (s.im+(x:Int)) ae,.c (Fq (s.gW.getD x iW) (s.im+(x:Int)) ng),tB 42 (by rw[iH x ae];rfl:(!(jF (s.gW.getD x iW) (s.im+(x:Int))))=false),iq ((x:Int)+1) ae]<|.nil) ah)
  (fun hx=>by
    exact iB (chain [tF 32 ((s.gW.length:Int)<(s.gW.length:Int)) ae]<|.nil) ah) ak:ju 5 Tryz.f82 (WV s 0) (.exit 0) ⟨85,true,[(3,.box 3 0),(1,.box 1 0)],[(3,.cells 25 [(iP s.im),(jJ s.gW),(jN s.ij)]),(1,.cells 28 [(iP s.im),(jJ s.gW),(jN s.ij),(iP s.iz),(jW s.params)])]⟩) .nil,.c (Nv s ae ae ae ae g:gU 134 [(jN s.ij),(.fn 135 [(.kv 3 fun j_=>[(iP s.im),(jJ s.gW),(jN s.ij)].getD j_ .any)])] _),tB 47 (by rw[hu];rfl:(!(vz s))=false)]<|.w (s.iz<1)
  (fun k1=>chain [tB 50 (aS k1)]<|.nil)
  (fun k1=>chain [tB 50 (aT k1)]<|.w (4<s.iz)
   (fun k2=>chain [tB 54 (aS k2)]<|.nil)
   (fun k2=>chain [tB 54 (aT k2)]<|.w ((s.ij.length:Int)=s.iz)
    (fun k3=>chain [tB 62 (aO k3),iq (s.iz+(s.params.length:Int)) ae]<|.w (s.im=(s.iz+(s.params.length:Int)))
     (fun k4=>chain [tB 73 (aO k4)]<|.w (4<(s.params.length:Int))
      (fun k5=>chain [tB 79 (aS k5)]<|.nil)
      (fun k5=>.x ae))
     (fun k4=>chain [tB 73 (aP k4)]<|.nil))
    (fun k3=>chain [tB 62 (aP k3)]<|.nil)))) ah 
theorem ak3(s:jr)(g:s.jg)(sm:s.ml)(i0:0<=s.im)(i8:s.im<=8)(l1:s.gW.length<=200)(l2:s.ij.length<=200)(iH:∀ k,k<s.gW.length->(jF (s.gW.getD k iW) (s.im+(k:Int)))=true)(hu:vz s=true)(s1:1<=s.iz)(s4:s.iz<=4)(e1:(s.ij.length:Int)=s.iz)(e2:s.im=s.iz+(s.params.length:Int))(p4:s.params.length<=4):gU 82 [(kZ s)] (bP (Dw s)):=by
 have sp:=sm.params;exact tr true Tryz.call82 Tryz.func82 (chain [tF 10 (s.im<0) ae,tF 14 (8<s.im) ae,tF 20 (200<(s.gW.length:Int)) ae,tF 26 (200<(s.ij.length:Int)) ae,.s (Sp.jx (WW s) 0 s.gW.length ae (fun x hx ke=>by
    have ng:=g.gW x;exact iB (chain [tT 32 ((x:Int)<(s.gW.length:Int)) ae,iX ((x:Int)) (s.gW.length) ae,iq (s.im+(x:Int)) ae,.c (Fq (s.gW.getD x iW) (s.im+(x:Int)) ng),tB 42 (by rw[iH x ae];rfl:(!(jF (s.gW.getD x iW) (s.im+(x:Int))))=false),iq ((x:Int)+1) ae]<|.nil) ah)
  (fun hx=>by
    exact iB (chain [tF 32 ((s.gW.length:Int)<(s.gW.length:Int)) ae]<|.nil) ah) ak:ju 5 Tryz.f82 (WW s 0) (.exit 0) ⟨85,true,[(3,.box 3 0),(1,.box 1 0)],[(3,.cells 25 [(iP s.im),(jJ s.gW),(jN s.ij)]),(1,.cells 28 [(iP s.im),(jJ s.gW),(jN s.ij),(iP s.iz),(jW s.params)])]⟩) .nil,.c (Nv s ae ae ae ae g:gU 134 [(jN s.ij),(.fn 135 [(.kv 3 fun j_=>[(iP s.im),(jJ s.gW),(jN s.ij)].getD j_ .any)])] _),tB 47 (by rw[hu];rfl:(!(vz s))=false),tF 50 (s.iz<1) ae,tF 54 (4<s.iz) ae,tB 62 (by simp[e1]:((s.ij.length:Int) != s.iz)=false),iq (s.iz+(s.params.length:Int)) ae,tB 73 (by simp[e2]:(s.im != (s.iz+(s.params.length:Int)))=false),tF 79 (4<(s.params.length:Int)) ae,.c (Vv 136 s.params (fun i=>akX _ (g.params i)) ae:gU 17 [(jW s.params),(.fn 136 [])] _)]<|rQ (bP (!(!(Dw s)))) (bP (Dw s)) (nc aj)) ah 
theorem XK(s:jr)(g:s.jg)(sm:s.ml):gU 82 [kZ s] (bP (mD s)):=by
 by_cases c1:0<=s.im/\s.im<=8/\s.gW.length<=200/\s.ij.length<=200
 rotate_left
 .rw [show mD s=false by unfold mD;rw[aT c1];rfl]
  exact akZ s g sm c1
 obtain⟨i0,i8,l1,l2⟩:=c1;by_cases c2:FO s=true
 rotate_left
 .rw [show mD s=false by unfold mD;rw[aM c2];simp]
  obtain⟨N,n1,n2,n3⟩:=xP c2;exact ak0 s g sm i0 i8 l1 l2 N n1 (fun k hk=>by simpa using n3 k hk) (by simpa using n2)
 have iH:∀ k,k<s.gW.length->jF (s.gW.getD k iW) (s.im+(k:Int))=true:=fun k hk=>bH.1 c2 k (bJ.2 hk)
 cases hu:vz s with
 |false=>
  rw[show mD s=false by unfold mD;rw[hu];simp];exact ak1 s g sm i0 i8 l1 l2 iH hu
 |true=>
  by_cases c3:1<=s.iz/\s.iz<=4/\(s.ij.length:Int)=s.iz/\s.im=s.iz+(s.params.length:Int)/\s.params.length<=4
  .rw [show mD s=Dw s by unfold mD;rw[aS (⟨i0,i8,l1,l2⟩:_/\_),c2,hu,aS c3];simp]
   obtain⟨s1,s4,e1,e2,p4⟩:=c3;exact ak3 s g sm i0 i8 l1 l2 iH hu s1 s4 e1 e2 p4
  .rw [show mD s=false by unfold mD;rw[aT c3];simp]
   exact ak2 s g sm i0 i8 l1 l2 iH hu c3
theorem Kk(s:jr)(b:List RI)(gb:∀ i,(b.getD i jt).jg)(nE:b.length<=1000):gU 42 [(kZ s),(jW b)] (bP (pW s.iz b)):=by
 exact tr true Tryz.call42 Tryz.func42 (.w ((b.length:Int)=s.iz)
  (fun k1=>chain [tB 9 (aK k1),.c (Vv 83 b (fun i=>ZP _ (gb i)) nE:gU 17 [(jW b),(.fn 83 [])] _)]<|rQ (bP (!(!((List.range b.length).all fun i=>ny (b.getD i jt))))) (bP (pW s.iz b)) (nc (by unfold pW;simp[k1])))
  (fun k1=>chain [tB 9 (aJ k1)]<|rQ (bP false) (bP (pW s.iz b)) (nc (by unfold pW;simp[k1])))) ah 
theorem ac5(s:jr)(g:s.jg)(sm:s.ml)(x:List RI)(gx:∀ i,(x.getD i jt).jg)(ln:x.length<=1000)(d:RD)(gd:d.jg)(p:Int)(hd:¬d.Ok):gU 41 [(kZ s),(jW x),(mr d),(iP p)] (bP (mv s x d p)):=by
 have u4:xE d=false:=aM fun q=>hd (vy.1 q)
 exact tr true Tryz.call41 Tryz.func41 (chain [.c (XK _ g sm:gU 82 [(kZ s)] _)]<|.w (mD s=true)
  (fun k1=>chain [tB 10 (k1),.c (Kk s x gx ln)]<|.w (pW s.iz x=true)
   (fun k2=>chain [tB 14 (k2),.c (A5 _ af false (by simp[hd]):gU 68 [(mr d)] _)]<|rQ (bP false) (bP (mv s x d p)) (nc (by unfold mv;simp[u4,k1,k2])))
   (fun k2=>chain [tB 14 (aM k2)]<|rQ (bP false) (bP (mv s x d p)) (nc (by unfold mv;simp[u4,k1,k2]))))
  (fun k1=>chain [tB 10 (aM k1)]<|rQ (bP false) (bP (mv s x d p)) (nc (by unfold mv;simp[u4,k1])))) ah 
theorem ac6(s:jr)(g:s.jg)(sm:s.ml)(x:List RI)(gx:∀ i,(x.getD i jt).jg)(ln:x.length<=1000)(d:RD)(gd:d.jg)(p:Int)(hd:d.Ok):gU 41 [(kZ s),(jW x),(gY d.dy),(iP p)] (bP (mv s x d p)):=by
 have u4:xE d=true:=vy.2 hd;have hv:=hd.valid;exact tr true Tryz.call41 Tryz.func41 (chain [.c (XK _ g sm:gU 82 [(kZ s)] _)]<|.w (mD s=true)
  (fun k1=>chain [tB 10 (k1),.c (Kk s x gx ln)]<|.w (pW s.iz x=true)
   (fun k2=>chain [tB 14 (k2),.c (qp _ af:gU 68 [(gY d.dy)] _),.c (nU _ af:gU 35 [(gY d.dy)] _)]<|.w (0<(Dy.iJ d.dy))
    (fun k3=>chain [tB 23 (aS k3)]<|.w (8<=p)
     (fun k4=>chain [tB 27 (aS k4)]<|rQ (bP (decide (p<=512))) (bP (mv s x d p)) (nc (by unfold mv;simp[u4,k1,k2,k3,k4])))
     (fun k4=>chain [tB 27 (aT k4)]<|rQ (bP false) (bP (mv s x d p)) (nc (by unfold mv;simp[u4,k1,k2,k3,k4]))))
    (fun k3=>chain [tB 23 (aT k3)]<|rQ (bP false) (bP (mv s x d p)) (nc (by unfold mv;simp[u4,k1,k2,k3]))))
   (fun k2=>chain [tB 14 (aM k2)]<|rQ (bP false) (bP (mv s x d p)) (nc (by unfold mv;simp[u4,k1,k2]))))
  (fun k1=>chain [tB 10 (aM k1)]<|rQ (bP false) (bP (mv s x d p)) (nc (by unfold mv;simp[u4,k1])))) ah 
theorem RG(s:jr)(g:s.jg)(sm:s.ml)(x:List RI)(gx:∀ i,(x.getD i jt).jg)(ln:x.length<=1000)(d:RD)(gd:d.jg)(p:Int):gU 41 [kZ s,jW x,mr d,iP p] (bP (mv s x d p)):=by
 by_cases hd:d.Ok
 .have:=ac6 s g sm x gx ln d gd p hd
  rwa[<-KO,hd.eq gd]at this
 .exact ac5 s g sm x gx ln d gd p hd
open Go.RowKit Fp Pu
theorem Vp{a b c d e f:Int}(ha:ku .i64 a)(hb:ku .i64 b)(hc:ku .i64 c)(hd:ku .i64 d)(he:ku .i64 e)(hf:ku .i64 f):
 Tryz.prog.keyLits 10 99 [.int .i64 a,.int .i64 b,.int .i64 c,.int .i64 d,.int .i64 e,.int .i64 f]=some [.int .i64 a,.int .i64 b,.int .i64 c,.int .i64 d,.int .i64 e,.int .i64 f]:=by
 have c1:Tryz.prog.cellsOf 99=6:= ah ;have c2:Tryz.prog.cellsOf 3=1:= ah ;have c3:Tryz.prog.cellsOf 97=2:= ah ;have r:Tryz.prog.keyLits 9 97 [.int .i64 e,.int .i64 f]=some [.int .i64 e,.int .i64 f]:=by
  unfold Program.keyLits;rw[Tryz.underlying97];simp[c3,c2,eZ,Ag he,Ag hf]
 unfold Program.keyLits;rw[Tryz.underlying99];simp[c1,c2,c3,eZ,Ag ha,Ag hb,Ag hc,Ag hd,r]
theorem I8{a b c d e f a' b' c' d' e' f':Int}(ha:ku .i64 a)(hb:ku .i64 b)(hc:ku .i64 c)(hd:ku .i64 d)(he:ku .i64 e)(hf:ku .i64 f)
 (CF:ku .i64 a') (mP:ku .i64 b') (yg:ku .i64 c') (Bd:ku .i64 d') (he':ku .i64 e') (hf':ku .i64 f'):
 pD Tryz.prog .eql 99 (.agg [iP a,iP b,iP c,iP d,iP e,iP f]) (.agg [iP a',iP b',iP c',iP d',iP e',iP f']) (.bool (decide (a=a'/\b=b'/\c=c'/\d=d'/\e=e'/\f=f'))):=
 ahe (Vp ha hb hc hd he hf) (Vp CF mP yg Bd he' hf') ah ah rfl
theorem ur:ku .i64 0:=by unfold ku;decide
theorem alx{d:Int}(h0:0<=d)(h:d<=1073741824):IntKind.u64.wrap d=(d.natAbs:Int):=by rw[IntKind.wrap_u64];omega
open Go.RowKit Fp Pu
theorem Qv{a b:Nat}:0<=kg a b↔b<=a:=by
 unfold kg;split
 .simp;omega
 .split<;>simp<;>omega
theorem VX(m n:Nat)(hl:(gV m).length<=1000)(hn:n<=65536):gU 148 [gX (gV m),iP (n:Int)] (gX (gV (m*2^n))):=
 Fv (kA m) Tryz.call148 (fun A c w h _=>ai6 A c (gV m) n w h hl hn) fun A c B w e w' h hB r=>by rw[jD]at r;exact rl B w e w' hB r
theorem ail(m n:Nat)(hl:(gV m).length<=3000)(hn:(gV n).length<=3000):gU 149 [gX (gV m),gX (gV n)] (gX (gV (m+n))):=
 As (kA m) (kA n) Tryz.call149 (fun A c B d w h k _=>ai9 A B c d (gV m) (gV n) w h k hl hn) fun B w e w' hB r=>by rw[jD,jD]at r;exact rl B w e w' hB r
theorem VY(m n:Nat)(hl:(gV m).length<=3000)(hn:n<=m):gU 151 [gX (gV m),gX (gV n)] (gX (gV (m-n))):=
 As (kA m) (kA n) Tryz.call151 (fun A c B d w h k _=>ai7 A B c d (gV m) (gV n) w h k hl (lX hn) (by rw[jD,jD];exact hn)) fun B w e w' hB r=>by rw[jD,jD]at r;exact rl B w e w' hB r
theorem aik(m n:Nat)(hl:(gV m).length<=3000)(hn:(gV n).length<=3000):gU 150 [gX (gV m),gX (gV n)] (iP (kg m n)):=by
 refine As (kA m) (kA n) Tryz.call150 (fun A c B d w h k _=>ai1 A B c d (gV m) (gV n) w h k (vD _) (vD _) ae ae) ?_;rw[jD,jD];exact rv
theorem WG(a b:Dy)(ha:uF a)(hb:uF b):gU 98 [(gY a),(gY b)] (gY (iI a b)):=by
 obtain⟨ha1,ha2,ha3⟩:=ha;obtain⟨jc,me,pk⟩:=hb;have ba:=vK ha1;have bb:=vK jc;obtain⟨k,hk⟩:∃ k,min a.e b.e=k:=⟨_,rfl⟩
 exact tr true Tryz.call98 Tryz.func98 (.w (((gV a.m).length:Int)=0)
  (fun k1=>by
   have a0:a.m=0:=qT.1 ae;exact chain [tB 11 (aK k1)]<|rQ (gY b) (gY (iI a b)) (by rw[show iI a b=b by unfold iI;rw[aR a0]]))
  (fun k1=>by
   have a0:a.m≠0:=fun h=>k1 (by rw[qT.2 h];rfl)
   exact chain [tB 11 (aJ k1)]<|.w (((gV b.m).length:Int)=0)
    (fun k2=>by
     have b0:b.m=0:=qT.1 ae;exact chain [tB 16 (aK k2)]<|rQ (gY a) (gY (iI a b)) (by rw[show iI a b=a by unfold iI;rw[aQ a0,aR b0]]))
    (fun k2=>by
     have b0:b.m≠0:=fun h=>k2 (by rw[qT.2 h];rfl)
     have hX:(gV (a.m*2^((a.e-k).toNat))).length<=1400:=nh (by rw[qo a0];omega);have hY:(gV (b.m*2^((b.e-k).toNat))).length<=1400:=nh (by rw[qo b0];omega);have hP:=Ui hX hY;have hM:(gV ((a.m*2^((a.e-k).toNat))-(b.m*2^((b.e-k).toNat)))).length<=1400:=aX (lX (dj _ _)) hX;have hN:(gV ((b.m*2^((b.e-k).toNat))-(a.m*2^((a.e-k).toNat)))).length<=1400:=aX (lX (dj _ _)) hY;exact chain [tB 16 (aJ k2),.o 22 (.int (by rw[<-hk];split<;>omega):PV.le (.e (iP (if b.e<a.e then b.e else a.e))) (.e (iP k))),iq (a.e-k) ae,.o 28 (.int ae:PV.le (.e (iP (a.e-k))) (.e (iP ((a.e-k).toNat:Int)))),.c (VX _ _ ae ae:gU 148 [(gX (gV a.m)),(iP ((a.e-k).toNat:Int))] _),iq (b.e-k) ae,.o 35 (.int ae:PV.le (.e (iP (b.e-k))) (.e (iP ((b.e-k).toNat:Int)))),.c (VX _ _ ae ae:gU 148 [(gX (gV b.m)),(iP ((b.e-k).toNat:Int))] _)]<|.w (a.neg=b.neg)
      (fun k3=>chain [tB 41 (aK k3),.c (ail _ _ ae ae:gU 149 [(gX (gV (a.m*2^((a.e-k).toNat)))),(gX (gV (b.m*2^((b.e-k).toNat))))] _),.c (Ds _ _ _ ae ae ae:gU 76 [(bP a.neg),(gX (gV ((a.m*2^((a.e-k).toNat))+(b.m*2^((b.e-k).toNat))))),(iP k)] _)]<|rQ (gY (canon a.neg ((a.m*2^((a.e-k).toNat))+(b.m*2^((b.e-k).toNat))) k)) (gY (iI a b)) (by have h:=XG (s:=a.neg) a0 b0 hk;rw[show(⟨a.neg,b.m,b.e⟩:Dy)=b by rw[k3]]at h;exact congrArg gY h.symm))
      (fun k3=>chain [tB 41 (aJ k3),.c (aik _ _ ae ae:gU 150 [(gX (gV (a.m*2^((a.e-k).toNat)))),(gX (gV (b.m*2^((b.e-k).toNat))))] _)]<|.w (0<=(kg (a.m*2^((a.e-k).toNat)) (b.m*2^((b.e-k).toNat))))
       (fun k4=>by
        have hc:(b.m*2^((b.e-k).toNat))<=(a.m*2^((a.e-k).toNat)):=Qv.1 k4;exact chain [tB 52 (aS k4),.c (VY _ _ ae ae:gU 151 [(gX (gV (a.m*2^((a.e-k).toNat)))),(gX (gV (b.m*2^((b.e-k).toNat))))] _),.c (Ds _ _ _ ae ae ae:gU 76 [(bP a.neg),(gX (gV ((a.m*2^((a.e-k).toNat))-(b.m*2^((b.e-k).toNat))))),(iP k)] _)]<|rQ (gY (canon a.neg ((a.m*2^((a.e-k).toNat))-(b.m*2^((b.e-k).toNat))) k)) (gY (iI a b)) (congrArg gY (XE (s:=a.neg) (t:=b.neg) a0 b0 hk k3 hc).symm))
       (fun k4=>by
        have hc:(a.m*2^((a.e-k).toNat))<(b.m*2^((b.e-k).toNat)):=gw fun h=>k4 (Qv.2 h)
        exact chain [tB 52 (aT k4),.c (VY _ _ ae ae:gU 151 [(gX (gV (b.m*2^((b.e-k).toNat)))),(gX (gV (a.m*2^((a.e-k).toNat))))] _),.c (Ds _ _ _ ae ae ae:gU 76 [(bP b.neg),(gX (gV ((b.m*2^((b.e-k).toNat))-(a.m*2^((a.e-k).toNat))))),(iP k)] _)]<|rQ (gY (canon b.neg ((b.m*2^((b.e-k).toNat))-(a.m*2^((a.e-k).toNat))) k)) (gY (iI a b)) (congrArg gY (XF (s:=a.neg) (t:=b.neg) a0 b0 hk k3 hc).symm)))))) ah 
theorem BQ(a b:Dy)(ha:uF a)(hb:uF b):gU 53 [(gY a),(gY b)] (iP (jo a b)):=by
 have hn:uF (iF b):=⟨hb.len,hb.lo,hb.hi⟩
 exact tr true Tryz.call53 Tryz.func53 (chain [.c (vw _:gU 47 [(gY a)] _),.c (vw _:gU 47 [(gY b)] _)]<|.w ((Dy.iJ a)=(Dy.iJ b))
  (fun k1=>chain [tB 13 (aO k1)]<|.w ((Dy.iJ a)=0)
   (fun k2=>chain [tB 18 (aK k2)]<|rQ (iP 0) (iP (jo a b)) (by rw[Cm,aQ (by simpa using k1),aR k2]))
   (fun k2=>chain [tB 18 (aJ k2),.c (Jn _ ha:gU 97 [(gY a)] _),.c (Jn _ hb:gU 97 [(gY b)] _)]<|.w ((Dy.iu a)=(Dy.iu b))
    (fun k3=>chain [tB 23 (aO k3),.c (rZ _:gU 99 [(gY b)] _),.c (WG _ _ ha hn:gU 98 [(gY a),(gY (iF b))] _),.c (vw _:gU 47 [(gY (iI a (iF b)))] _)]<|rQ (iP (Dy.iJ (iI a (iF b)))) (iP (jo a b)) (by rw[Cm,aQ (by simpa using k1),aQ k2,aQ (by simpa using k3)]))
    (fun k3=>chain [tB 23 (aP k3),.c (Jn _ ha:gU 97 [(gY a)] _),.c (Jn _ hb:gU 97 [(gY b)] _)]<|.w ((decide ((Dy.iu a)<(Dy.iu b)))=(decide (0<(Dy.iJ a))))
     (fun k4=>chain [tB 31 (aK k4)]<|rQ (iP (-1)) (iP (jo a b)) (by rw[Cm,aQ (by simpa using k1),aQ k2,aR k3,aR (by simpa using k4)]))
     (fun k4=>chain [tB 31 (aJ k4)]<|rQ (iP 1) (iP (jo a b)) (by rw[Cm,aQ (by simpa using k1),aQ k2,aR k3,aQ (by simpa using k4)])))))
  (fun k1=>chain [tB 13 (aP k1)]<|.w ((Dy.iJ a)<(Dy.iJ b))
   (fun k2=>chain [tB 16 (aS k2)]<|rQ (iP (-1)) (iP (jo a b)) (by rw[Cm,aR k1,aR k2]))
   (fun k2=>chain [tB 16 (aT k2)]<|rQ (iP 1) (iP (jo a b)) (by rw[Cm,aR k1,aQ k2])))) ah 
end Go.Proofs.YtdgnpeddgdclhaaGreatDoor
