/- Lemmas that the last file uses. -/
import Derived.Test.YtkjkcjhacddojaaGreatDoorM03
import Derived.DeepKeys
set_option linter.unusedSimpArgs false
set_option linter.unusedVariables false
set_option linter.defProp false
set_option maxHeartbeats 4000000
open Go.Proofs.Tryz
namespace Go.Proofs.YtkjkcjhacddojaaGreatDoor
open Go.RowKit Fp Pu
def th(z:Rat)(k:Nat):Rat:=nK z (2*k+1)/((2*k+1:Nat):Rat)
def AQ(z:Rat)(N:Nat):Rat:=iM (th z) (N+1)
def nV(z:Iv)(p:Nat):Nat->Iv
 | 0=>z
 |k+1=>iO (nV z p k) (oF z p) p
def uE(z:Iv)(p:Nat):Nat->Iv
 | 0=>z
 |k+1=>jl (uE z p k) (jT (nV z p (k+1)) (jF ((2*k+3:Nat):Int)) p) p
noncomputable def Dz(z:Iv)(p N:Nat):Iv:=mS (jl (uE z p N) (qT (nV z p N)) p) 1
theorem xR{z:Iv}(hz:z.ic){p:Nat}(im:8<=p)(ia:p<=512):∀ k,(nV z p k).ic
 | 0=>hz
 |_+1=>qj _ _ ae ae 
theorem BV{z:Iv}(hz:z.ic){p:Nat}(im:8<=p)(ia:p<=512):∀ k,(uE z p k).ic
 | 0=>hz
 |k+1=>si (BV hz im ia k) (wD _ _ ae ae) ae ae 
theorem agL{z:Iv}(hz:z.ic){p:Nat}(im:8<=p)(ia:p<=512)(N:Nat):(Dz z p N).ic:=JW (si (BV hz im ia N) (CC (xR hz im ia N)) ae ae) 1
theorem OI(r:Rat)(k:Nat):nK r (2*(k+1)+1)=nK r (2*k+1)*(r*r):=by
 show nK r (2*k+1)*r*r=_
 grind
theorem Np{z:Iv}{r:Rat}(hz:z.ic)(h:z.jU r){p:Nat}(im:8<=p)(ia:p<=512):∀ k,(nV z p k).jU (nK r (2*k+1))
 | 0=>by
  have e:nK r (2*0+1)=r:=by show 1*r=r;grind
  rw[e];exact h
 |k+1=>by
  rw[OI];exact Jo (xR hz im ia k) (J5 hz ae ae) ae ae (Np hz h im ia k) (OZ hz ae ae h)
theorem UZ{z:Iv}{r:Rat}(hz:z.ic)(h:z.jU r){p:Nat}(im:8<=p)(ia:p<=512):∀ k,k<1000000->(uE z p k).jU (AQ r k)
 | 0,_=>by
  have e:AQ r 0=r:=by
   show 0+1*r/((2*0+1:Nat):Rat)=r;have:((2*0+1:Nat):Rat)=1:=rfl;rw[this,cC,show(1:Rat)⁻¹=1 by decide +kernel];grind
  rw[e];exact h
 |k+1,hk=>yA (BV hz im ia k) (wD _ _ ae ae) ae ae (UZ hz h im ia k ae)
  (Ht (xR hz im ia (k+1)) (NK (2*k+3) ae) ae ae (Np hz h im ia (k+1)) (VZ (2*k+3)))
theorem KC(r:Rat):∀ n,je (nK r n)=nK (je r) n
 | 0=>by show je 1=1;decide +kernel
 |n+1=>by simp only[nK];rw[yz,KC r n]
theorem ZI(r:Rat)(k:Nat):je (th r k)<=nK (je r) (2*k+1):=by
 unfold th;have hp:(0:Rat)<((2*k+1:Nat):Rat):=AM (2*k);have h1:(1:Rat)<=((2*k+1:Nat):Rat):=by
  have:=cY (a:=1) (b:=2*k+1);exact this.2 ae 
 have h0:=yd (mT r).1 (2*k+1);rw[cC,yz,KC];have hi:=fw.2 hp;have e:je (((2*k+1:Nat):Rat)⁻¹)=((2*k+1:Nat):Rat)⁻¹:=by unfold je;rw[aS (bw hi)]
 rw[e,<-cC];have x0:=Ru h0 hp;have xc:=dq (a:=nK (je r) (2*k+1)) (b:=((2*k+1:Nat):Rat)) aq;generalize nK (je r) (2*k+1)/((2*k+1:Nat):Rat)=x at *
 have:=cB h1 x0
 grind
theorem P8{r:Rat}(hr:je r*2<=1)(N:Nat):∀ d,iM (λi=>je (th r (N+1+i))) d+nK (je r) (2*(N+d)+1)<=nK (je r) (2*N+1)
 | 0=>by simp only[iM,bB];grind
 |d+1=>by
  have ih:=P8 hr N d;have h1:=ZI r (N+1+d);have e:2*(N+1+d)+1=2*(N+d+1)+1:= ae ;rw[e,OI]at h1;have e2:2*(N+(d+1))+1=2*(N+d+1)+1:= ae ;rw[e2,OI,iM];have h0:=yd (mT r).1 (2*(N+d)+1);have hz:=(mT r).1;have hs:je r*je r*4<=1:=by
   have m:=cB hr (show 0<=je r*2 by grind)
   grind
  generalize nK (je r) (2*(N+d)+1)=u at *
  generalize je r*je r=v at *
  have m2:=cB hs h0
  grind
theorem agK{z:Iv}{r:Rat}(hz:z.ic)(h:z.jU r)(hr:je r*2<=1){p:Nat}(im:8<=p)(ia:p<=512){N:Nat}(hN:N<=1000):∀ M,N<=M->(Dz z p N).jU (AQ r M*2):=by
 intro M hM;obtain⟨d,rfl⟩:∃ d,M=N+d:=⟨M-N,ae⟩
 have e1:AQ r (N+d)=AQ r N+iM (λi=>th r (N+1+i)) d:=by
  unfold AQ;rw[show N+d+1=N+1+d by omega,D7]
 have t:=P8 hr N d;have b1:=Cx (λi=>th r (N+1+i)) d;have p0:=yd (mT r).1 (2*(N+d)+1);have e2:P2 1=2:= ar ;rw[<-e2,e1];refine OP (yA (BV hz im ia N) (CC (xR hz im ia N)) ae ae (UZ hz h im ia N ae) (P7 (xR hz im ia N) (Np hz h im ia N) ?_)) 1;rw[KC];grind
theorem alv{z:Iv}(hz:z.ic)(h:Sub z (px (-1))){p:Nat}(im:8<=p)(ia:p<=512):Sub (oF z p) (px (-1)):=by
 obtain⟨za,k1,k2⟩:=h.qN rfl;replace k1:(iF (pW (-1))).q<=z.lo.q:=k1;replace k2:z.hi.q<=(pW (-1)).q:=k2;have e:P2 (-1)=1/2:= ar ;rw[lX,qO,e]at k1;rw[qO,e]at k2;have hl:=PJ za;have ha:(iZ z).ic:=Cw hz;have hq:=ha.q;have hh:(iZ z).hi.q<=1/2:=by
  unfold iZ;rw[za];show(mD z).q<=1/2;obtain⟨_,_,m⟩:=BX hz.q;have:=hz.q;rcases m with m|m<;>grind
 have G1:=z8 (p:=p) ae (n:=-1) ag ag;have A:=tV (tn (iZ z).lo (iZ z).lo) (p:=p) ae ae;have B:=uM (tn (iZ z).hi (iZ z).hi) (p:=p) ae ae;rw[vS]at A B;rw[e]at G1;have iI:0<=(iZ z).lo.q*(iZ z).lo.q:=bM hl hl;have hhi:(iZ z).hi.q*(iZ z).hi.q<=1/2:=by
  have h0:0<=(iZ z).hi.q:=bA hl hq;have m:=cB hh h0
  grind
 have a1:=A.2 (-(1/2)) G1.neg aq;have b1:=B.2 (1/2) G1 hhi;unfold oF kI;rw[Ad,za];simp only[bq,a7];rw[aR ae];refine .inr ⟨rfl,?_,?_⟩
 .show (iF (pW (-1))).q<=_
  rw[lX,qO,e];exact a1.2
 .show _<=(pW (-1)).q
  rw[qO,e];exact b1.2
theorem UY{z:Iv}(hz:z.ic)(h:Sub z (px (-1))){p:Nat}(im:8<=p)(ia:p<=512):∀ k,k<=900->Sub (nV z p k) (px (-((k+1:Nat):Int)))
 | 0,_=>h
 |k+1,hk=>by
  have ih:=UY hz h im ia k ae;have sq:=alv hz h im ia;have vT:=xR hz im ia k;obtain⟨ta,_⟩:=ih.qN rfl;obtain⟨ya,_⟩:=sq.qN rfl;exact Em (FJ vT (J5 hz ae ae) ta ya (show 1<=p by omega) ae) ae ae ae (by
   rintro r ⟨a,b,ha,hb,rfl⟩;obtain⟨a1,a2⟩:=CE.1 (ih.jU ha);obtain⟨b1,b2⟩:=CE.1 (sq.jU hb);rw[<-Te];exact PM a1 a2 b1 b2)
theorem agM{z:Iv}(hz:z.ic)(h:z.all=true\/Sub z (px (-1))){p:Nat}(im:8<=p)(ia:p<=512):∃ N,N<=1000/\(∀ x,x<N->oJ (nV z p x) p=false)/\oJ (nV z p N) p=true:=by
 have ex:∃ x,x<900/\oJ (nV z p x) p=true:=by
  rcases h with h|h
  .exact ⟨0,ae,by show oJ z p=true;unfold oJ;rw[h];rfl⟩
  .exact ⟨p,ae,YL (xR hz im ia _) (UY hz h im ia p ae)⟩
 obtain⟨N,n1,n2,n3⟩:=qx ex;exact⟨N,ae,n3,n2⟩
theorem ZY{a b:Rat}(h:a<=b)(k:Nat):th a k<=th b k:=by
 unfold th;rw[cC,cC];exact b9 (OH ae h) (bw (fw.2 (AM (2*k))))
theorem GP{a b:Rat}(h:a<=b)(N:Nat):AQ a N<=AQ b N:=Cn _ λk _=>ZY h k
theorem F8{d:Dy}(h:d.m≠0):je d.q<P2 d.iw:=by
 have hT:d.iw=(ie d.m:Int)+d.e:=by unfold Dy.iw;rw[aR h]
 have h1:(d.m:Rat)<((2^ie d.m:Nat):Rat):=Rat.natCast_lt_natCast.2 (oY d.m);have h2:=dU h1 (ni d.e);rw[<-uY,<-qq]at h2;have h0:0<=(d.m:Rat)*P2 d.e:=bM cG (bw (ni _));have h4:je d.q=(d.m:Rat)*P2 d.e:=by
  rw[qB];unfold je;cases d.neg
  .simp only[bq,a7];rw[aS h0]
  .simp only[bn]
   split<;>grind
 rw[h4,hT];exact h2
theorem Oe{d:Dy}(h:d.m≠0):P2 (d.iw-1)<=je d.q:=by
 have hT:d.iw=(ie d.m:Int)+d.e:=by unfold Dy.iw;rw[aR h]
 have hb:0<ie d.m:=sA.2 (by rw[bO];omega);have h1:2^(ie d.m-1)<=d.m:=sA.1 ae;have h2:((2^(ie d.m-1):Nat):Rat)<=(d.m:Rat):=cY.2 h1;have h3:=b9 h2 (bw (ni d.e));rw[<-uY,<-qq,show((ie d.m-1:Nat):Int)+d.e=d.iw-1 by rw[hT];omega]at h3;have h4:je d.q=(d.m:Rat)*P2 d.e:=by
  have h0:0<=(d.m:Rat)*P2 d.e:=bM cG (bw (ni _));rw[qB];unfold je;cases d.neg
  .simp only[bq,a7];rw[aS h0]
  .simp only[bn]
   split<;>grind
 rw[h4];exact h3
theorem DL{d:Dy}(h:0<d.q):d.m≠0:=λe=>by
 have:d.q=0:=by rw[qB,e];simp
 grind
theorem GX{r:Rat}(h:0<r):je r=r:=by unfold je;rw[aS (bw h)]
def vJ(d:Dy):Rat:=d.q*P2 (-d.iw)
def zY(d:Dy):Rat:=(vJ d-1)/(vJ d+1)
theorem Pz(k:Int):P2 k*P2 (-k)=1:=by rw[<-qq,show k + -k=0 by omega,Kw]
theorem Vx{d:Dy}(h:0<d.q):1/2<=vJ d/\vJ d<1:=by
 have h1:=Oe (DL h);have h2:=F8 (DL h);rw[GX h]at h1 h2;have hp:=ni (-d.iw);have e1:=Pz d.iw;have e2:P2 (d.iw-1)*P2 (-d.iw)=1/2:=by
  rw[<-qq,show d.iw-1 + -d.iw = -1 by omega];decide +kernel
 have m1:=b9 h1 (bw hp);have m2:=dU h2 hp;unfold vJ;constructor<;>grind
theorem LM{a b:Rat}(ha:0<=a)(h:a<=b):(a-1)/(a+1)<=(b-1)/(b+1):=by
 have h1:0<a+1:= aq ;have h2:0<b+1:= aq ;have e1:=dq (a:=a-1) (b:=a+1) aq;have e2:=dq (a:=b-1) (b:=b+1) aq;generalize (a-1)/(a+1)=x at *
 generalize (b-1)/(b+1)=y at *
 apply dr.1;intro iE;have m1:=dU iE h1;have hy:y<1:=by
  apply Rat.not_le.1;intro hle;have:=b9 hle (bw h2)
  grind
 have m2:=cB h (show 0<=1-y by grind)
 grind
theorem Pq{d:Dy}(h:0<d.q):-(1/3)<=zY d/\zY d<=0:=by
 obtain⟨h1,h2⟩:=Vx h;have a:=LM (show(0:Rat)<=1/2 by decide +kernel) h1;have b:=LM (show 0<=vJ d by grind) (bw h2);have e1:((1:Rat)/2-1)/(1/2+1) = -(1/3):= ar ;have e2:((1:Rat)-1)/(1+1)=0:= ar ;rw[e1]at a;rw[e2]at b;exact⟨a,b⟩
theorem Ks(z:Rat)(N:Nat):AQ (-z) N = -AQ z N:=by
 have:∀ n,iM (th (-z)) n = -iM (th z) n:=by
  intro n
  induction n with
  |zero=>simp[iM]
  |succ n ih=>
   rw[iM,iM,ih];have:th (-z) n = -th z n:=by
    unfold th;rw[Ch,aR ae];simp only[cC];grind
   rw[this];grind
 exact this _
theorem Pr(N:Nat):AQ 0 N=0:=by
 have:=Ks 0 N;rw[show -(0:Rat)=0 by decide +kernel]at this
 grind
theorem Zo(N:Nat):0<=AQ (1/3) N:=by
 have:=GP (show(0:Rat)<=1/3 by decide +kernel) N;rwa[Pr]at this
def LQ(d:Dy)(N:Nat):Rat:=AQ (zY d) N*2+(d.iw:Rat)*(AQ (1/3) N*2)
theorem amq{a b:Dy}(ha:0<a.q)(h:a.q<=b.q):a.iw<=b.iw:=by
 have hb:0<b.q:= aq ;have h1:=Oe (DL ha);have h2:=F8 (DL hb);rw[GX ha]at h1;rw[GX hb]at h2;apply bG;intro iE;have:=Ed (show b.iw<=a.iw-1 by omega)
 grind
theorem Zy{a b:Dy}(ha:0<a.q)(h:a.q<=b.q)(N:Nat):LQ a N<=LQ b N:=by
 have hb:0<b.q:= aq ;have ht:=amq ha h;obtain⟨a1,a2⟩:=Pq ha;obtain⟨b1,b2⟩:=Pq hb;have c0:=Zo N;unfold LQ;rcases Int.lt_or_eq_of_le ht with iE|heq
 .have k1:=GP a2 N
  rw[Pr]at k1;have k2:=GP b1 N;rw[Ks]at k2;have k3:(a.iw:Rat)+1<=(b.iw:Rat):=by
   have:=fO (a:=a.iw+1) (b:=b.iw);have:=this.2 ae;rwa[Rat.intCast_add]at this
  have k4:=b9 k3 (show 0<=AQ (1/3) N*2 by grind)
  grind
 .have hm:vJ a<=vJ b:=by
   unfold vJ;rw[heq];exact b9 h (bw (ni _))
  have hz:zY a<=zY b:=LM (by have:=(Vx ha).1;grind) hm;have:=GP hz N;rw[heq]
  grind
theorem Zz(N:Nat):LQ ⟨false,1,0⟩ N=0:=by
 have e1:zY ⟨false,1,0⟩ = -(1/3):= ar ;have e2:((⟨false,1,0⟩:Dy).iw:Rat)=1:= ar ;unfold LQ;rw[e1,e2,Ks];grind
noncomputable def tO(d:Dy)(p:Nat):Iv:=mS (lR (mo d) p) (-d.iw)
noncomputable def DA(d:Dy)(p:Nat):Iv:=jT (jl (tO d p) (jF (-1)) p) (jl (tO d p) (jF 1) p) p
theorem YQ{d:Dy}(hd:d.ic)(h:d.m≠0):-16384<=d.iw-1/\d.iw<=16384:=by
 have hT:d.iw=(ie d.m:Int)+d.e:=by unfold Dy.iw;rw[aR h]
 have hb:0<ie d.m:=sA.2 (by rw[bO];omega);have h1:=hd.range;unfold mW at h1;have h2:=hd.exp;constructor
 .omega
 .rw [hT]
  first|omega|(rcases h1 with h1|h1<;>first|omega|exact absurd h1 h)
theorem aku{d:Dy}(hd:d.ic)(h:0<d.q){p:Nat}(im:8<=p)(ia:p<=512)(ha:(lR (mo d) p).all=false):P2 (d.iw-1)<=(lR (mo d) p).lo.q/\(lR (mo d) p).hi.q<=P2 d.iw:=by
 have hm:=DL h;obtain⟨t1,t2⟩:=YQ hd hm;have q1:=Oe hm;have q2:=F8 hm;rw[GX h]at q1 q2;have A:=tV hd.canon (p:=p) ae ae;have B:=uM hd.canon (p:=p) ae ae;have G1:G p (P2 (d.iw-1)):=.inl ⟨1,d.iw-1,by rw[u5];omega,t1,by rw[u5];omega,aj⟩;have he:¬(jx d p false≠0\/jx d p true≠0):=by
  intro hc;unfold lR kI at ha;rw[show(mo d).all=false from rfl]at ha;simp only[bq,a7]at ha;rw[aS (show jx (mo d).lo p false≠0\/jx (mo d).hi p true≠0 from hc)]at ha;cases ha
 have e1:(lR (mo d) p).lo=jh d p false/\(lR (mo d) p).hi=jh d p true:=by
  unfold lR kI;rw[show(mo d).all=false from rfl];simp only[bq,a7];rw[aR (show ¬(jx (mo d).lo p false≠0\/jx (mo d).hi p true≠0)from he)];exact⟨rfl,rfl⟩
 rw[e1.1,e1.2];refine⟨(A.2 _ G1 q1).2,?_⟩;by_cases ht:d.iw<=16383
 .have G2:G p (P2 d.iw):=.inl ⟨1,d.iw,by rw[u5];omega,ae,by rw[u5];omega,aj⟩
  exact(B.2 _ G2 (bw q2)).2
 .obtain ⟨g,_⟩:=B.1 ae 
  have TW:0<=(jh d p true).q:=bA (bw h) (B.1 ae).2;obtain⟨m,e,hb,_,hr,hv⟩:=g.pos TW;rw[hv];have h1:(m:Rat)<=((2^ie m:Nat):Rat):=cY.2 (cX (oY m));have h2:=b9 h1 (bw (ni e));rw[<-uY,<-qq]at h2;exact bA h2 (Ed ae)
theorem ag3{d:Dy}(hd:d.ic){p:Nat}(im:8<=p)(ia:p<=512):(tO d p).jU (vJ d):=OP (Gm (vR hd) ae ae (N8 d)) _
theorem ag5{d:Dy}(hd:d.ic){p:Nat}(im:8<=p)(ia:p<=512):(tO d p).ic:=JW (DX (vR hd) ae ae) _
theorem ag4{d:Dy}(hd:d.ic)(h:0<d.q){p:Nat}(im:8<=p)(ia:p<=512)(ha:(tO d p).all=false):1/2<=(tO d p).lo.q/\(tO d p).hi.q<=1:=by
 unfold tO mS at ha ⊢;cases ra:(lR (mo d) p).all
 .rw [ra]at ha
  obtain⟨h1,h2⟩:=aku hd h im ia ra;simp only[bq,a7]at ha ⊢;unfold kI at ha ⊢;split
  .rename_i he
   rw[aS he]at ha;cases ha
  .rename_i he
   have e1:=Pz d.iw;have e2:P2 (d.iw-1)*P2 (-d.iw)=1/2:=by
    rw[<-qq,show d.iw-1 + -d.iw = -1 by omega];decide +kernel
   refine⟨?_,?_⟩
   .show 1/2<=(s8 _ _).q
    rw[A5 ae,<-e2,vK];exact h1
   .show (s8 _ _).q<=1
    rw[A5 ae,<-e1,vK];exact h2
 .rw [ra]at ha;cases ha
theorem ae7{a b:Rat}(h1:-(1/2)<=a)(h2:a<=1/2)(hb:1<=b):-(1/2)<=a/b/\a/b<=1/2:=by
 have e:=dq (a:=a) (b:=b) aq;generalize a/b=x at *
 constructor
 .apply dr.1
  intro iE;have:=dU iE (show 0<b by grind)
  grind
 .apply dr.1
  intro iE;have:=dU iE (show 0<b by grind)
  grind
theorem ag6{d:Dy}(hd:d.ic)(h:0<d.q){p:Nat}(im:8<=p)(ia:p<=512):(DA d p).ic/\(DA d p).jU (zY d)/\((DA d p).all=true\/Sub (DA d p) (px (-1))):=by
 have vM:=ag5 hd im ia;have hM:=ag3 hd im ia;have vn:(jF (-1)).ic:=vN ag;have v1:(jF 1).ic:=vN ag;have vA:(jl (tO d p) (jF (-1)) p).ic:=si vM vn ae ae;have vB:(jl (tO d p) (jF 1) p).ic:=si vM v1 ae ae;have e1:(((-1:Int)):Rat) = -1:= ar ;have e2:(((1:Int)):Rat)=1:= ar ;have hA:=yA vM vn (p:=p) ae ae hM (zw (-1));have hB:=yA vM v1 (p:=p) ae ae hM (zw 1);rw[e1,show vJ d + -1=vJ d-1 by grind]at hA;rw[e2]at hB;refine⟨wD _ _ ae ae,Ht vA vB ae ae hA hB,?_⟩;cases ma:(tO d p).all
 .right
  obtain⟨m1,m2⟩:=ag4 hd h im ia ma;have one:∀ (n:Int) r,(jF n).jU r->r=(n:Rat):=λn r hr=>by
   obtain⟨r1,r2⟩:=hr.j9 rfl;replace r1:(jf n).q<=r:=r1;replace r2:r<=(jf n).q:=r2;rw[xX]at r1 r2;exact dR r2 r1
  have g1:G p (1/2):=by have:=z8 (p:=p) ae (n:=-1) ag ag;rwa[show P2 (-1)=1/2 by decide +kernel]at this
  have g2:G p 1:=by have:=z8 (p:=p) ae (n:=0) ag ag;rwa[Kw]at this
  have g4:G p 2:=by have:=z8 (p:=p) ae (n:=1) ag ag;rwa[show P2 1=2 by decide +kernel]at this
  obtain⟨aa,a1,a2⟩:=(Ei vM vn ma rfl (show 1<=p by omega) ae).xf (-(1/2)) (1/2) g1.neg g1 (by
   rintro r ⟨a,b,ha,hb,rfl⟩;obtain⟨b1,b2⟩:=ha.j9 ma;rw[one _ b hb,e1];constructor<;>grind)
  obtain⟨ba,b1,b2⟩:=(Ei vM v1 ma rfl (show 1<=p by omega) ae).xf 1 2 g2 g4 (by
   rintro r ⟨a,b,ha,hb,rfl⟩;obtain⟨b1,b2⟩:=ha.j9 ma;rw[one _ b hb,e2];constructor<;>grind)
  refine Em (CP vA vB aa (J3 ba (.inl aq)) (show 1<=p by omega) ae) ae ag ag ?_;rintro r ⟨a,b,ha,hb,rfl⟩;obtain⟨x1,x2⟩:=ha.j9 aa;obtain⟨y1,y2⟩:=hb.j9 ba;rw[show P2 (-1)=1/2 by decide +kernel];exact ae7 aq aq aq 
 .left
  show(jT (jl (tO d p) (jF (-1)) p) (jl (tO d p) (jF 1) p) p).all=true;rw[Cy p (.inl ma),Bo p (.inl rfl)];rfl
theorem adA{d:Dy}(hd:d.ic)(h:d.m≠0){p:Nat}(im:8<=p)(ia:p<=512){n:Int}(h1:d.iw<=n)(h2:-1000<=n)(h3:n<=1000):Sub (lR (mo d) p) (px n):=by
 refine akt (vR hd) ae ae h2 h3 (.inr ⟨rfl,?_,?_⟩)
 .show (iF (pW n)).q<=d.q
  rw[lX,qO];have:=F8 h;have hl:=Ed h1;obtain⟨_,a2,a3,_⟩:=mT d.q
  grind
 .show d.q<=(pW n).q
  rw[qO];have:=F8 h;have hl:=Ed h1;obtain⟨_,a2,a3,_⟩:=mT d.q
  grind
def Za(y:Iv)(p n:Nat)(x:Nat):PS:=⟨32,true,[(7,.e (iP (((x+1):Nat):Int))),(6,.box 6 0),(5,.box 5 0),(4,.box 4 0),(3,.box 3 0),(2,.box 2 0)],[(6,.cells 46 (ja (tz y p x))),(5,.cells 46 (ja (lF y p x))),(4,.cells 46 [(bP false),(.v (.slice none 0 0)),(iP 0),(bP false),(.v (.slice none 0 0)),(iP 0),(bP false)]),(3,.cells 46 (ja y)),(2,.cells 257 [(iP p)])]⟩
theorem agP{f:Nat->Rat}{X Y:Iv}(h:pv f X)(k:∀ r,X.jU r->Y.jU r):pv f Y:=λε hε=>by
 obtain⟨N0,h0⟩:=h ε hε;exact⟨N0,λN hN=>by obtain⟨r,h1,h2⟩:=h0 N hN;exact⟨r,k r h1,h2⟩⟩
theorem ivW{x:Iv}(hx:x.ic)(ha:x.all=true):x=ig:=by
 obtain⟨h1,h2⟩:=Ng hx ha;obtain⟨a,b,c⟩:=x;simp only at h1 h2 ha;rw[h1,h2,ha];rfl
theorem aaj(x:Iv)(hx:x.ic)(xa:x.all=true)(k:Int)(k1:-32768<=k)(k2:k<=32768):gW 344 [(ib x),(iP k)] (ib (mS x k)):=
 tr true call344 func344 (chain [.o 10 (.e (mH _):PV.le (.e (.sl true 1 7 λi_ j_=>(ja x).getD (i_*7+j_) (.v (.bool false)))) (.e (ij [x]))),.c (pS _ af:gW 93 [(ij [x])] _),tB 11 (by rw[xa];rfl:(!x.all)=false),.c nF]<|rQ (ib ig) (ib (mS x k)) (by rw[show(mS x k)=ig by unfold mS;rw[aS xa]])) ah 
theorem aak(x:Iv)(hx:x.ic)(xa:x.all=false)(k:Int)(k1:-32768<=k)(k2:k<=32768):gW 344 [(ib x),(iP k)] (ib (mS x k)):=by
 obtain⟨v1,v2⟩:=hx.j9;exact tr true call344 func344 (chain [.o 10 (.e (mH _):PV.le (.e (.sl true 1 7 λi_ j_=>(ja x).getD (i_*7+j_) (.v (.bool false)))) (.e (ij [x]))),.c (pS _ af:gW 93 [(ij [x])] _),tB 11 (by rw[xa];rfl:(!x.all)=true),.c (KK x.lo k af ae ae),.c (KK x.hi k af ae ae),.c (BS (kG (canon x.lo.neg x.lo.m (x.lo.e+k))) (kG (canon x.hi.neg x.hi.m (x.hi.e+k))) (mP (canon x.lo.neg x.lo.m (x.lo.e+k))) (mP (canon x.hi.neg x.hi.m (x.hi.e+k))))]<|rQ (ib (kI (kG (canon x.lo.neg x.lo.m (x.lo.e+k))) (mP (canon x.lo.neg x.lo.m (x.lo.e+k))) (kG (canon x.hi.neg x.hi.m (x.hi.e+k))) (mP (canon x.hi.neg x.hi.m (x.hi.e+k))))) (ib (mS x k)) (by unfold mS;rw[aR (by rw[xa];decide)];simp only[akN,akO])) ah 
theorem KJ(x:Iv)(hx:x.ic)(k:Int)(k1:-32768<=k)(k2:k<=32768):gW 344 [(ib x),(iP k)] (ib (mS x k)):=by
 cases xa:x.all with
 |true=>exact aaj x hx xa k k1 k2
 |false=>exact aak x hx xa k k1 k2
theorem aah(x:Iv)(hx:x.ic)(xa:x.all=true)(p:Nat)(im:8<=p)(ia:p<=512):gW 386 [(ib x),(iP p)] (ib (lR x p)):=
 tr true call386 func386 (chain [.o 10 (.e (mH _):PV.le (.e (.sl true 1 7 λi_ j_=>(ja x).getD (i_*7+j_) (.v (.bool false)))) (.e (ij [x]))),.c (pS _ af:gW 93 [(ij [x])] _),tB 11 (by rw[xa];rfl:(!x.all)=false),.c nF]<|rQ (ib ig) (ib (lR x p)) (by rw[show(lR x p)=ig by unfold lR;rw[aS xa]])) ah 
theorem aai(x:Iv)(hx:x.ic)(xa:x.all=false)(p:Nat)(im:8<=p)(ia:p<=512):gW 386 [(ib x),(iP p)] (ib (lR x p)):=by
 obtain⟨v1,v2⟩:=hx.j9;exact tr true call386 func386 (chain [.o 10 (.e (mH _):PV.le (.e (.sl true 1 7 λi_ j_=>(ja x).getD (i_*7+j_) (.v (.bool false)))) (.e (ij [x]))),.c (pS _ af:gW 93 [(ij [x])] _),tB 11 (by rw[xa];rfl:(!x.all)=true),.c (vH _:gW 147 [(iP p)] _),tB 15 (pn.2 ⟨ae,ae⟩:(lE (p:Int))=true),.c (G5 x.lo p af ae ae),.c (G6 x.hi p af ae ae),.c (BS (jh x.lo p false) (jh x.hi p true) (jx x.lo p false) (jx x.hi p true))]<|rQ (ib (kI (jh x.lo p false) (jx x.lo p false) (jh x.hi p true) (jx x.hi p true))) (ib (lR x p)) (by unfold lR;rw[aR (by rw[xa];decide)])) ah 
theorem Ek(x:Iv)(hx:x.ic)(p:Nat)(im:8<=p)(ia:p<=512):gW 386 [(ib x),(iP p)] (ib (lR x p)):=by
 cases xa:x.all with
 |true=>exact aah x hx xa p im ia
 |false=>exact aai x hx xa p im ia
theorem aal(x:Iv)(hx:x.ic)(xa:x.all=true)(p:Nat)(im:8<=p)(ia:p<=512):gW 402 [(ib x),(iP p)] (ib (oF x p)):=by
 have ha:(iZ x).all=true:=by rw[Ad,xa]
 exact tr true call402 func402 (chain [.c (Nc x af),tB 13 (ha:(iZ x).all=true),.c nF]<|rQ (ib ig) (ib (oF x p)) (by unfold oF;rw[aS ha])) ah 
theorem aam(x:Iv)(hx:x.ic)(xa:x.all=false)(p:Nat)(im:8<=p)(ia:p<=512):gW 402 [(ib x),(iP p)] (ib (oF x p)):=by
 have ha:(iZ x).all=false:=by rw[Ad,xa]
 have hv:=Cw hx;obtain⟨v1,v2⟩:=hv.j9;exact tr true call402 func402 (chain [.c (Nc x af),tB 13 (ha:(iZ x).all=false),.c (vH _:gW 147 [(iP p)] _),tB 16 (pn.2 ⟨ae,ae⟩:(lE (p:Int))=true),.c (JI ((iZ x).lo) ((iZ x).lo) p af af ae ae),.c (JJ ((iZ x).hi) ((iZ x).hi) p af af ae ae),.c (BS (jh (my ((iZ x).lo) ((iZ x).lo)) p false) (jh (my ((iZ x).hi) ((iZ x).hi)) p true) (jx (my ((iZ x).lo) ((iZ x).lo)) p false) (jx (my ((iZ x).hi) ((iZ x).hi)) p true))]<|rQ (ib (kI (jh (my ((iZ x).lo) ((iZ x).lo)) p false) (jx (my ((iZ x).lo) ((iZ x).lo)) p false) (jh (my ((iZ x).hi) ((iZ x).hi)) p true) (jx (my ((iZ x).hi) ((iZ x).hi)) p true))) (ib (oF x p)) (by unfold oF;rw[aR (by rw[ha];decide)];rfl)) ah 
theorem Ql(x:Iv)(hx:x.ic)(p:Nat)(im:8<=p)(ia:p<=512):gW 402 [ib x,iP (p:Int)] (ib (oF x p)):=by
 cases xa:x.all with
 |true=>exact aal x hx xa p im ia
 |false=>exact aam x hx xa p im ia
theorem Qm(x:Iv)(hx:x.ic)(xa:x.all=true):gW 165 [(ib x)] (.ix [gZ jA,bP false]):=
 tr true call165 func165 (chain [.o 5 (.e (mH _):PV.le (.e (.sl true 1 7 λi_ j_=>(ja x).getD (i_*7+j_) (.v (.bool false)))) (.e (ij [x]))),.c (pS _ af:gW 93 [(ij [x])] _),tB 6 (by rw[xa];rfl:(!x.all)=false),.o 8 (.e wa:PV.le (.e (.agg [(bP false),(.v (.slice none 0 0)),(iP 0)])) (.e (gZ jA)))]<|.nil) ah 
theorem xp(n:Int)(h:n.natAbs<4294967296):gW 384 [(iP n)] (ib (jF n)):=by
 have hv:=sw h;exact tr true call384 func384 (chain [.c (qU _ ae:gW 180 [(iP n)] _),.c (Du (jf n) af)]<|.nil) ah 
theorem Bc(p:Nat)(x y:Iv)(hx:x.ic)(hy:y.ic)(im:8<=p)(ia:p<=512):gW 389 [(.agg [(iP p)]),(ib x),(ib y)] (ib (jl x y p)):=
 tr true call389 func389 (chain [.c (Ds x y p af af ae ae)]<|.nil) ah 
theorem Kq(p:Nat)(x y:Iv)(hx:x.ic)(hy:y.ic)(im:8<=p)(ia:p<=512):gW 391 [(.agg [(iP p)]),(ib x),(ib y)] (ib (iO x y p)):=
 tr true call391 func391 (chain [.c (Fv x y p af af ae ae)]<|.nil) ah 
theorem GF(p:Nat)(x y:Iv)(hx:x.ic)(hy:y.ic)(im:8<=p)(ia:p<=512):gW 388 [(.agg [(iP p)]),(ib x),(ib y)] (ib (jT x y p)):=
 tr true call388 func388 (chain [.c (UJ x y p af af ae ae)]<|.nil) ah 
theorem am4(p:Nat)(x:Iv)(hx:x.ic)(xa:x.all=true)(im:8<=p)(ia:p<=512):gW 403 [(.agg [(iP p)]),(ib x)] (bP (oJ x p)):=
 tr true call403 func403 (chain [.c (Qm _ hx xa:gW 165 [(ib x)] _)]<|rQ (bP true) (bP (oJ x p)) (by unfold oJ;rw[xa];rfl)) ah 
theorem YK{x:Iv}(xa:x.all=false)(p:Nat):oJ x p=(((mD x).iK==0)||decide ((mD x).iw<=0-(p:Int))):=by
 unfold oJ;rw[xa,anZ];congr 1
 .unfold Dy.iK
  by_cases h:(mD x).m=0
  .simp [h]
  .simp only[h,a7,decide_false];split<;>rfl
 .rw [show(0:Int)-p = -(p:Int)by omega]
theorem am5(p:Nat)(x:Iv)(hx:x.ic)(xa:x.all=false)(im:8<=p)(ia:p<=512):gW 403 [(.agg [(iP p)]),(ib x)] (bP (oJ x p)):=by
 have hm:=Jk hx.j9.1 hx.j9.2;exact tr true call403 func403 (chain [.c (Nf x hx xa),.c (og _ af:gW 46 [(gZ (mD x))] _)]<|.w ((Dy.iK (mD x))=0)
  (λk1=>chain [tB 17 (aM k1)]<|rQ (bP true) (bP (oJ x p)) (by rw[YK xa];simp[k1]))
  (λk1=>chain [tB 17 (aK k1),.c (oL _ af:gW 216 [(gZ (mD x))] _),iu (0-(p:Int)) ae]<|rQ (bP (decide ((Dy.iw (mD x))<=(0-(p:Int))))) (bP (oJ x p)) (by rw[YK xa];simp[k1]))) ah 
theorem Kr(p:Nat)(x:Iv)(hx:x.ic)(im:8<=p)(ia:p<=512):gW 403 [(.agg [(iP p)]),(ib x)] (bP (oJ x p)):=by
 cases xa:x.all with
 |true=>exact am4 p x hx xa im ia
 |false=>exact am5 p x hx xa im ia
theorem am8(x:Iv)(hx:x.ic)(xa:x.all=true):gW 404 [(ib x)] (ib (qT x)):=
 tr true call404 func404 (chain [.c (Qm _ hx xa:gW 165 [(ib x)] _),.c nF]<|rQ (ib ig) (ib (qT x)) (by rw[show qT x=ig by unfold qT;rw[aS xa];exact ivW hx xa])) ah 
theorem am9(x:Iv)(hx:x.ic)(xa:x.all=false):gW 404 [(ib x)] (ib (qT x)):=by
 have hm:=Jk hx.j9.1 hx.j9.2;exact tr true call404 func404 (chain [.c (Nf x hx xa),.c (yJ _ af:gW 166 [(gZ (mD x))] _)]<|rQ (ib (Iv.mk (iF (mD x)) (mD x) false)) (ib (qT x)) (by unfold qT;rw[aR (by rw[xa];decide)];try rfl)) ah 
theorem Zh(x:Iv)(hx:x.ic):gW 404 [ib x] (ib (qT x)):=by
 cases xa:x.all with
 |true=>exact am8 x hx xa
 |false=>exact am9 x hx xa
theorem amZ(y:Iv)(p n:Nat)(hy:y.ic)(im:8<=p)(ia:p<=512)(h2:n<=1000)(iI:∀ x,x<n->oJ (lF y p (x+1)) p=false)(hN:oJ (lF y p (n+1)) p=true):gW 401 [(.agg [(iP p)]),(ib y)] (ib (yK y p (n+1))):=by
 have t0:=vZ hy im ia n;have s0:=CR hy im ia n;have t1:(iO (lF y p n) y p).ic:=qj _ _ ae ae;have n1:(jF (((n+1:Nat)):Int)).ic:=B3 _ ae;have t2:(jT (iO (lF y p n) y p) (jF (((n+1:Nat)):Int)) p).ic:=wD _ _ ae ae;have a1:(jl (tz y p n) (jT (iO (lF y p n) y p) (jF (((n+1):Nat):Int)) p) p).ic:=si s0 t2 ae ae;have r1:=CC t2;exact tr true call401 func401 (chain [.c (xp _ ae:gW 384 [(iP 1)] _),.c (xp _ ae:gW 384 [(iP 1)] _),.s (Sp.jy (Za y p n) 0 n ae (λx hx kn=>by
    have t0:=vZ hy im ia x;have s0:=CR hy im ia x;have t1:(iO (lF y p x) y p).ic:=qj _ _ ae ae;have n1:(jF (((x+1:Nat)):Int)).ic:=B3 _ ae;have t2:(jT (iO (lF y p x) y p) (jF (((x+1:Nat)):Int)) p).ic:=wD _ _ ae ae;exact iC (chain [.c (Kq _ _ _ af af ae ae:gW 391 [(.agg [(iP p)]),(ib (lF y p x)),(ib y)] _),.c (xp _ ae:gW 384 [(iP (((x+1):Nat):Int))] _),.c (GF _ _ _ af af ae ae:gW 388 [(.agg [(iP p)]),(ib (iO (lF y p x) y p)),(ib (jF (((x+1):Nat):Int)))] _),.c (Bc _ _ _ af af ae ae:gW 389 [(.agg [(iP p)]),(ib (tz y p x)),(ib (jT (iO (lF y p x) y p) (jF (((x+1):Nat):Int)) p))] _),.c (Kr _ _ af ae ae:gW 403 [(.agg [(iP p)]),(ib (jT (iO (lF y p x) y p) (jF (((x+1):Nat):Int)) p))] _),tB 26 (iI x ae:(oJ (jT (iO (lF y p x) y p) (jF (((x+1):Nat):Int)) p) p)=false),iu ((((x+1):Nat):Int)+1) ae]<|.e (chain [.b 6 (.iS rfl:Bx.le (.cells 46 (ja (jl (tz y p x) (jT (iO (lF y p x) y p) (jF (((x+1):Nat):Int)) p) p))) (.cells 46 (ja (tz y p (x+1))))),.b 5 (.iS rfl:Bx.le (.cells 46 (ja (jT (iO (lF y p x) y p) (jF (((x+1):Nat):Int)) p))) (.cells 46 (ja (lF y p (x+1)))))]<|.nil)) ah)
  (λhx=>by
    exact iC (chain [.c (Kq _ _ _ af af ae ae:gW 391 [(.agg [(iP p)]),(ib (lF y p n)),(ib y)] _),.c (xp _ ae:gW 384 [(iP (((n+1):Nat):Int))] _),.c (GF _ _ _ af af ae ae:gW 388 [(.agg [(iP p)]),(ib (iO (lF y p n) y p)),(ib (jF (((n+1):Nat):Int)))] _),.c (Bc _ _ _ af af ae ae:gW 389 [(.agg [(iP p)]),(ib (tz y p n)),(ib (jT (iO (lF y p n) y p) (jF (((n+1):Nat):Int)) p))] _),.c (Kr _ _ af ae ae:gW 403 [(.agg [(iP p)]),(ib (jT (iO (lF y p n) y p) (jF (((n+1):Nat):Int)) p))] _),tB 26 (hN:(oJ (jT (iO (lF y p n) y p) (jF (((n+1):Nat):Int)) p) p)=true)]<|.nil) ah) ak:jv 4 f401 (Za y p n 0) (.exit 0) ⟨32,true,[(6,.box 6 0),(5,.box 5 0),(4,.box 4 0),(2,.box 2 0)],[(6,.cells 46 (ja (jl (tz y p n) (jT (iO (lF y p n) y p) (jF (((n+1):Nat):Int)) p) p))),(5,.cells 46 (ja (jT (iO (lF y p n) y p) (jF (((n+1):Nat):Int)) p))),(4,.cells 46 [(bP false),(.v (.slice none 0 0)),(iP 0),(bP false),(.v (.slice none 0 0)),(iP 0),(bP false)]),(2,.cells 257 [(iP p)])]⟩) (chain [.o 7 (.int aw:PV.le (.e (iP 1)) (.e (iP (((0+1):Nat):Int)))),.b 6 (.iS rfl:Bx.le (.cells 46 (ja (jF 1))) (.cells 46 (ja (tz y p 0)))),.b 5 (.iS rfl:Bx.le (.cells 46 (ja (jF 1))) (.cells 46 (ja (lF y p 0))))]<|.nil),.c (Zh _ af:gW 404 [(ib (jT (iO (lF y p n) y p) (jF (((n+1):Nat):Int)) p))] _),.c (Bc _ _ _ af af ae ae:gW 389 [(.agg [(iP p)]),(ib (jl (tz y p n) (jT (iO (lF y p n) y p) (jF (((n+1):Nat):Int)) p) p)),(ib (qT (jT (iO (lF y p n) y p) (jF (((n+1):Nat):Int)) p)))] _)]<|rR (ib (yK y p (n+1))) (.iS rfl:E.le (ib (jl (jl (tz y p n) (jT (iO (lF y p n) y p) (jF (((n+1):Nat):Int)) p) p) (qT (jT (iO (lF y p n) y p) (jF (((n+1):Nat):Int)) p)) p)) (ib (yK y p (n+1))))) ah 
theorem am0{y:Iv}(hy:y.ic)(hb:y.all=true\/Sub y (px (-1))){p:Nat}(im:8<=p)(ia:p<=512):∃ Z,Z.ic/\(∀ r,y.jU r->pv (EQ r) Z)/\gW 401 [.agg [iP (p:Int)],ib y] (ib Z):=by
 obtain⟨N,h1,h2,h3,h4⟩:=adF hy hb im ia;obtain⟨n,rfl⟩:∃ n,N=n+1:=⟨N-1,ae⟩
 exact⟨yK y p (n+1),adE hy im ia _,λr hr=>adD hy hr hb im ia h1 h2,amZ y p n hy im ia ae (λx hx=>h3 (x+1) ae ae) h4⟩
theorem am2(y Z:Iv)(p:Nat)(ae4:gW 401 [.agg [iP (p:Int)],ib y] (ib Z)):gW 387 [(.agg [(iP p)]),(ib y),(iP 0)] (ib Z):=
 tr true call387 func387 (chain [tB 8 (ag:((0:Int)==0)=true),.c (ae4:gW 401 [(.agg [(iP p)]),(ib y)] _)]<|.nil) ah 
theorem am1(y Z:Iv)(p n:Nat)(hy:y.ic)(hZ:Z.ic)(hn:n<=1000)(hH:gW 387 [.agg [iP (p:Int)],ib (mS y (-1)),iP (n:Int)] (ib Z))(im:8<=p)(ia:p<=512):gW 387 [(.agg [(iP p)]),(ib y),(iP (((n+1):Nat):Int))] (ib (oF Z p)):=
 tr true call387 func387 (chain [tB 8 (nv ae:((((n+1):Nat):Int)==0)=false),.c (KJ _ af _ ae ae:gW 344 [(ib y),(iP (-1))] _),iu ((((n+1):Nat):Int)-1) ae,.c (by rw[show(((n+1:Nat):Int)-1)=(n:Int)by omega];exact hH:gW 387 [(.agg [(iP p)]),(ib (mS y (-1))),(iP ((((n+1):Nat):Int)-1))] (ib Z)),.c (Ql _ af _ ae ae:gW 402 [(ib Z),(iP p)] _)]<|.nil) ah 
theorem Zb{p:Nat}(im:8<=p)(ia:p<=512):∀ (n:Nat) {y:Iv},n<=500->y.ic->(y.all=true\/Sub y (px ((n:Int)-1)))->∃ Z,Z.ic/\(∀ r,y.jU r->pv (EQ r) Z)/\gW 387 [.agg [iP (p:Int)],ib y,iP (n:Int)] (ib Z)
 | 0,y,_,hy,hb=>by
  obtain⟨Z,h1,h2,h3⟩:=am0 hy (by simpa using hb) im ia;exact⟨Z,h1,h2,am2 y Z p h3⟩
 |n+1,y,hn,hy,hb=>by
  have hs:=JW hy (-1);have mA:(mS y (-1)).all=true\/Sub (mS y (-1)) (px ((n:Int)-1)):=by
   rcases hb with hb|hb
   .left;unfold mS;rw[aS hb];rfl
   .have:=akQ hb
    rwa[show(((n+1:Nat):Int)-1-1)=(n:Int)-1 by omega]at this
  obtain⟨Z,h1,h2,h3⟩:=Zb im ia n ae hs mA;exact⟨oF Z p,J5 h1 ae ae,λr hr=>agN h1 (h2 _ (OP hr (-1))) ae ae,am1 y Z p n hy h1 ae h3 im ia⟩
theorem Pn(p m:Nat)(h1:p<=512)(h2:m<=1000):gW 385 [(iP p),(iP m)] (.agg [iP (((min (p+m) 512:Nat)):Int)]):=
 tr true call385 func385 (chain [iu ((p:Int)+m) ae,.o 8 (.int au:PV.le (.e (iP (if 512<(((p+m):Nat):Int)then 512 else(((p+m):Nat):Int)))) (.e (iP (((min (p+m) 512):Nat):Int))))]<|.nil) ah 
theorem ann(d:Dy)(p:Nat)(hd:d.ic)(h0:d.iK=0)(im:8<=p)(ia:p<=512):gW 367 [(gZ d),(iP p)] (ib (jF 1)):=
 tr true call367 func367 (chain [.c (og _ af:gW 46 [(gZ d)] _),tB 9 (by rw[h0];rfl:((Dy.iK d)==0)=true),.c (xp _ ae:gW 384 [(iP 1)] _)]<|.nil) ah 
theorem Gw{d:Dy}(hd:d.ic):-100000<=d.iw:=by
 unfold Dy.iw;have:=hd.exp;split<;>omega
theorem ams{d:Dy}(h:d.m=0):d.iw=0:=by unfold Dy.iw;rw[aS h]
theorem anm(d:Dy)(p:Nat)(Z:Iv)(hd:d.ic)(h0:d.iK≠0)(ht:d.iw<=100)(hZ:Z.ic)(hH:gW 387 [.agg [iP ((((min (p+(((d.iw+1).toNat)+24)) 512):Nat)):Int)],ib (lR (mo d) (min (p+(((d.iw+1).toNat)+24)) 512)),iP (((((d.iw+1).toNat):Nat)):Int)] (ib Z))(im:8<=p)(ia:p<=512):gW 367 [(gZ d),(iP p)] (ib (lR Z p)):=by
 have rX:-100000<=d.iw:=Gw hd;have vp:=vR hd;exact tr true call367 func367 (chain [.c (og _ af:gW 46 [(gZ d)] _),tB 9 (by simpa using h0:((Dy.iK d)==0)=false),.c (oL _ af:gW 216 [(gZ d)] _),iu ((Dy.iw d)+1) ae,.o 14 (.int au:PV.le (.e (iP (if 0>((Dy.iw d)+1)then 0 else((Dy.iw d)+1)))) (.e (iP ((d.iw+1).toNat:Int)))),iu (((d.iw+1).toNat:Int)+24) ae,.c (Pn _ _ ae ae:gW 385 [(iP p),(iP (((((d.iw+1).toNat)+24):Nat):Int))] _),.c (Du d af),.c (Ek _ af _ ae ae:gW 386 [(ib (mo d)),(iP (((min (p+(((d.iw+1).toNat)+24)) 512):Nat):Int))] _),.c (hH:gW 387 [(.agg [(iP (((min (p+(((d.iw+1).toNat)+24)) 512):Nat):Int))]),(ib (lR (mo d) (min (p+(((d.iw+1).toNat)+24)) 512))),(iP ((d.iw+1).toNat:Int))] _),.c (Ek _ af _ ae ae:gW 386 [(ib Z),(iP p)] _)]<|.nil) ah 
theorem alc{d:Dy}(h:d.iK≠0):d.m≠0:=λq=>h (by unfold Dy.iK;rw[aS q])
theorem Zk{d:Dy}(hd:d.ic)(ht:d.iw<=100){p:Nat}(im:8<=p)(ia:p<=512):∃ Z,Z.ic/\pv (EQ d.q) Z/\gW 367 [gZ d,iP (p:Int)] (ib Z):=by
 by_cases h0:d.iK=0
 .refine ⟨jF 1,vN ag,?_,ann d p hd h0 im ia⟩
  have hq:d.q=0:=by
   have h1:=oD d;rw[h0]at h1;have a:=h1.1.2;have b:=h1.2.2;have:¬0<d.q:=λq=>absurd (a q) ag 
   have:¬d.q<0:=λq=>absurd (b q) ag 
   grind
  rw[hq];exact pv.NQ (k:=0) λN _=>by rw[Zu];exact zw 1
 .have hm:=alc h0
  obtain⟨P,hP⟩:∃ P,P=min (p+((d.iw+1).toNat+24)) 512:=⟨_,rfl⟩
  have hb:=adA hd hm (p:=P) ae ae (n:=((d.iw+1).toNat:Int)-1) ae ae ae;obtain⟨Z,h1,h2,h3⟩:=Zb (p:=P) ae ae ((d.iw+1).toNat) ae (DX (vR hd) ae ae) (.inr hb);subst hP;refine⟨lR Z p,DX h1 ae ae,?_,anm d p Z hd h0 ht h1 h3 im ia⟩;have hl:=h2 _ (Gm (vR hd) ae ae (N8 d));exact agP hl λr hr=>Gm h1 ae ae hr
theorem Zi(a b:Iv)(ha:a.ic)(hb:b.ic):gW 366 [(ib a),(ib b)] (ib (uc a b)):=
 tr true call366 func366 (.w (a.all=true)
  (λk1=>chain [tB 6 (k1),.c nF]<|rQ (ib ig) (ib (uc a b)) (by unfold uc;simp[k1]))
  (λk1=>chain [tB 6 (aO k1)]<|.w (b.all=true)
   (λk2=>chain [tB 9 (k2),.c nF]<|rQ (ib ig) (ib (uc a b)) (by unfold uc;simp[k1,k2]))
   (λk2=>chain [tB 9 (aO k2)]<|rQ (ib (Iv.mk a.lo b.hi false)) (ib (uc a b)) (by unfold uc;simp[k1,k2])))) ah 
def s5(d:Dy):Bool:=decide (jo (lh d) (jf 1000)<=0)
theorem GI(d:Dy)(hd:d.ic):gW 365 [(gZ d)] (bP (s5 d)):=by
 have ha:=rM hd;have hi:(jf 1000).ic:=sw ag;exact tr true call365 func365 (chain [.c (Ey d af),.c (qU _ ae:gW 180 [(iP 1000)] _),.c (oe _ _ af af:gW 122 [(gZ (lh d)),(gZ (jf 1000))] _)]<|.nil) ah 
theorem Ct(x:Iv)(p:Nat)(hx:x.ic)(im:8<=p)(ia:p<=512):gW 364 [(ib x),(iP p)] (bP (!x.all)):=
 tr true call364 func364 (.w (x.all=true)
  (λk1=>chain [tB 6 (k1)]<|rQ (bP false) (bP (!x.all)) (by simp[k1]))
  (λk1=>chain [tB 6 (aO k1),.c (qY x af),tT 14 (8<=(p:Int)) ae,tT 18 ((p:Int)<=512) ae]<|rQ (bP true) (bP (!x.all)) (by simp[k1]))) ah 
theorem ana(x:Iv)(p:Nat)(hx:x.ic)(im:8<=p)(ia:p<=512)(xa:x.all=true):gW 327 [(ib x),(iP p)] (ib ig):=
 tr true call327 func327 (chain [.c (Ct _ _ af ae ae:gW 364 [(ib x),(iP p)] _),tB 7 (by rw[xa];rfl:(!x.all)=false),.c nF]<|.nil) ah 
theorem ane(x:Iv)(p:Nat)(hx:x.ic)(im:8<=p)(ia:p<=512)(xa:x.all=false)(h1:s5 x.lo=false):gW 327 [(ib x),(iP p)] (ib ig):=by
 obtain⟨w1,w2⟩:=hx.j9;exact tr true call327 func327 (chain [.c (Ct _ _ af ae ae:gW 364 [(ib x),(iP p)] _),tB 7 (by rw[xa];rfl:(!x.all)=true),.c (GI _ af:gW 365 [(gZ x.lo)] _),tB 12 (h1:(s5 x.lo)=false),.c nF]<|.nil) ah 
theorem anb(x:Iv)(p:Nat)(hx:x.ic)(im:8<=p)(ia:p<=512)(xa:x.all=false)(h1:s5 x.lo=true)(h2:s5 x.hi=false):gW 327 [(ib x),(iP p)] (ib ig):=by
 obtain⟨w1,w2⟩:=hx.j9;exact tr true call327 func327 (chain [.c (Ct _ _ af ae ae:gW 364 [(ib x),(iP p)] _),tB 7 (by rw[xa];rfl:(!x.all)=true),.c (GI _ af:gW 365 [(gZ x.lo)] _),tB 12 (h1:(s5 x.lo)=true),.c (GI _ af:gW 365 [(gZ x.hi)] _),tB 18 (h2:(s5 x.hi)=false),.c nF]<|.nil) ah 
theorem anc(x:Iv)(p:Nat)(hx:x.ic)(im:8<=p)(ia:p<=512)(xa:x.all=false)(h1:s5 x.lo=true)(h2:s5 x.hi=true)(Z1 Z2:Iv)(z1:Z1.ic)(z2:Z2.ic)(k1:gW 367 [gZ x.lo,iP (p:Int)] (ib Z1))(k2:gW 367 [gZ x.hi,iP (p:Int)] (ib Z2)):gW 327 [(ib x),(iP p)] (ib (uc Z1 Z2)):=by
 obtain⟨w1,w2⟩:=hx.j9;exact tr true call327 func327 (chain [.c (Ct _ _ af ae ae:gW 364 [(ib x),(iP p)] _),tB 7 (by rw[xa];rfl:(!x.all)=true),.c (GI _ af:gW 365 [(gZ x.lo)] _),tB 12 (h1:(s5 x.lo)=true),.c (GI _ af:gW 365 [(gZ x.hi)] _),tB 18 (h2:(s5 x.hi)=true),.c (k1:gW 367 [(gZ x.lo),(iP p)] _),.c (k2:gW 367 [(gZ x.hi),(iP p)] _),.c (Zi _ _ af af:gW 366 [(ib Z1),(ib Z2)] _)]<|.nil) ah 
theorem Vw{d:Dy}(hd:d.ic)(h:s5 d=true):d.iw<=100:=by
 by_cases h0:d.m=0
 .rw [ams h0];decide
 .unfold s5 at h
  rw[bU,po,xX]at h;have hq:=zC d;have ha:je d.q<=P2 10:=by
   have:P2 10=1024:= ar ;rw[this];have aeZ:((1000:Int):Rat)=1000:=rfl;rw[aeZ]at h;exact yy aq aq 
  have:=YP h0 ha;omega
theorem R5{a b:Iv}(ha:a.ic)(hb:b.ic)(h:a.all=false->b.all=false->a.lo.q<=b.hi.q):(uc a b).ic:=by
 unfold uc;cases xa:a.all
 .cases xb:b.all
  .exact .inr ⟨rfl,ha.j9.1,hb.j9.2,(po _ _).2 (h xa xb)⟩
  .exact mi
 .exact mi
theorem Pm{x:Iv}(hx:x.ic){p:Nat}(im:8<=p)(ia:p<=512):∃ Z,Z.ic/\gW 327 [ib x,iP (p:Int)] (ib Z):=by
 cases xa:x.all with
 |true=>exact⟨ig,mi,ana x p hx im ia xa⟩
 |false=>
  cases h1:s5 x.lo with
  |false=>exact⟨ig,mi,ane x p hx im ia xa h1⟩
  |true=>
   cases h2:s5 x.hi with
   |false=>exact⟨ig,mi,anb x p hx im ia xa h1 h2⟩
   |true=>
    obtain⟨w1,w2⟩:=hx.j9;obtain⟨Z1,z1,l1,k1⟩:=Zk w1 (Vw w1 h1) im ia;obtain⟨Z2,z2,l2,k2⟩:=Zk w2 (Vw w2 h2) im ia;exact⟨uc Z1 Z2,R5 z1 z2 λa b=>agO l1 l2 (λε hε=>Zr hx.q hε) a b,anc x p hx im ia xa h1 h2 Z1 Z2 z1 z2 k1 k2⟩
def Zc(z:Iv)(p N:Nat)(x:Nat):PS:=⟨39,true,[(8,.e (iP (((2*x+3):Nat):Int))),(7,.box 7 0),(6,.box 6 0),(5,.box 5 0),(4,.box 4 0),(2,.box 2 0)],[(7,.cells 46 (ja (uE z p x))),(6,.cells 46 (ja (nV z p x))),(5,.cells 46 (ja (oF z p))),(4,.cells 46 [(bP false),(.v (.slice none 0 0)),(iP 0),(bP false),(.v (.slice none 0 0)),(iP 0),(bP false)]),(2,.cells 257 [(iP p)])]⟩
theorem am3(z:Iv)(p N:Nat)(hz:z.ic)(im:8<=p)(ia:p<=512)(h2:N<=1000)(iI:∀ x,x<N->oJ (nV z p x) p=false)(hN:oJ (nV z p N) p=true):gW 390 [(.agg [(iP p)]),(ib z)] (ib (Dz z p N)):=by
 have hsq:=J5 hz (show 1<=p by omega) (show p<=4096 by omega);have t0:=xR hz im ia N;have s0:=BV hz im ia N;have r0:=CC t0;have a0:=si s0 r0 (show 1<=p by omega) (show p<=4096 by omega);exact tr true call390 func390 (chain [.c (Ql _ af _ ae ae:gW 402 [(ib z),(iP p)] _),.s (Sp.jy (Zc z p N) 0 N ae (λx hx kn=>by
    have t0:=xR hz im ia x;have s0:=BV hz im ia x;have q0:(iO (nV z p x) (oF z p) p).ic:=qj _ _ ae ae;have n1:(jF (((2*x+3:Nat)):Int)).ic:=B3 _ ae;have d1:(jT (iO (nV z p x) (oF z p) p) (jF (((2*x+3:Nat)):Int)) p).ic:=wD _ _ ae ae;exact iC (chain [.c (Kr p (nV z p x) af ae ae),tB 17 (iI x ae:(oJ (nV z p x) p)=false),.c (Kq p (nV z p x) (oF z p) af af ae ae),.c (xp (((2*x+3):Nat):Int) ae),.c (GF p (iO (nV z p x) (oF z p) p) (jF (((2*x+3):Nat):Int)) af af ae ae),.c (Bc p (uE z p x) (jT (iO (nV z p x) (oF z p) p) (jF (((2*x+3):Nat):Int)) p) af af ae ae),iu ((((2*x+3):Nat):Int)+2) ae]<|.e (chain [.o 8 (.int aw:PV.le (.e (iP ((((2*x+3)+2):Nat):Int))) (.e (iP (((2*(x+1)+3):Nat):Int)))),.b 7 (.iS rfl:Bx.le (.cells 46 (ja (jl (uE z p x) (jT (iO (nV z p x) (oF z p) p) (jF (((2*x+3):Nat):Int)) p) p))) (.cells 46 (ja (uE z p (x+1))))),.b 6 (.iS rfl:Bx.le (.cells 46 (ja (iO (nV z p x) (oF z p) p))) (.cells 46 (ja (nV z p (x+1)))))]<|.nil)) ah)
  (λhx=>by
    have t0:=xR hz im ia N;have s0:=BV hz im ia N;have q0:(iO (nV z p N) (oF z p) p).ic:=qj _ _ ae ae;have n1:(jF (((2*N+3:Nat)):Int)).ic:=B3 _ ae;have d1:(jT (iO (nV z p N) (oF z p) p) (jF (((2*N+3:Nat)):Int)) p).ic:=wD _ _ ae ae;exact iC (chain [.c (Kr p (nV z p N) af ae ae),tB 17 (hN:(oJ (nV z p N) p)=true)]<|.nil) ah) ak:jv 4 f390 (Zc z p N 0) (.exit 0) ⟨39,true,[(7,.box 7 0),(6,.box 6 0),(4,.box 4 0),(2,.box 2 0)],[(7,.cells 46 (ja (uE z p N))),(6,.cells 46 (ja (nV z p N))),(4,.cells 46 [(bP false),(.v (.slice none 0 0)),(iP 0),(bP false),(.v (.slice none 0 0)),(iP 0),(bP false)]),(2,.cells 257 [(iP p)])]⟩) (chain [.o 8 (.int aw:PV.le (.e (iP 3)) (.e (iP (((2*0+3):Nat):Int)))),.b 7 (.iS rfl:Bx.le (.cells 46 (ja z)) (.cells 46 (ja (uE z p 0)))),.b 6 (.iS rfl:Bx.le (.cells 46 (ja z)) (.cells 46 (ja (nV z p 0))))]<|.nil),.c (Zh _ af:gW 404 [(ib (nV z p N))] _),.c (Bc p (uE z p N) (qT (nV z p N)) af af ae ae),.c (KJ (jl (uE z p N) (qT (nV z p N)) p) af 1 ae ae)]<|rR (ib (Dz z p N)) (.refl _:E.le (ib (mS (jl (uE z p N) (qT (nV z p N)) p) 1)) (ib (Dz z p N)))) ah 
def Cu(f:Nat->Rat)(X:Iv):Prop:=∃ N0,∀ M,N0<=M->X.jU (f M)
theorem Cu.mono{f:Nat->Rat}{X Y:Iv}(h:Cu f X)(k:∀ r,X.jU r->Y.jU r):Cu f Y:=h.imp λ_ h M hM=>k _ (h M hM)
theorem Zd{z:Iv}(hz:z.ic)(hb:z.all=true\/Sub z (px (-1))){p:Nat}(im:8<=p)(ia:p<=512):∃ Z,Z.ic/\(∀ r,z.jU r->je r*2<=1->Cu (λM=>AQ r M*2) Z)/\gW 390 [(.agg [(iP p)]),(ib z)] (ib Z):=by
 obtain⟨N,h1,h2,h3⟩:=agM hz hb im ia;exact⟨Dz z p N,agL hz im ia N,λr hr ha=>⟨N,λM hM=>agK hz hr ha im ia h1 M hM⟩,am3 z p N hz im ia h1 h2 h3⟩
theorem al6{p:Nat}(im:8<=p)(ia:p<=512):(jT (jF 1) (jF 3) p).ic/\(jT (jF 1) (jF 3) p).jU (1/3)/\Sub (jT (jF 1) (jF 3) p) (px (-1)):=by
 have v1:(jF 1).ic:=vN ag;have v3:(jF 3).ic:=vN ag;have h1:=zw 1;have h3:=zw 3;refine⟨wD _ _ ae ae,?_,?_⟩
 .have:=Ht v1 v3 (p:=p) ae ae h1 h3
  rwa[show((1:Int):Rat)/((3:Int):Rat)=1/3 from rfl]at this
 .have hs:lK (jF 3)≠0:=J3 rfl (.inl (by show 0<(jf 3).q;rw[xX];decide))
  refine Em (CP v1 v3 rfl hs (p:=p) ae ae) ae ag ag ?_;rintro r ⟨a,b,ha,hb,rfl⟩;obtain⟨a1,a2⟩:=ha.j9 rfl;obtain⟨b1,b2⟩:=hb.j9 rfl;change (jf 1).q<=a at a1;change a<=(jf 1).q at a2;change (jf 3).q<=b at b1;change b<=(jf 3).q at b2;rw[xX]at a1 a2 b1 b2;have ea:a=1:=dR a2 a1;have eb:b=3:=dR b2 b1;subst ea eb;have:P2 (-1)=1/2:= ar ;rw[this];exact⟨ar,ar⟩
theorem ang(p:Nat)(Z:Iv)(hZ:Z.ic)(hL:gW 390 [.agg [iP ((((min (p+16) 512):Nat)):Int)],ib (jT (jF 1) (jF 3) (min (p+16) 512))] (ib Z))(im:8<=p)(ia:p<=512):gW 392 [(iP p)] (ib (lR Z p)):=by
 have v1:(jF 1).ic:=vN ag;have v3:(jF 3).ic:=vN ag;exact tr true call392 func392 (chain [tF 5 ((p:Int)<8) ae,tF 8 (512<(p:Int)) ae,.c (Pn p 16 ae ae),.c (xp 1 ae),.c (xp 3 ae),.c (GF (min (p+16) 512) (jF 1) (jF 3) af af ae ae),.c (hL:gW 390 [(.agg [(iP (((min (p+16) 512):Nat):Int))]),(ib (jT (jF 1) (jF 3) (min (p+16) 512)))] _),.c (Ek Z af p ae ae)]<|.nil) ah 
theorem anf{p:Nat}(im:8<=p)(ia:p<=512):∃ Z,Z.ic/\Cu (λM=>AQ (1/3) M*2) Z/\gW 392 [iP (p:Int)] (ib Z):=by
 obtain⟨t1,t2,t3⟩:=al6 (p:=min (p+16) 512) ae ae;obtain⟨Z,h1,h2,h3⟩:=Zd t1 (.inr t3) (p:=min (p+16) 512) ae ae;refine⟨lR Z p,DX h1 ae ae,(h2 _ t2 ar).mono λr hr=>Gm h1 ae ae hr,ang p Z h1 h3 im ia⟩
def yo:Iv:=⟨jA,jA,false⟩
theorem Zm:E.le (.agg [bP false,.v (.slice none 0 0),iP 0,bP false,.v (.slice none 0 0),iP 0,bP false]) (ib yo):=
 .agg (.cons (.refl _) (.cons AN (.cons (.refl _) (.cons (.refl _) (.cons AN (.cons (.refl _) (.cons (.refl _) .nil)))))))
theorem ank(d:Dy)(p:Nat)(hd:d.ic)(h1:jo d ⟨false,1,0⟩=0)(im:8<=p)(ia:p<=512):gW 368 [(gZ d),(iP p)] (ib yo):=by
 have v1:=DJ;exact tr true call368 func368 (chain [.c (KH:gW 180 [(iP 1)] _),.c (oe _ _ af af:gW 122 [(gZ d),(gZ (Dy.mk false 1 0))] _),tB 12 (by rw[h1];rfl:((jo d (Dy.mk false 1 0))==0)=true)]<|rR (ib yo) (Zm:E.le (.agg [(bP false),(.v (.slice none 0 0)),(iP 0),(bP false),(.v (.slice none 0 0)),(iP 0),(bP false)]) (ib yo))) ah 
theorem anl(d:Dy)(p:Nat)(Z Y:Iv)(hd:d.ic)(h1:¬jo d ⟨false,1,0⟩=0)(T6:-20000<=d.iw)(rX:d.iw<=20000)(hZ:Z.ic)(hY:Y.ic)(hL:gW 390 [.agg [iP ((((min (p+40) 512):Nat)):Int)],ib (jT (jl (mS (lR (mo d) (min (p+40) 512)) (0-(Dy.iw d))) (jF (-1)) (min (p+40) 512)) (jl (mS (lR (mo d) (min (p+40) 512)) (0-(Dy.iw d))) (jF 1) (min (p+40) 512)) (min (p+40) 512))] (ib Z))(hL2:gW 392 [iP ((((min (p+40) 512):Nat)):Int)] (ib Y))(im:8<=p)(ia:p<=512):gW 368 [(gZ d),(iP p)] (ib (lR (jl Z (iO (jF d.iw) Y (min (p+40) 512)) (min (p+40) 512)) p)):=by
 have v1:=DJ;have vp:=vR hd;have vr:(lR (mo d) (min (p+40) 512)).ic:=DX vp ae ae;have vs:(mS (lR (mo d) (min (p+40) 512)) (0-(Dy.iw d))).ic:=JW vr _;have n1:(jF 1).ic:=vN ag;have n2:(jF (-1)).ic:=vN ag;have a1:(jl (mS (lR (mo d) (min (p+40) 512)) (0-(Dy.iw d))) (jF (-1)) (min (p+40) 512)).ic:=si vs n2 ae ae;have a2:(jl (mS (lR (mo d) (min (p+40) 512)) (0-(Dy.iw d))) (jF 1) (min (p+40) 512)).ic:=si vs n1 ae ae;have a3:(jT (jl (mS (lR (mo d) (min (p+40) 512)) (0-(Dy.iw d))) (jF (-1)) (min (p+40) 512)) (jl (mS (lR (mo d) (min (p+40) 512)) (0-(Dy.iw d))) (jF 1) (min (p+40) 512)) (min (p+40) 512)).ic:=wD _ _ ae ae;have nt:(jF d.iw).ic:=vN ae;have m1:(iO (jF d.iw) Y (min (p+40) 512)).ic:=qj _ _ ae ae;have m2:(jl Z (iO (jF d.iw) Y (min (p+40) 512)) (min (p+40) 512)).ic:=si hZ m1 ae ae;exact tr true call368 func368 (chain [.c (KH:gW 180 [(iP 1)] _),.c (oe _ _ af af:gW 122 [(gZ d),(gZ (Dy.mk false 1 0))] _),tB 12 (by simpa using h1:((jo d (Dy.mk false 1 0))==0)=false),.c (Pn p 40 ae ae),.c (oL _ af:gW 216 [(gZ d)] _),.c (Du d af),.c (Ek (mo d) af (min (p+40) 512) ae ae),
  iu (0-(Dy.iw d)) ae,.c (KJ (lR (mo d) (min (p+40) 512)) af (0-(Dy.iw d)) ae ae),.c (xp (-1) ae),.c (Bc (min (p+40) 512) (mS (lR (mo d) (min (p+40) 512)) (0-(Dy.iw d))) (jF (-1)) af af ae ae),.c (xp 1 ae),.c (Bc (min (p+40) 512) (mS (lR (mo d) (min (p+40) 512)) (0-(Dy.iw d))) (jF 1) af af ae ae),.c (GF (min (p+40) 512) (jl (mS (lR (mo d) (min (p+40) 512)) (0-(Dy.iw d))) (jF (-1)) (min (p+40) 512)) (jl (mS (lR (mo d) (min (p+40) 512)) (0-(Dy.iw d))) (jF 1) (min (p+40) 512)) af af ae ae),.c (hL:gW 390 [(.agg [(iP (((min (p+40) 512):Nat):Int))]),(ib (jT (jl (mS (lR (mo d) (min (p+40) 512)) (0-(Dy.iw d))) (jF (-1)) (min (p+40) 512)) (jl (mS (lR (mo d) (min (p+40) 512)) (0-(Dy.iw d))) (jF 1) (min (p+40) 512)) (min (p+40) 512)))] _),.c (xp (Dy.iw d) ae),.c (hL2:gW 392 [(iP (((min (p+40) 512):Nat):Int))] _),.c (Kq (min (p+40) 512) (jF (Dy.iw d)) Y af af ae ae),.c (Bc (min (p+40) 512) Z (iO (jF (Dy.iw d)) Y (min (p+40) 512)) af af ae ae),.c (Ek (jl Z (iO (jF (Dy.iw d)) Y (min (p+40) 512)) (min (p+40) 512)) af p ae ae)]<|.nil) ah 
theorem Zj{d:Dy}(hd:d.ic)(hq:0<d.q){p:Nat}(im:8<=p)(ia:p<=512):∃ Z,Z.ic/\Cu (LQ d) Z/\gW 368 [gZ d,iP (p:Int)] (ib Z):=by
 by_cases h1:jo d ⟨false,1,0⟩=0
 .refine ⟨yo,.inr ⟨rfl,rI,rI,zg _⟩,⟨0,λM _=>?_⟩,ank d p hd h1 im ia⟩
  have e:d=⟨false,1,0⟩:=by
   refine JE hd.canon DJ.canon (dR ((po _ _).1 ae) ((po _ _).1 ?_));rw[xv];have:=xv d ⟨false,1,0⟩;omega
  rw[e,Zz];exact .inr ⟨by show jA.q<=0;rw[rk];exact bV,by show 0<=jA.q;rw[rk];exact bV⟩
 .have hm:=DL hq
  obtain⟨t1,t2⟩:=YQ hd hm;obtain⟨P,hP⟩:∃ P,P=min (p+40) 512:=⟨_,rfl⟩
  have p1:8<=P:= ae ;have p2:P<=512:= ae ;obtain⟨z1,z2,z3⟩:=ag6 hd hq p1 p2;obtain⟨Z,a1,a2,a3⟩:=Zd z1 z3 p1 p2;obtain⟨Y,b1,b2,b3⟩:=anf p1 p2;have m1:(iO (jF d.iw) Y P).ic:=qj _ _ ae ae;have m2:=si a1 m1 (p:=P) ae ae;refine⟨lR (jl Z (iO (jF d.iw) Y P) P) p,DX m2 ae ae,?_,?_⟩
  .have hz:=Pq hq
   have ha:je (zY d)*2<=1:=by
    have:=yy (x:=zY d) (b:=1/3) aq aq 
    grind
   obtain⟨N1,c1⟩:=a2 _ z2 ha;obtain⟨N2,c2⟩:=b2;refine⟨max N1 N2,λM hM=>Gm m2 ae ae ?_⟩;exact yA a1 m1 ae ae (c1 M ae) (Jo (vN ae) b1 ae ae (zw d.iw) (c2 M ae))
  .subst hP
   have e:DA d (min (p+40) 512)=jT (jl (mS (lR (mo d) (min (p+40) 512)) (0-(Dy.iw d))) (jF (-1)) (min (p+40) 512)) (jl (mS (lR (mo d) (min (p+40) 512)) (0-(Dy.iw d))) (jF 1) (min (p+40) 512)) (min (p+40) 512):=by unfold DA tO;rw[show -d.iw=0-d.iw by omega]
   rw[e]at a3;exact anl d p Z Y hd h1 ae ae a1 b1 a3 b3 im ia
theorem anh(x:Iv)(p:Nat)(hx:x.ic)(im:8<=p)(ia:p<=512)(xa:x.all=true):gW 328 [(ib x),(iP p)] (ib ig):=
 tr true call328 func328 (chain [.c (Ct x p af ae ae),tB 7 (by rw[xa];rfl:(!x.all)=false),.c nF]<|.nil) ah 
theorem anj(x:Iv)(p:Nat)(hx:x.ic)(im:8<=p)(ia:p<=512)(xa:x.all=false)(h1:x.lo.iK<=0):gW 328 [(ib x),(iP p)] (ib ig):=by
 obtain⟨w1,w2⟩:=hx.j9;exact tr true call328 func328 (chain [.c (Ct x p af ae ae),tB 7 (by rw[xa];rfl:(!x.all)=true),.c (og _ af:gW 46 [(gZ x.lo)] _),tB 13 (aT h1),.c nF]<|.nil) ah 
theorem ani(x:Iv)(p:Nat)(hx:x.ic)(im:8<=p)(ia:p<=512)(xa:x.all=false)(h1:¬x.lo.iK<=0)(Z1 Z2:Iv)(z1:Z1.ic)(z2:Z2.ic)(k1:gW 368 [gZ x.lo,iP (p:Int)] (ib Z1))(k2:gW 368 [gZ x.hi,iP (p:Int)] (ib Z2)):gW 328 [(ib x),(iP p)] (ib (uc Z1 Z2)):=by
 obtain⟨w1,w2⟩:=hx.j9;exact tr true call328 func328 (chain [.c (Ct x p af ae ae),tB 7 (by rw[xa];rfl:(!x.all)=true),.c (og _ af:gW 46 [(gZ x.lo)] _),tB 13 (aU h1),.c (k1:gW 368 [(gZ x.lo),(iP p)] _),.c (k2:gW 368 [(gZ x.hi),(iP p)] _),.c (Zi Z1 Z2 af af)]<|.nil) ah 
theorem Po{x:Iv}(hx:x.ic){p:Nat}(im:8<=p)(ia:p<=512):∃ Z,Z.ic/\gW 328 [ib x,iP (p:Int)] (ib Z):=by
 cases xa:x.all with
 |true=>exact⟨ig,mi,anh x p hx im ia xa⟩
 |false=>
  by_cases h1:x.lo.iK<=0
  .exact ⟨ig,mi,anj x p hx im ia xa h1⟩
  .obtain ⟨w1,w2⟩:=hx.j9
   have q1:0<x.lo.q:=(oD _).1.1 ae;have q2:0<x.hi.q:=by have:=hx.q;grind
   obtain⟨Z1,z1,⟨N1,l1⟩,k1⟩:=Zj w1 q1 im ia;obtain⟨Z2,z2,⟨N2,l2⟩,k2⟩:=Zj w2 q2 im ia;refine⟨uc Z1 Z2,R5 z1 z2 λa b=>?_,ani x p hx im ia xa h1 Z1 Z2 z1 z2 k1 k2⟩;have e1:=((l1 (max N1 N2) ae).j9 a).1;have e2:=((l2 (max N1 N2) ae).j9 b).2;have e3:=Zy q1 hx.q (max N1 N2);exact bA e1 (bA e3 e2)
def uD(a s:Nat):Prop:=s*s<=a/\a<(s+1)*(s+1)
theorem XD(a:Nat):∃ s,uD a s:=by
 induction a with
 |zero=>exact⟨0,ag,ag⟩
 |succ a ih=>
  obtain⟨s,h1,h2⟩:=ih;by_cases h:(s+1)*(s+1)<=a+1
  .refine ⟨s+1,h,?_⟩
   have:(s+1+1)*(s+1+1)=(s+1)*(s+1)+2*(s+1)+1:=by
    simp only[bL,bt,bK,bQ];omega
   omega
  .exact ⟨s,ae,ae⟩
theorem akn{a s t:Nat}(h:uD a s)(ht:t*t<=a):t<=s:=by
 apply bG;intro iE;have:=cL (show s+1<=t by omega) (show s+1<=t by omega);have:=h.2;omega
def pk(a x:Nat):Nat:=(x+a/x)/2
theorem ahI{a s x:Nat}(h:uD a s)(hx:0<x):s<=pk a x:=by
 unfold pk;apply bG;intro iE;have h1:x+a/x<2*s:=by generalize a/x=q at *;omega
 have h2:a<(a/x+1)*x:=by
  have:=bY a x;have:=bh a hx;rw[bL,bK,bc (a/x)];omega
 have hq:a/x+1<=2*s-x/\x<=2*s:=by
  generalize a/x=q at *
  omega
 have h3:(a/x+1)*x<=(2*s-x)*x:=bE x hq.1;have anI:=hq.2;have h4:(2*s-x)*x<=s*s:=by
  obtain⟨k,hk⟩:∃ k,2*s=x+k:=⟨2*s-x,by clear h1 h2 h3 iE hq;omega⟩
  rw[show 2*s-x=k by clear h1 h2 h3 iE hq;omega];clear h1 h2 h3 iE hq;rcases Nat.le_total x s with qd|qd
  .obtain ⟨e,rfl⟩:∃ e,s=x+e:=⟨s-x,ae⟩
   obtain rfl:k=x+2*e:= ae ;simp only[bL,bt,bc x e,bd];have:0<=e*e:=bN _;have e1:e*(2*x)=2*(e*x):=cE e 2 x;omega
  .obtain ⟨e,rfl⟩:∃ e,x=s+e:=⟨x-s,ae⟩
   obtain⟨f,hf⟩:∃ f,s=k+f:=⟨s-k,ae⟩
   obtain rfl:f=e:= ae ;subst hf;simp only[bL,bt,bc f k];have:0<=f*f:=bN _;omega
 have:=h.1;omega
theorem ahH{a s x:Nat}(h:uD a s)(hx:0<x)(hs:s<=x)(hy:x<=pk a x):x=s:=by
 have h1:x<=a/x:=by unfold pk at hy;omega
 have h2:x*x<=a:=(cM hx).1 h1;have:=akn h h2;omega
def kD(a x:Nat):Nat->Nat
 | 0=>x
 |k+1=>pk a (kD a x k)
theorem ako(a:Nat){s:Nat}(h:uD a s):s<=2^((ie a+1)/2):=by
 apply bG;intro iE;have h1:(2^((ie a+1)/2))*(2^((ie a+1)/2))<=s*s:=cL ae ae;rw[<-aX]at h1;have h2:=oY a;have h3:2^ie a<=2^((ie a+1)/2+(ie a+1)/2):=bj ag ae;have:=h.1;omega
theorem akm{a x s:Nat}(h:uD a s)(ha:0<a)(hx:s<=x):∃ N,N<=x/\(∀ k,k<N->pk a (kD a x k)<kD a x k)/\kD a x N<=pk a (kD a x N)/\kD a x N=s/\∀ k,k<=N->s<=kD a x k/\kD a x k<=x:=by
 have hs:0<s:=by
  apply bG;intro h0;obtain rfl:s=0:= ae ;have:=h.2;omega
 have pX:∀ k,s<=kD a x k:=λk=>by
  induction k with
  |zero=>exact hx
  |succ k ih=>exact ahI h ae 
 have hex:∃ k,k<x+1/\decide (kD a x k<=pk a (kD a x k))=true:=by
  apply bG;intro hc;have hd:∀ k,k<x+1->pk a (kD a x k)<kD a x k:=λk hk=>by
   apply bG;intro q;exact hc ⟨k,hk,aT ae⟩
  have hb:∀ k,k<=x+1->kD a x k+k<=x:=by
   intro k hk
   induction k with
   |zero=>exact aV _
   |succ k ih=>
    have:=ih ae;have:=hd k ae;show pk a (kD a x k)+(k+1)<=x;omega
  have:=hb (x+1) (aV _);omega
 obtain⟨N,n1,n2,n3⟩:=qx hex;have n2':=ck n2;have iE:∀ k,k<N->pk a (kD a x k)<kD a x k:=λk hk=>by
  have:=fz (n3 k hk);omega
 have hle:∀ k,k<=N->kD a x k<=x:=by
  intro k hk
  induction k with
  |zero=>exact aV _
  |succ k ih=>
   have:=ih ae;have:=iE k ae;show pk a (kD a x k)<=x;omega
 have e:=ahH h (by have:=pX N;omega) (pX N) n2';exact⟨N,ae,iE,n2',e,λk hk=>⟨pX k,hle k hk⟩⟩
def uP(m s:Nat)(e:Int)(p:Nat)(up:Bool):Dy:=jR false s e (decide (s*s≠m)) p up
def zO(m s:Nat)(e:Int)(p:Nat)(up:Bool):Int:=jH false s e (decide (s*s≠m)) p up
theorem alr{m s:Nat}{e:Int}{p:Nat}(h:uD m s)(hb:p<ie s)(hp:1<=p)(ia:p<=4096)(he:zO m s e p false=0):0<=(uP m s e p false).q/\(uP m s e p false).q<=(s:Rat)*P2 e:=by
 unfold uP zO at *
 by_cases hx:s*s=m
 .rw [aU ae]at he ⊢
  have A:=Et false s e hp ia;rw[qP]at A;simp only[bq,a7]at A;exact⟨(A.2 0 (.inl (wb p)) (bM cG (bw (ni e)))).2,(A.1 he).2⟩
 .rw [aT ae]at he ⊢
  obtain⟨h1,h2⟩:=CM e hb false false;rw[h1];rw[h2]at he;have A:=Et false (2*s+1) (e-1) hp ia;rw[qP]at A;simp only[bq,a7]at A;have h0:=(A.2 0 (.inl (wb p)) (bM cG (bw (ni (e-1))))).2;obtain⟨g,hl⟩:=A.1 he;refine⟨h0,?_⟩;rcases LO (e:=e) hb (g.pos h0)with k|k
  .exact k
  .exfalso
   have ee:P2 e=P2 (e-1)*2:=by
    have:=qq (e-1) 1;rw[show e-1+1=e by omega,show P2 1=2 by decide +kernel]at this;exact this
   have wW:=ni (e-1);have c1:((2*s+1:Nat):Rat)=2*(s:Rat)+1:=by rw[dQ,cP];rfl
   have c2:((s+1:Nat):Rat)=(s:Rat)+1:=by rw[dQ];rfl
   rw[c1]at hl;rw[c2,ee]at k
   grind
theorem alq{m s:Nat}{e:Int}{p:Nat}(h:uD m s)(hb:p<ie s)(hp:1<=p)(ia:p<=4096)(he:zO m s e p true=0):0<=(uP m s e p true).q/\(m:Rat)*(P2 e*P2 e)<=(uP m s e p true).q*(uP m s e p true).q:=by
 have wW:=ni e;have s0:(0:Rat)<=(s:Rat):=cG;have key:∀ D:Rat,(s:Rat)*P2 e<=D->(s*s≠m->((s+1:Nat):Rat)*P2 e<=D)->0<=D/\(m:Rat)*(P2 e*P2 e)<=D*D:=by
  intro D h1 h2;have d0:0<=D:=bA (bM s0 (bw wW)) h1;refine⟨d0,?_⟩;have sq:∀ t:Nat,m<=t*t->(t:Rat)*P2 e<=D->(m:Rat)*(P2 e*P2 e)<=D*D:=by
   intro t ht hD;have t0:(0:Rat)<=(t:Rat):=cG;have c:(m:Rat)<=(t:Rat)*(t:Rat):=by
    have:=cY.2 ht;rwa[cP]at this
   have m1:=b9 c (bM (bw wW) (bw wW));have m2:=b9 hD (bM t0 (bw wW));have m3:=cB hD d0;generalize (t:Rat)=T at *
   generalize P2 e=P at *
   have e1:T*T*(P*P)=T*P*(T*P):= aq 
   grind
  by_cases hx:s*s=m
  .exact sq s ae h1
  .exact sq (s+1) (by have:=h.2;omega) (h2 hx)
 unfold uP zO at *
 by_cases hx:s*s=m
 .rw [aU ae]at he ⊢
  have A:=Eu false s e hp ia;rw[qP]at A;simp only[bq,a7]at A;exact key _ (A.1 he).2 (λq=>absurd hx q)
 .rw [aT ae]at he ⊢
  obtain⟨h1,h2⟩:=CM e hb false true;rw[h1];rw[h2]at he;have A:=Eu false (2*s+1) (e-1) hp ia;rw[qP]at A;simp only[bq,a7]at A;obtain⟨g,hl⟩:=A.1 he;have ee:P2 e=P2 (e-1)*2:=by
   have:=qq (e-1) 1;rw[show e-1+1=e by omega,show P2 1=2 by decide +kernel]at this;exact this
  have im:=ni (e-1);have c1:((2*s+1:Nat):Rat)=2*(s:Rat)+1:=by rw[dQ,cP];rfl
  rw[c1]at hl;have h0:0<=(jR false (2*s+1) (e-1) false p true).q:=bA (bM aq (bw im)) hl;have iE:(s:Rat)*P2 e<(jR false (2*s+1) (e-1) false p true).q:=by rw[ee];grind
  refine key _ (bw iE) λ_=>?_
  rcases LO (e:=e) hb (g.pos h0)with k|k
  .exact absurd iE (dr.2 k)
  .exact k
theorem als{a b:Rat}(ha:0<=a)(hb:0<=b)(h:a*a<=b*b):a<=b:=by
 apply dr.1;intro iE;have m1:=cB (bw iE) hb;have m2:=dU iE (show 0<a by grind)
 grind
theorem alu{m s n t:Nat}{e f:Int}{p:Nat}(h:uD m s)(k:uD n t)(hb:p<ie s)(kb:p<ie t)(hp:1<=p)(ia:p<=4096)(hle:(m:Rat)*(P2 e*P2 e)<=(n:Rat)*(P2 f*P2 f)):
 (kI (uP m s e p false) (zO m s e p false) (uP n t f p true) (zO n t f p true)).ic:=by
 unfold kI;split
 .exact mi
 .rename_i he
  obtain⟨a0,a1⟩:=alr (e:=e) h hb hp ia ae;obtain⟨b0,b1⟩:=alq (e:=f) k kb hp ia ae;refine .inr ⟨rfl,mu _ _ _ _ _ _ hp ia,mu _ _ _ _ _ _ hp ia,?_⟩;rw[po];refine als a0 b0 ?_;have s0:(0:Rat)<=(s:Rat):=cG;have wW:=ni e;have m1:=cB a1 a0;have m2:=b9 a1 (bM s0 (bw wW));have c:(s:Rat)*(s:Rat)<=(m:Rat):=by
   have:=cY.2 h.1;rwa[cP]at this
  have m3:=b9 c (bM (bw wW) (bw wW));generalize (uP m s e p false).q=A at *
  generalize (s:Rat)=S at *
  generalize P2 e=P at *
  have e1:S*S*(P*P)=S*P*(S*P):= aq 
  grind
def VN(m N:Nat)(x:Nat):PS:=⟨43,true,[(5,.e (gY (gV (kD m (2^((ie m+1)/2)) x)))),(0,.e (gY (gV m)))],[]⟩
theorem VD(L M:List Nat)(hL:iD L)(hM:iD M)(h1:L.length<=3000)(h2:M.length<=3000):∃ S:List Nat,gW 360 [gY L,gY M] (gY S)/\val S=val L+val M/\iD S/\S.length=max L.length M.length+1:=by
 obtain⟨n,hn⟩:∃ n,n=max L.length M.length+1:=⟨_,rfl⟩
 have iE:val L+val M<4294967296^n:=by
  have a:=mh hL;have b:=mh hM;have e:4294967296^n=4294967296^max L.length M.length*4294967296:=by rw[hn,a6]
  have c:=bj (show 0<4294967296 by decide) (Nat.le_max_left L.length M.length);have d:=bj (show 0<4294967296 by decide) (Nat.le_max_right L.length M.length);omega
 refine⟨iL (val L+val M) n,?_,by rw[uV,bC iE],sj _ _,by rw[mK,hn]⟩;refine AS hL hM call360 (λA c B d w h k _=>VP A B c d L M w h k h1 h2) λB w e w' hB r=>?_
 obtain⟨S,v1,v2,v3,r⟩:=r;rw[CO v2 (by rw[v3,hn]) v1];exact rl B w e w' hB r
theorem ahu(L:List Nat)(n:Nat)(hL:iD L)(h1:L.length<=3000)(hn:n<=65536):∃ S:List Nat,gW 275 [gY L,iP (n:Int)] (gY S)/\val S=val L*2^n/\iD S:=by
 obtain⟨m,hm⟩:∃ m,m=n/32+(il L).length+1:=⟨_,rfl⟩
 have iE:val L*2^n<4294967296^m:=by
  have a:=mh hL.il;rw[oG]at a;have e:4294967296^m=4294967296^(il L).length*2^(32*(n/32+1)):=by
   rw[hm,show n/32+(il L).length+1=(il L).length+(n/32+1)by omega,aX,Nat.pow_mul]
  rw[e];exact aoh a (bj ag ae) (aZ ag)
 refine⟨iL (val L*2^n) m,?_,by rw[uV,bC iE],sj _ _⟩;refine F1 hL call275 (λA c w h _=>VQ A c L n w h ae hn) λA c B w e w' h hB r=>?_
 obtain⟨S,v1,v2,v3,r⟩:=r;rw[CO v2 (by rw[v3,hm]) v1];exact rl B w e w' hB r
def zJ(L:List Nat):List Nat:=qD (1%32) ((il L).drop (1/32))
theorem VL(L:List Nat)(hL:iD L)(h1:L.length<=3000):gW 356 [gY L,iP 1] (gY (zJ L)):=
 F1 (n:=((1:Nat):Int)) hL call356 (λA c w h _=>NH A c L 1 w h ae ag) λA c B w e w' h hB r=>rl B w e w' hB r
theorem X3{L:List Nat}(hL:iD L):il (zJ L)=gV (val L/2):=by
 unfold zJ;rw[qE (AO _ _),Ko hL.il,oG]
theorem VW(m x:Nat):pk m x<=max x (m/x):=by
 unfold pk;generalize m/x=q;omega
theorem U6(a b:Nat):(gV (max a b)).length<=max (gV a).length (gV b).length:=by
 rcases Nat.le_total a b with h|h
 .rw [Nat.max_eq_right h];omega
 .rw [Nat.max_eq_left h];omega
theorem ahq(m:Nat)(h:(gV m).length<=256):gW 272 [gY (gV m)] (.ix [gY (gV m),iP 0]):=by
 have:=VG (gV m) (kE m) (by rw[tX];exact h);rwa[tX]at this
theorem ahw(m N:Nat)(h1:(gV m).length<=256)(h0:m≠0)(np:∀ k,k<N->pk m (kD m (2^((ie m+1)/2)) k)<(kD m (2^((ie m+1)/2)) k))(qL:(kD m (2^((ie m+1)/2)) N)<=pk m (kD m (2^((ie m+1)/2)) N))(mr:∀ k,k<=N->0<(kD m (2^((ie m+1)/2)) k)/\(kD m (2^((ie m+1)/2)) k)<=(2^((ie m+1)/2))):gW 418 [(gY (gV m))] (.ix [gY (gV (kD m (2^((ie m+1)/2)) N)),iP 0]):=by
 have bm:=mY h0;have bl:=wq h1;have z0:(gV (2^((ie m+1)/2))).length<=256:=ns (by rw[show(2^((ie m+1)/2))=1*2^((ie m+1)/2)by omega,qt ag];show 1+_<=_;omega);have hlen:∀ k,k<=N->(gV (kD m (2^((ie m+1)/2)) k)).length<=256:=λk hk=>aY (me (mr k hk).2) z0
 obtain⟨S0,Bt,sv,oS0⟩:=ahu (gV 1) ((ie m+1)/2) (kE 1) ar ae;rw[jC,bK]at sv;have hS0:gW 274 [gY S0] (gY (gV (2^((ie m+1)/2)))):=by
  have:=tS S0 oS0;rwa[qE oS0,sv]at this
 have zN:=hlen N ae;exact tr true call418 func418 (chain [.c (ahr (gV m) af),.c (sC _ ae:gW 294 [(gY (gV m))] _),tB 15 (nv ae:((ie m:Int)==0)=false),.o 16 (.e r9:PV.le (.e (.sl false 1 1 λi_ j_=>[(.v (.int .u32 1))].getD (i_*1+j_) (.v (.bool false)))) (.e (gY (gV 1)))),iu ((ie m:Int)+1) ae,.a (ae:0<(2:Int)),
  iu (((((ie m)+1):Nat):Int)) ae,.c (Bt:gW 275 [(gY (gV 1)),(iP (((((ie m)+1)/2):Nat):Int))] _),.c (hS0:gW 274 [(gY S0)] _),.s (Sp.jy (VN m N) 0 N ae (λx hx kn=>by
    obtain⟨xl,xu⟩:=mr x ae;obtain⟨Tq,Sq,EU,dT,dS,oT,oS,lT,lS⟩:=NC (gV m) (gV (kD m (2^((ie m+1)/2)) x)) (kE m) (kE _) ae (by have:=hlen x ae;omega) (by rw[jC];omega);rw[jC,jC]at dT;have zx:=hlen x ae;have L9:gW 274 [gY Tq] (gY (gV (m/(kD m (2^((ie m+1)/2)) x)))):=by
     have:=tS Tq oT;rwa[qE oT,dT]at this
    have zt:(gV (m/(kD m (2^((ie m+1)/2)) x))).length<=257:=aY (me (bD _ _)) ae;obtain⟨Uq,hU,uv,oU,lU⟩:=VD (gV (kD m (2^((ie m+1)/2)) x)) (gV (m/(kD m (2^((ie m+1)/2)) x))) (kE _) (kE _) ae ae;rw[jC,jC]at uv;have hV:=VL Uq oU ae;have C4:gW 274 [gY (zJ Uq)] (gY (gV (pk m (kD m (2^((ie m+1)/2)) x)))):=by
     have:=tS (zJ Uq) (AO _ _);rwa[X3 oU,uv]at this
    have zn:(gV (pk m (kD m (2^((ie m+1)/2)) x))).length<=257:=aY (me (VW m (kD m (2^((ie m+1)/2)) x))) (by have:=U6 (kD m (2^((ie m+1)/2)) x) (m/(kD m (2^((ie m+1)/2)) x));omega);exact iC (chain [.c (EU:gW 357 [(gY (gV m)),(gY (gV (kD m (2^((ie m+1)/2)) x)))] _),.c (L9:gW 274 [(gY Tq)] _),.c (hU:gW 360 [(gY (gV (kD m (2^((ie m+1)/2)) x))),(gY (gV (m/(kD m (2^((ie m+1)/2)) x))))] _),.c (hV:gW 356 [(gY Uq),(iP 1)] _),.c (C4:gW 274 [(gY (zJ Uq))] _),.c (zj _ _ ae ae:gW 220 [(gY (gV (pk m (kD m (2^((ie m+1)/2)) x)))),(gY (gV (kD m (2^((ie m+1)/2)) x)))] _),tF 37 (0<=(kf (pk m (kD m (2^((ie m+1)/2)) x)) (kD m (2^((ie m+1)/2)) x))) (by have:=np x ae;have:=CL.2 this;omega)]<|.e (chain [.o 5 (.e (.iS rfl):PV.le (.e (gY (gV (pk m (kD m (2^((ie m+1)/2)) x))))) (.e (gY (gV (kD m (2^((ie m+1)/2)) (x+1))))))]<|.nil)) ah)
  (λhx=>by
    obtain⟨xl,xu⟩:=mr N ae;obtain⟨Tq,Sq,EU,dT,dS,oT,oS,lT,lS⟩:=NC (gV m) (gV (kD m (2^((ie m+1)/2)) N)) (kE m) (kE _) ae (by have:=hlen N ae;omega) (by rw[jC];omega);rw[jC,jC]at dT;have zx:=hlen N ae;have L9:gW 274 [gY Tq] (gY (gV (m/(kD m (2^((ie m+1)/2)) N)))):=by
     have:=tS Tq oT;rwa[qE oT,dT]at this
    have zt:(gV (m/(kD m (2^((ie m+1)/2)) N))).length<=257:=aY (me (bD _ _)) ae;obtain⟨Uq,hU,uv,oU,lU⟩:=VD (gV (kD m (2^((ie m+1)/2)) N)) (gV (m/(kD m (2^((ie m+1)/2)) N))) (kE _) (kE _) ae ae;rw[jC,jC]at uv;have hV:=VL Uq oU ae;have C4:gW 274 [gY (zJ Uq)] (gY (gV (pk m (kD m (2^((ie m+1)/2)) N)))):=by
     have:=tS (zJ Uq) (AO _ _);rwa[X3 oU,uv]at this
    have zn:(gV (pk m (kD m (2^((ie m+1)/2)) N))).length<=257:=aY (me (VW m (kD m (2^((ie m+1)/2)) N))) (by have:=U6 (kD m (2^((ie m+1)/2)) N) (m/(kD m (2^((ie m+1)/2)) N));omega);exact iC (chain [.c (EU:gW 357 [(gY (gV m)),(gY (gV (kD m (2^((ie m+1)/2)) N)))] _),.c (L9:gW 274 [(gY Tq)] _),.c (hU:gW 360 [(gY (gV (kD m (2^((ie m+1)/2)) N))),(gY (gV (m/(kD m (2^((ie m+1)/2)) N))))] _),.c (hV:gW 356 [(gY Uq),(iP 1)] _),.c (C4:gW 274 [(gY (zJ Uq))] _),.c (zj _ _ ae ae:gW 220 [(gY (gV (pk m (kD m (2^((ie m+1)/2)) N)))),(gY (gV (kD m (2^((ie m+1)/2)) N)))] _),tT 37 (0<=(kf (pk m (kD m (2^((ie m+1)/2)) N)) (kD m (2^((ie m+1)/2)) N))) (by have:=qL;have:¬kf (pk m (kD m (2^((ie m+1)/2)) N)) (kD m (2^((ie m+1)/2)) N)<0:=λq=>absurd (CL.1 q) ae;omega),.c (ahq _ ae:gW 272 [(gY (gV (kD m (2^((ie m+1)/2)) N)))] _)]<|.nil) ah) ak:jv 7 f418 (VN m N 0) .ret ⟨43,true,[(3,.e (iP 0)),(2,.e (gY (gV (kD m (2^((ie m+1)/2)) N))))],[]⟩) (chain [.o 5 (.e (.iS rfl):PV.le (.e (gY (gV (2^((ie m+1)/2))))) (.e (gY (gV (kD m (2^((ie m+1)/2)) 0)))))]<|.nil)]<|.nil) ah 
theorem VO(m s:Nat)(h1:(gV m).length<=256)(h0:m≠0)(hr:uD m s):gW 418 [gY (gV m)] (.ix [gY (gV s),iP 0]):=by
 obtain⟨N,_,a,b,c,d⟩:=akm hr (dE h0) (ako m hr);have hs:0<s:=by
  apply bG;intro h;obtain rfl:s=0:= ae ;have:=hr.2;omega
 have:=ahw m N h1 h0 a b λk hk=>⟨by have:=(d k hk).1;omega,(d k hk).2⟩
 rwa[c]at this
noncomputable def lM(m:Nat):Nat:=Classical.choose (XD m)
theorem Cf(m:Nat):uD m (lM m):=cN (XD m)
def sG(d:Dy)(p:Nat):Nat:=if Int.tmod (d.e-(((2*p+4-ie d.m:Nat)):Int)) 2=0 then 2*p+4-ie d.m else 2*p+4-ie d.m+1
noncomputable def uR(d:Dy)(p:Nat)(up:Bool):Dy:=uP (d.m*2^sG d p) (lM (d.m*2^sG d p)) ((d.e-(sG d p:Int))/2) p up
noncomputable def uQ(d:Dy)(p:Nat)(up:Bool):Int:=zO (d.m*2^sG d p) (lM (d.m*2^sG d p)) ((d.e-(sG d p:Int))/2) p up
theorem J4(d:Dy)(p:Nat):d.e-(sG d p:Int)=2*((d.e-(sG d p:Int))/2):=by
 have key:∀ x:Int,Int.tmod x 2=0↔x%2=0:=λx=>by rw[<-Int.dvd_iff_tmod_eq_zero,<-Int.dvd_iff_emod_eq_zero]
 have:(d.e-(sG d p:Int))%2=0:=by
  unfold sG;split
  .rename_i h;exact(key _).1 h
  .rename_i h
   have h2:¬(d.e-(((2*p+4-ie d.m:Nat)):Int))%2=0:=λq=>h ((key _).2 q)
   clear h;omega
 omega
theorem Yh(s:Nat):s<=s*s:=by
 by_cases h:s=0
 .subst h;exact bN _
 .exact fV s (dE h)
theorem Yj{d:Dy}(hn:d.neg=false)(K:Nat){E:Int}(h:d.e-(K:Int)=2*E):((d.m*2^K:Nat):Rat)*(P2 E*P2 E)=d.q:=by
 rw[qB,hn,aR ag,<-qq,cP,<-uY,en,<-qq,show(K:Int)+(E+E)=d.e by omega]
theorem OF{m s p:Nat}(h:uD m s)(hm:2*p+4<=ie m):p<ie s:=by
 apply bG;intro hb;have h1:s<2^ie s:=oY s;have h2:2^ie s<=2^p:=bj ag ae;have h3:=cL (show s+1<=2^p by omega) (show s+1<=2^p by omega);rw[<-aX]at h3;have h4:=h.2;have h5:ie m<=p+p:=kR.2 (bF h4 h3);omega
theorem XE(m s:Nat):((kf (s*s) m) != 0)=decide (s*s≠m):=by
 unfold kf;generalize s*s=q;rcases Nat.lt_trichotomy q m with h|h|h
 .rw [aS h,aT ae];rfl
 .subst h;simp
 .rw [aR ae,aS h,aT ae];rfl
theorem ajF(d:Dy)(p:Nat)(up:Bool)(hd:d.ic)(hn:d.neg=false)(h0:d.m≠0)(im:8<=p)(ia:p<=512)(pL:Int.tmod (d.e-(((2*p+4-(ie d.m)):Nat):Int)) 2=0):gW 398 [(gZ d),(iP p),(bP up)] (.ix [gZ (uR d p up),iP (uQ d p up)]):=by
 have hl:=hd.gV;have hx:=hd.exp;have hr:=hd.range.resolve_left h0;have bp:=mY h0;have hK:sG d p=(2*p+4-(ie d.m)):=by unfold sG;rw[aS pL]
 have he:=J4 d p;rw[hK]at he;have hb:=qt h0 (2*p+4-(ie d.m));have z1:(gV (d.m*2^(2*p+4-(ie d.m)))).length<=256:=ns ae;have sU:(d.m*2^(2*p+4-(ie d.m)))≠0:=du h0 (dJ (aZ ag));have su:=Cf (d.m*2^(2*p+4-(ie d.m)));have BJ:=OF su (p:=p) ae;have z2:(gV (lM (d.m*2^(2*p+4-(ie d.m)))*lM (d.m*2^(2*p+4-(ie d.m))))).length<=256:=aY (me su.1) z1;have z3:(gV (lM (d.m*2^(2*p+4-(ie d.m))))).length<=256:=aY (me (aY (Yh _) su.1)) z1;have Ir:lM (d.m*2^(2*p+4-(ie d.m)))≠0\/lM (d.m*2^(2*p+4-(ie d.m)))=0/\(d.e-(((2*p+4-(ie d.m)):Nat):Int))/2=0/\((kf (lM (d.m*2^(2*p+4-(ie d.m)))*lM (d.m*2^(2*p+4-(ie d.m)))) (d.m*2^(2*p+4-(ie d.m)))) != 0)=false:=.inl (λq=>by rw[q,q8]at BJ;omega);have sr:((kf (lM (d.m*2^(2*p+4-(ie d.m)))*lM (d.m*2^(2*p+4-(ie d.m)))) (d.m*2^(2*p+4-(ie d.m)))) != 0)=true->p<ie (lM (d.m*2^(2*p+4-(ie d.m)))):=λ_=>BJ
 exact tr true call398 func398 (chain [.o 17 (.e (Lp _):PV.le (.e (.sl true 1 3 λi_ j_=>(jr d).getD (i_*3+j_) (.v (.bool false)))) (.e (nC [d]))),.c (Oq _ _ af ae ae:gW 280 [(iP p),(nC [d])] _),tB 20 (ag:((0:Int)==0)=true),tB 23 (hn:d.neg=false),tB 26 (ag:((0:Int) != 0)=false),tB 31 (nv (pU h0):(((gV d.m).length:Int)==0)=false),
  iu (2*(p:Int)) ae,iu ((((2*p):Nat):Int)+4) ae,.c (Hw _ af:gW 306 [(gZ d)] _),iu (((((2*p)+4):Nat):Int)-(ie (Dy.m d):Int)) ae,.o 41 (.int au:PV.le (.e (iP (if(((((2*p)+4):Nat):Int)-(ie (Dy.m d):Int))>0 then(((((2*p)+4):Nat):Int)-(ie (Dy.m d):Int))else 0))) (.e (iP (((2*p+4-(ie d.m)):Nat):Int)))),
  iu (d.e-(((2*p+4-(ie d.m)):Nat):Int)) ae,.a (ae:0<(2:Int)),tB 47 ((by simpa using pL):((Int.tmod (d.e-(((2*p+4-(ie d.m)):Nat):Int)) 2) != 0)=false),.c (vV d.m (2*p+4-(ie d.m)) ae ae ae),.c (VO _ _ ae af (Cf _):gW 418 [(gY (gV (d.m*2^(2*p+4-(ie d.m)))))] _),.c (zp _ _ ae ae ae:gW 218 [(gY (gV (lM (d.m*2^(2*p+4-(ie d.m)))))),(gY (gV (lM (d.m*2^(2*p+4-(ie d.m))))))] _),
  iu (d.e-(((2*p+4-(ie d.m)):Nat):Int)) ae,.a (ae:0<(2:Int)),iu ((d.e-(((2*p+4-(ie d.m)):Nat):Int))) ae,.o 70 (.int (by generalize hy:(d.e-(((2*p+4-(ie d.m)):Nat):Int))/2=y at *;rw[he];exact aoi _ ag):PV.le (.e (iP (Int.tdiv (d.e-(((2*p+4-(ie d.m)):Nat):Int)) 2))) (.e (iP ((d.e-(((2*p+4-(ie d.m)):Nat):Int))/2)))),.c (zj _ _ ae ae:gW 220 [(gY (gV ((lM (d.m*2^(2*p+4-(ie d.m))))*(lM (d.m*2^(2*p+4-(ie d.m))))))),(gY (gV (d.m*2^(2*p+4-(ie d.m)))))] _),.c (DT _ _ _ _ _ ae af ae ae ae ae af:gW 323 [(.agg [(gY (gV (lM (d.m*2^(2*p+4-(ie d.m)))))),(iP ((d.e-(((2*p+4-(ie d.m)):Nat):Int))/2)),(bP ((kf ((lM (d.m*2^(2*p+4-(ie d.m))))*(lM (d.m*2^(2*p+4-(ie d.m))))) (d.m*2^(2*p+4-(ie d.m)))) != 0))]),(iP p),(bP up)] _)]<|rQ (.ix [(gZ (jR false (lM (d.m*2^(2*p+4-(ie d.m)))) ((d.e-(((2*p+4-(ie d.m)):Nat):Int))/2) ((kf ((lM (d.m*2^(2*p+4-(ie d.m))))*(lM (d.m*2^(2*p+4-(ie d.m))))) (d.m*2^(2*p+4-(ie d.m)))) != 0) p up)),(iP (jH false (lM (d.m*2^(2*p+4-(ie d.m)))) ((d.e-(((2*p+4-(ie d.m)):Nat):Int))/2) ((kf ((lM (d.m*2^(2*p+4-(ie d.m))))*(lM (d.m*2^(2*p+4-(ie d.m))))) (d.m*2^(2*p+4-(ie d.m)))) != 0) p up))]) (.ix [gZ (uR d p up),iP (uQ d p up)]) (by unfold uR uQ uP zO;rw[hK,XE])) ah 
theorem ajG(d:Dy)(p:Nat)(up:Bool)(hd:d.ic)(hn:d.neg=false)(h0:d.m≠0)(im:8<=p)(ia:p<=512)(pL:¬Int.tmod (d.e-(((2*p+4-(ie d.m)):Nat):Int)) 2=0):gW 398 [(gZ d),(iP p),(bP up)] (.ix [gZ (uR d p up),iP (uQ d p up)]):=by
 have hl:=hd.gV;have hx:=hd.exp;have hr:=hd.range.resolve_left h0;have bp:=mY h0;have hK:sG d p=((2*p+4-(ie d.m))+1):=by unfold sG;rw[aR pL]
 have he:=J4 d p;rw[hK]at he;have hb:=qt h0 ((2*p+4-(ie d.m))+1);have z1:(gV (d.m*2^((2*p+4-(ie d.m))+1))).length<=256:=ns ae;have sU:(d.m*2^((2*p+4-(ie d.m))+1))≠0:=du h0 (dJ (aZ ag));have su:=Cf (d.m*2^((2*p+4-(ie d.m))+1));have BJ:=OF su (p:=p) ae;have z2:(gV (lM (d.m*2^((2*p+4-(ie d.m))+1))*lM (d.m*2^((2*p+4-(ie d.m))+1)))).length<=256:=aY (me su.1) z1;have z3:(gV (lM (d.m*2^((2*p+4-(ie d.m))+1)))).length<=256:=aY (me (aY (Yh _) su.1)) z1;have Ir:lM (d.m*2^((2*p+4-(ie d.m))+1))≠0\/lM (d.m*2^((2*p+4-(ie d.m))+1))=0/\(d.e-((((2*p+4-(ie d.m))+1):Nat):Int))/2=0/\((kf (lM (d.m*2^((2*p+4-(ie d.m))+1))*lM (d.m*2^((2*p+4-(ie d.m))+1))) (d.m*2^((2*p+4-(ie d.m))+1))) != 0)=false:=.inl (λq=>by rw[q,q8]at BJ;omega);have sr:((kf (lM (d.m*2^((2*p+4-(ie d.m))+1))*lM (d.m*2^((2*p+4-(ie d.m))+1))) (d.m*2^((2*p+4-(ie d.m))+1))) != 0)=true->p<ie (lM (d.m*2^((2*p+4-(ie d.m))+1))):=λ_=>BJ
 exact tr true call398 func398 (chain [.o 17 (.e (Lp _):PV.le (.e (.sl true 1 3 λi_ j_=>(jr d).getD (i_*3+j_) (.v (.bool false)))) (.e (nC [d]))),.c (Oq _ _ af ae ae:gW 280 [(iP p),(nC [d])] _),tB 20 (ag:((0:Int)==0)=true),tB 23 (hn:d.neg=false),tB 26 (ag:((0:Int) != 0)=false),tB 31 (nv (pU h0):(((gV d.m).length:Int)==0)=false),
  iu (2*(p:Int)) ae,iu ((((2*p):Nat):Int)+4) ae,.c (Hw _ af:gW 306 [(gZ d)] _),iu (((((2*p)+4):Nat):Int)-(ie (Dy.m d):Int)) ae,.o 41 (.int au:PV.le (.e (iP (if(((((2*p)+4):Nat):Int)-(ie (Dy.m d):Int))>0 then(((((2*p)+4):Nat):Int)-(ie (Dy.m d):Int))else 0))) (.e (iP (((2*p+4-(ie d.m)):Nat):Int)))),
  iu (d.e-(((2*p+4-(ie d.m)):Nat):Int)) ae,.a (ae:0<(2:Int)),tB 47 ((by simpa using pL):((Int.tmod (d.e-(((2*p+4-(ie d.m)):Nat):Int)) 2) != 0)=true),
  iu ((((2*p+4-(ie d.m)):Nat):Int)+1) ae,.c (vV d.m ((2*p+4-(ie d.m))+1) ae ae ae),.c (VO _ _ ae af (Cf _):gW 418 [(gY (gV (d.m*2^((2*p+4-(ie d.m))+1))))] _),.c (zp _ _ ae ae ae:gW 218 [(gY (gV (lM (d.m*2^((2*p+4-(ie d.m))+1))))),(gY (gV (lM (d.m*2^((2*p+4-(ie d.m))+1)))))] _),
  iu (d.e-((((2*p+4-(ie d.m))+1):Nat):Int)) ae,.a (ae:0<(2:Int)),iu ((d.e-((((2*p+4-(ie d.m))+1):Nat):Int))) ae,.o 70 (.int (by generalize hy:(d.e-((((2*p+4-(ie d.m))+1):Nat):Int))/2=y at *;rw[he];exact aoi _ ag):PV.le (.e (iP (Int.tdiv (d.e-((((2*p+4-(ie d.m))+1):Nat):Int)) 2))) (.e (iP ((d.e-((((2*p+4-(ie d.m))+1):Nat):Int))/2)))),.c (zj _ _ ae ae:gW 220 [(gY (gV ((lM (d.m*2^((2*p+4-(ie d.m))+1)))*(lM (d.m*2^((2*p+4-(ie d.m))+1)))))),(gY (gV (d.m*2^((2*p+4-(ie d.m))+1))))] _),.c (DT _ _ _ _ _ ae af ae ae ae ae af:gW 323 [(.agg [(gY (gV (lM (d.m*2^((2*p+4-(ie d.m))+1))))),(iP ((d.e-((((2*p+4-(ie d.m))+1):Nat):Int))/2)),(bP ((kf ((lM (d.m*2^((2*p+4-(ie d.m))+1)))*(lM (d.m*2^((2*p+4-(ie d.m))+1)))) (d.m*2^((2*p+4-(ie d.m))+1))) != 0))]),(iP p),(bP up)] _)]<|rQ (.ix [(gZ (jR false (lM (d.m*2^((2*p+4-(ie d.m))+1))) ((d.e-((((2*p+4-(ie d.m))+1):Nat):Int))/2) ((kf ((lM (d.m*2^((2*p+4-(ie d.m))+1)))*(lM (d.m*2^((2*p+4-(ie d.m))+1)))) (d.m*2^((2*p+4-(ie d.m))+1))) != 0) p up)),(iP (jH false (lM (d.m*2^((2*p+4-(ie d.m))+1))) ((d.e-((((2*p+4-(ie d.m))+1):Nat):Int))/2) ((kf ((lM (d.m*2^((2*p+4-(ie d.m))+1)))*(lM (d.m*2^((2*p+4-(ie d.m))+1)))) (d.m*2^((2*p+4-(ie d.m))+1))) != 0) p up))]) (.ix [gZ (uR d p up),iP (uQ d p up)]) (by unfold uR uQ uP zO;rw[hK,XE])) ah 
theorem Xc(d:Dy)(p:Nat)(up:Bool)(hd:d.ic)(hn:d.neg=false)(h0:d.m≠0)(im:8<=p)(ia:p<=512):gW 398 [(gZ d),(iP p),(bP up)] (.ix [gZ (uR d p up),iP (uQ d p up)]):=by
 by_cases h:Int.tmod (d.e-(((2*p+4-(ie d.m)):Nat):Int)) 2=0
 .exact ajF d p up hd hn h0 im ia h
 .exact ajG d p up hd hn h0 im ia h
theorem ajD(d:Dy)(p:Nat)(hd:d.ic)(hn:d.neg=false)(h0:d.m≠0)(im:8<=p)(ia:p<=512):gW 370 [(gZ d),(iP p)] (.ix [gZ (uR d p false),iP (uQ d p false)]):=
 tr true call370 func370 (chain [.c (Xc _ _ _ af af af ae ae:gW 398 [(gZ d),(iP p),(bP false)] _)]<|.nil) ah 
theorem ajE(d:Dy)(p:Nat)(hd:d.ic)(hn:d.neg=false)(h0:d.m≠0)(im:8<=p)(ia:p<=512):gW 371 [(gZ d),(iP p)] (.ix [gZ (uR d p true),iP (uQ d p true)]):=
 tr true call371 func371 (chain [.c (Xc _ _ _ af af af ae ae:gW 398 [(gZ d),(iP p),(bP true)] _)]<|.nil) ah 
theorem agm(x:Iv)(p:Nat)(hx:x.ic)(im:8<=p)(ia:p<=512)(xa:x.all=true):gW 331 [(ib x),(iP p)] (ib ig):=
 tr true call331 func331 (chain [.o 10 (.e (mH _):PV.le (.e (.sl true 1 7 λi_ j_=>(ja x).getD (i_*7+j_) (.v (.bool false)))) (.e (ij [x]))),.c (pS _ af:gW 93 [(ij [x])] _),tB 11 (by rw[xa];rfl:(!x.all)=false),.c nF]<|.nil) ah 
theorem agn(x:Iv)(p:Nat)(hx:x.ic)(im:8<=p)(ia:p<=512)(xa:x.all=false)(h1:x.lo.iK<=0):gW 331 [(ib x),(iP p)] (ib ig):=by
 obtain⟨w1,w2⟩:=hx.j9;exact tr true call331 func331 (chain [.o 10 (.e (mH _):PV.le (.e (.sl true 1 7 λi_ j_=>(ja x).getD (i_*7+j_) (.v (.bool false)))) (.e (ij [x]))),.c (pS _ af:gW 93 [(ij [x])] _),tB 11 (by rw[xa];rfl:(!x.all)=true),.c (vH _:gW 147 [(iP p)] _),tB 15 (pn.2 ⟨ae,ae⟩:(lE (p:Int))=true),.c (og _ af:gW 46 [(gZ x.lo)] _),tB 22 (aT h1),.c nF]<|.nil) ah 
theorem ago(x:Iv)(p:Nat)(hx:x.ic)(im:8<=p)(ia:p<=512)(xa:x.all=false)(h1:¬x.lo.iK<=0)(n1:x.lo.neg=false)(n2:x.hi.neg=false)(m1:x.lo.m≠0)(m2:x.hi.m≠0):gW 331 [(ib x),(iP p)] (ib (kI (uR x.lo p false) (uQ x.lo p false) (uR x.hi p true) (uQ x.hi p true))):=by
 obtain⟨w1,w2⟩:=hx.j9;exact tr true call331 func331 (chain [.o 10 (.e (mH _):PV.le (.e (.sl true 1 7 λi_ j_=>(ja x).getD (i_*7+j_) (.v (.bool false)))) (.e (ij [x]))),.c (pS _ af:gW 93 [(ij [x])] _),tB 11 (by rw[xa];rfl:(!x.all)=true),.c (vH _:gW 147 [(iP p)] _),tB 15 (pn.2 ⟨ae,ae⟩:(lE (p:Int))=true),.c (og _ af:gW 46 [(gZ x.lo)] _),tB 22 (aU h1),.c (ajD _ _ af af af ae ae:gW 370 [(gZ x.lo),(iP p)] _),.c (ajE _ _ af af af ae ae:gW 371 [(gZ x.hi),(iP p)] _),.c (BS (uR x.lo p false) (uR x.hi p true) (uQ x.lo p false) (uQ x.hi p true))]<|.nil) ah 
theorem Wi{d:Dy}(h:0<d.q):d.neg=false/\d.m≠0:=by
 have hm:d.m≠0:=λq=>by rw[qB,q]at h;simp at h
 refine⟨?_,hm⟩;cases hn:d.neg
 .rfl
 .rw [qB,hn,aS rfl]at h
  have:=bM (show(0:Rat)<=(d.m:Rat)from cG) (bw (ni d.e))
  grind
theorem Yg{d:Dy}{p:Nat}(im:8<=p)(h0:d.m≠0):p<ie (lM (d.m*2^sG d p)):=by
 refine OF (Cf _) ?_;rw[qt h0];unfold sG;split<;>omega
theorem Nh{x:Iv}(hx:x.ic){p:Nat}(im:8<=p)(ia:p<=512):∃ Z,Z.ic/\gW 331 [ib x,iP (p:Int)] (ib Z):=by
 cases xa:x.all with
 |true=>exact⟨ig,mi,agm x p hx im ia xa⟩
 |false=>
  by_cases h1:x.lo.iK<=0
  .exact ⟨ig,mi,agn x p hx im ia xa h1⟩
  .have q1:0<x.lo.q:=(oD _).1.1 ae 
   have q2:0<x.hi.q:=by have:=hx.q;grind
   obtain⟨n1,m1⟩:=Wi q1;obtain⟨n2,m2⟩:=Wi q2;refine⟨_,?_,ago x p hx im ia xa h1 n1 n2 m1 m2⟩;refine alu (Cf _) (Cf _) (Yg im m1) (Yg im m2) ae ae ?_;rw[Yj n1 _ (J4 _ _),Yj n2 _ (J4 _ _)];exact hx.q
def kg(X b:Nat):Nat->Nat
 | 0=>2^b
 |k+1=>kg X b k*X/2^b/(k+1)
theorem Sx{X b:Nat}(h:X<=2^(b+1))(t:Nat):t*X/2^b<=2*t:=by
 have hp:0<2^b:=aZ ag;have h1:t*X<=t*(2^b*2):=cg t (by rw[<-a6];exact h);have h2:t*X/2^b<=t*(2^b*2)/2^b:=Nat.div_le_div_right h1;have h3:t*(2^b*2)/2^b=2*t:=by
  rw[show t*(2^b*2)=2^b*(2*t)by rw[cE,bc t 2]];exact an5 _ hp
 omega
theorem EI{X b:Nat}(h:X<=2^(b+1)):∀ k,kg X b k<=2^(b+1)
 | 0=>by show 2^b<=2^(b+1);rw[a6];omega
 | 1=>by
  show 2^b*X/2^b/1<=_;rw[dG,an5 _ (aZ ag)];exact h
 |k+2=>by
  have ih:=EI h (k+1);have h1:=Sx h (kg X b (k+1));show kg X b (k+1)*X/2^b/(k+2)<=_;have h2:kg X b (k+1)*X/2^b/(k+2)<=kg X b (k+1)*X/2^b/2:=gF ae ag;omega
theorem ad9{X b:Nat}(h:X<=2^(b+1))(k:Nat)(hk:3<=k):kg X b (k+1)*2<=kg X b k:=by
 have h1:=Sx h (kg X b k);have h2:kg X b (k+1)<=kg X b k*X/2^b/4:=gF ae ag;omega
theorem Sw{X b:Nat}(h:X<=2^(b+1)):∀ j,kg X b (3+j)*2^j<=2^(b+1)
 | 0=>by rw[bO,bQ];exact EI h 3
 |j+1=>by
  have ih:=Sw h j;have h1:=ad9 h (3+j) ae;have h2:=bE (2^j) h1;rw[a6,show kg X b (3+(j+1))*(2^j*2)=kg X b (3+j+1)*2*2^j by rw[bd,bc 2 (2^j)];rfl];omega
theorem aea{X b:Nat}(h:X<=2^(b+1)):∃ N,1<=N/\N<=b+5/\(∀ k,k<N->kg X b k≠0)/\kg X b N=0:=by
 have hz:kg X b (3+(b+2))=0:=by
  have h1:=Sw h (b+2);apply bG;intro jJ;have h2:2^(b+2)<=kg X b (3+(b+2))*2^(b+2):=fV _ (dE jJ);have h3:2^(b+2)=2^(b+1)*2:=a6 (n:=2) (m:=b+1);have h4:0<2^(b+1):=aZ ag;omega
 obtain⟨N,n1,n2,n3⟩:=qx (p:=λk=>decide (kg X b k=0)) (n:=b+6) ⟨3+(b+2),ae,aT hz⟩;have n2':=ck n2;refine⟨N,?_,ae,λk hk=>fz (n3 k hk),n2'⟩;rcases N with _|N
 .have:0<2^b:=aZ ag 
  have e:2^b=0:=n2';omega
 .omega
theorem ae8{f:Nat->Nat}{B:Nat}(h0:f 0<2^B)(h:∀ k,f (k+1)*2<=f k):∃ N,N<=B/\(∀ k,k<N->f k≠0)/\f N=0:=by
 have hp:∀ k,f k*2^k<=f 0:=by
  intro k
  induction k with
  |zero=>rw[bO,bQ];exact aV _
  |succ k ih=>
   have:=bE (2^k) (h k);rw[a6,show f (k+1)*(2^k*2)=f (k+1)*2*2^k by rw[bd,bc 2 (2^k)]];omega
 have hz:f B=0:=by
  apply bG;intro jJ;have h2:2^B<=f B*2^B:=fV _ (dE jJ);have:=hp B;omega
 obtain⟨N,n1,n2,n3⟩:=qx (p:=λk=>decide (f k=0)) (n:=B+1) ⟨B,ae,aT hz⟩;exact⟨N,ae,λk hk=>fz (n3 k hk),ck n2⟩
def jO(a b:Bool×Nat):Bool×Nat:=if a.1=b.1 then(a.1,a.2+b.2)else if a.2<b.2 then(b.1,b.2-a.2)else(a.1,a.2-b.2)
def o0(a:Bool×Nat):Int:=if a.1 then -(a.2:Int)else(a.2:Int)
theorem LJ(a b:Bool×Nat):o0 (jO a b)=o0 a+o0 b:=by
 obtain⟨s,m⟩:=a;obtain⟨t,n⟩:=b;unfold jO o0;cases s<;>cases t<;>simp<;>(try split)<;>(try simp)<;>omega
theorem xy(a b:Bool×Nat):(jO a b).2<=a.2+b.2:=by
 unfold jO;split
 .exact aV _
 .split
  .show b.2-a.2<=_;omega
  .show a.2-b.2<=_;omega
def Am(a:Bool×Nat)(b:Nat):Dy:=canon a.1 a.2 (-(b:Int))
theorem Sv(a:Bool×Nat)(b:Nat):(Am a b).q=(o0 a:Rat)*P2 (-(b:Int)):=by
 unfold Am o0;rw[qP];cases a.1
 .simp only[bq,a7];rw[dO]
 .simp only[bn];rw[fP,dO];grind
def Io(a:Bool×Nat):Bool×Nat:=jO a (true,16777216)
def Im(a:Bool×Nat):Bool×Nat:=jO a (false,16777216)
def sD(a:Bool×Nat)(b p:Nat):Iv:=kI (jh (Am (Io a) b) p false) (jx (Am (Io a) b) p false) (jh (Am (Im a) b) p true) (jx (Am (Im a) b) p true)
theorem ahB(a:Bool×Nat)(b:Nat){p:Nat}(hp:1<=p)(ia:p<=4096):(sD a b p).ic:=by
 unfold sD kI;split
 .exact mi
 .rename_i he
  have c1:(Am (Io a) b).kN:=qV _ _ _;have c2:(Am (Im a) b).kN:=qV _ _ _;have A:=tV c1 hp ia;have B:=uM c2 hp ia;refine .inr ⟨rfl,xj _ hp ia _,xj _ hp ia _,?_⟩;rw[po];refine bA (A.1 ae).2 (bA ?_ (B.1 ae).2);rw[Sv,Sv,vK,fO];unfold Io Im;rw[LJ,LJ];simp[o0]
theorem Ah(m n:Nat)(h1:(gV m).length<=256)(h2:n<=65536)(h3:(gV (m*2^n)).length<=256):gW 410 [(gY (gV m)),(iP n)] (gY (gV (m*2^n))):=
 tr true call410 func410 (chain [.c (VK _ _ af ae af:gW 219 [(gY (gV m)),(iP n)] _)]<|.nil) ah 
theorem wA(m n:Nat)(h1:(gV m).length<=256)(h2:n<=65536):gW 411 [(gY (gV m)),(iP n)] (gY (gV (m/2^n))):=
 tr true call411 func411 (chain [.c (NF _ _ af ae:gW 301 [(gY (gV m)),(iP n)] _)]<|.nil) ah 
theorem KV(m:Nat)(z:Int)(h1:(gV m).length<=256)(h2:0<=z)(h3:z<=65536)(h4:(gV (m*2^z.toNat)).length<=256):gW 410 [gY (gV m),iP z] (gY (gV (m*2^z.toNat))):=by
 have:=Ah m z.toNat h1 ae h4;rwa[show(z.toNat:Int)=z by omega]at this
theorem abG(m:Nat)(z:Int)(h1:(gV m).length<=256)(h2:0<=z)(h3:z<=65536):gW 411 [gY (gV m),iP z] (gY (gV (m/2^z.toNat))):=by
 have:=wA m z.toNat h1 ae;rwa[show(z.toNat:Int)=z by omega]at this
theorem lJ{m k:Nat}(h:m<2^k)(hk:k<=8192):(gV m).length<=256:=ns (aY (kR.2 h) hk)
theorem sZ{n:Nat}(h:n<4294967296):(gV n).length<=256:=lJ (k:=32) h ag 
theorem af7(n:Nat):(jf n).neg=false/\0<=(jf n).e/\(jf n).m*2^(jf n).e.toNat=n/\(jf n).m<=n:=by
 by_cases h:n=0
 .subst h;decide
 .have e1:(jf (n:Int))=canon false n 0:=BP n
  have e2:canon false n 0=⟨false,n/2^jQ n,(jQ n:Int)⟩:=by unfold canon;rw[aR h];simp
  rw[e1,e2];refine⟨rfl,Int.natCast_nonneg _,?_,bD _ _⟩;show n/2^jQ n*2^(jQ n:Int).toNat=n;rw[fC];exact Ew h
theorem KY(n:Nat)(h:n<4294967296):gW 412 [(iP n)] (.agg [(bP false),(gY (gV n))]):=by
 obtain⟨p1,p2,p3,p4⟩:=af7 n;have hv:=M8 n h;have he:=hv.exp;have z1:=hv.gV;have z2:(gV ((jf n).m*2^(Int.toNat (jf n).e))).length<=256:=by rw[p3];exact sZ h
 exact tr true call412 func412 (chain [.c (KI n ae),.c (KV _ _ af ae ae af:gW 410 [(gY (gV ((jf (n:Int)).m))),(iP ((jf (n:Int)).e))] _)]<|rQ (.agg [(bP ((jf (n:Int)).neg)),(gY (gV (((jf (n:Int)).m)*2^(Int.toNat ((jf (n:Int)).e)))))]) (.agg [(bP false),(gY (gV n))]) (by rw[p1,p3])) ah 
theorem aaX(m:Nat):((ie m:Int)==0)=decide (m=0):=by
 by_cases h:m=0
 .subst h;rw[q8];rfl
 .have:=mY h
  rw[aU h];exact nv ae 
theorem CY(a:Bool×Nat)(ha:(gV a.2).length<=256):gW 417 [(.agg [(bP a.1),(gY (gV a.2))])] (bP (decide (a.2=0))):=
 tr true call417 func417 (chain [.c (sC _ ae:gW 294 [(gY (gV a.2))] _)]<|rQ (bP ((ie a.2:Int)==0)) (bP (decide (a.2=0))) (by rw[aaX])) ah 
theorem wF(a:Bool×Nat):gW 407 [(.agg [(bP a.1),(gY (gV a.2))])] (.agg [(bP (!a.1)),(gY (gV a.2))]):=
 tr true call407 func407 (.nil) ah 
theorem adK(a:Bool×Nat)(ha:(gV a.2).length<=256)(b:Bool×Nat)(hb:(gV b.2).length<=256)(h:a.1=b.1)(hs:(gV (a.2+b.2)).length<=256):gW 416 [(.agg [(bP a.1),(gY (gV a.2))]),(.agg [(bP b.1),(gY (gV b.2))])] (.agg [(bP a.1),(gY (gV (a.2+b.2)))]):=
 tr true call416 func416 (chain [tB 13 (by rw[h];simp:(a.1==b.1)=true),.c (Jp _ _ af af af:gW 321 [(gY (gV a.2)),(gY (gV b.2))] _)]<|.nil) ah 
theorem adI(a:Bool×Nat)(ha:(gV a.2).length<=256)(b:Bool×Nat)(hb:(gV b.2).length<=256)(h:¬a.1=b.1)(h2:a.2<b.2):gW 416 [(.agg [(bP a.1),(gY (gV a.2))]),(.agg [(bP b.1),(gY (gV b.2))])] (.agg [(bP b.1),(gY (gV (b.2-a.2)))]):=
 tr true call416 func416 (chain [tB 13 (by simpa using h:(a.1==b.1)=false),.c (zj _ _ ae ae:gW 220 [(gY (gV a.2)),(gY (gV b.2))] _),tT 31 ((kf a.2 b.2)<0) (CL.2 h2),.c (FQ _ _ af af ae:gW 322 [(gY (gV b.2)),(gY (gV a.2))] _)]<|.nil) ah 
theorem adJ(a:Bool×Nat)(ha:(gV a.2).length<=256)(b:Bool×Nat)(hb:(gV b.2).length<=256)(h:¬a.1=b.1)(h2:¬a.2<b.2):gW 416 [(.agg [(bP a.1),(gY (gV a.2))]),(.agg [(bP b.1),(gY (gV b.2))])] (.agg [(bP a.1),(gY (gV (a.2-b.2)))]):=
 tr true call416 func416 (chain [tB 13 (by simpa using h:(a.1==b.1)=false),.c (zj _ _ ae ae:gW 220 [(gY (gV a.2)),(gY (gV b.2))] _),tF 31 ((kf a.2 b.2)<0) λq=>h2 (CL.1 q),.c (FQ _ _ af af ae:gW 322 [(gY (gV a.2)),(gY (gV b.2))] _)]<|.nil) ah 
theorem sR(a:Bool×Nat)(ha:(gV a.2).length<=256)(b:Bool×Nat)(hb:(gV b.2).length<=256)(hs:(gV (a.2+b.2)).length<=256):gW 416 [(.agg [(bP a.1),(gY (gV a.2))]),(.agg [(bP b.1),(gY (gV b.2))])] (.agg [(bP ((jO a b).1)),(gY (gV ((jO a b).2)))]):=by
 unfold jO;split
 .rename_i h;exact adK a ha b hb h hs
 .rename_i h
  split
  .rename_i h2;exact adI a ha b hb h h2
  .rename_i h2;exact adJ a ha b hb h h2
theorem LI(a:Bool×Nat)(ha:(gV a.2).length<=256)(c:Bool×Nat)(hc:(gV c.2).length<=256)(b:Nat)(hb:b<=65536)(hm:(gV (a.2*c.2)).length<=256):gW 413 [(.agg [(bP a.1),(gY (gV a.2))]),(.agg [(bP c.1),(gY (gV c.2))]),(iP b)] (.agg [(bP (a.1 != c.1)),(gY (gV (a.2*c.2/2^b)))]):=
 tr true call413 func413 (chain [.c (zp _ _ af af af:gW 218 [(gY (gV a.2)),(gY (gV c.2))] _),.c (wA _ _ af ae:gW 411 [(gY (gV (a.2*c.2))),(iP b)] _)]<|.nil) ah 
theorem EG(a:Bool×Nat)(ha:(gV a.2).length<=256)(n:Nat)(h0:n≠0)(hn:n<4294967296):gW 419 [(.agg [(bP a.1),(gY (gV a.2))]),(iP n)] (.agg [(bP a.1),(gY (gV (a.2/n)))]):=by
 have zn:(gV n).length<=256:=sZ hn;exact tr true call419 func419 (chain [.c (KY _ ae:gW 412 [(iP n)] _),.c (zo _ _ ae ae af:gW 307 [(gY (gV a.2)),(gY (gV n))] _)]<|.nil) ah 
def q6(d:Dy)(b:Nat):Bool×Nat:=(d.neg,if d.e+(b:Int)<0 then d.m/2^(0-(d.e+(b:Int))).toNat else d.m*2^(d.e+(b:Int)).toNat)
theorem abo(d:Dy)(hd:d.ic)(b:Nat)(hb:b<=30000)(h:d.e+(b:Int)<0):gW 415 [(gZ d),(iP b)] (.agg [(bP ((q6 d b).1)),(gY (gV ((q6 d b).2)))]):=by
 have hx:=hd.exp;have z1:=hd.gV;exact tr true call415 func415 (chain [iu (d.e+(b:Int)) ae,tB 11 (aT h),iu (0-(d.e+(b:Int))) ae,.c (abG _ _ af ae ae:gW 411 [(gY (gV d.m)),(iP (0-(d.e+(b:Int))))] _)]<|rQ (.agg [(bP d.neg),(gY (gV (d.m/2^(Int.toNat (0-(d.e+(b:Int)))))))]) (.agg [(bP ((q6 d b).1)),(gY (gV ((q6 d b).2)))]) (by unfold q6;rw[aS h])) ah 
theorem abn(d:Dy)(hd:d.ic)(b:Nat)(hb:b<=30000)(h:¬d.e+(b:Int)<0)(hs:(gV (d.m*2^(Int.toNat (d.e+(b:Int))))).length<=256):gW 415 [(gZ d),(iP b)] (.agg [(bP ((q6 d b).1)),(gY (gV ((q6 d b).2)))]):=by
 have hx:=hd.exp;have z1:=hd.gV;exact tr true call415 func415 (chain [iu (d.e+(b:Int)) ae,tB 11 (aU h),iu (d.e+(b:Int)) ae,.c (KV _ _ af ae ae af:gW 410 [(gY (gV d.m)),(iP (d.e+(b:Int)))] _)]<|rQ (.agg [(bP d.neg),(gY (gV (d.m*2^(Int.toNat (d.e+(b:Int))))))]) (.agg [(bP ((q6 d b).1)),(gY (gV ((q6 d b).2)))]) (by unfold q6;rw[aR h])) ah 
theorem Jv{d:Dy}{b K:Nat}(h:d.iw+(b:Int)<=K):(q6 d b).2<2^K:=by
 by_cases h0:d.m=0
 .have:(q6 d b).2=0:=by unfold q6;simp only[h0];split<;>simp
  rw[this];exact aZ ag 
 .rw [Gx h0]at h
  have hm:=oY d.m;unfold q6;simp only;split
  .rename_i hc
   obtain⟨k,hk⟩:∃ k,k=(0-(d.e+(b:Int))).toNat:=⟨_,rfl⟩
   rw[<-hk];by_cases hb:ie d.m<=k
   .rw [bW (bF hm (bj ag hb))];exact aZ ag 
   .refine (bS (aZ ag)).2 (bF hm ?_)
    rw[<-aX];exact bj ag ae 
  .rename_i hc
   obtain⟨k,hk⟩:∃ k,k=(d.e+(b:Int)).toNat:=⟨_,rfl⟩
   rw[<-hk];have:=cD hm (aZ (n:=k) (show 0<2 by decide));rw[<-aX]at this;exact bF this (bj ag ae)
theorem KW(d:Dy)(hd:d.ic)(b K:Nat)(hb:b<=30000)(hK:K<=8192)(h:d.iw+(b:Int)<=K):gW 415 [gZ d,iP (b:Int)] (.agg [(bP ((q6 d b).1)),(gY (gV ((q6 d b).2)))]):=by
 by_cases hc:d.e+(b:Int)<0
 .exact abo d hd b hb hc
 .refine abn d hd b hb hc ?_
  have:=Jv h;unfold q6 at this;rw[aR hc]at this;exact lJ this hK
def mC(f:Nat->Nat):Nat->Bool×Nat
 | 0=>(false,f 0)
 |k+1=>jO (mC f k) (decide ((k+1)%2=1),f (k+1)/(2*(k+1)+1))
theorem PW{f:Nat->Nat}(hf:∀ k,f (k+1)<=f k):∀ n,(n%2=0->o0 (mC f n)<=f 0/\(f 0:Int)-(f 1/3:Nat)<=o0 (mC f n)-(f (n+1)/(2*(n+1)+1):Nat))/\(n%2=1->(f 0:Int)-(f 1/3:Nat)<=o0 (mC f n)/\o0 (mC f n)+(f (n+1)/(2*(n+1)+1):Nat)<=f 0)
 | 0=>⟨λ_=>⟨by simp[mC,o0],by simp[mC,o0]⟩,λh=> ae⟩
 |n+1=>by
  obtain⟨e,o⟩:=PW hf n;have hq:f (n+1+1)/(2*(n+1+1)+1)<=f (n+1)/(2*(n+1)+1):=Nat.div_le_div (hf (n+1)) ae ae;have hv:o0 (mC f (n+1))=o0 (mC f n)+o0 (decide ((n+1)%2=1),f (n+1)/(2*(n+1)+1)):=LJ _ _;generalize f (n+1)/(2*(n+1)+1)=q1 at *
  generalize f (n+1+1)/(2*(n+1+1)+1)=q2 at *
  generalize f 1/3=q0 at *
  rcases aoj n with h|h
  .obtain ⟨e1,e2⟩:=e h
   rw[show decide ((n+1)%2=1)=true from aT ae]at hv;simp only[o0,bn]at hv;exact⟨λq=> ae,λ_=>⟨by unfold o0 at *;omega,by unfold o0 at *;omega⟩⟩
  .obtain ⟨e1,e2⟩:=o h
   rw[show decide ((n+1)%2=1)=false from aU ae]at hv;simp only[o0,bq,a7]at hv;exact⟨λ_=>⟨by unfold o0 at *;omega,by unfold o0 at *;omega⟩,λq=> ae⟩
theorem KG{f:Nat->Nat}(hf:∀ k,f (k+1)<=f k)(n:Nat):(mC f n).2<=f 0/\f 0<=(mC f n).2+f 1/3:=by
 have ht:=PW hf n;have h1:f 1/3<=f 0:=aY (bD _ _) (hf 0);have hb:(f 0:Int)-(f 1/3:Nat)<=o0 (mC f n)/\o0 (mC f n)<=f 0:=by
  rcases aoj n with h|h
  .have:=ht.1 h
   generalize f (n+1)/(2*(n+1)+1)=q at *
   omega
  .have:=ht.2 h
   generalize f (n+1)/(2*(n+1)+1)=q at *
   omega
 generalize mC f n=s at *
 generalize f 1/3=q at *
 obtain⟨b,m⟩:=s;cases b
 .simp only[o0,bq,a7]at hb ⊢;omega
 .simp only[o0,bn]at hb ⊢;omega
theorem GY{f:Nat->Nat}(hf:∀ k,f (k+1)<=f k):∀ k,f k<=f 0
 | 0=>aV _
 |k+1=>aY (hf k) (GY hf k)
theorem CB{f:Nat->Nat}(hf:∀ k,f (k+1)<=f k){B:Nat}(hB:B<=8191)(hz:f 0<2^B)(k:Nat):(gV (f k)).length<=256:=lJ (bR (GY hf k) hz) ae 
theorem GZ{f:Nat->Nat}(hf:∀ k,f (k+1)<=f k){B:Nat}(hB:B<=8191)(hz:f 0<2^B)(k:Nat):(gV (mC f k).2).length<=256/\(gV (f (k+1)/(2*(k+1)+1))).length<=256:=⟨lJ (bR (KG hf k).1 hz) ae,lJ (bR (aY (bD _ _) (GY hf (k+1))) hz) ae⟩
theorem PX{f:Nat->Nat}(hf:∀ k,f (k+1)<=f k){B:Nat}(hB:B<=8191)(hz:f 0<2^B)(k:Nat):(gV ((mC f k).2+f (k+1)/(2*(k+1)+1))).length<=256:=by
 have h1:=(KG hf k).1;have h2:=aY (bD (f (k+1)) (2*(k+1)+1)) (GY hf (k+1));refine lJ (k:=B+1) ?_ ae;rw[a6];omega
def r6(n b:Nat):Nat->Nat
 | 0=>1*2^b/n
 |k+1=>r6 n b k/(n*n)
theorem UH{n b:Nat}(hn:2<=n)(k:Nat):r6 n b (k+1)*2<=r6 n b k:=by
 show r6 n b k/(n*n)*2<=_;have h1:r6 n b k/(n*n)<=r6 n b k/2:=gF (by have:=cL hn hn;omega) ag;omega
theorem Nb(n b:Nat):r6 n b 0<2^(b+1):=by
 show 1*2^b/n<_;rw[bK,a6];have:=bD (2^b) n;have:0<2^b:=aZ ag;omega
theorem agf{n b:Nat}(hn:2<=n):∃ N,N<=b+1/\(∀ k,k<N->r6 n b (k+1)≠0)/\r6 n b (N+1)=0:=by
 obtain⟨N,h1,h2,h3⟩:=ae8 (Nb n b) (UH hn);rcases N with _|N
 .refine ⟨0,ae,λk hk=>absurd hk (bk _),?_⟩
  have:=UH (b:=b) hn 0;omega
 .exact ⟨N,ae,λk hk=>h2 (k+1) ae,h3⟩
theorem ail{T x y f g:Nat}(hT:65536<=T)(hf:f=T/5)(xd:x<=f)(ri:f<=x+f/(5*5)/3)(hy:y<=T/239)(hg:g=(jO (false,x*2^4) (true,y*2^2)).2):2<=g/\g<=T*4/\g/2<=T*2:=by
 have h16:(2:Nat)^4=16:=rfl;have h4:(2:Nat)^2=4:=rfl;have e:g=x*16-y*4:=by
  rw[hg,h16,h4];unfold jO;rw[aR (show ¬false=true from Bool.false_ne_true),aR (by show ¬x*16<y*4;omega)]
 omega
def PU(f:Nat->Nat)(g:FuncId)(cap:List E)(N:Nat)(x:Nat):PS:=⟨30,true,[(6,.e (iP (((x+1):Nat):Int))),(5,.box 5 0),(4,.box 4 0),(2,.box 2 0),(1,.e (.fn g cap))],[(5,.cells 264 [(bP ((mC f x).1)),(gY (gV ((mC f x).2)))]),(4,.cells 264 [(bP false),(.v (.slice none 0 0))]),(2,.cells 264 [(bP false),(gY (gV (f x)))])]⟩
theorem aa8(f:Nat->Nat)(g:FuncId)(cap:List E)(N:Nat)(hp:∀ k,k<=N->gW g ((.agg [(bP false),(gY (gV (f k)))])::cap) (.agg [(bP false),(gY (gV (f (k+1))))]))(hf:∀ k,f (k+1)<=f k)(B:Nat)(hB:B<=8191)(hz:f 0<2^B)(h0:∀ k,k<N->f (k+1)≠0)(hN:f (N+1)=0)(sk:N<=100000):gW 421 [(.agg [(bP false),(gY (gV (f 0)))]),(.fn g cap)] (.agg [(bP ((mC f N).1)),(gY (gV ((mC f N).2)))]):=by
 have z00:=CB hf hB hz 0;exact tr true call421 func421 (chain [.s (Sp.jy (PU f g cap N) 0 N ae (λx hx kn=>by
    have z1:=CB hf hB hz (x+1);have z0:=CB hf hB hz x;have zs:=(GZ hf hB hz x).1;have zt:=(GZ hf hB hz x).2;have zu:=PX hf hB hz x;exact iC (chain [.c (hp x ae:gW g ((.agg [(bP false),(gY (gV (f x)))])::cap) _),.c (CY (false,(f (x+1))) af:gW 417 [(.agg [(bP false),(gY (gV (f (x+1))))])] _),tF 15 ((f (x+1))=0) (h0 x ae),
     iu (2*(((x+1):Nat):Int)) ae,iu ((((2*(x+1)):Nat):Int)+1) ae,.c (EG (false,(f (x+1))) af ((2*(x+1))+1) ae ae:gW 419 [(.agg [(bP false),(gY (gV (f (x+1))))]),(iP ((((2*(x+1))+1):Nat):Int))] _),.a (ae:0<(2:Int))]<|.w ((x+1)%2=1)
     (λho=>chain [tB 24 (by rw[ho];rfl:(((((x+1)%2):Nat):Int)==1)=true),.c (wF (false,((f (x+1))/((2*(x+1))+1))):gW 407 [(.agg [(bP false),(gY (gV ((f (x+1))/((2*(x+1))+1))))])] _),.c (sR (mC f x) af ((!false),((f (x+1))/((2*(x+1))+1))) af af:gW 416 [(.agg [(bP ((mC f x).1)),(gY (gV ((mC f x).2)))]),(.agg [(bP (!false)),(gY (gV ((f (x+1))/((2*(x+1))+1))))])] _),
      iu ((((x+1):Nat):Int)+1) ae]<|.e (chain [.b 5 (.iS (by first|rfl|simp[mC,ho]):Bx.le (.cells 264 [(bP ((jO (mC f x) ((!false),((f (x+1))/((2*(x+1))+1)))).1)),(gY (gV ((jO (mC f x) ((!false),((f (x+1))/((2*(x+1))+1)))).2)))]) (.cells 264 [(bP ((mC f (x+1)).1)),(gY (gV ((mC f (x+1)).2)))]))]<|.nil))
     (λho=>chain [tB 24 (av:(((((x+1)%2):Nat):Int)==1)=false),.c (sR (mC f x) af (false,((f (x+1))/((2*(x+1))+1))) af af:gW 416 [(.agg [(bP ((mC f x).1)),(gY (gV ((mC f x).2)))]),(.agg [(bP false),(gY (gV ((f (x+1))/((2*(x+1))+1))))])] _),
      iu ((((x+1):Nat):Int)+1) ae]<|.e (chain [.b 5 (.iS (by first|rfl|simp[mC,ho]):Bx.le (.cells 264 [(bP ((jO (mC f x) (false,((f (x+1))/((2*(x+1))+1)))).1)),(gY (gV ((jO (mC f x) (false,((f (x+1))/((2*(x+1))+1)))).2)))]) (.cells 264 [(bP ((mC f (x+1)).1)),(gY (gV ((mC f (x+1)).2)))]))]<|.nil))) ah)
  (λhx=>by
    have z1:=CB hf hB hz (N+1);have z0:=CB hf hB hz N;have zs:=(GZ hf hB hz N).1;have zt:=(GZ hf hB hz N).2;have zu:=PX hf hB hz N;exact iC (chain [.c (hp N ae:gW g ((.agg [(bP false),(gY (gV (f N)))])::cap) _),.c (CY (false,(f (N+1))) af:gW 417 [(.agg [(bP false),(gY (gV (f (N+1))))])] _),tB 15 (aT hN)]<|.nil) ah) ak:jv 4 f421 (PU f g cap N 0) .ret ⟨30,true,[(4,.box 4 0)],[(4,.cells 264 [(bP ((mC f N).1)),(gY (gV ((mC f N).2)))])]⟩) (chain [.o 6 (.int aw:PV.le (.e (iP 1)) (.e (iP (((0+1):Nat):Int)))),.b 5 (.iS (by first|rfl|simp[mC,ho]):Bx.le (.cells 264 [(bP false),(gY (gV (f 0)))]) (.cells 264 [(bP ((mC f 0).1)),(gY (gV ((mC f 0).2)))]))]<|.nil)]<|.nil) ah 
theorem abi(m n:Nat)(hm:(gV m).length<=256)(pO:n≠0)(hn:n<60000):gW 422 [(.agg [(bP false),(gY (gV m))]),(.kz 1 λj_=>[(iP n)].getD j_ .any)] (.agg [(bP false),(gY (gV (m/(n*n))))]):=by
 have hnn:n*n<3600000000:=aok hn hn;have hnz:n*n≠0:=du pO pO;exact tr true call422 func422 (chain [iu ((n:Int)*(n:Int)) ae,.c (EG (false,m) af (n*n) ae ae:gW 419 [(.agg [(bP false),(gY (gV m))]),(iP (((n*n):Nat):Int))] _)]<|.nil) ah 
theorem abj(n b:Nat)(S:Bool×Nat)(pO:n≠0)(hn:n<60000)(hb:b<=8000)(hS:gW 421 [(.agg [(bP false),(gY (gV (1*2^b/n)))]),.fn 422 [(.kz 1 λj_=>[(iP n)].getD j_ .any)]] (.agg [(bP S.1),(gY (gV S.2))])):gW 420 [(iP n),(iP b)] (.agg [(bP S.1),(gY (gV S.2))]):=by
 have z0:(gV 1).length<=256:=sZ ag;have z1:(gV (1*2^b)).length<=256:=lJ (k:=b+1) (by rw[a6,bK];have:0<2^b:=aZ ag;omega) ae;exact tr true call420 func420 (chain [.o 6 (.e r9:PV.le (.e (.sl false 1 1 λi_ j_=>[(.v (.int .u32 1))].getD (i_*1+j_) (.v (.bool false)))) (.e (gY (gV 1)))),.c (Ah 1 b af ae af),.c (EG (false,(1*2^b)) af n ae ae:gW 419 [(.agg [(bP false),(gY (gV (1*2^b)))]),(iP n)] _),.c (hS:gW 421 [(.agg [(bP false),(gY (gV ((1*2^b)/n)))]),(.fn 422 [(.kz 1 λj_=>[(iP n)].getD j_ .any)])] _)]<|.nil) ah 
theorem QK(n b:Nat)(pO:2<=n)(hn:n<60000)(hb:b<=8000):∃ S:Bool×Nat,S.2<=2^b/n/\2^b/n<=S.2+2^b/n/(n*n)/3/\gW 420 [iP (n:Int),iP (b:Int)] (.agg [(bP S.1),(gY (gV S.2))]):=by
 obtain⟨N,h1,h2,h3⟩:=agf (b:=b) pO;have hf:∀ k,r6 n b (k+1)<=r6 n b k:=λk=>bD _ _
 obtain⟨r1,r2⟩:=KG hf N;have e0:r6 n b 0=2^b/n:=by show 1*2^b/n=_;rw[bK]
 have e1:r6 n b 1=2^b/n/(n*n):=by show r6 n b 0/(n*n)=_;rw[e0]
 refine⟨mC (r6 n b) N,by rw[<-e0];exact r1,by rw[<-e1,<-e0];exact r2,?_⟩;exact abj n b _ ae hn hb (aa8 (r6 n b) 422 _ N (λk _=>abi (r6 n b k) n (CB hf (show b+1<=8191 by omega) (Nb n b) k) ae hn) hf (b+1) ae (Nb n b) h2 h3 ae)
theorem abp(b:Nat)(x y:Bool×Nat)(zx:x.2<2^b)(zy:y.2<2^b)(hb:b<=8000)(hx:gW 420 [iP ((5:Nat):Int),iP (b:Int)] (.agg [(bP x.1),(gY (gV x.2))]))(hy:gW 420 [iP ((239:Nat):Int),iP (b:Int)] (.agg [(bP y.1),(gY (gV y.2))])):gW 409 [(iP b)] (.agg [(bP ((jO (false,x.2*2^4) (true,y.2*2^2)).1)),(gY (gV ((jO (false,x.2*2^4) (true,y.2*2^2)).2)))]):=by
 have z1:(gV x.2).length<=256:=lJ zx ae;have z2:(gV y.2).length<=256:=lJ zy ae;have e5:2^(b+5)=2^b*32:=by rw[aX]
 have z3:(gV (x.2*2^4)).length<=256:=lJ (k:=b+5) ae ae;have z4:(gV (y.2*2^2)).length<=256:=lJ (k:=b+5) ae ae;have z5:(gV (x.2*2^4+y.2*2^2)).length<=256:=lJ (k:=b+5) ae ae;exact tr true call409 func409 (chain [.c (hx:gW 420 [(iP 5),(iP b)] _),.c (hy:gW 420 [(iP 239),(iP b)] _),.c (Ah x.2 4 af ae af),.c (Ah y.2 2 af ae af),.c (sR (false,(x.2*2^4)) af (true,(y.2*2^2)) af af:gW 416 [(.agg [(bP false),(gY (gV (x.2*2^4)))]),(.agg [(bP true),(gY (gV (y.2*2^2)))])] _)]<|.nil) ah 
theorem QL(b:Nat)(jb:16<=b)(hb:b<=8000):∃ c:Bool×Nat,2<=c.2/\c.2<=2^b*4/\c.2/2<=2^b*2/\gW 409 [iP (b:Int)] (.agg [(bP c.1),(gY (gV c.2))]):=by
 obtain⟨x,x1,x2,hx⟩:=QK 5 b ag ag hb;obtain⟨y,y1,y2,hy⟩:=QK 239 b ag ag hb;have hT:65536<=2^b:=by have:=bj (show 0<2 by decide) jb;omega
 obtain⟨g1,g2,g3⟩:=ail hT rfl x1 x2 y1 rfl;exact⟨_,g1,g2,g3,abp b x y ae ae hb hx hy⟩
theorem Y0(n:Nat)(h:n<4294967296):bits .and .u32 (n:Int) 3=((n%4:Nat):Int):=by
 have:=bits_and_u32_nat n 3 h ag;rw[show((3:Int))=((3:Nat):Int)from rfl,this];exact congrArg _ (anT n 2)
theorem afK(k:Nat)(h:k<=3):bits .and .i64 (4-(k:Int)) 3=(((4-k)%4:Nat):Int):=by
 rcases(show k=0\/k=1\/k=2\/k=3 by omega)with rfl|rfl|rfl|rfl<;>decide
theorem adV{x:Bool×Nat}{m:Nat}(h:m<=x.2):jO x (!x.1,m)=(x.1,x.2-m):=by
 unfold jO;rw[aR (by show ¬x.1 = !x.1;cases x.1<;>decide),aR (by show ¬x.2<m;omega)]
theorem ajK(n:Nat):n%4<=3:= ae 
theorem ajJ(n:Nat):(4-n)%4<=3:= ae 
theorem ajL{x:Bool×Nat}{H b t:Nat}(h0:1<=H)(hH:H<=2^(b+t+40)*2):(jO x (!x.1,x.2/H*H)).2/2^(t+40)<=2^(b+1):=by
 rw[adV (cO _ _)];show(x.2-x.2/H*H)/_<=_;have h1:x.2-x.2/H*H=x.2%H:=by
  have:=bY x.2 H;rw[bc H]at this;omega
 have h2:=bh x.2 (show 0<H by omega);rw[h1];refine Nat.div_le_of_le_mul (aY (cX h2) (aY hH (fL ?_)));rw[<-aX,show t+40+(b+1)=b+t+40+1 by omega];exact(a6 2 (b+t+40)).symm
def ln(x:Bool×Nat):Nat->Bool
 | 0=>false
 |k+1=>(ln x k != x.1)
def jV(x:Bool×Nat)(b:Nat):Nat->(Bool×Nat)×(Bool×Nat)
 | 0=>((false,0),(false,1*2^b))
 |k+1=>if(k+1)%2=1 then(jO (jV x b k).1 ((if 2<=(k+1)%4 then !(ln x (k+1))else ln x (k+1)),kg x.2 b (k+1)),(jV x b k).2)
  else((jV x b k).1,jO (jV x b k).2 ((if 2<=(k+1)%4 then !(ln x (k+1))else ln x (k+1)),kg x.2 b (k+1)))
theorem XY{x:Bool×Nat}{b:Nat}(h:x.2<=2^(b+1)):∀ k,(jV x b k).1.2<=(k+1)*2^(b+1)/\(jV x b k).2.2<=(k+1)*2^(b+1)
 | 0=>⟨bN _,by show 1*2^b<=_;have:=a6 (n:=2) (m:=b);omega⟩
 |k+1=>by
  obtain⟨h1,h2⟩:=XY h k;have h3:=EI h (k+1);have h4:(k+1+1)*2^(b+1)=(k+1)*2^(b+1)+2^(b+1):=gE _ _;unfold jV;split
  .refine ⟨aY (xy _ _) ?_,by rw[h4];exact aY h2 (Nat.le_add_right _ _)⟩
   rw[h4];exact Nat.add_le_add h1 h3
  .refine ⟨by rw[h4];exact aY h1 (Nat.le_add_right _ _),aY (xy _ _) ?_⟩
   rw[h4];exact Nat.add_le_add h2 h3
theorem XZ{x:Bool×Nat}{b:Nat}(h:x.2<=2^(b+1))(hb:b<=3000){k:Nat}(hk:k<=b+5):(jV x b k).1.2<2^(b+14)/\(jV x b k).2.2<2^(b+14):=by
 obtain⟨h1,h2⟩:=XY h k;have h3:(k+1)*2^(b+1)<2^(b+14):=by
  rw[show b+14=13+(b+1)by omega,aX 2 13];exact cD ae (aZ ag)
 exact⟨bR h1 h3,bR h2 h3⟩
theorem ad8{T:TypeId}:Bx.le (.cells T [bP false,.v (.slice none 0 0)]) (.cells T [bP false,gY (gV 0)]):=
 .cells (λ_=>rfl) (.cons (.refl _) (.cons AN .nil))
structure ZE(x:Bool×Nat)(b k:Nat):Prop where
 t0:(gV (kg x.2 b k)).length<=256
 t1:(gV (kg x.2 b (k+1))).length<=256
 tm:(gV (kg x.2 b k*x.2)).length<=256
 tq:(gV (kg x.2 b k*x.2/2^b)).length<=256
 s0:(gV (jV x b k).1.2).length<=256
 c0:(gV (jV x b k).2.2).length<=256
 s1:(gV ((jV x b k).1.2+kg x.2 b (k+1))).length<=256
 c1:(gV ((jV x b k).2.2+kg x.2 b (k+1))).length<=256
theorem XX{x:Bool×Nat}{b:Nat}(h:x.2<=2^(b+1))(hb:b<=3000){k:Nat}(hk:k<=b+5):ZE x b k:=by
 have hp:(2:Nat)^(b+2)=2^(b+1)*2:=a6 _ _;have hq:(0:Nat)<2^(b+1):=aZ ag;have t0:=EI h k;have t1:=EI h (k+1);obtain⟨s,c⟩:=XZ h hb hk;have hm:kg x.2 b k*x.2<2^(b+2+(b+2)):=by
  rw[aX];exact aok ae ae 
 have e14:(2:Nat)^(b+15)=2^(b+14)*2:=a6 _ _;have e13:(2:Nat)^(b+1)<=2^(b+14):=bj ag ae;exact⟨lJ (k:=b+2) ae ae,lJ (k:=b+2) ae ae,lJ hm ae,lJ (bR (bD _ _) hm) ae,
  lJ s ae,lJ c ae,lJ (k:=b+15) ae ae,lJ (k:=b+15) ae ae⟩
theorem Vu{s:Bool}{m b:Nat}(h:m<2^4000)(hb:b<=8000):mW (canon s m (-(b:Int))):=by
 by_cases h0:m=0
 .subst h0;exact .inl rfl
 .have e:canon s m (-(b:Int))=⟨s,m/2^jQ m,-(b:Int)+jQ m⟩:=by unfold canon;rw[aR h0]
  have h1:ie m<=4000:=kR.2 h;have h2:=tk (bD m (2^jQ m));have h3:jQ m<=4000:=by
   have:=DM h0;apply bG;intro hc;have:=bj (show 0<2 by decide) (show 4000<=jQ m by omega);omega
  rw[e];exact .inr ⟨by show ie (m/2^jQ m)<=4096;omega,by show -16384 <= -(b:Int)+jQ m;omega,by show -(b:Int)+jQ m<=16384;omega,by show(ie (m/2^jQ m):Int)+(-(b:Int)+jQ m)<=16384;omega⟩
theorem JD{a b i j n:Nat}(ha:a<2^i)(hb:b<2^j)(hi:i<=n)(hj:j<=n):a+b<2^(n+1):=by
 have h1:=bj (show 0<2 by decide) hi;have h2:=bj (show 0<2 by decide) hj;have e:2^(n+1)=2^n*2:=a6 _ _;omega
theorem adW{a b:Bool×Nat}{i j n:Nat}(ha:a.2<2^i)(hb:b.2<2^j)(hi:i<=n)(hj:j<=n):(jO a b).2<2^(n+1):=bR (xy _ _) (JD ha hb hi hj)
theorem Vv{s:Bool}{m:Nat}{e:Int}(h:mW (canon s m e)):(canon s m e).ic:=⟨qV _ _ _,h⟩
theorem F4{m i k:Nat}(h:m<2^i)(hk:i<=k):m<2^k:=bF h (bj ag hk)
def py(a c:Bool×Nat):Bool×Nat:=if a.1=true/\a.2%c.2≠0 then jO (a.1,a.2/c.2) (true,1)else(a.1,a.2/c.2)
theorem Sr(a c:Bool×Nat):(py a c).2<=a.2/c.2+1:=by
 unfold py;split
 .exact xy _ _
 .exact Nat.le_succ _
theorem ad4(a c:Bool×Nat):(py a c).2*c.2<=a.2+c.2:=by
 refine aY (bE c.2 (Sr a c)) ?_;rw[gE];exact Nat.add_le_add_right (cO _ _) _
theorem Vk{lo hi:Dy}{e f:Int}(h:e≠0\/f≠0):kI lo e hi f=ig:=aS h
theorem aha{lo hi:Dy}{e f:Int}(h:e=0)(k:f=0):kI lo e hi f=⟨lo,hi,false⟩:=aR (by rw[h,k];decide)
def XS(x:Bool×Nat)(b N:Nat)(i:Nat):PS:=⟨43,true,[(8,.e (iP (((i+1):Nat):Int))),(7,.box 7 0),(5,.box 5 0),(4,.box 4 0),(2,.box 2 0),(1,.e (iP b))],[(5,.cells 264 [(bP (((jV x b i).2).1)),(gY (gV (((jV x b i).2).2)))]),(7,.cells 264 [(bP (ln x i)),(gY (gV (kg x.2 b i)))]),(4,.cells 264 [(bP (((jV x b i).1).1)),(gY (gV (((jV x b i).1).2)))]),(2,.cells 264 [(bP x.1),(gY (gV x.2))])]⟩
theorem Jh(n i:Nat):(gV n).getD i 0<4294967296:=by
 by_cases h:i<(gV n).length
 .rw [aW,bg h]
  exact kE n _ (cz h)
 .rw [aW,bT ae];decide
theorem abE(d:Dy)(b t m:Nat)(cp:Bool×Nat)(hd:d.ic)(ht:t=d.iw.toNat)(jb:16<=b)(mn:b<=2000)(rX:t<=2000)(K:Nat)(hK:K<=6000)(zx:m<2^K)(zc:2<=cp.2)(zd:(gV cp.2).length<=256)(rf:gW 409 [iP ((((b+t)+40):Nat):Int)] (.agg [(bP cp.1),(gY (gV cp.2))]))(ug:gW 415 [gZ d,iP ((((b+t)+40):Nat):Int)] (.agg [(bP true),(gY (gV m))]))(hn:0<(gV (m/(cp.2/2^1))).length):gW 405 [(gZ d),(iP b)] (.ix [(.agg [(bP ((jO (true,m) (false,((m/(cp.2/2^1))*(cp.2/2^1)))).1)),(gY (gV ((jO (true,m) (false,((m/(cp.2/2^1))*(cp.2/2^1)))).2/2^(t+40))))]),(iP ((((4-((gV (m/(cp.2/2^1))).getD 0 0%4))%4):Nat):Int))]):=by
 have Ff:=Gw hd;have zX:(gV m).length<=256:=lJ zx ae;have zH:(gV (cp.2/2^1)).length<=256:=aY (me (bD _ _)) zd;have nH:(cp.2/2^1)≠0:= ae ;have mM:((m/(cp.2/2^1))*(cp.2/2^1))<=m:=cO _ _;have zN:(gV (m/(cp.2/2^1))).length<=256:=aY (me (bD _ _)) zX;have zM:(gV ((m/(cp.2/2^1))*(cp.2/2^1))).length<=256:=aY (me mM) zX;have zA:(gV (m+((m/(cp.2/2^1))*(cp.2/2^1)))).length<=256:=lJ (k:=K+1) (by have:=a6 2 K;omega) ae;have zR:(gV (jO (true,m) (false,((m/(cp.2/2^1))*(cp.2/2^1)))).2).length<=256:=aY (me (xy _ _)) zA;have zm:(gV (m%(cp.2/2^1))).length<=256:=aY (me (dp _ _)) zX;have hg:(gV (m/(cp.2/2^1))).getD 0 0<4294967296:=Jh _ 0;have h4:(gV (m/(cp.2/2^1))).getD 0 0%4<=3:= ae ;exact tr true call405 func405 (chain [.c (oL _ af:gW 216 [(gZ d)] _),.o 19 (.int au:PV.le (.e (iP (if 0>(Dy.iw d)then 0 else(Dy.iw d)))) (.e (iP t))),iu ((b:Int)+t) ae,
  iu ((((b+t):Nat):Int)+40) ae,.c (rf:gW 409 [(iP ((((b+t)+40):Nat):Int))] _),.c (wA cp.2 1 af ae),.c (ug:gW 415 [(gZ d),(iP ((((b+t)+40):Nat):Int))] _),.c (zo _ _ ae ae af:gW 307 [(gY (gV m)),(gY (gV (cp.2/2^1)))] _),.c (zp _ _ af af af:gW 218 [(gY (gV (m/(cp.2/2^1)))),(gY (gV (cp.2/2^1)))] _),.c (sR (true,m) af (false,((m/(cp.2/2^1))*(cp.2/2^1))) af af:gW 416 [(.agg [(bP true),(gY (gV m))]),(.agg [(bP false),(gY (gV ((m/(cp.2/2^1))*(cp.2/2^1))))])] _),tT 61 (0<((gV (m/(cp.2/2^1))).length:Int)) ae,iX (0) ((gV (m/(cp.2/2^1))).length) ae,.o 65 (.int (Y0 _ ae):PV.le (.e (.v (.int .u32 (bits .and .u32 ((((gV (m/(cp.2/2^1))).getD 0 0):Nat):Int) 3)))) (.e (.v (.int .u32 (((((gV (m/(cp.2/2^1))).getD 0 0)%4):Nat):Int))))),.o 66 (.int (MY _ ae):PV.le (.e (iP (IntKind.i64.wrap (((((gV (m/(cp.2/2^1))).getD 0 0)%4):Nat):Int)))) (.e (iP (((((gV (m/(cp.2/2^1))).getD 0 0)%4):Nat):Int)))),
  iu (4-(((((gV (m/(cp.2/2^1))).getD 0 0)%4):Nat):Int)) ae,.o 71 (.int (afK _ ae):PV.le (.e (iP (bits .and .i64 (4-(((((gV (m/(cp.2/2^1))).getD 0 0)%4):Nat):Int)) 3))) (.e (iP ((((4-((gV (m/(cp.2/2^1))).getD 0 0%4))%4):Nat):Int)))),
  iu ((t:Int)+40) ae,.c (wA ((jO (true,m) (false,((m/(cp.2/2^1))*(cp.2/2^1)))).2) (t+40) af ae)]<|.nil) ah 
theorem abC(d:Dy)(b t m:Nat)(cp:Bool×Nat)(hd:d.ic)(ht:t=d.iw.toNat)(jb:16<=b)(mn:b<=2000)(rX:t<=2000)(K:Nat)(hK:K<=6000)(zx:m<2^K)(zc:2<=cp.2)(zd:(gV cp.2).length<=256)(rf:gW 409 [iP ((((b+t)+40):Nat):Int)] (.agg [(bP cp.1),(gY (gV cp.2))]))(ug:gW 415 [gZ d,iP ((((b+t)+40):Nat):Int)] (.agg [(bP true),(gY (gV m))]))(hn:¬0<(gV (m/(cp.2/2^1))).length):gW 405 [(gZ d),(iP b)] (.ix [(.agg [(bP ((jO (true,m) (false,((m/(cp.2/2^1))*(cp.2/2^1)))).1)),(gY (gV ((jO (true,m) (false,((m/(cp.2/2^1))*(cp.2/2^1)))).2/2^(t+40))))]),(iP 0)]):=by
 have Ff:=Gw hd;have zX:(gV m).length<=256:=lJ zx ae;have zH:(gV (cp.2/2^1)).length<=256:=aY (me (bD _ _)) zd;have nH:(cp.2/2^1)≠0:= ae ;have mM:((m/(cp.2/2^1))*(cp.2/2^1))<=m:=cO _ _;have zN:(gV (m/(cp.2/2^1))).length<=256:=aY (me (bD _ _)) zX;have zM:(gV ((m/(cp.2/2^1))*(cp.2/2^1))).length<=256:=aY (me mM) zX;have zA:(gV (m+((m/(cp.2/2^1))*(cp.2/2^1)))).length<=256:=lJ (k:=K+1) (by have:=a6 2 K;omega) ae;have zR:(gV (jO (true,m) (false,((m/(cp.2/2^1))*(cp.2/2^1)))).2).length<=256:=aY (me (xy _ _)) zA;have zm:(gV (m%(cp.2/2^1))).length<=256:=aY (me (dp _ _)) zX;have hg:(gV (m/(cp.2/2^1))).getD 0 0<4294967296:=Jh _ 0;have h4:(gV (m/(cp.2/2^1))).getD 0 0%4<=3:= ae ;exact tr true call405 func405 (chain [.c (oL _ af:gW 216 [(gZ d)] _),.o 19 (.int au:PV.le (.e (iP (if 0>(Dy.iw d)then 0 else(Dy.iw d)))) (.e (iP t))),iu ((b:Int)+t) ae,
  iu ((((b+t):Nat):Int)+40) ae,.c (rf:gW 409 [(iP ((((b+t)+40):Nat):Int))] _),.c (wA cp.2 1 af ae),.c (ug:gW 415 [(gZ d),(iP ((((b+t)+40):Nat):Int))] _),.c (zo _ _ ae ae af:gW 307 [(gY (gV m)),(gY (gV (cp.2/2^1)))] _),.c (zp _ _ af af af:gW 218 [(gY (gV (m/(cp.2/2^1)))),(gY (gV (cp.2/2^1)))] _),.c (sR (true,m) af (false,((m/(cp.2/2^1))*(cp.2/2^1))) af af:gW 416 [(.agg [(bP true),(gY (gV m))]),(.agg [(bP false),(gY (gV ((m/(cp.2/2^1))*(cp.2/2^1))))])] _),tF 61 (0<((gV (m/(cp.2/2^1))).length:Int)) ae,iu (4-0) ae,.o 71 (.int ag:PV.le (.e (iP (bits .and .i64 (4-0) 3))) (.e (iP 0))),iu ((t:Int)+40) ae,.c (wA ((jO (true,m) (false,((m/(cp.2/2^1))*(cp.2/2^1)))).2) (t+40) af ae)]<|.nil) ah 
theorem abF(d:Dy)(b t m:Nat)(cp:Bool×Nat)(hd:d.ic)(ht:t=d.iw.toNat)(jb:16<=b)(mn:b<=2000)(rX:t<=2000)(K:Nat)(hK:K<=6000)(zx:m<2^K)(zc:2<=cp.2)(zd:(gV cp.2).length<=256)(rf:gW 409 [iP ((((b+t)+40):Nat):Int)] (.agg [(bP cp.1),(gY (gV cp.2))]))(ug:gW 415 [gZ d,iP ((((b+t)+40):Nat):Int)] (.agg [(bP false),(gY (gV m))]))(hn:0<(gV (m/(cp.2/2^1))).length):gW 405 [(gZ d),(iP b)] (.ix [(.agg [(bP ((jO (false,m) (true,((m/(cp.2/2^1))*(cp.2/2^1)))).1)),(gY (gV ((jO (false,m) (true,((m/(cp.2/2^1))*(cp.2/2^1)))).2/2^(t+40))))]),(iP ((((gV (m/(cp.2/2^1))).getD 0 0%4):Nat):Int))]):=by
 have Ff:=Gw hd;have zX:(gV m).length<=256:=lJ zx ae;have zH:(gV (cp.2/2^1)).length<=256:=aY (me (bD _ _)) zd;have nH:(cp.2/2^1)≠0:= ae ;have mM:((m/(cp.2/2^1))*(cp.2/2^1))<=m:=cO _ _;have zN:(gV (m/(cp.2/2^1))).length<=256:=aY (me (bD _ _)) zX;have zM:(gV ((m/(cp.2/2^1))*(cp.2/2^1))).length<=256:=aY (me mM) zX;have zA:(gV (m+((m/(cp.2/2^1))*(cp.2/2^1)))).length<=256:=lJ (k:=K+1) (by have:=a6 2 K;omega) ae;have zR:(gV (jO (false,m) (true,((m/(cp.2/2^1))*(cp.2/2^1)))).2).length<=256:=aY (me (xy _ _)) zA;have zm:(gV (m%(cp.2/2^1))).length<=256:=aY (me (dp _ _)) zX;have hg:(gV (m/(cp.2/2^1))).getD 0 0<4294967296:=Jh _ 0;have h4:(gV (m/(cp.2/2^1))).getD 0 0%4<=3:= ae ;exact tr true call405 func405 (chain [.c (oL _ af:gW 216 [(gZ d)] _),.o 19 (.int au:PV.le (.e (iP (if 0>(Dy.iw d)then 0 else(Dy.iw d)))) (.e (iP t))),iu ((b:Int)+t) ae,
  iu ((((b+t):Nat):Int)+40) ae,.c (rf:gW 409 [(iP ((((b+t)+40):Nat):Int))] _),.c (wA cp.2 1 af ae),.c (ug:gW 415 [(gZ d),(iP ((((b+t)+40):Nat):Int))] _),.c (zo _ _ ae ae af:gW 307 [(gY (gV m)),(gY (gV (cp.2/2^1)))] _),.c (zp _ _ af af af:gW 218 [(gY (gV (m/(cp.2/2^1)))),(gY (gV (cp.2/2^1)))] _),.c (sR (false,m) af (true,((m/(cp.2/2^1))*(cp.2/2^1))) af af:gW 416 [(.agg [(bP false),(gY (gV m))]),(.agg [(bP true),(gY (gV ((m/(cp.2/2^1))*(cp.2/2^1))))])] _),tT 61 (0<((gV (m/(cp.2/2^1))).length:Int)) ae,iX (0) ((gV (m/(cp.2/2^1))).length) ae,.o 65 (.int (Y0 _ ae):PV.le (.e (.v (.int .u32 (bits .and .u32 ((((gV (m/(cp.2/2^1))).getD 0 0):Nat):Int) 3)))) (.e (.v (.int .u32 (((((gV (m/(cp.2/2^1))).getD 0 0)%4):Nat):Int))))),.o 66 (.int (MY _ ae):PV.le (.e (iP (IntKind.i64.wrap (((((gV (m/(cp.2/2^1))).getD 0 0)%4):Nat):Int)))) (.e (iP (((((gV (m/(cp.2/2^1))).getD 0 0)%4):Nat):Int)))),
  iu ((t:Int)+40) ae,.c (wA ((jO (false,m) (true,((m/(cp.2/2^1))*(cp.2/2^1)))).2) (t+40) af ae)]<|.nil) ah 
theorem abD(d:Dy)(b t m:Nat)(cp:Bool×Nat)(hd:d.ic)(ht:t=d.iw.toNat)(jb:16<=b)(mn:b<=2000)(rX:t<=2000)(K:Nat)(hK:K<=6000)(zx:m<2^K)(zc:2<=cp.2)(zd:(gV cp.2).length<=256)(rf:gW 409 [iP ((((b+t)+40):Nat):Int)] (.agg [(bP cp.1),(gY (gV cp.2))]))(ug:gW 415 [gZ d,iP ((((b+t)+40):Nat):Int)] (.agg [(bP false),(gY (gV m))]))(hn:¬0<(gV (m/(cp.2/2^1))).length):gW 405 [(gZ d),(iP b)] (.ix [(.agg [(bP ((jO (false,m) (true,((m/(cp.2/2^1))*(cp.2/2^1)))).1)),(gY (gV ((jO (false,m) (true,((m/(cp.2/2^1))*(cp.2/2^1)))).2/2^(t+40))))]),(iP 0)]):=by
 have Ff:=Gw hd;have zX:(gV m).length<=256:=lJ zx ae;have zH:(gV (cp.2/2^1)).length<=256:=aY (me (bD _ _)) zd;have nH:(cp.2/2^1)≠0:= ae ;have mM:((m/(cp.2/2^1))*(cp.2/2^1))<=m:=cO _ _;have zN:(gV (m/(cp.2/2^1))).length<=256:=aY (me (bD _ _)) zX;have zM:(gV ((m/(cp.2/2^1))*(cp.2/2^1))).length<=256:=aY (me mM) zX;have zA:(gV (m+((m/(cp.2/2^1))*(cp.2/2^1)))).length<=256:=lJ (k:=K+1) (by have:=a6 2 K;omega) ae;have zR:(gV (jO (false,m) (true,((m/(cp.2/2^1))*(cp.2/2^1)))).2).length<=256:=aY (me (xy _ _)) zA;have zm:(gV (m%(cp.2/2^1))).length<=256:=aY (me (dp _ _)) zX;have hg:(gV (m/(cp.2/2^1))).getD 0 0<4294967296:=Jh _ 0;have h4:(gV (m/(cp.2/2^1))).getD 0 0%4<=3:= ae ;exact tr true call405 func405 (chain [.c (oL _ af:gW 216 [(gZ d)] _),.o 19 (.int au:PV.le (.e (iP (if 0>(Dy.iw d)then 0 else(Dy.iw d)))) (.e (iP t))),iu ((b:Int)+t) ae,
  iu ((((b+t):Nat):Int)+40) ae,.c (rf:gW 409 [(iP ((((b+t)+40):Nat):Int))] _),.c (wA cp.2 1 af ae),.c (ug:gW 415 [(gZ d),(iP ((((b+t)+40):Nat):Int))] _),.c (zo _ _ ae ae af:gW 307 [(gY (gV m)),(gY (gV (cp.2/2^1)))] _),.c (zp _ _ af af af:gW 218 [(gY (gV (m/(cp.2/2^1)))),(gY (gV (cp.2/2^1)))] _),.c (sR (false,m) af (true,((m/(cp.2/2^1))*(cp.2/2^1))) af af:gW 416 [(.agg [(bP false),(gY (gV m))]),(.agg [(bP true),(gY (gV ((m/(cp.2/2^1))*(cp.2/2^1))))])] _),tF 61 (0<((gV (m/(cp.2/2^1))).length:Int)) ae,iu ((t:Int)+40) ae,.c (wA ((jO (false,m) (true,((m/(cp.2/2^1))*(cp.2/2^1)))).2) (t+40) af ae)]<|.nil) ah 
theorem abB(d:Dy)(b:Nat)(hd:d.ic)(jb:16<=b)(mn:b<=1000)(ht:d.iw<=100):∃ (r:Bool×Nat) (k:Nat),r.2<=2^(b+1)/\k<=3/\gW 405 [gZ d,iP (b:Int)] (.ix [(.agg [(bP r.1),(gY (gV r.2))]),iP (k:Int)]):=by
 obtain⟨t,rX⟩:∃ t,t=d.iw.toNat:=⟨_,rfl⟩
 obtain⟨cp,c1,c2,c3,rf⟩:=QL (b+t+40) ae ae;have ug:=KW d hd (b+t+40) 6000 ae ag ae;have iE:=Jv (d:=d) (b:=b+t+40) (K:=6000) ae;generalize q6 d (b+t+40)=x at ug iE;have hp:(2:Nat)^(b+t+40+3)=2^(b+t+40)*8:=by rw[aX]
 have zd:(gV cp.2).length<=256:=lJ (k:=b+t+40+3) (by have:0<2^(b+t+40):=aZ ag;omega) ae;obtain⟨sg,m⟩:=x;have hle:=ajL (x:=(sg,m)) (H:=cp.2/2^1) (b:=b) (t:=t) ae c3;by_cases hn:0<(gV (m/(cp.2/2^1))).length
 .cases sg with
  |false=>exact⟨((jO (false,m) (true,m/(cp.2/2^1)*(cp.2/2^1))).1,(jO (false,m) (true,m/(cp.2/2^1)*(cp.2/2^1))).2/2^(t+40)),_,hle,ajK _,abF d b t m cp hd rX jb ae ae 6000 ag iE c1 zd rf ug hn⟩
  |true=>exact⟨((jO (true,m) (false,m/(cp.2/2^1)*(cp.2/2^1))).1,(jO (true,m) (false,m/(cp.2/2^1)*(cp.2/2^1))).2/2^(t+40)),_,hle,ajJ _,abE d b t m cp hd rX jb ae ae 6000 ag iE c1 zd rf ug hn⟩
 .cases sg with
  |false=>exact⟨((jO (false,m) (true,m/(cp.2/2^1)*(cp.2/2^1))).1,(jO (false,m) (true,m/(cp.2/2^1)*(cp.2/2^1))).2/2^(t+40)),_,hle,bN 3,abD d b t m cp hd rX jb ae ae 6000 ag iE c1 zd rf ug hn⟩
  |true=>exact⟨((jO (true,m) (false,m/(cp.2/2^1)*(cp.2/2^1))).1,(jO (true,m) (false,m/(cp.2/2^1)*(cp.2/2^1))).2/2^(t+40)),_,hle,bN 3,abC d b t m cp hd rX jb ae ae 6000 ag iE c1 zd rf ug hn⟩
theorem abH(x:Bool×Nat)(b N:Nat)(ri:x.2<=2^(b+1))(hb:b<=3000)(sk:N<=b+4)(h0:∀ k,k<N+1->kg x.2 b k≠0)(hN:kg x.2 b (N+1)=0):gW 406 [(.agg [(bP x.1),(gY (gV x.2))]),(iP b)] (.ix [(.agg [(bP (((jV x b N).1).1)),(gY (gV (((jV x b N).1).2)))]),(.agg [(bP (((jV x b N).2).1)),(gY (gV (((jV x b N).2).2)))])]):=by
 have zx:(gV x.2).length<=256:=lJ (k:=b+2) (by have e:2^(b+2)=2^(b+1)*2:=a6 _ _;have:0<2^(b+1):=aZ ag;omega) ae;have z0:(gV 1).length<=256:=sZ ag;have z1:(gV (1*2^b)).length<=256:=lJ (k:=b+1) (by rw[a6,bK];have:0<2^b:=aZ ag;omega) ae;exact tr true call406 func406 (chain [.o 10 (.e r9:PV.le (.e (.sl false 1 1 λi_ j_=>[(.v (.int .u32 1))].getD (i_*1+j_) (.v (.bool false)))) (.e (gY (gV 1)))),.c (Ah 1 b af ae af),.s (Sp.jy (XS x b N) 0 N ae (λi hi pN=>by
    have SF:=XX ri hb (k:=i) ae;obtain⟨f0,f1,f2,f3,f4,f5,f6,f7⟩:=SF;exact iC (chain [.c (LI ((ln x i),(kg x.2 b i)) af x af _ ae af:gW 413 [(.agg [(bP (ln x i)),(gY (gV (kg x.2 b i)))]),(.agg [(bP x.1),(gY (gV x.2))]),(iP b)] _),.c (EG (((ln x i) != x.1),((kg x.2 b i)*x.2/2^b)) af (i+1) ae ae:gW 419 [(.agg [(bP ((ln x i) != x.1)),(gY (gV ((kg x.2 b i)*x.2/2^b)))]),(iP (((i+1):Nat):Int))] _),.c (CY ((ln x (i+1)),(kg x.2 b (i+1))) af:gW 417 [(.agg [(bP (ln x (i+1))),(gY (gV (kg x.2 b (i+1))))])] _),tF 25 ((kg x.2 b (i+1))=0) (h0 (i+1) ae),.a (ae:0<(4:Int))]<|.w (2<=(i+1)%4)
     (λh4=>chain [tT 31 (2<=((((i+1)%4):Nat):Int)) ae,.c (wF ((ln x (i+1)),(kg x.2 b (i+1))):gW 407 [(.agg [(bP (ln x (i+1))),(gY (gV (kg x.2 b (i+1))))])] _),.a (ae:0<(2:Int))]<|.w ((i+1)%2=1)
      (λho=>chain [tB 36 (by rw[ho];rfl:(((((i+1)%2):Nat):Int)==1)=true),.c (sR ((jV x b i).1) af ((!(ln x (i+1))),(kg x.2 b (i+1))) af af:gW 416 [(.agg [(bP (((jV x b i).1).1)),(gY (gV (((jV x b i).1).2)))]),(.agg [(bP (!(ln x (i+1)))),(gY (gV (kg x.2 b (i+1))))])] _),
       iu ((((i+1):Nat):Int)+1) ae]<|.e (chain [.b 5 (.iS (by first|rfl|simp[jV,ln,kg,ho,h4]|simp[jV,ln,kg]):Bx.le (.cells 264 [(bP (((jV x b i).2).1)),(gY (gV (((jV x b i).2).2)))]) (.cells 264 [(bP (((jV x b (i+1)).2).1)),(gY (gV (((jV x b (i+1)).2).2)))])),.b 4 (.iS (by first|rfl|simp[jV,ln,kg,ho,h4]|simp[jV,ln,kg]):Bx.le (.cells 264 [(bP ((jO ((jV x b i).1) ((!(ln x (i+1))),(kg x.2 b (i+1)))).1)),(gY (gV ((jO ((jV x b i).1) ((!(ln x (i+1))),(kg x.2 b (i+1)))).2)))]) (.cells 264 [(bP (((jV x b (i+1)).1).1)),(gY (gV (((jV x b (i+1)).1).2)))]))]<|.nil))
      (λho=>chain [tB 36 (av:(((((i+1)%2):Nat):Int)==1)=false),.c (sR ((jV x b i).2) af ((!(ln x (i+1))),(kg x.2 b (i+1))) af af:gW 416 [(.agg [(bP (((jV x b i).2).1)),(gY (gV (((jV x b i).2).2)))]),(.agg [(bP (!(ln x (i+1)))),(gY (gV (kg x.2 b (i+1))))])] _),
       iu ((((i+1):Nat):Int)+1) ae]<|.e (chain [.b 5 (.iS (by first|rfl|simp[jV,ln,kg,ho,h4]|simp[jV,ln,kg]):Bx.le (.cells 264 [(bP ((jO ((jV x b i).2) ((!(ln x (i+1))),(kg x.2 b (i+1)))).1)),(gY (gV ((jO ((jV x b i).2) ((!(ln x (i+1))),(kg x.2 b (i+1)))).2)))]) (.cells 264 [(bP (((jV x b (i+1)).2).1)),(gY (gV (((jV x b (i+1)).2).2)))])),.b 4 (.iS (by first|rfl|simp[jV,ln,kg,ho,h4]|simp[jV,ln,kg]):Bx.le (.cells 264 [(bP (((jV x b i).1).1)),(gY (gV (((jV x b i).1).2)))]) (.cells 264 [(bP (((jV x b (i+1)).1).1)),(gY (gV (((jV x b (i+1)).1).2)))]))]<|.nil)))
     (λh4=>chain [tF 31 (2<=((((i+1)%4):Nat):Int)) ae,.a (ae:0<(2:Int))]<|.w ((i+1)%2=1)
      (λho=>chain [tB 36 (by rw[ho];rfl:(((((i+1)%2):Nat):Int)==1)=true),.c (sR ((jV x b i).1) af ((ln x (i+1)),(kg x.2 b (i+1))) af af:gW 416 [(.agg [(bP (((jV x b i).1).1)),(gY (gV (((jV x b i).1).2)))]),(.agg [(bP (ln x (i+1))),(gY (gV (kg x.2 b (i+1))))])] _),
       iu ((((i+1):Nat):Int)+1) ae]<|.e (chain [.b 5 (.iS (by first|rfl|simp[jV,ln,kg,ho,h4]|simp[jV,ln,kg]):Bx.le (.cells 264 [(bP (((jV x b i).2).1)),(gY (gV (((jV x b i).2).2)))]) (.cells 264 [(bP (((jV x b (i+1)).2).1)),(gY (gV (((jV x b (i+1)).2).2)))])),.b 4 (.iS (by first|rfl|simp[jV,ln,kg,ho,h4]|simp[jV,ln,kg]):Bx.le (.cells 264 [(bP ((jO ((jV x b i).1) ((ln x (i+1)),(kg x.2 b (i+1)))).1)),(gY (gV ((jO ((jV x b i).1) ((ln x (i+1)),(kg x.2 b (i+1)))).2)))]) (.cells 264 [(bP (((jV x b (i+1)).1).1)),(gY (gV (((jV x b (i+1)).1).2)))]))]<|.nil))
      (λho=>chain [tB 36 (av:(((((i+1)%2):Nat):Int)==1)=false),.c (sR ((jV x b i).2) af ((ln x (i+1)),(kg x.2 b (i+1))) af af:gW 416 [(.agg [(bP (((jV x b i).2).1)),(gY (gV (((jV x b i).2).2)))]),(.agg [(bP (ln x (i+1))),(gY (gV (kg x.2 b (i+1))))])] _),
       iu ((((i+1):Nat):Int)+1) ae]<|.e (chain [.b 5 (.iS (by first|rfl|simp[jV,ln,kg,ho,h4]|simp[jV,ln,kg]):Bx.le (.cells 264 [(bP ((jO ((jV x b i).2) ((ln x (i+1)),(kg x.2 b (i+1)))).1)),(gY (gV ((jO ((jV x b i).2) ((ln x (i+1)),(kg x.2 b (i+1)))).2)))]) (.cells 264 [(bP (((jV x b (i+1)).2).1)),(gY (gV (((jV x b (i+1)).2).2)))])),.b 4 (.iS (by first|rfl|simp[jV,ln,kg,ho,h4]|simp[jV,ln,kg]):Bx.le (.cells 264 [(bP (((jV x b i).1).1)),(gY (gV (((jV x b i).1).2)))]) (.cells 264 [(bP (((jV x b (i+1)).1).1)),(gY (gV (((jV x b (i+1)).1).2)))]))]<|.nil)))) ah)
  (λhi=>by
    have SF:=XX ri hb (k:=N) ae;obtain⟨f0,f1,f2,f3,f4,f5,f6,f7⟩:=SF;exact iC (chain [.c (LI ((ln x N),(kg x.2 b N)) af x af _ ae af:gW 413 [(.agg [(bP (ln x N)),(gY (gV (kg x.2 b N)))]),(.agg [(bP x.1),(gY (gV x.2))]),(iP b)] _),.c (EG (((ln x N) != x.1),((kg x.2 b N)*x.2/2^b)) af (N+1) ae ae:gW 419 [(.agg [(bP ((ln x N) != x.1)),(gY (gV ((kg x.2 b N)*x.2/2^b)))]),(iP (((N+1):Nat):Int))] _),.c (CY ((ln x (N+1)),(kg x.2 b (N+1))) af:gW 417 [(.agg [(bP (ln x (N+1))),(gY (gV (kg x.2 b (N+1))))])] _),tB 25 (aT hN)]<|.nil) ah) ak:jv 6 f406 (XS x b N 0) .ret ⟨43,true,[(5,.box 5 0),(4,.box 4 0)],[(5,.cells 264 [(bP (((jV x b N).2).1)),(gY (gV (((jV x b N).2).2)))]),(4,.cells 264 [(bP (((jV x b N).1).1)),(gY (gV (((jV x b N).1).2)))])]⟩) (chain [.o 8 (.int aw:PV.le (.e (iP 1)) (.e (iP (((0+1):Nat):Int)))),.b 5 (.iS (by first|rfl|simp[jV,ln,kg,ho,h4]|simp[jV,ln,kg]):Bx.le (.cells 264 [(bP false),(gY (gV (1*2^b)))]) (.cells 264 [(bP (((jV x b 0).2).1)),(gY (gV (((jV x b 0).2).2)))])),.b 7 (.iS (by first|rfl|simp[jV,ln,kg,ho,h4]|simp[jV,ln,kg]):Bx.le (.cells 264 [(bP false),(gY (gV (1*2^b)))]) (.cells 264 [(bP (ln x 0)),(gY (gV (kg x.2 b 0)))])),.b 4 (ad8:Bx.le (.cells 264 [(bP false),(.v (.slice none 0 0))]) (.cells 264 [(bP (((jV x b 0).1).1)),(gY (gV (((jV x b 0).1).2)))]))]<|.nil)]<|.nil) ah 
theorem abI(x:Bool×Nat)(b:Nat)(ri:x.2<=2^(b+1))(hb:b<=3000):∃ s c:Bool×Nat,s.2<2^(b+14)/\c.2<2^(b+14)/\gW 406 [(.agg [(bP x.1),(gY (gV x.2))]),iP (b:Int)] (.ix [(.agg [(bP s.1),(gY (gV s.2))]),(.agg [(bP c.1),(gY (gV c.2))])]):=by
 obtain⟨N,n1,n2,n3,n4⟩:=aea ri;obtain⟨M,rfl⟩:∃ M,N=M+1:=⟨N-1,ae⟩
 obtain⟨a1,a2⟩:=XZ ri hb (k:=M) ae;exact⟨_,_,a1,a2,abH x b M ri hb ae n3 n4⟩
theorem Ai(a:Bool×Nat)(b p:Nat)(ha:a.2<2^3000)(hb:b<=8000)(im:8<=p)(ia:p<=512):gW 408 [(.agg [(bP a.1),(gY (gV a.2))]),(iP b),(iP p)] (ib (sD a b p)):=by
 have z1:(gV 1).length<=256:=sZ ag;have z2:(gV (1*2^24)).length<=256:=sZ ag;have z3:(gV a.2).length<=256:=lJ ha ag;have hs:=JD (n:=3000) ha (show 1*2^24<2^25 by decide) ag ag;have z4:(gV (a.2+1*2^24)).length<=256:=lJ hs ag;have l1:=bR (show(jO a ((!false),(1*2^24))).2<=_ from xy _ _) hs;have l2:=bR (show(jO a (false,(1*2^24))).2<=_ from xy _ _) hs;have z5:(gV (jO a ((!false),(1*2^24))).2).length<=256:=lJ l1 ag;have z6:(gV (jO a (false,(1*2^24))).2).length<=256:=lJ l2 ag;have e3:(0-(b:Int)) = -(b:Int):=Int.zero_sub _;have r1:mW (canon (jO a ((!false),(1*2^24))).1 (jO a ((!false),(1*2^24))).2 (0-(b:Int))):=by rw[e3];exact Vu (F4 (k:=4000) l1 ag) hb
 have r2:mW (canon (jO a (false,(1*2^24))).1 (jO a (false,(1*2^24))).2 (0-(b:Int))):=by rw[e3];exact Vu (F4 (k:=4000) l2 ag) hb
 have v1:(canon (jO a ((!false),(1*2^24))).1 (jO a ((!false),(1*2^24))).2 (0-(b:Int))).ic:=Vv r1;have v2:(canon (jO a (false,(1*2^24))).1 (jO a (false,(1*2^24))).2 (0-(b:Int))).ic:=Vv r2;have hN:sD a b p=kI (jh (canon (jO a ((!false),(1*2^24))).1 (jO a ((!false),(1*2^24))).2 (0-(b:Int))) p false) (jx (canon (jO a ((!false),(1*2^24))).1 (jO a ((!false),(1*2^24))).2 (0-(b:Int))) p false) (jh (canon (jO a (false,(1*2^24))).1 (jO a (false,(1*2^24))).2 (0-(b:Int))) p true) (jx (canon (jO a (false,(1*2^24))).1 (jO a (false,(1*2^24))).2 (0-(b:Int))) p true):=by rw[e3];rfl
 exact tr true call408 func408 (chain [.o 14 (.e r9:PV.le (.e (.sl false 1 1 λi_ j_=>[(.v (.int .u32 1))].getD (i_*1+j_) (.v (.bool false)))) (.e (gY (gV 1)))),.c (Ah 1 24 af ae af),.c (wF (false,(1*2^24)):gW 407 [(.agg [(bP false),(gY (gV (1*2^24)))])] _),.c (sR a af ((!false),(1*2^24)) af af:gW 416 [(.agg [(bP a.1),(gY (gV a.2))]),(.agg [(bP (!false)),(gY (gV (1*2^24)))])] _),.c (sR a af (false,(1*2^24)) af af:gW 416 [(.agg [(bP a.1),(gY (gV a.2))]),(.agg [(bP false),(gY (gV (1*2^24)))])] _),iu (0-(b:Int)) ae,.c (Bp _ _ _ af ae ae af:gW 362 [(bP ((jO a ((!false),(1*2^24))).1)),(gY (gV ((jO a ((!false),(1*2^24))).2))),(iP (0-(b:Int)))] _),
  iu (0-(b:Int)) ae,.c (Bp _ _ _ af ae ae af:gW 362 [(bP ((jO a (false,(1*2^24))).1)),(gY (gV ((jO a (false,(1*2^24))).2))),(iP (0-(b:Int)))] _),tB 45 (ag:((0:Int) != 0)=false),tB 48 (ag:((0:Int) != 0)=false),.c (G5 (canon ((jO a (!false,(1*2^24))).1) ((jO a (!false,(1*2^24))).2) (0-(b:Int))) p af ae ae),.c (G6 (canon ((jO a (false,(1*2^24))).1) ((jO a (false,(1*2^24))).2) (0-(b:Int))) p af ae ae)]<|.w ((jx (canon ((jO a ((!false),(1*2^24))).1) ((jO a ((!false),(1*2^24))).2) (0-(b:Int))) p false)=0)
  (λk1=>chain [tB 64 (aP k1)]<|.w ((jx (canon ((jO a (false,(1*2^24))).1) ((jO a (false,(1*2^24))).2) (0-(b:Int))) p true)=0)
   (λk2=>chain [tB 67 (aP k2)]<|rQ (ib (Iv.mk (jh (canon ((jO a ((!false),(1*2^24))).1) ((jO a ((!false),(1*2^24))).2) (0-(b:Int))) p false) (jh (canon ((jO a (false,(1*2^24))).1) ((jO a (false,(1*2^24))).2) (0-(b:Int))) p true) false)) (ib (sD a b p)) (by rw[hN,aha k1 k2]))
   (λk2=>chain [tB 67 (aQ k2),.c nF]<|rQ (ib ig) (ib (sD a b p)) (by rw[hN,Vk (.inr k2)])))
  (λk1=>chain [tB 64 (aQ k1),.c nF]<|rQ (ib ig) (ib (sD a b p)) (by rw[hN,Vk (.inl k1)]))) ah 
theorem abz(d:Dy)(p:Nat)(hd:d.ic)(h0:d.iK=0)(im:8<=p)(ia:p<=512):gW 396 [(gZ d),(bP true),(iP p)] (ib (jF 1)):=by
 have hv:=sw (n:=1) ag;exact tr true call396 func396 (chain [.c (og _ af:gW 46 [(gZ d)] _),tB 14 (by rw[h0];rfl:((Dy.iK d)==0)=true),.c (qU _ ae:gW 180 [(iP 1)] _),.c (Du (jf 1) af)]<|.nil) ah 
theorem abq(d:Dy)(p:Nat)(r s c:Bool×Nat)(hd:d.ic)(h0:d.iK≠0)(pJ:gW 405 [gZ d,iP (((p+64):Nat):Int)] (.ix [(.agg [(bP r.1),(gY (gV r.2))]),(iP 0)]))(pK:gW 406 [(.agg [(bP r.1),(gY (gV r.2))]),iP (((p+64):Nat):Int)] (.ix [(.agg [(bP s.1),(gY (gV s.2))]),(.agg [(bP c.1),(gY (gV c.2))])]))(zs:s.2<2^3000)(zc:c.2<2^3000)(im:8<=p)(ia:p<=512):gW 396 [(gZ d),(bP true),(iP p)] (ib (sD c (p+64) p)):=by
 have zk:c.2<2^3000:=zc;exact tr true call396 func396 (chain [.c (og _ af:gW 46 [(gZ d)] _),tB 14 (by simpa using h0:((Dy.iK d)==0)=false),iu ((p:Int)+64) ae,.c (pJ:gW 405 [(gZ d),(iP (((p+64):Nat):Int))] _),.c (pK:gW 406 [(.agg [(bP r.1),(gY (gV r.2))]),(iP (((p+64):Nat):Int))] _),iu (0+1) ae,.a (ae:0<(4:Int)),.o 38 (.int ag:PV.le (.e (iP (Int.tmod (0+1) 4))) (.e (iP 1))),tB 40 (ag:((1:Int)==1)=true),.c (Ai c _ _ af ae ae ae:gW 408 [(.agg [(bP c.1),(gY (gV c.2))]),(iP (((p+64):Nat):Int)),(iP p)] _)]<|.nil) ah 
theorem abr(d:Dy)(p:Nat)(r s c:Bool×Nat)(hd:d.ic)(h0:d.iK≠0)(pJ:gW 405 [gZ d,iP (((p+64):Nat):Int)] (.ix [(.agg [(bP r.1),(gY (gV r.2))]),(iP 1)]))(pK:gW 406 [(.agg [(bP r.1),(gY (gV r.2))]),iP (((p+64):Nat):Int)] (.ix [(.agg [(bP s.1),(gY (gV s.2))]),(.agg [(bP c.1),(gY (gV c.2))])]))(zs:s.2<2^3000)(zc:c.2<2^3000)(im:8<=p)(ia:p<=512):gW 396 [(gZ d),(bP true),(iP p)] (ib (sD ((!s.1),s.2) (p+64) p)):=by
 have zk:((!s.1),s.2).2<2^3000:=zs;exact tr true call396 func396 (chain [.c (og _ af:gW 46 [(gZ d)] _),tB 14 (by simpa using h0:((Dy.iK d)==0)=false),iu ((p:Int)+64) ae,.c (pJ:gW 405 [(gZ d),(iP (((p+64):Nat):Int))] _),.c (pK:gW 406 [(.agg [(bP r.1),(gY (gV r.2))]),(iP (((p+64):Nat):Int))] _),iu (1+1) ae,.a (ae:0<(4:Int)),.o 38 (.int ag:PV.le (.e (iP (Int.tmod (1+1) 4))) (.e (iP 2))),tB 40 (ag:((2:Int)==1)=false),tB 43 (ag:((2:Int)==2)=true),.c (wF (s.1,s.2):gW 407 [(.agg [(bP s.1),(gY (gV s.2))])] _),.c (Ai ((!s.1),s.2) _ _ af ae ae ae:gW 408 [(.agg [(bP (!s.1)),(gY (gV s.2))]),(iP (((p+64):Nat):Int)),(iP p)] _)]<|.nil) ah 
theorem abt(d:Dy)(p:Nat)(r s c:Bool×Nat)(hd:d.ic)(h0:d.iK≠0)(pJ:gW 405 [gZ d,iP (((p+64):Nat):Int)] (.ix [(.agg [(bP r.1),(gY (gV r.2))]),(iP 2)]))(pK:gW 406 [(.agg [(bP r.1),(gY (gV r.2))]),iP (((p+64):Nat):Int)] (.ix [(.agg [(bP s.1),(gY (gV s.2))]),(.agg [(bP c.1),(gY (gV c.2))])]))(zs:s.2<2^3000)(zc:c.2<2^3000)(im:8<=p)(ia:p<=512):gW 396 [(gZ d),(bP true),(iP p)] (ib (sD ((!c.1),c.2) (p+64) p)):=by
 have zk:((!c.1),c.2).2<2^3000:=zc;exact tr true call396 func396 (chain [.c (og _ af:gW 46 [(gZ d)] _),tB 14 (by simpa using h0:((Dy.iK d)==0)=false),iu ((p:Int)+64) ae,.c (pJ:gW 405 [(gZ d),(iP (((p+64):Nat):Int))] _),.c (pK:gW 406 [(.agg [(bP r.1),(gY (gV r.2))]),(iP (((p+64):Nat):Int))] _),iu (2+1) ae,.a (ae:0<(4:Int)),.o 38 (.int ag:PV.le (.e (iP (Int.tmod (2+1) 4))) (.e (iP 3))),tB 40 (ag:((3:Int)==1)=false),tB 43 (ag:((3:Int)==2)=false),tB 47 (ag:((3:Int)==3)=true),.c (wF (c.1,c.2):gW 407 [(.agg [(bP c.1),(gY (gV c.2))])] _),.c (Ai ((!c.1),c.2) _ _ af ae ae ae:gW 408 [(.agg [(bP (!c.1)),(gY (gV c.2))]),(iP (((p+64):Nat):Int)),(iP p)] _)]<|.nil) ah 
theorem abu(d:Dy)(p:Nat)(r s c:Bool×Nat)(hd:d.ic)(h0:d.iK≠0)(pJ:gW 405 [gZ d,iP (((p+64):Nat):Int)] (.ix [(.agg [(bP r.1),(gY (gV r.2))]),(iP 3)]))(pK:gW 406 [(.agg [(bP r.1),(gY (gV r.2))]),iP (((p+64):Nat):Int)] (.ix [(.agg [(bP s.1),(gY (gV s.2))]),(.agg [(bP c.1),(gY (gV c.2))])]))(zs:s.2<2^3000)(zc:c.2<2^3000)(im:8<=p)(ia:p<=512):gW 396 [(gZ d),(bP true),(iP p)] (ib (sD s (p+64) p)):=by
 have zk:s.2<2^3000:=zs;exact tr true call396 func396 (chain [.c (og _ af:gW 46 [(gZ d)] _),tB 14 (by simpa using h0:((Dy.iK d)==0)=false),iu ((p:Int)+64) ae,.c (pJ:gW 405 [(gZ d),(iP (((p+64):Nat):Int))] _),.c (pK:gW 406 [(.agg [(bP r.1),(gY (gV r.2))]),(iP (((p+64):Nat):Int))] _),iu (3+1) ae,.a (ae:0<(4:Int)),.o 38 (.int ag:PV.le (.e (iP (Int.tmod (3+1) 4))) (.e (iP 0))),tB 40 (ag:((0:Int)==1)=false),tB 43 (ag:((0:Int)==2)=false),tB 47 (ag:((0:Int)==3)=false),.c (Ai s _ _ af ae ae ae:gW 408 [(.agg [(bP s.1),(gY (gV s.2))]),(iP (((p+64):Nat):Int)),(iP p)] _)]<|.nil) ah 
theorem abA(d:Dy)(p:Nat)(hd:d.ic)(h0:d.iK=0)(im:8<=p)(ia:p<=512):gW 396 [(gZ d),(bP false),(iP p)] (ib (mo d)):=
 tr true call396 func396 (chain [.c (og _ af:gW 46 [(gZ d)] _),tB 14 (by rw[h0];rfl:((Dy.iK d)==0)=true),.c (Du d af)]<|.nil) ah 
theorem abv(d:Dy)(p:Nat)(r s c:Bool×Nat)(hd:d.ic)(h0:d.iK≠0)(pJ:gW 405 [gZ d,iP (((p+64):Nat):Int)] (.ix [(.agg [(bP r.1),(gY (gV r.2))]),(iP 0)]))(pK:gW 406 [(.agg [(bP r.1),(gY (gV r.2))]),iP (((p+64):Nat):Int)] (.ix [(.agg [(bP s.1),(gY (gV s.2))]),(.agg [(bP c.1),(gY (gV c.2))])]))(zs:s.2<2^3000)(zc:c.2<2^3000)(im:8<=p)(ia:p<=512):gW 396 [(gZ d),(bP false),(iP p)] (ib (sD s (p+64) p)):=by
 have zk:s.2<2^3000:=zs;exact tr true call396 func396 (chain [.c (og _ af:gW 46 [(gZ d)] _),tB 14 (by simpa using h0:((Dy.iK d)==0)=false),iu ((p:Int)+64) ae,.c (pJ:gW 405 [(gZ d),(iP (((p+64):Nat):Int))] _),.c (pK:gW 406 [(.agg [(bP r.1),(gY (gV r.2))]),(iP (((p+64):Nat):Int))] _),.a (ae:0<(4:Int)),.o 38 (.int ag:PV.le (.e (iP (Int.tmod 0 4))) (.e (iP 0))),tB 40 (ag:((0:Int)==1)=false),tB 43 (ag:((0:Int)==2)=false),tB 47 (ag:((0:Int)==3)=false),.c (Ai s _ _ af ae ae ae:gW 408 [(.agg [(bP s.1),(gY (gV s.2))]),(iP (((p+64):Nat):Int)),(iP p)] _)]<|.nil) ah 
theorem abw(d:Dy)(p:Nat)(r s c:Bool×Nat)(hd:d.ic)(h0:d.iK≠0)(pJ:gW 405 [gZ d,iP (((p+64):Nat):Int)] (.ix [(.agg [(bP r.1),(gY (gV r.2))]),(iP 1)]))(pK:gW 406 [(.agg [(bP r.1),(gY (gV r.2))]),iP (((p+64):Nat):Int)] (.ix [(.agg [(bP s.1),(gY (gV s.2))]),(.agg [(bP c.1),(gY (gV c.2))])]))(zs:s.2<2^3000)(zc:c.2<2^3000)(im:8<=p)(ia:p<=512):gW 396 [(gZ d),(bP false),(iP p)] (ib (sD c (p+64) p)):=by
 have zk:c.2<2^3000:=zc;exact tr true call396 func396 (chain [.c (og _ af:gW 46 [(gZ d)] _),tB 14 (by simpa using h0:((Dy.iK d)==0)=false),iu ((p:Int)+64) ae,.c (pJ:gW 405 [(gZ d),(iP (((p+64):Nat):Int))] _),.c (pK:gW 406 [(.agg [(bP r.1),(gY (gV r.2))]),(iP (((p+64):Nat):Int))] _),.a (ae:0<(4:Int)),.o 38 (.int ag:PV.le (.e (iP (Int.tmod 1 4))) (.e (iP 1))),tB 40 (ag:((1:Int)==1)=true),.c (Ai c _ _ af ae ae ae:gW 408 [(.agg [(bP c.1),(gY (gV c.2))]),(iP (((p+64):Nat):Int)),(iP p)] _)]<|.nil) ah 
theorem abx(d:Dy)(p:Nat)(r s c:Bool×Nat)(hd:d.ic)(h0:d.iK≠0)(pJ:gW 405 [gZ d,iP (((p+64):Nat):Int)] (.ix [(.agg [(bP r.1),(gY (gV r.2))]),(iP 2)]))(pK:gW 406 [(.agg [(bP r.1),(gY (gV r.2))]),iP (((p+64):Nat):Int)] (.ix [(.agg [(bP s.1),(gY (gV s.2))]),(.agg [(bP c.1),(gY (gV c.2))])]))(zs:s.2<2^3000)(zc:c.2<2^3000)(im:8<=p)(ia:p<=512):gW 396 [(gZ d),(bP false),(iP p)] (ib (sD ((!s.1),s.2) (p+64) p)):=by
 have zk:((!s.1),s.2).2<2^3000:=zs;exact tr true call396 func396 (chain [.c (og _ af:gW 46 [(gZ d)] _),tB 14 (by simpa using h0:((Dy.iK d)==0)=false),iu ((p:Int)+64) ae,.c (pJ:gW 405 [(gZ d),(iP (((p+64):Nat):Int))] _),.c (pK:gW 406 [(.agg [(bP r.1),(gY (gV r.2))]),(iP (((p+64):Nat):Int))] _),.a (ae:0<(4:Int)),.o 38 (.int ag:PV.le (.e (iP (Int.tmod 2 4))) (.e (iP 2))),tB 40 (ag:((2:Int)==1)=false),tB 43 (ag:((2:Int)==2)=true),.c (wF (s.1,s.2):gW 407 [(.agg [(bP s.1),(gY (gV s.2))])] _),.c (Ai ((!s.1),s.2) _ _ af ae ae ae:gW 408 [(.agg [(bP (!s.1)),(gY (gV s.2))]),(iP (((p+64):Nat):Int)),(iP p)] _)]<|.nil) ah 
theorem aby(d:Dy)(p:Nat)(r s c:Bool×Nat)(hd:d.ic)(h0:d.iK≠0)(pJ:gW 405 [gZ d,iP (((p+64):Nat):Int)] (.ix [(.agg [(bP r.1),(gY (gV r.2))]),(iP 3)]))(pK:gW 406 [(.agg [(bP r.1),(gY (gV r.2))]),iP (((p+64):Nat):Int)] (.ix [(.agg [(bP s.1),(gY (gV s.2))]),(.agg [(bP c.1),(gY (gV c.2))])]))(zs:s.2<2^3000)(zc:c.2<2^3000)(im:8<=p)(ia:p<=512):gW 396 [(gZ d),(bP false),(iP p)] (ib (sD ((!c.1),c.2) (p+64) p)):=by
 have zk:((!c.1),c.2).2<2^3000:=zc;exact tr true call396 func396 (chain [.c (og _ af:gW 46 [(gZ d)] _),tB 14 (by simpa using h0:((Dy.iK d)==0)=false),iu ((p:Int)+64) ae,.c (pJ:gW 405 [(gZ d),(iP (((p+64):Nat):Int))] _),.c (pK:gW 406 [(.agg [(bP r.1),(gY (gV r.2))]),(iP (((p+64):Nat):Int))] _),.a (ae:0<(4:Int)),.o 38 (.int ag:PV.le (.e (iP (Int.tmod 3 4))) (.e (iP 3))),tB 40 (ag:((3:Int)==1)=false),tB 43 (ag:((3:Int)==2)=false),tB 47 (ag:((3:Int)==3)=true),.c (wF (c.1,c.2):gW 407 [(.agg [(bP c.1),(gY (gV c.2))])] _),.c (Ai ((!c.1),c.2) _ _ af ae ae ae:gW 408 [(.agg [(bP (!c.1)),(gY (gV c.2))]),(iP (((p+64):Nat):Int)),(iP p)] _)]<|.nil) ah 
theorem QN{d:Dy}(hd:d.ic)(ht:d.iw<=100)(cs:Bool){p:Nat}(im:8<=p)(ia:p<=512):∃ Z,Z.ic/\gW 396 [gZ d,bP cs,iP (p:Int)] (ib Z):=by
 by_cases h0:d.iK=0
 .cases cs with
  |true=>exact⟨_,vN ag,abz d p hd h0 im ia⟩
  |false=>exact⟨_,vR hd,abA d p hd h0 im ia⟩
 .obtain ⟨r,k,hr,hk,pJ⟩:=abB d (p+64) hd ae ae ht
  obtain⟨s,c,zs,zc,pK⟩:=abI r (p+64) hr ae;have zs:=F4 zs (k:=3000) ae;have zc:=F4 zc (k:=3000) ae;have hv:∀ a:Bool×Nat,(sD a (p+64) p).ic:=λa=>ahB a _ ae ae 
  rcases(show k=0\/k=1\/k=2\/k=3 by omega)with rfl|rfl|rfl|rfl
  .cases cs with
   |true=>exact⟨_,hv _,abq d p r s c hd h0 pJ pK zs zc im ia⟩
   |false=>exact⟨_,hv _,abv d p r s c hd h0 pJ pK zs zc im ia⟩
  .cases cs with
   |true=>exact⟨_,hv _,abr d p r s c hd h0 pJ pK zs zc im ia⟩
   |false=>exact⟨_,hv _,abw d p r s c hd h0 pJ pK zs zc im ia⟩
  .cases cs with
   |true=>exact⟨_,hv _,abt d p r s c hd h0 pJ pK zs zc im ia⟩
   |false=>exact⟨_,hv _,abx d p r s c hd h0 pJ pK zs zc im ia⟩
  .cases cs with
   |true=>exact⟨_,hv _,abu d p r s c hd h0 pJ pK zs zc im ia⟩
   |false=>exact⟨_,hv _,aby d p r s c hd h0 pJ pK zs zc im ia⟩
theorem af9:(jf (-1)).neg=true/\(jf (-1)).m=1/\(jf (-1)).e=0:= ar 
theorem abK : gW 412 [(iP (-1))] (.agg [(bP true),(gY (gV 1))]):=by
 obtain⟨q1,q2,q3⟩:=af9;have z1:(gV (jf (-1)).m).length<=256:=by rw[q2];exact sZ ag 
 have z2:(gV ((jf (-1)).m*2^(Int.toNat (jf (-1)).e))).length<=256:=by rw[q2,q3];exact sZ ag 
 exact tr true call412 func412 (chain [.c (qU _ ae:gW 180 [(iP (-1))] _),.c (KV _ _ af ae ae af:gW 410 [(gY (gV ((jf (-1)).m))),(iP ((jf (-1)).e))] _)]<|rQ (.agg [(bP ((jf (-1)).neg)),(gY (gV (((jf (-1)).m)*2^(Int.toNat ((jf (-1)).e)))))]) (.agg [(bP true),(gY (gV 1))]) (by rw[q1,q2,q3];rfl)) ah 
theorem abh(a c:Bool×Nat)(za:(gV a.2).length<=256)(zc:(gV c.2).length<=256)(c0:c.2≠0)(zs:(gV (a.2/c.2+1)).length<=256)(h1:a.1=false):gW 414 [(.agg [(bP a.1),(gY (gV a.2))]),(.agg [(bP c.1),(gY (gV c.2))])] (.agg [(bP ((py a c).1)),(gY (gV ((py a c).2)))]):=by
 have zq:(gV (a.2/c.2)).length<=256:=aY (me (bD _ _)) za;have zr:(gV (a.2%c.2)).length<=256:=aY (me (dp _ _)) za;have z1:(gV 1).length<=256:=sZ ag;have e:py a c=(a.1,a.2/c.2):=by unfold py;rw[aR (by rw[h1];exact λq=>Bool.noConfusion q.1)]
 exact tr true call414 func414 (chain [.c (zo _ _ ae ae af:gW 307 [(gY (gV a.2)),(gY (gV c.2))] _),tB 19 (h1:a.1=false),tB 23 (h1:a.1=false)]<|rQ (.agg [(bP false),(gY (gV (a.2/c.2)))]) (.agg [(bP ((py a c).1)),(gY (gV ((py a c).2)))]) (by rw[e,h1])) ah 
theorem abe(a c:Bool×Nat)(za:(gV a.2).length<=256)(zc:(gV c.2).length<=256)(c0:c.2≠0)(zs:(gV (a.2/c.2+1)).length<=256)(h1:a.1=true)(h2:a.2%c.2=0):gW 414 [(.agg [(bP a.1),(gY (gV a.2))]),(.agg [(bP c.1),(gY (gV c.2))])] (.agg [(bP ((py a c).1)),(gY (gV ((py a c).2)))]):=by
 have zq:(gV (a.2/c.2)).length<=256:=aY (me (bD _ _)) za;have zr:(gV (a.2%c.2)).length<=256:=aY (me (dp _ _)) za;have z1:(gV 1).length<=256:=sZ ag;have e:py a c=(a.1,a.2/c.2):=by unfold py;rw[aR (λq=>q.2 h2)]
 exact tr true call414 func414 (chain [.c (zo _ _ ae ae af:gW 307 [(gY (gV a.2)),(gY (gV c.2))] _),tB 19 (h1:a.1=true),tB 23 (h1:a.1=true),.c (sC _ ae:gW 294 [(gY (gV (a.2%c.2)))] _),tF 27 (0<(ie (a.2%c.2):Int)) (by rw[h2,q8];decide)]<|rQ (.agg [(bP true),(gY (gV (a.2/c.2)))]) (.agg [(bP ((py a c).1)),(gY (gV ((py a c).2)))]) (by rw[e,h1])) ah 
theorem abf(a c:Bool×Nat)(za:(gV a.2).length<=256)(zc:(gV c.2).length<=256)(c0:c.2≠0)(zs:(gV (a.2/c.2+1)).length<=256)(h1:a.1=true)(h2:a.2%c.2≠0):gW 414 [(.agg [(bP a.1),(gY (gV a.2))]),(.agg [(bP c.1),(gY (gV c.2))])] (.agg [(bP ((py a c).1)),(gY (gV ((py a c).2)))]):=by
 have zq:(gV (a.2/c.2)).length<=256:=aY (me (bD _ _)) za;have zr:(gV (a.2%c.2)).length<=256:=aY (me (dp _ _)) za;have z1:(gV 1).length<=256:=sZ ag;have e:py a c=jO (a.1,a.2/c.2) (true,1):=by unfold py;rw[aS ⟨h1,h2⟩]
 exact tr true call414 func414 (chain [.c (zo _ _ ae ae af:gW 307 [(gY (gV a.2)),(gY (gV c.2))] _),tB 19 (h1:a.1=true),tB 23 (h1:a.1=true),.c (sC _ ae:gW 294 [(gY (gV (a.2%c.2)))] _),tT 27 (0<(ie (a.2%c.2):Int)) (by have:=mY h2;omega),.c (abK:gW 412 [(iP (-1))] _),.c (sR (true,(a.2/c.2)) af (true,1) af af:gW 416 [(.agg [(bP true),(gY (gV (a.2/c.2)))]),(.agg [(bP true),(gY (gV 1))])] _)]<|rQ (.agg [(bP ((jO (true,(a.2/c.2)) (true,1)).1)),(gY (gV ((jO (true,(a.2/c.2)) (true,1)).2)))]) (.agg [(bP ((py a c).1)),(gY (gV ((py a c).2)))]) (by rw[e,h1])) ah 
theorem abg(a c:Bool×Nat)(za:(gV a.2).length<=256)(zc:(gV c.2).length<=256)(c0:c.2≠0)(zs:(gV (a.2/c.2+1)).length<=256):gW 414 [(.agg [(bP a.1),(gY (gV a.2))]),(.agg [(bP c.1),(gY (gV c.2))])] (.agg [(bP ((py a c).1)),(gY (gV ((py a c).2)))]):=by
 cases h1:a.1 with
 |false=>rw[<-h1];exact abh a c za zc c0 zs h1
 |true=>
  rw[<-h1];by_cases h2:a.2%c.2=0
  .exact abe a c za zc c0 zs h1 h2
  .exact abf a c za zc c0 zs h1 h2
theorem abm(x:Iv)(n p t w2 sg eg mm:Nat)(cp u v c1 a0 a1 k l0 d0 d1:Bool×Nat)(hx:x.ic)(xa:x.all=false)(hn:n<=3)(ia:p<=2000)(ht:(t:Int)=max (max x.lo.iw x.hi.iw) 0)(t2:t<=2000)(zd:(gV d1.2).length<=256)(rf:gW 409 [iP ((((p+t)+40):Nat):Int)] (.agg [(bP cp.1),(gY (gV cp.2))]))(hU:gW 415 [gZ x.hi,iP ((((p+t)+40):Nat):Int)] (.agg [(bP u.1),(gY (gV u.2))]))(hV:gW 415 [gZ x.lo,iP ((((p+t)+40):Nat):Int)] (.agg [(bP v.1),(gY (gV v.2))]))(hW:gW 410 [(gY (gV cp.2)),iP ((1:Nat):Int)] (gY (gV w2)))(C1:gW 413 [(.agg [(bP false),(gY (gV n))]),(.agg [(bP cp.1),(gY (gV cp.2))]),iP ((0:Nat):Int)] (.agg [(bP c1.1),(gY (gV c1.2))]))(hS:gW 411 [(gY (gV c1.2)),iP ((1:Nat):Int)] (gY (gV sg)))(hE:gW 410 [(gY (gV 1)),iP ((((t+24)+4):Nat):Int)] (gY (gV eg)))(ue:gW 416 [(.agg [(bP u.1),(gY (gV u.2))]),(.agg [(bP (!false)),(gY (gV sg))])] (.agg [(bP a0.1),(gY (gV a0.2))]))(Aq:gW 416 [(.agg [(bP a0.1),(gY (gV a0.2))]),(.agg [(bP false),(gY (gV eg))])] (.agg [(bP a1.1),(gY (gV a1.2))]))(hK:gW 414 [(.agg [(bP a1.1),(gY (gV a1.2))]),(.agg [(bP false),(gY (gV w2))])] (.agg [(bP k.1),(gY (gV k.2))]))(hM:gW 218 [(gY (gV k.2)),(gY (gV w2))] (.ix [(gY (gV mm)),(iP 0)]))(vq:gW 416 [(.agg [(bP k.1),(gY (gV mm))]),(.agg [(bP false),(gY (gV sg))])] (.agg [(bP l0.1),(gY (gV l0.2))]))(xD:gW 416 [(.agg [(bP l0.1),(gY (gV l0.2))]),(.agg [(bP (!v.1)),(gY (gV v.2))])] (.agg [(bP d0.1),(gY (gV d0.2))]))(C2:gW 416 [(.agg [(bP d0.1),(gY (gV d0.2))]),(.agg [(bP false),(gY (gV eg))])] (.agg [(bP d1.1),(gY (gV d1.2))]))(hz:d1.2=0):gW 397 [(ib x),(iP n),(iP p)] (bP true):=by
 obtain⟨w1,w2'⟩:=hx.j9;have z1:(gV 1).length<=256:=sZ ag;exact tr true call397 func397 (chain [.c (oL _ af:gW 216 [(gZ x.lo)] _),.c (oL _ af:gW 216 [(gZ x.hi)] _),.o 24 (.int (by(repeat' split)<;>omega):PV.le (.e (iP (if 0>(if(Dy.iw x.hi)>(Dy.iw x.lo)then(Dy.iw x.hi)else(Dy.iw x.lo))then 0 else(if(Dy.iw x.hi)>(Dy.iw x.lo)then(Dy.iw x.hi)else(Dy.iw x.lo))))) (.e (iP t))),
  iu ((p:Int)+t) ae,iu ((((p+t):Nat):Int)+40) ae,.c (rf:gW 409 [(iP ((((p+t)+40):Nat):Int))] _),.c (hW:gW 410 [(gY (gV cp.2)),(iP 1)] _),.c (KY n ae),.c (C1:gW 413 [(.agg [(bP false),(gY (gV n))]),(.agg [(bP cp.1),(gY (gV cp.2))]),(iP 0)] _),.c (hS:gW 411 [(gY (gV c1.2)),(iP 1)] _),.o 42 (.e r9:PV.le (.e (.sl false 1 1 λi_ j_=>[(.v (.int .u32 1))].getD (i_*1+j_) (.v (.bool false)))) (.e (gY (gV 1)))),iu ((t:Int)+24) ae,iu ((((t+24):Nat):Int)+4) ae,.c (hE:gW 410 [(gY (gV 1)),(iP ((((t+24)+4):Nat):Int))] _),.c (hU:gW 415 [(gZ x.hi),(iP ((((p+t)+40):Nat):Int))] _),.c (wF (false,sg):gW 407 [(.agg [(bP false),(gY (gV sg))])] _),.c (ue:gW 416 [(.agg [(bP u.1),(gY (gV u.2))]),(.agg [(bP (!false)),(gY (gV sg))])] _),.c (Aq:gW 416 [(.agg [(bP a0.1),(gY (gV a0.2))]),(.agg [(bP false),(gY (gV eg))])] _),.c (hK:gW 414 [(.agg [(bP a1.1),(gY (gV a1.2))]),(.agg [(bP false),(gY (gV w2))])] _),.c (hM:gW 218 [(gY (gV k.2)),(gY (gV w2))] _),.c (vq:gW 416 [(.agg [(bP k.1),(gY (gV mm))]),(.agg [(bP false),(gY (gV sg))])] _),.c (hV:gW 415 [(gZ x.lo),(iP ((((p+t)+40):Nat):Int))] _),.c (wF (v.1,v.2):gW 407 [(.agg [(bP v.1),(gY (gV v.2))])] _),.c (xD:gW 416 [(.agg [(bP l0.1),(gY (gV l0.2))]),(.agg [(bP (!v.1)),(gY (gV v.2))])] _),.c (C2:gW 416 [(.agg [(bP d0.1),(gY (gV d0.2))]),(.agg [(bP false),(gY (gV eg))])] _),.c (CY (d1.1,d1.2) af:gW 417 [(.agg [(bP d1.1),(gY (gV d1.2))])] _),tB 83 (aT hz)]<|.nil) ah 
theorem abl(x:Iv)(n p t w2 sg eg mm:Nat)(cp u v c1 a0 a1 k l0 d0 d1:Bool×Nat)(hx:x.ic)(xa:x.all=false)(hn:n<=3)(ia:p<=2000)(ht:(t:Int)=max (max x.lo.iw x.hi.iw) 0)(t2:t<=2000)(zd:(gV d1.2).length<=256)(rf:gW 409 [iP ((((p+t)+40):Nat):Int)] (.agg [(bP cp.1),(gY (gV cp.2))]))(hU:gW 415 [gZ x.hi,iP ((((p+t)+40):Nat):Int)] (.agg [(bP u.1),(gY (gV u.2))]))(hV:gW 415 [gZ x.lo,iP ((((p+t)+40):Nat):Int)] (.agg [(bP v.1),(gY (gV v.2))]))(hW:gW 410 [(gY (gV cp.2)),iP ((1:Nat):Int)] (gY (gV w2)))(C1:gW 413 [(.agg [(bP false),(gY (gV n))]),(.agg [(bP cp.1),(gY (gV cp.2))]),iP ((0:Nat):Int)] (.agg [(bP c1.1),(gY (gV c1.2))]))(hS:gW 411 [(gY (gV c1.2)),iP ((1:Nat):Int)] (gY (gV sg)))(hE:gW 410 [(gY (gV 1)),iP ((((t+24)+4):Nat):Int)] (gY (gV eg)))(ue:gW 416 [(.agg [(bP u.1),(gY (gV u.2))]),(.agg [(bP (!false)),(gY (gV sg))])] (.agg [(bP a0.1),(gY (gV a0.2))]))(Aq:gW 416 [(.agg [(bP a0.1),(gY (gV a0.2))]),(.agg [(bP false),(gY (gV eg))])] (.agg [(bP a1.1),(gY (gV a1.2))]))(hK:gW 414 [(.agg [(bP a1.1),(gY (gV a1.2))]),(.agg [(bP false),(gY (gV w2))])] (.agg [(bP k.1),(gY (gV k.2))]))(hM:gW 218 [(gY (gV k.2)),(gY (gV w2))] (.ix [(gY (gV mm)),(iP 0)]))(vq:gW 416 [(.agg [(bP k.1),(gY (gV mm))]),(.agg [(bP false),(gY (gV sg))])] (.agg [(bP l0.1),(gY (gV l0.2))]))(xD:gW 416 [(.agg [(bP l0.1),(gY (gV l0.2))]),(.agg [(bP (!v.1)),(gY (gV v.2))])] (.agg [(bP d0.1),(gY (gV d0.2))]))(C2:gW 416 [(.agg [(bP d0.1),(gY (gV d0.2))]),(.agg [(bP false),(gY (gV eg))])] (.agg [(bP d1.1),(gY (gV d1.2))]))(hz:¬d1.2=0):gW 397 [(ib x),(iP n),(iP p)] (bP (!d1.1)):=by
 obtain⟨w1,w2'⟩:=hx.j9;have z1:(gV 1).length<=256:=sZ ag;exact tr true call397 func397 (chain [.c (oL _ af:gW 216 [(gZ x.lo)] _),.c (oL _ af:gW 216 [(gZ x.hi)] _),.o 24 (.int (by(repeat' split)<;>omega):PV.le (.e (iP (if 0>(if(Dy.iw x.hi)>(Dy.iw x.lo)then(Dy.iw x.hi)else(Dy.iw x.lo))then 0 else(if(Dy.iw x.hi)>(Dy.iw x.lo)then(Dy.iw x.hi)else(Dy.iw x.lo))))) (.e (iP t))),
  iu ((p:Int)+t) ae,iu ((((p+t):Nat):Int)+40) ae,.c (rf:gW 409 [(iP ((((p+t)+40):Nat):Int))] _),.c (hW:gW 410 [(gY (gV cp.2)),(iP 1)] _),.c (KY n ae),.c (C1:gW 413 [(.agg [(bP false),(gY (gV n))]),(.agg [(bP cp.1),(gY (gV cp.2))]),(iP 0)] _),.c (hS:gW 411 [(gY (gV c1.2)),(iP 1)] _),.o 42 (.e r9:PV.le (.e (.sl false 1 1 λi_ j_=>[(.v (.int .u32 1))].getD (i_*1+j_) (.v (.bool false)))) (.e (gY (gV 1)))),iu ((t:Int)+24) ae,iu ((((t+24):Nat):Int)+4) ae,.c (hE:gW 410 [(gY (gV 1)),(iP ((((t+24)+4):Nat):Int))] _),.c (hU:gW 415 [(gZ x.hi),(iP ((((p+t)+40):Nat):Int))] _),.c (wF (false,sg):gW 407 [(.agg [(bP false),(gY (gV sg))])] _),.c (ue:gW 416 [(.agg [(bP u.1),(gY (gV u.2))]),(.agg [(bP (!false)),(gY (gV sg))])] _),.c (Aq:gW 416 [(.agg [(bP a0.1),(gY (gV a0.2))]),(.agg [(bP false),(gY (gV eg))])] _),.c (hK:gW 414 [(.agg [(bP a1.1),(gY (gV a1.2))]),(.agg [(bP false),(gY (gV w2))])] _),.c (hM:gW 218 [(gY (gV k.2)),(gY (gV w2))] _),.c (vq:gW 416 [(.agg [(bP k.1),(gY (gV mm))]),(.agg [(bP false),(gY (gV sg))])] _),.c (hV:gW 415 [(gZ x.lo),(iP ((((p+t)+40):Nat):Int))] _),.c (wF (v.1,v.2):gW 407 [(.agg [(bP v.1),(gY (gV v.2))])] _),.c (xD:gW 416 [(.agg [(bP l0.1),(gY (gV l0.2))]),(.agg [(bP (!v.1)),(gY (gV v.2))])] _),.c (C2:gW 416 [(.agg [(bP d0.1),(gY (gV d0.2))]),(.agg [(bP false),(gY (gV eg))])] _),.c (CY (d1.1,d1.2) af:gW 417 [(.agg [(bP d1.1),(gY (gV d1.2))])] _),tB 83 (aU hz)]<|.nil) ah 
theorem EF{a b:Bool×Nat}{i j n:Nat}(ha:a.2<2^i)(hb:b.2<2^j)(hi:i<=n)(hj:j<=n)(hn:n<=8000):∃ r:Bool×Nat,r.2<2^(n+1)/\gW 416 [(.agg [(bP a.1),(gY (gV a.2))]),(.agg [(bP b.1),(gY (gV b.2))])] (.agg [(bP r.1),(gY (gV r.2))]):=
 ⟨jO a b,adW ha hb hi hj,sR a (lJ ha ae) b (lJ hb ae) (lJ (JD ha hb hi hj) ae)⟩
theorem abk{x:Iv}(hx:x.ic)(xa:x.all=false)(n:Nat)(hn:n<=3)(p:Nat)(ia:p<=1000)(h1:x.lo.iw<=100)(h2:x.hi.iw<=100):∃ r:Bool,gW 397 [ib x,iP (n:Int),iP (p:Int)] (bP r):=by
 obtain⟨w1,w2⟩:=hx.j9;obtain⟨t,ht⟩:∃ t:Nat,(t:Int)=max (max x.lo.iw x.hi.iw) 0:=⟨(max (max x.lo.iw x.hi.iw) 0).toNat,ae⟩
 obtain⟨cp,c1,c2,c3,rf⟩:=QL (p+t+40) ae ae;have hU:=KW x.hi w2 (p+t+40) 6000 ae ag ae;have hV:=KW x.lo w1 (p+t+40) 6000 ae ag ae;have yu:=Jv (d:=x.hi) (b:=p+t+40) (K:=6000) ae;have yv:=Jv (d:=x.lo) (b:=p+t+40) (K:=6000) ae;have yc:=F4 (m:=cp.2) (i:=p+t+40+3) (k:=2000) (by have e:(2:Nat)^(p+t+40+3)=2^(p+t+40)*8:=aX 2 _ 3;have:0<2^(p+t+40):=aZ ag;omega) ae;generalize q6 x.hi (p+t+40)=u at hU yu;generalize q6 x.lo (p+t+40)=v at hV yv;obtain⟨K,hK⟩:∃ K,K=6000:=⟨_,rfl⟩
 rw[<-hK]at yu yv;obtain⟨J,hJ⟩:∃ J,J=2000:=⟨_,rfl⟩
 rw[<-hJ]at yc;have zc:(gV cp.2).length<=256:=lJ yc ae;have yw:cp.2*2^1<2^(J+1):=by have e:2^(J+1)=2^J*2:=a6 _ _;omega
 have hW:=Ah cp.2 1 zc ag (lJ yw ae);have w0:cp.2*2^1≠0:= ae ;generalize cp.2*2^1=w at hW yw w0;have yn:n*cp.2<2^(J+2):=by have e:2^(J+2)=2^J*4:=aX 2 J 2;have:=bE cp.2 hn;omega
 have C1:=LI (false,n) (sZ (by show n<_;omega)) cp zc 0 ag (lJ yn ae);have y1:n*cp.2/2^0<2^(J+2):=bR (bD _ _) yn;obtain⟨q,hq⟩:∃ q:Bool×Nat,q=(false != cp.1,n*cp.2/2^0):=⟨_,rfl⟩
 have yq:q.2<2^(J+2):=by rw[hq];exact y1
 have SO:gW 413 [(.agg [(bP false),(gY (gV n))]),(.agg [(bP cp.1),(gY (gV cp.2))]),iP ((0:Nat):Int)] (.agg [(bP q.1),(gY (gV q.2))]):=by rw[hq];exact C1
 clear C1 hq;have hS:=wA q.2 1 (lJ yq ae) ag;have ys:q.2/2^1<2^(J+2):=bR (bD _ _) yq;generalize q.2/2^1=sg at hS ys;have ye:1*2^(t+24+4)<2^K:=by rw[bK];exact ez ag ae 
 have hE:=Ah 1 (t+24+4) (sZ ag) ae (lJ ye ae);generalize 1*2^(t+24+4)=eg at hE ye;obtain⟨a0,x0,ue⟩:=EF (b:=(!false,sg)) yu ys (n:=K) ae ae ae;obtain⟨a1,x1,Aq⟩:=EF (b:=(false,eg)) x0 ye (n:=K+1) ae ae ae;have yf:a1.2/w+1<2^(K+3):=by
  have e:2^(K+3)=2^(K+1+1)*2:=a6 _ _;have:=bD a1.2 w;have:0<2^(K+1+1):=aZ ag;omega
 have hF:=abg a1 (false,w) (lJ x1 ae) (lJ yw ae) w0 (lJ yf ae);have yk:=bR (Sr a1 (false,w)) yf;have ym:(py a1 (false,w)).2*w<2^(K+3):=bR (ad4 a1 (false,w)) (JD (n:=K+2) x1 yw ae ae);generalize py a1 (false,w)=k at hF yk ym;have hM:=zp k.2 w (lJ yk ae) (lJ yw ae) (lJ ym ae);generalize k.2*w=mm at hM ym;obtain⟨l0,x2,vq⟩:=EF (a:=(k.1,mm)) (b:=(false,sg)) ym ys (n:=K+3) ae ae ae;obtain⟨d0,x3,xD⟩:=EF (b:=(!v.1,v.2)) x2 yv (n:=K+4) ae ae ae;obtain⟨d1,x4,C2⟩:=EF (b:=(false,eg)) x3 ye (n:=K+5) ae ae ae;by_cases hz:d1.2=0
 .exact ⟨_,abm x n p t w sg eg mm cp u v q a0 a1 k l0 d0 d1 hx xa hn ae ht ae (lJ x4 ae) rf hU hV hW SO hS hE ue Aq hF hM vq xD C2 hz⟩
 .exact ⟨_,abl x n p t w sg eg mm cp u v q a0 a1 k l0 d0 d1 hx xa hn ae ht ae (lJ x4 ae) rf hU hV hW SO hS hE ue Aq hF hM vq xD C2 hz⟩
def lG:Iv:=⟨jf (-1),jf 1,false⟩
theorem zQ:lG.ic:=.inr ⟨rfl,show(jf (-1)).ic from sw ag,show(jf 1).ic from sw ag,ar⟩
theorem yF : gW 394 [] (ib lG):=by
 have h1:(jf (-1)).ic:=sw ag;have h2:(jf 1).ic:=sw ag;exact tr true call394 func394 (chain [.c (qU _ ae:gW 180 [(iP (-1))] _),.c (qU _ ae:gW 180 [(iP 1)] _)]<|rR (ib lG) (.iS rfl:E.le (ib (Iv.mk (jf (-1)) (jf 1) false)) (ib lG))) ah 
theorem aad(x y:Iv)(hx:x.ic)(hy:y.ic)(xa:(x.all||y.all)=true):gW 258 [(ib x),(ib y)] (ib ig):=
 tr true call258 func258 (chain [.o 7 (.e (y9 _ _):PV.le (.e (.sl true 2 7 λi_ j_=>(ja x++ja y).getD (i_*7+j_) (.v (.bool false)))) (.e (ij [x,y]))),.c (y8 _ _ af af:gW 93 [(ij [x,y])] _),tB 8 (by rw[xa];rfl:(!(x.all||y.all))=false),.c nF]<|.nil) ah 
theorem aae{x y:Iv}(hx:x.ic)(hy:y.ic):∃ Z,Z.ic/\gW 258 [ib x,ib y] (ib Z):=by
 cases h:(x.all||y.all)with
 |true=>exact⟨ig,mi,aad x y hx hy h⟩
 |false=>
  obtain⟨h1,h2⟩:=Bool.or_eq_false_iff.1 h;exact⟨Dm x y,afI hx hy,aaf x y hx hy h1 h2⟩
theorem aan(x:Iv)(hx:x.ic)(xa:x.all=true):gW 395 [(ib x),(ib lG)] (.ix [ib lG,bP true]):=by
 have hu:=zQ;exact tr true call395 func395 (chain [.c (qY x af),.c (qY lG af),tB 19 (xa:x.all=true)]<|.nil) ah 
theorem aap(x:Iv)(hx:x.ic)(xa:x.all=false)(h:0<jo (iR x.lo lG.lo) (iU x.hi lG.hi)):gW 395 [(ib x),(ib lG)] (.ix [ib yo,bP false]):=by
 have hu:=zQ;obtain⟨v1,v2⟩:=hx.j9;obtain⟨v3,v4⟩:=hu.j9;have m1:=pj v1 v3;have m2:=qi v2 v4;exact tr true call395 func395 (chain [.c (qY x af),.c (qY lG af),tB 19 (xa:x.all=false),tB 23 (rfl:lG.all=false),.c (Jd x.lo lG.lo af af),.c (Jc x.hi lG.hi af af),.c (oe _ _ af af:gW 122 [(gZ (iR x.lo lG.lo)),(gZ (iU x.hi lG.hi))] _),tB 41 (aT h)]<|rR (.ix [ib yo,bP false]) (.ix (.cons Zm (.cons (.refl _) .nil)):E.le (.ix [(.agg [(bP false),(.v (.slice none 0 0)),(iP 0),(bP false),(.v (.slice none 0 0)),(iP 0),(bP false)]),(bP false)]) (.ix [ib yo,bP false]))) ah 
theorem aaq(x:Iv)(hx:x.ic)(xa:x.all=false)(h:¬0<jo (iR x.lo lG.lo) (iU x.hi lG.hi)):gW 395 [(ib x),(ib lG)] (.ix [ib (Iv.mk (iR x.lo lG.lo) (iU x.hi lG.hi) false),bP true]):=by
 have hu:=zQ;obtain⟨v1,v2⟩:=hx.j9;obtain⟨v3,v4⟩:=hu.j9;have m1:=pj v1 v3;have m2:=qi v2 v4;exact tr true call395 func395 (chain [.c (qY x af),.c (qY lG af),tB 19 (xa:x.all=false),tB 23 (rfl:lG.all=false),.c (Jd x.lo lG.lo af af),.c (Jc x.hi lG.hi af af),.c (oe _ _ af af:gW 122 [(gZ (iR x.lo lG.lo)),(gZ (iU x.hi lG.hi))] _),tB 41 (aU h)]<|.nil) ah 
structure yp(Y:Iv):Prop where
 v:Y.ic
 f:Y.all=false
 l:jo lG.lo Y.lo<=0
 h:jo Y.hi lG.hi<=0
theorem amH:yp lG:=⟨zQ,rfl,ar,ar⟩
theorem aao{x:Iv}(hx:x.ic):(∃ Y,yp Y/\gW 395 [ib x,ib lG] (.ix [ib Y,bP true]))\/gW 395 [ib x,ib lG] (.ix [ib yo,bP false]):=by
 cases xa:x.all with
 |true=>exact .inl ⟨lG,amH,aan x hx xa⟩
 |false=>
  by_cases h:0<jo (iR x.lo lG.lo) (iU x.hi lG.hi)
  .exact .inr (aap x hx xa h)
  .have v1:(iR x.lo lG.lo).ic:=pj hx.j9.1 zQ.j9.1
   have v2:(iU x.hi lG.hi).ic:=qi hx.j9.2 zQ.j9.2;have h1:jo lG.lo (iR x.lo lG.lo)<=0:=Vp _ _;have h2:jo (iU x.hi lG.hi) lG.hi<=0:=Vs _ _;have hq:=aaq x hx xa h;have h3:jo (iR x.lo lG.lo) (iU x.hi lG.hi)<=0:= ae ;generalize iR x.lo lG.lo=a at *
   generalize iU x.hi lG.hi=b at *
   exact .inl ⟨⟨a,b,false⟩,⟨.inr ⟨rfl,v1,v2,h3⟩,rfl,h1,h2⟩,hq⟩
theorem yp.up{Y:Iv}(h:yp Y):yp ⟨Y.lo,jf 1,false⟩:=by
 have e:=h.v.j9;refine⟨.inr ⟨rfl,e.1,sw (n:=1) ag,?_⟩,rfl,h.l,show jo (jf 1) (jf 1)<=0 by decide +kernel⟩;have:=h.v.q;rw[po];exact bA this ((po _ _).1 h.h)
theorem yp.dn{Y:Iv}(h:yp Y):yp ⟨jf (-1),Y.hi,false⟩:=by
 have e:=h.v.j9;refine⟨.inr ⟨rfl,sw (n:=-1) ag,e.2,?_⟩,rfl,show jo (jf (-1)) (jf (-1))<=0 by decide +kernel,h.h⟩;have:=h.v.q;rw[po];exact bA ((po _ _).1 h.l) this
theorem Hg(p:Nat)(im:8<=p)(ia:p<=512):gW 393 [(iP p)] (bP true):=
 tr true call393 func393 (chain [tT 4 (8<=(p:Int)) ae,tT 7 ((p:Int)<=512) ae]<|.nil) ah 
theorem aa9(x:Iv)(cs:Bool)(p:Nat)(hx:x.ic)(xa:x.all=true)(im:8<=p)(ia:p<=512):gW 369 [(ib x),(bP cs),(iP p)] (ib ig):=
 tr true call369 func369 (chain [.c (Hg _ ae ae:gW 393 [(iP p)] _),.c (qY x af),tB 22 (xa:x.all=true),.c nF]<|.nil) ah 
theorem abc(x:Iv)(cs:Bool)(p:Nat)(hx:x.ic)(xa:x.all=false)(im:8<=p)(ia:p<=512)(hu:100<x.lo.iw\/100<x.hi.iw\/¬Bd x 64=0\/0<=jo (tY x 64) (jf 7)):gW 369 [(ib x),(bP cs),(iP p)] (ib lG):=by
 obtain⟨w1,w2⟩:=hx.j9;have h7:(jf 7).ic:=sw ag;have wv:(tY x 64).ic:=xj _ ag ag _;exact tr true call369 func369 (chain [.c (Hg _ ae ae:gW 393 [(iP p)] _),.c (qY x af),tB 22 (xa:x.all=false),.c (oL _ af:gW 216 [(gZ x.lo)] _)]<|.w (100<(Dy.iw x.lo))
  (λk1=>chain [tB 28 (aT k1),.c (yF:gW 394 [] _)]<|.nil)
  (λk1=>chain [tB 28 (aU k1),.c (oL _ af:gW 216 [(gZ x.hi)] _)]<|.w (100<(Dy.iw x.hi))
   (λk2=>chain [tB 33 (aT k2),.c (yF:gW 394 [] _)]<|.nil)
   (λk2=>chain [tB 33 (aU k2),.c (KL x 64 af af ae ae)]<|.w (Bd x 64=0)
    (λk3=>chain [tB 40 (aT k3),.c (qU _ ae:gW 180 [(iP 7)] _),.c (oe _ _ af af:gW 122 [(gZ (tY x 64)),(gZ (jf 7))] _)]<|.w (0<=(jo (tY x 64) (jf 7)))
     (λk4=>chain [tB 47 (aT k4),.c (yF:gW 394 [] _)]<|.nil)
     (λk4=>.x (by rcases hu with q|q|q|q<;>contradiction)))
    (λk3=>chain [tB 40 (aU k3),.c (yF:gW 394 [] _)]<|.nil)))) ah 
theorem abb(x:Iv)(cs:Bool)(p:Nat)(hx:x.ic)(xa:x.all=false)(im:8<=p)(ia:p<=512)(h1:¬100<x.lo.iw)(h2:¬100<x.hi.iw)(h3:Bd x 64=0)(h4:¬0<=jo (tY x 64) (jf 7))(P1 P2 H:Iv)(xE:∀ c,c=cs->gW 396 [gZ x.lo,bP c,iP (p:Int)] (ib P1))(xF:∀ c,c=cs->gW 396 [gZ x.hi,bP c,iP (p:Int)] (ib P2))(hH:gW 258 [ib P1,ib P2] (ib H))(vt:gW 395 [ib H,ib lG] (.ix [ib yo,bP false])):gW 369 [(ib x),(bP cs),(iP p)] (ib lG):=by
 obtain⟨w1,w2⟩:=hx.j9;have h7:(jf 7).ic:=sw ag;have wv:(tY x 64).ic:=xj _ ag ag _;exact tr true call369 func369 (chain [.c (Hg _ ae ae:gW 393 [(iP p)] _),.c (qY x af),tB 22 (xa:x.all=false),.c (oL _ af:gW 216 [(gZ x.lo)] _),tB 28 (aU h1),.c (oL _ af:gW 216 [(gZ x.hi)] _),tB 33 (aU h2),.c (KL x 64 af af ae ae),tB 40 (aT h3),.c (qU _ ae:gW 180 [(iP 7)] _),.c (oe _ _ af af:gW 122 [(gZ (tY x 64)),(gZ (jf 7))] _),tB 47 (aU h4),.c (xE cs aj:gW 396 [(gZ x.lo),(bP cs),(iP p)] _),.c (xF cs aj:gW 396 [(gZ x.hi),(bP cs),(iP p)] _),.c (hH:gW 258 [(ib P1),(ib P2)] _),.c (yF:gW 394 [] _),.c (vt:gW 395 [(ib H),(ib lG)] _),.c (yF:gW 394 [] _)]<|.nil) ah 
def qJ(cs:Bool)(R:Nat->Bool)(x Y:Iv):Iv:=if jo x.lo x.hi=0 then Y else⟨if R (if cs=true then 2 else 3)=true then jf (-1)else Y.lo,if R (if cs=true then 0 else 1)=true then jf 1 else Y.hi,Y.all⟩
theorem aba(x:Iv)(cs:Bool)(p:Nat)(hx:x.ic)(xa:x.all=false)(im:8<=p)(ia:p<=512)(h1:¬100<x.lo.iw)(h2:¬100<x.hi.iw)(h3:Bd x 64=0)(h4:¬0<=jo (tY x 64) (jf 7))(P1 P2 H Y:Iv)(hY:yp Y)(xE:∀ c,c=cs->gW 396 [gZ x.lo,bP c,iP (p:Int)] (ib P1))(xF:∀ c,c=cs->gW 396 [gZ x.hi,bP c,iP (p:Int)] (ib P2))(hH:gW 258 [ib P1,ib P2] (ib H))(vt:gW 395 [ib H,ib lG] (.ix [ib Y,bP true]))(R:Nat->Bool)(hM:∀ s:Nat,s<=3->gW 397 [ib x,iP (s:Int),iP ((p+64:Nat):Int)] (bP (R s))):gW 369 [(ib x),(bP cs),(iP p)] (ib (qJ cs R x Y)):=by
 obtain⟨w1,w2⟩:=hx.j9;have h7:(jf 7).ic:=sw ag;have wv:(tY x 64).ic:=xj _ ag ag _;exact tr true call369 func369 (chain [.c (Hg _ ae ae:gW 393 [(iP p)] _),.c (qY x af),tB 22 (xa:x.all=false),.c (oL _ af:gW 216 [(gZ x.lo)] _),tB 28 (aU h1),.c (oL _ af:gW 216 [(gZ x.hi)] _),tB 33 (aU h2),.c (KL x 64 af af ae ae),tB 40 (aT h3),.c (qU _ ae:gW 180 [(iP 7)] _),.c (oe _ _ af af:gW 122 [(gZ (tY x 64)),(gZ (jf 7))] _),tB 47 (aU h4)]<|.w ((jo x.lo x.hi)=0)
  (λk1=>chain [.c (xE cs aj:gW 396 [(gZ x.lo),(bP cs),(iP p)] _),.c (xF cs aj:gW 396 [(gZ x.hi),(bP cs),(iP p)] _),.c (hH:gW 258 [(ib P1),(ib P2)] _),.c (yF:gW 394 [] _),.c (vt:gW 395 [(ib H),(ib lG)] _),.c (oe _ _ af af:gW 122 [(gZ x.lo),(gZ x.hi)] _),tB 74 (aM k1)]<|rQ (ib Y) (ib (qJ cs R x Y)) (by unfold qJ;simp[k1]))
  (λk1=>.w (cs=true)
   (λk2=>chain [tB 53 (k2),.c (xE true (by simp[k2]):gW 396 [(gZ x.lo),(bP true),(iP p)] _),tB 58 (k2),.c (xF true (by simp[k2]):gW 396 [(gZ x.hi),(bP true),(iP p)] _),.c (hH:gW 258 [(ib P1),(ib P2)] _),.c (yF:gW 394 [] _),.c (vt:gW 395 [(ib H),(ib lG)] _),.c (oe _ _ af af:gW 122 [(gZ x.lo),(gZ x.hi)] _),tB 74 (aK k1),tB 76 (k2),iu ((p:Int)+64) ae,.c (hM 0 ag:gW 397 [(ib x),(iP 0),(iP (((p+64):Nat):Int))] _)]<|.w (R 0=true)
    (λk3=>chain [tB 81 (k3),.c (qU _ ae:gW 180 [(iP 1)] _),iu ((p:Int)+64) ae,.c (hM 2 ag:gW 397 [(ib x),(iP 2),(iP (((p+64):Nat):Int))] _)]<|.w (R 2=true)
     (λk4=>chain [tB 88 (k4),.c (qU _ ae:gW 180 [(iP (-1))] _)]<|rQ (ib (Iv.mk (jf (-1)) (jf 1) Y.all)) (ib (qJ cs R x Y)) (by unfold qJ;simp[k1,k2,k3,k4]))
     (λk4=>chain [tB 88 (aO k4)]<|rQ (ib (Iv.mk Y.lo (jf 1) Y.all)) (ib (qJ cs R x Y)) (by unfold qJ;simp[k1,k2,k3,k4])))
    (λk3=>chain [tB 81 (aO k3),iu ((p:Int)+64) ae,.c (hM 2 ag:gW 397 [(ib x),(iP 2),(iP (((p+64):Nat):Int))] _)]<|.w (R 2=true)
     (λk4=>chain [tB 88 (k4),.c (qU _ ae:gW 180 [(iP (-1))] _)]<|rQ (ib (Iv.mk (jf (-1)) Y.hi Y.all)) (ib (qJ cs R x Y)) (by unfold qJ;simp[k1,k2,k3,k4]))
     (λk4=>chain [tB 88 (aO k4)]<|rQ (ib Y) (ib (qJ cs R x Y)) (by unfold qJ;simp[k1,k2,k3,k4]))))
   (λk2=>chain [tB 53 (aO k2),.c (xE false (by simp[k2]):gW 396 [(gZ x.lo),(bP false),(iP p)] _),tB 58 (aO k2),.c (xF false (by simp[k2]):gW 396 [(gZ x.hi),(bP false),(iP p)] _),.c (hH:gW 258 [(ib P1),(ib P2)] _),.c (yF:gW 394 [] _),.c (vt:gW 395 [(ib H),(ib lG)] _),.c (oe _ _ af af:gW 122 [(gZ x.lo),(gZ x.hi)] _),tB 74 (aK k1),tB 76 (aO k2),iu ((p:Int)+64) ae,.c (hM 1 ag:gW 397 [(ib x),(iP 1),(iP (((p+64):Nat):Int))] _)]<|.w (R 1=true)
    (λk3=>chain [tB 81 (k3),.c (qU _ ae:gW 180 [(iP 1)] _),iu ((p:Int)+64) ae,.c (hM 3 ag:gW 397 [(ib x),(iP 3),(iP (((p+64):Nat):Int))] _)]<|.w (R 3=true)
     (λk4=>chain [tB 88 (k4),.c (qU _ ae:gW 180 [(iP (-1))] _)]<|rQ (ib (Iv.mk (jf (-1)) (jf 1) Y.all)) (ib (qJ cs R x Y)) (by unfold qJ;simp[k1,k2,k3,k4]))
     (λk4=>chain [tB 88 (aO k4)]<|rQ (ib (Iv.mk Y.lo (jf 1) Y.all)) (ib (qJ cs R x Y)) (by unfold qJ;simp[k1,k2,k3,k4])))
    (λk3=>chain [tB 81 (aO k3),iu ((p:Int)+64) ae,.c (hM 3 ag:gW 397 [(ib x),(iP 3),(iP (((p+64):Nat):Int))] _)]<|.w (R 3=true)
     (λk4=>chain [tB 88 (k4),.c (qU _ ae:gW 180 [(iP (-1))] _)]<|rQ (ib (Iv.mk (jf (-1)) Y.hi Y.all)) (ib (qJ cs R x Y)) (by unfold qJ;simp[k1,k2,k3,k4]))
     (λk4=>chain [tB 88 (aO k4)]<|rQ (ib Y) (ib (qJ cs R x Y)) (by unfold qJ;simp[k1,k2,k3,k4])))))) ah 
theorem QJ{x:Iv}(hx:x.ic)(cs:Bool){p:Nat}(im:8<=p)(ia:p<=512):∃ Z,Z.ic/\gW 369 [ib x,bP cs,iP (p:Int)] (ib Z):=by
 cases xa:x.all with
 |true=>exact⟨_,mi,aa9 x cs p hx xa im ia⟩
 |false=>
  by_cases hu:100<x.lo.iw\/100<x.hi.iw\/¬Bd x 64=0\/0<=jo (tY x 64) (jf 7)
  .exact ⟨_,zQ,abc x cs p hx xa im ia hu⟩
  have h1:¬100<x.lo.iw:=λq=>hu (.inl q)
  have h2:¬100<x.hi.iw:=λq=>hu (.inr (.inl q))
  have h3:Bd x 64=0:=bG λq=>hu (.inr (.inr (.inl q)))
  have h4:¬0<=jo (tY x 64) (jf 7):=λq=>hu (.inr (.inr (.inr q)))
  obtain⟨w1,w2⟩:=hx.j9;obtain⟨P1,g1,xE⟩:=QN w1 ae cs im ia;obtain⟨P2,g2,xF⟩:=QN w2 ae cs im ia;replace xE:∀ c,c=cs->gW 396 [gZ x.lo,bP c,iP (p:Int)] (ib P1):=λc h=>h▸xE
  replace xF:∀ c,c=cs->gW 396 [gZ x.hi,bP c,iP (p:Int)] (ib P2):=λc h=>h▸xF
  obtain⟨H,g3,hH⟩:=aae g1 g2;rcases aao g3 with⟨Y,hY,vt⟩|vt
  rotate_left
  .exact ⟨_,zQ,abb x cs p hx xa im ia h1 h2 h3 h4 P1 P2 H xE xF hH vt⟩
  have ya:=hY.f;have v0:=hY.v;have v1:(Iv.mk (jf (-1)) (jf 1) Y.all).ic:=by rw[ya];exact zQ
  have v2:(Iv.mk Y.lo (jf 1) Y.all).ic:=by rw[ya];exact hY.up.v
  have v3:(Iv.mk (jf (-1)) Y.hi Y.all).ic:=by rw[ya];exact hY.dn.v
  have v4:(Iv.mk Y.lo Y.hi Y.all).ic:=hY.v;have hm:∀ s:Nat,∃ r,s<=3->gW 397 [ib x,iP (s:Int),iP ((p+64:Nat):Int)] (bP r):=λs=>by
   by_cases hs:s<=3
   .obtain ⟨r,m⟩:=abk hx xa s ae (p+64) ae ae ae 
    exact⟨r,λ_=>m⟩
   .exact ⟨true,λh=>absurd h hs⟩
  refine⟨qJ cs (λs=>Classical.choose (hm s)) x Y,?_,aba x cs p hx xa im ia h1 h2 h3 h4 P1 P2 H Y hY xE xF hH vt (λs=>Classical.choose (hm s)) λs hs=>cN (hm s) hs⟩;generalize (λs=>Classical.choose (hm s))=R;unfold qJ;by_cases q1:jo x.lo x.hi=0
  .rw [aS q1];exact v0
  rw[aR q1];by_cases q2:R (if cs=true then 2 else 3)=true<;>by_cases q3:R (if cs=true then 0 else 1)=true<;>simp only[q2,q3,bn,a7,bq]<;>assumption
theorem abJ(x Z:Iv)(p:Nat)(hZ:gW 369 [ib x,bP false,iP (p:Int)] (ib Z)):gW 329 [(ib x),(iP p)] (ib Z):=
 tr true call329 func329 (chain [.c (hZ:gW 369 [(ib x),(bP false),(iP p)] _)]<|.nil) ah 
theorem KX{x:Iv}(hx:x.ic){p:Nat}(im:8<=p)(ia:p<=512):∃ Z,Z.ic/\gW 329 [ib x,iP (p:Int)] (ib Z):=by
 obtain⟨Z,h1,h2⟩:=QJ hx false im ia;exact⟨Z,h1,abJ x Z p h2⟩
theorem abd(x Z:Iv)(p:Nat)(hZ:gW 369 [ib x,bP true,iP (p:Int)] (ib Z)):gW 330 [(ib x),(iP p)] (ib Z):=
 tr true call330 func330 (chain [.c (hZ:gW 369 [(ib x),(bP true),(iP p)] _)]<|.nil) ah 
theorem KU{x:Iv}(hx:x.ic){p:Nat}(im:8<=p)(ia:p<=512):∃ Z,Z.ic/\gW 330 [ib x,iP (p:Int)] (ib Z):=by
 obtain⟨Z,h1,h2⟩:=QJ hx true im ia;exact⟨Z,h1,abd x Z p h2⟩
def mc(a b:Nat):Nat->Nat×Nat
 | 0=>(a,b)
 |k+1=>((mc a b k).2,(mc a b k).1%(mc a b k).2)
theorem Lv(a b:Nat):∀ k,mc a b (k+1)=mc b (a%b) k
 | 0=>rfl
 |k+1=>by
  show((mc a b (k+1)).2,(mc a b (k+1)).1%(mc a b (k+1)).2)=_;rw[Lv a b k];rfl
theorem Lu(a b:Nat):∀ k,Nat.gcd (mc a b k).1 (mc a b k).2=Nat.gcd a b
 | 0=>rfl
 |k+1=>by
  show Nat.gcd (mc a b k).2 ((mc a b k).1%(mc a b k).2)=_;rw[<-Lu a b k];exact(Nat.gcd_comm _ _).trans ((Nat.gcd_rec _ _).symm.trans (Nat.gcd_comm _ _))
theorem R7:∀ (b a:Nat),∃ N,(∀ k,k<N->(mc a b k).2≠0)/\(mc a b N).2=0:=by
 intro b
 induction b using Nat.strongRecOn with
 |ind b ih=>
  intro a;by_cases h:b=0
  .exact ⟨0,λk hk=>absurd hk (bk k),h⟩
  .obtain ⟨N,h1,h2⟩:=ih (a%b) (bh a (dE h)) b
   refine⟨N+1,λk hk=>?_,by rw[Lv];exact h2⟩;rcases k with _|k
   .exact h
   .rw [Lv];exact h1 k ae 
def nR(n d:Int)(p:Nat):Iv:=if lQ n d then kI (kx (jf n) (jf d) p false) (nm (jf n) (jf d) p false) (kx (jf n) (jf d) p true) (nm (jf n) (jf d) p true)else ig
theorem M7{d:Int}(h:d≠0):(jf d).m≠0:=by
 intro q;have hq:=xX d;rw[qB,q]at hq;have e:(d:Rat)=0:=by
  rw[<-hq];split<;>simp
 rw[show(0:Rat)=((0:Int):Rat)from rfl,Rat.intCast_inj]at e;exact h e
theorem Hu{a b:Dy}(b0:b.m≠0){p:Nat}(hp:1<=p)(ia:p<=4096)(up:Bool):(kx a b p up).ic:=by
 unfold kx;split
 .exact rI
 .exact mu _ _ _ _ _ _ hp ia
theorem akH(n d:Int){p:Nat}(hp:1<=p)(ia:p<=4096):(nR n d p).ic:=by
 unfold nR;split
 .rename_i h
  obtain⟨r1,_⟩:=Gf h;have d0:(jf d).m≠0:=M7 ae;unfold kI;split
  .exact mi
  .rename_i he
   obtain⟨A,B⟩:=Le (a:=jf n) d0 hp ia;refine .inr ⟨rfl,Hu d0 hp ia _,Hu d0 hp ia _,?_⟩;rw[po];exact bA (A.1 ae).2 (B.1 ae).2
 .exact mi
def SG(a b:Nat)(x:Nat):PS:=⟨12,true,[(0,.e (.v (.int .u64 ((((mc a b x).1):Nat):Int)))),(1,.e (.v (.int .u64 ((((mc a b x).2):Nat):Int))))],[]⟩
theorem aek(a b N:Nat)(ha:a<18446744073709551616)(hb:b<18446744073709551616)(iI:∀ k,k<N->(mc a b k).2≠0)(hN:(mc a b N).2=0):gW 214 [(.v (.int .u64 (a:Int))),(.v (.int .u64 (b:Int)))] (.v (.int .u64 ((((mc a b N).1):Nat):Int))):=
 tr true call214 func214 (chain [.s (Sp.jy (SG a b) 0 N ae (λx hx kn=>by
    have jK:=iI x ae;exact iC (chain [tB 6 (FP (iI x ae):(((((mc a b x).2):Nat):Int) != 0)=true),.a (ae:0<(((((mc a b x).2):Nat):Int):Int))]<|.e (chain [.o 0 (.int aw:PV.le (.e (.v (.int .u64 ((((mc a b x).2):Nat):Int)))) (.e (.v (.int .u64 ((((mc a b (x+1)).1):Nat):Int))))),.o 1 (.int aw:PV.le (.e (.v (.int .u64 (((((mc a b x).1)%((mc a b x).2)):Nat):Int)))) (.e (.v (.int .u64 ((((mc a b (x+1)).2):Nat):Int)))))]<|.nil)) ah)
  (λhx=>by
    exact iC (chain [tB 6 (BZ hN:(((((mc a b N).2):Nat):Int) != 0)=false)]<|.nil) ah) ak:jv 1 f214 (SG a b 0) (.exit 0) ⟨12,true,[(0,.e (.v (.int .u64 ((((mc a b N).1):Nat):Int))))],[]⟩) (chain [.o 0 (.int aw:PV.le (.e (.v (.int .u64 (a:Int)))) (.e (.v (.int .u64 ((((mc a b 0).1):Nat):Int))))),.o 1 (.int aw:PV.le (.e (.v (.int .u64 (b:Int)))) (.e (.v (.int .u64 ((((mc a b 0).2):Nat):Int)))))]<|.nil)]<|.nil) ah 
theorem ael(a b:Nat)(ha:a<18446744073709551616)(hb:b<18446744073709551616):gW 214 [(.v (.int .u64 (a:Int))),(.v (.int .u64 (b:Int)))] (.v (.int .u64 (Nat.gcd a b:Int))):=by
 obtain⟨N,h1,h2⟩:=R7 b a;have hg:=Lu a b N;rw[h2,Nat.gcd_zero_right]at hg;rw[<-hg];exact aek a b N ha hb h1 h2
theorem ali(m:Nat)(h:m<=1073741824):gW 215 [(iP m)] (.v (.int .u64 (m:Int))):=
 tr true call215 func215 (chain [tF 4 ((m:Int)<0) ae,.o 9 (.int (pE _ ae):PV.le (.e (.v (.int .u64 (IntKind.u64.wrap (m:Int))))) (.e (.v (.int .u64 (m:Int)))))]<|.nil) ah 
theorem alh(m:Nat)(h0:0<m)(h:m<=1073741824):gW 215 [(iP (-(m:Int)))] (.v (.int .u64 (m:Int))):=
 tr true call215 func215 (chain [tT 4 ((-(m:Int))<0) ae,iu (0-(-(m:Int))) ae,.o 6 (.int ae:PV.le (.e (iP (0-(-(m:Int))))) (.e (iP m))),.o 7 (.int (pE _ ae):PV.le (.e (.v (.int .u64 (IntKind.u64.wrap (m:Int))))) (.e (.v (.int .u64 (m:Int)))))]<|.nil) ah 
theorem X9(n:Int)(h1:-1073741824<=n)(h2:n<=1073741824):gW 215 [iP n] (.v (.int .u64 (n.natAbs:Int))):=by
 by_cases h:0<=n
 .obtain ⟨m,rfl⟩:=dD h
  exact ali m ae 
 .obtain ⟨m,rfl⟩:∃ m:Nat,n = -(m:Int):=⟨n.natAbs,ae⟩
  rw[fg,dC];exact alh m ae ae 
theorem xU(g:Nat):((g:Int)==1)=decide (g=1):=by
 by_cases h:g=1
 .subst h;rfl
 .rw [aU h];exact aK ae 
theorem JH(n d:Int):gW 132 [(.agg [(iP n),(iP d)])] (bP (lQ n d)):=
 tr true call132 func132 (.w (1<=d)
  (λk1=>chain [tB 5 (aT k1)]<|.w (d<=1073741824)
   (λk2=>chain [tB 9 (aT k2)]<|.w ((-1073741824)<=n)
    (λk3=>chain [tB 14 (aT k3)]<|.w (n<=1073741824)
     (λk4=>chain [tB 19 (aT k4),.c (X9 _ ae ae:gW 215 [(iP n)] _),.c (X9 _ ae ae:gW 215 [(iP d)] _),.c (ael _ _ ae ae:gW 214 [(.v (.int .u64 (Int.natAbs n:Int))),(.v (.int .u64 (Int.natAbs d:Int)))] _)]<|rQ (bP ((Nat.gcd (Int.natAbs n) (Int.natAbs d):Int)==1)) (bP (lQ n d)) (by unfold lQ;simp[xU,k1,k2,k3,k4]))
     (λk4=>chain [tB 19 (aU k4)]<|rQ (bP false) (bP (lQ n d)) (by unfold lQ;simp[xU,k1,k2,k3,k4])))
    (λk3=>chain [tB 14 (aU k3)]<|rQ (bP false) (bP (lQ n d)) (by unfold lQ;simp[xU,k1,k2,k3])))
   (λk2=>chain [tB 9 (aU k2)]<|rQ (bP false) (bP (lQ n d)) (by unfold lQ;simp[xU,k1,k2])))
  (λk1=>chain [tB 5 (aU k1)]<|rQ (bP false) (bP (lQ n d)) (by unfold lQ;simp[xU,k1]))) ah 
theorem Vl{lo hi:Dy}{e f:Int}(h:e≠0\/f≠0):kI lo e hi f=ig:=aS h
theorem ahb{lo hi:Dy}{e f:Int}(h:e=0)(k:f=0):kI lo e hi f=⟨lo,hi,false⟩:=aR (by rw[h,k];decide)
theorem ajw(n d:Int)(p:Nat)(h:lQ n d=true)(im:8<=p)(ia:p<=512):gW 288 [(.agg [(iP n),(iP d)]),(iP p)] (ib (nR n d p)):=by
 obtain⟨r1,r2,r3,r4⟩:=Gf h;have v1:=sw (n:=n) ae;have v2:=sw (n:=d) ae;have d0:(jf d).m≠0:=M7 ae;exact tr true call288 func288 (chain [.c (JH _ _:gW 132 [(.agg [(iP n),(iP d)])] _),tB 11 (by rw[h];rfl:(!(lQ n d))=false),.c (qU _ ae:gW 180 [(iP n)] _),.c (qU _ ae:gW 180 [(iP d)] _),.c (W6 (jf n) (jf d) p af af af ae ae),.c (qU _ ae:gW 180 [(iP n)] _),.c (qU _ ae:gW 180 [(iP d)] _),.c (W7 (jf n) (jf d) p af af af ae ae)]<|.w ((nm (jf n) (jf d) p false)=0)
  (λk1=>chain [tB 36 (aP k1)]<|.w ((nm (jf n) (jf d) p true)=0)
   (λk2=>chain [tB 39 (aP k2)]<|rQ (ib (Iv.mk (kx (jf n) (jf d) p false) (kx (jf n) (jf d) p true) false)) (ib (nR n d p)) (by unfold nR;rw[aS h,ahb k1 k2]))
   (λk2=>chain [tB 39 (aQ k2),.o 41 (.e GG:PV.le (.e (.agg [(bP false),(.v (.slice none 0 0)),(iP 0),(bP false),(.v (.slice none 0 0)),(iP 0),(bP true)])) (.e (ib ig)))]<|rQ (ib ig) (ib (nR n d p)) (by unfold nR;rw[aS h,Vl (.inr k2)])))
  (λk1=>chain [tB 36 (aQ k1),.o 41 (.e GG:PV.le (.e (.agg [(bP false),(.v (.slice none 0 0)),(iP 0),(bP false),(.v (.slice none 0 0)),(iP 0),(bP true)])) (.e (ib ig)))]<|rQ (ib ig) (ib (nR n d p)) (by unfold nR;rw[aS h,Vl (.inl k1)]))) ah 
noncomputable def CT(x:Iv)(p:Nat):Iv:=@dite Iv (x.ic/\8<=p/\p<=512) (Classical.propDecidable _) (λh=>Classical.choose (Pm h.1 h.2.1 h.2.2)) (λ_=>ig)
theorem adO(x:Iv)(p:Nat):(CT x p).ic:=by
 unfold CT;split
 .rename_i h;exact(cN (Pm h.1 h.2.1 h.2.2)).1
 .exact mi
theorem adN(x:Iv)(hx:x.ic)(p:Nat)(im:8<=p)(ia:p<=512):gW 327 [ib x,iP (p:Int)] (ib (CT x p)):=by
 unfold CT;rw[dif_pos ⟨hx,im,ia⟩];exact(cN (Pm hx im ia)).2
noncomputable def CU(x:Iv)(p:Nat):Iv:=@dite Iv (x.ic/\8<=p/\p<=512) (Classical.propDecidable _) (λh=>Classical.choose (Po h.1 h.2.1 h.2.2)) (λ_=>ig)
theorem adQ(x:Iv)(p:Nat):(CU x p).ic:=by
 unfold CU;split
 .rename_i h;exact(cN (Po h.1 h.2.1 h.2.2)).1
 .exact mi
theorem adP(x:Iv)(hx:x.ic)(p:Nat)(im:8<=p)(ia:p<=512):gW 328 [ib x,iP (p:Int)] (ib (CU x p)):=by
 unfold CU;rw[dif_pos ⟨hx,im,ia⟩];exact(cN (Po hx im ia)).2
noncomputable def CW(x:Iv)(p:Nat):Iv:=@dite Iv (x.ic/\8<=p/\p<=512) (Classical.propDecidable _) (λh=>Classical.choose (KX h.1 h.2.1 h.2.2)) (λ_=>ig)
theorem adS(x:Iv)(p:Nat):(CW x p).ic:=by
 unfold CW;split
 .rename_i h;exact(cN (KX h.1 h.2.1 h.2.2)).1
 .exact mi
theorem adR(x:Iv)(hx:x.ic)(p:Nat)(im:8<=p)(ia:p<=512):gW 329 [ib x,iP (p:Int)] (ib (CW x p)):=by
 unfold CW;rw[dif_pos ⟨hx,im,ia⟩];exact(cN (KX hx im ia)).2
noncomputable def CS(x:Iv)(p:Nat):Iv:=@dite Iv (x.ic/\8<=p/\p<=512) (Classical.propDecidable _) (λh=>Classical.choose (KU h.1 h.2.1 h.2.2)) (λ_=>ig)
theorem adM(x:Iv)(p:Nat):(CS x p).ic:=by
 unfold CS;split
 .rename_i h;exact(cN (KU h.1 h.2.1 h.2.2)).1
 .exact mi
theorem adL(x:Iv)(hx:x.ic)(p:Nat)(im:8<=p)(ia:p<=512):gW 330 [ib x,iP (p:Int)] (ib (CS x p)):=by
 unfold CS;rw[dif_pos ⟨hx,im,ia⟩];exact(cN (KU hx im ia)).2
noncomputable def CX(x:Iv)(p:Nat):Iv:=@dite Iv (x.ic/\8<=p/\p<=512) (Classical.propDecidable _) (λh=>Classical.choose (Nh h.1 h.2.1 h.2.2)) (λ_=>ig)
theorem adU(x:Iv)(p:Nat):(CX x p).ic:=by
 unfold CX;split
 .rename_i h;exact(cN (Nh h.1 h.2.1 h.2.2)).1
 .exact mi
theorem adT(x:Iv)(hx:x.ic)(p:Nat)(im:8<=p)(ia:p<=512):gW 331 [ib x,iP (p:Int)] (ib (CX x p)):=by
 unfold CX;rw[dif_pos ⟨hx,im,ia⟩];exact(cN (Nh hx im ia)).2
def G9(o:mO):Bool:=decide (o.kind<=6)
noncomputable def kF(o:mO)(x y:Iv)(p:Nat):Iv:=
 if o.kind=3 then jl x y p else if o.kind=4 then Cm x y p else if o.kind=5 then iO x y p else if o.kind=6 then jT x y p
 else if o.kind=7 then pV x else if o.kind=8 then lP x o.n p else if o.kind=9 then CT x p else if o.kind=10 then CU x p
 else if o.kind=11 then CW x p else if o.kind=12 then CS x p else if o.kind=13 then CX x p else ig
noncomputable def rA(o:mO)(l:List Iv)(p:Nat):Iv:=if o.kind=1 then nR o.cn o.cd p else kF o (l.getD o.a ig) (if G9 o then l.getD o.b ig else ig) p
noncomputable def iQ(gX:List mO)(xs:List Iv)(p:Nat):Nat->List Iv
 | 0=>xs
 |k+1=>iQ gX xs p k++[rA (gX.getD k iT) (iQ gX xs p k) p]
noncomputable def iW(t:oZ)(xs:List Iv)(p:Nat):List Iv:=t.ik.map λk=>(iQ t.gX xs p t.gX.length).getD k ig
noncomputable def lf(s:kV)(x:List Iv)(h:Dy)(b:List Iv)(p:Nat):List Iv:=
 if mV (iW s.tape (b++s.params) p)then[]else if mV (sY x (iW s.tape (b++s.params) p) h p)then[]else sY x (iW s.tape (b++s.params) p) h p
noncomputable def pP(s:kV)(x:List Iv)(h:Dy)(b:List Iv)(p:Nat):Bool:=!(lf s x h b p).isEmpty&&(ng x b&&ng (lf s x h b p) b)
theorem Cr(gX:List mO)(xs:List Iv)(p:Nat):∀ k,(iQ gX xs p k).length=xs.length+k
 | 0=>rfl
 |k+1=>by simp only[iQ,ch,Cr gX xs p k,de,List.length_nil];omega
theorem ZR(o:mO){x y:Iv}(hx:x.ic)(hy:y.ic){p:Nat}(hp:1<=p)(ia:p<=4096):(kF o x y p).ic:=by
 unfold kF;split
 .exact si hx hy hp ia
 split
 .exact si hx (B2 hy) hp ia
 split
 .exact qj _ _ hp ia
 split
 .exact wD _ _ hp ia
 split
 .exact B2 hx
 split
 .exact aiz hx _ hp ia
 split
 .exact adO _ _
 split
 .exact adQ _ _
 split
 .exact adS _ _
 split
 .exact adM _ _
 split
 .exact adU _ _
 .exact mi
theorem ZU(o:mO){l:List Iv}(hl:mB l){p:Nat}(hp:1<=p)(ia:p<=4096):(rA o l p).ic:=by
 unfold rA;split
 .exact akH _ _ hp ia
 .exact ZR o (hl _) (by split;exact hl _;exact mi) hp ia
theorem Cs(gX:List mO){xs:List Iv}(h:mB xs){p:Nat}(hp:1<=p)(ia:p<=4096):∀ k,mB (iQ gX xs p k)
 | 0=>h
 |k+1=>(Cs gX h hp ia k).push (ZU _ (Cs gX h hp ia k) hp ia)
theorem Al(t:oZ){xs:List Iv}(h:mB xs){p:Nat}(hp:1<=p)(ia:p<=4096):mB (iW t xs p):=λi=>by
 unfold iW;rw[aW,cj];cases t.ik[i]? with
 |none=>exact mi
 |some k=>exact Cs t.gX h hp ia _ _
theorem xA(t:oZ)(xs:List Iv)(p:Nat):(iW t xs p).length=t.ik.length:=by simp[iW]
theorem Fq{s:kV}{x b:List Iv}{h:Dy}{p n:Nat}(hx:ke n x)(hp:1<=p)(ia:p<=4096)(jJ:lf s x h b p≠[]):ke n (lf s x h b p):=by
 unfold lf at jJ ⊢;split at jJ
 .exact absurd rfl jJ
 .rename_i h1
  rw[aR h1];split at jJ
  .exact absurd rfl jJ
  .rename_i h2
   rw[aR h2];exact⟨by rw[tN,hx.len],afa (by simpa using h2) (afX hx.ok.yl hp ia)⟩
theorem acd:jQ 1=0:= ar 
theorem QT(e:Int):canon false 1 e=⟨false,1,e⟩:=by
 unfold canon;rw[aR ag,acd];simp
def nW(k:Int):Dy:=⟨false,1,k⟩
theorem Pe{k:Int}(h1:-100<=k)(h2:k<=100):mW (nW k):=.inr ⟨by show ie 1<=4096;rw[u5];decide,by show -16384<=k;omega,by show k<=16384;omega,by show(ie 1:Int)+k<=16384;rw[u5];omega⟩
theorem YY{k:Int}(h1:-100<=k)(h2:k<=100):(nW k).ic:=⟨by have:=qV false 1 k;rwa[QT]at this,Pe h1 h2⟩
theorem YX(k:Int):¬(nW k).iK<0:=by
 rw[(oD _).2,qB];show ¬(if false=true then _ else((1:Nat):Rat)*P2 k)<0;rw[aR ag];have:=ni k
 grind
theorem ald{d:Dy}(h:¬d.iK<0):0<=d.q:=by
 rw[(oD d).2]at h
 grind
noncomputable def yD(s:kV)(x:List Iv)(h:Dy)(p:Nat)(k:Int):Bool:=sT x (nW k)&&pP s x h (re x (nW k)) p
def Qg(a b:List Iv)(g:FuncId)(cap:List E)(i:Nat):PS:=⟨32,false,[(17,.e (iP i)),(16,.e (iP a.length)),(15,.e (ij a)),(1,.e (ij b)),(2,.e (.fn g cap))],[]⟩
def Qf(a b:List Iv)(g:FuncId)(cap:List E)(N:Nat)(i:Nat):PS:=⟨32,false,[(17,.e (iP i)),(16,.e (iP a.length)),(15,.e (ij a)),(1,.e (ij b)),(2,.e (.fn g cap))],[]⟩
def Qk(x:List Iv)(d:Dy)(i:Nat):PS:=⟨60,true,[(6,.own 6),(28,.e (iP i)),(27,.e (iP x.length)),(26,.e (ij x)),(3,.box 3 0)],[(6,.row true 46 i 7 (kp ((List.range i).map (λj_=>qK (x.getD j_ ig) d)))),(3,.cells 39 (jr d))]⟩
def Qi(x:List Iv)(d:Dy)(N:Nat)(i:Nat):PS:=⟨60,true,[(6,.own 6),(28,.e (iP i)),(27,.e (iP x.length)),(26,.e (ij x)),(3,.box 3 0)],[(6,.row true 46 i 7 (kp ((List.range i).map (λj_=>qK (x.getD j_ ig) d)))),(3,.cells 39 (jr d))]⟩
def Qj(x:List Iv)(d:Dy)(N:Nat)(i:Nat):PS:=⟨60,true,[(6,.own 6),(28,.e (iP i)),(27,.e (iP x.length)),(26,.e (ij x)),(3,.box 3 0)],[(6,.row true 46 i 7 (kp ((List.range i).map (λj_=>qK (x.getD j_ ig) d)))),(3,.cells 39 (jr d))]⟩
theorem aa7(x:Iv)(hx:x.ic)(xa:x.all=false):gW 197 [(ib x)] (bP false):=
 tr true call197 func197 (chain [tB 4 (xa:x.all=false),.c (qY x af)]<|.nil) ah 
theorem En(b:List Iv)(h1:1<=b.length)(h8:b.length<=8)(hb:oQ b):gW 120 [(ij b)] (bP true):=
 tr true call120 func120 (chain [tT 5 (1<=(b.length:Int)) ae,tT 9 ((b.length:Int)<=8) ae,.c (BT true _ _ 197 [] (λ_=>false) (λi hi=>aa7 _ (hb i hi).1 (hb i hi).2) ae (λ_ _=>rfl):gW 40 [(ij b),(.fn 197 [])] _)]<|.nil) ah 
theorem aa6(a b:List Iv)(a1:1<=a.length)(a8:a.length<=8)(hl:b.length=a.length)(ha:oQ a)(hb:oQ b):gW 69 [(ij a),(ij b)] (bP true):=
 tr true call69 func69 (chain [.c (En _ ae ae af:gW 120 [(ij a)] _),.c (En _ ae ae af:gW 120 [(ij b)] _),tB 16 (DF ae:((a.length:Int)==b.length)=true)]<|.nil) ah 
theorem Qh(a b:List Iv)(g:FuncId)(cap:List E)(f:Nat->Bool)(hl:b.length=a.length)(h8:a.length<=1000)(hp:∀ i,i<a.length->gW g ((ib (a.getD i ig))::(ib (b.getD i ig))::cap) (bP (f i)))(iI:∀ i,i<a.length->f i=true):gW 65 [(ij a),(ij b),(.fn g cap)] (bP true):=
 tr false call65 func65 (chain [tB 14 (B0 ae:((a.length:Int) != (b.length:Int))=false),.s (Sp.jy (Qg a b g cap) 0 a.length ae (λi hi pN=>by
    exact iC (chain [tT 18 ((i:Int)<a.length) ae,iX ((i:Int)) (a.length) ae,iX ((i:Int)) (b.length) ae,.c (hp i ae:gW g ((ib (a.getD i ig))::(ib (b.getD i ig))::cap) _),tB 29 (iI i ae:(f i)=true),iu ((i:Int)+1) ae]<|.nil) ah)
  (λhi=>by
    exact iC (chain [tF 18 ((a.length:Int)<a.length) ae]<|.nil) ah) ak:jv 4 Tryz.f65 (Qg a b g cap 0) (.exit 0) ⟨32,false,[],[]⟩) .nil]<|.nil) ah 
theorem Z9(a b:List Iv)(g:FuncId)(cap:List E)(f:Nat->Bool)(hl:b.length=a.length)(h8:a.length<=1000)(hp:∀ i,i<a.length->gW g ((ib (a.getD i ig))::(ib (b.getD i ig))::cap) (bP (f i)))(N:Nat)(mz:N<a.length)(iI:∀ i,i<N->f i=true)(hN:f N=false):gW 65 [(ij a),(ij b),(.fn g cap)] (bP false):=
 tr false call65 func65 (chain [tB 14 (B0 ae:((a.length:Int) != (b.length:Int))=false),.s (Sp.jy (Qf a b g cap N) 0 N ae (λi hi pN=>by
    exact iC (chain [tT 18 ((i:Int)<a.length) ae,iX ((i:Int)) (a.length) ae,iX ((i:Int)) (b.length) ae,.c (hp i ae:gW g ((ib (a.getD i ig))::(ib (b.getD i ig))::cap) _),tB 29 (iI i ae:(f i)=true),iu ((i:Int)+1) ae]<|.nil) ah)
  (λhi=>by
    exact iC (chain [tT 18 ((N:Int)<a.length) ae,iX ((N:Int)) (a.length) ae,iX ((N:Int)) (b.length) ae,.c (hp N ae:gW g ((ib (a.getD N ig))::(ib (b.getD N ig))::cap) _),tB 29 (hN:(f N)=false)]<|.nil) ah) ak:jv 4 Tryz.f65 (Qf a b g cap N 0) .ret ⟨32,false,[(6,.e (bP false))],[]⟩) .nil]<|.nil) ah 
theorem aaa(a b:List Iv)(g:FuncId)(cap:List E)(f:Nat->Bool)(hl:b.length=a.length)(h8:a.length<=1000)(hp:∀ i,i<a.length->gW g ((ib (a.getD i ig))::(ib (b.getD i ig))::cap) (bP (f i))):gW 65 [(ij a),(ij b),(.fn g cap)] (bP ((List.range a.length).all f)):=by
 by_cases h:∃ i,i<a.length/\(!(f i))=true
 .obtain ⟨N,h1,h2,h3⟩:=qx (p:=λi=>!(f i)) h
  refine(Z9 a b g cap f hl h8 hp N h1 (λi hi=>by simpa using h3 i hi) (by simpa using h2)).jZ (.iS ?_);rw[show(List.range a.length).all f=false from List.all_eq_false.2 ⟨N,bI.2 h1,by simpa using h2⟩]
 .have hh:∀ i,i<a.length->f i=true:=λi hi=>by
   cases hf:f i
   .exact absurd ⟨i,hi,by rw[hf];rfl⟩ h
   .rfl
  refine(Qh a b g cap f hl h8 hp hh).jZ (.iS ?_);rw[show(List.range a.length).all f=true from bH.2 λi hi=>hh i (bI.1 hi)]
theorem He(a b:List Iv)(a1:1<=a.length)(a8:a.length<=8)(hl:b.length=a.length)(ha:oQ a)(hb:oQ b):gW 27 [(ij a),(ij b)] (bP (ng a b)):=
 tr true call27 func27 (chain [.c (aa6 _ _ ae ae ae af af:gW 69 [(ij a),(ij b)] _),.c (aaa a b 70 [] (λi=>pg (a.getD i ig) (b.getD i ig)) hl ae (λi hi=>aag _ _ (ha i hi).1 (hb i ae).1):gW 65 [(ij a),(ij b),(.fn 70 [])] _)]<|.nil) ah 
theorem LU{x:Iv}{d:Dy}(h:vo x d=true):mP (iJ x.lo (iF d))=0/\mP (iJ x.hi d)=0:=by
 unfold vo at h;rwa[bu,bU,bU]at h
theorem aa5(x:List Iv)(d:Dy)(x1:1<=x.length)(x8:x.length<=8)(hx:oQ x)(hd:d.ic)(h0:¬d.iK<0)(iI:∀ i,i<x.length->vo (x.getD i ig) d=true):gW 181 [(ij x),(gZ d)] (.ix [ij ((List.range x.length).map (λj_=>qK (x.getD j_ ig) d)),iP 0]):=
 tr true call181 func181 (chain [.c (En _ ae ae af:gW 120 [(ij x)] _),.c (qu _ af:gW 92 [(gZ d)] _),.c (og _ af:gW 46 [(gZ d)] _),tB 24 (aU h0),.y 6 6 true 46 7 (kp ((List.range 0).map (λj_=>qK (x.getD j_ ig) d))),.s (Sp.jy (Qk x d) 0 x.length ae (λi hi pN=>by
    obtain⟨w1,w2⟩:=(hx i ae).1.j9;obtain⟨g1,g2⟩:=LU (iI i ae);have uq:=tU (Iv.mk (kG (iJ (x.getD i ig).lo (iF d))) (kG (iJ (x.getD i ig).hi d)) false);exact iC (chain [tT 29 ((i:Int)<x.length) ae,iX ((i:Int)) (x.length) ae,.c (El _ _ af af:gW 256 [(gZ ((x.getD i ig).lo)),(gZ d)] _),.c (Ej ((x.getD i ig).hi) d af af),tB 47 (by rw[g1];rfl:((mP (iJ ((x.getD i ig).lo) (iF d))) != 0)=false),tB 50 (by rw[g2];rfl:((mP (iJ ((x.getD i ig).hi) d)) != 0)=false),.o 56 (.e (mH _):PV.le (.e (.sl true 1 7 λi_ j_=>(ja (Iv.mk (kG (iJ ((x.getD i ig).lo) (iF d))) (kG (iJ ((x.getD i ig).hi) d)) false)).getD (i_*7+j_) (.v (.bool false)))) (.e (ij [(Iv.mk (kG (iJ ((x.getD i ig).lo) (iF d))) (kG (iJ ((x.getD i ig).hi) d)) false)]))),.a (ae:(i+[(Iv.mk (kG (iJ ((x.getD i ig).lo) (iF d))) (kG (iJ ((x.getD i ig).hi) d)) false)].length)*88<=140737488355328),iu ((i:Int)+1) ae]<|.e (chain [.b 6 (ze rfl rfl rfl:Bx.le (.row true 46 (i+[(Iv.mk (kG (iJ ((x.getD i ig).lo) (iF d))) (kG (iJ ((x.getD i ig).hi) d)) false)].length) 7 (λi_ j_=>if i_<i then(kp ((List.range i).map (λj_=>qK (x.getD j_ ig) d))) i_ j_ else(E.ml (ij [(Iv.mk (kG (iJ ((x.getD i ig).lo) (iF d))) (kG (iJ ((x.getD i ig).hi) d)) false)])) (i_-i) j_)) (.row true 46 (i+1) 7 (kp ((List.range (i+1)).map (λj_=>qK (x.getD j_ ig) d)))))]<|.nil)) ah)
  (λhi=>by
    exact iC (chain [tF 29 ((x.length:Int)<x.length) ae,.z 6]<|.e (chain [.o 6 (.e (AI aj):PV.le (.e (.sl true x.length 7 (kp ((List.range x.length).map (λj_=>qK (x.getD j_ ig) d))))) (.e (ij ((List.range x.length).map (λj_=>qK (x.getD j_ ig) d)))))]<|.nil)) ah) ak:jv 5 f181 (Qk x d 0) (.exit 0) ⟨60,true,[(6,.e (ij ((List.range x.length).map (λj_=>qK (x.getD j_ ig) d))))],[]⟩) .nil]<|.nil) ah 
theorem aa2(x:List Iv)(d:Dy)(x1:1<=x.length)(x8:x.length<=8)(hx:oQ x)(hd:d.ic)(h0:¬d.iK<0)(N:Nat)(mz:N<x.length)(iI:∀ i,i<N->vo (x.getD i ig) d=true)(hN:mP (iJ (x.getD N ig).lo (iF d))≠0):gW 181 [(ij x),(gZ d)] (.ix [.v (.slice none 0 0),iP 9]):=
 tr true call181 func181 (chain [.c (En _ ae ae af:gW 120 [(ij x)] _),.c (qu _ af:gW 92 [(gZ d)] _),.c (og _ af:gW 46 [(gZ d)] _),tB 24 (aU h0),.y 6 6 true 46 7 (kp ((List.range 0).map (λj_=>qK (x.getD j_ ig) d))),.s (Sp.jy (Qi x d N) 0 N ae (λi hi pN=>by
    obtain⟨w1,w2⟩:=(hx i ae).1.j9;obtain⟨g1,g2⟩:=LU (iI i ae);have uq:=tU (Iv.mk (kG (iJ (x.getD i ig).lo (iF d))) (kG (iJ (x.getD i ig).hi d)) false);exact iC (chain [tT 29 ((i:Int)<x.length) ae,iX ((i:Int)) (x.length) ae,.c (El _ _ af af:gW 256 [(gZ ((x.getD i ig).lo)),(gZ d)] _),.c (Ej ((x.getD i ig).hi) d af af),tB 47 (by rw[g1];rfl:((mP (iJ ((x.getD i ig).lo) (iF d))) != 0)=false),tB 50 (by rw[g2];rfl:((mP (iJ ((x.getD i ig).hi) d)) != 0)=false),.o 56 (.e (mH _):PV.le (.e (.sl true 1 7 λi_ j_=>(ja (Iv.mk (kG (iJ ((x.getD i ig).lo) (iF d))) (kG (iJ ((x.getD i ig).hi) d)) false)).getD (i_*7+j_) (.v (.bool false)))) (.e (ij [(Iv.mk (kG (iJ ((x.getD i ig).lo) (iF d))) (kG (iJ ((x.getD i ig).hi) d)) false)]))),.a (ae:(i+[(Iv.mk (kG (iJ ((x.getD i ig).lo) (iF d))) (kG (iJ ((x.getD i ig).hi) d)) false)].length)*88<=140737488355328),iu ((i:Int)+1) ae]<|.e (chain [.b 6 (ze rfl rfl rfl:Bx.le (.row true 46 (i+[(Iv.mk (kG (iJ ((x.getD i ig).lo) (iF d))) (kG (iJ ((x.getD i ig).hi) d)) false)].length) 7 (λi_ j_=>if i_<i then(kp ((List.range i).map (λj_=>qK (x.getD j_ ig) d))) i_ j_ else(E.ml (ij [(Iv.mk (kG (iJ ((x.getD i ig).lo) (iF d))) (kG (iJ ((x.getD i ig).hi) d)) false)])) (i_-i) j_)) (.row true 46 (i+1) 7 (kp ((List.range (i+1)).map (λj_=>qK (x.getD j_ ig) d)))))]<|.nil)) ah)
  (λhi=>by
    obtain⟨w1,w2⟩:=(hx N ae).1.j9;exact iC (chain [tT 29 ((N:Int)<x.length) ae,iX ((N:Int)) (x.length) ae,.c (El _ _ af af:gW 256 [(gZ ((x.getD N ig).lo)),(gZ d)] _),.c (Ej ((x.getD N ig).hi) d af af),tB 47 (by simpa using hN:((mP (iJ ((x.getD N ig).lo) (iF d))) != 0)=true)]<|.nil) ah) ak:jv 5 f181 (Qi x d N 0) .ret ⟨60,true,[(5,.e (iP 9)),(4,.e (.v (.slice none 0 0)))],[]⟩) .nil]<|.nil) ah 
theorem aa3(x:List Iv)(d:Dy)(x1:1<=x.length)(x8:x.length<=8)(hx:oQ x)(hd:d.ic)(h0:¬d.iK<0)(N:Nat)(mz:N<x.length)(iI:∀ i,i<N->vo (x.getD i ig) d=true)(hM:mP (iJ (x.getD N ig).lo (iF d))=0)(hN:mP (iJ (x.getD N ig).hi d)≠0):gW 181 [(ij x),(gZ d)] (.ix [.v (.slice none 0 0),iP 9]):=
 tr true call181 func181 (chain [.c (En _ ae ae af:gW 120 [(ij x)] _),.c (qu _ af:gW 92 [(gZ d)] _),.c (og _ af:gW 46 [(gZ d)] _),tB 24 (aU h0),.y 6 6 true 46 7 (kp ((List.range 0).map (λj_=>qK (x.getD j_ ig) d))),.s (Sp.jy (Qj x d N) 0 N ae (λi hi pN=>by
    obtain⟨w1,w2⟩:=(hx i ae).1.j9;obtain⟨g1,g2⟩:=LU (iI i ae);have uq:=tU (Iv.mk (kG (iJ (x.getD i ig).lo (iF d))) (kG (iJ (x.getD i ig).hi d)) false);exact iC (chain [tT 29 ((i:Int)<x.length) ae,iX ((i:Int)) (x.length) ae,.c (El _ _ af af:gW 256 [(gZ ((x.getD i ig).lo)),(gZ d)] _),.c (Ej ((x.getD i ig).hi) d af af),tB 47 (by rw[g1];rfl:((mP (iJ ((x.getD i ig).lo) (iF d))) != 0)=false),tB 50 (by rw[g2];rfl:((mP (iJ ((x.getD i ig).hi) d)) != 0)=false),.o 56 (.e (mH _):PV.le (.e (.sl true 1 7 λi_ j_=>(ja (Iv.mk (kG (iJ ((x.getD i ig).lo) (iF d))) (kG (iJ ((x.getD i ig).hi) d)) false)).getD (i_*7+j_) (.v (.bool false)))) (.e (ij [(Iv.mk (kG (iJ ((x.getD i ig).lo) (iF d))) (kG (iJ ((x.getD i ig).hi) d)) false)]))),.a (ae:(i+[(Iv.mk (kG (iJ ((x.getD i ig).lo) (iF d))) (kG (iJ ((x.getD i ig).hi) d)) false)].length)*88<=140737488355328),iu ((i:Int)+1) ae]<|.e (chain [.b 6 (ze rfl rfl rfl:Bx.le (.row true 46 (i+[(Iv.mk (kG (iJ ((x.getD i ig).lo) (iF d))) (kG (iJ ((x.getD i ig).hi) d)) false)].length) 7 (λi_ j_=>if i_<i then(kp ((List.range i).map (λj_=>qK (x.getD j_ ig) d))) i_ j_ else(E.ml (ij [(Iv.mk (kG (iJ ((x.getD i ig).lo) (iF d))) (kG (iJ ((x.getD i ig).hi) d)) false)])) (i_-i) j_)) (.row true 46 (i+1) 7 (kp ((List.range (i+1)).map (λj_=>qK (x.getD j_ ig) d)))))]<|.nil)) ah)
  (λhi=>by
    obtain⟨w1,w2⟩:=(hx N ae).1.j9;exact iC (chain [tT 29 ((N:Int)<x.length) ae,iX ((N:Int)) (x.length) ae,.c (El _ _ af af:gW 256 [(gZ ((x.getD N ig).lo)),(gZ d)] _),.c (Ej ((x.getD N ig).hi) d af af),tB 47 (by rw[hM];rfl:((mP (iJ ((x.getD N ig).lo) (iF d))) != 0)=false),tB 50 (by simpa using hN:((mP (iJ ((x.getD N ig).hi) d)) != 0)=true)]<|.nil) ah) ak:jv 5 f181 (Qj x d N 0) .ret ⟨60,true,[(5,.e (iP 9)),(4,.e (.v (.slice none 0 0)))],[]⟩) .nil]<|.nil) ah 
def EL(x:List Iv)(d:Dy):Int:=if sT x d then 0 else 9
theorem aa4(x:List Iv)(d:Dy)(x1:1<=x.length)(x8:x.length<=8)(hx:oQ x)(hd:d.ic)(h0:¬d.iK<0):gW 181 [ij x,gZ d] (.ix [ij (re x d),iP (EL x d)]):=by
 unfold re EL;cases hg:sT x d with
 |true=>
  rw[aS rfl,aS rfl];exact aa5 x d x1 x8 hx hd h0 λi hi=>bH.1 hg i (bI.2 hi)
 |false=>
  rw[aR ag,aR ag];obtain⟨i,hi,hb⟩:=List.all_eq_false.1 hg;obtain⟨N,h1,h2,h3⟩:=qx (p:=λi=>!(vo (x.getD i ig) d)) ⟨i,bI.1 hi,by simpa using hb⟩;have iI:∀ i,i<N->vo (x.getD i ig) d=true:=λi hi=>by simpa using h3 i hi
  have h2:vo (x.getD N ig) d=false:=by simpa using h2
  have key:gW 181 [ij x,gZ d] (.ix [.v (.slice none 0 0),iP 9]):=by
   by_cases hM:mP (iJ (x.getD N ig).lo (iF d))=0
   .exact aa3 x d x1 x8 hx hd h0 N h1 iI hM λq=>by
     unfold vo at h2;rw[hM,q]at h2;exact absurd h2 ag 
   .exact aa2 x d x1 x8 hx hd h0 N h1 iI hM
  exact key.jZ (.ix (.cons (.nil _ _ _) (.cons (.refl _) .nil)))
end Go.Proofs.YtkjkcjhacddojaaGreatDoor
namespace Go.Proofs.YtkjkcjhacddojaaGreatDoor.Pu
open Go.RowKit
theorem Xx{bs br:Nat->Prop}{w:World}{xs:List Value}{a:Value}(h:iH bs br w (.agg (xs.map E.v)) a):a = .agg xs.toArray:=by
 generalize he:E.agg (xs.map E.v)=e at h;cases h with
 |agg l vs hl k=>
  cases he;rw[cR]at hl;have:vs=xs:=eX λi=>by
   cases hx:xs[i]? with
   |none=>rw[List.getElem?_eq_none_iff]at hx ⊢;omega
   |some x=>
    obtain⟨v,hv⟩:∃ v,vs[i]? = some v:=by
     have hi:i<xs.length:=(bZ.1 hx).1;exact⟨vs[i]'(ae),bg ae⟩
    rw[hv,iH.kP (k i (.v x) v (by rw[cj,hx];rfl) hv)]
  rw[this]
 |_=>cases he
theorem NT{P:Program}{t:TypeId}{m D D':Nat}(hm:m<=10000)(hk:P.keyTypeAt m t=true)(hg:P.eqGuardType P.depth t=false){xs ys:List Value}{la lb:List Lit}
 (hx:P.keyLits D t xs=some la) (hy:P.keyLits D' t ys=some lb) (fx:(Value.agg xs.toArray).formed P t=true) (fy:(Value.agg ys.toArray).formed P t=true) {c:Bool} (hc:c=true↔la=lb):
 pG P .eql t (.agg (xs.map E.v)) (.agg (ys.map E.v)) (.bool c):=by
 intro bs br w a b ox oy ha hb;obtain rfl:=Xx ha;obtain rfl:=Xx hb;constructor
 .simp only[eqGuard,ef,bq,a7,Sem.run_bind,run_program,Result.andThen_ok,hg,dz,bn,Sem.run_pure]
 .obtain ⟨r,hr,afm⟩:=run_equalIn_deep (10000-m) m t hk w _ _ _ _ la lb fx fy (by simpa[Value.cells]using hx) (by simpa[Value.cells]using hy)
  rw[show 10000-m+m=10000 by omega]at hr;have e:r=c:=by rw[cS,afm,hc]
  subst e;have:(Op.equal t (.agg xs.toArray) (.agg ys.toArray)).run P w = .ok r w:=hr;simp only[binOp,Sem.run_bind,this,Result.andThen_ok,Sem.run_pure]
end Go.Proofs.YtkjkcjhacddojaaGreatDoor.Pu
namespace Go.Proofs.YtkjkcjhacddojaaGreatDoor
open Go.RowKit Fp Pu
theorem V7{t:TypeId}{m:Nat}(hm:m<=10000)(hk:prog.keyTypeAt m t=true)(hg:prog.eqGuardType prog.depth t=false){xs:List Value}(hx:(prog.keyLits 10 t xs).isSome=true)
 (fx:(Value.agg xs.toArray).formed prog t=true):pG prog .eql t (.agg (xs.map E.v)) (.agg (xs.map E.v)) (.bool true):=by
 obtain⟨l,hl⟩:=gi.1 hx;exact NT hm hk hg hl hl fx fx aj 
theorem Jy{a b c d e f:Int}(h:a=0/\b=0/\c=0/\d=0/\e=0/\f=0):
 pG prog .eql 74 (.agg [iP a,iP b,iP c,iP d,iP e,iP f]) (.agg [iP 0,iP 0,iP 0,iP 0,iP 0,iP 0]) (.bool true):=by
 obtain⟨rfl,rfl,rfl,rfl,rfl,rfl⟩:=h;exact V7 (m:=10) (xs:=[.int .i64 0,.int .i64 0,.int .i64 0,.int .i64 0,.int .i64 0,.int .i64 0]) ag ah ah ah ah 
theorem NS{a b:Int}(h:a=0/\b=0):pG prog .eql 72 (.agg [iP a,iP b]) (.agg [iP 0,iP 0]) (.bool true):=by
 obtain⟨rfl,rfl⟩:=h;exact V7 (m:=10) (xs:=[.int .i64 0,.int .i64 0]) ag ah ah ah ah 
theorem AH{d:Nat}{n:Int}(h:ky .i64 n):prog.keyLits (d+1) 3 [.int .i64 n]=some [.int .i64 n]:=by
 have hw:(Lit.int .i64 n).wf=true:=by
  unfold ky at h;simp[Lit.wf,IntKind.min,IntKind.max,IntKind.signed,IntKind.bits];omega
 unfold Program.keyLits;rw[underlying3];simp[hw]
theorem W2{a b:Int}(ha:ky .i64 a)(hb:ky .i64 b):prog.keyLits 10 72 [.int .i64 a,.int .i64 b]=some [.int .i64 a,.int .i64 b]:=by
 have c1:prog.cellsOf 72=2:= ah ;have c2:prog.cellsOf 3=1:= ah ;unfold Program.keyLits;rw[underlying72];simp[c1,c2,fc,AH ha,AH hb]
theorem V6{a b:Int}{r:Bool}(ha:ky .i64 a)(hb:ky .i64 b)(h:decide (a=0/\b=0)=r):pG prog .eql 72 (.agg [iP a,iP b]) (.agg [iP 0,iP 0]) (.bool r):=
 NT (m:=10) (xs:=[.int .i64 a,.int .i64 b]) (ys:=[.int .i64 0,.int .i64 0]) ag ah ah (W2 ha hb) (W2 aJ aJ) ah ah (by subst h;simp)
theorem ahW{a b c d e f a' b' c' d' e' f':Int}{r:Bool}(hx:prog.keyLits 10 74 [.int .i64 a,.int .i64 b,.int .i64 c,.int .i64 d,.int .i64 e,.int .i64 f]=some [.int .i64 a,.int .i64 b,.int .i64 c,.int .i64 d,.int .i64 e,.int .i64 f])(hy:prog.keyLits 10 74 [.int .i64 a',.int .i64 b',.int .i64 c',.int .i64 d',.int .i64 e',.int .i64 f']=some [.int .i64 a',.int .i64 b',.int .i64 c',.int .i64 d',.int .i64 e',.int .i64 f'])
 (fx:(Value.agg (List.toArray [.int .i64 a,.int .i64 b,.int .i64 c,.int .i64 d,.int .i64 e,.int .i64 f])).formed prog 74=true) (fy:(Value.agg (List.toArray [.int .i64 a',.int .i64 b',.int .i64 c',.int .i64 d',.int .i64 e',.int .i64 f'])).formed prog 74=true) (h:decide (a=a'/\b=b'/\c=c'/\d=d'/\e=e'/\f=f')=r):
 pG prog .eql 74 (.agg [iP a,iP b,iP c,iP d,iP e,iP f]) (.agg [iP a',iP b',iP c',iP d',iP e',iP f']) (.bool r):=
 NT (m:=10) (xs:=[.int .i64 a,.int .i64 b,.int .i64 c,.int .i64 d,.int .i64 e,.int .i64 f]) (ys:=[.int .i64 a',.int .i64 b',.int .i64 c',.int .i64 d',.int .i64 e',.int .i64 f']) ag ah ah hx hy fx fy (by subst h;simp)
theorem akK{P:Program}(w:World)(t tx ty e:TypeId)(i:TypeInfo)(z:Value)(ht:P.underlying t=some (.slice e))(hx:P.underlying tx=some (.int .i64))(hi:P.info? e=some i)(hz:i.zero=some z)
 (xM:i.size≠0) (n:Nat) (h0:0<n) (yM:n<=1000000) (SN:n*i.bytes<=281474976710656):
 (Builtin.append_ #[t,tx] ty #[.slice none 0 0,.int .i64 (n:Int)]).run P w =
  .ok (.slice (some ⟨w.heap.size,0,none⟩) n (grownCap w n 0 e)) (w.drew.alloc (.cells (Builtin.zeroCells z.cells n++Builtin.zeroCells z.cells (grownCap w n 0 e-n)) e)):=by
 have hn:n≠0:= ae ;have hns:n*i.size≠0:=du hn xM;have ae3:¬(9223372036854775807<(n:Int)):= ae ;have ae1:¬(281474976710656<Builtin.nextslicecap n 0*i.bytes):=by rw[nextslicecap_zero h0];omega
 have hw:IntKind.i64.wrap (n:Int)=n:=i64_in _ ae ae;have E5:¬((n:Int)<0):= ae ;have ae2:¬(281474976710656<(n:Int)*(i.bytes:Int)):=by
  have:(n:Int)*(i.bytes:Int)=((n*i.bytes:Nat):Int):= aj ;rw[this];omega
 simp[Builtin.append_,run_underlying ht,run_underlying hx,sizeOf,typeInfo,zeroValue,hi,hz,asInt,asIntOf,hw,E5,ae2,hn,hns,ae3,ae1,Question.forced,run_firstCells_none,newRow,grownCap]
theorem am7{P:Program}{w:World}{gX:Array Oper}{rest:List Oper}{o:Oper}{a:Act}{Q:Exit->Act->World->Prop}(BA:o.guard=none)(s x:Operand)(t tx:TypeId)
 (ho:o.op = .call { callee:=.builtin .append,args:=#[s,x],argTypes:=#[t,tx] })
 (e:TypeId) (i:TypeInfo) (z:Value) (ht:P.underlying t=some (.slice e)) (hx:P.underlying tx=some (.int .i64)) (hi:P.info? e=some i) (hz:i.zero=some z)
 (xM:i.size≠0) (n:Nat) (h0:0<n) (yM:n<=1000000) (SN:n*i.bytes<=281474976710656) (hs:a.eval s = .slice none 0 0) (hxx:a.eval x = .int .i64 (n:Int))
 (h:wpList P gX Q rest (a.put o.dst (.slice (some ⟨w.heap.size,0,none⟩) n (grownCap w n 0 e))) (w.drew.alloc (.cells (Builtin.zeroCells z.cells n++Builtin.zeroCells z.cells (grownCap w n 0 e-n)) e))):wpList P gX Q (o::rest) a w:=by
 refine wpList_plain BA λK hK=>?_
 have lN:=akK (P:=P) w t tx o.type e i z ht hx hi hz xM n h0 yM SN;unfold Oper.wp;simp[execOp,ho,resolve,invoke,builtin,hs,hxx,lN,Result.andThen];exact hK _ _ h
theorem ZN(w:World)(o:Obj):Below w.heap.size w (w.alloc o).drew:=⟨rfl,rfl,rfl,by rw[show(w.alloc o).drew.heap=w.heap.push o from rfl,Array.size_push];omega,λx hx=>Below.heap_alloc w _ x hx⟩
theorem ZO(w:World)(o:Obj):w.heap.size<(w.alloc o).drew.heap.size:=by rw[show(w.alloc o).drew.heap=w.heap.push o from rfl,Array.size_push];omega
theorem af1:(prog.info? 46).map (λi=>(i.zero,i.size,i.bytes))=some (some (.agg #[.bool false,.slice none 0 0,.int .i64 0,.bool false,.slice none 0 0,.int .i64 0,.bool false]),7,88):= ah 
theorem Zn(n:Nat):∀ u,u ∈ Builtin.zeroCells (Value.cells (.agg #[.bool false,.slice none 0 0,.int .i64 0,.bool false,.slice none 0 0,.int .i64 0,.bool false])) n->sy u=false:=by
 intro u hu;simp only[Builtin.zeroCells,fF,fG]at hu;obtain⟨q,hq,rfl⟩:=hu;have hc:Value.cells (.agg #[.bool false,.slice none 0 0,.int .i64 0,.bool false,.slice none 0 0,.int .i64 0,.bool false]) = #[.bool false,.slice none 0 0,.int .i64 0,.bool false,.slice none 0 0,.int .i64 0,.bool false]:=rfl;rw[hc]at hq ⊢;have hs:(#[Value.bool false,.slice none 0 0,.int .i64 0,.bool false,.slice none 0 0,.int .i64 0,.bool false]:Array Value).size=7:=rfl;rw[hs];have h7:q%7<7:=bh _ ag;generalize q%7=k at h7;rcases k with _|_|_|_|_|_|_|k
 all_goals first|rfl|omega
set_option maxRecDepth 100000 in
theorem aeV(n:Nat)(hn:n<=1000000):tc prog Tb 239 [.v (.slice none 0 0),iP (n:Int)] true 46 0 7 (kp []):=by
 refine⟨call239,λw B vs hK hB hr=>?_⟩;obtain⟨v1,vs,rfl,h1,hr⟩:=hr.mg;obtain⟨v2,vs,rfl,h2,hr⟩:=hr.mg;obtain rfl:=hr.qk;obtain rfl:=iH.kP h1;obtain rfl:=iH.kP h2;show Calls _ _ #[.slice none 0 0,.int .i64 (n:Int)] w _;clear h1 h2 hr hB hK;by_cases h0:n=0
 .subst h0
  go_enter func239,ntmps239;go_wp2;go_ret;exact⟨_,rfl,Below.refl _ _,λ_ _=>undef,.inl ⟨rfl,rfl⟩,λx hx=>by simp[Value.ownBlock]at hx,λi j hi=>absurd hi (bk _)⟩
 .obtain ⟨i,hi,hz,h1,h2⟩:=info_parts af1
  have hw:IntKind.i64.wrap ((n:Int)-0)=n:=i64_in _ ae ae;have I3:IntKind.i64.wrap (n:Int)=n:=i64_in _ ae ae;have e2:decide ((n:Int)<0)=false:=aU ae;have e3:decide ((0:Int)<n)=true:=aT ae;have C8:n<=grownCap w n 0 46:=grownCap_ge w n 0 _;go_enter func239,ntmps239;go_wp2_with (at_builtin;go_must (refine am7 ai _ _ _ _ ai _ i _ underlying26 underlying3 hi hz ae n ae ae (by rw[h2];omega) ai ai ?_))
  go_ret;have hz7:(#[Value.bool false,.slice none 0 0,.int .i64 0,.bool false,.slice none 0 0,.int .i64 0,.bool false]:Array Value).size=7:=rfl;refine⟨_,rfl,ZN w _,λ_ _=>undef,.inr ⟨w.heap.size,grownCap w n 0 46,_,rfl,heap_alloc_new w _,bN _,grownCap_le_maxLen w n 0 _ (by unfold maxLen;omega),?_,λi j hi=>absurd hi (bk _),λ_ u hu=>?_⟩,λx hx=>?_,λi j hi=>absurd hi (bk _)⟩
  .simp only[gS,size_zeroCells,hz7,<-bL]
   congr 1;omega
  .rcases eZ.1 hu with hu|hu
   .exact Zn _ u hu
   .exact Zn _ u hu
  .simp [Value.ownBlock]at hx
   subst hx;exact⟨aV _,ZO w _⟩
abbrev GS(f:FuncId)(args:List E)(nl:Bool)(T:TypeId)(n sz:Nat)(el:Nat->Nat->E):Prop:=tc prog Tb f args nl T n sz el
theorem trn{f:FuncId}{fn:Func}{args:List E}{nl:Bool}{T0:TypeId}{n sz:Nat}{el:Nat->Nat->E}(wM:∀ (vs:Array Value) (w:World),(callFunc f vs).run prog w = .ok (.enter f vs) w)
 (hf:prog.funcs[f]? = some fn) (t:Tr prog Tb) (h:Ov TT fn args (.row nl T0 n sz el) t=t.ex λ_=>.a (Bx.le (.row nl T0 n sz el) (.row nl T0 n sz el)) .nil):GS f args nl T0 n sz el:=
 tc.Pd KA mixed PH wM hf t h
def YE(t:oZ)(x:Nat):PS:=⟨46,true,[(28,.e (iP x)),(27,.e (iP t.gX.length)),(26,.e (nJ t.gX)),(1,.box 1 0)],[(1,.cells 25 [(iP t.iq),(nJ t.gX),(nI t.ik)])]⟩
def Yx(s:kV)(x:Nat):PS:=⟨85,true,[(31,.e (iP x)),(30,.e (iP s.tape.gX.length)),(29,.e (nJ s.tape.gX)),(3,.box 3 0),(1,.box 1 0)],[(3,.cells 25 [(iP s.tape.iq),(nJ s.tape.gX),(nI s.tape.ik)]),(1,.cells 28 [(iP s.tape.iq),(nJ s.tape.gX),(nI s.tape.ik),(iP s.iA),(ij s.params)])]⟩
noncomputable def YD(t:oZ)(xs:List Iv)(p:Nat)(x:Nat):PS:=⟨75,true,[(26,.e (iP x)),(25,.e (iP t.gX.length)),(24,.e (nJ t.gX)),(7,.own 22),(2,.e (iP p))],[(22,.row true 46 ((iQ t.gX xs p x).length) 7 (kp (iQ t.gX xs p x)))]⟩
theorem Wb(k:Nat)(h1:3<=k)(h2:k<=6):gW 287 [(iP k)] (iP 2):=
 tr true call287 func287 (chain [tB 5 (aK ae:((k:Int)==1)=false)]<|.w ((k:Int)=3)
  (λk1=>chain [tB 7 (aM k1)]<|.nil)
  (λk1=>chain [tB 7 (aK k1)]<|.w ((k:Int)=4)
   (λk2=>chain [tB 8 (aM k2)]<|.nil)
   (λk2=>chain [tB 8 (aK k2)]<|.w ((k:Int)=5)
    (λk3=>chain [tB 9 (aM k3)]<|.nil)
    (λk3=>chain [tB 9 (aK k3)]<|.w ((k:Int)=6)
     (λk4=>chain [tB 10 (aM k4)]<|.nil)
     (λk4=>.x ae))))) ah 
theorem NX(k:Nat)(h1:7<=k)(h2:k<=13):gW 287 [(iP k)] (iP 1):=
 tr true call287 func287 (chain [tB 5 (aK ae:((k:Int)==1)=false),tB 7 (aK ae:((k:Int)==3)=false),tB 8 (aK ae:((k:Int)==4)=false),tB 9 (aK ae:((k:Int)==5)=false),tB 10 (aK ae:((k:Int)==6)=false)]<|.w ((k:Int)=7)
  (λk1=>chain [tB 12 (aM k1)]<|.nil)
  (λk1=>chain [tB 12 (aK k1)]<|.w ((k:Int)=8)
   (λk2=>chain [tB 13 (aM k2)]<|.nil)
   (λk2=>chain [tB 13 (aK k2)]<|.w ((k:Int)=9)
    (λk3=>chain [tB 14 (aM k3)]<|.nil)
    (λk3=>chain [tB 14 (aK k3)]<|.w ((k:Int)=10)
     (λk4=>chain [tB 15 (aM k4)]<|.nil)
     (λk4=>chain [tB 15 (aK k4)]<|.w ((k:Int)=11)
      (λk5=>chain [tB 16 (aM k5)]<|.nil)
      (λk5=>chain [tB 16 (aK k5)]<|.w ((k:Int)=12)
       (λk6=>chain [tB 17 (aM k6)]<|.nil)
       (λk6=>chain [tB 17 (aK k6)]<|.w ((k:Int)=13)
        (λk7=>chain [tB 18 (aM k7)]<|.nil)
        (λk7=>.x ae)))))))) ah 
theorem Wa(k:Nat)(h1:k=1):gW 287 [(iP k)] (iP 0):=
 tr true call287 func287 (chain [tB 5 (aM ae:((k:Int)==1)=true)]<|.nil) ah 
theorem ahX{a b:Int}(h:lQ a b=true):pG prog .eql 72 (.agg [iP a,iP b]) (.agg [iP 0,iP 0]) (.bool false):=by
 obtain⟨h1,h2,h3,h4⟩:=Gf h;exact V6 aJ aJ (aU ae)
theorem nB.KO{o:mO}{m:Nat}(h:nB o m)(oz:o.kind≠1)(hk:o.kind<=6):3<=o.kind/\o.a<m/\o.b<m/\o.n=0/\o.cn=0/\o.cd=0:=by
 have h3:=h.k3.resolve_left oz;have ha:=h.a;have hb:=h.b;have hn:=h.n;have hc:=h.c;rw[aR oz]at ha hc;rw[aS ⟨h3,hk⟩]at hb;rw[aR ae]at hn;exact⟨h3,ha,hb,hn,hc.1,hc.2⟩
theorem nB.pow{o:mO}{m:Nat}(h:nB o m)(hk:o.kind=8):o.a<m/\o.b=0/\o.n<=16/\o.cn=0/\o.cd=0:=by
 have ha:=h.a;have hb:=h.b;have hn:=h.n;have hc:=h.c;rw[aR ae]at ha hb hc;rw[aS hk]at hn;exact⟨ha,hb,hn,hc.1,hc.2⟩
theorem nB.un{o:mO}{m:Nat}(h:nB o m)(hk:¬o.kind<=6)(ui:o.kind≠8):o.kind<=13/\o.a<m/\o.b=0/\o.n=0/\o.cn=0/\o.cd=0:=by
 have ha:=h.a;have hb:=h.b;have hn:=h.n;have hc:=h.c;rw[aR ae]at ha hb hc;rw[aR ui]at hn;exact⟨h.Dv,ha,hb,hn,hc.1,hc.2⟩
theorem nB.num{o:mO}{m:Nat}(h:nB o m)(hk:o.kind=1):o.a=0/\o.b=0/\o.n=0/\lQ o.cn o.cd=true:=by
 have ha:=h.a;have hb:=h.b;have hn:=h.n;have hc:=h.c;rw[aS hk]at ha hc;rw[aR ae]at hb hn;exact⟨ha,hb,hn,hc⟩
theorem nB.PI{o:mO}{m:Nat}(h:nB o m)(hk:o.kind≠1):o.a<m:=by
 have ha:=h.a;rwa[aR hk]at ha
theorem ais(o:mO)(m:Nat)(h:nB o m)(hk:o.kind=1):gW 324 [(vP o),(iP m)] (bP true):=by
 obtain⟨h2,h3,h4,su⟩:=h.num hk;exact tr true call324 func324 (chain [.c (Wa _ ae:gW 287 [(iP o.kind)] _),tB 14 (ag:(decide ((0:Int)<0))=false),tB 17 (ag:((0:Int)==0)=true),.c (JH o.cn o.cd),tB 20 (su:(lQ o.cn o.cd)=true),tB 26 (aK ae:((o.kind:Int)==8)=false),tB 37 (ag:(decide ((0:Int)<0))=false),tB 49 (ag:(decide ((1:Int)<0))=false),.g (Jy ⟨ae,ae,ae,ae,ae,ae⟩:pG prog .eql 74 (.agg [(iP 0),(iP o.a),(iP o.b),(iP o.n),(iP 0),(iP 0)]) (.agg [(iP 0),(iP 0),(iP 0),(iP 0),(iP 0),(iP 0)]) (.bool true))]<|.nil) ah 
theorem air(o:mO)(m:Nat)(h:nB o m)(oz:o.kind≠1)(hk:o.kind<=6):gW 324 [(vP o),(iP m)] (bP true):=by
 obtain⟨h1,h2,h3,h4,h5,h6⟩:=h.KO oz hk;exact tr true call324 func324 (chain [.c (Wb _ ae ae:gW 287 [(iP o.kind)] _),tB 14 (ag:(decide ((2:Int)<0))=false),tB 17 (ag:((2:Int)==0)=false),tB 26 (aK ae:((o.kind:Int)==8)=false),tB 37 (ag:(decide ((0:Int)<2))=true),tF 40 ((o.a:Int)<0) ae,tF 45 ((m:Int)<=o.a) ae,tB 49 (ag:(decide ((1:Int)<2))=true),tF 52 ((o.b:Int)<0) ae,tF 57 ((m:Int)<=o.b) ae,.g (Jy ⟨ae,ae,ae,ae,ae,ae⟩:pG prog .eql 74 (.agg [(iP 0),(iP 0),(iP 0),(iP o.n),(iP o.cn),(iP o.cd)]) (.agg [(iP 0),(iP 0),(iP 0),(iP 0),(iP 0),(iP 0)]) (.bool true))]<|.nil) ah 
theorem aiu(o:mO)(m:Nat)(h:nB o m)(hk:o.kind=8):gW 324 [(vP o),(iP m)] (bP true):=by
 obtain⟨h2,h3,h4,h5,h6⟩:=h.pow hk;exact tr true call324 func324 (chain [.c (NX _ ae ae:gW 287 [(iP o.kind)] _),tB 14 (ag:(decide ((1:Int)<0))=false),tB 17 (ag:((1:Int)==0)=false),tB 26 (aM ae:((o.kind:Int)==8)=true),tF 29 ((o.n:Int)<0) ae,tF 33 (16<(o.n:Int)) ae,tB 37 (ag:(decide ((0:Int)<1))=true),tF 40 ((o.a:Int)<0) ae,tF 45 ((m:Int)<=o.a) ae,tB 49 (ag:(decide ((1:Int)<1))=false),.g (Jy ⟨ae,ae,ae,ae,ae,ae⟩:pG prog .eql 74 (.agg [(iP 0),(iP 0),(iP o.b),(iP 0),(iP o.cn),(iP o.cd)]) (.agg [(iP 0),(iP 0),(iP 0),(iP 0),(iP 0),(iP 0)]) (.bool true))]<|.nil) ah 
theorem aiv(o:mO)(m:Nat)(h:nB o m)(hk:¬o.kind<=6)(ui:o.kind≠8):gW 324 [(vP o),(iP m)] (bP true):=by
 obtain⟨h1,h2,h3,h4,h5,h6⟩:=h.un hk ui;exact tr true call324 func324 (chain [.c (NX _ ae ae:gW 287 [(iP o.kind)] _),tB 14 (ag:(decide ((1:Int)<0))=false),tB 17 (ag:((1:Int)==0)=false),tB 26 (aK ae:((o.kind:Int)==8)=false),tB 37 (ag:(decide ((0:Int)<1))=true),tF 40 ((o.a:Int)<0) ae,tF 45 ((m:Int)<=o.a) ae,tB 49 (ag:(decide ((1:Int)<1))=false),.g (Jy ⟨ae,ae,ae,ae,ae,ae⟩:pG prog .eql 74 (.agg [(iP 0),(iP 0),(iP o.b),(iP o.n),(iP o.cn),(iP o.cd)]) (.agg [(iP 0),(iP 0),(iP 0),(iP 0),(iP 0),(iP 0)]) (.bool true))]<|.nil) ah 
theorem alK(o:mO)(m:Nat)(h:nB o m)(hk:o.kind=1):gW 231 [(vP o),(iP m)] (bP true):=by
 obtain⟨h2,h3,h4,su⟩:=h.num hk;exact tr true call231 func231 (chain [tF 8 ((o.a:Int)<0) ae,tF 12 ((o.b:Int)<0) ae,.g (ahX su:pG prog .eql 72 (.agg [(iP o.cn),(iP o.cd)]) (.agg [(iP 0),(iP 0)]) (.bool false)),tB 21 (aM ae:((o.kind:Int)==1)=true),.c (JH o.cn o.cd),tB 24 (su:(lQ o.cn o.cd)=true),tB 28 (aM ae:((o.a:Int)==0)=true),tB 33 (aM ae:((o.b:Int)==0)=true),tB 38 (aM ae:((o.n:Int)==0)=true)]<|.nil) ah 
theorem alJ(o:mO)(m:Nat)(h:nB o m)(oz:o.kind≠1)(hk:o.kind<=6):gW 231 [(vP o),(iP m)] (bP true):=by
 obtain⟨h1,h2,h3,h4,h5,h6⟩:=h.KO oz hk;exact tr true call231 func231 (chain [tF 8 ((o.a:Int)<0) ae,tF 12 ((o.b:Int)<0) ae,.g (NS ⟨ae,ae⟩:pG prog .eql 72 (.agg [(iP o.cn),(iP o.cd)]) (.agg [(iP 0),(iP 0)]) (.bool true)),tB 21 (aK ae:((o.kind:Int)==1)=false)]<|.w ((o.kind:Int)=3)
  (λk1=>chain [tB 41 (aM k1),tT 50 ((o.a:Int)<m) ae,tT 56 ((o.b:Int)<m) ae,tB 61 (aM ae:((o.n:Int)==0)=true)]<|.nil)
  (λk1=>chain [tB 41 (aK k1)]<|.w ((o.kind:Int)=4)
   (λk2=>chain [tB 42 (aM k2),tT 50 ((o.a:Int)<m) ae,tT 56 ((o.b:Int)<m) ae,tB 61 (aM ae:((o.n:Int)==0)=true)]<|.nil)
   (λk2=>chain [tB 42 (aK k2)]<|.w ((o.kind:Int)=5)
    (λk3=>chain [tB 43 (aM k3),tT 50 ((o.a:Int)<m) ae,tT 56 ((o.b:Int)<m) ae,tB 61 (aM ae:((o.n:Int)==0)=true)]<|.nil)
    (λk3=>chain [tB 43 (aK k3)]<|.w ((o.kind:Int)=6)
     (λk4=>chain [tB 44 (aM k4),tT 50 ((o.a:Int)<m) ae,tT 56 ((o.b:Int)<m) ae,tB 61 (aM ae:((o.n:Int)==0)=true)]<|.nil)
     (λk4=>.x ae))))) ah 
theorem alM(o:mO)(m:Nat)(h:nB o m)(hk:o.kind=8):gW 231 [(vP o),(iP m)] (bP true):=by
 obtain⟨h2,h3,h4,h5,h6⟩:=h.pow hk;exact tr true call231 func231 (chain [tF 8 ((o.a:Int)<0) ae,tF 12 ((o.b:Int)<0) ae,.g (NS ⟨ae,ae⟩:pG prog .eql 72 (.agg [(iP o.cn),(iP o.cd)]) (.agg [(iP 0),(iP 0)]) (.bool true)),tB 21 (aK ae:((o.kind:Int)==1)=false),tB 41 (aK ae:((o.kind:Int)==3)=false),tB 42 (aK ae:((o.kind:Int)==4)=false),tB 43 (aK ae:((o.kind:Int)==5)=false),tB 44 (aK ae:((o.kind:Int)==6)=false),tB 64 (aM ae:((o.kind:Int)==8)=true),tT 70 ((o.a:Int)<m) ae,tB 75 (aM ae:((o.b:Int)==0)=true),tT 80 (0<=(o.n:Int)) ae,tT 85 ((o.n:Int)<=16) ae]<|.nil) ah 
theorem alN(o:mO)(m:Nat)(h:nB o m)(hk:¬o.kind<=6)(ui:o.kind≠8):gW 231 [(vP o),(iP m)] (bP true):=by
 obtain⟨h1,h2,h3,h4,h5,h6⟩:=h.un hk ui;exact tr true call231 func231 (chain [tF 8 ((o.a:Int)<0) ae,tF 12 ((o.b:Int)<0) ae,.g (NS ⟨ae,ae⟩:pG prog .eql 72 (.agg [(iP o.cn),(iP o.cd)]) (.agg [(iP 0),(iP 0)]) (.bool true)),tB 21 (aK ae:((o.kind:Int)==1)=false),tB 41 (aK ae:((o.kind:Int)==3)=false),tB 42 (aK ae:((o.kind:Int)==4)=false),tB 43 (aK ae:((o.kind:Int)==5)=false),tB 44 (aK ae:((o.kind:Int)==6)=false),tB 64 (aK ae:((o.kind:Int)==8)=false)]<|.w ((o.kind:Int)=7)
  (λk1=>chain [tB 88 (aM k1),tT 99 ((o.a:Int)<m) ae,tB 104 (aM ae:((o.b:Int)==0)=true),tB 109 (aM ae:((o.n:Int)==0)=true)]<|.nil)
  (λk1=>chain [tB 88 (aK k1)]<|.w ((o.kind:Int)=9)
   (λk2=>chain [tB 89 (aM k2),tT 99 ((o.a:Int)<m) ae,tB 104 (aM ae:((o.b:Int)==0)=true),tB 109 (aM ae:((o.n:Int)==0)=true)]<|.nil)
   (λk2=>chain [tB 89 (aK k2)]<|.w ((o.kind:Int)=10)
    (λk3=>chain [tB 90 (aM k3),tT 99 ((o.a:Int)<m) ae,tB 104 (aM ae:((o.b:Int)==0)=true),tB 109 (aM ae:((o.n:Int)==0)=true)]<|.nil)
    (λk3=>chain [tB 90 (aK k3)]<|.w ((o.kind:Int)=11)
     (λk4=>chain [tB 91 (aM k4),tT 99 ((o.a:Int)<m) ae,tB 104 (aM ae:((o.b:Int)==0)=true),tB 109 (aM ae:((o.n:Int)==0)=true)]<|.nil)
     (λk4=>chain [tB 91 (aK k4)]<|.w ((o.kind:Int)=12)
      (λk5=>chain [tB 92 (aM k5),tT 99 ((o.a:Int)<m) ae,tB 104 (aM ae:((o.b:Int)==0)=true),tB 109 (aM ae:((o.n:Int)==0)=true)]<|.nil)
      (λk5=>chain [tB 92 (aK k5)]<|.w ((o.kind:Int)=13)
       (λk6=>chain [tB 93 (aM k6),tT 99 ((o.a:Int)<m) ae,tB 104 (aM ae:((o.b:Int)==0)=true),tB 109 (aM ae:((o.n:Int)==0)=true)]<|.nil)
       (λk6=>.x ae))))))) ah 
theorem ait(o:mO)(m:Nat)(h:nB o m):gW 324 [vP o,iP (m:Int)] (bP true):=by
 by_cases oz:o.kind=1
 .exact ais o m h oz
 by_cases hk:o.kind<=6
 .exact air o m h oz hk
 .by_cases ui:o.kind=8
  .exact aiu o m h ui
  .exact aiv o m h hk ui
theorem alL(o:mO)(m:Nat)(h:nB o m):gW 231 [vP o,iP (m:Int)] (bP true):=by
 by_cases oz:o.kind=1
 .exact alK o m h oz
 by_cases hk:o.kind<=6
 .exact alJ o m h oz hk
 .by_cases ui:o.kind=8
  .exact alM o m h ui
  .exact alN o m h hk ui
theorem al4(t:oZ)(k:Nat)(hk:k<t.iq+t.gX.length)(h8:t.iq<=8)(ae0:t.gX.length<=200):gW 325 [(iP k),(.kz 3 λj_=>[(iP t.iq),(nJ t.gX),(nI t.ik)].getD j_ .any)] (bP false):=
 tr true call325 func325 (chain [tF 5 ((k:Int)<0) ae,iu ((t.iq:Int)+t.gX.length) ae,tF 14 ((((t.iq+t.gX.length):Nat):Int)<=k) ae]<|.nil) ah 
theorem YF(t:oZ)(h:Ab t):gW 285 [(yh t)] (bP true):=by
 have h8:=h.iq;have BF:=h.gX;have mZ:=h.ik;exact tr true call285 func285 (chain [tF 7 ((t.iq:Int)<0) ae,tF 11 (8<(t.iq:Int)) ae,tF 17 (200<(t.gX.length:Int)) ae,tF 23 (200<(t.ik.length:Int)) ae,.s (Sp.jy (YE t) 0 t.gX.length ae (λx hx kn=>by
    have iG:=h.op x ae;exact iC (chain [tT 29 ((x:Int)<t.gX.length) ae,iX ((x:Int)) (t.gX.length) ae,iu ((t.iq:Int)+x) ae,.c (ait _ _ iG:gW 324 [(vP (t.gX.getD x iT)),(iP (((t.iq+x):Nat):Int))] _),iu ((x:Int)+1) ae]<|.nil) ah)
  (λhx=>by
    exact iC (chain [tF 29 ((t.gX.length:Int)<t.gX.length) ae]<|.nil) ah) ak:jv 4 f285 (YE t 0) (.exit 0) ⟨46,true,[(1,.box 1 0)],[(1,.cells 25 [(iP t.iq),(nJ t.gX),(nI t.ik)])]⟩) .nil,.c (M9 true _ _ 325 [(.kz 3 λj_=>[(iP t.iq),(nJ t.gX),(nI t.ik)].getD j_ .any)] (λ_=>false) (λi hi=>al4 t _ (h.out i hi) h8 BF) ae (λ_ _=>rfl):gW 232 [(nI t.ik),(.fn 325 [(.kz 3 λj_=>[(iP t.iq),(nJ t.gX),(nI t.ik)].getD j_ .any)])] _)]<|.nil) ah 
theorem alP(t:oZ)(k:Nat)(hk:k<t.iq+t.gX.length)(h8:t.iq<=8)(ae0:t.gX.length<=200):gW 233 [(iP k),(.kz 3 λj_=>[(iP t.iq),(nJ t.gX),(nI t.ik)].getD j_ .any)] (bP false):=
 tr true call233 func233 (chain [tF 5 ((k:Int)<0) ae,iu ((t.iq:Int)+t.gX.length) ae,tF 14 ((((t.iq+t.gX.length):Nat):Int)<=k) ae]<|.nil) ah 
theorem alR(x:Iv)(hx:x.ic)(xa:x.all=false):gW 234 [(ib x)] (bP false):=by
 obtain⟨w1,w2,w3⟩:=ph hx xa;exact tr true call234 func234 (chain [tB 4 (xa:x.all=false),.c (qu _ af:gW 92 [(gZ x.lo)] _),.c (qu _ af:gW 92 [(gZ x.hi)] _),.c (oe _ _ af af:gW 122 [(gZ x.lo),(gZ x.hi)] _),tF 23 (0<(jo x.lo x.hi)) ae]<|.nil) ah 
theorem O8(s:kV)(h:mI s):gW 157 [(jj s)] (bP true):=by
 have h8:=h.tape.iq;have BF:=h.tape.gX;have mZ:=h.tape.ik;have s1:=h.s1;have s4:=h.s4;have ho:=h.ik;have hi:=h.iq;have p4:=h.p4;exact tr true call157 func157 (chain [tF 10 ((s.tape.iq:Int)<0) ae,tF 14 (8<(s.tape.iq:Int)) ae,tF 20 (200<(s.tape.gX.length:Int)) ae,tF 26 (200<(s.tape.ik.length:Int)) ae,.s (Sp.jy (Yx s) 0 s.tape.gX.length ae (λx hx kn=>by
    have iG:=h.tape.op x ae;exact iC (chain [tT 32 ((x:Int)<s.tape.gX.length) ae,iX ((x:Int)) (s.tape.gX.length) ae,iu ((s.tape.iq:Int)+x) ae,.c (alL _ _ iG:gW 231 [(vP (s.tape.gX.getD x iT)),(iP (((s.tape.iq+x):Nat):Int))] _),iu ((x:Int)+1) ae]<|.nil) ah)
  (λhx=>by
    exact iC (chain [tF 32 ((s.tape.gX.length:Int)<s.tape.gX.length) ae]<|.nil) ah) ak:jv 5 f157 (Yx s 0) (.exit 0) ⟨85,true,[(3,.box 3 0),(1,.box 1 0)],[(3,.cells 25 [(iP s.tape.iq),(nJ s.tape.gX),(nI s.tape.ik)]),(1,.cells 28 [(iP s.tape.iq),(nJ s.tape.gX),(nI s.tape.ik),(iP s.iA),(ij s.params)])]⟩) .nil,.c (M9 true _ _ 233 [(.kz 3 λj_=>[(iP s.tape.iq),(nJ s.tape.gX),(nI s.tape.ik)].getD j_ .any)] (λ_=>false) (λi hi=>alP s.tape _ (h.tape.out i hi) h8 BF) ae (λ_ _=>rfl):gW 232 [(nI s.tape.ik),(.fn 233 [(.kz 3 λj_=>[(iP s.tape.iq),(nJ s.tape.gX),(nI s.tape.ik)].getD j_ .any)])] _),tF 50 ((s.iA:Int)<1) ae,tF 54 (4<(s.iA:Int)) ae,tB 62 (B0 ae:((s.tape.ik.length:Int) != (s.iA:Int))=false),
  iu ((s.iA:Int)+s.params.length) ae,tB 73 (B0 ae:((s.tape.iq:Int) != (((s.iA+s.params.length):Nat):Int))=false),tF 79 (4<(s.params.length:Int)) ae,.c (BT true _ _ 234 [] (λ_=>false) (λi hi=>alR _ (h.params i hi).1 (h.params i hi).2) ae (λ_ _=>rfl):gW 40 [(ij s.params),(.fn 234 [])] _)]<|.nil) ah 
theorem P0(o:mO)(x y:Iv)(p:Nat)(hx:x.ic)(hy:y.ic)(r1:3<=o.kind)(r2:o.kind<=13)(r3:o.n<=16)(im:8<=p)(ia:p<=512):gW 289 [(iP o.kind),(iP o.n),(ib x),(ib y),(iP p)] (ib (kF o x y p)):=
 tr true call289 func289 (.w ((o.kind:Int)=3)
  (λk1=>chain [tB 13 (aM k1),.c (Ds x y p af af ae ae)]<|rQ (ib (jl x y p)) (ib (kF o x y p)) (by unfold kF;simp[show o.kind=3 from ae]))
  (λk1=>chain [tB 13 (aK k1)]<|.w ((o.kind:Int)=4)
   (λk2=>chain [tB 19 (aM k2),.c (agp x y p af af ae ae)]<|rQ (ib (Cm x y p)) (ib (kF o x y p)) (by unfold kF;simp[show ¬o.kind=3 from ae,show o.kind=4 from ae]))
   (λk2=>chain [tB 19 (aK k2)]<|.w ((o.kind:Int)=5)
    (λk3=>chain [tB 25 (aM k3),.c (Fv x y p af af ae ae)]<|rQ (ib (iO x y p)) (ib (kF o x y p)) (by unfold kF;simp[show ¬o.kind=3 from ae,show ¬o.kind=4 from ae,show o.kind=5 from ae]))
    (λk3=>chain [tB 25 (aK k3)]<|.w ((o.kind:Int)=6)
     (λk4=>chain [tB 31 (aM k4),.c (UJ x y p af af ae ae)]<|rQ (ib (jT x y p)) (ib (kF o x y p)) (by unfold kF;simp[show ¬o.kind=3 from ae,show ¬o.kind=4 from ae,show ¬o.kind=5 from ae,show o.kind=6 from ae]))
     (λk4=>chain [tB 31 (aK k4)]<|.w ((o.kind:Int)=7)
      (λk5=>chain [tB 37 (aM k5),.c (UO x af)]<|rQ (ib (pV x)) (ib (kF o x y p)) (by unfold kF;simp[show ¬o.kind=3 from ae,show ¬o.kind=4 from ae,show ¬o.kind=5 from ae,show ¬o.kind=6 from ae,show o.kind=7 from ae]))
      (λk5=>chain [tB 37 (aK k5)]<|.w ((o.kind:Int)=8)
       (λk6=>chain [tB 41 (aM k6),.c (aaA _ _ _ af ae ae ae:gW 326 [(ib x),(iP o.n),(iP p)] _)]<|rQ (ib (lP x o.n p)) (ib (kF o x y p)) (by unfold kF;simp[show ¬o.kind=3 from ae,show ¬o.kind=4 from ae,show ¬o.kind=5 from ae,show ¬o.kind=6 from ae,show ¬o.kind=7 from ae,show o.kind=8 from ae]))
       (λk6=>chain [tB 41 (aK k6)]<|.w ((o.kind:Int)=9)
        (λk7=>chain [tB 47 (aM k7),.c (adN _ af _ ae ae:gW 327 [(ib x),(iP p)] _)]<|rQ (ib (CT x p)) (ib (kF o x y p)) (by unfold kF;simp[show ¬o.kind=3 from ae,show ¬o.kind=4 from ae,show ¬o.kind=5 from ae,show ¬o.kind=6 from ae,show ¬o.kind=7 from ae,show ¬o.kind=8 from ae,show o.kind=9 from ae]))
        (λk7=>chain [tB 47 (aK k7)]<|.w ((o.kind:Int)=10)
         (λk8=>chain [tB 52 (aM k8),.c (adP _ af _ ae ae:gW 328 [(ib x),(iP p)] _)]<|rQ (ib (CU x p)) (ib (kF o x y p)) (by unfold kF;simp[show ¬o.kind=3 from ae,show ¬o.kind=4 from ae,show ¬o.kind=5 from ae,show ¬o.kind=6 from ae,show ¬o.kind=7 from ae,show ¬o.kind=8 from ae,show ¬o.kind=9 from ae,show o.kind=10 from ae]))
         (λk8=>chain [tB 52 (aK k8)]<|.w ((o.kind:Int)=11)
          (λk9=>chain [tB 57 (aM k9),.c (adR _ af _ ae ae:gW 329 [(ib x),(iP p)] _)]<|rQ (ib (CW x p)) (ib (kF o x y p)) (by unfold kF;simp[show ¬o.kind=3 from ae,show ¬o.kind=4 from ae,show ¬o.kind=5 from ae,show ¬o.kind=6 from ae,show ¬o.kind=7 from ae,show ¬o.kind=8 from ae,show ¬o.kind=9 from ae,show ¬o.kind=10 from ae,show o.kind=11 from ae]))
          (λk9=>chain [tB 57 (aK k9)]<|.w ((o.kind:Int)=12)
           (λk10=>chain [tB 62 (aM k10),.c (adL _ af _ ae ae:gW 330 [(ib x),(iP p)] _)]<|rQ (ib (CS x p)) (ib (kF o x y p)) (by unfold kF;simp[show ¬o.kind=3 from ae,show ¬o.kind=4 from ae,show ¬o.kind=5 from ae,show ¬o.kind=6 from ae,show ¬o.kind=7 from ae,show ¬o.kind=8 from ae,show ¬o.kind=9 from ae,show ¬o.kind=10 from ae,show ¬o.kind=11 from ae,show o.kind=12 from ae]))
           (λk10=>chain [tB 62 (aK k10)]<|.w ((o.kind:Int)=13)
            (λk11=>chain [tB 67 (aM k11),.c (adT _ af _ ae ae:gW 331 [(ib x),(iP p)] _)]<|rQ (ib (CX x p)) (ib (kF o x y p)) (by unfold kF;simp[show ¬o.kind=3 from ae,show ¬o.kind=4 from ae,show ¬o.kind=5 from ae,show ¬o.kind=6 from ae,show ¬o.kind=7 from ae,show ¬o.kind=8 from ae,show ¬o.kind=9 from ae,show ¬o.kind=10 from ae,show ¬o.kind=11 from ae,show ¬o.kind=12 from ae,show o.kind=13 from ae]))
            (λk11=>.x ae)))))))))))) ah 
theorem QI{nl:Bool}{T n n' sz:Nat}{f g h:Nat->Nat->E}(hn:n=n')(hh:∀ i j,i<n->j<sz->g i j=h i j/\(h i j).nr 2=true):Bx.le (.row nl T (0+n) sz λi j=>if i<0 then f i j else g (i-0) j) (.row nl T n' sz h):=
 .row ae λi j hi hj=>by
  have oH:i<n:= ae ;simp only[bk,a7,dj];exact⟨.iS (hh i j oH hj).1,(hh i j oH hj).2⟩
theorem Qa(r:List Iv)(h0:0<r.length)(hl:r.length<=1000):GS 63 [ij r] true 46 r.length 7 (kp r):=
 trn call63 func63 (chain [.a (ae:0<r.length),.bo,.a (ae:(0+r.length)*88<=140737488355328)]<|.rb (QI rfl λi j hi hj=>⟨rfl,Dt _ _ hj⟩:Bx.le (.row true 46 (0+r.length) 7 (λi_ j_=>if i_<0 then(λi_ j_=>([]:List E).getD (i_*7+j_) (.v (.bool false))) i_ j_ else(E.ml (ij r)) (i_-0) j_)) (.row true 46 r.length 7 (kp r)))) ah 
theorem GC{T n n' x:Nat}{t:oZ}{xs:List Iv}{p:Nat}{y:Iv}(hn:n=(iQ t.gX xs p x).length)(wT:n'=(iQ t.gX xs p (x+1)).length)(hy:rA (t.gX.getD x iT) (iQ t.gX xs p x) p=y):
 Bx.le (.row true T (n+[y].length) 7 λi j=>if i<n then kp (iQ t.gX xs p x) i j else(E.ml (ij [y])) (i-n) j) (.row true T n' 7 (kp (iQ t.gX xs p (x+1)))):=by
 subst wT hy;exact agy hn
theorem V9{o:mO}{m:Nat}(h:nB o m):o.n<=16:=by
 have:=h.n;split at this<;>omega
theorem al2(t:oZ)(xs:List Iv)(p:Nat)(h:Ab t)(h1:1<=xs.length)(hx:xs.length=t.iq)(hv:mB xs)(im:8<=p)(ia:p<=512):gW 237 [(yh t),(ij xs),(iP p)] (ij (iQ t.gX xs p t.gX.length)):=by
 have h8:=h.iq;have BF:=h.gX;exact tr true call237 func237 (chain [.c (YF _ af:gW 285 [(yh t)] _),tB 19 (B0 hx:((xs.length:Int) != (t.iq:Int))=false),.cn (Qa _ ae ae:GS 63 [(ij xs)] true 46 xs.length 7 (kp xs)),.s (Sp.jy (YD t xs p) 0 t.gX.length ae (λx hx kn=>by
    have iG:=h.op x ae;have uB:=Cs t.gX hv (show 1<=p by omega) (show p<=4096 by omega) x;have MA:=Cr t.gX xs p x;have w1:=uB ((t.gX.getD x iT)).a;by_cases oz:((t.gX.getD x iT)).kind=1
    .have rh:((t.gX.getD x iT)).kind=1:=oz
     obtain⟨o1,o2,o3,su⟩:=iG.num rh;have w9:rA (t.gX.getD x iT) (iQ t.gX xs p x) p=(nR (t.gX.getD x iT).cn (t.gX.getD x iT).cd p):=by unfold rA;rw[aS rh]
     have uq:=tU (nR (t.gX.getD x iT).cn (t.gX.getD x iT).cd p);exact iC (chain [tT 27 ((x:Int)<t.gX.length) ae,iX ((x:Int)) (t.gX.length) ae,.c (Wa _ ae:gW 287 [(iP ((t.gX.getD x iT).kind:Int))] _),tB 50 (ag:((0:Int)==0)=true),.c (ajw ((t.gX.getD x iT).cn) ((t.gX.getD x iT).cd) p af ae ae),.o 71 (.e (mH _):PV.le (.e (.sl true 1 7 λi_ j_=>(ja (nR ((t.gX.getD x iT).cn) ((t.gX.getD x iT).cd) p)).getD (i_*7+j_) (.v (.bool false)))) (.e (ij [(nR ((t.gX.getD x iT).cn) ((t.gX.getD x iT).cd) p)]))),.a (ae:((iQ t.gX xs p x).length+[(nR ((t.gX.getD x iT).cn) ((t.gX.getD x iT).cd) p)].length)*88<=140737488355328),iu ((x:Int)+1) ae]<|.e (chain [.b 22 (GC rfl rfl w9:Bx.le (.row true 46 ((iQ t.gX xs p x).length+[(nR ((t.gX.getD x iT).cn) ((t.gX.getD x iT).cd) p)].length) 7 (λi_ j_=>if i_<(iQ t.gX xs p x).length then(kp (iQ t.gX xs p x)) i_ j_ else(E.ml (ij [(nR ((t.gX.getD x iT).cn) ((t.gX.getD x iT).cd) p)])) (i_-(iQ t.gX xs p x).length) j_)) (.row true 46 ((iQ t.gX xs p (x+1)).length) 7 (kp (iQ t.gX xs p (x+1)))))]<|.nil)) ah 
    .by_cases hk:((t.gX.getD x iT)).kind<=6
     .have yT:((t.gX.getD x iT)).kind≠1:=oz
      have rh:((t.gX.getD x iT)).kind<=6:=hk;have w9:rA (t.gX.getD x iT) (iQ t.gX xs p x) p=(kF (t.gX.getD x iT) ((iQ t.gX xs p x).getD ((t.gX.getD x iT).a) ig) ((iQ t.gX xs p x).getD ((t.gX.getD x iT).b) ig) p):=by unfold rA G9;rw[aR yT,aT rh];rfl
      obtain⟨o1,o2,o3,o4,o5,o6⟩:=iG.KO yT rh;have w2:=uB ((t.gX.getD x iT)).b;have o7:=iG.Dv;have uq:=tU (kF (t.gX.getD x iT) ((iQ t.gX xs p x).getD ((t.gX.getD x iT).a) ig) ((iQ t.gX xs p x).getD ((t.gX.getD x iT).b) ig) p);exact iC (chain [tT 27 ((x:Int)<t.gX.length) ae,iX ((x:Int)) (t.gX.length) ae,.c (Wb _ ae ae:gW 287 [(iP ((t.gX.getD x iT).kind:Int))] _),tB 50 (ag:((2:Int)==0)=false),tB 56 (ag:((2:Int)==1)=false),iX (((t.gX.getD x iT).a:Int)) ((iQ t.gX xs p x).length) ae,.a (ae:(t.gX.getD x iT).a<(iQ t.gX xs p x).length),iX (((t.gX.getD x iT).b:Int)) ((iQ t.gX xs p x).length) ae,.a (ae:(t.gX.getD x iT).b<(iQ t.gX xs p x).length),.c (P0 (t.gX.getD x iT) _ _ _ af af ae ae ae ae ae:gW 289 [(iP ((t.gX.getD x iT).kind:Int)),(iP ((t.gX.getD x iT).n:Int)),(ib ((iQ t.gX xs p x).getD (t.gX.getD x iT).a ig)),(ib ((iQ t.gX xs p x).getD (t.gX.getD x iT).b ig)),(iP p)] _),.o 71 (.e (mH _):PV.le (.e (.sl true 1 7 λi_ j_=>(ja (kF (t.gX.getD x iT) ((iQ t.gX xs p x).getD (t.gX.getD x iT).a ig) ((iQ t.gX xs p x).getD (t.gX.getD x iT).b ig) p)).getD (i_*7+j_) (.v (.bool false)))) (.e (ij [(kF (t.gX.getD x iT) ((iQ t.gX xs p x).getD (t.gX.getD x iT).a ig) ((iQ t.gX xs p x).getD (t.gX.getD x iT).b ig) p)]))),.a (ae:((iQ t.gX xs p x).length+[(kF (t.gX.getD x iT) ((iQ t.gX xs p x).getD (t.gX.getD x iT).a ig) ((iQ t.gX xs p x).getD (t.gX.getD x iT).b ig) p)].length)*88<=140737488355328),
       iu ((x:Int)+1) ae]<|.e (chain [.b 22 (GC rfl rfl w9:Bx.le (.row true 46 ((iQ t.gX xs p x).length+[(kF (t.gX.getD x iT) ((iQ t.gX xs p x).getD (t.gX.getD x iT).a ig) ((iQ t.gX xs p x).getD (t.gX.getD x iT).b ig) p)].length) 7 (λi_ j_=>if i_<(iQ t.gX xs p x).length then(kp (iQ t.gX xs p x)) i_ j_ else(E.ml (ij [(kF (t.gX.getD x iT) ((iQ t.gX xs p x).getD (t.gX.getD x iT).a ig) ((iQ t.gX xs p x).getD (t.gX.getD x iT).b ig) p)])) (i_-(iQ t.gX xs p x).length) j_)) (.row true 46 ((iQ t.gX xs p (x+1)).length) 7 (kp (iQ t.gX xs p (x+1)))))]<|.nil)) ah 
     .have yT:((t.gX.getD x iT)).kind≠1:=oz
      have rh:¬((t.gX.getD x iT)).kind<=6:=hk;have w9:rA (t.gX.getD x iT) (iQ t.gX xs p x) p=(kF (t.gX.getD x iT) ((iQ t.gX xs p x).getD ((t.gX.getD x iT).a) ig) ig p):=by unfold rA G9;rw[aR yT,aU rh];rfl
      have w2:=mi;have o2:=iG.PI yT;have o7:=iG.Dv;have o8:=V9 iG;have uq:=tU (kF (t.gX.getD x iT) ((iQ t.gX xs p x).getD ((t.gX.getD x iT).a) ig) ig p);exact iC (chain [tT 27 ((x:Int)<t.gX.length) ae,iX ((x:Int)) (t.gX.length) ae,.c (NX _ ae ae:gW 287 [(iP ((t.gX.getD x iT).kind:Int))] _),tB 50 (ag:((1:Int)==0)=false),tB 56 (ag:((1:Int)==1)=true),iX (((t.gX.getD x iT).a:Int)) ((iQ t.gX xs p x).length) ae,.a (ae:(t.gX.getD x iT).a<(iQ t.gX xs p x).length),.o 66 (.e GG:PV.le (.e (.agg [(bP false),(.v (.slice none 0 0)),(iP 0),(bP false),(.v (.slice none 0 0)),(iP 0),(bP true)])) (.e (ib ig))),.c (P0 (t.gX.getD x iT) _ _ _ af af ae ae ae ae ae:gW 289 [(iP ((t.gX.getD x iT).kind:Int)),(iP ((t.gX.getD x iT).n:Int)),(ib ((iQ t.gX xs p x).getD (t.gX.getD x iT).a ig)),(ib ig),(iP p)] _),.o 71 (.e (mH _):PV.le (.e (.sl true 1 7 λi_ j_=>(ja (kF (t.gX.getD x iT) ((iQ t.gX xs p x).getD (t.gX.getD x iT).a ig) ig p)).getD (i_*7+j_) (.v (.bool false)))) (.e (ij [(kF (t.gX.getD x iT) ((iQ t.gX xs p x).getD (t.gX.getD x iT).a ig) ig p)]))),.a (ae:((iQ t.gX xs p x).length+[(kF (t.gX.getD x iT) ((iQ t.gX xs p x).getD (t.gX.getD x iT).a ig) ig p)].length)*88<=140737488355328),iu ((x:Int)+1) ae]<|.e (chain [.b 22 (GC rfl rfl w9:Bx.le (.row true 46 ((iQ t.gX xs p x).length+[(kF (t.gX.getD x iT) ((iQ t.gX xs p x).getD (t.gX.getD x iT).a ig) ig p)].length) 7 (λi_ j_=>if i_<(iQ t.gX xs p x).length then(kp (iQ t.gX xs p x)) i_ j_ else(E.ml (ij [(kF (t.gX.getD x iT) ((iQ t.gX xs p x).getD (t.gX.getD x iT).a ig) ig p)])) (i_-(iQ t.gX xs p x).length) j_)) (.row true 46 ((iQ t.gX xs p (x+1)).length) 7 (kp (iQ t.gX xs p (x+1)))))]<|.nil)) ah)
  (λhx=>by
    exact iC (chain [tF 27 ((t.gX.length:Int)<t.gX.length) ae,.z 22]<|.e (chain [.o 7 (.e (AI aj):PV.le (.e (.sl true ((iQ t.gX xs p t.gX.length).length) 7 (kp (iQ t.gX xs p t.gX.length)))) (.e (ij (iQ t.gX xs p t.gX.length))))]<|.nil)) ah) ak:jv 5 f237 (YD t xs p 0) (.exit 0) ⟨75,true,[(7,.e (ij (iQ t.gX xs p t.gX.length)))],[]⟩) (chain [.b 22 (.iS rfl:Bx.le (.row true 46 xs.length 7 (kp xs)) (.row true 46 ((iQ t.gX xs p 0).length) 7 (kp (iQ t.gX xs p 0))))]<|.nil)]<|.nil) ah 
def oc(m:List (List Iv)):Nat->List Iv
 | 0=>[]
 |k+1=>oc m k++m.getD k []
theorem K4(m:List (List Iv))(k:Nat):(oc m (k+1)).length=(oc m k).length+(m.getD k []).length:=by simp[oc]
theorem agx{T n n':Nat}{xs r:List Iv}(hn:n=xs.length)(wT:n'=(xs++r).length):Bx.le (.row true T (n+r.length) 7 λi j=>if i<n then kp xs i j else(E.ml (ij r)) (i-n) j) (.row true T n' 7 (kp (xs++r))):=by
 subst hn wT;refine .row aj λi j hi hj=>⟨.iS ?_,Dt _ _ hj⟩
 by_cases h:i<xs.length
 .rw [aS h]
  show(ja (xs.getD i ig)).getD j .any=(ja ((xs++r).getD i ig)).getD j .any;congr 2;simp[aW,dL h]
 .rw [aR h]
  show(ja (r.getD (i-xs.length) ig)).getD j .any=(ja ((xs++r).getD i ig)).getD j .any;congr 2;simp[aW,ej (show xs.length<=i by omega)]
theorem Vo(a b:List Iv):E.le (.sl true 2 1 λi j=>[ij a,ij b].getD (i*1+j) (.v (.bool false))) (qh [a,b]):=.sl λi j hi hj=>by
 obtain rfl:j=0:= ae ;obtain rfl|rfl:i=0\/i=1:= ae 
 all_goals exact⟨.refl _,rfl⟩
theorem XH{n:Nat}:E.le (.sl true n 1 λk _=>.sl true ((λ_=>0) k) 7 ((λ_ _ _=>.any) k)) (qh (List.replicate n [])):=by
 have h:qh (List.replicate n []) = .sl true n 1 λi _=>ij ((List.replicate n []).getD i []):=by unfold qh;rw[List.length_replicate]
 rw[h];refine .sl λi j hi hj=>⟨?_,rfl⟩
 have e:(List.replicate n ([]:List Iv)).getD i []=[]:=by simp[aW,hi]
 rw[e];exact .sl λq _ hq _=>absurd hq (bk _)
def QU(m:List (List Iv))(x:Nat):PS:=⟨36,true,[(11,.e (iP x)),(10,.e (iP m.length)),(9,.e (qh m)),(3,.e (iP ((oc m x).length:Int))),(0,.e (qh m))],[]⟩
def QV(m:List (List Iv))(x:Nat):PS:=⟨36,true,[(27,.e (iP x)),(26,.e (iP m.length)),(25,.e (qh m)),(6,.own 24)],[(24,.row true 46 ((oc m x).length) 7 (kp (oc m x)))]⟩
noncomputable def SC(t:oZ)(xs:List Iv)(p:Nat)(x:Nat):PS:=⟨91,true,[(43,.e (iP x)),(42,.e (iP 0)),(11,.own 41),(10,.e (ij (iQ t.gX xs p t.gX.length))),(4,.box 4 0),(3,.e (iP p))],[(41,.qm true 26 46 t.ik.length 7 (λ_=>0) (λ_ _ _=>.any) .none),(4,.cells 25 [(iP t.iq),(nJ t.gX),(nI t.ik)])]⟩
noncomputable def SB(t:oZ)(xs:List Iv)(p:Nat)(x:Nat):PS:=⟨91,true,[(16,.own 16),(77,.e (iP x)),(76,.e (iP t.ik.length)),(75,.e (nI t.ik)),(11,.own 41),(10,.e (ij (iQ t.gX xs p t.gX.length)))],[(16,.row true 46 x 7 (kp ((List.range x).map (λj_=>(iQ t.gX xs p t.gX.length).getD (t.ik.getD j_ 0) ig)))),(41,.qm true 26 46 t.ik.length 7 (λ_=>0) (λ_ _ _=>.any) .none)]⟩
theorem ab3(m:List (List Iv))(hl:m.length<=1000)(hb:∀ k,k<=m.length->(oc m k).length<=1000):gW 162 [(qh m)] (ij (oc m m.length)):=by
 have nn:=hb m.length (aV _);exact tr true call162 func162 (chain [.s (Sp.jy (QU m) 0 m.length ae (λx hx kn=>by
    have jb:=hb (x+1) ae;rw[K4]at jb;exact iC (chain [tT 12 ((x:Int)<m.length) ae,iX ((x:Int)) (m.length) ae,iu (((oc m x).length:Int)+((m.getD x []).length:Int)) ae,tF 20 (((((oc m x).length+(m.getD x []).length):Nat):Int)<0) ae,iu ((x:Int)+1) ae]<|.e (chain [.o 3 (.int (by rw[K4]):PV.le (.e (iP ((((oc m x).length+(m.getD x []).length):Nat):Int))) (.e (iP ((oc m (x+1)).length:Int))))]<|.nil)) ah)
  (λhx=>by
    exact iC (chain [tF 12 ((m.length:Int)<m.length) ae]<|.nil) ah) ak:jv 3 f162 (QU m 0) (.exit 0) ⟨36,true,[(3,.e (iP ((oc m m.length).length:Int))),(0,.e (qh m))],[]⟩) (chain [.o 3 (.int rfl:PV.le (.e (iP 0)) (.e (iP ((oc m 0).length:Int))))]<|.nil),.cn (aeV _ ae:GS 239 [(.v (.slice none 0 0)),(iP ((oc m m.length).length:Int))] true 46 0 7 (kp [])),.s (Sp.jy (QV m) 0 m.length ae (λx hx kn=>by
    have jb:=hb (x+1) ae;rw[K4]at jb;exact iC (chain [tT 28 ((x:Int)<m.length) ae,iX ((x:Int)) (m.length) ae,.a (ae:((oc m x).length+(m.getD x []).length)*88<=140737488355328),iu ((x:Int)+1) ae]<|.e (chain [.b 24 (agx rfl rfl:Bx.le (.row true 46 ((oc m x).length+(m.getD x []).length) 7 (λi_ j_=>if i_<(oc m x).length then(kp (oc m x)) i_ j_ else(E.ml (ij (m.getD x []))) (i_-(oc m x).length) j_)) (.row true 46 ((oc m (x+1)).length) 7 (kp (oc m (x+1)))))]<|.nil)) ah)
  (λhx=>by
    exact iC (chain [tF 28 ((m.length:Int)<m.length) ae,.z 24]<|.e (chain [.o 6 (.e (AI aj):PV.le (.e (.sl true ((oc m m.length).length) 7 (kp (oc m m.length)))) (.e (ij (oc m m.length))))]<|.nil)) ah) ak:jv 11 f162 (QV m 0) (.exit 2) ⟨36,true,[(6,.e (ij (oc m m.length)))],[]⟩) (chain [.b 24 (.iS rfl:Bx.le (.row true 46 0 7 (kp [])) (.row true 46 ((oc m 0).length) 7 (kp (oc m 0))))]<|.nil)]<|.nil) ah 
theorem Rc(a b:List Iv)(ha:a.length<=400)(hb:b.length<=400):gW 162 [qh [a,b]] (ij (a++b)):=by
 have e1:oc [a,b] 1=a:=rfl;have e2:oc [a,b] 2=a++b:=rfl;have:=ab3 [a,b] aj λk hk=>by
  have hk:k<=2:=hk;rcases k with _|_|_|k
  .exact bN _
  .rw [e1];omega
  .rw [e2,ch];omega
  .omega
 rwa[show[a,b].length=2 from rfl,e2]at this
theorem LN(p:Int):gW 160 [(iP p)] (bP (lE p)):=
 tr true call160 func160 (.w (8<=p)
  (λk1=>chain [tB 4 (aT k1)]<|rQ (bP (decide (p<=512))) (bP (lE p)) (by unfold lE;simp[k1]))
  (λk1=>chain [tB 4 (aU k1)]<|rQ (bP false) (bP (lE p)) (by unfold lE;simp[k1]))) ah 
theorem aef(x:Iv)(hx:x.ic):gW 286 [(ib x)] (bP false):=
 tr true call286 func286 (chain [.c (qY x af)]<|.nil) ah 
theorem aeg(t:oZ)(xs:List Iv)(p:Nat)(h:Ab t)(h1:1<=xs.length)(hx:xs.length=t.iq)(hv:mB xs)(im:8<=p)(ia:p<=512):gW 236 [(yh t),(ij xs),(iP p)] (bP true):=by
 have h8:=h.iq;exact tr true call236 func236 (chain [.c (YF t af),tB 14 (DF hx:((xs.length:Int)==t.iq)=true),.c (LN _:gW 160 [(iP p)] _),tB 18 (pn.2 ⟨ae,ae⟩:(lE (p:Int))=true),.c (BT true _ _ 286 [] (λ_=>false) (λi hi=>aef _ (hv i)) ae (λ_ _=>rfl):gW 40 [(ij xs),(.fn 286 [])] _)]<|.nil) ah 
theorem Si(t:oZ)(xs:List Iv)(p:Nat):(List.range t.ik.length).map (λj=>(iQ t.gX xs p t.gX.length).getD (t.ik.getD j 0) ig)=iW t xs p:=by
 unfold iW;apply eX;intro i;rw[cj,cj];by_cases hi:i<t.ik.length
 .rw [bg (by simpa using hi),bg hi]
  simp[aW,hi]
 .rw [bT (by simpa using hi),bT ae]
  rfl
theorem SD(t:oZ)(xs:List Iv)(p:Nat)(h:Ab t)(h1:1<=xs.length)(hx:xs.length=t.iq)(hv:mB xs)(im:8<=p)(ia:p<=512):gW 161 [(yh t),(ij xs),(iP 0),(iP p)] (.ix [ij (iW t xs p),qh (List.replicate t.ik.length [])]):=by
 have h8:=h.iq;have BF:=h.gX;have mZ:=h.ik;exact tr true call161 func161 (chain [.c (aeg _ _ _ h h1 hx hv ae ae:gW 236 [(yh t),(ij xs),(iP p)] _),tB 26 (ag:(decide ((0:Int)<0))=false),tF 32 ((t.iq:Int)<0) ae,.c (al2 t xs p h h1 hx hv ae ae),.a (ae:0<=((t.ik.length:Int):Int)/\((t.ik.length:Int):Int)<=((t.ik.length:Int):Int)),.a (ae:((24:Nat):Int)*(t.ik.length:Int)<=281474976710656/\((t.ik.length:Int):Int)<=9223372036854775807),.s (Sp.jy (SC t xs p) 0 0 ae (λx hx kn=>by
    exact absurd kn (bk _))
  (λhx=>by
    exact iC (chain [tB 44 (ag:(decide ((0:Int)<0))=false)]<|.nil) ah) ak:jv 6 f161 (SC t xs p 0) (.exit 0) ⟨91,true,[(11,.own 41),(10,.e (ij (iQ t.gX xs p t.gX.length))),(4,.box 4 0)],[(41,.qm true 26 46 t.ik.length 7 (λ_=>0) (λ_ _ _=>.any) .none),(4,.cells 25 [(iP t.iq),(nJ t.gX),(nI t.ik)])]⟩) .nil,.y 16 16 true 46 7 (kp ((List.range 0).map (λj_=>(iQ t.gX xs p t.gX.length).getD (t.ik.getD j_ 0) ig))),.s (Sp.jy (SB t xs p) 0 t.ik.length ae (λx hx kn=>by
    have hot:=h.out x ae;have MA:=Cr t.gX xs p t.gX.length;have uq:=tU ((iQ t.gX xs p t.gX.length).getD (t.ik.getD x 0) ig);exact iC (chain [tT 78 ((x:Int)<t.ik.length) ae,iX ((x:Int)) (t.ik.length) ae,iX ((t.ik.getD x 0:Int)) ((iQ t.gX xs p t.gX.length).length) ae,.o 86 (.e (mH _):PV.le (.e (.sl true 1 7 λi_ j_=>(ja ((iQ t.gX xs p t.gX.length).getD (t.ik.getD x 0) ig)).getD (i_*7+j_) (.v (.bool false)))) (.e (ij [((iQ t.gX xs p t.gX.length).getD (t.ik.getD x 0) ig)]))),.a (ae:(x+[((iQ t.gX xs p t.gX.length).getD (t.ik.getD x 0) ig)].length)*88<=140737488355328),iu ((x:Int)+1) ae]<|.e (chain [.b 16 (ze rfl rfl rfl:Bx.le (.row true 46 (x+[((iQ t.gX xs p t.gX.length).getD (t.ik.getD x 0) ig)].length) 7 (λi_ j_=>if i_<x then(kp ((List.range x).map (λj_=>(iQ t.gX xs p t.gX.length).getD (t.ik.getD j_ 0) ig))) i_ j_ else(E.ml (ij [((iQ t.gX xs p t.gX.length).getD (t.ik.getD x 0) ig)])) (i_-x) j_)) (.row true 46 (x+1) 7 (kp ((List.range (x+1)).map (λj_=>(iQ t.gX xs p t.gX.length).getD (t.ik.getD j_ 0) ig)))))]<|.nil)) ah)
  (λhx=>by
    exact iC (chain [tF 78 ((t.ik.length:Int)<t.ik.length) ae,.z 16]<|.e (chain [.o 16 (.e (AI aj):PV.le (.e (.sl true t.ik.length 7 (kp ((List.range t.ik.length).map (λj_=>(iQ t.gX xs p t.gX.length).getD (t.ik.getD j_ 0) ig))))) (.e (ij ((List.range t.ik.length).map (λj_=>(iQ t.gX xs p t.gX.length).getD (t.ik.getD j_ 0) ig)))))]<|.nil)) ah) ak:jv 17 f161 (SB t xs p 0) (.exit 4) ⟨91,true,[(16,.e (ij ((List.range t.ik.length).map (λj_=>(iQ t.gX xs p t.gX.length).getD (t.ik.getD j_ 0) ig)))),(11,.own 41)],[(41,.qm true 26 46 t.ik.length 7 (λ_=>0) (λ_ _ _=>.any) .none)]⟩) .nil]<|rR (.ix [ij (iW t xs p),qh (List.replicate t.ik.length [])]) (.ix (.cons (.iS (by rw[Si])) (.cons XH .nil)):E.le (.ix [(ij ((List.range t.ik.length).map (λj_=>(iQ t.gX xs p t.gX.length).getD (t.ik.getD j_ 0) ig))),(.sl true t.ik.length 1 λk_ _=>.sl true ((λ_=>0) k_) 7 ((λ_ _ _=>.any) k_))]) (.ix [ij (iW t xs p),qh (List.replicate t.ik.length [])]))) ah 
theorem aeb(x:Iv):gW 235 [(ib x)] (bP x.all):=
 tr true call235 func235 (.nil) ah 
theorem EJ(l:List Iv)(hl:l.length<=1000):gW 158 [(ij l)] (bP (mV l)):=
 tr true call158 func158 (chain [.c (Ni true _ _ 235 [] (λi=>(l.getD i ig).all) (λi hi=>aeb _) ae:gW 40 [(ij l),(.fn 235 [])] _)]<|.nil) ah 
theorem Sy(x:Iv)(hx:x.ic):gW 159 [(ib x)] (bP false):=
 tr true call159 func159 (chain [.c (qY x af)]<|.nil) ah 
theorem ake(n:Nat)(hn:n<=1000):gW 163 [qh (List.replicate n []),.fn 158 []] (bP false):=by
 have e:∀ i,i<n->(List.replicate n ([]:List Iv)).getD i []=[]:=λi hi=>by simp[aW,hi]
 refine akx true _ _ 158 [] (λ_=>false) (λi hi=>?_) (by simpa using by omega) (λ_ _=>rfl);have oH:i<n:=by simpa using hi
 show gW 158 [ij ((List.replicate n []).getD i [])] _;rw[e i oH];exact EJ [] aj 
theorem VX{l:List Iv}(h:oQ l):mV l=false:=by
 unfold mV;rw[dM];intro i hi;rw[(h i (bI.1 hi)).2];decide
theorem yE{s:kV}{b:List Iv}(h:mI s)(hb:ke s.iA b):Ab s.tape/\1<=(b++s.params).length/\(b++s.params).length=s.tape.iq/\mB (b++s.params):=by
 have h1:=h.s1;have h2:=h.iq;have h3:=hb.len;refine⟨h.tape,?_,?_,hb.ok.yl.append h.params.yl⟩
 .rw [ch];omega
 .rw [ch];omega
theorem aec(s:kV)(b:List Iv)(p:Nat)(h:mI s)(hb:ke s.iA b)(im:8<=p)(ia:p<=512)(hn:mV (iW s.tape (b++s.params) p)=true):gW 88 [(jj s),(ij b),(iP 0),(iP p)] (.ix [.v (.slice none 0 0),.v (.slice none 0 0),iP 11]):=by
 have s4:=h.s4;have p4:=h.p4;have um:=hb.len;have mZ:=h.tape.ik;have BD:=VX hb.ok;have xJ:=xA s.tape (b++s.params) p;obtain⟨f1,f2,f3,f4⟩:=yE h hb;exact tr true call88 func88 (chain [.c (O8 s af),tB 21 (B0 hb.len:((b.length:Int) != (s.iA:Int))=false),.c (EJ _ ae:gW 158 [(ij b)] _),tB 25 (BD:(mV b)=false),.c (BT true _ _ 159 [] (λ_=>false) (λi hi=>Sy _ (hb.ok i hi).1) ae (λ_ _=>rfl):gW 40 [(ij b),(.fn 159 [])] _),.c (LN _:gW 160 [(iP p)] _),tB 32 (pn.2 ⟨ae,ae⟩:(lE (p:Int))=true),.o 40 (.e (Vo _ _):PV.le (.e (.sl true 2 1 λi_ j_=>[(ij b),(ij s.params)].getD (i_*1+j_) (.v (.bool false)))) (.e (qh [b,s.params]))),.c (Rc b s.params ae ae:gW 162 [(qh [b,s.params])] _),.c (SD _ _ _ f1 f2 f3 f4 ae ae:gW 161 [(yh s.tape),(ij (b++s.params)),(iP 0),(iP p)] _),.c (EJ _ ae:gW 158 [(ij (iW s.tape (b++s.params) p))] _),tB 48 (hn:(mV (iW s.tape (b++s.params) p))=true)]<|.nil) ah 
theorem aed(s:kV)(b:List Iv)(p:Nat)(h:mI s)(hb:ke s.iA b)(im:8<=p)(ia:p<=512)(hn:mV (iW s.tape (b++s.params) p)=false):gW 88 [(jj s),(ij b),(iP 0),(iP p)] (.ix [ij (iW s.tape (b++s.params) p),qh (List.replicate s.tape.ik.length []),iP 0]):=by
 have s4:=h.s4;have p4:=h.p4;have um:=hb.len;have mZ:=h.tape.ik;have BD:=VX hb.ok;have xJ:=xA s.tape (b++s.params) p;obtain⟨f1,f2,f3,f4⟩:=yE h hb;exact tr true call88 func88 (chain [.c (O8 s af),tB 21 (B0 hb.len:((b.length:Int) != (s.iA:Int))=false),.c (EJ _ ae:gW 158 [(ij b)] _),tB 25 (BD:(mV b)=false),.c (BT true _ _ 159 [] (λ_=>false) (λi hi=>Sy _ (hb.ok i hi).1) ae (λ_ _=>rfl):gW 40 [(ij b),(.fn 159 [])] _),.c (LN _:gW 160 [(iP p)] _),tB 32 (pn.2 ⟨ae,ae⟩:(lE (p:Int))=true),.o 40 (.e (Vo _ _):PV.le (.e (.sl true 2 1 λi_ j_=>[(ij b),(ij s.params)].getD (i_*1+j_) (.v (.bool false)))) (.e (qh [b,s.params]))),.c (Rc b s.params ae ae:gW 162 [(qh [b,s.params])] _),.c (SD _ _ _ f1 f2 f3 f4 ae ae:gW 161 [(yh s.tape),(ij (b++s.params)),(iP 0),(iP p)] _),.c (EJ _ ae:gW 158 [(ij (iW s.tape (b++s.params) p))] _),tB 48 (hn:(mV (iW s.tape (b++s.params) p))=false),.c (ake _ ae:gW 163 [(qh (List.replicate s.tape.ik.length [])),(.fn 158 [])] _)]<|.nil) ah 
theorem aee(s:kV)(b:List Iv)(p:Nat)(h:mI s)(hb:ke s.iA b)(im:8<=p)(ia:p<=512)(hn:mV (iW s.tape (b++s.params) p)=true):gW 114 [(jj s),(ij b),(iP p)] (.ix [.v (.slice none 0 0),iP 11]):=
 tr true call114 func114 (chain [.c (aec _ _ _ h hb im ia hn:gW 88 [(jj s),(ij b),(iP 0),(iP p)] _)]<|.nil) ah 
theorem Sz(s:kV)(b:List Iv)(p:Nat)(h:mI s)(hb:ke s.iA b)(im:8<=p)(ia:p<=512)(hn:mV (iW s.tape (b++s.params) p)=false):gW 114 [(jj s),(ij b),(iP p)] (.ix [ij (iW s.tape (b++s.params) p),iP 0]):=
 tr true call114 func114 (chain [.c (aed _ _ _ h hb im ia hn:gW 88 [(jj s),(ij b),(iP 0),(iP p)] _)]<|.nil) ah 
noncomputable def Ut(s:kV)(x:List Iv)(d:Dy)(b:List Iv)(p:Nat)(N:Nat)(i:Nat):PS:=⟨66,true,[(14,.own 14),(42,.e (iP i)),(41,.e (iP x.length)),(13,.box 13 0),(11,.e (ij (iW s.tape (b++s.params) p))),(1,.e (ij x)),(4,.e (iP p))],[(14,.row true 46 i 7 (kp ((List.range i).map (λj_=>(jl (x.getD j_ ig) (iO (jW d) ((iW s.tape (b++s.params) p).getD j_ ig) p) p))))),(13,.cells 46 ([(bP false),(.v (.slice none 0 0)),(iP 0)]++jr d++[(bP false)]))]⟩
noncomputable def Uu(s:kV)(x:List Iv)(d:Dy)(b:List Iv)(p:Nat)(i:Nat):PS:=⟨66,true,[(14,.own 14),(42,.e (iP i)),(41,.e (iP x.length)),(13,.box 13 0),(11,.e (ij (iW s.tape (b++s.params) p))),(1,.e (ij x)),(4,.e (iP p))],[(14,.row true 46 i 7 (kp ((List.range i).map (λj_=>(jl (x.getD j_ ig) (iO (jW d) ((iW s.tape (b++s.params) p).getD j_ ig) p) p))))),(13,.cells 46 ([(bP false),(.v (.slice none 0 0)),(iP 0)]++jr d++[(bP false)]))]⟩
def RR(s:kV)(x:List Iv)(d:Dy)(p:Nat)(N:Nat)(k:Nat):PS:=⟨55,true,[(22,.e (iP k)),(10,.tu 108 [(.box 5),(.box 4),(.box 6),(.box 7)]),(7,.box 7 0),(6,.box 6 0),(5,.box 5 0),(4,.box 4 0)],[(7,.cells 3 [(iP p)]),(6,.cells 39 (jr d)),(5,.cells 26 [(ij x)]),(4,.cells 28 [(iP s.tape.iq),(nJ s.tape.gX),(nI s.tape.ik),(iP s.iA),(ij s.params)])]⟩
theorem aaG(x:Iv)(hx:x.ic)(xa:x.all=false):gW 187 [(ib x)] (bP false):=
 tr true call187 func187 (chain [.c (qY x af),tB 8 (xa:x.all=false)]<|.nil) ah 
theorem G8(s:kV)(b:List Iv)(hb:ke s.iA b)(h4:s.iA<=4):gW 113 [(jj s),(ij b)] (bP true):=by
 have um:=hb.len;exact tr true call113 func113 (chain [tB 9 (DF hb.len:((b.length:Int)==s.iA)=true),.c (BT true _ _ 187 [] (λ_=>false) (λi hi=>aaG _ (hb.ok i hi).1 (hb.ok i hi).2) ae (λ_ _=>rfl):gW 40 [(ij b),(.fn 187 [])] _)]<|.nil) ah 
theorem Ik(s:kV)(x:List Iv)(d:Dy)(p:Nat)(h:mI s)(hx:ke s.iA x)(hd:d.ic)(h0:0<d.iK)(im:8<=p)(ia:p<=512):gW 107 [(jj s),(ij x),(gZ d),(iP p)] (bP true):=by
 have s4:=h.s4;exact tr true call107 func107 (chain [.c (O8 s af),.c (G8 _ _ hx ae:gW 113 [(jj s),(ij x)] _),.c (qu _ af:gW 92 [(gZ d)] _),.c (og _ af:gW 46 [(gZ d)] _),tB 23 (aT h0),tT 27 (8<=(p:Int)) ae,tT 31 ((p:Int)<=512) ae]<|.nil) ah 
theorem afS(s:kV)(x:List Iv)(d:Dy)(b:List Iv)(p:Nat)(h:mI s)(hx:ke s.iA x)(hd:d.ic)(h0:0<d.iK)(hb:ke s.iA b)(im:8<=p)(ia:p<=512)(hn:mV (iW s.tape (b++s.params) p)=true):gW 64 [(jj s),(ij x),(gZ d),(ij b),(iP p)] (.v (.slice none 0 0)):=by
 have s4:=h.s4;exact tr true call64 func64 (chain [.c (Ik _ _ _ _ h hx hd h0 im ia:gW 107 [(jj s),(ij x),(gZ d),(iP p)] _),.c (G8 _ _ hb s4:gW 113 [(jj s),(ij b)] _),.c (aee s b p h hb im ia hn),tB 37 (ag:((11:Int) != 0)=true)]<|.nil) ah 
theorem D5(d:Dy):E.le (.agg ([bP false,.v (.slice none 0 0),iP 0]++jr d++[bP false])) (ib (jW d)):=
 .agg (.cons (.refl _) (.cons AN (.cons (.refl _) (.cons (.refl _) (.cons (.refl _) (.cons (.refl _) (.cons (.refl _) .nil)))))))
theorem afT(s:kV)(x:List Iv)(d:Dy)(b:List Iv)(p:Nat)(h:mI s)(hx:ke s.iA x)(hd:d.ic)(h0:0<d.iK)(hb:ke s.iA b)(im:8<=p)(ia:p<=512)(hn:mV (iW s.tape (b++s.params) p)=false)(N:Nat)(mz:N<x.length)(iI:∀ i,i<N->(jl (x.getD i ig) (iO (jW d) ((iW s.tape (b++s.params) p).getD i ig) p) p).all=false)(hN:(jl (x.getD N ig) (iO (jW d) ((iW s.tape (b++s.params) p).getD N ig) p) p).all=true):gW 64 [(jj s),(ij x),(gZ d),(ij b),(iP p)] (.v (.slice none 0 0)):=by
 have s4:=h.s4;have vC:=hx.len;have mZ:=h.ik;have xJ:=xA s.tape (b++s.params) p;obtain⟨f1,f2,f3,f4⟩:=yE h hb;have fv:=Al s.tape f4 (show 1<=p by omega) (show p<=4096 by omega);have hq:0<d.q:=(oD d).1.1 h0;have MN:=Cl hd (bw hq);exact tr true call64 func64 (chain [.c (Ik _ _ _ _ h hx hd h0 im ia:gW 107 [(jj s),(ij x),(gZ d),(iP p)] _),.c (G8 _ _ hb s4:gW 113 [(jj s),(ij b)] _),.c (Sz s b p h hb im ia hn),tB 37 (ag:((0:Int) != 0)=false),.y 14 14 true 46 7 (kp ((List.range 0).map (λj_=>(jl (x.getD j_ ig) (iO (jW d) ((iW s.tape (b++s.params) p).getD j_ ig) p) p)))),.s (Sp.jy (Ut s x d b p N) 0 N ae (λi hi pN=>by
    have w1:=(hx.ok i ae).1;have w2:=fv i;have w3:=qj (jW d) ((iW s.tape (b++s.params) p).getD i ig) (show 1<=p by omega) (show p<=4096 by omega);have uq:=tU (jl (x.getD i ig) (iO (jW d) ((iW s.tape (b++s.params) p).getD i ig) p) p);exact iC (chain [tT 43 ((i:Int)<x.length) ae,iX ((i:Int)) (x.length) ae,.o 49 (.e (D5 d):PV.le (.e (.agg ([(bP false),(.v (.slice none 0 0)),(iP 0)]++jr d++[(bP false)]))) (.e (ib (jW d)))),iX ((i:Int)) ((iW s.tape (b++s.params) p).length) ae,.c (Fv (jW d) ((iW s.tape (b++s.params) p).getD i ig) p af af ae ae),.c (Ds (x.getD i ig) (iO (jW d) ((iW s.tape (b++s.params) p).getD i ig) p) p af af ae ae),tB 59 (iI i ae:(jl (x.getD i ig) (iO (jW d) ((iW s.tape (b++s.params) p).getD i ig) p) p).all=false),.o 62 (.e (mH _):PV.le (.e (.sl true 1 7 λi_ j_=>(ja (jl (x.getD i ig) (iO (jW d) ((iW s.tape (b++s.params) p).getD i ig) p) p)).getD (i_*7+j_) (.v (.bool false)))) (.e (ij [(jl (x.getD i ig) (iO (jW d) ((iW s.tape (b++s.params) p).getD i ig) p) p)]))),.a (ae:(i+[(jl (x.getD i ig) (iO (jW d) ((iW s.tape (b++s.params) p).getD i ig) p) p)].length)*88<=140737488355328),iu ((i:Int)+1) ae]<|.e (chain [.b 14 (ze rfl rfl rfl:Bx.le (.row true 46 (i+[(jl (x.getD i ig) (iO (jW d) ((iW s.tape (b++s.params) p).getD i ig) p) p)].length) 7 (λi_ j_=>if i_<i then(kp ((List.range i).map (λj_=>(jl (x.getD j_ ig) (iO (jW d) ((iW s.tape (b++s.params) p).getD j_ ig) p) p)))) i_ j_ else(E.ml (ij [(jl (x.getD i ig) (iO (jW d) ((iW s.tape (b++s.params) p).getD i ig) p) p)])) (i_-i) j_)) (.row true 46 (i+1) 7 (kp ((List.range (i+1)).map (λj_=>(jl (x.getD j_ ig) (iO (jW d) ((iW s.tape (b++s.params) p).getD j_ ig) p) p))))))]<|.nil)) ah)
  (λhi=>by
    have w1:=(hx.ok N ae).1;have w2:=fv N;have w3:=qj (jW d) ((iW s.tape (b++s.params) p).getD N ig) (show 1<=p by omega) (show p<=4096 by omega);exact iC (chain [tT 43 ((N:Int)<x.length) ae,iX ((N:Int)) (x.length) ae,.o 49 (.e (D5 d):PV.le (.e (.agg ([(bP false),(.v (.slice none 0 0)),(iP 0)]++jr d++[(bP false)]))) (.e (ib (jW d)))),iX ((N:Int)) ((iW s.tape (b++s.params) p).length) ae,.c (Fv (jW d) ((iW s.tape (b++s.params) p).getD N ig) p af af ae ae),.c (Ds (x.getD N ig) (iO (jW d) ((iW s.tape (b++s.params) p).getD N ig) p) p af af ae ae),tB 59 (hN:(jl (x.getD N ig) (iO (jW d) ((iW s.tape (b++s.params) p).getD N ig) p) p).all=true)]<|.nil) ah) ak:jv 9 Tryz.f64 (Ut s x d b p N 0) .ret ⟨66,true,[(10,.e (.v (.slice none 0 0)))],[]⟩) .nil]<|.nil) ah 
theorem afU(s:kV)(x:List Iv)(d:Dy)(b:List Iv)(p:Nat)(h:mI s)(hx:ke s.iA x)(hd:d.ic)(h0:0<d.iK)(hb:ke s.iA b)(im:8<=p)(ia:p<=512)(hn:mV (iW s.tape (b++s.params) p)=false)(iI:∀ i,i<x.length->(jl (x.getD i ig) (iO (jW d) ((iW s.tape (b++s.params) p).getD i ig) p) p).all=false):gW 64 [(jj s),(ij x),(gZ d),(ij b),(iP p)] (ij ((List.range x.length).map (λj_=>(jl (x.getD j_ ig) (iO (jW d) ((iW s.tape (b++s.params) p).getD j_ ig) p) p)))):=by
 have s4:=h.s4;have vC:=hx.len;have mZ:=h.ik;have xJ:=xA s.tape (b++s.params) p;obtain⟨f1,f2,f3,f4⟩:=yE h hb;have fv:=Al s.tape f4 (show 1<=p by omega) (show p<=4096 by omega);have hq:0<d.q:=(oD d).1.1 h0;have MN:=Cl hd (bw hq);exact tr true call64 func64 (chain [.c (Ik _ _ _ _ h hx hd h0 im ia:gW 107 [(jj s),(ij x),(gZ d),(iP p)] _),.c (G8 _ _ hb s4:gW 113 [(jj s),(ij b)] _),.c (Sz s b p h hb im ia hn),tB 37 (ag:((0:Int) != 0)=false),.y 14 14 true 46 7 (kp ((List.range 0).map (λj_=>(jl (x.getD j_ ig) (iO (jW d) ((iW s.tape (b++s.params) p).getD j_ ig) p) p)))),.s (Sp.jy (Uu s x d b p) 0 x.length ae (λi hi pN=>by
    have w1:=(hx.ok i ae).1;have w2:=fv i;have w3:=qj (jW d) ((iW s.tape (b++s.params) p).getD i ig) (show 1<=p by omega) (show p<=4096 by omega);have uq:=tU (jl (x.getD i ig) (iO (jW d) ((iW s.tape (b++s.params) p).getD i ig) p) p);exact iC (chain [tT 43 ((i:Int)<x.length) ae,iX ((i:Int)) (x.length) ae,.o 49 (.e (D5 d):PV.le (.e (.agg ([(bP false),(.v (.slice none 0 0)),(iP 0)]++jr d++[(bP false)]))) (.e (ib (jW d)))),iX ((i:Int)) ((iW s.tape (b++s.params) p).length) ae,.c (Fv (jW d) ((iW s.tape (b++s.params) p).getD i ig) p af af ae ae),.c (Ds (x.getD i ig) (iO (jW d) ((iW s.tape (b++s.params) p).getD i ig) p) p af af ae ae),tB 59 (iI i ae:(jl (x.getD i ig) (iO (jW d) ((iW s.tape (b++s.params) p).getD i ig) p) p).all=false),.o 62 (.e (mH _):PV.le (.e (.sl true 1 7 λi_ j_=>(ja (jl (x.getD i ig) (iO (jW d) ((iW s.tape (b++s.params) p).getD i ig) p) p)).getD (i_*7+j_) (.v (.bool false)))) (.e (ij [(jl (x.getD i ig) (iO (jW d) ((iW s.tape (b++s.params) p).getD i ig) p) p)]))),.a (ae:(i+[(jl (x.getD i ig) (iO (jW d) ((iW s.tape (b++s.params) p).getD i ig) p) p)].length)*88<=140737488355328),iu ((i:Int)+1) ae]<|.e (chain [.b 14 (ze rfl rfl rfl:Bx.le (.row true 46 (i+[(jl (x.getD i ig) (iO (jW d) ((iW s.tape (b++s.params) p).getD i ig) p) p)].length) 7 (λi_ j_=>if i_<i then(kp ((List.range i).map (λj_=>(jl (x.getD j_ ig) (iO (jW d) ((iW s.tape (b++s.params) p).getD j_ ig) p) p)))) i_ j_ else(E.ml (ij [(jl (x.getD i ig) (iO (jW d) ((iW s.tape (b++s.params) p).getD i ig) p) p)])) (i_-i) j_)) (.row true 46 (i+1) 7 (kp ((List.range (i+1)).map (λj_=>(jl (x.getD j_ ig) (iO (jW d) ((iW s.tape (b++s.params) p).getD j_ ig) p) p))))))]<|.nil)) ah)
  (λhi=>by
    exact iC (chain [tF 43 ((x.length:Int)<x.length) ae,.z 14]<|.e (chain [.o 14 (.e (AI aj):PV.le (.e (.sl true x.length 7 (kp ((List.range x.length).map (λj_=>(jl (x.getD j_ ig) (iO (jW d) ((iW s.tape (b++s.params) p).getD j_ ig) p) p)))))) (.e (ij ((List.range x.length).map (λj_=>(jl (x.getD j_ ig) (iO (jW d) ((iW s.tape (b++s.params) p).getD j_ ig) p) p))))))]<|.nil)) ah) ak:jv 9 Tryz.f64 (Uu s x d b p 0) (.exit 0) ⟨66,true,[(14,.e (ij ((List.range x.length).map (λj_=>(jl (x.getD j_ ig) (iO (jW d) ((iW s.tape (b++s.params) p).getD j_ ig) p) p)))))],[]⟩) .nil]<|.nil) ah 
theorem Fs(s:kV)(x:List Iv)(d:Dy)(b:List Iv)(p:Nat)(h:mI s)(hx:ke s.iA x)(hd:d.ic)(h0:0<d.iK)(hb:ke s.iA b)(im:8<=p)(ia:p<=512):gW 64 [(jj s),(ij x),(gZ d),(ij b),(iP p)] (ij (lf s x d b p)):=by
 unfold lf;cases hn:mV (iW s.tape (b++s.params) p)with
 |true=>rw[aS rfl];exact(afS s x d b p h hx hd h0 hb im ia hn).jZ (.nil _ _ _)
 |false=>
  rw[aR ag];cases ha:mV (sY x (iW s.tape (b++s.params) p) d p)with
  |true=>
   rw[aS rfl];unfold mV at ha;rw[dk,tN]at ha;obtain⟨i,hi,mn⟩:=ha;obtain⟨N,h1,h2,h3⟩:=qx (p:=λi=>((sY x (iW s.tape (b++s.params) p) d p).getD i ig).all) ⟨i,bI.1 hi,mn⟩;refine(afT s x d b p h hx hd h0 hb im ia hn N h1 (λi hi=>?_) ?_).jZ (.nil _ _ _)
   .have:=h3 i hi;rw[xQ (show i<x.length by omega)]at this;exact this
   .rw [xQ h1]at h2;exact h2
  |false=>
   rw[aR ag];refine afU s x d b p h hx hd h0 hb im ia hn λi hi=>?_
   unfold mV at ha;rw[dM,tN]at ha;have:=ha i (bI.2 hi);rw[xQ hi]at this;exact aO this
theorem afz(s:kV)(x:List Iv)(d:Dy)(b:List Iv)(p:Nat)(h:mI s)(hx:ke s.iA x)(hd:d.ic)(h0:0<d.iK)(hb:ke s.iA b)(im:8<=p)(ia:p<=512)(hi:(lf s x d b p)=[]):gW 23 [(jj s),(ij x),(gZ d),(ij b),(iP p)] (bP false):=
 tr true call23 func23 (chain [.c (Fs _ _ _ _ _ h hx hd h0 hb im ia:gW 64 [(jj s),(ij x),(gZ d),(ij b),(iP p)] _),tB 20 (by rw[hi];rfl:(decide (0<((lf s x d b p).length:Int)))=false)]<|.nil) ah 
theorem Af{n:Nat}{b:List Iv}(h:ke n b)(h1:1<=n)(h4:n<=4):1<=b.length/\b.length<=4/\oQ b:=⟨by rw[h.len];exact h1,by rw[h.len];exact h4,h.ok⟩
theorem afA(s:kV)(x:List Iv)(d:Dy)(b:List Iv)(p:Nat)(h:mI s)(hx:ke s.iA x)(hd:d.ic)(h0:0<d.iK)(hb:ke s.iA b)(im:8<=p)(ia:p<=512)(hi:(lf s x d b p)≠[]):gW 23 [(jj s),(ij x),(gZ d),(ij b),(iP p)] (bP (ng x b&&ng (lf s x d b p) b)):=by
 have s1:=h.s1;have s4:=h.s4;obtain⟨x1,x4,xo⟩:=Af hx s1 s4;obtain⟨b1,b4,bo⟩:=Af hb s1 s4;have vC:=hx.len;have um:=hb.len;have Da:=Fq hx (show 1<=p by omega) (show p<=4096 by omega) hi;obtain⟨i1,i4,io⟩:=Af Da s1 s4;have hli:=Da.len;exact tr true call23 func23 (chain [.c (Fs _ _ _ _ _ h hx hd h0 hb im ia:gW 64 [(jj s),(ij x),(gZ d),(ij b),(iP p)] _),tT 20 (0<((lf s x d b p).length:Int)) ae,.c (He x b ae ae ae af af)]<|.w (ng x b=true)
  (λk1=>chain [tB 24 (k1),.c (He (lf s x d b p) b ae ae ae af af)]<|rQ (bP (ng (lf s x d b p) b)) (bP (ng x b&&ng (lf s x d b p) b)) (by simp[k1]))
  (λk1=>chain [tB 24 (aO k1)]<|rQ (bP false) (bP (ng x b&&ng (lf s x d b p) b)) (by simp[k1]))) ah 
theorem wV(s:kV)(x:List Iv)(d:Dy)(b:List Iv)(p:Nat)(h:mI s)(hx:ke s.iA x)(hd:d.ic)(h0:0<d.iK)(hb:ke s.iA b)(im:8<=p)(ia:p<=512):gW 23 [(jj s),(ij x),(gZ d),(ij b),(iP p)] (bP (pP s x d b p)):=by
 unfold pP;by_cases hi:(lf s x d b p)=[]
 .have:=afz s x d b p h hx hd h0 hb im ia hi
  rwa[hi,show(!([]:List Iv).isEmpty&&(ng x b&&ng [] b))=false from rfl]
 .have:=afA s x d b p h hx hd h0 hb im ia hi
  have e:((lf s x d b p)).isEmpty=false:=by
   cases q:(lf s x d b p)with
   |nil=>exact absurd q hi
   |cons _ _=>rfl
  rwa[e,dz,dF]
theorem amx(k:Int)(h1:-100<=k)(h2:k<=100):gW 179 [gZ ⟨false,1,0⟩,iP k] (.ix [gZ (nW k),iP 0]):=by
 have:=KK ⟨false,1,0⟩ k DJ ae ae;have e:canon false 1 (0+k)=nW k:=by rw[Int.zero_add];exact QT k
 have e2:kG (canon false 1 (0+k))=nW k:=by rw[e];exact Bl (Pe h1 h2)
 have e3:mP (canon false 1 (0+k))=0:=by rw[e];exact Hm (Pe h1 h2)
 change gW 179 [gZ ⟨false,1,0⟩,iP k] (.ix [gZ (kG (canon false 1 (0+k))),iP (mP (canon false 1 (0+k)))])at this;rwa[e2,e3]at this
theorem aeT(x:List Iv)(d:Dy):(EL x d==0)=sT x d:=by
 unfold EL;cases sT x d<;>rfl
theorem SL(x:List Iv)(k:Int)(x1:1<=x.length)(x8:x.length<=8)(hx:oQ x)(k1:-100<=k)(k2:k<=100):gW 109 [(ij x),(iP k)] (.ix [ij (re x (nW k)),bP (sT x (nW k))]):=by
 have v:=YY k1 k2;have sg:=YX k;exact tr true call109 func109 (chain [.c (qU _ ae:gW 180 [(iP 1)] _),.c (amx _ ae ae:gW 179 [(gZ (jf 1)),(iP k)] _),tB 16 (ag:((0:Int) != 0)=false),.c (aa4 _ _ ae ae af af af:gW 181 [(ij x),(gZ (nW k))] _)]<|rR (.ix [ij (re x (nW k)),bP (sT x (nW k))]) (.ix (.cons (.refl _) (.cons (.iS (by rw[aeT])) .nil)):E.le (.ix [(ij (re x (nW k))),(bP ((EL x (nW k))==0))]) (.ix [ij (re x (nW k)),bP (sT x (nW k))]))) ah 
theorem ZZ(s:kV)(x:List Iv)(d:Dy)(p:Nat)(h:mI s)(hx:ke s.iA x)(hd:d.ic)(h0:0<d.iK)(im:8<=p)(ia:p<=512)(k:Int)(k1:-100<=k)(k2:k<=100)(hg:(sT x (nW k))=false):gW 108 [(iP k),(.kz 1 λj_=>[(ij x)].getD j_ .any),(.kz 5 λj_=>[(iP s.tape.iq),(nJ s.tape.gX),(nI s.tape.ik),(iP s.iA),(ij s.params)].getD j_ .any),(.kz 3 λj_=>[(bP d.neg),(gY (gV d.m)),(iP d.e)].getD j_ .any),(.kz 1 λj_=>[(iP p)].getD j_ .any)] (.ix [ij (re x (nW k)),bP false]):=by
 have s1:=h.s1;have s4:=h.s4;obtain⟨x1,x4,xo⟩:=Af hx s1 s4;exact tr true call108 func108 (chain [.c (SL _ _ ae ae xo ae ae:gW 109 [(ij x),(iP k)] _),tB 15 (hg:(sT x (nW k))=false)]<|.nil) ah 
theorem Z0(s:kV)(x:List Iv)(d:Dy)(p:Nat)(h:mI s)(hx:ke s.iA x)(hd:d.ic)(h0:0<d.iK)(im:8<=p)(ia:p<=512)(k:Int)(k1:-100<=k)(k2:k<=100)(hg:(sT x (nW k))=true):gW 108 [(iP k),(.kz 1 λj_=>[(ij x)].getD j_ .any),(.kz 5 λj_=>[(iP s.tape.iq),(nJ s.tape.gX),(nI s.tape.ik),(iP s.iA),(ij s.params)].getD j_ .any),(.kz 3 λj_=>[(bP d.neg),(gY (gV d.m)),(iP d.e)].getD j_ .any),(.kz 1 λj_=>[(iP p)].getD j_ .any)] (.ix [ij (re x (nW k)),bP (pP s x d (re x (nW k)) p)]):=by
 have s1:=h.s1;have s4:=h.s4;obtain⟨x1,x4,xo⟩:=Af hx s1 s4;have hb:=aeU hx (YY k1 k2) (ald (YX k)) hg;exact tr true call108 func108 (chain [.c (SL _ _ ae ae xo ae ae:gW 109 [(ij x),(iP k)] _),tB 15 (hg:(sT x (nW k))=true),.c (wV _ _ _ _ _ h hx hd h0 hb im ia:gW 23 [(jj s),(ij x),(gZ d),(ij (re x (nW k))),(iP p)] _)]<|.nil) ah 
theorem P9(s:kV)(x:List Iv)(d:Dy)(p:Nat)(h:mI s)(hx:ke s.iA x)(hd:d.ic)(h0:0<d.iK)(im:8<=p)(ia:p<=512)(k:Int)(k1:-100<=k)(k2:k<=100):gW 108 [(iP k),(.kz 1 λj_=>[(ij x)].getD j_ .any),(.kz 5 λj_=>[(iP s.tape.iq),(nJ s.tape.gX),(nI s.tape.ik),(iP s.iA),(ij s.params)].getD j_ .any),(.kz 3 λj_=>[(bP d.neg),(gY (gV d.m)),(iP d.e)].getD j_ .any),(.kz 1 λj_=>[(iP p)].getD j_ .any)] (.ix [ij (re x (nW k)),bP (yD s x d p k)]):=by
 unfold yD;cases hg:sT x (nW k)with
 |false=>exact ZZ s x d p h hx hd h0 im ia k k1 k2 hg
 |true=>exact Z0 s x d p h hx hd h0 im ia k k1 k2 hg
theorem UX{l:List Iv}(h:l≠[]):((l.length:Int)==0)=false:=nv λq=>h (gy.1 q)
theorem ac6(s:kV)(x:List Iv)(d:Dy)(p:Nat)(h:mI s)(hx:ke s.iA x)(hd:d.ic)(h0:0<d.iK)(im:8<=p)(ia:p<=512)(N:Nat)(mz:N<24)(iI:∀ k:Nat,k<N->yD s x d p ((k:Int)-20)=false)(hN:yD s x d p ((N:Int)-20)=true):gW 60 [(jj s),(ij x),(gZ d),(iP p)] (.ix [ij (re x (nW ((N:Int)-20))),iP 0]):=
 tr true call60 func60 (chain [.c (Ik _ _ _ _ h hx hd h0 im ia:gW 107 [(jj s),(ij x),(gZ d),(iP p)] _),.s (Sp.jy (RR s x d p N) 0 N ae (λk hk Az=>by
    exact iC (chain [tT 23 ((k:Int)<24) ae,iu ((k:Int)-20) ae,.c (P9 _ _ _ _ h hx hd h0 im ia _ ae ae:gW 108 [(iP ((k:Int)-20)),(.kz 1 λj_=>[(ij x)].getD j_ .any),(.kz 5 λj_=>[(iP s.tape.iq),(nJ s.tape.gX),(nI s.tape.ik),(iP s.iA),(ij s.params)].getD j_ .any),(.kz 3 λj_=>[(bP d.neg),(gY (gV d.m)),(iP d.e)].getD j_ .any),(.kz 1 λj_=>[(iP p)].getD j_ .any)] _),tB 31 (iI k ae:(yD s x d p ((k:Int)-20))=false),iu ((k:Int)+1) ae]<|.nil) ah)
  (λhk=>by
    exact iC (chain [tT 23 ((N:Int)<24) ae,iu ((N:Int)-20) ae,.c (P9 _ _ _ _ h hx hd h0 im ia _ ae ae:gW 108 [(iP ((N:Int)-20)),(.kz 1 λj_=>[(ij x)].getD j_ .any),(.kz 5 λj_=>[(iP s.tape.iq),(nJ s.tape.gX),(nI s.tape.ik),(iP s.iA),(ij s.params)].getD j_ .any),(.kz 3 λj_=>[(bP d.neg),(gY (gV d.m)),(iP d.e)].getD j_ .any),(.kz 1 λj_=>[(iP p)].getD j_ .any)] _),tB 31 (hN:(yD s x d p ((N:Int)-20))=true)]<|.nil) ah) ak:jv 5 Tryz.f60 (RR s x d p N 0) .ret ⟨55,true,[(9,.e (iP 0)),(8,.e (ij (re x (nW ((N:Int)-20)))))],[]⟩) .nil]<|.nil) ah 
structure nj where
 kind:Int
 a:Int
 b:Int
 n:Int
 cn:Int
 cd:Int
structure jt where
 iq:Int
 gX:List nj
 ik:List Int
 iA:Int
 params:List RI
def iY:nj:=⟨0,0,0,0,0,0⟩
def zI(o:nj):List E:=[iP o.kind,iP o.a,iP o.b,iP o.n,iP o.cn,iP o.cd]
def rn(o:nj):E:=.agg (zI o)
def jL(l:List nj):E:=.sl true l.length 6 λi j=>(zI (l.getD i iY)).getD j .any
def jP(l:List Int):E:=.sl true l.length 1 λi _=>iP (l.getD i 0)
def OK(s:jt):List E:=[iP s.iq,jL s.gX,jP s.ik,iP s.iA,j8 s.params]
def lg(s:jt):E:=.agg (OK s)
structure nj.jg(o:nj):Prop where
 kind:ky .i64 o.kind
 a:ky .i64 o.a
 b:ky .i64 o.b
 n:ky .i64 o.n
 cn:ky .i64 o.cn
 cd:ky .i64 o.cd
structure jt.jg(s:jt):Prop where
 iq:ky .i64 s.iq
 gX:∀ i,(s.gX.getD i iY).jg
 ik:∀ i,ky .i64 (s.ik.getD i 0)
 iA:ky .i64 s.iA
 params:∀ i,(s.params.getD i ju).jg
structure jt.mj(s:jt):Prop where
 gX:s.gX.length<=1000
 ik:s.ik.length<=1000
 params:s.params.length<=1000
def jG(o:nj)(m:Int):Bool:=
 if o.kind=1 then lQ o.cn o.cd&&decide (o.a=0/\o.b=0/\o.n=0)
 else if 3<=o.kind/\o.kind<=6 then decide (o.cn=0/\o.cd=0/\0<=o.a/\o.a<m/\0<=o.b/\o.b<m/\o.n=0)
 else if o.kind=8 then decide (o.cn=0/\o.cd=0/\0<=o.a/\o.a<m/\o.b=0/\0<=o.n/\o.n<=16)
 else if o.kind=7\/9<=o.kind/\o.kind<=13 then decide (o.cn=0/\o.cd=0/\0<=o.a/\o.a<m/\o.b=0/\o.n=0)
 else false
def Gl(s:jt):Bool:=(List.range s.gX.length).all λi=>jG (s.gX.getD i iY) (s.iq+(i:Int))
def vQ(s:jt)(k:Int):Bool:=decide (0<=k/\k<s.iq+(s.gX.length:Int))
def vY(s:jt):Bool:=(List.range s.ik.length).all λi=>vQ s (s.ik.getD i 0)
noncomputable def nA(x:RI):Bool:=ny x && !x.all
noncomputable def DZ(s:jt):Bool:=(List.range s.params.length).all λi=>nA (s.params.getD i ju)
noncomputable def mE(s:jt):Bool:=decide (0<=s.iq/\s.iq<=8/\s.gX.length<=200/\s.ik.length<=200)&&Gl s&&vY s
 && decide (1<=s.iA/\s.iA<=4/\(s.ik.length:Int)=s.iA/\s.iq=s.iA+(s.params.length:Int)/\s.params.length<=4)&&DZ s
noncomputable def qs(n:Int)(b:List RI):Bool:=decide ((b.length:Int)=n)&&(List.range b.length).all λi=>nA (b.getD i ju)
noncomputable def yb(d:RD):Bool:=@decide d.Ok (Classical.propDecidable _)
theorem vX{d:RD}:yb d=true↔d.Ok:=@gq _ (Classical.propDecidable _)
noncomputable def mQ(s:jt)(x:List RI)(h:RD)(p:Int):Bool:=mE s&&qs s.iA x&&yb h&&decide (0<h.dy.iK)&&decide (8<=p/\p<=512)
theorem yC{n:Nat}{f:Nat->Bool}(h:¬(List.range n).all f=true):∃ N,N<n/\(!f N)=true/\∀ k,k<N->(!f k)=false:=by
 refine qx ?_;apply bG;intro q;apply h;refine bH.2 λi hi=>?_
 cases hf:f i with
 |true=>rfl
 |false=>exact absurd ⟨i,bI.1 hi,by rw[hf];rfl⟩ q
theorem PY{n:Nat}{f:Nat->Bool}:((List.range n).any λi=>!f i) = !((List.range n).all f):=by
 rw[cS];simp
theorem akD{s:jt}(h:¬(0<=s.iq/\s.iq<=8/\s.gX.length<=200/\s.ik.length<=200/\1<=s.iA/\s.iA<=4/\(s.ik.length:Int)=s.iA/\s.params.length<=4/\s.iq=s.iA+(s.params.length:Int))):mE s=false:=by
 refine aO λq=>h ?_
 unfold mE at q;simp only[bu,bU]at q;obtain⟨⟨⟨⟨a,_⟩,_⟩,b⟩,_⟩:=q;exact⟨a.1,a.2.1,a.2.2.1,a.2.2.2,b.1,b.2.1,b.2.2.1,b.2.2.2.2,b.2.2.2.1⟩
def nj.v(o:nj):mO:=⟨o.kind.toNat,o.a.toNat,o.b.toNat,o.n.toNat,o.cn,o.cd⟩
def jt.v(s:jt):kV:=⟨⟨s.iq.toNat,s.gX.map nj.v,s.ik.map Int.toNat⟩,s.iA.toNat,s.params.map RI.iv⟩
theorem nB.of{k a b n m:Nat}{cn cd:Int}(k3:k=1\/3<=k)(Dv:k<=13)(ha:k=1->a=0)(C5:¬k=1->a<m)(hb:3<=k/\k<=6->b<m)(mA:¬(3<=k/\k<=6)->b=0)
 (hn:k=8->n<=16) (wT:¬k=8->n=0) (hc:k=1->lQ cn cd=true) (yP:¬k=1->cn=0/\cd=0):nB ⟨k,a,b,n,cn,cd⟩ m:=by
 refine⟨k3,Dv,?_,?_,?_,?_⟩
 .show if k=1 then a=0 else a<m
  split<;>simp_all
 .show if 3<=k/\k<=6 then b<m else b=0
  split
  .rename_i h;exact hb h
  .rename_i h;exact mA h
 .show if k=8 then n<=16 else n=0
  split
  .rename_i h;exact hn h
  .rename_i h;exact wT h
 .show if k=1 then lQ cn cd=true else cn=0/\cd=0
  split
  .rename_i h;exact hc h
  .rename_i h;exact yP h
theorem akq{o:nj}{m:Nat}(h:jG o (m:Int)=true):nB o.v m/\0<=o.kind/\0<=o.a/\0<=o.b/\0<=o.n:=by
 obtain⟨k,a,b,n,cn,cd⟩:=o;unfold jG at h;simp only at h;show nB ⟨k.toNat,a.toNat,b.toNat,n.toNat,cn,cd⟩ m/\0<=k/\0<=a/\0<=b/\0<=n;split at h
 .rename_i hk
  rw[bu,bU]at h;obtain⟨hr,h1,h2,h3⟩:=h;exact⟨nB.of ae ae ae ae ae ae ae ae (λ_=>hr) ae,ae,ae,ae,ae⟩
 .rename_i oz
  split at h
  .rename_i hk
   have h:=ck h;exact⟨nB.of ae ae ae ae ae ae ae ae ae ae,ae,ae,ae,ae⟩
  .split at h
   .rename_i hk
    have h:=ck h;exact⟨nB.of ae ae ae ae ae ae ae ae ae ae,ae,ae,ae,ae⟩
   .split at h
    .rename_i ui hk
     have h:=ck h;exact⟨nB.of ae ae ae ae ae ae ae ae ae ae,ae,ae,ae,ae⟩
    .cases h
theorem aks{o:nj}(h1:0<=o.kind)(h2:0<=o.a)(h3:0<=o.b)(h4:0<=o.n):JA o.v=zI o:=by
 obtain⟨k,a,b,n,cn,cd⟩:=o;simp only[JA,zI,nj.v]at *
 rw[eD h1,eD h2,eD h3,eD h4]
theorem akE{s:jt}(g:s.jg)(h:mE s=true):mI s.v/\lg s=jj s.v:=by
 unfold mE at h;simp only[bu,bU]at h;obtain⟨⟨⟨⟨⟨i0,i8,l1,l2⟩,ho⟩,hu⟩,s1,s4,e1,e2,p4⟩,hp⟩:=h;have ho:=bH.1 ho;have hu:=bH.1 hu;have hp:=bH.1 hp;have opAt:∀ i,i<s.gX.length->(s.gX.map nj.v).getD i iT=(s.gX.getD i iY).v:=λi hi=>by simp[aW,hi]
 have ouAt:∀ i,i<s.ik.length->(s.ik.map Int.toNat).getD i 0=(s.ik.getD i 0).toNat:=λi hi=>by simp[aW,hi]
 have paAt:∀ i,i<s.params.length->(s.params.map RI.iv).getD i ig=(s.params.getD i ju).iv:=λi hi=>by simp[aW,hi]
 have op:∀ i,i<s.gX.length->nB (s.gX.getD i iY).v (s.iq.toNat+i)/\0<=(s.gX.getD i iY).kind/\0<=(s.gX.getD i iY).a/\0<=(s.gX.getD i iY).b/\0<=(s.gX.getD i iY).n:=λi hi=>by
  have:=ho i (bI.2 hi);exact akq (by rwa[show((s.iq.toNat+i:Nat):Int)=s.iq+(i:Int)by omega])
 have ou:∀ i,i<s.ik.length->0<=s.ik.getD i 0/\s.ik.getD i 0<s.iq+(s.gX.length:Int):=λi hi=>ck (hu i (bI.2 hi))
 have pa:∀ i,i<s.params.length->(s.params.getD i ju).Ok/\(s.params.getD i ju).all=false:=λi hi=>by
  have:=hp i (bI.2 hi);unfold nA at this;rw[bu]at this;exact⟨r8.1 this.1,by simpa using this.2⟩
 refine⟨⟨⟨?_,?_,?_,?_,?_⟩,?_,?_,?_,?_,?_,?_⟩,?_⟩
 .show s.iq.toNat<=8;omega
 .show (s.gX.map nj.v).length<=200;rw[cR];exact l1
 .show (s.ik.map Int.toNat).length<=200;rw[cR];exact l2
 .intro i hi
  have hi:i<s.gX.length:=by simpa[jt.v]using hi
  show nB ((s.gX.map nj.v).getD i iT) (s.iq.toNat+i);rw[opAt i hi];exact(op i hi).1
 .intro i hi
  have hi:i<s.ik.length:=by simpa[jt.v]using hi
  show(s.ik.map Int.toNat).getD i 0<s.iq.toNat+(s.gX.map nj.v).length;rw[ouAt i hi,cR];have:=ou i hi;omega
 .show 1<=s.iA.toNat;omega
 .show s.iA.toNat<=4;omega
 .show (s.ik.map Int.toNat).length=s.iA.toNat;rw[cR];omega
 .show s.iq.toNat=s.iA.toNat+(s.params.map RI.iv).length;rw[cR];omega
 .show (s.params.map RI.iv).length<=4;rw[cR];exact p4
 .intro i hi
  have hi:i<s.params.length:=by simpa[jt.v]using hi
  show((s.params.map RI.iv).getD i ig).ic/\((s.params.map RI.iv).getD i ig).all=false;rw[paAt i hi];exact⟨(pa i hi).1.valid,(pa i hi).2⟩
 .have e1:iP s.iq=iP (s.iq.toNat:Int):=by rw[eD i0]
  have e2:iP s.iA=iP (s.iA.toNat:Int):=by rw[eD (show 0<=s.iA by omega)]
  have e3:jL s.gX=nJ (s.gX.map nj.v):=by
   unfold jL nJ;rw[cR];congr 1;funext i j;by_cases hi:i<s.gX.length
   .rw [opAt i hi]
    obtain⟨_,h1,h2,h3,h4⟩:=op i hi;rw[aks h1 h2 h3 h4]
   .have a1:s.gX.getD i iY=iY:=by rw[aW,bT ae];rfl
    have a2:(s.gX.map nj.v).getD i iT=iT:=by rw[aW,bT aG];rfl
    rw[a1,a2];rfl
  have e4:jP s.ik=nI (s.ik.map Int.toNat):=by
   unfold jP nI;rw[cR];congr 1;funext i j;by_cases hi:i<s.ik.length
   .rw [ouAt i hi,eD (ou i hi).1]
   .rw [aW,bT ae,aW (l:=s.ik.map Int.toNat),bT aG]
    rfl
  have e5:j8 s.params=ij (s.params.map RI.iv):=by
   rw[<-Jg];congr 1;apply eX;intro i;unfold s7;rw[cj,cj];by_cases hi:i<s.params.length
   .have h1:=(pa i hi).1
    have g1:=g.params i;rw[bg hi];rw[aW,bg hi]at h1 g1;exact congrArg some (RI.Ok.eq (x:=s.params[i]) h1 g1).symm
   .rw [bT ae];rfl
  show E.agg [iP s.iq,jL s.gX,jP s.ik,iP s.iA,j8 s.params]=_;rw[e1,e2,e3,e4,e5];rfl
def XI(s:jt)(N:Nat)(x:Nat):PS:=⟨85,true,[(31,.e (iP x)),(30,.e (iP s.gX.length)),(29,.e (jL s.gX)),(3,.box 3 0),(1,.box 1 0)],[(3,.cells 25 [(iP s.iq),(jL s.gX),(jP s.ik)]),(1,.cells 28 [(iP s.iq),(jL s.gX),(jP s.ik),(iP s.iA),(j8 s.params)])]⟩
def XJ(s:jt)(x:Nat):PS:=⟨85,true,[(31,.e (iP x)),(30,.e (iP s.gX.length)),(29,.e (jL s.gX)),(3,.box 3 0),(1,.box 1 0)],[(3,.cells 25 [(iP s.iq),(jL s.gX),(jP s.ik)]),(1,.cells 28 [(iP s.iq),(jL s.gX),(jP s.ik),(iP s.iA),(j8 s.params)])]⟩
def XK(s:jt)(x:Nat):PS:=⟨85,true,[(31,.e (iP x)),(30,.e (iP s.gX.length)),(29,.e (jL s.gX)),(3,.box 3 0),(1,.box 1 0)],[(3,.cells 25 [(iP s.iq),(jL s.gX),(jP s.ik)]),(1,.cells 28 [(iP s.iq),(jL s.gX),(jP s.ik),(iP s.iA),(j8 s.params)])]⟩
def XL(s:jt)(x:Nat):PS:=⟨85,true,[(31,.e (iP x)),(30,.e (iP s.gX.length)),(29,.e (jL s.gX)),(3,.box 3 0),(1,.box 1 0)],[(3,.cells 25 [(iP s.iq),(jL s.gX),(jP s.ik)]),(1,.cells 28 [(iP s.iq),(jL s.gX),(jP s.ik),(iP s.iA),(j8 s.params)])]⟩
theorem oA{a b:Bool}(h:a=true↔b=true):a=b:=cS.2 h
theorem nk{a b:Bool}(h:a=b):bP a=bP b:=h▸rfl
theorem kX{o:nj}{m:Int}{b:Bool}(h:b=jG o m:=by simp_all[jG,Qv]<;>(repeat' split)<;>intros<;>omega):bP b=bP (jG o m):=nk h
noncomputable def ahY(o:nj)(m:Int)(g:o.jg)(C:Bool)(hC:C=decide (o.cn=0/\o.cd=0))(q1:¬o.a<0)(q2:¬o.b<0):Tr prog Tb:=
  .w (o.kind=1)
  (λk1=>chain [tB 21 (aM k1),.c (JH o.cn o.cd)]<|.w (lQ o.cn o.cd=true)
   (λk2=>chain [tB 24 (k2)]<|.w (o.a=0)
    (λk3=>chain [tB 28 (aM k3)]<|.w (o.b=0)
     (λk4=>chain [tB 33 (aM k4)]<|rQ (bP (o.n==0)) (bP (jG o m)) (kX))
     (λk4=>chain [tB 33 (aK k4)]<|rQ (bP false) (bP (jG o m)) (kX)))
    (λk3=>chain [tB 28 (aK k3)]<|rQ (bP false) (bP (jG o m)) (kX)))
   (λk2=>chain [tB 24 (aO k2)]<|rQ (bP false) (bP (jG o m)) (kX)))
  (λk1=>chain [tB 21 (aK k1),.j 80 ⟨111,true,[(40,.e (bP (decide (3<=o.kind/\o.kind<=6)))),(19,.e (iP o.kind)),(5,.e (bP C)),(2,.box 2 0),(1,.e (iP m))],[(2,.cells 74 [(iP o.kind),(iP o.a),(iP o.b),(iP o.n),(iP o.cn),(iP o.cd)])]⟩
   (.w (o.kind=3)
    (λm1=>chain [.v 40 (.bool (aM m1))]<|.e (chain [tB 40 (oA an:true=(decide (3<=o.kind/\o.kind<=6)))]<|.nil))
    (λm1=>chain [.v 40 (.bool (aK m1))]<|.w (o.kind=4)
     (λm2=>chain [tB 42 (aM m2)]<|.e (chain [tB 40 (oA an:true=(decide (3<=o.kind/\o.kind<=6)))]<|.nil))
     (λm2=>chain [tB 42 (aK m2)]<|.w (o.kind=5)
      (λm3=>chain [tB 43 (aM m3)]<|.e (chain [tB 40 (oA an:true=(decide (3<=o.kind/\o.kind<=6)))]<|.nil))
      (λm3=>chain [tB 43 (aK m3)]<|.e (chain [tB 40 (oA an:(o.kind==6)=(decide (3<=o.kind/\o.kind<=6)))]<|.nil)))))]<|.w (3<=o.kind/\o.kind<=6)
   (λk2=>chain [.v 40 (.bool (aT k2))]<|.w (C=true)
    (λk3=>chain [tB 45 (k3)]<|.w (o.a<m)
     (λk4=>chain [tB 50 (aT k4)]<|.w (o.b<m)
      (λk5=>chain [tB 56 (aT k5)]<|rQ (bP (o.n==0)) (bP (jG o m)) (kX))
      (λk5=>chain [tB 56 (aU k5)]<|rQ (bP false) (bP (jG o m)) (kX)))
     (λk4=>chain [tB 50 (aU k4)]<|rQ (bP false) (bP (jG o m)) (kX)))
    (λk3=>chain [tB 45 (aO k3)]<|rQ (bP false) (bP (jG o m)) (kX)))
   (λk2=>chain [.v 40 (.bool (aU k2))]<|.w (o.kind=8)
    (λk3=>chain [tB 64 (aM k3)]<|.w (C=true)
     (λk4=>chain [tB 65 (k4)]<|.w (o.a<m)
      (λk5=>chain [tB 70 (aT k5)]<|.w (o.b=0)
       (λk6=>chain [tB 75 (aM k6)]<|.w (0<=o.n)
        (λk7=>chain [tB 80 (aT k7)]<|rQ (bP (decide (o.n<=16))) (bP (jG o m)) (kX))
        (λk7=>chain [tB 80 (aU k7)]<|rQ (bP false) (bP (jG o m)) (kX)))
       (λk6=>chain [tB 75 (aK k6)]<|rQ (bP false) (bP (jG o m)) (kX)))
      (λk5=>chain [tB 70 (aU k5)]<|rQ (bP false) (bP (jG o m)) (kX)))
     (λk4=>chain [tB 65 (aO k4)]<|rQ (bP false) (bP (jG o m)) (kX)))
    (λk3=>chain [tB 64 (aK k3),.j 174 ⟨111,true,[(87,.e (bP (decide (o.kind=7\/9<=o.kind/\o.kind<=13)))),(5,.e (bP C)),(2,.box 2 0),(1,.e (iP m))],[(2,.cells 74 [(iP o.kind),(iP o.a),(iP o.b),(iP o.n),(iP o.cn),(iP o.cd)])]⟩
   (.w (o.kind=7)
    (λm1=>chain [.v 87 (.bool (aM m1))]<|.e (chain [tB 87 (oA an:true=(decide (o.kind=7\/9<=o.kind/\o.kind<=13)))]<|.nil))
    (λm1=>chain [.v 87 (.bool (aK m1))]<|.w (o.kind=9)
     (λm2=>chain [tB 89 (aM m2)]<|.e (chain [tB 87 (oA an:true=(decide (o.kind=7\/9<=o.kind/\o.kind<=13)))]<|.nil))
     (λm2=>chain [tB 89 (aK m2)]<|.w (o.kind=10)
      (λm3=>chain [tB 90 (aM m3)]<|.e (chain [tB 87 (oA an:true=(decide (o.kind=7\/9<=o.kind/\o.kind<=13)))]<|.nil))
      (λm3=>chain [tB 90 (aK m3)]<|.w (o.kind=11)
       (λm4=>chain [tB 91 (aM m4)]<|.e (chain [tB 87 (oA an:true=(decide (o.kind=7\/9<=o.kind/\o.kind<=13)))]<|.nil))
       (λm4=>chain [tB 91 (aK m4)]<|.w (o.kind=12)
        (λm5=>chain [tB 92 (aM m5)]<|.e (chain [tB 87 (oA an:true=(decide (o.kind=7\/9<=o.kind/\o.kind<=13)))]<|.nil))
        (λm5=>chain [tB 92 (aK m5)]<|.e (chain [tB 87 (oA an:(o.kind==13)=(decide (o.kind=7\/9<=o.kind/\o.kind<=13)))]<|.nil)))))))]<|.w (o.kind=7\/9<=o.kind/\o.kind<=13)
     (λk4=>chain [.v 87 (.bool (aT k4))]<|.w (C=true)
      (λk5=>chain [tB 94 (k5)]<|.w (o.a<m)
       (λk6=>chain [tB 99 (aT k6)]<|.w (o.b=0)
        (λk7=>chain [tB 104 (aM k7)]<|rQ (bP (o.n==0)) (bP (jG o m)) (kX))
        (λk7=>chain [tB 104 (aK k7)]<|rQ (bP false) (bP (jG o m)) (kX)))
       (λk6=>chain [tB 99 (aU k6)]<|rQ (bP false) (bP (jG o m)) (kX)))
      (λk5=>chain [tB 94 (aO k5)]<|rQ (bP false) (bP (jG o m)) (kX)))
     (λk4=>chain [.v 87 (.bool (aU k4))]<|rQ (bP false) (bP (jG o m)) (kX)))))
theorem FW(o:nj)(m:Int)(g:o.jg):gW 231 [(rn o),(iP m)] (bP (jG o m)):=
 tr true call231 func231 (.w (o.a<0)
  (λk1=>chain [tB 8 (aT k1)]<|rQ (bP false) (bP (jG o m)) (kX))
  (λk1=>chain [tB 8 (aU k1)]<|.w (o.b<0)
   (λk2=>chain [tB 12 (aT k2)]<|rQ (bP false) (bP (jG o m)) (kX))
   (λk2=>chain [tB 12 (aU k2),.g (V6 g.cn g.cd rfl:pG prog .eql 72 (.agg [(iP o.cn),(iP o.cd)]) (.agg [(iP 0),(iP 0)]) (.bool (decide (o.cn=0/\o.cd=0))))]<|ahY o m g (decide (o.cn=0/\o.cd=0)) rfl k1 k2))) ah 
theorem alO(s:jt)(g:s.jg)(k:Int)(h0:0<=s.iq)(h8:s.iq<=8)(l2:s.gX.length<=200):gW 233 [(iP k),(.kz 3 λj_=>[(iP s.iq),(jL s.gX),(jP s.ik)].getD j_ .any)] (bP (!vQ s k)):=
 tr true call233 func233 (.w (k<0)
  (λk1=>chain [tB 5 (aT k1)]<|rQ (bP true) (bP (!vQ s k)) (nk (by unfold vQ;rw[cS];simp_all)))
  (λk1=>chain [tB 5 (aU k1),iu (s.iq+(s.gX.length:Int)) ae]<|rQ (bP (decide ((s.iq+(s.gX.length:Int))<=k))) (bP (!vQ s k)) (nk (by unfold vQ;rw[cS];simp_all)))) ah 
theorem alQ(x:RI)(g:x.jg):gW 234 [(qR x)] (bP (!nA x)):=by
 have ga:=g.lo;have gb:=g.hi;by_cases ha:x.all=true
 .have e:nA x=false:=by unfold nA;rw[ha];simp
  rw[e];exact tr true call234 func234 (chain [tB 4 (ha:x.all=true)]<|.nil) ah 
 .replace ha:x.all=false:=by simpa using ha
  by_cases h1:x.lo.Ok
  .by_cases h2:x.hi.Ok
   .have v1:=h1.valid
    have v2:=h2.valid;have e1:qR x=ib x.iv:=by rw[<-Je,show x.iv.raw=x by show RI.mk x.lo.dy.raw x.hi.dy.raw x.all=x;rw[h1.eq ga,h2.eq gb]]
    rw[e1];by_cases h3:jo x.lo.dy x.hi.dy<=0
    .have e:nA x=true:=by unfold nA;rw[r8.2 (.inr ⟨ha,h1,h2,h3⟩),ha];rfl
     rw[e];exact tr true call234 func234 (chain [tB 4 (ha:x.iv.all=false),.c (qu _ af:gW 92 [(gZ x.iv.lo)] _),.c (qu _ af:gW 92 [(gZ x.iv.hi)] _),.c (oe _ _ af af:gW 122 [(gZ x.iv.lo),(gZ x.iv.hi)] _),tF 23 (0<(jo x.iv.lo x.iv.hi)) (by show ¬0<jo x.lo.dy x.hi.dy;omega)]<|.nil) ah 
    .have e:nA x=false:=by unfold nA;rw[show ny x=false by simpa using λq=>(r8.1 q).elim (λq=>by rw[ha]at q;exact Bool.noConfusion q.1) λq=>h3 q.2.2.2];rfl
     rw[e];exact tr true call234 func234 (chain [tB 4 (ha:x.iv.all=false),.c (qu _ af:gW 92 [(gZ x.iv.lo)] _),.c (qu _ af:gW 92 [(gZ x.iv.hi)] _),.c (oe _ _ af af:gW 122 [(gZ x.iv.lo),(gZ x.iv.hi)] _),tT 23 (0<(jo x.iv.lo x.iv.hi)) (by show 0<jo x.lo.dy x.hi.dy;omega)]<|.nil) ah 
   .have e:nA x=false:=by unfold nA;rw[show ny x=false by simpa using λq=>(r8.1 q).elim (λq=>by rw[ha]at q;exact Bool.noConfusion q.1) λq=>h2 q.2.2.1];rfl
    rw[e];exact tr true call234 func234 (chain [tB 4 (ha:x.all=false),.c (Bq _ af true (by simp[h1]):gW 92 [(mf x.lo)] _),.c (Bq _ af false (by simp[h2]):gW 92 [(mf x.hi)] _)]<|.nil) ah 
  .have e:nA x=false:=by unfold nA;rw[show ny x=false by simpa using λq=>(r8.1 q).elim (λq=>by rw[ha]at q;exact Bool.noConfusion q.1) λq=>h1 q.2.1];rfl
   rw[e];exact tr true call234 func234 (chain [tB 4 (ha:x.all=false),.c (Bq _ af false (by simp[h1]):gW 92 [(mf x.lo)] _)]<|.nil) ah 
theorem aaH(x:RI)(g:x.jg):gW 187 [(qR x)] (bP (!nA x)):=
 tr true call187 func187 (chain [.c (agr _ g:gW 121 [(qR x)] _)]<|.w (ny x=true)
  (λk1=>chain [tB 4 (k1)]<|rQ (bP x.all) (bP (!nA x)) (nk (by unfold nA;simp_all)))
  (λk1=>chain [tB 4 (aO k1)]<|rQ (bP true) (bP (!nA x)) (nk (by unfold nA;simp_all)))) ah 
theorem N5(s:jt)(h0:0<=s.iq)(h8:s.iq<=8)(l2:s.gX.length<=200)(lu:s.ik.length<=200)(g:s.jg):gW 232 [jP s.ik,.fn 233 [(.kz 3 λj_=>[(iP s.iq),(jL s.gX),(jP s.ik)].getD j_ .any)]] (bP (!vY s)):=by
 have:=aga true s.ik.length (λi _=>iP (s.ik.getD i 0)) 233 [(.kz 3 λj_=>[(iP s.iq),(jL s.gX),(jP s.ik)].getD j_ .any)] (λi=>!vQ s (s.ik.getD i 0)) (λi _=>alO s g _ h0 h8 l2) (show s.ik.length<=1000000 by omega);rwa[PY]at this
theorem We(f:FuncId)(l:List RI)(hf:∀ i,gW f [qR (l.getD i ju)] (bP (!nA (l.getD i ju))))(hl:l.length<=1000):gW 40 [j8 l,.fn f []] (bP (!((List.range l.length).all λi=>nA (l.getD i ju)))):=by
 have:=Ni true l.length (λi j=>(zG (l.getD i ju)).getD j .any) f [] (λi=>!nA (l.getD i ju)) (λi _=>hf i) (show l.length<=1000000 by omega);rwa[PY]at this
theorem alS(s:jt)(g:s.jg)(sm:s.mj)(hc:¬(0<=s.iq/\s.iq<=8/\s.gX.length<=200/\s.ik.length<=200)):gW 157 [(lg s)] (bP false):=
 tr true call157 func157 (.w (s.iq<0)
  (λk1=>chain [tB 10 (aT k1)]<|.nil)
  (λk1=>chain [tB 10 (aU k1)]<|.w (8<s.iq)
   (λk2=>chain [tB 14 (aT k2)]<|.nil)
   (λk2=>chain [tB 14 (aU k2)]<|.w (200<(s.gX.length:Int))
    (λk3=>chain [tB 20 (aT k3)]<|.nil)
    (λk3=>chain [tB 20 (aU k3)]<|.w (200<(s.ik.length:Int))
     (λk4=>chain [tB 26 (aT k4)]<|.nil)
     (λk4=>.x ae))))) ah 
theorem alT(s:jt)(g:s.jg)(sm:s.mj)(i0:0<=s.iq)(i8:s.iq<=8)(l1:s.gX.length<=200)(l2:s.ik.length<=200)(N:Nat)(mz:N<s.gX.length)(iI:∀ k,k<N->(jG (s.gX.getD k iY) (s.iq+(k:Int)))=true)(hN:(jG (s.gX.getD N iY) (s.iq+(N:Int)))=false):gW 157 [(lg s)] (bP false):=
 tr true call157 func157 (chain [tF 10 (s.iq<0) ae,tF 14 (8<s.iq) ae,tF 20 (200<(s.gX.length:Int)) ae,tF 26 (200<(s.ik.length:Int)) ae,.s (Sp.jy (XI s N) 0 N ae (λx hx kn=>by
    have np:=g.gX x;exact iC (chain [tT 32 ((x:Int)<s.gX.length) ae,iX ((x:Int)) (s.gX.length) ae,iu (s.iq+(x:Int)) ae,.c (FW _ _ np:gW 231 [(rn (s.gX.getD x iY)),(iP (s.iq+(x:Int)))] _),tB 42 (by rw[iI x ae];rfl:(!(jG (s.gX.getD x iY) (s.iq+(x:Int))))=false),
     iu ((x:Int)+1) ae]<|.nil) ah)
  (λhx=>by
    have np:=g.gX N;exact iC (chain [tT 32 ((N:Int)<s.gX.length) ae,iX ((N:Int)) (s.gX.length) ae,iu (s.iq+(N:Int)) ae,.c (FW _ _ np:gW 231 [(rn (s.gX.getD N iY)),(iP (s.iq+(N:Int)))] _),tB 42 (by rw[hN];rfl:(!(jG (s.gX.getD N iY) (s.iq+(N:Int))))=true)]<|.nil) ah) ak:jv 5 f157 (XI s N 0) .ret ⟨85,true,[(2,.e (bP false))],[]⟩) .nil]<|.nil) ah 
theorem alU(s:jt)(g:s.jg)(sm:s.mj)(i0:0<=s.iq)(i8:s.iq<=8)(l1:s.gX.length<=200)(l2:s.ik.length<=200)(iI:∀ k,k<s.gX.length->(jG (s.gX.getD k iY) (s.iq+(k:Int)))=true)(hu:vY s=false):gW 157 [(lg s)] (bP false):=
 tr true call157 func157 (chain [tF 10 (s.iq<0) ae,tF 14 (8<s.iq) ae,tF 20 (200<(s.gX.length:Int)) ae,tF 26 (200<(s.ik.length:Int)) ae,.s (Sp.jy (XJ s) 0 s.gX.length ae (λx hx kn=>by
    have np:=g.gX x;exact iC (chain [tT 32 ((x:Int)<s.gX.length) ae,iX ((x:Int)) (s.gX.length) ae,iu (s.iq+(x:Int)) ae,.c (FW _ _ np:gW 231 [(rn (s.gX.getD x iY)),(iP (s.iq+(x:Int)))] _),tB 42 (by rw[iI x ae];rfl:(!(jG (s.gX.getD x iY) (s.iq+(x:Int))))=false),
     iu ((x:Int)+1) ae]<|.nil) ah)
  (λhx=>by
    exact iC (chain [tF 32 ((s.gX.length:Int)<s.gX.length) ae]<|.nil) ah) ak:jv 5 f157 (XJ s 0) (.exit 0) ⟨85,true,[(3,.box 3 0),(1,.box 1 0)],[(3,.cells 25 [(iP s.iq),(jL s.gX),(jP s.ik)]),(1,.cells 28 [(iP s.iq),(jL s.gX),(jP s.ik),(iP s.iA),(j8 s.params)])]⟩) .nil,.c (N5 s ae ae ae ae g:gW 232 [(jP s.ik),(.fn 233 [(.kz 3 λj_=>[(iP s.iq),(jL s.gX),(jP s.ik)].getD j_ .any)])] _),tB 47 (by rw[hu];rfl:(!(vY s))=true)]<|.nil) ah 
theorem alV(s:jt)(g:s.jg)(sm:s.mj)(i0:0<=s.iq)(i8:s.iq<=8)(l1:s.gX.length<=200)(l2:s.ik.length<=200)(iI:∀ k,k<s.gX.length->(jG (s.gX.getD k iY) (s.iq+(k:Int)))=true)(hu:vY s=true)(hc:¬(1<=s.iA/\s.iA<=4/\(s.ik.length:Int)=s.iA/\s.iq=s.iA+(s.params.length:Int)/\s.params.length<=4)):gW 157 [(lg s)] (bP false):=by
 have sp:=sm.params;exact tr true call157 func157 (chain [tF 10 (s.iq<0) ae,tF 14 (8<s.iq) ae,tF 20 (200<(s.gX.length:Int)) ae,tF 26 (200<(s.ik.length:Int)) ae,.s (Sp.jy (XK s) 0 s.gX.length ae (λx hx kn=>by
    have np:=g.gX x;exact iC (chain [tT 32 ((x:Int)<s.gX.length) ae,iX ((x:Int)) (s.gX.length) ae,iu (s.iq+(x:Int)) ae,.c (FW _ _ np:gW 231 [(rn (s.gX.getD x iY)),(iP (s.iq+(x:Int)))] _),tB 42 (by rw[iI x ae];rfl:(!(jG (s.gX.getD x iY) (s.iq+(x:Int))))=false),
     iu ((x:Int)+1) ae]<|.nil) ah)
  (λhx=>by
    exact iC (chain [tF 32 ((s.gX.length:Int)<s.gX.length) ae]<|.nil) ah) ak:jv 5 f157 (XK s 0) (.exit 0) ⟨85,true,[(3,.box 3 0),(1,.box 1 0)],[(3,.cells 25 [(iP s.iq),(jL s.gX),(jP s.ik)]),(1,.cells 28 [(iP s.iq),(jL s.gX),(jP s.ik),(iP s.iA),(j8 s.params)])]⟩) .nil,.c (N5 s ae ae ae ae g:gW 232 [(jP s.ik),(.fn 233 [(.kz 3 λj_=>[(iP s.iq),(jL s.gX),(jP s.ik)].getD j_ .any)])] _),tB 47 (by rw[hu];rfl:(!(vY s))=false)]<|.w (s.iA<1)
  (λk1=>chain [tB 50 (aT k1)]<|.nil)
  (λk1=>chain [tB 50 (aU k1)]<|.w (4<s.iA)
   (λk2=>chain [tB 54 (aT k2)]<|.nil)
   (λk2=>chain [tB 54 (aU k2)]<|.w ((s.ik.length:Int)=s.iA)
    (λk3=>chain [tB 62 (aP k3),iu (s.iA+(s.params.length:Int)) ae]<|.w (s.iq=(s.iA+(s.params.length:Int)))
     (λk4=>chain [tB 73 (aP k4)]<|.w (4<(s.params.length:Int))
      (λk5=>chain [tB 79 (aT k5)]<|.nil)
      (λk5=>.x ae))
     (λk4=>chain [tB 73 (aQ k4)]<|.nil))
    (λk3=>chain [tB 62 (aQ k3)]<|.nil)))) ah 
theorem alW(s:jt)(g:s.jg)(sm:s.mj)(i0:0<=s.iq)(i8:s.iq<=8)(l1:s.gX.length<=200)(l2:s.ik.length<=200)(iI:∀ k,k<s.gX.length->(jG (s.gX.getD k iY) (s.iq+(k:Int)))=true)(hu:vY s=true)(s1:1<=s.iA)(s4:s.iA<=4)(e1:(s.ik.length:Int)=s.iA)(e2:s.iq=s.iA+(s.params.length:Int))(p4:s.params.length<=4):gW 157 [(lg s)] (bP (DZ s)):=by
 have sp:=sm.params;exact tr true call157 func157 (chain [tF 10 (s.iq<0) ae,tF 14 (8<s.iq) ae,tF 20 (200<(s.gX.length:Int)) ae,tF 26 (200<(s.ik.length:Int)) ae,.s (Sp.jy (XL s) 0 s.gX.length ae (λx hx kn=>by
    have np:=g.gX x;exact iC (chain [tT 32 ((x:Int)<s.gX.length) ae,iX ((x:Int)) (s.gX.length) ae,iu (s.iq+(x:Int)) ae,.c (FW _ _ np:gW 231 [(rn (s.gX.getD x iY)),(iP (s.iq+(x:Int)))] _),tB 42 (by rw[iI x ae];rfl:(!(jG (s.gX.getD x iY) (s.iq+(x:Int))))=false),
     iu ((x:Int)+1) ae]<|.nil) ah)
  (λhx=>by
    exact iC (chain [tF 32 ((s.gX.length:Int)<s.gX.length) ae]<|.nil) ah) ak:jv 5 f157 (XL s 0) (.exit 0) ⟨85,true,[(3,.box 3 0),(1,.box 1 0)],[(3,.cells 25 [(iP s.iq),(jL s.gX),(jP s.ik)]),(1,.cells 28 [(iP s.iq),(jL s.gX),(jP s.ik),(iP s.iA),(j8 s.params)])]⟩) .nil,.c (N5 s ae ae ae ae g:gW 232 [(jP s.ik),(.fn 233 [(.kz 3 λj_=>[(iP s.iq),(jL s.gX),(jP s.ik)].getD j_ .any)])] _),tB 47 (by rw[hu];rfl:(!(vY s))=false),tF 50 (s.iA<1) ae,tF 54 (4<s.iA) ae,tB 62 (by simp[e1]:((s.ik.length:Int) != s.iA)=false),iu (s.iA+(s.params.length:Int)) ae,tB 73 (by simp[e2]:(s.iq != (s.iA+(s.params.length:Int)))=false),tF 79 (4<(s.params.length:Int)) ae,.c (We 234 s.params (λi=>alQ _ (g.params i)) ae:gW 40 [(j8 s.params),(.fn 234 [])] _)]<|rQ (bP (!(!(DZ s)))) (bP (DZ s)) (nk aj)) ah 
theorem Yw(s:jt)(g:s.jg)(sm:s.mj):gW 157 [lg s] (bP (mE s)):=by
 by_cases c1:0<=s.iq/\s.iq<=8/\s.gX.length<=200/\s.ik.length<=200
 rotate_left
 .rw [show mE s=false by unfold mE;rw[aU c1];rfl]
  exact alS s g sm c1
 obtain⟨i0,i8,l1,l2⟩:=c1;by_cases c2:Gl s=true
 rotate_left
 .rw [show mE s=false by unfold mE;rw[aO c2];simp]
  obtain⟨N,n1,n2,n3⟩:=yC c2;exact alT s g sm i0 i8 l1 l2 N n1 (λk hk=>by simpa using n3 k hk) (by simpa using n2)
 have iI:∀ k,k<s.gX.length->jG (s.gX.getD k iY) (s.iq+(k:Int))=true:=λk hk=>bH.1 c2 k (bI.2 hk)
 cases hu:vY s with
 |false=>
  rw[show mE s=false by unfold mE;rw[hu];simp];exact alU s g sm i0 i8 l1 l2 iI hu
 |true=>
  by_cases c3:1<=s.iA/\s.iA<=4/\(s.ik.length:Int)=s.iA/\s.iq=s.iA+(s.params.length:Int)/\s.params.length<=4
  .rw [show mE s=DZ s by unfold mE;rw[aT (⟨i0,i8,l1,l2⟩:_/\_),c2,hu,aT c3];simp]
   obtain⟨s1,s4,e1,e2,p4⟩:=c3;exact alW s g sm i0 i8 l1 l2 iI hu s1 s4 e1 e2 p4
  .rw [show mE s=false by unfold mE;rw[aU c3];simp]
   exact alV s g sm i0 i8 l1 l2 iI hu c3
theorem KN(s:jt)(b:List RI)(gb:∀ i,(b.getD i ju).jg)(nn:b.length<=1000):gW 113 [(lg s),(j8 b)] (bP (qs s.iA b)):=
 tr true call113 func113 (.w ((b.length:Int)=s.iA)
  (λk1=>chain [tB 9 (aM k1),.c (We 187 b (λi=>aaH _ (gb i)) nn:gW 40 [(j8 b),(.fn 187 [])] _)]<|rQ (bP (!(!((List.range b.length).all λi=>nA (b.getD i ju))))) (bP (qs s.iA b)) (nk (by unfold qs;simp[k1])))
  (λk1=>chain [tB 9 (aK k1)]<|rQ (bP false) (bP (qs s.iA b)) (nk (by unfold qs;simp[k1])))) ah 
theorem ad2(s:jt)(g:s.jg)(sm:s.mj)(x:List RI)(gx:∀ i,(x.getD i ju).jg)(lv:x.length<=1000)(d:RD)(gd:d.jg)(p:Int)(hd:¬d.Ok):gW 107 [(lg s),(j8 x),(mf d),(iP p)] (bP (mQ s x d p)):=by
 have vw:yb d=false:=aO λq=>hd (vX.1 q)
 exact tr true call107 func107 (chain [.c (Yw _ g sm:gW 157 [(lg s)] _)]<|.w (mE s=true)
  (λk1=>chain [tB 10 (k1),.c (KN _ _ gx lv:gW 113 [(lg s),(j8 x)] _)]<|.w (qs s.iA x=true)
   (λk2=>chain [tB 14 (k2),.c (Bq _ af false (by simp[hd]):gW 92 [(mf d)] _)]<|rQ (bP false) (bP (mQ s x d p)) (nk (by unfold mQ;simp[vw,k1,k2])))
   (λk2=>chain [tB 14 (aO k2)]<|rQ (bP false) (bP (mQ s x d p)) (nk (by unfold mQ;simp[vw,k1,k2]))))
  (λk1=>chain [tB 10 (aO k1)]<|rQ (bP false) (bP (mQ s x d p)) (nk (by unfold mQ;simp[vw,k1])))) ah 
theorem ad3(s:jt)(g:s.jg)(sm:s.mj)(x:List RI)(gx:∀ i,(x.getD i ju).jg)(lv:x.length<=1000)(d:RD)(gd:d.jg)(p:Int)(hd:d.Ok):gW 107 [(lg s),(j8 x),(gZ d.dy),(iP p)] (bP (mQ s x d p)):=by
 have vw:yb d=true:=vX.2 hd;have hv:=hd.valid;exact tr true call107 func107 (chain [.c (Yw _ g sm:gW 157 [(lg s)] _)]<|.w (mE s=true)
  (λk1=>chain [tB 10 (k1),.c (KN _ _ gx lv:gW 113 [(lg s),(j8 x)] _)]<|.w (qs s.iA x=true)
   (λk2=>chain [tB 14 (k2),.c (qu _ af:gW 92 [(gZ d.dy)] _),.c (og _ af:gW 46 [(gZ d.dy)] _)]<|.w (0<(Dy.iK d.dy))
    (λk3=>chain [tB 23 (aT k3)]<|.w (8<=p)
     (λk4=>chain [tB 27 (aT k4)]<|rQ (bP (decide (p<=512))) (bP (mQ s x d p)) (nk (by unfold mQ;simp[vw,k1,k2,k3,k4])))
     (λk4=>chain [tB 27 (aU k4)]<|rQ (bP false) (bP (mQ s x d p)) (nk (by unfold mQ;simp[vw,k1,k2,k3,k4]))))
    (λk3=>chain [tB 23 (aU k3)]<|rQ (bP false) (bP (mQ s x d p)) (nk (by unfold mQ;simp[vw,k1,k2,k3]))))
   (λk2=>chain [tB 14 (aO k2)]<|rQ (bP false) (bP (mQ s x d p)) (nk (by unfold mQ;simp[vw,k1,k2]))))
  (λk1=>chain [tB 10 (aO k1)]<|rQ (bP false) (bP (mQ s x d p)) (nk (by unfold mQ;simp[vw,k1])))) ah 
theorem Sn(s:jt)(g:s.jg)(sm:s.mj)(x:List RI)(gx:∀ i,(x.getD i ju).jg)(lv:x.length<=1000)(d:RD)(gd:d.jg)(p:Int):gW 107 [lg s,j8 x,mf d,iP p] (bP (mQ s x d p)):=by
 by_cases hd:d.Ok
 .have:=ad3 s g sm x gx lv d gd p hd
  rwa[<-Lh,hd.eq gd]at this
 .exact ad2 s g sm x gx lv d gd p hd
theorem V8{a b c d e f:Int}(ha:ky .i64 a)(hb:ky .i64 b)(hc:ky .i64 c)(hd:ky .i64 d)(he:ky .i64 e)(hf:ky .i64 f):
 prog.keyLits 10 74 [.int .i64 a,.int .i64 b,.int .i64 c,.int .i64 d,.int .i64 e,.int .i64 f]=some [.int .i64 a,.int .i64 b,.int .i64 c,.int .i64 d,.int .i64 e,.int .i64 f]:=by
 have c1:prog.cellsOf 74=6:= ah ;have c2:prog.cellsOf 3=1:= ah ;have c3:prog.cellsOf 72=2:= ah ;have r:prog.keyLits 9 72 [.int .i64 e,.int .i64 f]=some [.int .i64 e,.int .i64 f]:=by
  unfold Program.keyLits;rw[underlying72];simp[c3,c2,fc,AH he,AH hf]
 unfold Program.keyLits;rw[underlying74];simp[c1,c2,c3,fc,AH ha,AH hb,AH hc,AH hd,r]
theorem Jz{a b c d e f a' b' c' d' e' f':Int}(ha:ky .i64 a)(hb:ky .i64 b)(hc:ky .i64 c)(hd:ky .i64 d)(he:ky .i64 e)(hf:ky .i64 f)
 (C5:ky .i64 a') (mA:ky .i64 b') (yP:ky .i64 c') (wN:ky .i64 d') (he':ky .i64 e') (hf':ky .i64 f'):
 pG prog .eql 74 (.agg [iP a,iP b,iP c,iP d,iP e,iP f]) (.agg [iP a',iP b',iP c',iP d',iP e',iP f']) (.bool (decide (a=a'/\b=b'/\c=c'/\d=d'/\e=e'/\f=f'))):=
 ahW (V8 ha hb hc hd he hf) (V8 C5 mA yP wN he' hf') ah ah rfl
theorem uN:ky .i64 0:=by unfold ky;decide
theorem amF{d:Int}(h0:0<=d)(h:d<=1073741824):IntKind.u64.wrap d=(d.natAbs:Int):=by rw[IntKind.wrap_u64];omega
theorem Q8{a b:Nat}:0<=kf a b↔b<=a:=by
 unfold kf;split
 .simp;omega
 .split<;>simp<;>omega
theorem WI(m n:Nat)(hl:(gV m).length<=1000)(hn:n<=65536):gW 246 [gY (gV m),iP (n:Int)] (gY (gV (m*2^n))):=
 F1 (kE m) call246 (λA c w h _=>ajU A c (gV m) n w h hl hn) λA c B w e w' h hB r=>by rw[jC]at r;exact rl B w e w' hB r
theorem ai7(m n:Nat)(hl:(gV m).length<=3000)(hn:(gV n).length<=3000):gW 247 [gY (gV m),gY (gV n)] (gY (gV (m+n))):=
 AS (kE m) (kE n) call247 (λA c B d w h k _=>ajX A B c d (gV m) (gV n) w h k hl hn) λB w e w' hB r=>by rw[jC,jC]at r;exact rl B w e w' hB r
theorem WJ(m n:Nat)(hl:(gV m).length<=3000)(hn:n<=m):gW 248 [gY (gV m),gY (gV n)] (gY (gV (m-n))):=
 AS (kE m) (kE n) call248 (λA c B d w h k _=>ajV A B c d (gV m) (gV n) w h k hl (me hn) (by rw[jC,jC];exact hn)) λB w e w' hB r=>by rw[jC,jC]at r;exact rl B w e w' hB r
theorem ai6(m n:Nat)(hl:(gV m).length<=3000)(hn:(gV n).length<=3000):gW 156 [gY (gV m),gY (gV n)] (iP (kf m n)):=by
 refine AS (kE m) (kE n) call156 (λA c B d w h k _=>Xs A B c d (gV m) (gV n) w h k (tX _) (tX _) ae ae) ?_;rw[jC,jC];exact rv
theorem Xv(a b:Dy)(ha:uX a)(hb:uX b):gW 172 [(gZ a),(gZ b)] (gZ (iJ a b)):=by
 obtain⟨ha1,ha2,ha3⟩:=ha;obtain⟨jb,mn,pz⟩:=hb;have ba:=wq ha1;have bb:=wq jb;obtain⟨k,hk⟩:∃ k,min a.e b.e=k:=⟨_,rfl⟩
 exact tr true call172 func172 (.w (((gV a.m).length:Int)=0)
  (λk1=>by
   have a0:a.m=0:=qZ.1 ae;exact chain [tB 11 (aM k1)]<|rQ (gZ b) (gZ (iJ a b)) (by rw[show iJ a b=b by unfold iJ;rw[aS a0]]))
  (λk1=>by
   have a0:a.m≠0:=λh=>k1 (by rw[qZ.2 h];rfl)
   exact chain [tB 11 (aK k1)]<|.w (((gV b.m).length:Int)=0)
    (λk2=>by
     have b0:b.m=0:=qZ.1 ae;exact chain [tB 16 (aM k2)]<|rQ (gZ a) (gZ (iJ a b)) (by rw[show iJ a b=a by unfold iJ;rw[aR a0,aS b0]]))
    (λk2=>by
     have b0:b.m≠0:=λh=>k2 (by rw[qZ.2 h];rfl)
     have hX:(gV (a.m*2^((a.e-k).toNat))).length<=1400:=ns (by rw[qt a0];omega);have hY:(gV (b.m*2^((b.e-k).toNat))).length<=1400:=ns (by rw[qt b0];omega);have hP:=U2 hX hY;have hM:(gV ((a.m*2^((a.e-k).toNat))-(b.m*2^((b.e-k).toNat)))).length<=1400:=aY (me (dm _ _)) hX;have hN:(gV ((b.m*2^((b.e-k).toNat))-(a.m*2^((a.e-k).toNat)))).length<=1400:=aY (me (dm _ _)) hY;exact chain [tB 16 (aK k2),.o 22 (.int (by rw[<-hk];split<;>omega):PV.le (.e (iP (if b.e<a.e then b.e else a.e))) (.e (iP k))),iu (a.e-k) ae,.o 28 (.int ae:PV.le (.e (iP (a.e-k))) (.e (iP ((a.e-k).toNat:Int)))),.c (WI _ _ ae ae:gW 246 [(gY (gV a.m)),(iP ((a.e-k).toNat:Int))] _),iu (b.e-k) ae,.o 35 (.int ae:PV.le (.e (iP (b.e-k))) (.e (iP ((b.e-k).toNat:Int)))),.c (WI _ _ ae ae:gW 246 [(gY (gV b.m)),(iP ((b.e-k).toNat:Int))] _)]<|.w (a.neg=b.neg)
      (λk3=>chain [tB 41 (aM k3),.c (ai7 _ _ ae ae:gW 247 [(gY (gV (a.m*2^((a.e-k).toNat)))),(gY (gV (b.m*2^((b.e-k).toNat))))] _),.c (DU _ _ _ ae ae ae:gW 186 [(bP a.neg),(gY (gV ((a.m*2^((a.e-k).toNat))+(b.m*2^((b.e-k).toNat))))),(iP k)] _)]<|rQ (gZ (canon a.neg ((a.m*2^((a.e-k).toNat))+(b.m*2^((b.e-k).toNat))) k)) (gZ (iJ a b)) (by have h:=Ys (s:=a.neg) a0 b0 hk;rw[show(⟨a.neg,b.m,b.e⟩:Dy)=b by rw[k3]]at h;exact congrArg gZ h.symm))
      (λk3=>chain [tB 41 (aK k3),.c (ai6 _ _ ae ae:gW 156 [(gY (gV (a.m*2^((a.e-k).toNat)))),(gY (gV (b.m*2^((b.e-k).toNat))))] _)]<|.w (0<=(kf (a.m*2^((a.e-k).toNat)) (b.m*2^((b.e-k).toNat))))
       (λk4=>by
        have hc:(b.m*2^((b.e-k).toNat))<=(a.m*2^((a.e-k).toNat)):=Q8.1 k4;exact chain [tB 52 (aT k4),.c (WJ _ _ ae ae:gW 248 [(gY (gV (a.m*2^((a.e-k).toNat)))),(gY (gV (b.m*2^((b.e-k).toNat))))] _),.c (DU _ _ _ ae ae ae:gW 186 [(bP a.neg),(gY (gV ((a.m*2^((a.e-k).toNat))-(b.m*2^((b.e-k).toNat))))),(iP k)] _)]<|rQ (gZ (canon a.neg ((a.m*2^((a.e-k).toNat))-(b.m*2^((b.e-k).toNat))) k)) (gZ (iJ a b)) (congrArg gZ (Yq (s:=a.neg) (t:=b.neg) a0 b0 hk k3 hc).symm))
       (λk4=>by
        have hc:(a.m*2^((a.e-k).toNat))<(b.m*2^((b.e-k).toNat)):=gG λh=>k4 (Q8.2 h)
        exact chain [tB 52 (aU k4),.c (WJ _ _ ae ae:gW 248 [(gY (gV (b.m*2^((b.e-k).toNat)))),(gY (gV (a.m*2^((a.e-k).toNat))))] _),.c (DU _ _ _ ae ae ae:gW 186 [(bP b.neg),(gY (gV ((b.m*2^((b.e-k).toNat))-(a.m*2^((a.e-k).toNat))))),(iP k)] _)]<|rQ (gZ (canon b.neg ((b.m*2^((b.e-k).toNat))-(a.m*2^((a.e-k).toNat))) k)) (gZ (iJ a b)) (congrArg gZ (Yr (s:=a.neg) (t:=b.neg) a0 b0 hk k3 hc).symm)))))) ah 
theorem Cb(a b:Dy)(ha:uX a)(hb:uX b):gW 97 [(gZ a),(gZ b)] (iP (jo a b)):=by
 have hn:uX (iF b):=⟨hb.len,hb.lo,hb.hi⟩
 exact tr true call97 func97 (chain [.c (vW _:gW 53 [(gZ a)] _),.c (vW _:gW 53 [(gZ b)] _)]<|.w ((Dy.iK a)=(Dy.iK b))
  (λk1=>chain [tB 13 (aP k1)]<|.w ((Dy.iK a)=0)
   (λk2=>chain [tB 18 (aM k2)]<|rQ (iP 0) (iP (jo a b)) (by rw[CK,aR (by simpa using k1),aS k2]))
   (λk2=>chain [tB 18 (aK k2),.c (JM _ ha:gW 171 [(gZ a)] _),.c (JM _ hb:gW 171 [(gZ b)] _)]<|.w ((Dy.iw a)=(Dy.iw b))
    (λk3=>chain [tB 23 (aP k3),.c (sc _:gW 146 [(gZ b)] _),.c (Xv _ _ ha hn:gW 172 [(gZ a),(gZ (iF b))] _),.c (vW _:gW 53 [(gZ (iJ a (iF b)))] _)]<|rQ (iP (Dy.iK (iJ a (iF b)))) (iP (jo a b)) (by rw[CK,aR (by simpa using k1),aR k2,aR (by simpa using k3)]))
    (λk3=>chain [tB 23 (aQ k3),.c (JM _ ha:gW 171 [(gZ a)] _),.c (JM _ hb:gW 171 [(gZ b)] _)]<|.w ((decide ((Dy.iw a)<(Dy.iw b)))=(decide (0<(Dy.iK a))))
     (λk4=>chain [tB 31 (aM k4)]<|rQ (iP (-1)) (iP (jo a b)) (by rw[CK,aR (by simpa using k1),aR k2,aS k3,aS (by simpa using k4)]))
     (λk4=>chain [tB 31 (aK k4)]<|rQ (iP 1) (iP (jo a b)) (by rw[CK,aR (by simpa using k1),aR k2,aS k3,aR (by simpa using k4)])))))
  (λk1=>chain [tB 13 (aQ k1)]<|.w ((Dy.iK a)<(Dy.iK b))
   (λk2=>chain [tB 16 (aT k2)]<|rQ (iP (-1)) (iP (jo a b)) (by rw[CK,aS k1,aS k2]))
   (λk2=>chain [tB 16 (aU k2)]<|rQ (iP 1) (iP (jo a b)) (by rw[CK,aS k1,aR k2])))) ah 
end Go.Proofs.YtkjkcjhacddojaaGreatDoor
