/- Texts: Ze Zg Zh Zi Bn Bp Zj Zl Bq Zf Zk Br Bt Bs Bv Bu Bw Bx By Xa Xr Xc Xb Bi Bc Sa Bh Bg Jc Bd Be Bf Xf Xd. -/
import Derived.Test.YtdgnpeddgdclhaaGreatDoorM03
import Derived.DeepKeys
set_option linter.unusedSimpArgs false
set_option linter.unusedVariables false
set_option linter.defProp false
set_option maxHeartbeats 4000000
namespace Go.Proofs.YtdgnpeddgdclhaaGreatDoor
open Go.RowKit Fp Pu
theorem LR{y:Iv}{r:Rat}(hy:y.Valid)(h:y.has r){p:Nat}(dW:8<=p)(dR:p<=512):∀ j,j<4294967296->(oZ y p j).has (EQ r j)
 | 0,_=>by
  have:EQ r 0=1:=by unfold EQ;simp only[et,eQ];grind
  rw[this];exact tC 1
 | j+1,hj=>sJ (xB hy dW dR j) (qI hy dW dR (j+1)) ae ae (LR hy h dW dR j ae) (Jm hy dW dR h (j+1) hj)
theorem Wi{y:Iv}(h:y.all=true){p N:Nat}(hN:1<=N):(sP y p N).all=true:=by
 have ht:(gE y p N).all=true:=by
  cases hc:(gE y p N).all
  .obtain ⟨d,rfl⟩:∃ d,N=1+d:=⟨N-1, ae⟩
   have:=QP hc;rw[QQ h]at this;cases this
  .rfl
 unfold sP;rw[xf p (.inr (by unfold my;rw[ht];simpa using ht))];rfl
theorem Wj{y:Iv}{r:Rat}(hy:y.Valid)(h:y.has r)(hr:eA r*2<=1){p:Nat}(dW:8<=p)(dR:p<=512){N:Nat}(hN:1<=N)(nR:N<=1000)(M:Nat)(hM:N<=M):(sP y p N).has (EQ r M):=by
 obtain⟨d,rfl⟩:∃ d,M=N+d:=⟨M-N, ae⟩
 have e1:EQ r (N+d)=EQ r N+et (fun i=>eQ r (N+1+i)) d:=by
  unfold EQ;rw[show N+d+1=N+1+d by omega,ze]
 have hz:=(iQ r).1;have t:=JB hz (J:=1) (by exact hr) (show 1<=N+1 by omega) d;have p0:=qg hz (N+1+d);have b1:eA (et (fun i=>eQ r (N+1+i)) d)<=et (fun i=>eQ (eA r) (N+1+i)) d:=by
  have:=xd (fun i=>eQ r (N+1+i)) d;rwa[lF d fun i _=>zZ r (N+1+i)]at this
 have e3:eQ (eA r) (N+1)*2<=eQ (eA r) N:=JA hz (J:=1) (by exact hr) (show 1<=N by omega);rw[e1];refine sJ (xB hy dW dR N) (xj (qI hy dW dR N)) ae ae (LR hy h dW dR N ae) (Kk (qI hy dW dR N) (Jm hy dW dR h N ae) ?_);rw[zZ];grind
theorem Wk{y:Iv}{r:Rat}(hy:y.Valid)(h:y.has r)(hb:y.all=true\/Sub y (kJ (-1))){p:Nat}(dW:8<=p)(dR:p<=512){N:Nat}(hN:1<=N)(nR:N<=1000):kI (EQ r) (sP y p N):=by
 rcases hb with hb|hb
 .exact kI.all (Wi hb hN)
 .refine kI.Iz (k:=N) fun M hM=>Wj hy h ?_ dW dR hN nR M hM
  obtain⟨b1,b2⟩:=xm.1 (hb.has h);have e:P2 (-1)=1/2:= ar ;rw[e]at b1 b2;have:=sH (x:=r) (b:=1/2) aq aq 
  grind
def jX(x:Iv)(p:Nat):Iv:=if(fz x).all then dV else gN (ff (rq (fz x).lo (fz x).lo) p false) (fg (rq (fz x).lo (fz x).lo) p false) (ff (rq (fz x).hi (fz x).hi) p true) (fg (rq (fz x).hi (fz x).hi) p true)
theorem J2{x:Iv}(xa:x.all=false):0<=(fz x).lo.q:=by
 unfold fz;rw[xa];show 0<=(j9 x).q;unfold j9;split
 .rw [pR];exact bw
 .obtain ⟨_,_,m⟩:=wN (ij x.lo) (ij x.hi)
  rcases m with m|m<;>rw[m]
  .exact (tJ x.lo).1
  .exact (tJ x.hi).1
theorem uf(x:Iv):(fz x).all=x.all:=by unfold fz;cases h:x.all<;>simp[h,dV]
theorem Jr{x:Iv}(hx:x.Valid){p:Nat}(hp:1<=p)(dR:p<=4096){r:Rat}(h:x.has r):(jX x p).has (r*r):=by
 unfold jX;rw[uf];cases xa:x.all
 .simp only[aT,aL]
  obtain⟨s,hs,h0,e⟩:∃ s,(fz x).has s/\0<=s/\r*r=s*s:=by
   by_cases hr:0<=r
   .exact ⟨r,Cd hx h (.inl ⟨rfl,hr⟩),hr,rfl⟩
   .exact ⟨-r,Cd hx h (.inr ⟨rfl, aq⟩), aq, aq⟩
  have hl:=J2 xa;have ya:(fz x).all=false:=by rw[uf];exact xa
  obtain⟨s1,s2⟩:=hs.ends ya;rw[e];unfold gN;split
  .exact .inl rfl
  .rename_i he
   have A:=po (oW (fz x).lo (fz x).lo) hp dR;have B:=pS (oW (fz x).hi (fz x).hi) hp dR;rw[qG]at A B;have a1:=(A.1 ae).2;have b1:=(B.1 ae).2;refine .inr ⟨?_,?_⟩
   .have m1:=bJ s1 hl
    have m2:=bT s1 h0;show _<=s*s;exact aU a1 (aU m1 (by rw[agV s];rw[agV (fz x).lo.q s];exact m2))
   .have m1:=bJ s2 h0
    have m2:=bT s2 (aU h0 s2);exact aU (aU m1 m2) b1
 .exact .inl rfl
theorem El{x:Iv}(hx:x.Valid){p:Nat}(hp:1<=p)(dR:p<=4096):(jX x p).Valid:=by
 cases xa:x.all
 .have h1:=Jr hx hp dR hx.rZ
  unfold jX at h1 ⊢;rw[uf,xa]at h1 ⊢;simp only[aT,aL]at h1 ⊢;unfold gN at h1 ⊢;split
  .exact gZ
  .rename_i he
   rw[aB he]at h1;obtain⟨h2,h3⟩:=h1.ends rfl;refine .inr ⟨rfl,kq _ hp dR _,kq _ hp dR _,?_⟩;rw[ke];exact aU h2 h3
 .unfold jX
  rw[uf,xa];exact gZ
theorem kI.sqr{f:Nat->Rat}{X:Iv}(hx:X.Valid)(h:kI f X){p:Nat}(hp:1<=p)(dR:p<=4096):kI (fun N=>f N*f N) (jX X p):=by
 cases xa:X.all
 .intro ε hε
  obtain⟨B,hB⟩:∃ B,B=eA X.lo.q+eA X.hi.q+1:=⟨_,rfl⟩
  have a0:=iQ X.lo.q;have b0:=iQ X.hi.q;have hB1:1<=B:= aq ;have F8:0<2*B:= aq ;obtain⟨δ,hδ⟩:∃ δ,δ=min 1 (ε/(2*B)):=⟨_,rfl⟩
  have hεB:0<ε/(2*B):=by rw[b9];exact de hε (Rat.inv_pos.2 F8)
  have NJ:0<δ:=by rw[hδ];grind
  have ZC:δ<=1:=by rw[hδ];grind
  have hδ2:δ*(2*B)<=ε:=by
   have h1:δ<=ε/(2*B):=by rw[hδ];grind
   have h2:=bJ h1 (aZ F8);rwa[cS aq]at h2
  obtain⟨N0,h0⟩:=h δ NJ;refine⟨N0,fun N hN=>?_⟩;obtain⟨r,hr,hd⟩:=h0 N hN;refine⟨r*r,Jr hx hp dR hr,?_⟩;obtain⟨r1,r2⟩:=hr.ends xa;rw[show f N*f N-r*r=(f N-r)*(f N+r)by grind,sI];have hs:eA (f N+r)<=2*B:=by
   obtain⟨_,c2,c3,_⟩:=iQ (f N-r);exact sH aq aq 
  have h3:=bT hs (iQ (f N-r)).1;have h4:=bJ hd (aZ F8)
  grind
 .exact kI.all (by unfold jX;rw[uf,xa];rfl)
theorem Sa(r:Rat):∀ ε,0<ε->∃ N0,∀ N,N0<=N->eA (EQ r N-EQ (r*P2 (-1)) N*EQ (r*P2 (-1)) N)<=ε:=by
 intro ε hε;have e:r*P2 (-1)+r*P2 (-1)=r:=by
  have:P2 (-1)=1/2:= ar ;rw[this];grind
 have:=EI (r*P2 (-1)) (r*P2 (-1)) hε;rwa[e]at this
theorem aay{r:Rat}{X:Iv}(hx:X.Valid)(h:kI (EQ (r*P2 (-1))) X){p:Nat}(hp:1<=p)(dR:p<=4096):kI (EQ r) (jX X p):=(h.sqr hx hp dR).shift (Sa r)
theorem ad6{y:Iv}{n:Int}(h:Sub y (kJ n)):(iN y (-1)).all=true\/Sub (iN y (-1)) (kJ (n-1)):=by
 obtain⟨ya,k1,k2⟩:=h.known rfl;replace k1:(eD (lg n)).q<=y.lo.q:=k1;replace k2:y.hi.q<=(lg n).q:=k2;rw[iB,mq]at k1;rw[mq]at k2;unfold iN gN;rw[ya];simp only[aT,aL];split
 .exact .inl rfl
 .rename_i he
  have e:P2 (n-1)=P2 n*P2 (-1):=by rw[<-lG];congr 1
  refine .inr (.inr ⟨rfl,?_,?_⟩)
  .show (eD (lg (n-1))).q<=(kf y.lo (-1)).q
   rw[iB,mq,uX ae,e,<-Rat.neg_mul,qC];exact k1
  .show (kf y.hi (-1)).q<=(lg (n-1)).q
   rw[mq,uX ae,e,qC];exact k2
open Go.RowKit Fp Pu
def oR(z:Rat)(k:Nat):Rat:=jq z (2*k+1)/((2*k+1:Nat):Rat)
def AQ(z:Rat)(N:Nat):Rat:=et (oR z) (N+1)
def jE(z:Iv)(p:Nat):Nat->Iv
 | 0=>z
 | k+1=>e9 (jE z p k) (jX z p) p
def pL(z:Iv)(p:Nat):Nat->Iv
 | 0=>z
 | k+1=>fp (pL z p k) (gj (jE z p (k+1)) (eO ((2*k+3:Nat):Int)) p) p
noncomputable def yD(z:Iv)(p N:Nat):Iv:=iN (fp (pL z p N) (my (jE z p N)) p) 1
theorem sk{z:Iv}(hz:z.Valid){p:Nat}(dW:8<=p)(dR:p<=512):∀ k,(jE z p k).Valid
 | 0=>hz
 | _+1=>nF _ _ ae ae 
theorem wC{z:Iv}(hz:z.Valid){p:Nat}(dW:8<=p)(dR:p<=512):∀ k,(pL z p k).Valid
 | 0=>hz
 | k+1=>nN (wC hz dW dR k) (qU _ _ ae ae) ae ae 
theorem aaw{z:Iv}(hz:z.Valid){p:Nat}(dW:8<=p)(dR:p<=512)(N:Nat):(yD z p N).Valid:=Ef (nN (wC hz dW dR N) (xj (sk hz dW dR N)) ae ae) 1
theorem Jf(r:Rat)(k:Nat):jq r (2*(k+1)+1)=jq r (2*k+1)*(r*r):=by
 show jq r (2*k+1)*r*r=_
 grind
theorem HI{z:Iv}{r:Rat}(hz:z.Valid)(h:z.has r){p:Nat}(dW:8<=p)(dR:p<=512):∀ k,(jE z p k).has (jq r (2*k+1))
 | 0=>by
  have e:jq r (2*0+1)=r:=by show 1*r=r;grind
  rw[e];exact h
 | k+1=>by
  rw[Jf];exact DM (sk hz dW dR k) (El hz ae ae) ae ae (HI hz h dW dR k) (Jr hz ae ae h)
theorem Og{z:Iv}{r:Rat}(hz:z.Valid)(h:z.has r){p:Nat}(dW:8<=p)(dR:p<=512):∀ k,k<1000000->(pL z p k).has (AQ r k)
 | 0,_=>by
  have e:AQ r 0=r:=by
   show 0+1*r/((2*0+1:Nat):Rat)=r;have:((2*0+1:Nat):Rat)=1:=rfl;rw[this,b9,show(1:Rat)⁻¹=1 by decide +kernel];grind
  rw[e];exact h
 | k+1,hk=>sJ (wC hz dW dR k) (qU _ _ ae ae) ae ae (Og hz h dW dR k ae)
  (CB (sk hz dW dR (k+1)) (It (2*k+3) ae) ae ae (HI hz h dW dR (k+1)) (Pp (2*k+3)))
theorem ES(r:Rat):∀ n,eA (jq r n)=jq (eA r) n
 | 0=>by show eA 1=1;decide +kernel
 | n+1=>by simp only[jq];rw[sI,ES r n]
theorem Sw(r:Rat)(k:Nat):eA (oR r k)<=jq (eA r) (2*k+1):=by
 unfold oR;have hp:(0:Rat)<((2*k+1:Nat):Rat):=uM (2*k);have h1:(1:Rat)<=((2*k+1:Nat):Rat):=by
  have:=cK (a:=1) (b:=2*k+1);exact this.2 ae 
 have h0:=sB (iQ r).1 (2*k+1);rw[b9,sI,ES];have hi:=Rat.inv_pos.2 hp;have e:eA (((2*k+1:Nat):Rat)⁻¹)=((2*k+1:Nat):Rat)⁻¹:=by unfold eA;rw[aC (aZ hi)]
 rw[e,<-b9];have x0:=Ls h0 hp;have xc:=cS (a:=jq (eA r) (2*k+1)) (b:=((2*k+1:Nat):Rat)) aq;generalize jq (eA r) (2*k+1)/((2*k+1:Nat):Rat)=x at *
 have:=bT h1 x0
 grind
theorem Kl{r:Rat}(hr:eA r*2<=1)(N:Nat):∀ d,et (fun i=>eA (oR r (N+1+i))) d+jq (eA r) (2*(N+d)+1)<=jq (eA r) (2*N+1)
 | 0=>by simp only[et,bd];grind
 | d+1=>by
  have ih:=Kl hr N d;have h1:=Sw r (N+1+d);have e:2*(N+1+d)+1=2*(N+d+1)+1:= ae ;rw[e,Jf]at h1;have e2:2*(N+(d+1))+1=2*(N+d+1)+1:= ae ;rw[e2,Jf,et];have h0:=sB (iQ r).1 (2*(N+d)+1);have hz:=(iQ r).1;have hs:eA r*eA r*4<=1:=by
   have m:=bT hr (show 0<=eA r*2 by grind)
   grind
  generalize jq (eA r) (2*(N+d)+1)=u at *
  generalize eA r*eA r=v at *
  have m2:=bT hs h0
  grind
theorem aav{z:Iv}{r:Rat}(hz:z.Valid)(h:z.has r)(hr:eA r*2<=1){p:Nat}(dW:8<=p)(dR:p<=512){N:Nat}(hN:N<=1000):∀ M,N<=M->(yD z p N).has (AQ r M*2):=by
 intro M hM;obtain⟨d,rfl⟩:∃ d,M=N+d:=⟨M-N, ae⟩
 have e1:AQ r (N+d)=AQ r N+et (fun i=>oR r (N+1+i)) d:=by
  unfold AQ;rw[show N+d+1=N+1+d by omega,ze]
 have t:=Kl hr N d;have b1:=xd (fun i=>oR r (N+1+i)) d;have p0:=sB (iQ r).1 (2*(N+d)+1);have e2:P2 1=2:= ar ;rw[<-e2,e1];refine Jk (sJ (wC hz dW dR N) (xj (sk hz dW dR N)) ae ae (Og hz h dW dR N ae) (Kk (sk hz dW dR N) (HI hz h dW dR N) ?_)) 1;rw[ES];grind
theorem aeG{z:Iv}(hz:z.Valid)(h:Sub z (kJ (-1))){p:Nat}(dW:8<=p)(dR:p<=512):Sub (jX z p) (kJ (-1)):=by
 obtain⟨za,k1,k2⟩:=h.known rfl;replace k1:(eD (lg (-1))).q<=z.lo.q:=k1;replace k2:z.hi.q<=(lg (-1)).q:=k2;have e:P2 (-1)=1/2:= ar ;rw[iB,mq,e]at k1;rw[mq,e]at k2;have hl:=J2 za;have ha:(fz z).Valid:=zw hz;have hq:=ha.q;have hh:(fz z).hi.q<=1/2:=by
  unfold fz;rw[za];show(iY z).q<=1/2;obtain⟨_,_,m⟩:=wD hz.q;have:=hz.q;rcases m with m|m<;>grind
 have G1:=ua (p:=p) ae (n:=-1) ag ag;have A:=po (oW (fz z).lo (fz z).lo) (p:=p) ae ae;have B:=pS (oW (fz z).hi (fz z).hi) (p:=p) ae ae;rw[qG]at A B;rw[e]at G1;have eC:0<=(fz z).lo.q*(fz z).lo.q:=bk hl hl;have YJ:(fz z).hi.q*(fz z).hi.q<=1/2:=by
  have h0:0<=(fz z).hi.q:=aU hl hq;have m:=bT hh h0
  grind
 have a1:=A.2 (-(1/2)) G1.neg aq;have b1:=B.2 (1/2) G1 YJ;unfold jX gN;rw[uf,za];simp only[aT,aL];rw[aB ae];refine .inr ⟨rfl,?_,?_⟩
 .show (eD (lg (-1))).q<=_
  rw[iB,mq,e];exact a1.2
 .show _<=(lg (-1)).q
  rw[mq,e];exact b1.2
theorem Of{z:Iv}(hz:z.Valid)(h:Sub z (kJ (-1))){p:Nat}(dW:8<=p)(dR:p<=512):∀ k,k<=900->Sub (jE z p k) (kJ (-((k+1:Nat):Int)))
 | 0,_=>h
 | k+1,hk=>by
  have ih:=Of hz h dW dR k ae;have sq:=aeG hz h dW dR;have vT:=sk hz dW dR k;obtain⟨ta,_⟩:=ih.known rfl;obtain⟨ya,_⟩:=sq.known rfl;exact zF (Bc vT (El hz ae ae) ta ya (show 1<=p by omega) ae) ae ae ae (by
   rintro r ⟨a,b,ha,hb,rfl⟩;obtain⟨a1,a2⟩:=xm.1 (ih.has ha);obtain⟨b1,b2⟩:=xm.1 (sq.has hb);rw[<-MJ];exact J5 a1 a2 b1 b2)
theorem aax{z:Iv}(hz:z.Valid)(h:z.all=true\/Sub z (kJ (-1))){p:Nat}(dW:8<=p)(dR:p<=512):∃ N,N<=1000/\(∀ x,x<N->kg (jE z p x) p=false)/\kg (jE z p N) p=true:=by
 have ex:∃ x,x<900/\kg (jE z p x) p=true:=by
  rcases h with h|h
  .exact ⟨0, ae,by show kg z p=true;unfold kg;rw[h];rfl⟩
  .exact ⟨p, ae,Rt (sk hz dW dR _) (Of hz h dW dR p ae)⟩
 obtain⟨N,n1,n2,n3⟩:=oK ex;exact⟨N, ae,n3,n2⟩
theorem SI{a b:Rat}(h:a<=b)(k:Nat):oR a k<=oR b k:=by
 unfold oR;rw[b9,b9];exact bJ (Je ae h) (aZ (Rat.inv_pos.2 (uM (2*k))))
theorem B7{a b:Rat}(h:a<=b)(N:Nat):AQ a N<=AQ b N:=wW _ fun k _=>SI h k
open Go.RowKit Fp Pu
theorem Bz{d:Dy}(h:d.m≠0):eA d.q<P2 d.dX:=by
 have hT:d.dX=(dU d.m:Int)+d.e:=by unfold Dy.dX;rw[aB h]
 have h1:(d.m:Rat)<((2^dU d.m:Nat):Rat):=Rat.natCast_lt_natCast.2 (mE d.m);have h2:=dg h1 (jr d.e);rw[<-rI,<-lG]at h2;have h0:0<=(d.m:Rat)*P2 d.e:=bk cj (aZ (jr _));have h4:eA d.q=(d.m:Rat)*P2 d.e:=by
  rw[lW];unfold eA;cases d.neg
  .simp only[aT,aL];rw[aC h0]
  .simp only[aW]
   split<;>grind
 rw[h4,hT];exact h2
theorem IS{d:Dy}(h:d.m≠0):P2 (d.dX-1)<=eA d.q:=by
 have hT:d.dX=(dU d.m:Int)+d.e:=by unfold Dy.dX;rw[aB h]
 have hb:0<dU d.m:=pM.2 (by rw[bG];omega);have h1:2^(dU d.m-1)<=d.m:=pM.1 ae;have h2:((2^(dU d.m-1):Nat):Rat)<=(d.m:Rat):=cK.2 h1;have h3:=bJ h2 (aZ (jr d.e));rw[<-rI,<-lG,show((dU d.m-1:Nat):Int)+d.e=d.dX-1 by rw[hT];omega]at h3;have h4:eA d.q=(d.m:Rat)*P2 d.e:=by
  have h0:0<=(d.m:Rat)*P2 d.e:=bk cj (aZ (jr _));rw[lW];unfold eA;cases d.neg
  .simp only[aT,aL];rw[aC h0]
  .simp only[aW]
   split<;>grind
 rw[h4];exact h3
theorem yS{d:Dy}(h:0<d.q):d.m≠0:=fun e=>by
 have:d.q=0:=by rw[lW,e];simp
 grind
theorem Ce{r:Rat}(h:0<r):eA r=r:=by unfold eA;rw[aC (aZ h)]
def qB(d:Dy):Rat:=d.q*P2 (-d.dX)
def tY(d:Dy):Rat:=(qB d-1)/(qB d+1)
theorem JU(k:Int):P2 k*P2 (-k)=1:=by rw[<-lG,show k + -k=0 by omega,Ca]
theorem OS{d:Dy}(h:0<d.q):1/2<=qB d/\qB d<1:=by
 have h1:=IS (yS h);have h2:=Bz (yS h);rw[Ce h]at h1 h2;have hp:=jr (-d.dX);have e1:=JU d.dX;have e2:P2 (d.dX-1)*P2 (-d.dX)=1/2:=by
  rw[<-lG,show d.dX-1 + -d.dX = -1 by omega];decide +kernel
 have m1:=bJ h1 (aZ hp);have m2:=dg h2 hp;unfold qB;constructor<;>grind
theorem F0{a b:Rat}(ha:0<=a)(h:a<=b):(a-1)/(a+1)<=(b-1)/(b+1):=by
 have h1:0<a+1:= aq ;have h2:0<b+1:= aq ;have e1:=cS (a:=a-1) (b:=a+1) aq;have e2:=cS (a:=b-1) (b:=b+1) aq;generalize (a-1)/(a+1)=x at *
 generalize (b-1)/(b+1)=y at *
 apply cL.1;intro ek;have m1:=dg ek h1;have hy:y<1:=by
  apply Rat.not_le.1;intro hle;have:=bJ hle (aZ h2)
  grind
 have m2:=bT h (show 0<=1-y by grind)
 grind
theorem JM{d:Dy}(h:0<d.q):-(1/3)<=tY d/\tY d<=0:=by
 obtain⟨h1,h2⟩:=OS h;have a:=F0 (show(0:Rat)<=1/2 by decide +kernel) h1;have b:=F0 (show 0<=qB d by grind) (aZ h2);have e1:((1:Rat)/2-1)/(1/2+1) = -(1/3):= ar ;have e2:((1:Rat)-1)/(1+1)=0:= ar ;rw[e1]at a;rw[e2]at b;exact⟨a,b⟩
theorem EH(z:Rat)(N:Nat):AQ (-z) N = -AQ z N:=by
 have:∀ n,et (oR (-z)) n = -et (oR z) n:=by
  intro n
  induction n with
  | zero=>simp[et]
  | succ n ih=>
   rw[et,et,ih];have:oR (-z) n = -oR z n:=by
    unfold oR;rw[wU,aB ae];simp only[b9];grind
   rw[this];grind
 exact this _
theorem JN(N:Nat):AQ 0 N=0:=by
 have:=EH 0 N;rw[show -(0:Rat)=0 by decide +kernel]at this
 grind
theorem R8(N:Nat):0<=AQ (1/3) N:=by
 have:=B7 (show(0:Rat)<=1/3 by decide +kernel) N;rwa[JN]at this
def LQ(d:Dy)(N:Nat):Rat:=AQ (tY d) N*2+(d.dX:Rat)*(AQ (1/3) N*2)
theorem afk{a b:Dy}(ha:0<a.q)(h:a.q<=b.q):a.dX<=b.dX:=by
 have hb:0<b.q:= aq ;have h1:=IS (yS ha);have h2:=Bz (yS hb);rw[Ce ha]at h1;rw[Ce hb]at h2;apply bh;intro ek;have:=zi (show b.dX<=a.dX-1 by omega)
 grind
theorem Si{a b:Dy}(ha:0<a.q)(h:a.q<=b.q)(N:Nat):LQ a N<=LQ b N:=by
 have hb:0<b.q:= aq ;have ht:=afk ha h;obtain⟨a1,a2⟩:=JM ha;obtain⟨b1,b2⟩:=JM hb;have c0:=R8 N;unfold LQ;rcases Int.lt_or_eq_of_le ht with ek|heq
 .have k1:=B7 a2 N
  rw[JN]at k1;have k2:=B7 b1 N;rw[EH]at k2;have k3:(a.dX:Rat)+1<=(b.dX:Rat):=by
   have:=aha (a:=a.dX+1) (b:=b.dX);have:=this.2 ae;rwa[Rat.intCast_add]at this
  have k4:=bJ k3 (show 0<=AQ (1/3) N*2 by grind)
  grind
 .have hm:qB a<=qB b:=by
   unfold qB;rw[heq];exact bJ h (aZ (jr _))
  have hz:tY a<=tY b:=F0 (by have:=(OS ha).1;grind) hm;have:=B7 hz N;rw[heq]
  grind
theorem Sj(N:Nat):LQ ⟨false,1,0⟩ N=0:=by
 have e1:tY ⟨false,1,0⟩ = -(1/3):= ar ;have e2:((⟨false,1,0⟩:Dy).dX:Rat)=1:= ar ;unfold LQ;rw[e1,e2,EH];grind
open Go.RowKit Fp Pu
noncomputable def pf(d:Dy)(p:Nat):Iv:=iN (gW (gi d) p) (-d.dX)
noncomputable def yF(d:Dy)(p:Nat):Iv:=gj (fp (pf d p) (eO (-1)) p) (fp (pf d p) (eO 1) p) p
theorem Rz{d:Dy}(hd:d.Valid)(h:d.m≠0):-16384<=d.dX-1/\d.dX<=16384:=by
 have hT:d.dX=(dU d.m:Int)+d.e:=by unfold Dy.dX;rw[aB h]
 have hb:0<dU d.m:=pM.2 (by rw[bG];omega);have h1:=hd.range;unfold iM at h1;have h2:=hd.exp;constructor
 .omega
 .rw [hT]
  first|omega|(rcases h1 with h1|h1<;>first|omega|exact absurd h1 h)
theorem adN{d:Dy}(hd:d.Valid)(h:0<d.q){p:Nat}(dW:8<=p)(dR:p<=512)(ha:(gW (gi d) p).all=false):P2 (d.dX-1)<=(gW (gi d) p).lo.q/\(gW (gi d) p).hi.q<=P2 d.dX:=by
 have hm:=yS h;obtain⟨t1,t2⟩:=Rz hd hm;have q1:=IS hm;have q2:=Bz hm;rw[Ce h]at q1 q2;have A:=po hd.canon (p:=p) ae ae;have B:=pS hd.canon (p:=p) ae ae;have G1:G p (P2 (d.dX-1)):=.inl ⟨1,d.dX-1,by rw[rM];omega,t1,by rw[rM];omega, aj⟩;have he:¬(fg d p false≠0\/fg d p true≠0):=by
  intro hc;unfold gW gN at ha;rw[show(gi d).all=false from rfl]at ha;simp only[aT,aL]at ha;rw[aC (show fg (gi d).lo p false≠0\/fg (gi d).hi p true≠0 from hc)]at ha;cases ha
 have e1:(gW (gi d) p).lo=ff d p false/\(gW (gi d) p).hi=ff d p true:=by
  unfold gW gN;rw[show(gi d).all=false from rfl];simp only[aT,aL];rw[aB (show ¬(fg (gi d).lo p false≠0\/fg (gi d).hi p true≠0)from he)];exact⟨rfl,rfl⟩
 rw[e1.1,e1.2];refine⟨(A.2 _ G1 q1).2,?_⟩;by_cases ht:d.dX<=16383
 .have G2:G p (P2 d.dX):=.inl ⟨1,d.dX,by rw[rM];omega, ae,by rw[rM];omega, aj⟩
  exact(B.2 _ G2 (aZ q2)).2
 .obtain ⟨g,_⟩:=B.1 ae 
  have Nk:0<=(ff d p true).q:=aU (aZ h) (B.1 ae).2;obtain⟨m,e,hb,_,hr,hv⟩:=g.pos Nk;rw[hv];have h1:(m:Rat)<=((2^dU m:Nat):Rat):=cK.2 (cJ (mE m));have h2:=bJ h1 (aZ (jr e));rw[<-rI,<-lG]at h2;exact aU h2 (zi ae)
theorem aaL{d:Dy}(hd:d.Valid){p:Nat}(dW:8<=p)(dR:p<=512):(pf d p).has (qB d):=Jk (BE (pP hd) ae ae (IK d)) _
theorem aaN{d:Dy}(hd:d.Valid){p:Nat}(dW:8<=p)(dR:p<=512):(pf d p).Valid:=Ef (yY (pP hd) ae ae) _
theorem aaM{d:Dy}(hd:d.Valid)(h:0<d.q){p:Nat}(dW:8<=p)(dR:p<=512)(ha:(pf d p).all=false):1/2<=(pf d p).lo.q/\(pf d p).hi.q<=1:=by
 unfold pf iN at ha ⊢;cases ra:(gW (gi d) p).all
 .rw [ra]at ha
  obtain⟨h1,h2⟩:=adN hd h dW dR ra;simp only[aT,aL]at ha ⊢;unfold gN at ha ⊢;split
  .rename_i he
   rw[aC he]at ha;cases ha
  .rename_i he
   have e1:=JU d.dX;have e2:P2 (d.dX-1)*P2 (-d.dX)=1/2:=by
    rw[<-lG,show d.dX-1 + -d.dX = -1 by omega];decide +kernel
   refine⟨?_,?_⟩
   .show 1/2<=(kf _ _).q
    rw[uX ae,<-e2,qC];exact h1
   .show (kf _ _).q<=1
    rw[uX ae,<-e1,qC];exact h2
 .rw [ra]at ha;cases ha
theorem Yh{a b:Rat}(h1:-(1/2)<=a)(h2:a<=1/2)(hb:1<=b):-(1/2)<=a/b/\a/b<=1/2:=by
 have e:=cS (a:=a) (b:=b) aq;generalize a/b=x at *
 constructor
 .apply cL.1
  intro ek;have:=dg ek (show 0<b by grind)
  grind
 .apply cL.1
  intro ek;have:=dg ek (show 0<b by grind)
  grind
theorem aaO{d:Dy}(hd:d.Valid)(h:0<d.q){p:Nat}(dW:8<=p)(dR:p<=512):(yF d p).Valid/\(yF d p).has (tY d)/\((yF d p).all=true\/Sub (yF d p) (kJ (-1))):=by
 have vM:=aaN hd dW dR;have hM:=aaL hd dW dR;have vn:(eO (-1)).Valid:=qD ag;have v1:(eO 1).Valid:=qD ag;have vA:(fp (pf d p) (eO (-1)) p).Valid:=nN vM vn ae ae;have vB:(fp (pf d p) (eO 1) p).Valid:=nN vM v1 ae ae;have e1:(((-1:Int)):Rat) = -1:= ar ;have e2:(((1:Int)):Rat)=1:= ar ;have hA:=sJ vM vn (p:=p) ae ae hM (tC (-1));have hB:=sJ vM v1 (p:=p) ae ae hM (tC 1);rw[e1,show qB d + -1=qB d-1 by grind]at hA;rw[e2]at hB;refine⟨qU _ _ ae ae,CB vA vB ae ae hA hB,?_⟩;cases ma:(pf d p).all
 .right
  obtain⟨m1,m2⟩:=aaM hd h dW dR ma;have one:∀ (n:Int) r,(eO n).has r->r=(n:Rat):=fun n r hr=>by
   obtain⟨r1,r2⟩:=hr.ends rfl;replace r1:(er n).q<=r:=r1;replace r2:r<=(er n).q:=r2;rw[uT]at r1 r2;exact agW r2 r1
  have g1:G p (1/2):=by have:=ua (p:=p) ae (n:=-1) ag ag;rwa[show P2 (-1)=1/2 by decide +kernel]at this
  have g2:G p 1:=by have:=ua (p:=p) ae (n:=0) ag ag;rwa[Ca]at this
  have g4:G p 2:=by have:=ua (p:=p) ae (n:=1) ag ag;rwa[show P2 1=2 by decide +kernel]at this
  obtain⟨aa,a1,a2⟩:=(zB vM vn ma rfl (show 1<=p by omega) ae).least (-(1/2)) (1/2) g1.neg g1 (by
   rintro r ⟨a,b,ha,hb,rfl⟩;obtain⟨b1,b2⟩:=ha.ends ma;rw[one _ b hb,e1];constructor<;>grind)
  obtain⟨ba,b1,b2⟩:=(zB vM v1 ma rfl (show 1<=p by omega) ae).least 1 2 g2 g4 (by
   rintro r ⟨a,b,ha,hb,rfl⟩;obtain⟨b1,b2⟩:=ha.ends ma;rw[one _ b hb,e2];constructor<;>grind)
  refine zF (xA vA vB aa (Ej ba (.inl aq)) (show 1<=p by omega) ae) ae ag ag ?_;rintro r ⟨a,b,ha,hb,rfl⟩;obtain⟨x1,x2⟩:=ha.ends aa;obtain⟨y1,y2⟩:=hb.ends ba;rw[show P2 (-1)=1/2 by decide +kernel];exact Yh aq aq aq 
 .left
  show(gj (fp (pf d p) (eO (-1)) p) (fp (pf d p) (eO 1) p) p).all=true;rw[xf p (.inl ma),vy p (.inl rfl)];rfl
theorem Wh{d:Dy}(hd:d.Valid)(h:d.m≠0){p:Nat}(dW:8<=p)(dR:p<=512){n:Int}(h1:d.dX<=n)(h2:-1000<=n)(h3:n<=1000):Sub (gW (gi d) p) (kJ n):=by
 refine adM (pP hd) ae ae h2 h3 (.inr ⟨rfl,?_,?_⟩)
 .show (eD (lg n)).q<=d.q
  rw[iB,mq];have:=Bz h;have hl:=zi h1;obtain⟨_,a2,a3,_⟩:=iQ d.q
  grind
 .show d.q<=(lg n).q
  rw[mq];have:=Bz h;have hl:=zi h1;obtain⟨_,a2,a3,_⟩:=iQ d.q
  grind
open Go.RowKit Fp Pu
def RU(y:Iv)(p n:Nat)(x:Nat):PS:=⟨32,true,[(7,.e (iP (((x+1):Nat):Int))),(6,.box 6 0),(5,.box 5 0),(4,.box 4 0),(3,.box 3 0),(2,.box 2 0)],[(6,.cells 41 (ev (oZ y p x))),(5,.cells 41 (ev (gE y p x))),(4,.cells 41 [(bP false),(.v (.slice none 0 0)),(iP 0),(bP false),(.v (.slice none 0 0)),(iP 0),(bP false)]),(3,.cells 41 (ev y)),(2,.cells 201 [(iP p)])]⟩
theorem aaA{f:Nat->Rat}{X Y:Iv}(h:kI f X)(k:∀ r,X.has r->Y.has r):kI f Y:=fun ε hε=>by
 obtain⟨N0,h0⟩:=h ε hε;exact⟨N0,fun N hN=>by obtain⟨r,h1,h2⟩:=h0 N hN;exact⟨r,k r h1,h2⟩⟩
theorem ivW{x:Iv}(hx:x.Valid)(ha:x.all=true):x=dV:=by
 obtain⟨h1,h2⟩:=Hq hx ha;obtain⟨a,b,c⟩:=x;simp only at h1 h2 ha;rw[h1,h2,ha];rfl
theorem S5(x:Iv)(hx:x.Valid)(xa:x.all=true)(k:Int)(k1:-32768<=k)(k2:k<=32768):dM 259 [(dQ x),(iP k)] (dQ (iN x k)):=by
 exact tr true Tryz.call259 Tryz.func259 (chain [.o 10 (.e (jf _):PV.le (.e (.sl true 1 7 fun i_ j_=>(ev x).getD (i_*7+j_) (.v (.bool false)))) (.e (dY [x]))),.c (k0 _ af :dM 86 [(dY [x])] _),tB 11 (by rw[xa];rfl:(!x.all)=false),.c ji]<|rQ (dQ dV) (dQ (iN x k)) (by rw[show(iN x k)=dV by unfold iN;rw[aC xa]])) ah 
theorem S6(x:Iv)(hx:x.Valid)(xa:x.all=false)(k:Int)(k1:-32768<=k)(k2:k<=32768):dM 259 [(dQ x),(iP k)] (dQ (iN x k)):=by
 obtain⟨v1,v2⟩:=hx.ends;exact tr true Tryz.call259 Tryz.func259 (chain [.o 10 (.e (jf _):PV.le (.e (.sl true 1 7 fun i_ j_=>(ev x).getD (i_*7+j_) (.v (.bool false)))) (.e (dY [x]))),.c (k0 _ af :dM 86 [(dY [x])] _),tB 11 (by rw[xa];rfl:(!x.all)=true),.c (E4 x.lo k af ae ae),.c (E4 x.hi k af ae ae),.c (wu (fS (canon x.lo.neg x.lo.m (x.lo.e+k))) (fS (canon x.hi.neg x.hi.m (x.hi.e+k))) (iJ (canon x.lo.neg x.lo.m (x.lo.e+k))) (iJ (canon x.hi.neg x.hi.m (x.hi.e+k))))]<|rQ (dQ (gN (fS (canon x.lo.neg x.lo.m (x.lo.e+k))) (iJ (canon x.lo.neg x.lo.m (x.lo.e+k))) (fS (canon x.hi.neg x.hi.m (x.hi.e+k))) (iJ (canon x.hi.neg x.hi.m (x.hi.e+k))))) (dQ (iN x k)) (by unfold iN;rw[aB (by rw[xa];decide)];simp only[ad4,ad5])) ah 
theorem E3(x:Iv)(hx:x.Valid)(k:Int)(k1:-32768<=k)(k2:k<=32768):dM 259 [(dQ x),(iP k)] (dQ (iN x k)):=by
 cases xa:x.all with
 | true=>exact S5 x hx xa k k1 k2
 | false=>exact S6 x hx xa k k1 k2
theorem S3(x:Iv)(hx:x.Valid)(xa:x.all=true)(p:Nat)(dW:8<=p)(dR:p<=512):dM 305 [(dQ x),(iP p)] (dQ (gW x p)):=by
 exact tr true Tryz.call305 Tryz.func305 (chain [.o 10 (.e (jf _):PV.le (.e (.sl true 1 7 fun i_ j_=>(ev x).getD (i_*7+j_) (.v (.bool false)))) (.e (dY [x]))),.c (k0 _ af :dM 86 [(dY [x])] _),tB 11 (by rw[xa];rfl:(!x.all)=false),.c ji]<|rQ (dQ dV) (dQ (gW x p)) (by rw[show(gW x p)=dV by unfold gW;rw[aC xa]])) ah 
theorem S4(x:Iv)(hx:x.Valid)(xa:x.all=false)(p:Nat)(dW:8<=p)(dR:p<=512):dM 305 [(dQ x),(iP p)] (dQ (gW x p)):=by
 obtain⟨v1,v2⟩:=hx.ends;exact tr true Tryz.call305 Tryz.func305 (chain [.o 10 (.e (jf _):PV.le (.e (.sl true 1 7 fun i_ j_=>(ev x).getD (i_*7+j_) (.v (.bool false)))) (.e (dY [x]))),.c (k0 _ af :dM 86 [(dY [x])] _),tB 11 (by rw[xa];rfl:(!x.all)=true),.c (qy _:dM 87 [(iP p)] _),tB 15 (nf.2 ⟨ ae, ae⟩:(im (p:Int))=true),.c (Ck x.lo p af ae ae),.c (Cl x.hi p af ae ae),.c (wu (ff x.lo p false) (ff x.hi p true) (fg x.lo p false) (fg x.hi p true))]<|rQ (dQ (gN (ff x.lo p false) (fg x.lo p false) (ff x.hi p true) (fg x.hi p true))) (dQ (gW x p)) (by unfold gW;rw[aB (by rw[xa];decide)])) ah 
theorem zD(x:Iv)(hx:x.Valid)(p:Nat)(dW:8<=p)(dR:p<=512):dM 305 [(dQ x),(iP p)] (dQ (gW x p)):=by
 cases xa:x.all with
 | true=>exact S3 x hx xa p dW dR
 | false=>exact S4 x hx xa p dW dR
theorem S7(x:Iv)(hx:x.Valid)(xa:x.all=true)(p:Nat)(dW:8<=p)(dR:p<=512):dM 321 [(dQ x),(iP p)] (dQ (jX x p)):=by
 have ha:(fz x).all=true:=by rw[uf,xa]
 exact tr true Tryz.call321 Tryz.func321 (chain [.c (Hn x af),tB 13 (ha:(fz x).all=true),.c ji]<|rQ (dQ dV) (dQ (jX x p)) (by unfold jX;rw[aC ha])) ah 
theorem S8(x:Iv)(hx:x.Valid)(xa:x.all=false)(p:Nat)(dW:8<=p)(dR:p<=512):dM 321 [(dQ x),(iP p)] (dQ (jX x p)):=by
 have ha:(fz x).all=false:=by rw[uf,xa]
 have hv:=zw hx;obtain⟨v1,v2⟩:=hv.ends;exact tr true Tryz.call321 Tryz.func321 (chain [.c (Hn x af),tB 13 (ha:(fz x).all=false),.c (qy _:dM 87 [(iP p)] _),tB 16 (nf.2 ⟨ ae, ae⟩:(im (p:Int))=true),.c (D0 ((fz x).lo) ((fz x).lo) p af af ae ae),.c (D1 ((fz x).hi) ((fz x).hi) p af af ae ae),.c (wu (ff (iE ((fz x).lo) ((fz x).lo)) p false) (ff (iE ((fz x).hi) ((fz x).hi)) p true) (fg (iE ((fz x).lo) ((fz x).lo)) p false) (fg (iE ((fz x).hi) ((fz x).hi)) p true))]<|rQ (dQ (gN (ff (iE ((fz x).lo) ((fz x).lo)) p false) (fg (iE ((fz x).lo) ((fz x).lo)) p false) (ff (iE ((fz x).hi) ((fz x).hi)) p true) (fg (iE ((fz x).hi) ((fz x).hi)) p true))) (dQ (jX x p)) (by unfold jX;rw[aB (by rw[ha];decide)];rfl)) ah 
theorem Kw(x:Iv)(hx:x.Valid)(p:Nat)(dW:8<=p)(dR:p<=512):dM 321 [dQ x,iP (p:Int)] (dQ (jX x p)):=by
 cases xa:x.all with
 | true=>exact S7 x hx xa p dW dR
 | false=>exact S8 x hx xa p dW dR
theorem Kx(x:Iv)(hx:x.Valid)(xa:x.all=true):dM 298 [(dQ x)] (.ef [dP eW,bP false]):=by
 exact tr true Tryz.call298 Tryz.func298 (chain [.o 5 (.e (jf _):PV.le (.e (.sl true 1 7 fun i_ j_=>(ev x).getD (i_*7+j_) (.v (.bool false)))) (.e (dY [x]))),.c (k0 _ af :dM 86 [(dY [x])] _),tB 6 (by rw[xa];rfl:(!x.all)=false),.o 8 (.e rG:PV.le (.e (.agg [(bP false),(.v (.slice none 0 0)),(iP 0)])) (.e (dP eW)))]<|.nil) ah 
theorem rE(n:Int)(h:n.natAbs<4294967296):dM 303 [(iP n)] (dQ (eO n)):=by
 have hv:=jx h;exact tr true Tryz.call303 Tryz.func303 (chain [.c (ju _ ae :dM 113 [(iP n)] _),.c (uI (er n) af)]<|.nil) ah 
theorem ve(p:Nat)(x y:Iv)(hx:x.Valid)(hy:y.Valid)(dW:8<=p)(dR:p<=512):dM 308 [(.agg [(iP p)]),(dQ x),(dQ y)] (dQ (fp x y p)):=by
 exact tr true Tryz.call308 Tryz.func308 (chain [.c (yy x y p af af ae ae)]<|.nil) ah 
theorem ED(p:Nat)(x y:Iv)(hx:x.Valid)(hy:y.Valid)(dW:8<=p)(dR:p<=512):dM 310 [(.agg [(iP p)]),(dQ x),(dQ y)] (dQ (e9 x y p)):=by
 exact tr true Tryz.call310 Tryz.func310 (chain [.c (AV x y p af af ae ae)]<|.nil) ah 
theorem BZ(p:Nat)(x y:Iv)(hx:x.Valid)(hy:y.Valid)(dW:8<=p)(dR:p<=512):dM 307 [(.agg [(iP p)]),(dQ x),(dQ y)] (dQ (gj x y p)):=by
 exact tr true Tryz.call307 Tryz.func307 (chain [.c (NW x y p af af ae ae)]<|.nil) ah 
theorem afS(p:Nat)(x:Iv)(hx:x.Valid)(xa:x.all=true)(dW:8<=p)(dR:p<=512):dM 322 [(.agg [(iP p)]),(dQ x)] (bP (kg x p)):=by
 exact tr true Tryz.call322 Tryz.func322 (chain [.c (Kx _ hx xa:dM 298 [(dQ x)] _)]<|rQ (bP true) (bP (kg x p)) (by unfold kg;rw[xa];rfl)) ah 
theorem Rs{x:Iv}(xa:x.all=false)(p:Nat):kg x p=(((iY x).sign==0)||decide ((iY x).dX<=0-(p:Int))):=by
 unfold kg;rw[xa,Bool.false_or];congr 1
 .unfold Dy.sign
  by_cases h:(iY x).m=0
  .simp [h]
  .simp only[h,aL,decide_false];split<;>rfl
 .rw [show(0:Int)-(p:Int) = -(p:Int)by omega]
theorem afT(p:Nat)(x:Iv)(hx:x.Valid)(xa:x.all=false)(dW:8<=p)(dR:p<=512):dM 322 [(.agg [(iP p)]),(dQ x)] (bP (kg x p)):=by
 have hm:=DK hx.ends.1 hx.ends.2;exact tr true Tryz.call322 Tryz.func322 (chain [.c (Hp x hx xa),.c (jN _ af :dM 35 [(dP (iY x))] _)]<|.w ((Dy.sign (iY x))=0)
  (fun k1=>chain [tB 17 (ax k1)]<|rQ (bP true) (bP (kg x p)) (by rw[Rs xa];simp[k1]))
  (fun k1=>chain [tB 17 (aw k1),.c (gh _ af :dM 130 [(dP (iY x))] _),eh (0-(p:Int)) ae]<|rQ (bP (decide ((Dy.dX (iY x))<=(0-(p:Int))))) (bP (kg x p)) (by rw[Rs xa];simp[k1]))) ah 
theorem EF(p:Nat)(x:Iv)(hx:x.Valid)(dW:8<=p)(dR:p<=512):dM 322 [(.agg [(iP p)]),(dQ x)] (bP (kg x p)):=by
 cases xa:x.all with
 | true=>exact afS p x hx xa dW dR
 | false=>exact afT p x hx xa dW dR
theorem afW(x:Iv)(hx:x.Valid)(xa:x.all=true):dM 323 [(dQ x)] (dQ (my x)):=by
 exact tr true Tryz.call323 Tryz.func323 (chain [.c (Kx _ hx xa:dM 298 [(dQ x)] _),.c ji]<|rQ (dQ dV) (dQ (my x)) (by rw[show my x=dV by unfold my;rw[aC xa];exact ivW hx xa])) ah 
theorem afX(x:Iv)(hx:x.Valid)(xa:x.all=false):dM 323 [(dQ x)] (dQ (my x)):=by
 have hm:=DK hx.ends.1 hx.ends.2;exact tr true Tryz.call323 Tryz.func323 (chain [.c (Hp x hx xa),.c (sO _ af :dM 191 [(dP (iY x))] _)]<|rQ (dQ (Iv.mk (eD (iY x)) (iY x) false)) (dQ (my x)) (by unfold my;rw[aB (by rw[xa];decide)];try rfl)) ah 
theorem R1(x:Iv)(hx:x.Valid):dM 323 [dQ x] (dQ (my x)):=by
 cases xa:x.all with
 | true=>exact afW x hx xa
 | false=>exact afX x hx xa
theorem afN(y:Iv)(p n:Nat)(hy:y.Valid)(dW:8<=p)(dR:p<=512)(h2:n<=1000)(eC:∀ x,x<n->kg (gE y p (x+1)) p=false)(hN:kg (gE y p (n+1)) p=true):dM 320 [(.agg [(iP p)]),(dQ y)] (dQ (sP y p (n+1))):=by
 have t0:=qI hy dW dR n;have s0:=xB hy dW dR n;have t1:(e9 (gE y p n) y p).Valid:=nF _ _ ae ae;have n1:(eO (((n+1:Nat)):Int)).Valid:=wH _ ae;have t2:(gj (e9 (gE y p n) y p) (eO (((n+1:Nat)):Int)) p).Valid:=qU _ _ ae ae;have a1:(fp (oZ y p n) (gj (e9 (gE y p n) y p) (eO (((n+1):Nat):Int)) p) p).Valid:=nN s0 t2 ae ae;have r1:=xj t2;exact tr true Tryz.call320 Tryz.func320 (chain [.c (rE _ ae :dM 303 [(iP 1)] _),.c (rE _ ae :dM 303 [(iP 1)] _),.s (Sp.upto (RU y p n) 0 n ae (fun x hx ic=>by
    have t0:=qI hy dW dR x;have s0:=xB hy dW dR x;have t1:(e9 (gE y p x) y p).Valid:=nF _ _ ae ae;have n1:(eO (((x+1:Nat)):Int)).Valid:=wH _ ae;have t2:(gj (e9 (gE y p x) y p) (eO (((x+1:Nat)):Int)) p).Valid:=qU _ _ ae ae;exact eu (chain [.c (ED _ _ _ af af ae ae :dM 310 [(.agg [(iP p)]),(dQ (gE y p x)),(dQ y)] _),.c (rE _ ae :dM 303 [(iP (((x+1):Nat):Int))] _),.c (BZ _ _ _ af af ae ae :dM 307 [(.agg [(iP p)]),(dQ (e9 (gE y p x) y p)),(dQ (eO (((x+1):Nat):Int)))] _),.c (ve _ _ _ af af ae ae :dM 308 [(.agg [(iP p)]),(dQ (oZ y p x)),(dQ (gj (e9 (gE y p x) y p) (eO (((x+1):Nat):Int)) p))] _),.c (EF _ _ af ae ae :dM 322 [(.agg [(iP p)]),(dQ (gj (e9 (gE y p x) y p) (eO (((x+1):Nat):Int)) p))] _),tB 26 (eC x ae :(kg (gj (e9 (gE y p x) y p) (eO (((x+1):Nat):Int)) p) p)=false),eh ((((x+1):Nat):Int)+1) ae]<|.e (chain [.b 6 (.of_eq rfl:Bx.le (.cells 41 (ev (fp (oZ y p x) (gj (e9 (gE y p x) y p) (eO (((x+1):Nat):Int)) p) p))) (.cells 41 (ev (oZ y p (x+1))))),.b 5 (.of_eq rfl:Bx.le (.cells 41 (ev (gj (e9 (gE y p x) y p) (eO (((x+1):Nat):Int)) p))) (.cells 41 (ev (gE y p (x+1)))))]<|.nil)) ah)
  (fun hx=>by
    exact eu (chain [.c (ED _ _ _ af af ae ae :dM 310 [(.agg [(iP p)]),(dQ (gE y p n)),(dQ y)] _),.c (rE _ ae :dM 303 [(iP (((n+1):Nat):Int))] _),.c (BZ _ _ _ af af ae ae :dM 307 [(.agg [(iP p)]),(dQ (e9 (gE y p n) y p)),(dQ (eO (((n+1):Nat):Int)))] _),.c (ve _ _ _ af af ae ae :dM 308 [(.agg [(iP p)]),(dQ (oZ y p n)),(dQ (gj (e9 (gE y p n) y p) (eO (((n+1):Nat):Int)) p))] _),.c (EF _ _ af ae ae :dM 322 [(.agg [(iP p)]),(dQ (gj (e9 (gE y p n) y p) (eO (((n+1):Nat):Int)) p))] _),tB 26 (hN:(kg (gj (e9 (gE y p n) y p) (eO (((n+1):Nat):Int)) p) p)=true)]<|.nil) ah) ak :fP 4 Tryz.f320 (RU y p n 0) (.exit 0) ⟨32,true,[(6,.box 6 0),(5,.box 5 0),(4,.box 4 0),(2,.box 2 0)],[(6,.cells 41 (ev (fp (oZ y p n) (gj (e9 (gE y p n) y p) (eO (((n+1):Nat):Int)) p) p))),(5,.cells 41 (ev (gj (e9 (gE y p n) y p) (eO (((n+1):Nat):Int)) p))),(4,.cells 41 [(bP false),(.v (.slice none 0 0)),(iP 0),(bP false),(.v (.slice none 0 0)),(iP 0),(bP false)]),(2,.cells 201 [(iP p)])]⟩) (chain [.o 7 (.int (by first|rfl|omega|(simp only[aO,aK];omega)):PV.le (.e (iP 1)) (.e (iP (((0+1):Nat):Int)))),.b 6 (.of_eq rfl:Bx.le (.cells 41 (ev (eO 1))) (.cells 41 (ev (oZ y p 0)))),.b 5 (.of_eq rfl:Bx.le (.cells 41 (ev (eO 1))) (.cells 41 (ev (gE y p 0))))]<|.nil),.c (R1 _ af :dM 323 [(dQ (gj (e9 (gE y p n) y p) (eO (((n+1):Nat):Int)) p))] _),.c (ve _ _ _ af af ae ae :dM 308 [(.agg [(iP p)]),(dQ (fp (oZ y p n) (gj (e9 (gE y p n) y p) (eO (((n+1):Nat):Int)) p) p)),(dQ (my (gj (e9 (gE y p n) y p) (eO (((n+1):Nat):Int)) p)))] _)]<|rR (dQ (sP y p (n+1))) (.of_eq rfl:E.le (dQ (fp (fp (oZ y p n) (gj (e9 (gE y p n) y p) (eO (((n+1):Nat):Int)) p) p) (my (gj (e9 (gE y p n) y p) (eO (((n+1):Nat):Int)) p)) p)) (dQ (sP y p (n+1))))) ah 
theorem afO{y:Iv}(hy:y.Valid)(hb:y.all=true\/Sub y (kJ (-1))){p:Nat}(dW:8<=p)(dR:p<=512):∃ Z,Z.Valid/\(∀ r,y.has r->kI (EQ r) Z)/\dM 320 [.agg [iP (p:Int)],dQ y] (dQ Z):=by
 obtain⟨N,h1,h2,h3,h4⟩:=Wm hy hb dW dR;obtain⟨n,rfl⟩:∃ n,N=n+1:=⟨N-1, ae⟩
 exact⟨sP y p (n+1),Wl hy dW dR _,fun r hr=>Wk hy hr hb dW dR h1 h2,afN y p n hy dW dR ae (fun x hx=>h3 (x+1) ae ae) h4⟩
theorem afQ(y Z:Iv)(p:Nat)(X0:dM 320 [.agg [iP (p:Int)],dQ y] (dQ Z)):dM 306 [(.agg [(iP p)]),(dQ y),(iP 0)] (dQ Z):=by
 exact tr true Tryz.call306 Tryz.func306 (chain [tB 8 ( ag :((0:Int)==0)=true),.c (X0:dM 320 [(.agg [(iP p)]),(dQ y)] _)]<|.nil) ah 
theorem afP(y Z:Iv)(p n:Nat)(hy:y.Valid)(hZ:Z.Valid)(hn:n<=1000)(hH:dM 306 [.agg [iP (p:Int)],dQ (iN y (-1)),iP (n:Int)] (dQ Z))(dW:8<=p)(dR:p<=512):dM 306 [(.agg [(iP p)]),(dQ y),(iP (((n+1):Nat):Int))] (dQ (jX Z p)):=by
 exact tr true Tryz.call306 Tryz.func306 (chain [tB 8 (ko ae :((((n+1):Nat):Int)==0)=false),.c (E3 _ af _ ae ae :dM 259 [(dQ y),(iP (-1))] _),eh ((((n+1):Nat):Int)-1) ae,.c (by rw[show(((n+1:Nat):Int)-1)=(n:Int)by omega];exact hH:dM 306 [(.agg [(iP p)]),(dQ (iN y (-1))),(iP ((((n+1):Nat):Int)-1))] (dQ Z)),.c (Kw _ af _ ae ae :dM 321 [(dQ Z),(iP p)] _)]<|.nil) ah 
theorem RV{p:Nat}(dW:8<=p)(dR:p<=512):∀ (n:Nat) {y:Iv},n<=500->y.Valid->(y.all=true\/Sub y (kJ ((n:Int)-1)))->∃ Z,Z.Valid/\(∀ r,y.has r->kI (EQ r) Z)/\dM 306 [.agg [iP (p:Int)],dQ y,iP (n:Int)] (dQ Z)
 | 0,y,_,hy,hb=>by
  obtain⟨Z,h1,h2,h3⟩:=afO hy (by simpa using hb) dW dR;exact⟨Z,h1,h2,afQ y Z p h3⟩
 | n+1,y,hn,hy,hb=>by
  have hs:=Ef hy (-1);have jm:(iN y (-1)).all=true\/Sub (iN y (-1)) (kJ ((n:Int)-1)):=by
   rcases hb with hb|hb
   .left;unfold iN;rw[aC hb];rfl
   .have:=ad6 hb
    rwa[show(((n+1:Nat):Int)-1-1)=(n:Int)-1 by omega]at this
  obtain⟨Z,h1,h2,h3⟩:=RV dW dR n ae hs jm;exact⟨jX Z p,El h1 ae ae,fun r hr=>aay h1 (h2 _ (Jk hr (-1))) ae ae,afP y Z p n hy h1 ae h3 dW dR⟩
theorem JJ(p m:Nat)(h1:p<=512)(h2:m<=1000):dM 304 [(iP p),(iP m)] (.agg [iP (((min (p+m) 512:Nat)):Int)]):=by
 exact tr true Tryz.call304 Tryz.func304 (chain [eh ((p:Int)+(m:Int)) ae,.o 8 (.int au :PV.le (.e (iP (if 512<(((p+m):Nat):Int)then 512 else(((p+m):Nat):Int)))) (.e (iP (((min (p+m) 512):Nat):Int))))]<|.nil) ah 
theorem aga(d:Dy)(p:Nat)(hd:d.Valid)(h0:d.sign=0)(dW:8<=p)(dR:p<=512):dM 282 [(dP d),(iP p)] (dQ (eO 1)):=by
 exact tr true Tryz.call282 Tryz.func282 (chain [.c (jN _ af :dM 35 [(dP d)] _),tB 9 (by rw[h0];rfl:((Dy.sign d)==0)=true),.c (rE _ ae :dM 303 [(iP 1)] _)]<|.nil) ah 
theorem BR{d:Dy}(hd:d.Valid):-100000<=d.dX:=by
 unfold Dy.dX;have:=hd.exp;split<;>omega
theorem afm{d:Dy}(h:d.m=0):d.dX=0:=by unfold Dy.dX;rw[aC h]
theorem af9(d:Dy)(p:Nat)(Z:Iv)(hd:d.Valid)(h0:d.sign≠0)(ht:d.dX<=100)(hZ:Z.Valid)(hH:dM 306 [.agg [iP ((((min (p+(((d.dX+1).toNat)+24)) 512):Nat)):Int)],dQ (gW (gi d) (min (p+(((d.dX+1).toNat)+24)) 512)),iP (((((d.dX+1).toNat):Nat)):Int)] (dQ Z))(dW:8<=p)(dR:p<=512):dM 282 [(dP d),(iP p)] (dQ (gW Z p)):=by
 have nW:-100000<=d.dX:=BR hd;have vp:=pP hd;exact tr true Tryz.call282 Tryz.func282 (chain [.c (jN _ af :dM 35 [(dP d)] _),tB 9 (by simpa using h0:((Dy.sign d)==0)=false),.c (gh _ af :dM 130 [(dP d)] _),eh ((Dy.dX d)+1) ae,.o 14 (.int au :PV.le (.e (iP (if 0>((Dy.dX d)+1)then 0 else((Dy.dX d)+1)))) (.e (iP ((d.dX+1).toNat:Int)))),eh (((d.dX+1).toNat:Int)+24) ae,.c (JJ _ _ ae ae :dM 304 [(iP p),(iP (((((d.dX+1).toNat)+24):Nat):Int))] _),.c (uI d af),.c (zD _ af _ ae ae :dM 305 [(dQ (gi d)),(iP (((min (p+(((d.dX+1).toNat)+24)) 512):Nat):Int))] _),.c (hH:dM 306 [(.agg [(iP (((min (p+(((d.dX+1).toNat)+24)) 512):Nat):Int))]),(dQ (gW (gi d) (min (p+(((d.dX+1).toNat)+24)) 512))),(iP ((d.dX+1).toNat:Int))] _),.c (zD _ af _ ae ae :dM 305 [(dQ Z),(iP p)] _)]<|.nil) ah 
theorem aem{d:Dy}(h:d.sign≠0):d.m≠0:=fun q=>h (by unfold Dy.sign;rw[aC q])
theorem R4{d:Dy}(hd:d.Valid)(ht:d.dX<=100){p:Nat}(dW:8<=p)(dR:p<=512):∃ Z,Z.Valid/\kI (EQ d.q) Z/\dM 282 [dP d,iP (p:Int)] (dQ Z):=by
 by_cases h0:d.sign=0
 .refine ⟨eO 1,qD ag,?_,aga d p hd h0 dW dR⟩
  have hq:d.q=0:=by
   have h1:=kp d;rw[h0]at h1;have a:=h1.1.2;have b:=h1.2.2;have:¬0<d.q:=fun q=>absurd (a q) ag 
   have:¬d.q<0:=fun q=>absurd (b q) ag 
   grind
  rw[hq];exact kI.Iz (k:=0) fun N _=>by rw[Se];exact tC 1
 .have hm:=aem h0
  obtain⟨P,hP⟩:∃ P,P=min (p+((d.dX+1).toNat+24)) 512:=⟨_,rfl⟩
  have hb:=Wh hd hm (p:=P) ae ae (n:=((d.dX+1).toNat:Int)-1) ae ae ae;obtain⟨Z,h1,h2,h3⟩:=RV (p:=P) ae ae ((d.dX+1).toNat) ae (yY (pP hd) ae ae) (.inr hb);subst hP;refine⟨gW Z p,yY h1 ae ae,?_,af9 d p Z hd h0 ht h1 h3 dW dR⟩;have hl:=h2 _ (BE (pP hd) ae ae (IK d));exact aaA hl fun r hr=>BE h1 ae ae hr
theorem R2(a b:Iv)(ha:a.Valid)(hb:b.Valid):dM 281 [(dQ a),(dQ b)] (dQ (py a b)):=by
 exact tr true Tryz.call281 Tryz.func281 (.w (a.all=true)
  (fun k1=>chain [tB 6 (k1),.c ji]<|rQ (dQ dV) (dQ (py a b)) (by unfold py;simp[k1]))
  (fun k1=>chain [tB 6 (ay k1)]<|.w (b.all=true)
   (fun k2=>chain [tB 9 (k2),.c ji]<|rQ (dQ dV) (dQ (py a b)) (by unfold py;simp[k1,k2]))
   (fun k2=>chain [tB 9 (ay k2)]<|rQ (dQ (Iv.mk a.lo b.hi false)) (dQ (py a b)) (by unfold py;simp[k1,k2])))) ah 
def oN(d:Dy):Bool:=decide (ew (ij d) (er 1000)<=0)
theorem B2(d:Dy)(hd:d.Valid):dM 280 [(dP d)] (bP (oN d)):=by
 have ha:=sG hd;have hi:(er 1000).Valid:=jx ag;exact tr true Tryz.call280 Tryz.func280 (chain [.c (zY d af),.c (ju _ ae :dM 113 [(iP 1000)] _),.c (gU _ _ af af :dM 37 [(dP (ij d)),(dP (er 1000))] _)]<|.nil) ah 
theorem wY(x:Iv)(p:Nat)(hx:x.Valid)(dW:8<=p)(dR:p<=512):dM 279 [(dQ x),(iP p)] (bP (!x.all)):=by
 exact tr true Tryz.call279 Tryz.func279 (.w (x.all=true)
  (fun k1=>chain [tB 6 (k1)]<|rQ (bP false) (bP (!x.all)) (by simp[k1]))
  (fun k1=>chain [tB 6 (ay k1),.c (iS x af),tT 14 (8<=(p:Int)) ae,tT 18 ((p:Int)<=512) ae]<|rQ (bP true) (bP (!x.all)) (by simp[k1]))) ah 
theorem afY(x:Iv)(p:Nat)(hx:x.Valid)(dW:8<=p)(dR:p<=512)(xa:x.all=true):dM 242 [(dQ x),(iP p)] (dQ dV):=by
 exact tr true Tryz.call242 Tryz.func242 (chain [.c (wY _ _ af ae ae :dM 279 [(dQ x),(iP p)] _),tB 7 (by rw[xa];rfl:(!x.all)=false),.c ji]<|.nil) ah 
theorem af1(x:Iv)(p:Nat)(hx:x.Valid)(dW:8<=p)(dR:p<=512)(xa:x.all=false)(h1:oN x.lo=false):dM 242 [(dQ x),(iP p)] (dQ dV):=by
 obtain⟨w1,w2⟩:=hx.ends;exact tr true Tryz.call242 Tryz.func242 (chain [.c (wY _ _ af ae ae :dM 279 [(dQ x),(iP p)] _),tB 7 (by rw[xa];rfl:(!x.all)=true),.c (B2 _ af :dM 280 [(dP x.lo)] _),tB 12 (h1:(oN x.lo)=false),.c ji]<|.nil) ah 
theorem afZ(x:Iv)(p:Nat)(hx:x.Valid)(dW:8<=p)(dR:p<=512)(xa:x.all=false)(h1:oN x.lo=true)(h2:oN x.hi=false):dM 242 [(dQ x),(iP p)] (dQ dV):=by
 obtain⟨w1,w2⟩:=hx.ends;exact tr true Tryz.call242 Tryz.func242 (chain [.c (wY _ _ af ae ae :dM 279 [(dQ x),(iP p)] _),tB 7 (by rw[xa];rfl:(!x.all)=true),.c (B2 _ af :dM 280 [(dP x.lo)] _),tB 12 (h1:(oN x.lo)=true),.c (B2 _ af :dM 280 [(dP x.hi)] _),tB 18 (h2:(oN x.hi)=false),.c ji]<|.nil) ah 
theorem af0(x:Iv)(p:Nat)(hx:x.Valid)(dW:8<=p)(dR:p<=512)(xa:x.all=false)(h1:oN x.lo=true)(h2:oN x.hi=true)(Z1 Z2:Iv)(z1:Z1.Valid)(z2:Z2.Valid)(k1:dM 282 [dP x.lo,iP (p:Int)] (dQ Z1))(k2:dM 282 [dP x.hi,iP (p:Int)] (dQ Z2)):dM 242 [(dQ x),(iP p)] (dQ (py Z1 Z2)):=by
 obtain⟨w1,w2⟩:=hx.ends;exact tr true Tryz.call242 Tryz.func242 (chain [.c (wY _ _ af ae ae :dM 279 [(dQ x),(iP p)] _),tB 7 (by rw[xa];rfl:(!x.all)=true),.c (B2 _ af :dM 280 [(dP x.lo)] _),tB 12 (h1:(oN x.lo)=true),.c (B2 _ af :dM 280 [(dP x.hi)] _),tB 18 (h2:(oN x.hi)=true),.c (k1:dM 282 [(dP x.lo),(iP p)] _),.c (k2:dM 282 [(dP x.hi),(iP p)] _),.c (R2 _ _ af af :dM 281 [(dQ Z1),(dQ Z2)] _)]<|.nil) ah 
theorem OR{d:Dy}(hd:d.Valid)(h:oN d=true):d.dX<=100:=by
 by_cases h0:d.m=0
 .rw [afm h0];decide
 .unfold oN at h
  rw[bF,ke,uT]at h;have hq:=tJ d;have ha:eA d.q<=P2 10:=by
   have:P2 10=1024:= ar ;rw[this];have XM:((1000:Int):Rat)=1000:=rfl;rw[XM]at h;exact sH aq aq 
  have:=Ry h0 ha;omega
theorem LK{a b:Iv}(ha:a.Valid)(hb:b.Valid)(h:a.all=false->b.all=false->a.lo.q<=b.hi.q):(py a b).Valid:=by
 unfold py;cases xa:a.all
 .cases xb:b.all
  .exact .inr ⟨rfl,ha.ends.1,hb.ends.2,(ke _ _).2 (h xa xb)⟩
  .exact gZ
 .exact gZ
theorem JI{x:Iv}(hx:x.Valid){p:Nat}(dW:8<=p)(dR:p<=512):∃ Z,Z.Valid/\dM 242 [dQ x,iP (p:Int)] (dQ Z):=by
 cases xa:x.all with
 | true=>exact⟨dV,gZ,afY x p hx dW dR xa⟩
 | false=>
  cases h1:oN x.lo with
  | false=>exact⟨dV,gZ,af1 x p hx dW dR xa h1⟩
  | true=>
   cases h2:oN x.hi with
   | false=>exact⟨dV,gZ,afZ x p hx dW dR xa h1 h2⟩
   | true=>
    obtain⟨w1,w2⟩:=hx.ends;obtain⟨Z1,z1,l1,k1⟩:=R4 w1 (OR w1 h1) dW dR;obtain⟨Z2,z2,l2,k2⟩:=R4 w2 (OR w2 h2) dW dR;exact⟨py Z1 Z2,LK z1 z2 fun a b=>aaz l1 l2 (fun ε hε=>Sb hx.q hε) a b,af0 x p hx dW dR xa h1 h2 Z1 Z2 z1 z2 k1 k2⟩
open Go.RowKit Fp Pu
def RW(z:Iv)(p N:Nat)(x:Nat):PS:=⟨39,true,[(8,.e (iP (((2*x+3):Nat):Int))),(7,.box 7 0),(6,.box 6 0),(5,.box 5 0),(4,.box 4 0),(2,.box 2 0)],[(7,.cells 41 (ev (pL z p x))),(6,.cells 41 (ev (jE z p x))),(5,.cells 41 (ev (jX z p))),(4,.cells 41 [(bP false),(.v (.slice none 0 0)),(iP 0),(bP false),(.v (.slice none 0 0)),(iP 0),(bP false)]),(2,.cells 201 [(iP p)])]⟩
theorem afR(z:Iv)(p N:Nat)(hz:z.Valid)(dW:8<=p)(dR:p<=512)(h2:N<=1000)(eC:∀ x,x<N->kg (jE z p x) p=false)(hN:kg (jE z p N) p=true):dM 309 [(.agg [(iP p)]),(dQ z)] (dQ (yD z p N)):=by
 have hsq:=El hz (show 1<=p by omega) (show p<=4096 by omega);have t0:=sk hz dW dR N;have s0:=wC hz dW dR N;have r0:=xj t0;have a0:=nN s0 r0 (show 1<=p by omega) (show p<=4096 by omega);exact tr true Tryz.call309 Tryz.func309 (chain [.c (Kw _ af _ ae ae :dM 321 [(dQ z),(iP p)] _),.s (Sp.upto (RW z p N) 0 N ae (fun x hx ic=>by
    have t0:=sk hz dW dR x;have s0:=wC hz dW dR x;have q0:(e9 (jE z p x) (jX z p) p).Valid:=nF _ _ ae ae;have n1:(eO (((2*x+3:Nat)):Int)).Valid:=wH _ ae;have d1:(gj (e9 (jE z p x) (jX z p) p) (eO (((2*x+3:Nat)):Int)) p).Valid:=qU _ _ ae ae;exact eu (chain [.c (EF p (jE z p x) af ae ae),tB 17 (eC x ae :(kg (jE z p x) p)=false),.c (ED p (jE z p x) (jX z p) af af ae ae),.c (rE (((2*x+3):Nat):Int) ae),.c (BZ p (e9 (jE z p x) (jX z p) p) (eO (((2*x+3):Nat):Int)) af af ae ae),.c (ve p (pL z p x) (gj (e9 (jE z p x) (jX z p) p) (eO (((2*x+3):Nat):Int)) p) af af ae ae),eh ((((2*x+3):Nat):Int)+2) ae]<|.e (chain [.o 8 (.int (by first|rfl|omega|(simp only[aO,aK];omega)):PV.le (.e (iP ((((2*x+3)+2):Nat):Int))) (.e (iP (((2*(x+1)+3):Nat):Int)))),.b 7 (.of_eq rfl:Bx.le (.cells 41 (ev (fp (pL z p x) (gj (e9 (jE z p x) (jX z p) p) (eO (((2*x+3):Nat):Int)) p) p))) (.cells 41 (ev (pL z p (x+1))))),.b 6 (.of_eq rfl:Bx.le (.cells 41 (ev (e9 (jE z p x) (jX z p) p))) (.cells 41 (ev (jE z p (x+1)))))]<|.nil)) ah)
  (fun hx=>by
    have t0:=sk hz dW dR N;have s0:=wC hz dW dR N;have q0:(e9 (jE z p N) (jX z p) p).Valid:=nF _ _ ae ae;have n1:(eO (((2*N+3:Nat)):Int)).Valid:=wH _ ae;have d1:(gj (e9 (jE z p N) (jX z p) p) (eO (((2*N+3:Nat)):Int)) p).Valid:=qU _ _ ae ae;exact eu (chain [.c (EF p (jE z p N) af ae ae),tB 17 (hN:(kg (jE z p N) p)=true)]<|.nil) ah) ak :fP 4 Tryz.f309 (RW z p N 0) (.exit 0) ⟨39,true,[(7,.box 7 0),(6,.box 6 0),(4,.box 4 0),(2,.box 2 0)],[(7,.cells 41 (ev (pL z p N))),(6,.cells 41 (ev (jE z p N))),(4,.cells 41 [(bP false),(.v (.slice none 0 0)),(iP 0),(bP false),(.v (.slice none 0 0)),(iP 0),(bP false)]),(2,.cells 201 [(iP p)])]⟩) (chain [.o 8 (.int (by first|rfl|omega|(simp only[aO,aK];omega)):PV.le (.e (iP 3)) (.e (iP (((2*0+3):Nat):Int)))),.b 7 (.of_eq rfl:Bx.le (.cells 41 (ev z)) (.cells 41 (ev (pL z p 0)))),.b 6 (.of_eq rfl:Bx.le (.cells 41 (ev z)) (.cells 41 (ev (jE z p 0))))]<|.nil),.c (R1 _ af :dM 323 [(dQ (jE z p N))] _),.c (ve p (pL z p N) (my (jE z p N)) af af ae ae),.c (E3 (fp (pL z p N) (my (jE z p N)) p) af 1 ae ae)]<|rR (dQ (yD z p N)) (.refl _:E.le (dQ (iN (fp (pL z p N) (my (jE z p N)) p) 1)) (dQ (yD z p N)))) ah 
def wZ(f:Nat->Rat)(X:Iv):Prop:=∃ N0,∀ M,N0<=M->X.has (f M)
theorem wZ.mono{f:Nat->Rat}{X Y:Iv}(h:wZ f X)(k:∀ r,X.has r->Y.has r):wZ f Y:=h.imp fun _ h M hM=>k _ (h M hM)
theorem RX{z:Iv}(hz:z.Valid)(hb:z.all=true\/Sub z (kJ (-1))){p:Nat}(dW:8<=p)(dR:p<=512):∃ Z,Z.Valid/\(∀ r,z.has r->eA r*2<=1->wZ (fun M=>AQ r M*2) Z)/\dM 309 [(.agg [(iP p)]),(dQ z)] (dQ Z):=by
 obtain⟨N,h1,h2,h3⟩:=aax hz hb dW dR;exact⟨yD z p N,aaw hz dW dR N,fun r hr ha=>⟨N,fun M hM=>aav hz hr ha dW dR h1 M hM⟩,afR z p N hz dW dR h1 h2 h3⟩
theorem afh{p:Nat}(dW:8<=p)(dR:p<=512):(gj (eO 1) (eO 3) p).Valid/\(gj (eO 1) (eO 3) p).has (1/3)/\Sub (gj (eO 1) (eO 3) p) (kJ (-1)):=by
 have v1:(eO 1).Valid:=qD ag;have v3:(eO 3).Valid:=qD ag;have h1:=tC 1;have h3:=tC 3;refine⟨qU _ _ ae ae,?_,?_⟩
 .have:=CB v1 v3 (p:=p) ae ae h1 h3
  rwa[show((1:Int):Rat)/((3:Int):Rat)=1/3 from rfl]at this
 .have hs:jc (eO 3)≠0:=Ej rfl (.inl (by show 0<(er 3).q;rw[uT];decide))
  refine zF (xA v1 v3 rfl hs (p:=p) ae ae) ae ag ag ?_;rintro r ⟨a,b,ha,hb,rfl⟩;obtain⟨a1,a2⟩:=ha.ends rfl;obtain⟨b1,b2⟩:=hb.ends rfl;change (er 1).q<=a at a1;change a<=(er 1).q at a2;change (er 3).q<=b at b1;change b<=(er 3).q at b2;rw[uT]at a1 a2 b1 b2;have ea:a=1:=agW a2 a1;have eb:b=3:=agW b2 b1;subst ea eb;have:P2 (-1)=1/2:= ar ;rw[this];exact⟨ ar, ar⟩
theorem af3(p:Nat)(Z:Iv)(hZ:Z.Valid)(hL:dM 309 [.agg [iP ((((min (p+16) 512):Nat)):Int)],dQ (gj (eO 1) (eO 3) (min (p+16) 512))] (dQ Z))(dW:8<=p)(dR:p<=512):dM 311 [(iP p)] (dQ (gW Z p)):=by
 have v1:(eO 1).Valid:=qD ag;have v3:(eO 3).Valid:=qD ag;exact tr true Tryz.call311 Tryz.func311 (chain [tF 5 ((p:Int)<8) ae,tF 8 (512<(p:Int)) ae,.c (JJ p 16 ae ae),.c (rE 1 ae),.c (rE 3 ae),.c (BZ (min (p+16) 512) (eO 1) (eO 3) af af ae ae),.c (hL:dM 309 [(.agg [(iP (((min (p+16) 512):Nat):Int))]),(dQ (gj (eO 1) (eO 3) (min (p+16) 512)))] _),.c (zD Z af p ae ae)]<|.nil) ah 
theorem af2{p:Nat}(dW:8<=p)(dR:p<=512):∃ Z,Z.Valid/\wZ (fun M=>AQ (1/3) M*2) Z/\dM 311 [iP (p:Int)] (dQ Z):=by
 obtain⟨t1,t2,t3⟩:=afh (p:=min (p+16) 512) ae ae;obtain⟨Z,h1,h2,h3⟩:=RX t1 (.inr t3) (p:=min (p+16) 512) ae ae;refine⟨gW Z p,yY h1 ae ae,(h2 _ t2 ar).mono fun r hr=>BE h1 ae ae hr,af3 p Z h1 h3 dW dR⟩
def rF:Iv:=⟨eW,eW,false⟩
theorem R6:E.le (.agg [bP false,.v (.slice none 0 0),iP 0,bP false,.v (.slice none 0 0),iP 0,bP false]) (dQ rF):=
 .agg (.cons (.refl _) (.cons yM (.cons (.refl _) (.cons (.refl _) (.cons yM (.cons (.refl _) (.cons (.refl _) .nil)))))))
theorem af7(d:Dy)(p:Nat)(hd:d.Valid)(h1:ew d ⟨false,1,0⟩=0)(dW:8<=p)(dR:p<=512):dM 283 [(dP d),(iP p)] (dQ rF):=by
 have v1:=yQ;exact tr true Tryz.call283 Tryz.func283 (chain [.c (EY:dM 113 [(iP 1)] _),.c (gU _ _ af af :dM 37 [(dP d),(dP (Dy.mk false 1 0))] _),tB 12 (by rw[h1];rfl:((ew d (Dy.mk false 1 0))==0)=true)]<|rR (dQ rF) (R6:E.le (.agg [(bP false),(.v (.slice none 0 0)),(iP 0),(bP false),(.v (.slice none 0 0)),(iP 0),(bP false)]) (dQ rF))) ah 
theorem af8(d:Dy)(p:Nat)(Z Y:Iv)(hd:d.Valid)(h1:¬ew d ⟨false,1,0⟩=0)(Ns:-20000<=d.dX)(nW:d.dX<=20000)(hZ:Z.Valid)(hY:Y.Valid)(hL:dM 309 [.agg [iP ((((min (p+40) 512):Nat)):Int)],dQ (gj (fp (iN (gW (gi d) (min (p+40) 512)) (0-(Dy.dX d))) (eO (-1)) (min (p+40) 512)) (fp (iN (gW (gi d) (min (p+40) 512)) (0-(Dy.dX d))) (eO 1) (min (p+40) 512)) (min (p+40) 512))] (dQ Z))(X2:dM 311 [iP ((((min (p+40) 512):Nat)):Int)] (dQ Y))(dW:8<=p)(dR:p<=512):dM 283 [(dP d),(iP p)] (dQ (gW (fp Z (e9 (eO d.dX) Y (min (p+40) 512)) (min (p+40) 512)) p)):=by
 have v1:=yQ;have vp:=pP hd;have vr:(gW (gi d) (min (p+40) 512)).Valid:=yY vp ae ae;have vs:(iN (gW (gi d) (min (p+40) 512)) (0-(Dy.dX d))).Valid:=Ef vr _;have n1:(eO 1).Valid:=qD ag;have n2:(eO (-1)).Valid:=qD ag;have a1:(fp (iN (gW (gi d) (min (p+40) 512)) (0-(Dy.dX d))) (eO (-1)) (min (p+40) 512)).Valid:=nN vs n2 ae ae;have a2:(fp (iN (gW (gi d) (min (p+40) 512)) (0-(Dy.dX d))) (eO 1) (min (p+40) 512)).Valid:=nN vs n1 ae ae;have a3:(gj (fp (iN (gW (gi d) (min (p+40) 512)) (0-(Dy.dX d))) (eO (-1)) (min (p+40) 512)) (fp (iN (gW (gi d) (min (p+40) 512)) (0-(Dy.dX d))) (eO 1) (min (p+40) 512)) (min (p+40) 512)).Valid:=qU _ _ ae ae;have nt:(eO d.dX).Valid:=qD ae;have m1:(e9 (eO d.dX) Y (min (p+40) 512)).Valid:=nF _ _ ae ae;have m2:(fp Z (e9 (eO d.dX) Y (min (p+40) 512)) (min (p+40) 512)).Valid:=nN hZ m1 ae ae;exact tr true Tryz.call283 Tryz.func283 (chain [.c (EY:dM 113 [(iP 1)] _),.c (gU _ _ af af :dM 37 [(dP d),(dP (Dy.mk false 1 0))] _),tB 12 (by simpa using h1:((ew d (Dy.mk false 1 0))==0)=false),.c (JJ p 40 ae ae),.c (gh _ af :dM 130 [(dP d)] _),.c (uI d af),.c (zD (gi d) af (min (p+40) 512) ae ae),
  eh (0-(Dy.dX d)) ae,.c (E3 (gW (gi d) (min (p+40) 512)) af (0-(Dy.dX d)) ae ae),.c (rE (-1) ae),.c (ve (min (p+40) 512) (iN (gW (gi d) (min (p+40) 512)) (0-(Dy.dX d))) (eO (-1)) af af ae ae),.c (rE 1 ae),.c (ve (min (p+40) 512) (iN (gW (gi d) (min (p+40) 512)) (0-(Dy.dX d))) (eO 1) af af ae ae),.c (BZ (min (p+40) 512) (fp (iN (gW (gi d) (min (p+40) 512)) (0-(Dy.dX d))) (eO (-1)) (min (p+40) 512)) (fp (iN (gW (gi d) (min (p+40) 512)) (0-(Dy.dX d))) (eO 1) (min (p+40) 512)) af af ae ae),.c (hL:dM 309 [(.agg [(iP (((min (p+40) 512):Nat):Int))]),(dQ (gj (fp (iN (gW (gi d) (min (p+40) 512)) (0-(Dy.dX d))) (eO (-1)) (min (p+40) 512)) (fp (iN (gW (gi d) (min (p+40) 512)) (0-(Dy.dX d))) (eO 1) (min (p+40) 512)) (min (p+40) 512)))] _),.c (rE (Dy.dX d) ae),.c (X2:dM 311 [(iP (((min (p+40) 512):Nat):Int))] _),.c (ED (min (p+40) 512) (eO (Dy.dX d)) Y af af ae ae),.c (ve (min (p+40) 512) Z (e9 (eO (Dy.dX d)) Y (min (p+40) 512)) af af ae ae),.c (zD (fp Z (e9 (eO (Dy.dX d)) Y (min (p+40) 512)) (min (p+40) 512)) af p ae ae)]<|.nil) ah 
theorem R3{d:Dy}(hd:d.Valid)(hq:0<d.q){p:Nat}(dW:8<=p)(dR:p<=512):∃ Z,Z.Valid/\wZ (LQ d) Z/\dM 283 [dP d,iP (p:Int)] (dQ Z):=by
 by_cases h1:ew d ⟨false,1,0⟩=0
 .refine ⟨rF,.inr ⟨rfl,oO,oO,uJ _⟩,⟨0,fun M _=>?_⟩,af7 d p hd h1 dW dR⟩
  have e:d=⟨false,1,0⟩:=by
   refine ab7 hd.canon yQ.canon (agW ((ke _ _).1 ae) ((ke _ _).1 ?_));rw[zL];have:=zL d ⟨false,1,0⟩;omega
  rw[e,Sj];exact .inr ⟨by show eW.q<=0;rw[pR];exact bw,by show 0<=eW.q;rw[pR];exact bw⟩
 .have hm:=yS hq
  obtain⟨t1,t2⟩:=Rz hd hm;obtain⟨P,hP⟩:∃ P,P=min (p+40) 512:=⟨_,rfl⟩
  have p1:8<=P:= ae ;have p2:P<=512:= ae ;obtain⟨z1,z2,z3⟩:=aaO hd hq p1 p2;obtain⟨Z,a1,a2,a3⟩:=RX z1 z3 p1 p2;obtain⟨Y,b1,b2,b3⟩:=af2 p1 p2;have m1:(e9 (eO d.dX) Y P).Valid:=nF _ _ ae ae;have m2:=nN a1 m1 (p:=P) ae ae;refine⟨gW (fp Z (e9 (eO d.dX) Y P) P) p,yY m2 ae ae,?_,?_⟩
  .have hz:=JM hq
   have ha:eA (tY d)*2<=1:=by
    have:=sH (x:=tY d) (b:=1/3) aq aq 
    grind
   obtain⟨N1,c1⟩:=a2 _ z2 ha;obtain⟨N2,c2⟩:=b2;refine⟨max N1 N2,fun M hM=>BE m2 ae ae ?_⟩;exact sJ a1 m1 ae ae (c1 M ae) (DM (qD ae) b1 ae ae (tC d.dX) (c2 M ae))
  .subst hP
   have e:yF d (min (p+40) 512)=gj (fp (iN (gW (gi d) (min (p+40) 512)) (0-(Dy.dX d))) (eO (-1)) (min (p+40) 512)) (fp (iN (gW (gi d) (min (p+40) 512)) (0-(Dy.dX d))) (eO 1) (min (p+40) 512)) (min (p+40) 512):=by unfold yF pf;rw[show -d.dX=0-d.dX by omega]
   rw[e]at a3;exact af8 d p Z Y hd h1 ae ae a1 b1 a3 b3 dW dR
theorem af4(x:Iv)(p:Nat)(hx:x.Valid)(dW:8<=p)(dR:p<=512)(xa:x.all=true):dM 243 [(dQ x),(iP p)] (dQ dV):=by
 exact tr true Tryz.call243 Tryz.func243 (chain [.c (wY x p af ae ae),tB 7 (by rw[xa];rfl:(!x.all)=false),.c ji]<|.nil) ah 
theorem af6(x:Iv)(p:Nat)(hx:x.Valid)(dW:8<=p)(dR:p<=512)(xa:x.all=false)(h1:x.lo.sign<=0):dM 243 [(dQ x),(iP p)] (dQ dV):=by
 obtain⟨w1,w2⟩:=hx.ends;exact tr true Tryz.call243 Tryz.func243 (chain [.c (wY x p af ae ae),tB 7 (by rw[xa];rfl:(!x.all)=true),.c (jN _ af :dM 35 [(dP x.lo)] _),tB 13 (aE h1),.c ji]<|.nil) ah 
theorem af5(x:Iv)(p:Nat)(hx:x.Valid)(dW:8<=p)(dR:p<=512)(xa:x.all=false)(h1:¬x.lo.sign<=0)(Z1 Z2:Iv)(z1:Z1.Valid)(z2:Z2.Valid)(k1:dM 283 [dP x.lo,iP (p:Int)] (dQ Z1))(k2:dM 283 [dP x.hi,iP (p:Int)] (dQ Z2)):dM 243 [(dQ x),(iP p)] (dQ (py Z1 Z2)):=by
 obtain⟨w1,w2⟩:=hx.ends;exact tr true Tryz.call243 Tryz.func243 (chain [.c (wY x p af ae ae),tB 7 (by rw[xa];rfl:(!x.all)=true),.c (jN _ af :dM 35 [(dP x.lo)] _),tB 13 (aD h1),.c (k1:dM 283 [(dP x.lo),(iP p)] _),.c (k2:dM 283 [(dP x.hi),(iP p)] _),.c (R2 Z1 Z2 af af)]<|.nil) ah 
theorem JK{x:Iv}(hx:x.Valid){p:Nat}(dW:8<=p)(dR:p<=512):∃ Z,Z.Valid/\dM 243 [dQ x,iP (p:Int)] (dQ Z):=by
 cases xa:x.all with
 | true=>exact⟨dV,gZ,af4 x p hx dW dR xa⟩
 | false=>
  by_cases h1:x.lo.sign<=0
  .exact ⟨dV,gZ,af6 x p hx dW dR xa h1⟩
  .obtain ⟨w1,w2⟩:=hx.ends
   have q1:0<x.lo.q:=(kp _).1.1 ae;have q2:0<x.hi.q:=by have:=hx.q;grind
   obtain⟨Z1,z1,⟨N1,l1⟩,k1⟩:=R3 w1 q1 dW dR;obtain⟨Z2,z2,⟨N2,l2⟩,k2⟩:=R3 w2 q2 dW dR;refine⟨py Z1 Z2,LK z1 z2 fun a b=>?_,af5 x p hx dW dR xa h1 Z1 Z2 z1 z2 k1 k2⟩;have e1:=((l1 (max N1 N2) ae).ends a).1;have e2:=((l2 (max N1 N2) ae).ends b).2;have e3:=Si q1 hx.q (max N1 N2);exact aU e1 (aU e3 e2)
open Go.RowKit Fp Pu
def isRoot(a s:Nat):Prop:=s*s<=a/\a<(s+1)*(s+1)
theorem Qz(a:Nat):∃ s,isRoot a s:=by
 induction a with
 | zero=>exact⟨0, ag, ag⟩
 | succ a ih=>
  obtain⟨s,h1,h2⟩:=ih;by_cases h:(s+1)*(s+1)<=a+1
  .refine ⟨s+1,h,?_⟩
   have:(s+1+1)*(s+1+1)=(s+1)*(s+1)+2*(s+1)+1:=by
    simp only[aO,aY,aK,bD];omega
   omega
  .exact ⟨s, ae, ae⟩
theorem adG{a s t:Nat}(h:isRoot a s)(ht:t*t<=a):t<=s:=by
 apply bh;intro ek;have:=cz (show s+1<=t by omega) (show s+1<=t by omega);have:=h.2;omega
def kF(a x:Nat):Nat:=(x+a/x)/2
theorem abl{a s x:Nat}(h:isRoot a s)(hx:0<x):s<=kF a x:=by
 unfold kF;apply bh;intro ek;have h1:x+a/x<2*s:=by generalize a/x=q at *;omega
 have h2:a<(a/x+1)*x:=by
  have:=bM a x;have:=aS a hx;rw[aO,aK,aQ (a/x)];omega
 have hq:a/x+1<=2*s-x/\x<=2*s:=by
  generalize a/x=q at *
  omega
 have h3:(a/x+1)*x<=(2*s-x)*x:=a6 x hq.1;have ags:=hq.2;have h4:(2*s-x)*x<=s*s:=by
  obtain⟨k,hk⟩:∃ k,2*s=x+k:=⟨2*s-x,by clear h1 h2 h3 ek hq;omega⟩
  rw[show 2*s-x=k by clear h1 h2 h3 ek hq;omega];clear h1 h2 h3 ek hq;rcases Nat.le_total x s with ln|ln
  .obtain ⟨e,rfl⟩:∃ e,s=x+e:=⟨s-x, ae⟩
   obtain rfl:k=x+2*e:= ae ;simp only[aO,aY,aQ x e,aP];have:0<=e*e:=bq _;have e1:e*(2*x)=2*(e*x):=cC e 2 x;omega
  .obtain ⟨e,rfl⟩:∃ e,x=s+e:=⟨x-s, ae⟩
   obtain⟨f,hf⟩:∃ f,s=k+f:=⟨s-k, ae⟩
   obtain rfl:f=e:= ae ;subst hf;simp only[aO,aY,aQ f k];have:0<=f*f:=bq _;omega
 have:=h.1;omega
theorem abk{a s x:Nat}(h:isRoot a s)(hx:0<x)(hs:s<=x)(hy:x<=kF a x):x=s:=by
 have h1:x<=a/x:=by unfold kF at hy;omega
 have h2:x*x<=a:=(ct hx).1 h1;have:=adG h h2;omega
def fR(a x:Nat):Nat->Nat
 | 0=>x
 | k+1=>kF a (fR a x k)
theorem adH(a:Nat){s:Nat}(h:isRoot a s):s<=2^((dU a+1)/2):=by
 apply bh;intro ek;have h1:(2^((dU a+1)/2))*(2^((dU a+1)/2))<=s*s:=cz ae ae;rw[<-aH]at h1;have h2:=mE a;have h3:2^dU a<=2^((dU a+1)/2+(dU a+1)/2):=aR ag ae;have:=h.1;omega
theorem adF{a x s:Nat}(h:isRoot a s)(ha:0<a)(hx:s<=x):∃ N,N<=x/\(∀ k,k<N->kF a (fR a x k)<fR a x k)/\fR a x N<=kF a (fR a x N)/\fR a x N=s/\∀ k,k<=N->s<=fR a x k/\fR a x k<=x:=by
 have hs:0<s:=by
  apply bh;intro h0;obtain rfl:s=0:= ae ;have:=h.2;omega
 have mA:∀ k,s<=fR a x k:=fun k=>by
  induction k with
  | zero=>exact hx
  | succ k ih=>exact abl h ae 
 have hex:∃ k,k<x+1/\decide (fR a x k<=kF a (fR a x k))=true:=by
  apply bh;intro hc;have hd:∀ k,k<x+1->kF a (fR a x k)<fR a x k:=fun k hk=>by
   apply bh;intro q;exact hc ⟨k,hk,aE ae⟩
  have hb:∀ k,k<=x+1->fR a x k+k<=x:=by
   intro k hk
   induction k with
   | zero=>exact aG _
   | succ k ih=>
    have:=ih ae;have:=hd k ae;show kF a (fR a x k)+(k+1)<=x;omega
  have:=hb (x+1) (aG _);omega
 obtain⟨N,n1,n2,n3⟩:=oK hex;have n2':=bV n2;have ek:∀ k,k<N->kF a (fR a x k)<fR a x k:=fun k hk=>by
  have:=aho (n3 k hk);omega
 have hle:∀ k,k<=N->fR a x k<=x:=by
  intro k hk
  induction k with
  | zero=>exact aG _
  | succ k ih=>
   have:=ih ae;have:=ek k ae;show kF a (fR a x k)<=x;omega
 have e:=abk h (by have:=mA N;omega) (mA N) n2';exact⟨N, ae,ek,n2',e,fun k hk=>⟨mA k,hle k hk⟩⟩
open Go.RowKit Fp Pu
def pT(m s:Nat)(e:Int)(p:Nat)(up:Bool):Dy:=fi false s e (decide (s*s≠m)) p up
def tN(m s:Nat)(e:Int)(p:Nat)(up:Bool):Int:=eU false s e (decide (s*s≠m)) p up
theorem aeD{m s:Nat}{e:Int}{p:Nat}(h:isRoot m s)(hb:p<dU s)(hp:1<=p)(dR:p<=4096)(he:tN m s e p false=0):0<=(pT m s e p false).q/\(pT m s e p false).q<=(s:Rat)*P2 e:=by
 unfold pT tN at *
 by_cases hx:s*s=m
 .rw [aD ae]at he ⊢
  have A:=zS false s e hp dR;rw[mQ]at A;simp only[aT,aL]at A;exact⟨(A.2 0 (.inl (sD p)) (bk cj (aZ (jr e)))).2,(A.1 he).2⟩
 .rw [aE ae]at he ⊢
  obtain⟨h1,h2⟩:=xx e hb false false;rw[h1];rw[h2]at he;have A:=zS false (2*s+1) (e-1) hp dR;rw[mQ]at A;simp only[aT,aL]at A;have h0:=(A.2 0 (.inl (sD p)) (bk cj (aZ (jr (e-1))))).2;obtain⟨g,hl⟩:=A.1 he;refine⟨h0,?_⟩;rcases F2 (e:=e) hb (g.pos h0)with k|k
  .exact k
  .exfalso
   have ee:P2 e=P2 (e-1)*2:=by
    have:=lG (e-1) 1;rw[show e-1+1=e by omega,show P2 1=2 by decide +kernel]at this;exact this
   have rj:=jr (e-1);have c1:((2*s+1:Nat):Rat)=2*(s:Rat)+1:=by rw[df,cA];rfl
   have c2:((s+1:Nat):Rat)=(s:Rat)+1:=by rw[df];rfl
   rw[c1]at hl;rw[c2,ee]at k
   grind
theorem aeC{m s:Nat}{e:Int}{p:Nat}(h:isRoot m s)(hb:p<dU s)(hp:1<=p)(dR:p<=4096)(he:tN m s e p true=0):0<=(pT m s e p true).q/\(m:Rat)*(P2 e*P2 e)<=(pT m s e p true).q*(pT m s e p true).q:=by
 have rj:=jr e;have s0:(0:Rat)<=(s:Rat):=cj;have key:∀ D:Rat,(s:Rat)*P2 e<=D->(s*s≠m->((s+1:Nat):Rat)*P2 e<=D)->0<=D/\(m:Rat)*(P2 e*P2 e)<=D*D:=by
  intro D h1 h2;have d0:0<=D:=aU (bk s0 (aZ rj)) h1;refine⟨d0,?_⟩;have sq:∀ t:Nat,m<=t*t->(t:Rat)*P2 e<=D->(m:Rat)*(P2 e*P2 e)<=D*D:=by
   intro t ht hD;have t0:(0:Rat)<=(t:Rat):=cj;have c:(m:Rat)<=(t:Rat)*(t:Rat):=by
    have:=cK.2 ht;rwa[cA]at this
   have m1:=bJ c (bk (aZ rj) (aZ rj));have m2:=bJ hD (bk t0 (aZ rj));have m3:=bT hD d0;generalize (t:Rat)=T at *
   generalize P2 e=P at *
   have e1:T*T*(P*P)=T*P*(T*P):= aq 
   grind
  by_cases hx:s*s=m
  .exact sq s ae h1
  .exact sq (s+1) (by have:=h.2;omega) (h2 hx)
 unfold pT tN at *
 by_cases hx:s*s=m
 .rw [aD ae]at he ⊢
  have A:=zT false s e hp dR;rw[mQ]at A;simp only[aT,aL]at A;exact key _ (A.1 he).2 (fun q=>absurd hx q)
 .rw [aE ae]at he ⊢
  obtain⟨h1,h2⟩:=xx e hb false true;rw[h1];rw[h2]at he;have A:=zT false (2*s+1) (e-1) hp dR;rw[mQ]at A;simp only[aT,aL]at A;obtain⟨g,hl⟩:=A.1 he;have ee:P2 e=P2 (e-1)*2:=by
   have:=lG (e-1) 1;rw[show e-1+1=e by omega,show P2 1=2 by decide +kernel]at this;exact this
  have dW:=jr (e-1);have c1:((2*s+1:Nat):Rat)=2*(s:Rat)+1:=by rw[df,cA];rfl
  rw[c1]at hl;have h0:0<=(fi false (2*s+1) (e-1) false p true).q:=aU (bk aq (aZ dW)) hl;have ek:(s:Rat)*P2 e<(fi false (2*s+1) (e-1) false p true).q:=by rw[ee];grind
  refine key _ (aZ ek) fun _=>?_
  rcases F2 (e:=e) hb (g.pos h0)with k|k
  .exact absurd ek (cL.2 k)
  .exact k
theorem aeE{a b:Rat}(ha:0<=a)(hb:0<=b)(h:a*a<=b*b):a<=b:=by
 apply cL.1;intro ek;have m1:=bT (aZ ek) hb;have m2:=dg ek (show 0<a by grind)
 grind
theorem aeF{m s n t:Nat}{e f:Int}{p:Nat}(h:isRoot m s)(k:isRoot n t)(hb:p<dU s)(kb:p<dU t)(hp:1<=p)(dR:p<=4096)(hle:(m:Rat)*(P2 e*P2 e)<=(n:Rat)*(P2 f*P2 f)):
 (gN (pT m s e p false) (tN m s e p false) (pT n t f p true) (tN n t f p true)).Valid:=by
 unfold gN;split
 .exact gZ
 .rename_i he
  obtain⟨a0,a1⟩:=aeD (e:=e) h hb hp dR ae;obtain⟨b0,b1⟩:=aeC (e:=f) k kb hp dR ae;refine .inr ⟨rfl,nQ _ _ _ _ _ _ hp dR,nQ _ _ _ _ _ _ hp dR,?_⟩;rw[ke];refine aeE a0 b0 ?_;have s0:(0:Rat)<=(s:Rat):=cj;have rj:=jr e;have m1:=bT a1 a0;have m2:=bJ a1 (bk s0 (aZ rj));have c:(s:Rat)*(s:Rat)<=(m:Rat):=by
   have:=cK.2 h.1;rwa[cA]at this
  have m3:=bJ c (bk (aZ rj) (aZ rj));generalize (pT m s e p false).q=A at *
  generalize (s:Rat)=S at *
  generalize P2 e=P at *
  have e1:S*S*(P*P)=S*P*(S*P):= aq 
  grind
open Go.RowKit Fp Pu
def Pc(m N:Nat)(x:Nat):PS:=⟨43,true,[(5,.e (dO (dN (fR m (2^((dU m+1)/2)) x)))),(0,.e (dO (dN m)))],[]⟩
theorem OZ(L M:List Nat)(hL:ej L)(hM:ej M)(h1:L.length<=3000)(h2:M.length<=3000):∃ S:List Nat,dM 260 [dO L,dO M] (dO S)/\val S=val L+val M/\ej S/\S.length=max L.length M.length+1:=by
 obtain⟨n,hn⟩:∃ n,n=max L.length M.length+1:=⟨_,rfl⟩
 have ek:val L+val M<4294967296^n:=by
  have a:=iG hL;have b:=iG hM;have e:4294967296^n=4294967296^max L.length M.length*4294967296:=by rw[hn,aN]
  have c:=aR (show 0<4294967296 by decide) (Nat.le_max_left L.length M.length);have d:=aR (show 0<4294967296 by decide) (Nat.le_max_right L.length M.length);omega
 refine⟨fw (val L+val M) n,?_,by rw[tR,bn ek],qe _ _,by rw[lJ,hn]⟩;refine uQ hL hM Tryz.call260 (fun A c B d w h k _=>Pe A B c d L M w h k h1 h2) fun B w e w' hB r=>?_
 obtain⟨S,v1,v2,v3,r⟩:=r;rw[CA v2 (by rw[v3,hn]) v1];exact rl B w e w' hB r
theorem abb(L:List Nat)(n:Nat)(hL:ej L)(h1:L.length<=3000)(hn:n<=65536):∃ S:List Nat,dM 204 [dO L,iP (n:Int)] (dO S)/\val S=val L*2^n/\ej S:=by
 obtain⟨m,hm⟩:∃ m,m=n/32+(dZ L).length+1:=⟨_,rfl⟩
 have ek:val L*2^n<4294967296^m:=by
  have a:=iG hL.dZ;rw[kS]at a;have e:4294967296^m=4294967296^(dZ L).length*2^(32*(n/32+1)):=by
   rw[hm,show n/32+(dZ L).length+1=(dZ L).length+(n/32+1)by omega,aH,Nat.pow_mul]
  rw[e];exact Nat.mul_lt_mul_of_lt_of_le a (aR ag ae) (aJ ag)
 refine⟨fw (val L*2^n) m,?_,by rw[tR,bn ek],qe _ _⟩;refine Bs hL Tryz.call204 (fun A c w h _=>Pf A c L n w h ae hn) fun A c B w e w' h hB r=>?_
 obtain⟨S,v1,v2,v3,r⟩:=r;rw[CA v2 (by rw[v3,hm]) v1];exact rl B w e w' hB r
def tM(L:List Nat):List Nat:=lX (1%32) ((dZ L).drop (1/32))
theorem Pa(L:List Nat)(hL:ej L)(h1:L.length<=3000):dM 166 [dO L,iP 1] (dO (tM L)):=
 Bs (n:=((1:Nat):Int)) hL Tryz.call166 (fun A c w h _=>Iq A c L 1 w h ae ag) fun A c B w e w' h hB r=>rl B w e w' hB r
theorem QX{L:List Nat}(hL:ej L):dZ (tM L)=dN (val L/2):=by
 unfold tM;rw[mu (uO _ _),EB hL.dZ,kS]
theorem Pm(m x:Nat):kF m x<=max x (m/x):=by
 unfold kF;generalize m/x=q;omega
theorem Om(a b:Nat):(dN (max a b)).length<=max (dN a).length (dN b).length:=by
 rcases Nat.le_total a b with h|h
 .rw [Nat.max_eq_right h];omega
 .rw [Nat.max_eq_left h];omega
theorem aa7(m:Nat)(h:(dN m).length<=256):dM 165 [dO (dN m)] (.ef [dO (dN m),iP 0]):=by
 have:=O5 (dN m) (gr m) (by rw[qK];exact h);rwa[qK]at this
theorem abd(m N:Nat)(h1:(dN m).length<=256)(h0:m≠0)(ml:∀ k,k<N->kF m (fR m (2^((dU m+1)/2)) k)<(fR m (2^((dU m+1)/2)) k))(mn:(fR m (2^((dU m+1)/2)) N)<=kF m (fR m (2^((dU m+1)/2)) N))(ik:∀ k,k<=N->0<(fR m (2^((dU m+1)/2)) k)/\(fR m (2^((dU m+1)/2)) k)<=(2^((dU m+1)/2))):dM 337 [(dO (dN m))] (.ef [dO (dN (fR m (2^((dU m+1)/2)) N)),iP 0]):=by
 have bm:=jK h0;have bl:=qR h1;have z0:(dN (2^((dU m+1)/2))).length<=256:=jF (by rw[show(2^((dU m+1)/2))=1*2^((dU m+1)/2)by omega,mg ag];show 1+_<=_;omega);have hlen:∀ k,k<=N->(dN (fR m (2^((dU m+1)/2)) k)).length<=256:=fun k hk=>aI (il (ik k hk).2) z0
 obtain⟨S0,vG,sv,oS0⟩:=abb (dN 1) ((dU m+1)/2) (gr 1) ar ae;rw[eV,aK]at sv;have X7:dM 167 [dO S0] (dO (dN (2^((dU m+1)/2)))):=by
  have:=pj S0 oS0;rwa[mu oS0,sv]at this
 have zN:=hlen N ae;exact tr true Tryz.call337 Tryz.func337 (chain [.c (aa8 (dN m) af),.c (nZ _ ae :dM 194 [(dO (dN m))] _),tB 15 (ko ae :((dU m:Int)==0)=false),.o 16 (.e one_le:PV.le (.e (.sl false 1 1 fun i_ j_=>[(.v (.int .u32 1))].getD (i_*1+j_) (.v (.bool false)))) (.e (dO (dN 1)))),eh ((dU m:Int)+1) ae,.a ( ae :0<(2:Int)),
  eh (((((dU m)+1):Nat):Int)) ae,.c (vG:dM 204 [(dO (dN 1)),(iP (((((dU m)+1)/2):Nat):Int))] _),.c (X7:dM 167 [(dO S0)] _),.s (Sp.upto (Pc m N) 0 N ae (fun x hx ic=>by
    obtain⟨xl,xu⟩:=ik x ae;obtain⟨Tq,Sq,Ao,dT,dS,oT,oS,lT,lS⟩:=Ik (dN m) (dN (fR m (2^((dU m+1)/2)) x)) (gr m) (gr _) ae (by have:=hlen x ae;omega) (by rw[eV];omega);rw[eV,eV]at dT;have zx:=hlen x ae;have Gj:dM 167 [dO Tq] (dO (dN (m/(fR m (2^((dU m+1)/2)) x)))):=by
     have:=pj Tq oT;rwa[mu oT,dT]at this
    have zt:(dN (m/(fR m (2^((dU m+1)/2)) x))).length<=257:=aI (il (bj _ _)) ae;obtain⟨Uq,hU,uv,oU,lU⟩:=OZ (dN (fR m (2^((dU m+1)/2)) x)) (dN (m/(fR m (2^((dU m+1)/2)) x))) (gr _) (gr _) ae ae;rw[eV,eV]at uv;have hV:=Pa Uq oU ae;have xO:dM 167 [dO (tM Uq)] (dO (dN (kF m (fR m (2^((dU m+1)/2)) x)))):=by
     have:=pj (tM Uq) (uO _ _);rwa[QX oU,uv]at this
    have zn:(dN (kF m (fR m (2^((dU m+1)/2)) x))).length<=257:=aI (il (Pm m (fR m (2^((dU m+1)/2)) x))) (by have:=Om (fR m (2^((dU m+1)/2)) x) (m/(fR m (2^((dU m+1)/2)) x));omega);exact eu (chain [.c (Ao:dM 319 [(dO (dN m)),(dO (dN (fR m (2^((dU m+1)/2)) x)))] _),.c (Gj:dM 167 [(dO Tq)] _),.c (hU:dM 260 [(dO (dN (fR m (2^((dU m+1)/2)) x))),(dO (dN (m/(fR m (2^((dU m+1)/2)) x))))] _),.c (hV:dM 166 [(dO Uq),(iP 1)] _),.c (xO:dM 167 [(dO (tM Uq))] _),.c (tv _ _ ae ae :dM 131 [(dO (dN (kF m (fR m (2^((dU m+1)/2)) x)))),(dO (dN (fR m (2^((dU m+1)/2)) x)))] _),tF 37 (0<=(fN (kF m (fR m (2^((dU m+1)/2)) x)) (fR m (2^((dU m+1)/2)) x))) (by have:=ml x ae;have:=xw.2 this;omega)]<|.e (chain [.o 5 (.e (.of_eq rfl):PV.le (.e (dO (dN (kF m (fR m (2^((dU m+1)/2)) x))))) (.e (dO (dN (fR m (2^((dU m+1)/2)) (x+1))))))]<|.nil)) ah)
  (fun hx=>by
    obtain⟨xl,xu⟩:=ik N ae;obtain⟨Tq,Sq,Ao,dT,dS,oT,oS,lT,lS⟩:=Ik (dN m) (dN (fR m (2^((dU m+1)/2)) N)) (gr m) (gr _) ae (by have:=hlen N ae;omega) (by rw[eV];omega);rw[eV,eV]at dT;have zx:=hlen N ae;have Gj:dM 167 [dO Tq] (dO (dN (m/(fR m (2^((dU m+1)/2)) N)))):=by
     have:=pj Tq oT;rwa[mu oT,dT]at this
    have zt:(dN (m/(fR m (2^((dU m+1)/2)) N))).length<=257:=aI (il (bj _ _)) ae;obtain⟨Uq,hU,uv,oU,lU⟩:=OZ (dN (fR m (2^((dU m+1)/2)) N)) (dN (m/(fR m (2^((dU m+1)/2)) N))) (gr _) (gr _) ae ae;rw[eV,eV]at uv;have hV:=Pa Uq oU ae;have xO:dM 167 [dO (tM Uq)] (dO (dN (kF m (fR m (2^((dU m+1)/2)) N)))):=by
     have:=pj (tM Uq) (uO _ _);rwa[QX oU,uv]at this
    have zn:(dN (kF m (fR m (2^((dU m+1)/2)) N))).length<=257:=aI (il (Pm m (fR m (2^((dU m+1)/2)) N))) (by have:=Om (fR m (2^((dU m+1)/2)) N) (m/(fR m (2^((dU m+1)/2)) N));omega);exact eu (chain [.c (Ao:dM 319 [(dO (dN m)),(dO (dN (fR m (2^((dU m+1)/2)) N)))] _),.c (Gj:dM 167 [(dO Tq)] _),.c (hU:dM 260 [(dO (dN (fR m (2^((dU m+1)/2)) N))),(dO (dN (m/(fR m (2^((dU m+1)/2)) N))))] _),.c (hV:dM 166 [(dO Uq),(iP 1)] _),.c (xO:dM 167 [(dO (tM Uq))] _),.c (tv _ _ ae ae :dM 131 [(dO (dN (kF m (fR m (2^((dU m+1)/2)) N)))),(dO (dN (fR m (2^((dU m+1)/2)) N)))] _),tT 37 (0<=(fN (kF m (fR m (2^((dU m+1)/2)) N)) (fR m (2^((dU m+1)/2)) N))) (by have:=mn;have:¬fN (kF m (fR m (2^((dU m+1)/2)) N)) (fR m (2^((dU m+1)/2)) N)<0:=fun q=>absurd (xw.1 q) ae;omega),.c (aa7 _ ae :dM 165 [(dO (dN (fR m (2^((dU m+1)/2)) N)))] _)]<|.nil) ah) ak :fP 7 Tryz.f337 (Pc m N 0) .ret ⟨43,true,[(3,.e (iP 0)),(2,.e (dO (dN (fR m (2^((dU m+1)/2)) N))))],[]⟩) (chain [.o 5 (.e (.of_eq rfl):PV.le (.e (dO (dN (2^((dU m+1)/2))))) (.e (dO (dN (fR m (2^((dU m+1)/2)) 0)))))]<|.nil)]<|.nil) ah 
theorem Pd(m s:Nat)(h1:(dN m).length<=256)(h0:m≠0)(hr:isRoot m s):dM 337 [dO (dN m)] (.ef [dO (dN s),iP 0]):=by
 obtain⟨N,_,a,b,c,d⟩:=adF hr (cY h0) (adH m hr);have hs:0<s:=by
  apply bh;intro h;obtain rfl:s=0:= ae ;have:=hr.2;omega
 have:=abd m N h1 h0 a b fun k hk=>⟨by have:=(d k hk).1;omega,(d k hk).2⟩
 rwa[c]at this
noncomputable def gP(m:Nat):Nat:=Classical.choose (Qz m)
theorem wS(m:Nat):isRoot m (gP m):=cg (Qz m)
def og(d:Dy)(p:Nat):Nat:=if Int.tmod (d.e-(((2*p+4-dU d.m:Nat)):Int)) 2=0 then 2*p+4-dU d.m else 2*p+4-dU d.m+1
noncomputable def pV(d:Dy)(p:Nat)(up:Bool):Dy:=pT (d.m*2^og d p) (gP (d.m*2^og d p)) ((d.e-(og d p:Int))/2) p up
noncomputable def pU(d:Dy)(p:Nat)(up:Bool):Int:=tN (d.m*2^og d p) (gP (d.m*2^og d p)) ((d.e-(og d p:Int))/2) p up
theorem Ek(d:Dy)(p:Nat):d.e-(og d p:Int)=2*((d.e-(og d p:Int))/2):=by
 have key:∀ x:Int,Int.tmod x 2=0↔x%2=0:=fun x=>by rw[<-Int.dvd_iff_tmod_eq_zero,<-Int.dvd_iff_emod_eq_zero]
 have:(d.e-(og d p:Int))%2=0:=by
  unfold og;split
  .rename_i h;exact(key _).1 h
  .rename_i h
   have h2:¬(d.e-(((2*p+4-dU d.m:Nat)):Int))%2=0:=fun q=>h ((key _).2 q)
   clear h;omega
 omega
theorem Q7(s:Nat):s<=s*s:=by
 by_cases h:s=0
 .subst h;exact bq _
 .exact ahd s (cY h)
theorem Q9{d:Dy}(hn:d.neg=false)(K:Nat){E:Int}(h:d.e-(K:Int)=2*E):((d.m*2^K:Nat):Rat)*(P2 E*P2 E)=d.q:=by
 rw[lW,hn,aB ag,<-lG,cA,<-rI,dB,<-lG,show(K:Int)+(E+E)=d.e by omega]
theorem Jb{m s p:Nat}(h:isRoot m s)(hm:2*p+4<=dU m):p<dU s:=by
 apply bh;intro hb;have h1:s<2^dU s:=mE s;have h2:2^dU s<=2^p:=aR ag ae;have h3:=cz (show s+1<=2^p by omega) (show s+1<=2^p by omega);rw[<-aH]at h3;have h4:=h.2;have h5:dU m<=p+p:=gS.2 (a7 h4 h3);omega
theorem QA(m s:Nat):((fN (s*s) m) != 0)=decide (s*s≠m):=by
 unfold fN;generalize s*s=q;rcases Nat.lt_trichotomy q m with h|h|h
 .rw [aC h,aE ae];rfl
 .subst h;simp
 .rw [aB ae,aC h,aE ae];rfl
theorem acV(d:Dy)(p:Nat)(up:Bool)(hd:d.Valid)(hn:d.neg=false)(h0:d.m≠0)(dW:8<=p)(dR:p<=512)(lM:Int.tmod (d.e-(((2*p+4-(dU d.m)):Nat):Int)) 2=0):dM 317 [(dP d),(iP p),(bP up)] (.ef [dP (pV d p up),iP (pU d p up)]):=by
 have hl:=hd.dN;have hx:=hd.exp;have hr:=hd.range.resolve_left h0;have bp:=jK h0;have hK:og d p=(2*p+4-(dU d.m)):=by unfold og;rw[aC lM]
 have he:=Ek d p;rw[hK]at he;have hb:=mg h0 (2*p+4-(dU d.m));have z1:(dN (d.m*2^(2*p+4-(dU d.m)))).length<=256:=jF ae;have oC:(d.m*2^(2*p+4-(dU d.m)))≠0:=cN h0 (dm (aJ ag));have mO:=wS (d.m*2^(2*p+4-(dU d.m)));have vX:=Jb mO (p:=p) ae;have z2:(dN (gP (d.m*2^(2*p+4-(dU d.m)))*gP (d.m*2^(2*p+4-(dU d.m))))).length<=256:=aI (il mO.1) z1;have z3:(dN (gP (d.m*2^(2*p+4-(dU d.m))))).length<=256:=aI (il (aI (Q7 _) mO.1)) z1;have XJ:gP (d.m*2^(2*p+4-(dU d.m)))≠0\/gP (d.m*2^(2*p+4-(dU d.m)))=0/\(d.e-(((2*p+4-(dU d.m)):Nat):Int))/2=0/\((fN (gP (d.m*2^(2*p+4-(dU d.m)))*gP (d.m*2^(2*p+4-(dU d.m)))) (d.m*2^(2*p+4-(dU d.m)))) != 0)=false:=.inl (fun q=>by rw[q,nP]at vX;omega);have nV:((fN (gP (d.m*2^(2*p+4-(dU d.m)))*gP (d.m*2^(2*p+4-(dU d.m)))) (d.m*2^(2*p+4-(dU d.m)))) != 0)=true->p<dU (gP (d.m*2^(2*p+4-(dU d.m)))):=fun _=>vX
 exact tr true Tryz.call317 Tryz.func317 (chain [.o 17 (.e (FF _):PV.le (.e (.sl true 1 3 fun i_ j_=>(fD d).getD (i_*3+j_) (.v (.bool false)))) (.e (jl [d]))),.c (IY _ _ af ae ae :dM 177 [(iP p),(jl [d])] _),tB 20 ( ag :((0:Int)==0)=true),tB 23 (hn:d.neg=false),tB 26 ( ag :((0:Int) != 0)=false),tB 31 (ko (mo h0):(((dN d.m).length:Int)==0)=false),
  eh (2*(p:Int)) ae,eh ((((2*p):Nat):Int)+4) ae,.c (CC _ af :dM 295 [(dP d)] _),eh (((((2*p)+4):Nat):Int)-(dU (Dy.m d):Int)) ae,.o 41 (.int au :PV.le (.e (iP (if(((((2*p)+4):Nat):Int)-(dU (Dy.m d):Int))>0 then(((((2*p)+4):Nat):Int)-(dU (Dy.m d):Int))else 0))) (.e (iP (((2*p+4-(dU d.m)):Nat):Int)))),
  eh (d.e-(((2*p+4-(dU d.m)):Nat):Int)) ae,.a ( ae :0<(2:Int)),tB 47 ((by simpa using lM):((Int.tmod (d.e-(((2*p+4-(dU d.m)):Nat):Int)) 2) != 0)=false),.c (qH d.m (2*p+4-(dU d.m)) ae ae ae),.c (Pd _ _ ae af (wS _):dM 337 [(dO (dN (d.m*2^(2*p+4-(dU d.m)))))] _),.c (tz _ _ ae ae ae :dM 181 [(dO (dN (gP (d.m*2^(2*p+4-(dU d.m)))))),(dO (dN (gP (d.m*2^(2*p+4-(dU d.m))))))] _),
  eh (d.e-(((2*p+4-(dU d.m)):Nat):Int)) ae,.a ( ae :0<(2:Int)),eh ((d.e-(((2*p+4-(dU d.m)):Nat):Int))) ae,.o 70 (.int (by generalize hy:(d.e-(((2*p+4-(dU d.m)):Nat):Int))/2=y at *;rw[he];exact Int.mul_tdiv_cancel_left _ ag):PV.le (.e (iP (Int.tdiv (d.e-(((2*p+4-(dU d.m)):Nat):Int)) 2))) (.e (iP ((d.e-(((2*p+4-(dU d.m)):Nat):Int))/2)))),.c (tv _ _ ae ae :dM 131 [(dO (dN ((gP (d.m*2^(2*p+4-(dU d.m))))*(gP (d.m*2^(2*p+4-(dU d.m))))))),(dO (dN (d.m*2^(2*p+4-(dU d.m)))))] _),.c (yU _ _ _ _ _ ae af ae ae ae ae af :dM 220 [(.agg [(dO (dN (gP (d.m*2^(2*p+4-(dU d.m)))))),(iP ((d.e-(((2*p+4-(dU d.m)):Nat):Int))/2)),(bP ((fN ((gP (d.m*2^(2*p+4-(dU d.m))))*(gP (d.m*2^(2*p+4-(dU d.m))))) (d.m*2^(2*p+4-(dU d.m)))) != 0))]),(iP p),(bP up)] _)]<|rQ (.ef [(dP (fi false (gP (d.m*2^(2*p+4-(dU d.m)))) ((d.e-(((2*p+4-(dU d.m)):Nat):Int))/2) ((fN ((gP (d.m*2^(2*p+4-(dU d.m))))*(gP (d.m*2^(2*p+4-(dU d.m))))) (d.m*2^(2*p+4-(dU d.m)))) != 0) p up)),(iP (eU false (gP (d.m*2^(2*p+4-(dU d.m)))) ((d.e-(((2*p+4-(dU d.m)):Nat):Int))/2) ((fN ((gP (d.m*2^(2*p+4-(dU d.m))))*(gP (d.m*2^(2*p+4-(dU d.m))))) (d.m*2^(2*p+4-(dU d.m)))) != 0) p up))]) (.ef [dP (pV d p up),iP (pU d p up)]) (by unfold pV pU pT tN;rw[hK,QA])) ah 
theorem acW(d:Dy)(p:Nat)(up:Bool)(hd:d.Valid)(hn:d.neg=false)(h0:d.m≠0)(dW:8<=p)(dR:p<=512)(lM:¬Int.tmod (d.e-(((2*p+4-(dU d.m)):Nat):Int)) 2=0):dM 317 [(dP d),(iP p),(bP up)] (.ef [dP (pV d p up),iP (pU d p up)]):=by
 have hl:=hd.dN;have hx:=hd.exp;have hr:=hd.range.resolve_left h0;have bp:=jK h0;have hK:og d p=((2*p+4-(dU d.m))+1):=by unfold og;rw[aB lM]
 have he:=Ek d p;rw[hK]at he;have hb:=mg h0 ((2*p+4-(dU d.m))+1);have z1:(dN (d.m*2^((2*p+4-(dU d.m))+1))).length<=256:=jF ae;have oC:(d.m*2^((2*p+4-(dU d.m))+1))≠0:=cN h0 (dm (aJ ag));have mO:=wS (d.m*2^((2*p+4-(dU d.m))+1));have vX:=Jb mO (p:=p) ae;have z2:(dN (gP (d.m*2^((2*p+4-(dU d.m))+1))*gP (d.m*2^((2*p+4-(dU d.m))+1)))).length<=256:=aI (il mO.1) z1;have z3:(dN (gP (d.m*2^((2*p+4-(dU d.m))+1)))).length<=256:=aI (il (aI (Q7 _) mO.1)) z1;have XJ:gP (d.m*2^((2*p+4-(dU d.m))+1))≠0\/gP (d.m*2^((2*p+4-(dU d.m))+1))=0/\(d.e-((((2*p+4-(dU d.m))+1):Nat):Int))/2=0/\((fN (gP (d.m*2^((2*p+4-(dU d.m))+1))*gP (d.m*2^((2*p+4-(dU d.m))+1))) (d.m*2^((2*p+4-(dU d.m))+1))) != 0)=false:=.inl (fun q=>by rw[q,nP]at vX;omega);have nV:((fN (gP (d.m*2^((2*p+4-(dU d.m))+1))*gP (d.m*2^((2*p+4-(dU d.m))+1))) (d.m*2^((2*p+4-(dU d.m))+1))) != 0)=true->p<dU (gP (d.m*2^((2*p+4-(dU d.m))+1))):=fun _=>vX
 exact tr true Tryz.call317 Tryz.func317 (chain [.o 17 (.e (FF _):PV.le (.e (.sl true 1 3 fun i_ j_=>(fD d).getD (i_*3+j_) (.v (.bool false)))) (.e (jl [d]))),.c (IY _ _ af ae ae :dM 177 [(iP p),(jl [d])] _),tB 20 ( ag :((0:Int)==0)=true),tB 23 (hn:d.neg=false),tB 26 ( ag :((0:Int) != 0)=false),tB 31 (ko (mo h0):(((dN d.m).length:Int)==0)=false),
  eh (2*(p:Int)) ae,eh ((((2*p):Nat):Int)+4) ae,.c (CC _ af :dM 295 [(dP d)] _),eh (((((2*p)+4):Nat):Int)-(dU (Dy.m d):Int)) ae,.o 41 (.int au :PV.le (.e (iP (if(((((2*p)+4):Nat):Int)-(dU (Dy.m d):Int))>0 then(((((2*p)+4):Nat):Int)-(dU (Dy.m d):Int))else 0))) (.e (iP (((2*p+4-(dU d.m)):Nat):Int)))),
  eh (d.e-(((2*p+4-(dU d.m)):Nat):Int)) ae,.a ( ae :0<(2:Int)),tB 47 ((by simpa using lM):((Int.tmod (d.e-(((2*p+4-(dU d.m)):Nat):Int)) 2) != 0)=true),
  eh ((((2*p+4-(dU d.m)):Nat):Int)+1) ae,.c (qH d.m ((2*p+4-(dU d.m))+1) ae ae ae),.c (Pd _ _ ae af (wS _):dM 337 [(dO (dN (d.m*2^((2*p+4-(dU d.m))+1))))] _),.c (tz _ _ ae ae ae :dM 181 [(dO (dN (gP (d.m*2^((2*p+4-(dU d.m))+1))))),(dO (dN (gP (d.m*2^((2*p+4-(dU d.m))+1)))))] _),
  eh (d.e-((((2*p+4-(dU d.m))+1):Nat):Int)) ae,.a ( ae :0<(2:Int)),eh ((d.e-((((2*p+4-(dU d.m))+1):Nat):Int))) ae,.o 70 (.int (by generalize hy:(d.e-((((2*p+4-(dU d.m))+1):Nat):Int))/2=y at *;rw[he];exact Int.mul_tdiv_cancel_left _ ag):PV.le (.e (iP (Int.tdiv (d.e-((((2*p+4-(dU d.m))+1):Nat):Int)) 2))) (.e (iP ((d.e-((((2*p+4-(dU d.m))+1):Nat):Int))/2)))),.c (tv _ _ ae ae :dM 131 [(dO (dN ((gP (d.m*2^((2*p+4-(dU d.m))+1)))*(gP (d.m*2^((2*p+4-(dU d.m))+1)))))),(dO (dN (d.m*2^((2*p+4-(dU d.m))+1))))] _),.c (yU _ _ _ _ _ ae af ae ae ae ae af :dM 220 [(.agg [(dO (dN (gP (d.m*2^((2*p+4-(dU d.m))+1))))),(iP ((d.e-((((2*p+4-(dU d.m))+1):Nat):Int))/2)),(bP ((fN ((gP (d.m*2^((2*p+4-(dU d.m))+1)))*(gP (d.m*2^((2*p+4-(dU d.m))+1)))) (d.m*2^((2*p+4-(dU d.m))+1))) != 0))]),(iP p),(bP up)] _)]<|rQ (.ef [(dP (fi false (gP (d.m*2^((2*p+4-(dU d.m))+1))) ((d.e-((((2*p+4-(dU d.m))+1):Nat):Int))/2) ((fN ((gP (d.m*2^((2*p+4-(dU d.m))+1)))*(gP (d.m*2^((2*p+4-(dU d.m))+1)))) (d.m*2^((2*p+4-(dU d.m))+1))) != 0) p up)),(iP (eU false (gP (d.m*2^((2*p+4-(dU d.m))+1))) ((d.e-((((2*p+4-(dU d.m))+1):Nat):Int))/2) ((fN ((gP (d.m*2^((2*p+4-(dU d.m))+1)))*(gP (d.m*2^((2*p+4-(dU d.m))+1)))) (d.m*2^((2*p+4-(dU d.m))+1))) != 0) p up))]) (.ef [dP (pV d p up),iP (pU d p up)]) (by unfold pV pU pT tN;rw[hK,QA])) ah 
theorem Qo(d:Dy)(p:Nat)(up:Bool)(hd:d.Valid)(hn:d.neg=false)(h0:d.m≠0)(dW:8<=p)(dR:p<=512):dM 317 [(dP d),(iP p),(bP up)] (.ef [dP (pV d p up),iP (pU d p up)]):=by
 by_cases h:Int.tmod (d.e-(((2*p+4-(dU d.m)):Nat):Int)) 2=0
 .exact acV d p up hd hn h0 dW dR h
 .exact acW d p up hd hn h0 dW dR h
theorem acT(d:Dy)(p:Nat)(hd:d.Valid)(hn:d.neg=false)(h0:d.m≠0)(dW:8<=p)(dR:p<=512):dM 285 [(dP d),(iP p)] (.ef [dP (pV d p false),iP (pU d p false)]):=by
 exact tr true Tryz.call285 Tryz.func285 (chain [.c (Qo _ _ _ af af af ae ae :dM 317 [(dP d),(iP p),(bP false)] _)]<|.nil) ah 
theorem acU(d:Dy)(p:Nat)(hd:d.Valid)(hn:d.neg=false)(h0:d.m≠0)(dW:8<=p)(dR:p<=512):dM 286 [(dP d),(iP p)] (.ef [dP (pV d p true),iP (pU d p true)]):=by
 exact tr true Tryz.call286 Tryz.func286 (chain [.c (Qo _ _ _ af af af ae ae :dM 317 [(dP d),(iP p),(bP true)] _)]<|.nil) ah 
theorem aaa(x:Iv)(p:Nat)(hx:x.Valid)(dW:8<=p)(dR:p<=512)(xa:x.all=true):dM 246 [(dQ x),(iP p)] (dQ dV):=by
 exact tr true Tryz.call246 Tryz.func246 (chain [.o 10 (.e (jf _):PV.le (.e (.sl true 1 7 fun i_ j_=>(ev x).getD (i_*7+j_) (.v (.bool false)))) (.e (dY [x]))),.c (k0 _ af :dM 86 [(dY [x])] _),tB 11 (by rw[xa];rfl:(!x.all)=false),.c ji]<|.nil) ah 
theorem aab(x:Iv)(p:Nat)(hx:x.Valid)(dW:8<=p)(dR:p<=512)(xa:x.all=false)(h1:x.lo.sign<=0):dM 246 [(dQ x),(iP p)] (dQ dV):=by
 obtain⟨w1,w2⟩:=hx.ends;exact tr true Tryz.call246 Tryz.func246 (chain [.o 10 (.e (jf _):PV.le (.e (.sl true 1 7 fun i_ j_=>(ev x).getD (i_*7+j_) (.v (.bool false)))) (.e (dY [x]))),.c (k0 _ af :dM 86 [(dY [x])] _),tB 11 (by rw[xa];rfl:(!x.all)=true),.c (qy _:dM 87 [(iP p)] _),tB 15 (nf.2 ⟨ ae, ae⟩:(im (p:Int))=true),.c (jN _ af :dM 35 [(dP x.lo)] _),tB 22 (aE h1),.c ji]<|.nil) ah 
theorem aac(x:Iv)(p:Nat)(hx:x.Valid)(dW:8<=p)(dR:p<=512)(xa:x.all=false)(h1:¬x.lo.sign<=0)(n1:x.lo.neg=false)(n2:x.hi.neg=false)(m1:x.lo.m≠0)(m2:x.hi.m≠0):dM 246 [(dQ x),(iP p)] (dQ (gN (pV x.lo p false) (pU x.lo p false) (pV x.hi p true) (pU x.hi p true))):=by
 obtain⟨w1,w2⟩:=hx.ends;exact tr true Tryz.call246 Tryz.func246 (chain [.o 10 (.e (jf _):PV.le (.e (.sl true 1 7 fun i_ j_=>(ev x).getD (i_*7+j_) (.v (.bool false)))) (.e (dY [x]))),.c (k0 _ af :dM 86 [(dY [x])] _),tB 11 (by rw[xa];rfl:(!x.all)=true),.c (qy _:dM 87 [(iP p)] _),tB 15 (nf.2 ⟨ ae, ae⟩:(im (p:Int))=true),.c (jN _ af :dM 35 [(dP x.lo)] _),tB 22 (aD h1),.c (acT _ _ af af af ae ae :dM 285 [(dP x.lo),(iP p)] _),.c (acU _ _ af af af ae ae :dM 286 [(dP x.hi),(iP p)] _),.c (wu (pV x.lo p false) (pV x.hi p true) (pU x.lo p false) (pU x.hi p true))]<|.nil) ah 
theorem PH{d:Dy}(h:0<d.q):d.neg=false/\d.m≠0:=by
 have hm:d.m≠0:=fun q=>by rw[lW,q]at h;simp at h
 refine⟨?_,hm⟩;cases hn:d.neg
 .rfl
 .rw [lW,hn,aC rfl]at h
  have:=bk (show(0:Rat)<=(d.m:Rat)from cj) (aZ (jr d.e))
  grind
theorem Q6{d:Dy}{p:Nat}(dW:8<=p)(h0:d.m≠0):p<dU (gP (d.m*2^og d p)):=by
 refine Jb (wS _) ?_;rw[mg h0];unfold og;split<;>omega
theorem Hs{x:Iv}(hx:x.Valid){p:Nat}(dW:8<=p)(dR:p<=512):∃ Z,Z.Valid/\dM 246 [dQ x,iP (p:Int)] (dQ Z):=by
 cases xa:x.all with
 | true=>exact⟨dV,gZ,aaa x p hx dW dR xa⟩
 | false=>
  by_cases h1:x.lo.sign<=0
  .exact ⟨dV,gZ,aab x p hx dW dR xa h1⟩
  .have q1:0<x.lo.q:=(kp _).1.1 ae 
   have q2:0<x.hi.q:=by have:=hx.q;grind
   obtain⟨n1,m1⟩:=PH q1;obtain⟨n2,m2⟩:=PH q2;refine⟨_,?_,aac x p hx dW dR xa h1 n1 n2 m1 m2⟩;refine aeF (wS _) (wS _) (Q6 dW m1) (Q6 dW m2) ae ae ?_;rw[Q9 n1 _ (Ek _ _),Q9 n2 _ (Ek _ _)];exact hx.q
open Go.RowKit Fp Pu
def eN(X b:Nat):Nat->Nat
 | 0=>2^b
 | k+1=>eN X b k*X/2^b/(k+1)
theorem Ma{X b:Nat}(h:X<=2^(b+1))(t:Nat):t*X/2^b<=2*t:=by
 have hp:0<2^b:=aJ ag;have h1:t*X<=t*(2^b*2):=bN t (by rw[<-aN];exact h);have h2:t*X/2^b<=t*(2^b*2)/2^b:=Nat.div_le_div_right h1;have h3:t*(2^b*2)/2^b=2*t:=by
  rw[show t*(2^b*2)=2^b*(2*t)by rw[cC,aQ t 2]];exact Nat.mul_div_cancel_left _ hp
 omega
theorem Af{X b:Nat}(h:X<=2^(b+1)):∀ k,eN X b k<=2^(b+1)
 | 0=>by show 2^b<=2^(b+1);rw[aN];omega
 | 1=>by
  show 2^b*X/2^b/1<=_;rw[agy,Nat.mul_div_cancel_left _ (aJ ag)];exact h
 | k+2=>by
  have ih:=Af h (k+1);have h1:=Ma h (eN X b (k+1));show eN X b (k+1)*X/2^b/(k+2)<=_;have h2:eN X b (k+1)*X/2^b/(k+2)<=eN X b (k+1)*X/2^b/2:=ahm ae ag;omega
theorem WS{X b:Nat}(h:X<=2^(b+1))(k:Nat)(hk:3<=k):eN X b (k+1)*2<=eN X b k:=by
 have h1:=Ma h (eN X b k);have h2:eN X b (k+1)<=eN X b k*X/2^b/4:=ahm ae ag;omega
theorem L9{X b:Nat}(h:X<=2^(b+1)):∀ j,eN X b (3+j)*2^j<=2^(b+1)
 | 0=>by rw[bG,bD];exact Af h 3
 | j+1=>by
  have ih:=L9 h j;have h1:=WS h (3+j) ae;have h2:=a6 (2^j) h1;rw[aN,show eN X b (3+(j+1))*(2^j*2)=eN X b (3+j+1)*2*2^j by rw[aP,aQ 2 (2^j)];rfl];omega
theorem WT{X b:Nat}(h:X<=2^(b+1)):∃ N,1<=N/\N<=b+5/\(∀ k,k<N->eN X b k≠0)/\eN X b N=0:=by
 have hz:eN X b (3+(b+2))=0:=by
  have h1:=L9 h (b+2);apply bh;intro fK;have h2:2^(b+2)<=eN X b (3+(b+2))*2^(b+2):=ahd _ (cY fK);have h3:2^(b+2)=2^(b+1)*2:=aN (n:=2) (m:=b+1);have h4:0<2^(b+1):=aJ ag;omega
 obtain⟨N,n1,n2,n3⟩:=oK (p:=fun k=>decide (eN X b k=0)) (n:=b+6) ⟨3+(b+2), ae,aE hz⟩;have n2':=bV n2;refine⟨N,?_, ae,fun k hk=>aho (n3 k hk),n2'⟩;rcases N with _|N
 .have:0<2^b:=aJ ag 
  have e:2^b=0:=n2';omega
 .omega
theorem Yi{f:Nat->Nat}{B:Nat}(h0:f 0<2^B)(h:∀ k,f (k+1)*2<=f k):∃ N,N<=B/\(∀ k,k<N->f k≠0)/\f N=0:=by
 have hp:∀ k,f k*2^k<=f 0:=by
  intro k
  induction k with
  | zero=>rw[bG,bD];exact aG _
  | succ k ih=>
   have:=a6 (2^k) (h k);rw[aN,show f (k+1)*(2^k*2)=f (k+1)*2*2^k by rw[aP,aQ 2 (2^k)]];omega
 have hz:f B=0:=by
  apply bh;intro fK;have h2:2^B<=f B*2^B:=ahd _ (cY fK);have:=hp B;omega
 obtain⟨N,n1,n2,n3⟩:=oK (p:=fun k=>decide (f k=0)) (n:=B+1) ⟨B, ae,aE hz⟩;exact⟨N, ae,fun k hk=>aho (n3 k hk),bV n2⟩
def fe(a b:Bool×Nat):Bool×Nat:=if a.1=b.1 then(a.1,a.2+b.2)else if a.2<b.2 then(b.1,b.2-a.2)else(a.1,a.2-b.2)
def kA(a:Bool×Nat):Int:=if a.1 then -(a.2:Int)else(a.2:Int)
theorem FW(a b:Bool×Nat):kA (fe a b)=kA a+kA b:=by
 obtain⟨s,m⟩:=a;obtain⟨t,n⟩:=b;unfold fe kA;cases s<;>cases t<;>simp<;>(try split)<;>(try simp)<;>omega
theorem rT(a b:Bool×Nat):(fe a b).2<=a.2+b.2:=by
 unfold fe;split
 .exact aG _
 .split
  .show b.2-a.2<=_;omega
  .show a.2-b.2<=_;omega
open Go.RowKit Fp Pu
def um(a:Bool×Nat)(b:Nat):Dy:=canon a.1 a.2 (-(b:Int))
theorem L8(a:Bool×Nat)(b:Nat):(um a b).q=(kA a:Rat)*P2 (-(b:Int)):=by
 unfold um kA;rw[mQ];cases a.1
 .simp only[aT,aL];rw[dc]
 .simp only[aW];rw[Rat.intCast_neg,dc];grind
def CS(a:Bool×Nat):Bool×Nat:=fe a (true,16777216)
def CR(a:Bool×Nat):Bool×Nat:=fe a (false,16777216)
def oc(a:Bool×Nat)(b p:Nat):Iv:=gN (ff (um (CS a) b) p false) (fg (um (CS a) b) p false) (ff (um (CR a) b) p true) (fg (um (CR a) b) p true)
theorem abi(a:Bool×Nat)(b:Nat){p:Nat}(hp:1<=p)(dR:p<=4096):(oc a b p).Valid:=by
 unfold oc gN;split
 .exact gZ
 .rename_i he
  have c1:(um (CS a) b).Canon:=oq _ _ _;have c2:(um (CR a) b).Canon:=oq _ _ _;have A:=po c1 hp dR;have B:=pS c2 hp dR;refine .inr ⟨rfl,kq _ hp dR _,kq _ hp dR _,?_⟩;rw[ke];refine aU (A.1 ae).2 (aU ?_ (B.1 ae).2);rw[L8,L8,qC,aha];unfold CS CR;rw[FW,FW];simp[kA]
open Go.RowKit Fp Pu
theorem uh(m n:Nat)(h1:(dN m).length<=256)(h2:n<=65536)(h3:(dN (m*2^n)).length<=256):dM 329 [(dO (dN m)),(iP n)] (dO (dN (m*2^n))):=by
 exact tr true Tryz.call329 Tryz.func329 (chain [.c (O9 _ _ af ae af :dM 168 [(dO (dN m)),(iP n)] _)]<|.nil) ah 
theorem qS(m n:Nat)(h1:(dN m).length<=256)(h2:n<=65536):dM 330 [(dO (dN m)),(iP n)] (dO (dN (m/2^n))):=by
 exact tr true Tryz.call330 Tryz.func330 (chain [.c (Io _ _ af ae :dM 127 [(dO (dN m)),(iP n)] _)]<|.nil) ah 
theorem Fe(m:Nat)(z:Int)(h1:(dN m).length<=256)(h2:0<=z)(h3:z<=65536)(h4:(dN (m*2^z.toNat)).length<=256):dM 329 [dO (dN m),iP z] (dO (dN (m*2^z.toNat))):=by
 have:=uh m z.toNat h1 ae h4;rwa[show(z.toNat:Int)=z by omega]at this
theorem UO(m:Nat)(z:Int)(h1:(dN m).length<=256)(h2:0<=z)(h3:z<=65536):dM 330 [dO (dN m),iP z] (dO (dN (m/2^z.toNat))):=by
 have:=qS m z.toNat h1 ae;rwa[show(z.toNat:Int)=z by omega]at this
theorem gJ{m k:Nat}(h:m<2^k)(hk:k<=8192):(dN m).length<=256:=jF (aI (gS.2 h) hk)
theorem oL{n:Nat}(h:n<4294967296):(dN n).length<=256:=gJ (k:=32) h ag 
theorem ZU(n:Nat):(er n).neg=false/\0<=(er n).e/\(er n).m*2^(er n).e.toNat=n/\(er n).m<=n:=by
 by_cases h:n=0
 .subst h;decide
 .have e1:(er (n:Int))=canon false n 0:=wm n
  have e2:canon false n 0=⟨false,n/2^fk n,(fk n:Int)⟩:=by unfold canon;rw[aB h];simp
  rw[e1,e2];refine⟨rfl,Int.natCast_nonneg _,?_,bj _ _⟩;show n/2^fk n*2^(fk n:Int).toNat=n;rw[ag0];exact zW h
theorem Fh(n:Nat)(h:n<4294967296):dM 331 [(iP n)] (.agg [(bP false),(dO (dN n))]):=by
 obtain⟨p1,p2,p3,p4⟩:=ZU n;have hv:=Hj n h;have he:=hv.exp;have z1:=hv.dN;have z2:(dN ((er n).m*2^(Int.toNat (er n).e))).length<=256:=by rw[p3];exact oL h
 exact tr true Tryz.call331 Tryz.func331 (chain [.c (EZ n ae),.c (Fe _ _ af ae ae af :dM 329 [(dO (dN ((er (n:Int)).m))),(iP ((er (n:Int)).e))] _)]<|rQ (.agg [(bP ((er (n:Int)).neg)),(dO (dN (((er (n:Int)).m)*2^(Int.toNat ((er (n:Int)).e)))))]) (.agg [(bP false),(dO (dN n))]) (by rw[p1,p3])) ah 
theorem TJ(m:Nat):((dU m:Int)==0)=decide (m=0):=by
 by_cases h:m=0
 .subst h;rw[nP];rfl
 .have:=jK h
  rw[aD h];exact ko ae 
theorem rS(a:Bool×Nat)(ha:(dN a.2).length<=256):dM 336 [(.agg [(bP a.1),(dO (dN a.2))])] (bP (decide (a.2=0))):=by
 exact tr true Tryz.call336 Tryz.func336 (chain [.c (nZ _ ae :dM 194 [(dO (dN a.2))] _)]<|rQ (bP ((dU a.2:Int)==0)) (bP (decide (a.2=0))) (by rw[TJ])) ah 
theorem qj(a:Bool×Nat):dM 326 [(.agg [(bP a.1),(dO (dN a.2))])] (.agg [(bP (!a.1)),(dO (dN a.2))]):=by
 exact tr true Tryz.call326 Tryz.func326 (.nil) ah 
theorem Wr(a:Bool×Nat)(ha:(dN a.2).length<=256)(b:Bool×Nat)(hb:(dN b.2).length<=256)(h:a.1=b.1)(hs:(dN (a.2+b.2)).length<=256):dM 335 [(.agg [(bP a.1),(dO (dN a.2))]),(.agg [(bP b.1),(dO (dN b.2))])] (.agg [(bP a.1),(dO (dN (a.2+b.2)))]):=by
 exact tr true Tryz.call335 Tryz.func335 (chain [tB 13 (by rw[h];simp:(a.1==b.1)=true),.c (DN _ _ af af af :dM 218 [(dO (dN a.2)),(dO (dN b.2))] _)]<|.nil) ah 
theorem Wp(a:Bool×Nat)(ha:(dN a.2).length<=256)(b:Bool×Nat)(hb:(dN b.2).length<=256)(h:¬a.1=b.1)(h2:a.2<b.2):dM 335 [(.agg [(bP a.1),(dO (dN a.2))]),(.agg [(bP b.1),(dO (dN b.2))])] (.agg [(bP b.1),(dO (dN (b.2-a.2)))]):=by
 exact tr true Tryz.call335 Tryz.func335 (chain [tB 13 (by simpa using h:(a.1==b.1)=false),.c (tv _ _ ae ae :dM 131 [(dO (dN a.2)),(dO (dN b.2))] _),tT 31 ((fN a.2 b.2)<0) (xw.2 h2),.c (Bj _ _ af af ae :dM 219 [(dO (dN b.2)),(dO (dN a.2))] _)]<|.nil) ah 
theorem Wq(a:Bool×Nat)(ha:(dN a.2).length<=256)(b:Bool×Nat)(hb:(dN b.2).length<=256)(h:¬a.1=b.1)(h2:¬a.2<b.2):dM 335 [(.agg [(bP a.1),(dO (dN a.2))]),(.agg [(bP b.1),(dO (dN b.2))])] (.agg [(bP a.1),(dO (dN (a.2-b.2)))]):=by
 exact tr true Tryz.call335 Tryz.func335 (chain [tB 13 (by simpa using h:(a.1==b.1)=false),.c (tv _ _ ae ae :dM 131 [(dO (dN a.2)),(dO (dN b.2))] _),tF 31 ((fN a.2 b.2)<0) fun q=>h2 (xw.1 q),.c (Bj _ _ af af ae :dM 219 [(dO (dN a.2)),(dO (dN b.2))] _)]<|.nil) ah 
theorem oA(a:Bool×Nat)(ha:(dN a.2).length<=256)(b:Bool×Nat)(hb:(dN b.2).length<=256)(hs:(dN (a.2+b.2)).length<=256):dM 335 [(.agg [(bP a.1),(dO (dN a.2))]),(.agg [(bP b.1),(dO (dN b.2))])] (.agg [(bP ((fe a b).1)),(dO (dN ((fe a b).2)))]):=by
 unfold fe;split
 .rename_i h;exact Wr a ha b hb h hs
 .rename_i h
  split
  .rename_i h2;exact Wp a ha b hb h h2
  .rename_i h2;exact Wq a ha b hb h h2
theorem xH(a:Bool×Nat)(ha:(dN a.2).length<=256)(c:Bool×Nat)(hc:(dN c.2).length<=256)(b:Nat)(hb:b<=65536)(hm:(dN (a.2*c.2)).length<=256):dM 332 [(.agg [(bP a.1),(dO (dN a.2))]),(.agg [(bP c.1),(dO (dN c.2))]),(iP b)] (.agg [(bP (a.1 != c.1)),(dO (dN (a.2*c.2/2^b)))]):=by
 exact tr true Tryz.call332 Tryz.func332 (chain [.c (tz _ _ af af af :dM 181 [(dO (dN a.2)),(dO (dN c.2))] _),.c (qS _ _ af ae :dM 330 [(dO (dN (a.2*c.2))),(iP b)] _)]<|.nil) ah 
theorem sQ(a:Bool×Nat)(ha:(dN a.2).length<=256)(n:Nat)(h0:n≠0)(hn:n<4294967296):dM 342 [(.agg [(bP a.1),(dO (dN a.2))]),(iP n)] (.agg [(bP a.1),(dO (dN (a.2/n)))]):=by
 have zn:(dN n).length<=256:=oL hn;exact tr true Tryz.call342 Tryz.func342 (chain [.c (Fh _ ae :dM 331 [(iP n)] _),.c (tw _ _ ae ae af :dM 296 [(dO (dN a.2)),(dO (dN n))] _)]<|.nil) ah 
def mG(d:Dy)(b:Nat):Bool×Nat:=(d.neg,if d.e+(b:Int)<0 then d.m/2^(0-(d.e+(b:Int))).toNat else d.m*2^(d.e+(b:Int)).toNat)
theorem Ux(d:Dy)(hd:d.Valid)(b:Nat)(hb:b<=30000)(h:d.e+(b:Int)<0):dM 334 [(dP d),(iP b)] (.agg [(bP ((mG d b).1)),(dO (dN ((mG d b).2)))]):=by
 have hx:=hd.exp;have z1:=hd.dN;exact tr true Tryz.call334 Tryz.func334 (chain [eh (d.e+(b:Int)) ae,tB 11 (aE h),eh (0-(d.e+(b:Int))) ae,.c (UO _ _ af ae ae :dM 330 [(dO (dN d.m)),(iP (0-(d.e+(b:Int))))] _)]<|rQ (.agg [(bP d.neg),(dO (dN (d.m/2^(Int.toNat (0-(d.e+(b:Int)))))))]) (.agg [(bP ((mG d b).1)),(dO (dN ((mG d b).2)))]) (by unfold mG;rw[aC h])) ah 
theorem Uw(d:Dy)(hd:d.Valid)(b:Nat)(hb:b<=30000)(h:¬d.e+(b:Int)<0)(hs:(dN (d.m*2^(Int.toNat (d.e+(b:Int))))).length<=256):dM 334 [(dP d),(iP b)] (.agg [(bP ((mG d b).1)),(dO (dN ((mG d b).2)))]):=by
 have hx:=hd.exp;have z1:=hd.dN;exact tr true Tryz.call334 Tryz.func334 (chain [eh (d.e+(b:Int)) ae,tB 11 (aD h),eh (d.e+(b:Int)) ae,.c (Fe _ _ af ae ae af :dM 329 [(dO (dN d.m)),(iP (d.e+(b:Int)))] _)]<|rQ (.agg [(bP d.neg),(dO (dN (d.m*2^(Int.toNat (d.e+(b:Int))))))]) (.agg [(bP ((mG d b).1)),(dO (dN ((mG d b).2)))]) (by unfold mG;rw[aB h])) ah 
theorem DT{d:Dy}{b K:Nat}(h:d.dX+(b:Int)<=K):(mG d b).2<2^K:=by
 by_cases h0:d.m=0
 .have:(mG d b).2=0:=by unfold mG;simp only[h0];split<;>simp
  rw[this];exact aJ ag 
 .rw [BS h0]at h
  have hm:=mE d.m;unfold mG;simp only;split
  .rename_i hc
   obtain⟨k,hk⟩:∃ k,k=(0-(d.e+(b:Int))).toNat:=⟨_,rfl⟩
   rw[<-hk];by_cases hb:dU d.m<=k
   .rw [bW (a7 hm (aR ag hb))];exact aJ ag 
   .refine (bC (aJ ag)).2 (a7 hm ?_)
    rw[<-aH];exact aR ag ae 
  .rename_i hc
   obtain⟨k,hk⟩:∃ k,k=(d.e+(b:Int)).toNat:=⟨_,rfl⟩
   rw[<-hk];have:=ca hm (aJ (n:=k) (show 0<2 by decide));rw[<-aH]at this;exact a7 this (aR ag ae)
theorem Ff(d:Dy)(hd:d.Valid)(b K:Nat)(hb:b<=30000)(hK:K<=8192)(h:d.dX+(b:Int)<=K):dM 334 [dP d,iP (b:Int)] (.agg [(bP ((mG d b).1)),(dO (dN ((mG d b).2)))]):=by
 by_cases hc:d.e+(b:Int)<0
 .exact Ux d hd b hb hc
 .refine Uw d hd b hb hc ?_
  have:=DT h;unfold mG at this;rw[aB hc]at this;exact gJ this hK
open Go.RowKit Fp Pu
def iy(f:Nat->Nat):Nat->Bool×Nat
 | 0=>(false,f 0)
 | k+1=>fe (iy f k) (decide ((k+1)%2=1),f (k+1)/(2*(k+1)+1))
theorem Ka{f:Nat->Nat}(hf:∀ k,f (k+1)<=f k):∀ n,(n%2=0->kA (iy f n)<=f 0/\(f 0:Int)-(f 1/3:Nat)<=kA (iy f n)-(f (n+1)/(2*(n+1)+1):Nat))/\(n%2=1->(f 0:Int)-(f 1/3:Nat)<=kA (iy f n)/\kA (iy f n)+(f (n+1)/(2*(n+1)+1):Nat)<=f 0)
 | 0=>⟨fun _=>⟨by simp[iy,kA],by simp[iy,kA]⟩,fun h=> ae⟩
 | n+1=>by
  obtain⟨e,o⟩:=Ka hf n;have hq:f (n+1+1)/(2*(n+1+1)+1)<=f (n+1)/(2*(n+1)+1):=Nat.div_le_div (hf (n+1)) ae ae;have hv:kA (iy f (n+1))=kA (iy f n)+kA (decide ((n+1)%2=1),f (n+1)/(2*(n+1)+1)):=FW _ _;generalize f (n+1)/(2*(n+1)+1)=q1 at *
  generalize f (n+1+1)/(2*(n+1+1)+1)=q2 at *
  generalize f 1/3=q0 at *
  rcases Nat.mod_two_eq_zero_or_one n with h|h
  .obtain ⟨e1,e2⟩:=e h
   rw[show decide ((n+1)%2=1)=true from aE ae]at hv;simp only[kA,aW]at hv;exact⟨fun q=> ae,fun _=>⟨by unfold kA at *;omega,by unfold kA at *;omega⟩⟩
  .obtain ⟨e1,e2⟩:=o h
   rw[show decide ((n+1)%2=1)=false from aD ae]at hv;simp only[kA,aT,aL]at hv;exact⟨fun _=>⟨by unfold kA at *;omega,by unfold kA at *;omega⟩,fun q=> ae⟩
theorem EW{f:Nat->Nat}(hf:∀ k,f (k+1)<=f k)(n:Nat):(iy f n).2<=f 0/\f 0<=(iy f n).2+f 1/3:=by
 have ht:=Ka hf n;have h1:f 1/3<=f 0:=aI (bj _ _) (hf 0);have hb:(f 0:Int)-(f 1/3:Nat)<=kA (iy f n)/\kA (iy f n)<=f 0:=by
  rcases Nat.mod_two_eq_zero_or_one n with h|h
  .have:=ht.1 h
   generalize f (n+1)/(2*(n+1)+1)=q at *
   omega
  .have:=ht.2 h
   generalize f (n+1)/(2*(n+1)+1)=q at *
   omega
 generalize iy f n=s at *
 generalize f 1/3=q at *
 obtain⟨b,m⟩:=s;cases b
 .simp only[kA,aT,aL]at hb ⊢;omega
 .simp only[kA,aW]at hb ⊢;omega
theorem Cg{f:Nat->Nat}(hf:∀ k,f (k+1)<=f k):∀ k,f k<=f 0
 | 0=>aG _
 | k+1=>aI (hf k) (Cg hf k)
theorem xi{f:Nat->Nat}(hf:∀ k,f (k+1)<=f k){B:Nat}(hB:B<=8191)(hz:f 0<2^B)(k:Nat):(dN (f k)).length<=256:=gJ (bE (Cg hf k) hz) ae 
theorem Ch{f:Nat->Nat}(hf:∀ k,f (k+1)<=f k){B:Nat}(hB:B<=8191)(hz:f 0<2^B)(k:Nat):(dN (iy f k).2).length<=256/\(dN (f (k+1)/(2*(k+1)+1))).length<=256:=⟨gJ (bE (EW hf k).1 hz) ae,gJ (bE (aI (bj _ _) (Cg hf (k+1))) hz) ae⟩
theorem Kb{f:Nat->Nat}(hf:∀ k,f (k+1)<=f k){B:Nat}(hB:B<=8191)(hz:f 0<2^B)(k:Nat):(dN ((iy f k).2+f (k+1)/(2*(k+1)+1))).length<=256:=by
 have h1:=(EW hf k).1;have h2:=aI (bj (f (k+1)) (2*(k+1)+1)) (Cg hf (k+1));refine gJ (k:=B+1) ?_ ae;rw[aN];omega
def nE(n b:Nat):Nat->Nat
 | 0=>1*2^b/n
 | k+1=>nE n b k/(n*n)
theorem NU{n b:Nat}(hn:2<=n)(k:Nat):nE n b (k+1)*2<=nE n b k:=by
 show nE n b k/(n*n)*2<=_;have h1:nE n b k/(n*n)<=nE n b k/2:=ahm (by have:=cz hn hn;omega) ag;omega
theorem Hm(n b:Nat):nE n b 0<2^(b+1):=by
 show 1*2^b/n<_;rw[aK,aN];have:=bj (2^b) n;have:0<2^b:=aJ ag;omega
theorem Z4{n b:Nat}(hn:2<=n):∃ N,N<=b+1/\(∀ k,k<N->nE n b (k+1)≠0)/\nE n b (N+1)=0:=by
 obtain⟨N,h1,h2,h3⟩:=Yi (Hm n b) (NU hn);rcases N with _|N
 .refine ⟨0, ae,fun k hk=>absurd hk (aV _),?_⟩
  have:=NU (b:=b) hn 0;omega
 .exact ⟨N, ae,fun k hk=>h2 (k+1) ae,h3⟩
theorem abM{T x y f g:Nat}(hT:65536<=T)(hf:f=T/5)(th:x<=f)(nD:f<=x+f/(5*5)/3)(hy:y<=T/239)(hg:g=(fe (false,x*2^4) (true,y*2^2)).2):2<=g/\g<=T*4/\g/2<=T*2:=by
 have XN:(2:Nat)^4=16:=rfl;have h4:(2:Nat)^2=4:=rfl;have e:g=x*16-y*4:=by
  rw[hg,XN,h4];unfold fe;rw[aB (show ¬false=true from Bool.false_ne_true),aB (by show ¬x*16<y*4;omega)]
 omega
open Go.RowKit Fp Pu
def J9(f:Nat->Nat)(g:FuncId)(cap:List E)(N:Nat)(x:Nat):PS:=⟨30,true,[(6,.e (iP (((x+1):Nat):Int))),(5,.box 5 0),(4,.box 4 0),(2,.box 2 0),(1,.e (.fn g cap))],[(5,.cells 209 [(bP ((iy f x).1)),(dO (dN ((iy f x).2)))]),(4,.cells 209 [(bP false),(.v (.slice none 0 0))]),(2,.cells 209 [(bP false),(dO (dN (f x)))])]⟩
theorem TW(f:Nat->Nat)(g:FuncId)(cap:List E)(N:Nat)(hp:∀ k,k<=N->dM g ((.agg [(bP false),(dO (dN (f k)))])::cap) (.agg [(bP false),(dO (dN (f (k+1))))]))(hf:∀ k,f (k+1)<=f k)(B:Nat)(hB:B<=8191)(hz:f 0<2^B)(h0:∀ k,k<N->f (k+1)≠0)(hN:f (N+1)=0)(nR:N<=100000):dM 346 [(.agg [(bP false),(dO (dN (f 0)))]),(.fn g cap)] (.agg [(bP ((iy f N).1)),(dO (dN ((iy f N).2)))]):=by
 have z00:=xi hf hB hz 0;exact tr true Tryz.call346 Tryz.func346 (chain [.s (Sp.upto (J9 f g cap N) 0 N ae (fun x hx ic=>by
    have z1:=xi hf hB hz (x+1);have z0:=xi hf hB hz x;have zs:=(Ch hf hB hz x).1;have zt:=(Ch hf hB hz x).2;have zu:=Kb hf hB hz x;by_cases ho:(x+1)%2=1
    .exact eu (chain [.c (hp x ae :dM g ((.agg [(bP false),(dO (dN (f x)))])::cap) _),.c (rS (false,(f (x+1))) af :dM 336 [(.agg [(bP false),(dO (dN (f (x+1))))])] _),tF 15 ((f (x+1))=0) (h0 x ae),
      eh (2*(((x+1):Nat):Int)) ae,eh ((((2*(x+1)):Nat):Int)+1) ae,.c (sQ (false,(f (x+1))) af ((2*(x+1))+1) ae ae :dM 342 [(.agg [(bP false),(dO (dN (f (x+1))))]),(iP ((((2*(x+1))+1):Nat):Int))] _),.a ( ae :0<(2:Int)),tB 24 (by rw[ho];rfl:(((((x+1)%2):Nat):Int)==1)=true),.c (qj (false,((f (x+1))/((2*(x+1))+1))):dM 326 [(.agg [(bP false),(dO (dN ((f (x+1))/((2*(x+1))+1))))])] _),.c (oA (iy f x) af ((!false),((f (x+1))/((2*(x+1))+1))) af af :dM 335 [(.agg [(bP ((iy f x).1)),(dO (dN ((iy f x).2)))]),(.agg [(bP (!false)),(dO (dN ((f (x+1))/((2*(x+1))+1))))])] _),
      eh ((((x+1):Nat):Int)+1) ae]<|.e (chain [.b 5 (.of_eq (by first|rfl|simp[iy,ho]):Bx.le (.cells 209 [(bP ((fe (iy f x) ((!false),((f (x+1))/((2*(x+1))+1)))).1)),(dO (dN ((fe (iy f x) ((!false),((f (x+1))/((2*(x+1))+1)))).2)))]) (.cells 209 [(bP ((iy f (x+1)).1)),(dO (dN ((iy f (x+1)).2)))]))]<|.nil)) ah 
    .exact eu (chain [.c (hp x ae :dM g ((.agg [(bP false),(dO (dN (f x)))])::cap) _),.c (rS (false,(f (x+1))) af :dM 336 [(.agg [(bP false),(dO (dN (f (x+1))))])] _),tF 15 ((f (x+1))=0) (h0 x ae),
      eh (2*(((x+1):Nat):Int)) ae,eh ((((2*(x+1)):Nat):Int)+1) ae,.c (sQ (false,(f (x+1))) af ((2*(x+1))+1) ae ae :dM 342 [(.agg [(bP false),(dO (dN (f (x+1))))]),(iP ((((2*(x+1))+1):Nat):Int))] _),.a ( ae :0<(2:Int)),tB 24 ( av :(((((x+1)%2):Nat):Int)==1)=false),.c (oA (iy f x) af (false,((f (x+1))/((2*(x+1))+1))) af af :dM 335 [(.agg [(bP ((iy f x).1)),(dO (dN ((iy f x).2)))]),(.agg [(bP false),(dO (dN ((f (x+1))/((2*(x+1))+1))))])] _),
      eh ((((x+1):Nat):Int)+1) ae]<|.e (chain [.b 5 (.of_eq (by first|rfl|simp[iy,ho]):Bx.le (.cells 209 [(bP ((fe (iy f x) (false,((f (x+1))/((2*(x+1))+1)))).1)),(dO (dN ((fe (iy f x) (false,((f (x+1))/((2*(x+1))+1)))).2)))]) (.cells 209 [(bP ((iy f (x+1)).1)),(dO (dN ((iy f (x+1)).2)))]))]<|.nil)) ah)
  (fun hx=>by
    have z1:=xi hf hB hz (N+1);have z0:=xi hf hB hz N;have zs:=(Ch hf hB hz N).1;have zt:=(Ch hf hB hz N).2;have zu:=Kb hf hB hz N;exact eu (chain [.c (hp N ae :dM g ((.agg [(bP false),(dO (dN (f N)))])::cap) _),.c (rS (false,(f (N+1))) af :dM 336 [(.agg [(bP false),(dO (dN (f (N+1))))])] _),tB 15 (aE hN)]<|.nil) ah) ak :fP 4 Tryz.f346 (J9 f g cap N 0) .ret ⟨30,true,[(4,.box 4 0)],[(4,.cells 209 [(bP ((iy f N).1)),(dO (dN ((iy f N).2)))])]⟩) (chain [.o 6 (.int (by first|rfl|omega|(simp only[aO,aK];omega)):PV.le (.e (iP 1)) (.e (iP (((0+1):Nat):Int)))),.b 5 (.of_eq (by first|rfl|simp[iy,ho]):Bx.le (.cells 209 [(bP false),(dO (dN (f 0)))]) (.cells 209 [(bP ((iy f 0).1)),(dO (dN ((iy f 0).2)))]))]<|.nil)]<|.nil) ah 
theorem Us(m n:Nat)(hm:(dN m).length<=256)(lN:n≠0)(hn:n<60000):dM 347 [(.agg [(bP false),(dO (dN m))]),(.ref 1 fun j_=>[(iP n)].getD j_ .any)] (.agg [(bP false),(dO (dN (m/(n*n))))]):=by
 have hnn:n*n<3600000000:=Nat.mul_lt_mul_of_lt_of_lt hn hn;have hnz:n*n≠0:=cN lN lN;exact tr true Tryz.call347 Tryz.func347 (chain [eh ((n:Int)*(n:Int)) ae,.c (sQ (false,m) af (n*n) ae ae :dM 342 [(.agg [(bP false),(dO (dN m))]),(iP (((n*n):Nat):Int))] _)]<|.nil) ah 
theorem Ut(n b:Nat)(S:Bool×Nat)(lN:n≠0)(hn:n<60000)(hb:b<=8000)(hS:dM 346 [(.agg [(bP false),(dO (dN (1*2^b/n)))]),.fn 347 [(.ref 1 fun j_=>[(iP n)].getD j_ .any)]] (.agg [(bP S.1),(dO (dN S.2))])):dM 343 [(iP n),(iP b)] (.agg [(bP S.1),(dO (dN S.2))]):=by
 have z0:(dN 1).length<=256:=oL ag;have z1:(dN (1*2^b)).length<=256:=gJ (k:=b+1) (by rw[aN,aK];have:0<2^b:=aJ ag;omega) ae;exact tr true Tryz.call343 Tryz.func343 (chain [.o 6 (.e one_le:PV.le (.e (.sl false 1 1 fun i_ j_=>[(.v (.int .u32 1))].getD (i_*1+j_) (.v (.bool false)))) (.e (dO (dN 1)))),.c (uh 1 b af ae af),.c (sQ (false,(1*2^b)) af n ae ae :dM 342 [(.agg [(bP false),(dO (dN (1*2^b)))]),(iP n)] _),.c (hS:dM 346 [(.agg [(bP false),(dO (dN ((1*2^b)/n)))]),(.fn 347 [(.ref 1 fun j_=>[(iP n)].getD j_ .any)])] _)]<|.nil) ah 
theorem KJ(n b:Nat)(lN:2<=n)(hn:n<60000)(hb:b<=8000):∃ S:Bool×Nat,S.2<=2^b/n/\2^b/n<=S.2+2^b/n/(n*n)/3/\dM 343 [iP (n:Int),iP (b:Int)] (.agg [(bP S.1),(dO (dN S.2))]):=by
 obtain⟨N,h1,h2,h3⟩:=Z4 (b:=b) lN;have hf:∀ k,nE n b (k+1)<=nE n b k:=fun k=>bj _ _
 obtain⟨r1,r2⟩:=EW hf N;have e0:nE n b 0=2^b/n:=by show 1*2^b/n=_;rw[aK]
 have e1:nE n b 1=2^b/n/(n*n):=by show nE n b 0/(n*n)=_;rw[e0]
 refine⟨iy (nE n b) N,by rw[<-e0];exact r1,by rw[<-e1,<-e0];exact r2,?_⟩;exact Ut n b _ ae hn hb (TW (nE n b) 347 _ N (fun k _=>Us (nE n b k) n (xi hf (show b+1<=8191 by omega) (Hm n b) k) ae hn) hf (b+1) ae (Hm n b) h2 h3 ae)
theorem Uy(b:Nat)(x y:Bool×Nat)(zx:x.2<2^b)(zy:y.2<2^b)(hb:b<=8000)(hx:dM 343 [iP ((5:Nat):Int),iP (b:Int)] (.agg [(bP x.1),(dO (dN x.2))]))(hy:dM 343 [iP ((239:Nat):Int),iP (b:Int)] (.agg [(bP y.1),(dO (dN y.2))])):dM 328 [(iP b)] (.agg [(bP ((fe (false,x.2*2^4) (true,y.2*2^2)).1)),(dO (dN ((fe (false,x.2*2^4) (true,y.2*2^2)).2)))]):=by
 have z1:(dN x.2).length<=256:=gJ zx ae;have z2:(dN y.2).length<=256:=gJ zy ae;have e5:2^(b+5)=2^b*32:=by rw[aH]
 have z3:(dN (x.2*2^4)).length<=256:=gJ (k:=b+5) ae ae;have z4:(dN (y.2*2^2)).length<=256:=gJ (k:=b+5) ae ae;have z5:(dN (x.2*2^4+y.2*2^2)).length<=256:=gJ (k:=b+5) ae ae;exact tr true Tryz.call328 Tryz.func328 (chain [.c (hx:dM 343 [(iP 5),(iP b)] _),.c (hy:dM 343 [(iP 239),(iP b)] _),.c (uh x.2 4 af ae af),.c (uh y.2 2 af ae af),.c (oA (false,(x.2*2^4)) af (true,(y.2*2^2)) af af :dM 335 [(.agg [(bP false),(dO (dN (x.2*2^4)))]),(.agg [(bP true),(dO (dN (y.2*2^2)))])] _)]<|.nil) ah 
theorem KK(b:Nat)(eB:16<=b)(hb:b<=8000):∃ c:Bool×Nat,2<=c.2/\c.2<=2^b*4/\c.2/2<=2^b*2/\dM 328 [iP (b:Int)] (.agg [(bP c.1),(dO (dN c.2))]):=by
 obtain⟨x,x1,x2,hx⟩:=KJ 5 b ag ag hb;obtain⟨y,y1,y2,hy⟩:=KJ 239 b ag ag hb;have hT:65536<=2^b:=by have:=aR (show 0<2 by decide) eB;omega
 obtain⟨g1,g2,g3⟩:=abM hT rfl x1 x2 y1 rfl;exact⟨_,g1,g2,g3,Uy b x y ae ae hb hx hy⟩
open Go.RowKit Fp Pu
theorem RL(n:Nat)(h:n<4294967296):bits .and .u32 (n:Int) 3=((n%4:Nat):Int):=by
 have:=bits_and_u32_nat n 3 h ag;rw[show((3:Int))=((3:Nat):Int)from rfl,this];exact congrArg _ (ahq n 2)
theorem ZD(k:Nat)(h:k<=3):bits .and .i64 (4-(k:Int)) 3=(((4-k)%4:Nat):Int):=by
 rcases(show k=0\/k=1\/k=2\/k=3 by omega)with rfl|rfl|rfl|rfl<;>decide
theorem WC{x:Bool×Nat}{m:Nat}(h:m<=x.2):fe x (!x.1,m)=(x.1,x.2-m):=by
 unfold fe;rw[aB (by show ¬x.1 = !x.1;cases x.1<;>decide),aB (by show ¬x.2<m;omega)]
theorem ac0(n:Nat):n%4<=3:= ae 
theorem acZ(n:Nat):(4-n)%4<=3:= ae 
theorem ac1{x:Bool×Nat}{H b t:Nat}(h0:1<=H)(hH:H<=2^(b+t+40)*2):(fe x (!x.1,x.2/H*H)).2/2^(t+40)<=2^(b+1):=by
 rw[WC (ch _ _)];show(x.2-x.2/H*H)/_<=_;have h1:x.2-x.2/H*H=x.2%H:=by
  have:=bM x.2 H;rw[aQ H]at this;omega
 have h2:=aS x.2 (show 0<H by omega);rw[h1];refine Nat.div_le_of_le_mul (aI (cJ h2) (aI hH (Nat.le_of_eq ?_)));rw[<-aH,show t+40+(b+1)=b+t+40+1 by omega];exact(aN 2 (b+t+40)).symm
def fI(x:Bool×Nat):Nat->Bool
 | 0=>false
 | k+1=>(fI x k != x.1)
def fj(x:Bool×Nat)(b:Nat):Nat->(Bool×Nat)×(Bool×Nat)
 | 0=>((false,0),(false,1*2^b))
 | k+1=>if(k+1)%2=1 then(fe (fj x b k).1 ((if 2<=(k+1)%4 then !(fI x (k+1))else fI x (k+1)),eN x.2 b (k+1)),(fj x b k).2)
  else((fj x b k).1,fe (fj x b k).2 ((if 2<=(k+1)%4 then !(fI x (k+1))else fI x (k+1)),eN x.2 b (k+1)))
theorem QT{x:Bool×Nat}{b:Nat}(h:x.2<=2^(b+1)):∀ k,(fj x b k).1.2<=(k+1)*2^(b+1)/\(fj x b k).2.2<=(k+1)*2^(b+1)
 | 0=>⟨bq _,by show 1*2^b<=_;have:=aN (n:=2) (m:=b);omega⟩
 | k+1=>by
  obtain⟨h1,h2⟩:=QT h k;have h3:=Af h (k+1);have h4:(k+1+1)*2^(b+1)=(k+1)*2^(b+1)+2^(b+1):=Nat.succ_mul _ _;unfold fj;split
  .refine ⟨aI (rT _ _) ?_,by rw[h4];exact aI h2 (Nat.le_add_right _ _)⟩
   rw[h4];exact Nat.add_le_add h1 h3
  .refine ⟨by rw[h4];exact aI h1 (Nat.le_add_right _ _),aI (rT _ _) ?_⟩
   rw[h4];exact Nat.add_le_add h2 h3
theorem QU{x:Bool×Nat}{b:Nat}(h:x.2<=2^(b+1))(hb:b<=3000){k:Nat}(hk:k<=b+5):(fj x b k).1.2<2^(b+14)/\(fj x b k).2.2<2^(b+14):=by
 obtain⟨h1,h2⟩:=QT h k;have h3:(k+1)*2^(b+1)<2^(b+14):=by
  rw[show b+14=13+(b+1)by omega,aH 2 13];exact ca ae (aJ ag)
 exact⟨bE h1 h3,bE h2 h3⟩
theorem WR{T:TypeId}:Bx.le (.cells T [bP false,.v (.slice none 0 0)]) (.cells T [bP false,dO (dN 0)]):=
 .cells (fun _=>rfl) (.cons (.refl _) (.cons yM .nil))
structure Sr(x:Bool×Nat)(b k:Nat):Prop where
 t0:(dN (eN x.2 b k)).length<=256
 t1:(dN (eN x.2 b (k+1))).length<=256
 tm:(dN (eN x.2 b k*x.2)).length<=256
 tq:(dN (eN x.2 b k*x.2/2^b)).length<=256
 s0:(dN (fj x b k).1.2).length<=256
 c0:(dN (fj x b k).2.2).length<=256
 s1:(dN ((fj x b k).1.2+eN x.2 b (k+1))).length<=256
 c1:(dN ((fj x b k).2.2+eN x.2 b (k+1))).length<=256
theorem QS{x:Bool×Nat}{b:Nat}(h:x.2<=2^(b+1))(hb:b<=3000){k:Nat}(hk:k<=b+5):Sr x b k:=by
 have hp:(2:Nat)^(b+2)=2^(b+1)*2:=aN _ _;have hq:(0:Nat)<2^(b+1):=aJ ag;have t0:=Af h k;have t1:=Af h (k+1);obtain⟨s,c⟩:=QU h hb hk;have hm:eN x.2 b k*x.2<2^(b+2+(b+2)):=by
  rw[aH];exact Nat.mul_lt_mul_of_lt_of_lt ae ae 
 have e14:(2:Nat)^(b+15)=2^(b+14)*2:=aN _ _;have e13:(2:Nat)^(b+1)<=2^(b+14):=aR ag ae;exact⟨gJ (k:=b+2) ae ae,gJ (k:=b+2) ae ae,gJ hm ae,gJ (bE (bj _ _) hm) ae,
  gJ s ae,gJ c ae,gJ (k:=b+15) ae ae,gJ (k:=b+15) ae ae⟩
theorem OP{s:Bool}{m b:Nat}(h:m<2^4000)(hb:b<=8000):iM (canon s m (-(b:Int))):=by
 by_cases h0:m=0
 .subst h0;exact .inl rfl
 .have e:canon s m (-(b:Int))=⟨s,m/2^fk m,-(b:Int)+fk m⟩:=by unfold canon;rw[aB h0]
  have h1:dU m<=4000:=gS.2 h;have h2:=qd (bj m (2^fk m));have h3:fk m<=4000:=by
   have:=Bv h0;apply bh;intro hc;have:=aR (show 0<2 by decide) (show 4000<=fk m by omega);omega
  rw[e];exact .inr ⟨by show dU (m/2^fk m)<=4096;omega,by show -16384 <= -(b:Int)+fk m;omega,by show -(b:Int)+fk m<=16384;omega,by show(dU (m/2^fk m):Int)+(-(b:Int)+fk m)<=16384;omega⟩
theorem DY{a b i j n:Nat}(ha:a<2^i)(hb:b<2^j)(hi:i<=n)(hj:j<=n):a+b<2^(n+1):=by
 have h1:=aR (show 0<2 by decide) hi;have h2:=aR (show 0<2 by decide) hj;have e:2^(n+1)=2^n*2:=aN _ _;omega
theorem WD{a b:Bool×Nat}{i j n:Nat}(ha:a.2<2^i)(hb:b.2<2^j)(hi:i<=n)(hj:j<=n):(fe a b).2<2^(n+1):=bE (rT _ _) (DY ha hb hi hj)
theorem OQ{s:Bool}{m:Nat}{e:Int}(h:iM (canon s m e)):(canon s m e).Valid:=⟨oq _ _ _,h⟩
theorem Bw{m i k:Nat}(h:m<2^i)(hk:i<=k):m<2^k:=a7 h (aR ag hk)
def kN(a c:Bool×Nat):Bool×Nat:=if a.1=true/\a.2%c.2≠0 then fe (a.1,a.2/c.2) (true,1)else(a.1,a.2/c.2)
theorem L4(a c:Bool×Nat):(kN a c).2<=a.2/c.2+1:=by
 unfold kN;split
 .exact rT _ _
 .exact Nat.le_succ _
theorem WN(a c:Bool×Nat):(kN a c).2*c.2<=a.2+c.2:=by
 refine aI (a6 c.2 (L4 a c)) ?_;rw[Nat.succ_mul];exact Nat.add_le_add_right (ch _ _) _
theorem OD{lo hi:Dy}{e f:Int}(h:e≠0\/f≠0):gN lo e hi f=dV:=aC h
theorem aaR{lo hi:Dy}{e f:Int}(h:e=0)(k:f=0):gN lo e hi f=⟨lo,hi,false⟩:=aB (by rw[h,k];decide)
open Go.RowKit Fp Pu
def QN(x:Bool×Nat)(b N:Nat)(i:Nat):PS:=⟨43,true,[(8,.e (iP (((i+1):Nat):Int))),(7,.box 7 0),(5,.box 5 0),(4,.box 4 0),(2,.box 2 0),(1,.e (iP b))],[(5,.cells 209 [(bP (((fj x b i).2).1)),(dO (dN (((fj x b i).2).2)))]),(7,.cells 209 [(bP (fI x i)),(dO (dN (eN x.2 b i)))]),(4,.cells 209 [(bP (((fj x b i).1).1)),(dO (dN (((fj x b i).1).2)))]),(2,.cells 209 [(bP x.1),(dO (dN x.2))])]⟩
theorem DI(n i:Nat):(dN n).getD i 0<4294967296:=by
 by_cases h:i<(dN n).length
 .rw [aF,aM h]
  exact gr n _ (bR h)
 .rw [aF,bu ae];decide
theorem UM(d:Dy)(b t m:Nat)(cp:Bool×Nat)(hd:d.Valid)(ht:t=d.dX.toNat)(eB:16<=b)(iR:b<=2000)(nW:t<=2000)(K:Nat)(hK:K<=6000)(zx:m<2^K)(zc:2<=cp.2)(zd:(dN cp.2).length<=256)(mK:dM 328 [iP ((((b+t)+40):Nat):Int)] (.agg [(bP cp.1),(dO (dN cp.2))]))(pC:dM 334 [dP d,iP ((((b+t)+40):Nat):Int)] (.agg [(bP true),(dO (dN m))]))(hn:0<(dN (m/(cp.2/2^1))).length):dM 324 [(dP d),(iP b)] (.ef [(.agg [(bP ((fe (true,m) (false,((m/(cp.2/2^1))*(cp.2/2^1)))).1)),(dO (dN ((fe (true,m) (false,((m/(cp.2/2^1))*(cp.2/2^1)))).2/2^(t+40))))]),(iP ((((4-((dN (m/(cp.2/2^1))).getD 0 0%4))%4):Nat):Int))]):=by
 have G4:=BR hd;have zX:(dN m).length<=256:=gJ zx ae;have zH:(dN (cp.2/2^1)).length<=256:=aI (il (bj _ _)) zd;have nH:(cp.2/2^1)≠0:= ae ;have mM:((m/(cp.2/2^1))*(cp.2/2^1))<=m:=ch _ _;have zN:(dN (m/(cp.2/2^1))).length<=256:=aI (il (bj _ _)) zX;have zM:(dN ((m/(cp.2/2^1))*(cp.2/2^1))).length<=256:=aI (il mM) zX;have zA:(dN (m+((m/(cp.2/2^1))*(cp.2/2^1)))).length<=256:=gJ (k:=K+1) (by have:=aN 2 K;omega) ae;have zR:(dN (fe (true,m) (false,((m/(cp.2/2^1))*(cp.2/2^1)))).2).length<=256:=aI (il (rT _ _)) zA;have zm:(dN (m%(cp.2/2^1))).length<=256:=aI (il (dA _ _)) zX;have hg:(dN (m/(cp.2/2^1))).getD 0 0<4294967296:=DI _ 0;have h4:(dN (m/(cp.2/2^1))).getD 0 0%4<=3:= ae ;exact tr true Tryz.call324 Tryz.func324 (chain [.c (gh _ af :dM 130 [(dP d)] _),.o 19 (.int au :PV.le (.e (iP (if 0>(Dy.dX d)then 0 else(Dy.dX d)))) (.e (iP t))),eh ((b:Int)+(t:Int)) ae,
  eh ((((b+t):Nat):Int)+40) ae,.c (mK:dM 328 [(iP ((((b+t)+40):Nat):Int))] _),.c (qS cp.2 1 af ae),.c (pC:dM 334 [(dP d),(iP ((((b+t)+40):Nat):Int))] _),.c (tw _ _ ae ae af :dM 296 [(dO (dN m)),(dO (dN (cp.2/2^1)))] _),.c (tz _ _ af af af :dM 181 [(dO (dN (m/(cp.2/2^1)))),(dO (dN (cp.2/2^1)))] _),.c (oA (true,m) af (false,((m/(cp.2/2^1))*(cp.2/2^1))) af af :dM 335 [(.agg [(bP true),(dO (dN m))]),(.agg [(bP false),(dO (dN ((m/(cp.2/2^1))*(cp.2/2^1))))])] _),tT 61 (0<((dN (m/(cp.2/2^1))).length:Int)) ae,iX (0) ((dN (m/(cp.2/2^1))).length) ae,.o 65 (.int (RL _ ae):PV.le (.e (.v (.int .u32 (bits .and .u32 ((((dN (m/(cp.2/2^1))).getD 0 0):Nat):Int) 3)))) (.e (.v (.int .u32 (((((dN (m/(cp.2/2^1))).getD 0 0)%4):Nat):Int))))),.o 66 (.int (NK _ ae):PV.le (.e (iP (IntKind.i64.wrap (((((dN (m/(cp.2/2^1))).getD 0 0)%4):Nat):Int)))) (.e (iP (((((dN (m/(cp.2/2^1))).getD 0 0)%4):Nat):Int)))),
  eh (4-(((((dN (m/(cp.2/2^1))).getD 0 0)%4):Nat):Int)) ae,.o 71 (.int (ZD _ ae):PV.le (.e (iP (bits .and .i64 (4-(((((dN (m/(cp.2/2^1))).getD 0 0)%4):Nat):Int)) 3))) (.e (iP ((((4-((dN (m/(cp.2/2^1))).getD 0 0%4))%4):Nat):Int)))),
  eh ((t:Int)+40) ae,.c (qS ((fe (true,m) (false,((m/(cp.2/2^1))*(cp.2/2^1)))).2) (t+40) af ae)]<|.nil) ah 
theorem UK(d:Dy)(b t m:Nat)(cp:Bool×Nat)(hd:d.Valid)(ht:t=d.dX.toNat)(eB:16<=b)(iR:b<=2000)(nW:t<=2000)(K:Nat)(hK:K<=6000)(zx:m<2^K)(zc:2<=cp.2)(zd:(dN cp.2).length<=256)(mK:dM 328 [iP ((((b+t)+40):Nat):Int)] (.agg [(bP cp.1),(dO (dN cp.2))]))(pC:dM 334 [dP d,iP ((((b+t)+40):Nat):Int)] (.agg [(bP true),(dO (dN m))]))(hn:¬0<(dN (m/(cp.2/2^1))).length):dM 324 [(dP d),(iP b)] (.ef [(.agg [(bP ((fe (true,m) (false,((m/(cp.2/2^1))*(cp.2/2^1)))).1)),(dO (dN ((fe (true,m) (false,((m/(cp.2/2^1))*(cp.2/2^1)))).2/2^(t+40))))]),(iP 0)]):=by
 have G4:=BR hd;have zX:(dN m).length<=256:=gJ zx ae;have zH:(dN (cp.2/2^1)).length<=256:=aI (il (bj _ _)) zd;have nH:(cp.2/2^1)≠0:= ae ;have mM:((m/(cp.2/2^1))*(cp.2/2^1))<=m:=ch _ _;have zN:(dN (m/(cp.2/2^1))).length<=256:=aI (il (bj _ _)) zX;have zM:(dN ((m/(cp.2/2^1))*(cp.2/2^1))).length<=256:=aI (il mM) zX;have zA:(dN (m+((m/(cp.2/2^1))*(cp.2/2^1)))).length<=256:=gJ (k:=K+1) (by have:=aN 2 K;omega) ae;have zR:(dN (fe (true,m) (false,((m/(cp.2/2^1))*(cp.2/2^1)))).2).length<=256:=aI (il (rT _ _)) zA;have zm:(dN (m%(cp.2/2^1))).length<=256:=aI (il (dA _ _)) zX;have hg:(dN (m/(cp.2/2^1))).getD 0 0<4294967296:=DI _ 0;have h4:(dN (m/(cp.2/2^1))).getD 0 0%4<=3:= ae ;exact tr true Tryz.call324 Tryz.func324 (chain [.c (gh _ af :dM 130 [(dP d)] _),.o 19 (.int au :PV.le (.e (iP (if 0>(Dy.dX d)then 0 else(Dy.dX d)))) (.e (iP t))),eh ((b:Int)+(t:Int)) ae,
  eh ((((b+t):Nat):Int)+40) ae,.c (mK:dM 328 [(iP ((((b+t)+40):Nat):Int))] _),.c (qS cp.2 1 af ae),.c (pC:dM 334 [(dP d),(iP ((((b+t)+40):Nat):Int))] _),.c (tw _ _ ae ae af :dM 296 [(dO (dN m)),(dO (dN (cp.2/2^1)))] _),.c (tz _ _ af af af :dM 181 [(dO (dN (m/(cp.2/2^1)))),(dO (dN (cp.2/2^1)))] _),.c (oA (true,m) af (false,((m/(cp.2/2^1))*(cp.2/2^1))) af af :dM 335 [(.agg [(bP true),(dO (dN m))]),(.agg [(bP false),(dO (dN ((m/(cp.2/2^1))*(cp.2/2^1))))])] _),tF 61 (0<((dN (m/(cp.2/2^1))).length:Int)) ae,eh (4-0) ae,.o 71 (.int ag :PV.le (.e (iP (bits .and .i64 (4-0) 3))) (.e (iP 0))),eh ((t:Int)+40) ae,.c (qS ((fe (true,m) (false,((m/(cp.2/2^1))*(cp.2/2^1)))).2) (t+40) af ae)]<|.nil) ah 
theorem UN(d:Dy)(b t m:Nat)(cp:Bool×Nat)(hd:d.Valid)(ht:t=d.dX.toNat)(eB:16<=b)(iR:b<=2000)(nW:t<=2000)(K:Nat)(hK:K<=6000)(zx:m<2^K)(zc:2<=cp.2)(zd:(dN cp.2).length<=256)(mK:dM 328 [iP ((((b+t)+40):Nat):Int)] (.agg [(bP cp.1),(dO (dN cp.2))]))(pC:dM 334 [dP d,iP ((((b+t)+40):Nat):Int)] (.agg [(bP false),(dO (dN m))]))(hn:0<(dN (m/(cp.2/2^1))).length):dM 324 [(dP d),(iP b)] (.ef [(.agg [(bP ((fe (false,m) (true,((m/(cp.2/2^1))*(cp.2/2^1)))).1)),(dO (dN ((fe (false,m) (true,((m/(cp.2/2^1))*(cp.2/2^1)))).2/2^(t+40))))]),(iP ((((dN (m/(cp.2/2^1))).getD 0 0%4):Nat):Int))]):=by
 have G4:=BR hd;have zX:(dN m).length<=256:=gJ zx ae;have zH:(dN (cp.2/2^1)).length<=256:=aI (il (bj _ _)) zd;have nH:(cp.2/2^1)≠0:= ae ;have mM:((m/(cp.2/2^1))*(cp.2/2^1))<=m:=ch _ _;have zN:(dN (m/(cp.2/2^1))).length<=256:=aI (il (bj _ _)) zX;have zM:(dN ((m/(cp.2/2^1))*(cp.2/2^1))).length<=256:=aI (il mM) zX;have zA:(dN (m+((m/(cp.2/2^1))*(cp.2/2^1)))).length<=256:=gJ (k:=K+1) (by have:=aN 2 K;omega) ae;have zR:(dN (fe (false,m) (true,((m/(cp.2/2^1))*(cp.2/2^1)))).2).length<=256:=aI (il (rT _ _)) zA;have zm:(dN (m%(cp.2/2^1))).length<=256:=aI (il (dA _ _)) zX;have hg:(dN (m/(cp.2/2^1))).getD 0 0<4294967296:=DI _ 0;have h4:(dN (m/(cp.2/2^1))).getD 0 0%4<=3:= ae ;exact tr true Tryz.call324 Tryz.func324 (chain [.c (gh _ af :dM 130 [(dP d)] _),.o 19 (.int au :PV.le (.e (iP (if 0>(Dy.dX d)then 0 else(Dy.dX d)))) (.e (iP t))),eh ((b:Int)+(t:Int)) ae,
  eh ((((b+t):Nat):Int)+40) ae,.c (mK:dM 328 [(iP ((((b+t)+40):Nat):Int))] _),.c (qS cp.2 1 af ae),.c (pC:dM 334 [(dP d),(iP ((((b+t)+40):Nat):Int))] _),.c (tw _ _ ae ae af :dM 296 [(dO (dN m)),(dO (dN (cp.2/2^1)))] _),.c (tz _ _ af af af :dM 181 [(dO (dN (m/(cp.2/2^1)))),(dO (dN (cp.2/2^1)))] _),.c (oA (false,m) af (true,((m/(cp.2/2^1))*(cp.2/2^1))) af af :dM 335 [(.agg [(bP false),(dO (dN m))]),(.agg [(bP true),(dO (dN ((m/(cp.2/2^1))*(cp.2/2^1))))])] _),tT 61 (0<((dN (m/(cp.2/2^1))).length:Int)) ae,iX (0) ((dN (m/(cp.2/2^1))).length) ae,.o 65 (.int (RL _ ae):PV.le (.e (.v (.int .u32 (bits .and .u32 ((((dN (m/(cp.2/2^1))).getD 0 0):Nat):Int) 3)))) (.e (.v (.int .u32 (((((dN (m/(cp.2/2^1))).getD 0 0)%4):Nat):Int))))),.o 66 (.int (NK _ ae):PV.le (.e (iP (IntKind.i64.wrap (((((dN (m/(cp.2/2^1))).getD 0 0)%4):Nat):Int)))) (.e (iP (((((dN (m/(cp.2/2^1))).getD 0 0)%4):Nat):Int)))),
  eh ((t:Int)+40) ae,.c (qS ((fe (false,m) (true,((m/(cp.2/2^1))*(cp.2/2^1)))).2) (t+40) af ae)]<|.nil) ah 
theorem UL(d:Dy)(b t m:Nat)(cp:Bool×Nat)(hd:d.Valid)(ht:t=d.dX.toNat)(eB:16<=b)(iR:b<=2000)(nW:t<=2000)(K:Nat)(hK:K<=6000)(zx:m<2^K)(zc:2<=cp.2)(zd:(dN cp.2).length<=256)(mK:dM 328 [iP ((((b+t)+40):Nat):Int)] (.agg [(bP cp.1),(dO (dN cp.2))]))(pC:dM 334 [dP d,iP ((((b+t)+40):Nat):Int)] (.agg [(bP false),(dO (dN m))]))(hn:¬0<(dN (m/(cp.2/2^1))).length):dM 324 [(dP d),(iP b)] (.ef [(.agg [(bP ((fe (false,m) (true,((m/(cp.2/2^1))*(cp.2/2^1)))).1)),(dO (dN ((fe (false,m) (true,((m/(cp.2/2^1))*(cp.2/2^1)))).2/2^(t+40))))]),(iP 0)]):=by
 have G4:=BR hd;have zX:(dN m).length<=256:=gJ zx ae;have zH:(dN (cp.2/2^1)).length<=256:=aI (il (bj _ _)) zd;have nH:(cp.2/2^1)≠0:= ae ;have mM:((m/(cp.2/2^1))*(cp.2/2^1))<=m:=ch _ _;have zN:(dN (m/(cp.2/2^1))).length<=256:=aI (il (bj _ _)) zX;have zM:(dN ((m/(cp.2/2^1))*(cp.2/2^1))).length<=256:=aI (il mM) zX;have zA:(dN (m+((m/(cp.2/2^1))*(cp.2/2^1)))).length<=256:=gJ (k:=K+1) (by have:=aN 2 K;omega) ae;have zR:(dN (fe (false,m) (true,((m/(cp.2/2^1))*(cp.2/2^1)))).2).length<=256:=aI (il (rT _ _)) zA;have zm:(dN (m%(cp.2/2^1))).length<=256:=aI (il (dA _ _)) zX;have hg:(dN (m/(cp.2/2^1))).getD 0 0<4294967296:=DI _ 0;have h4:(dN (m/(cp.2/2^1))).getD 0 0%4<=3:= ae ;exact tr true Tryz.call324 Tryz.func324 (chain [.c (gh _ af :dM 130 [(dP d)] _),.o 19 (.int au :PV.le (.e (iP (if 0>(Dy.dX d)then 0 else(Dy.dX d)))) (.e (iP t))),eh ((b:Int)+(t:Int)) ae,
  eh ((((b+t):Nat):Int)+40) ae,.c (mK:dM 328 [(iP ((((b+t)+40):Nat):Int))] _),.c (qS cp.2 1 af ae),.c (pC:dM 334 [(dP d),(iP ((((b+t)+40):Nat):Int))] _),.c (tw _ _ ae ae af :dM 296 [(dO (dN m)),(dO (dN (cp.2/2^1)))] _),.c (tz _ _ af af af :dM 181 [(dO (dN (m/(cp.2/2^1)))),(dO (dN (cp.2/2^1)))] _),.c (oA (false,m) af (true,((m/(cp.2/2^1))*(cp.2/2^1))) af af :dM 335 [(.agg [(bP false),(dO (dN m))]),(.agg [(bP true),(dO (dN ((m/(cp.2/2^1))*(cp.2/2^1))))])] _),tF 61 (0<((dN (m/(cp.2/2^1))).length:Int)) ae,eh ((t:Int)+40) ae,.c (qS ((fe (false,m) (true,((m/(cp.2/2^1))*(cp.2/2^1)))).2) (t+40) af ae)]<|.nil) ah 
theorem UJ(d:Dy)(b:Nat)(hd:d.Valid)(eB:16<=b)(iR:b<=1000)(ht:d.dX<=100):∃ (r:Bool×Nat) (k:Nat),r.2<=2^(b+1)/\k<=3/\dM 324 [dP d,iP (b:Int)] (.ef [(.agg [(bP r.1),(dO (dN r.2))]),iP (k:Int)]):=by
 obtain⟨t,nW⟩:∃ t,t=d.dX.toNat:=⟨_,rfl⟩
 obtain⟨cp,c1,c2,c3,mK⟩:=KK (b+t+40) ae ae;have pC:=Ff d hd (b+t+40) 6000 ae ag ae;have ek:=DT (d:=d) (b:=b+t+40) (K:=6000) ae;generalize mG d (b+t+40)=x at pC ek;have hp:(2:Nat)^(b+t+40+3)=2^(b+t+40)*8:=by rw[aH]
 have zd:(dN cp.2).length<=256:=gJ (k:=b+t+40+3) (by have:0<2^(b+t+40):=aJ ag;omega) ae;obtain⟨sg,m⟩:=x;have hle:=ac1 (x:=(sg,m)) (H:=cp.2/2^1) (b:=b) (t:=t) ae c3;by_cases hn:0<(dN (m/(cp.2/2^1))).length
 .cases sg with
  | false=>exact⟨((fe (false,m) (true,m/(cp.2/2^1)*(cp.2/2^1))).1,(fe (false,m) (true,m/(cp.2/2^1)*(cp.2/2^1))).2/2^(t+40)),_,hle,ac0 _,UN d b t m cp hd nW eB ae ae 6000 ag ek c1 zd mK pC hn⟩
  | true=>exact⟨((fe (true,m) (false,m/(cp.2/2^1)*(cp.2/2^1))).1,(fe (true,m) (false,m/(cp.2/2^1)*(cp.2/2^1))).2/2^(t+40)),_,hle,acZ _,UM d b t m cp hd nW eB ae ae 6000 ag ek c1 zd mK pC hn⟩
 .cases sg with
  | false=>exact⟨((fe (false,m) (true,m/(cp.2/2^1)*(cp.2/2^1))).1,(fe (false,m) (true,m/(cp.2/2^1)*(cp.2/2^1))).2/2^(t+40)),_,hle,bq 3,UL d b t m cp hd nW eB ae ae 6000 ag ek c1 zd mK pC hn⟩
  | true=>exact⟨((fe (true,m) (false,m/(cp.2/2^1)*(cp.2/2^1))).1,(fe (true,m) (false,m/(cp.2/2^1)*(cp.2/2^1))).2/2^(t+40)),_,hle,bq 3,UK d b t m cp hd nW eB ae ae 6000 ag ek c1 zd mK pC hn⟩
theorem UP(x:Bool×Nat)(b N:Nat)(nD:x.2<=2^(b+1))(hb:b<=3000)(nR:N<=b+4)(h0:∀ k,k<N+1->eN x.2 b k≠0)(hN:eN x.2 b (N+1)=0):dM 325 [(.agg [(bP x.1),(dO (dN x.2))]),(iP b)] (.ef [(.agg [(bP (((fj x b N).1).1)),(dO (dN (((fj x b N).1).2)))]),(.agg [(bP (((fj x b N).2).1)),(dO (dN (((fj x b N).2).2)))])]):=by
 have zx:(dN x.2).length<=256:=gJ (k:=b+2) (by have e:2^(b+2)=2^(b+1)*2:=aN _ _;have:0<2^(b+1):=aJ ag;omega) ae;have z0:(dN 1).length<=256:=oL ag;have z1:(dN (1*2^b)).length<=256:=gJ (k:=b+1) (by rw[aN,aK];have:0<2^b:=aJ ag;omega) ae;exact tr true Tryz.call325 Tryz.func325 (chain [.o 10 (.e one_le:PV.le (.e (.sl false 1 1 fun i_ j_=>[(.v (.int .u32 1))].getD (i_*1+j_) (.v (.bool false)))) (.e (dO (dN 1)))),.c (uh 1 b af ae af),.s (Sp.upto (QN x b N) 0 N ae (fun i hi mN=>by
    have SF:=QS nD hb (k:=i) ae;obtain⟨f0,f1,f2,f3,f4,f5,f6,f7⟩:=SF;by_cases h4:2<=(i+1)%4
    .by_cases ho:(i+1)%2=1
     .exact eu (chain [.c (xH ((fI x i),(eN x.2 b i)) af x af _ ae af :dM 332 [(.agg [(bP (fI x i)),(dO (dN (eN x.2 b i)))]),(.agg [(bP x.1),(dO (dN x.2))]),(iP b)] _),.c (sQ (((fI x i) != x.1),((eN x.2 b i)*x.2/2^b)) af (i+1) ae ae :dM 342 [(.agg [(bP ((fI x i) != x.1)),(dO (dN ((eN x.2 b i)*x.2/2^b)))]),(iP (((i+1):Nat):Int))] _),.c (rS ((fI x (i+1)),(eN x.2 b (i+1))) af :dM 336 [(.agg [(bP (fI x (i+1))),(dO (dN (eN x.2 b (i+1))))])] _),tF 25 ((eN x.2 b (i+1))=0) (h0 (i+1) ae),.a ( ae :0<(4:Int)),tT 31 (2<=((((i+1)%4):Nat):Int)) ae,.c (qj ((fI x (i+1)),(eN x.2 b (i+1))):dM 326 [(.agg [(bP (fI x (i+1))),(dO (dN (eN x.2 b (i+1))))])] _),.a ( ae :0<(2:Int)),tB 36 (by rw[ho];rfl:(((((i+1)%2):Nat):Int)==1)=true),.c (oA ((fj x b i).1) af ((!(fI x (i+1))),(eN x.2 b (i+1))) af af :dM 335 [(.agg [(bP (((fj x b i).1).1)),(dO (dN (((fj x b i).1).2)))]),(.agg [(bP (!(fI x (i+1)))),(dO (dN (eN x.2 b (i+1))))])] _),
       eh ((((i+1):Nat):Int)+1) ae]<|.e (chain [.b 5 (.of_eq (by first|rfl|simp[fj,fI,eN,ho,h4]|simp[fj,fI,eN]):Bx.le (.cells 209 [(bP (((fj x b i).2).1)),(dO (dN (((fj x b i).2).2)))]) (.cells 209 [(bP (((fj x b (i+1)).2).1)),(dO (dN (((fj x b (i+1)).2).2)))])),.b 4 (.of_eq (by first|rfl|simp[fj,fI,eN,ho,h4]|simp[fj,fI,eN]):Bx.le (.cells 209 [(bP ((fe ((fj x b i).1) ((!(fI x (i+1))),(eN x.2 b (i+1)))).1)),(dO (dN ((fe ((fj x b i).1) ((!(fI x (i+1))),(eN x.2 b (i+1)))).2)))]) (.cells 209 [(bP (((fj x b (i+1)).1).1)),(dO (dN (((fj x b (i+1)).1).2)))]))]<|.nil)) ah 
     .exact eu (chain [.c (xH ((fI x i),(eN x.2 b i)) af x af _ ae af :dM 332 [(.agg [(bP (fI x i)),(dO (dN (eN x.2 b i)))]),(.agg [(bP x.1),(dO (dN x.2))]),(iP b)] _),.c (sQ (((fI x i) != x.1),((eN x.2 b i)*x.2/2^b)) af (i+1) ae ae :dM 342 [(.agg [(bP ((fI x i) != x.1)),(dO (dN ((eN x.2 b i)*x.2/2^b)))]),(iP (((i+1):Nat):Int))] _),.c (rS ((fI x (i+1)),(eN x.2 b (i+1))) af :dM 336 [(.agg [(bP (fI x (i+1))),(dO (dN (eN x.2 b (i+1))))])] _),tF 25 ((eN x.2 b (i+1))=0) (h0 (i+1) ae),.a ( ae :0<(4:Int)),tT 31 (2<=((((i+1)%4):Nat):Int)) ae,.c (qj ((fI x (i+1)),(eN x.2 b (i+1))):dM 326 [(.agg [(bP (fI x (i+1))),(dO (dN (eN x.2 b (i+1))))])] _),.a ( ae :0<(2:Int)),tB 36 ( av :(((((i+1)%2):Nat):Int)==1)=false),.c (oA ((fj x b i).2) af ((!(fI x (i+1))),(eN x.2 b (i+1))) af af :dM 335 [(.agg [(bP (((fj x b i).2).1)),(dO (dN (((fj x b i).2).2)))]),(.agg [(bP (!(fI x (i+1)))),(dO (dN (eN x.2 b (i+1))))])] _),
       eh ((((i+1):Nat):Int)+1) ae]<|.e (chain [.b 5 (.of_eq (by first|rfl|simp[fj,fI,eN,ho,h4]|simp[fj,fI,eN]):Bx.le (.cells 209 [(bP ((fe ((fj x b i).2) ((!(fI x (i+1))),(eN x.2 b (i+1)))).1)),(dO (dN ((fe ((fj x b i).2) ((!(fI x (i+1))),(eN x.2 b (i+1)))).2)))]) (.cells 209 [(bP (((fj x b (i+1)).2).1)),(dO (dN (((fj x b (i+1)).2).2)))])),.b 4 (.of_eq (by first|rfl|simp[fj,fI,eN,ho,h4]|simp[fj,fI,eN]):Bx.le (.cells 209 [(bP (((fj x b i).1).1)),(dO (dN (((fj x b i).1).2)))]) (.cells 209 [(bP (((fj x b (i+1)).1).1)),(dO (dN (((fj x b (i+1)).1).2)))]))]<|.nil)) ah 
    .by_cases ho:(i+1)%2=1
     .exact eu (chain [.c (xH ((fI x i),(eN x.2 b i)) af x af _ ae af :dM 332 [(.agg [(bP (fI x i)),(dO (dN (eN x.2 b i)))]),(.agg [(bP x.1),(dO (dN x.2))]),(iP b)] _),.c (sQ (((fI x i) != x.1),((eN x.2 b i)*x.2/2^b)) af (i+1) ae ae :dM 342 [(.agg [(bP ((fI x i) != x.1)),(dO (dN ((eN x.2 b i)*x.2/2^b)))]),(iP (((i+1):Nat):Int))] _),.c (rS ((fI x (i+1)),(eN x.2 b (i+1))) af :dM 336 [(.agg [(bP (fI x (i+1))),(dO (dN (eN x.2 b (i+1))))])] _),tF 25 ((eN x.2 b (i+1))=0) (h0 (i+1) ae),.a ( ae :0<(4:Int)),tF 31 (2<=((((i+1)%4):Nat):Int)) ae,.a ( ae :0<(2:Int)),tB 36 (by rw[ho];rfl:(((((i+1)%2):Nat):Int)==1)=true),.c (oA ((fj x b i).1) af ((fI x (i+1)),(eN x.2 b (i+1))) af af :dM 335 [(.agg [(bP (((fj x b i).1).1)),(dO (dN (((fj x b i).1).2)))]),(.agg [(bP (fI x (i+1))),(dO (dN (eN x.2 b (i+1))))])] _),
       eh ((((i+1):Nat):Int)+1) ae]<|.e (chain [.b 5 (.of_eq (by first|rfl|simp[fj,fI,eN,ho,h4]|simp[fj,fI,eN]):Bx.le (.cells 209 [(bP (((fj x b i).2).1)),(dO (dN (((fj x b i).2).2)))]) (.cells 209 [(bP (((fj x b (i+1)).2).1)),(dO (dN (((fj x b (i+1)).2).2)))])),.b 4 (.of_eq (by first|rfl|simp[fj,fI,eN,ho,h4]|simp[fj,fI,eN]):Bx.le (.cells 209 [(bP ((fe ((fj x b i).1) ((fI x (i+1)),(eN x.2 b (i+1)))).1)),(dO (dN ((fe ((fj x b i).1) ((fI x (i+1)),(eN x.2 b (i+1)))).2)))]) (.cells 209 [(bP (((fj x b (i+1)).1).1)),(dO (dN (((fj x b (i+1)).1).2)))]))]<|.nil)) ah 
     .exact eu (chain [.c (xH ((fI x i),(eN x.2 b i)) af x af _ ae af :dM 332 [(.agg [(bP (fI x i)),(dO (dN (eN x.2 b i)))]),(.agg [(bP x.1),(dO (dN x.2))]),(iP b)] _),.c (sQ (((fI x i) != x.1),((eN x.2 b i)*x.2/2^b)) af (i+1) ae ae :dM 342 [(.agg [(bP ((fI x i) != x.1)),(dO (dN ((eN x.2 b i)*x.2/2^b)))]),(iP (((i+1):Nat):Int))] _),.c (rS ((fI x (i+1)),(eN x.2 b (i+1))) af :dM 336 [(.agg [(bP (fI x (i+1))),(dO (dN (eN x.2 b (i+1))))])] _),tF 25 ((eN x.2 b (i+1))=0) (h0 (i+1) ae),.a ( ae :0<(4:Int)),tF 31 (2<=((((i+1)%4):Nat):Int)) ae,.a ( ae :0<(2:Int)),tB 36 ( av :(((((i+1)%2):Nat):Int)==1)=false),.c (oA ((fj x b i).2) af ((fI x (i+1)),(eN x.2 b (i+1))) af af :dM 335 [(.agg [(bP (((fj x b i).2).1)),(dO (dN (((fj x b i).2).2)))]),(.agg [(bP (fI x (i+1))),(dO (dN (eN x.2 b (i+1))))])] _),
       eh ((((i+1):Nat):Int)+1) ae]<|.e (chain [.b 5 (.of_eq (by first|rfl|simp[fj,fI,eN,ho,h4]|simp[fj,fI,eN]):Bx.le (.cells 209 [(bP ((fe ((fj x b i).2) ((fI x (i+1)),(eN x.2 b (i+1)))).1)),(dO (dN ((fe ((fj x b i).2) ((fI x (i+1)),(eN x.2 b (i+1)))).2)))]) (.cells 209 [(bP (((fj x b (i+1)).2).1)),(dO (dN (((fj x b (i+1)).2).2)))])),.b 4 (.of_eq (by first|rfl|simp[fj,fI,eN,ho,h4]|simp[fj,fI,eN]):Bx.le (.cells 209 [(bP (((fj x b i).1).1)),(dO (dN (((fj x b i).1).2)))]) (.cells 209 [(bP (((fj x b (i+1)).1).1)),(dO (dN (((fj x b (i+1)).1).2)))]))]<|.nil)) ah)
  (fun hi=>by
    have SF:=QS nD hb (k:=N) ae;obtain⟨f0,f1,f2,f3,f4,f5,f6,f7⟩:=SF;exact eu (chain [.c (xH ((fI x N),(eN x.2 b N)) af x af _ ae af :dM 332 [(.agg [(bP (fI x N)),(dO (dN (eN x.2 b N)))]),(.agg [(bP x.1),(dO (dN x.2))]),(iP b)] _),.c (sQ (((fI x N) != x.1),((eN x.2 b N)*x.2/2^b)) af (N+1) ae ae :dM 342 [(.agg [(bP ((fI x N) != x.1)),(dO (dN ((eN x.2 b N)*x.2/2^b)))]),(iP (((N+1):Nat):Int))] _),.c (rS ((fI x (N+1)),(eN x.2 b (N+1))) af :dM 336 [(.agg [(bP (fI x (N+1))),(dO (dN (eN x.2 b (N+1))))])] _),tB 25 (aE hN)]<|.nil) ah) ak :fP 6 Tryz.f325 (QN x b N 0) .ret ⟨43,true,[(5,.box 5 0),(4,.box 4 0)],[(5,.cells 209 [(bP (((fj x b N).2).1)),(dO (dN (((fj x b N).2).2)))]),(4,.cells 209 [(bP (((fj x b N).1).1)),(dO (dN (((fj x b N).1).2)))])]⟩) (chain [.o 8 (.int (by first|rfl|omega|(simp only[aO,aK];omega)):PV.le (.e (iP 1)) (.e (iP (((0+1):Nat):Int)))),.b 5 (.of_eq (by first|rfl|simp[fj,fI,eN,ho,h4]|simp[fj,fI,eN]):Bx.le (.cells 209 [(bP false),(dO (dN (1*2^b)))]) (.cells 209 [(bP (((fj x b 0).2).1)),(dO (dN (((fj x b 0).2).2)))])),.b 7 (.of_eq (by first|rfl|simp[fj,fI,eN,ho,h4]|simp[fj,fI,eN]):Bx.le (.cells 209 [(bP false),(dO (dN (1*2^b)))]) (.cells 209 [(bP (fI x 0)),(dO (dN (eN x.2 b 0)))])),.b 4 (WR:Bx.le (.cells 209 [(bP false),(.v (.slice none 0 0))]) (.cells 209 [(bP (((fj x b 0).1).1)),(dO (dN (((fj x b 0).1).2)))]))]<|.nil)]<|.nil) ah 
theorem UQ(x:Bool×Nat)(b:Nat)(nD:x.2<=2^(b+1))(hb:b<=3000):∃ s c:Bool×Nat,s.2<2^(b+14)/\c.2<2^(b+14)/\dM 325 [(.agg [(bP x.1),(dO (dN x.2))]),iP (b:Int)] (.ef [(.agg [(bP s.1),(dO (dN s.2))]),(.agg [(bP c.1),(dO (dN c.2))])]):=by
 obtain⟨N,n1,n2,n3,n4⟩:=WT nD;obtain⟨M,rfl⟩:∃ M,N=M+1:=⟨N-1, ae⟩
 obtain⟨a1,a2⟩:=QU nD hb (k:=M) ae;exact⟨_,_,a1,a2,UP x b M nD hb ae n3 n4⟩
open Go.RowKit Fp Pu
theorem ui(a:Bool×Nat)(b p:Nat)(ha:a.2<2^3000)(hb:b<=8000)(dW:8<=p)(dR:p<=512):dM 327 [(.agg [(bP a.1),(dO (dN a.2))]),(iP b),(iP p)] (dQ (oc a b p)):=by
 have z1:(dN 1).length<=256:=oL ag;have z2:(dN (1*2^24)).length<=256:=oL ag;have z3:(dN a.2).length<=256:=gJ ha ag;have hs:=DY (n:=3000) ha (show 1*2^24<2^25 by decide) ag ag;have z4:(dN (a.2+1*2^24)).length<=256:=gJ hs ag;have l1:=bE (show(fe a ((!false),(1*2^24))).2<=_ from rT _ _) hs;have l2:=bE (show(fe a (false,(1*2^24))).2<=_ from rT _ _) hs;have z5:(dN (fe a ((!false),(1*2^24))).2).length<=256:=gJ l1 ag;have z6:(dN (fe a (false,(1*2^24))).2).length<=256:=gJ l2 ag;have e3:(0-(b:Int)) = -(b:Int):=Int.zero_sub _;have r1:iM (canon (fe a ((!false),(1*2^24))).1 (fe a ((!false),(1*2^24))).2 (0-(b:Int))):=by rw[e3];exact OP (Bw (k:=4000) l1 ag) hb
 have r2:iM (canon (fe a (false,(1*2^24))).1 (fe a (false,(1*2^24))).2 (0-(b:Int))):=by rw[e3];exact OP (Bw (k:=4000) l2 ag) hb
 have v1:(canon (fe a ((!false),(1*2^24))).1 (fe a ((!false),(1*2^24))).2 (0-(b:Int))).Valid:=OQ r1;have v2:(canon (fe a (false,(1*2^24))).1 (fe a (false,(1*2^24))).2 (0-(b:Int))).Valid:=OQ r2;have hN:oc a b p=gN (ff (canon (fe a ((!false),(1*2^24))).1 (fe a ((!false),(1*2^24))).2 (0-(b:Int))) p false) (fg (canon (fe a ((!false),(1*2^24))).1 (fe a ((!false),(1*2^24))).2 (0-(b:Int))) p false) (ff (canon (fe a (false,(1*2^24))).1 (fe a (false,(1*2^24))).2 (0-(b:Int))) p true) (fg (canon (fe a (false,(1*2^24))).1 (fe a (false,(1*2^24))).2 (0-(b:Int))) p true):=by rw[e3];rfl
 exact tr true Tryz.call327 Tryz.func327 (chain [.o 14 (.e one_le:PV.le (.e (.sl false 1 1 fun i_ j_=>[(.v (.int .u32 1))].getD (i_*1+j_) (.v (.bool false)))) (.e (dO (dN 1)))),.c (uh 1 24 af ae af),.c (qj (false,(1*2^24)):dM 326 [(.agg [(bP false),(dO (dN (1*2^24)))])] _),.c (oA a af ((!false),(1*2^24)) af af :dM 335 [(.agg [(bP a.1),(dO (dN a.2))]),(.agg [(bP (!false)),(dO (dN (1*2^24)))])] _),.c (oA a af (false,(1*2^24)) af af :dM 335 [(.agg [(bP a.1),(dO (dN a.2))]),(.agg [(bP false),(dO (dN (1*2^24)))])] _),eh (0-(b:Int)) ae,.c (vz _ _ _ af ae ae af :dM 262 [(bP ((fe a ((!false),(1*2^24))).1)),(dO (dN ((fe a ((!false),(1*2^24))).2))),(iP (0-(b:Int)))] _),
  eh (0-(b:Int)) ae,.c (vz _ _ _ af ae ae af :dM 262 [(bP ((fe a (false,(1*2^24))).1)),(dO (dN ((fe a (false,(1*2^24))).2))),(iP (0-(b:Int)))] _),tB 45 ( ag :((0:Int) != 0)=false),tB 48 ( ag :((0:Int) != 0)=false),.c (Ck (canon ((fe a (!false,(1*2^24))).1) ((fe a (!false,(1*2^24))).2) (0-(b:Int))) p af ae ae),.c (Cl (canon ((fe a (false,(1*2^24))).1) ((fe a (false,(1*2^24))).2) (0-(b:Int))) p af ae ae)]<|.w ((fg (canon ((fe a ((!false),(1*2^24))).1) ((fe a ((!false),(1*2^24))).2) (0-(b:Int))) p false)=0)
  (fun k1=>chain [tB 64 (az k1)]<|.w ((fg (canon ((fe a (false,(1*2^24))).1) ((fe a (false,(1*2^24))).2) (0-(b:Int))) p true)=0)
   (fun k2=>chain [tB 67 (az k2)]<|rQ (dQ (Iv.mk (ff (canon ((fe a ((!false),(1*2^24))).1) ((fe a ((!false),(1*2^24))).2) (0-(b:Int))) p false) (ff (canon ((fe a (false,(1*2^24))).1) ((fe a (false,(1*2^24))).2) (0-(b:Int))) p true) false)) (dQ (oc a b p)) (by rw[hN,aaR k1 k2]))
   (fun k2=>chain [tB 67 (aA k2),.c ji]<|rQ (dQ dV) (dQ (oc a b p)) (by rw[hN,OD (.inr k2)])))
  (fun k1=>chain [tB 64 (aA k1),.c ji]<|rQ (dQ dV) (dQ (oc a b p)) (by rw[hN,OD (.inl k1)]))) ah 
theorem UH(d:Dy)(p:Nat)(hd:d.Valid)(h0:d.sign=0)(dW:8<=p)(dR:p<=512):dM 315 [(dP d),(bP true),(iP p)] (dQ (eO 1)):=by
 have hv:=jx (n:=1) ag;exact tr true Tryz.call315 Tryz.func315 (chain [.c (jN _ af :dM 35 [(dP d)] _),tB 14 (by rw[h0];rfl:((Dy.sign d)==0)=true),.c (ju _ ae :dM 113 [(iP 1)] _),.c (uI (er 1) af)]<|.nil) ah 
theorem Uz(d:Dy)(p:Nat)(r s c:Bool×Nat)(hd:d.Valid)(h0:d.sign≠0)(kV:dM 324 [dP d,iP (((p+64):Nat):Int)] (.ef [(.agg [(bP r.1),(dO (dN r.2))]),(iP 0)]))(kW:dM 325 [(.agg [(bP r.1),(dO (dN r.2))]),iP (((p+64):Nat):Int)] (.ef [(.agg [(bP s.1),(dO (dN s.2))]),(.agg [(bP c.1),(dO (dN c.2))])]))(zs:s.2<2^3000)(zc:c.2<2^3000)(dW:8<=p)(dR:p<=512):dM 315 [(dP d),(bP true),(iP p)] (dQ (oc c (p+64) p)):=by
 have zk:c.2<2^3000:=zc;exact tr true Tryz.call315 Tryz.func315 (chain [.c (jN _ af :dM 35 [(dP d)] _),tB 14 (by simpa using h0:((Dy.sign d)==0)=false),eh ((p:Int)+64) ae,.c (kV:dM 324 [(dP d),(iP (((p+64):Nat):Int))] _),.c (kW:dM 325 [(.agg [(bP r.1),(dO (dN r.2))]),(iP (((p+64):Nat):Int))] _),eh (0+1) ae,.a ( ae :0<(4:Int)),.o 38 (.int ag :PV.le (.e (iP (Int.tmod (0+1) 4))) (.e (iP 1))),tB 40 ( ag :((1:Int)==1)=true),.c (ui c _ _ af ae ae ae :dM 327 [(.agg [(bP c.1),(dO (dN c.2))]),(iP (((p+64):Nat):Int)),(iP p)] _)]<|.nil) ah 
theorem UA(d:Dy)(p:Nat)(r s c:Bool×Nat)(hd:d.Valid)(h0:d.sign≠0)(kV:dM 324 [dP d,iP (((p+64):Nat):Int)] (.ef [(.agg [(bP r.1),(dO (dN r.2))]),(iP 1)]))(kW:dM 325 [(.agg [(bP r.1),(dO (dN r.2))]),iP (((p+64):Nat):Int)] (.ef [(.agg [(bP s.1),(dO (dN s.2))]),(.agg [(bP c.1),(dO (dN c.2))])]))(zs:s.2<2^3000)(zc:c.2<2^3000)(dW:8<=p)(dR:p<=512):dM 315 [(dP d),(bP true),(iP p)] (dQ (oc ((!s.1),s.2) (p+64) p)):=by
 have zk:((!s.1),s.2).2<2^3000:=zs;exact tr true Tryz.call315 Tryz.func315 (chain [.c (jN _ af :dM 35 [(dP d)] _),tB 14 (by simpa using h0:((Dy.sign d)==0)=false),eh ((p:Int)+64) ae,.c (kV:dM 324 [(dP d),(iP (((p+64):Nat):Int))] _),.c (kW:dM 325 [(.agg [(bP r.1),(dO (dN r.2))]),(iP (((p+64):Nat):Int))] _),eh (1+1) ae,.a ( ae :0<(4:Int)),.o 38 (.int ag :PV.le (.e (iP (Int.tmod (1+1) 4))) (.e (iP 2))),tB 40 ( ag :((2:Int)==1)=false),tB 43 ( ag :((2:Int)==2)=true),.c (qj (s.1,s.2):dM 326 [(.agg [(bP s.1),(dO (dN s.2))])] _),.c (ui ((!s.1),s.2) _ _ af ae ae ae :dM 327 [(.agg [(bP (!s.1)),(dO (dN s.2))]),(iP (((p+64):Nat):Int)),(iP p)] _)]<|.nil) ah 
theorem UB(d:Dy)(p:Nat)(r s c:Bool×Nat)(hd:d.Valid)(h0:d.sign≠0)(kV:dM 324 [dP d,iP (((p+64):Nat):Int)] (.ef [(.agg [(bP r.1),(dO (dN r.2))]),(iP 2)]))(kW:dM 325 [(.agg [(bP r.1),(dO (dN r.2))]),iP (((p+64):Nat):Int)] (.ef [(.agg [(bP s.1),(dO (dN s.2))]),(.agg [(bP c.1),(dO (dN c.2))])]))(zs:s.2<2^3000)(zc:c.2<2^3000)(dW:8<=p)(dR:p<=512):dM 315 [(dP d),(bP true),(iP p)] (dQ (oc ((!c.1),c.2) (p+64) p)):=by
 have zk:((!c.1),c.2).2<2^3000:=zc;exact tr true Tryz.call315 Tryz.func315 (chain [.c (jN _ af :dM 35 [(dP d)] _),tB 14 (by simpa using h0:((Dy.sign d)==0)=false),eh ((p:Int)+64) ae,.c (kV:dM 324 [(dP d),(iP (((p+64):Nat):Int))] _),.c (kW:dM 325 [(.agg [(bP r.1),(dO (dN r.2))]),(iP (((p+64):Nat):Int))] _),eh (2+1) ae,.a ( ae :0<(4:Int)),.o 38 (.int ag :PV.le (.e (iP (Int.tmod (2+1) 4))) (.e (iP 3))),tB 40 ( ag :((3:Int)==1)=false),tB 43 ( ag :((3:Int)==2)=false),tB 47 ( ag :((3:Int)==3)=true),.c (qj (c.1,c.2):dM 326 [(.agg [(bP c.1),(dO (dN c.2))])] _),.c (ui ((!c.1),c.2) _ _ af ae ae ae :dM 327 [(.agg [(bP (!c.1)),(dO (dN c.2))]),(iP (((p+64):Nat):Int)),(iP p)] _)]<|.nil) ah 
theorem UC(d:Dy)(p:Nat)(r s c:Bool×Nat)(hd:d.Valid)(h0:d.sign≠0)(kV:dM 324 [dP d,iP (((p+64):Nat):Int)] (.ef [(.agg [(bP r.1),(dO (dN r.2))]),(iP 3)]))(kW:dM 325 [(.agg [(bP r.1),(dO (dN r.2))]),iP (((p+64):Nat):Int)] (.ef [(.agg [(bP s.1),(dO (dN s.2))]),(.agg [(bP c.1),(dO (dN c.2))])]))(zs:s.2<2^3000)(zc:c.2<2^3000)(dW:8<=p)(dR:p<=512):dM 315 [(dP d),(bP true),(iP p)] (dQ (oc s (p+64) p)):=by
 have zk:s.2<2^3000:=zs;exact tr true Tryz.call315 Tryz.func315 (chain [.c (jN _ af :dM 35 [(dP d)] _),tB 14 (by simpa using h0:((Dy.sign d)==0)=false),eh ((p:Int)+64) ae,.c (kV:dM 324 [(dP d),(iP (((p+64):Nat):Int))] _),.c (kW:dM 325 [(.agg [(bP r.1),(dO (dN r.2))]),(iP (((p+64):Nat):Int))] _),eh (3+1) ae,.a ( ae :0<(4:Int)),.o 38 (.int ag :PV.le (.e (iP (Int.tmod (3+1) 4))) (.e (iP 0))),tB 40 ( ag :((0:Int)==1)=false),tB 43 ( ag :((0:Int)==2)=false),tB 47 ( ag :((0:Int)==3)=false),.c (ui s _ _ af ae ae ae :dM 327 [(.agg [(bP s.1),(dO (dN s.2))]),(iP (((p+64):Nat):Int)),(iP p)] _)]<|.nil) ah 
theorem UI(d:Dy)(p:Nat)(hd:d.Valid)(h0:d.sign=0)(dW:8<=p)(dR:p<=512):dM 315 [(dP d),(bP false),(iP p)] (dQ (gi d)):=by
 exact tr true Tryz.call315 Tryz.func315 (chain [.c (jN _ af :dM 35 [(dP d)] _),tB 14 (by rw[h0];rfl:((Dy.sign d)==0)=true),.c (uI d af)]<|.nil) ah 
theorem UD(d:Dy)(p:Nat)(r s c:Bool×Nat)(hd:d.Valid)(h0:d.sign≠0)(kV:dM 324 [dP d,iP (((p+64):Nat):Int)] (.ef [(.agg [(bP r.1),(dO (dN r.2))]),(iP 0)]))(kW:dM 325 [(.agg [(bP r.1),(dO (dN r.2))]),iP (((p+64):Nat):Int)] (.ef [(.agg [(bP s.1),(dO (dN s.2))]),(.agg [(bP c.1),(dO (dN c.2))])]))(zs:s.2<2^3000)(zc:c.2<2^3000)(dW:8<=p)(dR:p<=512):dM 315 [(dP d),(bP false),(iP p)] (dQ (oc s (p+64) p)):=by
 have zk:s.2<2^3000:=zs;exact tr true Tryz.call315 Tryz.func315 (chain [.c (jN _ af :dM 35 [(dP d)] _),tB 14 (by simpa using h0:((Dy.sign d)==0)=false),eh ((p:Int)+64) ae,.c (kV:dM 324 [(dP d),(iP (((p+64):Nat):Int))] _),.c (kW:dM 325 [(.agg [(bP r.1),(dO (dN r.2))]),(iP (((p+64):Nat):Int))] _),.a ( ae :0<(4:Int)),.o 38 (.int ag :PV.le (.e (iP (Int.tmod 0 4))) (.e (iP 0))),tB 40 ( ag :((0:Int)==1)=false),tB 43 ( ag :((0:Int)==2)=false),tB 47 ( ag :((0:Int)==3)=false),.c (ui s _ _ af ae ae ae :dM 327 [(.agg [(bP s.1),(dO (dN s.2))]),(iP (((p+64):Nat):Int)),(iP p)] _)]<|.nil) ah 
theorem UE(d:Dy)(p:Nat)(r s c:Bool×Nat)(hd:d.Valid)(h0:d.sign≠0)(kV:dM 324 [dP d,iP (((p+64):Nat):Int)] (.ef [(.agg [(bP r.1),(dO (dN r.2))]),(iP 1)]))(kW:dM 325 [(.agg [(bP r.1),(dO (dN r.2))]),iP (((p+64):Nat):Int)] (.ef [(.agg [(bP s.1),(dO (dN s.2))]),(.agg [(bP c.1),(dO (dN c.2))])]))(zs:s.2<2^3000)(zc:c.2<2^3000)(dW:8<=p)(dR:p<=512):dM 315 [(dP d),(bP false),(iP p)] (dQ (oc c (p+64) p)):=by
 have zk:c.2<2^3000:=zc;exact tr true Tryz.call315 Tryz.func315 (chain [.c (jN _ af :dM 35 [(dP d)] _),tB 14 (by simpa using h0:((Dy.sign d)==0)=false),eh ((p:Int)+64) ae,.c (kV:dM 324 [(dP d),(iP (((p+64):Nat):Int))] _),.c (kW:dM 325 [(.agg [(bP r.1),(dO (dN r.2))]),(iP (((p+64):Nat):Int))] _),.a ( ae :0<(4:Int)),.o 38 (.int ag :PV.le (.e (iP (Int.tmod 1 4))) (.e (iP 1))),tB 40 ( ag :((1:Int)==1)=true),.c (ui c _ _ af ae ae ae :dM 327 [(.agg [(bP c.1),(dO (dN c.2))]),(iP (((p+64):Nat):Int)),(iP p)] _)]<|.nil) ah 
theorem UF(d:Dy)(p:Nat)(r s c:Bool×Nat)(hd:d.Valid)(h0:d.sign≠0)(kV:dM 324 [dP d,iP (((p+64):Nat):Int)] (.ef [(.agg [(bP r.1),(dO (dN r.2))]),(iP 2)]))(kW:dM 325 [(.agg [(bP r.1),(dO (dN r.2))]),iP (((p+64):Nat):Int)] (.ef [(.agg [(bP s.1),(dO (dN s.2))]),(.agg [(bP c.1),(dO (dN c.2))])]))(zs:s.2<2^3000)(zc:c.2<2^3000)(dW:8<=p)(dR:p<=512):dM 315 [(dP d),(bP false),(iP p)] (dQ (oc ((!s.1),s.2) (p+64) p)):=by
 have zk:((!s.1),s.2).2<2^3000:=zs;exact tr true Tryz.call315 Tryz.func315 (chain [.c (jN _ af :dM 35 [(dP d)] _),tB 14 (by simpa using h0:((Dy.sign d)==0)=false),eh ((p:Int)+64) ae,.c (kV:dM 324 [(dP d),(iP (((p+64):Nat):Int))] _),.c (kW:dM 325 [(.agg [(bP r.1),(dO (dN r.2))]),(iP (((p+64):Nat):Int))] _),.a ( ae :0<(4:Int)),.o 38 (.int ag :PV.le (.e (iP (Int.tmod 2 4))) (.e (iP 2))),tB 40 ( ag :((2:Int)==1)=false),tB 43 ( ag :((2:Int)==2)=true),.c (qj (s.1,s.2):dM 326 [(.agg [(bP s.1),(dO (dN s.2))])] _),.c (ui ((!s.1),s.2) _ _ af ae ae ae :dM 327 [(.agg [(bP (!s.1)),(dO (dN s.2))]),(iP (((p+64):Nat):Int)),(iP p)] _)]<|.nil) ah 
theorem UG(d:Dy)(p:Nat)(r s c:Bool×Nat)(hd:d.Valid)(h0:d.sign≠0)(kV:dM 324 [dP d,iP (((p+64):Nat):Int)] (.ef [(.agg [(bP r.1),(dO (dN r.2))]),(iP 3)]))(kW:dM 325 [(.agg [(bP r.1),(dO (dN r.2))]),iP (((p+64):Nat):Int)] (.ef [(.agg [(bP s.1),(dO (dN s.2))]),(.agg [(bP c.1),(dO (dN c.2))])]))(zs:s.2<2^3000)(zc:c.2<2^3000)(dW:8<=p)(dR:p<=512):dM 315 [(dP d),(bP false),(iP p)] (dQ (oc ((!c.1),c.2) (p+64) p)):=by
 have zk:((!c.1),c.2).2<2^3000:=zc;exact tr true Tryz.call315 Tryz.func315 (chain [.c (jN _ af :dM 35 [(dP d)] _),tB 14 (by simpa using h0:((Dy.sign d)==0)=false),eh ((p:Int)+64) ae,.c (kV:dM 324 [(dP d),(iP (((p+64):Nat):Int))] _),.c (kW:dM 325 [(.agg [(bP r.1),(dO (dN r.2))]),(iP (((p+64):Nat):Int))] _),.a ( ae :0<(4:Int)),.o 38 (.int ag :PV.le (.e (iP (Int.tmod 3 4))) (.e (iP 3))),tB 40 ( ag :((3:Int)==1)=false),tB 43 ( ag :((3:Int)==2)=false),tB 47 ( ag :((3:Int)==3)=true),.c (qj (c.1,c.2):dM 326 [(.agg [(bP c.1),(dO (dN c.2))])] _),.c (ui ((!c.1),c.2) _ _ af ae ae ae :dM 327 [(.agg [(bP (!c.1)),(dO (dN c.2))]),(iP (((p+64):Nat):Int)),(iP p)] _)]<|.nil) ah 
theorem KL{d:Dy}(hd:d.Valid)(ht:d.dX<=100)(cs:Bool){p:Nat}(dW:8<=p)(dR:p<=512):∃ Z,Z.Valid/\dM 315 [dP d,bP cs,iP (p:Int)] (dQ Z):=by
 by_cases h0:d.sign=0
 .cases cs with
  | true=>exact⟨_,qD ag,UH d p hd h0 dW dR⟩
  | false=>exact⟨_,pP hd,UI d p hd h0 dW dR⟩
 .obtain ⟨r,k,hr,hk,kV⟩:=UJ d (p+64) hd ae ae ht
  obtain⟨s,c,zs,zc,kW⟩:=UQ r (p+64) hr ae;have zs:=Bw zs (k:=3000) ae;have zc:=Bw zc (k:=3000) ae;have hv:∀ a:Bool×Nat,(oc a (p+64) p).Valid:=fun a=>abi a _ ae ae 
  rcases(show k=0\/k=1\/k=2\/k=3 by omega)with rfl|rfl|rfl|rfl
  .cases cs with
   | true=>exact⟨_,hv _,Uz d p r s c hd h0 kV kW zs zc dW dR⟩
   | false=>exact⟨_,hv _,UD d p r s c hd h0 kV kW zs zc dW dR⟩
  .cases cs with
   | true=>exact⟨_,hv _,UA d p r s c hd h0 kV kW zs zc dW dR⟩
   | false=>exact⟨_,hv _,UE d p r s c hd h0 kV kW zs zc dW dR⟩
  .cases cs with
   | true=>exact⟨_,hv _,UB d p r s c hd h0 kV kW zs zc dW dR⟩
   | false=>exact⟨_,hv _,UF d p r s c hd h0 kV kW zs zc dW dR⟩
  .cases cs with
   | true=>exact⟨_,hv _,UC d p r s c hd h0 kV kW zs zc dW dR⟩
   | false=>exact⟨_,hv _,UG d p r s c hd h0 kV kW zs zc dW dR⟩
open Go.RowKit Fp Pu
theorem ZW:(er (-1)).neg=true/\(er (-1)).m=1/\(er (-1)).e=0:= ar 
theorem US : dM 331 [(iP (-1))] (.agg [(bP true),(dO (dN 1))]):=by
 obtain⟨q1,q2,q3⟩:=ZW;have z1:(dN (er (-1)).m).length<=256:=by rw[q2];exact oL ag 
 have z2:(dN ((er (-1)).m*2^(Int.toNat (er (-1)).e))).length<=256:=by rw[q2,q3];exact oL ag 
 exact tr true Tryz.call331 Tryz.func331 (chain [.c (ju _ ae :dM 113 [(iP (-1))] _),.c (Fe _ _ af ae ae af :dM 329 [(dO (dN ((er (-1)).m))),(iP ((er (-1)).e))] _)]<|rQ (.agg [(bP ((er (-1)).neg)),(dO (dN (((er (-1)).m)*2^(Int.toNat ((er (-1)).e)))))]) (.agg [(bP true),(dO (dN 1))]) (by rw[q1,q2,q3];rfl)) ah 
theorem Ur(a c:Bool×Nat)(za:(dN a.2).length<=256)(zc:(dN c.2).length<=256)(c0:c.2≠0)(zs:(dN (a.2/c.2+1)).length<=256)(h1:a.1=false):dM 333 [(.agg [(bP a.1),(dO (dN a.2))]),(.agg [(bP c.1),(dO (dN c.2))])] (.agg [(bP ((kN a c).1)),(dO (dN ((kN a c).2)))]):=by
 have zq:(dN (a.2/c.2)).length<=256:=aI (il (bj _ _)) za;have zr:(dN (a.2%c.2)).length<=256:=aI (il (dA _ _)) za;have z1:(dN 1).length<=256:=oL ag;have e:kN a c=(a.1,a.2/c.2):=by unfold kN;rw[aB (by rw[h1];exact fun q=>Bool.noConfusion q.1)]
 exact tr true Tryz.call333 Tryz.func333 (chain [.c (tw _ _ ae ae af :dM 296 [(dO (dN a.2)),(dO (dN c.2))] _),tB 19 (h1:a.1=false),tB 23 (h1:a.1=false)]<|rQ (.agg [(bP false),(dO (dN (a.2/c.2)))]) (.agg [(bP ((kN a c).1)),(dO (dN ((kN a c).2)))]) (by rw[e,h1])) ah 
theorem Um(a c:Bool×Nat)(za:(dN a.2).length<=256)(zc:(dN c.2).length<=256)(c0:c.2≠0)(zs:(dN (a.2/c.2+1)).length<=256)(h1:a.1=true)(h2:a.2%c.2=0):dM 333 [(.agg [(bP a.1),(dO (dN a.2))]),(.agg [(bP c.1),(dO (dN c.2))])] (.agg [(bP ((kN a c).1)),(dO (dN ((kN a c).2)))]):=by
 have zq:(dN (a.2/c.2)).length<=256:=aI (il (bj _ _)) za;have zr:(dN (a.2%c.2)).length<=256:=aI (il (dA _ _)) za;have z1:(dN 1).length<=256:=oL ag;have e:kN a c=(a.1,a.2/c.2):=by unfold kN;rw[aB (fun q=>q.2 h2)]
 exact tr true Tryz.call333 Tryz.func333 (chain [.c (tw _ _ ae ae af :dM 296 [(dO (dN a.2)),(dO (dN c.2))] _),tB 19 (h1:a.1=true),tB 23 (h1:a.1=true),.c (nZ _ ae :dM 194 [(dO (dN (a.2%c.2)))] _),tF 27 (0<(dU (a.2%c.2):Int)) (by rw[h2,nP];decide)]<|rQ (.agg [(bP true),(dO (dN (a.2/c.2)))]) (.agg [(bP ((kN a c).1)),(dO (dN ((kN a c).2)))]) (by rw[e,h1])) ah 
theorem Un(a c:Bool×Nat)(za:(dN a.2).length<=256)(zc:(dN c.2).length<=256)(c0:c.2≠0)(zs:(dN (a.2/c.2+1)).length<=256)(h1:a.1=true)(h2:a.2%c.2≠0):dM 333 [(.agg [(bP a.1),(dO (dN a.2))]),(.agg [(bP c.1),(dO (dN c.2))])] (.agg [(bP ((kN a c).1)),(dO (dN ((kN a c).2)))]):=by
 have zq:(dN (a.2/c.2)).length<=256:=aI (il (bj _ _)) za;have zr:(dN (a.2%c.2)).length<=256:=aI (il (dA _ _)) za;have z1:(dN 1).length<=256:=oL ag;have e:kN a c=fe (a.1,a.2/c.2) (true,1):=by unfold kN;rw[aC ⟨h1,h2⟩]
 exact tr true Tryz.call333 Tryz.func333 (chain [.c (tw _ _ ae ae af :dM 296 [(dO (dN a.2)),(dO (dN c.2))] _),tB 19 (h1:a.1=true),tB 23 (h1:a.1=true),.c (nZ _ ae :dM 194 [(dO (dN (a.2%c.2)))] _),tT 27 (0<(dU (a.2%c.2):Int)) (by have:=jK h2;omega),.c US,.c (oA (true,(a.2/c.2)) af (true,1) af af :dM 335 [(.agg [(bP true),(dO (dN (a.2/c.2)))]),(.agg [(bP true),(dO (dN 1))])] _)]<|rQ (.agg [(bP ((fe (true,(a.2/c.2)) (true,1)).1)),(dO (dN ((fe (true,(a.2/c.2)) (true,1)).2)))]) (.agg [(bP ((kN a c).1)),(dO (dN ((kN a c).2)))]) (by rw[e,h1])) ah 
theorem Uo(a c:Bool×Nat)(za:(dN a.2).length<=256)(zc:(dN c.2).length<=256)(c0:c.2≠0)(zs:(dN (a.2/c.2+1)).length<=256):dM 333 [(.agg [(bP a.1),(dO (dN a.2))]),(.agg [(bP c.1),(dO (dN c.2))])] (.agg [(bP ((kN a c).1)),(dO (dN ((kN a c).2)))]):=by
 cases h1:a.1 with
 | false=>rw[<-h1];exact Ur a c za zc c0 zs h1
 | true=>
  rw[<-h1];by_cases h2:a.2%c.2=0
  .exact Um a c za zc c0 zs h1 h2
  .exact Un a c za zc c0 zs h1 h2
theorem Uv(x:Iv)(n p t w2 sg eg mm:Nat)(cp u v c1 a0 a1 k l0 d0 d1:Bool×Nat)(hx:x.Valid)(xa:x.all=false)(hn:n<=3)(dR:p<=2000)(ht:(t:Int)=max (max x.lo.dX x.hi.dX) 0)(t2:t<=2000)(zd:(dN d1.2).length<=256)(mK:dM 328 [iP ((((p+t)+40):Nat):Int)] (.agg [(bP cp.1),(dO (dN cp.2))]))(hU:dM 334 [dP x.hi,iP ((((p+t)+40):Nat):Int)] (.agg [(bP u.1),(dO (dN u.2))]))(hV:dM 334 [dP x.lo,iP ((((p+t)+40):Nat):Int)] (.agg [(bP v.1),(dO (dN v.2))]))(hW:dM 329 [(dO (dN cp.2)),iP ((1:Nat):Int)] (dO (dN w2)))(xL:dM 332 [(.agg [(bP false),(dO (dN n))]),(.agg [(bP cp.1),(dO (dN cp.2))]),iP ((0:Nat):Int)] (.agg [(bP c1.1),(dO (dN c1.2))]))(hS:dM 330 [(dO (dN c1.2)),iP ((1:Nat):Int)] (dO (dN sg)))(hE:dM 329 [(dO (dN 1)),iP ((((t+24)+4):Nat):Int)] (dO (dN eg)))(pA:dM 335 [(.agg [(bP u.1),(dO (dN u.2))]),(.agg [(bP (!false)),(dO (dN sg))])] (.agg [(bP a0.1),(dO (dN a0.2))]))(uq:dM 335 [(.agg [(bP a0.1),(dO (dN a0.2))]),(.agg [(bP false),(dO (dN eg))])] (.agg [(bP a1.1),(dO (dN a1.2))]))(hK:dM 333 [(.agg [(bP a1.1),(dO (dN a1.2))]),(.agg [(bP false),(dO (dN w2))])] (.agg [(bP k.1),(dO (dN k.2))]))(hM:dM 181 [(dO (dN k.2)),(dO (dN w2))] (.ef [(dO (dN mm)),(iP 0)]))(qm:dM 335 [(.agg [(bP k.1),(dO (dN mm))]),(.agg [(bP false),(dO (dN sg))])] (.agg [(bP l0.1),(dO (dN l0.2))]))(rX:dM 335 [(.agg [(bP l0.1),(dO (dN l0.2))]),(.agg [(bP (!v.1)),(dO (dN v.2))])] (.agg [(bP d0.1),(dO (dN d0.2))]))(xM:dM 335 [(.agg [(bP d0.1),(dO (dN d0.2))]),(.agg [(bP false),(dO (dN eg))])] (.agg [(bP d1.1),(dO (dN d1.2))]))(hz:d1.2=0):dM 316 [(dQ x),(iP n),(iP p)] (bP true):=by
 obtain⟨w1,w2'⟩:=hx.ends;have z1:(dN 1).length<=256:=oL ag;exact tr true Tryz.call316 Tryz.func316 (chain [.c (gh _ af :dM 130 [(dP x.lo)] _),.c (gh _ af :dM 130 [(dP x.hi)] _),.o 24 (.int (by(repeat' split)<;>omega):PV.le (.e (iP (if 0>(if(Dy.dX x.hi)>(Dy.dX x.lo)then(Dy.dX x.hi)else(Dy.dX x.lo))then 0 else(if(Dy.dX x.hi)>(Dy.dX x.lo)then(Dy.dX x.hi)else(Dy.dX x.lo))))) (.e (iP t))),
  eh ((p:Int)+(t:Int)) ae,eh ((((p+t):Nat):Int)+40) ae,.c (mK:dM 328 [(iP ((((p+t)+40):Nat):Int))] _),.c (hW:dM 329 [(dO (dN cp.2)),(iP 1)] _),.c (Fh n ae),.c (xL:dM 332 [(.agg [(bP false),(dO (dN n))]),(.agg [(bP cp.1),(dO (dN cp.2))]),(iP 0)] _),.c (hS:dM 330 [(dO (dN c1.2)),(iP 1)] _),.o 42 (.e one_le:PV.le (.e (.sl false 1 1 fun i_ j_=>[(.v (.int .u32 1))].getD (i_*1+j_) (.v (.bool false)))) (.e (dO (dN 1)))),eh ((t:Int)+24) ae,eh ((((t+24):Nat):Int)+4) ae,.c (hE:dM 329 [(dO (dN 1)),(iP ((((t+24)+4):Nat):Int))] _),.c (hU:dM 334 [(dP x.hi),(iP ((((p+t)+40):Nat):Int))] _),.c (qj (false,sg):dM 326 [(.agg [(bP false),(dO (dN sg))])] _),.c (pA:dM 335 [(.agg [(bP u.1),(dO (dN u.2))]),(.agg [(bP (!false)),(dO (dN sg))])] _),.c (uq:dM 335 [(.agg [(bP a0.1),(dO (dN a0.2))]),(.agg [(bP false),(dO (dN eg))])] _),.c (hK:dM 333 [(.agg [(bP a1.1),(dO (dN a1.2))]),(.agg [(bP false),(dO (dN w2))])] _),.c (hM:dM 181 [(dO (dN k.2)),(dO (dN w2))] _),.c (qm:dM 335 [(.agg [(bP k.1),(dO (dN mm))]),(.agg [(bP false),(dO (dN sg))])] _),.c (hV:dM 334 [(dP x.lo),(iP ((((p+t)+40):Nat):Int))] _),.c (qj (v.1,v.2):dM 326 [(.agg [(bP v.1),(dO (dN v.2))])] _),.c (rX:dM 335 [(.agg [(bP l0.1),(dO (dN l0.2))]),(.agg [(bP (!v.1)),(dO (dN v.2))])] _),.c (xM:dM 335 [(.agg [(bP d0.1),(dO (dN d0.2))]),(.agg [(bP false),(dO (dN eg))])] _),.c (rS (d1.1,d1.2) af :dM 336 [(.agg [(bP d1.1),(dO (dN d1.2))])] _),tB 83 (aE hz)]<|.nil) ah 
theorem Uu(x:Iv)(n p t w2 sg eg mm:Nat)(cp u v c1 a0 a1 k l0 d0 d1:Bool×Nat)(hx:x.Valid)(xa:x.all=false)(hn:n<=3)(dR:p<=2000)(ht:(t:Int)=max (max x.lo.dX x.hi.dX) 0)(t2:t<=2000)(zd:(dN d1.2).length<=256)(mK:dM 328 [iP ((((p+t)+40):Nat):Int)] (.agg [(bP cp.1),(dO (dN cp.2))]))(hU:dM 334 [dP x.hi,iP ((((p+t)+40):Nat):Int)] (.agg [(bP u.1),(dO (dN u.2))]))(hV:dM 334 [dP x.lo,iP ((((p+t)+40):Nat):Int)] (.agg [(bP v.1),(dO (dN v.2))]))(hW:dM 329 [(dO (dN cp.2)),iP ((1:Nat):Int)] (dO (dN w2)))(xL:dM 332 [(.agg [(bP false),(dO (dN n))]),(.agg [(bP cp.1),(dO (dN cp.2))]),iP ((0:Nat):Int)] (.agg [(bP c1.1),(dO (dN c1.2))]))(hS:dM 330 [(dO (dN c1.2)),iP ((1:Nat):Int)] (dO (dN sg)))(hE:dM 329 [(dO (dN 1)),iP ((((t+24)+4):Nat):Int)] (dO (dN eg)))(pA:dM 335 [(.agg [(bP u.1),(dO (dN u.2))]),(.agg [(bP (!false)),(dO (dN sg))])] (.agg [(bP a0.1),(dO (dN a0.2))]))(uq:dM 335 [(.agg [(bP a0.1),(dO (dN a0.2))]),(.agg [(bP false),(dO (dN eg))])] (.agg [(bP a1.1),(dO (dN a1.2))]))(hK:dM 333 [(.agg [(bP a1.1),(dO (dN a1.2))]),(.agg [(bP false),(dO (dN w2))])] (.agg [(bP k.1),(dO (dN k.2))]))(hM:dM 181 [(dO (dN k.2)),(dO (dN w2))] (.ef [(dO (dN mm)),(iP 0)]))(qm:dM 335 [(.agg [(bP k.1),(dO (dN mm))]),(.agg [(bP false),(dO (dN sg))])] (.agg [(bP l0.1),(dO (dN l0.2))]))(rX:dM 335 [(.agg [(bP l0.1),(dO (dN l0.2))]),(.agg [(bP (!v.1)),(dO (dN v.2))])] (.agg [(bP d0.1),(dO (dN d0.2))]))(xM:dM 335 [(.agg [(bP d0.1),(dO (dN d0.2))]),(.agg [(bP false),(dO (dN eg))])] (.agg [(bP d1.1),(dO (dN d1.2))]))(hz:¬d1.2=0):dM 316 [(dQ x),(iP n),(iP p)] (bP (!d1.1)):=by
 obtain⟨w1,w2'⟩:=hx.ends;have z1:(dN 1).length<=256:=oL ag;exact tr true Tryz.call316 Tryz.func316 (chain [.c (gh _ af :dM 130 [(dP x.lo)] _),.c (gh _ af :dM 130 [(dP x.hi)] _),.o 24 (.int (by(repeat' split)<;>omega):PV.le (.e (iP (if 0>(if(Dy.dX x.hi)>(Dy.dX x.lo)then(Dy.dX x.hi)else(Dy.dX x.lo))then 0 else(if(Dy.dX x.hi)>(Dy.dX x.lo)then(Dy.dX x.hi)else(Dy.dX x.lo))))) (.e (iP t))),
  eh ((p:Int)+(t:Int)) ae,eh ((((p+t):Nat):Int)+40) ae,.c (mK:dM 328 [(iP ((((p+t)+40):Nat):Int))] _),.c (hW:dM 329 [(dO (dN cp.2)),(iP 1)] _),.c (Fh n ae),.c (xL:dM 332 [(.agg [(bP false),(dO (dN n))]),(.agg [(bP cp.1),(dO (dN cp.2))]),(iP 0)] _),.c (hS:dM 330 [(dO (dN c1.2)),(iP 1)] _),.o 42 (.e one_le:PV.le (.e (.sl false 1 1 fun i_ j_=>[(.v (.int .u32 1))].getD (i_*1+j_) (.v (.bool false)))) (.e (dO (dN 1)))),eh ((t:Int)+24) ae,eh ((((t+24):Nat):Int)+4) ae,.c (hE:dM 329 [(dO (dN 1)),(iP ((((t+24)+4):Nat):Int))] _),.c (hU:dM 334 [(dP x.hi),(iP ((((p+t)+40):Nat):Int))] _),.c (qj (false,sg):dM 326 [(.agg [(bP false),(dO (dN sg))])] _),.c (pA:dM 335 [(.agg [(bP u.1),(dO (dN u.2))]),(.agg [(bP (!false)),(dO (dN sg))])] _),.c (uq:dM 335 [(.agg [(bP a0.1),(dO (dN a0.2))]),(.agg [(bP false),(dO (dN eg))])] _),.c (hK:dM 333 [(.agg [(bP a1.1),(dO (dN a1.2))]),(.agg [(bP false),(dO (dN w2))])] _),.c (hM:dM 181 [(dO (dN k.2)),(dO (dN w2))] _),.c (qm:dM 335 [(.agg [(bP k.1),(dO (dN mm))]),(.agg [(bP false),(dO (dN sg))])] _),.c (hV:dM 334 [(dP x.lo),(iP ((((p+t)+40):Nat):Int))] _),.c (qj (v.1,v.2):dM 326 [(.agg [(bP v.1),(dO (dN v.2))])] _),.c (rX:dM 335 [(.agg [(bP l0.1),(dO (dN l0.2))]),(.agg [(bP (!v.1)),(dO (dN v.2))])] _),.c (xM:dM 335 [(.agg [(bP d0.1),(dO (dN d0.2))]),(.agg [(bP false),(dO (dN eg))])] _),.c (rS (d1.1,d1.2) af :dM 336 [(.agg [(bP d1.1),(dO (dN d1.2))])] _),tB 83 (aD hz)]<|.nil) ah 
theorem Ac{a b:Bool×Nat}{i j n:Nat}(ha:a.2<2^i)(hb:b.2<2^j)(hi:i<=n)(hj:j<=n)(hn:n<=8000):∃ r:Bool×Nat,r.2<2^(n+1)/\dM 335 [(.agg [(bP a.1),(dO (dN a.2))]),(.agg [(bP b.1),(dO (dN b.2))])] (.agg [(bP r.1),(dO (dN r.2))]):=
 ⟨fe a b,WD ha hb hi hj,oA a (gJ ha ae) b (gJ hb ae) (gJ (DY ha hb hi hj) ae)⟩
theorem Cs{x:Iv}(hx:x.Valid)(xa:x.all=false)(n:Nat)(hn:n<=3)(p:Nat)(dR:p<=1000)(h1:x.lo.dX<=100)(h2:x.hi.dX<=100):∃ r:Bool,dM 316 [dQ x,iP (n:Int),iP (p:Int)] (bP r):=by
 obtain⟨w1,w2⟩:=hx.ends;obtain⟨t,ht⟩:∃ t:Nat,(t:Int)=max (max x.lo.dX x.hi.dX) 0:=⟨(max (max x.lo.dX x.hi.dX) 0).toNat, ae⟩
 obtain⟨cp,c1,c2,c3,mK⟩:=KK (p+t+40) ae ae;have hU:=Ff x.hi w2 (p+t+40) 6000 ae ag ae;have hV:=Ff x.lo w1 (p+t+40) 6000 ae ag ae;have yu:=DT (d:=x.hi) (b:=p+t+40) (K:=6000) ae;have yv:=DT (d:=x.lo) (b:=p+t+40) (K:=6000) ae;have yc:=Bw (m:=cp.2) (i:=p+t+40+3) (k:=2000) (by have e:(2:Nat)^(p+t+40+3)=2^(p+t+40)*8:=aH 2 _ 3;have:0<2^(p+t+40):=aJ ag;omega) ae;generalize mG x.hi (p+t+40)=u at hU yu;generalize mG x.lo (p+t+40)=v at hV yv;obtain⟨K,hK⟩:∃ K,K=6000:=⟨_,rfl⟩
 rw[<-hK]at yu yv;obtain⟨J,hJ⟩:∃ J,J=2000:=⟨_,rfl⟩
 rw[<-hJ]at yc;have zc:(dN cp.2).length<=256:=gJ yc ae;have yw:cp.2*2^1<2^(J+1):=by have e:2^(J+1)=2^J*2:=aN _ _;omega
 have hW:=uh cp.2 1 zc ag (gJ yw ae);have w0:cp.2*2^1≠0:= ae ;generalize cp.2*2^1=w at hW yw w0;have yn:n*cp.2<2^(J+2):=by have e:2^(J+2)=2^J*4:=aH 2 J 2;have:=a6 cp.2 hn;omega
 have xL:=xH (false,n) (oL (by show n<_;omega)) cp zc 0 ag (gJ yn ae);have y1:n*cp.2/2^0<2^(J+2):=bE (bj _ _) yn;obtain⟨q,hq⟩:∃ q:Bool×Nat,q=(false != cp.1,n*cp.2/2^0):=⟨_,rfl⟩
 have yq:q.2<2^(J+2):=by rw[hq];exact y1
 have Mp:dM 332 [(.agg [(bP false),(dO (dN n))]),(.agg [(bP cp.1),(dO (dN cp.2))]),iP ((0:Nat):Int)] (.agg [(bP q.1),(dO (dN q.2))]):=by rw[hq];exact xL
 clear xL hq;have hS:=qS q.2 1 (gJ yq ae) ag;have ys:q.2/2^1<2^(J+2):=bE (bj _ _) yq;generalize q.2/2^1=sg at hS ys;have ye:1*2^(t+24+4)<2^K:=by rw[aK];exact ag8 ag ae 
 have hE:=uh 1 (t+24+4) (oL ag) ae (gJ ye ae);generalize 1*2^(t+24+4)=eg at hE ye;obtain⟨a0,x0,pA⟩:=Ac (b:=(!false,sg)) yu ys (n:=K) ae ae ae;obtain⟨a1,x1,uq⟩:=Ac (b:=(false,eg)) x0 ye (n:=K+1) ae ae ae;have yf:a1.2/w+1<2^(K+3):=by
  have e:2^(K+3)=2^(K+1+1)*2:=aN _ _;have:=bj a1.2 w;have:0<2^(K+1+1):=aJ ag;omega
 have hF:=Uo a1 (false,w) (gJ x1 ae) (gJ yw ae) w0 (gJ yf ae);have yk:=bE (L4 a1 (false,w)) yf;have ym:(kN a1 (false,w)).2*w<2^(K+3):=bE (WN a1 (false,w)) (DY (n:=K+2) x1 yw ae ae);generalize kN a1 (false,w)=k at hF yk ym;have hM:=tz k.2 w (gJ yk ae) (gJ yw ae) (gJ ym ae);generalize k.2*w=mm at hM ym;obtain⟨l0,x2,qm⟩:=Ac (a:=(k.1,mm)) (b:=(false,sg)) ym ys (n:=K+3) ae ae ae;obtain⟨d0,x3,rX⟩:=Ac (b:=(!v.1,v.2)) x2 yv (n:=K+4) ae ae ae;obtain⟨d1,x4,xM⟩:=Ac (b:=(false,eg)) x3 ye (n:=K+5) ae ae ae;by_cases hz:d1.2=0
 .exact ⟨_,Uv x n p t w sg eg mm cp u v q a0 a1 k l0 d0 d1 hx xa hn ae ht ae (gJ x4 ae) mK hU hV hW Mp hS hE pA uq hF hM qm rX xM hz⟩
 .exact ⟨_,Uu x n p t w sg eg mm cp u v q a0 a1 k l0 d0 d1 hx xa hn ae ht ae (gJ x4 ae) mK hU hV hW Mp hS hE pA uq hF hM qm rX xM hz⟩
open Go.RowKit Fp Pu
def fG:Iv:=⟨er (-1),er 1,false⟩
theorem nL:fG.Valid:=.inr ⟨rfl,show(er (-1)).Valid from jx ag,show(er 1).Valid from jx ag, ar⟩
theorem lI : dM 313 [] (dQ fG):=by
 have h1:(er (-1)).Valid:=jx ag;have h2:(er 1).Valid:=jx ag;exact tr true Tryz.call313 Tryz.func313 (chain [.c (ju _ ae :dM 113 [(iP (-1))] _),.c (ju _ ae :dM 113 [(iP 1)] _)]<|rR (dQ fG) (.of_eq rfl:E.le (dQ (Iv.mk (er (-1)) (er 1) false)) (dQ fG))) ah 
theorem SY(x y:Iv)(hx:x.Valid)(hy:y.Valid)(xa:(x.all||y.all)=true):dM 158 [(dQ x),(dQ y)] (dQ dV):=by
 exact tr true Tryz.call158 Tryz.func158 (chain [.o 7 (.e (tn _ _):PV.le (.e (.sl true 2 7 fun i_ j_=>(ev x++ev y).getD (i_*7+j_) (.v (.bool false)))) (.e (dY [x,y]))),.c (tk _ _ af af :dM 86 [(dY [x,y])] _),tB 8 (by rw[xa];rfl:(!(x.all||y.all))=false),.c ji]<|.nil) ah 
theorem SZ{x y:Iv}(hx:x.Valid)(hy:y.Valid):∃ Z,Z.Valid/\dM 158 [dQ x,dQ y] (dQ Z):=by
 cases h:(x.all||y.all)with
 | true=>exact⟨dV,gZ,SY x y hx hy h⟩
 | false=>
  obtain⟨h1,h2⟩:=Bool.or_eq_false_iff.1 h;exact⟨yl x y,Zs hx hy,S1 x y hx hy h1 h2⟩
theorem S9(x:Iv)(hx:x.Valid)(xa:x.all=true):dM 314 [(dQ x),(dQ fG)] (.ef [dQ fG,bP true]):=by
 have hu:=nL;exact tr true Tryz.call314 Tryz.func314 (chain [.c (iS x af),.c (iS fG af),tB 19 (xa:x.all=true)]<|.nil) ah 
theorem Tc(x:Iv)(hx:x.Valid)(xa:x.all=false)(h:0<ew (maxD x.lo fG.lo) (minD x.hi fG.hi)):dM 314 [(dQ x),(dQ fG)] (.ef [dQ rF,bP false]):=by
 have hu:=nL;obtain⟨v1,v2⟩:=hx.ends;obtain⟨v3,v4⟩:=hu.ends;have m1:=ph v1 v3;have m2:=rn v2 v4;exact tr true Tryz.call314 Tryz.func314 (chain [.c (iS x af),.c (iS fG af),tB 19 (xa:x.all=false),tB 23 (rfl:fG.all=false),.c (DE x.lo fG.lo af af),.c (DC x.hi fG.hi af af),.c (gU _ _ af af :dM 37 [(dP (maxD x.lo fG.lo)),(dP (minD x.hi fG.hi))] _),tB 41 (aE h)]<|rR (.ef [dQ rF,bP false]) (.ef (.cons R6 (.cons (.refl _) .nil)):E.le (.ef [(.agg [(bP false),(.v (.slice none 0 0)),(iP 0),(bP false),(.v (.slice none 0 0)),(iP 0),(bP false)]),(bP false)]) (.ef [dQ rF,bP false]))) ah 
theorem Td(x:Iv)(hx:x.Valid)(xa:x.all=false)(h:¬0<ew (maxD x.lo fG.lo) (minD x.hi fG.hi)):dM 314 [(dQ x),(dQ fG)] (.ef [dQ (Iv.mk (maxD x.lo fG.lo) (minD x.hi fG.hi) false),bP true]):=by
 have hu:=nL;obtain⟨v1,v2⟩:=hx.ends;obtain⟨v3,v4⟩:=hu.ends;have m1:=ph v1 v3;have m2:=rn v2 v4;exact tr true Tryz.call314 Tryz.func314 (chain [.c (iS x af),.c (iS fG af),tB 19 (xa:x.all=false),tB 23 (rfl:fG.all=false),.c (DE x.lo fG.lo af af),.c (DC x.hi fG.hi af af),.c (gU _ _ af af :dM 37 [(dP (maxD x.lo fG.lo)),(dP (minD x.hi fG.hi))] _),tB 41 (aD h)]<|.nil) ah 
structure mW(Y:Iv):Prop where
 v:Y.Valid
 f:Y.all=false
 l:ew fG.lo Y.lo<=0
 h:ew Y.hi fG.hi<=0
theorem afz:mW fG:=⟨nL,rfl, ar, ar⟩
theorem Ta{x:Iv}(hx:x.Valid):(∃ Y,mW Y/\dM 314 [dQ x,dQ fG] (.ef [dQ Y,bP true]))\/dM 314 [dQ x,dQ fG] (.ef [dQ rF,bP false]):=by
 cases xa:x.all with
 | true=>exact .inl ⟨fG,afz,S9 x hx xa⟩
 | false=>
  by_cases h:0<ew (maxD x.lo fG.lo) (minD x.hi fG.hi)
  .exact .inr (Tc x hx xa h)
  .have v1:(maxD x.lo fG.lo).Valid:=ph hx.ends.1 nL.ends.1
   have v2:(minD x.hi fG.hi).Valid:=rn hx.ends.2 nL.ends.2;have h1:ew fG.lo (maxD x.lo fG.lo)<=0:=OI _ _;have h2:ew (minD x.hi fG.hi) fG.hi<=0:=OJ _ _;have hq:=Td x hx xa h;have h3:ew (maxD x.lo fG.lo) (minD x.hi fG.hi)<=0:= ae ;generalize maxD x.lo fG.lo=a at *
   generalize minD x.hi fG.hi=b at *
   exact .inl ⟨⟨a,b,false⟩,⟨.inr ⟨rfl,v1,v2,h3⟩,rfl,h1,h2⟩,hq⟩
theorem mW.up{Y:Iv}(h:mW Y):mW ⟨Y.lo,er 1,false⟩:=by
 have e:=h.v.ends;refine⟨.inr ⟨rfl,e.1,jx (n:=1) ag,?_⟩,rfl,h.l,show ew (er 1) (er 1)<=0 by decide +kernel⟩;have:=h.v.q;rw[ke];exact aU this ((ke _ _).1 h.h)
theorem mW.dn{Y:Iv}(h:mW Y):mW ⟨er (-1),Y.hi,false⟩:=by
 have e:=h.v.ends;refine⟨.inr ⟨rfl,jx (n:=-1) ag,e.2,?_⟩,rfl,show ew (er (-1)) (er (-1))<=0 by decide +kernel,h.h⟩;have:=h.v.q;rw[ke];exact aU ((ke _ _).1 h.l) this
theorem lH(p:Nat)(dW:8<=p)(dR:p<=512):dM 312 [(iP p)] (bP true):=by
 exact tr true Tryz.call312 Tryz.func312 (chain [tT 4 (8<=(p:Int)) ae,tT 7 ((p:Int)<=512) ae]<|.nil) ah 
theorem TX(x:Iv)(p:Nat)(hx:x.Valid)(xa:x.all=true)(dW:8<=p)(dR:p<=512):dM 284 [(dQ x),(bP true),(iP p)] (dQ dV):=by
 exact tr true Tryz.call284 Tryz.func284 (chain [.c (lH _ ae ae :dM 312 [(iP p)] _),.c (iS x af),tB 22 (xa:x.all=true),.c ji]<|.nil) ah 
theorem T9(x:Iv)(p:Nat)(hx:x.Valid)(xa:x.all=false)(dW:8<=p)(dR:p<=512)(h1:100<x.lo.dX):dM 284 [(dQ x),(bP true),(iP p)] (dQ fG):=by
 obtain⟨w1,w2⟩:=hx.ends;have h7:(er 7).Valid:=jx ag;have wv:(gL x 64).Valid:=kq _ ag ag _;exact tr true Tryz.call284 Tryz.func284 (chain [.c (lH _ ae ae :dM 312 [(iP p)] _),.c (iS x af),tB 22 (xa:x.all=false),.c (gh _ af :dM 130 [(dP x.lo)] _),tB 28 (aE h1),.c (lI:dM 313 [] _)]<|.nil) ah 
theorem Ub(x:Iv)(p:Nat)(hx:x.Valid)(xa:x.all=false)(dW:8<=p)(dR:p<=512)(h1:¬100<x.lo.dX)(h2:100<x.hi.dX):dM 284 [(dQ x),(bP true),(iP p)] (dQ fG):=by
 obtain⟨w1,w2⟩:=hx.ends;have h7:(er 7).Valid:=jx ag;have wv:(gL x 64).Valid:=kq _ ag ag _;exact tr true Tryz.call284 Tryz.func284 (chain [.c (lH _ ae ae :dM 312 [(iP p)] _),.c (iS x af),tB 22 (xa:x.all=false),.c (gh _ af :dM 130 [(dP x.lo)] _),tB 28 (aD h1),.c (gh _ af :dM 130 [(dP x.hi)] _),tB 33 (aE h2),.c (lI:dM 313 [] _)]<|.nil) ah 
theorem Ud(x:Iv)(p:Nat)(hx:x.Valid)(xa:x.all=false)(dW:8<=p)(dR:p<=512)(h1:¬100<x.lo.dX)(h2:¬100<x.hi.dX)(h3:¬mT x 64=0):dM 284 [(dQ x),(bP true),(iP p)] (dQ fG):=by
 obtain⟨w1,w2⟩:=hx.ends;have h7:(er 7).Valid:=jx ag;have wv:(gL x 64).Valid:=kq _ ag ag _;exact tr true Tryz.call284 Tryz.func284 (chain [.c (lH _ ae ae :dM 312 [(iP p)] _),.c (iS x af),tB 22 (xa:x.all=false),.c (gh _ af :dM 130 [(dP x.lo)] _),tB 28 (aD h1),.c (gh _ af :dM 130 [(dP x.hi)] _),tB 33 (aD h2),.c (nO x 64 af af ae ae),tB 40 (aD h3),.c (lI:dM 313 [] _)]<|.nil) ah 
theorem Uf(x:Iv)(p:Nat)(hx:x.Valid)(xa:x.all=false)(dW:8<=p)(dR:p<=512)(h1:¬100<x.lo.dX)(h2:¬100<x.hi.dX)(h3:mT x 64=0)(h4:0<=ew (gL x 64) (er 7)):dM 284 [(dQ x),(bP true),(iP p)] (dQ fG):=by
 obtain⟨w1,w2⟩:=hx.ends;have h7:(er 7).Valid:=jx ag;have wv:(gL x 64).Valid:=kq _ ag ag _;exact tr true Tryz.call284 Tryz.func284 (chain [.c (lH _ ae ae :dM 312 [(iP p)] _),.c (iS x af),tB 22 (xa:x.all=false),.c (gh _ af :dM 130 [(dP x.lo)] _),tB 28 (aD h1),.c (gh _ af :dM 130 [(dP x.hi)] _),tB 33 (aD h2),.c (nO x 64 af af ae ae),tB 40 (aE h3),.c (ju _ ae :dM 113 [(iP 7)] _),.c (gU _ _ af af :dM 37 [(dP (gL x 64)),(dP (er 7))] _),tB 47 (aE h4),.c (lI:dM 313 [] _)]<|.nil) ah 
theorem T3(x:Iv)(p:Nat)(hx:x.Valid)(xa:x.all=false)(dW:8<=p)(dR:p<=512)(h1:¬100<x.lo.dX)(h2:¬100<x.hi.dX)(h3:mT x 64=0)(h4:¬0<=ew (gL x 64) (er 7))(P1 P2 H:Iv)(jd:dM 315 [dP x.lo,bP true,iP (p:Int)] (dQ P1))(je:dM 315 [dP x.hi,bP true,iP (p:Int)] (dQ P2))(hH:dM 158 [dQ P1,dQ P2] (dQ H))(iD:dM 314 [dQ H,dQ fG] (.ef [dQ rF,bP false])):dM 284 [(dQ x),(bP true),(iP p)] (dQ fG):=by
 obtain⟨w1,w2⟩:=hx.ends;have h7:(er 7).Valid:=jx ag;have wv:(gL x 64).Valid:=kq _ ag ag _;exact tr true Tryz.call284 Tryz.func284 (chain [.c (lH _ ae ae :dM 312 [(iP p)] _),.c (iS x af),tB 22 (xa:x.all=false),.c (gh _ af :dM 130 [(dP x.lo)] _),tB 28 (aD h1),.c (gh _ af :dM 130 [(dP x.hi)] _),tB 33 (aD h2),.c (nO x 64 af af ae ae),tB 40 (aE h3),.c (ju _ ae :dM 113 [(iP 7)] _),.c (gU _ _ af af :dM 37 [(dP (gL x 64)),(dP (er 7))] _),tB 47 (aD h4),.c (jd:dM 315 [(dP x.lo),(bP true),(iP p)] _),.c (je:dM 315 [(dP x.hi),(bP true),(iP p)] _),.c (hH:dM 158 [(dQ P1),(dQ P2)] _),.c (lI:dM 313 [] _),.c (iD:dM 314 [(dQ H),(dQ fG)] _),.c (lI:dM 313 [] _)]<|.nil) ah 
theorem TZ(x:Iv)(p:Nat)(hx:x.Valid)(xa:x.all=false)(dW:8<=p)(dR:p<=512)(h1:¬100<x.lo.dX)(h2:¬100<x.hi.dX)(h3:mT x 64=0)(h4:¬0<=ew (gL x 64) (er 7))(P1 P2 H Y:Iv)(hY:mW Y)(jd:dM 315 [dP x.lo,bP true,iP (p:Int)] (dQ P1))(je:dM 315 [dP x.hi,bP true,iP (p:Int)] (dQ P2))(hH:dM 158 [dQ P1,dQ P2] (dQ H))(iD:dM 314 [dQ H,dQ fG] (.ef [dQ Y,bP true]))(h5:ew x.lo x.hi=0):dM 284 [(dQ x),(bP true),(iP p)] (dQ Y):=by
 obtain⟨w1,w2⟩:=hx.ends;have h7:(er 7).Valid:=jx ag;have wv:(gL x 64).Valid:=kq _ ag ag _;exact tr true Tryz.call284 Tryz.func284 (chain [.c (lH _ ae ae :dM 312 [(iP p)] _),.c (iS x af),tB 22 (xa:x.all=false),.c (gh _ af :dM 130 [(dP x.lo)] _),tB 28 (aD h1),.c (gh _ af :dM 130 [(dP x.hi)] _),tB 33 (aD h2),.c (nO x 64 af af ae ae),tB 40 (aE h3),.c (ju _ ae :dM 113 [(iP 7)] _),.c (gU _ _ af af :dM 37 [(dP (gL x 64)),(dP (er 7))] _),tB 47 (aD h4),.c (jd:dM 315 [(dP x.lo),(bP true),(iP p)] _),.c (je:dM 315 [(dP x.hi),(bP true),(iP p)] _),.c (hH:dM 158 [(dQ P1),(dQ P2)] _),.c (lI:dM 313 [] _),.c (iD:dM 314 [(dQ H),(dQ fG)] _),.c (gU _ _ af af :dM 37 [(dP x.lo),(dP x.hi)] _),tB 74 (by rw[h5];rfl:((ew x.lo x.hi)==0)=true)]<|.nil) ah 
theorem Uj(x:Iv)(p:Nat)(hx:x.Valid)(xa:x.all=false)(dW:8<=p)(dR:p<=512)(h1:¬100<x.lo.dX)(h2:¬100<x.hi.dX)(h3:mT x 64=0)(h4:¬0<=ew (gL x 64) (er 7))(P1 P2 H Y:Iv)(hY:mW Y)(jd:dM 315 [dP x.lo,bP true,iP (p:Int)] (dQ P1))(je:dM 315 [dP x.hi,bP true,iP (p:Int)] (dQ P2))(hH:dM 158 [dQ P1,dQ P2] (dQ H))(iD:dM 314 [dQ H,dQ fG] (.ef [dQ Y,bP true]))(h5:¬ew x.lo x.hi=0)(oD:dM 316 [dQ x,iP ((0:Nat):Int),iP ((p+64:Nat):Int)] (bP true))(oE:dM 316 [dQ x,iP ((2:Nat):Int),iP ((p+64:Nat):Int)] (bP true)):dM 284 [(dQ x),(bP true),(iP p)] (dQ (Iv.mk (er (-1)) (er 1) Y.all)):=by
 obtain⟨w1,w2⟩:=hx.ends;have h7:(er 7).Valid:=jx ag;have wv:(gL x 64).Valid:=kq _ ag ag _;exact tr true Tryz.call284 Tryz.func284 (chain [.c (lH _ ae ae :dM 312 [(iP p)] _),.c (iS x af),tB 22 (xa:x.all=false),.c (gh _ af :dM 130 [(dP x.lo)] _),tB 28 (aD h1),.c (gh _ af :dM 130 [(dP x.hi)] _),tB 33 (aD h2),.c (nO x 64 af af ae ae),tB 40 (aE h3),.c (ju _ ae :dM 113 [(iP 7)] _),.c (gU _ _ af af :dM 37 [(dP (gL x 64)),(dP (er 7))] _),tB 47 (aD h4),.c (jd:dM 315 [(dP x.lo),(bP true),(iP p)] _),.c (je:dM 315 [(dP x.hi),(bP true),(iP p)] _),.c (hH:dM 158 [(dQ P1),(dQ P2)] _),.c (lI:dM 313 [] _),.c (iD:dM 314 [(dQ H),(dQ fG)] _),.c (gU _ _ af af :dM 37 [(dP x.lo),(dP x.hi)] _),tB 74 (by simpa using h5:((ew x.lo x.hi)==0)=false),eh ((p:Int)+64) ae,.c (oD:dM 316 [(dQ x),(iP 0),(iP (((p+64):Nat):Int))] _),.c (ju _ ae :dM 113 [(iP 1)] _),eh ((p:Int)+64) ae,.c (oE:dM 316 [(dQ x),(iP 2),(iP (((p+64):Nat):Int))] _),.c (ju _ ae :dM 113 [(iP (-1))] _)]<|rR (dQ (Iv.mk (er (-1)) (er 1) Y.all)) (.of_eq rfl:E.le (dQ (Iv.mk (er (-1)) (er 1) Y.all)) (dQ (Iv.mk (er (-1)) (er 1) Y.all)))) ah 
theorem Uh(x:Iv)(p:Nat)(hx:x.Valid)(xa:x.all=false)(dW:8<=p)(dR:p<=512)(h1:¬100<x.lo.dX)(h2:¬100<x.hi.dX)(h3:mT x 64=0)(h4:¬0<=ew (gL x 64) (er 7))(P1 P2 H Y:Iv)(hY:mW Y)(jd:dM 315 [dP x.lo,bP true,iP (p:Int)] (dQ P1))(je:dM 315 [dP x.hi,bP true,iP (p:Int)] (dQ P2))(hH:dM 158 [dQ P1,dQ P2] (dQ H))(iD:dM 314 [dQ H,dQ fG] (.ef [dQ Y,bP true]))(h5:¬ew x.lo x.hi=0)(oD:dM 316 [dQ x,iP ((0:Nat):Int),iP ((p+64:Nat):Int)] (bP true))(oE:dM 316 [dQ x,iP ((2:Nat):Int),iP ((p+64:Nat):Int)] (bP false)):dM 284 [(dQ x),(bP true),(iP p)] (dQ (Iv.mk Y.lo (er 1) Y.all)):=by
 obtain⟨w1,w2⟩:=hx.ends;have h7:(er 7).Valid:=jx ag;have wv:(gL x 64).Valid:=kq _ ag ag _;exact tr true Tryz.call284 Tryz.func284 (chain [.c (lH _ ae ae :dM 312 [(iP p)] _),.c (iS x af),tB 22 (xa:x.all=false),.c (gh _ af :dM 130 [(dP x.lo)] _),tB 28 (aD h1),.c (gh _ af :dM 130 [(dP x.hi)] _),tB 33 (aD h2),.c (nO x 64 af af ae ae),tB 40 (aE h3),.c (ju _ ae :dM 113 [(iP 7)] _),.c (gU _ _ af af :dM 37 [(dP (gL x 64)),(dP (er 7))] _),tB 47 (aD h4),.c (jd:dM 315 [(dP x.lo),(bP true),(iP p)] _),.c (je:dM 315 [(dP x.hi),(bP true),(iP p)] _),.c (hH:dM 158 [(dQ P1),(dQ P2)] _),.c (lI:dM 313 [] _),.c (iD:dM 314 [(dQ H),(dQ fG)] _),.c (gU _ _ af af :dM 37 [(dP x.lo),(dP x.hi)] _),tB 74 (by simpa using h5:((ew x.lo x.hi)==0)=false),eh ((p:Int)+64) ae,.c (oD:dM 316 [(dQ x),(iP 0),(iP (((p+64):Nat):Int))] _),.c (ju _ ae :dM 113 [(iP 1)] _),eh ((p:Int)+64) ae,.c (oE:dM 316 [(dQ x),(iP 2),(iP (((p+64):Nat):Int))] _)]<|rR (dQ (Iv.mk Y.lo (er 1) Y.all)) (.of_eq rfl:E.le (dQ (Iv.mk Y.lo (er 1) Y.all)) (dQ (Iv.mk Y.lo (er 1) Y.all)))) ah 
theorem T7(x:Iv)(p:Nat)(hx:x.Valid)(xa:x.all=false)(dW:8<=p)(dR:p<=512)(h1:¬100<x.lo.dX)(h2:¬100<x.hi.dX)(h3:mT x 64=0)(h4:¬0<=ew (gL x 64) (er 7))(P1 P2 H Y:Iv)(hY:mW Y)(jd:dM 315 [dP x.lo,bP true,iP (p:Int)] (dQ P1))(je:dM 315 [dP x.hi,bP true,iP (p:Int)] (dQ P2))(hH:dM 158 [dQ P1,dQ P2] (dQ H))(iD:dM 314 [dQ H,dQ fG] (.ef [dQ Y,bP true]))(h5:¬ew x.lo x.hi=0)(oD:dM 316 [dQ x,iP ((0:Nat):Int),iP ((p+64:Nat):Int)] (bP false))(oE:dM 316 [dQ x,iP ((2:Nat):Int),iP ((p+64:Nat):Int)] (bP true)):dM 284 [(dQ x),(bP true),(iP p)] (dQ (Iv.mk (er (-1)) Y.hi Y.all)):=by
 obtain⟨w1,w2⟩:=hx.ends;have h7:(er 7).Valid:=jx ag;have wv:(gL x 64).Valid:=kq _ ag ag _;exact tr true Tryz.call284 Tryz.func284 (chain [.c (lH _ ae ae :dM 312 [(iP p)] _),.c (iS x af),tB 22 (xa:x.all=false),.c (gh _ af :dM 130 [(dP x.lo)] _),tB 28 (aD h1),.c (gh _ af :dM 130 [(dP x.hi)] _),tB 33 (aD h2),.c (nO x 64 af af ae ae),tB 40 (aE h3),.c (ju _ ae :dM 113 [(iP 7)] _),.c (gU _ _ af af :dM 37 [(dP (gL x 64)),(dP (er 7))] _),tB 47 (aD h4),.c (jd:dM 315 [(dP x.lo),(bP true),(iP p)] _),.c (je:dM 315 [(dP x.hi),(bP true),(iP p)] _),.c (hH:dM 158 [(dQ P1),(dQ P2)] _),.c (lI:dM 313 [] _),.c (iD:dM 314 [(dQ H),(dQ fG)] _),.c (gU _ _ af af :dM 37 [(dP x.lo),(dP x.hi)] _),tB 74 (by simpa using h5:((ew x.lo x.hi)==0)=false),eh ((p:Int)+64) ae,.c (oD:dM 316 [(dQ x),(iP 0),(iP (((p+64):Nat):Int))] _),eh ((p:Int)+64) ae,.c (oE:dM 316 [(dQ x),(iP 2),(iP (((p+64):Nat):Int))] _),.c (ju _ ae :dM 113 [(iP (-1))] _)]<|rR (dQ (Iv.mk (er (-1)) Y.hi Y.all)) (.of_eq rfl:E.le (dQ (Iv.mk (er (-1)) Y.hi Y.all)) (dQ (Iv.mk (er (-1)) Y.hi Y.all)))) ah 
theorem T4(x:Iv)(p:Nat)(hx:x.Valid)(xa:x.all=false)(dW:8<=p)(dR:p<=512)(h1:¬100<x.lo.dX)(h2:¬100<x.hi.dX)(h3:mT x 64=0)(h4:¬0<=ew (gL x 64) (er 7))(P1 P2 H Y:Iv)(hY:mW Y)(jd:dM 315 [dP x.lo,bP true,iP (p:Int)] (dQ P1))(je:dM 315 [dP x.hi,bP true,iP (p:Int)] (dQ P2))(hH:dM 158 [dQ P1,dQ P2] (dQ H))(iD:dM 314 [dQ H,dQ fG] (.ef [dQ Y,bP true]))(h5:¬ew x.lo x.hi=0)(oD:dM 316 [dQ x,iP ((0:Nat):Int),iP ((p+64:Nat):Int)] (bP false))(oE:dM 316 [dQ x,iP ((2:Nat):Int),iP ((p+64:Nat):Int)] (bP false)):dM 284 [(dQ x),(bP true),(iP p)] (dQ (Iv.mk Y.lo Y.hi Y.all)):=by
 obtain⟨w1,w2⟩:=hx.ends;have h7:(er 7).Valid:=jx ag;have wv:(gL x 64).Valid:=kq _ ag ag _;exact tr true Tryz.call284 Tryz.func284 (chain [.c (lH _ ae ae :dM 312 [(iP p)] _),.c (iS x af),tB 22 (xa:x.all=false),.c (gh _ af :dM 130 [(dP x.lo)] _),tB 28 (aD h1),.c (gh _ af :dM 130 [(dP x.hi)] _),tB 33 (aD h2),.c (nO x 64 af af ae ae),tB 40 (aE h3),.c (ju _ ae :dM 113 [(iP 7)] _),.c (gU _ _ af af :dM 37 [(dP (gL x 64)),(dP (er 7))] _),tB 47 (aD h4),.c (jd:dM 315 [(dP x.lo),(bP true),(iP p)] _),.c (je:dM 315 [(dP x.hi),(bP true),(iP p)] _),.c (hH:dM 158 [(dQ P1),(dQ P2)] _),.c (lI:dM 313 [] _),.c (iD:dM 314 [(dQ H),(dQ fG)] _),.c (gU _ _ af af :dM 37 [(dP x.lo),(dP x.hi)] _),tB 74 (by simpa using h5:((ew x.lo x.hi)==0)=false),eh ((p:Int)+64) ae,.c (oD:dM 316 [(dQ x),(iP 0),(iP (((p+64):Nat):Int))] _),eh ((p:Int)+64) ae,.c (oE:dM 316 [(dQ x),(iP 2),(iP (((p+64):Nat):Int))] _)]<|rR (dQ (Iv.mk Y.lo Y.hi Y.all)) (.of_eq rfl:E.le (dQ Y) (dQ (Iv.mk Y.lo Y.hi Y.all)))) ah 
theorem TY(x:Iv)(p:Nat)(hx:x.Valid)(xa:x.all=true)(dW:8<=p)(dR:p<=512):dM 284 [(dQ x),(bP false),(iP p)] (dQ dV):=by
 exact tr true Tryz.call284 Tryz.func284 (chain [.c (lH _ ae ae :dM 312 [(iP p)] _),.c (iS x af),tB 22 (xa:x.all=true),.c ji]<|.nil) ah 
theorem Ua(x:Iv)(p:Nat)(hx:x.Valid)(xa:x.all=false)(dW:8<=p)(dR:p<=512)(h1:100<x.lo.dX):dM 284 [(dQ x),(bP false),(iP p)] (dQ fG):=by
 obtain⟨w1,w2⟩:=hx.ends;have h7:(er 7).Valid:=jx ag;have wv:(gL x 64).Valid:=kq _ ag ag _;exact tr true Tryz.call284 Tryz.func284 (chain [.c (lH _ ae ae :dM 312 [(iP p)] _),.c (iS x af),tB 22 (xa:x.all=false),.c (gh _ af :dM 130 [(dP x.lo)] _),tB 28 (aE h1),.c (lI:dM 313 [] _)]<|.nil) ah 
theorem Uc(x:Iv)(p:Nat)(hx:x.Valid)(xa:x.all=false)(dW:8<=p)(dR:p<=512)(h1:¬100<x.lo.dX)(h2:100<x.hi.dX):dM 284 [(dQ x),(bP false),(iP p)] (dQ fG):=by
 obtain⟨w1,w2⟩:=hx.ends;have h7:(er 7).Valid:=jx ag;have wv:(gL x 64).Valid:=kq _ ag ag _;exact tr true Tryz.call284 Tryz.func284 (chain [.c (lH _ ae ae :dM 312 [(iP p)] _),.c (iS x af),tB 22 (xa:x.all=false),.c (gh _ af :dM 130 [(dP x.lo)] _),tB 28 (aD h1),.c (gh _ af :dM 130 [(dP x.hi)] _),tB 33 (aE h2),.c (lI:dM 313 [] _)]<|.nil) ah 
theorem Ue(x:Iv)(p:Nat)(hx:x.Valid)(xa:x.all=false)(dW:8<=p)(dR:p<=512)(h1:¬100<x.lo.dX)(h2:¬100<x.hi.dX)(h3:¬mT x 64=0):dM 284 [(dQ x),(bP false),(iP p)] (dQ fG):=by
 obtain⟨w1,w2⟩:=hx.ends;have h7:(er 7).Valid:=jx ag;have wv:(gL x 64).Valid:=kq _ ag ag _;exact tr true Tryz.call284 Tryz.func284 (chain [.c (lH _ ae ae :dM 312 [(iP p)] _),.c (iS x af),tB 22 (xa:x.all=false),.c (gh _ af :dM 130 [(dP x.lo)] _),tB 28 (aD h1),.c (gh _ af :dM 130 [(dP x.hi)] _),tB 33 (aD h2),.c (nO x 64 af af ae ae),tB 40 (aD h3),.c (lI:dM 313 [] _)]<|.nil) ah 
theorem Ug(x:Iv)(p:Nat)(hx:x.Valid)(xa:x.all=false)(dW:8<=p)(dR:p<=512)(h1:¬100<x.lo.dX)(h2:¬100<x.hi.dX)(h3:mT x 64=0)(h4:0<=ew (gL x 64) (er 7)):dM 284 [(dQ x),(bP false),(iP p)] (dQ fG):=by
 obtain⟨w1,w2⟩:=hx.ends;have h7:(er 7).Valid:=jx ag;have wv:(gL x 64).Valid:=kq _ ag ag _;exact tr true Tryz.call284 Tryz.func284 (chain [.c (lH _ ae ae :dM 312 [(iP p)] _),.c (iS x af),tB 22 (xa:x.all=false),.c (gh _ af :dM 130 [(dP x.lo)] _),tB 28 (aD h1),.c (gh _ af :dM 130 [(dP x.hi)] _),tB 33 (aD h2),.c (nO x 64 af af ae ae),tB 40 (aE h3),.c (ju _ ae :dM 113 [(iP 7)] _),.c (gU _ _ af af :dM 37 [(dP (gL x 64)),(dP (er 7))] _),tB 47 (aE h4),.c (lI:dM 313 [] _)]<|.nil) ah 
theorem T6(x:Iv)(p:Nat)(hx:x.Valid)(xa:x.all=false)(dW:8<=p)(dR:p<=512)(h1:¬100<x.lo.dX)(h2:¬100<x.hi.dX)(h3:mT x 64=0)(h4:¬0<=ew (gL x 64) (er 7))(P1 P2 H:Iv)(jd:dM 315 [dP x.lo,bP false,iP (p:Int)] (dQ P1))(je:dM 315 [dP x.hi,bP false,iP (p:Int)] (dQ P2))(hH:dM 158 [dQ P1,dQ P2] (dQ H))(iD:dM 314 [dQ H,dQ fG] (.ef [dQ rF,bP false])):dM 284 [(dQ x),(bP false),(iP p)] (dQ fG):=by
 obtain⟨w1,w2⟩:=hx.ends;have h7:(er 7).Valid:=jx ag;have wv:(gL x 64).Valid:=kq _ ag ag _;exact tr true Tryz.call284 Tryz.func284 (chain [.c (lH _ ae ae :dM 312 [(iP p)] _),.c (iS x af),tB 22 (xa:x.all=false),.c (gh _ af :dM 130 [(dP x.lo)] _),tB 28 (aD h1),.c (gh _ af :dM 130 [(dP x.hi)] _),tB 33 (aD h2),.c (nO x 64 af af ae ae),tB 40 (aE h3),.c (ju _ ae :dM 113 [(iP 7)] _),.c (gU _ _ af af :dM 37 [(dP (gL x 64)),(dP (er 7))] _),tB 47 (aD h4),.c (jd:dM 315 [(dP x.lo),(bP false),(iP p)] _),.c (je:dM 315 [(dP x.hi),(bP false),(iP p)] _),.c (hH:dM 158 [(dQ P1),(dQ P2)] _),.c (lI:dM 313 [] _),.c (iD:dM 314 [(dQ H),(dQ fG)] _),.c (lI:dM 313 [] _)]<|.nil) ah 
theorem T2(x:Iv)(p:Nat)(hx:x.Valid)(xa:x.all=false)(dW:8<=p)(dR:p<=512)(h1:¬100<x.lo.dX)(h2:¬100<x.hi.dX)(h3:mT x 64=0)(h4:¬0<=ew (gL x 64) (er 7))(P1 P2 H Y:Iv)(hY:mW Y)(jd:dM 315 [dP x.lo,bP false,iP (p:Int)] (dQ P1))(je:dM 315 [dP x.hi,bP false,iP (p:Int)] (dQ P2))(hH:dM 158 [dQ P1,dQ P2] (dQ H))(iD:dM 314 [dQ H,dQ fG] (.ef [dQ Y,bP true]))(h5:ew x.lo x.hi=0):dM 284 [(dQ x),(bP false),(iP p)] (dQ Y):=by
 obtain⟨w1,w2⟩:=hx.ends;have h7:(er 7).Valid:=jx ag;have wv:(gL x 64).Valid:=kq _ ag ag _;exact tr true Tryz.call284 Tryz.func284 (chain [.c (lH _ ae ae :dM 312 [(iP p)] _),.c (iS x af),tB 22 (xa:x.all=false),.c (gh _ af :dM 130 [(dP x.lo)] _),tB 28 (aD h1),.c (gh _ af :dM 130 [(dP x.hi)] _),tB 33 (aD h2),.c (nO x 64 af af ae ae),tB 40 (aE h3),.c (ju _ ae :dM 113 [(iP 7)] _),.c (gU _ _ af af :dM 37 [(dP (gL x 64)),(dP (er 7))] _),tB 47 (aD h4),.c (jd:dM 315 [(dP x.lo),(bP false),(iP p)] _),.c (je:dM 315 [(dP x.hi),(bP false),(iP p)] _),.c (hH:dM 158 [(dQ P1),(dQ P2)] _),.c (lI:dM 313 [] _),.c (iD:dM 314 [(dQ H),(dQ fG)] _),.c (gU _ _ af af :dM 37 [(dP x.lo),(dP x.hi)] _),tB 74 (by rw[h5];rfl:((ew x.lo x.hi)==0)=true)]<|.nil) ah 
theorem Uk(x:Iv)(p:Nat)(hx:x.Valid)(xa:x.all=false)(dW:8<=p)(dR:p<=512)(h1:¬100<x.lo.dX)(h2:¬100<x.hi.dX)(h3:mT x 64=0)(h4:¬0<=ew (gL x 64) (er 7))(P1 P2 H Y:Iv)(hY:mW Y)(jd:dM 315 [dP x.lo,bP false,iP (p:Int)] (dQ P1))(je:dM 315 [dP x.hi,bP false,iP (p:Int)] (dQ P2))(hH:dM 158 [dQ P1,dQ P2] (dQ H))(iD:dM 314 [dQ H,dQ fG] (.ef [dQ Y,bP true]))(h5:¬ew x.lo x.hi=0)(oD:dM 316 [dQ x,iP ((1:Nat):Int),iP ((p+64:Nat):Int)] (bP true))(oE:dM 316 [dQ x,iP ((3:Nat):Int),iP ((p+64:Nat):Int)] (bP true)):dM 284 [(dQ x),(bP false),(iP p)] (dQ (Iv.mk (er (-1)) (er 1) Y.all)):=by
 obtain⟨w1,w2⟩:=hx.ends;have h7:(er 7).Valid:=jx ag;have wv:(gL x 64).Valid:=kq _ ag ag _;exact tr true Tryz.call284 Tryz.func284 (chain [.c (lH _ ae ae :dM 312 [(iP p)] _),.c (iS x af),tB 22 (xa:x.all=false),.c (gh _ af :dM 130 [(dP x.lo)] _),tB 28 (aD h1),.c (gh _ af :dM 130 [(dP x.hi)] _),tB 33 (aD h2),.c (nO x 64 af af ae ae),tB 40 (aE h3),.c (ju _ ae :dM 113 [(iP 7)] _),.c (gU _ _ af af :dM 37 [(dP (gL x 64)),(dP (er 7))] _),tB 47 (aD h4),.c (jd:dM 315 [(dP x.lo),(bP false),(iP p)] _),.c (je:dM 315 [(dP x.hi),(bP false),(iP p)] _),.c (hH:dM 158 [(dQ P1),(dQ P2)] _),.c (lI:dM 313 [] _),.c (iD:dM 314 [(dQ H),(dQ fG)] _),.c (gU _ _ af af :dM 37 [(dP x.lo),(dP x.hi)] _),tB 74 (by simpa using h5:((ew x.lo x.hi)==0)=false),eh ((p:Int)+64) ae,.c (oD:dM 316 [(dQ x),(iP 1),(iP (((p+64):Nat):Int))] _),.c (ju _ ae :dM 113 [(iP 1)] _),eh ((p:Int)+64) ae,.c (oE:dM 316 [(dQ x),(iP 3),(iP (((p+64):Nat):Int))] _),.c (ju _ ae :dM 113 [(iP (-1))] _)]<|rR (dQ (Iv.mk (er (-1)) (er 1) Y.all)) (.of_eq rfl:E.le (dQ (Iv.mk (er (-1)) (er 1) Y.all)) (dQ (Iv.mk (er (-1)) (er 1) Y.all)))) ah 
theorem Ui(x:Iv)(p:Nat)(hx:x.Valid)(xa:x.all=false)(dW:8<=p)(dR:p<=512)(h1:¬100<x.lo.dX)(h2:¬100<x.hi.dX)(h3:mT x 64=0)(h4:¬0<=ew (gL x 64) (er 7))(P1 P2 H Y:Iv)(hY:mW Y)(jd:dM 315 [dP x.lo,bP false,iP (p:Int)] (dQ P1))(je:dM 315 [dP x.hi,bP false,iP (p:Int)] (dQ P2))(hH:dM 158 [dQ P1,dQ P2] (dQ H))(iD:dM 314 [dQ H,dQ fG] (.ef [dQ Y,bP true]))(h5:¬ew x.lo x.hi=0)(oD:dM 316 [dQ x,iP ((1:Nat):Int),iP ((p+64:Nat):Int)] (bP true))(oE:dM 316 [dQ x,iP ((3:Nat):Int),iP ((p+64:Nat):Int)] (bP false)):dM 284 [(dQ x),(bP false),(iP p)] (dQ (Iv.mk Y.lo (er 1) Y.all)):=by
 obtain⟨w1,w2⟩:=hx.ends;have h7:(er 7).Valid:=jx ag;have wv:(gL x 64).Valid:=kq _ ag ag _;exact tr true Tryz.call284 Tryz.func284 (chain [.c (lH _ ae ae :dM 312 [(iP p)] _),.c (iS x af),tB 22 (xa:x.all=false),.c (gh _ af :dM 130 [(dP x.lo)] _),tB 28 (aD h1),.c (gh _ af :dM 130 [(dP x.hi)] _),tB 33 (aD h2),.c (nO x 64 af af ae ae),tB 40 (aE h3),.c (ju _ ae :dM 113 [(iP 7)] _),.c (gU _ _ af af :dM 37 [(dP (gL x 64)),(dP (er 7))] _),tB 47 (aD h4),.c (jd:dM 315 [(dP x.lo),(bP false),(iP p)] _),.c (je:dM 315 [(dP x.hi),(bP false),(iP p)] _),.c (hH:dM 158 [(dQ P1),(dQ P2)] _),.c (lI:dM 313 [] _),.c (iD:dM 314 [(dQ H),(dQ fG)] _),.c (gU _ _ af af :dM 37 [(dP x.lo),(dP x.hi)] _),tB 74 (by simpa using h5:((ew x.lo x.hi)==0)=false),eh ((p:Int)+64) ae,.c (oD:dM 316 [(dQ x),(iP 1),(iP (((p+64):Nat):Int))] _),.c (ju _ ae :dM 113 [(iP 1)] _),eh ((p:Int)+64) ae,.c (oE:dM 316 [(dQ x),(iP 3),(iP (((p+64):Nat):Int))] _)]<|rR (dQ (Iv.mk Y.lo (er 1) Y.all)) (.of_eq rfl:E.le (dQ (Iv.mk Y.lo (er 1) Y.all)) (dQ (Iv.mk Y.lo (er 1) Y.all)))) ah 
theorem T8(x:Iv)(p:Nat)(hx:x.Valid)(xa:x.all=false)(dW:8<=p)(dR:p<=512)(h1:¬100<x.lo.dX)(h2:¬100<x.hi.dX)(h3:mT x 64=0)(h4:¬0<=ew (gL x 64) (er 7))(P1 P2 H Y:Iv)(hY:mW Y)(jd:dM 315 [dP x.lo,bP false,iP (p:Int)] (dQ P1))(je:dM 315 [dP x.hi,bP false,iP (p:Int)] (dQ P2))(hH:dM 158 [dQ P1,dQ P2] (dQ H))(iD:dM 314 [dQ H,dQ fG] (.ef [dQ Y,bP true]))(h5:¬ew x.lo x.hi=0)(oD:dM 316 [dQ x,iP ((1:Nat):Int),iP ((p+64:Nat):Int)] (bP false))(oE:dM 316 [dQ x,iP ((3:Nat):Int),iP ((p+64:Nat):Int)] (bP true)):dM 284 [(dQ x),(bP false),(iP p)] (dQ (Iv.mk (er (-1)) Y.hi Y.all)):=by
 obtain⟨w1,w2⟩:=hx.ends;have h7:(er 7).Valid:=jx ag;have wv:(gL x 64).Valid:=kq _ ag ag _;exact tr true Tryz.call284 Tryz.func284 (chain [.c (lH _ ae ae :dM 312 [(iP p)] _),.c (iS x af),tB 22 (xa:x.all=false),.c (gh _ af :dM 130 [(dP x.lo)] _),tB 28 (aD h1),.c (gh _ af :dM 130 [(dP x.hi)] _),tB 33 (aD h2),.c (nO x 64 af af ae ae),tB 40 (aE h3),.c (ju _ ae :dM 113 [(iP 7)] _),.c (gU _ _ af af :dM 37 [(dP (gL x 64)),(dP (er 7))] _),tB 47 (aD h4),.c (jd:dM 315 [(dP x.lo),(bP false),(iP p)] _),.c (je:dM 315 [(dP x.hi),(bP false),(iP p)] _),.c (hH:dM 158 [(dQ P1),(dQ P2)] _),.c (lI:dM 313 [] _),.c (iD:dM 314 [(dQ H),(dQ fG)] _),.c (gU _ _ af af :dM 37 [(dP x.lo),(dP x.hi)] _),tB 74 (by simpa using h5:((ew x.lo x.hi)==0)=false),eh ((p:Int)+64) ae,.c (oD:dM 316 [(dQ x),(iP 1),(iP (((p+64):Nat):Int))] _),eh ((p:Int)+64) ae,.c (oE:dM 316 [(dQ x),(iP 3),(iP (((p+64):Nat):Int))] _),.c (ju _ ae :dM 113 [(iP (-1))] _)]<|rR (dQ (Iv.mk (er (-1)) Y.hi Y.all)) (.of_eq rfl:E.le (dQ (Iv.mk (er (-1)) Y.hi Y.all)) (dQ (Iv.mk (er (-1)) Y.hi Y.all)))) ah 
theorem T5(x:Iv)(p:Nat)(hx:x.Valid)(xa:x.all=false)(dW:8<=p)(dR:p<=512)(h1:¬100<x.lo.dX)(h2:¬100<x.hi.dX)(h3:mT x 64=0)(h4:¬0<=ew (gL x 64) (er 7))(P1 P2 H Y:Iv)(hY:mW Y)(jd:dM 315 [dP x.lo,bP false,iP (p:Int)] (dQ P1))(je:dM 315 [dP x.hi,bP false,iP (p:Int)] (dQ P2))(hH:dM 158 [dQ P1,dQ P2] (dQ H))(iD:dM 314 [dQ H,dQ fG] (.ef [dQ Y,bP true]))(h5:¬ew x.lo x.hi=0)(oD:dM 316 [dQ x,iP ((1:Nat):Int),iP ((p+64:Nat):Int)] (bP false))(oE:dM 316 [dQ x,iP ((3:Nat):Int),iP ((p+64:Nat):Int)] (bP false)):dM 284 [(dQ x),(bP false),(iP p)] (dQ (Iv.mk Y.lo Y.hi Y.all)):=by
 obtain⟨w1,w2⟩:=hx.ends;have h7:(er 7).Valid:=jx ag;have wv:(gL x 64).Valid:=kq _ ag ag _;exact tr true Tryz.call284 Tryz.func284 (chain [.c (lH _ ae ae :dM 312 [(iP p)] _),.c (iS x af),tB 22 (xa:x.all=false),.c (gh _ af :dM 130 [(dP x.lo)] _),tB 28 (aD h1),.c (gh _ af :dM 130 [(dP x.hi)] _),tB 33 (aD h2),.c (nO x 64 af af ae ae),tB 40 (aE h3),.c (ju _ ae :dM 113 [(iP 7)] _),.c (gU _ _ af af :dM 37 [(dP (gL x 64)),(dP (er 7))] _),tB 47 (aD h4),.c (jd:dM 315 [(dP x.lo),(bP false),(iP p)] _),.c (je:dM 315 [(dP x.hi),(bP false),(iP p)] _),.c (hH:dM 158 [(dQ P1),(dQ P2)] _),.c (lI:dM 313 [] _),.c (iD:dM 314 [(dQ H),(dQ fG)] _),.c (gU _ _ af af :dM 37 [(dP x.lo),(dP x.hi)] _),tB 74 (by simpa using h5:((ew x.lo x.hi)==0)=false),eh ((p:Int)+64) ae,.c (oD:dM 316 [(dQ x),(iP 1),(iP (((p+64):Nat):Int))] _),eh ((p:Int)+64) ae,.c (oE:dM 316 [(dQ x),(iP 3),(iP (((p+64):Nat):Int))] _)]<|rR (dQ (Iv.mk Y.lo Y.hi Y.all)) (.of_eq rfl:E.le (dQ Y) (dQ (Iv.mk Y.lo Y.hi Y.all)))) ah 
theorem KI{x:Iv}(hx:x.Valid)(cs:Bool){p:Nat}(dW:8<=p)(dR:p<=512):∃ Z,Z.Valid/\dM 284 [dQ x,bP cs,iP (p:Int)] (dQ Z):=by
 cases xa:x.all with
 | true=>cases cs with
  | true=>exact⟨_,gZ,TX x p hx xa dW dR⟩
  | false=>exact⟨_,gZ,TY x p hx xa dW dR⟩
 | false=>
  by_cases h1:100<x.lo.dX
  .cases cs with
   | true=>exact⟨_,nL,T9 x p hx xa dW dR h1⟩
   | false=>exact⟨_,nL,Ua x p hx xa dW dR h1⟩
  by_cases h2:100<x.hi.dX
  .cases cs with
   | true=>exact⟨_,nL,Ub x p hx xa dW dR h1 h2⟩
   | false=>exact⟨_,nL,Uc x p hx xa dW dR h1 h2⟩
  by_cases h3:mT x 64=0
  rotate_left
  .cases cs with
   | true=>exact⟨_,nL,Ud x p hx xa dW dR h1 h2 h3⟩
   | false=>exact⟨_,nL,Ue x p hx xa dW dR h1 h2 h3⟩
  by_cases h4:0<=ew (gL x 64) (er 7)
  .cases cs with
   | true=>exact⟨_,nL,Uf x p hx xa dW dR h1 h2 h3 h4⟩
   | false=>exact⟨_,nL,Ug x p hx xa dW dR h1 h2 h3 h4⟩
  obtain⟨w1,w2⟩:=hx.ends;obtain⟨P1,g1,jd⟩:=KL w1 ae cs dW dR;obtain⟨P2,g2,je⟩:=KL w2 ae cs dW dR;obtain⟨H,g3,hH⟩:=SZ g1 g2;rcases Ta g3 with⟨Y,hY,iD⟩|iD
  rotate_left
  .cases cs with
   | true=>exact⟨_,nL,T3 x p hx xa dW dR h1 h2 h3 h4 P1 P2 H jd je hH iD⟩
   | false=>exact⟨_,nL,T6 x p hx xa dW dR h1 h2 h3 h4 P1 P2 H jd je hH iD⟩
  by_cases h5:ew x.lo x.hi=0
  .cases cs with
   | true=>exact⟨_,hY.v,TZ x p hx xa dW dR h1 h2 h3 h4 P1 P2 H Y hY jd je hH iD h5⟩
   | false=>exact⟨_,hY.v,T2 x p hx xa dW dR h1 h2 h3 h4 P1 P2 H Y hY jd je hH iD h5⟩
  have ya:=hY.f;have v1:(Iv.mk (er (-1)) (er 1) Y.all).Valid:=by rw[ya];exact nL
  have v2:(Iv.mk Y.lo (er 1) Y.all).Valid:=by rw[ya];exact hY.up.v
  have v3:(Iv.mk (er (-1)) Y.hi Y.all).Valid:=by rw[ya];exact hY.dn.v
  have v4:(Iv.mk Y.lo Y.hi Y.all).Valid:=hY.v;cases cs with
  | true=>
   obtain⟨r1,m1⟩:=Cs hx xa 0 ag (p+64) ae ae ae;obtain⟨r2,m2⟩:=Cs hx xa 2 ag (p+64) ae ae ae;cases r1<;>cases r2
   .exact ⟨_,v4,T4 x p hx xa dW dR h1 h2 h3 h4 P1 P2 H Y hY jd je hH iD h5 m1 m2⟩
   .exact ⟨_,v3,T7 x p hx xa dW dR h1 h2 h3 h4 P1 P2 H Y hY jd je hH iD h5 m1 m2⟩
   .exact ⟨_,v2,Uh x p hx xa dW dR h1 h2 h3 h4 P1 P2 H Y hY jd je hH iD h5 m1 m2⟩
   .exact ⟨_,v1,Uj x p hx xa dW dR h1 h2 h3 h4 P1 P2 H Y hY jd je hH iD h5 m1 m2⟩
  | false=>
   obtain⟨r1,m1⟩:=Cs hx xa 1 ag (p+64) ae ae ae;obtain⟨r2,m2⟩:=Cs hx xa 3 ag (p+64) ae ae ae;cases r1<;>cases r2
   .exact ⟨_,v4,T5 x p hx xa dW dR h1 h2 h3 h4 P1 P2 H Y hY jd je hH iD h5 m1 m2⟩
   .exact ⟨_,v3,T8 x p hx xa dW dR h1 h2 h3 h4 P1 P2 H Y hY jd je hH iD h5 m1 m2⟩
   .exact ⟨_,v2,Ui x p hx xa dW dR h1 h2 h3 h4 P1 P2 H Y hY jd je hH iD h5 m1 m2⟩
   .exact ⟨_,v1,Uk x p hx xa dW dR h1 h2 h3 h4 P1 P2 H Y hY jd je hH iD h5 m1 m2⟩
theorem UR(x Z:Iv)(p:Nat)(hZ:dM 284 [dQ x,bP false,iP (p:Int)] (dQ Z)):dM 244 [(dQ x),(iP p)] (dQ Z):=by
 exact tr true Tryz.call244 Tryz.func244 (chain [.c (hZ:dM 284 [(dQ x),(bP false),(iP p)] _)]<|.nil) ah 
theorem Fg{x:Iv}(hx:x.Valid){p:Nat}(dW:8<=p)(dR:p<=512):∃ Z,Z.Valid/\dM 244 [dQ x,iP (p:Int)] (dQ Z):=by
 obtain⟨Z,h1,h2⟩:=KI hx false dW dR;exact⟨Z,h1,UR x Z p h2⟩
theorem Ul(x Z:Iv)(p:Nat)(hZ:dM 284 [dQ x,bP true,iP (p:Int)] (dQ Z)):dM 245 [(dQ x),(iP p)] (dQ Z):=by
 exact tr true Tryz.call245 Tryz.func245 (chain [.c (hZ:dM 284 [(dQ x),(bP true),(iP p)] _)]<|.nil) ah 
theorem Fc{x:Iv}(hx:x.Valid){p:Nat}(dW:8<=p)(dR:p<=512):∃ Z,Z.Valid/\dM 245 [dQ x,iP (p:Int)] (dQ Z):=by
 obtain⟨Z,h1,h2⟩:=KI hx true dW dR;exact⟨Z,h1,Ul x Z p h2⟩
open Go.RowKit Fp Pu
def ib(a b:Nat):Nat->Nat×Nat
 | 0=>(a,b)
 | k+1=>((ib a b k).2,(ib a b k).1%(ib a b k).2)
theorem FJ(a b:Nat):∀ k,ib a b (k+1)=ib b (a%b) k
 | 0=>rfl
 | k+1=>by
  show((ib a b (k+1)).2,(ib a b (k+1)).1%(ib a b (k+1)).2)=_;rw[FJ a b k];rfl
theorem FI(a b:Nat):∀ k,Nat.gcd (ib a b k).1 (ib a b k).2=Nat.gcd a b
 | 0=>rfl
 | k+1=>by
  show Nat.gcd (ib a b k).2 ((ib a b k).1%(ib a b k).2)=_;rw[<-FI a b k];exact(Nat.gcd_comm _ _).trans ((Nat.gcd_rec _ _).symm.trans (Nat.gcd_comm _ _))
theorem LM:∀ (b a:Nat),∃ N,(∀ k,k<N->(ib a b k).2≠0)/\(ib a b N).2=0:=by
 intro b
 induction b using Nat.strongRecOn with
 | ind b ih=>
  intro a;by_cases h:b=0
  .exact ⟨0,fun k hk=>absurd hk (aV k),h⟩
  .obtain ⟨N,h1,h2⟩:=ih (a%b) (aS a (cY h)) b
   refine⟨N+1,fun k hk=>?_,by rw[FJ];exact h2⟩;rcases k with _|k
   .exact h
   .rw [FJ];exact h1 k ae 
def nI(n d:Int)(p:Nat):Iv:=if jb n d then gN (kz (er n) (er d) p false) (mh (er n) (er d) p false) (kz (er n) (er d) p true) (mh (er n) (er d) p true)else dV
theorem NP{d:Int}(h:d≠0):(er d).m≠0:=by
 intro q;have hq:=uT d;rw[lW,q]at hq;have e:(d:Rat)=0:=by
  rw[<-hq];split<;>simp
 rw[show(0:Rat)=((0:Int):Rat)from rfl,Rat.intCast_inj]at e;exact h e
theorem Lu{a b:Dy}(b0:b.m≠0){p:Nat}(hp:1<=p)(dR:p<=4096)(up:Bool):(kz a b p up).Valid:=by
 unfold kz;split
 .exact oO
 .exact nQ _ _ _ _ _ _ hp dR
theorem adZ(n d:Int){p:Nat}(hp:1<=p)(dR:p<=4096):(nI n d p).Valid:=by
 unfold nI;split
 .rename_i h
  obtain⟨r1,_⟩:=IX h;have d0:(er d).m≠0:=NP ae;unfold gN;split
  .exact gZ
  .rename_i he
   obtain⟨A,B⟩:=Lq (a:=er n) d0 hp dR;refine .inr ⟨rfl,Lu d0 hp dR _,Lu d0 hp dR _,?_⟩;rw[ke];exact aU (A.1 ae).2 (B.1 ae).2
 .exact gZ
open Go.RowKit Fp Pu
def Mi(a b:Nat)(x:Nat):PS:=⟨12,true,[(0,.e (.v (.int .u64 ((((ib a b x).1):Nat):Int)))),(1,.e (.v (.int .u64 ((((ib a b x).2):Nat):Int))))],[]⟩
theorem W4(a b N:Nat)(ha:a<18446744073709551616)(hb:b<18446744073709551616)(eC:∀ k,k<N->(ib a b k).2≠0)(hN:(ib a b N).2=0):dM 205 [(.v (.int .u64 (a:Int))),(.v (.int .u64 (b:Int)))] (.v (.int .u64 ((((ib a b N).1):Nat):Int))):=by
 exact tr true Tryz.call205 Tryz.func205 (chain [.s (Sp.upto (Mi a b) 0 N ae (fun x hx ic=>by
    have eZ:=eC x ae;exact eu (chain [tB 6 (Im (eC x ae):(((((ib a b x).2):Nat):Int) != 0)=true),.a ( ae :0<(((((ib a b x).2):Nat):Int):Int))]<|.e (chain [.o 0 (.int (by first|rfl|omega|(simp only[aO,aK];omega)):PV.le (.e (.v (.int .u64 ((((ib a b x).2):Nat):Int)))) (.e (.v (.int .u64 ((((ib a b (x+1)).1):Nat):Int))))),.o 1 (.int (by first|rfl|omega|(simp only[aO,aK];omega)):PV.le (.e (.v (.int .u64 (((((ib a b x).1)%((ib a b x).2)):Nat):Int)))) (.e (.v (.int .u64 ((((ib a b (x+1)).2):Nat):Int)))))]<|.nil)) ah)
  (fun hx=>by
    exact eu (chain [tB 6 (DO hN:(((((ib a b N).2):Nat):Int) != 0)=false)]<|.nil) ah) ak :fP 1 Tryz.f205 (Mi a b 0) (.exit 0) ⟨12,true,[(0,.e (.v (.int .u64 ((((ib a b N).1):Nat):Int))))],[]⟩) (chain [.o 0 (.int (by first|rfl|omega|(simp only[aO,aK];omega)):PV.le (.e (.v (.int .u64 (a:Int)))) (.e (.v (.int .u64 ((((ib a b 0).1):Nat):Int))))),.o 1 (.int (by first|rfl|omega|(simp only[aO,aK];omega)):PV.le (.e (.v (.int .u64 (b:Int)))) (.e (.v (.int .u64 ((((ib a b 0).2):Nat):Int)))))]<|.nil)]<|.nil) ah 
theorem W5(a b:Nat)(ha:a<18446744073709551616)(hb:b<18446744073709551616):dM 205 [(.v (.int .u64 (a:Int))),(.v (.int .u64 (b:Int)))] (.v (.int .u64 (Nat.gcd a b:Int))):=by
 obtain⟨N,h1,h2⟩:=LM b a;have hg:=FI a b N;rw[h2,Nat.gcd_zero_right]at hg;rw[<-hg];exact W4 a b N ha hb h1 h2
theorem size_pos(m:Nat)(h:m<=1073741824):dM 206 [(iP m)] (.v (.int .u64 (m:Int))):=by
 exact tr true Tryz.call206 Tryz.func206 (chain [tF 4 ((m:Int)<0) ae,.o 9 (.int (lY _ ae):PV.le (.e (.v (.int .u64 (IntKind.u64.wrap (m:Int))))) (.e (.v (.int .u64 (m:Int)))))]<|.nil) ah 
theorem aes(m:Nat)(h0:0<m)(h:m<=1073741824):dM 206 [(iP (-(m:Int)))] (.v (.int .u64 (m:Int))):=by
 exact tr true Tryz.call206 Tryz.func206 (chain [tT 4 ((-(m:Int))<0) ae,eh (0-(-(m:Int))) ae,.o 6 (.int ae :PV.le (.e (iP (0-(-(m:Int))))) (.e (iP m))),.o 7 (.int (lY _ ae):PV.le (.e (.v (.int .u64 (IntKind.u64.wrap (m:Int))))) (.e (.v (.int .u64 (m:Int)))))]<|.nil) ah 
theorem Q1(n:Int)(h1:-1073741824<=n)(h2:n<=1073741824):dM 206 [iP n] (.v (.int .u64 (n.natAbs:Int))):=by
 by_cases h:0<=n
 .obtain ⟨m,rfl⟩:=dL h
  exact size_pos m ae 
 .obtain ⟨m,rfl⟩:∃ m:Nat,n = -(m:Int):=⟨n.natAbs, ae⟩
  rw[ag9,dz];exact aes m ae ae 
theorem su(g:Nat):((g:Int)==1)=decide (g=1):=by
 by_cases h:g=1
 .subst h;rfl
 .rw [aD h];exact aw ae 
theorem DZ(n d:Int):dM 169 [(.agg [(iP n),(iP d)])] (bP (jb n d)):=by
 exact tr true Tryz.call169 Tryz.func169 (.w (1<=d)
  (fun k1=>chain [tB 5 (aE k1)]<|.w (d<=1073741824)
   (fun k2=>chain [tB 9 (aE k2)]<|.w ((-1073741824)<=n)
    (fun k3=>chain [tB 14 (aE k3)]<|.w (n<=1073741824)
     (fun k4=>chain [tB 19 (aE k4),.c (Q1 _ ae ae :dM 206 [(iP n)] _),.c (Q1 _ ae ae :dM 206 [(iP d)] _),.c (W5 _ _ ae ae :dM 205 [(.v (.int .u64 (Int.natAbs n:Int))),(.v (.int .u64 (Int.natAbs d:Int)))] _)]<|rQ (bP ((Nat.gcd (Int.natAbs n) (Int.natAbs d):Int)==1)) (bP (jb n d)) (by unfold jb;simp[su,k1,k2,k3,k4]))
     (fun k4=>chain [tB 19 (aD k4)]<|rQ (bP false) (bP (jb n d)) (by unfold jb;simp[su,k1,k2,k3,k4])))
    (fun k3=>chain [tB 14 (aD k3)]<|rQ (bP false) (bP (jb n d)) (by unfold jb;simp[su,k1,k2,k3])))
   (fun k2=>chain [tB 9 (aD k2)]<|rQ (bP false) (bP (jb n d)) (by unfold jb;simp[su,k1,k2])))
  (fun k1=>chain [tB 5 (aD k1)]<|rQ (bP false) (bP (jb n d)) (by unfold jb;simp[su,k1]))) ah 
theorem OE{lo hi:Dy}{e f:Int}(h:e≠0\/f≠0):gN lo e hi f=dV:=aC h
theorem aaS{lo hi:Dy}{e f:Int}(h:e=0)(k:f=0):gN lo e hi f=⟨lo,hi,false⟩:=aB (by rw[h,k];decide)
theorem acM(n d:Int)(p:Nat)(h:jb n d=true)(dW:8<=p)(dR:p<=512):dM 210 [(.agg [(iP n),(iP d)]),(iP p)] (dQ (nI n d p)):=by
 obtain⟨r1,r2,r3,r4⟩:=IX h;have v1:=jx (n:=n) ae;have v2:=jx (n:=d) ae;have d0:(er d).m≠0:=NP ae;exact tr true Tryz.call210 Tryz.func210 (chain [.c (DZ _ _:dM 169 [(.agg [(iP n),(iP d)])] _),tB 11 (by rw[h];rfl:(!(jb n d))=false),.c (ju _ ae :dM 113 [(iP n)] _),.c (ju _ ae :dM 113 [(iP d)] _),.c (Qi (er n) (er d) p af af af ae ae),.c (ju _ ae :dM 113 [(iP n)] _),.c (ju _ ae :dM 113 [(iP d)] _),.c (Qj (er n) (er d) p af af af ae ae)]<|.w ((mh (er n) (er d) p false)=0)
  (fun k1=>chain [tB 36 (az k1)]<|.w ((mh (er n) (er d) p true)=0)
   (fun k2=>chain [tB 39 (az k2)]<|rQ (dQ (Iv.mk (kz (er n) (er d) p false) (kz (er n) (er d) p true) false)) (dQ (nI n d p)) (by unfold nI;rw[aC h,aaS k1 k2]))
   (fun k2=>chain [tB 39 (aA k2),.o 41 (.e EG:PV.le (.e (.agg [(bP false),(.v (.slice none 0 0)),(iP 0),(bP false),(.v (.slice none 0 0)),(iP 0),(bP true)])) (.e (dQ dV)))]<|rQ (dQ dV) (dQ (nI n d p)) (by unfold nI;rw[aC h,OE (.inr k2)])))
  (fun k1=>chain [tB 36 (aA k1),.o 41 (.e EG:PV.le (.e (.agg [(bP false),(.v (.slice none 0 0)),(iP 0),(bP false),(.v (.slice none 0 0)),(iP 0),(bP true)])) (.e (dQ dV)))]<|rQ (dQ dV) (dQ (nI n d p)) (by unfold nI;rw[aC h,OE (.inl k1)]))) ah 
open Go.RowKit Fp Pu
noncomputable def xD(x:Iv)(p:Nat):Iv:=@dite Iv (x.Valid/\8<=p/\p<=512) (Classical.propDecidable _) (fun h=>Classical.choose (JI h.1 h.2.1 h.2.2)) (fun _=>dV)
theorem Wv(x:Iv)(p:Nat):(xD x p).Valid:=by
 unfold xD;split
 .rename_i h;exact(cg (JI h.1 h.2.1 h.2.2)).1
 .exact gZ
theorem Wu(x:Iv)(hx:x.Valid)(p:Nat)(dW:8<=p)(dR:p<=512):dM 242 [dQ x,iP (p:Int)] (dQ (xD x p)):=by
 unfold xD;rw[dif_pos ⟨hx,dW,dR⟩];exact(cg (JI hx dW dR)).2
noncomputable def xE(x:Iv)(p:Nat):Iv:=@dite Iv (x.Valid/\8<=p/\p<=512) (Classical.propDecidable _) (fun h=>Classical.choose (JK h.1 h.2.1 h.2.2)) (fun _=>dV)
theorem Wx(x:Iv)(p:Nat):(xE x p).Valid:=by
 unfold xE;split
 .rename_i h;exact(cg (JK h.1 h.2.1 h.2.2)).1
 .exact gZ
theorem Ww(x:Iv)(hx:x.Valid)(p:Nat)(dW:8<=p)(dR:p<=512):dM 243 [dQ x,iP (p:Int)] (dQ (xE x p)):=by
 unfold xE;rw[dif_pos ⟨hx,dW,dR⟩];exact(cg (JK hx dW dR)).2
noncomputable def xF(x:Iv)(p:Nat):Iv:=@dite Iv (x.Valid/\8<=p/\p<=512) (Classical.propDecidable _) (fun h=>Classical.choose (Fg h.1 h.2.1 h.2.2)) (fun _=>dV)
theorem Wz(x:Iv)(p:Nat):(xF x p).Valid:=by
 unfold xF;split
 .rename_i h;exact(cg (Fg h.1 h.2.1 h.2.2)).1
 .exact gZ
theorem Wy(x:Iv)(hx:x.Valid)(p:Nat)(dW:8<=p)(dR:p<=512):dM 244 [dQ x,iP (p:Int)] (dQ (xF x p)):=by
 unfold xF;rw[dif_pos ⟨hx,dW,dR⟩];exact(cg (Fg hx dW dR)).2
noncomputable def xC(x:Iv)(p:Nat):Iv:=@dite Iv (x.Valid/\8<=p/\p<=512) (Classical.propDecidable _) (fun h=>Classical.choose (Fc h.1 h.2.1 h.2.2)) (fun _=>dV)
theorem Wt(x:Iv)(p:Nat):(xC x p).Valid:=by
 unfold xC;split
 .rename_i h;exact(cg (Fc h.1 h.2.1 h.2.2)).1
 .exact gZ
theorem Ws(x:Iv)(hx:x.Valid)(p:Nat)(dW:8<=p)(dR:p<=512):dM 245 [dQ x,iP (p:Int)] (dQ (xC x p)):=by
 unfold xC;rw[dif_pos ⟨hx,dW,dR⟩];exact(cg (Fc hx dW dR)).2
noncomputable def xG(x:Iv)(p:Nat):Iv:=@dite Iv (x.Valid/\8<=p/\p<=512) (Classical.propDecidable _) (fun h=>Classical.choose (Hs h.1 h.2.1 h.2.2)) (fun _=>dV)
theorem WB(x:Iv)(p:Nat):(xG x p).Valid:=by
 unfold xG;split
 .rename_i h;exact(cg (Hs h.1 h.2.1 h.2.2)).1
 .exact gZ
theorem WA(x:Iv)(hx:x.Valid)(p:Nat)(dW:8<=p)(dR:p<=512):dM 246 [dQ x,iP (p:Int)] (dQ (xG x p)):=by
 unfold xG;rw[dif_pos ⟨hx,dW,dR⟩];exact(cg (Hs hx dW dR)).2
open Go.RowKit Fp Pu
def E7(o:jh):Bool:=decide (o.kind<=6)
noncomputable def ix(o:jh)(x y:Iv)(p:Nat):Iv:=
 if o.kind=3 then fp x y p else if o.kind=4 then BN x y p else if o.kind=5 then e9 x y p else if o.kind=6 then gj x y p
 else if o.kind=7 then nG x else if o.kind=8 then lE x o.n p else if o.kind=9 then xD x p else if o.kind=10 then xE x p
 else if o.kind=11 then xF x p else if o.kind=12 then xC x p else if o.kind=13 then xG x p else dV
noncomputable def pv(o:jh)(l:List Iv)(p:Nat):Iv:=if o.kind=1 then nI o.cn o.cd p else ix o (l.getD o.a dV) (if E7 o then l.getD o.b dV else dV) p
noncomputable def fh(ops:List jh)(xs:List Iv)(p:Nat):Nat->List Iv
 | 0=>xs
 | k+1=>fh ops xs p k++[pv (ops.getD k fc) (fh ops xs p k) p]
noncomputable def fC(t:mf)(xs:List Iv)(p:Nat):List Iv:=t.outs.map fun k=>(fh t.ops xs p t.ops.length).getD k dV
noncomputable def iW(s:iV)(x:List Iv)(h:Dy)(b:List Iv)(p:Nat):List Iv:=
 if hasAll (fC s.tape (b++s.params) p)then[]else if hasAll (pJ x (fC s.tape (b++s.params) p) h p)then[]else pJ x (fC s.tape (b++s.params) p) h p
noncomputable def oF(s:iV)(x:List Iv)(h:Dy)(b:List Iv)(p:Nat):Bool:=!(iW s x h b p).isEmpty&&(nc x b&&nc (iW s x h b p) b)
theorem BX(ops:List jh)(xs:List Iv)(p:Nat):∀ k,(fh ops xs p k).length=xs.length+k
 | 0=>rfl
 | k+1=>by simp only[fh,bO,BX ops xs p k,cD,List.length_nil];omega
theorem SD(o:jh){x y:Iv}(hx:x.Valid)(hy:y.Valid){p:Nat}(hp:1<=p)(dR:p<=4096):(ix o x y p).Valid:=by
 unfold ix;split
 .exact nN hx hy hp dR
 split
 .exact nN hx (yL hy) hp dR
 split
 .exact nF _ _ hp dR
 split
 .exact qU _ _ hp dR
 split
 .exact yL hx
 split
 .exact ab6 hx _ hp dR
 split
 .exact Wv _ _
 split
 .exact Wx _ _
 split
 .exact Wz _ _
 split
 .exact Wt _ _
 split
 .exact WB _ _
 .exact gZ
theorem SG(o:jh){l:List Iv}(hl:iO l){p:Nat}(hp:1<=p)(dR:p<=4096):(pv o l p).Valid:=by
 unfold pv;split
 .exact adZ _ _ hp dR
 .exact SD o (hl _) (by split;exact hl _;exact gZ) hp dR
theorem zh(ops:List jh){xs:List Iv}(h:iO xs){p:Nat}(hp:1<=p)(dR:p<=4096):∀ k,iO (fh ops xs p k)
 | 0=>h
 | k+1=>(zh ops h hp dR k).push (SG _ (zh ops h hp dR k) hp dR)
theorem Ad(t:mf){xs:List Iv}(h:iO xs){p:Nat}(hp:1<=p)(dR:p<=4096):iO (fC t xs p):=fun i=>by
 unfold fC;rw[aF,bL];cases t.outs[i]? with
 | none=>exact gZ
 | some k=>exact zh t.ops h hp dR _ _
theorem xI(t:mf)(xs:List Iv)(p:Nat):(fC t xs p).length=t.outs.length:=by simp[fC]
theorem AT{s:iV}{x b:List Iv}{h:Dy}{p n:Nat}(hx:gR n x)(hp:1<=p)(dR:p<=4096)(fK:iW s x h b p≠[]):gR n (iW s x h b p):=by
 unfold iW at fK ⊢;split at fK
 .exact absurd rfl fK
 .rename_i h1
  rw[aB h1];split at fK
  .exact absurd rfl fK
  .rename_i h2
   rw[aB h2];exact⟨by rw[qw,hx.len],Yk (by simpa using h2) (ZP hx.ok.qM hp dR)⟩
open Go.RowKit Fp Pu
theorem Vj:fk 1=0:= ar 
theorem KP(e:Int):canon false 1 e=⟨false,1,e⟩:=by
 unfold canon;rw[aB ag,Vj];simp
def jG(k:Int):Dy:=⟨false,1,k⟩
theorem JD{k:Int}(h1:-100<=k)(h2:k<=100):iM (jG k):=.inr ⟨by show dU 1<=4096;rw[rM];decide,by show -16384<=k;omega,by show k<=16384;omega,by show(dU 1:Int)+k<=16384;rw[rM];omega⟩
theorem RJ{k:Int}(h1:-100<=k)(h2:k<=100):(jG k).Valid:=⟨by have:=oq false 1 k;rwa[KP]at this,JD h1 h2⟩
theorem RH(k:Int):¬(jG k).sign<0:=by
 rw[(kp _).2,lW];show ¬(if false=true then _ else((1:Nat):Rat)*P2 k)<0;rw[aB ag];have:=jr k
 grind
theorem aen{d:Dy}(h:¬d.sign<0):0<=d.q:=by
 rw[(kp d).2]at h
 grind
noncomputable def sL(s:iV)(x:List Iv)(h:Dy)(p:Nat)(k:Int):Bool:=oB x (jG k)&&oF s x h (mJ x (jG k)) p
open Go.RowKit Fp Pu
def Ks(a b:List Iv)(g:FuncId)(cap:List E)(i:Nat):PS:=⟨32,false,[(17,.e (iP i)),(16,.e (iP a.length)),(15,.e (dY a)),(1,.e (dY b)),(2,.e (.fn g cap))],[]⟩
def Kr(a b:List Iv)(g:FuncId)(cap:List E)(N:Nat)(i:Nat):PS:=⟨32,false,[(17,.e (iP i)),(16,.e (iP a.length)),(15,.e (dY a)),(1,.e (dY b)),(2,.e (.fn g cap))],[]⟩
def Kv(x:List Iv)(d:Dy)(i:Nat):PS:=⟨60,true,[(6,.own 6),(28,.e (iP i)),(27,.e (iP x.length)),(26,.e (dY x)),(3,.box 3 0)],[(6,.row true 41 i 7 (fA ((List.range i).map (fun j_=>mj (x.getD j_ dV) d)))),(3,.cells 31 (fD d))]⟩
def Kt(x:List Iv)(d:Dy)(N:Nat)(i:Nat):PS:=⟨60,true,[(6,.own 6),(28,.e (iP i)),(27,.e (iP x.length)),(26,.e (dY x)),(3,.box 3 0)],[(6,.row true 41 i 7 (fA ((List.range i).map (fun j_=>mj (x.getD j_ dV) d)))),(3,.cells 31 (fD d))]⟩
def Ku(x:List Iv)(d:Dy)(N:Nat)(i:Nat):PS:=⟨60,true,[(6,.own 6),(28,.e (iP i)),(27,.e (iP x.length)),(26,.e (dY x)),(3,.box 3 0)],[(6,.row true 41 i 7 (fA ((List.range i).map (fun j_=>mj (x.getD j_ dV) d)))),(3,.cells 31 (fD d))]⟩
theorem TU(x:Iv)(hx:x.Valid)(xa:x.all=false):dM 155 [(dQ x)] (bP false):=by
 exact tr true Tryz.call155 Tryz.func155 (chain [tB 4 (xa:x.all=false),.c (iS x af)]<|.nil) ah 
theorem zG(b:List Iv)(h1:1<=b.length)(h8:b.length<=8)(hb:nk b):dM 112 [(dY b)] (bP true):=by
 exact tr true Tryz.call112 Tryz.func112 (chain [tT 5 (1<=(b.length:Int)) ae,tT 9 ((b.length:Int)<=8) ae,.c (wA true _ _ 155 [] (fun _=>false) (fun i hi=>TU _ (hb i hi).1 (hb i hi).2) ae (fun _ _=>rfl):dM 17 [(dY b),(.fn 155 [])] _)]<|.nil) ah 
theorem TS(a b:List Iv)(a1:1<=a.length)(a8:a.length<=8)(hl:b.length=a.length)(ha:nk a)(hb:nk b):dM 62 [(dY a),(dY b)] (bP true):=by
 exact tr true Tryz.call62 Tryz.func62 (chain [.c (zG _ ae ae af :dM 112 [(dY a)] _),.c (zG _ ae ae af :dM 112 [(dY b)] _),tB 16 (Bi ae :((a.length:Int)==(b.length:Int))=true)]<|.nil) ah 
theorem SV(a b:List Iv)(g:FuncId)(cap:List E)(f:Nat->Bool)(hl:b.length=a.length)(h8:a.length<=1000)(hp:∀ i,i<a.length->dM g ((dQ (a.getD i dV))::(dQ (b.getD i dV))::cap) (bP (f i)))(eC:∀ i,i<a.length->f i=true):dM 56 [(dY a),(dY b),(.fn g cap)] (bP true):=by
 exact tr false Tryz.call56 Tryz.func56 (chain [tB 14 (wG ae :((a.length:Int) != (b.length:Int))=false),.s (Sp.upto (Ks a b g cap) 0 a.length ae (fun i hi mN=>by
    exact eu (chain [tT 18 ((i:Int)<(a.length:Int)) ae,iX ((i:Int)) (a.length) ae,iX ((i:Int)) (b.length) ae,.c (hp i ae :dM g ((dQ (a.getD i dV))::(dQ (b.getD i dV))::cap) _),tB 29 (eC i ae :(f i)=true),eh ((i:Int)+1) ae]<|.nil) ah)
  (fun hi=>by
    exact eu (chain [tF 18 ((a.length:Int)<(a.length:Int)) ae]<|.nil) ah) ak :fP 4 Tryz.f56 (Ks a b g cap 0) (.exit 0) ⟨32,false,[],[]⟩) .nil]<|.nil) ah 
theorem SS(a b:List Iv)(g:FuncId)(cap:List E)(f:Nat->Bool)(hl:b.length=a.length)(h8:a.length<=1000)(hp:∀ i,i<a.length->dM g ((dQ (a.getD i dV))::(dQ (b.getD i dV))::cap) (bP (f i)))(N:Nat)(ki:N<a.length)(eC:∀ i,i<N->f i=true)(hN:f N=false):dM 56 [(dY a),(dY b),(.fn g cap)] (bP false):=by
 exact tr false Tryz.call56 Tryz.func56 (chain [tB 14 (wG ae :((a.length:Int) != (b.length:Int))=false),.s (Sp.upto (Kr a b g cap N) 0 N ae (fun i hi mN=>by
    exact eu (chain [tT 18 ((i:Int)<(a.length:Int)) ae,iX ((i:Int)) (a.length) ae,iX ((i:Int)) (b.length) ae,.c (hp i ae :dM g ((dQ (a.getD i dV))::(dQ (b.getD i dV))::cap) _),tB 29 (eC i ae :(f i)=true),eh ((i:Int)+1) ae]<|.nil) ah)
  (fun hi=>by
    exact eu (chain [tT 18 ((N:Int)<(a.length:Int)) ae,iX ((N:Int)) (a.length) ae,iX ((N:Int)) (b.length) ae,.c (hp N ae :dM g ((dQ (a.getD N dV))::(dQ (b.getD N dV))::cap) _),tB 29 (hN:(f N)=false)]<|.nil) ah) ak :fP 4 Tryz.f56 (Kr a b g cap N 0) .ret ⟨32,false,[(6,.e (bP false))],[]⟩) .nil]<|.nil) ah 
theorem SU(a b:List Iv)(g:FuncId)(cap:List E)(f:Nat->Bool)(hl:b.length=a.length)(h8:a.length<=1000)(hp:∀ i,i<a.length->dM g ((dQ (a.getD i dV))::(dQ (b.getD i dV))::cap) (bP (f i))):dM 56 [(dY a),(dY b),(.fn g cap)] (bP ((List.range a.length).all f)):=by
 by_cases h:∃ i,i<a.length/\(!(f i))=true
 .obtain ⟨N,h1,h2,h3⟩:=oK (p:=fun i=>!(f i)) h
  refine(SS a b g cap f hl h8 hp N h1 (fun i hi=>by simpa using h3 i hi) (by simpa using h2)).fu (.of_eq ?_);rw[show(List.range a.length).all f=false from List.all_eq_false.2 ⟨N,bt.2 h1,by simpa using h2⟩]
 .have hh:∀ i,i<a.length->f i=true:=fun i hi=>by
   cases hf:f i
   .exact absurd ⟨i,hi,by rw[hf];rfl⟩ h
   .rfl
  refine(SV a b g cap f hl h8 hp hh).fu (.of_eq ?_);rw[show(List.range a.length).all f=true from bg.2 fun i hi=>hh i (bt.1 hi)]
theorem Cr(a b:List Iv)(a1:1<=a.length)(a8:a.length<=8)(hl:b.length=a.length)(ha:nk a)(hb:nk b):dM 24 [(dY a),(dY b)] (bP (nc a b)):=by
 exact tr true Tryz.call24 Tryz.func24 (chain [.c (TS _ _ ae ae ae af af :dM 62 [(dY a),(dY b)] _),.c (SU a b 63 [] (fun i=>sj (a.getD i dV) (b.getD i dV)) hl ae (fun i hi=>S2 _ _ (ha i hi).1 (hb i ae).1):dM 56 [(dY a),(dY b),(.fn 63 [])] _)]<|.nil) ah 
theorem F6{x:Iv}{d:Dy}(h:ql x d=true):iJ (ep x.lo (eD d))=0/\iJ (ep x.hi d)=0:=by
 unfold ql at h;rwa[aX,bF,bF]at h
theorem TR(x:List Iv)(d:Dy)(x1:1<=x.length)(x8:x.length<=8)(hx:nk x)(hd:d.Valid)(h0:¬d.sign<0)(eC:∀ i,i<x.length->ql (x.getD i dV) d=true):dM 114 [(dY x),(dP d)] (.ef [dY ((List.range x.length).map (fun j_=>mj (x.getD j_ dV) d)),iP 0]):=by
 exact tr true Tryz.call114 Tryz.func114 (chain [.c (zG _ ae ae af :dM 112 [(dY x)] _),.c (lK _ af :dM 68 [(dP d)] _),.c (jN _ af :dM 35 [(dP d)] _),tB 24 (aD h0),.y 6 6 true 41 7 (fA ((List.range 0).map (fun j_=>mj (x.getD j_ dV) d))),.s (Sp.upto (Kv x d) 0 x.length ae (fun i hi mN=>by
    obtain⟨w1,w2⟩:=(hx i ae).1.ends;obtain⟨g1,g2⟩:=F6 (eC i ae);have uC:=tG (Iv.mk (fS (ep (x.getD i dV).lo (eD d))) (fS (ep (x.getD i dV).hi d)) false);exact eu (chain [tT 29 ((i:Int)<(x.length:Int)) ae,iX ((i:Int)) (x.length) ae,.c (zE _ _ af af :dM 156 [(dP ((x.getD i dV).lo)),(dP d)] _),.c (zC ((x.getD i dV).hi) d af af),tB 47 (by rw[g1];rfl:((iJ (ep ((x.getD i dV).lo) (eD d))) != 0)=false),tB 50 (by rw[g2];rfl:((iJ (ep ((x.getD i dV).hi) d)) != 0)=false),.o 56 (.e (jf _):PV.le (.e (.sl true 1 7 fun i_ j_=>(ev (Iv.mk (fS (ep ((x.getD i dV).lo) (eD d))) (fS (ep ((x.getD i dV).hi) d)) false)).getD (i_*7+j_) (.v (.bool false)))) (.e (dY [(Iv.mk (fS (ep ((x.getD i dV).lo) (eD d))) (fS (ep ((x.getD i dV).hi) d)) false)]))),.a ( ae :(i+[(Iv.mk (fS (ep ((x.getD i dV).lo) (eD d))) (fS (ep ((x.getD i dV).hi) d)) false)].length)*88<=140737488355328),eh ((i:Int)+1) ae]<|.e (chain [.b 6 (yA rfl rfl rfl:Bx.le (.row true 41 (i+[(Iv.mk (fS (ep ((x.getD i dV).lo) (eD d))) (fS (ep ((x.getD i dV).hi) d)) false)].length) 7 (fun i_ j_=>if i_<i then(fA ((List.range i).map (fun j_=>mj (x.getD j_ dV) d))) i_ j_ else(E.mi (dY [(Iv.mk (fS (ep ((x.getD i dV).lo) (eD d))) (fS (ep ((x.getD i dV).hi) d)) false)])) (i_-i) j_)) (.row true 41 (i+1) 7 (fA ((List.range (i+1)).map (fun j_=>mj (x.getD j_ dV) d)))))]<|.nil)) ah)
  (fun hi=>by
    exact eu (chain [tF 29 ((x.length:Int)<(x.length:Int)) ae,.z 6]<|.e (chain [.o 6 (.e (wB aj):PV.le (.e (.sl true x.length 7 (fA ((List.range x.length).map (fun j_=>mj (x.getD j_ dV) d))))) (.e (dY ((List.range x.length).map (fun j_=>mj (x.getD j_ dV) d)))))]<|.nil)) ah) ak :fP 5 Tryz.f114 (Kv x d 0) (.exit 0) ⟨60,true,[(6,.e (dY ((List.range x.length).map (fun j_=>mj (x.getD j_ dV) d))))],[]⟩) .nil]<|.nil) ah 
theorem TN(x:List Iv)(d:Dy)(x1:1<=x.length)(x8:x.length<=8)(hx:nk x)(hd:d.Valid)(h0:¬d.sign<0)(N:Nat)(ki:N<x.length)(eC:∀ i,i<N->ql (x.getD i dV) d=true)(hN:iJ (ep (x.getD N dV).lo (eD d))≠0):dM 114 [(dY x),(dP d)] (.ef [.v (.slice none 0 0),iP 9]):=by
 exact tr true Tryz.call114 Tryz.func114 (chain [.c (zG _ ae ae af :dM 112 [(dY x)] _),.c (lK _ af :dM 68 [(dP d)] _),.c (jN _ af :dM 35 [(dP d)] _),tB 24 (aD h0),.y 6 6 true 41 7 (fA ((List.range 0).map (fun j_=>mj (x.getD j_ dV) d))),.s (Sp.upto (Kt x d N) 0 N ae (fun i hi mN=>by
    obtain⟨w1,w2⟩:=(hx i ae).1.ends;obtain⟨g1,g2⟩:=F6 (eC i ae);have uC:=tG (Iv.mk (fS (ep (x.getD i dV).lo (eD d))) (fS (ep (x.getD i dV).hi d)) false);exact eu (chain [tT 29 ((i:Int)<(x.length:Int)) ae,iX ((i:Int)) (x.length) ae,.c (zE _ _ af af :dM 156 [(dP ((x.getD i dV).lo)),(dP d)] _),.c (zC ((x.getD i dV).hi) d af af),tB 47 (by rw[g1];rfl:((iJ (ep ((x.getD i dV).lo) (eD d))) != 0)=false),tB 50 (by rw[g2];rfl:((iJ (ep ((x.getD i dV).hi) d)) != 0)=false),.o 56 (.e (jf _):PV.le (.e (.sl true 1 7 fun i_ j_=>(ev (Iv.mk (fS (ep ((x.getD i dV).lo) (eD d))) (fS (ep ((x.getD i dV).hi) d)) false)).getD (i_*7+j_) (.v (.bool false)))) (.e (dY [(Iv.mk (fS (ep ((x.getD i dV).lo) (eD d))) (fS (ep ((x.getD i dV).hi) d)) false)]))),.a ( ae :(i+[(Iv.mk (fS (ep ((x.getD i dV).lo) (eD d))) (fS (ep ((x.getD i dV).hi) d)) false)].length)*88<=140737488355328),eh ((i:Int)+1) ae]<|.e (chain [.b 6 (yA rfl rfl rfl:Bx.le (.row true 41 (i+[(Iv.mk (fS (ep ((x.getD i dV).lo) (eD d))) (fS (ep ((x.getD i dV).hi) d)) false)].length) 7 (fun i_ j_=>if i_<i then(fA ((List.range i).map (fun j_=>mj (x.getD j_ dV) d))) i_ j_ else(E.mi (dY [(Iv.mk (fS (ep ((x.getD i dV).lo) (eD d))) (fS (ep ((x.getD i dV).hi) d)) false)])) (i_-i) j_)) (.row true 41 (i+1) 7 (fA ((List.range (i+1)).map (fun j_=>mj (x.getD j_ dV) d)))))]<|.nil)) ah)
  (fun hi=>by
    obtain⟨w1,w2⟩:=(hx N ae).1.ends;exact eu (chain [tT 29 ((N:Int)<(x.length:Int)) ae,iX ((N:Int)) (x.length) ae,.c (zE _ _ af af :dM 156 [(dP ((x.getD N dV).lo)),(dP d)] _),.c (zC ((x.getD N dV).hi) d af af),tB 47 (by simpa using hN:((iJ (ep ((x.getD N dV).lo) (eD d))) != 0)=true)]<|.nil) ah) ak :fP 5 Tryz.f114 (Kt x d N 0) .ret ⟨60,true,[(5,.e (iP 9)),(4,.e (.v (.slice none 0 0)))],[]⟩) .nil]<|.nil) ah 
theorem TO(x:List Iv)(d:Dy)(x1:1<=x.length)(x8:x.length<=8)(hx:nk x)(hd:d.Valid)(h0:¬d.sign<0)(N:Nat)(ki:N<x.length)(eC:∀ i,i<N->ql (x.getD i dV) d=true)(hM:iJ (ep (x.getD N dV).lo (eD d))=0)(hN:iJ (ep (x.getD N dV).hi d)≠0):dM 114 [(dY x),(dP d)] (.ef [.v (.slice none 0 0),iP 9]):=by
 exact tr true Tryz.call114 Tryz.func114 (chain [.c (zG _ ae ae af :dM 112 [(dY x)] _),.c (lK _ af :dM 68 [(dP d)] _),.c (jN _ af :dM 35 [(dP d)] _),tB 24 (aD h0),.y 6 6 true 41 7 (fA ((List.range 0).map (fun j_=>mj (x.getD j_ dV) d))),.s (Sp.upto (Ku x d N) 0 N ae (fun i hi mN=>by
    obtain⟨w1,w2⟩:=(hx i ae).1.ends;obtain⟨g1,g2⟩:=F6 (eC i ae);have uC:=tG (Iv.mk (fS (ep (x.getD i dV).lo (eD d))) (fS (ep (x.getD i dV).hi d)) false);exact eu (chain [tT 29 ((i:Int)<(x.length:Int)) ae,iX ((i:Int)) (x.length) ae,.c (zE _ _ af af :dM 156 [(dP ((x.getD i dV).lo)),(dP d)] _),.c (zC ((x.getD i dV).hi) d af af),tB 47 (by rw[g1];rfl:((iJ (ep ((x.getD i dV).lo) (eD d))) != 0)=false),tB 50 (by rw[g2];rfl:((iJ (ep ((x.getD i dV).hi) d)) != 0)=false),.o 56 (.e (jf _):PV.le (.e (.sl true 1 7 fun i_ j_=>(ev (Iv.mk (fS (ep ((x.getD i dV).lo) (eD d))) (fS (ep ((x.getD i dV).hi) d)) false)).getD (i_*7+j_) (.v (.bool false)))) (.e (dY [(Iv.mk (fS (ep ((x.getD i dV).lo) (eD d))) (fS (ep ((x.getD i dV).hi) d)) false)]))),.a ( ae :(i+[(Iv.mk (fS (ep ((x.getD i dV).lo) (eD d))) (fS (ep ((x.getD i dV).hi) d)) false)].length)*88<=140737488355328),eh ((i:Int)+1) ae]<|.e (chain [.b 6 (yA rfl rfl rfl:Bx.le (.row true 41 (i+[(Iv.mk (fS (ep ((x.getD i dV).lo) (eD d))) (fS (ep ((x.getD i dV).hi) d)) false)].length) 7 (fun i_ j_=>if i_<i then(fA ((List.range i).map (fun j_=>mj (x.getD j_ dV) d))) i_ j_ else(E.mi (dY [(Iv.mk (fS (ep ((x.getD i dV).lo) (eD d))) (fS (ep ((x.getD i dV).hi) d)) false)])) (i_-i) j_)) (.row true 41 (i+1) 7 (fA ((List.range (i+1)).map (fun j_=>mj (x.getD j_ dV) d)))))]<|.nil)) ah)
  (fun hi=>by
    obtain⟨w1,w2⟩:=(hx N ae).1.ends;exact eu (chain [tT 29 ((N:Int)<(x.length:Int)) ae,iX ((N:Int)) (x.length) ae,.c (zE _ _ af af :dM 156 [(dP ((x.getD N dV).lo)),(dP d)] _),.c (zC ((x.getD N dV).hi) d af af),tB 47 (by rw[hM];rfl:((iJ (ep ((x.getD N dV).lo) (eD d))) != 0)=false),tB 50 (by simpa using hN:((iJ (ep ((x.getD N dV).hi) d)) != 0)=true)]<|.nil) ah) ak :fP 5 Tryz.f114 (Ku x d N 0) .ret ⟨60,true,[(5,.e (iP 9)),(4,.e (.v (.slice none 0 0)))],[]⟩) .nil]<|.nil) ah 
def Ai(x:List Iv)(d:Dy):Int:=if oB x d then 0 else 9
theorem TP(x:List Iv)(d:Dy)(x1:1<=x.length)(x8:x.length<=8)(hx:nk x)(hd:d.Valid)(h0:¬d.sign<0):dM 114 [dY x,dP d] (.ef [dY (mJ x d),iP (Ai x d)]):=by
 unfold mJ Ai;cases hg:oB x d with
 | true=>
  rw[aC rfl,aC rfl];exact TR x d x1 x8 hx hd h0 fun i hi=>bg.1 hg i (bt.2 hi)
 | false=>
  rw[aB ag,aB ag];obtain⟨i,hi,hb⟩:=List.all_eq_false.1 hg;obtain⟨N,h1,h2,h3⟩:=oK (p:=fun i=>!(ql (x.getD i dV) d)) ⟨i,bt.1 hi,by simpa using hb⟩;have eC:∀ i,i<N->ql (x.getD i dV) d=true:=fun i hi=>by simpa using h3 i hi
  have h2:ql (x.getD N dV) d=false:=by simpa using h2
  have key:dM 114 [dY x,dP d] (.ef [.v (.slice none 0 0),iP 9]):=by
   by_cases hM:iJ (ep (x.getD N dV).lo (eD d))=0
   .exact TO x d x1 x8 hx hd h0 N h1 eC hM fun q=>by
     unfold ql at h2;rw[hM,q]at h2;exact absurd h2 ag 
   .exact TN x d x1 x8 hx hd h0 N h1 eC hM
  exact key.fu (.ef (.cons (.nil _ _ _) (.cons (.refl _) .nil)))
end Go.Proofs.YtdgnpeddgdclhaaGreatDoor
namespace Go.Proofs.YtdgnpeddgdclhaaGreatDoor.Pu
open Go.RowKit
theorem Qs{bs br:Nat->Prop}{w:World}{xs:List Value}{a:Value}(h:eo bs br w (.agg (xs.map E.v)) a):a = .agg xs.toArray:=by
 generalize he:E.agg (xs.map E.v)=e at h;cases h with
 | agg l vs hl k=>
  cases he;rw[bX]at hl;have:vs=xs:=agN fun i=>by
   cases hx:xs[i]? with
   | none=>rw[List.getElem?_eq_none_iff]at hx ⊢;omega
   | some x=>
    obtain⟨v,hv⟩:∃ v,vs[i]? = some v:=by
     have hi:i<xs.length:=(bA.1 hx).1;exact⟨vs[i]'( ae),aM ae⟩
    rw[hv,eo.gn (k i (.v x) v (by rw[bL,hx];rfl) hv)]
  rw[this]
 | _=>cases he
theorem Px{P:Program}{t:TypeId}{m D D':Nat}(hm:m<=10000)(hk:P.keyTypeAt m t=true)(hg:P.eqGuardType P.depth t=false){xs ys:List Value}{la lb:List Lit}
 (hx:P.keyLits D t xs=some la) (hy:P.keyLits D' t ys=some lb) (fx:(Value.agg xs.toArray).formed P t=true) (fy:(Value.agg ys.toArray).formed P t=true) {c:Bool} (hc:c=true↔la=lb):
 mX P .eql t (.agg (xs.map E.v)) (.agg (ys.map E.v)) (.bool c):=by
 intro bs br w a b ox oy ha hb;obtain rfl:=Qs ha;obtain rfl:=Qs hb;constructor
 .simp only[eqGuard,dr,aT,aL,Sem.run_bind,run_program,Result.andThen_ok,hg,cV,aW,Sem.run_pure]
 .obtain ⟨r,hr,YN⟩:=run_equalIn_deep (10000-m) m t hk w _ _ _ _ la lb fx fy (by simpa[Value.cells]using hx) (by simpa[Value.cells]using hy)
  rw[show 10000-m+m=10000 by omega]at hr;have e:r=c:=by rw[c9,YN,hc]
  subst e;have:(Op.equal t (.agg xs.toArray) (.agg ys.toArray)).run P w = .ok r w:=hr;simp only[binOp,Sem.run_bind,this,Result.andThen_ok,Sem.run_pure]
end Go.Proofs.YtdgnpeddgdclhaaGreatDoor.Pu
namespace Go.Proofs.YtdgnpeddgdclhaaGreatDoor
open Go.RowKit Fp Pu
theorem Py{t:TypeId}{m:Nat}(hm:m<=10000)(hk:Tryz.prog.keyTypeAt m t=true)(hg:Tryz.prog.eqGuardType Tryz.prog.depth t=false){xs:List Value}(hx:(Tryz.prog.keyLits 10 t xs).isSome=true)
 (fx:(Value.agg xs.toArray).formed Tryz.prog t=true):mX Tryz.prog .eql t (.agg (xs.map E.v)) (.agg (xs.map E.v)) (.bool true):=by
 obtain⟨l,hl⟩:=ahi.1 hx;exact Px hm hk hg hl hl fx fx aj 
theorem DU{a b c d e f:Int}(h:a=0/\b=0/\c=0/\d=0/\e=0/\f=0):
 mX Tryz.prog .eql 99 (.agg [iP a,iP b,iP c,iP d,iP e,iP f]) (.agg [iP 0,iP 0,iP 0,iP 0,iP 0,iP 0]) (.bool true):=by
 obtain⟨rfl,rfl,rfl,rfl,rfl,rfl⟩:=h;exact Py (m:=10) (xs:=[.int .i64 0,.int .i64 0,.int .i64 0,.int .i64 0,.int .i64 0,.int .i64 0]) ag ah ah ah ah 
theorem IA{a b:Int}(h:a=0/\b=0):mX Tryz.prog .eql 97 (.agg [iP a,iP b]) (.agg [iP 0,iP 0]) (.bool true):=by
 obtain⟨rfl,rfl⟩:=h;exact Py (m:=10) (xs:=[.int .i64 0,.int .i64 0]) ag ah ah ah ah 
theorem NR{d:Nat}{n:Int}(h:gI .i64 n):Tryz.prog.keyLits (d+1) 3 [.int .i64 n]=some [.int .i64 n]:=by
 have hw:(Lit.int .i64 n).wf=true:=by
  unfold gI at h;simp[Lit.wf,IntKind.min,IntKind.max,IntKind.signed,IntKind.bits];omega
 unfold Program.keyLits;rw[Tryz.underlying3];simp[hw]
theorem Qe{a b:Int}(ha:gI .i64 a)(hb:gI .i64 b):Tryz.prog.keyLits 10 97 [.int .i64 a,.int .i64 b]=some [.int .i64 a,.int .i64 b]:=by
 have c1:Tryz.prog.cellsOf 97=2:= ah ;have c2:Tryz.prog.cellsOf 3=1:= ah ;unfold Program.keyLits;rw[Tryz.underlying97];simp[c1,c2,List.mapM_cons,NR ha,NR hb]
theorem Pw{a b:Int}{r:Bool}(ha:gI .i64 a)(hb:gI .i64 b)(h:decide (a=0/\b=0)=r):mX Tryz.prog .eql 97 (.agg [iP a,iP b]) (.agg [iP 0,iP 0]) (.bool r):=
 Px (m:=10) (xs:=[.int .i64 a,.int .i64 b]) (ys:=[.int .i64 0,.int .i64 0]) ag ah ah (Qe ha hb) (Qe (by unfold gI;omega) (by unfold gI;omega)) ah ah (by subst h;simp)
open Go.RowKit Fp Pu
theorem ad1{P:Program}(w:World)(t tx ty e:TypeId)(i:TypeInfo)(z:Value)(ht:P.underlying t=some (.slice e))(hx:P.underlying tx=some (.int .i64))(hi:P.info? e=some i)(hz:i.zero=some z)
 (r9:i.size≠0) (n:Nat) (h0:0<n) (sS:n<=1000000) (Mo:n*i.bytes<=281474976710656):
 (Builtin.append_ #[t,tx] ty #[.slice none 0 0,.int .i64 (n:Int)]).run P w =
  .ok (.slice (some ⟨w.heap.size,0,none⟩) n (grownCap w n 0 e)) (w.drew.alloc (.cells (Builtin.zeroCells z.cells n++Builtin.zeroCells z.cells (grownCap w n 0 e-n)) e)):=by
 have hn:n≠0:= ae ;have Y5:n*i.size≠0:=cN hn r9;have XV:¬(9223372036854775807<(n:Int)):= ae ;have XS:¬(281474976710656<Builtin.nextslicecap n 0*i.bytes):=by rw[nextslicecap_zero h0];omega
 have hw:IntKind.i64.wrap (n:Int)=n:=i64_in _ ae ae;have Az:¬((n:Int)<0):= ae ;have XT:¬(281474976710656<(n:Int)*(i.bytes:Int)):=by
  have:(n:Int)*(i.bytes:Int)=((n*i.bytes:Nat):Int):= aj ;rw[this];omega
 simp[Builtin.append_,run_underlying ht,run_underlying hx,sizeOf,typeInfo,zeroValue,hi,hz,asInt,asIntOf,hw,Az,XT,hn,Y5,XV,XS,Question.forced,run_firstCells_none,newRow,grownCap]
theorem afV{P:Program}{w:World}{ops:Array Oper}{rest:List Oper}{o:Oper}{a:Act}{Q:Exit->Act->World->Prop}(vK:o.guard=none)(s x:Operand)(t tx:TypeId)
 (ho:o.op = .call { callee:=.builtin .append,args:=#[s,x],argTypes:=#[t,tx] })
 (e:TypeId) (i:TypeInfo) (z:Value) (ht:P.underlying t=some (.slice e)) (hx:P.underlying tx=some (.int .i64)) (hi:P.info? e=some i) (hz:i.zero=some z)
 (r9:i.size≠0) (n:Nat) (h0:0<n) (sS:n<=1000000) (Mo:n*i.bytes<=281474976710656) (hs:a.eval s = .slice none 0 0) (Zy:a.eval x = .int .i64 (n:Int))
 (h:wpList P ops Q rest (a.put o.dst (.slice (some ⟨w.heap.size,0,none⟩) n (grownCap w n 0 e))) (w.drew.alloc (.cells (Builtin.zeroCells z.cells n++Builtin.zeroCells z.cells (grownCap w n 0 e-n)) e))):wpList P ops Q (o::rest) a w:=by
 refine wpList_plain vK fun K hK=>?_
 have gV:=ad1 (P:=P) w t tx o.type e i z ht hx hi hz r9 n h0 sS Mo;unfold Oper.wp;simp[execOp,ho,resolve,invoke,builtin,hs,Zy,gV,Result.andThen];exact hK _ _ h
theorem SA(w:World)(o:Obj):Below w.heap.size w (w.alloc o).drew:=⟨rfl,rfl,rfl,by rw[show(w.alloc o).drew.heap=w.heap.push o from rfl,Array.size_push];omega,fun x hx=>Below.heap_alloc w _ x hx⟩
theorem SB(w:World)(o:Obj):w.heap.size<(w.alloc o).drew.heap.size:=by rw[show(w.alloc o).drew.heap=w.heap.push o from rfl,Array.size_push];omega
theorem ZS:(Tryz.prog.info? 41).map (fun i=>(i.zero,i.size,i.bytes))=some (some (.agg #[.bool false,.slice none 0 0,.int .i64 0,.bool false,.slice none 0 0,.int .i64 0,.bool false]),7,88):= ah 
theorem R7(n:Nat):∀ u,u ∈ Builtin.zeroCells (Value.cells (.agg #[.bool false,.slice none 0 0,.int .i64 0,.bool false,.slice none 0 0,.int .i64 0,.bool false])) n->nY u=false:=by
 intro u hu;simp only[Builtin.zeroCells,Array.mem_map,ag3]at hu;obtain⟨q,hq,rfl⟩:=hu;have hc:Value.cells (.agg #[.bool false,.slice none 0 0,.int .i64 0,.bool false,.slice none 0 0,.int .i64 0,.bool false]) = #[.bool false,.slice none 0 0,.int .i64 0,.bool false,.slice none 0 0,.int .i64 0,.bool false]:=rfl;rw[hc]at hq ⊢;have hs:(#[Value.bool false,.slice none 0 0,.int .i64 0,.bool false,.slice none 0 0,.int .i64 0,.bool false]:Array Value).size=7:=rfl;rw[hs];have h7:q%7<7:=aS _ ag;generalize q%7=k at h7;rcases k with _|_|_|_|_|_|_|k
 all_goals first|rfl|omega
set_option maxRecDepth 100000 in
theorem XF(n:Nat)(hn:n<=1000000):pZ Tryz.prog Tb 175 [.v (.slice none 0 0),iP (n:Int)] true 41 0 7 (fA []):=by
 refine⟨Tryz.call175,fun w B vs hK hB hr=>?_⟩;obtain⟨v1,vs,rfl,h1,hr⟩:=hr.iw;obtain⟨v2,vs,rfl,h2,hr⟩:=hr.iw;obtain rfl:=hr.lV;obtain rfl:=eo.gn h1;obtain rfl:=eo.gn h2;show Calls _ _ #[.slice none 0 0,.int .i64 (n:Int)] w _;clear h1 h2 hr hB hK;by_cases h0:n=0
 .subst h0
  go_enter Tryz.func175,Tryz.ntmps175;go_wp2;go_ret;exact⟨_,rfl,Below.refl _ _,fun _ _=>undef,.inl ⟨rfl,rfl⟩,fun x hx=>by simp[Value.ownBlock]at hx,fun i j hi=>absurd hi (aV _)⟩
 .obtain ⟨i,hi,hz,h1,h2⟩:=info_parts ZS
  have hw:IntKind.i64.wrap ((n:Int)-0)=n:=i64_in _ ae ae;have G6:IntKind.i64.wrap (n:Int)=n:=i64_in _ ae ae;have e2:decide ((n:Int)<0)=false:=aD ae;have e3:decide ((0:Int)<(n:Int))=true:=aE ae;have xS:n<=grownCap w n 0 41:=grownCap_ge w n 0 _;go_enter Tryz.func175,Tryz.ntmps175;go_wp2_with (at_builtin;go_must (refine afV ai _ _ _ _ ai _ i _ Tryz.underlying26 Tryz.underlying3 hi hz ae n ae ae (by rw[h2];omega) ai ai ?_))
  go_ret;have ZB:(#[Value.bool false,.slice none 0 0,.int .i64 0,.bool false,.slice none 0 0,.int .i64 0,.bool false]:Array Value).size=7:=rfl;refine⟨_,rfl,SA w _,fun _ _=>undef,.inr ⟨w.heap.size,grownCap w n 0 41,_,rfl,heap_alloc_new w _,bq _,grownCap_le_maxLen w n 0 _ (by unfold maxLen;omega),?_,fun i j hi=>absurd hi (aV _),fun _ u hu=>?_⟩,fun x hx=>?_,fun i j hi=>absurd hi (aV _)⟩
  .simp only[Array.size_append,size_zeroCells,ZB,<-aO]
   congr 1;omega
  .rcases agO.1 hu with hu|hu
   .exact R7 _ u hu
   .exact R7 _ u hu
  .simp [Value.ownBlock]at hx
   subst hx;exact⟨aG _,SB w _⟩
open Go.RowKit Fp Pu
abbrev w7(f:FuncId)(args:List E)(nl:Bool)(T:TypeId)(n sz:Nat)(el:Nat->Nat->E):Prop:=pZ Tryz.prog Tb f args nl T n sz el
theorem trn{f:FuncId}{fn:Func}{args:List E}{nl:Bool}{T0:TypeId}{n sz:Nat}{el:Nat->Nat->E}(q8:∀ (vs:Array Value) (w:World),(callFunc f vs).run Tryz.prog w = .ok (.enter f vs) w)
 (hf:Tryz.prog.funcs[f]? = some fn) (t:Tr Tryz.prog Tb) (h:I1 TT fn args (.row nl T0 n sz el) t=t.ex fun _=>.a (Bx.le (.row nl T0 n sz el) (.row nl T0 n sz el)) .nil):w7 f args nl T0 n sz el:=
 pZ.JC EO mixed J1 q8 hf t h
open Go.RowKit Fp Pu
def Rq(t:mf)(x:Nat):PS:=⟨46,true,[(28,.e (iP x)),(27,.e (iP t.ops.length)),(26,.e (jR t.ops)),(1,.box 1 0)],[(1,.cells 25 [(iP t.ins),(jR t.ops),(jQ t.outs)])]⟩
def Rm(s:iV)(x:Nat):PS:=⟨85,true,[(31,.e (iP x)),(30,.e (iP s.tape.ops.length)),(29,.e (jR s.tape.ops)),(3,.box 3 0),(1,.box 1 0)],[(3,.cells 25 [(iP s.tape.ins),(jR s.tape.ops),(jQ s.tape.outs)]),(1,.cells 28 [(iP s.tape.ins),(jR s.tape.ops),(jQ s.tape.outs),(iP s.eI),(dY s.params)])]⟩
noncomputable def Rp(t:mf)(xs:List Iv)(p:Nat)(x:Nat):PS:=⟨75,true,[(26,.e (iP x)),(25,.e (iP t.ops.length)),(24,.e (jR t.ops)),(7,.own 22),(2,.e (iP p))],[(22,.row true 41 ((fh t.ops xs p x).length) 7 (fA (fh t.ops xs p x)))]⟩
theorem PB(k:Nat)(h1:3<=k)(h2:k<=6):dM 209 [(iP k)] (iP 2):=by
 exact tr true Tryz.call209 Tryz.func209 (chain [tB 5 (aw ae :((k:Int)==1)=false)]<|.w ((k:Int)=3)
  (fun k1=>chain [tB 7 (ax k1)]<|.nil)
  (fun k1=>chain [tB 7 (aw k1)]<|.w ((k:Int)=4)
   (fun k2=>chain [tB 8 (ax k2)]<|.nil)
   (fun k2=>chain [tB 8 (aw k2)]<|.w ((k:Int)=5)
    (fun k3=>chain [tB 9 (ax k3)]<|.nil)
    (fun k3=>chain [tB 9 (aw k3)]<|.w ((k:Int)=6)
     (fun k4=>chain [tB 10 (ax k4)]<|.nil)
     (fun k4=>.x ae))))) ah 
theorem IE(k:Nat)(h1:7<=k)(h2:k<=13):dM 209 [(iP k)] (iP 1):=by
 exact tr true Tryz.call209 Tryz.func209 (chain [tB 5 (aw ae :((k:Int)==1)=false),tB 7 (aw ae :((k:Int)==3)=false),tB 8 (aw ae :((k:Int)==4)=false),tB 9 (aw ae :((k:Int)==5)=false),tB 10 (aw ae :((k:Int)==6)=false)]<|.w ((k:Int)=7)
  (fun k1=>chain [tB 12 (ax k1)]<|.nil)
  (fun k1=>chain [tB 12 (aw k1)]<|.w ((k:Int)=8)
   (fun k2=>chain [tB 13 (ax k2)]<|.nil)
   (fun k2=>chain [tB 13 (aw k2)]<|.w ((k:Int)=9)
    (fun k3=>chain [tB 14 (ax k3)]<|.nil)
    (fun k3=>chain [tB 14 (aw k3)]<|.w ((k:Int)=10)
     (fun k4=>chain [tB 15 (ax k4)]<|.nil)
     (fun k4=>chain [tB 15 (aw k4)]<|.w ((k:Int)=11)
      (fun k5=>chain [tB 16 (ax k5)]<|.nil)
      (fun k5=>chain [tB 16 (aw k5)]<|.w ((k:Int)=12)
       (fun k6=>chain [tB 17 (ax k6)]<|.nil)
       (fun k6=>chain [tB 17 (aw k6)]<|.w ((k:Int)=13)
        (fun k7=>chain [tB 18 (ax k7)]<|.nil)
        (fun k7=>.x ae)))))))) ah 
theorem PA(k:Nat)(h1:k=1):dM 209 [(iP k)] (iP 0):=by
 exact tr true Tryz.call209 Tryz.func209 (chain [tB 5 (ax ae :((k:Int)==1)=true)]<|.nil) ah 
theorem abr{a b:Int}(h:jb a b=true):mX Tryz.prog .eql 97 (.agg [iP a,iP b]) (.agg [iP 0,iP 0]) (.bool false):=by
 obtain⟨h1,h2,h3,h4⟩:=IX h;exact Pw (by unfold gI;omega) (by unfold gI;omega) (aD ae)
theorem jz.bin{o:jh}{m:Nat}(h:jz o m)(kj:o.kind≠1)(hk:o.kind<=6):3<=o.kind/\o.a<m/\o.b<m/\o.n=0/\o.cn=0/\o.cd=0:=by
 have h3:=h.k3.resolve_left kj;have ha:=h.a;have hb:=h.b;have hn:=h.n;have hc:=h.c;rw[aB kj]at ha hc;rw[aC ⟨h3,hk⟩]at hb;rw[aB ae]at hn;exact⟨h3,ha,hb,hn,hc.1,hc.2⟩
theorem jz.pow{o:jh}{m:Nat}(h:jz o m)(hk:o.kind=8):o.a<m/\o.b=0/\o.n<=16/\o.cn=0/\o.cd=0:=by
 have ha:=h.a;have hb:=h.b;have hn:=h.n;have hc:=h.c;rw[aB ae]at ha hb hc;rw[aC hk]at hn;exact⟨ha,hb,hn,hc.1,hc.2⟩
theorem jz.un{o:jh}{m:Nat}(h:jz o m)(hk:¬o.kind<=6)(qn:o.kind≠8):o.kind<=13/\o.a<m/\o.b=0/\o.n=0/\o.cn=0/\o.cd=0:=by
 have ha:=h.a;have hb:=h.b;have hn:=h.n;have hc:=h.c;rw[aB ae]at ha hb hc;rw[aB qn]at hn;exact⟨h.yB,ha,hb,hn,hc.1,hc.2⟩
theorem jz.num{o:jh}{m:Nat}(h:jz o m)(hk:o.kind=1):o.a=0/\o.b=0/\o.n=0/\jb o.cn o.cd=true:=by
 have ha:=h.a;have hb:=h.b;have hn:=h.n;have hc:=h.c;rw[aC hk]at ha hc;rw[aB ae]at hb hn;exact⟨ha,hb,hn,hc⟩
theorem jz.St{o:jh}{m:Nat}(h:jz o m)(hk:o.kind≠1):o.a<m:=by
 have ha:=h.a;rwa[aB hk]at ha
theorem abS(o:jh)(m:Nat)(h:jz o m)(hk:o.kind=1):dM 234 [(qF o),(iP m)] (bP true):=by
 obtain⟨h2,h3,h4,mO⟩:=h.num hk;exact tr true Tryz.call234 Tryz.func234 (chain [.c (PA _ ae :dM 209 [(iP o.kind)] _),tB 14 ( ag :(decide ((0:Int)<0))=false),tB 17 ( ag :((0:Int)==0)=true),.c (DZ o.cn o.cd),tB 20 (mO:(jb o.cn o.cd)=true),tB 26 (aw ae :((o.kind:Int)==8)=false),tB 37 ( ag :(decide ((0:Int)<0))=false),tB 49 ( ag :(decide ((1:Int)<0))=false),.g (DU ⟨ ae, ae, ae, ae, ae, ae⟩:mX Tryz.prog .eql 99 (.agg [(iP 0),(iP o.a),(iP o.b),(iP o.n),(iP 0),(iP 0)]) (.agg [(iP 0),(iP 0),(iP 0),(iP 0),(iP 0),(iP 0)]) (.bool true))]<|.nil) ah 
theorem abR(o:jh)(m:Nat)(h:jz o m)(kj:o.kind≠1)(hk:o.kind<=6):dM 234 [(qF o),(iP m)] (bP true):=by
 obtain⟨h1,h2,h3,h4,h5,h6⟩:=h.bin kj hk;exact tr true Tryz.call234 Tryz.func234 (chain [.c (PB _ ae ae :dM 209 [(iP o.kind)] _),tB 14 ( ag :(decide ((2:Int)<0))=false),tB 17 ( ag :((2:Int)==0)=false),tB 26 (aw ae :((o.kind:Int)==8)=false),tB 37 ( ag :(decide ((0:Int)<2))=true),tF 40 ((o.a:Int)<0) ae,tF 45 ((m:Int)<=(o.a:Int)) ae,tB 49 ( ag :(decide ((1:Int)<2))=true),tF 52 ((o.b:Int)<0) ae,tF 57 ((m:Int)<=(o.b:Int)) ae,.g (DU ⟨ ae, ae, ae, ae, ae, ae⟩:mX Tryz.prog .eql 99 (.agg [(iP 0),(iP 0),(iP 0),(iP o.n),(iP o.cn),(iP o.cd)]) (.agg [(iP 0),(iP 0),(iP 0),(iP 0),(iP 0),(iP 0)]) (.bool true))]<|.nil) ah 
theorem abU(o:jh)(m:Nat)(h:jz o m)(hk:o.kind=8):dM 234 [(qF o),(iP m)] (bP true):=by
 obtain⟨h2,h3,h4,h5,h6⟩:=h.pow hk;exact tr true Tryz.call234 Tryz.func234 (chain [.c (IE _ ae ae :dM 209 [(iP o.kind)] _),tB 14 ( ag :(decide ((1:Int)<0))=false),tB 17 ( ag :((1:Int)==0)=false),tB 26 (ax ae :((o.kind:Int)==8)=true),tF 29 ((o.n:Int)<0) ae,tF 33 (16<(o.n:Int)) ae,tB 37 ( ag :(decide ((0:Int)<1))=true),tF 40 ((o.a:Int)<0) ae,tF 45 ((m:Int)<=(o.a:Int)) ae,tB 49 ( ag :(decide ((1:Int)<1))=false),.g (DU ⟨ ae, ae, ae, ae, ae, ae⟩:mX Tryz.prog .eql 99 (.agg [(iP 0),(iP 0),(iP o.b),(iP 0),(iP o.cn),(iP o.cd)]) (.agg [(iP 0),(iP 0),(iP 0),(iP 0),(iP 0),(iP 0)]) (.bool true))]<|.nil) ah 
theorem abV(o:jh)(m:Nat)(h:jz o m)(hk:¬o.kind<=6)(qn:o.kind≠8):dM 234 [(qF o),(iP m)] (bP true):=by
 obtain⟨h1,h2,h3,h4,h5,h6⟩:=h.un hk qn;exact tr true Tryz.call234 Tryz.func234 (chain [.c (IE _ ae ae :dM 209 [(iP o.kind)] _),tB 14 ( ag :(decide ((1:Int)<0))=false),tB 17 ( ag :((1:Int)==0)=false),tB 26 (aw ae :((o.kind:Int)==8)=false),tB 37 ( ag :(decide ((0:Int)<1))=true),tF 40 ((o.a:Int)<0) ae,tF 45 ((m:Int)<=(o.a:Int)) ae,tB 49 ( ag :(decide ((1:Int)<1))=false),.g (DU ⟨ ae, ae, ae, ae, ae, ae⟩:mX Tryz.prog .eql 99 (.agg [(iP 0),(iP 0),(iP o.b),(iP o.n),(iP o.cn),(iP o.cd)]) (.agg [(iP 0),(iP 0),(iP 0),(iP 0),(iP 0),(iP 0)]) (.bool true))]<|.nil) ah 
theorem aeV(o:jh)(m:Nat)(h:jz o m)(hk:o.kind=1):dM 133 [(qF o),(iP m)] (bP true):=by
 obtain⟨h2,h3,h4,mO⟩:=h.num hk;exact tr true Tryz.call133 Tryz.func133 (chain [tF 8 ((o.a:Int)<0) ae,tF 12 ((o.b:Int)<0) ae,.g (abr mO:mX Tryz.prog .eql 97 (.agg [(iP o.cn),(iP o.cd)]) (.agg [(iP 0),(iP 0)]) (.bool false)),tB 21 (ax ae :((o.kind:Int)==1)=true),.c (DZ o.cn o.cd),tB 24 (mO:(jb o.cn o.cd)=true),tB 28 (ax ae :((o.a:Int)==0)=true),tB 33 (ax ae :((o.b:Int)==0)=true),tB 38 (ax ae :((o.n:Int)==0)=true)]<|.nil) ah 
theorem aeU(o:jh)(m:Nat)(h:jz o m)(kj:o.kind≠1)(hk:o.kind<=6):dM 133 [(qF o),(iP m)] (bP true):=by
 obtain⟨h1,h2,h3,h4,h5,h6⟩:=h.bin kj hk;exact tr true Tryz.call133 Tryz.func133 (chain [tF 8 ((o.a:Int)<0) ae,tF 12 ((o.b:Int)<0) ae,.g (IA ⟨ ae, ae⟩:mX Tryz.prog .eql 97 (.agg [(iP o.cn),(iP o.cd)]) (.agg [(iP 0),(iP 0)]) (.bool true)),tB 21 (aw ae :((o.kind:Int)==1)=false)]<|.w ((o.kind:Int)=3)
  (fun k1=>chain [tB 41 (ax k1),tT 50 ((o.a:Int)<(m:Int)) ae,tT 56 ((o.b:Int)<(m:Int)) ae,tB 61 (ax ae :((o.n:Int)==0)=true)]<|.nil)
  (fun k1=>chain [tB 41 (aw k1)]<|.w ((o.kind:Int)=4)
   (fun k2=>chain [tB 42 (ax k2),tT 50 ((o.a:Int)<(m:Int)) ae,tT 56 ((o.b:Int)<(m:Int)) ae,tB 61 (ax ae :((o.n:Int)==0)=true)]<|.nil)
   (fun k2=>chain [tB 42 (aw k2)]<|.w ((o.kind:Int)=5)
    (fun k3=>chain [tB 43 (ax k3),tT 50 ((o.a:Int)<(m:Int)) ae,tT 56 ((o.b:Int)<(m:Int)) ae,tB 61 (ax ae :((o.n:Int)==0)=true)]<|.nil)
    (fun k3=>chain [tB 43 (aw k3)]<|.w ((o.kind:Int)=6)
     (fun k4=>chain [tB 44 (ax k4),tT 50 ((o.a:Int)<(m:Int)) ae,tT 56 ((o.b:Int)<(m:Int)) ae,tB 61 (ax ae :((o.n:Int)==0)=true)]<|.nil)
     (fun k4=>.x ae))))) ah 
theorem aeX(o:jh)(m:Nat)(h:jz o m)(hk:o.kind=8):dM 133 [(qF o),(iP m)] (bP true):=by
 obtain⟨h2,h3,h4,h5,h6⟩:=h.pow hk;exact tr true Tryz.call133 Tryz.func133 (chain [tF 8 ((o.a:Int)<0) ae,tF 12 ((o.b:Int)<0) ae,.g (IA ⟨ ae, ae⟩:mX Tryz.prog .eql 97 (.agg [(iP o.cn),(iP o.cd)]) (.agg [(iP 0),(iP 0)]) (.bool true)),tB 21 (aw ae :((o.kind:Int)==1)=false),tB 41 (aw ae :((o.kind:Int)==3)=false),tB 42 (aw ae :((o.kind:Int)==4)=false),tB 43 (aw ae :((o.kind:Int)==5)=false),tB 44 (aw ae :((o.kind:Int)==6)=false),tB 64 (ax ae :((o.kind:Int)==8)=true),tT 70 ((o.a:Int)<(m:Int)) ae,tB 75 (ax ae :((o.b:Int)==0)=true),tT 80 (0<=(o.n:Int)) ae,tT 85 ((o.n:Int)<=16) ae]<|.nil) ah 
theorem aeY(o:jh)(m:Nat)(h:jz o m)(hk:¬o.kind<=6)(qn:o.kind≠8):dM 133 [(qF o),(iP m)] (bP true):=by
 obtain⟨h1,h2,h3,h4,h5,h6⟩:=h.un hk qn;exact tr true Tryz.call133 Tryz.func133 (chain [tF 8 ((o.a:Int)<0) ae,tF 12 ((o.b:Int)<0) ae,.g (IA ⟨ ae, ae⟩:mX Tryz.prog .eql 97 (.agg [(iP o.cn),(iP o.cd)]) (.agg [(iP 0),(iP 0)]) (.bool true)),tB 21 (aw ae :((o.kind:Int)==1)=false),tB 41 (aw ae :((o.kind:Int)==3)=false),tB 42 (aw ae :((o.kind:Int)==4)=false),tB 43 (aw ae :((o.kind:Int)==5)=false),tB 44 (aw ae :((o.kind:Int)==6)=false),tB 64 (aw ae :((o.kind:Int)==8)=false)]<|.w ((o.kind:Int)=7)
  (fun k1=>chain [tB 88 (ax k1),tT 99 ((o.a:Int)<(m:Int)) ae,tB 104 (ax ae :((o.b:Int)==0)=true),tB 109 (ax ae :((o.n:Int)==0)=true)]<|.nil)
  (fun k1=>chain [tB 88 (aw k1)]<|.w ((o.kind:Int)=9)
   (fun k2=>chain [tB 89 (ax k2),tT 99 ((o.a:Int)<(m:Int)) ae,tB 104 (ax ae :((o.b:Int)==0)=true),tB 109 (ax ae :((o.n:Int)==0)=true)]<|.nil)
   (fun k2=>chain [tB 89 (aw k2)]<|.w ((o.kind:Int)=10)
    (fun k3=>chain [tB 90 (ax k3),tT 99 ((o.a:Int)<(m:Int)) ae,tB 104 (ax ae :((o.b:Int)==0)=true),tB 109 (ax ae :((o.n:Int)==0)=true)]<|.nil)
    (fun k3=>chain [tB 90 (aw k3)]<|.w ((o.kind:Int)=11)
     (fun k4=>chain [tB 91 (ax k4),tT 99 ((o.a:Int)<(m:Int)) ae,tB 104 (ax ae :((o.b:Int)==0)=true),tB 109 (ax ae :((o.n:Int)==0)=true)]<|.nil)
     (fun k4=>chain [tB 91 (aw k4)]<|.w ((o.kind:Int)=12)
      (fun k5=>chain [tB 92 (ax k5),tT 99 ((o.a:Int)<(m:Int)) ae,tB 104 (ax ae :((o.b:Int)==0)=true),tB 109 (ax ae :((o.n:Int)==0)=true)]<|.nil)
      (fun k5=>chain [tB 92 (aw k5)]<|.w ((o.kind:Int)=13)
       (fun k6=>chain [tB 93 (ax k6),tT 99 ((o.a:Int)<(m:Int)) ae,tB 104 (ax ae :((o.b:Int)==0)=true),tB 109 (ax ae :((o.n:Int)==0)=true)]<|.nil)
       (fun k6=>.x ae))))))) ah 
theorem abT(o:jh)(m:Nat)(h:jz o m):dM 234 [qF o,iP (m:Int)] (bP true):=by
 by_cases kj:o.kind=1
 .exact abS o m h kj
 by_cases hk:o.kind<=6
 .exact abR o m h kj hk
 .by_cases qn:o.kind=8
  .exact abU o m h qn
  .exact abV o m h hk qn
theorem aeW(o:jh)(m:Nat)(h:jz o m):dM 133 [qF o,iP (m:Int)] (bP true):=by
 by_cases kj:o.kind=1
 .exact aeV o m h kj
 by_cases hk:o.kind<=6
 .exact aeU o m h kj hk
 .by_cases qn:o.kind=8
  .exact aeX o m h qn
  .exact aeY o m h hk qn
theorem aff(t:mf)(k:Nat)(hk:k<t.ins+t.ops.length)(h8:t.ins<=8)(XP:t.ops.length<=200):dM 235 [(iP k),(.ref 3 fun j_=>[(iP t.ins),(jR t.ops),(jQ t.outs)].getD j_ .any)] (bP false):=by
 exact tr true Tryz.call235 Tryz.func235 (chain [tF 5 ((k:Int)<0) ae,eh ((t.ins:Int)+(t.ops.length:Int)) ae,tF 14 ((((t.ins+t.ops.length):Nat):Int)<=(k:Int)) ae]<|.nil) ah 
theorem Rr(t:mf)(h:w9 t):dM 207 [(u7 t)] (bP true):=by
 have h8:=h.ins;have AB:=h.ops;have oG:=h.outs;exact tr true Tryz.call207 Tryz.func207 (chain [tF 7 ((t.ins:Int)<0) ae,tF 11 (8<(t.ins:Int)) ae,tF 17 (200<(t.ops.length:Int)) ae,tF 23 (200<(t.outs.length:Int)) ae,.s (Sp.upto (Rq t) 0 t.ops.length ae (fun x hx ic=>by
    have en:=h.op x ae;exact eu (chain [tT 29 ((x:Int)<(t.ops.length:Int)) ae,iX ((x:Int)) (t.ops.length) ae,eh ((t.ins:Int)+(x:Int)) ae,.c (abT _ _ en:dM 234 [(qF (t.ops.getD x fc)),(iP (((t.ins+x):Nat):Int))] _),eh ((x:Int)+1) ae]<|.nil) ah)
  (fun hx=>by
    exact eu (chain [tF 29 ((t.ops.length:Int)<(t.ops.length:Int)) ae]<|.nil) ah) ak :fP 4 Tryz.f207 (Rq t 0) (.exit 0) ⟨46,true,[(1,.box 1 0)],[(1,.cells 25 [(iP t.ins),(jR t.ops),(jQ t.outs)])]⟩) .nil,.c (Hk true _ _ 235 [(.ref 3 fun j_=>[(iP t.ins),(jR t.ops),(jQ t.outs)].getD j_ .any)] (fun _=>false) (fun i hi=>aff t _ (h.out i hi) h8 AB) ae (fun _ _=>rfl):dM 134 [(jQ t.outs),(.fn 235 [(.ref 3 fun j_=>[(iP t.ins),(jR t.ops),(jQ t.outs)].getD j_ .any)])] _)]<|.nil) ah 
theorem ae0(t:mf)(k:Nat)(hk:k<t.ins+t.ops.length)(h8:t.ins<=8)(XP:t.ops.length<=200):dM 135 [(iP k),(.ref 3 fun j_=>[(iP t.ins),(jR t.ops),(jQ t.outs)].getD j_ .any)] (bP false):=by
 exact tr true Tryz.call135 Tryz.func135 (chain [tF 5 ((k:Int)<0) ae,eh ((t.ins:Int)+(t.ops.length:Int)) ae,tF 14 ((((t.ins+t.ops.length):Nat):Int)<=(k:Int)) ae]<|.nil) ah 
theorem ae2(x:Iv)(hx:x.Valid)(xa:x.all=false):dM 136 [(dQ x)] (bP false):=by
 obtain⟨w1,w2,w3⟩:=oJ hx xa;exact tr true Tryz.call136 Tryz.func136 (chain [tB 4 (xa:x.all=false),.c (lK _ af :dM 68 [(dP x.lo)] _),.c (lK _ af :dM 68 [(dP x.hi)] _),.c (gU _ _ af af :dM 37 [(dP x.lo),(dP x.hi)] _),tF 23 (0<(ew x.lo x.hi)) ae]<|.nil) ah 
theorem Jy(s:iV)(h:kU s):dM 82 [(gv s)] (bP true):=by
 have h8:=h.tape.ins;have AB:=h.tape.ops;have oG:=h.tape.outs;have s1:=h.s1;have s4:=h.s4;have ho:=h.outs;have hi:=h.ins;have p4:=h.p4;exact tr true Tryz.call82 Tryz.func82 (chain [tF 10 ((s.tape.ins:Int)<0) ae,tF 14 (8<(s.tape.ins:Int)) ae,tF 20 (200<(s.tape.ops.length:Int)) ae,tF 26 (200<(s.tape.outs.length:Int)) ae,.s (Sp.upto (Rm s) 0 s.tape.ops.length ae (fun x hx ic=>by
    have en:=h.tape.op x ae;exact eu (chain [tT 32 ((x:Int)<(s.tape.ops.length:Int)) ae,iX ((x:Int)) (s.tape.ops.length) ae,eh ((s.tape.ins:Int)+(x:Int)) ae,.c (aeW _ _ en:dM 133 [(qF (s.tape.ops.getD x fc)),(iP (((s.tape.ins+x):Nat):Int))] _),eh ((x:Int)+1) ae]<|.nil) ah)
  (fun hx=>by
    exact eu (chain [tF 32 ((s.tape.ops.length:Int)<(s.tape.ops.length:Int)) ae]<|.nil) ah) ak :fP 5 Tryz.f82 (Rm s 0) (.exit 0) ⟨85,true,[(3,.box 3 0),(1,.box 1 0)],[(3,.cells 25 [(iP s.tape.ins),(jR s.tape.ops),(jQ s.tape.outs)]),(1,.cells 28 [(iP s.tape.ins),(jR s.tape.ops),(jQ s.tape.outs),(iP s.eI),(dY s.params)])]⟩) .nil,.c (Hk true _ _ 135 [(.ref 3 fun j_=>[(iP s.tape.ins),(jR s.tape.ops),(jQ s.tape.outs)].getD j_ .any)] (fun _=>false) (fun i hi=>ae0 s.tape _ (h.tape.out i hi) h8 AB) ae (fun _ _=>rfl):dM 134 [(jQ s.tape.outs),(.fn 135 [(.ref 3 fun j_=>[(iP s.tape.ins),(jR s.tape.ops),(jQ s.tape.outs)].getD j_ .any)])] _),tF 50 ((s.eI:Int)<1) ae,tF 54 (4<(s.eI:Int)) ae,tB 62 (wG ae :((s.tape.outs.length:Int) != (s.eI:Int))=false),
  eh ((s.eI:Int)+(s.params.length:Int)) ae,tB 73 (wG ae :((s.tape.ins:Int) != (((s.eI+s.params.length):Nat):Int))=false),tF 79 (4<(s.params.length:Int)) ae,.c (wA true _ _ 136 [] (fun _=>false) (fun i hi=>ae2 _ (h.params i hi).1 (h.params i hi).2) ae (fun _ _=>rfl):dM 17 [(dY s.params),(.fn 136 [])] _)]<|.nil) ah 
theorem Kf(o:jh)(x y:Iv)(p:Nat)(hx:x.Valid)(hy:y.Valid)(r1:3<=o.kind)(r2:o.kind<=13)(r3:o.n<=16)(dW:8<=p)(dR:p<=512):dM 211 [(iP o.kind),(iP o.n),(dQ x),(dQ y),(iP p)] (dQ (ix o x y p)):=by
 exact tr true Tryz.call211 Tryz.func211 (.w ((o.kind:Int)=3)
  (fun k1=>chain [tB 13 (ax k1),.c (yy x y p af af ae ae)]<|rQ (dQ (fp x y p)) (dQ (ix o x y p)) (by unfold ix;simp[show o.kind=3 from ae]))
  (fun k1=>chain [tB 13 (aw k1)]<|.w ((o.kind:Int)=4)
   (fun k2=>chain [tB 19 (ax k2),.c (aad x y p af af ae ae)]<|rQ (dQ (BN x y p)) (dQ (ix o x y p)) (by unfold ix;simp[show ¬o.kind=3 from ae,show o.kind=4 from ae]))
   (fun k2=>chain [tB 19 (aw k2)]<|.w ((o.kind:Int)=5)
    (fun k3=>chain [tB 25 (ax k3),.c (AV x y p af af ae ae)]<|rQ (dQ (e9 x y p)) (dQ (ix o x y p)) (by unfold ix;simp[show ¬o.kind=3 from ae,show ¬o.kind=4 from ae,show o.kind=5 from ae]))
    (fun k3=>chain [tB 25 (aw k3)]<|.w ((o.kind:Int)=6)
     (fun k4=>chain [tB 31 (ax k4),.c (NW x y p af af ae ae)]<|rQ (dQ (gj x y p)) (dQ (ix o x y p)) (by unfold ix;simp[show ¬o.kind=3 from ae,show ¬o.kind=4 from ae,show ¬o.kind=5 from ae,show o.kind=6 from ae]))
     (fun k4=>chain [tB 31 (aw k4)]<|.w ((o.kind:Int)=7)
      (fun k5=>chain [tB 37 (ax k5),.c (N6 x af)]<|rQ (dQ (nG x)) (dQ (ix o x y p)) (by unfold ix;simp[show ¬o.kind=3 from ae,show ¬o.kind=4 from ae,show ¬o.kind=5 from ae,show ¬o.kind=6 from ae,show o.kind=7 from ae]))
      (fun k5=>chain [tB 37 (aw k5)]<|.w ((o.kind:Int)=8)
       (fun k6=>chain [tB 41 (ax k6),.c (Tn _ _ _ af ae ae ae :dM 241 [(dQ x),(iP o.n),(iP p)] _)]<|rQ (dQ (lE x o.n p)) (dQ (ix o x y p)) (by unfold ix;simp[show ¬o.kind=3 from ae,show ¬o.kind=4 from ae,show ¬o.kind=5 from ae,show ¬o.kind=6 from ae,show ¬o.kind=7 from ae,show o.kind=8 from ae]))
       (fun k6=>chain [tB 41 (aw k6)]<|.w ((o.kind:Int)=9)
        (fun k7=>chain [tB 47 (ax k7),.c (Wu _ af _ ae ae :dM 242 [(dQ x),(iP p)] _)]<|rQ (dQ (xD x p)) (dQ (ix o x y p)) (by unfold ix;simp[show ¬o.kind=3 from ae,show ¬o.kind=4 from ae,show ¬o.kind=5 from ae,show ¬o.kind=6 from ae,show ¬o.kind=7 from ae,show ¬o.kind=8 from ae,show o.kind=9 from ae]))
        (fun k7=>chain [tB 47 (aw k7)]<|.w ((o.kind:Int)=10)
         (fun k8=>chain [tB 52 (ax k8),.c (Ww _ af _ ae ae :dM 243 [(dQ x),(iP p)] _)]<|rQ (dQ (xE x p)) (dQ (ix o x y p)) (by unfold ix;simp[show ¬o.kind=3 from ae,show ¬o.kind=4 from ae,show ¬o.kind=5 from ae,show ¬o.kind=6 from ae,show ¬o.kind=7 from ae,show ¬o.kind=8 from ae,show ¬o.kind=9 from ae,show o.kind=10 from ae]))
         (fun k8=>chain [tB 52 (aw k8)]<|.w ((o.kind:Int)=11)
          (fun k9=>chain [tB 57 (ax k9),.c (Wy _ af _ ae ae :dM 244 [(dQ x),(iP p)] _)]<|rQ (dQ (xF x p)) (dQ (ix o x y p)) (by unfold ix;simp[show ¬o.kind=3 from ae,show ¬o.kind=4 from ae,show ¬o.kind=5 from ae,show ¬o.kind=6 from ae,show ¬o.kind=7 from ae,show ¬o.kind=8 from ae,show ¬o.kind=9 from ae,show ¬o.kind=10 from ae,show o.kind=11 from ae]))
          (fun k9=>chain [tB 57 (aw k9)]<|.w ((o.kind:Int)=12)
           (fun k10=>chain [tB 62 (ax k10),.c (Ws _ af _ ae ae :dM 245 [(dQ x),(iP p)] _)]<|rQ (dQ (xC x p)) (dQ (ix o x y p)) (by unfold ix;simp[show ¬o.kind=3 from ae,show ¬o.kind=4 from ae,show ¬o.kind=5 from ae,show ¬o.kind=6 from ae,show ¬o.kind=7 from ae,show ¬o.kind=8 from ae,show ¬o.kind=9 from ae,show ¬o.kind=10 from ae,show ¬o.kind=11 from ae,show o.kind=12 from ae]))
           (fun k10=>chain [tB 62 (aw k10)]<|.w ((o.kind:Int)=13)
            (fun k11=>chain [tB 67 (ax k11),.c (WA _ af _ ae ae :dM 246 [(dQ x),(iP p)] _)]<|rQ (dQ (xG x p)) (dQ (ix o x y p)) (by unfold ix;simp[show ¬o.kind=3 from ae,show ¬o.kind=4 from ae,show ¬o.kind=5 from ae,show ¬o.kind=6 from ae,show ¬o.kind=7 from ae,show ¬o.kind=8 from ae,show ¬o.kind=9 from ae,show ¬o.kind=10 from ae,show ¬o.kind=11 from ae,show ¬o.kind=12 from ae,show o.kind=13 from ae]))
            (fun k11=>.x ae)))))))))))) ah 
theorem TV{nl:Bool}{T n n' sz:Nat}{f g h:Nat->Nat->E}(hn:n=n')(hh:∀ i j,i<n->j<sz->g i j=h i j/\(h i j).nr 2=true):Bx.le (.row nl T (0+n) sz fun i j=>if i<0 then f i j else g (i-0) j) (.row nl T n' sz h):=
 .row ae fun i j hi hj=>by
  have kx:i<n:= ae ;simp only[aV,aL,dw];exact⟨.of_eq (hh i j kx hj).1,(hh i j kx hj).2⟩
theorem EX(r:List Iv)(h0:0<r.length)(hl:r.length<=1000):w7 28 [dY r] true 41 r.length 7 (fA r):=by
 exact trn Tryz.call28 Tryz.func28 (chain [.a ( ae :0<r.length),.bo,.a ( ae :(0+r.length)*88<=140737488355328)]<|.rb (TV rfl fun i j hi hj=>⟨rfl,yz _ _ hj⟩:Bx.le (.row true 41 (0+r.length) 7 (fun i_ j_=>if i_<0 then(fun i_ j_=>([]:List E).getD (i_*7+j_) (.v (.bool false))) i_ j_ else(E.mi (dY r)) (i_-0) j_)) (.row true 41 r.length 7 (fA r)))) ah 
theorem JG{T n n' x:Nat}{t:mf}{xs:List Iv}{p:Nat}{y:Iv}(hn:n=(fh t.ops xs p x).length)(pG:n'=(fh t.ops xs p (x+1)).length)(hy:pv (t.ops.getD x fc) (fh t.ops xs p x) p=y):
 Bx.le (.row true T (n+[y].length) 7 fun i j=>if i<n then fA (fh t.ops xs p x) i j else(E.mi (dY [y])) (i-n) j) (.row true T n' 7 (fA (fh t.ops xs p (x+1)))):=by
 subst pG hy;exact aam hn
theorem abv{o:jh}{m:Nat}(h:jz o m):o.n<=16:=by
 have:=h.n;split at this<;>omega
theorem afd(t:mf)(xs:List Iv)(p:Nat)(h:w9 t)(h1:1<=xs.length)(hx:xs.length=t.ins)(hv:iO xs)(dW:8<=p)(dR:p<=512):dM 173 [(u7 t),(dY xs),(iP p)] (dY (fh t.ops xs p t.ops.length)):=by
 have h8:=h.ins;have AB:=h.ops;exact tr true Tryz.call173 Tryz.func173 (chain [.c (Rr _ af :dM 207 [(u7 t)] _),tB 19 (wG hx:((xs.length:Int) != (t.ins:Int))=false),.cn (EX _ ae ae :w7 28 [(dY xs)] true 41 xs.length 7 (fA xs)),.s (Sp.upto (Rp t xs p) 0 t.ops.length ae (fun x hx ic=>by
    have en:=h.op x ae;have sc:=zh t.ops hv (show 1<=p by omega) (show p<=4096 by omega) x;have YW:=BX t.ops xs p x;have w1:=sc ((t.ops.getD x fc)).a;by_cases kj:((t.ops.getD x fc)).kind=1
    .have nT:((t.ops.getD x fc)).kind=1:=kj
     obtain⟨o1,o2,o3,mO⟩:=en.num nT;have vY:pv (t.ops.getD x fc) (fh t.ops xs p x) p=(nI (t.ops.getD x fc).cn (t.ops.getD x fc).cd p):=by unfold pv;rw[aC nT]
     have uC:=tG (nI (t.ops.getD x fc).cn (t.ops.getD x fc).cd p);exact eu (chain [tT 27 ((x:Int)<(t.ops.length:Int)) ae,iX ((x:Int)) (t.ops.length) ae,.c (PA _ ae :dM 209 [(iP ((t.ops.getD x fc).kind:Int))] _),tB 50 ( ag :((0:Int)==0)=true),.c (acM ((t.ops.getD x fc).cn) ((t.ops.getD x fc).cd) p af ae ae),.o 71 (.e (jf _):PV.le (.e (.sl true 1 7 fun i_ j_=>(ev (nI ((t.ops.getD x fc).cn) ((t.ops.getD x fc).cd) p)).getD (i_*7+j_) (.v (.bool false)))) (.e (dY [(nI ((t.ops.getD x fc).cn) ((t.ops.getD x fc).cd) p)]))),.a ( ae :((fh t.ops xs p x).length+[(nI ((t.ops.getD x fc).cn) ((t.ops.getD x fc).cd) p)].length)*88<=140737488355328),eh ((x:Int)+1) ae]<|.e (chain [.b 22 (JG rfl rfl vY:Bx.le (.row true 41 ((fh t.ops xs p x).length+[(nI ((t.ops.getD x fc).cn) ((t.ops.getD x fc).cd) p)].length) 7 (fun i_ j_=>if i_<(fh t.ops xs p x).length then(fA (fh t.ops xs p x)) i_ j_ else(E.mi (dY [(nI ((t.ops.getD x fc).cn) ((t.ops.getD x fc).cd) p)])) (i_-(fh t.ops xs p x).length) j_)) (.row true 41 ((fh t.ops xs p (x+1)).length) 7 (fA (fh t.ops xs p (x+1)))))]<|.nil)) ah 
    .by_cases hk:((t.ops.getD x fc)).kind<=6
     .have At:((t.ops.getD x fc)).kind≠1:=kj
      have nT:((t.ops.getD x fc)).kind<=6:=hk;have vY:pv (t.ops.getD x fc) (fh t.ops xs p x) p=(ix (t.ops.getD x fc) ((fh t.ops xs p x).getD ((t.ops.getD x fc).a) dV) ((fh t.ops xs p x).getD ((t.ops.getD x fc).b) dV) p):=by unfold pv E7;rw[aB At,aE nT];rfl
      obtain⟨o1,o2,o3,o4,o5,o6⟩:=en.bin At nT;have w2:=sc ((t.ops.getD x fc)).b;have o7:=en.yB;have uC:=tG (ix (t.ops.getD x fc) ((fh t.ops xs p x).getD ((t.ops.getD x fc).a) dV) ((fh t.ops xs p x).getD ((t.ops.getD x fc).b) dV) p);exact eu (chain [tT 27 ((x:Int)<(t.ops.length:Int)) ae,iX ((x:Int)) (t.ops.length) ae,.c (PB _ ae ae :dM 209 [(iP ((t.ops.getD x fc).kind:Int))] _),tB 50 ( ag :((2:Int)==0)=false),tB 56 ( ag :((2:Int)==1)=false),iX (((t.ops.getD x fc).a:Int)) ((fh t.ops xs p x).length) ae,.a ( ae :(t.ops.getD x fc).a<(fh t.ops xs p x).length),iX (((t.ops.getD x fc).b:Int)) ((fh t.ops xs p x).length) ae,.a ( ae :(t.ops.getD x fc).b<(fh t.ops xs p x).length),.c (Kf (t.ops.getD x fc) _ _ _ af af ae ae ae ae ae :dM 211 [(iP ((t.ops.getD x fc).kind:Int)),(iP ((t.ops.getD x fc).n:Int)),(dQ ((fh t.ops xs p x).getD (t.ops.getD x fc).a dV)),(dQ ((fh t.ops xs p x).getD (t.ops.getD x fc).b dV)),(iP p)] _),.o 71 (.e (jf _):PV.le (.e (.sl true 1 7 fun i_ j_=>(ev (ix (t.ops.getD x fc) ((fh t.ops xs p x).getD (t.ops.getD x fc).a dV) ((fh t.ops xs p x).getD (t.ops.getD x fc).b dV) p)).getD (i_*7+j_) (.v (.bool false)))) (.e (dY [(ix (t.ops.getD x fc) ((fh t.ops xs p x).getD (t.ops.getD x fc).a dV) ((fh t.ops xs p x).getD (t.ops.getD x fc).b dV) p)]))),.a ( ae :((fh t.ops xs p x).length+[(ix (t.ops.getD x fc) ((fh t.ops xs p x).getD (t.ops.getD x fc).a dV) ((fh t.ops xs p x).getD (t.ops.getD x fc).b dV) p)].length)*88<=140737488355328),
       eh ((x:Int)+1) ae]<|.e (chain [.b 22 (JG rfl rfl vY:Bx.le (.row true 41 ((fh t.ops xs p x).length+[(ix (t.ops.getD x fc) ((fh t.ops xs p x).getD (t.ops.getD x fc).a dV) ((fh t.ops xs p x).getD (t.ops.getD x fc).b dV) p)].length) 7 (fun i_ j_=>if i_<(fh t.ops xs p x).length then(fA (fh t.ops xs p x)) i_ j_ else(E.mi (dY [(ix (t.ops.getD x fc) ((fh t.ops xs p x).getD (t.ops.getD x fc).a dV) ((fh t.ops xs p x).getD (t.ops.getD x fc).b dV) p)])) (i_-(fh t.ops xs p x).length) j_)) (.row true 41 ((fh t.ops xs p (x+1)).length) 7 (fA (fh t.ops xs p (x+1)))))]<|.nil)) ah 
     .have At:((t.ops.getD x fc)).kind≠1:=kj
      have nT:¬((t.ops.getD x fc)).kind<=6:=hk;have vY:pv (t.ops.getD x fc) (fh t.ops xs p x) p=(ix (t.ops.getD x fc) ((fh t.ops xs p x).getD ((t.ops.getD x fc).a) dV) dV p):=by unfold pv E7;rw[aB At,aD nT];rfl
      have w2:=gZ;have o2:=en.St At;have o7:=en.yB;have o8:=abv en;have uC:=tG (ix (t.ops.getD x fc) ((fh t.ops xs p x).getD ((t.ops.getD x fc).a) dV) dV p);exact eu (chain [tT 27 ((x:Int)<(t.ops.length:Int)) ae,iX ((x:Int)) (t.ops.length) ae,.c (IE _ ae ae :dM 209 [(iP ((t.ops.getD x fc).kind:Int))] _),tB 50 ( ag :((1:Int)==0)=false),tB 56 ( ag :((1:Int)==1)=true),iX (((t.ops.getD x fc).a:Int)) ((fh t.ops xs p x).length) ae,.a ( ae :(t.ops.getD x fc).a<(fh t.ops xs p x).length),.o 66 (.e EG:PV.le (.e (.agg [(bP false),(.v (.slice none 0 0)),(iP 0),(bP false),(.v (.slice none 0 0)),(iP 0),(bP true)])) (.e (dQ dV))),.c (Kf (t.ops.getD x fc) _ _ _ af af ae ae ae ae ae :dM 211 [(iP ((t.ops.getD x fc).kind:Int)),(iP ((t.ops.getD x fc).n:Int)),(dQ ((fh t.ops xs p x).getD (t.ops.getD x fc).a dV)),(dQ dV),(iP p)] _),.o 71 (.e (jf _):PV.le (.e (.sl true 1 7 fun i_ j_=>(ev (ix (t.ops.getD x fc) ((fh t.ops xs p x).getD (t.ops.getD x fc).a dV) dV p)).getD (i_*7+j_) (.v (.bool false)))) (.e (dY [(ix (t.ops.getD x fc) ((fh t.ops xs p x).getD (t.ops.getD x fc).a dV) dV p)]))),.a ( ae :((fh t.ops xs p x).length+[(ix (t.ops.getD x fc) ((fh t.ops xs p x).getD (t.ops.getD x fc).a dV) dV p)].length)*88<=140737488355328),eh ((x:Int)+1) ae]<|.e (chain [.b 22 (JG rfl rfl vY:Bx.le (.row true 41 ((fh t.ops xs p x).length+[(ix (t.ops.getD x fc) ((fh t.ops xs p x).getD (t.ops.getD x fc).a dV) dV p)].length) 7 (fun i_ j_=>if i_<(fh t.ops xs p x).length then(fA (fh t.ops xs p x)) i_ j_ else(E.mi (dY [(ix (t.ops.getD x fc) ((fh t.ops xs p x).getD (t.ops.getD x fc).a dV) dV p)])) (i_-(fh t.ops xs p x).length) j_)) (.row true 41 ((fh t.ops xs p (x+1)).length) 7 (fA (fh t.ops xs p (x+1)))))]<|.nil)) ah)
  (fun hx=>by
    exact eu (chain [tF 27 ((t.ops.length:Int)<(t.ops.length:Int)) ae,.z 22]<|.e (chain [.o 7 (.e (wB aj):PV.le (.e (.sl true ((fh t.ops xs p t.ops.length).length) 7 (fA (fh t.ops xs p t.ops.length)))) (.e (dY (fh t.ops xs p t.ops.length))))]<|.nil)) ah) ak :fP 5 Tryz.f173 (Rp t xs p 0) (.exit 0) ⟨75,true,[(7,.e (dY (fh t.ops xs p t.ops.length)))],[]⟩) (chain [.b 22 (.of_eq rfl:Bx.le (.row true 41 xs.length 7 (fA xs)) (.row true 41 ((fh t.ops xs p 0).length) 7 (fA (fh t.ops xs p 0))))]<|.nil)]<|.nil) ah 
open Go.RowKit Fp Pu
def jL(m:List (List Iv)):Nat->List Iv
 | 0=>[]
 | k+1=>jL m k++m.getD k []
theorem Fo(m:List (List Iv))(k:Nat):(jL m (k+1)).length=(jL m k).length+(m.getD k []).length:=by simp[jL]
theorem aal{T n n':Nat}{xs r:List Iv}(hn:n=xs.length)(pG:n'=(xs++r).length):Bx.le (.row true T (n+r.length) 7 fun i j=>if i<n then fA xs i j else(E.mi (dY r)) (i-n) j) (.row true T n' 7 (fA (xs++r))):=by
 subst hn pG;refine .row aj fun i j hi hj=>⟨.of_eq ?_,yz _ _ hj⟩
 by_cases h:i<xs.length
 .rw [aC h]
  show(ev (xs.getD i dV)).getD j .any=(ev ((xs++r).getD i dV)).getD j .any;congr 2;simp[aF,du h]
 .rw [aB h]
  show(ev (r.getD (i-xs.length) dV)).getD j .any=(ev ((xs++r).getD i dV)).getD j .any;congr 2;simp[aF,dG (show xs.length<=i by omega)]
theorem OH(a b:List Iv):E.le (.sl true 2 1 fun i j=>[dY a,dY b].getD (i*1+j) (.v (.bool false))) (mF [a,b]):=.sl fun i j hi hj=>by
 obtain rfl:j=0:= ae ;obtain rfl|rfl:i=0\/i=1:= ae 
 all_goals exact⟨.refl _,rfl⟩
theorem adV{n:Nat}:E.le (.sl true n 1 fun k _=>.sl true ((fun _=>0) k) 7 ((fun _ _ _=>.any) k)) (mF (List.replicate n [])):=by
 have h:mF (List.replicate n []) = .sl true n 1 fun i _=>dY ((List.replicate n []).getD i []):=by unfold mF;rw[List.length_replicate]
 rw[h];refine .sl fun i j hi hj=>⟨?_,rfl⟩
 have e:(List.replicate n ([]:List Iv)).getD i []=[]:=by simp[aF,hi]
 rw[e];exact .sl fun q _ hq _=>absurd hq (aV _)
def KS(m:List (List Iv))(x:Nat):PS:=⟨36,true,[(11,.e (iP x)),(10,.e (iP m.length)),(9,.e (mF m)),(3,.e (iP ((jL m x).length:Int))),(0,.e (mF m))],[]⟩
def KT(m:List (List Iv))(x:Nat):PS:=⟨36,true,[(27,.e (iP x)),(26,.e (iP m.length)),(25,.e (mF m)),(6,.own 24)],[(24,.row true 41 ((jL m x).length) 7 (fA (jL m x)))]⟩
noncomputable def Mf(t:mf)(xs:List Iv)(p:Nat)(x:Nat):PS:=⟨91,true,[(43,.e (iP x)),(42,.e (iP 0)),(11,.own 41),(10,.e (dY (fh t.ops xs p t.ops.length))),(4,.box 4 0),(3,.e (iP p))],[(41,.rows true 26 41 t.outs.length 7 (fun _=>0) (fun _ _ _=>.any) .none),(4,.cells 25 [(iP t.ins),(jR t.ops),(jQ t.outs)])]⟩
noncomputable def Me(t:mf)(xs:List Iv)(p:Nat)(x:Nat):PS:=⟨91,true,[(16,.own 16),(77,.e (iP x)),(76,.e (iP t.outs.length)),(75,.e (jQ t.outs)),(11,.own 41),(10,.e (dY (fh t.ops xs p t.ops.length)))],[(16,.row true 41 x 7 (fA ((List.range x).map (fun j_=>(fh t.ops xs p t.ops.length).getD (t.outs.getD j_ 0) dV)))),(41,.rows true 26 41 t.outs.length 7 (fun _=>0) (fun _ _ _=>.any) .none)]⟩
theorem Vc(m:List (List Iv))(hl:m.length<=1000)(hb:∀ k,k<=m.length->(jL m k).length<=1000):dM 142 [(mF m)] (dY (jL m m.length)):=by
 have pD:=hb m.length (aG _);exact tr true Tryz.call142 Tryz.func142 (chain [.s (Sp.upto (KS m) 0 m.length ae (fun x hx ic=>by
    have eB:=hb (x+1) ae;rw[Fo]at eB;exact eu (chain [tT 12 ((x:Int)<(m.length:Int)) ae,iX ((x:Int)) (m.length) ae,eh (((jL m x).length:Int)+((m.getD x []).length:Int)) ae,tF 20 (((((jL m x).length+(m.getD x []).length):Nat):Int)<0) ae,eh ((x:Int)+1) ae]<|.e (chain [.o 3 (.int (by rw[Fo]):PV.le (.e (iP ((((jL m x).length+(m.getD x []).length):Nat):Int))) (.e (iP ((jL m (x+1)).length:Int))))]<|.nil)) ah)
  (fun hx=>by
    exact eu (chain [tF 12 ((m.length:Int)<(m.length:Int)) ae]<|.nil) ah) ak :fP 3 Tryz.f142 (KS m 0) (.exit 0) ⟨36,true,[(3,.e (iP ((jL m m.length).length:Int))),(0,.e (mF m))],[]⟩) (chain [.o 3 (.int rfl:PV.le (.e (iP 0)) (.e (iP ((jL m 0).length:Int))))]<|.nil),.cn (XF _ ae :w7 175 [(.v (.slice none 0 0)),(iP ((jL m m.length).length:Int))] true 41 0 7 (fA [])),.s (Sp.upto (KT m) 0 m.length ae (fun x hx ic=>by
    have eB:=hb (x+1) ae;rw[Fo]at eB;exact eu (chain [tT 28 ((x:Int)<(m.length:Int)) ae,iX ((x:Int)) (m.length) ae,.a ( ae :((jL m x).length+(m.getD x []).length)*88<=140737488355328),eh ((x:Int)+1) ae]<|.e (chain [.b 24 (aal rfl rfl:Bx.le (.row true 41 ((jL m x).length+(m.getD x []).length) 7 (fun i_ j_=>if i_<(jL m x).length then(fA (jL m x)) i_ j_ else(E.mi (dY (m.getD x []))) (i_-(jL m x).length) j_)) (.row true 41 ((jL m (x+1)).length) 7 (fA (jL m (x+1)))))]<|.nil)) ah)
  (fun hx=>by
    exact eu (chain [tF 28 ((m.length:Int)<(m.length:Int)) ae,.z 24]<|.e (chain [.o 6 (.e (wB aj):PV.le (.e (.sl true ((jL m m.length).length) 7 (fA (jL m m.length)))) (.e (dY (jL m m.length))))]<|.nil)) ah) ak :fP 11 Tryz.f142 (KT m 0) (.exit 2) ⟨36,true,[(6,.e (dY (jL m m.length)))],[]⟩) (chain [.b 24 (.of_eq rfl:Bx.le (.row true 41 0 7 (fA [])) (.row true 41 ((jL m 0).length) 7 (fA (jL m 0))))]<|.nil)]<|.nil) ah 
theorem K7(a b:List Iv)(ha:a.length<=400)(hb:b.length<=400):dM 142 [mF [a,b]] (dY (a++b)):=by
 have e1:jL [a,b] 1=a:=rfl;have e2:jL [a,b] 2=a++b:=rfl;have:=Vc [a,b] aj fun k hk=>by
  have hk:k<=2:=hk;rcases k with _|_|_|k
  .exact bq _
  .rw [e1];omega
  .rw [e2,bO];omega
  .omega
 rwa[show[a,b].length=2 from rfl,e2]at this
theorem F1(p:Int):dM 140 [(iP p)] (bP (im p)):=by
 exact tr true Tryz.call140 Tryz.func140 (.w (8<=p)
  (fun k1=>chain [tB 4 (aE k1)]<|rQ (bP (decide (p<=512))) (bP (im p)) (by unfold im;simp[k1]))
  (fun k1=>chain [tB 4 (aD k1)]<|rQ (bP false) (bP (im p)) (by unfold im;simp[k1]))) ah 
theorem WY(x:Iv)(hx:x.Valid):dM 208 [(dQ x)] (bP false):=by
 exact tr true Tryz.call208 Tryz.func208 (chain [.c (iS x af)]<|.nil) ah 
theorem WZ(t:mf)(xs:List Iv)(p:Nat)(h:w9 t)(h1:1<=xs.length)(hx:xs.length=t.ins)(hv:iO xs)(dW:8<=p)(dR:p<=512):dM 172 [(u7 t),(dY xs),(iP p)] (bP true):=by
 have h8:=h.ins;exact tr true Tryz.call172 Tryz.func172 (chain [.c (Rr t af),tB 14 (Bi hx:((xs.length:Int)==(t.ins:Int))=true),.c (F1 _:dM 140 [(iP p)] _),tB 18 (nf.2 ⟨ ae, ae⟩:(im (p:Int))=true),.c (wA true _ _ 208 [] (fun _=>false) (fun i hi=>WY _ (hv i)) ae (fun _ _=>rfl):dM 17 [(dY xs),(.fn 208 [])] _)]<|.nil) ah 
theorem WI(t:mf)(xs:List Iv)(p:Nat):(List.range t.outs.length).map (fun j=>(fh t.ops xs p t.ops.length).getD (t.outs.getD j 0) dV)=fC t xs p:=by
 unfold fC;apply agN;intro i;rw[bL,bL];by_cases hi:i<t.outs.length
 .rw [aM (by simpa using hi),aM hi]
  simp[aF,hi]
 .rw [bu (by simpa using hi),bu ae]
  rfl
theorem Mg(t:mf)(xs:List Iv)(p:Nat)(h:w9 t)(h1:1<=xs.length)(hx:xs.length=t.ins)(hv:iO xs)(dW:8<=p)(dR:p<=512):dM 141 [(u7 t),(dY xs),(iP 0),(iP p)] (.ef [dY (fC t xs p),mF (List.replicate t.outs.length [])]):=by
 have h8:=h.ins;have AB:=h.ops;have oG:=h.outs;exact tr true Tryz.call141 Tryz.func141 (chain [.c (WZ _ _ _ h h1 hx hv ae ae :dM 172 [(u7 t),(dY xs),(iP p)] _),tB 26 ( ag :(decide ((0:Int)<0))=false),tF 32 ((t.ins:Int)<0) ae,.c (afd t xs p h h1 hx hv ae ae),.a ( ae :0<=((t.outs.length:Int):Int)/\((t.outs.length:Int):Int)<=((t.outs.length:Int):Int)),.a ( ae :((24:Nat):Int)*(t.outs.length:Int)<=281474976710656/\((t.outs.length:Int):Int)<=9223372036854775807),.s (Sp.upto (Mf t xs p) 0 0 ae (fun x hx ic=>by
    exact absurd ic (aV _))
  (fun hx=>by
    exact eu (chain [tB 44 ( ag :(decide ((0:Int)<0))=false)]<|.nil) ah) ak :fP 6 Tryz.f141 (Mf t xs p 0) (.exit 0) ⟨91,true,[(11,.own 41),(10,.e (dY (fh t.ops xs p t.ops.length))),(4,.box 4 0)],[(41,.rows true 26 41 t.outs.length 7 (fun _=>0) (fun _ _ _=>.any) .none),(4,.cells 25 [(iP t.ins),(jR t.ops),(jQ t.outs)])]⟩) .nil,.y 16 16 true 41 7 (fA ((List.range 0).map (fun j_=>(fh t.ops xs p t.ops.length).getD (t.outs.getD j_ 0) dV))),.s (Sp.upto (Me t xs p) 0 t.outs.length ae (fun x hx ic=>by
    have hot:=h.out x ae;have YW:=BX t.ops xs p t.ops.length;have uC:=tG ((fh t.ops xs p t.ops.length).getD (t.outs.getD x 0) dV);exact eu (chain [tT 78 ((x:Int)<(t.outs.length:Int)) ae,iX ((x:Int)) (t.outs.length) ae,iX ((t.outs.getD x 0:Int)) ((fh t.ops xs p t.ops.length).length) ae,.o 86 (.e (jf _):PV.le (.e (.sl true 1 7 fun i_ j_=>(ev ((fh t.ops xs p t.ops.length).getD (t.outs.getD x 0) dV)).getD (i_*7+j_) (.v (.bool false)))) (.e (dY [((fh t.ops xs p t.ops.length).getD (t.outs.getD x 0) dV)]))),.a ( ae :(x+[((fh t.ops xs p t.ops.length).getD (t.outs.getD x 0) dV)].length)*88<=140737488355328),eh ((x:Int)+1) ae]<|.e (chain [.b 16 (yA rfl rfl rfl:Bx.le (.row true 41 (x+[((fh t.ops xs p t.ops.length).getD (t.outs.getD x 0) dV)].length) 7 (fun i_ j_=>if i_<x then(fA ((List.range x).map (fun j_=>(fh t.ops xs p t.ops.length).getD (t.outs.getD j_ 0) dV))) i_ j_ else(E.mi (dY [((fh t.ops xs p t.ops.length).getD (t.outs.getD x 0) dV)])) (i_-x) j_)) (.row true 41 (x+1) 7 (fA ((List.range (x+1)).map (fun j_=>(fh t.ops xs p t.ops.length).getD (t.outs.getD j_ 0) dV)))))]<|.nil)) ah)
  (fun hx=>by
    exact eu (chain [tF 78 ((t.outs.length:Int)<(t.outs.length:Int)) ae,.z 16]<|.e (chain [.o 16 (.e (wB aj):PV.le (.e (.sl true t.outs.length 7 (fA ((List.range t.outs.length).map (fun j_=>(fh t.ops xs p t.ops.length).getD (t.outs.getD j_ 0) dV))))) (.e (dY ((List.range t.outs.length).map (fun j_=>(fh t.ops xs p t.ops.length).getD (t.outs.getD j_ 0) dV)))))]<|.nil)) ah) ak :fP 17 Tryz.f141 (Me t xs p 0) (.exit 4) ⟨91,true,[(16,.e (dY ((List.range t.outs.length).map (fun j_=>(fh t.ops xs p t.ops.length).getD (t.outs.getD j_ 0) dV)))),(11,.own 41)],[(41,.rows true 26 41 t.outs.length 7 (fun _=>0) (fun _ _ _=>.any) .none)]⟩) .nil]<|rR (.ef [dY (fC t xs p),mF (List.replicate t.outs.length [])]) (.ef (.cons (.of_eq (by rw[WI])) (.cons adV .nil)):E.le (.ef [(dY ((List.range t.outs.length).map (fun j_=>(fh t.ops xs p t.ops.length).getD (t.outs.getD j_ 0) dV))),(.sl true t.outs.length 1 fun k_ _=>.sl true ((fun _=>0) k_) 7 ((fun _ _ _=>.any) k_))]) (.ef [dY (fC t xs p),mF (List.replicate t.outs.length [])]))) ah 
theorem WU(x:Iv):dM 171 [(dQ x)] (bP x.all):=by
 exact tr true Tryz.call171 Tryz.func171 (.nil) ah 
theorem Ag(l:List Iv)(hl:l.length<=1000):dM 138 [(dY l)] (bP (hasAll l)):=by
 exact tr true Tryz.call138 Tryz.func138 (chain [.c (Ht true _ _ 171 [] (fun i=>(l.getD i dV).all) (fun i hi=>WU _) ae :dM 17 [(dY l),(.fn 171 [])] _)]<|.nil) ah 
theorem Mb(x:Iv)(hx:x.Valid):dM 139 [(dQ x)] (bP false):=by
 exact tr true Tryz.call139 Tryz.func139 (chain [.c (iS x af)]<|.nil) ah 
theorem adx(n:Nat)(hn:n<=1000):dM 143 [mF (List.replicate n []),.fn 138 []] (bP false):=by
 have e:∀ i,i<n->(List.replicate n ([]:List Iv)).getD i []=[]:=fun i hi=>by simp[aF,hi]
 refine adQ true _ _ 138 [] (fun _=>false) (fun i hi=>?_) (by simpa using by omega) (fun _ _=>rfl);have kx:i<n:=by simpa using hi
 show dM 138 [dY ((List.replicate n []).getD i [])] _;rw[e i kx];exact Ag [] aj 
theorem Pn{l:List Iv}(h:nk l):hasAll l=false:=by
 unfold hasAll;rw[dv];intro i hi;rw[(h i (bt.1 hi)).2];decide
theorem Cq{s:iV}{b:List Iv}(h:kU s)(hb:gR s.eI b):w9 s.tape/\1<=(b++s.params).length/\(b++s.params).length=s.tape.ins/\iO (b++s.params):=by
 have h1:=h.s1;have h2:=h.ins;have h3:=hb.len;refine⟨h.tape,?_,?_,hb.ok.qM.append h.params.qM⟩
 .rw [bO];omega
 .rw [bO];omega
theorem WV(s:iV)(b:List Iv)(p:Nat)(h:kU s)(hb:gR s.eI b)(dW:8<=p)(dR:p<=512)(hn:hasAll (fC s.tape (b++s.params) p)=true):dM 85 [(gv s),(dY b),(iP 0),(iP p)] (.ef [.v (.slice none 0 0),.v (.slice none 0 0),iP 11]):=by
 have s4:=h.s4;have p4:=h.p4;have Av:=hb.len;have oG:=h.tape.outs;have vQ:=Pn hb.ok;have xV:=xI s.tape (b++s.params) p;obtain⟨f1,f2,f3,f4⟩:=Cq h hb;exact tr true Tryz.call85 Tryz.func85 (chain [.c (Jy s af),tB 21 (wG hb.len:((b.length:Int) != (s.eI:Int))=false),.c (Ag _ ae :dM 138 [(dY b)] _),tB 25 (vQ:(hasAll b)=false),.c (wA true _ _ 139 [] (fun _=>false) (fun i hi=>Mb _ (hb.ok i hi).1) ae (fun _ _=>rfl):dM 17 [(dY b),(.fn 139 [])] _),.c (F1 _:dM 140 [(iP p)] _),tB 32 (nf.2 ⟨ ae, ae⟩:(im (p:Int))=true),.o 40 (.e (OH _ _):PV.le (.e (.sl true 2 1 fun i_ j_=>[(dY b),(dY s.params)].getD (i_*1+j_) (.v (.bool false)))) (.e (mF [b,s.params]))),.c (K7 b s.params ae ae :dM 142 [(mF [b,s.params])] _),.c (Mg _ _ _ f1 f2 f3 f4 ae ae :dM 141 [(u7 s.tape),(dY (b++s.params)),(iP 0),(iP p)] _),.c (Ag _ ae :dM 138 [(dY (fC s.tape (b++s.params) p))] _),tB 48 (hn:(hasAll (fC s.tape (b++s.params) p))=true)]<|.nil) ah 
theorem WW(s:iV)(b:List Iv)(p:Nat)(h:kU s)(hb:gR s.eI b)(dW:8<=p)(dR:p<=512)(hn:hasAll (fC s.tape (b++s.params) p)=false):dM 85 [(gv s),(dY b),(iP 0),(iP p)] (.ef [dY (fC s.tape (b++s.params) p),mF (List.replicate s.tape.outs.length []),iP 0]):=by
 have s4:=h.s4;have p4:=h.p4;have Av:=hb.len;have oG:=h.tape.outs;have vQ:=Pn hb.ok;have xV:=xI s.tape (b++s.params) p;obtain⟨f1,f2,f3,f4⟩:=Cq h hb;exact tr true Tryz.call85 Tryz.func85 (chain [.c (Jy s af),tB 21 (wG hb.len:((b.length:Int) != (s.eI:Int))=false),.c (Ag _ ae :dM 138 [(dY b)] _),tB 25 (vQ:(hasAll b)=false),.c (wA true _ _ 139 [] (fun _=>false) (fun i hi=>Mb _ (hb.ok i hi).1) ae (fun _ _=>rfl):dM 17 [(dY b),(.fn 139 [])] _),.c (F1 _:dM 140 [(iP p)] _),tB 32 (nf.2 ⟨ ae, ae⟩:(im (p:Int))=true),.o 40 (.e (OH _ _):PV.le (.e (.sl true 2 1 fun i_ j_=>[(dY b),(dY s.params)].getD (i_*1+j_) (.v (.bool false)))) (.e (mF [b,s.params]))),.c (K7 b s.params ae ae :dM 142 [(mF [b,s.params])] _),.c (Mg _ _ _ f1 f2 f3 f4 ae ae :dM 141 [(u7 s.tape),(dY (b++s.params)),(iP 0),(iP p)] _),.c (Ag _ ae :dM 138 [(dY (fC s.tape (b++s.params) p))] _),tB 48 (hn:(hasAll (fC s.tape (b++s.params) p))=false),.c (adx _ ae :dM 143 [(mF (List.replicate s.tape.outs.length [])),(.fn 138 [])] _)]<|.nil) ah 
theorem WX(s:iV)(b:List Iv)(p:Nat)(h:kU s)(hb:gR s.eI b)(dW:8<=p)(dR:p<=512)(hn:hasAll (fC s.tape (b++s.params) p)=true):dM 43 [(gv s),(dY b),(iP p)] (.ef [.v (.slice none 0 0),iP 11]):=by
 exact tr true Tryz.call43 Tryz.func43 (chain [.c (WV _ _ _ h hb dW dR hn:dM 85 [(gv s),(dY b),(iP 0),(iP p)] _)]<|.nil) ah 
theorem Mc(s:iV)(b:List Iv)(p:Nat)(h:kU s)(hb:gR s.eI b)(dW:8<=p)(dR:p<=512)(hn:hasAll (fC s.tape (b++s.params) p)=false):dM 43 [(gv s),(dY b),(iP p)] (.ef [dY (fC s.tape (b++s.params) p),iP 0]):=by
 exact tr true Tryz.call43 Tryz.func43 (chain [.c (WW _ _ _ h hb dW dR hn:dM 85 [(gv s),(dY b),(iP 0),(iP p)] _)]<|.nil) ah 
open Go.RowKit Fp Pu
noncomputable def NL(s:iV)(x:List Iv)(d:Dy)(b:List Iv)(p:Nat)(N:Nat)(i:Nat):PS:=⟨66,true,[(14,.own 14),(42,.e (iP i)),(41,.e (iP x.length)),(13,.box 13 0),(11,.e (dY (fC s.tape (b++s.params) p))),(1,.e (dY x)),(4,.e (iP p))],[(14,.row true 41 i 7 (fA ((List.range i).map (fun j_=>(fp (x.getD j_ dV) (e9 (gK d) ((fC s.tape (b++s.params) p).getD j_ dV) p) p))))),(13,.cells 41 ([(bP false),(.v (.slice none 0 0)),(iP 0)]++fD d++[(bP false)]))]⟩
noncomputable def NM(s:iV)(x:List Iv)(d:Dy)(b:List Iv)(p:Nat)(i:Nat):PS:=⟨66,true,[(14,.own 14),(42,.e (iP i)),(41,.e (iP x.length)),(13,.box 13 0),(11,.e (dY (fC s.tape (b++s.params) p))),(1,.e (dY x)),(4,.e (iP p))],[(14,.row true 41 i 7 (fA ((List.range i).map (fun j_=>(fp (x.getD j_ dV) (e9 (gK d) ((fC s.tape (b++s.params) p).getD j_ dV) p) p))))),(13,.cells 41 ([(bP false),(.v (.slice none 0 0)),(iP 0)]++fD d++[(bP false)]))]⟩
def LF(s:iV)(x:List Iv)(d:Dy)(p:Nat)(N:Nat)(k:Nat):PS:=⟨55,true,[(22,.e (iP k)),(10,.oX 64 [(.box 5),(.box 4),(.box 6),(.box 7)]),(7,.box 7 0),(6,.box 6 0),(5,.box 5 0),(4,.box 4 0)],[(7,.cells 3 [(iP p)]),(6,.cells 31 (fD d)),(5,.cells 26 [(dY x)]),(4,.cells 28 [(iP s.tape.ins),(jR s.tape.ops),(jQ s.tape.outs),(iP s.eI),(dY s.params)])]⟩
theorem Tv(x:Iv)(hx:x.Valid)(xa:x.all=false):dM 83 [(dQ x)] (bP false):=by
 exact tr true Tryz.call83 Tryz.func83 (chain [.c (iS x af),tB 8 (xa:x.all=false)]<|.nil) ah 
theorem Cn(s:iV)(b:List Iv)(hb:gR s.eI b)(h4:s.eI<=4):dM 42 [(gv s),(dY b)] (bP true):=by
 have Av:=hb.len;exact tr true Tryz.call42 Tryz.func42 (chain [tB 9 (Bi hb.len:((b.length:Int)==(s.eI:Int))=true),.c (wA true _ _ 83 [] (fun _=>false) (fun i hi=>Tv _ (hb.ok i hi).1 (hb.ok i hi).2) ae (fun _ _=>rfl):dM 17 [(dY b),(.fn 83 [])] _)]<|.nil) ah 
theorem CP(s:iV)(x:List Iv)(d:Dy)(p:Nat)(h:kU s)(hx:gR s.eI x)(hd:d.Valid)(h0:0<d.sign)(dW:8<=p)(dR:p<=512):dM 41 [(gv s),(dY x),(dP d),(iP p)] (bP true):=by
 have s4:=h.s4;exact tr true Tryz.call41 Tryz.func41 (chain [.c (Jy s af),.c (Cn _ _ hx ae :dM 42 [(gv s),(dY x)] _),.c (lK _ af :dM 68 [(dP d)] _),.c (jN _ af :dM 35 [(dP d)] _),tB 23 (aE h0),tT 27 (8<=(p:Int)) ae,tT 31 ((p:Int)<=512) ae]<|.nil) ah 
theorem ZK(s:iV)(x:List Iv)(d:Dy)(b:List Iv)(p:Nat)(h:kU s)(hx:gR s.eI x)(hd:d.Valid)(h0:0<d.sign)(hb:gR s.eI b)(dW:8<=p)(dR:p<=512)(hn:hasAll (fC s.tape (b++s.params) p)=true):dM 13 [(gv s),(dY x),(dP d),(dY b),(iP p)] (.v (.slice none 0 0)):=by
 have s4:=h.s4;exact tr true Tryz.call13 Tryz.func13 (chain [.c (CP _ _ _ _ h hx hd h0 dW dR:dM 41 [(gv s),(dY x),(dP d),(iP p)] _),.c (Cn _ _ hb s4:dM 42 [(gv s),(dY b)] _),.c (WX s b p h hb dW dR hn),tB 37 ( ag :((11:Int) != 0)=true)]<|.nil) ah 
theorem Jt(d:Dy):E.le (.agg ([bP false,.v (.slice none 0 0),iP 0]++fD d++[bP false])) (dQ (gK d)):=
 .agg (.cons (.refl _) (.cons yM (.cons (.refl _) (.cons (.refl _) (.cons (.refl _) (.cons (.refl _) (.cons (.refl _) .nil)))))))
theorem ZL(s:iV)(x:List Iv)(d:Dy)(b:List Iv)(p:Nat)(h:kU s)(hx:gR s.eI x)(hd:d.Valid)(h0:0<d.sign)(hb:gR s.eI b)(dW:8<=p)(dR:p<=512)(hn:hasAll (fC s.tape (b++s.params) p)=false)(N:Nat)(ki:N<x.length)(eC:∀ i,i<N->(fp (x.getD i dV) (e9 (gK d) ((fC s.tape (b++s.params) p).getD i dV) p) p).all=false)(hN:(fp (x.getD N dV) (e9 (gK d) ((fC s.tape (b++s.params) p).getD N dV) p) p).all=true):dM 13 [(gv s),(dY x),(dP d),(dY b),(iP p)] (.v (.slice none 0 0)):=by
 have s4:=h.s4;have s7:=hx.len;have oG:=h.outs;have xV:=xI s.tape (b++s.params) p;obtain⟨f1,f2,f3,f4⟩:=Cq h hb;have fv:=Ad s.tape f4 (show 1<=p by omega) (show p<=4096 by omega);have hq:0<d.q:=(kp d).1.1 h0;have Zo:=BM hd (aZ hq);exact tr true Tryz.call13 Tryz.func13 (chain [.c (CP _ _ _ _ h hx hd h0 dW dR:dM 41 [(gv s),(dY x),(dP d),(iP p)] _),.c (Cn _ _ hb s4:dM 42 [(gv s),(dY b)] _),.c (Mc s b p h hb dW dR hn),tB 37 ( ag :((0:Int) != 0)=false),.y 14 14 true 41 7 (fA ((List.range 0).map (fun j_=>(fp (x.getD j_ dV) (e9 (gK d) ((fC s.tape (b++s.params) p).getD j_ dV) p) p)))),.s (Sp.upto (NL s x d b p N) 0 N ae (fun i hi mN=>by
    have w1:=(hx.ok i ae).1;have w2:=fv i;have w3:=nF (gK d) ((fC s.tape (b++s.params) p).getD i dV) (show 1<=p by omega) (show p<=4096 by omega);have uC:=tG (fp (x.getD i dV) (e9 (gK d) ((fC s.tape (b++s.params) p).getD i dV) p) p);exact eu (chain [tT 43 ((i:Int)<(x.length:Int)) ae,iX ((i:Int)) (x.length) ae,.o 49 (.e (Jt d):PV.le (.e (.agg ([(bP false),(.v (.slice none 0 0)),(iP 0)]++fD d++[(bP false)]))) (.e (dQ (gK d)))),iX ((i:Int)) ((fC s.tape (b++s.params) p).length) ae,.c (AV (gK d) ((fC s.tape (b++s.params) p).getD i dV) p af af ae ae),.c (yy (x.getD i dV) (e9 (gK d) ((fC s.tape (b++s.params) p).getD i dV) p) p af af ae ae),tB 59 (eC i ae :(fp (x.getD i dV) (e9 (gK d) ((fC s.tape (b++s.params) p).getD i dV) p) p).all=false),.o 62 (.e (jf _):PV.le (.e (.sl true 1 7 fun i_ j_=>(ev (fp (x.getD i dV) (e9 (gK d) ((fC s.tape (b++s.params) p).getD i dV) p) p)).getD (i_*7+j_) (.v (.bool false)))) (.e (dY [(fp (x.getD i dV) (e9 (gK d) ((fC s.tape (b++s.params) p).getD i dV) p) p)]))),.a ( ae :(i+[(fp (x.getD i dV) (e9 (gK d) ((fC s.tape (b++s.params) p).getD i dV) p) p)].length)*88<=140737488355328),eh ((i:Int)+1) ae]<|.e (chain [.b 14 (yA rfl rfl rfl:Bx.le (.row true 41 (i+[(fp (x.getD i dV) (e9 (gK d) ((fC s.tape (b++s.params) p).getD i dV) p) p)].length) 7 (fun i_ j_=>if i_<i then(fA ((List.range i).map (fun j_=>(fp (x.getD j_ dV) (e9 (gK d) ((fC s.tape (b++s.params) p).getD j_ dV) p) p)))) i_ j_ else(E.mi (dY [(fp (x.getD i dV) (e9 (gK d) ((fC s.tape (b++s.params) p).getD i dV) p) p)])) (i_-i) j_)) (.row true 41 (i+1) 7 (fA ((List.range (i+1)).map (fun j_=>(fp (x.getD j_ dV) (e9 (gK d) ((fC s.tape (b++s.params) p).getD j_ dV) p) p))))))]<|.nil)) ah)
  (fun hi=>by
    have w1:=(hx.ok N ae).1;have w2:=fv N;have w3:=nF (gK d) ((fC s.tape (b++s.params) p).getD N dV) (show 1<=p by omega) (show p<=4096 by omega);exact eu (chain [tT 43 ((N:Int)<(x.length:Int)) ae,iX ((N:Int)) (x.length) ae,.o 49 (.e (Jt d):PV.le (.e (.agg ([(bP false),(.v (.slice none 0 0)),(iP 0)]++fD d++[(bP false)]))) (.e (dQ (gK d)))),iX ((N:Int)) ((fC s.tape (b++s.params) p).length) ae,.c (AV (gK d) ((fC s.tape (b++s.params) p).getD N dV) p af af ae ae),.c (yy (x.getD N dV) (e9 (gK d) ((fC s.tape (b++s.params) p).getD N dV) p) p af af ae ae),tB 59 (hN:(fp (x.getD N dV) (e9 (gK d) ((fC s.tape (b++s.params) p).getD N dV) p) p).all=true)]<|.nil) ah) ak :fP 9 Tryz.f13 (NL s x d b p N 0) .ret ⟨66,true,[(10,.e (.v (.slice none 0 0)))],[]⟩) .nil]<|.nil) ah 
theorem ZM(s:iV)(x:List Iv)(d:Dy)(b:List Iv)(p:Nat)(h:kU s)(hx:gR s.eI x)(hd:d.Valid)(h0:0<d.sign)(hb:gR s.eI b)(dW:8<=p)(dR:p<=512)(hn:hasAll (fC s.tape (b++s.params) p)=false)(eC:∀ i,i<x.length->(fp (x.getD i dV) (e9 (gK d) ((fC s.tape (b++s.params) p).getD i dV) p) p).all=false):dM 13 [(gv s),(dY x),(dP d),(dY b),(iP p)] (dY ((List.range x.length).map (fun j_=>(fp (x.getD j_ dV) (e9 (gK d) ((fC s.tape (b++s.params) p).getD j_ dV) p) p)))):=by
 have s4:=h.s4;have s7:=hx.len;have oG:=h.outs;have xV:=xI s.tape (b++s.params) p;obtain⟨f1,f2,f3,f4⟩:=Cq h hb;have fv:=Ad s.tape f4 (show 1<=p by omega) (show p<=4096 by omega);have hq:0<d.q:=(kp d).1.1 h0;have Zo:=BM hd (aZ hq);exact tr true Tryz.call13 Tryz.func13 (chain [.c (CP _ _ _ _ h hx hd h0 dW dR:dM 41 [(gv s),(dY x),(dP d),(iP p)] _),.c (Cn _ _ hb s4:dM 42 [(gv s),(dY b)] _),.c (Mc s b p h hb dW dR hn),tB 37 ( ag :((0:Int) != 0)=false),.y 14 14 true 41 7 (fA ((List.range 0).map (fun j_=>(fp (x.getD j_ dV) (e9 (gK d) ((fC s.tape (b++s.params) p).getD j_ dV) p) p)))),.s (Sp.upto (NM s x d b p) 0 x.length ae (fun i hi mN=>by
    have w1:=(hx.ok i ae).1;have w2:=fv i;have w3:=nF (gK d) ((fC s.tape (b++s.params) p).getD i dV) (show 1<=p by omega) (show p<=4096 by omega);have uC:=tG (fp (x.getD i dV) (e9 (gK d) ((fC s.tape (b++s.params) p).getD i dV) p) p);exact eu (chain [tT 43 ((i:Int)<(x.length:Int)) ae,iX ((i:Int)) (x.length) ae,.o 49 (.e (Jt d):PV.le (.e (.agg ([(bP false),(.v (.slice none 0 0)),(iP 0)]++fD d++[(bP false)]))) (.e (dQ (gK d)))),iX ((i:Int)) ((fC s.tape (b++s.params) p).length) ae,.c (AV (gK d) ((fC s.tape (b++s.params) p).getD i dV) p af af ae ae),.c (yy (x.getD i dV) (e9 (gK d) ((fC s.tape (b++s.params) p).getD i dV) p) p af af ae ae),tB 59 (eC i ae :(fp (x.getD i dV) (e9 (gK d) ((fC s.tape (b++s.params) p).getD i dV) p) p).all=false),.o 62 (.e (jf _):PV.le (.e (.sl true 1 7 fun i_ j_=>(ev (fp (x.getD i dV) (e9 (gK d) ((fC s.tape (b++s.params) p).getD i dV) p) p)).getD (i_*7+j_) (.v (.bool false)))) (.e (dY [(fp (x.getD i dV) (e9 (gK d) ((fC s.tape (b++s.params) p).getD i dV) p) p)]))),.a ( ae :(i+[(fp (x.getD i dV) (e9 (gK d) ((fC s.tape (b++s.params) p).getD i dV) p) p)].length)*88<=140737488355328),eh ((i:Int)+1) ae]<|.e (chain [.b 14 (yA rfl rfl rfl:Bx.le (.row true 41 (i+[(fp (x.getD i dV) (e9 (gK d) ((fC s.tape (b++s.params) p).getD i dV) p) p)].length) 7 (fun i_ j_=>if i_<i then(fA ((List.range i).map (fun j_=>(fp (x.getD j_ dV) (e9 (gK d) ((fC s.tape (b++s.params) p).getD j_ dV) p) p)))) i_ j_ else(E.mi (dY [(fp (x.getD i dV) (e9 (gK d) ((fC s.tape (b++s.params) p).getD i dV) p) p)])) (i_-i) j_)) (.row true 41 (i+1) 7 (fA ((List.range (i+1)).map (fun j_=>(fp (x.getD j_ dV) (e9 (gK d) ((fC s.tape (b++s.params) p).getD j_ dV) p) p))))))]<|.nil)) ah)
  (fun hi=>by
    exact eu (chain [tF 43 ((x.length:Int)<(x.length:Int)) ae,.z 14]<|.e (chain [.o 14 (.e (wB aj):PV.le (.e (.sl true x.length 7 (fA ((List.range x.length).map (fun j_=>(fp (x.getD j_ dV) (e9 (gK d) ((fC s.tape (b++s.params) p).getD j_ dV) p) p)))))) (.e (dY ((List.range x.length).map (fun j_=>(fp (x.getD j_ dV) (e9 (gK d) ((fC s.tape (b++s.params) p).getD j_ dV) p) p))))))]<|.nil)) ah) ak :fP 9 Tryz.f13 (NM s x d b p 0) (.exit 0) ⟨66,true,[(14,.e (dY ((List.range x.length).map (fun j_=>(fp (x.getD j_ dV) (e9 (gK d) ((fC s.tape (b++s.params) p).getD j_ dV) p) p)))))],[]⟩) .nil]<|.nil) ah 
theorem Dx(s:iV)(x:List Iv)(d:Dy)(b:List Iv)(p:Nat)(h:kU s)(hx:gR s.eI x)(hd:d.Valid)(h0:0<d.sign)(hb:gR s.eI b)(dW:8<=p)(dR:p<=512):dM 13 [(gv s),(dY x),(dP d),(dY b),(iP p)] (dY (iW s x d b p)):=by
 unfold iW;cases hn:hasAll (fC s.tape (b++s.params) p)with
 | true=>rw[aC rfl];exact(ZK s x d b p h hx hd h0 hb dW dR hn).fu (.nil _ _ _)
 | false=>
  rw[aB ag];cases ha:hasAll (pJ x (fC s.tape (b++s.params) p) d p)with
  | true=>
   rw[aC rfl];unfold hasAll at ha;rw[cX,qw]at ha;obtain⟨i,hi,iR⟩:=ha;obtain⟨N,h1,h2,h3⟩:=oK (p:=fun i=>((pJ x (fC s.tape (b++s.params) p) d p).getD i dV).all) ⟨i,bt.1 hi,iR⟩;refine(ZL s x d b p h hx hd h0 hb dW dR hn N h1 (fun i hi=>?_) ?_).fu (.nil _ _ _)
   .have:=h3 i hi;rw[wk (show i<x.length by omega)]at this;exact this
   .rw [wk h1]at h2;exact h2
  | false=>
   rw[aB ag];refine ZM s x d b p h hx hd h0 hb dW dR hn fun i hi=>?_
   unfold hasAll at ha;rw[dv,qw]at ha;have:=ha i (bt.2 hi);rw[wk hi]at this;exact ay this
theorem Y8(s:iV)(x:List Iv)(d:Dy)(b:List Iv)(p:Nat)(h:kU s)(hx:gR s.eI x)(hd:d.Valid)(h0:0<d.sign)(hb:gR s.eI b)(dW:8<=p)(dR:p<=512)(hi:(iW s x d b p)=[]):dM 23 [(gv s),(dY x),(dP d),(dY b),(iP p)] (bP false):=by
 exact tr true Tryz.call23 Tryz.func23 (chain [.c (Dx _ _ _ _ _ h hx hd h0 hb dW dR:dM 13 [(gv s),(dY x),(dP d),(dY b),(iP p)] _),tB 20 (by rw[hi];rfl:(decide (0<((iW s x d b p).length:Int)))=false)]<|.nil) ah 
theorem zI{n:Nat}{b:List Iv}(h:gR n b)(h1:1<=n)(h4:n<=4):1<=b.length/\b.length<=4/\nk b:=⟨by rw[h.len];exact h1,by rw[h.len];exact h4,h.ok⟩
theorem Y9(s:iV)(x:List Iv)(d:Dy)(b:List Iv)(p:Nat)(h:kU s)(hx:gR s.eI x)(hd:d.Valid)(h0:0<d.sign)(hb:gR s.eI b)(dW:8<=p)(dR:p<=512)(hi:(iW s x d b p)≠[]):dM 23 [(gv s),(dY x),(dP d),(dY b),(iP p)] (bP (nc x b&&nc (iW s x d b p) b)):=by
 have s1:=h.s1;have s4:=h.s4;obtain⟨x1,x4,xo⟩:=zI hx s1 s4;obtain⟨b1,b4,bo⟩:=zI hb s1 s4;have s7:=hx.len;have Av:=hb.len;have r8:=AT hx (show 1<=p by omega) (show p<=4096 by omega) hi;obtain⟨i1,i4,io⟩:=zI r8 s1 s4;have hli:=r8.len;exact tr true Tryz.call23 Tryz.func23 (chain [.c (Dx _ _ _ _ _ h hx hd h0 hb dW dR:dM 13 [(gv s),(dY x),(dP d),(dY b),(iP p)] _),tT 20 (0<((iW s x d b p).length:Int)) ae,.c (Cr x b ae ae ae af af)]<|.w (nc x b=true)
  (fun k1=>chain [tB 24 (k1),.c (Cr (iW s x d b p) b ae ae ae af af)]<|rQ (bP (nc (iW s x d b p) b)) (bP (nc x b&&nc (iW s x d b p) b)) (by simp[k1]))
  (fun k1=>chain [tB 24 (ay k1)]<|rQ (bP false) (bP (nc x b&&nc (iW s x d b p) b)) (by simp[k1]))) ah 
theorem ri(s:iV)(x:List Iv)(d:Dy)(b:List Iv)(p:Nat)(h:kU s)(hx:gR s.eI x)(hd:d.Valid)(h0:0<d.sign)(hb:gR s.eI b)(dW:8<=p)(dR:p<=512):dM 23 [(gv s),(dY x),(dP d),(dY b),(iP p)] (bP (oF s x d b p)):=by
 unfold oF;by_cases hi:(iW s x d b p)=[]
 .have:=Y8 s x d b p h hx hd h0 hb dW dR hi
  rwa[hi,show(!([]:List Iv).isEmpty&&(nc x b&&nc [] b))=false from rfl]
 .have:=Y9 s x d b p h hx hd h0 hb dW dR hi
  have e:((iW s x d b p)).isEmpty=false:=by
   cases q:(iW s x d b p)with
   | nil=>exact absurd q hi
   | cons _ _=>rfl
  rwa[e,cV,agT]
theorem afq(k:Int)(h1:-100<=k)(h2:k<=100):dM 36 [dP ⟨false,1,0⟩,iP k] (.ef [dP (jG k),iP 0]):=by
 have:=E4 ⟨false,1,0⟩ k yQ ae ae;have e:canon false 1 (0+k)=jG k:=by rw[Int.zero_add];exact KP k
 have e2:fS (canon false 1 (0+k))=jG k:=by rw[e];exact vu (JD h1 h2)
 have e3:iJ (canon false 1 (0+k))=0:=by rw[e];exact Cw (JD h1 h2)
 change dM 36 [dP ⟨false,1,0⟩,iP k] (.ef [dP (fS (canon false 1 (0+k))),iP (iJ (canon false 1 (0+k)))])at this;rwa[e2,e3]at this
theorem XD(x:List Iv)(d:Dy):(Ai x d==0)=oB x d:=by
 unfold Ai;cases oB x d<;>rfl
theorem Mm(x:List Iv)(k:Int)(x1:1<=x.length)(x8:x.length<=8)(hx:nk x)(k1:-100<=k)(k2:k<=100):dM 65 [(dY x),(iP k)] (.ef [dY (mJ x (jG k)),bP (oB x (jG k))]):=by
 have v:=RJ k1 k2;have sg:=RH k;exact tr true Tryz.call65 Tryz.func65 (chain [.c (ju _ ae :dM 113 [(iP 1)] _),.c (afq _ ae ae :dM 36 [(dP (er 1)),(iP k)] _),tB 16 ( ag :((0:Int) != 0)=false),.c (TP _ _ ae ae af af af :dM 114 [(dY x),(dP (jG k))] _)]<|rR (.ef [dY (mJ x (jG k)),bP (oB x (jG k))]) (.ef (.cons (.refl _) (.cons (.of_eq (by rw[XD])) .nil)):E.le (.ef [(dY (mJ x (jG k))),(bP ((Ai x (jG k))==0))]) (.ef [dY (mJ x (jG k)),bP (oB x (jG k))]))) ah 
theorem SJ(s:iV)(x:List Iv)(d:Dy)(p:Nat)(h:kU s)(hx:gR s.eI x)(hd:d.Valid)(h0:0<d.sign)(dW:8<=p)(dR:p<=512)(k:Int)(k1:-100<=k)(k2:k<=100)(hg:(oB x (jG k))=false):dM 64 [(iP k),(.ref 1 fun j_=>[(dY x)].getD j_ .any),(.ref 5 fun j_=>[(iP s.tape.ins),(jR s.tape.ops),(jQ s.tape.outs),(iP s.eI),(dY s.params)].getD j_ .any),(.ref 3 fun j_=>[(bP d.neg),(dO (dN d.m)),(iP d.e)].getD j_ .any),(.ref 1 fun j_=>[(iP p)].getD j_ .any)] (.ef [dY (mJ x (jG k)),bP false]):=by
 have s1:=h.s1;have s4:=h.s4;obtain⟨x1,x4,xo⟩:=zI hx s1 s4;exact tr true Tryz.call64 Tryz.func64 (chain [.c (Mm _ _ ae ae xo ae ae :dM 65 [(dY x),(iP k)] _),tB 15 (hg:(oB x (jG k))=false)]<|.nil) ah 
theorem SK(s:iV)(x:List Iv)(d:Dy)(p:Nat)(h:kU s)(hx:gR s.eI x)(hd:d.Valid)(h0:0<d.sign)(dW:8<=p)(dR:p<=512)(k:Int)(k1:-100<=k)(k2:k<=100)(hg:(oB x (jG k))=true):dM 64 [(iP k),(.ref 1 fun j_=>[(dY x)].getD j_ .any),(.ref 5 fun j_=>[(iP s.tape.ins),(jR s.tape.ops),(jQ s.tape.outs),(iP s.eI),(dY s.params)].getD j_ .any),(.ref 3 fun j_=>[(bP d.neg),(dO (dN d.m)),(iP d.e)].getD j_ .any),(.ref 1 fun j_=>[(iP p)].getD j_ .any)] (.ef [dY (mJ x (jG k)),bP (oF s x d (mJ x (jG k)) p)]):=by
 have s1:=h.s1;have s4:=h.s4;obtain⟨x1,x4,xo⟩:=zI hx s1 s4;have hb:=XE hx (RJ k1 k2) (aen (RH k)) hg;exact tr true Tryz.call64 Tryz.func64 (chain [.c (Mm _ _ ae ae xo ae ae :dM 65 [(dY x),(iP k)] _),tB 15 (hg:(oB x (jG k))=true),.c (ri _ _ _ _ _ h hx hd h0 hb dW dR:dM 23 [(gv s),(dY x),(dP d),(dY (mJ x (jG k))),(iP p)] _)]<|.nil) ah 
theorem Km(s:iV)(x:List Iv)(d:Dy)(p:Nat)(h:kU s)(hx:gR s.eI x)(hd:d.Valid)(h0:0<d.sign)(dW:8<=p)(dR:p<=512)(k:Int)(k1:-100<=k)(k2:k<=100):dM 64 [(iP k),(.ref 1 fun j_=>[(dY x)].getD j_ .any),(.ref 5 fun j_=>[(iP s.tape.ins),(jR s.tape.ops),(jQ s.tape.outs),(iP s.eI),(dY s.params)].getD j_ .any),(.ref 3 fun j_=>[(bP d.neg),(dO (dN d.m)),(iP d.e)].getD j_ .any),(.ref 1 fun j_=>[(iP p)].getD j_ .any)] (.ef [dY (mJ x (jG k)),bP (sL s x d p k)]):=by
 unfold sL;cases hg:oB x (jG k)with
 | false=>exact SJ s x d p h hx hd h0 dW dR k k1 k2 hg
 | true=>exact SK s x d p h hx hd h0 dW dR k k1 k2 hg
theorem VS(s:iV)(x:List Iv)(d:Dy)(p:Nat)(h:kU s)(hx:gR s.eI x)(hd:d.Valid)(h0:0<d.sign)(dW:8<=p)(dR:p<=512)(N:Nat)(ki:N<24)(eC:∀ k:Nat,k<N->sL s x d p ((k:Int)-20)=false)(hN:sL s x d p ((N:Int)-20)=true):dM 26 [(gv s),(dY x),(dP d),(iP p)] (.ef [dY (mJ x (jG ((N:Int)-20))),iP 0]):=by
 exact tr true Tryz.call26 Tryz.func26 (chain [.c (CP _ _ _ _ h hx hd h0 dW dR:dM 41 [(gv s),(dY x),(dP d),(iP p)] _),.s (Sp.upto (LF s x d p N) 0 N ae (fun k hk YY=>by
    exact eu (chain [tT 23 ((k:Int)<24) ae,eh ((k:Int)-20) ae,.c (Km _ _ _ _ h hx hd h0 dW dR _ ae ae :dM 64 [(iP ((k:Int)-20)),(.ref 1 fun j_=>[(dY x)].getD j_ .any),(.ref 5 fun j_=>[(iP s.tape.ins),(jR s.tape.ops),(jQ s.tape.outs),(iP s.eI),(dY s.params)].getD j_ .any),(.ref 3 fun j_=>[(bP d.neg),(dO (dN d.m)),(iP d.e)].getD j_ .any),(.ref 1 fun j_=>[(iP p)].getD j_ .any)] _),tB 31 (eC k ae :(sL s x d p ((k:Int)-20))=false),eh ((k:Int)+1) ae]<|.nil) ah)
  (fun hk=>by
    exact eu (chain [tT 23 ((N:Int)<24) ae,eh ((N:Int)-20) ae,.c (Km _ _ _ _ h hx hd h0 dW dR _ ae ae :dM 64 [(iP ((N:Int)-20)),(.ref 1 fun j_=>[(dY x)].getD j_ .any),(.ref 5 fun j_=>[(iP s.tape.ins),(jR s.tape.ops),(jQ s.tape.outs),(iP s.eI),(dY s.params)].getD j_ .any),(.ref 3 fun j_=>[(bP d.neg),(dO (dN d.m)),(iP d.e)].getD j_ .any),(.ref 1 fun j_=>[(iP p)].getD j_ .any)] _),tB 31 (hN:(sL s x d p ((N:Int)-20))=true)]<|.nil) ah) ak :fP 5 Tryz.f26 (LF s x d p N 0) .ret ⟨55,true,[(9,.e (iP 0)),(8,.e (dY (mJ x (jG ((N:Int)-20)))))],[]⟩) .nil]<|.nil) ah 
open Go.RowKit Fp Pu
open Go.RowKit Fp Pu
structure jt where
 kind:Int
 a:Int
 b:Int
 n:Int
 cn:Int
 cd:Int
structure fF where
 ins:Int
 ops:List jt
 outs:List Int
 eI:Int
 params:List RI
def eG:jt:=⟨0,0,0,0,0,0⟩
def tL(o:jt):List E:=[iP o.kind,iP o.a,iP o.b,iP o.n,iP o.cn,iP o.cd]
def QB(o:jt):E:=.agg (tL o)
def fZ(l:List jt):E:=.sl true l.length 6 fun i j=>(tL (l.getD i eG)).getD j .any
def gl(l:List Int):E:=.sl true l.length 1 fun i _=>iP (l.getD i 0)
def Jh(s:fF):List E:=[iP s.ins,fZ s.ops,gl s.outs,iP s.eI,gO s.params]
def jS(s:fF):E:=.agg (Jh s)
structure jt.Good(o:jt):Prop where
 kind:gI .i64 o.kind
 a:gI .i64 o.a
 b:gI .i64 o.b
 n:gI .i64 o.n
 cn:gI .i64 o.cn
 cd:gI .i64 o.cd
structure fF.Good(s:fF):Prop where
 ins:gI .i64 s.ins
 ops:∀ i,(s.ops.getD i eG).Good
 outs:∀ i,gI .i64 (s.outs.getD i 0)
 eI:gI .i64 s.eI
 params:∀ i,(s.params.getD i gQ).Good
structure fF.Small(s:fF):Prop where
 ops:s.ops.length<=1000
 outs:s.outs.length<=1000
 params:s.params.length<=1000
def eP(o:jt)(m:Int):Bool:=
 if o.kind=1 then jb o.cn o.cd&&decide (o.a=0/\o.b=0/\o.n=0)
 else if 3<=o.kind/\o.kind<=6 then decide (o.cn=0/\o.cd=0/\0<=o.a/\o.a<m/\0<=o.b/\o.b<m/\o.n=0)
 else if o.kind=8 then decide (o.cn=0/\o.cd=0/\0<=o.a/\o.a<m/\o.b=0/\0<=o.n/\o.n<=16)
 else if o.kind=7\/9<=o.kind/\o.kind<=13 then decide (o.cn=0/\o.cd=0/\0<=o.a/\o.a<m/\o.b=0/\o.n=0)
 else false
def Ed(s:fF):Bool:=(List.range s.ops.length).all fun i=>eP (s.ops.getD i eG) (s.ins+(i:Int))
def tH(s:fF)(k:Int):Bool:=decide (0<=k/\k<s.ins+(s.ops.length:Int))
def rA(s:fF):Bool:=(List.range s.outs.length).all fun i=>tH s (s.outs.getD i 0)
noncomputable def kP(x:RI):Bool:=okB x && !x.all
noncomputable def BF(s:fF):Bool:=(List.range s.params.length).all fun i=>kP (s.params.getD i gQ)
noncomputable def od(s:fF):Bool:=decide (0<=s.ins/\s.ins<=8/\s.ops.length<=200/\s.outs.length<=200)&&Ed s&&rA s
 && decide (1<=s.eI/\s.eI<=4/\(s.outs.length:Int)=s.eI/\s.ins=s.eI+(s.params.length:Int)/\s.params.length<=4)&&BF s
noncomputable def oV(n:Int)(b:List RI):Bool:=decide ((b.length:Int)=n)&&(List.range b.length).all fun i=>kP (b.getD i gQ)
noncomputable def Ec(d:RD):Bool:=@decide d.Ok (Classical.propDecidable _)
theorem Ja{d:RD}:Ec d=true↔d.Ok:=@ahl _ (Classical.propDecidable _)
noncomputable def kK(s:fF)(x:List RI)(h:RD)(p:Int):Bool:=od s&&oV s.eI x&&Ec h&&decide (0<h.dy.sign)&&decide (8<=p/\p<=512)
theorem Cf{n:Nat}{f:Nat->Bool}(h:¬(List.range n).all f=true):∃ N,N<n/\(!f N)=true/\∀ k,k<N->(!f k)=false:=by
 refine oK ?_;apply bh;intro q;apply h;refine bg.2 fun i hi=>?_
 cases hf:f i with
 | true=>rfl
 | false=>exact absurd ⟨i,bt.1 hi,by rw[hf];rfl⟩ q
theorem Kd{n:Nat}{f:Nat->Bool}:((List.range n).any fun i=>!f i) = !((List.range n).all f):=by
 rw[c9];simp
def jt.v(o:jt):jh:=⟨o.kind.toNat,o.a.toNat,o.b.toNat,o.n.toNat,o.cn,o.cd⟩
def fF.v(s:fF):iV:=⟨⟨s.ins.toNat,s.ops.map jt.v,s.outs.map Int.toNat⟩,s.eI.toNat,s.params.map RI.iv⟩
theorem jz.of{k a b n m:Nat}{cn cd:Int}(k3:k=1\/3<=k)(yB:k<=13)(ha:k=1->a=0)(C1:¬k=1->a<m)(hb:3<=k/\k<=6->b<m)(jm:¬(3<=k/\k<=6)->b=0)
 (hn:k=8->n<=16) (pG:¬k=8->n=0) (hc:k=1->jb cn cd=true) (Gt:¬k=1->cn=0/\cd=0):jz ⟨k,a,b,n,cn,cd⟩ m:=by
 refine⟨k3,yB,?_,?_,?_,?_⟩
 .show if k=1 then a=0 else a<m
  split<;>simp_all
 .show if 3<=k/\k<=6 then b<m else b=0
  split
  .rename_i h;exact hb h
  .rename_i h;exact jm h
 .show if k=8 then n<=16 else n=0
  split
  .rename_i h;exact hn h
  .rename_i h;exact pG h
 .show if k=1 then jb cn cd=true else cn=0/\cd=0
  split
  .rename_i h;exact hc h
  .rename_i h;exact Gt h
theorem adJ{o:jt}{m:Nat}(h:eP o (m:Int)=true):jz o.v m/\0<=o.kind/\0<=o.a/\0<=o.b/\0<=o.n:=by
 obtain⟨k,a,b,n,cn,cd⟩:=o;unfold eP at h;simp only at h;show jz ⟨k.toNat,a.toNat,b.toNat,n.toNat,cn,cd⟩ m/\0<=k/\0<=a/\0<=b/\0<=n;split at h
 .rename_i hk
  rw[aX,bF]at h;obtain⟨hr,h1,h2,h3⟩:=h;exact⟨jz.of ae ae ae ae ae ae ae ae (fun _=>hr) ae, ae, ae, ae, ae⟩
 .rename_i kj
  split at h
  .rename_i hk
   have h:=bV h;exact⟨jz.of ae ae ae ae ae ae ae ae ae ae, ae, ae, ae, ae⟩
  .split at h
   .rename_i hk
    have h:=bV h;exact⟨jz.of ae ae ae ae ae ae ae ae ae ae, ae, ae, ae, ae⟩
   .split at h
    .rename_i qn hk
     have h:=bV h;exact⟨jz.of ae ae ae ae ae ae ae ae ae ae, ae, ae, ae, ae⟩
    .cases h
theorem adL{o:jt}(h1:0<=o.kind)(h2:0<=o.a)(h3:0<=o.b)(h4:0<=o.n):DW o.v=tL o:=by
 obtain⟨k,a,b,n,cn,cd⟩:=o;simp only[DW,tL,jt.v]at *
 rw[dC h1,dC h2,dC h3,dC h4]
theorem adY{s:fF}(g:s.Good)(h:od s=true):kU s.v/\jS s=gv s.v:=by
 unfold od at h;simp only[aX,bF]at h;obtain⟨⟨⟨⟨⟨i0,i8,l1,l2⟩,ho⟩,hu⟩,s1,s4,e1,e2,p4⟩,hp⟩:=h;have ho:=bg.1 ho;have hu:=bg.1 hu;have hp:=bg.1 hp;have opAt:∀ i,i<s.ops.length->(s.ops.map jt.v).getD i fc=(s.ops.getD i eG).v:=fun i hi=>by simp[aF,hi]
 have ouAt:∀ i,i<s.outs.length->(s.outs.map Int.toNat).getD i 0=(s.outs.getD i 0).toNat:=fun i hi=>by simp[aF,hi]
 have paAt:∀ i,i<s.params.length->(s.params.map RI.iv).getD i dV=(s.params.getD i gQ).iv:=fun i hi=>by simp[aF,hi]
 have op:∀ i,i<s.ops.length->jz (s.ops.getD i eG).v (s.ins.toNat+i)/\0<=(s.ops.getD i eG).kind/\0<=(s.ops.getD i eG).a/\0<=(s.ops.getD i eG).b/\0<=(s.ops.getD i eG).n:=fun i hi=>by
  have:=ho i (bt.2 hi);exact adJ (by rwa[show((s.ins.toNat+i:Nat):Int)=s.ins+(i:Int)by omega])
 have ou:∀ i,i<s.outs.length->0<=s.outs.getD i 0/\s.outs.getD i 0<s.ins+(s.ops.length:Int):=fun i hi=>bV (hu i (bt.2 hi))
 have pa:∀ i,i<s.params.length->(s.params.getD i gQ).Ok/\(s.params.getD i gQ).all=false:=fun i hi=>by
  have:=hp i (bt.2 hi);unfold kP at this;rw[aX]at this;exact⟨tD.1 this.1,by simpa using this.2⟩
 refine⟨⟨⟨?_,?_,?_,?_,?_⟩,?_,?_,?_,?_,?_,?_⟩,?_⟩
 .show s.ins.toNat<=8;omega
 .show (s.ops.map jt.v).length<=200;rw[bX];exact l1
 .show (s.outs.map Int.toNat).length<=200;rw[bX];exact l2
 .intro i hi
  have hi:i<s.ops.length:=by simpa[fF.v]using hi
  show jz ((s.ops.map jt.v).getD i fc) (s.ins.toNat+i);rw[opAt i hi];exact(op i hi).1
 .intro i hi
  have hi:i<s.outs.length:=by simpa[fF.v]using hi
  show(s.outs.map Int.toNat).getD i 0<s.ins.toNat+(s.ops.map jt.v).length;rw[ouAt i hi,bX];have:=ou i hi;omega
 .show 1<=s.eI.toNat;omega
 .show s.eI.toNat<=4;omega
 .show (s.outs.map Int.toNat).length=s.eI.toNat;rw[bX];omega
 .show s.ins.toNat=s.eI.toNat+(s.params.map RI.iv).length;rw[bX];omega
 .show (s.params.map RI.iv).length<=4;rw[bX];exact p4
 .intro i hi
  have hi:i<s.params.length:=by simpa[fF.v]using hi
  show((s.params.map RI.iv).getD i dV).Valid/\((s.params.map RI.iv).getD i dV).all=false;rw[paAt i hi];exact⟨(pa i hi).1.valid,(pa i hi).2⟩
 .have e1:iP s.ins=iP (s.ins.toNat:Int):=by rw[dC i0]
  have e2:iP s.eI=iP (s.eI.toNat:Int):=by rw[dC (show 0<=s.eI by omega)]
  have e3:fZ s.ops=jR (s.ops.map jt.v):=by
   unfold fZ jR;rw[bX];congr 1;funext i j;by_cases hi:i<s.ops.length
   .rw [opAt i hi]
    obtain⟨_,h1,h2,h3,h4⟩:=op i hi;rw[adL h1 h2 h3 h4]
   .have a1:s.ops.getD i eG=eG:=by rw[aF,bu ae];rfl
    have a2:(s.ops.map jt.v).getD i fc=fc:=by rw[aF,bu (by rw[bX];omega)];rfl
    rw[a1,a2];rfl
  have e4:gl s.outs=jQ (s.outs.map Int.toNat):=by
   unfold gl jQ;rw[bX];congr 1;funext i j;by_cases hi:i<s.outs.length
   .rw [ouAt i hi,dC (ou i hi).1]
   .rw [aF,bu ae,aF (l:=s.outs.map Int.toNat),bu (by rw[bX];omega)]
    rfl
  have e5:gO s.params=dY (s.params.map RI.iv):=by
   rw[<-Hu];congr 1;apply agN;intro i;unfold uV;rw[bL,bL];by_cases hi:i<s.params.length
   .have h1:=(pa i hi).1
    have g1:=g.params i;rw[aM hi];rw[aF,aM hi]at h1 g1;exact congrArg some (RI.Ok.eq (x:=s.params[i]) h1 g1).symm
   .rw [bu ae];rfl
  show E.agg [iP s.ins,fZ s.ops,gl s.outs,iP s.eI,gO s.params]=_;rw[e1,e2,e3,e4,e5];rfl
end Go.Proofs.YtdgnpeddgdclhaaGreatDoor
