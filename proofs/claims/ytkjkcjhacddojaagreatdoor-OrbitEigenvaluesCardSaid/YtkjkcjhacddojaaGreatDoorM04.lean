/- Lemmas that the last file uses. -/
import Derived.Test.YtkjkcjhacddojaaGreatDoorM03
import Derived.MapKept
import Derived.DeepKeys
set_option linter.unusedSimpArgs false
set_option linter.unusedVariables false
set_option linter.defProp false
set_option maxHeartbeats 4000000
open Go.Proofs.Tryz
namespace Go.Proofs.YtkjkcjhacddojaaGreatDoor
open Go.RowKit Fp Pu
def xJ(m n:Nat)(h1:(gV m).length<=256)(h2:n<=65536)(h3:(gV (m*2^n)).length<=256):gU 410 [gW (gV m),iP n] (gW (gV (m*2^n))):=
 ak call410 func410 (af [ag [gW (gV m),iP n] (Rp _ _ aD aC aD)]) 
def uj(m n:Nat)(h1:(gV m).length<=256)(h2:n<=65536):gU 411 [gW (gV m),iP n] (gW (gV (m/2^n))):=
 ak call411 func411 (af [ag [gW (gV m),iP n] (KD _ _ aD aC)]) 
def Il(m:Nat)(z:Int)(h1:(gV m).length<=256)(h2:0<=z)(h3:z<=65536)(h4:(gV (m*2^z.toNat)).length<=256):gU 410 [gW (gV m),iP z] (gW (gV (m*2^z.toNat))):=by
 have:=xJ m z.toNat h1 aC h4;rwa[show(z.toNat:Int)=z by omega]at this
def Wd(m:Nat)(z:Int)(h1:(gV m).length<=256)(h2:0<=z)(h3:z<=65536):gU 411 [gW (gV m),iP z] (gW (gV (m/2^z.toNat))):=by
 have:=uj m z.toNat h1 aC;rwa[show(z.toNat:Int)=z by omega]at this
def kE{m k:Nat}(h:m<2^k)(hk:k<=8192):(gV m).length<=256:=nA (bj (kV.2 h) hk)
def ri{n:Nat}(h:n<4294967296):(gV n).length<=256:=kE (k:=32) h aE 
def aaE(n:Nat):(iK n).neg=false/\0<=(iK n).e/\(iK n).m*2^(iK n).e.toNat=n/\(iK n).m<=n:=by
 by_cases h:n=0
 .subst h;decide
 .have e1:(iK (n:Int))=canon false n 0:=Aa n;have e2:canon false n 0=⟨false,n/2^jq n,(jq n:Int)⟩:=by unfold canon;rw[aY h];simp
  rw[e1,e2];refine⟨rfl,Int.natCast_nonneg _,?_,bU _ _⟩;show n/2^jq n*2^(jq n:Int).toNat=n;rw[fm];exact CE h
def Io(n:Nat)(h:n<4294967296):gU 412 [iP n] (.agg [bP false,gW (gV n)]):=by
 obtain⟨p1,p2,p3,p4⟩:=aaE n;have hv:=F6 n h;have he:=hv.exp;have z1:=hv.gV;have z2:(gV ((iK n).m*2^(Int.toNat (iK n).e))).length<=256:=by rw[p3];exact ri h
 exact ak call412 func412 (ae [.c (Ie n aC),ag [gW (gV ((iK (n:Int)).m)),iP ((iK (n:Int)).e)] (Il _ _ aD aC aC aD)]<|rQ (.agg [bP ((iK (n:Int)).neg),gW (gV (((iK (n:Int)).m)*2^(Int.toNat ((iK (n:Int)).e))))]) (.agg [bP false,gW (gV n)]) (by rw[p1,p3])) 
def Vx(m:Nat):((ib m:Int)==0)=decide (m=0):=by
 by_cases h:m=0
 .subst h;rw[qO];rfl
 .have:=np h;rw[bg h];exact nk aC 
def Bb(a:Bool×Nat)(ha:(gV a.2).length<=256):gU 417 [.agg [bP a.1,gW (gV a.2)]] (bP (decide (a.2=0))):=
 ak call417 func417 (ae [ag [gW (gV a.2)] (qT _ aC)]<|rQ (bP ((ib a.2:Int)==0)) (bP (decide (a.2=0))) (by rw[Vx])) 
def ur(a:Bool×Nat):gU 407 [.agg [bP a.1,gW (gV a.2)]] (.agg [bP (!a.1),gW (gV a.2)]):=
 ak call407 func407 (.nil) 
def Yp(a:Bool×Nat)(ha:(gV a.2).length<=256)(b:Bool×Nat)(hb:(gV b.2).length<=256)(h:a.1=b.1)(hs:(gV (a.2+b.2)).length<=256):gU 416 [.agg [bP a.1,gW (gV a.2)],.agg [bP b.1,gW (gV b.2)]] (.agg [bP a.1,gW (gV (a.2+b.2))]):=
 ak call416 func416 (af [ah 13 (a.1==b.1) (by rw[h];simp),ag [gW (gV a.2),gW (gV b.2)] (Gh _ _ aD aD aD)]) 
def Yn(a:Bool×Nat)(ha:(gV a.2).length<=256)(b:Bool×Nat)(hb:(gV b.2).length<=256)(h:¬a.1=b.1)(h2:a.2<b.2):gU 416 [.agg [bP a.1,gW (gV a.2)],.agg [bP b.1,gW (gV b.2)]] (.agg [bP b.1,gW (gV (b.2-a.2))]):=
 ak call416 func416 (af [ai 13 (a.1==b.1) (by simpa using h),ag [gW (gV a.2),gW (gV b.2)] (xh _ _ aC aC),tT 31 ((jZ a.2 b.2)<0) (A4.2 h2),ag [gW (gV b.2),gW (gV a.2)] (DN _ _ aD aD aC)]) 
def Yo(a:Bool×Nat)(ha:(gV a.2).length<=256)(b:Bool×Nat)(hb:(gV b.2).length<=256)(h:¬a.1=b.1)(h2:¬a.2<b.2):gU 416 [.agg [bP a.1,gW (gV a.2)],.agg [bP b.1,gW (gV b.2)]] (.agg [bP a.1,gW (gV (a.2-b.2))]):=
 ak call416 func416 (af [ai 13 (a.1==b.1) (by simpa using h),ag [gW (gV a.2),gW (gV b.2)] (xh _ _ aC aC),tF 31 ((jZ a.2 b.2)<0) λq=>h2 (A4.1 q),ag [gW (gV a.2),gW (gV b.2)] (DN _ _ aD aD aC)]) 
def q8(a:Bool×Nat)(ha:(gV a.2).length<=256)(b:Bool×Nat)(hb:(gV b.2).length<=256)(hs:(gV (a.2+b.2)).length<=256):gU 416 [.agg [bP a.1,gW (gV a.2)],.agg [bP b.1,gW (gV b.2)]] (.agg [bP ((jh a b).1),gW (gV ((jh a b).2))]):=by
 unfold jh;split
 .rename_i h;exact Yp a ha b hb h hs
 .rename_i h;split
  .rename_i h2;exact Yn a ha b hb h h2
  .rename_i h2;exact Yo a ha b hb h h2
def I3(a:Bool×Nat)(ha:(gV a.2).length<=256)(c:Bool×Nat)(hc:(gV c.2).length<=256)(b:Nat)(hb:b<=65536)(hm:(gV (a.2*c.2)).length<=256):gU 413 [.agg [bP a.1,gW (gV a.2)],.agg [bP c.1,gW (gV c.2)],iP b] (.agg [bP (a.1 != c.1),gW (gV (a.2*c.2/2^b))]):=
 ak call413 func413 (af [ag [gW (gV a.2),gW (gV c.2)] (xj _ _ aD aD aD),.c (uj (a.2*c.2) b aD aC)]) 
def CL(a:Bool×Nat)(ha:(gV a.2).length<=256)(n:Nat)(h0:n≠0)(hn:n<4294967296):gU 419 [.agg [bP a.1,gW (gV a.2)],iP n] (.agg [bP a.1,gW (gV (a.2/n))]):=by
 have zn:(gV n).length<=256:=ri hn;exact ak call419 func419 (af [.c (Io n aC),ag [gW (gV a.2),gW (gV n)] (xi _ _ aC aC aD)]) 
def pM(d:Dy)(b:Nat):Bool×Nat:=(d.neg,if d.e+(b:Int)<0 then d.m/2^(0-(d.e+(b:Int))).toNat else d.m*2^(d.e+(b:Int)).toNat)
def VW(d:Dy)(hd:d.gX)(b:Nat)(hb:b<=30000)(h:d.e+(b:Int)<0):gU 415 [gZ d,iP b] (.agg [bP ((pM d b).1),gW (gV ((pM d b).2))]):=by
 have hx:=hd.exp;have z1:=hd.gV;exact ak call415 func415 (ae [iu (d.e+(b:Int)) aC,tB 11 (bh h),iu (0-(d.e+(b:Int))) aC,ag [gW (gV d.m),iP (0-(d.e+(b:Int)))] (Wd _ _ aD aC aC)]<|rQ (.agg [bP d.neg,gW (gV (d.m/2^(Int.toNat (0-(d.e+(b:Int))))))]) (.agg [bP ((pM d b).1),gW (gV ((pM d b).2))]) (by unfold pM;rw[aZ h])) 
def VV(d:Dy)(hd:d.gX)(b:Nat)(hb:b<=30000)(h:¬d.e+(b:Int)<0)(hs:(gV (d.m*2^(Int.toNat (d.e+(b:Int))))).length<=256):gU 415 [gZ d,iP b] (.agg [bP ((pM d b).1),gW (gV ((pM d b).2))]):=by
 have hx:=hd.exp;have z1:=hd.gV;exact ak call415 func415 (ae [iu (d.e+(b:Int)) aC,tB 11 (bg h),iu (d.e+(b:Int)) aC,ag [gW (gV d.m),iP (d.e+(b:Int))] (Il _ _ aD aC aC aD)]<|rQ (.agg [bP d.neg,gW (gV (d.m*2^(Int.toNat (d.e+(b:Int)))))]) (.agg [bP ((pM d b).1),gW (gV ((pM d b).2))]) (by unfold pM;rw[aY h])) 
def Gr{d:Dy}{b K:Nat}(h:d.ij+(b:Int)<=K):(pM d b).2<2^K:=by
 by_cases h0:d.m=0
 .have:(pM d b).2=0:=by unfold pM;simp only[h0];split<;>simp
  rw[this];exact bn aE 
 .rw [Ek h0]at h;have hm:=qH d.m;unfold pM;simp only;split
  .rename_i hc;obtain⟨k,hk⟩:∃ k,k=(0-(d.e+(b:Int))).toNat:=⟨_,rfl⟩
   rw[<-hk];by_cases hb:ib d.m<=k
   .rw [cV (bM hm (bH aE hb))];exact bn aE 
   .refine (cw (bn aE)).2 (bM hm ?_);rw[<-bk];exact bH aE aC 
  .rename_i hc;obtain⟨k,hk⟩:∃ k,k=(d.e+(b:Int)).toNat:=⟨_,rfl⟩
   rw[<-hk];have:=di hm (bn (n:=k) (show 0<2 by decide));rw[<-bk]at this;exact bM this (bH aE aC)
def Im(d:Dy)(hd:d.gX)(b K:Nat)(hb:b<=30000)(hK:K<=8192)(h:d.ij+(b:Int)<=K):gU 415 [gZ d,iP (b:Int)] (.agg [bP ((pM d b).1),gW (gV ((pM d b).2))]):=by
 by_cases hc:d.e+(b:Int)<0
 .exact VW d hd b hb hc
 .refine VV d hd b hb hc ?_;have:=Gr h;unfold pM at this;rw[aY hc]at this;exact kE this hK
def lq(f:Nat->Nat):Nat->Bool×Nat
 | 0=>(false,f 0)
 |k+1=>jh (lq f k) (decide ((k+1)%2=1),f (k+1)/(2*(k+1)+1))
def Mn{f:Nat->Nat}(hf:∀ k,f (k+1)<=f k):∀ n,(n%2=0->nN (lq f n)<=f 0/\(f 0:Int)-(f 1/3:Nat)<=nN (lq f n)-(f (n+1)/(2*(n+1)+1):Nat))/\(n%2=1->(f 0:Int)-(f 1/3:Nat)<=nN (lq f n)/\nN (lq f n)+(f (n+1)/(2*(n+1)+1):Nat)<=f 0)
 | 0=>⟨λ_=>⟨by simp[lq,nN],by simp[lq,nN]⟩,λh=> aC⟩
 |n+1=>by
  obtain⟨e,o⟩:=Mn hf n;have hq:f (n+1+1)/(2*(n+1+1)+1)<=f (n+1)/(2*(n+1)+1):=Nat.div_le_div (hf (n+1)) aC aC;have hv:nN (lq f (n+1))=nN (lq f n)+nN (decide ((n+1)%2=1),f (n+1)/(2*(n+1)+1)):=I4 _ _;generalize f (n+1)/(2*(n+1)+1)=q1 at *
  generalize f (n+1+1)/(2*(n+1+1)+1)=q2 at *
  generalize f 1/3=q0 at *
  rcases ahD n with h|h
  .obtain ⟨e1,e2⟩:=e h;rw[show decide ((n+1)%2=1)=true from bh aC]at hv;simp only[nN,bD]at hv;exact⟨λq=> aC,λ_=>⟨by unfold nN at *;omega,by unfold nN at *;omega⟩⟩
  .obtain ⟨e1,e2⟩:=o h;rw[show decide ((n+1)%2=1)=false from bg aC]at hv;simp only[nN,bA,bq]at hv;exact⟨λ_=>⟨by unfold nN at *;omega,by unfold nN at *;omega⟩,λq=> aC⟩
def Ib{f:Nat->Nat}(hf:∀ k,f (k+1)<=f k)(n:Nat):(lq f n).2<=f 0/\f 0<=(lq f n).2+f 1/3:=by
 have ht:=Mn hf n;have h1:f 1/3<=f 0:=bj (bU _ _) (hf 0);have hb:(f 0:Int)-(f 1/3:Nat)<=nN (lq f n)/\nN (lq f n)<=f 0:=by
  rcases ahD n with h|h
  .have:=ht.1 h;generalize f (n+1)/(2*(n+1)+1)=q at *
   omega
  .have:=ht.2 h;generalize f (n+1)/(2*(n+1)+1)=q at *
   omega
 generalize lq f n=s at *
 generalize f 1/3=q at *
 obtain⟨b,m⟩:=s;cases b
 .simp only[nN,bA,bq]at hb ⊢;omega
 .simp only[nN,bD]at hb ⊢;omega
def EM{f:Nat->Nat}(hf:∀ k,f (k+1)<=f k):∀ k,f k<=f 0
 | 0=>bd _
 |k+1=>bj (hf k) (EM hf k)
def AS{f:Nat->Nat}(hf:∀ k,f (k+1)<=f k){B:Nat}(hB:B<=8191)(hz:f 0<2^B)(k:Nat):(gV (f k)).length<=256:=kE (cr (EM hf k) hz) aC 
def EN{f:Nat->Nat}(hf:∀ k,f (k+1)<=f k){B:Nat}(hB:B<=8191)(hz:f 0<2^B)(k:Nat):(gV (lq f k).2).length<=256/\(gV (f (k+1)/(2*(k+1)+1))).length<=256:=⟨kE (cr (Ib hf k).1 hz) aC,kE (cr (bj (bU _ _) (EM hf (k+1))) hz) aC⟩
def Mo{f:Nat->Nat}(hf:∀ k,f (k+1)<=f k){B:Nat}(hB:B<=8191)(hz:f 0<2^B)(k:Nat):(gV ((lq f k).2+f (k+1)/(2*(k+1)+1))).length<=256:=by
 have h1:=(Ib hf k).1;have h2:=bj (bU (f (k+1)) (2*(k+1)+1)) (EM hf (k+1));refine kE (k:=B+1) ?_ aC;rw[bw];omega
def qG(n b:Nat):Nat->Nat
 | 0=>1*2^b/n
 |k+1=>qG n b k/(n*n)
def Qt{n b:Nat}(hn:2<=n)(k:Nat):qG n b (k+1)*2<=qG n b k:=by
 show qG n b k/(n*n)*2<=_;have h1:qG n b k/(n*n)<=qG n b k/2:=gy (by have:=cW hn hn;omega) aE;omega
def Kb(n b:Nat):qG n b 0<2^(b+1):=by
 show 1*2^b/n<_;rw[bT,bw];have:=bU (2^b) n;have:0<2^b:=bn aE;omega
def aaK{n b:Nat}(hn:2<=n):∃ N,N<=b+1/\(∀ k,k<N->qG n b (k+1)≠0)/\qG n b (N+1)=0:=by
 obtain⟨N,h1,h2,h3⟩:=Z0 (Kb n b) (Qt hn);rcases N with _|N
 .refine ⟨0,aC,λk hk=>absurd hk (bE _),?_⟩;have:=Qt (b:=b) hn 0;omega
 .exact ⟨N,aC,λk hk=>h2 (k+1) aC,h3⟩
def ac5{T x y f g:Nat}(hT:65536<=T)(hf:f=T/5)(F2:x<=f)(sG:f<=x+f/(5*5)/3)(hy:y<=T/239)(hg:g=(jh (false,x*2^4) (true,y*2^2)).2):2<=g/\g<=T*4/\g/2<=T*2:=by
 have ZA:(2:Nat)^4=16:=rfl;have h4:(2:Nat)^2=4:=rfl;have e:g=x*16-y*4:=by
  rw[hg,ZA,h4];unfold jh;rw[aY (show ¬false=true from Bool.false_ne_true),aY (by show ¬x*16<y*4;omega)]
 omega
def Mm(f:Nat->Nat)(g:FuncId)(cap:List E)(N:Nat)(x:Nat):PS:=⟨30,true,[(6,.e (iP ((x+1:Nat):Int))),(5,.box 5 0),(4,.box 4 0),(2,.box 2 0),(1,.e (.fn g cap))],[(5,.cells 264 [bP ((lq f x).1),gW (gV ((lq f x).2))]),(4,.cells 264 [bP false,.v (.slice none 0 0)]),(2,.cells 264 [bP false,gW (gV (f x))])]⟩
def VF(f:Nat->Nat)(g:FuncId)(cap:List E)(N:Nat)(hp:∀ k,k<=N->gU g ((.agg [bP false,gW (gV (f k))])::cap) (.agg [bP false,gW (gV (f (k+1)))]))(hf:∀ k,f (k+1)<=f k)(B:Nat)(hB:B<=8191)(hz:f 0<2^B)(h0:∀ k,k<N->f (k+1)≠0)(hN:f (N+1)=0)(qP:N<=100000):gU 421 [.agg [bP false,gW (gV (f 0))],.fn g cap] (.agg [bP ((lq f N).1),gW (gV ((lq f N).2))]):=by
 have z00:=AS hf hB hz 0;exact ak call421 func421 (af [.s (Sp.kY (Mm f g cap N) 0 N aC (λx hx mZ=>by
    have z1:=AS hf hB hz (x+1);have z0:=AS hf hB hz x;have zs:=(EN hf hB hz x).1;have zt:=(EN hf hB hz x).2;have zu:=Mo hf hB hz x;exact jg (ae [.c (hp x aC:gU g ((.agg [bP false,gW (gV (f x))])::cap) _),ag [.agg [bP false,gW (gV (f (x+1)))]] (Bb (false,(f (x+1))) aD),tF 15 ((f (x+1))=0) (h0 x aC),
     iu (2*((x+1:Nat):Int)) aC,iu (((2*(x+1):Nat):Int)+1) aC,ag [.agg [bP false,gW (gV (f (x+1)))],iP (((2*(x+1))+1:Nat):Int)] (CL (false,(f (x+1))) aD ((2*(x+1))+1) aC aC),.a (aC:0<(2:Int))]<|.w ((x+1)%2=1)
     (λho=>ae [ah 24 ((((x+1)%2:Nat):Int)==1) (by rw[ho];rfl),ag [.agg [bP false,gW (gV ((f (x+1))/((2*(x+1))+1)))]] (ur (false,((f (x+1))/((2*(x+1))+1)))),ag [.agg [bP ((lq f x).1),gW (gV ((lq f x).2))],.agg [bP (!false),gW (gV ((f (x+1))/((2*(x+1))+1)))]] (q8 (lq f x) aD ((!false),((f (x+1))/((2*(x+1))+1))) aD aD),
      iu (((x+1:Nat):Int)+1) aC]<|.e (af [.b 5 (.iH (by first|rfl|simp[lq,ho]):Bx.le (.cells 264 [bP ((jh (lq f x) ((!false),((f (x+1))/((2*(x+1))+1)))).1),gW (gV ((jh (lq f x) ((!false),((f (x+1))/((2*(x+1))+1)))).2))]) (.cells 264 [bP ((lq f (x+1)).1),gW (gV ((lq f (x+1)).2))]))]))
     (λho=>ae [ai 24 ((((x+1)%2:Nat):Int)==1) aN,ag [.agg [bP ((lq f x).1),gW (gV ((lq f x).2))],.agg [bP false,gW (gV ((f (x+1))/((2*(x+1))+1)))]] (q8 (lq f x) aD (false,((f (x+1))/((2*(x+1))+1))) aD aD),
      iu (((x+1:Nat):Int)+1) aC]<|.e (af [.b 5 (.iH (by first|rfl|simp[lq,ho]):Bx.le (.cells 264 [bP ((jh (lq f x) (false,((f (x+1))/((2*(x+1))+1)))).1),gW (gV ((jh (lq f x) (false,((f (x+1))/((2*(x+1))+1)))).2))]) (.cells 264 [bP ((lq f (x+1)).1),gW (gV ((lq f (x+1)).2))]))]))) aF)
  (λhx=>by
    have z1:=AS hf hB hz (N+1);have z0:=AS hf hB hz N;have zs:=(EN hf hB hz N).1;have zt:=(EN hf hB hz N).2;have zu:=Mo hf hB hz N;exact jg (af [.c (hp N aC:gU g ((.agg [bP false,gW (gV (f N))])::cap) _),ag [.agg [bP false,gW (gV (f (N+1)))]] (Bb (false,(f (N+1))) aD),tB 15 (bh hN)]) aF) aI:kU 4 f421 (Mm f g cap N 0) .ret ⟨30,true,[(4,.box 4 0)],[(4,.cells 264 [bP ((lq f N).1),gW (gV ((lq f N).2))])]⟩) (af [.o 6 (aq 1 ((0+1:Nat):Int) aO),.b 5 (.iH (by first|rfl|simp[lq,ho]):Bx.le (.cells 264 [bP false,gW (gV (f 0))]) (.cells 264 [bP ((lq f 0).1),gW (gV ((lq f 0).2))]))])]) 
def VQ(m n:Nat)(hm:(gV m).length<=256)(pV:n≠0)(hn:n<60000):gU 422 [.agg [bP false,gW (gV m)],(.jG 1 λj_=>[iP n].getD j_ .any)] (.agg [bP false,gW (gV (m/(n*n)))]):=by
 have hnn:n*n<3600000000:=ahE hn hn;have hnz:n*n≠0:=dB pV pV;exact ak call422 func422 (af [iu ((n:Int)*(n:Int)) aC,ag [.agg [bP false,gW (gV m)],iP ((n*n:Nat):Int)] (CL (false,m) aD (n*n) aC aC)]) 
def VR(n b:Nat)(S:Bool×Nat)(pV:n≠0)(hn:n<60000)(hb:b<=8000)(hS:gU 421 [.agg [bP false,gW (gV (1*2^b/n))],.fn 422 [(.jG 1 λj_=>[iP n].getD j_ .any)]] (.agg [bP S.1,gW (gV S.2)])):gU 420 [iP n,iP b] (.agg [bP S.1,gW (gV S.2)]):=by
 have z0:(gV 1).length<=256:=ri aE;have z1:(gV (1*2^b)).length<=256:=kE (k:=b+1) (by rw[bw,bT];have:0<2^b:=bn aE;omega) aC;exact ak call420 func420 (af [.o 6 (.e wa:aj (.sl false 1 1 λi_ j_=>[.v (.int .u32 1)].getD (i_*1+j_) (.v (.bool false))) (gW (gV 1))),.c (xJ 1 b aD aC aD),ag [.agg [bP false,gW (gV (1*2^b))],iP n] (CL (false,(1*2^b)) aD n aC aC),ag [.agg [bP false,gW (gV ((1*2^b)/n))],.fn 422 [(.jG 1 λj_=>[iP n].getD j_ .any)]] hS]) 
def MU(n b:Nat)(pV:2<=n)(hn:n<60000)(hb:b<=8000):∃ S:Bool×Nat,S.2<=2^b/n/\2^b/n<=S.2+2^b/n/(n*n)/3/\gU 420 [iP (n:Int),iP (b:Int)] (.agg [bP S.1,gW (gV S.2)]):=by
 obtain⟨N,h1,h2,h3⟩:=aaK (b:=b) pV;have hf:∀ k,qG n b (k+1)<=qG n b k:=λk=>bU _ _
 obtain⟨r1,r2⟩:=Ib hf N;have e0:qG n b 0=2^b/n:=by show 1*2^b/n=_;rw[bT]
 have e1:qG n b 1=2^b/n/(n*n):=by show qG n b 0/(n*n)=_;rw[e0]
 refine⟨lq (qG n b) N,by rw[<-e0];exact r1,by rw[<-e1,<-e0];exact r2,?_⟩;exact VR n b _ aC hn hb (VF (qG n b) 422 _ N (λk _=>VQ (qG n b k) n (AS hf (aC:b+1<=8191) (Kb n b) k) aC hn) hf (b+1) aC (Kb n b) h2 h3 aC)
def VX(b:Nat)(x y:Bool×Nat)(zx:x.2<2^b)(zy:y.2<2^b)(hb:b<=8000)(hx:gU 420 [iP ((5:Nat):Int),iP (b:Int)] (.agg [bP x.1,gW (gV x.2)]))(hy:gU 420 [iP ((239:Nat):Int),iP (b:Int)] (.agg [bP y.1,gW (gV y.2)])):gU 409 [iP b] (.agg [bP ((jh (false,x.2*2^4) (true,y.2*2^2)).1),gW (gV ((jh (false,x.2*2^4) (true,y.2*2^2)).2))]):=by
 have z1:(gV x.2).length<=256:=kE zx aC;have z2:(gV y.2).length<=256:=kE zy aC;have e5:2^(b+5)=2^b*32:=by rw[bk]
 have z3:(gV (x.2*2^4)).length<=256:=kE (k:=b+5) aC aC;have z4:(gV (y.2*2^2)).length<=256:=kE (k:=b+5) aC aC;have z5:(gV (x.2*2^4+y.2*2^2)).length<=256:=kE (k:=b+5) aC aC;exact ak call409 func409 (af [ag [iP 5,iP b] hx,ag [iP 239,iP b] hy,.c (xJ x.2 4 aD aC aD),.c (xJ y.2 2 aD aC aD),ag [.agg [bP false,gW (gV (x.2*2^4))],.agg [bP true,gW (gV (y.2*2^2))]] (q8 (false,(x.2*2^4)) aD (true,(y.2*2^2)) aD aD)]) 
def MV(b:Nat)(jW:16<=b)(hb:b<=8000):∃ c:Bool×Nat,2<=c.2/\c.2<=2^b*4/\c.2/2<=2^b*2/\gU 409 [iP (b:Int)] (.agg [bP c.1,gW (gV c.2)]):=by
 obtain⟨x,x1,x2,hx⟩:=MU 5 b aE aE hb;obtain⟨y,y1,y2,hy⟩:=MU 239 b aE aE hb;have hT:65536<=2^b:=by have:=bH (show 0<2 by decide) jW;omega
 obtain⟨g1,g2,g3⟩:=ac5 hT rfl x1 x2 y1 rfl;exact⟨_,g1,g2,g3,VX b x y aC aC hb hx hy⟩
def TP(n:Nat)(h:n<4294967296):bits .and .u32 (n:Int) 3=((n%4:Nat):Int):=by
 have:=bits_and_u32_nat n 3 h aE;rw[show((3:Int))=((3:Nat):Int)from rfl,this];exact congrArg _ (ahw n 2)
def aay(k:Nat)(h:k<=3):bits .and .i64 (4-(k:Int)) 3=(((4-k)%4:Nat):Int):=by
 rcases(aC:k=0\/k=1\/k=2\/k=3)with rfl|rfl|rfl|rfl<;>decide
def Yw{x:Bool×Nat}{m:Nat}(h:m<=x.2):jh x (!x.1,m)=(x.1,x.2-m):=by
 unfold jh;rw[aY (by show ¬x.1 = !x.1;cases x.1<;>decide),aY (by show ¬x.2<m;omega)]
def adD(n:Nat):n%4<=3:= aC 
def adC(n:Nat):(4-n)%4<=3:= aC 
def adE{x:Bool×Nat}{H b t:Nat}(h0:1<=H)(hH:H<=2^(b+t+40)*2):(jh x (!x.1,x.2/H*H)).2/2^(t+40)<=2^(b+1):=by
 rw[Yw (de _ _)];show(x.2-x.2/H*H)/_<=_;have h1:x.2-x.2/H*H=x.2%H:=by
  have:=cC x.2 H;rw[bB H]at this;omega
 have h2:=bC x.2 (aC:0<H);rw[h1];refine Nat.div_le_of_le_mul (bj (dq h2) (bj hH (gn ?_)));rw[<-bk,(aC:t+40+(b+1)=b+t+40+1)];exact(bw 2 (b+t+40)).symm
def ki(x:Bool×Nat):Nat->Bool
 | 0=>false
 |k+1=>(ki x k != x.1)
def jl(x:Bool×Nat)(b:Nat):Nat->(Bool×Nat)×(Bool×Nat)
 | 0=>((false,0),(false,1*2^b))
 |k+1=>if(k+1)%2=1 then(jh (jl x b k).1 ((if 2<=(k+1)%4 then !(ki x (k+1))else ki x (k+1)),jz x.2 b (k+1)),(jl x b k).2)
  else((jl x b k).1,jh (jl x b k).2 ((if 2<=(k+1)%4 then !(ki x (k+1))else ki x (k+1)),jz x.2 b (k+1)))
def SW{x:Bool×Nat}{b:Nat}(h:x.2<=2^(b+1)):∀ k,(jl x b k).1.2<=(k+1)*2^(b+1)/\(jl x b k).2.2<=(k+1)*2^(b+1)
 | 0=>⟨bO _,by show 1*2^b<=_;have:=bw (n:=2) (m:=b);omega⟩
 |k+1=>by
  obtain⟨h1,h2⟩:=SW h k;have h3:=CN h (k+1);have h4:(k+1+1)*2^(b+1)=(k+1)*2^(b+1)+2^(b+1):=gw _ _;unfold jl;split
  .refine ⟨bj (vy _ _) ?_,by rw[h4];exact bj h2 (Nat.le_add_right _ _)⟩;rw[h4];exact Nat.add_le_add h1 h3
  .refine ⟨by rw[h4];exact bj h1 (Nat.le_add_right _ _),bj (vy _ _) ?_⟩;rw[h4];exact Nat.add_le_add h2 h3
def SX{x:Bool×Nat}{b:Nat}(h:x.2<=2^(b+1))(hb:b<=3000){k:Nat}(hk:k<=b+5):(jl x b k).1.2<2^(b+14)/\(jl x b k).2.2<2^(b+14):=by
 obtain⟨h1,h2⟩:=SW h k;have h3:(k+1)*2^(b+1)<2^(b+14):=by
  rw[(aC:b+14=13+(b+1)),bk 2 13];exact di aC (bn aE)
 exact⟨cr h1 h3,cr h2 h3⟩
def YH{T:TypeId}:Bx.le (.cells T [bP false,.v (.slice none 0 0)]) (.cells T [bP false,gW (gV 0)]):=
 .cells (λ_=>rfl) (.cons (.refl _) (.cons DO .nil))
structure Uw(x:Bool×Nat)(b k:Nat):Prop where
 t0:(gV (jz x.2 b k)).length<=256
 t1:(gV (jz x.2 b (k+1))).length<=256
 tm:(gV (jz x.2 b k*x.2)).length<=256
 tq:(gV (jz x.2 b k*x.2/2^b)).length<=256
 s0:(gV (jl x b k).1.2).length<=256
 c0:(gV (jl x b k).2.2).length<=256
 s1:(gV ((jl x b k).1.2+jz x.2 b (k+1))).length<=256
 c1:(gV ((jl x b k).2.2+jz x.2 b (k+1))).length<=256
def SV{x:Bool×Nat}{b:Nat}(h:x.2<=2^(b+1))(hb:b<=3000){k:Nat}(hk:k<=b+5):Uw x b k:=by
 have hp:(2:Nat)^(b+2)=2^(b+1)*2:=bw _ _;have hq:(0:Nat)<2^(b+1):=bn aE;have t0:=CN h k;have t1:=CN h (k+1);obtain⟨s,c⟩:=SX h hb hk;have hm:jz x.2 b k*x.2<2^(b+2+(b+2)):=by
  rw[bk];exact ahE aC aC 
 have e14:(2:Nat)^(b+15)=2^(b+14)*2:=bw _ _;have e13:(2:Nat)^(b+1)<=2^(b+14):=bH aE aC;exact⟨kE (k:=b+2) aC aC,kE (k:=b+2) aC aC,kE hm aC,kE (cr (bU _ _) hm) aC,
  kE s aC,kE c aC,kE (k:=b+15) aC aC,kE (k:=b+15) aC aC⟩
def Q8{s:Bool}{m b:Nat}(h:m<2^4000)(hb:b<=8000):mN (canon s m (-(b:Int))):=by
 by_cases h0:m=0
 .subst h0;exact .inl rfl
 .have e:canon s m (-(b:Int))=⟨s,m/2^jq m,-(b:Int)+jq m⟩:=by unfold canon;rw[aY h0]
  have h1:ib m<=4000:=kV.2 h;have h2:=ui (bU m (2^jq m));have h3:jq m<=4000:=by
   have:=Gu h0;apply bN;intro hc;have:=bH (show 0<2 by decide) (aC:4000<=jq m);omega
  rw[e];exact .inr ⟨by show ib (m/2^jq m)<=4096;omega,by show -16384 <= -(b:Int)+jq m;omega,by show -(b:Int)+jq m<=16384;omega,by show(ib (m/2^jq m):Int)+(-(b:Int)+jq m)<=16384;omega⟩
def Gv{a b i j n:Nat}(ha:a<2^i)(hb:b<2^j)(hi:i<=n)(hj:j<=n):a+b<2^(n+1):=by
 have h1:=bH (show 0<2 by decide) hi;have h2:=bH (show 0<2 by decide) hj;have e:2^(n+1)=2^n*2:=bw _ _;omega
def Yx{a b:Bool×Nat}{i j n:Nat}(ha:a.2<2^i)(hb:b.2<2^j)(hi:i<=n)(hj:j<=n):(jh a b).2<2^(n+1):=cr (vy _ _) (Gv ha hb hi hj)
def Q9{s:Bool}{m:Nat}{e:Int}(h:mN (canon s m e)):(canon s m e).gX:=⟨sf _ _ _,h⟩
def D3{m i k:Nat}(h:m<2^i)(hk:i<=k):m<2^k:=bM h (bH aE hk)
def od(a c:Bool×Nat):Bool×Nat:=if a.1=true/\a.2%c.2≠0 then jh (a.1,a.2/c.2) (true,1)else(a.1,a.2/c.2)
def Oq(a c:Bool×Nat):(od a c).2<=a.2/c.2+1:=by
 unfold od;split
 .exact vy _ _
 .exact Nat.le_succ _
def YD(a c:Bool×Nat):(od a c).2*c.2<=a.2+c.2:=by
 refine bj (bI c.2 (Oq a c)) ?_;rw[gw];exact Nat.add_le_add_right (de _ _) _
def Q2{lo hi:Dy}{e f:Int}(h:e≠0\/f≠0):kI lo e hi f=ie:=aZ h
def abE{lo hi:Dy}{e f:Int}(h:e=0)(k:f=0):kI lo e hi f=⟨lo,hi,false⟩:=aY (by rw[h,k];decide)
def SO(x:Bool×Nat)(b N:Nat)(i:Nat):PS:=⟨43,true,[(8,.e (iP ((i+1:Nat):Int))),(7,.box 7 0),(5,.box 5 0),(4,.box 4 0),(2,.box 2 0),(1,.e (iP b))],[(5,.cells 264 [bP (((jl x b i).2).1),gW (gV (((jl x b i).2).2))]),(7,.cells 264 [bP (ki x i),gW (gV (jz x.2 b i))]),(4,.cells 264 [bP (((jl x b i).1).1),gW (gV (((jl x b i).1).2))]),(2,.cells 264 [bP x.1,gW (gV x.2)])]⟩
def Gb(n i:Nat):(gV n).getD i 0<4294967296:=by
 by_cases h:i<(gV n).length
 .rw [bc,bt h];exact kZ n _ (ck h)
 .rw [bc,ct aC];decide
def Wb(d:Dy)(b t m:Nat)(cp:Bool×Nat)(hd:d.gX)(ht:t=d.ij.toNat)(jW:16<=b)(mh:b<=2000)(qE:t<=2000)(K:Nat)(hK:K<=6000)(zx:m<2^K)(zc:2<=cp.2)(zd:(gV cp.2).length<=256)(pR:gU 409 [iP (((b+t)+40:Nat):Int)] (.agg [bP cp.1,gW (gV cp.2)]))(sA:gU 415 [gZ d,iP (((b+t)+40:Nat):Int)] (.agg [bP true,gW (gV m)]))(hn:0<(gV (m/(cp.2/2^1))).length):gU 405 [gZ d,iP b] (.ik [.agg [bP ((jh (true,m) (false,((m/(cp.2/2^1))*(cp.2/2^1)))).1),gW (gV ((jh (true,m) (false,((m/(cp.2/2^1))*(cp.2/2^1)))).2/2^(t+40)))],iP (((4-((gV (m/(cp.2/2^1))).getD 0 0%4))%4:Nat):Int)]):=by
 have JX:=Ej hd;have zX:(gV m).length<=256:=kE zx aC;have zH:(gV (cp.2/2^1)).length<=256:=bj (lH (bU _ _)) zd;have nH:(cp.2/2^1)≠0:= aC ;have mM:((m/(cp.2/2^1))*(cp.2/2^1))<=m:=de _ _;have zN:(gV (m/(cp.2/2^1))).length<=256:=bj (lH (bU _ _)) zX;have zM:(gV ((m/(cp.2/2^1))*(cp.2/2^1))).length<=256:=bj (lH mM) zX;have zA:(gV (m+((m/(cp.2/2^1))*(cp.2/2^1)))).length<=256:=kE (k:=K+1) (by have:=bw 2 K;omega) aC;have zR:(gV (jh (true,m) (false,((m/(cp.2/2^1))*(cp.2/2^1)))).2).length<=256:=bj (lH (vy _ _)) zA;have zm:(gV (m%(cp.2/2^1))).length<=256:=bj (lH (ek _ _)) zX;have hg:(gV (m/(cp.2/2^1))).getD 0 0<4294967296:=Gb _ 0;have h4:(gV (m/(cp.2/2^1))).getD 0 0%4<=3:= aC ;exact ak call405 func405 (af [ag [gZ d] (nx _ aD),.o 19 (aq (if 0>(Dy.ij d)then 0 else(Dy.ij d)) t aM),iu ((b:Int)+t) aC,
  iu (((b+t:Nat):Int)+40) aC,ag [iP (((b+t)+40:Nat):Int)] pR,.c (uj cp.2 1 aD aC),ag [gZ d,iP (((b+t)+40:Nat):Int)] sA,ag [gW (gV m),gW (gV (cp.2/2^1))] (xi _ _ aC aC aD),ag [gW (gV (m/(cp.2/2^1))),gW (gV (cp.2/2^1))] (xj _ _ aD aD aD),ag [.agg [bP true,gW (gV m)],.agg [bP false,gW (gV ((m/(cp.2/2^1))*(cp.2/2^1)))]] (q8 (true,m) aD (false,((m/(cp.2/2^1))*(cp.2/2^1))) aD aD),tT 61 (0<((gV (m/(cp.2/2^1))).length:Int)) aC,iX 0 ((gV (m/(cp.2/2^1))).length) aC,.o 65 (.int (TP _ aC):aj (.v (.int .u32 (bits .and .u32 (((gV (m/(cp.2/2^1))).getD 0 0:Nat):Int) 3))) (.v (.int .u32 ((((gV (m/(cp.2/2^1))).getD 0 0)%4:Nat):Int)))),.o 66 (aq (IntKind.i64.wrap ((((gV (m/(cp.2/2^1))).getD 0 0)%4:Nat):Int)) ((((gV (m/(cp.2/2^1))).getD 0 0)%4:Nat):Int) (Qo _ aC)),
  iu (4-((((gV (m/(cp.2/2^1))).getD 0 0)%4:Nat):Int)) aC,.o 71 (aq (bits .and .i64 (4-((((gV (m/(cp.2/2^1))).getD 0 0)%4:Nat):Int)) 3) (((4-((gV (m/(cp.2/2^1))).getD 0 0%4))%4:Nat):Int) (aay _ aC)),
  iu ((t:Int)+40) aC,.c (uj ((jh (true,m) (false,((m/(cp.2/2^1))*(cp.2/2^1)))).2) (t+40) aD aC)]) 
def V9(d:Dy)(b t m:Nat)(cp:Bool×Nat)(hd:d.gX)(ht:t=d.ij.toNat)(jW:16<=b)(mh:b<=2000)(qE:t<=2000)(K:Nat)(hK:K<=6000)(zx:m<2^K)(zc:2<=cp.2)(zd:(gV cp.2).length<=256)(pR:gU 409 [iP (((b+t)+40:Nat):Int)] (.agg [bP cp.1,gW (gV cp.2)]))(sA:gU 415 [gZ d,iP (((b+t)+40:Nat):Int)] (.agg [bP true,gW (gV m)]))(hn:¬0<(gV (m/(cp.2/2^1))).length):gU 405 [gZ d,iP b] (.ik [.agg [bP ((jh (true,m) (false,((m/(cp.2/2^1))*(cp.2/2^1)))).1),gW (gV ((jh (true,m) (false,((m/(cp.2/2^1))*(cp.2/2^1)))).2/2^(t+40)))],iP 0]):=by
 have JX:=Ej hd;have zX:(gV m).length<=256:=kE zx aC;have zH:(gV (cp.2/2^1)).length<=256:=bj (lH (bU _ _)) zd;have nH:(cp.2/2^1)≠0:= aC ;have mM:((m/(cp.2/2^1))*(cp.2/2^1))<=m:=de _ _;have zN:(gV (m/(cp.2/2^1))).length<=256:=bj (lH (bU _ _)) zX;have zM:(gV ((m/(cp.2/2^1))*(cp.2/2^1))).length<=256:=bj (lH mM) zX;have zA:(gV (m+((m/(cp.2/2^1))*(cp.2/2^1)))).length<=256:=kE (k:=K+1) (by have:=bw 2 K;omega) aC;have zR:(gV (jh (true,m) (false,((m/(cp.2/2^1))*(cp.2/2^1)))).2).length<=256:=bj (lH (vy _ _)) zA;have zm:(gV (m%(cp.2/2^1))).length<=256:=bj (lH (ek _ _)) zX;have hg:(gV (m/(cp.2/2^1))).getD 0 0<4294967296:=Gb _ 0;have h4:(gV (m/(cp.2/2^1))).getD 0 0%4<=3:= aC ;exact ak call405 func405 (af [ag [gZ d] (nx _ aD),.o 19 (aq (if 0>(Dy.ij d)then 0 else(Dy.ij d)) t aM),iu ((b:Int)+t) aC,
  iu (((b+t:Nat):Int)+40) aC,ag [iP (((b+t)+40:Nat):Int)] pR,.c (uj cp.2 1 aD aC),ag [gZ d,iP (((b+t)+40:Nat):Int)] sA,ag [gW (gV m),gW (gV (cp.2/2^1))] (xi _ _ aC aC aD),ag [gW (gV (m/(cp.2/2^1))),gW (gV (cp.2/2^1))] (xj _ _ aD aD aD),ag [.agg [bP true,gW (gV m)],.agg [bP false,gW (gV ((m/(cp.2/2^1))*(cp.2/2^1)))]] (q8 (true,m) aD (false,((m/(cp.2/2^1))*(cp.2/2^1))) aD aD),tF 61 (0<((gV (m/(cp.2/2^1))).length:Int)) aC,iu (4-0) aC,.o 71 (aq (bits .and .i64 (4-0) 3) 0 aE),iu ((t:Int)+40) aC,.c (uj ((jh (true,m) (false,((m/(cp.2/2^1))*(cp.2/2^1)))).2) (t+40) aD aC)]) 
def Wc(d:Dy)(b t m:Nat)(cp:Bool×Nat)(hd:d.gX)(ht:t=d.ij.toNat)(jW:16<=b)(mh:b<=2000)(qE:t<=2000)(K:Nat)(hK:K<=6000)(zx:m<2^K)(zc:2<=cp.2)(zd:(gV cp.2).length<=256)(pR:gU 409 [iP (((b+t)+40:Nat):Int)] (.agg [bP cp.1,gW (gV cp.2)]))(sA:gU 415 [gZ d,iP (((b+t)+40:Nat):Int)] (.agg [bP false,gW (gV m)]))(hn:0<(gV (m/(cp.2/2^1))).length):gU 405 [gZ d,iP b] (.ik [.agg [bP ((jh (false,m) (true,((m/(cp.2/2^1))*(cp.2/2^1)))).1),gW (gV ((jh (false,m) (true,((m/(cp.2/2^1))*(cp.2/2^1)))).2/2^(t+40)))],iP (((gV (m/(cp.2/2^1))).getD 0 0%4:Nat):Int)]):=by
 have JX:=Ej hd;have zX:(gV m).length<=256:=kE zx aC;have zH:(gV (cp.2/2^1)).length<=256:=bj (lH (bU _ _)) zd;have nH:(cp.2/2^1)≠0:= aC ;have mM:((m/(cp.2/2^1))*(cp.2/2^1))<=m:=de _ _;have zN:(gV (m/(cp.2/2^1))).length<=256:=bj (lH (bU _ _)) zX;have zM:(gV ((m/(cp.2/2^1))*(cp.2/2^1))).length<=256:=bj (lH mM) zX;have zA:(gV (m+((m/(cp.2/2^1))*(cp.2/2^1)))).length<=256:=kE (k:=K+1) (by have:=bw 2 K;omega) aC;have zR:(gV (jh (false,m) (true,((m/(cp.2/2^1))*(cp.2/2^1)))).2).length<=256:=bj (lH (vy _ _)) zA;have zm:(gV (m%(cp.2/2^1))).length<=256:=bj (lH (ek _ _)) zX;have hg:(gV (m/(cp.2/2^1))).getD 0 0<4294967296:=Gb _ 0;have h4:(gV (m/(cp.2/2^1))).getD 0 0%4<=3:= aC ;exact ak call405 func405 (af [ag [gZ d] (nx _ aD),.o 19 (aq (if 0>(Dy.ij d)then 0 else(Dy.ij d)) t aM),iu ((b:Int)+t) aC,
  iu (((b+t:Nat):Int)+40) aC,ag [iP (((b+t)+40:Nat):Int)] pR,.c (uj cp.2 1 aD aC),ag [gZ d,iP (((b+t)+40:Nat):Int)] sA,ag [gW (gV m),gW (gV (cp.2/2^1))] (xi _ _ aC aC aD),ag [gW (gV (m/(cp.2/2^1))),gW (gV (cp.2/2^1))] (xj _ _ aD aD aD),ag [.agg [bP false,gW (gV m)],.agg [bP true,gW (gV ((m/(cp.2/2^1))*(cp.2/2^1)))]] (q8 (false,m) aD (true,((m/(cp.2/2^1))*(cp.2/2^1))) aD aD),tT 61 (0<((gV (m/(cp.2/2^1))).length:Int)) aC,iX 0 ((gV (m/(cp.2/2^1))).length) aC,.o 65 (.int (TP _ aC):aj (.v (.int .u32 (bits .and .u32 (((gV (m/(cp.2/2^1))).getD 0 0:Nat):Int) 3))) (.v (.int .u32 ((((gV (m/(cp.2/2^1))).getD 0 0)%4:Nat):Int)))),.o 66 (aq (IntKind.i64.wrap ((((gV (m/(cp.2/2^1))).getD 0 0)%4:Nat):Int)) ((((gV (m/(cp.2/2^1))).getD 0 0)%4:Nat):Int) (Qo _ aC)),
  iu ((t:Int)+40) aC,.c (uj ((jh (false,m) (true,((m/(cp.2/2^1))*(cp.2/2^1)))).2) (t+40) aD aC)]) 
def Wa(d:Dy)(b t m:Nat)(cp:Bool×Nat)(hd:d.gX)(ht:t=d.ij.toNat)(jW:16<=b)(mh:b<=2000)(qE:t<=2000)(K:Nat)(hK:K<=6000)(zx:m<2^K)(zc:2<=cp.2)(zd:(gV cp.2).length<=256)(pR:gU 409 [iP (((b+t)+40:Nat):Int)] (.agg [bP cp.1,gW (gV cp.2)]))(sA:gU 415 [gZ d,iP (((b+t)+40:Nat):Int)] (.agg [bP false,gW (gV m)]))(hn:¬0<(gV (m/(cp.2/2^1))).length):gU 405 [gZ d,iP b] (.ik [.agg [bP ((jh (false,m) (true,((m/(cp.2/2^1))*(cp.2/2^1)))).1),gW (gV ((jh (false,m) (true,((m/(cp.2/2^1))*(cp.2/2^1)))).2/2^(t+40)))],iP 0]):=by
 have JX:=Ej hd;have zX:(gV m).length<=256:=kE zx aC;have zH:(gV (cp.2/2^1)).length<=256:=bj (lH (bU _ _)) zd;have nH:(cp.2/2^1)≠0:= aC ;have mM:((m/(cp.2/2^1))*(cp.2/2^1))<=m:=de _ _;have zN:(gV (m/(cp.2/2^1))).length<=256:=bj (lH (bU _ _)) zX;have zM:(gV ((m/(cp.2/2^1))*(cp.2/2^1))).length<=256:=bj (lH mM) zX;have zA:(gV (m+((m/(cp.2/2^1))*(cp.2/2^1)))).length<=256:=kE (k:=K+1) (by have:=bw 2 K;omega) aC;have zR:(gV (jh (false,m) (true,((m/(cp.2/2^1))*(cp.2/2^1)))).2).length<=256:=bj (lH (vy _ _)) zA;have zm:(gV (m%(cp.2/2^1))).length<=256:=bj (lH (ek _ _)) zX;have hg:(gV (m/(cp.2/2^1))).getD 0 0<4294967296:=Gb _ 0;have h4:(gV (m/(cp.2/2^1))).getD 0 0%4<=3:= aC ;exact ak call405 func405 (af [ag [gZ d] (nx _ aD),.o 19 (aq (if 0>(Dy.ij d)then 0 else(Dy.ij d)) t aM),iu ((b:Int)+t) aC,
  iu (((b+t:Nat):Int)+40) aC,ag [iP (((b+t)+40:Nat):Int)] pR,.c (uj cp.2 1 aD aC),ag [gZ d,iP (((b+t)+40:Nat):Int)] sA,ag [gW (gV m),gW (gV (cp.2/2^1))] (xi _ _ aC aC aD),ag [gW (gV (m/(cp.2/2^1))),gW (gV (cp.2/2^1))] (xj _ _ aD aD aD),ag [.agg [bP false,gW (gV m)],.agg [bP true,gW (gV ((m/(cp.2/2^1))*(cp.2/2^1)))]] (q8 (false,m) aD (true,((m/(cp.2/2^1))*(cp.2/2^1))) aD aD),tF 61 (0<((gV (m/(cp.2/2^1))).length:Int)) aC,iu ((t:Int)+40) aC,.c (uj ((jh (false,m) (true,((m/(cp.2/2^1))*(cp.2/2^1)))).2) (t+40) aD aC)]) 
def V8(d:Dy)(b:Nat)(hd:d.gX)(jW:16<=b)(mh:b<=1000)(ht:d.ij<=100):∃ (r:Bool×Nat) (k:Nat),r.2<=2^(b+1)/\k<=3/\gU 405 [gZ d,iP (b:Int)] (.ik [.agg [bP r.1,gW (gV r.2)],iP (k:Int)]):=by
 obtain⟨t,qE⟩:∃ t,t=d.ij.toNat:=⟨_,rfl⟩
 obtain⟨cp,c1,c2,c3,pR⟩:=MV (b+t+40) aC aC;have sA:=Im d hd (b+t+40) 6000 aC aE aC;have iA:=Gr (d:=d) (b:=b+t+40) (K:=6000) aC;generalize pM d (b+t+40)=x at sA iA;have hp:(2:Nat)^(b+t+40+3)=2^(b+t+40)*8:=by rw[bk]
 have zd:(gV cp.2).length<=256:=kE (k:=b+t+40+3) (by have:0<2^(b+t+40):=bn aE;omega) aC;obtain⟨sg,m⟩:=x;have hle:=adE (x:=(sg,m)) (H:=cp.2/2^1) (b:=b) (t:=t) aC c3;by_cases hn:0<(gV (m/(cp.2/2^1))).length
 .cases sg with
  |false=>exact⟨((jh (false,m) (true,m/(cp.2/2^1)*(cp.2/2^1))).1,(jh (false,m) (true,m/(cp.2/2^1)*(cp.2/2^1))).2/2^(t+40)),_,hle,adD _,Wc d b t m cp hd qE jW aC aC 6000 aE iA c1 zd pR sA hn⟩
  |true=>exact⟨((jh (true,m) (false,m/(cp.2/2^1)*(cp.2/2^1))).1,(jh (true,m) (false,m/(cp.2/2^1)*(cp.2/2^1))).2/2^(t+40)),_,hle,adC _,Wb d b t m cp hd qE jW aC aC 6000 aE iA c1 zd pR sA hn⟩
 .cases sg with
  |false=>exact⟨((jh (false,m) (true,m/(cp.2/2^1)*(cp.2/2^1))).1,(jh (false,m) (true,m/(cp.2/2^1)*(cp.2/2^1))).2/2^(t+40)),_,hle,bO 3,Wa d b t m cp hd qE jW aC aC 6000 aE iA c1 zd pR sA hn⟩
  |true=>exact⟨((jh (true,m) (false,m/(cp.2/2^1)*(cp.2/2^1))).1,(jh (true,m) (false,m/(cp.2/2^1)*(cp.2/2^1))).2/2^(t+40)),_,hle,bO 3,V9 d b t m cp hd qE jW aC aC 6000 aE iA c1 zd pR sA hn⟩
def We(x:Bool×Nat)(b N:Nat)(sG:x.2<=2^(b+1))(hb:b<=3000)(qP:N<=b+4)(h0:∀ k,k<N+1->jz x.2 b k≠0)(hN:jz x.2 b (N+1)=0):gU 406 [.agg [bP x.1,gW (gV x.2)],iP b] (.ik [.agg [bP (((jl x b N).1).1),gW (gV (((jl x b N).1).2))],.agg [bP (((jl x b N).2).1),gW (gV (((jl x b N).2).2))]]):=by
 have zx:(gV x.2).length<=256:=kE (k:=b+2) (by have e:2^(b+2)=2^(b+1)*2:=bw _ _;have:0<2^(b+1):=bn aE;omega) aC;have z0:(gV 1).length<=256:=ri aE;have z1:(gV (1*2^b)).length<=256:=kE (k:=b+1) (by rw[bw,bT];have:0<2^b:=bn aE;omega) aC;exact ak call406 func406 (af [.o 10 (.e wa:aj (.sl false 1 1 λi_ j_=>[.v (.int .u32 1)].getD (i_*1+j_) (.v (.bool false))) (gW (gV 1))),.c (xJ 1 b aD aC aD),.s (Sp.kY (SO x b N) 0 N aC (λi hi rD=>by
    have SF:=SV sG hb (k:=i) aC;obtain⟨f0,f1,f2,f3,f4,f5,f6,f7⟩:=SF;exact jg (ae [ag [.agg [bP (ki x i),gW (gV (jz x.2 b i))],.agg [bP x.1,gW (gV x.2)],iP b] (I3 ((ki x i),(jz x.2 b i)) aD x aD _ aC aD),ag [.agg [bP ((ki x i) != x.1),gW (gV ((jz x.2 b i)*x.2/2^b))],iP ((i+1:Nat):Int)] (CL (((ki x i) != x.1),((jz x.2 b i)*x.2/2^b)) aD (i+1) aC aC),ag [.agg [bP (ki x (i+1)),gW (gV (jz x.2 b (i+1)))]] (Bb ((ki x (i+1)),(jz x.2 b (i+1))) aD),tF 25 ((jz x.2 b (i+1))=0) (h0 (i+1) aC),.a (aC:0<(4:Int))]<|.w (2<=(i+1)%4)
     (λh4=>ae [tT 31 (2<=(((i+1)%4:Nat):Int)) aC,ag [.agg [bP (ki x (i+1)),gW (gV (jz x.2 b (i+1)))]] (ur ((ki x (i+1)),(jz x.2 b (i+1)))),.a (aC:0<(2:Int))]<|.w ((i+1)%2=1)
      (λho=>ae [ah 36 ((((i+1)%2:Nat):Int)==1) (by rw[ho];rfl),ag [.agg [bP (((jl x b i).1).1),gW (gV (((jl x b i).1).2))],.agg [bP (!(ki x (i+1))),gW (gV (jz x.2 b (i+1)))]] (q8 ((jl x b i).1) aD ((!(ki x (i+1))),(jz x.2 b (i+1))) aD aD),
       iu (((i+1:Nat):Int)+1) aC]<|.e (af [.b 5 (.iH (by first|rfl|simp[jl,ki,jz,ho,h4]|simp[jl,ki,jz]):Bx.le (.cells 264 [bP (((jl x b i).2).1),gW (gV (((jl x b i).2).2))]) (.cells 264 [bP (((jl x b (i+1)).2).1),gW (gV (((jl x b (i+1)).2).2))])),.b 4 (.iH (by first|rfl|simp[jl,ki,jz,ho,h4]|simp[jl,ki,jz]):Bx.le (.cells 264 [bP ((jh ((jl x b i).1) ((!(ki x (i+1))),(jz x.2 b (i+1)))).1),gW (gV ((jh ((jl x b i).1) ((!(ki x (i+1))),(jz x.2 b (i+1)))).2))]) (.cells 264 [bP (((jl x b (i+1)).1).1),gW (gV (((jl x b (i+1)).1).2))]))]))
      (λho=>ae [ai 36 ((((i+1)%2:Nat):Int)==1) aN,ag [.agg [bP (((jl x b i).2).1),gW (gV (((jl x b i).2).2))],.agg [bP (!(ki x (i+1))),gW (gV (jz x.2 b (i+1)))]] (q8 ((jl x b i).2) aD ((!(ki x (i+1))),(jz x.2 b (i+1))) aD aD),
       iu (((i+1:Nat):Int)+1) aC]<|.e (af [.b 5 (.iH (by first|rfl|simp[jl,ki,jz,ho,h4]|simp[jl,ki,jz]):Bx.le (.cells 264 [bP ((jh ((jl x b i).2) ((!(ki x (i+1))),(jz x.2 b (i+1)))).1),gW (gV ((jh ((jl x b i).2) ((!(ki x (i+1))),(jz x.2 b (i+1)))).2))]) (.cells 264 [bP (((jl x b (i+1)).2).1),gW (gV (((jl x b (i+1)).2).2))])),.b 4 (.iH (by first|rfl|simp[jl,ki,jz,ho,h4]|simp[jl,ki,jz]):Bx.le (.cells 264 [bP (((jl x b i).1).1),gW (gV (((jl x b i).1).2))]) (.cells 264 [bP (((jl x b (i+1)).1).1),gW (gV (((jl x b (i+1)).1).2))]))])))
     (λh4=>ae [tF 31 (2<=(((i+1)%4:Nat):Int)) aC,.a (aC:0<(2:Int))]<|.w ((i+1)%2=1)
      (λho=>ae [ah 36 ((((i+1)%2:Nat):Int)==1) (by rw[ho];rfl),ag [.agg [bP (((jl x b i).1).1),gW (gV (((jl x b i).1).2))],.agg [bP (ki x (i+1)),gW (gV (jz x.2 b (i+1)))]] (q8 ((jl x b i).1) aD ((ki x (i+1)),(jz x.2 b (i+1))) aD aD),
       iu (((i+1:Nat):Int)+1) aC]<|.e (af [.b 5 (.iH (by first|rfl|simp[jl,ki,jz,ho,h4]|simp[jl,ki,jz]):Bx.le (.cells 264 [bP (((jl x b i).2).1),gW (gV (((jl x b i).2).2))]) (.cells 264 [bP (((jl x b (i+1)).2).1),gW (gV (((jl x b (i+1)).2).2))])),.b 4 (.iH (by first|rfl|simp[jl,ki,jz,ho,h4]|simp[jl,ki,jz]):Bx.le (.cells 264 [bP ((jh ((jl x b i).1) ((ki x (i+1)),(jz x.2 b (i+1)))).1),gW (gV ((jh ((jl x b i).1) ((ki x (i+1)),(jz x.2 b (i+1)))).2))]) (.cells 264 [bP (((jl x b (i+1)).1).1),gW (gV (((jl x b (i+1)).1).2))]))]))
      (λho=>ae [ai 36 ((((i+1)%2:Nat):Int)==1) aN,ag [.agg [bP (((jl x b i).2).1),gW (gV (((jl x b i).2).2))],.agg [bP (ki x (i+1)),gW (gV (jz x.2 b (i+1)))]] (q8 ((jl x b i).2) aD ((ki x (i+1)),(jz x.2 b (i+1))) aD aD),
       iu (((i+1:Nat):Int)+1) aC]<|.e (af [.b 5 (.iH (by first|rfl|simp[jl,ki,jz,ho,h4]|simp[jl,ki,jz]):Bx.le (.cells 264 [bP ((jh ((jl x b i).2) ((ki x (i+1)),(jz x.2 b (i+1)))).1),gW (gV ((jh ((jl x b i).2) ((ki x (i+1)),(jz x.2 b (i+1)))).2))]) (.cells 264 [bP (((jl x b (i+1)).2).1),gW (gV (((jl x b (i+1)).2).2))])),.b 4 (.iH (by first|rfl|simp[jl,ki,jz,ho,h4]|simp[jl,ki,jz]):Bx.le (.cells 264 [bP (((jl x b i).1).1),gW (gV (((jl x b i).1).2))]) (.cells 264 [bP (((jl x b (i+1)).1).1),gW (gV (((jl x b (i+1)).1).2))]))])))) aF)
  (λhi=>by
    have SF:=SV sG hb (k:=N) aC;obtain⟨f0,f1,f2,f3,f4,f5,f6,f7⟩:=SF;exact jg (af [ag [.agg [bP (ki x N),gW (gV (jz x.2 b N))],.agg [bP x.1,gW (gV x.2)],iP b] (I3 ((ki x N),(jz x.2 b N)) aD x aD _ aC aD),ag [.agg [bP ((ki x N) != x.1),gW (gV ((jz x.2 b N)*x.2/2^b))],iP ((N+1:Nat):Int)] (CL (((ki x N) != x.1),((jz x.2 b N)*x.2/2^b)) aD (N+1) aC aC),ag [.agg [bP (ki x (N+1)),gW (gV (jz x.2 b (N+1)))]] (Bb ((ki x (N+1)),(jz x.2 b (N+1))) aD),tB 25 (bh hN)]) aF) aI:kU 6 f406 (SO x b N 0) .ret ⟨43,true,[(5,.box 5 0),(4,.box 4 0)],[(5,.cells 264 [bP (((jl x b N).2).1),gW (gV (((jl x b N).2).2))]),(4,.cells 264 [bP (((jl x b N).1).1),gW (gV (((jl x b N).1).2))])]⟩) (af [.o 8 (aq 1 ((0+1:Nat):Int) aO),.b 5 (.iH (by first|rfl|simp[jl,ki,jz,ho,h4]|simp[jl,ki,jz]):Bx.le (.cells 264 [bP false,gW (gV (1*2^b))]) (.cells 264 [bP (((jl x b 0).2).1),gW (gV (((jl x b 0).2).2))])),.b 7 (.iH (by first|rfl|simp[jl,ki,jz,ho,h4]|simp[jl,ki,jz]):Bx.le (.cells 264 [bP false,gW (gV (1*2^b))]) (.cells 264 [bP (ki x 0),gW (gV (jz x.2 b 0))])),.b 4 (YH:Bx.le (.cells 264 [bP false,.v (.slice none 0 0)]) (.cells 264 [bP (((jl x b 0).1).1),gW (gV (((jl x b 0).1).2))]))])]) 
def Wf(x:Bool×Nat)(b:Nat)(sG:x.2<=2^(b+1))(hb:b<=3000):∃ s c:Bool×Nat,s.2<2^(b+14)/\c.2<2^(b+14)/\gU 406 [.agg [bP x.1,gW (gV x.2)],iP (b:Int)] (.ik [.agg [bP s.1,gW (gV s.2)],.agg [bP c.1,gW (gV c.2)]]):=by
 obtain⟨N,n1,n2,n3,n4⟩:=YJ sG;obtain⟨M,rfl⟩:∃ M,N=M+1:=⟨N-1,aC⟩
 obtain⟨a1,a2⟩:=SX sG hb (k:=M) aC;exact⟨_,_,a1,a2,We x b M sG hb aC n3 n4⟩
def xK(a:Bool×Nat)(b p:Nat)(ha:a.2<2^3000)(hb:b<=8000)(ig:8<=p)(gY:p<=512):gU 408 [.agg [bP a.1,gW (gV a.2)],iP b,iP p] (ia (qU a b p)):=by
 have z1:(gV 1).length<=256:=ri aE;have z2:(gV (1*2^24)).length<=256:=ri aE;have z3:(gV a.2).length<=256:=kE ha aE;have hs:=Gv (n:=3000) ha (show 1*2^24<2^25 by decide) aE aE;have z4:(gV (a.2+1*2^24)).length<=256:=kE hs aE;have l1:=cr (show(jh a ((!false),(1*2^24))).2<=_ from vy _ _) hs;have l2:=cr (show(jh a (false,(1*2^24))).2<=_ from vy _ _) hs;have z5:(gV (jh a ((!false),(1*2^24))).2).length<=256:=kE l1 aE;have z6:(gV (jh a (false,(1*2^24))).2).length<=256:=kE l2 aE;have e3:(0-(b:Int)) = -(b:Int):=Int.zero_sub _;have r1:mN (canon (jh a ((!false),(1*2^24))).1 (jh a ((!false),(1*2^24))).2 (0-(b:Int))):=by rw[e3];exact Q8 (D3 (k:=4000) l1 aE) hb
 have r2:mN (canon (jh a (false,(1*2^24))).1 (jh a (false,(1*2^24))).2 (0-(b:Int))):=by rw[e3];exact Q8 (D3 (k:=4000) l2 aE) hb
 have v1:(canon (jh a ((!false),(1*2^24))).1 (jh a ((!false),(1*2^24))).2 (0-(b:Int))).gX:=Q9 r1;have v2:(canon (jh a (false,(1*2^24))).1 (jh a (false,(1*2^24))).2 (0-(b:Int))).gX:=Q9 r2;have hN:qU a b p=kI (jk (canon (jh a ((!false),(1*2^24))).1 (jh a ((!false),(1*2^24))).2 (0-(b:Int))) p false) (jf (canon (jh a ((!false),(1*2^24))).1 (jh a ((!false),(1*2^24))).2 (0-(b:Int))) p false) (jk (canon (jh a (false,(1*2^24))).1 (jh a (false,(1*2^24))).2 (0-(b:Int))) p true) (jf (canon (jh a (false,(1*2^24))).1 (jh a (false,(1*2^24))).2 (0-(b:Int))) p true):=by rw[e3];rfl
 exact ak call408 func408 (ae [.o 14 (.e wa:aj (.sl false 1 1 λi_ j_=>[.v (.int .u32 1)].getD (i_*1+j_) (.v (.bool false))) (gW (gV 1))),.c (xJ 1 24 aD aC aD),ag [.agg [bP false,gW (gV (1*2^24))]] (ur (false,(1*2^24))),ag [.agg [bP a.1,gW (gV a.2)],.agg [bP (!false),gW (gV (1*2^24))]] (q8 a aD ((!false),(1*2^24)) aD aD),ag [.agg [bP a.1,gW (gV a.2)],.agg [bP false,gW (gV (1*2^24))]] (q8 a aD (false,(1*2^24)) aD aD),iu (0-(b:Int)) aC,ag [bP ((jh a ((!false),(1*2^24))).1),gW (gV ((jh a ((!false),(1*2^24))).2)),iP (0-(b:Int))] (zp _ _ _ aD aC aC aD),
  iu (0-(b:Int)) aC,ag [bP ((jh a (false,(1*2^24))).1),gW (gV ((jh a (false,(1*2^24))).2)),iP (0-(b:Int))] (zp _ _ _ aD aC aC aD),ai 45 ((0:Int) != 0) aE,ai 48 ((0:Int) != 0) aE,.c (ES (canon ((jh a (!false,(1*2^24))).1) ((jh a (!false,(1*2^24))).2) (0-(b:Int))) p aD aC aC),.c (ET (canon ((jh a (false,(1*2^24))).1) ((jh a (false,(1*2^24))).2) (0-(b:Int))) p aD aC aC)]<|.w ((jf (canon ((jh a ((!false),(1*2^24))).1) ((jh a ((!false),(1*2^24))).2) (0-(b:Int))) p false)=0)
  (λk1=>ae [tB 64 (aW k1)]<|.w ((jf (canon ((jh a (false,(1*2^24))).1) ((jh a (false,(1*2^24))).2) (0-(b:Int))) p true)=0)
   (λk2=>ae [tB 67 (aW k2)]<|rQ (ia (Iv.mk (jk (canon ((jh a ((!false),(1*2^24))).1) ((jh a ((!false),(1*2^24))).2) (0-(b:Int))) p false) (jk (canon ((jh a (false,(1*2^24))).1) ((jh a (false,(1*2^24))).2) (0-(b:Int))) p true) false)) (ia (qU a b p)) (by rw[hN,abE k1 k2]))
   (λk2=>ae [tB 67 (aX k2),.c mq]<|rQ (ia ie) (ia (qU a b p)) (by rw[hN,Q2 (.inr k2)])))
  (λk1=>ae [tB 64 (aX k1),.c mq]<|rQ (ia ie) (ia (qU a b p)) (by rw[hN,Q2 (.inl k1)]))) 
def V6(d:Dy)(p:Nat)(hd:d.gX)(h0:d.iJ=0)(ig:8<=p)(gY:p<=512):gU 396 [gZ d,bP true,iP p] (ia (iF 1)):=by
 have hv:=ql (n:=1) aE;exact ak call396 func396 (af [ag [gZ d] (nE _ aD),ah 14 ((Dy.iJ d)==0) (by rw[h0];rfl),ag [iP 1] (pF _ aC),.c (Ae (iK 1) aD)]) 
def VY(d:Dy)(p:Nat)(r s c:Bool×Nat)(hd:d.gX)(h0:d.iJ≠0)(oi:gU 405 [gZ d,iP ((p+64:Nat):Int)] (.ik [.agg [bP r.1,gW (gV r.2)],iP 0]))(oj:gU 406 [.agg [bP r.1,gW (gV r.2)],iP ((p+64:Nat):Int)] (.ik [.agg [bP s.1,gW (gV s.2)],.agg [bP c.1,gW (gV c.2)]]))(zs:s.2<2^3000)(zc:c.2<2^3000)(ig:8<=p)(gY:p<=512):gU 396 [gZ d,bP true,iP p] (ia (qU c (p+64) p)):=by
 have zk:c.2<2^3000:=zc;exact ak call396 func396 (af [ag [gZ d] (nE _ aD),ai 14 ((Dy.iJ d)==0) (by simpa using h0),iu ((p:Int)+64) aC,ag [gZ d,iP ((p+64:Nat):Int)] oi,ag [.agg [bP r.1,gW (gV r.2)],iP ((p+64:Nat):Int)] oj,iu (0+1) aC,.a (aC:0<(4:Int)),.o 38 (aq (Int.tmod (0+1) 4) 1 aE),ah 40 ((1:Int)==1) aE,ag [.agg [bP c.1,gW (gV c.2)],iP ((p+64:Nat):Int),iP p] (xK c _ _ aD aC aC aC)]) 
def VZ(d:Dy)(p:Nat)(r s c:Bool×Nat)(hd:d.gX)(h0:d.iJ≠0)(oi:gU 405 [gZ d,iP ((p+64:Nat):Int)] (.ik [.agg [bP r.1,gW (gV r.2)],iP 1]))(oj:gU 406 [.agg [bP r.1,gW (gV r.2)],iP ((p+64:Nat):Int)] (.ik [.agg [bP s.1,gW (gV s.2)],.agg [bP c.1,gW (gV c.2)]]))(zs:s.2<2^3000)(zc:c.2<2^3000)(ig:8<=p)(gY:p<=512):gU 396 [gZ d,bP true,iP p] (ia (qU ((!s.1),s.2) (p+64) p)):=by
 have zk:((!s.1),s.2).2<2^3000:=zs;exact ak call396 func396 (af [ag [gZ d] (nE _ aD),ai 14 ((Dy.iJ d)==0) (by simpa using h0),iu ((p:Int)+64) aC,ag [gZ d,iP ((p+64:Nat):Int)] oi,ag [.agg [bP r.1,gW (gV r.2)],iP ((p+64:Nat):Int)] oj,iu (1+1) aC,.a (aC:0<(4:Int)),.o 38 (aq (Int.tmod (1+1) 4) 2 aE),ai 40 ((2:Int)==1) aE,ah 43 ((2:Int)==2) aE,ag [.agg [bP s.1,gW (gV s.2)]] (ur (s.1,s.2)),ag [.agg [bP (!s.1),gW (gV s.2)],iP ((p+64:Nat):Int),iP p] (xK ((!s.1),s.2) _ _ aD aC aC aC)]) 
def V0(d:Dy)(p:Nat)(r s c:Bool×Nat)(hd:d.gX)(h0:d.iJ≠0)(oi:gU 405 [gZ d,iP ((p+64:Nat):Int)] (.ik [.agg [bP r.1,gW (gV r.2)],iP 2]))(oj:gU 406 [.agg [bP r.1,gW (gV r.2)],iP ((p+64:Nat):Int)] (.ik [.agg [bP s.1,gW (gV s.2)],.agg [bP c.1,gW (gV c.2)]]))(zs:s.2<2^3000)(zc:c.2<2^3000)(ig:8<=p)(gY:p<=512):gU 396 [gZ d,bP true,iP p] (ia (qU ((!c.1),c.2) (p+64) p)):=by
 have zk:((!c.1),c.2).2<2^3000:=zc;exact ak call396 func396 (af [ag [gZ d] (nE _ aD),ai 14 ((Dy.iJ d)==0) (by simpa using h0),iu ((p:Int)+64) aC,ag [gZ d,iP ((p+64:Nat):Int)] oi,ag [.agg [bP r.1,gW (gV r.2)],iP ((p+64:Nat):Int)] oj,iu (2+1) aC,.a (aC:0<(4:Int)),.o 38 (aq (Int.tmod (2+1) 4) 3 aE),ai 40 ((3:Int)==1) aE,ai 43 ((3:Int)==2) aE,ah 47 ((3:Int)==3) aE,ag [.agg [bP c.1,gW (gV c.2)]] (ur (c.1,c.2)),ag [.agg [bP (!c.1),gW (gV c.2)],iP ((p+64:Nat):Int),iP p] (xK ((!c.1),c.2) _ _ aD aC aC aC)]) 
def V1(d:Dy)(p:Nat)(r s c:Bool×Nat)(hd:d.gX)(h0:d.iJ≠0)(oi:gU 405 [gZ d,iP ((p+64:Nat):Int)] (.ik [.agg [bP r.1,gW (gV r.2)],iP 3]))(oj:gU 406 [.agg [bP r.1,gW (gV r.2)],iP ((p+64:Nat):Int)] (.ik [.agg [bP s.1,gW (gV s.2)],.agg [bP c.1,gW (gV c.2)]]))(zs:s.2<2^3000)(zc:c.2<2^3000)(ig:8<=p)(gY:p<=512):gU 396 [gZ d,bP true,iP p] (ia (qU s (p+64) p)):=by
 have zk:s.2<2^3000:=zs;exact ak call396 func396 (af [ag [gZ d] (nE _ aD),ai 14 ((Dy.iJ d)==0) (by simpa using h0),iu ((p:Int)+64) aC,ag [gZ d,iP ((p+64:Nat):Int)] oi,ag [.agg [bP r.1,gW (gV r.2)],iP ((p+64:Nat):Int)] oj,iu (3+1) aC,.a (aC:0<(4:Int)),.o 38 (aq (Int.tmod (3+1) 4) 0 aE),ai 40 ((0:Int)==1) aE,ai 43 ((0:Int)==2) aE,ai 47 ((0:Int)==3) aE,ag [.agg [bP s.1,gW (gV s.2)],iP ((p+64:Nat):Int),iP p] (xK s _ _ aD aC aC aC)]) 
def V7(d:Dy)(p:Nat)(hd:d.gX)(h0:d.iJ=0)(ig:8<=p)(gY:p<=512):gU 396 [gZ d,bP false,iP p] (ia (kK d)):=
 ak call396 func396 (af [ag [gZ d] (nE _ aD),ah 14 ((Dy.iJ d)==0) (by rw[h0];rfl),.c (Ae d aD)]) 
def V2(d:Dy)(p:Nat)(r s c:Bool×Nat)(hd:d.gX)(h0:d.iJ≠0)(oi:gU 405 [gZ d,iP ((p+64:Nat):Int)] (.ik [.agg [bP r.1,gW (gV r.2)],iP 0]))(oj:gU 406 [.agg [bP r.1,gW (gV r.2)],iP ((p+64:Nat):Int)] (.ik [.agg [bP s.1,gW (gV s.2)],.agg [bP c.1,gW (gV c.2)]]))(zs:s.2<2^3000)(zc:c.2<2^3000)(ig:8<=p)(gY:p<=512):gU 396 [gZ d,bP false,iP p] (ia (qU s (p+64) p)):=by
 have zk:s.2<2^3000:=zs;exact ak call396 func396 (af [ag [gZ d] (nE _ aD),ai 14 ((Dy.iJ d)==0) (by simpa using h0),iu ((p:Int)+64) aC,ag [gZ d,iP ((p+64:Nat):Int)] oi,ag [.agg [bP r.1,gW (gV r.2)],iP ((p+64:Nat):Int)] oj,.a (aC:0<(4:Int)),.o 38 (aq (Int.tmod 0 4) 0 aE),ai 40 ((0:Int)==1) aE,ai 43 ((0:Int)==2) aE,ai 47 ((0:Int)==3) aE,ag [.agg [bP s.1,gW (gV s.2)],iP ((p+64:Nat):Int),iP p] (xK s _ _ aD aC aC aC)]) 
def V3(d:Dy)(p:Nat)(r s c:Bool×Nat)(hd:d.gX)(h0:d.iJ≠0)(oi:gU 405 [gZ d,iP ((p+64:Nat):Int)] (.ik [.agg [bP r.1,gW (gV r.2)],iP 1]))(oj:gU 406 [.agg [bP r.1,gW (gV r.2)],iP ((p+64:Nat):Int)] (.ik [.agg [bP s.1,gW (gV s.2)],.agg [bP c.1,gW (gV c.2)]]))(zs:s.2<2^3000)(zc:c.2<2^3000)(ig:8<=p)(gY:p<=512):gU 396 [gZ d,bP false,iP p] (ia (qU c (p+64) p)):=by
 have zk:c.2<2^3000:=zc;exact ak call396 func396 (af [ag [gZ d] (nE _ aD),ai 14 ((Dy.iJ d)==0) (by simpa using h0),iu ((p:Int)+64) aC,ag [gZ d,iP ((p+64:Nat):Int)] oi,ag [.agg [bP r.1,gW (gV r.2)],iP ((p+64:Nat):Int)] oj,.a (aC:0<(4:Int)),.o 38 (aq (Int.tmod 1 4) 1 aE),ah 40 ((1:Int)==1) aE,ag [.agg [bP c.1,gW (gV c.2)],iP ((p+64:Nat):Int),iP p] (xK c _ _ aD aC aC aC)]) 
def V4(d:Dy)(p:Nat)(r s c:Bool×Nat)(hd:d.gX)(h0:d.iJ≠0)(oi:gU 405 [gZ d,iP ((p+64:Nat):Int)] (.ik [.agg [bP r.1,gW (gV r.2)],iP 2]))(oj:gU 406 [.agg [bP r.1,gW (gV r.2)],iP ((p+64:Nat):Int)] (.ik [.agg [bP s.1,gW (gV s.2)],.agg [bP c.1,gW (gV c.2)]]))(zs:s.2<2^3000)(zc:c.2<2^3000)(ig:8<=p)(gY:p<=512):gU 396 [gZ d,bP false,iP p] (ia (qU ((!s.1),s.2) (p+64) p)):=by
 have zk:((!s.1),s.2).2<2^3000:=zs;exact ak call396 func396 (af [ag [gZ d] (nE _ aD),ai 14 ((Dy.iJ d)==0) (by simpa using h0),iu ((p:Int)+64) aC,ag [gZ d,iP ((p+64:Nat):Int)] oi,ag [.agg [bP r.1,gW (gV r.2)],iP ((p+64:Nat):Int)] oj,.a (aC:0<(4:Int)),.o 38 (aq (Int.tmod 2 4) 2 aE),ai 40 ((2:Int)==1) aE,ah 43 ((2:Int)==2) aE,ag [.agg [bP s.1,gW (gV s.2)]] (ur (s.1,s.2)),ag [.agg [bP (!s.1),gW (gV s.2)],iP ((p+64:Nat):Int),iP p] (xK ((!s.1),s.2) _ _ aD aC aC aC)]) 
def V5(d:Dy)(p:Nat)(r s c:Bool×Nat)(hd:d.gX)(h0:d.iJ≠0)(oi:gU 405 [gZ d,iP ((p+64:Nat):Int)] (.ik [.agg [bP r.1,gW (gV r.2)],iP 3]))(oj:gU 406 [.agg [bP r.1,gW (gV r.2)],iP ((p+64:Nat):Int)] (.ik [.agg [bP s.1,gW (gV s.2)],.agg [bP c.1,gW (gV c.2)]]))(zs:s.2<2^3000)(zc:c.2<2^3000)(ig:8<=p)(gY:p<=512):gU 396 [gZ d,bP false,iP p] (ia (qU ((!c.1),c.2) (p+64) p)):=by
 have zk:((!c.1),c.2).2<2^3000:=zc;exact ak call396 func396 (af [ag [gZ d] (nE _ aD),ai 14 ((Dy.iJ d)==0) (by simpa using h0),iu ((p:Int)+64) aC,ag [gZ d,iP ((p+64:Nat):Int)] oi,ag [.agg [bP r.1,gW (gV r.2)],iP ((p+64:Nat):Int)] oj,.a (aC:0<(4:Int)),.o 38 (aq (Int.tmod 3 4) 3 aE),ai 40 ((3:Int)==1) aE,ai 43 ((3:Int)==2) aE,ah 47 ((3:Int)==3) aE,ag [.agg [bP c.1,gW (gV c.2)]] (ur (c.1,c.2)),ag [.agg [bP (!c.1),gW (gV c.2)],iP ((p+64:Nat):Int),iP p] (xK ((!c.1),c.2) _ _ aD aC aC aC)]) 
def MW{d:Dy}(hd:d.gX)(ht:d.ij<=100)(cs:Bool){p:Nat}(ig:8<=p)(gY:p<=512):∃ Z,Z.gX/\gU 396 [gZ d,bP cs,iP (p:Int)] (ia Z):=by
 by_cases h0:d.iJ=0
 .cases cs with
  |true=>exact⟨_,tK aE,V6 d p hd h0 ig gY⟩
  |false=>exact⟨_,rk hd,V7 d p hd h0 ig gY⟩
 .obtain ⟨r,k,hr,hk,oi⟩:=V8 d (p+64) hd aC aC ht;obtain⟨s,c,zs,zc,oj⟩:=Wf r (p+64) hr aC;have zs:=D3 zs (k:=3000) aC;have zc:=D3 zc (k:=3000) aC;have hv:∀ a:Bool×Nat,(qU a (p+64) p).gX:=λa=>ack a _ aC aC 
  rcases(aC:k=0\/k=1\/k=2\/k=3)with rfl|rfl|rfl|rfl
  .cases cs with
   |true=>exact⟨_,hv _,VY d p r s c hd h0 oi oj zs zc ig gY⟩
   |false=>exact⟨_,hv _,V2 d p r s c hd h0 oi oj zs zc ig gY⟩
  .cases cs with
   |true=>exact⟨_,hv _,VZ d p r s c hd h0 oi oj zs zc ig gY⟩
   |false=>exact⟨_,hv _,V3 d p r s c hd h0 oi oj zs zc ig gY⟩
  .cases cs with
   |true=>exact⟨_,hv _,V0 d p r s c hd h0 oi oj zs zc ig gY⟩
   |false=>exact⟨_,hv _,V4 d p r s c hd h0 oi oj zs zc ig gY⟩
  .cases cs with
   |true=>exact⟨_,hv _,V1 d p r s c hd h0 oi oj zs zc ig gY⟩
   |false=>exact⟨_,hv _,V5 d p r s c hd h0 oi oj zs zc ig gY⟩
def aaG:(iK (-1)).neg=true/\(iK (-1)).m=1/\(iK (-1)).e=0:= aL 
def Wi : gU 412 [iP (-1)] (.agg [bP true,gW (gV 1)]):=by
 obtain⟨q1,q2,q3⟩:=aaG;have z1:(gV (iK (-1)).m).length<=256:=by rw[q2];exact ri aE 
 have z2:(gV ((iK (-1)).m*2^(Int.toNat (iK (-1)).e))).length<=256:=by rw[q2,q3];exact ri aE 
 exact ak call412 func412 (ae [ag [iP (-1)] (pF _ aC),ag [gW (gV ((iK (-1)).m)),iP ((iK (-1)).e)] (Il _ _ aD aC aC aD)]<|rQ (.agg [bP ((iK (-1)).neg),gW (gV (((iK (-1)).m)*2^(Int.toNat ((iK (-1)).e))))]) (.agg [bP true,gW (gV 1)]) (by rw[q1,q2,q3];rfl)) 
def VP(a c:Bool×Nat)(za:(gV a.2).length<=256)(zc:(gV c.2).length<=256)(c0:c.2≠0)(zs:(gV (a.2/c.2+1)).length<=256)(h1:a.1=false):gU 414 [.agg [bP a.1,gW (gV a.2)],.agg [bP c.1,gW (gV c.2)]] (.agg [bP ((od a c).1),gW (gV ((od a c).2))]):=by
 have zq:(gV (a.2/c.2)).length<=256:=bj (lH (bU _ _)) za;have zr:(gV (a.2%c.2)).length<=256:=bj (lH (ek _ _)) za;have z1:(gV 1).length<=256:=ri aE;have e:od a c=(a.1,a.2/c.2):=by unfold od;rw[aY (by rw[h1];exact λq=>Bool.noConfusion q.1)]
 exact ak call414 func414 (ae [ag [gW (gV a.2),gW (gV c.2)] (xi _ _ aC aC aD),ai 19 a.1 h1,ai 23 a.1 h1]<|rQ (.agg [bP false,gW (gV (a.2/c.2))]) (.agg [bP ((od a c).1),gW (gV ((od a c).2))]) (by rw[e,h1])) 
def VM(a c:Bool×Nat)(za:(gV a.2).length<=256)(zc:(gV c.2).length<=256)(c0:c.2≠0)(zs:(gV (a.2/c.2+1)).length<=256)(h1:a.1=true)(h2:a.2%c.2=0):gU 414 [.agg [bP a.1,gW (gV a.2)],.agg [bP c.1,gW (gV c.2)]] (.agg [bP ((od a c).1),gW (gV ((od a c).2))]):=by
 have zq:(gV (a.2/c.2)).length<=256:=bj (lH (bU _ _)) za;have zr:(gV (a.2%c.2)).length<=256:=bj (lH (ek _ _)) za;have z1:(gV 1).length<=256:=ri aE;have e:od a c=(a.1,a.2/c.2):=by unfold od;rw[aY (λq=>q.2 h2)]
 exact ak call414 func414 (ae [ag [gW (gV a.2),gW (gV c.2)] (xi _ _ aC aC aD),ah 19 a.1 h1,ah 23 a.1 h1,ag [gW (gV (a.2%c.2))] (qT _ aC),tF 27 (0<(ib (a.2%c.2):Int)) (by rw[h2,qO];decide)]<|rQ (.agg [bP true,gW (gV (a.2/c.2))]) (.agg [bP ((od a c).1),gW (gV ((od a c).2))]) (by rw[e,h1])) 
def VN(a c:Bool×Nat)(za:(gV a.2).length<=256)(zc:(gV c.2).length<=256)(c0:c.2≠0)(zs:(gV (a.2/c.2+1)).length<=256)(h1:a.1=true)(h2:a.2%c.2≠0):gU 414 [.agg [bP a.1,gW (gV a.2)],.agg [bP c.1,gW (gV c.2)]] (.agg [bP ((od a c).1),gW (gV ((od a c).2))]):=by
 have zq:(gV (a.2/c.2)).length<=256:=bj (lH (bU _ _)) za;have zr:(gV (a.2%c.2)).length<=256:=bj (lH (ek _ _)) za;have z1:(gV 1).length<=256:=ri aE;have e:od a c=jh (a.1,a.2/c.2) (true,1):=by unfold od;rw[aZ ⟨h1,h2⟩]
 exact ak call414 func414 (ae [ag [gW (gV a.2),gW (gV c.2)] (xi _ _ aC aC aD),ah 19 a.1 h1,ah 23 a.1 h1,ag [gW (gV (a.2%c.2))] (qT _ aC),tT 27 (0<(ib (a.2%c.2):Int)) (by have:=np h2;omega),.c Wi,ag [.agg [bP true,gW (gV (a.2/c.2))],.agg [bP true,gW (gV 1)]] (q8 (true,(a.2/c.2)) aD (true,1) aD aD)]<|rQ (.agg [bP ((jh (true,(a.2/c.2)) (true,1)).1),gW (gV ((jh (true,(a.2/c.2)) (true,1)).2))]) (.agg [bP ((od a c).1),gW (gV ((od a c).2))]) (by rw[e,h1])) 
def VO(a c:Bool×Nat)(za:(gV a.2).length<=256)(zc:(gV c.2).length<=256)(c0:c.2≠0)(zs:(gV (a.2/c.2+1)).length<=256):gU 414 [.agg [bP a.1,gW (gV a.2)],.agg [bP c.1,gW (gV c.2)]] (.agg [bP ((od a c).1),gW (gV ((od a c).2))]):=by
 cases h1:a.1 with
 |false=>rw[<-h1];exact VP a c za zc c0 zs h1
 |true=>
  rw[<-h1];by_cases h2:a.2%c.2=0
  .exact VM a c za zc c0 zs h1 h2
  .exact VN a c za zc c0 zs h1 h2
def VU(x:Iv)(n p t w2 sg eg mm:Nat)(cp u v c1 a0 a1 k l0 d0 d1:Bool×Nat)(hx:x.gX)(xa:x.all=false)(hn:n<=3)(gY:p<=2000)(ht:(t:Int)=max (max x.lo.ij x.hi.ij) 0)(t2:t<=2000)(zd:(gV d1.2).length<=256)(pR:gU 409 [iP (((p+t)+40:Nat):Int)] (.agg [bP cp.1,gW (gV cp.2)]))(hU:gU 415 [gZ x.hi,iP (((p+t)+40:Nat):Int)] (.agg [bP u.1,gW (gV u.2)]))(hV:gU 415 [gZ x.lo,iP (((p+t)+40:Nat):Int)] (.agg [bP v.1,gW (gV v.2)]))(hW:gU 410 [gW (gV cp.2),iP ((1:Nat):Int)] (gW (gV w2)))(Bf:gU 413 [.agg [bP false,gW (gV n)],.agg [bP cp.1,gW (gV cp.2)],iP ((0:Nat):Int)] (.agg [bP c1.1,gW (gV c1.2)]))(hS:gU 411 [gW (gV c1.2),iP ((1:Nat):Int)] (gW (gV sg)))(hE:gU 410 [gW (gV 1),iP (((t+24)+4:Nat):Int)] (gW (gV eg)))(sx:gU 416 [.agg [bP u.1,gW (gV u.2)],.agg [bP (!false),gW (gV sg)]] (.agg [bP a0.1,gW (gV a0.2)]))(xW:gU 416 [.agg [bP a0.1,gW (gV a0.2)],.agg [bP false,gW (gV eg)]] (.agg [bP a1.1,gW (gV a1.2)]))(hK:gU 414 [.agg [bP a1.1,gW (gV a1.2)],.agg [bP false,gW (gV w2)]] (.agg [bP k.1,gW (gV k.2)]))(hM:gU 218 [gW (gV k.2),gW (gV w2)] (.ik [gW (gV mm),iP 0]))(tg:gU 416 [.agg [bP k.1,gW (gV mm)],.agg [bP false,gW (gV sg)]] (.agg [bP l0.1,gW (gV l0.2)]))(vC:gU 416 [.agg [bP l0.1,gW (gV l0.2)],.agg [bP (!v.1),gW (gV v.2)]] (.agg [bP d0.1,gW (gV d0.2)]))(Bg:gU 416 [.agg [bP d0.1,gW (gV d0.2)],.agg [bP false,gW (gV eg)]] (.agg [bP d1.1,gW (gV d1.2)]))(hz:d1.2=0):gU 397 [ia x,iP n,iP p] (bP true):=by
 obtain⟨w1,w2'⟩:=hx.jC;have z1:(gV 1).length<=256:=ri aE;exact ak call397 func397 (af [ag [gZ x.lo] (nx _ aD),ag [gZ x.hi] (nx _ aD),.o 24 (aq (if 0>(if(Dy.ij x.hi)>(Dy.ij x.lo)then(Dy.ij x.hi)else(Dy.ij x.lo))then 0 else(if(Dy.ij x.hi)>(Dy.ij x.lo)then(Dy.ij x.hi)else(Dy.ij x.lo))) t (by(repeat' split)<;>omega)),
  iu ((p:Int)+t) aC,iu (((p+t:Nat):Int)+40) aC,ag [iP (((p+t)+40:Nat):Int)] pR,ag [gW (gV cp.2),iP 1] hW,.c (Io n aC),ag [.agg [bP false,gW (gV n)],.agg [bP cp.1,gW (gV cp.2)],iP 0] Bf,ag [gW (gV c1.2),iP 1] hS,.o 42 (.e wa:aj (.sl false 1 1 λi_ j_=>[.v (.int .u32 1)].getD (i_*1+j_) (.v (.bool false))) (gW (gV 1))),iu ((t:Int)+24) aC,iu (((t+24:Nat):Int)+4) aC,ag [gW (gV 1),iP (((t+24)+4:Nat):Int)] hE,ag [gZ x.hi,iP (((p+t)+40:Nat):Int)] hU,ag [.agg [bP false,gW (gV sg)]] (ur (false,sg)),ag [.agg [bP u.1,gW (gV u.2)],.agg [bP (!false),gW (gV sg)]] sx,ag [.agg [bP a0.1,gW (gV a0.2)],.agg [bP false,gW (gV eg)]] xW,ag [.agg [bP a1.1,gW (gV a1.2)],.agg [bP false,gW (gV w2)]] hK,ag [gW (gV k.2),gW (gV w2)] hM,ag [.agg [bP k.1,gW (gV mm)],.agg [bP false,gW (gV sg)]] tg,ag [gZ x.lo,iP (((p+t)+40:Nat):Int)] hV,ag [.agg [bP v.1,gW (gV v.2)]] (ur (v.1,v.2)),ag [.agg [bP l0.1,gW (gV l0.2)],.agg [bP (!v.1),gW (gV v.2)]] vC,ag [.agg [bP d0.1,gW (gV d0.2)],.agg [bP false,gW (gV eg)]] Bg,ag [.agg [bP d1.1,gW (gV d1.2)]] (Bb (d1.1,d1.2) aD),tB 83 (bh hz)]) 
def VT(x:Iv)(n p t w2 sg eg mm:Nat)(cp u v c1 a0 a1 k l0 d0 d1:Bool×Nat)(hx:x.gX)(xa:x.all=false)(hn:n<=3)(gY:p<=2000)(ht:(t:Int)=max (max x.lo.ij x.hi.ij) 0)(t2:t<=2000)(zd:(gV d1.2).length<=256)(pR:gU 409 [iP (((p+t)+40:Nat):Int)] (.agg [bP cp.1,gW (gV cp.2)]))(hU:gU 415 [gZ x.hi,iP (((p+t)+40:Nat):Int)] (.agg [bP u.1,gW (gV u.2)]))(hV:gU 415 [gZ x.lo,iP (((p+t)+40:Nat):Int)] (.agg [bP v.1,gW (gV v.2)]))(hW:gU 410 [gW (gV cp.2),iP ((1:Nat):Int)] (gW (gV w2)))(Bf:gU 413 [.agg [bP false,gW (gV n)],.agg [bP cp.1,gW (gV cp.2)],iP ((0:Nat):Int)] (.agg [bP c1.1,gW (gV c1.2)]))(hS:gU 411 [gW (gV c1.2),iP ((1:Nat):Int)] (gW (gV sg)))(hE:gU 410 [gW (gV 1),iP (((t+24)+4:Nat):Int)] (gW (gV eg)))(sx:gU 416 [.agg [bP u.1,gW (gV u.2)],.agg [bP (!false),gW (gV sg)]] (.agg [bP a0.1,gW (gV a0.2)]))(xW:gU 416 [.agg [bP a0.1,gW (gV a0.2)],.agg [bP false,gW (gV eg)]] (.agg [bP a1.1,gW (gV a1.2)]))(hK:gU 414 [.agg [bP a1.1,gW (gV a1.2)],.agg [bP false,gW (gV w2)]] (.agg [bP k.1,gW (gV k.2)]))(hM:gU 218 [gW (gV k.2),gW (gV w2)] (.ik [gW (gV mm),iP 0]))(tg:gU 416 [.agg [bP k.1,gW (gV mm)],.agg [bP false,gW (gV sg)]] (.agg [bP l0.1,gW (gV l0.2)]))(vC:gU 416 [.agg [bP l0.1,gW (gV l0.2)],.agg [bP (!v.1),gW (gV v.2)]] (.agg [bP d0.1,gW (gV d0.2)]))(Bg:gU 416 [.agg [bP d0.1,gW (gV d0.2)],.agg [bP false,gW (gV eg)]] (.agg [bP d1.1,gW (gV d1.2)]))(hz:¬d1.2=0):gU 397 [ia x,iP n,iP p] (bP (!d1.1)):=by
 obtain⟨w1,w2'⟩:=hx.jC;have z1:(gV 1).length<=256:=ri aE;exact ak call397 func397 (af [ag [gZ x.lo] (nx _ aD),ag [gZ x.hi] (nx _ aD),.o 24 (aq (if 0>(if(Dy.ij x.hi)>(Dy.ij x.lo)then(Dy.ij x.hi)else(Dy.ij x.lo))then 0 else(if(Dy.ij x.hi)>(Dy.ij x.lo)then(Dy.ij x.hi)else(Dy.ij x.lo))) t (by(repeat' split)<;>omega)),
  iu ((p:Int)+t) aC,iu (((p+t:Nat):Int)+40) aC,ag [iP (((p+t)+40:Nat):Int)] pR,ag [gW (gV cp.2),iP 1] hW,.c (Io n aC),ag [.agg [bP false,gW (gV n)],.agg [bP cp.1,gW (gV cp.2)],iP 0] Bf,ag [gW (gV c1.2),iP 1] hS,.o 42 (.e wa:aj (.sl false 1 1 λi_ j_=>[.v (.int .u32 1)].getD (i_*1+j_) (.v (.bool false))) (gW (gV 1))),iu ((t:Int)+24) aC,iu (((t+24:Nat):Int)+4) aC,ag [gW (gV 1),iP (((t+24)+4:Nat):Int)] hE,ag [gZ x.hi,iP (((p+t)+40:Nat):Int)] hU,ag [.agg [bP false,gW (gV sg)]] (ur (false,sg)),ag [.agg [bP u.1,gW (gV u.2)],.agg [bP (!false),gW (gV sg)]] sx,ag [.agg [bP a0.1,gW (gV a0.2)],.agg [bP false,gW (gV eg)]] xW,ag [.agg [bP a1.1,gW (gV a1.2)],.agg [bP false,gW (gV w2)]] hK,ag [gW (gV k.2),gW (gV w2)] hM,ag [.agg [bP k.1,gW (gV mm)],.agg [bP false,gW (gV sg)]] tg,ag [gZ x.lo,iP (((p+t)+40:Nat):Int)] hV,ag [.agg [bP v.1,gW (gV v.2)]] (ur (v.1,v.2)),ag [.agg [bP l0.1,gW (gV l0.2)],.agg [bP (!v.1),gW (gV v.2)]] vC,ag [.agg [bP d0.1,gW (gV d0.2)],.agg [bP false,gW (gV eg)]] Bg,ag [.agg [bP d1.1,gW (gV d1.2)]] (Bb (d1.1,d1.2) aD),tB 83 (bg hz)]) 
def CK{a b:Bool×Nat}{i j n:Nat}(ha:a.2<2^i)(hb:b.2<2^j)(hi:i<=n)(hj:j<=n)(hn:n<=8000):∃ r:Bool×Nat,r.2<2^(n+1)/\gU 416 [.agg [bP a.1,gW (gV a.2)],.agg [bP b.1,gW (gV b.2)]] (.agg [bP r.1,gW (gV r.2)]):=
 ⟨jh a b,Yx ha hb hi hj,q8 a (kE ha aC) b (kE hb aC) (kE (Gv ha hb hi hj) aC)⟩
def VS{x:Iv}(hx:x.gX)(xa:x.all=false)(n:Nat)(hn:n<=3)(p:Nat)(gY:p<=1000)(h1:x.lo.ij<=100)(h2:x.hi.ij<=100):∃ r:Bool,gU 397 [ia x,iP (n:Int),iP (p:Int)] (bP r):=by
 obtain⟨w1,w2⟩:=hx.jC;obtain⟨t,ht⟩:∃ t:Nat,(t:Int)=max (max x.lo.ij x.hi.ij) 0:=⟨(max (max x.lo.ij x.hi.ij) 0).toNat,aC⟩
 obtain⟨cp,c1,c2,c3,pR⟩:=MV (p+t+40) aC aC;have hU:=Im x.hi w2 (p+t+40) 6000 aC aE aC;have hV:=Im x.lo w1 (p+t+40) 6000 aC aE aC;have yu:=Gr (d:=x.hi) (b:=p+t+40) (K:=6000) aC;have yv:=Gr (d:=x.lo) (b:=p+t+40) (K:=6000) aC;have yc:=D3 (m:=cp.2) (i:=p+t+40+3) (k:=2000) (by have e:(2:Nat)^(p+t+40+3)=2^(p+t+40)*8:=bk 2 _ 3;have:0<2^(p+t+40):=bn aE;omega) aC;generalize pM x.hi (p+t+40)=u at hU yu;generalize pM x.lo (p+t+40)=v at hV yv;obtain⟨K,hK⟩:∃ K,K=6000:=⟨_,rfl⟩
 rw[<-hK]at yu yv;obtain⟨J,hJ⟩:∃ J,J=2000:=⟨_,rfl⟩
 rw[<-hJ]at yc;have zc:(gV cp.2).length<=256:=kE yc aC;have yw:cp.2*2^1<2^(J+1):=by have e:2^(J+1)=2^J*2:=bw _ _;omega
 have hW:=xJ cp.2 1 zc aE (kE yw aC);have w0:cp.2*2^1≠0:= aC ;generalize cp.2*2^1=w at hW yw w0;have yn:n*cp.2<2^(J+2):=by have e:2^(J+2)=2^J*4:=bk 2 J 2;have:=bI cp.2 hn;omega
 have Bf:=I3 (false,n) (ri (by show n<_;omega)) cp zc 0 aE (kE yn aC);have y1:n*cp.2/2^0<2^(J+2):=cr (bU _ _) yn;obtain⟨q,hq⟩:∃ q:Bool×Nat,q=(false != cp.1,n*cp.2/2^0):=⟨_,rfl⟩
 have yq:q.2<2^(J+2):=by rw[hq];exact y1
 have OQ:gU 413 [.agg [bP false,gW (gV n)],.agg [bP cp.1,gW (gV cp.2)],iP ((0:Nat):Int)] (.agg [bP q.1,gW (gV q.2)]):=by rw[hq];exact Bf
 clear Bf hq;have hS:=uj q.2 1 (kE yq aC) aE;have ys:q.2/2^1<2^(J+2):=cr (bU _ _) yq;generalize q.2/2^1=sg at hS ys;have ye:1*2^(t+24+4)<2^K:=by rw[bT];exact gh aE aC 
 have hE:=xJ 1 (t+24+4) (ri aE) aC (kE ye aC);generalize 1*2^(t+24+4)=eg at hE ye;obtain⟨a0,x0,sx⟩:=CK (b:=(!false,sg)) yu ys (n:=K) aC aC aC;obtain⟨a1,x1,xW⟩:=CK (b:=(false,eg)) x0 ye (n:=K+1) aC aC aC;have yf:a1.2/w+1<2^(K+3):=by
  have e:2^(K+3)=2^(K+1+1)*2:=bw _ _;have:=bU a1.2 w;have:0<2^(K+1+1):=bn aE;omega
 have hF:=VO a1 (false,w) (kE x1 aC) (kE yw aC) w0 (kE yf aC);have yk:=cr (Oq a1 (false,w)) yf;have ym:(od a1 (false,w)).2*w<2^(K+3):=cr (YD a1 (false,w)) (Gv (n:=K+2) x1 yw aC aC);generalize od a1 (false,w)=k at hF yk ym;have hM:=xj k.2 w (kE yk aC) (kE yw aC) (kE ym aC);generalize k.2*w=mm at hM ym;obtain⟨l0,x2,tg⟩:=CK (a:=(k.1,mm)) (b:=(false,sg)) ym ys (n:=K+3) aC aC aC;obtain⟨d0,x3,vC⟩:=CK (b:=(!v.1,v.2)) x2 yv (n:=K+4) aC aC aC;obtain⟨d1,x4,Bg⟩:=CK (b:=(false,eg)) x3 ye (n:=K+5) aC aC aC;by_cases hz:d1.2=0
 .exact ⟨_,VU x n p t w sg eg mm cp u v q a0 a1 k l0 d0 d1 hx xa hn aC ht aC (kE x4 aC) pR hU hV hW OQ hS hE sx xW hF hM tg vC Bg hz⟩
 .exact ⟨_,VT x n p t w sg eg mm cp u v q a0 a1 k l0 d0 d1 hx xa hn aC ht aC (kE x4 aC) pR hU hV hW OQ hS hE sx xW hF hM tg vC Bg hz⟩
def ky:Iv:=⟨iK (-1),iK 1,false⟩
def xw:ky.gX:=.inr ⟨rfl,show(iK (-1)).gX from ql aE,show(iK 1).gX from ql aE,aL⟩
def wI : gU 394 [] (ia ky):=by
 have h1:(iK (-1)).gX:=ql aE;have h2:(iK 1).gX:=ql aE;exact ak call394 func394 (ae [ag [iP (-1)] (pF _ aC),ag [iP 1] (pF _ aC)]<|rR (ia ky) (.iH rfl:E.le (ia (Iv.mk (iK (-1)) (iK 1) false)) (ia ky))) 
def UT(x y:Iv)(hx:x.gX)(hy:y.gX)(xa:(x.all||y.all)=true):gU 258 [ia x,ia y] (ia ie):=
 ak call258 func258 (af [.o 7 (.e (vS _ _):aj (.sl true 2 7 λi_ j_=>(iG x++iG y).getD (i_*7+j_) (.v (.bool false))) (im [x,y])),ag [im [x,y]] (w9 _ _ aD aD),ai 8 (!(x.all||y.all)) (by rw[xa];rfl),.c mq]) 
def UU{x y:Iv}(hx:x.gX)(hy:y.gX):∃ Z,Z.gX/\gU 258 [ia x,ia y] (ia Z):=by
 cases h:(x.all||y.all)with
 |true=>exact⟨ie,kS,UT x y hx hy h⟩
 |false=>
  obtain⟨h1,h2⟩:=ez.1 h;exact⟨By x y,aaw hx hy,UW x y hx hy h1 h2⟩
def U4(x:Iv)(hx:x.gX)(xa:x.all=true):gU 395 [ia x,ia ky] (.ik [ia ky,bP true]):=by
 have hu:=xw;exact ak call395 func395 (af [.c (qR x aD),.c (qR ky aD),ah 19 x.all xa]) 
def U6(x:Iv)(hx:x.gX)(xa:x.all=false)(h:0<jj (iQ x.lo ky.lo) (iT x.hi ky.hi)):gU 395 [ia x,ia ky] (.ik [ia wm,bP false]):=by
 have hu:=xw;obtain⟨v1,v2⟩:=hx.jC;obtain⟨v3,v4⟩:=hu.jC;have m1:=rN v1 v3;have m2:=uT v2 v4;exact ak call395 func395 (ae [.c (qR x aD),.c (qR ky aD),ai 19 x.all xa,ai 23 ky.all rfl,.c (F8 x.lo ky.lo aD aD),.c (F7 x.hi ky.hi aD aD),ag [gZ (iQ x.lo ky.lo),gZ (iT x.hi ky.hi)] (nD _ _ aD aD),tB 41 (bh h)]<|rR (.ik [ia wm,bP false]) (.ik (.cons Ub (.cons (.refl _) .nil)):E.le (.ik [.agg au,bP false]) (.ik [ia wm,bP false]))) 
def U7(x:Iv)(hx:x.gX)(xa:x.all=false)(h:¬0<jj (iQ x.lo ky.lo) (iT x.hi ky.hi)):gU 395 [ia x,ia ky] (.ik [ia (Iv.mk (iQ x.lo ky.lo) (iT x.hi ky.hi) false),bP true]):=by
 have hu:=xw;obtain⟨v1,v2⟩:=hx.jC;obtain⟨v3,v4⟩:=hu.jC;have m1:=rN v1 v3;have m2:=uT v2 v4;exact ak call395 func395 (af [.c (qR x aD),.c (qR ky aD),ai 19 x.all xa,ai 23 ky.all rfl,.c (F8 x.lo ky.lo aD aD),.c (F7 x.hi ky.hi aD aD),ag [gZ (iQ x.lo ky.lo),gZ (iT x.hi ky.hi)] (nD _ _ aD aD),tB 41 (bg h)]) 
structure wq(Y:Iv):Prop where
 v:Y.gX
 f:Y.all=false
 l:jj ky.lo Y.lo<=0
 h:jj Y.hi ky.hi<=0
def af8:wq ky:=⟨xw,rfl,aL,aL⟩
def U5{x:Iv}(hx:x.gX):(∃ Y,wq Y/\gU 395 [ia x,ia ky] (.ik [ia Y,bP true]))\/gU 395 [ia x,ia ky] (.ik [ia wm,bP false]):=by
 cases xa:x.all with
 |true=>exact .inl ⟨ky,af8,U4 x hx xa⟩
 |false=>
  by_cases h:0<jj (iQ x.lo ky.lo) (iT x.hi ky.hi)
  .exact .inr (U6 x hx xa h)
  .have v1:(iQ x.lo ky.lo).gX:=rN hx.jC.1 xw.jC.1;have v2:(iT x.hi ky.hi).gX:=uT hx.jC.2 xw.jC.2;have h1:jj ky.lo (iQ x.lo ky.lo)<=0:=Q6 _ _;have h2:jj (iT x.hi ky.hi) ky.hi<=0:=Q7 _ _;have hq:=U7 x hx xa h;have h3:jj (iQ x.lo ky.lo) (iT x.hi ky.hi)<=0:= aC ;generalize iQ x.lo ky.lo=a at *
   generalize iT x.hi ky.hi=b at *
   exact .inl ⟨⟨a,b,false⟩,⟨.inr ⟨rfl,v1,v2,h3⟩,rfl,h1,h2⟩,hq⟩
def wq.up{Y:Iv}(h:wq Y):wq ⟨Y.lo,iK 1,false⟩:=by
 have e:=h.v.jC;refine⟨.inr ⟨rfl,e.1,ql (n:=1) aE,?_⟩,rfl,h.l,show jj (iK 1) (iK 1)<=0 by decide +kernel⟩;have:=h.v.q;rw[o9];exact bF this ((o9 _ _).1 h.h)
def wq.dn{Y:Iv}(h:wq Y):wq ⟨iK (-1),Y.hi,false⟩:=by
 have e:=h.v.jC;refine⟨.inr ⟨rfl,ql (n:=-1) aE,e.2,?_⟩,rfl,show jj (iK (-1)) (iK (-1))<=0 by decide +kernel,h.h⟩;have:=h.v.q;rw[o9];exact bF ((o9 _ _).1 h.l) this
def EY(p:Nat)(ig:8<=p)(gY:p<=512):gU 393 [iP p] (bP true):=
 ak call393 func393 (af [tT 4 (8<=(p:Int)) aC,tT 7 ((p:Int)<=512) aC]) 
def VG(x:Iv)(cs:Bool)(p:Nat)(hx:x.gX)(xa:x.all=true)(ig:8<=p)(gY:p<=512):gU 369 [ia x,bP cs,iP p] (ia ie):=
 ak call369 func369 (af [.c (EY p aC aC),.c (qR x aD),ah 22 x.all xa,.c mq]) 
def VJ(x:Iv)(cs:Bool)(p:Nat)(hx:x.gX)(xa:x.all=false)(ig:8<=p)(gY:p<=512)(hu:100<x.lo.ij\/100<x.hi.ij\/¬y5 x 64=0\/0<=jj (r6 x 64) (iK 7)):gU 369 [ia x,bP cs,iP p] (ia ky):=by
 obtain⟨w1,w2⟩:=hx.jC;have h7:(iK 7).gX:=ql aE;have wv:(r6 x 64).gX:=rW _ aE aE _;exact ak call369 func369 (ae [.c (EY p aC aC),.c (qR x aD),ai 22 x.all xa,ag [gZ x.lo] (nx _ aD)]<|.w (100<(Dy.ij x.lo))
  (λk1=>af [tB 28 (bh k1),.c wI])
  (λk1=>ae [tB 28 (bg k1),ag [gZ x.hi] (nx _ aD)]<|.w (100<(Dy.ij x.hi))
   (λk2=>af [tB 33 (bh k2),.c wI])
   (λk2=>ae [tB 33 (bg k2),.c (Ig x 64 aD aD aC aC)]<|.w (y5 x 64=0)
    (λk3=>ae [tB 40 (bh k3),ag [iP 7] (pF _ aC),ag [gZ (r6 x 64),gZ (iK 7)] (nD _ _ aD aD)]<|.w (0<=(jj (r6 x 64) (iK 7)))
     (λk4=>af [tB 47 (bh k4),.c wI])
     (λk4=>.x (by rcases hu with q|q|q|q<;>contradiction)))
    (λk3=>af [tB 40 (bg k3),.c wI])))) 
def VI(x:Iv)(cs:Bool)(p:Nat)(hx:x.gX)(xa:x.all=false)(ig:8<=p)(gY:p<=512)(h1:¬100<x.lo.ij)(h2:¬100<x.hi.ij)(h3:y5 x 64=0)(h4:¬0<=jj (r6 x 64) (iK 7))(P1 P2 H:Iv)(vE:∀ c,c=cs->gU 396 [gZ x.lo,bP c,iP (p:Int)] (ia P1))(vF:∀ c,c=cs->gU 396 [gZ x.hi,bP c,iP (p:Int)] (ia P2))(hH:gU 258 [ia P1,ia P2] (ia H))(th:gU 395 [ia H,ia ky] (.ik [ia wm,bP false])):gU 369 [ia x,bP cs,iP p] (ia ky):=by
 obtain⟨w1,w2⟩:=hx.jC;have h7:(iK 7).gX:=ql aE;have wv:(r6 x 64).gX:=rW _ aE aE _;exact ak call369 func369 (af [.c (EY p aC aC),.c (qR x aD),ai 22 x.all xa,ag [gZ x.lo] (nx _ aD),tB 28 (bg h1),ag [gZ x.hi] (nx _ aD),tB 33 (bg h2),.c (Ig x 64 aD aD aC aC),tB 40 (bh h3),ag [iP 7] (pF _ aC),ag [gZ (r6 x 64),gZ (iK 7)] (nD _ _ aD aD),tB 47 (bg h4),ag [gZ x.lo,bP cs,iP p] (vE cs aH),ag [gZ x.hi,bP cs,iP p] (vF cs aH),ag [ia P1,ia P2] hH,.c wI,ag [ia H,ia ky] th,.c wI]) 
def ph(cs:Bool)(R:Nat->Bool)(x Y:Iv):Iv:=if jj x.lo x.hi=0 then Y else⟨if R (if cs=true then 2 else 3)=true then iK (-1)else Y.lo,if R (if cs=true then 0 else 1)=true then iK 1 else Y.hi,Y.all⟩
def VH(x:Iv)(cs:Bool)(p:Nat)(hx:x.gX)(xa:x.all=false)(ig:8<=p)(gY:p<=512)(h1:¬100<x.lo.ij)(h2:¬100<x.hi.ij)(h3:y5 x 64=0)(h4:¬0<=jj (r6 x 64) (iK 7))(P1 P2 H Y:Iv)(hY:wq Y)(vE:∀ c,c=cs->gU 396 [gZ x.lo,bP c,iP (p:Int)] (ia P1))(vF:∀ c,c=cs->gU 396 [gZ x.hi,bP c,iP (p:Int)] (ia P2))(hH:gU 258 [ia P1,ia P2] (ia H))(th:gU 395 [ia H,ia ky] (.ik [ia Y,bP true]))(R:Nat->Bool)(hM:∀ s:Nat,s<=3->gU 397 [ia x,iP (s:Int),iP ((p+64:Nat):Int)] (bP (R s))):gU 369 [ia x,bP cs,iP p] (ia (ph cs R x Y)):=by
 obtain⟨w1,w2⟩:=hx.jC;have h7:(iK 7).gX:=ql aE;have wv:(r6 x 64).gX:=rW _ aE aE _;exact ak call369 func369 (ae [.c (EY p aC aC),.c (qR x aD),ai 22 x.all xa,ag [gZ x.lo] (nx _ aD),tB 28 (bg h1),ag [gZ x.hi] (nx _ aD),tB 33 (bg h2),.c (Ig x 64 aD aD aC aC),tB 40 (bh h3),ag [iP 7] (pF _ aC),ag [gZ (r6 x 64),gZ (iK 7)] (nD _ _ aD aD),tB 47 (bg h4)]<|.w ((jj x.lo x.hi)=0)
  (λk1=>ae [ag [gZ x.lo,bP cs,iP p] (vE cs aH),ag [gZ x.hi,bP cs,iP p] (vF cs aH),ag [ia P1,ia P2] hH,.c wI,ag [ia H,ia ky] th,ag [gZ x.lo,gZ x.hi] (nD _ _ aD aD),tB 74 (aU k1)]<|rQ (ia Y) (ia (ph cs R x Y)) (by unfold ph;simp[k1]))
  (λk1=>.w (cs=true)
   (λk2=>ae [tB 53 k2,ag [gZ x.lo,bP true,iP p] (vE true (by simp[k2])),tB 58 k2,ag [gZ x.hi,bP true,iP p] (vF true (by simp[k2])),ag [ia P1,ia P2] hH,.c wI,ag [ia H,ia ky] th,ag [gZ x.lo,gZ x.hi] (nD _ _ aD aD),tB 74 (aT k1),tB 76 k2,
    iu ((p:Int)+64) aC,ag [ia x,iP 0,iP ((p+64:Nat):Int)] (hM 0 aE)]<|.w (R 0=true)
    (λk3=>ae [tB 81 k3,ag [iP 1] (pF _ aC),iu ((p:Int)+64) aC,ag [ia x,iP 2,iP ((p+64:Nat):Int)] (hM 2 aE)]<|.w (R 2=true)
     (λk4=>ae [tB 88 k4,ag [iP (-1)] (pF _ aC)]<|rQ (ia (Iv.mk (iK (-1)) (iK 1) Y.all)) (ia (ph cs R x Y)) (by unfold ph;simp[k1,k2,k3,k4]))
     (λk4=>ae [tB 88 (aV k4)]<|rQ (ia (Iv.mk Y.lo (iK 1) Y.all)) (ia (ph cs R x Y)) (by unfold ph;simp[k1,k2,k3,k4])))
    (λk3=>ae [tB 81 (aV k3),iu ((p:Int)+64) aC,ag [ia x,iP 2,iP ((p+64:Nat):Int)] (hM 2 aE)]<|.w (R 2=true)
     (λk4=>ae [tB 88 k4,ag [iP (-1)] (pF _ aC)]<|rQ (ia (Iv.mk (iK (-1)) Y.hi Y.all)) (ia (ph cs R x Y)) (by unfold ph;simp[k1,k2,k3,k4]))
     (λk4=>ae [tB 88 (aV k4)]<|rQ (ia Y) (ia (ph cs R x Y)) (by unfold ph;simp[k1,k2,k3,k4]))))
   (λk2=>ae [tB 53 (aV k2),ag [gZ x.lo,bP false,iP p] (vE false (by simp[k2])),tB 58 (aV k2),ag [gZ x.hi,bP false,iP p] (vF false (by simp[k2])),ag [ia P1,ia P2] hH,.c wI,ag [ia H,ia ky] th,ag [gZ x.lo,gZ x.hi] (nD _ _ aD aD),tB 74 (aT k1),tB 76 (aV k2),iu ((p:Int)+64) aC,ag [ia x,iP 1,iP ((p+64:Nat):Int)] (hM 1 aE)]<|.w (R 1=true)
    (λk3=>ae [tB 81 k3,ag [iP 1] (pF _ aC),iu ((p:Int)+64) aC,ag [ia x,iP 3,iP ((p+64:Nat):Int)] (hM 3 aE)]<|.w (R 3=true)
     (λk4=>ae [tB 88 k4,ag [iP (-1)] (pF _ aC)]<|rQ (ia (Iv.mk (iK (-1)) (iK 1) Y.all)) (ia (ph cs R x Y)) (by unfold ph;simp[k1,k2,k3,k4]))
     (λk4=>ae [tB 88 (aV k4)]<|rQ (ia (Iv.mk Y.lo (iK 1) Y.all)) (ia (ph cs R x Y)) (by unfold ph;simp[k1,k2,k3,k4])))
    (λk3=>ae [tB 81 (aV k3),iu ((p:Int)+64) aC,ag [ia x,iP 3,iP ((p+64:Nat):Int)] (hM 3 aE)]<|.w (R 3=true)
     (λk4=>ae [tB 88 k4,ag [iP (-1)] (pF _ aC)]<|rQ (ia (Iv.mk (iK (-1)) Y.hi Y.all)) (ia (ph cs R x Y)) (by unfold ph;simp[k1,k2,k3,k4]))
     (λk4=>ae [tB 88 (aV k4)]<|rQ (ia Y) (ia (ph cs R x Y)) (by unfold ph;simp[k1,k2,k3,k4])))))) 
def MT{x:Iv}(hx:x.gX)(cs:Bool){p:Nat}(ig:8<=p)(gY:p<=512):∃ Z,Z.gX/\gU 369 [ia x,bP cs,iP (p:Int)] (ia Z):=by
 cases xa:x.all with
 |true=>exact⟨_,kS,VG x cs p hx xa ig gY⟩
 |false=>
  by_cases hu:100<x.lo.ij\/100<x.hi.ij\/¬y5 x 64=0\/0<=jj (r6 x 64) (iK 7)
  .exact ⟨_,xw,VJ x cs p hx xa ig gY hu⟩
  have h1:¬100<x.lo.ij:=λq=>hu (.inl q)
  have h2:¬100<x.hi.ij:=λq=>hu (.inr (.inl q))
  have h3:y5 x 64=0:=bN λq=>hu (.inr (.inr (.inl q)))
  have h4:¬0<=jj (r6 x 64) (iK 7):=λq=>hu (.inr (.inr (.inr q)))
  obtain⟨w1,w2⟩:=hx.jC;obtain⟨P1,g1,vE⟩:=MW w1 aC cs ig gY;obtain⟨P2,g2,vF⟩:=MW w2 aC cs ig gY;replace vE:∀ c,c=cs->gU 396 [gZ x.lo,bP c,iP (p:Int)] (ia P1):=λc h=>h▸vE
  replace vF:∀ c,c=cs->gU 396 [gZ x.hi,bP c,iP (p:Int)] (ia P2):=λc h=>h▸vF
  obtain⟨H,g3,hH⟩:=UU g1 g2;rcases U5 g3 with⟨Y,hY,th⟩|th
  rotate_left
  .exact ⟨_,xw,VI x cs p hx xa ig gY h1 h2 h3 h4 P1 P2 H vE vF hH th⟩
  have ya:=hY.f;have v0:=hY.v;have v1:(Iv.mk (iK (-1)) (iK 1) Y.all).gX:=by rw[ya];exact xw
  have v2:(Iv.mk Y.lo (iK 1) Y.all).gX:=by rw[ya];exact hY.up.v
  have v3:(Iv.mk (iK (-1)) Y.hi Y.all).gX:=by rw[ya];exact hY.dn.v
  have v4:(Iv.mk Y.lo Y.hi Y.all).gX:=hY.v;have hm:∀ s:Nat,∃ r,s<=3->gU 397 [ia x,iP (s:Int),iP ((p+64:Nat):Int)] (bP r):=λs=>by
   by_cases hs:s<=3
   .obtain ⟨r,m⟩:=VS hx xa s aC (p+64) aC aC aC ;exact⟨r,λ_=>m⟩
   .exact ⟨true,λh=>absurd h hs⟩
  refine⟨ph cs (λs=>Classical.choose (hm s)) x Y,?_,VH x cs p hx xa ig gY h1 h2 h3 h4 P1 P2 H Y hY vE vF hH th (λs=>Classical.choose (hm s)) λs hs=>cT (hm s) hs⟩;generalize (λs=>Classical.choose (hm s))=R;unfold ph;by_cases q1:jj x.lo x.hi=0
  .rw [aZ q1];exact v0
  rw[aY q1];by_cases q2:R (if cs=true then 2 else 3)=true<;>by_cases q3:R (if cs=true then 0 else 1)=true<;>simp only[q2,q3,bD,bq,bA]<;>assumption
def Wh(x Z:Iv)(p:Nat)(hZ:gU 369 [ia x,bP false,iP (p:Int)] (ia Z)):gU 329 [ia x,iP p] (ia Z):=
 ak call329 func329 (af [ag [ia x,bP false,iP p] hZ]) 
def Wg{x:Iv}(hx:x.gX){p:Nat}(ig:8<=p)(gY:p<=512):∃ Z,Z.gX/\gU 329 [ia x,iP (p:Int)] (ia Z):=by
 obtain⟨Z,h1,h2⟩:=MT hx false ig gY;exact⟨Z,h1,Wh x Z p h2⟩
def VL(x Z:Iv)(p:Nat)(hZ:gU 369 [ia x,bP true,iP (p:Int)] (ia Z)):gU 330 [ia x,iP p] (ia Z):=
 ak call330 func330 (af [ag [ia x,bP true,iP p] hZ]) 
def VK{x:Iv}(hx:x.gX){p:Nat}(ig:8<=p)(gY:p<=512):∃ Z,Z.gX/\gU 330 [ia x,iP (p:Int)] (ia Z):=by
 obtain⟨Z,h1,h2⟩:=MT hx true ig gY;exact⟨Z,h1,VL x Z p h2⟩
def mU(a b:Nat):Nat->Nat×Nat
 | 0=>(a,b)
 |k+1=>((mU a b k).2,(mU a b k).1%(mU a b k).2)
def IT(a b:Nat):∀ k,mU a b (k+1)=mU b (a%b) k
 | 0=>rfl
 |k+1=>by
  show((mU a b (k+1)).2,(mU a b (k+1)).1%(mU a b (k+1)).2)=_;rw[IT a b k];rfl
def N5(a b:Nat):∀ k,Nat.gcd (mU a b k).1 (mU a b k).2=Nat.gcd a b
 | 0=>rfl
 |k+1=>by
  show Nat.gcd (mU a b k).2 ((mU a b k).1%(mU a b k).2)=_;rw[<-N5 a b k];exact(Nat.gcd_comm _ _).trans ((Nat.gcd_rec _ _).symm.trans (Nat.gcd_comm _ _))
def XG:∀ (b a:Nat),∃ N,(∀ k,k<N->(mU a b k).2≠0)/\(mU a b N).2=0:=by
 intro b
 induction b using Nat.strongRecOn with
 |ind b ih=>
  intro a;by_cases h:b=0
  .exact ⟨0,λk hk=>absurd hk (bE k),h⟩
  .obtain ⟨N,h1,h2⟩:=ih (a%b) (bC a (dM h)) b;refine⟨N+1,λk hk=>?_,by rw[IT];exact h2⟩;rcases k with _|k
   .exact h
   .rw [IT];exact h1 k aC 
def pN(n d:Int)(p:Nat):Iv:=if oO n d then kI (nM (iK n) (iK d) p false) (pj (iK n) (iK d) p false) (nM (iK n) (iK d) p true) (pj (iK n) (iK d) p true)else ie
def J9{d:Int}(h:d≠0):(iK d).m≠0:=by
 intro q;have hq:=tO d;rw[py,q]at hq;have e:(d:Rat)=0:=by
  rw[<-hq];split<;>simp
 rw[show(0:Rat)=((0:Int):Rat)from rfl,Rat.intCast_inj]at e;exact h e
def NN{a b:Dy}(b0:b.m≠0){p:Nat}(hp:1<=p)(gY:p<=4096)(up:Bool):(nM a b p up).gX:=by
 unfold nM;split
 .exact qe
 .exact q6 _ _ _ _ _ _ hp gY
def SI(n d:Int){p:Nat}(hp:1<=p)(gY:p<=4096):(pN n d p).gX:=by
 unfold pN;split
 .rename_i h;obtain⟨r1,_⟩:=Gz h;have d0:(iK d).m≠0:=J9 aC;unfold kI;split
  .exact kS
  .rename_i he;obtain⟨A,B⟩:=II (a:=iK n) d0 hp gY;refine .inr ⟨rfl,NN d0 hp gY _,NN d0 hp gY _,?_⟩;rw[o9];exact bF (A.1 aC).2 (B.1 aC).2
 .exact kS
def OJ(a b:Nat)(x:Nat):PS:=⟨12,true,[(0,.e (.v (.int .u64 (((mU a b x).1:Nat):Int)))),(1,.e (.v (.int .u64 (((mU a b x).2:Nat):Int))))],[]⟩
def YT(a b N:Nat)(ha:a<18446744073709551616)(hb:b<18446744073709551616)(jK:∀ k,k<N->(mU a b k).2≠0)(hN:(mU a b N).2=0):gU 214 [.v (.int .u64 (a:Int)),.v (.int .u64 (b:Int))] (.v (.int .u64 (((mU a b N).1:Nat):Int))):=
 ak call214 func214 (af [.s (Sp.kY (OJ a b) 0 N aC (λx hx mZ=>by
    have oG:=jK x aC;exact jg (ae [ah 6 ((((mU a b x).2:Nat):Int) != 0) (ab9 (jK x aC)),.a (aC:0<((((mU a b x).2:Nat):Int):Int))]<|.e (af [.o 0 (.int aO:aj (.v (.int .u64 (((mU a b x).2:Nat):Int))) (.v (.int .u64 (((mU a b (x+1)).1:Nat):Int)))),.o 1 (.int aO:aj (.v (.int .u64 ((((mU a b x).1)%((mU a b x).2):Nat):Int))) (.v (.int .u64 (((mU a b (x+1)).2:Nat):Int))))])) aF)
  (λhx=>by
    exact jg (af [ai 6 ((((mU a b N).2:Nat):Int) != 0) (ab8 hN)]) aF) aI:kU 1 f214 (OJ a b 0) (.exit 0) ⟨12,true,[(0,.e (.v (.int .u64 (((mU a b N).1:Nat):Int))))],[]⟩) (af [.o 0 (.int aO:aj (.v (.int .u64 (a:Int))) (.v (.int .u64 (((mU a b 0).1:Nat):Int)))),.o 1 (.int aO:aj (.v (.int .u64 (b:Int))) (.v (.int .u64 (((mU a b 0).2:Nat):Int))))])]) 
def YU(a b:Nat)(ha:a<18446744073709551616)(hb:b<18446744073709551616):gU 214 [.v (.int .u64 (a:Int)),.v (.int .u64 (b:Int))] (.v (.int .u64 (Nat.gcd a b:Int))):=by
 obtain⟨N,h1,h2⟩:=XG b a;have hg:=N5 a b N;rw[h2,Nat.gcd_zero_right]at hg;rw[<-hg];exact YT a b N ha hb h1 h2
def ae3(m:Nat)(h:m<=1073741824):gU 215 [iP m] (.v (.int .u64 (m:Int))):=
 ak call215 func215 (af [tF 4 ((m:Int)<0) aC,.o 9 (.int (qK _ aC):aj (.v (.int .u64 (IntKind.u64.wrap (m:Int)))) (.v (.int .u64 (m:Int))))]) 
def ae2(m:Nat)(h0:0<m)(h:m<=1073741824):gU 215 [iP (-(m:Int))] (.v (.int .u64 (m:Int))):=
 ak call215 func215 (af [tT 4 ((-(m:Int))<0) aC,iu (0-(-(m:Int))) aC,.o 6 (aq (0-(-(m:Int))) m aC),.o 7 (.int (qK _ aC):aj (.v (.int .u64 (IntKind.u64.wrap (m:Int)))) (.v (.int .u64 (m:Int))))]) 
def S9(n:Int)(h1:-1073741824<=n)(h2:n<=1073741824):gU 215 [iP n] (.v (.int .u64 (n.natAbs:Int))):=by
 by_cases h:0<=n
 .obtain ⟨m,rfl⟩:=gj h;exact ae3 m aC 
 .obtain ⟨m,rfl⟩:∃ m:Nat,n = -(m:Int):=⟨n.natAbs,aC⟩
  rw[ahf,fE];exact ae2 m aC aC 
def DU(g:Nat):((g:Int)==1)=decide (g=1):=by
 by_cases h:g=1
 .subst h;rfl
 .rw [bg h];exact aT aC 
def K6(n d:Int):gU 132 [.agg [iP n,iP d]] (bP (oO n d)):=
 ak call132 func132 (.w (1<=d)
  (λk1=>ae [tB 5 (bh k1)]<|.w (d<=1073741824)
   (λk2=>ae [tB 9 (bh k2)]<|.w ((-1073741824)<=n)
    (λk3=>ae [tB 14 (bh k3)]<|.w (n<=1073741824)
     (λk4=>ae [tB 19 (bh k4),ag [iP n] (S9 _ aC aC),ag [iP d] (S9 _ aC aC),.c (YU (Int.natAbs n) (Int.natAbs d) aC aC)]<|rQ (bP ((Nat.gcd (Int.natAbs n) (Int.natAbs d):Int)==1)) (bP (oO n d)) (by unfold oO;simp[DU,k1,k2,k3,k4]))
     (λk4=>ae [tB 19 (bg k4)]<|rQ (bP false) (bP (oO n d)) (by unfold oO;simp[DU,k1,k2,k3,k4])))
    (λk3=>ae [tB 14 (bg k3)]<|rQ (bP false) (bP (oO n d)) (by unfold oO;simp[DU,k1,k2,k3])))
   (λk2=>ae [tB 9 (bg k2)]<|rQ (bP false) (bP (oO n d)) (by unfold oO;simp[DU,k1,k2])))
  (λk1=>ae [tB 5 (bg k1)]<|rQ (bP false) (bP (oO n d)) (by unfold oO;simp[DU,k1]))) 
def Q3{lo hi:Dy}{e f:Int}(h:e≠0\/f≠0):kI lo e hi f=ie:=aZ h
def abF{lo hi:Dy}{e f:Int}(h:e=0)(k:f=0):kI lo e hi f=⟨lo,hi,false⟩:=aY (by rw[h,k];decide)
def ads(n d:Int)(p:Nat)(h:oO n d=true)(ig:8<=p)(gY:p<=512):gU 288 [.agg [iP n,iP d],iP p] (ia (pN n d p)):=by
 obtain⟨r1,r2,r3,r4⟩:=Gz h;have v1:=ql (n:=n) aC;have v2:=ql (n:=d) aC;have d0:(iK d).m≠0:=J9 aC;exact ak call288 func288 (ae [.c (K6 n d),ai 11 (!(oO n d)) (by rw[h];rfl),ag [iP n] (pF _ aC),ag [iP d] (pF _ aC),.c (Sj (iK n) (iK d) p aD aD aD aC aC),ag [iP n] (pF _ aC),ag [iP d] (pF _ aC),.c (Sk (iK n) (iK d) p aD aD aD aC aC)]<|.w ((pj (iK n) (iK d) p false)=0)
  (λk1=>ae [tB 36 (aW k1)]<|.w ((pj (iK n) (iK d) p true)=0)
   (λk2=>ae [tB 39 (aW k2)]<|rQ (ia (Iv.mk (nM (iK n) (iK d) p false) (nM (iK n) (iK d) p true) false)) (ia (pN n d p)) (by unfold pN;rw[aZ h,abF k1 k2]))
   (λk2=>ae [tB 39 (aX k2),.o 41 (.e wj:aj (.agg [bP false,.v (.slice none 0 0),iP 0,bP false,.v (.slice none 0 0),iP 0,bP true]) (ia ie))]<|rQ (ia ie) (ia (pN n d p)) (by unfold pN;rw[aZ h,Q3 (.inr k2)])))
  (λk1=>ae [tB 36 (aX k1),.o 41 (.e wj:aj (.agg [bP false,.v (.slice none 0 0),iP 0,bP false,.v (.slice none 0 0),iP 0,bP true]) (ia ie))]<|rQ (ia ie) (ia (pN n d p)) (by unfold pN;rw[aZ h,Q3 (.inl k1)]))) 
noncomputable def A8(x:Iv)(p:Nat):Iv:=@dite Iv (∃ y:Iv,y.gX/\gU 327 [ia x,iP (p:Int)] (ia y)) (Classical.propDecidable _) Classical.choose (λ_=>ie)
def Yr(x:Iv)(p:Nat):(A8 x p).gX:=by
 unfold A8;split
 .rename_i h;exact(cT h).1
 .exact kS
def Yq(x:Iv)(hx:x.gX)(p:Nat)(ig:8<=p)(gY:p<=512):gU 327 [ia x,iP (p:Int)] (ia (A8 x p)):=by
 have h:=agA hx ig gY;unfold A8;rw[dif_pos h];exact(cT h).2
noncomputable def A9(x:Iv)(p:Nat):Iv:=@dite Iv (∃ y:Iv,y.gX/\gU 328 [ia x,iP (p:Int)] (ia y)) (Classical.propDecidable _) Classical.choose (λ_=>ie)
def Yt(x:Iv)(p:Nat):(A9 x p).gX:=by
 unfold A9;split
 .rename_i h;exact(cT h).1
 .exact kS
def Ys(x:Iv)(hx:x.gX)(p:Nat)(ig:8<=p)(gY:p<=512):gU 328 [ia x,iP (p:Int)] (ia (A9 x p)):=by
 have h:=agH hx ig gY;unfold A9;rw[dif_pos h];exact(cT h).2
noncomputable def vw(x:Iv)(p:Nat):Iv:=@dite Iv (∃ y:Iv,y.gX/\gU 329 [ia x,iP (p:Int)] (ia y)) (Classical.propDecidable _) Classical.choose (λ_=>ie)
def Oj(x:Iv)(p:Nat):(vw x p).gX:=by
 unfold vw;split
 .rename_i h;exact(cT h).1
 .exact kS
def Oi(x:Iv)(hx:x.gX)(p:Nat)(ig:8<=p)(gY:p<=512):gU 329 [ia x,iP (p:Int)] (ia (vw x p)):=by
 have h:=Wg hx ig gY;unfold vw;rw[dif_pos h];exact(cT h).2
noncomputable def wN(x:Iv)(p:Nat):Iv:=@dite Iv (∃ y:Iv,y.gX/\gU 330 [ia x,iP (p:Int)] (ia y)) (Classical.propDecidable _) Classical.choose (λ_=>ie)
def Oh(x:Iv)(p:Nat):(wN x p).gX:=by
 unfold wN;split
 .rename_i h;exact(cT h).1
 .exact kS
def Og(x:Iv)(hx:x.gX)(p:Nat)(ig:8<=p)(gY:p<=512):gU 330 [ia x,iP (p:Int)] (ia (wN x p)):=by
 have h:=VK hx ig gY;unfold wN;rw[dif_pos h];exact(cT h).2
noncomputable def Ba(x:Iv)(p:Nat):Iv:=@dite Iv (∃ y:Iv,y.gX/\gU 331 [ia x,iP (p:Int)] (ia y)) (Classical.propDecidable _) Classical.choose (λ_=>ie)
def Yv(x:Iv)(p:Nat):(Ba x p).gX:=by
 unfold Ba;split
 .rename_i h;exact(cT h).1
 .exact kS
def Yu(x:Iv)(hx:x.gX)(p:Nat)(ig:8<=p)(gY:p<=512):gU 331 [ia x,iP (p:Int)] (ia (Ba x p)):=by
 have h:=aaR hx ig gY;unfold Ba;rw[dif_pos h];exact(cT h).2
def Ii(o:iM):Bool:=decide (o.kind<=6)
noncomputable def lF(o:iM)(x y:Iv)(p:Nat):Iv:=
 if o.kind=3 then jN x y p else if o.kind=4 then yW x y p else if o.kind=5 then jm x y p else if o.kind=6 then jT x y p
 else if o.kind=7 then qn x else if o.kind=8 then oN x o.n p else if o.kind=9 then A8 x p else if o.kind=10 then A9 x p
 else if o.kind=11 then vw x p else if o.kind=12 then wN x p else if o.kind=13 then Ba x p else ie
noncomputable def se(o:iM)(l:List Iv)(p:Nat):Iv:=if o.kind=1 then pN o.cn o.cd p else lF o (l.getD o.a ie) (if Ii o then l.getD o.b ie else ie) p
noncomputable def iI(ops:List iM)(xs:List Iv)(p:Nat):Nat->List Iv
 | 0=>xs
 |k+1=>iI ops xs p k++[se (ops.getD k iw) (iI ops xs p k) p]
noncomputable def pk(t:jI)(xs:List Iv)(p:Nat):List Iv:=t.iC.map λk=>(iI t.ops xs p t.ops.length).getD k ie
def Cj(ops:List iM)(xs:List Iv)(p:Nat):∀ k,(iI ops xs p k).length=xs.length+k
 | 0=>rfl
 |k+1=>by simp only[iI,bX,Cj ops xs p k,cR,gG];omega
def UG(o:iM){x y:Iv}(hx:x.gX)(hy:y.gX){p:Nat}(hp:1<=p)(gY:p<=4096):(lF o x y p).gX:=by
 unfold lF;split
 .exact oW hx hy hp gY
 split
 .exact oW hx (yH hy) hp gY
 split
 .exact nT _ _ hp gY
 split
 .exact rz _ _ hp gY
 split
 .exact yH hx
 split
 .exact Sa hx _ hp gY
 split
 .exact Yr _ _
 split
 .exact Yt _ _
 split
 .exact Oj _ _
 split
 .exact Oh _ _
 split
 .exact Yv _ _
 .exact kS
def UH(o:iM){l:List Iv}(hl:oV l){p:Nat}(hp:1<=p)(gY:p<=4096):(se o l p).gX:=by
 unfold se;split
 .exact SI _ _ hp gY
 .exact UG o (hl _) (by split;exact hl _;exact kS) hp gY
def Es(ops:List iM){xs:List Iv}(h:oV xs){p:Nat}(hp:1<=p)(gY:p<=4096):∀ k,oV (iI ops xs p k)
 | 0=>h
 |k+1=>(Es ops h hp gY k).push (UH _ (Es ops h hp gY k) hp gY)
def I6(t:jI)(xs:List Iv)(p:Nat):(pk t xs p).length=t.iC.length:=by simp[pk]
noncomputable def oh(o:iM)(v a b da db:Iv)(p:Nat):Iv:=
 if o.kind=1 then iF 0 else if o.kind=3 then jN da db p else if o.kind=4 then yW da db p else if o.kind=5 then jN (jm da b p) (jm a db p) p
 else if o.kind=6 then jT (yW da (jm v db p) p) b p else if o.kind=7 then qn da
 else if o.kind=8 then(if o.n=0 then jm (iF 0) da p else jm (jm (iF (o.n:Int)) (oN a (o.n-1) p) p) da p)
 else if o.kind=9 then jm v da p else if o.kind=10 then jT da a p
 else if o.kind=11 then jm (wN a p) da p else if o.kind=12 then qn (jm (vw a p) da p)else if o.kind=13 then jT da (lr v 1) p else ie
noncomputable def pP(o:iM)(v:Iv)(l c:List Iv)(p:Nat):Iv:=
 if v.all then ie else oh o v (l.getD o.a ie) (l.getD o.b ie) (c.getD o.a ie) (c.getD o.b ie) p
def mj(n i:Nat):Nat->List Iv
 | 0=>[]
 |k+1=>mj n i k++[if k=i then iF 1 else iF 0]
noncomputable def jd(t:jI)(l:List Iv)(i p:Nat):Nat->List Iv
 | 0=>mj t.iq i t.iq
 |k+1=>jd t l i p k++[pP (t.ops.getD k iw) (l.getD (t.iq+k) ie) l (jd t l i p k) p]
noncomputable def mE(t:jI)(xs:List Iv)(p q i:Nat):Iv:=(jd t (iI t.ops xs p t.ops.length) i p t.ops.length).getD (t.iC.getD q 0) ie
def kj(n:Nat)(F:Nat->Nat->Iv)(i k:Nat):List (List Iv):=(List.range n).map λq=>(List.range (if q<k then i+1 else i)).map (F q)
noncomputable def po(t:jI)(xs:List Iv)(p m:Nat):List (List Iv):=kj t.iC.length (mE t xs p) m 0
def KI{n:Nat}(h:n<4294967296):(iF (n:Int)).gX:=rk (F6 n h)
def KJ:(iF 0).gX:=KI (n:=0) aE 
def acs:(iF 1).gX:=KI (n:=1) aE 
def sJ{c:Prop}[Decidable c]{x y:Iv}(hx:x.gX)(hy:y.gX):(if c then x else y).gX:=by
 by_cases h:c
 .rwa [aZ h]
 .rwa [aY h]
def WQ(o:iM){v a b da db:Iv}(hv:v.gX)(hd:da.gX)(he:db.gX){p:Nat}(hp:1<=p)(gY:p<=4096):(oh o v a b da db p).gX:=by
 unfold oh;exact sJ KJ<|sJ (oW hd he hp gY)<|sJ (oW hd (yH he) hp gY)<|sJ (oW (nT _ _ hp gY) (nT _ _ hp gY) hp gY) <|
  sJ (rz _ _ hp gY)<|sJ (yH hd)<|sJ (sJ (nT _ _ hp gY) (nT _ _ hp gY))<|sJ (nT _ _ hp gY)<|sJ (rz _ _ hp gY) <|
  sJ (nT _ _ hp gY)<|sJ (yH (nT _ _ hp gY))<|sJ (rz _ _ hp gY) kS
def Em(n i:Nat):∀ k,(mj n i k).length=k
 | 0=>rfl
 |k+1=>by simp only[mj,bX,Em n i k,cR,gG]
def TS(n i:Nat):∀ k,oV (mj n i k)
 | 0=>λ_=>kS
 |k+1=>(TS n i k).push (by split;exact acs;exact KJ)
def Cv(t:jI)(l:List Iv)(i p:Nat):∀ k,(jd t l i p k).length=t.iq+k
 | 0=>Em _ _ _
 |k+1=>by simp only[jd,bX,Cv t l i p k,cR,gG];omega
def WS(o:iM){v:Iv}(hv:v.gX){l c:List Iv}(hc:oV c){p:Nat}(hp:1<=p)(gY:p<=4096):(pP o v l c p).gX:=by
 unfold pP;split
 .exact kS
 .exact WQ o hv (hc _) (hc _) hp gY
def E7(t:jI){l:List Iv}(hl:oV l)(i:Nat){p:Nat}(hp:1<=p)(gY:p<=4096):∀ k,oV (jd t l i p k)
 | 0=>TS _ _ _
 |k+1=>(E7 t hl i hp gY k).push (WS _ (hl _) (E7 t hl i hp gY k) hp gY)
def aa2(t:jI){xs:List Iv}(h:oV xs){p:Nat}(hp:1<=p)(gY:p<=4096)(q i:Nat):(mE t xs p q i).gX:=E7 t (Es t.ops h hp gY _) i hp gY _ _
def Ti(n:Nat)(F:Nat->Nat->Iv)(i k:Nat):(kj n F i k).length=n:=by simp[kj]
def Cb{n:Nat}{F:Nat->Nat->Iv}{i k q:Nat}(h:q<n):(kj n F i k).getD q []=(List.range (if q<k then i+1 else i)).map (F q):=by
 simp[kj,bc,h]
def afg(n:Nat)(F:Nat->Nat->Iv)(i:Nat):kj n F i n=kj n F (i+1) 0:=by
 unfold kj;apply fB;intro q hq;rw[aZ (cz.1 hq),aY (bE _)]
def afh{T1 T0 n n':Nat}{F:Nat->Nat->Iv}(hn:n=n'):Bx.le (.lf true T1 T0 n 7 (λ_=>0) (λ_ _ _=>.any) .none) (.lf true T1 T0 n' 7 (mr (kj n' F 0 0)) (pB (kj n' F 0 0)) .none):=by
 subst hn;refine .lf rfl (λk hk=>?_) (λk i j hk hi hj=>absurd hi (bE i));show 0=((kj n F 0 0).getD k []).length;rw[Cb hk];simp
def afj{T1 T0 n n' m x k:Nat}{F:Nat->Nat->Iv}{y:Iv}(hn:n=n')(hm:m=n)(hx:k<n)(hy:y=F k x):
 Bx.le (.lf true T1 T0 n 7 (λq=>if q=k then mr (kj m F x k) q+[y].length else mr (kj m F x k) q)
  (λq i j=>if q=k then(if i<mr (kj m F x k) q then pB (kj m F x k) q i j else(E.lW (im [y])) (i-mr (kj m F x k) q) j)else pB (kj m F x k) q i j) .none)
  (.lf true T1 T0 n' 7 (mr (kj m F x (k+1))) (pB (kj m F x (k+1))) .none):=by
 subst hn hm hy;have hl:∀ q,q<m->(if q=k then mr (kj m F x k) q+[F k x].length else mr (kj m F x k) q)=mr (kj m F x (k+1)) q:=by
  intro q hq;simp only[mr,Cb hq,dK,ahn,cR,gG];by_cases h1:q=k
  .subst h1;simp
  .rw [aY h1];by_cases h2:q<k
   .rw [aZ h2,aZ aC]
   .rw [aY h2,aY aC]
 refine .lf rfl hl (λq i j hq hi hj=>⟨.iH ?_,Dr _ _ hj⟩);have lR:=hi;rw[hl q hq]at lR;simp only[mr,Cb hq,dK,ahn]at lR;simp only[mr,pB,Cb hq,dK,ahn];rw[yN lR];by_cases h1:q=k
 .subst h1;rw[aZ rfl,aY (Nat.lt_irrefl q)];rw[aZ (Nat.lt_succ_self q)]at lR;by_cases h2:i<x
  .rw [aZ h2,yN h2]
  .have:i=x:= aC ;subst this;rw[aY h2,dx];rfl
 .rw [aY h1];have e:(if q<k then x+1 else x)=if q<k+1 then x+1 else x:=by
   by_cases h2:q<k
   .rw [aZ h2,aZ aC]
   .rw [aY h2,aY aC]
  rw[e,yN lR]
def afi{T1 T0 n n' m x:Nat}{F:Nat->Nat->Iv}(hn:n=n'):Bx.le (.lf true T1 T0 n 7 (mr (kj m F x m)) (pB (kj m F x m)) .none) (.lf true T1 T0 n' 7 (mr (kj m F (x+1) 0)) (pB (kj m F (x+1) 0)) .none):=by
 subst hn;rw[afg];exact .refl _
def kq(r:List Iv)(i p:Nat):Nat->Dy
 | 0=>jt
 |k+1=>if k=i then kq r i p k else jk (iN (kq r i p k) (kg (r.getD k ie))) p true
def pt(r:List Iv)(i p k:Nat):Bool:=decide (k=i)||decide (jf (iN (kq r i p k) (kg (r.getD k ie))) p true=0)
def yM(r:List Iv)(i p:Nat):Bool:=(List.range r.length).all (pt r i p)
def mI(r:List Iv)(i p:Nat):Iv:=
 if yM r i p then
  if jf (iN (r.getD i ie).lo (jv (kq r i p r.length))) p false=0/\jf (iN (r.getD i ie).hi (kq r i p r.length)) p true=0 then
   ⟨jk (iN (r.getD i ie).lo (jv (kq r i p r.length))) p false,jk (iN (r.getD i ie).hi (kq r i p r.length)) p true,false⟩
  else ie
 else ie
def Gy(r:List Iv)(i p k:Nat):kq r i p (k+1)=if k=i then kq r i p k else jk (iN (kq r i p k) (kg (r.getD k ie))) p true:=rfl
def BX(r:List Iv)(i:Nat){p:Nat}(hp:1<=p)(gY:p<=4096):∀ k,(kq r i p k).gX
 | 0=>qe
 |k+1=>by
  unfold kq;split
  .exact BX r i hp gY k
  .exact rW _ hp gY _
def W5(r:List Iv)(i:Nat){p:Nat}(hp:1<=p)(gY:p<=4096):(mI r i p).lo.gX/\(mI r i p).hi.gX:=by
 unfold mI;split
 .split
  .exact ⟨rW _ hp gY _,rW _ hp gY _⟩
  .exact ⟨qe,qe⟩
 .exact ⟨qe,qe⟩
def sn(m:List (List Iv))(p:Nat):List Iv:=(List.range m.length).map λi=>mI (m.getD i []) i p
def ub(m:List (List Iv))(p:Nat):Nat->Iv
 | 0=>(m.getD 0 []).getD 0 ie
 |k+1=>jN (ub m p k) ((m.getD (k+1) []).getD (k+1) ie) p
def AV(m:List (List Iv)):Bool:=(List.range m.length).any λi=>pS (m.getD i [])
def AE:List (Int×FuncId×List FuncId):=[(1,332,[]),(3,333,[78]),(4,334,[203]),
 (7,335,[]),(5,336,[78,115]),(6,337,[128,203,115]),
 (8,338,[115]),(9,339,[115]),(10,340,[128]),
 (11,341,[115]),(12,342,[115]),(13,343,[128])]
def qc(w:World)(b:Nat)(l:List MapEntry):World:={ w with heap:=w.heap.setIfInBounds b (.map l.toArray l.length) }
def R8{w:World}{b:Nat}(h:b<w.heap.size)(l:List MapEntry):(qc w b l).heap[b]? = some (.map l.toArray l.length):=by simp[qc,h]
def R9{w:World}{b x:Nat}(h:x≠b)(l:List MapEntry):(qc w b l).heap[x]? = w.heap[x]?:=by simp[qc,Ne.symm h]
def K1(w:World)(b:Nat)(l:List MapEntry):(qc w b l).heap.size=w.heap.size:=by simp[qc]
def agw{P:Program}{w:World}{ops:Array Oper}{rest:List Oper}{o:Oper}{a:Act}{Q:Exit->Act->World->Prop}(hg:o.guard=none)(t:TypeId)(il:o.op = .makeMap t none)
 (h:wpList P ops Q rest (a.put o.dst (.map (some w.heap.size))) (qc (w.alloc (.map #[] 0)) w.heap.size [])):wpList P ops Q (o::rest) a w:=by
 refine wpList_plain hg λK hK=>?_
 have e:qc (w.alloc (.map #[] 0)) w.heap.size []=w.alloc (.map #[] 0):=by
  unfold qc;have:(w.alloc (.map #[] 0)).heap.setIfInBounds w.heap.size (.map ([]:List MapEntry).toArray ([]:List MapEntry).length)=(w.alloc (.map #[] 0)).heap:=by
   apply Array.ext_getElem?;intro i;rw[ahp];split
   .rename_i hi;subst hi;rw[heap_alloc_new];simp
   .rfl
  rw[this]
 rw[e]at h;have hr:(Instr.makeMap t none).run P w = .ok (.map (some w.heap.size)) (w.alloc (.map #[] 0)):=by simp[Instr.makeMap]
 unfold Oper.wp;simp[execOp,il,hr,Result.andThen];exact hK _ _ h
def ud{w:World}{ops:Array Oper}{rest:List Oper}{o:Oper}{a:Act}{Q:Exit->Act->World->Prop}(hg:o.guard=none)(t:TypeId)(m k x:Operand)(il:o.op = .insert t m k x)
 (ti tk:TI) (kt et:TypeId) (nR:lv TT t=some ti) (hd:ti.d = .map kt et) (htk:lv TT kt=some tk) (hdk:tk.d = .int .i64) (b:Nat) (l:List MapEntry) (z:Int) (v:Value) (hb:b<w.heap.size)
 (hm:a.eval m = .map (some b)) (hz:a.eval k = .int .i64 z) (hv:a.eval x=v) (hn:Instr.findNow (.int .i64) (.int .i64 z) l 0=some none)
 (h:wpList prog ops Q rest (a.put o.dst undef) (qc w b (l++[⟨.int .i64 z,v,l.length⟩]))):wpList prog ops Q (o::rest) a (qc w b l):=by
 have hu:prog.underlying t=some (.map kt et):=by rw[y9.pC nR,hd]
 have hk:prog.underlying kt=some (.int .i64):=by rw[y9.pC htk,hdk]
 refine wpList_plain hg λK hK=>?_
 have hh:=R8 hb l;have h1:(Instr.mapUpdate t (.map (some b)) (.int .i64 z) v).run prog (qc w b l) = .ok () (qc w b (l++[⟨.int .i64 z,v,l.length⟩])):=by
  have e2:{ qc w b l with heap:=(qc w b l).heap.setIfInBounds b (.map (l.toArray.push ⟨.int .i64 z,v,l.length⟩) (l.length+1)) }=qc w b (l++[⟨.int .i64 z,v,l.length⟩]):=by
   simp[qc]
  rw[<-e2];simp[Instr.mapUpdate,run_underlying hu,MapKept.run_getObj_map hh,MapKept.run_checkKey hk (k:=.int .i64 z) (by simp[MapKept.IsKey]) false 9999,MapKept.run_findKey hk hn,MapKept.run_setObj_map _ hh,Result.andThen]
 unfold Oper.wp;simp[execOp,il,hm,hz,hv,h1,Result.andThen];exact hK _ _ h
def adj(cs:Array Value):Obj->Obj
 | .cells _ elem frozen=>.cells cs elem frozen
 |o=>o
def mV(w:World)(o:Obj):(w.alloc o).heap=w.heap.push o:=rfl
def vI(w:World)(g:Nat)(cs:Array Value):(w.setRow g cs).heap=w.heap.modify g (adj cs):=by
 unfold World.setRow;congr 1
def mw(a:Act)(v:Value):a.put none v=a:=rfl
def mi(a:Act)(d:Option Tmp)(v:Value):(a.put d v).tmps.size=a.tmps.size:=by cases d<;>simp[Act.put]
def adk(a:Act)(d:Option Tmp)(v:Value):(a.put d v).defers=a.defers:=by cases d<;>rfl
def mg{a:Act}{d:Tmp}{v:Value}(h:d<a.tmps.size):(a.put (some d) v).eval (.tmp d)=v:=by
 show(a.tmps.setIfInBounds d v).getD d undef=v;simp[h]
def mn{a:Act}{d t:Tmp}{v:Value}(h:¬d=t):(a.put (some d) v).eval (.tmp t)=a.eval (.tmp t):=by
 show(a.tmps.setIfInBounds d v).getD t undef=a.tmps.getD t undef;simp[gP h]
def Hq(bs:Nat->Prop)(w:World)(g:FuncId)(v:Value):Prop:=∃ b,v = .pointer (some ⟨b,0,none⟩)/\¬bs b/\b<w.heap.size/\w.cell? ⟨b,0,none⟩=some (.func (.func g) #[] #[])
def Hr(bs:Nat->Prop)(w:World)(gs:List FuncId)(vs:List Value):Prop:=∀ (i:Nat) (g:FuncId) (v:Value),gs[i]? = some g->vs[i]? = some v->Hq bs w g v
def sZ{bs:Nat->Prop}{w:World}{vs:List Value}:Hr bs w [] vs:=λi g v h=>by simp at h
def si{bs:Nat->Prop}{w:World}{g:FuncId}{v:Value}{gs:List FuncId}{vs:List Value}(h:Hq bs w g v)(k:Hr bs w gs vs):Hr bs w (g::gs) (v::vs):=λi g' v' hg hv=>by
 cases i with
 |zero=>simp at hg hv;subst hg hv;exact h
 |succ i=>exact k i g' v' (by simpa using hg) (by simpa using hv)
def Hl{w:World}{ops:Array Oper}{rest:List Oper}{o:Oper}{a:Act}{Q:Exit->Act->World->Prop}(hg:o.guard=none)(t:TypeId)(x y:Operand)(il:o.op = .store t x y)(ti:TI)(nR:lv TT t=some ti)(h1:ti.i.size=1)
 (b:Nat) (v c:Value) (E:TypeId) (hx:a.eval x = .pointer (some ⟨b,0,none⟩)) (hy:a.eval y=v) (hv:v.cells = #[v]) (ho:v.oneCell'=true) (hb:w.heap[b]? = some (.cells #[c] E (0,0)))
 (h:wpList prog ops Q rest (a.put o.dst undef) (w.setRow b #[v])):wpList prog ops Q (o::rest) a w:=by
 refine wpList_plain hg λK hK=>?_
 have hr:=GQ y9 w nR b 0 E #[c] hb v (by rw[hv,h1];rfl) (by rw[hv];exact bd _) (by rw[hv];intro u hu;simp at hu;subst hu;exact ho);rw[hv]at hr;have e:((#[c]:Array Value).toList.take 0++(#[v]:Array Value).toList++(#[c]:Array Value).toList.drop (0+(#[v]:Array Value).toList.length)).toArray = #[v]:=rfl;rw[e]at hr;unfold Oper.wp;simp[execOp,il,hx,hy,Instr.storeAt,Instr.sureAddr,hr,Result.andThen];exact hK _ _ h
def Hk{w:World}{ops:Array Oper}{rest:List Oper}{o:Oper}{a:Act}{Q:Exit->Act->World->Prop}(hg:o.guard=none)(t:TypeId)(il:o.op = .alloc t)(ti:TI)(nR:lv TT t=some ti)(z:Value)(hz:ti.i.zero=some z)(cs:Array Value)(hc:z.cells=cs)
 (h:wpList prog ops Q rest (a.put o.dst (.pointer (some ⟨w.heap.size,0,none⟩))) (w.alloc (.cells cs t))):wpList prog ops Q (o::rest) a w:=by
 refine wpList_plain hg λK hK=>?_
 subst hc;have hr:=Lu y9 w nR hz;unfold Oper.wp;simp[execOp,il,Instr.alloc,hr,newRow,run_newObj_alloc,Result.andThen];exact hK _ _ h
def wp_move{P:Program}{w:World}{ops:Array Oper}{rest:List Oper}{o:Oper}{a:Act}{Q:Exit->Act->World->Prop}(hg:o.guard=none)(x:Operand)(il:o.op = .move x\/o.op = .assign x)(v:Value)(hx:a.eval x=v)
 (h:wpList P ops Q rest (a.put o.dst v) w):wpList P ops Q (o::rest) a w:=by
 refine wpList_plain hg λK hK=>?_
 unfold Oper.wp;rcases il with il|il
 .simp [execOp,il,hx,Result.andThen];exact hK _ _ h
 .simp [execOp,il,hx,Result.andThen];exact hK _ _ h
def wk{P:Program}{w:World}{ops:Array Oper}{rest:List Oper}{o:Oper}{a:Act}{Q:Exit->Act->World->Prop}(hg:o.guard=none)(f:FuncId)(cs:Array Operand)(il:o.op = .makeFunc (.func f) #[] cs)(vs:Array Value)(hv:cs.map a.eval=vs)
 (h:wpList P ops Q rest (a.put o.dst (.func (.func f) #[] vs)) w):wpList P ops Q (o::rest) a w:=by
 refine wpList_plain hg λK hK=>?_
 unfold Oper.wp;simp[execOp,il,Instr.makeFunc,hv,Result.andThen];exact hK _ _ h
set_option maxRecDepth 100000 in
def aeH:gU 290 [] (.mp AE):=by
 refine⟨call290,λw B vs hK hB hr=>?_⟩;obtain rfl:=hr.o0;show Calls _ _ #[] w _;clear hr hK;go_enter func290,ntmps290;refine wp_seq (wp_region_list ?_);refine wp_move aG _ (.inr aG) _ aG (wpList_nil ?_);refine wp_seq (wp_region_list ?_);refine Hk aG _ aG _ aG _ aG #[.nilFunc] aG ?_;refine Hk aG _ aG _ aG _ aG #[.nilFunc] aG ?_;refine Hk aG _ aG _ aG _ aG #[.nilFunc] aG ?_;refine Hk aG _ aG _ aG _ aG #[.nilFunc] aG ?_;refine Hl aG _ _ _ aG _ aG aG _ (.func (.func 115) #[] #[]) .nilFunc 96 aG aG aG aG (by(simp only[mV,vI,dz,dQ,cO,dA];repeat (first|rw[aZ trivial]|rw[aZ aC]|rw[aY aC]))) ?_;refine Hl aG _ _ _ aG _ aG aG _ (.func (.func 128) #[] #[]) .nilFunc 96 aG aG aG aG (by(simp only[mV,vI,dz,dQ,cO,dA];repeat (first|rw[aZ trivial]|rw[aZ aC]|rw[aY aC]))) ?_;refine Hl aG _ _ _ aG _ aG aG _ (.func (.func 78) #[] #[]) .nilFunc 96 aG aG aG aG (by(simp only[mV,vI,dz,dQ,cO,dA];repeat (first|rw[aZ trivial]|rw[aZ aC]|rw[aY aC]))) ?_;refine Hl aG _ _ _ aG _ aG aG _ (.func (.func 203) #[] #[]) .nilFunc 96 aG aG aG aG (by(simp only[mV,vI,dz,dQ,cO,dA];repeat (first|rw[aZ trivial]|rw[aZ aC]|rw[aY aC]))) ?_;refine wpList_nil ?_;generalize hW:World.setRow _ _ _=W;have s0:W.heap.size=w.heap.size+4:=by rw[<-hW];simp[mV,vI]
 have so:W.os=w.os:=by rw[<-hW];rfl
 have st:W.tape=w.tape:=by rw[<-hW];rfl
 have sp:W.output=w.output:=by rw[<-hW];rfl
 have s1:∀ x,x<w.heap.size->W.heap[x]? = w.heap[x]?:=λx hx=>by
  rw[<-hW];simp only[mV,vI,dz,dQ,cO,dA]
  repeat (first|rw[aZ trivial]|rw[aZ aC]|rw[aY aC])
 generalize ha:Act.put _ _ _=a;have e1:a.eval (.tmp 1) = .pointer (some ⟨w.heap.size,0,none⟩):=by rw[<-ha];rfl
 have e2:a.eval (.tmp 2) = .pointer (some ⟨w.heap.size+1,0,none⟩):=by rw[<-ha,show w.heap.size+1=(w.alloc (.cells #[.nilFunc] 96)).heap.size by simp[mV]];rfl
 have e3:a.eval (.tmp 3) = .pointer (some ⟨w.heap.size+2,0,none⟩):=by rw[<-ha,show w.heap.size+2=((w.alloc (.cells #[.nilFunc] 96)).alloc (.cells #[.nilFunc] 96)).heap.size by simp[mV]];rfl
 have e4:a.eval (.tmp 4) = .pointer (some ⟨w.heap.size+3,0,none⟩):=by rw[<-ha,show w.heap.size+3=(((w.alloc (.cells #[.nilFunc] 96)).alloc (.cells #[.nilFunc] 96)).alloc (.cells #[.nilFunc] 96)).heap.size by simp[mV]];rfl
 have sz:a.tmps.size=17:=by rw[<-ha];rfl
 have hd:a.defers=[]:=by rw[<-ha];rfl
 have c1:W.heap[w.heap.size]? = some (.cells #[.func (.func 115) #[] #[]] 96 (0,0)):=by
  rw[<-hW];simp only[mV,vI,dz,dQ,cO,dA]
  repeat (first|rw[aZ trivial]|rw[aZ aC]|rw[aY aC])
  rfl
 have c2:W.heap[w.heap.size+1]? = some (.cells #[.func (.func 128) #[] #[]] 96 (0,0)):=by
  rw[<-hW];simp only[mV,vI,dz,dQ,cO,dA]
  repeat (first|rw[aZ trivial]|rw[aZ aC]|rw[aY aC])
  rfl
 have c3:W.heap[w.heap.size+2]? = some (.cells #[.func (.func 78) #[] #[]] 96 (0,0)):=by
  rw[<-hW];simp only[mV,vI,dz,dQ,cO,dA]
  repeat (first|rw[aZ trivial]|rw[aZ aC]|rw[aY aC])
  rfl
 have c4:W.heap[w.heap.size+3]? = some (.cells #[.func (.func 203) #[] #[]] 96 (0,0)):=by
  rw[<-hW];simp only[mV,vI,dz,dQ,cO,dA]
  repeat (first|rw[aZ trivial]|rw[aZ aC]|rw[aY aC])
  rfl
 clear hW ha;refine wp_seq (wp_region_list ?_);refine agw aG _ aG ?_;refine ud aG _ _ _ _ aG _ _ _ _ aG aG aG aG _ _ _ (.func (.func 332) #[] #[]) (by simp[mV]) (by simp[mw,mi,mg,mn,e1,e2,e3,e4,sz]) aG aG aG ?_;refine wk aG _ _ aG #[.pointer (some ⟨w.heap.size+2,0,none⟩)] (by simp[mw,mi,mg,mn,e1,e2,e3,e4,sz]) ?_;refine ud aG _ _ _ _ aG _ _ _ _ aG aG aG aG _ _ _ (.func (.func 333) #[] #[.pointer (some ⟨w.heap.size+2,0,none⟩)]) (by simp[mV]) (by simp[mw,mi,mg,mn,e1,e2,e3,e4,sz]) aG (by simp[mw,mi,mg,mn,e1,e2,e3,e4,sz]) aG ?_;refine wk aG _ _ aG #[.pointer (some ⟨w.heap.size+3,0,none⟩)] (by simp[mw,mi,mg,mn,e1,e2,e3,e4,sz]) ?_;refine ud aG _ _ _ _ aG _ _ _ _ aG aG aG aG _ _ _ (.func (.func 334) #[] #[.pointer (some ⟨w.heap.size+3,0,none⟩)]) (by simp[mV]) (by simp[mw,mi,mg,mn,e1,e2,e3,e4,sz]) aG (by simp[mw,mi,mg,mn,e1,e2,e3,e4,sz]) aG ?_;refine ud aG _ _ _ _ aG _ _ _ _ aG aG aG aG _ _ _ (.func (.func 335) #[] #[]) (by simp[mV]) (by simp[mw,mi,mg,mn,e1,e2,e3,e4,sz]) aG aG aG ?_
 refine wk aG _ _ aG #[.pointer (some ⟨w.heap.size+2,0,none⟩),.pointer (some ⟨w.heap.size,0,none⟩)] (by simp[mw,mi,mg,mn,e1,e2,e3,e4,sz]) ?_;refine ud aG _ _ _ _ aG _ _ _ _ aG aG aG aG _ _ _ (.func (.func 336) #[] #[.pointer (some ⟨w.heap.size+2,0,none⟩),.pointer (some ⟨w.heap.size,0,none⟩)]) (by simp[mV]) (by simp[mw,mi,mg,mn,e1,e2,e3,e4,sz]) aG (by simp[mw,mi,mg,mn,e1,e2,e3,e4,sz]) aG ?_;refine wk aG _ _ aG #[.pointer (some ⟨w.heap.size+1,0,none⟩),.pointer (some ⟨w.heap.size+3,0,none⟩),.pointer (some ⟨w.heap.size,0,none⟩)] (by simp[mw,mi,mg,mn,e1,e2,e3,e4,sz]) ?_;refine ud aG _ _ _ _ aG _ _ _ _ aG aG aG aG _ _ _ (.func (.func 337) #[] #[.pointer (some ⟨w.heap.size+1,0,none⟩),.pointer (some ⟨w.heap.size+3,0,none⟩),.pointer (some ⟨w.heap.size,0,none⟩)]) (by simp[mV]) (by simp[mw,mi,mg,mn,e1,e2,e3,e4,sz]) aG (by simp[mw,mi,mg,mn,e1,e2,e3,e4,sz]) aG ?_;refine wk aG _ _ aG #[.pointer (some ⟨w.heap.size,0,none⟩)] (by simp[mw,mi,mg,mn,e1,e2,e3,e4,sz]) ?_
 refine ud aG _ _ _ _ aG _ _ _ _ aG aG aG aG _ _ _ (.func (.func 338) #[] #[.pointer (some ⟨w.heap.size,0,none⟩)]) (by simp[mV]) (by simp[mw,mi,mg,mn,e1,e2,e3,e4,sz]) aG (by simp[mw,mi,mg,mn,e1,e2,e3,e4,sz]) aG ?_;refine wk aG _ _ aG #[.pointer (some ⟨w.heap.size,0,none⟩)] (by simp[mw,mi,mg,mn,e1,e2,e3,e4,sz]) ?_;refine ud aG _ _ _ _ aG _ _ _ _ aG aG aG aG _ _ _ (.func (.func 339) #[] #[.pointer (some ⟨w.heap.size,0,none⟩)]) (by simp[mV]) (by simp[mw,mi,mg,mn,e1,e2,e3,e4,sz]) aG (by simp[mw,mi,mg,mn,e1,e2,e3,e4,sz]) aG ?_;refine wk aG _ _ aG #[.pointer (some ⟨w.heap.size+1,0,none⟩)] (by simp[mw,mi,mg,mn,e1,e2,e3,e4,sz]) ?_;refine ud aG _ _ _ _ aG _ _ _ _ aG aG aG aG _ _ _ (.func (.func 340) #[] #[.pointer (some ⟨w.heap.size+1,0,none⟩)]) (by simp[mV]) (by simp[mw,mi,mg,mn,e1,e2,e3,e4,sz]) aG (by simp[mw,mi,mg,mn,e1,e2,e3,e4,sz]) aG ?_;refine wk aG _ _ aG #[.pointer (some ⟨w.heap.size,0,none⟩)] (by simp[mw,mi,mg,mn,e1,e2,e3,e4,sz]) ?_
 refine ud aG _ _ _ _ aG _ _ _ _ aG aG aG aG _ _ _ (.func (.func 341) #[] #[.pointer (some ⟨w.heap.size,0,none⟩)]) (by simp[mV]) (by simp[mw,mi,mg,mn,e1,e2,e3,e4,sz]) aG (by simp[mw,mi,mg,mn,e1,e2,e3,e4,sz]) aG ?_;refine wk aG _ _ aG #[.pointer (some ⟨w.heap.size,0,none⟩)] (by simp[mw,mi,mg,mn,e1,e2,e3,e4,sz]) ?_;refine ud aG _ _ _ _ aG _ _ _ _ aG aG aG aG _ _ _ (.func (.func 342) #[] #[.pointer (some ⟨w.heap.size,0,none⟩)]) (by simp[mV]) (by simp[mw,mi,mg,mn,e1,e2,e3,e4,sz]) aG (by simp[mw,mi,mg,mn,e1,e2,e3,e4,sz]) aG ?_;refine wk aG _ _ aG #[.pointer (some ⟨w.heap.size+1,0,none⟩)] (by simp[mw,mi,mg,mn,e1,e2,e3,e4,sz]) ?_;refine ud aG _ _ _ _ aG _ _ _ _ aG aG aG aG _ _ _ (.func (.func 343) #[] #[.pointer (some ⟨w.heap.size+1,0,none⟩)]) (by simp[mV]) (by simp[mw,mi,mg,mn,e1,e2,e3,e4,sz]) aG (by simp[mw,mi,mg,mn,e1,e2,e3,e4,sz]) aG ?_;refine wp_move aG _ (.inl aG) (.map (some W.heap.size)) (by simp[mw,mi,mg,mn,sz]) ?_;refine wp_move aG _ (.inr aG) (.map (some W.heap.size)) (by simp[mw,mi,mg,mn,sz]) (wpList_nil ?_);refine wp_ret ?_;generalize hz:Act.put _ _ _=z;have z0:z.eval (.tmp 0) = .map (some W.heap.size):=by rw[<-hz];exact mg (by simp[mi,sz])
 have zd:z.defers=[]:=by rw[<-hz];simp only[adk,hd]
 clear hz;refine⟨zd,.map (some W.heap.size),?_,_,rfl,?_,?_⟩
 .rw [<-z0];unfold results;rw[show f290.results = #[.tmp 0]from rfl];simp;show _=z.tmps.getD 0 undef;simp
 .refine ⟨so,st,sp,by simp[K1,mV];omega,λx hx=>?_⟩;rw[R9 aC,mV,dA,aY aC,s1 x hx]
 .have bx:∀ (k:Nat) (g:FuncId),k<4->W.heap[w.heap.size+k]? = some (.cells #[.func (.func g) #[] #[]] 96 (0,0))->∀ L,Hq B (qc (W.alloc (.map #[] 0)) W.heap.size L) g (.pointer (some ⟨w.heap.size+k,0,none⟩)):=λk g hk hc L=>by
   refine⟨_,rfl,λh=>?_,?_,?_⟩
   .have:=(hB _ h).1;omega
   .simp [K1,mV];omega
   .have e:(qc (W.alloc (.map #[] 0)) W.heap.size L).heap[w.heap.size+k]? = some (.cells #[.func (.func g) #[] #[]] 96 (0,0)):=by
     rw[R9 aC,mV,dA,aY aC,hc]
    simp[World.cell?,e]
  have b1:=bx 0 _ aE c1;have b2:=bx 1 _ aE c2;have b3:=bx 2 _ aE c3;have b4:=bx 3 _ aE c4;refine .mp _ _ _ _ (λh=>?_) (by simp[K1,mV]) (R8 (by simp[mV]) _) ?_
  .have:=(hB _ h).1;omega
  .exact ⟨⟨rfl,_,rfl,rfl,sZ⟩,⟨⟨rfl,_,rfl,rfl,si (b3 _) sZ⟩,⟨⟨rfl,_,rfl,rfl,si (b4 _) sZ⟩,⟨⟨rfl,_,rfl,rfl,sZ⟩,⟨⟨rfl,_,rfl,rfl,si (b3 _) (si (b1 _) sZ)⟩,⟨⟨rfl,_,rfl,rfl,si (b2 _) (si (b4 _) (si (b1 _) sZ))⟩,⟨⟨rfl,_,rfl,rfl,si (b1 _) sZ⟩,⟨⟨rfl,_,rfl,rfl,si (b1 _) sZ⟩,⟨⟨rfl,_,rfl,rfl,si (b2 _) sZ⟩,⟨⟨rfl,_,rfl,rfl,si (b1 _) sZ⟩,⟨⟨rfl,_,rfl,rfl,si (b1 _) sZ⟩,⟨⟨rfl,_,rfl,rfl,si (b2 _) sZ⟩,trivial⟩⟩⟩⟩⟩⟩⟩⟩⟩⟩⟩⟩
end Go.Proofs.YtkjkcjhacddojaaGreatDoor
namespace Go.Proofs.YtkjkcjhacddojaaGreatDoor.Pu
open Go.RowKit
def Sx{bs br:Nat->Prop}{w:World}{xs:List Value}{a:Value}(h:iB bs br w (.agg (xs.map E.v)) a):a = .agg xs.toArray:=by
 generalize he:E.agg (xs.map E.v)=e at h;cases h with
 |agg l vs hl k=>
  cases he;rw[dK]at hl;have:vs=xs:=fQ λi=>by
   cases hx:xs[i]? with
   |none=>rw[List.getElem?_eq_none_iff]at hx ⊢;omega
   |some x=>
    obtain⟨v,hv⟩:∃ v,vs[i]? = some v:=by
     have hi:i<xs.length:=(b9.1 hx).1;exact⟨vs[i]'(aC),bt aC⟩
    rw[hv,iB.jX (k i (.v x) v (by rw[cD,hx];rfl) hv)]
  rw[this]
 |_=>cases he
def KT{P:Program}{t:TypeId}{m D D':Nat}(hm:m<=10000)(hk:P.keyTypeAt m t=true)(hg:P.eqGuardType P.depth t=false){xs ys:List Value}{la lb:List Lit}
 (hx:P.keyLits D t xs=some la) (hy:P.keyLits D' t ys=some lb) (fx:(Value.agg xs.toArray).formed P t=true) (fy:(Value.agg ys.toArray).formed P t=true) {c:Bool} (hc:c=true↔la=lb):
 mA P .eql t (.agg (xs.map E.v)) (.agg (ys.map E.v)) (.bool c):=by
 intro bs br w a b ox oy ha hb;obtain rfl:=Sx ha;obtain rfl:=Sx hb;constructor
 .simp only[eqGuard,eN,bA,bq,Sem.run_bind,run_program,Result.andThen_ok,hg,eu,bD,Sem.run_pure]
 .obtain ⟨r,hr,aai⟩:=run_equalIn_deep (10000-m) m t hk w _ _ _ _ la lb fx fy (by simpa[Value.cells]using hx) (by simpa[Value.cells]using hy);rw[(aC:10000-m+m=10000)]at hr;have e:r=c:=by rw[fe,aai,hc]
  subst e;have:(Op.equal t (.agg xs.toArray) (.agg ys.toArray)).run P w = .ok r w:=hr;simp only[binOp,Sem.run_bind,this,Result.andThen_ok,Sem.run_pure]
end Go.Proofs.YtkjkcjhacddojaaGreatDoor.Pu
namespace Go.Proofs.YtkjkcjhacddojaaGreatDoor
open Go.RowKit Fp Pu
def RT{t:TypeId}{m:Nat}(hm:m<=10000)(hk:prog.keyTypeAt m t=true)(hg:prog.eqGuardType prog.depth t=false){xs:List Value}(hx:(prog.keyLits 10 t xs).isSome=true)
 (fx:(Value.agg xs.toArray).formed prog t=true):mA prog .eql t (.agg (xs.map E.v)) (.agg (xs.map E.v)) (.bool true):=by
 obtain⟨l,hl⟩:=fX.1 hx;exact KT hm hk hg hl hl fx fx aH 
def Gs{a b c d e f:Int}(h:a=0/\b=0/\c=0/\d=0/\e=0/\f=0):
 mA prog .eql 74 (.agg [iP a,iP b,iP c,iP d,iP e,iP f]) (.agg [iP 0,iP 0,iP 0,iP 0,iP 0,iP 0]) (.bool true):=by
 obtain⟨rfl,rfl,rfl,rfl,rfl,rfl⟩:=h;exact RT (m:=10) (xs:=[.int .i64 0,.int .i64 0,.int .i64 0,.int .i64 0,.int .i64 0,.int .i64 0]) aE aF aF aF aF 
def KR{a b:Int}(h:a=0/\b=0):mA prog .eql 72 (.agg [iP a,iP b]) (.agg [iP 0,iP 0]) (.bool true):=by
 obtain⟨rfl,rfl⟩:=h;exact RT (m:=10) (xs:=[.int .i64 0,.int .i64 0]) aE aF aF aF aF 
def yz{d:Nat}{n:Int}(h:jY .i64 n):prog.keyLits (d+1) 3 [.int .i64 n]=some [.int .i64 n]:=by
 have hw:(Lit.int .i64 n).wf=true:=by
  unfold jY at h;simp[Lit.wf,IntKind.min,IntKind.max,IntKind.signed,IntKind.bits];omega
 unfold Program.keyLits;rw[underlying3];simp[hw]
def Sf{a b:Int}(ha:jY .i64 a)(hb:jY .i64 b):prog.keyLits 10 72 [.int .i64 a,.int .i64 b]=some [.int .i64 a,.int .i64 b]:=by
 have c1:prog.cellsOf 72=2:= aF ;have c2:prog.cellsOf 3=1:= aF ;unfold Program.keyLits;rw[underlying72];simp[c1,c2,eU,yz ha,yz hb]
def acP{a b:Int}{r:Bool}(ha:jY .i64 a)(hb:jY .i64 b)(h:decide (a=0/\b=0)=r):mA prog .eql 72 (.agg [iP a,iP b]) (.agg [iP 0,iP 0]) (.bool r):=
 KT (m:=10) (xs:=[.int .i64 a,.int .i64 b]) (ys:=[.int .i64 0,.int .i64 0]) aE aF aF (Sf ha hb) (Sf aQ aQ) aF aF (by subst h;simp)
def acQ{a b c d e f a' b' c' d' e' f':Int}{r:Bool}(hx:prog.keyLits 10 74 [.int .i64 a,.int .i64 b,.int .i64 c,.int .i64 d,.int .i64 e,.int .i64 f]=some [.int .i64 a,.int .i64 b,.int .i64 c,.int .i64 d,.int .i64 e,.int .i64 f])(hy:prog.keyLits 10 74 [.int .i64 a',.int .i64 b',.int .i64 c',.int .i64 d',.int .i64 e',.int .i64 f']=some [.int .i64 a',.int .i64 b',.int .i64 c',.int .i64 d',.int .i64 e',.int .i64 f'])
 (fx:(Value.agg (List.toArray [.int .i64 a,.int .i64 b,.int .i64 c,.int .i64 d,.int .i64 e,.int .i64 f])).formed prog 74=true) (fy:(Value.agg (List.toArray [.int .i64 a',.int .i64 b',.int .i64 c',.int .i64 d',.int .i64 e',.int .i64 f'])).formed prog 74=true) (h:decide (a=a'/\b=b'/\c=c'/\d=d'/\e=e'/\f=f')=r):
 mA prog .eql 74 (.agg [iP a,iP b,iP c,iP d,iP e,iP f]) (.agg [iP a',iP b',iP c',iP d',iP e',iP f']) (.bool r):=
 KT (m:=10) (xs:=[.int .i64 a,.int .i64 b,.int .i64 c,.int .i64 d,.int .i64 e,.int .i64 f]) (ys:=[.int .i64 a',.int .i64 b',.int .i64 c',.int .i64 d',.int .i64 e',.int .i64 f']) aE aF aF hx hy fx fy (by subst h;simp)
def KS{a b:ByteArray}{r:Bool}(h:(a.toList==b.toList)=r):mA prog .eql 9 (.v (.string a)) (.v (.string b)) (.bool r):=by
 intro bs br w x y ox oy hx hy;obtain rfl:=iB.jX hx;obtain rfl:=iB.jX hy;subst h;refine⟨by simp[eqGuard],?_⟩;show(Op.stringOp .eql a b).run prog w=_;unfold Op.stringOp;simp only[Sem.run_pure]
def aeJ{P:Program}(w:World)(t tx ty e:TypeId)(i:TypeInfo)(z:Value)(ht:P.underlying t=some (.slice e))(hx:P.underlying tx=some (.int .i64))(hi:P.info? e=some i)(hz:i.zero=some z)
 (vN:i.size≠0) (n:Nat) (h0:0<n) (CQ:n<=1000000) (OP:n*i.bytes<=281474976710656):
 (Builtin.append_ #[t,tx] ty #[.slice none 0 0,.int .i64 (n:Int)]).run P w =
  .ok (.slice (some ⟨w.heap.size,0,none⟩) n (grownCap w n 0 e)) (w.drew.alloc (.cells (Builtin.zeroCells z.cells n++Builtin.zeroCells z.cells (grownCap w n 0 e-n)) e)):=by
 have hn:n≠0:= aC ;have hns:n*i.size≠0:=dB hn vN;have ZG:¬(9223372036854775807<(n:Int)):= aC ;have ZD:¬(281474976710656<Builtin.nextslicecap n 0*i.bytes):=by rw[nextslicecap_zero h0];omega
 have hw:IntKind.i64.wrap (n:Int)=n:=i64_in _ aC aC;have C4:¬((n:Int)<0):= aC ;have ZE:¬(281474976710656<(n:Int)*(i.bytes:Int)):=by
  have:(n:Int)*(i.bytes:Int)=((n*i.bytes:Nat):Int):= aH ;rw[this];omega
 simp[Builtin.append_,run_underlying ht,run_underlying hx,sizeOf,typeInfo,zeroValue,hi,hz,asInt,asIntOf,hw,C4,ZE,hn,hns,ZG,ZD,Question.forced,run_firstCells_none,newRow,grownCap]
def agv{P:Program}{w:World}{ops:Array Oper}{rest:List Oper}{o:Oper}{a:Act}{Q:Exit->Act->World->Prop}(zG:o.guard=none)(s x:Operand)(t tx:TypeId)
 (ho:o.op = .call { callee:=.builtin .append,args:=#[s,x],argTypes:=#[t,tx] })
 (e:TypeId) (i:TypeInfo) (z:Value) (ht:P.underlying t=some (.slice e)) (hx:P.underlying tx=some (.int .i64)) (hi:P.info? e=some i) (hz:i.zero=some z)
 (vN:i.size≠0) (n:Nat) (h0:0<n) (CQ:n<=1000000) (OP:n*i.bytes<=281474976710656) (hs:a.eval s = .slice none 0 0) (hxx:a.eval x = .int .i64 (n:Int))
 (h:wpList P ops Q rest (a.put o.dst (.slice (some ⟨w.heap.size,0,none⟩) n (grownCap w n 0 e))) (w.drew.alloc (.cells (Builtin.zeroCells z.cells n++Builtin.zeroCells z.cells (grownCap w n 0 e-n)) e))):wpList P ops Q (o::rest) a w:=by
 refine wpList_plain zG λK hK=>?_
 have kP:=aeJ (P:=P) w t tx o.type e i z ht hx hi hz vN n h0 CQ OP;unfold Oper.wp;simp[execOp,ho,resolve,invoke,builtin,hs,hxx,kP,Result.andThen];exact hK _ _ h
def UD(w:World)(o:Obj):Below w.heap.size w (w.alloc o).drew:=⟨rfl,rfl,rfl,by rw[show(w.alloc o).drew.heap=w.heap.push o from rfl,dz];omega,λx hx=>Below.heap_alloc w _ x hx⟩
def UE(w:World)(o:Obj):w.heap.size<(w.alloc o).drew.heap.size:=by rw[show(w.alloc o).drew.heap=w.heap.push o from rfl,dz];omega
def aaC:(prog.info? 46).map (λi=>(i.zero,i.size,i.bytes))=some (some (.agg #[.bool false,.slice none 0 0,.int .i64 0,.bool false,.slice none 0 0,.int .i64 0,.bool false]),7,88):= aF 
def Uc(n:Nat):∀ u,u ∈ Builtin.zeroCells (Value.cells (.agg #[.bool false,.slice none 0 0,.int .i64 0,.bool false,.slice none 0 0,.int .i64 0,.bool false])) n->rI u=false:=by
 intro u hu;simp only[Builtin.zeroCells,fz,fA]at hu;obtain⟨q,hq,rfl⟩:=hu;have hc:Value.cells (.agg #[.bool false,.slice none 0 0,.int .i64 0,.bool false,.slice none 0 0,.int .i64 0,.bool false]) = #[.bool false,.slice none 0 0,.int .i64 0,.bool false,.slice none 0 0,.int .i64 0,.bool false]:=rfl;rw[hc]at hq ⊢;have hs:(#[Value.bool false,.slice none 0 0,.int .i64 0,.bool false,.slice none 0 0,.int .i64 0,.bool false]:Array Value).size=7:=rfl;rw[hs];have h7:q%7<7:=bC _ aE;generalize q%7=k at h7;rcases k with _|_|_|_|_|_|_|k
 all_goals first|rfl|omega
set_option maxRecDepth 100000 in
def Zu(n:Nat)(hn:n<=1000000):sW prog Tb 239 [.v (.slice none 0 0),iP (n:Int)] true 46 0 7 (jQ []):=by
 refine⟨call239,λw B vs hK hB hr=>?_⟩;obtain⟨v1,vs,rfl,h1,hr⟩:=hr.lp;obtain⟨v2,vs,rfl,h2,hr⟩:=hr.lp;obtain rfl:=hr.o0;obtain rfl:=iB.jX h1;obtain rfl:=iB.jX h2;show Calls _ _ #[.slice none 0 0,.int .i64 (n:Int)] w _;clear h1 h2 hr hB hK;by_cases h0:n=0
 .subst h0;go_enter func239,ntmps239;go_wp2;go_ret;exact⟨_,rfl,Below.refl _ _,λ_ _=>undef,.inl ⟨rfl,rfl⟩,λx hx=>by simp[Value.ownBlock]at hx,λi j hi=>absurd hi (bE _)⟩
 .obtain ⟨i,hi,hz,h1,h2⟩:=info_parts aaC;have hw:IntKind.i64.wrap ((n:Int)-0)=n:=i64_in _ aC aC;have J0:IntKind.i64.wrap (n:Int)=n:=i64_in _ aC aC;have e2:decide ((n:Int)<0)=false:=bg aC;have e3:decide ((0:Int)<n)=true:=bh aC;have Bl:n<=grownCap w n 0 46:=grownCap_ge w n 0 _;go_enter func239,ntmps239;go_wp2_with (at_builtin;go_must (refine agv aG _ _ _ _ aG _ i _ underlying26 underlying3 hi hz aC n aC aC (by rw[h2];omega) aG aG ?_))
  go_ret;have hz7:(#[Value.bool false,.slice none 0 0,.int .i64 0,.bool false,.slice none 0 0,.int .i64 0,.bool false]:Array Value).size=7:=rfl;refine⟨_,rfl,UD w _,λ_ _=>undef,.inr ⟨w.heap.size,grownCap w n 0 46,_,rfl,heap_alloc_new w _,bO _,grownCap_le_maxLen w n 0 _ (by unfold maxLen;omega),?_,λi j hi=>absurd hi (bE _),λ_ u hu=>?_⟩,λx hx=>?_,λi j hi=>absurd hi (bE _)⟩
  .simp only[gR,size_zeroCells,hz7,<-bR];congr 1;omega
  .rcases eP.1 hu with hu|hu
   .exact Uc _ u hu
   .exact Uc _ u hu
  .simp [Value.ownBlock]at hx;subst hx;exact⟨bd _,UE w _⟩
abbrev EF(f:FuncId)(args:List E)(nl:Bool)(T:TypeId)(n sz:Nat)(el:Nat->Nat->E):Prop:=sW prog Tb f args nl T n sz el
def trn{f:FuncId}{fn:Func}{args:List E}{nl:Bool}{T0:TypeId}{n sz:Nat}{el:Nat->Nat->E}(uA:∀ (vs:Array Value) (w:World),(callFunc f vs).run prog w = .ok (.enter f vs) w)
 (hf:prog.funcs[f]? = some fn) (t:Tr prog Tb) (h:Lb TT fn args (.row nl T0 n sz el) t=t.ex λ_=>.a (Bx.le (.row nl T0 n sz el) (.row nl T0 n sz el)) .nil):EF f args nl T0 n sz el:=
 sW.LN y9 mixed Mf uA hf t h
def TA(t:jI)(x:Nat):PS:=⟨46,true,[(28,.e (iP x)),(27,.e (iP t.ops.length)),(26,.e (kB t.ops)),(1,.box 1 0)],[(1,.cells 25 [iP t.iq,kB t.ops,kJ t.iC])]⟩
def Tu(s:lY)(x:Nat):PS:=⟨85,true,[(31,.e (iP x)),(30,.e (iP s.tape.ops.length)),(29,.e (kB s.tape.ops)),(3,.box 3 0),(1,.box 1 0)],[(3,.cells 25 [iP s.tape.iq,kB s.tape.ops,kJ s.tape.iC]),(1,.cells 28 [iP s.tape.iq,kB s.tape.ops,kJ s.tape.iC,iP s.jy,im s.params])]⟩
noncomputable def Tz(t:jI)(xs:List Iv)(p:Nat)(x:Nat):PS:=⟨75,true,[(26,.e (iP x)),(25,.e (iP t.ops.length)),(24,.e (kB t.ops)),(7,.own 22),(2,.e (iP p))],[(22,.row true 46 ((iI t.ops xs p x).length) 7 (jQ (iI t.ops xs p x)))]⟩
def RZ(k:Nat)(h1:3<=k)(h2:k<=6):gU 287 [iP k] (iP 2):=
 ak call287 func287 (ae [ai 5 ((k:Int)==1) (aT aC)]<|.w ((k:Int)=3)
  (λk1=>af [tB 7 (aU k1)])
  (λk1=>ae [tB 7 (aT k1)]<|.w ((k:Int)=4)
   (λk2=>af [tB 8 (aU k2)])
   (λk2=>ae [tB 8 (aT k2)]<|.w ((k:Int)=5)
    (λk3=>af [tB 9 (aU k3)])
    (λk3=>ae [tB 9 (aT k3)]<|.w ((k:Int)=6)
     (λk4=>af [tB 10 (aU k4)])
     (λk4=>.x aC))))) 
def KV(k:Nat)(h1:7<=k)(h2:k<=13):gU 287 [iP k] (iP 1):=
 ak call287 func287 (ae [ai 5 ((k:Int)==1) (aT aC),ai 7 ((k:Int)==3) (aT aC),ai 8 ((k:Int)==4) (aT aC),ai 9 ((k:Int)==5) (aT aC),ai 10 ((k:Int)==6) (aT aC)]<|.w ((k:Int)=7)
  (λk1=>af [tB 12 (aU k1)])
  (λk1=>ae [tB 12 (aT k1)]<|.w ((k:Int)=8)
   (λk2=>af [tB 13 (aU k2)])
   (λk2=>ae [tB 13 (aT k2)]<|.w ((k:Int)=9)
    (λk3=>af [tB 14 (aU k3)])
    (λk3=>ae [tB 14 (aT k3)]<|.w ((k:Int)=10)
     (λk4=>af [tB 15 (aU k4)])
     (λk4=>ae [tB 15 (aT k4)]<|.w ((k:Int)=11)
      (λk5=>af [tB 16 (aU k5)])
      (λk5=>ae [tB 16 (aT k5)]<|.w ((k:Int)=12)
       (λk6=>af [tB 17 (aU k6)])
       (λk6=>ae [tB 17 (aT k6)]<|.w ((k:Int)=13)
        (λk7=>af [tB 18 (aU k7)])
        (λk7=>.x aC)))))))) 
def RY(k:Nat)(h1:k=1):gU 287 [iP k] (iP 0):=
 ak call287 func287 (af [ah 5 ((k:Int)==1) (aU aC)]) 
def acS{a b:Int}(h:oO a b=true):mA prog .eql 72 (.agg [iP a,iP b]) (.agg [iP 0,iP 0]) (.bool false):=by
 obtain⟨h1,h2,h3,h4⟩:=Gz h;exact acP aQ aQ (bg aC)
def ng.iy{o:iM}{m:Nat}(h:ng o m)(mK:o.kind≠1)(hk:o.kind<=6):3<=o.kind/\o.a<m/\o.b<m/\o.n=0/\o.cn=0/\o.cd=0:=by
 have h3:=h.k3.resolve_left mK;have ha:=h.a;have hb:=h.b;have hn:=h.n;have hc:=h.c;rw[aY mK]at ha hc;rw[aZ ⟨h3,hk⟩]at hb;rw[aY aC]at hn;exact⟨h3,ha,hb,hn,hc.1,hc.2⟩
def ng.pow{o:iM}{m:Nat}(h:ng o m)(hk:o.kind=8):o.a<m/\o.b=0/\o.n<=16/\o.cn=0/\o.cd=0:=by
 have ha:=h.a;have hb:=h.b;have hn:=h.n;have hc:=h.c;rw[aY aC]at ha hb hc;rw[aZ hk]at hn;exact⟨ha,hb,hn,hc.1,hc.2⟩
def ng.un{o:iM}{m:Nat}(h:ng o m)(hk:¬o.kind<=6)(uC:o.kind≠8):o.kind<=13/\o.a<m/\o.b=0/\o.n=0/\o.cn=0/\o.cd=0:=by
 have ha:=h.a;have hb:=h.b;have hn:=h.n;have hc:=h.c;rw[aY aC]at ha hb hc;rw[aY uC]at hn;exact⟨h.Af,ha,hb,hn,hc.1,hc.2⟩
def ng.num{o:iM}{m:Nat}(h:ng o m)(hk:o.kind=1):o.a=0/\o.b=0/\o.n=0/\oO o.cn o.cd=true:=by
 have ha:=h.a;have hb:=h.b;have hn:=h.n;have hc:=h.c;rw[aZ hk]at ha hc;rw[aY aC]at hb hn;exact⟨ha,hb,hn,hc⟩
def ng.Hz{o:iM}{m:Nat}(h:ng o m)(hk:o.kind≠1):o.a<m:=by
 have ha:=h.a;rwa[aY hk]at ha
def ade(o:iM)(m:Nat)(h:ng o m)(hk:o.kind=1):gU 324 [oM o,iP m] (bP true):=by
 obtain⟨h2,h3,h4,rf⟩:=h.num hk;exact ak call324 func324 (af [.c (RY o.kind aC),ai 14 (decide ((0:Int)<0)) aE,ah 17 ((0:Int)==0) aE,.c (K6 o.cn o.cd),ah 20 (oO o.cn o.cd) rf,ai 26 ((o.kind:Int)==8) (aT aC),ai 37 (decide ((0:Int)<0)) aE,ai 49 (decide ((1:Int)<0)) aE,.g (Gs ⟨aC,aC,aC,aC,aC,aC⟩:mA prog .eql 74 (.agg [iP 0,iP o.a,iP o.b,iP o.n,iP 0,iP 0]) (.agg [iP 0,iP 0,iP 0,iP 0,iP 0,iP 0]) (.bool true))]) 
def adb(o:iM)(m:Nat)(h:ng o m)(mK:o.kind≠1)(hk:o.kind<=6):gU 324 [oM o,iP m] (bP true):=by
 obtain⟨h1,h2,h3,h4,h5,h6⟩:=h.iy mK hk;exact ak call324 func324 (af [.c (RZ o.kind aC aC),ai 14 (decide ((2:Int)<0)) aE,ai 17 ((2:Int)==0) aE,ai 26 ((o.kind:Int)==8) (aT aC),ah 37 (decide ((0:Int)<2)) aE,tF 40 ((o.a:Int)<0) aC,tF 45 ((m:Int)<=o.a) aC,ah 49 (decide ((1:Int)<2)) aE,tF 52 ((o.b:Int)<0) aC,tF 57 ((m:Int)<=o.b) aC,.g (Gs ⟨aC,aC,aC,aC,aC,aC⟩:mA prog .eql 74 (.agg [iP 0,iP 0,iP 0,iP o.n,iP o.cn,iP o.cd]) (.agg [iP 0,iP 0,iP 0,iP 0,iP 0,iP 0]) (.bool true))]) 
def adg(o:iM)(m:Nat)(h:ng o m)(hk:o.kind=8):gU 324 [oM o,iP m] (bP true):=by
 obtain⟨h2,h3,h4,h5,h6⟩:=h.pow hk;exact ak call324 func324 (af [.c (KV o.kind aC aC),ai 14 (decide ((1:Int)<0)) aE,ai 17 ((1:Int)==0) aE,ah 26 ((o.kind:Int)==8) (aU aC),tF 29 ((o.n:Int)<0) aC,tF 33 (16<(o.n:Int)) aC,ah 37 (decide ((0:Int)<1)) aE,tF 40 ((o.a:Int)<0) aC,tF 45 ((m:Int)<=o.a) aC,ai 49 (decide ((1:Int)<1)) aE,.g (Gs ⟨aC,aC,aC,aC,aC,aC⟩:mA prog .eql 74 (.agg [iP 0,iP 0,iP o.b,iP 0,iP o.cn,iP o.cd]) (.agg [iP 0,iP 0,iP 0,iP 0,iP 0,iP 0]) (.bool true))]) 
def adh(o:iM)(m:Nat)(h:ng o m)(hk:¬o.kind<=6)(uC:o.kind≠8):gU 324 [oM o,iP m] (bP true):=by
 obtain⟨h1,h2,h3,h4,h5,h6⟩:=h.un hk uC;exact ak call324 func324 (af [.c (KV o.kind aC aC),ai 14 (decide ((1:Int)<0)) aE,ai 17 ((1:Int)==0) aE,ai 26 ((o.kind:Int)==8) (aT aC),ah 37 (decide ((0:Int)<1)) aE,tF 40 ((o.a:Int)<0) aC,tF 45 ((m:Int)<=o.a) aC,ai 49 (decide ((1:Int)<1)) aE,.g (Gs ⟨aC,aC,aC,aC,aC,aC⟩:mA prog .eql 74 (.agg [iP 0,iP 0,iP o.b,iP o.n,iP o.cn,iP o.cd]) (.agg [iP 0,iP 0,iP 0,iP 0,iP 0,iP 0]) (.bool true))]) 
def afx(o:iM)(m:Nat)(h:ng o m)(hk:o.kind=1):gU 231 [oM o,iP m] (bP true):=by
 obtain⟨h2,h3,h4,rf⟩:=h.num hk;exact ak call231 func231 (af [tF 8 ((o.a:Int)<0) aC,tF 12 ((o.b:Int)<0) aC,.g (acS rf:mA prog .eql 72 (.agg [iP o.cn,iP o.cd]) (.agg [iP 0,iP 0]) (.bool false)),ah 21 ((o.kind:Int)==1) (aU aC),.c (K6 o.cn o.cd),ah 24 (oO o.cn o.cd) rf,ah 28 ((o.a:Int)==0) (aU aC),ah 33 ((o.b:Int)==0) (aU aC),ah 38 ((o.n:Int)==0) (aU aC)]) 
def afw(o:iM)(m:Nat)(h:ng o m)(mK:o.kind≠1)(hk:o.kind<=6):gU 231 [oM o,iP m] (bP true):=by
 obtain⟨h1,h2,h3,h4,h5,h6⟩:=h.iy mK hk;exact ak call231 func231 (ae [tF 8 ((o.a:Int)<0) aC,tF 12 ((o.b:Int)<0) aC,.g (KR ⟨aC,aC⟩:mA prog .eql 72 (.agg [iP o.cn,iP o.cd]) (.agg [iP 0,iP 0]) (.bool true)),ai 21 ((o.kind:Int)==1) (aT aC)]<|.w ((o.kind:Int)=3)
  (λk1=>af [tB 41 (aU k1),tT 50 ((o.a:Int)<m) aC,tT 56 ((o.b:Int)<m) aC,ah 61 ((o.n:Int)==0) (aU aC)])
  (λk1=>ae [tB 41 (aT k1)]<|.w ((o.kind:Int)=4)
   (λk2=>af [tB 42 (aU k2),tT 50 ((o.a:Int)<m) aC,tT 56 ((o.b:Int)<m) aC,ah 61 ((o.n:Int)==0) (aU aC)])
   (λk2=>ae [tB 42 (aT k2)]<|.w ((o.kind:Int)=5)
    (λk3=>af [tB 43 (aU k3),tT 50 ((o.a:Int)<m) aC,tT 56 ((o.b:Int)<m) aC,ah 61 ((o.n:Int)==0) (aU aC)])
    (λk3=>ae [tB 43 (aT k3)]<|.w ((o.kind:Int)=6)
     (λk4=>af [tB 44 (aU k4),tT 50 ((o.a:Int)<m) aC,tT 56 ((o.b:Int)<m) aC,ah 61 ((o.n:Int)==0) (aU aC)])
     (λk4=>.x aC))))) 
def afz(o:iM)(m:Nat)(h:ng o m)(hk:o.kind=8):gU 231 [oM o,iP m] (bP true):=by
 obtain⟨h2,h3,h4,h5,h6⟩:=h.pow hk;exact ak call231 func231 (af [tF 8 ((o.a:Int)<0) aC,tF 12 ((o.b:Int)<0) aC,.g (KR ⟨aC,aC⟩:mA prog .eql 72 (.agg [iP o.cn,iP o.cd]) (.agg [iP 0,iP 0]) (.bool true)),ai 21 ((o.kind:Int)==1) (aT aC),ai 41 ((o.kind:Int)==3) (aT aC),ai 42 ((o.kind:Int)==4) (aT aC),ai 43 ((o.kind:Int)==5) (aT aC),ai 44 ((o.kind:Int)==6) (aT aC),ah 64 ((o.kind:Int)==8) (aU aC),tT 70 ((o.a:Int)<m) aC,ah 75 ((o.b:Int)==0) (aU aC),tT 80 (0<=(o.n:Int)) aC,tT 85 ((o.n:Int)<=16) aC]) 
def afA(o:iM)(m:Nat)(h:ng o m)(hk:¬o.kind<=6)(uC:o.kind≠8):gU 231 [oM o,iP m] (bP true):=by
 obtain⟨h1,h2,h3,h4,h5,h6⟩:=h.un hk uC;exact ak call231 func231 (ae [tF 8 ((o.a:Int)<0) aC,tF 12 ((o.b:Int)<0) aC,.g (KR ⟨aC,aC⟩:mA prog .eql 72 (.agg [iP o.cn,iP o.cd]) (.agg [iP 0,iP 0]) (.bool true)),ai 21 ((o.kind:Int)==1) (aT aC),ai 41 ((o.kind:Int)==3) (aT aC),ai 42 ((o.kind:Int)==4) (aT aC),ai 43 ((o.kind:Int)==5) (aT aC),ai 44 ((o.kind:Int)==6) (aT aC),ai 64 ((o.kind:Int)==8) (aT aC)]<|.w ((o.kind:Int)=7)
  (λk1=>af [tB 88 (aU k1),tT 99 ((o.a:Int)<m) aC,ah 104 ((o.b:Int)==0) (aU aC),ah 109 ((o.n:Int)==0) (aU aC)])
  (λk1=>ae [tB 88 (aT k1)]<|.w ((o.kind:Int)=9)
   (λk2=>af [tB 89 (aU k2),tT 99 ((o.a:Int)<m) aC,ah 104 ((o.b:Int)==0) (aU aC),ah 109 ((o.n:Int)==0) (aU aC)])
   (λk2=>ae [tB 89 (aT k2)]<|.w ((o.kind:Int)=10)
    (λk3=>af [tB 90 (aU k3),tT 99 ((o.a:Int)<m) aC,ah 104 ((o.b:Int)==0) (aU aC),ah 109 ((o.n:Int)==0) (aU aC)])
    (λk3=>ae [tB 90 (aT k3)]<|.w ((o.kind:Int)=11)
     (λk4=>af [tB 91 (aU k4),tT 99 ((o.a:Int)<m) aC,ah 104 ((o.b:Int)==0) (aU aC),ah 109 ((o.n:Int)==0) (aU aC)])
     (λk4=>ae [tB 91 (aT k4)]<|.w ((o.kind:Int)=12)
      (λk5=>af [tB 92 (aU k5),tT 99 ((o.a:Int)<m) aC,ah 104 ((o.b:Int)==0) (aU aC),ah 109 ((o.n:Int)==0) (aU aC)])
      (λk5=>ae [tB 92 (aT k5)]<|.w ((o.kind:Int)=13)
       (λk6=>af [tB 93 (aU k6),tT 99 ((o.a:Int)<m) aC,ah 104 ((o.b:Int)==0) (aU aC),ah 109 ((o.n:Int)==0) (aU aC)])
       (λk6=>.x aC))))))) 
def adf(o:iM)(m:Nat)(h:ng o m):gU 324 [oM o,iP (m:Int)] (bP true):=by
 by_cases mK:o.kind=1
 .exact ade o m h mK
 by_cases hk:o.kind<=6
 .exact adb o m h mK hk
 .by_cases uC:o.kind=8
  .exact adg o m h uC
  .exact adh o m h hk uC
def afy(o:iM)(m:Nat)(h:ng o m):gU 231 [oM o,iP (m:Int)] (bP true):=by
 by_cases mK:o.kind=1
 .exact afx o m h mK
 by_cases hk:o.kind<=6
 .exact afw o m h mK hk
 .by_cases uC:o.kind=8
  .exact afz o m h uC
  .exact afA o m h hk uC
def afK(t:jI)(k:Nat)(hk:k<t.iq+t.ops.length)(h8:t.iq<=8)(ZB:t.ops.length<=200):gU 325 [iP k,(.jG 3 λj_=>[iP t.iq,kB t.ops,kJ t.iC].getD j_ .any)] (bP false):=
 ak call325 func325 (af [tF 5 ((k:Int)<0) aC,iu ((t.iq:Int)+t.ops.length) aC,tF 14 (((t.iq+t.ops.length:Nat):Int)<=k) aC]) 
def TB(t:jI)(h:wC t):gU 285 [kn t] (bP true):=by
 have h8:=h.iq;have Bu:=h.ops;have C5:=h.iC;exact ak call285 func285 (af [tF 7 ((t.iq:Int)<0) aC,tF 11 (8<(t.iq:Int)) aC,tF 17 (200<(t.ops.length:Int)) aC,tF 23 (200<(t.iC.length:Int)) aC,.s (Sp.kY (TA t) 0 t.ops.length aC (λx hx mZ=>by
    have il:=h.op x aC;exact jg (af [tT 29 ((x:Int)<t.ops.length) aC,iX (x:Int) (t.ops.length) aC,iu ((t.iq:Int)+x) aC,ag [oM (t.ops.getD x iw),iP ((t.iq+x:Nat):Int)] (adf _ _ il),iu ((x:Int)+1) aC]) aF)
  (λhx=>by
    exact jg (af [tF 29 ((t.ops.length:Int)<t.ops.length) aC]) aF) aI:kU 4 f285 (TA t 0) (.exit 0) ⟨46,true,[(1,.box 1 0)],[(1,.cells 25 [iP t.iq,kB t.ops,kJ t.iC])]⟩) .nil,.c (Qs true _ _ 325 [(.jG 3 λj_=>[iP t.iq,kB t.ops,kJ t.iC].getD j_ .any)] (λ_=>false) (λi hi=>afK t _ (h.out i hi) h8 Bu) aC (λ_ _=>rfl):gU 232 [kJ t.iC,.fn 325 [(.jG 3 λj_=>[iP t.iq,kB t.ops,kJ t.iC].getD j_ .any)]] _)]) 
def afB(t:jI)(k:Nat)(hk:k<t.iq+t.ops.length)(h8:t.iq<=8)(ZB:t.ops.length<=200):gU 233 [iP k,(.jG 3 λj_=>[iP t.iq,kB t.ops,kJ t.iC].getD j_ .any)] (bP false):=
 ak call233 func233 (af [tF 5 ((k:Int)<0) aC,iu ((t.iq:Int)+t.ops.length) aC,tF 14 (((t.iq+t.ops.length:Nat):Int)<=k) aC]) 
def afC(x:Iv)(hx:x.gX)(xa:x.all=false):gU 234 [ia x] (bP false):=by
 obtain⟨w1,w2,w3⟩:=rJ hx xa;exact ak call234 func234 (af [ai 4 x.all xa,ag [gZ x.lo] (uo _ aD),ag [gZ x.hi] (uo _ aD),ag [gZ x.lo,gZ x.hi] (nD _ _ aD aD),tF 23 (0<(jj x.lo x.hi)) aC]) 
def LH(s:lY)(h:mR s):gU 157 [kX s] (bP true):=by
 have h8:=h.tape.iq;have Bu:=h.tape.ops;have C5:=h.tape.iC;have s1:=h.s1;have s4:=h.s4;have ho:=h.iC;have hi:=h.iq;have p4:=h.p4;exact ak call157 func157 (af [tF 10 ((s.tape.iq:Int)<0) aC,tF 14 (8<(s.tape.iq:Int)) aC,tF 20 (200<(s.tape.ops.length:Int)) aC,tF 26 (200<(s.tape.iC.length:Int)) aC,.s (Sp.kY (Tu s) 0 s.tape.ops.length aC (λx hx mZ=>by
    have il:=h.tape.op x aC;exact jg (af [tT 32 ((x:Int)<s.tape.ops.length) aC,iX (x:Int) (s.tape.ops.length) aC,iu ((s.tape.iq:Int)+x) aC,ag [oM (s.tape.ops.getD x iw),iP ((s.tape.iq+x:Nat):Int)] (afy _ _ il),iu ((x:Int)+1) aC]) aF)
  (λhx=>by
    exact jg (af [tF 32 ((s.tape.ops.length:Int)<s.tape.ops.length) aC]) aF) aI:kU 5 f157 (Tu s 0) (.exit 0) ⟨85,true,[(3,.box 3 0),(1,.box 1 0)],[(3,.cells 25 [iP s.tape.iq,kB s.tape.ops,kJ s.tape.iC]),(1,.cells 28 [iP s.tape.iq,kB s.tape.ops,kJ s.tape.iC,iP s.jy,im s.params])]⟩) .nil,.c (Qs true _ _ 233 [(.jG 3 λj_=>[iP s.tape.iq,kB s.tape.ops,kJ s.tape.iC].getD j_ .any)] (λ_=>false) (λi hi=>afB s.tape _ (h.tape.out i hi) h8 Bu) aC (λ_ _=>rfl):gU 232 [kJ s.tape.iC,.fn 233 [(.jG 3 λj_=>[iP s.tape.iq,kB s.tape.ops,kJ s.tape.iC].getD j_ .any)]] _),tF 50 ((s.jy:Int)<1) aC,tF 54 (4<(s.jy:Int)) aC,ai 62 ((s.tape.iC.length:Int) != (s.jy:Int)) (Ak aC),
  iu ((s.jy:Int)+s.params.length) aC,ai 73 ((s.tape.iq:Int) != ((s.jy+s.params.length:Nat):Int)) (Ak aC),tF 79 (4<(s.params.length:Int)) aC,.c (BG true _ _ 234 [] (λ_=>false) (λi hi=>afC _ (h.params i hi).1 (h.params i hi).2) aC (λ_ _=>rfl):gU 40 [im s.params,.fn 234 []] _)]) 
def Mp(o:iM)(x y:Iv)(p:Nat)(hx:x.gX)(hy:y.gX)(r1:3<=o.kind)(r2:o.kind<=13)(r3:o.n<=16)(ig:8<=p)(gY:p<=512):gU 289 [iP o.kind,iP o.n,ia x,ia y,iP p] (ia (lF o x y p)):=
 ak call289 func289 (.w ((o.kind:Int)=3)
  (λk1=>ae [tB 13 (aU k1),.c (BE x y p aD aD aC aC)]<|rQ (ia (jN x y p)) (ia (lF o x y p)) (by unfold lF;simp[(aC:o.kind=3)]))
  (λk1=>ae [tB 13 (aT k1)]<|.w ((o.kind:Int)=4)
   (λk2=>ae [tB 19 (aU k2),.c (Kg x y p aD aD aC aC)]<|rQ (ia (yW x y p)) (ia (lF o x y p)) (by unfold lF;simp[(aC:¬o.kind=3),(aC:o.kind=4)]))
   (λk2=>ae [tB 19 (aT k2)]<|.w ((o.kind:Int)=5)
    (λk3=>ae [tB 25 (aU k3),.c (uP x y p aD aD aC aC)]<|rQ (ia (jm x y p)) (ia (lF o x y p)) (by unfold lF;simp[(aC:¬o.kind=3),(aC:¬o.kind=4),(aC:o.kind=5)]))
    (λk3=>ae [tB 25 (aT k3)]<|.w ((o.kind:Int)=6)
     (λk4=>ae [tB 31 (aU k4),.c (Dq x y p aD aD aC aC)]<|rQ (ia (jT x y p)) (ia (lF o x y p)) (by unfold lF;simp[(aC:¬o.kind=3),(aC:¬o.kind=4),(aC:¬o.kind=5),(aC:o.kind=6)]))
     (λk4=>ae [tB 31 (aT k4)]<|.w ((o.kind:Int)=7)
      (λk5=>ae [tB 37 (aU k5),.c (F9 x aD)]<|rQ (ia (qn x)) (ia (lF o x y p)) (by unfold lF;simp[(aC:¬o.kind=3),(aC:¬o.kind=4),(aC:¬o.kind=5),(aC:¬o.kind=6),(aC:o.kind=7)]))
      (λk5=>ae [tB 37 (aT k5)]<|.w ((o.kind:Int)=8)
       (λk6=>ae [tB 41 (aU k6),ag [ia x,iP o.n,iP p] (MC _ _ _ aD aC aC aC)]<|rQ (ia (oN x o.n p)) (ia (lF o x y p)) (by unfold lF;simp[(aC:¬o.kind=3),(aC:¬o.kind=4),(aC:¬o.kind=5),(aC:¬o.kind=6),(aC:¬o.kind=7),(aC:o.kind=8)]))
       (λk6=>ae [tB 41 (aT k6)]<|.w ((o.kind:Int)=9)
        (λk7=>ae [tB 47 (aU k7),ag [ia x,iP p] (Yq _ aD _ aC aC)]<|rQ (ia (A8 x p)) (ia (lF o x y p)) (by unfold lF;simp[(aC:¬o.kind=3),(aC:¬o.kind=4),(aC:¬o.kind=5),(aC:¬o.kind=6),(aC:¬o.kind=7),(aC:¬o.kind=8),(aC:o.kind=9)]))
        (λk7=>ae [tB 47 (aT k7)]<|.w ((o.kind:Int)=10)
         (λk8=>ae [tB 52 (aU k8),ag [ia x,iP p] (Ys _ aD _ aC aC)]<|rQ (ia (A9 x p)) (ia (lF o x y p)) (by unfold lF;simp[(aC:¬o.kind=3),(aC:¬o.kind=4),(aC:¬o.kind=5),(aC:¬o.kind=6),(aC:¬o.kind=7),(aC:¬o.kind=8),(aC:¬o.kind=9),(aC:o.kind=10)]))
         (λk8=>ae [tB 52 (aT k8)]<|.w ((o.kind:Int)=11)
          (λk9=>ae [tB 57 (aU k9),ag [ia x,iP p] (Oi _ aD _ aC aC)]<|rQ (ia (vw x p)) (ia (lF o x y p)) (by unfold lF;simp[(aC:¬o.kind=3),(aC:¬o.kind=4),(aC:¬o.kind=5),(aC:¬o.kind=6),(aC:¬o.kind=7),(aC:¬o.kind=8),(aC:¬o.kind=9),(aC:¬o.kind=10),(aC:o.kind=11)]))
          (λk9=>ae [tB 57 (aT k9)]<|.w ((o.kind:Int)=12)
           (λk10=>ae [tB 62 (aU k10),ag [ia x,iP p] (Og _ aD _ aC aC)]<|rQ (ia (wN x p)) (ia (lF o x y p)) (by unfold lF;simp[(aC:¬o.kind=3),(aC:¬o.kind=4),(aC:¬o.kind=5),(aC:¬o.kind=6),(aC:¬o.kind=7),(aC:¬o.kind=8),(aC:¬o.kind=9),(aC:¬o.kind=10),(aC:¬o.kind=11),(aC:o.kind=12)]))
           (λk10=>ae [tB 62 (aT k10)]<|.w ((o.kind:Int)=13)
            (λk11=>ae [tB 67 (aU k11),ag [ia x,iP p] (Yu _ aD _ aC aC)]<|rQ (ia (Ba x p)) (ia (lF o x y p)) (by unfold lF;simp[(aC:¬o.kind=3),(aC:¬o.kind=4),(aC:¬o.kind=5),(aC:¬o.kind=6),(aC:¬o.kind=7),(aC:¬o.kind=8),(aC:¬o.kind=9),(aC:¬o.kind=10),(aC:¬o.kind=11),(aC:¬o.kind=12),(aC:o.kind=13)]))
            (λk11=>.x aC)))))))))))) 
def VE{nl:Bool}{T n n' sz:Nat}{f g h:Nat->Nat->E}(hn:n=n')(hh:∀ i j,i<n->j<sz->g i j=h i j/\(h i j).nr 2=true):Bx.le (.row nl T (0+n) sz λi j=>if i<0 then f i j else g (i-0) j) (.row nl T n' sz h):=
 .row aC λi j hi hj=>by
  have lR:i<n:= aC ;simp only[bE,bq,ey];exact⟨.iH (hh i j lR hj).1,(hh i j lR hj).2⟩
def UM(r:List Iv)(h0:0<r.length)(hl:r.length<=1000):EF 63 [im r] true 46 r.length 7 (jQ r):=
 trn call63 func63 (ae [.a (aC:0<r.length),.bo,.a (aC:(0+r.length)*88<=140737488355328)]<|.rb (VE rfl λi j hi hj=>⟨rfl,Dr _ _ hj⟩:Bx.le (.row true 46 (0+r.length) 7 (λi_ j_=>if i_<0 then(λi_ j_=>([]:List E).getD (i_*7+j_) (.v (.bool false))) i_ j_ else(E.lW (im r)) (i_-0) j_)) (.row true 46 r.length 7 (jQ r)))) aF 
def LV{T n n' x:Nat}{t:jI}{xs:List Iv}{p:Nat}{y:Iv}(hn:n=(iI t.ops xs p x).length)(uF:n'=(iI t.ops xs p (x+1)).length)(hy:se (t.ops.getD x iw) (iI t.ops xs p x) p=y):
 Bx.le (.row true T (n+[y].length) 7 λi j=>if i<n then jQ (iI t.ops xs p x) i j else(E.lW (im [y])) (i-n) j) (.row true T n' 7 (jQ (iI t.ops xs p (x+1)))):=by
 subst uF hy;exact Kh hn
def RW{o:iM}{m:Nat}(h:ng o m):o.n<=16:=by
 have:=h.n;split at this<;>omega
def afI(t:jI)(xs:List Iv)(p:Nat)(h:wC t)(h1:1<=xs.length)(hx:xs.length=t.iq)(hv:oV xs)(ig:8<=p)(gY:p<=512):gU 237 [kn t,im xs,iP p] (im (iI t.ops xs p t.ops.length)):=by
 have h8:=h.iq;have Bu:=h.ops;exact ak call237 func237 (af [.c (TB t aD),ai 19 ((xs.length:Int) != (t.iq:Int)) (Ak hx),.cn (UM _ aC aC:EF 63 [im xs] true 46 xs.length 7 (jQ xs)),.s (Sp.kY (Tz t xs p) 0 t.ops.length aC (λx hx mZ=>by
    have il:=h.op x aC;have vO:=Es t.ops hv (aC:1<=p) (aC:p<=4096) x;have JL:=Cj t.ops xs p x;have w1:=vO (t.ops.getD x iw).a;by_cases mK:((t.ops.getD x iw)).kind=1
    .have pI:((t.ops.getD x iw)).kind=1:=mK;obtain⟨o1,o2,o3,rf⟩:=il.num pI;have pY:se (t.ops.getD x iw) (iI t.ops xs p x) p=(pN (t.ops.getD x iw).cn (t.ops.getD x iw).cd p):=by unfold se;rw[aZ pI]
     have uI:=tN (pN (t.ops.getD x iw).cn (t.ops.getD x iw).cd p);exact jg (ae [tT 27 ((x:Int)<t.ops.length) aC,iX (x:Int) (t.ops.length) aC,.c (RY ((t.ops.getD x iw).kind:Nat) aC),ah 50 ((0:Int)==0) aE,.c (ads ((t.ops.getD x iw).cn) ((t.ops.getD x iw).cd) p aD aC aC),.o 71 (.e (lZ _):aj (.sl true 1 7 λi_ j_=>(iG (pN ((t.ops.getD x iw).cn) ((t.ops.getD x iw).cd) p)).getD (i_*7+j_) (.v (.bool false))) (im [pN ((t.ops.getD x iw).cn) ((t.ops.getD x iw).cd) p])),.a (aC:((iI t.ops xs p x).length+[pN ((t.ops.getD x iw).cn) ((t.ops.getD x iw).cd) p].length)*88<=140737488355328),iu ((x:Int)+1) aC]<|.e (af [.b 22 (LV rfl rfl pY:Bx.le (.row true 46 ((iI t.ops xs p x).length+[pN ((t.ops.getD x iw).cn) ((t.ops.getD x iw).cd) p].length) 7 (λi_ j_=>if i_<(iI t.ops xs p x).length then(jQ (iI t.ops xs p x)) i_ j_ else(E.lW (im [pN ((t.ops.getD x iw).cn) ((t.ops.getD x iw).cd) p])) (i_-(iI t.ops xs p x).length) j_)) (.row true 46 ((iI t.ops xs p (x+1)).length) 7 (jQ (iI t.ops xs p (x+1)))))])) aF 
    .by_cases hk:((t.ops.getD x iw)).kind<=6
     .have C2:((t.ops.getD x iw)).kind≠1:=mK;have pI:((t.ops.getD x iw)).kind<=6:=hk;have pY:se (t.ops.getD x iw) (iI t.ops xs p x) p=(lF (t.ops.getD x iw) ((iI t.ops xs p x).getD ((t.ops.getD x iw).a) ie) ((iI t.ops xs p x).getD ((t.ops.getD x iw).b) ie) p):=by unfold se Ii;rw[aY C2,bh pI];rfl
      obtain⟨o1,o2,o3,o4,o5,o6⟩:=il.iy C2 pI;have w2:=vO (t.ops.getD x iw).b;have o7:=il.Af;have uI:=tN (lF (t.ops.getD x iw) ((iI t.ops xs p x).getD ((t.ops.getD x iw).a) ie) ((iI t.ops xs p x).getD ((t.ops.getD x iw).b) ie) p);exact jg (ae [tT 27 ((x:Int)<t.ops.length) aC,iX (x:Int) (t.ops.length) aC,.c (RZ ((t.ops.getD x iw).kind:Nat) aC aC),ai 50 ((2:Int)==0) aE,ai 56 ((2:Int)==1) aE,iX ((t.ops.getD x iw).a:Int) ((iI t.ops xs p x).length) aC,.a (aC:(t.ops.getD x iw).a<(iI t.ops xs p x).length),
       iX ((t.ops.getD x iw).b:Int) ((iI t.ops xs p x).length) aC,.a (aC:(t.ops.getD x iw).b<(iI t.ops xs p x).length),ag [iP ((t.ops.getD x iw).kind:Int),iP ((t.ops.getD x iw).n:Int),ia ((iI t.ops xs p x).getD (t.ops.getD x iw).a ie),ia ((iI t.ops xs p x).getD (t.ops.getD x iw).b ie),iP p] (Mp (t.ops.getD x iw) _ _ _ aD aD aC aC aC aC aC),.o 71 (.e (lZ _):aj (.sl true 1 7 λi_ j_=>(iG (lF (t.ops.getD x iw) ((iI t.ops xs p x).getD (t.ops.getD x iw).a ie) ((iI t.ops xs p x).getD (t.ops.getD x iw).b ie) p)).getD (i_*7+j_) (.v (.bool false))) (im [lF (t.ops.getD x iw) ((iI t.ops xs p x).getD (t.ops.getD x iw).a ie) ((iI t.ops xs p x).getD (t.ops.getD x iw).b ie) p])),.a (aC:((iI t.ops xs p x).length+[lF (t.ops.getD x iw) ((iI t.ops xs p x).getD (t.ops.getD x iw).a ie) ((iI t.ops xs p x).getD (t.ops.getD x iw).b ie) p].length)*88<=140737488355328),
       iu ((x:Int)+1) aC]<|.e (af [.b 22 (LV rfl rfl pY:Bx.le (.row true 46 ((iI t.ops xs p x).length+[lF (t.ops.getD x iw) ((iI t.ops xs p x).getD (t.ops.getD x iw).a ie) ((iI t.ops xs p x).getD (t.ops.getD x iw).b ie) p].length) 7 (λi_ j_=>if i_<(iI t.ops xs p x).length then(jQ (iI t.ops xs p x)) i_ j_ else(E.lW (im [lF (t.ops.getD x iw) ((iI t.ops xs p x).getD (t.ops.getD x iw).a ie) ((iI t.ops xs p x).getD (t.ops.getD x iw).b ie) p])) (i_-(iI t.ops xs p x).length) j_)) (.row true 46 ((iI t.ops xs p (x+1)).length) 7 (jQ (iI t.ops xs p (x+1)))))])) aF 
     .have C2:((t.ops.getD x iw)).kind≠1:=mK;have pI:¬((t.ops.getD x iw)).kind<=6:=hk;have pY:se (t.ops.getD x iw) (iI t.ops xs p x) p=(lF (t.ops.getD x iw) ((iI t.ops xs p x).getD ((t.ops.getD x iw).a) ie) ie p):=by unfold se Ii;rw[aY C2,bg pI];rfl
      have w2:=kS;have o2:=il.Hz C2;have o7:=il.Af;have o8:=RW il;have uI:=tN (lF (t.ops.getD x iw) ((iI t.ops xs p x).getD ((t.ops.getD x iw).a) ie) ie p);exact jg (ae [tT 27 ((x:Int)<t.ops.length) aC,iX (x:Int) (t.ops.length) aC,.c (KV ((t.ops.getD x iw).kind:Nat) aC aC),ai 50 ((1:Int)==0) aE,ah 56 ((1:Int)==1) aE,iX ((t.ops.getD x iw).a:Int) ((iI t.ops xs p x).length) aC,.a (aC:(t.ops.getD x iw).a<(iI t.ops xs p x).length),.o 66 (.e wj:aj (.agg [bP false,.v (.slice none 0 0),iP 0,bP false,.v (.slice none 0 0),iP 0,bP true]) (ia ie)),ag [iP ((t.ops.getD x iw).kind:Int),iP ((t.ops.getD x iw).n:Int),ia ((iI t.ops xs p x).getD (t.ops.getD x iw).a ie),ia ie,iP p] (Mp (t.ops.getD x iw) _ _ _ aD aD aC aC aC aC aC),.o 71 (.e (lZ _):aj (.sl true 1 7 λi_ j_=>(iG (lF (t.ops.getD x iw) ((iI t.ops xs p x).getD (t.ops.getD x iw).a ie) ie p)).getD (i_*7+j_) (.v (.bool false))) (im [lF (t.ops.getD x iw) ((iI t.ops xs p x).getD (t.ops.getD x iw).a ie) ie p])),.a (aC:((iI t.ops xs p x).length+[lF (t.ops.getD x iw) ((iI t.ops xs p x).getD (t.ops.getD x iw).a ie) ie p].length)*88<=140737488355328),iu ((x:Int)+1) aC]<|.e (af [.b 22 (LV rfl rfl pY:Bx.le (.row true 46 ((iI t.ops xs p x).length+[lF (t.ops.getD x iw) ((iI t.ops xs p x).getD (t.ops.getD x iw).a ie) ie p].length) 7 (λi_ j_=>if i_<(iI t.ops xs p x).length then(jQ (iI t.ops xs p x)) i_ j_ else(E.lW (im [lF (t.ops.getD x iw) ((iI t.ops xs p x).getD (t.ops.getD x iw).a ie) ie p])) (i_-(iI t.ops xs p x).length) j_)) (.row true 46 ((iI t.ops xs p (x+1)).length) 7 (jQ (iI t.ops xs p (x+1)))))])) aF)
  (λhx=>by
    exact jg (ae [tF 27 ((t.ops.length:Int)<t.ops.length) aC,.z 22]<|.e (af [.o 7 (.e (Dt aH):aj (.sl true ((iI t.ops xs p t.ops.length).length) 7 (jQ (iI t.ops xs p t.ops.length))) (im (iI t.ops xs p t.ops.length)))])) aF) aI:kU 5 f237 (Tz t xs p 0) (.exit 0) ⟨75,true,[(7,.e (im (iI t.ops xs p t.ops.length)))],[]⟩) (af [.b 22 (.iH rfl:Bx.le (.row true 46 xs.length 7 (jQ xs)) (.row true 46 ((iI t.ops xs p 0).length) 7 (jQ (iI t.ops xs p 0))))])]) 
def mS(m:List (List Iv)):Nat->List Iv
 | 0=>[]
 |k+1=>mS m k++m.getD k []
def It(m:List (List Iv))(k:Nat):(mS m (k+1)).length=(mS m k).length+(m.getD k []).length:=by simp[mS]
def aa1{T n n':Nat}{xs r:List Iv}(hn:n=xs.length)(uF:n'=(xs++r).length):Bx.le (.row true T (n+r.length) 7 λi j=>if i<n then jQ xs i j else(E.lW (im r)) (i-n) j) (.row true T n' 7 (jQ (xs++r))):=by
 subst hn uF;refine .row aH λi j hi hj=>⟨.iH ?_,Dr _ _ hj⟩
 by_cases h:i<xs.length
 .rw [aZ h];show(iG (xs.getD i ie)).getD j .any=(iG ((xs++r).getD i ie)).getD j .any;congr 2;simp[bc,dm h]
 .rw [aY h];show(iG (r.getD (i-xs.length) ie)).getD j .any=(iG ((xs++r).getD i ie)).getD j .any;congr 2;simp[bc,fv (aC:xs.length<=i)]
def Ku(a b:List Iv):E.le (.sl true 2 1 λi j=>[im a,im b].getD (i*1+j) (.v (.bool false))) (mP [a,b]):=.sl λi j hi hj=>by
 obtain rfl:j=0:= aC ;obtain rfl|rfl:i=0\/i=1:= aC 
 all_goals exact⟨.refl _,rfl⟩
def M4(m:List (List Iv))(x:Nat):PS:=⟨36,true,[(11,.e (iP x)),(10,.e (iP m.length)),(9,.e (mP m)),(3,.e (iP ((mS m x).length:Int))),(0,.e (mP m))],[]⟩
def M5(m:List (List Iv))(x:Nat):PS:=⟨36,true,[(27,.e (iP x)),(26,.e (iP m.length)),(25,.e (mP m)),(6,.own 24)],[(24,.row true 46 ((mS m x).length) 7 (jQ (mS m x)))]⟩
def WD(m:List (List Iv))(hl:m.length<=1000)(hb:∀ k,k<=m.length->(mS m k).length<=1000):gU 162 [mP m] (im (mS m m.length)):=by
 have Ph:=hb m.length (bd _);exact ak call162 func162 (af [.s (Sp.kY (M4 m) 0 m.length aC (λx hx mZ=>by
    have jW:=hb (x+1) aC;rw[It]at jW;exact jg (ae [tT 12 ((x:Int)<m.length) aC,iX (x:Int) (m.length) aC,iu (((mS m x).length:Int)+((m.getD x []).length:Int)) aC,tF 20 ((((mS m x).length+(m.getD x []).length:Nat):Int)<0) aC,iu ((x:Int)+1) aC]<|.e (af [.o 3 (aq (((mS m x).length+(m.getD x []).length:Nat):Int) ((mS m (x+1)).length:Int) (by rw[It]))])) aF)
  (λhx=>by
    exact jg (af [tF 12 ((m.length:Int)<m.length) aC]) aF) aI:kU 3 f162 (M4 m 0) (.exit 0) ⟨36,true,[(3,.e (iP ((mS m m.length).length:Int))),(0,.e (mP m))],[]⟩) (af [.o 3 (aq 0 ((mS m 0).length:Int) rfl)]),.cn (Zu _ aC:EF 239 [.v (.slice none 0 0),iP ((mS m m.length).length:Int)] true 46 0 7 (jQ [])),.s (Sp.kY (M5 m) 0 m.length aC (λx hx mZ=>by
    have jW:=hb (x+1) aC;rw[It]at jW;exact jg (ae [tT 28 ((x:Int)<m.length) aC,iX (x:Int) (m.length) aC,.a (aC:((mS m x).length+(m.getD x []).length)*88<=140737488355328),iu ((x:Int)+1) aC]<|.e (af [.b 24 (aa1 rfl rfl:Bx.le (.row true 46 ((mS m x).length+(m.getD x []).length) 7 (λi_ j_=>if i_<(mS m x).length then(jQ (mS m x)) i_ j_ else(E.lW (im (m.getD x []))) (i_-(mS m x).length) j_)) (.row true 46 ((mS m (x+1)).length) 7 (jQ (mS m (x+1)))))])) aF)
  (λhx=>by
    exact jg (ae [tF 28 ((m.length:Int)<m.length) aC,.z 24]<|.e (af [.o 6 (.e (Dt aH):aj (.sl true ((mS m m.length).length) 7 (jQ (mS m m.length))) (im (mS m m.length)))])) aF) aI:kU 11 f162 (M5 m 0) (.exit 2) ⟨36,true,[(6,.e (im (mS m m.length)))],[]⟩) (af [.b 24 (.iH rfl:Bx.le (.row true 46 0 7 (jQ [])) (.row true 46 ((mS m 0).length) 7 (jQ (mS m 0))))])]) 
def Iy(a b:List Iv)(ha:a.length<=400)(hb:b.length<=400):gU 162 [mP [a,b]] (im (a++b)):=by
 have e1:mS [a,b] 1=a:=rfl;have e2:mS [a,b] 2=a++b:=rfl;have:=WD [a,b] aH λk hk=>by
  have hk:k<=2:=hk;rcases k with _|_|_|k
  .exact bO _
  .rw [e1];omega
  .rw [e2,bX];omega
  .omega
 rwa[show[a,b].length=2 from rfl,e2]at this
def Fv(p:Int):gU 160 [iP p] (bP (lJ p)):=
 ak call160 func160 (.w (8<=p)
  (λk1=>ae [tB 4 (bh k1)]<|rQ (bP (decide (p<=512))) (bP (lJ p)) (by unfold lJ;simp[k1]))
  (λk1=>ae [tB 4 (bg k1)]<|rQ (bP false) (bP (lJ p)) (by unfold lJ;simp[k1]))) 
def YO(x:Iv)(hx:x.gX):gU 286 [ia x] (bP false):=
 ak call286 func286 (af [.c (qR x aD)]) 
def YP(t:jI)(xs:List Iv)(p:Nat)(h:wC t)(h1:1<=xs.length)(hx:xs.length=t.iq)(hv:oV xs)(ig:8<=p)(gY:p<=512):gU 236 [kn t,im xs,iP p] (bP true):=by
 have h8:=h.iq;exact ak call236 func236 (af [.c (TB t aD),ah 14 ((xs.length:Int)==t.iq) (Rm hx),.c (Fv (p:Int)),ah 18 (lJ (p:Int)) (qp.2 ⟨aC,aC⟩),.c (BG true _ _ 286 [] (λ_=>false) (λi hi=>YO _ (hv i)) aC (λ_ _=>rfl):gU 40 [im xs,.fn 286 []] _)]) 
def YB(t:jI)(xs:List Iv)(p:Nat):(List.range t.iC.length).map (λj=>(iI t.ops xs p t.ops.length).getD (t.iC.getD j 0) ie)=pk t xs p:=by
 unfold pk;apply fQ;intro i;rw[cD,cD];by_cases hi:i<t.iC.length
 .rw [bt (by simpa using hi),bt hi];simp[bc,hi]
 .rw [ct (by simpa using hi),ct aC];rfl
def YK(x:Iv):gU 235 [ia x] (bP x.all):=
 ak call235 func235 (.nil) 
def xT(l:List Iv)(hl:l.length<=1000):gU 158 [im l] (bP (pS l)):=
 ak call158 func158 (af [.c (Ga true _ _ 235 [] (λi=>(l.getD i ie).all) (λi hi=>YK _) aC:gU 40 [im l,.fn 235 []] _)]) 
def Jb(x:Iv)(hx:x.gX):gU 159 [ia x] (bP false):=
 ak call159 func159 (af [.c (qR x aD)]) 
def KF{l:List Iv}(h:uf l):pS l=false:=by
 unfold pS;rw[dp];intro i hi;rw[(h i (cz.1 hi)).2];decide
def EX{s:lY}{b:List Iv}(h:mR s)(hb:nJ s.jy b):wC s.tape/\1<=(b++s.params).length/\(b++s.params).length=s.tape.iq/\oV (b++s.params):=by
 have h1:=h.s1;have h2:=h.iq;have h3:=hb.len;refine⟨h.tape,?_,?_,hb.ok.TY.append h.params.TY⟩
 .rw [bX];omega
 .rw [bX];omega
def OB(t:jI)(l:List Iv)(i p:Nat)(x:Nat):PS:=⟨95,true,[(10,.own 10),(20,.e (iP x)),(19,.e (iP t.iq)),(9,.e (.mp AE)),(4,.box 4 0),(1,.e (im l)),(2,.e (iP i)),(3,.e (iP p))],[(10,.row true 46 ((mj t.iq i x).length) 7 (jQ (mj t.iq i x))),(4,.cells 25 [iP t.iq,kB t.ops,kJ t.iC])]⟩
noncomputable def OC(t:jI)(l:List Iv)(i p:Nat)(x:Nat):PS:=⟨95,true,[(36,.e (iP x)),(35,.e (iP t.ops.length)),(34,.e (kB t.ops)),(10,.own 10),(9,.e (.mp AE)),(4,.box 4 0),(1,.e (im l)),(3,.e (iP p))],[(10,.row true 46 ((jd t l i p x).length) 7 (jQ (jd t l i p x))),(4,.cells 25 [iP t.iq,kB t.ops,kJ t.iC])]⟩
def CO(n:Int)(h:n.natAbs<4294967296):gU 291 [iP n] (ia (iF n)):=by
 have hv:=ql h;exact ak call291 func291 (af [ag [iP n] (pF _ aC),.c (Ae (iK n) aD)]) 
def acq(o:iM)(v a b da db:Iv)(p:Nat):List E:=xo o++iG v++iG a++iG b++iG da++iG db++[iP (p:Int)]
def KG(o:iM)(v:Iv)(p:Nat):E:=.agg (xo o++iG v++au++au++au++au++[iP (p:Int)])
def rT(o:iM)(v a b da db:Iv)(p:Nat):E:=.agg (acq o v a b da db p)
def aew(o:iM)(v:Iv)(p:Nat):gU 332 [KG o v p] (ia (iF 0)):=
 ak call332 func332 (af [.c (CO 0 aC)]) 
def aex(o:iM)(v a b da db:Iv)(p:Nat)(hv:v.gX)(ha:a.gX)(hb:b.gX)(hd:da.gX)(he:db.gX)(ig:8<=p)(gY:p<=512):gU 333 [rT o v a b da db p,(.jG 1 λ_=>.fn 78 [])] (ia (jN da db p)):=by
 have q1:1<=p:= aC ;have q2:p<=4096:= aC ;exact ak call333 func333 (af [.c (BE da db p aD aD aC aC)]) 
def aey(o:iM)(v a b da db:Iv)(p:Nat)(hv:v.gX)(ha:a.gX)(hb:b.gX)(hd:da.gX)(he:db.gX)(ig:8<=p)(gY:p<=512):gU 334 [rT o v a b da db p,(.jG 1 λ_=>.fn 203 [])] (ia (yW da db p)):=by
 have q1:1<=p:= aC ;have q2:p<=4096:= aC ;exact ak call334 func334 (af [.c (Kg da db p aD aD aC aC)]) 
def aeB(o:iM)(v a b da db:Iv)(p:Nat)(hv:v.gX)(ha:a.gX)(hb:b.gX)(hd:da.gX)(he:db.gX)(ig:8<=p)(gY:p<=512):gU 335 [rT o v a b da db p] (ia (qn da)):=by
 have q1:1<=p:= aC ;have q2:p<=4096:= aC ;exact ak call335 func335 (af [.c (F9 da aD)]) 
def aez(o:iM)(v a b da db:Iv)(p:Nat)(hv:v.gX)(ha:a.gX)(hb:b.gX)(hd:da.gX)(he:db.gX)(ig:8<=p)(gY:p<=512):gU 336 [rT o v a b da db p,(.jG 1 λ_=>.fn 78 []),(.jG 1 λ_=>.fn 115 [])] (ia (jN (jm da b p) (jm a db p) p)):=by
 have q1:1<=p:= aC ;have q2:p<=4096:= aC ;exact ak call336 func336 (af [.c (uP da b p aD aD aC aC),.c (uP a db p aD aD aC aC),.c (BE (jm da b p) (jm a db p) p (nT _ _ q1 q2) (nT _ _ q1 q2) aC aC)]) 
def aeA(o:iM)(v a b da db:Iv)(p:Nat)(hv:v.gX)(ha:a.gX)(hb:b.gX)(hd:da.gX)(he:db.gX)(ig:8<=p)(gY:p<=512):gU 337 [rT o v a b da db p,(.jG 1 λ_=>.fn 128 []),(.jG 1 λ_=>.fn 203 []),(.jG 1 λ_=>.fn 115 [])] (ia (jT (yW da (jm v db p) p) b p)):=by
 have q1:1<=p:= aC ;have q2:p<=4096:= aC ;exact ak call337 func337 (af [.c (uP v db p aD aD aC aC),.c (Kg da (jm v db p) p aD (nT _ _ q1 q2) aC aC),.c (Dq (yW da (jm v db p) p) b p (oW hd (yH (nT _ _ q1 q2)) q1 q2) aD aC aC)]) 
def aeC(o:iM)(v a b da db:Iv)(p:Nat)(hv:v.gX)(ha:a.gX)(hb:b.gX)(hd:da.gX)(he:db.gX)(ig:8<=p)(gY:p<=512)(h0:o.n=0):gU 338 [rT o v a b da db p,(.jG 1 λ_=>.fn 115 [])] (ia (jm (iF 0) da p)):=by
 have q1:1<=p:= aC ;have q2:p<=4096:= aC ;have yi:=KJ;exact ak call338 func338 (af [ah 7 ((o.n:Int)==0) (rP h0),.c (CO 0 aC),.c (uP (iF 0) da p yi aD aC aC)]) 
def aeD(o:iM)(v a b da db:Iv)(p:Nat)(hv:v.gX)(ha:a.gX)(hb:b.gX)(hd:da.gX)(he:db.gX)(ig:8<=p)(gY:p<=512)(h0:o.n≠0)(hn:o.n<=16):gU 338 [rT o v a b da db p,(.jG 1 λ_=>.fn 115 [])] (ia (jm (jm (iF (o.n:Int)) (oN a (o.n-1) p) p) da p)):=by
 have q1:1<=p:= aC ;have q2:p<=4096:= aC ;have yi:=KI (aC:o.n<4294967296);have hpw:=Sa ha (o.n-1) q1 q2;exact ak call338 func338 (af [ai 7 ((o.n:Int)==0) (nk h0),.c (CO (o.n:Int) aC),iu ((o.n:Int)-1) aC,.o 26 (aq ((o.n:Int)-1) ((o.n-1:Nat):Int) aC),ag [ia a,iP ((o.n-1:Nat):Int),iP p] (MC _ _ _ aD aC aC aC),.c (uP (iF (o.n:Int)) (oN a (o.n-1) p) p yi hpw aC aC),.c (uP (jm (iF (o.n:Int)) (oN a (o.n-1) p) p) da p (nT _ _ q1 q2) aD aC aC)]) 
def aeE(o:iM)(v a b da db:Iv)(p:Nat)(hv:v.gX)(ha:a.gX)(hb:b.gX)(hd:da.gX)(he:db.gX)(ig:8<=p)(gY:p<=512):gU 339 [rT o v a b da db p,(.jG 1 λ_=>.fn 115 [])] (ia (jm v da p)):=by
 have q1:1<=p:= aC ;have q2:p<=4096:= aC ;exact ak call339 func339 (af [.c (uP v da p aD aD aC aC)]) 
def aes(o:iM)(v a b da db:Iv)(p:Nat)(hv:v.gX)(ha:a.gX)(hb:b.gX)(hd:da.gX)(he:db.gX)(ig:8<=p)(gY:p<=512):gU 340 [rT o v a b da db p,(.jG 1 λ_=>.fn 128 [])] (ia (jT da a p)):=by
 have q1:1<=p:= aC ;have q2:p<=4096:= aC ;exact ak call340 func340 (af [.c (Dq da a p aD aD aC aC)]) 
def aet(o:iM)(v a b da db:Iv)(p:Nat)(hv:v.gX)(ha:a.gX)(hb:b.gX)(hd:da.gX)(he:db.gX)(ig:8<=p)(gY:p<=512):gU 341 [rT o v a b da db p,(.jG 1 λ_=>.fn 115 [])] (ia (jm (wN a p) da p)):=by
 have q1:1<=p:= aC ;have q2:p<=4096:= aC ;exact ak call341 func341 (af [ag [ia a,iP p] (Og _ aD _ aC aC),.c (uP (wN a p) da p (Oh _ _) aD aC aC)]) 
def aeu(o:iM)(v a b da db:Iv)(p:Nat)(hv:v.gX)(ha:a.gX)(hb:b.gX)(hd:da.gX)(he:db.gX)(ig:8<=p)(gY:p<=512):gU 342 [rT o v a b da db p,(.jG 1 λ_=>.fn 115 [])] (ia (qn (jm (vw a p) da p))):=by
 have q1:1<=p:= aC ;have q2:p<=4096:= aC ;exact ak call342 func342 (af [ag [ia a,iP p] (Oi _ aD _ aC aC),.c (uP (vw a p) da p (Oj _ _) aD aC aC),.c (F9 (jm (vw a p) da p) (nT _ _ q1 q2))]) 
def aev(o:iM)(v a b da db:Iv)(p:Nat)(hv:v.gX)(ha:a.gX)(hb:b.gX)(hd:da.gX)(he:db.gX)(ig:8<=p)(gY:p<=512):gU 343 [rT o v a b da db p,(.jG 1 λ_=>.fn 128 [])] (ia (jT da (lr v 1) p)):=by
 have q1:1<=p:= aC ;have q2:p<=4096:= aC ;exact ak call343 func343 (af [.c (EP v aD 1 aC aC),.c (Dq da (lr v 1) p aD (Ec hv _) aC aC)]) 
def AD(k:Nat):FuncId:=if k=1 then 332 else if k=3 then 333 else if k=4 then 334 else if k=7 then 335 else if k=5 then 336 else if k=6 then 337 else if k=8 then 338 else if k=9 then 339 else if k=10 then 340 else if k=11 then 341 else if k=12 then 342 else if k=13 then 343 else 0
def AB(k:Nat):List E:=if k=1 then[]else if k=3 then[.jG 1 λ_=>.fn 78 []]else if k=4 then[.jG 1 λ_=>.fn 203 []]else if k=7 then[]else if k=5 then[.jG 1 λ_=>.fn 78 [],.jG 1 λ_=>.fn 115 []]else if k=6 then[.jG 1 λ_=>.fn 128 [],.jG 1 λ_=>.fn 203 [],.jG 1 λ_=>.fn 115 []]else if k=8 then[.jG 1 λ_=>.fn 115 []]else if k=9 then[.jG 1 λ_=>.fn 115 []]else if k=10 then[.jG 1 λ_=>.fn 128 []]else if k=11 then[.jG 1 λ_=>.fn 115 []]else if k=12 then[.jG 1 λ_=>.fn 115 []]else if k=13 then[.jG 1 λ_=>.fn 128 []]else[]
def SJ{k:Nat}(h:k=1\/3<=k)(h2:k<=13):vW AE (k:Int)=some (.fn (AD k) (AB k)):=by
 have:k=1\/k=3\/k=4\/k=5\/k=6\/k=7\/k=8\/k=9\/k=10\/k=11\/k=12\/k=13:= aC ;rcases this with h|h|h|h|h|h|h|h|h|h|h|h<;>subst h<;>rfl
def aeF(k:Nat)(hk:k=1)(o:iM)(v:Iv)(p:Nat):gU (AD k) (KG o v p::AB k) (ia (iF 0)):=by
 subst hk;exact aew o v p
def aeG(o:iM)(v a b da db:Iv)(p:Nat)(hv:v.gX)(ha:a.gX)(hb:b.gX)(hd:da.gX)(he:db.gX)(ig:8<=p)(gY:p<=512)(hn:o.n<=16)(h1:3<=o.kind)(h2:o.kind<=13):gU (AD o.kind) (rT o v a b da db p::AB o.kind) (ia (oh o v a b da db p)):=by
 have:o.kind=3\/o.kind=4\/o.kind=5\/o.kind=6\/o.kind=7\/o.kind=8\/o.kind=9\/o.kind=10\/o.kind=11\/o.kind=12\/o.kind=13:= aC ;rcases this with h|h|h|h|h|h|h|h|h|h|h
 .rw [h];unfold oh;rw[aY aC,aZ h];exact aex o v a b da db p hv ha hb hd he ig gY
 .rw [h];unfold oh;rw[aY aC,aY aC,aZ h];exact aey o v a b da db p hv ha hb hd he ig gY
 .rw [h];unfold oh;rw[aY aC,aY aC,aY aC,aZ h];exact aez o v a b da db p hv ha hb hd he ig gY
 .rw [h];unfold oh;rw[aY aC,aY aC,aY aC,aY aC,aZ h];exact aeA o v a b da db p hv ha hb hd he ig gY
 .rw [h];unfold oh;rw[aY aC,aY aC,aY aC,aY aC,aY aC,aZ h];exact aeB o v a b da db p hv ha hb hd he ig gY
 .rw [h];unfold oh;rw[aY aC,aY aC,aY aC,aY aC,aY aC,aY aC,aZ h];by_cases h0:o.n=0
  .rw [aZ h0];exact aeC o v a b da db p hv ha hb hd he ig gY h0
  .rw [aY h0];exact aeD o v a b da db p hv ha hb hd he ig gY h0 hn
 .rw [h];unfold oh;rw[aY aC,aY aC,aY aC,aY aC,aY aC,aY aC,aY aC,aZ h];exact aeE o v a b da db p hv ha hb hd he ig gY
 .rw [h];unfold oh;rw[aY aC,aY aC,aY aC,aY aC,aY aC,aY aC,aY aC,aY aC,aZ h];exact aes o v a b da db p hv ha hb hd he ig gY
 .rw [h];unfold oh;rw[aY aC,aY aC,aY aC,aY aC,aY aC,aY aC,aY aC,aY aC,aY aC,aZ h];exact aet o v a b da db p hv ha hb hd he ig gY
 .rw [h];unfold oh;rw[aY aC,aY aC,aY aC,aY aC,aY aC,aY aC,aY aC,aY aC,aY aC,aY aC,aZ h];exact aeu o v a b da db p hv ha hb hd he ig gY
 .rw [h];unfold oh;rw[aY aC,aY aC,aY aC,aY aC,aY aC,aY aC,aY aC,aY aC,aY aC,aY aC,aY aC,aZ h];exact aev o v a b da db p hv ha hb hd he ig gY
def RV{o:iM}{m:Nat}(h:ng o m)(hm:1<=m):o.b<m:=by
 have:=h.b;split at this<;>omega
def TV{T n n' m i x:Nat}{y:Iv}(hn:n=(mj m i x).length)(uF:n'=(mj m i (x+1)).length)(hy:(if x=i then iF 1 else iF 0)=y):
 Bx.le (.row true T (n+[y].length) 7 λi_ j=>if i_<n then jQ (mj m i x) i_ j else(E.lW (im [y])) (i_-n) j) (.row true T n' 7 (jQ (mj m i (x+1)))):=by
 subst uF hy;exact Kh hn
def E6{T n n' i x p:Nat}{t:jI}{l:List Iv}{y:Iv}(hn:n=(jd t l i p x).length)(uF:n'=(jd t l i p (x+1)).length)(hy:pP (t.ops.getD x iw) (l.getD (t.iq+x) ie) l (jd t l i p x) p=y):
 Bx.le (.row true T (n+[y].length) 7 λi_ j=>if i_<n then jQ (jd t l i p x) i_ j else(E.lW (im [y])) (i_-n) j) (.row true T n' 7 (jQ (jd t l i p (x+1)))):=by
 subst uF hy;exact Kh hn
def WC(t:jI)(l:List Iv)(i p:Nat)(h:wC t)(h1:1<=t.iq)(hl:l.length=t.iq+t.ops.length)(hv:oV l)(ig:8<=p)(gY:p<=512):gU 238 [kn t,im l,iP i,iP p] (im (jd t l i p t.ops.length)):=by
 have h8:=h.iq;have Bu:=h.ops;exact ak call238 func238 (af [ag [] aeH,.y 10 10 true 46 7 (jQ (mj t.iq i 0)),.s (Sp.kY (OB t l i p) 0 t.iq aC (λx hx mZ=>by
    have JL:=Em t.iq i x;exact jg (ae [tT 21 ((x:Int)<t.iq) aC,.c (CO 0 aC)]<|.w (x=i)
     (λsD=>by
      have pY:(if x=i then iF 1 else iF 0)=iF 1:=by rw[aZ sD]
      have uI:=tN (iF 1);exact ae [ah 26 ((x:Int)==i) (aU aC),.c (CO 1 aC),.o 30 (.e (lZ _):aj (.sl true 1 7 λi_ j_=>(iG (iF 1)).getD (i_*7+j_) (.v (.bool false))) (im [iF 1])),.a (aC:((mj t.iq i x).length+[iF 1].length)*88<=140737488355328),
       iu ((x:Int)+1) aC]<|.e (af [.b 10 (TV rfl rfl pY:Bx.le (.row true 46 ((mj t.iq i x).length+[iF 1].length) 7 (λi_ j_=>if i_<(mj t.iq i x).length then(jQ (mj t.iq i x)) i_ j_ else(E.lW (im [iF 1])) (i_-(mj t.iq i x).length) j_)) (.row true 46 ((mj t.iq i (x+1)).length) 7 (jQ (mj t.iq i (x+1)))))]))
     (λsD=>by
      have pY:(if x=i then iF 1 else iF 0)=iF 0:=by rw[aY sD]
      have uI:=tN (iF 0);exact ae [ai 26 ((x:Int)==i) (aT aC),.o 30 (.e (lZ _):aj (.sl true 1 7 λi_ j_=>(iG (iF 0)).getD (i_*7+j_) (.v (.bool false))) (im [iF 0])),.a (aC:((mj t.iq i x).length+[iF 0].length)*88<=140737488355328),iu ((x:Int)+1) aC]<|.e (af [.b 10 (TV rfl rfl pY:Bx.le (.row true 46 ((mj t.iq i x).length+[iF 0].length) 7 (λi_ j_=>if i_<(mj t.iq i x).length then(jQ (mj t.iq i x)) i_ j_ else(E.lW (im [iF 0])) (i_-(mj t.iq i x).length) j_)) (.row true 46 ((mj t.iq i (x+1)).length) 7 (jQ (mj t.iq i (x+1)))))]))) aF)
  (λhx=>by
    exact jg (af [tF 21 ((t.iq:Int)<t.iq) aC]) aF) aI:kU 4 f238 (OB t l i p 0) (.exit 0) ⟨95,true,[(10,.own 10),(9,.e (.mp AE)),(4,.box 4 0),(1,.e (im l)),(3,.e (iP p))],[(10,.row true 46 ((mj t.iq i t.iq).length) 7 (jQ (mj t.iq i t.iq))),(4,.cells 25 [iP t.iq,kB t.ops,kJ t.iC])]⟩) (af [.b 10 (.iH rfl:Bx.le (.row true 46 0 7 (jQ (mj t.iq i 0))) (.row true 46 ((mj t.iq i 0).length) 7 (jQ (mj t.iq i 0))))]),.s (Sp.kY (OC t l i p) 0 t.ops.length aC (λx hx mZ=>by
    have il:=h.op x aC;have JL:=Cv t l i p x;have Pq:=E7 t hv i (aC:1<=p) (aC:p<=4096) x;have PG:=il.k3;by_cases mK:(t.ops.getD x iw).kind=1
    .by_cases Di:(l.getD (t.iq+x) ie).all=true
     .have uO:=Di;have pY:pP (t.ops.getD x iw) (l.getD (t.iq+x) ie) l (jd t l i p x) p=ie:=by unfold pP;rw[aZ uO]
      have uI:=tN ie;exact jg (ae [tT 37 ((x:Int)<t.ops.length) aC,iX (x:Int) (t.ops.length) aC,iu ((t.iq:Int)+x) aC,iX ((t.iq+x:Nat):Int) (l.length) aC,ai 53 (((t.ops.getD x iw).kind:Int) != 1) (aW aC),.o 78 (.e wj:aj (.agg [bP false,.v (.slice none 0 0),iP 0,bP false,.v (.slice none 0 0),iP 0,bP true]) (ia ie)),ah 81 ((l.getD (t.iq+x) ie).all) uO,.o 91 (.e (lZ _):aj (.sl true 1 7 λi_ j_=>(iG ie).getD (i_*7+j_) (.v (.bool false))) (im [ie])),.a (aC:((jd t l i p x).length+[ie].length)*88<=140737488355328),
       iu ((x:Int)+1) aC]<|.e (af [.b 10 (E6 rfl rfl pY:Bx.le (.row true 46 ((jd t l i p x).length+[ie].length) 7 (λi_ j_=>if i_<(jd t l i p x).length then(jQ (jd t l i p x)) i_ j_ else(E.lW (im [ie])) (i_-(jd t l i p x).length) j_)) (.row true 46 ((jd t l i p (x+1)).length) 7 (jQ (jd t l i p (x+1)))))])) aF 
     .have uO:(l.getD (t.iq+x) ie).all=false:=aV Di;have pY:pP (t.ops.getD x iw) (l.getD (t.iq+x) ie) l (jd t l i p x) p=iF 0:=by unfold pP;rw[aY (by rw[uO];decide)];unfold oh;rw[aZ mK]
      have uI:=tN (iF 0);exact jg (ae [tT 37 ((x:Int)<t.ops.length) aC,iX (x:Int) (t.ops.length) aC,iu ((t.iq:Int)+x) aC,iX ((t.iq+x:Nat):Int) (l.length) aC,ai 53 (((t.ops.getD x iw).kind:Int) != 1) (aW aC),.o 78 (.e wj:aj (.agg [bP false,.v (.slice none 0 0),iP 0,bP false,.v (.slice none 0 0),iP 0,bP true]) (ia ie)),ai 81 ((l.getD (t.iq+x) ie).all) uO,.m (SJ PG il.Af:vW AE ((t.ops.getD x iw).kind:Int)=some (.fn (AD (t.ops.getD x iw).kind) (AB (t.ops.getD x iw).kind))),.c (aeF _ mK _ _ _:gU (AD (t.ops.getD x iw).kind) ((KG (t.ops.getD x iw) (l.getD (t.iq+x) ie) p)::(AB (t.ops.getD x iw).kind)) _),.o 91 (.e (lZ _):aj (.sl true 1 7 λi_ j_=>(iG (iF 0)).getD (i_*7+j_) (.v (.bool false))) (im [iF 0])),.a (aC:((jd t l i p x).length+[iF 0].length)*88<=140737488355328),
       iu ((x:Int)+1) aC]<|.e (af [.b 10 (E6 rfl rfl pY:Bx.le (.row true 46 ((jd t l i p x).length+[iF 0].length) 7 (λi_ j_=>if i_<(jd t l i p x).length then(jQ (jd t l i p x)) i_ j_ else(E.lW (im [iF 0])) (i_-(jd t l i p x).length) j_)) (.row true 46 ((jd t l i p (x+1)).length) 7 (jQ (jd t l i p (x+1)))))])) aF 
    .by_cases Di:(l.getD (t.iq+x) ie).all=true
     .have uO:=Di;have h3:=il.k3.resolve_left mK;have oa:=il.Hz mK;have ob:=RV il aC;have pY:pP (t.ops.getD x iw) (l.getD (t.iq+x) ie) l (jd t l i p x) p=ie:=by unfold pP;rw[aZ uO]
      have uI:=tN ie;exact jg (ae [tT 37 ((x:Int)<t.ops.length) aC,iX (x:Int) (t.ops.length) aC,iu ((t.iq:Int)+x) aC,iX ((t.iq+x:Nat):Int) (l.length) aC,ah 53 (((t.ops.getD x iw).kind:Int) != 1) (aX aC),iX ((t.ops.getD x iw).a:Int) (l.length) aC,iX ((t.ops.getD x iw).b:Int) (l.length) aC,
       iX ((t.ops.getD x iw).a:Int) ((jd t l i p x).length) aC,.a (aC:(t.ops.getD x iw).a<(jd t l i p x).length),iX ((t.ops.getD x iw).b:Int) ((jd t l i p x).length) aC,.a (aC:(t.ops.getD x iw).b<(jd t l i p x).length),.o 78 (.e wj:aj (.agg [bP false,.v (.slice none 0 0),iP 0,bP false,.v (.slice none 0 0),iP 0,bP true]) (ia ie)),ah 81 ((l.getD (t.iq+x) ie).all) uO,.o 91 (.e (lZ _):aj (.sl true 1 7 λi_ j_=>(iG ie).getD (i_*7+j_) (.v (.bool false))) (im [ie])),.a (aC:((jd t l i p x).length+[ie].length)*88<=140737488355328),iu ((x:Int)+1) aC]<|.e (af [.b 10 (E6 rfl rfl pY:Bx.le (.row true 46 ((jd t l i p x).length+[ie].length) 7 (λi_ j_=>if i_<(jd t l i p x).length then(jQ (jd t l i p x)) i_ j_ else(E.lW (im [ie])) (i_-(jd t l i p x).length) j_)) (.row true 46 ((jd t l i p (x+1)).length) 7 (jQ (jd t l i p (x+1)))))])) aF 
     .have uO:(l.getD (t.iq+x) ie).all=false:=aV Di;have h3:=il.k3.resolve_left mK;have oa:=il.Hz mK;have ob:=RV il aC;have pY:pP (t.ops.getD x iw) (l.getD (t.iq+x) ie) l (jd t l i p x) p=oh (t.ops.getD x iw) (l.getD (t.iq+x) ie) (l.getD ((t.ops.getD x iw).a) ie) (l.getD ((t.ops.getD x iw).b) ie) ((jd t l i p x).getD ((t.ops.getD x iw).a) ie) ((jd t l i p x).getD ((t.ops.getD x iw).b) ie) p:=by unfold pP;rw[aY (by rw[uO];decide)]
      have uI:=tN (oh (t.ops.getD x iw) (l.getD (t.iq+x) ie) (l.getD ((t.ops.getD x iw).a) ie) (l.getD ((t.ops.getD x iw).b) ie) ((jd t l i p x).getD ((t.ops.getD x iw).a) ie) ((jd t l i p x).getD ((t.ops.getD x iw).b) ie) p);exact jg (ae [tT 37 ((x:Int)<t.ops.length) aC,iX (x:Int) (t.ops.length) aC,iu ((t.iq:Int)+x) aC,iX ((t.iq+x:Nat):Int) (l.length) aC,ah 53 (((t.ops.getD x iw).kind:Int) != 1) (aX aC),iX ((t.ops.getD x iw).a:Int) (l.length) aC,iX ((t.ops.getD x iw).b:Int) (l.length) aC,
       iX ((t.ops.getD x iw).a:Int) ((jd t l i p x).length) aC,.a (aC:(t.ops.getD x iw).a<(jd t l i p x).length),iX ((t.ops.getD x iw).b:Int) ((jd t l i p x).length) aC,.a (aC:(t.ops.getD x iw).b<(jd t l i p x).length),.o 78 (.e wj:aj (.agg [bP false,.v (.slice none 0 0),iP 0,bP false,.v (.slice none 0 0),iP 0,bP true]) (ia ie)),ai 81 ((l.getD (t.iq+x) ie).all) uO,.m (SJ PG il.Af:vW AE ((t.ops.getD x iw).kind:Int)=some (.fn (AD (t.ops.getD x iw).kind) (AB (t.ops.getD x iw).kind))),.c (aeG _ _ _ _ _ _ _ (hv _) (hv _) (hv _) (Pq _) (Pq _) ig gY (RW il) h3 il.Af:gU (AD (t.ops.getD x iw).kind) ((rT (t.ops.getD x iw) (l.getD (t.iq+x) ie) (l.getD (t.ops.getD x iw).a ie) (l.getD (t.ops.getD x iw).b ie) ((jd t l i p x).getD (t.ops.getD x iw).a ie) ((jd t l i p x).getD (t.ops.getD x iw).b ie) p)::(AB (t.ops.getD x iw).kind)) _),.o 91 (.e (lZ _):aj (.sl true 1 7 λi_ j_=>(iG (oh (t.ops.getD x iw) (l.getD (t.iq+x) ie) (l.getD ((t.ops.getD x iw).a) ie) (l.getD ((t.ops.getD x iw).b) ie) ((jd t l i p x).getD ((t.ops.getD x iw).a) ie) ((jd t l i p x).getD ((t.ops.getD x iw).b) ie) p)).getD (i_*7+j_) (.v (.bool false))) (im [oh (t.ops.getD x iw) (l.getD (t.iq+x) ie) (l.getD ((t.ops.getD x iw).a) ie) (l.getD ((t.ops.getD x iw).b) ie) ((jd t l i p x).getD ((t.ops.getD x iw).a) ie) ((jd t l i p x).getD ((t.ops.getD x iw).b) ie) p])),.a (aC:((jd t l i p x).length+[oh (t.ops.getD x iw) (l.getD (t.iq+x) ie) (l.getD ((t.ops.getD x iw).a) ie) (l.getD ((t.ops.getD x iw).b) ie) ((jd t l i p x).getD ((t.ops.getD x iw).a) ie) ((jd t l i p x).getD ((t.ops.getD x iw).b) ie) p].length)*88<=140737488355328),
       iu ((x:Int)+1) aC]<|.e (af [.b 10 (E6 rfl rfl pY:Bx.le (.row true 46 ((jd t l i p x).length+[oh (t.ops.getD x iw) (l.getD (t.iq+x) ie) (l.getD ((t.ops.getD x iw).a) ie) (l.getD ((t.ops.getD x iw).b) ie) ((jd t l i p x).getD ((t.ops.getD x iw).a) ie) ((jd t l i p x).getD ((t.ops.getD x iw).b) ie) p].length) 7 (λi_ j_=>if i_<(jd t l i p x).length then(jQ (jd t l i p x)) i_ j_ else(E.lW (im [oh (t.ops.getD x iw) (l.getD (t.iq+x) ie) (l.getD ((t.ops.getD x iw).a) ie) (l.getD ((t.ops.getD x iw).b) ie) ((jd t l i p x).getD ((t.ops.getD x iw).a) ie) ((jd t l i p x).getD ((t.ops.getD x iw).b) ie) p])) (i_-(jd t l i p x).length) j_)) (.row true 46 ((jd t l i p (x+1)).length) 7 (jQ (jd t l i p (x+1)))))])) aF)
  (λhx=>by
    exact jg (ae [tF 37 ((t.ops.length:Int)<t.ops.length) aC,.z 10]<|.e (af [.o 10 (.e (Dt aH):aj (.sl true ((jd t l i p t.ops.length).length) 7 (jQ (jd t l i p t.ops.length))) (im (jd t l i p t.ops.length)))])) aF) aI:kU 12 f238 (OC t l i p 0) (.exit 2) ⟨95,true,[(10,.e (im (jd t l i p t.ops.length)))],[]⟩) (af [.b 10 (.iH rfl:Bx.le (.row true 46 ((mj t.iq i t.iq).length) 7 (jQ (mj t.iq i t.iq))) (.row true 46 ((jd t l i p 0).length) 7 (jQ (jd t l i p 0))))])]) 
noncomputable def OG(t:jI)(xs:List Iv)(p m:Nat)(x:Nat):PS:=⟨91,true,[(43,.e (iP x)),(42,.e (iP m)),(11,.own 41),(10,.e (im (iI t.ops xs p t.ops.length))),(4,.box 4 0),(3,.e (iP p))],[(41,.lf true 26 46 t.iC.length 7 (mr (kj t.iC.length (mE t xs p) x 0)) (pB (kj t.iC.length (mE t xs p) x 0)) .none),(4,.cells 25 [iP t.iq,kB t.ops,kJ t.iC])]⟩
noncomputable def OH(t:jI)(xs:List Iv)(p m x:Nat)(k:Nat):PS:=⟨91,true,[(54,.e (iP k)),(53,.e (iP t.iC.length)),(52,.e (kJ t.iC)),(13,.e (im (jd t (iI t.ops xs p t.ops.length) x p t.ops.length))),(43,.e (iP x)),(42,.e (iP m)),(11,.own 41),(10,.e (im (iI t.ops xs p t.ops.length))),(4,.box 4 0),(3,.e (iP p))],[(41,.lf true 26 46 t.iC.length 7 (mr (kj t.iC.length (mE t xs p) x k)) (pB (kj t.iC.length (mE t xs p) x k)) .none),(4,.cells 25 [iP t.iq,kB t.ops,kJ t.iC])]⟩
noncomputable def OI(t:jI)(xs:List Iv)(p m:Nat)(x:Nat):PS:=⟨91,true,[(16,.own 16),(77,.e (iP x)),(76,.e (iP t.iC.length)),(75,.e (kJ t.iC)),(11,.own 41),(10,.e (im (iI t.ops xs p t.ops.length)))],[(16,.row true 46 x 7 (jQ ((List.range x).map (λj_=>(iI t.ops xs p t.ops.length).getD (t.iC.getD j_ 0) ie)))),(41,.lf true 26 46 t.iC.length 7 (mr (kj t.iC.length (mE t xs p) m 0)) (pB (kj t.iC.length (mE t xs p) m 0)) .none)]⟩
def aff{n x k:Nat}{F:Nat->Nat->Iv}(h:k<n):mr (kj n F x k) k=x:=by simp only[mr,Cb h];simp
def Jc(t:jI)(xs:List Iv)(p m:Nat)(h:wC t)(h0:1<=xs.length)(hx:xs.length=t.iq)(hv:oV xs)(hm:m<=t.iq)(ig:8<=p)(gY:p<=512):gU 161 [kn t,im xs,iP m,iP p] (.ik [im (pk t xs p),mP (po t xs p m)]):=by
 have h8:=h.iq;have Bu:=h.ops;have C5:=h.iC;have h1:1<=t.iq:= aC ;have zV:(iI t.ops xs p t.ops.length).length=t.iq+t.ops.length:=by rw[Cj,hx]
 have Qb:=Es t.ops hv (aC:1<=p) (aC:p<=4096) t.ops.length;exact ak call161 func161 (ae [.c (YP t xs p h h0 hx hv aC aC),tF 26 ((m:Int)<0) aC,tF 32 ((t.iq:Int)<m) aC,.c (afI t xs p h h0 hx hv aC aC),.a (aC:0<=((t.iC.length:Int):Int)/\((t.iC.length:Int):Int)<=((t.iC.length:Int):Int)),.a (aC:((24:Nat):Int)*(t.iC.length:Int)<=281474976710656/\((t.iC.length:Int):Int)<=9223372036854775807),.s (Sp.kY (OG t xs p m) 0 m aC (λx hx mZ=>by
    exact jg (ae [tT 44 ((x:Int)<m) aC,.c (WC t (iI t.ops xs p t.ops.length) x p h h1 zV Qb ig gY),.s (Sp.kY (OH t xs p m x) 0 t.iC.length aC (λk hk aan=>by
    have hot:=h.out k aC;have hle:mr (kj t.iC.length (mE t xs p) x k) k=x:=aff aC ;have Po:=Cv t (iI t.ops xs p t.ops.length) x p t.ops.length;have uI:=tN ((jd t (iI t.ops xs p t.ops.length) x p t.ops.length).getD (t.iC.getD k 0) ie);exact jg (ae [tT 55 ((k:Int)<t.iC.length) aC,iX (k:Int) (t.iC.length) aC,iX (k:Int) (t.iC.length) aC,.a (aC:k<t.iC.length),
     iX (t.iC.getD k 0:Int) ((jd t (iI t.ops xs p t.ops.length) x p t.ops.length).length) aC,.o 69 (.e (lZ _):aj (.sl true 1 7 λi_ j_=>(iG ((jd t (iI t.ops xs p t.ops.length) x p t.ops.length).getD (t.iC.getD k 0) ie)).getD (i_*7+j_) (.v (.bool false))) (im [(jd t (iI t.ops xs p t.ops.length) x p t.ops.length).getD (t.iC.getD k 0) ie])),.a (aC:k<t.iC.length),.a (aC:((mr (kj t.iC.length (mE t xs p) x k)) k+[(jd t (iI t.ops xs p t.ops.length) x p t.ops.length).getD (t.iC.getD k 0) ie].length)*88<=140737488355328),
     iX (k:Int) (t.iC.length) aC,.a (rfl:k=k),.a (rfl:k=k),.a (aC:k<t.iC.length),iu ((k:Int)+1) aC]<|.e (af [.b 41 (afj rfl rfl aC rfl:Bx.le (.lf true 26 46 t.iC.length 7 (λq=>if q=k then(mr (kj t.iC.length (mE t xs p) x k)) q+[(jd t (iI t.ops xs p t.ops.length) x p t.ops.length).getD (t.iC.getD k 0) ie].length else(mr (kj t.iC.length (mE t xs p) x k)) q) (λq i j=>if q=k then(if i<(mr (kj t.iC.length (mE t xs p) x k)) q then(pB (kj t.iC.length (mE t xs p) x k)) q i j else(E.lW (im [(jd t (iI t.ops xs p t.ops.length) x p t.ops.length).getD (t.iC.getD k 0) ie])) (i-(mr (kj t.iC.length (mE t xs p) x k)) q) j)else(pB (kj t.iC.length (mE t xs p) x k)) q i j) .none) (.lf true 26 46 t.iC.length 7 (mr (kj t.iC.length (mE t xs p) x (k+1))) (pB (kj t.iC.length (mE t xs p) x (k+1))) .none))])) aF)
  (λhk=>by
    exact jg (af [tF 55 ((t.iC.length:Int)<t.iC.length) aC]) aF) aI:kU 10 f161 (OH t xs p m x 0) (.exit 2) ⟨91,true,[(43,.e (iP x)),(42,.e (iP m)),(11,.own 41),(10,.e (im (iI t.ops xs p t.ops.length))),(4,.box 4 0),(3,.e (iP p))],[(41,.lf true 26 46 t.iC.length 7 (mr (kj t.iC.length (mE t xs p) x t.iC.length)) (pB (kj t.iC.length (mE t xs p) x t.iC.length)) .none),(4,.cells 25 [iP t.iq,kB t.ops,kJ t.iC])]⟩) .nil,
     iu ((x:Int)+1) aC]<|.e (af [.b 41 (afi rfl:Bx.le (.lf true 26 46 t.iC.length 7 (mr (kj t.iC.length (mE t xs p) x t.iC.length)) (pB (kj t.iC.length (mE t xs p) x t.iC.length)) .none) (.lf true 26 46 t.iC.length 7 (mr (kj t.iC.length (mE t xs p) (x+1) 0)) (pB (kj t.iC.length (mE t xs p) (x+1) 0)) .none))])) aF)
  (λhx=>by
    exact jg (af [tF 44 ((m:Int)<m) aC]) aF) aI:kU 6 f161 (OG t xs p m 0) (.exit 0) ⟨91,true,[(11,.own 41),(10,.e (im (iI t.ops xs p t.ops.length))),(4,.box 4 0)],[(41,.lf true 26 46 t.iC.length 7 (mr (kj t.iC.length (mE t xs p) m 0)) (pB (kj t.iC.length (mE t xs p) m 0)) .none),(4,.cells 25 [iP t.iq,kB t.ops,kJ t.iC])]⟩) (af [.b 41 (afh rfl:Bx.le (.lf true 26 46 t.iC.length 7 (λ_=>0) (λ_ _ _=>.any) .none) (.lf true 26 46 t.iC.length 7 (mr (kj t.iC.length (mE t xs p) 0 0)) (pB (kj t.iC.length (mE t xs p) 0 0)) .none))]),.y 16 16 true 46 7 (jQ ((List.range 0).map (λj_=>(iI t.ops xs p t.ops.length).getD (t.iC.getD j_ 0) ie))),.s (Sp.kY (OI t xs p m) 0 t.iC.length aC (λx hx mZ=>by
    have hot:=h.out x aC;have JL:=Cj t.ops xs p t.ops.length;have uI:=tN ((iI t.ops xs p t.ops.length).getD (t.iC.getD x 0) ie);exact jg (ae [tT 78 ((x:Int)<t.iC.length) aC,iX (x:Int) (t.iC.length) aC,iX (t.iC.getD x 0:Int) ((iI t.ops xs p t.ops.length).length) aC,.o 86 (.e (lZ _):aj (.sl true 1 7 λi_ j_=>(iG ((iI t.ops xs p t.ops.length).getD (t.iC.getD x 0) ie)).getD (i_*7+j_) (.v (.bool false))) (im [(iI t.ops xs p t.ops.length).getD (t.iC.getD x 0) ie])),.a (aC:(x+[(iI t.ops xs p t.ops.length).getD (t.iC.getD x 0) ie].length)*88<=140737488355328),iu ((x:Int)+1) aC]<|.e (af [.b 16 (QF rfl rfl rfl:Bx.le (.row true 46 (x+[(iI t.ops xs p t.ops.length).getD (t.iC.getD x 0) ie].length) 7 (λi_ j_=>if i_<x then(jQ ((List.range x).map (λj_=>(iI t.ops xs p t.ops.length).getD (t.iC.getD j_ 0) ie))) i_ j_ else(E.lW (im [(iI t.ops xs p t.ops.length).getD (t.iC.getD x 0) ie])) (i_-x) j_)) (.row true 46 (x+1) 7 (jQ ((List.range (x+1)).map (λj_=>(iI t.ops xs p t.ops.length).getD (t.iC.getD j_ 0) ie)))))])) aF)
  (λhx=>by
    exact jg (ae [tF 78 ((t.iC.length:Int)<t.iC.length) aC,.z 16]<|.e (af [.o 16 (.e (Dt aH):aj (.sl true t.iC.length 7 (jQ ((List.range t.iC.length).map (λj_=>(iI t.ops xs p t.ops.length).getD (t.iC.getD j_ 0) ie)))) (im ((List.range t.iC.length).map (λj_=>(iI t.ops xs p t.ops.length).getD (t.iC.getD j_ 0) ie))))])) aF) aI:kU 17 f161 (OI t xs p m 0) (.exit 4) ⟨91,true,[(16,.e (im ((List.range t.iC.length).map (λj_=>(iI t.ops xs p t.ops.length).getD (t.iC.getD j_ 0) ie)))),(11,.own 41)],[(41,.lf true 26 46 t.iC.length 7 (mr (kj t.iC.length (mE t xs p) m 0)) (pB (kj t.iC.length (mE t xs p) m 0)) .none)]⟩) .nil]<|rR (.ik [im (pk t xs p),mP (po t xs p m)]) (.ik (.cons (.iH (by rw[YB])) (.cons (abP (Ti _ _ _ _).symm) .nil)):E.le (.ik [im ((List.range t.iC.length).map (λj_=>(iI t.ops xs p t.ops.length).getD (t.iC.getD j_ 0) ie)),(.sl true t.iC.length 1 λk_ _=>.sl true ((mr (kj t.iC.length (mE t xs p) m 0)) k_) 7 ((pB (kj t.iC.length (mE t xs p) m 0)) k_))]) (.ik [im (pk t xs p),mP (po t xs p m)]))) 
def BI(t:jI)(xs:List Iv)(p m:Nat):(po t xs p m).length=t.iC.length:=Ti _ _ _ _
def Kj{t:jI}{xs:List Iv}{p m q:Nat}(h:q<t.iC.length):(po t xs p m).getD q []=(List.range m).map (mE t xs p q):=by
 unfold po;rw[Cb h,aY (bE _)]
def QG{t:jI}{xs:List Iv}{p m:Nat}(hm:m<=1000)(q:Nat):((po t xs p m).getD q []).length<=1000:=by
 by_cases h:q<t.iC.length
 .rw [Kj h];simpa using hm
 .rw [bc,ct (by rw[BI];omega)];simp
def YL(s:lY)(b:List Iv)(p:Nat)(h:mR s)(hb:nJ s.jy b)(ig:8<=p)(gY:p<=512)(hn:pS (pk s.tape (b++s.params) p)=true):gU 88 [kX s,im b,iP s.jy,iP p] (.ik [.v (.slice none 0 0),.v (.slice none 0 0),iP 11]):=by
 have s4:=h.s4;have p4:=h.p4;have PJ:=hb.len;have C5:=h.tape.iC;have uG:=KF hb.ok;have CY:=I6 s.tape (b++s.params) p;obtain⟨f1,f2,f3,f4⟩:=EX h hb;have Bm:=BI s.tape (b++s.params) p s.jy;have nQ:=h.iC;have zT:=h.iq;have vK:s.jy<=1000:= aC ;exact ak call88 func88 (af [.c (LH s aD),ai 21 ((b.length:Int) != (s.jy:Int)) (Ak hb.len),.c (xT b aC),ai 25 (pS b) uG,.c (BG true _ _ 159 [] (λ_=>false) (λi hi=>Jb _ (hb.ok i hi).1) aC (λ_ _=>rfl):gU 40 [im b,.fn 159 []] _),.c (Fv (p:Int)),ah 32 (lJ (p:Int)) (qp.2 ⟨aC,aC⟩),.o 40 (.e (Ku _ _):aj (.sl true 2 1 λi_ j_=>[im b,im s.params].getD (i_*1+j_) (.v (.bool false))) (mP [b,s.params])),ag [mP [b,s.params]] (Iy b s.params aC aC),.c (Jc s.tape (b++s.params) p s.jy f1 f2 f3 f4 aC aC aC),.c (xT (pk s.tape (b++s.params) p) aC),ah 48 (pS (pk s.tape (b++s.params) p)) hn]) 
def YM(s:lY)(b:List Iv)(p:Nat)(h:mR s)(hb:nJ s.jy b)(ig:8<=p)(gY:p<=512)(hn:pS (pk s.tape (b++s.params) p)=false)(kz:AV (po s.tape (b++s.params) p s.jy)=true):gU 88 [kX s,im b,iP s.jy,iP p] (.ik [.v (.slice none 0 0),.v (.slice none 0 0),iP 11]):=by
 have s4:=h.s4;have p4:=h.p4;have PJ:=hb.len;have C5:=h.tape.iC;have uG:=KF hb.ok;have CY:=I6 s.tape (b++s.params) p;obtain⟨f1,f2,f3,f4⟩:=EX h hb;have Bm:=BI s.tape (b++s.params) p s.jy;have nQ:=h.iC;have zT:=h.iq;have vK:s.jy<=1000:= aC ;exact ak call88 func88 (af [.c (LH s aD),ai 21 ((b.length:Int) != (s.jy:Int)) (Ak hb.len),.c (xT b aC),ai 25 (pS b) uG,.c (BG true _ _ 159 [] (λ_=>false) (λi hi=>Jb _ (hb.ok i hi).1) aC (λ_ _=>rfl):gU 40 [im b,.fn 159 []] _),.c (Fv (p:Int)),ah 32 (lJ (p:Int)) (qp.2 ⟨aC,aC⟩),.o 40 (.e (Ku _ _):aj (.sl true 2 1 λi_ j_=>[im b,im s.params].getD (i_*1+j_) (.v (.bool false))) (mP [b,s.params])),ag [mP [b,s.params]] (Iy b s.params aC aC),.c (Jc s.tape (b++s.params) p s.jy f1 f2 f3 f4 aC aC aC),.c (xT (pk s.tape (b++s.params) p) aC),ai 48 (pS (pk s.tape (b++s.params) p)) hn,.c (Ln true _ _ 158 [] (λi=>pS ((po s.tape (b++s.params) p s.jy).getD i [])) (λi hi=>xT _ (QG vK i)) aC:gU 163 [mP (po s.tape (b++s.params) p s.jy),.fn 158 []] _),ah 51 (AV (po s.tape (b++s.params) p s.jy)) kz]) 
def YN(s:lY)(b:List Iv)(p:Nat)(h:mR s)(hb:nJ s.jy b)(ig:8<=p)(gY:p<=512)(hn:pS (pk s.tape (b++s.params) p)=false)(kz:AV (po s.tape (b++s.params) p s.jy)=false):gU 88 [kX s,im b,iP s.jy,iP p] (.ik [im (pk s.tape (b++s.params) p),mP (po s.tape (b++s.params) p s.jy),iP 0]):=by
 have s4:=h.s4;have p4:=h.p4;have PJ:=hb.len;have C5:=h.tape.iC;have uG:=KF hb.ok;have CY:=I6 s.tape (b++s.params) p;obtain⟨f1,f2,f3,f4⟩:=EX h hb;have Bm:=BI s.tape (b++s.params) p s.jy;have nQ:=h.iC;have zT:=h.iq;have vK:s.jy<=1000:= aC ;exact ak call88 func88 (af [.c (LH s aD),ai 21 ((b.length:Int) != (s.jy:Int)) (Ak hb.len),.c (xT b aC),ai 25 (pS b) uG,.c (BG true _ _ 159 [] (λ_=>false) (λi hi=>Jb _ (hb.ok i hi).1) aC (λ_ _=>rfl):gU 40 [im b,.fn 159 []] _),.c (Fv (p:Int)),ah 32 (lJ (p:Int)) (qp.2 ⟨aC,aC⟩),.o 40 (.e (Ku _ _):aj (.sl true 2 1 λi_ j_=>[im b,im s.params].getD (i_*1+j_) (.v (.bool false))) (mP [b,s.params])),ag [mP [b,s.params]] (Iy b s.params aC aC),.c (Jc s.tape (b++s.params) p s.jy f1 f2 f3 f4 aC aC aC),.c (xT (pk s.tape (b++s.params) p) aC),ai 48 (pS (pk s.tape (b++s.params) p)) hn,.c (Ln true _ _ 158 [] (λi=>pS ((po s.tape (b++s.params) p s.jy).getD i [])) (λi hi=>xT _ (QG vK i)) aC:gU 163 [mP (po s.tape (b++s.params) p s.jy),.fn 158 []] _),ai 51 (AV (po s.tape (b++s.params) p s.jy)) kz]) 
noncomputable def qm(s:lY)(b:List Iv)(p:Nat):Bool:=pS (pk s.tape (b++s.params) p)||AV (po s.tape (b++s.params) p s.jy)
noncomputable def ln(s:lY)(b:List Iv)(p:Nat):List (List Iv):=(po s.tape (b++s.params) p s.jy)
def YQ(s:lY)(b:List Iv)(p:Nat)(jO:gU 88 [kX s,im b,iP (s.jy:Int),iP (p:Int)] (.ik [.v (.slice none 0 0),.v (.slice none 0 0),iP 11])):gU 43 [kX s,im b,iP p] (.ik [.v (.slice none 0 0),iP 11]):=
 ak call43 func43 (af [ag [kX s,im b,iP s.jy,iP p] jO]) 
def YR(s:lY)(b:List Iv)(p:Nat)(h:mR s)(hb:nJ s.jy b)(ig:8<=p)(gY:p<=512)(hn:pS (pk s.tape (b++s.params) p)=false)(kz:AV (po s.tape (b++s.params) p s.jy)=false):gU 43 [kX s,im b,iP p] (.ik [mP (po s.tape (b++s.params) p s.jy),iP 0]):=
 ak call43 func43 (af [ag [kX s,im b,iP s.jy,iP p] (YN _ _ _ h hb ig gY hn kz)]) 
def OD(s:lY)(b:List Iv)(p:Nat)(h:mR s)(hb:nJ s.jy b)(ig:8<=p)(gY:p<=512)(hn:qm s b p=true):gU 43 [kX s,im b,iP (p:Int)] (.ik [.v (.slice none 0 0),iP 11]):=by
 unfold qm at hn;refine YQ s b p ?_;cases h1:pS (pk s.tape (b++s.params) p)with
 |true=>exact YL s b p h hb ig gY h1
 |false=>
  rw[h1,eD]at hn;exact YM s b p h hb ig gY h1 hn
def OE(s:lY)(b:List Iv)(p:Nat)(h:mR s)(hb:nJ s.jy b)(ig:8<=p)(gY:p<=512)(hn:qm s b p=false):gU 43 [kX s,im b,iP (p:Int)] (.ik [mP (ln s b p),iP 0]):=by
 unfold qm at hn;rw[ez]at hn;exact YR s b p h hb ig gY hn.1 hn.2
def K7(m:List (List Iv))(i:Nat):(sO m).getD i []=we (m.getD i []):=by
 unfold sO;rw[bc,bc,cD];cases m[i]? <;> rfl
def Fp.rq.Be{m:List (List Iv)}{n k:Nat}(h:rq m n k):Ck (sO m):=by
 intro r hr x hx;obtain⟨r',h1,rfl⟩:=dk.1 hr;obtain⟨x',h2,rfl⟩:=dk.1 hx;exact(h.ok _ h1 _ h2).Be
def Fp.rq.rok{m:List (List Iv)}{n k:Nat}(h:rq m n k):Cm (sO m):=by
 have hl:(sO m).length=n:=by rw[<-h.lf];simp[sO]
 have uN:∀ i,i<n->((sO m).getD i []).length=k:=λi hi=>by rw[K7,<-h.Dx hi];simp[we]
 have h1:=h.n1;refine⟨by have:=h.n1;omega,by have:=h.n8;omega,by rw[uN 0 aC];exact h.k1,by rw[uN 0 aC];exact h.k8,λi hi=>by rw[uN 0 aC,uN i aC],λi hi j hj=>?_⟩;have lR:i<n:= aC ;rw[uN i lR]at hj;rw[K7,OL];exact(h.agb lR hj).pt
def abR(m:List (List Iv))(n k:Nat)(h:rq m n k):gU 164 [mP m] (bP true):=by
 have:=abQ (sO m) h.Be (by have:=h.n8;simp[sO,h.lf];omega) (λi=>by rw[K7];have:=h.abe i;simp only[we,dK];omega);rwa[Kv.2 h.rok,abL]at this
noncomputable def Ap(x:RI):Bool:=nc x && !x.all
noncomputable def EV(n:Int)(b:List RI):Bool:=decide ((b.length:Int)=n)&&(List.range b.length).all λi=>Ap (b.getD i jR)
noncomputable def GO(d:RD):Bool:=@decide d.Ok (Classical.propDecidable _)
def B4{d:RD}:GO d=true↔d.Ok:=@gi _ (Classical.propDecidable _)
def Ml{n:Nat}{f:Nat->Bool}(h:¬(List.range n).all f=true):∃ N,N<n/\(!f N)=true/\∀ k,k<N->(!f k)=false:=by
 refine vU ?_;apply bN;intro q;apply h;refine bY.2 λi hi=>?_
 cases hf:f i with
 |true=>rfl
 |false=>exact absurd ⟨i,cz.1 hi,by rw[hf];rfl⟩ q
def NF(r:List Iv)(i p:Nat)(x:Nat):PS:=⟨84,true,[(23,.e (iP x)),(22,.e (iP r.length)),(21,.e (im r)),(8,.box 8 0),(7,.box 7 0),(6,.box 6 0),(0,.e (im r)),(1,.e (iP i)),(2,.e (iP p))],[(8,.cells 39 (jA (kq r i p x))),(7,.cells 46 (iG ie)),(6,.cells 46 au)]⟩
def ND(r:List Iv)(i p:Nat)(N:Nat)(x:Nat):PS:=⟨84,true,[(23,.e (iP x)),(22,.e (iP r.length)),(21,.e (im r)),(8,.box 8 0),(7,.box 7 0),(6,.box 6 0),(0,.e (im r)),(1,.e (iP i)),(2,.e (iP p))],[(8,.cells 39 (jA (kq r i p x))),(7,.cells 46 (iG ie)),(6,.cells 46 au)]⟩
def NH(m:List (List Iv))(p:Nat)(x:Nat):PS:=⟨33,true,[(6,.own 6),(19,.e (iP x)),(18,.e (iP m.length)),(17,.e (mP m)),(1,.e (iP p))],[(6,.row true 46 x 7 (jQ ((List.range x).map (λi_=>mI (m.getD i_ []) i_ p))))]⟩
noncomputable def NJ(s:lY)(b:List Iv)(p:Nat)(x:Nat):PS:=⟨45,true,[(11,.e (iP ((x+1:Nat):Int))),(10,.box 10 0),(8,.e (mP (ln s b p))),(6,.box 6 0),(2,.e (iP p))],[(10,.cells 46 (iG (ub (ln s b p) p x))),(6,.cells 46 au)]⟩
def RR{r:List Iv}{i p k:Nat}(h:pt r i p k=true)(hk:¬k=i):jf (iN (kq r i p k) (kg (r.getD k ie))) p true=0:=by
 unfold pt at h;rw[bg hk,eD]at h;exact cQ h
def W2(r:List Iv)(i p:Nat)(hr:uf r)(hi:i<r.length)(hl:r.length<=1000)(ig:8<=p)(gY:p<=512)(hb:yM r i p=true):gU 91 [im r,iP i,iP p] (ia (mI r i p)):=by
 have jK:∀ k,k<r.length->pt r i p k=true:=λk hk=>bY.1 hb k (cz.2 hk)
 obtain⟨v1,v2⟩:=hr i hi;obtain⟨v3,v4⟩:=v1.jC;have v5:=BX r i (aC:1<=p) (aC:p<=4096) r.length;have v6:=yG v5;exact ak call91 func91 (ae [.o 19 (.e wj:aj (.agg [bP false,.v (.slice none 0 0),iP 0,bP false,.v (.slice none 0 0),iP 0,bP true]) (ia ie)),.o 20 (.e vf:aj (.agg ar) (gZ jt)),.s (Sp.kY (NF r i p) 0 r.length aC (λx hx mZ=>by
    obtain⟨w1,w2⟩:=hr x aC;obtain⟨w5,w6⟩:=w1.jC;have w3:=yD w5 w6;have w4:=BX r i (aC:1<=p) (aC:p<=4096) x;exact jg (ae [tT 24 ((x:Int)<r.length) aC,iX (x:Int) (r.length) aC,.c (BF (r.getD x ie) w1 w2)]<|.w (x=i)
     (λsD=>by
      have zK:kq r i p (x+1)=kq r i p x:=by rw[Gy,aZ sD]
      exact ae [ah 38 ((x:Int)==i) (aU aC),iu ((x:Int)+1) aC]<|.e (af [.b 8 (.iH (by rw[zK]):Bx.le (.cells 39 (jA (kq r i p x))) (.cells 39 (jA (kq r i p (x+1)))))]))
     (λsD=>by
      have zK:kq r i p (x+1)=jk (iN (kq r i p x) (kg (r.getD x ie))) p true:=by rw[Gy,aY sD]
      exact ae [ai 38 ((x:Int)==i) (aT aC),.c (BY (kq r i p x) (kg (r.getD x ie)) p aD aD aC aC),ai 47 ((jf (iN (kq r i p x) (kg (r.getD x ie))) p true) != 0) (aW (RR (jK x aC) sD)),iu ((x:Int)+1) aC]<|.e (af [.b 8 (.iH (by rw[zK]):Bx.le (.cells 39 (jA (jk (iN (kq r i p x) (kg (r.getD x ie))) p true))) (.cells 39 (jA (kq r i p (x+1)))))]))) aF)
  (λhx=>by
    exact jg (af [tF 24 ((r.length:Int)<r.length) aC]) aF) aI:kU 4 Tryz.f91 (NF r i p 0) (.exit 0) ⟨84,true,[(8,.box 8 0),(7,.box 7 0),(6,.box 6 0),(0,.e (im r)),(1,.e (iP i)),(2,.e (iP p))],[(8,.cells 39 (jA (kq r i p r.length))),(7,.cells 46 (iG ie)),(6,.cells 46 au)]⟩) (af [.b 8 (.iH rfl:Bx.le (.cells 39 (jA jt)) (.cells 39 (jA (kq r i p 0))))]),
  iX (i:Int) (r.length) aC,ag [gZ (kq r i p r.length)] (vu _ aD),.c (Sh ((r.getD i ie).lo) (jv (kq r i p r.length)) p aD aD aC aC),iX (i:Int) (r.length) aC,.c (BY ((r.getD i ie).hi) (kq r i p r.length) p aD aD aC aC)]<|.w ((jf (iN ((r.getD i ie).lo) (jv (kq r i p r.length))) p false)=0)
  (λk1=>ae [tB 75 (aW k1)]<|.w ((jf (iN ((r.getD i ie).hi) (kq r i p r.length)) p true)=0)
   (λk2=>ae [tB 78 (aW k2)]<|rQ (ia (Iv.mk (jk (iN ((r.getD i ie).lo) (jv (kq r i p r.length))) p false) (jk (iN ((r.getD i ie).hi) (kq r i p r.length)) p true) false)) (ia (mI r i p)) (by unfold mI;rw[aZ hb,aZ (by simp_all)]))
   (λk2=>ae [tB 78 (aX k2)]<|rQ (ia ie) (ia (mI r i p)) (by unfold mI;rw[aZ hb,aY (by simp_all)])))
  (λk1=>ae [tB 75 (aX k1)]<|rQ (ia ie) (ia (mI r i p)) (by unfold mI;rw[aZ hb,aY (by simp_all)]))) 
def W3(r:List Iv)(i p:Nat)(hr:uf r)(hi:i<r.length)(hl:r.length<=1000)(ig:8<=p)(gY:p<=512)(N:Nat)(oF:N<r.length)(jK:∀ k,k<N->pt r i p k=true)(hN:pt r i p N=false):gU 91 [im r,iP i,iP p] (ia ie):=by
 have hNi:¬N=i:=λe=>by unfold pt at hN;rw[bh e]at hN;cases hN
 have ZO:jf (iN (kq r i p N) (kg (r.getD N ie))) p true≠0:=λe=>by unfold pt at hN;rw[bh e,Bool.or_true]at hN;cases hN
 exact ak call91 func91 (af [.o 19 (.e wj:aj (.agg [bP false,.v (.slice none 0 0),iP 0,bP false,.v (.slice none 0 0),iP 0,bP true]) (ia ie)),.o 20 (.e vf:aj (.agg ar) (gZ jt)),.s (Sp.kY (ND r i p N) 0 N aC (λx hx mZ=>by
    obtain⟨w1,w2⟩:=hr x aC;obtain⟨w5,w6⟩:=w1.jC;have w3:=yD w5 w6;have w4:=BX r i (aC:1<=p) (aC:p<=4096) x;exact jg (ae [tT 24 ((x:Int)<r.length) aC,iX (x:Int) (r.length) aC,.c (BF (r.getD x ie) w1 w2)]<|.w (x=i)
     (λsD=>by
      have zK:kq r i p (x+1)=kq r i p x:=by rw[Gy,aZ sD]
      exact ae [ah 38 ((x:Int)==i) (aU aC),iu ((x:Int)+1) aC]<|.e (af [.b 8 (.iH (by rw[zK]):Bx.le (.cells 39 (jA (kq r i p x))) (.cells 39 (jA (kq r i p (x+1)))))]))
     (λsD=>by
      have zK:kq r i p (x+1)=jk (iN (kq r i p x) (kg (r.getD x ie))) p true:=by rw[Gy,aY sD]
      exact ae [ai 38 ((x:Int)==i) (aT aC),.c (BY (kq r i p x) (kg (r.getD x ie)) p aD aD aC aC),ai 47 ((jf (iN (kq r i p x) (kg (r.getD x ie))) p true) != 0) (aW (RR (jK x aC) sD)),iu ((x:Int)+1) aC]<|.e (af [.b 8 (.iH (by rw[zK]):Bx.le (.cells 39 (jA (jk (iN (kq r i p x) (kg (r.getD x ie))) p true))) (.cells 39 (jA (kq r i p (x+1)))))]))) aF)
  (λhx=>by
    obtain⟨w1,w2⟩:=hr N aC;obtain⟨w5,w6⟩:=w1.jC;have w3:=yD w5 w6;have w4:=BX r i (aC:1<=p) (aC:p<=4096) N;exact jg (af [tT 24 ((N:Int)<r.length) aC,iX (N:Int) (r.length) aC,.c (BF (r.getD N ie) w1 w2),ai 38 ((N:Int)==i) (aT aC),.c (BY (kq r i p N) (kg (r.getD N ie)) p aD aD aC aC),tB 47 (aX ZO)]) aF) aI:kU 4 Tryz.f91 (ND r i p N 0) .ret ⟨84,true,[(6,.box 6 0)],[(6,.cells 46 (iG ie))]⟩) (af [.b 8 (.iH rfl:Bx.le (.cells 39 (jA jt)) (.cells 39 (jA (kq r i p 0))))])]) 
def W4(r:List Iv)(i p:Nat)(hr:uf r)(hi:i<r.length)(hl:r.length<=1000)(ig:8<=p)(gY:p<=512):gU 91 [im r,iP i,iP p] (ia (mI r i p)):=by
 by_cases c:yM r i p=true
 .exact W2 r i p hr hi hl ig gY c
 .obtain ⟨N,n1,n2,n3⟩:=Ml c;have:=W3 r i p hr hi hl ig gY N n1 (λk hk=>by simpa using n3 k hk) (by simpa using n2);rwa[show mI r i p=ie by unfold mI;rw[aY c]]
def abi(p:Int):gU 89 [iP p] (bP (lJ p)):=
 ak call89 func89 (.w (8<=p)
  (λk1=>ae [tB 4 (bh k1)]<|rQ (bP (decide (p<=512))) (bP (lJ p)) (by unfold lJ;simp[k1]))
  (λk1=>ae [tB 4 (bg k1)]<|rQ (bP false) (bP (lJ p)) (by unfold lJ;simp[k1]))) 
def abj(m:List (List Iv))(n:Nat)(hm:rq m n n):gU 90 [mP m] (bP true):=by
 have m1:=hm.lf;have m2:=hm.n1;have m3:=hm.Dx (aC:0<n);exact ak call90 func90 (af [ag [mP m] (abR _ _ _ hm),iX 0 (m.length) aC,ah 12 ((m.length:Int)==((m.getD 0 []).length:Int)) (Rm aC)]) 
def W7(m:List (List Iv))(n p:Nat)(hm:rq m n n)(uG:∀ i,i<n->uf (m.getD i []))(ig:8<=p)(gY:p<=512):gU 44 [mP m,iP p] (.ik [im (sn m p),iP 0]):=by
 have m1:=hm.lf;have m8:=hm.n8;exact ak call44 func44 (af [.c (abi (p:Int)),ah 10 (lJ (p:Int)) (qp.2 ⟨aC,aC⟩),ag [mP m] (abj _ _ hm),.y 6 6 true 46 7 (jQ ((List.range 0).map (λi_=>mI (m.getD i_ []) i_ p))),.s (Sp.kY (NH m p) 0 m.length aC (λx hx mZ=>by
    have hrl:=hm.Dx (aC:x<n);have uI:=tN (mI (m.getD x []) x p);exact jg (ae [tT 20 ((x:Int)<m.length) aC,iX (x:Int) (m.length) aC,.c (W4 (m.getD x []) x p (uG x aC) aC aC aC aC),.o 29 (.e (lZ _):aj (.sl true 1 7 λi_ j_=>(iG (mI (m.getD x []) x p)).getD (i_*7+j_) (.v (.bool false))) (im [mI (m.getD x []) x p])),.a (aC:(x+[mI (m.getD x []) x p].length)*88<=140737488355328),iu ((x:Int)+1) aC]<|.e (af [.b 6 (QF rfl rfl rfl:Bx.le (.row true 46 (x+[mI (m.getD x []) x p].length) 7 (λi_ j_=>if i_<x then(jQ ((List.range x).map (λi_=>mI (m.getD i_ []) i_ p))) i_ j_ else(E.lW (im [mI (m.getD x []) x p])) (i_-x) j_)) (.row true 46 (x+1) 7 (jQ ((List.range (x+1)).map (λi_=>mI (m.getD i_ []) i_ p)))))])) aF)
  (λhx=>by
    exact jg (ae [tF 20 ((m.length:Int)<m.length) aC,.z 6]<|.e (af [.o 6 (.e (Dt aH):aj (.sl true m.length 7 (jQ ((List.range m.length).map (λi_=>mI (m.getD i_ []) i_ p)))) (im ((List.range m.length).map (λi_=>mI (m.getD i_ []) i_ p))))])) aF) aI:kU 5 Tryz.f44 (NH m p 0) (.exit 0) ⟨33,true,[(6,.e (im ((List.range m.length).map (λi_=>mI (m.getD i_ []) i_ p))))],[]⟩) .nil]) 
def Xa(s:lY)(b:List Iv)(p:Nat)(h:mR s)(hb:nJ s.jy b)(ig:8<=p)(gY:p<=512)(hn:qm s b p=true):gU 34 [kX s,im b,iP p] (.ik [.agg au,iP 11]):=
 ak call34 func34 (af [ag [kX s,im b,iP p] (OD _ _ _ h hb ig gY hn),ah 20 ((11:Int) != 0) aE]) 
def BH{s:lY}(h:mR s)(b:List Iv)(p:Nat):(ln s b p).length=s.jy:=by unfold ln;rw[BI,h.iC]
def Ki{s:lY}(h:mR s)(b:List Iv)(p:Nat){i:Nat}(hi:i<s.jy):((ln s b p).getD i []).length=s.jy:=by
 unfold ln;rw[Kj (by rw[h.iC];exact hi)];simp
def Du{s:lY}(h:mR s){b:List Iv}(hb:nJ s.jy b){p:Nat}(hp:1<=p)(gY:p<=4096)(i j:Nat):(((ln s b p).getD i []).getD j ie).gX:=by
 obtain⟨f1,f2,f3,f4⟩:=EX h hb;by_cases hi:i<s.tape.iC.length
 .unfold ln;rw[Kj hi];by_cases hj:j<s.jy
  .rw [yN hj];exact aa2 _ f4 hp gY _ _
  .rw [bc,ct (by simpa using hj)];exact kS
 .rw [bc (l:=ln s b p),ct (by rw[BH h];rw[h.iC]at hi;omega)];exact kS
def LO{s:lY}(h:mR s){b:List Iv}(hb:nJ s.jy b){p:Nat}(hp:1<=p)(gY:p<=4096):∀ k,(ub (ln s b p) p k).gX
 | 0=>Du h hb hp gY 0 0
 |k+1=>oW (LO h hb hp gY k) (Du h hb hp gY _ _) hp gY
def aa4{s:lY}(h:mR s){b:List Iv}(hb:nJ s.jy b){p:Nat}(hp:1<=p)(gY:p<=4096)(hn:qm s b p=false)(i:Nat)(hi:i<s.jy):uf ((ln s b p).getD i []):=by
 unfold qm at hn;rw[ez]at hn;have h2:=dp.1 hn.2 i (cz.2 (by rw[BI,h.iC];exact hi));exact Z4 (by simpa[ln]using h2) (Du h hb hp gY i)
def aa3{s:lY}(h:mR s){b:List Iv}(hb:nJ s.jy b){p:Nat}(hp:1<=p)(gY:p<=4096):rq (ln s b p) s.jy s.jy:=by
 have s1:=h.s1;have s4:=h.s4;have kD:∀ {α:Type} {l:List α} {x:α} (d:α),x ∈ l->∃ i,i<l.length/\l.getD i d=x:=λd hx=>by
  obtain⟨i,hi,e⟩:=gN hx;exact⟨i,hi,by rw[bc,bt hi];exact e⟩
 refine⟨BH h b p,λr hr=>?_,λr hr x hx=>?_,aC,aC,aC,aC⟩
 .obtain ⟨i,hi,rfl⟩:=kD [] hr;rw[BH h]at hi;exact Ki h b p hi
 .obtain ⟨i,hi,rfl⟩:=kD [] hr;obtain⟨j,hj,rfl⟩:=kD ie hx;exact Du h hb hp gY i j
def Xg(s:lY)(b:List Iv)(p:Nat)(h:mR s)(hb:nJ s.jy b)(ig:8<=p)(gY:p<=512)(hn:qm s b p=false):gU 34 [kX s,im b,iP p] (.ik [ia (ub (ln s b p) p (s.jy-1)),iP 0]):=by
 have p1:1<=p:= aC ;have p2:p<=4096:= aC ;have s1:=h.s1;have s4:=h.s4;have Bm:=BH h b p;have uM:=Ki h b p (aC:0<s.jy);exact ak call34 func34 (af [ag [kX s,im b,iP p] (OE _ _ _ h hb ig gY hn),ai 20 ((0:Int) != 0) aE,iX 0 ((ln s b p).length) aC,iX 0 (((ln s b p).getD 0 []).length) aC,.s (Sp.kY (NJ s b p) 0 (s.jy-1) aC (λx hx mZ=>by
    have hr:=Ki h b p (aC:x+1<s.jy);have JY:=Du h hb p1 p2 (x+1) (x+1);have tA:=LO h hb p1 p2 x;exact jg (ae [tT 31 (((x+1:Nat):Int)<((ln s b p).length:Int)) aC,iX ((x+1:Nat):Int) ((ln s b p).length) aC,iX ((x+1:Nat):Int) (((ln s b p).getD (x+1) []).length) aC,.c (BE (ub (ln s b p) p x) (((ln s b p).getD (x+1) []).getD (x+1) ie) p aD aD aC aC),iu (((x+1:Nat):Int)+1) aC]<|.e (af [.b 10 (.iH rfl:Bx.le (.cells 46 (iG (jN (ub (ln s b p) p x) (((ln s b p).getD (x+1) []).getD (x+1) ie) p))) (.cells 46 (iG (ub (ln s b p) p (x+1)))))])) aF)
  (λhx=>by
    exact jg (af [tF 31 ((((s.jy-1)+1:Nat):Int)<((ln s b p).length:Int)) aC]) aF) aI:kU 6 Tryz.f34 (NJ s b p 0) (.exit 0) ⟨45,true,[(10,.box 10 0),(6,.box 6 0)],[(10,.cells 46 (iG (ub (ln s b p) p (s.jy-1)))),(6,.cells 46 au)]⟩) (af [.o 11 (aq 1 ((0+1:Nat):Int) aO),.b 10 (.iH rfl:Bx.le (.cells 46 (iG (((ln s b p).getD 0 []).getD 0 ie))) (.cells 46 (iG (ub (ln s b p) p 0))))])]) 
def tU(d:Iv):Bool:=d.all||decide (0<=d.hi.iJ)
noncomputable def Ca(s:lY)(b:List Iv)(p:Nat):Bool:=!qm s b p && !((List.range (sn (ln s b p) p).length).any λi=>tU ((sn (ln s b p) p).getD i ie))
noncomputable def En(s:lY)(b:List Iv)(p:Nat):Bool:=!qm s b p&&decide (0<lO (ub (ln s b p) p (s.jy-1)))
def NI(m:List (List Iv))(p:Nat):(sn m p).length=m.length:=by simp[sn]
def W6{m:List (List Iv)}{p i:Nat}(h:i<m.length):(sn m p).getD i ie=mI (m.getD i []) i p:=by
 unfold sn;rw[yN h]
def afc(d:Iv)(hh:d.hi.gX):gU 45 [ia d] (bP (tU d)):=
 ak call45 func45 (.w (d.all=true)
  (λk1=>ae [tB 4 k1]<|rQ (bP true) (bP (tU d)) (by unfold tU;simp_all))
  (λk1=>ae [tB 4 (aV k1),ag [gZ d.hi] (nE _ aD)]<|rQ (bP (decide (0<=(Dy.iJ d.hi)))) (bP (tU d)) (by unfold tU;simp_all))) 
def afd(s:lY)(b:List Iv)(p:Nat)(h:mR s)(hb:nJ s.jy b)(ig:8<=p)(gY:p<=512)(hn:qm s b p=true):gU 10 [kX s,im b,iP p] (bP false):=
 ak call10 func10 (af [ag [kX s,im b,iP p] (OD _ _ _ h hb ig gY hn),ah 18 ((11:Int) != 0) aE]) 
def afe(s:lY)(b:List Iv)(p:Nat)(h:mR s)(hb:nJ s.jy b)(ig:8<=p)(gY:p<=512)(hn:qm s b p=false):gU 10 [kX s,im b,iP p] (bP (!((List.range (sn (ln s b p) p).length).any λi=>tU ((sn (ln s b p) p).getD i ie)))):=by
 have p1:1<=p:= aC ;have p2:p<=4096:= aC ;have s1:=h.s1;have s4:=h.s4;have Bm:=BH h b p;have FI:=NI (ln s b p) p;have hdh:∀ i,i<(sn (ln s b p) p).length->((sn (ln s b p) p).getD i ie).hi.gX:=λi hi=>by rw[W6 (by rw[NI]at hi;exact hi)];exact(W5 _ _ p1 p2).2
 exact ak call10 func10 (af [ag [kX s,im b,iP p] (OE _ _ _ h hb ig gY hn),ai 18 ((0:Int) != 0) aE,ag [mP (ln s b p),iP p] (W7 _ _ _ (aa3 h hb p1 p2) (aa4 h hb p1 p2 hn) ig gY),ah 26 ((0:Int)==0) aE,.c (Ga true _ _ 45 [] (λi=>tU ((sn (ln s b p) p).getD i ie)) (λi hi=>afc _ (hdh i hi)) aC:gU 40 [im (sn (ln s b p) p),.fn 45 []] _)]) 
def af9(s:lY)(b:List Iv)(p:Nat)(h:mR s)(hb:nJ s.jy b)(ig:8<=p)(gY:p<=512)(hn:qm s b p=true):gU 11 [kX s,im b,iP p] (bP false):=
 ak call11 func11 (af [.c (Xa s b p h hb ig gY hn),ai 17 ((11:Int)==0) aE]) 
def aga(s:lY)(b:List Iv)(p:Nat)(h:mR s)(hb:nJ s.jy b)(ig:8<=p)(gY:p<=512)(hn:qm s b p=false):gU 11 [kX s,im b,iP p] (bP (decide (0<lO (ub (ln s b p) p (s.jy-1))))):=by
 have p1:1<=p:= aC ;have p2:p<=4096:= aC ;have s1:=h.s1;have s4:=h.s4;have Bm:=BH h b p;have P5:=LO h hb p1 p2 (s.jy-1);exact ak call11 func11 (af [.c (Xg s b p h hb ig gY hn),ah 17 ((0:Int)==0) aE,.c (Ds (ub (ln s b p) p (s.jy-1)) P5)]) 
def AG(s:lY)(b:List Iv)(p:Nat)(h:mR s)(hb:nJ s.jy b)(ig:8<=p)(gY:p<=512):gU 10 [kX s,im b,iP (p:Int)] (bP (Ca s b p)):=by
 unfold Ca;cases hn:qm s b p with
 |true=>exact afd s b p h hb ig gY hn
 |false=>exact afe s b p h hb ig gY hn
def Ch(s:lY)(b:List Iv)(p:Nat)(h:mR s)(hb:nJ s.jy b)(ig:8<=p)(gY:p<=512):gU 11 [kX s,im b,iP (p:Int)] (bP (En s b p)):=by
 unfold En;cases hn:qm s b p with
 |true=>exact af9 s b p h hb ig gY hn
 |false=>exact aga s b p h hb ig gY hn
def ER{a b:Bool}(h:a=b):bP a=bP b:=h▸rfl
def RU{a b c d e f:Int}(ha:jY .i64 a)(hb:jY .i64 b)(hc:jY .i64 c)(hd:jY .i64 d)(he:jY .i64 e)(hf:jY .i64 f):
 prog.keyLits 10 74 [.int .i64 a,.int .i64 b,.int .i64 c,.int .i64 d,.int .i64 e,.int .i64 f]=some [.int .i64 a,.int .i64 b,.int .i64 c,.int .i64 d,.int .i64 e,.int .i64 f]:=by
 have c1:prog.cellsOf 74=6:= aF ;have c2:prog.cellsOf 3=1:= aF ;have c3:prog.cellsOf 72=2:= aF ;have r:prog.keyLits 9 72 [.int .i64 e,.int .i64 f]=some [.int .i64 e,.int .i64 f]:=by
  unfold Program.keyLits;rw[underlying72];simp[c3,c2,eU,yz he,yz hf]
 unfold Program.keyLits;rw[underlying74];simp[c1,c2,c3,eU,yz ha,yz hb,yz hc,yz hd,r]
def acR{a b c d e f a' b' c' d' e' f':Int}(ha:jY .i64 a)(hb:jY .i64 b)(hc:jY .i64 c)(hd:jY .i64 d)(he:jY .i64 e)(hf:jY .i64 f)
 (CW:jY .i64 a') (mo:jY .i64 b') (Jz:jY .i64 c') (zF:jY .i64 d') (he':jY .i64 e') (hf':jY .i64 f'):
 mA prog .eql 74 (.agg [iP a,iP b,iP c,iP d,iP e,iP f]) (.agg [iP a',iP b',iP c',iP d',iP e',iP f']) (.bool (decide (a=a'/\b=b'/\c=c'/\d=d'/\e=e'/\f=f'))):=
 acQ (RU ha hb hc hd he hf) (RU CW mo Jz zF he' hf') aF aF rfl
def Nj{a b:Nat}:0<=jZ a b↔b<=a:=by
 unfold jZ;split
 .simp;omega
 .split<;>simp<;>omega
def Sb(m n:Nat)(hl:(gV m).length<=1000)(hn:n<=65536):gU 246 [gW (gV m),iP (n:Int)] (gW (gV (m*2^n))):=
 D0 (kZ m) call246 (λA c w h _=>adM A c (gV m) n w h hl hn) λA c B w e w' h hB r=>by rw[jM]at r;exact rl B w e w' hB r
def adq(m n:Nat)(hl:(gV m).length<=3000)(hn:(gV n).length<=3000):gU 247 [gW (gV m),gW (gV n)] (gW (gV (m+n))):=
 yJ (kZ m) (kZ n) call247 (λA c B d w h k _=>adQ A B c d (gV m) (gV n) w h k hl hn) λB w e w' hB r=>by rw[jM,jM]at r;exact rl B w e w' hB r
def Sc(m n:Nat)(hl:(gV m).length<=3000)(hn:n<=m):gU 248 [gW (gV m),gW (gV n)] (gW (gV (m-n))):=
 yJ (kZ m) (kZ n) call248 (λA c B d w h k _=>adN A B c d (gV m) (gV n) w h k hl (lH hn) (by rw[jM,jM];exact hn)) λB w e w' hB r=>by rw[jM,jM]at r;exact rl B w e w' hB r
def adp(m n:Nat)(hl:(gV m).length<=3000)(hn:(gV n).length<=3000):gU 156 [gW (gV m),gW (gV n)] (iP (jZ m n)):=by
 refine yJ (kZ m) (kZ n) call156 (λA c B d w h k _=>adG A B c d (gV m) (gV n) w h k (vd _) (vd _) aC aC) ?_;rw[jM,jM];exact rv
def adW(a b:Dy)(ha:xD a)(hb:xD b):gU 172 [gZ a,gZ b] (gZ (iN a b)):=by
 obtain⟨ZV,ha2,ha3⟩:=ha;obtain⟨jW,mh,pT⟩:=hb;have ba:=zg ZV;have bb:=zg jW;obtain⟨k,hk⟩:∃ k,min a.e b.e=k:=⟨_,rfl⟩
 exact ak call172 func172 (.w (((gV a.m).length:Int)=0)
  (λk1=>by
   have a0:a.m=0:=rK.1 aC;exact ae [tB 11 (aU k1)]<|rQ (gZ b) (gZ (iN a b)) (by rw[show iN a b=b by unfold iN;rw[aZ a0]]))
  (λk1=>by
   have a0:a.m≠0:=λh=>k1 (by rw[rK.2 h];rfl)
   exact ae [tB 11 (aT k1)]<|.w (((gV b.m).length:Int)=0)
    (λk2=>by
     have b0:b.m=0:=rK.1 aC;exact ae [tB 16 (aU k2)]<|rQ (gZ a) (gZ (iN a b)) (by rw[show iN a b=a by unfold iN;rw[aY a0,aZ b0]]))
    (λk2=>by
     have b0:b.m≠0:=λh=>k2 (by rw[rK.2 h];rfl)
     have hX:(gV (a.m*2^((a.e-k).toNat))).length<=1400:=nA (by rw[qh a0];omega);have hY:(gV (b.m*2^((b.e-k).toNat))).length<=1400:=nA (by rw[qh b0];omega);have hP:=abo hX hY;have hM:(gV ((a.m*2^((a.e-k).toNat))-(b.m*2^((b.e-k).toNat)))).length<=1400:=bj (lH (eA _ _)) hX;have hN:(gV ((b.m*2^((b.e-k).toNat))-(a.m*2^((a.e-k).toNat)))).length<=1400:=bj (lH (eA _ _)) hY;exact ae [tB 16 (aT k2),.o 22 (aq (if b.e<a.e then b.e else a.e) k (by rw[<-hk];split<;>omega)),iu (a.e-k) aC,.o 28 (aq (a.e-k) ((a.e-k).toNat:Int) aC),ag [gW (gV a.m),iP ((a.e-k).toNat:Int)] (Sb _ _ aC aC),iu (b.e-k) aC,.o 35 (aq (b.e-k) ((b.e-k).toNat:Int) aC),ag [gW (gV b.m),iP ((b.e-k).toNat:Int)] (Sb _ _ aC aC)]<|.w (a.neg=b.neg)
      (λk3=>ae [tB 41 (aU k3),ag [gW (gV (a.m*2^((a.e-k).toNat))),gW (gV (b.m*2^((b.e-k).toNat)))] (adq _ _ aC aC),ag [bP a.neg,gW (gV ((a.m*2^((a.e-k).toNat))+(b.m*2^((b.e-k).toNat)))),iP k] (Le _ _ _ aC aC aC)]<|rQ (gZ (canon a.neg ((a.m*2^((a.e-k).toNat))+(b.m*2^((b.e-k).toNat))) k)) (gZ (iN a b)) (by have h:=afq (s:=a.neg) a0 b0 hk;rw[show(⟨a.neg,b.m,b.e⟩:Dy)=b by rw[k3]]at h;exact congrArg gZ h.symm))
      (λk3=>ae [tB 41 (aT k3),ag [gW (gV (a.m*2^((a.e-k).toNat))),gW (gV (b.m*2^((b.e-k).toNat)))] (adp _ _ aC aC)]<|.w (0<=(jZ (a.m*2^((a.e-k).toNat)) (b.m*2^((b.e-k).toNat))))
       (λk4=>by
        have hc:(b.m*2^((b.e-k).toNat))<=(a.m*2^((a.e-k).toNat)):=Nj.1 k4;exact ae [tB 52 (bh k4),ag [gW (gV (a.m*2^((a.e-k).toNat))),gW (gV (b.m*2^((b.e-k).toNat)))] (Sc _ _ aC aC),ag [bP a.neg,gW (gV ((a.m*2^((a.e-k).toNat))-(b.m*2^((b.e-k).toNat)))),iP k] (Le _ _ _ aC aC aC)]<|rQ (gZ (canon a.neg ((a.m*2^((a.e-k).toNat))-(b.m*2^((b.e-k).toNat))) k)) (gZ (iN a b)) (congrArg gZ (afo (s:=a.neg) (t:=b.neg) a0 b0 hk k3 hc).symm))
       (λk4=>by
        have hc:(a.m*2^((a.e-k).toNat))<(b.m*2^((b.e-k).toNat)):=Nat.lt_of_not_le λh=>k4 (Nj.2 h)
        exact ae [tB 52 (bg k4),ag [gW (gV (b.m*2^((b.e-k).toNat))),gW (gV (a.m*2^((a.e-k).toNat)))] (Sc _ _ aC aC),ag [bP b.neg,gW (gV ((b.m*2^((b.e-k).toNat))-(a.m*2^((a.e-k).toNat)))),iP k] (Le _ _ _ aC aC aC)]<|rQ (gZ (canon b.neg ((b.m*2^((b.e-k).toNat))-(a.m*2^((a.e-k).toNat))) k)) (gZ (iN a b)) (congrArg gZ (afp (s:=a.neg) (t:=b.neg) a0 b0 hk k3 hc).symm)))))) 
def Sv(a b:Dy)(ha:xD a)(hb:xD b):gU 97 [gZ a,gZ b] (iP (jj a b)):=by
 have hn:xD (jv b):=⟨hb.len,hb.lo,hb.hi⟩
 exact ak call97 func97 (ae [ag [gZ a] (Lf _),ag [gZ b] (Lf _)]<|.w ((Dy.iJ a)=(Dy.iJ b))
  (λk1=>ae [tB 13 (aW k1)]<|.w ((Dy.iJ a)=0)
   (λk2=>ae [tB 18 (aU k2)]<|rQ (iP 0) (iP (jj a b)) (by rw[A0,aY (by simpa using k1),aZ k2]))
   (λk2=>ae [tB 18 (aT k2),ag [gZ a] (GG _ ha),ag [gZ b] (GG _ hb)]<|.w ((Dy.ij a)=(Dy.ij b))
    (λk3=>ae [tB 23 (aW k3),ag [gZ b] (adP _),ag [gZ a,gZ (jv b)] (adW _ _ ha hn),ag [gZ (iN a (jv b))] (Lf _)]<|rQ (iP (Dy.iJ (iN a (jv b)))) (iP (jj a b)) (by rw[A0,aY (by simpa using k1),aY k2,aY (by simpa using k3)]))
    (λk3=>ae [tB 23 (aX k3),ag [gZ a] (GG _ ha),ag [gZ b] (GG _ hb)]<|.w ((decide ((Dy.ij a)<(Dy.ij b)))=(decide (0<(Dy.iJ a))))
     (λk4=>ae [tB 31 (aU k4)]<|rQ (iP (-1)) (iP (jj a b)) (by rw[A0,aY (by simpa using k1),aY k2,aZ k3,aZ (by simpa using k4)]))
     (λk4=>ae [tB 31 (aT k4)]<|rQ (iP 1) (iP (jj a b)) (by rw[A0,aY (by simpa using k1),aY k2,aZ k3,aY (by simpa using k4)])))))
  (λk1=>ae [tB 13 (aX k1)]<|.w ((Dy.iJ a)<(Dy.iJ b))
   (λk2=>ae [tB 16 (bh k2)]<|rQ (iP (-1)) (iP (jj a b)) (by rw[A0,aZ k1,aZ k2]))
   (λk2=>ae [tB 16 (bg k2)]<|rQ (iP 1) (iP (jj a b)) (by rw[A0,aZ k1,aY k2])))) 
def Rl(L:List Nat):((L.length:Int)=0)↔L=[]:=by rw[<-ahh];omega
def zB(d:RD):Bool:=!d.neg&&decide (d.L=[])&&(d.e==0)
def Ey{d:RD}:zB d=true↔d.Zero:=by simp[zB,RD.Zero,and_assoc]
def D6(d:RD):gU 95 [qJ d] (bP (zB d)):=
 ak call95 func95 (.w (d.neg=true)
  (λk1=>ae [tB 4 k1]<|rQ (bP false) (bP (zB d)) (by simp[zB,k1]))
  (λk1=>ae [tB 4 (aV k1)]<|.w ((d.L.length:Int)=0)
   (λk2=>ae [tB 10 (aU k2)]<|rQ (bP (d.e==0)) (bP (zB d)) (by simp[zB,k1,show d.L=[]from(Rl _).1 k2]))
   (λk2=>ae [tB 10 (aT k2)]<|rQ (bP false) (bP (zB d)) (by simp[zB,k1,show ¬d.L=[]from λq=>k2 ((Rl _).2 q)])))) 
def Gx(x:RI)(g:x.mz):gU 49 [wh x] (bP (nc x)):=by
 have ga:=g.lo;have gb:=g.hi;by_cases ha:x.all=true
 .have nb:∀ q:x.all=false,False:=λq=>by rw[ha]at q;cases q
  by_cases h1:x.lo.Zero
  .by_cases h2:x.hi.Zero
   .rw [tM.2 (.inl ⟨ha,h1,h2⟩)];exact ak call49 func49 (af [ah 4 x.all ha,ag [qJ x.lo] (D6 _),ah 7 (zB x.lo) (Ey.2 h1),ag [qJ x.hi] (D6 _),ah 11 (zB x.hi) (Ey.2 h2)]) 
   .have e:nc x=false:=by simpa using λq=>(tM.1 q).elim (λq=>h2 q.2.2) λq=>nb q.1
    rw[e];exact ak call49 func49 (af [ah 4 x.all ha,ag [qJ x.lo] (D6 _),ah 7 (zB x.lo) (Ey.2 h1),ag [qJ x.hi] (D6 _),ai 11 (zB x.hi) (aV λq=>h2 (Ey.1 q))]) 
  .have e:nc x=false:=by simpa using λq=>(tM.1 q).elim (λq=>h1 q.2.1) λq=>nb q.1
   rw[e];exact ak call49 func49 (af [ah 4 x.all ha,ag [qJ x.lo] (D6 _),ai 7 (zB x.lo) (aV λq=>h1 (Ey.1 q))]) 
 .replace ha:x.all=false:=by simpa using ha
  by_cases h1:x.lo.Ok
  .by_cases h2:x.hi.Ok
   .have v1:=h1.valid;have v2:=h2.valid;have e1:wh x=ia x.iv:=by rw[<-Kf,show x.iv.raw=x by show RI.mk x.lo.dy.raw x.hi.dy.raw x.all=x;rw[h1.eq ga,h2.eq gb]]
    rw[e1];by_cases h3:jj x.lo.dy x.hi.dy<=0
    .rw [tM.2 (.inr ⟨ha,h1,h2,h3⟩)];exact ak call49 func49 (af [ai 4 x.iv.all ha,ag [gZ x.iv.lo] (GI _ aD),ag [gZ x.iv.hi] (GI _ aD),.c (Sv x.iv.lo x.iv.hi v1.Gj v2.Gj),tB 27 (bh h3)]) 
    .have e:nc x=false:=by simpa using λq=>(tM.1 q).elim (λq=>by rw[ha]at q;exact Bool.noConfusion q.1) λq=>h3 q.2.2.2
     rw[e];exact ak call49 func49 (af [ai 4 x.iv.all ha,ag [gZ x.iv.lo] (GI _ aD),ag [gZ x.iv.hi] (GI _ aD),.c (Sv x.iv.lo x.iv.hi v1.Gj v2.Gj),tB 27 (bg h3)]) 
   .have e:nc x=false:=by simpa using λq=>(tM.1 q).elim (λq=>by rw[ha]at q;exact Bool.noConfusion q.1) λq=>h2 q.2.2.1
    rw[e];exact ak call49 func49 (af [ai 4 x.all ha,ag [qJ x.lo] (Lg _ aD _ B4),ah 15 (GO x.lo) (B4.2 h1),ag [qJ x.hi] (Lg _ aD _ B4),ai 19 (GO x.hi) (aV λq=>h2 (B4.1 q))]) 
  .have e:nc x=false:=by simpa using λq=>(tM.1 q).elim (λq=>by rw[ha]at q;exact Bool.noConfusion q.1) λq=>h1 q.2.1
   rw[e];exact ak call49 func49 (af [ai 4 x.all ha,ag [qJ x.lo] (Lg _ aD _ B4),ai 15 (GO x.lo) (aV λq=>h1 (B4.1 q))]) 
def qb(d:RD):Bool:=decide (20<d.L.length)||(decide (300<d.e)||decide (d.e < -300))
def tH(x:RI):Bool:=qb x.lo||qb x.hi
def wi(l:List RI):Bool:=decide (l.length<=8) && !((List.range l.length).any λi=>tH (l.getD i jR))
end Go.Proofs.YtkjkcjhacddojaaGreatDoor
namespace Go.Proofs.YtkjkcjhacddojaaGreatDoor.Fp
end Go.Proofs.YtkjkcjhacddojaaGreatDoor.Fp
namespace Go.Proofs.YtkjkcjhacddojaaGreatDoor
open Go.RowKit Fp Pu
section
variable {s:lY} {x x' b b':List Iv} {h h':Dy} {p n:Nat}
end
end Go.Proofs.YtkjkcjhacddojaaGreatDoor
namespace Go.Proofs.YtkjkcjhacddojaaGreatDoor.Fp
end Go.Proofs.YtkjkcjhacddojaaGreatDoor.Fp
namespace Go.Proofs.YtkjkcjhacddojaaGreatDoor
open Go.RowKit Fp Pu
end Go.Proofs.YtkjkcjhacddojaaGreatDoor
namespace Go.Proofs.YtkjkcjhacddojaaGreatDoor.Fp
end Go.Proofs.YtkjkcjhacddojaaGreatDoor.Fp
namespace Go.Proofs.YtkjkcjhacddojaaGreatDoor
open Go.RowKit Fp Pu
def adr(d:Dy):gU 84 [gZ d] (ia (kK d)):=
 ak call84 func84 (.nil) 
def Vl{n:Int}{b:List RI}(gb:∀ i,(b.getD i jR).mz)(h:EV n b=true):nJ n.toNat (b.map RI.iv)/\pA b=im (b.map RI.iv):=by
 unfold EV at h;rw[bS,cI]at h;obtain⟨b1,b2⟩:=h;have pa:∀ i,i<b.length->(b.getD i jR).Ok/\(b.getD i jR).all=false:=λi hi=>by
  have:=bY.1 b2 i (cz.2 hi);unfold Ap at this;rw[bS]at this;exact⟨tM.1 this.1,by simpa using this.2⟩
 have kD:∀ i,i<b.length->(b.map RI.iv).getD i ie=(b.getD i jR).iv:=λi hi=>by simp[bc,hi]
 refine⟨⟨by rw[dK];omega,λi hi=>?_⟩,?_⟩
 .have hi:i<b.length:=by simpa using hi
  rw[kD i hi];exact⟨(pa i hi).1.valid,(pa i hi).2⟩
 .rw [<-QE];congr 1;apply fQ;intro i;unfold we;rw[cD,cD];by_cases hi:i<b.length
  .have h1:=(pa i hi).1;have g1:=gb i;rw[bt hi];rw[bc,bt hi]at h1 g1;exact congrArg some (RI.Ok.eq (x:=b[i]) h1 g1).symm
  .rw [ct aC];rfl
def Zq{x:List RI}(gx0:∀ y,y ∈ x->y.mz):∀ i,(x.getD i jR).mz:=λi=>by
 by_cases hi:i<x.length
 .rw [bc,bt hi];exact gx0 _ (ck hi)
 .rw [bc,ct aC];exact Lv
end Go.Proofs.YtkjkcjhacddojaaGreatDoor
namespace Go.Proofs.YtkjkcjhacddojaaGreatDoor.Fp
end Go.Proofs.YtkjkcjhacddojaaGreatDoor.Fp
namespace Go.Proofs.YtkjkcjhacddojaaGreatDoor
open Go.RowKit Fp Pu
def Xv(n d y:Nat):Nat:=n*2^y/d
section
variable {a n d l K:Nat}
end
section
variable {n d p K:Nat}
variable (hn:1<=n) (kz:n<=1073741824) (hd:1<=d) (hp:8<=p) (gY:p<=512) (hK:K<p+31) (hb:p<=ib (Xv n d K))
include kz hd hp gY hK hb
end
section
variable {n d p K:Nat}
end
def WR{o:iM}{v:Iv}(hv:v.all=false)(hk:o.kind=1)(l c:List Iv)(p:Nat):pP o v l c p=iF 0:=by
 unfold pP;rw[aY (by rw[hv];decide)];unfold oh;rw[aZ hk]
def He(ops:List iM)(xs:List Iv)(p k:Nat):∀ m,∀ i,i<xs.length+k->(iI ops xs p (k+m)).getD i ie=(iI ops xs p k).getD i ie
 | 0,_,_=>rfl
 |m+1,i,hi=>by
  rw[<-He ops xs p k m i hi];show(iI ops xs p (k+m)++[_]).getD i ie=_;rw[bc,dm (by rw[Cj];omega),<-bc]
inductive kC where
 |num (n:Int)
 |var (y:Bool)
 |un (k n:Nat) (e:kC)
 |iy (k:Nat) (a b:kC)
def iR:kC->List E
 | .num n=>[iP 1,iP n,iP 1,.v (.string ⟨#[]⟩),iP 0,.v (.slice none 0 0)]
 | .var true=>[iP 2,iP 0,iP 0,.v (.string ⟨#[121]⟩),iP 0,.v (.slice none 0 0)]
 | .var false=>[iP 2,iP 0,iP 0,.v (.string ⟨#[120]⟩),iP 0,.v (.slice none 0 0)]
 | .un k n e=>[iP (k:Int),iP 0,iP 0,.v (.string ⟨#[]⟩),iP (n:Int),.sl true 1 6 λi j=>(iR e).getD (i*6+j) (.v (.bool false))]
 | .iy k a b=>[iP (k:Int),iP 0,iP 0,.v (.string ⟨#[]⟩),iP 0,.sl true 2 6 λi j=>(iR a++iR b).getD (i*6+j) (.v (.bool false))]
def iY(e:kC):E:=.agg (iR e)
def mF:E:=.sl true 2 1 λi j=>[.v (.string ⟨#[120]⟩),.v (.string ⟨#[121]⟩)].getD (i*1+j) (.v (.bool false))
def mc(q o:iM):Bool:=decide ((q.kind:Int)=o.kind/\(q.a:Int)=o.a/\(q.b:Int)=o.b/\(q.n:Int)=o.n/\q.cn=o.cn/\q.cd=o.cd)
def acO{q o:iM}(h:mc q o=true):q=o:=by
 obtain⟨h1,h2,h3,h4,h5,h6⟩:=cQ h;cases q;cases o;simp only[Int.natCast_inj]at h1 h2 h3 h4;subst h1 h2 h3 h4 h5 h6;rfl
def wO(l:List iM)(o:iM):Nat->Option Nat
 | 0=>none
 |k+1=>match wO l o k with
  |some i=>some i
  |none=>if mc (l.getD k iw) o then some k else none
def nn(t:jI)(o:iM):jI×Nat:=match wO t.ops o t.ops.length with
 |some i=>(t,t.iq+i)
 |none=>({ t with ops:=t.ops++[o] },t.iq+t.ops.length)
def ic(t:jI):kC->jI×Nat
 | .num n=>nn t ⟨1,0,0,0,n,1⟩
 | .var y=>(t,if y then 1 else 0)
 | .un k n e=>nn (ic t e).1 ⟨k,(ic t e).2,0,n,0,0⟩
 | .iy k a b=>nn (ic (ic t a).1 b).1 ⟨k,(ic t a).2,(ic (ic t a).1 b).2,0,0,0⟩
def I8{l:List iM}{o:iM}:∀ {k:Nat},wO l o k=none->∀ i,i<k->mc (l.getD i iw) o=false
 | 0,_,i,hi=>absurd hi (bE i)
 |k+1,h,i,hi=>by
  unfold wO at h;split at h
  .cases h
  .rename_i h1;split at h
   .cases h
   .rename_i h2;by_cases e:i=k
    .subst e;exact aV h2
    .exact I8 h1 i aC 
def Fq{l:List iM}{o:iM}{N:Nat}:∀ {k:Nat},wO l o k=some N->N<k/\mc (l.getD N iw) o=true/\∀ i,i<N->mc (l.getD i iw) o=false
 | 0,h=>by cases h
 |k+1,h=>by
  unfold wO at h;split at h
  .rename_i i h1;cases h;obtain⟨a,b,c⟩:=Fq h1;exact⟨aC,b,c⟩
  .rename_i h1;split at h
   .rename_i h2;cases h;exact⟨aC,h2,I8 h1⟩
   .cases h
structure sV(o:iM):Prop where
 k:o.kind<=1000
 a:o.a<=1000
 b:o.b<=1000
 n:o.n<=1000
 c1:-1099511627776<=o.cn
 c2:o.cn<=1099511627776
 d1:-1099511627776<=o.cd
 d2:o.cd<=1099511627776
def xn(q o:iM)(hq:sV q)(ho:sV o):mA prog .eql 74 (oM q) (oM o) (.bool (mc q o)):=by
 obtain⟨a1,a2,a3,a4,a5,a6,a7,a8⟩:=hq;obtain⟨b1,b2,b3,b4,b5,b6,b7,b8⟩:=ho;exact acR aQ aQ aQ aQ aQ aQ aQ aQ aQ aQ aQ aQ 
def KX{l:List iM}{o:iM}{p:E}(hp:∀ j,j<6->p.lW 0 j=(xo o).getD j .any):E.le (.sl true (0+l.length+1) 6 λi j=>if i<0+l.length then(λi_ j_=>if i_<0 then(λi_ j_=>([]:List E).getD (i_*6+j_) (.v (.bool false))) i_ j_ else(E.lW (kB l)) (i_-0) j_) i j else(E.lW p) (i-(0+l.length)) j) (kB (l++[o])):=by
 have e:kB (l++[o]) = .sl true (0+l.length+1) 6 λi j=>(xo ((l++[o]).getD i iw)).getD j .any:=by unfold kB;rw[bX,bW];rfl
 rw[e];refine .sl λi j hi hj=>⟨.iH ?_,?_⟩
 .rw [bW]at *
  by_cases h:i<l.length
  .rw [aZ h];show(xo (l.getD i iw)).getD j .any=(xo ((l++[o]).getD i iw)).getD j .any;congr 2;simp[bc,dm h]
  .have lR:i=l.length:= aC ;subst lR;rw[aY h,dx,hp j hj];congr 2;simp[bc]
 .unfold xo;rcases j with _|_|_|_|_|_|j
  all_goals first|rfl|omega
def kC.sz:kC->Nat
 | .num _=>1
 | .var _=>1
 | .un _ _ e=>e.sz+1
 | .iy _ a b=>a.sz+b.sz+1
def kC.Ok:kC->Prop
 | .num n=>-1073741824<=n/\n<=1073741824
 | .var _=>True
 | .un k n e=>7<=k/\k<=8/\(if k=8 then n<=16 else n=0)/\e.Ok
 | .iy k a b=>3<=k/\k<=6/\a.Ok/\b.Ok
structure nK(t:jI):Prop where
 iq:t.iq=2
 op:∀ i,i<t.ops.length->ng (t.ops.getD i iw) (t.iq+i)
def nK.sm{t:jI}(h:nK t)(hl:t.ops.length<=900)(i:Nat)(hi:i<t.ops.length):sV (t.ops.getD i iw):=by
 have ho:=h.op i hi;have h2:=h.iq;obtain⟨k3,Af,oa,ob,on,oc⟩:=ho;refine⟨aC,?_,?_,?_,?_,?_,?_,?_⟩
 .split at oa<;>omega
 .split at ob<;>omega
 .split at on<;>omega
 all_goals
  split at oc
  .have:=Gz oc;omega
  .omega
def nK.add{t:jI}(h:nK t){o:iM}(ho:ng o (t.iq+t.ops.length)):nK (nn t o).1/\(nn t o).2<(nn t o).1.iq+(nn t o).1.ops.length/\(nn t o).1.ops.length<=t.ops.length+1/\t.ops.length<=(nn t o).1.ops.length/\(nn t o).1.iC=t.iC:=by
 unfold nn;split
 .rename_i i hi;obtain⟨q,_⟩:=Fq hi;exact⟨h,by show t.iq+i<t.iq+t.ops.length;omega,by show t.ops.length<=_;omega,bd _,rfl⟩
 .refine ⟨⟨h.iq,λi hi=>?_⟩,?_,?_,?_,rfl⟩
  .have hi:i<(t.ops++[o]).length:=hi;show ng ((t.ops++[o]).getD i iw) (t.iq+i);rw[bX,fk]at hi;by_cases e:i<t.ops.length
   .rw [bc,dm e,<-bc];exact h.op i e
   .obtain rfl:i=t.ops.length:= aC ;simpa[bc]using ho
  .show t.iq+t.ops.length<t.iq+(t.ops++[o]).length;simp
  .show (t.ops++[o]).length<=_;simp
  .show _<=(t.ops++[o]).length;simp
def Se{n:Int}(h1:-1073741824<=n)(h2:n<=1073741824):oO n 1=true:=by
 unfold oO;simp[h1,h2]
def acw{n:Int}{m:Nat}(h1:-1073741824<=n)(h2:n<=1073741824):ng ⟨1,0,0,0,n,1⟩ m:=by
 refine⟨.inl rfl,by show 1<=13;decide,?_,?_,?_,?_⟩
 .rw [aZ rfl]
 .rw [aY (by show ¬(3<=1/\1<=6);decide)]
 .rw [aY (by show ¬1=8;decide)]
 .rw [aZ rfl];exact Se h1 h2
def af7{k n a m:Nat}(h7:7<=k)(h8:k<=8)(hn:if k=8 then n<=16 else n=0)(ha:a<m):ng ⟨k,a,0,n,0,0⟩ m:=by
 refine⟨.inr (by show 3<=k;omega),by show k<=13;omega,?_,?_,hn,?_⟩
 .rw [aY (by show ¬k=1;omega)];exact ha
 .rw [aY (by show ¬(3<=k/\k<=6);omega)]
 .rw [aY (by show ¬k=1;omega)];exact⟨rfl,rfl⟩
def Vn{k a b m:Nat}(h3:3<=k)(h6:k<=6)(ha:a<m)(hb:b<m):ng ⟨k,a,b,0,0,0⟩ m:=by
 refine⟨.inr h3,by show k<=13;omega,?_,?_,?_,?_⟩
 .rw [aY (by show ¬k=1;omega)];exact ha
 .rw [aZ ⟨h3,h6⟩];exact hb
 .rw [aY (by show ¬k=8;omega)]
 .rw [aY (by show ¬k=1;omega)];exact⟨rfl,rfl⟩
def uV:∀ (e:kC) {t:jI},e.Ok->nK t->nK (ic t e).1/\(ic t e).2<(ic t e).1.iq+(ic t e).1.ops.length/\(ic t e).1.ops.length<=t.ops.length+e.sz/\t.ops.length<=(ic t e).1.ops.length/\(ic t e).1.iC=t.iC
 | .num n,t,h,k=>k.add (acw h.1 h.2)
 | .var y,t,_,k=>by
  have:=k.iq;refine⟨k,?_,?_,?_,rfl⟩
  .show (if y then 1 else 0)<t.iq+t.ops.length;cases y<;>simp<;>omega
  .show t.ops.length<=t.ops.length+1;omega
  .show t.ops.length<=t.ops.length;omega
 | .un c n e,t,⟨h7,h8,hn,he⟩,k=>by
  obtain⟨k1,k2,k3,k4,k5⟩:=uV e he k;obtain⟨q1,q2,q3,q4,q5⟩:=k1.add (af7 (n:=n) h7 h8 hn k2);exact⟨q1,q2,by show(nn _ _).1.ops.length<=t.ops.length+(e.sz+1);omega,bj k4 q4,q5.trans k5⟩
 | .iy c a b,t,⟨h3,h6,ha,hb⟩,k=>by
  obtain⟨k1,k2,k3,k4,k5⟩:=uV a ha k;obtain⟨l1,l2,l3,l4,l5⟩:=uV b hb k1;have e1:=k1.iq;have e2:=l1.iq;obtain⟨q1,q2,q3,q4,q5⟩:=l1.add (Vn h3 h6 (show(ic t a).2<_ by omega) l2);exact⟨q1,q2,by show(nn _ _).1.ops.length<=t.ops.length+(a.sz+b.sz+1);omega,bj k4 (bj l4 q4),q5.trans (l5.trans k5)⟩
def jU:jI:=⟨2,[],[]⟩
def qd(a b:kC):lY:=⟨⟨2,(ic (ic jU a).1 b).1.ops,[(ic jU a).2,(ic (ic jU a).1 b).2]⟩,2,[]⟩
def Ts{a b:kC}(ha:a.Ok)(hb:b.Ok)(hs:a.sz+b.sz<=200):mR (qd a b):=by
 have k:nK jU:=⟨rfl,λi hi=>absurd hi (bE i)⟩
 obtain⟨k1,k2,k3,k4,k5⟩:=uV a ha k;obtain⟨l1,l2,l3,l4,l5⟩:=uV b hb k1;have e1:=k1.iq;have e2:=l1.iq;have k3':(ic jU a).1.ops.length<=0+a.sz:=k3;refine⟨⟨by show 2<=8;decide,by show(ic (ic jU a).1 b).1.ops.length<=200;omega,by show 2<=200;decide,λi hi=>?_,λi hi=>?_⟩,by show 1<=2;decide,by show 2<=4;decide,rfl,rfl,by show 0<=4;decide,λi hi=>absurd hi (bE i)⟩
 .have:=l1.op i hi;rw[e2]at this;exact this
 .have hi:i<2:=hi;show[(ic jU a).2,(ic (ic jU a).1 b).2].getD i 0<2+(ic (ic jU a).1 b).1.ops.length;obtain rfl|rfl:i=0\/i=1:= aC 
  .show (ic jU a).2<_;omega
  .show (ic (ic jU a).1 b).2<_;omega
def RJ(t:jI)(n:Int)(N:Nat)(x:Nat):PS:=⟨88,true,[(12,.e (iP x)),(8,.box 8 0),(6,.box 6 0),(3,.box 3 0)],[(8,.cells 74 [iP 1,iP 0,iP 0,iP 0,iP n,iP 1]),(6,.cells 25 [iP 0,.v (.slice none 0 0),.v (.slice none 0 0)]),(3,.cells 25 [iP t.iq,kB t.ops,kJ t.iC])]⟩
def RH(t:jI)(n:Int)(x:Nat):PS:=⟨88,true,[(12,.e (iP x)),(8,.box 8 0),(6,.box 6 0),(3,.box 3 0)],[(8,.cells 74 [iP 1,iP 0,iP 0,iP 0,iP n,iP 1]),(6,.cells 25 [iP 0,.v (.slice none 0 0),.v (.slice none 0 0)]),(3,.cells 25 [iP t.iq,kB t.ops,kJ t.iC])]⟩
def RL(t:jI)(k n:Nat)(e:kC)(N:Nat)(x:Nat):PS:=⟨88,true,[(12,.e (iP x)),(8,.box 8 0),(6,.box 6 0),(3,.box 3 0)],[(8,.cells 74 [iP k,iP (((ic t e).2:Nat):Int),iP 0,iP n,iP 0,iP 0]),(3,.cells 25 [iP (((ic t e).1).iq:Int),kB (((ic t e).1).ops),kJ (((ic t e).1).iC)]),(6,.cells 25 [iP 0,.v (.slice none 0 0),.v (.slice none 0 0)])]⟩
def RK(t:jI)(k n:Nat)(e:kC)(x:Nat):PS:=⟨88,true,[(12,.e (iP x)),(8,.box 8 0),(6,.box 6 0),(3,.box 3 0)],[(8,.cells 74 [iP k,iP (((ic t e).2:Nat):Int),iP 0,iP n,iP 0,iP 0]),(3,.cells 25 [iP (((ic t e).1).iq:Int),kB (((ic t e).1).ops),kJ (((ic t e).1).iC)]),(6,.cells 25 [iP 0,.v (.slice none 0 0),.v (.slice none 0 0)])]⟩
def RG(t:jI)(k:Nat)(a b:kC)(N:Nat)(x:Nat):PS:=⟨88,true,[(12,.e (iP x)),(8,.box 8 0),(6,.box 6 0),(3,.box 3 0)],[(8,.cells 74 [iP k,iP (((ic t a).2:Nat):Int),iP (((ic (ic t a).1 b).2:Nat):Int),iP 0,iP 0,iP 0]),(3,.cells 25 [iP (((ic (ic t a).1 b).1).iq:Int),kB (((ic (ic t a).1 b).1).ops),kJ (((ic (ic t a).1 b).1).iC)]),(6,.cells 25 [iP 0,.v (.slice none 0 0),.v (.slice none 0 0)])]⟩
def RF(t:jI)(k:Nat)(a b:kC)(x:Nat):PS:=⟨88,true,[(12,.e (iP x)),(8,.box 8 0),(6,.box 6 0),(3,.box 3 0)],[(8,.cells 74 [iP k,iP (((ic t a).2:Nat):Int),iP (((ic (ic t a).1 b).2:Nat):Int),iP 0,iP 0,iP 0]),(3,.cells 25 [iP (((ic (ic t a).1 b).1).iq:Int),kB (((ic (ic t a).1 b).1).ops),kJ (((ic (ic t a).1 b).1).iC)]),(6,.cells 25 [iP 0,.v (.slice none 0 0),.v (.slice none 0 0)])]⟩
def afk:((⟨#[120]⟩:ByteArray).toList==(⟨#[121]⟩:ByteArray).toList)=false:= aL 
def ac6 : gU 178 [mF,.v (.string ⟨#[120]⟩)] (iP 0):=
 ak call178 func178 (af [.u 4,ah 9 (decide ((0:Int)<2)) aE,iX 0 2 aC,.g (KS (beq_self_eq_true _):mA prog .eql 9 (.v (.string ⟨#[120]⟩)) (.v (.string ⟨#[120]⟩)) (.bool true))]) 
def ac7 : gU 178 [mF,.v (.string ⟨#[121]⟩)] (iP 1):=
 ak call178 func178 (af [.u 4,ah 9 (decide ((0:Int)<2)) aE,iX 0 2 aC,.g (KS afk:mA prog .eql 9 (.v (.string ⟨#[120]⟩)) (.v (.string ⟨#[121]⟩)) (.bool false)),iu (0+1) aC,ah 9 (decide (((0+1):Int)<2)) aE,iX (0+1) 2 aC,.g (KS (beq_self_eq_true _):mA prog .eql 9 (.v (.string ⟨#[121]⟩)) (.v (.string ⟨#[121]⟩)) (.bool true))]) 
abbrev wM(e:kC):E:=.sl true 1 6 λi j=>(iR e).getD (i*6+j) (.v (.bool false))
abbrev lG(a b:kC):E:=.sl true 2 6 λi j=>(iR a++iR b).getD (i*6+j) (.v (.bool false))
def Fm(e:kC):(iR e).length=6:=by
 cases e with
 |var y=>cases y<;>rfl
 |_=>rfl
def GU{l:List E}(h:l.length=6):∃ a b c d e f,l=[a,b,c,d,e,f]:=by
 rcases l with _|⟨a,_|⟨b,_|⟨c,_|⟨d,_|⟨e,_|⟨f,_|⟨g,l⟩⟩⟩⟩⟩⟩⟩<;>first|exact⟨_,_,_,_,_,_,rfl⟩|(simp at h;done)|(simp at h;omega)
def Oa(e:kC):E.agg [(iR e).getD (0*6+0) (.v (.bool false)),(iR e).getD (0*6+1) (.v (.bool false)),(iR e).getD (0*6+2) (.v (.bool false)),(iR e).getD (0*6+3) (.v (.bool false)),(iR e).getD (0*6+4) (.v (.bool false)),(iR e).getD (0*6+5) (.v (.bool false))]=iY e:=by
 unfold iY;obtain⟨a,b,c,d,e,f,h⟩:=GU (Fm e);rw[h];rfl
def I1(a b:kC):E.agg [(iR a++iR b).getD (0*6+0) (.v (.bool false)),(iR a++iR b).getD (0*6+1) (.v (.bool false)),(iR a++iR b).getD (0*6+2) (.v (.bool false)),(iR a++iR b).getD (0*6+3) (.v (.bool false)),(iR a++iR b).getD (0*6+4) (.v (.bool false)),(iR a++iR b).getD (0*6+5) (.v (.bool false))]=iY a:=by
 unfold iY;obtain⟨a,b,c,d,e,f,h⟩:=GU (Fm a);rw[h];rfl
def I2(a b:kC):E.agg [(iR a++iR b).getD (1*6+0) (.v (.bool false)),(iR a++iR b).getD (1*6+1) (.v (.bool false)),(iR a++iR b).getD (1*6+2) (.v (.bool false)),(iR a++iR b).getD (1*6+3) (.v (.bool false)),(iR a++iR b).getD (1*6+4) (.v (.bool false)),(iR a++iR b).getD (1*6+5) (.v (.bool false))]=iY b:=by
 unfold iY;obtain⟨a',b',c',d',e',f',h'⟩:=GU (Fm b);obtain⟨a,b,c,d,e,f,h⟩:=GU (Fm a);rw[h,h'];rfl
def acE(t:jI)(ht:nK t):gU 106 [kn t,iY (.var true),mF] (.ik [kn t,iP 1]):=
 ak call106 func106 (af [ah 15 ((2:Int)==2) aE,.c ac7]) 
def acD(t:jI)(ht:nK t):gU 106 [kn t,iY (.var false),mF] (.ik [kn t,iP 0]):=
 ak call106 func106 (af [ah 15 ((2:Int)==2) aE,.c ac6]) 
def acA(t:jI)(ht:nK t)(n:Int)(he:(kC.num n).Ok)(hu:nK t)(hl:t.ops.length<=800)(nQ:sV (iM.mk 1 0 0 0 n 1))(N:Nat)(oF:N<t.ops.length)(jK:∀ i,i<N->mc (t.ops.getD i iw) (iM.mk 1 0 0 0 n 1)=false)(hN:mc (t.ops.getD N iw) (iM.mk 1 0 0 0 n 1)=true):gU 106 [kn t,iY (.num n),mF] (.ik [kn t,iP ((t.iq+N:Nat):Int)]):=by
 have rH:=hu.sm aC;have Dh:=hu.iq;exact ak call106 func106 (af [ai 15 ((1:Int)==2) aE,.u 4,ai 32 (decide ((0:Int)<0)) aE,.s (Sp.kY (RJ t n N) 0 N aC (λx hx mZ=>by
    have pL:=rH x aC;exact jg (af [tT 57 ((x:Int)<t.ops.length) aC,iX (x:Int) (t.ops.length) aC,.g (xn _ (iM.mk 1 0 0 0 n 1) pL nQ:mA prog .eql 74 (oM (t.ops.getD x iw)) (.agg [iP 1,iP 0,iP 0,iP 0,iP n,iP 1]) (.bool (mc (t.ops.getD x iw) (iM.mk 1 0 0 0 n 1)))),ai 66 (mc (t.ops.getD x iw) (iM.mk 1 0 0 0 n 1)) (jK x aC),iu ((x:Int)+1) aC]) aF)
  (λhx=>by
    have pL:=rH N aC;exact jg (af [tT 57 ((N:Int)<t.ops.length) aC,iX (N:Int) (t.ops.length) aC,.g (xn _ (iM.mk 1 0 0 0 n 1) pL nQ:mA prog .eql 74 (oM (t.ops.getD N iw)) (.agg [iP 1,iP 0,iP 0,iP 0,iP n,iP 1]) (.bool (mc (t.ops.getD N iw) (iM.mk 1 0 0 0 n 1)))),ah 66 (mc (t.ops.getD N iw) (iM.mk 1 0 0 0 n 1)) hN,iu ((t.iq:Int)+N) aC]) aF) aI:kU 13 f106 (RJ t n N 0) .ret ⟨88,true,[(7,.e (iP ((t.iq+N:Nat):Int))),(6,.box 6 0)],[(6,.cells 25 [iP t.iq,kB t.ops,kJ t.iC])]⟩) .nil]) 
def acz(t:jI)(ht:nK t)(n:Int)(he:(kC.num n).Ok)(hu:nK t)(hl:t.ops.length<=800)(nQ:sV (iM.mk 1 0 0 0 n 1))(jK:∀ i,i<t.ops.length->mc (t.ops.getD i iw) (iM.mk 1 0 0 0 n 1)=false):gU 106 [kn t,iY (.num n),mF] (.ik [kn { t with ops:=t.ops++[iM.mk 1 0 0 0 n 1] },iP ((t.iq+t.ops.length:Nat):Int)]):=by
 have rH:=hu.sm aC;have Dh:=hu.iq;have mD:(t.ops++[iM.mk 1 0 0 0 n 1]).length=t.ops.length+1:=by rw[bX];rfl
 exact ak call106 func106 (af [ai 15 ((1:Int)==2) aE,.u 4,ai 32 (decide ((0:Int)<0)) aE,.s (Sp.kY (RH t n) 0 t.ops.length aC (λx hx mZ=>by
    have pL:=rH x aC;exact jg (af [tT 57 ((x:Int)<t.ops.length) aC,iX (x:Int) (t.ops.length) aC,.g (xn _ (iM.mk 1 0 0 0 n 1) pL nQ:mA prog .eql 74 (oM (t.ops.getD x iw)) (.agg [iP 1,iP 0,iP 0,iP 0,iP n,iP 1]) (.bool (mc (t.ops.getD x iw) (iM.mk 1 0 0 0 n 1)))),ai 66 (mc (t.ops.getD x iw) (iM.mk 1 0 0 0 n 1)) (jK x aC),iu ((x:Int)+1) aC]) aF)
  (λhx=>by
    exact jg (af [tF 57 ((t.ops.length:Int)<t.ops.length) aC]) aF) aI:kU 13 f106 (RH t n 0) (.exit 2) ⟨88,true,[(8,.box 8 0),(6,.box 6 0),(3,.box 3 0)],[(8,.cells 74 [iP 1,iP 0,iP 0,iP 0,iP n,iP 1]),(6,.cells 25 [iP 0,.v (.slice none 0 0),.v (.slice none 0 0)]),(3,.cells 25 [iP t.iq,kB t.ops,kJ t.iC])]⟩) .nil,
  .bo,.a (aC:(0+t.ops.length)*48<=140737488355328),.o 77 (.refl _:aj (.sl true 1 6 λi_ j_=>[iP 1,iP 0,iP 0,iP 0,iP n,iP 1].getD (i_*6+j_) (.v (.bool false))) (.sl true 1 6 λi_ j_=>[iP 1,iP 0,iP 0,iP 0,iP n,iP 1].getD (i_*6+j_) (.v (.bool false)))),
  .bo,.a (aC:((0+t.ops.length)+1)*48<=140737488355328),.o 78 (.e (KX λj hj=>by rcases j with _|_|_|_|_|_|j<;>first|rfl|omega):aj (.sl true ((0+t.ops.length)+1) 6 (λi_ j_=>if i_<(0+t.ops.length)then(λi_ j_=>if i_<0 then(λi_ j_=>([]:List E).getD (i_*6+j_) (.v (.bool false))) i_ j_ else(E.lW (kB t.ops)) (i_-0) j_) i_ j_ else(E.lW (.sl true 1 6 λi_ j_=>[iP 1,iP 0,iP 0,iP 0,iP n,iP 1].getD (i_*6+j_) (.v (.bool false)))) (i_-(0+t.ops.length)) j_)) (kB (t.ops++[iM.mk 1 0 0 0 n 1]))),
  iu ((t.iq:Int)+((t.ops++[iM.mk 1 0 0 0 n 1]).length:Int)) aC,iu (((t.iq+(t.ops++[iM.mk 1 0 0 0 n 1]).length:Nat):Int)-1) aC,.o 87 (aq (((t.iq+(t.ops++[iM.mk 1 0 0 0 n 1]).length:Nat):Int)-1) ((t.iq+t.ops.length:Nat):Int) aR)]) 
def acC(t:jI)(ht:nK t)(k n:Nat)(e:kC)(he:(kC.un k n e).Ok)(ih:gU 106 [kn t,iY e,mF] (.ik [kn (ic t e).1,iP (((ic t e).2:Nat):Int)]))(hu:nK ((ic t e).1))(hl:((ic t e).1).ops.length<=800)(nQ:sV (iM.mk k (ic t e).2 0 n 0 0))(N:Nat)(oF:N<((ic t e).1).ops.length)(jK:∀ i,i<N->mc (((ic t e).1).ops.getD i iw) (iM.mk k (ic t e).2 0 n 0 0)=false)(hN:mc (((ic t e).1).ops.getD N iw) (iM.mk k (ic t e).2 0 n 0 0)=true):gU 106 [kn t,iY (.un k n e),mF] (.ik [kn ((ic t e).1),iP ((((ic t e).1).iq+N:Nat):Int)]):=by
 have rH:=hu.sm aC;have Dh:=hu.iq;have pI:=he.1;have mK:=he.2.1;exact ak call106 func106 (af [ai 15 ((k:Int)==2) (aT aC),.u 4,ah 32 (decide ((0:Int)<1)) aE,iX 0 1 aC,.o 41 (.e (.iH (Oa e)):aj (.agg [(iR e).getD (0*6+0) (.v (.bool false)),(iR e).getD (0*6+1) (.v (.bool false)),(iR e).getD (0*6+2) (.v (.bool false)),(iR e).getD (0*6+3) (.v (.bool false)),(iR e).getD (0*6+4) (.v (.bool false)),(iR e).getD (0*6+5) (.v (.bool false))]) (iY e)),ag [kn t,iY e,mF] ih,ah 48 ((0:Int)==0) aE,iu (0+1) aC,.k [9,8,6,4,3,2] [8,3,6,4],ai 32 (decide (((0+1):Int)<1)) aE,.s (Sp.kY (RL t k n e N) 0 N aC (λx hx mZ=>by
    have pL:=rH x aC;exact jg (af [tT 57 ((x:Int)<((((ic t e).1).ops).length:Int)) aC,iX (x:Int) ((((ic t e).1).ops).length) aC,.g (xn _ (iM.mk k (ic t e).2 0 n 0 0) pL nQ:mA prog .eql 74 (oM ((((ic t e).1).ops).getD x iw)) (.agg [iP k,iP (((ic t e).2:Nat):Int),iP 0,iP n,iP 0,iP 0]) (.bool (mc ((((ic t e).1).ops).getD x iw) (iM.mk k (ic t e).2 0 n 0 0)))),ai 66 (mc ((((ic t e).1).ops).getD x iw) (iM.mk k (ic t e).2 0 n 0 0)) (jK x aC),iu ((x:Int)+1) aC]) aF)
  (λhx=>by
    have pL:=rH N aC;exact jg (af [tT 57 ((N:Int)<((((ic t e).1).ops).length:Int)) aC,iX (N:Int) ((((ic t e).1).ops).length) aC,.g (xn _ (iM.mk k (ic t e).2 0 n 0 0) pL nQ:mA prog .eql 74 (oM ((((ic t e).1).ops).getD N iw)) (.agg [iP k,iP (((ic t e).2:Nat):Int),iP 0,iP n,iP 0,iP 0]) (.bool (mc ((((ic t e).1).ops).getD N iw) (iM.mk k (ic t e).2 0 n 0 0)))),ah 66 (mc ((((ic t e).1).ops).getD N iw) (iM.mk k (ic t e).2 0 n 0 0)) hN,iu ((((ic t e).1).iq:Int)+N) aC]) aF) aI:kU 13 f106 (RL t k n e N 0) .ret ⟨88,true,[(7,.e (iP ((((ic t e).1).iq+N:Nat):Int))),(6,.box 6 0)],[(6,.cells 25 [iP (((ic t e).1).iq:Int),kB (((ic t e).1).ops),kJ (((ic t e).1).iC)])]⟩) .nil]) 
def acB(t:jI)(ht:nK t)(k n:Nat)(e:kC)(he:(kC.un k n e).Ok)(ih:gU 106 [kn t,iY e,mF] (.ik [kn (ic t e).1,iP (((ic t e).2:Nat):Int)]))(hu:nK ((ic t e).1))(hl:((ic t e).1).ops.length<=800)(nQ:sV (iM.mk k (ic t e).2 0 n 0 0))(jK:∀ i,i<((ic t e).1).ops.length->mc (((ic t e).1).ops.getD i iw) (iM.mk k (ic t e).2 0 n 0 0)=false):gU 106 [kn t,iY (.un k n e),mF] (.ik [kn { (ic t e).1 with ops:=((ic t e).1).ops++[iM.mk k (ic t e).2 0 n 0 0] },iP ((((ic t e).1).iq+((ic t e).1).ops.length:Nat):Int)]):=by
 have rH:=hu.sm aC;have Dh:=hu.iq;have pI:=he.1;have mK:=he.2.1;have mD:(((ic t e).1).ops++[iM.mk k (ic t e).2 0 n 0 0]).length=((ic t e).1).ops.length+1:=by rw[bX];rfl
 exact ak call106 func106 (af [ai 15 ((k:Int)==2) (aT aC),.u 4,ah 32 (decide ((0:Int)<1)) aE,iX 0 1 aC,.o 41 (.e (.iH (Oa e)):aj (.agg [(iR e).getD (0*6+0) (.v (.bool false)),(iR e).getD (0*6+1) (.v (.bool false)),(iR e).getD (0*6+2) (.v (.bool false)),(iR e).getD (0*6+3) (.v (.bool false)),(iR e).getD (0*6+4) (.v (.bool false)),(iR e).getD (0*6+5) (.v (.bool false))]) (iY e)),ag [kn t,iY e,mF] ih,ah 48 ((0:Int)==0) aE,iu (0+1) aC,.k [9,8,6,4,3,2] [8,3,6,4],ai 32 (decide (((0+1):Int)<1)) aE,.s (Sp.kY (RK t k n e) 0 (((ic t e).1).ops.length) aC (λx hx mZ=>by
    have pL:=rH x aC;exact jg (af [tT 57 ((x:Int)<((((ic t e).1).ops).length:Int)) aC,iX (x:Int) ((((ic t e).1).ops).length) aC,.g (xn _ (iM.mk k (ic t e).2 0 n 0 0) pL nQ:mA prog .eql 74 (oM ((((ic t e).1).ops).getD x iw)) (.agg [iP k,iP (((ic t e).2:Nat):Int),iP 0,iP n,iP 0,iP 0]) (.bool (mc ((((ic t e).1).ops).getD x iw) (iM.mk k (ic t e).2 0 n 0 0)))),ai 66 (mc ((((ic t e).1).ops).getD x iw) (iM.mk k (ic t e).2 0 n 0 0)) (jK x aC),iu ((x:Int)+1) aC]) aF)
  (λhx=>by
    exact jg (af [tF 57 ((((ic t e).1).ops.length:Int)<((((ic t e).1).ops).length:Int)) aC]) aF) aI:kU 13 f106 (RK t k n e 0) (.exit 2) ⟨88,true,[(8,.box 8 0),(6,.box 6 0),(3,.box 3 0)],[(8,.cells 74 [iP k,iP (((ic t e).2:Nat):Int),iP 0,iP n,iP 0,iP 0]),(3,.cells 25 [iP (((ic t e).1).iq:Int),kB (((ic t e).1).ops),kJ (((ic t e).1).iC)]),(6,.cells 25 [iP 0,.v (.slice none 0 0),.v (.slice none 0 0)])]⟩) .nil,
  .bo,.a (aC:(0+(((ic t e).1).ops).length)*48<=140737488355328),.o 77 (.refl _:aj (.sl true 1 6 λi_ j_=>[iP k,iP (((ic t e).2:Nat):Int),iP 0,iP n,iP 0,iP 0].getD (i_*6+j_) (.v (.bool false))) (.sl true 1 6 λi_ j_=>[iP k,iP (((ic t e).2:Nat):Int),iP 0,iP n,iP 0,iP 0].getD (i_*6+j_) (.v (.bool false)))),
  .bo,.a (aC:((0+(((ic t e).1).ops).length)+1)*48<=140737488355328),.o 78 (.e (KX λj hj=>by rcases j with _|_|_|_|_|_|j<;>first|rfl|omega):aj (.sl true ((0+(((ic t e).1).ops).length)+1) 6 (λi_ j_=>if i_<(0+(((ic t e).1).ops).length)then(λi_ j_=>if i_<0 then(λi_ j_=>([]:List E).getD (i_*6+j_) (.v (.bool false))) i_ j_ else(E.lW (kB (((ic t e).1).ops))) (i_-0) j_) i_ j_ else(E.lW (.sl true 1 6 λi_ j_=>[iP k,iP (((ic t e).2:Nat):Int),iP 0,iP n,iP 0,iP 0].getD (i_*6+j_) (.v (.bool false)))) (i_-(0+(((ic t e).1).ops).length)) j_)) (kB (((ic t e).1).ops++[iM.mk k (ic t e).2 0 n 0 0]))),
  iu ((((ic t e).1).iq:Int)+((((ic t e).1).ops++[iM.mk k (ic t e).2 0 n 0 0]).length:Int)) aC,
  iu (((((ic t e).1).iq+(((ic t e).1).ops++[iM.mk k (ic t e).2 0 n 0 0]).length:Nat):Int)-1) aC,.o 87 (aq (((((ic t e).1).iq+(((ic t e).1).ops++[iM.mk k (ic t e).2 0 n 0 0]).length:Nat):Int)-1) ((((ic t e).1).iq+((ic t e).1).ops.length:Nat):Int) aR)]) 
def acy(t:jI)(ht:nK t)(k:Nat)(a b:kC)(he:(kC.iy k a b).Ok)(BC:gU 106 [kn t,iY a,mF] (.ik [kn (ic t a).1,iP (((ic t a).2:Nat):Int)]))(BD:gU 106 [kn ((ic t a).1),iY b,mF] (.ik [kn (ic ((ic t a).1) b).1,iP (((ic ((ic t a).1) b).2:Nat):Int)]))(hu:nK ((ic (ic t a).1 b).1))(hl:((ic (ic t a).1 b).1).ops.length<=800)(nQ:sV (iM.mk k (ic t a).2 (ic (ic t a).1 b).2 0 0 0))(N:Nat)(oF:N<((ic (ic t a).1 b).1).ops.length)(jK:∀ i,i<N->mc (((ic (ic t a).1 b).1).ops.getD i iw) (iM.mk k (ic t a).2 (ic (ic t a).1 b).2 0 0 0)=false)(hN:mc (((ic (ic t a).1 b).1).ops.getD N iw) (iM.mk k (ic t a).2 (ic (ic t a).1 b).2 0 0 0)=true):gU 106 [kn t,iY (.iy k a b),mF] (.ik [kn ((ic (ic t a).1 b).1),iP ((((ic (ic t a).1 b).1).iq+N:Nat):Int)]):=by
 have rH:=hu.sm aC;have Dh:=hu.iq;have pI:=he.1;have mK:=he.2.1;exact ak call106 func106 (af [ai 15 ((k:Int)==2) (aT aC),.u 4,ah 32 (decide ((0:Int)<2)) aE,iX 0 2 aC,.o 41 (.e (.iH (I1 a b)):aj (.agg [(iR a++iR b).getD (0*6+0) (.v (.bool false)),(iR a++iR b).getD (0*6+1) (.v (.bool false)),(iR a++iR b).getD (0*6+2) (.v (.bool false)),(iR a++iR b).getD (0*6+3) (.v (.bool false)),(iR a++iR b).getD (0*6+4) (.v (.bool false)),(iR a++iR b).getD (0*6+5) (.v (.bool false))]) (iY a)),ag [kn t,iY a,mF] BC,ah 48 ((0:Int)==0) aE,iu (0+1) aC,.k [9,8,6,4,3,2] [8,3,6,4],ah 32 (decide (((0+1):Int)<2)) aE,
  iX (0+1) 2 aC,.o 41 (.e (.iH (I2 a b)):aj (.agg [(iR a++iR b).getD (1*6+0) (.v (.bool false)),(iR a++iR b).getD (1*6+1) (.v (.bool false)),(iR a++iR b).getD (1*6+2) (.v (.bool false)),(iR a++iR b).getD (1*6+3) (.v (.bool false)),(iR a++iR b).getD (1*6+4) (.v (.bool false)),(iR a++iR b).getD (1*6+5) (.v (.bool false))]) (iY b)),ag [kn ((ic t a).1),iY b,mF] BD,ai 48 (((0+1):Int)==0) aE,iu ((0+1)+1) aC,.k [9,8,6,4,3,2] [8,3,6,4],ai 32 (decide ((((0+1)+1):Int)<2)) aE,.s (Sp.kY (RG t k a b N) 0 N aC (λx hx mZ=>by
    have pL:=rH x aC;exact jg (af [tT 57 ((x:Int)<(((((ic (ic t a).1 b).1).ops).length:Nat):Int)) aC,iX (x:Int) ((((ic (ic t a).1 b).1).ops).length) aC,.g (xn _ (iM.mk k (ic t a).2 (ic (ic t a).1 b).2 0 0 0) pL nQ:mA prog .eql 74 (oM ((((ic (ic t a).1 b).1).ops).getD x iw)) (.agg [iP k,iP (((ic t a).2:Nat):Int),iP (((ic (ic t a).1 b).2:Nat):Int),iP 0,iP 0,iP 0]) (.bool (mc ((((ic (ic t a).1 b).1).ops).getD x iw) (iM.mk k (ic t a).2 (ic (ic t a).1 b).2 0 0 0)))),ai 66 (mc ((((ic (ic t a).1 b).1).ops).getD x iw) (iM.mk k (ic t a).2 (ic (ic t a).1 b).2 0 0 0)) (jK x aC),iu ((x:Int)+1) aC]) aF)
  (λhx=>by
    have pL:=rH N aC;exact jg (af [tT 57 ((N:Int)<(((((ic (ic t a).1 b).1).ops).length:Nat):Int)) aC,iX (N:Int) ((((ic (ic t a).1 b).1).ops).length) aC,.g (xn _ (iM.mk k (ic t a).2 (ic (ic t a).1 b).2 0 0 0) pL nQ:mA prog .eql 74 (oM ((((ic (ic t a).1 b).1).ops).getD N iw)) (.agg [iP k,iP (((ic t a).2:Nat):Int),iP (((ic (ic t a).1 b).2:Nat):Int),iP 0,iP 0,iP 0]) (.bool (mc ((((ic (ic t a).1 b).1).ops).getD N iw) (iM.mk k (ic t a).2 (ic (ic t a).1 b).2 0 0 0)))),ah 66 (mc ((((ic (ic t a).1 b).1).ops).getD N iw) (iM.mk k (ic t a).2 (ic (ic t a).1 b).2 0 0 0)) hN,iu ((((ic (ic t a).1 b).1).iq:Int)+N) aC]) aF) aI:kU 13 f106 (RG t k a b N 0) .ret ⟨88,true,[(7,.e (iP ((((ic (ic t a).1 b).1).iq+N:Nat):Int))),(6,.box 6 0)],[(6,.cells 25 [iP (((ic (ic t a).1 b).1).iq:Int),kB (((ic (ic t a).1 b).1).ops),kJ (((ic (ic t a).1 b).1).iC)])]⟩) .nil]) 
def acx(t:jI)(ht:nK t)(k:Nat)(a b:kC)(he:(kC.iy k a b).Ok)(BC:gU 106 [kn t,iY a,mF] (.ik [kn (ic t a).1,iP (((ic t a).2:Nat):Int)]))(BD:gU 106 [kn ((ic t a).1),iY b,mF] (.ik [kn (ic ((ic t a).1) b).1,iP (((ic ((ic t a).1) b).2:Nat):Int)]))(hu:nK ((ic (ic t a).1 b).1))(hl:((ic (ic t a).1 b).1).ops.length<=800)(nQ:sV (iM.mk k (ic t a).2 (ic (ic t a).1 b).2 0 0 0))(jK:∀ i,i<((ic (ic t a).1 b).1).ops.length->mc (((ic (ic t a).1 b).1).ops.getD i iw) (iM.mk k (ic t a).2 (ic (ic t a).1 b).2 0 0 0)=false):gU 106 [kn t,iY (.iy k a b),mF] (.ik [kn { (ic (ic t a).1 b).1 with ops:=((ic (ic t a).1 b).1).ops++[iM.mk k (ic t a).2 (ic (ic t a).1 b).2 0 0 0] },iP ((((ic (ic t a).1 b).1).iq+((ic (ic t a).1 b).1).ops.length:Nat):Int)]):=by
 have rH:=hu.sm aC;have Dh:=hu.iq;have pI:=he.1;have mK:=he.2.1;have mD:(((ic (ic t a).1 b).1).ops++[iM.mk k (ic t a).2 (ic (ic t a).1 b).2 0 0 0]).length=((ic (ic t a).1 b).1).ops.length+1:=by rw[bX];rfl
 exact ak call106 func106 (af [ai 15 ((k:Int)==2) (aT aC),.u 4,ah 32 (decide ((0:Int)<2)) aE,iX 0 2 aC,.o 41 (.e (.iH (I1 a b)):aj (.agg [(iR a++iR b).getD (0*6+0) (.v (.bool false)),(iR a++iR b).getD (0*6+1) (.v (.bool false)),(iR a++iR b).getD (0*6+2) (.v (.bool false)),(iR a++iR b).getD (0*6+3) (.v (.bool false)),(iR a++iR b).getD (0*6+4) (.v (.bool false)),(iR a++iR b).getD (0*6+5) (.v (.bool false))]) (iY a)),ag [kn t,iY a,mF] BC,ah 48 ((0:Int)==0) aE,iu (0+1) aC,.k [9,8,6,4,3,2] [8,3,6,4],ah 32 (decide (((0+1):Int)<2)) aE,
  iX (0+1) 2 aC,.o 41 (.e (.iH (I2 a b)):aj (.agg [(iR a++iR b).getD (1*6+0) (.v (.bool false)),(iR a++iR b).getD (1*6+1) (.v (.bool false)),(iR a++iR b).getD (1*6+2) (.v (.bool false)),(iR a++iR b).getD (1*6+3) (.v (.bool false)),(iR a++iR b).getD (1*6+4) (.v (.bool false)),(iR a++iR b).getD (1*6+5) (.v (.bool false))]) (iY b)),ag [kn ((ic t a).1),iY b,mF] BD,ai 48 (((0+1):Int)==0) aE,iu ((0+1)+1) aC,.k [9,8,6,4,3,2] [8,3,6,4],ai 32 (decide ((((0+1)+1):Int)<2)) aE,.s (Sp.kY (RF t k a b) 0 (((ic (ic t a).1 b).1).ops.length) aC (λx hx mZ=>by
    have pL:=rH x aC;exact jg (af [tT 57 ((x:Int)<(((((ic (ic t a).1 b).1).ops).length:Nat):Int)) aC,iX (x:Int) ((((ic (ic t a).1 b).1).ops).length) aC,.g (xn _ (iM.mk k (ic t a).2 (ic (ic t a).1 b).2 0 0 0) pL nQ:mA prog .eql 74 (oM ((((ic (ic t a).1 b).1).ops).getD x iw)) (.agg [iP k,iP (((ic t a).2:Nat):Int),iP (((ic (ic t a).1 b).2:Nat):Int),iP 0,iP 0,iP 0]) (.bool (mc ((((ic (ic t a).1 b).1).ops).getD x iw) (iM.mk k (ic t a).2 (ic (ic t a).1 b).2 0 0 0)))),ai 66 (mc ((((ic (ic t a).1 b).1).ops).getD x iw) (iM.mk k (ic t a).2 (ic (ic t a).1 b).2 0 0 0)) (jK x aC),iu ((x:Int)+1) aC]) aF)
  (λhx=>by
    exact jg (af [tF 57 ((((ic (ic t a).1 b).1).ops.length:Int)<(((((ic (ic t a).1 b).1).ops).length:Nat):Int)) aC]) aF) aI:kU 13 f106 (RF t k a b 0) (.exit 2) ⟨88,true,[(8,.box 8 0),(6,.box 6 0),(3,.box 3 0)],[(8,.cells 74 [iP k,iP (((ic t a).2:Nat):Int),iP (((ic (ic t a).1 b).2:Nat):Int),iP 0,iP 0,iP 0]),(3,.cells 25 [iP (((ic (ic t a).1 b).1).iq:Int),kB (((ic (ic t a).1 b).1).ops),kJ (((ic (ic t a).1 b).1).iC)]),(6,.cells 25 [iP 0,.v (.slice none 0 0),.v (.slice none 0 0)])]⟩) .nil,
  .bo,.a (aC:(0+(((ic (ic t a).1 b).1).ops).length)*48<=140737488355328),.o 77 (.refl _:aj (.sl true 1 6 λi_ j_=>[iP k,iP (((ic t a).2:Nat):Int),iP (((ic (ic t a).1 b).2:Nat):Int),iP 0,iP 0,iP 0].getD (i_*6+j_) (.v (.bool false))) (.sl true 1 6 λi_ j_=>[iP k,iP (((ic t a).2:Nat):Int),iP (((ic (ic t a).1 b).2:Nat):Int),iP 0,iP 0,iP 0].getD (i_*6+j_) (.v (.bool false)))),
  .bo,.a (aC:((0+(((ic (ic t a).1 b).1).ops).length)+1)*48<=140737488355328),.o 78 (.e (KX λj hj=>by rcases j with _|_|_|_|_|_|j<;>first|rfl|omega):aj (.sl true ((0+(((ic (ic t a).1 b).1).ops).length)+1) 6 (λi_ j_=>if i_<(0+(((ic (ic t a).1 b).1).ops).length)then(λi_ j_=>if i_<0 then(λi_ j_=>([]:List E).getD (i_*6+j_) (.v (.bool false))) i_ j_ else(E.lW (kB (((ic (ic t a).1 b).1).ops))) (i_-0) j_) i_ j_ else(E.lW (.sl true 1 6 λi_ j_=>[iP k,iP (((ic t a).2:Nat):Int),iP (((ic (ic t a).1 b).2:Nat):Int),iP 0,iP 0,iP 0].getD (i_*6+j_) (.v (.bool false)))) (i_-(0+(((ic (ic t a).1 b).1).ops).length)) j_)) (kB (((ic (ic t a).1 b).1).ops++[iM.mk k (ic t a).2 (ic (ic t a).1 b).2 0 0 0]))),
  iu ((((ic (ic t a).1 b).1).iq:Int)+(((((ic (ic t a).1 b).1).ops++[iM.mk k (ic t a).2 (ic (ic t a).1 b).2 0 0 0]).length:Nat):Int)) aC,
  iu (((((ic (ic t a).1 b).1).iq+(((ic (ic t a).1 b).1).ops++[iM.mk k (ic t a).2 (ic (ic t a).1 b).2 0 0 0]).length:Nat):Int)-1) aC,.o 87 (aq (((((ic (ic t a).1 b).1).iq+(((ic (ic t a).1 b).1).ops++[iM.mk k (ic t a).2 (ic (ic t a).1 b).2 0 0 0]).length:Nat):Int)-1) ((((ic (ic t a).1 b).1).iq+((ic (ic t a).1 b).1).ops.length:Nat):Int) aR)]) 
def KN{t u:jI}{o:iM}{v:kC}{F:FuncId}(h1:∀ N,N<u.ops.length->(∀ i,i<N->mc (u.ops.getD i iw) o=false)->mc (u.ops.getD N iw) o=true->gU F [kn t,iY v,mF] (.ik [kn u,iP ((u.iq+N:Nat):Int)]))
 (h2:(∀ i,i<u.ops.length->mc (u.ops.getD i iw) o=false)->gU F [kn t,iY v,mF] (.ik [kn { u with ops:=u.ops++[o] },iP ((u.iq+u.ops.length:Nat):Int)])):
 gU F [kn t,iY v,mF] (.ik [kn (nn u o).1,iP (((nn u o).2:Nat):Int)]):=by
 unfold nn;split
 .rename_i i hi;obtain⟨a,b,c⟩:=Fq hi;exact h1 i a c b
 .rename_i hi;exact h2 (I8 hi)
def DT:∀ (e:kC) (t:jI),e.Ok->nK t->t.ops.length+e.sz<=800->gU 106 [kn t,iY e,mF] (.ik [kn (ic t e).1,iP (((ic t e).2:Nat):Int)])
 | .var true,t,_,ht,_=>acE t ht
 | .var false,t,_,ht,_=>acD t ht
 | .num n,t,he,ht,hl=>by
  have hs:t.ops.length+1<=800:=hl;have nQ:sV ⟨1,0,0,0,n,1⟩:=⟨by show 1<=1000;decide,bO _,bO _,bO _,by have:=he.1;show -1099511627776<=n;omega,by have:=he.2;show n<=1099511627776;omega,by show -1099511627776<=1;decide,by show 1<=1099511627776;decide⟩
  exact KN (λN a c b=>acA t ht n he ht aC nQ N a c b) (λh=>acz t ht n he ht aC nQ h)
 | .un k n e,t,he,ht,hl=>by
  have hs:t.ops.length+(e.sz+1)<=800:=hl;obtain⟨h7,h8,hn,h⟩:=he;obtain⟨k1,k2,k3,k4,k5⟩:=uV e h ht;have ih:=DT e t h ht aC;have e1:=k1.iq;have nQ:sV ⟨k,(ic t e).2,0,n,0,0⟩:=⟨by show k<=1000;omega,by show(ic t e).2<=1000;omega,bO _,by show n<=1000;split at hn<;>omega,by show -1099511627776<=(0:Int);decide,by show(0:Int)<=1099511627776;decide,by show -1099511627776<=(0:Int);decide,by show(0:Int)<=1099511627776;decide⟩
  exact KN (λN a c b=>acC t ht k n e ⟨h7,h8,hn,h⟩ ih k1 aC nQ N a c b) (λq=>acB t ht k n e ⟨h7,h8,hn,h⟩ ih k1 aC nQ q)
 | .iy k a b,t,he,ht,hl=>by
  have hs:t.ops.length+(a.sz+b.sz+1)<=800:=hl;obtain⟨h3,h6,ha,hb⟩:=he;obtain⟨k1,k2,k3,k4,k5⟩:=uV a ha ht;obtain⟨l1,l2,l3,l4,l5⟩:=uV b hb k1;have BC:=DT a t ha ht aC;have BD:=DT b _ hb k1 aC;have e1:=k1.iq;have e2:=l1.iq;have nQ:sV ⟨k,(ic t a).2,(ic (ic t a).1 b).2,0,0,0⟩:=⟨by show k<=1000;omega,by show(ic t a).2<=1000;omega,by show(ic (ic t a).1 b).2<=1000;omega,bO _,by show -1099511627776<=(0:Int);decide,by show(0:Int)<=1099511627776;decide,by show -1099511627776<=(0:Int);decide,by show(0:Int)<=1099511627776;decide⟩
  exact KN (λN x c y=>acy t ht k a b ⟨h3,h6,ha,hb⟩ BC BD l1 aC nQ N x c y) (λq=>acx t ht k a b ⟨h3,h6,ha,hb⟩ BC BD l1 aC nQ q)
def afH:E.le (.agg [iP 2,.v (.slice none 0 0),.v (.slice none 0 0)]) (kn jU):=.agg (.cons (.refl _) (.cons (.nil _ _ _) (.cons (.nil _ _ _) .nil)))
def Gn(l:List Nat):∀ (e:kC) (t:jI),ic { t with iC:=l } e=({ (ic t e).1 with iC:=l },(ic t e).2)
 | .var _,_=>rfl
 | .num n,t=>by
  unfold ic nn;dsimp only;cases wO t.ops ⟨1,0,0,0,n,1⟩ t.ops.length<;>rfl
 | .un k n e,t=>by
  unfold ic;rw[Gn l e t];unfold nn;dsimp only;cases wO (ic t e).1.ops ⟨k,(ic t e).2,0,n,0,0⟩ (ic t e).1.ops.length<;>rfl
 | .iy k a b,t=>by
  unfold ic;rw[Gn l a t];dsimp only;rw[Gn l b (ic t a).1];unfold nn;dsimp only;cases wO (ic (ic t a).1 b).1.ops ⟨k,(ic t a).2,(ic (ic t a).1 b).2,0,0,0⟩ (ic (ic t a).1 b).1.ops.length<;>rfl
def tZ(a:kC):jI:=⟨2,(ic jU a).1.ops,[]⟩
def El(a:kC):jI:=⟨2,(ic jU a).1.ops,[(ic jU a).2]⟩
def ua(a b:kC):jI:=⟨2,(ic (ic jU a).1 b).1.ops,[(ic jU a).2]⟩
def afS{a:kC}(ha:a.Ok)(hs:a.sz<=400):gU 106 [kn jU,iY a,mF] (.ik [kn (tZ a),iP (((ic jU a).2:Nat):Int)]):=by
 have k:nK jU:=⟨rfl,λi hi=>absurd hi (bE i)⟩
 obtain⟨k1,k2,k3,k4,k5⟩:=uV a ha k;have:=DT a jU ha k (by show 0+a.sz<=800;omega);rwa[show(ic jU a).1=tZ a from by
  have e1:=k1.iq;have e2:(ic jU a).1.iC=[]:=k5;unfold tZ;generalize (ic jU a).1=q at e1 e2 ⊢;obtain⟨i,o,u⟩:=q;simp only at e1 e2;subst e1 e2;rfl]at this
def afT{a b:kC}(ha:a.Ok)(hb:b.Ok)(hs:a.sz+b.sz<=400):gU 106 [kn (El a),iY b,mF] (.ik [kn (ua a b),iP (((ic (ic jU a).1 b).2:Nat):Int)]):=by
 have k:nK jU:=⟨rfl,λi hi=>absurd hi (bE i)⟩
 obtain⟨k1,k2,k3,k4,k5⟩:=uV a ha k;obtain⟨l1,l2,l3,l4,l5⟩:=uV b hb k1;have e1:=k1.iq;have k3':(ic jU a).1.ops.length<=0+a.sz:=k3;have hq:El a=⟨(ic jU a).1.iq,(ic jU a).1.ops,[(ic jU a).2]⟩:=by unfold El;rw[e1]
 have ho:nK (El a):=⟨rfl,λi hi=>by have:=k1.op i hi;rw[e1]at this;exact this⟩
 have:=DT b (El a) hb ho (by show(ic jU a).1.ops.length+b.sz<=800;omega);have e2:=l1.iq;have e:(⟨(ic (ic jU a).1 b).1.iq,(ic (ic jU a).1 b).1.ops,[(ic jU a).2]⟩:jI)=ua a b:=by unfold ua;rw[e2]
 have h3:ic ⟨(ic jU a).1.iq,(ic jU a).1.ops,[(ic jU a).2]⟩ b=(⟨(ic (ic jU a).1 b).1.iq,(ic (ic jU a).1 b).1.ops,[(ic jU a).2]⟩,(ic (ic jU a).1 b).2):=Gn [(ic jU a).2] b (ic jU a).1;rw[<-hq,e]at h3;rwa[h3]at this
def Rv{l:List Nat}{k:Nat}{p:E}(hp:∀ j,j<1->p.lW 0 j=iP (k:Int)):E.le (.sl true (0+l.length+1) 1 λi j=>if i<0+l.length then(λi_ j_=>if i_<0 then(λi_ j_=>([]:List E).getD (i_*1+j_) (.v (.bool false))) i_ j_ else(E.lW (kJ l)) (i_-0) j_) i j else(E.lW p) (i-(0+l.length)) j) (kJ (l++[k])):=by
 have e:kJ (l++[k]) = .sl true (0+l.length+1) 1 λi _=>iP (((l++[k]).getD i 0:Nat):Int):=by unfold kJ;rw[bX,bW];rfl
 rw[e];refine .sl λi j hi hj=>⟨.iH ?_,rfl⟩
 rw[bW]at *
 by_cases h:i<l.length
 .rw [aZ h];show iP (l.getD i 0:Int)=iP (((l++[k]).getD i 0:Nat):Int);congr 2;simp[bc,dm h]
 .have lR:i=l.length:= aC ;subst lR;rw[aY h,dx,hp j hj];congr 2;simp[bc]
def Ty(a b:kC)(ha:a.Ok)(hb:b.Ok)(hs:a.sz+b.sz<=200):gU 58 [lG a b,mF] (kn (qd a b).tape):=by
 have ho1:(tZ a).iC.length=0:=rfl;have Br:(ua a b).iC.length=1:=rfl;exact ak call58 func58 (ae [.u 4,ah 15 (decide ((0:Int)<2)) aE,.o 19 (.e afH:aj (.agg [iP 2,.v (.slice none 0 0),.v (.slice none 0 0)]) (kn jU)),iX 0 2 aC,.o 23 (.e (.iH (I1 a b)):aj (.agg [(iR a++iR b).getD (0*6+0) (.v (.bool false)),(iR a++iR b).getD (0*6+1) (.v (.bool false)),(iR a++iR b).getD (0*6+2) (.v (.bool false)),(iR a++iR b).getD (0*6+3) (.v (.bool false)),(iR a++iR b).getD (0*6+4) (.v (.bool false)),(iR a++iR b).getD (0*6+5) (.v (.bool false))]) (iY a)),ag [kn jU,iY a,mF] (afS ha aC),.bo,.a (aC:(0+((tZ a).iC).length)*8<=140737488355328),.o 34 (.refl _:aj (.sl true 1 1 λi_ j_=>[iP (((ic jU a).2:Nat):Int)].getD (i_*1+j_) (.v (.bool false))) (.sl true 1 1 λi_ j_=>[iP (((ic jU a).2:Nat):Int)].getD (i_*1+j_) (.v (.bool false)))),
  .bo,.a (aC:((0+((tZ a).iC).length)+1)*8<=140737488355328),.o 35 (.e (Rv (l:=[]) λj hj=>by obtain rfl:=Nat.lt_one_iff.1 hj;rfl):aj (.sl true ((0+((tZ a).iC).length)+1) 1 (λi_ j_=>if i_<(0+((tZ a).iC).length)then(λi_ j_=>if i_<0 then(λi_ j_=>([]:List E).getD (i_*1+j_) (.v (.bool false))) i_ j_ else(E.lW (kJ ((tZ a).iC))) (i_-0) j_) i_ j_ else(E.lW (.sl true 1 1 λi_ j_=>[iP (((ic jU a).2:Nat):Int)].getD (i_*1+j_) (.v (.bool false)))) (i_-(0+((tZ a).iC).length)) j_)) (kJ [(ic jU a).2])),
  iu (0+1) aC,.k [6,5,4,0,1] [5,4],ah 15 (decide (((0+1):Int)<2)) aE,iX (0+1) 2 aC,.o 23 (.e (.iH (I2 a b)):aj (.agg [(iR a++iR b).getD (1*6+0) (.v (.bool false)),(iR a++iR b).getD (1*6+1) (.v (.bool false)),(iR a++iR b).getD (1*6+2) (.v (.bool false)),(iR a++iR b).getD (1*6+3) (.v (.bool false)),(iR a++iR b).getD (1*6+4) (.v (.bool false)),(iR a++iR b).getD (1*6+5) (.v (.bool false))]) (iY b)),ag [.agg [iP ((tZ a).iq:Int),kB ((tZ a).ops),kJ [(ic jU a).2]],iY b,mF] (afT ha hb aC),.bo,.a (aC:(0+((ua a b).iC).length)*8<=140737488355328),.o 34 (.refl _:aj (.sl true 1 1 λi_ j_=>[iP (((ic (ic jU a).1 b).2:Nat):Int)].getD (i_*1+j_) (.v (.bool false))) (.sl true 1 1 λi_ j_=>[iP (((ic (ic jU a).1 b).2:Nat):Int)].getD (i_*1+j_) (.v (.bool false)))),
  .bo,.a (aC:((0+((ua a b).iC).length)+1)*8<=140737488355328),.o 35 (.e (Rv (l:=[(ic jU a).2]) λj hj=>by obtain rfl:=Nat.lt_one_iff.1 hj;rfl):aj (.sl true ((0+((ua a b).iC).length)+1) 1 (λi_ j_=>if i_<(0+((ua a b).iC).length)then(λi_ j_=>if i_<0 then(λi_ j_=>([]:List E).getD (i_*1+j_) (.v (.bool false))) i_ j_ else(E.lW (kJ ((ua a b).iC))) (i_-0) j_) i_ j_ else(E.lW (.sl true 1 1 λi_ j_=>[iP (((ic (ic jU a).1 b).2:Nat):Int)].getD (i_*1+j_) (.v (.bool false)))) (i_-(0+((ua a b).iC).length)) j_)) (kJ [(ic jU a).2,(ic (ic jU a).1 b).2])),
  iu ((0+1)+1) aC,.k [6,5,4,0,1] [5,4],ai 15 (decide ((((0+1)+1):Int)<2)) aE]<|rR (kn (qd a b).tape) (.refl _:E.le (.agg [iP ((ua a b).iq:Int),kB ((ua a b).ops),kJ [(ic jU a).2,(ic (ic jU a).1 b).2]]) (kn (qd a b).tape))) 
def Tv(a b:kC):E.le (.agg [iP ((qd a b).tape.iq:Int),kB (qd a b).tape.ops,kJ (qd a b).tape.iC,iP 2,.v (.slice none 0 0)]) (kX (qd a b)):=.agg (.cons (.refl _) (.cons (.refl _) (.cons (.refl _) (.cons (.refl _) (.cons (.nil _ _ _) .nil)))))
abbrev IE:kC:=.iy 3 (.un 7 0 (.var true)) (.iy 5 (.var false) (.iy 4 (.iy 4 (.num 1) (.un 8 2 (.var false))) (.un 8 2 (.var true))))
abbrev IF:kC:=.iy 3 (.var false) (.iy 5 (.var true) (.iy 4 (.iy 4 (.num 1) (.un 8 2 (.var false))) (.un 8 2 (.var true))))
abbrev yA(p0 q0:Int):kC:=.iy 3 (.iy 5 (.num p0) (.var false)) (.iy 5 (.num q0) (.var true))
def sk:lY:=qd IE IF
def kH(p0 q0 r0 t0:Int):lY:=qd (yA p0 q0) (yA r0 t0)
def vk(n:Int):Prop:=-1073741824<=n/\n<=1073741824
def Nv:IE.Ok:=by simp[kC.Ok]
def Nw:IF.Ok:=by simp[kC.Ok]
def Ge{p0 q0:Int}(h1:vk p0)(h2:vk q0):(yA p0 q0).Ok:=⟨aE,aE,⟨aE,aE,h1,trivial⟩,⟨aE,aE,h2,trivial⟩⟩
def Nu:mR sk:=Ts Nv Nw aE 
def Ai{p0 q0 r0 t0:Int}(h1:vk p0)(h2:vk q0)(h3:vk r0)(h4:vk t0):mR (kH p0 q0 r0 t0):=Ts (Ge h1 h2) (Ge h3 h4) (by show 7+7<=200;decide)
def Oe : gU 55 [.v (.string ⟨#[120]⟩)] (iY (.var false)):=
 ak call55 func55 (af [.o 4 (.e (.iH rfl):aj (.agg [iP 2,iP 0,iP 0,.v (.string ⟨#[120]⟩),iP 0,.v (.slice none 0 0)]) (iY (.var false)))]) 
def Of : gU 55 [.v (.string ⟨#[121]⟩)] (iY (.var true)):=
 ak call55 func55 (af [.o 4 (.e (.iH rfl):aj (.agg [iP 2,iP 0,iP 0,.v (.string ⟨#[121]⟩),iP 0,.v (.slice none 0 0)]) (iY (.var true)))]) 
def XW : gU 57 [iP 1] (iY (.num 1)):=
 ak call57 func57 (af [.o 5 (.e (.iH rfl):aj (.agg [iP 1,iP 1,iP 1,.v (.string ⟨#[]⟩),iP 0,.v (.slice none 0 0)]) (iY (.num 1)))]) 
def Yk : gU 86 [iY (.var false)] (iY (.un 8 2 (.var false))):=
 ak call86 func86 (af [.o 4 (.e (.iH rfl):aj (.sl true 1 6 λi_ j_=>[iP 2,iP 0,iP 0,.v (.string ⟨#[120]⟩),iP 0,.v (.slice none 0 0)].getD (i_*6+j_) (.v (.bool false))) (wM (.var false))),.o 5 (.e (.iH rfl):aj (.agg [iP 8,iP 0,iP 0,.v (.string ⟨#[]⟩),iP 2,wM (.var false)]) (iY (.un 8 2 (.var false))))]) 
def X1 : gU 56 [iP 4,iY (.num 1),iY (.un 8 2 (.var false))] (iY (.iy 4 (.num 1) (.un 8 2 (.var false)))):=
 ak call56 func56 (af [.o 10 (.e (.iH rfl):aj (.sl true 2 6 λi_ j_=>[iP 1,iP 1,iP 1,.v (.string ⟨#[]⟩),iP 0,.v (.slice none 0 0),iP 8,iP 0,iP 0,.v (.string ⟨#[]⟩),iP 2,wM (.var false)].getD (i_*6+j_) (.v (.bool false))) (lG (.num 1) (.un 8 2 (.var false)))),.o 11 (.e (.iH rfl):aj (.agg [iP 4,iP 0,iP 0,.v (.string ⟨#[]⟩),iP 0,lG (.num 1) (.un 8 2 (.var false))]) (iY (.iy 4 (.num 1) (.un 8 2 (.var false)))))]) 
def Yl : gU 86 [iY (.var true)] (iY (.un 8 2 (.var true))):=
 ak call86 func86 (af [.o 4 (.e (.iH rfl):aj (.sl true 1 6 λi_ j_=>[iP 2,iP 0,iP 0,.v (.string ⟨#[121]⟩),iP 0,.v (.slice none 0 0)].getD (i_*6+j_) (.v (.bool false))) (wM (.var true))),.o 5 (.e (.iH rfl):aj (.agg [iP 8,iP 0,iP 0,.v (.string ⟨#[]⟩),iP 2,wM (.var true)]) (iY (.un 8 2 (.var true))))]) 
def X2 : gU 56 [iP 4,iY (.iy 4 (.num 1) (.un 8 2 (.var false))),iY (.un 8 2 (.var true))] (iY (.iy 4 (.iy 4 (.num 1) (.un 8 2 (.var false))) (.un 8 2 (.var true)))):=
 ak call56 func56 (af [.o 10 (.e (.iH rfl):aj (.sl true 2 6 λi_ j_=>[iP 4,iP 0,iP 0,.v (.string ⟨#[]⟩),iP 0,lG (.num 1) (.un 8 2 (.var false)),iP 8,iP 0,iP 0,.v (.string ⟨#[]⟩),iP 2,wM (.var true)].getD (i_*6+j_) (.v (.bool false))) (lG (.iy 4 (.num 1) (.un 8 2 (.var false))) (.un 8 2 (.var true)))),.o 11 (.e (.iH rfl):aj (.agg [iP 4,iP 0,iP 0,.v (.string ⟨#[]⟩),iP 0,lG (.iy 4 (.num 1) (.un 8 2 (.var false))) (.un 8 2 (.var true))]) (iY (.iy 4 (.iy 4 (.num 1) (.un 8 2 (.var false))) (.un 8 2 (.var true)))))]) 
def X5 : gU 56 [iP 5,iY (.var false),iY (.iy 4 (.iy 4 (.num 1) (.un 8 2 (.var false))) (.un 8 2 (.var true)))] (iY (.iy 5 (.var false) (.iy 4 (.iy 4 (.num 1) (.un 8 2 (.var false))) (.un 8 2 (.var true))))):=
 ak call56 func56 (af [.o 10 (.e (.iH rfl):aj (.sl true 2 6 λi_ j_=>[iP 2,iP 0,iP 0,.v (.string ⟨#[120]⟩),iP 0,.v (.slice none 0 0),iP 4,iP 0,iP 0,.v (.string ⟨#[]⟩),iP 0,lG (.iy 4 (.num 1) (.un 8 2 (.var false))) (.un 8 2 (.var true))].getD (i_*6+j_) (.v (.bool false))) (lG (.var false) (.iy 4 (.iy 4 (.num 1) (.un 8 2 (.var false))) (.un 8 2 (.var true))))),.o 11 (.e (.iH rfl):aj (.agg [iP 5,iP 0,iP 0,.v (.string ⟨#[]⟩),iP 0,lG (.var false) (.iy 4 (.iy 4 (.num 1) (.un 8 2 (.var false))) (.un 8 2 (.var true)))]) (iY (.iy 5 (.var false) (.iy 4 (.iy 4 (.num 1) (.un 8 2 (.var false))) (.un 8 2 (.var true))))))]) 
def X6 : gU 56 [iP 3,iY (.un 7 0 (.var true)),iY (.iy 5 (.var false) (.iy 4 (.iy 4 (.num 1) (.un 8 2 (.var false))) (.un 8 2 (.var true))))] (iY (.iy 3 (.un 7 0 (.var true)) (.iy 5 (.var false) (.iy 4 (.iy 4 (.num 1) (.un 8 2 (.var false))) (.un 8 2 (.var true)))))):=
 ak call56 func56 (af [.o 10 (.e (.iH rfl):aj (.sl true 2 6 λi_ j_=>[iP 7,iP 0,iP 0,.v (.string ⟨#[]⟩),iP 0,wM (.var true),iP 5,iP 0,iP 0,.v (.string ⟨#[]⟩),iP 0,lG (.var false) (.iy 4 (.iy 4 (.num 1) (.un 8 2 (.var false))) (.un 8 2 (.var true)))].getD (i_*6+j_) (.v (.bool false))) (lG (.un 7 0 (.var true)) (.iy 5 (.var false) (.iy 4 (.iy 4 (.num 1) (.un 8 2 (.var false))) (.un 8 2 (.var true)))))),.o 11 (.e (.iH rfl):aj (.agg [iP 3,iP 0,iP 0,.v (.string ⟨#[]⟩),iP 0,lG (.un 7 0 (.var true)) (.iy 5 (.var false) (.iy 4 (.iy 4 (.num 1) (.un 8 2 (.var false))) (.un 8 2 (.var true))))]) (iY (.iy 3 (.un 7 0 (.var true)) (.iy 5 (.var false) (.iy 4 (.iy 4 (.num 1) (.un 8 2 (.var false))) (.un 8 2 (.var true)))))))]) 
def X7 : gU 56 [iP 5,iY (.var true),iY (.iy 4 (.iy 4 (.num 1) (.un 8 2 (.var false))) (.un 8 2 (.var true)))] (iY (.iy 5 (.var true) (.iy 4 (.iy 4 (.num 1) (.un 8 2 (.var false))) (.un 8 2 (.var true))))):=
 ak call56 func56 (af [.o 10 (.e (.iH rfl):aj (.sl true 2 6 λi_ j_=>[iP 2,iP 0,iP 0,.v (.string ⟨#[121]⟩),iP 0,.v (.slice none 0 0),iP 4,iP 0,iP 0,.v (.string ⟨#[]⟩),iP 0,lG (.iy 4 (.num 1) (.un 8 2 (.var false))) (.un 8 2 (.var true))].getD (i_*6+j_) (.v (.bool false))) (lG (.var true) (.iy 4 (.iy 4 (.num 1) (.un 8 2 (.var false))) (.un 8 2 (.var true))))),.o 11 (.e (.iH rfl):aj (.agg [iP 5,iP 0,iP 0,.v (.string ⟨#[]⟩),iP 0,lG (.var true) (.iy 4 (.iy 4 (.num 1) (.un 8 2 (.var false))) (.un 8 2 (.var true)))]) (iY (.iy 5 (.var true) (.iy 4 (.iy 4 (.num 1) (.un 8 2 (.var false))) (.un 8 2 (.var true))))))]) 
def X8 : gU 56 [iP 3,iY (.var false),iY (.iy 5 (.var true) (.iy 4 (.iy 4 (.num 1) (.un 8 2 (.var false))) (.un 8 2 (.var true))))] (iY (.iy 3 (.var false) (.iy 5 (.var true) (.iy 4 (.iy 4 (.num 1) (.un 8 2 (.var false))) (.un 8 2 (.var true)))))):=
 ak call56 func56 (af [.o 10 (.e (.iH rfl):aj (.sl true 2 6 λi_ j_=>[iP 2,iP 0,iP 0,.v (.string ⟨#[120]⟩),iP 0,.v (.slice none 0 0),iP 5,iP 0,iP 0,.v (.string ⟨#[]⟩),iP 0,lG (.var true) (.iy 4 (.iy 4 (.num 1) (.un 8 2 (.var false))) (.un 8 2 (.var true)))].getD (i_*6+j_) (.v (.bool false))) (lG (.var false) (.iy 5 (.var true) (.iy 4 (.iy 4 (.num 1) (.un 8 2 (.var false))) (.un 8 2 (.var true)))))),.o 11 (.e (.iH rfl):aj (.agg [iP 3,iP 0,iP 0,.v (.string ⟨#[]⟩),iP 0,lG (.var false) (.iy 5 (.var true) (.iy 4 (.iy 4 (.num 1) (.un 8 2 (.var false))) (.un 8 2 (.var true))))]) (iY (.iy 3 (.var false) (.iy 5 (.var true) (.iy 4 (.iy 4 (.num 1) (.un 8 2 (.var false))) (.un 8 2 (.var true)))))))]) 
def Nx : gU 39 [] (kX sk):=by
 have ha:=Nv;have hb:=Nw;have hs:IE.sz+IF.sz<=200:= aE ;exact ak call39 func39 (ae [.c Oe,.c Of,.c XW,.c Yk,.c X1,.c Yl,.c X2,.o 16 (.e (.iH rfl):aj (.sl true 1 6 λi_ j_=>[iP 2,iP 0,iP 0,.v (.string ⟨#[121]⟩),iP 0,.v (.slice none 0 0)].getD (i_*6+j_) (.v (.bool false))) (wM (.var true))),.o 17 (.e (.iH rfl):aj (.agg [iP 7,iP 0,iP 0,.v (.string ⟨#[]⟩),iP 0,wM (.var true)]) (iY (.un 7 0 (.var true)))),.c X5,.c X6,.c X7,.c X8,.o 28 (.e (.iH rfl):aj (.sl true 2 6 λi_ j_=>[iP 3,iP 0,iP 0,.v (.string ⟨#[]⟩),iP 0,lG (.un 7 0 (.var true)) (.iy 5 (.var false) (.iy 4 (.iy 4 (.num 1) (.un 8 2 (.var false))) (.un 8 2 (.var true)))),iP 3,iP 0,iP 0,.v (.string ⟨#[]⟩),iP 0,lG (.var false) (.iy 5 (.var true) (.iy 4 (.iy 4 (.num 1) (.un 8 2 (.var false))) (.un 8 2 (.var true))))].getD (i_*6+j_) (.v (.bool false))) (lG (.iy 3 (.un 7 0 (.var true)) (.iy 5 (.var false) (.iy 4 (.iy 4 (.num 1) (.un 8 2 (.var false))) (.un 8 2 (.var true))))) (.iy 3 (.var false) (.iy 5 (.var true) (.iy 4 (.iy 4 (.num 1) (.un 8 2 (.var false))) (.un 8 2 (.var true))))))),.o 30 (.e (.iH rfl):aj (.sl true 2 1 λi_ j_=>[.v (.string ⟨#[120]⟩),.v (.string ⟨#[121]⟩)].getD (i_*1+j_) (.v (.bool false))) mF),.c (Ty (.iy 3 (.un 7 0 (.var true)) (.iy 5 (.var false) (.iy 4 (.iy 4 (.num 1) (.un 8 2 (.var false))) (.un 8 2 (.var true))))) (.iy 3 (.var false) (.iy 5 (.var true) (.iy 4 (.iy 4 (.num 1) (.un 8 2 (.var false))) (.un 8 2 (.var true))))) ha hb hs)]<|rR (kX sk) (by
  unfold sk;exact Tv _ _:E.le (.agg [iP ((((qd (.iy 3 (.un 7 0 (.var true)) (.iy 5 (.var false) (.iy 4 (.iy 4 (.num 1) (.un 8 2 (.var false))) (.un 8 2 (.var true))))) (.iy 3 (.var false) (.iy 5 (.var true) (.iy 4 (.iy 4 (.num 1) (.un 8 2 (.var false))) (.un 8 2 (.var true)))))).tape).iq:Nat):Int),kB (((qd (.iy 3 (.un 7 0 (.var true)) (.iy 5 (.var false) (.iy 4 (.iy 4 (.num 1) (.un 8 2 (.var false))) (.un 8 2 (.var true))))) (.iy 3 (.var false) (.iy 5 (.var true) (.iy 4 (.iy 4 (.num 1) (.un 8 2 (.var false))) (.un 8 2 (.var true)))))).tape).ops),kJ (((qd (.iy 3 (.un 7 0 (.var true)) (.iy 5 (.var false) (.iy 4 (.iy 4 (.num 1) (.un 8 2 (.var false))) (.un 8 2 (.var true))))) (.iy 3 (.var false) (.iy 5 (.var true) (.iy 4 (.iy 4 (.num 1) (.un 8 2 (.var false))) (.un 8 2 (.var true)))))).tape).iC),iP 2,.v (.slice none 0 0)]) (kX sk))) 
def XX(p0:Int) : gU 57 [iP p0] (iY (.num p0)):=
 ak call57 func57 (af [.o 5 (.e (.iH rfl):aj (.agg [iP 1,iP p0,iP 1,.v (.string ⟨#[]⟩),iP 0,.v (.slice none 0 0)]) (iY (.num p0)))]) 
def X9(p0:Int) : gU 56 [iP 5,iY (.num p0),iY (.var false)] (iY (.iy 5 (.num p0) (.var false))):=
 ak call56 func56 (af [.o 10 (.e (.iH rfl):aj (.sl true 2 6 λi_ j_=>[iP 1,iP p0,iP 1,.v (.string ⟨#[]⟩),iP 0,.v (.slice none 0 0),iP 2,iP 0,iP 0,.v (.string ⟨#[120]⟩),iP 0,.v (.slice none 0 0)].getD (i_*6+j_) (.v (.bool false))) (lG (.num p0) (.var false))),.o 11 (.e (.iH rfl):aj (.agg [iP 5,iP 0,iP 0,.v (.string ⟨#[]⟩),iP 0,lG (.num p0) (.var false)]) (iY (.iy 5 (.num p0) (.var false))))]) 
def XY(q0:Int) : gU 57 [iP q0] (iY (.num q0)):=
 ak call57 func57 (af [.o 5 (.e (.iH rfl):aj (.agg [iP 1,iP q0,iP 1,.v (.string ⟨#[]⟩),iP 0,.v (.slice none 0 0)]) (iY (.num q0)))]) 
def Ya(q0:Int) : gU 56 [iP 5,iY (.num q0),iY (.var true)] (iY (.iy 5 (.num q0) (.var true))):=
 ak call56 func56 (af [.o 10 (.e (.iH rfl):aj (.sl true 2 6 λi_ j_=>[iP 1,iP q0,iP 1,.v (.string ⟨#[]⟩),iP 0,.v (.slice none 0 0),iP 2,iP 0,iP 0,.v (.string ⟨#[121]⟩),iP 0,.v (.slice none 0 0)].getD (i_*6+j_) (.v (.bool false))) (lG (.num q0) (.var true))),.o 11 (.e (.iH rfl):aj (.agg [iP 5,iP 0,iP 0,.v (.string ⟨#[]⟩),iP 0,lG (.num q0) (.var true)]) (iY (.iy 5 (.num q0) (.var true))))]) 
def Yb(p0:Int)(q0:Int) : gU 56 [iP 3,iY (.iy 5 (.num p0) (.var false)),iY (.iy 5 (.num q0) (.var true))] (iY (.iy 3 (.iy 5 (.num p0) (.var false)) (.iy 5 (.num q0) (.var true)))):=
 ak call56 func56 (af [.o 10 (.e (.iH rfl):aj (.sl true 2 6 λi_ j_=>[iP 5,iP 0,iP 0,.v (.string ⟨#[]⟩),iP 0,lG (.num p0) (.var false),iP 5,iP 0,iP 0,.v (.string ⟨#[]⟩),iP 0,lG (.num q0) (.var true)].getD (i_*6+j_) (.v (.bool false))) (lG (.iy 5 (.num p0) (.var false)) (.iy 5 (.num q0) (.var true)))),.o 11 (.e (.iH rfl):aj (.agg [iP 3,iP 0,iP 0,.v (.string ⟨#[]⟩),iP 0,lG (.iy 5 (.num p0) (.var false)) (.iy 5 (.num q0) (.var true))]) (iY (.iy 3 (.iy 5 (.num p0) (.var false)) (.iy 5 (.num q0) (.var true)))))]) 
def XZ(r0:Int) : gU 57 [iP r0] (iY (.num r0)):=
 ak call57 func57 (af [.o 5 (.e (.iH rfl):aj (.agg [iP 1,iP r0,iP 1,.v (.string ⟨#[]⟩),iP 0,.v (.slice none 0 0)]) (iY (.num r0)))]) 
def Yc(r0:Int) : gU 56 [iP 5,iY (.num r0),iY (.var false)] (iY (.iy 5 (.num r0) (.var false))):=
 ak call56 func56 (af [.o 10 (.e (.iH rfl):aj (.sl true 2 6 λi_ j_=>[iP 1,iP r0,iP 1,.v (.string ⟨#[]⟩),iP 0,.v (.slice none 0 0),iP 2,iP 0,iP 0,.v (.string ⟨#[120]⟩),iP 0,.v (.slice none 0 0)].getD (i_*6+j_) (.v (.bool false))) (lG (.num r0) (.var false))),.o 11 (.e (.iH rfl):aj (.agg [iP 5,iP 0,iP 0,.v (.string ⟨#[]⟩),iP 0,lG (.num r0) (.var false)]) (iY (.iy 5 (.num r0) (.var false))))]) 
def X0(t0:Int) : gU 57 [iP t0] (iY (.num t0)):=
 ak call57 func57 (af [.o 5 (.e (.iH rfl):aj (.agg [iP 1,iP t0,iP 1,.v (.string ⟨#[]⟩),iP 0,.v (.slice none 0 0)]) (iY (.num t0)))]) 
def X3(t0:Int) : gU 56 [iP 5,iY (.num t0),iY (.var true)] (iY (.iy 5 (.num t0) (.var true))):=
 ak call56 func56 (af [.o 10 (.e (.iH rfl):aj (.sl true 2 6 λi_ j_=>[iP 1,iP t0,iP 1,.v (.string ⟨#[]⟩),iP 0,.v (.slice none 0 0),iP 2,iP 0,iP 0,.v (.string ⟨#[121]⟩),iP 0,.v (.slice none 0 0)].getD (i_*6+j_) (.v (.bool false))) (lG (.num t0) (.var true))),.o 11 (.e (.iH rfl):aj (.agg [iP 5,iP 0,iP 0,.v (.string ⟨#[]⟩),iP 0,lG (.num t0) (.var true)]) (iY (.iy 5 (.num t0) (.var true))))]) 
def X4(r0:Int)(t0:Int) : gU 56 [iP 3,iY (.iy 5 (.num r0) (.var false)),iY (.iy 5 (.num t0) (.var true))] (iY (.iy 3 (.iy 5 (.num r0) (.var false)) (.iy 5 (.num t0) (.var true)))):=
 ak call56 func56 (af [.o 10 (.e (.iH rfl):aj (.sl true 2 6 λi_ j_=>[iP 5,iP 0,iP 0,.v (.string ⟨#[]⟩),iP 0,lG (.num r0) (.var false),iP 5,iP 0,iP 0,.v (.string ⟨#[]⟩),iP 0,lG (.num t0) (.var true)].getD (i_*6+j_) (.v (.bool false))) (lG (.iy 5 (.num r0) (.var false)) (.iy 5 (.num t0) (.var true)))),.o 11 (.e (.iH rfl):aj (.agg [iP 3,iP 0,iP 0,.v (.string ⟨#[]⟩),iP 0,lG (.iy 5 (.num r0) (.var false)) (.iy 5 (.num t0) (.var true))]) (iY (.iy 3 (.iy 5 (.num r0) (.var false)) (.iy 5 (.num t0) (.var true)))))]) 
def BM(p0 q0 r0 t0:Int)(h1:vk p0)(h2:vk q0)(h3:vk r0)(h4:vk t0):gU 17 [iP p0,iP q0,iP r0,iP t0] (kX (kH p0 q0 r0 t0)):=by
 have ha:=Ge h1 h2;have hb:=Ge h3 h4;have hs:(yA p0 q0).sz+(yA r0 t0).sz<=200:=by show 7+7<=200;decide
 exact ak call17 func17 (ae [.c Oe,.c Of,.c (XX p0),.c (X9 p0),.c (XY q0),.c (Ya q0),.c (Yb p0 q0),.c (XZ r0),.c (Yc r0),.c (X0 t0),.c (X3 t0),.c (X4 r0 t0),.o 32 (.e (.iH rfl):aj (.sl true 2 6 λi_ j_=>[iP 3,iP 0,iP 0,.v (.string ⟨#[]⟩),iP 0,lG (.iy 5 (.num p0) (.var false)) (.iy 5 (.num q0) (.var true)),iP 3,iP 0,iP 0,.v (.string ⟨#[]⟩),iP 0,lG (.iy 5 (.num r0) (.var false)) (.iy 5 (.num t0) (.var true))].getD (i_*6+j_) (.v (.bool false))) (lG (.iy 3 (.iy 5 (.num p0) (.var false)) (.iy 5 (.num q0) (.var true))) (.iy 3 (.iy 5 (.num r0) (.var false)) (.iy 5 (.num t0) (.var true))))),.o 34 (.e (.iH rfl):aj (.sl true 2 1 λi_ j_=>[.v (.string ⟨#[120]⟩),.v (.string ⟨#[121]⟩)].getD (i_*1+j_) (.v (.bool false))) mF),.c (Ty (.iy 3 (.iy 5 (.num p0) (.var false)) (.iy 5 (.num q0) (.var true))) (.iy 3 (.iy 5 (.num r0) (.var false)) (.iy 5 (.num t0) (.var true))) ha hb hs)]<|rR (kX (kH p0 q0 r0 t0)) (by
  unfold kH;exact Tv _ _:E.le (.agg [iP ((((qd (.iy 3 (.iy 5 (.num p0) (.var false)) (.iy 5 (.num q0) (.var true))) (.iy 3 (.iy 5 (.num r0) (.var false)) (.iy 5 (.num t0) (.var true)))).tape).iq:Nat):Int),kB (((qd (.iy 3 (.iy 5 (.num p0) (.var false)) (.iy 5 (.num q0) (.var true))) (.iy 3 (.iy 5 (.num r0) (.var false)) (.iy 5 (.num t0) (.var true)))).tape).ops),kJ (((qd (.iy 3 (.iy 5 (.num p0) (.var false)) (.iy 5 (.num q0) (.var true))) (.iy 3 (.iy 5 (.num r0) (.var false)) (.iy 5 (.num t0) (.var true)))).tape).iC),iP 2,.v (.slice none 0 0)]) (kX (kH p0 q0 r0 t0)))) 
abbrev r7:List Iv:=[kK (nL 0 0),kK (nL 0 0)]
def LX:nJ 2 r7:=⟨rfl,λi hi=>by
 have hi:i<2:=hi;have hv:(kK (nL 0 0)).gX:=rk (Iq aE aE aE);obtain rfl|rfl:i=0\/i=1:= aC 
 all_goals exact⟨hv,rfl⟩⟩
def XV:En sk r7 60=true:= aL 
def XU:Ca sk r7 60=false:= aL 
def XT:Ca (kH (-3) 1 1 (-2)) r7 60=true:= aL 
def aa9(n e:Int)(h1:n.natAbs<4294967296)(h2:-1000<=e)(h3:e<=1000):gU 85 [iP n,iP e] (gZ (nL n e)):=by
 have hrg:mN (canon (Dy.neg (iK n)) (Dy.m (iK n)) ((Dy.e (iK n))+e)):=by rw[MY];exact(Iq h1 h2 h3).range
 exact ak call85 func85 (ae [ag [iP n] (adJ _ aC),ag [gZ (iK n),iP e] (adS _ _ (ql aC) aC aC hrg)]<|rQ (gZ (canon (Dy.neg (iK n)) (Dy.m (iK n)) ((Dy.e (iK n))+e))) (gZ (nL n e)) (by rw[MY])) 
def QJ(n e:Int)(h1:n.natAbs<4294967296)(h2:-1000<=e)(h3:e<=1000):gU 38 [iP n,iP e] (ia (kK (nL n e))):=
 ak call38 func38 (af [.c (aa9 n e aC aC aC),.c (adr (nL n e))]) 
def XS:gU 11 [kX sk,im r7,iP 60] (bP true):=by
 have:=Ch sk r7 60 Nu LX aE aE;rwa[XV]at this
def XR:gU 10 [kX sk,im r7,iP 60] (bP false):=by
 have:=AG sk r7 60 Nu LX aE aE;rwa[XU]at this
def XP:gU 10 [kX (kH (-3) 1 1 (-2)),im r7,iP 60] (bP true):=by
 have:=AG (kH (-3) 1 1 (-2)) r7 60 (Ai ⟨aE,aE⟩ ⟨aE,aE⟩ ⟨aE,aE⟩ ⟨aE,aE⟩) LX aE aE;rwa[XT]at this
def XQ:gU 17 [iP (-3),iP 1,iP 1,iP (-2)] (kX (kH (-3) 1 1 (-2))):=BM _ _ _ _ ⟨aE,aE⟩ ⟨aE,aE⟩ ⟨aE,aE⟩ ⟨aE,aE⟩
def BJ : gU 7 [] (bP true):=
 ak call7 func7 (af [.c (QJ 0 0 aE aE aE),.c (QJ 0 0 aE aE aE),.o 4 (.e (vS _ _):aj (.sl true 2 7 λi_ j_=>(iG (kK (nL 0 0))++iG (kK (nL 0 0))).getD (i_*7+j_) (.v (.bool false))) (im r7)),.c Nx,ag [kX sk,im r7,iP 60] XS,.c Nx,ag [kX sk,im r7,iP 60] XR,ag [iP (-3),iP 1,iP 1,iP (-2)] XQ,ag [kX (kH (-3) 1 1 (-2)),im r7,iP 60] XP]) 
def QI(d:RD):gU 42 [qJ d] (bP (qb d)):=
 ak call42 func42 (.w (20<(d.L.length:Int))
  (λk1=>ae [tB 6 (bh k1)]<|rR (bP (qb d)) (by
      exact .iH (by
       have:qb d=true:=by unfold qb;simp[(aC:20<d.L.length)]
       rw[this]):E.le (bP true) (bP (qb d))))
  (λk1=>ae [tB 6 (bg k1)]<|.w (300<d.e)
   (λk2=>ae [tB 10 (bh k2)]<|rR (bP (qb d)) (by
      exact .iH (by
       have:qb d=true:=by unfold qb;simp[(aC:¬20<d.L.length),k2]
       rw[this]):E.le (bP true) (bP (qb d))))
   (λk2=>ae [tB 10 (bg k2)]<|rR (bP (qb d)) (by
      exact .iH (by
       have:qb d=(decide (d.e<(-300))):=by unfold qb;simp[(aC:¬20<d.L.length),k2]
       rw[this]):E.le (bP (decide (d.e<(-300)))) (bP (qb d)))))) 
def aba(x:RI):gU 41 [wh x] (bP (tH x)):=
 ak call41 func41 (ae [.c (QI x.lo)]<|.w (qb x.lo=true)
  (λk1=>ae [tB 5 k1]<|rQ (bP true) (bP (tH x)) (ER (by simp_all[tH])))
  (λk1=>ae [tB 5 (aV k1),.c (QI x.hi)]<|rQ (bP (qb x.hi)) (bP (tH x)) (ER (by simp_all[tH])))) 
def aa8(l:List RI)(hl:l.length<=1000):gU 40 [pA l,.fn 41 []] (bP ((List.range l.length).any λi=>tH (l.getD i jR))):=
 Ga true l.length (λi j=>(yP (l.getD i jR)).getD j .any) 41 [] (λi=>tH (l.getD i jR)) (λi _=>aba _) aC 
def QK(l:List RI):gU 9 [pA l] (bP (wi l)):=
 ak call9 func9 (.w ((l.length:Int)<=8)
  (λk1=>ae [tB 5 (bh k1),ag [pA l,.fn 41 []] (aa8 l aC)]<|rQ (bP (!((List.range l.length).any λi=>tH (l.getD i jR)))) (bP (wi l)) (ER (by unfold wi;simp[(aC:l.length<=8)])))
  (λk1=>ae [tB 5 (bg k1)]<|rQ (bP false) (bP (wi l)) (ER (by unfold wi;simp[(aC:¬l.length<=8)])))) 
def sX(t T:jI):Prop:=T.iq=t.iq/\t.ops.length<=T.ops.length/\∀ i,i<t.ops.length->T.ops.getD i iw=t.ops.getD i iw
def sX.refl(t:jI):sX t t:=⟨rfl,bd _,λ_ _=>rfl⟩
def sX.trans{a b c:jI}(h:sX a b)(k:sX b c):sX a c:=⟨k.1.trans h.1,bj h.2.1 k.2.1,λi hi=>(k.2.2 i (bM hi h.2.1)).trans (h.2.2 i hi)⟩
def Ia(t:jI)(o:iM):sX t (nn t o).1/\∃ j,j<(nn t o).1.ops.length/\(nn t o).2=(nn t o).1.iq+j/\(nn t o).1.ops.getD j iw=o:=by
 unfold nn;split
 .rename_i i hi;obtain⟨a,b,_⟩:=Fq hi;exact⟨sX.refl t,i,a,rfl,acO b⟩
 .refine ⟨⟨rfl,by show t.ops.length<=(t.ops++[o]).length;simp,λi hi=>?_⟩,t.ops.length,by show t.ops.length<(t.ops++[o]).length;simp,rfl,?_⟩
  .show (t.ops++[o]).getD i iw=_;rw[bc,dm hi,<-bc]
  .show (t.ops++[o]).getD t.ops.length iw=o;simp[bc]
def qN(T:jI):kC->Nat->Prop
 | .num n,k=>∃ j,j<T.ops.length/\k=T.iq+j/\T.ops.getD j iw=⟨1,0,0,0,n,1⟩
 | .var y,k=>k=if y then 1 else 0
 | .un c n e,k=>∃ j a,j<T.ops.length/\k=T.iq+j/\T.ops.getD j iw=⟨c,a,0,n,0,0⟩/\qN T e a
 | .iy c a b,k=>∃ j x y,j<T.ops.length/\k=T.iq+j/\T.ops.getD j iw=⟨c,x,y,0,0,0⟩/\qN T a x/\qN T b y
def qN.pre{t T:jI}(h:sX t T):∀ {e:kC} {k:Nat},qN t e k->qN T e k
 | .num n,k,⟨j,h1,h2,h3⟩=>⟨j,bM h1 h.2.1,by rw[h.1];exact h2,(h.2.2 j h1).trans h3⟩
 | .var y,k,hk=>hk
 | .un c n e,k,⟨j,a,h1,h2,h3,h4⟩=>⟨j,a,bM h1 h.2.1,by rw[h.1];exact h2,(h.2.2 j h1).trans h3,qN.pre h h4⟩
 | .iy c a b,k,⟨j,x,y,h1,h2,h3,h4,h5⟩=>⟨j,x,y,bM h1 h.2.1,by rw[h.1];exact h2,(h.2.2 j h1).trans h3,qN.pre h h4,qN.pre h h5⟩
def DR:∀ (e:kC) (t:jI),sX t (ic t e).1/\qN (ic t e).1 e (ic t e).2
 | .num n,t=>by
  obtain⟨h1,j,h2,h3,h4⟩:=Ia t ⟨1,0,0,0,n,1⟩;exact⟨h1,j,h2,h3,h4⟩
 | .var y,t=>⟨sX.refl t,rfl⟩
 | .un c n e,t=>by
  obtain⟨k1,k2⟩:=DR e t;obtain⟨h1,j,h2,h3,h4⟩:=Ia (ic t e).1 ⟨c,(ic t e).2,0,n,0,0⟩;exact⟨k1.trans h1,j,_,h2,h3,h4,k2.pre h1⟩
 | .iy c a b,t=>by
  obtain⟨k1,k2⟩:=DR a t;obtain⟨l1,l2⟩:=DR b (ic t a).1;obtain⟨h1,j,h2,h3,h4⟩:=Ia (ic (ic t a).1 b).1 ⟨c,(ic t a).2,(ic (ic t a).1 b).2,0,0,0⟩;exact⟨k1.trans (l1.trans h1),j,_,_,h2,h3,h4,(k2.pre l1).pre h1,l2.pre h1⟩
def afu(a b:kC):qN (qd a b).tape a (ic jU a).2/\qN (qd a b).tape b (ic (ic jU a).1 b).2:=by
 obtain⟨k1,k2⟩:=DR a jU;obtain⟨l1,l2⟩:=DR b (ic jU a).1;have hp:sX (ic (ic jU a).1 b).1 (qd a b).tape:=⟨(k1.trans l1).1.symm,bd _,λ_ _=>rfl⟩
 exact⟨(k2.pre l1).pre hp,l2.pre hp⟩
def OK{l r:List Iv}{i:Nat}(h:i<l.length):(l++r).getD i ie=l.getD i ie:=by rw[bc,dm h,<-bc]
def Je{l:List Iv}{y:Iv}{n:Nat}(h:l.length=n):(l++[y]).getD n ie=y:=by subst h;simp[bc]
def LU{ops:List iM}{xs:List Iv}{p j:Nat}(hj:j<ops.length)(ha:(ops.getD j iw).a<xs.length+j)(hb:(ops.getD j iw).b<xs.length+j):
 (iI ops xs p ops.length).getD (xs.length+j) ie=se (ops.getD j iw) (iI ops xs p ops.length) p:=by
 obtain⟨m,e⟩:∃ m,ops.length=(j+1)+m:=⟨ops.length-(j+1),aC⟩
 rw[e,He ops xs p (j+1) m (xs.length+j) aC];show(iI ops xs p j++[se (ops.getD j iw) (iI ops xs p j) p]).getD (xs.length+j) ie=_;rw[Je (Cj _ _ _ _)];have q:∀ i,i<xs.length+j->(iI ops xs p j).getD i ie=(iI ops xs p (j+1+m)).getD i ie:=λi hi=>by
  rw[(aC:j+1+m=j+(1+m))];exact(He ops xs p j (1+m) i hi).symm
 unfold se;rw[q _ ha,q _ hb]
def E5(t:jI)(l:List Iv)(i p k:Nat):∀ m,∀ q,q<t.iq+k->(jd t l i p (k+m)).getD q ie=(jd t l i p k).getD q ie
 | 0,_,_=>rfl
 |m+1,q,hq=>by
  rw[<-E5 t l i p k m q hq];show(jd t l i p (k+m)++[_]).getD q ie=_;exact OK (by rw[Cv];omega)
def Ix{t:jI}{l:List Iv}{i p j:Nat}(hj:j<t.ops.length)(ha:(t.ops.getD j iw).a<t.iq+j)(hb:(t.ops.getD j iw).b<t.iq+j):
 (jd t l i p t.ops.length).getD (t.iq+j) ie=pP (t.ops.getD j iw) (l.getD (t.iq+j) ie) l (jd t l i p t.ops.length) p:=by
 obtain⟨m,e⟩:∃ m,t.ops.length=(j+1)+m:=⟨t.ops.length-(j+1),aC⟩
 rw[e,E5 t l i p (j+1) m (t.iq+j) aC];show(jd t l i p j++[pP (t.ops.getD j iw) (l.getD (t.iq+j) ie) l (jd t l i p j) p]).getD (t.iq+j) ie=_;rw[Je (Cv _ _ _ _ _)];have q:∀ k,k<t.iq+j->(jd t l i p j).getD k ie=(jd t l i p (j+1+m)).getD k ie:=λk hk=>by
  rw[(aC:j+1+m=j+(1+m))];exact(E5 t l i p j (1+m) k hk).symm
 unfold pP;rw[q _ ha,q _ hb]
def TU{n i:Nat}:∀ {k q:Nat},q<k->(mj n i k).getD q ie=if q=i then iF 1 else iF 0
 | 0,_,h=>absurd h (bE _)
 |k+1,q,h=>by
  unfold mj;by_cases e:q=k
  .subst e;exact Je (Em _ _ _)
  .rw [OK (by rw[Em];omega)];exact TU aC 
def WB{t:jI}{l:List Iv}{i p q:Nat}(hq:q<t.iq):(jd t l i p t.ops.length).getD q ie=if q=i then iF 1 else iF 0:=by
 have:=E5 t l i p 0 t.ops.length q aC;rw[bW]at this;rw[this];exact TU hq
structure Pt(X:Iv)(c:Rat):Prop where
 v:X.gX
 a:X.all=false
 lo:X.lo.q=c
 hi:X.hi.q=c
def Pt.of{p:Nat}{S:Rat->Prop}{X:Iv}{c:Rat}(h:y6 p S X)(hv:X.gX)(hc:G p c)(h1:S c)(h2:∀ r,S r->r=c):Pt X c:=by
 obtain⟨a,b,d⟩:=h.tE c c hc hc λr hr=>by rw[h2 r hr];exact⟨bV,bV⟩
 obtain⟨e,f⟩:=(h.je c h1).jC a;exact⟨hv,a,dg e b,dg d f⟩
def Pt.je{X:Iv}{c:Rat}(h:Pt X c):X.je c:=.inr ⟨by rw[h.lo];exact bV,by rw[h.hi];exact bV⟩
def Pt.is{X:Iv}{c r:Rat}(h:Pt X c)(k:X.je r):r=c:=by
 obtain⟨a,b⟩:=k.jC h.a;rw[h.lo]at a;rw[h.hi]at b;exact dg b a
def Pt.add{X Y:Iv}{a b:Rat}(h:Pt X a)(k:Pt Y b){p:Nat}(hp:1<=p)(gY:p<=4096)(hg:G p (a+b)):Pt (jN X Y p) (a+b):=
 Pt.of (Cp h.v k.v h.a k.a hp gY) (oW h.v k.v hp gY) hg ⟨a,b,h.je,k.je,rfl⟩ λr ⟨x,y,hx,hy,e⟩=>by rw[e,h.is hx,k.is hy]
def Pt.mul{X Y:Iv}{a b:Rat}(h:Pt X a)(k:Pt Y b){p:Nat}(hp:1<=p)(gY:p<=4096)(hg:G p (a*b)):Pt (jm X Y p) (a*b):=
 Pt.of (BP h.v k.v h.a k.a hp gY) (nT _ _ hp gY) hg ⟨a,b,h.je,k.je,rfl⟩ λr ⟨x,y,hx,hy,e⟩=>by rw[e,h.is hx,k.is hy]
def Pt.abX{X Y:Iv}(h:Pt X 0)(hv:Y.gX)(ha:Y.all=false){p:Nat}(hp:1<=p)(gY:p<=4096):Pt (jm X Y p) 0:=
 Pt.of (BP h.v hv h.a ha hp gY) (nT _ _ hp gY) (.inl (wo p)) ⟨0,Y.lo.q,h.je,hv.wQ,by rw[fH]⟩ λr ⟨x,y,hx,hy,e⟩=>by rw[e,h.is hx,fH]
def L6{n:Int}(h1:-1048576<=n)(h2:n<=1048576){p:Nat}(hp:30<=p):G p (n:Rat):=by
 have key:∀ m:Nat,m<=1048576->GM p (m:Rat):=λm hm=>by
  have hb:ib m<=21:=kV.2 aC;exact⟨m,0,aC,aC,aC,by rw[show P2 0=1 from rfl,Rat.mul_one]⟩
 obtain⟨m,rfl|rfl⟩:=n.eq_nat_or_neg
 .exact .inl (key m aC)
 .refine .inr ?_;rw[fg,eG];exact key m aC 
def DS{n:Int}(h1:n.natAbs<4294967296):Pt (iF n) (n:Rat):=⟨rk (ql h1),rfl,tO n,tO n⟩
def aer{n:Int}(h1:-1048576<=n)(h2:n<=1048576):Pt (pN n 1 60) (n:Rat):=by
 have hr:=Se (n:=n) aC aC;have d0:(iK 1).m≠0:=J9 aE;obtain⟨A,B⟩:=II (a:=iK n) (b:=iK 1) d0 (p:=60) aE aE;have e:(iK n).q/(iK 1).q=(n:Rat):=by
  rw[tO,tO];show(n:Rat)/(1:Rat)=n
  grind
 rw[e]at A B;have hg:=L6 h1 h2 (p:=60) aE;obtain⟨a1,a2⟩:=A.2 _ hg bV;obtain⟨b1,b2⟩:=B.2 _ hg bV;have a3:=(A.1 a1).2;have b3:=(B.1 b1).2;have hv:=SI n 1 (p:=60) aE aE;unfold pN at hv ⊢;rw[aZ hr]at hv ⊢;unfold kI at hv ⊢;rw[a1,b1]at hv ⊢;exact⟨hv,rfl,dg a3 a2,dg b2 b3⟩
structure Bd(X:Iv)(k:Int):Prop where
 v:X.gX
 a:X.all=false
 lo:-P2 k<=X.lo.q
 hi:X.hi.q<=P2 k
def L7{p:Nat}{k:Int}(hp:1<=p)(h1:0<=k)(h2:k<=16000):G p (P2 k):=.inl ⟨1,k,by
 have:ib 1<=1:=kV.2 aE;omega,aC,by
 have:ib 1<=1:=kV.2 aE;omega,by show P2 k=(1:Rat)*P2 k;rw[eH]⟩
def Bd.of{p:Nat}{S:Rat->Prop}{X:Iv}{k:Int}(h:y6 p S X)(hv:X.gX)(hp:1<=p)(h1:0<=k)(h2:k<=16000)(hs:∀ r,S r -> -P2 k<=r/\r<=P2 k):Bd X k:=by
 obtain⟨a,b,d⟩:=h.tE (-P2 k) (P2 k) (L7 hp h1 h2).neg (L7 hp h1 h2) hs;exact⟨hv,a,b,d⟩
def Bd.je{X:Iv}{k:Int}(h:Bd X k){r:Rat}(hr:X.je r):-P2 k<=r/\r<=P2 k:=by
 obtain⟨a,b⟩:=hr.jC h.a;exact⟨bF h.lo a,bF b h.hi⟩
def Bd.mul{X Y:Iv}{n:Int}{k:Int}(h:Pt X (n:Rat))(h1:-1024<=n)(h2:n<=1024)(hy:Bd Y k)(k0:0<=k)(k1:k<=10000):Bd (jm X Y 60) (k+10):=by
 refine Bd.of (BP h.v hy.v h.a hy.a aE aE) (nT _ _ aE aE) aE aC aC λr ⟨x,y,hx,hb,e⟩=>?_
 obtain⟨b1,b2⟩:=hy.je hb;have hxn:=h.is hx;have e2:P2 (k+10)=1024*P2 k:=by rw[oE,ej];congr 1
 have n1:(-1024:Rat)<=(n:Rat):=dc.2 h1;have n2:(n:Rat)<=1024:=dc.2 h2;obtain⟨c1,c2⟩:=IA n1 n2 b1 b2;rw[e,e2,hxn];constructor
 .rcases c1 with c|c|c|c<;>have:=lV k<;>grind
 .rcases c2 with c|c|c|c<;>have:=lV k<;>grind
def Bd.add{X Y:Iv}{k:Int}(hx:Bd X k)(hy:Bd Y k)(k0:0<=k)(k1:k<=10000):Bd (jN X Y 60) (k+1):=by
 refine Bd.of (Cp hx.v hy.v hx.a hy.a aE aE) (oW hx.v hy.v aE aE) aE aC aC λr ⟨x,y,ha,hb,e⟩=>?_
 obtain⟨a1,a2⟩:=hx.je ha;obtain⟨b1,b2⟩:=hy.je hb;have e2:P2 (k+1)=2*P2 k:=by rw[oE,ej];congr 1
 rw[e,e2];constructor<;>grind
def tX(i:Nat)(p q:Int):Int:=if i=0 then p else q
def S8(n:Int):Prop:=-128<=n/\n<=127
def AM{n:Int}(h1:-1048576<=n)(h2:n<=1048576):G 60 (n:Rat):=L6 h1 h2 aE 
def acv{T:jI}{X Y:Iv}(oo:T.iq=2){n:Int}(h1:S8 n){k:Nat}(h:qN T (.num n) k)(i:Nat):
 Pt ((iI T.ops [X,Y] 60 T.ops.length).getD k ie) (n:Rat)/\Pt ((jd T (iI T.ops [X,Y] 60 T.ops.length) i 60 T.ops.length).getD k ie) 0:=by
 obtain⟨j,hj,rfl,ho⟩:=h;have e1:=LU (ops:=T.ops) (xs:=[X,Y]) (p:=60) (j:=j) hj (by rw[ho];show 0<2+j;omega) (by rw[ho];show 0<2+j;omega);have e2:=Ix (t:=T) (l:=iI T.ops [X,Y] 60 T.ops.length) (i:=i) (p:=60) (j:=j) hj (by rw[ho];show 0<T.iq+j;omega) (by rw[ho];show 0<T.iq+j;omega);have e1:(iI T.ops [X,Y] 60 T.ops.length).getD (2+j) ie=pN n 1 60:=by rw[show 2+j=[X,Y].length+j from rfl,e1,ho];rfl
 rw[oo,ho,e1]at e2;have hp:=aer (n:=n) (by have:=h1.1;omega) (by have:=h1.2;omega);rw[oo,e1,e2,WR hp.a rfl];exact⟨hp,DS (n:=0) aE⟩
def agk{T:jI}{X Y:Iv}(oo:T.iq=2)(hX:Bd X 1000)(hY:Bd Y 1000){y:Bool}{k:Nat}(h:qN T (.var y) k)(i:Nat)(hi:i<2):
 Bd ((iI T.ops [X,Y] 60 T.ops.length).getD k ie) 1000/\Pt ((jd T (iI T.ops [X,Y] 60 T.ops.length) i 60 T.ops.length).getD k ie) ((tX i (if y then 0 else 1) (if y then 1 else 0):Int):Rat):=by
 have hk:k=if y then 1 else 0:=h
 have e0:=He T.ops [X,Y] 60 0 T.ops.length k (by show k<2+0;subst hk;split<;>omega);rw[bW]at e0;have e1:=WB (t:=T) (l:=iI T.ops [X,Y] 60 T.ops.length) (i:=i) (p:=60) (q:=k) (by subst hk;split<;>omega);rw[e0,e1];cases y with
 |false=>
  subst hk;refine⟨hX,?_⟩;obtain rfl|rfl:i=0\/i=1:= aC 
  .exact DS (n:=1) aE 
  .exact DS (n:=0) aE 
 |true=>
  subst hk;refine⟨hY,?_⟩;obtain rfl|rfl:i=0\/i=1:= aC 
  .exact DS (n:=0) aE 
  .exact DS (n:=1) aE 
def Rf{T:jI}{X Y:Iv}(hT:wC T)(oo:T.iq=2)(hX:Bd X 1000)(hY:Bd Y 1000){n:Int}{y:Bool}(h1:S8 n){k:Nat}(h:qN T (.iy 5 (.num n) (.var y)) k)(i:Nat)(hi:i<2):
 Bd ((iI T.ops [X,Y] 60 T.ops.length).getD k ie) 1010/\Pt ((jd T (iI T.ops [X,Y] 60 T.ops.length) i 60 T.ops.length).getD k ie) ((tX i (if y then 0 else n) (if y then n else 0):Int):Rat):=by
 obtain⟨j,a,b,hj,rfl,ho,ha,hb⟩:=h;have il:=hT.op j hj;rw[ho,oo]at il;obtain⟨_,o2,o3,_⟩:=il.iy (show 5≠1 by decide) (show 5<=6 by decide);have o2:a<2+j:=o2;have o3:b<2+j:=o3;obtain⟨n1,n2⟩:=acv oo h1 ha i;obtain⟨v1,v2⟩:=agk oo hX hY hb i hi;have e1:=LU (ops:=T.ops) (xs:=[X,Y]) (p:=60) (j:=j) hj (by rw[ho];exact o2) (by rw[ho];exact o3);have e2:=Ix (t:=T) (l:=iI T.ops [X,Y] 60 T.ops.length) (i:=i) (p:=60) (j:=j) hj (by rw[ho,oo];exact o2) (by rw[ho,oo];exact o3);have e1:(iI T.ops [X,Y] 60 T.ops.length).getD (2+j) ie=jm ((iI T.ops [X,Y] 60 T.ops.length).getD a ie) ((iI T.ops [X,Y] 60 T.ops.length).getD b ie) 60:=by rw[show 2+j=[X,Y].length+j from rfl,e1,ho];rfl
 have hm:=Bd.mul n1 (by have:=h1.1;omega) (by have:=h1.2;omega) v1 aE aE;rw[oo,ho,e1]at e2;rw[oo,e1,e2];refine⟨hm,?_⟩;unfold pP;rw[aY (by rw[hm.a];decide)];have d1:=n2.abX v1.v v1.a (p:=60) aE aE;have hs:=h1.1;have jS:=h1.2;have key:∀ c:Int,(c=0\/c=1)->Pt ((jd T (iI T.ops [X,Y] 60 T.ops.length) i 60 T.ops.length).getD b ie) (c:Rat)->Pt (jN (jm ((jd T (iI T.ops [X,Y] 60 T.ops.length) i 60 T.ops.length).getD a ie) ((iI T.ops [X,Y] 60 T.ops.length).getD b ie) 60) (jm ((iI T.ops [X,Y] 60 T.ops.length).getD a ie) ((jd T (iI T.ops [X,Y] 60 T.ops.length) i 60 T.ops.length).getD b ie) 60) 60) ((n*c:Int):Rat):=λc hc hv=>by
  have g1:G 60 ((n:Rat)*(c:Rat)):=by rw[<-ahi];rcases hc with rfl|rfl<;>exact AM aC aC 
  have d2:=n1.mul hv (p:=60) aE aE g1;have:=d1.add d2 (p:=60) aE aE (by rw[gF];exact g1);rw[gF,<-ahi]at this;exact this
 show Pt (jN (jm _ _ 60) (jm _ _ 60) 60) _;have:=key _ (by rcases(aC:i=0\/i=1)with rfl|rfl<;>cases y<;>simp[tX]) v2;have e:n*tX i (if y then 0 else 1) (if y then 1 else 0)=tX i (if y then 0 else n) (if y then n else 0):=by
  rcases(aC:i=0\/i=1)with rfl|rfl<;>cases y<;>simp[tX]
 rw[e]at this;exact this
def Gc{T:jI}{X Y:Iv}(hT:wC T)(oo:T.iq=2)(hX:Bd X 1000)(hY:Bd Y 1000){p q:Int}(h1:S8 p)(h2:S8 q){k:Nat}(h:qN T (yA p q) k)(i:Nat)(hi:i<2):
 ((iI T.ops [X,Y] 60 T.ops.length).getD k ie).all=false/\Pt ((jd T (iI T.ops [X,Y] 60 T.ops.length) i 60 T.ops.length).getD k ie) ((tX i p q:Int):Rat):=by
 obtain⟨j,a,b,hj,rfl,ho,ha,hb⟩:=h;have il:=hT.op j hj;rw[ho,oo]at il;obtain⟨_,o2,o3,_⟩:=il.iy (show 3≠1 by decide) (show 3<=6 by decide);have o2:a<2+j:=o2;have o3:b<2+j:=o3;obtain⟨n1,n2⟩:=Rf hT oo hX hY h1 ha i hi;obtain⟨v1,v2⟩:=Rf hT oo hX hY h2 hb i hi;have e1:=LU (ops:=T.ops) (xs:=[X,Y]) (p:=60) (j:=j) hj (by rw[ho];exact o2) (by rw[ho];exact o3);have e2:=Ix (t:=T) (l:=iI T.ops [X,Y] 60 T.ops.length) (i:=i) (p:=60) (j:=j) hj (by rw[ho,oo];exact o2) (by rw[ho,oo];exact o3);have e1:(iI T.ops [X,Y] 60 T.ops.length).getD (2+j) ie=jN ((iI T.ops [X,Y] 60 T.ops.length).getD a ie) ((iI T.ops [X,Y] 60 T.ops.length).getD b ie) 60:=by rw[show 2+j=[X,Y].length+j from rfl,e1,ho];rfl
 have hm:=Bd.add n1 v1 aE aE;rw[oo,ho,e1]at e2;rw[oo,e1,e2];refine⟨hm.a,?_⟩;unfold pP;rw[aY (by rw[hm.a];decide)];show Pt (jN _ _ 60) _;have hs:=h1.1;have jS:=h1.2;have ht:=h2.1;have qE:=h2.2;have e:tX i (if false then 0 else p) (if false then p else 0)+tX i (if true then 0 else q) (if true then q else 0)=tX i p q:=by
  rcases(aC:i=0\/i=1)with rfl|rfl<;>simp[tX]
 have:=n2.add v2 (p:=60) aE aE (by rw[<-eF,e];unfold tX;split<;>exact AM aC aC);rw[<-eF,e]at this;exact this
def Ll{d:Dy}(hd:d.mf)(hg:G 60 d.q)(up:Bool):jf d 60 up=0/\(jk d 60 up).q=d.q:=by
 cases up with
 |true=>
  have h:=tW hd (p:=60) aE aE;obtain⟨a,b⟩:=h.2 _ hg bV;exact⟨a,dg b (h.1 a).2⟩
 |false=>
  have h:=tV hd (p:=60) aE aE;obtain⟨a,b⟩:=h.2 _ hg bV;exact⟨a,dg (h.1 a).2 b⟩
def ke(c:Int):Int:=max c (-c)
def sd{c:Int}(h:S8 c):0<=ke c/\ke c<=128:=by unfold ke;have:=h.1;have:=h.2;omega
def abI{X:Iv}{c:Int}(h:Pt X (c:Rat)):(kg X).q=((ke c:Int):Rat):=by
 obtain⟨h1,h2,h3⟩:=yC (x:=X) (by rw[h.lo,h.hi];exact bV);rw[h.hi]at h1 h3;rw[h.lo]at h2 h3;rw[<-fg]at h2 h3;unfold ke;rcases h3 with h3|h3
 .rw [h3]at h2 ⊢;rw[show max c (-c)=c by have:=dc.1 h2;omega]
 .rw [h3]at h1 ⊢;rw[show max c (-c) = -c by have:=dc.1 h1;omega]
def NG{r:List Iv}{i:Nat}{c R:Int}(hv:∀ k,(r.getD k ie).gX)(hc:-1000<=c/\c<=1000)(hR:0<=R/\R<=1000)(hb:yM r i 60=true)(hq:(kq r i 60 r.length).q=(R:Rat))(he:Pt (r.getD i ie) (c:Rat)):
 tU (mI r i 60) = !decide (c+R<0):=by
 have Pn:=(BX r i (p:=60) aE aE r.length).canon;obtain⟨v1,v2⟩:=(hv i).jC;have q1:(iN (r.getD i ie).lo (jv (kq r i 60 r.length))).q=((c-R:Int):Rat):=by rw[Gw,px,he.lo,hq,Rat.intCast_sub];grind
 have q2:(iN (r.getD i ie).hi (kq r i 60 r.length)).q=((c+R:Int):Rat):=by rw[Gw,he.hi,hq,eF]
 obtain⟨a1,a2⟩:=Ll (xM v1.canon (Gk Pn)) (by rw[q1];exact AM aC aC) false;obtain⟨b1,b2⟩:=Ll (xM v2.canon Pn) (by rw[q2];exact AM aC aC) true;unfold mI;rw[aZ hb,aZ ⟨a1,b1⟩];unfold tU;rw[eD,fe];have hs:=rm (jk (iN (r.getD i ie).hi (kq r i 60 r.length)) 60 true);rw[b2,q2]at hs;have h0:((c+R:Int):Rat)<0↔c+R<0:=by
  constructor
  .intro h;exact Int.not_le.1 λk=>absurd h (df.2 (dc.2 k))
  .intro h;exact Rat.not_le.1 λk=>absurd h (gH.2 (dc.1 k))
 rw[cI,eV,decide_eq_false_iff_not,<-h0,<-hs.2];exact⟨λh=>gH.2 h,λh=>gH.1 h⟩
def Sd{e0 e1:Iv}{c0 c1:Int}(h0:Pt e0 (c0:Rat))(h1:Pt e1 (c1:Rat))(s0:S8 c0)(s1:S8 c1):
 (yM [e0,e1] 0 60=true/\(kq [e0,e1] 0 60 2).q=((ke c1:Int):Rat))/\(yM [e0,e1] 1 60=true/\(kq [e0,e1] 1 60 2).q=((ke c0:Int):Rat)):=by
 have key:∀ {e:Iv} {c:Int},Pt e (c:Rat)->S8 c->jf (iN jt (kg e)) 60 true=0/\(jk (iN jt (kg e)) 60 true).q=((ke c:Int):Rat):=fun {e c} h s=>by
  have q1:(iN jt (kg e)).q=((ke c:Int):Rat):=by rw[Gw,tR,abI h,gF]
  obtain⟨v1,v2⟩:=h.v.jC;have:=sd s;obtain⟨a,b⟩:=Ll (xM qe.canon (yD v1 v2).canon) (by rw[q1];exact AM aC aC) true;exact⟨a,by rw[b,q1]⟩
 obtain⟨a1,a2⟩:=key h1 s1;obtain⟨b1,b2⟩:=key h0 s0;refine⟨⟨?_,a2⟩,⟨?_,b2⟩⟩
 .have e:pt [e0,e1] 0 60 1=true:=by unfold pt;rw[show jf (iN (kq [e0,e1] 0 60 1) (kg ([e0,e1].getD 1 ie))) 60 true=0 from a1];rfl
  unfold yM;show(pt [e0,e1] 0 60 0&&(pt [e0,e1] 0 60 1&&true))=true;rw[e];rfl
 .have e:pt [e0,e1] 1 60 0=true:=by unfold pt;rw[show jf (iN (kq [e0,e1] 1 60 0) (kg ([e0,e1].getD 0 ie))) 60 true=0 from b1];rfl
  unfold yM;show(pt [e0,e1] 1 60 0&&(pt [e0,e1] 1 60 1&&true))=true;rw[e];rfl
section
variable {p q r t:Int} {X Y:Iv}
def abu(h1:S8 p)(h2:S8 q)(h3:S8 r)(h4:S8 t)(hX:Bd X 1000)(hY:Bd Y 1000):
 qm (kH p q r t) [X,Y] 60=false/\∃ a b c d,ln (kH p q r t) [X,Y] 60=[[a,b],[c,d]]/\Pt a (p:Rat)/\Pt b (q:Rat)/\Pt c (r:Rat)/\Pt d (t:Rat):=by
 have ok:mR (kH p q r t):=Ai ⟨by have:=h1.1;omega,by have:=h1.2;omega⟩ ⟨by have:=h2.1;omega,by have:=h2.2;omega⟩ ⟨by have:=h3.1;omega,by have:=h3.2;omega⟩ ⟨by have:=h4.1;omega,by have:=h4.2;omega⟩;obtain⟨d1,d2⟩:=afu (yA p q) (yA r t);have a0:=Gc ok.tape rfl hX hY h1 h2 d1 0 aE;have a1:=Gc ok.tape rfl hX hY h1 h2 d1 1 aE;have b0:=Gc ok.tape rfl hX hY h3 h4 d2 0 aE;have b1:=Gc ok.tape rfl hX hY h3 h4 d2 1 aE;have hf:∃ u v,pk (kH p q r t).tape ([X,Y]++(kH p q r t).params) 60=[u,v]/\u.all=false/\v.all=false:=⟨_,_,rfl,a0.1,b0.1⟩
 have hj:∃ a b c d,po (kH p q r t).tape ([X,Y]++(kH p q r t).params) 60 (kH p q r t).jy=[[a,b],[c,d]]/\Pt a (p:Rat)/\Pt b (q:Rat)/\Pt c (r:Rat)/\Pt d (t:Rat):=⟨_,_,_,_,rfl,a0.2,a1.2,b0.2,b1.2⟩
 obtain⟨u,v,f1,f2,f3⟩:=hf;obtain⟨a,b,c,d,j1,pa,pb,pc,pd⟩:=hj;refine⟨?_,a,b,c,d,j1,pa,pb,pc,pd⟩;unfold qm;rw[f1,j1];show((u.all||(v.all||false))||((a.all||(b.all||false))||((c.all||(d.all||false))||false)))=false;rw[f2,f3,pa.a,pb.a,pc.a,pd.a];rfl
def Dz(h1:S8 p)(h2:S8 q)(h3:S8 r)(h4:S8 t)(hX:Bd X 1000)(hY:Bd Y 1000):
 Ca (kH p q r t) [X,Y] 60=decide (p+ke q<0/\t+ke r<0)/\En (kH p q r t) [X,Y] 60=decide (0<p+t):=by
 obtain⟨hn,a,b,c,d,hj,pa,pb,pc,pd⟩:=abu h1 h2 h3 h4 hX hY;have v1:=h1.1;have v2:=h1.2;have v3:=h4.1;have v4:=h4.2;have l2:=sd h2;have l3:=sd h3;have val:∀ {x y:Iv},x.gX->y.gX->∀ k,([x,y].getD k ie).gX:=λhx hy k=>by
  rcases k with _|_|k
  .exact hx
  .exact hy
  .exact kS
 obtain⟨⟨x1,x2⟩,_⟩:=Sd pa pb h1 h2;obtain⟨_,y1,y2⟩:=Sd pc pd h3 h4;have e1:=NG (r:=[a,b]) (i:=0) (val pa.v pb.v) ⟨aC,aC⟩ ⟨aC,aC⟩ x1 x2 pa;have e2:=NG (r:=[c,d]) (i:=1) (val pc.v pd.v) ⟨aC,aC⟩ ⟨aC,aC⟩ y1 y2 pd;constructor
 .unfold Ca;rw[hn,hj];show(true && !(tU (mI [a,b] 0 60)||(tU (mI [c,d] 1 60)||false)))=_;rw[e1,e2,e9,fV,fe];simp
 .unfold En;rw[hn,hj];show(true&&decide (0<lO (jN a d 60)))=_;have hs:=pa.add pd (p:=60) aE aE (by rw[<-eF];exact AM aC aC);rw[<-eF]at hs;rw[e9,fe,cI,cI];have s1:=rm (jN a d 60).lo;rw[hs.lo]at s1;have h0:(0:Rat)<((p+t:Int):Rat)↔0<p+t:=by
   constructor
   .intro h;exact Int.not_le.1 λk=>absurd h (df.2 (dc.2 k))
   .intro h;exact Rat.not_le.1 λk=>absurd h (gH.2 (dc.1 k))
  unfold lO;rw[aY (by rw[hs.a];decide)];by_cases hk:0<(jN a d 60).lo.iJ
  .rw [aZ hk];exact⟨λ_=>h0.1 (s1.1.1 hk),λ_=> aE⟩
  .rw [aY hk];constructor
   .intro h;split at h<;>omega
   .intro h;exact absurd (s1.1.2 (h0.2 h)) hk
end
def WT{p q r t:Int}(h1:p+ke q<0)(h2:t+ke r<0):p+t<0/\0<p*t-q*r:=by
 unfold ke at h1 h2;refine⟨aC,?_⟩;obtain⟨a,ha⟩:∃ a:Nat,p = -((q.natAbs+1+a:Nat):Int):=⟨(-p-1-q.natAbs).toNat,aC⟩
 obtain⟨b,hb⟩:∃ b:Nat,t = -((r.natAbs+1+b:Nat):Int):=⟨(-t-1-r.natAbs).toNat,aC⟩
 have h3:q*r<=((q.natAbs*r.natAbs:Nat):Int):=by
  have:(q*r).natAbs=q.natAbs*r.natAbs:=Int.natAbs_mul q r;omega
 have h4:p*t=(((q.natAbs+1+a)*(r.natAbs+1+b):Nat):Int):=by
  rw[ha,hb,Int.neg_mul_neg];simp
 have h5:q.natAbs*r.natAbs<(q.natAbs+1+a)*(r.natAbs+1+b):=by
  have:=cW (aC:q.natAbs<=q.natAbs+a) (aC:r.natAbs<=r.natAbs+b);have e:(q.natAbs+1+a)*(r.natAbs+1+b)=(q.natAbs+a)*(r.natAbs+b)+(q.natAbs+a)+(r.natAbs+b)+1:=by
   rw[(aC:q.natAbs+1+a=(q.natAbs+a)+1),(aC:r.natAbs+1+b=(r.natAbs+b)+1),bR,bJ];omega
  omega
 omega
end Go.Proofs.YtkjkcjhacddojaaGreatDoor
