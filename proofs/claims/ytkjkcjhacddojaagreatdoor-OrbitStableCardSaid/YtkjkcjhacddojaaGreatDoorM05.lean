/- Lemmas that the last file uses. -/
import Derived.Test.YtkjkcjhacddojaaGreatDoorM04
set_option linter.unusedSimpArgs false
set_option linter.unusedVariables false
set_option linter.defProp false
set_option maxHeartbeats 4000000
open Go.Proofs.Tryz
namespace Go.Proofs.YtkjkcjhacddojaaGreatDoor
open Go.RowKit Fp Pu
def Xd(L M:List Nat)(N k:Nat)(x:Nat):PS:=⟨30,true,[(5,.e (iP ((N:Int)-1-(x:Int)))),(0,.e (ic L)),(1,.e (ic M))],[]⟩
def Xf(L M:List Nat)(N k:Nat)(x:Nat):PS:=⟨30,true,[(5,.e (iP ((N:Int)-1-(x:Int)))),(0,.e (ic L)),(1,.e (ic M))],[]⟩
def Xe(L M:List Nat)(N k:Nat)(x:Nat):PS:=⟨30,true,[(5,.e (iP ((N:Int)-1-(x:Int)))),(0,.e (ic L)),(1,.e (ic M))],[]⟩
def Xa(L:List Nat)(k:Nat)(x:Nat):PS:=⟨31,true,[(3,.e (iP ((L.length:Int)-1-(x:Int)))),(0,.e (ic L))],[]⟩
def W9(L:List Nat)(k:Nat)(x:Nat):PS:=⟨31,true,[(3,.e (iP ((L.length:Int)-1-(x:Int)))),(0,.e (ic L))],[]⟩
def Xb(L:List Nat)(k:Nat)(y:Nat):PS:=⟨31,true,[(5,.e (.v (.int .u32 (((L.getD ((L.length:Int)-1-(k:Int)).toNat 0)/2^y:Nat):Int)))),(4,.e (iP ((32*((L.length:Int)-1-(k:Int)))+(y:Int))))],[]⟩
def rI(L:List Nat)(z:Int)(hk:iK L)(h0:0<=z):gZ 313 [ic L,iP z] (.v (.int .u64 (L.getD z.toNat 0:Int))):=by
 have h1:=hk.getD z.toNat
 exact ak call313 func313 (.w (z<(L.length:Int))
  (λk1=>af [tB 8 (bA k1),iX z (L.length) aE,.o 13 (.int (pZ _ aE):aj (.v (.int .u64 (IntKind.u64.wrap ((L.getD (z).toNat 0:Nat):Int)))) (.v (.int .u64 ((L.getD (z).toNat 0:Nat):Int))))])
  (λk1=>by
   have hz:L.getD z.toNat 0=0:=by rw[bD,cC aE];rfl
   exact ae [tB 8 (bB k1)]<|rQ (.v (.int .u64 0)) (.v (.int .u64 (L.getD z.toNat 0:Int))) (by rw[hz];rfl))) 
def Al(L:List Nat)(n:Nat)(hk:iK L):gZ 313 [ic L,iP (n:Int)] (.v (.int .u64 (L.getD n 0:Int))):=rI L n hk (Int.natCast_nonneg n)
def aj8(L M:List Nat)(N k:Nat)(hL:iK L)(hM:iK M)(hN:N=max L.length M.length)(hs:N<=1000000)(heq:∀ x,x<k->L.getD (N-1-x) 0=M.getD (N-1-x) 0)(hk:k=N):gZ 315 [ic L,ic M] (iP 0):=
 ak call315 func315 (af [.o 10 (aq (if(M.length:Int)>(L.length:Int)then(M.length:Int)else(L.length:Int)) N (by rw[hN];split<;>omega)),
  iz ((N:Int)-1) aE,.s (Sp.jv (Xd L M N k) 0 k aE (λx hx jU=>by
    have hj:(((N:Int)-1-(x:Int))).toNat=N-1-x:= aE ;have he:=heq x aE;rw[<-hj]at he;exact iG (ae [tT 13 (0<=((N:Int)-1-(x:Int))) aE,ag [ic L,iP ((N:Int)-1-(x:Int))] (rI _ _ aF aE),ag [ic M,iP ((N:Int)-1-(x:Int))] (rI _ _ aF aE),tF 22 (((L.getD ((N:Int)-1-(x:Int)).toNat 0:Nat):Int)<((M.getD ((N:Int)-1-(x:Int)).toNat 0:Nat):Int)) aE,ag [ic L,iP ((N:Int)-1-(x:Int))] (rI _ _ aF aE),ag [ic M,iP ((N:Int)-1-(x:Int))] (rI _ _ aF aE),tF 29 (((M.getD ((N:Int)-1-(x:Int)).toNat 0:Nat):Int)<((L.getD ((N:Int)-1-(x:Int)).toNat 0:Nat):Int)) aE,
     iz (((N:Int)-1-(x:Int))-1) aE]<|.e (af [.o 5 (aq (((N:Int)-1-(x:Int))-1) ((N:Int)-1-((x+1:Nat):Int)) aT)])) aI)
  (λhx=>by
    exact iG (af [tF 13 (0<=((N:Int)-1-(k:Int))) aE]) aI) aM:ju 2 f315 (Xd L M N k 0) (.exit 0) ⟨30,true,[],[]⟩) (af [.o 5 (aq ((N:Int)-1) ((N:Int)-1-((0:Nat):Int)) aT)])]) 
def aka(L M:List Nat)(N k:Nat)(hL:iK L)(hM:iK M)(hN:N=max L.length M.length)(hs:N<=1000000)(heq:∀ x,x<k->L.getD (N-1-x) 0=M.getD (N-1-x) 0)(hk:k<N)(hd:L.getD (N-1-k) 0<M.getD (N-1-k) 0):gZ 315 [ic L,ic M] (iP (-1)):=
 ak call315 func315 (ae [.o 10 (aq (if(M.length:Int)>(L.length:Int)then(M.length:Int)else(L.length:Int)) N (by rw[hN];split<;>omega)),
  iz ((N:Int)-1) aE,.s (Sp.jv (Xf L M N k) 0 k aE (λx hx jU=>by
    have hj:(((N:Int)-1-(x:Int))).toNat=N-1-x:= aE ;have he:=heq x aE;rw[<-hj]at he;exact iG (ae [tT 13 (0<=((N:Int)-1-(x:Int))) aE,ag [ic L,iP ((N:Int)-1-(x:Int))] (rI _ _ aF aE),ag [ic M,iP ((N:Int)-1-(x:Int))] (rI _ _ aF aE),tF 22 (((L.getD ((N:Int)-1-(x:Int)).toNat 0:Nat):Int)<((M.getD ((N:Int)-1-(x:Int)).toNat 0:Nat):Int)) aE,ag [ic L,iP ((N:Int)-1-(x:Int))] (rI _ _ aF aE),ag [ic M,iP ((N:Int)-1-(x:Int))] (rI _ _ aF aE),tF 29 (((M.getD ((N:Int)-1-(x:Int)).toNat 0:Nat):Int)<((L.getD ((N:Int)-1-(x:Int)).toNat 0:Nat):Int)) aE,
     iz (((N:Int)-1-(x:Int))-1) aE]<|.e (af [.o 5 (aq (((N:Int)-1-(x:Int))-1) ((N:Int)-1-((x+1:Nat):Int)) aT)])) aI)
  (λhx=>by
    have hj:(((N:Int)-1-(k:Int))).toNat=N-1-k:= aE ;rw[<-hj]at hd;exact iG (af [tT 13 (0<=((N:Int)-1-(k:Int))) aE,ag [ic L,iP ((N:Int)-1-(k:Int))] (rI _ _ aF aE),ag [ic M,iP ((N:Int)-1-(k:Int))] (rI _ _ aF aE),tT 22 (((L.getD ((N:Int)-1-(k:Int)).toNat 0:Nat):Int)<((M.getD ((N:Int)-1-(k:Int)).toNat 0:Nat):Int)) aE]) aI) aM:ju 2 f315 (Xf L M N k 0) .ret ⟨30,true,[(4,.e (iP (-1)))],[]⟩) (af [.o 5 (aq ((N:Int)-1) ((N:Int)-1-((0:Nat):Int)) aT)])]<|rR (iP (-1)) (.iM rfl:E.le (iP (-1)) (iP (-1)))) 
def aj9(L M:List Nat)(N k:Nat)(hL:iK L)(hM:iK M)(hN:N=max L.length M.length)(hs:N<=1000000)(heq:∀ x,x<k->L.getD (N-1-x) 0=M.getD (N-1-x) 0)(hk:k<N)(hd:M.getD (N-1-k) 0<L.getD (N-1-k) 0):gZ 315 [ic L,ic M] (iP 1):=
 ak call315 func315 (af [.o 10 (aq (if(M.length:Int)>(L.length:Int)then(M.length:Int)else(L.length:Int)) N (by rw[hN];split<;>omega)),
  iz ((N:Int)-1) aE,.s (Sp.jv (Xe L M N k) 0 k aE (λx hx jU=>by
    have hj:(((N:Int)-1-(x:Int))).toNat=N-1-x:= aE ;have he:=heq x aE;rw[<-hj]at he;exact iG (ae [tT 13 (0<=((N:Int)-1-(x:Int))) aE,ag [ic L,iP ((N:Int)-1-(x:Int))] (rI _ _ aF aE),ag [ic M,iP ((N:Int)-1-(x:Int))] (rI _ _ aF aE),tF 22 (((L.getD ((N:Int)-1-(x:Int)).toNat 0:Nat):Int)<((M.getD ((N:Int)-1-(x:Int)).toNat 0:Nat):Int)) aE,ag [ic L,iP ((N:Int)-1-(x:Int))] (rI _ _ aF aE),ag [ic M,iP ((N:Int)-1-(x:Int))] (rI _ _ aF aE),tF 29 (((M.getD ((N:Int)-1-(x:Int)).toNat 0:Nat):Int)<((L.getD ((N:Int)-1-(x:Int)).toNat 0:Nat):Int)) aE,
     iz (((N:Int)-1-(x:Int))-1) aE]<|.e (af [.o 5 (aq (((N:Int)-1-(x:Int))-1) ((N:Int)-1-((x+1:Nat):Int)) aT)])) aI)
  (λhx=>by
    have hj:(((N:Int)-1-(k:Int))).toNat=N-1-k:= aE ;rw[<-hj]at hd;exact iG (af [tT 13 (0<=((N:Int)-1-(k:Int))) aE,ag [ic L,iP ((N:Int)-1-(k:Int))] (rI _ _ aF aE),ag [ic M,iP ((N:Int)-1-(k:Int))] (rI _ _ aF aE),tF 22 (((L.getD ((N:Int)-1-(k:Int)).toNat 0:Nat):Int)<((M.getD ((N:Int)-1-(k:Int)).toNat 0:Nat):Int)) aE,ag [ic L,iP ((N:Int)-1-(k:Int))] (rI _ _ aF aE),ag [ic M,iP ((N:Int)-1-(k:Int))] (rI _ _ aF aE),tT 29 (((M.getD ((N:Int)-1-(k:Int)).toNat 0:Nat):Int)<((L.getD ((N:Int)-1-(k:Int)).toNat 0:Nat):Int)) aE]) aI) aM:ju 2 f315 (Xe L M N k 0) .ret ⟨30,true,[(4,.e (iP 1))],[]⟩) (af [.o 5 (aq ((N:Int)-1) ((N:Int)-1-((0:Nat):Int)) aT)])]) 
def Xg(L M:List Nat)(hL:iK L)(hM:iK M)(h1:L.length<=1000000)(h2:M.length<=1000000):gZ 315 [ic L,ic M] (iP (kE (val L) (val M))):=by
 obtain⟨N,hN⟩:∃ N,N=max L.length M.length:=⟨_,rfl⟩
 have vL:val L<4294967296^N:=bW (mJ hL) (bN aG aE);have vM:val M<4294967296^N:=bW (mJ hM) (bN aG aE);by_cases h:∃ x,x<N/\(decide (L.getD (N-1-x) 0≠M.getD (N-1-x) 0))=true
 .obtain ⟨k,k1,k2,k3⟩:=rj h;have heq:∀ x,x<k->L.getD (N-1-x) 0=M.getD (N-1-x) 0:=λx hx=>by simpa using k3 x hx
  have lL:L.getD (N-1-k) 0≠M.getD (N-1-k) 0:=by simpa using k2
  have Cn:∀ i,N-1-k<i->iI (val L) i=iI (val M) i:=λi hi=>by
   by_cases hiN:i<N
   .have:=heq (N-1-i) aE ;rw[(aE:N-1-(N-1-i)=i),qc hL,qc hM]at this;exact this
   .rw [vH vL aE,vH vM aE]
  rw[qc hL,qc hM]at lL;rcases Nat.lt_or_gt_of_ne lL with hd|hd
  .have:=VR vL vM Cn hd;refine(aka L M N k hL hM hN aE heq k1 (by rw[qc hL,qc hM];exact hd)).ko (.iM ?_);unfold kE;rw[bw this]
  .have:=VR vM vL (λi hi=>(Cn i hi).symm) hd;refine(aj9 L M N k hL hM hN aE heq k1 (by rw[qc hL,qc hM];exact hd)).ko (.iM ?_);unfold kE;rw[bu aE,bw this]
 .have heq:∀ x,x<N->L.getD (N-1-x) 0=M.getD (N-1-x) 0:=λx hx=>by
   apply ca;intro q;exact h ⟨x,hx,by simpa using q⟩
  have Cn:∀ i,iI (val L) i=iI (val M) i:=λi=>by
   by_cases hiN:i<N
   .have:=heq (N-1-i) aE ;rw[(aE:N-1-(N-1-i)=i),qc hL,qc hM]at this;exact this
   .rw [vH vL aE,vH vM aE]
  refine(aj8 L M N N hL hM hN aE heq rfl).ko (.iM ?_);rw[SO vL vM λi _=>Cn i];unfold kE;rw[bu (fp _),bu (fp _)]
def akd(L M:List Nat)(hL:iK L)(hM:iK M)(h1:L.length<=1000000)(h2:M.length<=1000000):gZ 312 [ic L,ic M] (bP (decide (kE (val L) (val M)<0))):=
 ak call312 func312 (af [ag [ic L,ic M] (Xg _ _ aF aF aE aE)]) 
def aj6(L:List Nat)(k:Nat)(hL:iK L)(hs:L.length<=1000000)(hz:∀ x,x<k->L.getD (L.length-1-x) 0=0)(hk:k=L.length):gZ 276 [ic L] (iP 0):=
 ak call276 func276 (af [iz ((L.length:Int)-1) aE,.s (Sp.jv (Xa L k) 0 k aE (λx hx jU=>by
    have hj:(((L.length:Int)-1-(x:Int))).toNat=L.length-1-x:= aE ;have he:=hz x aE;rw[<-hj]at he;exact iG (ae [tT 10 (0<=((L.length:Int)-1-(x:Int))) aE,iX ((L.length:Int)-1-(x:Int)) (L.length) aE,ai 17 (((L.getD ((L.length:Int)-1-(x:Int)).toNat 0:Nat):Int) != 0) (CE he),iz (((L.length:Int)-1-(x:Int))-1) aE]<|.e (af [.o 3 (aq (((L.length:Int)-1-(x:Int))-1) ((L.length:Int)-1-((x+1:Nat):Int)) aT)])) aI)
  (λhx=>by
    exact iG (af [tF 10 (0<=((L.length:Int)-1-(k:Int))) aE]) aI) aM:ju 2 f276 (Xa L k 0) (.exit 0) ⟨31,true,[],[]⟩) (af [.o 3 (aq ((L.length:Int)-1) ((L.length:Int)-1-((0:Nat):Int)) aT)])]) 
def aj5(L:List Nat)(k:Nat)(hL:iK L)(hs:L.length<=1000000)(hz:∀ x,x<k->L.getD (L.length-1-x) 0=0)(hk:k<L.length)(hd:L.getD (L.length-1-k) 0≠0):gZ 276 [ic L] (iP ((32*((L.length:Int)-1-(k:Int)))+(iq (L.getD ((L.length:Int)-1-(k:Int)).toNat 0):Int))):=
 ak call276 func276 (af [iz ((L.length:Int)-1) aE,.s (Sp.jv (W9 L k) 0 k aE (λx hx jU=>by
    have hj:(((L.length:Int)-1-(x:Int))).toNat=L.length-1-x:= aE ;have he:=hz x aE;rw[<-hj]at he;exact iG (ae [tT 10 (0<=((L.length:Int)-1-(x:Int))) aE,iX ((L.length:Int)-1-(x:Int)) (L.length) aE,ai 17 (((L.getD ((L.length:Int)-1-(x:Int)).toNat 0:Nat):Int) != 0) (CE he),iz (((L.length:Int)-1-(x:Int))-1) aE]<|.e (af [.o 3 (aq (((L.length:Int)-1-(x:Int))-1) ((L.length:Int)-1-((x+1:Nat):Int)) aT)])) aI)
  (λhx=>by
    have hj:(((L.length:Int)-1-(k:Int))).toNat=L.length-1-k:= aE ;have iL:=hL.getD ((L.length:Int)-1-(k:Int)).toNat
    have mK:iq (L.getD ((L.length:Int)-1-(k:Int)).toNat 0)<=32:=ln.2 iL;rw[<-hj]at hd;exact iG (af [tT 10 (0<=((L.length:Int)-1-(k:Int))) aE,iX ((L.length:Int)-1-(k:Int)) (L.length) aE,ah 17 (((L.getD ((L.length:Int)-1-(k:Int)).toNat 0:Nat):Int) != 0) (Gt hd),iz (32*((L.length:Int)-1-(k:Int))) aE,
    iX ((L.length:Int)-1-(k:Int)) (L.length) aE,.s (Sp.jv (Xb L k) 0 (iq (L.getD ((L.length:Int)-1-(k:Int)).toNat 0)) aE (λy hy Nj=>by
    have hp:0<(L.getD ((L.length:Int)-1-(k:Int)).toNat 0)/2^y:=gL (tD.1 aE) (bF aG);exact iG (ae [tT 25 (0<(((L.getD ((L.length:Int)-1-(k:Int)).toNat 0)/2^y:Nat):Int)) aE,iz (((32*((L.length:Int)-1-(k:Int)))+(y:Int))+1) aE,.a (aE:0<=(1:Int)/\(1:Int)<=((32:Nat):Int)),.o 27 (.int (As _ _):aj (.v (.int .u32 ((((L.getD ((L.length:Int)-1-(k:Int)).toNat 0)/2^y:Nat):Int)/2^1))) (.v (.int .u32 ((((L.getD ((L.length:Int)-1-(k:Int)).toNat 0)/2^y)/2^1:Nat):Int))))]<|.e (af [.o 5 (.int (by rw[cW,<-bH]):aj (.v (.int .u32 ((((L.getD ((L.length:Int)-1-(k:Int)).toNat 0)/2^y)/2^1:Nat):Int))) (.v (.int .u32 (((L.getD ((L.length:Int)-1-(k:Int)).toNat 0)/2^(y+1):Nat):Int)))),.o 4 (aq (((32*((L.length:Int)-1-(k:Int)))+(y:Int))+1) ((32*((L.length:Int)-1-(k:Int)))+((y+1:Nat):Int)) aT)])) aI)
  (λhy=>by
    have hp:(L.getD ((L.length:Int)-1-(k:Int)).toNat 0)/2^(iq (L.getD ((L.length:Int)-1-(k:Int)).toNat 0))=0:=cF (pK _);exact iG (af [tF 25 (0<(((L.getD ((L.length:Int)-1-(k:Int)).toNat 0)/2^(iq (L.getD ((L.length:Int)-1-(k:Int)).toNat 0)):Nat):Int)) aE]) aI) aM:ju 7 f276 (Xb L k 0) (.exit 2) ⟨31,true,[(4,.e (iP ((32*((L.length:Int)-1-(k:Int)))+(iq (L.getD ((L.length:Int)-1-(k:Int)).toNat 0):Int))))],[]⟩) (af [.o 5 (.int (by rw[cw,eo]):aj (.v (.int .u32 ((L.getD ((L.length:Int)-1-(k:Int)).toNat 0:Nat):Int))) (.v (.int .u32 (((L.getD ((L.length:Int)-1-(k:Int)).toNat 0)/2^0:Nat):Int)))),.o 4 (aq (32*((L.length:Int)-1-(k:Int))) ((32*((L.length:Int)-1-(k:Int)))+((0:Nat):Int)) aT)])]) aI) aM:ju 2 f276 (W9 L k 0) .ret ⟨31,true,[(2,.e (iP ((32*((L.length:Int)-1-(k:Int)))+(iq (L.getD ((L.length:Int)-1-(k:Int)).toNat 0):Int))))],[]⟩) (af [.o 3 (aq ((L.length:Int)-1) ((L.length:Int)-1-((0:Nat):Int)) aT)])]) 
def Xc(L:List Nat)(hL:iK L)(h1:L.length<=1000000):gZ 276 [ic L] (iP (iq (val L))):=by
 by_cases h:∃ x,x<L.length/\(decide (L.getD (L.length-1-x) 0≠0))=true
 .obtain ⟨k,k1,k2,k3⟩:=rj h;have hz:∀ x,x<k->L.getD (L.length-1-x) 0=0:=λx hx=>by simpa using k3 x hx
  have lL:L.getD (L.length-1-k) 0≠0:=by simpa using k2
  refine(aj5 L k hL h1 hz k1 lL).ko (.iM ?_);have hj:(((L.length:Int)-1-(k:Int))).toNat=L.length-1-k:= aE ;rw[hj];have hb:=Q9 (n:=val L) (k:=L.length-1-k) (KY hL λi hi=>by
   by_cases xg:i<L.length
   .have:=hz (L.length-1-i) aE ;rwa[(aE:L.length-1-(L.length-1-i)=i)]at this
   .rw [bD,cC aE];rfl) (by rw[<-qc hL];exact lL)
  rw[hb,<-qc hL];exact congrArg iP aE 
 .have hz:∀ x,x<L.length->L.getD (L.length-1-x) 0=0:=λx hx=>by
   apply ca;intro q;exact h ⟨x,hx,by simpa using q⟩
  refine(aj6 L L.length hL h1 hz rfl).ko (.iM ?_);have:val L<4294967296^0:=KY hL λi _=>by
   by_cases xg:i<L.length
   .have:=hz (L.length-1-i) aE ;rwa[(aE:L.length-1-(L.length-1-i)=i)]at this
   .rw [bD,cC aE];rfl
  have h0:val L=0:=by rw[cw]at this;omega
  rw[h0];rfl
def W8(L M:List Nat)(N:Nat)(x:Nat):PS:=⟨41,false,[(5,.own 5),(7,.e (iP x)),(6,.e (.v (.int .u64 (jJ (val L) (val M) x:Int)))),(0,.e (ic L)),(1,.e (ic M))],[(5,.row false 150 x 1 (jl (iT (val L+val M) x)))]⟩
def Xn(L M:List Nat)(x:Nat):PS:=⟨36,false,[(5,.own 5),(7,.e (iP x)),(6,.e (.v (.int .u64 (jJ (val L-val M) (val M) x:Int)))),(0,.e (ic L)),(1,.e (ic M))],[(5,.row false 150 x 1 (jl (iT (val L-val M) x)))]⟩
def Xl(L:List Nat)(n:Nat)(x:Nat):PS:=⟨36,false,[(5,.own 5),(6,.e (iP (((n/32)+x:Nat):Int))),(0,.e (ic L)),(1,.e (iP n))],[(5,.row false 150 x 1 (jl (iT (val L/2^n) x)))]⟩
def Xm(L:List Nat)(n:Nat)(x:Nat):PS:=⟨36,false,[(5,.own 5),(6,.e (iP (((n/32)+x:Nat):Int))),(0,.e (ic L)),(1,.e (iP n))],[(5,.row false 150 x 1 (jl (iT 0 x)))]⟩
def aj4(L M:List Nat)(hL:iK L)(hM:iK M)(h1:L.length<=10000)(h2:M.length<=10000):gZ 316 [ic L,ic M] (ic (ia (val L+val M))):=by
 obtain⟨N,hN⟩:∃ N,N=max L.length M.length:=⟨_,rfl⟩
 have vL:val L<4294967296^N:=bW (mJ hL) (bN aG aE);have vM:val M<4294967296^N:=bW (mJ hM) (bN aG aE);have hcN:=tS (val L) (val M) N;have hce:jJ (val L) (val M) (N+jJ (val L) (val M) N)=0:=by
  rcases ew 0 (jJ (val L) (val M) N)with h|h
  .rw [(aE:jJ (val L) (val M) N=1)];exact acu vL vM
  .have h0:jJ (val L) (val M) N=0:= aE ;rw[h0,bT];exact h0
 have oQ:val L+val M<4294967296^(N+jJ (val L) (val M) N):=by
  have h:=Ln (val L) (val M) (N+jJ (val L) (val M) N);have g1:val L<4294967296^(N+jJ (val L) (val M) N):=bW vL (bN aG aE);have g2:val M<4294967296^(N+jJ (val L) (val M) N):=bW vM (bN aG aE);rw[hce,cF g1,cF g2]at h;exact Nat.lt_of_div_eq_zero (pw _) h
 exact an call316 func316 (ae [.y 5 5 false 150 1 (jl (iT (val L+val M) 0)),.s (Sp.jv (W8 L M N) 0 (N+(jJ (val L) (val M) N)) aE (λx hx jU=>by
    have ha:=y4 (val L) (val M) x;rw[<-qc hL,<-qc hM]at ha;have b1:=hL.getD x;have b2:=hM.getD x;have b3:=tS (val L) (val M) x;have b4:=qb (val L+val M) x;have hz:((((L.getD x 0+M.getD x 0)+(jJ (val L) (val M) x))%4294967296%4294967296:Nat):Int)=(iI (val L+val M) x:Int):= aE ;have hq:((L.getD x 0+M.getD x 0)+(jJ (val L) (val M) x))/4294967296=jJ (val L) (val M) (x+1):= aE ;by_cases hx:x<N
    .exact iG (ae [.o 14 (aq (if(M.length:Int)>(L.length:Int)then(M.length:Int)else(L.length:Int)) N (by rw[hN];split<;>omega)),tT 15 ((x:Int)<N) aE,ag [ic L,iP x] (Al _ _ aF),ag [ic M,iP x] (Al _ _ aF),
      pP ((L.getD x 0:Int)+(M.getD x 0:Int)) aE,pP ((((L.getD x 0)+(M.getD x 0):Nat):Int)+(jJ (val L) (val M) x:Int)) aE,.o 33 (.int (ET _ aE):aj (.v (.int .u64 (bits .and .u64 ((((L.getD x 0)+(M.getD x 0))+(jJ (val L) (val M) x):Nat):Int) 4294967295))) (.v (.int .u64 (((((L.getD x 0)+(M.getD x 0))+(jJ (val L) (val M) x))%4294967296:Nat):Int)))),.o 34 (.int (vi _):aj (.v (.int .u32 (IntKind.u32.wrap (((((L.getD x 0)+(M.getD x 0))+(jJ (val L) (val M) x))%4294967296:Nat):Int)))) (.v (.int .u32 ((((((L.getD x 0)+(M.getD x 0))+(jJ (val L) (val M) x))%4294967296)%4294967296:Nat):Int)))),.a (aE:(x+1)*4<=140737488355328),.a (aE:0<=(32:Int)/\(32:Int)<=((64:Nat):Int)),.o 38 (.int (C5 _):aj (.v (.int .u64 (((((L.getD x 0)+(M.getD x 0))+(jJ (val L) (val M) x):Nat):Int)/2^32))) (.v (.int .u64 (((((L.getD x 0)+(M.getD x 0))+(jJ (val L) (val M) x))/4294967296:Nat):Int)))),
      iz ((x:Int)+1) aE]<|.e (af [.o 6 (.int (by rw[hq]):aj (.v (.int .u64 (((((L.getD x 0)+(M.getD x 0))+(jJ (val L) (val M) x))/4294967296:Nat):Int))) (.v (.int .u64 (jJ (val L) (val M) (x+1):Int)))),.b 5 (Bl rfl hz:Bx.le (.row false 150 (x+1) 1 (λi_ j_=>if i_<x then(jl (iT (val L+val M) x)) i_ j_ else(E.kH (.sl false 1 1 λi_ j_=>[.v (.int .u32 ((((((L.getD x 0)+(M.getD x 0))+(jJ (val L) (val M) x))%4294967296)%4294967296:Nat):Int))].getD (i_*1+j_) (.v (.bool false)))) (i_-x) j_)) (.row false 150 (x+1) 1 (jl (iT (val L+val M) (x+1)))))])) aI 
    .have hcx:jJ (val L) (val M) x=jJ (val L) (val M) N:=by rw[(aE:x=N)]
     exact iG (ae [.o 14 (aq (if(M.length:Int)>(L.length:Int)then(M.length:Int)else(L.length:Int)) N (by rw[hN];split<;>omega)),tF 15 ((x:Int)<N) aE,tT 18 (0<(jJ (val L) (val M) x:Int)) aE,ag [ic L,iP x] (Al _ _ aF),ag [ic M,iP x] (Al _ _ aF),pP ((L.getD x 0:Int)+(M.getD x 0:Int)) aE,
      pP ((((L.getD x 0)+(M.getD x 0):Nat):Int)+(jJ (val L) (val M) x:Int)) aE,.o 33 (.int (ET _ aE):aj (.v (.int .u64 (bits .and .u64 ((((L.getD x 0)+(M.getD x 0))+(jJ (val L) (val M) x):Nat):Int) 4294967295))) (.v (.int .u64 (((((L.getD x 0)+(M.getD x 0))+(jJ (val L) (val M) x))%4294967296:Nat):Int)))),.o 34 (.int (vi _):aj (.v (.int .u32 (IntKind.u32.wrap (((((L.getD x 0)+(M.getD x 0))+(jJ (val L) (val M) x))%4294967296:Nat):Int)))) (.v (.int .u32 ((((((L.getD x 0)+(M.getD x 0))+(jJ (val L) (val M) x))%4294967296)%4294967296:Nat):Int)))),.a (aE:(x+1)*4<=140737488355328),.a (aE:0<=(32:Int)/\(32:Int)<=((64:Nat):Int)),.o 38 (.int (C5 _):aj (.v (.int .u64 (((((L.getD x 0)+(M.getD x 0))+(jJ (val L) (val M) x):Nat):Int)/2^32))) (.v (.int .u64 (((((L.getD x 0)+(M.getD x 0))+(jJ (val L) (val M) x))/4294967296:Nat):Int)))),
      iz ((x:Int)+1) aE]<|.e (af [.o 6 (.int (by rw[hq]):aj (.v (.int .u64 (((((L.getD x 0)+(M.getD x 0))+(jJ (val L) (val M) x))/4294967296:Nat):Int))) (.v (.int .u64 (jJ (val L) (val M) (x+1):Int)))),.b 5 (Bl rfl hz:Bx.le (.row false 150 (x+1) 1 (λi_ j_=>if i_<x then(jl (iT (val L+val M) x)) i_ j_ else(E.kH (.sl false 1 1 λi_ j_=>[.v (.int .u32 ((((((L.getD x 0)+(M.getD x 0))+(jJ (val L) (val M) x))%4294967296)%4294967296:Nat):Int))].getD (i_*1+j_) (.v (.bool false)))) (i_-x) j_)) (.row false 150 (x+1) 1 (jl (iT (val L+val M) (x+1)))))])) aI)
  (λhx=>by
    exact iG (ae [.o 14 (aq (if(M.length:Int)>(L.length:Int)then(M.length:Int)else(L.length:Int)) N (by rw[hN];split<;>omega)),tF 15 (((N+(jJ (val L) (val M) N):Nat):Int)<N) aE,tF 18 (0<(jJ (val L) (val M) (N+(jJ (val L) (val M) N)):Int)) aE,.z 5]<|.e (af [.o 5 (.e (At (nf _ _).symm):aj (.sl false (N+(jJ (val L) (val M) N)) 1 (jl (iT (val L+val M) (N+(jJ (val L) (val M) N))))) (ic (iT (val L+val M) (N+(jJ (val L) (val M) N)))))])) aI) aM:ju 4 f316 (W8 L M N 0) (.exit 0) ⟨41,false,[(5,.e (ic (iT (val L+val M) (N+(jJ (val L) (val M) N)))))],[]⟩) (af [.o 6 (.int (by rw[It];rfl):aj (.v (.int .u64 0)) (.v (.int .u64 (jJ (val L) (val M) 0:Int))))]),.cf (yN _ (sK _ _) aV:wM 311 [ic (iT (val L+val M) (N+(jJ (val L) (val M) N)))] _)]<|rQ (ic (ix (iT (val L+val M) (N+(jJ (val L) (val M) N))))) (ic (ia (val L+val M))) (by rw[C9 oQ])) 
def aki(L M:List Nat)(hL:iK L)(hM:iK M)(h1:L.length<=10000)(hle:val M<=val L):gZ 359 [ic L,ic M] (ic (ia (val L-val M))):=by
 have oQ:val L-val M<4294967296^L.length:=cB (ey _ _) (mJ hL);exact an call359 func359 (ae [.y 5 5 false 150 1 (jl (iT (val L-val M) 0)),.s (Sp.jv (Xn L M) 0 L.length aE (λx hx jU=>by
    have ha:=Zf hle x;rw[<-qc hL,<-qc hM]at ha;have b1:=hL.getD x;have b2:=hM.getD x;have b3:=tS (val L-val M) (val M) x;have b5:=tS (val L-val M) (val M) (x+1);have b4:=qb (val L-val M) x;have hz:(((((L.getD x 0+4294967296)-M.getD x 0)-(jJ (val L-val M) (val M) x))%4294967296%4294967296:Nat):Int)=(iI (val L-val M) x:Int):= aE ;have hq:1-(((L.getD x 0+4294967296)-M.getD x 0)-(jJ (val L-val M) (val M) x))/4294967296=jJ (val L-val M) (val M) (x+1):= aE ;exact iG (ae [tT 12 ((x:Int)<L.length) aE,ag [ic L,iP x] (Al _ _ aF),pP ((L.getD x 0:Int)+4294967296) aE,ag [ic M,iP x] (Al _ _ aF),pP ((((L.getD x 0)+4294967296:Nat):Int)-(M.getD x 0:Int)) aE,.o 22 (.int aE:aj (.v (.int .u64 ((((L.getD x 0)+4294967296:Nat):Int)-(M.getD x 0:Int)))) (.v (.int .u64 (((L.getD x 0+4294967296)-M.getD x 0:Nat):Int)))),
     pP ((((L.getD x 0+4294967296)-M.getD x 0:Nat):Int)-(jJ (val L-val M) (val M) x:Int)) aE,.o 24 (.int aE:aj (.v (.int .u64 ((((L.getD x 0+4294967296)-M.getD x 0:Nat):Int)-(jJ (val L-val M) (val M) x:Int)))) (.v (.int .u64 ((((L.getD x 0+4294967296)-M.getD x 0)-(jJ (val L-val M) (val M) x):Nat):Int)))),.o 27 (.int (ET _ aE):aj (.v (.int .u64 (bits .and .u64 ((((L.getD x 0+4294967296)-M.getD x 0)-(jJ (val L-val M) (val M) x):Nat):Int) 4294967295))) (.v (.int .u64 (((((L.getD x 0+4294967296)-M.getD x 0)-(jJ (val L-val M) (val M) x))%4294967296:Nat):Int)))),.o 28 (.int (vi _):aj (.v (.int .u32 (IntKind.u32.wrap (((((L.getD x 0+4294967296)-M.getD x 0)-(jJ (val L-val M) (val M) x))%4294967296:Nat):Int)))) (.v (.int .u32 ((((((L.getD x 0+4294967296)-M.getD x 0)-(jJ (val L-val M) (val M) x))%4294967296)%4294967296:Nat):Int)))),.a (aE:(x+1)*4<=140737488355328),.a (aE:0<=(32:Int)/\(32:Int)<=((64:Nat):Int)),.o 32 (.int (C5 _):aj (.v (.int .u64 (((((L.getD x 0+4294967296)-M.getD x 0)-(jJ (val L-val M) (val M) x):Nat):Int)/2^32))) (.v (.int .u64 (((((L.getD x 0+4294967296)-M.getD x 0)-(jJ (val L-val M) (val M) x))/4294967296:Nat):Int)))),
     pP (1-(((((L.getD x 0+4294967296)-M.getD x 0)-(jJ (val L-val M) (val M) x))/4294967296:Nat):Int)) aE,.o 33 (.int aE:aj (.v (.int .u64 (1-(((((L.getD x 0+4294967296)-M.getD x 0)-(jJ (val L-val M) (val M) x))/4294967296:Nat):Int)))) (.v (.int .u64 ((1-((((L.getD x 0+4294967296)-M.getD x 0)-(jJ (val L-val M) (val M) x))/4294967296):Nat):Int)))),
     iz ((x:Int)+1) aE]<|.e (af [.o 6 (.int (by rw[hq]):aj (.v (.int .u64 ((1-((((L.getD x 0+4294967296)-M.getD x 0)-(jJ (val L-val M) (val M) x))/4294967296):Nat):Int))) (.v (.int .u64 (jJ (val L-val M) (val M) (x+1):Int)))),.b 5 (Bl rfl hz:Bx.le (.row false 150 (x+1) 1 (λi_ j_=>if i_<x then(jl (iT (val L-val M) x)) i_ j_ else(E.kH (.sl false 1 1 λi_ j_=>[.v (.int .u32 ((((((L.getD x 0+4294967296)-M.getD x 0)-(jJ (val L-val M) (val M) x))%4294967296)%4294967296:Nat):Int))].getD (i_*1+j_) (.v (.bool false)))) (i_-x) j_)) (.row false 150 (x+1) 1 (jl (iT (val L-val M) (x+1)))))])) aI)
  (λhx=>by
    exact iG (ae [tF 12 ((L.length:Int)<L.length) aE,.z 5]<|.e (af [.o 5 (.e (At (nf _ _).symm):aj (.sl false L.length 1 (jl (iT (val L-val M) L.length))) (ic (iT (val L-val M) L.length)))])) aI) aM:ju 4 f359 (Xn L M 0) (.exit 0) ⟨36,false,[(5,.e (ic (iT (val L-val M) L.length)))],[]⟩) (af [.o 6 (.int (by rw[It];rfl):aj (.v (.int .u64 0)) (.v (.int .u64 (jJ (val L-val M) (val M) 0:Int))))]),.cf (yN _ (sK _ _) aV:wM 311 [ic (iT (val L-val M) L.length)] _)]<|rQ (ic (ix (iT (val L-val M) L.length))) (ic (ia (val L-val M))) (by rw[C9 oQ])) 
def akg(L:List Nat)(n:Nat)(hL:iK L)(h1:L.length<=10000)(hn:n<=1000000):gZ 314 [ic L,iP n] (ic (ia (val L/2^n))):=by
 have oQ:val L/2^n<4294967296^(L.length-n/32):=by
  rw[cA (bF aG)];by_cases h:n/32<=L.length
  .refine bW (mJ hL) ?_;rw[oE,oE,<-bE];exact bN aG aE 
  .rw [(aE:L.length-n/32=0),cw,ck];refine bW (mJ hL) ?_;rw[oE];exact bN aG aE 
 by_cases kx:n/32<=L.length
 .exact an call314 func314 (ae [.a (aE:0<(32:Int)),iz (n:Int) aE,.y 5 5 false 150 1 (jl (iT (val L/2^n) 0)),.s (Sp.jv (Xl L n) 0 (L.length-n/32) aE (λx hx jU=>by
    have b1:=hL.getD ((n/32)+x);have b2:=hL.getD (((n/32)+x)+1);have b3:(L.getD ((n/32)+x) 0+(L.getD (((n/32)+x)+1) 0*4294967296))/2^(n%32)<=(L.getD ((n/32)+x) 0+(L.getD (((n/32)+x)+1) 0*4294967296)):=bV _ _;have hz:(((L.getD ((n/32)+x) 0+(L.getD (((n/32)+x)+1) 0*4294967296))/2^(n%32)%4294967296%4294967296:Nat):Int)=(iI (val L/2^n) x:Int):=by
     rw[Nat.mod_mod,amF,<-qc hL,<-qc hL,eN x,bK 4294967296]
    exact iG (ae [tT 13 ((((n/32)+x:Nat):Int)<L.length) aE,ag [ic L,iP (((n/32)+x:Nat):Int)] (Al _ _ aF),iz ((((n/32)+x:Nat):Int)+1) aE,ag [ic L,iP ((((n/32)+x)+1:Nat):Int)] (Al _ _ aF),.a (aE:0<=(32:Int)/\(32:Int)<=((64:Nat):Int)),.o 23 (.int (EK _ aE):aj (.v (.int .u64 (IntKind.u64.wrap ((L.getD (((n/32)+x)+1) 0:Int)*2^32)))) (.v (.int .u64 ((L.getD (((n/32)+x)+1) 0*4294967296:Nat):Int)))),
     pP ((L.getD ((n/32)+x) 0:Int)+((L.getD (((n/32)+x)+1) 0*4294967296:Nat):Int)) aE,.a (aE:0<(32:Int)),.a (aE:0<=(((n%32:Nat):Int):Int)/\(((n%32:Nat):Int):Int)<=((64:Nat):Int)),.o 29 (.int (As _ _):aj (.v (.int .u64 ((((L.getD ((n/32)+x) 0)+(L.getD (((n/32)+x)+1) 0*4294967296):Nat):Int)/2^(n%32)))) (.v (.int .u64 ((((L.getD ((n/32)+x) 0)+(L.getD (((n/32)+x)+1) 0*4294967296))/2^(n%32):Nat):Int)))),.o 30 (.int (ET _ aE):aj (.v (.int .u64 (bits .and .u64 ((((L.getD ((n/32)+x) 0)+(L.getD (((n/32)+x)+1) 0*4294967296))/2^(n%32):Nat):Int) 4294967295))) (.v (.int .u64 (((((L.getD ((n/32)+x) 0)+(L.getD (((n/32)+x)+1) 0*4294967296))/2^(n%32))%4294967296:Nat):Int)))),.o 31 (.int (vi _):aj (.v (.int .u32 (IntKind.u32.wrap (((((L.getD ((n/32)+x) 0)+(L.getD (((n/32)+x)+1) 0*4294967296))/2^(n%32))%4294967296:Nat):Int)))) (.v (.int .u32 ((((((L.getD ((n/32)+x) 0)+(L.getD (((n/32)+x)+1) 0*4294967296))/2^(n%32))%4294967296)%4294967296:Nat):Int)))),.a (aE:(x+1)*4<=140737488355328),iz ((((n/32)+x:Nat):Int)+1) aE]<|.e (af [.o 6 (aq ((((n/32)+x)+1:Nat):Int) (((n/32)+(x+1):Nat):Int) aT),.b 5 (Bl rfl hz:Bx.le (.row false 150 (x+1) 1 (λi_ j_=>if i_<x then(jl (iT (val L/2^n) x)) i_ j_ else(E.kH (.sl false 1 1 λi_ j_=>[.v (.int .u32 ((((((L.getD ((n/32)+x) 0)+(L.getD (((n/32)+x)+1) 0*4294967296))/2^(n%32))%4294967296)%4294967296:Nat):Int))].getD (i_*1+j_) (.v (.bool false)))) (i_-x) j_)) (.row false 150 (x+1) 1 (jl (iT (val L/2^n) (x+1)))))])) aI)
  (λhx=>by
    exact iG (ae [tF 13 ((((n/32)+(L.length-n/32):Nat):Int)<L.length) aE,.z 5]<|.e (af [.o 5 (.e (At (nf _ _).symm):aj (.sl false (L.length-n/32) 1 (jl (iT (val L/2^n) (L.length-n/32)))) (ic (iT (val L/2^n) (L.length-n/32))))])) aI) aM:ju 3 f314 (Xl L n 0) (.exit 0) ⟨36,false,[(5,.e (ic (iT (val L/2^n) (L.length-n/32))))],[]⟩) (af [.o 6 (aq ((n/32:Nat):Int) (((n/32)+0:Nat):Int) aT)]),.cf (yN _ (sK _ _) aV:wM 311 [ic (iT (val L/2^n) (L.length-n/32))] _)]<|rQ (ic (ix (iT (val L/2^n) (L.length-n/32)))) (ic (ia (val L/2^n))) (by rw[C9 oQ])) 
 .have h0:val L/2^n=0:=by rw[(aE:L.length-n/32=0),cw]at oQ;exact aqp.1 oQ
  rw[h0];exact an call314 func314 (ae [.a (aE:0<(32:Int)),iz (n:Int) aE,.y 5 5 false 150 1 (jl (iT 0 0)),.s (Sp.jv (Xm L n) 0 0 aE (λx hx jU=>by
    omega)
  (λhx=>by
    exact iG (ae [tF 13 ((((n/32)+0:Nat):Int)<L.length) aE,.z 5]<|.e (af [.o 5 (.e (At (nf _ _).symm):aj (.sl false 0 1 (jl (iT 0 0))) (ic (iT 0 0)))])) aI) aM:ju 3 f314 (Xm L n 0) (.exit 0) ⟨36,false,[(5,.e (ic (iT 0 0)))],[]⟩) (af [.o 6 (aq ((n/32:Nat):Int) (((n/32)+0:Nat):Int) aT)]),.cf (yN _ (sK _ _) aV:wM 311 [ic (iT 0 0)] _)]<|rQ (ic (ix (iT 0 0))) (ic (ia 0)) (by rw[C9 aG])) 
end Go.Proofs.YtkjkcjhacddojaaGreatDoor
namespace Go.Proofs.YtkjkcjhacddojaaGreatDoor.Fp
def iY(a b n x:Nat):Nat:=a/2^(n-x)%b
def k0(a b n x:Nat):Nat:=a/2^(n-x)/b
def jr(a n x:Nat):Nat:=a/2^(n-1-x)%2
def IF(a n x:Nat):jr a n x<=1:=by unfold jr;omega
def St{a n x:Nat}(hx:x<n):a/2^(n-(x+1))=2*(a/2^(n-x))+jr a n x:=by
 unfold jr;rw[(aE:n-x=(n-1-x)+1),(aE:n-(x+1)=n-1-x),bH,<-cW];omega
def Sr{a b n x:Nat}(hb:0<b)(hx:x<n)(h:2*iY a b n x+jr a n x<b):iY a b n (x+1)=2*iY a b n x+jr a n x/\k0 a b n (x+1)=2*k0 a b n x:=by
 have e:a/2^(n-(x+1))=b*(2*k0 a b n x)+(2*iY a b n x+jr a n x):=by
  rw[St hx];have:=cG (a/2^(n-x)) b;unfold k0 iY;rw[de];omega
 constructor
 .conv=>lhs;unfold iY
  rw[e,dZ,bU h]
 .conv=>lhs;unfold k0
  rw[e,dG hb,cF h,bT]
def Ss{a b n x:Nat}(hb:0<b)(hx:x<n)(h:¬2*iY a b n x+jr a n x<b):iY a b n (x+1)=2*iY a b n x+jr a n x-b/\k0 a b n (x+1)=2*k0 a b n x+1:=by
 have hr:iY a b n x<b:=bM _ hb;have tY:=IF a n x;have e:a/2^(n-(x+1))=b*(2*k0 a b n x+1)+(2*iY a b n x+jr a n x-b):=by
  rw[St hx];have:=cG (a/2^(n-x)) b;unfold k0 iY at *
  rw[bR,de,cz];omega
 constructor
 .conv=>lhs;unfold iY
  rw[e,dZ,bU aE]
 .conv=>lhs;unfold k0
  rw[e,dG hb,cF aE,bT]
def Su{a b n:Nat}(h:a<2^n):iY a b n 0=0/\k0 a b n 0=0:=by
 unfold iY k0;rw[dM,cF h];simp
def So(a b n:Nat):iY a b n n=a%b/\k0 a b n n=a/b:=by
 unfold iY k0;rw[dc,cw,eo];exact⟨rfl,rfl⟩
def adE(a b n x:Nat):k0 a b n x*2^(n-x)<=a:=by
 unfold k0;exact bG (bX _ (bV _ _)) (du _ _)
def Rd{L:List Nat}(h:iK L):iq (val L)<=32*L.length:=ln.2 (by rw[<-oE];exact mJ h)
def amv{q i m:Nat}(hi:i/32<m)(hq:q*2^(i+1)<4294967296^m):
 (∃ t,iI (q*2^(i+1)) (i/32)=t*2^(i%32+1))/\iI (q*2^(i+1)) (i/32)+2^(i%32)<4294967296 /\
 (iT (q*2^(i+1)) m).set (i/32) (iI (q*2^(i+1)) (i/32)+2^(i%32))=iT ((2*q+1)*2^i) m:=by
 have hr:i%32<32:=bM _ aG;have e1:q*2^(i+1)/4294967296^(i/32)=q*2^(i%32+1):=by
  rw[(aE:i+1=(i%32+1)+32*(i/32)),bE,<-oE,<-bL,dW _ (pw _)]
 have h3:(4294967296:Nat)=2^(i%32+1)*2^(32-(i%32+1)):=by rw[<-bE,(aE:i%32+1+(32-(i%32+1))=32)]
 have e2:iI (q*2^(i+1)) (i/32)=(q%2^(32-(i%32+1)))*2^(i%32+1):=by
  unfold iI;rw[e1,bK]
  conv=>lhs;rhs;rw[h3]
  rw[apD,bK]
 have e3:(q%2^(32-(i%32+1)))*2^(i%32+1)+2^(i%32+1)<=4294967296:=by
  have:=bX (2^(i%32+1)) (show q%2^(32-(i%32+1))+1<=2^(32-(i%32+1))from bM _ (bF aG));rw[ct,ck]at this;refine bG this (gF ?_);rw[bK];exact h3.symm
 have e4:2^(i%32)<2^(i%32+1):=fk aG aE;have iL:iI (q*2^(i+1)) (i/32)+2^(i%32)<4294967296:=by rw[e2];omega
 refine⟨⟨_,e2⟩,iL,?_⟩;have hk:i/32<(iT (q*2^(i+1)) m).length:=by rw[nf];exact hi
 have hv:=yQ (x:=iI (q*2^(i+1)) (i/32)+2^(i%32)) hk;rw[tU hi,vo,bU hq,bR]at hv;refine(Du ((sK _ _).set _ iL) (by rw[cV,nf]) ?_).symm;have e5:4294967296^(i/32)*2^(i%32)=2^i:=by rw[oE,<-bE];congr 1;omega
 rw[e5]at hv;have e6:2*q*2^i=q*2^(i+1):=by rw[bH,bK 2 q,bL,bK 2]
 rw[ct,ck,e6];omega
end Go.Proofs.YtkjkcjhacddojaaGreatDoor.Fp
namespace Go.Proofs.YtkjkcjhacddojaaGreatDoor
open Go.RowKit Fp Pu
def ajp(s t:Nat)(hs:s<32)(iL:t*2^(s+1)+2^s<4294967296):bits .or .u32 ((t*2^(s+1):Nat):Int) (IntKind.u32.wrap (1*2^s))=((t*2^(s+1)+2^s:Nat):Int):=by
 have h2:2^s<2^(s+1):=fk aG aE;have e:IntKind.u32.wrap (1*2^s)=((2^s:Nat):Int):=by
  rw[IntKind.wrap_u32,Int.one_mul,show(2:Int)^s=((2^s:Nat):Int)by simp];omega
 rw[e,Hj _ _ aE aE,gy,Br _ t (s+1) h2,eN]
def ajq(o r a:Nat)(hr:r<32)(ho:o<2^r):bits .or .u32 (o:Int) ((a*2^r%4294967296%4294967296:Nat):Int)=((o+a*2^r%4294967296:Nat):Int):=by
 have h3:(4294967296:Nat)=2^r*2^(32-r):=by rw[<-bE,(aE:r+(32-r)=32)]
 have zj:2^r<=2^31:=bN aG aE;have FD:(2:Nat)^31=2147483648:= aG ;have e2:a*2^r%4294967296=(a%2^(32-r))*2^r:=by
  rw[bK]
  conv=>lhs;rhs;rw[h3]
  rw[apD,bK]
 rw[Nat.mod_mod,Hj _ _ aE (bM _ aG),e2,Br _ _ _ ho]
def amB(a r:Nat)(ha:a<4294967296)(hr:r<32):IntKind.u64.wrap ((a:Int)*2^r)=((a*2^r:Nat):Int):=by
 have zj:2^r<=2^31:=bN aG aE;have FD:(2:Nat)^31=2147483648:= aG ;have h2:a*2^r<=4294967295*2147483648:=dp aE aE;have e:(a:Int)*2^r=((a*2^r:Nat):Int):= aK ;rw[e];exact pZ _ aE 
def amA{a r:Nat}(ha:a<4294967296)(hr:r<32):a*2^r<=9223372034707292160:=by
 have zj:2^r<=2^31:=bN aG aE;have FD:(2:Nat)^31=2147483648:= aG ;have h2:a*2^r<=4294967295*2147483648:=dp aE aE;omega
def PL(x:Nat):IntKind.u32.wrap ((x:Int)*2^1)=((2*x%4294967296:Nat):Int):=by rw[IntKind.wrap_u32];omega
def Kb(x c:Nat)(hc:c<=1):bits .or .u32 ((2*x%4294967296:Nat):Int) (c:Int)=((2*x%4294967296+c:Nat):Int):=by
 have h:2*x%4294967296=(2*x%4294967296/2)*2^1:= aE ;rw[Hj _ _ aE aE,gy,h,Br _ _ 1 aE,eN]
def alW{T n n' p q:Nat}{L L':List Nat}{z y:Nat}(hn:n=n')(hp:p<L.length)(hq:q<L.length)(hs:(L.set p z).set q y=L'):
 Bx.le (.row false T n 1 λi' j'=>if i'=q/\0<=j'/\j'<0+1 then[.v (.int .u32 (y:Int))].getD (j'-0) .any else(λi' j'=>if i'=p/\0<=j'/\j'<0+1 then[.v (.int .u32 (z:Int))].getD (j'-0) .any else(jl L) i' j') i' j') (.row false T n' 1 (jl L')):=by
 subst hs;refine .row hn λi j _ hj=>?_
 obtain rfl:j=0:= aE ;refine⟨.iM ?_,rfl⟩;by_cases h1:i=q
 .subst h1;rw[bw ⟨rfl,aE,aE⟩];show E.v (.int .u32 (y:Int))=E.v (.int .u32 ((((L.set p z).set i y).getD i 0:Nat):Int));rw[Fp.MB (by rw[cV];exact hq)]
 .rw [bu (λk=>h1 k.1)];by_cases h:i=p
  .subst h;show(if i=i/\0<=0/\0<0+1 then _ else _)=E.v (.int .u32 ((((L.set i z).set q y).getD i 0:Nat):Int));rw[bw ⟨rfl,aE,aE⟩,Fp.vP (λk=>h1 k.symm),Fp.MB hp];rfl
  .show (if i=p/\0<=0/\0<0+1 then _ else E.v (.int .u32 (L.getD i 0:Int)))=E.v (.int .u32 ((((L.set p z).set q y).getD i 0:Nat):Int));rw[bu (λk=>h k.1),Fp.vP (λk=>h1 k.symm),Fp.vP (λk=>h k.symm)]
def Xk(L:List Nat)(n:Nat)(x:Nat):PS:=⟨60,false,[(6,.e (iP x)),(5,.own 16),(0,.e (ic (ix L))),(1,.e (iP n))],[(16,.row false 150 (n/32+(ix L).length+1) 1 (jl (iT ((val ((ix L).take x))*2^n) (n/32+(ix L).length+1))))]⟩
def ake(L:List Nat)(n:Nat)(hL:iK L)(h1:L.length<=10000)(hn:n<=1000000):gZ 278 [ic L,iP n] (ic (ia (val L*2^n))):=by
 have tl:=pq L;unfold mC at tl;have oQ:val ((ix L).take (ix L).length)*2^n<4294967296^(n/32+(ix L).length+1):=by
  rw[fR,df,bE,bK];have h1:=mJ hL.ix;have h2:2^n<=4294967296^(n/32)*4294967296:=by
   rw[oE,show(4294967296:Nat)=2^32 by rfl,<-bE];exact bN aG aE 
  rw[bH,de,bK];refine aqC h1 h2 (by exact fA (pw _) aG)
 exact an call278 func278 (ae [.cf (yN _ aF aV:wM 311 [ic L] _),.a (aE:0<(32:Int)),iz (n:Int) aE,
  iz (((n/32:Nat):Int)+((ix L).length:Int)) aE,iz ((((n/32)+(ix L).length:Nat):Int)+1) aE,.a (aE:0<=(((((n/32)+(ix L).length)+1:Nat):Int):Int)/\(((((n/32)+(ix L).length)+1:Nat):Int):Int)<=(((((n/32)+(ix L).length)+1:Nat):Int):Int)),.a (aE:((4:Nat):Int)*((((n/32)+(ix L).length)+1:Nat):Int)<=281474976710656/\(((((n/32)+(ix L).length)+1:Nat):Int):Int)<=9223372036854775807),.s (Sp.jv (Xk L n) 0 ((ix L).length) aE (λx hx jU=>by
    have MZ:=hL.ix.getD x;have hr:n%32<32:=bM _ aG;have iL:(val ((ix L).take x))<4294967296^x:=by
     have:=mJ (hL.ix.take x);rw[cJ,dB aE]at this;exact this
    obtain⟨ho,uS⟩:=amC (n:=n) MZ (O:=(iT ((val ((ix L).take x))*2^n) (n/32+(ix L).length+1))) rfl iL (m:=(n/32+(ix L).length+1)) aE;rw[<-vq]at uS;have hu:(((ix L).getD x 0)*2^(n%32))/4294967296<4294967296:=by
     have:=amA MZ hr;omega
    rw[<-bU hu]at uS;exact iG (ae [tT 20 ((x:Int)<((ix L).length:Int)) aE,iX (x:Int) ((ix L).length) aE,.o 27 (.int (pZ _ aE):aj (.v (.int .u64 (IntKind.u64.wrap (((ix L).getD x 0:Nat):Int)))) (.v (.int .u64 (((ix L).getD x 0:Nat):Int)))),.a (aE:0<(32:Int)),.a (aE:0<=(((n%32:Nat):Int):Int)/\(((n%32:Nat):Int):Int)<=((64:Nat):Int)),.o 30 (.int (amB _ _ MZ hr):aj (.v (.int .u64 (IntKind.u64.wrap ((((ix L).getD x 0:Nat):Int)*2^(n%32))))) (.v (.int .u64 ((((ix L).getD x 0)*2^(n%32):Nat):Int)))),.a (aE:0<(32:Int)),iz (n:Int) aE,iz ((x:Int)+((n/32:Nat):Int)) aE,.a (aE:0<(32:Int)),iz (n:Int) aE,
     iz ((x:Int)+((n/32:Nat):Int)) aE,iX ((x+(n/32):Nat):Int) (n/32+(ix L).length+1) aE,.a (aE:(x+(n/32))<(n/32+(ix L).length+1)),.o 44 (.int (ET _ aE):aj (.v (.int .u64 (bits .and .u64 ((((ix L).getD x 0)*2^(n%32):Nat):Int) 4294967295))) (.v (.int .u64 (((((ix L).getD x 0)*2^(n%32))%4294967296:Nat):Int)))),.o 45 (.int (vi _):aj (.v (.int .u32 (IntKind.u32.wrap (((((ix L).getD x 0)*2^(n%32))%4294967296:Nat):Int)))) (.v (.int .u32 ((((((ix L).getD x 0)*2^(n%32))%4294967296)%4294967296:Nat):Int)))),.o 46 (.int (ajq _ _ _ hr ho):aj (.v (.int .u32 (bits .or .u32 (((iT ((val ((ix L).take x))*2^n) (n/32+(ix L).length+1)).getD (x+(n/32)) 0:Nat):Int) ((((((ix L).getD x 0)*2^(n%32))%4294967296)%4294967296:Nat):Int)))) (.v (.int .u32 ((((iT ((val ((ix L).take x))*2^n) (n/32+(ix L).length+1)).getD (x+(n/32)) 0)+((((ix L).getD x 0)*2^(n%32))%4294967296):Nat):Int)))),
     iX ((x+(n/32):Nat):Int) (n/32+(ix L).length+1) aE,.a (aE:(x+(n/32))<(n/32+(ix L).length+1)),.a (aE:0<(32:Int)),iz (n:Int) aE,
     iz ((x:Int)+((n/32:Nat):Int)) aE,iz (((x+(n/32):Nat):Int)+1) aE,.a (aE:0<=(32:Int)/\(32:Int)<=((64:Nat):Int)),.o 55 (.int (C5 _):aj (.v (.int .u64 (((((ix L).getD x 0)*2^(n%32):Nat):Int)/2^32))) (.v (.int .u64 (((((ix L).getD x 0)*2^(n%32))/4294967296:Nat):Int)))),.o 56 (.int (vi _):aj (.v (.int .u32 (IntKind.u32.wrap (((((ix L).getD x 0)*2^(n%32))/4294967296:Nat):Int)))) (.v (.int .u32 ((((((ix L).getD x 0)*2^(n%32))/4294967296)%4294967296:Nat):Int)))),
     iX (((x+(n/32))+1:Nat):Int) (n/32+(ix L).length+1) aE,.a (aE:((x+(n/32))+1)<(n/32+(ix L).length+1)),iz ((x:Int)+1) aE]<|.e (af [.b 16 (alW rfl (by rw[nf];omega) (by rw[nf];omega) uS:Bx.le (.row false 150 (n/32+(ix L).length+1) 1 (λi' j'=>if i'=((x+(n/32))+1)/\0<=j'/\j'<0+1 then[.v (.int .u32 ((((((ix L).getD x 0)*2^(n%32))/4294967296)%4294967296:Nat):Int))].getD (j'-0) .any else(λi' j'=>if i'=(x+(n/32))/\0<=j'/\j'<0+1 then[.v (.int .u32 ((((iT ((val ((ix L).take x))*2^n) (n/32+(ix L).length+1)).getD (x+(n/32)) 0)+((((ix L).getD x 0)*2^(n%32))%4294967296):Nat):Int))].getD (j'-0) .any else(jl (iT ((val ((ix L).take x))*2^n) (n/32+(ix L).length+1))) i' j') i' j')) (.row false 150 (n/32+(ix L).length+1) 1 (jl (iT ((val ((ix L).take (x+1)))*2^n) (n/32+(ix L).length+1)))))])) aI)
  (λhx=>by
    exact iG (ae [tF 20 (((ix L).length:Int)<((ix L).length:Int)) aE,.z 16]<|.e (af [.o 5 (.e (At (nf _ _).symm):aj (.sl false (n/32+(ix L).length+1) 1 (jl (iT ((val ((ix L).take (ix L).length))*2^n) (n/32+(ix L).length+1)))) (ic (iT ((val ((ix L).take (ix L).length))*2^n) (n/32+(ix L).length+1))))])) aI) aM:ju 4 f278 (Xk L n 0) (.exit 0) ⟨60,false,[(5,.e (ic (iT ((val ((ix L).take (ix L).length))*2^n) (n/32+(ix L).length+1))))],[]⟩) (af [.b 16 (G5 aE (λi=>by rw[show val (List.take 0 (ix L))=0 from rfl,cP,IA]):Bx.le (.row false 150 (((n/32)+(ix L).length)+1) 1 (λ_ j_=>[.v (.int .u32 0)].getD j_ .any)) (.row false 150 (n/32+(ix L).length+1) 1 (jl (iT ((val ((ix L).take 0))*2^n) (n/32+(ix L).length+1)))))]),.cf (yN _ (sK _ _) aV:wM 311 [ic (iT ((val ((ix L).take (ix L).length))*2^n) (n/32+(ix L).length+1))] _)]<|rQ (ic (ix (iT ((val ((ix L).take (ix L).length))*2^n) (n/32+(ix L).length+1)))) (ic (ia (val L*2^n))) (by rw[C9 oQ,fR,oZ])) 
def Xj(L M:List Nat)(n:Nat)(x:Nat):PS:=⟨106,false,[(8,.e (iP ((n:Int)-1-(x:Int)))),(7,.own 23),(6,.own 19),(1,.e (ic (ix M))),(0,.e (ic L))],[(23,.row false 150 ((ix M).length+1) 1 (jl (iT (iY (val L) (val M) n x) ((ix M).length+1)))),(19,.row false 150 L.length 1 (jl (iT ((k0 (val L) (val M) n x)*2^(n-x)) L.length)))]⟩
def Xh(L M:List Nat)(n x:Nat)(k:Nat):PS:=⟨106,false,[(10,.e (iP k)),(9,.e (.v (.int .u32 (mw (iY (val L) (val M) n x) (jr (val L) n x) k:Int)))),(8,.e (iP ((n:Int)-1-(x:Int)))),(7,.own 23),(6,.own 19),(1,.e (ic (ix M))),(0,.e (ic L))],[(23,.row false 150 ((ix M).length+1) 1 (jl (kY (2*(iY (val L) (val M) n x)+(jr (val L) n x)) (iY (val L) (val M) n x) k ((ix M).length+1)))),(19,.row false 150 L.length 1 (jl (iT ((k0 (val L) (val M) n x)*2^(n-x)) L.length)))]⟩
def Xi(L M:List Nat)(n x:Nat)(k:Nat):PS:=⟨106,false,[(13,.e (iP k)),(12,.e (.v (.int .u64 (jJ ((2*(iY (val L) (val M) n x)+(jr (val L) n x))-val M) (val M) k:Int)))),(8,.e (iP ((n:Int)-1-(x:Int)))),(7,.own 23),(6,.own 19),(1,.e (ic (ix M))),(0,.e (ic L))],[(23,.row false 150 ((ix M).length+1) 1 (jl (kY ((2*(iY (val L) (val M) n x)+(jr (val L) n x))-val M) (2*(iY (val L) (val M) n x)+(jr (val L) n x)) k ((ix M).length+1)))),(19,.row false 150 L.length 1 (jl (iT ((k0 (val L) (val M) n x)*2^(n-x)) L.length)))]⟩
def akc(L M:List Nat)(n:Nat)(hL:iK L)(hM:iK M)(h1:L.length<=10000)(h2:M.length<=10000)(hB:0<val M)(hn:n=iq (val L)):gZ 277 [ic L,ic M] (.iC [ic (ia (val L/val M)),ic (ia (val L%val M))]):=by
 have tl:=pq M;unfold mC at tl;have I0:=Su (a:=val L) (b:=val M) (n:=n) (by rw[hn];exact pK _);have hbn:=Rd hL;have he:=So (val L) (val M) n;have f1:val L/val M*2^(n-n)<4294967296^L.length:=by
  rw[dc,cw,cz];exact cB (bV _ _) (mJ hL)
 have f2:val L%val M<4294967296^((ix M).length+1):=by
  have h1:=mJ hM.ix;rw[oZ]at h1;refine fX (bM _ hB) (bW h1 (bN aG aE))
 exact an call277 func277 (ae [.cf (yN _ aF aV:wM 311 [ic M] _),.a (aE:0<=((L.length:Int):Int)/\((L.length:Int):Int)<=((L.length:Int):Int)),.a (aE:((4:Nat):Int)*(L.length:Int)<=281474976710656/\((L.length:Int):Int)<=9223372036854775807),iz (((ix M).length:Int)+1) aE,.a (aE:0<=((((ix M).length+1:Nat):Int):Int)/\((((ix M).length+1:Nat):Int):Int)<=((((ix M).length+1:Nat):Int):Int)),.a (aE:((4:Nat):Int)*(((ix M).length+1:Nat):Int)<=281474976710656/\((((ix M).length+1:Nat):Int):Int)<=9223372036854775807),ag [ic L] (Xc _ aF aE),.o 25 (aq (iq (val L):Int) n (by rw[hn])),iz ((n:Int)-1) aE,.s (Sp.jv (Xj L M n) 0 n aE (λx hx jU=>by
    have Jc:(n-1-x)/32<L.length:=by
     have:=Rd hL;rw[<-hn]at this;omega
    have rV:=IF (val L) n x;have apq:=hL.getD ((n-1-x)/32);have Ck:L.getD ((n-1-x)/32) 0/2^((n-1-x)%32)<=L.getD ((n-1-x)/32) 0:=bV _ _;have tY:bits .and .u32 ((L.getD ((n-1-x)/32) 0/2^((n-1-x)%32):Nat):Int) 1=(jr (val L) n x:Int):=by
     rw[KP _ aE];have:=Lu hL (n-1-x) Jc;unfold jr;rw[this];simp[bD,Jc]
    have hRl:(iY (val L) (val M) n x)<val M:=bM _ hB;have UN:val (iT (2*(iY (val L) (val M) n x)+(jr (val L) n x)) ((ix M).length+1))=(2*(iY (val L) (val M) n x)+(jr (val L) n x)):=by
     rw[vo,bU];have h1:=mJ hM.ix;rw[oZ]at h1;rw[bH];omega
    exact iG (ae [.o 27 (aq ((n:Int)-1-(x:Int)) ((n-1-x:Nat):Int) aE),tT 28 (0<=((n-1-x:Nat):Int)) aE,.o 32 (aq ((n:Int)-1-(x:Int)) ((n-1-x:Nat):Int) aE),.a (aE:0<(32:Int)),iz ((n-1-x:Nat):Int) aE,
     iX (((n-1-x)/32:Nat):Int) (L.length) aE,.o 36 (aq ((n:Int)-1-(x:Int)) ((n-1-x:Nat):Int) aE),.a (aE:0<(32:Int)),.a (aE:0<=((((n-1-x)%32:Nat):Int):Int)/\((((n-1-x)%32:Nat):Int):Int)<=((32:Nat):Int)),.o 38 (.int (As _ _):aj (.v (.int .u32 ((L.getD ((n-1-x)/32) 0:Int)/2^((n-1-x)%32)))) (.v (.int .u32 (((L.getD ((n-1-x)/32) 0)/2^((n-1-x)%32):Nat):Int)))),.o 39 (.int tY:aj (.v (.int .u32 (bits .and .u32 (((L.getD ((n-1-x)/32) 0)/2^((n-1-x)%32):Nat):Int) 1))) (.v (.int .u32 (jr (val L) n x:Int)))),.s (Sp.jv (Xh L M n x) 0 ((ix M).length+1) aE (λk hk DZ=>by
    have rV:=IF (val L) n x;have Ue:=Iz (r:=(iY (val L) (val M) n x)) rV k;have hdc:=Iy (r:=(iY (val L) (val M) n x)) rV k;have uS:(kY (2*(iY (val L) (val M) n x)+(jr (val L) n x)) (iY (val L) (val M) n x) k ((ix M).length+1)).set k (2*iI (iY (val L) (val M) n x) k%4294967296+mw (iY (val L) (val M) n x) (jr (val L) n x) k)=(kY (2*(iY (val L) (val M) n x)+(jr (val L) n x)) (iY (val L) (val M) n x) (k+1) ((ix M).length+1)):=by rw[<-Ue.1,JU]
    exact iG (ae [tT 43 ((k:Int)<(((ix M).length+1:Nat):Int)) aE,iX (k:Int) ((ix M).length+1) aE,.a (aE:k<((ix M).length+1)),.o 49 (.int (by rw[Gk aE]):aj (.v (.int .u32 (((kY (2*(iY (val L) (val M) n x)+(jr (val L) n x)) (iY (val L) (val M) n x) k ((ix M).length+1)).getD k 0:Nat):Int))) (.v (.int .u32 (iI (iY (val L) (val M) n x) k:Int)))),.a (aE:0<=(1:Int)/\(1:Int)<=((32:Nat):Int)),.o 53 (.int (PL _):aj (.v (.int .u32 (IntKind.u32.wrap ((iI (iY (val L) (val M) n x) k:Int)*2^1)))) (.v (.int .u32 ((2*iI (iY (val L) (val M) n x) k%4294967296:Nat):Int)))),.o 55 (.int (Kb _ _ hdc):aj (.v (.int .u32 (bits .or .u32 ((2*iI (iY (val L) (val M) n x) k%4294967296:Nat):Int) (mw (iY (val L) (val M) n x) (jr (val L) n x) k:Int)))) (.v (.int .u32 ((2*iI (iY (val L) (val M) n x) k%4294967296+mw (iY (val L) (val M) n x) (jr (val L) n x) k:Nat):Int)))),
     iX (k:Int) ((ix M).length+1) aE,.a (aE:k<((ix M).length+1)),.a (aE:0<=(31:Int)/\(31:Int)<=((32:Nat):Int)),.o 58 (.int (As _ _):aj (.v (.int .u32 ((iI (iY (val L) (val M) n x) k:Int)/2^31))) (.v (.int .u32 (((iI (iY (val L) (val M) n x) k)/2^31:Nat):Int)))),iz ((k:Int)+1) aE]<|.e (af [.o 9 (.int (by rw[Ue.2]):aj (.v (.int .u32 (((iI (iY (val L) (val M) n x) k)/2^31:Nat):Int))) (.v (.int .u32 (mw (iY (val L) (val M) n x) (jr (val L) n x) (k+1):Int)))),.b 23 (EF rfl bg uS:Bx.le (.row false 150 ((ix M).length+1) 1 (λi' j'=>if i'=k/\0<=j'/\j'<0+1 then[.v (.int .u32 ((2*iI (iY (val L) (val M) n x) k%4294967296+mw (iY (val L) (val M) n x) (jr (val L) n x) k:Nat):Int))].getD (j'-0) .any else(jl (kY (2*(iY (val L) (val M) n x)+(jr (val L) n x)) (iY (val L) (val M) n x) k ((ix M).length+1))) i' j')) (.row false 150 ((ix M).length+1) 1 (jl (kY (2*(iY (val L) (val M) n x)+(jr (val L) n x)) (iY (val L) (val M) n x) (k+1) ((ix M).length+1)))))])) aI)
  (λhk=>by
    exact iG (ae [tF 43 ((((ix M).length+1:Nat):Int)<(((ix M).length+1:Nat):Int)) aE]<|.e (af [.b 23 (.iM (by rw[JT (bC _)]):Bx.le (.row false 150 ((ix M).length+1) 1 (jl (kY (2*(iY (val L) (val M) n x)+(jr (val L) n x)) (iY (val L) (val M) n x) ((ix M).length+1) ((ix M).length+1)))) (.row false 150 ((ix M).length+1) 1 (jl (iT (2*(iY (val L) (val M) n x)+(jr (val L) n x)) ((ix M).length+1)))))])) aI) aM:ju 9 f277 (Xh L M n x 0) (.exit 2) ⟨106,false,[(8,.e (iP ((n:Int)-1-(x:Int)))),(7,.own 23),(6,.own 19),(1,.e (ic (ix M))),(0,.e (ic L))],[(23,.row false 150 ((ix M).length+1) 1 (jl (iT (2*(iY (val L) (val M) n x)+(jr (val L) n x)) ((ix M).length+1)))),(19,.row false 150 L.length 1 (jl (iT ((k0 (val L) (val M) n x)*2^(n-x)) L.length)))]⟩) (af [.o 9 (.int (by rw[LW]):aj (.v (.int .u32 (jr (val L) n x:Int))) (.v (.int .u32 (mw (iY (val L) (val M) n x) (jr (val L) n x) 0:Int)))),.b 23 (.iM (by rw[Gl]):Bx.le (.row false 150 ((ix M).length+1) 1 (jl (iT (iY (val L) (val M) n x) ((ix M).length+1)))) (.row false 150 ((ix M).length+1) 1 (jl (kY (2*(iY (val L) (val M) n x)+(jr (val L) n x)) (iY (val L) (val M) n x) 0 ((ix M).length+1)))))]),.c (by rw[BH (show((ix M).length+1)=(iT (2*(iY (val L) (val M) n x)+(jr (val L) n x)) ((ix M).length+1)).length by first|omega|(simp only[nf,uY];omega)|simp only[nf,uY])];exact(akd _ _ (sK _ _) (iK.ix aF) (by first|omega|(simp only[nf,uY];omega)|simp only[nf,uY]) (by first|omega|(simp only[nf,uY];omega)|simp only[nf,uY])):gZ 312 [.sl false ((ix M).length+1) 1 (jl (iT (2*(iY (val L) (val M) n x)+(jr (val L) n x)) ((ix M).length+1))),ic (ix M)] (bP (decide ((kE (val (iT (2*(iY (val L) (val M) n x)+(jr (val L) n x)) ((ix M).length+1))) (val (ix M)))<0))))]<|.w ((2*(iY (val L) (val M) n x)+(jr (val L) n x))<val M)
     (λFL=>by
      have oI:kE (val (iT (2*(iY (val L) (val M) n x)+(jr (val L) n x)) ((ix M).length+1))) (val (ix M))<0:=by rw[UN,oZ];unfold kE;rw[bw FL];decide
      have nc:=Sr hB jU FL;have g1:=nc.1;have g2:=nc.2;have M0:iT (2*(iY (val L) (val M) n x)+(jr (val L) n x)) ((ix M).length+1)=iT (iY (val L) (val M) n (x+1)) ((ix M).length+1):=by rw[g1]
      have agl:(iT ((k0 (val L) (val M) n x)*2^(n-x)) L.length)=(iT ((k0 (val L) (val M) n (x+1))*2^(n-(x+1))) L.length):=by
       rw[g2];congr 1;rw[(aE:n-x=n-(x+1)+1),bH,bK 2,bL,bK 2]
      exact ae [tB 61 (bA oI),.o 29 (aq ((n:Int)-1-(x:Int)) ((n-1-x:Nat):Int) aE),iz (((n-1-x:Nat):Int)-1) aE]<|.e (af [.o 8 (aq (((n-1-x:Nat):Int)-1) ((n:Int)-1-((x+1:Nat):Int)) aT),.b 23 (.iM (by rw[M0]):Bx.le (.row false 150 ((ix M).length+1) 1 (jl (iT (2*(iY (val L) (val M) n x)+(jr (val L) n x)) ((ix M).length+1)))) (.row false 150 ((ix M).length+1) 1 (jl (iT (iY (val L) (val M) n (x+1)) ((ix M).length+1))))),.b 19 (.iM (by rw[agl]):Bx.le (.row false 150 L.length 1 (jl (iT ((k0 (val L) (val M) n x)*2^(n-x)) L.length))) (.row false 150 L.length 1 (jl (iT ((k0 (val L) (val M) n (x+1))*2^(n-(x+1))) L.length))))]))
     (λFL=>by
      have oI:¬kE (val (iT (2*(iY (val L) (val M) n x)+(jr (val L) n x)) ((ix M).length+1))) (val (ix M))<0:=by rw[UN,oZ];unfold kE;rw[bu FL];split<;>decide
      have nc:=Ss hB jU FL;have g1:=nc.1;have g2:=nc.2;have M0:iT ((2*(iY (val L) (val M) n x)+(jr (val L) n x))-val M) ((ix M).length+1)=iT (iY (val L) (val M) n (x+1)) ((ix M).length+1):=by rw[g1]
      have e3:n-x=(n-1-x)+1:= aE ;have e4:n-(x+1)=(n-1-x):= aE ;have hle:=adE (val L) (val M) n x;rw[e3]at hle;have FV:=amv (q:=(k0 (val L) (val M) n x)) (i:=(n-1-x)) (m:=L.length) Jc (cB hle (mJ hL));have s2:=FV.2.1;have s3:=FV.2.2;have agH:(iT ((k0 (val L) (val M) n x)*2^(n-x)) L.length).set ((n-1-x)/32) (iI ((k0 (val L) (val M) n x)*2^((n-1-x)+1)) ((n-1-x)/32)+2^((n-1-x)%32))=(iT ((k0 (val L) (val M) n (x+1))*2^(n-(x+1))) L.length):=by rw[e3,s3,g2,e4]
      have iQ:(((iT ((k0 (val L) (val M) n x)*2^(n-x)) L.length).getD ((n-1-x)/32) 0:Nat):Int)=(iI ((k0 (val L) (val M) n x)*2^((n-1-x)+1)) ((n-1-x)/32):Int):=by rw[e3,tU Jc]
      have ub:bits .or .u32 (iI ((k0 (val L) (val M) n x)*2^((n-1-x)+1)) ((n-1-x)/32):Int) (IntKind.u32.wrap (1*2^((n-1-x)%32)))=((iI ((k0 (val L) (val M) n x)*2^((n-1-x)+1)) ((n-1-x)/32)+2^((n-1-x)%32):Nat):Int):=by
       refine Exists.elim FV.1 λt s1=>?_
       rw[s1]at s2 ⊢;exact ajp _ _ (bM _ aG) s2
      exact ae [tB 61 (bB oI),.s (Sp.jv (Xi L M n x) 0 ((ix M).length+1) aE (λk hk DZ=>by
    have ha:=Zf (aE:val M<=(2*(iY (val L) (val M) n x)+(jr (val L) n x))) k;have hMk:(ix M).getD k 0=iI (val M) k:=by rw[qc hM.ix,oZ]
    have agC:=hM.ix;rw[<-hMk]at ha;have b1:=qb (2*(iY (val L) (val M) n x)+(jr (val L) n x)) k;have b2:=agC.getD k;have b3:=tS ((2*(iY (val L) (val M) n x)+(jr (val L) n x))-val M) (val M) k;have b5:=tS ((2*(iY (val L) (val M) n x)+(jr (val L) n x))-val M) (val M) (k+1);have b4:=qb ((2*(iY (val L) (val M) n x)+(jr (val L) n x))-val M) k;have hzz:(((iI (2*(iY (val L) (val M) n x)+(jr (val L) n x)) k+4294967296)-(ix M).getD k 0)-(jJ ((2*(iY (val L) (val M) n x)+(jr (val L) n x))-val M) (val M) k))%4294967296%4294967296=iI ((2*(iY (val L) (val M) n x)+(jr (val L) n x))-val M) k:= aE ;have hq:1-(((iI (2*(iY (val L) (val M) n x)+(jr (val L) n x)) k+4294967296)-(ix M).getD k 0)-(jJ ((2*(iY (val L) (val M) n x)+(jr (val L) n x))-val M) (val M) k))/4294967296=(jJ ((2*(iY (val L) (val M) n x)+(jr (val L) n x))-val M) (val M) (k+1)):= aE ;have uS:(kY ((2*(iY (val L) (val M) n x)+(jr (val L) n x))-val M) (2*(iY (val L) (val M) n x)+(jr (val L) n x)) k ((ix M).length+1)).set k ((((iI (2*(iY (val L) (val M) n x)+(jr (val L) n x)) k+4294967296)-(ix M).getD k 0)-(jJ ((2*(iY (val L) (val M) n x)+(jr (val L) n x))-val M) (val M) k))%4294967296%4294967296)=(kY ((2*(iY (val L) (val M) n x)+(jr (val L) n x))-val M) (2*(iY (val L) (val M) n x)+(jr (val L) n x)) (k+1) ((ix M).length+1)):=by rw[hzz,JU]
    exact iG (ae [tT 65 ((k:Int)<(((ix M).length+1:Nat):Int)) aE,iX (k:Int) ((ix M).length+1) aE,.a (aE:k<((ix M).length+1)),.o 71 (.int (by rw[Gk aE]):aj (.v (.int .u32 (((kY ((2*(iY (val L) (val M) n x)+(jr (val L) n x))-val M) (2*(iY (val L) (val M) n x)+(jr (val L) n x)) k ((ix M).length+1)).getD k 0:Nat):Int))) (.v (.int .u32 (iI (2*(iY (val L) (val M) n x)+(jr (val L) n x)) k:Int)))),.o 72 (.int (pZ _ aE):aj (.v (.int .u64 (IntKind.u64.wrap (iI (2*(iY (val L) (val M) n x)+(jr (val L) n x)) k:Int)))) (.v (.int .u64 (iI (2*(iY (val L) (val M) n x)+(jr (val L) n x)) k:Int)))),
     pP ((iI (2*(iY (val L) (val M) n x)+(jr (val L) n x)) k:Int)+4294967296) aE,ag [ic (ix M),iP k] (Al _ _ (iK.ix aF)),
     pP ((((iI (2*(iY (val L) (val M) n x)+(jr (val L) n x)) k)+4294967296:Nat):Int)-(((ix M).getD k 0:Nat):Int)) aE,.o 77 (.int aE:aj (.v (.int .u64 ((((iI (2*(iY (val L) (val M) n x)+(jr (val L) n x)) k)+4294967296:Nat):Int)-(((ix M).getD k 0:Nat):Int)))) (.v (.int .u64 (((iI (2*(iY (val L) (val M) n x)+(jr (val L) n x)) k+4294967296)-(ix M).getD k 0:Nat):Int)))),
     pP ((((iI (2*(iY (val L) (val M) n x)+(jr (val L) n x)) k+4294967296)-(ix M).getD k 0:Nat):Int)-(jJ ((2*(iY (val L) (val M) n x)+(jr (val L) n x))-val M) (val M) k:Int)) aE,.o 79 (.int aE:aj (.v (.int .u64 ((((iI (2*(iY (val L) (val M) n x)+(jr (val L) n x)) k+4294967296)-(ix M).getD k 0:Nat):Int)-(jJ ((2*(iY (val L) (val M) n x)+(jr (val L) n x))-val M) (val M) k:Int)))) (.v (.int .u64 ((((iI (2*(iY (val L) (val M) n x)+(jr (val L) n x)) k+4294967296)-(ix M).getD k 0)-(jJ ((2*(iY (val L) (val M) n x)+(jr (val L) n x))-val M) (val M) k):Nat):Int)))),.o 83 (.int (ET _ aE):aj (.v (.int .u64 (bits .and .u64 ((((iI (2*(iY (val L) (val M) n x)+(jr (val L) n x)) k+4294967296)-(ix M).getD k 0)-(jJ ((2*(iY (val L) (val M) n x)+(jr (val L) n x))-val M) (val M) k):Nat):Int) 4294967295))) (.v (.int .u64 (((((iI (2*(iY (val L) (val M) n x)+(jr (val L) n x)) k+4294967296)-(ix M).getD k 0)-(jJ ((2*(iY (val L) (val M) n x)+(jr (val L) n x))-val M) (val M) k))%4294967296:Nat):Int)))),.o 84 (.int (vi _):aj (.v (.int .u32 (IntKind.u32.wrap (((((iI (2*(iY (val L) (val M) n x)+(jr (val L) n x)) k+4294967296)-(ix M).getD k 0)-(jJ ((2*(iY (val L) (val M) n x)+(jr (val L) n x))-val M) (val M) k))%4294967296:Nat):Int)))) (.v (.int .u32 ((((((iI (2*(iY (val L) (val M) n x)+(jr (val L) n x)) k+4294967296)-(ix M).getD k 0)-(jJ ((2*(iY (val L) (val M) n x)+(jr (val L) n x))-val M) (val M) k))%4294967296)%4294967296:Nat):Int)))),
     iX (k:Int) ((ix M).length+1) aE,.a (aE:k<((ix M).length+1)),.a (aE:0<=(32:Int)/\(32:Int)<=((64:Nat):Int)),.o 87 (.int (C5 _):aj (.v (.int .u64 (((((iI (2*(iY (val L) (val M) n x)+(jr (val L) n x)) k+4294967296)-(ix M).getD k 0)-(jJ ((2*(iY (val L) (val M) n x)+(jr (val L) n x))-val M) (val M) k):Nat):Int)/2^32))) (.v (.int .u64 (((((iI (2*(iY (val L) (val M) n x)+(jr (val L) n x)) k+4294967296)-(ix M).getD k 0)-(jJ ((2*(iY (val L) (val M) n x)+(jr (val L) n x))-val M) (val M) k))/4294967296:Nat):Int)))),
     pP (1-(((((iI (2*(iY (val L) (val M) n x)+(jr (val L) n x)) k+4294967296)-(ix M).getD k 0)-(jJ ((2*(iY (val L) (val M) n x)+(jr (val L) n x))-val M) (val M) k))/4294967296:Nat):Int)) aE,.o 88 (.int aE:aj (.v (.int .u64 (1-(((((iI (2*(iY (val L) (val M) n x)+(jr (val L) n x)) k+4294967296)-(ix M).getD k 0)-(jJ ((2*(iY (val L) (val M) n x)+(jr (val L) n x))-val M) (val M) k))/4294967296:Nat):Int)))) (.v (.int .u64 ((1-((((iI (2*(iY (val L) (val M) n x)+(jr (val L) n x)) k+4294967296)-(ix M).getD k 0)-(jJ ((2*(iY (val L) (val M) n x)+(jr (val L) n x))-val M) (val M) k))/4294967296):Nat):Int)))),
     iz ((k:Int)+1) aE]<|.e (af [.o 12 (.int (by rw[hq]):aj (.v (.int .u64 ((1-((((iI (2*(iY (val L) (val M) n x)+(jr (val L) n x)) k+4294967296)-(ix M).getD k 0)-(jJ ((2*(iY (val L) (val M) n x)+(jr (val L) n x))-val M) (val M) k))/4294967296):Nat):Int))) (.v (.int .u64 (jJ ((2*(iY (val L) (val M) n x)+(jr (val L) n x))-val M) (val M) (k+1):Int)))),.b 23 (EF rfl bg uS:Bx.le (.row false 150 ((ix M).length+1) 1 (λi' j'=>if i'=k/\0<=j'/\j'<0+1 then[.v (.int .u32 ((((((iI (2*(iY (val L) (val M) n x)+(jr (val L) n x)) k+4294967296)-(ix M).getD k 0)-(jJ ((2*(iY (val L) (val M) n x)+(jr (val L) n x))-val M) (val M) k))%4294967296)%4294967296:Nat):Int))].getD (j'-0) .any else(jl (kY ((2*(iY (val L) (val M) n x)+(jr (val L) n x))-val M) (2*(iY (val L) (val M) n x)+(jr (val L) n x)) k ((ix M).length+1))) i' j')) (.row false 150 ((ix M).length+1) 1 (jl (kY ((2*(iY (val L) (val M) n x)+(jr (val L) n x))-val M) (2*(iY (val L) (val M) n x)+(jr (val L) n x)) (k+1) ((ix M).length+1)))))])) aI)
  (λhk=>by
    exact iG (ae [tF 65 ((((ix M).length+1:Nat):Int)<(((ix M).length+1:Nat):Int)) aE]<|.e (af [.b 23 (.iM (by rw[JT (bC _)]):Bx.le (.row false 150 ((ix M).length+1) 1 (jl (kY ((2*(iY (val L) (val M) n x)+(jr (val L) n x))-val M) (2*(iY (val L) (val M) n x)+(jr (val L) n x)) ((ix M).length+1) ((ix M).length+1)))) (.row false 150 ((ix M).length+1) 1 (jl (iT ((2*(iY (val L) (val M) n x)+(jr (val L) n x))-val M) ((ix M).length+1)))))])) aI) aM:ju 17 f277 (Xi L M n x 0) (.exit 4) ⟨106,false,[(8,.e (iP ((n:Int)-1-(x:Int)))),(7,.own 23),(6,.own 19),(1,.e (ic (ix M))),(0,.e (ic L))],[(23,.row false 150 ((ix M).length+1) 1 (jl (iT ((2*(iY (val L) (val M) n x)+(jr (val L) n x))-val M) ((ix M).length+1)))),(19,.row false 150 L.length 1 (jl (iT ((k0 (val L) (val M) n x)*2^(n-x)) L.length)))]⟩) (af [.o 12 (.int (by rw[It];rfl):aj (.v (.int .u64 0)) (.v (.int .u64 (jJ ((2*(iY (val L) (val M) n x)+(jr (val L) n x))-val M) (val M) 0:Int)))),.b 23 (.iM (by rw[Gl]):Bx.le (.row false 150 ((ix M).length+1) 1 (jl (iT (2*(iY (val L) (val M) n x)+(jr (val L) n x)) ((ix M).length+1)))) (.row false 150 ((ix M).length+1) 1 (jl (kY ((2*(iY (val L) (val M) n x)+(jr (val L) n x))-val M) (2*(iY (val L) (val M) n x)+(jr (val L) n x)) 0 ((ix M).length+1)))))]),.o 90 (aq ((n:Int)-1-(x:Int)) ((n-1-x:Nat):Int) aE),.a (aE:0<(32:Int)),iz ((n-1-x:Nat):Int) aE,.o 93 (aq ((n:Int)-1-(x:Int)) ((n-1-x:Nat):Int) aE),.a (aE:0<(32:Int)),iz ((n-1-x:Nat):Int) aE,
       iX (((n-1-x)/32:Nat):Int) (L.length) aE,.a (aE:((n-1-x)/32)<L.length),.o 96 (.int iQ:aj (.v (.int .u32 (((iT ((k0 (val L) (val M) n x)*2^(n-x)) L.length).getD ((n-1-x)/32) 0:Nat):Int))) (.v (.int .u32 (iI ((k0 (val L) (val M) n x)*2^((n-1-x)+1)) ((n-1-x)/32):Int)))),.o 97 (aq ((n:Int)-1-(x:Int)) ((n-1-x:Nat):Int) aE),.a (aE:0<(32:Int)),.a (aE:0<=((((n-1-x)%32:Nat):Int):Int)/\((((n-1-x)%32:Nat):Int):Int)<=((32:Nat):Int)),.o 100 (.int ub:aj (.v (.int .u32 (bits .or .u32 (iI ((k0 (val L) (val M) n x)*2^((n-1-x)+1)) ((n-1-x)/32):Int) (IntKind.u32.wrap (1*2^((n-1-x)%32)))))) (.v (.int .u32 ((iI ((k0 (val L) (val M) n x)*2^((n-1-x)+1)) ((n-1-x)/32)+2^((n-1-x)%32):Nat):Int)))),
       iX (((n-1-x)/32:Nat):Int) (L.length) aE,.a (aE:((n-1-x)/32)<L.length),.o 29 (aq ((n:Int)-1-(x:Int)) ((n-1-x:Nat):Int) aE),
       iz (((n-1-x:Nat):Int)-1) aE]<|.e (af [.o 8 (aq (((n-1-x:Nat):Int)-1) ((n:Int)-1-((x+1:Nat):Int)) aT),.b 23 (.iM (by rw[M0]):Bx.le (.row false 150 ((ix M).length+1) 1 (jl (iT ((2*(iY (val L) (val M) n x)+(jr (val L) n x))-val M) ((ix M).length+1)))) (.row false 150 ((ix M).length+1) 1 (jl (iT (iY (val L) (val M) n (x+1)) ((ix M).length+1))))),.b 19 (EF rfl (by rw[nf];omega) agH:Bx.le (.row false 150 L.length 1 (λi' j'=>if i'=((n-1-x)/32)/\0<=j'/\j'<0+1 then[.v (.int .u32 ((iI ((k0 (val L) (val M) n x)*2^((n-1-x)+1)) ((n-1-x)/32)+2^((n-1-x)%32):Nat):Int))].getD (j'-0) .any else(jl (iT ((k0 (val L) (val M) n x)*2^(n-x)) L.length)) i' j')) (.row false 150 L.length 1 (jl (iT ((k0 (val L) (val M) n (x+1))*2^(n-(x+1))) L.length))))]))) aI)
  (λhx=>by
    exact iG (ae [tF 28 (0<=((n:Int)-1-(n:Int))) aE,.z 19,.z 23]<|.e (af [.o 7 (.e (At (nf _ _).symm):aj (.sl false ((ix M).length+1) 1 (jl (iT (iY (val L) (val M) n n) ((ix M).length+1)))) (ic (iT (iY (val L) (val M) n n) ((ix M).length+1)))),.o 6 (.e (At (nf _ _).symm):aj (.sl false L.length 1 (jl (iT ((k0 (val L) (val M) n n)*2^(n-n)) L.length))) (ic (iT ((k0 (val L) (val M) n n)*2^(n-n)) L.length)))])) aI) aM:ju 5 f277 (Xj L M n 0) (.exit 0) ⟨106,false,[(7,.e (ic (iT (iY (val L) (val M) n n) ((ix M).length+1)))),(6,.e (ic (iT ((k0 (val L) (val M) n n)*2^(n-n)) L.length)))],[]⟩) (af [.o 8 (aq ((n:Int)-1) ((n:Int)-1-((0:Nat):Int)) aT),.b 23 (G5 rfl (λi=>by rw[I0.1,IA]):Bx.le (.row false 150 ((ix M).length+1) 1 (λ_ j_=>[.v (.int .u32 0)].getD j_ .any)) (.row false 150 ((ix M).length+1) 1 (jl (iT (iY (val L) (val M) n 0) ((ix M).length+1))))),.b 19 (G5 rfl (λi=>by rw[I0.2,cP,IA]):Bx.le (.row false 150 L.length 1 (λ_ j_=>[.v (.int .u32 0)].getD j_ .any)) (.row false 150 L.length 1 (jl (iT ((k0 (val L) (val M) n 0)*2^(n-0)) L.length))))]),.cf (yN _ (sK _ _) aV:wM 311 [ic (iT ((k0 (val L) (val M) n n)*2^(n-n)) L.length)] _),.cf (yN _ (sK _ _) aV:wM 311 [ic (iT (iY (val L) (val M) n n) ((ix M).length+1))] _)]<|rQ (.iC [ic (ix (iT ((k0 (val L) (val M) n n)*2^(n-n)) L.length)),ic (ix (iT (iY (val L) (val M) n n) ((ix M).length+1)))]) (.iC [ic (ia (val L/val M)),ic (ia (val L%val M))]) (by rw[he.1,he.2,C9 f1,C9 f2,dc,cw,cz])) 
def akj(m:Nat)(h:(ia m).length<=10000):gZ 311 [ic (ia m)] (ic (ia m)):=by
 have:=(yN (ia m) (kR m) aE).pc;rwa[show ix (ia m)=ia m from wJ m]at this
def Et(m:Nat)(h:(ia m).length<=10000):gZ 276 [ic (ia m)] (iP (iq m)):=by
 have:=Xc (ia m) (kR m) aE;rwa[kf]at this
def aj7(m n:Nat)(h:(ia m).length<=10000)(k:(ia n).length<=10000):gZ 315 [ic (ia m),ic (ia n)] (iP (kE m n)):=by
 have:=Xg (ia m) (ia n) (kR m) (kR n) aE aE;rwa[kf,kf]at this
def O9(m n:Nat)(h:(ia m).length<=10000)(k:(ia n).length<=10000):gZ 316 [ic (ia m),ic (ia n)] (ic (ia (m+n))):=by
 have:=aj4 (ia m) (ia n) (kR m) (kR n) aE aE;rwa[kf,kf]at this
def akh(m n:Nat)(h:(ia m).length<=10000)(k:n<=m):gZ 359 [ic (ia m),ic (ia n)] (ic (ia (m-n))):=by
 have:=aki (ia m) (ia n) (kR m) (kR n) aE (by rw[kf,kf];exact k);rwa[kf,kf]at this
def Pa(m n:Nat)(h:(ia m).length<=10000)(k:n<=1000000):gZ 278 [ic (ia m),iP (n:Int)] (ic (ia (m*2^n))):=by
 have:=ake (ia m) n (kR m) aE aE;rwa[kf]at this
def akf(m n:Nat)(h:(ia m).length<=10000)(k:n<=1000000):gZ 314 [ic (ia m),iP (n:Int)] (ic (ia (m/2^n))):=by
 have:=akg (ia m) n (kR m) aE aE;rwa[kf]at this
def akb(m n:Nat)(h:(ia m).length<=10000)(k:(ia n).length<=10000)(h0:0<n):gZ 277 [ic (ia m),ic (ia n)] (.iC [ic (ia (m/n)),ic (ia (m%n))]):=by
 have:=akc (ia m) (ia n) _ (kR m) (kR n) aE aE (by rw[kf];exact h0) rfl;rwa[kf,kf]at this
def akA(neg:Bool)(p:Nat)(iw:8<=p)(ij:p<=512):gZ 317 [bP neg,iP p] (ie (canon neg (2^p-1) (16384-(p:Int)))):=by
 have g0:iq (1*2^p)=p+1:=by rw[ck];exact vz (bC _) (fk aG aE)
 have g1:(ia 1).length<=256:=nJ aG;have g2:(ia (1*2^p)).length<=256:=nJ aE;have g4:1<=1*2^p:=by rw[ck];exact bF aG 
 have g3:(ia ((1*2^p)-1)).length<=256:=nJ (by have:=tR (ey (1*2^p) 1);omega);exact ak call317 func317 (ae [.o 6 (.e sE:aj (.sl false 1 1 λi_ j_=>[.v (.int .u32 1)].getD (i_*1+j_) (.v (.bool false))) (ic (ia 1))),ag [ic (ia 1),iP p] (Pa _ _ aE aE),.o 9 (.e sE:aj (.sl false 1 1 λi_ j_=>[.v (.int .u32 1)].getD (i_*1+j_) (.v (.bool false))) (ic (ia 1))),ag [ic (ia (1*2^p)),ic (ia 1)] (akh _ _ aE aF),iz (16384-(p:Int)) aE,ag [bP neg,ic (ia ((1*2^p)-1)),iP (16384-(p:Int))] (EA _ _ _ aE aE aE)]<|rQ (ie (canon neg ((1*2^p)-1) (16384-(p:Int)))) (ie (canon neg (2^p-1) (16384-(p:Int)))) (by rw[ck])) 
noncomputable def Bu(neg:Bool)(m:Nat)(e:Int)(more:Bool)(p:Nat)(up:Bool)(h1:(ia m).length<=2900)(lv:-200000<=e)(kQ:e<=200000)(iw:8<=p)(ij:p<=512)(Q:Nat)(U:Bool)(hq:kT m e more p (neg != up)=Q)(hU:U=(neg != up))(hl:(ia Q).length<=2901):Tr prog Tb:=by
 have hb:=wR h1;have mO:jj m e p<=1000000:=by unfold jj;omega
 have tZ:(jj m e p:Int)<=max (iq m:Int) (-16384-e):=by unfold jj;omega
 have g4:=wR hl;exact ae [ag [ic (ia Q)] (Et _ aE)]<|.w (0<(iq Q:Int))
  (λk1=>ae [tB 53 (bA k1),ag [ic (ia Q)] (Et _ aE),iz ((iq Q:Int)+e) aE,iz (((iq Q:Int)+e)+(jj m e p:Int)) aE]<|.w (16384<(((iq Q:Int)+e)+(jj m e p:Int)))
   (λk2=>ae [tB 61 (bA k2)]<|.w (U=true)
    (λk3=>ae [tB 63 k3,.o 64 (.e s7:aj (.agg ar) (ie jD))]<|rR (.iC [ie (jY neg m e more p up),iP (jP neg m e more p up)]) (by
      have h0:Q≠0:=by intro h;rw[h]at k1;exact absurd k1 aG 
      obtain⟨g1,g2⟩:=(RV (e:=e) hq h0 aE).1 (by rw[<-hU];simp[k3]);exact .iM (by rw[g1,g2]):E.le (.iC [ie jD,iP 9]) (.iC [ie (jY neg m e more p up),iP (jP neg m e more p up)])))
    (λk3=>ae [tB 63 (bn k3),ag [bP neg,iP p] (akA _ _ aE aE)]<|rR (.iC [ie (jY neg m e more p up),iP (jP neg m e more p up)]) (by
      have h0:Q≠0:=by intro h;rw[h]at k1;exact absurd k1 aG 
      obtain⟨g1,g2⟩:=(RV (e:=e) hq h0 aE).2 (by rw[<-hU];simp[k3]);exact .iM (by rw[g1,g2]):E.le (.iC [ie (canon neg (2^p-1) (16384-(p:Int))),iP 0]) (.iC [ie (jY neg m e more p up),iP (jP neg m e more p up)]))))
   (λk2=>ae [tB 61 (bB k2),iz (e+(jj m e p:Int)) aE,ag [bP neg,ic (ia Q),iP (e+(jj m e p:Int))] (EA _ _ _ aE aE aE)]<|rR (.iC [ie (jY neg m e more p up),iP (jP neg m e more p up)]) (by
      obtain⟨g1,g2⟩:=RT (e:=e) hq (.inr aE);exact .iM (by rw[g1,g2]):E.le (.iC [ie (canon neg Q (e+(jj m e p:Int))),iP 0]) (.iC [ie (jY neg m e more p up),iP (jP neg m e more p up)]))))
  (λk1=>ae [tB 53 (bB k1),iz (e+(jj m e p:Int)) aE,ag [bP neg,ic (ia Q),iP (e+(jj m e p:Int))] (EA _ _ _ aE aE aE)]<|rR (.iC [ie (jY neg m e more p up),iP (jP neg m e more p up)]) (by
      have h0:Q=0:=by
       apply ca;intro h;have:=nv h;omega
      obtain⟨g1,g2⟩:=RT (e:=e) hq (.inl h0);exact .iM (by rw[g1,g2]):E.le (.iC [ie (canon neg Q (e+(jj m e p:Int))),iP 0]) (.iC [ie (jY neg m e more p up),iP (jP neg m e more p up)])))
def Xu(neg:Bool)(m:Nat)(e:Int)(more:Bool)(p:Nat)(up:Bool)(h1:(ia m).length<=2900)(lv:-200000<=e)(kQ:e<=200000)(iw:8<=p)(ij:p<=512):gZ 279 [bP neg,ic (ia m),iP e,bP more,iP p,bP up] (.iC [ie (jY neg m e more p up),iP (jP neg m e more p up)]):=by
 have hb:=wR h1;have mO:jj m e p<=1000000:=by unfold jj;omega
 have tZ:(jj m e p:Int)<=max (iq m:Int) (-16384-e):=by unfold jj;omega
 have g1:=mU (bV m (2^jj m e p));have g2:=mU (du m (2^jj m e p));have l1:(ia 1).length<=256:=nJ aG;have g3:(ia ((m/2^jj m e p)+1)).length<=2901:=VC aE aE;have g5:=wR (m:=m/2^jj m e p) (bG g1 h1);exact ak call279 func279 (ae [ag [ic (ia m)] (akj _ aE),ag [ic (ia m)] (Et _ aE),iz ((iq m:Int)-p) aE,iz ((-16384)-e) aE,.o 27 (aq (if 0>(if((-16384)-e)>((iq m:Int)-p)then((-16384)-e)else((iq m:Int)-p))then 0 else(if((-16384)-e)>((iq m:Int)-p)then((-16384)-e)else((iq m:Int)-p))) (jj m e p:Int) (by unfold jj;(repeat' split)<;>omega)),ag [ic (ia m),iP (jj m e p:Int)] (akf _ _ aE aE)]<|.w (0<(jj m e p:Int))
  (λk1=>ae [tB 32 (bA k1),ag [ic (ia (m/2^(jj m e p))),iP (jj m e p:Int)] (Pa _ _ aE aE),ag [ic (ia ((m/2^(jj m e p))*2^(jj m e p))),ic (ia m)] (aj7 _ _ aE aE)]<|.w ((kE ((m/2^(jj m e p))*2^(jj m e p)) m)=0)
   (λk2=>by
    have iQ:m%2^(jj m e p)=0:=(VQ _ _).1 k2;exact ae [tB 39 (bq k2)]<|.w (more=true)
     (λk3=>.w (neg=up)
      (λk4=>ae [tB 43 (vD (bk k4)),tB 44 k3]<|Bu neg m e more p up h1 lv kQ iw ij (m/2^(jj m e p)) false (by unfold kT;simp[k3,k4,iQ]) (by first|rfl|simp[k3,k4,iQ]) aE)
      (λk4=>ae [tB 43 (vC (bj k4)),tB 44 k3,.o 49 (.e sE:aj (.sl false 1 1 λi_ j_=>[.v (.int .u32 1)].getD (i_*1+j_) (.v (.bool false))) (ic (ia 1))),ag [ic (ia (m/2^(jj m e p))),ic (ia 1)] (O9 _ _ aE aE)]<|Bu neg m e more p up h1 lv kQ iw ij ((m/2^(jj m e p))+1) true (by unfold kT;simp[k3,k4,iQ]) (by first|rfl|simp[k3,k4,iQ]) aE))
     (λk3=>ae [tB 44 (bn k3)]<|Bu neg m e more p up h1 lv kQ iw ij (m/2^(jj m e p)) (!(neg==up)) (by unfold kT;simp[k3,iQ]) (by first|rfl|simp[k3,iQ]) aE))
   (λk2=>by
    have iQ:m%2^(jj m e p)≠0:=λh=>k2 ((VQ _ _).2 h)
    exact ae [tB 39 (bt k2)]<|.w (neg=up)
     (λk3=>ae [tB 43 (vD (bk k3))]<|Bu neg m e more p up h1 lv kQ iw ij (m/2^(jj m e p)) false (by unfold kT;simp[k3,iQ]) (by first|rfl|simp[k3,iQ]) aE)
     (λk3=>ae [tB 43 (vC (bj k3)),.o 49 (.e sE:aj (.sl false 1 1 λi_ j_=>[.v (.int .u32 1)].getD (i_*1+j_) (.v (.bool false))) (ic (ia 1))),ag [ic (ia (m/2^(jj m e p))),ic (ia 1)] (O9 _ _ aE aE)]<|Bu neg m e more p up h1 lv kQ iw ij ((m/2^(jj m e p))+1) true (by unfold kT;simp[k3,iQ]) (by first|rfl|simp[k3,iQ]) aE)))
  (λk1=>by
   have iQ:m%2^(jj m e p)=0:=by rw[show(jj m e p)=0 by omega,cw,dj]
   exact ae [tB 32 (bB k1)]<|.w (more=true)
    (λk2=>.w (neg=up)
     (λk3=>ae [tB 43 (vD (bk k3)),tB 44 k2]<|Bu neg m e more p up h1 lv kQ iw ij (m/2^(jj m e p)) false (by unfold kT;simp[k2,k3,iQ]) (by first|rfl|simp[k2,k3,iQ]) aE)
     (λk3=>ae [tB 43 (vC (bj k3)),tB 44 k2,.o 49 (.e sE:aj (.sl false 1 1 λi_ j_=>[.v (.int .u32 1)].getD (i_*1+j_) (.v (.bool false))) (ic (ia 1))),ag [ic (ia (m/2^(jj m e p))),ic (ia 1)] (O9 _ _ aE aE)]<|Bu neg m e more p up h1 lv kQ iw ij ((m/2^(jj m e p))+1) true (by unfold kT;simp[k2,k3,iQ]) (by first|rfl|simp[k2,k3,iQ]) aE))
    (λk2=>ae [tB 44 (bn k2)]<|Bu neg m e more p up h1 lv kQ iw ij (m/2^(jj m e p)) (!(neg==up)) (by unfold kT;simp[k2,iQ]) (by first|rfl|simp[k2,iQ]) aE))) 
end Go.Proofs.YtkjkcjhacddojaaGreatDoor
namespace Go.Proofs.YtkjkcjhacddojaaGreatDoor.Fp
def Rn{s:Bool}{m:Nat}{e:Int}(hm:iq m<=60000)(lv:-60000<=e)(kQ:e<=60000):(ia (canon s m e).m).length<=2900 /\ -200000<=(canon s m e).e/\(canon s m e).e<=200000:=by
 by_cases h0:m=0
 .subst h0;rw[Dl];exact⟨by rw[show jD.m=0 from rfl,nT];decide,aG,aG⟩
 .obtain ⟨h1,h2,h3,h4⟩:=BV (s:=s) (e:=e) h0;have h5:=nv h3;exact⟨VF aE,aE,aE⟩
def ajM{a b:Dy}(ha:a.ik)(hb:b.ik):(ia (lg a b).m).length<=2900 /\ -200000<=(lg a b).e/\(lg a b).e<=200000:=by
 have h1:=ha.bits;have h2:=hb.bits;have h3:=ha.exp;have h4:=hb.exp;have h5:iq (a.m*b.m)<=iq a.m+iq b.m:=by
  rw[ln,bE];exact gX (pK a.m) (pK b.m)
 exact Rn aE aE aE 
def WI{a:Dy}{k:Int}(h:k<=a.e):iq (a.num k).natAbs<=iq a.m+(a.e-k).toNat:=by
 have e:(a.num k).natAbs=a.m*2^(a.e-k).toNat:=by
  unfold Dy.num Dy.kr;split
  .rw [fQ];exact ej _
  .exact ej _
 rw[e];by_cases h0:a.m=0
 .rw [h0,cP];exact cj _
 .rw [re h0];exact bC _
def anv{a b:Dy}(ha:a.ik)(hb:b.ik):(ia (jc a b).m).length<=2900 /\ -200000<=(jc a b).e/\(jc a b).e<=200000:=by
 have h1:=ha.bits;have h2:=hb.bits;have h3:=ha.exp;have h4:=hb.exp;have la:=ha.len;have lb:=hb.len;unfold jc;split
 .exact ⟨aE,aE,aE⟩
 .split
  .exact ⟨aE,aE,aE⟩
  .have g1:=WI (a:=a) (k:=min a.e b.e) aE ;have g2:=WI (a:=b) (k:=min a.e b.e) aE;refine Rn ?_ aE aE;obtain⟨K,hK⟩:∃ K,K=40000:=⟨_,rfl⟩
   have g3:=ln.1 (bG g1 (aE:iq a.m+(a.e-min a.e b.e).toNat<=K));have g4:=ln.1 (bG g2 (aE:iq b.m+(b.e-min a.e b.e).toNat<=K));refine bG ((ln (k:=K+1)).2 ?_) (aE:K+1<=60000);have g5:(a.num (min a.e b.e)+b.num (min a.e b.e)).natAbs<=(a.num (min a.e b.e)).natAbs+(b.num (min a.e b.e)).natAbs:=Int.natAbs_add_le _ _;rw[bH];generalize 2^K=P at *
   omega
def RL{a b:Dy}(ha:a.ik)(hb:b.ik)(h:jK a b=0):a=b:=by
 have h1:oq a (min a.e b.e):=.inr aE;have h2:oq b (min a.e b.e):=.inr aE;rw[Dm h1 h2]at h;refine L8 ha.canon hb.canon h1 h2 ?_;unfold wT at h;split at h
 .omega
 .split at h<;>omega
def JS{a b c:Dy}(ha:a.ik)(hb:b.ik)(hc:c.ik)(h1:jK a c<=0)(h2:jK b c<=0)(h3:c=a\/c=b):ja a b=c:=by
 unfold ja;rcases h3 with rfl|rfl
 .rw [bu aE]
 .split
  .rfl
  .rename_i h;have:=xS a c;exact RL ha hc aE 
def V4{a b c:Dy}(ha:a.ik)(hb:b.ik)(hc:c.ik)(h1:jK c a<=0)(h2:jK c b<=0)(h3:c=a\/c=b):jd a b=c:=by
 unfold jd;rcases h3 with rfl|rfl
 .have:=xS c b;rw[bu aE]
 .split
  .rfl
  .rename_i h;have:=xS a c;exact RL ha hc aE 
def J4(d:Dy)(k:Int):(lF d).num k=((d.num k).natAbs:Int):=by
 unfold Dy.num Dy.kr lF;cases d.neg
 .simp;exact(ej (d.m*2^(d.e-k).toNat)).symm▸by simp
 .simp only[bS,bJ,bQ];rw[fQ,ej]
def Qz{d:Dy}(hd:d.mF){k:Int}(h:0<=d.num k):lF d=d:=by
 rcases hd with⟨h1,h2,h3⟩|h1
 .unfold lF;rw[<-h2]
 .cases hn:d.neg with
  |false=>unfold lF;rw[<-hn]
  |true=>
   have:0<d.kr k:=xr aE k;unfold Dy.num at h;rw[hn,bw rfl]at h;omega
def QA{d:Dy}(hd:d.mF){k:Int}(h:d.num k<=0):lF d=iU d:=by
 rcases hd with⟨h1,h2,h3⟩|h1
 .unfold lF iU;rw[h1,h2];simp
 .cases hn:d.neg with
  |true=>unfold lF iU;rw[hn];simp
  |false=>
   have:0<d.kr k:=xr aE k;unfold Dy.num at h;rw[hn,bu aG]at h;omega
def ah7{x:Iv}(h1:x.lo.ik)(h2:x.hi.ik)(h3:jK x.lo x.hi<=0):kS x=ja (iU x.lo) x.hi:=by
 obtain⟨k,ka,kb⟩:∃ k:Int,k<=x.lo.e/\k<=x.hi.e:=⟨min x.lo.e x.hi.e,aE,aE⟩
 have aL:oq x.lo k:=.inr ka;have aH:oq x.hi k:=.inr kb;have aN:oq (iU x.lo) k:=E5 aL;have aA:oq (lF x.lo) k:=aL;have aB:oq (lF x.hi) k:=aH;have hle:=(oV aL aH).1 h3;have n1:=Gx (d:=x.lo) k;have n2:=J4 x.lo k;have n3:=J4 x.hi k;unfold kS;by_cases hc:0<jK x.hi (iU x.lo)
 .have e:ja (iU x.lo) x.hi=x.hi:=by unfold ja;rw[bw hc]
  have DR:¬x.hi.num k<=(iU x.lo).num k:=λh=>by have:=(oV aH aN).2 h;omega
  rw[e];exact JS (sj h1) (sj h2) h2 ((oV aA aH).2 aE) ((oV aB aH).2 aE) (.inr (Qz h2.canon (k:=k) aE).symm)
 .have e:ja (iU x.lo) x.hi=iU x.lo:=by unfold ja;rw[bu hc]
  have rB:x.hi.num k<=(iU x.lo).num k:=(oV aH aN).1 aE;rw[e];exact JS (sj h1) (sj h2) (qA h1) ((oV aA aN).2 aE) ((oV aB aN).2 aE) (.inl (QA h1.canon (k:=k) aE).symm)
def YS{d:Dy}(k:Int):(0<d.jb↔0<d.num k)/\(d.jb<0↔d.num k<0):=by
 obtain⟨h1,h2,h3⟩:=OE (d:=d) k;rcases C6 d with⟨_,h⟩|⟨_,_,h⟩|⟨_,_,h⟩
 .have:=h1 h;rw[h];omega
 .have:=h2 h;rw[h];omega
 .have:=h3 h;rw[h];omega
def aii{x:Iv}(ha:x.all=false)(h1:x.lo.ik)(h2:x.hi.ik)(h3:jK x.lo x.hi<=0):nK x=if lZ x=0 then jD else ja x.lo (iU x.hi):=by
 unfold nK;by_cases hs:lZ x=0
 .rw [bw hs,bw hs]
 .rw [bu hs,bu hs];obtain⟨k,ka,kb⟩:∃ k:Int,k<=x.lo.e/\k<=x.hi.e:=⟨min x.lo.e x.hi.e,aE,aE⟩
  have aL:oq x.lo k:=.inr ka;have aH:oq x.hi k:=.inr kb;have aN:oq (iU x.hi) k:=E5 aH;have aA:oq (lF x.lo) k:=aL;have aB:oq (lF x.hi) k:=aH;have hle:=(oV aL aH).1 h3;have n1:=Gx (d:=x.hi) k;have n2:=J4 x.lo k;have n3:=J4 x.hi k;have sL:=YS (d:=x.lo) k;have sH:=YS (d:=x.hi) k;by_cases hp:0<x.lo.jb
  .have UC:=sL.1.1 hp;have e1:=Qz h1.canon (k:=k) aE;rw[V4 (sj h1) (sj h2) h1 ((oV aL aA).2 aE) ((oV aL aB).2 aE) (.inl e1.symm)];exact(JS h1 (qA h2) h1 (z8 _) ((oV aN aL).2 aE) (.inl rfl)).symm
  .have hn:x.hi.jb<0:=by
    apply ca;intro hn;unfold lZ at hs;rw[ha,bu aG,bu hp,bu hn]at hs;exact hs rfl
   have tu:=sH.2.1 hn;have e1:=QA h2.canon (k:=k) aE;rw[V4 (sj h1) (sj h2) (qA h2) ((oV aN aA).2 aE) ((oV aN aB).2 aE) (.inr e1.symm)];exact(JS h1 (qA h2) (qA h2) ((oV aL aN).2 aE) (z8 _) (.inr rfl)).symm
def pg{a b:Dy}{p:Nat}{up:Bool}(hp:1<=p)(ij:p<=4096):(kG a b p up).ik:=by
 unfold kG;split
 .exact q6
 .exact mR _ _ _ _ _ _ hp ij
def V6(a:Dy):jd a a=a:=by unfold jd;split<;>rfl
def V3(a:Dy):ja a a=a:=by unfold ja;split<;>rfl
end Go.Proofs.YtkjkcjhacddojaaGreatDoor.Fp
namespace Go.Proofs.YtkjkcjhacddojaaGreatDoor
open Go.RowKit Fp Pu
def Pb(d:Dy)(p:Nat)(up:Bool)(h1:(ia d.m).length<=2900)(lv:-200000<=d.e)(kQ:d.e<=200000)(iw:8<=p)(ij:p<=512):gZ 230 [ie d,iP p,bP up] (.iC [ie (jf d p up),iP (jx d p up)]):=
 ak call230 func230 (af [.c (Xu d.neg d.m d.e false p up aE aE aE aE aE)]) 
def GQ(a b:Dy)(p:Nat)(ha:a.ik)(hb:b.ik)(iw:8<=p)(ij:p<=512):gZ 229 [ie a,ie b,iP p] (iP 0):=
 ak call229 func229 (af [ag [ie a] (BB _ aF),ag [ie b] (BB _ aF),ag [iP p] (Km _),ah 16 (kC (p:Int)) (pe.2 ⟨aE,aE⟩)]) 
def CN(a b:Dy)(p:Nat)(up:Bool)(ha:a.ik)(hb:b.ik)(iw:8<=p)(ij:p<=512):gZ 154 [ie a,ie b,iP p,bP up] (.iC [ie (jf (jc a b) p up),iP (jx (jc a b) p up)]):=by
 have hx:=anv ha hb;exact ak call154 func154 (af [ag [ie a,ie b,iP p] (GQ _ _ _ aF aF aE aE),ai 16 ((0:Int) != 0) aG,.c (Yd a b (Fp.Dy.ik.uk aF) (Fp.Dy.ik.uk aF)),ag [ie (jc a b),iP p,bP up] (Pb _ _ _ hx.1 hx.2.1 hx.2.2 aE aE)]) 
def wD(a b:Dy)(p:Nat)(up:Bool)(ha:a.ik)(hb:b.ik)(iw:8<=p)(ij:p<=512):gZ 194 [ie a,ie b,iP p,bP up] (.iC [ie (jf (lg a b) p up),iP (jx (lg a b) p up)]):=by
 have hx:=ajM ha hb;exact ak call194 func194 (af [ag [ie a,ie b,iP p] (GQ _ _ _ aF aF aE aE),ai 16 ((0:Int) != 0) aG,ag [ie a,ie b] (alj _ _ (Fp.Dy.ik.uk aF) (Fp.Dy.ik.uk aF)),ag [ie (lg a b),iP p,bP up] (Pb _ _ _ hx.1 hx.2.1 hx.2.2 aE aE)]) 
def Bv(a b:Dy)(p:Nat)(up:Bool)(ha:a.ik)(hb:b.ik)(b0:b.m≠0)(iw:8<=p)(ij:p<=512):gZ 225 [ie a,ie b,iP p,bP up] (.iC [ie (kG a b p up),iP (nF a b p up)]):=by
 by_cases a0:a.m=0
 .have e1:kG a b p up=jD/\nF a b p up=0:=by unfold kG nF;rw[bw a0,bw a0];exact⟨rfl,rfl⟩
  exact ak call225 func225 (ae [ag [ie a,ie b,iP p] (GQ _ _ _ aF aF aE aE),ai 19 ((0:Int) != 0) aG,ai 25 (((ia b.m).length:Int)==0) (nC (ql b0)),ah 30 (((ia a.m).length:Int)==0) (rF (rk.2 a0)),.o 31 (.e s7:aj (.agg ar) (ie jD))]<|rQ (.iC [ie jD,iP 0]) (.iC [ie (kG a b p up),iP (nF a b p up)]) (by rw[e1.1,e1.2])) 
 .have va:=ha.ia;have vb:=hb.ia;have xa:=ha.exp;have xb:=hb.exp;have ra:=ha.range.resolve_left a0;have rb:=hb.range.resolve_left b0;have pa:=nv a0;have pb:=nv b0;have hK:kz a b p 2=p+2+iq b.m-iq a.m:=rfl;have bs:=re a0 (kz a b p 2);have z1:(ia (a.m*2^kz a b p 2)).length<=2900:=nJ aE;have z2:(ia (a.m*2^kz a b p 2/b.m)).length<=2900:=nJ (by have:=tR (bV (a.m*2^kz a b p 2) b.m);omega);have z3:(ia (a.m*2^kz a b p 2%b.m)).length<=2900:=nJ (by have:=tR (dE (bM (a.m*2^kz a b p 2) (en b0)));omega);have pE:decide (0<(iq (a.m*2^kz a b p 2%b.m):Int))=decide (a.m*2^kz a b p 2%b.m≠0):=by
   by_cases h:a.m*2^kz a b p 2%b.m=0
   .rw [h,rq];rfl
   .have:=nv h;rw[bA h,bA aE]
  exact ak call225 func225 (ae [ag [ie a,ie b,iP p] (GQ _ _ _ aF aF aE aE),ai 19 ((0:Int) != 0) aG,ai 25 (((ia b.m).length:Int)==0) (nC (ql b0)),ai 30 (((ia a.m).length:Int)==0) (nC (ql a0)),iz ((p:Int)+2) aE,ag [ic (ia b.m)] (Et _ aE),iz (((p:Int)+2)+(iq b.m:Int)) aE,ag [ic (ia a.m)] (Et _ aE),
   iz ((((p:Int)+2)+(iq b.m:Int))-(iq a.m:Int)) aE,.o 42 (aq (if((((p:Int)+2)+(iq b.m:Int))-(iq a.m:Int))>0 then((((p:Int)+2)+(iq b.m:Int))-(iq a.m:Int))else 0) (kz a b p 2:Int) aR),ag [ic (ia a.m),iP (kz a b p 2:Int)] (Pa _ _ aE aE),ag [ic (ia (a.m*2^(kz a b p 2))),ic (ia b.m)] (akb _ _ aE aE aE),
   iz (a.e-b.e) aE,iz ((a.e-b.e)-(kz a b p 2:Int)) aE,ag [ic (ia ((a.m*2^(kz a b p 2))%b.m))] (Et _ aE),.c (Xu (! (a.neg==b.neg)) ((a.m*2^(kz a b p 2))/b.m) ((a.e-b.e)-(kz a b p 2:Int)) (decide (0<(iq ((a.m*2^(kz a b p 2))%b.m):Int))) p up aE aE aE aE aE)]<|rQ (.iC [ie (jY (!(a.neg==b.neg)) ((a.m*2^(kz a b p 2))/b.m) ((a.e-b.e)-(kz a b p 2:Int)) (decide (0<(iq ((a.m*2^(kz a b p 2))%b.m):Int))) p up),iP (jP (!(a.neg==b.neg)) ((a.m*2^(kz a b p 2))/b.m) ((a.e-b.e)-(kz a b p 2:Int)) (decide (0<(iq ((a.m*2^(kz a b p 2))%b.m):Int))) p up)]) (.iC [ie (kG a b p up),iP (nF a b p up)]) (by unfold kG nF;rw[bu a0,bu a0,<-pE];rfl)) 
abbrev O6(x:Iv)(y:Iv)(p):=jd (jf (lg x.lo y.lo) p false) (jf (lg x.lo y.lo) p false)
abbrev O7(x:Iv)(y:Iv)(p):=ja (jf (lg x.lo y.lo) p true) (jf (lg x.lo y.lo) p true)
def CP(p:Int):gZ 152 [iP p] (bP (kC p)):=
 ak call152 func152 (.w (8<=p)
  (λk1=>ae [tB 4 (bA k1)]<|rQ (bP (decide (p<=512))) (bP (kC p)) (by simp[kC,k1]))
  (λk1=>ae [tB 4 (bB k1)]<|rQ (bP false) (bP (kC p)) (by simp[kC,k1]))) 
def oN : gZ 153 [] (ig iu):=
 ak call153 func153 (af [.o 1 (.e xI:aj (.agg [bP false,.v (.slice none 0 0),iP 0,bP false,.v (.slice none 0 0),iP 0,bP true]) (ig iu))]) 
def Pd(d:Dy):gZ 84 [ie d] (ig (mi d)):=
 ak call84 func84 (.nil) 
def Xy : gZ 95 [ie jD] (bP true):=
 ak call95 func95 (af [ai 4 jD.neg rfl,ah 10 (((ia jD.m).length:Int)==0) (rF (rk.2 rfl)),ah 15 (jD.e==0) rfl]) 
def Xx(x:Iv)(hx:x.ik):gZ 49 [ig x] (bP true):=by
 by_cases kN:x.all=true
 .obtain ⟨h1,h2⟩:=NQ hx kN;exact ak call49 func49 (af [ah 4 x.all kN,.c (by rw[h1];exact Xy:gZ 95 [ie x.lo] (bP true)),.c (by rw[h2];exact Xy:gZ 95 [ie x.hi] (bP true))]) 
 .replace kN:x.all=false:=by simpa using kN
  obtain⟨h1,h2,h3⟩:=pJ hx kN;exact ak call49 func49 (af [ai 4 x.all kN,ag [ie x.lo] (BB _ aF),ag [ie x.hi] (BB _ aF),.c (GW x.lo x.hi (Fp.Dy.ik.uk aF) (Fp.Dy.ik.uk aF)),tB 27 (bA h3)]) 
def u6(x:Iv)(hx:x.ik):gZ 105 [ig x] (bP (!x.all)):=
 ak call105 func105 (af [ag [ig x] (Xx _ aF)]) 
def Am(lo hi:Dy)(e f:Int):gZ 155 [ie lo,iP e,ie hi,iP f] (ig (kX lo e hi f)):=
 ak call155 func155 (.w (e=0)
  (λk1=>ae [tB 10 (bq k1)]<|.w (f=0)
   (λk2=>ae [tB 13 (bq k2)]<|rQ (ig (Iv.mk lo hi false)) (ig (kX lo e hi f)) (by unfold kX;simp[k1,k2];try rfl))
   (λk2=>ae [tB 13 (bt k2),ag [] oN]<|rQ (ig iu) (ig (kX lo e hi f)) (by unfold kX;simp[k1,k2])))
  (λk1=>ae [tB 10 (bt k1),ag [] oN]<|rQ (ig iu) (ig (kX lo e hi f)) (by unfold kX;simp[k1]))) 
def GR(x y:Iv)(p:Nat)(hx:x.ik)(hy:y.ik)(iw:8<=p)(ij:p<=512):gZ 79 [ig x,ig y,iP p] (ig (kI x y p)):=
 ak call79 func79 (ae [ag [iP p] (CP _),ah 12 (kC (p:Int)) (pe.2 ⟨aE,aE⟩),ag [ig x] (u6 _ aF)]<|.w (x.all=true)
  (λk1=>ae [tB 16 (vD k1),ag [] oN]<|rQ (ig iu) (ig (kI x y p)) (by unfold kI;simp[k1]))
  (λk1=>by
   have nc:=pJ hx (bn k1);have v1:=nc.1;have v2:=nc.2.1;have v3:=nc.2.2;exact ae [tB 16 (vC (bn k1)),ag [ig y] (u6 _ aF)]<|.w (y.all=true)
    (λk2=>ae [tB 21 (vD k2),ag [] oN]<|rQ (ig iu) (ig (kI x y p)) (by unfold kI;simp[k1,k2]))
    (λk2=>by
     have nc:=pJ hy (bn k2);have v4:=nc.1;have v5:=nc.2.1;have v6:=nc.2.2;exact ae [tB 21 (vC (bn k2)),.c (CN x.lo y.lo p false aF aF aE aE),.c (CN x.hi y.hi p true aF aF aE aE),ag [ie (jf (jc x.lo y.lo) p false),iP (jx (jc x.lo y.lo) p false),ie (jf (jc x.hi y.hi) p true),iP (jx (jc x.hi y.hi) p true)] (Am _ _ _ _)]<|rQ (ig (kX (jf (jc x.lo y.lo) p false) (jx (jc x.lo y.lo) p false) (jf (jc x.hi y.hi) p true) (jx (jc x.hi y.hi) p true))) (ig (kI x y p)) (by unfold kI;simp[k1,k2])))) 
def Pc(x:Iv)(hx:x.ik):gZ 227 [ig x] (ig (pM x)):=
 ak call227 func227 (ae [ag [ig x] (u6 _ aF)]<|.w (x.all=true)
  (λk1=>ae [tB 4 (vD k1),ag [] oN]<|rQ (ig iu) (ig (pM x)) (by unfold pM;simp[k1]))
  (λk1=>by
   have nc:=pJ hx (bn k1);have v1:=nc.1;have v2:=nc.2.1;have v3:=nc.2.2;exact ae [tB 4 (vC (bn k1)),ag [ie x.hi] (r9 _),ag [ie x.lo] (r9 _)]<|rQ (ig (Iv.mk (iU x.hi) (iU x.lo) false)) (ig (pM x)) (by unfold pM;simp[k1];try rfl))) 
def Pf(x y:Iv)(p:Nat)(hx:x.ik)(hy:y.ik)(iw:8<=p)(ij:p<=512):gZ 145 [ig x,ig y,iP p] (ig (vh x y p)):=
 ak call145 func145 (af [ag [ig y] (Pc _ aF),ag [ig x,ig (pM y),iP p] (GR _ _ _ aF (yF aF) aE aE)]) 
def Bw(a b:Dy)(ha:a.ik)(hb:b.ik):gZ 195 [ie a,ie b] (ie (jd a b)):=by
 have hc:=xS a b;exact ak call195 func195 (ae [.c (GW a b (Fp.Dy.ik.uk aF) (Fp.Dy.ik.uk aF))]<|.w ((jK a b)<=0)
  (λk1=>ae [tB 8 (bA k1)]<|rQ (ie a) (ie (jd a b)) (by unfold jd;rw[bu aE]))
  (λk1=>ae [tB 8 (bB k1)]<|rQ (ie b) (ie (jd a b)) (by unfold jd;rw[bw aE]))) 
def yM(a b:Dy)(ha:a.ik)(hb:b.ik):gZ 196 [ie a,ie b] (ie (ja a b)):=by
 have hc:=xS a b;exact ak call196 func196 (ae [.c (GW a b (Fp.Dy.ik.uk aF) (Fp.Dy.ik.uk aF))]<|.w (0<=(jK a b))
  (λk1=>ae [tB 8 (bA k1)]<|rQ (ie a) (ie (ja a b)) (by unfold ja;rw[bu aE]))
  (λk1=>ae [tB 8 (bB k1)]<|rQ (ie b) (ie (ja a b)) (by unfold ja;rw[bw aE]))) 
def Pe(x:Iv)(hx:x.ik):gZ 54 [ig x] (iP (lZ x)):=
 ak call54 func54 (ae [ag [ig x] (u6 _ aF)]<|.w (x.all=true)
  (λk1=>ae [tB 4 (vD k1)]<|rQ (iP 0) (iP (lZ x)) (by unfold lZ;simp[k1]))
  (λk1=>by
   have nc:=pJ hx (bn k1);have v1:=nc.1;have v2:=nc.2.1;have v3:=nc.2.2;exact ae [tB 4 (vC (bn k1)),ag [ie x.lo] (tI _)]<|.w (0<(Dy.jb x.lo))
    (λk2=>ae [tB 9 (bA k2)]<|rQ (iP 1) (iP (lZ x)) (by unfold lZ;simp[k1,k2]))
    (λk2=>ae [tB 9 (bB k2),ag [ie x.hi] (tI _)]<|.w ((Dy.jb x.hi)<0)
     (λk3=>ae [tB 13 (bA k3)]<|rQ (iP (-1)) (iP (lZ x)) (by unfold lZ;simp[k1,k2,k3]))
     (λk3=>ae [tB 13 (bB k3)]<|rQ (iP 0) (iP (lZ x)) (by unfold lZ;simp[k1,k2,k3]))))) 
def Kg(x:Iv)(hx:x.ik)(kN:x.all=false):gZ 177 [ig x] (ie (kS x)):=by
 obtain⟨v1,v2,v3⟩:=pJ hx kN;exact ak call177 func177 (ae [ag [ie x.lo] (r9 _),ag [ie (iU x.lo),ie x.hi] (yM _ _ (qA aF) aF)]<|rQ (ie (ja (iU x.lo) x.hi)) (ie (kS x)) (by rw[ah7 v1 v2 v3])) 
def akC(x:Iv)(hx:x.ik)(kN:x.all=false):gZ 226 [ig x] (ie (nK x)):=by
 obtain⟨v1,v2,v3⟩:=pJ hx kN;have hm:=aii kN v1 v2 v3;exact ak call226 func226 (ae [ag [ig x] (Pe _ aF)]<|.w ((lZ x)=0)
  (λk1=>ae [tB 5 (bk k1),.o 6 (.e s7:aj (.agg ar) (ie jD))]<|rQ (ie jD) (ie (nK x)) (by rw[hm,bw k1]))
  (λk1=>ae [tB 5 (bj k1),ag [ie x.hi] (r9 _),ag [ie x.lo,ie (iU x.hi)] (yM _ _ aF (qA aF))]<|rQ (ie (ja x.lo (iU x.hi))) (ie (nK x)) (by rw[hm,bu k1]))) 
def akB(x:Iv)(hx:x.ik):gZ 144 [ig x] (ig (jh x)):=
 ak call144 func144 (ae [ag [ig x] (u6 _ aF)]<|.w (x.all=true)
  (λk1=>ae [tB 4 (vD k1),ag [] oN]<|rQ (ig iu) (ig (jh x)) (by unfold jh;simp[k1]))
  (λk1=>by
   have nc:=pJ hx (bn k1);have v1:=nc.1;have v2:=nc.2.1;have v3:=nc.2.2;exact ae [tB 4 (vC (bn k1)),ag [ig x] (akC _ aF (bn aF)),ag [ig x] (Kg _ aF (bn aF))]<|rQ (ig (Iv.mk (nK x) (kS x) false)) (ig (jh x)) (by unfold jh;simp[k1];try rfl))) 
def Xw(x y:Iv):gZ 193 [ig x,ig y] (.sl true 4 6 λi_ j_=>(jq x.lo++jq y.lo++jq x.lo++jq y.hi++jq x.hi++jq y.lo++jq x.hi++jq y.hi).getD (i_*6+j_) (.v (.bool false))):=
 ak call193 func193 (.nil) 
def CO(x y:Iv)(p:Nat)(hx:x.ik)(hy:y.ik)(iw:8<=p)(ij:p<=512):gZ 119 [ig x,ig y,iP p] (ig (jt x y p)):=
 ak call119 func119 (ae [ag [iP p] (CP _),ah 15 (kC (p:Int)) (pe.2 ⟨aE,aE⟩),ag [ig x] (u6 _ aF)]<|.w (x.all=true)
  (λk1=>ae [tB 19 (vD k1),ag [] oN]<|rQ (ig iu) (ig (jt x y p)) (by unfold jt;simp[k1]))
  (λk1=>by
   have nc:=pJ hx (bn k1);have v1:=nc.1;have v2:=nc.2.1;have v3:=nc.2.2;exact ae [tB 19 (vC (bn k1)),ag [ig y] (u6 _ aF)]<|.w (y.all=true)
    (λk2=>ae [tB 24 (vD k2),ag [] oN]<|rQ (ig iu) (ig (jt x y p)) (by unfold jt;simp[k1,k2]))
    (λk2=>by
     have nc:=pJ hy (bn k2);have v4:=nc.1;have v5:=nc.2.1;have v6:=nc.2.2;exact ae [tB 24 (vC (bn k2)),ag [ig x,ig y] (Xw _ _),.u 70,ah 32 (decide ((0:Int)<4)) aG,iX 0 4 aE,iX 0 2 aE,iX 0 4 aE,
      iX 1 2 aE,.c (wD x.lo y.lo p false aF aF aE aE),iX 0 4 aE,iX 0 2 aE,iX 0 4 aE,iX 1 2 aE,.c (wD x.lo y.lo p true aF aF aE aE)]<|.w ((jx (lg x.lo y.lo) p false)=0)
      (λk3=>ae [tB 66 (bq k3)]<|.w ((jx (lg x.lo y.lo) p true)=0)
       (λk4=>ae [tB 69 (bq k4),ah 73 ((0:Int)==0) aG,ag [ie (jf (lg x.lo y.lo) p false),ie (jf (lg x.lo y.lo) p false)] (Bw _ _ (mR _ _ _ _ _ _ aE aE) (mR _ _ _ _ _ _ aE aE)),ag [ie (jf (lg x.lo y.lo) p true),ie (jf (lg x.lo y.lo) p true)] (yM _ _ (mR _ _ _ _ _ _ aE aE) (mR _ _ _ _ _ _ aE aE)),iz (0+1) aE,.k [9,69,68,8,7,6,2] [8,6],ah 32 (decide (((0+1):Int)<4)) aG,iX (0+1) 4 aE,iX 0 2 aE,iX (0+1) 4 aE,iX 1 2 aE,.c (wD x.lo y.hi p false aF aF aE aE),iX (0+1) 4 aE,iX 0 2 aE,iX (0+1) 4 aE,iX 1 2 aE,.c (wD x.lo y.hi p true aF aF aE aE)]<|.w ((jx (lg x.lo y.hi) p false)=0)
        (λk5=>ae [tB 66 (bq k5)]<|.w ((jx (lg x.lo y.hi) p true)=0)
         (λk6=>ae [tB 69 (bq k6),ai 73 (((0+1):Int)==0) aG,ag [ie (O6 x y p),ie (jf (lg x.lo y.hi) p false)] (Bw _ _ (qy (mR _ _ _ _ _ _ aE aE) (mR _ _ _ _ _ _ aE aE)) (mR _ _ _ _ _ _ aE aE)),ag [ie (O7 x y p),ie (jf (lg x.lo y.hi) p true)] (yM _ _ (pL (mR _ _ _ _ _ _ aE aE) (mR _ _ _ _ _ _ aE aE)) (mR _ _ _ _ _ _ aE aE)),
          iz ((0+1)+1) aE,.k [9,69,68,8,7,6,2] [8,6],ah 32 (decide ((((0+1)+1):Int)<4)) aG,iX ((0+1)+1) 4 aE,iX 0 2 aE,iX ((0+1)+1) 4 aE,
          iX 1 2 aE,.c (wD x.hi y.lo p false aF aF aE aE),iX ((0+1)+1) 4 aE,iX 0 2 aE,iX ((0+1)+1) 4 aE,iX 1 2 aE,.c (wD x.hi y.lo p true aF aF aE aE)]<|.w ((jx (lg x.hi y.lo) p false)=0)
          (λk7=>ae [tB 66 (bq k7)]<|.w ((jx (lg x.hi y.lo) p true)=0)
           (λk8=>ae [tB 69 (bq k8),ai 73 ((((0+1)+1):Int)==0) aG,ag [ie (jd (O6 x y p) (jf (lg x.lo y.hi) p false)),ie (jf (lg x.hi y.lo) p false)] (Bw _ _ (qy (qy (mR _ _ _ _ _ _ aE aE) (mR _ _ _ _ _ _ aE aE)) (mR _ _ _ _ _ _ aE aE)) (mR _ _ _ _ _ _ aE aE)),ag [ie (ja (O7 x y p) (jf (lg x.lo y.hi) p true)),ie (jf (lg x.hi y.lo) p true)] (yM _ _ (pL (pL (mR _ _ _ _ _ _ aE aE) (mR _ _ _ _ _ _ aE aE)) (mR _ _ _ _ _ _ aE aE)) (mR _ _ _ _ _ _ aE aE)),
            iz (((0+1)+1)+1) aE,.k [9,69,68,8,7,6,2] [8,6],ah 32 (decide (((((0+1)+1)+1):Int)<4)) aG,iX (((0+1)+1)+1) 4 aE,iX 0 2 aE,
            iX (((0+1)+1)+1) 4 aE,iX 1 2 aE,.c (wD x.hi y.hi p false aF aF aE aE),iX (((0+1)+1)+1) 4 aE,iX 0 2 aE,
            iX (((0+1)+1)+1) 4 aE,iX 1 2 aE,.c (wD x.hi y.hi p true aF aF aE aE)]<|.w ((jx (lg x.hi y.hi) p false)=0)
            (λk9=>ae [tB 66 (bq k9)]<|.w ((jx (lg x.hi y.hi) p true)=0)
             (λk10=>ae [tB 69 (bq k10),ai 73 (((((0+1)+1)+1):Int)==0) aG,ag [ie (jd (jd (O6 x y p) (jf (lg x.lo y.hi) p false)) (jf (lg x.hi y.lo) p false)),ie (jf (lg x.hi y.hi) p false)] (Bw _ _ (qy (qy (qy (mR _ _ _ _ _ _ aE aE) (mR _ _ _ _ _ _ aE aE)) (mR _ _ _ _ _ _ aE aE)) (mR _ _ _ _ _ _ aE aE)) (mR _ _ _ _ _ _ aE aE)),ag [ie (ja (ja (O7 x y p) (jf (lg x.lo y.hi) p true)) (jf (lg x.hi y.lo) p true)),ie (jf (lg x.hi y.hi) p true)] (yM _ _ (pL (pL (pL (mR _ _ _ _ _ _ aE aE) (mR _ _ _ _ _ _ aE aE)) (mR _ _ _ _ _ _ aE aE)) (mR _ _ _ _ _ _ aE aE)) (mR _ _ _ _ _ _ aE aE)),
              iz ((((0+1)+1)+1)+1) aE,.k [9,69,68,8,7,6,2] [8,6],ai 32 (decide ((((((0+1)+1)+1)+1):Int)<4)) aG]<|rR (ig (jt x y p)) (by
      exact .iM (by
       unfold jt;rw[bu (by simp[k1,k2])];rw[show mL _ _ x y=_ from bw ⟨⟨k3,k4⟩,⟨k5,k6⟩,⟨k7,k8⟩,⟨k9,k10⟩⟩];rw[V6,V3];try rfl):E.le (ig (Iv.mk (jd (jd (jd (jd (jf (lg x.lo y.lo) p false) (jf (lg x.lo y.lo) p false)) (jf (lg x.lo y.hi) p false)) (jf (lg x.hi y.lo) p false)) (jf (lg x.hi y.hi) p false)) (ja (ja (ja (ja (jf (lg x.lo y.lo) p true) (jf (lg x.lo y.lo) p true)) (jf (lg x.lo y.hi) p true)) (jf (lg x.hi y.lo) p true)) (jf (lg x.hi y.hi) p true)) false)) (ig (jt x y p))))
             (λk10=>ae [tB 69 (bt k10),ag [] oN]<|rR (ig (jt x y p)) (by
      exact .iM (by
       unfold jt;rw[bu (by simp[k1,k2])];rw[show mL _ _ x y=_ from bu (by rintro⟨⟨_,_⟩,⟨_,_⟩,⟨_,_⟩,⟨_,q⟩⟩;exact k10 q)]):E.le (ig iu) (ig (jt x y p)))))
            (λk9=>ae [tB 66 (bt k9),ag [] oN]<|rR (ig (jt x y p)) (by
      exact .iM (by
       unfold jt;rw[bu (by simp[k1,k2])];rw[show mL _ _ x y=_ from bu (by rintro⟨⟨_,_⟩,⟨_,_⟩,⟨_,_⟩,⟨q,_⟩⟩;exact k9 q)]):E.le (ig iu) (ig (jt x y p)))))
           (λk8=>ae [tB 69 (bt k8),ag [] oN]<|rR (ig (jt x y p)) (by
      exact .iM (by
       unfold jt;rw[bu (by simp[k1,k2])];rw[show mL _ _ x y=_ from bu (by rintro⟨⟨_,_⟩,⟨_,_⟩,⟨_,q⟩,⟨_,_⟩⟩;exact k8 q)]):E.le (ig iu) (ig (jt x y p)))))
          (λk7=>ae [tB 66 (bt k7),ag [] oN]<|rR (ig (jt x y p)) (by
      exact .iM (by
       unfold jt;rw[bu (by simp[k1,k2])];rw[show mL _ _ x y=_ from bu (by rintro⟨⟨_,_⟩,⟨_,_⟩,⟨q,_⟩,⟨_,_⟩⟩;exact k7 q)]):E.le (ig iu) (ig (jt x y p)))))
         (λk6=>ae [tB 69 (bt k6),ag [] oN]<|rR (ig (jt x y p)) (by
      exact .iM (by
       unfold jt;rw[bu (by simp[k1,k2])];rw[show mL _ _ x y=_ from bu (by rintro⟨⟨_,_⟩,⟨_,q⟩,⟨_,_⟩,⟨_,_⟩⟩;exact k6 q)]):E.le (ig iu) (ig (jt x y p)))))
        (λk5=>ae [tB 66 (bt k5),ag [] oN]<|rR (ig (jt x y p)) (by
      exact .iM (by
       unfold jt;rw[bu (by simp[k1,k2])];rw[show mL _ _ x y=_ from bu (by rintro⟨⟨_,_⟩,⟨q,_⟩,⟨_,_⟩,⟨_,_⟩⟩;exact k5 q)]):E.le (ig iu) (ig (jt x y p)))))
       (λk4=>ae [tB 69 (bt k4),ag [] oN]<|rR (ig (jt x y p)) (by
      exact .iM (by
       unfold jt;rw[bu (by simp[k1,k2])];rw[show mL _ _ x y=_ from bu (by rintro⟨⟨_,q⟩,⟨_,_⟩,⟨_,_⟩,⟨_,_⟩⟩;exact k4 q)]):E.le (ig iu) (ig (jt x y p)))))
      (λk3=>ae [tB 66 (bt k3),ag [] oN]<|rR (ig (jt x y p)) (by
      exact .iM (by
       unfold jt;rw[bu (by simp[k1,k2])];rw[show mL _ _ x y=_ from bu (by rintro⟨⟨q,_⟩,⟨_,_⟩,⟨_,_⟩,⟨_,_⟩⟩;exact k3 q)]):E.le (ig iu) (ig (jt x y p))))))) 
def Xv(x y:Iv)(p:Nat)(hx:x.ik)(hy:y.ik)(iw:8<=p)(ij:p<=512):gZ 139 [ig x,ig y,iP p] (ig (jT x y p)):=
 ak call139 func139 (ae [ag [iP p] (CP _),ah 15 (kC (p:Int)) (pe.2 ⟨aE,aE⟩),ag [ig x] (u6 _ aF)]<|.w (x.all=true)
  (λk1=>ae [tB 19 (vD k1),ag [] oN]<|rQ (ig iu) (ig (jT x y p)) (by unfold jT;simp[k1]))
  (λk1=>by
   have nc:=pJ hx (bn k1);have v1:=nc.1;have v2:=nc.2.1;have v3:=nc.2.2;exact ae [tB 19 (vC (bn k1)),ag [ig y] (u6 _ aF)]<|.w (y.all=true)
    (λk2=>ae [tB 24 (vD k2),ag [] oN]<|rQ (ig iu) (ig (jT x y p)) (by unfold jT;simp[k1,k2]))
    (λk2=>by
     have nc:=pJ hy (bn k2);have v4:=nc.1;have v5:=nc.2.1;have v6:=nc.2.2;exact ae [tB 24 (vC (bn k2)),ag [ig y] (Pe _ aF)]<|.w ((lZ y)=0)
      (λk3=>ae [tB 30 (bk k3),ag [] oN]<|rQ (ig iu) (ig (jT x y p)) (by unfold jT;simp[k1,k2,k3]))
      (λk3=>by
       have y0:=YQ hy k3;exact ae [tB 30 (bj k3),ag [ig x,ig y] (Xw _ _),.u 70,ah 37 (decide ((0:Int)<4)) aG,iX 0 4 aE,iX 0 2 aE,iX 0 4 aE,iX 1 2 aE,.c (Bv x.lo y.lo p false aF aF y0.1 aE aE),iX 0 4 aE,iX 0 2 aE,iX 0 4 aE,iX 1 2 aE,.c (Bv x.lo y.lo p true aF aF y0.1 aE aE)]<|.w ((nF x.lo y.lo p false)=0)
        (λk4=>ae [tB 71 (bq k4)]<|.w ((nF x.lo y.lo p true)=0)
         (λk5=>ae [tB 74 (bq k5),ah 78 ((0:Int)==0) aG,ag [ie (kG x.lo y.lo p false),ie (kG x.lo y.lo p false)] (Bw _ _ (pg aE aE) (pg aE aE)),ag [ie (kG x.lo y.lo p true),ie (kG x.lo y.lo p true)] (yM _ _ (pg aE aE) (pg aE aE)),iz (0+1) aE,.k [9,74,73,8,7,6,2] [8,6],ah 37 (decide (((0+1):Int)<4)) aG,iX (0+1) 4 aE,iX 0 2 aE,iX (0+1) 4 aE,iX 1 2 aE,.c (Bv x.lo y.hi p false aF aF y0.2 aE aE),iX (0+1) 4 aE,iX 0 2 aE,iX (0+1) 4 aE,iX 1 2 aE,.c (Bv x.lo y.hi p true aF aF y0.2 aE aE)]<|.w ((nF x.lo y.hi p false)=0)
          (λk6=>ae [tB 71 (bq k6)]<|.w ((nF x.lo y.hi p true)=0)
           (λk7=>ae [tB 74 (bq k7),ai 78 (((0+1):Int)==0) aG,ag [ie (jd (kG x.lo y.lo p false) (kG x.lo y.lo p false)),ie (kG x.lo y.hi p false)] (Bw _ _ (qy (pg aE aE) (pg aE aE)) (pg aE aE)),ag [ie (ja (kG x.lo y.lo p true) (kG x.lo y.lo p true)),ie (kG x.lo y.hi p true)] (yM _ _ (pL (pg aE aE) (pg aE aE)) (pg aE aE)),
            iz ((0+1)+1) aE,.k [9,74,73,8,7,6,2] [8,6],ah 37 (decide ((((0+1)+1):Int)<4)) aG,iX ((0+1)+1) 4 aE,iX 0 2 aE,iX ((0+1)+1) 4 aE,
            iX 1 2 aE,.c (Bv x.hi y.lo p false aF aF y0.1 aE aE),iX ((0+1)+1) 4 aE,iX 0 2 aE,iX ((0+1)+1) 4 aE,iX 1 2 aE,.c (Bv x.hi y.lo p true aF aF y0.1 aE aE)]<|.w ((nF x.hi y.lo p false)=0)
            (λk8=>ae [tB 71 (bq k8)]<|.w ((nF x.hi y.lo p true)=0)
             (λk9=>ae [tB 74 (bq k9),ai 78 ((((0+1)+1):Int)==0) aG,ag [ie (jd (jd (kG x.lo y.lo p false) (kG x.lo y.lo p false)) (kG x.lo y.hi p false)),ie (kG x.hi y.lo p false)] (Bw _ _ (qy (qy (pg aE aE) (pg aE aE)) (pg aE aE)) (pg aE aE)),ag [ie (ja (ja (kG x.lo y.lo p true) (kG x.lo y.lo p true)) (kG x.lo y.hi p true)),ie (kG x.hi y.lo p true)] (yM _ _ (pL (pL (pg aE aE) (pg aE aE)) (pg aE aE)) (pg aE aE)),
              iz (((0+1)+1)+1) aE,.k [9,74,73,8,7,6,2] [8,6],ah 37 (decide (((((0+1)+1)+1):Int)<4)) aG,iX (((0+1)+1)+1) 4 aE,iX 0 2 aE,
              iX (((0+1)+1)+1) 4 aE,iX 1 2 aE,.c (Bv x.hi y.hi p false aF aF y0.2 aE aE),iX (((0+1)+1)+1) 4 aE,iX 0 2 aE,
              iX (((0+1)+1)+1) 4 aE,iX 1 2 aE,.c (Bv x.hi y.hi p true aF aF y0.2 aE aE)]<|.w ((nF x.hi y.hi p false)=0)
              (λk10=>ae [tB 71 (bq k10)]<|.w ((nF x.hi y.hi p true)=0)
               (λk11=>ae [tB 74 (bq k11),ai 78 (((((0+1)+1)+1):Int)==0) aG,ag [ie (jd (jd (jd (kG x.lo y.lo p false) (kG x.lo y.lo p false)) (kG x.lo y.hi p false)) (kG x.hi y.lo p false)),ie (kG x.hi y.hi p false)] (Bw _ _ (qy (qy (qy (pg aE aE) (pg aE aE)) (pg aE aE)) (pg aE aE)) (pg aE aE)),ag [ie (ja (ja (ja (kG x.lo y.lo p true) (kG x.lo y.lo p true)) (kG x.lo y.hi p true)) (kG x.hi y.lo p true)),ie (kG x.hi y.hi p true)] (yM _ _ (pL (pL (pL (pg aE aE) (pg aE aE)) (pg aE aE)) (pg aE aE)) (pg aE aE)),
                iz ((((0+1)+1)+1)+1) aE,.k [9,74,73,8,7,6,2] [8,6],ai 37 (decide ((((((0+1)+1)+1)+1):Int)<4)) aG]<|rR (ig (jT x y p)) (by
      exact .iM (by
       unfold jT;rw[bu (by simp[k1,k2,k3])];rw[show mL _ _ x y=_ from bw ⟨⟨k4,k5⟩,⟨k6,k7⟩,⟨k8,k9⟩,⟨k10,k11⟩⟩];rw[V6,V3];try rfl):E.le (ig (Iv.mk (jd (jd (jd (jd (kG x.lo y.lo p false) (kG x.lo y.lo p false)) (kG x.lo y.hi p false)) (kG x.hi y.lo p false)) (kG x.hi y.hi p false)) (ja (ja (ja (ja (kG x.lo y.lo p true) (kG x.lo y.lo p true)) (kG x.lo y.hi p true)) (kG x.hi y.lo p true)) (kG x.hi y.hi p true)) false)) (ig (jT x y p))))
               (λk11=>ae [tB 74 (bt k11),ag [] oN]<|rR (ig (jT x y p)) (by
      exact .iM (by
       unfold jT;rw[bu (by simp[k1,k2,k3])];rw[show mL _ _ x y=_ from bu (by rintro⟨⟨_,_⟩,⟨_,_⟩,⟨_,_⟩,⟨_,q⟩⟩;exact k11 q)]):E.le (ig iu) (ig (jT x y p)))))
              (λk10=>ae [tB 71 (bt k10),ag [] oN]<|rR (ig (jT x y p)) (by
      exact .iM (by
       unfold jT;rw[bu (by simp[k1,k2,k3])];rw[show mL _ _ x y=_ from bu (by rintro⟨⟨_,_⟩,⟨_,_⟩,⟨_,_⟩,⟨q,_⟩⟩;exact k10 q)]):E.le (ig iu) (ig (jT x y p)))))
             (λk9=>ae [tB 74 (bt k9),ag [] oN]<|rR (ig (jT x y p)) (by
      exact .iM (by
       unfold jT;rw[bu (by simp[k1,k2,k3])];rw[show mL _ _ x y=_ from bu (by rintro⟨⟨_,_⟩,⟨_,_⟩,⟨_,q⟩,⟨_,_⟩⟩;exact k9 q)]):E.le (ig iu) (ig (jT x y p)))))
            (λk8=>ae [tB 71 (bt k8),ag [] oN]<|rR (ig (jT x y p)) (by
      exact .iM (by
       unfold jT;rw[bu (by simp[k1,k2,k3])];rw[show mL _ _ x y=_ from bu (by rintro⟨⟨_,_⟩,⟨_,_⟩,⟨q,_⟩,⟨_,_⟩⟩;exact k8 q)]):E.le (ig iu) (ig (jT x y p)))))
           (λk7=>ae [tB 74 (bt k7),ag [] oN]<|rR (ig (jT x y p)) (by
      exact .iM (by
       unfold jT;rw[bu (by simp[k1,k2,k3])];rw[show mL _ _ x y=_ from bu (by rintro⟨⟨_,_⟩,⟨_,q⟩,⟨_,_⟩,⟨_,_⟩⟩;exact k7 q)]):E.le (ig iu) (ig (jT x y p)))))
          (λk6=>ae [tB 71 (bt k6),ag [] oN]<|rR (ig (jT x y p)) (by
      exact .iM (by
       unfold jT;rw[bu (by simp[k1,k2,k3])];rw[show mL _ _ x y=_ from bu (by rintro⟨⟨_,_⟩,⟨q,_⟩,⟨_,_⟩,⟨_,_⟩⟩;exact k6 q)]):E.le (ig iu) (ig (jT x y p)))))
         (λk5=>ae [tB 74 (bt k5),ag [] oN]<|rR (ig (jT x y p)) (by
      exact .iM (by
       unfold jT;rw[bu (by simp[k1,k2,k3])];rw[show mL _ _ x y=_ from bu (by rintro⟨⟨_,q⟩,⟨_,_⟩,⟨_,_⟩,⟨_,_⟩⟩;exact k5 q)]):E.le (ig iu) (ig (jT x y p)))))
        (λk4=>ae [tB 71 (bt k4),ag [] oN]<|rR (ig (jT x y p)) (by
      exact .iM (by
       unfold jT;rw[bu (by simp[k1,k2,k3])];rw[show mL _ _ x y=_ from bu (by rintro⟨⟨q,_⟩,⟨_,_⟩,⟨_,_⟩,⟨_,_⟩⟩;exact k4 q)]):E.le (ig iu) (ig (jT x y p)))))))) 
def xG(s:jF):Bool:=decide (0<=s.im/\s.im<=8/\s.ib.length<=200/\s.il.length<=200)&&(G3 s&&wF s)
def DG(o:nE):Bool:=decide (9<=o.kind/\o.kind<=13)
def CR(s:jF):Bool:=((List.range s.ib.length).all λi=>!DG (s.ib.getD i jg))&&xG s
def akT{s:jF}(h:CR s=true)(hv:me s.v):q7 s.v.tape:=by
 unfold CR at h;rw[ch]at h;intro i;by_cases hi:i<s.ib.length
 .have h1:=cr.1 h.1 i (bY.2 hi);have e:s.v.tape.ib.getD i iB=(s.ib.getD i jg).v:=by
   show(s.ib.map nE.v).getD i iB=_;simp[bD,hi]
  have h2:=(hv.tape.op i (by show i<(s.ib.map nE.v).length;rw[dh];exact hi)).yz;rw[e]at h2 ⊢;change (s.ib.getD i jg).kind.toNat<=13 at h2;show(s.ib.getD i jg).kind.toNat<=8;unfold DG at h1;simp only[fi,decide_eq_false_iff_not]at h1;omega
 .have e:s.v.tape.ib.getD i iB=iB:=by
   show(s.ib.map nE.v).getD i iB=_;rw[bD,cC bd];rfl
  rw[e];decide
def abn{n:Int}{b:List RI}(gb:∀ i,(b.getD i jz).jH)(h:xQ n b=true):mE n.toNat (b.map RI.iv)/\kJ b=iA (b.map RI.iv):=by
 unfold xQ at h;rw[ch,cS]at h;obtain⟨b1,b2⟩:=h;have pa:∀ i,i<b.length->(b.getD i jz).Ok/\(b.getD i jz).all=false:=λi hi=>by
  have:=cr.1 b2 i (bY.2 hi);unfold po at this;rw[ch]at this;exact⟨sD.1 this.1,by simpa using this.2⟩
 have lR:∀ i,i<b.length->(b.map RI.iv).getD i iu=(b.getD i jz).iv:=λi hi=>by simp[bD,hi]
 refine⟨⟨by rw[dh];omega,λi hi=>?_⟩,?_⟩
 .have hi:i<b.length:=by simpa using hi
  rw[lR i hi];exact⟨(pa i hi).1.valid,(pa i hi).2⟩
 .rw [<-NT];congr 1;apply gp;intro i;unfold xA;rw[cQ,cQ];by_cases hi:i<b.length
  .have h1:=(pa i hi).1;have g1:=gb i;rw[bI hi];rw[bD,bI hi]at h1 g1;exact congrArg some (RI.Ok.eq (x:=b[i]) h1 g1).symm
  .rw [cC aE];rfl
def ZU(s:jF)(N:Nat)(x:Nat):PS:=⟨70,true,[(3,.e (iP x)),(1,.box 1 0)],[(1,.cells 25 [iP s.im,jS s.ib,jV s.il])]⟩
def ZR(s:jF)(x:Nat):PS:=⟨70,true,[(3,.e (iP x)),(1,.box 1 0)],[(1,.cells 25 [iP s.im,jS s.ib,jV s.il])]⟩
def ZV(s:jF)(N:Nat)(x:Nat):PS:=⟨70,true,[(4,.e (iP x)),(1,.box 1 0)],[(1,.cells 25 [iP s.im,jS s.ib,jV s.il])]⟩
def ZS(s:jF)(x:Nat):PS:=⟨70,true,[(3,.e (iP x)),(1,.box 1 0)],[(1,.cells 25 [iP s.im,jS s.ib,jV s.il])]⟩
def ZW(s:jF)(N:Nat)(x:Nat):PS:=⟨70,true,[(4,.e (iP x)),(1,.box 1 0)],[(1,.cells 25 [iP s.im,jS s.ib,jV s.il])]⟩
def ZT(s:jF)(x:Nat):PS:=⟨70,true,[(3,.e (iP x)),(1,.box 1 0)],[(1,.cells 25 [iP s.im,jS s.ib,jV s.il])]⟩
def ZX(s:jF)(x:Nat):PS:=⟨70,true,[(4,.e (iP x)),(1,.box 1 0)],[(1,.cells 25 [iP s.im,jS s.ib,jV s.il])]⟩
def XJ(s:jF)(N:Nat)(x:Nat):PS:=⟨38,true,[(3,.e (iP x)),(1,.box 1 0)],[(1,.cells 25 [iP s.im,jS s.ib,jV s.il])]⟩
def XF(s:jF)(N:Nat)(x:Nat):PS:=⟨38,true,[(3,.e (iP x)),(1,.box 1 0)],[(1,.cells 25 [iP s.im,jS s.ib,jV s.il])]⟩
def XG(s:jF)(N:Nat)(x:Nat):PS:=⟨38,true,[(3,.e (iP x)),(1,.box 1 0)],[(1,.cells 25 [iP s.im,jS s.ib,jV s.il])]⟩
def XH(s:jF)(N:Nat)(x:Nat):PS:=⟨38,true,[(3,.e (iP x)),(1,.box 1 0)],[(1,.cells 25 [iP s.im,jS s.ib,jV s.il])]⟩
def XI(s:jF)(N:Nat)(x:Nat):PS:=⟨38,true,[(3,.e (iP x)),(1,.box 1 0)],[(1,.cells 25 [iP s.im,jS s.ib,jV s.il])]⟩
def XK(s:jF)(x:Nat):PS:=⟨38,true,[(3,.e (iP x)),(1,.box 1 0)],[(1,.cells 25 [iP s.im,jS s.ib,jV s.il])]⟩
def afZ{x:List RI}(gx0:∀ y,y ∈ x->y.jH):∀ i,(x.getD i jz).jH:=λi=>by
 by_cases hi:i<x.length
 .rw [bD,bI hi];exact gx0 _ (cN hi)
 .rw [bD,cC aE];exact Kw
def Lv(n d:Int):gZ 173 [.agg [iP n,iP d]] (bP (decide (n=0/\d=0))):=
 ak call173 func173 (.w (n=0)
  (λk1=>ae [tB 5 (bk k1)]<|rQ (bP (d==0)) (bP (decide (n=0/\d=0))) (uB (by rw[ep];simp[k1])))
  (λk1=>ae [tB 5 (bj k1)]<|rQ (bP false) (bP (decide (n=0/\d=0))) (uB (by rw[ep];simp[k1])))) 
noncomputable def J8(o:nE)(m:Int)(g:o.jH)(A B:Bool)(hA:A=(decide (0<=o.a/\o.a<m)))(hB:B=(decide (0<=o.b/\o.b<m))):Tr prog Tb:=
  .w (o.kind=1)
  (λk1=>ae [tB 28 (bk k1)]<|.w (o.a=0)
   (λk2=>ae [tB 31 (bk k2)]<|.w (o.b=0)
    (λk3=>ae [tB 35 (bk k3)]<|.w (o.n=0)
     (λk4=>ae [tB 40 (bk k4),.c (GU o.cn o.cd)]<|rQ (bP (ml o.cn o.cd)) (bP (jO o m)) lH)
     (λk4=>ae [tB 40 (bj k4)]<|rQ (bP false) (bP (jO o m)) lH))
    (λk3=>ae [tB 35 (bj k3)]<|rQ (bP false) (bP (jO o m)) lH))
   (λk2=>ae [tB 31 (bj k2)]<|rQ (bP false) (bP (jO o m)) lH))
  (λk1=>ae [tB 28 (bj k1),.j 94 ⟨112,true,[(47,.e (bP (decide (3<=o.kind/\o.kind<=6)))),(26,.e (iP o.kind)),(6,.e (bP B)),(5,.e (bP A)),(2,.box 2 0)],[(2,.cells 74 [iP o.kind,iP o.a,iP o.b,iP o.n,iP o.cn,iP o.cd])]⟩
   (.w (o.kind=3)
    (λm1=>ae [.v 47 (.bool (bk m1))]<|.e (af [tB 47 (oR aO:true=(decide (3<=o.kind/\o.kind<=6)))]))
    (λm1=>ae [.v 47 (.bool (bj m1))]<|.w (o.kind=4)
     (λm2=>ae [tB 49 (bk m2)]<|.e (af [tB 47 (oR aO:true=(decide (3<=o.kind/\o.kind<=6)))]))
     (λm2=>ae [tB 49 (bj m2)]<|.w (o.kind=5)
      (λm3=>ae [tB 50 (bk m3)]<|.e (af [tB 47 (oR aO:true=(decide (3<=o.kind/\o.kind<=6)))]))
      (λm3=>ae [tB 50 (bj m3)]<|.e (af [tB 47 (oR aO:(o.kind==6)=(decide (3<=o.kind/\o.kind<=6)))])))))]<|.w (3<=o.kind/\o.kind<=6)
   (λk2=>ae [.v 47 (.bool (bA k2))]<|.w (A=true)
    (λk3=>ae [tB 52 k3]<|.w (B=true)
     (λk4=>ae [tB 54 k4]<|.w (o.n=0)
      (λk5=>ae [tB 59 (bk k5),ag [.agg [iP o.cn,iP o.cd]] (Lv _ _)]<|rQ (bP (decide (o.cn=0/\o.cd=0))) (bP (jO o m)) lH)
      (λk5=>ae [tB 59 (bj k5)]<|rQ (bP false) (bP (jO o m)) lH))
     (λk4=>ae [tB 54 (bn k4)]<|rQ (bP false) (bP (jO o m)) lH))
    (λk3=>ae [tB 52 (bn k3)]<|rQ (bP false) (bP (jO o m)) lH))
   (λk2=>ae [.v 47 (.bool (bB k2)),.j 132 ⟨112,true,[(66,.e (bP (decide (o.kind=7\/9<=o.kind/\o.kind<=13)))),(26,.e (iP o.kind)),(5,.e (bP A)),(2,.box 2 0)],[(2,.cells 74 [iP o.kind,iP o.a,iP o.b,iP o.n,iP o.cn,iP o.cd])]⟩
   (.w (o.kind=7)
    (λm1=>ae [.v 66 (.bool (bk m1))]<|.e (af [tB 66 (oR aO:true=(decide (o.kind=7\/9<=o.kind/\o.kind<=13)))]))
    (λm1=>ae [.v 66 (.bool (bj m1))]<|.w (o.kind=9)
     (λm2=>ae [tB 68 (bk m2)]<|.e (af [tB 66 (oR aO:true=(decide (o.kind=7\/9<=o.kind/\o.kind<=13)))]))
     (λm2=>ae [tB 68 (bj m2)]<|.w (o.kind=10)
      (λm3=>ae [tB 69 (bk m3)]<|.e (af [tB 66 (oR aO:true=(decide (o.kind=7\/9<=o.kind/\o.kind<=13)))]))
      (λm3=>ae [tB 69 (bj m3)]<|.w (o.kind=11)
       (λm4=>ae [tB 70 (bk m4)]<|.e (af [tB 66 (oR aO:true=(decide (o.kind=7\/9<=o.kind/\o.kind<=13)))]))
       (λm4=>ae [tB 70 (bj m4)]<|.w (o.kind=12)
        (λm5=>ae [tB 71 (bk m5)]<|.e (af [tB 66 (oR aO:true=(decide (o.kind=7\/9<=o.kind/\o.kind<=13)))]))
        (λm5=>ae [tB 71 (bj m5)]<|.e (af [tB 66 (oR aO:(o.kind==13)=(decide (o.kind=7\/9<=o.kind/\o.kind<=13)))])))))))]<|.w (o.kind=7\/9<=o.kind/\o.kind<=13)
    (λk3=>ae [.v 66 (.bool (bA k3))]<|.w (A=true)
     (λk4=>ae [tB 73 k4]<|.w (o.b=0)
      (λk5=>ae [tB 77 (bk k5)]<|.w (o.n=0)
       (λk6=>ae [tB 82 (bk k6),ag [.agg [iP o.cn,iP o.cd]] (Lv _ _)]<|rQ (bP (decide (o.cn=0/\o.cd=0))) (bP (jO o m)) lH)
       (λk6=>ae [tB 82 (bj k6)]<|rQ (bP false) (bP (jO o m)) lH))
      (λk5=>ae [tB 77 (bj k5)]<|rQ (bP false) (bP (jO o m)) lH))
     (λk4=>ae [tB 73 (bn k4)]<|rQ (bP false) (bP (jO o m)) lH))
    (λk3=>ae [.v 66 (.bool (bB k3))]<|.w (o.kind=8)
     (λk4=>ae [tB 90 (bk k4)]<|.w (A=true)
      (λk5=>ae [tB 91 k5]<|.w (o.b=0)
       (λk6=>ae [tB 95 (bk k6)]<|.w (0<=o.n)
        (λk7=>ae [tB 100 (bA k7)]<|.w (o.n<=16)
         (λk8=>ae [tB 105 (bA k8),ag [.agg [iP o.cn,iP o.cd]] (Lv _ _)]<|rQ (bP (decide (o.cn=0/\o.cd=0))) (bP (jO o m)) lH)
         (λk8=>ae [tB 105 (bB k8)]<|rQ (bP false) (bP (jO o m)) lH))
        (λk7=>ae [tB 100 (bB k7)]<|rQ (bP false) (bP (jO o m)) lH))
       (λk6=>ae [tB 95 (bj k6)]<|rQ (bP false) (bP (jO o m)) lH))
      (λk5=>ae [tB 91 (bn k5)]<|rQ (bP false) (bP (jO o m)) lH))
     (λk4=>ae [tB 90 (bj k4)]<|rQ (bP false) (bP (jO o m)) lH))))
def GB(o:nE)(m:Int)(g:o.jH):gZ 98 [rK o,iP m] (bP (jO o m)):=
 ak call98 func98 (.w (0<=o.a)
  (λk1=>ae [tB 9 (bA k1)]<|.w (0<=o.b)
   (λk2=>ae [tB 18 (bA k2)]<|J8 o m g (decide (o.a<m)) (decide (o.b<m)) (by simp[k1]) (by simp[k2]))
   (λk2=>ae [tB 18 (bB k2)]<|J8 o m g (decide (o.a<m)) false (by simp[k1]) (by simp[k2])))
  (λk1=>ae [tB 9 (bB k1)]<|.w (0<=o.b)
   (λk2=>ae [tB 18 (bA k2)]<|J8 o m g false (decide (o.b<m)) (by simp[k1]) (by simp[k2]))
   (λk2=>ae [tB 18 (bB k2)]<|J8 o m g false false (by simp[k1]) (by simp[k2])))) 
def aox(s:jF)(g:s.jH)(sm:s.mQ)(hc:¬(0<=s.im/\s.im<=8/\s.ib.length<=200/\s.il.length<=200)):gZ 50 [.agg [iP s.im,jS s.ib,jV s.il]] (bP false):=by
 have sp:=sm.params;have so:=sm.il;have sq:=sm.ib;exact ak call50 func50 (.w (s.im<0)
  (λk1=>af [tB 7 (bA k1)])
  (λk1=>ae [tB 7 (bB k1)]<|.w (8<s.im)
   (λk2=>af [tB 11 (bA k2)])
   (λk2=>ae [tB 11 (bB k2)]<|.w (200<(s.ib.length:Int))
    (λk3=>af [tB 17 (bA k3)])
    (λk3=>ae [tB 17 (bB k3)]<|.w (200<(s.il.length:Int))
     (λk4=>af [tB 23 (bA k4)])
     (λk4=>.x aE))))) 
def aoy(s:jF)(g:s.jH)(sm:s.mQ)(i0:0<=s.im)(i8:s.im<=8)(l1:s.ib.length<=200)(l2:s.il.length<=200)(N:Nat)(mS:N<s.ib.length)(iQ:∀ k,k<N->(jO (s.ib.getD k jg) (s.im+(k:Int)))=true)(hN:(jO (s.ib.getD N jg) (s.im+(N:Int)))=false):gZ 50 [.agg [iP s.im,jS s.ib,jV s.il]] (bP false):=by
 have sp:=sm.params;have so:=sm.il;have sq:=sm.ib;exact ak call50 func50 (af [tF 7 (s.im<0) aE,tF 11 (8<s.im) aE,tF 17 (200<(s.ib.length:Int)) aE,tF 23 (200<(s.il.length:Int)) aE,.s (Sp.jv (ZU s N) 0 N aE (λx hx jU=>by
    have ny:=g.ib x;exact iG (af [tT 29 ((x:Int)<s.ib.length) aE,iX (x:Int) (s.ib.length) aE,iz (s.im+(x:Int)) aE,ag [rK (s.ib.getD x jg),iP (s.im+(x:Int))] (GB _ _ ny),ai 42 (!(jO (s.ib.getD x jg) (s.im+(x:Int)))) (by rw[iQ x aE];rfl),
     iz ((x:Int)+1) aE]) aI)
  (λhx=>by
    have ny:=g.ib N;exact iG (af [tT 29 ((N:Int)<s.ib.length) aE,iX (N:Int) (s.ib.length) aE,iz (s.im+(N:Int)) aE,ag [rK (s.ib.getD N jg),iP (s.im+(N:Int))] (GB _ _ ny),ah 42 (!(jO (s.ib.getD N jg) (s.im+(N:Int)))) (by rw[hN];rfl)]) aI) aM:ju 4 Tryz.f50 (ZU s N 0) .ret ⟨70,true,[(2,.e (bP false))],[]⟩) .nil]) 
def aoz(s:jF)(g:s.jH)(sm:s.mQ)(i0:0<=s.im)(i8:s.im<=8)(l1:s.ib.length<=200)(l2:s.il.length<=200)(iQ:∀ k,k<s.ib.length->(jO (s.ib.getD k jg) (s.im+(k:Int)))=true)(N:Nat)(mS:N<s.il.length)(nI:∀ k,k<N->0<=(s.il.getD k 0)/\(s.il.getD k 0)<s.im+(s.ib.length:Int))(hN:(s.il.getD N 0)<0):gZ 50 [.agg [iP s.im,jS s.ib,jV s.il]] (bP false):=by
 have sp:=sm.params;have so:=sm.il;have sq:=sm.ib;exact ak call50 func50 (af [tF 7 (s.im<0) aE,tF 11 (8<s.im) aE,tF 17 (200<(s.ib.length:Int)) aE,tF 23 (200<(s.il.length:Int)) aE,.s (Sp.jv (ZR s) 0 s.ib.length aE (λx hx jU=>by
    have ny:=g.ib x;exact iG (af [tT 29 ((x:Int)<s.ib.length) aE,iX (x:Int) (s.ib.length) aE,iz (s.im+(x:Int)) aE,ag [rK (s.ib.getD x jg),iP (s.im+(x:Int))] (GB _ _ ny),ai 42 (!(jO (s.ib.getD x jg) (s.im+(x:Int)))) (by rw[iQ x aE];rfl),
     iz ((x:Int)+1) aE]) aI)
  (λhx=>by
    exact iG (af [tF 29 ((s.ib.length:Int)<s.ib.length) aE]) aI) aM:ju 4 Tryz.f50 (ZR s 0) (.exit 0) ⟨70,true,[(1,.box 1 0)],[(1,.cells 25 [iP s.im,jS s.ib,jV s.il])]⟩) .nil,.s (Sp.jv (ZV s N) 0 N aE (λx hx jU=>by
    have Cg:=nI x aE;exact iG (af [tT 47 ((x:Int)<s.il.length) aE,iX (x:Int) (s.il.length) aE,tF 55 ((s.il.getD x 0)<0) aE,iX (x:Int) (s.il.length) aE,
     iz (s.im+(s.ib.length:Int)) aE,tF 68 ((s.im+(s.ib.length:Int))<=(s.il.getD x 0)) aE,iz ((x:Int)+1) aE]) aI)
  (λhx=>by
    exact iG (af [tT 47 ((N:Int)<s.il.length) aE,iX (N:Int) (s.il.length) aE,tB 55 (bA hN)]) aI) aM:ju 9 Tryz.f50 (ZV s N 0) .ret ⟨70,true,[(2,.e (bP false))],[]⟩) .nil]) 
def aoA(s:jF)(g:s.jH)(sm:s.mQ)(i0:0<=s.im)(i8:s.im<=8)(l1:s.ib.length<=200)(l2:s.il.length<=200)(iQ:∀ k,k<s.ib.length->(jO (s.ib.getD k jg) (s.im+(k:Int)))=true)(N:Nat)(mS:N<s.il.length)(nI:∀ k,k<N->0<=(s.il.getD k 0)/\(s.il.getD k 0)<s.im+(s.ib.length:Int))(hN:0<=(s.il.getD N 0))(hM:s.im+(s.ib.length:Int)<=(s.il.getD N 0)):gZ 50 [.agg [iP s.im,jS s.ib,jV s.il]] (bP false):=by
 have sp:=sm.params;have so:=sm.il;have sq:=sm.ib;exact ak call50 func50 (af [tF 7 (s.im<0) aE,tF 11 (8<s.im) aE,tF 17 (200<(s.ib.length:Int)) aE,tF 23 (200<(s.il.length:Int)) aE,.s (Sp.jv (ZS s) 0 s.ib.length aE (λx hx jU=>by
    have ny:=g.ib x;exact iG (af [tT 29 ((x:Int)<s.ib.length) aE,iX (x:Int) (s.ib.length) aE,iz (s.im+(x:Int)) aE,ag [rK (s.ib.getD x jg),iP (s.im+(x:Int))] (GB _ _ ny),ai 42 (!(jO (s.ib.getD x jg) (s.im+(x:Int)))) (by rw[iQ x aE];rfl),
     iz ((x:Int)+1) aE]) aI)
  (λhx=>by
    exact iG (af [tF 29 ((s.ib.length:Int)<s.ib.length) aE]) aI) aM:ju 4 Tryz.f50 (ZS s 0) (.exit 0) ⟨70,true,[(1,.box 1 0)],[(1,.cells 25 [iP s.im,jS s.ib,jV s.il])]⟩) .nil,.s (Sp.jv (ZW s N) 0 N aE (λx hx jU=>by
    have Cg:=nI x aE;exact iG (af [tT 47 ((x:Int)<s.il.length) aE,iX (x:Int) (s.il.length) aE,tF 55 ((s.il.getD x 0)<0) aE,iX (x:Int) (s.il.length) aE,
     iz (s.im+(s.ib.length:Int)) aE,tF 68 ((s.im+(s.ib.length:Int))<=(s.il.getD x 0)) aE,iz ((x:Int)+1) aE]) aI)
  (λhx=>by
    exact iG (af [tT 47 ((N:Int)<s.il.length) aE,iX (N:Int) (s.il.length) aE,tF 55 ((s.il.getD N 0)<0) aE,iX (N:Int) (s.il.length) aE,
    iz (s.im+(s.ib.length:Int)) aE,tB 68 (bA hM)]) aI) aM:ju 9 Tryz.f50 (ZW s N 0) .ret ⟨70,true,[(2,.e (bP false))],[]⟩) .nil]) 
def aoB(s:jF)(g:s.jH)(sm:s.mQ)(i0:0<=s.im)(i8:s.im<=8)(l1:s.ib.length<=200)(l2:s.il.length<=200)(iQ:∀ k,k<s.ib.length->(jO (s.ib.getD k jg) (s.im+(k:Int)))=true)(nI:∀ k,k<s.il.length->0<=(s.il.getD k 0)/\(s.il.getD k 0)<s.im+(s.ib.length:Int)):gZ 50 [.agg [iP s.im,jS s.ib,jV s.il]] (bP true):=by
 have sp:=sm.params;have so:=sm.il;have sq:=sm.ib;exact ak call50 func50 (af [tF 7 (s.im<0) aE,tF 11 (8<s.im) aE,tF 17 (200<(s.ib.length:Int)) aE,tF 23 (200<(s.il.length:Int)) aE,.s (Sp.jv (ZT s) 0 s.ib.length aE (λx hx jU=>by
    have ny:=g.ib x;exact iG (af [tT 29 ((x:Int)<s.ib.length) aE,iX (x:Int) (s.ib.length) aE,iz (s.im+(x:Int)) aE,ag [rK (s.ib.getD x jg),iP (s.im+(x:Int))] (GB _ _ ny),ai 42 (!(jO (s.ib.getD x jg) (s.im+(x:Int)))) (by rw[iQ x aE];rfl),
     iz ((x:Int)+1) aE]) aI)
  (λhx=>by
    exact iG (af [tF 29 ((s.ib.length:Int)<s.ib.length) aE]) aI) aM:ju 4 Tryz.f50 (ZT s 0) (.exit 0) ⟨70,true,[(1,.box 1 0)],[(1,.cells 25 [iP s.im,jS s.ib,jV s.il])]⟩) .nil,.s (Sp.jv (ZX s) 0 s.il.length aE (λx hx jU=>by
    have Cg:=nI x aE;exact iG (af [tT 47 ((x:Int)<s.il.length) aE,iX (x:Int) (s.il.length) aE,tF 55 ((s.il.getD x 0)<0) aE,iX (x:Int) (s.il.length) aE,
     iz (s.im+(s.ib.length:Int)) aE,tF 68 ((s.im+(s.ib.length:Int))<=(s.il.getD x 0)) aE,iz ((x:Int)+1) aE]) aI)
  (λhx=>by
    exact iG (af [tF 47 ((s.il.length:Int)<s.il.length) aE]) aI) aM:ju 9 Tryz.f50 (ZX s 0) (.exit 2) ⟨70,true,[],[]⟩) .nil]) 
def aoC(s:jF)(g:s.jH)(sm:s.mQ):gZ 50 [.agg [iP s.im,jS s.ib,jV s.il]] (bP (xG s)):=by
 by_cases c1:0<=s.im/\s.im<=8/\s.ib.length<=200/\s.il.length<=200
 rotate_left
 .rw [show xG s=false by unfold xG;rw[bB c1];rfl];exact aox s g sm c1
 obtain⟨i0,i8,l1,l2⟩:=c1;by_cases c2:G3 s=true
 rotate_left
 .rw [show xG s=false by unfold xG;rw[bn c2];simp];obtain⟨N,n1,n2,n3⟩:=xP c2;exact aoy s g sm i0 i8 l1 l2 N n1 (λk hk=>by simpa using n3 k hk) (by simpa using n2)
 have iQ:∀ k,k<s.ib.length->jO (s.ib.getD k jg) (s.im+(k:Int))=true:=λk hk=>cr.1 c2 k (bY.2 hk)
 by_cases c3:wF s=true
 .rw [show xG s=true by unfold xG;rw[bA (⟨i0,i8,l1,l2⟩:_/\_),c2,c3];rfl];exact aoB s g sm i0 i8 l1 l2 iQ λk hk=>cR (cr.1 c3 k (bY.2 hk))
 .rw [show xG s=false by unfold xG;rw[bn c3];simp];obtain⟨N,n1,n2,n3⟩:=xP c3;have nI:∀ k,k<N->0<=s.il.getD k 0/\s.il.getD k 0<s.im+(s.ib.length:Int):=λk hk=>by simpa[wC]using n3 k hk
  have hN:¬(0<=s.il.getD N 0/\s.il.getD N 0<s.im+(s.ib.length:Int)):=λq=>by
   rw[show wC s (s.il.getD N 0)=true from bA q]at n2;cases n2
  by_cases h0:s.il.getD N 0<0
  .exact aoz s g sm i0 i8 l1 l2 iQ N n1 nI h0
  .exact aoA s g sm i0 i8 l1 l2 iQ N n1 nI aE aE 
def akP(s:jF)(g:s.jH)(sm:s.mQ)(N:Nat)(mS:N<s.ib.length)(iQ:∀ k,k<N->¬(9<=(s.ib.getD k jg).kind/\(s.ib.getD k jg).kind<=13))(hN:(s.ib.getD N jg).kind=9):gZ 13 [.agg [iP s.im,jS s.ib,jV s.il]] (bP false):=by
 have sp:=sm.params;have so:=sm.il;have sq:=sm.ib;exact ak call13 func13 (af [.s (Sp.jv (XJ s N) 0 N aE (λx hx jU=>by
    have hk:=iQ x aE;exact iG (af [tT 9 ((x:Int)<s.ib.length) aE,iX (x:Int) (s.ib.length) aE,ai 19 ((s.ib.getD x jg).kind==9) (bj aE),ai 22 ((s.ib.getD x jg).kind==10) (bj aE),ai 26 ((s.ib.getD x jg).kind==11) (bj aE),ai 30 ((s.ib.getD x jg).kind==12) (bj aE),ai 34 ((s.ib.getD x jg).kind==13) (bj aE),iz ((x:Int)+1) aE]) aI)
  (λhx=>by
    exact iG (af [tT 9 ((N:Int)<s.ib.length) aE,iX (N:Int) (s.ib.length) aE,tB 19 (bk hN)]) aI) aM:ju 2 Tryz.f13 (XJ s N 0) .ret ⟨38,true,[(2,.e (bP false))],[]⟩) .nil]) 
def akL(s:jF)(g:s.jH)(sm:s.mQ)(N:Nat)(mS:N<s.ib.length)(iQ:∀ k,k<N->¬(9<=(s.ib.getD k jg).kind/\(s.ib.getD k jg).kind<=13))(hN:(s.ib.getD N jg).kind=10):gZ 13 [.agg [iP s.im,jS s.ib,jV s.il]] (bP false):=by
 have sp:=sm.params;have so:=sm.il;have sq:=sm.ib;exact ak call13 func13 (af [.s (Sp.jv (XF s N) 0 N aE (λx hx jU=>by
    have hk:=iQ x aE;exact iG (af [tT 9 ((x:Int)<s.ib.length) aE,iX (x:Int) (s.ib.length) aE,ai 19 ((s.ib.getD x jg).kind==9) (bj aE),ai 22 ((s.ib.getD x jg).kind==10) (bj aE),ai 26 ((s.ib.getD x jg).kind==11) (bj aE),ai 30 ((s.ib.getD x jg).kind==12) (bj aE),ai 34 ((s.ib.getD x jg).kind==13) (bj aE),iz ((x:Int)+1) aE]) aI)
  (λhx=>by
    exact iG (af [tT 9 ((N:Int)<s.ib.length) aE,iX (N:Int) (s.ib.length) aE,ai 19 ((s.ib.getD N jg).kind==9) (bj aE),tB 22 (bk hN)]) aI) aM:ju 2 Tryz.f13 (XF s N 0) .ret ⟨38,true,[(2,.e (bP false))],[]⟩) .nil]) 
def akM(s:jF)(g:s.jH)(sm:s.mQ)(N:Nat)(mS:N<s.ib.length)(iQ:∀ k,k<N->¬(9<=(s.ib.getD k jg).kind/\(s.ib.getD k jg).kind<=13))(hN:(s.ib.getD N jg).kind=11):gZ 13 [.agg [iP s.im,jS s.ib,jV s.il]] (bP false):=by
 have sp:=sm.params;have so:=sm.il;have sq:=sm.ib;exact ak call13 func13 (af [.s (Sp.jv (XG s N) 0 N aE (λx hx jU=>by
    have hk:=iQ x aE;exact iG (af [tT 9 ((x:Int)<s.ib.length) aE,iX (x:Int) (s.ib.length) aE,ai 19 ((s.ib.getD x jg).kind==9) (bj aE),ai 22 ((s.ib.getD x jg).kind==10) (bj aE),ai 26 ((s.ib.getD x jg).kind==11) (bj aE),ai 30 ((s.ib.getD x jg).kind==12) (bj aE),ai 34 ((s.ib.getD x jg).kind==13) (bj aE),iz ((x:Int)+1) aE]) aI)
  (λhx=>by
    exact iG (af [tT 9 ((N:Int)<s.ib.length) aE,iX (N:Int) (s.ib.length) aE,ai 19 ((s.ib.getD N jg).kind==9) (bj aE),ai 22 ((s.ib.getD N jg).kind==10) (bj aE),tB 26 (bk hN)]) aI) aM:ju 2 Tryz.f13 (XG s N 0) .ret ⟨38,true,[(2,.e (bP false))],[]⟩) .nil]) 
def akN(s:jF)(g:s.jH)(sm:s.mQ)(N:Nat)(mS:N<s.ib.length)(iQ:∀ k,k<N->¬(9<=(s.ib.getD k jg).kind/\(s.ib.getD k jg).kind<=13))(hN:(s.ib.getD N jg).kind=12):gZ 13 [.agg [iP s.im,jS s.ib,jV s.il]] (bP false):=by
 have sp:=sm.params;have so:=sm.il;have sq:=sm.ib;exact ak call13 func13 (af [.s (Sp.jv (XH s N) 0 N aE (λx hx jU=>by
    have hk:=iQ x aE;exact iG (af [tT 9 ((x:Int)<s.ib.length) aE,iX (x:Int) (s.ib.length) aE,ai 19 ((s.ib.getD x jg).kind==9) (bj aE),ai 22 ((s.ib.getD x jg).kind==10) (bj aE),ai 26 ((s.ib.getD x jg).kind==11) (bj aE),ai 30 ((s.ib.getD x jg).kind==12) (bj aE),ai 34 ((s.ib.getD x jg).kind==13) (bj aE),iz ((x:Int)+1) aE]) aI)
  (λhx=>by
    exact iG (af [tT 9 ((N:Int)<s.ib.length) aE,iX (N:Int) (s.ib.length) aE,ai 19 ((s.ib.getD N jg).kind==9) (bj aE),ai 22 ((s.ib.getD N jg).kind==10) (bj aE),ai 26 ((s.ib.getD N jg).kind==11) (bj aE),tB 30 (bk hN)]) aI) aM:ju 2 Tryz.f13 (XH s N 0) .ret ⟨38,true,[(2,.e (bP false))],[]⟩) .nil]) 
def akO(s:jF)(g:s.jH)(sm:s.mQ)(N:Nat)(mS:N<s.ib.length)(iQ:∀ k,k<N->¬(9<=(s.ib.getD k jg).kind/\(s.ib.getD k jg).kind<=13))(hN:(s.ib.getD N jg).kind=13):gZ 13 [.agg [iP s.im,jS s.ib,jV s.il]] (bP false):=by
 have sp:=sm.params;have so:=sm.il;have sq:=sm.ib;exact ak call13 func13 (af [.s (Sp.jv (XI s N) 0 N aE (λx hx jU=>by
    have hk:=iQ x aE;exact iG (af [tT 9 ((x:Int)<s.ib.length) aE,iX (x:Int) (s.ib.length) aE,ai 19 ((s.ib.getD x jg).kind==9) (bj aE),ai 22 ((s.ib.getD x jg).kind==10) (bj aE),ai 26 ((s.ib.getD x jg).kind==11) (bj aE),ai 30 ((s.ib.getD x jg).kind==12) (bj aE),ai 34 ((s.ib.getD x jg).kind==13) (bj aE),iz ((x:Int)+1) aE]) aI)
  (λhx=>by
    exact iG (af [tT 9 ((N:Int)<s.ib.length) aE,iX (N:Int) (s.ib.length) aE,ai 19 ((s.ib.getD N jg).kind==9) (bj aE),ai 22 ((s.ib.getD N jg).kind==10) (bj aE),ai 26 ((s.ib.getD N jg).kind==11) (bj aE),ai 30 ((s.ib.getD N jg).kind==12) (bj aE),tB 34 (bk hN)]) aI) aM:ju 2 Tryz.f13 (XI s N 0) .ret ⟨38,true,[(2,.e (bP false))],[]⟩) .nil]) 
def akQ(s:jF)(g:s.jH)(sm:s.mQ)(iQ:∀ k,k<s.ib.length->¬(9<=(s.ib.getD k jg).kind/\(s.ib.getD k jg).kind<=13)):gZ 13 [.agg [iP s.im,jS s.ib,jV s.il]] (bP (xG s)):=by
 have sp:=sm.params;have so:=sm.il;have sq:=sm.ib;exact ak call13 func13 (af [.s (Sp.jv (XK s) 0 s.ib.length aE (λx hx jU=>by
    have hk:=iQ x aE;exact iG (af [tT 9 ((x:Int)<s.ib.length) aE,iX (x:Int) (s.ib.length) aE,ai 19 ((s.ib.getD x jg).kind==9) (bj aE),ai 22 ((s.ib.getD x jg).kind==10) (bj aE),ai 26 ((s.ib.getD x jg).kind==11) (bj aE),ai 30 ((s.ib.getD x jg).kind==12) (bj aE),ai 34 ((s.ib.getD x jg).kind==13) (bj aE),iz ((x:Int)+1) aE]) aI)
  (λhx=>by
    exact iG (af [tF 9 ((s.ib.length:Int)<s.ib.length) aE]) aI) aM:ju 2 Tryz.f13 (XK s 0) (.exit 0) ⟨38,true,[(1,.box 1 0)],[(1,.cells 25 [iP s.im,jS s.ib,jV s.il])]⟩) .nil,ag [.agg [iP s.im,jS s.ib,jV s.il]] (aoC s g sm)]) 
def XL(s:jF)(g:s.jH)(sm:s.mQ):gZ 13 [.agg [iP s.im,jS s.ib,jV s.il]] (bP (CR s)):=by
 unfold CR;by_cases c:((List.range s.ib.length).all λi=>!DG (s.ib.getD i jg))=true
 .rw [c,eA];exact akQ s g sm λi hi q=>by
   have h:=cr.1 c i (bY.2 hi);rw[show DG (s.ib.getD i jg)=true from bA q]at h;cases h
 .rw [bn c,Bool.false_and];obtain⟨N,n1,n2,n3⟩:=xP c;have iQ:∀ k,k<N->¬(9<=(s.ib.getD k jg).kind/\(s.ib.getD k jg).kind<=13):=λk hk=>by simpa[DG]using n3 k hk
  have hN:9<=(s.ib.getD N jg).kind/\(s.ib.getD N jg).kind<=13:=by simpa[DG]using n2
  rcases(show(s.ib.getD N jg).kind=9\/(s.ib.getD N jg).kind=10\/(s.ib.getD N jg).kind=11\/(s.ib.getD N jg).kind=12\/(s.ib.getD N jg).kind=13 by omega)with h|h|h|h|h
  .exact akP s g sm N n1 iQ h
  .exact akL s g sm N n1 iQ h
  .exact akM s g sm N n1 iQ h
  .exact akN s g sm N n1 iQ h
  .exact akO s g sm N n1 iQ h
end Go.Proofs.YtkjkcjhacddojaaGreatDoor
namespace Go.Proofs.YtkjkcjhacddojaaGreatDoor.Fp
def Tz{T p:Nat}{E:Int}(hT:iq T=p)(hp:1<=p){g:Rat}(hg:GM p g):g<=(T:Rat)*P2 E\/((T+1:Nat):Rat)*P2 E<=g:=by
 obtain⟨gm,ge,b1,b2,b3,rfl⟩:=hg;by_cases hc:E<=ge
 .rw [sT (K:=E) hc (cI _),sT (K:=E) (cI _) hc,show(E-E).toNat=0 by omega];omega
 .left;rw[sT (K:=ge) (cI _) aE,show(ge-ge).toNat=0 by omega,cw,cz];have h1:gm<2^p:=ln.1 b1;have h2:2^(p-1)<=T:=tD.1 aE;have h3:2^1<=2^(E-ge).toNat:=bN aG aE;have h4:=dp h2 h3;rw[<-bE,(aE:p-1+1=p)]at h4;omega
def aiQ{T p:Nat}{E:Int}(hT:iq T=p)(hp:1<=p)(h1:-16384<=E)(h2:(p:Int)+E<=16384){v:Rat}(we:(T:Rat)*P2 E<=v)(rD:v<((T+1:Nat):Rat)*P2 E):Dn p v (canon false T E) 0:=by
 have e:(canon false T E).q=(T:Rat)*P2 E:=by rw[qW];simp
 have h0:0<=(T:Rat)*P2 E:=cv di (bZ (nO E));refine⟨λ_=>⟨by rw[e];exact .inl ⟨T,E,aE,h1,aE,rfl⟩,by rw[e];exact we⟩,λg hg Nd=>⟨rfl,?_⟩⟩;rw[e];by_cases FI:0<=g
 .rcases Tz (E:=E) hT hp (hg.pos FI)with k|k
  .exact k
  .exfalso;grind
 .grind
def aiS{T p:Nat}{E:Int}(hT:iq T=p)(hp:1<=p)(h1:-16384<=E)(h2:(p:Int)+E+1<=16384){v:Rat}(we:(T:Rat)*P2 E<v)(rD:v<=((T+1:Nat):Rat)*P2 E):Up p v (canon false (T+1) E) 0:=by
 have e:(canon false (T+1) E).q=((T+1:Nat):Rat)*P2 E:=by rw[qW];simp
 have h0:0<=(T:Rat)*P2 E:=cv di (bZ (nO E));refine⟨λ_=>⟨?_,by rw[e];exact rD⟩,λg hg Nd=>⟨rfl,?_⟩⟩
 .rw [e];have iL:T<2^p:=ln.1 aE;by_cases hb:T+1<2^p
  .exact .inl ⟨T+1,E,ln.2 hb,h1,by have:=ln.2 hb;omega,rfl⟩
  .refine .inl ⟨1,(p:Int)+E,by rw[xR];exact hp,aE,by rw[xR];omega,?_⟩;rw[(aE:T+1=2^p),qF,vv,show((1:Nat):Rat)=1 from rfl,fo]
 .rw [e];have FI:0<=g:= aP ;rcases Tz (E:=E) hT hp (hg.pos FI)with k|k
  .exfalso;grind
  .exact k
def aeq{T p:Nat}{E:Int}(hT:iq T=p)(h1:-16384<=E)(h2:(p:Int)+E<=16384){v:Rat}(hv:v=(T:Rat)*P2 E):Up p v (canon false T E) 0:=by
 have e:(canon false T E).q=(T:Rat)*P2 E:=by rw[qW];simp
 exact⟨λ_=>⟨by rw[e];exact .inl ⟨T,E,aE,h1,aE,rfl⟩,by rw[e,hv];exact cM⟩,λg _ hg=>⟨rfl,by rw[e,<-hv];exact hg⟩⟩
def adC{p:Nat}{v:Rat}{D D':Dy}{E':Int}(h:Dn p v D 0)(k:Dn p v D' E')(hc:D.mF)(zw:D'.mF):E'=0/\D'=D:=by
 obtain⟨g,hl⟩:=h.1 rfl;obtain⟨he,hle⟩:=k.2 _ g hl;obtain⟨g',qg⟩:=k.1 he;obtain⟨_,DU⟩:=h.2 _ g' qg;exact⟨he,Ke zw hc (eE DU hle)⟩
def aow{p:Nat}{v:Rat}{D D':Dy}{E':Int}(h:Up p v D 0)(k:Up p v D' E')(hc:D.mF)(zw:D'.mF):E'=0/\D'=D:=by
 obtain⟨g,hl⟩:=h.1 rfl;obtain⟨he,hle⟩:=k.2 _ g hl;obtain⟨g',qg⟩:=k.1 he;obtain⟨_,DU⟩:=h.2 _ g' qg;exact⟨he,Ke zw hc (eE hle DU)⟩
end Go.Proofs.YtkjkcjhacddojaaGreatDoor.Fp
namespace Go.Proofs.YtkjkcjhacddojaaGreatDoor
open Go.RowKit Fp Pu
def VG{n k:Nat}(h1:4294967296^k<=n)(h2:n<4294967296^(k+1)):(ia n).length=k+1:=by
 have a:=rE h2;have b:¬(ia n).length<=k:=λq=>absurd (wm q) aE 
 omega
def CB(v:Nat):v<4294967296^(ia v).length:=wm (bC _)
def Ge{v l:Nat}(h:(ia v).length=l):iT v l=ia v:=h▸LX v
def Bm(v k:Nat):(ia v).getD k 0=iI v k:=by rw[qc (kR v),kf]
def ac0{v:Nat}(h:mw v 0 (ia v).length=0):iT (2*v) (ia v).length=ia (2*v):=by
 have h1:=CB v;unfold mw at h;rw[bU h1,bT]at h;have h2:2*v<4294967296^(ia v).length:=by
  rcases ew (2*v) (4294967296^(ia v).length)with q|q
  .exact q
  .have:=gL q (pw _);omega
 have a:=rE h2;have b:=mU (aE:v<=2*v);exact Ge aE 
def ac1{v:Nat}(h:mw v 0 (ia v).length≠0):iT (2*v) ((ia v).length+1)=ia (2*v)/\iI (2*v) (ia v).length=mw v 0 (ia v).length:=by
 have h1:=CB v;have e:=(Iz (r:=v) (b:=0) aG (ia v).length)
 have h0:iI v (ia v).length=0:=vH h1 (bC _);refine⟨Ge (VG ?_ ?_),by have:=e.1;rw[bT,h0]at this;simpa using this⟩
 .unfold mw at h;rw[bU h1,bT]at h;exact fW λq=>h (cF q)
 .rw [bH];omega
def amw{v:Nat}(h0:v≠0)(he:v%2=0):(ia v).set 0 (iI v 0+1)=ia (v+1):=by
 rw[Ab h0,Ab (aE:v+1≠0),ap2];unfold iI;rw[cw,eo,show(v+1)%4294967296=v%4294967296+1 by omega,show(v+1)/4294967296=v/4294967296 by omega]
def ajr(a:Nat)(h:a<4294967296)(he:a%2=0):bits .or .u32 (a:Int) 1=((a+1:Nat):Int):=by
 have:=Kb (a/2) 1 aG;rwa[(aE:2*(a/2)%4294967296=a)]at this
def JE{v N:Nat}(iQ:∀ k,k<N->iI v k=4294967295):∀ k,k<=N->iI 1 k+jJ v 1 k=1
 | 0,_=>by rw[It];decide
 |k+1,h=>by
  have a:=y4 v 1 k;have b:=JE iQ k aE;have c:=iQ k aE;have d:=qb (v+1) k;have e:=tS v 1 (k+1);have f:iI 1 (k+1)=0:=vH (k:=1) aG aE;omega
def U6{v N:Nat}(iQ:∀ k,k<N->iI v k=4294967295){k:Nat}(h:k<N):iI (v+1) k=0:=by
 have a:=y4 v 1 k;have b:=JE iQ k aE;have c:=iQ k h;have d:=qb (v+1) k;have e:=tS v 1 (k+1);omega
def agQ{v N:Nat}(iQ:∀ k,k<N->iI v k=4294967295)(hd:iI v N≠4294967295):iI (v+1) N=iI v N+1/\jJ v 1 (N+1)=0:=by
 have a:=y4 v 1 N;have b:=JE iQ N (bC _);have c:=qb v N;have d:=qb (v+1) N;have e:=tS v 1 (N+1);omega
def U5{v N:Nat}(hc:jJ v 1 (N+1)=0):∀ j,jJ v 1 (N+1+j)=0/\iI (v+1) (N+1+j)=iI v (N+1+j)
 | 0=>by
  have a:=y4 v 1 (N+1);have f:iI 1 (N+1)=0:=vH (k:=1) aG aE;have c:=qb v (N+1);have e:=tS v 1 (N+1+1);have d:=qb (v+1) (N+1);rw[bT];omega
 |j+1=>by
  obtain⟨h1,h2⟩:=U5 hc j;have a:=y4 v 1 (N+1+j);have f:iI 1 (N+1+j)=0:=vH (k:=1) aG aE;have h3:jJ v 1 (N+1+(j+1))=0:=by
   rw[(aE:N+1+(j+1)=N+1+j+1)];have d:=qb (v+1) (N+1+j);omega
  have a:=y4 v 1 (N+1+(j+1));have f:iI 1 (N+1+(j+1))=0:=vH (k:=1) aG aE;have c:=qb v (N+1+(j+1));have d:=qb (v+1) (N+1+(j+1));have e:=tS v 1 (N+1+(j+1)+1);omega
def aiR{v N:Nat}(hN:N<(ia v).length)(iQ:∀ k,k<N->iI v k=4294967295)(hd:iI v N≠4294967295):(kY 0 v N (ia v).length).set N (iI v N+1)=ia (v+1):=by
 obtain⟨h1,h2⟩:=agQ iQ hd;have ht:=CB v;have iL:v+1<4294967296^(ia v).length:=by
  rcases ew (v+1) (4294967296^(ia v).length)with q|q
  .exact q
  .exfalso;have e:v+1=4294967296^(ia v).length:= aE ;have h3:iI (v+1) N=0:=by
    rw[e];unfold iI;obtain⟨j,hj⟩:∃ j,(ia v).length=N+(j+1):=⟨(ia v).length-N-1,aE⟩
    rw[hj,bE,aqn _ (pw N),bH,gj]
   omega
 have hl:(ia (v+1)).length=(ia v).length:=Nat.le_antisymm (rE iL) (mU (Nat.le_succ v));rw[<-Ge hl];unfold kY iT;apply apK aK;intro i i1 i2;have i3:i<(ia v).length:=by simpa using i2
 rw[aqi,apL,apL,aqj];by_cases hi:N=i
 .subst hi;rw[bw rfl,h1]
 .rw [bu hi];by_cases xg:i<N
  .rw [bw xg,BY,U6 iQ xg]
  .rw [bu xg];have:=(U5 h2 (i-(N+1))).2;rw[(aE:N+1+(i-(N+1))=i)]at this;exact this.symm
def aiP{v:Nat}(iQ:∀ k,k<(ia v).length->iI v k=4294967295):iT (v+1) (ia v).length=iT 0 (ia v).length/\iI (v+1) (ia v).length=1/\iT (v+1) ((ia v).length+1)=ia (v+1):=by
 have e:iT (v+1) (ia v).length=iT 0 (ia v).length:=by
  unfold iT;apply fh;intro k hk;rw[U6 iQ (bY.1 hk),BY]
 have ht:=CB v;have hv:=vo (v+1) (ia v).length;rw[e,vo,Nat.zero_mod]at hv;have rB:4294967296^(ia v).length<=v+1:=fW λq=>by rw[bU q]at hv;omega
 refine⟨e,?_,Ge (VG rB (by rw[bH];have:=pw (ia v).length;omega))⟩;have a:=y4 v 1 (ia v).length;have b:=JE iQ _ (bC _);have c:iI v (ia v).length=0:=vH ht (bC _);have d:=qb (v+1) (ia v).length;have f:=tS v 1 ((ia v).length+1);omega
def ZB{v l:Nat}(hl:(ia v).length=l+1):iI v l≠0/\iq v=32*l+iq (iI v l):=by
 have h1:=CB v;rw[hl]at h1;have h2:4294967296^l<=v:=fW λq=>by have:=rE q;omega
 have h3:iI v l≠0:=by
  unfold iI;have a:=gL h2 (pw l);have b:v/4294967296^l<4294967296:=by rw[cA (pw l),bK,<-bH];exact h1
  rw[bU b];omega
 exact⟨h3,Q9 h1 h3⟩
def abD{v l:Nat}(_:(ia v).length=l+1):iq (iI v l)<=32:=ln.2 (qb v l)
def abr{t x:Nat}(h:x<32-iq t):t/2^(31-x)%2=0:=by
 have h1:=pK t;have h2:=bN (show 0<2 by decide) (aE:iq t<=31-x);rw[cF aE]
def abu{t x:Nat}(h0:t≠0)(h:x=32-iq t)(hb:iq t<=32):t/2^(31-x)%2=1:=by
 have h1:=pK t;have h2:=sF h0;have h3:=nv h0;have e:31-x=iq t-1:= aE ;rw[e];have h4:2^iq t=2*2^(iq t-1):=by
  obtain⟨k,hk⟩:∃ k,iq t=k+1:=⟨iq t-1,aE⟩
  rw[hk,eu,bH,bK]
 have h5:t/2^(iq t-1)<2:=by rw[cA (bF aG)];omega
 have h6:=gL h2 (bF (n:=iq t-1) (show 0<2 by decide));omega
def Q7{v i:Nat}:iI v (i/32)/2^(i%32)%2=v/2^i%2:=by
 by_cases h:i/32<(ia v).length
 .have:=Lu (kR v) i h;rw[kf]at this;rw[this,<-Bm,bD,bI h];rfl
 .have h1:=CB v;have h2:=bN (show 0<4294967296 by decide) (fW h);have h3:v<4294967296^(i/32):= aE ;rw[vH h3 (bC _),gH];have h4:4294967296^(i/32)<=2^i:=by rw[oE];exact bN aG aE 
  rw[cF aE]
def abt{v i:Nat}(h:32*(ia v).length<=i):v/2^i%2=0:=by
 have h1:=CB v;rw[oE]at h1;have h2:=bN (show 0<2 by decide) h;rw[cF aE]
def JR(w k:Nat):w%2^(k+1)=w%2^k+w/2^k%2*2^k:=by
 rw[bH,gG,bK (2^k)]
def OS{w k:Nat}(hk:k<32)(hw:w<4294967296):bits .or .u32 ((w%2^k:Nat):Int) ((w/2^k%2*2^k:Nat):Int)=((w%2^(k+1):Nat):Int):=by
 have a:=bM w (bF (n:=k) (show 0<2 by decide));have b:=bM (w/2^k) (show 0<2 by decide);have c:=JR w k;have d:=dO w (2^(k+1));have e:=dO w (2^k);rw[Hj _ _ aE aE,Br _ _ _ a,c]
def PM{b k:Nat}(hk:k<32)(hb:b<=1):IntKind.u32.wrap ((b:Int)*2^k)=((b*2^k:Nat):Int):=by
 have h1:b*2^k<=1*2^31:=dp hb (bN aG aE);rw[IntKind.wrap_u32];have e:((b:Int)*2^k)=((b*2^k:Nat):Int):=by
  rw[ez,Int.natCast_pow];rfl
 rw[e];omega
def R3{w y k:Nat}(hk:k<32):iI w y/2^k%2=w/2^(32*y+k)%2:=by
 have:=Q7 (v:=w) (i:=32*y+k);rwa[show(32*y+k)/32=y by omega,show(32*y+k)%32=k by omega]at this
def Gc{w y:Nat}:y<(ia w).length↔32*y<iq w:=by
 constructor
 .intro h;obtain⟨l,hl⟩:∃ l,(ia w).length=l+1:=⟨(ia w).length-1,aE⟩
  obtain⟨a,b⟩:=ZB hl;have:=nv a;omega
 .intro h;apply apJ;intro q;have h1:=wm q;rw[oE]at h1;have:=ln.2 h1;omega
def Ra{v s:Nat}(h:s<=iq v):iq (v/2^s)=iq v-s:=by
 by_cases h0:v/2^s=0
 .rw [h0,rq];have h1:v<2^s:=by
   rcases ew v (2^s)with q|q
   .exact q
   .have:=gL q (bF aG);omega
  have:=ln.2 h1;omega
 .have h2:v≠0:=λq=>h0 (by rw[q,gH])
  have a:=pK v;have b:=sF h2;have hs:s<iq v:=by
   rcases ew s (iq v)with q|q
   .exact q
   .exfalso;apply h0;apply cF;exact bW a (bN aG q)
  obtain⟨k,hk⟩:∃ k,iq v=s+(k+1):=⟨iq v-s-1,aE⟩
  rw[hk]at a b;rw[hk,Nat.add_sub_cancel_left];refine vz ?_ ?_
  .rw [dq (bF aG),<-bE];rw[(aE:s+(k+1)-1=k+s)]at b;exact b
  .rw [cA (bF aG),<-bE,eN (k+1)];exact a
def acW{v:Nat}(h:v≠0):jZ v<iq v:=by
 have:=GL h;exact tD.2 this
def Q8(v l N:Nat)(x:Nat):PS:=⟨29,true,[(4,.e (iP ((31-x:Nat):Int))),(3,.e (iP l)),(0,.e (ic (ia v)))],[]⟩
def Kz(v:Nat)(x:Nat):PS:=⟨38,false,[(5,.own 5),(7,.e (iP x)),(6,.e (.v (.int .u32 (mw v 0 x:Int)))),(0,.e (ic (ia v)))],[(5,.row false 150 x 1 (jl (iT (2*v) x)))]⟩
def abw(v l N:Nat)(hl:(ia v).length=l+1)(hs:l<=1000000)(h0:((ia v).getD l 0)≠0)(hN:N=32-iq ((ia v).getD l 0))(M1:iq ((ia v).getD l 0)<=32)(kP:1<=iq ((ia v).getD l 0))(hv:iq v=32*l+iq ((ia v).getD l 0)):gZ 348 [ic (ia v)] (iP (iq v)):=
 ak call348 func348 (ae [iz (((ia v).length:Int)-1) aE,.o 7 (aq (((ia v).length:Int)-1) l aE),.u 70,tT 9 (0<=(l:Int)) aE,.s (Sp.jv (Q8 v l N) 0 N aE (λx hx jU=>by
    have hX:=(kR v).getD l;have hd:=bV ((ia v).getD l 0) (2^(31-x));have hb:=abr (t:=((ia v).getD l 0)) (x:=x) aE;exact iG (ae [tT 13 (0<=((31-x:Nat):Int)) aE,iX (l:Int) ((ia v).length) aE,.a (aE:0<=(((31-x:Nat):Int):Int)/\(((31-x:Nat):Int):Int)<=((32:Nat):Int)),.o 21 (.int (As _ _):aj (.v (.int .u32 ((((ia v).getD l 0:Nat):Int)/2^(31-x)))) (.v (.int .u32 ((((ia v).getD l 0)/2^(31-x):Nat):Int)))),.o 22 (.int (KP _ aE):aj (.v (.int .u32 (bits .and .u32 ((((ia v).getD l 0)/2^(31-x):Nat):Int) 1))) (.v (.int .u32 (((((ia v).getD l 0)/2^(31-x))%2:Nat):Int)))),ai 23 ((((((ia v).getD l 0)/2^(31-x))%2:Nat):Int)==1) (bj aE),iz (((31-x:Nat):Int)-1) aE]<|.e (af [.o 4 (aq (((31-x:Nat):Int)-1) ((31-(x+1):Nat):Int) aE)])) aI)
  (λhx=>by
    have hX:=(kR v).getD l;have hd:=bV ((ia v).getD l 0) (2^(31-N));have hb:=abu (t:=((ia v).getD l 0)) (x:=N) h0 hN M1;exact iG (af [tT 13 (0<=((31-N:Nat):Int)) aE,iX (l:Int) ((ia v).length) aE,.a (aE:0<=(((31-N:Nat):Int):Int)/\(((31-N:Nat):Int):Int)<=((32:Nat):Int)),.o 21 (.int (As _ _):aj (.v (.int .u32 ((((ia v).getD l 0:Nat):Int)/2^(31-N)))) (.v (.int .u32 ((((ia v).getD l 0)/2^(31-N):Nat):Int)))),.o 22 (.int (KP _ aE):aj (.v (.int .u32 (bits .and .u32 ((((ia v).getD l 0)/2^(31-N):Nat):Int) 1))) (.v (.int .u32 (((((ia v).getD l 0)/2^(31-N))%2:Nat):Int)))),ah 23 ((((((ia v).getD l 0)/2^(31-N))%2:Nat):Int)==1) (bk aE),iz (32*(l:Int)) aE,iz (((32*l:Nat):Int)+((31-N:Nat):Int)) aE,
    iz ((((32*l)+(31-N):Nat):Int)+1) aE]) aI) aM:ju 5 f348 (Q8 v l N 0) .ret ⟨29,true,[(2,.e (iP ((((32*l)+(31-N))+1:Nat):Int)))],[]⟩) (af [.o 4 (aq 31 ((31-0:Nat):Int) aE)])]<|rQ (iP ((((32*l)+(31-N))+1:Nat):Int)) (iP (iq v)) (congrArg iP aE)) 
def abx : gZ 348 [ic (ia 0)] (iP 0):=by
 have z:(ia 0).length=0:=by rw[nT];rfl
 exact ak call348 func348 (af [iz (((ia 0).length:Int)-1) aE,.u 70,tF 9 (0<=(((ia 0).length:Int)-1)) (by rw[nT];decide)]) 
def Io(v:Nat)(h:(ia v).length<=1000000):gZ 348 [ic (ia v)] (iP (iq v)):=by
 rcases hl:(ia v).length with _|l
 .obtain rfl:=rk.1 hl;exact abx
 .obtain ⟨a,b⟩:=ZB hl;have c:=abD hl;have d:=nv a;rw[<-Bm]at a b c d;exact abw v l _ hl aE a rfl c d b
def Im(v i:Nat)(h:(ia v).length<=1000000)(hi:i<=1000000000):gZ 349 [ic (ia v),iP i] (iP ((v/2^i%2:Nat):Int)):=by
 have hX:=(kR v).getD (i/32);have hd:=bV ((ia v).getD (i/32) 0) (2^(i%32));exact ak call349 func349 (ae [tF 6 ((i:Int)<0) aE,iz (32*((ia v).length:Int)) aE]<|.w (((32*(ia v).length:Nat):Int)<=i)
  (λk1=>ae [tB 12 (bA k1)]<|rQ (iP 0) (iP ((v/2^i%2:Nat):Int)) (congrArg (λx:Nat=>iP (x:Int)) (abt aE).symm))
  (λk1=>ae [tB 12 (bB k1),.a (aE:0<(32:Int)),iz (i:Int) aE,iX ((i/32:Nat):Int) ((ia v).length) aE,.a (aE:0<(32:Int)),.a (aE:0<=(((i%32:Nat):Int):Int)/\(((i%32:Nat):Int):Int)<=((32:Nat):Int)),.o 21 (.int (As _ _):aj (.v (.int .u32 ((((ia v).getD (i/32) 0:Nat):Int)/2^(i%32)))) (.v (.int .u32 ((((ia v).getD (i/32) 0)/2^(i%32):Nat):Int)))),.o 22 (.int (KP _ aE):aj (.v (.int .u32 (bits .and .u32 ((((ia v).getD (i/32) 0)/2^(i%32):Nat):Int) 1))) (.v (.int .u32 (((((ia v).getD (i/32) 0)/2^(i%32))%2:Nat):Int)))),.o 23 (aq (IntKind.i64.wrap (((((ia v).getD (i/32) 0)/2^(i%32))%2:Nat):Int)) (((((ia v).getD (i/32) 0)/2^(i%32))%2:Nat):Int) (NC _ aE))]<|rQ (iP (((((ia v).getD (i/32) 0)/2^(i%32))%2:Nat):Int)) (iP ((v/2^i%2:Nat):Int)) (by rw[Bm,Q7]))) 
def amx(v:Nat)(h:(ia v).length<=1000000)(pk:(mw v 0 (ia v).length)=0):gZ 346 [ic (ia v),.v (.int .u64 0)] (ic (ia (2*v))):=
 an call346 func346 (ae [.o 9 (.int aG:aj (.v (.int .u32 (IntKind.u32.wrap 0))) (.v (.int .u32 0))),.y 5 5 false 150 1 (jl (iT (2*v) 0)),.s (Sp.jv (Kz v) 0 ((ia v).length) aE (λx hx jU=>by
    have he:=Iz (r:=v) (b:=0) aG x;rw[bT,<-Bm v x]at he;have hc:=Iy (r:=v) (b:=0) aG x;have hX:=(kR v).getD x;have hz:(((2*((ia v).getD x 0)%4294967296)+(mw v 0 x):Nat):Int)=(iI (2*v) x:Int):=by rw[he.1]
    have hq:((ia v).getD x 0)/2^31=mw v 0 (x+1):=by rw[he.2]
    exact iG (ae [tT 13 ((x:Int)<((ia v).length:Int)) aE,iX (x:Int) ((ia v).length) aE,.a (aE:0<=(1:Int)/\(1:Int)<=((32:Nat):Int)),.o 21 (.int (PL _):aj (.v (.int .u32 (IntKind.u32.wrap ((((ia v).getD x 0:Nat):Int)*2^1)))) (.v (.int .u32 ((2*((ia v).getD x 0)%4294967296:Nat):Int)))),.o 23 (.int (Kb _ _ hc):aj (.v (.int .u32 (bits .or .u32 ((2*((ia v).getD x 0)%4294967296:Nat):Int) (mw v 0 x:Int)))) (.v (.int .u32 (((2*((ia v).getD x 0)%4294967296)+(mw v 0 x):Nat):Int)))),.a (aE:(x+1)*4<=140737488355328),iX (x:Int) ((ia v).length) aE,.a (aE:0<=(31:Int)/\(31:Int)<=((32:Nat):Int)),.o 30 (.int (As _ _):aj (.v (.int .u32 ((((ia v).getD x 0:Nat):Int)/2^31))) (.v (.int .u32 ((((ia v).getD x 0)/2^31:Nat):Int)))),iz ((x:Int)+1) aE]<|.e (af [.o 6 (.int (by rw[hq]):aj (.v (.int .u32 ((((ia v).getD x 0)/2^31:Nat):Int))) (.v (.int .u32 (mw v 0 (x+1):Int)))),.b 5 (Bl rfl hz:Bx.le (.row false 150 (x+1) 1 (λi_ j_=>if i_<x then(jl (iT (2*v) x)) i_ j_ else(E.kH (.sl false 1 1 λi_ j_=>[.v (.int .u32 (((2*((ia v).getD x 0)%4294967296)+(mw v 0 x):Nat):Int))].getD (i_*1+j_) (.v (.bool false)))) (i_-x) j_)) (.row false 150 (x+1) 1 (jl (iT (2*v) (x+1)))))])) aI)
  (λhx=>by
    exact iG (af [tF 13 (((ia v).length:Int)<((ia v).length:Int)) aE]) aI) aM:ju 4 f346 (Kz v 0) (.exit 0) ⟨38,false,[(5,.own 5),(6,.e (.v (.int .u32 ((mw v 0 (ia v).length:Nat):Int))))],[(5,.row false 150 ((ia v).length) 1 (jl (iT (2*v) ((ia v).length))))]⟩) (af [.o 6 (.int (by rw[LW];rfl):aj (.v (.int .u32 0)) (.v (.int .u32 (mw v 0 0:Int))))]),ai 32 (((mw v 0 (ia v).length:Nat):Int) != 0) (CE pk)]<|rQ (.sl false ((ia v).length) 1 (jl (iT (2*v) ((ia v).length)))) (ic (ia (2*v))) (by rw[BH (nf _ _).symm,ac0 pk])) 
def ahF{N l c:Nat}{L:List Nat}(h1:iT N (l+1)=L)(h2:iI N l=c):E.le (.sl false (l+1) 1 λi_ j_=>if i_<l then jl (iT N l) i_ j_ else(E.kH (.sl false 1 1 λi_ j_=>[.v (.int .u32 (c:Int))].getD (i_*1+j_) (.v (.bool false)))) (i_-l) j_) (ic L):=by
 subst h1 h2;rw[<-BH (nf N (l+1)).symm];refine .sl λi j hi hj=>?_
 obtain rfl:j=0:= aE ;by_cases h:i<l
 .simp only[h,bQ];exact⟨.iM (by unfold jl;rw[tU h,tU aE]),rfl⟩
 .obtain rfl:i=l:= aE ;simp only[fp,bJ,dc];exact⟨.iM (by unfold jl;rw[tU aE];rfl),rfl⟩
def amy(v:Nat)(h:(ia v).length<=1000000)(pk:(mw v 0 (ia v).length)≠0):gZ 346 [ic (ia v),.v (.int .u64 0)] (ic (ia (2*v))):=by
 obtain⟨h1,h2⟩:=ac1 pk;exact an call346 func346 (ae [.o 9 (.int aG:aj (.v (.int .u32 (IntKind.u32.wrap 0))) (.v (.int .u32 0))),.y 5 5 false 150 1 (jl (iT (2*v) 0)),.s (Sp.jv (Kz v) 0 ((ia v).length) aE (λx hx jU=>by
    have he:=Iz (r:=v) (b:=0) aG x;rw[bT,<-Bm v x]at he;have hc:=Iy (r:=v) (b:=0) aG x;have hX:=(kR v).getD x;have hz:(((2*((ia v).getD x 0)%4294967296)+(mw v 0 x):Nat):Int)=(iI (2*v) x:Int):=by rw[he.1]
    have hq:((ia v).getD x 0)/2^31=mw v 0 (x+1):=by rw[he.2]
    exact iG (ae [tT 13 ((x:Int)<((ia v).length:Int)) aE,iX (x:Int) ((ia v).length) aE,.a (aE:0<=(1:Int)/\(1:Int)<=((32:Nat):Int)),.o 21 (.int (PL _):aj (.v (.int .u32 (IntKind.u32.wrap ((((ia v).getD x 0:Nat):Int)*2^1)))) (.v (.int .u32 ((2*((ia v).getD x 0)%4294967296:Nat):Int)))),.o 23 (.int (Kb _ _ hc):aj (.v (.int .u32 (bits .or .u32 ((2*((ia v).getD x 0)%4294967296:Nat):Int) (mw v 0 x:Int)))) (.v (.int .u32 (((2*((ia v).getD x 0)%4294967296)+(mw v 0 x):Nat):Int)))),.a (aE:(x+1)*4<=140737488355328),iX (x:Int) ((ia v).length) aE,.a (aE:0<=(31:Int)/\(31:Int)<=((32:Nat):Int)),.o 30 (.int (As _ _):aj (.v (.int .u32 ((((ia v).getD x 0:Nat):Int)/2^31))) (.v (.int .u32 ((((ia v).getD x 0)/2^31:Nat):Int)))),iz ((x:Int)+1) aE]<|.e (af [.o 6 (.int (by rw[hq]):aj (.v (.int .u32 ((((ia v).getD x 0)/2^31:Nat):Int))) (.v (.int .u32 (mw v 0 (x+1):Int)))),.b 5 (Bl rfl hz:Bx.le (.row false 150 (x+1) 1 (λi_ j_=>if i_<x then(jl (iT (2*v) x)) i_ j_ else(E.kH (.sl false 1 1 λi_ j_=>[.v (.int .u32 (((2*((ia v).getD x 0)%4294967296)+(mw v 0 x):Nat):Int))].getD (i_*1+j_) (.v (.bool false)))) (i_-x) j_)) (.row false 150 (x+1) 1 (jl (iT (2*v) (x+1)))))])) aI)
  (λhx=>by
    exact iG (af [tF 13 (((ia v).length:Int)<((ia v).length:Int)) aE]) aI) aM:ju 4 f346 (Kz v 0) (.exit 0) ⟨38,false,[(5,.own 5),(6,.e (.v (.int .u32 ((mw v 0 (ia v).length:Nat):Int))))],[(5,.row false 150 ((ia v).length) 1 (jl (iT (2*v) ((ia v).length))))]⟩) (af [.o 6 (.int (by rw[LW];rfl):aj (.v (.int .u32 0)) (.v (.int .u32 (mw v 0 0:Int))))]),ah 32 (((mw v 0 (ia v).length:Nat):Int) != 0) (Gt pk),.a (aE:((ia v).length+1)*4<=140737488355328)]<|rR (ic (ia (2*v))) (ahF h1 h2:E.le (.sl false ((ia v).length+1) 1 (λi_ j_=>if i_<(ia v).length then(jl (iT (2*v) ((ia v).length))) i_ j_ else(E.kH (.sl false 1 1 λi_ j_=>[.v (.int .u32 ((mw v 0 (ia v).length:Nat):Int))].getD (i_*1+j_) (.v (.bool false)))) (i_-(ia v).length) j_)) (ic (ia (2*v))))) 
def YL(v:Nat)(h:(ia v).length<=1000000):gZ 346 [ic (ia v),.v (.int .u64 0)] (ic (ia (2*v))):=by
 by_cases hc:(mw v 0 (ia v).length)=0
 .exact amx v h hc
 .exact amy v h hc
def ahI{L M:List Nat}{n z:Nat}(hn:n=0+L.length)(hs:L.set 0 z=M):E.le (.sl false n 1 λi' j'=>if i'=0/\0<=j'/\j'<0+1 then[.v (.int .u32 (z:Int))].getD (j'-0) .any else(λi_ j_=>if i_<0 then(λi_ j_=>([]:List E).getD (i_*1+j_) (.v (.bool false))) i_ j_ else(E.kH (ic L)) (i_-0) j_) i' j') (ic M):=by
 subst hs;have e:n=(L.set 0 z).length:=by rw[cV];omega
 rw[<-BH e];refine .sl λi j hi hj=>?_
 obtain rfl:j=0:= aE ;have nh:i<L.length:= aE ;by_cases h:i=0
 .subst h;simp only[true_and,bC,aqc,bQ,cD];exact⟨.iM (by show _=E.v (.int .u32 (((L.set 0 z).getD 0 0:Nat):Int));rw[bD (l:=L.set 0 z),List.getElem?_set_self nh];rfl),rfl⟩
 .simp only[h,false_and,bJ,bO,dM];exact⟨.iM (by show E.v (.int .u32 (L.getD i 0:Int))=_;unfold jl;rw[bD,bD,ado (λq=>h q.symm)]),rfl⟩
def amu : gZ 347 [ic (ia 0)] (ic (ia (0+1))):=
 ak call347 func347 (af [ah 6 (((ia 0).length:Int)==0) (by rw[nT];rfl),.o 7 (.e sE:aj (.sl false 1 1 λi_ j_=>[.v (.int .u32 1)].getD (i_*1+j_) (.v (.bool false))) (ic (ia 1)))]) 
def amt(v:Nat)(hl:1<=(ia v).length)(hs:(ia v).length<=1000000)(he:v%2=0):gZ 347 [ic (ia v)] (ic (ia (v+1))):=by
 have hX:=(kR v).getD 0;have qf:((ia v).getD 0 0)%2=0:=by rw[Bm];unfold iI;rw[cw,eo];omega
 have h0:v≠0:=λq=>by subst q;rw[nT]at hl;exact absurd hl aG 
 exact an call347 func347 (ae [ai 6 (((ia v).length:Int)==0) (bj aE),.bo,.a (aE:(0+(ia v).length)*4<=140737488355328),iX 0 (0+(ia v).length) aE,.a (aE:0<(0+(ia v).length)),.o 15 (.int (ajr _ hX qf):aj (.v (.int .u32 (bits .or .u32 (((ia v).getD 0 0:Nat):Int) 1))) (.v (.int .u32 ((((ia v).getD 0 0)+1:Nat):Int)))),
  iX 0 (0+(ia v).length) aE,.a (aE:0<(0+(ia v).length))]<|rR (ic (ia (v+1))) (ahI aE (by rw[Bm];exact amw h0 he):E.le (.sl false (0+(ia v).length) 1 (λi' j'=>if i'=0/\0<=j'/\j'<0+1 then[.v (.int .u32 ((((ia v).getD 0 0)+1:Nat):Int))].getD (j'-0) .any else(λi_ j_=>if i_<0 then(λi_ j_=>([]:List E).getD (i_*1+j_) (.v (.bool false))) i_ j_ else(E.kH (ic (ia v))) (i_-0) j_) i' j')) (ic (ia (v+1))))) 
def YK(v:Nat)(hs:(ia v).length<=1000000)(he:v%2=0):gZ 347 [ic (ia v)] (ic (ia (v+1))):=by
 by_cases h:(ia v).length=0
 .obtain rfl:=rk.1 h;exact amu
 .exact amt v aE hs he
def abv(v:Nat)(A:Option Addr)(c:Nat)(w:World)(hs:Sl w A c (ia v))(hT:Tb w)(h:(ia v).length<=1000000):
 Calls prog 348 #[.slice A (ia v).length c] w (λe w'=>e = .returned (.int .i64 (iq v:Int))/\iJ w w'):=by
 refine((Io v h).run w (λ_=>False) [_] hT (λ_ h=>h.elim) (.cons (yO (λ_ h=>h.elim) (iJ.refl w) hs) (.nil _ _ _))).mono ?_;rintro e w' ⟨x,rfl,hb,hr⟩;obtain rfl:=iN.kW hr;exact⟨rfl,hb⟩
def abp(v i:Nat)(A:Option Addr)(c:Nat)(w:World)(hs:Sl w A c (ia v))(hT:Tb w)(h:(ia v).length<=1000000)(hi:i<=1000000000):
 Calls prog 349 #[.slice A (ia v).length c,.int .i64 (i:Int)] w (λe w'=>e = .returned (.int .i64 ((v/2^i%2:Nat):Int))/\iJ w w'):=by
 refine((Im v i h hi).run w (λ_=>False) [_,_] hT (λ_ h=>h.elim) (.cons (yO (λ_ h=>h.elim) (iJ.refl w) hs) (.cons (.v _) (.nil _ _ _)))).mono ?_;rintro e w' ⟨x,rfl,hb,hr⟩;obtain rfl:=iN.kW hr;exact⟨rfl,hb⟩
def Ow.zg{w:World}{base:Nat}{v:Value}{L:List Nat}(h:Ow w base v L){g:Nat}(hg:g<base)(i:Nat)(u:Value):Ow (w.setCell ⟨g,i,none⟩ u) base v L:=
 ⟨ownsRow_setCell_below h.row hg u,h.ok⟩
def Ow.ext{w w':World}{base:Nat}{v:Value}{L:List Nat}(h:Ow w base v L)(hb:iJ w w'):Ow w' base v L:=by
 refine⟨⟨h.row.1,?_⟩,h.ok⟩;rcases h.row.2 with q|⟨g,cap,cur,e1,e2,e3,r⟩
 .exact .inl q
 .exact .inr ⟨g,cap,cur,e1,e2,by rw[hb.block g (dv.1 e3).1];exact e3,r⟩
def Ow.mono{w:World}{base base':Nat}{v:Value}{L:List Nat}(h:Ow w base v L)(hb:base'<=base):Ow w base' v L:=by
 refine⟨⟨h.row.1,?_⟩,h.ok⟩;rcases h.row.2 with q|⟨g,cap,cur,e1,e2,r⟩
 .exact .inl q
 .exact .inr ⟨g,cap,cur,e1,bG hb e2,r⟩
def jL.ams{w:World}{g n c:Nat}{s:Bool}{A:Option Addr}{e:Int}(h:jL w g s A n c e)(A':Option Addr)(n' c':Nat):jL (w.setCell ⟨g,1,none⟩ (.slice A' n' c')) g s A' n' c' e:=heap_setCell_same w g 1 _ _ (.slice A' n' c') h
def jL.grown{w w':World}{g n c base:Nat}{s:Bool}{A:Option Addr}{e:Int}{v:Value}{L:List Nat}(h:jL w g s A n c e)(ho:Ow w base v L)(hg:w.grownBy w' v.ownBlock)(hb:g<base):jL w' g s A n c e:=
 (hg.block g h.lt (λq=>by have:=(ho.row.lt g q.symm).1;omega)).trans h
def ah1(v:Nat)(e:Int)(A:Option Addr)(c:Nat)(w:World)(h0:v≠0)(hs:Sl w A c (ia v))(hT:Tb w)(hl:(ia v).length<=1000)(lv:-100000<=e)(kQ:e<=100000):
 Calls prog 350 #[.bool false,.slice A (ia v).length c,.int .i64 e] w (uz w (canon false v e)):=by
 have pk:=aqG (show canon false v e=⟨false,v/2^jZ v,e+jZ v⟩by unfold canon;rw[bu h0]);have hZ:=acW h0;have hB:iq v<=32*1000:=by
  have:=wm (bC (ia v).length);rw[oE]at this;have:=ln.2 this;omega
 have qR:(((iq v:Int)==0))=false:=bj aE;have B5:=aqG (λA c w (hs:Sl w A c (ia v)) hT=>abv v A c w hs hT aE);have tY:=aqG (λi A c w (hs:Sl w A c (ia v)) hT hi=>abp v i A c w hs hT aE hi);obtain⟨m,hm⟩:∃ m,m=(ia v).length:=⟨_,rfl⟩
 rw[<-hm]at B5 tY ⊢;have HM:=aqG hm;clear hm;obtain⟨n,hn⟩:∃ n,n=iq v:=⟨_,rfl⟩
 rw[<-hn]at B5 hZ hB qR;have HN:=aqG hn;clear hn;obtain⟨Z,MU⟩:∃ Z,Z=jZ v:=⟨_,rfl⟩
 rw[<-MU]at hZ pk;have HZ:=aqG MU;clear MU;go_enter func350,ntmps350;go_wp2_with fail;refine(B5.out A c _ (hs.alloc _) (hT.alloc _)).mono ?_;rintro e' w1 ⟨rfl,kP⟩;go_wp2;have zU:∀ k,k<Z->v/2^k%2=0:=λk hk=>by rw[HZ.out]at hk;exact Q6 h0 hk
 have ug:v/2^Z%2=1:=by rw[HZ.out];exact Q5 h0
 have HZ1:=aqG zU;clear zU;have HZ2:=aqG ug;clear ug;have tA:=hs.below ((iJ.alloc w _).trans kP);have hT1:=hT.below ((iJ.alloc w _).trans kP);have Cp:=(iJ.alloc w _).trans kP;go_loopw [8] (λi wr=>∃ k:Nat,k<=Z/\i = .int .i64 (k:Int)/\iJ w1 wr) (λi _=>Z-(intOf i).toNat)
 case atStart=>exact⟨0,cj _,rfl,iJ.refl _⟩
 case round=>
  obtain⟨k,hk,rfl,mK⟩:=hrel;have kV:=tA.below mK;have wY:=hT1.below mK;have sy:=Cp.trans mK;go_wp2_with fail;refine(tY.out k A c _ kV wY aE).mono ?_;rintro e'' w3 ⟨rfl,pW⟩;by_cases hkZ:k<Z
  .rw [HZ1.out k hkZ];have zT:IntKind.i64.wrap ((k:Int)+1)=((k+1:Nat):Int):=by rw[IntKind.wrap_i64];omega
   go_wp2;go_roundw
   case rel=>exact⟨k+1,aE,by go_num,mK.trans pW⟩
   case measure=>simp[intOf];omega
  .obtain rfl:k=Z:= aE ;rw[HZ2.out];have hx3:=sy.trans pW;have D5:=kV.below pW;have hT3:=wY.below pW;have Jy:IntKind.i64.wrap (e+(k:Int))=e+(k:Int):=by rw[IntKind.wrap_i64];omega
   go_wp2;have Ip:=jL.new w3 false none 0 0 (e+(k:Int));have UU:=kP.trans (mK.trans pW);have hg:=UU.size;have UT:=UU.trans (iJ.alloc w3 (.cells #[.bool false,.slice none 0 0,.int .i64 (e+(k:Int))] 39));obtain⟨g9,Un⟩:∃ g,g=w3.heap.size:=⟨_,rfl⟩
   rw[<-Un]at Ip hg ⊢;generalize w3.alloc (.cells #[.bool false,.slice none 0 0,.int .i64 (e+(k:Int))] 39)=w5 at *
   clear Un;have uR:=hs.alloc (.cells #[.bool false,.slice none 0 0,.int .i64 0] 39);have hTW:=hT.alloc (.cells #[.bool false,.slice none 0 0,.int .i64 0] 39);have bx6:=jL.new w false none 0 0 0;generalize hW:w.alloc (.cells #[.bool false,.slice none 0 0,.int .i64 0] 39)=W at *
   have hwW:iJ w W:=hW▸iJ.alloc w _;have I8:g9<w5.heap.size:=Ip.lt;obtain⟨V,hV⟩:∃ V,V=v/2^k:=⟨_,rfl⟩
   have HV:=aqG hV;rw[<-hV]at pk;have hVb:iq V+k=n:=by rw[hV,Ra (by rw[<-HN.out];omega),<-HN.out];omega
   have T7:∀ i,i<1000000->v/2^(k+i)%2=V/2^i%2:=λi _=>by rw[hV,cW,<-bE]
   have HBV:=aqG T7;clear T7 hV;have TZ:∀ y,y<(ia V).length↔32*y<iq V:=λy=>Gc
   have HYB:=aqG TZ;clear TZ;obtain⟨Y,hY⟩:∃ Y,Y=(ia V).length:=⟨_,rfl⟩
   rw[<-hY]at HYB;have HY:=aqG hY;clear hY;obtain⟨E9,TF⟩:∃ E9,E9=e+(k:Int):=⟨_,rfl⟩
   rw[<-TF]at pk Ip;clear TF;go_loopw [10] (λi wr=>∃ (y:Nat) (O:List Nat) (OA:Option Addr) (Oc:Nat),y<=Y/\i = .int .i64 ((k+32*y:Nat):Int)/\O=(ia V).take y/\Ow wr w5.heap.size (.slice OA O.length Oc) O/\jL wr g9 false OA O.length Oc E9/\iJ W wr/\w5.heap.size<=wr.heap.size) (λi _=>k+32*Y-(intOf i).toNat)
   case atStart=>exact⟨0,[],none,0,cj _,by go_num,aK,Ow.nil _ _,Ip,UT,bC _⟩
   case round=>
    obtain⟨y,O,OA,Oc,hy,rfl,hO,lM,iV,F2,lW⟩:=hrel;have hsr:=uR.below F2;have I7:=hTW.below F2;obtain⟨I,hI⟩:∃ I,I=k+32*y:=⟨_,rfl⟩
    rw[<-hI];by_cases iL:y<Y
    .have h1:=(HYB.out y).1 iL;have ht:decide ((I:Int)<n)=true:=bA aE;have Bc:I<n:= aE ;have FX:decide (I<n)=true:=bA Bc;have hIb:I<=40000:= aE ;have hD:iI V y<4294967296:=qb V y;have T6:∀ j,j<32->v/2^(I+j)%2=iI V y/2^j%2:=λj hj=>by
      rw[hI,df,HBV.out _ aE,R3 hj]
     have HBD:=aqG T6;clear T6;have HI:=aqG hI;clear hI;go_wp2;go_loopw [11,12] (λx q wj=>∃ j:Nat,j<=32/\x = .int .u32 ((iI V y%2^j:Nat):Int)/\q = .int .i64 (j:Int)/\iJ wr wj) (λ_ q _=>32-(intOf q).toNat)
     case atStart=>exact⟨0,cj _,by simp[dj],rfl,iJ.refl _⟩
     case round=>
      obtain⟨j,hj,rfl,rfl,B6⟩:=hrel;by_cases rW:j<32
      .have sw:decide ((j:Int)<32)=true:=bA aE ;have zT:IntKind.i64.wrap ((I:Int)+j)=((I+j:Nat):Int):=by rw[IntKind.wrap_i64];omega
       go_wp2_with fail;refine(tY.out (I+j) A c _ (hsr.below B6) (I7.below B6) aE).mono ?_;rintro e3 w6 ⟨rfl,hb6⟩;rw[HBD.out j rW];have agj:iI V y/2^j%2<=1:= aE ;have ho:=OS rW hD;generalize iI V y/2^j%2=b at *
       have Jn:bits .or .u32 ((iI V y:Int)%2^j) ((b:Int)*2^j)=((iI V y%2^(j+1):Nat):Int):=by rw[<-ho];congr 1<;>simp
       have HO:=aqG Jn;clear ho Jn;have DQ:IntKind.u32.wrap (b:Int)=b:=by rw[IntKind.wrap_u32];omega
       have Ck:=PM rW agj;have hw4:IntKind.i64.wrap ((j:Int)+1)=((j+1:Nat):Int):=by rw[IntKind.wrap_i64];omega
       go_wp2;go_roundw
       case rel=>exact⟨j+1,aE,congrArg (Value.int .u32) HO.out,by go_num,B6.trans hb6⟩
       case measure=>simp[intOf];omega
      .obtain rfl:j=32:= aE ;have Ud:iI V y%2^32=iI V y:=bU (by simpa using hD);rw[Ud];have M3:=iV.ext B6;have Nq:=lM.ext B6;have b1:=M3.c1;have f1:=M3.fr 1;have TJ:O++[iI V y]=(ia V).take (y+1):=by
        have FM:y<(ia V).length:=by rw[<-HY.out];exact iL
        have:=Bm V y;rw[bD,bI FM]at this;rw[aqa,bI FM,hO,<-this];rfl
       have HON:=aqG TJ;clear TJ;clear hO HBD Ud;generalize iI V y=z at *
       have hO4:O.length<=3000:=by
        have:=HON.out▸(show(O++[z]).length=O.length+1 by simp);rw[cJ]at this;omega
       have agI:O.length+[z].length<=10000000000:= aS ;have agx:w5.heap.size<=wr.heap.size:=bG lW B6.size;have JB:=F2.trans B6;have hw5:IntKind.i64.wrap ((I:Int)+32)=((I+32:Nat):Int):=by rw[IntKind.wrap_i64];omega
       have agc:W.heap.size<=w5.heap.size:=UT.size;go_wp2_with (at_builtin;go_must (refine rp aJ _ _ aJ w5.heap.size _ O aJ (Nq.alloc _) _ _ _ [z] aJ aJ (Sl.tG _ _ z aE aE) agI (qw agx _) ?_);intro v' w7 UB Nc apj;obtain⟨OA7,Oc7,rfl,apr⟩:=UB.sl;have Ly:=(M3.alloc _).grown (Nq.alloc _) Nc I8;have b7:=Ly.c1;have f7:=Ly.fr 1)
       go_roundw
       case rel=>
        refine⟨y+1,O++[z],OA7,Oc7,aE,congrArg (Value.int .i64) (by have:=HI.out;omega),HON.out,UB.zg I8 1 _,(by rw[cE];exact Ly.ams _ _ _),((JB.trans (iJ.alloc _ _)).own _ _ ((Nq.alloc _).mono agc) Nc).setCell hg _,?_⟩;have:=Nc.size;simp[World.setCell]at this ⊢;omega
       case measure=>have:=HI.out;simp[intOf];omega
    .have hyY:y=Y:= aE ;have Bc:¬I<n:=by
      intro q;have:=(HYB.out y).2 aE;omega
     have ht:decide ((I:Int)<n)=false:=bB aE;have FX:decide (I<n)=false:=bB Bc;have hOV:O=ia V:=by rw[hO,cT (by rw[<-HY.out];omega)]
     obtain⟨OA',Oc',heq,zO⟩:=lM.sl;cases heq;have b0:=iV.c0;have b1:=iV.c1;have b2:=iV.c2;have AM:=bx6.ext F2;have c0:=AM.c0;have c1:=AM.c1;have c2:=AM.c2;have f0:=AM.fr 0;have f1:=AM.fr 1;have f2:=AM.fr 2;clear hI hO HYB;go_wp2;rw[pk.out];subst hOV;exact tg rfl rfl rfl (AM.set _ _ _ _ _) rfl (AM.tK zO _ _ _ _ _) (jL.sY (hwW.trans F2) (bC _) _ _ _ _ _)
def VU(v:Nat)(e:Int)(h0:v≠0)(hl:(ia v).length<=1000)(lv:-100000<=e)(kQ:e<=100000):gZ 350 [bP false,ic (ia v),iP e] (ie (canon false v e)):=by
 refine⟨call350,λw B vs hK hB hr=>?_⟩;obtain⟨v1,vs,rfl,h1,hr⟩:=hr.mI;obtain⟨v2,vs,rfl,h2,hr⟩:=hr.mI;obtain⟨v3,vs,rfl,h3,hr⟩:=hr.mI;obtain rfl:=hr.qm;obtain rfl:=iN.kW h1;obtain rfl:=iN.kW h3;obtain⟨A,c,rfl,s1⟩:=vd (kR v) h2;exact(ah1 v e A c w h0 s1 hK hl lv kQ).mono λe w' h=>rd B w e w' hB h
def jW(n d y:Nat):Nat:=n*2^y/d
def lI(n d y:Nat):Nat:=n*2^y%d
def Ma(n d y:Nat):n*2^(y+1)=d*(2*jW n d y)+2*lI n d y:=by
 have:=cG (n*2^y) d;unfold jW lI;rw[bH,<-bL,de];omega
def adX{n d y:Nat}(hd:0<d)(h:2*lI n d y<d):lI n d (y+1)=2*lI n d y/\jW n d (y+1)=2*jW n d y:=by
 constructor
 .conv=>lhs;unfold lI
  rw[Ma n d y,dZ,bU h]
 .conv=>lhs;unfold jW
  rw[Ma n d y,dG hd,cF h,bT]
def adY{n d y:Nat}(hd:0<d)(h:¬2*lI n d y<d):lI n d (y+1)=2*lI n d y-d/\jW n d (y+1)=2*jW n d y+1:=by
 have hr:lI n d y<d:=bM _ hd;have e:n*2^(y+1)=d*(2*jW n d y+1)+(2*lI n d y-d):=by
  rw[Ma n d y,bR,cz];omega
 constructor
 .conv=>lhs;unfold lI
  rw[e,dZ,bU aE]
 .conv=>lhs;unfold jW
  rw[e,dG hd,cF aE,bT]
def IK{n d:Nat}(hn:1<=n)(hd:1<=d)(sM:d<=1073741824)(p:Nat):∃ K,K<p+31/\(∀ y,y<K->iq (jW n d y)<p)/\p<=iq (jW n d K):=by
 have hx:p<=iq (jW n d (p+30)):=by
  refine dE (tD.2 ?_);unfold jW;rw[dq hd,bE];have h1:2^p*d<=2^p*2^30:=cO _ aE;have h2:=bX (2^p*2^30) hn;rw[ck]at h2;exact bG h1 h2
 obtain⟨K,h1,h2,h3⟩:=rj (n:=p+31) (p:=λy=>decide (p<=iq (jW n d y))) ⟨p+30,aE,bA hx⟩;exact⟨K,h1,λy hy=>by have:=fu (h3 y hy);omega,cR h2⟩
def px(r m x:Nat):Bool:=decide (r=0)&&decide (m%2^x=0)
def Dx{r m x:Nat}:px r m x=true↔r=0/\m%2^x=0:=by
 unfold px;rw[ch,cS,cS]
def adU(r m:Nat):((r:Int)==0)=px r m 0:=by
 rw[ep,Dx,cw,dj,beq_iff_eq];omega
def adS{r m x:Nat}(h:px r m x=false):px r m (x+1)=false:=by
 refine bn λq=>?_
 rw[Dx]at q;have h2:=JR m x;have h3:m%2^x=0:= aE ;rw[Dx.2 ⟨q.1,h3⟩]at h;cases h
def adT{r m x:Nat}(h:px r m x=true)(hb:m/2^x%2=0):px r m (x+1)=true:=by
 rw[Dx]at h ⊢;refine⟨h.1,?_⟩;rw[JR,hb,h.2,cP]
def adR{r m x:Nat}(hb:¬m/2^x%2=0):px r m (x+1)=false:=by
 refine bn λq=>?_
 rw[Dx]at q;have h2:=JR m x;have h3:m/2^x%2*2^x=0:= aE ;rcases aqe.1 h3 with k|k
 .exact hb k
 .exact absurd k (ev (bF aG))
def lK(n d p K:Nat):Nat:=iq (jW n d K)-p
def j9(n d p K:Nat):Nat:=jW n d K/2^lK n d p K
def oe(n d p K:Nat):Int:=(0-(K:Int))+(lK n d p K:Int)
def YB{x y c:Rat}(hc:0<c):x<=y↔x*c<=y*c:=
 ⟨λh=>cL h (bZ hc),λh=>fm h hc⟩
section
variable {a n d l K:Nat}
def W7(hd:1<=d):0<(d:Rat)*P2 (K:Int)/\(n:Rat)/(d:Rat)*((d:Rat)*P2 (K:Int))=((n*2^K:Nat):Rat):=by
 have h0:(0:Rat)<(d:Rat):=fT.2 aE;refine⟨eC h0 (nO _),?_⟩;rw[<-eV,dN aP,vv,<-dt]
def WL:(a:Rat)*P2 ((0-(K:Int))+(l:Int))*((d:Rat)*P2 (K:Int))=((a*2^l*d:Nat):Rat):=by
 have e:P2 ((0-(K:Int))+(l:Int))*P2 (K:Int)=((2^l:Nat):Rat):=by
  rw[<-qF,(aE:0-(K:Int)+l+K=(l:Int)),vv]
 rw[dt,dt,<-e]
 grind
def OD(hd:1<=d):(a:Rat)*P2 ((0-(K:Int))+(l:Int))<=(n:Rat)/(d:Rat)↔a*2^l*d<=n*2^K:=by
 obtain⟨h1,h2⟩:=W7 (n:=n) (K:=K) hd;rw[YB h1,h2,WL,dF]
def O8(hd:1<=d):(n:Rat)/(d:Rat)<=(a:Rat)*P2 ((0-(K:Int))+(l:Int))↔n*2^K<=a*2^l*d:=by
 obtain⟨h1,h2⟩:=W7 (n:=n) (K:=K) hd;rw[YB h1,h2,WL,dF]
end
section
variable {n d p K:Nat}
def IJ(hb:p<=iq (jW n d K)):iq (j9 n d p K)=p:=by
 unfold j9 lK;rw[Ra aE];omega
def Mb(hd:1<=d)(kg:n<=1073741824)(hb:p<=iq (jW n d K))(hp:1<=p):lK n d p K<=31+K:=by
 unfold lK;have h1:jW n d K<=n*2^K:=bV _ _;have h2:n*2^K<2^(31+K):=by
  rw[bE];exact c9 aE (bF aG)
 have:=ln.2 (cB h1 h2);omega
def Sz(hd:1<=d):j9 n d p K*2^lK n d p K*d<=n*2^K/\n*2^K<(j9 n d p K+1)*2^lK n d p K*d/\(px (lI n d K) (jW n d K) (lK n d p K)=true↔n*2^K=j9 n d p K*2^lK n d p K*d):=by
 have h1:=cG (n*2^K) d;have h2:=bM (n*2^K) (aE:0<d);change d*jW n d K+lI n d K=n*2^K at h1;change lI n d K<d at h2;have h3:=cG (jW n d K) (2^lK n d p K);have h4:=bM (jW n d K) (bF (n:=lK n d p K) (show 0<2 by decide));change 2^lK n d p K*j9 n d p K+jW n d K%2^lK n d p K=jW n d K at h3;rw[Dx,<-h1];generalize jW n d K=M at *
 generalize lI n d K=R at *
 generalize j9 n d p K=T at *
 generalize 2^lK n d p K=q at *
 generalize M%q=s at *
 subst h3;have e1:T*q*d=d*(q*T):=by rw[bK,bK T]
 have e2:(T+1)*q*d=d*(q*T)+d*q:=by rw[ct,ck,ct,e1,bK q d]
 have e3:d*(q*T+s)=d*(q*T)+d*s:=bR _ _ _;have e4:d*s+d<=d*q:=by
  have:=cO d h4;rw[Nat.succ_eq_add_one,bR,cz]at this;exact this
 rw[e1,e2,e3];refine⟨aE,aE,?_⟩;constructor
 .rintro ⟨rfl,rfl⟩;simp
 .intro h;have e5:d*s=0:= aE ;refine⟨aE,?_⟩;rcases aqe.1 e5 with k|k
  .omega
  .exact k
variable (hn:1<=n) (kg:n<=1073741824) (hd:1<=d) (hp:8<=p) (ij:p<=512) (hK:K<p+31) (hb:p<=iq (jW n d K))
include kg hd hp ij hK hb
def SL:Dn p ((n:Rat)/(d:Rat)) (canon false (j9 n d p K) (oe n d p K)) 0:=by
 have hl:=Mb hd kg hb aE;obtain⟨b1,b2,_⟩:=Sz (n:=n) (d:=d) (p:=p) (K:=K) hd;refine aiQ (IJ hb) aE aY aY ((OD hd).2 b1) ?_;apply Rat.not_le.1;intro q;have:=(OD hd).1 q;omega
def SM:Up p ((n:Rat)/(d:Rat)) (if px (lI n d K) (jW n d K) (lK n d p K)=true then canon false (j9 n d p K) (oe n d p K)else canon false (j9 n d p K+1) (oe n d p K)) 0:=by
 have hl:=Mb hd kg hb aE;obtain⟨b1,b2,b3⟩:=Sz (n:=n) (d:=d) (p:=p) (K:=K) hd;split
 .rename_i h;have h:=b3.1 h;exact aeq (IJ hb) aY aY (eE ((O8 hd).2 aE) ((OD hd).2 aE))
 .rename_i h;have h:¬n*2^K=j9 n d p K*2^lK n d p K*d:=λq=>h (b3.2 q)
  refine aiS (IJ hb) aE aY aY ?_ ((O8 hd).2 aE);apply Rat.not_le.1;intro q;have:=(O8 hd).1 q;omega
end
def aov{p:Nat}{v:Rat}{D:Dy}{E:Int}(h:Up p v D E):Dn p (-v) (iU D) E:=
 ⟨λhe=>⟨by rw[pz];exact(h.1 he).1.neg,by rw[pz];have:=(h.1 he).2;grind⟩,λg hg Nd=>by
  obtain⟨a,b⟩:=h.2 (-g) hg.neg aP;exact⟨a,by rw[pz];grind⟩⟩
def adB{p:Nat}{v:Rat}{D:Dy}{E:Int}(h:Dn p v D E):Up p (-v) (iU D) E:=
 ⟨λhe=>⟨by rw[pz];exact(h.1 he).1.neg,by rw[pz];have:=(h.1 he).2;grind⟩,λg hg Nd=>by
  obtain⟨a,b⟩:=h.2 (-g) hg.neg aP;exact⟨a,by rw[pz];grind⟩⟩
def PF{n d:Int}{p:Nat}(hp:8<=p)(ij:p<=512)(hr:ml n d=true){lo hi:Dy}(h1:Dn p ((n:Rat)/(d:Rat)) lo 0)(h2:Up p ((n:Rat)/(d:Rat)) hi 0)(c1:lo.mF)(c2:hi.mF):nX n d p=⟨lo,hi,false⟩:=by
 obtain⟨r1,_⟩:=CQ hr;have d0:(jo d).m≠0:=NK aE;obtain⟨A,B⟩:=LZ (a:=jo n) (b:=jo d) d0 (p:=p) aE aE;rw[yL,yL]at A B;obtain⟨e1,e2⟩:=adC h1 A c1 (IE d0 aE aE _).canon;obtain⟨e3,e4⟩:=aow h2 B c2 (IE d0 aE aE _).canon;unfold nX;rw[bw hr,e1,e2,e3,e4];rfl
def Yv{d:Int}{p:Nat}(hp:8<=p)(ij:p<=512)(hr:ml 0 d=true):nX 0 d p=⟨jD,jD,false⟩:=by
 have hz:((0:Int):Rat)/(d:Rat)=0:=by rw[cX,show((0:Int):Rat)=0 from rfl,apF]
 refine PF hp ij hr ?_ ?_ q6.canon q6.canon
 .rw [hz];exact⟨λ_=>⟨by rw[r8];exact .inl (xK p),by rw[r8];exact cM⟩,λg _ h=>⟨rfl,by rw[r8];exact h⟩⟩
 .rw [hz];exact⟨λ_=>⟨by rw[r8];exact .inl (xK p),by rw[r8];exact cM⟩,λg _ h=>⟨rfl,by rw[r8];exact h⟩⟩
section
variable {n d p K:Nat}
def Yu(kg:n<=1073741824)(hd:1<=d)(hp:8<=p)(ij:p<=512)(hK:K<p+31)(hb:p<=iq (jW n d K))(hr:ml (n:Int) (d:Int)=true):
 nX (n:Int) (d:Int) p=⟨canon false (j9 n d p K) (oe n d p K),if px (lI n d K) (jW n d K) (lK n d p K)=true then canon false (j9 n d p K) (oe n d p K)else canon false (j9 n d p K+1) (oe n d p K),false⟩:=by
 refine PF hp ij hr (SL kg hd hp ij hK hb) (SM kg hd hp ij hK hb) (ru _ _ _) ?_;split<;>exact ru _ _ _
def Yt(kg:n<=1073741824)(hd:1<=d)(hp:8<=p)(ij:p<=512)(hK:K<p+31)(hb:p<=iq (jW n d K))(hr:ml (-(n:Int)) (d:Int)=true):
 nX (-(n:Int)) (d:Int) p=⟨iU (if px (lI n d K) (jW n d K) (lK n d p K)=true then canon false (j9 n d p K) (oe n d p K)else canon false (j9 n d p K+1) (oe n d p K)),iU (canon false (j9 n d p K) (oe n d p K)),false⟩:=by
 have e:((-(n:Int):Int):Rat)/((d:Int):Rat) = -((n:Rat)/(d:Rat)):=by
  rw[gJ,cX,cX,gK];rfl
 refine PF hp ij hr ?_ ?_ (Ek ?_) (Ek (ru _ _ _))
 .rw [e];exact aov (SM kg hd hp ij hK hb)
 .rw [e];exact adB (SL kg hd hp ij hK hb)
 .split<;>exact ru _ _ _
end
def WM(v:Nat)(N:Nat)(x:Nat):PS:=⟨29,false,[(4,.e (iP x)),(3,.own 5)],[(5,.row false 150 ((ia v).length) 1 (jl (kY 0 v x (ia v).length)))]⟩
def WN(v:Nat)(x:Nat):PS:=⟨29,false,[(4,.e (iP x)),(3,.own 5)],[(5,.row false 150 ((ia v).length) 1 (jl (kY 0 v x (ia v).length)))]⟩
def SB(n d p:Nat)(x:Nat):PS:=⟨130,true,[(11,.e (iP (63-(x:Int)))),(10,.e (iP 0)),(9,.e (.v (.int .u64 (iY n d 64 x:Int)))),(8,.e (ic (ia (k0 n d 64 x)))),(7,.box 7 0),(6,.box 6 0),(0,.e (.v (.int .u64 (n:Int)))),(1,.e (.v (.int .u64 (d:Int)))),(2,.e (iP p))],[(7,.cells 39 ar),(6,.cells 39 ar)]⟩
def SC(n d p:Nat)(y:Nat):PS:=⟨130,true,[(10,.e (iP (0-(y:Int)))),(9,.e (.v (.int .u64 (lI n d y:Int)))),(8,.e (ic (ia (jW n d y)))),(7,.box 7 0),(6,.box 6 0),(1,.e (.v (.int .u64 (d:Int)))),(2,.e (iP p))],[(7,.cells 39 ar),(6,.cells 39 ar)]⟩
def SD(n d p K:Nat)(y:Nat):PS:=⟨130,false,[(15,.own 15),(16,.e (iP ((32*y:Nat):Int))),(14,.e (bP ((lI n d K:Int)==0))),(13,.e (iP (lK n d p K:Int))),(10,.e (iP (0-(K:Int)))),(8,.e (ic (ia (jW n d K)))),(7,.box 7 0),(6,.box 6 0),(2,.e (iP p))],[(15,.row false 150 y 1 (jl (iT (j9 n d p K) y))),(7,.cells 39 ar),(6,.cells 39 ar)]⟩
def SE(n d p K y:Nat)(k:Nat):PS:=⟨130,false,[(18,.e (iP k)),(17,.e (.v (.int .u32 (((iI (j9 n d p K) y)%2^k:Nat):Int)))),(15,.own 15),(16,.e (iP ((32*y:Nat):Int))),(14,.e (bP ((lI n d K:Int)==0))),(13,.e (iP (lK n d p K:Int))),(10,.e (iP (0-(K:Int)))),(8,.e (ic (ia (jW n d K)))),(7,.box 7 0),(6,.box 6 0),(2,.e (iP p))],[(15,.row false 150 y 1 (jl (iT (j9 n d p K) y))),(7,.cells 39 ar),(6,.cells 39 ar)]⟩
def SG(n d p K y:Nat)(k:Nat):PS:=⟨130,false,[(18,.e (iP k)),(17,.e (.v (.int .u32 (((iI (j9 n d p K) y)%2^k:Nat):Int)))),(15,.own 15),(16,.e (iP ((32*y:Nat):Int))),(14,.e (bP ((lI n d K:Int)==0))),(13,.e (iP (lK n d p K:Int))),(10,.e (iP (0-(K:Int)))),(8,.e (ic (ia (jW n d K)))),(7,.box 7 0),(6,.box 6 0),(2,.e (iP p))],[(15,.row false 150 y 1 (jl (iT (j9 n d p K) y))),(7,.cells 39 ar),(6,.cells 39 ar)]⟩
def SH(n d p K:Nat)(x:Nat):PS:=⟨130,true,[(19,.e (iP x)),(15,.e (ic (ia (j9 n d p K)))),(14,.e (bP (px (lI n d K) (jW n d K) x))),(13,.e (iP (lK n d p K:Int))),(10,.e (iP (0-(K:Int)))),(8,.e (ic (ia (jW n d K)))),(7,.box 7 0),(6,.box 6 0)],[(7,.cells 39 ar),(6,.cells 39 ar)]⟩
def Yo{T n n':Nat}{L L':List Nat}(hn:n=0+L.length)(tu:n'=L.length)(h:L'=L):Bx.le (.row false T n 1 λi_ j_=>if i_<0 then(λi_ j_=>([]:List E).getD (i_*1+j_) (.v (.bool false))) i_ j_ else(E.kH (ic L)) (i_-0) j_) (.row false T n' 1 (jl L')):=by
 subst h;refine .row aE λi j hi hj=>?_
 simp only[bO,bJ,dM];exact⟨.iM rfl,rfl⟩
def aaJ{L:List Nat}{n:Nat}(hn:n=0+L.length):E.le (.sl false n 1 λi_ j_=>if i_<0 then(λi_ j_=>([]:List E).getD (i_*1+j_) (.v (.bool false))) i_ j_ else(E.kH (ic L)) (i_-0) j_) (ic L):=by
 rw[<-BH (aE:n=L.length)];refine .sl λi j hi hj=>?_
 simp only[bO,bJ,dM];exact⟨.iM rfl,rfl⟩
def aiT{f:Nat->Nat->E}{v:Nat}(h:v=0):E.le (.sl true 0 1 f) (ic (ia v)):=by
 subst h;rw[nT];intro bs br w v k;cases k with
 |sl _ _ _ _ A c g h1 h2 h3 h4 h5 h6 h7=>exact .sl false 0 1 _ A c g h1 h2 h3 (λi j hi=>absurd hi (bO i)) (λi j hi=>absurd hi (bO i)) (λi j hi=>absurd hi (bO i)) (λi j hi=>absurd hi (bO i))
def ahJ{L M:List Nat}{n p z:Nat}(hn:n=L.length)(hp:p<L.length)(hs:L.set p z=M):E.le (.sl false n 1 λi' j'=>if i'=p/\0<=j'/\j'<0+1 then[.v (.int .u32 (z:Int))].getD (j'-0) .any else(jl L) i' j') (ic M):=by
 subst hs;have e:n=(L.set p z).length:=by rw[cV];omega
 rw[<-BH e];refine .sl λi j hi hj=>?_
 obtain rfl:j=0:= aE ;by_cases h:i=p
 .subst h;simp only[true_and,bC,aqc,bQ,cD];exact⟨.iM (by show _=E.v (.int .u32 (((L.set i z).getD i 0:Nat):Int));rw[bD (l:=L.set i z),List.getElem?_set_self hp];rfl),rfl⟩
 .simp only[h,false_and,bJ];exact⟨.iM (by show E.v (.int .u32 (L.getD i 0:Int))=E.v (.int .u32 (((L.set p z).getD i 0:Nat):Int));rw[bD,bD,ado (λq=>h q.symm)]),rfl⟩
def ahG{N l n:Nat}{L:List Nat}(hn:n=l+1)(h1:iT N (l+1)=L)(h2:iI N l=1):E.le (.sl false n 1 λi_ j_=>if i_<l then(jl (iT N l)) i_ j_ else(E.kH (ic (ia 1))) (i_-l) j_) (ic L):=by
 subst hn h1;rw[<-BH (nf N (l+1)).symm];refine .sl λi j hi hj=>?_
 obtain rfl:j=0:= aE ;by_cases h:i<l
 .simp only[h,bQ];exact⟨.iM (by unfold jl;rw[tU h,tU aE]),rfl⟩
 .obtain rfl:i=l:= aE ;simp only[fp,bJ,dc];exact⟨.iM (by show E.v (.int .u32 (((ia 1).getD 0 0:Nat):Int))=_;unfold jl;rw[tU aE,h2,VI];rfl),rfl⟩
def aiO(v:Nat)(hs:(ia v).length<=1000000)(N:Nat)(hN:N<(ia v).length)(iQ:∀ k,k<N->iI v k=4294967295)(hd:iI v N≠4294967295):gZ 351 [ic (ia v)] (ic (ia (v+1))):=by
 have iL:=qb v N;exact an call351 func351 (ae [.bo,.a (aE:(0+(ia v).length)*4<=140737488355328),.s (Sp.jv (WM v N) 0 N aE (λx hx jU=>by
    have vV:=iQ x aE;exact iG (ae [tT 11 ((x:Int)<((ia v).length:Int)) aE,iX (x:Int) ((ia v).length) aE,.a (aE:x<(ia v).length),.o 17 (.int (by rw[Gk aE]):aj (.v (.int .u32 (((kY 0 v x (ia v).length).getD x 0:Nat):Int))) (.v (.int .u32 (iI v x:Int)))),.o 18 (.int (by rw[vV,BY];rfl):aj (.v (.int .u32 (IntKind.u32.wrap ((iI v x:Int)+1)))) (.v (.int .u32 (iI 0 x:Int)))),iX (x:Int) ((ia v).length) aE,.a (aE:x<(ia v).length),iX (x:Int) ((ia v).length) aE,.a (aE:x<(ia v).length),.o 23 (.e (.iM aK):aj ((λi' j'=>if i'=x/\0<=j'/\j'<0+1 then[.v (.int .u32 (iI 0 x:Int))].getD (j'-0) .any else(jl (kY 0 v x (ia v).length)) i' j') x 0) (.v (.int .u32 (iI 0 x:Int)))),ai 24 ((iI 0 x:Int) != 0) (CE (BY x)),iz ((x:Int)+1) aE]<|.e (af [.b 5 (EF rfl bg JU:Bx.le (.row false 150 ((ia v).length) 1 (λi' j'=>if i'=x/\0<=j'/\j'<0+1 then[.v (.int .u32 (iI 0 x:Int))].getD (j'-0) .any else(jl (kY 0 v x (ia v).length)) i' j')) (.row false 150 ((ia v).length) 1 (jl (kY 0 v (x+1) (ia v).length))))])) aI)
  (λhx=>by
    exact iG (af [tT 11 ((N:Int)<((ia v).length:Int)) aE,iX (N:Int) ((ia v).length) aE,.a (aE:N<(ia v).length),.o 17 (.int (by rw[Gk aE]):aj (.v (.int .u32 (((kY 0 v N (ia v).length).getD N 0:Nat):Int))) (.v (.int .u32 (iI v N:Int)))),.o 18 (.int bc:aj (.v (.int .u32 (IntKind.u32.wrap ((iI v N:Int)+1)))) (.v (.int .u32 ((iI v N+1:Nat):Int)))),iX (N:Int) ((ia v).length) aE,.a (aE:N<(ia v).length),iX (N:Int) ((ia v).length) aE,.a (aE:N<(ia v).length),.o 23 (.e (.iM aK):aj ((λi' j'=>if i'=N/\0<=j'/\j'<0+1 then[.v (.int .u32 ((iI v N+1:Nat):Int))].getD (j'-0) .any else(jl (kY 0 v N (ia v).length)) i' j') N 0) (.v (.int .u32 ((iI v N+1:Nat):Int)))),ah 24 (((iI v N+1:Nat):Int) != 0) (Gt aE)]) aI) aM:ju 3 f351 (WM v N 0) .ret ⟨29,false,[(2,.own 5)],[(5,.row false 150 ((ia v).length) 1 (λi' j'=>if i'=N/\0<=j'/\j'<0+1 then[.v (.int .u32 ((iI v N+1:Nat):Int))].getD (j'-0) .any else(jl (kY 0 v N (ia v).length)) i' j'))]⟩) (af [.b 5 (Yo rfl rfl (by rw[Gl,LX]):Bx.le (.row false 150 (0+(ia v).length) 1 (λi_ j_=>if i_<0 then(λi_ j_=>([]:List E).getD (i_*1+j_) (.v (.bool false))) i_ j_ else(E.kH (ic (ia v))) (i_-0) j_)) (.row false 150 ((ia v).length) 1 (jl (kY 0 v 0 (ia v).length))))])]<|rR (ic (ia (v+1))) (ahJ (by rw[uY]) (by rw[uY];exact hN) (aiR hN iQ hd):E.le (.sl false ((ia v).length) 1 (λi' j'=>if i'=N/\0<=j'/\j'<0+1 then[.v (.int .u32 ((iI v N+1:Nat):Int))].getD (j'-0) .any else(jl (kY 0 v N (ia v).length)) i' j')) (ic (ia (v+1))))) 
def aiM(v:Nat)(hs:(ia v).length<=1000000)(iQ:∀ k,k<(ia v).length->iI v k=4294967295):gZ 351 [ic (ia v)] (ic (ia (v+1))):=by
 obtain⟨h1,h2,h3⟩:=aiP iQ;have A0:(kY 0 v ((ia v).length) (ia v).length)=iT (v+1) (ia v).length:=by rw[JT (bC _),h1]
 have zK:(ia 1).length=1:=by rw[VI];rfl
 exact an call351 func351 (ae [.bo,.a (aE:(0+(ia v).length)*4<=140737488355328),.s (Sp.jv (WN v) 0 ((ia v).length) aE (λx hx jU=>by
    have vV:=iQ x aE;exact iG (ae [tT 11 ((x:Int)<((ia v).length:Int)) aE,iX (x:Int) ((ia v).length) aE,.a (aE:x<(ia v).length),.o 17 (.int (by rw[Gk aE]):aj (.v (.int .u32 (((kY 0 v x (ia v).length).getD x 0:Nat):Int))) (.v (.int .u32 (iI v x:Int)))),.o 18 (.int (by rw[vV,BY];rfl):aj (.v (.int .u32 (IntKind.u32.wrap ((iI v x:Int)+1)))) (.v (.int .u32 (iI 0 x:Int)))),iX (x:Int) ((ia v).length) aE,.a (aE:x<(ia v).length),iX (x:Int) ((ia v).length) aE,.a (aE:x<(ia v).length),.o 23 (.e (.iM aK):aj ((λi' j'=>if i'=x/\0<=j'/\j'<0+1 then[.v (.int .u32 (iI 0 x:Int))].getD (j'-0) .any else(jl (kY 0 v x (ia v).length)) i' j') x 0) (.v (.int .u32 (iI 0 x:Int)))),ai 24 ((iI 0 x:Int) != 0) (CE (BY x)),iz ((x:Int)+1) aE]<|.e (af [.b 5 (EF rfl bg JU:Bx.le (.row false 150 ((ia v).length) 1 (λi' j'=>if i'=x/\0<=j'/\j'<0+1 then[.v (.int .u32 (iI 0 x:Int))].getD (j'-0) .any else(jl (kY 0 v x (ia v).length)) i' j')) (.row false 150 ((ia v).length) 1 (jl (kY 0 v (x+1) (ia v).length))))])) aI)
  (λhx=>by
    exact iG (ae [tF 11 (((ia v).length:Int)<((ia v).length:Int)) aE]<|.e (af [.b 5 (.iM (by rw[A0]):Bx.le (.row false 150 ((ia v).length) 1 (jl (kY 0 v ((ia v).length) (ia v).length))) (.row false 150 ((ia v).length) 1 (jl (iT (v+1) (ia v).length))))])) aI) aM:ju 3 f351 (WN v 0) (.exit 0) ⟨29,false,[(3,.own 5)],[(5,.row false 150 ((ia v).length) 1 (jl (iT (v+1) (ia v).length)))]⟩) (af [.b 5 (Yo rfl rfl (by rw[Gl,LX]):Bx.le (.row false 150 (0+(ia v).length) 1 (λi_ j_=>if i_<0 then(λi_ j_=>([]:List E).getD (i_*1+j_) (.v (.bool false))) i_ j_ else(E.kH (ic (ia v))) (i_-0) j_)) (.row false 150 ((ia v).length) 1 (jl (kY 0 v 0 (ia v).length))))]),.o 27 (.e sE:aj (.sl false 1 1 λi_ j_=>[.v (.int .u32 1)].getD (i_*1+j_) (.v (.bool false))) (ic (ia 1))),.a (aE:((ia v).length+(ia 1).length)*4<=140737488355328)]<|rR (ic (ia (v+1))) (ahG aE h3 h2:E.le (.sl false ((ia v).length+(ia 1).length) 1 (λi_ j_=>if i_<(ia v).length then(jl (iT (v+1) (ia v).length)) i_ j_ else(E.kH (ic (ia 1))) (i_-(ia v).length) j_)) (ic (ia (v+1))))) 
def aiN(v:Nat)(hs:(ia v).length<=1000000):gZ 351 [ic (ia v)] (ic (ia (v+1))):=by
 by_cases h:∃ k,k<(ia v).length/\decide (iI v k≠4294967295)=true
 .obtain ⟨N,h1,h2,h3⟩:=rj h;exact aiO v hs N h1 (λk hk=>ca λq=>by have:=fu (h3 k hk);exact this q) (cR h2)
 .exact aiM v hs λk hk=>ca λq=>h ⟨k,hk,bA q⟩
def aiF(d:Dy)(h:d.m≠0):(Dy.mk (!d.neg) d.m d.e)=iU d:=by unfold iU;simp[h]
def aiG(d:Dy)(hd:d.mF)(h:d.m=0):d=iU d:=by
 have:=hd;obtain⟨s,m,e⟩:=d;simp only at h;subst h;have hz:=Ke hd (Ek hd) (by rw[pz,qX];simp);exact hz
def aiI(d:Dy)(h:d.m≠0):gZ 296 [ie d] (ie (iU d)):=
 ak call296 func296 (ae [tT 6 (0<((ia d.m).length:Int)) (by have:¬(ia d.m).length=0:=λq=>h (rk.1 q);omega)]<|rQ (ie (Dy.mk (!d.neg) d.m d.e)) (ie (iU d)) (by rw[aiF d h])) 
def aiH(d:Dy)(hd:d.mF)(h:d.m=0):gZ 296 [ie d] (ie (iU d)):=
 ak call296 func296 (ae [tF 6 (0<((ia d.m).length:Int)) (by have:=rk.2 h;omega)]<|rQ (ie d) (ie (iU d)) (by rw[<-aiG d hd h])) 
def Wu(d:Dy)(hd:d.mF):gZ 296 [ie d] (ie (iU d)):=by
 by_cases h:d.m=0
 .exact aiH d hd h
 .exact aiI d h
def adV{n x:Nat}(hn:n<18446744073709551616)(hx:x<64):bits .and .u64 ((n:Int)/2^(63-(x:Int)).toNat) 1=(jr n 64 x:Int):=by
 have e:(63-(x:Int)).toNat=64-1-x:= aE ;have e2:(n:Int)/2^(64-1-x)=((n/2^(64-1-x):Nat):Int):= aK ;rw[e,e2,show(1:Int)=((1:Nat):Int)from rfl,P8 _ _ (cB (bV _ _) hn) aG,gW];rfl
def Sy{n d y:Nat}(hn:n<=1073741824):iq (jW n d y)<=31+y/\iq (2*jW n d y)<=32+y:=by
 have h:=bV (n*2^y) d;constructor
 .refine ln.2 (cB h ?_);rw[bE];exact c9 aE (bF aG)
 .have h3:2*jW n d y<=2*n*2^y:=by unfold jW;rw[bL];omega
  refine ln.2 (cB h3 ?_);rw[bE];exact c9 aE (bF aG)
def Fq{n d y:Nat}(hn:n<=1073741824)(hy:y<=1000):(ia (jW n d y)).length<=100:=by
 have h1:=(Sy (d:=d) (y:=y) hn).1;have h2:=Gc (w:=jW n d y) (y:=100);omega
def adW{n d y:Nat}(hn:n<=1073741824)(hy:y<=999):(ia (2*jW n d y)).length<=100:=by
 have h1:=(Sy (d:=d) (y:=y) hn).2;have h2:=Gc (w:=2*jW n d y) (y:=100);omega
def YY{v:Nat}(h:v<18446744073709551616):(ia v).length<=2:=rE h
def adZ{T p y:Nat}(hT:iq T=p)(h:p-32*y<32):iI T y<2^(p-32*y):=by
 have h1:=pK T;rw[hT]at h1;unfold iI;refine cB (dO _ _) ?_;rw[cA (pw y),oE,<-bE];exact bW h1 (bN aG aE)
def ad0{T p Y:Nat}(hT:iq T=p)(hp:1<=p)(hY:Y=(p+31)/32):iT T Y=ia T:=by
 apply Ge;have h1:∀ y,y<(ia T).length↔32*y<iq T:=λy=>Gc
 have h2:=h1 Y;have h3:=h1 (Y-1);rw[hT]at h2 h3;omega
def SA{n d p K y k:Nat}(hk:k<32):jW n d K/2^((lK n d p K+32*y)+k)%2=iI (j9 n d p K) y/2^k%2:=by
 rw[R3 hk];unfold j9;rw[cW,<-bE,df]
def ad8(n d p K:Nat)(hn:1<=n)(kg:n<=1073741824)(hd:1<=d)(sM:d<=1073741824)(hp:8<=p)(ij:p<=512)(hK:K<p+31)(iQ:∀ y,y<K->iq (jW n d y)<p)(hb:p<=iq (jW n d K))(Y:Nat)(hY:Y=(p+31)/32):gZ 295 [.v (.int .u64 (n:Int)),.v (.int .u64 (d:Int)),iP p] (.iC [ie (canon false (j9 n d p K) (oe n d p K)),ie (if(px (lI n d K) (jW n d K) (lK n d p K))=true then canon false (j9 n d p K) (oe n d p K)else canon false ((j9 n d p K)+1) (oe n d p K))]):=by
 have h0:=Su (a:=n) (b:=d) (n:=64) aE;have h1:k0 n d 64 64=jW n d 0/\iY n d 64 64=lI n d 0:=by
  obtain⟨a,b⟩:=So n d 64;rw[a,b];unfold jW lI;rw[cw,cz];exact⟨rfl,rfl⟩
 have rU:=IJ hb;have hTY:=ad0 rU aE hY;have hLo:=Mb hd kg hb aE;have hlK:=Fq (d:=d) (y:=K) kg aE;have hT0:(j9 n d p K)≠0:=λq=>by rw[q,rq]at rU;omega
 have B4:(ia (j9 n d p K)).length<=100:=by
  have:=Gc (w:=(j9 n d p K)) (y:=100);omega
 have aph:(ia ((j9 n d p K)+1)).length<=101:=by
  have h2:=wm B4;refine rE ?_;rw[bH];omega
 have hL4:lK n d p K=iq (jW n d K)-p:=rfl;exact ak call295 func295 (ae [.s (Sp.jv (SB n d p) 0 64 aE (λx hx jU=>by
    have hr:(iY n d 64 x)<d:=bM _ aE;have rV:=IF n 64 x;have vZ:(k0 n d 64 x)<=n:=bG (bV _ _) (bV _ _);have yo:=YY (show(k0 n d 64 x)<18446744073709551616 by omega);have nR:=YY (aE:2*(k0 n d 64 x)<18446744073709551616);exact iG (ae [tT 23 (0<=(63-(x:Int))) aE,pP (2*(iY n d 64 x:Int)) aE,.a (aE:0<=((63-(x:Int)):Int)/\((63-(x:Int)):Int)<=((64:Nat):Int)),.o 31 (.int (adV aE aE):aj (.v (.int .u64 (bits .and .u64 ((n:Int)/2^((63-(x:Int))).toNat) 1))) (.v (.int .u64 (jr n 64 x:Int)))),
     pP (((2*(iY n d 64 x):Nat):Int)+(jr n 64 x:Int)) aE,.a (aE:0<((d:Int):Int)),pP (((2*(iY n d 64 x))+(jr n 64 x):Nat):Int) aE,.a (aE:0<((d:Int):Int)),.bo,.bo,.a (aE:(0+(ia (k0 n d 64 x)).length)*4<=140737488355328),.o 41 (.e (aaJ rfl):aj (.sl false (0+(ia (k0 n d 64 x)).length) 1 (λi_ j_=>if i_<0 then(λi_ j_=>([]:List E).getD (i_*1+j_) (.v (.bool false))) i_ j_ else(E.kH (ic (ia (k0 n d 64 x)))) (i_-0) j_)) (ic (ia (k0 n d 64 x)))),ag [ic (ia (k0 n d 64 x)),.v (.int .u64 0)] (YL _ aE)]<|.w (((2*(iY n d 64 x))+(jr n 64 x))<d)
     (λhq=>by
      have hm:((2*(iY n d 64 x))+(jr n 64 x))%d=((2*(iY n d 64 x))+(jr n 64 x)):=by rw[bU hq]
      have hqd:((2*(iY n d 64 x))+(jr n 64 x))/d=0:=cF hq;have hs:=Sr (a:=n) (b:=d) (n:=64) (x:=x) aE aE hq;exact ae [ai 44 (((((2*(iY n d 64 x))+(jr n 64 x))/d:Nat):Int)==1) (bj aE),iz ((63-(x:Int))-1) aE]<|.e (af [.o 11 (aq ((63-(x:Int))-1) (63-((x+1:Nat):Int)) aE),.o 9 (.int (by rw[hs.1,hm]):aj (.v (.int .u64 ((((2*(iY n d 64 x))+(jr n 64 x))%d:Nat):Int))) (.v (.int .u64 (iY n d 64 (x+1):Int)))),.o 8 (.e (.iM (by rw[hs.2])):aj (ic (ia (2*(k0 n d 64 x)))) (ic (ia (k0 n d 64 (x+1)))))]))
     (λhq=>by
      have hm:((2*(iY n d 64 x))+(jr n 64 x))%d=((2*(iY n d 64 x))+(jr n 64 x))-d:=by rw[Nat.mod_eq_sub_mod aE,bU aE]
      have hqd:((2*(iY n d 64 x))+(jr n 64 x))/d=1:=by rw[Nat.div_eq_sub_div aE aE,cF aE]
      have hs:=Ss (a:=n) (b:=d) (n:=64) (x:=x) aE aE hq;exact ae [ah 44 (((((2*(iY n d 64 x))+(jr n 64 x))/d:Nat):Int)==1) (bk aE),ag [ic (ia (2*(k0 n d 64 x)))] (YK _ aE aE),
       iz ((63-(x:Int))-1) aE]<|.e (af [.o 11 (aq ((63-(x:Int))-1) (63-((x+1:Nat):Int)) aE),.o 9 (.int (by rw[hs.1,hm]):aj (.v (.int .u64 ((((2*(iY n d 64 x))+(jr n 64 x))%d:Nat):Int))) (.v (.int .u64 (iY n d 64 (x+1):Int)))),.o 8 (.e (.iM (by rw[hs.2])):aj (ic (ia ((2*(k0 n d 64 x))+1))) (ic (ia (k0 n d 64 (x+1)))))]))) aI)
  (λhx=>by
    exact iG (af [tF 23 (0<=(63-((64:Nat):Int))) aE]) aI) aM:ju 5 f295 (SB n d p 0) (.exit 0) ⟨130,true,[(10,.e (iP 0)),(9,.e (.v (.int .u64 (iY n d 64 64:Int)))),(8,.e (ic (ia (k0 n d 64 64)))),(7,.box 7 0),(6,.box 6 0),(1,.e (.v (.int .u64 (d:Int)))),(2,.e (iP p))],[(7,.cells 39 ar),(6,.cells 39 ar)]⟩) (af [.o 11 (aq 63 (63-((0:Nat):Int)) aE),.o 9 (.int (by rw[h0.1];rfl):aj (.v (.int .u64 0)) (.v (.int .u64 (iY n d 64 0:Int)))),.o 8 (.e (aiT h0.2):aj (.sl true 0 1 λi_ j_=>[].getD (i_*1+j_) (.v (.bool false))) (ic (ia (k0 n d 64 0))))]),.s (Sp.jv (SC n d p) 0 K aE (λy hy Nj=>by
    have yo:=Fq (d:=d) (y:=y) kg aE;have nR:=adW (d:=d) (y:=y) kg aE;have hbn:=iQ y aE;have Jq:(lI n d y)<d:=bM _ aE;exact iG (ae [ag [ic (ia (jW n d y))] (Io _ aE),tT 50 ((iq (jW n d y):Int)<p) aE,pP (2*(lI n d y:Int)) aE,ag [ic (ia (jW n d y)),.v (.int .u64 0)] (YL _ aE)]<|.w (2*lI n d y<d)
     (λhq=>by
      have hs:=adX (n:=n) (d:=d) (y:=y) aE hq;exact ae [tF 57 ((d:Int)<=((2*(lI n d y):Nat):Int)) aE,iz ((0-(y:Int))-1) aE]<|.e (af [.o 10 (aq ((0-(y:Int))-1) (0-((y+1:Nat):Int)) aE),.o 9 (.int (by rw[hs.1]):aj (.v (.int .u64 ((2*(lI n d y):Nat):Int))) (.v (.int .u64 (lI n d (y+1):Int)))),.o 8 (.e (.iM (by rw[hs.2])):aj (ic (ia (2*(jW n d y)))) (ic (ia (jW n d (y+1)))))]))
     (λhq=>by
      have hs:=adY (n:=n) (d:=d) (y:=y) aE hq;exact ae [tT 57 ((d:Int)<=((2*(lI n d y):Nat):Int)) aE,pP (((2*(lI n d y):Nat):Int)-d) aE,.o 60 (.int aE:aj (.v (.int .u64 (((2*(lI n d y):Nat):Int)-d))) (.v (.int .u64 ((2*lI n d y-d:Nat):Int)))),ag [ic (ia (2*(jW n d y)))] (YK _ aE aE),iz ((0-(y:Int))-1) aE]<|.e (af [.o 10 (aq ((0-(y:Int))-1) (0-((y+1:Nat):Int)) aE),.o 9 (.int (by rw[hs.1]):aj (.v (.int .u64 ((2*lI n d y-d:Nat):Int))) (.v (.int .u64 (lI n d (y+1):Int)))),.o 8 (.e (.iM (by rw[hs.2])):aj (ic (ia ((2*(jW n d y))+1))) (ic (ia (jW n d (y+1)))))]))) aI)
  (λhy=>by
    have yo:=Fq (d:=d) (y:=K) kg aE;exact iG (af [ag [ic (ia (jW n d K))] (Io _ aE),tF 50 ((iq (jW n d K):Int)<p) aE]) aI) aM:ju 13 f295 (SC n d p 0) (.exit 2) ⟨130,false,[(10,.e (iP (0-(K:Int)))),(9,.e (.v (.int .u64 (lI n d K:Int)))),(8,.e (ic (ia (jW n d K)))),(7,.box 7 0),(6,.box 6 0),(2,.e (iP p))],[(7,.cells 39 ar),(6,.cells 39 ar)]⟩) (af [.o 10 (aq 0 (0-((0:Nat):Int)) aE),.o 9 (.int (by rw[h1.2]):aj (.v (.int .u64 (iY n d 64 64:Int))) (.v (.int .u64 (lI n d 0:Int)))),.o 8 (.e (.iM (by rw[h1.1])):aj (ic (ia (k0 n d 64 64))) (ic (ia (jW n d 0))))]),ag [ic (ia (jW n d K))] (Io _ aE),iz ((iq (jW n d K):Int)-p) aE,.o 68 (aq ((iq (jW n d K):Int)-p) (lK n d p K:Int) aE),.y 15 15 false 150 1 (jl (iT (j9 n d p K) 0)),.s (Sp.jv (SD n d p K) 0 Y aE (λy hy Nj=>by
    have hD:=qb (j9 n d p K) y;have yo:=Fq (d:=d) (y:=K) kg aE;exact iG (ae [tT 73 (((32*y:Nat):Int)<p) aE]<|.w (32<=p-32*y)
     (λhf=>by
      have hz:(((iI (j9 n d p K) y)%2^32:Nat):Int)=(iI (j9 n d p K) y:Int):=by rw[bU hD]
      exact ae [.s (Sp.jv (SE n d p K y) 0 32 aE (λk hk DZ=>by
    exact iG (af [tT 77 ((k:Int)<32) aE,iz (((32*y:Nat):Int)+k) aE,tT 83 ((((32*y)+k:Nat):Int)<p) aE,
     iz ((lK n d p K:Int)+((32*y:Nat):Int)) aE,iz ((((lK n d p K)+(32*y):Nat):Int)+k) aE,.c (Im (jW n d K) (((lK n d p K)+(32*y))+k) aE aE),.o 94 (aq (((jW n d K)/2^(((lK n d p K)+(32*y))+k)%2:Nat):Int) (((iI (j9 n d p K) y)/2^k%2:Nat):Int) (by rw[SA aE])),.o 95 (.int bc:aj (.v (.int .u32 (IntKind.u32.wrap (((iI (j9 n d p K) y)/2^k%2:Nat):Int)))) (.v (.int .u32 (((iI (j9 n d p K) y)/2^k%2:Nat):Int)))),.a (aE:0<=((k:Int):Int)/\((k:Int):Int)<=((32:Nat):Int)),.o 97 (.int (PM aE aE):aj (.v (.int .u32 (IntKind.u32.wrap ((((iI (j9 n d p K) y)/2^k%2:Nat):Int)*2^k)))) (.v (.int .u32 ((((iI (j9 n d p K) y)/2^k%2)*2^k:Nat):Int)))),.o 98 (.int (OS aE hD):aj (.v (.int .u32 (bits .or .u32 (((iI (j9 n d p K) y)%2^k:Nat):Int) ((((iI (j9 n d p K) y)/2^k%2)*2^k:Nat):Int)))) (.v (.int .u32 (((iI (j9 n d p K) y)%2^(k+1):Nat):Int)))),
     iz ((k:Int)+1) aE]) aI)
  (λhk=>by
    exact iG (af [ai 77 (decide ((32:Int)<32)) aG]) aI) aM:ju 28 f295 (SE n d p K y 0) (.exit 6) ⟨130,false,[(83,.e (.v (.tuple #[]))),(82,.e (.v (.tuple #[]))),(81,.e (.v (.tuple #[]))),(80,.e (.v (.tuple #[]))),(79,.e (.v (.tuple #[]))),(17,.e (.v (.int .u32 (((iI (j9 n d p K) y)%2^32:Nat):Int)))),(15,.own 15),(16,.e (iP ((32*y:Nat):Int))),(14,.e (bP ((lI n d K:Int)==0))),(13,.e (iP (lK n d p K:Int))),(10,.e (iP (0-(K:Int)))),(8,.e (ic (ia (jW n d K)))),(7,.box 7 0),(6,.box 6 0),(2,.e (iP p))],[(15,.row false 150 y 1 (jl (iT (j9 n d p K) y))),(7,.cells 39 ar),(6,.cells 39 ar)]⟩) (af [.o 17 (.int (by rw[cw,dj];rfl):aj (.v (.int .u32 0)) (.v (.int .u32 (((iI (j9 n d p K) y)%2^0:Nat):Int))))]),.a (aE:(y+1)*4<=140737488355328),iz (((32*y:Nat):Int)+32) aE]<|.e (af [.o 16 (aq (((32*y)+32:Nat):Int) ((32*(y+1):Nat):Int) aT),.b 15 (Bl rfl hz:Bx.le (.row false 150 (y+1) 1 (λi_ j_=>if i_<y then(jl (iT (j9 n d p K) y)) i_ j_ else(E.kH (.sl false 1 1 λi_ j_=>[.v (.int .u32 (((iI (j9 n d p K) y)%2^32:Nat):Int))].getD (i_*1+j_) (.v (.bool false)))) (i_-y) j_)) (.row false 150 (y+1) 1 (jl (iT (j9 n d p K) (y+1)))))]))
     (λhf=>by
      have hz:(((iI (j9 n d p K) y)%2^(p-32*y):Nat):Int)=(iI (j9 n d p K) y:Int):=by rw[bU (adZ rU aE)]
      exact ae [.s (Sp.jv (SG n d p K y) 0 (p-32*y) aE (λk hk DZ=>by
    exact iG (af [tT 77 ((k:Int)<32) aE,iz (((32*y:Nat):Int)+k) aE,tT 83 ((((32*y)+k:Nat):Int)<p) aE,
     iz ((lK n d p K:Int)+((32*y:Nat):Int)) aE,iz ((((lK n d p K)+(32*y):Nat):Int)+k) aE,.c (Im (jW n d K) (((lK n d p K)+(32*y))+k) aE aE),.o 94 (aq (((jW n d K)/2^(((lK n d p K)+(32*y))+k)%2:Nat):Int) (((iI (j9 n d p K) y)/2^k%2:Nat):Int) (by rw[SA aE])),.o 95 (.int bc:aj (.v (.int .u32 (IntKind.u32.wrap (((iI (j9 n d p K) y)/2^k%2:Nat):Int)))) (.v (.int .u32 (((iI (j9 n d p K) y)/2^k%2:Nat):Int)))),.a (aE:0<=((k:Int):Int)/\((k:Int):Int)<=((32:Nat):Int)),.o 97 (.int (PM aE aE):aj (.v (.int .u32 (IntKind.u32.wrap ((((iI (j9 n d p K) y)/2^k%2:Nat):Int)*2^k)))) (.v (.int .u32 ((((iI (j9 n d p K) y)/2^k%2)*2^k:Nat):Int)))),.o 98 (.int (OS aE hD):aj (.v (.int .u32 (bits .or .u32 (((iI (j9 n d p K) y)%2^k:Nat):Int) ((((iI (j9 n d p K) y)/2^k%2)*2^k:Nat):Int)))) (.v (.int .u32 (((iI (j9 n d p K) y)%2^(k+1):Nat):Int)))),
     iz ((k:Int)+1) aE]) aI)
  (λhk=>by
    exact iG (af [tT 77 (((p-32*y:Nat):Int)<32) aE,iz (((32*y:Nat):Int)+((p-32*y:Nat):Int)) aE,tF 83 ((((32*y)+(p-32*y):Nat):Int)<p) aE]) aI) aM:ju 28 f295 (SG n d p K y 0) (.exit 6) ⟨130,false,[(83,.e (bP false)),(82,.e (iP p)),(81,.e (iP (((32*y)+(p-32*y):Nat):Int))),(80,.e (iP ((p-32*y:Nat):Int))),(79,.e (iP ((32*y:Nat):Int))),(17,.e (.v (.int .u32 (((iI (j9 n d p K) y)%2^(p-32*y):Nat):Int)))),(15,.own 15),(16,.e (iP ((32*y:Nat):Int))),(14,.e (bP ((lI n d K:Int)==0))),(13,.e (iP (lK n d p K:Int))),(10,.e (iP (0-(K:Int)))),(8,.e (ic (ia (jW n d K)))),(7,.box 7 0),(6,.box 6 0),(2,.e (iP p))],[(15,.row false 150 y 1 (jl (iT (j9 n d p K) y))),(7,.cells 39 ar),(6,.cells 39 ar)]⟩) (af [.o 17 (.int (by rw[cw,dj];rfl):aj (.v (.int .u32 0)) (.v (.int .u32 (((iI (j9 n d p K) y)%2^0:Nat):Int))))]),.a (aE:(y+1)*4<=140737488355328),iz (((32*y:Nat):Int)+32) aE]<|.e (af [.o 16 (aq (((32*y)+32:Nat):Int) ((32*(y+1):Nat):Int) aT),.b 15 (Bl rfl hz:Bx.le (.row false 150 (y+1) 1 (λi_ j_=>if i_<y then(jl (iT (j9 n d p K) y)) i_ j_ else(E.kH (.sl false 1 1 λi_ j_=>[.v (.int .u32 (((iI (j9 n d p K) y)%2^(p-32*y):Nat):Int))].getD (i_*1+j_) (.v (.bool false)))) (i_-y) j_)) (.row false 150 (y+1) 1 (jl (iT (j9 n d p K) (y+1)))))]))) aI)
  (λhy=>by
    exact iG (ae [tF 73 (((32*Y:Nat):Int)<p) aE,.z 15]<|.e (af [.o 15 (.e (.iM (by rw[BH (nf _ _).symm,hTY])):aj (.sl false Y 1 (jl (iT (j9 n d p K) Y))) (ic (ia (j9 n d p K))))])) aI) aM:ju 24 f295 (SD n d p K 0) (.exit 4) ⟨130,true,[(15,.e (ic (ia (j9 n d p K)))),(14,.e (bP ((lI n d K:Int)==0))),(13,.e (iP (lK n d p K:Int))),(10,.e (iP (0-(K:Int)))),(8,.e (ic (ia (jW n d K)))),(7,.box 7 0),(6,.box 6 0)],[(7,.cells 39 ar),(6,.cells 39 ar)]⟩) (af [.o 16 (aq 0 ((32*0:Nat):Int) aT)]),.s (Sp.jv (SH n d p K) 0 (lK n d p K) aE (λx hx jU=>by
    have yo:=Fq (d:=d) (y:=K) kg aE;exact iG (ae [tT 105 ((x:Int)<(lK n d p K:Int)) aE]<|.w ((px (lI n d K) (jW n d K) x)=true)
     (λhq=>ae [ah 108 (px (lI n d K) (jW n d K) x) hq,.c (Im (jW n d K) x aE aE)]<|.w ((jW n d K)/2^x%2=0)
      (λI9=>ae [ah 113 ((((jW n d K)/2^x%2:Nat):Int)==0) (bk aE),iz ((x:Int)+1) aE]<|.e (af [.o 14 (.bool (adT hq I9).symm:aj (bP true) (bP (px (lI n d K) (jW n d K) (x+1))))]))
      (λI9=>ae [ai 113 ((((jW n d K)/2^x%2:Nat):Int)==0) (bj aE),iz ((x:Int)+1) aE]<|.e (af [.o 14 (.bool (adR I9).symm:aj (bP false) (bP (px (lI n d K) (jW n d K) (x+1))))])))
     (λhq=>ae [tB 108 (bn hq),iz ((x:Int)+1) aE]<|.e (af [.o 14 (.bool (adS (bn hq)).symm:aj (bP false) (bP (px (lI n d K) (jW n d K) (x+1))))]))) aI)
  (λhx=>by
    exact iG (af [tF 105 ((lK n d p K:Int)<(lK n d p K:Int)) aE]) aI) aM:ju 33 f295 (SH n d p K 0) (.exit 8) ⟨130,true,[(15,.e (ic (ia (j9 n d p K)))),(14,.e (bP (px (lI n d K) (jW n d K) (lK n d p K)))),(13,.e (iP (lK n d p K:Int))),(10,.e (iP (0-(K:Int)))),(7,.box 7 0),(6,.box 6 0)],[(7,.cells 39 ar),(6,.cells 39 ar)]⟩) (af [.o 14 (.bool (adU _ _):aj (bP ((lI n d K:Int)==0)) (bP (px (lI n d K) (jW n d K) 0)))]),
  iz ((0-(K:Int))+(lK n d p K:Int)) aE,ag [bP false,ic (ia (j9 n d p K)),iP ((0-(K:Int))+(lK n d p K:Int))] (VU _ _ aE aE aE aE)]<|.w (px (lI n d K) (jW n d K) (lK n d p K)=true)
  (λk1=>ae [tB 120 k1]<|rQ (.iC [ie (canon false (j9 n d p K) ((0-(K:Int))+(lK n d p K:Int))),ie (canon false (j9 n d p K) ((0-(K:Int))+(lK n d p K:Int)))]) (.iC [ie (canon false (j9 n d p K) (oe n d p K)),ie (if(px (lI n d K) (jW n d K) (lK n d p K))=true then canon false (j9 n d p K) (oe n d p K)else canon false ((j9 n d p K)+1) (oe n d p K))]) (by(rw[bw k1])<;>rfl))
  (λk1=>ae [tB 120 (bn k1),ag [ic (ia (j9 n d p K))] (aiN _ aE),iz ((0-(K:Int))+(lK n d p K:Int)) aE,ag [bP false,ic (ia ((j9 n d p K)+1)),iP ((0-(K:Int))+(lK n d p K:Int))] (VU _ _ aE aE aE aE)]<|rQ (.iC [ie (canon false (j9 n d p K) ((0-(K:Int))+(lK n d p K:Int))),ie (canon false ((j9 n d p K)+1) ((0-(K:Int))+(lK n d p K:Int)))]) (.iC [ie (canon false (j9 n d p K) (oe n d p K)),ie (if(px (lI n d K) (jW n d K) (lK n d p K))=true then canon false (j9 n d p K) (oe n d p K)else canon false ((j9 n d p K)+1) (oe n d p K))]) (by(rw[bu k1])<;>rfl))) 
def SK(n d p K:Nat)(hn:1<=n)(kg:n<=1073741824)(hd:1<=d)(sM:d<=1073741824)(hp:8<=p)(ij:p<=512)(hK:K<p+31)(iQ:∀ y,y<K->iq (jW n d y)<p)(hb:p<=iq (jW n d K)):
 gZ 295 [.v (.int .u64 (n:Int)),.v (.int .u64 (d:Int)),iP p] (.iC [ie (canon false (j9 n d p K) (oe n d p K)),ie (if(px (lI n d K) (jW n d K) (lK n d p K))=true then canon false (j9 n d p K) (oe n d p K)else canon false ((j9 n d p K)+1) (oe n d p K))]):=by
 exact ad8 n d p K hn kg hd sM hp ij hK iQ hb _ rfl
def apd:E.le (.agg au) (ig ⟨jD,jD,false⟩):=
 .agg (.cons (.refl _) (.cons CF (.cons (.refl _) (.cons (.refl _) (.cons CF (.cons (.refl _) (.cons (.refl _) .nil)))))))
def ad5(d:Int)(p:Nat)(hr:ml 0 d=true)(hp:8<=p)(ij:p<=512):gZ 249 [.agg [iP 0,iP d],iP p] (ig (nX 0 d p)):=by
 rw[Yv hp ij hr];exact ak call249 func249 (ae [.c (GU 0 d),ai 9 (!(ml 0 d)) (by rw[hr];rfl),tF 12 ((p:Int)<8) aE,tF 16 (512<(p:Int)) aE,ah 21 ((0:Int)==0) aG]<|rR (ig (Iv.mk jD jD false)) (apd:E.le (.agg au) (ig (Iv.mk jD jD false)))) 
def ad4(n d p K:Nat)(hn:1<=n)(kg:n<=1073741824)(hd:1<=d)(sM:d<=1073741824)(hp:8<=p)(ij:p<=512)(hK:K<p+31)(iQ:∀ y,y<K->iq (jW n d y)<p)(hb:p<=iq (jW n d K))(hr:ml (n:Int) (d:Int)=true):gZ 249 [.agg [iP n,iP d],iP p] (ig (nX (n:Int) (d:Int) p)):=by
 rw[Yu kg hd hp ij hK hb hr];exact ak call249 func249 (af [.c (GU (n:Int) (d:Int)),ai 9 (!(ml (n:Int) (d:Int))) (by rw[hr];rfl),tF 12 ((p:Int)<8) aE,tF 16 (512<(p:Int)) aE,ai 21 ((n:Int)==0) (bj aE),ag [iP n] (PT _ aE aE),.o 26 (.int aE:aj (.v (.int .u64 (Int.natAbs (n:Int):Int))) (.v (.int .u64 (n:Int)))),.o 29 (.int (pZ _ aE):aj (.v (.int .u64 (IntKind.u64.wrap (d:Int)))) (.v (.int .u64 (d:Int)))),ag [.v (.int .u64 (n:Int)),.v (.int .u64 (d:Int)),iP p] (SK _ _ _ K hn kg hd sM hp ij hK iQ hb),tF 36 ((n:Int)<0) aE]) 
def ad2(n d p K:Nat)(hn:1<=n)(kg:n<=1073741824)(hd:1<=d)(sM:d<=1073741824)(hp:8<=p)(ij:p<=512)(hK:K<p+31)(iQ:∀ y,y<K->iq (jW n d y)<p)(hb:p<=iq (jW n d K))(hr:ml (-(n:Int)) (d:Int)=true):gZ 249 [.agg [iP (-(n:Int)),iP d],iP p] (ig (nX (-(n:Int)) (d:Int) p)):=by
 have FH:(canon false (j9 n d p K) (oe n d p K)).mF:=ru _ _ _;have hc2:(if(px (lI n d K) (jW n d K) (lK n d p K))=true then canon false (j9 n d p K) (oe n d p K)else canon false ((j9 n d p K)+1) (oe n d p K)).mF:=by split<;>exact ru _ _ _
 rw[Yt kg hd hp ij hK hb hr];exact ak call249 func249 (af [.c (GU (- (n:Int)) (d:Int)),ai 9 (!(ml (-(n:Int)) (d:Int))) (by rw[hr];rfl),tF 12 ((p:Int)<8) aE,tF 16 (512<(p:Int)) aE,ai 21 ((-(n:Int))==0) (bj aE),ag [iP (-(n:Int))] (PT _ aE aE),.o 26 (.int aE:aj (.v (.int .u64 (Int.natAbs (-(n:Int)):Int))) (.v (.int .u64 (n:Int)))),.o 29 (.int (pZ _ aE):aj (.v (.int .u64 (IntKind.u64.wrap (d:Int)))) (.v (.int .u64 (d:Int)))),ag [.v (.int .u64 (n:Int)),.v (.int .u64 (d:Int)),iP p] (SK _ _ _ K hn kg hd sM hp ij hK iQ hb),tT 36 ((-(n:Int))<0) aE,ag [ie (if(px (lI n d K) (jW n d K) (lK n d p K))=true then canon false (j9 n d p K) (oe n d p K)else canon false ((j9 n d p K)+1) (oe n d p K))] (Wu _ aF),ag [ie (canon false (j9 n d p K) (oe n d p K))] (Wu _ aF)]) 
def ad3(n d:Int)(p:Nat)(hr:ml n d=true)(hp:8<=p)(ij:p<=512):gZ 249 [.agg [iP n,iP d],iP (p:Int)] (ig (nX n d p)):=by
 obtain⟨r1,r2,r3,r4⟩:=CQ hr;obtain⟨d,rfl⟩:=ek (aE:0<=d);by_cases h0:n=0
 .subst h0;exact ad5 d p hr hp ij
 by_cases h1:0<=n
 .obtain ⟨n,rfl⟩:=ek h1;obtain⟨K,k1,k2,k3⟩:=IK (n:=n) (d:=d) aE aE aE p;exact ad4 n d p K aE aE aE aE hp ij k1 k2 k3 hr
 .obtain ⟨m,rfl⟩:∃ m:Nat,n = -(m:Int):=⟨n.natAbs,aE⟩
  obtain⟨K,k1,k2,k3⟩:=IK (n:=m) (d:=d) aE aE aE p;exact ad2 m d p K aE aE aE aE hp ij k1 k2 k3 hr
def XA(d:Dy)(n p:Nat)(x:Nat):PS:=⟨35,true,[(10,.e (iP ((x+1:Nat):Int))),(9,.e (iP ((iF d p false x).2))),(8,.box 8 0),(6,.box 6 0),(3,.box 3 0),(1,.e (iP n)),(2,.e (iP p))],[(8,.cells 39 (jq ((iF d p false x).1))),(6,.cells 39 ar),(3,.cells 39 (jq d))]⟩
def XB(d:Dy)(n N p:Nat)(x:Nat):PS:=⟨35,true,[(10,.e (iP ((x+1:Nat):Int))),(9,.e (iP ((iF d p false x).2))),(8,.box 8 0),(6,.box 6 0),(3,.box 3 0),(1,.e (iP n)),(2,.e (iP p))],[(8,.cells 39 (jq ((iF d p false x).1))),(6,.cells 39 ar),(3,.cells 39 (jq d))]⟩
def XC(d:Dy)(n p:Nat)(x:Nat):PS:=⟨35,true,[(10,.e (iP ((x+1:Nat):Int))),(9,.e (iP ((iF d p true x).2))),(8,.box 8 0),(6,.box 6 0),(3,.box 3 0),(1,.e (iP n)),(2,.e (iP p))],[(8,.cells 39 (jq ((iF d p true x).1))),(6,.cells 39 ar),(3,.cells 39 (jq d))]⟩
def XD(d:Dy)(n N p:Nat)(x:Nat):PS:=⟨35,true,[(10,.e (iP ((x+1:Nat):Int))),(9,.e (iP ((iF d p true x).2))),(8,.box 8 0),(6,.box 6 0),(3,.box 3 0),(1,.e (iP n)),(2,.e (iP p))],[(8,.cells 39 (jq ((iF d p true x).1))),(6,.cells 39 ar),(3,.cells 39 (jq d))]⟩
noncomputable def QC(t:kF)(xs:List Iv)(p:Nat)(x:Nat):PS:=⟨55,true,[(8,.e (iP x)),(7,.own 10),(3,.box 3 0),(2,.e (iP p))],[(10,.row true 46 ((iR t.ib xs p x).length) 7 (jR (iR t.ib xs p x))),(3,.cells 25 [iP t.im,lf t.ib,lp t.il])]⟩
def Y0(l:List Iv)(N:Nat)(i:Nat):PS:=⟨15,true,[(3,.e (iP i)),(0,.e (iA l))],[]⟩
def YZ(l:List Iv)(i:Nat):PS:=⟨15,true,[(3,.e (iP i)),(0,.e (iA l))],[]⟩
def Kf(d:Dy)(p:Nat)(up:Bool)(hd:d.ik)(iw:8<=p)(ij:p<=512):gZ 372 [ie d,iP p,bP up] (.iC [ie (jf d p up),iP (jx d p up)]):=by
 have hl:=hd.ia;have he:=hd.exp;have hx:(ia d.m).length<=2900 /\ -200000<=d.e/\d.e<=200000:=⟨aE,aE,aE⟩
 exact ak call372 func372 (af [.c (GQ d d p aF aF aE aE),ai 14 ((0:Int) != 0) aG,.c (Pb d p up hx.1 hx.2.1 hx.2.2 aE aE)]) 
def akD(d:Dy)(n p:Nat)(hd:d.ik)(hn:1<=n)(kg:n<=16)(iw:8<=p)(ij:p<=512)(iQ:∀ x,x<n-1->(iF d p false x).2=0):gZ 352 [ie d,iP n,iP p] (.iC [ie (iF d p false (n-1)).1,iP (iF d p false (n-1)).2]):=
 ak call352 func352 (af [ag [ie d,iP p,bP false] (Kf _ _ _ aF aE aE),.s (Sp.jv (XA d n p) 0 (n-1) aE (λx hx jU=>by
    have mT:=iQ x aE;have hv:=u5 d (aE:1<=p) (aE:p<=4096) false x;exact iG (ae [tT 19 (((x+1:Nat):Int)<n) aE,ah 22 (((iF d p false x).2)==0) (by rw[mT];rfl),.c (wD ((iF d p false x).1) d p false aF aF aE aE),
     iz (((x+1:Nat):Int)+1) aE]<|.e (af [.o 9 (aq (jx (lg ((iF d p false x).1) d) p false) ((iF d p false (x+1)).2) (by rw[sX mT];rfl)),.b 8 (.iM (by rw[sX mT];rfl):Bx.le (.cells 39 (jq (jf (lg ((iF d p false x).1) d) p false))) (.cells 39 (jq ((iF d p false (x+1)).1))))])) aI)
  (λhx=>by
    exact iG (af [tF 19 ((((n-1)+1:Nat):Int)<n) aE]) aI) aM:ju 3 f352 (XA d n p 0) (.exit 0) ⟨35,true,[(9,.e (iP ((iF d p false (n-1)).2))),(8,.box 8 0),(6,.box 6 0)],[(8,.cells 39 (jq ((iF d p false (n-1)).1))),(6,.cells 39 ar)]⟩) (af [.o 10 (aq 1 ((0+1:Nat):Int) rfl),.o 9 (aq (jx d p false) ((iF d p false 0).2) rfl),.b 8 (.iM rfl:Bx.le (.cells 39 (jq (jf d p false))) (.cells 39 (jq ((iF d p false 0).1))))])]) 
def akE(d:Dy)(n N p:Nat)(hd:d.ik)(hn:1<=n)(kg:n<=16)(iw:8<=p)(ij:p<=512)(mS:N<n-1)(iQ:∀ x,x<N->(iF d p false x).2=0)(hN:(iF d p false N).2≠0):gZ 352 [ie d,iP n,iP p] (.iC [ie (iF d p false N).1,iP (iF d p false N).2]):=
 ak call352 func352 (af [ag [ie d,iP p,bP false] (Kf _ _ _ aF aE aE),.s (Sp.jv (XB d n N p) 0 N aE (λx hx jU=>by
    have mT:=iQ x aE;have hv:=u5 d (aE:1<=p) (aE:p<=4096) false x;exact iG (ae [tT 19 (((x+1:Nat):Int)<n) aE,ah 22 (((iF d p false x).2)==0) (by rw[mT];rfl),.c (wD ((iF d p false x).1) d p false aF aF aE aE),
     iz (((x+1:Nat):Int)+1) aE]<|.e (af [.o 9 (aq (jx (lg ((iF d p false x).1) d) p false) ((iF d p false (x+1)).2) (by rw[sX mT];rfl)),.b 8 (.iM (by rw[sX mT];rfl):Bx.le (.cells 39 (jq (jf (lg ((iF d p false x).1) d) p false))) (.cells 39 (jq ((iF d p false (x+1)).1))))])) aI)
  (λhx=>by
    exact iG (af [tT 19 (((N+1:Nat):Int)<n) aE,ai 22 (((iF d p false N).2)==0) (by simpa using hN)]) aI) aM:ju 3 f352 (XB d n N p 0) (.exit 0) ⟨35,true,[(9,.e (iP ((iF d p false N).2))),(8,.box 8 0),(6,.box 6 0)],[(8,.cells 39 (jq ((iF d p false N).1))),(6,.cells 39 ar)]⟩) (af [.o 10 (aq 1 ((0+1:Nat):Int) rfl),.o 9 (aq (jx d p false) ((iF d p false 0).2) rfl),.b 8 (.iM rfl:Bx.le (.cells 39 (jq (jf d p false))) (.cells 39 (jq ((iF d p false 0).1))))])]) 
def Eu(d:Dy)(n p:Nat)(hd:d.ik)(hn:1<=n)(kg:n<=16)(iw:8<=p)(ij:p<=512):gZ 352 [ie d,iP n,iP p] (.iC [ie (iF d p false (n-1)).1,iP (iF d p false (n-1)).2]):=by
 by_cases h:∃ x,x<n-1/\decide ((iF d p false x).2≠0)=true
 .obtain ⟨N,h1,h2,h3⟩:=rj h;have hN:(iF d p false N).2≠0:=cR h2;have:=akE d n N p hd hn kg iw ij h1 (λx hx=>by simpa using h3 x hx) hN;have e:=GO d p false N hN (n-1-N);rw[(aE:N+(n-1-N)=n-1)]at e;rw[e];exact this
 .exact akD d n p hd hn kg iw ij λx hx=>ca λq=>h ⟨x,hx,bA q⟩
def akF(d:Dy)(n p:Nat)(hd:d.ik)(hn:1<=n)(kg:n<=16)(iw:8<=p)(ij:p<=512)(iQ:∀ x,x<n-1->(iF d p true x).2=0):gZ 353 [ie d,iP n,iP p] (.iC [ie (iF d p true (n-1)).1,iP (iF d p true (n-1)).2]):=
 ak call353 func353 (af [ag [ie d,iP p,bP true] (Kf _ _ _ aF aE aE),.s (Sp.jv (XC d n p) 0 (n-1) aE (λx hx jU=>by
    have mT:=iQ x aE;have hv:=u5 d (aE:1<=p) (aE:p<=4096) true x;exact iG (ae [tT 19 (((x+1:Nat):Int)<n) aE,ah 22 (((iF d p true x).2)==0) (by rw[mT];rfl),.c (wD ((iF d p true x).1) d p true aF aF aE aE),
     iz (((x+1:Nat):Int)+1) aE]<|.e (af [.o 9 (aq (jx (lg ((iF d p true x).1) d) p true) ((iF d p true (x+1)).2) (by rw[sX mT];rfl)),.b 8 (.iM (by rw[sX mT];rfl):Bx.le (.cells 39 (jq (jf (lg ((iF d p true x).1) d) p true))) (.cells 39 (jq ((iF d p true (x+1)).1))))])) aI)
  (λhx=>by
    exact iG (af [tF 19 ((((n-1)+1:Nat):Int)<n) aE]) aI) aM:ju 3 f353 (XC d n p 0) (.exit 0) ⟨35,true,[(9,.e (iP ((iF d p true (n-1)).2))),(8,.box 8 0),(6,.box 6 0)],[(8,.cells 39 (jq ((iF d p true (n-1)).1))),(6,.cells 39 ar)]⟩) (af [.o 10 (aq 1 ((0+1:Nat):Int) rfl),.o 9 (aq (jx d p true) ((iF d p true 0).2) rfl),.b 8 (.iM rfl:Bx.le (.cells 39 (jq (jf d p true))) (.cells 39 (jq ((iF d p true 0).1))))])]) 
def akG(d:Dy)(n N p:Nat)(hd:d.ik)(hn:1<=n)(kg:n<=16)(iw:8<=p)(ij:p<=512)(mS:N<n-1)(iQ:∀ x,x<N->(iF d p true x).2=0)(hN:(iF d p true N).2≠0):gZ 353 [ie d,iP n,iP p] (.iC [ie (iF d p true N).1,iP (iF d p true N).2]):=
 ak call353 func353 (af [ag [ie d,iP p,bP true] (Kf _ _ _ aF aE aE),.s (Sp.jv (XD d n N p) 0 N aE (λx hx jU=>by
    have mT:=iQ x aE;have hv:=u5 d (aE:1<=p) (aE:p<=4096) true x;exact iG (ae [tT 19 (((x+1:Nat):Int)<n) aE,ah 22 (((iF d p true x).2)==0) (by rw[mT];rfl),.c (wD ((iF d p true x).1) d p true aF aF aE aE),
     iz (((x+1:Nat):Int)+1) aE]<|.e (af [.o 9 (aq (jx (lg ((iF d p true x).1) d) p true) ((iF d p true (x+1)).2) (by rw[sX mT];rfl)),.b 8 (.iM (by rw[sX mT];rfl):Bx.le (.cells 39 (jq (jf (lg ((iF d p true x).1) d) p true))) (.cells 39 (jq ((iF d p true (x+1)).1))))])) aI)
  (λhx=>by
    exact iG (af [tT 19 (((N+1:Nat):Int)<n) aE,ai 22 (((iF d p true N).2)==0) (by simpa using hN)]) aI) aM:ju 3 f353 (XD d n N p 0) (.exit 0) ⟨35,true,[(9,.e (iP ((iF d p true N).2))),(8,.box 8 0),(6,.box 6 0)],[(8,.cells 39 (jq ((iF d p true N).1))),(6,.cells 39 ar)]⟩) (af [.o 10 (aq 1 ((0+1:Nat):Int) rfl),.o 9 (aq (jx d p true) ((iF d p true 0).2) rfl),.b 8 (.iM rfl:Bx.le (.cells 39 (jq (jf d p true))) (.cells 39 (jq ((iF d p true 0).1))))])]) 
def Ev(d:Dy)(n p:Nat)(hd:d.ik)(hn:1<=n)(kg:n<=16)(iw:8<=p)(ij:p<=512):gZ 353 [ie d,iP n,iP p] (.iC [ie (iF d p true (n-1)).1,iP (iF d p true (n-1)).2]):=by
 by_cases h:∃ x,x<n-1/\decide ((iF d p true x).2≠0)=true
 .obtain ⟨N,h1,h2,h3⟩:=rj h;have hN:(iF d p true N).2≠0:=cR h2;have:=akG d n N p hd hn kg iw ij h1 (λx hx=>by simpa using h3 x hx) hN;have e:=GO d p true N hN (n-1-N);rw[(aE:N+(n-1-N)=n-1)]at e;rw[e];exact this
 .exact akF d n p hd hn kg iw ij λx hx=>ca λq=>h ⟨x,hx,bA q⟩
def akH(x:Iv)(n p:Nat)(hx:x.ik)(ha:x.all=true)(hn:n<=16)(iw:8<=p)(ij:p<=512):gZ 297 [ig x,iP n,iP p] (ig (mj x n p)):=
 ak call297 func297 (ae [.c (CP (p:Int)),ah 13 (kC (p:Int)) (pe.2 ⟨aE,aE⟩),.c (u6 x aF),ai 17 (!x.all) (by rw[ha];rfl),.c oN]<|rQ (ig iu) (ig (mj x n p)) (by unfold mj;rw[bw ha])) 
def akK(x:Iv)(n p:Nat)(hx:x.ik)(ha:x.all=false)(h0:n=0)(iw:8<=p)(ij:p<=512):gZ 297 [ig x,iP n,iP p] (ig (mj x n p)):=
 ak call297 func297 (ae [.c (CP (p:Int)),ah 13 (kC (p:Int)) (pe.2 ⟨aE,aE⟩),.c (u6 x aF),ah 17 (!x.all) (by rw[ha];rfl),tF 22 ((n:Int)<0) aE,tF 26 (16<(n:Int)) aE,ah 30 ((n:Int)==0) (rF h0),ag [iP 1] (Pp _ aG),.c (Pd (canon false 1 0))]<|rQ (ig (mi (canon false 1 0))) (ig (mj x n p)) (by unfold mj;rw[bu (by rw[ha];decide),bw h0,OJ])) 
def akI(x:Iv)(n p:Nat)(hx:x.ik)(ha:x.all=false)(h0:n≠0)(hn:n<=16)(he:n%2=0)(iw:8<=p)(ij:p<=512):gZ 297 [ig x,iP n,iP p] (ig (mj x n p)):=by
 have va:=E6 hx;obtain⟨w1,w2⟩:=va.kp;exact ak call297 func297 (ae [.c (CP (p:Int)),ah 13 (kC (p:Int)) (pe.2 ⟨aE,aE⟩),.c (u6 x aF),ah 17 (!x.all) (by rw[ha];rfl),tF 22 ((n:Int)<0) aE,tF 26 (16<(n:Int)) aE,ai 30 ((n:Int)==0) (nC h0),.a (aE:0<(2:Int)),.o 35 (aq (Int.tmod (n:Int) 2) ((n%2:Nat):Int) (by rw[apO aE];omega)),ah 36 (((n%2:Nat):Int)==0) (rF he),.c (akB x aF),ag [ie ((jh x).lo),iP n,iP p] (Eu _ _ _ aF aE aE aE aE),ag [ie ((jh x).lo)] (tI _)]<|.w ((Dy.jb ((jh x).lo))<0)
  (λk1=>ae [tB 50 (bA k1),ag [ie ((jh x).lo)] (r9 _),ag [ie (iU ((jh x).lo)),iP n,iP p] (Ev _ _ _ (qA aF) aE aE aE aE),ag [ie ((iF (iU ((jh x).lo)) p true (n-1)).1)] (r9 _),ag [ie ((jh x).hi),iP n,iP p] (Ev _ _ _ aF aE aE aE aE),ag [ie ((jh x).hi)] (tI _)]<|.w ((Dy.jb ((jh x).hi))<0)
   (λk2=>ae [tB 73 (bA k2),ag [ie ((jh x).hi)] (r9 _),ag [ie (iU ((jh x).hi)),iP n,iP p] (Eu _ _ _ (qA aF) aE aE aE aE),ag [ie ((iF (iU ((jh x).hi)) p false (n-1)).1)] (r9 _),.c (Am (iU ((iF (iU ((jh x).lo)) p true (n-1)).1)) (iU ((iF (iU ((jh x).hi)) p false (n-1)).1)) ((iF (iU ((jh x).lo)) p true (n-1)).2) ((iF (iU ((jh x).hi)) p false (n-1)).2))]<|rQ (ig (kX (iU ((iF (iU ((jh x).lo)) p true (n-1)).1)) ((iF (iU ((jh x).lo)) p true (n-1)).2) (iU ((iF (iU ((jh x).hi)) p false (n-1)).1)) ((iF (iU ((jh x).hi)) p false (n-1)).2))) (ig (mj x n p)) (by unfold mj qK;rw[bu (by rw[ha];decide),bu h0];rw[bw he];unfold lk;(rw[bw k1,bw k2])<;>rfl))
   (λk2=>ae [tB 73 (bB k2),.c (Am (iU ((iF (iU ((jh x).lo)) p true (n-1)).1)) ((iF ((jh x).hi) p true (n-1)).1) ((iF (iU ((jh x).lo)) p true (n-1)).2) ((iF ((jh x).hi) p true (n-1)).2))]<|rQ (ig (kX (iU ((iF (iU ((jh x).lo)) p true (n-1)).1)) ((iF (iU ((jh x).lo)) p true (n-1)).2) ((iF ((jh x).hi) p true (n-1)).1) ((iF ((jh x).hi) p true (n-1)).2))) (ig (mj x n p)) (by unfold mj qK;rw[bu (by rw[ha];decide),bu h0];rw[bw he];unfold lk;(rw[bw k1,bu k2])<;>rfl)))
  (λk1=>ae [tB 50 (bB k1),ag [ie ((jh x).hi),iP n,iP p] (Ev _ _ _ aF aE aE aE aE),ag [ie ((jh x).hi)] (tI _)]<|.w ((Dy.jb ((jh x).hi))<0)
   (λk2=>ae [tB 73 (bA k2),ag [ie ((jh x).hi)] (r9 _),ag [ie (iU ((jh x).hi)),iP n,iP p] (Eu _ _ _ (qA aF) aE aE aE aE),ag [ie ((iF (iU ((jh x).hi)) p false (n-1)).1)] (r9 _),.c (Am ((iF ((jh x).lo) p false (n-1)).1) (iU ((iF (iU ((jh x).hi)) p false (n-1)).1)) ((iF ((jh x).lo) p false (n-1)).2) ((iF (iU ((jh x).hi)) p false (n-1)).2))]<|rQ (ig (kX ((iF ((jh x).lo) p false (n-1)).1) ((iF ((jh x).lo) p false (n-1)).2) (iU ((iF (iU ((jh x).hi)) p false (n-1)).1)) ((iF (iU ((jh x).hi)) p false (n-1)).2))) (ig (mj x n p)) (by unfold mj qK;rw[bu (by rw[ha];decide),bu h0];rw[bw he];unfold lk;(rw[bu k1,bw k2])<;>rfl))
   (λk2=>ae [tB 73 (bB k2),.c (Am ((iF ((jh x).lo) p false (n-1)).1) ((iF ((jh x).hi) p true (n-1)).1) ((iF ((jh x).lo) p false (n-1)).2) ((iF ((jh x).hi) p true (n-1)).2))]<|rQ (ig (kX ((iF ((jh x).lo) p false (n-1)).1) ((iF ((jh x).lo) p false (n-1)).2) ((iF ((jh x).hi) p true (n-1)).1) ((iF ((jh x).hi) p true (n-1)).2))) (ig (mj x n p)) (by unfold mj qK;rw[bu (by rw[ha];decide),bu h0];rw[bw he];unfold lk;(rw[bu k1,bu k2])<;>rfl)))) 
def akJ(x:Iv)(n p:Nat)(hx:x.ik)(ha:x.all=false)(h0:n≠0)(hn:n<=16)(he:¬n%2=0)(iw:8<=p)(ij:p<=512):gZ 297 [ig x,iP n,iP p] (ig (mj x n p)):=by
 have va:=hx;obtain⟨w1,w2⟩:=va.kp;exact ak call297 func297 (ae [.c (CP (p:Int)),ah 13 (kC (p:Int)) (pe.2 ⟨aE,aE⟩),.c (u6 x aF),ah 17 (!x.all) (by rw[ha];rfl),tF 22 ((n:Int)<0) aE,tF 26 (16<(n:Int)) aE,ai 30 ((n:Int)==0) (nC h0),.a (aE:0<(2:Int)),.o 35 (aq (Int.tmod (n:Int) 2) ((n%2:Nat):Int) (by rw[apO aE];omega)),ai 36 (((n%2:Nat):Int)==0) (nC he),ag [ie x.lo,iP n,iP p] (Eu _ _ _ aF aE aE aE aE),ag [ie x.lo] (tI _)]<|.w ((Dy.jb x.lo)<0)
  (λk1=>ae [tB 50 (bA k1),ag [ie x.lo] (r9 _),ag [ie (iU x.lo),iP n,iP p] (Ev _ _ _ (qA aF) aE aE aE aE),ag [ie ((iF (iU x.lo) p true (n-1)).1)] (r9 _),ag [ie x.hi,iP n,iP p] (Ev _ _ _ aF aE aE aE aE),ag [ie x.hi] (tI _)]<|.w ((Dy.jb x.hi)<0)
   (λk2=>ae [tB 73 (bA k2),ag [ie x.hi] (r9 _),ag [ie (iU x.hi),iP n,iP p] (Eu _ _ _ (qA aF) aE aE aE aE),ag [ie ((iF (iU x.hi) p false (n-1)).1)] (r9 _),.c (Am (iU ((iF (iU x.lo) p true (n-1)).1)) (iU ((iF (iU x.hi) p false (n-1)).1)) ((iF (iU x.lo) p true (n-1)).2) ((iF (iU x.hi) p false (n-1)).2))]<|rQ (ig (kX (iU ((iF (iU x.lo) p true (n-1)).1)) ((iF (iU x.lo) p true (n-1)).2) (iU ((iF (iU x.hi) p false (n-1)).1)) ((iF (iU x.hi) p false (n-1)).2))) (ig (mj x n p)) (by unfold mj qK;rw[bu (by rw[ha];decide),bu h0];rw[bu he];unfold lk;(rw[bw k1,bw k2])<;>rfl))
   (λk2=>ae [tB 73 (bB k2),.c (Am (iU ((iF (iU x.lo) p true (n-1)).1)) ((iF x.hi p true (n-1)).1) ((iF (iU x.lo) p true (n-1)).2) ((iF x.hi p true (n-1)).2))]<|rQ (ig (kX (iU ((iF (iU x.lo) p true (n-1)).1)) ((iF (iU x.lo) p true (n-1)).2) ((iF x.hi p true (n-1)).1) ((iF x.hi p true (n-1)).2))) (ig (mj x n p)) (by unfold mj qK;rw[bu (by rw[ha];decide),bu h0];rw[bu he];unfold lk;(rw[bw k1,bu k2])<;>rfl)))
  (λk1=>ae [tB 50 (bB k1),ag [ie x.hi,iP n,iP p] (Ev _ _ _ aF aE aE aE aE),ag [ie x.hi] (tI _)]<|.w ((Dy.jb x.hi)<0)
   (λk2=>ae [tB 73 (bA k2),ag [ie x.hi] (r9 _),ag [ie (iU x.hi),iP n,iP p] (Eu _ _ _ (qA aF) aE aE aE aE),ag [ie ((iF (iU x.hi) p false (n-1)).1)] (r9 _),.c (Am ((iF x.lo p false (n-1)).1) (iU ((iF (iU x.hi) p false (n-1)).1)) ((iF x.lo p false (n-1)).2) ((iF (iU x.hi) p false (n-1)).2))]<|rQ (ig (kX ((iF x.lo p false (n-1)).1) ((iF x.lo p false (n-1)).2) (iU ((iF (iU x.hi) p false (n-1)).1)) ((iF (iU x.hi) p false (n-1)).2))) (ig (mj x n p)) (by unfold mj qK;rw[bu (by rw[ha];decide),bu h0];rw[bu he];unfold lk;(rw[bu k1,bw k2])<;>rfl))
   (λk2=>ae [tB 73 (bB k2),.c (Am ((iF x.lo p false (n-1)).1) ((iF x.hi p true (n-1)).1) ((iF x.lo p false (n-1)).2) ((iF x.hi p true (n-1)).2))]<|rQ (ig (kX ((iF x.lo p false (n-1)).1) ((iF x.lo p false (n-1)).2) ((iF x.hi p true (n-1)).1) ((iF x.hi p true (n-1)).2))) (ig (mj x n p)) (by unfold mj qK;rw[bu (by rw[ha];decide),bu h0];rw[bu he];unfold lk;(rw[bu k1,bu k2])<;>rfl)))) 
def Xz(x:Iv)(n p:Nat)(hx:x.ik)(hn:n<=16)(iw:8<=p)(ij:p<=512):gZ 297 [ig x,iP (n:Int),iP (p:Int)] (ig (mj x n p)):=by
 cases ha:x.all with
 |true=>exact akH x n p hx ha hn iw ij
 |false=>
  by_cases h0:n=0
  .exact akK x n p hx ha h0 iw ij
  .by_cases he:n%2=0
   .exact akI x n p hx ha h0 hn he iw ij
   .exact akJ x n p hx ha h0 hn he iw ij
def aaL(o:je)(x y:Iv)(p:Nat)(hx:x.ik)(hy:y.ik)(r1:3<=o.kind)(r2:o.kind<=8)(r3:o.n<=16)(iw:8<=p)(ij:p<=512):gZ 250 [iP o.kind,iP o.n,ig x,ig y,iP p] (ig (kZ o x y p)):=
 ak call250 func250 (.w ((o.kind:Int)=3)
  (λk1=>ae [tB 13 (bk k1),.c (GR x y p aF aF aE aE)]<|rQ (ig (kI x y p)) (ig (kZ o x y p)) (by unfold kZ;simp[(aE:o.kind=3)]))
  (λk1=>ae [tB 13 (bj k1)]<|.w ((o.kind:Int)=4)
   (λk2=>ae [tB 19 (bk k2),.c (Pf x y p aF aF aE aE)]<|rQ (ig (vh x y p)) (ig (kZ o x y p)) (by unfold kZ;simp[(aE:¬o.kind=3),(aE:o.kind=4)]))
   (λk2=>ae [tB 19 (bj k2)]<|.w ((o.kind:Int)=5)
    (λk3=>ae [tB 25 (bk k3),.c (CO x y p aF aF aE aE)]<|rQ (ig (jt x y p)) (ig (kZ o x y p)) (by unfold kZ;simp[(aE:¬o.kind=3),(aE:¬o.kind=4),(aE:o.kind=5)]))
    (λk3=>ae [tB 25 (bj k3)]<|.w ((o.kind:Int)=6)
     (λk4=>ae [tB 31 (bk k4),.c (Xv x y p aF aF aE aE)]<|rQ (ig (jT x y p)) (ig (kZ o x y p)) (by unfold kZ;simp[(aE:¬o.kind=3),(aE:¬o.kind=4),(aE:¬o.kind=5),(aE:o.kind=6)]))
     (λk4=>ae [tB 31 (bj k4)]<|.w ((o.kind:Int)=7)
      (λk5=>ae [tB 37 (bk k5),.c (Pc x aF)]<|rQ (ig (pM x)) (ig (kZ o x y p)) (by unfold kZ;simp[(aE:¬o.kind=3),(aE:¬o.kind=4),(aE:¬o.kind=5),(aE:¬o.kind=6),(aE:o.kind=7)]))
      (λk5=>ae [tB 37 (bj k5)]<|.w ((o.kind:Int)=8)
       (λk6=>ae [tB 41 (bk k6),ag [ig x,iP o.n,iP p] (Xz _ _ _ aF aE aE aE)]<|rQ (ig (mj x o.n p)) (ig (kZ o x y p)) (by unfold kZ;simp[(aE:¬o.kind=3),(aE:¬o.kind=4),(aE:¬o.kind=5),(aE:¬o.kind=6),(aE:¬o.kind=7),(aE:o.kind=8)]))
       (λk6=>.x aE))))))) 
def aaF{o:je}(h:¬o.kind<=6)(x y z:Iv)(p:Nat):kZ o x y p=kZ o x z p:=by
 unfold kZ;have h3:¬o.kind=3:= aE ;have h4:¬o.kind=4:= aE ;have h5:¬o.kind=5:= aE ;have h6:¬o.kind=6:= aE ;rw[bu h3,bu h4,bu h5,bu h6,bu h3,bu h4,bu h5,bu h6]
def aaH{o:je}(h:o.kind≠1)(l:List Iv)(p:Nat):rN o l p=kZ o (l.getD o.a iu) (l.getD o.b iu) p:=by
 unfold rN Ik;rw[bu h];by_cases h6:o.kind<=6
 .rw [bA h6];rfl
 .rw [bB h6];exact aaF h6 _ _ _ _
def mZ.abl{o:je}{m:Nat}(h:mZ o m)(hm:1<=m):o.b<m:=by
 have:=h.b;split at this<;>omega
def agU{a q:List Iv}:E.le (.sl true (0+a.length+q.length) 7 λi j=>if i<0+a.length then(λi_ j_=>if i_<0 then(λi_ j_=>([]:List E).getD (i_*7+j_) (.v (.bool false))) i_ j_ else(E.kH (iA a)) (i_-0) j_) i j else(E.kH (iA q)) (i-(0+a.length)) j) (iA (a++q)):=by
 have e:iA (a++q) = .sl true (0+a.length+q.length) 7 (jR (a++q)):=by unfold iA;rw[cE,cD]
 rw[e];refine .sl λi j hi hj=>⟨.iM ?_,Cu _ _ hj⟩
 rw[cD];by_cases h:i<a.length
 .rw [bw h];show(iZ (a.getD i iu)).getD j .any=(iZ ((a++q).getD i iu)).getD j .any;congr 2;simp[bD,dK h]
 .rw [bu h];show(iZ (q.getD (i-a.length) iu)).getD j .any=(iZ ((a++q).getD i iu)).getD j .any;congr 2;simp[bD,fc (aE:a.length<=i)]
def aaB(t:kF)(xs:List Iv)(p:Nat)(h:wP t)(hr:q7 t)(h1:1<=xs.length)(hx:xs.length=t.im)(hv:pT xs)(iw:8<=p)(ij:p<=512):gZ 174 [kK t,iA xs,iP p] (iA (iR t.ib xs p t.ib.length)):=by
 have h8:=h.im;have zL:=h.ib;exact ak call174 func174 (af [.bo,.a (aE:(0+xs.length)*88<=140737488355328),.s (Sp.jv (QC t xs p) 0 t.ib.length aE (λx hx jU=>by
    have iH:=h.op x aE;have uT:=Da t.ib hv (aE:1<=p) (aE:p<=4096) x;have Ce:=yS t.ib xs p x;have w1:=uT (t.ib.getD x iB).a;by_cases mO:((t.ib.getD x iB)).kind=1
    .have qp:((t.ib.getD x iB)).kind=1:=mO;obtain⟨o1,o2,o3,sQ⟩:=iH.num qp;have oL:rN (t.ib.getD x iB) (iR t.ib xs p x) p=(nX (t.ib.getD x iB).cn (t.ib.getD x iB).cd p):=by unfold rN;rw[bw qp]
     have rh:=qU (nX (t.ib.getD x iB).cn (t.ib.getD x iB).cd p);exact iG (ae [tT 17 ((x:Int)<t.ib.length) aE,iX (x:Int) (t.ib.length) aE,ah 27 (((t.ib.getD x iB).kind:Int)==1) (bk aE),ag [.agg [iP ((t.ib.getD x iB).cn),iP ((t.ib.getD x iB).cd)],iP p] (ad3 _ _ _ aF aE aE),.o 33 (.e (mP _):aj (.sl true 1 7 λi_ j_=>(iZ (nX ((t.ib.getD x iB).cn) ((t.ib.getD x iB).cd) p)).getD (i_*7+j_) (.v (.bool false))) (iA [nX ((t.ib.getD x iB).cn) ((t.ib.getD x iB).cd) p])),.a (aE:((iR t.ib xs p x).length+[nX ((t.ib.getD x iB).cn) ((t.ib.getD x iB).cd) p].length)*88<=140737488355328),iz ((x:Int)+1) aE]<|.e (af [.b 10 (Hm rfl rfl oL:Bx.le (.row true 46 ((iR t.ib xs p x).length+[nX ((t.ib.getD x iB).cn) ((t.ib.getD x iB).cd) p].length) 7 (λi_ j_=>if i_<(iR t.ib xs p x).length then(jR (iR t.ib xs p x)) i_ j_ else(E.kH (iA [nX ((t.ib.getD x iB).cn) ((t.ib.getD x iB).cd) p])) (i_-(iR t.ib xs p x).length) j_)) (.row true 46 ((iR t.ib xs p (x+1)).length) 7 (jR (iR t.ib xs p (x+1)))))])) aI 
    .have zF:((t.ib.getD x iB)).kind≠1:=mO;have oL:rN (t.ib.getD x iB) (iR t.ib xs p x) p=(kZ (t.ib.getD x iB) ((iR t.ib xs p x).getD ((t.ib.getD x iB).a) iu) ((iR t.ib xs p x).getD ((t.ib.getD x iB).b) iu) p):=aaH zF _ _;have hk3:=iH.k3.resolve_left zF;have uL:=hr x;have oa:=iH.E4 zF;have ob:=iH.abl aE;have w2:=uT (t.ib.getD x iB).b;have o8:=Ka iH;have rh:=qU (kZ (t.ib.getD x iB) ((iR t.ib xs p x).getD ((t.ib.getD x iB).a) iu) ((iR t.ib xs p x).getD ((t.ib.getD x iB).b) iu) p);exact iG (ae [tT 17 ((x:Int)<t.ib.length) aE,iX (x:Int) (t.ib.length) aE,ai 27 (((t.ib.getD x iB).kind:Int)==1) (bj aE),
      iX ((t.ib.getD x iB).a:Int) ((iR t.ib xs p x).length) aE,.a (aE:(t.ib.getD x iB).a<(iR t.ib xs p x).length),iX ((t.ib.getD x iB).b:Int) ((iR t.ib xs p x).length) aE,.a (aE:(t.ib.getD x iB).b<(iR t.ib xs p x).length),ag [iP ((t.ib.getD x iB).kind:Int),iP ((t.ib.getD x iB).n:Int),ig ((iR t.ib xs p x).getD (t.ib.getD x iB).a iu),ig ((iR t.ib xs p x).getD (t.ib.getD x iB).b iu),iP p] (aaL (t.ib.getD x iB) _ _ _ w1 w2 aE aE aE aE aE),.o 52 (.e (mP _):aj (.sl true 1 7 λi_ j_=>(iZ (kZ (t.ib.getD x iB) ((iR t.ib xs p x).getD (t.ib.getD x iB).a iu) ((iR t.ib xs p x).getD (t.ib.getD x iB).b iu) p)).getD (i_*7+j_) (.v (.bool false))) (iA [kZ (t.ib.getD x iB) ((iR t.ib xs p x).getD (t.ib.getD x iB).a iu) ((iR t.ib xs p x).getD (t.ib.getD x iB).b iu) p])),.a (aE:((iR t.ib xs p x).length+[kZ (t.ib.getD x iB) ((iR t.ib xs p x).getD (t.ib.getD x iB).a iu) ((iR t.ib xs p x).getD (t.ib.getD x iB).b iu) p].length)*88<=140737488355328),
      iz ((x:Int)+1) aE]<|.e (af [.b 10 (Hm rfl rfl oL:Bx.le (.row true 46 ((iR t.ib xs p x).length+[kZ (t.ib.getD x iB) ((iR t.ib xs p x).getD (t.ib.getD x iB).a iu) ((iR t.ib xs p x).getD (t.ib.getD x iB).b iu) p].length) 7 (λi_ j_=>if i_<(iR t.ib xs p x).length then(jR (iR t.ib xs p x)) i_ j_ else(E.kH (iA [kZ (t.ib.getD x iB) ((iR t.ib xs p x).getD (t.ib.getD x iB).a iu) ((iR t.ib xs p x).getD (t.ib.getD x iB).b iu) p])) (i_-(iR t.ib xs p x).length) j_)) (.row true 46 ((iR t.ib xs p (x+1)).length) 7 (jR (iR t.ib xs p (x+1)))))])) aI)
  (λhx=>by
    exact iG (ae [tF 17 ((t.ib.length:Int)<t.ib.length) aE,.z 10]<|.e (af [.o 7 (.e (zW aK):aj (.sl true ((iR t.ib xs p t.ib.length).length) 7 (jR (iR t.ib xs p t.ib.length))) (iA (iR t.ib xs p t.ib.length)))])) aI) aM:ju 3 f174 (QC t xs p 0) (.exit 0) ⟨55,true,[(7,.e (iA (iR t.ib xs p t.ib.length)))],[]⟩) (af [.b 10 (Rf rfl λi j hi hj=>⟨rfl,Cu _ _ hj⟩:Bx.le (.row true 46 (0+xs.length) 7 (λi_ j_=>if i_<0 then(λi_ j_=>([]:List E).getD (i_*7+j_) (.v (.bool false))) i_ j_ else(E.kH (iA xs)) (i_-0) j_)) (.row true 46 ((iR t.ib xs p 0).length) 7 (jR (iR t.ib xs p 0))))])]) 
def NJ(s:kB)(b:List Iv)(h1:b.length<=400)(h2:s.params.length<=400):gZ 101 [ji s,iA b] (iA (b++s.params)):=
 ak call101 func101 (ae [.bo,.a (aE:(0+b.length)*88<=140737488355328),.a (aE:((0+b.length)+s.params.length)*88<=140737488355328)]<|rR (iA (b++s.params)) (agU:E.le (.sl true ((0+b.length)+s.params.length) 7 (λi_ j_=>if i_<(0+b.length)then(λi_ j_=>if i_<0 then(λi_ j_=>([]:List E).getD (i_*7+j_) (.v (.bool false))) i_ j_ else(E.kH (iA b)) (i_-0) j_) i_ j_ else(E.kH (iA s.params)) (i_-(0+b.length)) j_)) (iA (b++s.params)))) 
def amV(l:List Iv)(hl:l.length<=1000)(N:Nat)(mS:N<l.length)(iQ:∀ i,i<N->(l.getD i iu).all=false)(hN:(l.getD N iu).all=true):gZ 102 [iA l] (bP true):=
 ak call102 func102 (af [.s (Sp.jv (Y0 l N) 0 N aE (λi hi rX=>by
    exact iG (af [tT 7 ((i:Int)<l.length) aE,iX (i:Int) (l.length) aE,ai 14 ((l.getD i iu).all) (iQ i aE),iz ((i:Int)+1) aE]) aI)
  (λhi=>by
    exact iG (af [tT 7 ((N:Int)<l.length) aE,iX (N:Int) (l.length) aE,ah 14 ((l.getD N iu).all) hN]) aI) aM:ju 2 f102 (Y0 l N 0) .ret ⟨15,true,[(2,.e (bP true))],[]⟩) .nil]) 
def amU(l:List Iv)(hl:l.length<=1000)(iQ:∀ i,i<l.length->(l.getD i iu).all=false):gZ 102 [iA l] (bP false):=
 ak call102 func102 (af [.s (Sp.jv (YZ l) 0 l.length aE (λi hi rX=>by
    exact iG (af [tT 7 ((i:Int)<l.length) aE,iX (i:Int) (l.length) aE,ai 14 ((l.getD i iu).all) (iQ i aE),iz ((i:Int)+1) aE]) aI)
  (λhi=>by
    exact iG (af [tF 7 ((l.length:Int)<l.length) aE]) aI) aM:ju 2 f102 (YZ l 0) (.exit 0) ⟨15,true,[],[]⟩) .nil]) 
def EL(l:List Iv)(hl:l.length<=1000):gZ 102 [iA l] (bP (nx l)):=by
 cases h:nx l with
 |false=>exact amU l hl λi hi=>by simpa using List.any_eq_false.1 h i (bY.2 hi)
 |true=>
  unfold nx at h;rw[dH]at h;obtain⟨i,hi,hb⟩:=h;obtain⟨N,h1,h2,h3⟩:=rj (p:=λi=>(l.getD i iu).all) ⟨i,bY.1 hi,hb⟩;exact amV l hl N h1 h3 h2
def Ms(s:kB)(b:List Iv)(p:Nat)(iV:gZ 31 [ji s,iA b] (bP true))(iw:8<=p)(ij:p<=512):gZ 99 [ji s,iA b,iP p] (iP 0):=
 ak call99 func99 (af [ag [ji s,iA b] iV,ag [iP p] (Km _),ah 12 (kC (p:Int)) (pe.2 ⟨aE,aE⟩)]) 
def RM(t:kF)(l:List Iv)(i p:Nat)(x:Nat):PS:=⟨83,true,[(9,.own 9),(10,.e (iP x)),(4,.box 4 0),(1,.e (iA l)),(2,.e (iP i)),(3,.e (iP p))],[(9,.row true 46 ((lO t.im i x).length) 7 (jR (lO t.im i x))),(4,.cells 25 [iP t.im,lf t.ib,lp t.il])]⟩
noncomputable def RN(t:kF)(l:List Iv)(i p:Nat)(x:Nat):PS:=⟨83,true,[(11,.e (iP x)),(9,.own 9),(4,.box 4 0),(1,.e (iA l)),(3,.e (iP p))],[(9,.row true 46 ((jk t l i p x).length) 7 (jR (jk t l i p x))),(4,.cells 25 [iP t.im,lf t.ib,lp t.il])]⟩
noncomputable def Zu(t:kF)(xs:List Iv)(p m:Nat)(x:Nat):PS:=⟨79,true,[(11,.own 11),(13,.e (iP x)),(12,.own 24),(10,.e (iA (iR t.ib xs p t.ib.length))),(4,.box 4 0),(2,.e (iP m)),(3,.e (iP p))],[(11,.row true 46 x 7 (jR ((List.range x).map (λj_=>(iR t.ib xs p t.ib.length).getD (t.il.getD j_ 0) iu)))),(24,.lq true 26 46 t.il.length 7 (λ_=>0) (λ_ _ _=>.any) .none),(4,.cells 25 [iP t.im,lf t.ib,lp t.il])]⟩
noncomputable def Zs(t:kF)(xs:List Iv)(p m:Nat)(x:Nat):PS:=⟨79,true,[(14,.e (iP x)),(11,.e (iA ((List.range t.il.length).map (λj_=>(iR t.ib xs p t.ib.length).getD (t.il.getD j_ 0) iu)))),(12,.own 24),(10,.e (iA (iR t.ib xs p t.ib.length))),(4,.box 4 0),(2,.e (iP m)),(3,.e (iP p))],[(24,.lq true 26 46 t.il.length 7 (mr (kv t.il.length (lG t xs p) x 0)) (oF (kv t.il.length (lG t xs p) x 0)) .none),(4,.cells 25 [iP t.im,lf t.ib,lp t.il])]⟩
noncomputable def Zt(t:kF)(xs:List Iv)(p m x:Nat)(k:Nat):PS:=⟨79,true,[(16,.e (iP k)),(15,.e (iA (jk t (iR t.ib xs p t.ib.length) x p t.ib.length))),(14,.e (iP x)),(11,.e (iA ((List.range t.il.length).map (λj_=>(iR t.ib xs p t.ib.length).getD (t.il.getD j_ 0) iu)))),(12,.own 24),(10,.e (iA (iR t.ib xs p t.ib.length))),(4,.box 4 0),(2,.e (iP m)),(3,.e (iP p))],[(24,.lq true 26 46 t.il.length 7 (mr (kv t.il.length (lG t xs p) x k)) (oF (kv t.il.length (lG t xs p) x k)) .none),(4,.cells 25 [iP t.im,lf t.ib,lp t.il])]⟩
noncomputable def Vn(s:kB)(b:List Iv)(p:Nat)(N:Nat)(i:Nat):PS:=⟨45,true,[(11,.e (iP i)),(10,.e (lV (my s.tape (b++s.params) p s.iD)))],[]⟩
noncomputable def Vq(s:kB)(b:List Iv)(p:Nat)(i:Nat):PS:=⟨45,true,[(11,.e (iP i)),(10,.e (lV (my s.tape (b++s.params) p s.iD)))],[]⟩
def VT(m:List (List Iv))(x:Nat):PS:=⟨61,true,[(3,.e (iP x)),(0,.e (lV m))],[]⟩
def VS(m:List (List Iv))(x:Nat)(y:Nat):PS:=⟨61,true,[(4,.e (iP y)),(3,.e (iP x)),(0,.e (lV m))],[]⟩
def R9(r:List Iv)(i p:Nat)(x:Nat):PS:=⟨79,true,[(8,.e (iP x)),(7,.box 7 0),(6,.box 6 0),(0,.e (iA r)),(1,.e (iP i)),(2,.e (iP p))],[(7,.cells 39 (jq (kj r i p x))),(6,.cells 46 au)]⟩
def R8(r:List Iv)(i p:Nat)(N:Nat)(x:Nat):PS:=⟨79,true,[(8,.e (iP x)),(7,.box 7 0),(6,.box 6 0),(0,.e (iA r)),(1,.e (iP i)),(2,.e (iP p))],[(7,.cells 39 (jq (kj r i p x))),(6,.cells 46 au)]⟩
def Sc(m:List (List Iv))(p:Nat)(x:Nat):PS:=⟨29,true,[(6,.own 6),(7,.e (iP x)),(0,.e (lV m)),(1,.e (iP p))],[(6,.row true 46 x 7 (jR ((List.range x).map (λi_=>lY (m.getD i_ []) i_ p))))]⟩
noncomputable def Se(s:kB)(b:List Iv)(p:Nat)(x:Nat):PS:=⟨45,true,[(11,.e (iP ((x+1:Nat):Int))),(10,.box 10 0),(8,.e (lV (jy s b p))),(6,.box 6 0),(2,.e (iP p))],[(10,.cells 46 (iZ (pR (jy s b p) p x))),(6,.cells 46 au)]⟩
noncomputable def Y8(s:kB)(b:List Iv)(p:Nat)(i:Nat):PS:=⟨49,true,[(11,.e (iP i)),(9,.e (iA (kU (jy s b p) p)))],[]⟩
noncomputable def Y6(s:kB)(b:List Iv)(p:Nat)(N:Nat)(i:Nat):PS:=⟨49,true,[(11,.e (iP i)),(9,.e (iA (kU (jy s b p) p)))],[]⟩
noncomputable def Y7(s:kB)(b:List Iv)(p:Nat)(N:Nat)(i:Nat):PS:=⟨49,true,[(11,.e (iP i)),(9,.e (iA (kU (jy s b p) p)))],[]⟩
def Hp(n:Nat)(h:n<4294967296):gZ 251 [iP n] (ig (iS (n:Int))):=
 ak call251 func251 (ae [ag [iP n] (Pp _ aE),.c (Pd (canon false n 0))]<|rQ (ig (mi (canon false n 0))) (ig (iS (n:Int))) (by unfold iS;rw[Bj])) 
def akw(o:je)(v a b da db:Iv)(p:Nat)(hv:v.ik)(ha:a.ik)(hb:b.ik)(hd:da.ik)(he:db.ik)(iw:8<=p)(ij:p<=512)(nA:v.all=true):gZ 252 [oD o,ig v,ig a,ig b,ig da,ig db,iP p] (ig iu):=
 ak call252 func252 (ae [ah 16 v.all nA]<|rQ (ig v) (ig iu) (by rw[Vi hv nA])) 
def akp(o:je)(v a b da db:Iv)(p:Nat)(hv:v.ik)(ha:a.ik)(hb:b.ik)(hd:da.ik)(he:db.ik)(iw:8<=p)(ij:p<=512)(nA:v.all=false)(hk:o.kind=3):gZ 252 [oD o,ig v,ig a,ig b,ig da,ig db,iP p] (ig (kI da db p)):=by
 have q1:1<=p:= aE ;have q2:p<=4096:= aE ;exact ak call252 func252 (af [ai 16 v.all nA,ah 21 ((o.kind:Int)==3) (bk aE),.c (GR da db p aF aF aE aE)]) 
def akq(o:je)(v a b da db:Iv)(p:Nat)(hv:v.ik)(ha:a.ik)(hb:b.ik)(hd:da.ik)(he:db.ik)(iw:8<=p)(ij:p<=512)(nA:v.all=false)(hk:o.kind=4):gZ 252 [oD o,ig v,ig a,ig b,ig da,ig db,iP p] (ig (vh da db p)):=by
 have q1:1<=p:= aE ;have q2:p<=4096:= aE ;exact ak call252 func252 (af [ai 16 v.all nA,ai 21 ((o.kind:Int)==3) (bj aE),ah 27 ((o.kind:Int)==4) (bk aE),.c (Pf da db p aF aF aE aE)]) 
def akt(o:je)(v a b da db:Iv)(p:Nat)(hv:v.ik)(ha:a.ik)(hb:b.ik)(hd:da.ik)(he:db.ik)(iw:8<=p)(ij:p<=512)(nA:v.all=false)(hk:o.kind=7):gZ 252 [oD o,ig v,ig a,ig b,ig da,ig db,iP p] (ig (pM da)):=by
 have q1:1<=p:= aE ;have q2:p<=4096:= aE ;exact ak call252 func252 (af [ai 16 v.all nA,ai 21 ((o.kind:Int)==3) (bj aE),ai 27 ((o.kind:Int)==4) (bj aE),ah 33 ((o.kind:Int)==7) (bk aE),.c (Pc da aF)]) 
def akr(o:je)(v a b da db:Iv)(p:Nat)(hv:v.ik)(ha:a.ik)(hb:b.ik)(hd:da.ik)(he:db.ik)(iw:8<=p)(ij:p<=512)(nA:v.all=false)(hk:o.kind=5):gZ 252 [oD o,ig v,ig a,ig b,ig da,ig db,iP p] (ig (kI (jt da b p) (jt a db p) p)):=by
 have q1:1<=p:= aE ;have q2:p<=4096:= aE ;exact ak call252 func252 (af [ai 16 v.all nA,ai 21 ((o.kind:Int)==3) (bj aE),ai 27 ((o.kind:Int)==4) (bj aE),ai 33 ((o.kind:Int)==7) (bj aE),ah 37 ((o.kind:Int)==5) (bk aE),.c (CO da b p aF aF aE aE),.c (CO a db p aF aF aE aE),.c (GR (jt da b p) (jt a db p) p (pn _ _ q1 q2) (pn _ _ q1 q2) aE aE)]) 
def aks(o:je)(v a b da db:Iv)(p:Nat)(hv:v.ik)(ha:a.ik)(hb:b.ik)(hd:da.ik)(he:db.ik)(iw:8<=p)(ij:p<=512)(nA:v.all=false)(hk:o.kind=6):gZ 252 [oD o,ig v,ig a,ig b,ig da,ig db,iP p] (ig (jT (vh da (jt v db p) p) b p)):=by
 have q1:1<=p:= aE ;have q2:p<=4096:= aE ;exact ak call252 func252 (af [ai 16 v.all nA,ai 21 ((o.kind:Int)==3) (bj aE),ai 27 ((o.kind:Int)==4) (bj aE),ai 33 ((o.kind:Int)==7) (bj aE),ai 37 ((o.kind:Int)==5) (bj aE),ah 49 ((o.kind:Int)==6) (bk aE),.c (CO v db p aF aF aE aE),.c (Pf da (jt v db p) p aF (pn _ _ q1 q2) aE aE),.c (Xv (vh da (jt v db p) p) b p (qG hd (yF (pn _ _ q1 q2)) q1 q2) aF aE aE)]) 
def aku(o:je)(v a b da db:Iv)(p:Nat)(hv:v.ik)(ha:a.ik)(hb:b.ik)(hd:da.ik)(he:db.ik)(iw:8<=p)(ij:p<=512)(nA:v.all=false)(hk:o.kind=8)(h0:o.n=0):gZ 252 [oD o,ig v,ig a,ig b,ig da,ig db,iP p] (ig (jt (iS 0) da p)):=by
 have q1:1<=p:= aE ;have q2:p<=4096:= aE ;have vY:=J2;exact ak call252 func252 (af [ai 16 v.all nA,ai 21 ((o.kind:Int)==3) (bj aE),ai 27 ((o.kind:Int)==4) (bj aE),ai 33 ((o.kind:Int)==7) (bj aE),ai 37 ((o.kind:Int)==5) (bj aE),ai 49 ((o.kind:Int)==6) (bj aE),ah 61 ((o.kind:Int)==8) (bk aE),ah 64 ((o.n:Int)==0) (rF h0),.c (Hp 0 aE),.c (CO (iS 0) da p vY aF aE aE)]) 
def akv(o:je)(v a b da db:Iv)(p:Nat)(hv:v.ik)(ha:a.ik)(hb:b.ik)(hd:da.ik)(he:db.ik)(iw:8<=p)(ij:p<=512)(nA:v.all=false)(hk:o.kind=8)(h0:o.n≠0)(hn:o.n<=16):gZ 252 [oD o,ig v,ig a,ig b,ig da,ig db,iP p] (ig (jt (jt (iS (o.n:Int)) (mj a (o.n-1) p) p) da p)):=by
 have q1:1<=p:= aE ;have q2:p<=4096:= aE ;have vY:=J1 (aE:o.n<4294967296);have Ns:=O3 ha (o.n-1) q1 q2;exact ak call252 func252 (af [ai 16 v.all nA,ai 21 ((o.kind:Int)==3) (bj aE),ai 27 ((o.kind:Int)==4) (bj aE),ai 33 ((o.kind:Int)==7) (bj aE),ai 37 ((o.kind:Int)==5) (bj aE),ai 49 ((o.kind:Int)==6) (bj aE),ah 61 ((o.kind:Int)==8) (bk aE),ai 64 ((o.n:Int)==0) (nC h0),.c (Hp o.n aE),iz ((o.n:Int)-1) aE,.o 75 (aq ((o.n:Int)-1) ((o.n-1:Nat):Int) aE),ag [ig a,iP ((o.n-1:Nat):Int),iP p] (Xz _ _ _ aF aE aE aE),.c (CO (iS (o.n:Int)) (mj a (o.n-1) p) p vY Ns aE aE),.c (CO (jt (iS (o.n:Int)) (mj a (o.n-1) p) p) da p (pn _ _ q1 q2) aF aE aE)]) 
def akx(o:je)(v a b da db:Iv)(p:Nat)(hv:v.ik)(ha:a.ik)(hb:b.ik)(hd:da.ik)(he:db.ik)(iw:8<=p)(ij:p<=512)(hn:o.n<=16)(h1:3<=o.kind)(h2:o.kind<=8):gZ 252 [oD o,ig v,ig a,ig b,ig da,ig db,iP p] (ig (if v.all then iu else od o v a b da db p)):=by
 cases nA:v.all with
 |true=>exact akw o v a b da db p hv ha hb hd he iw ij nA
 |false=>
  rw[bu aG];have:o.kind=3\/o.kind=4\/o.kind=5\/o.kind=6\/o.kind=7\/o.kind=8:= aE ;unfold od;rcases this with h|h|h|h|h|h
  .rw [bu aE,bw h];exact akp o v a b da db p hv ha hb hd he iw ij nA h
  .rw [bu aE,bu aE,bw h];exact akq o v a b da db p hv ha hb hd he iw ij nA h
  .rw [bu aE,bu aE,bu aE,bw h];exact akr o v a b da db p hv ha hb hd he iw ij nA h
  .rw [bu aE,bu aE,bu aE,bu aE,bw h];exact aks o v a b da db p hv ha hb hd he iw ij nA h
  .rw [bu aE,bu aE,bu aE,bu aE,bu aE,bw h];exact akt o v a b da db p hv ha hb hd he iw ij nA h
  .rw [bu aE,bu aE,bu aE,bu aE,bu aE,bu aE,bw h];by_cases h0:o.n=0
   .rw [bw h0];exact aku o v a b da db p hv ha hb hd he iw ij nA h h0
   .rw [bu h0];exact akv o v a b da db p hv ha hb hd he iw ij nA h h0 hn
def ac3{o:je}{v:Iv}(hv:v.all=false)(hk:o.kind=1)(l c:List Iv)(p:Nat):sJ o v l c p=iS 0:=by
 unfold sJ;rw[bu (by rw[hv];decide)];unfold od;rw[bw hk]
def acM(t:kF)(l:List Iv)(i p:Nat)(h:wP t)(hr:q7 t)(h1:1<=t.im)(hl:l.length=t.im+t.ib.length)(hv:pT l)(sP:∀ k,k<t.ib.length->(t.ib.getD k iB).kind=1->(l.getD (t.im+k) iu).all=false)(iw:8<=p)(ij:p<=512):gZ 175 [kK t,iA l,iP i,iP p] (iA (jk t l i p t.ib.length)):=by
 have h8:=h.im;have zL:=h.ib;exact ak call175 func175 (af [.y 9 9 true 46 7 (jR (lO t.im i 0)),.s (Sp.jv (RM t l i p) 0 t.im aE (λx hx jU=>by
    have Ce:=KR t.im i x;exact iG (ae [tT 16 ((x:Int)<t.im) aE]<|.w (x=i)
     (λpy=>by
      have oL:(if x=i then iS 1 else iS 0)=iS 1:=by rw[bw py]
      have rh:=qU (iS 1);exact ae [ah 21 ((x:Int)==i) (bk aE),.c (Hp 1 aE),.o 24 (.e (mP _):aj (.sl true 1 7 λi_ j_=>(iZ (iS 1)).getD (i_*7+j_) (.v (.bool false))) (iA [iS 1])),.a (aE:((lO t.im i x).length+[iS 1].length)*88<=140737488355328),
       iz ((x:Int)+1) aE]<|.e (af [.b 9 (KS rfl rfl oL:Bx.le (.row true 46 ((lO t.im i x).length+[iS 1].length) 7 (λi_ j_=>if i_<(lO t.im i x).length then(jR (lO t.im i x)) i_ j_ else(E.kH (iA [iS 1])) (i_-(lO t.im i x).length) j_)) (.row true 46 ((lO t.im i (x+1)).length) 7 (jR (lO t.im i (x+1)))))]))
     (λpy=>by
      have oL:(if x=i then iS 1 else iS 0)=iS 0:=by rw[bu py]
      have rh:=qU (iS 0);exact ae [ai 21 ((x:Int)==i) (bj aE),.c (Hp 0 aE),.o 28 (.e (mP _):aj (.sl true 1 7 λi_ j_=>(iZ (iS 0)).getD (i_*7+j_) (.v (.bool false))) (iA [iS 0])),.a (aE:((lO t.im i x).length+[iS 0].length)*88<=140737488355328),
       iz ((x:Int)+1) aE]<|.e (af [.b 9 (KS rfl rfl oL:Bx.le (.row true 46 ((lO t.im i x).length+[iS 0].length) 7 (λi_ j_=>if i_<(lO t.im i x).length then(jR (lO t.im i x)) i_ j_ else(E.kH (iA [iS 0])) (i_-(lO t.im i x).length) j_)) (.row true 46 ((lO t.im i (x+1)).length) 7 (jR (lO t.im i (x+1)))))]))) aI)
  (λhx=>by
    exact iG (af [tF 16 ((t.im:Int)<t.im) aE]) aI) aM:ju 3 f175 (RM t l i p 0) (.exit 0) ⟨83,true,[(9,.own 9),(4,.box 4 0),(1,.e (iA l)),(3,.e (iP p))],[(9,.row true 46 ((lO t.im i t.im).length) 7 (jR (lO t.im i t.im))),(4,.cells 25 [iP t.im,lf t.ib,lp t.il])]⟩) (af [.b 9 (.iM rfl:Bx.le (.row true 46 0 7 (jR (lO t.im i 0))) (.row true 46 ((lO t.im i 0).length) 7 (jR (lO t.im i 0))))]),.s (Sp.jv (RN t l i p) 0 t.ib.length aE (λx hx jU=>by
    have iH:=h.op x aE;have Ce:=Fb t l i p x;have DQ:=Fc t hv i (aE:1<=p) (aE:p<=4096) x;by_cases mO:(t.ib.getD x iB).kind=1
    .have oL:sJ (t.ib.getD x iB) (l.getD (t.im+x) iu) l (jk t l i p x) p=iS 0:=ac3 (sP x aE mO) mO _ _ _;have rh:=qU (iS 0);exact iG (ae [tT 34 ((x:Int)<t.ib.length) aE,iX (x:Int) (t.ib.length) aE,ah 44 (((t.ib.getD x iB).kind:Int)==1) (bk aE),.c (Hp 0 aE),.o 47 (.e (mP _):aj (.sl true 1 7 λi_ j_=>(iZ (iS 0)).getD (i_*7+j_) (.v (.bool false))) (iA [iS 0])),.a (aE:((jk t l i p x).length+[iS 0].length)*88<=140737488355328),
      iz ((x:Int)+1) aE]<|.e (af [.b 9 (Ds rfl rfl oL:Bx.le (.row true 46 ((jk t l i p x).length+[iS 0].length) 7 (λi_ j_=>if i_<(jk t l i p x).length then(jR (jk t l i p x)) i_ j_ else(E.kH (iA [iS 0])) (i_-(jk t l i p x).length) j_)) (.row true 46 ((jk t l i p (x+1)).length) 7 (jR (jk t l i p (x+1)))))])) aI 
    .have h3:=iH.k3.resolve_left mO;have oa:=iH.E4 mO;have ob:=OO iH aE;have oL:sJ (t.ib.getD x iB) (l.getD (t.im+x) iu) l (jk t l i p x) p=if(l.getD (t.im+x) iu).all then iu else od (t.ib.getD x iB) (l.getD (t.im+x) iu) (l.getD ((t.ib.getD x iB).a) iu) (l.getD ((t.ib.getD x iB).b) iu) ((jk t l i p x).getD ((t.ib.getD x iB).a) iu) ((jk t l i p x).getD ((t.ib.getD x iB).b) iu) p:=rfl
     have rh:=qU (if(l.getD (t.im+x) iu).all then iu else od (t.ib.getD x iB) (l.getD (t.im+x) iu) (l.getD ((t.ib.getD x iB).a) iu) (l.getD ((t.ib.getD x iB).b) iu) ((jk t l i p x).getD ((t.ib.getD x iB).a) iu) ((jk t l i p x).getD ((t.ib.getD x iB).b) iu) p);exact iG (ae [tT 34 ((x:Int)<t.ib.length) aE,iX (x:Int) (t.ib.length) aE,ai 44 (((t.ib.getD x iB).kind:Int)==1) (bj aE),
      iz ((t.im:Int)+x) aE,iX ((t.im+x:Nat):Int) (l.length) aE,iX ((t.ib.getD x iB).a:Int) (l.length) aE,
      iX ((t.ib.getD x iB).b:Int) (l.length) aE,iX ((t.ib.getD x iB).a:Int) ((jk t l i p x).length) aE,.a (aE:(t.ib.getD x iB).a<(jk t l i p x).length),
      iX ((t.ib.getD x iB).b:Int) ((jk t l i p x).length) aE,.a (aE:(t.ib.getD x iB).b<(jk t l i p x).length),.c (akx (t.ib.getD x iB) (l.getD (t.im+x) iu) (l.getD (t.ib.getD x iB).a iu) (l.getD (t.ib.getD x iB).b iu) ((jk t l i p x).getD (t.ib.getD x iB).a iu) ((jk t l i p x).getD (t.ib.getD x iB).b iu) p (hv _) (hv _) (hv _) (DQ _) (DQ _) iw ij (Ka iH) h3 (hr x)),.o 80 (.e (mP _):aj (.sl true 1 7 λi_ j_=>(iZ (if(l.getD (t.im+x) iu).all then iu else od (t.ib.getD x iB) (l.getD (t.im+x) iu) (l.getD ((t.ib.getD x iB).a) iu) (l.getD ((t.ib.getD x iB).b) iu) ((jk t l i p x).getD ((t.ib.getD x iB).a) iu) ((jk t l i p x).getD ((t.ib.getD x iB).b) iu) p)).getD (i_*7+j_) (.v (.bool false))) (iA [if(l.getD (t.im+x) iu).all then iu else od (t.ib.getD x iB) (l.getD (t.im+x) iu) (l.getD ((t.ib.getD x iB).a) iu) (l.getD ((t.ib.getD x iB).b) iu) ((jk t l i p x).getD ((t.ib.getD x iB).a) iu) ((jk t l i p x).getD ((t.ib.getD x iB).b) iu) p])),.a (aE:((jk t l i p x).length+[if(l.getD (t.im+x) iu).all then iu else od (t.ib.getD x iB) (l.getD (t.im+x) iu) (l.getD ((t.ib.getD x iB).a) iu) (l.getD ((t.ib.getD x iB).b) iu) ((jk t l i p x).getD ((t.ib.getD x iB).a) iu) ((jk t l i p x).getD ((t.ib.getD x iB).b) iu) p].length)*88<=140737488355328),
      iz ((x:Int)+1) aE]<|.e (af [.b 9 (Ds rfl rfl oL:Bx.le (.row true 46 ((jk t l i p x).length+[if(l.getD (t.im+x) iu).all then iu else od (t.ib.getD x iB) (l.getD (t.im+x) iu) (l.getD ((t.ib.getD x iB).a) iu) (l.getD ((t.ib.getD x iB).b) iu) ((jk t l i p x).getD ((t.ib.getD x iB).a) iu) ((jk t l i p x).getD ((t.ib.getD x iB).b) iu) p].length) 7 (λi_ j_=>if i_<(jk t l i p x).length then(jR (jk t l i p x)) i_ j_ else(E.kH (iA [if(l.getD (t.im+x) iu).all then iu else od (t.ib.getD x iB) (l.getD (t.im+x) iu) (l.getD ((t.ib.getD x iB).a) iu) (l.getD ((t.ib.getD x iB).b) iu) ((jk t l i p x).getD ((t.ib.getD x iB).a) iu) ((jk t l i p x).getD ((t.ib.getD x iB).b) iu) p])) (i_-(jk t l i p x).length) j_)) (.row true 46 ((jk t l i p (x+1)).length) 7 (jR (jk t l i p (x+1)))))])) aI)
  (λhx=>by
    exact iG (ae [tF 34 ((t.ib.length:Int)<t.ib.length) aE,.z 9]<|.e (af [.o 9 (.e (zW aK):aj (.sl true ((jk t l i p t.ib.length).length) 7 (jR (jk t l i p t.ib.length))) (iA (jk t l i p t.ib.length)))])) aI) aM:ju 9 f175 (RN t l i p 0) (.exit 2) ⟨83,true,[(9,.e (iA (jk t l i p t.ib.length)))],[]⟩) (af [.b 9 (.iM rfl:Bx.le (.row true 46 ((lO t.im i t.im).length) 7 (jR (lO t.im i t.im))) (.row true 46 ((jk t l i p 0).length) 7 (jR (jk t l i p 0))))])]) 
def al2{n d:Int}{p:Nat}(hr:ml n d=true)(hp:8<=p)(ij:p<=512):(nX n d p).all=false:=by
 obtain⟨r1,r2,r3,r4⟩:=CQ hr;obtain⟨e,rfl⟩:=ek (aE:0<=d);by_cases h0:n=0
 .subst h0;rw[Yv hp ij hr]
 by_cases h1:0<n
 .obtain ⟨k,rfl⟩:=ek (aE:0<=n);obtain⟨K,k1,_,k2⟩:=IK (n:=k) (d:=e) aE aE aE p;rw[Yu aE aE hp ij k1 k2 hr]
 .obtain ⟨k,rfl⟩:∃ k:Nat,n = -(k:Int):=⟨n.natAbs,aE⟩
  obtain⟨K,k1,_,k2⟩:=IK (n:=k) (d:=e) aE aE aE p;rw[Yt aE aE hp ij k1 k2 hr]
def ZZ(ib:List je)(xs:List Iv)(p k:Nat):∀ m,∀ i,i<xs.length+k->(iR ib xs p (k+m)).getD i iu=(iR ib xs p k).getD i iu
 | 0,_,_=>rfl
 |m+1,i,hi=>by
  rw[<-ZZ ib xs p k m i hi];show(iR ib xs p (k+m)++[_]).getD i iu=_;rw[bD,dK (by rw[yS];omega),<-bD]
def aoK{t:kF}(h:wP t){xs:List Iv}(hx:xs.length=t.im){p:Nat}(hp:8<=p)(ij:p<=512){k:Nat}(hk:k<t.ib.length)(h1:(t.ib.getD k iB).kind=1):((iR t.ib xs p t.ib.length).getD (t.im+k) iu).all=false:=by
 obtain⟨m,e⟩:∃ m,t.ib.length=(k+1)+m:=⟨t.ib.length-(k+1),aE⟩
 rw[e,ZZ t.ib xs p (k+1) m (t.im+k) aE];show((iR t.ib xs p k++[rN (t.ib.getD k iB) (iR t.ib xs p k) p]).getD (t.im+k) iu).all=false;rw[bD,fc (by rw[yS,hx];exact bC _),yS,hx,dc];show(rN (t.ib.getD k iB) (iR t.ib xs p k) p).all=false;unfold rN;rw[bw h1];have hc:=(h.op k hk).c;rw[bw h1]at hc;exact al2 hc hp ij
def P5(t:kF)(xs:List Iv)(p m:Nat)(h:wP t)(hr:q7 t)(h0:1<=xs.length)(hx:xs.length=t.im)(hv:pT xs)(hm:m<=t.im)(iw:8<=p)(ij:p<=512):gZ 100 [kK t,iA xs,iP m,iP p] (.iC [iA (og t xs p),lV (my t xs p m)]):=by
 have h8:=h.im;have zL:=h.ib;have nI:=h.il;have h1:1<=t.im:= aE ;have zS:(iR t.ib xs p t.ib.length).length=t.im+t.ib.length:=by rw[yS,hx]
 have Jx:=Da t.ib hv (aE:1<=p) (aE:p<=4096) t.ib.length;have hvn:=λk hk h1=>aoK (xs:=xs) h hx iw ij (k:=k) hk h1
 exact ak call100 func100 (ae [.c (aaB t xs p h hr h0 hx hv aE aE),.a (aE:0<=((t.il.length:Int):Int)/\((t.il.length:Int):Int)<=((t.il.length:Int):Int)),.a (aE:((24:Nat):Int)*(t.il.length:Int)<=281474976710656/\((t.il.length:Int):Int)<=9223372036854775807),.y 11 11 true 46 7 (jR ((List.range 0).map (λj_=>(iR t.ib xs p t.ib.length).getD (t.il.getD j_ 0) iu))),.s (Sp.jv (Zu t xs p m) 0 t.il.length aE (λx hx jU=>by
    have Np:=h.out x aE;have Ce:=yS t.ib xs p t.ib.length;have rh:=qU ((iR t.ib xs p t.ib.length).getD (t.il.getD x 0) iu);exact iG (ae [tT 29 ((x:Int)<t.il.length) aE,iX (x:Int) (t.il.length) aE,iX (t.il.getD x 0:Int) ((iR t.ib xs p t.ib.length).length) aE,.o 41 (.e (mP _):aj (.sl true 1 7 λi_ j_=>(iZ ((iR t.ib xs p t.ib.length).getD (t.il.getD x 0) iu)).getD (i_*7+j_) (.v (.bool false))) (iA [(iR t.ib xs p t.ib.length).getD (t.il.getD x 0) iu])),.a (aE:(x+[(iR t.ib xs p t.ib.length).getD (t.il.getD x 0) iu].length)*88<=140737488355328),iz ((x:Int)+1) aE]<|.e (af [.b 11 (JK rfl rfl rfl:Bx.le (.row true 46 (x+[(iR t.ib xs p t.ib.length).getD (t.il.getD x 0) iu].length) 7 (λi_ j_=>if i_<x then(jR ((List.range x).map (λj_=>(iR t.ib xs p t.ib.length).getD (t.il.getD j_ 0) iu))) i_ j_ else(E.kH (iA [(iR t.ib xs p t.ib.length).getD (t.il.getD x 0) iu])) (i_-x) j_)) (.row true 46 (x+1) 7 (jR ((List.range (x+1)).map (λj_=>(iR t.ib xs p t.ib.length).getD (t.il.getD j_ 0) iu)))))])) aI)
  (λhx=>by
    exact iG (ae [tF 29 ((t.il.length:Int)<t.il.length) aE,.z 11]<|.e (af [.o 11 (.e (zW aK):aj (.sl true t.il.length 7 (jR ((List.range t.il.length).map (λj_=>(iR t.ib xs p t.ib.length).getD (t.il.getD j_ 0) iu)))) (iA ((List.range t.il.length).map (λj_=>(iR t.ib xs p t.ib.length).getD (t.il.getD j_ 0) iu))))])) aI) aM:ju 5 f100 (Zu t xs p m 0) (.exit 0) ⟨79,true,[(11,.e (iA ((List.range t.il.length).map (λj_=>(iR t.ib xs p t.ib.length).getD (t.il.getD j_ 0) iu)))),(12,.own 24),(10,.e (iA (iR t.ib xs p t.ib.length))),(4,.box 4 0),(2,.e (iP m)),(3,.e (iP p))],[(24,.lq true 26 46 t.il.length 7 (λ_=>0) (λ_ _ _=>.any) .none),(4,.cells 25 [iP t.im,lf t.ib,lp t.il])]⟩) .nil,.s (Sp.jv (Zs t xs p m) 0 m aE (λx hx jU=>by
    exact iG (ae [tT 45 ((x:Int)<m) aE,.c (acM t (iR t.ib xs p t.ib.length) x p h hr h1 zS Jx hvn iw ij),.s (Sp.jv (Zt t xs p m x) 0 t.il.length aE (λk hk DZ=>by
    have Np:=h.out k aE;have hle:mr (kv t.il.length (lG t xs p) x k) k=x:=Za aE ;have M4:=Fb t (iR t.ib xs p t.ib.length) x p t.ib.length;have rh:=qU ((jk t (iR t.ib xs p t.ib.length) x p t.ib.length).getD (t.il.getD k 0) iu);exact iG (ae [tT 57 ((k:Int)<t.il.length) aE,iX (k:Int) (t.il.length) aE,.a (aE:k<t.il.length),iX (k:Int) (t.il.length) aE,
     iX (t.il.getD k 0:Int) ((jk t (iR t.ib xs p t.ib.length) x p t.ib.length).length) aE,.o 74 (.e (mP _):aj (.sl true 1 7 λi_ j_=>(iZ ((jk t (iR t.ib xs p t.ib.length) x p t.ib.length).getD (t.il.getD k 0) iu)).getD (i_*7+j_) (.v (.bool false))) (iA [(jk t (iR t.ib xs p t.ib.length) x p t.ib.length).getD (t.il.getD k 0) iu])),.a (aE:k<t.il.length),.a (aE:((mr (kv t.il.length (lG t xs p) x k)) k+[(jk t (iR t.ib xs p t.ib.length) x p t.ib.length).getD (t.il.getD k 0) iu].length)*88<=140737488355328),
     iX (k:Int) (t.il.length) aE,.a (rfl:k=k),.a (rfl:k=k),.a (aE:k<t.il.length),iz ((k:Int)+1) aE]<|.e (af [.b 24 (Zd rfl rfl aE rfl:Bx.le (.lq true 26 46 t.il.length 7 (λq=>if q=k then(mr (kv t.il.length (lG t xs p) x k)) q+[(jk t (iR t.ib xs p t.ib.length) x p t.ib.length).getD (t.il.getD k 0) iu].length else(mr (kv t.il.length (lG t xs p) x k)) q) (λq i j=>if q=k then(if i<(mr (kv t.il.length (lG t xs p) x k)) q then(oF (kv t.il.length (lG t xs p) x k)) q i j else(E.kH (iA [(jk t (iR t.ib xs p t.ib.length) x p t.ib.length).getD (t.il.getD k 0) iu])) (i-(mr (kv t.il.length (lG t xs p) x k)) q) j)else(oF (kv t.il.length (lG t xs p) x k)) q i j) .none) (.lq true 26 46 t.il.length 7 (mr (kv t.il.length (lG t xs p) x (k+1))) (oF (kv t.il.length (lG t xs p) x (k+1))) .none))])) aI)
  (λhk=>by
    exact iG (af [tF 57 ((t.il.length:Int)<t.il.length) aE]) aI) aM:ju 13 f100 (Zt t xs p m x 0) (.exit 4) ⟨79,true,[(14,.e (iP x)),(11,.e (iA ((List.range t.il.length).map (λj_=>(iR t.ib xs p t.ib.length).getD (t.il.getD j_ 0) iu)))),(12,.own 24),(10,.e (iA (iR t.ib xs p t.ib.length))),(4,.box 4 0),(2,.e (iP m)),(3,.e (iP p))],[(24,.lq true 26 46 t.il.length 7 (mr (kv t.il.length (lG t xs p) x t.il.length)) (oF (kv t.il.length (lG t xs p) x t.il.length)) .none),(4,.cells 25 [iP t.im,lf t.ib,lp t.il])]⟩) .nil,
     iz ((x:Int)+1) aE]<|.e (af [.b 24 (Zc rfl:Bx.le (.lq true 26 46 t.il.length 7 (mr (kv t.il.length (lG t xs p) x t.il.length)) (oF (kv t.il.length (lG t xs p) x t.il.length)) .none) (.lq true 26 46 t.il.length 7 (mr (kv t.il.length (lG t xs p) (x+1) 0)) (oF (kv t.il.length (lG t xs p) (x+1) 0)) .none))])) aI)
  (λhx=>by
    exact iG (af [tF 45 ((m:Int)<m) aE]) aI) aM:ju 9 f100 (Zs t xs p m 0) (.exit 2) ⟨79,true,[(11,.e (iA ((List.range t.il.length).map (λj_=>(iR t.ib xs p t.ib.length).getD (t.il.getD j_ 0) iu)))),(12,.own 24)],[(24,.lq true 26 46 t.il.length 7 (mr (kv t.il.length (lG t xs p) m 0)) (oF (kv t.il.length (lG t xs p) m 0)) .none)]⟩) (af [.b 24 (Zb rfl:Bx.le (.lq true 26 46 t.il.length 7 (λ_=>0) (λ_ _ _=>.any) .none) (.lq true 26 46 t.il.length 7 (mr (kv t.il.length (lG t xs p) 0 0)) (oF (kv t.il.length (lG t xs p) 0 0)) .none))])]<|rR (.iC [iA (og t xs p),lV (my t xs p m)]) (.iC (.cons (.iM (by rw[S8])) (.cons (V1 (PY _ _ _ _).symm) .nil)):E.le (.iC [iA ((List.range t.il.length).map (λj_=>(iR t.ib xs p t.ib.length).getD (t.il.getD j_ 0) iu)),(.sl true t.il.length 1 λk_ _=>.sl true ((mr (kv t.il.length (lG t xs p) m 0)) k_) 7 ((oF (kv t.il.length (lG t xs p) m 0)) k_))]) (.iC [iA (og t xs p),lV (my t xs p m)]))) 
def ahj(s:kB)(b:List Iv)(p:Nat)(h:me s)(hr:q7 s.tape)(hb:mE s.iD b)(iV:gZ 31 [ji s,iA b] (bP true))(iw:8<=p)(ij:p<=512)(hn:nx (og s.tape (b++s.params) p)=true):gZ 51 [ji s,iA b,iP p] (.iC [.v (.slice none 0 0),iP 11]):=by
 have s4:=h.s4;have p4:=h.p4;have DT:=hb.len;have nI:=h.tape.il;have A6:=DF s.tape (b++s.params) p;obtain⟨f1,f2,f3,f4⟩:=BT h hb;have rW:=zY s.tape (b++s.params) p s.iD;have oK:=h.il;have FW:=h.im;have sN:s.iD<=1000:= aE ;exact ak call51 func51 (af [ag [ji s,iA b,iP p] (Ms _ _ _ iV aE aE),ai 17 ((0:Int) != 0) aG,.c (NJ s b aE aE),.c (P5 s.tape (b++s.params) p s.iD f1 hr f2 f3 f4 aE aE aE),ag [iA (og s.tape (b++s.params) p)] (EL _ aE),ah 32 (nx (og s.tape (b++s.params) p)) hn]) 
def ahk(s:kB)(b:List Iv)(p:Nat)(h:me s)(hr:q7 s.tape)(hb:mE s.iD b)(iV:gZ 31 [ji s,iA b] (bP true))(iw:8<=p)(ij:p<=512)(hn:nx (og s.tape (b++s.params) p)=false)(N:Nat)(mS:N<(my s.tape (b++s.params) p s.iD).length)(iQ:∀ i,i<N->(nx ((my s.tape (b++s.params) p s.iD).getD i []))=false)(hN:(nx ((my s.tape (b++s.params) p s.iD).getD N []))=true):gZ 51 [ji s,iA b,iP p] (.iC [.v (.slice none 0 0),iP 11]):=by
 have s4:=h.s4;have p4:=h.p4;have DT:=hb.len;have nI:=h.tape.il;have A6:=DF s.tape (b++s.params) p;obtain⟨f1,f2,f3,f4⟩:=BT h hb;have rW:=zY s.tape (b++s.params) p s.iD;have oK:=h.il;have FW:=h.im;have sN:s.iD<=1000:= aE ;exact ak call51 func51 (af [ag [ji s,iA b,iP p] (Ms _ _ _ iV aE aE),ai 17 ((0:Int) != 0) aG,.c (NJ s b aE aE),.c (P5 s.tape (b++s.params) p s.iD f1 hr f2 f3 f4 aE aE aE),ag [iA (og s.tape (b++s.params) p)] (EL _ aE),ai 32 (nx (og s.tape (b++s.params) p)) hn,.s (Sp.jv (Vn s b p N) 0 N aE (λi hi rX=>by
    exact iG (af [tT 36 ((i:Int)<((my s.tape (b++s.params) p s.iD).length:Int)) aE,iX (i:Int) ((my s.tape (b++s.params) p s.iD).length) aE,ag [iA ((my s.tape (b++s.params) p s.iD).getD i [])] (EL _ (Ga sN _)),ai 43 (nx ((my s.tape (b++s.params) p s.iD).getD i [])) (iQ i aE),
     iz ((i:Int)+1) aE]) aI)
  (λhi=>by
    exact iG (af [tT 36 ((N:Int)<((my s.tape (b++s.params) p s.iD).length:Int)) aE,iX (N:Int) ((my s.tape (b++s.params) p s.iD).length) aE,ag [iA ((my s.tape (b++s.params) p s.iD).getD N [])] (EL _ (Ga sN _)),ah 43 (nx ((my s.tape (b++s.params) p s.iD).getD N [])) hN]) aI) aM:ju 8 Tryz.f51 (Vn s b p N 0) .ret ⟨45,true,[(7,.e (iP 11)),(6,.e (.v (.slice none 0 0)))],[]⟩) .nil]) 
def ahl(s:kB)(b:List Iv)(p:Nat)(h:me s)(hr:q7 s.tape)(hb:mE s.iD b)(iV:gZ 31 [ji s,iA b] (bP true))(iw:8<=p)(ij:p<=512)(hn:nx (og s.tape (b++s.params) p)=false)(iQ:∀ i,i<(my s.tape (b++s.params) p s.iD).length->(nx ((my s.tape (b++s.params) p s.iD).getD i []))=false):gZ 51 [ji s,iA b,iP p] (.iC [lV (my s.tape (b++s.params) p s.iD),iP 0]):=by
 have s4:=h.s4;have p4:=h.p4;have DT:=hb.len;have nI:=h.tape.il;have A6:=DF s.tape (b++s.params) p;obtain⟨f1,f2,f3,f4⟩:=BT h hb;have rW:=zY s.tape (b++s.params) p s.iD;have oK:=h.il;have FW:=h.im;have sN:s.iD<=1000:= aE ;exact ak call51 func51 (af [ag [ji s,iA b,iP p] (Ms _ _ _ iV aE aE),ai 17 ((0:Int) != 0) aG,.c (NJ s b aE aE),.c (P5 s.tape (b++s.params) p s.iD f1 hr f2 f3 f4 aE aE aE),ag [iA (og s.tape (b++s.params) p)] (EL _ aE),ai 32 (nx (og s.tape (b++s.params) p)) hn,.s (Sp.jv (Vq s b p) 0 ((my s.tape (b++s.params) p s.iD).length) aE (λi hi rX=>by
    exact iG (af [tT 36 ((i:Int)<((my s.tape (b++s.params) p s.iD).length:Int)) aE,iX (i:Int) ((my s.tape (b++s.params) p s.iD).length) aE,ag [iA ((my s.tape (b++s.params) p s.iD).getD i [])] (EL _ (Ga sN _)),ai 43 (nx ((my s.tape (b++s.params) p s.iD).getD i [])) (iQ i aE),
     iz ((i:Int)+1) aE]) aI)
  (λhi=>by
    exact iG (af [tF 36 (((my s.tape (b++s.params) p s.iD).length:Int)<((my s.tape (b++s.params) p s.iD).length:Int)) aE]) aI) aM:ju 8 Tryz.f51 (Vq s b p 0) (.exit 0) ⟨45,true,[(10,.e (lV (my s.tape (b++s.params) p s.iD)))],[]⟩) .nil]) 
def Vr(s:kB)(b:List Iv)(p:Nat)(h:me s)(hr:q7 s.tape)(hb:mE s.iD b)(iV:gZ 31 [ji s,iA b] (bP true))(iw:8<=p)(ij:p<=512)(hn:oM s b p=true):gZ 51 [ji s,iA b,iP p] (.iC [.v (.slice none 0 0),iP 11]):=by
 unfold oM at hn;cases h1:nx (og s.tape (b++s.params) p)with
 |true=>exact ahj s b p h hr hb iV iw ij h1
 |false=>
  rw[h1,eU]at hn;unfold BQ at hn;rw[dH]at hn;obtain⟨i,hi,mK⟩:=hn;obtain⟨N,n1,n2,n3⟩:=rj (p:=λi=>nx ((my s.tape (b++s.params) p s.iD).getD i [])) ⟨i,bY.1 hi,mK⟩;exact ahk s b p h hr hb iV iw ij h1 N n1 n3 n2
def JL(s:kB)(b:List Iv)(p:Nat)(h:me s)(hr:q7 s.tape)(hb:mE s.iD b)(iV:gZ 31 [ji s,iA b] (bP true))(iw:8<=p)(ij:p<=512)(hn:oM s b p=false):gZ 51 [ji s,iA b,iP p] (.iC [lV (jy s b p),iP 0]):=by
 unfold oM at hn;rw[fg]at hn;exact ahl s b p h hr hb iV iw ij hn.1 λi hi=>by simpa using List.any_eq_false.1 hn.2 i (bY.2 hi)
def ahZ(m:List (List Iv))(n:Nat)(hm:rM m n n):gZ 221 [lV m] (bP true):=by
 have m1:=hm.lq;have m2:=hm.n1;have m8:=hm.n8;have m3:=hm.Aa (aE:0<n);exact ak call221 func221 (af [tF 7 ((m.length:Int)<1) aE,tF 11 (8<(m.length:Int)) aE,iX 0 (m.length) aE,tF 18 (((m.getD 0 []).length:Int)<1) aE,iX 0 (m.length) aE,tF 25 (8<((m.getD 0 []).length:Int)) aE,.s (Sp.jv (VT m) 0 m.length aE (λx hx jU=>by
    have FN:=hm.Aa (aE:x<n);exact iG (af [tT 30 ((x:Int)<m.length) aE,iX (x:Int) (m.length) aE,iX 0 (m.length) aE,ai 42 (((m.getD x []).length:Int) != ((m.getD 0 []).length:Int)) (Ag aE),.s (Sp.jv (VS m x) 0 ((m.getD x []).length) aE (λy hy Nj=>by
    exact iG (af [iX (x:Int) (m.length) aE,tT 49 ((y:Int)<((m.getD x []).length:Int)) aE,iX (x:Int) (m.length) aE,iX (y:Int) ((m.getD x []).length) aE,.c (Xx ((m.getD x []).getD y iu) (hm.ZY aE aE)),iz ((y:Int)+1) aE]) aI)
  (λhy=>by
    exact iG (af [iX (x:Int) (m.length) aE,tF 49 (((m.getD x []).length:Int)<((m.getD x []).length:Int)) aE]) aI) aM:ju 9 f221 (VS m x 0) (.exit 2) ⟨61,true,[(3,.e (iP x)),(0,.e (lV m))],[]⟩) .nil,
     iz ((x:Int)+1) aE]) aI)
  (λhx=>by
    exact iG (af [tF 30 ((m.length:Int)<m.length) aE]) aI) aM:ju 4 f221 (VT m 0) (.exit 0) ⟨61,true,[],[]⟩) .nil]) 
def amX(m:List (List Iv))(n:Nat)(hm:rM m n n):gZ 176 [lV m] (bP true):=by
 have m1:=hm.lq;have m2:=hm.n1;have m8:=hm.n8;have m3:=hm.Aa (aE:0<n);exact ak call176 func176 (af [ag [lV m] (ahZ _ _ hm),iX 0 (m.length) aE,ah 12 ((m.length:Int)==((m.getD 0 []).length:Int)) (Ot aE)]) 
def acw(m:List (List Iv))(n p:Nat)(hm:rM m n n)(iw:8<=p)(ij:p<=512):gZ 103 [lV m,iP p] (bP true):=
 ak call103 func103 (af [ag [lV m] (amX _ _ hm),ag [iP p] (Km _),ah 9 (kC (p:Int)) (pe.2 ⟨aE,aE⟩)]) 
def ada(r:List Iv)(i p:Nat)(hr:sI r)(hi:i<r.length)(hl:r.length<=1000)(iw:8<=p)(ij:p<=512)(hb:Ew r i p=true):gZ 104 [iA r,iP i,iP p] (ig (lY r i p)):=by
 have iQ:∀ k,k<r.length->rG r i p k=true:=λk hk=>cr.1 hb k (bY.2 hk)
 obtain⟨v1,v2⟩:=hr i hi;obtain⟨v3,v4⟩:=v1.kp;have v5:=xz r i (aE:1<=p) (aE:p<=4096) r.length;have v6:=qA v5;exact ak call104 func104 (ae [.o 15 (.e s7:aj (.agg ar) (ie jD)),.s (Sp.jv (R9 r i p) 0 r.length aE (λx hx jU=>by
    obtain⟨w1,w2⟩:=hr x aE;obtain⟨w5,w6⟩:=w1.kp;have w3:=xq w5 w6;have w4:=xz r i (aE:1<=p) (aE:p<=4096) x;exact iG (ae [tT 19 ((x:Int)<r.length) aE,iX (x:Int) (r.length) aE,ai 26 ((r.getD x iu).all) w2]<|.w (x=i)
     (λpy=>by
      have tw:kj r i p (x+1)=kj r i p x:=by rw[An,bw py]
      exact ae [ai 30 ((x:Int) != (i:Int)) (bq aE),iz ((x:Int)+1) aE]<|.e (af [.b 7 (.iM (by rw[tw]):Bx.le (.cells 39 (jq (kj r i p x))) (.cells 39 (jq (kj r i p (x+1)))))]))
     (λpy=>by
      have tw:kj r i p (x+1)=jf (jc (kj r i p x) (kS (r.getD x iu))) p true:=by rw[An,bu py]
      exact ae [ah 30 ((x:Int) != (i:Int)) (bt aE),iX (x:Int) (r.length) aE,.c (Kg (r.getD x iu) w1 w2),.c (CN (kj r i p x) (kS (r.getD x iu)) p true aF aF aE aE),ai 43 ((jx (jc (kj r i p x) (kS (r.getD x iu))) p true) != 0) (bq (Gz (iQ x aE) py)),iz ((x:Int)+1) aE]<|.e (af [.b 7 (.iM (by rw[tw]):Bx.le (.cells 39 (jq (jf (jc (kj r i p x) (kS (r.getD x iu))) p true))) (.cells 39 (jq (kj r i p (x+1)))))]))) aI)
  (λhx=>by
    exact iG (af [tF 19 ((r.length:Int)<r.length) aE]) aI) aM:ju 3 f104 (R9 r i p 0) (.exit 0) ⟨79,true,[(7,.box 7 0),(6,.box 6 0),(0,.e (iA r)),(1,.e (iP i)),(2,.e (iP p))],[(7,.cells 39 (jq (kj r i p r.length))),(6,.cells 46 au)]⟩) (af [.b 7 (.iM rfl:Bx.le (.cells 39 (jq jD)) (.cells 39 (jq (kj r i p 0))))]),
  iX (i:Int) (r.length) aE,ag [ie (kj r i p r.length)] (r9 _),.c (CN ((r.getD i iu).lo) (iU (kj r i p r.length)) p false aF (qA aF) aE aE),iX (i:Int) (r.length) aE,.c (CN ((r.getD i iu).hi) (kj r i p r.length) p true aF aF aE aE)]<|.w ((jx (jc ((r.getD i iu).lo) (iU (kj r i p r.length))) p false)=0)
  (λk1=>ae [tB 70 (bq k1)]<|.w ((jx (jc ((r.getD i iu).hi) (kj r i p r.length)) p true)=0)
   (λk2=>ae [tB 73 (bq k2)]<|rQ (ig (Iv.mk (jf (jc ((r.getD i iu).lo) (iU (kj r i p r.length))) p false) (jf (jc ((r.getD i iu).hi) (kj r i p r.length)) p true) false)) (ig (lY r i p)) (by unfold lY;rw[bw hb,bw bh]))
   (λk2=>ae [tB 73 (bt k2),.c oN]<|rQ (ig iu) (ig (lY r i p)) (by unfold lY;rw[bw hb,bu bh])))
  (λk1=>ae [tB 70 (bt k1),.c oN]<|rQ (ig iu) (ig (lY r i p)) (by unfold lY;rw[bw hb,bu bh]))) 
def adb(r:List Iv)(i p:Nat)(hr:sI r)(hi:i<r.length)(hl:r.length<=1000)(iw:8<=p)(ij:p<=512)(N:Nat)(mS:N<r.length)(iQ:∀ k,k<N->rG r i p k=true)(hN:rG r i p N=false):gZ 104 [iA r,iP i,iP p] (ig iu):=by
 have hNi:¬N=i:=λe=>by unfold rG at hN;rw[bA e]at hN;cases hN
 have MI:jx (jc (kj r i p N) (kS (r.getD N iu))) p true≠0:=λe=>by unfold rG at hN;rw[bA e,Bool.or_true]at hN;cases hN
 exact ak call104 func104 (af [.o 15 (.e s7:aj (.agg ar) (ie jD)),.s (Sp.jv (R8 r i p N) 0 N aE (λx hx jU=>by
    obtain⟨w1,w2⟩:=hr x aE;obtain⟨w5,w6⟩:=w1.kp;have w3:=xq w5 w6;have w4:=xz r i (aE:1<=p) (aE:p<=4096) x;exact iG (ae [tT 19 ((x:Int)<r.length) aE,iX (x:Int) (r.length) aE,ai 26 ((r.getD x iu).all) w2]<|.w (x=i)
     (λpy=>by
      have tw:kj r i p (x+1)=kj r i p x:=by rw[An,bw py]
      exact ae [ai 30 ((x:Int) != (i:Int)) (bq aE),iz ((x:Int)+1) aE]<|.e (af [.b 7 (.iM (by rw[tw]):Bx.le (.cells 39 (jq (kj r i p x))) (.cells 39 (jq (kj r i p (x+1)))))]))
     (λpy=>by
      have tw:kj r i p (x+1)=jf (jc (kj r i p x) (kS (r.getD x iu))) p true:=by rw[An,bu py]
      exact ae [ah 30 ((x:Int) != (i:Int)) (bt aE),iX (x:Int) (r.length) aE,.c (Kg (r.getD x iu) w1 w2),.c (CN (kj r i p x) (kS (r.getD x iu)) p true aF aF aE aE),ai 43 ((jx (jc (kj r i p x) (kS (r.getD x iu))) p true) != 0) (bq (Gz (iQ x aE) py)),iz ((x:Int)+1) aE]<|.e (af [.b 7 (.iM (by rw[tw]):Bx.le (.cells 39 (jq (jf (jc (kj r i p x) (kS (r.getD x iu))) p true))) (.cells 39 (jq (kj r i p (x+1)))))]))) aI)
  (λhx=>by
    obtain⟨w1,w2⟩:=hr N aE;obtain⟨w5,w6⟩:=w1.kp;have w3:=xq w5 w6;have w4:=xz r i (aE:1<=p) (aE:p<=4096) N;exact iG (af [tT 19 ((N:Int)<r.length) aE,iX (N:Int) (r.length) aE,ai 26 ((r.getD N iu).all) w2,ah 30 ((N:Int) != (i:Int)) (bt aE),
    iX (N:Int) (r.length) aE,.c (Kg (r.getD N iu) w1 w2),.c (CN (kj r i p N) (kS (r.getD N iu)) p true aF aF aE aE),tB 43 (bt MI),.c oN]) aI) aM:ju 3 f104 (R8 r i p N 0) .ret ⟨79,true,[(6,.box 6 0)],[(6,.cells 46 (iZ iu))]⟩) (af [.b 7 (.iM rfl:Bx.le (.cells 39 (jq jD)) (.cells 39 (jq (kj r i p 0))))])]) 
def ade(r:List Iv)(i p:Nat)(hr:sI r)(hi:i<r.length)(hl:r.length<=1000)(iw:8<=p)(ij:p<=512):gZ 104 [iA r,iP i,iP p] (ig (lY r i p)):=by
 by_cases c:Ew r i p=true
 .exact ada r i p hr hi hl iw ij c
 .obtain ⟨N,n1,n2,n3⟩:=xP c;have:=adb r i p hr hi hl iw ij N n1 (λk hk=>by simpa using n3 k hk) (by simpa using n2);rwa[show lY r i p=iu by unfold lY;rw[bu c]]
def LY(m:List (List Iv))(n p:Nat)(hm:rM m n n)(tv:∀ i,i<n->sI (m.getD i []))(iw:8<=p)(ij:p<=512):gZ 52 [lV m,iP p] (.iC [iA (kU m p),iP 0]):=by
 have m1:=hm.lq;have m8:=hm.n8;exact ak call52 func52 (af [ag [lV m,iP p] (acw _ _ _ hm aE aE),.y 6 6 true 46 7 (jR ((List.range 0).map (λi_=>lY (m.getD i_ []) i_ p))),.s (Sp.jv (Sc m p) 0 m.length aE (λx hx jU=>by
    have hrl:=hm.Aa (aE:x<n);have rh:=qU (lY (m.getD x []) x p);exact iG (ae [tT 15 ((x:Int)<m.length) aE,iX (x:Int) (m.length) aE,.c (ade (m.getD x []) x p (tv x aE) aE aE aE aE),.o 26 (.e (mP _):aj (.sl true 1 7 λi_ j_=>(iZ (lY (m.getD x []) x p)).getD (i_*7+j_) (.v (.bool false))) (iA [lY (m.getD x []) x p])),.a (aE:(x+[lY (m.getD x []) x p].length)*88<=140737488355328),iz ((x:Int)+1) aE]<|.e (af [.b 6 (JK rfl rfl rfl:Bx.le (.row true 46 (x+[lY (m.getD x []) x p].length) 7 (λi_ j_=>if i_<x then(jR ((List.range x).map (λi_=>lY (m.getD i_ []) i_ p))) i_ j_ else(E.kH (iA [lY (m.getD x []) x p])) (i_-x) j_)) (.row true 46 (x+1) 7 (jR ((List.range (x+1)).map (λi_=>lY (m.getD i_ []) i_ p)))))])) aI)
  (λhx=>by
    exact iG (ae [tF 15 ((m.length:Int)<m.length) aE,.z 6]<|.e (af [.o 6 (.e (zW aK):aj (.sl true m.length 7 (jR ((List.range m.length).map (λi_=>lY (m.getD i_ []) i_ p)))) (iA ((List.range m.length).map (λi_=>lY (m.getD i_ []) i_ p))))])) aI) aM:ju 5 Tryz.f52 (Sc m p 0) (.exit 0) ⟨29,true,[(6,.e (iA ((List.range m.length).map (λi_=>lY (m.getD i_ []) i_ p))))],[]⟩) .nil]) 
def adm(s:kB)(b:List Iv)(p:Nat)(h:me s)(hr:q7 s.tape)(hb:mE s.iD b)(iV:gZ 31 [ji s,iA b] (bP true))(iw:8<=p)(ij:p<=512)(hn:oM s b p=true):gZ 35 [ji s,iA b,iP p] (.iC [.agg au,iP 11]):=
 ak call35 func35 (af [ag [ji s,iA b,iP p] (Vr _ _ _ h hr hb iV iw ij hn),ah 20 ((11:Int) != 0) aG]) 
def adp(s:kB)(b:List Iv)(p:Nat)(h:me s)(hr:q7 s.tape)(hb:mE s.iD b)(iV:gZ 31 [ji s,iA b] (bP true))(iw:8<=p)(ij:p<=512)(hn:oM s b p=false):gZ 35 [ji s,iA b,iP p] (.iC [ig (pR (jy s b p) p (s.iD-1)),iP 0]):=by
 have p1:1<=p:= aE ;have p2:p<=4096:= aE ;have s1:=h.s1;have s4:=h.s4;have rW:=wk h b p;have wa:=Ee h b p (aE:0<s.iD);exact ak call35 func35 (af [ag [ji s,iA b,iP p] (JL _ _ _ h hr hb iV iw ij hn),ai 20 ((0:Int) != 0) aG,iX 0 ((jy s b p).length) aE,
  iX 0 (((jy s b p).getD 0 []).length) aE,.s (Sp.jv (Se s b p) 0 (s.iD-1) aE (λx hx jU=>by
    have oA:=Ee h b p (aE:x+1<s.iD);have we:=Cz h hb p1 p2 (x+1) (x+1);have rD:=Hg h hb p1 p2 x;exact iG (ae [tT 31 (((x+1:Nat):Int)<((jy s b p).length:Int)) aE,iX ((x+1:Nat):Int) ((jy s b p).length) aE,iX ((x+1:Nat):Int) (((jy s b p).getD (x+1) []).length) aE,.c (GR (pR (jy s b p) p x) (((jy s b p).getD (x+1) []).getD (x+1) iu) p aF aF aE aE),iz (((x+1:Nat):Int)+1) aE]<|.e (af [.b 10 (.iM rfl:Bx.le (.cells 46 (iZ (kI (pR (jy s b p) p x) (((jy s b p).getD (x+1) []).getD (x+1) iu) p))) (.cells 46 (iZ (pR (jy s b p) p (x+1)))))])) aI)
  (λhx=>by
    exact iG (af [tF 31 ((((s.iD-1)+1:Nat):Int)<((jy s b p).length:Int)) aE]) aI) aM:ju 6 Tryz.f35 (Se s b p 0) (.exit 0) ⟨45,true,[(10,.box 10 0),(6,.box 6 0)],[(10,.cells 46 (iZ (pR (jy s b p) p (s.iD-1)))),(6,.cells 46 au)]⟩) (af [.o 11 (aq 1 ((0+1:Nat):Int) aT),.b 10 (.iM rfl:Bx.le (.cells 46 (iZ (((jy s b p).getD 0 []).getD 0 iu))) (.cells 46 (iZ (pR (jy s b p) p 0))))])]) 
def am6(s:kB)(b:List Iv)(p:Nat)(h:me s)(hr:q7 s.tape)(hb:mE s.iD b)(iV:gZ 31 [ji s,iA b] (bP true))(iw:8<=p)(ij:p<=512)(hn:oM s b p=true):gZ 14 [ji s,iA b,iP p] (bP false):=
 ak call14 func14 (af [ag [ji s,iA b,iP p] (Vr _ _ _ h hr hb iV iw ij hn),ah 20 ((11:Int) != 0) aG]) 
def Pv{d:Iv}(h:rJ d=false):d.all=false/\decide (0<=d.hi.jb)=false:=by
 unfold rJ at h;exact fg.1 h
def ana(s:kB)(b:List Iv)(p:Nat)(h:me s)(hr:q7 s.tape)(hb:mE s.iD b)(iV:gZ 31 [ji s,iA b] (bP true))(iw:8<=p)(ij:p<=512)(hn:oM s b p=false)(iQ:∀ i,i<(kU (jy s b p) p).length->(rJ ((kU (jy s b p) p).getD i iu))=false):gZ 14 [ji s,iA b,iP p] (bP true):=by
 have p1:1<=p:= aE ;have p2:p<=4096:= aE ;have s1:=h.s1;have s4:=h.s4;have rW:=wk h b p;have B9:=y8 (jy s b p) p;have zC:∀ i,i<(kU (jy s b p) p).length->((kU (jy s b p) p).getD i iu).hi.ik:=λi hi=>by rw[Fk (by rw[y8]at hi;exact hi)];exact(IB _ _ p1 p2).2
 exact ak call14 func14 (af [ag [ji s,iA b,iP p] (JL _ _ _ h hr hb iV iw ij hn),ai 20 ((0:Int) != 0) aG,ag [lV (jy s b p),iP p] (LY _ _ _ (JM h hb p1 p2) (F9 h hb p1 p2 hn) iw ij),ai 28 ((0:Int) != 0) aG,.s (Sp.jv (Y8 s b p) 0 ((kU (jy s b p) p).length) aE (λi hi rX=>by
    have yi:=zC i aE;obtain⟨ga,gs⟩:=Pv (iQ i aE);exact iG (af [tT 32 ((i:Int)<((kU (jy s b p) p).length:Int)) aE,iX (i:Int) ((kU (jy s b p) p).length) aE,ai 39 (((kU (jy s b p) p).getD i iu).all) ga,
     iX (i:Int) ((kU (jy s b p) p).length) aE,ag [ie (((kU (jy s b p) p).getD i iu).hi)] (tI _),ai 47 (decide (0<=(Dy.jb (((kU (jy s b p) p).getD i iu).hi)))) gs,iz ((i:Int)+1) aE]) aI)
  (λhi=>by
    exact iG (af [tF 32 (((kU (jy s b p) p).length:Int)<((kU (jy s b p) p).length:Int)) aE]) aI) aM:ju 8 Tryz.f14 (Y8 s b p 0) (.exit 0) ⟨49,true,[],[]⟩) .nil]) 
def am7(s:kB)(b:List Iv)(p:Nat)(h:me s)(hr:q7 s.tape)(hb:mE s.iD b)(iV:gZ 31 [ji s,iA b] (bP true))(iw:8<=p)(ij:p<=512)(hn:oM s b p=false)(N:Nat)(mS:N<(kU (jy s b p) p).length)(iQ:∀ i,i<N->(rJ ((kU (jy s b p) p).getD i iu))=false)(hN:((kU (jy s b p) p).getD N iu).all=true):gZ 14 [ji s,iA b,iP p] (bP false):=by
 have p1:1<=p:= aE ;have p2:p<=4096:= aE ;have s1:=h.s1;have s4:=h.s4;have rW:=wk h b p;have B9:=y8 (jy s b p) p;have zC:∀ i,i<(kU (jy s b p) p).length->((kU (jy s b p) p).getD i iu).hi.ik:=λi hi=>by rw[Fk (by rw[y8]at hi;exact hi)];exact(IB _ _ p1 p2).2
 exact ak call14 func14 (af [ag [ji s,iA b,iP p] (JL _ _ _ h hr hb iV iw ij hn),ai 20 ((0:Int) != 0) aG,ag [lV (jy s b p),iP p] (LY _ _ _ (JM h hb p1 p2) (F9 h hb p1 p2 hn) iw ij),ai 28 ((0:Int) != 0) aG,.s (Sp.jv (Y6 s b p N) 0 N aE (λi hi rX=>by
    have yi:=zC i aE;obtain⟨ga,gs⟩:=Pv (iQ i aE);exact iG (af [tT 32 ((i:Int)<((kU (jy s b p) p).length:Int)) aE,iX (i:Int) ((kU (jy s b p) p).length) aE,ai 39 (((kU (jy s b p) p).getD i iu).all) ga,
     iX (i:Int) ((kU (jy s b p) p).length) aE,ag [ie (((kU (jy s b p) p).getD i iu).hi)] (tI _),ai 47 (decide (0<=(Dy.jb (((kU (jy s b p) p).getD i iu).hi)))) gs,iz ((i:Int)+1) aE]) aI)
  (λhi=>by
    have yi:=zC N aE;exact iG (af [tT 32 ((N:Int)<((kU (jy s b p) p).length:Int)) aE,iX (N:Int) ((kU (jy s b p) p).length) aE,ah 39 (((kU (jy s b p) p).getD N iu).all) hN]) aI) aM:ju 8 Tryz.f14 (Y6 s b p N 0) .ret ⟨49,true,[(6,.e (bP false))],[]⟩) .nil]) 
def am8(s:kB)(b:List Iv)(p:Nat)(h:me s)(hr:q7 s.tape)(hb:mE s.iD b)(iV:gZ 31 [ji s,iA b] (bP true))(iw:8<=p)(ij:p<=512)(hn:oM s b p=false)(N:Nat)(mS:N<(kU (jy s b p) p).length)(iQ:∀ i,i<N->(rJ ((kU (jy s b p) p).getD i iu))=false)(hN:((kU (jy s b p) p).getD N iu).all=false)(rT:0<=((kU (jy s b p) p).getD N iu).hi.jb):gZ 14 [ji s,iA b,iP p] (bP false):=by
 have p1:1<=p:= aE ;have p2:p<=4096:= aE ;have s1:=h.s1;have s4:=h.s4;have rW:=wk h b p;have B9:=y8 (jy s b p) p;have zC:∀ i,i<(kU (jy s b p) p).length->((kU (jy s b p) p).getD i iu).hi.ik:=λi hi=>by rw[Fk (by rw[y8]at hi;exact hi)];exact(IB _ _ p1 p2).2
 exact ak call14 func14 (af [ag [ji s,iA b,iP p] (JL _ _ _ h hr hb iV iw ij hn),ai 20 ((0:Int) != 0) aG,ag [lV (jy s b p),iP p] (LY _ _ _ (JM h hb p1 p2) (F9 h hb p1 p2 hn) iw ij),ai 28 ((0:Int) != 0) aG,.s (Sp.jv (Y7 s b p N) 0 N aE (λi hi rX=>by
    have yi:=zC i aE;obtain⟨ga,gs⟩:=Pv (iQ i aE);exact iG (af [tT 32 ((i:Int)<((kU (jy s b p) p).length:Int)) aE,iX (i:Int) ((kU (jy s b p) p).length) aE,ai 39 (((kU (jy s b p) p).getD i iu).all) ga,
     iX (i:Int) ((kU (jy s b p) p).length) aE,ag [ie (((kU (jy s b p) p).getD i iu).hi)] (tI _),ai 47 (decide (0<=(Dy.jb (((kU (jy s b p) p).getD i iu).hi)))) gs,iz ((i:Int)+1) aE]) aI)
  (λhi=>by
    have yi:=zC N aE;exact iG (af [tT 32 ((N:Int)<((kU (jy s b p) p).length:Int)) aE,iX (N:Int) ((kU (jy s b p) p).length) aE,ai 39 (((kU (jy s b p) p).getD N iu).all) hN,
    iX (N:Int) ((kU (jy s b p) p).length) aE,ag [ie (((kU (jy s b p) p).getD N iu).hi)] (tI _),tB 47 (bA rT)]) aI) aM:ju 8 Tryz.f14 (Y7 s b p N 0) .ret ⟨49,true,[(6,.e (bP false))],[]⟩) .nil]) 
def am9(s:kB)(b:List Iv)(p:Nat)(h:me s)(hr:q7 s.tape)(hb:mE s.iD b)(iV:gZ 31 [ji s,iA b] (bP true))(iw:8<=p)(ij:p<=512):gZ 14 [ji s,iA b,iP p] (bP (xF s b p)):=by
 unfold xF;cases hn:oM s b p with
 |true=>exact am6 s b p h hr hb iV iw ij hn
 |false=>
  rw[eO,eA];cases ha:((List.range (kU (jy s b p) p).length).any λi=>rJ ((kU (jy s b p) p).getD i iu))with
  |false=>exact ana s b p h hr hb iV iw ij hn λi hi=>by simpa using List.any_eq_false.1 ha i (bY.2 hi)
  |true=>
   rw[dH]at ha;obtain⟨i,hi,mK⟩:=ha;obtain⟨N,n1,n2,n3⟩:=rj (p:=λi=>(rJ ((kU (jy s b p) p).getD i iu))) ⟨i,bY.1 hi,mK⟩;cases hq:((kU (jy s b p) p).getD N iu).all with
   |true=>exact am7 s b p h hr hb iV iw ij hn N n1 n3 hq
   |false=>
    refine am8 s b p h hr hb iV iw ij hn N n1 n3 hq ?_;have n2:(rJ ((kU (jy s b p) p).getD N iu))=true:=n2;unfold rJ at n2;rw[hq,eU]at n2;exact cR n2
def aop(s:kB)(b:List Iv)(p:Nat)(h:me s)(hr:q7 s.tape)(hb:mE s.iD b)(iV:gZ 31 [ji s,iA b] (bP true))(iw:8<=p)(ij:p<=512)(hn:oM s b p=true):gZ 15 [ji s,iA b,iP p] (bP false):=
 ak call15 func15 (af [ag [ji s,iA b,iP p] (adm _ _ _ h hr hb iV iw ij hn),ai 17 ((11:Int)==0) aG]) 
def aor(s:kB)(b:List Iv)(p:Nat)(h:me s)(hr:q7 s.tape)(hb:mE s.iD b)(iV:gZ 31 [ji s,iA b] (bP true))(iw:8<=p)(ij:p<=512)(hn:oM s b p=false):gZ 15 [ji s,iA b,iP p] (bP (decide (0<lZ (pR (jy s b p) p (s.iD-1))))):=by
 have p1:1<=p:= aE ;have p2:p<=4096:= aE ;have s1:=h.s1;have s4:=h.s4;have rW:=wk h b p;have Jw:=Hg h hb p1 p2 (s.iD-1);exact ak call15 func15 (af [ag [ji s,iA b,iP p] (adp _ _ _ h hr hb iV iw ij hn),ah 17 ((0:Int)==0) aG,.c (Pe (pR (jy s b p) p (s.iD-1)) Jw)]) 
def aoq(s:kB)(b:List Iv)(p:Nat)(h:me s)(hr:q7 s.tape)(hb:mE s.iD b)(iV:gZ 31 [ji s,iA b] (bP true))(iw:8<=p)(ij:p<=512):gZ 15 [ji s,iA b,iP p] (bP (yP s b p)):=by
 unfold yP;cases hn:oM s b p with
 |true=>exact aop s b p h hr hb iV iw ij hn
 |false=>exact aor s b p h hr hb iV iw ij hn
inductive mG where
 |num (n:Int)
 |var (y:Bool)
 |un (k n:Nat) (e:mG)
 |iO (k:Nat) (a b:mG)
def jB:mG->List E
 | .num n=>[iP 1,iP n,iP 1,.v (.string ⟨#[]⟩),iP 0,.v (.slice none 0 0)]
 | .var true=>[iP 2,iP 0,iP 0,.v (.string ⟨#[121]⟩),iP 0,.v (.slice none 0 0)]
 | .var false=>[iP 2,iP 0,iP 0,.v (.string ⟨#[120]⟩),iP 0,.v (.slice none 0 0)]
 | .un k n e=>[iP (k:Int),iP 0,iP 0,.v (.string ⟨#[]⟩),iP (n:Int),.sl true 1 6 λi j=>(jB e).getD (i*6+j) (.v (.bool false))]
 | .iO k a b=>[iP (k:Int),iP 0,iP 0,.v (.string ⟨#[]⟩),iP 0,.sl true 2 6 λi j=>(jB a++jB b).getD (i*6+j) (.v (.bool false))]
def jG(e:mG):E:=.agg (jB e)
def oj:E:=.sl true 2 1 λi j=>[.v (.string ⟨#[120]⟩),.v (.string ⟨#[121]⟩)].getD (i*1+j) (.v (.bool false))
def nM(q o:je):Bool:=decide ((q.kind:Int)=o.kind/\(q.a:Int)=o.a/\(q.b:Int)=o.b/\(q.n:Int)=o.n/\q.cn=o.cn/\q.cd=o.cd)
def zh(l:List je)(o:je):Nat->Option Nat
 | 0=>none
 |k+1=>match zh l o k with
  |some i=>some i
  |none=>if nM (l.getD k iB) o then some k else none
def qH(t:kF)(o:je):kF×Nat:=match zh t.ib o t.ib.length with
 |some i=>(t,t.im+i)
 |none=>({ t with ib:=t.ib++[o] },t.im+t.ib.length)
def iy(t:kF):mG->kF×Nat
 | .num n=>qH t ⟨1,0,0,0,n,1⟩
 | .var y=>(t,if y then 1 else 0)
 | .un k n e=>qH (iy t e).1 ⟨k,(iy t e).2,0,n,0,0⟩
 | .iO k a b=>qH (iy (iy t a).1 b).1 ⟨k,(iy t a).2,(iy (iy t a).1 b).2,0,0,0⟩
def Mu{l:List je}{o:je}:∀ {k:Nat},zh l o k=none->∀ i,i<k->nM (l.getD i iB) o=false
 | 0,_,i,hi=>absurd hi (bO i)
 |k+1,h,i,hi=>by
  unfold zh at h;split at h
  .cases h
  .rename_i h1;split at h
   .cases h
   .rename_i h2;by_cases e:i=k
    .subst e;exact bn h2
    .exact Mu h1 i aE 
def Mv{l:List je}{o:je}{N:Nat}:∀ {k:Nat},zh l o k=some N->N<k/\nM (l.getD N iB) o=true/\∀ i,i<N->nM (l.getD i iB) o=false
 | 0,h=>by cases h
 |k+1,h=>by
  unfold zh at h;split at h
  .rename_i i h1;cases h;obtain⟨a,b,c⟩:=Mv h1;exact⟨aE,b,c⟩
  .rename_i h1;split at h
   .rename_i h2;cases h;exact⟨aE,h2,Mu h1⟩
   .cases h
structure vu(o:je):Prop where
 k:o.kind<=1000
 a:o.a<=1000
 b:o.b<=1000
 n:o.n<=1000
 c1:-1099511627776<=o.cn
 c2:o.cn<=1099511627776
 d1:-1099511627776<=o.cd
 d2:o.cd<=1099511627776
def Aj(q o:je)(hq:vu q)(ho:vu o):nn prog .eql 74 (oD q) (oD o) (.bool (nM q o)):=by
 obtain⟨a1,a2,a3,a4,a5,a6,a7,a8⟩:=hq;obtain⟨b1,b2,b3,b4,b5,b6,b7,b8⟩:=ho;exact GC aW aW aW aW aW aW aW aW aW aW aW aW 
def OR{l:List je}{o:je}{p:E}(hp:∀ j,j<6->p.kH 0 j=(xy o).getD j .any):E.le (.sl true (0+l.length+1) 6 λi j=>if i<0+l.length then(λi_ j_=>if i_<0 then(λi_ j_=>([]:List E).getD (i_*6+j_) (.v (.bool false))) i_ j_ else(E.kH (lf l)) (i_-0) j_) i j else(E.kH p) (i-(0+l.length)) j) (lf (l++[o])):=by
 have e:lf (l++[o]) = .sl true (0+l.length+1) 6 λi j=>(xy ((l++[o]).getD i iB)).getD j .any:=by unfold lf;rw[cE,cD];rfl
 rw[e];refine .sl λi j hi hj=>⟨.iM ?_,?_⟩
 .rw [cD]at *
  by_cases h:i<l.length
  .rw [bw h];show(xy (l.getD i iB)).getD j .any=(xy ((l++[o]).getD i iB)).getD j .any;congr 2;simp[bD,dK h]
  .have nh:i=l.length:= aE ;subst nh;rw[bu h,dc,hp j hj];congr 2;simp[bD]
 .unfold xy;rcases j with _|_|_|_|_|_|j
  all_goals first|rfl|omega
def mG.sz:mG->Nat
 | .num _=>1
 | .var _=>1
 | .un _ _ e=>e.sz+1
 | .iO _ a b=>a.sz+b.sz+1
def mG.Ok:mG->Prop
 | .num n=>-1073741824<=n/\n<=1073741824
 | .var _=>True
 | .un k n e=>7<=k/\k<=8/\(if k=8 then n<=16 else n=0)/\e.Ok
 | .iO k a b=>3<=k/\k<=6/\a.Ok/\b.Ok
structure pA(t:kF):Prop where
 im:t.im=2
 op:∀ i,i<t.ib.length->mZ (t.ib.getD i iB) (t.im+i)
def pA.sm{t:kF}(h:pA t)(hl:t.ib.length<=900)(i:Nat)(hi:i<t.ib.length):vu (t.ib.getD i iB):=by
 have ho:=h.op i hi;have h2:=h.im;obtain⟨k3,yz,oa,ob,on,oc⟩:=ho;refine⟨aE,?_,?_,?_,?_,?_,?_,?_⟩
 .split at oa<;>omega
 .split at ob<;>omega
 .split at on<;>omega
 all_goals
  split at oc
  .have:=CQ oc;omega
  .omega
def pA.add{t:kF}(h:pA t){o:je}(ho:mZ o (t.im+t.ib.length)):pA (qH t o).1/\(qH t o).2<(qH t o).1.im+(qH t o).1.ib.length/\(qH t o).1.ib.length<=t.ib.length+1/\t.ib.length<=(qH t o).1.ib.length/\(qH t o).1.il=t.il:=by
 unfold qH;split
 .rename_i i hi;obtain⟨q,_⟩:=Mv hi;exact⟨h,by show t.im+i<t.im+t.ib.length;omega,by show t.ib.length<=_;omega,bC _,rfl⟩
 .refine ⟨⟨h.im,λi hi=>?_⟩,?_,?_,?_,rfl⟩
  .have hi:i<(t.ib++[o]).length:=hi;show mZ ((t.ib++[o]).getD i iB) (t.im+i);rw[cE,gh]at hi;by_cases e:i<t.ib.length
   .rw [bD,dK e,<-bD];exact h.op i e
   .obtain rfl:i=t.ib.length:= aE ;simpa[bD]using ho
  .show t.im+t.ib.length<t.im+(t.ib++[o]).length;simp
  .show (t.ib++[o]).length<=_;simp
  .show _<=(t.ib++[o]).length;simp
def akR{n:Int}(h1:-1073741824<=n)(h2:n<=1073741824):ml n 1=true:=by
 unfold ml;simp[h1,h2]
def aiZ{n:Int}{m:Nat}(h1:-1073741824<=n)(h2:n<=1073741824):mZ ⟨1,0,0,0,n,1⟩ m:=by
 refine⟨.inl rfl,by show 1<=13;decide,?_,?_,?_,?_⟩
 .rw [bw rfl]
 .rw [bu (by show ¬(3<=1/\1<=6);decide)]
 .rw [bu (by show ¬1=8;decide)]
 .rw [bw rfl];exact akR h1 h2
def aol{k n a m:Nat}(h7:7<=k)(h8:k<=8)(hn:if k=8 then n<=16 else n=0)(ha:a<m):mZ ⟨k,a,0,n,0,0⟩ m:=by
 refine⟨.inr (by show 3<=k;omega),by show k<=13;omega,?_,?_,hn,?_⟩
 .rw [bu (by show ¬k=1;omega)];exact ha
 .rw [bu (by show ¬(3<=k/\k<=6);omega)]
 .rw [bu (by show ¬k=1;omega)];exact⟨rfl,rfl⟩
def abo{k a b m:Nat}(h3:3<=k)(h6:k<=6)(ha:a<m)(hb:b<m):mZ ⟨k,a,b,0,0,0⟩ m:=by
 refine⟨.inr h3,by show k<=13;omega,?_,?_,?_,?_⟩
 .rw [bu (by show ¬k=1;omega)];exact ha
 .rw [bw ⟨h3,h6⟩];exact hb
 .rw [bu (by show ¬k=8;omega)]
 .rw [bu (by show ¬k=1;omega)];exact⟨rfl,rfl⟩
def xx:∀ (e:mG) {t:kF},e.Ok->pA t->pA (iy t e).1/\(iy t e).2<(iy t e).1.im+(iy t e).1.ib.length/\(iy t e).1.ib.length<=t.ib.length+e.sz/\t.ib.length<=(iy t e).1.ib.length/\(iy t e).1.il=t.il
 | .num n,t,h,k=>k.add (aiZ h.1 h.2)
 | .var y,t,_,k=>by
  have:=k.im;refine⟨k,?_,?_,?_,rfl⟩
  .show (if y then 1 else 0)<t.im+t.ib.length;cases y<;>simp<;>omega
  .show t.ib.length<=t.ib.length+1;omega
  .show t.ib.length<=t.ib.length;omega
 | .un c n e,t,⟨h7,h8,hn,he⟩,k=>by
  obtain⟨k1,k2,k3,k4,k5⟩:=xx e he k;obtain⟨q1,q2,q3,q4,q5⟩:=k1.add (aol (n:=n) h7 h8 hn k2);exact⟨q1,q2,by show(qH _ _).1.ib.length<=t.ib.length+(e.sz+1);omega,bG k4 q4,q5.trans k5⟩
 | .iO c a b,t,⟨h3,h6,ha,hb⟩,k=>by
  obtain⟨k1,k2,k3,k4,k5⟩:=xx a ha k;obtain⟨l1,l2,l3,l4,l5⟩:=xx b hb k1;have e1:=k1.im;have e2:=l1.im;obtain⟨q1,q2,q3,q4,q5⟩:=l1.add (abo h3 h6 (show(iy t a).2<_ by omega) l2);exact⟨q1,q2,by show(qH _ _).1.ib.length<=t.ib.length+(a.sz+b.sz+1);omega,bG k4 (bG l4 q4),q5.trans (l5.trans k5)⟩
def lJ:kF:=⟨2,[],[]⟩
def s6(a b:mG):kB:=⟨⟨2,(iy (iy lJ a).1 b).1.ib,[(iy lJ a).2,(iy (iy lJ a).1 b).2]⟩,2,[]⟩
def Zm{a b:mG}(ha:a.Ok)(hb:b.Ok)(hs:a.sz+b.sz<=200):me (s6 a b):=by
 have k:pA lJ:=⟨rfl,λi hi=>absurd hi (bO i)⟩
 obtain⟨k1,k2,k3,k4,k5⟩:=xx a ha k;obtain⟨l1,l2,l3,l4,l5⟩:=xx b hb k1;have e1:=k1.im;have e2:=l1.im;have k3':(iy lJ a).1.ib.length<=0+a.sz:=k3;refine⟨⟨by show 2<=8;decide,by show(iy (iy lJ a).1 b).1.ib.length<=200;omega,by show 2<=200;decide,λi hi=>?_,λi hi=>?_⟩,by show 1<=2;decide,by show 2<=4;decide,rfl,rfl,by show 0<=4;decide,λi hi=>absurd hi (bO i)⟩
 .have:=l1.op i hi;rw[e2]at this;exact this
 .have hi:i<2:=hi;show[(iy lJ a).2,(iy (iy lJ a).1 b).2].getD i 0<2+(iy (iy lJ a).1 b).1.ib.length;obtain rfl|rfl:i=0\/i=1:= aE 
  .show (iy lJ a).2<_;omega
  .show (iy (iy lJ a).1 b).2<_;omega
end Go.Proofs.YtkjkcjhacddojaaGreatDoor
