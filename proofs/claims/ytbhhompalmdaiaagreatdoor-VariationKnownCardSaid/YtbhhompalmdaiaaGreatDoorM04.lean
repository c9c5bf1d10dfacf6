/- Lemmas that the last file uses. -/
import Derived.Test.YtbhhompalmdaiaaGreatDoorM03
import Derived.DeepKeys
set_option linter.unusedSimpArgs false
set_option linter.unusedVariables false
set_option linter.defProp false
set_option maxHeartbeats 4000000
open Go.Proofs.Tryz
namespace Go.Proofs.YtbhhompalmdaiaaGreatDoor
open Go.RowKit Fp Pu
def Gx(w:World)(L:List Nat)(e:Ending)(w':World):Prop:=∃ A c,e = .returned (.slice A L.length c)/\Sl w' A c L/\iG w w'/\∀ b o s,A=some ⟨b,o,s⟩->w.heap.size<=b
def Gx.l{w:World}{L:List Nat}{e:Ending}{w':World}(h:Gx w L e w'):sR w L e w':=let⟨A,c,h1,h2,h3,_⟩:=h;⟨A,c,h1,h2,h3⟩
def Ow.YR{w:World}{base:Nat}{v:Value}{L:List Nat}(h:Ow w base v L):∃ A c,v = .slice A L.length c/\Sl w A c L/\∀ b o s,A=some ⟨b,o,s⟩->base<=b:=by
 obtain⟨A,c,h1,h2⟩:=h.sl;refine⟨A,c,h1,h2,λb o s e=>?_⟩;rcases h.row.2 with⟨h3,_⟩|⟨g,cap,cur,h3,hb,_⟩
 .rw [h1,e]at h3;injection h3 with h3;cases h3
 .rw [h1,e]at h3;injection h3 with h3;cases h3;exact hb
def ak4{B br:Nat->Prop}{w w':World}{A:Option Addr}{c:Nat}{L:List Nat}(hB:∀ b,B b->b<w.heap.size)(h:Sl w' A c L)(hf:∀ b o s,A=some ⟨b,o,s⟩->w.heap.size<=b):iR B br w' (iw L) (.slice A L.length c):=by
 refine .sl false L.length 1 _ A c (λi _=>.int .u32 (L.getD i 0:Int)) h.cap h.pS h.w9 (λi j _ _=>⟨rfl,λh=>by cases h⟩) (λi j _ _=>rfl) (λi j hi hj=>?_) (λi j _ _=>.v _);obtain rfl:j=0:= aD ;obtain⟨b,o,e1,iO,mf⟩:=h.lL hi;have e2:L.getD i 0=L[i]:=by simp[bu,hi]
 refine⟨b,o,e1,λtq=>?_,iO,by rw[cg,bK,mf,e2]⟩;have:=hB b tq;have:=hf _ _ _ e1;omega
abbrev vZ(f:FuncId)(args:List E)(kj:E):Prop:=AT prog Tb f args kj
def aid{f:FuncId}{L M:List Nat}(hk:iK L)(hc:∀ (vs:Array Value) (w:World),(callFunc f vs).run prog w = .ok (.enter f vs) w)
 (H:∀ A c w,Sl w A c L->Tb w->Calls prog f #[.slice A L.length c] w (Gx w M)):vZ f [iw L] (iw M):=by
 refine⟨hc,λw B vs hK hB hr=>?_⟩;obtain⟨v1,vs,rfl,h1,hr⟩:=hr.my;obtain rfl:=hr.pH;obtain⟨A,c,rfl,s1⟩:=uI hk h1;refine(H A c w s1 hK).mono λe w' ⟨A,c,q1,q2,q3,q4⟩=>⟨_,q1,q3,ak4 hB q2 q4⟩
def ajs(A:Option Addr)(c:Nat)(L:List Nat)(w:World)(hs:Sl w A c L)(hlen:L.length<=100000000):
 Calls prog 252 #[.slice A L.length c] w (Gx w (iy L)):=by
 have hc:=hs.cap;have hl:=hs.pS;have fin:∀ k:Nat,k=(iy L).length->Hid (iy L=L.take k):=λk hk=>by rw[hk];exact Gf L
 go_enter func252,ntmps252;go_wp2;go_loop [3] (λi=>∃ k:Nat,k<=L.length/\i = .int .i64 k/\mn L=mn (L.take k)) (λi=>(intOf i).toNat)
 case atStart=>exact⟨L.length,bp _,rfl,aJ⟩
 case round=>
  obtain⟨k,hk,rfl,ht⟩:=hrel;have HT:=anQ ht;clear ht;have lT:([]:List Nat).length+(L.take k).length<=10000000000:=by rw[cG];simp;omega
  have HK:=anQ (show k=(L.take k).length by rw[cG];omega);have h1:=Ow.empty w w.heap.size (bp _);have h2:=(hs.take k).alloc (.cells #[] 72);have h3:=pR (w:=w) (bp _) (.cells #[] 72);by_cases h0:0<k
  .obtain ⟨ab,ao,rfl,hb,xH⟩:=hs.lL (i:=k-1) aD ;have e1:((k:Int)-1).toNat=k-1:= aD ;have Z:=anQ (J8 L (k-1) aD);have NZ:=anQ (J7 L (k-1) aD);rw[fA h0]at Z NZ;generalize L[k-1]=x at *
   by_cases hx:x=0
   .have Hx:=anQ hx;clear hx;have hb:((x:Int)==0)=true:=by have:=Hx.out;simp;omega
    clear fin;go_wp2;go_round
    case rel=>exact⟨k-1,aD,by go_num,by rw[HT.out,Z.out Hx.out]⟩
    case measure=>simp[intOf];omega
   .have hb:((x:Int)==0)=false:= aR ;have F:=fin k (by show k=mn L;rw[HT.out,NZ.out hx]);clear fin;go_wp2_with (at_builtin;go_must (refine qQ aI _ _ aI w.heap.size _ [] aI h1 _ _ _ (L.take k) aI HK.out h2 lT h3 ?_);intro v' w' oq hg oO)
    obtain⟨A',c',rfl,mQ,MC⟩:=oq.YR;go_ret;rw[F.out];exact⟨A',c',rfl,mQ,(iG.alloc _ _).grown hg (pR (bp _) _) (λk hk=>by simp[Value.ownBlock]at hk;omega),MC⟩
  .have:k=0:= aD ;subst this;have F:=fin 0 (by show 0=mn L;rw[HT.out];rfl);clear fin;go_wp2_with (at_builtin;go_must (refine qQ aI _ _ aI w.heap.size _ [] aI h1 _ _ _ (L.take 0) aI HK.out h2 lT h3 ?_);intro v' w' oq hg oO)
   obtain⟨A',c',rfl,mQ,MC⟩:=oq.YR;go_ret;rw[F.out];exact⟨A',c',rfl,mQ,(iG.alloc _ _).grown hg (pR (bp _) _) (λk hk=>by simp[Value.ownBlock]at hk;omega),MC⟩
def yf(L:List Nat)(hk:iK L)(hl:L.length<=100000):vZ 252 [iw L] (iw (iy L)):=
 aid hk call252 λA c w h _=>ajs A c L w h aD 
def Xt(L M:List Nat)(N k:Nat)(x:Nat):PS:=⟨30,true,[(5,.e (iP ((N:Int)-1-(x:Int)))),(0,.e (iw L)),(1,.e (iw M))],[]⟩
def Xv(L M:List Nat)(N k:Nat)(x:Nat):PS:=⟨30,true,[(5,.e (iP ((N:Int)-1-(x:Int)))),(0,.e (iw L)),(1,.e (iw M))],[]⟩
def Xu(L M:List Nat)(N k:Nat)(x:Nat):PS:=⟨30,true,[(5,.e (iP ((N:Int)-1-(x:Int)))),(0,.e (iw L)),(1,.e (iw M))],[]⟩
def Xq(L:List Nat)(k:Nat)(x:Nat):PS:=⟨31,true,[(3,.e (iP ((L.length:Int)-1-(x:Int)))),(0,.e (iw L))],[]⟩
def Xp(L:List Nat)(k:Nat)(x:Nat):PS:=⟨31,true,[(3,.e (iP ((L.length:Int)-1-(x:Int)))),(0,.e (iw L))],[]⟩
def Xr(L:List Nat)(k:Nat)(y:Nat):PS:=⟨31,true,[(5,.e (.v (.int .u32 (((L.getD ((L.length:Int)-1-(k:Int)).toNat 0)/2^y:Nat):Int)))),(4,.e (iP ((32*((L.length:Int)-1-(k:Int)))+(y:Int))))],[]⟩
def rj(L:List Nat)(z:Int)(hk:iK L)(h0:0<=z):ig 256 [iw L,iP z] (.v (.int .u64 (L.getD z.toNat 0:Int))):=by
 have h1:=hk.getD z.toNat
 exact ak call256 func256 (.w (z<(L.length:Int))
  (λk1=>af [tB 8 (bq k1),iX z (L.length) aD,.o 13 (.int (oj _ aD):aj (.v (.int .u64 (IntKind.u64.wrap ((L.getD (z).toNat 0:Nat):Int)))) (.v (.int .u64 ((L.getD (z).toNat 0:Nat):Int))))])
  (λk1=>by
   have hz:L.getD z.toNat 0=0:=by rw[bu,cw aD];rfl
   exact ae [tB 8 (bt k1)]<|rQ (.v (.int .u64 0)) (.v (.int .u64 (L.getD z.toNat 0:Int))) (by rw[hz];rfl))) 
def zh(L:List Nat)(n:Nat)(hk:iK L):ig 256 [iw L,iP (n:Int)] (.v (.int .u64 (L.getD n 0:Int))):=rj L n hk (Int.natCast_nonneg n)
def aiA(L M:List Nat)(N k:Nat)(hL:iK L)(hM:iK M)(hN:N=max L.length M.length)(hs:N<=1000000)(heq:∀ x,x<k->L.getD (N-1-x) 0=M.getD (N-1-x) 0)(hk:k=N):ig 210 [iw L,iw M] (iP 0):=
 ak call210 func210 (af [.o 10 (an (if(M.length:Int)>(L.length:Int)then(M.length:Int)else(L.length:Int)) N (by rw[hN];split<;>omega)),
  iC ((N:Int)-1) aD,.s (Sp.jP (Xt L M N k) 0 k aD (λx hx lp=>by
    have hj:(((N:Int)-1-(x:Int))).toNat=N-1-x:= aD ;have he:=heq x aD;rw[<-hj]at he;exact iM (ae [tT 13 (0<=((N:Int)-1-(x:Int))) aD,ag [iw L,iP ((N:Int)-1-(x:Int))] (rj _ _ aE aD),ag [iw M,iP ((N:Int)-1-(x:Int))] (rj _ _ aE aD),tF 22 (((L.getD ((N:Int)-1-(x:Int)).toNat 0:Nat):Int)<((M.getD ((N:Int)-1-(x:Int)).toNat 0:Nat):Int)) aD,ag [iw L,iP ((N:Int)-1-(x:Int))] (rj _ _ aE aD),ag [iw M,iP ((N:Int)-1-(x:Int))] (rj _ _ aE aD),tF 29 (((M.getD ((N:Int)-1-(x:Int)).toNat 0:Nat):Int)<((L.getD ((N:Int)-1-(x:Int)).toNat 0:Nat):Int)) aD,
     iC (((N:Int)-1-(x:Int))-1) aD]<|.e (af [.o 5 (an (((N:Int)-1-(x:Int))-1) ((N:Int)-1-((x+1:Nat):Int)) aS)])) aG)
  (λhx=>by
    exact iM (af [tF 13 (0<=((N:Int)-1-(k:Int))) aD]) aG) aK:jO 2 f210 (Xt L M N k 0) (.exit 0) ⟨30,true,[],[]⟩) (af [.o 5 (an ((N:Int)-1) ((N:Int)-1-((0:Nat):Int)) aS)])]) 
def aiC(L M:List Nat)(N k:Nat)(hL:iK L)(hM:iK M)(hN:N=max L.length M.length)(hs:N<=1000000)(heq:∀ x,x<k->L.getD (N-1-x) 0=M.getD (N-1-x) 0)(hk:k<N)(hd:L.getD (N-1-k) 0<M.getD (N-1-k) 0):ig 210 [iw L,iw M] (iP (-1)):=
 ak call210 func210 (ae [.o 10 (an (if(M.length:Int)>(L.length:Int)then(M.length:Int)else(L.length:Int)) N (by rw[hN];split<;>omega)),
  iC ((N:Int)-1) aD,.s (Sp.jP (Xv L M N k) 0 k aD (λx hx lp=>by
    have hj:(((N:Int)-1-(x:Int))).toNat=N-1-x:= aD ;have he:=heq x aD;rw[<-hj]at he;exact iM (ae [tT 13 (0<=((N:Int)-1-(x:Int))) aD,ag [iw L,iP ((N:Int)-1-(x:Int))] (rj _ _ aE aD),ag [iw M,iP ((N:Int)-1-(x:Int))] (rj _ _ aE aD),tF 22 (((L.getD ((N:Int)-1-(x:Int)).toNat 0:Nat):Int)<((M.getD ((N:Int)-1-(x:Int)).toNat 0:Nat):Int)) aD,ag [iw L,iP ((N:Int)-1-(x:Int))] (rj _ _ aE aD),ag [iw M,iP ((N:Int)-1-(x:Int))] (rj _ _ aE aD),tF 29 (((M.getD ((N:Int)-1-(x:Int)).toNat 0:Nat):Int)<((L.getD ((N:Int)-1-(x:Int)).toNat 0:Nat):Int)) aD,
     iC (((N:Int)-1-(x:Int))-1) aD]<|.e (af [.o 5 (an (((N:Int)-1-(x:Int))-1) ((N:Int)-1-((x+1:Nat):Int)) aS)])) aG)
  (λhx=>by
    have hj:(((N:Int)-1-(k:Int))).toNat=N-1-k:= aD ;rw[<-hj]at hd;exact iM (af [tT 13 (0<=((N:Int)-1-(k:Int))) aD,ag [iw L,iP ((N:Int)-1-(k:Int))] (rj _ _ aE aD),ag [iw M,iP ((N:Int)-1-(k:Int))] (rj _ _ aE aD),tT 22 (((L.getD ((N:Int)-1-(k:Int)).toNat 0:Nat):Int)<((M.getD ((N:Int)-1-(k:Int)).toNat 0:Nat):Int)) aD]) aG) aK:jO 2 f210 (Xv L M N k 0) .ret ⟨30,true,[(4,.e (iP (-1)))],[]⟩) (af [.o 5 (an ((N:Int)-1) ((N:Int)-1-((0:Nat):Int)) aS)])]<|rR (iP (-1)) (.jb rfl:E.le (iP (-1)) (iP (-1)))) 
def aiB(L M:List Nat)(N k:Nat)(hL:iK L)(hM:iK M)(hN:N=max L.length M.length)(hs:N<=1000000)(heq:∀ x,x<k->L.getD (N-1-x) 0=M.getD (N-1-x) 0)(hk:k<N)(hd:M.getD (N-1-k) 0<L.getD (N-1-k) 0):ig 210 [iw L,iw M] (iP 1):=
 ak call210 func210 (af [.o 10 (an (if(M.length:Int)>(L.length:Int)then(M.length:Int)else(L.length:Int)) N (by rw[hN];split<;>omega)),
  iC ((N:Int)-1) aD,.s (Sp.jP (Xu L M N k) 0 k aD (λx hx lp=>by
    have hj:(((N:Int)-1-(x:Int))).toNat=N-1-x:= aD ;have he:=heq x aD;rw[<-hj]at he;exact iM (ae [tT 13 (0<=((N:Int)-1-(x:Int))) aD,ag [iw L,iP ((N:Int)-1-(x:Int))] (rj _ _ aE aD),ag [iw M,iP ((N:Int)-1-(x:Int))] (rj _ _ aE aD),tF 22 (((L.getD ((N:Int)-1-(x:Int)).toNat 0:Nat):Int)<((M.getD ((N:Int)-1-(x:Int)).toNat 0:Nat):Int)) aD,ag [iw L,iP ((N:Int)-1-(x:Int))] (rj _ _ aE aD),ag [iw M,iP ((N:Int)-1-(x:Int))] (rj _ _ aE aD),tF 29 (((M.getD ((N:Int)-1-(x:Int)).toNat 0:Nat):Int)<((L.getD ((N:Int)-1-(x:Int)).toNat 0:Nat):Int)) aD,
     iC (((N:Int)-1-(x:Int))-1) aD]<|.e (af [.o 5 (an (((N:Int)-1-(x:Int))-1) ((N:Int)-1-((x+1:Nat):Int)) aS)])) aG)
  (λhx=>by
    have hj:(((N:Int)-1-(k:Int))).toNat=N-1-k:= aD ;rw[<-hj]at hd;exact iM (af [tT 13 (0<=((N:Int)-1-(k:Int))) aD,ag [iw L,iP ((N:Int)-1-(k:Int))] (rj _ _ aE aD),ag [iw M,iP ((N:Int)-1-(k:Int))] (rj _ _ aE aD),tF 22 (((L.getD ((N:Int)-1-(k:Int)).toNat 0:Nat):Int)<((M.getD ((N:Int)-1-(k:Int)).toNat 0:Nat):Int)) aD,ag [iw L,iP ((N:Int)-1-(k:Int))] (rj _ _ aE aD),ag [iw M,iP ((N:Int)-1-(k:Int))] (rj _ _ aE aD),tT 29 (((M.getD ((N:Int)-1-(k:Int)).toNat 0:Nat):Int)<((L.getD ((N:Int)-1-(k:Int)).toNat 0:Nat):Int)) aD]) aG) aK:jO 2 f210 (Xu L M N k 0) .ret ⟨30,true,[(4,.e (iP 1))],[]⟩) (af [.o 5 (an ((N:Int)-1) ((N:Int)-1-((0:Nat):Int)) aS)])]) 
def Xw(L M:List Nat)(hL:iK L)(hM:iK M)(h1:L.length<=1000000)(h2:M.length<=1000000):ig 210 [iw L,iw M] (iP (kD (val L) (val M))):=by
 obtain⟨N,hN⟩:∃ N,N=max L.length M.length:=⟨_,rfl⟩
 have vL:val L<4294967296^N:=bT (mC hL) (bI aF aD);have vM:val M<4294967296^N:=bT (mC hM) (bI aF aD);by_cases h:∃ x,x<N/\(decide (L.getD (N-1-x) 0≠M.getD (N-1-x) 0))=true
 .obtain ⟨k,k1,k2,k3⟩:=sY h;have heq:∀ x,x<k->L.getD (N-1-x) 0=M.getD (N-1-x) 0:=λx hx=>by simpa using k3 x hx
  have kq:L.getD (N-1-k) 0≠M.getD (N-1-k) 0:=by simpa using k2
  have By:∀ i,N-1-k<i->iH (val L) i=iH (val M) i:=λi hi=>by
   by_cases hiN:i<N
   .have:=heq (N-1-i) aD ;rw[(aD:N-1-(N-1-i)=i),px hL,px hM]at this;exact this
   .rw [uW vL aD,uW vM aD]
  rw[px hL,px hM]at kq;rcases Nat.lt_or_gt_of_ne kq with hd|hd
  .have:=V3 vL vM By hd;refine(aiC L M N k hL hM hN aD heq k1 (by rw[px hL,px hM];exact hd)).kj (.jb ?_);unfold kD;rw[bn this]
  .have:=V3 vM vL (λi hi=>(By i hi).symm) hd;refine(aiB L M N k hL hM hN aD heq k1 (by rw[px hL,px hM];exact hd)).kj (.jb ?_);unfold kD;rw[bl aD,bn this]
 .have heq:∀ x,x<N->L.getD (N-1-x) 0=M.getD (N-1-x) 0:=λx hx=>by
   apply b9;intro q;exact h ⟨x,hx,by simpa using q⟩
  have By:∀ i,iH (val L) i=iH (val M) i:=λi=>by
   by_cases hiN:i<N
   .have:=heq (N-1-i) aD ;rw[(aD:N-1-(N-1-i)=i),px hL,px hM]at this;exact this
   .rw [uW vL aD,uW vM aD]
  refine(aiA L M N N hL hM hN aD heq rfl).kj (.jb ?_);rw[SN vL vM λi _=>By i];unfold kD;rw[bl (e9 _),bl (e9 _)]
def aiF(L M:List Nat)(hL:iK L)(hM:iK M)(h1:L.length<=1000000)(h2:M.length<=1000000):ig 288 [iw L,iw M] (bP (decide (kD (val L) (val M)<0))):=
 ak call288 func288 (af [ag [iw L,iw M] (Xw _ _ aE aE aD aD)]) 
def aiy(L:List Nat)(k:Nat)(hL:iK L)(hs:L.length<=1000000)(hz:∀ x,x<k->L.getD (L.length-1-x) 0=0)(hk:k=L.length):ig 206 [iw L] (iP 0):=
 ak call206 func206 (af [iC ((L.length:Int)-1) aD,.s (Sp.jP (Xq L k) 0 k aD (λx hx lp=>by
    have hj:(((L.length:Int)-1-(x:Int))).toNat=L.length-1-x:= aD ;have he:=hz x aD;rw[<-hj]at he;exact iM (ae [tT 10 (0<=((L.length:Int)-1-(x:Int))) aD,iX ((L.length:Int)-1-(x:Int)) (L.length) aD,ai 17 (((L.getD ((L.length:Int)-1-(x:Int)).toNat 0:Nat):Int) != 0) (Ar he),iC (((L.length:Int)-1-(x:Int))-1) aD]<|.e (af [.o 3 (an (((L.length:Int)-1-(x:Int))-1) ((L.length:Int)-1-((x+1:Nat):Int)) aS)])) aG)
  (λhx=>by
    exact iM (af [tF 10 (0<=((L.length:Int)-1-(k:Int))) aD]) aG) aK:jO 2 f206 (Xq L k 0) (.exit 0) ⟨31,true,[],[]⟩) (af [.o 3 (an ((L.length:Int)-1) ((L.length:Int)-1-((0:Nat):Int)) aS)])]) 
def aix(L:List Nat)(k:Nat)(hL:iK L)(hs:L.length<=1000000)(hz:∀ x,x<k->L.getD (L.length-1-x) 0=0)(hk:k<L.length)(hd:L.getD (L.length-1-k) 0≠0):ig 206 [iw L] (iP ((32*((L.length:Int)-1-(k:Int)))+(iA (L.getD ((L.length:Int)-1-(k:Int)).toNat 0):Int))):=
 ak call206 func206 (af [iC ((L.length:Int)-1) aD,.s (Sp.jP (Xp L k) 0 k aD (λx hx lp=>by
    have hj:(((L.length:Int)-1-(x:Int))).toNat=L.length-1-x:= aD ;have he:=hz x aD;rw[<-hj]at he;exact iM (ae [tT 10 (0<=((L.length:Int)-1-(x:Int))) aD,iX ((L.length:Int)-1-(x:Int)) (L.length) aD,ai 17 (((L.getD ((L.length:Int)-1-(x:Int)).toNat 0:Nat):Int) != 0) (Ar he),iC (((L.length:Int)-1-(x:Int))-1) aD]<|.e (af [.o 3 (an (((L.length:Int)-1-(x:Int))-1) ((L.length:Int)-1-((x+1:Nat):Int)) aS)])) aG)
  (λhx=>by
    have hj:(((L.length:Int)-1-(k:Int))).toNat=L.length-1-k:= aD ;have iO:=hL.getD ((L.length:Int)-1-(k:Int)).toNat
    have lS:iA (L.getD ((L.length:Int)-1-(k:Int)).toNat 0)<=32:=kV.2 iO;rw[<-hj]at hd;exact iM (af [tT 10 (0<=((L.length:Int)-1-(k:Int))) aD,iX ((L.length:Int)-1-(k:Int)) (L.length) aD,ah 17 (((L.getD ((L.length:Int)-1-(k:Int)).toNat 0:Nat):Int) != 0) (C9 hd),iC (32*((L.length:Int)-1-(k:Int))) aD,
    iX ((L.length:Int)-1-(k:Int)) (L.length) aD,.s (Sp.jP (Xr L k) 0 (iA (L.getD ((L.length:Int)-1-(k:Int)).toNat 0)) aD (λy hy EH=>by
    have hp:0<(L.getD ((L.length:Int)-1-(k:Int)).toNat 0)/2^y:=gJ (wX.1 aD) (bA aF);exact iM (ae [tT 25 (0<(((L.getD ((L.length:Int)-1-(k:Int)).toNat 0)/2^y:Nat):Int)) aD,iC (((32*((L.length:Int)-1-(k:Int)))+(y:Int))+1) aD,.a (aD:0<=(1:Int)/\(1:Int)<=((32:Nat):Int)),.o 27 (.int (zp _ _):aj (.v (.int .u32 ((((L.getD ((L.length:Int)-1-(k:Int)).toNat 0)/2^y:Nat):Int)/2^1))) (.v (.int .u32 ((((L.getD ((L.length:Int)-1-(k:Int)).toNat 0)/2^y)/2^1:Nat):Int))))]<|.e (af [.o 5 (.int (by rw[cU,<-bG]):aj (.v (.int .u32 ((((L.getD ((L.length:Int)-1-(k:Int)).toNat 0)/2^y)/2^1:Nat):Int))) (.v (.int .u32 (((L.getD ((L.length:Int)-1-(k:Int)).toNat 0)/2^(y+1):Nat):Int)))),.o 4 (an (((32*((L.length:Int)-1-(k:Int)))+(y:Int))+1) ((32*((L.length:Int)-1-(k:Int)))+((y+1:Nat):Int)) aS)])) aG)
  (λhy=>by
    have hp:(L.getD ((L.length:Int)-1-(k:Int)).toNat 0)/2^(iA (L.getD ((L.length:Int)-1-(k:Int)).toNat 0))=0:=cA (pE _);exact iM (af [tF 25 (0<(((L.getD ((L.length:Int)-1-(k:Int)).toNat 0)/2^(iA (L.getD ((L.length:Int)-1-(k:Int)).toNat 0)):Nat):Int)) aD]) aG) aK:jO 7 f206 (Xr L k 0) (.exit 2) ⟨31,true,[(4,.e (iP ((32*((L.length:Int)-1-(k:Int)))+(iA (L.getD ((L.length:Int)-1-(k:Int)).toNat 0):Int))))],[]⟩) (af [.o 5 (.int (by rw[ca,dL]):aj (.v (.int .u32 ((L.getD ((L.length:Int)-1-(k:Int)).toNat 0:Nat):Int))) (.v (.int .u32 (((L.getD ((L.length:Int)-1-(k:Int)).toNat 0)/2^0:Nat):Int)))),.o 4 (an (32*((L.length:Int)-1-(k:Int))) ((32*((L.length:Int)-1-(k:Int)))+((0:Nat):Int)) aS)])]) aG) aK:jO 2 f206 (Xp L k 0) .ret ⟨31,true,[(2,.e (iP ((32*((L.length:Int)-1-(k:Int)))+(iA (L.getD ((L.length:Int)-1-(k:Int)).toNat 0):Int))))],[]⟩) (af [.o 3 (an ((L.length:Int)-1) ((L.length:Int)-1-((0:Nat):Int)) aS)])]) 
def Xs(L:List Nat)(hL:iK L)(h1:L.length<=1000000):ig 206 [iw L] (iP (iA (val L))):=by
 by_cases h:∃ x,x<L.length/\(decide (L.getD (L.length-1-x) 0≠0))=true
 .obtain ⟨k,k1,k2,k3⟩:=sY h;have hz:∀ x,x<k->L.getD (L.length-1-x) 0=0:=λx hx=>by simpa using k3 x hx
  have kq:L.getD (L.length-1-k) 0≠0:=by simpa using k2
  refine(aix L k hL h1 hz k1 kq).kj (.jb ?_);have hj:(((L.length:Int)-1-(k:Int))).toNat=L.length-1-k:= aD ;rw[hj];have hb:=QX (n:=val L) (k:=L.length-1-k) (Kk hL λi hi=>by
   by_cases uc:i<L.length
   .have:=hz (L.length-1-i) aD ;rwa[(aD:L.length-1-(L.length-1-i)=i)]at this
   .rw [bu,cw aD];rfl) (by rw[<-px hL];exact kq)
  rw[hb,<-px hL];exact congrArg iP aD 
 .have hz:∀ x,x<L.length->L.getD (L.length-1-x) 0=0:=λx hx=>by
   apply b9;intro q;exact h ⟨x,hx,by simpa using q⟩
  refine(aiy L L.length hL h1 hz rfl).kj (.jb ?_);have:val L<4294967296^0:=Kk hL λi _=>by
   by_cases uc:i<L.length
   .have:=hz (L.length-1-i) aD ;rwa[(aD:L.length-1-(L.length-1-i)=i)]at this
   .rw [bu,cw aD];rfl
  have h0:val L=0:=by rw[ca]at this;omega
  rw[h0];rfl
def Xo(L M:List Nat)(N:Nat)(x:Nat):PS:=⟨41,false,[(5,.own 5),(7,.e (iP x)),(6,.e (.v (.int .u64 (jK (val L) (val M) x:Int)))),(0,.e (iw L)),(1,.e (iw M))],[(5,.row false 72 x 1 (jl (iY (val L+val M) x)))]⟩
def XD(L M:List Nat)(x:Nat):PS:=⟨36,false,[(5,.own 5),(7,.e (iP x)),(6,.e (.v (.int .u64 (jK (val L-val M) (val M) x:Int)))),(0,.e (iw L)),(1,.e (iw M))],[(5,.row false 72 x 1 (jl (iY (val L-val M) x)))]⟩
def XB(L:List Nat)(n:Nat)(x:Nat):PS:=⟨36,false,[(5,.own 5),(6,.e (iP (((n/32)+x:Nat):Int))),(0,.e (iw L)),(1,.e (iP n))],[(5,.row false 72 x 1 (jl (iY (val L/2^n) x)))]⟩
def XC(L:List Nat)(n:Nat)(x:Nat):PS:=⟨36,false,[(5,.own 5),(6,.e (iP (((n/32)+x:Nat):Int))),(0,.e (iw L)),(1,.e (iP n))],[(5,.row false 72 x 1 (jl (iY 0 x)))]⟩
def aiw(L M:List Nat)(hL:iK L)(hM:iK M)(h1:L.length<=10000)(h2:M.length<=10000):ig 253 [iw L,iw M] (iw (ij (val L+val M))):=by
 obtain⟨N,hN⟩:∃ N,N=max L.length M.length:=⟨_,rfl⟩
 have vL:val L<4294967296^N:=bT (mC hL) (bI aF aD);have vM:val M<4294967296^N:=bT (mC hM) (bI aF aD);have hcN:=th (val L) (val M) N;have hce:jK (val L) (val M) (N+jK (val L) (val M) N)=0:=by
  rcases eE 0 (jK (val L) (val M) N)with h|h
  .rw [(aD:jK (val L) (val M) N=1)];exact abi vL vM
  .have h0:jK (val L) (val M) N=0:= aD ;rw[h0,bK];exact h0
 have oe:val L+val M<4294967296^(N+jK (val L) (val M) N):=by
  have h:=KG (val L) (val M) (N+jK (val L) (val M) N);have g1:val L<4294967296^(N+jK (val L) (val M) N):=bT vL (bI aF aD);have g2:val M<4294967296^(N+jK (val L) (val M) N):=bT vM (bI aF aD);rw[hce,cA g1,cA g2]at h;exact Nat.lt_of_div_eq_zero (pw _) h
 exact al call253 func253 (ae [.y 5 5 false 72 1 (jl (iY (val L+val M) 0)),.s (Sp.jP (Xo L M N) 0 (N+(jK (val L) (val M) N)) aD (λx hx lp=>by
    have ha:=yw (val L) (val M) x;rw[<-px hL,<-px hM]at ha;have b1:=hL.getD x;have b2:=hM.getD x;have b3:=th (val L) (val M) x;have b4:=pt (val L+val M) x;have hz:((((L.getD x 0+M.getD x 0)+(jK (val L) (val M) x))%4294967296%4294967296:Nat):Int)=(iH (val L+val M) x:Int):= aD ;have hq:((L.getD x 0+M.getD x 0)+(jK (val L) (val M) x))/4294967296=jK (val L) (val M) (x+1):= aD ;by_cases hx:x<N
    .exact iM (ae [.o 14 (an (if(M.length:Int)>(L.length:Int)then(M.length:Int)else(L.length:Int)) N (by rw[hN];split<;>omega)),tT 15 ((x:Int)<N) aD,ag [iw L,iP x] (zh _ _ aE),ag [iw M,iP x] (zh _ _ aE),
      nH ((L.getD x 0:Int)+(M.getD x 0:Int)) aD,nH ((((L.getD x 0)+(M.getD x 0):Nat):Int)+(jK (val L) (val M) x:Int)) aD,.o 33 (.int (DF _ aD):aj (.v (.int .u64 (bits .and .u64 ((((L.getD x 0)+(M.getD x 0))+(jK (val L) (val M) x):Nat):Int) 4294967295))) (.v (.int .u64 (((((L.getD x 0)+(M.getD x 0))+(jK (val L) (val M) x))%4294967296:Nat):Int)))),.o 34 (.int (sr _):aj (.v (.int .u32 (IntKind.u32.wrap (((((L.getD x 0)+(M.getD x 0))+(jK (val L) (val M) x))%4294967296:Nat):Int)))) (.v (.int .u32 ((((((L.getD x 0)+(M.getD x 0))+(jK (val L) (val M) x))%4294967296)%4294967296:Nat):Int)))),.a (aD:(x+1)*4<=140737488355328),.a (aD:0<=(32:Int)/\(32:Int)<=((64:Nat):Int)),.o 38 (.int (zo _):aj (.v (.int .u64 (((((L.getD x 0)+(M.getD x 0))+(jK (val L) (val M) x):Nat):Int)/2^32))) (.v (.int .u64 (((((L.getD x 0)+(M.getD x 0))+(jK (val L) (val M) x))/4294967296:Nat):Int)))),
      iC ((x:Int)+1) aD]<|.e (af [.o 6 (.int (by rw[hq]):aj (.v (.int .u64 (((((L.getD x 0)+(M.getD x 0))+(jK (val L) (val M) x))/4294967296:Nat):Int))) (.v (.int .u64 (jK (val L) (val M) (x+1):Int)))),.b 5 (Al rfl hz:Bx.le (.row false 72 (x+1) 1 (λi_ j_=>if i_<x then(jl (iY (val L+val M) x)) i_ j_ else(E.jH (.sl false 1 1 λi_ j_=>[.v (.int .u32 ((((((L.getD x 0)+(M.getD x 0))+(jK (val L) (val M) x))%4294967296)%4294967296:Nat):Int))].getD (i_*1+j_) (.v (.bool false)))) (i_-x) j_)) (.row false 72 (x+1) 1 (jl (iY (val L+val M) (x+1)))))])) aG 
    .have hcx:jK (val L) (val M) x=jK (val L) (val M) N:=by rw[(aD:x=N)]
     exact iM (ae [.o 14 (an (if(M.length:Int)>(L.length:Int)then(M.length:Int)else(L.length:Int)) N (by rw[hN];split<;>omega)),tF 15 ((x:Int)<N) aD,tT 18 (0<(jK (val L) (val M) x:Int)) aD,ag [iw L,iP x] (zh _ _ aE),ag [iw M,iP x] (zh _ _ aE),nH ((L.getD x 0:Int)+(M.getD x 0:Int)) aD,
      nH ((((L.getD x 0)+(M.getD x 0):Nat):Int)+(jK (val L) (val M) x:Int)) aD,.o 33 (.int (DF _ aD):aj (.v (.int .u64 (bits .and .u64 ((((L.getD x 0)+(M.getD x 0))+(jK (val L) (val M) x):Nat):Int) 4294967295))) (.v (.int .u64 (((((L.getD x 0)+(M.getD x 0))+(jK (val L) (val M) x))%4294967296:Nat):Int)))),.o 34 (.int (sr _):aj (.v (.int .u32 (IntKind.u32.wrap (((((L.getD x 0)+(M.getD x 0))+(jK (val L) (val M) x))%4294967296:Nat):Int)))) (.v (.int .u32 ((((((L.getD x 0)+(M.getD x 0))+(jK (val L) (val M) x))%4294967296)%4294967296:Nat):Int)))),.a (aD:(x+1)*4<=140737488355328),.a (aD:0<=(32:Int)/\(32:Int)<=((64:Nat):Int)),.o 38 (.int (zo _):aj (.v (.int .u64 (((((L.getD x 0)+(M.getD x 0))+(jK (val L) (val M) x):Nat):Int)/2^32))) (.v (.int .u64 (((((L.getD x 0)+(M.getD x 0))+(jK (val L) (val M) x))/4294967296:Nat):Int)))),
      iC ((x:Int)+1) aD]<|.e (af [.o 6 (.int (by rw[hq]):aj (.v (.int .u64 (((((L.getD x 0)+(M.getD x 0))+(jK (val L) (val M) x))/4294967296:Nat):Int))) (.v (.int .u64 (jK (val L) (val M) (x+1):Int)))),.b 5 (Al rfl hz:Bx.le (.row false 72 (x+1) 1 (λi_ j_=>if i_<x then(jl (iY (val L+val M) x)) i_ j_ else(E.jH (.sl false 1 1 λi_ j_=>[.v (.int .u32 ((((((L.getD x 0)+(M.getD x 0))+(jK (val L) (val M) x))%4294967296)%4294967296:Nat):Int))].getD (i_*1+j_) (.v (.bool false)))) (i_-x) j_)) (.row false 72 (x+1) 1 (jl (iY (val L+val M) (x+1)))))])) aG)
  (λhx=>by
    exact iM (ae [.o 14 (an (if(M.length:Int)>(L.length:Int)then(M.length:Int)else(L.length:Int)) N (by rw[hN];split<;>omega)),tF 15 (((N+(jK (val L) (val M) N):Nat):Int)<N) aD,tF 18 (0<(jK (val L) (val M) (N+(jK (val L) (val M) N)):Int)) aD,.z 5]<|.e (af [.o 5 (.e (zr (mP _ _).symm):aj (.sl false (N+(jK (val L) (val M) N)) 1 (jl (iY (val L+val M) (N+(jK (val L) (val M) N))))) (iw (iY (val L+val M) (N+(jK (val L) (val M) N)))))])) aG) aK:jO 4 f253 (Xo L M N 0) (.exit 0) ⟨41,false,[(5,.e (iw (iY (val L+val M) (N+(jK (val L) (val M) N)))))],[]⟩) (af [.o 6 (.int (by rw[GS];rfl):aj (.v (.int .u64 0)) (.v (.int .u64 (jK (val L) (val M) 0:Int))))]),.cf (yf _ (tn _ _) aU:vZ 252 [iw (iY (val L+val M) (N+(jK (val L) (val M) N)))] _)]<|rQ (iw (iy (iY (val L+val M) (N+(jK (val L) (val M) N))))) (iw (ij (val L+val M))) (by rw[B5 oe])) 
def aiK(L M:List Nat)(hL:iK L)(hM:iK M)(h1:L.length<=10000)(hle:val M<=val L):ig 290 [iw L,iw M] (iw (ij (val L-val M))):=by
 have oe:val L-val M<4294967296^L.length:=cK (dS _ _) (mC hL);exact al call290 func290 (ae [.y 5 5 false 72 1 (jl (iY (val L-val M) 0)),.s (Sp.jP (XD L M) 0 L.length aD (λx hx lp=>by
    have ha:=Y0 hle x;rw[<-px hL,<-px hM]at ha;have b1:=hL.getD x;have b2:=hM.getD x;have b3:=th (val L-val M) (val M) x;have b5:=th (val L-val M) (val M) (x+1);have b4:=pt (val L-val M) x;have hz:(((((L.getD x 0+4294967296)-M.getD x 0)-(jK (val L-val M) (val M) x))%4294967296%4294967296:Nat):Int)=(iH (val L-val M) x:Int):= aD ;have hq:1-(((L.getD x 0+4294967296)-M.getD x 0)-(jK (val L-val M) (val M) x))/4294967296=jK (val L-val M) (val M) (x+1):= aD ;exact iM (ae [tT 12 ((x:Int)<L.length) aD,ag [iw L,iP x] (zh _ _ aE),nH ((L.getD x 0:Int)+4294967296) aD,ag [iw M,iP x] (zh _ _ aE),nH ((((L.getD x 0)+4294967296:Nat):Int)-(M.getD x 0:Int)) aD,.o 22 (.int aD:aj (.v (.int .u64 ((((L.getD x 0)+4294967296:Nat):Int)-(M.getD x 0:Int)))) (.v (.int .u64 (((L.getD x 0+4294967296)-M.getD x 0:Nat):Int)))),
     nH ((((L.getD x 0+4294967296)-M.getD x 0:Nat):Int)-(jK (val L-val M) (val M) x:Int)) aD,.o 24 (.int aD:aj (.v (.int .u64 ((((L.getD x 0+4294967296)-M.getD x 0:Nat):Int)-(jK (val L-val M) (val M) x:Int)))) (.v (.int .u64 ((((L.getD x 0+4294967296)-M.getD x 0)-(jK (val L-val M) (val M) x):Nat):Int)))),.o 27 (.int (DF _ aD):aj (.v (.int .u64 (bits .and .u64 ((((L.getD x 0+4294967296)-M.getD x 0)-(jK (val L-val M) (val M) x):Nat):Int) 4294967295))) (.v (.int .u64 (((((L.getD x 0+4294967296)-M.getD x 0)-(jK (val L-val M) (val M) x))%4294967296:Nat):Int)))),.o 28 (.int (sr _):aj (.v (.int .u32 (IntKind.u32.wrap (((((L.getD x 0+4294967296)-M.getD x 0)-(jK (val L-val M) (val M) x))%4294967296:Nat):Int)))) (.v (.int .u32 ((((((L.getD x 0+4294967296)-M.getD x 0)-(jK (val L-val M) (val M) x))%4294967296)%4294967296:Nat):Int)))),.a (aD:(x+1)*4<=140737488355328),.a (aD:0<=(32:Int)/\(32:Int)<=((64:Nat):Int)),.o 32 (.int (zo _):aj (.v (.int .u64 (((((L.getD x 0+4294967296)-M.getD x 0)-(jK (val L-val M) (val M) x):Nat):Int)/2^32))) (.v (.int .u64 (((((L.getD x 0+4294967296)-M.getD x 0)-(jK (val L-val M) (val M) x))/4294967296:Nat):Int)))),
     nH (1-(((((L.getD x 0+4294967296)-M.getD x 0)-(jK (val L-val M) (val M) x))/4294967296:Nat):Int)) aD,.o 33 (.int aD:aj (.v (.int .u64 (1-(((((L.getD x 0+4294967296)-M.getD x 0)-(jK (val L-val M) (val M) x))/4294967296:Nat):Int)))) (.v (.int .u64 ((1-((((L.getD x 0+4294967296)-M.getD x 0)-(jK (val L-val M) (val M) x))/4294967296):Nat):Int)))),
     iC ((x:Int)+1) aD]<|.e (af [.o 6 (.int (by rw[hq]):aj (.v (.int .u64 ((1-((((L.getD x 0+4294967296)-M.getD x 0)-(jK (val L-val M) (val M) x))/4294967296):Nat):Int))) (.v (.int .u64 (jK (val L-val M) (val M) (x+1):Int)))),.b 5 (Al rfl hz:Bx.le (.row false 72 (x+1) 1 (λi_ j_=>if i_<x then(jl (iY (val L-val M) x)) i_ j_ else(E.jH (.sl false 1 1 λi_ j_=>[.v (.int .u32 ((((((L.getD x 0+4294967296)-M.getD x 0)-(jK (val L-val M) (val M) x))%4294967296)%4294967296:Nat):Int))].getD (i_*1+j_) (.v (.bool false)))) (i_-x) j_)) (.row false 72 (x+1) 1 (jl (iY (val L-val M) (x+1)))))])) aG)
  (λhx=>by
    exact iM (ae [tF 12 ((L.length:Int)<L.length) aD,.z 5]<|.e (af [.o 5 (.e (zr (mP _ _).symm):aj (.sl false L.length 1 (jl (iY (val L-val M) L.length))) (iw (iY (val L-val M) L.length)))])) aG) aK:jO 4 f290 (XD L M 0) (.exit 0) ⟨36,false,[(5,.e (iw (iY (val L-val M) L.length)))],[]⟩) (af [.o 6 (.int (by rw[GS];rfl):aj (.v (.int .u64 0)) (.v (.int .u64 (jK (val L-val M) (val M) 0:Int))))]),.cf (yf _ (tn _ _) aU:vZ 252 [iw (iY (val L-val M) L.length)] _)]<|rQ (iw (iy (iY (val L-val M) L.length))) (iw (ij (val L-val M))) (by rw[B5 oe])) 
def aiI(L:List Nat)(n:Nat)(hL:iK L)(h1:L.length<=10000)(hn:n<=1000000):ig 254 [iw L,iP n] (iw (ij (val L/2^n))):=by
 have oe:val L/2^n<4294967296^(L.length-n/32):=by
  rw[cr (bA aF)];by_cases h:n/32<=L.length
  .refine bT (mC hL) ?_;rw[nF,nF,<-bw];exact bI aF aD 
  .rw [(aD:L.length-n/32=0),ca,ck];refine bT (mC hL) ?_;rw[nF];exact bI aF aD 
 by_cases ku:n/32<=L.length
 .exact al call254 func254 (ae [.a (aD:0<(32:Int)),iC (n:Int) aD,.y 5 5 false 72 1 (jl (iY (val L/2^n) 0)),.s (Sp.jP (XB L n) 0 (L.length-n/32) aD (λx hx lp=>by
    have b1:=hL.getD ((n/32)+x);have b2:=hL.getD (((n/32)+x)+1);have b3:(L.getD ((n/32)+x) 0+(L.getD (((n/32)+x)+1) 0*4294967296))/2^(n%32)<=(L.getD ((n/32)+x) 0+(L.getD (((n/32)+x)+1) 0*4294967296)):=cE _ _;have hz:(((L.getD ((n/32)+x) 0+(L.getD (((n/32)+x)+1) 0*4294967296))/2^(n%32)%4294967296%4294967296:Nat):Int)=(iH (val L/2^n) x:Int):=by
     rw[Nat.mod_mod,akQ,<-px hL,<-px hL,eR x,bE 4294967296]
    exact iM (ae [tT 13 ((((n/32)+x:Nat):Int)<L.length) aD,ag [iw L,iP (((n/32)+x:Nat):Int)] (zh _ _ aE),iC ((((n/32)+x:Nat):Int)+1) aD,ag [iw L,iP ((((n/32)+x)+1:Nat):Int)] (zh _ _ aE),.a (aD:0<=(32:Int)/\(32:Int)<=((64:Nat):Int)),.o 23 (.int (Du _ aD):aj (.v (.int .u64 (IntKind.u64.wrap ((L.getD (((n/32)+x)+1) 0:Int)*2^32)))) (.v (.int .u64 ((L.getD (((n/32)+x)+1) 0*4294967296:Nat):Int)))),
     nH ((L.getD ((n/32)+x) 0:Int)+((L.getD (((n/32)+x)+1) 0*4294967296:Nat):Int)) aD,.a (aD:0<(32:Int)),.a (aD:0<=(((n%32:Nat):Int):Int)/\(((n%32:Nat):Int):Int)<=((64:Nat):Int)),.o 29 (.int (zp _ _):aj (.v (.int .u64 ((((L.getD ((n/32)+x) 0)+(L.getD (((n/32)+x)+1) 0*4294967296):Nat):Int)/2^(n%32)))) (.v (.int .u64 ((((L.getD ((n/32)+x) 0)+(L.getD (((n/32)+x)+1) 0*4294967296))/2^(n%32):Nat):Int)))),.o 30 (.int (DF _ aD):aj (.v (.int .u64 (bits .and .u64 ((((L.getD ((n/32)+x) 0)+(L.getD (((n/32)+x)+1) 0*4294967296))/2^(n%32):Nat):Int) 4294967295))) (.v (.int .u64 (((((L.getD ((n/32)+x) 0)+(L.getD (((n/32)+x)+1) 0*4294967296))/2^(n%32))%4294967296:Nat):Int)))),.o 31 (.int (sr _):aj (.v (.int .u32 (IntKind.u32.wrap (((((L.getD ((n/32)+x) 0)+(L.getD (((n/32)+x)+1) 0*4294967296))/2^(n%32))%4294967296:Nat):Int)))) (.v (.int .u32 ((((((L.getD ((n/32)+x) 0)+(L.getD (((n/32)+x)+1) 0*4294967296))/2^(n%32))%4294967296)%4294967296:Nat):Int)))),.a (aD:(x+1)*4<=140737488355328),iC ((((n/32)+x:Nat):Int)+1) aD]<|.e (af [.o 6 (an ((((n/32)+x)+1:Nat):Int) (((n/32)+(x+1):Nat):Int) aS),.b 5 (Al rfl hz:Bx.le (.row false 72 (x+1) 1 (λi_ j_=>if i_<x then(jl (iY (val L/2^n) x)) i_ j_ else(E.jH (.sl false 1 1 λi_ j_=>[.v (.int .u32 ((((((L.getD ((n/32)+x) 0)+(L.getD (((n/32)+x)+1) 0*4294967296))/2^(n%32))%4294967296)%4294967296:Nat):Int))].getD (i_*1+j_) (.v (.bool false)))) (i_-x) j_)) (.row false 72 (x+1) 1 (jl (iY (val L/2^n) (x+1)))))])) aG)
  (λhx=>by
    exact iM (ae [tF 13 ((((n/32)+(L.length-n/32):Nat):Int)<L.length) aD,.z 5]<|.e (af [.o 5 (.e (zr (mP _ _).symm):aj (.sl false (L.length-n/32) 1 (jl (iY (val L/2^n) (L.length-n/32)))) (iw (iY (val L/2^n) (L.length-n/32))))])) aG) aK:jO 3 f254 (XB L n 0) (.exit 0) ⟨36,false,[(5,.e (iw (iY (val L/2^n) (L.length-n/32))))],[]⟩) (af [.o 6 (an ((n/32:Nat):Int) (((n/32)+0:Nat):Int) aS)]),.cf (yf _ (tn _ _) aU:vZ 252 [iw (iY (val L/2^n) (L.length-n/32))] _)]<|rQ (iw (iy (iY (val L/2^n) (L.length-n/32)))) (iw (ij (val L/2^n))) (by rw[B5 oe])) 
 .have h0:val L/2^n=0:=by rw[(aD:L.length-n/32=0),ca]at oe;exact amU.1 oe
  rw[h0];exact al call254 func254 (ae [.a (aD:0<(32:Int)),iC (n:Int) aD,.y 5 5 false 72 1 (jl (iY 0 0)),.s (Sp.jP (XC L n) 0 0 aD (λx hx lp=>by
    omega)
  (λhx=>by
    exact iM (ae [tF 13 ((((n/32)+0:Nat):Int)<L.length) aD,.z 5]<|.e (af [.o 5 (.e (zr (mP _ _).symm):aj (.sl false 0 1 (jl (iY 0 0))) (iw (iY 0 0)))])) aG) aK:jO 3 f254 (XC L n 0) (.exit 0) ⟨36,false,[(5,.e (iw (iY 0 0)))],[]⟩) (af [.o 6 (an ((n/32:Nat):Int) (((n/32)+0:Nat):Int) aS)]),.cf (yf _ (tn _ _) aU:vZ 252 [iw (iY 0 0)] _)]<|rQ (iw (iy (iY 0 0))) (iw (ij 0)) (by rw[B5 aF])) 
def QW(v l N:Nat)(x:Nat):PS:=⟨29,true,[(4,.e (iP ((31-x:Nat):Int))),(3,.e (iP l)),(0,.e (iw (ij v)))],[]⟩
def JZ(v:Nat)(x:Nat):PS:=⟨38,false,[(5,.own 5),(7,.e (iP x)),(6,.e (.v (.int .u32 (mj v 0 x:Int)))),(0,.e (iw (ij v)))],[(5,.row false 72 x 1 (jl (iY (2*v) x)))]⟩
def aaW(v l N:Nat)(hl:(ij v).length=l+1)(hs:l<=1000000)(h0:((ij v).getD l 0)≠0)(hN:N=32-iA ((ij v).getD l 0))(Ms:iA ((ij v).getD l 0)<=32)(jt:1<=iA ((ij v).getD l 0))(hv:iA v=32*l+iA ((ij v).getD l 0)):ig 84 [iw (ij v)] (iP (iA v)):=
 ak call84 func84 (ae [iC (((ij v).length:Int)-1) aD,.o 7 (an (((ij v).length:Int)-1) l aD),.u 70,tT 9 (0<=(l:Int)) aD,.s (Sp.jP (QW v l N) 0 N aD (λx hx lp=>by
    have hX:=(kS v).getD l;have hd:=cE ((ij v).getD l 0) (2^(31-x));have hb:=aaS (t:=((ij v).getD l 0)) (x:=x) aD;exact iM (ae [tT 13 (0<=((31-x:Nat):Int)) aD,iX (l:Int) ((ij v).length) aD,.a (aD:0<=(((31-x:Nat):Int):Int)/\(((31-x:Nat):Int):Int)<=((32:Nat):Int)),.o 21 (.int (zp _ _):aj (.v (.int .u32 ((((ij v).getD l 0:Nat):Int)/2^(31-x)))) (.v (.int .u32 ((((ij v).getD l 0)/2^(31-x):Nat):Int)))),.o 22 (.int (Ke _ aD):aj (.v (.int .u32 (bits .and .u32 ((((ij v).getD l 0)/2^(31-x):Nat):Int) 1))) (.v (.int .u32 (((((ij v).getD l 0)/2^(31-x))%2:Nat):Int)))),ai 23 ((((((ij v).getD l 0)/2^(31-x))%2:Nat):Int)==1) (bd aD),iC (((31-x:Nat):Int)-1) aD]<|.e (af [.o 4 (an (((31-x:Nat):Int)-1) ((31-(x+1):Nat):Int) aD)])) aG)
  (λhx=>by
    have hX:=(kS v).getD l;have hd:=cE ((ij v).getD l 0) (2^(31-N));have hb:=aaU (t:=((ij v).getD l 0)) (x:=N) h0 hN Ms;exact iM (af [tT 13 (0<=((31-N:Nat):Int)) aD,iX (l:Int) ((ij v).length) aD,.a (aD:0<=(((31-N:Nat):Int):Int)/\(((31-N:Nat):Int):Int)<=((32:Nat):Int)),.o 21 (.int (zp _ _):aj (.v (.int .u32 ((((ij v).getD l 0:Nat):Int)/2^(31-N)))) (.v (.int .u32 ((((ij v).getD l 0)/2^(31-N):Nat):Int)))),.o 22 (.int (Ke _ aD):aj (.v (.int .u32 (bits .and .u32 ((((ij v).getD l 0)/2^(31-N):Nat):Int) 1))) (.v (.int .u32 (((((ij v).getD l 0)/2^(31-N))%2:Nat):Int)))),ah 23 ((((((ij v).getD l 0)/2^(31-N))%2:Nat):Int)==1) (bg aD),iC (32*(l:Int)) aD,iC (((32*l:Nat):Int)+((31-N:Nat):Int)) aD,
    iC ((((32*l)+(31-N):Nat):Int)+1) aD]) aG) aK:jO 5 Tryz.f84 (QW v l N 0) .ret ⟨29,true,[(2,.e (iP ((((32*l)+(31-N))+1:Nat):Int)))],[]⟩) (af [.o 4 (an 31 ((31-0:Nat):Int) aD)])]<|rQ (iP ((((32*l)+(31-N))+1:Nat):Int)) (iP (iA v)) (congrArg iP aD)) 
def aaX : ig 84 [iw (ij 0)] (iP 0):=by
 have z:(ij 0).length=0:=by rw[mW];rfl
 exact ak call84 func84 (af [iC (((ij 0).length:Int)-1) aD,.u 70,tF 9 (0<=(((ij 0).length:Int)-1)) (by rw[mW];decide)]) 
def GN(v:Nat)(h:(ij v).length<=1000000):ig 84 [iw (ij v)] (iP (iA v)):=by
 rcases hl:(ij v).length with _|l
 .obtain rfl:=qg.1 hl;exact aaX
 .obtain ⟨a,b⟩:=Zn hl;have c:=aa3 hl;have d:=nj a;rw[<-Am]at a b c d;exact aaW v l _ hl aD a rfl c d b
def GL(v i:Nat)(h:(ij v).length<=1000000)(hi:i<=1000000000):ig 85 [iw (ij v),iP i] (iP ((v/2^i%2:Nat):Int)):=by
 have hX:=(kS v).getD (i/32);have hd:=cE ((ij v).getD (i/32) 0) (2^(i%32));exact ak call85 func85 (ae [tF 6 ((i:Int)<0) aD,iC (32*((ij v).length:Int)) aD]<|.w (((32*(ij v).length:Nat):Int)<=i)
  (λk1=>ae [tB 12 (bq k1)]<|rQ (iP 0) (iP ((v/2^i%2:Nat):Int)) (congrArg (λx:Nat=>iP (x:Int)) (aaT aD).symm))
  (λk1=>ae [tB 12 (bt k1),.a (aD:0<(32:Int)),iC (i:Int) aD,iX ((i/32:Nat):Int) ((ij v).length) aD,.a (aD:0<(32:Int)),.a (aD:0<=(((i%32:Nat):Int):Int)/\(((i%32:Nat):Int):Int)<=((32:Nat):Int)),.o 21 (.int (zp _ _):aj (.v (.int .u32 ((((ij v).getD (i/32) 0:Nat):Int)/2^(i%32)))) (.v (.int .u32 ((((ij v).getD (i/32) 0)/2^(i%32):Nat):Int)))),.o 22 (.int (Ke _ aD):aj (.v (.int .u32 (bits .and .u32 ((((ij v).getD (i/32) 0)/2^(i%32):Nat):Int) 1))) (.v (.int .u32 (((((ij v).getD (i/32) 0)/2^(i%32))%2:Nat):Int)))),.o 23 (an (IntKind.i64.wrap (((((ij v).getD (i/32) 0)/2^(i%32))%2:Nat):Int)) (((((ij v).getD (i/32) 0)/2^(i%32))%2:Nat):Int) (E3 _ aD))]<|rQ (iP (((((ij v).getD (i/32) 0)/2^(i%32))%2:Nat):Int)) (iP ((v/2^i%2:Nat):Int)) (by rw[Am,QV]))) 
def akI(v:Nat)(h:(ij v).length<=1000000)(om:(mj v 0 (ij v).length)=0):ig 82 [iw (ij v),.v (.int .u64 0)] (iw (ij (2*v))):=
 al call82 func82 (ae [.o 9 (.int aF:aj (.v (.int .u32 (IntKind.u32.wrap 0))) (.v (.int .u32 0))),.y 5 5 false 72 1 (jl (iY (2*v) 0)),.s (Sp.jP (JZ v) 0 ((ij v).length) aD (λx hx lp=>by
    have he:=G6 (r:=v) (b:=0) aF x;rw[bK,<-Am v x]at he;have hc:=G5 (r:=v) (b:=0) aF x;have hX:=(kS v).getD x;have hz:(((2*((ij v).getD x 0)%4294967296)+(mj v 0 x):Nat):Int)=(iH (2*v) x:Int):=by rw[he.1]
    have hq:((ij v).getD x 0)/2^31=mj v 0 (x+1):=by rw[he.2]
    exact iM (ae [tT 13 ((x:Int)<((ij v).length:Int)) aD,iX (x:Int) ((ij v).length) aD,.a (aD:0<=(1:Int)/\(1:Int)<=((32:Nat):Int)),.o 21 (.int (Ph _):aj (.v (.int .u32 (IntKind.u32.wrap ((((ij v).getD x 0:Nat):Int)*2^1)))) (.v (.int .u32 ((2*((ij v).getD x 0)%4294967296:Nat):Int)))),.o 23 (.int (Ju _ _ hc):aj (.v (.int .u32 (bits .or .u32 ((2*((ij v).getD x 0)%4294967296:Nat):Int) (mj v 0 x:Int)))) (.v (.int .u32 (((2*((ij v).getD x 0)%4294967296)+(mj v 0 x):Nat):Int)))),.a (aD:(x+1)*4<=140737488355328),iX (x:Int) ((ij v).length) aD,.a (aD:0<=(31:Int)/\(31:Int)<=((32:Nat):Int)),.o 30 (.int (zp _ _):aj (.v (.int .u32 ((((ij v).getD x 0:Nat):Int)/2^31))) (.v (.int .u32 ((((ij v).getD x 0)/2^31:Nat):Int)))),iC ((x:Int)+1) aD]<|.e (af [.o 6 (.int (by rw[hq]):aj (.v (.int .u32 ((((ij v).getD x 0)/2^31:Nat):Int))) (.v (.int .u32 (mj v 0 (x+1):Int)))),.b 5 (Al rfl hz:Bx.le (.row false 72 (x+1) 1 (λi_ j_=>if i_<x then(jl (iY (2*v) x)) i_ j_ else(E.jH (.sl false 1 1 λi_ j_=>[.v (.int .u32 (((2*((ij v).getD x 0)%4294967296)+(mj v 0 x):Nat):Int))].getD (i_*1+j_) (.v (.bool false)))) (i_-x) j_)) (.row false 72 (x+1) 1 (jl (iY (2*v) (x+1)))))])) aG)
  (λhx=>by
    exact iM (af [tF 13 (((ij v).length:Int)<((ij v).length:Int)) aD]) aG) aK:jO 4 Tryz.f82 (JZ v 0) (.exit 0) ⟨38,false,[(5,.own 5),(6,.e (.v (.int .u32 ((mj v 0 (ij v).length:Nat):Int))))],[(5,.row false 72 ((ij v).length) 1 (jl (iY (2*v) ((ij v).length))))]⟩) (af [.o 6 (.int (by rw[Lc];rfl):aj (.v (.int .u32 0)) (.v (.int .u32 (mj v 0 0:Int))))]),ai 32 (((mj v 0 (ij v).length:Nat):Int) != 0) (Ar om)]<|rQ (.sl false ((ij v).length) 1 (jl (iY (2*v) ((ij v).length)))) (iw (ij (2*v))) (by rw[AL (mP _ _).symm,ab0 om])) 
def agp{N l c:Nat}{L:List Nat}(h1:iY N (l+1)=L)(h2:iH N l=c):E.le (.sl false (l+1) 1 λi_ j_=>if i_<l then jl (iY N l) i_ j_ else(E.jH (.sl false 1 1 λi_ j_=>[.v (.int .u32 (c:Int))].getD (i_*1+j_) (.v (.bool false)))) (i_-l) j_) (iw L):=by
 subst h1 h2;rw[<-AL (mP N (l+1)).symm];refine .sl λi j hi hj=>?_
 obtain rfl:j=0:= aD ;by_cases h:i<l
 .simp only[h,bN];exact⟨.jb (by unfold jl;rw[tm h,tm aD]),rfl⟩
 .obtain rfl:i=l:= aD ;simp only[e9,bF,di];exact⟨.jb (by unfold jl;rw[tm aD];rfl),rfl⟩
def akJ(v:Nat)(h:(ij v).length<=1000000)(om:(mj v 0 (ij v).length)≠0):ig 82 [iw (ij v),.v (.int .u64 0)] (iw (ij (2*v))):=by
 obtain⟨h1,h2⟩:=ab1 om;exact al call82 func82 (ae [.o 9 (.int aF:aj (.v (.int .u32 (IntKind.u32.wrap 0))) (.v (.int .u32 0))),.y 5 5 false 72 1 (jl (iY (2*v) 0)),.s (Sp.jP (JZ v) 0 ((ij v).length) aD (λx hx lp=>by
    have he:=G6 (r:=v) (b:=0) aF x;rw[bK,<-Am v x]at he;have hc:=G5 (r:=v) (b:=0) aF x;have hX:=(kS v).getD x;have hz:(((2*((ij v).getD x 0)%4294967296)+(mj v 0 x):Nat):Int)=(iH (2*v) x:Int):=by rw[he.1]
    have hq:((ij v).getD x 0)/2^31=mj v 0 (x+1):=by rw[he.2]
    exact iM (ae [tT 13 ((x:Int)<((ij v).length:Int)) aD,iX (x:Int) ((ij v).length) aD,.a (aD:0<=(1:Int)/\(1:Int)<=((32:Nat):Int)),.o 21 (.int (Ph _):aj (.v (.int .u32 (IntKind.u32.wrap ((((ij v).getD x 0:Nat):Int)*2^1)))) (.v (.int .u32 ((2*((ij v).getD x 0)%4294967296:Nat):Int)))),.o 23 (.int (Ju _ _ hc):aj (.v (.int .u32 (bits .or .u32 ((2*((ij v).getD x 0)%4294967296:Nat):Int) (mj v 0 x:Int)))) (.v (.int .u32 (((2*((ij v).getD x 0)%4294967296)+(mj v 0 x):Nat):Int)))),.a (aD:(x+1)*4<=140737488355328),iX (x:Int) ((ij v).length) aD,.a (aD:0<=(31:Int)/\(31:Int)<=((32:Nat):Int)),.o 30 (.int (zp _ _):aj (.v (.int .u32 ((((ij v).getD x 0:Nat):Int)/2^31))) (.v (.int .u32 ((((ij v).getD x 0)/2^31:Nat):Int)))),iC ((x:Int)+1) aD]<|.e (af [.o 6 (.int (by rw[hq]):aj (.v (.int .u32 ((((ij v).getD x 0)/2^31:Nat):Int))) (.v (.int .u32 (mj v 0 (x+1):Int)))),.b 5 (Al rfl hz:Bx.le (.row false 72 (x+1) 1 (λi_ j_=>if i_<x then(jl (iY (2*v) x)) i_ j_ else(E.jH (.sl false 1 1 λi_ j_=>[.v (.int .u32 (((2*((ij v).getD x 0)%4294967296)+(mj v 0 x):Nat):Int))].getD (i_*1+j_) (.v (.bool false)))) (i_-x) j_)) (.row false 72 (x+1) 1 (jl (iY (2*v) (x+1)))))])) aG)
  (λhx=>by
    exact iM (af [tF 13 (((ij v).length:Int)<((ij v).length:Int)) aD]) aG) aK:jO 4 Tryz.f82 (JZ v 0) (.exit 0) ⟨38,false,[(5,.own 5),(6,.e (.v (.int .u32 ((mj v 0 (ij v).length:Nat):Int))))],[(5,.row false 72 ((ij v).length) 1 (jl (iY (2*v) ((ij v).length))))]⟩) (af [.o 6 (.int (by rw[Lc];rfl):aj (.v (.int .u32 0)) (.v (.int .u32 (mj v 0 0:Int))))]),ah 32 (((mj v 0 (ij v).length:Nat):Int) != 0) (C9 om),.a (aD:((ij v).length+1)*4<=140737488355328)]<|rR (iw (ij (2*v))) (agp h1 h2:E.le (.sl false ((ij v).length+1) 1 (λi_ j_=>if i_<(ij v).length then(jl (iY (2*v) ((ij v).length))) i_ j_ else(E.jH (.sl false 1 1 λi_ j_=>[.v (.int .u32 ((mj v 0 (ij v).length:Nat):Int))].getD (i_*1+j_) (.v (.bool false)))) (i_-(ij v).length) j_)) (iw (ij (2*v))))) 
def YH(v:Nat)(h:(ij v).length<=1000000):ig 82 [iw (ij v),.v (.int .u64 0)] (iw (ij (2*v))):=by
 by_cases hc:(mj v 0 (ij v).length)=0
 .exact akI v h hc
 .exact akJ v h hc
def ags{L M:List Nat}{n z:Nat}(hn:n=0+L.length)(hs:L.set 0 z=M):E.le (.sl false n 1 λi' j'=>if i'=0/\0<=j'/\j'<0+1 then[.v (.int .u32 (z:Int))].getD (j'-0) .any else(λi_ j_=>if i_<0 then(λi_ j_=>([]:List E).getD (i_*1+j_) (.v (.bool false))) i_ j_ else(E.jH (iw L)) (i_-0) j_) i' j') (iw M):=by
 subst hs;have e:n=(L.set 0 z).length:=by rw[cS];omega
 rw[<-AL e];refine .sl λi j hi hj=>?_
 obtain rfl:j=0:= aD ;have ml:i<L.length:= aD ;by_cases h:i=0
 .subst h;simp only[true_and,bp,ann,bN,b6];exact⟨.jb (by show _=E.v (.int .u32 (((L.set 0 z).getD 0 0:Nat):Int));rw[bu (l:=L.set 0 z),List.getElem?_set_self ml];rfl),rfl⟩
 .simp only[h,false_and,bF,bO,dR];exact⟨.jb (by show E.v (.int .u32 (L.getD i 0:Int))=_;unfold jl;rw[bu,bu,ia (λq=>h q.symm)]),rfl⟩
def akF : ig 83 [iw (ij 0)] (iw (ij (0+1))):=
 ak call83 func83 (af [ah 6 (((ij 0).length:Int)==0) (by rw[mW];rfl),.o 7 (.e xd:aj (.sl false 1 1 λi_ j_=>[.v (.int .u32 1)].getD (i_*1+j_) (.v (.bool false))) (iw (ij 1)))]) 
def akE(v:Nat)(hl:1<=(ij v).length)(hs:(ij v).length<=1000000)(he:v%2=0):ig 83 [iw (ij v)] (iw (ij (v+1))):=by
 have hX:=(kS v).getD 0;have qc:((ij v).getD 0 0)%2=0:=by rw[Am];unfold iH;rw[ca,dL];omega
 have h0:v≠0:=λq=>by subst q;rw[mW]at hl;exact absurd hl aF 
 exact al call83 func83 (ae [ai 6 (((ij v).length:Int)==0) (bd aD),.bo,.a (aD:(0+(ij v).length)*4<=140737488355328),iX 0 (0+(ij v).length) aD,.a (aD:0<(0+(ij v).length)),.o 15 (.int (ah8 _ hX qc):aj (.v (.int .u32 (bits .or .u32 (((ij v).getD 0 0:Nat):Int) 1))) (.v (.int .u32 ((((ij v).getD 0 0)+1:Nat):Int)))),
  iX 0 (0+(ij v).length) aD,.a (aD:0<(0+(ij v).length))]<|rR (iw (ij (v+1))) (ags aD (by rw[Am];exact akH h0 he):E.le (.sl false (0+(ij v).length) 1 (λi' j'=>if i'=0/\0<=j'/\j'<0+1 then[.v (.int .u32 ((((ij v).getD 0 0)+1:Nat):Int))].getD (j'-0) .any else(λi_ j_=>if i_<0 then(λi_ j_=>([]:List E).getD (i_*1+j_) (.v (.bool false))) i_ j_ else(E.jH (iw (ij v))) (i_-0) j_) i' j')) (iw (ij (v+1))))) 
def YF(v:Nat)(hs:(ij v).length<=1000000)(he:v%2=0):ig 83 [iw (ij v)] (iw (ij (v+1))):=by
 by_cases h:(ij v).length=0
 .obtain rfl:=qg.1 h;exact akF
 .exact akE v aD hs he
def aaV(v:Nat)(A:Option Addr)(c:Nat)(w:World)(hs:Sl w A c (ij v))(hT:Tb w)(h:(ij v).length<=1000000):
 Calls prog 84 #[.slice A (ij v).length c] w (λe w'=>e = .returned (.int .i64 (iA v:Int))/\iG w w'):=by
 refine((GN v h).run w (λ_=>False) [_] hT (λ_ h=>h.elim) (.cons (zq (λ_ h=>h.elim) (iG.refl w) hs) (.nil _ _ _))).mono ?_;rintro e w' ⟨x,rfl,hb,hr⟩;obtain rfl:=iR.kN hr;exact⟨rfl,hb⟩
def aaQ(v i:Nat)(A:Option Addr)(c:Nat)(w:World)(hs:Sl w A c (ij v))(hT:Tb w)(h:(ij v).length<=1000000)(hi:i<=1000000000):
 Calls prog 85 #[.slice A (ij v).length c,.int .i64 (i:Int)] w (λe w'=>e = .returned (.int .i64 ((v/2^i%2:Nat):Int))/\iG w w'):=by
 refine((GL v i h hi).run w (λ_=>False) [_,_] hT (λ_ h=>h.elim) (.cons (zq (λ_ h=>h.elim) (iG.refl w) hs) (.cons (.v _) (.nil _ _ _)))).mono ?_;rintro e w' ⟨x,rfl,hb,hr⟩;obtain rfl:=iR.kN hr;exact⟨rfl,hb⟩
def Ow.yC{w:World}{base:Nat}{v:Value}{L:List Nat}(h:Ow w base v L){g:Nat}(hg:g<base)(i:Nat)(u:Value):Ow (w.setCell ⟨g,i,none⟩ u) base v L:=
 ⟨ownsRow_setCell_below h.row hg u,h.ok⟩
def Ow.ext{w w':World}{base:Nat}{v:Value}{L:List Nat}(h:Ow w base v L)(hb:iG w w'):Ow w' base v L:=by
 refine⟨⟨h.row.1,?_⟩,h.ok⟩;rcases h.row.2 with q|⟨g,cap,cur,e1,e2,e3,r⟩
 .exact .inl q
 .exact .inr ⟨g,cap,cur,e1,e2,by rw[hb.block g (dx.1 e3).1];exact e3,r⟩
def Ow.mono{w:World}{base base':Nat}{v:Value}{L:List Nat}(h:Ow w base v L)(hb:base'<=base):Ow w base' v L:=by
 refine⟨⟨h.row.1,?_⟩,h.ok⟩;rcases h.row.2 with q|⟨g,cap,cur,e1,e2,r⟩
 .exact .inl q
 .exact .inr ⟨g,cap,cur,e1,bJ hb e2,r⟩
def jq.akD{w:World}{g n c:Nat}{s:Bool}{A:Option Addr}{e:Int}(h:jq w g s A n c e)(A':Option Addr)(n' c':Nat):jq (w.setCell ⟨g,1,none⟩ (.slice A' n' c')) g s A' n' c' e:=heap_setCell_same w g 1 _ _ (.slice A' n' c') h
def jq.grown{w w':World}{g n c base:Nat}{s:Bool}{A:Option Addr}{e:Int}{v:Value}{L:List Nat}(h:jq w g s A n c e)(ho:Ow w base v L)(hg:w.grownBy w' v.ownBlock)(hb:g<base):jq w' g s A n c e:=
 (hg.block g h.lt (λq=>by have:=(ho.row.lt g q.symm).1;omega)).trans h
def agH(v:Nat)(e:Int)(A:Option Addr)(c:Nat)(w:World)(h0:v≠0)(hs:Sl w A c (ij v))(hT:Tb w)(hl:(ij v).length<=1000)(kZ:-100000<=e)(kF:e<=100000):
 Calls prog 86 #[.bool false,.slice A (ij v).length c,.int .i64 e] w (tR w (canon false v e)):=by
 have om:=anQ (show canon false v e=⟨false,v/2^kr v,e+kr v⟩by unfold canon;rw[bl h0]);have hZ:=abV h0;have hB:iA v<=32*1000:=by
  have:=uB (bp (ij v).length);rw[nF]at this;have:=kV.2 this;omega
 have rC:(((iA v:Int)==0))=false:=bd aD;have yH:=anQ (λA c w (hs:Sl w A c (ij v)) hT=>aaV v A c w hs hT aD);have tu:=anQ (λi A c w (hs:Sl w A c (ij v)) hT hi=>aaQ v i A c w hs hT aD hi);obtain⟨m,hm⟩:∃ m,m=(ij v).length:=⟨_,rfl⟩
 rw[<-hm]at yH tu ⊢;have HM:=anQ hm;clear hm;obtain⟨n,hn⟩:∃ n,n=iA v:=⟨_,rfl⟩
 rw[<-hn]at yH hZ hB rC;have HN:=anQ hn;clear hn;obtain⟨Z,Mk⟩:∃ Z,Z=kr v:=⟨_,rfl⟩
 rw[<-Mk]at hZ om;have HZ:=anQ Mk;clear Mk;go_enter func86,ntmps86;go_wp2_with fail;refine(yH.out A c _ (hs.alloc _) (hT.alloc _)).mono ?_;rintro e' w1 ⟨rfl,jt⟩;go_wp2;have yV:∀ k,k<Z->v/2^k%2=0:=λk hk=>by rw[HZ.out]at hk;exact QU h0 hk
 have tE:v/2^Z%2=1:=by rw[HZ.out];exact QT h0
 have HZ1:=anQ yV;clear yV;have HZ2:=anQ tE;clear tE;have qL:=hs.below ((iG.alloc w _).trans jt);have Ih:=hT.below ((iG.alloc w _).trans jt);have xH:=(iG.alloc w _).trans jt;go_loopw [8] (λi wr=>∃ k:Nat,k<=Z/\i = .int .i64 (k:Int)/\iG w1 wr) (λi _=>Z-(intOf i).toNat)
 case atStart=>exact⟨0,ch _,rfl,iG.refl _⟩
 case round=>
  obtain⟨k,hk,rfl,lS⟩:=hrel;have kK:=qL.below lS;have wD:=Ih.below lS;have ux:=xH.trans lS;go_wp2_with fail;refine(tu.out k A c _ kK wD aD).mono ?_;rintro e'' w3 ⟨rfl,pf⟩;by_cases hkZ:k<Z
  .rw [HZ1.out k hkZ];have yU:IntKind.i64.wrap ((k:Int)+1)=((k+1:Nat):Int):=by rw[IntKind.wrap_i64];omega
   go_wp2;go_roundw
   case rel=>exact⟨k+1,aD,by go_num,lS.trans pf⟩
   case measure=>simp[intOf];omega
  .obtain rfl:k=Z:= aD ;rw[HZ2.out];have hx3:=ux.trans pf;have CQ:=kK.below pf;have hT3:=wD.below pf;have EX:IntKind.i64.wrap (e+(k:Int))=e+(k:Int):=by rw[IntKind.wrap_i64];omega
   go_wp2;have GP:=jq.new w3 false none 0 0 (e+(k:Int));have Vc:=jt.trans (lS.trans pf);have hg:=Vc.size;have Vb:=Vc.trans (iG.alloc w3 (.cells #[.bool false,.slice none 0 0,.int .i64 (e+(k:Int))] 28));obtain⟨g9,Uw⟩:∃ g,g=w3.heap.size:=⟨_,rfl⟩
   rw[<-Uw]at GP hg ⊢;generalize w3.alloc (.cells #[.bool false,.slice none 0 0,.int .i64 (e+(k:Int))] 28)=w5 at *
   clear Uw;have uq:=hs.alloc (.cells #[.bool false,.slice none 0 0,.int .i64 0] 28);have hTW:=hT.alloc (.cells #[.bool false,.slice none 0 0,.int .i64 0] 28);have bx6:=jq.new w false none 0 0 0;generalize hW:w.alloc (.cells #[.bool false,.slice none 0 0,.int .i64 0] 28)=W at *
   have hwW:iG w W:=hW▸iG.alloc w _;have Ij:g9<w5.heap.size:=GP.lt;obtain⟨V,hV⟩:∃ V,V=v/2^k:=⟨_,rfl⟩
   have HV:=anQ hV;rw[<-hV]at om;have hVb:iA V+k=n:=by rw[hV,QY (by rw[<-HN.out];omega),<-HN.out];omega
   have Ud:∀ i,i<1000000->v/2^(k+i)%2=V/2^i%2:=λi _=>by rw[hV,cU,<-bw]
   have HBV:=anQ Ud;clear Ud hV;have T8:∀ y,y<(ij V).length↔32*y<iA V:=λy=>Fj
   have HYB:=anQ T8;clear T8;obtain⟨Y,hY⟩:∃ Y,Y=(ij V).length:=⟨_,rfl⟩
   rw[<-hY]at HYB;have HY:=anQ hY;clear hY;obtain⟨E9,TH⟩:∃ E9,E9=e+(k:Int):=⟨_,rfl⟩
   rw[<-TH]at om GP;clear TH;go_loopw [10] (λi wr=>∃ (y:Nat) (O:List Nat) (OA:Option Addr) (Oc:Nat),y<=Y/\i = .int .i64 ((k+32*y:Nat):Int)/\O=(ij V).take y/\Ow wr w5.heap.size (.slice OA O.length Oc) O/\jq wr g9 false OA O.length Oc E9/\iG W wr/\w5.heap.size<=wr.heap.size) (λi _=>k+32*Y-(intOf i).toNat)
   case atStart=>exact⟨0,[],none,0,ch _,by go_num,aJ,Ow.nil _ _,GP,Vb,bp _⟩
   case round=>
    obtain⟨y,O,OA,Oc,hy,rfl,hO,lq,jy,EY,lT⟩:=hrel;have hsr:=uq.below EY;have Ii:=hTW.below EY;obtain⟨I,hI⟩:∃ I,I=k+32*y:=⟨_,rfl⟩
    rw[<-hI];by_cases iO:y<Y
    .have h1:=(HYB.out y).1 iO;have ht:decide ((I:Int)<n)=true:=bq aD;have Ae:I<n:= aD ;have ht3:decide (I<n)=true:=bq Ae;have hIb:I<=40000:= aD ;have hD:iH V y<4294967296:=pt V y;have Uc:∀ j,j<32->v/2^(I+j)%2=iH V y/2^j%2:=λj hj=>by
      rw[hI,dh,HBV.out _ aD,RP hj]
     have HBD:=anQ Uc;clear Uc;have HI:=anQ hI;clear hI;go_wp2;go_loopw [11,12] (λx q wj=>∃ j:Nat,j<=32/\x = .int .u32 ((iH V y%2^j:Nat):Int)/\q = .int .i64 (j:Int)/\iG wr wj) (λ_ q _=>32-(intOf q).toNat)
     case atStart=>exact⟨0,ch _,by simp[dn],rfl,iG.refl _⟩
     case round=>
      obtain⟨j,hj,rfl,rfl,r6⟩:=hrel;by_cases zY:j<32
      .have CT:decide ((j:Int)<32)=true:=bq aD ;have yU:IntKind.i64.wrap ((I:Int)+j)=((I+j:Nat):Int):=by rw[IntKind.wrap_i64];omega
       go_wp2_with fail;refine(tu.out (I+j) A c _ (hsr.below r6) (Ii.below r6) aD).mono ?_;rintro e3 w6 ⟨rfl,hb6⟩;rw[HBD.out j zY];have aeY:iH V y/2^j%2<=1:= aD ;have ho:=On zY hD;generalize iH V y/2^j%2=b at *
       have IF:bits .or .u32 ((iH V y:Int)%2^j) ((b:Int)*2^j)=((iH V y%2^(j+1):Nat):Int):=by rw[<-ho];congr 1<;>simp
       have HO:=anQ IF;clear ho IF;have Mv:IntKind.u32.wrap (b:Int)=b:=by rw[IntKind.wrap_u32];omega
       have Bv:=Pj zY aeY;have hw4:IntKind.i64.wrap ((j:Int)+1)=((j+1:Nat):Int):=by rw[IntKind.wrap_i64];omega
       go_wp2;go_roundw
       case rel=>exact⟨j+1,aD,congrArg (Value.int .u32) HO.out,by go_num,r6.trans hb6⟩
       case measure=>simp[intOf];omega
      .obtain rfl:j=32:= aD ;have Ui:iH V y%2^32=iH V y:=bQ (by simpa using hD);rw[Ui];have Mt:=jy.ext r6;have MU:=lq.ext r6;have b1:=Mt.c1;have f1:=Mt.fr 1;have TO:O++[iH V y]=(ij V).take (y+1):=by
        have EG:y<(ij V).length:=by rw[<-HY.out];exact iO
        have:=Am V y;rw[bu,bD EG]at this;rw[ank,bD EG,hO,<-this];rfl
       have HON:=anQ TO;clear TO;clear hO HBD Ui;generalize iH V y=z at *
       have hO4:O.length<=3000:=by
        have:=HON.out▸(show(O++[z]).length=O.length+1 by simp);rw[cG]at this;omega
       have afu:O.length+[z].length<=10000000000:= aR ;have afg:w5.heap.size<=wr.heap.size:=bJ lT r6.size;have IQ:=EY.trans r6;have hw5:IntKind.i64.wrap ((I:Int)+32)=((I+32:Nat):Int):=by rw[IntKind.wrap_i64];omega
       have aeQ:W.heap.size<=w5.heap.size:=Vb.size;go_wp2_with (at_builtin;go_must (refine qQ aI _ _ aI w5.heap.size _ O aI (MU.alloc _) _ _ _ [z] aI aI (Sl.s6 _ _ z aD aD) afu (pR afg _) ?_);intro v' w7 UN MF amv;obtain⟨OA7,Oc7,rfl,amE⟩:=UN.sl;have KR:=(Mt.alloc _).grown (MU.alloc _) MF Ij;have b7:=KR.c1;have f7:=KR.fr 1)
       go_roundw
       case rel=>
        refine⟨y+1,O++[z],OA7,Oc7,aD,congrArg (Value.int .i64) (by have:=HI.out;omega),HON.out,UN.yC Ij 1 _,(by rw[cJ];exact KR.akD _ _ _),((IQ.trans (iG.alloc _ _)).own _ _ ((MU.alloc _).mono aeQ) MF).setCell hg _,?_⟩;have:=MF.size;simp[World.setCell]at this ⊢;omega
       case measure=>have:=HI.out;simp[intOf];omega
    .have hyY:y=Y:= aD ;have Ae:¬I<n:=by
      intro q;have:=(HYB.out y).2 aD;omega
     have ht:decide ((I:Int)<n)=false:=bt aD;have ht3:decide (I<n)=false:=bt Ae;have hOV:O=ij V:=by rw[hO,cP (by rw[<-HY.out];omega)]
     obtain⟨OA',Oc',heq,yQ⟩:=lq.sl;cases heq;have b0:=jy.c0;have b1:=jy.c1;have b2:=jy.c2;have zK:=bx6.ext EY;have c0:=zK.c0;have c1:=zK.c1;have c2:=zK.c2;have f0:=zK.fr 0;have f1:=zK.fr 1;have f2:=zK.fr 2;clear hI hO HYB;go_wp2;rw[om.out];subst hOV;exact sU rfl rfl rfl (zK.set _ _ _ _ _) rfl (zK.qi yQ _ _ _ _ _) (jq.pW (hwW.trans EY) (bp _) _ _ _ _ _)
def V7(v:Nat)(e:Int)(h0:v≠0)(hl:(ij v).length<=1000)(kZ:-100000<=e)(kF:e<=100000):ig 86 [bP false,iw (ij v),iP e] (im (canon false v e)):=by
 refine⟨call86,λw B vs hK hB hr=>?_⟩;obtain⟨v1,vs,rfl,h1,hr⟩:=hr.my;obtain⟨v2,vs,rfl,h2,hr⟩:=hr.my;obtain⟨v3,vs,rfl,h3,hr⟩:=hr.my;obtain rfl:=hr.pH;obtain rfl:=iR.kN h1;obtain rfl:=iR.kN h3;obtain⟨A,c,rfl,s1⟩:=uI (kS v) h2;exact(agH v e A c w h0 s1 hK hl kZ kF).mono λe w' h=>rd B w e w' hB h
def jX(n d y:Nat):Nat:=n*2^y/d
def lj(n d y:Nat):Nat:=n*2^y%d
def Lp(n d y:Nat):n*2^(y+1)=d*(2*jX n d y)+2*lj n d y:=by
 have:=cB (n*2^y) d;unfold jX lj;rw[bG,<-bB,dt];omega
def acR{n d y:Nat}(hd:0<d)(h:2*lj n d y<d):lj n d (y+1)=2*lj n d y/\jX n d (y+1)=2*jX n d y:=by
 constructor
 .conv=>lhs;unfold lj
  rw[Lp n d y,ep,bQ h]
 .conv=>lhs;unfold jX
  rw[Lp n d y,dJ hd,cA h,bK]
def acS{n d y:Nat}(hd:0<d)(h:¬2*lj n d y<d):lj n d (y+1)=2*lj n d y-d/\jX n d (y+1)=2*jX n d y+1:=by
 have hr:lj n d y<d:=bC _ hd;have e:n*2^(y+1)=d*(2*jX n d y+1)+(2*lj n d y-d):=by
  rw[Lp n d y,bM,cg];omega
 constructor
 .conv=>lhs;unfold lj
  rw[e,ep,bQ aD]
 .conv=>lhs;unfold jX
  rw[e,dJ hd,cA aD,bK]
def Hk{n d:Nat}(hn:1<=n)(hd:1<=d)(sy:d<=1073741824)(p:Nat):∃ K,K<p+31/\(∀ y,y<K->iA (jX n d y)<p)/\p<=iA (jX n d K):=by
 have hx:p<=iA (jX n d (p+30)):=by
  refine dG (wX.2 ?_);unfold jX;rw[dB hd,bw];have h1:2^p*d<=2^p*2^30:=cM _ aD;have h2:=bR (2^p*2^30) hn;rw[ck]at h2;exact bJ h1 h2
 obtain⟨K,h1,h2,h3⟩:=sY (n:=p+31) (p:=λy=>decide (p<=iA (jX n d y))) ⟨p+30,aD,bq hx⟩;exact⟨K,h1,λy hy=>by have:=anz (h3 y hy);omega,dK h2⟩
def oL(r m x:Nat):Bool:=decide (r=0)&&decide (m%2^x=0)
def Cv{r m x:Nat}:oL r m x=true↔r=0/\m%2^x=0:=by
 unfold oL;rw[bY,cH,cH]
def acO(r m:Nat):((r:Int)==0)=oL r m 0:=by
 rw[fP,Cv,ca,dn,beq_iff_eq];omega
def acM{r m x:Nat}(h:oL r m x=false):oL r m (x+1)=false:=by
 refine bh λq=>?_
 rw[Cv]at q;have h2:=I7 m x;have h3:m%2^x=0:= aD ;rw[Cv.2 ⟨q.1,h3⟩]at h;cases h
def acN{r m x:Nat}(h:oL r m x=true)(hb:m/2^x%2=0):oL r m (x+1)=true:=by
 rw[Cv]at h ⊢;refine⟨h.1,?_⟩;rw[I7,hb,h.2,cN]
def acL{r m x:Nat}(hb:¬m/2^x%2=0):oL r m (x+1)=false:=by
 refine bh λq=>?_
 rw[Cv]at q;have h2:=I7 m x;have h3:m/2^x%2*2^x=0:= aD ;rcases ie.1 h3 with k|k
 .exact hb k
 .exact absurd k (eO (bA aF))
def ln(n d p K:Nat):Nat:=iA (jX n d K)-p
def kg(n d p K:Nat):Nat:=jX n d K/2^ln n d p K
def nE(n d p K:Nat):Int:=(0-(K:Int))+(ln n d p K:Int)
def YC{x y c:Rat}(hc:0<c):x<=y↔x*c<=y*c:=
 ⟨λh=>cI h (bH hc),λh=>cW h hc⟩
section
variable {a n d l K:Nat}
def Xn(hd:1<=d):0<(d:Rat)*P2 (K:Int)/\(n:Rat)/(d:Rat)*((d:Rat)*P2 (K:Int))=((n*2^K:Nat):Rat):=by
 have h0:(0:Rat)<(d:Rat):=cV.2 aD;refine⟨cT h0 (pr _),?_⟩;rw[<-dW,cL aO,uN,<-cX]
def W2:(a:Rat)*P2 ((0-(K:Int))+(l:Int))*((d:Rat)*P2 (K:Int))=((a*2^l*d:Nat):Rat):=by
 have e:P2 ((0-(K:Int))+(l:Int))*P2 (K:Int)=((2^l:Nat):Rat):=by
  rw[<-tO,(aD:0-(K:Int)+l+K=(l:Int)),uN]
 rw[cX,cX,<-e]
 grind
def N7(hd:1<=d):(a:Rat)*P2 ((0-(K:Int))+(l:Int))<=(n:Rat)/(d:Rat)↔a*2^l*d<=n*2^K:=by
 obtain⟨h1,h2⟩:=Xn (n:=n) (K:=K) hd;rw[YC h1,h2,W2,dX]
def OF(hd:1<=d):(n:Rat)/(d:Rat)<=(a:Rat)*P2 ((0-(K:Int))+(l:Int))↔n*2^K<=a*2^l*d:=by
 obtain⟨h1,h2⟩:=Xn (n:=n) (K:=K) hd;rw[YC h1,h2,W2,dX]
end
section
variable {n d p K:Nat}
def Hj(hb:p<=iA (jX n d K)):iA (kg n d p K)=p:=by
 unfold kg ln;rw[QY aD];omega
def Lr(hd:1<=d)(kx:n<=1073741824)(hb:p<=iA (jX n d K))(hp:1<=p):ln n d p K<=31+K:=by
 unfold ln;have h1:jX n d K<=n*2^K:=cE _ _;have h2:n*2^K<2^(31+K):=by
  rw[bw];exact dg aD (bA aF)
 have:=kV.2 (cK h1 h2);omega
def Sh(hd:1<=d):kg n d p K*2^ln n d p K*d<=n*2^K/\n*2^K<(kg n d p K+1)*2^ln n d p K*d/\(oL (lj n d K) (jX n d K) (ln n d p K)=true↔n*2^K=kg n d p K*2^ln n d p K*d):=by
 have h1:=cB (n*2^K) d;have h2:=bC (n*2^K) (aD:0<d);change d*jX n d K+lj n d K=n*2^K at h1;change lj n d K<d at h2;have h3:=cB (jX n d K) (2^ln n d p K);have h4:=bC (jX n d K) (bA (n:=ln n d p K) (show 0<2 by decide));change 2^ln n d p K*kg n d p K+jX n d K%2^ln n d p K=jX n d K at h3;rw[Cv,<-h1];generalize jX n d K=M at *
 generalize lj n d K=R at *
 generalize kg n d p K=T at *
 generalize 2^ln n d p K=q at *
 generalize M%q=s at *
 subst h3;have e1:T*q*d=d*(q*T):=by rw[bE,bE T]
 have e2:(T+1)*q*d=d*(q*T)+d*q:=by rw[b8,ck,b8,e1,bE q d]
 have e3:d*(q*T+s)=d*(q*T)+d*s:=bM _ _ _;have e4:d*s+d<=d*q:=by
  have:=cM d h4;rw[Nat.succ_eq_add_one,bM,cg]at this;exact this
 rw[e1,e2,e3];refine⟨aD,aD,?_⟩;constructor
 .rintro ⟨rfl,rfl⟩;simp
 .intro h;have e5:d*s=0:= aD ;refine⟨aD,?_⟩;rcases ie.1 e5 with k|k
  .omega
  .exact k
variable (hn:1<=n) (kx:n<=1073741824) (hd:1<=d) (hp:8<=p) (iq:p<=512) (hK:K<p+31) (hb:p<=iA (jX n d K))
include kx hd hp iq hK hb
def SL:Dn p ((n:Rat)/(d:Rat)) (canon false (kg n d p K) (nE n d p K)) 0:=by
 have hl:=Lr hd kx hb aD;obtain⟨b1,b2,_⟩:=Sh (n:=n) (d:=d) (p:=p) (K:=K) hd;refine ahC (Hj hb) aD aW aW ((N7 hd).2 b1) ?_;apply gF.1;intro q;have:=(N7 hd).1 q;omega
def SM:Up p ((n:Rat)/(d:Rat)) (if oL (lj n d K) (jX n d K) (ln n d p K)=true then canon false (kg n d p K) (nE n d p K)else canon false (kg n d p K+1) (nE n d p K)) 0:=by
 have hl:=Lr hd kx hb aD;obtain⟨b1,b2,b3⟩:=Sh (n:=n) (d:=d) (p:=p) (K:=K) hd;split
 .rename_i h;have h:=b3.1 h;exact ads (Hj hb) aW aW (fc ((OF hd).2 aD) ((N7 hd).2 aD))
 .rename_i h;have h:¬n*2^K=kg n d p K*2^ln n d p K*d:=λq=>h (b3.2 q)
  refine ahE (Hj hb) aD aW aW ?_ ((OF hd).2 aD);apply gF.1;intro q;have:=(OF hd).1 q;omega
end
def al2{p:Nat}{v:Rat}{D:Dy}{E:Int}(h:Up p v D E):Dn p (-v) (jf D) E:=
 ⟨λhe=>⟨by rw[pk];exact(h.1 he).1.neg,by rw[pk];have:=(h.1 he).2;grind⟩,λg hg MH=>by
  obtain⟨a,b⟩:=h.2 (-g) hg.neg aO;exact⟨a,by rw[pk];grind⟩⟩
def aco{p:Nat}{v:Rat}{D:Dy}{E:Int}(h:Dn p v D E):Up p (-v) (jf D) E:=
 ⟨λhe=>⟨by rw[pk];exact(h.1 he).1.neg,by rw[pk];have:=(h.1 he).2;grind⟩,λg hg MH=>by
  obtain⟨a,b⟩:=h.2 (-g) hg.neg aO;exact⟨a,by rw[pk];grind⟩⟩
def Pc{n d:Int}{p:Nat}(hp:8<=p)(iq:p<=512)(hr:jN n d=true){lo hi:Dy}(h1:Dn p ((n:Rat)/(d:Rat)) lo 0)(h2:Up p ((n:Rat)/(d:Rat)) hi 0)(c1:lo.lh)(c2:hi.lh):lu n d p=⟨lo,hi,false⟩:=by
 obtain⟨r1,_⟩:=pn hr;have d0:(jY d).m≠0:=IZ aD;obtain⟨A,B⟩:=G9 (a:=jY n) (b:=jY d) d0 (p:=p) aD aD;rw[yc,yc]at A B;obtain⟨e1,e2⟩:=acp h1 A c1 (Hb d0 aD aD _).canon;obtain⟨e3,e4⟩:=al3 h2 B c2 (Hb d0 aD aD _).canon;unfold lu;rw[bn hr,e1,e2,e3,e4];rfl
def Yt{d:Int}{p:Nat}(hp:8<=p)(iq:p<=512)(hr:jN 0 d=true):lu 0 d p=⟨iQ,iQ,false⟩:=by
 have hz:((0:Int):Rat)/(d:Rat)=0:=by rw[cF,show((0:Int):Rat)=0 from rfl,gH]
 refine Pc hp iq hr ?_ ?_ qn.canon qn.canon
 .rw [hz];exact⟨λ_=>⟨by rw[qy];exact .inl (yl p),by rw[qy];exact bS⟩,λg _ h=>⟨rfl,by rw[qy];exact h⟩⟩
 .rw [hz];exact⟨λ_=>⟨by rw[qy];exact .inl (yl p),by rw[qy];exact bS⟩,λg _ h=>⟨rfl,by rw[qy];exact h⟩⟩
section
variable {n d p K:Nat}
def Ys(kx:n<=1073741824)(hd:1<=d)(hp:8<=p)(iq:p<=512)(hK:K<p+31)(hb:p<=iA (jX n d K))(hr:jN (n:Int) (d:Int)=true):
 lu (n:Int) (d:Int) p=⟨canon false (kg n d p K) (nE n d p K),if oL (lj n d K) (jX n d K) (ln n d p K)=true then canon false (kg n d p K) (nE n d p K)else canon false (kg n d p K+1) (nE n d p K),false⟩:=by
 refine Pc hp iq hr (SL kx hd hp iq hK hb) (SM kx hd hp iq hK hb) (qF _ _ _) ?_;split<;>exact qF _ _ _
def Yr(kx:n<=1073741824)(hd:1<=d)(hp:8<=p)(iq:p<=512)(hK:K<p+31)(hb:p<=iA (jX n d K))(hr:jN (-(n:Int)) (d:Int)=true):
 lu (-(n:Int)) (d:Int) p=⟨jf (if oL (lj n d K) (jX n d K) (ln n d p K)=true then canon false (kg n d p K) (nE n d p K)else canon false (kg n d p K+1) (nE n d p K)),jf (canon false (kg n d p K) (nE n d p K)),false⟩:=by
 have e:((-(n:Int):Int):Rat)/((d:Int):Rat) = -((n:Rat)/(d:Rat)):=by
  rw[fm,cF,cF,gG];rfl
 refine Pc hp iq hr ?_ ?_ (BK ?_) (BK (qF _ _ _))
 .rw [e];exact al2 (SM kx hd hp iq hK hb)
 .rw [e];exact aco (SL kx hd hp iq hK hb)
 .split<;>exact qF _ _ _
end
def Tv(a b:Nat)(x:Nat):PS:=⟨12,true,[(0,.e (.v (.int .u64 (((mo a b x).1:Nat):Int)))),(1,.e (.v (.int .u64 (((mo a b x).2:Nat):Int))))],[]⟩
def ad6(a b N:Nat)(ha:a<18446744073709551616)(hb:b<18446744073709551616)(jk:∀ k,k<N->(mo a b k).2≠0)(hN:(mo a b N).2=0):ig 152 [.v (.int .u64 (a:Int)),.v (.int .u64 (b:Int))] (.v (.int .u64 (((mo a b N).1:Nat):Int))):=
 ak call152 func152 (af [.s (Sp.jP (Tv a b) 0 N aD (λx hx lp=>by
    have jS:=jk x aD;exact iM (ae [ah 6 ((((mo a b x).2:Nat):Int) != 0) (C9 (jk x aD)),.a (aD:0<((((mo a b x).2:Nat):Int):Int))]<|.e (af [.o 0 (.int aS:aj (.v (.int .u64 (((mo a b x).2:Nat):Int))) (.v (.int .u64 (((mo a b (x+1)).1:Nat):Int)))),.o 1 (.int aS:aj (.v (.int .u64 ((((mo a b x).1)%((mo a b x).2):Nat):Int))) (.v (.int .u64 (((mo a b (x+1)).2:Nat):Int))))])) aG)
  (λhx=>by
    exact iM (af [ai 6 ((((mo a b N).2:Nat):Int) != 0) (Ar hN)]) aG) aK:jO 1 f152 (Tv a b 0) (.exit 0) ⟨12,true,[(0,.e (.v (.int .u64 (((mo a b N).1:Nat):Int))))],[]⟩) (af [.o 0 (.int aS:aj (.v (.int .u64 (a:Int))) (.v (.int .u64 (((mo a b 0).1:Nat):Int)))),.o 1 (.int aS:aj (.v (.int .u64 (b:Int))) (.v (.int .u64 (((mo a b 0).2:Nat):Int))))])]) 
def ad7(a b:Nat)(ha:a<18446744073709551616)(hb:b<18446744073709551616):ig 152 [.v (.int .u64 (a:Int)),.v (.int .u64 (b:Int))] (.v (.int .u64 (Nat.gcd a b:Int))):=by
 obtain⟨N,h1,h2⟩:=SR b a;have hg:=Ly a b N;rw[h2,anA]at hg;rw[<-hg];exact ad6 a b N ha hb h1 h2
def ak0(m:Nat)(h:m<=1073741824):ig 153 [iP m] (.v (.int .u64 (m:Int))):=
 ak call153 func153 (af [tF 4 ((m:Int)<0) aD,.o 9 (.int (oj _ aD):aj (.v (.int .u64 (IntKind.u64.wrap (m:Int)))) (.v (.int .u64 (m:Int))))]) 
def akZ(m:Nat)(h0:0<m)(h:m<=1073741824):ig 153 [iP (-(m:Int))] (.v (.int .u64 (m:Int))):=
 ak call153 func153 (af [tT 4 ((-(m:Int))<0) aD,iC (0-(-(m:Int))) aD,.o 6 (an (0-(-(m:Int))) m aD),.o 7 (.int (oj _ aD):aj (.v (.int .u64 (IntKind.u64.wrap (m:Int)))) (.v (.int .u64 (m:Int))))]) 
def YQ(n:Int)(h1:-1073741824<=n)(h2:n<=1073741824):ig 153 [iP n] (.v (.int .u64 (n.natAbs:Int))):=by
 by_cases h:0<=n
 .obtain ⟨m,rfl⟩:=dk h;exact ak0 m aD 
 .obtain ⟨m,rfl⟩:∃ m:Nat,n = -(m:Int):=⟨n.natAbs,aD⟩
  rw[fK,dj];exact akZ m aD aD 
def xW(g:Nat):((g:Int)==1)=decide (g=1):=by
 by_cases h:g=1
 .subst h;rfl
 .rw [bt h];exact bd aD 
def OM(n d:Int):ig 75 [.agg [iP n,iP d]] (bP (jN n d)):=
 ak call75 func75 (.w (1<=d)
  (λk1=>ae [tB 5 (bq k1)]<|.w (d<=1073741824)
   (λk2=>ae [tB 9 (bq k2)]<|.w ((-1073741824)<=n)
    (λk3=>ae [tB 14 (bq k3)]<|.w (n<=1073741824)
     (λk4=>ae [tB 19 (bq k4),ag [iP n] (YQ _ aD aD),ag [iP d] (YQ _ aD aD),.c (ad7 (Int.natAbs n) (Int.natAbs d) aD aD)]<|rQ (bP ((Nat.gcd (Int.natAbs n) (Int.natAbs d):Int)==1)) (bP (jN n d)) (by unfold jN;simp[xW,k1,k2,k3,k4]))
     (λk4=>ae [tB 19 (bt k4)]<|rQ (bP false) (bP (jN n d)) (by unfold jN;simp[xW,k1,k2,k3,k4])))
    (λk3=>ae [tB 14 (bt k3)]<|rQ (bP false) (bP (jN n d)) (by unfold jN;simp[xW,k1,k2,k3])))
   (λk2=>ae [tB 9 (bt k2)]<|rQ (bP false) (bP (jN n d)) (by unfold jN;simp[xW,k1,k2])))
  (λk1=>ae [tB 5 (bt k1)]<|rQ (bP false) (bP (jN n d)) (by unfold jN;simp[xW,k1]))) 
def Wa{lo hi:Dy}{e f:Int}(h:e≠0\/f≠0):mU lo e hi f=il:=bn h
def agI{lo hi:Dy}{e f:Int}(h:e=0)(k:f=0):mU lo e hi f=⟨lo,hi,false⟩:=bl (by rw[h,k];decide)
def XU(n d:Int)(p:Nat)(h:jN n d=true)(iD:8<=p)(iq:p<=512):ig 282 [.agg [iP n,iP d],iP p] (ix (lu n d p)):=by
 obtain⟨r1,r2,r3,r4⟩:=pn h;have v1:=E7 (n:=n) aD;have v2:=E7 (n:=d) aD;have d0:(jY d).m≠0:=IZ aD;exact ak call282 func282 (ae [.c (OM n d),ai 11 (!(jN n d)) (by rw[h];rfl),ag [iP n] (Cm _ aD),ag [iP d] (Cm _ aD),.c (X1 (jY n) (jY d) p aE aE aE aD aD),ag [iP n] (Cm _ aD),ag [iP d] (Cm _ aD),.c (X2 (jY n) (jY d) p aE aE aE aD aD)]<|.w ((mS (jY n) (jY d) p false)=0)
  (λk1=>ae [tB 36 (bj k1)]<|.w ((mS (jY n) (jY d) p true)=0)
   (λk2=>ae [tB 39 (bj k2)]<|rQ (ix (Iv.mk (ks (jY n) (jY d) p false) (ks (jY n) (jY d) p true) false)) (ix (lu n d p)) (by unfold lu;rw[bn h,agI k1 k2]))
   (λk2=>ae [tB 39 (bk k2),.o 41 (.e yj:aj (.agg [bP false,.v (.slice none 0 0),iP 0,bP false,.v (.slice none 0 0),iP 0,bP true]) (ix il))]<|rQ (ix il) (ix (lu n d p)) (by unfold lu;rw[bn h,Wa (.inr k2)])))
  (λk1=>ae [tB 36 (bk k1),.o 41 (.e yj:aj (.agg [bP false,.v (.slice none 0 0),iP 0,bP false,.v (.slice none 0 0),iP 0,bP true]) (ix il))]<|rQ (ix il) (ix (lu n d p)) (by unfold lu;rw[bn h,Wa (.inl k1)]))) 
noncomputable def Cx(x:Iv)(p:Nat):Iv:=@dite Iv (∃ y:Iv,y.iu/\ig 302 [ix x,iP (p:Int)] (ix y)) (Classical.propDecidable _) Classical.choose (λ_=>il)
def adB(x:Iv)(p:Nat):(Cx x p).iu:=by
 unfold Cx;split
 .rename_i h;exact(eB h).1
 .exact mA
def adA(x:Iv)(hx:x.iu)(p:Nat)(iD:8<=p)(iq:p<=512)(hF:zD):ig 302 [ix x,iP (p:Int)] (ix (Cx x p)):=by
 have h:∃ y:Iv,y.iu/\ig 302 [ix x,iP (p:Int)] (ix y):=(hF x p hx iD iq).1;unfold Cx;rw[dif_pos h];exact(eB h).2
noncomputable def Cy(x:Iv)(p:Nat):Iv:=@dite Iv (∃ y:Iv,y.iu/\ig 303 [ix x,iP (p:Int)] (ix y)) (Classical.propDecidable _) Classical.choose (λ_=>il)
def adD(x:Iv)(p:Nat):(Cy x p).iu:=by
 unfold Cy;split
 .rename_i h;exact(eB h).1
 .exact mA
def adC(x:Iv)(hx:x.iu)(p:Nat)(iD:8<=p)(iq:p<=512)(hF:zD):ig 303 [ix x,iP (p:Int)] (ix (Cy x p)):=by
 have h:∃ y:Iv,y.iu/\ig 303 [ix x,iP (p:Int)] (ix y):=(hF x p hx iD iq).2.1;unfold Cy;rw[dif_pos h];exact(eB h).2
noncomputable def Be(x:Iv)(p:Nat):Iv:=@dite Iv (∃ y:Iv,y.iu/\ig 304 [ix x,iP (p:Int)] (ix y)) (Classical.propDecidable _) Classical.choose (λ_=>il)
def adF(x:Iv)(p:Nat):(Be x p).iu:=by
 unfold Be;split
 .rename_i h;exact(eB h).1
 .exact mA
def adE(x:Iv)(hx:x.iu)(p:Nat)(iD:8<=p)(iq:p<=512)(hF:zD):ig 304 [ix x,iP (p:Int)] (ix (Be x p)):=by
 have h:∃ y:Iv,y.iu/\ig 304 [ix x,iP (p:Int)] (ix y):=(hF x p hx iD iq).2.2.1;unfold Be;rw[dif_pos h];exact(eB h).2
noncomputable def Bd(x:Iv)(p:Nat):Iv:=@dite Iv (∃ y:Iv,y.iu/\ig 305 [ix x,iP (p:Int)] (ix y)) (Classical.propDecidable _) Classical.choose (λ_=>il)
def adz(x:Iv)(p:Nat):(Bd x p).iu:=by
 unfold Bd;split
 .rename_i h;exact(eB h).1
 .exact mA
def ady(x:Iv)(hx:x.iu)(p:Nat)(iD:8<=p)(iq:p<=512)(hF:zD):ig 305 [ix x,iP (p:Int)] (ix (Bd x p)):=by
 have h:∃ y:Iv,y.iu/\ig 305 [ix x,iP (p:Int)] (ix y):=(hF x p hx iD iq).2.2.2.1;unfold Bd;rw[dif_pos h];exact(eB h).2
noncomputable def Cz(x:Iv)(p:Nat):Iv:=@dite Iv (∃ y:Iv,y.iu/\ig 306 [ix x,iP (p:Int)] (ix y)) (Classical.propDecidable _) Classical.choose (λ_=>il)
def adH(x:Iv)(p:Nat):(Cz x p).iu:=by
 unfold Cz;split
 .rename_i h;exact(eB h).1
 .exact mA
def adG(x:Iv)(hx:x.iu)(p:Nat)(iD:8<=p)(iq:p<=512)(hF:zD):ig 306 [ix x,iP (p:Int)] (ix (Cz x p)):=by
 have h:∃ y:Iv,y.iu/\ig 306 [ix x,iP (p:Int)] (ix y):=(hF x p hx iD iq).2.2.2.2;unfold Cz;rw[dif_pos h];exact(eB h).2
def DX(o:lO):Bool:=decide (o.kind<=6)
noncomputable def kI(o:lO)(x y:Iv)(p:Nat):Iv:=
 if o.kind=3 then jL x y p else if o.kind=4 then lk x y p else if o.kind=5 then iI x y p else if o.kind=6 then jj x y p
 else if o.kind=7 then nL x else if o.kind=8 then nX x o.n p else if o.kind=9 then Cx x p else if o.kind=10 then Cy x p
 else if o.kind=11 then Be x p else if o.kind=12 then Bd x p else if o.kind=13 then Cz x p else il
noncomputable def sw(o:lO)(l:List Iv)(p:Nat):Iv:=if o.kind=1 then lu o.cn o.cd p else kI o (l.getD o.a il) (if DX o then l.getD o.b il else il) p
noncomputable def iS(ik:List lO)(xs:List Iv)(p:Nat):Nat->List Iv
 | 0=>xs
 |k+1=>iS ik xs p k++[sw (ik.getD k iF) (iS ik xs p k) p]
noncomputable def ko(t:mB)(xs:List Iv)(p:Nat):List Iv:=t.iL.map λk=>(iS t.ik xs p t.ik.length).getD k il
noncomputable def lF(s:kG)(x:List Iv)(h:Dy)(b:List Iv)(p:Nat):List Iv:=
 if mY (ko s.tape (b++s.params) p)then[]else if mY (xK x (ko s.tape (b++s.params) p) h p)then[]else xK x (ko s.tape (b++s.params) p) h p
noncomputable def qK(s:kG)(x:List Iv)(h:Dy)(b:List Iv)(p:Nat):Bool:=!(lF s x h b p).isEmpty&&(uz x b&&uz (lF s x h b p) b)
def B6(ik:List lO)(xs:List Iv)(p:Nat):∀ k,(iS ik xs p k).length=xs.length+k
 | 0=>rfl
 |k+1=>by simp only[iS,cJ,B6 ik xs p k,df,fS];omega
def aac(o:lO){x y:Iv}(hx:x.iu)(hy:y.iu){p:Nat}(hp:1<=p)(iq:p<=4096):(kI o x y p).iu:=by
 unfold kI;split
 .exact rn hx hy hp iq
 split
 .exact rn hx (sE hy) hp iq
 split
 .exact lX _ _ hp iq
 split
 .exact pd _ _ hp iq
 split
 .exact sE hx
 split
 .exact JA hx _ hp iq
 split
 .exact adB _ _
 split
 .exact adD _ _
 split
 .exact adF _ _
 split
 .exact adz _ _
 split
 .exact adH _ _
 .exact mA
def aad(o:lO){l:List Iv}(hl:nP l){p:Nat}(hp:1<=p)(iq:p<=4096):(sw o l p).iu:=by
 unfold sw;split
 .exact zk _ _ hp iq
 .exact aac o (hl _) (by split;exact hl _;exact mA) hp iq
def zA(ik:List lO){xs:List Iv}(h:nP xs){p:Nat}(hp:1<=p)(iq:p<=4096):∀ k,nP (iS ik xs p k)
 | 0=>h
 |k+1=>(zA ik h hp iq k).push (aad _ (zA ik h hp iq k) hp iq)
def S4(t:mB){xs:List Iv}(h:nP xs){p:Nat}(hp:1<=p)(iq:p<=4096):nP (ko t xs p):=λi=>by
 unfold ko;rw[bu,cY];cases t.iL[i]? with
 |none=>exact mA
 |some k=>exact zA t.ik h hp iq _ _
def Bf(t:mB)(xs:List Iv)(p:Nat):(ko t xs p).length=t.iL.length:=by simp[ko]
def Nc{s:kG}{x b:List Iv}{h:Dy}{p n:Nat}(hx:kU n x)(hp:1<=p)(iq:p<=4096)(kq:lF s x h b p≠[]):kU n (lF s x h b p):=by
 unfold lF at kq ⊢;split at kq
 .exact absurd rfl kq
 .rename_i h1;rw[bl h1];split at kq
  .exact absurd rfl kq
  .rename_i h2;rw[bl h2];exact⟨by rw[IX,hx.len],aeU (by simpa using h2) (afD hx.ok.PJ hp iq)⟩
def abW:kr 1=0:= aP 
def KW(e:Int):canon false 1 e=⟨false,1,e⟩:=by
 unfold canon;rw[bl aF,abW];simp
def nh(k:Int):Dy:=⟨false,1,k⟩
def PB{k:Int}(h1:-100<=k)(h2:k<=100):nu (nh k):=.inr ⟨by show iA 1<=4096;rw[zH];decide,by show -16384<=k;omega,by show k<=16384;omega,by show(iA 1:Int)+k<=16384;rw[zH];omega⟩
def Kd{k:Int}(h1:-100<=k)(h2:k<=100):(nh k).iu:=⟨by have:=qF false 1 k;rwa[KW]at this,PB h1 h2⟩
def PD(k:Int):¬(nh k).jh<0:=by
 rw[(ri _).2,pU];show ¬(if false=true then _ else((1:Nat):Rat)*P2 k)<0;rw[bl aF];have:=pr k
 grind
def YN{d:Dy}(h:¬d.jh<0):0<=d.q:=by
 rw[(ri d).2]at h
 grind
noncomputable def rp(s:kG)(x:List Iv)(h:Dy)(p:Nat)(k:Int):Bool:=qU x (nh k)&&qK s x h (rB x (nh k)) p
def zn(d:Dy):Dy:=kY (canon d.neg d.m (d.e + -3))
def Pg(d:Dy):Int:=nk (canon d.neg d.m (d.e + -3))
def rM(x:List Iv)(p:Nat):Dy:=if Gm x p then nB x p x.length else iQ
noncomputable def lV(s:kG)(x:List Iv)(h:Dy)(b:List Iv)(p:Nat):List Iv:=
 if lF s x h b p=[]then[]else
 if Gm (mV x (lF s x h b p)) p=false\/(rM (mV x (lF s x h b p)) p).jh=0 then mV x (lF s x h b p)else
 if Pg (rM (mV x (lF s x h b p)) p)≠0 then mV x (lF s x h b p)else
 if qU (mV x (lF s x h b p)) (zn (rM (mV x (lF s x h b p)) p))then rB (mV x (lF s x h b p)) (zn (rM (mV x (lF s x h b p)) p))else mV x (lF s x h b p)
noncomputable def lJ(s:kG)(x:List Iv)(h:Dy)(p:Nat):Nat->List Iv
 | 0=>x
 |j+1=>lV s x h (lJ s x h p j) p
def YE(d:Dy):(zn d).iu:=K1 (qF _ _ _)
def YD{d:Dy}(h:0<=d.q):0<=(zn d).q:=by
 unfold zn kY;split
 .rw [sF];rw[pU]at h;have p1:=pr d.e;have p2:=pr (d.e + -3);have m0:(0:Rat)<=(d.m:Rat):=by exact_mod_cast ch d.m
  split
  .rename_i hn;rw[bn hn]at h;have hm:(d.m:Rat)*P2 d.e=0:=by
    have:=bL m0 (bH p1)
    grind
   have vt:(d.m:Rat)=0:=by
    rcases Rat.mul_eq_zero.1 hm with q|q
    .exact q
    .grind
   rw[vt]
   grind
  .exact bL m0 (bH p2)
 .rw [qy];exact bS
def ZH(x:List Iv)(p:Nat):∀ k,0<=(nB x p k).q
 | 0=>by show 0<=iQ.q;rw[qy];exact bS
 |k+1=>by
  have ih:=ZH x p k;show 0<=(if 0<jA (rL (x.getD k il) p) (nB x p k)then rL (x.getD k il) p else nB x p k).q;split
  .rename_i h;have:¬jA (rL (x.getD k il) p) (nB x p k)<=0:= aD ;rw[qx]at this
   grind
  .exact ih
def ZI(x:List Iv)(p:Nat):0<=(rM x p).q:=by
 unfold rM;split
 .exact ZH x p _
 .rw [qy];exact bS
def ait{d:Dy}(h:0<=d.q):¬d.jh<0:=by
 rw[(ri d).2]
 grind
def Cc{s:kG}{x b:List Iv}{h:Dy}{p n:Nat}(hx:kU n x)(hp:1<=p)(iq:p<=4096)(kq:lV s x h b p≠[]):kU n (lV s x h b p):=by
 unfold lV at kq ⊢;split at kq
 .exact absurd rfl kq
 .rename_i h1;rw[bl h1];have hh:=U2 hx (Nc hx hp iq h1);split
  .exact hh
  .split
   .exact hh
   .split
    .rename_i hg;exact LP hh (YE _) (YD (ZI _ _)) hg
    .exact hh
def QA(a b:List Iv)(g:FuncId)(cap:List E)(i:Nat):PS:=⟨32,false,[(17,.e (iP i)),(16,.e (iP a.length)),(15,.e (iz a)),(1,.e (iz b)),(2,.e (.fn g cap))],[]⟩
def Qz(a b:List Iv)(g:FuncId)(cap:List E)(N:Nat)(i:Nat):PS:=⟨32,false,[(17,.e (iP i)),(16,.e (iP a.length)),(15,.e (iz a)),(1,.e (iz b)),(2,.e (.fn g cap))],[]⟩
def QD(x:List Iv)(d:Dy)(i:Nat):PS:=⟨60,true,[(6,.own 6),(28,.e (iP i)),(27,.e (iP x.length)),(26,.e (iz x)),(3,.box 3 0)],[(6,.row true 33 i 7 (jF ((List.range i).map (λj_=>qq (x.getD j_ il) d)))),(3,.cells 28 (jc d))]⟩
def QB(x:List Iv)(d:Dy)(N:Nat)(i:Nat):PS:=⟨60,true,[(6,.own 6),(28,.e (iP i)),(27,.e (iP x.length)),(26,.e (iz x)),(3,.box 3 0)],[(6,.row true 33 i 7 (jF ((List.range i).map (λj_=>qq (x.getD j_ il) d)))),(3,.cells 28 (jc d))]⟩
def QC(x:List Iv)(d:Dy)(N:Nat)(i:Nat):PS:=⟨60,true,[(6,.own 6),(28,.e (iP i)),(27,.e (iP x.length)),(26,.e (iz x)),(3,.box 3 0)],[(6,.row true 33 i 7 (jF ((List.range i).map (λj_=>qq (x.getD j_ il) d)))),(3,.cells 28 (jc d))]⟩
def QE(a b:List Iv)(i:Nat):PS:=⟨30,true,[(5,.own 5),(13,.e (iP i)),(12,.e (iP a.length)),(0,.e (iz a)),(1,.e (iz b))],[(5,.row true 33 i 7 (jF ((List.range i).map (λj_=>qe (a.getD j_ il) (b.getD j_ il)))))]⟩
def QP(x:List Iv)(p:Nat)(i:Nat):PS:=⟨42,true,[(22,.e (iP i)),(21,.e (iP x.length)),(20,.e (iz x)),(6,.box 6 0),(4,.box 4 0),(1,.e (iP p))],[(6,.cells 28 (jc (nB x p i))),(4,.cells 28 aq)]⟩
def QO(x:List Iv)(p:Nat)(N:Nat)(i:Nat):PS:=⟨42,true,[(22,.e (iP i)),(21,.e (iP x.length)),(20,.e (iz x)),(6,.box 6 0),(4,.box 4 0),(1,.e (iP p))],[(6,.cells 28 (jc (nB x p i))),(4,.cells 28 aq)]⟩
def aba(x:Iv)(hx:x.iu)(xa:x.all=false):ig 236 [ix x] (bP false):=
 ak call236 func236 (af [ai 4 x.all xa,.c (si x aE)]) 
def AX(b:List Iv)(h1:1<=b.length)(h8:b.length<=8)(hb:pX b):ig 171 [iz b] (bP true):=
 ak call171 func171 (af [tT 5 (1<=(b.length:Int)) aD,tT 9 ((b.length:Int)<=8) aD,.c (xN true _ _ 236 [] (λ_=>false) (λi hi=>aba _ (hb i hi).1 (hb i hi).2) aD (λ_ _=>rfl):ig 150 [iz b,.fn 236 []] _)]) 
def Q6(a b:List Iv)(a1:1<=a.length)(a8:a.length<=8)(hl:b.length=a.length)(ha:pX a)(hb:pX b):ig 175 [iz a,iz b] (bP true):=
 ak call175 func175 (af [.c (AX a aD aD aE),.c (AX b aD aD aE),ah 16 ((a.length:Int)==b.length) (FG aD)]) 
def aau(a b:List Iv)(g:FuncId)(cap:List E)(f:Nat->Bool)(hl:b.length=a.length)(h8:a.length<=1000)(hp:∀ i,i<a.length->ig g ((ix (a.getD i il))::(ix (b.getD i il))::cap) (bP (f i)))(jk:∀ i,i<a.length->f i=true):ig 176 [iz a,iz b,.fn g cap] (bP true):=
 al call176 func176 (af [ai 14 ((a.length:Int) != (b.length:Int)) (sD aD),.s (Sp.jP (QA a b g cap) 0 a.length aD (λi hi qH=>by
    exact iM (af [tT 18 ((i:Int)<a.length) aD,iX (i:Int) (a.length) aD,iX (i:Int) (b.length) aD,.c (hp i aD:ig g ((ix (a.getD i il))::(ix (b.getD i il))::cap) _),ah 29 (f i) (jk i aD),iC ((i:Int)+1) aD]) aG)
  (λhi=>by
    exact iM (af [tF 18 ((a.length:Int)<a.length) aD]) aG) aK:jO 4 f176 (QA a b g cap 0) (.exit 0) ⟨32,false,[],[]⟩) .nil]) 
def aas(a b:List Iv)(g:FuncId)(cap:List E)(f:Nat->Bool)(hl:b.length=a.length)(h8:a.length<=1000)(hp:∀ i,i<a.length->ig g ((ix (a.getD i il))::(ix (b.getD i il))::cap) (bP (f i)))(N:Nat)(oN:N<a.length)(jk:∀ i,i<N->f i=true)(hN:f N=false):ig 176 [iz a,iz b,.fn g cap] (bP false):=
 al call176 func176 (af [ai 14 ((a.length:Int) != (b.length:Int)) (sD aD),.s (Sp.jP (Qz a b g cap N) 0 N aD (λi hi qH=>by
    exact iM (af [tT 18 ((i:Int)<a.length) aD,iX (i:Int) (a.length) aD,iX (i:Int) (b.length) aD,.c (hp i aD:ig g ((ix (a.getD i il))::(ix (b.getD i il))::cap) _),ah 29 (f i) (jk i aD),iC ((i:Int)+1) aD]) aG)
  (λhi=>by
    exact iM (af [tT 18 ((N:Int)<a.length) aD,iX (N:Int) (a.length) aD,iX (N:Int) (b.length) aD,.c (hp N aD:ig g ((ix (a.getD N il))::(ix (b.getD N il))::cap) _),ai 29 (f N) hN]) aG) aK:jO 4 f176 (Qz a b g cap N 0) .ret ⟨32,false,[(6,.e (bP false))],[]⟩) .nil]) 
def aat(a b:List Iv)(g:FuncId)(cap:List E)(f:Nat->Bool)(hl:b.length=a.length)(h8:a.length<=1000)(hp:∀ i,i<a.length->ig g ((ix (a.getD i il))::(ix (b.getD i il))::cap) (bP (f i))):ig 176 [iz a,iz b,.fn g cap] (bP ((List.range a.length).all f)):=by
 by_cases h:∃ i,i<a.length/\(!(f i))=true
 .obtain ⟨N,h1,h2,h3⟩:=sY (p:=λi=>!(f i)) h;refine(aas a b g cap f hl h8 hp N h1 (λi hi=>by simpa using h3 i hi) (by simpa using h2)).kj (.jb ?_);rw[show(List.range a.length).all f=false from anB.2 ⟨N,cz.2 h1,by simpa using h2⟩]
 .have hh:∀ i,i<a.length->f i=true:=λi hi=>by
   cases hf:f i
   .exact absurd ⟨i,hi,by rw[hf];rfl⟩ h
   .rfl
  refine(aau a b g cap f hl h8 hp hh).kj (.jb ?_);rw[show(List.range a.length).all f=true from ct.2 λi hi=>hh i (cz.1 hi)]
def Q4(a b:List Iv)(a1:1<=a.length)(a8:a.length<=8)(hl:b.length=a.length)(ha:pX a)(hb:pX b):ig 100 [iz a,iz b] (bP (uz a b)):=
 ak call100 func100 (af [.c (Q6 a b aD aD aD aE aE),.c (aat a b 23 [] (λi=>pN (a.getD i il) (b.getD i il)) hl aD (λi hi=>aay _ _ (ha i hi).1 (hb i aD).1))]) 
def LQ{x:Iv}{d:Dy}(h:vj x d=true):nk (iJ x.lo (jf d))=0/\nk (iJ x.hi d)=0:=by
 unfold vj at h;rwa[bY,cH,cH]at h
def aa8(x:List Iv)(d:Dy)(x1:1<=x.length)(x8:x.length<=8)(hx:pX x)(hd:d.iu)(h0:¬d.jh<0)(jk:∀ i,i<x.length->vj (x.getD i il) d=true):ig 98 [iz x,im d] (.iB [iz ((List.range x.length).map (λj_=>qq (x.getD j_ il) d)),iP 0]):=
 ak call98 func98 (af [.c (AX x aD aD aE),ag [im d] (rz _ aE),ag [im d] (rW _ aE),tB 24 (bt h0),.y 6 6 true 33 7 (jF ((List.range 0).map (λj_=>qq (x.getD j_ il) d))),.s (Sp.jP (QD x d) 0 x.length aD (λi hi qH=>by
    obtain⟨w1,w2⟩:=(hx i aD).1.kn;obtain⟨g1,g2⟩:=LQ (jk i aD);have qJ:=oC (Iv.mk (kY (iJ (x.getD i il).lo (jf d))) (kY (iJ (x.getD i il).hi d)) false);exact iM (ae [tT 29 ((i:Int)<x.length) aD,iX (i:Int) (x.length) aD,ag [im ((x.getD i il).lo),im d] (DW _ _ aE aE),.c (DU ((x.getD i il).hi) d aE aE),ai 47 ((nk (iJ ((x.getD i il).lo) (jf d))) != 0) (by rw[g1];rfl),ai 50 ((nk (iJ ((x.getD i il).hi) d)) != 0) (by rw[g2];rfl),.o 56 (.e (mr _):aj (.sl true 1 7 λi_ j_=>(iZ (Iv.mk (kY (iJ ((x.getD i il).lo) (jf d))) (kY (iJ ((x.getD i il).hi) d)) false)).getD (i_*7+j_) (.v (.bool false))) (iz [Iv.mk (kY (iJ ((x.getD i il).lo) (jf d))) (kY (iJ ((x.getD i il).hi) d)) false])),.a (aD:(i+[Iv.mk (kY (iJ ((x.getD i il).lo) (jf d))) (kY (iJ ((x.getD i il).hi) d)) false].length)*88<=140737488355328),iC ((i:Int)+1) aD]<|.e (af [.b 6 (xP rfl rfl rfl:Bx.le (.row true 33 (i+[Iv.mk (kY (iJ ((x.getD i il).lo) (jf d))) (kY (iJ ((x.getD i il).hi) d)) false].length) 7 (λi_ j_=>if i_<i then(jF ((List.range i).map (λj_=>qq (x.getD j_ il) d))) i_ j_ else(E.jH (iz [Iv.mk (kY (iJ ((x.getD i il).lo) (jf d))) (kY (iJ ((x.getD i il).hi) d)) false])) (i_-i) j_)) (.row true 33 (i+1) 7 (jF ((List.range (i+1)).map (λj_=>qq (x.getD j_ il) d)))))])) aG)
  (λhi=>by
    exact iM (ae [tF 29 ((x.length:Int)<x.length) aD,.z 6]<|.e (af [.o 6 (.e (wV aJ):aj (.sl true x.length 7 (jF ((List.range x.length).map (λj_=>qq (x.getD j_ il) d)))) (iz ((List.range x.length).map (λj_=>qq (x.getD j_ il) d))))])) aG) aK:jO 5 Tryz.f98 (QD x d 0) (.exit 0) ⟨60,true,[(6,.e (iz ((List.range x.length).map (λj_=>qq (x.getD j_ il) d))))],[]⟩) .nil]) 
def aa6(x:List Iv)(d:Dy)(x1:1<=x.length)(x8:x.length<=8)(hx:pX x)(hd:d.iu)(h0:¬d.jh<0)(N:Nat)(oN:N<x.length)(jk:∀ i,i<N->vj (x.getD i il) d=true)(hN:nk (iJ (x.getD N il).lo (jf d))≠0):ig 98 [iz x,im d] (.iB [.v (.slice none 0 0),iP 9]):=
 ak call98 func98 (af [.c (AX x aD aD aE),ag [im d] (rz _ aE),ag [im d] (rW _ aE),tB 24 (bt h0),.y 6 6 true 33 7 (jF ((List.range 0).map (λj_=>qq (x.getD j_ il) d))),.s (Sp.jP (QB x d N) 0 N aD (λi hi qH=>by
    obtain⟨w1,w2⟩:=(hx i aD).1.kn;obtain⟨g1,g2⟩:=LQ (jk i aD);have qJ:=oC (Iv.mk (kY (iJ (x.getD i il).lo (jf d))) (kY (iJ (x.getD i il).hi d)) false);exact iM (ae [tT 29 ((i:Int)<x.length) aD,iX (i:Int) (x.length) aD,ag [im ((x.getD i il).lo),im d] (DW _ _ aE aE),.c (DU ((x.getD i il).hi) d aE aE),ai 47 ((nk (iJ ((x.getD i il).lo) (jf d))) != 0) (by rw[g1];rfl),ai 50 ((nk (iJ ((x.getD i il).hi) d)) != 0) (by rw[g2];rfl),.o 56 (.e (mr _):aj (.sl true 1 7 λi_ j_=>(iZ (Iv.mk (kY (iJ ((x.getD i il).lo) (jf d))) (kY (iJ ((x.getD i il).hi) d)) false)).getD (i_*7+j_) (.v (.bool false))) (iz [Iv.mk (kY (iJ ((x.getD i il).lo) (jf d))) (kY (iJ ((x.getD i il).hi) d)) false])),.a (aD:(i+[Iv.mk (kY (iJ ((x.getD i il).lo) (jf d))) (kY (iJ ((x.getD i il).hi) d)) false].length)*88<=140737488355328),iC ((i:Int)+1) aD]<|.e (af [.b 6 (xP rfl rfl rfl:Bx.le (.row true 33 (i+[Iv.mk (kY (iJ ((x.getD i il).lo) (jf d))) (kY (iJ ((x.getD i il).hi) d)) false].length) 7 (λi_ j_=>if i_<i then(jF ((List.range i).map (λj_=>qq (x.getD j_ il) d))) i_ j_ else(E.jH (iz [Iv.mk (kY (iJ ((x.getD i il).lo) (jf d))) (kY (iJ ((x.getD i il).hi) d)) false])) (i_-i) j_)) (.row true 33 (i+1) 7 (jF ((List.range (i+1)).map (λj_=>qq (x.getD j_ il) d)))))])) aG)
  (λhi=>by
    obtain⟨w1,w2⟩:=(hx N aD).1.kn;exact iM (af [tT 29 ((N:Int)<x.length) aD,iX (N:Int) (x.length) aD,ag [im ((x.getD N il).lo),im d] (DW _ _ aE aE),.c (DU ((x.getD N il).hi) d aE aE),ah 47 ((nk (iJ ((x.getD N il).lo) (jf d))) != 0) (by simpa using hN)]) aG) aK:jO 5 Tryz.f98 (QB x d N 0) .ret ⟨60,true,[(5,.e (iP 9)),(4,.e (.v (.slice none 0 0)))],[]⟩) .nil]) 
def aa7(x:List Iv)(d:Dy)(x1:1<=x.length)(x8:x.length<=8)(hx:pX x)(hd:d.iu)(h0:¬d.jh<0)(N:Nat)(oN:N<x.length)(jk:∀ i,i<N->vj (x.getD i il) d=true)(hM:nk (iJ (x.getD N il).lo (jf d))=0)(hN:nk (iJ (x.getD N il).hi d)≠0):ig 98 [iz x,im d] (.iB [.v (.slice none 0 0),iP 9]):=
 ak call98 func98 (af [.c (AX x aD aD aE),ag [im d] (rz _ aE),ag [im d] (rW _ aE),tB 24 (bt h0),.y 6 6 true 33 7 (jF ((List.range 0).map (λj_=>qq (x.getD j_ il) d))),.s (Sp.jP (QC x d N) 0 N aD (λi hi qH=>by
    obtain⟨w1,w2⟩:=(hx i aD).1.kn;obtain⟨g1,g2⟩:=LQ (jk i aD);have qJ:=oC (Iv.mk (kY (iJ (x.getD i il).lo (jf d))) (kY (iJ (x.getD i il).hi d)) false);exact iM (ae [tT 29 ((i:Int)<x.length) aD,iX (i:Int) (x.length) aD,ag [im ((x.getD i il).lo),im d] (DW _ _ aE aE),.c (DU ((x.getD i il).hi) d aE aE),ai 47 ((nk (iJ ((x.getD i il).lo) (jf d))) != 0) (by rw[g1];rfl),ai 50 ((nk (iJ ((x.getD i il).hi) d)) != 0) (by rw[g2];rfl),.o 56 (.e (mr _):aj (.sl true 1 7 λi_ j_=>(iZ (Iv.mk (kY (iJ ((x.getD i il).lo) (jf d))) (kY (iJ ((x.getD i il).hi) d)) false)).getD (i_*7+j_) (.v (.bool false))) (iz [Iv.mk (kY (iJ ((x.getD i il).lo) (jf d))) (kY (iJ ((x.getD i il).hi) d)) false])),.a (aD:(i+[Iv.mk (kY (iJ ((x.getD i il).lo) (jf d))) (kY (iJ ((x.getD i il).hi) d)) false].length)*88<=140737488355328),iC ((i:Int)+1) aD]<|.e (af [.b 6 (xP rfl rfl rfl:Bx.le (.row true 33 (i+[Iv.mk (kY (iJ ((x.getD i il).lo) (jf d))) (kY (iJ ((x.getD i il).hi) d)) false].length) 7 (λi_ j_=>if i_<i then(jF ((List.range i).map (λj_=>qq (x.getD j_ il) d))) i_ j_ else(E.jH (iz [Iv.mk (kY (iJ ((x.getD i il).lo) (jf d))) (kY (iJ ((x.getD i il).hi) d)) false])) (i_-i) j_)) (.row true 33 (i+1) 7 (jF ((List.range (i+1)).map (λj_=>qq (x.getD j_ il) d)))))])) aG)
  (λhi=>by
    obtain⟨w1,w2⟩:=(hx N aD).1.kn;exact iM (af [tT 29 ((N:Int)<x.length) aD,iX (N:Int) (x.length) aD,ag [im ((x.getD N il).lo),im d] (DW _ _ aE aE),.c (DU ((x.getD N il).hi) d aE aE),ai 47 ((nk (iJ ((x.getD N il).lo) (jf d))) != 0) (by rw[hM];rfl),ah 50 ((nk (iJ ((x.getD N il).hi) d)) != 0) (by simpa using hN)]) aG) aK:jO 5 Tryz.f98 (QC x d N 0) .ret ⟨60,true,[(5,.e (iP 9)),(4,.e (.v (.slice none 0 0)))],[]⟩) .nil]) 
def zR(x:List Iv)(d:Dy):Int:=if qU x d then 0 else 9
def Q3(x:List Iv)(d:Dy)(x1:1<=x.length)(x8:x.length<=8)(hx:pX x)(hd:d.iu)(h0:¬d.jh<0):ig 98 [iz x,im d] (.iB [iz (rB x d),iP (zR x d)]):=by
 unfold rB zR;cases hg:qU x d with
 |true=>
  rw[bn rfl,bn rfl];exact aa8 x d x1 x8 hx hd h0 λi hi=>ct.1 hg i (cz.2 hi)
 |false=>
  rw[bl aF,bl aF];obtain⟨i,hi,hb⟩:=anB.1 hg;obtain⟨N,h1,h2,h3⟩:=sY (p:=λi=>!(vj (x.getD i il) d)) ⟨i,cz.1 hi,by simpa using hb⟩;have jk:∀ i,i<N->vj (x.getD i il) d=true:=λi hi=>by simpa using h3 i hi
  have h2:vj (x.getD N il) d=false:=by simpa using h2
  have key:ig 98 [iz x,im d] (.iB [.v (.slice none 0 0),iP 9]):=by
   by_cases hM:nk (iJ (x.getD N il).lo (jf d))=0
   .exact aa7 x d x1 x8 hx hd h0 N h1 jk hM λq=>by
     unfold vj at h2;rw[hM,q]at h2;exact absurd h2 aF 
   .exact aa6 x d x1 x8 hx hd h0 N h1 jk hM
  exact key.kj (.iB (.cons (.nil _ _ _) (.cons (.refl _) .nil)))
def aa9(a b:List Iv)(a1:1<=a.length)(a8:a.length<=8)(hl:b.length=a.length)(ha:pX a)(hb:pX b):ig 101 [iz a,iz b] (iz (mV a b)):=
 ak call101 func101 (ae [.c (Q6 a b aD aD aD aE aE),.y 5 5 true 33 7 (jF ((List.range 0).map (λj_=>qe (a.getD j_ il) (b.getD j_ il)))),.s (Sp.jP (QE a b) 0 a.length aD (λi hi qH=>by
    obtain⟨w1,w2⟩:=ha i aD;obtain⟨w3,w4⟩:=hb i aD;have qJ:=oC (qe (a.getD i il) (b.getD i il));exact iM (ae [tT 14 ((i:Int)<a.length) aD,iX (i:Int) (a.length) aD,iX (i:Int) (b.length) aD,.c (aax (a.getD i il) (b.getD i il) aE aE aE aE),.o 26 (.e (mr _):aj (.sl true 1 7 λi_ j_=>(iZ (qe (a.getD i il) (b.getD i il))).getD (i_*7+j_) (.v (.bool false))) (iz [qe (a.getD i il) (b.getD i il)])),.a (aD:(i+[qe (a.getD i il) (b.getD i il)].length)*88<=140737488355328),iC ((i:Int)+1) aD]<|.e (af [.b 5 (xP rfl rfl rfl:Bx.le (.row true 33 (i+[qe (a.getD i il) (b.getD i il)].length) 7 (λi_ j_=>if i_<i then(jF ((List.range i).map (λj_=>qe (a.getD j_ il) (b.getD j_ il)))) i_ j_ else(E.jH (iz [qe (a.getD i il) (b.getD i il)])) (i_-i) j_)) (.row true 33 (i+1) 7 (jF ((List.range (i+1)).map (λj_=>qe (a.getD j_ il) (b.getD j_ il))))))])) aG)
  (λhi=>by
    exact iM (ae [tF 14 ((a.length:Int)<a.length) aD,.z 5]<|.e (af [.o 5 (.e (wV aJ):aj (.sl true a.length 7 (jF ((List.range a.length).map (λj_=>qe (a.getD j_ il) (b.getD j_ il))))) (iz ((List.range a.length).map (λj_=>qe (a.getD j_ il) (b.getD j_ il)))))])) aG) aK:jO 5 f101 (QE a b 0) (.exit 0) ⟨30,true,[(5,.e (iz ((List.range a.length).map (λj_=>qe (a.getD j_ il) (b.getD j_ il)))))],[]⟩) .nil]<|rR (iz (mV a b)) (.refl _:E.le (iz ((List.range a.length).map (λj_=>qe (a.getD j_ il) (b.getD j_ il)))) (iz (mV a b)))) 
def Q5(p:Int):ig 178 [iP p] (bP (kT p)):=
 ak call178 func178 (.w (8<=p)
  (λk1=>ae [tB 4 (bq k1)]<|rQ (bP (decide (p<=512))) (bP (kT p)) (by unfold kT;simp[k1]))
  (λk1=>ae [tB 4 (bt k1)]<|rQ (bP false) (bP (kT p)) (by unfold kT;simp[k1]))) 
def Q8:sP aq (jc iQ):=.cons (.refl _) (.cons y7 (.cons (.refl _) .nil))
def Ks(x:List Iv)(p k:Nat):nB x p (k+1)=if 0<jA (rL (x.getD k il) p) (nB x p k)then rL (x.getD k il) p else nB x p k:=rfl
def PM(x:Iv){p:Nat}(hp:1<=p)(iq:p<=4096):(rL x p).iu:=O6 _ hp iq _
def Kt(x:List Iv){p:Nat}(hp:1<=p)(iq:p<=4096):∀ k,(nB x p k).iu
 | 0=>qn
 |k+1=>by
  unfold nB;split
  .exact PM _ hp iq
  .exact Kt x hp iq k
def abd(x:List Iv)(p:Nat)(x1:1<=x.length)(x8:x.length<=8)(hx:pX x)(iD:8<=p)(iq:p<=512)(jk:∀ i,i<x.length->Cb (x.getD i il) p=0):ig 102 [iz x,iP p] (.iB [im (nB x p x.length),bP true]):=
 ak call102 func102 (af [.c (AX x aD aD aE),.c (Q5 (p:Int)),ah 16 (kT (p:Int)) (oM.2 ⟨aD,aD⟩),.s (Sp.jP (QP x p) 0 x.length aD (λi hi qH=>by
    obtain⟨w1,w2⟩:=hx i aD;have MO:=jk i aD;have w3:=PM (x.getD i il) (aD:1<=p) (aD:p<=4096);have w4:=Kt x (aD:1<=p) (aD:p<=4096) i;exact iM (ae [tT 23 ((i:Int)<x.length) aD,iX (i:Int) (x.length) aD,.c (KJ (x.getD i il) p aE aE aD aD),tB 31 (bq MO),ag [im (rL (x.getD i il) p),im (nB x p i)] (nK _ _ aE aE)]<|.w (0<jA (rL (x.getD i il) p) (nB x p i))
     (λhc=>by
      have Bp:nB x p (i+1)=rL (x.getD i il) p:=by rw[Ks,bn hc]
      exact ae [tB 38 (bq hc),iC ((i:Int)+1) aD]<|.e (af [.b 6 (.jb (by rw[Bp]):Bx.le (.cells 28 (jc (rL (x.getD i il) p))) (.cells 28 (jc (nB x p (i+1)))))]))
     (λhc=>by
      have Bp:nB x p (i+1)=nB x p i:=by rw[Ks,bl hc]
      exact ae [tB 38 (bt hc),iC ((i:Int)+1) aD]<|.e (af [.b 6 (.jb (by rw[Bp]):Bx.le (.cells 28 (jc (nB x p i))) (.cells 28 (jc (nB x p (i+1)))))]))) aG)
  (λhi=>by
    exact iM (af [tF 23 ((x.length:Int)<x.length) aD]) aG) aK:jO 5 f102 (QP x p 0) (.exit 0) ⟨42,true,[(6,.box 6 0),(4,.box 4 0)],[(6,.cells 28 (jc (nB x p x.length))),(4,.cells 28 aq)]⟩) (af [.b 6 (.cells (λ_=>rfl) Q8:Bx.le (.cells 28 aq) (.cells 28 (jc (nB x p 0))))])]) 
def abb(x:List Iv)(p:Nat)(x1:1<=x.length)(x8:x.length<=8)(hx:pX x)(iD:8<=p)(iq:p<=512)(N:Nat)(oN:N<x.length)(jk:∀ i,i<N->Cb (x.getD i il) p=0)(hN:Cb (x.getD N il) p≠0):ig 102 [iz x,iP p] (.iB [im iQ,bP false]):=
 ak call102 func102 (af [.c (AX x aD aD aE),.c (Q5 (p:Int)),ah 16 (kT (p:Int)) (oM.2 ⟨aD,aD⟩),.s (Sp.jP (QO x p N) 0 N aD (λi hi qH=>by
    obtain⟨w1,w2⟩:=hx i aD;have MO:=jk i aD;have w3:=PM (x.getD i il) (aD:1<=p) (aD:p<=4096);have w4:=Kt x (aD:1<=p) (aD:p<=4096) i;exact iM (ae [tT 23 ((i:Int)<x.length) aD,iX (i:Int) (x.length) aD,.c (KJ (x.getD i il) p aE aE aD aD),tB 31 (bq MO),ag [im (rL (x.getD i il) p),im (nB x p i)] (nK _ _ aE aE)]<|.w (0<jA (rL (x.getD i il) p) (nB x p i))
     (λhc=>by
      have Bp:nB x p (i+1)=rL (x.getD i il) p:=by rw[Ks,bn hc]
      exact ae [tB 38 (bq hc),iC ((i:Int)+1) aD]<|.e (af [.b 6 (.jb (by rw[Bp]):Bx.le (.cells 28 (jc (rL (x.getD i il) p))) (.cells 28 (jc (nB x p (i+1)))))]))
     (λhc=>by
      have Bp:nB x p (i+1)=nB x p i:=by rw[Ks,bl hc]
      exact ae [tB 38 (bt hc),iC ((i:Int)+1) aD]<|.e (af [.b 6 (.jb (by rw[Bp]):Bx.le (.cells 28 (jc (nB x p i))) (.cells 28 (jc (nB x p (i+1)))))]))) aG)
  (λhi=>by
    obtain⟨w1,w2⟩:=hx N aD;exact iM (af [tT 23 ((N:Int)<x.length) aD,iX (N:Int) (x.length) aD,.c (KJ (x.getD N il) p aE aE aD aD),tB 31 (bt hN),.o 34 (.e tc:aj (.agg aq) (im iQ))]) aG) aK:jO 5 f102 (QO x p N 0) .ret ⟨42,true,[(5,.e (bP false)),(4,.box 4 0)],[(4,.cells 28 (jc iQ))]⟩) (af [.b 6 (.cells (λ_=>rfl) Q8:Bx.le (.cells 28 aq) (.cells 28 (jc (nB x p 0))))])]) 
def aml(x:List Iv){p:Nat}(hp:1<=p)(iq:p<=4096):(rM x p).iu:=by
 unfold rM;split
 .exact Kt x hp iq _
 .exact qn
def abc(x:List Iv)(p:Nat)(x1:1<=x.length)(x8:x.length<=8)(hx:pX x)(iD:8<=p)(iq:p<=512):ig 102 [iz x,iP (p:Int)] (.iB [im (rM x p),bP (Gm x p)]):=by
 unfold rM;cases hw:Gm x p with
 |true=>
  rw[bn rfl];exact abd x p x1 x8 hx iD iq λi hi=>dK (ct.1 hw i (cz.2 hi))
 |false=>
  rw[bl aF];obtain⟨i,hi,hb⟩:=anB.1 hw;obtain⟨N,h1,h2,h3⟩:=sY (p:=λi=>!(decide (Cb (x.getD i il) p=0))) ⟨i,cz.1 hi,by simpa using hb⟩;exact abb x p x1 x8 hx iD iq N h1 (λi hi=>by simpa using h3 i hi) (by simpa using h2)
end Go.Proofs.YtbhhompalmdaiaaGreatDoor
namespace Go.Proofs.YtbhhompalmdaiaaGreatDoor.Pu
open Go.RowKit
def Ya{bs br:Nat->Prop}{w:World}{xs:List Value}{a:Value}(h:iR bs br w (.agg (xs.map E.v)) a):a = .agg xs.toArray:=by
 generalize he:E.agg (xs.map E.v)=e at h;cases h with
 |agg l vs hl k=>
  cases he;rw[dI]at hl;have:vs=xs:=am8 λi=>by
   cases hx:xs[i]? with
   |none=>rw[List.getElem?_eq_none_iff]at hx ⊢;omega
   |some x=>
    obtain⟨v,hv⟩:∃ v,vs[i]? = some v:=by
     have hi:i<xs.length:=(cC.1 hx).1;exact⟨vs[i]'(aD),bD aD⟩
    rw[hv,iR.kN (k i (.v x) v (by rw[cY,hx];rfl) hv)]
  rw[this]
 |_=>cases he
def Og{P:Program}{t:TypeId}{m D D':Nat}(hm:m<=10000)(hk:P.keyTypeAt m t=true)(hg:P.eqGuardType P.depth t=false){xs ys:List Value}{la lb:List Lit}
 (hx:P.keyLits D t xs=some la) (hy:P.keyLits D' t ys=some lb) (fx:(Value.agg xs.toArray).formed P t=true) (fy:(Value.agg ys.toArray).formed P t=true) {c:Bool} (hc:c=true↔la=lb):
 pq P .eql t (.agg (xs.map E.v)) (.agg (ys.map E.v)) (.bool c):=by
 intro bs br w a b ox oy ha hb;obtain rfl:=Ya ha;obtain rfl:=Ya hb;constructor
 .simp only[eqGuard,fE,bZ,bF,Sem.run_bind,run_program,Result.andThen_ok,hg,eU,bN,Sem.run_pure]
 .obtain ⟨r,hr,afc⟩:=run_equalIn_deep (10000-m) m t hk w _ _ _ _ la lb fx fy (by simpa[Value.cells]using hx) (by simpa[Value.cells]using hy);rw[(aD:10000-m+m=10000)]at hr;have e:r=c:=by rw[fP,afc,hc]
  subst e;have:(Op.equal t (.agg xs.toArray) (.agg ys.toArray)).run P w = .ok r w:=hr;simp only[binOp,Sem.run_bind,this,Result.andThen_ok,Sem.run_pure]
end Go.Proofs.YtbhhompalmdaiaaGreatDoor.Pu
namespace Go.Proofs.YtbhhompalmdaiaaGreatDoor
open Go.RowKit Fp Pu
def W8{t:TypeId}{m:Nat}(hm:m<=10000)(hk:prog.keyTypeAt m t=true)(hg:prog.eqGuardType prog.depth t=false){xs:List Value}(hx:(prog.keyLits 10 t xs).isSome=true)
 (fx:(Value.agg xs.toArray).formed prog t=true):pq prog .eql t (.agg (xs.map E.v)) (.agg (xs.map E.v)) (.bool true):=by
 obtain⟨l,hl⟩:=gU.1 hx;exact Og hm hk hg hl hl fx fx aJ 
def Jq{a b c d e f:Int}(h:a=0/\b=0/\c=0/\d=0/\e=0/\f=0):
 pq prog .eql 161 (.agg [iP a,iP b,iP c,iP d,iP e,iP f]) (.agg [iP 0,iP 0,iP 0,iP 0,iP 0,iP 0]) (.bool true):=by
 obtain⟨rfl,rfl,rfl,rfl,rfl,rfl⟩:=h;exact W8 (m:=10) (xs:=[.int .i64 0,.int .i64 0,.int .i64 0,.int .i64 0,.int .i64 0,.int .i64 0]) aF aG aG aG aG 
def Of{a b:Int}(h:a=0/\b=0):pq prog .eql 23 (.agg [iP a,iP b]) (.agg [iP 0,iP 0]) (.bool true):=by
 obtain⟨rfl,rfl⟩:=h;exact W8 (m:=10) (xs:=[.int .i64 0,.int .i64 0]) aF aG aG aG aG 
def Vv{d:Nat}{n:Int}(h:nA .i64 n):prog.keyLits (d+1) 3 [.int .i64 n]=some [.int .i64 n]:=by
 have hw:(Lit.int .i64 n).wf=true:=by
  unfold nA at h;simp[Lit.wf,IntKind.min,IntKind.max,IntKind.signed,IntKind.bits];omega
 unfold Program.keyLits;rw[underlying3];simp[hw]
def XW{a b:Int}(ha:nA .i64 a)(hb:nA .i64 b):prog.keyLits 10 23 [.int .i64 a,.int .i64 b]=some [.int .i64 a,.int .i64 b]:=by
 have c1:prog.cellsOf 23=2:= aG ;have c2:prog.cellsOf 3=1:= aG ;unfold Program.keyLits;rw[underlying23];simp[c1,c2,gS,Vv ha,Vv hb]
def ahZ{a b:Int}{r:Bool}(ha:nA .i64 a)(hb:nA .i64 b)(h:decide (a=0/\b=0)=r):pq prog .eql 23 (.agg [iP a,iP b]) (.agg [iP 0,iP 0]) (.bool r):=
 Og (m:=10) (xs:=[.int .i64 a,.int .i64 b]) (ys:=[.int .i64 0,.int .i64 0]) aF aG aG (XW ha hb) (XW bc bc) aG aG (by subst h;simp)
def ah0{a b c d e f a' b' c' d' e' f':Int}{r:Bool}(hx:prog.keyLits 10 161 [.int .i64 a,.int .i64 b,.int .i64 c,.int .i64 d,.int .i64 e,.int .i64 f]=some [.int .i64 a,.int .i64 b,.int .i64 c,.int .i64 d,.int .i64 e,.int .i64 f])(hy:prog.keyLits 10 161 [.int .i64 a',.int .i64 b',.int .i64 c',.int .i64 d',.int .i64 e',.int .i64 f']=some [.int .i64 a',.int .i64 b',.int .i64 c',.int .i64 d',.int .i64 e',.int .i64 f'])
 (fx:(Value.agg (List.toArray [.int .i64 a,.int .i64 b,.int .i64 c,.int .i64 d,.int .i64 e,.int .i64 f])).formed prog 161=true) (fy:(Value.agg (List.toArray [.int .i64 a',.int .i64 b',.int .i64 c',.int .i64 d',.int .i64 e',.int .i64 f'])).formed prog 161=true) (h:decide (a=a'/\b=b'/\c=c'/\d=d'/\e=e'/\f=f')=r):
 pq prog .eql 161 (.agg [iP a,iP b,iP c,iP d,iP e,iP f]) (.agg [iP a',iP b',iP c',iP d',iP e',iP f']) (.bool r):=
 Og (m:=10) (xs:=[.int .i64 a,.int .i64 b,.int .i64 c,.int .i64 d,.int .i64 e,.int .i64 f]) (ys:=[.int .i64 a',.int .i64 b',.int .i64 c',.int .i64 d',.int .i64 e',.int .i64 f']) aF aG aG hx hy fx fy (by subst h;simp)
def Jr{a b:ByteArray}{r:Bool}(h:(a.toList==b.toList)=r):pq prog .eql 9 (.v (.string a)) (.v (.string b)) (.bool r):=by
 intro bs br w x y ox oy hx hy;obtain rfl:=iR.kN hx;obtain rfl:=iR.kN hy;subst h;refine⟨by simp[eqGuard],?_⟩;show(Op.stringOp .eql a b).run prog w=_;unfold Op.stringOp;simp only[Sem.run_pure]
def aku{P:Program}(w:World)(t tx ty e:TypeId)(i:TypeInfo)(z:Value)(ht:P.underlying t=some (.slice e))(hx:P.underlying tx=some (.int .i64))(hi:P.info? e=some i)(hz:i.zero=some z)
 (xG:i.size≠0) (n:Nat) (h0:0<n) (yE:n<=1000000) (TF:n*i.bytes<=281474976710656):
 (Builtin.append_ #[t,tx] ty #[.slice none 0 0,.int .i64 (n:Int)]).run P w =
  .ok (.slice (some ⟨w.heap.size,0,none⟩) n (grownCap w n 0 e)) (w.drew.alloc (.cells (Builtin.zeroCells z.cells n++Builtin.zeroCells z.cells (grownCap w n 0 e-n)) e)):=by
 have hn:n≠0:= aD ;have hns:n*i.size≠0:=fe hn xG;have aeO:¬(9223372036854775807<(n:Int)):= aD ;have aeM:¬(281474976710656<Builtin.nextslicecap n 0*i.bytes):=by rw[nextslicecap_zero h0];omega
 have hw:IntKind.i64.wrap (n:Int)=n:=i64_in _ aD aD;have EJ:¬((n:Int)<0):= aD ;have aeN:¬(281474976710656<(n:Int)*(i.bytes:Int)):=by
  have:(n:Int)*(i.bytes:Int)=((n*i.bytes:Nat):Int):= aJ ;rw[this];omega
 simp[Builtin.append_,run_underlying ht,run_underlying hx,sizeOf,typeInfo,zeroValue,hi,hz,asInt,asIntOf,hw,EJ,aeN,hn,hns,aeO,aeM,Question.forced,run_firstCells_none,newRow,grownCap]
def amo{P:Program}{w:World}{ik:Array Oper}{rest:List Oper}{o:Oper}{a:Act}{Q:Exit->Act->World->Prop}(Bk:o.guard=none)(s x:Operand)(t tx:TypeId)
 (ho:o.op = .call { callee:=.builtin .append,args:=#[s,x],argTypes:=#[t,tx] })
 (e:TypeId) (i:TypeInfo) (z:Value) (ht:P.underlying t=some (.slice e)) (hx:P.underlying tx=some (.int .i64)) (hi:P.info? e=some i) (hz:i.zero=some z)
 (xG:i.size≠0) (n:Nat) (h0:0<n) (yE:n<=1000000) (TF:n*i.bytes<=281474976710656) (hs:a.eval s = .slice none 0 0) (hxx:a.eval x = .int .i64 (n:Int))
 (h:wpList P ik Q rest (a.put o.dst (.slice (some ⟨w.heap.size,0,none⟩) n (grownCap w n 0 e))) (w.drew.alloc (.cells (Builtin.zeroCells z.cells n++Builtin.zeroCells z.cells (grownCap w n 0 e-n)) e))):wpList P ik Q (o::rest) a w:=by
 refine wpList_plain Bk λK hK=>?_
 have mg:=aku (P:=P) w t tx o.type e i z ht hx hi hz xG n h0 yE TF;unfold Oper.wp;simp[execOp,ho,resolve,invoke,builtin,hs,hxx,mg,Result.andThen];exact hK _ _ h
def Z9(w:World)(o:Obj):Below w.heap.size w (w.alloc o).drew:=⟨rfl,rfl,rfl,by rw[show(w.alloc o).drew.heap=w.heap.push o from rfl,dZ];omega,λx hx=>Below.heap_alloc w _ x hx⟩
def aaa(w:World)(o:Obj):w.heap.size<(w.alloc o).drew.heap.size:=by rw[show(w.alloc o).drew.heap=w.heap.push o from rfl,dZ];omega
def afH:(prog.info? 33).map (λi=>(i.zero,i.size,i.bytes))=some (some (.agg #[.bool false,.slice none 0 0,.int .i64 0,.bool false,.slice none 0 0,.int .i64 0,.bool false]),7,88):= aG 
def ZK(n:Nat):∀ u,u ∈ Builtin.zeroCells (Value.cells (.agg #[.bool false,.slice none 0 0,.int .i64 0,.bool false,.slice none 0 0,.int .i64 0,.bool false])) n->tG u=false:=by
 intro u hu;simp only[Builtin.zeroCells,gl,gn]at hu;obtain⟨q,hq,rfl⟩:=hu;have hc:Value.cells (.agg #[.bool false,.slice none 0 0,.int .i64 0,.bool false,.slice none 0 0,.int .i64 0,.bool false]) = #[.bool false,.slice none 0 0,.int .i64 0,.bool false,.slice none 0 0,.int .i64 0,.bool false]:=rfl;rw[hc]at hq ⊢;have hs:(#[Value.bool false,.slice none 0 0,.int .i64 0,.bool false,.slice none 0 0,.int .i64 0,.bool false]:Array Value).size=7:=rfl;rw[hs];have h7:q%7<7:=bC _ aF;generalize q%7=k at h7;rcases k with _|_|_|_|_|_|_|k
 all_goals first|rfl|omega
set_option maxRecDepth 100000 in
def aeH(n:Nat)(hn:n<=1000000):uO prog Tb 242 [.v (.slice none 0 0),iP (n:Int)] true 33 0 7 (jF []):=by
 refine⟨call242,λw B vs hK hB hr=>?_⟩;obtain⟨v1,vs,rfl,h1,hr⟩:=hr.my;obtain⟨v2,vs,rfl,h2,hr⟩:=hr.my;obtain rfl:=hr.pH;obtain rfl:=iR.kN h1;obtain rfl:=iR.kN h2;show Calls _ _ #[.slice none 0 0,.int .i64 (n:Int)] w _;clear h1 h2 hr hB hK;by_cases h0:n=0
 .subst h0;go_enter func242,ntmps242;go_wp2;go_ret;exact⟨_,rfl,Below.refl _ _,λ_ _=>undef,.inl ⟨rfl,rfl⟩,λx hx=>by simp[Value.ownBlock]at hx,λi j hi=>absurd hi (bO _)⟩
 .obtain ⟨i,hi,hz,h1,h2⟩:=info_parts afH;have hw:IntKind.i64.wrap ((n:Int)-0)=n:=i64_in _ aD aD;have EX:IntKind.i64.wrap (n:Int)=n:=i64_in _ aD aD;have e2:decide ((n:Int)<0)=false:=bt aD;have e3:decide ((0:Int)<n)=true:=bq aD;have CF:n<=grownCap w n 0 33:=grownCap_ge w n 0 _;go_enter func242,ntmps242;go_wp2_with (at_builtin;go_must (refine amo aI _ _ _ _ aI _ i _ underlying35 underlying3 hi hz aD n aD aD (by rw[h2];omega) aI aI ?_))
  go_ret;have hz7:(#[Value.bool false,.slice none 0 0,.int .i64 0,.bool false,.slice none 0 0,.int .i64 0,.bool false]:Array Value).size=7:=rfl;refine⟨_,rfl,Z9 w _,λ_ _=>undef,.inr ⟨w.heap.size,grownCap w n 0 33,_,rfl,heap_alloc_new w _,ch _,grownCap_le_maxLen w n 0 _ (by unfold maxLen;omega),?_,λi j hi=>absurd hi (bO _),λ_ u hu=>?_⟩,λx hx=>?_,λi j hi=>absurd hi (bO _)⟩
  .simp only[am9,size_zeroCells,hz7,<-b8];congr 1;omega
  .rcases fG.1 hu with hu|hu
   .exact ZK _ u hu
   .exact ZK _ u hu
  .simp [Value.ownBlock]at hx;subst hx;exact⟨bp _,aaa w _⟩
abbrev DN(f:FuncId)(args:List E)(nl:Bool)(T:TypeId)(n sz:Nat)(el:Nat->Nat->E):Prop:=uO prog Tb f args nl T n sz el
def trn{f:FuncId}{fn:Func}{args:List E}{nl:Bool}{T0:TypeId}{n sz:Nat}{el:Nat->Nat->E}(wI:∀ (vs:Array Value) (w:World),(callFunc f vs).run prog w = .ok (.enter f vs) w)
 (hf:prog.funcs[f]? = some fn) (t:Tr prog Tb) (h:OT TT fn args (.row nl T0 n sz el) t=t.ex λ_=>.a (Bx.le (.row nl T0 n sz el) (.row nl T0 n sz el)) .nil):DN f args nl T0 n sz el:=
 uO.PA AU mixed Qd wI hf t h
def Zk(t:mB)(x:Nat):PS:=⟨46,true,[(28,.e (iP x)),(27,.e (iP t.ik.length)),(26,.e (mw t.ik)),(1,.box 1 0)],[(1,.cells 39 [iP t.iW,mw t.ik,mu t.iL])]⟩
def Zd(s:kG)(x:Nat):PS:=⟨85,true,[(31,.e (iP x)),(30,.e (iP s.tape.ik.length)),(29,.e (mw s.tape.ik)),(3,.box 3 0),(1,.box 1 0)],[(3,.cells 39 [iP s.tape.iW,mw s.tape.ik,mu s.tape.iL]),(1,.cells 41 [iP s.tape.iW,mw s.tape.ik,mu s.tape.iL,iP s.jo,iz s.params])]⟩
noncomputable def Zi(t:mB)(xs:List Iv)(p:Nat)(x:Nat):PS:=⟨75,true,[(26,.e (iP x)),(25,.e (iP t.ik.length)),(24,.e (mw t.ik)),(7,.own 22),(2,.e (iP p))],[(22,.row true 33 ((iS t.ik xs p x).length) 7 (jF (iS t.ik xs p x)))]⟩
def Ol(k:Nat)(h1:3<=k)(h2:k<=6):ig 281 [iP k] (iP 2):=
 ak call281 func281 (ae [ai 5 ((k:Int)==1) (bd aD)]<|.w ((k:Int)=3)
  (λk1=>af [tB 7 (bg k1)])
  (λk1=>ae [tB 7 (bd k1)]<|.w ((k:Int)=4)
   (λk2=>af [tB 8 (bg k2)])
   (λk2=>ae [tB 8 (bd k2)]<|.w ((k:Int)=5)
    (λk3=>af [tB 9 (bg k3)])
    (λk3=>ae [tB 9 (bd k3)]<|.w ((k:Int)=6)
     (λk4=>af [tB 10 (bg k4)])
     (λk4=>.x aD))))) 
def Jt(k:Nat)(h1:7<=k)(h2:k<=13):ig 281 [iP k] (iP 1):=
 ak call281 func281 (ae [ai 5 ((k:Int)==1) (bd aD),ai 7 ((k:Int)==3) (bd aD),ai 8 ((k:Int)==4) (bd aD),ai 9 ((k:Int)==5) (bd aD),ai 10 ((k:Int)==6) (bd aD)]<|.w ((k:Int)=7)
  (λk1=>af [tB 12 (bg k1)])
  (λk1=>ae [tB 12 (bd k1)]<|.w ((k:Int)=8)
   (λk2=>af [tB 13 (bg k2)])
   (λk2=>ae [tB 13 (bd k2)]<|.w ((k:Int)=9)
    (λk3=>af [tB 14 (bg k3)])
    (λk3=>ae [tB 14 (bd k3)]<|.w ((k:Int)=10)
     (λk4=>af [tB 15 (bg k4)])
     (λk4=>ae [tB 15 (bd k4)]<|.w ((k:Int)=11)
      (λk5=>af [tB 16 (bg k5)])
      (λk5=>ae [tB 16 (bd k5)]<|.w ((k:Int)=12)
       (λk6=>af [tB 17 (bg k6)])
       (λk6=>ae [tB 17 (bd k6)]<|.w ((k:Int)=13)
        (λk7=>af [tB 18 (bg k7)])
        (λk7=>.x aD)))))))) 
def Oj(k:Nat)(h1:k=1):ig 281 [iP k] (iP 0):=
 ak call281 func281 (af [ah 5 ((k:Int)==1) (bg aD)]) 
def ah1{a b:Int}(h:jN a b=true):pq prog .eql 23 (.agg [iP a,iP b]) (.agg [iP 0,iP 0]) (.bool false):=by
 obtain⟨h1,h2,h3,h4⟩:=pn h;exact ahZ bc bc (bt aD)
def pK.GJ{o:lO}{m:Nat}(h:pK o m)(lW:o.kind≠1)(hk:o.kind<=6):3<=o.kind/\o.a<m/\o.b<m/\o.n=0/\o.cn=0/\o.cd=0:=by
 have h3:=h.k3.resolve_left lW;have ha:=h.a;have hb:=h.b;have hn:=h.n;have hc:=h.c;rw[bl lW]at ha hc;rw[bn ⟨h3,hk⟩]at hb;rw[bl aD]at hn;exact⟨h3,ha,hb,hn,hc.1,hc.2⟩
def pK.pow{o:lO}{m:Nat}(h:pK o m)(hk:o.kind=8):o.a<m/\o.b=0/\o.n<=16/\o.cn=0/\o.cd=0:=by
 have ha:=h.a;have hb:=h.b;have hn:=h.n;have hc:=h.c;rw[bl aD]at ha hb hc;rw[bn hk]at hn;exact⟨ha,hb,hn,hc.1,hc.2⟩
def pK.un{o:lO}{m:Nat}(h:pK o m)(hk:¬o.kind<=6)(wL:o.kind≠8):o.kind<=13/\o.a<m/\o.b=0/\o.n=0/\o.cn=0/\o.cd=0:=by
 have ha:=h.a;have hb:=h.b;have hn:=h.n;have hc:=h.c;rw[bl aD]at ha hb hc;rw[bl wL]at hn;exact⟨h.Fe,ha,hb,hn,hc.1,hc.2⟩
def pK.num{o:lO}{m:Nat}(h:pK o m)(hk:o.kind=1):o.a=0/\o.b=0/\o.n=0/\jN o.cn o.cd=true:=by
 have ha:=h.a;have hb:=h.b;have hn:=h.n;have hc:=h.c;rw[bn hk]at ha hc;rw[bl aD]at hb hn;exact⟨ha,hb,hn,hc⟩
def pK.Gz{o:lO}{m:Nat}(h:pK o m)(hk:o.kind≠1):o.a<m:=by
 have ha:=h.a;rwa[bl hk]at ha
def aim(o:lO)(m:Nat)(h:pK o m)(hk:o.kind=1):ig 299 [vT o,iP m] (bP true):=by
 obtain⟨h2,h3,h4,Ad⟩:=h.num hk;exact ak call299 func299 (af [.c (Oj o.kind aD),ai 14 (decide ((0:Int)<0)) aF,ah 17 ((0:Int)==0) aF,.c (OM o.cn o.cd),ah 20 (jN o.cn o.cd) Ad,ai 26 ((o.kind:Int)==8) (bd aD),ai 37 (decide ((0:Int)<0)) aF,ai 49 (decide ((1:Int)<0)) aF,.g (Jq ⟨aD,aD,aD,aD,aD,aD⟩:pq prog .eql 161 (.agg [iP 0,iP o.a,iP o.b,iP o.n,iP 0,iP 0]) (.agg [iP 0,iP 0,iP 0,iP 0,iP 0,iP 0]) (.bool true))]) 
def ail(o:lO)(m:Nat)(h:pK o m)(lW:o.kind≠1)(hk:o.kind<=6):ig 299 [vT o,iP m] (bP true):=by
 obtain⟨h1,h2,h3,h4,h5,h6⟩:=h.GJ lW hk;exact ak call299 func299 (af [.c (Ol o.kind aD aD),ai 14 (decide ((2:Int)<0)) aF,ai 17 ((2:Int)==0) aF,ai 26 ((o.kind:Int)==8) (bd aD),ah 37 (decide ((0:Int)<2)) aF,tF 40 ((o.a:Int)<0) aD,tF 45 ((m:Int)<=o.a) aD,ah 49 (decide ((1:Int)<2)) aF,tF 52 ((o.b:Int)<0) aD,tF 57 ((m:Int)<=o.b) aD,.g (Jq ⟨aD,aD,aD,aD,aD,aD⟩:pq prog .eql 161 (.agg [iP 0,iP 0,iP 0,iP o.n,iP o.cn,iP o.cd]) (.agg [iP 0,iP 0,iP 0,iP 0,iP 0,iP 0]) (.bool true))]) 
def aio(o:lO)(m:Nat)(h:pK o m)(hk:o.kind=8):ig 299 [vT o,iP m] (bP true):=by
 obtain⟨h2,h3,h4,h5,h6⟩:=h.pow hk;exact ak call299 func299 (af [.c (Jt o.kind aD aD),ai 14 (decide ((1:Int)<0)) aF,ai 17 ((1:Int)==0) aF,ah 26 ((o.kind:Int)==8) (bg aD),tF 29 ((o.n:Int)<0) aD,tF 33 (16<(o.n:Int)) aD,ah 37 (decide ((0:Int)<1)) aF,tF 40 ((o.a:Int)<0) aD,tF 45 ((m:Int)<=o.a) aD,ai 49 (decide ((1:Int)<1)) aF,.g (Jq ⟨aD,aD,aD,aD,aD,aD⟩:pq prog .eql 161 (.agg [iP 0,iP 0,iP o.b,iP 0,iP o.cn,iP o.cd]) (.agg [iP 0,iP 0,iP 0,iP 0,iP 0,iP 0]) (.bool true))]) 
def aip(o:lO)(m:Nat)(h:pK o m)(hk:¬o.kind<=6)(wL:o.kind≠8):ig 299 [vT o,iP m] (bP true):=by
 obtain⟨h1,h2,h3,h4,h5,h6⟩:=h.un hk wL;exact ak call299 func299 (af [.c (Jt o.kind aD aD),ai 14 (decide ((1:Int)<0)) aF,ai 17 ((1:Int)==0) aF,ai 26 ((o.kind:Int)==8) (bd aD),ah 37 (decide ((0:Int)<1)) aF,tF 40 ((o.a:Int)<0) aD,tF 45 ((m:Int)<=o.a) aD,ai 49 (decide ((1:Int)<1)) aF,.g (Jq ⟨aD,aD,aD,aD,aD,aD⟩:pq prog .eql 161 (.agg [iP 0,iP 0,iP o.b,iP o.n,iP o.cn,iP o.cd]) (.agg [iP 0,iP 0,iP 0,iP 0,iP 0,iP 0]) (.bool true))]) 
def alp(o:lO)(m:Nat)(h:pK o m)(hk:o.kind=1):ig 163 [vT o,iP m] (bP true):=by
 obtain⟨h2,h3,h4,Ad⟩:=h.num hk;exact ak call163 func163 (af [tF 8 ((o.a:Int)<0) aD,tF 12 ((o.b:Int)<0) aD,.g (ah1 Ad:pq prog .eql 23 (.agg [iP o.cn,iP o.cd]) (.agg [iP 0,iP 0]) (.bool false)),ah 21 ((o.kind:Int)==1) (bg aD),.c (OM o.cn o.cd),ah 24 (jN o.cn o.cd) Ad,ah 28 ((o.a:Int)==0) (bg aD),ah 33 ((o.b:Int)==0) (bg aD),ah 38 ((o.n:Int)==0) (bg aD)]) 
def alo(o:lO)(m:Nat)(h:pK o m)(lW:o.kind≠1)(hk:o.kind<=6):ig 163 [vT o,iP m] (bP true):=by
 obtain⟨h1,h2,h3,h4,h5,h6⟩:=h.GJ lW hk;exact ak call163 func163 (ae [tF 8 ((o.a:Int)<0) aD,tF 12 ((o.b:Int)<0) aD,.g (Of ⟨aD,aD⟩:pq prog .eql 23 (.agg [iP o.cn,iP o.cd]) (.agg [iP 0,iP 0]) (.bool true)),ai 21 ((o.kind:Int)==1) (bd aD)]<|.w ((o.kind:Int)=3)
  (λk1=>af [tB 41 (bg k1),tT 50 ((o.a:Int)<m) aD,tT 56 ((o.b:Int)<m) aD,ah 61 ((o.n:Int)==0) (bg aD)])
  (λk1=>ae [tB 41 (bd k1)]<|.w ((o.kind:Int)=4)
   (λk2=>af [tB 42 (bg k2),tT 50 ((o.a:Int)<m) aD,tT 56 ((o.b:Int)<m) aD,ah 61 ((o.n:Int)==0) (bg aD)])
   (λk2=>ae [tB 42 (bd k2)]<|.w ((o.kind:Int)=5)
    (λk3=>af [tB 43 (bg k3),tT 50 ((o.a:Int)<m) aD,tT 56 ((o.b:Int)<m) aD,ah 61 ((o.n:Int)==0) (bg aD)])
    (λk3=>ae [tB 43 (bd k3)]<|.w ((o.kind:Int)=6)
     (λk4=>af [tB 44 (bg k4),tT 50 ((o.a:Int)<m) aD,tT 56 ((o.b:Int)<m) aD,ah 61 ((o.n:Int)==0) (bg aD)])
     (λk4=>.x aD))))) 
def alr(o:lO)(m:Nat)(h:pK o m)(hk:o.kind=8):ig 163 [vT o,iP m] (bP true):=by
 obtain⟨h2,h3,h4,h5,h6⟩:=h.pow hk;exact ak call163 func163 (af [tF 8 ((o.a:Int)<0) aD,tF 12 ((o.b:Int)<0) aD,.g (Of ⟨aD,aD⟩:pq prog .eql 23 (.agg [iP o.cn,iP o.cd]) (.agg [iP 0,iP 0]) (.bool true)),ai 21 ((o.kind:Int)==1) (bd aD),ai 41 ((o.kind:Int)==3) (bd aD),ai 42 ((o.kind:Int)==4) (bd aD),ai 43 ((o.kind:Int)==5) (bd aD),ai 44 ((o.kind:Int)==6) (bd aD),ah 64 ((o.kind:Int)==8) (bg aD),tT 70 ((o.a:Int)<m) aD,ah 75 ((o.b:Int)==0) (bg aD),tT 80 (0<=(o.n:Int)) aD,tT 85 ((o.n:Int)<=16) aD]) 
def als(o:lO)(m:Nat)(h:pK o m)(hk:¬o.kind<=6)(wL:o.kind≠8):ig 163 [vT o,iP m] (bP true):=by
 obtain⟨h1,h2,h3,h4,h5,h6⟩:=h.un hk wL;exact ak call163 func163 (ae [tF 8 ((o.a:Int)<0) aD,tF 12 ((o.b:Int)<0) aD,.g (Of ⟨aD,aD⟩:pq prog .eql 23 (.agg [iP o.cn,iP o.cd]) (.agg [iP 0,iP 0]) (.bool true)),ai 21 ((o.kind:Int)==1) (bd aD),ai 41 ((o.kind:Int)==3) (bd aD),ai 42 ((o.kind:Int)==4) (bd aD),ai 43 ((o.kind:Int)==5) (bd aD),ai 44 ((o.kind:Int)==6) (bd aD),ai 64 ((o.kind:Int)==8) (bd aD)]<|.w ((o.kind:Int)=7)
  (λk1=>af [tB 88 (bg k1),tT 99 ((o.a:Int)<m) aD,ah 104 ((o.b:Int)==0) (bg aD),ah 109 ((o.n:Int)==0) (bg aD)])
  (λk1=>ae [tB 88 (bd k1)]<|.w ((o.kind:Int)=9)
   (λk2=>af [tB 89 (bg k2),tT 99 ((o.a:Int)<m) aD,ah 104 ((o.b:Int)==0) (bg aD),ah 109 ((o.n:Int)==0) (bg aD)])
   (λk2=>ae [tB 89 (bd k2)]<|.w ((o.kind:Int)=10)
    (λk3=>af [tB 90 (bg k3),tT 99 ((o.a:Int)<m) aD,ah 104 ((o.b:Int)==0) (bg aD),ah 109 ((o.n:Int)==0) (bg aD)])
    (λk3=>ae [tB 90 (bd k3)]<|.w ((o.kind:Int)=11)
     (λk4=>af [tB 91 (bg k4),tT 99 ((o.a:Int)<m) aD,ah 104 ((o.b:Int)==0) (bg aD),ah 109 ((o.n:Int)==0) (bg aD)])
     (λk4=>ae [tB 91 (bd k4)]<|.w ((o.kind:Int)=12)
      (λk5=>af [tB 92 (bg k5),tT 99 ((o.a:Int)<m) aD,ah 104 ((o.b:Int)==0) (bg aD),ah 109 ((o.n:Int)==0) (bg aD)])
      (λk5=>ae [tB 92 (bd k5)]<|.w ((o.kind:Int)=13)
       (λk6=>af [tB 93 (bg k6),tT 99 ((o.a:Int)<m) aD,ah 104 ((o.b:Int)==0) (bg aD),ah 109 ((o.n:Int)==0) (bg aD)])
       (λk6=>.x aD))))))) 
def ain(o:lO)(m:Nat)(h:pK o m):ig 299 [vT o,iP (m:Int)] (bP true):=by
 by_cases lW:o.kind=1
 .exact aim o m h lW
 by_cases hk:o.kind<=6
 .exact ail o m h lW hk
 .by_cases wL:o.kind=8
  .exact aio o m h wL
  .exact aip o m h hk wL
def alq(o:lO)(m:Nat)(h:pK o m):ig 163 [vT o,iP (m:Int)] (bP true):=by
 by_cases lW:o.kind=1
 .exact alp o m h lW
 by_cases hk:o.kind<=6
 .exact alo o m h lW hk
 .by_cases wL:o.kind=8
  .exact alr o m h wL
  .exact als o m h hk wL
def alD(t:mB)(k:Nat)(hk:k<t.iW+t.ik.length)(h8:t.iW<=8)(aeL:t.ik.length<=200):ig 300 [iP k,(.jC 3 λj_=>[iP t.iW,mw t.ik,mu t.iL].getD j_ .any)] (bP false):=
 ak call300 func300 (af [tF 5 ((k:Int)<0) aD,iC ((t.iW:Int)+t.ik.length) aD,tF 14 (((t.iW+t.ik.length:Nat):Int)<=k) aD]) 
def Pz(t:mB)(h:yq t):ig 278 [B4 t] (bP true):=by
 have h8:=h.iW;have Ac:=h.ik;have xF:=h.iL;exact ak call278 func278 (af [tF 7 ((t.iW:Int)<0) aD,tF 11 (8<(t.iW:Int)) aD,tF 17 (200<(t.ik.length:Int)) aD,tF 23 (200<(t.iL.length:Int)) aD,.s (Sp.jP (Zk t) 0 t.ik.length aD (λx hx lp=>by
    have iE:=h.op x aD;exact iM (af [tT 29 ((x:Int)<t.ik.length) aD,iX (x:Int) (t.ik.length) aD,iC ((t.iW:Int)+x) aD,ag [vT (t.ik.getD x iF),iP ((t.iW+x:Nat):Int)] (ain _ _ iE),iC ((x:Int)+1) aD]) aG)
  (λhx=>by
    exact iM (af [tF 29 ((t.ik.length:Int)<t.ik.length) aD]) aG) aK:jO 4 f278 (Zk t 0) (.exit 0) ⟨46,true,[(1,.box 1 0)],[(1,.cells 39 [iP t.iW,mw t.ik,mu t.iL])]⟩) .nil,.c (Vy true _ _ 300 [(.jC 3 λj_=>[iP t.iW,mw t.ik,mu t.iL].getD j_ .any)] (λ_=>false) (λi hi=>alD t _ (h.out i hi) h8 Ac) aD (λ_ _=>rfl):ig 164 [mu t.iL,.fn 300 [(.jC 3 λj_=>[iP t.iW,mw t.ik,mu t.iL].getD j_ .any)]] _)]) 
def alu(t:mB)(k:Nat)(hk:k<t.iW+t.ik.length)(h8:t.iW<=8)(aeL:t.ik.length<=200):ig 165 [iP k,(.jC 3 λj_=>[iP t.iW,mw t.ik,mu t.iL].getD j_ .any)] (bP false):=
 ak call165 func165 (af [tF 5 ((k:Int)<0) aD,iC ((t.iW:Int)+t.ik.length) aD,tF 14 (((t.iW+t.ik.length:Nat):Int)<=k) aD]) 
def alv(x:Iv)(hx:x.iu)(xa:x.all=false):ig 166 [ix x] (bP false):=by
 obtain⟨w1,w2,w3⟩:=pO hx xa;exact ak call166 func166 (af [ai 4 x.all xa,ag [im x.lo] (rz _ aE),ag [im x.hi] (rz _ aE),ag [im x.lo,im x.hi] (nK _ _ aE aE),tF 23 (0<(jA x.lo x.hi)) aD]) 
def DA(s:kG)(h:mO s):ig 94 [lI s] (bP true):=by
 have h8:=h.tape.iW;have Ac:=h.tape.ik;have xF:=h.tape.iL;have s1:=h.s1;have s4:=h.s4;have ho:=h.iL;have hi:=h.iW;have p4:=h.p4;exact ak call94 func94 (af [tF 10 ((s.tape.iW:Int)<0) aD,tF 14 (8<(s.tape.iW:Int)) aD,tF 20 (200<(s.tape.ik.length:Int)) aD,tF 26 (200<(s.tape.iL.length:Int)) aD,.s (Sp.jP (Zd s) 0 s.tape.ik.length aD (λx hx lp=>by
    have iE:=h.tape.op x aD;exact iM (af [tT 32 ((x:Int)<s.tape.ik.length) aD,iX (x:Int) (s.tape.ik.length) aD,iC ((s.tape.iW:Int)+x) aD,ag [vT (s.tape.ik.getD x iF),iP ((s.tape.iW+x:Nat):Int)] (alq _ _ iE),iC ((x:Int)+1) aD]) aG)
  (λhx=>by
    exact iM (af [tF 32 ((s.tape.ik.length:Int)<s.tape.ik.length) aD]) aG) aK:jO 5 Tryz.f94 (Zd s 0) (.exit 0) ⟨85,true,[(3,.box 3 0),(1,.box 1 0)],[(3,.cells 39 [iP s.tape.iW,mw s.tape.ik,mu s.tape.iL]),(1,.cells 41 [iP s.tape.iW,mw s.tape.ik,mu s.tape.iL,iP s.jo,iz s.params])]⟩) .nil,.c (Vy true _ _ 165 [(.jC 3 λj_=>[iP s.tape.iW,mw s.tape.ik,mu s.tape.iL].getD j_ .any)] (λ_=>false) (λi hi=>alu s.tape _ (h.tape.out i hi) h8 Ac) aD (λ_ _=>rfl):ig 164 [mu s.tape.iL,.fn 165 [(.jC 3 λj_=>[iP s.tape.iW,mw s.tape.ik,mu s.tape.iL].getD j_ .any)]] _),tF 50 ((s.jo:Int)<1) aD,tF 54 (4<(s.jo:Int)) aD,ai 62 ((s.tape.iL.length:Int) != (s.jo:Int)) (sD aD),
  iC ((s.jo:Int)+s.params.length) aD,ai 73 ((s.tape.iW:Int) != ((s.jo+s.params.length:Nat):Int)) (sD aD),tF 79 (4<(s.params.length:Int)) aD,.c (xN true _ _ 166 [] (λ_=>false) (λi hi=>alv _ (h.params i hi).1 (h.params i hi).2) aD (λ_ _=>rfl):ig 150 [iz s.params,.fn 166 []] _)]) 
def Qk(o:lO)(x y:Iv)(p:Nat)(hx:x.iu)(hy:y.iu)(r1:3<=o.kind)(r2:o.kind<=13)(r3:o.n<=16)(iD:8<=p)(iq:p<=512)(hF:o.kind<=8\/zD):ig 283 [iP o.kind,iP o.n,ix x,ix y,iP p] (ix (kI o x y p)):=
 ak call283 func283 (.w ((o.kind:Int)=3)
  (λk1=>ae [tB 13 (bg k1),.c (vF x y p aE aE aD aD)]<|rQ (ix (jL x y p)) (ix (kI o x y p)) (by unfold kI;simp[(aD:o.kind=3)]))
  (λk1=>ae [tB 13 (bd k1)]<|.w ((o.kind:Int)=4)
   (λk2=>ae [tB 19 (bg k2),.c (C1 x y p aE aE aD aD)]<|rQ (ix (lk x y p)) (ix (kI o x y p)) (by unfold kI;simp[(aD:¬o.kind=3),(aD:o.kind=4)]))
   (λk2=>ae [tB 19 (bd k2)]<|.w ((o.kind:Int)=5)
    (λk3=>ae [tB 25 (bg k3),.c (qM x y p aE aE aD aD)]<|rQ (ix (iI x y p)) (ix (kI o x y p)) (by unfold kI;simp[(aD:¬o.kind=3),(aD:¬o.kind=4),(aD:o.kind=5)]))
    (λk3=>ae [tB 25 (bd k3)]<|.w ((o.kind:Int)=6)
     (λk4=>ae [tB 31 (bg k4),.c (wU x y p aE aE aD aD)]<|rQ (ix (jj x y p)) (ix (kI o x y p)) (by unfold kI;simp[(aD:¬o.kind=3),(aD:¬o.kind=4),(aD:¬o.kind=5),(aD:o.kind=6)]))
     (λk4=>ae [tB 31 (bd k4)]<|.w ((o.kind:Int)=7)
      (λk5=>ae [tB 37 (bg k5),.c (I1 x aE)]<|rQ (ix (nL x)) (ix (kI o x y p)) (by unfold kI;simp[(aD:¬o.kind=3),(aD:¬o.kind=4),(aD:¬o.kind=5),(aD:¬o.kind=6),(aD:o.kind=7)]))
      (λk5=>ae [tB 37 (bd k5)]<|.w ((o.kind:Int)=8)
       (λk6=>ae [tB 41 (bg k6),ag [ix x,iP o.n,iP p] (KI _ _ _ aE aD aD aD)]<|rQ (ix (nX x o.n p)) (ix (kI o x y p)) (by unfold kI;simp[(aD:¬o.kind=3),(aD:¬o.kind=4),(aD:¬o.kind=5),(aD:¬o.kind=6),(aD:¬o.kind=7),(aD:o.kind=8)]))
       (λk6=>ae [tB 41 (bd k6)]<|.w ((o.kind:Int)=9)
        (λk7=>ae [tB 47 (bg k7),ag [ix x,iP p] (adA _ aE _ aD aD (hF.resolve_left aD))]<|rQ (ix (Cx x p)) (ix (kI o x y p)) (by unfold kI;simp[(aD:¬o.kind=3),(aD:¬o.kind=4),(aD:¬o.kind=5),(aD:¬o.kind=6),(aD:¬o.kind=7),(aD:¬o.kind=8),(aD:o.kind=9)]))
        (λk7=>ae [tB 47 (bd k7)]<|.w ((o.kind:Int)=10)
         (λk8=>ae [tB 52 (bg k8),ag [ix x,iP p] (adC _ aE _ aD aD (hF.resolve_left aD))]<|rQ (ix (Cy x p)) (ix (kI o x y p)) (by unfold kI;simp[(aD:¬o.kind=3),(aD:¬o.kind=4),(aD:¬o.kind=5),(aD:¬o.kind=6),(aD:¬o.kind=7),(aD:¬o.kind=8),(aD:¬o.kind=9),(aD:o.kind=10)]))
         (λk8=>ae [tB 52 (bd k8)]<|.w ((o.kind:Int)=11)
          (λk9=>ae [tB 57 (bg k9),ag [ix x,iP p] (adE _ aE _ aD aD (hF.resolve_left aD))]<|rQ (ix (Be x p)) (ix (kI o x y p)) (by unfold kI;simp[(aD:¬o.kind=3),(aD:¬o.kind=4),(aD:¬o.kind=5),(aD:¬o.kind=6),(aD:¬o.kind=7),(aD:¬o.kind=8),(aD:¬o.kind=9),(aD:¬o.kind=10),(aD:o.kind=11)]))
          (λk9=>ae [tB 57 (bd k9)]<|.w ((o.kind:Int)=12)
           (λk10=>ae [tB 62 (bg k10),ag [ix x,iP p] (ady _ aE _ aD aD (hF.resolve_left aD))]<|rQ (ix (Bd x p)) (ix (kI o x y p)) (by unfold kI;simp[(aD:¬o.kind=3),(aD:¬o.kind=4),(aD:¬o.kind=5),(aD:¬o.kind=6),(aD:¬o.kind=7),(aD:¬o.kind=8),(aD:¬o.kind=9),(aD:¬o.kind=10),(aD:¬o.kind=11),(aD:o.kind=12)]))
           (λk10=>ae [tB 62 (bd k10)]<|.w ((o.kind:Int)=13)
            (λk11=>ae [tB 67 (bg k11),ag [ix x,iP p] (adG _ aE _ aD aD (hF.resolve_left aD))]<|rQ (ix (Cz x p)) (ix (kI o x y p)) (by unfold kI;simp[(aD:¬o.kind=3),(aD:¬o.kind=4),(aD:¬o.kind=5),(aD:¬o.kind=6),(aD:¬o.kind=7),(aD:¬o.kind=8),(aD:¬o.kind=9),(aD:¬o.kind=10),(aD:¬o.kind=11),(aD:¬o.kind=12),(aD:o.kind=13)]))
            (λk11=>.x aD)))))))))))) 
def abe{nl:Bool}{T n n' sz:Nat}{f g h:Nat->Nat->E}(hn:n=n')(hh:∀ i j,i<n->j<sz->g i j=h i j/\(h i j).nr 2=true):Bx.le (.row nl T (0+n) sz λi j=>if i<0 then f i j else g (i-0) j) (.row nl T n' sz h):=
 .row aD λi j hi hj=>by
  have ml:i<n:= aD ;simp only[bO,bF,dR];exact⟨.jb (hh i j ml hj).1,(hh i j ml hj).2⟩
def Qu(r:List Iv)(h0:0<r.length)(hl:r.length<=1000):DN 280 [iz r] true 33 r.length 7 (jF r):=
 trn call280 func280 (ae [.a (aD:0<r.length),.bo,.a (aD:(0+r.length)*88<=140737488355328)]<|.rb (abe rfl λi j hi hj=>⟨rfl,C0 _ _ hj⟩:Bx.le (.row true 33 (0+r.length) 7 (λi_ j_=>if i_<0 then(λi_ j_=>([]:List E).getD (i_*7+j_) (.v (.bool false))) i_ j_ else(E.jH (iz r)) (i_-0) j_)) (.row true 33 r.length 7 (jF r)))) aG 
def DH{T n n' x:Nat}{t:mB}{xs:List Iv}{p:Nat}{y:Iv}(hn:n=(iS t.ik xs p x).length)(tz:n'=(iS t.ik xs p (x+1)).length)(hy:sw (t.ik.getD x iF) (iS t.ik xs p x) p=y):
 Bx.le (.row true T (n+[y].length) 7 λi j=>if i<n then jF (iS t.ik xs p x) i j else(E.jH (iz [y])) (i-n) j) (.row true T n' 7 (jF (iS t.ik xs p (x+1)))):=by
 subst tz hy;exact Nn hn
def Oi{o:lO}{m:Nat}(h:pK o m):o.n<=16:=by
 have:=h.n;split at this<;>omega
def alB(t:mB)(xs:List Iv)(p:Nat)(h:yq t)(h1:1<=xs.length)(hx:xs.length=t.iW)(hv:nP xs)(iD:8<=p)(iq:p<=512):ig 240 [B4 t,iz xs,iP p] (iz (iS t.ik xs p t.ik.length)):=by
 have h8:=h.iW;have Ac:=h.ik;exact ak call240 func240 (af [.c (Pz t aE),ai 19 ((xs.length:Int) != (t.iW:Int)) (sD hx),.cn (Qu _ aD aD:DN 280 [iz xs] true 33 xs.length 7 (jF xs)),.s (Sp.jP (Zi t xs p) 0 t.ik.length aD (λx hx lp=>by
    have iE:=h.op x aD;have uw:=zA t.ik hv (aD:1<=p) (aD:p<=4096) x;have ED:=B6 t.ik xs p x;have w1:=uw (t.ik.getD x iF).a;by_cases lW:((t.ik.getD x iF)).kind=1
    .have py:((t.ik.getD x iF)).kind=1:=lW;obtain⟨o1,o2,o3,Ad⟩:=iE.num py;have pg:sw (t.ik.getD x iF) (iS t.ik xs p x) p=(lu (t.ik.getD x iF).cn (t.ik.getD x iF).cd p):=by unfold sw;rw[bn py]
     have qJ:=oC (lu (t.ik.getD x iF).cn (t.ik.getD x iF).cd p);exact iM (ae [tT 27 ((x:Int)<t.ik.length) aD,iX (x:Int) (t.ik.length) aD,.c (Oj ((t.ik.getD x iF).kind:Nat) aD),ah 50 ((0:Int)==0) aF,.c (XU ((t.ik.getD x iF).cn) ((t.ik.getD x iF).cd) p aE aD aD),.o 71 (.e (mr _):aj (.sl true 1 7 λi_ j_=>(iZ (lu ((t.ik.getD x iF).cn) ((t.ik.getD x iF).cd) p)).getD (i_*7+j_) (.v (.bool false))) (iz [lu ((t.ik.getD x iF).cn) ((t.ik.getD x iF).cd) p])),.a (aD:((iS t.ik xs p x).length+[lu ((t.ik.getD x iF).cn) ((t.ik.getD x iF).cd) p].length)*88<=140737488355328),iC ((x:Int)+1) aD]<|.e (af [.b 22 (DH rfl rfl pg:Bx.le (.row true 33 ((iS t.ik xs p x).length+[lu ((t.ik.getD x iF).cn) ((t.ik.getD x iF).cd) p].length) 7 (λi_ j_=>if i_<(iS t.ik xs p x).length then(jF (iS t.ik xs p x)) i_ j_ else(E.jH (iz [lu ((t.ik.getD x iF).cn) ((t.ik.getD x iF).cd) p])) (i_-(iS t.ik xs p x).length) j_)) (.row true 33 ((iS t.ik xs p (x+1)).length) 7 (jF (iS t.ik xs p (x+1)))))])) aG 
    .by_cases hk:((t.ik.getD x iF)).kind<=6
     .have wM:((t.ik.getD x iF)).kind≠1:=lW;have py:((t.ik.getD x iF)).kind<=6:=hk;have pg:sw (t.ik.getD x iF) (iS t.ik xs p x) p=(kI (t.ik.getD x iF) ((iS t.ik xs p x).getD ((t.ik.getD x iF).a) il) ((iS t.ik xs p x).getD ((t.ik.getD x iF).b) il) p):=by unfold sw DX;rw[bl wM,bq py];rfl
      obtain⟨o1,o2,o3,o4,o5,o6⟩:=iE.GJ wM py;have w2:=uw (t.ik.getD x iF).b;have o7:=iE.Fe;have qJ:=oC (kI (t.ik.getD x iF) ((iS t.ik xs p x).getD ((t.ik.getD x iF).a) il) ((iS t.ik xs p x).getD ((t.ik.getD x iF).b) il) p);exact iM (ae [tT 27 ((x:Int)<t.ik.length) aD,iX (x:Int) (t.ik.length) aD,.c (Ol ((t.ik.getD x iF).kind:Nat) aD aD),ai 50 ((2:Int)==0) aF,ai 56 ((2:Int)==1) aF,iX ((t.ik.getD x iF).a:Int) ((iS t.ik xs p x).length) aD,.a (aD:(t.ik.getD x iF).a<(iS t.ik xs p x).length),
       iX ((t.ik.getD x iF).b:Int) ((iS t.ik xs p x).length) aD,.a (aD:(t.ik.getD x iF).b<(iS t.ik xs p x).length),ag [iP ((t.ik.getD x iF).kind:Int),iP ((t.ik.getD x iF).n:Int),ix ((iS t.ik xs p x).getD (t.ik.getD x iF).a il),ix ((iS t.ik xs p x).getD (t.ik.getD x iF).b il),iP p] (Qk (t.ik.getD x iF) _ _ _ aE aE aD aD aD aD aD iE.f),.o 71 (.e (mr _):aj (.sl true 1 7 λi_ j_=>(iZ (kI (t.ik.getD x iF) ((iS t.ik xs p x).getD (t.ik.getD x iF).a il) ((iS t.ik xs p x).getD (t.ik.getD x iF).b il) p)).getD (i_*7+j_) (.v (.bool false))) (iz [kI (t.ik.getD x iF) ((iS t.ik xs p x).getD (t.ik.getD x iF).a il) ((iS t.ik xs p x).getD (t.ik.getD x iF).b il) p])),.a (aD:((iS t.ik xs p x).length+[kI (t.ik.getD x iF) ((iS t.ik xs p x).getD (t.ik.getD x iF).a il) ((iS t.ik xs p x).getD (t.ik.getD x iF).b il) p].length)*88<=140737488355328),
       iC ((x:Int)+1) aD]<|.e (af [.b 22 (DH rfl rfl pg:Bx.le (.row true 33 ((iS t.ik xs p x).length+[kI (t.ik.getD x iF) ((iS t.ik xs p x).getD (t.ik.getD x iF).a il) ((iS t.ik xs p x).getD (t.ik.getD x iF).b il) p].length) 7 (λi_ j_=>if i_<(iS t.ik xs p x).length then(jF (iS t.ik xs p x)) i_ j_ else(E.jH (iz [kI (t.ik.getD x iF) ((iS t.ik xs p x).getD (t.ik.getD x iF).a il) ((iS t.ik xs p x).getD (t.ik.getD x iF).b il) p])) (i_-(iS t.ik xs p x).length) j_)) (.row true 33 ((iS t.ik xs p (x+1)).length) 7 (jF (iS t.ik xs p (x+1)))))])) aG 
     .have wM:((t.ik.getD x iF)).kind≠1:=lW;have py:¬((t.ik.getD x iF)).kind<=6:=hk;have pg:sw (t.ik.getD x iF) (iS t.ik xs p x) p=(kI (t.ik.getD x iF) ((iS t.ik xs p x).getD ((t.ik.getD x iF).a) il) il p):=by unfold sw DX;rw[bl wM,bt py];rfl
      have w2:=mA;have o2:=iE.Gz wM;have o7:=iE.Fe;have o8:=Oi iE;have qJ:=oC (kI (t.ik.getD x iF) ((iS t.ik xs p x).getD ((t.ik.getD x iF).a) il) il p);exact iM (ae [tT 27 ((x:Int)<t.ik.length) aD,iX (x:Int) (t.ik.length) aD,.c (Jt ((t.ik.getD x iF).kind:Nat) aD aD),ai 50 ((1:Int)==0) aF,ah 56 ((1:Int)==1) aF,iX ((t.ik.getD x iF).a:Int) ((iS t.ik xs p x).length) aD,.a (aD:(t.ik.getD x iF).a<(iS t.ik xs p x).length),.o 66 (.e yj:aj (.agg [bP false,.v (.slice none 0 0),iP 0,bP false,.v (.slice none 0 0),iP 0,bP true]) (ix il)),ag [iP ((t.ik.getD x iF).kind:Int),iP ((t.ik.getD x iF).n:Int),ix ((iS t.ik xs p x).getD (t.ik.getD x iF).a il),ix il,iP p] (Qk (t.ik.getD x iF) _ _ _ aE aE aD aD aD aD aD iE.f),.o 71 (.e (mr _):aj (.sl true 1 7 λi_ j_=>(iZ (kI (t.ik.getD x iF) ((iS t.ik xs p x).getD (t.ik.getD x iF).a il) il p)).getD (i_*7+j_) (.v (.bool false))) (iz [kI (t.ik.getD x iF) ((iS t.ik xs p x).getD (t.ik.getD x iF).a il) il p])),.a (aD:((iS t.ik xs p x).length+[kI (t.ik.getD x iF) ((iS t.ik xs p x).getD (t.ik.getD x iF).a il) il p].length)*88<=140737488355328),iC ((x:Int)+1) aD]<|.e (af [.b 22 (DH rfl rfl pg:Bx.le (.row true 33 ((iS t.ik xs p x).length+[kI (t.ik.getD x iF) ((iS t.ik xs p x).getD (t.ik.getD x iF).a il) il p].length) 7 (λi_ j_=>if i_<(iS t.ik xs p x).length then(jF (iS t.ik xs p x)) i_ j_ else(E.jH (iz [kI (t.ik.getD x iF) ((iS t.ik xs p x).getD (t.ik.getD x iF).a il) il p])) (i_-(iS t.ik xs p x).length) j_)) (.row true 33 ((iS t.ik xs p (x+1)).length) 7 (jF (iS t.ik xs p (x+1)))))])) aG)
  (λhx=>by
    exact iM (ae [tF 27 ((t.ik.length:Int)<t.ik.length) aD,.z 22]<|.e (af [.o 7 (.e (wV aJ):aj (.sl true ((iS t.ik xs p t.ik.length).length) 7 (jF (iS t.ik xs p t.ik.length))) (iz (iS t.ik xs p t.ik.length)))])) aG) aK:jO 5 f240 (Zi t xs p 0) (.exit 0) ⟨75,true,[(7,.e (iz (iS t.ik xs p t.ik.length)))],[]⟩) (af [.b 22 (.jb rfl:Bx.le (.row true 33 xs.length 7 (jF xs)) (.row true 33 ((iS t.ik xs p 0).length) 7 (jF (iS t.ik xs p 0))))])]) 
def nQ(m:List (List Iv)):Nat->List Iv
 | 0=>[]
 |k+1=>nQ m k++m.getD k []
def KY(m:List (List Iv))(k:Nat):(nQ m (k+1)).length=(nQ m k).length+(m.getD k []).length:=by simp[nQ]
def af5{T n n':Nat}{xs r:List Iv}(hn:n=xs.length)(tz:n'=(xs++r).length):Bx.le (.row true T (n+r.length) 7 λi j=>if i<n then jF xs i j else(E.jH (iz r)) (i-n) j) (.row true T n' 7 (jF (xs++r))):=by
 subst hn tz;refine .row aJ λi j hi hj=>⟨.jb ?_,C0 _ _ hj⟩
 by_cases h:i<xs.length
 .rw [bn h];show(iZ (xs.getD i il)).getD j .any=(iZ ((xs++r).getD i il)).getD j .any;congr 2;simp[bu,eW h]
 .rw [bl h];show(iZ (r.getD (i-xs.length) il)).getD j .any=(iZ ((xs++r).getD i il)).getD j .any;congr 2;simp[bu,gi (aD:xs.length<=i)]
def Fo(a b:List Iv):E.le (.sl true 2 1 λi j=>[iz a,iz b].getD (i*1+j) (.v (.bool false))) (iU [a,b]):=.sl λi j hi hj=>by
 obtain rfl:j=0:= aD ;obtain rfl|rfl:i=0\/i=1:= aD 
 all_goals exact⟨.refl _,rfl⟩
def akf{n:Nat}:E.le (.sl true n 1 λk _=>.sl true ((λ_=>0) k) 7 ((λ_ _ _=>.any) k)) (iU (List.replicate n [])):=by
 have h:iU (List.replicate n []) = .sl true n 1 λi _=>iz ((List.replicate n []).getD i []):=by unfold iU;rw[List.length_replicate]
 rw[h];refine .sl λi j hi hj=>⟨?_,rfl⟩
 have e:(List.replicate n ([]:List Iv)).getD i []=[]:=by simp[bu,hi]
 rw[e];exact .sl λq _ hq _=>absurd hq (bO _)
def Rd(m:List (List Iv))(x:Nat):PS:=⟨36,true,[(11,.e (iP x)),(10,.e (iP m.length)),(9,.e (iU m)),(3,.e (iP ((nQ m x).length:Int))),(0,.e (iU m))],[]⟩
def Re(m:List (List Iv))(x:Nat):PS:=⟨36,true,[(27,.e (iP x)),(26,.e (iP m.length)),(25,.e (iU m)),(6,.own 24)],[(24,.row true 33 ((nQ m x).length) 7 (jF (nQ m x)))]⟩
noncomputable def Tq(t:mB)(xs:List Iv)(p:Nat)(x:Nat):PS:=⟨91,true,[(43,.e (iP x)),(42,.e (iP 0)),(11,.own 41),(10,.e (iz (iS t.ik xs p t.ik.length))),(4,.box 4 0),(3,.e (iP p))],[(41,.jm true 35 33 t.iL.length 7 (λ_=>0) (λ_ _ _=>.any) .none),(4,.cells 39 [iP t.iW,mw t.ik,mu t.iL])]⟩
noncomputable def Tm(t:mB)(xs:List Iv)(p:Nat)(x:Nat):PS:=⟨91,true,[(16,.own 16),(77,.e (iP x)),(76,.e (iP t.iL.length)),(75,.e (mu t.iL)),(11,.own 41),(10,.e (iz (iS t.ik xs p t.ik.length)))],[(16,.row true 33 x 7 (jF ((List.range x).map (λj_=>(iS t.ik xs p t.ik.length).getD (t.iL.getD j_ 0) il)))),(41,.jm true 35 33 t.iL.length 7 (λ_=>0) (λ_ _ _=>.any) .none)]⟩
def abN(m:List (List Iv))(hl:m.length<=1000)(hb:∀ k,k<=m.length->(nQ m k).length<=1000):ig 184 [iU m] (iz (nQ m m.length)):=by
 have Bi:=hb m.length (bp _);exact ak call184 func184 (af [.s (Sp.jP (Rd m) 0 m.length aD (λx hx lp=>by
    have jt:=hb (x+1) aD;rw[KY]at jt;exact iM (ae [tT 12 ((x:Int)<m.length) aD,iX (x:Int) (m.length) aD,iC (((nQ m x).length:Int)+((m.getD x []).length:Int)) aD,tF 20 ((((nQ m x).length+(m.getD x []).length:Nat):Int)<0) aD,iC ((x:Int)+1) aD]<|.e (af [.o 3 (an (((nQ m x).length+(m.getD x []).length:Nat):Int) ((nQ m (x+1)).length:Int) (by rw[KY]))])) aG)
  (λhx=>by
    exact iM (af [tF 12 ((m.length:Int)<m.length) aD]) aG) aK:jO 3 f184 (Rd m 0) (.exit 0) ⟨36,true,[(3,.e (iP ((nQ m m.length).length:Int))),(0,.e (iU m))],[]⟩) (af [.o 3 (an 0 ((nQ m 0).length:Int) rfl)]),.cn (aeH _ aD:DN 242 [.v (.slice none 0 0),iP ((nQ m m.length).length:Int)] true 33 0 7 (jF [])),.s (Sp.jP (Re m) 0 m.length aD (λx hx lp=>by
    have jt:=hb (x+1) aD;rw[KY]at jt;exact iM (ae [tT 28 ((x:Int)<m.length) aD,iX (x:Int) (m.length) aD,.a (aD:((nQ m x).length+(m.getD x []).length)*88<=140737488355328),iC ((x:Int)+1) aD]<|.e (af [.b 24 (af5 rfl rfl:Bx.le (.row true 33 ((nQ m x).length+(m.getD x []).length) 7 (λi_ j_=>if i_<(nQ m x).length then(jF (nQ m x)) i_ j_ else(E.jH (iz (m.getD x []))) (i_-(nQ m x).length) j_)) (.row true 33 ((nQ m (x+1)).length) 7 (jF (nQ m (x+1)))))])) aG)
  (λhx=>by
    exact iM (ae [tF 28 ((m.length:Int)<m.length) aD,.z 24]<|.e (af [.o 6 (.e (wV aJ):aj (.sl true ((nQ m m.length).length) 7 (jF (nQ m m.length))) (iz (nQ m m.length)))])) aG) aK:jO 11 f184 (Re m 0) (.exit 2) ⟨36,true,[(6,.e (iz (nQ m m.length)))],[]⟩) (af [.b 24 (.jb rfl:Bx.le (.row true 33 0 7 (jF [])) (.row true 33 ((nQ m 0).length) 7 (jF (nQ m 0))))])]) 
def D2(a b:List Iv)(ha:a.length<=400)(hb:b.length<=400):ig 184 [iU [a,b]] (iz (a++b)):=by
 have e1:nQ [a,b] 1=a:=rfl;have e2:nQ [a,b] 2=a++b:=rfl;have:=abN [a,b] aJ λk hk=>by
  have hk:k<=2:=hk;rcases k with _|_|_|k
  .exact ch _
  .rw [e1];omega
  .rw [e2,cJ];omega
  .omega
 rwa[show[a,b].length=2 from rfl,e2]at this
def CA(p:Int):ig 182 [iP p] (bP (kT p)):=
 ak call182 func182 (.w (8<=p)
  (λk1=>ae [tB 4 (bq k1)]<|rQ (bP (decide (p<=512))) (bP (kT p)) (by unfold kT;simp[k1]))
  (λk1=>ae [tB 4 (bt k1)]<|rQ (bP false) (bP (kT p)) (by unfold kT;simp[k1]))) 
def adZ(x:Iv)(hx:x.iu):ig 279 [ix x] (bP false):=
 ak call279 func279 (af [.c (si x aE)]) 
def Tk(t:mB)(xs:List Iv)(p:Nat)(h:yq t)(h1:1<=xs.length)(hx:xs.length=t.iW)(hv:nP xs)(iD:8<=p)(iq:p<=512):ig 239 [B4 t,iz xs,iP p] (bP true):=by
 have h8:=h.iW;exact ak call239 func239 (af [.c (Pz t aE),ah 14 ((xs.length:Int)==t.iW) (FG hx),.c (CA (p:Int)),ah 18 (kT (p:Int)) (oM.2 ⟨aD,aD⟩),.c (xN true _ _ 279 [] (λ_=>false) (λi hi=>adZ _ (hv i)) aD (λ_ _=>rfl):ig 150 [iz xs,.fn 279 []] _)]) 
def S3(t:mB)(xs:List Iv)(p:Nat):(List.range t.iL.length).map (λj=>(iS t.ik xs p t.ik.length).getD (t.iL.getD j 0) il)=ko t xs p:=by
 unfold ko;apply am8;intro i;rw[cY,cY];by_cases hi:i<t.iL.length
 .rw [bD (by simpa using hi),bD hi];simp[bu,hi]
 .rw [cw (by simpa using hi),cw aD];rfl
def Ts(t:mB)(xs:List Iv)(p:Nat)(h:yq t)(h1:1<=xs.length)(hx:xs.length=t.iW)(hv:nP xs)(iD:8<=p)(iq:p<=512):ig 183 [B4 t,iz xs,iP 0,iP p] (.iB [iz (ko t xs p),iU (List.replicate t.iL.length [])]):=by
 have h8:=h.iW;have Ac:=h.ik;have xF:=h.iL;exact ak call183 func183 (ae [.c (Tk t xs p h h1 hx hv aD aD),ai 26 (decide ((0:Int)<0)) aF,tF 32 ((t.iW:Int)<0) aD,.c (alB t xs p h h1 hx hv aD aD),.a (aD:0<=((t.iL.length:Int):Int)/\((t.iL.length:Int):Int)<=((t.iL.length:Int):Int)),.a (aD:((24:Nat):Int)*(t.iL.length:Int)<=281474976710656/\((t.iL.length:Int):Int)<=9223372036854775807),.s (Sp.jP (Tq t xs p) 0 0 aD (λx hx lp=>by
    exact absurd lp (bO _))
  (λhx=>by
    exact iM (af [ai 44 (decide ((0:Int)<0)) aF]) aG) aK:jO 6 f183 (Tq t xs p 0) (.exit 0) ⟨91,true,[(11,.own 41),(10,.e (iz (iS t.ik xs p t.ik.length))),(4,.box 4 0)],[(41,.jm true 35 33 t.iL.length 7 (λ_=>0) (λ_ _ _=>.any) .none),(4,.cells 39 [iP t.iW,mw t.ik,mu t.iL])]⟩) .nil,.y 16 16 true 33 7 (jF ((List.range 0).map (λj_=>(iS t.ik xs p t.ik.length).getD (t.iL.getD j_ 0) il))),.s (Sp.jP (Tm t xs p) 0 t.iL.length aD (λx hx lp=>by
    have UM:=h.out x aD;have ED:=B6 t.ik xs p t.ik.length;have qJ:=oC ((iS t.ik xs p t.ik.length).getD (t.iL.getD x 0) il);exact iM (ae [tT 78 ((x:Int)<t.iL.length) aD,iX (x:Int) (t.iL.length) aD,iX (t.iL.getD x 0:Int) ((iS t.ik xs p t.ik.length).length) aD,.o 86 (.e (mr _):aj (.sl true 1 7 λi_ j_=>(iZ ((iS t.ik xs p t.ik.length).getD (t.iL.getD x 0) il)).getD (i_*7+j_) (.v (.bool false))) (iz [(iS t.ik xs p t.ik.length).getD (t.iL.getD x 0) il])),.a (aD:(x+[(iS t.ik xs p t.ik.length).getD (t.iL.getD x 0) il].length)*88<=140737488355328),iC ((x:Int)+1) aD]<|.e (af [.b 16 (xP rfl rfl rfl:Bx.le (.row true 33 (x+[(iS t.ik xs p t.ik.length).getD (t.iL.getD x 0) il].length) 7 (λi_ j_=>if i_<x then(jF ((List.range x).map (λj_=>(iS t.ik xs p t.ik.length).getD (t.iL.getD j_ 0) il))) i_ j_ else(E.jH (iz [(iS t.ik xs p t.ik.length).getD (t.iL.getD x 0) il])) (i_-x) j_)) (.row true 33 (x+1) 7 (jF ((List.range (x+1)).map (λj_=>(iS t.ik xs p t.ik.length).getD (t.iL.getD j_ 0) il)))))])) aG)
  (λhx=>by
    exact iM (ae [tF 78 ((t.iL.length:Int)<t.iL.length) aD,.z 16]<|.e (af [.o 16 (.e (wV aJ):aj (.sl true t.iL.length 7 (jF ((List.range t.iL.length).map (λj_=>(iS t.ik xs p t.ik.length).getD (t.iL.getD j_ 0) il)))) (iz ((List.range t.iL.length).map (λj_=>(iS t.ik xs p t.ik.length).getD (t.iL.getD j_ 0) il))))])) aG) aK:jO 17 f183 (Tm t xs p 0) (.exit 4) ⟨91,true,[(16,.e (iz ((List.range t.iL.length).map (λj_=>(iS t.ik xs p t.ik.length).getD (t.iL.getD j_ 0) il)))),(11,.own 41)],[(41,.jm true 35 33 t.iL.length 7 (λ_=>0) (λ_ _ _=>.any) .none)]⟩) .nil]<|rR (.iB [iz (ko t xs p),iU (List.replicate t.iL.length [])]) (.iB (.cons (.jb (by rw[S3])) (.cons akf .nil)):E.le (.iB [iz ((List.range t.iL.length).map (λj_=>(iS t.ik xs p t.ik.length).getD (t.iL.getD j_ 0) il)),(.sl true t.iL.length 1 λk_ _=>.sl true ((λ_=>0) k_) 7 ((λ_ _ _=>.any) k_))]) (.iB [iz (ko t xs p),iU (List.replicate t.iL.length [])]))) 
def adS(x:Iv):ig 238 [ix x] (bP x.all):=
 ak call238 func238 (.nil) 
def tX(l:List Iv)(hl:l.length<=1000):ig 180 [iz l] (bP (mY l)):=
 ak call180 func180 (af [.c (Nl true _ _ 238 [] (λi=>(l.getD i il).all) (λi hi=>adS _) aD:ig 150 [iz l,.fn 238 []] _)]) 
def El(x:Iv)(hx:x.iu):ig 181 [ix x] (bP false):=
 ak call181 func181 (af [.c (si x aE)]) 
def ajW(n:Nat)(hn:n<=1000):ig 148 [iU (List.replicate n []),.fn 180 []] (bP false):=by
 have e:∀ i,i<n->(List.replicate n ([]:List Iv)).getD i []=[]:=λi hi=>by simp[bu,hi]
 refine Yo true _ _ 180 [] (λ_=>false) (λi hi=>?_) (by simpa using by omega) (λ_ _=>rfl);have ml:i<n:=by simpa using hi
 show ig 180 [iz ((List.replicate n []).getD i [])] _;rw[e i ml];exact tX [] aJ 
def FI{l:List Iv}(h:pX l):mY l=false:=by
 unfold mY;rw[dP];intro i hi;rw[(h i (cz.1 hi)).2];decide
def zJ{s:kG}{b:List Iv}(h:mO s)(hb:kU s.jo b):yq s.tape/\1<=(b++s.params).length/\(b++s.params).length=s.tape.iW/\nP (b++s.params):=by
 have h1:=h.s1;have h2:=h.iW;have h3:=hb.len;refine⟨h.tape,?_,?_,hb.ok.PJ.append h.params.PJ⟩
 .rw [cJ];omega
 .rw [cJ];omega
def adW(s:kG)(b:List Iv)(p:Nat)(h:mO s)(hb:kU s.jo b)(iD:8<=p)(iq:p<=512)(hn:mY (ko s.tape (b++s.params) p)=true):ig 103 [lI s,iz b,iP 0,iP p] (.iB [.v (.slice none 0 0),.v (.slice none 0 0),iP 11]):=by
 have s4:=h.s4;have p4:=h.p4;have Bn:=hb.len;have xF:=h.tape.iL;have ug:=FI hb.ok;have yJ:=Bf s.tape (b++s.params) p;obtain⟨f1,f2,f3,f4⟩:=zJ h hb;exact ak call103 func103 (af [.c (DA s aE),ai 21 ((b.length:Int) != (s.jo:Int)) (sD hb.len),.c (tX b aD),ai 25 (mY b) ug,.c (xN true _ _ 181 [] (λ_=>false) (λi hi=>El _ (hb.ok i hi).1) aD (λ_ _=>rfl):ig 150 [iz b,.fn 181 []] _),.c (CA (p:Int)),ah 32 (kT (p:Int)) (oM.2 ⟨aD,aD⟩),.o 40 (.e (Fo _ _):aj (.sl true 2 1 λi_ j_=>[iz b,iz s.params].getD (i_*1+j_) (.v (.bool false))) (iU [b,s.params])),ag [iU [b,s.params]] (D2 b s.params aD aD),.c (Ts s.tape (b++s.params) p f1 f2 f3 f4 aD aD),.c (tX (ko s.tape (b++s.params) p) aD),ah 48 (mY (ko s.tape (b++s.params) p)) hn]) 
def adX(s:kG)(b:List Iv)(p:Nat)(h:mO s)(hb:kU s.jo b)(iD:8<=p)(iq:p<=512)(hn:mY (ko s.tape (b++s.params) p)=false):ig 103 [lI s,iz b,iP 0,iP p] (.iB [iz (ko s.tape (b++s.params) p),iU (List.replicate s.tape.iL.length []),iP 0]):=by
 have s4:=h.s4;have p4:=h.p4;have Bn:=hb.len;have xF:=h.tape.iL;have ug:=FI hb.ok;have yJ:=Bf s.tape (b++s.params) p;obtain⟨f1,f2,f3,f4⟩:=zJ h hb;exact ak call103 func103 (af [.c (DA s aE),ai 21 ((b.length:Int) != (s.jo:Int)) (sD hb.len),.c (tX b aD),ai 25 (mY b) ug,.c (xN true _ _ 181 [] (λ_=>false) (λi hi=>El _ (hb.ok i hi).1) aD (λ_ _=>rfl):ig 150 [iz b,.fn 181 []] _),.c (CA (p:Int)),ah 32 (kT (p:Int)) (oM.2 ⟨aD,aD⟩),.o 40 (.e (Fo _ _):aj (.sl true 2 1 λi_ j_=>[iz b,iz s.params].getD (i_*1+j_) (.v (.bool false))) (iU [b,s.params])),ag [iU [b,s.params]] (D2 b s.params aD aD),.c (Ts s.tape (b++s.params) p f1 f2 f3 f4 aD aD),.c (tX (ko s.tape (b++s.params) p) aD),ai 48 (mY (ko s.tape (b++s.params) p)) hn,ag [iU (List.replicate s.tape.iL.length []),.fn 180 []] (ajW _ aD)]) 
def adY(s:kG)(b:List Iv)(p:Nat)(h:mO s)(hb:kU s.jo b)(iD:8<=p)(iq:p<=512)(hn:mY (ko s.tape (b++s.params) p)=true):ig 174 [lI s,iz b,iP p] (.iB [.v (.slice none 0 0),iP 11]):=
 ak call174 func174 (af [.c (adW s b p h hb iD iq hn)]) 
def Tj(s:kG)(b:List Iv)(p:Nat)(h:mO s)(hb:kU s.jo b)(iD:8<=p)(iq:p<=512)(hn:mY (ko s.tape (b++s.params) p)=false):ig 174 [lI s,iz b,iP p] (.iB [iz (ko s.tape (b++s.params) p),iP 0]):=
 ak call174 func174 (af [.c (adX s b p h hb iD iq hn)]) 
noncomputable def Vp(s:kG)(x:List Iv)(d:Dy)(b:List Iv)(p:Nat)(N:Nat)(i:Nat):PS:=⟨66,true,[(14,.own 14),(42,.e (iP i)),(41,.e (iP x.length)),(13,.box 13 0),(11,.e (iz (ko s.tape (b++s.params) p))),(1,.e (iz x)),(4,.e (iP p))],[(14,.row true 33 i 7 (jF ((List.range i).map (λj_=>(jL (x.getD j_ il) (iI (mi d) ((ko s.tape (b++s.params) p).getD j_ il) p) p))))),(13,.cells 33 (aq++jc d++[bP false]))]⟩
noncomputable def Vq(s:kG)(x:List Iv)(d:Dy)(b:List Iv)(p:Nat)(i:Nat):PS:=⟨66,true,[(14,.own 14),(42,.e (iP i)),(41,.e (iP x.length)),(13,.box 13 0),(11,.e (iz (ko s.tape (b++s.params) p))),(1,.e (iz x)),(4,.e (iP p))],[(14,.row true 33 i 7 (jF ((List.range i).map (λj_=>(jL (x.getD j_ il) (iI (mi d) ((ko s.tape (b++s.params) p).getD j_ il) p) p))))),(13,.cells 33 (aq++jc d++[bP false]))]⟩
def Su(s:kG)(x:List Iv)(d:Dy)(p:Nat)(N:Nat)(k:Nat):PS:=⟨55,true,[(22,.e (iP k)),(10,.rU 35 [.box 5,.box 4,.box 6,.box 7]),(7,.box 7 0),(6,.box 6 0),(5,.box 5 0),(4,.box 4 0)],[(7,.cells 3 [iP p]),(6,.cells 28 (jc d)),(5,.cells 35 [iz x]),(4,.cells 41 [iP s.tape.iW,mw s.tape.ik,mu s.tape.iL,iP s.jo,iz s.params])]⟩
def Sv(s:kG)(x:List Iv)(d:Dy)(p:Nat)(k:Nat):PS:=⟨55,true,[(22,.e (iP k)),(10,.rU 35 [.box 5,.box 4,.box 6,.box 7]),(7,.box 7 0),(6,.box 6 0),(5,.box 5 0),(4,.box 4 0)],[(7,.cells 3 [iP p]),(6,.cells 28 (jc d)),(5,.cells 35 [iz x]),(4,.cells 41 [iP s.tape.iW,mw s.tape.ik,mu s.tape.iL,iP s.jo,iz s.params])]⟩
noncomputable def Sy(s:kG)(x:List Iv)(d:Dy)(p:Nat)(N:Nat)(j:Nat):PS:=⟨55,true,[(36,.e (iP j)),(14,.e (iz (lJ s x d p j))),(7,.box 7 0),(6,.box 6 0),(5,.box 5 0),(4,.box 4 0)],[(7,.cells 3 [iP p]),(6,.cells 28 (jc d)),(5,.cells 35 [iz x]),(4,.cells 41 [iP s.tape.iW,mw s.tape.ik,mu s.tape.iL,iP s.jo,iz s.params])]⟩
def Sw(s:kG)(x:List Iv)(d:Dy)(p:Nat)(k:Nat):PS:=⟨55,true,[(22,.e (iP k)),(10,.rU 35 [.box 5,.box 4,.box 6,.box 7]),(7,.box 7 0),(6,.box 6 0),(5,.box 5 0),(4,.box 4 0)],[(7,.cells 3 [iP p]),(6,.cells 28 (jc d)),(5,.cells 35 [iz x]),(4,.cells 41 [iP s.tape.iW,mw s.tape.ik,mu s.tape.iL,iP s.jo,iz s.params])]⟩
noncomputable def Sz(s:kG)(x:List Iv)(d:Dy)(p:Nat)(j:Nat):PS:=⟨55,true,[(36,.e (iP j)),(14,.e (iz (lJ s x d p j))),(7,.box 7 0),(6,.box 6 0),(5,.box 5 0),(4,.box 4 0)],[(7,.cells 3 [iP p]),(6,.cells 28 (jc d)),(5,.cells 35 [iz x]),(4,.cells 41 [iP s.tape.iW,mw s.tape.ik,mu s.tape.iL,iP s.jo,iz s.params])]⟩
def aaO(x:Iv)(hx:x.iu)(xa:x.all=false):ig 167 [ix x] (bP false):=
 ak call167 func167 (af [.c (si x aE),ai 8 x.all xa]) 
def GI(s:kG)(b:List Iv)(hb:kU s.jo b)(h4:s.jo<=4):ig 95 [lI s,iz b] (bP true):=by
 have Bn:=hb.len;exact ak call95 func95 (af [ah 9 ((b.length:Int)==s.jo) (FG hb.len),.c (xN true _ _ 167 [] (λ_=>false) (λi hi=>aaO _ (hb.ok i hi).1 (hb.ok i hi).2) aD (λ_ _=>rfl):ig 150 [iz b,.fn 167 []] _)]) 
def Bg(s:kG)(x:List Iv)(d:Dy)(p:Nat)(h:mO s)(hx:kU s.jo x)(hd:d.iu)(h0:0<d.jh)(iD:8<=p)(iq:p<=512):ig 34 [lI s,iz x,im d,iP p] (bP true):=by
 have s4:=h.s4;exact ak call34 func34 (af [.c (DA s aE),.c (GI s x hx aD),ag [im d] (rz _ aE),ag [im d] (rW _ aE),tB 23 (bq h0),tT 27 (8<=(p:Int)) aD,tT 31 ((p:Int)<=512) aD]) 
def afz(s:kG)(x:List Iv)(d:Dy)(b:List Iv)(p:Nat)(h:mO s)(hx:kU s.jo x)(hd:d.iu)(h0:0<d.jh)(hb:kU s.jo b)(iD:8<=p)(iq:p<=512)(hn:mY (ko s.tape (b++s.params) p)=true):ig 99 [lI s,iz x,im d,iz b,iP p] (.v (.slice none 0 0)):=by
 have s4:=h.s4;exact ak call99 func99 (af [.c (Bg s x d p h hx hd h0 iD iq),.c (GI s b hb s4),.c (adY s b p h hb iD iq hn),ah 37 ((11:Int) != 0) aF]) 
def Ps(d:Dy):E.le (.agg (aq++jc d++[bP false])) (ix (mi d)):=
 .agg (.cons (.refl _) (.cons y7 (.cons (.refl _) (.cons (.refl _) (.cons (.refl _) (.cons (.refl _) (.cons (.refl _) .nil)))))))
def afA(s:kG)(x:List Iv)(d:Dy)(b:List Iv)(p:Nat)(h:mO s)(hx:kU s.jo x)(hd:d.iu)(h0:0<d.jh)(hb:kU s.jo b)(iD:8<=p)(iq:p<=512)(hn:mY (ko s.tape (b++s.params) p)=false)(N:Nat)(oN:N<x.length)(jk:∀ i,i<N->(jL (x.getD i il) (iI (mi d) ((ko s.tape (b++s.params) p).getD i il) p) p).all=false)(hN:(jL (x.getD N il) (iI (mi d) ((ko s.tape (b++s.params) p).getD N il) p) p).all=true):ig 99 [lI s,iz x,im d,iz b,iP p] (.v (.slice none 0 0)):=by
 have s4:=h.s4;have yP:=hx.len;have xF:=h.iL;have yJ:=Bf s.tape (b++s.params) p;obtain⟨f1,f2,f3,f4⟩:=zJ h hb;have fv:=S4 s.tape f4 (aD:1<=p) (aD:p<=4096);have hq:0<d.q:=(ri d).1.1 h0;have hst:=Pr hd (bH hq);exact ak call99 func99 (af [.c (Bg s x d p h hx hd h0 iD iq),.c (GI s b hb s4),.c (Tj s b p h hb iD iq hn),ai 37 ((0:Int) != 0) aF,.y 14 14 true 33 7 (jF ((List.range 0).map (λj_=>(jL (x.getD j_ il) (iI (mi d) ((ko s.tape (b++s.params) p).getD j_ il) p) p)))),.s (Sp.jP (Vp s x d b p N) 0 N aD (λi hi qH=>by
    have w1:=(hx.ok i aD).1;have w2:=fv i;have w3:=lX (mi d) ((ko s.tape (b++s.params) p).getD i il) (aD:1<=p) (aD:p<=4096);have qJ:=oC (jL (x.getD i il) (iI (mi d) ((ko s.tape (b++s.params) p).getD i il) p) p);exact iM (ae [tT 43 ((i:Int)<x.length) aD,iX (i:Int) (x.length) aD,.o 49 (.e (Ps d):aj (.agg (aq++jc d++[bP false])) (ix (mi d))),iX (i:Int) ((ko s.tape (b++s.params) p).length) aD,.c (qM (mi d) ((ko s.tape (b++s.params) p).getD i il) p aE aE aD aD),.c (vF (x.getD i il) (iI (mi d) ((ko s.tape (b++s.params) p).getD i il) p) p aE aE aD aD),ai 59 ((jL (x.getD i il) (iI (mi d) ((ko s.tape (b++s.params) p).getD i il) p) p).all) (jk i aD),.o 62 (.e (mr _):aj (.sl true 1 7 λi_ j_=>(iZ (jL (x.getD i il) (iI (mi d) ((ko s.tape (b++s.params) p).getD i il) p) p)).getD (i_*7+j_) (.v (.bool false))) (iz [jL (x.getD i il) (iI (mi d) ((ko s.tape (b++s.params) p).getD i il) p) p])),.a (aD:(i+[jL (x.getD i il) (iI (mi d) ((ko s.tape (b++s.params) p).getD i il) p) p].length)*88<=140737488355328),iC ((i:Int)+1) aD]<|.e (af [.b 14 (xP rfl rfl rfl:Bx.le (.row true 33 (i+[jL (x.getD i il) (iI (mi d) ((ko s.tape (b++s.params) p).getD i il) p) p].length) 7 (λi_ j_=>if i_<i then(jF ((List.range i).map (λj_=>(jL (x.getD j_ il) (iI (mi d) ((ko s.tape (b++s.params) p).getD j_ il) p) p)))) i_ j_ else(E.jH (iz [jL (x.getD i il) (iI (mi d) ((ko s.tape (b++s.params) p).getD i il) p) p])) (i_-i) j_)) (.row true 33 (i+1) 7 (jF ((List.range (i+1)).map (λj_=>(jL (x.getD j_ il) (iI (mi d) ((ko s.tape (b++s.params) p).getD j_ il) p) p))))))])) aG)
  (λhi=>by
    have w1:=(hx.ok N aD).1;have w2:=fv N;have w3:=lX (mi d) ((ko s.tape (b++s.params) p).getD N il) (aD:1<=p) (aD:p<=4096);exact iM (af [tT 43 ((N:Int)<x.length) aD,iX (N:Int) (x.length) aD,.o 49 (.e (Ps d):aj (.agg (aq++jc d++[bP false])) (ix (mi d))),iX (N:Int) ((ko s.tape (b++s.params) p).length) aD,.c (qM (mi d) ((ko s.tape (b++s.params) p).getD N il) p aE aE aD aD),.c (vF (x.getD N il) (iI (mi d) ((ko s.tape (b++s.params) p).getD N il) p) p aE aE aD aD),ah 59 ((jL (x.getD N il) (iI (mi d) ((ko s.tape (b++s.params) p).getD N il) p) p).all) hN]) aG) aK:jO 9 Tryz.f99 (Vp s x d b p N 0) .ret ⟨66,true,[(10,.e (.v (.slice none 0 0)))],[]⟩) .nil]) 
def afB(s:kG)(x:List Iv)(d:Dy)(b:List Iv)(p:Nat)(h:mO s)(hx:kU s.jo x)(hd:d.iu)(h0:0<d.jh)(hb:kU s.jo b)(iD:8<=p)(iq:p<=512)(hn:mY (ko s.tape (b++s.params) p)=false)(jk:∀ i,i<x.length->(jL (x.getD i il) (iI (mi d) ((ko s.tape (b++s.params) p).getD i il) p) p).all=false):ig 99 [lI s,iz x,im d,iz b,iP p] (iz ((List.range x.length).map (λj_=>(jL (x.getD j_ il) (iI (mi d) ((ko s.tape (b++s.params) p).getD j_ il) p) p)))):=by
 have s4:=h.s4;have yP:=hx.len;have xF:=h.iL;have yJ:=Bf s.tape (b++s.params) p;obtain⟨f1,f2,f3,f4⟩:=zJ h hb;have fv:=S4 s.tape f4 (aD:1<=p) (aD:p<=4096);have hq:0<d.q:=(ri d).1.1 h0;have hst:=Pr hd (bH hq);exact ak call99 func99 (af [.c (Bg s x d p h hx hd h0 iD iq),.c (GI s b hb s4),.c (Tj s b p h hb iD iq hn),ai 37 ((0:Int) != 0) aF,.y 14 14 true 33 7 (jF ((List.range 0).map (λj_=>(jL (x.getD j_ il) (iI (mi d) ((ko s.tape (b++s.params) p).getD j_ il) p) p)))),.s (Sp.jP (Vq s x d b p) 0 x.length aD (λi hi qH=>by
    have w1:=(hx.ok i aD).1;have w2:=fv i;have w3:=lX (mi d) ((ko s.tape (b++s.params) p).getD i il) (aD:1<=p) (aD:p<=4096);have qJ:=oC (jL (x.getD i il) (iI (mi d) ((ko s.tape (b++s.params) p).getD i il) p) p);exact iM (ae [tT 43 ((i:Int)<x.length) aD,iX (i:Int) (x.length) aD,.o 49 (.e (Ps d):aj (.agg (aq++jc d++[bP false])) (ix (mi d))),iX (i:Int) ((ko s.tape (b++s.params) p).length) aD,.c (qM (mi d) ((ko s.tape (b++s.params) p).getD i il) p aE aE aD aD),.c (vF (x.getD i il) (iI (mi d) ((ko s.tape (b++s.params) p).getD i il) p) p aE aE aD aD),ai 59 ((jL (x.getD i il) (iI (mi d) ((ko s.tape (b++s.params) p).getD i il) p) p).all) (jk i aD),.o 62 (.e (mr _):aj (.sl true 1 7 λi_ j_=>(iZ (jL (x.getD i il) (iI (mi d) ((ko s.tape (b++s.params) p).getD i il) p) p)).getD (i_*7+j_) (.v (.bool false))) (iz [jL (x.getD i il) (iI (mi d) ((ko s.tape (b++s.params) p).getD i il) p) p])),.a (aD:(i+[jL (x.getD i il) (iI (mi d) ((ko s.tape (b++s.params) p).getD i il) p) p].length)*88<=140737488355328),iC ((i:Int)+1) aD]<|.e (af [.b 14 (xP rfl rfl rfl:Bx.le (.row true 33 (i+[jL (x.getD i il) (iI (mi d) ((ko s.tape (b++s.params) p).getD i il) p) p].length) 7 (λi_ j_=>if i_<i then(jF ((List.range i).map (λj_=>(jL (x.getD j_ il) (iI (mi d) ((ko s.tape (b++s.params) p).getD j_ il) p) p)))) i_ j_ else(E.jH (iz [jL (x.getD i il) (iI (mi d) ((ko s.tape (b++s.params) p).getD i il) p) p])) (i_-i) j_)) (.row true 33 (i+1) 7 (jF ((List.range (i+1)).map (λj_=>(jL (x.getD j_ il) (iI (mi d) ((ko s.tape (b++s.params) p).getD j_ il) p) p))))))])) aG)
  (λhi=>by
    exact iM (ae [tF 43 ((x.length:Int)<x.length) aD,.z 14]<|.e (af [.o 14 (.e (wV aJ):aj (.sl true x.length 7 (jF ((List.range x.length).map (λj_=>(jL (x.getD j_ il) (iI (mi d) ((ko s.tape (b++s.params) p).getD j_ il) p) p))))) (iz ((List.range x.length).map (λj_=>(jL (x.getD j_ il) (iI (mi d) ((ko s.tape (b++s.params) p).getD j_ il) p) p)))))])) aG) aK:jO 9 Tryz.f99 (Vq s x d b p 0) (.exit 0) ⟨66,true,[(14,.e (iz ((List.range x.length).map (λj_=>(jL (x.getD j_ il) (iI (mi d) ((ko s.tape (b++s.params) p).getD j_ il) p) p)))))],[]⟩) .nil]) 
def IV(s:kG)(x:List Iv)(d:Dy)(b:List Iv)(p:Nat)(h:mO s)(hx:kU s.jo x)(hd:d.iu)(h0:0<d.jh)(hb:kU s.jo b)(iD:8<=p)(iq:p<=512):ig 99 [lI s,iz x,im d,iz b,iP p] (iz (lF s x d b p)):=by
 unfold lF;cases hn:mY (ko s.tape (b++s.params) p)with
 |true=>rw[bn rfl];exact(afz s x d b p h hx hd h0 hb iD iq hn).kj (.nil _ _ _)
 |false=>
  rw[bl aF];cases ha:mY (xK x (ko s.tape (b++s.params) p) d p)with
  |true=>
   rw[bn rfl];unfold mY at ha;rw[dE,IX]at ha;obtain⟨i,hi,lS⟩:=ha;obtain⟨N,h1,h2,h3⟩:=sY (p:=λi=>((xK x (ko s.tape (b++s.params) p) d p).getD i il).all) ⟨i,cz.1 hi,lS⟩;refine(afA s x d b p h hx hd h0 hb iD iq hn N h1 (λi hi=>?_) ?_).kj (.nil _ _ _)
   .have:=h3 i hi;rw[IW (aD:i<x.length)]at this;exact this
   .rw [IW h1]at h2;exact h2
  |false=>
   rw[bl aF];refine afB s x d b p h hx hd h0 hb iD iq hn λi hi=>?_
   unfold mY at ha;rw[dP,IX]at ha;have:=ha i (cz.2 hi);rw[IW hi]at this;exact bh this
def afn(s:kG)(x:List Iv)(d:Dy)(b:List Iv)(p:Nat)(h:mO s)(hx:kU s.jo x)(hd:d.iu)(h0:0<d.jh)(hb:kU s.jo b)(iD:8<=p)(iq:p<=512)(hi:(lF s x d b p)=[]):ig 37 [lI s,iz x,im d,iz b,iP p] (bP false):=
 ak call37 func37 (af [.c (IV s x d b p h hx hd h0 hb iD iq),ai 20 (decide (0<((lF s x d b p).length:Int))) (by rw[hi];rfl)]) 
def yx{n:Nat}{b:List Iv}(h:kU n b)(h1:1<=n)(h4:n<=4):1<=b.length/\b.length<=4/\pX b:=⟨by rw[h.len];exact h1,by rw[h.len];exact h4,h.ok⟩
def afo(s:kG)(x:List Iv)(d:Dy)(b:List Iv)(p:Nat)(h:mO s)(hx:kU s.jo x)(hd:d.iu)(h0:0<d.jh)(hb:kU s.jo b)(iD:8<=p)(iq:p<=512)(hi:(lF s x d b p)≠[]):ig 37 [lI s,iz x,im d,iz b,iP p] (bP (uz x b&&uz (lF s x d b p) b)):=by
 have s1:=h.s1;have s4:=h.s4;obtain⟨x1,x4,xo⟩:=yx hx s1 s4;obtain⟨b1,b4,bo⟩:=yx hb s1 s4;have yP:=hx.len;have Bn:=hb.len;have CH:=Nc hx (aD:1<=p) (aD:p<=4096) hi;obtain⟨i1,i4,io⟩:=yx CH s1 s4;have hli:=CH.len;exact ak call37 func37 (ae [.c (IV s x d b p h hx hd h0 hb iD iq),tT 20 (0<((lF s x d b p).length:Int)) aD,.c (Q4 x b aD aD aD aE aE)]<|.w (uz x b=true)
  (λk1=>ae [tB 24 k1,.c (Q4 (lF s x d b p) b aD aD aD aE aE)]<|rQ (bP (uz (lF s x d b p) b)) (bP (uz x b&&uz (lF s x d b p) b)) (by simp[k1]))
  (λk1=>ae [tB 24 (bh k1)]<|rQ (bP false) (bP (uz x b&&uz (lF s x d b p) b)) (by simp[k1]))) 
def EM(s:kG)(x:List Iv)(d:Dy)(b:List Iv)(p:Nat)(h:mO s)(hx:kU s.jo x)(hd:d.iu)(h0:0<d.jh)(hb:kU s.jo b)(iD:8<=p)(iq:p<=512):ig 37 [lI s,iz x,im d,iz b,iP p] (bP (qK s x d b p)):=by
 unfold qK;by_cases hi:(lF s x d b p)=[]
 .have:=afn s x d b p h hx hd h0 hb iD iq hi;rwa[hi,show(!([]:List Iv).isEmpty&&(uz x b&&uz [] b))=false from rfl]
 .have:=afo s x d b p h hx hd h0 hb iD iq hi;have e:((lF s x d b p)).isEmpty=false:=by
   cases q:(lF s x d b p)with
   |nil=>exact absurd q hi
   |cons _ _=>rfl
  rwa[e,eU,gz]
def alS(k:Int)(h1:-100<=k)(h2:k<=100):ig 96 [im ⟨false,1,0⟩,iP k] (.iB [im (nh k),iP 0]):=by
 have:=QN ⟨false,1,0⟩ k Oe aD aD;have e:canon false 1 (0+k)=nh k:=by rw[Int.zero_add];exact KW k
 have e2:kY (canon false 1 (0+k))=nh k:=by rw[e];exact A7 (PB h1 h2)
 have e3:nk (canon false 1 (0+k))=0:=by rw[e];exact GW (PB h1 h2)
 change ig 96 [im ⟨false,1,0⟩,iP k] (.iB [im (kY (canon false 1 (0+k))),iP (nk (canon false 1 (0+k)))])at this;rwa[e2,e3]at this
def aeG(x:List Iv)(d:Dy):(zR x d==0)=qU x d:=by
 unfold zR;cases qU x d<;>rfl
def TD(x:List Iv)(k:Int)(x1:1<=x.length)(x8:x.length<=8)(hx:pX x)(k1:-100<=k)(k2:k<=100):ig 36 [iz x,iP k] (.iB [iz (rB x (nh k)),bP (qU x (nh k))]):=by
 have v:=Kd k1 k2;have sg:=PD k;exact ak call36 func36 (ae [ag [iP 1] (Cm _ aD),ag [im (jY 1),iP k] (alS _ aD aD),ai 16 ((0:Int) != 0) aF,ag [iz x,im (nh k)] (Q3 _ _ aD aD aE aE aE)]<|rR (.iB [iz (rB x (nh k)),bP (qU x (nh k))]) (.iB (.cons (.refl _) (.cons (.jb (by rw[aeG])) .nil)):E.le (.iB [iz (rB x (nh k)),bP ((zR x (nh k))==0)]) (.iB [iz (rB x (nh k)),bP (qU x (nh k))]))) 
def aah(s:kG)(x:List Iv)(d:Dy)(p:Nat)(h:mO s)(hx:kU s.jo x)(hd:d.iu)(h0:0<d.jh)(iD:8<=p)(iq:p<=512)(k:Int)(k1:-100<=k)(k2:k<=100)(hg:(qU x (nh k))=false):ig 35 [iP k,(.jC 1 λj_=>[iz x].getD j_ .any),(.jC 5 λj_=>[iP s.tape.iW,mw s.tape.ik,mu s.tape.iL,iP s.jo,iz s.params].getD j_ .any),(.jC 3 λj_=>[bP d.neg,iw (ij d.m),iP d.e].getD j_ .any),(.jC 1 λj_=>[iP p].getD j_ .any)] (.iB [iz (rB x (nh k)),bP false]):=by
 have s1:=h.s1;have s4:=h.s4;obtain⟨x1,x4,xo⟩:=yx hx s1 s4;exact ak call35 func35 (af [.c (TD x k aD aD xo aD aD),ai 15 (qU x (nh k)) hg]) 
def aai(s:kG)(x:List Iv)(d:Dy)(p:Nat)(h:mO s)(hx:kU s.jo x)(hd:d.iu)(h0:0<d.jh)(iD:8<=p)(iq:p<=512)(k:Int)(k1:-100<=k)(k2:k<=100)(hg:(qU x (nh k))=true):ig 35 [iP k,(.jC 1 λj_=>[iz x].getD j_ .any),(.jC 5 λj_=>[iP s.tape.iW,mw s.tape.ik,mu s.tape.iL,iP s.jo,iz s.params].getD j_ .any),(.jC 3 λj_=>[bP d.neg,iw (ij d.m),iP d.e].getD j_ .any),(.jC 1 λj_=>[iP p].getD j_ .any)] (.iB [iz (rB x (nh k)),bP (qK s x d (rB x (nh k)) p)]):=by
 have s1:=h.s1;have s4:=h.s4;obtain⟨x1,x4,xo⟩:=yx hx s1 s4;have hb:=LP hx (Kd k1 k2) (YN (PD k)) hg;exact ak call35 func35 (af [.c (TD x k aD aD xo aD aD),ah 15 (qU x (nh k)) hg,.c (EM s x d (rB x (nh k)) p h hx hd h0 hb iD iq)]) 
def DT(s:kG)(x:List Iv)(d:Dy)(p:Nat)(h:mO s)(hx:kU s.jo x)(hd:d.iu)(h0:0<d.jh)(iD:8<=p)(iq:p<=512)(k:Int)(k1:-100<=k)(k2:k<=100):ig 35 [iP k,(.jC 1 λj_=>[iz x].getD j_ .any),(.jC 5 λj_=>[iP s.tape.iW,mw s.tape.ik,mu s.tape.iL,iP s.jo,iz s.params].getD j_ .any),(.jC 3 λj_=>[bP d.neg,iw (ij d.m),iP d.e].getD j_ .any),(.jC 1 λj_=>[iP p].getD j_ .any)] (.iB [iz (rB x (nh k)),bP (rp s x d p k)]):=by
 unfold rp;cases hg:qU x (nh k)with
 |false=>exact aah s x d p h hx hd h0 iD iq k k1 k2 hg
 |true=>exact aai s x d p h hx hd h0 iD iq k k1 k2 hg
def akC(d:Dy)(hd:d.iu):ig 96 [im d,iP (-3)] (.iB [im (zn d),iP (Pg d)]):=QN d (-3) hd aF aF 
def TC{x:List Iv}{d:Dy}:zR x d=0↔qU x d=true:=by
 unfold zR;cases qU x d<;>simp
def amm(s:kG)(x:List Iv)(d:Dy)(b:List Iv)(p:Nat)(h:mO s)(hx:kU s.jo x)(hd:d.iu)(h0:0<d.jh)(hb:kU s.jo b)(iD:8<=p)(iq:p<=512)(hi:(lF s x d b p)=[]):ig 38 [lI s,iz x,im d,iz b,iP p] (.v (.slice none 0 0)):=
 ak call38 func38 (af [.c (IV s x d b p h hx hd h0 hb iD iq),ah 26 (((lF s x d b p).length:Int)==0) (by rw[hi];rfl)]) 
def Fi{l:List Iv}(h:l≠[]):((l.length:Int)==0)=false:=ou λq=>h (anp.1 q)
def amn(s:kG)(x:List Iv)(d:Dy)(b:List Iv)(p:Nat)(h:mO s)(hx:kU s.jo x)(hd:d.iu)(h0:0<d.jh)(hb:kU s.jo b)(iD:8<=p)(iq:p<=512)(hi:(lF s x d b p)≠[]):ig 38 [lI s,iz x,im d,iz b,iP p] (iz (lV s x d b p)):=by
 have s1:=h.s1;have s4:=h.s4;obtain⟨x1,x4,xo⟩:=yx hx s1 s4;obtain⟨b1,b4,bo⟩:=yx hb s1 s4;have yP:=hx.len;have Bn:=hb.len;have CH:=Nc hx (aD:1<=p) (aD:p<=4096) hi;obtain⟨i1,i4,io⟩:=yx CH s1 s4;have hli:=CH.len;have hho:=U2 hx CH;obtain⟨u1,u4,uo⟩:=yx hho s1 s4;have wv:=aml (mV x (lF s x d b p)) (aD:1<=p) (aD:p<=4096);have sv:=YE (rM (mV x (lF s x d b p)) p);have sn:=ait (YD (ZI (mV x (lF s x d b p)) p));exact ak call38 func38 (ae [.c (IV s x d b p h hx hd h0 hb iD iq),ai 26 (((lF s x d b p).length:Int)==0) (Fi hi),.c (aa9 x (lF s x d b p) aD aD aD aE aE),ag [iz (mV x (lF s x d b p)),iP p] (abc _ _ aD aD aE aD aD)]<|.w (Gm (mV x (lF s x d b p)) p=true)
  (λk1=>ae [tB 35 k1,ag [im (rM (mV x (lF s x d b p)) p)] (rW _ aE)]<|.w ((Dy.jh (rM (mV x (lF s x d b p)) p))=0)
   (λk2=>ae [tB 41 (bg k2)]<|rQ (iz (mV x (lF s x d b p))) (iz (lV s x d b p)) (by unfold lV;rw[bl hi];simp[k1,k2]))
   (λk2=>ae [tB 41 (bd k2),ag [im (rM (mV x (lF s x d b p)) p),iP (-3)] (akC _ aE)]<|.w ((Pg (rM (mV x (lF s x d b p)) p))=0)
    (λk3=>ae [tB 50 (bj k3),ag [iz (mV x (lF s x d b p)),im (zn (rM (mV x (lF s x d b p)) p))] (Q3 _ _ aD aD aE aE aE)]<|.w ((zR (mV x (lF s x d b p)) (zn (rM (mV x (lF s x d b p)) p)))=0)
     (λk4=>ae [tB 59 (bg k4)]<|rQ (iz (rB (mV x (lF s x d b p)) (zn (rM (mV x (lF s x d b p)) p)))) (iz (lV s x d b p)) (by unfold lV;rw[bl hi];simp[k1,k2,k3,TC.1 k4]))
     (λk4=>ae [tB 59 (bd k4)]<|rQ (iz (mV x (lF s x d b p))) (iz (lV s x d b p)) (by unfold lV;rw[bl hi];simp[k1,k2,k3,show ¬qU _ _=true from λq=>k4 (TC.2 q)])))
    (λk3=>ae [tB 50 (bk k3)]<|rQ (iz (mV x (lF s x d b p))) (iz (lV s x d b p)) (by unfold lV;rw[bl hi];simp[k1,k2,k3]))))
  (λk1=>ae [tB 35 (bh k1)]<|rQ (iz (mV x (lF s x d b p))) (iz (lV s x d b p)) (by unfold lV;rw[bl hi];simp[k1]))) 
def Gn(s:kG)(x:List Iv)(d:Dy)(b:List Iv)(p:Nat)(h:mO s)(hx:kU s.jo x)(hd:d.iu)(h0:0<d.jh)(hb:kU s.jo b)(iD:8<=p)(iq:p<=512):ig 38 [lI s,iz x,im d,iz b,iP p] (iz (lV s x d b p)):=by
 by_cases hi:(lF s x d b p)=[]
 .have:=amm s x d b p h hx hd h0 hb iD iq hi;unfold lV;rw[bn hi];exact this.kj (.nil _ _ _)
 .exact amn s x d b p h hx hd h0 hb iD iq hi
def ac6(s:kG)(x:List Iv)(d:Dy)(p:Nat)(h:mO s)(hx:kU s.jo x)(hd:d.iu)(h0:0<d.jh)(iD:8<=p)(iq:p<=512)(N:Nat)(oN:N<24)(jk:∀ k:Nat,k<N->rp s x d p ((k:Int)-20)=false)(hN:rp s x d p ((N:Int)-20)=true):ig 10 [lI s,iz x,im d,iP p] (.iB [iz (rB x (nh ((N:Int)-20))),iP 0]):=
 ak call10 func10 (af [.c (Bg s x d p h hx hd h0 iD iq),.s (Sp.jP (Su s x d p N) 0 N aD (λk hk qI=>by
    exact iM (af [tT 23 ((k:Int)<24) aD,iC ((k:Int)-20) aD,ag [iP ((k:Int)-20),(.jC 1 λj_=>[iz x].getD j_ .any),(.jC 5 λj_=>[iP s.tape.iW,mw s.tape.ik,mu s.tape.iL,iP s.jo,iz s.params].getD j_ .any),(.jC 3 λj_=>[bP d.neg,iw (ij d.m),iP d.e].getD j_ .any),(.jC 1 λj_=>[iP p].getD j_ .any)] (DT _ _ _ _ h hx hd h0 iD iq _ aD aD),ai 31 (rp s x d p ((k:Int)-20)) (jk k aD),iC ((k:Int)+1) aD]) aG)
  (λhk=>by
    exact iM (af [tT 23 ((N:Int)<24) aD,iC ((N:Int)-20) aD,ag [iP ((N:Int)-20),(.jC 1 λj_=>[iz x].getD j_ .any),(.jC 5 λj_=>[iP s.tape.iW,mw s.tape.ik,mu s.tape.iL,iP s.jo,iz s.params].getD j_ .any),(.jC 3 λj_=>[bP d.neg,iw (ij d.m),iP d.e].getD j_ .any),(.jC 1 λj_=>[iP p].getD j_ .any)] (DT _ _ _ _ h hx hd h0 iD iq _ aD aD),ah 31 (rp s x d p ((N:Int)-20)) hN]) aG) aK:jO 5 Tryz.f10 (Su s x d p N 0) .ret ⟨55,true,[(9,.e (iP 0)),(8,.e (iz (rB x (nh ((N:Int)-20)))))],[]⟩) .nil]) 
def ac8(s:kG)(x:List Iv)(d:Dy)(p:Nat)(h:mO s)(hx:kU s.jo x)(hd:d.iu)(h0:0<d.jh)(iD:8<=p)(iq:p<=512)(jk:∀ k:Nat,k<24->rp s x d p ((k:Int)-20)=false)(N:Nat)(oN:N<10)(tv:∀ j,j<=N->kU s.jo (lJ s x d p j))(hw:∀ j,j<N->lV s x d (lJ s x d p j) p≠[]/\qK s x d (lV s x d (lJ s x d p j) p) p=false)(hN:lV s x d (lJ s x d p N) p=[]):ig 10 [lI s,iz x,im d,iP p] (.iB [.v (.slice none 0 0),iP 12]):=
 ak call10 func10 (af [.c (Bg s x d p h hx hd h0 iD iq),.s (Sp.jP (Sv s x d p) 0 24 aD (λk hk qI=>by
    exact iM (af [tT 23 ((k:Int)<24) aD,iC ((k:Int)-20) aD,ag [iP ((k:Int)-20),(.jC 1 λj_=>[iz x].getD j_ .any),(.jC 5 λj_=>[iP s.tape.iW,mw s.tape.ik,mu s.tape.iL,iP s.jo,iz s.params].getD j_ .any),(.jC 3 λj_=>[bP d.neg,iw (ij d.m),iP d.e].getD j_ .any),(.jC 1 λj_=>[iP p].getD j_ .any)] (DT _ _ _ _ h hx hd h0 iD iq _ aD aD),ai 31 (rp s x d p ((k:Int)-20)) (jk k aD),iC ((k:Int)+1) aD]) aG)
  (λhk=>by
    exact iM (af [ai 23 (decide ((24:Int)<24)) aF]) aG) aK:jO 5 Tryz.f10 (Sv s x d p 0) (.exit 0) ⟨55,true,[(7,.box 7 0),(6,.box 6 0),(5,.box 5 0),(4,.box 4 0)],[(7,.cells 3 [iP p]),(6,.cells 28 (jc d)),(5,.cells 35 [iz x]),(4,.cells 41 [iP s.tape.iW,mw s.tape.ik,mu s.tape.iL,iP s.jo,iz s.params])]⟩) .nil,.s (Sp.jP (Sy s x d p N) 0 N aD (λj hj UH=>by
    have r6:=tv j aD;obtain⟨kq,EK⟩:=hw j aD;have lS:=Cc hx (aD:1<=p) (aD:p<=4096) kq;exact iM (ae [tT 37 ((j:Int)<10) aD,.c (Gn s x d (lJ s x d p j) p h hx hd h0 r6 iD iq),ai 46 (((lV s x d (lJ s x d p j) p).length:Int)==0) (Fi kq),.c (EM s x d (lV s x d (lJ s x d p j) p) p h hx hd h0 lS iD iq),ai 52 (qK s x d (lV s x d (lJ s x d p j) p) p) EK,iC ((j:Int)+1) aD]<|.e (af [.o 14 (.e (.jb rfl):aj (iz (lV s x d (lJ s x d p j) p)) (iz (lJ s x d p (j+1))))])) aG)
  (λhj=>by
    have r6:=tv N (bp _);exact iM (af [tT 37 ((N:Int)<10) aD,.c (Gn s x d (lJ s x d p N) p h hx hd h0 r6 iD iq),ah 46 (((lV s x d (lJ s x d p N) p).length:Int)==0) (by rw[hN];rfl)]) aG) aK:jO 13 Tryz.f10 (Sy s x d p N 0) (.exit 2) ⟨55,true,[],[]⟩) (af [.o 14 (.e (.jb rfl):aj (iz x) (iz (lJ s x d p 0)))])]) 
def ac4(s:kG)(x:List Iv)(d:Dy)(p:Nat)(h:mO s)(hx:kU s.jo x)(hd:d.iu)(h0:0<d.jh)(iD:8<=p)(iq:p<=512)(jk:∀ k:Nat,k<24->rp s x d p ((k:Int)-20)=false)(tv:∀ j,j<=10->kU s.jo (lJ s x d p j))(hw:∀ j,j<10->lV s x d (lJ s x d p j) p≠[]/\qK s x d (lV s x d (lJ s x d p j) p) p=false):ig 10 [lI s,iz x,im d,iP p] (.iB [.v (.slice none 0 0),iP 12]):=
 ak call10 func10 (af [.c (Bg s x d p h hx hd h0 iD iq),.s (Sp.jP (Sw s x d p) 0 24 aD (λk hk qI=>by
    exact iM (af [tT 23 ((k:Int)<24) aD,iC ((k:Int)-20) aD,ag [iP ((k:Int)-20),(.jC 1 λj_=>[iz x].getD j_ .any),(.jC 5 λj_=>[iP s.tape.iW,mw s.tape.ik,mu s.tape.iL,iP s.jo,iz s.params].getD j_ .any),(.jC 3 λj_=>[bP d.neg,iw (ij d.m),iP d.e].getD j_ .any),(.jC 1 λj_=>[iP p].getD j_ .any)] (DT _ _ _ _ h hx hd h0 iD iq _ aD aD),ai 31 (rp s x d p ((k:Int)-20)) (jk k aD),iC ((k:Int)+1) aD]) aG)
  (λhk=>by
    exact iM (af [ai 23 (decide ((24:Int)<24)) aF]) aG) aK:jO 5 Tryz.f10 (Sw s x d p 0) (.exit 0) ⟨55,true,[(7,.box 7 0),(6,.box 6 0),(5,.box 5 0),(4,.box 4 0)],[(7,.cells 3 [iP p]),(6,.cells 28 (jc d)),(5,.cells 35 [iz x]),(4,.cells 41 [iP s.tape.iW,mw s.tape.ik,mu s.tape.iL,iP s.jo,iz s.params])]⟩) .nil,.s (Sp.jP (Sz s x d p) 0 10 aD (λj hj UH=>by
    have r6:=tv j aD;obtain⟨kq,EK⟩:=hw j aD;have lS:=Cc hx (aD:1<=p) (aD:p<=4096) kq;exact iM (ae [tT 37 ((j:Int)<10) aD,.c (Gn s x d (lJ s x d p j) p h hx hd h0 r6 iD iq),ai 46 (((lV s x d (lJ s x d p j) p).length:Int)==0) (Fi kq),.c (EM s x d (lV s x d (lJ s x d p j) p) p h hx hd h0 lS iD iq),ai 52 (qK s x d (lV s x d (lJ s x d p j) p) p) EK,iC ((j:Int)+1) aD]<|.e (af [.o 14 (.e (.jb rfl):aj (iz (lV s x d (lJ s x d p j) p)) (iz (lJ s x d p (j+1))))])) aG)
  (λhj=>by
    exact iM (af [ai 37 (decide ((10:Int)<10)) aF]) aG) aK:jO 13 Tryz.f10 (Sz s x d p 0) (.exit 2) ⟨55,true,[],[]⟩) (af [.o 14 (.e (.jb rfl):aj (iz x) (iz (lJ s x d p 0)))])]) 
def Sx(s:kG)(x:List Iv)(d:Dy)(p:Nat)(k:Nat):PS:=⟨55,true,[(22,.e (iP k)),(10,.rU 35 [.box 5,.box 4,.box 6,.box 7]),(7,.box 7 0),(6,.box 6 0),(5,.box 5 0),(4,.box 4 0)],[(7,.cells 3 [iP p]),(6,.cells 28 (jc d)),(5,.cells 35 [iz x]),(4,.cells 41 [iP s.tape.iW,mw s.tape.ik,mu s.tape.iL,iP s.jo,iz s.params])]⟩
noncomputable def SA(s:kG)(x:List Iv)(d:Dy)(p:Nat)(N:Nat)(j:Nat):PS:=⟨55,true,[(36,.e (iP j)),(14,.e (iz (lJ s x d p j))),(7,.box 7 0),(6,.box 6 0),(5,.box 5 0),(4,.box 4 0)],[(7,.cells 3 [iP p]),(6,.cells 28 (jc d)),(5,.cells 35 [iz x]),(4,.cells 41 [iP s.tape.iW,mw s.tape.ik,mu s.tape.iL,iP s.jo,iz s.params])]⟩
def ac7(s:kG)(x:List Iv)(d:Dy)(p:Nat)(h:mO s)(hx:kU s.jo x)(hd:d.iu)(h0:0<d.jh)(iD:8<=p)(iq:p<=512)(jk:∀ k:Nat,k<24->rp s x d p ((k:Int)-20)=false)(N:Nat)(oN:N<10)(tv:∀ j,j<=N->kU s.jo (lJ s x d p j))(hw:∀ j,j<N->lV s x d (lJ s x d p j) p≠[]/\qK s x d (lV s x d (lJ s x d p j) p) p=false)(kq:lV s x d (lJ s x d p N) p≠[])(hN:qK s x d (lV s x d (lJ s x d p N) p) p=true):ig 10 [lI s,iz x,im d,iP p] (.iB [iz (lV s x d (lJ s x d p N) p),iP 0]):=by
 have hbN:=tv N (bp _);have lS:=Cc hx (aD:1<=p) (aD:p<=4096) kq;exact ak call10 func10 (af [.c (Bg s x d p h hx hd h0 iD iq),.s (Sp.jP (Sx s x d p) 0 24 aD (λk hk qI=>by
    exact iM (af [tT 23 ((k:Int)<24) aD,iC ((k:Int)-20) aD,ag [iP ((k:Int)-20),(.jC 1 λj_=>[iz x].getD j_ .any),(.jC 5 λj_=>[iP s.tape.iW,mw s.tape.ik,mu s.tape.iL,iP s.jo,iz s.params].getD j_ .any),(.jC 3 λj_=>[bP d.neg,iw (ij d.m),iP d.e].getD j_ .any),(.jC 1 λj_=>[iP p].getD j_ .any)] (DT _ _ _ _ h hx hd h0 iD iq _ aD aD),ai 31 (rp s x d p ((k:Int)-20)) (jk k aD),iC ((k:Int)+1) aD]) aG)
  (λhk=>by
    exact iM (af [ai 23 (decide ((24:Int)<24)) aF]) aG) aK:jO 5 Tryz.f10 (Sx s x d p 0) (.exit 0) ⟨55,true,[(7,.box 7 0),(6,.box 6 0),(5,.box 5 0),(4,.box 4 0)],[(7,.cells 3 [iP p]),(6,.cells 28 (jc d)),(5,.cells 35 [iz x]),(4,.cells 41 [iP s.tape.iW,mw s.tape.ik,mu s.tape.iL,iP s.jo,iz s.params])]⟩) .nil,.s (Sp.jP (SA s x d p N) 0 N aD (λj hj UH=>by
    have r6:=tv j aD;obtain⟨kq,EK⟩:=hw j aD;have lS:=Cc hx (aD:1<=p) (aD:p<=4096) kq;exact iM (ae [tT 37 ((j:Int)<10) aD,.c (Gn s x d (lJ s x d p j) p h hx hd h0 r6 iD iq),ai 46 (((lV s x d (lJ s x d p j) p).length:Int)==0) (Fi kq),.c (EM s x d (lV s x d (lJ s x d p j) p) p h hx hd h0 lS iD iq),ai 52 (qK s x d (lV s x d (lJ s x d p j) p) p) EK,iC ((j:Int)+1) aD]<|.e (af [.o 14 (.e (.jb rfl):aj (iz (lV s x d (lJ s x d p j) p)) (iz (lJ s x d p (j+1))))])) aG)
  (λhj=>by
    have r6:=tv N (bp _);have lS:=Cc hx (aD:1<=p) (aD:p<=4096) kq;exact iM (af [tT 37 ((N:Int)<10) aD,.c (Gn s x d (lJ s x d p N) p h hx hd h0 r6 iD iq),ai 46 (((lV s x d (lJ s x d p N) p).length:Int)==0) (Fi kq),.c (EM s x d (lV s x d (lJ s x d p N) p) p h hx hd h0 lS iD iq),ah 52 (qK s x d (lV s x d (lJ s x d p N) p) p) hN]) aG) aK:jO 13 Tryz.f10 (SA s x d p N 0) .ret ⟨55,true,[(9,.e (iP 0)),(8,.e (iz (lV s x d (lJ s x d p N) p)))],[]⟩) (af [.o 14 (.e (.jb rfl):aj (iz x) (iz (lJ s x d p 0)))])]) 
def ac3:Option (List Iv)->E
 |some b=>.iB [iz b,iP 0]
 |none=>.iB [.v (.slice none 0 0),iP 12]
def ac5(s:kG)(x:List Iv)(d:Dy)(p:Nat)(h:mO s)(hx:kU s.jo x)(hd:d.iu)(h0:0<d.jh)(iD:8<=p)(iq:p<=512):∃ o,ig 10 [lI s,iz x,im d,iP p] (ac3 o)/\(∀ b,o=some b->kU s.jo b/\qK s x d b p=true)/\(o=none->∀ k:Nat,k<24->rp s x d p ((k:Int)-20)=false):=by
 have p1:1<=p:= aD ;have p2:p<=4096:= aD ;by_cases ha:∃ N:Nat,N<24/\rp s x d p ((N:Int)-20)=true
 .obtain ⟨N,n1,n2,n3⟩:=sY (p:=λN=>rp s x d p ((N:Int)-20)) ha;refine⟨some _,ac6 s x d p h hx hd h0 iD iq N n1 (λk hk=>n3 k hk) n2,λb hb=>?_,λq=>by cases q⟩;cases hb;have n4:=n2;unfold rp at n4;rw[bY]at n4;exact⟨LP hx (Kd (k:=(N:Int)-20) aD aD) (YN (PD _)) n4.1,n4.2⟩
 .have jk:∀ k:Nat,k<24->rp s x d p ((k:Int)-20)=false:=λk hk=>by
   cases hc:rp s x d p ((k:Int)-20)with
   |false=>rfl
   |true=>exact absurd ⟨k,hk,hc⟩ ha
  have tv:∀ N,(∀ j,j<N->lV s x d (lJ s x d p j) p≠[])->∀ j,j<=N->kU s.jo (lJ s x d p j):=λN kq j hj=>by
   rcases j with _|j
   .exact hx
   .exact Cc hx p1 p2 (kq j aD)
  by_cases rY:∃ N:Nat,N<10/\decide (lV s x d (lJ s x d p N) p=[]\/qK s x d (lV s x d (lJ s x d p N) p) p=true)=true
  .obtain ⟨N,n1,n2,n3⟩:=sY rY;have hw:∀ j,j<N->lV s x d (lJ s x d p j) p≠[]/\qK s x d (lV s x d (lJ s x d p j) p) p=false:=λj hj=>by
    have:=anz (n3 j hj);exact⟨λq=>this (.inl q),bh λq=>this (.inr q)⟩
   have hb:=tv N λj hj=>(hw j hj).1
   by_cases he:lV s x d (lJ s x d p N) p=[]
   .exact ⟨none,ac8 s x d p h hx hd h0 iD iq jk N n1 hb hw he,(λb q=>by cases q),λ_=>jk⟩
   .have hN:=(dK n2).resolve_left he;refine⟨some _,ac7 s x d p h hx hd h0 iD iq jk N n1 hb hw he hN,λb q=>?_,λq=>by cases q⟩;cases q;exact⟨Cc hx p1 p2 he,hN⟩
  .have hw:∀ j,j<10->lV s x d (lJ s x d p j) p≠[]/\qK s x d (lV s x d (lJ s x d p j) p) p=false:=λj hj=>
    ⟨λq=>rY ⟨j,hj,bq (.inl q)⟩,bh λq=>rY ⟨j,hj,bq (.inr q)⟩⟩
   exact⟨none,ac4 s x d p h hx hd h0 iD iq jk (tv 10 λj hj=>(hw j hj).1) hw,(λb q=>by cases q),λ_=>jk⟩
def iT(f:Nat->Rat):Nat->Rat
 | 0=>0
 |n+1=>iT f n+f n
def pJ{f g:Nat->Rat}:∀ n,(∀ i,i<n->f i=g i)->iT f n=iT g n
 | 0,_=>rfl
 |n+1,h=>by rw[iT,iT,pJ n (λi hi=>h i aD),h n aD]
def AN{f g:Nat->Rat}:∀ n,(∀ i,i<n->f i<=g i)->iT f n<=iT g n
 | 0,_=>bS
 |n+1,h=>by
  have h1:=AN n (λi hi=>h i aD);have h2:=h n aD;rw[iT,iT];grind
def B3{f:Nat->Rat}(n:Nat)(h:∀ i,i<n->0<=f i):0<=iT f n:=by
 induction n with
 |zero=>exact bS
 |succ n ih=>
  have h1:=ih (λi hi=>h i aD);have h2:=h n aD;rw[iT];grind
def zt(f:Nat->Rat)(c:Rat):∀ n,iT (λi=>c*f i) n=c*iT f n
 | 0=>by simp[iT]
 |n+1=>by rw[iT,iT,zt f c n];grind
def Dz(f:Nat->Rat)(c:Rat):∀ n,iT (λi=>f i*c) n=iT f n*c
 | 0=>by simp[iT]
 |n+1=>by rw[iT,iT,Dz f c n];grind
def Gb(f g:Nat->Rat):∀ n,iT (λi=>f i+g i) n=iT f n+iT g n
 | 0=>by simp only[iT];grind
 |n+1=>by rw[iT,iT,iT,Gb f g n];grind
def Gc(f:Nat->Nat->Rat)(m:Nat):∀ n,iT (λi=>iT (λj=>f i j) m) n=iT (λj=>iT (λi=>f i j) n) m
 | 0=>by
  have:∀ m,iT (λ_=>(0:Rat)) m=0:=by
   intro m
   induction m with
   |zero=>rfl
   |succ m ih=>rw[iT,ih];grind
  exact(this m).symm
 |n+1=>by
  rw[iT,Gc f m n,<-Gb];rfl
def Y9(f:Nat->Rat):∀ n,iT f (n+1)=f 0+iT (λi=>f (i+1)) n
 | 0=>by simp only[iT];grind
 |n+1=>by rw[iT,Y9 f n,iT];grind
def jz(x:Rat):Rat:=if 0<=x then x else -x
def mK(x:Rat):0<=jz x/\x<=jz x /\ -x<=jz x/\(jz x=x/\0<=x\/jz x = -x/\x<=0):=by unfold jz;split<;>grind
def yu{x b:Rat}(h1:x<=b)(h2:-x<=b):jz x<=b:=by unfold jz;split<;>grind
def Qe(x y:Rat):jz (x+y)<=jz x+jz y:=by
 obtain⟨a1,a2,a3,_⟩:=mK x;obtain⟨b1,b2,b3,_⟩:=mK y;exact yu aO aO 
def xt(x y:Rat):jz (x*y)=jz x*jz y:=by
 obtain⟨_,_,_,a⟩:=mK x;obtain⟨_,_,_,b⟩:=mK y;obtain⟨c1,_,_,c⟩:=mK (x*y);rcases a with⟨e1,h1⟩|⟨e1,h1⟩<;>rcases b with⟨e2,h2⟩|⟨e2,h2⟩<;>rw[e1,e2]
 .have:=bL h1 h2;grind
 .have:=bL h1 (show 0 <= -y by grind);grind
 .have:=bL (show 0 <= -x by grind) h2;grind
 .have:=bL (show 0 <= -x by grind) (show 0 <= -y by grind);grind
def Ch(f:Nat->Rat):∀ n,jz (iT f n)<=iT (λi=>jz (f i)) n
 | 0=>by simp[iT,jz]
 |n+1=>by
  have h1:=Ch f n;have h2:=Qe (iT f n) (f n);rw[iT,iT];grind
def Qf:jz 0=0:=rfl
abbrev QM:=Nat->Nat->Rat
def pG(n:Nat)(A B:QM):QM:=λi j=>iT (λq=>A i q*B q j) n
def vS:QM:=λi j=>if i=j then 1 else 0
def TQ(n:Nat)(M:QM)(t:Rat):Nat->QM
 | 0=>vS
 |j+1=>λi l=>t/((j+1:Nat):Rat)*pG n (TQ n M t j) M i l
def SQ(n:Nat)(M:QM)(t:Rat):Nat->QM
 | 0=>vS
 |j+1=>λi l=>SQ n M t j i l+TQ n M t (j+1) i l
def rO(n k:Nat)(X:List (List Iv))(A:QM):Prop:=∀ i j,i<n->j<k->(pe X i j).jB (A i j)
def R2{X Y:Nat->Iv}{f g:Nat->Rat}{p:Nat}(hp:1<=p)(iq:p<=4096)(hX:∀ q,(X q).iu)(hY:∀ q,(Y q).iu):∀ k,(∀ q,q<=k->(X q).jB (f q))->(∀ q,q<=k->(Y q).jB (g q)) ->
 (oB X Y p k).jB (iT (λq=>f q*g q) (k+1))
 | 0,h1,h2=>by
  have:=sZ (hX 0) (hY 0) hp iq (h1 0 (bp _)) (h2 0 (bp _));rw[show iT (λq=>f q*g q) (0+1)=f 0*g 0 by simp only[iT];grind];exact this
 |k+1,h1,h2=>zF (Ea X Y hp iq k) (lX _ _ hp iq) hp iq (R2 hp iq hX hY k (λq hq=>h1 q aD) (λq hq=>h2 q aD))
  (sZ (hX _) (hY _) hp iq (h1 _ (bp _)) (h2 _ (bp _)))
def ag2{a b:List (List Iv)}{A B:QM}{n k c p:Nat}(ga:ke a n k)(gb:ke b k c)(hp:1<=p)(iq:p<=4096)(h1:rO n k a A)(h2:rO k c b B):rO n c (re a b p) (pG k A B):=by
 intro i j hi hj;have k1:=ga.k1;rw[Lt ga gb hi hj];have:=R2 (f:=λq=>A i q) (g:=λq=>B q j) hp iq (sV ga i) (λq=>sV gb q j) (k-1) (λq hq=>h1 i q hi aD) (λq hq=>h2 q j aD hj);rwa[(aD:k-1+1=k)]at this
def akA{a:List (List Iv)}{x:Iv}{A:QM}{t:Rat}{n k p:Nat}(ga:ke a n k)(hx:x.iu)(hp:1<=p)(iq:p<=4096)(h1:rO n k a A)(h2:x.jB t):rO n k (s8 a x p) (λi j=>t*A i j):=by
 intro i j hi hj;rw[Lu ga hi hj];exact sZ hx (sV ga i j) hp iq h2 (h1 i j hi hj)
def Z2{a b:List (List Iv)}{A B:QM}{n k p:Nat}(ga:ke a n k)(gb:ke b n k)(hp:1<=p)(iq:p<=4096)(h1:rO n k a A)(h2:rO n k b B):rO n k (yv a b p) (λi j=>A i j+B i j):=by
 intro i j hi hj;rw[acW ga gb hi hj];exact zF (sV ga i j) (sV gb i j) hp iq (h1 i j hi hj) (h2 i j hi hj)
def ahV:(⟨false,1,0⟩:Dy).q=1:=by rw[pU];simp[DM]
def Vn(n:Nat):rO n n (xJ n) vS:=by
 intro i j hi hj;rw[acX hi hj];unfold vS;split
 .have:=Dg ⟨false,1,0⟩;rwa[ahV]at this
 .have:=Dg iQ;rwa[qy]at this
def Jl(j:Nat):(iN (j:Int)).jB ((j:Nat):Rat):=by have:=tI (j:Int);rwa[dw]at this
section
variable {m:List (List Iv)} {h:Iv} {M:QM} {t:Rat} {n p:Nat}
def Zl(ga:ke m n n)(hh:h.iu)(hp:1<=p)(iq:p<=4096)(h1:rO n n m M)(h2:h.jB t):∀ j,j<4294967296->rO n n (rI m h p j) (TQ n M t j)
 | 0,_=>by unfold rI;rw[ga.jm];exact Vn n
 |j+1,hj=>akA (C7 (xj ga hp iq j) ga hp iq) (pd _ _ hp iq) hp iq (ag2 (xj ga hp iq j) ga hp iq (Zl ga hh hp iq h1 h2 j aD) h1) (Ct hh (rf (j+1) hj) hp iq h2 (Jl (j+1)))
def Y7(ga:ke m n n)(hh:h.iu)(hp:1<=p)(iq:p<=4096)(h1:rO n n m M)(h2:h.jB t):∀ j,j<4294967296->rO n n (j9 m h p j) (SQ n M t j)
 | 0,_=>by unfold j9;rw[ga.jm];exact Vn n
 |j+1,hj=>Z2 (AM ga hp iq j) (xj ga hp iq (j+1)) hp iq (Y7 ga hh hp iq h1 h2 j aD) (Zl ga hh hp iq h1 h2 (j+1) hj)
def wb(n:Nat)(A:QM)(b:Rat):Prop:=∀ i,i<n->iT (λl=>jz (A i l)) n<=b
def Yp{A B:QM}{a b:Rat}(_h0:0<=a)(hb:0<=b)(h1:wb n A a)(h2:wb n B b):wb n (pG n A B) (a*b):=by
 intro i hi;have e1:iT (λl=>jz (pG n A B i l)) n<=iT (λl=>iT (λq=>jz (A i q)*jz (B q l)) n) n:=
  AN n λl _=>by
   have:=Ch (λq=>A i q*B q l) n;rw[show(λq=>jz (A i q*B q l))=λq=>jz (A i q)*jz (B q l)from funext λq=>xt _ _]at this;exact this
 rw[Gc]at e1;have e2:iT (λq=>iT (λl=>jz (A i q)*jz (B q l)) n) n<=iT (λq=>jz (A i q)*b) n:=
  AN n λq hq=>by
   rw[zt];exact dc (h2 q hq) (mK _).1
 rw[Dz]at e2;exact bX e1 (bX e2 (cI (h1 i hi) hb))
def eQ(c:Rat):Nat->Rat
 | 0=>1
 |j+1=>eQ c j*(c/((j+1:Nat):Rat))
def BJ(j:Nat):(0:Rat)<((j+1:Nat):Rat):=cV.2 aD 
def Lf{a b:Rat}(h1:0<=a)(h2:0<b):0<=a/b:=by
 rw[cF];exact bL h1 (bH (dM.2 h2))
def qS{c:Rat}(h:0<=c):∀ j,0<=eQ c j
 | 0=>by simp only[eQ];decide
 |j+1=>bL (qS h j) (Lf h (BJ j))
def Y8(n i:Nat):iT (λl=>jz (vS i l)) n<=1/\(n<=i->iT (λl=>jz (vS i l)) n=0):=by
 induction n with
 |zero=>exact⟨by simp only[iT];grind,λ_=>rfl⟩
 |succ n ih=>
  have e1:jz 1=1:= aF ;simp only[iT,vS]at ih ⊢;by_cases h:i=n
  .have:=ih.2 aD ;rw[this,bn h,e1];exact⟨aO,λh'=>absurd h' aD⟩
  .rw [bl h,Qf,Rat.add_zero];exact⟨ih.1,λh'=>ih.2 aD⟩
def Qc{N:Rat}(hN:0<=N)(h1:wb n M N):∀ j,wb n (TQ n M t j) (eQ (jz t*N) j)
 | 0=>λi _=>(Y8 n i).1
 |j+1=>by
  have hc:0<=jz t*N:=bL (mK t).1 hN;intro i hi;have h:=Yp (qS hc j) hN (Qc hN h1 j) h1 i hi;have e:(λl=>jz (TQ n M t (j+1) i l))=λl=>jz (t/((j+1:Nat):Rat))*jz (pG n (TQ n M t j) M i l):=funext λl=>xt _ _
  rw[e,zt];have ht:jz (t/((j+1:Nat):Rat))=jz t/((j+1:Nat):Rat):=by
   rw[cF,cF,xt];congr 1;have:=dM.2 (BJ j);unfold jz;rw[bn (bH this)]
  rw[ht];have h3:=dc h (Lf (mK t).1 (BJ j));refine bX h3 ?_;have:jz t/((j+1:Nat):Rat)*(eQ (jz t*N) j*N)=eQ (jz t*N) (j+1):=by
   simp only[eQ,cF];grind
  rw[this];exact bS
def Yn{A:QM}{b:Rat}(h:wb n A b){i l:Nat}(hi:i<n)(hl:l<n):jz (A i l)<=b:=by
 have h1:=h i hi;have:∀ m,l<m->jz (A i l)<=iT (λl=>jz (A i l)) m:=by
  intro m hm
  induction m with
  |zero=>omega
  |succ m ih=>
   rw[iT];have h0:=B3 m (f:=λl=>jz (A i l)) λi _=>(mK _).1
   have h2:=(mK (A i m)).1;by_cases hq:l=m
   .subst hq;grind
   .have:=ih aD;grind
 exact bX (this n hl) h1
def Zf{c r:Rat}{k:Nat}(hc:0<=c)(hr:r=c/((k+2:Nat):Rat))(Bt:r<=1):∀ d,(1-r)*iT (λs=>eQ c (k+1+s)) (d+1)+r*eQ c (k+1+d)<=eQ c (k+1)
 | 0=>by simp only[iT,bK];grind
 |d+1=>by
  have ih:=Zf hc hr Bt d;have h0:=qS hc (k+1+d);have hq:c/((k+1+d+1:Nat):Rat)<=r:=by
   rw[hr,cF,cF];exact dc (E8 (cV.2 aD) (dX.2 aD)) hc
  have hs:eQ c (k+1+(d+1))<=r*eQ c (k+1+d):=by
   show eQ c (k+1+d)*(c/((k+1+d+1:Nat):Rat))<=_;rw[fp r];exact dc hq h0
  rw[iT];generalize iT (λs=>eQ c (k+1+s)) (d+1)=S at *
  generalize eQ c (k+1+(d+1))=a' at *
  generalize eQ c (k+1+d)=a at *
  have:(1-r)*(S+a')+r*a'=(1-r)*S+a':= aO 
  grind
def P6(M:QM)(t:Rat)(k:Nat)(i l:Nat):∀ d,SQ n M t (k+d) i l=SQ n M t k i l+iT (λs=>TQ n M t (k+1+s) i l) d
 | 0=>by simp only[iT,bK];grind
 |d+1=>by
  show SQ n M t (k+d) i l+TQ n M t (k+d+1) i l=_;rw[P6 M t k i l d,iT,(aD:k+d+1=k+1+d)]
  grind
def WV{r:List Iv}{f:Nat->Rat}(hp:1<=p)(iq:p<=4096)(v:∀ i,(r.getD i il).iu):∀ k,(∀ i,i<k->(r.getD i il).jB (f i))->(∀ i,i<k->oJ r p i)->iT (λi=>jz (f i)) k<=(kE r p k).q
 | 0,_,_=>by rw[show kE r p 0=iQ from rfl,qy];exact bS
 |k+1,hs,hg=>by
  have ih:=WV hp iq v k (λi hi=>hs i aD) (λi hi=>hg i aD);obtain⟨g1,g2⟩:=hg k aD;have mv:∀ {x:Iv},x.iu->(kO x).lh:=λh=>Wl (GC h.xv.1) (GC h.xv.2)
  have A:=BW (wq (sm r hp iq k).canon (mv (v k))) hp iq;rw[FV]at A;obtain⟨a1,a2⟩:=A.1 g2;obtain⟨h1,h2⟩:=(hs k aD).kn g1;obtain⟨m1,m2,_⟩:=C4 (v k).q;have:jz (f k)<=(kO (r.getD k il)).q:=yu aO aO;rw[iT];have:kE r p (k+1)=jG (iJ (kE r p k) (kO (r.getD k il))) p true:=rfl;rw[this];grind
def ahI(ga:ke m n n)(hp:1<=p)(iq:p<=4096)(h1:rO n n m M){N:Dy}(hN:s5 m p=some N):wb n M N.q/\0<=N.q/\N.iu/\N.neg=false:=by
 have yD:∀ i,i<n->∀ j,j<n->oJ (m.getD i []) p j:=by
  intro i hi j hj;apply b9;intro hc;rw[Jh (i:=i) (by rw[ga.jm];exact hi) (by rw[ga.mF hi];exact hj) hc]at hN;cases hN
 have e:s5 m p=some (kJ m p n):=by
  rw[<-ga.jm];exact Db λi hi j hj=>yD i (by rw[<-ga.jm];exact hi) j (by rw[ga.mF (by rw[<-ga.jm];exact hi)]at hj;exact hj)
 rw[e]at hN;cases hN;refine⟨λi hi=>?_,FU (Da m p n),As m hp iq n,Da m p n⟩;refine bX (WV hp iq (sV ga i) n (λj hj=>h1 i j hi hj) (yD i hi)) ?_;have:∀ x,i<x->x<=n->(kE (m.getD i []) p n).q<=(kJ m p x).q:=by
  intro x
  induction x with
  |zero=>intro h;omega
  |succ x ih=>
   intro h1 h2;rw[NT,ga.mF aD];obtain⟨a1,a2,_⟩:=zg (kJ m p x) (kE (m.getD x []) p n);by_cases hx:i=x
   .subst hx;exact a2
   .have:=ih aD aD;grind
 exact this n hi (bp _)
def Xg{u:Iv}{c:Rat}(hu:u.iu)(hp:1<=p)(iq:p<=4096)(h:u.jB c):∀ j,j<4294967296->(nf u p j).jB (eQ c j)
 | 0,_=>tI 1
 |j+1,hj=>by
  have hv:(nf u p j).iu:=by
   cases j with
   |zero=>exact rf 1 aF 
   |succ j=>exact lX _ _ hp iq
  exact sZ hv (pd _ _ hp iq) hp iq (Xg hu hp iq h j aD) (Ct hu (rf (j+1) hj) hp iq h (Jl (j+1)))
def aj0(ga:ke m n n)(hh:h.iu)(hp:1<=p)(iq:p<=4096)(h1:rO n n m M)(h2:h.jB t){k:Nat}(hk:k<1000){e:Iv}(he:sG m h k p=some e){i l:Nat}(hi:i<n)(hl:l<n)(d:Nat):
 e.jB (iT (λs=>TQ n M t (k+1+s) i l) d):=by
 unfold sG at he;cases hN:s5 m p with
 |none=>rw[hN]at he;cases he
 |some N=>
  rw[hN]at he;simp only[dF]at he;obtain⟨r1,r2,r3,r4⟩:=ahI ga hp iq h1 hN;have hu:(iI (jD h) (iV N) p).jB (jz t*N.q):=sZ (yr hh) (qO r3) hp iq (KD hh h2 (mK t).2.2.2) (Dg N);have uv:(iI (jD h) (iV N) p).iu:=lX _ _ hp iq;generalize iI (jD h) (iV N) p=u at *
  split at he
  .cases he
  .rename_i hc;simp only[eX,cH,not_or,Int.not_le]at hc;obtain⟨c1,c2⟩:=hc;have c1:u.all=false:=by simpa using c1
   split at he
   .cases he
   .rename_i hz;cases he;have hz:(jj (nf u p (k+1)) (lk (iN 1) (jj u (iN (k+2:Nat)) p) p) p).all=false:=by simpa using hz
    obtain⟨cc,qs⟩:∃ c,c=jz t*N.q:=⟨_,rfl⟩
    rw[<-qs]at hu;have om:0<=cc:=by rw[qs];exact bL (mK t).1 r2
    have c4:=(OC _ _).1 c2;rw[yc,dw]at c4;obtain⟨u1,u2⟩:=hu.kn c1;have iO:cc<((k+2:Nat):Rat):= aO ;have hK:(0:Rat)<((k+2:Nat):Rat):=cV.2 aD;have Bt:cc/((k+2:Nat):Rat)<1:=by
     apply ant (c:=((k+2:Nat):Rat)) _ (bH hK);rw[cL aO,dY];exact iO
    have pv:(nf u p (k+1)).iu:=lX _ _ hp iq;have dv:(jj u (iN (k+2:Nat)) p).iu:=pd _ _ hp iq;have sv:(lk (iN 1) (jj u (iN (k+2:Nat)) p) p).iu:=rn (rf 1 aF) (sE dv) hp iq;have hs:=YZ (rf 1 aF) dv hp iq (tI 1) (Ct uv (rf (k+2) aD) hp iq hu (Jl (k+2)));have hE:=(Ct pv sv hp iq (Xg uv hp iq hu (k+1) aD) hs).kn hz;generalize jj (nf u p (k+1)) (lk (iN 1) (jj u (iN (k+2:Nat)) p) p) p=E at *
    have o:((1:Int):Rat)=1:=rfl;rw[o]at hE;have vC:jz (iT (λs=>TQ n M t (k+1+s) i l) d)<=E.hi.q:=by
     have e1:=Ch (λs=>TQ n M t (k+1+s) i l) d;have e2:iT (λs=>jz (TQ n M t (k+1+s) i l)) d<=iT (λs=>eQ cc (k+1+s)) d:=AN d λs _=>by rw[qs];exact Yn (Qc r2 r1 (k+1+s)) hi hl
     have e3:iT (λs=>eQ cc (k+1+s)) d<=iT (λs=>eQ cc (k+1+s)) (d+1):=by
      rw[iT];have:=qS om (k+1+d);grind
     have e4:=Zf om rfl (bH Bt) (k:=k) d;have e5:=qS om (k+1+d);have uk:0<=cc/((k+2:Nat):Rat):=Lf om hK;generalize cc/((k+2:Nat):Rat)=r at *
     have e6:=bL uk e5;have q6:(0:Rat)<1-r:= aO ;refine bX (bX e1 (bX e2 e3)) (bX ?_ hE.2);apply cW (c:=1-r) _ q6;rw[cL aO]
     grind
    obtain⟨a1,a2,a3,_⟩:=mK (iT (λs=>TQ n M t (k+1+s) i l) d);refine .inr ⟨?_,?_⟩
    .show (jf E.hi).q<=_;rw[pk];grind
    .show _<=E.hi.q
     grind
def SY(ga:ke m n n)(hh:h.iu)(hp:1<=p)(iq:p<=4096)(h1:rO n n m M)(h2:h.jB t)(ha:h.all=false){k:Nat}(hk:k<1000){X:List (List Iv)}(hX:tp m h k p=some X)(N:Nat)(hN:k<=N):
 rO n n X (SQ n M t N):=by
 unfold tp at hX;cases hr:sG m h k p with
 |none=>rw[hr]at hX;cases hX
 |some e=>
  rw[hr]at hX;simp only[dF]at hX;split at hX
  .cases hX
  .cases hX;intro i l hi hl;have s1:=AM (h:=h) ga hp iq k;obtain⟨_,_,_,v,_⟩:=Yb ga ga hh hh hk hp iq (λi j _ _=>Sub.refl _) (Sub.refl _) ha hr;have v:e.iu:=by
    obtain⟨e',Un,_,v',_⟩:=Yb ga ga hh hh hk hp iq (λi j _ _=>Sub.refl _) (Sub.refl _) ha hr;rw[hr]at Un;cases Un;exact v'
   rw[acY s1 _ hi hl];obtain⟨d,rfl⟩:∃ d,N=k+d:=⟨N-k,aD⟩
   rw[P6];exact zF (sV s1 i l) v hp iq (Y7 ga hh hp iq h1 h2 k aD i l hi hl) (aj0 ga hh hp iq h1 h2 hk hr hi hl d)
end
def J5(g:Nat->Nat->Rat):∀ m,iT (λj=>iT (g j) (m-j)) m=iT (λs=>iT (λj=>g j (s-j)) (s+1)) m
 | 0=>rfl
 |m+1=>by
  have ih:=J5 g m;have e1:iT (λj=>iT (g j) (m+1-j)) m=iT (λj=>iT (g j) (m-j)+g j (m-j)) m:=
   pJ m λj hj=>by rw[(aD:m+1-j=m-j+1)];rfl
  have h1:iT (g m) (m+1-m)=g m 0:=by
   rw[(aD:m+1-m=0+1)];simp only[iT];grind
  have h2:iT (λj=>g j (m-j)) (m+1)=iT (λj=>g j (m-j)) m+g m (m-m):=rfl;show iT (λj=>iT (g j) (m+1-j)) m+iT (g m) (m+1-m)=iT (λs=>iT (λj=>g j (s-j)) (s+1)) m+iT (λj=>g j (m-j)) (m+1);rw[e1,Gb,h1,h2,ih,di]
  grind
def Dx{f:Nat->Rat}(h:∀ i,0<=f i){m k:Nat}(hk:m<=k):iT f m<=iT f k:=by
 induction k with
 |zero=>
  have:m=0:= aD ;rw[this];exact bS
 |succ k ih=>
  by_cases hm:m=k+1
  .rw [hm];exact bS
  .have:=ih aD ;have:=h k;rw[iT];grind
def Ge(f:Nat->Rat)(m:Nat):∀ d,iT f (m+d)=iT f m+iT (λi=>f (m+i)) d
 | 0=>by simp only[iT,bK];grind
 |d+1=>by
  show iT f (m+d)+f (m+d)=_;rw[Ge f m d,iT];grind
def Ef(c:Rat)(j:Nat):eQ c (j+1)*((j+1:Nat):Rat)=c*eQ c j:=by
 have h:c/((j+1:Nat):Rat)*((j+1:Nat):Rat)=c:=cL (by have:=BJ j;grind);simp only[eQ];grind
def GK(a b:Rat):∀ s,iT (λj=>eQ b j*eQ a (s-j)) (s+1)=eQ (a+b) s
 | 0=>by
  show 0+eQ b 0*eQ a 0=1;simp only[eQ];grind
 |s+1=>by
  have ih:=GK a b s;have hp:=BJ s;have key:iT (λj=>eQ b j*eQ a (s+1-j)) (s+2)*((s+1:Nat):Rat)=(a+b)*eQ (a+b) s:=by
   have e0:iT (λj=>eQ b j*eQ a (s+1-j)) (s+2)*((s+1:Nat):Rat)=iT (λj=>(j:Rat)*(eQ b j*eQ a (s+1-j))+eQ b j*(((s+1-j:Nat):Rat)*eQ a (s+1-j))) (s+2):=by
    rw[<-Dz];refine pJ _ λj hj=>?_
    have:((s+1:Nat):Rat)=(j:Rat)+((s+1-j:Nat):Rat):=by rw[<-fR];congr 1;omega
    rw[this];grind
   rw[e0,Gb];have e1:iT (λj=>(j:Rat)*(eQ b j*eQ a (s+1-j))) (s+2)=b*eQ (a+b) s:=by
    rw[Y9,<-ih,<-zt];have z:(((0:Nat):Rat))=0:=rfl;rw[z,gH,Rat.zero_add];refine pJ _ λj hj=>?_
    have h1:=Ef b j;rw[(aD:s+1-(j+1)=s-j)]
    grind
   have e2:iT (λj=>eQ b j*(((s+1-j:Nat):Rat)*eQ a (s+1-j))) (s+2)=a*eQ (a+b) s:=by
    rw[(aD:s+2=(s+1)+1),iT,di,<-ih,<-zt];have z:(((0:Nat):Rat))=0:=rfl;rw[z,gH,Rat.mul_zero,Rat.add_zero];refine pJ _ λj hj=>?_
    have h1:=Ef a (s-j);rw[(aD:s+1-j=s-j+1)]
    grind
   rw[e1,e2];grind
  have h2:=Ef (a+b) s;have h3:iT (λj=>eQ b j*eQ a (s+1-j)) (s+2)*((s+1:Nat):Rat)=eQ (a+b) (s+1)*((s+1:Nat):Rat):=by rw[key,h2]
  exact fc (cW (by rw[h3];exact bS) hp) (cW (by rw[h3];exact bS) hp)
def Ee(c:Rat):∀ j,jz (eQ c j)=eQ (jz c) j
 | 0=>by simp only[eQ];decide
 |j+1=>by
  simp only[eQ];rw[xt,Ee c j];congr 1;rw[cF,cF,xt];congr 1;have:=dM.2 (BJ j);unfold jz;rw[bn (bH this)]
def oY(v:Rat):Nat->Rat
 | 0=>1
 |j+1=>oY v j*v
def Xj(v:Rat)(i:Nat):∀ j,oY v (i+j)=oY v i*oY v j
 | 0=>by simp only[oY,bK];grind
 |j+1=>by
  show oY v (i+j)*v=_;rw[Xj v i j,oY];grind
def Ot{v:Rat}(h:0<=v):∀ j,0<=oY v j
 | 0=>by simp only[oY];decide
 |j+1=>bL (Ot h j) h
def Hm(c v:Rat):∀ j,eQ (c*v) j=eQ c j*oY v j
 | 0=>by simp only[eQ,oY];grind
 |j+1=>by
  simp only[eQ,oY];rw[Hm c v j];simp only[cF];grind
def Ql(q:Rat):∃ n:Nat,q<=(n:Rat):=by
 refine⟨q.ceil.toNat,?_⟩;have h1:q<=(q.ceil:Rat):=Rat.le_ceil;have h2:((q.ceil:Int):Rat)<=((q.ceil.toNat:Nat):Rat):=by
  rw[<-dw,ans];omega
 exact bX h1 h2
def Ze{z:Rat}{J:Nat}(hz:0<=z)(hJ:z*2<=(J:Rat)){m:Nat}(hm:J<=m):eQ z (m+1)*2<=eQ z m:=by
 have h0:=qS hz m;have h1:=Ef z m;have hp:=BJ m;have LY:z*2<=((m+1:Nat):Rat):=bX hJ (dX.2 aD);apply cW (c:=((m+1:Nat):Rat)) _ hp;have h2:=dc LY h0
 grind
def Py{z:Rat}{J:Nat}(hz:0<=z)(hJ:z*2<=(J:Rat)){m:Nat}(hm:J<=m):∀ d,iT (λi=>eQ z (m+i)) d+eQ z (m+d)*2<=eQ z m*2
 | 0=>by simp only[iT,bK];grind
 |d+1=>by
  have ih:=Py hz hJ hm d;have h1:=Ze hz hJ (aD:J<=m+d);rw[iT,(aD:m+(d+1)=m+d+1)]
  grind
def Zg{z:Rat}{J:Nat}(hz:0<=z)(hJ:z*2<=(J:Rat)):∀ r:Nat,eQ z (J+r)*((2^r:Nat):Rat)<=eQ z J
 | 0=> aJ 
 |r+1=>by
  have ih:=Zg hz hJ r;have h1:=Ze hz hJ (aD:J<=J+r);have hp:(0:Rat)<=((2^r:Nat):Rat):=eA;have h2:=cI h1 hp;rw[show(2^(r+1):Nat)=2^r*2 from bG _ _,cX,(aD:J+(r+1)=J+r+1)];have e:((2:Nat):Rat)=2:=rfl;rw[e];grind
def Zh{z ε:Rat}(hz:0<=z)(hε:0<ε):∃ m0,∀ m,m0<=m->∀ d,iT (λi=>eQ z (m+i)) d<=ε:=by
 obtain⟨J,hJ⟩:=Ql (z*2);obtain⟨r,hr⟩:=Ql (eQ z J*2/ε);refine⟨J+r,λm hm d=>?_⟩;obtain⟨t,rfl⟩:∃ t,m=J+t:=⟨m-J,aD⟩
 have h1:=Py hz hJ (aD:J<=J+t) d;have h2:=Zg hz hJ t;have h3:=qS hz (J+t+d);have h4:=qS hz (J+t);have Ad:(r:Rat)<=((2^t:Nat):Rat):=dX.2 (dG (cK (aD:r<=t) Nat.lt_two_pow_self));have h5:eQ z J*2<=ε*((2^t:Nat):Rat):=by
  have h6:eQ z J*2/ε*ε=eQ z J*2:=cL aO;have h7:=cI (bX hr Ad) (bH hε)
  grind
 have hp:(0:Rat)<((2^t:Nat):Rat):=cV.2 (bA aF);have h8:eQ z (J+t)*2<=ε:=by
  apply cW (c:=((2^t:Nat):Rat)) _ hp
  grind
 grind
def MP(n:Nat)(M:QM):Nat->QM
 | 0=>vS
 |j+1=>pG n (MP n M j) M
section
variable {n:Nat} {M:QM}
def KB(t:Rat):∀ j i l,TQ n M t j i l=eQ t j*MP n M j i l
 | 0,i,l=>by simp only[TQ,eQ,MP];grind
 |j+1,i,l=>by
  show t/((j+1:Nat):Rat)*iT (λq=>TQ n M t j i q*M q l) n=eQ t j*(t/((j+1:Nat):Rat))*iT (λq=>MP n M j i q*M q l) n;rw[pJ n λq _=>show TQ n M t j i q*M q l=eQ t j*(MP n M j i q*M q l)by rw[KB t j i q];grind,zt]
  grind
def Cg(t:Rat)(i l:Nat):∀ N,SQ n M t N i l=iT (λj=>eQ t j*MP n M j i l) (N+1)
 | 0=>by simp only[SQ,iT,eQ,MP];grind
 |N+1=>by
  show SQ n M t N i l+TQ n M t (N+1) i l=_;rw[Cg t i l N,KB];rfl
def ag6(A:QM)(i:Nat){l:Nat}(hl:l<n):pG n A vS i l=A i l:=by
 have:∀ m,iT (λq=>A i q*vS q l) m=if l<m then A i l else 0:=by
  intro m
  induction m with
  |zero=>simp[iT]
  |succ m ih=>
   rw[iT,ih];unfold vS;by_cases h1:l<m
   .rw [bn h1,bl (aD:¬m=l),bn (aD:l<m+1)];grind
   .by_cases h2:m=l
    .subst h2;rw[bl h1,bn rfl,bn (aD:m<m+1)];grind
    .rw [bl h1,bl h2,bl (aD:¬l<m+1)];grind
 unfold pG;rw[this,bn hl]
def ag5(A B C:QM)(i l:Nat):pG n A (pG n B C) i l=pG n (pG n A B) C i l:=by
 unfold pG;have e1:∀ q,A i q*iT (λr=>B q r*C r l) n=iT (λr=>A i q*(B q r*C r l)) n:=λq=>(zt _ _ n).symm
 have e2:∀ r,iT (λq=>A i q*B q r) n*C r l=iT (λq=>A i q*B q r*C r l) n:=λr=>(Dz _ _ n).symm
 rw[pJ n λq _=>e1 q,pJ (f:=λq=>iT (λq_1=>A i q_1*B q_1 q) n*C q l) n λr _=>e2 r,Gc];exact pJ n λr _=>pJ n λq _=> aO 
def P0(j:Nat):∀ k i l,l<n->pG n (MP n M j) (MP n M k) i l=MP n M (j+k) i l
 | 0,i,l,hl=>ag6 _ i hl
 |k+1,i,l,hl=>by
  show pG n (MP n M j) (pG n (MP n M k) M) i l=pG n (MP n M (j+k)) M i l;rw[ag5];exact pJ n λq hq=>by rw[P0 j k i q hq]
def P1{v:Rat}(hv:0<=v)(h:wb n M v):∀ j,wb n (MP n M j) (oY v j)
 | 0=>λi _=>(Y8 n i).1
 |j+1=>Yp (Ot hv j) hv (P1 hv h j) h
def akb(n:Nat)(M:QM):∃ v,0<=v/\wb n M v:=by
 refine⟨iT (λi=>iT (λl=>jz (M i l)) n) n,B3 n λi _=>B3 n λl _=>(mK _).1,λi hi=>?_⟩;have:∀ m,i<m->iT (λl=>jz (M i l)) n<=iT (λi=>iT (λl=>jz (M i l)) n) m:=by
  intro m hm
  induction m with
  |zero=>omega
  |succ m ih=>
   rw[iT];have h0:0<=iT (λl=>jz (M m l)) n:=B3 n λl _=>(mK _).1
   have h1:0<=iT (λi=>iT (λl=>jz (M i l)) n) m:=B3 m λi _=>B3 n λl _=>(mK _).1
   by_cases hq:i=m
   .subst hq;grind
   .have:=ih aD;grind
 exact this n hi
def aij(a b:Rat)(N:Nat)(i:Nat){l:Nat}(hl:l<n):pG n (SQ n M b N) (SQ n M a N) i l=iT (λj=>iT (λk=>eQ b j*eQ a k*MP n M (j+k) i l) (N+1)) (N+1):=by
 unfold pG;have e1:∀ q,SQ n M b N i q*SQ n M a N q l=iT (λj=>iT (λk=>eQ b j*eQ a k*(MP n M j i q*MP n M k q l)) (N+1)) (N+1):=by
  intro q;rw[Cg,Cg,<-Dz];refine pJ _ λj _=>?_
  rw[<-zt];exact pJ _ λk _=> aO 
 rw[pJ n λq _=>e1 q,Gc];refine pJ _ λj _=>?_
 rw[Gc];refine pJ _ λk _=>?_
 rw[<-P0 j k i l hl,zt];rfl
def alM(a b:Rat)(N:Nat)(i l:Nat):iT (λj=>iT (λk=>eQ b j*eQ a k*MP n M (j+k) i l) (N+1-j)) (N+1)=SQ n M (a+b) N i l:=by
 rw[J5 (λj k=>eQ b j*eQ a k*MP n M (j+k) i l),Cg];refine pJ _ λs _=>?_
 rw[<-GK,<-Dz];exact pJ _ λj hj=>by rw[(aD:j+(s-j)=s)]
def YV(g:Nat->Nat->Rat)(m:Nat):iT (λj=>iT (g j) m) m=iT (λj=>iT (g j) (m-j)) m+iT (λj=>iT (λk=>g j (m-j+k)) j) m:=by
 rw[<-Gb];refine pJ _ λj hj=>?_
 rw[<-Ge,(aD:m-j+j=m)]
def aeE{v:Rat}(hv:0<=v)(h:wb n M v)(a b:Rat)(N:Nat){i l:Nat}(hi:i<n)(hl:l<n):
 jz (pG n (SQ n M b N) (SQ n M a N) i l-SQ n M (a+b) N i l)<=iT (λs=>eQ (jz a*v+jz b*v) (N+1+s)) (N+1):=by
 have hx:0<=jz a*v:=bL (mK a).1 hv;have hy:0<=jz b*v:=bL (mK b).1 hv;have e1:pG n (SQ n M b N) (SQ n M a N) i l=SQ n M (a+b) N i l+iT (λj=>iT (λk=>eQ b j*eQ a (N+1-j+k)*MP n M (j+(N+1-j+k)) i l) j) (N+1):=by
  have:=YV (λj k=>eQ b j*eQ a k*MP n M (j+k) i l) (N+1);rw[alM,<-aij a b N i hl]at this;exact this
 have e2:pG n (SQ n M b N) (SQ n M a N) i l-SQ n M (a+b) N i l=iT (λj=>iT (λk=>eQ b j*eQ a (N+1-j+k)*MP n M (j+(N+1-j+k)) i l) j) (N+1):= aO ;rw[e2];have e3:jz (iT (λj=>iT (λk=>eQ b j*eQ a (N+1-j+k)*MP n M (j+(N+1-j+k)) i l) j) (N+1))<=iT (λj=>iT (λk=>eQ (jz b*v) j*eQ (jz a*v) (N+1-j+k)) j) (N+1):=by
  refine bX (Ch _ _) (AN _ λj _=>bX (Ch _ _) (AN _ λk _=>?_));rw[xt,xt,Ee,Ee,Hm,Hm];have hr:=Yn (P1 hv h (j+(N+1-j+k))) hi hl;rw[Xj]at hr;have h1:=qS (mK b).1 j;have h2:=qS (mK a).1 (N+1-j+k);have h3:=dc hr (bL h1 h2)
  grind
 refine bX e3 ?_;have q1:iT (λj=>iT (λk=>eQ (jz b*v) j*eQ (jz a*v) k) (N+1)) (N+1)=iT (λj=>iT (λk=>eQ (jz b*v) j*eQ (jz a*v) k) (N+1-j)) (N+1)+iT (λj=>iT (λk=>eQ (jz b*v) j*eQ (jz a*v) (N+1-j+k)) j) (N+1):=
  YV (λj k=>eQ (jz b*v) j*eQ (jz a*v) k) (N+1)
 have q2:iT (λj=>iT (λk=>eQ (jz b*v) j*eQ (jz a*v) k) (N+1-j)) (N+1)=iT (λs=>eQ (jz a*v+jz b*v) s) (N+1):=by
  rw[J5 (λj k=>eQ (jz b*v) j*eQ (jz a*v) k)];exact pJ _ λs _=>GK _ _ s
 have G0:∀ j k,0<=eQ (jz b*v) j*eQ (jz a*v) k:=λj k=>bL (qS hy j) (qS hx k)
 have q3:iT (λj=>iT (λk=>eQ (jz b*v) j*eQ (jz a*v) k) (N+1)) (N+1)<=iT (λs=>eQ (jz a*v+jz b*v) s) (N+1+(N+1)):=by
  rw[<-pJ (f:=λs=>iT (λj=>eQ (jz b*v) j*eQ (jz a*v) (s-j)) (s+1)) _ λs _=>GK _ _ s,<-J5 (λj k=>eQ (jz b*v) j*eQ (jz a*v) k)];refine bX (AN _ λj hj=>Dx (λk=>G0 j k) (aD:N+1<=N+1+(N+1)-j)) ?_;exact Dx (λj=>B3 _ λk _=>G0 j k) aD 
 rw[Ge (λs=>eQ (jz a*v+jz b*v) s) (N+1) (N+1),q1,q2]at q3;have cancel:∀ A B C:Rat,A+B<=A+C->B<=C:=by intro A B C h;grind
 exact cancel _ _ _ q3
def aeF(n:Nat)(M:QM)(a b:Rat){ε:Rat}(hε:0<ε):∃ N0,∀ N,N0<=N->∀ i l,i<n->l<n->jz (pG n (SQ n M b N) (SQ n M a N) i l-SQ n M (a+b) N i l)<=ε:=by
 obtain⟨v,hv,h⟩:=akb n M;have hz:0<=jz a*v+jz b*v:=by
  have hx:0<=jz a*v:=bL (mK a).1 hv;have hy:0<=jz b*v:=bL (mK b).1 hv
  grind
 obtain⟨m0,h0⟩:=Zh hz hε;exact⟨m0,λN hN i l hi hl=>bX (aeE hv h a b N hi hl) (h0 (N+1) aD (N+1))⟩
def ZV(N:Nat)(i l:Nat):SQ n M 0 N i l=vS i l:=by
 induction N with
 |zero=>rfl
 |succ N ih=>
  show SQ n M 0 N i l+TQ n M 0 (N+1) i l=_;rw[ih,KB];simp only[eQ,cF];grind
end
def nI(f:Nat->Rat)(X:Iv):Prop:=∀ ε,0<ε->∃ N0,∀ N,N0<=N->∃ r,X.jB r/\jz (f N-r)<=ε
def nI.Od{f:Nat->Rat}{X:Iv}{k:Nat}(h:∀ N,k<=N->X.jB (f N)):nI f X:=λε hε=>
 ⟨k,λN hN=>⟨f N,h N hN,by rw[Rat.sub_self,Qf];exact bH hε⟩⟩
def nI.all{f:Nat->Rat}{X:Iv}(h:X.all=true):nI f X:=nI.Od (k:=0) λ_ _=>.inl h
def nI.shift{f g:Nat->Rat}{X:Iv}(h:nI f X)(k:∀ ε,0<ε->∃ N0,∀ N,N0<=N->jz (g N-f N)<=ε):nI g X:=λε hε=>by
 obtain⟨N1,h1⟩:=h (ε/2) aO;obtain⟨N2,h2⟩:=k (ε/2) aO;refine⟨max N1 N2,λN hN=>?_⟩;obtain⟨r,hr,hd⟩:=h1 N aD;have hg:=h2 N aD;refine⟨r,hr,?_⟩;have:=Qe (g N-f N) (f N-r);rw[show g N-f N+(f N-r)=g N-r by grind]at this
 grind
def nI.agU{f:Nat->Rat}{W R:Iv}{k:Nat}(hW:∀ N,k<=N->W.jB (f N))(hR:nI f R):Ft W R:=by
 refine agV λwa ra=>?_
 have key:∀ ε,0<ε->W.lo.q<=R.hi.q+ε/\R.lo.q<=W.hi.q+ε:=by
  intro ε hε;obtain⟨N0,h0⟩:=hR ε hε;obtain⟨r,hr,hd⟩:=h0 (max N0 k) aD;obtain⟨w1,w2⟩:=(hW (max N0 k) aD).kn wa;obtain⟨r1,r2⟩:=hr.kn ra;obtain⟨_,a2,a3,_⟩:=mK (f (max N0 k)-r);constructor<;>grind
 constructor
 .apply dC.1;intro iO;have:=(key ((W.lo.q-R.hi.q)/2) aO).1
  grind
 .apply dC.1;intro iO;have:=(key ((R.lo.q-W.hi.q)/2) aO).2
  grind
def nI.sq{f:Nat->Rat}{X:Iv}(hx:X.iu)(h:nI f X){p:Nat}(hp:1<=p)(iq:p<=4096):nI (λN=>f N*f N) (iI X X p):=by
 cases xa:X.all
 .intro ε hε;obtain⟨B,hB⟩:∃ B,B=jz X.lo.q+jz X.hi.q+1:=⟨_,rfl⟩
  have a0:=mK X.lo.q;have b0:=mK X.hi.q;have hB1:1<=B:= aO ;have LS:0<2*B:= aO ;obtain⟨δ,hδ⟩:∃ δ,δ=min 1 (ε/(2*B)):=⟨_,rfl⟩
  have hεB:0<ε/(2*B):=by rw[cF];exact cT hε (dM.2 LS)
  have Vk:0<δ:=by rw[hδ];grind
  have hδ1:δ<=1:=by rw[hδ];grind
  have hδ2:δ*(2*B)<=ε:=by
   have h1:δ<=ε/(2*B):=by rw[hδ];grind
   have h2:=cI h1 (bH LS);rwa[cL aO]at h2
  obtain⟨N0,h0⟩:=h δ Vk;refine⟨N0,λN hN=>?_⟩;obtain⟨r,hr,hd⟩:=h0 N hN;refine⟨r*r,sZ hx hx hp iq hr hr,?_⟩;obtain⟨r1,r2⟩:=hr.kn xa;rw[show f N*f N-r*r=(f N-r)*(f N+r)by grind,xt];have hs:jz (f N+r)<=2*B:=by
   obtain⟨_,c2,c3,_⟩:=mK (f N-r);exact yu aO aO 
  have h3:=dc hs (mK (f N-r)).1;have h4:=cI hd (bH LS)
  grind
 .exact nI.all (by rw[y4 p (.inl xa)];rfl)
def EQ(c:Rat)(N:Nat):Rat:=iT (eQ c) (N+1)
def ahX(j:Nat):MP 1 (λ_ _=>1) j 0 0=1:=by
 induction j with
 |zero=>rfl
 |succ j ih=>
  show iT (λq=>MP 1 (λ_ _=>1) j 0 q*1) 1=1;simp only[iT];rw[ih];grind
def Gv(c:Rat)(N:Nat):SQ 1 (λ_ _=>1) c N 0 0=EQ c N:=by
 rw[Cg];exact pJ _ λj _=>by rw[ahX];grind
def Cd(a b:Rat){ε:Rat}(hε:0<ε):∃ N0,∀ N,N0<=N->jz (EQ (a+b) N-EQ a N*EQ b N)<=ε:=by
 obtain⟨N0,h0⟩:=aeF 1 (λ_ _=>1) a b hε;refine⟨N0,λN hN=>?_⟩;have:=h0 N hN 0 0 aF aF;rw[show pG 1 (SQ 1 (λ_ _=>1) b N) (SQ 1 (λ_ _=>1) a N) 0 0=EQ a N*EQ b N by
  show iT (λq=>SQ 1 (λ_ _=>1) b N 0 q*SQ 1 (λ_ _=>1) a N q 0) 1=_;simp only[iT];rw[Gv,Gv];grind,Gv]at this
 obtain⟨_,a2,a3,_⟩:=mK (EQ a N*EQ b N-EQ (a+b) N);exact yu aO aO 
def PY(N:Nat):EQ 0 N=1:=by
 rw[<-Gv,ZV];rfl
def Ls{y:Iv}{r:Rat}(hy:y.iu)(h:y.jB r):∀ j,j<4294967296->(qp y j).jB (eQ r j)
 | 0,_=>tI 1
 |j+1,hj=>by
  have e:eQ r (j+1)=eQ r j*r/((j+1:Nat):Rat):=by simp only[eQ,cF];grind
  rw[e];exact Ct (lX _ _ aF aF) (rf (j+1) hj) aF aF (sZ (Ed y j) hy aF aF (Ls hy h j aD) h) (Jl (j+1))
def So{y:Iv}{r:Rat}(hy:y.iu)(h:y.jB r):∀ j,j<4294967296->(vc y j).jB (EQ r j)
 | 0,_=>by
  have:EQ r 0=1:=by unfold EQ;simp only[iT,eQ];grind
  rw[this];exact tI 1
 |j+1,hj=>zF (Cw y j) (Ed y (j+1)) aF aF (So hy h j aD) (Ls hy h (j+1) hj)
def aag{x:Iv}{r s:Rat}(hx:x.iu)(h:x.jB r)(hs:jz s<=jz r):(uS x).jB s:=by
 unfold uS;cases xa:x.all
 .obtain ⟨h1,h2⟩:=h.kn xa;obtain⟨m1,m2,_⟩:=C4 hx.q;obtain⟨_,a2,a3,a4⟩:=mK r;obtain⟨_,b2,b3,_⟩:=mK s;have hr:jz r<=(kO x).q:= aO ;refine .inr ⟨?_,?_⟩
  .show (jf (kO x)).q<=s;rw[pk];grind
  .show s<=(kO x).q
   grind
 .rw [bn rfl];exact .inl xa
def acV{y:Iv}{r:Rat}(hy:y.iu)(h:y.jB r)(hr:jz r*2<=1)(N:Nat)(hN:20<=N):(Sn y).jB (EQ r N):=by
 obtain⟨d,rfl⟩:∃ d,N=20+d:=⟨N-20,aD⟩
 have e1:EQ r (20+d)=EQ r 20+iT (λi=>eQ r (21+i)) d:=by
  unfold EQ;rw[(aD:20+d+1=21+d),Ge]
 have hz:=(mK r).1;have t:=Py hz (J:=1) (by exact hr) (show 1<=21 by decide) d;have p0:=qS hz (21+d);have b1:jz (iT (λi=>eQ r (21+i)) d)<=iT (λi=>eQ (jz r) (21+i)) d:=by
  have:=Ch (λi=>eQ r (21+i)) d;rwa[pJ d λi _=>Ee r (21+i)]at this
 have hZ:(iI (jj (iI (qp y 20) y 320) (iN 21) 320) (iN 2) 320).jB (eQ r 21*2):=by
  have h1:=(Ls hy h 21 aF)
  exact sZ (pd _ _ aF aF) (rf 2 aF) aF aF h1 (tI 2)
 rw[e1];refine zF (Cw y 20) (KH (lX _ _ aF aF)) aF aF (So hy h 20 aF) (aag (lX _ _ aF aF) hZ ?_);have e2:jz (eQ r 21*2)=eQ (jz r) 21*2:=by rw[xt,Ee];rfl
 rw[e2];grind
def Sm{y:Iv}{r:Rat}(hy:y.iu)(h:y.jB r)(hr:jz r*2<=1):∀ K,nI (EQ (r*((2^K:Nat):Rat))) (tV y K)
 | 0=>by
  rw[show r*((2^0:Nat):Rat)=r by simp];exact nI.Od (k:=20) λN hN=>acV hy h hr N hN
 |K+1=>by
  have ih:=(Sm hy h hr K).sq (Hl y K) (p:=320) aF aF;refine ih.shift λε hε=>?_
  obtain⟨N0,h0⟩:=Cd (r*((2^K:Nat):Rat)) (r*((2^K:Nat):Rat)) hε;have e:r*((2^K:Nat):Rat)+r*((2^K:Nat):Rat)=r*((2^(K+1):Nat):Rat):=by
   rw[bG,cX,show((2:Nat):Rat)=2 from rfl];grind
  rw[e]at h0;exact⟨N0,h0⟩
def aiu{d:Dy}(h:d.m≠0):jz d.q<=P2 d.jd:=by
 have hT:d.jd=(iA d.m:Int)+d.e:=by unfold Dy.jd;rw[bl h]
 have h1:(d.m:Rat)<=((2^iA d.m:Nat):Rat):=dX.2 (dG (pE d.m));have h2:=cI h1 (bH (pr d.e));rw[<-uN,<-tO]at h2;have h0:0<=(d.m:Rat)*P2 d.e:=bL eA (bH (pr _));rw[hT,pU];cases d.neg
 .exact yu h2 (by simp only[bZ,bF];grind)
 .exact yu (by simp only[bN];grind) (by simp only[bN];grind)
def ZT{a b:Int}(h:a<=b):P2 a<=P2 b:=by
 rw[DL h];have h1:(1:Rat)<=((2^(b-a).toNat:Nat):Rat):=by
  have:=dX.2 (Nat.one_le_two_pow (n:=(b-a).toNat));exact this
 have:=cI h1 (bH (pr a))
 grind
def Kb{i:Nat}(h:i<2):i=0\/i=1:= aD 
def ZN:Dy:=⟨false,1014047155841371404857783918912611814895143950022408150448898879701903863171748812343190420115852101928445847465915947005,-398⟩
def ZO:Dy:=⟨false,2028094311682742809715567837825223629790287900044816300897797759403807726343497624686380840231704203856891694931831894109,-399⟩
def HF:Iv:=⟨ZN,ZO,false⟩
def after{N:Nat}(h:100<=N):∃ d,N=100+d:=⟨N-100,aD⟩
def wB(a b:Iv):Iv:=if a.all||b.all then il else⟨a.lo,b.hi,false⟩
def VR{f g:Nat->Rat}{A B:Iv}(hA:nI f A)(hB:nI g B)(h:∀ ε,0<ε->∃ N0,∀ N,N0<=N->f N<=g N+ε)(aa:A.all=false)(ba:B.all=false):A.lo.q<=B.hi.q:=by
 apply dC.1;intro iO;obtain⟨ε,hε⟩:∃ ε,ε=(A.lo.q-B.hi.q)/4:=⟨_,rfl⟩
 have h0:0<ε:=by rw[hε];grind
 obtain⟨N1,h1⟩:=hA ε h0;obtain⟨N2,h2⟩:=hB ε h0;obtain⟨N3,h3⟩:=h ε h0;obtain⟨r,hr,hd⟩:=h1 (max N1 (max N2 N3)) aD;obtain⟨s,hs,he⟩:=h2 (max N1 (max N2 N3)) aD;have h4:=h3 (max N1 (max N2 N3)) aD;obtain⟨r1,r2⟩:=hr.kn aa;obtain⟨s1,s2⟩:=hs.kn ba;obtain⟨_,a2,a3,_⟩:=mK (f (max N1 (max N2 N3))-r);obtain⟨_,b2,b3,_⟩:=mK (g (max N1 (max N2 N3))-s)
 grind
def PX{c:Rat}(h:0<=c)(N:Nat):1<=EQ c N:=by
 have:=Dx (f:=eQ c) (λi=>qS h i) (aD:1<=N+1);have e:iT (eQ c) 1=1:=by show 0+1=1;grind
 unfold EQ;rw[e]at this;exact this
def PW(c:Rat){ε:Rat}(hε:0<ε):∃ N0,∀ N,N0<=N -> -ε<=EQ c N:=by
 obtain⟨N0,h0⟩:=Cd (c/2) (c/2) hε;rw[show c/2+c/2=c by grind]at h0;refine⟨N0,λN hN=>?_⟩;have h:=h0 N hN;have hs:0<=EQ (c/2) N*EQ (c/2) N:=by
  by_cases k:0<=EQ (c/2) N
  .exact bL k k
  .have:=bL (show 0 <= -EQ (c/2) N by grind) (show 0 <= -EQ (c/2) N by grind)
   grind
 obtain⟨_,a2,a3,_⟩:=mK (EQ c N-EQ (c/2) N*EQ (c/2) N)
 grind
def ZL{c:Rat}(h:0<=c):∃ M:Rat,0<M/\∀ N,EQ c N<=M:=by
 obtain⟨m0,h0⟩:=Zh h (show(0:Rat)<1 by decide);have hs:0<=iT (eQ c) m0:=by
  have:=Dx (f:=eQ c) (λi=>qS h i) (ch m0);exact this
 refine⟨iT (eQ c) m0+1,aO,λN=>?_⟩;unfold EQ;by_cases hN:m0<=N+1
 .obtain ⟨d,hd⟩:∃ d,N+1=m0+d:=⟨N+1-m0,aD⟩
  rw[hd,Ge];have:=h0 m0 (bp _) d
  grind
 .have:=Dx (f:=eQ c) (λi=>qS h i) (aD:N+1<=m0)
  grind
def Ce{a b:Rat}(h:a<=b){ε:Rat}(hε:0<ε):∃ N0,∀ N,N0<=N->EQ a N<=EQ b N+ε:=by
 have hd:0<=b-a:= aO ;obtain⟨N1,h1⟩:=Cd a (b-a) (show 0<ε/2 by grind);rw[show a+(b-a)=b by grind]at h1;obtain⟨M,tZ,hM⟩:∃ M:Rat,0<M/\∀ N,EQ (b-a) N<=M:=ZL hd;obtain⟨N2,h2⟩:=PW a (show 0<ε/(2*M)by rw[cF];exact cT hε (dM.2 aO));refine⟨max N1 N2,λN hN=>?_⟩;have k1:=h1 N aD;have k2:=h2 N aD;have e:ε/(2*M)*M=ε/2:=by
  have:=cL (a:=ε) (b:=2*M) aO 
  grind
 have k3:=PX hd N;have k4:=hM N;obtain⟨_,a2,a3,_⟩:=mK (EQ b N-EQ a N*EQ (b-a) N);generalize EQ a N=x at *
 generalize EQ (b-a) N=y at *
 generalize EQ b N=z at *
 generalize ε/(2*M)=δ at *
 have m1:=bL (show 0<=x+δ by grind) (show 0<=y-1 by grind);have hδ:0<=δ:=by
  apply dC.1;intro iO;have:=anC iO tZ
  grind
 have m2:=dc (show y-1<=M by grind) hδ
 grind
structure Gw where
 kind:Int
 a:Int
 b:Int
 n:Int
 cn:Int
 cd:Int
structure P3 where
 iW:Int
 ik:List Gw
 iL:List Int
 jo:Int
 params:List RI
def Gw.v(o:Gw):lO:=⟨o.kind.toNat,o.a.toNat,o.b.toNat,o.n.toNat,o.cn,o.cd⟩
def P3.v(s:P3):kG:=⟨⟨s.iW.toNat,s.ik.map Gw.v,s.iL.map Int.toNat⟩,s.jo.toNat,s.params.map RI.iv⟩
def al0{d:Int}(h0:0<=d)(h:d<=1073741824):IntKind.u64.wrap d=(d.natAbs:Int):=by rw[IntKind.wrap_u64];omega
def Rv{a b:Nat}:0<=kD a b↔b<=a:=by
 unfold kD;split
 .simp;omega
 .split<;>simp<;>omega
def XE(m n:Nat)(hl:(ij m).length<=1000)(hn:n<=65536):ig 257 [iw (ij m),iP (n:Int)] (iw (ij (m*2^n))):=
 Jw (kS m) call257 (λA c w h _=>ajz A c (ij m) n w h hl hn) λA c B w e w' h hB r=>by rw[jR]at r;exact rl B w e w' hB r
def aiQ(m n:Nat)(hl:(ij m).length<=3000)(hn:(ij n).length<=3000):ig 258 [iw (ij m),iw (ij n)] (iw (ij (m+n))):=
 BN (kS m) (kS n) call258 (λA c B d w h k _=>ajC A B c d (ij m) (ij n) w h k hl hn) λB w e w' hB r=>by rw[jR,jR]at r;exact rl B w e w' hB r
def XF(m n:Nat)(hl:(ij m).length<=3000)(hn:n<=m):ig 260 [iw (ij m),iw (ij n)] (iw (ij (m-n))):=
 BN (kS m) (kS n) call260 (λA c B d w h k _=>ajA A B c d (ij m) (ij n) w h k hl (vG hn) (by rw[jR,jR];exact hn)) λB w e w' hB r=>by rw[jR,jR]at r;exact rl B w e w' hB r
def aiO(m n:Nat)(hl:(ij m).length<=3000)(hn:(ij n).length<=3000):ig 259 [iw (ij m),iw (ij n)] (iP (kD m n)):=by
 refine BN (kS m) (kS n) call259 (λA c B d w h k _=>aju A B c d (ij m) (ij n) w h k (yg _) (yg _) aD aD) ?_;rw[jR,jR];exact rv
def X8(a b:Dy)(ha:uM a)(hb:uM b):ig 212 [im a,im b] (im (iJ a b)):=by
 obtain⟨ha1,ha2,ha3⟩:=ha;obtain⟨jt,lS,pf⟩:=hb;have ba:=xu ha1;have bb:=xu jt;obtain⟨k,hk⟩:∃ k,min a.e b.e=k:=⟨_,rfl⟩
 exact ak call212 func212 (.w (((ij a.m).length:Int)=0)
  (λk1=>by
   have a0:a.m=0:=qg.1 aD;exact ae [tB 11 (bg k1)]<|rQ (im b) (im (iJ a b)) (by rw[show iJ a b=b by unfold iJ;rw[bn a0]]))
  (λk1=>by
   have a0:a.m≠0:=λh=>k1 (by rw[qg.2 h];rfl)
   exact ae [tB 11 (bd k1)]<|.w (((ij b.m).length:Int)=0)
    (λk2=>by
     have b0:b.m=0:=qg.1 aD;exact ae [tB 16 (bg k2)]<|rQ (im a) (im (iJ a b)) (by rw[show iJ a b=a by unfold iJ;rw[bl a0,bn b0]]))
    (λk2=>by
     have b0:b.m≠0:=λh=>k2 (by rw[qg.2 h];rfl)
     have hX:(ij (a.m*2^((a.e-k).toNat))).length<=1400:=nV (by rw[qE a0];omega);have hY:(ij (b.m*2^((b.e-k).toNat))).length<=1400:=nV (by rw[qE b0];omega);have hP:=VT hX hY;have hM:(ij ((a.m*2^((a.e-k).toNat))-(b.m*2^((b.e-k).toNat)))).length<=1400:=bJ (vG (dS _ _)) hX;have hN:(ij ((b.m*2^((b.e-k).toNat))-(a.m*2^((a.e-k).toNat)))).length<=1400:=bJ (vG (dS _ _)) hY;exact ae [tB 16 (bd k2),.o 22 (an (if b.e<a.e then b.e else a.e) k (by rw[<-hk];split<;>omega)),iC (a.e-k) aD,.o 28 (an (a.e-k) ((a.e-k).toNat:Int) aD),ag [iw (ij a.m),iP ((a.e-k).toNat:Int)] (XE _ _ aD aD),iC (b.e-k) aD,.o 35 (an (b.e-k) ((b.e-k).toNat:Int) aD),ag [iw (ij b.m),iP ((b.e-k).toNat:Int)] (XE _ _ aD aD)]<|.w (a.neg=b.neg)
      (λk3=>ae [tB 41 (bg k3),ag [iw (ij (a.m*2^((a.e-k).toNat))),iw (ij (b.m*2^((b.e-k).toNat)))] (aiQ _ _ aD aD),ag [bP a.neg,iw (ij ((a.m*2^((a.e-k).toNat))+(b.m*2^((b.e-k).toNat)))),iP k] (BQ _ _ _ aD aD aD)]<|rQ (im (canon a.neg ((a.m*2^((a.e-k).toNat))+(b.m*2^((b.e-k).toNat))) k)) (im (iJ a b)) (by have h:=Y6 (s:=a.neg) a0 b0 hk;rw[show(⟨a.neg,b.m,b.e⟩:Dy)=b by rw[k3]]at h;exact congrArg im h.symm))
      (λk3=>ae [tB 41 (bd k3),ag [iw (ij (a.m*2^((a.e-k).toNat))),iw (ij (b.m*2^((b.e-k).toNat)))] (aiO _ _ aD aD)]<|.w (0<=(kD (a.m*2^((a.e-k).toNat)) (b.m*2^((b.e-k).toNat))))
       (λk4=>by
        have hc:(b.m*2^((b.e-k).toNat))<=(a.m*2^((a.e-k).toNat)):=Rv.1 k4;exact ae [tB 52 (bq k4),ag [iw (ij (a.m*2^((a.e-k).toNat))),iw (ij (b.m*2^((b.e-k).toNat)))] (XF _ _ aD aD),ag [bP a.neg,iw (ij ((a.m*2^((a.e-k).toNat))-(b.m*2^((b.e-k).toNat)))),iP k] (BQ _ _ _ aD aD aD)]<|rQ (im (canon a.neg ((a.m*2^((a.e-k).toNat))-(b.m*2^((b.e-k).toNat))) k)) (im (iJ a b)) (congrArg im (Y4 (s:=a.neg) (t:=b.neg) a0 b0 hk k3 hc).symm))
       (λk4=>by
        have hc:(a.m*2^((a.e-k).toNat))<(b.m*2^((b.e-k).toNat)):=amR λh=>k4 (Rv.2 h)
        exact ae [tB 52 (bt k4),ag [iw (ij (b.m*2^((b.e-k).toNat))),iw (ij (a.m*2^((a.e-k).toNat)))] (XF _ _ aD aD),ag [bP b.neg,iw (ij ((b.m*2^((b.e-k).toNat))-(a.m*2^((a.e-k).toNat)))),iP k] (BQ _ _ _ aD aD aD)]<|rQ (im (canon b.neg ((b.m*2^((b.e-k).toNat))-(a.m*2^((a.e-k).toNat))) k)) (im (iJ a b)) (congrArg im (Y5 (s:=a.neg) (t:=b.neg) a0 b0 hk k3 hc).symm)))))) 
def OW(a b:Dy)(ha:uM a)(hb:uM b):ig 124 [im a,im b] (iP (jA a b)):=by
 have hn:uM (jf b):=⟨hb.len,hb.lo,hb.hi⟩
 exact ak call124 func124 (ae [ag [im a] (FZ _),ag [im b] (FZ _)]<|.w ((Dy.jh a)=(Dy.jh b))
  (λk1=>ae [tB 13 (bj k1)]<|.w ((Dy.jh a)=0)
   (λk2=>ae [tB 18 (bg k2)]<|rQ (iP 0) (iP (jA a b)) (by rw[Cs,bl (by simpa using k1),bn k2]))
   (λk2=>ae [tB 18 (bd k2),ag [im a] (F0 _ ha),ag [im b] (F0 _ hb)]<|.w ((Dy.jd a)=(Dy.jd b))
    (λk3=>ae [tB 23 (bj k3),ag [im b] (OY _),ag [im a,im (jf b)] (X8 _ _ ha hn),ag [im (iJ a (jf b))] (FZ _)]<|rQ (iP (Dy.jh (iJ a (jf b)))) (iP (jA a b)) (by rw[Cs,bl (by simpa using k1),bl k2,bl (by simpa using k3)]))
    (λk3=>ae [tB 23 (bk k3),ag [im a] (F0 _ ha),ag [im b] (F0 _ hb)]<|.w ((decide ((Dy.jd a)<(Dy.jd b)))=(decide (0<(Dy.jh a))))
     (λk4=>ae [tB 31 (bg k4)]<|rQ (iP (-1)) (iP (jA a b)) (by rw[Cs,bl (by simpa using k1),bl k2,bn k3,bn (by simpa using k4)]))
     (λk4=>ae [tB 31 (bd k4)]<|rQ (iP 1) (iP (jA a b)) (by rw[Cs,bl (by simpa using k1),bl k2,bn k3,bl (by simpa using k4)])))))
  (λk1=>ae [tB 13 (bk k1)]<|.w ((Dy.jh a)<(Dy.jh b))
   (λk2=>ae [tB 16 (bq k2)]<|rQ (iP (-1)) (iP (jA a b)) (by rw[Cs,bn k1,bn k2]))
   (λk2=>ae [tB 16 (bt k2)]<|rQ (iP 1) (iP (jA a b)) (by rw[Cs,bn k1,bl k2])))) 
def Tu(a b:Nat)(x:Nat):PS:=⟨12,true,[(0,.e (.v (.int .u64 (((mo a b x).1:Nat):Int)))),(1,.e (.v (.int .u64 (((mo a b x).2:Nat):Int))))],[]⟩
def ad5(a b N:Nat)(ha:a<18446744073709551616)(hb:b<18446744073709551616)(jk:∀ k,k<N->(mo a b k).2≠0)(hN:(mo a b N).2=0):ig 24 [.v (.int .u64 (a:Int)),.v (.int .u64 (b:Int))] (.v (.int .u64 (((mo a b N).1:Nat):Int))):=
 ak call24 func24 (af [.s (Sp.jP (Tu a b) 0 N aD (λx hx lp=>by
    have jS:=jk x aD;exact iM (ae [ah 6 ((((mo a b x).2:Nat):Int) != 0) (C9 (jk x aD)),.a (aD:0<((((mo a b x).2:Nat):Int):Int))]<|.e (af [.o 0 (.int aS:aj (.v (.int .u64 (((mo a b x).2:Nat):Int))) (.v (.int .u64 (((mo a b (x+1)).1:Nat):Int)))),.o 1 (.int aS:aj (.v (.int .u64 ((((mo a b x).1)%((mo a b x).2):Nat):Int))) (.v (.int .u64 (((mo a b (x+1)).2:Nat):Int))))])) aG)
  (λhx=>by
    exact iM (af [ai 6 ((((mo a b N).2:Nat):Int) != 0) (Ar hN)]) aG) aK:jO 1 Tryz.f24 (Tu a b 0) (.exit 0) ⟨12,true,[(0,.e (.v (.int .u64 (((mo a b N).1:Nat):Int))))],[]⟩) (af [.o 0 (.int aS:aj (.v (.int .u64 (a:Int))) (.v (.int .u64 (((mo a b 0).1:Nat):Int)))),.o 1 (.int aS:aj (.v (.int .u64 (b:Int))) (.v (.int .u64 (((mo a b 0).2:Nat):Int))))])]) 
def LM(a b:Nat)(ha:a<18446744073709551616)(hb:b<18446744073709551616):ig 24 [.v (.int .u64 (a:Int)),.v (.int .u64 (b:Int))] (.v (.int .u64 (Nat.gcd a b:Int))):=by
 obtain⟨N,h1,h2⟩:=SR b a;have hg:=Ly a b N;rw[h2,anA]at hg;rw[<-hg];exact ad5 a b N ha hb h1 h2
def akY(m:Nat)(h:m<=1073741824):ig 25 [iP m] (.v (.int .u64 (m:Int))):=
 ak call25 func25 (af [tF 4 ((m:Int)<0) aD,.o 11 (.int (oj _ aD):aj (.v (.int .u64 (IntKind.u64.wrap (m:Int)))) (.v (.int .u64 (m:Int))))]) 
def akX(m:Nat)(h0:0<m)(h:m<=1073741824):ig 25 [iP (-(m:Int))] (.v (.int .u64 (m:Int))):=
 ak call25 func25 (ae [tT 4 ((-(m:Int))<0) aD,iC ((-(m:Int))+1) aD,iC (0-((-(m:Int))+1)) aD,.o 7 (an (0-((-(m:Int))+1)) ((m-1:Nat):Int) aD),.o 8 (.int (oj _ aD):aj (.v (.int .u64 (IntKind.u64.wrap ((m-1:Nat):Int)))) (.v (.int .u64 ((m-1:Nat):Int)))),nH (((m-1:Nat):Int)+1) aD]<|rQ (.v (.int .u64 (((m-1)+1:Nat):Int))) (.v (.int .u64 (m:Int))) (by rw[(aD:m-1+1=m)])) 
def Pn(n:Int)(h1:-1073741824<=n)(h2:n<=1073741824):ig 25 [iP n] (.v (.int .u64 (n.natAbs:Int))):=by
 by_cases h:0<=n
 .obtain ⟨m,rfl⟩:=dk h;exact akY m aD 
 .obtain ⟨m,rfl⟩:∃ m:Nat,n = -(m:Int):=⟨n.natAbs,aD⟩
  rw[fK,dj];exact akX m aD aD 
def qA(n d:Int):ig 5 [.agg [iP n,iP d]] (bP (jN n d)):=
 ak call5 func5 (.w (1<=d)
  (λk1=>ae [tB 5 (bq k1)]<|.w (d<=1073741824)
   (λk2=>ae [tB 9 (bq k2)]<|.w ((-1073741824)<=n)
    (λk3=>ae [tB 14 (bq k3)]<|.w (n<=1073741824)
     (λk4=>ae [tB 19 (bq k4),ag [iP n] (Pn _ aD aD),.o 27 (.int (al0 aD aD):aj (.v (.int .u64 (IntKind.u64.wrap d))) (.v (.int .u64 (Int.natAbs d:Int)))),.c (LM (Int.natAbs n) (Int.natAbs d) aD aD)]<|rQ (bP ((Nat.gcd (Int.natAbs n) (Int.natAbs d):Int)==1)) (bP (jN n d)) (by unfold jN;simp[xW,k1,k2,k3,k4]))
     (λk4=>ae [tB 19 (bt k4)]<|rQ (bP false) (bP (jN n d)) (by unfold jN;simp[xW,k1,k2,k3,k4])))
    (λk3=>ae [tB 14 (bt k3)]<|rQ (bP false) (bP (jN n d)) (by unfold jN;simp[xW,k1,k2,k3])))
   (λk2=>ae [tB 9 (bt k2)]<|rQ (bP false) (bP (jN n d)) (by unfold jN;simp[xW,k1,k2])))
  (λk1=>ae [tB 5 (bt k1)]<|rQ (bP false) (bP (jN n d)) (by unfold jN;simp[xW,k1]))) 
def W4(v:Nat)(N:Nat)(x:Nat):PS:=⟨29,false,[(4,.e (iP x)),(3,.own 5)],[(5,.row false 72 ((ij v).length) 1 (jl (kP 0 v x (ij v).length)))]⟩
def W5(v:Nat)(x:Nat):PS:=⟨29,false,[(4,.e (iP x)),(3,.own 5)],[(5,.row false 72 ((ij v).length) 1 (jl (kP 0 v x (ij v).length)))]⟩
def SC(n d p:Nat)(x:Nat):PS:=⟨130,true,[(11,.e (iP (63-(x:Int)))),(10,.e (iP 0)),(9,.e (.v (.int .u64 (ja n d 64 x:Int)))),(8,.e (iw (ij (kR n d 64 x)))),(7,.box 7 0),(6,.box 6 0),(0,.e (.v (.int .u64 (n:Int)))),(1,.e (.v (.int .u64 (d:Int)))),(2,.e (iP p))],[(7,.cells 28 aq),(6,.cells 28 aq)]⟩
def SD(n d p:Nat)(y:Nat):PS:=⟨130,true,[(10,.e (iP (0-(y:Int)))),(9,.e (.v (.int .u64 (lj n d y:Int)))),(8,.e (iw (ij (jX n d y)))),(7,.box 7 0),(6,.box 6 0),(1,.e (.v (.int .u64 (d:Int)))),(2,.e (iP p))],[(7,.cells 28 aq),(6,.cells 28 aq)]⟩
def SE(n d p K:Nat)(y:Nat):PS:=⟨130,false,[(15,.own 15),(16,.e (iP ((32*y:Nat):Int))),(14,.e (bP ((lj n d K:Int)==0))),(13,.e (iP (ln n d p K:Int))),(10,.e (iP (0-(K:Int)))),(8,.e (iw (ij (jX n d K)))),(7,.box 7 0),(6,.box 6 0),(2,.e (iP p))],[(15,.row false 72 y 1 (jl (iY (kg n d p K) y))),(7,.cells 28 aq),(6,.cells 28 aq)]⟩
def SF(n d p K y:Nat)(k:Nat):PS:=⟨130,false,[(18,.e (iP k)),(17,.e (.v (.int .u32 (((iH (kg n d p K) y)%2^k:Nat):Int)))),(15,.own 15),(16,.e (iP ((32*y:Nat):Int))),(14,.e (bP ((lj n d K:Int)==0))),(13,.e (iP (ln n d p K:Int))),(10,.e (iP (0-(K:Int)))),(8,.e (iw (ij (jX n d K)))),(7,.box 7 0),(6,.box 6 0),(2,.e (iP p))],[(15,.row false 72 y 1 (jl (iY (kg n d p K) y))),(7,.cells 28 aq),(6,.cells 28 aq)]⟩
def SG(n d p K y:Nat)(k:Nat):PS:=⟨130,false,[(18,.e (iP k)),(17,.e (.v (.int .u32 (((iH (kg n d p K) y)%2^k:Nat):Int)))),(15,.own 15),(16,.e (iP ((32*y:Nat):Int))),(14,.e (bP ((lj n d K:Int)==0))),(13,.e (iP (ln n d p K:Int))),(10,.e (iP (0-(K:Int)))),(8,.e (iw (ij (jX n d K)))),(7,.box 7 0),(6,.box 6 0),(2,.e (iP p))],[(15,.row false 72 y 1 (jl (iY (kg n d p K) y))),(7,.cells 28 aq),(6,.cells 28 aq)]⟩
def SH(n d p K:Nat)(x:Nat):PS:=⟨130,true,[(19,.e (iP x)),(15,.e (iw (ij (kg n d p K)))),(14,.e (bP (oL (lj n d K) (jX n d K) x))),(13,.e (iP (ln n d p K:Int))),(10,.e (iP (0-(K:Int)))),(8,.e (iw (ij (jX n d K)))),(7,.box 7 0),(6,.box 6 0)],[(7,.cells 28 aq),(6,.cells 28 aq)]⟩
def Ym{T n n':Nat}{L L':List Nat}(hn:n=0+L.length)(tz:n'=L.length)(h:L'=L):Bx.le (.row false T n 1 λi_ j_=>if i_<0 then(λi_ j_=>([]:List E).getD (i_*1+j_) (.v (.bool false))) i_ j_ else(E.jH (iw L)) (i_-0) j_) (.row false T n' 1 (jl L')):=by
 subst h;refine .row aD λi j hi hj=>?_
 simp only[bO,bF,dR];exact⟨.jb rfl,rfl⟩
def aae{L:List Nat}{n:Nat}(hn:n=0+L.length):E.le (.sl false n 1 λi_ j_=>if i_<0 then(λi_ j_=>([]:List E).getD (i_*1+j_) (.v (.bool false))) i_ j_ else(E.jH (iw L)) (i_-0) j_) (iw L):=by
 rw[<-AL (aD:n=L.length)];refine .sl λi j hi hj=>?_
 simp only[bO,bF,dR];exact⟨.jb rfl,rfl⟩
def ahF{f:Nat->Nat->E}{v:Nat}(h:v=0):E.le (.sl true 0 1 f) (iw (ij v)):=by
 subst h;rw[mW];intro bs br w v k;cases k with
 |sl _ _ _ _ A c g h1 h2 h3 h4 h5 h6 h7=>exact .sl false 0 1 _ A c g h1 h2 h3 (λi j hi=>absurd hi (bO i)) (λi j hi=>absurd hi (bO i)) (λi j hi=>absurd hi (bO i)) (λi j hi=>absurd hi (bO i))
def agt{L M:List Nat}{n p z:Nat}(hn:n=L.length)(hp:p<L.length)(hs:L.set p z=M):E.le (.sl false n 1 λi' j'=>if i'=p/\0<=j'/\j'<0+1 then[.v (.int .u32 (z:Int))].getD (j'-0) .any else(jl L) i' j') (iw M):=by
 subst hs;have e:n=(L.set p z).length:=by rw[cS];omega
 rw[<-AL e];refine .sl λi j hi hj=>?_
 obtain rfl:j=0:= aD ;by_cases h:i=p
 .subst h;simp only[true_and,bp,ann,bN,b6];exact⟨.jb (by show _=E.v (.int .u32 (((L.set i z).getD i 0:Nat):Int));rw[bu (l:=L.set i z),List.getElem?_set_self hp];rfl),rfl⟩
 .simp only[h,false_and,bF];exact⟨.jb (by show E.v (.int .u32 (L.getD i 0:Int))=E.v (.int .u32 (((L.set p z).getD i 0:Nat):Int));rw[bu,bu,ia (λq=>h q.symm)]),rfl⟩
def agq{N l n:Nat}{L:List Nat}(hn:n=l+1)(h1:iY N (l+1)=L)(h2:iH N l=1):E.le (.sl false n 1 λi_ j_=>if i_<l then(jl (iY N l)) i_ j_ else(E.jH (iw (ij 1))) (i_-l) j_) (iw L):=by
 subst hn h1;rw[<-AL (mP N (l+1)).symm];refine .sl λi j hi hj=>?_
 obtain rfl:j=0:= aD ;by_cases h:i<l
 .simp only[h,bN];exact⟨.jb (by unfold jl;rw[tm h,tm aD]),rfl⟩
 .obtain rfl:i=l:= aD ;simp only[e9,bF,di];exact⟨.jb (by show E.v (.int .u32 (((ij 1).getD 0 0:Nat):Int))=_;unfold jl;rw[tm aD,h2,C3];rfl),rfl⟩
def ahA(v:Nat)(hs:(ij v).length<=1000000)(N:Nat)(hN:N<(ij v).length)(jk:∀ k,k<N->iH v k=4294967295)(hd:iH v N≠4294967295):ig 87 [iw (ij v)] (iw (ij (v+1))):=by
 have iO:=pt v N;exact al call87 func87 (ae [.bo,.a (aD:(0+(ij v).length)*4<=140737488355328),.s (Sp.jP (W4 v N) 0 N aD (λx hx lp=>by
    have qt:=jk x aD;exact iM (ae [tT 11 ((x:Int)<((ij v).length:Int)) aD,iX (x:Int) ((ij v).length) aD,.a (aD:x<(ij v).length),.o 17 (.int (by rw[Fv aD]):aj (.v (.int .u32 (((kP 0 v x (ij v).length).getD x 0:Nat):Int))) (.v (.int .u32 (iH v x:Int)))),.o 18 (.int (by rw[qt,Ba];rfl):aj (.v (.int .u32 (IntKind.u32.wrap ((iH v x:Int)+1)))) (.v (.int .u32 (iH 0 x:Int)))),iX (x:Int) ((ij v).length) aD,.a (aD:x<(ij v).length),iX (x:Int) ((ij v).length) aD,.a (aD:x<(ij v).length),.o 23 (.e (.jb aJ):aj ((λi' j'=>if i'=x/\0<=j'/\j'<0+1 then[.v (.int .u32 (iH 0 x:Int))].getD (j'-0) .any else(jl (kP 0 v x (ij v).length)) i' j') x 0) (.v (.int .u32 (iH 0 x:Int)))),ai 24 ((iH 0 x:Int) != 0) (Ar (Ba x)),iC ((x:Int)+1) aD]<|.e (af [.b 5 (Dp rfl a7 Jb:Bx.le (.row false 72 ((ij v).length) 1 (λi' j'=>if i'=x/\0<=j'/\j'<0+1 then[.v (.int .u32 (iH 0 x:Int))].getD (j'-0) .any else(jl (kP 0 v x (ij v).length)) i' j')) (.row false 72 ((ij v).length) 1 (jl (kP 0 v (x+1) (ij v).length))))])) aG)
  (λhx=>by
    exact iM (af [tT 11 ((N:Int)<((ij v).length:Int)) aD,iX (N:Int) ((ij v).length) aD,.a (aD:N<(ij v).length),.o 17 (.int (by rw[Fv aD]):aj (.v (.int .u32 (((kP 0 v N (ij v).length).getD N 0:Nat):Int))) (.v (.int .u32 (iH v N:Int)))),.o 18 (.int a6:aj (.v (.int .u32 (IntKind.u32.wrap ((iH v N:Int)+1)))) (.v (.int .u32 ((iH v N+1:Nat):Int)))),iX (N:Int) ((ij v).length) aD,.a (aD:N<(ij v).length),iX (N:Int) ((ij v).length) aD,.a (aD:N<(ij v).length),.o 23 (.e (.jb aJ):aj ((λi' j'=>if i'=N/\0<=j'/\j'<0+1 then[.v (.int .u32 ((iH v N+1:Nat):Int))].getD (j'-0) .any else(jl (kP 0 v N (ij v).length)) i' j') N 0) (.v (.int .u32 ((iH v N+1:Nat):Int)))),ah 24 (((iH v N+1:Nat):Int) != 0) (C9 aD)]) aG) aK:jO 3 Tryz.f87 (W4 v N 0) .ret ⟨29,false,[(2,.own 5)],[(5,.row false 72 ((ij v).length) 1 (λi' j'=>if i'=N/\0<=j'/\j'<0+1 then[.v (.int .u32 ((iH v N+1:Nat):Int))].getD (j'-0) .any else(jl (kP 0 v N (ij v).length)) i' j'))]⟩) (af [.b 5 (Ym rfl rfl (by rw[Fw,Ld]):Bx.le (.row false 72 (0+(ij v).length) 1 (λi_ j_=>if i_<0 then(λi_ j_=>([]:List E).getD (i_*1+j_) (.v (.bool false))) i_ j_ else(E.jH (iw (ij v))) (i_-0) j_)) (.row false 72 ((ij v).length) 1 (jl (kP 0 v 0 (ij v).length))))])]<|rR (iw (ij (v+1))) (agt (by rw[uC]) (by rw[uC];exact hN) (ahD hN jk hd):E.le (.sl false ((ij v).length) 1 (λi' j'=>if i'=N/\0<=j'/\j'<0+1 then[.v (.int .u32 ((iH v N+1:Nat):Int))].getD (j'-0) .any else(jl (kP 0 v N (ij v).length)) i' j')) (iw (ij (v+1))))) 
def ahy(v:Nat)(hs:(ij v).length<=1000000)(jk:∀ k,k<(ij v).length->iH v k=4294967295):ig 87 [iw (ij v)] (iw (ij (v+1))):=by
 obtain⟨h1,h2,h3⟩:=ahB jk;have rZ:(kP 0 v ((ij v).length) (ij v).length)=iY (v+1) (ij v).length:=by rw[Ja (bp _),h1]
 have wQ:(ij 1).length=1:=by rw[C3];rfl
 exact al call87 func87 (ae [.bo,.a (aD:(0+(ij v).length)*4<=140737488355328),.s (Sp.jP (W5 v) 0 ((ij v).length) aD (λx hx lp=>by
    have qt:=jk x aD;exact iM (ae [tT 11 ((x:Int)<((ij v).length:Int)) aD,iX (x:Int) ((ij v).length) aD,.a (aD:x<(ij v).length),.o 17 (.int (by rw[Fv aD]):aj (.v (.int .u32 (((kP 0 v x (ij v).length).getD x 0:Nat):Int))) (.v (.int .u32 (iH v x:Int)))),.o 18 (.int (by rw[qt,Ba];rfl):aj (.v (.int .u32 (IntKind.u32.wrap ((iH v x:Int)+1)))) (.v (.int .u32 (iH 0 x:Int)))),iX (x:Int) ((ij v).length) aD,.a (aD:x<(ij v).length),iX (x:Int) ((ij v).length) aD,.a (aD:x<(ij v).length),.o 23 (.e (.jb aJ):aj ((λi' j'=>if i'=x/\0<=j'/\j'<0+1 then[.v (.int .u32 (iH 0 x:Int))].getD (j'-0) .any else(jl (kP 0 v x (ij v).length)) i' j') x 0) (.v (.int .u32 (iH 0 x:Int)))),ai 24 ((iH 0 x:Int) != 0) (Ar (Ba x)),iC ((x:Int)+1) aD]<|.e (af [.b 5 (Dp rfl a7 Jb:Bx.le (.row false 72 ((ij v).length) 1 (λi' j'=>if i'=x/\0<=j'/\j'<0+1 then[.v (.int .u32 (iH 0 x:Int))].getD (j'-0) .any else(jl (kP 0 v x (ij v).length)) i' j')) (.row false 72 ((ij v).length) 1 (jl (kP 0 v (x+1) (ij v).length))))])) aG)
  (λhx=>by
    exact iM (ae [tF 11 (((ij v).length:Int)<((ij v).length:Int)) aD]<|.e (af [.b 5 (.jb (by rw[rZ]):Bx.le (.row false 72 ((ij v).length) 1 (jl (kP 0 v ((ij v).length) (ij v).length))) (.row false 72 ((ij v).length) 1 (jl (iY (v+1) (ij v).length))))])) aG) aK:jO 3 Tryz.f87 (W5 v 0) (.exit 0) ⟨29,false,[(3,.own 5)],[(5,.row false 72 ((ij v).length) 1 (jl (iY (v+1) (ij v).length)))]⟩) (af [.b 5 (Ym rfl rfl (by rw[Fw,Ld]):Bx.le (.row false 72 (0+(ij v).length) 1 (λi_ j_=>if i_<0 then(λi_ j_=>([]:List E).getD (i_*1+j_) (.v (.bool false))) i_ j_ else(E.jH (iw (ij v))) (i_-0) j_)) (.row false 72 ((ij v).length) 1 (jl (kP 0 v 0 (ij v).length))))]),.o 27 (.e xd:aj (.sl false 1 1 λi_ j_=>[.v (.int .u32 1)].getD (i_*1+j_) (.v (.bool false))) (iw (ij 1))),.a (aD:((ij v).length+(ij 1).length)*4<=140737488355328)]<|rR (iw (ij (v+1))) (agq aD h3 h2:E.le (.sl false ((ij v).length+(ij 1).length) 1 (λi_ j_=>if i_<(ij v).length then(jl (iY (v+1) (ij v).length)) i_ j_ else(E.jH (iw (ij 1))) (i_-(ij v).length) j_)) (iw (ij (v+1))))) 
def ahz(v:Nat)(hs:(ij v).length<=1000000):ig 87 [iw (ij v)] (iw (ij (v+1))):=by
 by_cases h:∃ k,k<(ij v).length/\decide (iH v k≠4294967295)=true
 .obtain ⟨N,h1,h2,h3⟩:=sY h;exact ahA v hs N h1 (λk hk=>b9 λq=>by have:=anz (h3 k hk);exact this q) (dK h2)
 .exact ahy v hs λk hk=>b9 λq=>h ⟨k,hk,bq q⟩
def ahq(d:Dy)(h:d.m≠0):(Dy.mk (!d.neg) d.m d.e)=jf d:=by unfold jf;simp[h]
def ahr(d:Dy)(hd:d.lh)(h:d.m=0):d=jf d:=by
 have:=hd;obtain⟨s,m,e⟩:=d;simp only at h;subst h;have hz:=OB hd (BK hd) (by rw[pk,pU];simp);exact hz
def aht(d:Dy)(h:d.m≠0):ig 31 [im d] (im (jf d)):=
 ak call31 func31 (ae [tT 6 (0<((ij d.m).length:Int)) (by have:¬(ij d.m).length=0:=λq=>h (qg.1 q);omega)]<|rQ (im (Dy.mk (!d.neg) d.m d.e)) (im (jf d)) (by rw[ahq d h])) 
def ahs(d:Dy)(hd:d.lh)(h:d.m=0):ig 31 [im d] (im (jf d)):=
 ak call31 func31 (ae [tF 6 (0<((ij d.m).length:Int)) (by have:=qg.2 h;omega)]<|rQ (im d) (im (jf d)) (by rw[<-ahr d hd h])) 
def WL(d:Dy)(hd:d.lh):ig 31 [im d] (im (jf d)):=by
 by_cases h:d.m=0
 .exact ahs d hd h
 .exact aht d h
def acP{n x:Nat}(hn:n<18446744073709551616)(hx:x<64):bits .and .u64 ((n:Int)/2^(63-(x:Int)).toNat) 1=(jr n 64 x:Int):=by
 have e:(63-(x:Int)).toNat=64-1-x:= aD ;have e2:(n:Int)/2^(64-1-x)=((n/2^(64-1-x):Nat):Int):= aJ ;rw[e,e2,show(1:Int)=((1:Nat):Int)from rfl,PF _ _ (cK (cE _ _) hn) aF,gX];rfl
def Sg{n d y:Nat}(hn:n<=1073741824):iA (jX n d y)<=31+y/\iA (2*jX n d y)<=32+y:=by
 have h:=cE (n*2^y) d;constructor
 .refine kV.2 (cK h ?_);rw[bw];exact dg aD (bA aF)
 .have h3:2*jX n d y<=2*n*2^y:=by unfold jX;rw[bB];omega
  refine kV.2 (cK h3 ?_);rw[bw];exact dg aD (bA aF)
def Ec{n d y:Nat}(hn:n<=1073741824)(hy:y<=1000):(ij (jX n d y)).length<=100:=by
 have h1:=(Sg (d:=d) (y:=y) hn).1;have h2:=Fj (w:=jX n d y) (y:=100);omega
def acQ{n d y:Nat}(hn:n<=1073741824)(hy:y<=999):(ij (2*jX n d y)).length<=100:=by
 have h1:=(Sg (d:=d) (y:=y) hn).2;have h2:=Fj (w:=2*jX n d y) (y:=100);omega
def YU{v:Nat}(h:v<18446744073709551616):(ij v).length<=2:=q9 h
def acT{T p y:Nat}(hT:iA T=p)(h:p-32*y<32):iH T y<2^(p-32*y):=by
 have h1:=pE T;rw[hT]at h1;unfold iH;refine cK (gI _ _) ?_;rw[cr (pw y),nF,<-bw];exact bT h1 (bI aF aD)
def acU{T p Y:Nat}(hT:iA T=p)(hp:1<=p)(hY:Y=(p+31)/32):iY T Y=ij T:=by
 apply Fk;have h1:∀ y,y<(ij T).length↔32*y<iA T:=λy=>Fj
 have h2:=h1 Y;have h3:=h1 (Y-1);rw[hT]at h2 h3;omega
def Si{n d p K y k:Nat}(hk:k<32):jX n d K/2^((ln n d p K+32*y)+k)%2=iH (kg n d p K) y/2^k%2:=by
 rw[RP hk];unfold kg;rw[cU,<-bw,dh]
def ade(n d p K:Nat)(hn:1<=n)(kx:n<=1073741824)(hd:1<=d)(sy:d<=1073741824)(hp:8<=p)(iq:p<=512)(hK:K<p+31)(jk:∀ y,y<K->iA (jX n d y)<p)(hb:p<=iA (jX n d K))(Y:Nat)(hY:Y=(p+31)/32):ig 30 [.v (.int .u64 (n:Int)),.v (.int .u64 (d:Int)),iP p] (.iB [im (canon false (kg n d p K) (nE n d p K)),im (if(oL (lj n d K) (jX n d K) (ln n d p K))=true then canon false (kg n d p K) (nE n d p K)else canon false ((kg n d p K)+1) (nE n d p K))]):=by
 have h0:=R9 (a:=n) (b:=d) (n:=64) aD;have h1:kR n d 64 64=jX n d 0/\ja n d 64 64=lj n d 0:=by
  obtain⟨a,b⟩:=R5 n d 64;rw[a,b];unfold jX lj;rw[ca,cg];exact⟨rfl,rfl⟩
 have kA:=Hj hb;have hTY:=acU kA aD hY;have hLo:=Lr hd kx hb aD;have hlK:=Ec (d:=d) (y:=K) kx aD;have hT0:(kg n d p K)≠0:=λq=>by rw[q,sx]at kA;omega
 have Bh:(ij (kg n d p K)).length<=100:=by
  have:=Fj (w:=(kg n d p K)) (y:=100);omega
 have amu:(ij ((kg n d p K)+1)).length<=101:=by
  have h2:=uB Bh;refine q9 ?_;rw[bG];omega
 have hL4:ln n d p K=iA (jX n d K)-p:=rfl;exact ak call30 func30 (ae [.s (Sp.jP (SC n d p) 0 64 aD (λx hx lp=>by
    have hr:(ja n d 64 x)<d:=bC _ aD;have Bi:=Hd n 64 x;have vw:(kR n d 64 x)<=n:=bJ (cE _ _) (cE _ _);have wO:=YU (show(kR n d 64 x)<18446744073709551616 by omega);have nt:=YU (aD:2*(kR n d 64 x)<18446744073709551616);exact iM (ae [tT 23 (0<=(63-(x:Int))) aD,nH (2*(ja n d 64 x:Int)) aD,.a (aD:0<=((63-(x:Int)):Int)/\((63-(x:Int)):Int)<=((64:Nat):Int)),.o 31 (.int (acP aD aD):aj (.v (.int .u64 (bits .and .u64 ((n:Int)/2^((63-(x:Int))).toNat) 1))) (.v (.int .u64 (jr n 64 x:Int)))),
     nH (((2*(ja n d 64 x):Nat):Int)+(jr n 64 x:Int)) aD,.a (aD:0<((d:Int):Int)),nH (((2*(ja n d 64 x))+(jr n 64 x):Nat):Int) aD,.a (aD:0<((d:Int):Int)),.bo,.bo,.a (aD:(0+(ij (kR n d 64 x)).length)*4<=140737488355328),.o 41 (.e (aae rfl):aj (.sl false (0+(ij (kR n d 64 x)).length) 1 (λi_ j_=>if i_<0 then(λi_ j_=>([]:List E).getD (i_*1+j_) (.v (.bool false))) i_ j_ else(E.jH (iw (ij (kR n d 64 x)))) (i_-0) j_)) (iw (ij (kR n d 64 x)))),ag [iw (ij (kR n d 64 x)),.v (.int .u64 0)] (YH _ aD)]<|.w (((2*(ja n d 64 x))+(jr n 64 x))<d)
     (λhq=>by
      have hm:((2*(ja n d 64 x))+(jr n 64 x))%d=((2*(ja n d 64 x))+(jr n 64 x)):=by rw[bQ hq]
      have hqd:((2*(ja n d 64 x))+(jr n 64 x))/d=0:=cA hq;have hs:=R6 (a:=n) (b:=d) (n:=64) (x:=x) aD aD hq;exact ae [ai 44 (((((2*(ja n d 64 x))+(jr n 64 x))/d:Nat):Int)==1) (bd aD),iC ((63-(x:Int))-1) aD]<|.e (af [.o 11 (an ((63-(x:Int))-1) (63-((x+1:Nat):Int)) aD),.o 9 (.int (by rw[hs.1,hm]):aj (.v (.int .u64 ((((2*(ja n d 64 x))+(jr n 64 x))%d:Nat):Int))) (.v (.int .u64 (ja n d 64 (x+1):Int)))),.o 8 (.e (.jb (by rw[hs.2])):aj (iw (ij (2*(kR n d 64 x)))) (iw (ij (kR n d 64 (x+1)))))]))
     (λhq=>by
      have hm:((2*(ja n d 64 x))+(jr n 64 x))%d=((2*(ja n d 64 x))+(jr n 64 x))-d:=by rw[Nat.mod_eq_sub_mod aD,bQ aD]
      have hqd:((2*(ja n d 64 x))+(jr n 64 x))/d=1:=by rw[Nat.div_eq_sub_div aD aD,cA aD]
      have hs:=R7 (a:=n) (b:=d) (n:=64) (x:=x) aD aD hq;exact ae [ah 44 (((((2*(ja n d 64 x))+(jr n 64 x))/d:Nat):Int)==1) (bg aD),ag [iw (ij (2*(kR n d 64 x)))] (YF _ aD aD),iC ((63-(x:Int))-1) aD]<|.e (af [.o 11 (an ((63-(x:Int))-1) (63-((x+1:Nat):Int)) aD),.o 9 (.int (by rw[hs.1,hm]):aj (.v (.int .u64 ((((2*(ja n d 64 x))+(jr n 64 x))%d:Nat):Int))) (.v (.int .u64 (ja n d 64 (x+1):Int)))),.o 8 (.e (.jb (by rw[hs.2])):aj (iw (ij ((2*(kR n d 64 x))+1))) (iw (ij (kR n d 64 (x+1)))))]))) aG)
  (λhx=>by
    exact iM (af [tF 23 (0<=(63-((64:Nat):Int))) aD]) aG) aK:jO 5 Tryz.f30 (SC n d p 0) (.exit 0) ⟨130,true,[(10,.e (iP 0)),(9,.e (.v (.int .u64 (ja n d 64 64:Int)))),(8,.e (iw (ij (kR n d 64 64)))),(7,.box 7 0),(6,.box 6 0),(1,.e (.v (.int .u64 (d:Int)))),(2,.e (iP p))],[(7,.cells 28 aq),(6,.cells 28 aq)]⟩) (af [.o 11 (an 63 (63-((0:Nat):Int)) aD),.o 9 (.int (by rw[h0.1];rfl):aj (.v (.int .u64 0)) (.v (.int .u64 (ja n d 64 0:Int)))),.o 8 (.e (ahF h0.2):aj (.sl true 0 1 λi_ j_=>[].getD (i_*1+j_) (.v (.bool false))) (iw (ij (kR n d 64 0))))]),.s (Sp.jP (SD n d p) 0 K aD (λy hy EH=>by
    have wO:=Ec (d:=d) (y:=y) kx aD;have nt:=acQ (d:=d) (y:=y) kx aD;have Ue:=jk y aD;have II:(lj n d y)<d:=bC _ aD;exact iM (ae [ag [iw (ij (jX n d y))] (GN _ aD),tT 50 ((iA (jX n d y):Int)<p) aD,nH (2*(lj n d y:Int)) aD,ag [iw (ij (jX n d y)),.v (.int .u64 0)] (YH _ aD)]<|.w (2*lj n d y<d)
     (λhq=>by
      have hs:=acR (n:=n) (d:=d) (y:=y) aD hq;exact ae [tF 57 ((d:Int)<=((2*(lj n d y):Nat):Int)) aD,iC ((0-(y:Int))-1) aD]<|.e (af [.o 10 (an ((0-(y:Int))-1) (0-((y+1:Nat):Int)) aD),.o 9 (.int (by rw[hs.1]):aj (.v (.int .u64 ((2*(lj n d y):Nat):Int))) (.v (.int .u64 (lj n d (y+1):Int)))),.o 8 (.e (.jb (by rw[hs.2])):aj (iw (ij (2*(jX n d y)))) (iw (ij (jX n d (y+1)))))]))
     (λhq=>by
      have hs:=acS (n:=n) (d:=d) (y:=y) aD hq;exact ae [tT 57 ((d:Int)<=((2*(lj n d y):Nat):Int)) aD,nH (((2*(lj n d y):Nat):Int)-d) aD,.o 60 (.int aD:aj (.v (.int .u64 (((2*(lj n d y):Nat):Int)-d))) (.v (.int .u64 ((2*lj n d y-d:Nat):Int)))),ag [iw (ij (2*(jX n d y)))] (YF _ aD aD),iC ((0-(y:Int))-1) aD]<|.e (af [.o 10 (an ((0-(y:Int))-1) (0-((y+1:Nat):Int)) aD),.o 9 (.int (by rw[hs.1]):aj (.v (.int .u64 ((2*lj n d y-d:Nat):Int))) (.v (.int .u64 (lj n d (y+1):Int)))),.o 8 (.e (.jb (by rw[hs.2])):aj (iw (ij ((2*(jX n d y))+1))) (iw (ij (jX n d (y+1)))))]))) aG)
  (λhy=>by
    have wO:=Ec (d:=d) (y:=K) kx aD;exact iM (af [ag [iw (ij (jX n d K))] (GN _ aD),tF 50 ((iA (jX n d K):Int)<p) aD]) aG) aK:jO 13 Tryz.f30 (SD n d p 0) (.exit 2) ⟨130,false,[(10,.e (iP (0-(K:Int)))),(9,.e (.v (.int .u64 (lj n d K:Int)))),(8,.e (iw (ij (jX n d K)))),(7,.box 7 0),(6,.box 6 0),(2,.e (iP p))],[(7,.cells 28 aq),(6,.cells 28 aq)]⟩) (af [.o 10 (an 0 (0-((0:Nat):Int)) aD),.o 9 (.int (by rw[h1.2]):aj (.v (.int .u64 (ja n d 64 64:Int))) (.v (.int .u64 (lj n d 0:Int)))),.o 8 (.e (.jb (by rw[h1.1])):aj (iw (ij (kR n d 64 64))) (iw (ij (jX n d 0))))]),ag [iw (ij (jX n d K))] (GN _ aD),iC ((iA (jX n d K):Int)-p) aD,.o 68 (an ((iA (jX n d K):Int)-p) (ln n d p K:Int) aD),.y 15 15 false 72 1 (jl (iY (kg n d p K) 0)),.s (Sp.jP (SE n d p K) 0 Y aD (λy hy EH=>by
    have hD:=pt (kg n d p K) y;have wO:=Ec (d:=d) (y:=K) kx aD;exact iM (ae [tT 73 (((32*y:Nat):Int)<p) aD]<|.w (32<=p-32*y)
     (λhf=>by
      have hz:(((iH (kg n d p K) y)%2^32:Nat):Int)=(iH (kg n d p K) y:Int):=by rw[bQ hD]
      exact ae [.s (Sp.jP (SF n d p K y) 0 32 aD (λk hk qI=>by
    exact iM (af [tT 77 ((k:Int)<32) aD,iC (((32*y:Nat):Int)+k) aD,tT 83 ((((32*y)+k:Nat):Int)<p) aD,
     iC ((ln n d p K:Int)+((32*y:Nat):Int)) aD,iC ((((ln n d p K)+(32*y):Nat):Int)+k) aD,.c (GL (jX n d K) (((ln n d p K)+(32*y))+k) aD aD),.o 94 (an (((jX n d K)/2^(((ln n d p K)+(32*y))+k)%2:Nat):Int) (((iH (kg n d p K) y)/2^k%2:Nat):Int) (by rw[Si aD])),.o 95 (.int a6:aj (.v (.int .u32 (IntKind.u32.wrap (((iH (kg n d p K) y)/2^k%2:Nat):Int)))) (.v (.int .u32 (((iH (kg n d p K) y)/2^k%2:Nat):Int)))),.a (aD:0<=((k:Int):Int)/\((k:Int):Int)<=((32:Nat):Int)),.o 97 (.int (Pj aD aD):aj (.v (.int .u32 (IntKind.u32.wrap ((((iH (kg n d p K) y)/2^k%2:Nat):Int)*2^k)))) (.v (.int .u32 ((((iH (kg n d p K) y)/2^k%2)*2^k:Nat):Int)))),.o 98 (.int (On aD hD):aj (.v (.int .u32 (bits .or .u32 (((iH (kg n d p K) y)%2^k:Nat):Int) ((((iH (kg n d p K) y)/2^k%2)*2^k:Nat):Int)))) (.v (.int .u32 (((iH (kg n d p K) y)%2^(k+1):Nat):Int)))),
     iC ((k:Int)+1) aD]) aG)
  (λhk=>by
    exact iM (af [ai 77 (decide ((32:Int)<32)) aF]) aG) aK:jO 28 Tryz.f30 (SF n d p K y 0) (.exit 6) ⟨130,false,[(83,.e (.v (.tuple #[]))),(82,.e (.v (.tuple #[]))),(81,.e (.v (.tuple #[]))),(80,.e (.v (.tuple #[]))),(79,.e (.v (.tuple #[]))),(17,.e (.v (.int .u32 (((iH (kg n d p K) y)%2^32:Nat):Int)))),(15,.own 15),(16,.e (iP ((32*y:Nat):Int))),(14,.e (bP ((lj n d K:Int)==0))),(13,.e (iP (ln n d p K:Int))),(10,.e (iP (0-(K:Int)))),(8,.e (iw (ij (jX n d K)))),(7,.box 7 0),(6,.box 6 0),(2,.e (iP p))],[(15,.row false 72 y 1 (jl (iY (kg n d p K) y))),(7,.cells 28 aq),(6,.cells 28 aq)]⟩) (af [.o 17 (.int (by rw[ca,dn];rfl):aj (.v (.int .u32 0)) (.v (.int .u32 (((iH (kg n d p K) y)%2^0:Nat):Int))))]),.a (aD:(y+1)*4<=140737488355328),iC (((32*y:Nat):Int)+32) aD]<|.e (af [.o 16 (an (((32*y)+32:Nat):Int) ((32*(y+1):Nat):Int) aS),.b 15 (Al rfl hz:Bx.le (.row false 72 (y+1) 1 (λi_ j_=>if i_<y then(jl (iY (kg n d p K) y)) i_ j_ else(E.jH (.sl false 1 1 λi_ j_=>[.v (.int .u32 (((iH (kg n d p K) y)%2^32:Nat):Int))].getD (i_*1+j_) (.v (.bool false)))) (i_-y) j_)) (.row false 72 (y+1) 1 (jl (iY (kg n d p K) (y+1)))))]))
     (λhf=>by
      have hz:(((iH (kg n d p K) y)%2^(p-32*y):Nat):Int)=(iH (kg n d p K) y:Int):=by rw[bQ (acT kA aD)]
      exact ae [.s (Sp.jP (SG n d p K y) 0 (p-32*y) aD (λk hk qI=>by
    exact iM (af [tT 77 ((k:Int)<32) aD,iC (((32*y:Nat):Int)+k) aD,tT 83 ((((32*y)+k:Nat):Int)<p) aD,
     iC ((ln n d p K:Int)+((32*y:Nat):Int)) aD,iC ((((ln n d p K)+(32*y):Nat):Int)+k) aD,.c (GL (jX n d K) (((ln n d p K)+(32*y))+k) aD aD),.o 94 (an (((jX n d K)/2^(((ln n d p K)+(32*y))+k)%2:Nat):Int) (((iH (kg n d p K) y)/2^k%2:Nat):Int) (by rw[Si aD])),.o 95 (.int a6:aj (.v (.int .u32 (IntKind.u32.wrap (((iH (kg n d p K) y)/2^k%2:Nat):Int)))) (.v (.int .u32 (((iH (kg n d p K) y)/2^k%2:Nat):Int)))),.a (aD:0<=((k:Int):Int)/\((k:Int):Int)<=((32:Nat):Int)),.o 97 (.int (Pj aD aD):aj (.v (.int .u32 (IntKind.u32.wrap ((((iH (kg n d p K) y)/2^k%2:Nat):Int)*2^k)))) (.v (.int .u32 ((((iH (kg n d p K) y)/2^k%2)*2^k:Nat):Int)))),.o 98 (.int (On aD hD):aj (.v (.int .u32 (bits .or .u32 (((iH (kg n d p K) y)%2^k:Nat):Int) ((((iH (kg n d p K) y)/2^k%2)*2^k:Nat):Int)))) (.v (.int .u32 (((iH (kg n d p K) y)%2^(k+1):Nat):Int)))),
     iC ((k:Int)+1) aD]) aG)
  (λhk=>by
    exact iM (af [tT 77 (((p-32*y:Nat):Int)<32) aD,iC (((32*y:Nat):Int)+((p-32*y:Nat):Int)) aD,tF 83 ((((32*y)+(p-32*y):Nat):Int)<p) aD]) aG) aK:jO 28 Tryz.f30 (SG n d p K y 0) (.exit 6) ⟨130,false,[(83,.e (bP false)),(82,.e (iP p)),(81,.e (iP (((32*y)+(p-32*y):Nat):Int))),(80,.e (iP ((p-32*y:Nat):Int))),(79,.e (iP ((32*y:Nat):Int))),(17,.e (.v (.int .u32 (((iH (kg n d p K) y)%2^(p-32*y):Nat):Int)))),(15,.own 15),(16,.e (iP ((32*y:Nat):Int))),(14,.e (bP ((lj n d K:Int)==0))),(13,.e (iP (ln n d p K:Int))),(10,.e (iP (0-(K:Int)))),(8,.e (iw (ij (jX n d K)))),(7,.box 7 0),(6,.box 6 0),(2,.e (iP p))],[(15,.row false 72 y 1 (jl (iY (kg n d p K) y))),(7,.cells 28 aq),(6,.cells 28 aq)]⟩) (af [.o 17 (.int (by rw[ca,dn];rfl):aj (.v (.int .u32 0)) (.v (.int .u32 (((iH (kg n d p K) y)%2^0:Nat):Int))))]),.a (aD:(y+1)*4<=140737488355328),iC (((32*y:Nat):Int)+32) aD]<|.e (af [.o 16 (an (((32*y)+32:Nat):Int) ((32*(y+1):Nat):Int) aS),.b 15 (Al rfl hz:Bx.le (.row false 72 (y+1) 1 (λi_ j_=>if i_<y then(jl (iY (kg n d p K) y)) i_ j_ else(E.jH (.sl false 1 1 λi_ j_=>[.v (.int .u32 (((iH (kg n d p K) y)%2^(p-32*y):Nat):Int))].getD (i_*1+j_) (.v (.bool false)))) (i_-y) j_)) (.row false 72 (y+1) 1 (jl (iY (kg n d p K) (y+1)))))]))) aG)
  (λhy=>by
    exact iM (ae [tF 73 (((32*Y:Nat):Int)<p) aD,.z 15]<|.e (af [.o 15 (.e (.jb (by rw[AL (mP _ _).symm,hTY])):aj (.sl false Y 1 (jl (iY (kg n d p K) Y))) (iw (ij (kg n d p K))))])) aG) aK:jO 24 Tryz.f30 (SE n d p K 0) (.exit 4) ⟨130,true,[(15,.e (iw (ij (kg n d p K)))),(14,.e (bP ((lj n d K:Int)==0))),(13,.e (iP (ln n d p K:Int))),(10,.e (iP (0-(K:Int)))),(8,.e (iw (ij (jX n d K)))),(7,.box 7 0),(6,.box 6 0)],[(7,.cells 28 aq),(6,.cells 28 aq)]⟩) (af [.o 16 (an 0 ((32*0:Nat):Int) aS)]),.s (Sp.jP (SH n d p K) 0 (ln n d p K) aD (λx hx lp=>by
    have wO:=Ec (d:=d) (y:=K) kx aD;exact iM (ae [tT 105 ((x:Int)<(ln n d p K:Int)) aD]<|.w ((oL (lj n d K) (jX n d K) x)=true)
     (λhq=>ae [ah 108 (oL (lj n d K) (jX n d K) x) hq,.c (GL (jX n d K) x aD aD)]<|.w ((jX n d K)/2^x%2=0)
      (λIl=>ae [ah 113 ((((jX n d K)/2^x%2:Nat):Int)==0) (bg aD),iC ((x:Int)+1) aD]<|.e (af [.o 14 (.bool (acN hq Il).symm:aj (bP true) (bP (oL (lj n d K) (jX n d K) (x+1))))]))
      (λIl=>ae [ai 113 ((((jX n d K)/2^x%2:Nat):Int)==0) (bd aD),iC ((x:Int)+1) aD]<|.e (af [.o 14 (.bool (acL Il).symm:aj (bP false) (bP (oL (lj n d K) (jX n d K) (x+1))))])))
     (λhq=>ae [tB 108 (bh hq),iC ((x:Int)+1) aD]<|.e (af [.o 14 (.bool (acM (bh hq)).symm:aj (bP false) (bP (oL (lj n d K) (jX n d K) (x+1))))]))) aG)
  (λhx=>by
    exact iM (af [tF 105 ((ln n d p K:Int)<(ln n d p K:Int)) aD]) aG) aK:jO 33 Tryz.f30 (SH n d p K 0) (.exit 8) ⟨130,true,[(15,.e (iw (ij (kg n d p K)))),(14,.e (bP (oL (lj n d K) (jX n d K) (ln n d p K)))),(13,.e (iP (ln n d p K:Int))),(10,.e (iP (0-(K:Int)))),(7,.box 7 0),(6,.box 6 0)],[(7,.cells 28 aq),(6,.cells 28 aq)]⟩) (af [.o 14 (.bool (acO _ _):aj (bP ((lj n d K:Int)==0)) (bP (oL (lj n d K) (jX n d K) 0)))]),
  iC ((0-(K:Int))+(ln n d p K:Int)) aD,ag [bP false,iw (ij (kg n d p K)),iP ((0-(K:Int))+(ln n d p K:Int))] (V7 _ _ aD aD aD aD)]<|.w (oL (lj n d K) (jX n d K) (ln n d p K)=true)
  (λk1=>ae [tB 120 k1]<|rQ (.iB [im (canon false (kg n d p K) ((0-(K:Int))+(ln n d p K:Int))),im (canon false (kg n d p K) ((0-(K:Int))+(ln n d p K:Int)))]) (.iB [im (canon false (kg n d p K) (nE n d p K)),im (if(oL (lj n d K) (jX n d K) (ln n d p K))=true then canon false (kg n d p K) (nE n d p K)else canon false ((kg n d p K)+1) (nE n d p K))]) (by(rw[bn k1])<;>rfl))
  (λk1=>ae [tB 120 (bh k1),ag [iw (ij (kg n d p K))] (ahz _ aD),iC ((0-(K:Int))+(ln n d p K:Int)) aD,ag [bP false,iw (ij ((kg n d p K)+1)),iP ((0-(K:Int))+(ln n d p K:Int))] (V7 _ _ aD aD aD aD)]<|rQ (.iB [im (canon false (kg n d p K) ((0-(K:Int))+(ln n d p K:Int))),im (canon false ((kg n d p K)+1) ((0-(K:Int))+(ln n d p K:Int)))]) (.iB [im (canon false (kg n d p K) (nE n d p K)),im (if(oL (lj n d K) (jX n d K) (ln n d p K))=true then canon false (kg n d p K) (nE n d p K)else canon false ((kg n d p K)+1) (nE n d p K))]) (by(rw[bl k1])<;>rfl))) 
def SK(n d p K:Nat)(hn:1<=n)(kx:n<=1073741824)(hd:1<=d)(sy:d<=1073741824)(hp:8<=p)(iq:p<=512)(hK:K<p+31)(jk:∀ y,y<K->iA (jX n d y)<p)(hb:p<=iA (jX n d K)):
 ig 30 [.v (.int .u64 (n:Int)),.v (.int .u64 (d:Int)),iP p] (.iB [im (canon false (kg n d p K) (nE n d p K)),im (if(oL (lj n d K) (jX n d K) (ln n d p K))=true then canon false (kg n d p K) (nE n d p K)else canon false ((kg n d p K)+1) (nE n d p K))]):=by
 exact ade n d p K hn kx hd sy hp iq hK jk hb _ rfl
def amr:E.le (.agg ar) (ix ⟨iQ,iQ,false⟩):=
 .agg (.cons (.refl _) (.cons y7 (.cons (.refl _) (.cons (.refl _) (.cons y7 (.cons (.refl _) (.cons (.refl _) .nil)))))))
def ac2(d:Int)(p:Nat)(hr:jN 0 d=true)(hp:8<=p)(iq:p<=512):ig 8 [.agg [iP 0,iP d],iP p] (ix (lu 0 d p)):=by
 rw[Yt hp iq hr];exact ak call8 func8 (ae [.c (qA 0 d),ai 9 (!(jN 0 d)) (by rw[hr];rfl),tF 12 ((p:Int)<8) aD,tF 16 (512<(p:Int)) aD,ah 21 ((0:Int)==0) aF]<|rR (ix (Iv.mk iQ iQ false)) (amr:E.le (.agg ar) (ix (Iv.mk iQ iQ false)))) 
def ac1(n d p K:Nat)(hn:1<=n)(kx:n<=1073741824)(hd:1<=d)(sy:d<=1073741824)(hp:8<=p)(iq:p<=512)(hK:K<p+31)(jk:∀ y,y<K->iA (jX n d y)<p)(hb:p<=iA (jX n d K))(hr:jN (n:Int) (d:Int)=true):ig 8 [.agg [iP n,iP d],iP p] (ix (lu (n:Int) (d:Int) p)):=by
 rw[Ys kx hd hp iq hK hb hr];exact ak call8 func8 (af [.c (qA (n:Int) (d:Int)),ai 9 (!(jN (n:Int) (d:Int))) (by rw[hr];rfl),tF 12 ((p:Int)<8) aD,tF 16 (512<(p:Int)) aD,ai 21 ((n:Int)==0) (bd aD),ag [iP n] (Pn _ aD aD),.o 26 (.int aD:aj (.v (.int .u64 (Int.natAbs (n:Int):Int))) (.v (.int .u64 (n:Int)))),.o 29 (.int (oj _ aD):aj (.v (.int .u64 (IntKind.u64.wrap (d:Int)))) (.v (.int .u64 (d:Int)))),ag [.v (.int .u64 (n:Int)),.v (.int .u64 (d:Int)),iP p] (SK _ _ _ K hn kx hd sy hp iq hK jk hb),tF 36 ((n:Int)<0) aD]) 
def ac0(n d p K:Nat)(hn:1<=n)(kx:n<=1073741824)(hd:1<=d)(sy:d<=1073741824)(hp:8<=p)(iq:p<=512)(hK:K<p+31)(jk:∀ y,y<K->iA (jX n d y)<p)(hb:p<=iA (jX n d K))(hr:jN (-(n:Int)) (d:Int)=true):ig 8 [.agg [iP (-(n:Int)),iP d],iP p] (ix (lu (-(n:Int)) (d:Int) p)):=by
 have Ew:(canon false (kg n d p K) (nE n d p K)).lh:=qF _ _ _;have hc2:(if(oL (lj n d K) (jX n d K) (ln n d p K))=true then canon false (kg n d p K) (nE n d p K)else canon false ((kg n d p K)+1) (nE n d p K)).lh:=by split<;>exact qF _ _ _
 rw[Yr kx hd hp iq hK hb hr];exact ak call8 func8 (af [.c (qA (- (n:Int)) (d:Int)),ai 9 (!(jN (-(n:Int)) (d:Int))) (by rw[hr];rfl),tF 12 ((p:Int)<8) aD,tF 16 (512<(p:Int)) aD,ai 21 ((-(n:Int))==0) (bd aD),ag [iP (-(n:Int))] (Pn _ aD aD),.o 26 (.int aD:aj (.v (.int .u64 (Int.natAbs (-(n:Int)):Int))) (.v (.int .u64 (n:Int)))),.o 29 (.int (oj _ aD):aj (.v (.int .u64 (IntKind.u64.wrap (d:Int)))) (.v (.int .u64 (d:Int)))),ag [.v (.int .u64 (n:Int)),.v (.int .u64 (d:Int)),iP p] (SK _ _ _ K hn kx hd sy hp iq hK jk hb),tT 36 ((-(n:Int))<0) aD,ag [im (if(oL (lj n d K) (jX n d K) (ln n d p K))=true then canon false (kg n d p K) (nE n d p K)else canon false ((kg n d p K)+1) (nE n d p K))] (WL _ aE),ag [im (canon false (kg n d p K) (nE n d p K))] (WL _ aE)]) 
def Lw(n d:Int)(p:Nat)(hr:jN n d=true)(hp:8<=p)(iq:p<=512):ig 8 [.agg [iP n,iP d],iP (p:Int)] (ix (lu n d p)):=by
 obtain⟨r1,r2,r3,r4⟩:=pn hr;obtain⟨d,rfl⟩:=dk (aD:0<=d);by_cases h0:n=0
 .subst h0;exact ac2 d p hr hp iq
 by_cases h1:0<=n
 .obtain ⟨n,rfl⟩:=dk h1;obtain⟨K,k1,k2,k3⟩:=Hk (n:=n) (d:=d) aD aD aD p;exact ac1 n d p K aD aD aD aD hp iq k1 k2 k3 hr
 .obtain ⟨m,rfl⟩:∃ m:Nat,n = -(m:Int):=⟨n.natAbs,aD⟩
  obtain⟨K,k1,k2,k3⟩:=Hk (n:=m) (d:=d) aD aD aD p;exact ac0 m d p K aD aD aD aD hp iq k1 k2 k3 hr
def ai2(n:Int)(h1:-9223372036854775807<=n)(h2:n<0):ig 25 [iP n] (.v (.int .u64 (n.natAbs:Int))):=
 ak call25 func25 (af [tT 4 (n<0) aD,iC (n+1) aD,iC (0-(n+1)) aD,.o 8 (.int aV:aj (.v (.int .u64 (IntKind.u64.wrap (0-(n+1))))) (.v (.int .u64 ((n.natAbs-1:Nat):Int)))),nH (((n.natAbs-1:Nat):Int)+1) aD,.o 9 (.int aD:aj (.v (.int .u64 (((n.natAbs-1:Nat):Int)+1))) (.v (.int .u64 (n.natAbs:Int))))]) 
def ai3(n:Int)(h1:0<=n)(h2:n<=9223372036854775807):ig 25 [iP n] (.v (.int .u64 (n.natAbs:Int))):=
 ak call25 func25 (af [tF 4 (n<0) aD,.o 11 (.int aV:aj (.v (.int .u64 (IntKind.u64.wrap n))) (.v (.int .u64 (n.natAbs:Int))))]) 
def JD(n:Int)(h1:-9223372036854775807<=n)(h2:n<=9223372036854775807):ig 25 [iP n] (.v (.int .u64 (n.natAbs:Int))):=by
 by_cases h:n<0
 .exact ai2 n h1 h
 .exact ai3 n aD h2
def sB(neg:Bool)(a:Nat):Int:=if neg then -(a:Int)else(a:Int)
def XK(s:Bool)(n d:Nat)(hd:0<d)(oW:n<18446744073709551616)(qt:d<18446744073709551616)(h1:n/Nat.gcd n d<=1073741824)(h2:d/Nat.gcd n d<=1073741824):ig 29 [bP s,.v (.int .u64 (n:Int)),.v (.int .u64 (d:Int))] (.iB [.agg [iP (sB s (n/Nat.gcd n d)),iP ((d/Nat.gcd n d:Nat):Int)],bP true]):=by
 have hg:0<Nat.gcd n d:=anD _ hd;have hz:(0:Int)<=((n/Nat.gcd n d:Nat):Int):=Int.natCast_nonneg _;exact ak call29 func29 (ae [.c (LM n d aD aD),.a (aD:0<((Nat.gcd n d:Int):Int)),nH (n:Int) aD,.a (aD:0<((Nat.gcd n d:Int):Int)),nH (d:Int) aD,tF 19 (1073741824<((n/(Nat.gcd n d):Nat):Int)) aD,tF 22 (1073741824<((d/(Nat.gcd n d):Nat):Int)) aD]<|.w (s=true)
  (λk1=>ae [tB 25 k1,.o 27 (an (IntKind.i64.wrap ((n/(Nat.gcd n d):Nat):Int)) ((n/(Nat.gcd n d):Nat):Int) (E3 _ aD)),iC (0-((n/(Nat.gcd n d):Nat):Int)) aD,.o 30 (an (IntKind.i64.wrap ((d/(Nat.gcd n d):Nat):Int)) ((d/(Nat.gcd n d):Nat):Int) (E3 _ aD))]<|rQ (.iB [.agg [iP (0-((n/(Nat.gcd n d):Nat):Int)),iP ((d/(Nat.gcd n d):Nat):Int)],bP true]) (.iB [.agg [iP (sB s (n/Nat.gcd n d)),iP ((d/Nat.gcd n d:Nat):Int)],bP true]) (by unfold sB;simp[k1]))
  (λk1=>ae [tB 25 (bh k1),.o 33 (an (IntKind.i64.wrap ((n/(Nat.gcd n d):Nat):Int)) ((n/(Nat.gcd n d):Nat):Int) (E3 _ aD)),.o 35 (an (IntKind.i64.wrap ((d/(Nat.gcd n d):Nat):Int)) ((d/(Nat.gcd n d):Nat):Int) (E3 _ aD))]<|rQ (.iB [.agg [iP ((n/(Nat.gcd n d):Nat):Int),iP ((d/(Nat.gcd n d):Nat):Int)],bP true]) (.iB [.agg [iP (sB s (n/Nat.gcd n d)),iP ((d/Nat.gcd n d:Nat):Int)],bP true]) (by unfold sB;simp[k1]))) 
def aiV(s:Bool)(n d:Nat)(hd:0<d)(oW:n<18446744073709551616)(qt:d<18446744073709551616)(h1:n/Nat.gcd n d<=1073741824)(h2:d/Nat.gcd n d<=1073741824):ig 42 [bP s,.v (.int .u64 (n:Int)),.v (.int .u64 (d:Int))] (.iB [.agg [iP (sB s (n/Nat.gcd n d)),iP ((d/Nat.gcd n d:Nat):Int)],iP 0]):=
 ak call42 func42 (af [.c (XK s n d hd oW qt h1 h2)]) 
def aiZ(s:Bool)(n d:Nat)(hd:0<d)(oW:n<18446744073709551616)(qt:d<18446744073709551616)(h:1073741824<n/Nat.gcd n d\/1073741824<d/Nat.gcd n d):ig 29 [bP s,.v (.int .u64 (n:Int)),.v (.int .u64 (d:Int))] (.iB [.agg [iP 0,iP 0],bP false]):=by
 have hg:0<Nat.gcd n d:=anD _ hd;exact ak call29 func29 (ae [.c (LM n d aD aD),.a (aD:0<((Nat.gcd n d:Int):Int)),nH (n:Int) aD,.a (aD:0<((Nat.gcd n d:Int):Int)),nH (d:Int) aD]<|.w (1073741824<((n/(Nat.gcd n d):Nat):Int))
  (λk1=>af [tB 19 (bq k1)])
  (λk1=>ae [tB 19 (bt k1)]<|.w (1073741824<((d/(Nat.gcd n d):Nat):Int))
   (λk2=>af [tB 22 (bq k2)])
   (λk2=>.x aD))) 
def aiU(s:Bool)(n d:Nat)(hd:0<d)(oW:n<18446744073709551616)(qt:d<18446744073709551616)(h:1073741824<n/Nat.gcd n d\/1073741824<d/Nat.gcd n d):ig 42 [bP s,.v (.int .u64 (n:Int)),.v (.int .u64 (d:Int))] (.iB [.agg [iP 0,iP 0],iP 9]):=
 ak call42 func42 (af [.c (aiZ s n d hd oW qt h)]) 
structure Ky(N D e:Int)(v:Rat):Prop where
 n1:-1073741824<=N
 n2:N<=1073741824
 d1:0<=D
 d2:D<=1073741824
 ok:e=0->jN N D=true/\(N:Rat)=v*(D:Rat)
def ad8{n d:Nat}(hd:0<d):n=n/Nat.gcd n d*Nat.gcd n d/\d=d/Nat.gcd n d*Nat.gcd n d/\0<Nat.gcd n d/\0<d/Nat.gcd n d:=by
 have hg:0<Nat.gcd n d:=anD _ hd;have e2:=(anv (Nat.gcd_dvd_right n d))
 refine⟨(anv (Nat.gcd_dvd_left n d)).symm,e2.symm,hg,eF λq=>?_⟩;rw[q,cN]at e2;omega
def s9(s:Bool)(n:Nat):Int:=if s then -(n:Int)else(n:Int)
def abG(s:Bool)(n d N D g:Nat)(hd:0<d)(g1:n=N*g)(g2:d=D*g)(hD:0<D)(h1:N<=1073741824)(h2:D<=1073741824)(hg:Nat.gcd N D=1):Ky (sB s N) (D:Int) 0 ((s9 s n:Rat)/(d:Rat)):=by
 have ha:(sB s N).natAbs=N:=by unfold sB;split<;>omega
 have hb:-1073741824<=sB s N/\sB s N<=1073741824:=by unfold sB;split<;>omega
 refine⟨hb.1,hb.2,aD,aD,λ_=>⟨?_,?_⟩⟩
 .unfold jN;simp only[bY,cH];exact⟨aD,aD,hb.1,hb.2,by rw[ha,dj];exact hg⟩
 .have hdq:(0:Rat)<(d:Rat):=cV.2 hd;have e1:(n:Rat)=(N:Rat)*(g:Rat):=by rw[<-cX,<-g1]
  have e2:(d:Rat)=(D:Rat)*(g:Rat):=by rw[<-cX,<-g2]
  rw[dw];have key:(s9 s n:Rat)*(D:Rat)=(sB s N:Rat)*(d:Rat):=by
   unfold s9 sB;cases s
   .rw [bl aF,bl aF,dw,dw];rw[e1,e2];grind
   .rw [bn rfl,bn rfl,fm,fm,dw,dw];rw[e1,e2];grind
  have:=cL (a:=(s9 s n:Rat)) (b:=(d:Rat)) aO;have h3:(s9 s n:Rat)/(d:Rat)*(D:Rat)*(d:Rat)=(sB s N:Rat)*(d:Rat):=by rw[<-key];grind
  have h4:=congrArg (· / (d:Rat)) h3;simp only[fQ (show(d:Rat)≠0 by grind)]at h4;exact h4.symm
def KZ(s:Bool)(n d:Nat)(hd:0<d)(oW:n<18446744073709551616)(qt:d<18446744073709551616):
 ∃ N D e,ig 42 [bP s,.v (.int .u64 (n:Int)),.v (.int .u64 (d:Int))] (.iB [.agg [iP N,iP D],iP e])/\Ky N D e ((s9 s n:Rat)/(d:Rat)):=by
 by_cases h:1073741824<n/Nat.gcd n d\/1073741824<d/Nat.gcd n d
 .exact ⟨0,0,9,aiU s n d hd oW qt h,aF,aF,aF,aF,λq=>absurd q aF⟩
 .have h1:n/Nat.gcd n d<=1073741824:= aD ;have h2:d/Nat.gcd n d<=1073741824:= aD ;obtain⟨g1,g2,g3,g4⟩:=ad8 (n:=n) hd;exact⟨sB s (n/Nat.gcd n d),((d/Nat.gcd n d:Nat):Int),0,aiV s n d hd oW qt h1 h2,abG s n d _ _ _ hd g1 g2 g4 h1 h2 (Nat.gcd_div_gcd_div_gcd_of_pos_right hd)⟩
def aiS(a b c d:Int)(h:¬(jN a b=true/\jN c d=true)):ig 14 [.agg [iP a,iP b],.agg [iP c,iP d]] (.iB [.agg [iP 0,iP 0],iP 1]):=
 ak call14 func14 (ae [.c (qA a b)]<|.w (jN a b=true)
  (λk1=>ae [tB 8 k1,.c (qA c d)]<|.w (jN c d=true)
   (λk2=>.x (by exact absurd ⟨aE,aE⟩ h))
   (λk2=>af [tB 12 (bh k2)]))
  (λk1=>af [tB 8 (bh k1)])) 
def ai0(a b c d:Int)(h:¬(jN a b=true/\jN c d=true)):ig 13 [.agg [iP a,iP b],.agg [iP c,iP d]] (.iB [.agg [iP 0,iP 0],iP 1]):=
 ak call13 func13 (ae [.c (qA a b)]<|.w (jN a b=true)
  (λk1=>ae [tB 8 k1,.c (qA c d)]<|.w (jN c d=true)
   (λk2=>.x (by exact absurd ⟨aE,aE⟩ h))
   (λk2=>af [tB 12 (bh k2)]))
  (λk1=>af [tB 8 (bh k1)])) 
def aiW(a b c d:Int)(h:¬(jN a b=true/\jN c d=true)):ig 15 [.agg [iP a,iP b],.agg [iP c,iP d]] (.iB [.agg [iP 0,iP 0],iP 1]):=
 ak call15 func15 (ae [.c (qA a b)]<|.w (jN a b=true)
  (λk1=>ae [tB 9 k1,.c (qA c d)]<|.w (jN c d=true)
   (λk2=>.x (by exact absurd ⟨aE,aE⟩ h))
   (λk2=>af [tB 13 (bh k2)]))
  (λk1=>af [tB 9 (bh k1)])) 
def xU{a b:Int}(h1:-1073741824<=a)(h2:a<=1073741824)(h3:-1073741824<=b)(h4:b<=1073741824):-1152921504606846976<=a*b/\a*b<=1152921504606846976:=by
 have e:(a*b).natAbs=a.natAbs*b.natAbs:=Int.natAbs_mul a b;have h:=dA (aD:a.natAbs<=1073741824) (aD:b.natAbs<=1073741824);omega
def Jc{a b:Nat}(h2:a<=1073741824)(h4:b<=1073741824):a*b<=1152921504606846976:=dA h2 h4
def aiT(a c:Int)(b d:Nat)(h1:jN a (b:Int)=true)(h2:jN c (d:Int)=true)(N D e:Int)(hC:ig 42 [bP (decide ((a*(d:Int)+c*(b:Int))<0)),.v (.int .u64 ((a*(d:Int)+c*(b:Int)).natAbs:Int)),.v (.int .u64 ((b*d:Nat):Int))] (.iB [.agg [iP N,iP D],iP e])):ig 14 [.agg [iP a,iP b],.agg [iP c,iP d]] (.iB [.agg [iP N,iP D],iP e]):=by
 obtain⟨b1,b2,a1,a2⟩:=pn h1;obtain⟨d1,d2,c1,c2⟩:=pn h2;obtain⟨m1,m2⟩:=xU a1 a2 (aD:-1073741824<=(d:Int)) aD;obtain⟨m3,m4⟩:=xU c1 c2 (aD:-1073741824<=(b:Int)) aD;have m5:=Jc (a:=b) (b:=d) aD aD;have MX:((b*d:Nat):Int)=b*(d:Int):=dT _ _;exact ak call14 func14 (af [.c (qA a (b:Int)),ah 8 (jN a (b:Int)) h1,.c (qA c (d:Int)),ah 12 (jN c (d:Int)) h2,iC (a*(d:Int)) aD,
  iC (c*(b:Int)) aD,iC ((a*(d:Int))+(c*(b:Int))) aD,ag [iP ((a*(d:Int))+(c*(b:Int)))] (JD _ aD aD),.o 33 (.int (oj _ aD):aj (.v (.int .u64 (IntKind.u64.wrap (b:Int)))) (.v (.int .u64 (b:Int)))),.o 36 (.int (oj _ aD):aj (.v (.int .u64 (IntKind.u64.wrap (d:Int)))) (.v (.int .u64 (d:Int)))),nH ((b:Int)*(d:Int)) aD,ag [bP (decide (((a*(d:Int))+(c*(b:Int)))<0)),.v (.int .u64 (Int.natAbs ((a*(d:Int))+(c*(b:Int))):Int)),.v (.int .u64 ((b*d:Nat):Int))] hC]) 
def ai1(a c:Int)(b d:Nat)(h1:jN a (b:Int)=true)(h2:jN c (d:Int)=true)(N D e:Int)(hC:ig 42 [bP (decide ((a*c)<0)),.v (.int .u64 ((a*c).natAbs:Int)),.v (.int .u64 ((b*d:Nat):Int))] (.iB [.agg [iP N,iP D],iP e])):ig 13 [.agg [iP a,iP b],.agg [iP c,iP d]] (.iB [.agg [iP N,iP D],iP e]):=by
 obtain⟨b1,b2,a1,a2⟩:=pn h1;obtain⟨d1,d2,c1,c2⟩:=pn h2;obtain⟨m1,m2⟩:=xU a1 a2 c1 c2;have m5:=Jc (a:=b) (b:=d) aD aD;have MX:((b*d:Nat):Int)=b*(d:Int):=dT _ _;exact ak call13 func13 (af [.c (qA a (b:Int)),ah 8 (jN a (b:Int)) h1,.c (qA c (d:Int)),ah 12 (jN c (d:Int)) h2,iC (a*c) aD,ag [iP (a*c)] (JD _ aD aD),.o 27 (.int (oj _ aD):aj (.v (.int .u64 (IntKind.u64.wrap (b:Int)))) (.v (.int .u64 (b:Int)))),.o 30 (.int (oj _ aD):aj (.v (.int .u64 (IntKind.u64.wrap (d:Int)))) (.v (.int .u64 (d:Int)))),nH ((b:Int)*(d:Int)) aD,ag [bP (decide ((a*c)<0)),.v (.int .u64 (Int.natAbs (a*c):Int)),.v (.int .u64 ((b*d:Nat):Int))] hC]) 
def aiY(a c:Int)(b d:Nat)(h1:jN a (b:Int)=true)(h2:jN c (d:Int)=true)(hc:c=0):ig 15 [.agg [iP a,iP b],.agg [iP c,iP d]] (.iB [.agg [iP 0,iP 0],iP 10]):=by
 obtain⟨b1,b2,a1,a2⟩:=pn h1;obtain⟨d1,d2,c1,c2⟩:=pn h2;exact ak call15 func15 (af [.c (qA a (b:Int)),ah 9 (jN a (b:Int)) h1,.c (qA c (d:Int)),ah 13 (jN c (d:Int)) h2,ah 19 (c==0) (by rw[hc];rfl)]) 
def aiX(a c:Int)(b d:Nat)(h1:jN a (b:Int)=true)(h2:jN c (d:Int)=true)(N D e:Int)(hc:c≠0)(hC:ig 42 [bP (decide ((a*(d:Int))<0) != decide (((b:Int)*c)<0)),.v (.int .u64 ((a*(d:Int)).natAbs:Int)),.v (.int .u64 (((b:Int)*c).natAbs:Int))] (.iB [.agg [iP N,iP D],iP e])):ig 15 [.agg [iP a,iP b],.agg [iP c,iP d]] (.iB [.agg [iP N,iP D],iP e]):=by
 obtain⟨b1,b2,a1,a2⟩:=pn h1;obtain⟨d1,d2,c1,c2⟩:=pn h2;obtain⟨m1,m2⟩:=xU a1 a2 (aD:-1073741824<=(d:Int)) aD;obtain⟨m3,m4⟩:=xU (aD:-1073741824<=(b:Int)) aD c1 c2;exact ak call15 func15 (af [.c (qA a (b:Int)),ah 9 (jN a (b:Int)) h1,.c (qA c (d:Int)),ah 13 (jN c (d:Int)) h2,ai 19 (c==0) (by simpa using hc),
  iC (a*(d:Int)) aD,iC ((b:Int)*c) aD,ag [iP (a*(d:Int))] (JD _ aD aD),ag [iP ((b:Int)*c)] (JD _ aD aD),ag [bP (!((decide ((a*(d:Int))<0))==(decide (((b:Int)*c)<0)))),.v (.int .u64 (Int.natAbs (a*(d:Int)):Int)),.v (.int .u64 (Int.natAbs ((b:Int)*c):Int))] hC]) 
def YG(z:Int):s9 (decide (z<0)) z.natAbs=z:=by
 unfold s9;by_cases h:z<0
 .rw [bq h,bn rfl];omega
 .rw [bt h,bl aF];omega
def ON{N D e z:Int}{s:Bool}{n m:Nat}(hx:Ky N D e ((s9 s n:Rat)/(m:Rat)))(hz:s9 s n=z)(he:e=0):jN N D=true/\(N:Rat)/(D:Rat)=(z:Rat)/(m:Rat):=by
 obtain⟨h1,h2⟩:=hx.ok he;refine⟨h1,?_⟩;have hD:(0:Rat)<(D:Rat):=anu.2 (by have:=pn h1;omega);rw[h2,hz,fQ aO]
def y5(d:Nat):(((d:Int):Int):Rat)=((d:Nat):Rat):=dw d
def acj{a b c d:Rat}(hb:0<b)(hd:0<d):(a*c)/(b*d)=a/b*(c/d):=by
 have h1:=cL (a:=a) (b:=b) aO;have h2:=cL (a:=c) (b:=d) aO;have hp:=cT hb hd;have h3:=cL (a:=a*c) (b:=b*d) aO;have h4:a/b*(c/d)*(b*d)=a*c:=by
  have:a/b*(c/d)*(b*d)=(a/b*b)*(c/d*d):= aO ;rw[this,h1,h2]
 exact fc (cW (by rw[h3,h4];exact bS) hp) (cW (by rw[h3,h4];exact bS) hp)
def Ww(a b c d:Int):∃ N D e,ig 13 [.agg [iP a,iP b],.agg [iP c,iP d]] (.iB [.agg [iP N,iP D],iP e])/\(e=0->jN a b=true/\jN c d=true/\jN N D=true/\(N:Rat)/(D:Rat)=(a:Rat)/(b:Rat)*((c:Rat)/(d:Rat))):=by
 by_cases h:jN a b=true/\jN c d=true
 .obtain ⟨h1,h2⟩:=h;obtain⟨b1,b2,a1,a2⟩:=pn h1;obtain⟨d1,d2,c1,c2⟩:=pn h2;obtain⟨b,rfl⟩:=dk (aD:0<=b);obtain⟨d,rfl⟩:=dk (aD:0<=d);obtain⟨m1,m2⟩:=xU a1 a2 c1 c2;have m5:=Jc (a:=b) (b:=d) aD aD;have m6:0<b*d:=eP aD aD;obtain⟨N,D,e,hC,hx⟩:=KZ (decide (a*c<0)) (a*c).natAbs (b*d) m6 aD aD;refine⟨N,D,e,ai1 a c b d h1 h2 N D e hC,λhe=>?_⟩;obtain⟨x1,x2⟩:=ON hx (YG _) he;refine⟨h1,h2,x1,?_⟩;rw[x2,gE,cX,y5,y5];exact acj (cV.2 aD) (cV.2 aD)
 .exact ⟨0,0,1,ai0 a b c d h,λq=>absurd q aF⟩
def Z4(a b c d:Int):∃ N D e,ig 14 [.agg [iP a,iP b],.agg [iP c,iP d]] (.iB [.agg [iP N,iP D],iP e])/\(e=0->jN a b=true/\jN c d=true/\jN N D=true/\(N:Rat)/(D:Rat)=(a:Rat)/(b:Rat)+((c:Rat)/(d:Rat))):=by
 by_cases h:jN a b=true/\jN c d=true
 .obtain ⟨h1,h2⟩:=h;obtain⟨b1,b2,a1,a2⟩:=pn h1;obtain⟨d1,d2,c1,c2⟩:=pn h2;obtain⟨b,rfl⟩:=dk (aD:0<=b);obtain⟨d,rfl⟩:=dk (aD:0<=d);obtain⟨m1,m2⟩:=xU a1 a2 (aD:-1073741824<=(d:Int)) aD;obtain⟨m3,m4⟩:=xU c1 c2 (aD:-1073741824<=(b:Int)) aD;have m5:=Jc (a:=b) (b:=d) aD aD;have m6:0<b*d:=eP aD aD;obtain⟨N,D,e,hC,hx⟩:=KZ (decide ((a*(d:Int)+c*(b:Int))<0)) (a*(d:Int)+c*(b:Int)).natAbs (b*d) m6 aD aD;refine⟨N,D,e,aiT a c b d h1 h2 N D e hC,λhe=>?_⟩;obtain⟨x1,x2⟩:=ON hx (YG _) he;refine⟨h1,h2,x1,?_⟩;rw[x2,Rat.intCast_add,gE,gE,cX,y5,y5];have hb:(0:Rat)<(b:Rat):=cV.2 aD;have hd:(0:Rat)<(d:Rat):=cV.2 aD;have e1:=cL (a:=(a:Rat)) (b:=(b:Rat)) aO;have e2:=cL (a:=(c:Rat)) (b:=(d:Rat)) aO;have hp:=cT hb hd;have h3:=cL (a:=(a:Rat)*(d:Rat)+(c:Rat)*(b:Rat)) (b:=(b:Rat)*(d:Rat)) aO;have h4:((a:Rat)/(b:Rat)+(c:Rat)/(d:Rat))*((b:Rat)*(d:Rat))=(a:Rat)*(d:Rat)+(c:Rat)*(b:Rat):=by
   have:((a:Rat)/(b:Rat)+(c:Rat)/(d:Rat))*((b:Rat)*(d:Rat))=((a:Rat)/(b:Rat)*(b:Rat))*(d:Rat)+((c:Rat)/(d:Rat)*(d:Rat))*(b:Rat):= aO ;rw[this,e1,e2]
  exact fc (cW (by rw[h3,h4];exact bS) hp) (cW (by rw[h3,h4];exact bS) hp)
 .exact ⟨0,0,1,aiS a b c d h,λq=>absurd q aF⟩
def acf(a b c d:Int):∃ N D e,ig 15 [.agg [iP a,iP b],.agg [iP c,iP d]] (.iB [.agg [iP N,iP D],iP e])/\(e=0->jN a b=true/\jN c d=true/\jN N D=true/\(N:Rat)/(D:Rat)*((c:Rat)/(d:Rat))=(a:Rat)/(b:Rat)):=by
 by_cases h:jN a b=true/\jN c d=true
 .obtain ⟨h1,h2⟩:=h;obtain⟨b1,b2,a1,a2⟩:=pn h1;obtain⟨d1,d2,c1,c2⟩:=pn h2;obtain⟨b,rfl⟩:=dk (aD:0<=b);obtain⟨d,rfl⟩:=dk (aD:0<=d);by_cases hc:c=0
  .exact ⟨0,0,10,aiY a c b d h1 h2 hc,λq=>absurd q aF⟩
  obtain⟨m1,m2⟩:=xU a1 a2 (aD:-1073741824<=(d:Int)) aD;obtain⟨m3,m4⟩:=xU (aD:-1073741824<=(b:Int)) aD c1 c2;have m6:0<((b:Int)*c).natAbs:=Int.natAbs_pos.2 (Int.mul_ne_zero aD hc);obtain⟨N,D,e,hC,hx⟩:=KZ (decide (a*(d:Int)<0) != decide ((b:Int)*c<0)) (a*(d:Int)).natAbs ((b:Int)*c).natAbs m6 aD aD;refine⟨N,D,e,aiX a c b d h1 h2 N D e hc hC,λhe=>?_⟩;obtain⟨x1,x2⟩:=ON hx rfl he;refine⟨h1,h2,x1,?_⟩;have hb:(0:Rat)<(b:Rat):=cV.2 aD;have hd:(0:Rat)<(d:Rat):=cV.2 aD;have hq:((((b:Int)*c).natAbs:Nat):Rat)≠0:=by
   have:=cV.2 m6
   grind
  have key:(s9 (decide (a*(d:Int)<0) != decide ((b:Int)*c<0)) (a*(d:Int)).natAbs:Rat)*(((b:Nat):Rat)*(c:Rat))=((a:Rat)*((d:Nat):Rat))*((((b:Int)*c).natAbs:Nat):Rat):=by
   have ez:s9 (decide (a*(d:Int)<0) != decide ((b:Int)*c<0)) (a*(d:Int)).natAbs*((b:Int)*c)=(a*(d:Int))*((((b:Int)*c).natAbs:Nat):Int):=by
    generalize a*(d:Int)=x;generalize (b:Int)*c=y;unfold s9;by_cases hx:x<0<;>by_cases hy:y<0
    .rw [bq hx,bq hy,show(true != true)=false from rfl,bl aF,show(x.natAbs:Int) = -x by omega,show(y.natAbs:Int) = -y by omega,gZ,Int.mul_neg]
    .rw [bq hx,bt hy,show(true != false)=true from rfl,bn rfl,show(x.natAbs:Int) = -x by omega,show(y.natAbs:Int)=y by omega,Int.neg_neg]
    .rw [bt hx,bq hy,show(false != true)=true from rfl,bn rfl,show(x.natAbs:Int)=x by omega,show(y.natAbs:Int) = -y by omega,gZ,Int.mul_neg]
    .rw [bt hx,bt hy,show(false != false)=false from rfl,bl aF,show(x.natAbs:Int)=x by omega,show(y.natAbs:Int)=y by omega]
   have:=congrArg (λz:Int=>(z:Rat)) ez;simp only[gE,y5]at this;exact this
  rw[x2,y5,y5];have e1:=cL (a:=(a:Rat)) (b:=(b:Rat)) aO;have e2:=cL (a:=(c:Rat)) (b:=(d:Rat)) aO;have e3:=cL (a:=(s9 (decide (a*(d:Int)<0) != decide ((b:Int)*c<0)) (a*(d:Int)).natAbs:Rat)) hq;generalize (s9 (decide (a*(d:Int)<0) != decide ((b:Int)*c<0)) (a*(d:Int)).natAbs:Rat)/((((b:Int)*c).natAbs:Nat):Rat)=R at *
  rw[<-e3]at key;have k2:R*(((b:Nat):Rat)*(c:Rat))=(a:Rat)*((d:Nat):Rat):=by
   have k3:(R*(((b:Nat):Rat)*(c:Rat)))*((((b:Int)*c).natAbs:Nat):Rat)=((a:Rat)*((d:Nat):Rat))*((((b:Int)*c).natAbs:Nat):Rat):=by rw[<-key];grind
   have MY:=cV.2 m6;exact fc (cW (by rw[k3];exact bS) MY) (cW (by rw[k3];exact bS) MY)
  have hp:=cT hb hd;have h3:R*((c:Rat)/(d:Rat))*((b:Rat)*(d:Rat))=(a:Rat)*(d:Rat):=by
   have:R*((c:Rat)/(d:Rat))*((b:Rat)*(d:Rat))=R*((b:Rat)*((c:Rat)/(d:Rat)*(d:Rat))):= aO ;rw[this,e2];exact k2
  have h4:(a:Rat)/(b:Rat)*((b:Rat)*(d:Rat))=(a:Rat)*(d:Rat):=by rw[<-dW,e1]
  exact fc (cW (by rw[h3,h4];exact bS) hp) (cW (by rw[h3,h4];exact bS) hp)
 .exact ⟨0,0,1,aiW a b c d h,λq=>absurd q aF⟩
end Go.Proofs.YtbhhompalmdaiaaGreatDoor
namespace Go.Proofs.YtbhhompalmdaiaaGreatDoor.Fp
def Rb{s:Bool}{m:Nat}{e:Int}(hm:iA m<=60000)(kZ:-60000<=e)(kF:e<=60000):(ij (canon s m e).m).length<=2900 /\ -200000<=(canon s m e).e/\(canon s m e).e<=200000:=by
 by_cases h0:m=0
 .subst h0;rw[Cp];exact⟨by rw[show iQ.m=0 from rfl,mW];decide,aF,aF⟩
 .obtain ⟨h1,h2,h3,h4⟩:=A5 (s:=s) (e:=e) h0;have h5:=nj h3;exact⟨yY aD,aD,aD⟩
def aik{a b:Dy}(ha:a.iu)(hb:b.iu):(ij (lM a b).m).length<=2900 /\ -200000<=(lM a b).e/\(lM a b).e<=200000:=by
 have h1:=ha.bits;have h2:=hb.bits;have h3:=ha.exp;have h4:=hb.exp;have h5:iA (a.m*b.m)<=iA a.m+iA b.m:=by
  rw[kV,bw];exact gY (pE a.m) (pE b.m)
 exact Rb aD aD aD 
def WZ{a:Dy}{k:Int}(h:k<=a.e):iA (a.num k).natAbs<=iA a.m+(a.e-k).toNat:=by
 have e:(a.num k).natAbs=a.m*2^(a.e-k).toNat:=by
  unfold Dy.num Dy.j8;split
  .rw [fK];exact dj _
  .exact dj _
 rw[e];by_cases h0:a.m=0
 .rw [h0,cN];exact ch _
 .rw [qE h0];exact bp _
def alg{a b:Dy}(ha:a.iu)(hb:b.iu):(ij (iJ a b).m).length<=2900 /\ -200000<=(iJ a b).e/\(iJ a b).e<=200000:=by
 have h1:=ha.bits;have h2:=hb.bits;have h3:=ha.exp;have h4:=hb.exp;have la:=ha.len;have lb:=hb.len;unfold iJ;split
 .exact ⟨aD,aD,aD⟩
 .split
  .exact ⟨aD,aD,aD⟩
  .have g1:=WZ (a:=a) (k:=min a.e b.e) aD ;have g2:=WZ (a:=b) (k:=min a.e b.e) aD;refine Rb ?_ aD aD;obtain⟨K,hK⟩:∃ K,K=40000:=⟨_,rfl⟩
   have g3:=kV.1 (bJ g1 (aD:iA a.m+(a.e-min a.e b.e).toNat<=K));have g4:=kV.1 (bJ g2 (aD:iA b.m+(b.e-min a.e b.e).toNat<=K));refine bJ ((kV (k:=K+1)).2 ?_) (aD:K+1<=60000);have g5:(a.num (min a.e b.e)+b.num (min a.e b.e)).natAbs<=(a.num (min a.e b.e)).natAbs+(b.num (min a.e b.e)).natAbs:=Int.natAbs_add_le _ _;rw[bG];generalize 2^K=P at *
   omega
def abL{a b:Dy}(ha:a.iu)(hb:b.iu)(h:jA a b=0):a=b:=by
 have h1:oH a (min a.e b.e):=.inr aD;have h2:oH b (min a.e b.e):=.inr aD;rw[A8 h1 h2]at h;refine Ln ha.canon hb.canon h1 h2 ?_;unfold uV at h;split at h
 .omega
 .split at h<;>omega
def Wm{a b c:Dy}(ha:a.iu)(hb:b.iu)(hc:c.iu)(h1:jA a c<=0)(h2:jA b c<=0)(h3:c=a\/c=b):je a b=c:=by
 unfold je;rcases h3 with rfl|rfl
 .rw [bl aD]
 .split
  .rfl
  .rename_i h;have:=zL a c;exact abL ha hc aD 
def WY(d:Dy)(k:Int):(lR d).num k=((d.num k).natAbs:Int):=by
 unfold Dy.num Dy.j8 lR;cases d.neg
 .simp;exact(dj (d.m*2^(d.e-k).toNat)).symm▸by simp
 .simp only[bZ,bF,bN];rw[fK,dj]
def ZY{d:Dy}(hd:d.lh){k:Int}(h:0<=d.num k):lR d=d:=by
 rcases hd with⟨h1,h2,h3⟩|h1
 .unfold lR;rw[<-h2]
 .cases hn:d.neg with
  |false=>unfold lR;rw[<-hn]
  |true=>
   have:0<d.j8 k:=vJ aD k;unfold Dy.num at h;rw[hn,bn rfl]at h;omega
def ZZ{d:Dy}(hd:d.lh){k:Int}(h:d.num k<=0):lR d=jf d:=by
 rcases hd with⟨h1,h2,h3⟩|h1
 .unfold lR jf;rw[h1,h2];simp
 .cases hn:d.neg with
  |true=>unfold lR jf;rw[hn];simp
  |false=>
   have:0<d.j8 k:=vJ aD k;unfold Dy.num at h;rw[hn,bl aF]at h;omega
def agK{x:Iv}(h1:x.lo.iu)(h2:x.hi.iu)(h3:jA x.lo x.hi<=0):kO x=je (jf x.lo) x.hi:=by
 obtain⟨k,ka,kb⟩:∃ k:Int,k<=x.lo.e/\k<=x.hi.e:=⟨min x.lo.e x.hi.e,aD,aD⟩
 have aL:oH x.lo k:=.inr ka;have aH:oH x.hi k:=.inr kb;have aN:oH (jf x.lo) k:=GA aL;have aA:oH (lR x.lo) k:=aL;have aB:oH (lR x.hi) k:=aH;have hle:=(pD aL aH).1 h3;have n1:=Jm (d:=x.lo) k;have n2:=WY x.lo k;have n3:=WY x.hi k;unfold kO;by_cases hc:0<jA x.hi (jf x.lo)
 .have e:je (jf x.lo) x.hi=x.hi:=by unfold je;rw[bn hc]
  have CG:¬x.hi.num k<=(jf x.lo).num k:=λh=>by have:=(pD aH aN).2 h;omega
  rw[e];exact Wm (uQ h1) (uQ h2) h2 ((pD aA aH).2 aD) ((pD aB aH).2 aD) (.inr (ZY h2.canon (k:=k) aD).symm)
 .have e:je (jf x.lo) x.hi=jf x.lo:=by unfold je;rw[bl hc]
  have qW:x.hi.num k<=(jf x.lo).num k:=(pD aH aN).1 aD;rw[e];exact Wm (uQ h1) (uQ h2) (uE h1) ((pD aA aN).2 aD) ((pD aB aN).2 aD) (.inl (ZZ h1.canon (k:=k) aD).symm)
def oz{a b:Dy}{p:Nat}{up:Bool}(hp:1<=p)(iq:p<=4096):(ks a b p up).iu:=by
 unfold ks;split
 .exact qn
 .exact mD _ _ _ _ _ _ hp iq
def Wp(a:Dy):ji a a=a:=by unfold ji;split<;>rfl
def Wn(a:Dy):je a a=a:=by unfold je;split<;>rfl
end Go.Proofs.YtbhhompalmdaiaaGreatDoor.Fp
namespace Go.Proofs.YtbhhompalmdaiaaGreatDoor
open Go.RowKit Fp Pu
def nm(a b:Nat):Nat->Nat×Nat
 | 0=>(a,b)
 |n+1=>((nm a b n).2,(nm a b n).1%(nm a b n).2)
def SO(a b:Nat):∀ n,Nat.gcd (nm a b n).1 (nm a b n).2=Nat.gcd a b
 | 0=>rfl
 |n+1=>by
  rw[<-SO a b n];show Nat.gcd (nm a b n).2 ((nm a b n).1%(nm a b n).2)=_;rw[fW,<-Nat.gcd_rec,fW]
def SP(a b:Nat):∀ n,(∀ i,i<n->(nm a b i).2≠0)->(nm a b n).2+n<=b
 | 0,_=>bp _
 |n+1,h=>by
  have h1:=h n (amS n);have h2:(nm a b (n+1)).2<(nm a b n).2:=bC _ (eF h1);have q:=SP a b n (λi hi=>h i aD);omega
def adi(a b:Nat):∃ N,(∀ x,x<N->(nm a b x).2≠0)/\(nm a b N).2=0:=by
 by_cases h:∃ N,N<b+2/\decide ((nm a b N).2=0)=true
 .obtain ⟨N,h1,h2,h3⟩:=sY h;exact⟨N,λx hx=>by simpa using h3 x hx,by simpa using h2⟩
 .have hz:∀ i,i<b+2->(nm a b i).2≠0:=λi hi q=>h ⟨i,hi,by simpa using q⟩
  have:=SP a b (b+1) λi hi=>hz i aD 
  have:=hz (b+1) aD;omega
def Lx{a b:Nat}(ha:a<18446744073709551616)(hb:b<18446744073709551616):∀ n,(nm a b n).1<18446744073709551616/\(nm a b n).2<18446744073709551616
 | 0=>⟨ha,hb⟩
 |n+1=>⟨(Lx ha hb n).2,cK (gI _ _) (Lx ha hb n).1⟩
def oE(a D:Nat)(d:Dy):Int:=kD (a*2^(-d.e).toNat) (d.m*D*2^d.e.toNat)
def tK(n:Int):Int:=if 0<n then 1 else if n<0 then -1 else 0
def mz(N:Int)(D:Nat)(d:Dy):Int:=
 if tK N<d.jh then -1 else if d.jh<tK N then 1 else if tK N=0 then 0 else tK N*oE N.natAbs D d
def ajg{a D:Nat}{d:Dy}(ha:a<=1073741824)(hD:1<=D)(d0:d.m≠0)(ht:32<(iA d.m:Int)+d.e):oE a D d = -1:=by
 have h1:2^(iA d.m-1)<=d.m:=rk d0;have hb:=nj d0;have hm:d.m*2^d.e.toNat<=d.m*D*2^d.e.toNat:=bR _ (gh _ hD);have h2:2^(iA d.m-1+d.e.toNat)<=d.m*2^d.e.toNat:=by rw[bw];exact bR _ h1
 have h3:a*2^(-d.e).toNat<2^(31+(-d.e).toNat):=by rw[bw];exact dg aD (Nat.two_pow_pos _)
 have h4:2^(31+(-d.e).toNat)<=2^(iA d.m-1+d.e.toNat):=bI aF aD;unfold oE kD;rw[bn aD]
def ajj{a D:Nat}{d:Dy}(ha:a≠0)(hD:D<=1073741824)(ht:(iA d.m:Int)+d.e < -32):oE a D d=1:=by
 have h1:d.m<2^iA d.m:=pE _;have e0:d.e.toNat=0:= aD ;have h2:d.m*D<=2^iA d.m*2^30:=dA aD aD;have h4:2^(iA d.m+30)<2^(-d.e).toNat:=fk aF aD;have h5:2^(-d.e).toNat<=a*2^(-d.e).toNat:=Nat.le_mul_of_pos_left _ (eF ha);rw[bw]at h4;unfold oE kD;rw[e0,ca,cg,bl aD,bn aD]
def agw{d:Dy}{D:Nat}(hv:d.iu)(hD:D<=1073741824):(ij (d.m*D)).length<=256:=by
 refine yY ?_;have:=KM d.m D;have:=hv.bits;have:iA D<=31:=kV.2 aD;omega
def QZ(n k:Nat):iA (n*2^k)<=iA n+k:=by
 by_cases h:n=0
 .subst h;rw[cN,sx];omega
 .rw [qE h];omega
def agx{d:Dy}{D:Nat}(hD:D<=1073741824)(ht:(iA d.m:Int)+d.e<=32):(ij (d.m*D*2^d.e.toNat)).length<=256\/d.e<0:=by
 by_cases he:d.e<0
 .exact .inr he
 refine .inl (yY ?_);have:=QZ (d.m*D) d.e.toNat
 have:=KM d.m D;have:iA D<=31:=kV.2 aD;omega
def agu{d:Dy}{a:Nat}(hv:d.iu)(ha:a<=1073741824)(ht:-32<=(iA d.m:Int)+d.e):(ij (a*2^(-d.e).toNat)).length<=256:=by
 refine yY ?_;have:=QZ a (-d.e).toNat
 have:=hv.bits;have:iA a<=31:=kV.2 aD;omega
def Yf(a b:Nat)(x:Nat):PS:=⟨12,true,[(0,.e (.v (.int .u64 (((nm a b x).1:Nat):Int)))),(1,.e (.v (.int .u64 (((nm a b x).2:Nat):Int))))],[]⟩
def aje(a b N:Nat)(ha:a<18446744073709551616)(hb:b<18446744073709551616)(jk:∀ x,x<N->(nm a b x).2≠0)(hN:(nm a b N).2=0):ig 152 [.v (.int .u64 (a:Int)),.v (.int .u64 (b:Int))] (.v (.int .u64 (Nat.gcd a b:Int))):=
 ak call152 func152 (ae [.s (Sp.jP (Yf a b) 0 N aD (λx hx lp=>by
    have hnz:=jk x aD;have jt:=Lx ha hb x;exact iM (ae [ah 6 ((((nm a b x).2:Nat):Int) != 0) (C9 (jk x aD)),.a (aD:0<((((nm a b x).2:Nat):Int):Int))]<|.e (af [.o 0 (.int rfl:aj (.v (.int .u64 (((nm a b x).2:Nat):Int))) (.v (.int .u64 (((nm a b (x+1)).1:Nat):Int)))),.o 1 (.int rfl:aj (.v (.int .u64 ((((nm a b x).1)%((nm a b x).2):Nat):Int))) (.v (.int .u64 (((nm a b (x+1)).2:Nat):Int))))])) aG)
  (λhx=>by
    exact iM (af [ai 6 ((((nm a b N).2:Nat):Int) != 0) (Ar hN)]) aG) aK:jO 1 f152 (Yf a b 0) (.exit 0) ⟨12,true,[(0,.e (.v (.int .u64 (((nm a b N).1:Nat):Int))))],[]⟩) (af [.o 0 (.int rfl:aj (.v (.int .u64 (a:Int))) (.v (.int .u64 (((nm a b 0).1:Nat):Int)))),.o 1 (.int rfl:aj (.v (.int .u64 (b:Int))) (.v (.int .u64 (((nm a b 0).2:Nat):Int))))])]<|rQ (.v (.int .u64 (((nm a b N).1:Nat):Int))) (.v (.int .u64 (Nat.gcd a b:Int))) (by have h:=SO a b N;rw[hN,anA]at h;rw[<-h])) 
def ajf(a b:Nat)(ha:a<18446744073709551616)(hb:b<18446744073709551616):ig 152 [.v (.int .u64 (a:Int)),.v (.int .u64 (b:Int))] (.v (.int .u64 (Nat.gcd a b:Int))):=by
 obtain⟨N,h1,h2⟩:=adi a b;exact aje a b N ha hb h1 h2
def JG(n:Int)(h1:-9223372036854775807<=n)(h2:n<=9223372036854775807):ig 153 [iP n] (.v (.int .u64 (n.natAbs:Int))):=
 ak call153 func153 (.w (n<0)
  (λk1=>af [tB 4 (bq k1),iC (0-n) aD,.o 7 (.int aV:aj (.v (.int .u64 (IntKind.u64.wrap (0-n)))) (.v (.int .u64 (n.natAbs:Int))))])
  (λk1=>af [tB 4 (bt k1),.o 9 (.int aV:aj (.v (.int .u64 (IntKind.u64.wrap n))) (.v (.int .u64 (n.natAbs:Int))))])) 
def ajk(N:Int)(D:Nat)(zS:1<=D)(xA:D<=1073741824)(qb:-1073741824<=N)(qV:N<=1073741824)(hg:Nat.gcd N.natAbs D=1):ig 75 [.agg [iP N,iP D]] (bP true):=
 ak call75 func75 (af [tT 5 (1<=(D:Int)) aD,tT 9 ((D:Int)<=1073741824) aD,tT 14 ((-1073741824)<=N) aD,tT 19 (N<=1073741824) aD,ag [iP N] (JG _ aD aD),ag [iP D] (JG _ aD aD),ag [.v (.int .u64 ((N).natAbs:Int)),.v (.int .u64 ((D:Int).natAbs:Int))] (ajf _ _ aD aD),.o 29 (.bool (by rw[dj,hg];rfl):aj (bP ((Nat.gcd ((N).natAbs) ((D:Int).natAbs):Int)==1)) (bP true))]) 
def ak1{x y:Nat}:E.le (.sl false 2 1 λi_ j_=>[.v (.int .u32 (x:Int)),.v (.int .u32 (y:Int))].getD (i_*1+j_) (.v (.bool false))) (iw [x,y]):=.sl λi j hi hj=>by
 obtain rfl:j=0:= aD ;rcases i with _|_|i
 .exact ⟨.refl _,rfl⟩
 .exact ⟨.refl _,rfl⟩
 .omega
def W6{n:Nat}(h:n<4294967296):iK [n,0]:=iK.cons h (iK.cons aF iK.nil)
def Gk(n:Nat):val [n,0]=n:=by simp[val]
def XV(n:Nat)(h:n<4294967296):ig 155 [.v (.int .u64 (n:Int))] (iw [n,0]):=
 ak call155 func155 (ae [.o 4 (.int (sr _):aj (.v (.int .u32 (IntKind.u32.wrap (n:Int)))) (.v (.int .u32 ((n%4294967296:Nat):Int)))),.a (aD:0<=(32:Int)/\(32:Int)<=((64:Nat):Int)),.o 6 (.int (zo _):aj (.v (.int .u64 ((n:Int)/2^32))) (.v (.int .u64 ((n/4294967296:Nat):Int)))),.o 7 (.int (sr _):aj (.v (.int .u32 (IntKind.u32.wrap ((n/4294967296:Nat):Int)))) (.v (.int .u32 (((n/4294967296)%4294967296:Nat):Int))))]<|rR (iw [n,0]) (ak1.trans (.jb (by rw[bQ h,cA h])):E.le (.sl false 2 1 λi_ j_=>[.v (.int .u32 ((n%4294967296:Nat):Int)),.v (.int .u32 (((n/4294967296)%4294967296:Nat):Int))].getD (i_*1+j_) (.v (.bool false))) (iw [n,0]))) 
def WE(L:List Nat)(n:Int)(hk:iK L)(hl:L.length<=256)(h0:0<=n)(hn:n<=65536)(hf:(ij (val L*2^n.toNat)).length<=256):ig 157 [iw L,iP n] (.iB [iw (ij (val L*2^n.toNat)),iP 0]):=by
 obtain⟨n,rfl⟩:=dk h0;rw[fY]at hf ⊢;exact Jw hk call157 (λA c w h _=>NP A c L n w h hl aD hf) λA c B w e w' h hB r=>Dl B w e w' hB r
def XX(N:Int)(D:Nat)(d:Dy)(hv:d.iu)(d0:d.m≠0)(zS:1<=D)(xA:D<=1073741824)(qb:-1073741824<=N)(qV:N<=1073741824)(oN:N≠0):ig 77 [.agg [iP N,iP D],im d] (iP (oE N.natAbs D d)):=by
 have hT:=DE d0;have yH:=hv.bits;have oP:=nj d0;have hlen:(ij d.m).length<=256:=yY aD;have ok1:iK [N.natAbs,0]:=W6 aD;have ok2:iK [(D:Int).natAbs,0]:=W6 aD;have Us:(ij (val (ij d.m)*val [(D:Int).natAbs,0])).length<=256:=by
  rw[jR,Gk,dj];exact agw hv xA
 exact ak call77 func77 (ae [ag [im d] (uY _ aE)]<|.w (32<(Dy.jd d))
  (λk1=>ae [tB 13 (bq k1)]<|rQ (iP (-1)) (iP (oE N.natAbs D d)) (by rw[ajg aD zS d0 aD]))
  (λk1=>ae [tB 13 (bt k1)]<|.w ((Dy.jd d)<(-32))
   (λk2=>ae [tB 16 (bq k2)]<|rQ (iP 1) (iP (oE N.natAbs D d)) (by rw[ajj aD xA aD]))
   (λk2=>ae [tB 16 (bt k2),ag [iP N] (JG _ aD aD),ag [.v (.int .u64 ((N).natAbs:Int))] (XV _ aD),ag [iP D] (JG _ aD aD),ag [.v (.int .u64 ((D:Int).natAbs:Int))] (XV _ aD),ag [iw (ij d.m),iw [(D:Int).natAbs,0]] (WD _ _ (kS _) ok2 aD aJ Us)]<|.w (0<=d.e)
    (λk3=>by
     have MD:(ij (val (ij (val (ij d.m)*val [(D:Int).natAbs,0]))*2^(d.e).toNat)).length<=256:=by
      rw[jR,jR,Gk,dj];exact(agx (d:=d) xA aD).resolve_right aD 
     exact ae [tB 33 (bq k3),ag [iw (ij (val (ij d.m)*val [(D:Int).natAbs,0])),iP d.e] (WE _ _ (kS _) Us aD aD MD),ag [iw [(N).natAbs,0],iw (ij (val (ij (val (ij d.m)*val [(D:Int).natAbs,0]))*2^(d.e).toNat))] (FE _ _ ok1 (kS _) aJ aD)]<|rQ (iP (kD (val [(N).natAbs,0]) (val (ij (val (ij (val (ij d.m)*val [(D:Int).natAbs,0]))*2^(d.e).toNat))))) (iP (oE N.natAbs D d)) (by simp only[jR,Gk,dj];unfold oE;rw[show(-d.e).toNat=0 from aD,ca,cg]))
    (λk3=>by
     have MD:(ij (val [(N).natAbs,0]*2^((0-d.e)).toNat)).length<=256:=by
      rw[Gk,Int.zero_sub];exact agu hv aD aD 
     exact ae [tB 33 (bt k3),iC (0-d.e) aD,ag [iw [(N).natAbs,0],iP (0-d.e)] (WE _ _ ok1 aJ aD aD MD),ag [iw (ij (val [(N).natAbs,0]*2^((0-d.e)).toNat)),iw (ij (val (ij d.m)*val [(D:Int).natAbs,0]))] (FE _ _ (kS _) (kS _) aD aD)]<|rQ (iP (kD (val (ij (val [(N).natAbs,0]*2^((0-d.e)).toNat))) (val (ij (val (ij d.m)*val [(D:Int).natAbs,0]))))) (iP (oE N.natAbs D d)) (by simp only[jR,Gk,dj,Int.zero_sub];unfold oE;rw[(aD:d.e.toNat=0),ca,cg]))))) 
def XY(a D:Nat)(d:Dy):-1<=oE a D d/\oE a D d<=1:=by
 unfold oE kD;split
 .omega
 .split<;>omega
def YO{d:Dy}(h:d.jh≠0):d.m≠0:=λq=>h (by unfold Dy.jh;rw[bn q])
def OL(N:Int)(D:Nat)(d:Dy)(hv:d.iu)(zS:1<=D)(xA:D<=1073741824)(qb:-1073741824<=N)(qV:N<=1073741824)(hg:Nat.gcd N.natAbs D=1):ig 22 [.agg [iP N,iP D],im d] (.iB [iP (mz N D d),iP 0]):=
 ak call22 func22 (ae [ag [.agg [iP N,iP D]] (ajk _ _ aD aD aD aD hg),ag [im d] (rz _ aE)]<|.w (0<N)
  (λk1=>ae [tB 19 (bq k1),ag [im d] (rW _ aE)]<|.w (1<(Dy.jh d))
   (λk2=>ae [tB 29 (bq k2)]<|rR (.iB [iP (mz N D d),iP 0]) (by
      exact .jb (by
       have e:mz N D d=(-1):=by
        unfold mz tK;simp[k1,k2]
       rw[e]):E.le (.iB [iP (-1),iP 0]) (.iB [iP (mz N D d),iP 0])))
   (λk2=>ae [tB 29 (bt k2)]<|.w ((Dy.jh d)<1)
    (λk3=>ae [tB 33 (bq k3)]<|rR (.iB [iP (mz N D d),iP 0]) (by
      exact .jb (by
       have e:mz N D d=1:=by
        unfold mz tK;simp[k1,k2,k3]
       rw[e]):E.le (.iB [iP 1,iP 0]) (.iB [iP (mz N D d),iP 0])))
    (λk3=>by
     have d0:d.m≠0:=YO aD;have hmr:=XY N.natAbs D d;exact ae [tB 33 (bt k3),ai 36 ((1:Int)==0) aF,ag [.agg [iP N,iP D],im d] (XX _ _ _ hv d0 zS xA qb qV aD),iC (1*(oE N.natAbs D d)) aD]<|rR (.iB [iP (mz N D d),iP 0]) (by
      exact .jb (by
       have e:mz N D d=(1*(oE N.natAbs D d)):=by
        unfold mz tK;simp[k1,k2,k3]
       rw[e]):E.le (.iB [iP (1*(oE N.natAbs D d)),iP 0]) (.iB [iP (mz N D d),iP 0])))))
  (λk1=>ae [tB 19 (bt k1)]<|.w (N<0)
   (λk2=>ae [tB 23 (bq k2),ag [im d] (rW _ aE)]<|.w ((-1)<(Dy.jh d))
    (λk3=>ae [tB 29 (bq k3)]<|rR (.iB [iP (mz N D d),iP 0]) (by
      exact .jb (by
       have e:mz N D d=(-1):=by
        unfold mz tK;simp[k1,k2,k3]
       rw[e]):E.le (.iB [iP (-1),iP 0]) (.iB [iP (mz N D d),iP 0])))
    (λk3=>ae [tB 29 (bt k3)]<|.w ((Dy.jh d)<(-1))
     (λk4=>ae [tB 33 (bq k4)]<|rR (.iB [iP (mz N D d),iP 0]) (by
      exact .jb (by
       have e:mz N D d=1:=by
        unfold mz tK;simp[k1,k2,k3,k4]
       rw[e]):E.le (.iB [iP 1,iP 0]) (.iB [iP (mz N D d),iP 0])))
     (λk4=>by
      have d0:d.m≠0:=YO aD;have hmr:=XY N.natAbs D d;exact ae [tB 33 (bt k4),ai 36 (((-1):Int)==0) aF,ag [.agg [iP N,iP D],im d] (XX _ _ _ hv d0 zS xA qb qV aD),iC ((-1)*(oE N.natAbs D d)) aD]<|rR (.iB [iP (mz N D d),iP 0]) (by
      exact .jb (by
       have e:mz N D d=((-1)*(oE N.natAbs D d)):=by
        unfold mz tK;simp[k1,k2,k3,k4]
       rw[e]):E.le (.iB [iP ((-1)*(oE N.natAbs D d)),iP 0]) (.iB [iP (mz N D d),iP 0])))))
   (λk2=>ae [tB 23 (bt k2),ag [im d] (rW _ aE)]<|.w (0<(Dy.jh d))
    (λk3=>ae [tB 29 (bq k3)]<|rR (.iB [iP (mz N D d),iP 0]) (by
      exact .jb (by
       have e:mz N D d=(-1):=by
        unfold mz tK;simp[k1,k2,k3]
       rw[e]):E.le (.iB [iP (-1),iP 0]) (.iB [iP (mz N D d),iP 0])))
    (λk3=>ae [tB 29 (bt k3)]<|.w ((Dy.jh d)<0)
     (λk4=>ae [tB 33 (bq k4)]<|rR (.iB [iP (mz N D d),iP 0]) (by
      exact .jb (by
       have e:mz N D d=1:=by
        unfold mz tK;simp[k1,k2,k3,k4]
       rw[e]):E.le (.iB [iP 1,iP 0]) (.iB [iP (mz N D d),iP 0])))
     (λk4=>ae [tB 33 (bt k4),ah 36 ((0:Int)==0) aF]<|rR (.iB [iP (mz N D d),iP 0]) (by
      exact .jb (by
       have e:mz N D d=0:=by
        unfold mz tK;simp[k1,k2,k3,k4]
       rw[e]):E.le (.iB [iP 0,iP 0]) (.iB [iP (mz N D d),iP 0]))))))) 
def Sr(m:List (List Iv))(g:FuncId)(cap:List E)(F:Nat->Nat->Iv)(x:Nat):PS:=⟨44,true,[(15,.e (iP x)),(14,.e (iP m.length)),(13,.e (iU m)),(5,.own 12),(1,.e (.fn g cap))],[(12,.jm true 35 33 m.length 7 (jU (jE m.length (λq=>(m.getD q []).length) F x 0)) (kQ (jE m.length (λq=>(m.getD q []).length) F x 0)) .none)]⟩
def Ss(m:List (List Iv))(g:FuncId)(cap:List E)(F:Nat->Nat->Iv)(x:Nat)(k:Nat):PS:=⟨44,true,[(22,.e (iP k)),(21,.e (iP ((m.getD x []).length:Int))),(20,.e (iz (m.getD x []))),(6,.e (iP x)),(15,.e (iP x)),(14,.e (iP m.length)),(13,.e (iU m)),(5,.own 12),(1,.e (.fn g cap))],[(12,.jm true 35 33 m.length 7 (jU (jE m.length (λq=>(m.getD q []).length) F x k)) (kQ (jE m.length (λq=>(m.getD q []).length) F x k)) .none)]⟩
def Wf(m:List (List Iv))(g:FuncId)(cap:List E)(F:Nat->Nat->Iv)(hl:m.length<=1000)(hr:∀ i,(m.getD i []).length<=1000)(hf:∀ i j,i<m.length->j<(m.getD i []).length->ig g (iP (i:Int)::iP (j:Int)::ix ((m.getD i []).getD j il)::cap) (ix (F i j))):ig 136 [iU m,.fn g cap] (iU (qm m.length (λq=>(m.getD q []).length) F)):=
 ak call136 func136 (ae [.a (aD:0<=((m.length:Int):Int)/\((m.length:Int):Int)<=((m.length:Int):Int)),.a (aD:((24:Nat):Int)*(m.length:Int)<=281474976710656/\((m.length:Int):Int)<=9223372036854775807),.s (Sp.jP (Sr m g cap F) 0 m.length aD (λx hx lp=>by
    have ux:=hr x;exact iM (ae [tT 16 ((x:Int)<m.length) aD,iX (x:Int) (m.length) aD,.s (Sp.jP (Ss m g cap F x) 0 ((m.getD x []).length) aD (λk hk qI=>by
    have ux:=hr x;have hle:jU (jE m.length (λq=>(m.getD q []).length) F x k) x=k:=Ny aD ;have h1:=oC (F x k);exact iM (ae [tT 23 ((k:Int)<((m.getD x []).length:Int)) aD,iX (k:Int) ((m.getD x []).length) aD,iX (x:Int) (m.length) aD,.a (aD:x<m.length),.c (hf x k aD aD:ig g ((iP x)::(iP k)::(ix ((m.getD x []).getD k il))::cap) _),.o 38 (.e (mr _):aj (.sl true 1 7 λi_ j_=>(iZ (F x k)).getD (i_*7+j_) (.v (.bool false))) (iz [F x k])),.a (aD:x<m.length),.a (aD:((jU (jE m.length (λq=>(m.getD q []).length) F x k)) x+[F x k].length)*88<=140737488355328),iX (x:Int) (m.length) aD,.a (rfl:x=x),.a (rfl:x=x),.a (aD:x<m.length),
     iC ((k:Int)+1) aD]<|.e (af [.b 12 (JT rfl aD aD rfl:Bx.le (.jm true 35 33 m.length 7 (λq=>if q=x then(jU (jE m.length (λq=>(m.getD q []).length) F x k)) q+[F x k].length else(jU (jE m.length (λq=>(m.getD q []).length) F x k)) q) (λq i j=>if q=x then(if i<(jU (jE m.length (λq=>(m.getD q []).length) F x k)) q then(kQ (jE m.length (λq=>(m.getD q []).length) F x k)) q i j else(E.jH (iz [F x k])) (i-(jU (jE m.length (λq=>(m.getD q []).length) F x k)) q) j)else(kQ (jE m.length (λq=>(m.getD q []).length) F x k)) q i j) .none) (.jm true 35 33 m.length 7 (jU (jE m.length (λq=>(m.getD q []).length) F x (k+1))) (kQ (jE m.length (λq=>(m.getD q []).length) F x (k+1))) .none))])) aG)
  (λhk=>by
    exact iM (af [tF 23 (((m.getD x []).length:Int)<((m.getD x []).length:Int)) aD]) aG) aK:jO 6 f136 (Ss m g cap F x 0) (.exit 2) ⟨44,true,[(15,.e (iP x)),(14,.e (iP m.length)),(13,.e (iU m)),(5,.own 12),(1,.e (.fn g cap))],[(12,.jm true 35 33 m.length 7 (jU (jE m.length (λq=>(m.getD q []).length) F x ((m.getD x []).length))) (kQ (jE m.length (λq=>(m.getD q []).length) F x ((m.getD x []).length))) .none)]⟩) .nil,
     iC ((x:Int)+1) aD]<|.e (af [.b 12 (Pa rfl:Bx.le (.jm true 35 33 m.length 7 (jU (jE m.length (λq=>(m.getD q []).length) F x ((m.getD x []).length))) (kQ (jE m.length (λq=>(m.getD q []).length) F x ((m.getD x []).length))) .none) (.jm true 35 33 m.length 7 (jU (jE m.length (λq=>(m.getD q []).length) F (x+1) 0)) (kQ (jE m.length (λq=>(m.getD q []).length) F (x+1) 0)) .none))])) aG)
  (λhx=>by
    exact iM (af [tF 16 ((m.length:Int)<m.length) aD]) aG) aK:jO 3 f136 (Sr m g cap F 0) (.exit 0) ⟨44,true,[(5,.own 12)],[(12,.jm true 35 33 m.length 7 (jU (jE m.length (λq=>(m.getD q []).length) F m.length 0)) (kQ (jE m.length (λq=>(m.getD q []).length) F m.length 0)) .none)]⟩) (af [.b 12 (O9 rfl:Bx.le (.jm true 35 33 m.length 7 (λ_=>0) (λ_ _ _=>.any) .none) (.jm true 35 33 m.length 7 (jU (jE m.length (λq=>(m.getD q []).length) F 0 0)) (kQ (jE m.length (λq=>(m.getD q []).length) F 0 0)) .none))])]<|rR (iU (qm m.length (λq=>(m.getD q []).length) F)) (by
      rw[<-KP];exact I8 (KQ _ _ _ _ _).symm:E.le (.sl true m.length 1 λk_ _=>.sl true ((jU (jE m.length (λq=>(m.getD q []).length) F m.length 0)) k_) 7 ((kQ (jE m.length (λq=>(m.getD q []).length) F m.length 0)) k_)) (iU (qm m.length (λq=>(m.getD q []).length) F)))) 
def OP(m:List (List Iv))(i:Nat):(uG m).getD i []=zj (m.getD i []):=by
 unfold uG;rw[bu,bu,cY];cases m[i]? <;> rfl
def Fp.ke.yD{m:List (List Iv)}{n k:Nat}(h:ke m n k):DK (uG m):=by
 intro r hr x hx;obtain⟨r',h1,rfl⟩:=cR.1 hr;obtain⟨x',h2,rfl⟩:=cR.1 hx;exact(h.ok _ h1 _ h2).yD
def Fp.ke.rok{m:List (List Iv)}{n k:Nat}(h:ke m n k):DO (uG m):=by
 have hl:(uG m).length=n:=by rw[<-h.jm];simp[uG]
 have wR:∀ i,i<n->((uG m).getD i []).length=k:=λi hi=>by rw[OP,<-h.mF hi];simp[zj]
 have h1:=h.n1;refine⟨by have:=h.n1;omega,by have:=h.n8;omega,by rw[wR 0 aD];exact h.k1,by rw[wR 0 aD];exact h.k8,λi hi=>by rw[wR 0 aD,wR i aD],λi hi j hj=>?_⟩;have ml:i<n:= aD ;rw[wR i ml]at hj;rw[OP,Tx];exact(h.qP ml hj).FL
def xS(m:List (List Iv))(n k:Nat)(h:ke m n k):ig 127 [iU m] (bP true):=by
 have:=agS (uG m) h.yD (by have:=h.n8;simp[uG,h.jm];omega) (λi=>by rw[OP];have:=h.Fh i;simp only[zj,dI];omega);rwa[NF.2 h.rok,agO]at this
def adg(i j:Nat)(x:Iv)(b:List (List Iv))(p:Nat)(hx:x.iu)(hy:((b.getD i []).getD j il).iu)(hi:i<b.length)(hj:j<(b.getD i []).length)(iD:8<=p)(iq:p<=512):ig 222 [iP i,iP j,ix x,(.jC 1 λj_=>[.fn 73 []].getD j_ .any),(.jC 1 λj_=>[iU b].getD j_ .any),(.jC 1 λj_=>[iP p].getD j_ .any)] (ix (jL x ((b.getD i []).getD j il) p)):=
 ak call222 func222 (af [iX (i:Int) (b.length) aD,iX (j:Int) ((b.getD i []).length) aD,.c (vF x ((b.getD i []).getD j il) p aE aE aD aD)]) 
def adh(a b:List (List Iv))(n k p:Nat)(ga:ke a n k)(gb:ke b n k)(iD:8<=p)(iq:p<=512):ig 144 [iU a,iU b,iP p,.fn 73 []] (.iB [iU (qm a.length (λq=>(a.getD q []).length) (λi j=>jL ((a.getD i []).getD j il) ((b.getD i []).getD j il) p)),iP 0]):=by
 have ra:=ga.jm;have rb:=gb.jm;have n1:=ga.n1;have n8:=ga.n8;have la:=ga.mF (aD:0<n);have lb:=gb.mF (aD:0<n);exact ak call144 func144 (af [ag [iU a] (xS _ _ _ aE),ag [iU b] (xS _ _ _ aE),ag [iP p] (C8 _),ah 21 (kT (p:Int)) (oM.2 ⟨aD,aD⟩),ai 28 ((a.length:Int) != (b.length:Int)) (sD aD),iX 0 (a.length) aD,iX 0 (b.length) aD,ai 38 (((a.getD 0 []).length:Int) != ((b.getD 0 []).length:Int)) (sD aD),.c (Wf a 222 [(.jC 1 λj_=>[.fn 73 []].getD j_ .any),(.jC 1 λj_=>[iU b].getD j_ .any),(.jC 1 λj_=>[iP p].getD j_ .any)] (λi j=>jL ((a.getD i []).getD j il) ((b.getD i []).getD j il) p) aD (λi=>bJ (ga.Fh i) aF) (λi j hi hj=>adg _ _ _ _ _ (ga.qP aD (by rw[ga.mF aD]at hj;exact hj)) (gb.qP aD (by rw[ga.mF aD]at hj;exact hj)) aD (by rw[gb.mF aD];rw[ga.mF aD]at hj;exact hj) iD iq))]) 
def We(a b:List (List Iv))(n k p:Nat)(ga:ke a n k)(gb:ke b n k)(iD:8<=p)(iq:p<=512):ig 72 [iU a,iU b,iP p] (.iB [iU (yv a b p),iP 0]):=
 ak call72 func72 (ae [ag [iU a,iU b,iP p,.fn 73 []] (adh a b n k p ga gb iD iq)]<|rQ (.iB [iU (qm a.length (λq=>(a.getD q []).length) (λi j=>jL ((a.getD i []).getD j il) ((b.getD i []).getD j il) p)),iP 0]) (.iB [iU (yv a b p),iP 0]) (by rw[ZE ga gb])) 
end Go.Proofs.YtbhhompalmdaiaaGreatDoor
