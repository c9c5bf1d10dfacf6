/- The volume meets the determinant of the flow matrix, for a tube of a system, and its errors. -/
import Derived.Test.YtjkmahljfblobaaGreatDoorM04
set_option linter.unusedSimpArgs false
set_option linter.unusedVariables false
set_option linter.defProp false
set_option maxHeartbeats 4000000
open Go.Proofs.Tryz
namespace Go.Proofs.YtjkmahljfblobaaGreatDoor
open Go.RowKit Fp Pu
def Zc(m N:Nat)(x:Nat):PS:=⟨43,true,[(5,.e<|il<|ib<|ky m (2^((iq m+1)/2)) x),(0,.e<|il<|ib m)],[]⟩
def Y1(L M:List Nat)(hL:iQ L)(hM:iQ M)(h1:L.length<=3000)(h2:M.length<=3000):∃ S:List Nat,ic 336 [il L,il M] (il S)/\val S=val L+val M/\iQ S/\S.length=max L.length M.length+1:=by
 obtain⟨n,hn⟩:∃ n,n=max L.length M.length+1:=⟨_,rfl⟩
 have iE:val L+val M<4294967296^n:=by
  have a:=pk hL;have b:=pk hM;have e:4294967296^n=4294967296^max L.length M.length*4294967296:=by rw[hn,bF]
  have c:=bO (show 0<4294967296 by decide)<|Nat.le_max_left L.length M.length;have d:=bO (show 0<4294967296 by decide)<|Nat.le_max_right L.length M.length;omega
 refine⟨pE (val L+val M) n,?_,by rw[JN,cj iE],G8 _ _,by rw[B0,hn]⟩;refine Jl hL hM call336 (λA c B d w h k _=>Ze A B c d L M w h k h1 h2) λB w e w' hB r=>?_
 obtain⟨S,v1,v2,v3,r⟩:=r;rw[N6 v2 (by rw[v3,hn]) v1];exact rl B w e w' hB r
section
variable(L:List Nat)
def alb(n:Nat)(hL:iQ L)(h1:L.length<=3000)(hn:n<=65536):∃ S:List Nat,ic 236 [il L,iP (n:Int)] (il S)/\val S=val L*2^n/\iQ S:=by
 obtain⟨m,hm⟩:∃ m,m=n/32+(iO L).length+1:=⟨_,rfl⟩
 have iE:val L*2^n<4294967296^m:=by
  have a:=pk hL.iO;rw[qL]at a;have e:4294967296^m=4294967296^(iO L).length*2^(32*(n/32+1)):=by
   rw[hm,(aC:n/32+(iO L).length+1=(iO L).length+(n/32+1)),bj,Nat.pow_mul]
  rw[e];exact Nat.mul_lt_mul_of_lt_of_le a (bO aE aC)<|bn aE
 refine⟨pE (val L*2^n) m,?_,by rw[JN,cj iE],G8 _ _⟩;refine Jk hL call236 (λA c w h _=>Zf A c L n w h aC hn) λA c B w e w' h hB r=>?_
 obtain⟨S,v1,v2,v3,r⟩:=r;rw[N6 v2 (by rw[v3,hm]) v1];exact rl B w e w' hB r
def BA:List Nat:=rh (1%32)<|(iO L).drop<|1/32
def Za(hL:iQ L)(h1:L.length<=3000):ic 250 [il L,iP 1]<|il<|BA L:=
 Jk (n:=((1:Nat):Int)) hL call250 (λA c w h _=>QK A c L 1 w h aC aE) λA c B w e w' h hB r=>rl B w e w' hB r
end
def aa5{L:List Nat}(hL:iQ L):iO (BA L)=ib (val L/2):=by
 unfold BA;rw[s8<|CD _ _,MV hL.iO,qL]
def Zl(m x:Nat):qq m x<=max x (m/x):=by
 unfold qq;generalize m/x=q;omega
def Yl(a b:Nat):(ib<|max a b).length<=max (ib a).length (ib b).length:=by
 rcases Nat.le_total a b with h|h
 .rw [Nat.max_eq_right h];omega
 .rw [Nat.max_eq_left h];omega
def ak7(m:Nat)(h:(ib m).length<=256):ic 233 [il<|ib m]<|.ix [il<|ib m,iP 0]:=by
 have:=Y3 (ib m) (mJ m) (by rw[Gn];exact h);rwa[Gn]at this
def ald(m N:Nat)(h1:(ib m).length<=256)(h0:m≠0)(vZ:∀ k,k<N->qq m (ky m (2^((iq m+1)/2)) k)<(ky m (2^((iq m+1)/2)) k))(qn:(ky m (2^((iq m+1)/2)) N)<=qq m (ky m (2^((iq m+1)/2)) N))(kS:∀ k,k<=N->0<(ky m (2^((iq m+1)/2)) k)/\(ky m (2^((iq m+1)/2)) k)<=(2^((iq m+1)/2))):ic 386 [il<|ib m]<|.ix [il<|ib<|ky m (2^((iq m+1)/2)) N,iP 0]:=by
 have bm:=oV h0;have bl:=GR h1;have z0:(ib<|2^((iq m+1)/2)).length<=256:=qd (by rw[show(2^((iq m+1)/2))=1*2^((iq m+1)/2)by omega,rI aE];show 1+_<=_;omega);have hlen:∀ k,k<=N->(ib<|ky m (2^((iq m+1)/2)) k).length<=256:=λk hk=>bg (nk (kS k hk).2) z0
 obtain⟨S0,Dq,sv,oS0⟩:=alb (ib 1) ((iq m+1)/2) (mJ 1) aL aC;rw[kK,bN]at sv;have hS0:ic 235 [il S0]<|il<|ib<|2^((iq m+1)/2):=by
  have:=vv S0 oS0;rwa[s8 oS0,sv]at this
 have zN:=hlen N aC;exact iy (af [.c<|ak8 (ib m) aD,.c<|tL m,ai 15 ((iq m:Int)==0)<|nG aC,.o 16 (.e Ac:aj (.sl false 1 1 λi_ j_=>[.v<|.int .u32 1].getD (i_*1+j_)<|.v<|.bool false)<|il<|ib 1),iD<|(iq m:Int)+1,.a (aC:0<(2:Int)),
  iD (((iq m)+1:Nat):Int),ag [il<|ib 1,iP ((((iq m)+1)/2:Nat):Int)] Dq,ag [il S0] hS0,.s (Sp.jX (Zc m N) 0 N aC (λx hx mH=>by
    obtain⟨xl,xu⟩:=kS x aC;obtain⟨Tq,Sq,Fo,dT,dS,oT,oS,lT,lS⟩:=QF (ib m) (ib<|ky m (2^((iq m+1)/2)) x) (mJ m) (mJ _) aC (by have:=hlen x aC;omega) (by rw[kK];omega);rw[kK,kK]at dT;have zx:=hlen x aC;have O3:ic 235 [il Tq]<|il<|ib<|m/(ky m (2^((iq m+1)/2)) x):=by
     have:=vv Tq oT;rwa[s8 oT,dT]at this
    have zt:(ib<|m/(ky m (2^((iq m+1)/2)) x)).length<=257:=bg (nk<|b5 _ _) aC;obtain⟨Uq,hU,uv,oU,lU⟩:=Y1 (ib<|ky m (2^((iq m+1)/2)) x) (ib<|m/(ky m (2^((iq m+1)/2)) x)) (mJ _) (mJ _) aC aC;rw[kK,kK]at uv;have hV:=Za Uq oU aC;have Fk:ic 235 [il<|BA Uq]<|il<|ib<|qq m<|ky m (2^((iq m+1)/2)) x:=by
     have:=vv (BA Uq)<|CD _ _;rwa[aa5 oU,uv]at this
    have zn:(ib<|qq m<|ky m (2^((iq m+1)/2)) x).length<=257:=bg (nk<|Zl m<|ky m (2^((iq m+1)/2)) x) (by have:=Yl (ky m (2^((iq m+1)/2)) x)<|m/(ky m (2^((iq m+1)/2)) x);omega);exact iS (ae [ag [il<|ib m,il<|ib<|ky m (2^((iq m+1)/2)) x] Fo,ag [il Tq] O3,ag [il<|ib<|ky m (2^((iq m+1)/2)) x,il<|ib<|m/(ky m (2^((iq m+1)/2)) x)] hU,ag [il Uq,iP 1] hV,ag [il<|BA Uq] Fk,.c<|zW (qq m<|ky m (2^((iq m+1)/2)) x)<|ky m (2^((iq m+1)/2)) x,tF 37 (0<=(kI (qq m<|ky m (2^((iq m+1)/2)) x)<|ky m (2^((iq m+1)/2)) x))<|by have:=vZ x aC;have:=EZ.2 this;omega]<|.e<|af [.o 5<|.refl<|.e<|il<|ib<|ky m (2^((iq m+1)/2))<|x+1]) aF)
  (λhx=>by
    obtain⟨xl,xu⟩:=kS N aC;obtain⟨Tq,Sq,Fo,dT,dS,oT,oS,lT,lS⟩:=QF (ib m) (ib<|ky m (2^((iq m+1)/2)) N) (mJ m) (mJ _) aC (by have:=hlen N aC;omega) (by rw[kK];omega);rw[kK,kK]at dT;have zx:=hlen N aC;have O3:ic 235 [il Tq]<|il<|ib<|m/(ky m (2^((iq m+1)/2)) N):=by
     have:=vv Tq oT;rwa[s8 oT,dT]at this
    have zt:(ib<|m/(ky m (2^((iq m+1)/2)) N)).length<=257:=bg (nk<|b5 _ _) aC;obtain⟨Uq,hU,uv,oU,lU⟩:=Y1 (ib<|ky m (2^((iq m+1)/2)) N) (ib<|m/(ky m (2^((iq m+1)/2)) N)) (mJ _) (mJ _) aC aC;rw[kK,kK]at uv;have hV:=Za Uq oU aC;have Fk:ic 235 [il<|BA Uq]<|il<|ib<|qq m<|ky m (2^((iq m+1)/2)) N:=by
     have:=vv (BA Uq)<|CD _ _;rwa[aa5 oU,uv]at this
    have zn:(ib<|qq m<|ky m (2^((iq m+1)/2)) N).length<=257:=bg (nk<|Zl m<|ky m (2^((iq m+1)/2)) N) (by have:=Yl (ky m (2^((iq m+1)/2)) N)<|m/(ky m (2^((iq m+1)/2)) N);omega);exact iS (af [ag [il<|ib m,il<|ib<|ky m (2^((iq m+1)/2)) N] Fo,ag [il Tq] O3,ag [il<|ib<|ky m (2^((iq m+1)/2)) N,il<|ib<|m/(ky m (2^((iq m+1)/2)) N)] hU,ag [il Uq,iP 1] hV,ag [il<|BA Uq] Fk,.c<|zW (qq m<|ky m (2^((iq m+1)/2)) N)<|ky m (2^((iq m+1)/2)) N,tT 37 (0<=(kI (qq m<|ky m (2^((iq m+1)/2)) N)<|ky m (2^((iq m+1)/2)) N)) (by have:=qn;have:¬kI (qq m<|ky m (2^((iq m+1)/2)) N) (ky m (2^((iq m+1)/2)) N)<0:=λq=>absurd (EZ.1 q) aC;omega),.c<|ak7 (ky m (2^((iq m+1)/2)) N) aC]) aF) aI:jW 7 f386 (Zc m N 0) .ret ⟨43,true,[(3,.e<|iP 0),(2,.e<|il<|ib<|ky m (2^((iq m+1)/2)) N)],[]⟩)<|af [.o 5<|.refl<|.e<|il<|ib<|ky m (2^((iq m+1)/2)) 0]])
def Zd(m s:Nat)(h1:(ib m).length<=256)(h0:m≠0)(hr:wj m s):ic 386 [il<|ib m]<|.ix [il<|ib s,iP 0]:=by
 obtain⟨N,_,a,b,c,d⟩:=anf hr (dI h0)<|anh m hr;have hs:0<s:=by
  apply bQ;intro h;obtain rfl:s=0:= aC ;have:=hr.2;omega
 have:=ald m N h1 h0 a b λk hk=>⟨by have:=(d k hk).1;omega,(d k hk).2⟩
 rwa[c]at this
noncomputable def lO(m:Nat):Nat:=Classical.choose<|aat m
def Eh(m:Nat):wj m<|lO m:=cT<|aat m
section
variable(d:Dy)(p:Nat)
def tS:Nat:=if Int.tmod (d.e-((2*p+4-iq d.m:Nat):Int)) 2=0 then 2*p+4-iq d.m else 2*p+4-iq d.m+1
noncomputable def wK(up:Bool):Dy:=wI (d.m*2^tS d p) (lO<|d.m*2^tS d p) ((d.e-(tS d p:Int))/2) p up
noncomputable def wJ(up:Bool):Int:=BB (d.m*2^tS d p) (lO<|d.m*2^tS d p) ((d.e-(tS d p:Int))/2) p up
def MG:d.e-(tS d p:Int)=2*((d.e-(tS d p:Int))/2):=by
 have key:∀ x:Int,Int.tmod x 2=0↔x%2=0:=λx=>by rw[<-Int.dvd_iff_tmod_eq_zero,<-Int.dvd_iff_emod_eq_zero]
 have:(d.e-(tS d p:Int))%2=0:=by
  unfold tS;split
  .rename_i h;exact(key _).1 h
  .rename_i h;have h2:¬(d.e-((2*p+4-iq d.m:Nat):Int))%2=0:=λq=>h ((key _).2 q)
   clear h;omega
 omega
end
def abh(s:Nat):s<=s*s:=by
 by_cases h:s=0
 .subst h;exact b7 _
 .exact gl s<|dI h
def abi{d:Dy}(hn:d.neg=false)(K:Nat){E:Int}(h:d.e-(K:Int)=2*E):((d.m*2^K:Nat):Rat)*(P2 E*P2 E)=d.q:=by
 rw[qs,hn,aX aE,<-rG,dr,<-As,fj,<-rG,show(K:Int)+(E+E)=d.e by omega]
def RG{m s p:Nat}(h:wj m s)(hm:2*p+4<=iq m):p<iq s:=by
 apply bQ;intro hb;have h1:s<2^iq s:=sc s;have h2:2^iq s<=2^p:=bO aE aC;have h3:=dB (aC:s+1<=2^p) (aC:s+1<=2^p);rw[<-bj]at h3;have h4:=h.2;have h5:iq m<=p+p:=me.2<|bM h4 h3;omega
def aau(m s:Nat):((kI (s*s) m) != 0)=decide (s*s≠m):=by
 unfold kI;generalize s*s=q;rcases Nat.lt_trichotomy q m with h|h|h
 .rw [aY h,aZ aC];rfl
 .subst h;simp
 .rw [aX aC,aY h,aZ aC];rfl
section
variable(d:Dy)(p:Nat)(up:Bool)(hd:d.ig)(hn:d.neg=false)(h0:d.m≠0)(iu:8<=p)(ie:p<=512)
def amC(pZ:Int.tmod (d.e-((2*p+4-(iq d.m):Nat):Int)) 2=0):ic 370 [iw d,iP p,bP up]<|.ix [iw<|wK d p up,iP<|wJ d p up]:=by
 have hl:=hd.ib;have hx:=hd.exp;have hr:=hd.range.resolve_left h0;have bp:=oV h0;have hK:tS d p=(2*p+4-(iq d.m)):=by unfold tS;rw[aY pZ]
 have he:=MG d p;rw[hK]at he;have hb:=rI h0<|2*p+4-(iq d.m);have z1:(ib<|d.m*2^(2*p+4-(iq d.m))).length<=256:=qd;have ui:(d.m*2^(2*p+4-(iq d.m)))≠0:=dN h0<|dX<|bn aE;have uD:=Eh<|d.m*2^(2*p+4-(iq d.m));have A6:=RG uD (p:=p) aC;have z2:(ib<|lO (d.m*2^(2*p+4-(iq d.m)))*lO (d.m*2^(2*p+4-(iq d.m)))).length<=256:=bg (nk uD.1) z1;have z3:(ib<|lO<|d.m*2^(2*p+4-(iq d.m))).length<=256:=bg (nk<|bg (abh _) uD.1) z1;have h00:lO (d.m*2^(2*p+4-(iq d.m)))≠0\/lO (d.m*2^(2*p+4-(iq d.m)))=0/\(d.e-((2*p+4-(iq d.m):Nat):Int))/2=0/\((kI (lO (d.m*2^(2*p+4-(iq d.m)))*lO (d.m*2^(2*p+4-(iq d.m))))<|d.m*2^(2*p+4-(iq d.m))) != 0)=false:=.inl (λq=>by rw[q,sO]at A6;omega);have tC:((kI (lO (d.m*2^(2*p+4-(iq d.m)))*lO (d.m*2^(2*p+4-(iq d.m))))<|d.m*2^(2*p+4-(iq d.m))) != 0)=true->p<iq (lO<|d.m*2^(2*p+4-(iq d.m))):=λ_=>A6
 exact iy (ae [.o 17<|.e<|Oe d,.c<|Rq p d aD aC aC,ah 20 ((0:Int)==0) aE,ai 23 d.neg hn,ai 26 ((0:Int) != 0) aE,ai 31 (((ib d.m).length:Int)==0)<|nG<|pV h0,iD<|2*(p:Int),iD<|((2*p:Nat):Int)+4,.c<|KA d aD,
  iD ((((2*p)+4:Nat):Int)-(iq<|Dy.m d:Int)),.o 41<|aq (if((((2*p)+4:Nat):Int)-(iq<|Dy.m d:Int))>0 then((((2*p)+4:Nat):Int)-(iq<|Dy.m d:Int))else 0) ((2*p+4-(iq d.m):Nat):Int) aM,
  iD (d.e-((2*p+4-(iq d.m):Nat):Int)),.a (aC:0<(2:Int)),ai 47 ((Int.tmod (d.e-((2*p+4-(iq d.m):Nat):Int)) 2) != 0)<|by simpa using pZ,.c<|xI d.m<|2*p+4-(iq d.m),.c<|Zd (d.m*2^(2*p+4-(iq d.m))) _ aC aD<|Eh _,.c<|Bn (lO<|d.m*2^(2*p+4-(iq d.m))) (lO<|d.m*2^(2*p+4-(iq d.m))) aC aC aC,iD<|d.e-((2*p+4-(iq d.m):Nat):Int),.a (aC:0<(2:Int)),
  iD (d.e-((2*p+4-(iq d.m):Nat):Int)),.o 70<|aq (Int.tdiv (d.e-((2*p+4-(iq d.m):Nat):Int)) 2) ((d.e-((2*p+4-(iq d.m):Nat):Int))/2) (by generalize hy:(d.e-((2*p+4-(iq d.m):Nat):Int))/2=y at *;rw[he];exact arI _ aE),.c<|zW ((lO<|d.m*2^(2*p+4-(iq d.m)))*(lO<|d.m*2^(2*p+4-(iq d.m))))<|d.m*2^(2*p+4-(iq d.m)),.c<|F5 (lO<|d.m*2^(2*p+4-(iq d.m))) ((d.e-((2*p+4-(iq d.m):Nat):Int))/2) ((kI ((lO<|d.m*2^(2*p+4-(iq d.m)))*(lO<|d.m*2^(2*p+4-(iq d.m))))<|d.m*2^(2*p+4-(iq d.m))) != 0) up p aC aD aC aC aC aC aD]<|rQ (.ix [iw<|j9 false (lO<|d.m*2^(2*p+4-(iq d.m))) ((d.e-((2*p+4-(iq d.m):Nat):Int))/2) ((kI ((lO<|d.m*2^(2*p+4-(iq d.m)))*(lO<|d.m*2^(2*p+4-(iq d.m))))<|d.m*2^(2*p+4-(iq d.m))) != 0) p up,iP<|jY false (lO<|d.m*2^(2*p+4-(iq d.m))) ((d.e-((2*p+4-(iq d.m):Nat):Int))/2) ((kI ((lO<|d.m*2^(2*p+4-(iq d.m)))*(lO<|d.m*2^(2*p+4-(iq d.m))))<|d.m*2^(2*p+4-(iq d.m))) != 0) p up]) (.ix [iw<|wK d p up,iP<|wJ d p up])<|by unfold wK wJ wI BB;rw[hK,aau])
def amD(pZ:¬Int.tmod (d.e-((2*p+4-(iq d.m):Nat):Int)) 2=0):ic 370 [iw d,iP p,bP up]<|.ix [iw<|wK d p up,iP<|wJ d p up]:=by
 have hl:=hd.ib;have hx:=hd.exp;have hr:=hd.range.resolve_left h0;have bp:=oV h0;have hK:tS d p=((2*p+4-(iq d.m))+1):=by unfold tS;rw[aX pZ]
 have he:=MG d p;rw[hK]at he;have hb:=rI h0<|(2*p+4-(iq d.m))+1;have z1:(ib<|d.m*2^((2*p+4-(iq d.m))+1)).length<=256:=qd;have ui:(d.m*2^((2*p+4-(iq d.m))+1))≠0:=dN h0<|dX<|bn aE;have uD:=Eh<|d.m*2^((2*p+4-(iq d.m))+1);have A6:=RG uD (p:=p) aC;have z2:(ib<|lO (d.m*2^((2*p+4-(iq d.m))+1))*lO (d.m*2^((2*p+4-(iq d.m))+1))).length<=256:=bg (nk uD.1) z1;have z3:(ib<|lO<|d.m*2^((2*p+4-(iq d.m))+1)).length<=256:=bg (nk<|bg (abh _) uD.1) z1;have h00:lO (d.m*2^((2*p+4-(iq d.m))+1))≠0\/lO (d.m*2^((2*p+4-(iq d.m))+1))=0/\(d.e-(((2*p+4-(iq d.m))+1:Nat):Int))/2=0/\((kI (lO (d.m*2^((2*p+4-(iq d.m))+1))*lO (d.m*2^((2*p+4-(iq d.m))+1)))<|d.m*2^((2*p+4-(iq d.m))+1)) != 0)=false:=.inl (λq=>by rw[q,sO]at A6;omega);have tC:((kI (lO (d.m*2^((2*p+4-(iq d.m))+1))*lO (d.m*2^((2*p+4-(iq d.m))+1)))<|d.m*2^((2*p+4-(iq d.m))+1)) != 0)=true->p<iq (lO<|d.m*2^((2*p+4-(iq d.m))+1)):=λ_=>A6
 exact iy (ae [.o 17<|.e<|Oe d,.c<|Rq p d aD aC aC,ah 20 ((0:Int)==0) aE,ai 23 d.neg hn,ai 26 ((0:Int) != 0) aE,ai 31 (((ib d.m).length:Int)==0)<|nG<|pV h0,iD<|2*(p:Int),iD<|((2*p:Nat):Int)+4,.c<|KA d aD,
  iD ((((2*p)+4:Nat):Int)-(iq<|Dy.m d:Int)),.o 41<|aq (if((((2*p)+4:Nat):Int)-(iq<|Dy.m d:Int))>0 then((((2*p)+4:Nat):Int)-(iq<|Dy.m d:Int))else 0) ((2*p+4-(iq d.m):Nat):Int) aM,
  iD (d.e-((2*p+4-(iq d.m):Nat):Int)),.a (aC:0<(2:Int)),ah 47 ((Int.tmod (d.e-((2*p+4-(iq d.m):Nat):Int)) 2) != 0)<|by simpa using pZ,
  iD (((2*p+4-(iq d.m):Nat):Int)+1),.c<|xI d.m<|(2*p+4-(iq d.m))+1,.c<|Zd (d.m*2^((2*p+4-(iq d.m))+1)) _ aC aD<|Eh _,.c<|Bn (lO<|d.m*2^((2*p+4-(iq d.m))+1)) (lO<|d.m*2^((2*p+4-(iq d.m))+1)) aC aC aC,iD<|d.e-(((2*p+4-(iq d.m))+1:Nat):Int),.a (aC:0<(2:Int)),iD<|d.e-(((2*p+4-(iq d.m))+1:Nat):Int),.o 70<|aq (Int.tdiv (d.e-(((2*p+4-(iq d.m))+1:Nat):Int)) 2) ((d.e-(((2*p+4-(iq d.m))+1:Nat):Int))/2) (by generalize hy:(d.e-(((2*p+4-(iq d.m))+1:Nat):Int))/2=y at *;rw[he];exact arI _ aE),.c<|zW ((lO<|d.m*2^((2*p+4-(iq d.m))+1))*(lO<|d.m*2^((2*p+4-(iq d.m))+1)))<|d.m*2^((2*p+4-(iq d.m))+1),.c<|F5 (lO<|d.m*2^((2*p+4-(iq d.m))+1)) ((d.e-(((2*p+4-(iq d.m))+1:Nat):Int))/2) ((kI ((lO<|d.m*2^((2*p+4-(iq d.m))+1))*(lO<|d.m*2^((2*p+4-(iq d.m))+1)))<|d.m*2^((2*p+4-(iq d.m))+1)) != 0) up p aC aD aC aC aC aC aD]<|rQ (.ix [iw<|j9 false (lO<|d.m*2^((2*p+4-(iq d.m))+1)) ((d.e-(((2*p+4-(iq d.m))+1:Nat):Int))/2) ((kI ((lO<|d.m*2^((2*p+4-(iq d.m))+1))*(lO<|d.m*2^((2*p+4-(iq d.m))+1)))<|d.m*2^((2*p+4-(iq d.m))+1)) != 0) p up,iP<|jY false (lO<|d.m*2^((2*p+4-(iq d.m))+1)) ((d.e-(((2*p+4-(iq d.m))+1:Nat):Int))/2) ((kI ((lO<|d.m*2^((2*p+4-(iq d.m))+1))*(lO<|d.m*2^((2*p+4-(iq d.m))+1)))<|d.m*2^((2*p+4-(iq d.m))+1)) != 0) p up]) (.ix [iw<|wK d p up,iP<|wJ d p up])<|by unfold wK wJ wI BB;rw[hK,aau])
def aai:ic 370 [iw d,iP p,bP up]<|.ix [iw<|wK d p up,iP<|wJ d p up]:=by
 by_cases h:Int.tmod (d.e-((2*p+4-(iq d.m):Nat):Int)) 2=0
 .exact amC d p up hd hn h0 iu ie h
 .exact amD d p up hd hn h0 iu ie h
end
section
variable(d:Dy)(p:Nat)(hd:d.ig)(hn:d.neg=false)(h0:d.m≠0)(iu:8<=p)(ie:p<=512)
def amA:ic 353 [iw d,iP p]<|.ix [iw<|wK d p false,iP<|wJ d p false]:=
 iy (af [.c<|aai d p false aD aD aD aC aC])
def amB:ic 354 [iw d,iP p]<|.ix [iw<|wK d p true,iP<|wJ d p true]:=
 iy (af [.c<|aai d p true aD aD aD aC aC])
end
section
variable(x:Iv)(p:Nat)(hx:x.ig)
def ajM(iu:8<=p)(ie:p<=512)(xa:x.all=true):ic 321 [im x,iP p]<|im ik:=
 iy (af [.o 10<|.e<|lW x,.c<|qo x aD,ai 11 (!x.all)<|by rw[xa];rfl,.c nu])
section
variable(iu:8<=p)(ie:p<=512)(xa:x.all=false)
def ajO(h1:x.lo.jc<=0):ic 321 [im x,iP p]<|im ik:=by
 obtain⟨w1,w2⟩:=hx.jj;exact iy<|af [.o 10<|.e<|lW x,.c<|qo x aD,ah 11 (!x.all)<|by rw[xa];rfl,.c<|xw (p:Int),ah 15 (kT (p:Int))<|pH.2 ⟨aC,aC⟩,.c<|nL x.lo aD,tB 22<|aZ h1,.c nu]
def ajP(h1:¬x.lo.jc<=0)(n1:x.lo.neg=false)(n2:x.hi.neg=false)(m1:x.lo.m≠0)(m2:x.hi.m≠0):ic 321 [im x,iP p]<|im<|lH (wK x.lo p false) (wJ x.lo p false) (wK x.hi p true)<|wJ x.hi p true:=by
 obtain⟨w1,w2⟩:=hx.jj;exact iy<|af [.o 10<|.e<|lW x,.c<|qo x aD,ah 11 (!x.all)<|by rw[xa];rfl,.c<|xw (p:Int),ah 15 (kT (p:Int))<|pH.2 ⟨aC,aC⟩,.c<|nL x.lo aD,tB 22<|a6 h1,.c<|amA x.lo p aD aD aD aC aC,.c<|amB x.hi p aD aD aD aC aC,.c<|DY (wK x.lo p false) (wK x.hi p true) (wJ x.lo p false)<|wJ x.hi p true]
end
end
def ZP{d:Dy}(h:0<d.q):d.neg=false/\d.m≠0:=by
 have hm:d.m≠0:=λq=>by rw[qs,q]at h;simp at h
 refine⟨?_,hm⟩;cases hn:d.neg
 .rfl
 .rw [qs,hn,aY rfl]at h;have:=bH (show(0:Rat)<=(d.m:Rat)from cR) (bE<|nJ d.e)
  grind
def sqB{d:Dy}{p:Nat}(iu:8<=p)(h0:d.m≠0):p<iq (lO<|d.m*2^tS d p):=by
 refine RG (Eh _) ?_;rw[rI h0];unfold tS;split<;>omega
def ajN{x:Iv}(hx:x.ig){p:Nat}(iu:8<=p)(ie:p<=512):∃ Z,Z.ig/\ic 321 [im x,iP (p:Int)] (im Z):=by
 cases xa:x.all with
 |true=>exact⟨ik,kR,ajM x p hx iu ie xa⟩
 |false=>
  by_cases h1:x.lo.jc<=0
  .exact ⟨ik,kR,ajO x p hx iu ie xa h1⟩
  .have q1:0<x.lo.q:=(rX _).1.1 aC ;have q2:0<x.hi.q:=by have:=hx.q;grind
   obtain⟨n1,m1⟩:=ZP q1;obtain⟨n2,m2⟩:=ZP q2;refine⟨_,?_,ajP x p hx iu ie xa h1 n1 n2 m1 m2⟩;refine aop (Eh _) (Eh _) (sqB iu m1) (sqB iu m2) aC aC ?_;rw[abi n1 _<|MG _ _,abi n2 _<|MG _ _];exact hx.q
def ke(X b:Nat):Nat->Nat
 | 0=>2^b
 |k+1=>ke X b k*X/2^b/(k+1)
def VM{X b:Nat}(h:X<=2^(b+1))(t:Nat):t*X/2^b<=2*t:=by
 have hp:0<2^b:=bn aE;have h1:t*X<=t*(2^b*2):=cJ t (by rw[<-bF];exact h);have h2:t*X/2^b<=t*(2^b*2)/2^b:=Nat.div_le_div_right h1;have h3:t*(2^b*2)/2^b=2*t:=by
  rw[show t*(2^b*2)=2^b*(2*t)by rw[en,bI t 2]];exact arJ _ hp
 omega
def Ho{X b:Nat}(h:X<=2^(b+1)):∀ k,ke X b k<=2^(b+1)
 | 0=>by show 2^b<=2^(b+1);rw[bF];omega
 | 1=>by
  show 2^b*X/2^b/1<=_;rw[fU,arJ _<|bn aE];exact h
 |k+2=>by
  have ih:=Ho h<|k+1;have h1:=VM h<|ke X b<|k+1;show ke X b (k+1)*X/2^b/(k+2)<=_;have h2:ke X b (k+1)*X/2^b/(k+2)<=ke X b (k+1)*X/2^b/2:=aqU aC aE;omega
def ahu{X b:Nat}(h:X<=2^(b+1))(k:Nat)(hk:3<=k):ke X b (k+1)*2<=ke X b k:=by
 have h1:=VM h<|ke X b k;have h2:ke X b (k+1)<=ke X b k*X/2^b/4:=aqU aC aE;omega
def VL{X b:Nat}(h:X<=2^(b+1)):∀ j,ke X b (3+j)*2^j<=2^(b+1)
 | 0=>by rw[cA,b6];exact Ho h 3
 |j+1=>by
  have ih:=VL h j;have h1:=ahu h (3+j) aC;have h2:=bG (2^j) h1;rw[bF,show ke X b (3+(j+1))*(2^j*2)=ke X b (3+j+1)*2*2^j by rw[bB,bI 2<|2^j];rfl];omega
def ahv{X b:Nat}(h:X<=2^(b+1)):∃ N,1<=N/\N<=b+5/\(∀ k,k<N->ke X b k≠0)/\ke X b N=0:=by
 have hz:ke X b (3+(b+2))=0:=by
  have h1:=VL h<|b+2;apply bQ;intro jD;have h2:2^(b+2)<=ke X b (3+(b+2))*2^(b+2):=gl _<|dI jD;have h3:2^(b+2)=2^(b+1)*2:=bF (n:=2) (m:=b+1);have h4:0<2^(b+1):=bn aE;omega
 obtain⟨N,n1,n2,n3⟩:=sD (p:=λk=>decide (ke X b k=0)) (n:=b+6) ⟨3+(b+2),aC,aZ hz⟩;have n2':=cN n2;refine⟨N,?_,aC,λk hk=>gK<|n3 k hk,n2'⟩;rcases N with _|N
 .have:0<2^b:=bn aE ;have e:2^b=0:=n2';omega
 .omega
def aiB{f:Nat->Nat}{B:Nat}(h0:f 0<2^B)(h:∀ k,f (k+1)*2<=f k):∃ N,N<=B/\(∀ k,k<N->f k≠0)/\f N=0:=by
 have hp:∀ k,f k*2^k<=f 0:=by
  intro k
  induction k with
  |zero=>rw[cA,b6];exact a7 _
  |succ k ih=>
   have:=bG (2^k)<|h k;rw[bF,show f (k+1)*(2^k*2)=f (k+1)*2*2^k by rw[bB,bI 2<|2^k]];omega
 have hz:f B=0:=by
  apply bQ;intro jD;have h2:2^B<=f B*2^B:=gl _<|dI jD;have:=hp B;omega
 obtain⟨N,n1,n2,n3⟩:=sD (p:=λk=>decide (f k=0)) (n:=B+1) ⟨B,aC,aZ hz⟩;exact⟨N,aC,λk hk=>gK<|n3 k hk,cN n2⟩
def jM(a b:Bool×Nat):Bool×Nat:=if a.1=b.1 then(a.1,a.2+b.2)else if a.2<b.2 then(b.1,b.2-a.2)else(a.1,a.2-b.2)
def pX(a:Bool×Nat):Int:=if a.1 then -(a.2:Int)else(a.2:Int)
def OC(a b:Bool×Nat):pX (jM a b)=pX a+pX b:=by
 obtain⟨s,m⟩:=a;obtain⟨t,n⟩:=b;unfold jM pX;cases s<;>cases t<;>simp<;>(try split)<;>(try simp)<;>omega
def y9(a b:Bool×Nat):(jM a b).2<=a.2+b.2:=by
 unfold jM;split
 .exact a7 _
 .split
  .show b.2-a.2<=_;omega
  .show a.2-b.2<=_;omega
section
variable(a:Bool×Nat)
def B6(b:Nat):Dy:=canon a.1 a.2 (-(b:Int))
def VK(b:Nat):(B6 a b).q=(pX a:Rat)*P2 (-(b:Int)):=by
 unfold B6 pX;rw[si];cases a.1
 .simp only[bC,bh];rw[dD]
 .simp only[bA];rw[fW,dD];grind
def KX:Bool×Nat:=jM a (true,16777216)
def KW:Bool×Nat:=jM a (false,16777216)
def tM(b p:Nat):Iv:=lH (jN (B6 (KX a) b) p false) (jC (B6 (KX a) b) p false) (jN (B6 (KW a) b) p true)<|jC (B6 (KW a) b) p true
def alj(b:Nat){p:Nat}(hp:1<=p)(ie:p<=4096):(tM a b p).ig:=by
 unfold tM lH;split
 .exact kR
 .rename_i he;have c1:(B6 (KX a) b).mi:=tl _ _ _;have c2:(B6 (KW a) b).mi:=tl _ _ _;have A:=yQ c1 hp ie;have B:=vD c2 hp ie;refine .inr ⟨rfl,wF _ hp ie _,wF _ hp ie _,?_⟩;rw[pg];refine bw (A.1 aC).2<|bw ?_ (B.1 aC).2;rw[VK,VK,xB,gJ];unfold KX KW;rw[OC,OC];simp[pX]
end
section
variable(m n:Nat)(h1:(ib m).length<=256)
def BV(h2:n<=65536)(h3:(ib<|m*2^n).length<=256):ic 378 [il<|ib m,iP n]<|il<|ib<|m*2^n:=
 iy (af [.c<|QI m n aD aC aD])
def xX(h2:n<=65536:=by omega):ic 379 [il<|ib m,iP n]<|il<|ib<|m/2^n:=
 iy (af [.c<|QJ m n aD aC])
end
section
variable(m:Nat)(z:Int)(h1:(ib m).length<=256)(h2:0<=z)(h3:z<=65536)
def NI(h4:(ib<|m*2^z.toNat).length<=256):ic 378 [il<|ib m,iP z]<|il<|ib<|m*2^z.toNat:=by
 have:=BV m z.toNat h1 aC h4;rwa[show(z.toNat:Int)=z by omega]at this
def aeK:ic 379 [il<|ib m,iP z]<|il<|ib<|m/2^z.toNat:=by
 have:=xX m z.toNat h1;rwa[show(z.toNat:Int)=z by omega]at this
end
def lG{m k:Nat}(h:m<2^k)(hk:k<=8192):(ib m).length<=256:=qd<|bg (me.2 h) hk
def uK{n:Nat}(h:n<4294967296):(ib n).length<=256:=lG (k:=32) h aE 
def aju(n:Nat):(iU n).neg=false/\0<=(iU n).e/\(iU n).m*2^(iU n).e.toNat=n/\(iU n).m<=n:=by
 by_cases h:n=0
 .subst h;decide
 .have e1:(iU (n:Int))=canon false n 0:=xv n;have e2:canon false n 0=⟨false,n/2^jU n,(jU n:Int)⟩:=by unfold canon;rw[aX h];simp
  rw[e1,e2];refine⟨rfl,Int.natCast_nonneg _,?_,b5 _ _⟩;show n/2^jU n*2^(jU n:Int).toNat=n;rw[fz];exact Ha h
def NK(n:Nat)(h:n<4294967296):ic 380 [iP n]<|.agg [bP false,il<|ib n]:=by
 obtain⟨p1,p2,p3,p4⟩:=aju n;have hv:=zI n h;have he:=hv.exp;have z1:=hv.ib;have z2:(ib<|(iU n).m*2^(Int.toNat (iU n).e)).length<=256:=by rw[p3];exact uK h
 exact iy<|ae [.c<|Ny n aC,.c<|NI ((iU (n:Int)).m) ((iU (n:Int)).e) aD aC aC aD]<|rQ (.agg [bP<|(iU (n:Int)).neg,il<|ib<|((iU (n:Int)).m)*2^(Int.toNat<|(iU (n:Int)).e)]) (.agg [bP false,il<|ib n])<|by rw[p1,p3]
def adX(m:Nat):((iq m:Int)==0)=decide (m=0):=by
 by_cases h:m=0
 .subst h;rw[sO];rfl
 .have:=oV h;rw[a6 h];exact nG aC 
section
variable(a:Bool×Nat)
def Fg(ha:(ib a.2).length<=256):ic 385 [.agg [bP a.1,il<|ib a.2]]<|bP<|decide (a.2=0):=
 iy (ae [.c<|tL a.2]<|rQ (bP<|(iq a.2:Int)==0) (bP<|decide (a.2=0))<|by rw[adX])
def yj:ic 375 [.agg [bP a.1,il<|ib a.2]]<|.agg [bP<|!a.1,il<|ib a.2]:=
 iy (.nil)
section
variable(ha:(ib a.2).length<=256)
section
variable(b:Bool×Nat)(hb:(ib b.2).length<=256)
def ag5(h:a.1=b.1)(hs:(ib<|a.2+b.2).length<=256):ic 384 [.agg [bP a.1,il<|ib a.2],.agg [bP b.1,il<|ib b.2]]<|.agg [bP a.1,il<|ib<|a.2+b.2]:=
 iy (af [ah 13 (a.1==b.1)<|by rw[h];simp,.c<|I6 a.2 b.2 aD aD aD])
def ag3(h:¬a.1=b.1)(h2:a.2<b.2):ic 384 [.agg [bP a.1,il<|ib a.2],.agg [bP b.1,il<|ib b.2]]<|.agg [bP b.1,il<|ib<|b.2-a.2]:=
 iy (af [ai 13 (a.1==b.1)<|by simpa using h,.c<|zW a.2 b.2,tT 31 ((kI a.2 b.2)<0)<|EZ.2 h2,.c<|D8 b.2 a.2 aD aD])
def ag4(h:¬a.1=b.1)(h2:¬a.2<b.2):ic 384 [.agg [bP a.1,il<|ib a.2],.agg [bP b.1,il<|ib b.2]]<|.agg [bP a.1,il<|ib<|a.2-b.2]:=
 iy (af [ai 13 (a.1==b.1)<|by simpa using h,.c<|zW a.2 b.2,tF 31 ((kI a.2 b.2)<0) λq=>h2<|EZ.1 q,.c<|D8 a.2 b.2 aD aD])
def ug(hs:(ib<|a.2+b.2).length<=256):ic 384 [.agg [bP a.1,il<|ib a.2],.agg [bP b.1,il<|ib b.2]]<|.agg [bP<|(jM a b).1,il<|ib<|(jM a b).2]:=by
 unfold jM;split
 .rename_i h;exact ag5 a ha b hb h hs
 .rename_i h;split
  .rename_i h2;exact ag3 a ha b hb h h2
  .rename_i h2;exact ag4 a ha b hb h h2
end
def OB(c:Bool×Nat)(hc:(ib c.2).length<=256)(b:Nat)(hb:b<=65536)(hm:(ib<|a.2*c.2).length<=256):ic 381 [.agg [bP a.1,il<|ib a.2],.agg [bP c.1,il<|ib c.2],iP b]<|.agg [bP<|a.1 != c.1,il<|ib<|a.2*c.2/2^b]:=
 iy (af [.c<|Bn a.2 c.2 aD aD aD,.c<|xX (a.2*c.2) b aD])
def Hk(n:Nat)(h0:n≠0:=by omega)(hn:n<4294967296:=by omega):ic 387 [.agg [bP a.1,il<|ib a.2],iP n]<|.agg [bP a.1,il<|ib<|a.2/n]:=by
 have zn:(ib n).length<=256:=uK hn;exact iy<|af [.c<|NK n aC,.c<|Bm a.2 n aC aC aD]
end
end
def rV(d:Dy)(b:Nat):Bool×Nat:=(d.neg,if d.e+(b:Int)<0 then d.m/2^(0-(d.e+(b:Int))).toNat else d.m*2^(d.e+(b:Int)).toNat)
section
variable(d:Dy)(hd:d.ig)(b:Nat)(hb:b<=30000)
def aet(h:d.e+(b:Int)<0):ic 383 [iw d,iP b]<|.agg [bP<|(rV d b).1,il<|ib<|(rV d b).2]:=by
 have hx:=hd.exp;have z1:=hd.ib;exact iy<|ae [iD<|d.e+(b:Int),tB 11<|aZ h,iD<|0-(d.e+(b:Int)),.c<|aeK d.m (0-(d.e+(b:Int))) aD aC aC]<|rQ (.agg [bP d.neg,il<|ib<|d.m/2^(Int.toNat<|0-(d.e+(b:Int)))]) (.agg [bP<|(rV d b).1,il<|ib<|(rV d b).2])<|by unfold rV;rw[aY h]
def aes(h:¬d.e+(b:Int)<0)(hs:(ib<|d.m*2^(Int.toNat<|d.e+(b:Int))).length<=256):ic 383 [iw d,iP b]<|.agg [bP<|(rV d b).1,il<|ib<|(rV d b).2]:=by
 have hx:=hd.exp;have z1:=hd.ib;exact iy<|ae [iD<|d.e+(b:Int),tB 11<|a6 h,iD<|d.e+(b:Int),.c<|NI d.m (d.e+(b:Int)) aD aC aC aD]<|rQ (.agg [bP d.neg,il<|ib<|d.m*2^(Int.toNat<|d.e+(b:Int))]) (.agg [bP<|(rV d b).1,il<|ib<|(rV d b).2])<|by unfold rV;rw[aX h]
end
def L8{d:Dy}{b K:Nat}(h:d.iz+(b:Int)<=K):(rV d b).2<2^K:=by
 by_cases h0:d.m=0
 .have:(rV d b).2=0:=by unfold rV;simp only[h0];split<;>simp
  rw[this];exact bn aE 
 .rw [Gm h0]at h;have hm:=sc d.m;unfold rV;simp only;split
  .rename_i hc;obtain⟨k,hk⟩:∃ k,k=(0-(d.e+(b:Int))).toNat:=⟨_,rfl⟩
   rw[<-hk];by_cases hb:iq d.m<=k
   .rw [cY<|bM hm<|bO aE hb];exact bn aE 
   .refine (cG<|bn aE).2<|bM hm ?_;rw[<-bj];exact bO aE aC 
  .rename_i hc;obtain⟨k,hk⟩:∃ k,k=(d.e+(b:Int)).toNat:=⟨_,rfl⟩
   rw[<-hk];have:=dg hm (bn (n:=k)<|show 0<2 by decide);rw[<-bj]at this;exact bM this<|bO aE aC
def NJ(d:Dy)(hd:d.ig)(b K:Nat)(hb:b<=30000)(hK:K<=8192)(h:d.iz+(b:Int)<=K):ic 383 [iw d,iP (b:Int)]<|.agg [bP<|(rV d b).1,il<|ib<|(rV d b).2]:=by
 by_cases hc:d.e+(b:Int)<0
 .exact aet d hd b hb hc
 .refine aes d hd b hb hc ?_;have:=L8 h;unfold rV at this;rw[aX hc]at this;exact lG this hK
def mL(f:Nat->Nat):Nat->Bool×Nat
 | 0=>(false,f 0)
 |k+1=>jM (mL f k) (decide ((k+1)%2=1),f (k+1)/(2*(k+1)+1))
def SZ{f:Nat->Nat}(hf:∀ k,f (k+1)<=f k):∀ n,(n%2=0->pX (mL f n)<=f 0/\(f 0:Int)-(f 1/3:Nat)<=pX (mL f n)-(f (n+1)/(2*(n+1)+1):Nat))/\(n%2=1->(f 0:Int)-(f 1/3:Nat)<=pX (mL f n)/\pX (mL f n)+(f (n+1)/(2*(n+1)+1):Nat)<=f 0)
 | 0=>⟨λ_=>⟨by simp[mL,pX],by simp[mL,pX]⟩,λh=> aC⟩
 |n+1=>by
  obtain⟨e,o⟩:=SZ hf n;have hq:f (n+1+1)/(2*(n+1+1)+1)<=f (n+1)/(2*(n+1)+1):=Nat.div_le_div (hf<|n+1) aC aC;have hv:pX (mL f<|n+1)=pX (mL f n)+pX (decide ((n+1)%2=1),f (n+1)/(2*(n+1)+1)):=OC _ _;generalize f (n+1)/(2*(n+1)+1)=q1 at *
  generalize f (n+1+1)/(2*(n+1+1)+1)=q2 at *
  generalize f 1/3=q0 at *
  rcases arK n with h|h
  .obtain ⟨e1,e2⟩:=e h;rw[show decide ((n+1)%2=1)=true from aZ aC]at hv;simp only[pX,bA]at hv;exact⟨λq=> aC,λ_=>⟨by unfold pX at *;omega,by unfold pX at *;omega⟩⟩
  .obtain ⟨e1,e2⟩:=o h;rw[show decide ((n+1)%2=1)=false from a6 aC]at hv;simp only[pX,bC,bh]at hv;exact⟨λ_=>⟨by unfold pX at *;omega,by unfold pX at *;omega⟩,λq=> aC⟩
def Nv{f:Nat->Nat}(hf:∀ k,f (k+1)<=f k)(n:Nat):(mL f n).2<=f 0/\f 0<=(mL f n).2+f 1/3:=by
 have ht:=SZ hf n;have h1:f 1/3<=f 0:=bg (b5 _ _)<|hf 0;have hb:(f 0:Int)-(f 1/3:Nat)<=pX (mL f n)/\pX (mL f n)<=f 0:=by
  rcases arK n with h|h
  .have:=ht.1 h;generalize f (n+1)/(2*(n+1)+1)=q at *
   omega
  .have:=ht.2 h;generalize f (n+1)/(2*(n+1)+1)=q at *
   omega
 generalize mL f n=s at *
 generalize f 1/3=q at *
 obtain⟨b,m⟩:=s;cases b
 .simp only[pX,bC,bh]at hb ⊢;omega
 .simp only[pX,bA]at hb ⊢;omega
def J8{f:Nat->Nat}(hf:∀ k,f (k+1)<=f k):∀ k,f k<=f 0
 | 0=>a7 _
 |k+1=>bg (hf k)<|J8 hf k
section
variable{f:Nat->Nat}(hf:∀ k,f (k+1)<=f k){B:Nat}(hB:B<=8191)(hz:f 0<2^B)(k:Nat)
def EN:(ib<|f k).length<=256:=lG (ck (J8 hf k) hz) aC 
def J9:(ib (mL f k).2).length<=256/\(ib<|f (k+1)/(2*(k+1)+1)).length<=256:=⟨lG (ck (Nv hf k).1 hz) aC,lG (ck (bg (b5 _ _)<|J8 hf<|k+1) hz) aC⟩
def S1:(ib<|(mL f k).2+f (k+1)/(2*(k+1)+1)).length<=256:=by
 have h1:=(Nv hf k).1;have h2:=bg (b5 (f<|k+1)<|2*(k+1)+1)<|J8 hf<|k+1;refine lG (k:=B+1) ?_ aC;rw[bF];omega
end
def sV(n b:Nat):Nat->Nat
 | 0=>1*2^b/n
 |k+1=>sV n b k/(n*n)
def XV{n b:Nat}(hn:2<=n)(k:Nat):sV n b (k+1)*2<=sV n b k:=by
 show sV n b k/(n*n)*2<=_;have h1:sV n b k/(n*n)<=sV n b k/2:=aqU (by have:=dB hn hn;omega) aE;omega
def Qa(n b:Nat):sV n b 0<2^(b+1):=by
 show 1*2^b/n<_;rw[bN,bF];have:=b5 (2^b) n;have:0<2^b:=bn aE;omega
def ajB{n b:Nat}(hn:2<=n):∃ N,N<=b+1/\(∀ k,k<N->sV n b (k+1)≠0)/\sV n b (N+1)=0:=by
 obtain⟨N,h1,h2,h3⟩:=aiB (Qa n b)<|XV hn;rcases N with _|N
 .refine ⟨0,aC,λk hk=>absurd hk<|bt _,?_⟩;have:=XV (b:=b) hn 0;omega
 .exact ⟨N,aC,λk hk=>h2 (k+1) aC,h3⟩
def al5{T x y f g:Nat}(hT:65536<=T)(hf:f=T/5)(LA:x<=f)(uG:f<=x+f/(5*5)/3)(hy:y<=T/239)(hg:g=(jM (false,x*2^4) (true,y*2^2)).2):2<=g/\g<=T*4/\g/2<=T*2:=by
 have h16:(2:Nat)^4=16:=rfl;have h4:(2:Nat)^2=4:=rfl;have e:g=x*16-y*4:=by
  rw[hg,h16,h4];unfold jM;rw[aX<|show ¬false=true from Bool.false_ne_true,aX<|by show ¬x*16<y*4;omega]
 omega
section
variable(f:Nat->Nat)(g:FuncId)(cap:List E)
def SY(N:Nat)(x:Nat):PS:=⟨30,true,[(6,.e<|iP ((x+1:Nat):Int)),(5,.box 5 0),(4,.box 4 0),(2,.box 2 0),(1,.e<|.fn g cap)],[(5,.cells 287 [bP<|(mL f x).1,il<|ib<|(mL f x).2]),(4,.cells 287 [bP false,.v<|.slice none 0 0]),(2,.cells 287 [bP false,il<|ib<|f x])]⟩
def aec(N:Nat)(hp:∀ k,k<=N->ic g ((.agg [bP false,il<|ib<|f k])::cap) (.agg [bP false,il<|ib<|f<|k+1]))(hf:∀ k,f (k+1)<=f k)(B:Nat)(hB:B<=8191)(hz:f 0<2^B)(h0:∀ k,k<N->f (k+1)≠0)(hN:f (N+1)=0)(ru:N<=100000):ic 389 [.agg [bP false,il<|ib<|f 0],.fn g cap]<|.agg [bP<|(mL f N).1,il<|ib<|(mL f N).2]:=by
 have z00:=EN hf hB hz 0;exact iy (af [.s (Sp.jX (SY f g cap N) 0 N aC (λx hx mH=>by
    have z1:=EN hf hB hz<|x+1;have z0:=EN hf hB hz x;have zs:=(J9 hf hB hz x).1;have zt:=(J9 hf hB hz x).2;have zu:=S1 hf hB hz x;exact iS (ae [.c (hp x aC:ic g ((.agg [bP false,il<|ib<|f x])::cap) _),ag [.agg [bP false,il<|ib<|f<|x+1]]<|Fg (false,(f<|x+1)) aD,tF 15 ((f<|x+1)=0)<|h0 x aC,
     iD (2*((x+1:Nat):Int)),iD<|((2*(x+1):Nat):Int)+1,ag [.agg [bP false,il<|ib<|f<|x+1],iP (((2*(x+1))+1:Nat):Int)]<|Hk (false,(f<|x+1)) aD<|(2*(x+1))+1,.a (aC:0<(2:Int))]<|.w ((x+1)%2=1)
     (λho=>ae [ah 24 ((((x+1)%2:Nat):Int)==1)<|by rw[ho];rfl,ag [.agg [bP false,il<|ib<|(f<|x+1)/((2*(x+1))+1)]]<|yj (false,((f<|x+1)/((2*(x+1))+1))),ag [.agg [bP<|(mL f x).1,il<|ib<|(mL f x).2],.agg [bP<|!false,il<|ib<|(f<|x+1)/((2*(x+1))+1)]]<|ug (mL f x) aD ((!false),((f<|x+1)/((2*(x+1))+1))) aD aD,
      iD (((x+1:Nat):Int)+1)]<|.e<|af [.b 5 (.jP<|by first|rfl|simp[mL,ho]:Bx.le (.cells 287 [bP<|(jM (mL f x) ((!false),((f<|x+1)/((2*(x+1))+1)))).1,il<|ib<|(jM (mL f x) ((!false),((f<|x+1)/((2*(x+1))+1)))).2])<|.cells 287 [bP<|(mL f<|x+1).1,il<|ib<|(mL f<|x+1).2])])
     (λho=>ae [ai 24 ((((x+1)%2:Nat):Int)==1) aN,ag [.agg [bP<|(mL f x).1,il<|ib<|(mL f x).2],.agg [bP false,il<|ib<|(f<|x+1)/((2*(x+1))+1)]]<|ug (mL f x) aD (false,((f<|x+1)/((2*(x+1))+1))) aD aD,
      iD (((x+1:Nat):Int)+1)]<|.e<|af [.b 5 (.jP<|by first|rfl|simp[mL,ho]:Bx.le (.cells 287 [bP<|(jM (mL f x) (false,((f<|x+1)/((2*(x+1))+1)))).1,il<|ib<|(jM (mL f x) (false,((f<|x+1)/((2*(x+1))+1)))).2])<|.cells 287 [bP<|(mL f<|x+1).1,il<|ib<|(mL f<|x+1).2])])) aF)
  (λhx=>by
    have z1:=EN hf hB hz<|N+1;have z0:=EN hf hB hz N;have zs:=(J9 hf hB hz N).1;have zt:=(J9 hf hB hz N).2;have zu:=S1 hf hB hz N;exact iS (af [.c (hp N aC:ic g ((.agg [bP false,il<|ib<|f N])::cap) _),ag [.agg [bP false,il<|ib<|f<|N+1]]<|Fg (false,(f<|N+1)) aD,tB 15<|aZ hN]) aF) aI:jW 4 f389 (SY f g cap N 0) .ret ⟨30,true,[(4,.box 4 0)],[(4,.cells 287 [bP<|(mL f N).1,il<|ib<|(mL f N).2])]⟩)<|af [.o 6<|aq 1 ((0+1:Nat):Int) aO,.b 5 (.jP<|by first|rfl|simp[mL,ho]:Bx.le (.cells 287 [bP false,il<|ib<|f 0])<|.cells 287 [bP<|(mL f 0).1,il<|ib<|(mL f 0).2])]])
end
def aen(m n:Nat)(hm:(ib m).length<=256)(rB:n≠0)(hn:n<60000):ic 390 [.agg [bP false,il<|ib m],(.ji 1 λj_=>[iP n].getD j_ .any)]<|.agg [bP false,il<|ib<|m/(n*n)]:=by
 have WY:n*n<3600000000:=arL hn hn;have hnz:n*n≠0:=dN rB rB;exact iy<|af [iD<|(n:Int)*(n:Int),ag [.agg [bP false,il<|ib m],iP ((n*n:Nat):Int)]<|Hk (false,m) aD<|n*n]
def aeo(n b:Nat)(S:Bool×Nat)(rB:n≠0)(hn:n<60000)(hb:b<=8000)(hS:ic 389 [.agg [bP false,il<|ib<|1*2^b/n],.fn 390 [(.ji 1 λj_=>[iP n].getD j_ .any)]]<|.agg [bP S.1,il<|ib S.2]):ic 388 [iP n,iP b]<|.agg [bP S.1,il<|ib S.2]:=by
 have z0:(ib 1).length<=256:=uK aE;have z1:(ib<|1*2^b).length<=256:=lG (k:=b+1) (by rw[bF,bN];have:0<2^b:=bn aE;omega) aC;exact iy<|af [.o 6 (.e Ac:aj (.sl false 1 1 λi_ j_=>[.v<|.int .u32 1].getD (i_*1+j_)<|.v<|.bool false)<|il<|ib 1),.c<|BV 1 b aD aC aD,ag [.agg [bP false,il<|ib<|1*2^b],iP n]<|Hk (false,(1*2^b)) aD n,ag [.agg [bP false,il<|ib<|(1*2^b)/n],.fn 390 [(.ji 1 λj_=>[iP n].getD j_ .any)]] hS]
def TV(n b:Nat)(rB:2<=n)(hn:n<60000)(hb:b<=8000):∃ S:Bool×Nat,S.2<=2^b/n/\2^b/n<=S.2+2^b/n/(n*n)/3/\ic 388 [iP (n:Int),iP (b:Int)] (.agg [bP S.1,il<|ib S.2]):=by
 obtain⟨N,h1,h2,h3⟩:=ajB (b:=b) rB;have hf:∀ k,sV n b (k+1)<=sV n b k:=λk=>b5 _ _
 obtain⟨r1,r2⟩:=Nv hf N;have e0:sV n b 0=2^b/n:=by show 1*2^b/n=_;rw[bN]
 have e1:sV n b 1=2^b/n/(n*n):=by show sV n b 0/(n*n)=_;rw[e0]
 refine⟨mL (sV n b) N,by rw[<-e0];exact r1,by rw[<-e1,<-e0];exact r2,?_⟩;exact aeo n b _ aC hn hb<|aec (sV n b) 390 _ N (λk _=>aen (sV n b k) n (EN hf (aC:b+1<=8191) (Qa n b) k) aC hn) hf (b+1) aC (Qa n b) h2 h3 aC
def aeu(b:Nat)(x y:Bool×Nat)(zx:x.2<2^b)(zy:y.2<2^b)(hb:b<=8000)(hx:ic 388 [iP ((5:Nat):Int),iP (b:Int)]<|.agg [bP x.1,il<|ib x.2])(hy:ic 388 [iP ((239:Nat):Int),iP (b:Int)]<|.agg [bP y.1,il<|ib y.2]):ic 377 [iP b]<|.agg [bP<|(jM (false,x.2*2^4) (true,y.2*2^2)).1,il<|ib<|(jM (false,x.2*2^4) (true,y.2*2^2)).2]:=by
 have z1:(ib x.2).length<=256:=lG zx aC;have z2:(ib y.2).length<=256:=lG zy aC;have e5:2^(b+5)=2^b*32:=by rw[bj]
 have z3:(ib<|x.2*2^4).length<=256:=lG (k:=b+5) aC aC;have z4:(ib<|y.2*2^2).length<=256:=lG (k:=b+5) aC aC;have z5:(ib<|x.2*2^4+y.2*2^2).length<=256:=lG (k:=b+5) aC aC;exact iy<|af [ag [iP 5,iP b] hx,ag [iP 239,iP b] hy,.c<|BV x.2 4 aD aC aD,.c<|BV y.2 2 aD aC aD,ag [.agg [bP false,il<|ib<|x.2*2^4],.agg [bP true,il<|ib<|y.2*2^2]]<|ug (false,(x.2*2^4)) aD (true,(y.2*2^2)) aD aD]
def TW(b:Nat)(kE:16<=b)(hb:b<=8000):∃ c:Bool×Nat,2<=c.2/\c.2<=2^b*4/\c.2/2<=2^b*2/\ic 377 [iP (b:Int)] (.agg [bP c.1,il<|ib c.2]):=by
 obtain⟨x,x1,x2,hx⟩:=TV 5 b aE aE hb;obtain⟨y,y1,y2,hy⟩:=TV 239 b aE aE hb;have hT:65536<=2^b:=by have:=bO (show 0<2 by decide) kE;omega
 obtain⟨g1,g2,g3⟩:=al5 hT rfl x1 x2 y1 rfl;exact⟨_,g1,g2,g3,aeu b x y aC aC hb hx hy⟩
def abT(n:Nat)(h:n<4294967296):bits .and .u32 (n:Int) 3=((n%4:Nat):Int):=by
 have:=bits_and_u32_nat n 3 h aE;rw[show((3:Int))=((3:Nat):Int)from rfl,this];exact congrArg _<|arF n 2
def ajh(k:Nat)(h:k<=3):bits .and .i64 (4-(k:Int)) 3=(((4-k)%4:Nat):Int):=by
 rcases(aC:k=0\/k=1\/k=2\/k=3)with rfl|rfl|rfl|rfl<;>decide
def ahc{x:Bool×Nat}{m:Nat}(h:m<=x.2):jM x (!x.1,m)=(x.1,x.2-m):=by
 unfold jM;rw[aX<|by show ¬x.1 = !x.1;cases x.1<;>decide,aX<|by show ¬x.2<m;omega]
def amI(n:Nat):n%4<=3:= aC 
def amH(n:Nat):(4-n)%4<=3:= aC 
def amJ{x:Bool×Nat}{H b t:Nat}(h0:1<=H)(hH:H<=2^(b+t+40)*2):(jM x (!x.1,x.2/H*H)).2/2^(t+40)<=2^(b+1):=by
 rw[ahc<|cU _ _];show(x.2-x.2/H*H)/_<=_;have h1:x.2-x.2/H*H=x.2%H:=by
  have:=cL x.2 H;rw[bI H]at this;omega
 have h2:=bJ x.2 (aC:0<H);rw[h1];refine Nat.div_le_of_le_mul<|bg (dq h2)<|bg hH<|fJ ?_;rw[<-bj,(aC:t+40+(b+1)=b+t+40+1)];exact(bF 2<|b+t+40).symm
def kW(x:Bool×Nat):Nat->Bool
 | 0=>false
 |k+1=>(kW x k != x.1)
def jS(x:Bool×Nat)(b:Nat):Nat->(Bool×Nat)×(Bool×Nat)
 | 0=>((false,0),(false,1*2^b))
 |k+1=>if(k+1)%2=1 then(jM (jS x b k).1 ((if 2<=(k+1)%4 then !(kW x<|k+1)else kW x (k+1)),ke x.2 b<|k+1),(jS x b k).2)
  else((jS x b k).1,jM (jS x b k).2 ((if 2<=(k+1)%4 then !(kW x<|k+1)else kW x (k+1)),ke x.2 b<|k+1))
def aaX{x:Bool×Nat}{b:Nat}(h:x.2<=2^(b+1)):∀ k,(jS x b k).1.2<=(k+1)*2^(b+1)/\(jS x b k).2.2<=(k+1)*2^(b+1)
 | 0=>⟨b7 _,by show 1*2^b<=_;have:=bF (n:=2) (m:=b);omega⟩
 |k+1=>by
  obtain⟨h1,h2⟩:=aaX h k;have h3:=Ho h<|k+1;have h4:(k+1+1)*2^(b+1)=(k+1)*2^(b+1)+2^(b+1):=aqT _ _;unfold jS;split
  .refine ⟨bg (y9 _ _) ?_,by rw[h4];exact bg h2<|aru _ _⟩;rw[h4];exact Nat.add_le_add h1 h3
  .refine ⟨by rw[h4];exact bg h1<|aru _ _,bg (y9 _ _) ?_⟩;rw[h4];exact Nat.add_le_add h2 h3
def aaY{x:Bool×Nat}{b:Nat}(h:x.2<=2^(b+1))(hb:b<=3000){k:Nat}(hk:k<=b+5):(jS x b k).1.2<2^(b+14)/\(jS x b k).2.2<2^(b+14):=by
 obtain⟨h1,h2⟩:=aaX h k;have h3:(k+1)*2^(b+1)<2^(b+14):=by
  rw[(aC:b+14=13+(b+1)),bj 2 13];exact dg aC<|bn aE
 exact⟨ck h1 h3,ck h2 h3⟩
def aht{T:TypeId}:Bx.le (.cells T [bP false,.v<|.slice none 0 0])<|.cells T [bP false,il<|ib 0]:=
 .cells (λ_=>rfl) (.cons (.refl _)<|.cons zZ .nil)
structure acE(x:Bool×Nat)(b k:Nat):Prop where
 t0:(ib<|ke x.2 b k).length<=256
 t1:(ib<|ke x.2 b<|k+1).length<=256
 tm:(ib<|ke x.2 b k*x.2).length<=256
 tq:(ib<|ke x.2 b k*x.2/2^b).length<=256
 s0:(ib (jS x b k).1.2).length<=256
 c0:(ib (jS x b k).2.2).length<=256
 s1:(ib<|(jS x b k).1.2+ke x.2 b (k+1)).length<=256
 c1:(ib<|(jS x b k).2.2+ke x.2 b (k+1)).length<=256
def aaW{x:Bool×Nat}{b:Nat}(h:x.2<=2^(b+1))(hb:b<=3000){k:Nat}(hk:k<=b+5):acE x b k:=by
 have hp:(2:Nat)^(b+2)=2^(b+1)*2:=bF _ _;have hq:(0:Nat)<2^(b+1):=bn aE;have t0:=Ho h k;have t1:=Ho h<|k+1;obtain⟨s,c⟩:=aaY h hb hk;have hm:ke x.2 b k*x.2<2^(b+2+(b+2)):=by
  rw[bj];exact arL aC aC 
 have e14:(2:Nat)^(b+15)=2^(b+14)*2:=bF _ _;have e13:(2:Nat)^(b+1)<=2^(b+14):=bO aE aC;exact⟨lG (k:=b+2) aC aC,lG (k:=b+2) aC aC,lG hm aC,lG (ck (b5 _ _) hm) aC,
  lG s aC,lG c aC,lG (k:=b+15) aC aC,lG (k:=b+15) aC aC⟩
def YL{s:Bool}{m b:Nat}(h:m<2^4000)(hb:b<=8000):nj<|canon s m (-(b:Int)):=by
 by_cases h0:m=0
 .subst h0;exact .inl rfl
 .have e:canon s m (-(b:Int))=⟨s,m/2^jU m,-(b:Int)+jU m⟩:=by unfold canon;rw[aX h0]
  have h1:iq m<=4000:=me.2 h;have h2:=uW<|b5 m<|2^jU m;have h3:jU m<=4000:=by
   have:=Jo h0;apply bQ;intro hc;have:=bO (show 0<2 by decide) (aC:4000<=jU m);omega
  rw[e];exact .inr ⟨by show iq (m/2^jU m)<=4096;omega,by show -16384 <= -(b:Int)+jU m;omega,by show -(b:Int)+jU m<=16384;omega,by show(iq<|m/2^jU m:Int)+(-(b:Int)+jU m)<=16384;omega⟩
def Me{a b i j n:Nat}(ha:a<2^i)(hb:b<2^j)(hi:i<=n)(hj:j<=n):a+b<2^(n+1):=by
 have h1:=bO (show 0<2 by decide) hi;have h2:=bO (show 0<2 by decide) hj;have e:2^(n+1)=2^n*2:=bF _ _;omega
def ahd{a b:Bool×Nat}{i j n:Nat}(ha:a.2<2^i)(hb:b.2<2^j)(hi:i<=n)(hj:j<=n):(jM a b).2<2^(n+1):=ck (y9 _ _)<|Me ha hb hi hj
def YM{s:Bool}{m:Nat}{e:Int}(h:nj<|canon s m e):(canon s m e).ig:=⟨tl _ _ _,h⟩
def Jp{m i k:Nat}(h:m<2^i)(hk:i<=k):m<2^k:=bM h<|bO aE hk
section
variable(a c:Bool×Nat)
def ql:Bool×Nat:=if a.1=true/\a.2%c.2≠0 then jM (a.1,a.2/c.2) (true,1)else(a.1,a.2/c.2)
def VE:(ql a c).2<=a.2/c.2+1:=by
 unfold ql;split
 .exact y9 _ _
 .exact Nat.le_succ _
def ahl:(ql a c).2*c.2<=a.2+c.2:=by
 refine bg (bG c.2<|VE a c) ?_;rw[aqT];exact Nat.add_le_add_right (cU _ _) _
end
def Yu{lo hi:Dy}{e f:Int}(h:e≠0\/f≠0):lH lo e hi f=ik:=aY h
def akC{lo hi:Dy}{e f:Int}(h:e=0)(k:f=0):lH lo e hi f=⟨lo,hi,false⟩:=aX<|by rw[h,k];decide
def aaR(x:Bool×Nat)(b N:Nat)(i:Nat):PS:=⟨43,true,[(8,.e<|iP ((i+1:Nat):Int)),(7,.box 7 0),(5,.box 5 0),(4,.box 4 0),(2,.box 2 0),(1,.e<|iP b)],[(5,.cells 287 [bP<|((jS x b i).2).1,il<|ib<|((jS x b i).2).2]),(7,.cells 287 [bP<|kW x i,il<|ib<|ke x.2 b i]),(4,.cells 287 [bP<|((jS x b i).1).1,il<|ib<|((jS x b i).1).2]),(2,.cells 287 [bP x.1,il<|ib x.2])]⟩
def LL(n i:Nat):(ib n).getD i 0<4294967296:=by
 by_cases h:i<(ib n).length
 .rw [bc,bk h];exact mJ n _<|b9 h
 .rw [bc,bX aC];decide
section
variable(d:Dy)(b t m:Nat)(cp:Bool×Nat)(hd:d.ig)(ht:t=d.iz.toNat)(kE:16<=b)(lV:b<=2000)(tI:t<=2000)(K:Nat)(hK:K<=6000)(zx:m<2^K)(zc:2<=cp.2)(zd:(ib cp.2).length<=256)(r6:ic 377 [iP (((b+t)+40:Nat):Int)]<|.agg [bP cp.1,il<|ib cp.2])
section
variable(vX:ic 383 [iw d,iP (((b+t)+40:Nat):Int)]<|.agg [bP true,il<|ib m])
def aeI(hn:0<(ib<|m/(cp.2/2^1)).length):ic 373 [iw d,iP b]<|.ix [.agg [bP<|(jM (true,m) (false,((m/(cp.2/2^1))*(cp.2/2^1)))).1,il<|ib<|(jM (true,m) (false,((m/(cp.2/2^1))*(cp.2/2^1)))).2/2^(t+40)],iP (((4-((ib<|m/(cp.2/2^1)).getD 0 0%4))%4:Nat):Int)]:=by
 have PR:=JM hd;have zX:(ib m).length<=256:=lG zx aC;have zH:(ib<|cp.2/2^1).length<=256:=bg (nk<|b5 _ _) zd;have nH:(cp.2/2^1)≠0:= aC ;have mM:((m/(cp.2/2^1))*(cp.2/2^1))<=m:=cU _ _;have zN:(ib<|m/(cp.2/2^1)).length<=256:=bg (nk<|b5 _ _) zX;have zM:(ib<|(m/(cp.2/2^1))*(cp.2/2^1)).length<=256:=bg (nk mM) zX;have zA:(ib<|m+((m/(cp.2/2^1))*(cp.2/2^1))).length<=256:=lG (k:=K+1) (by have:=bF 2 K;omega) aC;have zR:(ib (jM (true,m) (false,((m/(cp.2/2^1))*(cp.2/2^1)))).2).length<=256:=bg (nk<|y9 _ _) zA;have zm:(ib<|m%(cp.2/2^1)).length<=256:=bg (nk<|eA _ _) zX;have hg:(ib<|m/(cp.2/2^1)).getD 0 0<4294967296:=LL _ 0;have h4:(ib<|m/(cp.2/2^1)).getD 0 0%4<=3:= aC ;exact iy (af [.c<|oo d aD,.o 19<|aq (if 0>(Dy.iz d)then 0 else(Dy.iz d)) t aM,iD<|(b:Int)+t,
  iD (((b+t:Nat):Int)+40),ag [iP (((b+t)+40:Nat):Int)] r6,.c<|xX cp.2 1 aD,ag [iw d,iP (((b+t)+40:Nat):Int)] vX,.c<|Bm m (cp.2/2^1) aC aC aD,.c<|Bn (m/(cp.2/2^1)) (cp.2/2^1) aD aD aD,ag [.agg [bP true,il<|ib m],.agg [bP false,il<|ib<|(m/(cp.2/2^1))*(cp.2/2^1)]]<|ug (true,m) aD (false,((m/(cp.2/2^1))*(cp.2/2^1))) aD aD,tT 61 (0<((ib<|m/(cp.2/2^1)).length:Int)) aC,iX 0<|(ib<|m/(cp.2/2^1)).length,.o 65 (.int<|abT _ aC:aj (.v<|.int .u32<|bits .and .u32 (((ib<|m/(cp.2/2^1)).getD 0 0:Nat):Int) 3)<|.v<|.int .u32 ((((ib<|m/(cp.2/2^1)).getD 0 0)%4:Nat):Int)),.o 66<|aq (IntKind.i64.wrap ((((ib<|m/(cp.2/2^1)).getD 0 0)%4:Nat):Int)) ((((ib<|m/(cp.2/2^1)).getD 0 0)%4:Nat):Int)<|XH _ aC,
  iD (4-((((ib<|m/(cp.2/2^1)).getD 0 0)%4:Nat):Int)),.o 71<|aq (bits .and .i64 (4-((((ib<|m/(cp.2/2^1)).getD 0 0)%4:Nat):Int)) 3) (((4-((ib<|m/(cp.2/2^1)).getD 0 0%4))%4:Nat):Int)<|ajh _ aC,
  iD ((t:Int)+40),.c<|xX ((jM (true,m) (false,((m/(cp.2/2^1))*(cp.2/2^1)))).2) (t+40) aD])
def aeG(hn:¬0<(ib<|m/(cp.2/2^1)).length):ic 373 [iw d,iP b]<|.ix [.agg [bP<|(jM (true,m) (false,((m/(cp.2/2^1))*(cp.2/2^1)))).1,il<|ib<|(jM (true,m) (false,((m/(cp.2/2^1))*(cp.2/2^1)))).2/2^(t+40)],iP 0]:=by
 have PR:=JM hd;have zX:(ib m).length<=256:=lG zx aC;have zH:(ib<|cp.2/2^1).length<=256:=bg (nk<|b5 _ _) zd;have nH:(cp.2/2^1)≠0:= aC ;have mM:((m/(cp.2/2^1))*(cp.2/2^1))<=m:=cU _ _;have zN:(ib<|m/(cp.2/2^1)).length<=256:=bg (nk<|b5 _ _) zX;have zM:(ib<|(m/(cp.2/2^1))*(cp.2/2^1)).length<=256:=bg (nk mM) zX;have zA:(ib<|m+((m/(cp.2/2^1))*(cp.2/2^1))).length<=256:=lG (k:=K+1) (by have:=bF 2 K;omega) aC;have zR:(ib (jM (true,m) (false,((m/(cp.2/2^1))*(cp.2/2^1)))).2).length<=256:=bg (nk<|y9 _ _) zA;have zm:(ib<|m%(cp.2/2^1)).length<=256:=bg (nk<|eA _ _) zX;have hg:(ib<|m/(cp.2/2^1)).getD 0 0<4294967296:=LL _ 0;have h4:(ib<|m/(cp.2/2^1)).getD 0 0%4<=3:= aC ;exact iy (af [.c<|oo d aD,.o 19<|aq (if 0>(Dy.iz d)then 0 else(Dy.iz d)) t aM,iD<|(b:Int)+t,
  iD (((b+t:Nat):Int)+40),ag [iP (((b+t)+40:Nat):Int)] r6,.c<|xX cp.2 1 aD,ag [iw d,iP (((b+t)+40:Nat):Int)] vX,.c<|Bm m (cp.2/2^1) aC aC aD,.c<|Bn (m/(cp.2/2^1)) (cp.2/2^1) aD aD aD,ag [.agg [bP true,il<|ib m],.agg [bP false,il<|ib<|(m/(cp.2/2^1))*(cp.2/2^1)]]<|ug (true,m) aD (false,((m/(cp.2/2^1))*(cp.2/2^1))) aD aD,tF 61 (0<((ib<|m/(cp.2/2^1)).length:Int)) aC,iD<|4-0,.o 71<|aq (bits .and .i64 (4-0) 3) 0 aE,iD<|(t:Int)+40,.c<|xX ((jM (true,m) (false,((m/(cp.2/2^1))*(cp.2/2^1)))).2) (t+40) aD])
end
section
variable(vX:ic 383 [iw d,iP (((b+t)+40:Nat):Int)]<|.agg [bP false,il<|ib m])
def aeJ(hn:0<(ib<|m/(cp.2/2^1)).length):ic 373 [iw d,iP b]<|.ix [.agg [bP<|(jM (false,m) (true,((m/(cp.2/2^1))*(cp.2/2^1)))).1,il<|ib<|(jM (false,m) (true,((m/(cp.2/2^1))*(cp.2/2^1)))).2/2^(t+40)],iP (((ib<|m/(cp.2/2^1)).getD 0 0%4:Nat):Int)]:=by
 have PR:=JM hd;have zX:(ib m).length<=256:=lG zx aC;have zH:(ib<|cp.2/2^1).length<=256:=bg (nk<|b5 _ _) zd;have nH:(cp.2/2^1)≠0:= aC ;have mM:((m/(cp.2/2^1))*(cp.2/2^1))<=m:=cU _ _;have zN:(ib<|m/(cp.2/2^1)).length<=256:=bg (nk<|b5 _ _) zX;have zM:(ib<|(m/(cp.2/2^1))*(cp.2/2^1)).length<=256:=bg (nk mM) zX;have zA:(ib<|m+((m/(cp.2/2^1))*(cp.2/2^1))).length<=256:=lG (k:=K+1) (by have:=bF 2 K;omega) aC;have zR:(ib (jM (false,m) (true,((m/(cp.2/2^1))*(cp.2/2^1)))).2).length<=256:=bg (nk<|y9 _ _) zA;have zm:(ib<|m%(cp.2/2^1)).length<=256:=bg (nk<|eA _ _) zX;have hg:(ib<|m/(cp.2/2^1)).getD 0 0<4294967296:=LL _ 0;have h4:(ib<|m/(cp.2/2^1)).getD 0 0%4<=3:= aC ;exact iy (af [.c<|oo d aD,.o 19<|aq (if 0>(Dy.iz d)then 0 else(Dy.iz d)) t aM,iD<|(b:Int)+t,
  iD (((b+t:Nat):Int)+40),ag [iP (((b+t)+40:Nat):Int)] r6,.c<|xX cp.2 1 aD,ag [iw d,iP (((b+t)+40:Nat):Int)] vX,.c<|Bm m (cp.2/2^1) aC aC aD,.c<|Bn (m/(cp.2/2^1)) (cp.2/2^1) aD aD aD,ag [.agg [bP false,il<|ib m],.agg [bP true,il<|ib<|(m/(cp.2/2^1))*(cp.2/2^1)]]<|ug (false,m) aD (true,((m/(cp.2/2^1))*(cp.2/2^1))) aD aD,tT 61 (0<((ib<|m/(cp.2/2^1)).length:Int)) aC,iX 0<|(ib<|m/(cp.2/2^1)).length,.o 65 (.int<|abT _ aC:aj (.v<|.int .u32<|bits .and .u32 (((ib<|m/(cp.2/2^1)).getD 0 0:Nat):Int) 3)<|.v<|.int .u32 ((((ib<|m/(cp.2/2^1)).getD 0 0)%4:Nat):Int)),.o 66<|aq (IntKind.i64.wrap ((((ib<|m/(cp.2/2^1)).getD 0 0)%4:Nat):Int)) ((((ib<|m/(cp.2/2^1)).getD 0 0)%4:Nat):Int)<|XH _ aC,
  iD ((t:Int)+40),.c<|xX ((jM (false,m) (true,((m/(cp.2/2^1))*(cp.2/2^1)))).2) (t+40) aD])
def aeH(hn:¬0<(ib<|m/(cp.2/2^1)).length):ic 373 [iw d,iP b]<|.ix [.agg [bP<|(jM (false,m) (true,((m/(cp.2/2^1))*(cp.2/2^1)))).1,il<|ib<|(jM (false,m) (true,((m/(cp.2/2^1))*(cp.2/2^1)))).2/2^(t+40)],iP 0]:=by
 have PR:=JM hd;have zX:(ib m).length<=256:=lG zx aC;have zH:(ib<|cp.2/2^1).length<=256:=bg (nk<|b5 _ _) zd;have nH:(cp.2/2^1)≠0:= aC ;have mM:((m/(cp.2/2^1))*(cp.2/2^1))<=m:=cU _ _;have zN:(ib<|m/(cp.2/2^1)).length<=256:=bg (nk<|b5 _ _) zX;have zM:(ib<|(m/(cp.2/2^1))*(cp.2/2^1)).length<=256:=bg (nk mM) zX;have zA:(ib<|m+((m/(cp.2/2^1))*(cp.2/2^1))).length<=256:=lG (k:=K+1) (by have:=bF 2 K;omega) aC;have zR:(ib (jM (false,m) (true,((m/(cp.2/2^1))*(cp.2/2^1)))).2).length<=256:=bg (nk<|y9 _ _) zA;have zm:(ib<|m%(cp.2/2^1)).length<=256:=bg (nk<|eA _ _) zX;have hg:(ib<|m/(cp.2/2^1)).getD 0 0<4294967296:=LL _ 0;have h4:(ib<|m/(cp.2/2^1)).getD 0 0%4<=3:= aC ;exact iy (af [.c<|oo d aD,.o 19<|aq (if 0>(Dy.iz d)then 0 else(Dy.iz d)) t aM,iD<|(b:Int)+t,
  iD (((b+t:Nat):Int)+40),ag [iP (((b+t)+40:Nat):Int)] r6,.c<|xX cp.2 1 aD,ag [iw d,iP (((b+t)+40:Nat):Int)] vX,.c<|Bm m (cp.2/2^1) aC aC aD,.c<|Bn (m/(cp.2/2^1)) (cp.2/2^1) aD aD aD,ag [.agg [bP false,il<|ib m],.agg [bP true,il<|ib<|(m/(cp.2/2^1))*(cp.2/2^1)]]<|ug (false,m) aD (true,((m/(cp.2/2^1))*(cp.2/2^1))) aD aD,tF 61 (0<((ib<|m/(cp.2/2^1)).length:Int)) aC,iD<|(t:Int)+40,.c<|xX ((jM (false,m) (true,((m/(cp.2/2^1))*(cp.2/2^1)))).2) (t+40) aD])
end
end
def aeF(d:Dy)(b:Nat)(hd:d.ig)(kE:16<=b)(lV:b<=1000)(ht:d.iz<=100):∃ (r:Bool×Nat) (k:Nat),r.2<=2^(b+1)/\k<=3/\ic 373 [iw d,iP (b:Int)] (.ix [.agg [bP r.1,il<|ib r.2],iP (k:Int)]):=by
 obtain⟨t,tI⟩:∃ t,t=d.iz.toNat:=⟨_,rfl⟩
 obtain⟨cp,c1,c2,c3,r6⟩:=TW (b+t+40) aC aC;have vX:=NJ d hd (b+t+40) 6000 aC aE aC;have iE:=L8 (d:=d) (b:=b+t+40) (K:=6000) aC;generalize rV d (b+t+40)=x at vX iE;have hp:(2:Nat)^(b+t+40+3)=2^(b+t+40)*8:=by rw[bj]
 have zd:(ib cp.2).length<=256:=lG (k:=b+t+40+3) (by have:0<2^(b+t+40):=bn aE;omega) aC;obtain⟨sg,m⟩:=x;have hle:=amJ (x:=(sg,m)) (H:=cp.2/2^1) (b:=b) (t:=t) aC c3;by_cases hn:0<(ib<|m/(cp.2/2^1)).length
 .cases sg with
  |false=>exact⟨((jM (false,m) (true,m/(cp.2/2^1)*(cp.2/2^1))).1,(jM (false,m) (true,m/(cp.2/2^1)*(cp.2/2^1))).2/2^(t+40)),_,hle,amI _,aeJ d b t m cp hd tI kE aC aC 6000 aE iE c1 zd r6 vX hn⟩
  |true=>exact⟨((jM (true,m) (false,m/(cp.2/2^1)*(cp.2/2^1))).1,(jM (true,m) (false,m/(cp.2/2^1)*(cp.2/2^1))).2/2^(t+40)),_,hle,amH _,aeI d b t m cp hd tI kE aC aC 6000 aE iE c1 zd r6 vX hn⟩
 .cases sg with
  |false=>exact⟨((jM (false,m) (true,m/(cp.2/2^1)*(cp.2/2^1))).1,(jM (false,m) (true,m/(cp.2/2^1)*(cp.2/2^1))).2/2^(t+40)),_,hle,b7 3,aeH d b t m cp hd tI kE aC aC 6000 aE iE c1 zd r6 vX hn⟩
  |true=>exact⟨((jM (true,m) (false,m/(cp.2/2^1)*(cp.2/2^1))).1,(jM (true,m) (false,m/(cp.2/2^1)*(cp.2/2^1))).2/2^(t+40)),_,hle,b7 3,aeG d b t m cp hd tI kE aC aC 6000 aE iE c1 zd r6 vX hn⟩
def aeL(x:Bool×Nat)(b N:Nat)(uG:x.2<=2^(b+1))(hb:b<=3000)(ru:N<=b+4)(h0:∀ k,k<N+1->ke x.2 b k≠0)(hN:ke x.2 b (N+1)=0):ic 374 [.agg [bP x.1,il<|ib x.2],iP b]<|.ix [.agg [bP<|((jS x b N).1).1,il<|ib<|((jS x b N).1).2],.agg [bP<|((jS x b N).2).1,il<|ib<|((jS x b N).2).2]]:=by
 have zx:(ib x.2).length<=256:=lG (k:=b+2) (by have e:2^(b+2)=2^(b+1)*2:=bF _ _;have:0<2^(b+1):=bn aE;omega) aC;have z0:(ib 1).length<=256:=uK aE;have z1:(ib<|1*2^b).length<=256:=lG (k:=b+1) (by rw[bF,bN];have:0<2^b:=bn aE;omega) aC;exact iy (af [.o 10 (.e Ac:aj (.sl false 1 1 λi_ j_=>[.v<|.int .u32 1].getD (i_*1+j_)<|.v<|.bool false)<|il<|ib 1),.c<|BV 1 b aD aC aD,.s (Sp.jX (aaR x b N) 0 N aC (λi hi rA=>by
    have SF:=aaW uG hb (k:=i) aC;obtain⟨f0,f1,f2,f3,f4,f5,f6,f7⟩:=SF;exact iS (ae [ag [.agg [bP<|kW x i,il<|ib<|ke x.2 b i],.agg [bP x.1,il<|ib x.2],iP b]<|OB ((kW x i),(ke x.2 b i)) aD x aD _ aC aD,ag [.agg [bP<|(kW x i) != x.1,il<|ib<|(ke x.2 b i)*x.2/2^b],iP ((i+1:Nat):Int)]<|Hk (((kW x i) != x.1),((ke x.2 b i)*x.2/2^b)) aD<|i+1,ag [.agg [bP<|kW x<|i+1,il<|ib<|ke x.2 b<|i+1]]<|Fg ((kW x<|i+1),(ke x.2 b<|i+1)) aD,tF 25 ((ke x.2 b<|i+1)=0)<|h0 (i+1) aC,.a (aC:0<(4:Int))]<|.w (2<=(i+1)%4)
     (λh4=>ae [tT 31 (2<=(((i+1)%4:Nat):Int)) aC,ag [.agg [bP<|kW x<|i+1,il<|ib<|ke x.2 b<|i+1]]<|yj ((kW x<|i+1),(ke x.2 b<|i+1)),.a (aC:0<(2:Int))]<|.w ((i+1)%2=1)
      (λho=>ae [ah 36 ((((i+1)%2:Nat):Int)==1)<|by rw[ho];rfl,ag [.agg [bP<|((jS x b i).1).1,il<|ib<|((jS x b i).1).2],.agg [bP<|!(kW x<|i+1),il<|ib<|ke x.2 b<|i+1]]<|ug ((jS x b i).1) aD ((!(kW x<|i+1)),(ke x.2 b<|i+1)) aD aD,
       iD (((i+1:Nat):Int)+1)]<|.e<|af [.b 5 (.jP<|by first|rfl|simp[jS,kW,ke,ho,h4]|simp[jS,kW,ke]:Bx.le (.cells 287 [bP<|((jS x b i).2).1,il<|ib<|((jS x b i).2).2])<|.cells 287 [bP<|((jS x b<|i+1).2).1,il<|ib<|((jS x b<|i+1).2).2]),.b 4 (.jP<|by first|rfl|simp[jS,kW,ke,ho,h4]|simp[jS,kW,ke]:Bx.le (.cells 287 [bP<|(jM ((jS x b i).1) ((!(kW x<|i+1)),(ke x.2 b<|i+1))).1,il<|ib<|(jM ((jS x b i).1) ((!(kW x<|i+1)),(ke x.2 b<|i+1))).2])<|.cells 287 [bP<|((jS x b<|i+1).1).1,il<|ib<|((jS x b<|i+1).1).2])])
      (λho=>ae [ai 36 ((((i+1)%2:Nat):Int)==1) aN,ag [.agg [bP<|((jS x b i).2).1,il<|ib<|((jS x b i).2).2],.agg [bP<|!(kW x<|i+1),il<|ib<|ke x.2 b<|i+1]]<|ug ((jS x b i).2) aD ((!(kW x<|i+1)),(ke x.2 b<|i+1)) aD aD,
       iD (((i+1:Nat):Int)+1)]<|.e<|af [.b 5 (.jP<|by first|rfl|simp[jS,kW,ke,ho,h4]|simp[jS,kW,ke]:Bx.le (.cells 287 [bP<|(jM ((jS x b i).2) ((!(kW x<|i+1)),(ke x.2 b<|i+1))).1,il<|ib<|(jM ((jS x b i).2) ((!(kW x<|i+1)),(ke x.2 b<|i+1))).2])<|.cells 287 [bP<|((jS x b<|i+1).2).1,il<|ib<|((jS x b<|i+1).2).2]),.b 4 (.jP<|by first|rfl|simp[jS,kW,ke,ho,h4]|simp[jS,kW,ke]:Bx.le (.cells 287 [bP<|((jS x b i).1).1,il<|ib<|((jS x b i).1).2])<|.cells 287 [bP<|((jS x b<|i+1).1).1,il<|ib<|((jS x b<|i+1).1).2])]))
     (λh4=>ae [tF 31 (2<=(((i+1)%4:Nat):Int)) aC,.a (aC:0<(2:Int))]<|.w ((i+1)%2=1)
      (λho=>ae [ah 36 ((((i+1)%2:Nat):Int)==1)<|by rw[ho];rfl,ag [.agg [bP<|((jS x b i).1).1,il<|ib<|((jS x b i).1).2],.agg [bP<|kW x<|i+1,il<|ib<|ke x.2 b<|i+1]]<|ug ((jS x b i).1) aD ((kW x<|i+1),(ke x.2 b<|i+1)) aD aD,
       iD (((i+1:Nat):Int)+1)]<|.e<|af [.b 5 (.jP<|by first|rfl|simp[jS,kW,ke,ho,h4]|simp[jS,kW,ke]:Bx.le (.cells 287 [bP<|((jS x b i).2).1,il<|ib<|((jS x b i).2).2])<|.cells 287 [bP<|((jS x b<|i+1).2).1,il<|ib<|((jS x b<|i+1).2).2]),.b 4 (.jP<|by first|rfl|simp[jS,kW,ke,ho,h4]|simp[jS,kW,ke]:Bx.le (.cells 287 [bP<|(jM ((jS x b i).1) ((kW x<|i+1),(ke x.2 b<|i+1))).1,il<|ib<|(jM ((jS x b i).1) ((kW x<|i+1),(ke x.2 b<|i+1))).2])<|.cells 287 [bP<|((jS x b<|i+1).1).1,il<|ib<|((jS x b<|i+1).1).2])])
      (λho=>ae [ai 36 ((((i+1)%2:Nat):Int)==1) aN,ag [.agg [bP<|((jS x b i).2).1,il<|ib<|((jS x b i).2).2],.agg [bP<|kW x<|i+1,il<|ib<|ke x.2 b<|i+1]]<|ug ((jS x b i).2) aD ((kW x<|i+1),(ke x.2 b<|i+1)) aD aD,
       iD (((i+1:Nat):Int)+1)]<|.e<|af [.b 5 (.jP<|by first|rfl|simp[jS,kW,ke,ho,h4]|simp[jS,kW,ke]:Bx.le (.cells 287 [bP<|(jM ((jS x b i).2) ((kW x<|i+1),(ke x.2 b<|i+1))).1,il<|ib<|(jM ((jS x b i).2) ((kW x<|i+1),(ke x.2 b<|i+1))).2])<|.cells 287 [bP<|((jS x b<|i+1).2).1,il<|ib<|((jS x b<|i+1).2).2]),.b 4 (.jP<|by first|rfl|simp[jS,kW,ke,ho,h4]|simp[jS,kW,ke]:Bx.le (.cells 287 [bP<|((jS x b i).1).1,il<|ib<|((jS x b i).1).2])<|.cells 287 [bP<|((jS x b<|i+1).1).1,il<|ib<|((jS x b<|i+1).1).2])]))) aF)
  (λhi=>by
    have SF:=aaW uG hb (k:=N) aC;obtain⟨f0,f1,f2,f3,f4,f5,f6,f7⟩:=SF;exact iS (af [ag [.agg [bP<|kW x N,il<|ib<|ke x.2 b N],.agg [bP x.1,il<|ib x.2],iP b]<|OB ((kW x N),(ke x.2 b N)) aD x aD _ aC aD,ag [.agg [bP<|(kW x N) != x.1,il<|ib<|(ke x.2 b N)*x.2/2^b],iP ((N+1:Nat):Int)]<|Hk (((kW x N) != x.1),((ke x.2 b N)*x.2/2^b)) aD<|N+1,ag [.agg [bP<|kW x<|N+1,il<|ib<|ke x.2 b<|N+1]]<|Fg ((kW x<|N+1),(ke x.2 b<|N+1)) aD,tB 25<|aZ hN]) aF) aI:jW 6 f374 (aaR x b N 0) .ret ⟨43,true,[(5,.box 5 0),(4,.box 4 0)],[(5,.cells 287 [bP<|((jS x b N).2).1,il<|ib<|((jS x b N).2).2]),(4,.cells 287 [bP<|((jS x b N).1).1,il<|ib<|((jS x b N).1).2])]⟩)<|af [.o 8<|aq 1 ((0+1:Nat):Int) aO,.b 5 (.jP<|by first|rfl|simp[jS,kW,ke,ho,h4]|simp[jS,kW,ke]:Bx.le (.cells 287 [bP false,il<|ib<|1*2^b])<|.cells 287 [bP<|((jS x b 0).2).1,il<|ib<|((jS x b 0).2).2]),.b 7 (.jP<|by first|rfl|simp[jS,kW,ke,ho,h4]|simp[jS,kW,ke]:Bx.le (.cells 287 [bP false,il<|ib<|1*2^b])<|.cells 287 [bP<|kW x 0,il<|ib<|ke x.2 b 0]),.b 4 (aht:Bx.le (.cells 287 [bP false,.v<|.slice none 0 0])<|.cells 287 [bP<|((jS x b 0).1).1,il<|ib<|((jS x b 0).1).2])]])
def aeM(x:Bool×Nat)(b:Nat)(uG:x.2<=2^(b+1))(hb:b<=3000):∃ s c:Bool×Nat,s.2<2^(b+14)/\c.2<2^(b+14)/\ic 374 [.agg [bP x.1,il<|ib x.2],iP (b:Int)] (.ix [.agg [bP s.1,il<|ib s.2],.agg [bP c.1,il<|ib c.2]]):=by
 obtain⟨N,n1,n2,n3,n4⟩:=ahv uG;obtain⟨M,rfl⟩:∃ M,N=M+1:=⟨N-1,aC⟩
 obtain⟨a1,a2⟩:=aaY uG hb (k:=M) aC;exact⟨_,_,a1,a2,aeL x b M uG hb aC n3 n4⟩
def BW(a:Bool×Nat)(b p:Nat)(ha:a.2<2^3000)(hb:b<=8000:=by omega)(iu:8<=p:=by omega)(ie:p<=512:=by omega):ic 376 [.agg [bP a.1,il<|ib a.2],iP b,iP p]<|im<|tM a b p:=by
 have z1:(ib 1).length<=256:=uK aE;have z2:(ib<|1*2^24).length<=256:=uK aE;have z3:(ib a.2).length<=256:=lG ha aE;have hs:=Me (n:=3000) ha (show 1*2^24<2^25 by decide) aE aE;have z4:(ib<|a.2+1*2^24).length<=256:=lG hs aE;have l1:=ck (show(jM a ((!false),(1*2^24))).2<=_ from y9 _ _) hs;have l2:=ck (show(jM a (false,(1*2^24))).2<=_ from y9 _ _) hs;have z5:(ib (jM a ((!false),(1*2^24))).2).length<=256:=lG l1 aE;have z6:(ib (jM a (false,(1*2^24))).2).length<=256:=lG l2 aE;have e3:(0-(b:Int)) = -(b:Int):=Int.zero_sub _;have r1:nj<|canon (jM a ((!false),(1*2^24))).1 (jM a ((!false),(1*2^24))).2<|0-(b:Int):=by rw[e3];exact YL (Jp (k:=4000) l1 aE) hb
 have r2:nj<|canon (jM a (false,(1*2^24))).1 (jM a (false,(1*2^24))).2<|0-(b:Int):=by rw[e3];exact YL (Jp (k:=4000) l2 aE) hb
 have v1:(canon (jM a ((!false),(1*2^24))).1 (jM a ((!false),(1*2^24))).2<|0-(b:Int)).ig:=YM r1;have v2:(canon (jM a (false,(1*2^24))).1 (jM a (false,(1*2^24))).2<|0-(b:Int)).ig:=YM r2;have hN:tM a b p=lH (jN (canon (jM a ((!false),(1*2^24))).1 (jM a ((!false),(1*2^24))).2<|0-(b:Int)) p false) (jC (canon (jM a ((!false),(1*2^24))).1 (jM a ((!false),(1*2^24))).2<|0-(b:Int)) p false) (jN (canon (jM a (false,(1*2^24))).1 (jM a (false,(1*2^24))).2<|0-(b:Int)) p true) (jC (canon (jM a (false,(1*2^24))).1 (jM a (false,(1*2^24))).2<|0-(b:Int)) p true):=by rw[e3];rfl
 exact iy (ae [.o 14 (.e Ac:aj (.sl false 1 1 λi_ j_=>[.v<|.int .u32 1].getD (i_*1+j_)<|.v<|.bool false)<|il<|ib 1),.c<|BV 1 24 aD aC aD,ag [.agg [bP false,il<|ib<|1*2^24]]<|yj (false,(1*2^24)),ag [.agg [bP a.1,il<|ib a.2],.agg [bP<|!false,il<|ib<|1*2^24]]<|ug a aD ((!false),(1*2^24)) aD aD,ag [.agg [bP a.1,il<|ib a.2],.agg [bP false,il<|ib<|1*2^24]]<|ug a aD (false,(1*2^24)) aD aD,iD<|0-(b:Int),.c<|Db ((jM a (!false,(1*2^24))).1) ((jM a (!false,(1*2^24))).2) (0-(b:Int)) aD aC aC aD,iD<|0-(b:Int),.c<|Db ((jM a (false,(1*2^24))).1) ((jM a (false,(1*2^24))).2) (0-(b:Int)) aD aC aC aD,ai 45 ((0:Int) != 0) aE,ai 48 ((0:Int) != 0) aE,.c<|Kj (canon ((jM a (!false,(1*2^24))).1) ((jM a (!false,(1*2^24))).2)<|0-(b:Int)) p aD,.c<|Kk (canon ((jM a (false,(1*2^24))).1) ((jM a (false,(1*2^24))).2)<|0-(b:Int)) p aD]<|.w ((jC (canon ((jM a ((!false),(1*2^24))).1) ((jM a ((!false),(1*2^24))).2)<|0-(b:Int)) p false)=0)
  (λk1=>ae [tB 64<|aV k1]<|.w ((jC (canon ((jM a (false,(1*2^24))).1) ((jM a (false,(1*2^24))).2)<|0-(b:Int)) p true)=0)
   (λk2=>ae [tB 67<|aV k2]<|rQ (im<|Iv.mk (jN (canon ((jM a ((!false),(1*2^24))).1) ((jM a ((!false),(1*2^24))).2)<|0-(b:Int)) p false) (jN (canon ((jM a (false,(1*2^24))).1) ((jM a (false,(1*2^24))).2)<|0-(b:Int)) p true) false) (im<|tM a b p)<|by rw[hN,akC k1 k2])
   (λk2=>ae [tB 67<|aW k2,.c nu]<|rQ (im ik) (im<|tM a b p)<|by rw[hN,Yu<|.inr k2]))
  (λk1=>ae [tB 64<|aW k1,.c nu]<|rQ (im ik) (im<|tM a b p)<|by rw[hN,Yu<|.inl k1]))
section
variable(d:Dy)(p:Nat)
def aeD(hd:d.ig)(h0:d.jc=0)(iu:8<=p)(ie:p<=512):ic 368 [iw d,bP true,iP p]<|im<|iF 1:=by
 have hv:=sC (n:=1) aE;exact iy<|af [.c<|nL d aD,ah 14 ((Dy.jc d)==0)<|by rw[h0];rfl,.c<|qY 1,.c<|rO (iU 1) aD]
section
variable(r s c:Bool×Nat)(hd:d.ig)(h0:d.jc≠0)
def aev(qy:ic 373 [iw d,iP ((p+64:Nat):Int)]<|.ix [.agg [bP r.1,il<|ib r.2],iP 0])(qA:ic 374 [.agg [bP r.1,il<|ib r.2],iP ((p+64:Nat):Int)]<|.ix [.agg [bP s.1,il<|ib s.2],.agg [bP c.1,il<|ib c.2]])(zs:s.2<2^3000)(zc:c.2<2^3000)(iu:8<=p)(ie:p<=512):ic 368 [iw d,bP true,iP p]<|im<|tM c (p+64) p:=by
 have zk:c.2<2^3000:=zc;exact iy<|af [.c<|nL d aD,ai 14 ((Dy.jc d)==0)<|by simpa using h0,iD<|(p:Int)+64,ag [iw d,iP ((p+64:Nat):Int)] qy,ag [.agg [bP r.1,il<|ib r.2],iP ((p+64:Nat):Int)] qA,iD<|0+1,.a (aC:0<(4:Int)),.o 38<|aq (Int.tmod (0+1) 4) 1 aE,ah 40 ((1:Int)==1) aE,ag [.agg [bP c.1,il<|ib c.2],iP ((p+64:Nat):Int),iP p]<|BW c _ _ aD]
def aew(qy:ic 373 [iw d,iP ((p+64:Nat):Int)]<|.ix [.agg [bP r.1,il<|ib r.2],iP 1])(qA:ic 374 [.agg [bP r.1,il<|ib r.2],iP ((p+64:Nat):Int)]<|.ix [.agg [bP s.1,il<|ib s.2],.agg [bP c.1,il<|ib c.2]])(zs:s.2<2^3000)(zc:c.2<2^3000)(iu:8<=p)(ie:p<=512):ic 368 [iw d,bP true,iP p]<|im<|tM ((!s.1),s.2) (p+64) p:=by
 have zk:((!s.1),s.2).2<2^3000:=zs;exact iy<|af [.c<|nL d aD,ai 14 ((Dy.jc d)==0)<|by simpa using h0,iD<|(p:Int)+64,ag [iw d,iP ((p+64:Nat):Int)] qy,ag [.agg [bP r.1,il<|ib r.2],iP ((p+64:Nat):Int)] qA,iD<|1+1,.a (aC:0<(4:Int)),.o 38<|aq (Int.tmod (1+1) 4) 2 aE,ai 40 ((2:Int)==1) aE,ah 43 ((2:Int)==2) aE,ag [.agg [bP s.1,il<|ib s.2]]<|yj (s.1,s.2),ag [.agg [bP<|!s.1,il<|ib s.2],iP ((p+64:Nat):Int),iP p]<|BW ((!s.1),s.2) _ _ aD]
def aex(qy:ic 373 [iw d,iP ((p+64:Nat):Int)]<|.ix [.agg [bP r.1,il<|ib r.2],iP 2])(qA:ic 374 [.agg [bP r.1,il<|ib r.2],iP ((p+64:Nat):Int)]<|.ix [.agg [bP s.1,il<|ib s.2],.agg [bP c.1,il<|ib c.2]])(zs:s.2<2^3000)(zc:c.2<2^3000)(iu:8<=p)(ie:p<=512):ic 368 [iw d,bP true,iP p]<|im<|tM ((!c.1),c.2) (p+64) p:=by
 have zk:((!c.1),c.2).2<2^3000:=zc;exact iy<|af [.c<|nL d aD,ai 14 ((Dy.jc d)==0)<|by simpa using h0,iD<|(p:Int)+64,ag [iw d,iP ((p+64:Nat):Int)] qy,ag [.agg [bP r.1,il<|ib r.2],iP ((p+64:Nat):Int)] qA,iD<|2+1,.a (aC:0<(4:Int)),.o 38<|aq (Int.tmod (2+1) 4) 3 aE,ai 40 ((3:Int)==1) aE,ai 43 ((3:Int)==2) aE,ah 47 ((3:Int)==3) aE,ag [.agg [bP c.1,il<|ib c.2]]<|yj (c.1,c.2),ag [.agg [bP<|!c.1,il<|ib c.2],iP ((p+64:Nat):Int),iP p]<|BW ((!c.1),c.2) _ _ aD]
def aey(qy:ic 373 [iw d,iP ((p+64:Nat):Int)]<|.ix [.agg [bP r.1,il<|ib r.2],iP 3])(qA:ic 374 [.agg [bP r.1,il<|ib r.2],iP ((p+64:Nat):Int)]<|.ix [.agg [bP s.1,il<|ib s.2],.agg [bP c.1,il<|ib c.2]])(zs:s.2<2^3000)(zc:c.2<2^3000)(iu:8<=p)(ie:p<=512):ic 368 [iw d,bP true,iP p]<|im<|tM s (p+64) p:=by
 have zk:s.2<2^3000:=zs;exact iy<|af [.c<|nL d aD,ai 14 ((Dy.jc d)==0)<|by simpa using h0,iD<|(p:Int)+64,ag [iw d,iP ((p+64:Nat):Int)] qy,ag [.agg [bP r.1,il<|ib r.2],iP ((p+64:Nat):Int)] qA,iD<|3+1,.a (aC:0<(4:Int)),.o 38<|aq (Int.tmod (3+1) 4) 0 aE,ai 40 ((0:Int)==1) aE,ai 43 ((0:Int)==2) aE,ai 47 ((0:Int)==3) aE,ag [.agg [bP s.1,il<|ib s.2],iP ((p+64:Nat):Int),iP p]<|BW s _ _ aD]
end
def aeE(hd:d.ig)(h0:d.jc=0)(iu:8<=p)(ie:p<=512):ic 368 [iw d,bP false,iP p]<|im<|iJ d:=
 iy (af [.c<|nL d aD,ah 14 ((Dy.jc d)==0)<|by rw[h0];rfl,.c<|rO d aD])
section
variable(r s c:Bool×Nat)(hd:d.ig)(h0:d.jc≠0)
def aez(qy:ic 373 [iw d,iP ((p+64:Nat):Int)]<|.ix [.agg [bP r.1,il<|ib r.2],iP 0])(qA:ic 374 [.agg [bP r.1,il<|ib r.2],iP ((p+64:Nat):Int)]<|.ix [.agg [bP s.1,il<|ib s.2],.agg [bP c.1,il<|ib c.2]])(zs:s.2<2^3000)(zc:c.2<2^3000)(iu:8<=p)(ie:p<=512):ic 368 [iw d,bP false,iP p]<|im<|tM s (p+64) p:=by
 have zk:s.2<2^3000:=zs;exact iy<|af [.c<|nL d aD,ai 14 ((Dy.jc d)==0)<|by simpa using h0,iD<|(p:Int)+64,ag [iw d,iP ((p+64:Nat):Int)] qy,ag [.agg [bP r.1,il<|ib r.2],iP ((p+64:Nat):Int)] qA,.a (aC:0<(4:Int)),.o 38<|aq (Int.tmod 0 4) 0 aE,ai 40 ((0:Int)==1) aE,ai 43 ((0:Int)==2) aE,ai 47 ((0:Int)==3) aE,ag [.agg [bP s.1,il<|ib s.2],iP ((p+64:Nat):Int),iP p]<|BW s _ _ aD]
def aeA(qy:ic 373 [iw d,iP ((p+64:Nat):Int)]<|.ix [.agg [bP r.1,il<|ib r.2],iP 1])(qA:ic 374 [.agg [bP r.1,il<|ib r.2],iP ((p+64:Nat):Int)]<|.ix [.agg [bP s.1,il<|ib s.2],.agg [bP c.1,il<|ib c.2]])(zs:s.2<2^3000)(zc:c.2<2^3000)(iu:8<=p)(ie:p<=512):ic 368 [iw d,bP false,iP p]<|im<|tM c (p+64) p:=by
 have zk:c.2<2^3000:=zc;exact iy<|af [.c<|nL d aD,ai 14 ((Dy.jc d)==0)<|by simpa using h0,iD<|(p:Int)+64,ag [iw d,iP ((p+64:Nat):Int)] qy,ag [.agg [bP r.1,il<|ib r.2],iP ((p+64:Nat):Int)] qA,.a (aC:0<(4:Int)),.o 38<|aq (Int.tmod 1 4) 1 aE,ah 40 ((1:Int)==1) aE,ag [.agg [bP c.1,il<|ib c.2],iP ((p+64:Nat):Int),iP p]<|BW c _ _ aD]
def aeB(qy:ic 373 [iw d,iP ((p+64:Nat):Int)]<|.ix [.agg [bP r.1,il<|ib r.2],iP 2])(qA:ic 374 [.agg [bP r.1,il<|ib r.2],iP ((p+64:Nat):Int)]<|.ix [.agg [bP s.1,il<|ib s.2],.agg [bP c.1,il<|ib c.2]])(zs:s.2<2^3000)(zc:c.2<2^3000)(iu:8<=p)(ie:p<=512):ic 368 [iw d,bP false,iP p]<|im<|tM ((!s.1),s.2) (p+64) p:=by
 have zk:((!s.1),s.2).2<2^3000:=zs;exact iy<|af [.c<|nL d aD,ai 14 ((Dy.jc d)==0)<|by simpa using h0,iD<|(p:Int)+64,ag [iw d,iP ((p+64:Nat):Int)] qy,ag [.agg [bP r.1,il<|ib r.2],iP ((p+64:Nat):Int)] qA,.a (aC:0<(4:Int)),.o 38<|aq (Int.tmod 2 4) 2 aE,ai 40 ((2:Int)==1) aE,ah 43 ((2:Int)==2) aE,ag [.agg [bP s.1,il<|ib s.2]]<|yj (s.1,s.2),ag [.agg [bP<|!s.1,il<|ib s.2],iP ((p+64:Nat):Int),iP p]<|BW ((!s.1),s.2) _ _ aD]
def aeC(qy:ic 373 [iw d,iP ((p+64:Nat):Int)]<|.ix [.agg [bP r.1,il<|ib r.2],iP 3])(qA:ic 374 [.agg [bP r.1,il<|ib r.2],iP ((p+64:Nat):Int)]<|.ix [.agg [bP s.1,il<|ib s.2],.agg [bP c.1,il<|ib c.2]])(zs:s.2<2^3000)(zc:c.2<2^3000)(iu:8<=p)(ie:p<=512):ic 368 [iw d,bP false,iP p]<|im<|tM ((!c.1),c.2) (p+64) p:=by
 have zk:((!c.1),c.2).2<2^3000:=zc;exact iy<|af [.c<|nL d aD,ai 14 ((Dy.jc d)==0)<|by simpa using h0,iD<|(p:Int)+64,ag [iw d,iP ((p+64:Nat):Int)] qy,ag [.agg [bP r.1,il<|ib r.2],iP ((p+64:Nat):Int)] qA,.a (aC:0<(4:Int)),.o 38<|aq (Int.tmod 3 4) 3 aE,ai 40 ((3:Int)==1) aE,ai 43 ((3:Int)==2) aE,ah 47 ((3:Int)==3) aE,ag [.agg [bP c.1,il<|ib c.2]]<|yj (c.1,c.2),ag [.agg [bP<|!c.1,il<|ib c.2],iP ((p+64:Nat):Int),iP p]<|BW ((!c.1),c.2) _ _ aD]
end
end
def TX{d:Dy}(hd:d.ig)(ht:d.iz<=100)(cs:Bool){p:Nat}(iu:8<=p)(ie:p<=512):∃ Z,Z.ig/\ic 368 [iw d,bP cs,iP (p:Int)] (im Z):=by
 by_cases h0:d.jc=0
 .cases cs with
  |true=>exact⟨_,xF aE,aeD d p hd h0 iu ie⟩
  |false=>exact⟨_,oP hd,aeE d p hd h0 iu ie⟩
 .obtain ⟨r,k,hr,hk,qy⟩:=aeF d (p+64) hd aC aC ht;obtain⟨s,c,zs,zc,qA⟩:=aeM r (p+64) hr aC;have zs:=Jp zs (k:=3000) aC;have zc:=Jp zc (k:=3000) aC;have hv:∀ a:Bool×Nat,(tM a (p+64) p).ig:=λa=>alj a _ aC aC 
  rcases(aC:k=0\/k=1\/k=2\/k=3)with rfl|rfl|rfl|rfl
  .cases cs with
   |true=>exact⟨_,hv _,aev d p r s c hd h0 qy qA zs zc iu ie⟩
   |false=>exact⟨_,hv _,aez d p r s c hd h0 qy qA zs zc iu ie⟩
  .cases cs with
   |true=>exact⟨_,hv _,aew d p r s c hd h0 qy qA zs zc iu ie⟩
   |false=>exact⟨_,hv _,aeA d p r s c hd h0 qy qA zs zc iu ie⟩
  .cases cs with
   |true=>exact⟨_,hv _,aex d p r s c hd h0 qy qA zs zc iu ie⟩
   |false=>exact⟨_,hv _,aeB d p r s c hd h0 qy qA zs zc iu ie⟩
  .cases cs with
   |true=>exact⟨_,hv _,aey d p r s c hd h0 qy qA zs zc iu ie⟩
   |false=>exact⟨_,hv _,aeC d p r s c hd h0 qy qA zs zc iu ie⟩
def ajv:(iU (-1)).neg=true/\(iU (-1)).m=1/\(iU (-1)).e=0:= aL 
def aeP : ic 380 [iP (-1)]<|.agg [bP true,il<|ib 1]:=by
 obtain⟨q1,q2,q3⟩:=ajv;have z1:(ib (iU (-1)).m).length<=256:=by rw[q2];exact uK aE 
 have z2:(ib<|(iU (-1)).m*2^(Int.toNat (iU (-1)).e)).length<=256:=by rw[q2,q3];exact uK aE 
 exact iy<|ae [.c<|qY (-1),.c<|NI ((iU (-1)).m) ((iU (-1)).e) aD aC aC aD]<|rQ (.agg [bP<|(iU (-1)).neg,il<|ib<|((iU (-1)).m)*2^(Int.toNat<|(iU (-1)).e)]) (.agg [bP true,il<|ib 1])<|by rw[q1,q2,q3];rfl
section
variable(a c:Bool×Nat)(za:(ib a.2).length<=256)(zc:(ib c.2).length<=256)(c0:c.2≠0)
def aem(zs:(ib<|a.2/c.2+1).length<=256)(h1:a.1=false):ic 382 [.agg [bP a.1,il<|ib a.2],.agg [bP c.1,il<|ib c.2]]<|.agg [bP<|(ql a c).1,il<|ib<|(ql a c).2]:=by
 have zq:(ib<|a.2/c.2).length<=256:=bg (nk<|b5 _ _) za;have zr:(ib<|a.2%c.2).length<=256:=bg (nk<|eA _ _) za;have z1:(ib 1).length<=256:=uK aE;have e:ql a c=(a.1,a.2/c.2):=by unfold ql;rw[aX<|by rw[h1];exact λq=>Bool.noConfusion q.1]
 exact iy<|ae [.c<|Bm a.2 c.2 aC aC aD,ai 19 a.1 h1,ai 23 a.1 h1]<|rQ (.agg [bP false,il<|ib<|a.2/c.2]) (.agg [bP<|(ql a c).1,il<|ib<|(ql a c).2])<|by rw[e,h1]
def aej(zs:(ib<|a.2/c.2+1).length<=256)(h1:a.1=true)(h2:a.2%c.2=0):ic 382 [.agg [bP a.1,il<|ib a.2],.agg [bP c.1,il<|ib c.2]]<|.agg [bP<|(ql a c).1,il<|ib<|(ql a c).2]:=by
 have zq:(ib<|a.2/c.2).length<=256:=bg (nk<|b5 _ _) za;have zr:(ib<|a.2%c.2).length<=256:=bg (nk<|eA _ _) za;have z1:(ib 1).length<=256:=uK aE;have e:ql a c=(a.1,a.2/c.2):=by unfold ql;rw[aX λq=>q.2 h2]
 exact iy<|ae [.c<|Bm a.2 c.2 aC aC aD,ah 19 a.1 h1,ah 23 a.1 h1,.c<|tL<|a.2%c.2,tF 27 (0<(iq<|a.2%c.2:Int))<|by rw[h2,sO];decide]<|rQ (.agg [bP true,il<|ib<|a.2/c.2]) (.agg [bP<|(ql a c).1,il<|ib<|(ql a c).2])<|by rw[e,h1]
section
variable(zs:(ib<|a.2/c.2+1).length<=256)
def aek(h1:a.1=true)(h2:a.2%c.2≠0):ic 382 [.agg [bP a.1,il<|ib a.2],.agg [bP c.1,il<|ib c.2]]<|.agg [bP<|(ql a c).1,il<|ib<|(ql a c).2]:=by
 have zq:(ib<|a.2/c.2).length<=256:=bg (nk<|b5 _ _) za;have zr:(ib<|a.2%c.2).length<=256:=bg (nk<|eA _ _) za;have z1:(ib 1).length<=256:=uK aE;have e:ql a c=jM (a.1,a.2/c.2) (true,1):=by unfold ql;rw[aY ⟨h1,h2⟩]
 exact iy<|ae [.c<|Bm a.2 c.2 aC aC aD,ah 19 a.1 h1,ah 23 a.1 h1,.c<|tL<|a.2%c.2,tT 27 (0<(iq<|a.2%c.2:Int))<|by have:=oV h2;omega,.c aeP,ag [.agg [bP true,il<|ib<|a.2/c.2],.agg [bP true,il<|ib 1]]<|ug (true,(a.2/c.2)) aD (true,1) aD aD]<|rQ (.agg [bP<|(jM (true,(a.2/c.2)) (true,1)).1,il<|ib<|(jM (true,(a.2/c.2)) (true,1)).2]) (.agg [bP<|(ql a c).1,il<|ib<|(ql a c).2])<|by rw[e,h1]
def ael:ic 382 [.agg [bP a.1,il<|ib a.2],.agg [bP c.1,il<|ib c.2]]<|.agg [bP<|(ql a c).1,il<|ib<|(ql a c).2]:=by
 cases h1:a.1 with
 |false=>rw[<-h1];exact aem a c za zc c0 zs h1
 |true=>
  rw[<-h1];by_cases h2:a.2%c.2=0
  .exact aej a c za zc c0 zs h1 h2
  .exact aek a c za zc c0 zs h1 h2
end
end
section
variable(x:Iv)(n p t w2 sg eg mm:Nat)(cp u v c1 a0 a1 k l0 d0 d1:Bool×Nat)(hx:x.ig)
def aer(xa:x.all=false)(hn:n<=3)(ie:p<=2000)(ht:(t:Int)=max (max x.lo.iz x.hi.iz) 0)(t2:t<=2000)(zd:(ib d1.2).length<=256)(r6:ic 377 [iP (((p+t)+40:Nat):Int)]<|.agg [bP cp.1,il<|ib cp.2])(hU:ic 383 [iw x.hi,iP (((p+t)+40:Nat):Int)]<|.agg [bP u.1,il<|ib u.2])(hV:ic 383 [iw x.lo,iP (((p+t)+40:Nat):Int)]<|.agg [bP v.1,il<|ib v.2])(hW:ic 378 [il<|ib cp.2,iP ((1:Nat):Int)]<|il<|ib w2)(Fi:ic 381 [.agg [bP false,il<|ib n],.agg [bP cp.1,il<|ib cp.2],iP ((0:Nat):Int)]<|.agg [bP c1.1,il<|ib c1.2])(hS:ic 379 [il<|ib c1.2,iP ((1:Nat):Int)]<|il<|ib sg)(hE:ic 378 [il<|ib 1,iP (((t+24)+4:Nat):Int)]<|il<|ib eg)(vV:ic 384 [.agg [bP u.1,il<|ib u.2],.agg [bP<|!false,il<|ib sg]]<|.agg [bP a0.1,il<|ib a0.2])(B9:ic 384 [.agg [bP a0.1,il<|ib a0.2],.agg [bP false,il<|ib eg]]<|.agg [bP a1.1,il<|ib a1.2])(hK:ic 382 [.agg [bP a1.1,il<|ib a1.2],.agg [bP false,il<|ib w2]]<|.agg [bP k.1,il<|ib k.2])(hM:ic 178 [il<|ib k.2,il<|ib w2]<|.ix [il<|ib mm,iP 0])(w8:ic 384 [.agg [bP k.1,il<|ib mm],.agg [bP false,il<|ib sg]]<|.agg [bP l0.1,il<|ib l0.2])(ze:ic 384 [.agg [bP l0.1,il<|ib l0.2],.agg [bP<|!v.1,il<|ib v.2]]<|.agg [bP d0.1,il<|ib d0.2])(wZ:ic 384 [.agg [bP d0.1,il<|ib d0.2],.agg [bP false,il<|ib eg]]<|.agg [bP d1.1,il<|ib d1.2])(hz:d1.2=0):ic 369 [im x,iP n,iP p]<|bP true:=by
 obtain⟨w1,w2'⟩:=hx.jj;have z1:(ib 1).length<=256:=uK aE;exact iy (af [.c<|oo x.lo aD,.c<|oo x.hi aD,.o 24<|aq (if 0>(if(Dy.iz x.hi)>(Dy.iz x.lo)then(Dy.iz x.hi)else(Dy.iz x.lo))then 0 else(if(Dy.iz x.hi)>(Dy.iz x.lo)then(Dy.iz x.hi)else(Dy.iz x.lo))) t (by(repeat' split)<;>omega),
  iD ((p:Int)+t),iD<|((p+t:Nat):Int)+40,ag [iP (((p+t)+40:Nat):Int)] r6,ag [il<|ib cp.2,iP 1] hW,.c<|NK n aC,ag [.agg [bP false,il<|ib n],.agg [bP cp.1,il<|ib cp.2],iP 0] Fi,ag [il<|ib c1.2,iP 1] hS,.o 42 (.e Ac:aj (.sl false 1 1 λi_ j_=>[.v<|.int .u32 1].getD (i_*1+j_)<|.v<|.bool false)<|il<|ib 1),iD<|(t:Int)+24,iD<|((t+24:Nat):Int)+4,ag [il<|ib 1,iP (((t+24)+4:Nat):Int)] hE,ag [iw x.hi,iP (((p+t)+40:Nat):Int)] hU,ag [.agg [bP false,il<|ib sg]]<|yj (false,sg),ag [.agg [bP u.1,il<|ib u.2],.agg [bP<|!false,il<|ib sg]] vV,ag [.agg [bP a0.1,il<|ib a0.2],.agg [bP false,il<|ib eg]] B9,ag [.agg [bP a1.1,il<|ib a1.2],.agg [bP false,il<|ib w2]] hK,ag [il<|ib k.2,il<|ib w2] hM,ag [.agg [bP k.1,il<|ib mm],.agg [bP false,il<|ib sg]] w8,ag [iw x.lo,iP (((p+t)+40:Nat):Int)] hV,ag [.agg [bP v.1,il<|ib v.2]]<|yj (v.1,v.2),ag [.agg [bP l0.1,il<|ib l0.2],.agg [bP<|!v.1,il<|ib v.2]] ze,ag [.agg [bP d0.1,il<|ib d0.2],.agg [bP false,il<|ib eg]] wZ,ag [.agg [bP d1.1,il<|ib d1.2]]<|Fg (d1.1,d1.2) aD,tB 83<|aZ hz])
def aeq(xa:x.all=false)(hn:n<=3)(ie:p<=2000)(ht:(t:Int)=max (max x.lo.iz x.hi.iz) 0)(t2:t<=2000)(zd:(ib d1.2).length<=256)(r6:ic 377 [iP (((p+t)+40:Nat):Int)]<|.agg [bP cp.1,il<|ib cp.2])(hU:ic 383 [iw x.hi,iP (((p+t)+40:Nat):Int)]<|.agg [bP u.1,il<|ib u.2])(hV:ic 383 [iw x.lo,iP (((p+t)+40:Nat):Int)]<|.agg [bP v.1,il<|ib v.2])(hW:ic 378 [il<|ib cp.2,iP ((1:Nat):Int)]<|il<|ib w2)(Fi:ic 381 [.agg [bP false,il<|ib n],.agg [bP cp.1,il<|ib cp.2],iP ((0:Nat):Int)]<|.agg [bP c1.1,il<|ib c1.2])(hS:ic 379 [il<|ib c1.2,iP ((1:Nat):Int)]<|il<|ib sg)(hE:ic 378 [il<|ib 1,iP (((t+24)+4:Nat):Int)]<|il<|ib eg)(vV:ic 384 [.agg [bP u.1,il<|ib u.2],.agg [bP<|!false,il<|ib sg]]<|.agg [bP a0.1,il<|ib a0.2])(B9:ic 384 [.agg [bP a0.1,il<|ib a0.2],.agg [bP false,il<|ib eg]]<|.agg [bP a1.1,il<|ib a1.2])(hK:ic 382 [.agg [bP a1.1,il<|ib a1.2],.agg [bP false,il<|ib w2]]<|.agg [bP k.1,il<|ib k.2])(hM:ic 178 [il<|ib k.2,il<|ib w2]<|.ix [il<|ib mm,iP 0])(w8:ic 384 [.agg [bP k.1,il<|ib mm],.agg [bP false,il<|ib sg]]<|.agg [bP l0.1,il<|ib l0.2])(ze:ic 384 [.agg [bP l0.1,il<|ib l0.2],.agg [bP<|!v.1,il<|ib v.2]]<|.agg [bP d0.1,il<|ib d0.2])(wZ:ic 384 [.agg [bP d0.1,il<|ib d0.2],.agg [bP false,il<|ib eg]]<|.agg [bP d1.1,il<|ib d1.2])(hz:¬d1.2=0):ic 369 [im x,iP n,iP p]<|bP<|!d1.1:=by
 obtain⟨w1,w2'⟩:=hx.jj;have z1:(ib 1).length<=256:=uK aE;exact iy (af [.c<|oo x.lo aD,.c<|oo x.hi aD,.o 24<|aq (if 0>(if(Dy.iz x.hi)>(Dy.iz x.lo)then(Dy.iz x.hi)else(Dy.iz x.lo))then 0 else(if(Dy.iz x.hi)>(Dy.iz x.lo)then(Dy.iz x.hi)else(Dy.iz x.lo))) t (by(repeat' split)<;>omega),
  iD ((p:Int)+t),iD<|((p+t:Nat):Int)+40,ag [iP (((p+t)+40:Nat):Int)] r6,ag [il<|ib cp.2,iP 1] hW,.c<|NK n aC,ag [.agg [bP false,il<|ib n],.agg [bP cp.1,il<|ib cp.2],iP 0] Fi,ag [il<|ib c1.2,iP 1] hS,.o 42 (.e Ac:aj (.sl false 1 1 λi_ j_=>[.v<|.int .u32 1].getD (i_*1+j_)<|.v<|.bool false)<|il<|ib 1),iD<|(t:Int)+24,iD<|((t+24:Nat):Int)+4,ag [il<|ib 1,iP (((t+24)+4:Nat):Int)] hE,ag [iw x.hi,iP (((p+t)+40:Nat):Int)] hU,ag [.agg [bP false,il<|ib sg]]<|yj (false,sg),ag [.agg [bP u.1,il<|ib u.2],.agg [bP<|!false,il<|ib sg]] vV,ag [.agg [bP a0.1,il<|ib a0.2],.agg [bP false,il<|ib eg]] B9,ag [.agg [bP a1.1,il<|ib a1.2],.agg [bP false,il<|ib w2]] hK,ag [il<|ib k.2,il<|ib w2] hM,ag [.agg [bP k.1,il<|ib mm],.agg [bP false,il<|ib sg]] w8,ag [iw x.lo,iP (((p+t)+40:Nat):Int)] hV,ag [.agg [bP v.1,il<|ib v.2]]<|yj (v.1,v.2),ag [.agg [bP l0.1,il<|ib l0.2],.agg [bP<|!v.1,il<|ib v.2]] ze,ag [.agg [bP d0.1,il<|ib d0.2],.agg [bP false,il<|ib eg]] wZ,ag [.agg [bP d1.1,il<|ib d1.2]]<|Fg (d1.1,d1.2) aD,tB 83<|a6 hz])
end
def Hj{a b:Bool×Nat}{i j n:Nat}(ha:a.2<2^i)(hb:b.2<2^j)(hi:i<=n)(hj:j<=n)(hn:n<=8000):∃ r:Bool×Nat,r.2<2^(n+1)/\ic 384 [.agg [bP a.1,il<|ib a.2],.agg [bP b.1,il<|ib b.2]] (.agg [bP r.1,il<|ib r.2]):=
 ⟨jM a b,ahd ha hb hi hj,ug a (lG ha aC) b (lG hb aC)<|lG (Me ha hb hi hj) aC⟩
def aep{x:Iv}(hx:x.ig)(xa:x.all=false)(n:Nat)(hn:n<=3)(p:Nat)(ie:p<=1000)(h1:x.lo.iz<=100)(h2:x.hi.iz<=100):∃ r:Bool,ic 369 [im x,iP (n:Int),iP (p:Int)] (bP r):=by
 obtain⟨w1,w2⟩:=hx.jj;obtain⟨t,ht⟩:∃ t:Nat,(t:Int)=max (max x.lo.iz x.hi.iz) 0:=⟨(max (max x.lo.iz x.hi.iz) 0).toNat,aC⟩
 obtain⟨cp,c1,c2,c3,r6⟩:=TW (p+t+40) aC aC;have hU:=NJ x.hi w2 (p+t+40) 6000 aC aE aC;have hV:=NJ x.lo w1 (p+t+40) 6000 aC aE aC;have yu:=L8 (d:=x.hi) (b:=p+t+40) (K:=6000) aC;have yv:=L8 (d:=x.lo) (b:=p+t+40) (K:=6000) aC;have yc:=Jp (m:=cp.2) (i:=p+t+40+3) (k:=2000) (by have e:(2:Nat)^(p+t+40+3)=2^(p+t+40)*8:=bj 2 _ 3;have:0<2^(p+t+40):=bn aE;omega) aC;generalize rV x.hi (p+t+40)=u at hU yu;generalize rV x.lo (p+t+40)=v at hV yv;obtain⟨K,hK⟩:∃ K,K=6000:=⟨_,rfl⟩
 rw[<-hK]at yu yv;obtain⟨J,hJ⟩:∃ J,J=2000:=⟨_,rfl⟩
 rw[<-hJ]at yc;have zc:(ib cp.2).length<=256:=lG yc aC;have yw:cp.2*2^1<2^(J+1):=by have e:2^(J+1)=2^J*2:=bF _ _;omega
 have hW:=BV cp.2 1 zc aE<|lG yw aC;have w0:cp.2*2^1≠0:= aC ;generalize cp.2*2^1=w at hW yw w0;have yn:n*cp.2<2^(J+2):=by have e:2^(J+2)=2^J*4:=bj 2 J 2;have:=bG cp.2 hn;omega
 have Fi:=OB (false,n) (uK<|by show n<_;omega) cp zc 0 aE<|lG yn aC;have y1:n*cp.2/2^0<2^(J+2):=ck (b5 _ _) yn;obtain⟨q,hq⟩:∃ q:Bool×Nat,q=(false != cp.1,n*cp.2/2^0):=⟨_,rfl⟩
 have yq:q.2<2^(J+2):=by rw[hq];exact y1
 have V8:ic 381 [.agg [bP false,il<|ib n],.agg [bP cp.1,il<|ib cp.2],iP ((0:Nat):Int)]<|.agg [bP q.1,il<|ib q.2]:=by rw[hq];exact Fi
 clear Fi hq;have hS:=xX q.2 1 (lG yq aC) aE;have ys:q.2/2^1<2^(J+2):=ck (b5 _ _) yq;generalize q.2/2^1=sg at hS ys;have ye:1*2^(t+24+4)<2^K:=by rw[bN];exact gF aE aC 
 have hE:=BV 1 (t+24+4) (uK aE) aC<|lG ye aC;generalize 1*2^(t+24+4)=eg at hE ye;obtain⟨a0,x0,vV⟩:=Hj (b:=(!false,sg)) yu ys (n:=K) aC aC aC;obtain⟨a1,x1,B9⟩:=Hj (b:=(false,eg)) x0 ye (n:=K+1) aC aC aC;have yf:a1.2/w+1<2^(K+3):=by
  have e:2^(K+3)=2^(K+1+1)*2:=bF _ _;have:=b5 a1.2 w;have:0<2^(K+1+1):=bn aE;omega
 have hF:=ael a1 (false,w) (lG x1 aC) (lG yw aC) w0<|lG yf aC;have yk:=ck (VE a1 (false,w)) yf;have ym:(ql a1 (false,w)).2*w<2^(K+3):=ck (ahl a1 (false,w))<|Me (n:=K+2) x1 yw aC aC;generalize ql a1 (false,w)=k at hF yk ym;have hM:=Bn k.2 w (lG yk aC) (lG yw aC)<|lG ym aC;generalize k.2*w=mm at hM ym;obtain⟨l0,x2,w8⟩:=Hj (a:=(k.1,mm)) (b:=(false,sg)) ym ys (n:=K+3) aC aC aC;obtain⟨d0,x3,ze⟩:=Hj (b:=(!v.1,v.2)) x2 yv (n:=K+4) aC aC aC;obtain⟨d1,x4,wZ⟩:=Hj (b:=(false,eg)) x3 ye (n:=K+5) aC aC aC;by_cases hz:d1.2=0
 .exact ⟨_,aer x n p t w sg eg mm cp u v q a0 a1 k l0 d0 d1 hx xa hn aC ht aC (lG x4 aC) r6 hU hV hW V8 hS hE vV B9 hF hM w8 ze wZ hz⟩
 .exact ⟨_,aeq x n p t w sg eg mm cp u v q a0 a1 k l0 d0 d1 hx xa hn aC ht aC (lG x4 aC) r6 hU hV hW V8 hS hE vV B9 hF hM w8 ze wZ hz⟩
def lp:Iv:=⟨iU (-1),iU 1,false⟩
def BF:lp.ig:=.inr ⟨rfl,show(iU (-1)).ig from sC aE,show(iU 1).ig from sC aE,aL⟩
def AE : ic 367 []<|im lp:=by
 have h1:(iU (-1)).ig:=sC aE;have h2:(iU 1).ig:=sC aE;exact iy<|ae [.c<|qY (-1),.c<|qY 1]<|rR (im lp) (.jP rfl:E.le (im<|Iv.mk (iU (-1)) (iU 1) false)<|im lp)
def adg(x y:Iv)(hx:x.ig)(hy:y.ig)(xa:(x.all||y.all)=true):ic 190 [im x,im y]<|im ik:=
 iy (af [.o 7<|.e<|yE x y,.c<|Bh x y aD aD,ai 8 (!(x.all||y.all))<|by rw[xa];rfl,.c nu])
def adh{x y:Iv}(hx:x.ig)(hy:y.ig):∃ Z,Z.ig/\ic 190 [im x,im y] (im Z):=by
 cases h:(x.all||y.all)with
 |true=>exact⟨ik,kR,adg x y hx hy h⟩
 |false=>
  obtain⟨h1,h2⟩:=fe.1 h;exact⟨q8 x y,Xj hx hy,Tp x y hx hy h1 h2⟩
def adp(x:Iv)(hx:x.ig)(xa:x.all=true):ic 24 [im x,im lp]<|.ix [im lp,bP true]:=by
 have hu:=BF;exact iy<|af [.c<|pe x aD,.c<|pe lp aD,ah 19 x.all xa]
section
variable(x:Iv)(hx:x.ig)(xa:x.all=false)
def adr(h:0<jm (jg x.lo lp.lo) (jk x.hi lp.hi)):ic 24 [im x,im lp]<|.ix [im Ao,bP false]:=by
 have hu:=BF;obtain⟨v1,v2⟩:=hx.jj;obtain⟨v3,v4⟩:=hu.jj;have m1:=uM v1 v3;have m2:=xz v2 v4;exact iy<|ae [.c<|pe x aD,.c<|pe lp aD,ai 19 x.all xa,ai 23 lp.all rfl,.c<|IF x.lo lp.lo aD aD,.c<|IE x.hi lp.hi aD aD,.c<|mF (jg x.lo lp.lo) (jk x.hi lp.hi) aD aD,tB 41<|aZ h]<|rR (.ix [im Ao,bP false]) (.ix<|.cons aco<|.cons (.refl _) .nil:E.le (.ix [.agg au,bP false])<|.ix [im Ao,bP false])
def ads(h:¬0<jm (jg x.lo lp.lo) (jk x.hi lp.hi)):ic 24 [im x,im lp]<|.ix [im<|Iv.mk (jg x.lo lp.lo) (jk x.hi lp.hi) false,bP true]:=by
 have hu:=BF;obtain⟨v1,v2⟩:=hx.jj;obtain⟨v3,v4⟩:=hu.jj;have m1:=uM v1 v3;have m2:=xz v2 v4;exact iy<|af [.c<|pe x aD,.c<|pe lp aD,ai 19 x.all xa,ai 23 lp.all rfl,.c<|IF x.lo lp.lo aD aD,.c<|IE x.hi lp.hi aD aD,.c<|mF (jg x.lo lp.lo) (jk x.hi lp.hi) aD aD,tB 41<|a6 h]
end
structure Aq(Y:Iv):Prop where
 v:Y.ig
 f:Y.all=false
 l:jm lp.lo Y.lo<=0
 h:jm Y.hi lp.hi<=0
def apu:Aq lp:=⟨BF,rfl,aL,aL⟩
def adq{x:Iv}(hx:x.ig):(∃ Y,Aq Y/\ic 24 [im x,im lp] (.ix [im Y,bP true]))\/ic 24 [im x,im lp] (.ix [im Ao,bP false]):=by
 cases xa:x.all with
 |true=>exact .inl ⟨lp,apu,adp x hx xa⟩
 |false=>
  by_cases h:0<jm (jg x.lo lp.lo) (jk x.hi lp.hi)
  .exact .inr<|adr x hx xa h
  .have v1:(jg x.lo lp.lo).ig:=uM hx.jj.1 BF.jj.1;have v2:(jk x.hi lp.hi).ig:=xz hx.jj.2 BF.jj.2;have h1:jm lp.lo (jg x.lo lp.lo)<=0:=YI _ _;have h2:jm (jk x.hi lp.hi) lp.hi<=0:=Qy _ _;have hq:=ads x hx xa h;have h3:jm (jg x.lo lp.lo) (jk x.hi lp.hi)<=0:= aC ;generalize jg x.lo lp.lo=a at *
   generalize jk x.hi lp.hi=b at *
   exact .inl ⟨⟨a,b,false⟩,⟨.inr ⟨rfl,v1,v2,h3⟩,rfl,h1,h2⟩,hq⟩
def Aq.up{Y:Iv}(h:Aq Y):Aq ⟨Y.lo,iU 1,false⟩:=by
 have e:=h.v.jj;refine⟨.inr ⟨rfl,e.1,sC (n:=1) aE,?_⟩,rfl,h.l,show jm (iU 1) (iU 1)<=0 by decide +kernel⟩;have:=h.v.q;rw[pg];exact bw this<|(pg _ _).1 h.h
def Aq.dn{Y:Iv}(h:Aq Y):Aq ⟨iU (-1),Y.hi,false⟩:=by
 have e:=h.v.jj;refine⟨.inr ⟨rfl,sC (n:=-1) aE,e.2,?_⟩,rfl,show jm (iU (-1)) (iU (-1))<=0 by decide +kernel,h.h⟩;have:=h.v.q;rw[pg];exact bw ((pg _ _).1 h.l) this
def Kp(p:Nat)(iu:8<=p:=by omega)(ie:p<=512:=by omega):ic 366 [iP p]<|bP true:=
 iy (af [tT 4 (8<=(p:Int)) aC,tT 7 ((p:Int)<=512) aC])
section
variable(x:Iv)(cs:Bool)(p:Nat)(hx:x.ig)
def aed(xa:x.all=true)(iu:8<=p)(ie:p<=512):ic 352 [im x,bP cs,iP p]<|im ik:=
 iy (af [.c<|Kp p,.c<|pe x aD,ah 22 x.all xa,.c nu])
section
variable(xa:x.all=false)(iu:8<=p)(ie:p<=512)
def aeg(hu:100<x.lo.iz\/100<x.hi.iz\/¬wN x 64=0\/0<=jm (po x 64) (iU 7)):ic 352 [im x,bP cs,iP p]<|im lp:=by
 obtain⟨w1,w2⟩:=hx.jj;have h7:(iU 7).ig:=sC aE;have wv:(po x 64).ig:=wF _ aE aE _;exact iy (ae [.c<|Kp p,.c<|pe x aD,ai 22 x.all xa,.c<|oo x.lo aD]<|.w (100<(Dy.iz x.lo))
  (λk1=>af [tB 28<|aZ k1,.c AE])
  (λk1=>ae [tB 28<|a6 k1,.c<|oo x.hi aD]<|.w (100<(Dy.iz x.hi))
   (λk2=>af [tB 33<|aZ k2,.c AE])
   (λk2=>ae [tB 33<|a6 k2,.c<|ET x 64 aD aD]<|.w (wN x 64=0)
    (λk3=>ae [tB 40<|aZ k3,.c<|qY 7,.c<|mF (po x 64) (iU 7) aD aD]<|.w (0<=(jm (po x 64)<|iU 7))
     (λk4=>af [tB 47<|aZ k4,.c AE])
     (λk4=>.x<|by rcases hu with q|q|q|q<;>contradiction))
    (λk3=>af [tB 40<|a6 k3,.c AE]))))
def aef(h1:¬100<x.lo.iz)(h2:¬100<x.hi.iz)(h3:wN x 64=0)(h4:¬0<=jm (po x 64) (iU 7))(P1 P2 H:Iv)(zf:∀ c,c=cs->ic 368 [iw x.lo,bP c,iP (p:Int)] (im P1))(zg:∀ c,c=cs->ic 368 [iw x.hi,bP c,iP (p:Int)] (im P2))(hH:ic 190 [im P1,im P2]<|im H)(w9:ic 24 [im H,im lp]<|.ix [im Ao,bP false]):ic 352 [im x,bP cs,iP p]<|im lp:=by
 obtain⟨w1,w2⟩:=hx.jj;have h7:(iU 7).ig:=sC aE;have wv:(po x 64).ig:=wF _ aE aE _;exact iy<|af [.c<|Kp p,.c<|pe x aD,ai 22 x.all xa,.c<|oo x.lo aD,tB 28<|a6 h1,.c<|oo x.hi aD,tB 33<|a6 h2,.c<|ET x 64 aD aD,tB 40<|aZ h3,.c<|qY 7,.c<|mF (po x 64) (iU 7) aD aD,tB 47<|a6 h4,ag [iw x.lo,bP cs,iP p]<|zf cs aH,ag [iw x.hi,bP cs,iP p]<|zg cs aH,ag [im P1,im P2] hH,.c AE,ag [im H,im lp] w9,.c AE]
end
end
def rn(cs:Bool)(R:Nat->Bool)(x Y:Iv):Iv:=if jm x.lo x.hi=0 then Y else⟨if R (if cs=true then 2 else 3)=true then iU (-1)else Y.lo,if R (if cs=true then 0 else 1)=true then iU 1 else Y.hi,Y.all⟩
def aee(x:Iv)(cs:Bool)(p:Nat)(hx:x.ig)(xa:x.all=false)(iu:8<=p)(ie:p<=512)(h1:¬100<x.lo.iz)(h2:¬100<x.hi.iz)(h3:wN x 64=0)(h4:¬0<=jm (po x 64) (iU 7))(P1 P2 H Y:Iv)(hY:Aq Y)(zf:∀ c,c=cs->ic 368 [iw x.lo,bP c,iP (p:Int)] (im P1))(zg:∀ c,c=cs->ic 368 [iw x.hi,bP c,iP (p:Int)] (im P2))(hH:ic 190 [im P1,im P2]<|im H)(w9:ic 24 [im H,im lp]<|.ix [im Y,bP true])(R:Nat->Bool)(hM:∀ s:Nat,s<=3->ic 369 [im x,iP (s:Int),iP ((p+64:Nat):Int)] (bP<|R s)):ic 352 [im x,bP cs,iP p]<|im<|rn cs R x Y:=by
 obtain⟨w1,w2⟩:=hx.jj;have h7:(iU 7).ig:=sC aE;have wv:(po x 64).ig:=wF _ aE aE _;exact iy (ae [.c<|Kp p,.c<|pe x aD,ai 22 x.all xa,.c<|oo x.lo aD,tB 28<|a6 h1,.c<|oo x.hi aD,tB 33<|a6 h2,.c<|ET x 64 aD aD,tB 40<|aZ h3,.c<|qY 7,.c<|mF (po x 64) (iU 7) aD aD,tB 47<|a6 h4]<|.w ((jm x.lo x.hi)=0)
  (λk1=>ae [ag [iw x.lo,bP cs,iP p]<|zf cs aH,ag [iw x.hi,bP cs,iP p]<|zg cs aH,ag [im P1,im P2] hH,.c AE,ag [im H,im lp] w9,.c<|mF x.lo x.hi aD aD,tB 74<|aT k1]<|rQ (im Y) (im<|rn cs R x Y)<|by unfold rn;simp[k1])
  (λk1=>.w (cs=true)
   (λk2=>ae [tB 53 k2,ag [iw x.lo,bP true,iP p]<|zf true<|by simp[k2],tB 58 k2,ag [iw x.hi,bP true,iP p]<|zg true<|by simp[k2],ag [im P1,im P2] hH,.c AE,ag [im H,im lp] w9,.c<|mF x.lo x.hi aD aD,tB 74<|aS k1,tB 76 k2,
    iD ((p:Int)+64),ag [im x,iP 0,iP ((p+64:Nat):Int)]<|hM 0 aE]<|.w (R 0=true)
    (λk3=>ae [tB 81 k3,.c<|qY 1,iD<|(p:Int)+64,ag [im x,iP 2,iP ((p+64:Nat):Int)]<|hM 2 aE]<|.w (R 2=true)
     (λk4=>ae [tB 88 k4,.c<|qY (-1)]<|rQ (im<|Iv.mk (iU (-1)) (iU 1) Y.all) (im<|rn cs R x Y)<|by unfold rn;simp[k1,k2,k3,k4])
     (λk4=>ae [tB 88<|aU k4]<|rQ (im<|Iv.mk Y.lo (iU 1) Y.all) (im<|rn cs R x Y)<|by unfold rn;simp[k1,k2,k3,k4]))
    (λk3=>ae [tB 81<|aU k3,iD<|(p:Int)+64,ag [im x,iP 2,iP ((p+64:Nat):Int)]<|hM 2 aE]<|.w (R 2=true)
     (λk4=>ae [tB 88 k4,.c<|qY (-1)]<|rQ (im<|Iv.mk (iU (-1)) Y.hi Y.all) (im<|rn cs R x Y)<|by unfold rn;simp[k1,k2,k3,k4])
     (λk4=>ae [tB 88<|aU k4]<|rQ (im Y) (im<|rn cs R x Y)<|by unfold rn;simp[k1,k2,k3,k4])))
   (λk2=>ae [tB 53<|aU k2,ag [iw x.lo,bP false,iP p]<|zf false<|by simp[k2],tB 58<|aU k2,ag [iw x.hi,bP false,iP p]<|zg false<|by simp[k2],ag [im P1,im P2] hH,.c AE,ag [im H,im lp] w9,.c<|mF x.lo x.hi aD aD,tB 74<|aS k1,tB 76<|aU k2,iD<|(p:Int)+64,ag [im x,iP 1,iP ((p+64:Nat):Int)]<|hM 1 aE]<|.w (R 1=true)
    (λk3=>ae [tB 81 k3,.c<|qY 1,iD<|(p:Int)+64,ag [im x,iP 3,iP ((p+64:Nat):Int)]<|hM 3 aE]<|.w (R 3=true)
     (λk4=>ae [tB 88 k4,.c<|qY (-1)]<|rQ (im<|Iv.mk (iU (-1)) (iU 1) Y.all) (im<|rn cs R x Y)<|by unfold rn;simp[k1,k2,k3,k4])
     (λk4=>ae [tB 88<|aU k4]<|rQ (im<|Iv.mk Y.lo (iU 1) Y.all) (im<|rn cs R x Y)<|by unfold rn;simp[k1,k2,k3,k4]))
    (λk3=>ae [tB 81<|aU k3,iD<|(p:Int)+64,ag [im x,iP 3,iP ((p+64:Nat):Int)]<|hM 3 aE]<|.w (R 3=true)
     (λk4=>ae [tB 88 k4,.c<|qY (-1)]<|rQ (im<|Iv.mk (iU (-1)) Y.hi Y.all) (im<|rn cs R x Y)<|by unfold rn;simp[k1,k2,k3,k4])
     (λk4=>ae [tB 88<|aU k4]<|rQ (im Y) (im<|rn cs R x Y)<|by unfold rn;simp[k1,k2,k3,k4])))))
def TU{x:Iv}(hx:x.ig)(cs:Bool){p:Nat}(iu:8<=p)(ie:p<=512):∃ Z,Z.ig/\ic 352 [im x,bP cs,iP (p:Int)] (im Z):=by
 cases xa:x.all with
 |true=>exact⟨_,kR,aed x cs p hx xa iu ie⟩
 |false=>
  by_cases hu:100<x.lo.iz\/100<x.hi.iz\/¬wN x 64=0\/0<=jm (po x 64) (iU 7)
  .exact ⟨_,BF,aeg x cs p hx xa iu ie hu⟩
  have h1:¬100<x.lo.iz:=λq=>hu<|.inl q
  have h2:¬100<x.hi.iz:=λq=>hu<|.inr<|.inl q
  have h3:wN x 64=0:=bQ λq=>hu<|.inr<|.inr<|.inl q
  have h4:¬0<=jm (po x 64) (iU 7):=λq=>hu<|.inr<|.inr<|.inr q
  obtain⟨w1,w2⟩:=hx.jj;obtain⟨P1,g1,zf⟩:=TX w1 aC cs iu ie;obtain⟨P2,g2,zg⟩:=TX w2 aC cs iu ie;replace zf:∀ c,c=cs->ic 368 [iw x.lo,bP c,iP (p:Int)] (im P1):=λc h=>h▸zf
  replace zg:∀ c,c=cs->ic 368 [iw x.hi,bP c,iP (p:Int)] (im P2):=λc h=>h▸zg
  obtain⟨H,g3,hH⟩:=adh g1 g2;rcases adq g3 with⟨Y,hY,w9⟩|w9
  rotate_left
  .exact ⟨_,BF,aef x cs p hx xa iu ie h1 h2 h3 h4 P1 P2 H zf zg hH w9⟩
  have ya:=hY.f;have v0:=hY.v;have v1:(Iv.mk (iU (-1)) (iU 1) Y.all).ig:=by rw[ya];exact BF
  have v2:(Iv.mk Y.lo (iU 1) Y.all).ig:=by rw[ya];exact hY.up.v
  have v3:(Iv.mk (iU (-1)) Y.hi Y.all).ig:=by rw[ya];exact hY.dn.v
  have v4:(Iv.mk Y.lo Y.hi Y.all).ig:=hY.v;have hm:∀ s:Nat,∃ r,s<=3->ic 369 [im x,iP (s:Int),iP ((p+64:Nat):Int)] (bP r):=λs=>by
   by_cases hs:s<=3
   .obtain ⟨r,m⟩:=aep hx xa s aC (p+64) aC aC aC ;exact⟨r,λ_=>m⟩
   .exact ⟨true,λh=>absurd h hs⟩
  refine⟨rn cs (λs=>Classical.choose<|hm s) x Y,?_,aee x cs p hx xa iu ie h1 h2 h3 h4 P1 P2 H Y hY zf zg hH w9 (λs=>Classical.choose<|hm s) λs hs=>cT (hm s) hs⟩;generalize (λs=>Classical.choose<|hm s)=R;unfold rn;by_cases q1:jm x.lo x.hi=0
  .rw [aY q1];exact v0
  rw[aX q1];by_cases q2:R (if cs=true then 2 else 3)=true<;>by_cases q3:R (if cs=true then 0 else 1)=true<;>simp only[q2,q3,bA,bh,bC]<;>assumption
def aeO(x Z:Iv)(p:Nat)(hZ:ic 352 [im x,bP false,iP (p:Int)]<|im Z):ic 319 [im x,iP p]<|im Z:=
 iy (af [ag [im x,bP false,iP p] hZ])
def aeN{x:Iv}(hx:x.ig){p:Nat}(iu:8<=p)(ie:p<=512):∃ Z,Z.ig/\ic 319 [im x,iP (p:Int)] (im Z):=by
 obtain⟨Z,h1,h2⟩:=TU hx false iu ie;exact⟨Z,h1,aeO x Z p h2⟩
def aei(x Z:Iv)(p:Nat)(hZ:ic 352 [im x,bP true,iP (p:Int)]<|im Z):ic 320 [im x,iP p]<|im Z:=
 iy (af [ag [im x,bP true,iP p] hZ])
def aeh{x:Iv}(hx:x.ig){p:Nat}(iu:8<=p)(ie:p<=512):∃ Z,Z.ig/\ic 320 [im x,iP (p:Int)] (im Z):=by
 obtain⟨Z,h1,h2⟩:=TU hx true iu ie;exact⟨Z,h1,aei x Z p h2⟩
def ahs:xP:=λ_ _ hx iu ie=>⟨aqe hx iu ie,aqj hx iu ie,aeN hx iu ie,aeh hx iu ie,ajN hx iu ie⟩
structure pA where
 kind:Int
 a:Int
 b:Int
 n:Int
 cn:Int
 cd:Int
structure lQ where
 iH:Int
 ij:List pA
 iB:List Int
 iN:Int
 params:List RI
def oF:pA:=⟨0,0,0,0,0,0⟩
def Bv(o:pA):List E:=[iP o.kind,iP o.a,iP o.b,iP o.n,iP o.cn,iP o.cd]
def anm(o:pA):E:=.agg<|Bv o
def pI(l:List pA):E:=.sl true l.length 6 λi j=>(Bv<|l.getD i oF).getD j .any
def qV(l:List Int):E:=.sl true l.length 1 λi _=>iP<|l.getD i 0
def RR(s:lQ):List E:=[iP s.iH,pI s.ij,qV s.iB,iP s.iN,oe s.params]
def nA(s:lQ):E:=.agg<|RR s
structure pA.kz(o:pA):Prop where
 kind:lJ .i64 o.kind
 a:lJ .i64 o.a
 b:lJ .i64 o.b
 n:lJ .i64 o.n
 cn:lJ .i64 o.cn
 cd:lJ .i64 o.cd
structure lQ.kz(s:lQ):Prop where
 iH:lJ .i64 s.iH
 ij:∀ i,(s.ij.getD i oF).kz
 iB:∀ i,lJ .i64<|s.iB.getD i 0
 iN:lJ .i64 s.iN
 params:∀ i,(s.params.getD i mq).kz
structure lQ.vH(s:lQ):Prop where
 ij:s.ij.length<=1000
 params:s.params.length<=1000
def nm(o:pA)(m:Int):Bool:=
 if o.kind=1 then qt o.cn o.cd&&decide (o.a=0/\o.b=0/\o.n=0)
 else if 3<=o.kind/\o.kind<=6 then decide (o.cn=0/\o.cd=0/\0<=o.a/\o.a<m/\0<=o.b/\o.b<m/\o.n=0)
 else if o.kind=8 then decide (o.cn=0/\o.cd=0/\0<=o.a/\o.a<m/\o.b=0/\0<=o.n/\o.n<=16)
 else if o.kind=7\/9<=o.kind/\o.kind<=13 then decide (o.cn=0/\o.cd=0/\0<=o.a/\o.a<m/\o.b=0/\o.n=0)
 else false
def aav(s:lQ):Bool:=(List.range s.ij.length).all λi=>nm (s.ij.getD i oF)<|s.iH+(i:Int)
def Ea(s:lQ)(k:Int):Bool:=decide (0<=k/\k<s.iH+(s.ij.length:Int))
def Bw(s:lQ):Bool:=(List.range s.iB.length).all λi=>Ea s<|s.iB.getD i 0
noncomputable def qI(x:RI):Bool:=sF x && !x.all
noncomputable def Jz(s:lQ):Bool:=(List.range s.params.length).all λi=>qI<|s.params.getD i mq
noncomputable def sj(s:lQ):Bool:=decide (0<=s.iH/\s.iH<=8/\s.ij.length<=200/\s.iB.length<=200)&&aav s&&Bw s
 && decide (1<=s.iN/\s.iN<=4/\(s.iB.length:Int)=s.iN/\s.iH=s.iN+(s.params.length:Int)/\s.params.length<=4)&&Jz s
noncomputable def AA(n:Int)(b:List RI):Bool:=decide ((b.length:Int)=n)&&(List.range b.length).all λi=>qI<|b.getD i mq
noncomputable def Eg(d:RD):Bool:=@decide d.Ok<|Classical.propDecidable _
def Jw{d:RD}:Eg d=true↔d.Ok:=@ia _<|Classical.propDecidable _
noncomputable def qP(s:lQ)(x:List RI)(h:RD)(p:Int):Bool:=sj s&&AA s.iN x&&Eg h&&decide (0<h.dy.jc)&&decide (8<=p/\p<=512)
def acQ{n:Nat}{f:Nat->Bool}(h:¬(List.range n).all f=true):∃ N,N<n/\(!f N)=true/\∀ k,k<N->(!f k)=false:=by
 refine sD ?_;apply bQ;intro q;apply h;refine bR.2 λi hi=>?_
 cases hf:f i with
 |true=>rfl
 |false=>exact absurd ⟨i,bS.1 hi,by rw[hf];rfl⟩ q
def S2{n:Nat}{f:Nat->Bool}:((List.range n).any λi=>!f i) = !((List.range n).all f):=by
 rw[eo];simp
def pA.v(o:pA):kZ:=⟨o.kind.toNat,o.a.toNat,o.b.toNat,o.n.toNat,o.cn,o.cd⟩
def lQ.v(s:lQ):kp:=⟨⟨s.iH.toNat,s.ij.map pA.v,s.iB.map Int.toNat⟩,s.iN.toNat,s.params.map RI.iv⟩
def oj.of{k a b n m:Nat}{cn cd:Int}(k3:k=1\/3<=k)(Cu:k<=13)(ha:k=1->a=0)(xd:¬k=1->a<m)(hb:3<=k/\k<=6->b<m)(oY:¬(3<=k/\k<=6)->b=0)
 (hn:k=8->n<=16) (uy:¬k=8->n=0) (hc:k=1->qt cn cd=true) (Hy:¬k=1->cn=0/\cd=0):oj ⟨k,a,b,n,cn,cd⟩ m:=by
 refine⟨k3,Cu,?_,?_,?_,?_,.inr ahs⟩
 .show if k=1 then a=0 else a<m
  split<;>simp_all
 .show if 3<=k/\k<=6 then b<m else b=0
  split
  .rename_i h;exact hb h
  .rename_i h;exact oY h
 .show if k=8 then n<=16 else n=0
  split
  .rename_i h;exact hn h
  .rename_i h;exact uy h
 .show if k=1 then qt cn cd=true else cn=0/\cd=0
  split
  .rename_i h;exact hc h
  .rename_i h;exact Hy h
def anj{o:pA}{m:Nat}(h:nm o (m:Int)=true):oj o.v m/\0<=o.kind/\0<=o.a/\0<=o.b/\0<=o.n:=by
 obtain⟨k,a,b,n,cn,cd⟩:=o;unfold nm at h;simp only at h;show oj ⟨k.toNat,a.toNat,b.toNat,n.toNat,cn,cd⟩ m/\0<=k/\0<=a/\0<=b/\0<=n;split at h
 .rename_i hk;rw[bD,cz]at h;obtain⟨hr,h1,h2,h3⟩:=h;exact⟨oj.of aC aC aC aC aC aC aC aC (λ_=>hr) aC,aC,aC,aC,aC⟩
 .rename_i mT;split at h
  .rename_i hk;have h:=cN h;exact⟨oj.of aC aC aC aC aC aC aC aC aC aC,aC,aC,aC,aC⟩
  .split at h
   .rename_i hk;have h:=cN h;exact⟨oj.of aC aC aC aC aC aC aC aC aC aC,aC,aC,aC,aC⟩
   .split at h
    .rename_i xg hk;have h:=cN h;exact⟨oj.of aC aC aC aC aC aC aC aC aC aC,aC,aC,aC,aC⟩
    .cases h
def anl{o:pA}(h1:0<=o.kind)(h2:0<=o.a)(h3:0<=o.b)(h4:0<=o.n):F0 o.v=Bv o:=by
 obtain⟨k,a,b,n,cn,cd⟩:=o;simp only[F0,Bv,pA.v]at *
 rw[fo h1,fo h2,fo h3,fo h4]
def aaI{s:lQ}(g:s.kz)(h:sj s=true):mD s.v/\nA s=j8 s.v:=by
 unfold sj at h;simp only[bD,cz]at h;obtain⟨⟨⟨⟨⟨i0,i8,l1,l2⟩,ho⟩,hu⟩,s1,s4,e1,e2,p4⟩,hp⟩:=h;have ho:=bR.1 ho;have hu:=bR.1 hu;have hp:=bR.1 hp;have opAt:∀ i,i<s.ij.length->(s.ij.map pA.v).getD i ja=(s.ij.getD i oF).v:=λi hi=>by simp[bc,hi]
 have ouAt:∀ i,i<s.iB.length->(s.iB.map Int.toNat).getD i 0=(s.iB.getD i 0).toNat:=λi hi=>by simp[bc,hi]
 have paAt:∀ i,i<s.params.length->(s.params.map RI.iv).getD i ik=(s.params.getD i mq).iv:=λi hi=>by simp[bc,hi]
 have op:∀ i,i<s.ij.length->oj (s.ij.getD i oF).v (s.iH.toNat+i)/\0<=(s.ij.getD i oF).kind/\0<=(s.ij.getD i oF).a/\0<=(s.ij.getD i oF).b/\0<=(s.ij.getD i oF).n:=λi hi=>by
  have:=ho i<|bS.2 hi;exact anj<|by rwa[show((s.iH.toNat+i:Nat):Int)=s.iH+(i:Int)by omega]
 have ou:∀ i,i<s.iB.length->0<=s.iB.getD i 0/\s.iB.getD i 0<s.iH+(s.ij.length:Int):=λi hi=>cN<|hu i<|bS.2 hi
 have pa:∀ i,i<s.params.length->(s.params.getD i mq).Ok/\(s.params.getD i mq).all=false:=λi hi=>by
  have:=hp i<|bS.2 hi;unfold qI at this;rw[bD]at this;exact⟨Ab.1 this.1,by simpa using this.2⟩
 refine⟨⟨⟨?_,?_,?_,?_,?_⟩,?_,?_,?_,?_,?_,?_⟩,?_⟩
 .show s.iH.toNat<=8;omega
 .show (s.ij.map pA.v).length<=200;rw[cv];exact l1
 .show (s.iB.map Int.toNat).length<=200;rw[cv];exact l2
 .intro i hi;have hi:i<s.ij.length:=by simpa[lQ.v]using hi
  show oj ((s.ij.map pA.v).getD i ja) (s.iH.toNat+i);rw[opAt i hi];exact(op i hi).1
 .intro i hi;have hi:i<s.iB.length:=by simpa[lQ.v]using hi
  show(s.iB.map Int.toNat).getD i 0<s.iH.toNat+(s.ij.map pA.v).length;rw[ouAt i hi,cv];have:=ou i hi;omega
 .show 1<=s.iN.toNat;omega
 .show s.iN.toNat<=4;omega
 .show (s.iB.map Int.toNat).length=s.iN.toNat;rw[cv];omega
 .show s.iH.toNat=s.iN.toNat+(s.params.map RI.iv).length;rw[cv];omega
 .show (s.params.map RI.iv).length<=4;rw[cv];exact p4
 .intro i hi;have hi:i<s.params.length:=by simpa[lQ.v]using hi
  show((s.params.map RI.iv).getD i ik).ig/\((s.params.map RI.iv).getD i ik).all=false;rw[paAt i hi];exact⟨(pa i hi).1.valid,(pa i hi).2⟩
 .have e1:iP s.iH=iP (s.iH.toNat:Int):=by rw[fo i0]
  have e2:iP s.iN=iP (s.iN.toNat:Int):=by rw[fo (aC:0<=s.iN)]
  have e3:pI s.ij=mo (s.ij.map pA.v):=by
   unfold pI mo;rw[cv];congr 1;funext i j;by_cases hi:i<s.ij.length
   .rw [opAt i hi];obtain⟨_,h1,h2,h3,h4⟩:=op i hi;rw[anl h1 h2 h3 h4]
   .have a1:s.ij.getD i oF=oF:=by rw[bc,bX aC];rfl
    have a2:(s.ij.map pA.v).getD i ja=ja:=by rw[bc,bX<|by rw[cv];omega];rfl
    rw[a1,a2];rfl
  have e4:qV s.iB=mg (s.iB.map Int.toNat):=by
   unfold qV mg;rw[cv];congr 1;funext i j;by_cases hi:i<s.iB.length
   .rw [ouAt i hi,fo (ou i hi).1]
   .rw [bc,bX aC,bc (l:=s.iB.map Int.toNat),bX<|by rw[cv];omega];rfl
  have e5:oe s.params=iA (s.params.map RI.iv):=by
   rw[<-Qd];congr 1;apply aqX;intro i;unfold yN;rw[ch,ch];by_cases hi:i<s.params.length
   .have h1:=(pa i hi).1;have g1:=g.params i;rw[bk hi];rw[bc,bk hi]at h1 g1;exact congrArg some (RI.Ok.eq (x:=s.params[i]) h1 g1).symm
   .rw [bX aC];rfl
  show E.agg [iP s.iH,pI s.ij,qV s.iB,iP s.iN,oe s.params]=_;rw[e1,e2,e3,e4,e5];rfl
def UF(r:List Iv)(i p:Nat)(x:Nat):PS:=⟨84,true,[(23,.e<|iP x),(22,.e<|iP r.length),(21,.e<|iA r),(8,.box 8 0),(7,.box 7 0),(6,.box 6 0),(0,.e<|iA r),(1,.e<|iP i),(2,.e<|iP p)],[(8,.cells 37<|jf<|oB r i p x),(7,.cells 41<|jt ik),(6,.cells 41 au)]⟩
noncomputable def UG(s:kp)(b:List Iv)(p:Nat)(x:Nat):PS:=⟨45,true,[(11,.e<|iP ((x+1:Nat):Int)),(10,.box 10 0),(8,.e<|jb<|oz s b p),(6,.box 6 0),(2,.e<|iP p)],[(10,.cells 41<|jt<|xN (oz s b p) p x),(6,.cells 41 au)]⟩
def alE{r:List Iv}{i p k:Nat}(h:Bp r i p k=true)(hk:¬k=i):jC (iM (oB r i p k)<|kn<|r.getD k ik) p true=0:=by
 unfold Bp at h;rw[a6 hk,fi]at h;exact cN h
def aqs(r:List Iv)(i p:Nat)(hr:qN r)(hi:i<r.length)(hl:r.length<=1000)(iu:8<=p)(ie:p<=512)(hb:Z3 r i p=true):ic 92 [iA r,iP i,iP p]<|im<|Da r i p:=by
 have jH:∀ k,k<r.length->Bp r i p k=true:=λk hk=>bR.1 hb k<|bS.2 hk
 obtain⟨v1,v2⟩:=hr i hi;obtain⟨v3,v4⟩:=v1.jj;have v5:=Rm r i (aC:1<=p) (aC:p<=4096) r.length;have v6:=xD v5;exact iy (ae [.o 19 (.e BH:aj (.agg [bP false,.v<|.slice none 0 0,iP 0,bP false,.v<|.slice none 0 0,iP 0,bP true])<|im ik),.o 20 (.e tc:aj (.agg ar)<|iw iR),.s (Sp.jX (UF r i p) 0 r.length aC (λx hx mH=>by
    obtain⟨w1,w2⟩:=hr x aC;obtain⟨w5,w6⟩:=w1.jj;have w3:=uL w5 w6;have w4:=Rm r i (aC:1<=p) (aC:p<=4096) x;exact iS (ae [tT 24 ((x:Int)<r.length) aC,iX (x:Int)<|r.length,.c<|wo (r.getD x ik) w1 w2]<|.w (x=i)
     (λCj=>by
      have sS:oB r i p (x+1)=oB r i p x:=by rw[Z4,aY Cj]
      exact ae [ah 38 ((x:Int)==i)<|aT aC,iD<|(x:Int)+1]<|.e<|af [.b 8 (.jP<|by rw[sS]:Bx.le (.cells 37<|jf<|oB r i p x)<|.cells 37<|jf<|oB r i p<|x+1)])
     (λCj=>by
      have sS:oB r i p (x+1)=jN (iM (oB r i p x)<|kn<|r.getD x ik) p true:=by rw[Z4,aX Cj]
      exact ae [ai 38 ((x:Int)==i)<|aS aC,.c<|wE (oB r i p x) (kn<|r.getD x ik) p aD aD,ai 47 ((jC (iM (oB r i p x)<|kn<|r.getD x ik) p true) != 0)<|aV<|alE (jH x aC) Cj,iD<|(x:Int)+1]<|.e<|af [.b 8 (.jP<|by rw[sS]:Bx.le (.cells 37<|jf<|jN (iM (oB r i p x)<|kn<|r.getD x ik) p true)<|.cells 37<|jf<|oB r i p<|x+1)])) aF)
  (λhx=>by
    exact iS (af [tF 24 ((r.length:Int)<r.length) aC]) aF) aI:jW 4 Tryz.f92 (UF r i p 0) (.exit 0) ⟨84,true,[(8,.box 8 0),(7,.box 7 0),(6,.box 6 0),(0,.e<|iA r),(1,.e<|iP i),(2,.e<|iP p)],[(8,.cells 37<|jf<|oB r i p r.length),(7,.cells 41<|jt ik),(6,.cells 41 au)]⟩)<|af [.b 8<|.refl<|.cells 37<|jf<|oB r i p 0],
  iX (i:Int) (r.length),.c<|wU (oB r i p r.length) aD,.c<|aaa ((r.getD i ik).lo) (jo<|oB r i p r.length) p aD aD aC aC,
  iX (i:Int) (r.length),.c<|wE ((r.getD i ik).hi) (oB r i p r.length) p aD aD]<|.w ((jC (iM ((r.getD i ik).lo)<|jo<|oB r i p r.length) p false)=0)
  (λk1=>ae [tB 75<|aV k1]<|.w ((jC (iM ((r.getD i ik).hi)<|oB r i p r.length) p true)=0)
   (λk2=>ae [tB 78<|aV k2]<|rQ (im<|Iv.mk (jN (iM ((r.getD i ik).lo)<|jo<|oB r i p r.length) p false) (jN (iM ((r.getD i ik).hi)<|oB r i p r.length) p true) false) (im<|Da r i p)<|by unfold Da;rw[aY hb,aY<|by simp_all])
   (λk2=>ae [tB 78<|aW k2]<|rQ (im ik) (im<|Da r i p)<|by unfold Da;rw[aY hb,aX<|by simp_all]))
  (λk1=>ae [tB 75<|aW k1]<|rQ (im ik) (im<|Da r i p)<|by unfold Da;rw[aY hb,aX<|by simp_all]))
def akd(p:Int):ic 69 [iP p]<|bP<|kT p:=
 iy (.w (8<=p)
  (λk1=>ae [tB 4<|aZ k1]<|rQ (bP<|decide (p<=512)) (bP<|kT p)<|by unfold kT;simp[k1])
  (λk1=>ae [tB 4<|a6 k1]<|rQ (bP false) (bP<|kT p)<|by unfold kT;simp[k1]))
def ake(m:List<|List Iv)(n:Nat)(hm:jO m n n):ic 70 [jb m]<|bP true:=by
 have m1:=hm.iT;have m2:=hm.n1;have m3:=hm.mQ (aC:0<n);exact iy<|af [.c<|yI m _ _ hm,iX 0<|m.length,ah 12 ((m.length:Int)==((m.getD 0 []).length:Int))<|FP aC]
def afK(s:kp)(b:List Iv)(p:Nat)(h:mD s)(hb:kH s.iN b)(iu:8<=p)(ie:p<=512)(hn:Ct s b p=true):ic 51 [j8 s,iA b,iP p]<|.ix [.agg au,iP 11]:=
 iy (af [.c<|VR s b p h hb iu ie hn,ah 20 ((11:Int) != 0) aE])
section
variable{s:kp}(h:mD s)(b:List Iv)(p:Nat)
def LI:(oz s b p).length=s.iN:=by unfold oz;rw[IK,h.iB]
def Qf{i:Nat}(hi:i<s.iN):((oz s b p).getD i []).length=s.iN:=by
 unfold oz;rw[Qg<|by rw[h.iB];exact hi];simp
end
def IJ{s:kp}(h:mD s){b:List Iv}(hb:kH s.iN b){p:Nat}(hp:1<=p)(ie:p<=4096)(i j:Nat):(((oz s b p).getD i []).getD j ik).ig:=by
 obtain⟨f1,f2,f3,f4⟩:=BU h hb;by_cases hi:i<s.tape.iB.length
 .unfold oz;rw[Qg hi];by_cases hj:j<s.iN
  .rw [vC hj];exact ajY _ f4 hp ie _ _
  .rw [bc,bX<|by simpa using hj];exact kR
 .rw [bc (l:=oz s b p),bX<|by rw[LI h];rw[h.iB]at hi;omega];exact kR
def Sd{s:kp}(h:mD s){b:List Iv}(hb:kH s.iN b){p:Nat}(hp:1<=p)(ie:p<=4096):∀ k,(xN (oz s b p) p k).ig
 | 0=>IJ h hb hp ie 0 0
 |k+1=>nS (Sd h hb hp ie k) (IJ h hb hp ie _ _) hp ie
def X8{s:kp}(h:mD s){b:List Iv}(hb:kH s.iN b){p:Nat}(hp:1<=p)(ie:p<=4096):jO (oz s b p) s.iN s.iN:=by
 have s1:=h.s1;have s4:=h.s4;have mE:∀ {α:Type} {l:List α} {x:α} (d:α),x ∈ l->∃ i,i<l.length/\l.getD i d=x:=λd hx=>by
  obtain⟨i,hi,e⟩:=aq3 hx;exact⟨i,hi,by rw[bc,bk hi];exact e⟩
 refine⟨LI h b p,λr hr=>?_,λr hr x hx=>?_,aC,aC,aC,aC⟩
 .obtain ⟨i,hi,rfl⟩:=mE [] hr;rw[LI h]at hi;exact Qf h b p hi
 .obtain ⟨i,hi,rfl⟩:=mE [] hr;obtain⟨j,hj,rfl⟩:=mE ik hx;exact IJ h hb hp ie i j
def afQ(s:kp)(b:List Iv)(p:Nat)(h:mD s)(hb:kH s.iN b)(iu:8<=p)(ie:p<=512)(hn:Ct s b p=false):ic 51 [j8 s,iA b,iP p]<|.ix [im<|xN (oz s b p) p<|s.iN-1,iP 0]:=by
 have p1:1<=p:= aC ;have p2:p<=4096:= aC ;have s1:=h.s1;have s4:=h.s4;have Lj:=LI h b p;have uC:=Qf h b p (aC:0<s.iN);exact iy (af [.c<|VS s b p h hb iu ie hn,ai 20 ((0:Int) != 0) aE,iX 0<|(oz s b p).length,iX 0<|((oz s b p).getD 0 []).length,.s (Sp.jX (UG s b p) 0 (s.iN-1) aC (λx hx mH=>by
    have hr:=Qf h b p (aC:x+1<s.iN);have FC:=IJ h hb p1 p2 (x+1)<|x+1;have sU:=Sd h hb p1 p2 x;exact iS (ae [tT 31 (((x+1:Nat):Int)<((oz s b p).length:Int)) aC,iX ((x+1:Nat):Int)<|(oz s b p).length,iX ((x+1:Nat):Int)<|((oz s b p).getD (x+1) []).length,.c<|uH (xN (oz s b p) p x) (((oz s b p).getD (x+1) []).getD (x+1) ik) p aD aD,iD<|((x+1:Nat):Int)+1]<|.e<|af [.b 10<|.refl<|.cells 41<|jt<|xN (oz s b p) p<|x+1]) aF)
  (λhx=>by
    exact iS (af [tF 31 ((((s.iN-1)+1:Nat):Int)<((oz s b p).length:Int)) aC]) aF) aI:jW 6 Tryz.f51 (UG s b p 0) (.exit 0) ⟨45,true,[(10,.box 10 0),(6,.box 6 0)],[(10,.cells 41<|jt<|xN (oz s b p) p<|s.iN-1),(6,.cells 41 au)]⟩)<|af [.o 11<|aq 1 ((0+1:Nat):Int) aO,.b 10<|.refl<|.cells 41<|jt<|xN (oz s b p) p 0]])
structure jF where
 c:Nat->Rat
def jF.ext'{f g:jF}(h:∀ n,f.c n=g.c n):f=g:=by
 obtain⟨f⟩:=f;obtain⟨g⟩:=g;exact congrArg jF.mk<|funext h
def mr(f:Nat->Rat):Nat->Rat:=λn=>f<|n+1
def kA(f g:Nat->Rat):Nat->Rat
 | 0=>f 0*g 0
 |n+1=>f 0*g (n+1)+kA (mr f) g n
def I1(g:Nat->Rat):∀ n (f f':Nat->Rat),kA (λk=>f k+f' k) g n=kA f g n+kA f' g n
 | 0,f,f'=>by simp only[kA];grind
 |n+1,f,f'=>by
  have h:=I1 g n (mr f)<|mr f';have e:mr (λk=>f k+f' k)=λk=>mr f k+mr f' k:=rfl
  simp only[kA,e,h];grind
def YS(g:Nat->Rat)(a:Rat):∀ n (f:Nat->Rat),kA (λk=>a*f k) g n=a*kA f g n
 | 0,f=>by simp only[kA];grind
 |n+1,f=>by
  have h:=YS g a n<|mr f;have e:mr (λk=>a*f k)=λk=>a*mr f k:=rfl
  simp only[kA,e,h];grind
def YR(f g:Nat->Rat):∀ n (f:Nat->Rat),kA f g (n+1)=kA f (mr g) n+f (n+1)*g 0
 | 0,f=>by simp only[kA,mr]
 |n+1,f=>by
  have h:=YR f g n<|mr f;rw[show kA f g (n+1+1)=f 0*g (n+1+1)+kA (mr f) g (n+1)from rfl,h];rw[show kA f (mr g) (n+1)=f 0*mr g (n+1)+kA (mr f) (mr g) n from rfl];simp only[mr];grind
def YQ:∀ n (f g:Nat->Rat),kA f g n=kA g f n
 | 0,f,g=>by simp only[kA];grind
 |n+1,f,g=>by
  rw[YR g f n g];rw[show kA f g (n+1)=f 0*g (n+1)+kA (mr f) g n from rfl,YQ n (mr f) g]
  grind
def YP(g h:Nat->Rat):∀ n (f:Nat->Rat),kA (kA f g) h n=kA f (kA g h) n
 | 0,f=>by simp only[kA];grind
 |n+1,f=>by
  have e:mr (kA f g)=λk=>f 0*mr g k+kA (mr f) g k:=rfl
  rw[show kA (kA f g) h (n+1)=kA f g 0*h (n+1)+kA (mr<|kA f g) h n from rfl,e,I1 h n (λk=>f 0*mr g k)<|kA (mr f) g,YS h (f 0) n<|mr g,YP g h n<|mr f];rw[show kA f (kA g h) (n+1)=f 0*kA g h (n+1)+kA (mr f) (kA g h) n from rfl,show kA g h (n+1)=g 0*h (n+1)+kA (mr g) h n from rfl];simp only[kA];grind
def mn(a:Rat):Nat->Rat:=λn=>if n=0 then a else 0
def YT(g:Nat->Rat):∀ n,kA (λ_=>0) g n=0
 | 0=>by simp only[kA];grind
 |n+1=>by
  have:=YT g n;rw[show kA (λ_=>(0:Rat)) g (n+1)=0*g (n+1)+kA (λ_=>0) g n from rfl,this];grind
def D6(a:Rat)(g:Nat->Rat):∀ n,kA (mn a) g n=a*g n
 | 0=>rfl
 |n+1=>by
  have e:mr (mn a)=λ_=>0:=by funext k;simp[mr,mn]
  rw[show kA (mn a) g (n+1)=mn a 0*g (n+1)+kA (mr<|mn a) g n from rfl,e,YT];simp[mn];grind
instance:Add jF:=⟨λf g=>⟨λn=>f.c n+g.c n⟩⟩
instance:Mul jF:=⟨λf g=>⟨kA f.c g.c⟩⟩
instance:Neg jF:=⟨λf=>⟨λn=>- f.c n⟩⟩
instance:Sub jF:=⟨λf g=>⟨λn=>f.c n-g.c n⟩⟩
instance:NatCast jF:=⟨λk=>⟨mn (k:Rat)⟩⟩
instance:IntCast jF:=⟨λk=>⟨mn (k:Rat)⟩⟩
instance (k:Nat):OfNat jF k:=⟨⟨mn (k:Rat)⟩⟩
instance:SMul Nat jF:=⟨λk f=>(k:jF)*f⟩
instance:SMul Int jF:=⟨λk f=>(k:jF)*f⟩
def ZV(f:jF):Nat->jF
 | 0=>1
 |n+1=>ZV f n*f
instance:HPow jF Nat jF:=⟨ZV⟩
def jF.I4(f g:jF)(n:Nat):(f*g).c n=kA f.c g.c n:=rfl
def jF.FN(f g:jF):f*g=g*f:=jF.ext' λn=>YQ n _ _
instance:Lean.Grind.CommRing jF where
 add_zero f:=jF.ext' λn=>by show f.c n+mn ((0:Nat):Rat) n=_;unfold mn;split<;>grind
 add_comm f g:=jF.ext' λn=>by show f.c n+g.c n=g.c n+f.c n;grind
 add_assoc f g h:=jF.ext' λn=>by show f.c n+g.c n+h.c n=f.c n+(g.c n+h.c n);grind
 mul_assoc f g h:=jF.ext' λn=>YP g.c h.c n f.c
 mul_one f:=by
  rw[jF.FN];exact jF.ext' λn=>by rw[jF.I4,show(1:jF).c=mn ((1:Nat):Rat)from rfl,D6];simp;try grind
 one_mul f:=jF.ext' λn=>by rw[jF.I4,show(1:jF).c=mn ((1:Nat):Rat)from rfl,D6];simp;try grind
 left_distrib f g h:=by
  rw[jF.FN f<|g+h,jF.FN f g,jF.FN f h];exact jF.ext' λn=>I1 f.c n g.c h.c
 right_distrib f g h:=jF.ext' λn=>I1 h.c n f.c g.c
 zero_mul f:=jF.ext' λn=>by rw[jF.I4,show(0:jF).c=mn ((0:Nat):Rat)from rfl,D6];simp[mn];try grind
 mul_zero f:=by
  rw[jF.FN];exact jF.ext' λn=>by rw[jF.I4,show(0:jF).c=mn ((0:Nat):Rat)from rfl,D6];simp[mn];try grind
 pow_zero f:=rfl
 pow_succ f n:=rfl
 ofNat_succ k:=jF.ext' λn=>by
  show mn ((k+1:Nat):Rat) n=mn ((k:Nat):Rat) n+mn ((1:Nat):Rat) n;unfold mn;split
  .exact dJ k 1
  .grind
 ofNat_eq_natCast k:=rfl
 nsmul_eq_natCast_mul k f:=rfl
 neg_add_cancel f:=jF.ext' λn=>by show-f.c n+f.c n=mn ((0:Nat):Rat) n;unfold mn;split<;>grind
 sub_eq_add_neg f g:=jF.ext' λn=>by show f.c n-g.c n=f.c n + - g.c n;grind
 neg_zsmul i f:=jF.ext' λn=>by
  show kA (mn ((-i:Int):Rat)) f.c n = - kA (mn ((i:Int):Rat)) f.c n;rw[D6,D6,fW];grind
 zsmul_natCast_eq_nsmul k f:=jF.ext' λn=>by
  show kA (mn ((k:Int):Rat)) f.c n=kA (mn ((k:Nat):Rat)) f.c n;rw[dD]
 intCast_ofNat k:=jF.ext' λn=>by
  show mn ((k:Int):Rat) n=mn ((k:Nat):Rat) n;rw[dD]
 intCast_neg i:=jF.ext' λn=>by
  show mn ((-i:Int):Rat) n = - mn ((i:Int):Rat) n;unfold mn;split
  .exact fW i
  .grind
 mul_comm:=jF.FN
example (a b c:jF):(a+b)*(a-b)*c=a*a*c-b*c*b:= aK 
def uf(f:jF):jF:=⟨λn=>(n:Rat)*f.c n⟩
def Vg(g:Nat->Rat):∀ (n:Nat) (f:Nat->Rat),(n:Rat)*kA f g n=kA (λk=>(k:Rat)*f k) g n+kA f (λk=>(k:Rat)*g k) n
 | 0,f=>by
  show(0:Rat)*_=(0:Rat)*f 0*g 0+f 0*((0:Rat)*g 0)
  grind
 |n+1,f=>by
  have ih:=Vg g n<|mr f;have e:mr (λk=>(k:Rat)*f k)=λ(k:Nat)=>(k:Rat)*mr f k+mr f k:=by
   funext k;show((k+1:Nat):Rat)*f (k+1)=_;rw[natCast_succ];simp only[mr];grind
  have e2:=I1 g n (λ(k:Nat)=>(k:Rat)*mr f k)<|mr f;show((n+1:Nat):Rat)*(f 0*g (n+1)+kA (mr f) g n)=((0:Rat)*f 0*g (n+1)+kA (mr λk=>(k:Rat)*f k) g n)+(f 0*(((n+1:Nat):Rat)*g (n+1))+kA (mr f) (λk=>(k:Rat)*g k) n)
  rw[e,e2,natCast_succ];grind
def KF(f g:jF):uf (f+g)=uf f+uf g:=jF.ext' λn=>by show(n:Rat)*(f.c n+g.c n)=(n:Rat)*f.c n+(n:Rat)*g.c n;grind
def KG(f g:jF):uf (f*g)=uf f*g+f*uf g:=jF.ext' λn=>Vg g.c n f.c
def lj(a:Rat):jF:=⟨λn=>if n=1 then a else 0⟩
def Qr(a:Rat)(f:jF):∀ n,(lj a*f).c n=if n=0 then 0 else a*f.c (n-1)
 | 0=>by show(0:Rat)*f.c 0=0;grind
 |n+1=>by
  show(0:Rat)*f.c (n+1)+kA (mr (lj a).c) f.c n=a*f.c n;have e:mr (lj a).c=mn a:=by
   funext k;show(if k+1=1 then a else 0)=if k=0 then a else 0
   by_cases h:k=0
   .rw [h];rfl
   .rw [aX h,aX aC]
  rw[e,D6];grind
def Qq(a b:Rat):lj (a+b)=lj a+lj b:=jF.ext' λn=>by
 show(if n=1 then a+b else 0)=(if n=1 then a else 0)+(if n=1 then b else 0)
 split<;>grind
def Vh{f:jF}{a:Rat}(h:uf f=lj a*f)(h0:f.c 0=1):∀ n,f.c n=eQ a n
 | 0=>h0
 |n+1=>by
  have ih:=Vh h h0 n;have e:(uf f).c (n+1)=(lj a*f).c (n+1):=by rw[h]
  rw[Qr,aX aC,eE,ih]at e;have e':((n+1:Nat):Rat)*f.c (n+1)=a*eQ a n:=e;have s:=E8 a n;have hp:=xC n;have:((n+1:Nat):Rat)*(f.c (n+1)-eQ a (n+1))=0:= aK ;rcases Rat.mul_eq_zero.1 this with k|k<;>grind
def QC(g:Nat->Rat):∀ n (f:Nat->Rat),kA f g n=iK (λj=>f j*g (n-j)) (n+1)
 | 0,f=>by simp only[kA,iK,dA];grind
 |n+1,f=>by
  rw[ML,show kA f g (n+1)=f 0*g (n+1)+kA (mr f) g n from rfl,QC g n<|mr f,dQ];congr 1;exact ph _ λj _=>by rw[(aC:n+1-(j+1)=n-j)];rfl
def jF.sum(f:jF)(N:Nat):Rat:=iK f.c<|N+1
def jF.sk(f:jF)(C a:Rat):Prop:=0<=C/\0<=a/\∀ n,iY (f.c n)<=C*eQ a n
def jF.sk.sum{f:jF}{C a:Rat}(h:f.sk C a)(N:Nat):iY (f.sum N)<=C*EQ a N:=by
 refine bw (xW _ _)<|bw (xM _ λi _=>h.2.2 i) ?_;rw[tU];exact bV
section
variable{f g:jF}{C a D b:Rat}(h:f.sk C a)(k:g.sk D b)
def jF.sk.add:(f+g).sk (C+D)<|a+b:=by
 obtain⟨h1,h2,h3⟩:=h;obtain⟨k1,k2,k3⟩:=k;refine⟨aK,aK,λn=>?_⟩;have e1:=bY (Hd h2 (show a<=a+b by grind) n) h1;have e2:=bY (Hd k2 (show b<=a+b by grind) n) k1;have e3:=BP (f.c n)<|g.c n;have e4:=h3 n;have e5:=k3 n;show iY (f.c n+g.c n)<=_
 grind
def jF.sk.sub:(f-g).sk (C+D)<|a+b:=by
 obtain⟨h1,h2,h3⟩:=h;obtain⟨k1,k2,k3⟩:=k;refine⟨aK,aK,λn=>?_⟩;have e1:=bY (Hd h2 (show a<=a+b by grind) n) h1;have e2:=bY (Hd k2 (show b<=a+b by grind) n) k1;have e4:=h3 n;have e5:=k3 n;obtain⟨_,p2,p3,_⟩:=kU<|f.c n;obtain⟨_,q2,q3,_⟩:=kU<|g.c n;show iY (f.c n-g.c n)<=_;exact tZ aK aK 
def jF.sk.mul:(f*g).sk (C*D)<|b+a:=by
 obtain⟨h1,h2,h3⟩:=h;obtain⟨k1,k2,k3⟩:=k;refine⟨bH h1 k1,aK,λn=>?_⟩;rw[jF.I4,QC,<-EW b a n,<-tU];refine bw (xW _ _)<|xM _ λj _=>?_;show iY (f.c j*g.c (n-j))<=C*D*(eQ a j*eQ b (n-j))
 rw[tg,show C*D*(eQ a j*eQ b (n-j))=C*eQ a j*(D*eQ b (n-j))by grind];exact bw (b8 (h3 j) (kU _).1)<|bY (k3 _)<|bH h1<|rp h2 j
def ama(N:Nat):iY (f.sum N*g.sum N-(f*g).sum N)<=C*D*(EQ a N*EQ b N-EQ (b+a) N):=by
 obtain⟨h1,h2,h3⟩:=h;obtain⟨k1,k2,k3⟩:=k;have sq:∀ u v:Nat->Rat,iK u (N+1)*iK v (N+1)=iK (λj=>iK (λi=>u j*v i)<|N+1) (N+1):=λu v=>by
  rw[<-Eu];exact ph _ λj _=>(tU v (u j) _).symm
 have e1:f.sum N*g.sum N-(f*g).sum N=iK (λj=>iK (λi=>f.c j*g.c (N+1-j+i)) j) (N+1):=by
  have t:=MH (λj i=>f.c j*g.c i)<|N+1;rw[Gh]at t;have e:(f*g).sum N=iK (λs=>iK (λj=>f.c j*g.c (s-j))<|s+1) (N+1):=ph _ λn _=>QC g.c n f.c
  rw[e,show f.sum N*g.sum N=_ from sq f.c g.c,t];grind
 have e2:EQ a N*EQ b N-EQ (b+a) N=iK (λj=>iK (λi=>eQ a j*eQ b (N+1-j+i)) j) (N+1):=by
  have t:=MH (λj i=>eQ a j*eQ b i)<|N+1;rw[Gh]at t;have e:EQ (b+a) N=iK (λs=>iK (λj=>eQ a j*eQ b (s-j))<|s+1) (N+1):=ph _ λn _=>(EW b a n).symm
  rw[e,show EQ a N*EQ b N=_ from sq (eQ a)<|eQ b,t];grind
 rw[e1,e2,<-tU];refine bw (xW _ _)<|xM _ λj _=>?_;rw[<-tU];refine bw (xW _ _)<|xM _ λi _=>?_;rw[tg,show C*D*(eQ a j*eQ b (N+1-j+i))=C*eQ a j*(D*eQ b (N+1-j+i))by grind];exact bw (b8 (h3 j) (kU _).1)<|bY (k3 _)<|bH h1<|rp h2 j
end
def qi(x:Nat->Rat)(f:jF):Prop:=(∃ C a,f.sk C a)/\∀ ε,0<ε->∃ N0,∀ N,N0<=N->iY (x N-f.sum N)<=ε
def La{ε:Rat}(h:0<ε):0<ε/2:= aK 
def jF.aoD(f g:jF)(N:Nat):(f+g).sum N=f.sum N+g.sum N:=Et f.c g.c<|N+1
def jF.aoH(f g:jF)(N:Nat):(f-g).sum N=f.sum N-g.sum N:=by
 have h:=Et f.c (λi=>(-1)*g.c i)<|N+1;rw[tU]at h;have e:(f-g).sum N=iK (λi=>f.c i+(-1)*g.c i) (N+1):=ph _ λi _=>by show f.c i-g.c i=_;grind
 rw[e,h];show f.sum N + -1*g.sum N=_;grind
def qi.add{x y:Nat->Rat}{f g:jF}(h:qi x f)(k:qi y g):qi (λN=>x N+y N)<|f+g:=by
 obtain⟨⟨C,a,h1⟩,h2⟩:=h;obtain⟨⟨D,b,k1⟩,k2⟩:=k;refine⟨⟨_,_,h1.add k1⟩,λε hε=>?_⟩;obtain⟨N1,n1⟩:=h2 _<|La hε;obtain⟨N2,n2⟩:=k2 _<|La hε;refine⟨N1+N2,λN hN=>?_⟩;have e1:=n1 N aC;have e2:=n2 N aC;have e3:=BP (x N-f.sum N)<|y N-g.sum N;rw[jF.aoD,show x N+y N-(f.sum N+g.sum N)=x N-f.sum N+(y N-g.sum N)by grind]
 grind
def qi.sub{x y:Nat->Rat}{f g:jF}(h:qi x f)(k:qi y g):qi (λN=>x N-y N)<|f-g:=by
 obtain⟨⟨C,a,h1⟩,h2⟩:=h;obtain⟨⟨D,b,k1⟩,k2⟩:=k;refine⟨⟨_,_,h1.sub k1⟩,λε hε=>?_⟩;obtain⟨N1,n1⟩:=h2 _<|La hε;obtain⟨N2,n2⟩:=k2 _<|La hε;refine⟨N1+N2,λN hN=>?_⟩;have e1:=n1 N aC;have e2:=n2 N aC;obtain⟨_,p2,p3,_⟩:=kU<|x N-f.sum N;obtain⟨_,q2,q3,_⟩:=kU<|y N-g.sum N;rw[jF.aoH];exact tZ aK aK 
def qi.mul{x y:Nat->Rat}{f g:jF}(h:qi x f)(k:qi y g):qi (λN=>x N*y N)<|f*g:=by
 obtain⟨⟨C,a,h1⟩,h2⟩:=h;obtain⟨⟨D,b,k1⟩,k2⟩:=k;refine⟨⟨_,_,h1.mul k1⟩,λε hε=>?_⟩;obtain⟨K,K0,hK⟩:=Nf h1.2.1;obtain⟨L,L0,hL⟩:=Nf k1.2.1;have c0:=h1.1;have d0:=k1.1;have p1:=bH c0<|bE K0;have p2:=bH d0<|bE L0;have p3:=bH c0 d0
 let B:=C*K+(D*L+1)+C*D
 have hB:0<B:=by show 0<C*K+(D*L+1)+C*D;grind
 have hδ:0<ε/B:=by rw[cD];exact ep hε<|dV.2 hB
 obtain⟨N1,n1⟩:=h2 _ hδ;obtain⟨N2,n2⟩:=k2 _ hδ;obtain⟨N3,n3⟩:=k2 1 aE;obtain⟨N4,n4⟩:=JZ b a hδ;refine⟨N1+N2+N3+N4,λN hN=>?_⟩;have e1:=n1 N aC;have e2:=n2 N aC;have e3:=n3 N aC;have e4:=n4 N aC;have f1:=bw (h1.sum N)<|bY (hK N) c0;have f2:=bw (k1.sum N)<|bY (hL N) d0;have f3:=ama h1 k1 N;have g1:iY ((x N-f.sum N)*y N)<=ε/B*(D*L+1):=by
  rw[tg];have:iY (y N)<=D*L+1:=by
   have:=BP (y N-g.sum N)<|g.sum N;rw[show y N-g.sum N+g.sum N=y N by grind]at this
   grind
  exact bw (b8 e1 (kU _).1)<|bY this<|bE hδ
 have g2:iY (f.sum N*(y N-g.sum N))<=C*K*(ε/B):=by
  rw[tg];exact bw (b8 f1 (kU _).1)<|bY e2 p1
 have g3:iY (f.sum N*g.sum N-(f*g).sum N)<=C*D*(ε/B):=by
  refine bw f3<|bY ?_ p3;obtain⟨_,q2,q3,_⟩:=kU<|EQ (b+a) N-EQ b N*EQ a N
  grind
 have hs:ε/B*(D*L+1)+C*K*(ε/B)+C*D*(ε/B)=ε:=by
  have:ε/B*B=ε:=de aK;have e:ε/B*(D*L+1)+C*K*(ε/B)+C*D*(ε/B)=ε/B*B:=by
   show _=ε/B*(C*K+(D*L+1)+C*D);grind
  rw[e,this]
 have t1:=BP ((x N-f.sum N)*y N+f.sum N*(y N-g.sum N))<|f.sum N*g.sum N-(f*g).sum N;have t2:=BP ((x N-f.sum N)*y N)<|f.sum N*(y N-g.sum N);rw[show(x N-f.sum N)*y N+f.sum N*(y N-g.sum N)+(f.sum N*g.sum N-(f*g).sum N)=x N*y N-(f*g).sum N by grind]at t1;show iY (x N*y N-(f*g).sum N)<=ε
 grind
def R4{f:Nat->Rat}:∀ n,(∀ i,i<n->f i=0)->iK f n=0
 | 0,_=>rfl
 |n+1,h=>by rw[iK,R4 n λi hi=>h i aC,h n aC];grind
def qi.num(k:Nat):qi (λ_=>(k:Rat))<|OfNat.ofNat k:=by
 have hk:(0:Rat)<=(k:Rat):=cR;have hs:∀ N,(OfNat.ofNat k:jF).sum N=(k:Rat):=λN=>by
  show iK (mn (k:Rat)) (N+1)=_;rw[ML,R4 N λi _=>by show(if i+1=0 then _ else(0:Rat))=0;rw[aX aC]];show(k:Rat)+0=_;grind
 refine⟨⟨k,0,hk,bV,λn=>?_⟩,λε hε=>⟨0,λN _=>?_⟩⟩
 .show iY (mn (k:Rat) n)<=k*eQ 0 n;unfold mn;split
  .next h=>
   obtain⟨_,_,_,e⟩:=kU (k:Rat);rw[h];show iY (k:Rat)<=k*1;grind
  .have:=rp (c:=0) bV n;rw[GH];exact bH hk this
 .rw [hs N,show(k:Rat)-k=0 by grind,GH];exact bE hε
section
variable(n:Nat)(M:QM)(t:Rat)
def mG(i j:Nat):jF:=⟨λk=>eQ t k*MP n M k i j⟩
def agS(i j N:Nat):(mG n M t i j).sum N=SQ n M t N i j:=(EK t i j N).symm
section
variable{i j:Nat}(hi:i<n)(hj:j<n)
def agR:∃ C a,(mG n M t i j).sk C a:=by
 obtain⟨v,hv,h⟩:=aaA n M;refine⟨1,iY t*v,aE,bH (kU t).1 hv,λk=>?_⟩;show iY (eQ t k*MP n M k i j)<=_;rw[tg,E7,KD,er];exact bY (RJ (Nj hv h k) hi hj)<|rp (kU t).1 k
def agQ:qi (λN=>SQ n M t N i j)<|mG n M t i j:=
 ⟨agR n M t hi hj,λε hε=>⟨0,λN _=>by rw[agS,show SQ n M t N i j-SQ n M t N i j=0 by grind,GH];exact bE hε⟩⟩
end
end
structure RO(α:Type) where
 zero:α
 one:α
 add:α->α->α
 mul:α->α->α
 neg:α->α
section
variable {α β:Type}
def kO(s:Nat):Nat->Nat
 | 0=>0
 |c+1=>kO s c+s/2^c%2
def Ga(s:Nat):∀ c,kO s c<=c
 | 0=>a7 _
 |c+1=>by
  have:=Ga s c;show kO s c+s/2^c%2<=c+1;omega
def Es(o:RO α)(a:Nat->Nat->α)(T:Nat->α)(s row:Nat):Nat->α
 | 0=>o.zero
 |c+1=>if s/2^c%2=0 then Es o a T s row c else
  o.add (Es o a T s row c) (if(row-1+kO s c)%2=1 then o.neg (o.mul (a (row-1) c)<|T<|s-2^c)else o.mul (a (row-1) c) (T<|s-2^c))
def BD(o:RO α)(a:Nat->Nat->α)(n:Nat):Nat->Nat->α
 | 0=>λi=>if i=0 then o.one else o.zero
 |s+1=>λi=>if i=s+1 then Es o a (BD o a n s) (s+1) (kO (s+1) n) n else BD o a n s i
def rJ(o:RO α)(a:Nat->Nat->α)(n:Nat):α:=BD o a n (2^n-1)<|2^n-1
def R3{o:RO α}{u:RO β}(R:α->β->Prop)(hz:R o.zero u.zero)(hA:∀ {x y x' y'},R x x'->R y y'->R (o.add x y) (u.add x' y'))(hM:∀ {x y x' y'},R x x'->R y y'->R (o.mul x y) (u.mul x' y'))(hN:∀ {x x'},R x x'->R (o.neg x) (u.neg x'))
 {a:Nat->Nat->α} {b:Nat->Nat->β} {T:Nat->α} {U:Nat->β} (hT:∀ i,R (T i)<|U i) {s row n:Nat} (ha:∀ j,j<n->R (a (row-1) j) (b (row-1) j)):∀ c,c<=n->R (Es o a T s row c) (Es u b U s row c)
 | 0,_=>hz
 |c+1,hc=>by
  have ih:=R3 R hz hA hM hN hT (s:=s) ha c aC;have hm:=hM (ha c aC)<|hT<|s-2^c;unfold Es;split
  .exact ih
  .refine hA ih ?_;split
   .exact hN hm
   .exact hm
def Gj{o:RO α}{u:RO β}(R:α->β->Prop)(hz:R o.zero u.zero)(h1:R o.one u.one)(hA:∀ {x y x' y'},R x x'->R y y'->R (o.add x y) (u.add x' y'))(hM:∀ {x y x' y'},R x x'->R y y'->R (o.mul x y) (u.mul x' y'))(hN:∀ {x x'},R x x'->R (o.neg x) (u.neg x'))
 {a:Nat->Nat->α} {b:Nat->Nat->β} {n:Nat} (hn:1<=n) (ha:∀ i j,i<n->j<n->R (a i j) (b i j)):∀ s i,R (BD o a n s i)<|BD u b n s i
 | 0,i=>by
  unfold BD;split
  .exact h1
  .exact hz
 |s+1,i=>by
  have ih:=Gj R hz h1 hA hM hN hn ha s;have hr:=Ga (s+1) n;unfold BD;split
  .exact R3 R hz hA hM hN ih (λj hj=>ha _ j aC hj) n<|a7 _
  .exact ih i
section
variable(o:RO α)(a:Nat->Nat->α)
def afn:rJ o a 1=(o.add o.zero<|o.mul (a 0 0) o.one):=rfl
def afo:rJ o a 2=(o.add (o.add o.zero<|o.neg<|o.mul (a 1 0)<|o.add o.zero<|o.mul (a 0 1) o.one)<|o.mul (a 1 1)<|o.add o.zero<|o.mul (a 0 0) o.one):=rfl
def afp:rJ o a 3=(o.add (o.add (o.add o.zero<|o.mul (a 2 0)<|o.add (o.add o.zero<|o.neg<|o.mul (a 1 1)<|o.add o.zero<|o.mul (a 0 2) o.one)<|o.mul (a 1 2)<|o.add o.zero<|o.mul (a 0 1) o.one)<|o.neg<|o.mul (a 2 1)<|o.add (o.add o.zero<|o.neg<|o.mul (a 1 0)<|o.add o.zero<|o.mul (a 0 2) o.one)<|o.mul (a 1 2)<|o.add o.zero<|o.mul (a 0 0) o.one)<|o.mul (a 2 2)<|o.add (o.add o.zero<|o.neg<|o.mul (a 1 0)<|o.add o.zero<|o.mul (a 0 1) o.one)<|o.mul (a 1 1)<|o.add o.zero<|o.mul (a 0 0) o.one):=rfl
def afq:rJ o a 4=(o.add (o.add (o.add (o.add o.zero<|o.neg<|o.mul (a 3 0)<|o.add (o.add (o.add o.zero<|o.mul (a 2 1)<|o.add (o.add o.zero<|o.neg<|o.mul (a 1 2)<|o.add o.zero<|o.mul (a 0 3) o.one)<|o.mul (a 1 3)<|o.add o.zero<|o.mul (a 0 2) o.one)<|o.neg<|o.mul (a 2 2)<|o.add (o.add o.zero<|o.neg<|o.mul (a 1 1)<|o.add o.zero<|o.mul (a 0 3) o.one)<|o.mul (a 1 3)<|o.add o.zero<|o.mul (a 0 1) o.one)<|o.mul (a 2 3)<|o.add (o.add o.zero<|o.neg<|o.mul (a 1 1)<|o.add o.zero<|o.mul (a 0 2) o.one)<|o.mul (a 1 2)<|o.add o.zero<|o.mul (a 0 1) o.one)<|o.mul (a 3 1)<|o.add (o.add (o.add o.zero<|o.mul (a 2 0)<|o.add (o.add o.zero<|o.neg<|o.mul (a 1 2)<|o.add o.zero<|o.mul (a 0 3) o.one)<|o.mul (a 1 3)<|o.add o.zero<|o.mul (a 0 2) o.one)<|o.neg<|o.mul (a 2 2)<|o.add (o.add o.zero<|o.neg<|o.mul (a 1 0)<|o.add o.zero<|o.mul (a 0 3) o.one)<|o.mul (a 1 3)<|o.add o.zero<|o.mul (a 0 0) o.one)<|o.mul (a 2 3)<|o.add (o.add o.zero<|o.neg<|o.mul (a 1 0)<|o.add o.zero<|o.mul (a 0 2) o.one)<|o.mul (a 1 2)<|o.add o.zero<|o.mul (a 0 0) o.one)<|o.neg<|o.mul (a 3 2)<|o.add (o.add (o.add o.zero<|o.mul (a 2 0)<|o.add (o.add o.zero<|o.neg<|o.mul (a 1 1)<|o.add o.zero<|o.mul (a 0 3) o.one)<|o.mul (a 1 3)<|o.add o.zero<|o.mul (a 0 1) o.one)<|o.neg<|o.mul (a 2 1)<|o.add (o.add o.zero<|o.neg<|o.mul (a 1 0)<|o.add o.zero<|o.mul (a 0 3) o.one)<|o.mul (a 1 3)<|o.add o.zero<|o.mul (a 0 0) o.one)<|o.mul (a 2 3)<|o.add (o.add o.zero<|o.neg<|o.mul (a 1 0)<|o.add o.zero<|o.mul (a 0 1) o.one)<|o.mul (a 1 1)<|o.add o.zero<|o.mul (a 0 0) o.one)<|o.mul (a 3 3)<|o.add (o.add (o.add o.zero<|o.mul (a 2 0)<|o.add (o.add o.zero<|o.neg<|o.mul (a 1 1)<|o.add o.zero<|o.mul (a 0 2) o.one)<|o.mul (a 1 2)<|o.add o.zero<|o.mul (a 0 1) o.one)<|o.neg<|o.mul (a 2 1)<|o.add (o.add o.zero<|o.neg<|o.mul (a 1 0)<|o.add o.zero<|o.mul (a 0 2) o.one)<|o.mul (a 1 2)<|o.add o.zero<|o.mul (a 0 0) o.one)<|o.mul (a 2 2)<|o.add (o.add o.zero<|o.neg<|o.mul (a 1 0)<|o.add o.zero<|o.mul (a 0 1) o.one)<|o.mul (a 1 1)<|o.add o.zero<|o.mul (a 0 0) o.one):=rfl
end
end
def KH(f:jF):uf (-f) = -uf f:=jF.ext' λn=>by show(n:Rat) * -f.c n = -((n:Rat)*f.c n);grind
def KJ:uf 0=0:=jF.ext' λn=>by
 show(n:Rat)*mn ((0:Nat):Rat) n=mn ((0:Nat):Rat) n;unfold mn;split<;>simp
def KI:uf 1=0:=jF.ext' λn=>by
 show(n:Rat)*mn ((1:Nat):Rat) n=mn ((0:Nat):Rat) n;unfold mn;split
 .next h=>rw[h];simp
 .simp
def xH:RO jF:=⟨0,1,λf g=>f+g,λf g=>f*g,λf=>-f⟩
def Ag:RO Rat:=⟨0,1,λf g=>f+g,λf g=>f*g,λf=>-f⟩
def MB:RO<|Nat->Rat:=⟨λ_=>0,λ_=>1,λf g N=>f N+g N,λf g N=>f N*g N,λf N=>-f N⟩
def BC(f:Nat->jF):Nat->jF
 | 0=>0
 |n+1=>BC f n+f n
def abt(f:Nat->jF)(k:Nat):∀ n,(BC f n).c k=iK (λq=>(f q).c k) n
 | 0=>by show mn ((0:Nat):Rat) k=0;unfold mn;split<;>rfl
 |n+1=>by show(BC f n).c k+(f n).c k=_;rw[abt f k n];rfl
def agv(n:Nat)(M:QM)(t:Rat)(i j:Nat):uf (mG n M t i j)=BC (λq=>lj (t*M q j)*mG n M t i q) n:=jF.ext' λk=>by
 rw[abt];cases k with
 |zero=>
  rw[R4 n λq _=>by rw[Qr];rfl];show((0:Nat):Rat)*_=0;simp
 |succ k=>
  show((k+1:Nat):Rat)*(eQ t (k+1)*iK (λq=>MP n M k i q*M q j) n)=_;have e:=E8 t k;rw[show((k+1:Nat):Rat)*(eQ t (k+1)*iK (λq=>MP n M k i q*M q j) n)=(eQ t (k+1)*((k+1:Nat):Rat))*iK (λq=>MP n M k i q*M q j) n by grind,e,<-tU];refine ph _ λq _=>?_
  rw[Qr,aX aC];show t*eQ t k*(MP n M k i q*M q j)=t*M q j*(eQ t k*MP n M k i q)
  grind
def wL(M:QM):Nat->Rat:=iK λi=>M i i
section
variable{n:Nat}(h1:1<=n)(h4:n<=4)(M:QM)(t:Rat)
def afu:uf (rJ xH (mG n M t) n)=lj (t*wL M n)*rJ xH (mG n M t) n:=by
 have hs:∀ i j,uf (mG n M t i j)=BC (λq=>lj (t*M q j)*mG n M t i q) n:=agv n M t;rcases(aC:n=1\/n=2\/n=3\/n=4)with rfl|rfl|rfl|rfl
 .have et:lj (t*wL M 1)=lj (t*M 0 0):=by
   rw[show t*wL M 1=t*M 0 0 by show t*(0+M 0 0)=_;grind]
  rw[et,afn];simp only[xH,KF,KG,KH,KJ,KI,hs,BC];generalize mG 1 M t 0 0=e00;generalize lj (t*M 0 0)=b00;clear hs et
  grind
 .have et:lj (t*wL M 2)=lj (t*M 0 0)+lj (t*M 1 1):=by
   rw[show t*wL M 2=t*M 0 0+t*M 1 1 by show t*((0+M 0 0)+M 1 1)=_;grind];simp only[Qq]
  rw[et,afo];simp only[xH,KF,KG,KH,KJ,KI,hs,BC];generalize mG 2 M t 0 0=e00;generalize mG 2 M t 0 1=e01;generalize mG 2 M t 1 0=e10;generalize mG 2 M t 1 1=e11;generalize lj (t*M 0 0)=b00;generalize lj (t*M 0 1)=b01;generalize lj (t*M 1 0)=b10;generalize lj (t*M 1 1)=b11;clear hs et
  grind
 .have et:lj (t*wL M 3)=lj (t*M 0 0)+lj (t*M 1 1)+lj (t*M 2 2):=by
   rw[show t*wL M 3=t*M 0 0+t*M 1 1+t*M 2 2 by show t*(((0+M 0 0)+M 1 1)+M 2 2)=_;grind];simp only[Qq]
  rw[et,afp];simp only[xH,KF,KG,KH,KJ,KI,hs,BC];generalize mG 3 M t 0 0=e00;generalize mG 3 M t 0 1=e01;generalize mG 3 M t 0 2=e02;generalize mG 3 M t 1 0=e10;generalize mG 3 M t 1 1=e11;generalize mG 3 M t 1 2=e12;generalize mG 3 M t 2 0=e20;generalize mG 3 M t 2 1=e21;generalize mG 3 M t 2 2=e22;generalize lj (t*M 0 0)=b00;generalize lj (t*M 0 1)=b01;generalize lj (t*M 0 2)=b02;generalize lj (t*M 1 0)=b10;generalize lj (t*M 1 1)=b11;generalize lj (t*M 1 2)=b12;generalize lj (t*M 2 0)=b20;generalize lj (t*M 2 1)=b21;generalize lj (t*M 2 2)=b22;clear hs et
  grind
 .have et:lj (t*wL M 4)=lj (t*M 0 0)+lj (t*M 1 1)+lj (t*M 2 2)+lj (t*M 3 3):=by
   rw[show t*wL M 4=t*M 0 0+t*M 1 1+t*M 2 2+t*M 3 3 by show t*((((0+M 0 0)+M 1 1)+M 2 2)+M 3 3)=_;grind];simp only[Qq]
  rw[et,afq];simp only[xH,KF,KG,KH,KJ,KI,hs,BC];generalize mG 4 M t 0 0=e00;generalize mG 4 M t 0 1=e01;generalize mG 4 M t 0 2=e02;generalize mG 4 M t 0 3=e03;generalize mG 4 M t 1 0=e10;generalize mG 4 M t 1 1=e11;generalize mG 4 M t 1 2=e12;generalize mG 4 M t 1 3=e13;generalize mG 4 M t 2 0=e20;generalize mG 4 M t 2 1=e21;generalize mG 4 M t 2 2=e22;generalize mG 4 M t 2 3=e23;generalize mG 4 M t 3 0=e30;generalize mG 4 M t 3 1=e31;generalize mG 4 M t 3 2=e32;generalize mG 4 M t 3 3=e33;generalize lj (t*M 0 0)=b00;generalize lj (t*M 0 1)=b01;generalize lj (t*M 0 2)=b02;generalize lj (t*M 0 3)=b03;generalize lj (t*M 1 0)=b10;generalize lj (t*M 1 1)=b11;generalize lj (t*M 1 2)=b12;generalize lj (t*M 1 3)=b13;generalize lj (t*M 2 0)=b20;generalize lj (t*M 2 1)=b21;generalize lj (t*M 2 2)=b22;generalize lj (t*M 2 3)=b23;generalize lj (t*M 3 0)=b30;generalize lj (t*M 3 1)=b31;generalize lj (t*M 3 2)=b32;generalize lj (t*M 3 3)=b33;clear hs et
  grind
def aft:(rJ xH (mG n M t) n).c 0=1:=by
 have h:(rJ xH (mG n M t) n).c 0=rJ Ag uO n:=Gj (o:=xH) (u:=Ag) (λf r=>jF.c f 0=r) rfl rfl (fun {x y _ _} h k=>by show x.c 0+y.c 0=_;rw[h,k];rfl) (fun {x y _ _} h k=>by show x.c 0*y.c 0=_;rw[h,k];rfl) (fun {x _} h=>by show -x.c 0=_;rw[h];rfl) h1
  (λi j _ _=>by show(1:Rat)*uO i j=uO i j;grind) _ _
 rw[h];rcases(aC:n=1\/n=2\/n=3\/n=4)with rfl|rfl|rfl|rfl<;>decide +kernel
end
def qi.neg{x:Nat->Rat}{f:jF}(h:qi x f):qi (λN=>-x N) (-f):=by
 have:=(qi.num 0).sub h;rw[show -f=(OfNat.ofNat 0:jF)-f by
  refine jF.ext' λn=>?_
  show -f.c n=mn ((0:Nat):Rat) n-f.c n;unfold mn;split<;>grind]
 rw[show(λN=>-x N)=λN=>((0:Nat):Rat)-x N by funext N;show -x N=0-x N;grind];exact this
def afv{n:Nat}(h1:1<=n)(h4:n<=4)(M:QM)(t:Rat){ε:Rat}(hε:0<ε):∃ N0,∀ N,N0<=N->iY (rJ Ag (SQ n M t N) n-EQ (t*wL M n) N)<=ε:=by
 have ha:qi (rJ MB (λi j N=>SQ n M t N i j) n)<|rJ xH (mG n M t) n:=by
  have z:qi (λ_=>0) 0:=by
   have h:=qi.num 0;rwa[show((0:Nat):Rat)=0 from rfl]at h
  have o:qi (λ_=>1) 1:=by
   have h:=qi.num 1;rwa[show((1:Nat):Rat)=1 from rfl]at h
  unfold rJ;refine Gj (o:=MB) (u:=xH) qi z o ?_ ?_ ?_ h1 (λi j hi hj=>agQ n M t hi hj) _ _
  .intro x y f g h k;exact h.add k
  .intro x y f g h k;exact h.mul k
  .intro x f h;exact h.neg
 obtain⟨N0,h0⟩:=ha.2 ε hε;refine⟨N0,λN hN=>?_⟩;have h:=h0 N hN;have e1:rJ MB (λi j N=>SQ n M t N i j) n N=rJ Ag (SQ n M t N) n:=Gj (o:=MB) (u:=Ag) (λ(x:Nat->Rat) r=>x N=r) rfl rfl (fun {x y _ _} h k=>by show x N+y N=_;rw[h,k];rfl) (fun {x y _ _} h k=>by show x N*y N=_;rw[h,k];rfl) (fun {x _} h=>by show -x N=_;rw[h];rfl) h1 (λi j _ _=>rfl) _ _;have e2:(rJ xH (mG n M t) n).sum N=EQ (t*wL M n) N:=ph _ λk _=>Vh (afu h1 h4 M t) (aft h1 h4 M t) k
 rw[e1,e2]at h;exact h
def Bi(p:Nat):RO Iv:=⟨iJ iR,iJ<|iU 1,λx y=>je x y p,λx y=>iL x y p,oO⟩
section
variable(m:List<|List Iv)
def pP(p s:Nat):Nat->Iv:=BD (Bi p) (pW m) m.length s
def qg(p x c:Nat):Iv:=Es (Bi p) (pW m) (pP m p x) (x+1) (kO (x+1) m.length) c
def C9(p:Nat):Iv:=rJ (Bi p) (pW m) m.length
end
def uI(f:Nat->Iv):Nat->Nat->E:=λi j=>(jt<|f i).getD j .any
def aaw(s n:Nat):∀ d,kO s n<=kO s (n+d)
 | 0=>a7 _
 |d+1=>bg (aaw s n d)<|aru _ _
def adP{s n c:Nat}(hc:c<n)(h:¬s/2^c%2=0):1<=kO s n:=by
 obtain⟨d,rfl⟩:∃ d,n=c+1+d:=⟨n-(c+1),aC⟩
 refine bg ?_ (aaw s (c+1) d);show 1<=kO s c+s/2^c%2;omega
def adQ{s n c:Nat}(hs:s<2^n):s-2^c<2^n:=ck (eU _ _) hs
def Q6:(iU 1).ig:=sC aE 
section
variable{m:List<|List Iv}{n p:Nat}(hm:jO m n n)(hp:1<=p)(ie:p<=4096)
def Uz:(∀ s i,(pP m p s i).ig)/\∀ x c,c<=n->(qg m p x c).ig:=by
 let u:RO Unit:=⟨(),(),λ_ _=>(),λ_ _=>(),λ_=>()⟩
 have hn:1<=m.length:=by rw[hm.iT];exact hm.n1
 have ha:∀ i j,i<m.length->j<m.length->(pW m i j).ig:=λi j _ _=>He hm i j
 have h0:(Bi p).zero.ig:=oP qu;have h:∀ s i,(pP m p s i).ig:=λs i=>Gj (o:=Bi p) (u:=u) (b:=λ_ _=>()) (λX _=>X.ig) h0 (oP Q6) (λh k=>nS h k hp ie) (λ_ _=>lE _ _ hp ie) (λh=>rU h) hn ha s i
 refine⟨h,λx c hc=>?_⟩;have hr:=Ga (x+1) m.length;exact R3 (o:=Bi p) (u:=u) (b:=λ_ _=>()) (U:=λ_=>()) (n:=m.length) (λX _=>X.ig) h0 (λh k=>nS h k hp ie) (λ_ _=>lE _ _ hp ie) (λh=>rU h) (h x) (λj hj=>ha _ j aC hj) c<|by rw[hm.iT];exact hc
def afr{A:QM}(h:rF n n m A):(C9 m p).jr<|rJ Ag A n:=by
 have hn:1<=m.length:=by rw[hm.iT];exact hm.n1
 have e0:(iJ iR).jr 0:=by
  have:=Bq iR;rwa[show iR.q=0 by show(⟨false,0,0⟩:Dy).q=0;rw[qs];simp]at this
 have e1:(iJ<|iU 1).jr 1:=by
  have:=Bq<|iU 1;rwa[yM]at this
 have:=Gj (o:=Bi p) (u:=Ag) (a:=pW m) (b:=A) (n:=m.length) (λX r=>X.ig/\X.jr r) ⟨oP qu,e0⟩ ⟨oP Q6,e1⟩ (λh k=>⟨nS h.1 k.1 hp ie,vJ h.1 k.1 hp ie h.2 k.2⟩) (λh k=>⟨lE _ _ hp ie,zU h.1 k.1 hp ie h.2 k.2⟩) (λh=>⟨rU h.1,QL h.2⟩) hn
  (λi j hi hj=>⟨He hm i j,h i j (by rw[<-hm.iT];exact hi)<|by rw[<-hm.iT];exact hj⟩) (2^m.length-1) (2^m.length-1)
 have h2:(C9 m p).jr _:=this.2;rwa[show BD Ag A m.length (2^m.length-1) (2^m.length-1)=rJ Ag A m.length from rfl,hm.iT]at h2
def afs:(C9 m p).ig:=(Uz hm hp ie).1 _ _
end
def aok:∀ y:Nat,y<256->bits .and .i64 (y:Int) 1=((y%2:Nat):Int):= aL 
def XG(y:Nat)(h:y<256):bits .and .i64 (y:Int) 1=((y%2:Nat):Int):=aok y h
def aol:∀ s:Nat,s<256->∀ c:Nat,c<8->s/2^c%2≠0->bits .andNot .i64 (s:Int) ((2^c:Nat):Int)=((s-2^c:Nat):Int):= aL 
def JH:∀ c:Nat,c<9->IntKind.i64.wrap (1*2^c)=((2^c:Nat):Int):= aL 
def UL{s c:Nat}(h:s<256):s/2^c<256:=ck (b5 _ _) h
def ajE{j:Nat}(hj:j<7):E.le (([.v<|.bool false,.v<|.slice none 0 0,.v<|.int .i64 0,.v<|.bool false,.v<|.slice none 0 0,.v<|.int .i64 0,.v<|.bool false]:List E).getD j .any)<|(jt<|iJ iR).getD j .any:=by
 have hl:ib iR.m=[]:=pG;rcases j with _|_|_|_|_|_|_|j
 .exact .refl _
 .show E.le (.v<|.slice none 0 0) (il<|ib iR.m);rw[hl];exact .nil _ _ _
 .exact .refl _
 .exact .refl _
 .show E.le (.v<|.slice none 0 0) (il<|ib iR.m);rw[hl];exact .nil _ _ _
 .exact .refl _
 .exact .refl _
 .omega
def UU{T n k:Nat}{X:Iv}{f:Nat->Nat->E}{g:Nat->Iv}(hk:g k=X)(hf:∀ i j,¬i=k->j<7->E.le (f i j) (uI g i j)):Bx.le (.row true T n 7 λi' j'=>if i'=k/\0<=j'/\j'<0+7 then(jt X).getD (j'-0) .any else f i' j')<|.row true T n 7<|uI g:=
 .row rfl λi j hi hj=>⟨by
  show E.le (if i=k/\0<=j/\j<0+7 then(jt X).getD (j-0) .any else f i j) _;by_cases h:i=k
  .rw [aY ⟨h,b7 _,aC⟩,h];show E.le _ ((jt<|g k).getD j .any);rw[hk];exact .refl _
  .rw [aX λq=>h q.1];exact hf i j h hj,DX _ _ hj⟩
def afZ(m:List<|List Iv)(p T n:Nat):Bx.le (.row true T n 7 λi' j'=>if i'=0/\0<=j'/\j'<0+7 then(jt<|iJ<|iU 1).getD (j'-0) .any else([.v<|.bool false,.v<|.slice none 0 0,.v<|.int .i64 0,.v<|.bool false,.v<|.slice none 0 0,.v<|.int .i64 0,.v<|.bool false]:List E).getD j' .any)<|.row true T n 7<|uI<|pP m p 0:=
 UU rfl λi j hi hj=>by
  show E.le _ ((jt<|if i=0 then(Bi p).one else(Bi p).zero).getD j .any);rw[aX hi];exact ajE hj
def af0(m:List<|List Iv)(p x T n:Nat):Bx.le (.row true T n 7 λi' j'=>if i'=x+1/\0<=j'/\j'<0+7 then(jt<|qg m p x m.length).getD (j'-0) .any else uI (pP m p x) i' j')<|.row true T n 7<|uI<|pP m p<|x+1:=
 UU (show(if x+1=x+1 then _ else _)=_ by rw[aY rfl];rfl) λi j hi hj=>by
  show E.le (uI (pP m p x) i j) ((jt<|if i=x+1 then _ else pP m p x i).getD j .any);rw[aX hi];exact .refl _
section
variable{m:List<|List Iv}{p x c:Nat}
def an3(h:(x+1)/2^c%2=0):qg m p x (c+1)=qg m p x c:=by
 show(if _ then _ else _)=_;rw[aY h];rfl
def an2(h:¬(x+1)/2^c%2=0)(q:¬(kO (x+1) m.length-1+kO (x+1) c)%2=1):qg m p x (c+1)=je (qg m p x c) (iL ((m.getD (kO (x+1) m.length-1) []).getD c ik) (pP m p x<|x+1-2^c) p) p:=by
 show(if _ then _ else _)=_;rw[aX h,aX q];rfl
def an1(h:¬(x+1)/2^c%2=0)(q:(kO (x+1) m.length-1+kO (x+1) c)%2=1):qg m p x (c+1)=je (qg m p x c) (oO<|iL ((m.getD (kO (x+1) m.length-1) []).getD c ik) (pP m p x<|x+1-2^c) p) p:=by
 show(if _ then _ else _)=_;rw[aX h,aY q];rfl
end
def akf{a b r:Rat}{A B:Iv}(hA:nd (EQ a) A)(hB:nd (EQ b) B)(h1:a<=r)(h2:r<=b):nd (EQ r)<|tp A B:=by
 unfold tp;cases aa:A.all with
 |true=>exact nd.all rfl
 |false=>
  cases ba:B.all with
  |true=>exact nd.all rfl
  |false=>
   have hle:A.lo.q<=B.hi.q:=Qo hA hB (λε hε=>Gy (bw h1 h2) hε) aa ba;intro ε hε;obtain⟨N1,k1⟩:=hA (ε/2) aK;obtain⟨N2,k2⟩:=hB (ε/2) aK;obtain⟨N3,k3⟩:=Gy h1 (show 0<ε/2 by grind);obtain⟨N4,k4⟩:=Gy h2 (show 0<ε/2 by grind);refine⟨N1+N2+N3+N4,λN hN=>?_⟩;obtain⟨u,u1,u2⟩:=k1 N aC;obtain⟨v,v1,v2⟩:=k2 N aC;have w1:=k3 N aC;have w2:=k4 N aC;have u3:=u1.jj aa;have v3:=v1.jj ba;obtain⟨_,a2,a3,_⟩:=kU<|EQ a N-u;obtain⟨_,b2,b3,_⟩:=kU<|EQ b N-v;have lo:A.lo.q-ε<=EQ r N:= aK ;have hi:EQ r N<=B.hi.q+ε:= aK ;show ∃ r',(⟨A.lo,B.hi,false⟩:Iv).jr r'/\_;by_cases c1:EQ r N<=A.lo.q
   .exact ⟨A.lo.q,.inr ⟨bV,hle⟩,tZ aK aK⟩
   .by_cases c2:B.hi.q<=EQ r N
    .exact ⟨B.hi.q,.inr ⟨hle,bV⟩,tZ aK aK⟩
    .exact ⟨EQ r N,.inr ⟨by show A.lo.q<=_;grind,by show _<=B.hi.q;grind⟩,tZ aK aK⟩
section
variable(m:List<|List Iv)
def Uy(p:Nat)(x:Nat):PS:=⟨103,true,[(8,.e<|iP ((x+1:Nat):Int)),(7,.own 28),(6,.e<|iP m.length),(4,.box 4 0),(0,.e<|jb m),(1,.e<|iP p)],[(28,.row true 41 (2^m.length) 7<|uI<|pP m p x),(4,.cells 41 au)]⟩
def Uw(p x:Nat)(c:Nat):PS:=⟨103,true,[(42,.e<|iP c),(41,.e<|iP m.length),(11,.e<|iP 0),(9,.e<|iP (kO (x+1) c:Int)),(10,.box 10 0),(8,.e<|iP ((x+1:Nat):Int)),(7,.own 28),(6,.e<|iP m.length),(4,.box 4 0),(0,.e<|jb m),(1,.e<|iP p)],[(10,.cells 41<|jt<|iJ iR),(28,.row true 41 (2^m.length) 7<|uI<|pP m p x),(4,.cells 41 au)]⟩
def Ux(p x:Nat)(c:Nat):PS:=⟨103,true,[(53,.e<|iP c),(52,.e<|iP m.length),(11,.e<|iP (kO (x+1) c:Int)),(9,.e<|iP (kO (x+1) m.length:Int)),(10,.box 10 0),(8,.e<|iP ((x+1:Nat):Int)),(7,.own 28),(6,.e<|iP m.length),(4,.box 4 0),(0,.e<|jb m),(1,.e<|iP p)],[(10,.cells 41<|jt<|qg m p x c),(28,.row true 41 (2^m.length) 7<|uI<|pP m p x),(4,.cells 41 au)]⟩
def akc(n p:Nat)(hm:jO m n n)(iu:8<=p)(ie:p<=512):ic 23 [jb m,iP p]<|.ix [im<|C9 m p,iP 0]:=by
 have m1:=hm.iT;have m2:=hm.n1;have m8:=hm.n8;obtain⟨dv,sv⟩:=Uz hm (aC:1<=p) (aC:p<=4096);have n256:2^m.length<=2^8:=bO aE aC;have n0:1<=2^m.length:=Nat.one_le_two_pow;have o1:=Q6;have z1:=qu;exact iy (ae [.c<|akd (p:Int),ah 16 (kT (p:Int))<|pH.2 ⟨aC,aC⟩,.c<|ake m _ hm,.a (aC:0<=((m.length:Int):Int)/\((m.length:Int):Int)<=((64:Nat):Int)),.o 27<|aq (IntKind.i64.wrap<|1*2^m.length) ((2^m.length:Nat):Int)<|JH _ aC,.a (aC:0<=(((2^m.length:Nat):Int):Int)/\(((2^m.length:Nat):Int):Int)<=(((2^m.length:Nat):Int):Int)),.a (aC:((88:Nat):Int)*((2^m.length:Nat):Int)<=281474976710656/\(((2^m.length:Nat):Int):Int)<=9223372036854775807),.c<|qY 1,.c<|rO (iU 1) aD,
  iX 0 (2^m.length),.a (aC:0<(2^m.length)),.s (Sp.jX (Uy m p) 0 (2^m.length-1) aC (λx hx mH=>by
    have PY:x+1<256:= aC ;have hxn:x+1<2^m.length:= aC ;have v0:=sv x m.length aC;exact iS (ae [.a (aC:0<=((m.length:Int):Int)/\((m.length:Int):Int)<=((64:Nat):Int)),.o 35<|aq (IntKind.i64.wrap<|1*2^m.length) ((2^m.length:Nat):Int)<|JH _ aC,tT 36 (((x+1:Nat):Int)<((2^m.length:Nat):Int)) aC,.o 39 (.e tc:aj (.agg ar)<|iw iR),.c<|rO iR aD,.s (Sp.jX (Uw m p x) 0 m.length aC (λc hc PE=>by
    have A6:=Ga (x+1) c;exact iS (ae [tT 43 ((c:Int)<m.length) aC,.a (aC:0<=((c:Int):Int)/\((c:Int):Int)<=((64:Nat):Int)),.o 48<|aq (((x+1:Nat):Int)/2^c) (((x+1)/2^c:Nat):Int)<|aa7 _ _,.o 49<|aq (bits .and .i64 (((x+1)/2^c:Nat):Int) 1) (((x+1)/2^c%2:Nat):Int)<|XG _<|UL PY,
     iD ((kO (x+1) c:Int)+(((x+1)/2^c%2:Nat):Int)),iD<|(c:Int)+1]<|.e<|af [.o 9<|aq (((kO (x+1) c)+((x+1)/2^c%2):Nat):Int) (kO (x+1)<|c+1:Int) rfl]) aF)
  (λhc=>by
    exact iS (af [tF 43 ((m.length:Int)<m.length) aC]) aF) aI:jW 11 Tryz.f23 (Uw m p x 0) (.exit 2) ⟨103,true,[(11,.e<|iP 0),(9,.e<|iP (kO (x+1) m.length:Int)),(10,.box 10 0),(8,.e<|iP ((x+1:Nat):Int)),(7,.own 28),(6,.e<|iP m.length),(4,.box 4 0),(0,.e<|jb m),(1,.e<|iP p)],[(10,.cells 41<|jt<|iJ iR),(28,.row true 41 (2^m.length) 7<|uI<|pP m p x),(4,.cells 41 au)]⟩)<|af [.o 9<|aq 0 (kO (x+1) 0:Int) rfl],.s (Sp.jX (Ux m p x) 0 m.length aC (λc hc PE=>by
    exact iS (ae [tT 54 ((c:Int)<m.length) aC,.a (aC:0<=((c:Int):Int)/\((c:Int):Int)<=((64:Nat):Int)),.o 58<|aq (((x+1:Nat):Int)/2^c) (((x+1)/2^c:Nat):Int)<|aa7 _ _,.o 59<|aq (bits .and .i64 (((x+1)/2^c:Nat):Int) 1) (((x+1)/2^c%2:Nat):Int)<|XG _<|UL PY]<|.w (((x+1)/2^c%2)=0)
     (λhb=>by
      have xn:kO (x+1) (c+1)=kO (x+1) c+(x+1)/2^c%2:=rfl;have sS:=an3 (m:=m) (p:=p) hb;exact ae [ah 60 ((((x+1)/2^c%2:Nat):Int)==0)<|aT aC,iD<|(c:Int)+1]<|.e<|af [.o 11<|aq (kO (x+1) c:Int) (kO (x+1)<|c+1:Int),.b 10 (.jP<|by rw[sS]:Bx.le (.cells 41<|jt<|qg m p x c)<|.cells 41<|jt<|qg m p x<|c+1)])
     (λhb=>by
      have xn:kO (x+1) (c+1)=kO (x+1) c+(x+1)/2^c%2:=rfl;have A6:=Ga (x+1) c;have qb:=adP PE hb;have hr3:=Ga (x+1) m.length;have hr4:=hm.mQ (show(kO (x+1) m.length)-1<n by omega);have hr5:=adQ (c:=c) hxn;have v1:=He hm ((kO (x+1) m.length)-1) c;have v2:=dv x<|x+1-2^c;have v3:=sv x c aC;have v4:=lE ((m.getD ((kO (x+1) m.length)-1) []).getD c ik) (pP m p x<|x+1-2^c) (aC:1<=p) (aC:p<=4096);have v5:=rU v4;exact ae [ai 60 ((((x+1)/2^c%2:Nat):Int)==0)<|aS aC,iD<|(kO (x+1) m.length:Int)-1,.o 63<|aq ((kO (x+1) m.length:Int)-1) (((kO (x+1) m.length)-1:Nat):Int),iX (((kO (x+1) m.length)-1:Nat):Int)<|m.length,
       iX (c:Int) ((m.getD ((kO (x+1) m.length)-1) []).length),.a (aC:0<=((c:Int):Int)/\((c:Int):Int)<=((64:Nat):Int)),.o 72<|aq (IntKind.i64.wrap<|1*2^c) ((2^c:Nat):Int)<|JH c aC,.o 73<|aq (bits .andNot .i64 ((x+1:Nat):Int) ((2^c:Nat):Int)) ((x+1-2^c:Nat):Int)<|aol _ PY c aC hb,
       iX ((x+1-2^c:Nat):Int) (2^m.length),.a (aC:(x+1-2^c)<(2^m.length)),.c<|qp ((m.getD ((kO (x+1) m.length)-1) []).getD c ik) (pP m p x<|x+1-2^c) p aD aD,iD<|(kO (x+1) m.length:Int)-1,.o 79<|aq ((kO (x+1) m.length:Int)-1) (((kO (x+1) m.length)-1:Nat):Int),
       iD ((((kO (x+1) m.length)-1:Nat):Int)+(kO (x+1) c:Int)),.a (aC:0<(2:Int))]<|.w ((((kO (x+1) m.length)-1+kO (x+1) c)%2)=1)
       (λhq=>by
        have sS:=an1 (m:=m) (p:=p) hb hq;exact ae [ah 83 ((((((kO (x+1) m.length)-1)+(kO (x+1) c))%2:Nat):Int)==1)<|aT aC,.c<|IG (iL ((m.getD ((kO (x+1) m.length)-1) []).getD c ik) (pP m p x<|x+1-2^c) p) aD,.c<|uH (qg m p x c) (oO<|iL ((m.getD ((kO (x+1) m.length)-1) []).getD c ik) (pP m p x<|x+1-2^c) p) p aD aD,
         iD ((kO (x+1) c:Int)+1),iD<|(c:Int)+1]<|.e<|af [.o 11<|aq (((kO (x+1) c)+1:Nat):Int) (kO (x+1)<|c+1:Int),.b 10 (.jP<|by rw[sS]:Bx.le (.cells 41<|jt<|je (qg m p x c) (oO<|iL ((m.getD ((kO (x+1) m.length)-1) []).getD c ik) (pP m p x<|x+1-2^c) p) p)<|.cells 41<|jt<|qg m p x<|c+1)])
       (λhq=>by
        have sS:=an2 (m:=m) (p:=p) hb hq;exact ae [ai 83 ((((((kO (x+1) m.length)-1)+(kO (x+1) c))%2:Nat):Int)==1)<|aS aC,.c<|uH (qg m p x c) (iL ((m.getD ((kO (x+1) m.length)-1) []).getD c ik) (pP m p x<|x+1-2^c) p) p aD aD,iD<|(kO (x+1) c:Int)+1,
         iD ((c:Int)+1)]<|.e<|af [.o 11<|aq (((kO (x+1) c)+1:Nat):Int) (kO (x+1)<|c+1:Int),.b 10 (.jP<|by rw[sS]:Bx.le (.cells 41<|jt<|je (qg m p x c) (iL ((m.getD ((kO (x+1) m.length)-1) []).getD c ik) (pP m p x<|x+1-2^c) p) p)<|.cells 41<|jt<|qg m p x<|c+1)]))) aF)
  (λhc=>by
    exact iS (af [tF 54 ((m.length:Int)<m.length) aC]) aF) aI:jW 16 Tryz.f23 (Ux m p x 0) (.exit 4) ⟨103,true,[(10,.box 10 0),(8,.e<|iP ((x+1:Nat):Int)),(7,.own 28),(6,.e<|iP m.length),(4,.box 4 0),(0,.e<|jb m),(1,.e<|iP p)],[(10,.cells 41<|jt<|qg m p x m.length),(28,.row true 41 (2^m.length) 7<|uI<|pP m p x),(4,.cells 41 au)]⟩)<|af [.o 11<|aq 0 (kO (x+1) 0:Int) rfl,.b 10 (.refl _:Bx.le (.cells 41<|jt<|iJ iR)<|.cells 41<|jt<|qg m p x 0)],
     iX ((x+1:Nat):Int) (2^m.length),.a (aC:(x+1)<(2^m.length)),iD<|((x+1:Nat):Int)+1]<|.e<|af [.b 28 (af0 m p _ _ _:Bx.le (.row true 41 (2^m.length) 7 λi' j'=>if i'=(x+1)/\0<=j'/\j'<0+7 then[bP<|((qg m p x m.length).lo).neg,il<|ib<|((qg m p x m.length).lo).m,iP<|((qg m p x m.length).lo).e,bP<|((qg m p x m.length).hi).neg,il<|ib<|((qg m p x m.length).hi).m,iP<|((qg m p x m.length).hi).e,bP<|(qg m p x m.length).all].getD (j'-0) .any else(uI<|pP m p x) i' j')<|.row true 41 (2^m.length) 7<|uI<|pP m p<|x+1)]) aF)
  (λhx=>by
    exact iS (af [.a (aC:0<=((m.length:Int):Int)/\((m.length:Int):Int)<=((64:Nat):Int)),.o 35<|aq (IntKind.i64.wrap<|1*2^m.length) ((2^m.length:Nat):Int)<|JH _ aC,tF 36 ((((2^m.length-1)+1:Nat):Int)<((2^m.length:Nat):Int)) aC]) aF) aI:jW 7 Tryz.f23 (Uy m p 0) (.exit 0) ⟨103,true,[(7,.own 28),(6,.e<|iP m.length),(4,.box 4 0)],[(28,.row true 41 (2^m.length) 7<|uI<|pP m p<|2^m.length-1),(4,.cells 41 au)]⟩)<|af [.o 8<|aq 1 ((0+1:Nat):Int),.b 28 (afZ m p _ _:Bx.le (.row true 41 (2^m.length) 7 λi' j'=>if i'=0/\0<=j'/\j'<0+7 then[bP<|((iJ<|iU 1).lo).neg,il<|ib<|((iJ<|iU 1).lo).m,iP<|((iJ<|iU 1).lo).e,bP<|((iJ<|iU 1).hi).neg,il<|ib<|((iJ<|iU 1).hi).m,iP<|((iJ<|iU 1).hi).e,bP<|(iJ<|iU 1).all].getD (j'-0) .any else(λ_ j_=>au.getD j_ .any) i' j')<|.row true 41 (2^m.length) 7<|uI<|pP m p 0)],.a (aC:0<=((m.length:Int):Int)/\((m.length:Int):Int)<=((64:Nat):Int)),.o 99<|aq (IntKind.i64.wrap<|1*2^m.length) ((2^m.length:Nat):Int)<|JH _ aC,iD<|((2^m.length:Nat):Int)-1,.o 100<|aq (((2^m.length:Nat):Int)-1) ((2^m.length-1:Nat):Int),iX ((2^m.length-1:Nat):Int)<|2^m.length,.a (aC:(2^m.length-1)<(2^m.length))]<|rR (.ix [im<|C9 m p,iP 0]) (.refl _:E.le (.ix [im<|pP m p (2^m.length-1)<|2^m.length-1,iP 0])<|.ix [im<|C9 m p,iP 0]))
end
abbrev ri(a:List<|List Iv)(b:List<|List Iv)(p):=λi j=>pO (λq=>(a.getD i []).getD q ik) (λq=>(b.getD q []).getD j ik) p<|(a.getD i []).length-1
abbrev Sr(a:List<|List Iv)(x)(b:List<|List Iv)(k)(p):=pO (λq=>(a.getD x []).getD q ik) (λq=>(b.getD q []).getD k ik) p<|(a.getD x []).length-1
def UR(r:List Iv)(g:FuncId)(cap:List E)(Y:Nat->Iv)(p:Nat)(c:Nat):PS:=⟨35,true,[(8,.e<|iP ((c+1:Nat):Int)),(7,.box 7 0),(6,.box 6 0),(0,.e<|iA r),(1,.e<|.fn g cap),(2,.e<|iP p)],[(7,.cells 41<|jt<|pO (λq=>r.getD q ik) Y p c),(6,.cells 41 au)]⟩
section
variable(a b:List<|List Iv)(p:Nat)(x:Nat)
def YX:PS:=⟨66,true,[(37,.e<|iP x),(36,.e<|iP a.length),(8,.own 34),(4,.box 4 0),(0,.e<|jb a),(2,.e<|iP p)],[(34,.iT true 23 41 a.length 7 (jK<|jB a.length (λ_=>(b.getD 0 []).length) (ri a b p) x 0) (kF<|jB a.length (λ_=>(b.getD 0 []).length) (ri a b p) x 0) .none),(4,.cells 49 [jb b])]⟩
def YY(k:Nat):PS:=⟨66,true,[(44,.e<|iP k),(43,.e<|iP ((b.getD 0 []).length:Int)),(9,.e<|iP x),(37,.e<|iP x),(36,.e<|iP a.length),(8,.own 34),(4,.box 4 0),(0,.e<|jb a),(2,.e<|iP p)],[(34,.iT true 23 41 a.length 7 (jK<|jB a.length (λ_=>(b.getD 0 []).length) (ri a b p) x k) (kF<|jB a.length (λ_=>(b.getD 0 []).length) (ri a b p) x k) .none),(4,.cells 49 [jb b])]⟩
end
def afX(r:List Iv)(g:FuncId)(cap:List E)(Y:Nat->Iv)(p:Nat)(hl:r.length<=1000)(h0:0<r.length)(hr:∀ i,i<r.length->(r.getD i ik).ig)(hy:∀ i,(Y i).ig)(hg:∀ i,i<r.length->ic g (iP (i:Int)::cap) (im<|Y i))(iu:8<=p)(ie:p<=512):ic 165 [iA r,.fn g cap,iP p]<|im<|pO (λq=>r.getD q ik) Y p<|r.length-1:=by
 have w1:=hr 0 h0;have w2:=hy 0;exact iy (af [iX 0<|r.length,.c (hg 0 aC:ic g ((iP 0)::cap) _),.c<|qp (r.getD 0 ik) (Y 0) p aD aD,.s (Sp.jX (UR r g cap Y p) 0 (r.length-1) aC (λc hc PE=>by
    have w1:=hr (c+1) aC;have w2:=hy<|c+1;have w3:=Hb (λq=>r.getD q ik) Y (aC:1<=p) aC c;have w4:=lE (r.getD (c+1) ik) (Y<|c+1) (aC:1<=p);exact iS (ae [tT 19 (((c+1:Nat):Int)<r.length) aC,iX ((c+1:Nat):Int)<|r.length,.c (hg (c+1) aC:ic g ((iP ((c+1:Nat):Int))::cap) _),.c<|qp (r.getD (c+1) ik) (Y<|c+1) p aD aD,.c<|uH (pO (λq=>r.getD q ik) Y p c) (iL (r.getD (c+1) ik) (Y<|c+1) p) p aD aD,iD<|((c+1:Nat):Int)+1]<|.e<|af [.b 7<|.refl<|.cells 41<|jt<|pO (λq=>r.getD q ik) Y p<|c+1]) aF)
  (λhc=>by
    exact iS (af [tF 19 ((((r.length-1)+1:Nat):Int)<r.length) aC]) aF) aI:jW 3 f165 (UR r g cap Y p 0) (.exit 0) ⟨35,true,[(7,.box 7 0),(6,.box 6 0)],[(7,.cells 41<|jt<|pO (λq=>r.getD q ik) Y p<|r.length-1),(6,.cells 41 au)]⟩)<|af [.o 8<|aq 1 ((0+1:Nat):Int) aO,.b 7<|.refl<|.cells 41<|jt<|pO (λq=>r.getD q ik) Y p 0]])
def akY(q j:Nat)(b:List<|List Iv)(hq:q<b.length)(hj:j<(b.getD q []).length):ic 166 [iP q,(.ji 1 λj_=>[jb b].getD j_ .any),(.ji 1 λj_=>[iP j].getD j_ .any)]<|im<|(b.getD q []).getD j ik:=
 iy (af [iX (q:Int)<|b.length,iX (j:Int)<|(b.getD q []).length])
def YD(a b:List<|List Iv)(p:Nat)(n k c:Nat)(ga:jO a n k)(gb:jO b k c)(iu:8<=p)(ie:p<=512):ic 97 [jb a,jb b,iP p]<|.ix [jb<|sd a b p,iP 0]:=by
 have ra:=ga.iT;have rb:=gb.iT;have n1:=ga.n1;have n8:=ga.n8;have kk1:=ga.k1;have kk8:=ga.k8;have cc8:=gb.k8;have la:=ga.mQ (aC:0<n);have lb:=gb.mQ (aC:0<k);have ew:rj a.length (λ_=>(b.getD 0 []).length) (λi j=>pO (λq=>(a.getD i []).getD q ik) (λq=>(b.getD q []).getD j ik) p<|(a.getD i []).length-1)=sd a b p:=by
  rw[<-aca (n:=n) (k:=k-1) (c:=c) (a:=a) (b:=b) (p:=p) ra (λi hi=>by rw[ga.mQ hi];omega) aC lb,ra,lb];unfold rj;apply ef;intro i hi;have e:=ga.mQ<|bS.1 hi;simp only[e]
 exact iy (ae [.c<|yI a _ _ aD,.c<|yI b _ _ aD,.c<|FO (p:Int),ah 22 (kT (p:Int))<|pH.2 ⟨aC,aC⟩,iX 0<|a.length,ai 31 (((a.getD 0 []).length:Int) != (b.length:Int))<|vt,.a (aC:0<=((a.length:Int):Int)/\((a.length:Int):Int)<=((a.length:Int):Int)),.a (aC:((24:Nat):Int)*(a.length:Int)<=281474976710656/\((a.length:Int):Int)<=9223372036854775807),.s (Sp.jX (YX a b p) 0 a.length aC (λx hx mH=>by
    have lax:=ga.mQ (aC:x<n);exact iS (ae [tT 38 ((x:Int)<a.length) aC,iX 0<|b.length,.s (Sp.jX (YY a b p x) 0 ((b.getD 0 []).length) aC (λk hk tA=>by
    have hle:jK (jB a.length (λ_=>(b.getD 0 []).length) (λi j=>pO (λq=>(a.getD i []).getD q ik) (λq=>(b.getD q []).getD j ik) p<|(a.getD i []).length-1) x k) x=k:=Qs aC ;have h1:=qH<|pO (λq=>(a.getD x []).getD q ik) (λq=>(b.getD q []).getD k ik) p<|(a.getD x []).length-1;exact iS (ae [tT 45 ((k:Int)<((b.getD 0 []).length:Int)) aC,iX (x:Int)<|a.length,.a (aC:x<a.length),iX (x:Int)<|a.length,.c<|afX (a.getD x []) 166 [(.ji 1 λj_=>[jb b].getD j_ .any),(.ji 1 λj_=>[iP k].getD j_ .any)] (λq=>(b.getD q []).getD k ik) p aC aC (λq hq=>ga.sJ aC<|by rw[lax]at hq;exact hq) (λq=>He gb q k) (λq hq=>akY q k b aC<|by rw[gb.mQ aC];omega) aC aC,.o 60<|.e<|lW<|Sr a x b k p,.a (aC:x<a.length),.a (aC:((jK<|jB a.length (λ_=>(b.getD 0 []).length) (λi j=>pO (λq=>(a.getD i []).getD q ik) (λq=>(b.getD q []).getD j ik) p<|(a.getD i []).length-1) x k) x+[pO (λq=>(a.getD x []).getD q ik) (λq=>(b.getD q []).getD k ik) p<|(a.getD x []).length-1].length)*88<=140737488355328),
     iX (x:Int) (a.length),.a (rfl:x=x),.a (rfl:x=x),.a (aC:x<a.length),iD<|(k:Int)+1]<|.e<|af [.b 34 (Mw rfl aC aC rfl:Bx.le (.iT true 23 41 a.length 7 (λq=>if q=x then(jK<|jB a.length (λ_=>(b.getD 0 []).length) (ri a b p) x k) q+[Sr a x b k p].length else(jK<|jB a.length (λ_=>(b.getD 0 []).length) (ri a b p) x k) q) (λq i j=>if q=x then(if i<(jK<|jB a.length (λ_=>(b.getD 0 []).length) (ri a b p) x k) q then(kF<|jB a.length (λ_=>(b.getD 0 []).length) (ri a b p) x k) q i j else(E.ng<|iA [Sr a x b k p]) (i-(jK<|jB a.length (λ_=>(b.getD 0 []).length) (ri a b p) x k) q) j)else(kF<|jB a.length (λ_=>(b.getD 0 []).length) (ri a b p) x k) q i j) .none)<|.iT true 23 41 a.length 7 (jK<|jB a.length (λ_=>(b.getD 0 []).length) (ri a b p) x<|k+1) (kF<|jB a.length (λ_=>(b.getD 0 []).length) (ri a b p) x<|k+1) .none)]) aF)
  (λhk=>by
    exact iS (af [tF 45 (((b.getD 0 []).length:Int)<((b.getD 0 []).length:Int)) aC]) aF) aI:jW 12 Tryz.f97 (YY a b p x 0) (.exit 3) ⟨66,true,[(37,.e<|iP x),(36,.e<|iP a.length),(8,.own 34),(4,.box 4 0),(0,.e<|jb a),(2,.e<|iP p)],[(34,.iT true 23 41 a.length 7 (jK<|jB a.length (λ_=>(b.getD 0 []).length) (ri a b p) x<|(b.getD 0 []).length) (kF<|jB a.length (λ_=>(b.getD 0 []).length) (ri a b p) x<|(b.getD 0 []).length) .none),(4,.cells 49 [jb b])]⟩) .nil,
     iD ((x:Int)+1)]<|.e<|af [.b 34 (RM rfl:Bx.le (.iT true 23 41 a.length 7 (jK<|jB a.length (λ_=>(b.getD 0 []).length) (ri a b p) x<|(b.getD 0 []).length) (kF<|jB a.length (λ_=>(b.getD 0 []).length) (ri a b p) x<|(b.getD 0 []).length) .none)<|.iT true 23 41 a.length 7 (jK<|jB a.length (λ_=>(b.getD 0 []).length) (ri a b p) (x+1) 0) (kF<|jB a.length (λ_=>(b.getD 0 []).length) (ri a b p) (x+1) 0) .none)]) aF)
  (λhx=>by
    exact iS (af [tF 38 ((a.length:Int)<a.length) aC]) aF) aI:jW 9 Tryz.f97 (YX a b p 0) (.exit 1) ⟨66,true,[(8,.own 34)],[(34,.iT true 23 41 a.length 7 (jK<|jB a.length (λ_=>(b.getD 0 []).length) (ri a b p) a.length 0) (kF<|jB a.length (λ_=>(b.getD 0 []).length) (ri a b p) a.length 0) .none)]⟩)<|af [.b 34 (RL rfl:Bx.le (.iT true 23 41 a.length 7 (λ_=>0) (λ_ _ _=>.any) .none)<|.iT true 23 41 a.length 7 (jK<|jB a.length (λ_=>(b.getD 0 []).length) (ri a b p) 0 0) (kF<|jB a.length (λ_=>(b.getD 0 []).length) (ri a b p) 0 0) .none)]]<|rR (.ix [jb<|sd a b p,iP 0]) (by
      rw[<-ew,<-NG];exact .ix (.cons (LO (NH _ _ _ _ _).symm)<|.cons (.refl _) .nil):E.le (.ix [(.sl true a.length 1 λk_ _=>.sl true ((jK<|jB a.length (λ_=>(b.getD 0 []).length) (λi j=>pO (λq=>(a.getD i []).getD q ik) (λq=>(b.getD q []).getD j ik) p<|(a.getD i []).length-1) a.length 0) k_) 7<|(kF<|jB a.length (λ_=>(b.getD 0 []).length) (λi j=>pO (λq=>(a.getD i []).getD q ik) (λq=>(b.getD q []).getD j ik) p<|(a.getD i []).length-1) a.length 0) k_),iP 0])<|.ix [jb<|sd a b p,iP 0]))
def anT(i j:Nat)(x y:Iv)(p:Nat)(hx:x.ig)(hy:y.ig)(iu:8<=p)(ie:p<=512):ic 168 [iP i,iP j,im y,(.ji 7 λj_=>[bP x.lo.neg,il<|ib x.lo.m,iP x.lo.e,bP x.hi.neg,il<|ib x.hi.m,iP x.hi.e,bP x.all].getD j_ .any),(.ji 1 λj_=>[iP p].getD j_ .any)]<|im<|iL x y p:=
 iy (af [.c<|qp x y p aD aD])
def YF(a:List<|List Iv)(x:Iv)(n k p:Nat)(ga:jO a n k)(hx:x.ig)(iu:8<=p)(ie:p<=512):ic 98 [jb a,im x,iP p]<|jb<|uR a x p:=by
 have ra:=ga.iT;have n8:=ga.n8;exact iy<|ae [.c<|yI a _ _ aD,.c<|pe x aD,.c<|FO (p:Int),ah 17 (kT (p:Int))<|pH.2 ⟨aC,aC⟩,.c<|YB a 168 [(.ji 7 λj_=>[bP x.lo.neg,il<|ib x.lo.m,iP x.lo.e,bP x.hi.neg,il<|ib x.hi.m,iP x.hi.e,bP x.all].getD j_ .any),(.ji 1 λj_=>[iP p].getD j_ .any)] (λi j=>iL x ((a.getD i []).getD j ik) p) aC (λi=>bg (ga.IP i) aE) λi j hi hj=>anT _ _ _ _ _ hx (ga.sJ aC<|by rw[ga.mQ aC]at hj;exact hj) iu ie]<|rQ (jb<|rj a.length (λq=>(a.getD q []).length) λi j=>iL x ((a.getD i []).getD j ik) p) (jb<|uR a x p)<|by rw[acb]
def Fp.CE:Dy:=⟨false,1,0⟩
def alG:CE.ig:=by have:=zI 1 aE;rw[xv]at this;exact this
def XI(n:Nat)(x:Nat):PS:=⟨42,true,[(17,.e<|iP x),(16,.e<|iP n),(3,.own 14),(0,.e<|iP n)],[(14,.iT true 23 41 n 7 (jK<|jB n (λ_=>n) (λi j=>iJ<|if i=j then⟨false,1,0⟩else iR) x 0) (kF<|jB n (λ_=>n) (λi j=>iJ<|if i=j then⟨false,1,0⟩else iR) x 0) .none)]⟩
def XJ(n x:Nat)(k:Nat):PS:=⟨42,true,[(21,.e<|iP k),(20,.e<|iP n),(4,.e<|iP x),(17,.e<|iP x),(16,.e<|iP n),(3,.own 14),(0,.e<|iP n)],[(14,.iT true 23 41 n 7 (jK<|jB n (λ_=>n) (λi j=>iJ<|if i=j then⟨false,1,0⟩else iR) x k) (kF<|jB n (λ_=>n) (λi j=>iJ<|if i=j then⟨false,1,0⟩else iR) x k) .none)]⟩
def E4(n:Nat)(h:n<4294967296:=by omega):ic 71 [iP n]<|iw<|iU (n:Int):=by
 have ok2:iQ [n%4294967296,n/4294967296%4294967296]:=iQ.cons (bJ _ aE)<|iQ.cons (bJ _ aE) iQ.nil;exact iy<|ae [.o 5 (.int<|sI _:aj (.v<|.int .u64<|IntKind.u64.wrap (n:Int))<|.v<|.int .u64 (n:Int)),tF 7 ((n:Int)<0) aC,tF 11 ((n:Int)<0) aC,.o 13 (.int<|Al _:aj (.v<|.int .u32<|IntKind.u32.wrap (n:Int))<|.v<|.int .u32 ((n%4294967296:Nat):Int)),.a (aC:0<=(32:Int)/\(32:Int)<=((64:Nat):Int)),.o 15 (.int<|MD _:aj (.v<|.int .u64<|(n:Int)/2^32)<|.v<|.int .u64 ((n/4294967296:Nat):Int)),.o 16 (.int<|Al _:aj (.v<|.int .u32<|IntKind.u32.wrap ((n/4294967296:Nat):Int))<|.v<|.int .u32 (((n/4294967296)%4294967296:Nat):Int)),.o 17 (.e<|Sh _ _:aj (.sl false 2 1 λi_ j_=>[.v<|.int .u32 ((n%4294967296:Nat):Int),.v<|.int .u32 (((n/4294967296)%4294967296:Nat):Int)].getD (i_*1+j_)<|.v<|.bool false)<|il [n%4294967296,(n/4294967296)%4294967296]),.c<|UW false [n%4294967296,(n/4294967296)%4294967296] 0 ok2 aH aE aE]<|rQ (iw<|canon false (val [n%4294967296,(n/4294967296)%4294967296]) 0) (iw<|iU (n:Int))<|by rw[abZ,(aC:n%4294967296+4294967296*(n/4294967296%4294967296)=n),xv]
def Aa(n:Nat)(h:n<4294967296:=by omega):ic 100 [iP n]<|im<|iF (n:Int):=by
 have v:=zI n h;exact iy<|af [.c<|E4 n,.c<|rO (iU (n:Int)) aD]
def YC(n:Nat)(h1:1<=n)(h8:n<=8):ic 96 [iP n]<|jb<|zF n:=by
 have v1:=alG;have v0:=qu;have int1:ic 71 [iP 1]<|iw CE:=E4 1 aE;have int0:ic 71 [iP 0]<|iw iR:=E4 0 aE;have ew:rj n (λ_=>n) (λi j=>iJ<|if i=j then⟨false,1,0⟩else iR)=zF n:=rfl;exact iy (ae [tF 8 ((n:Int)<1) aC,tF 11 (8<(n:Int)) aC,.a (aC:0<=((n:Int):Int)/\((n:Int):Int)<=((n:Int):Int)),.a (aC:((24:Nat):Int)*(n:Int)<=281474976710656/\((n:Int):Int)<=9223372036854775807),.s (Sp.jX (XI n) 0 n aC (λx hx mH=>by
    exact iS (ae [tT 18 ((x:Int)<n) aC,.s (Sp.jX (XJ n x) 0 n aC (λk hk tA=>by
    have hle:jK (jB n (λ_=>n) (λi j=>iJ<|if i=j then⟨false,1,0⟩else iR) x k) x=k:=Qs aC ;by_cases c1:x=k
    .have h1:=qH<|iJ CE;exact iS (ae [tT 22 ((k:Int)<n) aC,ah 26 ((x:Int)==k)<|FP c1,iX (x:Int) n,.a (aC:x<n),ag [iP 1] int1,.c<|rO CE aD,.o 36<|.e<|lW<|iJ CE,.a (aC:x<n),.a (aC:((jK<|jB n (λ_=>n) (λi j=>iJ<|if i=j then⟨false,1,0⟩else iR) x k) x+[iJ CE].length)*88<=140737488355328),iX (x:Int) n,.a (rfl:x=x),.a (rfl:x=x),.a (aC:x<n),iD<|(k:Int)+1]<|.e<|af [.b 14 (Mw rfl aC aC (by rw[aY c1];rfl):Bx.le (.iT true 23 41 n 7 (λq=>if q=x then(jK<|jB n (λ_=>n) (λi j=>iJ<|if i=j then⟨false,1,0⟩else iR) x k) q+[iJ CE].length else(jK<|jB n (λ_=>n) (λi j=>iJ<|if i=j then⟨false,1,0⟩else iR) x k) q) (λq i j=>if q=x then(if i<(jK<|jB n (λ_=>n) (λi j=>iJ<|if i=j then⟨false,1,0⟩else iR) x k) q then(kF<|jB n (λ_=>n) (λi j=>iJ<|if i=j then⟨false,1,0⟩else iR) x k) q i j else(E.ng<|iA [iJ CE]) (i-(jK<|jB n (λ_=>n) (λi j=>iJ<|if i=j then⟨false,1,0⟩else iR) x k) q) j)else(kF<|jB n (λ_=>n) (λi j=>iJ<|if i=j then⟨false,1,0⟩else iR) x k) q i j) .none)<|.iT true 23 41 n 7 (jK<|jB n (λ_=>n) (λi j=>iJ<|if i=j then⟨false,1,0⟩else iR) x<|k+1) (kF<|jB n (λ_=>n) (λi j=>iJ<|if i=j then⟨false,1,0⟩else iR) x<|k+1) .none)]) aF 
    .have h1:=qH<|iJ iR;exact iS (ae [tT 22 ((k:Int)<n) aC,ai 26 ((x:Int)==k)<|Y4 c1,iX (x:Int) n,.a (aC:x<n),ag [iP 0] int0,.c<|rO iR aD,.o 36<|.e<|lW<|iJ iR,.a (aC:x<n),.a (aC:((jK<|jB n (λ_=>n) (λi j=>iJ<|if i=j then⟨false,1,0⟩else iR) x k) x+[iJ iR].length)*88<=140737488355328),iX (x:Int) n,.a (rfl:x=x),.a (rfl:x=x),.a (aC:x<n),iD<|(k:Int)+1]<|.e<|af [.b 14 (Mw rfl aC aC (by rw[aX c1]):Bx.le (.iT true 23 41 n 7 (λq=>if q=x then(jK<|jB n (λ_=>n) (λi j=>iJ<|if i=j then⟨false,1,0⟩else iR) x k) q+[iJ iR].length else(jK<|jB n (λ_=>n) (λi j=>iJ<|if i=j then⟨false,1,0⟩else iR) x k) q) (λq i j=>if q=x then(if i<(jK<|jB n (λ_=>n) (λi j=>iJ<|if i=j then⟨false,1,0⟩else iR) x k) q then(kF<|jB n (λ_=>n) (λi j=>iJ<|if i=j then⟨false,1,0⟩else iR) x k) q i j else(E.ng<|iA [iJ iR]) (i-(jK<|jB n (λ_=>n) (λi j=>iJ<|if i=j then⟨false,1,0⟩else iR) x k) q) j)else(kF<|jB n (λ_=>n) (λi j=>iJ<|if i=j then⟨false,1,0⟩else iR) x k) q i j) .none)<|.iT true 23 41 n 7 (jK<|jB n (λ_=>n) (λi j=>iJ<|if i=j then⟨false,1,0⟩else iR) x<|k+1) (kF<|jB n (λ_=>n) (λi j=>iJ<|if i=j then⟨false,1,0⟩else iR) x<|k+1) .none)]) aF)
  (λhk=>by
    exact iS (af [tF 22 ((n:Int)<n) aC]) aF) aI:jW 8 Tryz.f96 (XJ n x 0) (.exit 2) ⟨42,true,[(17,.e<|iP x),(16,.e<|iP n),(3,.own 14),(0,.e<|iP n)],[(14,.iT true 23 41 n 7 (jK<|jB n (λ_=>n) (λi j=>iJ<|if i=j then⟨false,1,0⟩else iR) x n) (kF<|jB n (λ_=>n) (λi j=>iJ<|if i=j then⟨false,1,0⟩else iR) x n) .none)]⟩) .nil,
     iD ((x:Int)+1)]<|.e<|af [.b 14 (RM rfl:Bx.le (.iT true 23 41 n 7 (jK<|jB n (λ_=>n) (λi j=>iJ<|if i=j then⟨false,1,0⟩else iR) x n) (kF<|jB n (λ_=>n) (λi j=>iJ<|if i=j then⟨false,1,0⟩else iR) x n) .none)<|.iT true 23 41 n 7 (jK<|jB n (λ_=>n) (λi j=>iJ<|if i=j then⟨false,1,0⟩else iR) (x+1) 0) (kF<|jB n (λ_=>n) (λi j=>iJ<|if i=j then⟨false,1,0⟩else iR) (x+1) 0) .none)]) aF)
  (λhx=>by
    exact iS (af [tF 18 ((n:Int)<n) aC]) aF) aI:jW 5 Tryz.f96 (XI n 0) (.exit 0) ⟨42,true,[(3,.own 14)],[(14,.iT true 23 41 n 7 (jK<|jB n (λ_=>n) (λi j=>iJ<|if i=j then⟨false,1,0⟩else iR) n 0) (kF<|jB n (λ_=>n) (λi j=>iJ<|if i=j then⟨false,1,0⟩else iR) n 0) .none)]⟩)<|af [.b 14 (RL rfl:Bx.le (.iT true 23 41 n 7 (λ_=>0) (λ_ _ _=>.any) .none)<|.iT true 23 41 n 7 (jK<|jB n (λ_=>n) (λi j=>iJ<|if i=j then⟨false,1,0⟩else iR) 0 0) (kF<|jB n (λ_=>n) (λi j=>iJ<|if i=j then⟨false,1,0⟩else iR) 0 0) .none)]]<|rR (jb<|zF n) (by
      rw[<-ew,<-NG];exact LO (NH _ _ _ _ _).symm:E.le (.sl true n 1 λk_ _=>.sl true ((jK<|jB n (λ_=>n) (λi j=>iJ<|if i=j then⟨false,1,0⟩else iR) n 0) k_) 7<|(kF<|jB n (λ_=>n) (λi j=>iJ<|if i=j then⟨false,1,0⟩else iR) n 0) k_)<|jb<|zF n))
abbrev sK(m:List<|List Iv)(x)(p):=kC (m.getD x []) p<|(m.getD x []).length
abbrev Ss:E:=.agg ar
section
variable(m:List<|List Iv)
abbrev Gt(x)(k):=kn<|(m.getD x []).getD k ik
def Zr(p:Nat)(x:Nat):PS:=⟨64,true,[(27,.e<|iP x),(26,.e<|iP m.length),(25,.e<|jb m),(6,.box 6 0),(4,.box 4 0),(1,.e<|iP p)],[(6,.cells 37<|jf<|kB m p x),(4,.cells 37 ar)]⟩
def xE(p x:Nat)(k:Nat):PS:=⟨64,true,[(33,.e<|iP k),(32,.e<|iP ((m.getD x []).length:Int)),(31,.e<|iA<|m.getD x []),(9,.box 9 0),(27,.e<|iP x),(26,.e<|iP m.length),(25,.e<|jb m),(6,.box 6 0),(4,.box 4 0),(1,.e<|iP p)],[(9,.cells 37<|jf<|kC (m.getD x []) p k),(6,.cells 37<|jf<|kB m p x),(4,.cells 37 ar)]⟩
def Zn(p N:Nat)(x:Nat):PS:=⟨64,true,[(27,.e<|iP x),(26,.e<|iP m.length),(25,.e<|jb m),(6,.box 6 0),(4,.box 4 0),(1,.e<|iP p)],[(6,.cells 37<|jf<|kB m p x),(4,.cells 37 ar)]⟩
def Zo(p N K:Nat)(k:Nat):PS:=⟨64,true,[(33,.e<|iP k),(32,.e<|iP ((m.getD N []).length:Int)),(31,.e<|iA<|m.getD N []),(9,.box 9 0),(27,.e<|iP N),(26,.e<|iP m.length),(25,.e<|jb m),(6,.box 6 0),(4,.box 4 0),(1,.e<|iP p)],[(9,.cells 37<|jf<|kC (m.getD N []) p k),(6,.cells 37<|jf<|kB m p N),(4,.cells 37 ar)]⟩
def Zp(p N:Nat)(x:Nat):PS:=⟨64,true,[(27,.e<|iP x),(26,.e<|iP m.length),(25,.e<|jb m),(6,.box 6 0),(4,.box 4 0),(1,.e<|iP p)],[(6,.cells 37<|jf<|kB m p x),(4,.cells 37 ar)]⟩
def Zq(p N K:Nat)(k:Nat):PS:=⟨64,true,[(33,.e<|iP k),(32,.e<|iP ((m.getD N []).length:Int)),(31,.e<|iA<|m.getD N []),(9,.box 9 0),(27,.e<|iP N),(26,.e<|iP m.length),(25,.e<|jb m),(6,.box 6 0),(4,.box 4 0),(1,.e<|iP p)],[(9,.cells 37<|jf<|kC (m.getD N []) p k),(6,.cells 37<|jf<|kB m p N),(4,.cells 37 ar)]⟩
end
def ajK(x:Iv)(hx:x.ig)(kJ:x.all=true):ic 160 [im x]<|.ix [iw iR,bP false]:=
 iy (af [.o 5<|.e<|lW x,.c<|qo x aD,ai 6 (!x.all)<|by rw[kJ];rfl,.o 8 (.e tc:aj Ss<|iw iR)])
section
variable(m:List<|List Iv)(n c p:Nat)(ga:jO m n c)(iu:8<=p)(ie:p<=512)
def aly(hg:∀ x,x<m.length->∀ k,k<(m.getD x []).length->pL (m.getD x []) p k):ic 161 [jb m,iP p]<|.ix [iw<|kB m p m.length,bP true]:=by
 have ra:=ga.iT;have n8:=ga.n8;have c8:=ga.k8;exact iy (af [.c<|yI m _ _ aD,.c<|FO (p:Int),ah 21 (kT (p:Int))<|pH.2 ⟨aC,aC⟩,.s (Sp.jX (Zr m p) 0 m.length aC (λx hx mH=>by
    have lx:=ga.mQ (aC:x<n);have u1:=s5 (m.getD x []) (aC:1<=p) aC (m.getD x []).length;have u2:=CB m (aC:1<=p) aC x;by_cases c1:0<jm (kC (m.getD x []) p<|(m.getD x []).length) (kB m p x)
    .exact iS (ae [tT 28 ((x:Int)<m.length) aC,iX (x:Int)<|m.length,.s (Sp.jX (xE m p x) 0 ((m.getD x []).length) aC (λk hk tA=>by
    have gg:=(hg x aC) k aC;have v1:=s5 (m.getD x []) (aC:1<=p) aC k;have v2:=ga.sJ (aC:x<n) (aC:k<c);have gga:=gg.all;have v3:=uL v2.jj.1 v2.jj.2;exact iS (ae [tT 34 ((k:Int)<((m.getD x []).length:Int)) aC,iX (k:Int)<|(m.getD x []).length,.c<|wo ((m.getD x []).getD k ik) aD gga,.c<|wE (kC (m.getD x []) p k) (Gt m x k) p aD aD,ai 53 ((jC (iM (kC (m.getD x []) p k)<|kn<|(m.getD x []).getD k ik) p true) != 0)<|by rw[gg.AJ];rfl,iD<|(k:Int)+1]<|.e<|af [.b 9<|.refl<|.cells 37<|jf<|kC (m.getD x []) p<|k+1]) aF)
  (λhk=>by
    exact iS (af [tF 34 (((m.getD x []).length:Int)<((m.getD x []).length:Int)) aC]) aF) aI:jW 9 f161 (xE m p x 0) (.exit 2) ⟨64,true,[(9,.box 9 0),(27,.e<|iP x),(26,.e<|iP m.length),(25,.e<|jb m),(6,.box 6 0),(4,.box 4 0),(1,.e<|iP p)],[(9,.cells 37<|jf<|sK m x p),(6,.cells 37<|jf<|kB m p x),(4,.cells 37 ar)]⟩)<|af [.b 9 (.cells (λ_=>rfl) yX:Bx.le (.cells 37 ar)<|.cells 37<|jf<|kC (m.getD x []) p 0)],.c<|mF (sK m x p) (kB m p x) aD aD,tB 60<|aZ c1,iD<|(x:Int)+1]<|.e<|af [.b 6 (.jP<|by rw[show kB m p (x+1)=(sK m x p)from aY c1]:Bx.le (.cells 37<|jf<|sK m x p)<|.cells 37<|jf<|kB m p<|x+1)]) aF 
    .exact iS (ae [tT 28 ((x:Int)<m.length) aC,iX (x:Int)<|m.length,.s (Sp.jX (xE m p x) 0 ((m.getD x []).length) aC (λk hk tA=>by
    have gg:=(hg x aC) k aC;have v1:=s5 (m.getD x []) (aC:1<=p) aC k;have v2:=ga.sJ (aC:x<n) (aC:k<c);have gga:=gg.all;have v3:=uL v2.jj.1 v2.jj.2;exact iS (ae [tT 34 ((k:Int)<((m.getD x []).length:Int)) aC,iX (k:Int)<|(m.getD x []).length,.c<|wo ((m.getD x []).getD k ik) aD gga,.c<|wE (kC (m.getD x []) p k) (Gt m x k) p aD aD,ai 53 ((jC (iM (kC (m.getD x []) p k)<|kn<|(m.getD x []).getD k ik) p true) != 0)<|by rw[gg.AJ];rfl,iD<|(k:Int)+1]<|.e<|af [.b 9<|.refl<|.cells 37<|jf<|kC (m.getD x []) p<|k+1]) aF)
  (λhk=>by
    exact iS (af [tF 34 (((m.getD x []).length:Int)<((m.getD x []).length:Int)) aC]) aF) aI:jW 9 f161 (xE m p x 0) (.exit 2) ⟨64,true,[(9,.box 9 0),(27,.e<|iP x),(26,.e<|iP m.length),(25,.e<|jb m),(6,.box 6 0),(4,.box 4 0),(1,.e<|iP p)],[(9,.cells 37<|jf<|sK m x p),(6,.cells 37<|jf<|kB m p x),(4,.cells 37 ar)]⟩)<|af [.b 9 (.cells (λ_=>rfl) yX:Bx.le (.cells 37 ar)<|.cells 37<|jf<|kC (m.getD x []) p 0)],.c<|mF (sK m x p) (kB m p x) aD aD,tB 60<|a6 c1,iD<|(x:Int)+1]<|.e<|af [.b 6 (.jP<|by rw[show kB m p (x+1)=(kB m p x)from aX c1]:Bx.le (.cells 37<|jf<|kB m p x)<|.cells 37<|jf<|kB m p<|x+1)]) aF)
  (λhx=>by
    exact iS (af [tF 28 ((m.length:Int)<m.length) aC]) aF) aI:jW 5 f161 (Zr m p 0) (.exit 0) ⟨64,true,[(6,.box 6 0),(4,.box 4 0)],[(6,.cells 37<|jf<|kB m p m.length),(4,.cells 37 ar)]⟩)<|af [.b 6 (.cells (λ_=>rfl) yX:Bx.le (.cells 37 ar)<|.cells 37<|jf<|kB m p 0)]])
section
variable(N K:Nat)(hN:N<m.length)(hK:K<(m.getD N []).length)(hg:∀ x,x<N->∀ k,k<(m.getD x []).length->pL (m.getD x []) p k)(Pt:∀ k,k<K->pL (m.getD N []) p k)
def alu(sy:((m.getD N []).getD K ik).all=true):ic 161 [jb m,iP p]<|.ix [iw iR,bP false]:=by
 have ra:=ga.iT;have n8:=ga.n8;have c8:=ga.k8;exact iy (af [.c<|yI m _ _ aD,.c<|FO (p:Int),ah 21 (kT (p:Int))<|pH.2 ⟨aC,aC⟩,.s (Sp.jX (Zn m p N) 0 N aC (λx hx mH=>by
    have lx:=ga.mQ (aC:x<n);have u1:=s5 (m.getD x []) (aC:1<=p) aC (m.getD x []).length;have u2:=CB m (aC:1<=p) aC x;by_cases c1:0<jm (kC (m.getD x []) p<|(m.getD x []).length) (kB m p x)
    .exact iS (ae [tT 28 ((x:Int)<m.length) aC,iX (x:Int)<|m.length,.s (Sp.jX (xE m p x) 0 ((m.getD x []).length) aC (λk hk tA=>by
    have gg:=(hg x aC) k aC;have v1:=s5 (m.getD x []) (aC:1<=p) aC k;have v2:=ga.sJ (aC:x<n) (aC:k<c);have gga:=gg.all;have v3:=uL v2.jj.1 v2.jj.2;exact iS (ae [tT 34 ((k:Int)<((m.getD x []).length:Int)) aC,iX (k:Int)<|(m.getD x []).length,.c<|wo ((m.getD x []).getD k ik) aD gga,.c<|wE (kC (m.getD x []) p k) (Gt m x k) p aD aD,ai 53 ((jC (iM (kC (m.getD x []) p k)<|kn<|(m.getD x []).getD k ik) p true) != 0)<|by rw[gg.AJ];rfl,iD<|(k:Int)+1]<|.e<|af [.b 9<|.refl<|.cells 37<|jf<|kC (m.getD x []) p<|k+1]) aF)
  (λhk=>by
    exact iS (af [tF 34 (((m.getD x []).length:Int)<((m.getD x []).length:Int)) aC]) aF) aI:jW 9 f161 (xE m p x 0) (.exit 2) ⟨64,true,[(9,.box 9 0),(27,.e<|iP x),(26,.e<|iP m.length),(25,.e<|jb m),(6,.box 6 0),(4,.box 4 0),(1,.e<|iP p)],[(9,.cells 37<|jf<|sK m x p),(6,.cells 37<|jf<|kB m p x),(4,.cells 37 ar)]⟩)<|af [.b 9 (.cells (λ_=>rfl) yX:Bx.le (.cells 37 ar)<|.cells 37<|jf<|kC (m.getD x []) p 0)],.c<|mF (sK m x p) (kB m p x) aD aD,tB 60<|aZ c1,iD<|(x:Int)+1]<|.e<|af [.b 6 (.jP<|by rw[show kB m p (x+1)=(sK m x p)from aY c1]:Bx.le (.cells 37<|jf<|sK m x p)<|.cells 37<|jf<|kB m p<|x+1)]) aF 
    .exact iS (ae [tT 28 ((x:Int)<m.length) aC,iX (x:Int)<|m.length,.s (Sp.jX (xE m p x) 0 ((m.getD x []).length) aC (λk hk tA=>by
    have gg:=(hg x aC) k aC;have v1:=s5 (m.getD x []) (aC:1<=p) aC k;have v2:=ga.sJ (aC:x<n) (aC:k<c);have gga:=gg.all;have v3:=uL v2.jj.1 v2.jj.2;exact iS (ae [tT 34 ((k:Int)<((m.getD x []).length:Int)) aC,iX (k:Int)<|(m.getD x []).length,.c<|wo ((m.getD x []).getD k ik) aD gga,.c<|wE (kC (m.getD x []) p k) (Gt m x k) p aD aD,ai 53 ((jC (iM (kC (m.getD x []) p k)<|kn<|(m.getD x []).getD k ik) p true) != 0)<|by rw[gg.AJ];rfl,iD<|(k:Int)+1]<|.e<|af [.b 9<|.refl<|.cells 37<|jf<|kC (m.getD x []) p<|k+1]) aF)
  (λhk=>by
    exact iS (af [tF 34 (((m.getD x []).length:Int)<((m.getD x []).length:Int)) aC]) aF) aI:jW 9 f161 (xE m p x 0) (.exit 2) ⟨64,true,[(9,.box 9 0),(27,.e<|iP x),(26,.e<|iP m.length),(25,.e<|jb m),(6,.box 6 0),(4,.box 4 0),(1,.e<|iP p)],[(9,.cells 37<|jf<|sK m x p),(6,.cells 37<|jf<|kB m p x),(4,.cells 37 ar)]⟩)<|af [.b 9 (.cells (λ_=>rfl) yX:Bx.le (.cells 37 ar)<|.cells 37<|jf<|kC (m.getD x []) p 0)],.c<|mF (sK m x p) (kB m p x) aD aD,tB 60<|a6 c1,iD<|(x:Int)+1]<|.e<|af [.b 6 (.jP<|by rw[show kB m p (x+1)=(kB m p x)from aX c1]:Bx.le (.cells 37<|jf<|kB m p x)<|.cells 37<|jf<|kB m p<|x+1)]) aF)
  (λhx=>by
    have lN:=ga.mQ (aC:N<n);exact iS (af [tT 28 ((N:Int)<m.length) aC,iX (N:Int)<|m.length,.s (Sp.jX (Zo m p N K) 0 K aC (λk hk tA=>by
    have gg:=Pt k aC;have v1:=s5 (m.getD N []) (aC:1<=p) aC k;have v2:=ga.sJ (aC:N<n) (aC:k<c);have gga:=gg.all;have v3:=uL v2.jj.1 v2.jj.2;exact iS (ae [tT 34 ((k:Int)<((m.getD N []).length:Int)) aC,iX (k:Int)<|(m.getD N []).length,.c<|wo ((m.getD N []).getD k ik) aD gga,.c<|wE (kC (m.getD N []) p k) (kn<|(m.getD N []).getD k ik) p aD aD,ai 53 ((jC (iM (kC (m.getD N []) p k)<|kn<|(m.getD N []).getD k ik) p true) != 0)<|by rw[gg.AJ];rfl,iD<|(k:Int)+1]<|.e<|af [.b 9<|.refl<|.cells 37<|jf<|kC (m.getD N []) p<|k+1]) aF)
  (λhk=>by
    have v1:=s5 (m.getD N []) (aC:1<=p) aC K;have v2:=ga.sJ (aC:N<n) (aC:K<c);have v3:=uL v2.jj.1 v2.jj.2;exact iS (af [tT 34 ((K:Int)<((m.getD N []).length:Int)) aC,iX (K:Int)<|(m.getD N []).length,ag [im<|(m.getD N []).getD K ik]<|ajK _ aD sy,.o 44 (.e tc:aj Ss<|iw iR)]) aF) aI:jW 9 f161 (Zo m p N K 0) .ret ⟨64,true,[(5,.e<|bP false),(4,.box 4 0)],[(4,.cells 37<|jf iR)]⟩)<|af [.b 9 (.cells (λ_=>rfl) yX:Bx.le (.cells 37 ar)<|.cells 37<|jf<|kC (m.getD N []) p 0)]]) aF) aI:jW 5 f161 (Zn m p N 0) .ret ⟨64,true,[(5,.e<|bP false),(4,.box 4 0)],[(4,.cells 37<|jf iR)]⟩)<|af [.b 6 (.cells (λ_=>rfl) yX:Bx.le (.cells 37 ar)<|.cells 37<|jf<|kB m p 0)]])
def alv(uk:((m.getD N []).getD K ik).all=false)(sy:¬jC (iM (kC (m.getD N []) p K)<|kn<|(m.getD N []).getD K ik) p true=0):ic 161 [jb m,iP p]<|.ix [iw iR,bP false]:=by
 have ra:=ga.iT;have n8:=ga.n8;have c8:=ga.k8;exact iy (af [.c<|yI m _ _ aD,.c<|FO (p:Int),ah 21 (kT (p:Int))<|pH.2 ⟨aC,aC⟩,.s (Sp.jX (Zp m p N) 0 N aC (λx hx mH=>by
    have lx:=ga.mQ (aC:x<n);have u1:=s5 (m.getD x []) (aC:1<=p) aC (m.getD x []).length;have u2:=CB m (aC:1<=p) aC x;by_cases c1:0<jm (kC (m.getD x []) p<|(m.getD x []).length) (kB m p x)
    .exact iS (ae [tT 28 ((x:Int)<m.length) aC,iX (x:Int)<|m.length,.s (Sp.jX (xE m p x) 0 ((m.getD x []).length) aC (λk hk tA=>by
    have gg:=(hg x aC) k aC;have v1:=s5 (m.getD x []) (aC:1<=p) aC k;have v2:=ga.sJ (aC:x<n) (aC:k<c);have gga:=gg.all;have v3:=uL v2.jj.1 v2.jj.2;exact iS (ae [tT 34 ((k:Int)<((m.getD x []).length:Int)) aC,iX (k:Int)<|(m.getD x []).length,.c<|wo ((m.getD x []).getD k ik) aD gga,.c<|wE (kC (m.getD x []) p k) (Gt m x k) p aD aD,ai 53 ((jC (iM (kC (m.getD x []) p k)<|kn<|(m.getD x []).getD k ik) p true) != 0)<|by rw[gg.AJ];rfl,iD<|(k:Int)+1]<|.e<|af [.b 9<|.refl<|.cells 37<|jf<|kC (m.getD x []) p<|k+1]) aF)
  (λhk=>by
    exact iS (af [tF 34 (((m.getD x []).length:Int)<((m.getD x []).length:Int)) aC]) aF) aI:jW 9 f161 (xE m p x 0) (.exit 2) ⟨64,true,[(9,.box 9 0),(27,.e<|iP x),(26,.e<|iP m.length),(25,.e<|jb m),(6,.box 6 0),(4,.box 4 0),(1,.e<|iP p)],[(9,.cells 37<|jf<|sK m x p),(6,.cells 37<|jf<|kB m p x),(4,.cells 37 ar)]⟩)<|af [.b 9 (.cells (λ_=>rfl) yX:Bx.le (.cells 37 ar)<|.cells 37<|jf<|kC (m.getD x []) p 0)],.c<|mF (sK m x p) (kB m p x) aD aD,tB 60<|aZ c1,iD<|(x:Int)+1]<|.e<|af [.b 6 (.jP<|by rw[show kB m p (x+1)=(sK m x p)from aY c1]:Bx.le (.cells 37<|jf<|sK m x p)<|.cells 37<|jf<|kB m p<|x+1)]) aF 
    .exact iS (ae [tT 28 ((x:Int)<m.length) aC,iX (x:Int)<|m.length,.s (Sp.jX (xE m p x) 0 ((m.getD x []).length) aC (λk hk tA=>by
    have gg:=(hg x aC) k aC;have v1:=s5 (m.getD x []) (aC:1<=p) aC k;have v2:=ga.sJ (aC:x<n) (aC:k<c);have gga:=gg.all;have v3:=uL v2.jj.1 v2.jj.2;exact iS (ae [tT 34 ((k:Int)<((m.getD x []).length:Int)) aC,iX (k:Int)<|(m.getD x []).length,.c<|wo ((m.getD x []).getD k ik) aD gga,.c<|wE (kC (m.getD x []) p k) (Gt m x k) p aD aD,ai 53 ((jC (iM (kC (m.getD x []) p k)<|kn<|(m.getD x []).getD k ik) p true) != 0)<|by rw[gg.AJ];rfl,iD<|(k:Int)+1]<|.e<|af [.b 9<|.refl<|.cells 37<|jf<|kC (m.getD x []) p<|k+1]) aF)
  (λhk=>by
    exact iS (af [tF 34 (((m.getD x []).length:Int)<((m.getD x []).length:Int)) aC]) aF) aI:jW 9 f161 (xE m p x 0) (.exit 2) ⟨64,true,[(9,.box 9 0),(27,.e<|iP x),(26,.e<|iP m.length),(25,.e<|jb m),(6,.box 6 0),(4,.box 4 0),(1,.e<|iP p)],[(9,.cells 37<|jf<|sK m x p),(6,.cells 37<|jf<|kB m p x),(4,.cells 37 ar)]⟩)<|af [.b 9 (.cells (λ_=>rfl) yX:Bx.le (.cells 37 ar)<|.cells 37<|jf<|kC (m.getD x []) p 0)],.c<|mF (sK m x p) (kB m p x) aD aD,tB 60<|a6 c1,iD<|(x:Int)+1]<|.e<|af [.b 6 (.jP<|by rw[show kB m p (x+1)=(kB m p x)from aX c1]:Bx.le (.cells 37<|jf<|kB m p x)<|.cells 37<|jf<|kB m p<|x+1)]) aF)
  (λhx=>by
    have lN:=ga.mQ (aC:N<n);exact iS (af [tT 28 ((N:Int)<m.length) aC,iX (N:Int)<|m.length,.s (Sp.jX (Zq m p N K) 0 K aC (λk hk tA=>by
    have gg:=Pt k aC;have v1:=s5 (m.getD N []) (aC:1<=p) aC k;have v2:=ga.sJ (aC:N<n) (aC:k<c);have gga:=gg.all;have v3:=uL v2.jj.1 v2.jj.2;exact iS (ae [tT 34 ((k:Int)<((m.getD N []).length:Int)) aC,iX (k:Int)<|(m.getD N []).length,.c<|wo ((m.getD N []).getD k ik) aD gga,.c<|wE (kC (m.getD N []) p k) (kn<|(m.getD N []).getD k ik) p aD aD,ai 53 ((jC (iM (kC (m.getD N []) p k)<|kn<|(m.getD N []).getD k ik) p true) != 0)<|by rw[gg.AJ];rfl,iD<|(k:Int)+1]<|.e<|af [.b 9<|.refl<|.cells 37<|jf<|kC (m.getD N []) p<|k+1]) aF)
  (λhk=>by
    have v1:=s5 (m.getD N []) (aC:1<=p) aC K;have v2:=ga.sJ (aC:N<n) (aC:K<c);have v3:=uL v2.jj.1 v2.jj.2;exact iS (af [tT 34 ((K:Int)<((m.getD N []).length:Int)) aC,iX (K:Int)<|(m.getD N []).length,.c<|wo ((m.getD N []).getD K ik) aD uk,.c<|wE (kC (m.getD N []) p K) (kn<|(m.getD N []).getD K ik) p aD aD,ah 53 ((jC (iM (kC (m.getD N []) p K)<|kn<|(m.getD N []).getD K ik) p true) != 0)<|by simpa using sy,.o 54 (.e tc:aj Ss<|iw iR)]) aF) aI:jW 9 f161 (Zq m p N K 0) .ret ⟨64,true,[(5,.e<|bP false),(4,.box 4 0)],[(4,.cells 37<|jf iR)]⟩)<|af [.b 9 (.cells (λ_=>rfl) yX:Bx.le (.cells 37 ar)<|.cells 37<|jf<|kC (m.getD N []) p 0)]]) aF) aI:jW 5 f161 (Zp m p N 0) .ret ⟨64,true,[(5,.e<|bP false),(4,.box 4 0)],[(4,.cells 37<|jf iR)]⟩)<|af [.b 6 (.cells (λ_=>rfl) yX:Bx.le (.cells 37 ar)<|.cells 37<|jf<|kB m p 0)]])
end
end
abbrev EB(h)(d:Dy)(p)(k):=jh (iL (iW h) (iJ d) p) (iF ((k+2:Nat):Int)) p
abbrev EC(h)(d:Dy)(p)(k):=oA (iL (iW h) (iJ d) p) p<|k+1
def Mr(m:List<|List Iv)(h:Iv)(d:Dy)(k p:Nat)(x:Nat):PS:=⟨79,true,[(14,.e<|iP ((x+1:Nat):Int)),(13,.box 13 0),(12,.box 12 0),(8,.box 8 0),(2,.e<|iP k),(3,.e<|iP p)],[(13,.cells 41<|jt<|oA (iL (iW h) (iJ d) p) p x),(12,.cells 41<|jt<|iL (iW h) (iJ d) p),(8,.cells 41 au)]⟩
def VC{Q:Nat->Prop}{n:Nat}(h:¬∀ i,i<n->Q i):∃ N,N<n/\¬Q N/\∀ i,i<N->Q i:=by
 induction n with
 |zero=>exact absurd (λi hi=>absurd hi<|bt i) h
 |succ n ih=>
  by_cases hn:∀ i,i<n->Q i
  .refine ⟨n,aC,λq=>h λi hi=>?_,hn⟩;by_cases kS:i=n
   .rw [kS];exact q
   .exact hn i aC 
  .obtain ⟨N,h1,h2,h3⟩:=ih hn;exact⟨N,aC,h2,h3⟩
section
variable(m:List<|List Iv)(n c p:Nat)(ga:jO m n c)(iu:8<=p)(ie:p<=512)
def alz(d:Dy)(hd:uN m p=some d):ic 161 [jb m,iP (p:Int)] (.ix [iw d,bP true])/\d.ig:=by
 have hg:∀ x,x<m.length->∀ k,k<(m.getD x []).length->pL (m.getD x []) p k:=by
  intro x hx k hk;apply bQ;intro q;rw[LY hx hk q]at hd;cases hd
 rw[FR hg]at hd;cases hd;exact⟨aly m n c p ga iu ie hg,CB m aC aC _⟩
def alx(hd:uN m p=none):ic 161 [jb m,iP (p:Int)]<|.ix [iw iR,bP false]:=by
 have hb:¬∀ x,x<m.length->∀ k,k<(m.getD x []).length->pL (m.getD x []) p k:=λhg=>by rw[FR hg]at hd;cases hd
 obtain⟨N,h1,h2,h3⟩:=VC (Q:=λx=>∀ k,k<(m.getD x []).length->pL (m.getD x []) p k) hb;obtain⟨K,k1,k2,k3⟩:=VC h2;by_cases ha:((m.getD N []).getD K ik).all=true
 .exact alu m n c p ga iu ie N K h1 k1 h3 k3 ha
 .exact alv m n c p ga iu ie N K h1 k1 h3 k3 (by simpa using ha) λq=>k2 ⟨by simpa using ha,q⟩
end
def Md(u:Iv){p:Nat}(hp:1<=p)(ie:p<=4096):∀ j,(oA u p j).ig
 | 0=>tN 1 aE 
 |j+1=>lE _ _ hp ie
def Sx:E.le (.agg au)<|im ⟨iR,iR,false⟩:=
 .agg (.cons (.refl _)<|.cons zZ<|.cons (.refl _)<|.cons (.refl _)<|.cons zZ<|.cons (.refl _)<|.cons (.refl _) .nil)
section
variable(m:List<|List Iv)(h:Iv)(n c k p:Nat)
def am5(ga:jO m n c)(hh:h.ig)(hk:k<=1000)(iu:8<=p)(ie:p<=512)(hd:uN m p=none):ic 95 [jb m,im h,iP k,iP p]<|.ix [im ⟨iR,iR,false⟩,bP false]:=
 iy (ae [ag [jb m,iP p]<|alx _ _ _ _ ga iu ie hd]<|rR (.ix [im ⟨iR,iR,false⟩,bP false]) (.ix<|.cons Sx<|.cons (.refl _) .nil:E.le (.ix [.agg au,bP false])<|.ix [im ⟨iR,iR,false⟩,bP false]))
def am6(ga:jO m n c)(hh:h.ig)(hk:k<=1000)(iu:8<=p)(ie:p<=512)(d:Dy)(hn:ic 161 [jb m,iP (p:Int)]<|.ix [iw d,bP true])(hd:d.ig)(hu:(iL (iW h) (iJ d) p).all=true):ic 95 [jb m,im h,iP k,iP p]<|.ix [im ⟨iR,iR,false⟩,bP false]:=by
 have va:=xV hh;have vp:=oP hd;have vu:=lE (iW h) (iJ d) (aC:1<=p) (aC:p<=4096);exact iy<|ae [ag [jb m,iP p] hn,.c<|DW h aD,.c<|rO d aD,.c<|qp (iW h) (iJ d) p aD aD,ah 32 ((iL (iW h) (iJ d) p).all) hu]<|rR (.ix [im ⟨iR,iR,false⟩,bP false]) (.ix<|.cons Sx<|.cons (.refl _) .nil:E.le (.ix [.agg au,bP false])<|.ix [im ⟨iR,iR,false⟩,bP false])
def am7(ga:jO m n c)(hh:h.ig)(hk:k<=1000)(iu:8<=p)(ie:p<=512)(d:Dy)(hn:ic 161 [jb m,iP (p:Int)]<|.ix [iw d,bP true])(hd:d.ig)(hu:(iL (iW h) (iJ d) p).all=false)(hc:0<=jm (iL (iW h) (iJ d) p).hi (iU ((k+2:Nat):Int))):ic 95 [jb m,im h,iP k,iP p]<|.ix [im ⟨iR,iR,false⟩,bP false]:=by
 have va:=xV hh;have vp:=oP hd;have vu:=lE (iW h) (iJ d) (aC:1<=p) (aC:p<=4096);have vk:=zI (k+2) aC;have ve:=vu.jj.2;exact iy<|ae [ag [jb m,iP p] hn,.c<|DW h aD,.c<|rO d aD,.c<|qp (iW h) (iJ d) p aD aD,ai 32 ((iL (iW h) (iJ d) p).all) hu,iD<|(k:Int)+2,.c<|E4<|k+2,.c<|mF ((iL (iW h) (iJ d) p).hi) (iU ((k+2:Nat):Int)) aD aD,tB 40<|aZ hc]<|rR (.ix [im ⟨iR,iR,false⟩,bP false]) (.ix<|.cons Sx<|.cons (.refl _) .nil:E.le (.ix [.agg au,bP false])<|.ix [im ⟨iR,iR,false⟩,bP false])
def am8(ga:jO m n c)(hh:h.ig)(hk:k<=1000)(iu:8<=p)(ie:p<=512)(d:Dy)(hn:ic 161 [jb m,iP (p:Int)]<|.ix [iw d,bP true])(hd:d.ig)(hu:(iL (iW h) (iJ d) p).all=false)(hc:¬0<=jm (iL (iW h) (iJ d) p).hi (iU ((k+2:Nat):Int)))(he:(jh (oA (iL (iW h) (iJ d) p) p<|k+1) (kY (iF 1) (jh (iL (iW h) (iJ d) p) (iF ((k+2:Nat):Int)) p) p) p).all=true):ic 95 [jb m,im h,iP k,iP p]<|.ix [im<|jh (oA (iL (iW h) (iJ d) p) p<|k+1) (kY (iF 1) (jh (iL (iW h) (iJ d) p) (iF ((k+2:Nat):Int)) p) p) p,bP false]:=by
 have va:=xV hh;have vp:=oP hd;have vu:=lE (iW h) (iJ d) (aC:1<=p) (aC:p<=4096);have vk:=zI (k+2) aC;have ve:=vu.jj.2;have w1:=Md (iL (iW h) (iJ d) p) (aC:1<=p) aC<|k+1;have w2:=tN<|k+2;have w3:(iF 1).ig:=tN 1 aE;have w4:=oI (iL (iW h) (iJ d) p) (iF ((k+2:Nat):Int)) (aC:1<=p);have w5:(kY (iF 1) (jh (iL (iW h) (iJ d) p) (iF ((k+2:Nat):Int)) p) p).ig:=nS w3 (rU w4) aC aC;have w6:=oI (oA (iL (iW h) (iJ d) p) p<|k+1) (kY (iF 1) (jh (iL (iW h) (iJ d) p) (iF ((k+2:Nat):Int)) p) p) (aC:1<=p);have w7:=w6.jj.2;exact iy (af [ag [jb m,iP p] hn,.c<|DW h aD,.c<|rO d aD,.c<|qp (iW h) (iJ d) p aD aD,ai 32 ((iL (iW h) (iJ d) p).all) hu,iD<|(k:Int)+2,.c<|E4<|k+2,.c<|mF ((iL (iW h) (iJ d) p).hi) (iU ((k+2:Nat):Int)) aD aD,tB 40<|a6 hc,.c<|Aa 1,.s (Sp.jX (Mr m h d k p) 0 (k+1) aC (λx hx mH=>by
    have w1:=Md (iL (iW h) (iJ d) p) (aC:1<=p) aC x;have w2:=tN<|x+1;have w3:=oI (iL (iW h) (iJ d) p) (iF ((x+1:Nat):Int)) (aC:1<=p);exact iS (ae [iD<|(k:Int)+1,tT 47 (((x+1:Nat):Int)<=((k+1:Nat):Int)) aC,.c<|Aa<|x+1,.c<|wm (iL (iW h) (iJ d) p) (iF ((x+1:Nat):Int)) p aD aD,.c<|qp (oA (iL (iW h) (iJ d) p) p x) (jh (iL (iW h) (iJ d) p) (iF ((x+1:Nat):Int)) p) p aD aD,iD<|((x+1:Nat):Int)+1]<|.e<|af [.b 13<|.refl<|.cells 41<|jt<|oA (iL (iW h) (iJ d) p) p<|x+1]) aF)
  (λhx=>by
    exact iS (af [iD<|(k:Int)+1,tF 47 ((((k+1)+1:Nat):Int)<=((k+1:Nat):Int)) aC]) aF) aI:jW 9 Tryz.f95 (Mr m h d k p 0) (.exit 0) ⟨79,true,[(13,.box 13 0),(12,.box 12 0),(8,.box 8 0),(2,.e<|iP k),(3,.e<|iP p)],[(13,.cells 41<|jt<|EC h d p k),(12,.cells 41<|jt<|iL (iW h) (iJ d) p),(8,.cells 41 au)]⟩)<|af [.o 14<|aq 1 ((0+1:Nat):Int) aO,.b 13<|.refl<|.cells 41<|jt<|oA (iL (iW h) (iJ d) p) p 0],.c<|Aa 1,iD<|(k:Int)+2,.c<|Aa<|k+2,.c<|wm (iL (iW h) (iJ d) p) (iF ((k+2:Nat):Int)) p aD aD,.c<|IH (iF 1) (EB h d p k) p aD aD,.c<|wm (EC h d p k) (kY (iF 1) (EB h d p k) p) p aD aD,ah 71 ((jh (EC h d p k) (kY (iF 1) (EB h d p k) p) p).all) he])
def am9(ga:jO m n c)(hh:h.ig)(hk:k<=1000)(iu:8<=p)(ie:p<=512)(d:Dy)(hn:ic 161 [jb m,iP (p:Int)]<|.ix [iw d,bP true])(hd:d.ig)(hu:(iL (iW h) (iJ d) p).all=false)(hc:¬0<=jm (iL (iW h) (iJ d) p).hi (iU ((k+2:Nat):Int)))(he:(jh (oA (iL (iW h) (iJ d) p) p<|k+1) (kY (iF 1) (jh (iL (iW h) (iJ d) p) (iF ((k+2:Nat):Int)) p) p) p).all=false):ic 95 [jb m,im h,iP k,iP p]<|.ix [im ⟨jo (jh (oA (iL (iW h) (iJ d) p) p<|k+1) (kY (iF 1) (jh (iL (iW h) (iJ d) p) (iF ((k+2:Nat):Int)) p) p) p).hi,(jh (oA (iL (iW h) (iJ d) p) p<|k+1) (kY (iF 1) (jh (iL (iW h) (iJ d) p) (iF ((k+2:Nat):Int)) p) p) p).hi,false⟩,bP true]:=by
 have va:=xV hh;have vp:=oP hd;have vu:=lE (iW h) (iJ d) (aC:1<=p) (aC:p<=4096);have vk:=zI (k+2) aC;have ve:=vu.jj.2;have w1:=Md (iL (iW h) (iJ d) p) (aC:1<=p) aC<|k+1;have w2:=tN<|k+2;have w3:(iF 1).ig:=tN 1 aE;have w4:=oI (iL (iW h) (iJ d) p) (iF ((k+2:Nat):Int)) (aC:1<=p);have w5:(kY (iF 1) (jh (iL (iW h) (iJ d) p) (iF ((k+2:Nat):Int)) p) p).ig:=nS w3 (rU w4) aC aC;have w6:=oI (oA (iL (iW h) (iJ d) p) p<|k+1) (kY (iF 1) (jh (iL (iW h) (iJ d) p) (iF ((k+2:Nat):Int)) p) p) (aC:1<=p);have w7:=w6.jj.2;exact iy (af [ag [jb m,iP p] hn,.c<|DW h aD,.c<|rO d aD,.c<|qp (iW h) (iJ d) p aD aD,ai 32 ((iL (iW h) (iJ d) p).all) hu,iD<|(k:Int)+2,.c<|E4<|k+2,.c<|mF ((iL (iW h) (iJ d) p).hi) (iU ((k+2:Nat):Int)) aD aD,tB 40<|a6 hc,.c<|Aa 1,.s (Sp.jX (Mr m h d k p) 0 (k+1) aC (λx hx mH=>by
    have w1:=Md (iL (iW h) (iJ d) p) (aC:1<=p) aC x;have w2:=tN<|x+1;have w3:=oI (iL (iW h) (iJ d) p) (iF ((x+1:Nat):Int)) (aC:1<=p);exact iS (ae [iD<|(k:Int)+1,tT 47 (((x+1:Nat):Int)<=((k+1:Nat):Int)) aC,.c<|Aa<|x+1,.c<|wm (iL (iW h) (iJ d) p) (iF ((x+1:Nat):Int)) p aD aD,.c<|qp (oA (iL (iW h) (iJ d) p) p x) (jh (iL (iW h) (iJ d) p) (iF ((x+1:Nat):Int)) p) p aD aD,iD<|((x+1:Nat):Int)+1]<|.e<|af [.b 13<|.refl<|.cells 41<|jt<|oA (iL (iW h) (iJ d) p) p<|x+1]) aF)
  (λhx=>by
    exact iS (af [iD<|(k:Int)+1,tF 47 ((((k+1)+1:Nat):Int)<=((k+1:Nat):Int)) aC]) aF) aI:jW 9 Tryz.f95 (Mr m h d k p 0) (.exit 0) ⟨79,true,[(13,.box 13 0),(12,.box 12 0),(8,.box 8 0),(2,.e<|iP k),(3,.e<|iP p)],[(13,.cells 41<|jt<|EC h d p k),(12,.cells 41<|jt<|iL (iW h) (iJ d) p),(8,.cells 41 au)]⟩)<|af [.o 14<|aq 1 ((0+1:Nat):Int) aO,.b 13<|.refl<|.cells 41<|jt<|oA (iL (iW h) (iJ d) p) p 0],.c<|Aa 1,iD<|(k:Int)+2,.c<|Aa<|k+2,.c<|wm (iL (iW h) (iJ d) p) (iF ((k+2:Nat):Int)) p aD aD,.c<|IH (iF 1) (EB h d p k) p aD aD,.c<|wm (EC h d p k) (kY (iF 1) (EB h d p k) p) p aD aD,ai 71 ((jh (EC h d p k) (kY (iF 1) (EB h d p k) p) p).all) he,.c<|wU ((jh (EC h d p k) (kY (iF 1) (EB h d p k) p) p).hi) aD])
end
def amn(r:List Iv):((List.range<|r.length).any λj_=>(r.getD j_ ik).all)=r.any λx=>x.all:=by
 rw[eo,dc,dc];constructor
 .rintro ⟨j,h1,h2⟩;have hj:=bS.1 h1;rw[vU hj]at h2;exact⟨_,b9 hj,h2⟩
 .rintro ⟨x,h1,h2⟩;obtain⟨j,hj,rfl⟩:=List.mem_iff_getElem.1 h1;exact⟨j,bS.2 hj,by rw[vU hj];exact h2⟩
def amo(m:List<|List Iv):((List.range<|m.length).any λi_=>(m.getD i_ []).any λx=>x.all)=m.any λr=>r.any λx=>x.all:=by
 rw[eo,dc,dc];constructor
 .rintro ⟨j,h1,h2⟩;have hj:=bS.1 h1;rw[vU hj]at h2;exact⟨_,b9 hj,h2⟩
 .rintro ⟨x,h1,h2⟩;obtain⟨j,hj,rfl⟩:=List.mem_iff_getElem.1 h1;exact⟨j,bS.2 hj,by rw[vU hj];exact h2⟩
def acO(x:Iv):ic 173 [im x]<|bP x.all:=
 iy (.nil)
def acP(r:List Iv)(hl:r.length<=1000):ic 172 [iA r]<|bP<|r.any λx=>x.all:=
 iy (ae [.c (II true r.length (jL r) 173 [] (λj_=>(r.getD j_ ik).all) λj hj=>acO _:ic 39 [iA r,.fn 173 []] _)]<|rQ (bP<|(List.range<|r.length).any λj_=>(r.getD j_ ik).all) (bP<|r.any λx=>x.all)<|by rw[amn])
def SX(m:List<|List Iv)(hl:m.length<=1000)(hr:∀ i,(m.getD i []).length<=1000):ic 102 [jb m]<|bP<|m.any λr=>r.any λx=>x.all:=
 iy (ae [.c (Mv true m.length (sE m) 172 [] (λi_=>(m.getD i_ []).any λx=>x.all) λi hi=>acP _<|hr i:ic 159 [jb m,.fn 172 []] _)]<|rQ (bP<|(List.range<|m.length).any λi_=>(m.getD i_ []).any λx=>x.all) (bP<|m.any λr=>r.any λx=>x.all)<|by rw[amo])
def RZ(m:List<|List Iv)(n c:Nat)(ga:jO m n c):ic 94 [jb m]<|bP<|decide (n=c):=by
 have ra:=ga.iT;have n1:=ga.n1;have la:=ga.mQ (aC:0<n);by_cases h:n=c
 .exact iy<|ae [.c<|yI m _ _ aD,iX 0<|m.length,ah 12 ((m.length:Int)==((m.getD 0 []).length:Int))<|FP aC]<|rQ (bP true) (bP<|decide (n=c))<|by rw[aZ h]
 .exact iy<|ae [.c<|yI m _ _ aD,iX 0<|m.length,ai 12 ((m.length:Int)==((m.getD 0 []).length:Int))<|Y4 aC]<|rQ (bP false) (bP<|decide (n=c))<|by rw[a6 h]
def alm{d:Dy}(hd:d.neg=false):jm (jo d) d<=0:=by
 rw[sW (k:=d.e) (.inr<|show d.e<=(jo d).e from ct _)<|.inr<|ct _];have h1:=Q1 hd d.e;by_cases h0:d.m=0
 .have:(jo d).num d.e=0:=by unfold Dy.num Dy.jR jo;simp[h0]
  omega
 .rw [Q0 d d.e h0];omega
def Ms(m:List<|List Iv)(h:Iv)(n c k p:Nat)(ga:jO m n c)(hh:h.ig)(hk:k<=1000)(iu:8<=p)(ie:p<=512):
 (∀ e,tP m h k p=some e->ic 95 [jb m,im h,iP (k:Int),iP (p:Int)] (.ix [im e,bP true])/\e.ig/\e.all=false) /\
 (tP m h k p=none->∃ x:Iv,ic 95 [jb m,im h,iP (k:Int),iP (p:Int)]<|.ix [im x,bP false]):=by
 cases hn:uN m p with
 |none=>
  refine⟨λe he=>?_,λ_=>⟨_,am5 m h n c k p ga hh hk iu ie hn⟩⟩;unfold tP at he;rw[hn]at he;cases he
 |some d=>
  obtain⟨hp,hd⟩:=alz m n c p ga iu ie d hn;have hdn:d.neg=false:=by
   have hg:∀ i,i<m.length->∀ k,k<(m.getD i []).length->pL (m.getD i []) p k:=by
    intro i hi k hk;apply bQ;intro q;rw[LY hi hk q]at hn;cases hn
   rw[FR hg]at hn;cases hn;exact FQ _ _ _
  have Xk:(iL (iW h) (iJ d) p).NN:=LU (Nr h) (Mc hdn) p;unfold tP;rw[hn,dj];simp only;by_cases hu:(iL (iW h) (iJ d) p).all=true
  .rw [aY<|by rw[hu];rfl];exact⟨λe hx=>(by cases hx),λ_=>⟨_,am6 m h n c k p ga hh hk iu ie d hp hd hu⟩⟩
  .replace hu:(iL (iW h) (iJ d) p).all=false:=by simpa using hu
   by_cases hc:0<=jm (iL (iW h) (iJ d) p).hi (iU ((k+2:Nat):Int))
   .rw [aY<|by rw[hu,aZ hc];rfl];exact⟨λe hx=>(by cases hx),λ_=>⟨_,am7 m h n c k p ga hh hk iu ie d hp hd hu hc⟩⟩
   .rw [aX<|by rw[hu,a6 hc];decide];by_cases he:(jh (oA (iL (iW h) (iJ d) p) p<|k+1) (kY (iF 1) (jh (iL (iW h) (iJ d) p) (iF ((k+2:Nat):Int)) p) p) p).all=true
    .rw [aY he];exact⟨λe hx=>(by cases hx),λ_=>⟨_,am8 m h n c k p ga hh hk iu ie d hp hd hu hc he⟩⟩
    .rw [aX he];replace he:(jh (oA (iL (iW h) (iJ d) p) p<|k+1) (kY (iF 1) (jh (iL (iW h) (iJ d) p) (iF ((k+2:Nat):Int)) p) p) p).all=false:=by simpa using he
     have hv:=oI (oA (iL (iW h) (iJ d) p) p<|k+1) (kY (iF 1) (jh (iL (iW h) (iJ d) p) (iF ((k+2:Nat):Int)) p) p) (aC:1<=p) (aC:p<=4096);have WY:=aan (c:=k+2) Xk aC hu aC (ZS Xk p<|k+1) he (aC:1<=p) aC;refine⟨λe hx=>?_,λhx=>(by cases hx)⟩;cases hx;exact⟨am9 m h n c k p ga hh hk iu ie d hp hd hu hc he,.inr ⟨rfl,xD hv.jj.2,hv.jj.2,alm WY.hi⟩,rfl⟩
section
variable(m:List<|List Iv)
section
variable(h:Iv)
abbrev yV(p)(k)(e:Iv):=λi_=>(List.range<|((jT m h p k).getD i_ []).length).map λj_=>je (((jT m h p k).getD i_ []).getD j_ ik) e p
abbrev CR(p)(k)(x)(e:Iv):=λj_=>je (((jT m h p k).getD x []).getD j_ ik) e p
abbrev Gu(p)(k)(e:Iv):=(List.range<|(jT m h p k).length).map<|yV m h p k e
abbrev MW(p)(k)(x)(e:Iv):=iA<|(List.range<|((jT m h p k).getD x []).length).map<|CR m h p k x e
abbrev CS(p)(k)(x)(y):=((jT m h p k).getD x []).getD y ik
end
section
variable(h e:Iv)(k p:Nat)(x:Nat)
def KS:PS:=⟨122,true,[(14,.e<|iP ((x+1:Nat):Int)),(13,.e<|jb<|jT m h p x),(12,.e<|jb<|sG m h p x),(10,.box 10 0),(5,.box 5 0),(0,.e<|jb m),(2,.e<|iP k),(3,.e<|iP p)],[(10,.cells 41<|jt e),(5,.cells 41<|jt h)]⟩
def KT:PS:=⟨122,true,[(17,.own 17),(96,.e<|iP x),(95,.e<|iP ((jT m h p k).length:Int)),(94,.e<|jb<|jT m h p k),(10,.box 10 0),(3,.e<|iP p)],[(17,.row true 23 x 1<|sE<|(List.range x).map<|yV m h p k e),(10,.cells 41<|jt e)]⟩
end
def KU(h e:Iv)(k p x:Nat)(y:Nat):PS:=⟨122,true,[(20,.own 20),(102,.e<|iP y),(101,.e<|iP (((jT m h p k).getD x []).length:Int)),(100,.e<|iA<|(jT m h p k).getD x []),(17,.own 17),(96,.e<|iP x),(95,.e<|iP ((jT m h p k).length:Int)),(94,.e<|jb<|jT m h p k),(10,.box 10 0),(3,.e<|iP p)],[(20,.row true 41 y 7<|jL<|(List.range y).map<|CR m h p k x e),(17,.row true 23 x 1<|sE<|(List.range x).map<|yV m h p k e),(10,.cells 41<|jt e)]⟩
section
variable(h:Iv)(n k p:Nat)(ga:jO m n n)(hh:h.ig)(AT:h.all=false)(mT:1<=k)(hk:k<=16)(iu:8<=p)(ie:p<=512)
def agU(hr:tP m h k p=none):ic 54 [jb m,im h,iP k,iP p]<|.ix [.v<|.slice none 0 0,iP 15]:=by
 have ra:=ga.iT;have n1:=ga.n1;have n8:=ga.n8;obtain⟨x0,o9⟩:=(Ms m h n n k p ga hh aC iu ie).2 hr;exact iy<|af [.c<|RZ m _ _ ga,tT 24 (n=n) rfl,.c<|pe h aD,ai 33 h.all AT,tF 36 ((p:Int)<8) aC,tF 39 (512<(p:Int)) aC,tF 43 ((k:Int)<1) aC,tF 47 (16<(k:Int)) aC,ag [jb m,im h,iP k,iP p] o9]
section
variable(e:Iv)(hr:tP m h k p=some e)
def agV(uk:(((List.range<|(jT m h p k).length).map λi_=>(List.range<|((jT m h p k).getD i_ []).length).map λj_=>je (((jT m h p k).getD i_ []).getD j_ ik) e p).any λr=>r.any λx=>x.all)=true):ic 54 [jb m,im h,iP k,iP p]<|.ix [.v<|.slice none 0 0,iP 15]:=by
 have ra:=ga.iT;have n1:=ga.n1;have n8:=ga.n8;obtain⟨xn,pZ,hea⟩:=(Ms m h n n k p ga hh aC iu ie).1 e hr;have gs:=CN (h:=h) (p:=p) ga aC aC k;have rs:=gs.iT;have A8:∀ i,(((List.range<|(jT m h p k).length).map λi_=>(List.range<|((jT m h p k).getD i_ []).length).map λj_=>je (((jT m h p k).getD i_ []).getD j_ ik) e p).getD i []).length<=1000:=by
  intro i;by_cases hi:i<(jT m h p k).length
  .rw [Jy hi];have:=gs.IP i;simp only[cv,eu];omega
  .rw [bc,bX<|by simpa using hi];exact b7 _
 exact iy (af [.c<|RZ m _ _ ga,tT 24 (n=n) rfl,.c<|pe h aD,ai 33 h.all AT,tF 36 ((p:Int)<8) aC,tF 39 (512<(p:Int)) aC,tF 43 ((k:Int)<1) aC,tF 47 (16<(k:Int)) aC,ag [jb m,im h,iP k,iP p] xn,.c<|YC m.length aC aC,.s (Sp.jX (KS m h e k p) 0 k aC (λx hx mH=>by
    have w1:=yS (h:=h) ga (aC:1<=p) aC x;have w2:=FM w1 ga (aC:1<=p) (aC:p<=4096);have w3:=tN<|x+1;have w4:=oI h (iF ((x+1:Nat):Int)) (aC:1<=p) (aC:p<=4096);have w5:=CN (h:=h) ga (aC:1<=p) aC x;have w6:jO (uR (sd (sG m h p x) m p) (jh h (iF ((x+1:Nat):Int)) p) p) n n:=RT w2 (aC:1<=p) aC;exact iS (af [tT 65 (((x+1:Nat):Int)<=k) aC,.c<|YD (sG m h p x) m p _ _ _ aD aD aC aC,ai 76 ((0:Int) != 0) aE,.c<|Aa<|x+1,.c<|wm h (iF ((x+1:Nat):Int)) p aD aD,.c<|YF (sd (sG m h p x) m p) (jh h (iF ((x+1:Nat):Int)) p) _ _ p aD aD aC aC,.c<|YA (jT m h p x) (uR (sd (sG m h p x) m p) (jh h (iF ((x+1:Nat):Int)) p) p) _ _ p aD aD aC aC,ai 93 ((0:Int) != 0) aE,
     iD (((x+1:Nat):Int)+1)]) aF)
  (λhx=>by
    exact iS (af [tF 65 (((k+1:Nat):Int)<=k) aC]) aF) aI:jW 11 Tryz.f54 (KS m h e k p 0) (.exit 0) ⟨122,true,[(13,.e<|jb<|jT m h p k),(10,.box 10 0),(3,.e<|iP p)],[(10,.cells 41<|jt e)]⟩)<|af [.o 14<|aq 1 ((0+1:Nat):Int) aO],.y 17 17 true 23 1<|sE<|(List.range 0).map<|yV m h p k e,.s (Sp.jX (KT m h e k p) 0 ((jT m h p k).length) aC (λx hx mH=>by
    have lx:=gs.mQ (aC:x<n);exact iS (ae [tT 97 ((x:Int)<((jT m h p k).length:Int)) aC,iX (x:Int)<|(jT m h p k).length,.y 20 20 true 41 7<|jL<|(List.range 0).map<|CR m h p k x e,.s (Sp.jX (KU m h e k p x) 0 (((jT m h p k).getD x []).length) aC (λy hy aiY=>by
    have w1:=gs.sJ (aC:x<n) (aC:y<n);have h1:=qH<|je (((jT m h p k).getD x []).getD y ik) e p;exact iS (ae [tT 103 ((y:Int)<(((jT m h p k).getD x []).length:Int)) aC,iX (y:Int)<|((jT m h p k).getD x []).length,.c<|uH (CS m h p k x y) e p aD aD,.o 111<|.e<|lW<|je (CS m h p k x y) e p,.a (aC:(y+[je (((jT m h p k).getD x []).getD y ik) e p].length)*88<=140737488355328),iD<|(y:Int)+1]<|.e<|af [.b 20 (zL rfl rfl rfl:Bx.le (.row true 41 (y+[je (CS m h p k x y) e p].length) 7 λi_ j_=>if i_<y then(jL<|(List.range y).map<|CR m h p k x e) i_ j_ else(E.ng<|iA [je (CS m h p k x y) e p]) (i_-y) j_)<|.row true 41 (y+1) 7<|jL<|(List.range<|y+1).map<|CR m h p k x e)]) aF)
  (λhy=>by
    exact iS (ae [tF 103 ((((jT m h p k).getD x []).length:Int)<(((jT m h p k).getD x []).length:Int)) aC,.z 20]<|.e<|af [.o 20 (.e<|zK aH:aj (.sl true (((jT m h p k).getD x []).length) 7<|jL<|(List.range<|((jT m h p k).getD x []).length).map λj_=>je (((jT m h p k).getD x []).getD j_ ik) e p)<|iA<|(List.range<|((jT m h p k).getD x []).length).map λj_=>je (((jT m h p k).getD x []).getD j_ ik) e p)]) aF) aI:jW 26 Tryz.f54 (KU m h e k p x 0) (.exit 4) ⟨122,true,[(20,.e<|MW m h p k x e),(17,.own 17),(96,.e<|iP x),(95,.e<|iP ((jT m h p k).length:Int)),(94,.e<|jb<|jT m h p k),(10,.box 10 0),(3,.e<|iP p)],[(17,.row true 23 x 1<|sE<|(List.range x).map<|yV m h p k e),(10,.cells 41<|jt e)]⟩) .nil,.a (aC:(x+1)*24<=140737488355328),iD<|(x:Int)+1]<|.e<|af [.b 17 (YG rfl rfl rfl (λj hj=>by cases aro.1 hj;rfl):Bx.le (.row true 23 (x+1) 1 λi_ j_=>if i_<x then(sE<|(List.range x).map<|yV m h p k e) i_ j_ else(E.ng<|.sl true 1 1 λi_ j_=>[MW m h p k x e].getD (i_*1+j_)<|.v<|.bool false) (i_-x) j_)<|.row true 23 (x+1) 1<|sE<|(List.range<|x+1).map<|yV m h p k e)]) aF)
  (λhx=>by
    exact iS (ae [tF 97 (((jT m h p k).length:Int)<((jT m h p k).length:Int)) aC,.z 17]<|.e<|af [.o 17 (.e<|YE aH:aj (.sl true ((jT m h p k).length) 1<|sE<|(List.range<|(jT m h p k).length).map λi_=>(List.range<|((jT m h p k).getD i_ []).length).map λj_=>je (((jT m h p k).getD i_ []).getD j_ ik) e p)<|jb<|(List.range<|(jT m h p k).length).map λi_=>(List.range<|((jT m h p k).getD i_ []).length).map λj_=>je (((jT m h p k).getD i_ []).getD j_ ik) e p)]) aF) aI:jW 22 Tryz.f54 (KT m h e k p 0) (.exit 2) ⟨122,true,[(17,.e<|jb<|Gu m h p k e)],[]⟩) .nil,.c<|SX (Gu m h p k e) aN A8,ah 120 ((Gu m h p k e).any λr=>r.any λx=>x.all) uk])
def agW(uk:(((List.range<|(jT m h p k).length).map λi_=>(List.range<|((jT m h p k).getD i_ []).length).map λj_=>je (((jT m h p k).getD i_ []).getD j_ ik) e p).any λr=>r.any λx=>x.all)=false):ic 54 [jb m,im h,iP k,iP p]<|.ix [jb<|(List.range<|(jT m h p k).length).map λi_=>(List.range<|((jT m h p k).getD i_ []).length).map λj_=>je (((jT m h p k).getD i_ []).getD j_ ik) e p,iP 0]:=by
 have ra:=ga.iT;have n1:=ga.n1;have n8:=ga.n8;obtain⟨xn,pZ,hea⟩:=(Ms m h n n k p ga hh aC iu ie).1 e hr;have gs:=CN (h:=h) (p:=p) ga aC aC k;have rs:=gs.iT;have A8:∀ i,(((List.range<|(jT m h p k).length).map λi_=>(List.range<|((jT m h p k).getD i_ []).length).map λj_=>je (((jT m h p k).getD i_ []).getD j_ ik) e p).getD i []).length<=1000:=by
  intro i;by_cases hi:i<(jT m h p k).length
  .rw [Jy hi];have:=gs.IP i;simp only[cv,eu];omega
  .rw [bc,bX<|by simpa using hi];exact b7 _
 exact iy (af [.c<|RZ m _ _ ga,tT 24 (n=n) rfl,.c<|pe h aD,ai 33 h.all AT,tF 36 ((p:Int)<8) aC,tF 39 (512<(p:Int)) aC,tF 43 ((k:Int)<1) aC,tF 47 (16<(k:Int)) aC,ag [jb m,im h,iP k,iP p] xn,.c<|YC m.length aC aC,.s (Sp.jX (KS m h e k p) 0 k aC (λx hx mH=>by
    have w1:=yS (h:=h) ga (aC:1<=p) aC x;have w2:=FM w1 ga (aC:1<=p) (aC:p<=4096);have w3:=tN<|x+1;have w4:=oI h (iF ((x+1:Nat):Int)) (aC:1<=p) (aC:p<=4096);have w5:=CN (h:=h) ga (aC:1<=p) aC x;have w6:jO (uR (sd (sG m h p x) m p) (jh h (iF ((x+1:Nat):Int)) p) p) n n:=RT w2 (aC:1<=p) aC;exact iS (af [tT 65 (((x+1:Nat):Int)<=k) aC,.c<|YD (sG m h p x) m p _ _ _ aD aD aC aC,ai 76 ((0:Int) != 0) aE,.c<|Aa<|x+1,.c<|wm h (iF ((x+1:Nat):Int)) p aD aD,.c<|YF (sd (sG m h p x) m p) (jh h (iF ((x+1:Nat):Int)) p) _ _ p aD aD aC aC,.c<|YA (jT m h p x) (uR (sd (sG m h p x) m p) (jh h (iF ((x+1:Nat):Int)) p) p) _ _ p aD aD aC aC,ai 93 ((0:Int) != 0) aE,
     iD (((x+1:Nat):Int)+1)]) aF)
  (λhx=>by
    exact iS (af [tF 65 (((k+1:Nat):Int)<=k) aC]) aF) aI:jW 11 Tryz.f54 (KS m h e k p 0) (.exit 0) ⟨122,true,[(13,.e<|jb<|jT m h p k),(10,.box 10 0),(3,.e<|iP p)],[(10,.cells 41<|jt e)]⟩)<|af [.o 14<|aq 1 ((0+1:Nat):Int) aO],.y 17 17 true 23 1<|sE<|(List.range 0).map<|yV m h p k e,.s (Sp.jX (KT m h e k p) 0 ((jT m h p k).length) aC (λx hx mH=>by
    have lx:=gs.mQ (aC:x<n);exact iS (ae [tT 97 ((x:Int)<((jT m h p k).length:Int)) aC,iX (x:Int)<|(jT m h p k).length,.y 20 20 true 41 7<|jL<|(List.range 0).map<|CR m h p k x e,.s (Sp.jX (KU m h e k p x) 0 (((jT m h p k).getD x []).length) aC (λy hy aiY=>by
    have w1:=gs.sJ (aC:x<n) (aC:y<n);have h1:=qH<|je (((jT m h p k).getD x []).getD y ik) e p;exact iS (ae [tT 103 ((y:Int)<(((jT m h p k).getD x []).length:Int)) aC,iX (y:Int)<|((jT m h p k).getD x []).length,.c<|uH (CS m h p k x y) e p aD aD,.o 111<|.e<|lW<|je (CS m h p k x y) e p,.a (aC:(y+[je (((jT m h p k).getD x []).getD y ik) e p].length)*88<=140737488355328),iD<|(y:Int)+1]<|.e<|af [.b 20 (zL rfl rfl rfl:Bx.le (.row true 41 (y+[je (CS m h p k x y) e p].length) 7 λi_ j_=>if i_<y then(jL<|(List.range y).map<|CR m h p k x e) i_ j_ else(E.ng<|iA [je (CS m h p k x y) e p]) (i_-y) j_)<|.row true 41 (y+1) 7<|jL<|(List.range<|y+1).map<|CR m h p k x e)]) aF)
  (λhy=>by
    exact iS (ae [tF 103 ((((jT m h p k).getD x []).length:Int)<(((jT m h p k).getD x []).length:Int)) aC,.z 20]<|.e<|af [.o 20 (.e<|zK aH:aj (.sl true (((jT m h p k).getD x []).length) 7<|jL<|(List.range<|((jT m h p k).getD x []).length).map λj_=>je (((jT m h p k).getD x []).getD j_ ik) e p)<|iA<|(List.range<|((jT m h p k).getD x []).length).map λj_=>je (((jT m h p k).getD x []).getD j_ ik) e p)]) aF) aI:jW 26 Tryz.f54 (KU m h e k p x 0) (.exit 4) ⟨122,true,[(20,.e<|MW m h p k x e),(17,.own 17),(96,.e<|iP x),(95,.e<|iP ((jT m h p k).length:Int)),(94,.e<|jb<|jT m h p k),(10,.box 10 0),(3,.e<|iP p)],[(17,.row true 23 x 1<|sE<|(List.range x).map<|yV m h p k e),(10,.cells 41<|jt e)]⟩) .nil,.a (aC:(x+1)*24<=140737488355328),iD<|(x:Int)+1]<|.e<|af [.b 17 (YG rfl rfl rfl (λj hj=>by cases aro.1 hj;rfl):Bx.le (.row true 23 (x+1) 1 λi_ j_=>if i_<x then(sE<|(List.range x).map<|yV m h p k e) i_ j_ else(E.ng<|.sl true 1 1 λi_ j_=>[MW m h p k x e].getD (i_*1+j_)<|.v<|.bool false) (i_-x) j_)<|.row true 23 (x+1) 1<|sE<|(List.range<|x+1).map<|yV m h p k e)]) aF)
  (λhx=>by
    exact iS (ae [tF 97 (((jT m h p k).length:Int)<((jT m h p k).length:Int)) aC,.z 17]<|.e<|af [.o 17 (.e<|YE aH:aj (.sl true ((jT m h p k).length) 1<|sE<|(List.range<|(jT m h p k).length).map λi_=>(List.range<|((jT m h p k).getD i_ []).length).map λj_=>je (((jT m h p k).getD i_ []).getD j_ ik) e p)<|jb<|(List.range<|(jT m h p k).length).map λi_=>(List.range<|((jT m h p k).getD i_ []).length).map λj_=>je (((jT m h p k).getD i_ []).getD j_ ik) e p)]) aF) aI:jW 22 Tryz.f54 (KT m h e k p 0) (.exit 2) ⟨122,true,[(17,.e<|jb<|Gu m h p k e)],[]⟩) .nil,.c<|SX (Gu m h p k e) aN A8,ai 120 ((Gu m h p k e).any λr=>r.any λx=>x.all) uk])
end
end
end
def Rn{s:List<|List Iv}{e:Iv}{p:Nat}:((List.range<|s.length).map λi_=>(List.range<|(s.getD i_ []).length).map λj_=>je ((s.getD i_ []).getD j_ ik) e p)=s.map λr=>r.map λx=>je x e p:=by
 apply dU
 .simp
 .intro i h1 h2;have hi:i<s.length:=by simpa using h2
  simp only[ev,ez];rw[vU hi];apply dU
  .simp
  .intro j h3 h4;have hj:j<s[i].length:=by simpa using h4
   simp only[ev,ez];rw[vU hj]
def Oy(m:List<|List Iv)(h:Iv)(n k p:Nat)(ga:jO m n n)(hh:h.ig)(AT:h.all=false)(mT:1<=k)(hk:k<=16)(iu:8<=p)(ie:p<=512):
 (∀ x,yi m h k p=some x->ic 54 [jb m,im h,iP (k:Int),iP (p:Int)] (.ix [jb x,iP 0])) /\
 (yi m h k p=none->ic 54 [jb m,im h,iP (k:Int),iP (p:Int)] (.ix [.v<|.slice none 0 0,iP 15])):=by
 unfold yi;cases hr:tP m h k p with
 |none=>exact⟨λx hx=>(by cases hx),λ_=>agU m h n k p ga hh AT mT hk iu ie hr⟩
 |some e=>
  rw[dj];simp only;cases uk:((jT m h p k).map λr=>r.map λx=>je x e p).any λr=>r.any λx=>x.all with
  |true=>
   rw[aY rfl];exact⟨λx hx=>(by cases hx),λ_=>agV m h n k p ga hh AT mT hk iu ie e hr<|by rw[Rn];exact uk⟩
  |false=>
   rw[aX aE];refine⟨λx hx=>?_,λhx=>(by cases hx)⟩;cases hx;have:=agW m h n k p ga hh AT mT hk iu ie e hr (by rw[Rn];exact uk);rwa[Rn]at this
section
variable(s:kp)(x:List Iv)(d:Dy)
noncomputable def XM(b:List Iv)(p:Nat)(N:Nat)(i:Nat):PS:=⟨66,true,[(14,.own 14),(42,.e<|iP i),(41,.e<|iP x.length),(13,.box 13 0),(11,.e<|iA<|jZ s.tape (b++s.params) p),(1,.e<|iA x),(4,.e<|iP p)],[(14,.row true 41 i 7<|jL<|(List.range i).map λj_=>(je (x.getD j_ ik) (iL (mK d) ((jZ s.tape (b++s.params) p).getD j_ ik) p) p)),(13,.cells 41<|ar++jf d++[bP false])]⟩
noncomputable def XN(b:List Iv)(p:Nat)(i:Nat):PS:=⟨66,true,[(14,.own 14),(42,.e<|iP i),(41,.e<|iP x.length),(13,.box 13 0),(11,.e<|iA<|jZ s.tape (b++s.params) p),(1,.e<|iA x),(4,.e<|iP p)],[(14,.row true 41 i 7<|jL<|(List.range i).map λj_=>(je (x.getD j_ ik) (iL (mK d) ((jZ s.tape (b++s.params) p).getD j_ ik) p) p)),(13,.cells 41<|ar++jf d++[bP false])]⟩
section
variable(p:Nat)
def U4(N:Nat)(k:Nat):PS:=⟨55,true,[(22,.e<|iP k),(10,.pN 62 [.box 5,.box 4,.box 6,.box 7]),(7,.box 7 0),(6,.box 6 0),(5,.box 5 0),(4,.box 4 0)],[(7,.cells 3 [iP p]),(6,.cells 37<|jf d),(5,.cells 23 [iA x]),(4,.cells 31 [iP s.tape.iH,mo s.tape.ij,mg s.tape.iB,iP s.iN,iA s.params])]⟩
def U5(k:Nat):PS:=⟨55,true,[(22,.e<|iP k),(10,.pN 62 [.box 5,.box 4,.box 6,.box 7]),(7,.box 7 0),(6,.box 6 0),(5,.box 5 0),(4,.box 4 0)],[(7,.cells 3 [iP p]),(6,.cells 37<|jf d),(5,.cells 23 [iA x]),(4,.cells 31 [iP s.tape.iH,mo s.tape.ij,mg s.tape.iB,iP s.iN,iA s.params])]⟩
noncomputable def U8(N:Nat)(j:Nat):PS:=⟨55,true,[(36,.e<|iP j),(14,.e<|iA<|lK s x d p j),(7,.box 7 0),(6,.box 6 0),(5,.box 5 0),(4,.box 4 0)],[(7,.cells 3 [iP p]),(6,.cells 37<|jf d),(5,.cells 23 [iA x]),(4,.cells 31 [iP s.tape.iH,mo s.tape.ij,mg s.tape.iB,iP s.iN,iA s.params])]⟩
def U6(k:Nat):PS:=⟨55,true,[(22,.e<|iP k),(10,.pN 62 [.box 5,.box 4,.box 6,.box 7]),(7,.box 7 0),(6,.box 6 0),(5,.box 5 0),(4,.box 4 0)],[(7,.cells 3 [iP p]),(6,.cells 37<|jf d),(5,.cells 23 [iA x]),(4,.cells 31 [iP s.tape.iH,mo s.tape.ij,mg s.tape.iB,iP s.iN,iA s.params])]⟩
noncomputable def U9(j:Nat):PS:=⟨55,true,[(36,.e<|iP j),(14,.e<|iA<|lK s x d p j),(7,.box 7 0),(6,.box 6 0),(5,.box 5 0),(4,.box 4 0)],[(7,.cells 3 [iP p]),(6,.cells 37<|jf d),(5,.cells 23 [iA x]),(4,.cells 31 [iP s.tape.iH,mo s.tape.ij,mg s.tape.iB,iP s.iN,iA s.params])]⟩
end
end
def adK(x:Iv)(hx:x.ig)(xa:x.all=false):ic 182 [im x]<|bP false:=
 iy (af [.c<|pe x aD,ai 8 x.all xa])
def Kn(s:kp)(b:List Iv)(hb:kH s.iN b)(h4:s.iN<=4):ic 106 [j8 s,iA b]<|bP true:=by
 have DC:=hb.len;exact iy<|af [ah 9 ((b.length:Int)==s.iN)<|FP hb.len,.c (zJ true _ _ 182 [] (λ_=>false) (λi hi=>adK _ (hb.ok i hi).1 (hb.ok i hi).2) aC λ_ _=>rfl:ic 39 [iA b,.fn 182 []] _)]
section
variable(s:kp)(x:List Iv)(d:Dy)
def Dk(p:Nat)(h:mD s)(hx:kH s.iN x)(hd:d.ig)(h0:0<d.jc)(iu:8<=p)(ie:p<=512):ic 61 [j8 s,iA x,iw d,iP p]<|bP true:=by
 have s4:=h.s4;exact iy<|af [.c<|Ew s aD,.c<|Kn s x hx aC,.c<|qk d aD,.c<|nL d aD,tB 23<|aZ h0,tT 27 (8<=(p:Int)) aC,tT 31 ((p:Int)<=512) aC]
def ajk(b:List Iv)(p:Nat)(h:mD s)(hx:kH s.iN x)(hd:d.ig)(h0:0<d.jc)(hb:kH s.iN b)(iu:8<=p)(ie:p<=512)(hn:nD (jZ s.tape (b++s.params) p)=true):ic 109 [j8 s,iA x,iw d,iA b,iP p]<|.v<|.slice none 0 0:=by
 have s4:=h.s4;exact iy<|af [.c<|Dk s x d p h hx hd h0 iu ie,.c<|Kn s b hb s4,.c<|ahC s b p h hb iu ie hn,ah 37 ((11:Int) != 0) aE]
end
def R1(d:Dy):E.le (.agg<|ar++jf d++[bP false])<|im<|mK d:=
 .agg (.cons (.refl _)<|.cons zZ<|.cons (.refl _)<|.cons (.refl _)<|.cons (.refl _)<|.cons (.refl _)<|.cons (.refl _) .nil)
section
variable(s:kp)(x:List Iv)(d:Dy)(b:List Iv)(p:Nat)(h:mD s)(hx:kH s.iN x)(hd:d.ig)(h0:0<d.jc)(hb:kH s.iN b)(iu:8<=p)(ie:p<=512)
section
variable(hn:nD (jZ s.tape (b++s.params) p)=false)
def ajl(N:Nat)(pR:N<x.length)(jH:∀ i,i<N->(je (x.getD i ik) (iL (mK d) ((jZ s.tape (b++s.params) p).getD i ik) p) p).all=false)(hN:(je (x.getD N ik) (iL (mK d) ((jZ s.tape (b++s.params) p).getD N ik) p) p).all=true):ic 109 [j8 s,iA x,iw d,iA b,iP p]<|.v<|.slice none 0 0:=by
 have s4:=h.s4;have Ck:=hx.len;have zp:=h.iB;have AS:=Dj s.tape (b++s.params) p;obtain⟨f1,f2,f3,f4⟩:=BU h hb;have fv:=Vx s.tape f4 (aC:1<=p) (aC:p<=4096);have hq:0<d.q:=(rX d).1.1 h0;have zB:=abl hd<|bE hq;exact iy (af [.c<|Dk s x d p h hx hd h0 iu ie,.c<|Kn s b hb s4,.c<|VP s b p h hb iu ie hn,ai 37 ((0:Int) != 0) aE,.y 14 14 true 41 7<|jL<|(List.range 0).map λj_=>(je (x.getD j_ ik) (iL (mK d) ((jZ s.tape (b++s.params) p).getD j_ ik) p) p),.s (Sp.jX (XM s x d b p N) 0 N aC (λi hi rA=>by
    have w1:=(hx.ok i aC).1;have w2:=fv i;have w3:=lE (mK d) ((jZ s.tape (b++s.params) p).getD i ik) (aC:1<=p) (aC:p<=4096);have sT:=qH<|je (x.getD i ik) (iL (mK d) ((jZ s.tape (b++s.params) p).getD i ik) p) p;exact iS (ae [tT 43 ((i:Int)<x.length) aC,iX (i:Int)<|x.length,.o 49 (.e<|R1 d:aj (.agg<|ar++jf d++[bP false])<|im<|mK d),iX (i:Int)<|(jZ s.tape (b++s.params) p).length,.c<|qp (mK d) ((jZ s.tape (b++s.params) p).getD i ik) p aD aD,.c<|uH (x.getD i ik) (iL (mK d) ((jZ s.tape (b++s.params) p).getD i ik) p) p aD aD,ai 59 ((je (x.getD i ik) (iL (mK d) ((jZ s.tape (b++s.params) p).getD i ik) p) p).all)<|jH i aC,.o 62<|.e<|lW<|je (x.getD i ik) (iL (mK d) ((jZ s.tape (b++s.params) p).getD i ik) p) p,.a (aC:(i+[je (x.getD i ik) (iL (mK d) ((jZ s.tape (b++s.params) p).getD i ik) p) p].length)*88<=140737488355328),iD<|(i:Int)+1]<|.e<|af [.b 14 (zL rfl rfl rfl:Bx.le (.row true 41 (i+[je (x.getD i ik) (iL (mK d) ((jZ s.tape (b++s.params) p).getD i ik) p) p].length) 7 λi_ j_=>if i_<i then(jL<|(List.range i).map λj_=>(je (x.getD j_ ik) (iL (mK d) ((jZ s.tape (b++s.params) p).getD j_ ik) p) p)) i_ j_ else(E.ng<|iA [je (x.getD i ik) (iL (mK d) ((jZ s.tape (b++s.params) p).getD i ik) p) p]) (i_-i) j_)<|.row true 41 (i+1) 7<|jL<|(List.range<|i+1).map λj_=>(je (x.getD j_ ik) (iL (mK d) ((jZ s.tape (b++s.params) p).getD j_ ik) p) p))]) aF)
  (λhi=>by
    have w1:=(hx.ok N aC).1;have w2:=fv N;have w3:=lE (mK d) ((jZ s.tape (b++s.params) p).getD N ik) (aC:1<=p) (aC:p<=4096);exact iS (af [tT 43 ((N:Int)<x.length) aC,iX (N:Int)<|x.length,.o 49 (.e<|R1 d:aj (.agg<|ar++jf d++[bP false])<|im<|mK d),iX (N:Int)<|(jZ s.tape (b++s.params) p).length,.c<|qp (mK d) ((jZ s.tape (b++s.params) p).getD N ik) p aD aD,.c<|uH (x.getD N ik) (iL (mK d) ((jZ s.tape (b++s.params) p).getD N ik) p) p aD aD,ah 59 ((je (x.getD N ik) (iL (mK d) ((jZ s.tape (b++s.params) p).getD N ik) p) p).all) hN]) aF) aI:jW 9 f109 (XM s x d b p N 0) .ret ⟨66,true,[(10,.e<|.v<|.slice none 0 0)],[]⟩) .nil])
def ajm(jH:∀ i,i<x.length->(je (x.getD i ik) (iL (mK d) ((jZ s.tape (b++s.params) p).getD i ik) p) p).all=false):ic 109 [j8 s,iA x,iw d,iA b,iP p]<|iA<|(List.range x.length).map λj_=>(je (x.getD j_ ik) (iL (mK d) ((jZ s.tape (b++s.params) p).getD j_ ik) p) p):=by
 have s4:=h.s4;have Ck:=hx.len;have zp:=h.iB;have AS:=Dj s.tape (b++s.params) p;obtain⟨f1,f2,f3,f4⟩:=BU h hb;have fv:=Vx s.tape f4 (aC:1<=p) (aC:p<=4096);have hq:0<d.q:=(rX d).1.1 h0;have zB:=abl hd<|bE hq;exact iy (af [.c<|Dk s x d p h hx hd h0 iu ie,.c<|Kn s b hb s4,.c<|VP s b p h hb iu ie hn,ai 37 ((0:Int) != 0) aE,.y 14 14 true 41 7<|jL<|(List.range 0).map λj_=>(je (x.getD j_ ik) (iL (mK d) ((jZ s.tape (b++s.params) p).getD j_ ik) p) p),.s (Sp.jX (XN s x d b p) 0 x.length aC (λi hi rA=>by
    have w1:=(hx.ok i aC).1;have w2:=fv i;have w3:=lE (mK d) ((jZ s.tape (b++s.params) p).getD i ik) (aC:1<=p) (aC:p<=4096);have sT:=qH<|je (x.getD i ik) (iL (mK d) ((jZ s.tape (b++s.params) p).getD i ik) p) p;exact iS (ae [tT 43 ((i:Int)<x.length) aC,iX (i:Int)<|x.length,.o 49 (.e<|R1 d:aj (.agg<|ar++jf d++[bP false])<|im<|mK d),iX (i:Int)<|(jZ s.tape (b++s.params) p).length,.c<|qp (mK d) ((jZ s.tape (b++s.params) p).getD i ik) p aD aD,.c<|uH (x.getD i ik) (iL (mK d) ((jZ s.tape (b++s.params) p).getD i ik) p) p aD aD,ai 59 ((je (x.getD i ik) (iL (mK d) ((jZ s.tape (b++s.params) p).getD i ik) p) p).all)<|jH i aC,.o 62<|.e<|lW<|je (x.getD i ik) (iL (mK d) ((jZ s.tape (b++s.params) p).getD i ik) p) p,.a (aC:(i+[je (x.getD i ik) (iL (mK d) ((jZ s.tape (b++s.params) p).getD i ik) p) p].length)*88<=140737488355328),iD<|(i:Int)+1]<|.e<|af [.b 14 (zL rfl rfl rfl:Bx.le (.row true 41 (i+[je (x.getD i ik) (iL (mK d) ((jZ s.tape (b++s.params) p).getD i ik) p) p].length) 7 λi_ j_=>if i_<i then(jL<|(List.range i).map λj_=>(je (x.getD j_ ik) (iL (mK d) ((jZ s.tape (b++s.params) p).getD j_ ik) p) p)) i_ j_ else(E.ng<|iA [je (x.getD i ik) (iL (mK d) ((jZ s.tape (b++s.params) p).getD i ik) p) p]) (i_-i) j_)<|.row true 41 (i+1) 7<|jL<|(List.range<|i+1).map λj_=>(je (x.getD j_ ik) (iL (mK d) ((jZ s.tape (b++s.params) p).getD j_ ik) p) p))]) aF)
  (λhi=>by
    exact iS (ae [tF 43 ((x.length:Int)<x.length) aC,.z 14]<|.e<|af [.o 14 (.e<|zK aH:aj (.sl true x.length 7<|jL<|(List.range x.length).map λj_=>(je (x.getD j_ ik) (iL (mK d) ((jZ s.tape (b++s.params) p).getD j_ ik) p) p))<|iA<|(List.range x.length).map λj_=>(je (x.getD j_ ik) (iL (mK d) ((jZ s.tape (b++s.params) p).getD j_ ik) p) p))]) aF) aI:jW 9 f109 (XN s x d b p 0) (.exit 0) ⟨66,true,[(14,.e<|iA<|(List.range x.length).map λj_=>(je (x.getD j_ ik) (iL (mK d) ((jZ s.tape (b++s.params) p).getD j_ ik) p) p))],[]⟩) .nil])
end
def LC:ic 109 [j8 s,iA x,iw d,iA b,iP p]<|iA<|lh s x d b p:=by
 unfold lh;cases hn:nD (jZ s.tape (b++s.params) p)with
 |true=>rw[aY rfl];exact(ajk s x d b p h hx hd h0 hb iu ie hn).jA<|.nil _ _ _
 |false=>
  rw[aX aE];cases ha:nD (Bf x (jZ s.tape (b++s.params) p) d p)with
  |true=>
   rw[aY rfl];unfold nD at ha;rw[dc,LF]at ha;obtain⟨i,hi,lV⟩:=ha;obtain⟨N,h1,h2,h3⟩:=sD (p:=λi=>((Bf x (jZ s.tape (b++s.params) p) d p).getD i ik).all) ⟨i,bS.1 hi,lV⟩;refine(ajl s x d b p h hx hd h0 hb iu ie hn N h1 (λi hi=>?_) ?_).jA<|.nil _ _ _
   .have:=h3 i hi;rw[LD (aC:i<x.length)]at this;exact this
   .rw [LD h1]at h2;exact h2
  |false=>
   rw[aX aE];refine ajm s x d b p h hx hd h0 hb iu ie hn λi hi=>?_
   unfold nD at ha;rw[cF,LF]at ha;have:=ha i<|bS.2 hi;rw[LD hi]at this;exact aU this
def ai4(hi:(lh s x d b p)=[]):ic 64 [j8 s,iA x,iw d,iA b,iP p]<|bP false:=
 iy (af [.c<|LC s x d b p h hx hd h0 hb iu ie,ai 20 (decide (0<((lh s x d b p).length:Int)))<|by rw[hi];rfl])
end
def AD{n:Nat}{b:List Iv}(h:kH n b)(h1:1<=n)(h4:n<=4):1<=b.length/\b.length<=4/\qN b:=⟨by rw[h.len];exact h1,by rw[h.len];exact h4,h.ok⟩
section
variable(s:kp)(x:List Iv)(d:Dy)(b:List Iv)(p:Nat)(h:mD s)(hx:kH s.iN x)(hd:d.ig)(h0:0<d.jc)(hb:kH s.iN b)(iu:8<=p)(ie:p<=512)
def ai5(hi:(lh s x d b p)≠[]):ic 64 [j8 s,iA x,iw d,iA b,iP p]<|bP<|wi x b&&wi (lh s x d b p) b:=by
 have s1:=h.s1;have s4:=h.s4;obtain⟨x1,x4,xo⟩:=AD hx s1 s4;obtain⟨b1,b4,bo⟩:=AD hb s1 s4;have Ck:=hx.len;have DC:=hb.len;have Fs:=P5 hx (aC:1<=p) (aC:p<=4096) hi;obtain⟨i1,i4,io⟩:=AD Fs s1 s4;have hli:=Fs.len;exact iy (ae [.c<|LC s x d b p h hx hd h0 hb iu ie,tT 20 (0<((lh s x d b p).length:Int)) aC,.c<|TO x b aC aC aC aD aD]<|.w (wi x b=true)
  (λk1=>ae [tB 24 k1,.c<|TO (lh s x d b p) b aC aC aC aD aD]<|rQ (bP<|wi (lh s x d b p) b) (bP<|wi x b&&wi (lh s x d b p) b)<|by simp[k1])
  (λk1=>ae [tB 24<|aU k1]<|rQ (bP false) (bP<|wi x b&&wi (lh s x d b p) b)<|by simp[k1]))
def Ik:ic 64 [j8 s,iA x,iw d,iA b,iP p]<|bP<|tD s x d b p:=by
 unfold tD;by_cases hi:(lh s x d b p)=[]
 .have:=ai4 s x d b p h hx hd h0 hb iu ie hi;rwa[hi,show(!([]:List Iv).isEmpty&&(wi x b&&wi [] b))=false from rfl]
 .have:=ai5 s x d b p h hx hd h0 hb iu ie hi;have e:((lh s x d b p)).isEmpty=false:=by
   cases q:(lh s x d b p)with
   |nil=>exact absurd q hi
   |cons _ _=>rfl
  rwa[e,eH,eR]
end
def apj(k:Int)(h1:-100<=k)(h2:k<=100):ic 107 [iw ⟨false,1,0⟩,iP k]<|.ix [iw<|pz k,iP 0]:=by
 have:=Km ⟨false,1,0⟩ k FZ aC aC;have e:canon false 1 (0+k)=pz k:=by rw[Int.zero_add];exact T5 k
 have e2:kQ (canon false 1<|0+k)=pz k:=by rw[e];exact BY<|Se h1 h2
 have e3:mN (canon false 1<|0+k)=0:=by rw[e];exact GX<|Se h1 h2
 change ic 107 [iw ⟨false,1,0⟩,iP k] (.ix [iw<|kQ<|canon false 1<|0+k,iP<|mN<|canon false 1<|0+k])at this;rwa[e2,e3]at this
def ain(x:List Iv)(d:Dy):(B8 x d==0)=rZ x d:=by
 unfold B8;cases rZ x d<;>rfl
def V5(x:List Iv)(k:Int)(x1:1<=x.length)(x8:x.length<=8)(hx:qN x)(k1:-100<=k)(k2:k<=100):ic 63 [iA x,iP k]<|.ix [iA<|su x<|pz k,bP<|rZ x<|pz k]:=by
 have v:=Sg k1 k2;have sg:=Sf k;exact iy<|ae [.c<|qY 1,ag [iw<|iU 1,iP k]<|apj _ aC aC,ai 16 ((0:Int) != 0) aE,.c<|TN x (pz k) aC aC aD aD aD]<|rR (.ix [iA<|su x<|pz k,bP<|rZ x<|pz k]) (.ix<|.cons (.refl _)<|.cons (.jP<|by rw[ain]) .nil:E.le (.ix [iA<|su x<|pz k,bP<|(B8 x<|pz k)==0])<|.ix [iA<|su x<|pz k,bP<|rZ x<|pz k])
section
variable(s:kp)(x:List Iv)(d:Dy)(p:Nat)(h:mD s)(hx:kH s.iN x)
def acZ(hd:d.ig)(h0:0<d.jc)(iu:8<=p)(ie:p<=512)(k:Int)(k1:-100<=k)(k2:k<=100)(hg:(rZ x<|pz k)=false):ic 62 [iP k,(.ji 1 λj_=>[iA x].getD j_ .any),(.ji 5 λj_=>[iP s.tape.iH,mo s.tape.ij,mg s.tape.iB,iP s.iN,iA s.params].getD j_ .any),(.ji 3 λj_=>[bP d.neg,il<|ib d.m,iP d.e].getD j_ .any),(.ji 1 λj_=>[iP p].getD j_ .any)]<|.ix [iA<|su x<|pz k,bP false]:=by
 have s1:=h.s1;have s4:=h.s4;obtain⟨x1,x4,xo⟩:=AD hx s1 s4;exact iy<|af [.c<|V5 x k aC aC xo aC aC,ai 15 (rZ x<|pz k) hg]
section
variable(hd:d.ig)(h0:0<d.jc)(iu:8<=p)(ie:p<=512)(k:Int)
def ac0(k1:-100<=k)(k2:k<=100)(hg:(rZ x<|pz k)=true):ic 62 [iP k,(.ji 1 λj_=>[iA x].getD j_ .any),(.ji 5 λj_=>[iP s.tape.iH,mo s.tape.ij,mg s.tape.iB,iP s.iN,iA s.params].getD j_ .any),(.ji 3 λj_=>[bP d.neg,il<|ib d.m,iP d.e].getD j_ .any),(.ji 1 λj_=>[iP p].getD j_ .any)]<|.ix [iA<|su x<|pz k,bP<|tD s x d (su x<|pz k) p]:=by
 have s1:=h.s1;have s4:=h.s4;obtain⟨x1,x4,xo⟩:=AD hx s1 s4;have hb:=ON hx (Sg k1 k2) (aba<|Sf k) hg;exact iy<|af [.c<|V5 x k aC aC xo aC aC,ah 15 (rZ x<|pz k) hg,.c<|Ik s x d (su x<|pz k) p h hx hd h0 hb iu ie]
def GK(k1:-100<=k:=by omega)(k2:k<=100:=by omega):ic 62 [iP k,(.ji 1 λj_=>[iA x].getD j_ .any),(.ji 5 λj_=>[iP s.tape.iH,mo s.tape.ij,mg s.tape.iB,iP s.iN,iA s.params].getD j_ .any),(.ji 3 λj_=>[bP d.neg,il<|ib d.m,iP d.e].getD j_ .any),(.ji 1 λj_=>[iP p].getD j_ .any)]<|.ix [iA<|su x<|pz k,bP<|sr s x d p k]:=by
 unfold sr;cases hg:rZ x (pz k)with
 |false=>exact acZ s x d p h hx hd h0 iu ie k k1 k2 hg
 |true=>exact ac0 s x d p h hx hd h0 iu ie k k1 k2 hg
end
end
def an0(d:Dy)(hd:d.ig):ic 107 [iw d,iP (-3)]<|.ix [iw<|Bz d,iP<|RU d]:=Km d (-3) hd aE aE 
def V4{x:List Iv}{d:Dy}:B8 x d=0↔rZ x d=true:=by
 unfold B8;cases rZ x d<;>simp
def ap8(s:kp)(x:List Iv)(d:Dy)(b:List Iv)(p:Nat)(h:mD s)(hx:kH s.iN x)(hd:d.ig)(h0:0<d.jc)(hb:kH s.iN b)(iu:8<=p)(ie:p<=512)(hi:(lh s x d b p)=[]):ic 65 [j8 s,iA x,iw d,iA b,iP p]<|.v<|.slice none 0 0:=
 iy (af [.c<|LC s x d b p h hx hd h0 hb iu ie,ah 26 (((lh s x d b p).length:Int)==0)<|by rw[hi];rfl])
def IQ{l:List Iv}(h:l≠[]):((l.length:Int)==0)=false:=nG λq=>h<|ari.1 q
section
variable(s:kp)(x:List Iv)(d:Dy)
section
variable(b:List Iv)(p:Nat)(h:mD s)(hx:kH s.iN x)(hd:d.ig)(h0:0<d.jc)(hb:kH s.iN b)(iu:8<=p)(ie:p<=512)
def ap9(hi:(lh s x d b p)≠[]):ic 65 [j8 s,iA x,iw d,iA b,iP p]<|iA<|mc s x d b p:=by
 have s1:=h.s1;have s4:=h.s4;obtain⟨x1,x4,xo⟩:=AD hx s1 s4;obtain⟨b1,b4,bo⟩:=AD hb s1 s4;have Ck:=hx.len;have DC:=hb.len;have Fs:=P5 hx (aC:1<=p) (aC:p<=4096) hi;obtain⟨i1,i4,io⟩:=AD Fs s1 s4;have hli:=Fs.len;have hho:=Xi hx Fs;obtain⟨u1,u4,uo⟩:=AD hho s1 s4;have wv:=ap7 (ns x<|lh s x d b p) (aC:1<=p) (aC:p<=4096);have sv:=aaQ<|sL (ns x<|lh s x d b p) p;have sn:=aml<|aaP<|ace (ns x<|lh s x d b p) p;exact iy (ae [.c<|LC s x d b p h hx hd h0 hb iu ie,ai 26 (((lh s x d b p).length:Int)==0)<|IQ hi,.c<|ad6 x (lh s x d b p) aC aC aC aD aD,.c<|ad9 (ns x<|lh s x d b p) p aC aC aD aC aC]<|.w (JT (ns x<|lh s x d b p) p=true)
  (λk1=>ae [tB 35 k1,.c<|nL (sL (ns x<|lh s x d b p) p) aD]<|.w ((Dy.jc<|sL (ns x<|lh s x d b p) p)=0)
   (λk2=>ae [tB 41<|aT k2]<|rQ (iA<|ns x<|lh s x d b p) (iA<|mc s x d b p)<|by unfold mc;rw[aX hi];simp[k1,k2])
   (λk2=>ae [tB 41<|aS k2,.c<|an0 (sL (ns x<|lh s x d b p) p) aD]<|.w ((RU<|sL (ns x<|lh s x d b p) p)=0)
    (λk3=>ae [tB 50<|aV k3,.c<|TN (ns x<|lh s x d b p) (Bz<|sL (ns x<|lh s x d b p) p) aC aC aD aD aD]<|.w ((B8 (ns x<|lh s x d b p)<|Bz<|sL (ns x<|lh s x d b p) p)=0)
     (λk4=>ae [tB 59<|aT k4]<|rQ (iA<|su (ns x<|lh s x d b p)<|Bz<|sL (ns x<|lh s x d b p) p) (iA<|mc s x d b p)<|by unfold mc;rw[aX hi];simp[k1,k2,k3,V4.1 k4])
     (λk4=>ae [tB 59<|aS k4]<|rQ (iA<|ns x<|lh s x d b p) (iA<|mc s x d b p)<|by unfold mc;rw[aX hi];simp[k1,k2,k3,show ¬rZ _ _=true from λq=>k4<|V4.2 q]))
    (λk3=>ae [tB 50<|aW k3]<|rQ (iA<|ns x<|lh s x d b p) (iA<|mc s x d b p)<|by unfold mc;rw[aX hi];simp[k1,k2,k3])))
  (λk1=>ae [tB 35<|aU k1]<|rQ (iA<|ns x<|lh s x d b p) (iA<|mc s x d b p)<|by unfold mc;rw[aX hi];simp[k1]))
def JU:ic 65 [j8 s,iA x,iw d,iA b,iP p]<|iA<|mc s x d b p:=by
 by_cases hi:(lh s x d b p)=[]
 .have:=ap8 s x d b p h hx hd h0 hb iu ie hi;unfold mc;rw[aY hi];exact this.jA<|.nil _ _ _
 .exact ap9 s x d b p h hx hd h0 hb iu ie hi
end
section
variable(p:Nat)(h:mD s)(hx:kH s.iN x)(hd:d.ig)(h0:0<d.jc)(iu:8<=p)(ie:p<=512)
def agl(N:Nat)(pR:N<24)(jH:∀ k:Nat,k<N->sr s x d p ((k:Int)-20)=false)(hN:sr s x d p ((N:Int)-20)=true):ic 19 [j8 s,iA x,iw d,iP p]<|.ix [iA<|su x<|pz<|(N:Int)-20,iP 0]:=
 iy (af [.c<|Dk s x d p h hx hd h0 iu ie,.s (Sp.jX (U4 s x d p N) 0 N aC (λk hk tA=>by
    exact iS (af [tT 23 ((k:Int)<24) aC,iD<|(k:Int)-20,ag [iP<|(k:Int)-20,(.ji 1 λj_=>[iA x].getD j_ .any),(.ji 5 λj_=>[iP s.tape.iH,mo s.tape.ij,mg s.tape.iB,iP s.iN,iA s.params].getD j_ .any),(.ji 3 λj_=>[bP d.neg,il<|ib d.m,iP d.e].getD j_ .any),(.ji 1 λj_=>[iP p].getD j_ .any)]<|GK _ _ _ _ h hx hd h0 iu ie _,ai 31 (sr s x d p<|(k:Int)-20)<|jH k aC,iD<|(k:Int)+1]) aF)
  (λhk=>by
    exact iS (af [tT 23 ((N:Int)<24) aC,iD<|(N:Int)-20,ag [iP<|(N:Int)-20,(.ji 1 λj_=>[iA x].getD j_ .any),(.ji 5 λj_=>[iP s.tape.iH,mo s.tape.ij,mg s.tape.iB,iP s.iN,iA s.params].getD j_ .any),(.ji 3 λj_=>[bP d.neg,il<|ib d.m,iP d.e].getD j_ .any),(.ji 1 λj_=>[iP p].getD j_ .any)]<|GK _ _ _ _ h hx hd h0 iu ie _,ah 31 (sr s x d p<|(N:Int)-20) hN]) aF) aI:jW 5 Tryz.f19 (U4 s x d p N 0) .ret ⟨55,true,[(9,.e<|iP 0),(8,.e<|iA<|su x<|pz<|(N:Int)-20)],[]⟩) .nil])
section
variable(jH:∀ k:Nat,k<24->sr s x d p ((k:Int)-20)=false)
def agn(N:Nat)(pR:N<10)(uY:∀ j,j<=N->kH s.iN (lK s x d p j))(hw:∀ j,j<N->mc s x d (lK s x d p j) p≠[]/\tD s x d (mc s x d (lK s x d p j) p) p=false)(hN:mc s x d (lK s x d p N) p=[]):ic 19 [j8 s,iA x,iw d,iP p]<|.ix [.v<|.slice none 0 0,iP 12]:=
 iy (af [.c<|Dk s x d p h hx hd h0 iu ie,.s (Sp.jX (U5 s x d p) 0 24 aC (λk hk tA=>by
    exact iS (af [tT 23 ((k:Int)<24) aC,iD<|(k:Int)-20,ag [iP<|(k:Int)-20,(.ji 1 λj_=>[iA x].getD j_ .any),(.ji 5 λj_=>[iP s.tape.iH,mo s.tape.ij,mg s.tape.iB,iP s.iN,iA s.params].getD j_ .any),(.ji 3 λj_=>[bP d.neg,il<|ib d.m,iP d.e].getD j_ .any),(.ji 1 λj_=>[iP p].getD j_ .any)]<|GK _ _ _ _ h hx hd h0 iu ie _,ai 31 (sr s x d p<|(k:Int)-20)<|jH k aC,iD<|(k:Int)+1]) aF)
  (λhk=>by
    exact iS (af [ai 23 (decide ((24:Int)<24)) aE]) aF) aI:jW 5 Tryz.f19 (U5 s x d p 0) (.exit 0) ⟨55,true,[(7,.box 7 0),(6,.box 6 0),(5,.box 5 0),(4,.box 4 0)],[(7,.cells 3 [iP p]),(6,.cells 37<|jf d),(5,.cells 23 [iA x]),(4,.cells 31 [iP s.tape.iH,mo s.tape.ij,mg s.tape.iB,iP s.iN,iA s.params])]⟩) .nil,.s (Sp.jX (U8 s x d p N) 0 N aC (λj hj WU=>by
    have AO:=uY j aC;obtain⟨jD,Ii⟩:=hw j aC;have lV:=EF hx (aC:1<=p) (aC:p<=4096) jD;exact iS (ae [tT 37 ((j:Int)<10) aC,.c<|JU s x d (lK s x d p j) p h hx hd h0 AO iu ie,ai 46 (((mc s x d (lK s x d p j) p).length:Int)==0)<|IQ jD,.c<|Ik s x d (mc s x d (lK s x d p j) p) p h hx hd h0 lV iu ie,ai 52 (tD s x d (mc s x d (lK s x d p j) p) p) Ii,iD<|(j:Int)+1]<|.e<|af [.o 14<|.refl<|.e<|iA<|lK s x d p<|j+1]) aF)
  (λhj=>by
    have AO:=uY N<|a7 _;exact iS (af [tT 37 ((N:Int)<10) aC,.c<|JU s x d (lK s x d p N) p h hx hd h0 AO iu ie,ah 46 (((mc s x d (lK s x d p N) p).length:Int)==0)<|by rw[hN];rfl]) aF) aI:jW 13 Tryz.f19 (U8 s x d p N 0) (.exit 2) ⟨55,true,[],[]⟩)<|af [.o 14<|.refl<|.e<|iA<|lK s x d p 0]])
def agj(uY:∀ j,j<=10->kH s.iN (lK s x d p j))(hw:∀ j,j<10->mc s x d (lK s x d p j) p≠[]/\tD s x d (mc s x d (lK s x d p j) p) p=false):ic 19 [j8 s,iA x,iw d,iP p]<|.ix [.v<|.slice none 0 0,iP 12]:=
 iy (af [.c<|Dk s x d p h hx hd h0 iu ie,.s (Sp.jX (U6 s x d p) 0 24 aC (λk hk tA=>by
    exact iS (af [tT 23 ((k:Int)<24) aC,iD<|(k:Int)-20,ag [iP<|(k:Int)-20,(.ji 1 λj_=>[iA x].getD j_ .any),(.ji 5 λj_=>[iP s.tape.iH,mo s.tape.ij,mg s.tape.iB,iP s.iN,iA s.params].getD j_ .any),(.ji 3 λj_=>[bP d.neg,il<|ib d.m,iP d.e].getD j_ .any),(.ji 1 λj_=>[iP p].getD j_ .any)]<|GK _ _ _ _ h hx hd h0 iu ie _,ai 31 (sr s x d p<|(k:Int)-20)<|jH k aC,iD<|(k:Int)+1]) aF)
  (λhk=>by
    exact iS (af [ai 23 (decide ((24:Int)<24)) aE]) aF) aI:jW 5 Tryz.f19 (U6 s x d p 0) (.exit 0) ⟨55,true,[(7,.box 7 0),(6,.box 6 0),(5,.box 5 0),(4,.box 4 0)],[(7,.cells 3 [iP p]),(6,.cells 37<|jf d),(5,.cells 23 [iA x]),(4,.cells 31 [iP s.tape.iH,mo s.tape.ij,mg s.tape.iB,iP s.iN,iA s.params])]⟩) .nil,.s (Sp.jX (U9 s x d p) 0 10 aC (λj hj WU=>by
    have AO:=uY j aC;obtain⟨jD,Ii⟩:=hw j aC;have lV:=EF hx (aC:1<=p) (aC:p<=4096) jD;exact iS (ae [tT 37 ((j:Int)<10) aC,.c<|JU s x d (lK s x d p j) p h hx hd h0 AO iu ie,ai 46 (((mc s x d (lK s x d p j) p).length:Int)==0)<|IQ jD,.c<|Ik s x d (mc s x d (lK s x d p j) p) p h hx hd h0 lV iu ie,ai 52 (tD s x d (mc s x d (lK s x d p j) p) p) Ii,iD<|(j:Int)+1]<|.e<|af [.o 14<|.refl<|.e<|iA<|lK s x d p<|j+1]) aF)
  (λhj=>by
    exact iS (af [ai 37 (decide ((10:Int)<10)) aE]) aF) aI:jW 13 Tryz.f19 (U9 s x d p 0) (.exit 2) ⟨55,true,[],[]⟩)<|af [.o 14<|.refl<|.e<|iA<|lK s x d p 0]])
end
end
end
section
variable(s:kp)(x:List Iv)(d:Dy)(p:Nat)
def U7(k:Nat):PS:=⟨55,true,[(22,.e<|iP k),(10,.pN 62 [.box 5,.box 4,.box 6,.box 7]),(7,.box 7 0),(6,.box 6 0),(5,.box 5 0),(4,.box 4 0)],[(7,.cells 3 [iP p]),(6,.cells 37<|jf d),(5,.cells 23 [iA x]),(4,.cells 31 [iP s.tape.iH,mo s.tape.ij,mg s.tape.iB,iP s.iN,iA s.params])]⟩
noncomputable def Va(N:Nat)(j:Nat):PS:=⟨55,true,[(36,.e<|iP j),(14,.e<|iA<|lK s x d p j),(7,.box 7 0),(6,.box 6 0),(5,.box 5 0),(4,.box 4 0)],[(7,.cells 3 [iP p]),(6,.cells 37<|jf d),(5,.cells 23 [iA x]),(4,.cells 31 [iP s.tape.iH,mo s.tape.ij,mg s.tape.iB,iP s.iN,iA s.params])]⟩
def agm(h:mD s)(hx:kH s.iN x)(hd:d.ig)(h0:0<d.jc)(iu:8<=p)(ie:p<=512)(jH:∀ k:Nat,k<24->sr s x d p ((k:Int)-20)=false)(N:Nat)(pR:N<10)(uY:∀ j,j<=N->kH s.iN (lK s x d p j))(hw:∀ j,j<N->mc s x d (lK s x d p j) p≠[]/\tD s x d (mc s x d (lK s x d p j) p) p=false)(jD:mc s x d (lK s x d p N) p≠[])(hN:tD s x d (mc s x d (lK s x d p N) p) p=true):ic 19 [j8 s,iA x,iw d,iP p]<|.ix [iA<|mc s x d (lK s x d p N) p,iP 0]:=by
 have hbN:=uY N<|a7 _;have lV:=EF hx (aC:1<=p) (aC:p<=4096) jD;exact iy (af [.c<|Dk s x d p h hx hd h0 iu ie,.s (Sp.jX (U7 s x d p) 0 24 aC (λk hk tA=>by
    exact iS (af [tT 23 ((k:Int)<24) aC,iD<|(k:Int)-20,ag [iP<|(k:Int)-20,(.ji 1 λj_=>[iA x].getD j_ .any),(.ji 5 λj_=>[iP s.tape.iH,mo s.tape.ij,mg s.tape.iB,iP s.iN,iA s.params].getD j_ .any),(.ji 3 λj_=>[bP d.neg,il<|ib d.m,iP d.e].getD j_ .any),(.ji 1 λj_=>[iP p].getD j_ .any)]<|GK _ _ _ _ h hx hd h0 iu ie _,ai 31 (sr s x d p<|(k:Int)-20)<|jH k aC,iD<|(k:Int)+1]) aF)
  (λhk=>by
    exact iS (af [ai 23 (decide ((24:Int)<24)) aE]) aF) aI:jW 5 Tryz.f19 (U7 s x d p 0) (.exit 0) ⟨55,true,[(7,.box 7 0),(6,.box 6 0),(5,.box 5 0),(4,.box 4 0)],[(7,.cells 3 [iP p]),(6,.cells 37<|jf d),(5,.cells 23 [iA x]),(4,.cells 31 [iP s.tape.iH,mo s.tape.ij,mg s.tape.iB,iP s.iN,iA s.params])]⟩) .nil,.s (Sp.jX (Va s x d p N) 0 N aC (λj hj WU=>by
    have AO:=uY j aC;obtain⟨jD,Ii⟩:=hw j aC;have lV:=EF hx (aC:1<=p) (aC:p<=4096) jD;exact iS (ae [tT 37 ((j:Int)<10) aC,.c<|JU s x d (lK s x d p j) p h hx hd h0 AO iu ie,ai 46 (((mc s x d (lK s x d p j) p).length:Int)==0)<|IQ jD,.c<|Ik s x d (mc s x d (lK s x d p j) p) p h hx hd h0 lV iu ie,ai 52 (tD s x d (mc s x d (lK s x d p j) p) p) Ii,iD<|(j:Int)+1]<|.e<|af [.o 14<|.refl<|.e<|iA<|lK s x d p<|j+1]) aF)
  (λhj=>by
    have AO:=uY N<|a7 _;have lV:=EF hx (aC:1<=p) (aC:p<=4096) jD;exact iS (af [tT 37 ((N:Int)<10) aC,.c<|JU s x d (lK s x d p N) p h hx hd h0 AO iu ie,ai 46 (((mc s x d (lK s x d p N) p).length:Int)==0)<|IQ jD,.c<|Ik s x d (mc s x d (lK s x d p N) p) p h hx hd h0 lV iu ie,ah 52 (tD s x d (mc s x d (lK s x d p N) p) p) hN]) aF) aI:jW 13 Tryz.f19 (Va s x d p N 0) .ret ⟨55,true,[(9,.e<|iP 0),(8,.e<|iA<|mc s x d (lK s x d p N) p)],[]⟩)<|af [.o 14<|.refl<|.e<|iA<|lK s x d p 0]])
end
def agh:Option (List Iv)->E
 |some b=>.ix [iA b,iP 0]
 |none=>.ix [.v<|.slice none 0 0,iP 12]
def agk(s:kp)(x:List Iv)(d:Dy)(p:Nat)(h:mD s)(hx:kH s.iN x)(hd:d.ig)(h0:0<d.jc)(iu:8<=p)(ie:p<=512):∃ o,ic 19 [j8 s,iA x,iw d,iP p] (agh o)/\(∀ b,o=some b->kH s.iN b/\tD s x d b p=true)/\(o=none->∀ k:Nat,k<24->sr s x d p ((k:Int)-20)=false):=by
 have p1:1<=p:= aC ;have p2:p<=4096:= aC ;by_cases ha:∃ N:Nat,N<24/\sr s x d p ((N:Int)-20)=true
 .obtain ⟨N,n1,n2,n3⟩:=sD (p:=λN=>sr s x d p<|(N:Int)-20) ha;refine⟨some _,agl s x d p h hx hd h0 iu ie N n1 (λk hk=>n3 k hk) n2,λb hb=>?_,λq=>by cases q⟩;cases hb;have n4:=n2;unfold sr at n4;rw[bD]at n4;exact⟨ON hx (Sg (k:=(N:Int)-20) aC aC) (aba<|Sf _) n4.1,n4.2⟩
 .have jH:∀ k:Nat,k<24->sr s x d p ((k:Int)-20)=false:=λk hk=>by
   cases hc:sr s x d p ((k:Int)-20)with
   |false=>rfl
   |true=>exact absurd ⟨k,hk,hc⟩ ha
  have uY:∀ N,(∀ j,j<N->mc s x d (lK s x d p j) p≠[])->∀ j,j<=N->kH s.iN (lK s x d p j):=λN jD j hj=>by
   rcases j with _|j
   .exact hx
   .exact EF hx p1 p2<|jD j aC
  by_cases nh:∃ N:Nat,N<10/\decide (mc s x d (lK s x d p N) p=[]\/tD s x d (mc s x d (lK s x d p N) p) p=true)=true
  .obtain ⟨N,n1,n2,n3⟩:=sD nh;have hw:∀ j,j<N->mc s x d (lK s x d p j) p≠[]/\tD s x d (mc s x d (lK s x d p j) p) p=false:=λj hj=>by
    have:=gK<|n3 j hj;exact⟨λq=>this<|.inl q,aU λq=>this<|.inr q⟩
   have hb:=uY N λj hj=>(hw j hj).1
   by_cases he:mc s x d (lK s x d p N) p=[]
   .exact ⟨none,agn s x d p h hx hd h0 iu ie jH N n1 hb hw he,(λb q=>by cases q),λ_=>jH⟩
   .have hN:=(cN n2).resolve_left he;refine⟨some _,agm s x d p h hx hd h0 iu ie jH N n1 hb hw he hN,λb q=>?_,λq=>by cases q⟩;cases q;exact⟨EF hx p1 p2 he,hN⟩
  .have hw:∀ j,j<10->mc s x d (lK s x d p j) p≠[]/\tD s x d (mc s x d (lK s x d p j) p) p=false:=λj hj=>
    ⟨λq=>nh ⟨j,hj,aZ<|.inl q⟩,aU λq=>nh ⟨j,hj,aZ<|.inr q⟩⟩
   exact⟨none,agj s x d p h hx hd h0 iu ie jH (uY 10 λj hj=>(hw j hj).1) hw,(λb q=>by cases q),λ_=>jH⟩
def aaE(s:lQ)(N:Nat)(x:Nat):PS:=⟨85,true,[(31,.e<|iP x),(30,.e<|iP s.ij.length),(29,.e<|pI s.ij),(3,.box 3 0),(1,.box 1 0)],[(3,.cells 29 [iP s.iH,pI s.ij,qV s.iB]),(1,.cells 31 [iP s.iH,pI s.ij,qV s.iB,iP s.iN,oe s.params])]⟩
section
variable(s:lQ)(x:Nat)
def aaF:PS:=⟨85,true,[(31,.e<|iP x),(30,.e<|iP s.ij.length),(29,.e<|pI s.ij),(3,.box 3 0),(1,.box 1 0)],[(3,.cells 29 [iP s.iH,pI s.ij,qV s.iB]),(1,.cells 31 [iP s.iH,pI s.ij,qV s.iB,iP s.iN,oe s.params])]⟩
def aaG:PS:=⟨85,true,[(31,.e<|iP x),(30,.e<|iP s.ij.length),(29,.e<|pI s.ij),(3,.box 3 0),(1,.box 1 0)],[(3,.cells 29 [iP s.iH,pI s.ij,qV s.iB]),(1,.cells 31 [iP s.iH,pI s.ij,qV s.iB,iP s.iN,oe s.params])]⟩
def aaH:PS:=⟨85,true,[(31,.e<|iP x),(30,.e<|iP s.ij.length),(29,.e<|pI s.ij),(3,.box 3 0),(1,.box 1 0)],[(3,.cells 29 [iP s.iH,pI s.ij,qV s.iB]),(1,.cells 31 [iP s.iH,pI s.ij,qV s.iB,iP s.iN,oe s.params])]⟩
end
def zP{a b:Bool}(h:a=true↔b=true):a=b:=eo.2 h
def qO{a b:Bool}(h:a=b):bP a=bP b:=h▸rfl
def rY{o:pA}{m:Int}{b:Bool}(h:b=nm o m:=by simp_all[nm,TH]<;>(repeat' split)<;>intros<;>omega):bP b=bP (nm o m):=qO h
noncomputable def alK(o:pA)(m:Int)(g:o.kz)(C:Bool)(hC:C=decide (o.cn=0/\o.cd=0))(q1:¬o.a<0)(q2:¬o.b<0):Tr prog Tb:=
  .w (o.kind=1)
  (λk1=>ae [tB 21<|aT k1,.c<|Mi o.cn o.cd]<|.w (qt o.cn o.cd=true)
   (λk2=>ae [tB 24 k2]<|.w (o.a=0)
    (λk3=>ae [tB 28<|aT k3]<|.w (o.b=0)
     (λk4=>ae [tB 33<|aT k4]<|rQ (bP<|o.n==0) (bP<|nm o m) rY)
     (λk4=>ae [tB 33<|aS k4]<|rQ (bP false) (bP<|nm o m) rY))
    (λk3=>ae [tB 28<|aS k3]<|rQ (bP false) (bP<|nm o m) rY))
   (λk2=>ae [tB 24<|aU k2]<|rQ (bP false) (bP<|nm o m) rY))
  (λk1=>ae [tB 21<|aS k1,.j 80 ⟨111,true,[(40,.e<|bP<|decide (3<=o.kind/\o.kind<=6)),(19,.e<|iP o.kind),(5,.e<|bP C),(2,.box 2 0),(1,.e<|iP m)],[(2,.cells 153 [iP o.kind,iP o.a,iP o.b,iP o.n,iP o.cn,iP o.cd])]⟩
   (.w (o.kind=3)
    (λm1=>ae [.v 40<|.bool<|aT m1]<|.e<|af [tB 40 (zP aJ:true=(decide (3<=o.kind/\o.kind<=6)))])
    (λm1=>ae [.v 40<|.bool<|aS m1]<|.w (o.kind=4)
     (λm2=>ae [tB 42<|aT m2]<|.e<|af [tB 40 (zP aJ:true=(decide (3<=o.kind/\o.kind<=6)))])
     (λm2=>ae [tB 42<|aS m2]<|.w (o.kind=5)
      (λm3=>ae [tB 43<|aT m3]<|.e<|af [tB 40 (zP aJ:true=(decide (3<=o.kind/\o.kind<=6)))])
      (λm3=>ae [tB 43<|aS m3]<|.e<|af [tB 40 (zP aJ:(o.kind==6)=(decide (3<=o.kind/\o.kind<=6)))]))))]<|.w (3<=o.kind/\o.kind<=6)
   (λk2=>ae [.v 40<|.bool<|aZ k2]<|.w (C=true)
    (λk3=>ae [tB 45 k3]<|.w (o.a<m)
     (λk4=>ae [tB 50<|aZ k4]<|.w (o.b<m)
      (λk5=>ae [tB 56<|aZ k5]<|rQ (bP<|o.n==0) (bP<|nm o m) rY)
      (λk5=>ae [tB 56<|a6 k5]<|rQ (bP false) (bP<|nm o m) rY))
     (λk4=>ae [tB 50<|a6 k4]<|rQ (bP false) (bP<|nm o m) rY))
    (λk3=>ae [tB 45<|aU k3]<|rQ (bP false) (bP<|nm o m) rY))
   (λk2=>ae [.v 40<|.bool<|a6 k2]<|.w (o.kind=8)
    (λk3=>ae [tB 64<|aT k3]<|.w (C=true)
     (λk4=>ae [tB 65 k4]<|.w (o.a<m)
      (λk5=>ae [tB 70<|aZ k5]<|.w (o.b=0)
       (λk6=>ae [tB 75<|aT k6]<|.w (0<=o.n)
        (λk7=>ae [tB 80<|aZ k7]<|rQ (bP<|decide (o.n<=16)) (bP<|nm o m) rY)
        (λk7=>ae [tB 80<|a6 k7]<|rQ (bP false) (bP<|nm o m) rY))
       (λk6=>ae [tB 75<|aS k6]<|rQ (bP false) (bP<|nm o m) rY))
      (λk5=>ae [tB 70<|a6 k5]<|rQ (bP false) (bP<|nm o m) rY))
     (λk4=>ae [tB 65<|aU k4]<|rQ (bP false) (bP<|nm o m) rY))
    (λk3=>ae [tB 64<|aS k3,.j 174 ⟨111,true,[(87,.e<|bP<|decide (o.kind=7\/9<=o.kind/\o.kind<=13)),(5,.e<|bP C),(2,.box 2 0),(1,.e<|iP m)],[(2,.cells 153 [iP o.kind,iP o.a,iP o.b,iP o.n,iP o.cn,iP o.cd])]⟩
   (.w (o.kind=7)
    (λm1=>ae [.v 87<|.bool<|aT m1]<|.e<|af [tB 87 (zP aJ:true=(decide (o.kind=7\/9<=o.kind/\o.kind<=13)))])
    (λm1=>ae [.v 87<|.bool<|aS m1]<|.w (o.kind=9)
     (λm2=>ae [tB 89<|aT m2]<|.e<|af [tB 87 (zP aJ:true=(decide (o.kind=7\/9<=o.kind/\o.kind<=13)))])
     (λm2=>ae [tB 89<|aS m2]<|.w (o.kind=10)
      (λm3=>ae [tB 90<|aT m3]<|.e<|af [tB 87 (zP aJ:true=(decide (o.kind=7\/9<=o.kind/\o.kind<=13)))])
      (λm3=>ae [tB 90<|aS m3]<|.w (o.kind=11)
       (λm4=>ae [tB 91<|aT m4]<|.e<|af [tB 87 (zP aJ:true=(decide (o.kind=7\/9<=o.kind/\o.kind<=13)))])
       (λm4=>ae [tB 91<|aS m4]<|.w (o.kind=12)
        (λm5=>ae [tB 92<|aT m5]<|.e<|af [tB 87 (zP aJ:true=(decide (o.kind=7\/9<=o.kind/\o.kind<=13)))])
        (λm5=>ae [tB 92<|aS m5]<|.e<|af [tB 87 (zP aJ:(o.kind==13)=(decide (o.kind=7\/9<=o.kind/\o.kind<=13)))]))))))]<|.w (o.kind=7\/9<=o.kind/\o.kind<=13)
     (λk4=>ae [.v 87<|.bool<|aZ k4]<|.w (C=true)
      (λk5=>ae [tB 94 k5]<|.w (o.a<m)
       (λk6=>ae [tB 99<|aZ k6]<|.w (o.b=0)
        (λk7=>ae [tB 104<|aT k7]<|rQ (bP<|o.n==0) (bP<|nm o m) rY)
        (λk7=>ae [tB 104<|aS k7]<|rQ (bP false) (bP<|nm o m) rY))
       (λk6=>ae [tB 99<|a6 k6]<|rQ (bP false) (bP<|nm o m) rY))
      (λk5=>ae [tB 94<|aU k5]<|rQ (bP false) (bP<|nm o m) rY))
     (λk4=>ae [.v 87<|.bool<|a6 k4]<|rQ (bP false) (bP<|nm o m) rY))))
def Jg(o:pA)(m:Int)(g:o.kz):ic 129 [anm o,iP m]<|bP<|nm o m:=
 iy (.w (o.a<0)
  (λk1=>ae [tB 8<|aZ k1]<|rQ (bP false) (bP<|nm o m) rY)
  (λk1=>ae [tB 8<|a6 k1]<|.w (o.b<0)
   (λk2=>ae [tB 12<|aZ k2]<|rQ (bP false) (bP<|nm o m) rY)
   (λk2=>ae [tB 12<|a6 k2,.g (ZD g.cn g.cd rfl:rk prog .eql 78 (.agg [iP o.cn,iP o.cd]) (.agg [iP 0,iP 0])<|.bool<|decide (o.cn=0/\o.cd=0))]<|alK o m g (decide (o.cn=0/\o.cd=0)) rfl k1 k2)))
def aoQ(s:lQ)(g:s.kz)(k:Int)(h0:0<=s.iH)(h8:s.iH<=8)(l2:s.ij.length<=200):ic 131 [iP k,(.ji 3 λj_=>[iP s.iH,pI s.ij,qV s.iB].getD j_ .any)]<|bP<|!Ea s k:=
 iy (.w (k<0)
  (λk1=>ae [tB 5<|aZ k1]<|rQ (bP true) (bP<|!Ea s k)<|qO<|by unfold Ea;rw[eo];simp_all)
  (λk1=>ae [tB 5<|a6 k1,iD<|s.iH+(s.ij.length:Int)]<|rQ (bP<|decide ((s.iH+(s.ij.length:Int))<=k)) (bP<|!Ea s k)<|qO<|by unfold Ea;rw[eo];simp_all))
def aoS(x:RI)(g:x.kz):ic 132 [yP x]<|bP<|!qI x:=by
 have ga:=g.lo;have gb:=g.hi;by_cases ha:x.all=true
 .have e:qI x=false:=by unfold qI;rw[ha];simp
  rw[e];exact iy<|af [ah 4 x.all ha]
 .replace ha:x.all=false:=by simpa using ha
  by_cases h1:x.lo.Ok
  .by_cases h2:x.hi.Ok
   .have v1:=h1.valid;have v2:=h2.valid;have e1:yP x=im x.iv:=by rw[<-Qc,show x.iv.raw=x by show RI.mk x.lo.dy.raw x.hi.dy.raw x.all=x;rw[h1.eq ga,h2.eq gb]]
    rw[e1];by_cases h3:jm x.lo.dy x.hi.dy<=0
    .have e:qI x=true:=by unfold qI;rw[Ab.2<|.inr ⟨ha,h1,h2,h3⟩,ha];rfl
     rw[e];exact iy<|af [ai 4 x.iv.all ha,.c<|qk x.iv.lo aD,.c<|qk x.iv.hi aD,.c<|mF x.iv.lo x.iv.hi aD aD,tF 23 (0<(jm x.iv.lo x.iv.hi))<|by show ¬0<jm x.lo.dy x.hi.dy;omega]
    .have e:qI x=false:=by unfold qI;rw[show sF x=false by simpa using λq=>(Ab.1 q).elim (λq=>by rw[ha]at q;exact Bool.noConfusion q.1) λq=>h3 q.2.2.2];rfl
     rw[e];exact iy<|af [ai 4 x.iv.all ha,.c<|qk x.iv.lo aD,.c<|qk x.iv.hi aD,.c<|mF x.iv.lo x.iv.hi aD aD,tT 23 (0<(jm x.iv.lo x.iv.hi))<|by show 0<jm x.lo.dy x.hi.dy;omega]
   .have e:qI x=false:=by unfold qI;rw[show sF x=false by simpa using λq=>(Ab.1 q).elim (λq=>by rw[ha]at q;exact Bool.noConfusion q.1) λq=>h2 q.2.2.1];rfl
    rw[e];exact iy<|af [ai 4 x.all ha,.c<|Dc x.lo aD true<|by simp[h1],.c<|Dc x.hi aD false<|by simp[h2]]
  .have e:qI x=false:=by unfold qI;rw[show sF x=false by simpa using λq=>(Ab.1 q).elim (λq=>by rw[ha]at q;exact Bool.noConfusion q.1) λq=>h1 q.2.1];rfl
   rw[e];exact iy<|af [ai 4 x.all ha,.c<|Dc x.lo aD false<|by simp[h1]]
def adL(x:RI)(g:x.kz):ic 182 [yP x]<|bP<|!qI x:=
 iy (ae [.c<|X3 x g]<|.w (sF x=true)
  (λk1=>ae [tB 4 k1]<|rQ (bP x.all) (bP<|!qI x)<|qO<|by unfold qI;simp_all)
  (λk1=>ae [tB 4<|aU k1]<|rQ (bP true) (bP<|!qI x)<|qO<|by unfold qI;simp_all))
def Rc(s:lQ)(h0:0<=s.iH)(h8:s.iH<=8)(l2:s.ij.length<=200)(lu:s.iB.length<=200)(g:s.kz):ic 130 [qV s.iB,.fn 131 [(.ji 3 λj_=>[iP s.iH,pI s.ij,qV s.iB].getD j_ .any)]]<|bP<|!Bw s:=by
 have:=ajw true s.iB.length (λi _=>iP<|s.iB.getD i 0) 131 [(.ji 3 λj_=>[iP s.iH,pI s.ij,qV s.iB].getD j_ .any)] (λi=>!Ea s (s.iB.getD i 0)) (λi _=>aoQ s g _ h0 h8 l2) (aC:s.iB.length<=1000000);rwa[S2]at this
def ZM(f:FuncId)(l:List RI)(hf:∀ i,ic f [yP<|l.getD i mq]<|bP<|!qI (l.getD i mq))(hl:l.length<=1000):ic 39 [oe l,.fn f []]<|bP<|!((List.range l.length).all λi=>qI<|l.getD i mq):=by
 have:=II true l.length (λi j=>(Bu<|l.getD i mq).getD j .any) f [] (λi=>!qI (l.getD i mq)) (λi _=>hf i) (aC:l.length<=1000000);rwa[S2]at this
def aoU(s:lQ)(g:s.kz)(sm:s.vH)(hc:¬(0<=s.iH/\s.iH<=8/\s.ij.length<=200/\s.iB.length<=200)):ic 77 [nA s]<|bP false:=
 iy (.w (s.iH<0)
  (λk1=>af [tB 10<|aZ k1])
  (λk1=>ae [tB 10<|a6 k1]<|.w (8<s.iH)
   (λk2=>af [tB 14<|aZ k2])
   (λk2=>ae [tB 14<|a6 k2]<|.w (200<(s.ij.length:Int))
    (λk3=>af [tB 20<|aZ k3])
    (λk3=>ae [tB 20<|a6 k3]<|.w (200<(s.iB.length:Int))
     (λk4=>af [tB 26<|aZ k4])
     (λk4=>.x aC)))))
section
variable(s:lQ)(g:s.kz)
def aoV(sm:s.vH)(i0:0<=s.iH)(i8:s.iH<=8)(l1:s.ij.length<=200)(l2:s.iB.length<=200)(N:Nat)(pR:N<s.ij.length)(jH:∀ k,k<N->(nm (s.ij.getD k oF)<|s.iH+(k:Int))=true)(hN:(nm (s.ij.getD N oF)<|s.iH+(N:Int))=false):ic 77 [nA s]<|bP false:=
 iy (af [tF 10 (s.iH<0) aC,tF 14 (8<s.iH) aC,tF 20 (200<(s.ij.length:Int)) aC,tF 26 (200<(s.iB.length:Int)) aC,.s (Sp.jX (aaE s N) 0 N aC (λx hx mH=>by
    have vZ:=g.ij x;exact iS (af [tT 32 ((x:Int)<s.ij.length) aC,iX (x:Int)<|s.ij.length,iD<|s.iH+(x:Int),.c<|Jg (s.ij.getD x oF) (s.iH+(x:Int)) vZ,ai 42 (!(nm (s.ij.getD x oF)<|s.iH+(x:Int)))<|by rw[jH x aC];rfl,iD<|(x:Int)+1]) aF)
  (λhx=>by
    have vZ:=g.ij N;exact iS (af [tT 32 ((N:Int)<s.ij.length) aC,iX (N:Int)<|s.ij.length,iD<|s.iH+(N:Int),.c<|Jg (s.ij.getD N oF) (s.iH+(N:Int)) vZ,ah 42 (!(nm (s.ij.getD N oF)<|s.iH+(N:Int)))<|by rw[hN];rfl]) aF) aI:jW 5 Tryz.f77 (aaE s N 0) .ret ⟨85,true,[(2,.e<|bP false)],[]⟩) .nil])
def aoW(sm:s.vH)(i0:0<=s.iH)(i8:s.iH<=8)(l1:s.ij.length<=200)(l2:s.iB.length<=200)(jH:∀ k,k<s.ij.length->(nm (s.ij.getD k oF)<|s.iH+(k:Int))=true)(hu:Bw s=false):ic 77 [nA s]<|bP false:=
 iy (af [tF 10 (s.iH<0) aC,tF 14 (8<s.iH) aC,tF 20 (200<(s.ij.length:Int)) aC,tF 26 (200<(s.iB.length:Int)) aC,.s (Sp.jX (aaF s) 0 s.ij.length aC (λx hx mH=>by
    have vZ:=g.ij x;exact iS (af [tT 32 ((x:Int)<s.ij.length) aC,iX (x:Int)<|s.ij.length,iD<|s.iH+(x:Int),.c<|Jg (s.ij.getD x oF) (s.iH+(x:Int)) vZ,ai 42 (!(nm (s.ij.getD x oF)<|s.iH+(x:Int)))<|by rw[jH x aC];rfl,iD<|(x:Int)+1]) aF)
  (λhx=>by
    exact iS (af [tF 32 ((s.ij.length:Int)<s.ij.length) aC]) aF) aI:jW 5 Tryz.f77 (aaF s 0) (.exit 0) ⟨85,true,[(3,.box 3 0),(1,.box 1 0)],[(3,.cells 29 [iP s.iH,pI s.ij,qV s.iB]),(1,.cells 31 [iP s.iH,pI s.ij,qV s.iB,iP s.iN,oe s.params])]⟩) .nil,.c<|Rc s aC aC aC aC g,ah 47 (!(Bw s))<|by rw[hu];rfl])
section
variable(sm:s.vH)(i0:0<=s.iH)(i8:s.iH<=8)(l1:s.ij.length<=200)(l2:s.iB.length<=200)(jH:∀ k,k<s.ij.length->(nm (s.ij.getD k oF)<|s.iH+(k:Int))=true)(hu:Bw s=true)
def aoX(hc:¬(1<=s.iN/\s.iN<=4/\(s.iB.length:Int)=s.iN/\s.iH=s.iN+(s.params.length:Int)/\s.params.length<=4)):ic 77 [nA s]<|bP false:=by
 have sp:=sm.params;exact iy (ae [tF 10 (s.iH<0) aC,tF 14 (8<s.iH) aC,tF 20 (200<(s.ij.length:Int)) aC,tF 26 (200<(s.iB.length:Int)) aC,.s (Sp.jX (aaG s) 0 s.ij.length aC (λx hx mH=>by
    have vZ:=g.ij x;exact iS (af [tT 32 ((x:Int)<s.ij.length) aC,iX (x:Int)<|s.ij.length,iD<|s.iH+(x:Int),.c<|Jg (s.ij.getD x oF) (s.iH+(x:Int)) vZ,ai 42 (!(nm (s.ij.getD x oF)<|s.iH+(x:Int)))<|by rw[jH x aC];rfl,iD<|(x:Int)+1]) aF)
  (λhx=>by
    exact iS (af [tF 32 ((s.ij.length:Int)<s.ij.length) aC]) aF) aI:jW 5 Tryz.f77 (aaG s 0) (.exit 0) ⟨85,true,[(3,.box 3 0),(1,.box 1 0)],[(3,.cells 29 [iP s.iH,pI s.ij,qV s.iB]),(1,.cells 31 [iP s.iH,pI s.ij,qV s.iB,iP s.iN,oe s.params])]⟩) .nil,.c<|Rc s aC aC aC aC g,ai 47 (!(Bw s))<|by rw[hu];rfl]<|.w (s.iN<1)
  (λk1=>af [tB 50<|aZ k1])
  (λk1=>ae [tB 50<|a6 k1]<|.w (4<s.iN)
   (λk2=>af [tB 54<|aZ k2])
   (λk2=>ae [tB 54<|a6 k2]<|.w ((s.iB.length:Int)=s.iN)
    (λk3=>ae [tB 62<|aV k3,iD<|s.iN+(s.params.length:Int)]<|.w (s.iH=(s.iN+(s.params.length:Int)))
     (λk4=>ae [tB 73<|aV k4]<|.w (4<(s.params.length:Int))
      (λk5=>af [tB 79<|aZ k5])
      (λk5=>.x aC))
     (λk4=>af [tB 73<|aW k4]))
    (λk3=>af [tB 62<|aW k3]))))
def aoY(s1:1<=s.iN)(s4:s.iN<=4)(e1:(s.iB.length:Int)=s.iN)(e2:s.iH=s.iN+(s.params.length:Int))(p4:s.params.length<=4):ic 77 [nA s]<|bP<|Jz s:=by
 have sp:=sm.params;exact iy (ae [tF 10 (s.iH<0) aC,tF 14 (8<s.iH) aC,tF 20 (200<(s.ij.length:Int)) aC,tF 26 (200<(s.iB.length:Int)) aC,.s (Sp.jX (aaH s) 0 s.ij.length aC (λx hx mH=>by
    have vZ:=g.ij x;exact iS (af [tT 32 ((x:Int)<s.ij.length) aC,iX (x:Int)<|s.ij.length,iD<|s.iH+(x:Int),.c<|Jg (s.ij.getD x oF) (s.iH+(x:Int)) vZ,ai 42 (!(nm (s.ij.getD x oF)<|s.iH+(x:Int)))<|by rw[jH x aC];rfl,iD<|(x:Int)+1]) aF)
  (λhx=>by
    exact iS (af [tF 32 ((s.ij.length:Int)<s.ij.length) aC]) aF) aI:jW 5 Tryz.f77 (aaH s 0) (.exit 0) ⟨85,true,[(3,.box 3 0),(1,.box 1 0)],[(3,.cells 29 [iP s.iH,pI s.ij,qV s.iB]),(1,.cells 31 [iP s.iH,pI s.ij,qV s.iB,iP s.iN,oe s.params])]⟩) .nil,.c<|Rc s aC aC aC aC g,ai 47 (!(Bw s))<|by rw[hu];rfl,tF 50 (s.iN<1) aC,tF 54 (4<s.iN) aC,ai 62 ((s.iB.length:Int) != s.iN)<|by simp[e1],iD<|s.iN+(s.params.length:Int),ai 73 (s.iH != (s.iN+(s.params.length:Int)))<|by simp[e2],tF 79 (4<(s.params.length:Int)) aC,.c<|ZM 132 s.params (λi=>aoS _<|g.params i) aC]<|rQ (bP<|!(!(Jz s))) (bP<|Jz s)<|qO aH)
end
def R6(sm:s.vH):ic 77 [nA s]<|bP<|sj s:=by
 by_cases c1:0<=s.iH/\s.iH<=8/\s.ij.length<=200/\s.iB.length<=200
 rotate_left
 .rw [show sj s=false by unfold sj;rw[a6 c1];rfl];exact aoU s g sm c1
 obtain⟨i0,i8,l1,l2⟩:=c1;by_cases c2:aav s=true
 rotate_left
 .rw [show sj s=false by unfold sj;rw[aU c2];simp];obtain⟨N,n1,n2,n3⟩:=acQ c2;exact aoV s g sm i0 i8 l1 l2 N n1 (λk hk=>by simpa using n3 k hk)<|by simpa using n2
 have jH:∀ k,k<s.ij.length->nm (s.ij.getD k oF) (s.iH+(k:Int))=true:=λk hk=>bR.1 c2 k<|bS.2 hk
 cases hu:Bw s with
 |false=>
  rw[show sj s=false by unfold sj;rw[hu];simp];exact aoW s g sm i0 i8 l1 l2 jH hu
 |true=>
  by_cases c3:1<=s.iN/\s.iN<=4/\(s.iB.length:Int)=s.iN/\s.iH=s.iN+(s.params.length:Int)/\s.params.length<=4
  .rw [show sj s=Jz s by unfold sj;rw[aZ (⟨i0,i8,l1,l2⟩:_/\_),c2,hu,aZ c3];simp];obtain⟨s1,s4,e1,e2,p4⟩:=c3;exact aoY s g sm i0 i8 l1 l2 jH hu s1 s4 e1 e2 p4
  .rw [show sj s=false by unfold sj;rw[a6 c3];simp];exact aoX s g sm i0 i8 l1 l2 jH hu c3
end
def TG(s:lQ)(b:List RI)(gb:∀ i,(b.getD i mq).kz)(Cd:b.length<=1000):ic 106 [nA s,oe b]<|bP<|AA s.iN b:=
 iy (.w ((b.length:Int)=s.iN)
  (λk1=>ae [tB 9<|aT k1,.c<|ZM 182 b (λi=>adL _<|gb i) Cd]<|rQ (bP<|!(!((List.range b.length).all λi=>qI<|b.getD i mq))) (bP<|AA s.iN b)<|qO<|by unfold AA;simp[k1])
  (λk1=>ae [tB 9<|aS k1]<|rQ (bP false) (bP<|AA s.iN b)<|qO<|by unfold AA;simp[k1]))
section
variable(s:lQ)(g:s.kz)(sm:s.vH)(x:List RI)(gx:∀ i,(x.getD i mq).kz)(nF:x.length<=1000)(d:RD)
def ahh(gd:d.kz)(p:Int)(hd:¬d.Ok):ic 61 [nA s,oe x,tO d,iP p]<|bP<|qP s x d p:=by
 have yr:Eg d=false:=aU λq=>hd<|Jw.1 q
 exact iy (ae [.c<|R6 s g sm]<|.w (sj s=true)
  (λk1=>ae [tB 10 k1,.c<|TG s x gx nF]<|.w (AA s.iN x=true)
   (λk2=>ae [tB 14 k2,.c<|Dc d aD false<|by simp[hd]]<|rQ (bP false) (bP<|qP s x d p)<|qO<|by unfold qP;simp[yr,k1,k2])
   (λk2=>ae [tB 14<|aU k2]<|rQ (bP false) (bP<|qP s x d p)<|qO<|by unfold qP;simp[yr,k1,k2]))
  (λk1=>ae [tB 10<|aU k1]<|rQ (bP false) (bP<|qP s x d p)<|qO<|by unfold qP;simp[yr,k1]))
def ahj(gd:d.kz)(p:Int)(hd:d.Ok):ic 61 [nA s,oe x,iw d.dy,iP p]<|bP<|qP s x d p:=by
 have yr:Eg d=true:=Jw.2 hd;have hv:=hd.valid;exact iy (ae [.c<|R6 s g sm]<|.w (sj s=true)
  (λk1=>ae [tB 10 k1,.c<|TG s x gx nF]<|.w (AA s.iN x=true)
   (λk2=>ae [tB 14 k2,.c<|qk d.dy aD,.c<|nL d.dy aD]<|.w (0<(Dy.jc d.dy))
    (λk3=>ae [tB 23<|aZ k3]<|.w (8<=p)
     (λk4=>ae [tB 27<|aZ k4]<|rQ (bP<|decide (p<=512)) (bP<|qP s x d p)<|qO<|by unfold qP;simp[yr,k1,k2,k3,k4])
     (λk4=>ae [tB 27<|a6 k4]<|rQ (bP false) (bP<|qP s x d p)<|qO<|by unfold qP;simp[yr,k1,k2,k3,k4]))
    (λk3=>ae [tB 23<|a6 k3]<|rQ (bP false) (bP<|qP s x d p)<|qO<|by unfold qP;simp[yr,k1,k2,k3]))
   (λk2=>ae [tB 14<|aU k2]<|rQ (bP false) (bP<|qP s x d p)<|qO<|by unfold qP;simp[yr,k1,k2]))
  (λk1=>ae [tB 10<|aU k1]<|rQ (bP false) (bP<|qP s x d p)<|qO<|by unfold qP;simp[yr,k1]))
def ahi(gd:d.kz)(p:Int):ic 61 [nA s,oe x,tO d,iP p]<|bP<|qP s x d p:=by
 by_cases hd:d.Ok
 .have:=ahj s g sm x gx nF d gd p hd;rwa[<-N9,hd.eq gd]at this
 .exact ahh s g sm x gx nF d gd p hd
end
end Go.Proofs.YtjkmahljfblobaaGreatDoor
namespace Go.Proofs.YtjkmahljfblobaaGreatDoor.Fp
end Go.Proofs.YtjkmahljfblobaaGreatDoor.Fp
namespace Go.Proofs.YtjkmahljfblobaaGreatDoor
open Go.RowKit Fp Pu
def nU(a b:Nat):Nat->Nat×Nat
 | 0=>(a,b)
 |n+1=>((nU a b n).2,(nU a b n).1%(nU a b n).2)
def Vd(a b:Nat):∀ n,Nat.gcd (nU a b n).1 (nU a b n).2=Nat.gcd a b
 | 0=>rfl
 |n+1=>by
  rw[<-Vd a b n];show Nat.gcd (nU a b n).2 ((nU a b n).1%(nU a b n).2)=_;rw[gh,<-Nat.gcd_rec,gh]
def Ve(a b:Nat):∀ n,(∀ i,i<n->(nU a b i).2≠0)->(nU a b n).2+n<=b
 | 0,_=>a7 _
 |n+1,h=>by
  have h1:=h n<|fQ n;have h2:(nU a b<|n+1).2<(nU a b n).2:=bJ _<|dI h1;have q:=Ve a b n λi hi=>h i aC;omega
def agt(a b:Nat):∃ N,(∀ x,x<N->(nU a b x).2≠0)/\(nU a b N).2=0:=by
 by_cases h:∃ N,N<b+2/\decide ((nU a b N).2=0)=true
 .obtain ⟨N,h1,h2,h3⟩:=sD h;exact⟨N,λx hx=>by simpa using h3 x hx,by simpa using h2⟩
 .have hz:∀ i,i<b+2->(nU a b i).2≠0:=λi hi q=>h ⟨i,hi,by simpa using q⟩
  have:=Ve a b (b+1) λi hi=>hz i aC 
  have:=hz (b+1) aC;omega
def Oj{a b:Nat}(ha:a<18446744073709551616)(hb:b<18446744073709551616):∀ n,(nU a b n).1<18446744073709551616/\(nU a b n).2<18446744073709551616
 | 0=>⟨ha,hb⟩
 |n+1=>⟨(Oj ha hb n).2,ck (eA _ _) (Oj ha hb n).1⟩
def rE(a D:Nat)(d:Dy):Int:=kI (a*2^(-d.e).toNat)<|d.m*D*2^d.e.toNat
def wH(n:Int):Int:=if 0<n then 1 else if n<0 then -1 else 0
def nc(N:Int)(D:Nat)(d:Dy):Int:=
 if wH N<d.jc then -1 else if d.jc<wH N then 1 else if wH N=0 then 0 else wH N*rE N.natAbs D d
def amt{a D:Nat}{d:Dy}(ha:a<=1073741824)(hD:1<=D)(d0:d.m≠0)(ht:32<(iq d.m:Int)+d.e):rE a D d = -1:=by
 have h1:2^(iq d.m-1)<=d.m:=tV d0;have hb:=oV d0;have hm:d.m*2^d.e.toNat<=d.m*D*2^d.e.toNat:=bG _<|gv _ hD;have h2:2^(iq d.m-1+d.e.toNat)<=d.m*2^d.e.toNat:=by rw[bj];exact bG _ h1
 have h3:a*2^(-d.e).toNat<2^(31+(-d.e).toNat):=by rw[bj];exact dg aC<|Nat.two_pow_pos _
 have h4:2^(31+(-d.e).toNat)<=2^(iq d.m-1+d.e.toNat):=bO aE aC;unfold rE kI;rw[aY aC]
def amu{a D:Nat}{d:Dy}(ha:a≠0)(hD:D<=1073741824)(ht:(iq d.m:Int)+d.e < -32):rE a D d=1:=by
 have h1:d.m<2^iq d.m:=sc _;have e0:d.e.toNat=0:= aC ;have h2:d.m*D<=2^iq d.m*2^30:=dB aC aC;have h4:2^(iq d.m+30)<2^(-d.e).toNat:=gF aE aC;have h5:2^(-d.e).toNat<=a*2^(-d.e).toNat:=gl _<|dI ha;rw[bj]at h4;unfold rE kI;rw[e0,cA,b6,aX aC,aY aC]
def akk{d:Dy}{D:Nat}(hv:d.ig)(hD:D<=1073741824):(ib<|d.m*D).length<=256:=by
 refine FI ?_;have:=ND d.m D;have:=hv.bits;have:iq D<=31:=me.2 aC;omega
def TK(n k:Nat):iq (n*2^k)<=iq n+k:=by
 by_cases h:n=0
 .subst h;rw[cH,sO];omega
 .rw [rI h];omega
def akl{d:Dy}{D:Nat}(hD:D<=1073741824)(ht:(iq d.m:Int)+d.e<=32):(ib<|d.m*D*2^d.e.toNat).length<=256\/d.e<0:=by
 by_cases he:d.e<0
 .exact .inr he
 refine .inl<|FI ?_;have:=TK (d.m*D) d.e.toNat
 have:=ND d.m D;have:iq D<=31:=me.2 aC;omega
def akj{d:Dy}{a:Nat}(hv:d.ig)(ha:a<=1073741824)(ht:-32<=(iq d.m:Int)+d.e):(ib<|a*2^(-d.e).toNat).length<=256:=by
 refine FI ?_;have:=TK a (-d.e).toNat
 have:=hv.bits;have:iq a<=31:=me.2 aC;omega
def aaq(a b:Nat)(x:Nat):PS:=⟨12,true,[(0,.e<|.v<|.int .u64 (((nU a b x).1:Nat):Int)),(1,.e<|.v<|.int .u64 (((nU a b x).2:Nat):Int))],[]⟩
def amr(a b N:Nat)(ha:a<18446744073709551616)(hb:b<18446744073709551616)(jH:∀ x,x<N->(nU a b x).2≠0)(hN:(nU a b N).2=0):ic 174 [.v<|.int .u64 (a:Int),.v<|.int .u64 (b:Int)]<|.v<|.int .u64 (Nat.gcd a b:Int):=
 iy (ae [.s (Sp.jX (aaq a b) 0 N aC (λx hx mH=>by
    have hnz:=jH x aC;have kE:=Oj ha hb x;exact iS (ae [ah 6 ((((nU a b x).2:Nat):Int) != 0)<|Y8<|jH x aC,.a (aC:0<((((nU a b x).2:Nat):Int):Int))]<|.e<|af [.o 0<|.int (k:=.u64) (rfl:(((nU a b x).2:Nat):Int)=(((nU a b<|x+1).1:Nat):Int)),.o 1<|.int (k:=.u64) (rfl:((((nU a b x).1)%((nU a b x).2):Nat):Int)=(((nU a b<|x+1).2:Nat):Int))]) aF)
  (λhx=>by
    exact iS (af [ai 6 ((((nU a b N).2:Nat):Int) != 0)<|Y7 hN]) aF) aI:jW 1 f174 (aaq a b 0) (.exit 0) ⟨12,true,[(0,.e<|.v<|.int .u64 (((nU a b N).1:Nat):Int))],[]⟩)<|af [.o 0<|.int (k:=.u64) (rfl:(a:Int)=(((nU a b 0).1:Nat):Int)),.o 1<|.int (k:=.u64) (rfl:(b:Int)=(((nU a b 0).2:Nat):Int))]]<|rQ (.v<|.int .u64 (((nU a b N).1:Nat):Int)) (.v<|.int .u64 (Nat.gcd a b:Int))<|by have h:=Vd a b N;rw[hN,Nat.gcd_zero_right]at h;rw[<-h])
def ams(a b:Nat)(ha:a<18446744073709551616)(hb:b<18446744073709551616):ic 174 [.v<|.int .u64 (a:Int),.v<|.int .u64 (b:Int)]<|.v<|.int .u64 (Nat.gcd a b:Int):=by
 obtain⟨N,h1,h2⟩:=agt a b;exact amr a b N ha hb h1 h2
def Mh(n:Int)(h1:-9223372036854775807<=n:=by omega)(h2:n<=9223372036854775807:=by omega):ic 175 [iP n]<|.v<|.int .u64 (n.natAbs:Int):=
 iy (.w (n<0)
  (λk1=>af [tB 4<|aZ k1,iD<|0-n,.o 7<|.int (k:=.u64) (by rw[IntKind.wrap_u64];omega:(IntKind.u64.wrap<|0-n)=(n.natAbs:Int))])
  (λk1=>af [tB 4<|a6 k1,.o 9<|.int (k:=.u64) (by rw[IntKind.wrap_u64];omega:(IntKind.u64.wrap n)=(n.natAbs:Int))]))
def amv(N:Int)(D:Nat)(wZ:1<=D)(Dp:D<=1073741824)(uj:-1073741824<=N)(ru:N<=1073741824)(hg:Nat.gcd N.natAbs D=1):ic 103 [.agg [iP N,iP D]]<|bP true:=
 iy (af [tT 5 (1<=(D:Int)) aC,tT 9 ((D:Int)<=1073741824) aC,tT 14 ((-1073741824)<=N) aC,tT 19 (N<=1073741824) aC,.c<|Mh N,.c<|Mh (D:Int),.c<|ams (N.natAbs:Nat) ((D:Int).natAbs:Nat) aC aC,.o 29 (.bool<|by rw[dR,hg];rfl:aj (bP<|(Nat.gcd ((N).natAbs)<|(D:Int).natAbs:Int)==1)<|bP true)])
def aqK{x y:Nat}:E.le (.sl false 2 1 λi_ j_=>[.v<|.int .u32 (x:Int),.v<|.int .u32 (y:Int)].getD (i_*1+j_)<|.v<|.bool false)<|il [x,y]:=.sl λi j hi hj=>by
 obtain rfl:j=0:= aC ;rcases i with _|_|i
 .exact ⟨.refl _,rfl⟩
 .exact ⟨.refl _,rfl⟩
 .omega
def ZB{n:Nat}(h:n<4294967296):iQ [n,0]:=iQ.cons h<|iQ.cons aE iQ.nil
def JQ(n:Nat):val [n,0]=n:=by simp[val]
def Z5(n:Nat)(h:n<4294967296):ic 177 [.v<|.int .u64 (n:Int)]<|il [n,0]:=
 iy (ae [.o 4 (.int<|Al _:aj (.v<|.int .u32<|IntKind.u32.wrap (n:Int))<|.v<|.int .u32 ((n%4294967296:Nat):Int)),.a (aC:0<=(32:Int)/\(32:Int)<=((64:Nat):Int)),.o 6 (.int<|MD _:aj (.v<|.int .u64<|(n:Int)/2^32)<|.v<|.int .u64 ((n/4294967296:Nat):Int)),.o 7 (.int<|Al _:aj (.v<|.int .u32<|IntKind.u32.wrap ((n/4294967296:Nat):Int))<|.v<|.int .u32 (((n/4294967296)%4294967296:Nat):Int)),.o 8 (.e<|Sh _ _:aj (.sl false 2 1 λi_ j_=>[.v<|.int .u32 ((n%4294967296:Nat):Int),.v<|.int .u32 (((n/4294967296)%4294967296:Nat):Int)].getD (i_*1+j_)<|.v<|.bool false)<|il [n%4294967296,(n/4294967296)%4294967296])]<|rQ (il [n%4294967296,(n/4294967296)%4294967296]) (il [n,0])<|by rw[cj h,cY h])
def Y9(L:List Nat)(n:Int)(hk:iQ L)(hl:L.length<=256)(h0:0<=n)(hn:n<=65536)(hf:(ib<|val L*2^n.toNat).length<=256):ic 179 [il L,iP n]<|.ix [il<|ib<|val L*2^n.toNat,iP 0]:=by
 obtain⟨n,rfl⟩:=gI h0;rw[fz]at hf ⊢;exact Jk hk call179 (λA c w h _=>QH A c L n w h hl aC hf) λA c B w e w' h hB r=>F8 B w e w' hB r
def Z7(N:Int)(D:Nat)(d:Dy)(hv:d.ig)(d0:d.m≠0)(wZ:1<=D)(Dp:D<=1073741824)(uj:-1073741824<=N)(ru:N<=1073741824)(pR:N≠0):ic 104 [.agg [iP N,iP D],iw d]<|iP<|rE N.natAbs D d:=by
 have hT:=Gm d0;have Lb:=hv.bits;have Hw:=oV d0;have hlen:(ib d.m).length<=256:=FI aC;have ok1:iQ [N.natAbs,0]:=ZB aC;have ok2:iQ [(D:Int).natAbs,0]:=ZB aC;have WE:(ib<|val (ib d.m)*val [(D:Int).natAbs,0]).length<=256:=by
  rw[kK,JQ,dR];exact akk hv Dp
 exact iy (ae [.c<|oo d aD]<|.w (32<(Dy.iz d))
  (λk1=>ae [tB 13<|aZ k1]<|rQ (iP (-1)) (iP<|rE N.natAbs D d)<|by rw[amt aC wZ d0 aC])
  (λk1=>ae [tB 13<|a6 k1]<|.w ((Dy.iz d)<(-32))
   (λk2=>ae [tB 16<|aZ k2]<|rQ (iP 1) (iP<|rE N.natAbs D d)<|by rw[amu aC Dp aC])
   (λk2=>ae [tB 16<|a6 k2,.c<|Mh N,.c<|Z5 (N.natAbs:Nat) aC,.c<|Mh (D:Int),.c<|Z5 ((D:Int).natAbs:Nat) aC,.c<|Y6 (ib d.m) [(D:Int).natAbs,0] (mJ _) ok2 aC aH WE]<|.w (0<=d.e)
    (λk3=>by
     have Pr:(ib<|val (ib<|val (ib d.m)*val [(D:Int).natAbs,0])*2^(d.e).toNat).length<=256:=by
      rw[kK,kK,JQ,dR];exact(akl (d:=d) Dp aC).resolve_right aC 
     exact ae [tB 33<|aZ k3,.c<|Y9 (ib<|val (ib d.m)*val [(D:Int).natAbs,0]) d.e (mJ _) WE aC aC Pr,.c<|I7 [N.natAbs,0] (ib<|val (ib<|val (ib d.m)*val [(D:Int).natAbs,0])*2^d.e.toNat) ok1 (mJ _) aH]<|rQ (iP<|kI (val [(N).natAbs,0])<|val<|ib<|val (ib<|val (ib d.m)*val [(D:Int).natAbs,0])*2^(d.e).toNat) (iP<|rE N.natAbs D d)<|by simp only[kK,JQ,dR];unfold rE;rw[show(-d.e).toNat=0 from aC,cA,b6])
    (λk3=>by
     have Pr:(ib<|val [(N).natAbs,0]*2^((0-d.e)).toNat).length<=256:=by
      rw[JQ,Int.zero_sub];exact akj hv aC aC 
     exact ae [tB 33<|a6 k3,iD<|0-d.e,.c<|Y9 [N.natAbs,0] (0-d.e) ok1 aH aC aC Pr,.c<|I7 (ib<|val [N.natAbs,0]*2^(0-d.e).toNat) (ib<|val (ib d.m)*val [(D:Int).natAbs,0]) (mJ _) (mJ _) aC]<|rQ (iP<|kI (val<|ib<|val [(N).natAbs,0]*2^((0-d.e)).toNat)<|val<|ib<|val (ib d.m)*val [(D:Int).natAbs,0]) (iP<|rE N.natAbs D d)<|by simp only[kK,JQ,dR,Int.zero_sub];unfold rE;rw[(aC:d.e.toNat=0),cA,b6]))))
def Z8(a D:Nat)(d:Dy):-1<=rE a D d/\rE a D d<=1:=by
 unfold rE kI;split
 .omega
 .split<;>omega
def abb{d:Dy}(h:d.jc≠0):d.m≠0:=λq=>h<|by unfold Dy.jc;rw[aY q]
def amp(N:Int)(D:Nat)(d:Dy)(hv:d.ig)(wZ:1<=D)(Dp:D<=1073741824)(uj:-1073741824<=N)(ru:N<=1073741824)(hg:Nat.gcd N.natAbs D=1):ic 55 [.agg [iP N,iP D],iw d]<|.ix [iP<|nc N D d,iP 0]:=
 iy (ae [.c<|amv N D aC aC aC aC hg,.c<|qk d aD]<|.w (0<N)
  (λk1=>ae [tB 19<|aZ k1,.c<|nL d aD]<|.w (1<(Dy.jc d))
   (λk2=>ae [tB 29<|aZ k2]<|rR (.ix [iP<|nc N D d,iP 0]) (by
      exact .jP (by
       have e:nc N D d=(-1):=by
        unfold nc wH;simp[k1,k2]
       rw[e]):E.le (.ix [iP (-1),iP 0])<|.ix [iP<|nc N D d,iP 0]))
   (λk2=>ae [tB 29<|a6 k2]<|.w ((Dy.jc d)<1)
    (λk3=>ae [tB 33<|aZ k3]<|rR (.ix [iP<|nc N D d,iP 0]) (by
      exact .jP (by
       have e:nc N D d=1:=by
        unfold nc wH;simp[k1,k2,k3]
       rw[e]):E.le (.ix [iP 1,iP 0])<|.ix [iP<|nc N D d,iP 0]))
    (λk3=>by
     have d0:d.m≠0:=abb aC;have hmr:=Z8 N.natAbs D d;exact ae [tB 33<|a6 k3,ai 36 ((1:Int)==0) aE,.c<|Z7 N D d hv d0 wZ Dp uj ru aC,iD<|1*(rE N.natAbs D d)]<|rR (.ix [iP<|nc N D d,iP 0]) (by
      exact .jP (by
       have e:nc N D d=(1*(rE N.natAbs D d)):=by
        unfold nc wH;simp[k1,k2,k3]
       rw[e]):E.le (.ix [iP<|1*(rE N.natAbs D d),iP 0])<|.ix [iP<|nc N D d,iP 0]))))
  (λk1=>ae [tB 19<|a6 k1]<|.w (N<0)
   (λk2=>ae [tB 23<|aZ k2,.c<|nL d aD]<|.w ((-1)<(Dy.jc d))
    (λk3=>ae [tB 29<|aZ k3]<|rR (.ix [iP<|nc N D d,iP 0]) (by
      exact .jP (by
       have e:nc N D d=(-1):=by
        unfold nc wH;simp[k1,k2,k3]
       rw[e]):E.le (.ix [iP (-1),iP 0])<|.ix [iP<|nc N D d,iP 0]))
    (λk3=>ae [tB 29<|a6 k3]<|.w ((Dy.jc d)<(-1))
     (λk4=>ae [tB 33<|aZ k4]<|rR (.ix [iP<|nc N D d,iP 0]) (by
      exact .jP (by
       have e:nc N D d=1:=by
        unfold nc wH;simp[k1,k2,k3,k4]
       rw[e]):E.le (.ix [iP 1,iP 0])<|.ix [iP<|nc N D d,iP 0]))
     (λk4=>by
      have d0:d.m≠0:=abb aC;have hmr:=Z8 N.natAbs D d;exact ae [tB 33<|a6 k4,ai 36 (((-1):Int)==0) aE,.c<|Z7 N D d hv d0 wZ Dp uj ru aC,iD<|(-1)*(rE N.natAbs D d)]<|rR (.ix [iP<|nc N D d,iP 0]) (by
      exact .jP (by
       have e:nc N D d=((-1)*(rE N.natAbs D d)):=by
        unfold nc wH;simp[k1,k2,k3,k4]
       rw[e]):E.le (.ix [iP<|(-1)*(rE N.natAbs D d),iP 0])<|.ix [iP<|nc N D d,iP 0]))))
   (λk2=>ae [tB 23<|a6 k2,.c<|nL d aD]<|.w (0<(Dy.jc d))
    (λk3=>ae [tB 29<|aZ k3]<|rR (.ix [iP<|nc N D d,iP 0]) (by
      exact .jP (by
       have e:nc N D d=(-1):=by
        unfold nc wH;simp[k1,k2,k3]
       rw[e]):E.le (.ix [iP (-1),iP 0])<|.ix [iP<|nc N D d,iP 0]))
    (λk3=>ae [tB 29<|a6 k3]<|.w ((Dy.jc d)<0)
     (λk4=>ae [tB 33<|aZ k4]<|rR (.ix [iP<|nc N D d,iP 0]) (by
      exact .jP (by
       have e:nc N D d=1:=by
        unfold nc wH;simp[k1,k2,k3,k4]
       rw[e]):E.le (.ix [iP 1,iP 0])<|.ix [iP<|nc N D d,iP 0]))
     (λk4=>ae [tB 33<|a6 k4,ah 36 ((0:Int)==0) aE]<|rR (.ix [iP<|nc N D d,iP 0]) (by
      exact .jP (by
       have e:nc N D d=0:=by
        unfold nc wH;simp[k1,k2,k3,k4]
       rw[e]):E.le (.ix [iP 0,iP 0])<|.ix [iP<|nc N D d,iP 0]))))))
def Qm(n e:Int)(h1:n.natAbs<4294967296)(h2:-1000<=e)(h3:e<=1000):ic 57 [iP n,iP e]<|iw<|mB n e:=by
 have hrg:nj<|canon (Dy.neg<|iU n) (Dy.m<|iU n)<|(Dy.e<|iU n)+e:=by rw[TZ];exact(C3 h1 h2 h3).range
 exact iy<|ae [.c<|amO n aC,.c<|amS (iU n) e (sC aC) aC aC hrg]<|rQ (iw<|canon (Dy.neg<|iU n) (Dy.m<|iU n)<|(Dy.e<|iU n)+e) (iw<|mB n e)<|by rw[TZ]
def aj5(d:Dy):ic 85 [iw d]<|im<|iJ d:=
 iy (rR (im<|iJ d) (.jP rfl:E.le (im<|Iv.mk d d false)<|im<|iJ d))
def IM(n e:Int)(h1:n.natAbs<4294967296:=by omega)(h2:-1000<=e:=by omega)(h3:e<=1000:=by omega):ic 53 [iP n,iP e]<|im<|iJ<|mB n e:=by
 have hv:=C3 h1 h2 h3;exact iy<|af [.c<|Qm n e aC aC aC,.c<|aj5<|mB n e]
def rT(d:RD):Bool:=decide (20<d.L.length)||(decide (300<d.e)||decide (d.e < -300))
def Bk(x:RI):Bool:=rT x.lo||rT x.hi
def xL(l:List RI):Bool:=decide (l.length<=8) && !((List.range l.length).any λi=>Bk<|l.getD i mq)
def wW(s:lQ):Bool:=decide (s.ij.length<=60)&&(decide (s.iB.length<=8)&&xL s.params)
def aa4{l:List RI}(h:xL l=true):l.length<=8:=by
 unfold xL at h;rw[bD,cz]at h;exact h.1
def ahg{s:lQ}(h:wW s=true):s.vH:=by
 unfold wW at h;rw[bD,bD,cz,cz]at h;have:=aa4 h.2.2;exact⟨aC,aC⟩
def LJ(d:RD):ic 16 [tO d]<|bP<|rT d:=
 iy (.w (20<(d.L.length:Int))
  (λk1=>ae [tB 6<|aZ k1]<|rR (bP<|rT d) (by
      exact .jP (by
       have:rT d=true:=by unfold rT;simp[(aC:20<d.L.length)]
       rw[this]):E.le (bP true)<|bP<|rT d))
  (λk1=>ae [tB 6<|a6 k1]<|.w (300<d.e)
   (λk2=>ae [tB 10<|aZ k2]<|rR (bP<|rT d) (by
      exact .jP (by
       have:rT d=true:=by unfold rT;simp[(aC:¬20<d.L.length),k2]
       rw[this]):E.le (bP true)<|bP<|rT d))
   (λk2=>ae [tB 10<|a6 k2]<|rR (bP<|rT d) (by
      exact .jP (by
       have:rT d=(decide (d.e<(-300))):=by unfold rT;simp[(aC:¬20<d.L.length),k2]
       rw[this]):E.le (bP<|decide (d.e<(-300)))<|bP<|rT d))))
def aj4(x:RI):ic 58 [yP x]<|bP<|Bk x:=
 iy (ae [.c<|LJ x.lo]<|.w (rT x.lo=true)
  (λk1=>ae [tB 5 k1]<|rQ (bP true) (bP<|Bk x)<|qO<|by simp_all[Bk])
  (λk1=>ae [tB 5<|aU k1,.c<|LJ x.hi]<|rQ (bP<|rT x.hi) (bP<|Bk x)<|qO<|by simp_all[Bk]))
def aj3(l:List RI)(hl:l.length<=1000):ic 39 [oe l,.fn 58 []]<|bP<|(List.range l.length).any λi=>Bk<|l.getD i mq:=
 II true l.length (λi j=>(Bu<|l.getD i mq).getD j .any) 58 [] (λi=>Bk<|l.getD i mq) (λi _=>aj4 _) 
def Qj(l:List RI):ic 15 [oe l]<|bP<|xL l:=
 iy (.w ((l.length:Int)<=8)
  (λk1=>ae [tB 5<|aZ k1,.c<|aj3 l aC]<|rQ (bP<|!((List.range l.length).any λi=>Bk<|l.getD i mq)) (bP<|xL l)<|qO<|by unfold xL;simp[(aC:l.length<=8)])
  (λk1=>ae [tB 5<|a6 k1]<|rQ (bP false) (bP<|xL l)<|qO<|by unfold xL;simp[(aC:¬l.length<=8)]))
def Yd(s:lQ):ic 14 [nA s]<|bP<|wW s:=
 iy (.w ((s.ij.length:Int)<=60)
  (λk1=>ae [tB 7<|aZ k1]<|.w ((s.iB.length:Int)<=8)
   (λk2=>ae [tB 13<|aZ k2,.c<|Qj s.params]<|rQ (bP<|xL s.params) (bP<|wW s)<|qO<|by unfold wW;simp[(aC:s.ij.length<=60),(aC:s.iB.length<=8)])
   (λk2=>ae [tB 13<|a6 k2]<|rQ (bP false) (bP<|wW s)<|qO<|by unfold wW;simp[(aC:s.ij.length<=60),(aC:¬s.iB.length<=8)]))
  (λk1=>ae [tB 7<|a6 k1]<|rQ (bP false) (bP<|wW s)<|qO<|by unfold wW;simp[(aC:¬s.ij.length<=60)]))
def Vm{m x:List<|List Iv}{h:Iv}{n k p:Nat}(ga:jO m n n)(hh:h.ig)(hk:k<=1000)(iu:8<=p)(ie:p<=512)(hx:yi m h k p=some x):jO x n n:=by
 unfold yi at hx;cases hr:tP m h k p with
 |none=>rw[hr]at hx;cases hx
 |some e=>
  rw[hr,dj]at hx;simp only at hx;obtain⟨_,pZ,_⟩:=(Ms m h n n k p ga hh hk iu ie).1 e hr;have gs:=CN (h:=h) (p:=p) ga aC aC k;split at hx
  .cases hx
  .cases hx;refine⟨by rw[cv];exact gs.iT,λr hr=>?_,λr hr y hy=>?_,gs.n1,gs.n8,gs.k1,gs.k8⟩
   .obtain ⟨r',h1,rfl⟩:=cC.1 hr;rw[cv];exact gs.row r' h1
   .obtain ⟨r',h1,rfl⟩:=cC.1 hr;obtain⟨y',h2,rfl⟩:=cC.1 hy;exact nS (gs.ok r' h1 y' h2) pZ aC aC 
def akX{m:List<|List Iv}{n k:Nat}(g:jO m n k)(i j:Nat):((m.getD i []).getD j ik).ig:=by
 by_cases hi:i<m.length
 .rw [vU (d:=[]) hi];by_cases hj:j<m[i].length
  .rw [vU hj];exact g.ok _ (b9 hi) _<|b9 hj
  .rw [bc,bX aC];exact kR
 .rw [bc (l:=m),bX aC];exact kR
def BQ:List<|List Iv:=[[iJ<|mB 0 0,iJ<|mB 1 0],[iJ<|mB 0 0,iJ<|mB 0 0]]
def Kf:Iv:=(iJ<|mB 1 (-1))
def sN:List<|List Iv:=[[⟨⟨false,562735496296199119,-59⟩,⟨false,590186008310647857,-59⟩,false⟩,⟨⟨false,274505120144487375,-59⟩,⟨false,301955632158936113,-59⟩,false⟩],[⟨⟨true,439208192231179801,-64⟩,⟨false,439208192231179801,-64⟩,false⟩,⟨⟨false,562735496296199119,-59⟩,⟨false,590186008310647857,-59⟩,false⟩]]
def S9:jO BQ 2 2 where
 iT:=rfl
 row:=by intro r hr;simp only[BQ,cP,aqY,fS]at hr;rcases hr with rfl|rfl<;>rfl
 ok:=by
  intro r hr x hx;simp only[BQ,cP,aqY,fS]at hr;rcases hr with rfl|rfl<;>simp only[cP,aqY,fS]at hx<;>rcases hx with rfl|rfl<;>exact oP (C3 aE aE aE)
 n1:= aE 
 n8:= aE 
 k1:= aE 
 k8:= aE 
def S8:Kf.ig:=oP<|C3 aE aE aE
def Ta:yi BQ Kf 2 60=some sN:= aF 
def ac2:ic 54 [jb BQ,im Kf,iP 2,iP 60]<|.ix [jb sN,iP 0]:=
 (Oy BQ Kf 2 2 60 S9 S8 rfl aE aE aE aE).1 sN Ta
def ac3:jO sN 2 2:=Vm S9 S8 aE aE aE Ta
def EP:Iv:=(sN.getD 0 []).getD 1 ik
def Tc:EP.ig:=akX ac3 0 1
def ac1:ic 55 [.agg [iP 11,iP 21],iw EP.hi]<|.ix [iP<|nc 11 21 EP.hi,iP 0]:=
 amp 11 21 EP.hi Tc.jj.2 aE aE aE aE aE 
def akI(a b:List Iv):E.le (.sl true 2 1 λi_ j_=>[iA a,iA b].getD (i_*1+j_)<|.v<|.bool false)<|jb [a,b]:=.sl λi j hi hj=>by
 obtain rfl:j=0:= aC ;obtain rfl|rfl:i=0\/i=1:= aC 
 .exact ⟨.refl _,rfl⟩
 .exact ⟨.refl _,rfl⟩
def ajF:(Iv.mk (mB 120 (-8)) (mB 135 (-8)) false).ig:=.inr ⟨rfl,C3 (n:=120) (e:=-8) aE aE aE,C3 (n:=135) (e:=-8) aE aE aE,aL⟩
def ajt:zG EP (Iv.mk (mB 120 (-8)) (mB 135 (-8)) false)=true:= aF 
def GL : ic 13 []<|bP true:=by
 have l1:sN.length=2:=rfl;have l2:(sN.getD 0 []).length=2:=rfl;exact iy (ae [.c<|IM 0 0,.c<|IM 1 0,.o 8<|.e<|yE (iJ<|mB 0 0)<|iJ<|mB 1 0,.c<|IM 0 0,.c<|IM 0 0,.o 11<|.e<|yE (iJ<|mB 0 0)<|iJ<|mB 0 0,.o 12 (.e<|akI _ _:aj (.sl true 2 1 λi_ j_=>[iA [iJ<|mB 0 0,iJ<|mB 1 0],iA [iJ<|mB 0 0,iJ<|mB 0 0]].getD (i_*1+j_)<|.v<|.bool false)<|jb BQ),.c<|IM 1 (-1),ag [jb BQ,im<|iJ<|mB 1 (-1),iP 2,iP 60] ac2,ai 20 ((0:Int) != 0) aE,ai 24 ((sN.length:Int) != 2) aF,iX 0<|sN.length,ai 31 (((sN.getD 0 []).length:Int) != 2) aF,iX 0<|sN.length,
  iX 1 ((sN.getD 0 []).length),ag [.agg [iP 11,iP 21],iw<|((sN.getD 0 []).getD 1 ik).hi] ac1,ah 45 ((0:Int)==0) aE,ah 48 (decide ((nc 11 21 EP.hi)<=0)) aF,iX 0<|sN.length,iX 1<|(sN.getD 0 []).length,.c<|Qm 120 (-8) aC aC aC,.c<|Qm 135 (-8) aC aC aC,.c<|Ts ((sN.getD 0 []).getD 1 ik) (Iv.mk (mB 120 (-8)) (mB 135 (-8)) false) Tc ajF]<|rQ (bP<|zG ((sN.getD 0 []).getD 1 ik)<|Iv.mk (mB 120 (-8)) (mB 135 (-8)) false) (bP true)<|congrArg bP ajt)
def aqf{x:Iv}(hx:x.ig){p:Nat}(iu:8<=p)(ie:p<=512):∃ Z,Z.ig/\(∀ r,x.jr r->nd (EQ r) Z)/\ic 67 [im x,iP (p:Int)] (im Z):=by
 cases xa:x.all with
 |true=>exact⟨ik,kR,λ_ _=>nd.all rfl,aci x p hx iu ie xa⟩
 |false=>
  cases h1:sX x.lo with
  |false=>exact⟨ik,kR,λ_ _=>nd.all rfl,acm x p hx iu ie xa h1⟩
  |true=>
   cases h2:sX x.hi with
   |false=>exact⟨ik,kR,λ_ _=>nd.all rfl,acj x p hx iu ie xa h1 h2⟩
   |true=>
    obtain⟨w1,w2⟩:=hx.jj;obtain⟨Z1,z1,l1,k1⟩:=M6 w1 (LS w1 h1) iu ie;obtain⟨Z2,z2,l2,k2⟩:=M6 w2 (LS w2 h2) iu ie;exact⟨tp Z1 Z2,Oi z1 z2 λa b=>Qo l1 l2 (λε hε=>Gy hx.q hε) a b,λr hr=>akf l1 l2 (hr.jj xa).1 (hr.jj xa).2,ack x p hx iu ie xa h1 h2 Z1 Z2 z1 z2 k1 k2⟩
section
variable(s:kp)(b:List Iv)(x:Iv)
def apN(p:Nat)(hx:x.ig)(xa:x.all=true):ic 20 [j8 s,iA b,im x,iP p]<|.ix [.agg au,iP 1]:=
 iy (af [.c<|pe x aD,ah 17 x.all xa])
section
variable(p:Nat)(hx:x.ig)(xa:x.all=false)
def apL(hD:ic 51 [j8 s,iA b,iP p]<|.ix [.agg au,iP 11]):ic 20 [j8 s,iA b,im x,iP p]<|.ix [.agg au,iP 11]:=
 iy (af [.c<|pe x aD,ai 17 x.all xa,ag [j8 s,iA b,iP p] hD,ah 28 ((11:Int) != 0) aE])
def apO(v Z:Iv)(hv:v.ig)(iu:8<=p)(ie:p<=512)(hD:ic 51 [j8 s,iA b,iP p]<|.ix [im v,iP 0])(hE:ic 67 [im<|iL x v p,iP (p:Int)]<|im Z):ic 20 [j8 s,iA b,im x,iP p]<|.ix [im Z,iP 0]:=by
 have vm:=lE x v (aC:1<=p) (aC:p<=4096);exact iy<|af [.c<|pe x aD,ai 17 x.all xa,ag [j8 s,iA b,iP p] hD,ai 28 ((0:Int) != 0) aE,.c<|qp x v p aD aD,ag [im<|iL x v p,iP p] hE]
end
def ahn(k p:Nat)(hJ:ic 47 [j8 s,iA b,iP p]<|.ix [.v<|.slice none 0 0,iP 11]):ic 22 [j8 s,iA b,im x,iP k,iP p]<|.ix [.v<|.slice none 0 0,iP 11]:=
 iy (af [ag [j8 s,iA b,iP p] hJ,ah 22 ((11:Int) != 0) aE])
def VF(k p:Nat)(c:Int)(m X:List<|List Iv)(hJ:ic 47 [j8 s,iA b,iP p]<|.ix [jb m,iP 0])(hX:ic 54 [jb m,im x,iP (k:Int),iP (p:Int)]<|.ix [jb X,iP c]):ic 22 [j8 s,iA b,im x,iP k,iP p]<|.ix [jb X,iP c]:=
 iy (af [ag [j8 s,iA b,iP p] hJ,ai 22 ((0:Int) != 0) aE,ag [jb m,im x,iP k,iP p] hX])
end
def ap4{f:FuncId}{l:List E}{r r':E}(h:ic f l r)(hr:E.le r r'):ic f l r':=PC.le h (.refl _) hr
def akH(c:Int):E.le (.ix [.v<|.slice none 0 0,iP c])<|.ix [jb [],iP c]:=.ix<|.cons (.nil _ _ _)<|.cons (.refl _) .nil
def ahm(s:kp)(b:List Iv)(x:Iv)(k p:Nat)(h:mD s)(hb:kH s.iN b)(hx:x.ig)(xa:x.all=false)(mT:1<=k)(hk:k<=16)(iu:8<=p)(ie:p<=512)(hn:Ct s b p=false):
 ∃ M f,ic 22 [j8 s,iA b,im x,iP (k:Int),iP (p:Int)] (.ix [jb M,iP f])/\(f=0/\yi (oz s b p) x k p=some M/\jO M s.iN s.iN\/f=15):=by
 have ga:=X8 h hb (aC:1<=p) (aC:p<=4096);have hJ:=VS s b p h hb iu ie hn;cases he:yi (oz s b p) x k p with
 |some X=>exact⟨X,0,VF s b x k p 0 _ X hJ<|(Oy (oz s b p) x s.iN k p ga hx xa mT hk iu ie).1 X he,.inl ⟨rfl,rfl,Vm ga hx aC iu ie he⟩⟩
 |none=>exact⟨[],15,VF s b x k p 15 _ [] hJ<|ap4 ((Oy (oz s b p) x s.iN k p ga hx xa mT hk iu ie).2 he)<|akH _,.inr rfl⟩
def ad1(s:lQ)(g:s.kz)(sm:s.vH)(p:Int)(hv:sj s=false):ic 91 [nA s,.v<|.slice none 0 0,iP s.iN,iP p]<|.ix [.v<|.slice none 0 0,.v<|.slice none 0 0,iP 1]:=
 iy (af [.c<|R6 s g sm,ah 15 (!(sj s))<|by rw[hv];rfl])
def ad2(s:kp)(h:mD s)(p:Int):ic 91 [j8 s,.v<|.slice none 0 0,iP s.iN,iP p]<|.ix [.v<|.slice none 0 0,.v<|.slice none 0 0,iP 1]:=by
 have s1:=h.s1;exact iy<|af [.c<|Ew s h,ah 21 (0 != (s.iN:Int))<|aW aC]
section
variable(s:lQ)(p:Int)(hB:ic 91 [nA s,.v<|.slice none 0 0,iP s.iN,iP p]<|.ix [.v<|.slice none 0 0,.v<|.slice none 0 0,iP 1])
def ajZ:ic 47 [nA s,.v<|.slice none 0 0,iP p]<|.ix [.v<|.slice none 0 0,iP 1]:=
 iy (af [ag [nA s,.v<|.slice none 0 0,iP s.iN,iP p] hB])
def afJ:ic 51 [nA s,.v<|.slice none 0 0,iP p]<|.ix [.agg au,iP 1]:=
 iy (af [ag [nA s,.v<|.slice none 0 0,iP p]<|ajZ s p hB,ah 20 ((1:Int) != 0) aE])
def apJ(x:Iv)(hx:x.ig)(xa:x.all=false):ic 20 [nA s,.v<|.slice none 0 0,im x,iP p]<|.ix [.agg au,iP 1]:=
 iy (af [.c<|pe x aD,ai 17 x.all xa,ag [nA s,.v<|.slice none 0 0,iP p]<|afJ s p hB,ah 28 ((1:Int) != 0) aE])
end
section
variable(s:lQ)(g:s.kz)(sm:s.vH)
def apK(p:Int)(x:Iv)(hx:x.ig)(xa:x.all=false):ic 20 [nA s,.v<|.slice none 0 0,im x,iP p]<|.ix [.agg au,iP 1]:=by
 refine apJ s p ?_ x hx xa;cases hv:sj s with
 |false=>exact ad1 s g sm p hv
 |true=>
  obtain⟨o,e⟩:=aaI g hv;have:=ad2 s.v o p;rw[<-e]at this;have e2:(s.v.iN:Int)=s.iN:=by
   have h1:1<=s.iN.toNat:=o.s1;show(s.iN.toNat:Int)=s.iN;omega
  rwa[e2]at this
def agi(x:List RI)(gx:∀ i,(x.getD i mq).kz)(nF:x.length<=1000)(d:RD)(gd:d.kz)(p:Int)(hf:qP s x d p=false):ic 19 [nA s,oe x,tO d,iP p]<|.ix [.v<|.slice none 0 0,iP 1]:=
 iy (af [.c (by rw[<-hf];exact ahi s g sm x gx nF d gd p:ic 61 [nA s,oe x,tO d,iP p]<|bP false)])
end
def ahk{s:lQ}(g:s.kz){x:List RI}(gx:∀ i,(x.getD i mq).kz){d:RD}(gd:d.kz){p:Int}(h:qP s x d p=true):mD s.v/\kH s.v.iN (x.map RI.iv)/\d.dy.ig/\0<d.dy.jc/\8<=p/\p<=512/\nA s=j8 s.v/\oe x=iA (x.map RI.iv)/\tO d=iw d.dy:=by
 unfold qP at h;simp only[bD,cz]at h;obtain⟨⟨⟨⟨h1,h2⟩,h3⟩,h4⟩,h5⟩:=h;obtain⟨o1,o2⟩:=aaI g h1;have h3:=Jw.1 h3;unfold AA at h2;rw[bD,cz]at h2;obtain⟨b1,b2⟩:=h2;have pa:∀ i,i<x.length->(x.getD i mq).Ok/\(x.getD i mq).all=false:=λi hi=>by
  have:=bR.1 b2 i<|bS.2 hi;unfold qI at this;rw[bD]at this;exact⟨Ab.1 this.1,by simpa using this.2⟩
 have mE:∀ i,i<x.length->(x.map RI.iv).getD i ik=(x.getD i mq).iv:=λi hi=>by simp[bc,hi]
 have s1:=o1.s1;refine⟨o1,⟨by rw[cv];show x.length=s.iN.toNat;omega,λi hi=>?_⟩,h3.valid,h4,h5.1,h5.2,o2,?_,?_⟩
 .have hi:i<x.length:=by simpa using hi
  rw[mE i hi];exact⟨(pa i hi).1.valid,(pa i hi).2⟩
 .rw [<-Qd];congr 1;apply aqX;intro i;unfold yN;rw[ch,ch];by_cases hi:i<x.length
  .have h1:=(pa i hi).1;have g1:=gx i;rw[bk hi];rw[bc,bk hi]at h1 g1;exact congrArg some (RI.Ok.eq (x:=x[i]) h1 g1).symm
  .rw [bX aC];rfl
 .rw [<-N9,h3.eq gd]
def apv(x y:Iv)(hx:x.ig)(hy:y.ig)(hm:Cz x y):ic 24 [im x,im y]<|.ix [im<|D5 x y,bP true]:=by
 obtain⟨w1,w2⟩:=hx.jj;obtain⟨w3,w4⟩:=hy.jj;have w5:=uM w1 w3;have w6:=xz w2 w4;exact iy (ae [.c<|pe x aD,.c<|pe y aD]<|.w (x.all=true)
  (λk1=>ae [tB 19 k1]<|rQ (.ix [im y,bP true]) (.ix [im<|D5 x y,bP true])<|by unfold D5;simp[k1])
  (λk1=>ae [tB 19<|aU k1]<|.w (y.all=true)
   (λk2=>ae [tB 23 k2]<|rQ (.ix [im x,bP true]) (.ix [im<|D5 x y,bP true])<|by unfold D5;simp[k1,k2])
   (λk2=>by
    have hmc:=akR hx hy hm (aU k1)<|aU k2;exact ae [tB 23<|aU k2,.c<|IF x.lo y.lo aD aD,.c<|IE x.hi y.hi aD aD,.c<|mF (jg x.lo y.lo) (jk x.hi y.hi) aD aD]<|.w (0<(jm (jg x.lo y.lo)<|jk x.hi y.hi))
     (λk3=>.x<|by exact absurd hmc aC)
     (λk3=>ae [tB 41<|a6 k3]<|rQ (.ix [im<|Iv.mk (jg x.lo y.lo) (jk x.hi y.hi) false,bP true]) (.ix [im<|D5 x y,bP true])<|by unfold D5;simp[k1,k2]))))
def apF(s:lQ)(x:List RI)(d:RD)(u:Int)(gd:d.kz)(hE:¬(wW s=true/\xL x=true/\rT d=false/\Eg d=true)):ic 4 [nA s,oe x,tO d,.v<|.int .u8 u]<|bP true:=
 iy (ae [.c GL,.c<|Yd s]<|.w (wW s=true)
  (λk1=>ae [tB 27 k1,.c<|Qj x]<|.w (xL x=true)
   (λk2=>ae [tB 31 k2,.c<|LJ d]<|.w (rT d=true)
    (λk3=>af [tB 36 k3])
    (λk3=>ae [tB 36<|aU k3,.c<|amU d gd _ Jw]<|.w (Eg d=true)
     (λk4=>.x<|by exact absurd ⟨aD,aD,aU aD,aD⟩ hE)
     (λk4=>af [tB 40<|aU k4])))
   (λk2=>af [tB 31<|aU k2]))
  (λk1=>af [tB 27<|aU k1]))
def ab3(s:lQ)(x:List RI)(d:Dy)(u c:Int)(hd:d.ig)(Du:ic 14 [nA s]<|bP true)(DM:ic 15 [oe x]<|bP true)(DE:ic 16 [iw d]<|bP false)(hc:c≠0)(hE:ic 19 [nA s,oe x,iw d,iP 60]<|.ix [.v<|.slice none 0 0,iP c])(hV:ic 20 [nA s,.v<|.slice none 0 0,im<|iJ d,iP 60]<|.ix [.agg au,iP 1]):ic 4 [nA s,oe x,iw d,.v<|.int .u8 u]<|bP true:=
 iy (af [.c GL,ag [nA s] Du,ag [oe x] DM,ag [iw d] DE,.c<|Mo d hd,.c<|rO d hd,ag [nA s,oe x,iw d,iP 60] hE,tB 53<|aW hc,ag [nA s,.v<|.slice none 0 0,im<|iJ d,iP 60] hV,ah 61 ((1:Int)==1) aE,ah 67 ((0:Int)==0) aE])
section
variable(s:kp)(x b:List Iv)(d:Dy)(u:Int)(k:Nat)(hd:d.ig)(hu:0<=u/\u<=255)(hk:Int.tmod u 16=(k:Int)-1)(Ib:1<=k/\k<=16)(Du:ic 14 [j8 s]<|bP true)(DM:ic 15 [iA x]<|bP true)(DE:ic 16 [iw d]<|bP false)
def apE(hE:ic 19 [j8 s,iA x,iw d,iP 60]<|.ix [iA b,iP 0])(hW:ic 20 [j8 s,iA b,im ik,iP 60]<|.ix [.agg au,iP 1])(hV:ic 20 [j8 s,iA b,im<|iJ d,iP 60]<|.ix [.agg au,iP 11])(hF:ic 22 [j8 s,iA b,im<|iJ d,iP (k:Int),iP 60]<|.ix [.v<|.slice none 0 0,iP 11]):ic 4 [j8 s,iA x,iw d,.v<|.int .u8 u]<|bP true:=by
 obtain⟨u1,u2⟩:=hu;obtain⟨k1,k2⟩:=Ib;exact iy (af [.c GL,ag [j8 s] Du,ag [iA x] DM,ag [iw d] DE,.c<|Mo d hd,.c<|rO d hd,ag [j8 s,iA x,iw d,iP 60] hE,ai 53 ((0:Int) != 0) aE,ag [j8 s,iA b,im<|iJ d,iP 60] hV,.c nu,ag [j8 s,iA b,im ik,iP 60] hW,.o 88<|aq (IntKind.i64.wrap u) u<|i64_in _,.a (aC:0<(16:Int)),.o 89<|aq (Int.tmod u 16) ((k:Int)-1) hk,
  iD (1+((k:Int)-1)),.o 90<|aq (1+((k:Int)-1)) k,ag [j8 s,iA b,im<|iJ d,iP k,iP 60] hF,ai 95 ((1:Int) != 1) aE,ah 98 ((11:Int) != 0) aE,ai 101 ((11:Int) != 11) aE,ah 105 ((11:Int) != 0) aE,ah 111 ((11:Int) != 0) aE])
def apG(Z:Iv)(M:List<|List Iv)(hE:ic 19 [j8 s,iA x,iw d,iP 60]<|.ix [iA b,iP 0])(hW:ic 20 [j8 s,iA b,im ik,iP 60]<|.ix [.agg au,iP 1])(hV:ic 20 [j8 s,iA b,im<|iJ d,iP 60]<|.ix [im Z,iP 0])(hF:ic 22 [j8 s,iA b,im<|iJ d,iP (k:Int),iP 60]<|.ix [jb M,iP 15]):ic 4 [j8 s,iA x,iw d,.v<|.int .u8 u]<|bP true:=by
 obtain⟨u1,u2⟩:=hu;obtain⟨k1,k2⟩:=Ib;exact iy (af [.c GL,ag [j8 s] Du,ag [iA x] DM,ag [iw d] DE,.c<|Mo d hd,.c<|rO d hd,ag [j8 s,iA x,iw d,iP 60] hE,ai 53 ((0:Int) != 0) aE,ag [j8 s,iA b,im<|iJ d,iP 60] hV,.c nu,ag [j8 s,iA b,im ik,iP 60] hW,.o 88<|aq (IntKind.i64.wrap u) u<|i64_in _,.a (aC:0<(16:Int)),.o 89<|aq (Int.tmod u 16) ((k:Int)-1) hk,
  iD (1+((k:Int)-1)),.o 90<|aq (1+((k:Int)-1)) k,ag [j8 s,iA b,im<|iJ d,iP k,iP 60] hF,ai 95 ((1:Int) != 1) aE,ai 98 ((0:Int) != 0) aE,ai 105 ((0:Int) != 0) aE,ah 108 ((15:Int) != 0) aE,ah 111 ((15:Int) != 0) aE])
def apH(Z D Y:Iv)(M:List<|List Iv)(hE:ic 19 [j8 s,iA x,iw d,iP 60]<|.ix [iA b,iP 0])(hW:ic 20 [j8 s,iA b,im ik,iP 60]<|.ix [.agg au,iP 1])(hV:ic 20 [j8 s,iA b,im<|iJ d,iP 60]<|.ix [im Z,iP 0])(hF:ic 22 [j8 s,iA b,im<|iJ d,iP (k:Int),iP 60]<|.ix [jb M,iP 0])(hD:ic 23 [jb M,iP 60]<|.ix [im D,iP 0])(hM:ic 24 [im Z,im D]<|.ix [im Y,bP true]):ic 4 [j8 s,iA x,iw d,.v<|.int .u8 u]<|bP true:=by
 obtain⟨u1,u2⟩:=hu;obtain⟨k1,k2⟩:=Ib;exact iy (af [.c GL,ag [j8 s] Du,ag [iA x] DM,ag [iw d] DE,.c<|Mo d hd,.c<|rO d hd,ag [j8 s,iA x,iw d,iP 60] hE,ai 53 ((0:Int) != 0) aE,ag [j8 s,iA b,im<|iJ d,iP 60] hV,.c nu,ag [j8 s,iA b,im ik,iP 60] hW,.o 88<|aq (IntKind.i64.wrap u) u<|i64_in _,.a (aC:0<(16:Int)),.o 89<|aq (Int.tmod u 16) ((k:Int)-1) hk,
  iD (1+((k:Int)-1)),.o 90<|aq (1+((k:Int)-1)) k,ag [j8 s,iA b,im<|iJ d,iP k,iP 60] hF,ai 95 ((1:Int) != 1) aE,ai 98 ((0:Int) != 0) aE,ai 105 ((0:Int) != 0) aE,ai 108 ((0:Int) != 0) aE,ag [jb M,iP 60] hD,ag [im Z,im D] hM,ah 124 ((0:Int)==0) aE])
end
def akQ{x y:Iv}(h:Cz x y):Cz y x:=by
 rcases h with h|h|⟨h1,h2⟩
 .exact .inr<|.inl h
 .exact .inl h
 .exact .inr<|.inr ⟨h2,h1⟩
def abL{m:List<|List Iv}{p n:Nat}{A:QM}(hv:∀ i j,((m.getD i []).getD j ik).ig)(hp:1<=p)(ie:p<=4096)(h:rF n n m A):∀ k,k<n->(xN m p k).ig/\(xN m p k).jr (wL A<|k+1)
 | 0,hk=>⟨hv 0 0,by
  have e:wL A (0+1)=A 0 0:=by show 0+A 0 0=A 0 0;grind
  rw[e];exact h 0 0 hk hk⟩
 |k+1,hk=>by
  obtain⟨v,q⟩:=abL hv hp ie h k aC;exact⟨nS v (hv _ _) hp ie,vJ v (hv _ _) hp ie q<|h (k+1) (k+1) hk hk⟩
def apM(s:kp)(b:List Iv)(d:Dy)(k p:Nat)(h:mD s)(hb:kH s.iN b)(hd:d.ig)(hk:k<=16)(iu:8<=p)(ie:p<=512)(M:List<|List Iv)(hM:jO M s.iN s.iN)(he:yi (oz s b p) (iJ d) k p=some M)
 (Z:Iv) (hZ:∀ r,(iL (iJ d) (xN (oz s b p) p<|s.iN-1) p).jr r->nd (EQ r) Z):Cz Z<|C9 M p:=by
 have q1:1<=p:= aC ;have q2:p<=4096:= aC ;have s1:=h.s1;have s4:=h.s4;have ga:=X8 h hb q1 q2;have hv:=IJ h hb q1 q2;have hA:rF s.iN s.iN (oz s b p) λi j=>(pW (oz s b p) i j).lo.q:=λi j _ _=>(hv i j).zi
 have hh:=oP hd;have ht:=Bq d;obtain⟨tv,th⟩:=abL hv q1 q2 hA (s.iN-1) aC;rw[(aC:s.iN-1+1=s.iN)]at th;have hl:=hZ _<|zU hh tv q1 q2 ht th;refine akQ<|nd.akO (f:=λN=>rJ Ag (SQ s.iN _ d.q N) s.iN) (k:=k) (λN hN=>afr hM q1 q2<|agP ga hh q1 q2 hA ht rfl aC he N hN)<|hl.shift λε hε=>afv s1 s4 _ _ hε
def aj6(s:lQ)(x:List RI)(d:RD)(u:Int)(g:s.kz)(gx0:∀ y,y ∈ x->y.kz)(gd:d.kz)(hu:0<=u/\u<=255):ic 4 [nA s,oe x,tO d,.v<|.int .u8 u]<|bP true:=by
 have gx:∀ i,(x.getD i mq).kz:=λi=>by
  by_cases hi:i<x.length
  .rw [bc,bk hi];exact gx0 _<|b9 hi
  .rw [bc,bX aC];exact MA
 by_cases hE:(wW s=true/\xL x=true/\rT d=false/\Eg d=true)
 case neg=>exact apF s x d u gd hE
 obtain⟨l1,l2,l3,l4⟩:=hE;have sm:=ahg l1;have nF:x.length<=1000:=by have:=aa4 l2;omega
 have dk:=Jw.1 l4;have hd:=dk.valid;have ed:tO d=iw d.dy:=by rw[<-N9,dk.eq gd]
 have c1:=Yd s;have c2:=Qj x;have c3:=LJ d;rw[l1]at c1;rw[l2]at c2;rw[l3,ed]at c3;have vN:=apK s g sm 60 (iJ d.dy) (oP hd) rfl;cases hf:qP s x d 60 with
 |false=>
  have hN:=agi s g sm x gx nF d gd 60 hf;rw[ed]at hN ⊢;exact ab3 s x d.dy u 1 hd c1 c2 c3 aE hN vN
 |true=>
  obtain⟨o1,o2,o3,o4,p1,p2,e1,e2,e3⟩:=ahk g gx gd hf;obtain⟨o,HI,oZ,_⟩:=agk s.v (x.map RI.iv) d.dy 60 o1 o2 o3 o4 aE aE;cases o with
  |none=>
   rw[<-e1,<-e2]at HI;rw[ed];exact ab3 s x d.dy u 12 hd c1 c2 c3 aE HI vN
  |some b=>
   obtain⟨hb,_⟩:=oZ b rfl;rw[e1]at c1;rw[e2]at c2;rw[ed,e1,e2];obtain⟨k,ek⟩:∃ k,k=u.toNat%16+1:=⟨_,rfl⟩
   have hk:Int.tmod u 16=(k:Int)-1:=by
    rw[ek,ars hu.1];omega
   have hW:=apN s.v b ik 60 kR rfl;have vp:=oP o3;cases hn:Ct s.v b 60 with
   |true=>
    have hD:=afK s.v b 60 o1 hb aE aE hn;exact apE s.v (x.map RI.iv) b d.dy u k hd hu hk ⟨aC,aC⟩ c1 c2 c3 HI hW (apL s.v b (iJ d.dy) 60 vp rfl hD)<|ahn s.v b (iJ d.dy) k 60<|VR s.v b 60 o1 hb aE aE hn
   |false=>
    have hD:=afQ s.v b 60 o1 hb aE aE hn;have tv:=Sd o1 hb (show 1<=60 by decide) (show 60<=4096 by decide)<|s.v.iN-1;obtain⟨Z,hz,tz,hex⟩:=aqf (x:=iL (iJ d.dy) (xN (oz s.v b 60) 60<|s.v.iN-1) 60) (lE _ _ aE aE) (p:=60) aE aE;have hV:=apO s.v b (iJ d.dy) 60 vp rfl _ Z tv aE aE hD hex;obtain⟨M,f,hF,hq⟩:=ahm s.v b (iJ d.dy) k 60 o1 hb vp rfl aC aC aE aE hn;rcases hq with⟨rfl,he,hM⟩|rfl
    .have hm:=apM s.v b d.dy k 60 o1 hb o3 aC aE aE M hM he Z tz;exact apH s.v (x.map RI.iv) b d.dy u k hd hu hk ⟨aC,aC⟩ c1 c2 c3 Z _ _ M HI hW hV hF (akc M _ 60 hM aE aE)<|apv Z _ hz (afs hM aE aE) hm
    .exact apG s.v (x.map RI.iv) b d.dy u k hd hu hk ⟨aC,aC⟩ c1 c2 c3 Z M HI hW hV hF
open Go.ChangeShapes Go.WideShapes Go.ChangeAt
def amE{W:World}{x:RD}{cs:Array Value}(h:SD W x cs.toList):iI ny ny W (tO x)<|.agg cs:=by
 obtain⟨_,hl,h⟩:=h;have:=iI.agg (bs:=ny) (br:=ny) (w:=W) (Rr x) cs.toList (by rw[hl];rfl) (λi p v h1 h2=>by
  have hi:i<3:=by have:=(ca.1 h2).1;omega
  obtain⟨v',h3,h4⟩:=h i hi;rw[h2]at h3;cases h3;rw[bc,h1]at h4;exact h4)
 unfold tO;exact this
def Nh(W:World)(o:pA)(cs:List Value):Prop:=o.kz/\cs.length=6/\∀ j,j<6->∃ v,cs[j]? = some v/\iI ny ny W ((Bv o).getD j .any) v
def akp{α:Type}{l:List α}(h:l.length=2):∃ a b,l=[a,b]:=by
 rcases l with _|⟨a,_|⟨b,_|⟨c,l⟩⟩⟩<;>simp at h
 exact⟨a,b,rfl⟩
def akq{α:Type}{l:List α}(h:l.length=5):∃ a b c d e,l=[a,b,c,d,e]:=by
 rcases l with _|⟨a,_|⟨b,_|⟨c,_|⟨d,_|⟨e,_|⟨f,l⟩⟩⟩⟩⟩⟩<;>simp at h
 exact⟨a,b,c,d,e,rfl⟩
def akr{α:Type}{l:List α}(h:l.length=6):∃ a b c d e f,l=[a,b,c,d,e,f]:=by
 rcases l with _|⟨a,_|⟨b,_|⟨c,_|⟨d,_|⟨e,_|⟨f,_|⟨g,l⟩⟩⟩⟩⟩⟩⟩<;>simp at h
 exact⟨a,b,c,d,e,f,rfl⟩
section
variable {H:Type} {enc:TypeId×Value->H} {W:World} {fuel:Nat} {cs:List Value} {x:DataW H×List MemPlace}
def CF(h:DataW.trod enc prog W 0 (λ_=>true) true fuel 3 cs=some x):∃ z,cs=[.int .i64 z]/\lJ .i64 z:=by
 obtain⟨z,hz,_,hw⟩:=DataW.trod_int underlying3 h;exact⟨z,hz,Su hw⟩
def alQ(h:DataW.trod enc prog W 0 (λ_=>true) true fuel 78 cs=some x):∃ n d,cs=[.int .i64 n,.int .i64 d]/\lJ .i64 n/\lJ .i64 d:=by
 obtain⟨xs,n,rfl,rfl,hl,nF,hf⟩:=DataW.trod_struct underlying78 h;have hC:prog.cellsOf 78=2:= aF ;have hI:prog.cellsOf 3=1:= aF ;rw[hC]at hl;obtain⟨c0,c1,rfl⟩:=akp hl;have h0:=hf 0 _ rfl;have h1:=hf 1 _ rfl;simp only[fA,fB,eF]at h0 h1;simp only[hI,fC,fD,eW,fE]at h0 h1;rw[bk<|by rw[nF];decide]at h0 h1;obtain⟨z0,e0,w0⟩:=CF h0;obtain⟨z1,e1,w1⟩:=CF h1;simp at e0 e1;subst e0 e1;exact⟨z0,z1,rfl,w0,w1⟩
def alS(h:DataW.trod enc prog W 0 (λ_=>true) true fuel 153 cs=some x):∃ o,Nh W o cs:=by
 obtain⟨xs,n,rfl,rfl,hl,nF,hf⟩:=DataW.trod_struct underlying153 h;have hC:prog.cellsOf 153=6:= aF ;have hR:prog.cellsOf 78=2:= aF ;have hI:prog.cellsOf 3=1:= aF ;rw[hC]at hl;obtain⟨c0,c1,c2,c3,c4,c5,rfl⟩:=akr hl;have h0:=hf 0 _ rfl;have h1:=hf 1 _ rfl;have h2:=hf 2 _ rfl;have h3:=hf 3 _ rfl;have h4:=hf 4 _ rfl;simp only[fA,fB,eF]at h0 h1 h2 h3 h4;simp only[hI,hR,fC,fD,eW,fE]at h0 h1 h2 h3 h4;rw[bk<|by rw[nF];decide]at h0 h1 h2 h3 h4;obtain⟨z0,e0,w0⟩:=CF h0;obtain⟨z1,e1,w1⟩:=CF h1;obtain⟨z2,e2,w2⟩:=CF h2;obtain⟨z3,e3,w3⟩:=CF h3;obtain⟨z4,z5,e4,w4,w5⟩:=alQ h4;simp at e0 e1 e2 e3 e4;obtain⟨e4,e5⟩:=e4;subst e0 e1 e2 e3 e4 e5;refine⟨⟨z0,z1,z2,z3,z4,z5⟩,⟨w0,w1,w2,w3,w4,w5⟩,rfl,λj hj=>?_⟩;rcases j with _|_|_|_|_|_|j
 all_goals first|exact⟨_,rfl,.v _⟩|omega
def ank(o:pA)(j:Nat)(hj:j<6):((Bv o).getD j .any).one=true/\(((Bv o).getD j .any).lY=true)/\((Bv o).getD j .any).nr 2=true:=by
 rcases j with _|_|_|_|_|_|j
 all_goals first|exact⟨rfl,rfl,rfl⟩|omega
def alT(h:DataW.trod enc prog W 0 (λ_=>true) true fuel 26 cs=some x):
  ∃ l v,cs=[v]/\(∀ y,y ∈ l->y.kz)/\iI ny ny W (pI l) v:=by
 have hC:prog.cellsOf 153=6:= aF ;rcases Deep.open_slice underlying26 h with⟨rfl,_⟩|⟨a,len,cap,m,n,D,Pl,rfl,hb,hl,hm,tC,rfl,hx⟩
 .exact ⟨[],_,rfl,(λy hy=>by cases hy),.sl true 0 6 _ none 0 (λ_ _=>.bool false) (a7 _) aE (λ_=>rfl) (λi j hi=>absurd hi<|bt i) (λi j hi=>absurd hi<|bt i) (λi j hi=>absurd hi<|bt i) λi j hi=>absurd hi<|bt i⟩
 .simp only[bA]at tC;subst tC;have ex:∀ i,∃ y:pA,i<len->∃ cs',W.cells? 0 (a.add<|i*6) 6=some cs'/\Nh W y cs':=by
   intro i;by_cases hi:i<len
   .obtain ⟨cs',h1,h2⟩:=hx i aC ;rw[hC]at h1;obtain⟨y,hy⟩:=alS h2;exact⟨y,λ_=>⟨cs',h1,hy⟩⟩
   .exact ⟨oF,λh=>absurd h hi⟩
  let X:Nat->pA:=λi=>Classical.choose<|ex i
  have hX:∀ i,i<len->∃ cs',W.cells? 0 (a.add<|i*6) 6=some cs'/\Nh W (X i) cs':=λi=>cT<|ex i
  have hlen:((List.range len).map X).length=len:= aH ;refine⟨(List.range len).map X,_,rfl,?_,?_⟩
  .intro y hy;obtain⟨i,hi,rfl⟩:=cC.1 hy;obtain⟨cs',_,h2⟩:=hX i<|bS.1 hi;exact h2.1
  .have Dw:∀ i,i<len->((List.range len).map X).getD i oF=X i:=by
    intro i hi;rw[bc,ch,arj hi];rfl
   have:=RA (W:=W) (a:=a) (len:=len) (cap:=m) (nl:=true) (λi j=>(Bv<|((List.range len).map X).getD i oF).getD j .any) hl hm (show 0<6 by decide)
    (λi j _ hj=>let⟨h1,h2,h3⟩:=ank (((List.range len).map X).getD i oF) j hj;⟨h1,λ_=>h2,h3⟩)
    (λi hi=>by
     obtain⟨cs',h1,h2,_,h3⟩:=hX i hi;exact⟨cs',h1,λj hj=>by rw[Dw i hi];exact h3 j hj⟩)
   unfold pI;rw[hlen];exact this
def ani:oF.kz:=by constructor<;>(show lJ .i64 0;unfold lJ;decide)
def OJ{α:Type}{P:α->Prop}{l:List α}{d:α}(h:∀ y,y ∈ l->P y)(hd:P d)(i:Nat):P<|l.getD i d:=by
 by_cases hi:i<l.length
 .rw [bc,bk hi];exact h _<|b9 hi
 .rw [bc,bX aC];exact hd
def SE(W:World)(s:lQ)(cs:List Value):Prop:=s.kz/\cs.length=5/\∀ j,j<5->∃ v,cs[j]? = some v/\iI ny ny W ((RR s).getD j .any) v
def alV(h:DataW.trod enc prog W 0 (λ_=>true) true fuel 29 cs=some x):
 ∃ (n:Int) (ij:List pA) (iB:List Int) (v w:Value),cs=[.int .i64 n,v,w]/\lJ .i64 n/\(∀ y,y ∈ ij->y.kz)/\(∀ z,z ∈ iB->lJ .i64 z)/\iI ny ny W (pI ij) v/\iI ny ny W (qV iB) w:=by
 obtain⟨xs,n,rfl,rfl,hl,nF,hf⟩:=DataW.trod_struct underlying29 h;have hC:prog.cellsOf 29=3:= aF ;have hI:prog.cellsOf 3=1:= aF ;have hO:prog.cellsOf 26=1:= aF ;have hU:prog.cellsOf 27=1:= aF ;rw[hC]at hl;obtain⟨c0,c1,c2,rfl⟩:=Ym hl;have h0:=hf 0 _ rfl;have h1:=hf 1 _ rfl;have h2:=hf 2 _ rfl;simp only[fA,fB,eF]at h0 h1 h2;simp only[hI,hO,hU,fC,fD,eW,fE]at h0 h1 h2;rw[bk<|by rw[nF];decide]at h0 h1 h2;obtain⟨z0,e0,w0⟩:=CF h0;obtain⟨ij,v,e1,g1,r1⟩:=alT h1;obtain⟨iB,w,e2,g2,r2⟩:=alO (k:=.i64) (λ_=>rfl) underlying27 underlying3 hI h2;simp at e0 e1 e2;subst e0 e1 e2;exact⟨z0,ij,iB,_,_,rfl,w0,g1,g2,r1,r2⟩
def alU(h:DataW.trod enc prog W 0 (λ_=>true) true fuel 31 cs=some x)(iE:∀ p ∈ x.2,p.block<W.heap.size):∃ s,SE W s cs:=by
 obtain⟨xs,n,rfl,rfl,hl,nF,hf⟩:=DataW.trod_struct underlying31 h;have hC:prog.cellsOf 31=5:= aF ;have hT:prog.cellsOf 29=3:= aF ;have hI:prog.cellsOf 3=1:= aF ;have hP:prog.cellsOf 23=1:= aF ;rw[hC]at hl;obtain⟨c0,c1,c2,c3,c4,rfl⟩:=akq hl;have h0:=hf 0 _ rfl;have h1:=hf 1 _ rfl;have h2:=hf 2 _ rfl;simp only[fA,fB,eF]at h0 h1 h2;simp only[hT,hI,hP,fC,fD,eW,fE]at h0 h1 h2;rw[bk<|by rw[nF];decide]at h0 h1 h2;obtain⟨z0,ij,iB,v,w,e0,w0,g1,g2,r1,r2⟩:=alV h0;obtain⟨z1,e1,w1⟩:=CF h1;obtain⟨ps,u,e2,g3,r3⟩:=ZI h2 λp hp=>iE p<|dG.2 ⟨_,b9 _,hp⟩;simp at e0 e1 e2;obtain⟨e0,e0b,e0c⟩:=e0;subst e0 e0b e0c e1 e2;refine⟨⟨z0,ij,iB,z1,ps⟩,⟨w0,OJ g1 ani,OJ g2<|by unfold lJ;decide,w1,OJ g3 MA⟩,rfl,λj hj=>?_⟩;rcases j with _|_|_|_|_|j
 .exact ⟨_,rfl,.v _⟩
 .exact ⟨_,rfl,r1⟩
 .exact ⟨_,rfl,r2⟩
 .exact ⟨_,rfl,.v _⟩
 .exact ⟨_,rfl,r3⟩
 .omega
end
def aoZ{W:World}{x:lQ}{cs:Array Value}(h:SE W x cs.toList):iI ny ny W (nA x)<|.agg cs:=by
 obtain⟨_,hl,h⟩:=h;have:=iI.agg (bs:=ny) (br:=ny) (w:=W) (RR x) cs.toList (by rw[hl];rfl) (λi p v h1 h2=>by
  have hi:i<5:=by have:=(ca.1 h2).1;omega
  obtain⟨v',h3,h4⟩:=h i hi;rw[h2]at h3;cases h3;rw[bc,h1]at h4;exact h4)
 unfold nA;exact this
def agL:Value:=.agg #[.bool false,.slice none 0 0,.int .i64 0]
def agM{H:Type}:DataW H:=.agg [.lit<|.bool false,.nil,.lit<|.int .i64 0]
def agN:Value:=.agg #[.int .i64 0,.slice none 0 0,.slice none 0 0,.int .i64 0,.slice none 0 0]
def agO{H:Type}:DataW H:=.agg [.agg [.lit<|.int .i64 0,.nil,.nil],.lit<|.int .i64 0,.nil]
def ED:Array Value:=#[agN,.slice none 0 0,agL,.int .u8 0]
set_option maxRecDepth 100000 in
def apP(H:Type)(enc:TypeId×Value->H)(W:World)(base:Nat)(args:Array Value)(ds gs:List<|DataW H)(before:List MemPlace)
 (mI:∀ (j:Nat) t v,Tryz.f4.params[j]? = some t->args[j]? = some v->Value.okWide prog W .any base t v)
 (hW:DataW.Whole enc prog Tryz.f4.params.toList Rows.variationVolumeSpec.vars false W args.toList ds gs before) (hL:laidMetH prog Rows.variationVolumeRow.laid W):
 Calls prog 4 args W λe W'=>∃ v,e = .returned v/\Rows.variationVolumeSpec.post enc prog Tryz.f4 false true false false W args v W':=by
 have K9:=hW;obtain⟨p,q,vV,hV,rfl,hfz,hnd⟩:=hW;have hA:DataW.TrodAll enc prog W 0 (λ_=>true) true Tryz.f4.params.toList args.toList ds p:=vV;rw[Tryz.params4]at hA mI;obtain⟨v0,vs0,d0,ds0,p0,q0,FD,rfl,rfl,h0,vV⟩:=trodAll_cons hA;obtain⟨v1,vs1,d1,ds1,p1,q1,rfl,rfl,rfl,h1,B9⟩:=trodAll_cons vV;obtain⟨v2,vs2,d2,ds2,p2,q2,rfl,rfl,rfl,h2,hA2⟩:=trodAll_cons B9;obtain⟨v3,vs3,d3,ds3,p3,q3,rfl,rfl,rfl,h3,hA3⟩:=trodAll_cons hA2;obtain⟨rfl,rfl,rfl⟩:=trodAll_nil hA3;obtain rfl:args = #[v0,v1,v2,v3]:=by cases args;simp_all
 obtain⟨rfl,rfl⟩:=trodVars_none hV;obtain⟨cs0,rfl,aqE⟩:=okWide_struct underlying31<|mI 0 31 v0 rfl rfl;obtain⟨a1,len1,cap1,rfl⟩:=okWide_slice underlying23<|mI 1 23 v1 rfl rfl;obtain⟨cs2,rfl,aqF⟩:=okWide_struct underlying37<|mI 2 37 v2 rfl rfl;obtain⟨x3,rfl,rfl,rfl,b3⟩:=open_int underlying5 (mI 3 5 v3 rfl rfl) h3;have h0k:=h0;obtain⟨fuel0,hf0⟩:=h0;have h1k:=h1;obtain⟨fuel1,Pm⟩:=h1;have h2k:=h2;obtain⟨fuel2,Pn⟩:=h2;clear vV;have Fw:∀ x ∈ p0,x.block<W.heap.size:=λx hx=>K9.lt x<|by simp[hx]
 have Fx:∀ x ∈ p1,x.block<W.heap.size:=λx hx=>K9.lt x<|by simp[hx]
 have Lp:∀ x ∈ p2,x.block<W.heap.size:=λx hx=>K9.lt x<|by simp[hx]
 obtain⟨x0,g0⟩:=alU hf0 Fw;obtain⟨x1,w1,FC,g1,r1⟩:=ZI Pm Fx;obtain rfl:Value.slice a1 len1 cap1=w1:=by
  have:(Value.slice a1 len1 cap1).cells.toList=[Value.slice a1 len1 cap1]:=rfl;rw[this]at FC;simpa using FC
 obtain⟨x2,g2⟩:=Q9 Pn Lp;have ki:=(aj6 x0 x1 x2 x3 g0.1 g1 g2.1<|Su b3).run W ny [.agg cs0,.slice a1 len1 cap1,.agg cs2,.int .u8 x3] (ao6 rfl hL) (λ_ h=>h.elim)<|.cons (aoZ (cs:=cs0) g0)<|.cons r1<|.cons (amE (cs:=cs2) g2)<|.cons (.v _)<|.nil _ _ _;refine ki.mono λr W' ⟨v,hr,hb,r7⟩=>?_
 obtain rfl:=iI.kG r7;subst hr;refine⟨_,rfl,_,_,_,[],p0++(p1++(p2++([]))),[],K9,?_,?_,rfl,hb.frame _,λh=>by cases h⟩
 .exact trodAll_mk1<|shut_bool underlying4 _
 .exact ⟨p0,_,Below.trod LK aF (cN aF) h0k hb Fw,⟨p1,_,Below.trod LK aF (cN aF) h1k hb Fx,⟨p2,_,Below.trod LK aF (cN aF) h2k hb Lp,trodAll_mk1 (Below.trod LK aF (cN aF) h3 hb λ_ h=>by cases h),rfl⟩,rfl⟩,rfl⟩
def apS(os:Os):laidMet prog Rows.variationVolumeRow.laid ((Qk os ED).forCall (λ_ _=>0) ⟨#[],ED,[]⟩).memory:=
 laidMet_of_run' 8 aF aF 
def apU(os:Os){H:Type}(enc:TypeId×Value->H):∃ places,DataW.whole enc prog ((Qk os ED).forCall (λ_ _=>0) ⟨#[],ED,[]⟩).memory Tryz.f4.params.toList Rows.variationVolumeSpec.vars false ED.toList 8=some ([agO,.nil,agM,.lit<|.int .u8 0],[],places):=
 ⟨[],aF⟩
set_option maxRecDepth 100000 in
def apR(os:Os)(started:os.Started)(H:Type)(enc:TypeId×Value->H)(F:Stop.Interp):
  ReturnsInHanded {} Tryz.checked os 4 .any ((OpenSpec.ofChange Rows.variationVolumeSpec).preRow enc prog Tryz.f4 Rows.variationVolumeRow.domain false Rows.variationVolumeRow.laid) (((OpenSpec.ofChange Rows.variationVolumeSpec).at F).post enc prog Tryz.f4 false true false false):=by
 obtain⟨places,hx⟩:=apU os enc;refine returnsInHanded_of_row (C:=Tryz.checked) (s:=OpenSpec.ofChange Rows.variationVolumeSpec) own started aF func4
  (witness_row_at (enc:=enc) (C:=Tryz.checked) false (Qk os ED) ED rfl aF aF aF 
   (OpenSpec.preRow_of_cond 8 hx aF (λk hk=>by cases hk) aF<|apS os)) ?_
 intro W base args ds gs before mI hW _ _ _ hL _ _;exact apP H enc W base args ds gs before mI hW hL
set_option maxHeartbeats 100000000 in
def apQ:joinedFacts prog 4 Tryz.f4 (OpenSpec.ofChange Rows.variationVolumeSpec).bare Rows.variationVolumeRow=true:=by
 unfold joinedFacts;simp only[bD]
 and_intros<;>decide +kernel
def apW:Rows.VariationVolumeSaid:=
 OpenClaim.holds_of_cond 4 Tryz.f4 rfl rfl rfl rfl rfl rfl rfl ⟨rfl,rfl,rfl,rfl,rfl⟩ rfl rfl rfl rfl rfl aF func4 apQ
  (cN aF) (by unfold Func.isWrapper;first|(rw[aY aL];kernel_rfl)|(rw[aX aL];exact⟨rfl,rfl⟩))
  (λos started H enc _ F=>by rw[OpenClaim.pre_eq_preRow];exact apR os started H enc F)
def apT (f:FuncId) (fn:Func) (hf:Tryz.pinned.checked.prog.funcNamed "flowpipe/flowpipelaw32.VariationVolume" = some f) (hfn:Tryz.pinned.checked.prog.funcs[f]? = some fn):
 false=Tryz.pinned.checked.prog.looks []/\∀ (j:Nat) t,fn.params[j]? = some t->Tryz.pinned.checked.prog.wantsStandIn t=false:=by
 obtain rfl:f=4:=arb ((show prog.funcNamed "flowpipe/flowpipelaw32.VariationVolume" = some 4 by kernel_rfl).symm.trans hf) |>.symm
 obtain rfl:fn=Tryz.f4:=(arb<|func4.symm.trans hfn).symm;refine⟨aF,λj t ht=>?_⟩;rw[Tryz.params4]at ht;have:t=31\/t=23\/t=37\/t=5:=by
  have:=ej ht;simp only[gS,cP,aqY,fS]at this;rcases this with h|h|h|h<;>subst h<;>simp
 rcases this with rfl|rfl|rfl|rfl
 .exact (show prog.wantsStandIn 31=false by kernel_rfl)
 .exact (show prog.wantsStandIn 23=false by kernel_rfl)
 .exact (show prog.wantsStandIn 37=false by kernel_rfl)
 .exact (show prog.wantsStandIn 5=false by kernel_rfl)
theorem volume_card:Rows.VariationVolumeCardSaid:=
 Claim7.holds_tied_plain_at .later [] _ _ _ _ apW (λ_ h=>by cases h) aF (λ_ h=>by cases h) variationVolume_row_tie rfl ⟨rfl,rfl⟩ aF rfl apT (aij ahr rfl)
end Go.Proofs.YtjkmahljfblobaaGreatDoor
