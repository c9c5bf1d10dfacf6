/- Lemmas that the last file uses. -/
import Derived.Test.YtgdahmmlddfimaaGreatDoorM04
set_option linter.unusedSimpArgs false
set_option linter.unusedVariables false
set_option linter.defProp false
set_option maxHeartbeats 4000000
open Go.Proofs.Tryz
namespace Go.Proofs.YtgdahmmlddfimaaGreatDoor
open Go.RowKit Fp Pu
abbrev mQ(l:List Dy)(i j:Nat):E:=(ix (l.getD i iA)).getD j .any
noncomputable def XP(s:jM)(x:List Iv)(k p:Nat)(q:Nat):PS:=⟨49,true,[(12,.own 12),(29,.e (iP q)),(28,.e (iP ((ji s x p k).length:Int))),(27,.e (kX (ji s x p k))),(2,.e (iP k))],[(12,.row true 31 q 3 (mQ ((List.range q).map λi=>iR (((ji s x p k).getD i []).getD k gY))))]⟩
noncomputable def XQ(s:jM)(x:List Iv)(k p:Nat)(q:Nat):PS:=⟨49,true,[(12,.own 12),(29,.e (iP q)),(28,.e (iP ((ji s x p k).length:Int))),(27,.e (kX (ji s x p k))),(2,.e (iP k))],[(12,.row true 31 q 3 (mQ ((List.range q).map λi=>iR (((ji s x p k).getD i []).getD k gY))))]⟩
def Jf{n:Nat}{f:Nat->Bool}(h:¬(List.range n).all f=true):∃ N,N<n/\(!f N)=true/\∀ k,k<N->(!f k)=false:=by
 have hx:∃ N,N<n/\f N=false:=by
  apply bT;intro q;apply h;refine bX.2 λi hi=>?_
  cases hf:f i with
  |true=>rfl
  |false=>exact absurd ⟨i,b5.1 hi,hf⟩ q
 obtain⟨M,hM,hf⟩:=hx;obtain⟨N,h1,h2,h3⟩:=Po (P:=λi=>!f i) (n:=M) (by rw[hf];rfl);exact⟨N,aE,h2,h3⟩
def Yb{a b:Dy}(h:a.m=0):iY a b=iA:=by
 unfold iY canon;rw[h,cM,bk rfl];rfl
def akx{a b:Dy}(h:b.m=0):iY a b=iA:=by
 unfold iY canon;rw[h,cL,bk rfl];rfl
def JD:jC iA=iA/\kC iA=0:=⟨yJ (.inl rfl),Cy (.inl rfl)⟩
def adf{a b:Nat}(h1:a≠0)(h2:b≠0):ie a+ie b-1<=ie (a*b):=by
 have p1:=rP h1;have p2:=rP h2;have q1:=ny h1;have q2:=ny h2;have h:=dr p1 p2;rw[<-bB]at h;apply bT;intro q;have h3:=lY.1 (aE:ie (a*b)<=ie a-1+(ie b-1));omega
def X8{a b:Dy}(ha:a.ib)(hb:b.ib)(h1:a.m≠0)(h2:b.m≠0)(hs:4096<ie a.m+ie b.m-1):jC (iY a b)=iA/\kC (iY a b)=9:=by
 have o1:=ha.canon.resolve_left λq=>h1 q.1
 have o2:=hb.canon.resolve_left λq=>h2 q.1
 have hm:(iY a b).m=a.m*b.m:=by
  unfold iY canon;rw[bj (dm h1 h2)];have:(a.m*b.m)%2=1:=by rw[Nat.mul_mod,o1,o2]
  have hz:jz (a.m*b.m)=0:=JH this;rw[hz,cI,fe]
 have lZ:=adf h1 h2;have hn:¬mT (iY a b):=λq=>by
  unfold mT at q;rw[hm]at q;rcases q with q|q
  .exact dm h1 h2 q
  .omega
 exact⟨JC hn,Eg hn⟩
def JP(m:Nat)(h:(gW m).length<=256):gV 225 [ia (gW m)] (iP (ie m:Int)):=
 ak call225 func225 (af [ag [ia (gW m)] (tf _ aE)]) 
def acK(a b:Dy)(ha:a.ib)(hb:b.ib)(h1:a.m=0):gV 184 [gZ a,gZ b] (.iw [gZ (jC (iY a b)),iP (kC (iY a b))]):=
 ak call184 func184 (ae [ag [gZ a] (nB _ aF),ag [gZ b] (nB _ aF),ah 20 (((gW a.m).length:Int)==0) (sk (pE.2 h1)),.o 27 (.e qO:aj (.agg ar) (gZ iA))]<|rQ (.iw [gZ iA,iP 0]) (.iw [gZ (jC (iY a b)),iP (kC (iY a b))]) (by rw[Yb h1,JD.1,JD.2])) 
def acL(a b:Dy)(ha:a.ib)(hb:b.ib)(h1:a.m≠0)(h2:b.m=0):gV 184 [gZ a,gZ b] (.iw [gZ (jC (iY a b)),iP (kC (iY a b))]):=
 ak call184 func184 (ae [ag [gZ a] (nB _ aF),ag [gZ b] (nB _ aF),ai 20 (((gW a.m).length:Int)==0) (ni (nR h1)),ah 25 (((gW b.m).length:Int)==0) (sk (pE.2 h2)),.o 27 (.e qO:aj (.agg ar) (gZ iA))]<|rQ (.iw [gZ iA,iP 0]) (.iw [gZ (jC (iY a b)),iP (kC (iY a b))]) (by rw[akx h2,JD.1,JD.2])) 
def acM(a b:Dy)(ha:a.ib)(hb:b.ib)(h1:a.m≠0)(h2:b.m≠0)(hs:4096<ie a.m+ie b.m-1):gV 184 [gZ a,gZ b] (.iw [gZ (jC (iY a b)),iP (kC (iY a b))]):=by
 have la:=ha.gW;have lb:=hb.gW;have ea:=ha.exp;have eb:=hb.exp;have ra:=(ha.range.resolve_left h1).1;have rb:=(hb.range.resolve_left h2).1;exact ak call184 func184 (ae [ag [gZ a] (nB _ aF),ag [gZ b] (nB _ aF),ai 20 (((gW a.m).length:Int)==0) (ni (nR h1)),ai 25 (((gW b.m).length:Int)==0) (ni (nR h2)),.c (JP a.m aE),.c (JP b.m aE),iq ((ie a.m:Int)+(ie b.m:Int)) aE,
  iq (((ie a.m:Int)+(ie b.m:Int))-1) aE,tT 36 (4096<(((ie a.m:Int)+(ie b.m:Int))-1)) aE,.o 37 (.e qO:aj (.agg ar) (gZ iA))]<|rQ (.iw [gZ iA,iP 9]) (.iw [gZ (jC (iY a b)),iP (kC (iY a b))]) (by rw[(X8 ha hb h1 h2 hs).1,(X8 ha hb h1 h2 hs).2])) 
def acN(a b:Dy)(ha:a.ib)(hb:b.ib)(h1:a.m≠0)(h2:b.m≠0)(hs:¬4096<ie a.m+ie b.m-1):gV 184 [gZ a,gZ b] (.iw [gZ (jC (iY a b)),iP (kC (iY a b))]):=by
 have la:=ha.gW;have lb:=hb.gW;have ea:=ha.exp;have eb:=hb.exp;have ra:=(ha.range.resolve_left h1).1;have rb:=(hb.range.resolve_left h2).1;have V6:(gW (a.m*b.m)).length<=256:=Ho (by have:=Jv a.m b.m;omega);have kD:=MV (ml (a.m*b.m)) V6 (!(a.neg==b.neg)) (a.e+b.e);obtain⟨lZ,qU⟩:=MT (ml (a.m*b.m)) V6 (!(a.neg==b.neg)) (a.e+b.e) aE aE;rw[kq]at kD lZ qU;exact ak call184 func184 (ae [ag [gZ a] (nB _ aF),ag [gZ b] (nB _ aF),ai 20 (((gW a.m).length:Int)==0) (ni (nR h1)),ai 25 (((gW b.m).length:Int)==0) (ni (nR h2)),.c (JP a.m aE),.c (JP b.m aE),iq ((ie a.m:Int)+(ie b.m:Int)) aE,
  iq (((ie a.m:Int)+(ie b.m:Int))-1) aE,tF 36 (4096<(((ie a.m:Int)+(ie b.m:Int))-1)) aE,ag [ia (gW a.m),ia (gW b.m)] (ze _ _ aE aE aE),iq (a.e+b.e) aE,ag [bP (!(a.neg==b.neg)),ia (gW (a.m*b.m)),iP (a.e+b.e)] (Co _ _ _ aE aE aE),ag [gZ (canon (!(a.neg==b.neg)) (a.m*b.m) (a.e+b.e))] (FV _ aE aE aE)]<|rR (.iw [gZ (jC (iY a b)),iP (kC (iY a b))]) (.iT rfl:E.le (.iw [gZ (jC (canon (!(a.neg==b.neg)) (a.m*b.m) (a.e+b.e))),iP (kC (canon (!(a.neg==b.neg)) (a.m*b.m) (a.e+b.e)))]) (.iw [gZ (jC (iY a b)),iP (kC (iY a b))]))) 
def wN(a b:Dy)(ha:a.ib)(hb:b.ib):gV 184 [gZ a,gZ b] (.iw [gZ (jC (iY a b)),iP (kC (iY a b))]):=by
 by_cases h1:a.m=0
 .exact acK a b ha hb h1
 by_cases h2:b.m=0
 .exact acL a b ha hb h1 h2
 by_cases hs:4096<ie a.m+ie b.m-1
 .exact acM a b ha hb h1 h2 hs
 .exact acN a b ha hb h1 h2 hs
def qQ(k:Int):gV 109 [iP k] (gZ (iS k)):=
 ak call109 func109 (ae [.o 3 (.e yi:aj (.sl false 1 1 λi_ j_=>[.v (.int .u32 1)].getD (i_*1+j_) (.v (.bool false))) (ia (gW 1)))]<|rR (gZ (iS k)) (.iT rfl:E.le (gZ (Dy.mk false 1 k)) (gZ (iS k)))) 
def PL(j:Int):(nD j).m<8:=by
 have h:=qw (nD j).m;exact bV h (bR aG (Hz j))
def HW(j:Int):(gW (nD j).m).length=1/\(gW (nD j).m).getD 0 0=(nD j).m:=by
 have h8:=PL j;rw[BO (E8 j),c9 aE,oz,ca aE];exact⟨rfl,rfl⟩
def akC(j:Int):(nD j).m*2^((nD j).e-j/4).toNat=jD j:=by
 obtain⟨e,⟨g,h⟩|⟨g,h⟩|⟨g,h⟩|⟨g,h⟩⟩:=E7 j
 .rw [h,show jD j=4 by unfold jD;omega];show 1*2^(e+2-j/4).toNat=4;rw[show(e+2-j/4).toNat=2 by omega]
 .rw [h,show jD j=5 by unfold jD;omega];show 5*2^(e-j/4).toNat=5;rw[show(e-j/4).toNat=0 by omega]
 .rw [h,show jD j=6 by unfold jD;omega];show 3*2^(e+1-j/4).toNat=6;rw[show(e+1-j/4).toNat=1 by omega]
 .rw [h,show jD j=7 by unfold jD;omega];show 7*2^(e-j/4).toNat=7;rw[show(e-j/4).toNat=0 by omega]
def K5(j:Int):nD (j-1)=if jD j=4 then canon false 7 (j/4-1)else canon false (jD j-1) (j/4):=by
 split
 .rename_i h;have:j%4=0:=by unfold jD at h;omega
  unfold nD;rw[show jD (j-1)=7 by unfold jD;omega,show(j-1)/4=j/4-1 by omega]
 .rename_i h;have:j%4≠0:=by unfold jD at h;omega
  unfold nD;rw[show jD (j-1)=jD j-1 by unfold jD;omega,show(j-1)/4=j/4 by omega]
def Xv{m:Nat}(h0:0<m)(h:m<4294967296):E.le (.sl false 1 1 λi j=>[E.v (.int .u32 (m:Int))].getD (i*1+j) (.v (.bool false))) (ia (gW m)):=by
 have e1:gW m=[m]:=by rw[BO aE,c9 h,oz,ca h]
 rw[e1];refine .sl λi j hi hj=>?_
 obtain rfl:i=0:= aE ;obtain rfl:j=0:= aE ;exact⟨.refl _,rfl⟩
def Yh(j:Int):IntKind.i64.wrap ((((gW (nD j).m).getD 0 0:Nat):Int)*2^((nD j).e-j/4).toNat)=(jD j:Int):=by
 rw[(HW j).2];have h:=akC j;have e:((nD j).m:Int)*2^((nD j).e-j/4).toNat=(((nD j).m*2^((nD j).e-j/4).toNat:Nat):Int):=by rw[dZ,Int.natCast_pow];rfl
 rw[e,h];have:=Fb j;exact i64_in _ aE aE 
def adz(j:Int)(h1:-30000<=j)(h2:j<=30000)(h4:jD j=4):gV 111 [gZ (nD j)] (.iw [gZ (nD (j-1)),bP true]):=by
 have hv:(nD j).ib:=ri aE aE;have hw:(nD (j-1)).ib:=ri aE aE;have hm:=Fb j;have he:=HI j;have hl:=(HW j).1;have nX:=(HW j).2;have h8:=PL j;have ht:=uB j;have hp:=K5 j;rw[bk h4]at hp;have hr:=hw.range;rw[hp]at hr;have hl7:(gW 7).length<=256:=bA (s9 (k:=1) aG) aG;exact ak call111 func111 (ae [ag [gZ (nD j)] (mW _ aF),iq ((Dy.im (nD j))-3) aE,.o 10 (aq ((Dy.im (nD j))-3) (j/4) aW),
  iX 0 ((gW ((nD j).m)).length) aE,.o 15 (aq (IntKind.i64.wrap (((gW ((nD j).m)).getD 0 0:Nat):Int)) (((gW ((nD j).m)).getD 0 0:Nat):Int) (KM _ aE)),
  iq (((nD j).e)-(j/4)) aE,.a (aE:0<=((((nD j).e)-(j/4)):Int)/\((((nD j).e)-(j/4)):Int)<=((64:Nat):Int)),.o 20 (aq (IntKind.i64.wrap ((((gW ((nD j).m)).getD 0 0:Nat):Int)*2^((((nD j).e)-(j/4))).toNat)) (jD j:Int) (Yh j)),iq ((jD j:Int)-1) aE,.o 22 (aq ((jD j:Int)-1) ((jD j-1:Nat):Int) aE),ah 24 (((jD j-1:Nat):Int)==3) (bc aE),iq ((j/4)-1) aE,.o 29 (.int aG:aj (.v (.int .u32 (IntKind.u32.wrap 7))) (.v (.int .u32 7))),.o 30 (.e (Xv (m:=7) aE aE):aj (.sl false 1 1 λi_ j_=>[.v (.int .u32 7)].getD (i_*1+j_) (.v (.bool false))) (ia (gW 7))),ag [bP false,ia (gW 7),iP ((j/4)-1)] (yL _ _ _ aF aE aE aF),ah 37 ((0:Int)==0) aG]<|rQ (.iw [gZ (canon false 7 ((j/4)-1)),bP true]) (.iw [gZ (nD (j-1)),bP true]) (by rw[hp])) 
def adA(j:Int)(h1:-30000<=j)(h2:j<=30000)(h4:¬jD j=4):gV 111 [gZ (nD j)] (.iw [gZ (nD (j-1)),bP true]):=by
 have hv:(nD j).ib:=ri aE aE;have hw:(nD (j-1)).ib:=ri aE aE;have hm:=Fb j;have he:=HI j;have hl:=(HW j).1;have nX:=(HW j).2;have h8:=PL j;have ht:=uB j;have hp:=K5 j;rw[bj h4]at hp;have hr:=hw.range;rw[hp]at hr;have hl7:(gW (jD j-1)).length<=256:=bA (s9 (k:=1) aE) aG;exact ak call111 func111 (ae [ag [gZ (nD j)] (mW _ aF),iq ((Dy.im (nD j))-3) aE,.o 10 (aq ((Dy.im (nD j))-3) (j/4) aW),
  iX 0 ((gW ((nD j).m)).length) aE,.o 15 (aq (IntKind.i64.wrap (((gW ((nD j).m)).getD 0 0:Nat):Int)) (((gW ((nD j).m)).getD 0 0:Nat):Int) (KM _ aE)),
  iq (((nD j).e)-(j/4)) aE,.a (aE:0<=((((nD j).e)-(j/4)):Int)/\((((nD j).e)-(j/4)):Int)<=((64:Nat):Int)),.o 20 (aq (IntKind.i64.wrap ((((gW ((nD j).m)).getD 0 0:Nat):Int)*2^((((nD j).e)-(j/4))).toNat)) (jD j:Int) (Yh j)),iq ((jD j:Int)-1) aE,.o 22 (aq ((jD j:Int)-1) ((jD j-1:Nat):Int) aE),ai 24 (((jD j-1:Nat):Int)==3) (a7 aE),.o 29 (.int aV:aj (.v (.int .u32 (IntKind.u32.wrap ((jD j-1:Nat):Int)))) (.v (.int .u32 ((jD j-1:Nat):Int)))),.o 30 (.e (Xv (m:=(jD j-1)) aE aE):aj (.sl false 1 1 λi_ j_=>[.v (.int .u32 ((jD j-1:Nat):Int))].getD (i_*1+j_) (.v (.bool false))) (ia (gW (jD j-1)))),ag [bP false,ia (gW (jD j-1)),iP (j/4)] (yL _ _ _ aF aE aE aF),ah 37 ((0:Int)==0) aG]<|rQ (.iw [gZ (canon false (jD j-1) (j/4)),bP true]) (.iw [gZ (nD (j-1)),bP true]) (by rw[hp])) 
def A5(j:Int)(h1:-30000<=j)(h2:j<=30000):gV 111 [gZ (nD j)] (.iw [gZ (nD (j-1)),bP true]):=by
 by_cases h4:jD j=4
 .exact adz j h1 h2 h4
 .exact adA j h1 h2 h4
def akY{d:Dy}(h0:0<d.iI)(h3:ie d.m<=3):kU d=qi d.m d.e:=by
 unfold qi kU;rw[bk h3]
def ad5(d:Dy)(hv:d.ib)(h0:0<d.iI)(h3:ie d.m<=3):gV 101 [gZ d] (.iw [gZ (qi d.m d.e),bP true]):=by
 obtain⟨j,vR,GN,_⟩:=Fa hv h0;have hl:=hv.gW;have he:=hv.exp;have hb:ie d.m<=4096:=by
  rcases hv.range with q|q
  .rw [q,rX];omega
  .exact q.1
 exact ak call101 func101 (ae [ag [gZ d] (nB _ aF),ag [gZ d] (nA _ aF),tF 15 ((Dy.iI d)<=0) aE,ag [gZ d] (Em _ aF),
  iq ((ie (Dy.m d):Int)-3) aE,tT 22 (((ie (Dy.m d):Int)-3)<=0) aE,.c (El d aF)]<|rQ (.iw [gZ (kU d),bP true]) (.iw [gZ (qi d.m d.e),bP true]) (by rw[akY h0 h3])) 
def ad6(d:Dy)(hv:d.ib)(h0:0<d.iI)(h3:¬ie d.m<=3):gV 101 [gZ d] (.iw [gZ (qi d.m d.e),bP true]):=by
 obtain⟨j,vR,GN,_⟩:=Fa hv h0;have hl:=hv.gW;have he:=hv.exp;have hb:ie d.m<=4096:=by
  rcases hv.range with q|q
  .rw [q,rX];omega
  .exact q.1
 have hlq:=bA (mO (b7 d.m (2^(ie d.m-3)))) hl;have hr:=GN.range;rw[<-vR]at hr;unfold qi at hr;rw[bj h3]at hr;exact ak call101 func101 (ae [ag [gZ d] (nB _ aF),ag [gZ d] (nA _ aF),tF 15 ((Dy.iI d)<=0) aE,ag [gZ d] (Em _ aF),
  iq ((ie (Dy.m d):Int)-3) aE,.o 20 (aq ((ie (Dy.m d):Int)-3) ((ie d.m-3:Nat):Int) aE),tF 22 (((ie d.m-3:Nat):Int)<=0) aE,ag [ia (gW d.m),iP ((ie d.m-3:Nat):Int)] (K7 _ _ aE aE),iq (d.e+((ie d.m-3:Nat):Int)) aE,ag [bP false,ia (gW (d.m/2^(ie d.m-3))),iP (d.e+((ie d.m-3:Nat):Int))] (yL _ _ _ aF aE aE aF),ah 43 ((0:Int)==0) aG]<|rQ (.iw [gZ (canon false (d.m/2^(ie d.m-3)) (d.e+((ie d.m-3:Nat):Int))),bP true]) (.iw [gZ (qi d.m d.e),bP true]) (by unfold qi;rw[bj h3])) 
def SM(d:Dy)(hv:d.ib)(h0:0<d.iI):gV 101 [gZ d] (.iw [gZ (qi d.m d.e),bP true]):=by
 by_cases h3:ie d.m<=3
 .exact ad5 d hv h0 h3
 .exact ad6 d hv h0 h3
def afM(d:Dy)(j:Nat)(hj:j<3):((ix d).getD j .any).nr 2=true:=by
 rcases j with _|_|_|j
 all_goals first|rfl|omega
def afT{T n:Nat}{xs:List Dy}{y:Dy}(hn:n=xs.length):
 Bx.le (.row true T (n+[y].length) 3 λi j=>if i<n then mQ xs i j else(E.kR (jN [y])) (i-n) j) (.row true T (xs++[y]).length 3 (mQ (xs++[y]))):=by
 subst hn;refine .row aK λi j hi hj=>⟨.iT ?_,afM _ _ hj⟩
 by_cases h:i<xs.length
 .rw [bk h];show(ix (xs.getD i iA)).getD j .any=(ix ((xs++[y]).getD i iA)).getD j .any;congr 2;simp[bw,dH h]
 .have mS:i=xs.length:=by simp at hi;omega
  subst mS;rw[bj h,dq];show(ix y).getD j .any=(ix ((xs++[y]).getD xs.length iA)).getD j .any;congr 2;simp[bw]
def Gf{T n k:Nat}{F:Nat->Dy}{y:Dy}(hn:n=k)(hy:y=F k):
 Bx.le (.row true T (n+[y].length) 3 λi j=>if i<n then mQ ((List.range k).map F) i j else(E.kR (jN [y])) (i-n) j) (.row true T (k+1) 3 (mQ ((List.range (k+1)).map F))):=by
 subst hn hy;have h:=afT (T:=T) (n:=n) (xs:=(List.range n).map F) (y:=F n) aK;have e:(List.range n).map F++[F n]=(List.range (n+1)).map F:=by rw[aqQ,fV];rfl
 rw[e]at h;have e2:((List.range (n+1)).map F).length=n+1:= aK ;rw[e2]at h;exact h
def Ge{T:Nat}{e e':Nat->Nat->E}:Bx.le (.row true T 0 3 e) (.row true T 0 3 e'):=.row rfl λi j hi=>absurd hi (bE i)
def JQ{n:Nat}{xs:List Dy}(h:n=xs.length):E.le (.sl true n 3 (mQ xs)) (jN xs):=by subst h;exact .refl _
def ad1(s:jM)(x:List Iv)(k p:Nat)(h:mh s)(hx:kG s.iz x)(hk:k<=16)(il:8<=p)(ic:p<=512)(hm:∀ q,q<(ji s x p k).length->(((ji s x p k).getD q []).getD k gY).all=false):gV 107 [lE s,ig x,iP k,iP p] (.iw [jN ((List.range ((ji s x p k).length)).map λi=>iR (((ji s x p k).getD i []).getD k gY)),bP true]):=by
 have hj:=Dk h hx il ic k hk;have V1:=ur s x p k;have lx:=hx.len;have s4:=h.s4;exact ak call107 func107 (ae [.c (M5 s x k p h hx il ic aE),ai 26 ((0:Int) != 0) aG,.y 12 12 true 31 3 (mQ []),.s (Sp.jc (XP s x k p) 0 ((ji s x p k).length) aE (λq hq yW=>by
    have GP:=hj q aE;have GO:=GP.len;have Ot:=GP.ok k;have pS:=hm q aE;have qq:[iR (((ji s x p k).getD q []).getD k gY)].length=1:=rfl;exact iy (ae [tT 30 ((q:Int)<((ji s x p k).length:Int)) aE,iX (q:Int) ((ji s x p k).length) aE,iX (k:Int) (((ji s x p k).getD q []).length) aE,.c (Hh (((ji s x p k).getD q []).getD k gY) aF pS),.o 45 (.e (Bg _):aj (.sl true 1 3 λi_ j_=>(ix (iR (((ji s x p k).getD q []).getD k gY))).getD (i_*3+j_) (.v (.bool false))) (jN [iR (((ji s x p k).getD q []).getD k gY)])),.a (aE:(q+[iR (((ji s x p k).getD q []).getD k gY)].length)*40<=140737488355328),iq ((q:Int)+1) aE]<|.e (af [.b 12 (Gf rfl rfl:Bx.le (.row true 31 (q+[iR (((ji s x p k).getD q []).getD k gY)].length) 3 (λi_ j_=>if i_<q then(mQ ((List.range q).map λi=>iR (((ji s x p k).getD i []).getD k gY))) i_ j_ else(E.kR (jN [iR (((ji s x p k).getD q []).getD k gY)])) (i_-q) j_)) (.row true 31 (q+1) 3 (mQ ((List.range (q+1)).map λi=>iR (((ji s x p k).getD i []).getD k gY)))))])) aI)
  (λhq=>by
    exact iy (af [tF 30 (((ji s x p k).length:Int)<((ji s x p k).length:Int)) aE]) aI) aM:jb 6 f107 (XP s x k p 0) (.exit 0) ⟨49,true,[(12,.own 12)],[(12,.row true 31 ((ji s x p k).length) 3 (mQ ((List.range ((ji s x p k).length)).map λi=>iR (((ji s x p k).getD i []).getD k gY))))]⟩) (af [.b 12 (Ge:Bx.le (.row true 31 0 3 (mQ [])) (.row true 31 0 3 (mQ ((List.range 0).map λi=>iR (((ji s x p k).getD i []).getD k gY)))))])]<|rR (.iw [jN ((List.range ((ji s x p k).length)).map λi=>iR (((ji s x p k).getD i []).getD k gY)),bP true]) (.iw (.cons (JQ aK) (.cons (.refl _) .nil)):E.le (.iw [.sl true ((ji s x p k).length) 3 (mQ ((List.range ((ji s x p k).length)).map λi=>iR (((ji s x p k).getD i []).getD k gY))),bP true]) (.iw [jN ((List.range ((ji s x p k).length)).map λi=>iR (((ji s x p k).getD i []).getD k gY)),bP true]))) 
def adZ(s:jM)(x:List Iv)(k p:Nat)(h:mh s)(hx:kG s.iz x)(hk:k<=16)(il:8<=p)(ic:p<=512)(N:Nat)(hN:N<(ji s x p k).length)(hm:∀ q,q<N->(((ji s x p k).getD q []).getD k gY).all=false)(OC:(((ji s x p k).getD N []).getD k gY).all=true):gV 107 [lE s,ig x,iP k,iP p] (.iw [.v (.slice none 0 0),bP false]):=by
 have hj:=Dk h hx il ic k hk;have V1:=ur s x p k;have lx:=hx.len;have s4:=h.s4;exact ak call107 func107 (af [.c (M5 s x k p h hx il ic aE),ai 26 ((0:Int) != 0) aG,.y 12 12 true 31 3 (mQ []),.s (Sp.jc (XQ s x k p) 0 N aE (λq hq yW=>by
    have GP:=hj q aE;have GO:=GP.len;have Ot:=GP.ok k;have pS:=hm q aE;have qq:[iR (((ji s x p k).getD q []).getD k gY)].length=1:=rfl;exact iy (ae [tT 30 ((q:Int)<((ji s x p k).length:Int)) aE,iX (q:Int) ((ji s x p k).length) aE,iX (k:Int) (((ji s x p k).getD q []).length) aE,.c (Hh (((ji s x p k).getD q []).getD k gY) aF pS),.o 45 (.e (Bg _):aj (.sl true 1 3 λi_ j_=>(ix (iR (((ji s x p k).getD q []).getD k gY))).getD (i_*3+j_) (.v (.bool false))) (jN [iR (((ji s x p k).getD q []).getD k gY)])),.a (aE:(q+[iR (((ji s x p k).getD q []).getD k gY)].length)*40<=140737488355328),iq ((q:Int)+1) aE]<|.e (af [.b 12 (Gf rfl rfl:Bx.le (.row true 31 (q+[iR (((ji s x p k).getD q []).getD k gY)].length) 3 (λi_ j_=>if i_<q then(mQ ((List.range q).map λi=>iR (((ji s x p k).getD i []).getD k gY))) i_ j_ else(E.kR (jN [iR (((ji s x p k).getD q []).getD k gY)])) (i_-q) j_)) (.row true 31 (q+1) 3 (mQ ((List.range (q+1)).map λi=>iR (((ji s x p k).getD i []).getD k gY)))))])) aI)
  (λhq=>by
    have Ot:=(hj N aE).ok k;have GO:=(hj N aE).len;have pS:=OC;exact iy (af [tT 30 ((N:Int)<((ji s x p k).length:Int)) aE,iX (N:Int) ((ji s x p k).length) aE,iX (k:Int) (((ji s x p k).getD N []).length) aE,.c (MJ (((ji s x p k).getD N []).getD k gY) Ot pS)]) aI) aM:jb 6 f107 (XQ s x k p 0) .ret ⟨49,true,[(9,.e (bP false)),(8,.e (.v (.slice none 0 0)))],[]⟩) (af [.b 12 (Ge:Bx.le (.row true 31 0 3 (mQ [])) (.row true 31 0 3 (mQ ((List.range 0).map λi=>iR (((ji s x p k).getD i []).getD k gY)))))])]) 
noncomputable def uy(s:jM)(x:List Iv)(k p:Nat):List Dy:=((List.range ((ji s x p k).length)).map λi=>iR (((ji s x p k).getD i []).getD k gY))
noncomputable def ux(s:jM)(x:List Iv)(k p:Nat):Bool:=(List.range (ji s x p k).length).all λq=>!(((ji s x p k).getD q []).getD k gY).all
def ad0(s:jM)(x:List Iv)(k p:Nat)(h:mh s)(hx:kG s.iz x)(hk:k<=16)(il:8<=p)(ic:p<=512):gV 107 [lE s,ig x,iP k,iP p] (if ux s x k p=true then .iw [jN (uy s x k p),bP true]else .iw [.v (.slice none 0 0),bP false]):=by
 by_cases hb:ux s x k p=true
 .rw [bk hb];exact ad1 s x k p h hx hk il ic λq hq=>by simpa using List.all_eq_true.1 hb q (b5.2 hq)
 .rw [bj hb];obtain⟨N,n1,n2,n3⟩:=Jf hb;exact adZ s x k p h hx hk il ic N n1 (λq hq=>by simpa using n3 q hq) (by simpa using n2)
def akk{s:jM}{x:List Iv}{k p:Nat}(h:mh s)(hx:kG s.iz x)(hk:k<=16)(il:8<=p)(ic:p<=512)(hb:ux s x k p=true):(uy s x k p).length<=4/\∀ i,((uy s x k p).getD i iA).ib:=by
 have hj:=Dk h hx il ic k hk;have V1:=ur s x p k;have lx:=hx.len;have s4:=h.s4;refine⟨by unfold uy;rw[cB,aqT];omega,λi=>?_⟩;by_cases hi:i<(ji s x p k).length
 .have e:(uy s x k p).getD i iA=iR (((ji s x p k).getD i []).getD k gY):=by simp[uy,bw,hi]
  rw[e];have hv:=(hj i hi).ok k;obtain⟨v1,v2⟩:=hv.ko;exact Dt v1 v2
 .have e:(uy s x k p).getD i iA=iA:=by
   rw[bw,ch (by unfold uy;rw[cB,aqT];omega)];rfl
  rw[e];exact su
def Ub(s:jM)(x:List Iv)(d:Dy)(p:Nat)(k:Nat):PS:=⟨55,true,[(22,.e (iP k)),(10,.pI 121 [.box 5,.box 4,.box 6,.box 7]),(7,.box 7 0),(6,.box 6 0),(5,.box 5 0),(4,.box 4 0)],[(7,.cells 3 [iP p]),(6,.cells 31 (ix d)),(5,.cells 26 [ig x]),(4,.cells 28 [iP s.tape.ik,kZ s.tape.gX,kY s.tape.iu,iP s.iz,ig s.params])]⟩
noncomputable def Ue(s:jM)(x:List Iv)(d:Dy)(p:Nat)(N:Nat)(j:Nat):PS:=⟨55,true,[(36,.e (iP j)),(14,.e (ig (lM s x d p j))),(7,.box 7 0),(6,.box 6 0),(5,.box 5 0),(4,.box 4 0)],[(7,.cells 3 [iP p]),(6,.cells 31 (ix d)),(5,.cells 26 [ig x]),(4,.cells 28 [iP s.tape.ik,kZ s.tape.gX,kY s.tape.iu,iP s.iz,ig s.params])]⟩
def afX(s:jM)(x:List Iv)(d:Dy)(p:Nat)(h:mh s)(hx:kG s.iz x)(hd:d.ib)(h0:0<d.iI)(il:8<=p)(ic:p<=512)(jm:∀ k:Nat,k<24->sM s x d p ((k:Int)-20)=false)(N:Nat)(oR:N<10)(uS:∀ j,j<=N->kG s.iz (lM s x d p j))(hw:∀ j,j<N->lQ s x d (lM s x d p j) p≠[]/\s7 s x d (lQ s x d (lM s x d p j) p) p=false)(ju:lQ s x d (lM s x d p N) p≠[])(hN:s7 s x d (lQ s x d (lM s x d p N) p) p=true):gV 43 [lE s,ig x,gZ d,iP p] (.iw [ig (lQ s x d (lM s x d p N) p),iP 0]):=by
 have hbN:=uS N (bu _);have lZ:=D0 hx (aE:1<=p) (aE:p<=4096) ju;exact ak call43 func43 (af [.c (CF s x d p h hx hd h0 il ic),.s (Sp.jc (Ub s x d p) 0 24 aE (λk hk Kw=>by
    exact iy (af [tT 23 ((k:Int)<24) aE,iq ((k:Int)-20) aE,ag [iP ((k:Int)-20),(.iV 1 λj_=>[ig x].getD j_ .any),(.iV 5 λj_=>[iP s.tape.ik,kZ s.tape.gX,kY s.tape.iu,iP s.iz,ig s.params].getD j_ .any),(.iV 3 λj_=>[bP d.neg,ia (gW d.m),iP d.e].getD j_ .any),(.iV 1 λj_=>[iP p].getD j_ .any)] (FT _ _ _ _ h hx hd h0 il ic _ aE aE),ai 31 (sM s x d p ((k:Int)-20)) (jm k aE),iq ((k:Int)+1) aE]) aI)
  (λhk=>by
    exact iy (af [ai 23 (decide ((24:Int)<24)) aG]) aI) aM:jb 5 Tryz.f43 (Ub s x d p 0) (.exit 0) ⟨55,true,[(7,.box 7 0),(6,.box 6 0),(5,.box 5 0),(4,.box 4 0)],[(7,.cells 3 [iP p]),(6,.cells 31 (ix d)),(5,.cells 26 [ig x]),(4,.cells 28 [iP s.tape.ik,kZ s.tape.gX,kY s.tape.iu,iP s.iz,ig s.params])]⟩) .nil,.s (Sp.jc (Ue s x d p N) 0 N aE (λj hj V7=>by
    have zZ:=uS j aE;obtain⟨ju,GV⟩:=hw j aE;have lZ:=D0 hx (aE:1<=p) (aE:p<=4096) ju;exact iy (ae [tT 37 ((j:Int)<10) aE,.c (IY s x d (lM s x d p j) p h hx hd h0 zZ il ic),ai 46 (((lQ s x d (lM s x d p j) p).length:Int)==0) (Hn ju),.c (GX s x d (lQ s x d (lM s x d p j) p) p h hx hd h0 lZ il ic),ai 52 (s7 s x d (lQ s x d (lM s x d p j) p) p) GV,iq ((j:Int)+1) aE]<|.e (af [.o 14 (.e (.iT rfl):aj (ig (lQ s x d (lM s x d p j) p)) (ig (lM s x d p (j+1))))])) aI)
  (λhj=>by
    have zZ:=uS N (bu _);have lZ:=D0 hx (aE:1<=p) (aE:p<=4096) ju;exact iy (af [tT 37 ((N:Int)<10) aE,.c (IY s x d (lM s x d p N) p h hx hd h0 zZ il ic),ai 46 (((lQ s x d (lM s x d p N) p).length:Int)==0) (Hn ju),.c (GX s x d (lQ s x d (lM s x d p N) p) p h hx hd h0 lZ il ic),ah 52 (s7 s x d (lQ s x d (lM s x d p N) p) p) hN]) aI) aM:jb 13 Tryz.f43 (Ue s x d p N 0) .ret ⟨55,true,[(9,.e (iP 0)),(8,.e (ig (lQ s x d (lM s x d p N) p)))],[]⟩) (af [.o 14 (.e (.iT rfl):aj (ig x) (ig (lM s x d p 0)))])]) 
def Uf:Option (List Iv)->E
 |some b=>.iw [ig b,iP 0]
 |none=>.iw [.v (.slice none 0 0),iP 12]
def Ug(s:jM)(x:List Iv)(d:Dy)(p:Nat)(h:mh s)(hx:kG s.iz x)(hd:d.ib)(h0:0<d.iI)(il:8<=p)(ic:p<=512):∃ o,gV 43 [lE s,ig x,gZ d,iP p] (Uf o)/\(∀ b,o=some b->kG s.iz b/\s7 s x d b p=true)/\(o=none->∀ k:Nat,k<24->sM s x d p ((k:Int)-20)=false):=by
 have p1:1<=p:= aE ;have p2:p<=4096:= aE ;by_cases ha:∃ N:Nat,N<24/\sM s x d p ((N:Int)-20)=true
 .obtain ⟨N,n1,n2,n3⟩:=tI (p:=λN=>sM s x d p ((N:Int)-20)) ha;refine⟨some _,afW s x d p h hx hd h0 il ic N n1 (λk hk=>n3 k hk) n2,λb hb=>?_,λq=>by cases q⟩;cases hb;have n4:=n2;unfold sM at n4;rw[bO]at n4;exact⟨NI hx (IQ (k:=(N:Int)-20) aE aE) (aaG (Rl _)) n4.1,n4.2⟩
 .have jm:∀ k:Nat,k<24->sM s x d p ((k:Int)-20)=false:=λk hk=>by
   cases hc:sM s x d p ((k:Int)-20)with
   |false=>rfl
   |true=>exact absurd ⟨k,hk,hc⟩ ha
  have uS:∀ N,(∀ j,j<N->lQ s x d (lM s x d p j) p≠[])->∀ j,j<=N->kG s.iz (lM s x d p j):=λN ju j hj=>by
   rcases j with _|j
   .exact hx
   .exact D0 hx p1 p2 (ju j aE)
  by_cases qF:∃ N:Nat,N<10/\decide (lQ s x d (lM s x d p N) p=[]\/s7 s x d (lQ s x d (lM s x d p N) p) p=true)=true
  .obtain ⟨N,n1,n2,n3⟩:=tI qF;have hw:∀ j,j<N->lQ s x d (lM s x d p j) p≠[]/\s7 s x d (lQ s x d (lM s x d p j) p) p=false:=λj hj=>by
    have:=gy (n3 j hj);exact⟨λq=>this (.inl q),bd λq=>this (.inr q)⟩
   have hb:=uS N λj hj=>(hw j hj).1
   by_cases he:lQ s x d (lM s x d p N) p=[]
   .exact ⟨none,afY s x d p h hx hd h0 il ic jm N n1 hb hw he,(λb q=>by cases q),λ_=>jm⟩
   .have hN:=(cT n2).resolve_left he;refine⟨some _,afX s x d p h hx hd h0 il ic jm N n1 hb hw he hN,λb q=>?_,λq=>by cases q⟩;cases q;exact⟨D0 hx p1 p2 he,hN⟩
  .have hw:∀ j,j<10->lQ s x d (lM s x d p j) p≠[]/\s7 s x d (lQ s x d (lM s x d p j) p) p=false:=λj hj=>
    ⟨λq=>qF ⟨j,hj,bn (.inl q)⟩,bd λq=>qF ⟨j,hj,bn (.inr q)⟩⟩
   exact⟨none,afV s x d p h hx hd h0 il ic jm (uS 10 λj hj=>(hw j hj).1) hw,(λb q=>by cases q),λ_=>jm⟩
noncomputable def sx(s:jM)(x:List Iv)(d:Dy)(p:Nat):Option (List Iv):=@dite (Option (List Iv)) (mh s/\kG s.iz x/\d.ib/\0<d.iI/\8<=p/\p<=512) (Classical.propDecidable _) (λh=>Classical.choose (Ug s x d p h.1 h.2.1 h.2.2.1 h.2.2.2.1 h.2.2.2.2.1 h.2.2.2.2.2)) (λ_=>none)
def T5(s:jM)(x:List Iv)(d:Dy)(p:Nat)(h:mh s)(hx:kG s.iz x)(hd:d.ib)(h0:0<d.iI)(il:8<=p)(ic:p<=512):gV 43 [lE s,ig x,gZ d,iP (p:Int)] (Uf (sx s x d p))/\(∀ b,sx s x d p=some b->kG s.iz b/\s7 s x d b p=true):=by
 have hh:mh s/\kG s.iz x/\d.ib/\0<d.iI/\8<=p/\p<=512:=⟨h,hx,hd,h0,il,ic⟩
 unfold sx;rw[fO hh];have:=cU (Ug s x d p h hx hd h0 il ic);exact⟨this.1,this.2.1⟩
def Gh(s:jM)(x:List Iv)(d:Dy)(p:Nat)(h:mh s)(hx:kG s.iz x)(hd:d.ib)(h0:0<d.iI)(il:8<=p)(ic:p<=512)(hn:sx s x d p=none):gV 43 [lE s,ig x,gZ d,iP (p:Int)] (.iw [.v (.slice none 0 0),iP 12]):=by
 have:=(T5 s x d p h hx hd h0 il ic).1;rwa[hn]at this
def T6(s:jM)(x:List Iv)(d:Dy)(p:Nat)(h:mh s)(hx:kG s.iz x)(hd:d.ib)(h0:0<d.iI)(il:8<=p)(ic:p<=512){b:List Iv}(hn:sx s x d p=some b):gV 43 [lE s,ig x,gZ d,iP (p:Int)] (.iw [ig b,iP 0]):=by
 have:=(T5 s x d p h hx hd h0 il ic).1;rwa[hn]at this
def UP(l:List Dy)(d:Dy)(k t:Nat)(x:Nat):PS:=⟨57,true,[(17,.e (iP x)),(16,.e (iP l.length)),(15,.e (jN l)),(5,.box 5 0),(2,.e (iP k)),(3,.e (iP t))],[(5,.cells 31 (ix d))]⟩
def UH(l:List Dy)(d:Dy)(k t x:Nat)(i:Nat):PS:=⟨57,true,[(22,.e (iP i)),(21,.e (iP k)),(11,.e (bP false)),(10,.box 10 0),(17,.e (iP x)),(16,.e (iP l.length)),(15,.e (jN l)),(5,.box 5 0),(2,.e (iP k)),(3,.e (iP t))],[(10,.cells 31 (ix (jK d i (l.getD x iA)))),(5,.cells 31 (ix d))]⟩
def UL(l:List Dy)(d:Dy)(k t x:Nat)(N:Nat)(i:Nat):PS:=⟨57,true,[(22,.e (iP i)),(21,.e (iP k)),(11,.e (bP false)),(10,.box 10 0),(17,.e (iP x)),(16,.e (iP l.length)),(15,.e (jN l)),(5,.box 5 0),(2,.e (iP k)),(3,.e (iP t))],[(10,.cells 31 (ix (jK d i (l.getD x iA)))),(5,.cells 31 (ix d))]⟩
def UQ(l:List Dy)(d:Dy)(k t:Nat)(x:Nat):PS:=⟨57,true,[(17,.e (iP x)),(16,.e (iP l.length)),(15,.e (jN l)),(5,.box 5 0),(2,.e (iP k)),(3,.e (iP t))],[(5,.cells 31 (ix d))]⟩
def UI(l:List Dy)(d:Dy)(k t x:Nat)(i:Nat):PS:=⟨57,true,[(22,.e (iP i)),(21,.e (iP k)),(11,.e (bP false)),(10,.box 10 0),(17,.e (iP x)),(16,.e (iP l.length)),(15,.e (jN l)),(5,.box 5 0),(2,.e (iP k)),(3,.e (iP t))],[(10,.cells 31 (ix (jK d i (l.getD x iA)))),(5,.cells 31 (ix d))]⟩
def UM(l:List Dy)(d:Dy)(k t x:Nat)(N:Nat)(i:Nat):PS:=⟨57,true,[(22,.e (iP i)),(21,.e (iP k)),(11,.e (bP false)),(10,.box 10 0),(17,.e (iP x)),(16,.e (iP l.length)),(15,.e (jN l)),(5,.box 5 0),(2,.e (iP k)),(3,.e (iP t))],[(10,.cells 31 (ix (jK d i (l.getD x iA)))),(5,.cells 31 (ix d))]⟩
def UJ(l:List Dy)(d:Dy)(k t M:Nat)(i:Nat):PS:=⟨57,true,[(22,.e (iP i)),(21,.e (iP k)),(11,.e (bP false)),(10,.box 10 0),(17,.e (iP M)),(16,.e (iP l.length)),(15,.e (jN l)),(5,.box 5 0),(2,.e (iP k)),(3,.e (iP t))],[(10,.cells 31 (ix (jK d i (l.getD M iA)))),(5,.cells 31 (ix d))]⟩
def UR(l:List Dy)(d:Dy)(k t:Nat)(x:Nat):PS:=⟨57,true,[(17,.e (iP x)),(16,.e (iP l.length)),(15,.e (jN l)),(5,.box 5 0),(2,.e (iP k)),(3,.e (iP t))],[(5,.cells 31 (ix d))]⟩
def UK(l:List Dy)(d:Dy)(k t x:Nat)(i:Nat):PS:=⟨57,true,[(22,.e (iP i)),(21,.e (iP k)),(11,.e (bP false)),(10,.box 10 0),(17,.e (iP x)),(16,.e (iP l.length)),(15,.e (jN l)),(5,.box 5 0),(2,.e (iP k)),(3,.e (iP t))],[(10,.cells 31 (ix (jK d i (l.getD x iA)))),(5,.cells 31 (ix d))]⟩
def UN(l:List Dy)(d:Dy)(k t x:Nat)(N:Nat)(i:Nat):PS:=⟨57,true,[(22,.e (iP i)),(21,.e (iP k)),(11,.e (bP false)),(10,.box 10 0),(17,.e (iP x)),(16,.e (iP l.length)),(15,.e (jN l)),(5,.box 5 0),(2,.e (iP k)),(3,.e (iP t))],[(10,.cells 31 (ix (jK d i (l.getD x iA)))),(5,.cells 31 (ix d))]⟩
def UO(l:List Dy)(d:Dy)(k t M:Nat)(N:Nat)(i:Nat):PS:=⟨57,true,[(22,.e (iP i)),(21,.e (iP k)),(11,.e (bP false)),(10,.box 10 0),(17,.e (iP M)),(16,.e (iP l.length)),(15,.e (jN l)),(5,.box 5 0),(2,.e (iP k)),(3,.e (iP t))],[(10,.cells 31 (ix (jK d i (l.getD M iA)))),(5,.cells 31 (ix d))]⟩
def S4(s:jM)(x:List Iv)(d:Dy)(mth ord mst:Int)(p t k:Nat)(l:List Dy)(j0:Int)(n:Nat):PS:=⟨108,true,[(11,.e (bP true)),(12,.box 12 0),(10,.e (jN l)),(8,.e (iP k)),(6,.box 6 0),(5,.box 5 0),(3,.box 3 0),(1,.e (ig x))],[(12,.cells 31 (ix (nD (j0-(n:Int))))),(6,.cells 31 ar),(5,.cells 81 ([iP mth,iP ord,iP p]++ix d++[iP t,iP mst])),(3,.cells 28 [iP s.tape.ik,kZ s.tape.gX,kY s.tape.iu,iP s.iz,ig s.params])]⟩
def S8(s:jM)(x:List Iv)(d:Dy)(mth ord mst:Int)(p t k:Nat)(l:List Dy)(j0:Int)(n1:Nat)(m:Nat):PS:=⟨108,true,[(79,.e (iP m)),(11,.e (bP true)),(12,.box 12 0),(6,.box 6 0),(5,.box 5 0),(3,.box 3 0),(1,.e (ig x))],[(12,.cells 31 (ix (nD (j0-(n1:Int)-m)))),(6,.cells 31 ar),(5,.cells 81 ([iP mth,iP ord,iP p]++ix d++[iP t,iP mst])),(3,.cells 28 [iP s.tape.ik,kZ s.tape.gX,kY s.tape.iu,iP s.iz,ig s.params])]⟩
def S5(s:jM)(x:List Iv)(d:Dy)(mth ord mst:Int)(p t k:Nat)(l:List Dy)(j0:Int)(n:Nat):PS:=⟨108,true,[(11,.e (bP true)),(12,.box 12 0),(10,.e (jN l)),(8,.e (iP k)),(6,.box 6 0),(5,.box 5 0),(3,.box 3 0),(1,.e (ig x))],[(12,.cells 31 (ix (nD (j0-(n:Int))))),(6,.cells 31 ar),(5,.cells 81 ([iP mth,iP ord,iP p]++ix d++[iP t,iP mst])),(3,.cells 28 [iP s.tape.ik,kZ s.tape.gX,kY s.tape.iu,iP s.iz,ig s.params])]⟩
def S9(s:jM)(x:List Iv)(d:Dy)(mth ord mst:Int)(p t k:Nat)(l:List Dy)(j0:Int)(n1:Nat)(m:Nat):PS:=⟨108,true,[(79,.e (iP m)),(11,.e (bP true)),(12,.box 12 0),(6,.box 6 0),(5,.box 5 0),(3,.box 3 0),(1,.e (ig x))],[(12,.cells 31 (ix (nD (j0-(n1:Int)-m)))),(6,.cells 31 ar),(5,.cells 81 ([iP mth,iP ord,iP p]++ix d++[iP t,iP mst])),(3,.cells 28 [iP s.tape.ik,kZ s.tape.gX,kY s.tape.iu,iP s.iz,ig s.params])]⟩
def S6(s:jM)(x:List Iv)(d:Dy)(mth ord mst:Int)(p t k:Nat)(l:List Dy)(j0:Int)(n:Nat):PS:=⟨108,true,[(11,.e (bP true)),(12,.box 12 0),(10,.e (jN l)),(8,.e (iP k)),(6,.box 6 0),(5,.box 5 0),(3,.box 3 0),(1,.e (ig x))],[(12,.cells 31 (ix (nD (j0-(n:Int))))),(6,.cells 31 ar),(5,.cells 81 ([iP mth,iP ord,iP p]++ix d++[iP t,iP mst])),(3,.cells 28 [iP s.tape.ik,kZ s.tape.gX,kY s.tape.iu,iP s.iz,ig s.params])]⟩
def Ta(s:jM)(x:List Iv)(d:Dy)(mth ord mst:Int)(p t k:Nat)(l:List Dy)(j0:Int)(n1:Nat)(m:Nat):PS:=⟨108,true,[(79,.e (iP m)),(11,.e (bP true)),(12,.box 12 0),(6,.box 6 0),(5,.box 5 0),(3,.box 3 0),(1,.e (ig x))],[(12,.cells 31 (ix (nD (j0-(n1:Int)-m)))),(6,.cells 31 ar),(5,.cells 81 ([iP mth,iP ord,iP p]++ix d++[iP t,iP mst])),(3,.cells 28 [iP s.tape.ik,kZ s.tape.gX,kY s.tape.iu,iP s.iz,ig s.params])]⟩
def S7(s:jM)(x:List Iv)(d:Dy)(mth ord mst:Int)(p t k:Nat)(l:List Dy)(j0:Int)(n:Nat):PS:=⟨108,true,[(11,.e (bP true)),(12,.box 12 0),(10,.e (jN l)),(8,.e (iP k)),(6,.box 6 0),(5,.box 5 0),(3,.box 3 0),(1,.e (ig x))],[(12,.cells 31 (ix (nD (j0-(n:Int))))),(6,.cells 31 ar),(5,.cells 81 ([iP mth,iP ord,iP p]++ix d++[iP t,iP mst])),(3,.cells 28 [iP s.tape.ik,kZ s.tape.gX,kY s.tape.iu,iP s.iz,ig s.params])]⟩
def Tc(s:jM)(x:List Iv)(d:Dy)(mth ord mst:Int)(p t k:Nat)(l:List Dy)(j0:Int)(n1:Nat)(m:Nat):PS:=⟨108,true,[(79,.e (iP m)),(11,.e (bP true)),(12,.box 12 0),(6,.box 6 0),(5,.box 5 0),(3,.box 3 0),(1,.e (ig x))],[(12,.cells 31 (ix (nD (j0-(n1:Int)-m)))),(6,.cells 31 ar),(5,.cells 81 ([iP mth,iP ord,iP p]++ix d++[iP t,iP mst])),(3,.cells 28 [iP s.tape.ik,kZ s.tape.gX,kY s.tape.iu,iP s.iz,ig s.params])]⟩
def BT{d m:Dy}{i:Nat}(h:rI d i m=true):(kC (iY (jK d i m) d) != 0)=false:=by
 unfold rI at h;rw[gq]at h;rw[h];rfl
def Le{d m:Dy}{i:Nat}(h:rI d i m=false):(kC (iY (jK d i m) d) != 0)=true:=by
 unfold rI at h;rw[beq_eq_false_iff_ne]at h;exact bh h
def Bf{d:Dy}(h:d.ib):-16384<=d.im/\d.im<=16384:=by
 unfold Dy.im;split
 .omega
 .rename_i h0;have:=h.range.resolve_left h0;have hb:=ny h0;omega
def L5{a b:Int}(h1:0<=a)(h2:a<=16)(h3:-16384<=b)(h4:b<=16384):-262144<=a*b/\a*b<=262144:=by
 have e:a=0\/a=1\/a=2\/a=3\/a=4\/a=5\/a=6\/a=7\/a=8\/a=9\/a=10\/a=11\/a=12\/a=13\/a=14\/a=15\/a=16:= aE ;rcases e with rfl|rfl|rfl|rfl|rfl|rfl|rfl|rfl|rfl|rfl|rfl|rfl|rfl|rfl|rfl|rfl|rfl<;>omega
def L8(t:Nat)(h:t<=1000):(iS (0-(t:Int))).ib:=by
 have e:=BR (0-(t:Int));rw[<-e];exact ri aE aE 
def adS(l:List Dy)(d:Dy)(k t:Nat)(nP:l.length<=100)(hl:∀ i,(l.getD i iA).ib)(hd:d.ib)(hk:k<=16)(ht:t<=1000)(hf:∀ x,x<l.length->rA d (t:Int) k (l.getD x iA)=true):gV 110 [jN l,gZ d,iP k,iP t] (bP true):=
 ak call110 func110 (af [.s (Sp.jc (UP l d k t) 0 l.length aE (λx hx kW=>by
    have qo:=hf x aE;have sd:(iS (0-(t:Int))).ib:=L8 t ht;have sG:=hl x;by_cases uV:∀ i,i<k->rI d i (l.getD x iA)=true
    .have OT:=tJ (h:=d) (hl x) k;exact iy (af [tT 18 ((x:Int)<l.length) aE,iX (x:Int) (l.length) aE,.s (Sp.jc (UH l d k t x) 0 k aE (λi hi oK=>by
    have nQ:=tJ (h:=d) (hl x) i;exact iy (ae [tT 23 ((i:Int)<k) aE,ag [gZ (jK d i (l.getD x iA)),gZ d] (wN _ _ aF aF),ai 32 ((kC (iY (jK d i (l.getD x iA)) d)) != 0) (BT (uV i aE)),iq ((i:Int)+1) aE]<|.e (af [.b 10 (.iT rfl:Bx.le (.cells 31 (ix (jC (iY (jK d i (l.getD x iA)) d)))) (.cells 31 (ix (jK d (i+1) (l.getD x iA)))))])) aI)
  (λhi=>by
    exact iy (af [tF 23 ((k:Int)<k) aE]) aI) aM:jb 6 f110 (UH l d k t x 0) (.exit 2) ⟨57,true,[(11,.e (bP false)),(10,.box 10 0),(17,.e (iP x)),(16,.e (iP l.length)),(15,.e (jN l)),(5,.box 5 0),(2,.e (iP k)),(3,.e (iP t))],[(10,.cells 31 (ix (jK d k (l.getD x iA)))),(5,.cells 31 (ix d))]⟩) (af [.b 10 (.iT rfl:Bx.le (.cells 31 (ix (l.getD x iA))) (.cells 31 (ix (jK d 0 (l.getD x iA)))))]),
      iq (0-(t:Int)) aE,.c (qQ (0-(t:Int))),ag [gZ (jK d k (l.getD x iA)),gZ (iS (0-(t:Int)))] (lp _ _ aF aF),tF 55 (0<(iL (jK d k (l.getD x iA)) (iS (0-(t:Int))))) (by rw[JZ uV,cv]at qo;omega),iq ((x:Int)+1) aE]) aI 
    .obtain ⟨N,CJ,xQ,xP⟩:=(Lf d (l.getD x iA) k).resolve_left uV;exact iy (af [tT 18 ((x:Int)<l.length) aE,iX (x:Int) (l.length) aE,.s (Sp.jc (UL l d k t x N) 0 N aE (λi hi oK=>by
    have nQ:=tJ (h:=d) (hl x) i;exact iy (ae [tT 23 ((i:Int)<k) aE,ag [gZ (jK d i (l.getD x iA)),gZ d] (wN _ _ aF aF),ai 32 ((kC (iY (jK d i (l.getD x iA)) d)) != 0) (BT (xQ i aE)),iq ((i:Int)+1) aE]<|.e (af [.b 10 (.iT rfl:Bx.le (.cells 31 (ix (jC (iY (jK d i (l.getD x iA)) d)))) (.cells 31 (ix (jK d (i+1) (l.getD x iA)))))])) aI)
  (λhi=>by
    have nQ:=tJ (h:=d) (hl x) N;have tm:=Bf nQ;have td:=Bf hd;obtain⟨T,hT⟩:∃ T,T=((k:Int)-N)*(Dy.im d):=⟨_,rfl⟩
    have wY:=L5 (a:=(k:Int)-N) (b:=Dy.im d) aE aE td.1 td.2;exact iy (af [tT 23 ((N:Int)<k) aE,ag [gZ (jK d N (l.getD x iA)),gZ d] (wN _ _ aF aF),ah 32 ((kC (iY (jK d N (l.getD x iA)) d)) != 0) (Le xP),ag [gZ (jK d N (l.getD x iA))] (mW _ aF),iq ((k:Int)-N) aE,ag [gZ d] (mW _ aF),iq (((k:Int)-N)*(Dy.im d)) aE,iq ((Dy.im (jK d N (l.getD x iA)))+(((k:Int)-N)*(Dy.im d))) aE,
    iq (0-(t:Int)) aE,ah 44 (decide (((Dy.im (jK d N (l.getD x iA)))+(((k:Int)-N)*(Dy.im d)))<=(0-(t:Int)))) (by rw[J0 CJ xQ xP]at qo;exact qo)]) aI) aM:jb 6 f110 (UL l d k t x N 0) (.exit 2) ⟨57,true,[(11,.e (bP true)),(10,.box 10 0),(17,.e (iP x)),(16,.e (iP l.length)),(15,.e (jN l)),(5,.box 5 0),(2,.e (iP k)),(3,.e (iP t))],[(10,.cells 31 (ix (jK d N (l.getD x iA)))),(5,.cells 31 (ix d))]⟩) (af [.b 10 (.iT rfl:Bx.le (.cells 31 (ix (l.getD x iA))) (.cells 31 (ix (jK d 0 (l.getD x iA)))))]),
      iq ((x:Int)+1) aE]) aI)
  (λhx=>by
    exact iy (af [tF 18 ((l.length:Int)<l.length) aE]) aI) aM:jb 2 f110 (UP l d k t 0) (.exit 0) ⟨57,true,[],[]⟩) .nil]) 
def adQ(l:List Dy)(d:Dy)(k t:Nat)(nP:l.length<=100)(hl:∀ i,(l.getD i iA).ib)(hd:d.ib)(hk:k<=16)(ht:t<=1000)(M:Nat)(hM:M<l.length)(hf:∀ x,x<M->rA d (t:Int) k (l.getD x iA)=true)(CQ:rA d (t:Int) k (l.getD M iA)=false)(uV:∀ i,i<k->rI d i (l.getD M iA)=true):gV 110 [jN l,gZ d,iP k,iP t] (bP false):=
 ak call110 func110 (af [.s (Sp.jc (UQ l d k t) 0 M aE (λx hx kW=>by
    have qo:=hf x aE;have sd:(iS (0-(t:Int))).ib:=L8 t ht;have sG:=hl x;by_cases uV:∀ i,i<k->rI d i (l.getD x iA)=true
    .have OT:=tJ (h:=d) (hl x) k;exact iy (af [tT 18 ((x:Int)<l.length) aE,iX (x:Int) (l.length) aE,.s (Sp.jc (UI l d k t x) 0 k aE (λi hi oK=>by
    have nQ:=tJ (h:=d) (hl x) i;exact iy (ae [tT 23 ((i:Int)<k) aE,ag [gZ (jK d i (l.getD x iA)),gZ d] (wN _ _ aF aF),ai 32 ((kC (iY (jK d i (l.getD x iA)) d)) != 0) (BT (uV i aE)),iq ((i:Int)+1) aE]<|.e (af [.b 10 (.iT rfl:Bx.le (.cells 31 (ix (jC (iY (jK d i (l.getD x iA)) d)))) (.cells 31 (ix (jK d (i+1) (l.getD x iA)))))])) aI)
  (λhi=>by
    exact iy (af [tF 23 ((k:Int)<k) aE]) aI) aM:jb 6 f110 (UI l d k t x 0) (.exit 2) ⟨57,true,[(11,.e (bP false)),(10,.box 10 0),(17,.e (iP x)),(16,.e (iP l.length)),(15,.e (jN l)),(5,.box 5 0),(2,.e (iP k)),(3,.e (iP t))],[(10,.cells 31 (ix (jK d k (l.getD x iA)))),(5,.cells 31 (ix d))]⟩) (af [.b 10 (.iT rfl:Bx.le (.cells 31 (ix (l.getD x iA))) (.cells 31 (ix (jK d 0 (l.getD x iA)))))]),
      iq (0-(t:Int)) aE,.c (qQ (0-(t:Int))),ag [gZ (jK d k (l.getD x iA)),gZ (iS (0-(t:Int)))] (lp _ _ aF aF),tF 55 (0<(iL (jK d k (l.getD x iA)) (iS (0-(t:Int))))) (by rw[JZ uV,cv]at qo;omega),iq ((x:Int)+1) aE]) aI 
    .obtain ⟨N,CJ,xQ,xP⟩:=(Lf d (l.getD x iA) k).resolve_left uV;exact iy (af [tT 18 ((x:Int)<l.length) aE,iX (x:Int) (l.length) aE,.s (Sp.jc (UM l d k t x N) 0 N aE (λi hi oK=>by
    have nQ:=tJ (h:=d) (hl x) i;exact iy (ae [tT 23 ((i:Int)<k) aE,ag [gZ (jK d i (l.getD x iA)),gZ d] (wN _ _ aF aF),ai 32 ((kC (iY (jK d i (l.getD x iA)) d)) != 0) (BT (xQ i aE)),iq ((i:Int)+1) aE]<|.e (af [.b 10 (.iT rfl:Bx.le (.cells 31 (ix (jC (iY (jK d i (l.getD x iA)) d)))) (.cells 31 (ix (jK d (i+1) (l.getD x iA)))))])) aI)
  (λhi=>by
    have nQ:=tJ (h:=d) (hl x) N;have tm:=Bf nQ;have td:=Bf hd;obtain⟨T,hT⟩:∃ T,T=((k:Int)-N)*(Dy.im d):=⟨_,rfl⟩
    have wY:=L5 (a:=(k:Int)-N) (b:=Dy.im d) aE aE td.1 td.2;exact iy (af [tT 23 ((N:Int)<k) aE,ag [gZ (jK d N (l.getD x iA)),gZ d] (wN _ _ aF aF),ah 32 ((kC (iY (jK d N (l.getD x iA)) d)) != 0) (Le xP),ag [gZ (jK d N (l.getD x iA))] (mW _ aF),iq ((k:Int)-N) aE,ag [gZ d] (mW _ aF),iq (((k:Int)-N)*(Dy.im d)) aE,iq ((Dy.im (jK d N (l.getD x iA)))+(((k:Int)-N)*(Dy.im d))) aE,
    iq (0-(t:Int)) aE,ah 44 (decide (((Dy.im (jK d N (l.getD x iA)))+(((k:Int)-N)*(Dy.im d)))<=(0-(t:Int)))) (by rw[J0 CJ xQ xP]at qo;exact qo)]) aI) aM:jb 6 f110 (UM l d k t x N 0) (.exit 2) ⟨57,true,[(11,.e (bP true)),(10,.box 10 0),(17,.e (iP x)),(16,.e (iP l.length)),(15,.e (jN l)),(5,.box 5 0),(2,.e (iP k)),(3,.e (iP t))],[(10,.cells 31 (ix (jK d N (l.getD x iA)))),(5,.cells 31 (ix d))]⟩) (af [.b 10 (.iT rfl:Bx.le (.cells 31 (ix (l.getD x iA))) (.cells 31 (ix (jK d 0 (l.getD x iA)))))]),
      iq ((x:Int)+1) aE]) aI)
  (λhx=>by
    have OT:=tJ (h:=d) (hl M) k;have sd:(iS (0-(t:Int))).ib:=L8 t ht;have sG:=hl M;exact iy (af [tT 18 ((M:Int)<l.length) aE,iX (M:Int) (l.length) aE,.s (Sp.jc (UJ l d k t M) 0 k aE (λi hi oK=>by
    have nQ:=tJ (h:=d) (hl M) i;exact iy (ae [tT 23 ((i:Int)<k) aE,ag [gZ (jK d i (l.getD M iA)),gZ d] (wN _ _ aF aF),ai 32 ((kC (iY (jK d i (l.getD M iA)) d)) != 0) (BT (uV i aE)),iq ((i:Int)+1) aE]<|.e (af [.b 10 (.iT rfl:Bx.le (.cells 31 (ix (jC (iY (jK d i (l.getD M iA)) d)))) (.cells 31 (ix (jK d (i+1) (l.getD M iA)))))])) aI)
  (λhi=>by
    exact iy (af [tF 23 ((k:Int)<k) aE]) aI) aM:jb 6 f110 (UJ l d k t M 0) (.exit 2) ⟨57,true,[(11,.e (bP false)),(10,.box 10 0),(17,.e (iP M)),(16,.e (iP l.length)),(15,.e (jN l)),(5,.box 5 0),(2,.e (iP k)),(3,.e (iP t))],[(10,.cells 31 (ix (jK d k (l.getD M iA)))),(5,.cells 31 (ix d))]⟩) (af [.b 10 (.iT rfl:Bx.le (.cells 31 (ix (l.getD M iA))) (.cells 31 (ix (jK d 0 (l.getD M iA)))))]),
    iq (0-(t:Int)) aE,.c (qQ (0-(t:Int))),ag [gZ (jK d k (l.getD M iA)),gZ (iS (0-(t:Int)))] (lp _ _ aF aF),tT 55 (0<(iL (jK d k (l.getD M iA)) (iS (0-(t:Int))))) (by rw[JZ uV,aq4]at CQ;omega)]) aI) aM:jb 2 f110 (UQ l d k t 0) .ret ⟨57,true,[(8,.e (bP false))],[]⟩) .nil]) 
def adR(l:List Dy)(d:Dy)(k t:Nat)(nP:l.length<=100)(hl:∀ i,(l.getD i iA).ib)(hd:d.ib)(hk:k<=16)(ht:t<=1000)(M:Nat)(hM:M<l.length)(hf:∀ x,x<M->rA d (t:Int) k (l.getD x iA)=true)(CQ:rA d (t:Int) k (l.getD M iA)=false)(N:Nat)(CJ:N<k)(xQ:∀ i,i<N->rI d i (l.getD M iA)=true)(xP:rI d N (l.getD M iA)=false):gV 110 [jN l,gZ d,iP k,iP t] (bP false):=
 ak call110 func110 (af [.s (Sp.jc (UR l d k t) 0 M aE (λx hx kW=>by
    have qo:=hf x aE;have sd:(iS (0-(t:Int))).ib:=L8 t ht;have sG:=hl x;by_cases uV:∀ i,i<k->rI d i (l.getD x iA)=true
    .have OT:=tJ (h:=d) (hl x) k;exact iy (af [tT 18 ((x:Int)<l.length) aE,iX (x:Int) (l.length) aE,.s (Sp.jc (UK l d k t x) 0 k aE (λi hi oK=>by
    have nQ:=tJ (h:=d) (hl x) i;exact iy (ae [tT 23 ((i:Int)<k) aE,ag [gZ (jK d i (l.getD x iA)),gZ d] (wN _ _ aF aF),ai 32 ((kC (iY (jK d i (l.getD x iA)) d)) != 0) (BT (uV i aE)),iq ((i:Int)+1) aE]<|.e (af [.b 10 (.iT rfl:Bx.le (.cells 31 (ix (jC (iY (jK d i (l.getD x iA)) d)))) (.cells 31 (ix (jK d (i+1) (l.getD x iA)))))])) aI)
  (λhi=>by
    exact iy (af [tF 23 ((k:Int)<k) aE]) aI) aM:jb 6 f110 (UK l d k t x 0) (.exit 2) ⟨57,true,[(11,.e (bP false)),(10,.box 10 0),(17,.e (iP x)),(16,.e (iP l.length)),(15,.e (jN l)),(5,.box 5 0),(2,.e (iP k)),(3,.e (iP t))],[(10,.cells 31 (ix (jK d k (l.getD x iA)))),(5,.cells 31 (ix d))]⟩) (af [.b 10 (.iT rfl:Bx.le (.cells 31 (ix (l.getD x iA))) (.cells 31 (ix (jK d 0 (l.getD x iA)))))]),
      iq (0-(t:Int)) aE,.c (qQ (0-(t:Int))),ag [gZ (jK d k (l.getD x iA)),gZ (iS (0-(t:Int)))] (lp _ _ aF aF),tF 55 (0<(iL (jK d k (l.getD x iA)) (iS (0-(t:Int))))) (by rw[JZ uV,cv]at qo;omega),iq ((x:Int)+1) aE]) aI 
    .obtain ⟨N,CJ,xQ,xP⟩:=(Lf d (l.getD x iA) k).resolve_left uV;exact iy (af [tT 18 ((x:Int)<l.length) aE,iX (x:Int) (l.length) aE,.s (Sp.jc (UN l d k t x N) 0 N aE (λi hi oK=>by
    have nQ:=tJ (h:=d) (hl x) i;exact iy (ae [tT 23 ((i:Int)<k) aE,ag [gZ (jK d i (l.getD x iA)),gZ d] (wN _ _ aF aF),ai 32 ((kC (iY (jK d i (l.getD x iA)) d)) != 0) (BT (xQ i aE)),iq ((i:Int)+1) aE]<|.e (af [.b 10 (.iT rfl:Bx.le (.cells 31 (ix (jC (iY (jK d i (l.getD x iA)) d)))) (.cells 31 (ix (jK d (i+1) (l.getD x iA)))))])) aI)
  (λhi=>by
    have nQ:=tJ (h:=d) (hl x) N;have tm:=Bf nQ;have td:=Bf hd;obtain⟨T,hT⟩:∃ T,T=((k:Int)-N)*(Dy.im d):=⟨_,rfl⟩
    have wY:=L5 (a:=(k:Int)-N) (b:=Dy.im d) aE aE td.1 td.2;exact iy (af [tT 23 ((N:Int)<k) aE,ag [gZ (jK d N (l.getD x iA)),gZ d] (wN _ _ aF aF),ah 32 ((kC (iY (jK d N (l.getD x iA)) d)) != 0) (Le xP),ag [gZ (jK d N (l.getD x iA))] (mW _ aF),iq ((k:Int)-N) aE,ag [gZ d] (mW _ aF),iq (((k:Int)-N)*(Dy.im d)) aE,iq ((Dy.im (jK d N (l.getD x iA)))+(((k:Int)-N)*(Dy.im d))) aE,
    iq (0-(t:Int)) aE,ah 44 (decide (((Dy.im (jK d N (l.getD x iA)))+(((k:Int)-N)*(Dy.im d)))<=(0-(t:Int)))) (by rw[J0 CJ xQ xP]at qo;exact qo)]) aI) aM:jb 6 f110 (UN l d k t x N 0) (.exit 2) ⟨57,true,[(11,.e (bP true)),(10,.box 10 0),(17,.e (iP x)),(16,.e (iP l.length)),(15,.e (jN l)),(5,.box 5 0),(2,.e (iP k)),(3,.e (iP t))],[(10,.cells 31 (ix (jK d N (l.getD x iA)))),(5,.cells 31 (ix d))]⟩) (af [.b 10 (.iT rfl:Bx.le (.cells 31 (ix (l.getD x iA))) (.cells 31 (ix (jK d 0 (l.getD x iA)))))]),
      iq ((x:Int)+1) aE]) aI)
  (λhx=>by
    have sG:=hl M;exact iy (af [tT 18 ((M:Int)<l.length) aE,iX (M:Int) (l.length) aE,.s (Sp.jc (UO l d k t M N) 0 N aE (λi hi oK=>by
    have nQ:=tJ (h:=d) (hl M) i;exact iy (ae [tT 23 ((i:Int)<k) aE,ag [gZ (jK d i (l.getD M iA)),gZ d] (wN _ _ aF aF),ai 32 ((kC (iY (jK d i (l.getD M iA)) d)) != 0) (BT (xQ i aE)),iq ((i:Int)+1) aE]<|.e (af [.b 10 (.iT rfl:Bx.le (.cells 31 (ix (jC (iY (jK d i (l.getD M iA)) d)))) (.cells 31 (ix (jK d (i+1) (l.getD M iA)))))])) aI)
  (λhi=>by
    have nQ:=tJ (h:=d) (hl M) N;have tm:=Bf nQ;have td:=Bf hd;obtain⟨T,hT⟩:∃ T,T=((k:Int)-N)*(Dy.im d):=⟨_,rfl⟩
    have wY:=L5 (a:=(k:Int)-N) (b:=Dy.im d) aE aE td.1 td.2;exact iy (af [tT 23 ((N:Int)<k) aE,ag [gZ (jK d N (l.getD M iA)),gZ d] (wN _ _ aF aF),ah 32 ((kC (iY (jK d N (l.getD M iA)) d)) != 0) (Le xP),ag [gZ (jK d N (l.getD M iA))] (mW _ aF),iq ((k:Int)-N) aE,ag [gZ d] (mW _ aF),iq (((k:Int)-N)*(Dy.im d)) aE,iq ((Dy.im (jK d N (l.getD M iA)))+(((k:Int)-N)*(Dy.im d))) aE,
    iq (0-(t:Int)) aE,ai 44 (decide (((Dy.im (jK d N (l.getD M iA)))+(((k:Int)-N)*(Dy.im d)))<=(0-(t:Int)))) (by rw[J0 CJ xQ xP]at CQ;exact CQ)]) aI) aM:jb 6 f110 (UO l d k t M N 0) .ret ⟨57,true,[(8,.e (bP false))],[]⟩) (af [.b 10 (.iT rfl:Bx.le (.cells 31 (ix (l.getD M iA))) (.cells 31 (ix (jK d 0 (l.getD M iA)))))])]) aI) aM:jb 2 f110 (UR l d k t 0) .ret ⟨57,true,[(8,.e (bP false))],[]⟩) .nil]) 
def Ct(l:List Dy)(d:Dy)(k t:Nat)(nP:l.length<=100)(hl:∀ i,(l.getD i iA).ib)(hd:d.ib)(hk:k<=16)(ht:t<=1000):gV 110 [jN l,gZ d,iP k,iP t] (bP (qE l d k (t:Int))):=by
 by_cases hb:qE l d k (t:Int)=true
 .rw [hb];exact adS l d k t nP hl hd hk ht λx hx=>bX.1 hb x (b5.2 hx)
 .rw [bd hb];obtain⟨M,n1,n2,n3⟩:=Jf hb;have hf:∀ x,x<M->rA d (t:Int) k (l.getD x iA)=true:=λx hx=>by simpa using n3 x hx
  have CQ:rA d (t:Int) k (l.getD M iA)=false:=by simpa using n2
  rcases Lf d (l.getD M iA) k with ho|⟨N,h1,h2,h3⟩
  .exact adQ l d k t nP hl hd hk ht M n1 hf CQ ho
  .exact adR l d k t nP hl hd hk ht M n1 hf CQ N h1 h2 h3
def tY{j:Int}(h:-248<=j):decide (0<=iL (nD j) (iS (-60)))=true:=by
 have e:=BR (-60);rw[<-e];refine bn ?_;have:¬iL (nD j) (nD (4*(-60-2)))<0:=λq=>absurd (K4.1 q) aE 
 omega
def JE{j:Int}(h:j < -248):decide (0<=iL (nD j) (iS (-60)))=false:=by
 have e:=BR (-60);rw[<-e];refine bt ?_;have:=(K4 (i:=j) (j:=4*(-60-2))).2 aE;omega
def F3{j:Int}(h:-248<=j):decide (iL (nD j) (iS (-60))<0)=false:=by
 have e:=BR (-60);rw[<-e];exact bt λq=>absurd (K4.1 q) aE 
def Tn{j:Int}(h:j < -248):decide (iL (nD j) (iS (-60))<0)=true:=by
 have e:=BR (-60);rw[<-e];exact bn ((K4 (i:=j) (j:=4*(-60-2))).2 aE)
def sV:(iS (-60)).ib:=IQ aG aG 
def pG{a b:Int}(h:a=b):Bx.le (.cells 31 [bP (nD a).neg,ia (gW (nD a).m),iP (nD a).e]) (.cells 31 [bP (nD b).neg,ia (gW (nD b).m),iP (nD b).e]):=by subst h;exact .iT rfl
def adJ(s:jM)(x:List Iv)(d:Dy)(mth ord mst:Int)(p t k:Nat)(h:mh s)(hx:kG s.iz x)(hd:d.ib)(h0:0<d.iI)(hk:k<=16)(ht:t<=200)(il:8<=p)(ic:p<=512)(hO:gV 99 [.agg ([iP mth,iP ord,iP p]++ix d++[iP t,iP mst])] (.iw [iP (k:Int),iP 0]))(hM:gV 107 [lE s,ig x,iP (k:Int),iP (p:Int)] (.iw [.v (.slice none 0 0),bP false])):gV 38 [lE s,ig x,.agg ([iP mth,iP ord,iP p]++ix d++[iP t,iP mst])] (.iw [gZ iA,iP 12]):=by
 have s1:=h.s1;have s4:=h.s4;have lx:=hx.len;exact ak call38 func38 (af [ag [.agg ([iP mth,iP ord,iP p]++ix d++[iP t,iP mst])] hO,ai 21 ((0:Int) != 0) aG,.c (AL s aF),.c (vC x aE aE hx.ok),ai 37 ((x.length:Int) != (s.iz:Int)) (wk aE),ag [lE s,ig x,iP k,iP p] hM,.o 51 (.e qO:aj (.agg ar) (gZ iA))]) 
def adI(s:jM)(x:List Iv)(d:Dy)(mth ord mst:Int)(p t k:Nat)(h:mh s)(hx:kG s.iz x)(hd:d.ib)(h0:0<d.iI)(hk:k<=16)(ht:t<=200)(il:8<=p)(ic:p<=512)(hO:gV 99 [.agg ([iP mth,iP ord,iP p]++ix d++[iP t,iP mst])] (.iw [iP (k:Int),iP 0]))(l:List Dy)(nP:l.length<=4)(hl:∀ i,(l.getD i iA).ib)(hM:gV 107 [lE s,ig x,iP (k:Int),iP (p:Int)] (.iw [jN l,bP true]))(j0:Int)(hN:gV 101 [gZ d] (.iw [gZ (nD j0),bP true]))(hj:j0<=72)(n1 n2:Nat)(jQ:∀ n,n<=n1->(nD (j0-(n:Int))).ib)(hA:∀ n:Nat,n<n1 -> -248<=j0-(n:Int)/\(qE l (nD (j0-(n:Int))) k (t:Int))=false)(hB:j0-(n1:Int) < -248)(h2:n2=0)(hD:∀ m:Nat,m<n2 -> -248<=j0-(n1:Int)-m/\(sx s x (nD (j0-(n1:Int)-m)) p)=none):gV 38 [lE s,ig x,.agg ([iP mth,iP ord,iP p]++ix d++[iP t,iP mst])] (.iw [gZ iA,iP 12]):=by
 have s1:=h.s1;have s4:=h.s4;have lx:=hx.len;exact ak call38 func38 (af [ag [.agg ([iP mth,iP ord,iP p]++ix d++[iP t,iP mst])] hO,ai 21 ((0:Int) != 0) aG,.c (AL s aF),.c (vC x aE aE hx.ok),ai 37 ((x.length:Int) != (s.iz:Int)) (wk aE),ag [lE s,ig x,iP k,iP p] hM,ag [gZ d] hN,.s (Sp.jc (S4 s x d mth ord mst p t k l j0) 0 n1 aE (λn hn EI=>by
    obtain⟨qT,ud⟩:=hA n aE;have pq:(nD (j0-(n:Int))).ib:=jQ n aE;have pD:=sV;exact iy (ae [.c (qQ (-60)),ag [gZ (nD (j0-(n:Int))),gZ (iS (-60))] (lp _ _ aF aF),ah 63 (decide (0<=(iL (nD (j0-(n:Int))) (iS (-60))))) (tY qT),.c (Ct l (nD (j0-(n:Int))) k t aE hl aF hk aE),ah 72 (!(qE l (nD (j0-(n:Int))) k (t:Int))) (by rw[ud];rfl),ag [gZ (nD (j0-(n:Int)))] (A5 _ aE aE)]<|.e (af [.b 12 (pG aE:Bx.le (.cells 31 (ix (nD (j0-(n:Int)-1)))) (.cells 31 (ix (nD (j0-((n+1:Nat):Int))))))])) aI)
  (λhn=>by
    have pq:(nD (j0-(n1:Int))).ib:=jQ n1 (bu _);have pD:=sV;exact iy (af [.c (qQ (-60)),ag [gZ (nD (j0-(n1:Int))),gZ (iS (-60))] (lp _ _ aF aF),ai 63 (decide (0<=(iL (nD (j0-(n1:Int))) (iS (-60))))) (JE hB)]) aI) aM:jb 8 Tryz.f38 (S4 s x d mth ord mst p t k l j0 0) (.exit 0) ⟨108,true,[(11,.e (bP true)),(12,.box 12 0),(6,.box 6 0),(5,.box 5 0),(3,.box 3 0),(1,.e (ig x))],[(12,.cells 31 (ix (nD (j0-(n1:Int))))),(6,.cells 31 ar),(5,.cells 81 ([iP mth,iP ord,iP p]++ix d++[iP t,iP mst])),(3,.cells 28 [iP s.tape.ik,kZ s.tape.gX,kY s.tape.iu,iP s.iz,ig s.params])]⟩) (af [.b 12 (pG aE:Bx.le (.cells 31 (ix (nD j0))) (.cells 31 (ix (nD (j0-((0:Nat):Int))))))]),.s (Sp.jc (S8 s x d mth ord mst p t k l j0 n1) 0 n2 aE (λm hm Ae=>by
    obtain⟨r8,hE⟩:=hD m aE;have nQ:(nD (j0-(n1:Int)-m)).ib:=ri aE aE;have pD:=sV;exact iy (ae [tT 80 ((m:Int)<40) aE,.c (qQ (-60)),ag [gZ (nD (j0-(n1:Int)-m)),gZ (iS (-60))] (lp _ _ aF aF),ai 87 (decide ((iL (nD (j0-(n1:Int)-m)) (iS (-60)))<0)) (F3 r8),ag [lE s,ig x,gZ (nD (j0-(n1:Int)-m)),iP p] (Gh s x _ p h hx aF (Dw _) il ic hE),ai 99 ((12:Int)==0) aG,ag [gZ (nD (j0-(n1:Int)-m))] (A5 _ aE aE),iq ((m:Int)+1) aE]<|.e (af [.b 12 (pG aE:Bx.le (.cells 31 (ix (nD (j0-(n1:Int)-m-1)))) (.cells 31 (ix (nD (j0-(n1:Int)-((m+1:Nat):Int))))))])) aI)
  (λhm=>by
    have nQ:(nD (j0-(n1:Int)-n2)).ib:=by
     have:=jQ n1 (bu _);rwa[(aE:j0-(n1:Int)-n2=j0-(n1:Int))]
    have pD:=sV;exact iy (af [tT 80 ((n2:Int)<40) aE,.c (qQ (-60)),ag [gZ (nD (j0-(n1:Int)-n2)),gZ (iS (-60))] (lp _ _ aF aF),ah 87 (decide ((iL (nD (j0-(n1:Int)-n2)) (iS (-60)))<0)) (Tn aE)]) aI) aM:jb 11 Tryz.f38 (S8 s x d mth ord mst p t k l j0 n1 0) (.exit 2) ⟨108,true,[(6,.box 6 0)],[(6,.cells 31 ar)]⟩) (af [.b 12 (pG aE:Bx.le (.cells 31 (ix (nD (j0-(n1:Int))))) (.cells 31 (ix (nD (j0-(n1:Int)-((0:Nat):Int))))))]),.o 107 (.e qO:aj (.agg ar) (gZ iA))]) 
def adF(s:jM)(x:List Iv)(d:Dy)(mth ord mst:Int)(p t k:Nat)(h:mh s)(hx:kG s.iz x)(hd:d.ib)(h0:0<d.iI)(hk:k<=16)(ht:t<=200)(il:8<=p)(ic:p<=512)(hO:gV 99 [.agg ([iP mth,iP ord,iP p]++ix d++[iP t,iP mst])] (.iw [iP (k:Int),iP 0]))(l:List Dy)(nP:l.length<=4)(hl:∀ i,(l.getD i iA).ib)(hM:gV 107 [lE s,ig x,iP (k:Int),iP (p:Int)] (.iw [jN l,bP true]))(j0:Int)(hN:gV 101 [gZ d] (.iw [gZ (nD j0),bP true]))(hj:j0<=72)(n1 n2:Nat)(jQ:∀ n,n<=n1->(nD (j0-(n:Int))).ib)(hA:∀ n:Nat,n<n1 -> -248<=j0-(n:Int)/\(qE l (nD (j0-(n:Int))) k (t:Int))=false)(uQ:-248<=j0-(n1:Int))(tn:(qE l (nD (j0-(n1:Int))) k (t:Int))=true)(h2:n2=40)(hD:∀ m:Nat,m<n2 -> -248<=j0-(n1:Int)-m/\(sx s x (nD (j0-(n1:Int)-m)) p)=none):gV 38 [lE s,ig x,.agg ([iP mth,iP ord,iP p]++ix d++[iP t,iP mst])] (.iw [gZ iA,iP 12]):=by
 have s1:=h.s1;have s4:=h.s4;have lx:=hx.len;exact ak call38 func38 (af [ag [.agg ([iP mth,iP ord,iP p]++ix d++[iP t,iP mst])] hO,ai 21 ((0:Int) != 0) aG,.c (AL s aF),.c (vC x aE aE hx.ok),ai 37 ((x.length:Int) != (s.iz:Int)) (wk aE),ag [lE s,ig x,iP k,iP p] hM,ag [gZ d] hN,.s (Sp.jc (S5 s x d mth ord mst p t k l j0) 0 n1 aE (λn hn EI=>by
    obtain⟨qT,ud⟩:=hA n aE;have pq:(nD (j0-(n:Int))).ib:=jQ n aE;have pD:=sV;exact iy (ae [.c (qQ (-60)),ag [gZ (nD (j0-(n:Int))),gZ (iS (-60))] (lp _ _ aF aF),ah 63 (decide (0<=(iL (nD (j0-(n:Int))) (iS (-60))))) (tY qT),.c (Ct l (nD (j0-(n:Int))) k t aE hl aF hk aE),ah 72 (!(qE l (nD (j0-(n:Int))) k (t:Int))) (by rw[ud];rfl),ag [gZ (nD (j0-(n:Int)))] (A5 _ aE aE)]<|.e (af [.b 12 (pG aE:Bx.le (.cells 31 (ix (nD (j0-(n:Int)-1)))) (.cells 31 (ix (nD (j0-((n+1:Nat):Int))))))])) aI)
  (λhn=>by
    have pq:(nD (j0-(n1:Int))).ib:=jQ n1 (bu _);have pD:=sV;exact iy (af [.c (qQ (-60)),ag [gZ (nD (j0-(n1:Int))),gZ (iS (-60))] (lp _ _ aF aF),ah 63 (decide (0<=(iL (nD (j0-(n1:Int))) (iS (-60))))) (tY uQ),.c (Ct l (nD (j0-(n1:Int))) k t aE hl aF hk aE),ai 72 (!(qE l (nD (j0-(n1:Int))) k (t:Int))) (by rw[tn];rfl)]) aI) aM:jb 8 Tryz.f38 (S5 s x d mth ord mst p t k l j0 0) (.exit 0) ⟨108,true,[(11,.e (bP true)),(12,.box 12 0),(6,.box 6 0),(5,.box 5 0),(3,.box 3 0),(1,.e (ig x))],[(12,.cells 31 (ix (nD (j0-(n1:Int))))),(6,.cells 31 ar),(5,.cells 81 ([iP mth,iP ord,iP p]++ix d++[iP t,iP mst])),(3,.cells 28 [iP s.tape.ik,kZ s.tape.gX,kY s.tape.iu,iP s.iz,ig s.params])]⟩) (af [.b 12 (pG aE:Bx.le (.cells 31 (ix (nD j0))) (.cells 31 (ix (nD (j0-((0:Nat):Int))))))]),.s (Sp.jc (S9 s x d mth ord mst p t k l j0 n1) 0 n2 aE (λm hm Ae=>by
    obtain⟨r8,hE⟩:=hD m aE;have nQ:(nD (j0-(n1:Int)-m)).ib:=ri aE aE;have pD:=sV;exact iy (ae [tT 80 ((m:Int)<40) aE,.c (qQ (-60)),ag [gZ (nD (j0-(n1:Int)-m)),gZ (iS (-60))] (lp _ _ aF aF),ai 87 (decide ((iL (nD (j0-(n1:Int)-m)) (iS (-60)))<0)) (F3 r8),ag [lE s,ig x,gZ (nD (j0-(n1:Int)-m)),iP p] (Gh s x _ p h hx aF (Dw _) il ic hE),ai 99 ((12:Int)==0) aG,ag [gZ (nD (j0-(n1:Int)-m))] (A5 _ aE aE),iq ((m:Int)+1) aE]<|.e (af [.b 12 (pG aE:Bx.le (.cells 31 (ix (nD (j0-(n1:Int)-m-1)))) (.cells 31 (ix (nD (j0-(n1:Int)-((m+1:Nat):Int))))))])) aI)
  (λhm=>by
    exact iy (af [tF 80 ((n2:Int)<40) aE]) aI) aM:jb 11 Tryz.f38 (S9 s x d mth ord mst p t k l j0 n1 0) (.exit 2) ⟨108,true,[(6,.box 6 0)],[(6,.cells 31 ar)]⟩) (af [.b 12 (pG aE:Bx.le (.cells 31 (ix (nD (j0-(n1:Int))))) (.cells 31 (ix (nD (j0-(n1:Int)-((0:Nat):Int))))))]),.o 107 (.e qO:aj (.agg ar) (gZ iA))]) 
def adK(s:jM)(x:List Iv)(d:Dy)(mth ord mst:Int)(p t k:Nat)(h:mh s)(hx:kG s.iz x)(hd:d.ib)(h0:0<d.iI)(hk:k<=16)(ht:t<=200)(il:8<=p)(ic:p<=512)(hO:gV 99 [.agg ([iP mth,iP ord,iP p]++ix d++[iP t,iP mst])] (.iw [iP (k:Int),iP 0]))(l:List Dy)(nP:l.length<=4)(hl:∀ i,(l.getD i iA).ib)(hM:gV 107 [lE s,ig x,iP (k:Int),iP (p:Int)] (.iw [jN l,bP true]))(j0:Int)(hN:gV 101 [gZ d] (.iw [gZ (nD j0),bP true]))(hj:j0<=72)(n1 n2:Nat)(jQ:∀ n,n<=n1->(nD (j0-(n:Int))).ib)(hA:∀ n:Nat,n<n1 -> -248<=j0-(n:Int)/\(qE l (nD (j0-(n:Int))) k (t:Int))=false)(uQ:-248<=j0-(n1:Int))(tn:(qE l (nD (j0-(n1:Int))) k (t:Int))=true)(h2:n2<40)(hS:j0-(n1:Int)-n2 < -248)(Bp:-249<=j0-(n1:Int)-n2)(hD:∀ m:Nat,m<n2 -> -248<=j0-(n1:Int)-m/\(sx s x (nD (j0-(n1:Int)-m)) p)=none):gV 38 [lE s,ig x,.agg ([iP mth,iP ord,iP p]++ix d++[iP t,iP mst])] (.iw [gZ iA,iP 12]):=by
 have s1:=h.s1;have s4:=h.s4;have lx:=hx.len;exact ak call38 func38 (af [ag [.agg ([iP mth,iP ord,iP p]++ix d++[iP t,iP mst])] hO,ai 21 ((0:Int) != 0) aG,.c (AL s aF),.c (vC x aE aE hx.ok),ai 37 ((x.length:Int) != (s.iz:Int)) (wk aE),ag [lE s,ig x,iP k,iP p] hM,ag [gZ d] hN,.s (Sp.jc (S6 s x d mth ord mst p t k l j0) 0 n1 aE (λn hn EI=>by
    obtain⟨qT,ud⟩:=hA n aE;have pq:(nD (j0-(n:Int))).ib:=jQ n aE;have pD:=sV;exact iy (ae [.c (qQ (-60)),ag [gZ (nD (j0-(n:Int))),gZ (iS (-60))] (lp _ _ aF aF),ah 63 (decide (0<=(iL (nD (j0-(n:Int))) (iS (-60))))) (tY qT),.c (Ct l (nD (j0-(n:Int))) k t aE hl aF hk aE),ah 72 (!(qE l (nD (j0-(n:Int))) k (t:Int))) (by rw[ud];rfl),ag [gZ (nD (j0-(n:Int)))] (A5 _ aE aE)]<|.e (af [.b 12 (pG aE:Bx.le (.cells 31 (ix (nD (j0-(n:Int)-1)))) (.cells 31 (ix (nD (j0-((n+1:Nat):Int))))))])) aI)
  (λhn=>by
    have pq:(nD (j0-(n1:Int))).ib:=jQ n1 (bu _);have pD:=sV;exact iy (af [.c (qQ (-60)),ag [gZ (nD (j0-(n1:Int))),gZ (iS (-60))] (lp _ _ aF aF),ah 63 (decide (0<=(iL (nD (j0-(n1:Int))) (iS (-60))))) (tY uQ),.c (Ct l (nD (j0-(n1:Int))) k t aE hl aF hk aE),ai 72 (!(qE l (nD (j0-(n1:Int))) k (t:Int))) (by rw[tn];rfl)]) aI) aM:jb 8 Tryz.f38 (S6 s x d mth ord mst p t k l j0 0) (.exit 0) ⟨108,true,[(11,.e (bP true)),(12,.box 12 0),(6,.box 6 0),(5,.box 5 0),(3,.box 3 0),(1,.e (ig x))],[(12,.cells 31 (ix (nD (j0-(n1:Int))))),(6,.cells 31 ar),(5,.cells 81 ([iP mth,iP ord,iP p]++ix d++[iP t,iP mst])),(3,.cells 28 [iP s.tape.ik,kZ s.tape.gX,kY s.tape.iu,iP s.iz,ig s.params])]⟩) (af [.b 12 (pG aE:Bx.le (.cells 31 (ix (nD j0))) (.cells 31 (ix (nD (j0-((0:Nat):Int))))))]),.s (Sp.jc (Ta s x d mth ord mst p t k l j0 n1) 0 n2 aE (λm hm Ae=>by
    obtain⟨r8,hE⟩:=hD m aE;have nQ:(nD (j0-(n1:Int)-m)).ib:=ri aE aE;have pD:=sV;exact iy (ae [tT 80 ((m:Int)<40) aE,.c (qQ (-60)),ag [gZ (nD (j0-(n1:Int)-m)),gZ (iS (-60))] (lp _ _ aF aF),ai 87 (decide ((iL (nD (j0-(n1:Int)-m)) (iS (-60)))<0)) (F3 r8),ag [lE s,ig x,gZ (nD (j0-(n1:Int)-m)),iP p] (Gh s x _ p h hx aF (Dw _) il ic hE),ai 99 ((12:Int)==0) aG,ag [gZ (nD (j0-(n1:Int)-m))] (A5 _ aE aE),iq ((m:Int)+1) aE]<|.e (af [.b 12 (pG aE:Bx.le (.cells 31 (ix (nD (j0-(n1:Int)-m-1)))) (.cells 31 (ix (nD (j0-(n1:Int)-((m+1:Nat):Int))))))])) aI)
  (λhm=>by
    have nQ:(nD (j0-(n1:Int)-n2)).ib:=ri aE aE;have pD:=sV;exact iy (af [tT 80 ((n2:Int)<40) aE,.c (qQ (-60)),ag [gZ (nD (j0-(n1:Int)-n2)),gZ (iS (-60))] (lp _ _ aF aF),ah 87 (decide ((iL (nD (j0-(n1:Int)-n2)) (iS (-60)))<0)) (Tn hS)]) aI) aM:jb 11 Tryz.f38 (Ta s x d mth ord mst p t k l j0 n1 0) (.exit 2) ⟨108,true,[(6,.box 6 0)],[(6,.cells 31 ar)]⟩) (af [.b 12 (pG aE:Bx.le (.cells 31 (ix (nD (j0-(n1:Int))))) (.cells 31 (ix (nD (j0-(n1:Int)-((0:Nat):Int))))))]),.o 107 (.e qO:aj (.agg ar) (gZ iA))]) 
def adH(s:jM)(x:List Iv)(d:Dy)(mth ord mst:Int)(p t k:Nat)(h:mh s)(hx:kG s.iz x)(hd:d.ib)(h0:0<d.iI)(hk:k<=16)(ht:t<=200)(il:8<=p)(ic:p<=512)(hO:gV 99 [.agg ([iP mth,iP ord,iP p]++ix d++[iP t,iP mst])] (.iw [iP (k:Int),iP 0]))(l:List Dy)(nP:l.length<=4)(hl:∀ i,(l.getD i iA).ib)(hM:gV 107 [lE s,ig x,iP (k:Int),iP (p:Int)] (.iw [jN l,bP true]))(j0:Int)(hN:gV 101 [gZ d] (.iw [gZ (nD j0),bP true]))(hj:j0<=72)(n1 n2:Nat)(jQ:∀ n,n<=n1->(nD (j0-(n:Int))).ib)(hA:∀ n:Nat,n<n1 -> -248<=j0-(n:Int)/\(qE l (nD (j0-(n:Int))) k (t:Int))=false)(uQ:-248<=j0-(n1:Int))(tn:(qE l (nD (j0-(n1:Int))) k (t:Int))=true)(h2:n2<40)(hS:-248<=j0-(n1:Int)-n2)(bx:List Iv)(hE:(sx s x (nD (j0-(n1:Int)-n2)) p)=some bx)(hD:∀ m:Nat,m<n2 -> -248<=j0-(n1:Int)-m/\(sx s x (nD (j0-(n1:Int)-m)) p)=none):gV 38 [lE s,ig x,.agg ([iP mth,iP ord,iP p]++ix d++[iP t,iP mst])] (.iw [gZ (nD (j0-(n1:Int)-n2)),iP 0]):=by
 have s1:=h.s1;have s4:=h.s4;have lx:=hx.len;exact ak call38 func38 (af [ag [.agg ([iP mth,iP ord,iP p]++ix d++[iP t,iP mst])] hO,ai 21 ((0:Int) != 0) aG,.c (AL s aF),.c (vC x aE aE hx.ok),ai 37 ((x.length:Int) != (s.iz:Int)) (wk aE),ag [lE s,ig x,iP k,iP p] hM,ag [gZ d] hN,.s (Sp.jc (S7 s x d mth ord mst p t k l j0) 0 n1 aE (λn hn EI=>by
    obtain⟨qT,ud⟩:=hA n aE;have pq:(nD (j0-(n:Int))).ib:=jQ n aE;have pD:=sV;exact iy (ae [.c (qQ (-60)),ag [gZ (nD (j0-(n:Int))),gZ (iS (-60))] (lp _ _ aF aF),ah 63 (decide (0<=(iL (nD (j0-(n:Int))) (iS (-60))))) (tY qT),.c (Ct l (nD (j0-(n:Int))) k t aE hl aF hk aE),ah 72 (!(qE l (nD (j0-(n:Int))) k (t:Int))) (by rw[ud];rfl),ag [gZ (nD (j0-(n:Int)))] (A5 _ aE aE)]<|.e (af [.b 12 (pG aE:Bx.le (.cells 31 (ix (nD (j0-(n:Int)-1)))) (.cells 31 (ix (nD (j0-((n+1:Nat):Int))))))])) aI)
  (λhn=>by
    have pq:(nD (j0-(n1:Int))).ib:=jQ n1 (bu _);have pD:=sV;exact iy (af [.c (qQ (-60)),ag [gZ (nD (j0-(n1:Int))),gZ (iS (-60))] (lp _ _ aF aF),ah 63 (decide (0<=(iL (nD (j0-(n1:Int))) (iS (-60))))) (tY uQ),.c (Ct l (nD (j0-(n1:Int))) k t aE hl aF hk aE),ai 72 (!(qE l (nD (j0-(n1:Int))) k (t:Int))) (by rw[tn];rfl)]) aI) aM:jb 8 Tryz.f38 (S7 s x d mth ord mst p t k l j0 0) (.exit 0) ⟨108,true,[(11,.e (bP true)),(12,.box 12 0),(6,.box 6 0),(5,.box 5 0),(3,.box 3 0),(1,.e (ig x))],[(12,.cells 31 (ix (nD (j0-(n1:Int))))),(6,.cells 31 ar),(5,.cells 81 ([iP mth,iP ord,iP p]++ix d++[iP t,iP mst])),(3,.cells 28 [iP s.tape.ik,kZ s.tape.gX,kY s.tape.iu,iP s.iz,ig s.params])]⟩) (af [.b 12 (pG aE:Bx.le (.cells 31 (ix (nD j0))) (.cells 31 (ix (nD (j0-((0:Nat):Int))))))]),.s (Sp.jc (Tc s x d mth ord mst p t k l j0 n1) 0 n2 aE (λm hm Ae=>by
    obtain⟨r8,hE⟩:=hD m aE;have nQ:(nD (j0-(n1:Int)-m)).ib:=ri aE aE;have pD:=sV;exact iy (ae [tT 80 ((m:Int)<40) aE,.c (qQ (-60)),ag [gZ (nD (j0-(n1:Int)-m)),gZ (iS (-60))] (lp _ _ aF aF),ai 87 (decide ((iL (nD (j0-(n1:Int)-m)) (iS (-60)))<0)) (F3 r8),ag [lE s,ig x,gZ (nD (j0-(n1:Int)-m)),iP p] (Gh s x _ p h hx aF (Dw _) il ic hE),ai 99 ((12:Int)==0) aG,ag [gZ (nD (j0-(n1:Int)-m))] (A5 _ aE aE),iq ((m:Int)+1) aE]<|.e (af [.b 12 (pG aE:Bx.le (.cells 31 (ix (nD (j0-(n1:Int)-m-1)))) (.cells 31 (ix (nD (j0-(n1:Int)-((m+1:Nat):Int))))))])) aI)
  (λhm=>by
    have nQ:(nD (j0-(n1:Int)-n2)).ib:=ri aE aE;have pD:=sV;exact iy (af [tT 80 ((n2:Int)<40) aE,.c (qQ (-60)),ag [gZ (nD (j0-(n1:Int)-n2)),gZ (iS (-60))] (lp _ _ aF aF),ai 87 (decide ((iL (nD (j0-(n1:Int)-n2)) (iS (-60)))<0)) (F3 hS),ag [lE s,ig x,gZ (nD (j0-(n1:Int)-n2)),iP p] (T6 s x _ p h hx aF (Dw _) il ic hE),ah 99 ((0:Int)==0) aG]) aI) aM:jb 11 Tryz.f38 (Tc s x d mth ord mst p t k l j0 n1 0) .ret ⟨108,true,[(7,.e (iP 0)),(6,.box 6 0)],[(6,.cells 31 (ix (nD (j0-(n1:Int)-n2))))]⟩) (af [.b 12 (pG aE:Bx.le (.cells 31 (ix (nD (j0-(n1:Int))))) (.cells 31 (ix (nD (j0-(n1:Int)-((0:Nat):Int))))))])]) 
def j72{j0:Int}{d:Dy}(hq:(nD j0).q<=d.q)(hc:iL d (iS 20)<=0):j0<=72:=by
 have e:=BR 20;rw[<-e,oY]at hc;apply bT;intro q;have:=PK (aE:4*(20-2)<j0);exact absurd (bQ hq hc) (ff.2 this)
def Te:Option Int->E
 |some j=>.iw [gZ (nD j),iP 0]
 |none=>.iw [gZ iA,iP 12]
def adG(s:jM)(x:List Iv)(d:Dy)(mth ord mst:Int)(p t k:Nat)(h:mh s)(hx:kG s.iz x)(hd:d.ib)(h0:0<d.iI)(hk:k<=16)(ht:t<=200)(il:8<=p)(ic:p<=512)(hO:gV 99 [.agg ([iP mth,iP ord,iP p]++ix d++[iP t,iP mst])] (.iw [iP (k:Int),iP 0]))(hc:iL d (iS 20)<=0):∃ (o:Option Int) (j0:Int) (n1 n2:Nat),gV 38 [lE s,ig x,.agg ([iP mth,iP ord,iP p]++ix d++[iP t,iP mst])] (Te o)/\qi d.m d.e=nD j0/\(nD j0).q<=d.q/\j0<=72 /\
 Mu (λj=>qE (uy s x k p) (nD j) k (t:Int)) (λj=>(sx s x (nD j) p).isSome) j0 n1 n2 /\
 (∀ j,o=some j->ux s x k p=true/\I5 j0 n1 n2/\j=j0-n1-n2)/\(o=none->ux s x k p=true->¬I5 j0 n1 n2):=by
 obtain⟨j0,vR,GN,EC⟩:=Fa hd h0;have hj:=j72 EC hc;obtain⟨n1,n2,hL⟩:=aj9 (λj=>qE (uy s x k p) (nD j) k (t:Int)) (λj=>(sx s x (nD j) p).isSome) j0;have hM:=ad0 s x k p h hx hk il ic;by_cases hb:ux s x k p=true
 .rw [bk hb]at hM;have hN:=SM d hd h0;rw[vR]at hN;obtain⟨nP,hl⟩:=akk h hx hk il ic hb;have jQ:∀ n,n<=n1->(nD (j0-(n:Int))).ib:=λn hn=>by
   rcases n with _|n
   .rwa [(aE:j0-((0:Nat):Int)=j0)]
   .have:=(hL.a n aE).1;exact ri aE aE 
  have hA:∀ n:Nat,n<n1 -> -248<=j0-(n:Int)/\qE (uy s x k p) (nD (j0-(n:Int))) k (t:Int)=false:=λn hn=>hL.a n hn
  have hD:∀ m:Nat,m<n2 -> -248<=j0-(n1:Int)-m/\sx s x (nD (j0-(n1:Int)-m)) p=none:=λm hm=>by
   obtain⟨d1,d2⟩:=hL.d m hm;refine⟨d1,?_⟩;cases he:sx s x (nD (j0-(n1:Int)-m)) p with
   |none=>rfl
   |some b=>simp only[he]at d2;cases d2
  by_cases hB:j0-(n1:Int) < -248
  .have h2:n2=0:=by
    apply bT;intro q;have:=(hL.d 0 aE).1;omega
   exact⟨none,j0,n1,n2,adI s x d mth ord mst p t k h hx hd h0 hk ht il ic hO _ nP hl hM j0 hN hj n1 n2 jQ hA hB h2 hD,vR,EC,hj,hL,nofun,λ_ _ q=>by have:=q.2;omega⟩
  .have uQ:-248<=j0-(n1:Int):= aE ;have tn:=hL.b.resolve_left hB;have apU:=hL.c;by_cases NK:n2=40
   .exact ⟨none,j0,n1,n2,adF s x d mth ord mst p t k h hx hd h0 hk ht il ic hO _ nP hl hM j0 hN hj n1 n2 jQ hA uQ tn NK hD,vR,EC,hj,hL,nofun,λ_ _ q=>by have:=q.1;omega⟩
   by_cases hS:j0-(n1:Int)-n2 < -248
   .have Bp:-249<=j0-(n1:Int)-n2:=by
     by_cases q:n2=0
     .omega
     .have:=(hL.d (n2-1) aE).1;omega
    exact⟨none,j0,n1,n2,adK s x d mth ord mst p t k h hx hd h0 hk ht il ic hO _ nP hl hM j0 hN hj n1 n2 jQ hA uQ tn aE hS Bp hD,vR,EC,hj,hL,nofun,λ_ _ q=>by have:=q.2;omega⟩
   .have hE:=(hL.e.resolve_left NK).resolve_left hS;obtain⟨bx,jh⟩:=fF.1 hE;refine⟨some (j0-n1-n2),j0,n1,n2,adH s x d mth ord mst p t k h hx hd h0 hk ht il ic hO _ nP hl hM j0 hN hj n1 n2 jQ hA uQ tn aE aE bx jh hD,vR,EC,hj,hL,λj hjj=>?_,nofun⟩;cases hjj;exact⟨hb,⟨aE,aE⟩,rfl⟩
 .rw [bj hb]at hM;exact⟨none,j0,n1,n2,adJ s x d mth ord mst p t k h hx hd h0 hk ht il ic hO hM,vR,EC,hj,hL,nofun,λ_ q=>absurd q hb⟩
def aby(z:Iv)(p N:Nat)(x:Nat):PS:=⟨39,true,[(8,.e (iP ((2*x+3:Nat):Int))),(7,.box 7 0),(6,.box 6 0),(5,.box 5 0),(4,.box 4 0),(2,.box 2 0)],[(7,.cells 39 (iO (wi z p x))),(6,.cells 39 (iO (oG z p x))),(5,.cells 39 (iO (o9 z p))),(4,.cells 39 au),(2,.cells 272 [iP p])]⟩
def apm(z:Iv)(p N:Nat)(hz:z.ib)(il:8<=p)(ic:p<=512)(h2:N<=1000)(jm:∀ x,x<N->px (oG z p x) p=false)(hN:px (oG z p N) p=true):gV 348 [.agg [iP p],ij z] (ij (EY z p N)):=by
 have hsq:=LW hz (aE:1<=p) (aE:p<=4096);have t0:=y6 hz il ic N;have s0:=Dp hz il ic N;have r0:=D9 t0;have a0:=rU s0 r0 (aE:1<=p) (aE:p<=4096);exact ak call348 func348 (ae [ag [ij z,iP p] (Sn _ aF _ aE aE),.s (Sp.jc (aby z p N) 0 N aE (λx hx kW=>by
    have t0:=y6 hz il ic x;have s0:=Dp hz il ic x;have q0:(iH (oG z p x) (o9 z p) p).ib:=oL _ _ aE aE;have n1:(jv ((2*x+3:Nat):Int)).ib:=DB _ aE;have d1:(jt (iH (oG z p x) (o9 z p) p) (jv ((2*x+3:Nat):Int)) p).ib:=qS _ _ aE aE;exact iy (ae [.c (Mi p (oG z p x) aF aE aE),ai 17 (px (oG z p x) p) (jm x aE),.c (Mh p (oG z p x) (o9 z p) aF aF aE aE),.c (yz ((2*x+3:Nat):Int) aE),.c (IW p (iH (oG z p x) (o9 z p) p) (jv ((2*x+3:Nat):Int)) aF aF aE aE),.c (Ch p (wi z p x) (jt (iH (oG z p x) (o9 z p) p) (jv ((2*x+3:Nat):Int)) p) aF aF aE aE),iq (((2*x+3:Nat):Int)+2) aE]<|.e (af [.o 8 (aq (((2*x+3)+2:Nat):Int) ((2*(x+1)+3:Nat):Int) aT),.b 7 (.iT rfl:Bx.le (.cells 39 (iO (jS (wi z p x) (jt (iH (oG z p x) (o9 z p) p) (jv ((2*x+3:Nat):Int)) p) p))) (.cells 39 (iO (wi z p (x+1))))),.b 6 (.iT rfl:Bx.le (.cells 39 (iO (iH (oG z p x) (o9 z p) p))) (.cells 39 (iO (oG z p (x+1)))))])) aI)
  (λhx=>by
    have t0:=y6 hz il ic N;have s0:=Dp hz il ic N;have q0:(iH (oG z p N) (o9 z p) p).ib:=oL _ _ aE aE;have n1:(jv ((2*N+3:Nat):Int)).ib:=DB _ aE;have d1:(jt (iH (oG z p N) (o9 z p) p) (jv ((2*N+3:Nat):Int)) p).ib:=qS _ _ aE aE;exact iy (af [.c (Mi p (oG z p N) aF aE aE),ah 17 (px (oG z p N) p) hN]) aI) aM:jb 4 f348 (aby z p N 0) (.exit 0) ⟨39,true,[(7,.box 7 0),(6,.box 6 0),(4,.box 4 0),(2,.box 2 0)],[(7,.cells 39 (iO (wi z p N))),(6,.cells 39 (iO (oG z p N))),(4,.cells 39 au),(2,.cells 272 [iP p])]⟩) (af [.o 8 (aq 3 ((2*0+3:Nat):Int) aT),.b 7 (.iT rfl:Bx.le (.cells 39 (iO z)) (.cells 39 (iO (wi z p 0)))),.b 6 (.iT rfl:Bx.le (.cells 39 (iO z)) (.cells 39 (iO (oG z p 0))))]),ag [ij (oG z p N)] (abF _ aF),.c (Ch p (wi z p N) (rV (oG z p N)) aF aF aE aE),.c (Jm (jS (wi z p N) (rV (oG z p N)) p) aF 1 aE aE)]<|rR (ij (EY z p N)) (.refl _:E.le (ij (mr (jS (wi z p N) (rV (oG z p N)) p) 1)) (ij (EY z p N)))) 
def D2(f:Nat->Rat)(X:Iv):Prop:=∃ N0,∀ M,N0<=M->X.jZ (f M)
def D2.mono{f:Nat->Rat}{X Y:Iv}(h:D2 f X)(k:∀ r,X.jZ r->Y.jZ r):D2 f Y:=h.imp λ_ h M hM=>k _ (h M hM)
def abz{z:Iv}(hz:z.ib)(hb:z.all=true\/Sub z (qb (-1))){p:Nat}(il:8<=p)(ic:p<=512):∃ Z,Z.ib/\(∀ r,z.jZ r->iZ r*2<=1->D2 (λM=>AQ r M*2) Z)/\gV 348 [.agg [iP p],ij z] (ij Z):=by
 obtain⟨N,h1,h2,h3⟩:=ajL hz hb il ic;exact⟨EY z p N,ajK hz il ic N,λr hr ha=>⟨N,λM hM=>ajJ hz hr ha il ic h1 M hM⟩,apm z p N hz il ic h1 h2 h3⟩
def aoJ{p:Nat}(il:8<=p)(ic:p<=512):(jt (jv 1) (jv 3) p).ib/\(jt (jv 1) (jv 3) p).jZ (1/3)/\Sub (jt (jv 1) (jv 3) p) (qb (-1)):=by
 have v1:(jv 1).ib:=xj aG;have v3:(jv 3).ib:=xj aG;have h1:=Az 1;have h3:=Az 3;refine⟨qS _ _ aE aE,?_,?_⟩
 .have:=JM v1 v3 (p:=p) aE aE h1 h3;rwa[show((1:Int):Rat)/((3:Int):Rat)=1/3 from rfl]at this
 .have hs:nV (jv 3)≠0:=Q1 rfl (.inl (by show 0<(ja 3).q;rw[BZ];decide));refine FZ (JL v1 v3 rfl hs (p:=p) aE aE) aE aG aG ?_;rintro r ⟨a,b,ha,hb,rfl⟩;obtain⟨a1,a2⟩:=ha.ko rfl;obtain⟨b1,b2⟩:=hb.ko rfl;change (ja 1).q<=a at a1;change a<=(ja 1).q at a2;change (ja 3).q<=b at b1;change b<=(ja 3).q at b2;rw[BZ]at a1 a2 b1 b2;have ea:a=1:=fg a2 a1;have eb:b=3:=fg b2 b1;subst ea eb;have:P2 (-1)=1/2:= aQ ;rw[this];exact⟨aQ,aQ⟩
def apD(p:Nat)(Z:Iv)(hZ:Z.ib)(hL:gV 348 [.agg [iP (((min (p+16) 512):Nat):Int)],ij (jt (jv 1) (jv 3) (min (p+16) 512))] (ij Z))(il:8<=p)(ic:p<=512):gV 350 [iP p] (ij (mq Z p)):=by
 have v1:(jv 1).ib:=xj aG;have v3:(jv 3).ib:=xj aG;exact ak call350 func350 (af [tF 5 ((p:Int)<8) aE,tF 8 (512<(p:Int)) aE,.c (Ru p 16 aE aE),.c (yz 1 aE),.c (yz 3 aE),.c (IW (min (p+16) 512) (jv 1) (jv 3) aF aF aE aE),ag [.agg [iP ((min (p+16) 512:Nat):Int)],ij (jt (jv 1) (jv 3) (min (p+16) 512))] hL,.c (FX Z aF p aE aE)]) 
def apC{p:Nat}(il:8<=p)(ic:p<=512):∃ Z,Z.ib/\D2 (λM=>AQ (1/3) M*2) Z/\gV 350 [iP (p:Int)] (ij Z):=by
 obtain⟨t1,t2,t3⟩:=aoJ (p:=min (p+16) 512) aE aE;obtain⟨Z,h1,h2,h3⟩:=abz t1 (.inr t3) (p:=min (p+16) 512) aE aE;refine⟨mq Z p,Fx h1 aE aE,(h2 _ t2 aQ).mono λr hr=>Ix h1 aE aE hr,apD p Z h1 h3 il ic⟩
def zE:Iv:=⟨iA,iA,false⟩
def abJ:E.le (.agg au) (ij zE):=
 .agg (.cons (.refl _) (.cons DA (.cons (.refl _) (.cons (.refl _) (.cons DA (.cons (.refl _) (.cons (.refl _) .nil)))))))
def apJ(d:Dy)(p:Nat)(hd:d.ib)(h1:iL d ⟨false,1,0⟩=0)(il:8<=p)(ic:p<=512):gV 331 [gZ d,iP p] (ij zE):=by
 have v1:=Fg;exact ak call331 func331 (ae [ag [iP 1] MI,ag [gZ d,gZ (Dy.mk false 1 0)] (lp _ _ aF aF),ah 12 ((iL d (Dy.mk false 1 0))==0) (by rw[h1];rfl)]<|rR (ij zE) (abJ:E.le (.agg au) (ij zE))) 
def apK(d:Dy)(p:Nat)(Z Y:Iv)(hd:d.ib)(h1:¬iL d ⟨false,1,0⟩=0)(Wm:-20000<=d.im)(tE:d.im<=20000)(hZ:Z.ib)(hY:Y.ib)(hL:gV 348 [.agg [iP (((min (p+40) 512):Nat):Int)],ij (jt (jS (mr (mq (mJ d) (min (p+40) 512)) (0-(Dy.im d))) (jv (-1)) (min (p+40) 512)) (jS (mr (mq (mJ d) (min (p+40) 512)) (0-(Dy.im d))) (jv 1) (min (p+40) 512)) (min (p+40) 512))] (ij Z))(hL2:gV 350 [iP (((min (p+40) 512):Nat):Int)] (ij Y))(il:8<=p)(ic:p<=512):gV 331 [gZ d,iP p] (ij (mq (jS Z (iH (jv d.im) Y (min (p+40) 512)) (min (p+40) 512)) p)):=by
 have v1:=Fg;have vp:=wA hd;have vr:(mq (mJ d) (min (p+40) 512)).ib:=Fx vp aE aE;have vs:(mr (mq (mJ d) (min (p+40) 512)) (0-(Dy.im d))).ib:=IC vr _;have n1:(jv 1).ib:=xj aG;have n2:(jv (-1)).ib:=xj aG;have a1:(jS (mr (mq (mJ d) (min (p+40) 512)) (0-(Dy.im d))) (jv (-1)) (min (p+40) 512)).ib:=rU vs n2 aE aE;have a2:(jS (mr (mq (mJ d) (min (p+40) 512)) (0-(Dy.im d))) (jv 1) (min (p+40) 512)).ib:=rU vs n1 aE aE;have a3:(jt (jS (mr (mq (mJ d) (min (p+40) 512)) (0-(Dy.im d))) (jv (-1)) (min (p+40) 512)) (jS (mr (mq (mJ d) (min (p+40) 512)) (0-(Dy.im d))) (jv 1) (min (p+40) 512)) (min (p+40) 512)).ib:=qS _ _ aE aE;have nt:(jv d.im).ib:=xj aE;have m1:(iH (jv d.im) Y (min (p+40) 512)).ib:=oL _ _ aE aE;have m2:(jS Z (iH (jv d.im) Y (min (p+40) 512)) (min (p+40) 512)).ib:=rU hZ m1 aE aE;exact ak call331 func331 (af [ag [iP 1] MI,ag [gZ d,gZ (Dy.mk false 1 0)] (lp _ _ aF aF),ai 12 ((iL d (Dy.mk false 1 0))==0) (by simpa using h1),.c (Ru p 40 aE aE),ag [gZ d] (mW _ aF),.c (BL d aF),.c (FX (mJ d) aF (min (p+40) 512) aE aE),
  iq (0-(Dy.im d)) aE,.c (Jm (mq (mJ d) (min (p+40) 512)) aF (0-(Dy.im d)) aE aE),.c (yz (-1) aE),.c (Ch (min (p+40) 512) (mr (mq (mJ d) (min (p+40) 512)) (0-(Dy.im d))) (jv (-1)) aF aF aE aE),.c (yz 1 aE),.c (Ch (min (p+40) 512) (mr (mq (mJ d) (min (p+40) 512)) (0-(Dy.im d))) (jv 1) aF aF aE aE),.c (IW (min (p+40) 512) (jS (mr (mq (mJ d) (min (p+40) 512)) (0-(Dy.im d))) (jv (-1)) (min (p+40) 512)) (jS (mr (mq (mJ d) (min (p+40) 512)) (0-(Dy.im d))) (jv 1) (min (p+40) 512)) aF aF aE aE),ag [.agg [iP ((min (p+40) 512:Nat):Int)],ij (jt (jS (mr (mq (mJ d) (min (p+40) 512)) (0-(Dy.im d))) (jv (-1)) (min (p+40) 512)) (jS (mr (mq (mJ d) (min (p+40) 512)) (0-(Dy.im d))) (jv 1) (min (p+40) 512)) (min (p+40) 512))] hL,.c (yz (Dy.im d) aE),ag [iP ((min (p+40) 512:Nat):Int)] hL2,.c (Mh (min (p+40) 512) (jv (Dy.im d)) Y aF aF aE aE),.c (Ch (min (p+40) 512) Z (iH (jv (Dy.im d)) Y (min (p+40) 512)) aF aF aE aE),.c (FX (jS Z (iH (jv (Dy.im d)) Y (min (p+40) 512)) (min (p+40) 512)) aF p aE aE)]) 
def abH{d:Dy}(hd:d.ib)(hq:0<d.q){p:Nat}(il:8<=p)(ic:p<=512):∃ Z,Z.ib/\D2 (LQ d) Z/\gV 331 [gZ d,iP (p:Int)] (ij Z):=by
 by_cases h1:iL d ⟨false,1,0⟩=0
 .refine ⟨zE,.inr ⟨rfl,su,su,Dm _⟩,⟨0,λM _=>?_⟩,apJ d p hd h1 il ic⟩;have e:d=⟨false,1,0⟩:=by
   refine alN hd.canon Fg.canon (fg ((oY _ _).1 aE) ((oY _ _).1 ?_));rw[Ba];have:=Ba d ⟨false,1,0⟩;omega
  rw[e,abV];exact .inr ⟨by show iA.q<=0;rw[uD];exact cg,by show 0<=iA.q;rw[uD];exact cg⟩
 .have hm:=Fk hq;obtain⟨t1,t2⟩:=abg hd hm;obtain⟨P,hP⟩:∃ P,P=min (p+40) 512:=⟨_,rfl⟩
  have p1:8<=P:= aE ;have p2:P<=512:= aE ;obtain⟨z1,z2,z3⟩:=aj8 hd hq p1 p2;obtain⟨Z,a1,a2,a3⟩:=abz z1 z3 p1 p2;obtain⟨Y,b1,b2,b3⟩:=apC p1 p2;have m1:(iH (jv d.im) Y P).ib:=oL _ _ aE aE;have m2:=rU a1 m1 (p:=P) aE aE;refine⟨mq (jS Z (iH (jv d.im) Y P) P) p,Fx m2 aE aE,?_,?_⟩
  .have hz:=Ry hq;have ha:iZ (AT d)*2<=1:=by
    have:=yE (x:=AT d) (b:=1/3) aP aP 
    grind
   obtain⟨N1,c1⟩:=a2 _ z2 ha;obtain⟨N2,c2⟩:=b2;refine⟨max N1 N2,λM hM=>Ix m2 aE aE ?_⟩;exact Ck a1 m1 aE aE (c1 M aE) (PG (xj aE) b1 aE aE (Az d.im) (c2 M aE))
  .subst hP;have e:E3 d (min (p+40) 512)=jt (jS (mr (mq (mJ d) (min (p+40) 512)) (0-(Dy.im d))) (jv (-1)) (min (p+40) 512)) (jS (mr (mq (mJ d) (min (p+40) 512)) (0-(Dy.im d))) (jv 1) (min (p+40) 512)) (min (p+40) 512):=by unfold E3 vc;rw[(aE:-d.im=0-d.im)]
   rw[e]at a3;exact apK d p Z Y hd h1 aE aE a1 b1 a3 b3 il ic
def apE(x:Iv)(p:Nat)(hx:x.ib)(il:8<=p)(ic:p<=512)(xa:x.all=true):gV 314 [ij x,iP p] (ij gY):=
 ak call314 func314 (af [.c (D1 x p aF aE aE),ai 7 (!x.all) (by rw[xa];rfl),.c nZ]) 
def apH(x:Iv)(p:Nat)(hx:x.ib)(il:8<=p)(ic:p<=512)(xa:x.all=false)(h1:x.lo.iI<=0):gV 314 [ij x,iP p] (ij gY):=by
 obtain⟨w1,w2⟩:=hx.ko;exact ak call314 func314 (af [.c (D1 x p aF aE aE),ah 7 (!x.all) (by rw[xa];rfl),ag [gZ x.lo] (nA _ aF),tB 13 (bn h1),.c nZ]) 
def apG(x:Iv)(p:Nat)(hx:x.ib)(il:8<=p)(ic:p<=512)(xa:x.all=false)(h1:¬x.lo.iI<=0)(Z1 Z2:Iv)(z1:Z1.ib)(z2:Z2.ib)(k1:gV 331 [gZ x.lo,iP (p:Int)] (ij Z1))(k2:gV 331 [gZ x.hi,iP (p:Int)] (ij Z2)):gV 314 [ij x,iP p] (ij (vD Z1 Z2)):=by
 obtain⟨w1,w2⟩:=hx.ko;exact ak call314 func314 (af [.c (D1 x p aF aE aE),ah 7 (!x.all) (by rw[xa];rfl),ag [gZ x.lo] (nA _ aF),tB 13 (bt h1),ag [gZ x.lo,iP p] k1,ag [gZ x.hi,iP p] k2,.c (abG Z1 Z2 aF aF)]) 
def apF{x:Iv}(hx:x.ib){p:Nat}(il:8<=p)(ic:p<=512):∃ Z,Z.ib/\gV 314 [ij x,iP (p:Int)] (ij Z):=by
 cases xa:x.all with
 |true=>exact⟨gY,mg,apE x p hx il ic xa⟩
 |false=>
  by_cases h1:x.lo.iI<=0
  .exact ⟨gY,mg,apH x p hx il ic xa h1⟩
  .obtain ⟨w1,w2⟩:=hx.ko;have q1:0<x.lo.q:=(sI _).1.1 aE;have q2:0<x.hi.q:=by have:=hx.q;grind
   obtain⟨Z1,z1,⟨N1,l1⟩,k1⟩:=abH w1 q1 il ic;obtain⟨Z2,z2,⟨N2,l2⟩,k2⟩:=abH w2 q2 il ic;refine⟨vD Z1 Z2,Uj z1 z2 λa b=>?_,apG x p hx il ic xa h1 Z1 Z2 z1 z2 k1 k2⟩;have e1:=((l1 (max N1 N2) aE).ko a).1;have e2:=((l2 (max N1 N2) aE).ko b).2;have e3:=abU q1 hx.q (max N1 N2);exact bQ e1 (bQ e3 e2)
def wh(a s:Nat):Prop:=s*s<=a/\a<(s+1)*(s+1)
def ZO(a:Nat):∃ s,wh a s:=by
 induction a with
 |zero=>exact⟨0,aG,aG⟩
 |succ a ih=>
  obtain⟨s,h1,h2⟩:=ih;by_cases h:(s+1)*(s+1)<=a+1
  .refine ⟨s+1,h,?_⟩;have:(s+1+1)*(s+1+1)=(s+1)*(s+1)+2*(s+1)+1:=by
    simp only[b8,bU,b9,ck];omega
   omega
  .exact ⟨s,aE,aE⟩
def amS{a s t:Nat}(h:wh a s)(ht:t*t<=a):t<=s:=by
 apply bT;intro iC;have:=dr (aE:s+1<=t) (aE:s+1<=t);have:=h.2;omega
def pV(a x:Nat):Nat:=(x+a/x)/2
def akX{a s x:Nat}(h:wh a s)(hx:0<x):s<=pV a x:=by
 unfold pV;apply bT;intro iC;have h1:x+a/x<2*s:=by generalize a/x=q at *;omega
 have h2:a<(a/x+1)*x:=by
  have:=cN a x;have:=bM a hx;rw[b8,b9,bL (a/x)];omega
 have hq:a/x+1<=2*s-x/\x<=2*s:=by
  generalize a/x=q at *
  omega
 have h3:(a/x+1)*x<=(2*s-x)*x:=bW x hq.1;have aqb:=hq.2;have h4:(2*s-x)*x<=s*s:=by
  obtain⟨k,hk⟩:∃ k,2*s=x+k:=⟨2*s-x,by clear h1 h2 h3 iC hq;omega⟩
  rw[show 2*s-x=k by clear h1 h2 h3 iC hq;omega];clear h1 h2 h3 iC hq;rcases Nat.le_total x s with qf|qf
  .obtain ⟨e,rfl⟩:∃ e,s=x+e:=⟨s-x,aE⟩
   obtain rfl:k=x+2*e:= aE ;simp only[b8,bU,bL x e,bH];have:0<=e*e:=bS _;have e1:e*(2*x)=2*(e*x):=dK e 2 x;omega
  .obtain ⟨e,rfl⟩:∃ e,x=s+e:=⟨x-s,aE⟩
   obtain⟨f,hf⟩:∃ f,s=k+f:=⟨s-k,aE⟩
   obtain rfl:f=e:= aE ;subst hf;simp only[b8,bU,bL f k];have:0<=f*f:=bS _;omega
 have:=h.1;omega
def akW{a s x:Nat}(h:wh a s)(hx:0<x)(hs:s<=x)(hy:x<=pV a x):x=s:=by
 have h1:x<=a/x:=by unfold pV at hy;omega
 have h2:x*x<=a:=(cW hx).1 h1;have:=amS h h2;omega
def kN(a x:Nat):Nat->Nat
 | 0=>x
 |k+1=>pV a (kN a x k)
def amT(a:Nat){s:Nat}(h:wh a s):s<=2^((ie a+1)/2):=by
 apply bT;intro iC;have h1:(2^((ie a+1)/2))*(2^((ie a+1)/2))<=s*s:=dr aE aE;rw[<-bB]at h1;have h2:=qw a;have h3:2^ie a<=2^((ie a+1)/2+(ie a+1)/2):=bR aG aE;have:=h.1;omega
def amR{a x s:Nat}(h:wh a s)(ha:0<a)(hx:s<=x):∃ N,N<=x/\(∀ k,k<N->pV a (kN a x k)<kN a x k)/\kN a x N<=pV a (kN a x N)/\kN a x N=s/\∀ k,k<=N->s<=kN a x k/\kN a x k<=x:=by
 have hs:0<s:=by
  apply bT;intro h0;obtain rfl:s=0:= aE ;have:=h.2;omega
 have s5:∀ k,s<=kN a x k:=λk=>by
  induction k with
  |zero=>exact hx
  |succ k ih=>exact akX h aE 
 have hex:∃ k,k<x+1/\decide (kN a x k<=pV a (kN a x k))=true:=by
  apply bT;intro hc;have hd:∀ k,k<x+1->pV a (kN a x k)<kN a x k:=λk hk=>by
   apply bT;intro q;exact hc ⟨k,hk,bn aE⟩
  have hb:∀ k,k<=x+1->kN a x k+k<=x:=by
   intro k hk
   induction k with
   |zero=>exact bu _
   |succ k ih=>
    have:=ih aE;have:=hd k aE;show pV a (kN a x k)+(k+1)<=x;omega
  have:=hb (x+1) (bu _);omega
 obtain⟨N,n1,n2,n3⟩:=tI hex;have n2':=cT n2;have iC:∀ k,k<N->pV a (kN a x k)<kN a x k:=λk hk=>by
  have:=gy (n3 k hk);omega
 have hle:∀ k,k<=N->kN a x k<=x:=by
  intro k hk
  induction k with
  |zero=>exact bu _
  |succ k ih=>
   have:=ih aE;have:=iC k aE;show pV a (kN a x k)<=x;omega
 have e:=akW h (by have:=s5 N;omega) (s5 N) n2';exact⟨N,aE,iC,n2',e,λk hk=>⟨s5 k,hle k hk⟩⟩
def wE(m s:Nat)(e:Int)(p:Nat)(up:Bool):Dy:=kn false s e (decide (s*s≠m)) p up
def AK(m s:Nat)(e:Int)(p:Nat)(up:Bool):Int:=jY false s e (decide (s*s≠m)) p up
def an4{m s:Nat}{e:Int}{p:Nat}(h:wh m s)(hb:p<ie s)(hp:1<=p)(ic:p<=4096)(he:AK m s e p false=0):0<=(wE m s e p false).q/\(wE m s e p false).q<=(s:Rat)*P2 e:=by
 unfold wE AK at *
 by_cases hx:s*s=m
 .rw [bt aE]at he ⊢;have A:=F7 false s e hp ic;rw[qy]at A;simp only[bK,bC]at A;exact⟨(A.2 0 (.inl (AU p)) (b6 cV (bN (mF e)))).2,(A.1 he).2⟩
 .rw [bn aE]at he ⊢;obtain⟨h1,h2⟩:=Ek e hb false false;rw[h1];rw[h2]at he;have A:=F7 false (2*s+1) (e-1) hp ic;rw[qy]at A;simp only[bK,bC]at A;have h0:=(A.2 0 (.inl (AU p)) (b6 cV (bN (mF (e-1))))).2;obtain⟨g,hl⟩:=A.1 he;refine⟨h0,?_⟩;rcases NF (e:=e) hb (g.pos h0)with k|k
  .exact k
  .exfalso;have ee:P2 e=P2 (e-1)*2:=by
    have:=oP (e-1) 1;rw[(aE:e-1+1=e),show P2 1=2 by decide +kernel]at this;exact this
   have xS:=mF (e-1);have c1:((2*s+1:Nat):Rat)=2*(s:Rat)+1:=by rw[ek,dg];rfl
   have c2:((s+1:Nat):Rat)=(s:Rat)+1:=by rw[ek];rfl
   rw[c1]at hl;rw[c2,ee]at k
   grind
def an3{m s:Nat}{e:Int}{p:Nat}(h:wh m s)(hb:p<ie s)(hp:1<=p)(ic:p<=4096)(he:AK m s e p true=0):0<=(wE m s e p true).q/\(m:Rat)*(P2 e*P2 e)<=(wE m s e p true).q*(wE m s e p true).q:=by
 have xS:=mF e;have s0:(0:Rat)<=(s:Rat):=cV;have key:∀ D:Rat,(s:Rat)*P2 e<=D->(s*s≠m->((s+1:Nat):Rat)*P2 e<=D)->0<=D/\(m:Rat)*(P2 e*P2 e)<=D*D:=by
  intro D h1 h2;have d0:0<=D:=bQ (b6 s0 (bN xS)) h1;refine⟨d0,?_⟩;have sq:∀ t:Nat,m<=t*t->(t:Rat)*P2 e<=D->(m:Rat)*(P2 e*P2 e)<=D*D:=by
   intro t ht hD;have t0:(0:Rat)<=(t:Rat):=cV;have c:(m:Rat)<=(t:Rat)*(t:Rat):=by
    have:=dF.2 ht;rwa[dg]at this
   have m1:=ct c (b6 (bN xS) (bN xS));have m2:=ct hD (b6 t0 (bN xS));have m3:=cJ hD d0;generalize (t:Rat)=T at *
   generalize P2 e=P at *
   have e1:T*T*(P*P)=T*P*(T*P):= aP 
   grind
  by_cases hx:s*s=m
  .exact sq s aE h1
  .exact sq (s+1) (by have:=h.2;omega) (h2 hx)
 unfold wE AK at *
 by_cases hx:s*s=m
 .rw [bt aE]at he ⊢;have A:=F8 false s e hp ic;rw[qy]at A;simp only[bK,bC]at A;exact key _ (A.1 he).2 (λq=>absurd hx q)
 .rw [bn aE]at he ⊢;obtain⟨h1,h2⟩:=Ek e hb false true;rw[h1];rw[h2]at he;have A:=F8 false (2*s+1) (e-1) hp ic;rw[qy]at A;simp only[bK,bC]at A;obtain⟨g,hl⟩:=A.1 he;have ee:P2 e=P2 (e-1)*2:=by
   have:=oP (e-1) 1;rw[(aE:e-1+1=e),show P2 1=2 by decide +kernel]at this;exact this
  have il:=mF (e-1);have c1:((2*s+1:Nat):Rat)=2*(s:Rat)+1:=by rw[ek,dg];rfl
  rw[c1]at hl;have h0:0<=(kn false (2*s+1) (e-1) false p true).q:=bQ (b6 aP (bN il)) hl;have iC:(s:Rat)*P2 e<(kn false (2*s+1) (e-1) false p true).q:=by rw[ee];grind
  refine key _ (bN iC) λ_=>?_
  rcases NF (e:=e) hb (g.pos h0)with k|k
  .exact absurd iC (dB.2 k)
  .exact k
def an5{a b:Rat}(ha:0<=a)(hb:0<=b)(h:a*a<=b*b):a<=b:=by
 apply dB.1;intro iC;have m1:=cJ (bN iC) hb;have m2:=dG iC (show 0<a by grind)
 grind
def an6{m s n t:Nat}{e f:Int}{p:Nat}(h:wh m s)(k:wh n t)(hb:p<ie s)(kb:p<ie t)(hp:1<=p)(ic:p<=4096)(hle:(m:Rat)*(P2 e*P2 e)<=(n:Rat)*(P2 f*P2 f)):
 (mj (wE m s e p false) (AK m s e p false) (wE n t f p true) (AK n t f p true)).ib:=by
 unfold mj;split
 .exact mg
 .rename_i he;obtain⟨a0,a1⟩:=an4 (e:=e) h hb hp ic aE;obtain⟨b0,b1⟩:=an3 (e:=f) k kb hp ic aE;refine .inr ⟨rfl,ua _ _ _ _ _ _ hp ic,ua _ _ _ _ _ _ hp ic,?_⟩;rw[oY];refine an5 a0 b0 ?_;have s0:(0:Rat)<=(s:Rat):=cV;have xS:=mF e;have m1:=cJ a1 a0;have m2:=ct a1 (b6 s0 (bN xS));have c:(s:Rat)*(s:Rat)<=(m:Rat):=by
   have:=dF.2 h.1;rwa[dg]at this
  have m3:=ct c (b6 (bN xS) (bN xS));generalize (wE m s e p false).q=A at *
  generalize (s:Rat)=S at *
  generalize P2 e=P at *
  have e1:S*S*(P*P)=S*P*(S*P):= aP 
  grind
def Yt(m N:Nat)(x:Nat):PS:=⟨43,true,[(5,.e (ia (gW (kN m (2^((ie m+1)/2)) x)))),(0,.e (ia (gW m)))],[]⟩
def Yj(L M:List Nat)(hL:iK L)(hM:iK M)(h1:L.length<=3000)(h2:M.length<=3000):∃ S:List Nat,gV 262 [ia L,ia M] (ia S)/\val S=val L+val M/\iK S/\S.length=max L.length M.length+1:=by
 obtain⟨n,hn⟩:∃ n,n=max L.length M.length+1:=⟨_,rfl⟩
 have iC:val L+val M<4294967296^n:=by
  have a:=oE hL;have b:=oE hM;have e:4294967296^n=4294967296^max L.length M.length*4294967296:=by rw[hn,bI]
  have c:=bR (show 0<4294967296 by decide) (Nat.le_max_left L.length M.length);have d:=bR (show 0<4294967296 by decide) (Nat.le_max_right L.length M.length);omega
 refine⟨pz (val L+val M) n,?_,by rw[IT,ca iC],Ga _ _,by rw[Bc,hn]⟩;refine BW hL hM call262 (λA c B d w h k _=>Yv A B c d L M w h k h1 h2) λB w e w' hB r=>?_
 obtain⟨S,v1,v2,v3,r⟩:=r;rw[Na v2 (by rw[v3,hn]) v1];exact rl B w e w' hB r
def akL(L:List Nat)(n:Nat)(hL:iK L)(h1:L.length<=3000)(hn:n<=65536):∃ S:List Nat,gV 293 [ia L,iP (n:Int)] (ia S)/\val S=val L*2^n/\iK S:=by
 obtain⟨m,hm⟩:∃ m,m=n/32+(iG L).length+1:=⟨_,rfl⟩
 have iC:val L*2^n<4294967296^m:=by
  have a:=oE hL.iG;rw[qA]at a;have e:4294967296^m=4294967296^(iG L).length*2^(32*(n/32+1)):=by
   rw[hm,(aE:n/32+(iG L).length+1=(iG L).length+(n/32+1)),bB,Nat.pow_mul]
  rw[e];exact Nat.mul_lt_mul_of_lt_of_le a (bR aG aE) (bD aG)
 refine⟨pz (val L*2^n) m,?_,by rw[IT,ca iC],Ga _ _⟩;refine Ik hL call293 (λA c w h _=>Yw A c L n w h aE hn) λA c B w e w' h hB r=>?_
 obtain⟨S,v1,v2,v3,r⟩:=r;rw[Na v2 (by rw[v3,hm]) v1];exact rl B w e w' hB r
def AI(L:List Nat):List Nat:=rk (1%32) ((iG L).drop (1/32))
def Yr(L:List Nat)(hL:iK L)(h1:L.length<=3000):gV 232 [ia L,iP 1] (ia (AI L)):=
 Ik (n:=((1:Nat):Int)) hL call232 (λA c w h _=>PW A c L 1 w h aE aG) λA c B w e w' h hB r=>rl B w e w' hB r
def aaC{L:List Nat}(hL:iK L):iG (AI L)=gW (val L/2):=by
 unfold AI;rw[rO (BU _ _),Me hL.iG,qA]
def YF(m x:Nat):pV m x<=max x (m/x):=by
 unfold pV;generalize m/x=q;omega
def XB(a b:Nat):(gW (max a b)).length<=max (gW a).length (gW b).length:=by
 rcases Nat.le_total a b with h|h
 .rw [Nat.max_eq_right h];omega
 .rw [Nat.max_eq_left h];omega
def akH(m:Nat)(h:(gW m).length<=256):gV 231 [ia (gW m)] (.iw [ia (gW m),iP 0]):=by
 have:=Yl (gW m) (ml m) (by rw[uI];exact h);rwa[uI]at this
def akN(m N:Nat)(h1:(gW m).length<=256)(h0:m≠0)(pJ:∀ k,k<N->pV m (kN m (2^((ie m+1)/2)) k)<(kN m (2^((ie m+1)/2)) k))(qd:(kN m (2^((ie m+1)/2)) N)<=pV m (kN m (2^((ie m+1)/2)) N))(lO:∀ k,k<=N->0<(kN m (2^((ie m+1)/2)) k)/\(kN m (2^((ie m+1)/2)) k)<=(2^((ie m+1)/2))):gV 387 [ia (gW m)] (.iw [ia (gW (kN m (2^((ie m+1)/2)) N)),iP 0]):=by
 have bm:=ny h0;have bl:=zL h1;have z0:(gW (2^((ie m+1)/2))).length<=256:=oX (by rw[show(2^((ie m+1)/2))=1*2^((ie m+1)/2)by omega,qC aG];show 1+_<=_;omega);have hlen:∀ k,k<=N->(gW (kN m (2^((ie m+1)/2)) k)).length<=256:=λk hk=>bA (mO (lO k hk).2) z0
 obtain⟨S0,CK,sv,oS0⟩:=akL (gW 1) ((ie m+1)/2) (ml 1) aQ aE;rw[kq,b9]at sv;have hS0:gV 263 [ia S0] (ia (gW (2^((ie m+1)/2)))):=by
  have:=vh S0 oS0;rwa[rO oS0,sv]at this
 have zN:=hlen N aE;exact ak call387 func387 (af [.c (akI (gW m) aF),ag [ia (gW m)] (tf _ aE),ai 15 ((ie m:Int)==0) (ni aE),.o 16 (.e yi:aj (.sl false 1 1 λi_ j_=>[.v (.int .u32 1)].getD (i_*1+j_) (.v (.bool false))) (ia (gW 1))),iq ((ie m:Int)+1) aE,.a (aE:0<(2:Int)),
  iq (((ie m)+1:Nat):Int) aE,ag [ia (gW 1),iP ((((ie m)+1)/2:Nat):Int)] CK,ag [ia S0] hS0,.s (Sp.jc (Yt m N) 0 N aE (λx hx kW=>by
    obtain⟨xl,xu⟩:=lO x aE;obtain⟨Tq,Sq,GG,dT,dS,oT,oS,lT,lS⟩:=PQ (gW m) (gW (kN m (2^((ie m+1)/2)) x)) (ml m) (ml _) aE (by have:=hlen x aE;omega) (by rw[kq];omega);rw[kq,kq]at dT;have zx:=hlen x aE;have N4:gV 263 [ia Tq] (ia (gW (m/(kN m (2^((ie m+1)/2)) x)))):=by
     have:=vh Tq oT;rwa[rO oT,dT]at this
    have zt:(gW (m/(kN m (2^((ie m+1)/2)) x))).length<=257:=bA (mO (b7 _ _)) aE;obtain⟨Uq,hU,uv,oU,lU⟩:=Yj (gW (kN m (2^((ie m+1)/2)) x)) (gW (m/(kN m (2^((ie m+1)/2)) x))) (ml _) (ml _) aE aE;rw[kq,kq]at uv;have hV:=Yr Uq oU aE;have Ev:gV 263 [ia (AI Uq)] (ia (gW (pV m (kN m (2^((ie m+1)/2)) x)))):=by
     have:=vh (AI Uq) (BU _ _);rwa[aaC oU,uv]at this
    have zn:(gW (pV m (kN m (2^((ie m+1)/2)) x))).length<=257:=bA (mO (YF m (kN m (2^((ie m+1)/2)) x))) (by have:=XB (kN m (2^((ie m+1)/2)) x) (m/(kN m (2^((ie m+1)/2)) x));omega);exact iy (ae [ag [ia (gW m),ia (gW (kN m (2^((ie m+1)/2)) x))] GG,ag [ia Tq] N4,ag [ia (gW (kN m (2^((ie m+1)/2)) x)),ia (gW (m/(kN m (2^((ie m+1)/2)) x)))] hU,ag [ia Uq,iP 1] hV,ag [ia (AI Uq)] Ev,ag [ia (gW (pV m (kN m (2^((ie m+1)/2)) x))),ia (gW (kN m (2^((ie m+1)/2)) x))] (y9 _ _ aE aE),tF 37 (0<=(kI (pV m (kN m (2^((ie m+1)/2)) x)) (kN m (2^((ie m+1)/2)) x))) (by have:=pJ x aE;have:=Ej.2 this;omega)]<|.e (af [.o 5 (.e (.iT rfl):aj (ia (gW (pV m (kN m (2^((ie m+1)/2)) x)))) (ia (gW (kN m (2^((ie m+1)/2)) (x+1)))))])) aI)
  (λhx=>by
    obtain⟨xl,xu⟩:=lO N aE;obtain⟨Tq,Sq,GG,dT,dS,oT,oS,lT,lS⟩:=PQ (gW m) (gW (kN m (2^((ie m+1)/2)) N)) (ml m) (ml _) aE (by have:=hlen N aE;omega) (by rw[kq];omega);rw[kq,kq]at dT;have zx:=hlen N aE;have N4:gV 263 [ia Tq] (ia (gW (m/(kN m (2^((ie m+1)/2)) N)))):=by
     have:=vh Tq oT;rwa[rO oT,dT]at this
    have zt:(gW (m/(kN m (2^((ie m+1)/2)) N))).length<=257:=bA (mO (b7 _ _)) aE;obtain⟨Uq,hU,uv,oU,lU⟩:=Yj (gW (kN m (2^((ie m+1)/2)) N)) (gW (m/(kN m (2^((ie m+1)/2)) N))) (ml _) (ml _) aE aE;rw[kq,kq]at uv;have hV:=Yr Uq oU aE;have Ev:gV 263 [ia (AI Uq)] (ia (gW (pV m (kN m (2^((ie m+1)/2)) N)))):=by
     have:=vh (AI Uq) (BU _ _);rwa[aaC oU,uv]at this
    have zn:(gW (pV m (kN m (2^((ie m+1)/2)) N))).length<=257:=bA (mO (YF m (kN m (2^((ie m+1)/2)) N))) (by have:=XB (kN m (2^((ie m+1)/2)) N) (m/(kN m (2^((ie m+1)/2)) N));omega);exact iy (af [ag [ia (gW m),ia (gW (kN m (2^((ie m+1)/2)) N))] GG,ag [ia Tq] N4,ag [ia (gW (kN m (2^((ie m+1)/2)) N)),ia (gW (m/(kN m (2^((ie m+1)/2)) N)))] hU,ag [ia Uq,iP 1] hV,ag [ia (AI Uq)] Ev,ag [ia (gW (pV m (kN m (2^((ie m+1)/2)) N))),ia (gW (kN m (2^((ie m+1)/2)) N))] (y9 _ _ aE aE),tT 37 (0<=(kI (pV m (kN m (2^((ie m+1)/2)) N)) (kN m (2^((ie m+1)/2)) N))) (by have:=qd;have:¬kI (pV m (kN m (2^((ie m+1)/2)) N)) (kN m (2^((ie m+1)/2)) N)<0:=λq=>absurd (Ej.1 q) aE;omega),ag [ia (gW (kN m (2^((ie m+1)/2)) N))] (akH _ aE)]) aI) aM:jb 7 f387 (Yt m N 0) .ret ⟨43,true,[(3,.e (iP 0)),(2,.e (ia (gW (kN m (2^((ie m+1)/2)) N))))],[]⟩) (af [.o 5 (.e (.iT rfl):aj (ia (gW (2^((ie m+1)/2)))) (ia (gW (kN m (2^((ie m+1)/2)) 0))))])]) 
def Yu(m s:Nat)(h1:(gW m).length<=256)(h0:m≠0)(hr:wh m s):gV 387 [ia (gW m)] (.iw [ia (gW s),iP 0]):=by
 obtain⟨N,_,a,b,c,d⟩:=amR hr (ef h0) (amT m hr);have hs:0<s:=by
  apply bT;intro h;obtain rfl:s=0:= aE ;have:=hr.2;omega
 have:=akN m N h1 h0 a b λk hk=>⟨by have:=(d k hk).1;omega,(d k hk).2⟩
 rwa[c]at this
noncomputable def me(m:Nat):Nat:=Classical.choose (ZO m)
def DP(m:Nat):wh m (me m):=cU (ZO m)
def tV(d:Dy)(p:Nat):Nat:=if Int.tmod (d.e-((2*p+4-ie d.m:Nat):Int)) 2=0 then 2*p+4-ie d.m else 2*p+4-ie d.m+1
noncomputable def wG(d:Dy)(p:Nat)(up:Bool):Dy:=wE (d.m*2^tV d p) (me (d.m*2^tV d p)) ((d.e-(tV d p:Int))/2) p up
noncomputable def wF(d:Dy)(p:Nat)(up:Bool):Int:=AK (d.m*2^tV d p) (me (d.m*2^tV d p)) ((d.e-(tV d p:Int))/2) p up
def LV(d:Dy)(p:Nat):d.e-(tV d p:Int)=2*((d.e-(tV d p:Int))/2):=by
 have key:∀ x:Int,Int.tmod x 2=0↔x%2=0:=λx=>by rw[<-Int.dvd_iff_tmod_eq_zero,<-Int.dvd_iff_emod_eq_zero]
 have:(d.e-(tV d p:Int))%2=0:=by
  unfold tV;split
  .rename_i h;exact(key _).1 h
  .rename_i h;have h2:¬(d.e-((2*p+4-ie d.m:Nat):Int))%2=0:=λq=>h ((key _).2 q)
   clear h;omega
 omega
def aaN(s:Nat):s<=s*s:=by
 by_cases h:s=0
 .subst h;exact bS _
 .exact gE s (ef h)
def aaP{d:Dy}(hn:d.neg=false)(K:Nat){E:Int}(h:d.e-(K:Int)=2*E):((d.m*2^K:Nat):Rat)*(P2 E*P2 E)=d.q:=by
 rw[pv,hn,bj aG,<-oP,dg,<-uK,eF,<-oP,show(K:Int)+(E+E)=d.e by omega]
def QI{m s p:Nat}(h:wh m s)(hm:2*p+4<=ie m):p<ie s:=by
 apply bT;intro hb;have h1:s<2^ie s:=qw s;have h2:2^ie s<=2^p:=bR aG aE;have h3:=dr (aE:s+1<=2^p) (aE:s+1<=2^p);rw[<-bB]at h3;have h4:=h.2;have h5:ie m<=p+p:=lY.2 (bV h4 h3);omega
def ZP(m s:Nat):((kI (s*s) m) != 0)=decide (s*s≠m):=by
 unfold kI;generalize s*s=q;rcases Nat.lt_trichotomy q m with h|h|h
 .rw [bk h,bn aE];rfl
 .subst h;simp
 .rw [bj aE,bk h,bn aE];rfl
def al8(d:Dy)(p:Nat)(up:Bool)(hd:d.ib)(hn:d.neg=false)(h0:d.m≠0)(il:8<=p)(ic:p<=512)(qV:Int.tmod (d.e-((2*p+4-(ie d.m):Nat):Int)) 2=0):gV 355 [gZ d,iP p,bP up] (.iw [gZ (wG d p up),iP (wF d p up)]):=by
 have hl:=hd.gW;have hx:=hd.exp;have hr:=hd.range.resolve_left h0;have bp:=ny h0;have hK:tV d p=(2*p+4-(ie d.m)):=by unfold tV;rw[bk qV]
 have he:=LV d p;rw[hK]at he;have hb:=qC h0 (2*p+4-(ie d.m));have z1:(gW (d.m*2^(2*p+4-(ie d.m)))).length<=256:=oX aE;have ue:(d.m*2^(2*p+4-(ie d.m)))≠0:=dm h0 (eu (bD aG));have tC:=DP (d.m*2^(2*p+4-(ie d.m)));have C5:=QI tC (p:=p) aE;have z2:(gW (me (d.m*2^(2*p+4-(ie d.m)))*me (d.m*2^(2*p+4-(ie d.m))))).length<=256:=bA (mO tC.1) z1;have z3:(gW (me (d.m*2^(2*p+4-(ie d.m))))).length<=256:=bA (mO (bA (aaN _) tC.1)) z1;have h00:me (d.m*2^(2*p+4-(ie d.m)))≠0\/me (d.m*2^(2*p+4-(ie d.m)))=0/\(d.e-((2*p+4-(ie d.m):Nat):Int))/2=0/\((kI (me (d.m*2^(2*p+4-(ie d.m)))*me (d.m*2^(2*p+4-(ie d.m)))) (d.m*2^(2*p+4-(ie d.m)))) != 0)=false:=.inl (λq=>by rw[q,rX]at C5;omega);have tw:((kI (me (d.m*2^(2*p+4-(ie d.m)))*me (d.m*2^(2*p+4-(ie d.m)))) (d.m*2^(2*p+4-(ie d.m)))) != 0)=true->p<ie (me (d.m*2^(2*p+4-(ie d.m)))):=λ_=>C5
 exact ak call355 func355 (ae [.o 17 (.e (Bg _):aj (.sl true 1 3 λi_ j_=>(ix d).getD (i_*3+j_) (.v (.bool false))) (jN [d])),ag [iP p,jN [d]] (Qu _ _ aF aE aE),ah 20 ((0:Int)==0) aG,ai 23 d.neg hn,ai 26 ((0:Int) != 0) aG,ai 31 (((gW d.m).length:Int)==0) (ni (nR h0)),
  iq (2*(p:Int)) aE,iq (((2*p:Nat):Int)+4) aE,ag [gZ d] (Em _ aF),iq ((((2*p)+4:Nat):Int)-(ie (Dy.m d):Int)) aE,.o 41 (aq (if((((2*p)+4:Nat):Int)-(ie (Dy.m d):Int))>0 then((((2*p)+4:Nat):Int)-(ie (Dy.m d):Int))else 0) ((2*p+4-(ie d.m):Nat):Int) aR),
  iq (d.e-((2*p+4-(ie d.m):Nat):Int)) aE,.a (aE:0<(2:Int)),ai 47 ((Int.tmod (d.e-((2*p+4-(ie d.m):Nat):Int)) 2) != 0) (by simpa using qV),.c (xp d.m (2*p+4-(ie d.m)) aE aE aE),ag [ia (gW (d.m*2^(2*p+4-(ie d.m))))] (Yu _ _ aE aF (DP _)),ag [ia (gW (me (d.m*2^(2*p+4-(ie d.m))))),ia (gW (me (d.m*2^(2*p+4-(ie d.m)))))] (ze _ _ aE aE aE),
  iq (d.e-((2*p+4-(ie d.m):Nat):Int)) aE,.a (aE:0<(2:Int)),iq (d.e-((2*p+4-(ie d.m):Nat):Int)) aE,.o 70 (aq (Int.tdiv (d.e-((2*p+4-(ie d.m):Nat):Int)) 2) ((d.e-((2*p+4-(ie d.m):Nat):Int))/2) (by generalize hy:(d.e-((2*p+4-(ie d.m):Nat):Int))/2=y at *;rw[he];exact aq5 _ aG)),ag [ia (gW ((me (d.m*2^(2*p+4-(ie d.m))))*(me (d.m*2^(2*p+4-(ie d.m)))))),ia (gW (d.m*2^(2*p+4-(ie d.m))))] (y9 _ _ aE aE),ag [.agg [ia (gW (me (d.m*2^(2*p+4-(ie d.m))))),iP ((d.e-((2*p+4-(ie d.m):Nat):Int))/2),bP ((kI ((me (d.m*2^(2*p+4-(ie d.m))))*(me (d.m*2^(2*p+4-(ie d.m))))) (d.m*2^(2*p+4-(ie d.m)))) != 0)],iP p,bP up] (Fo _ _ _ _ _ aE aF aE aE aE aE aF)]<|rQ (.iw [gZ (kn false (me (d.m*2^(2*p+4-(ie d.m)))) ((d.e-((2*p+4-(ie d.m):Nat):Int))/2) ((kI ((me (d.m*2^(2*p+4-(ie d.m))))*(me (d.m*2^(2*p+4-(ie d.m))))) (d.m*2^(2*p+4-(ie d.m)))) != 0) p up),iP (jY false (me (d.m*2^(2*p+4-(ie d.m)))) ((d.e-((2*p+4-(ie d.m):Nat):Int))/2) ((kI ((me (d.m*2^(2*p+4-(ie d.m))))*(me (d.m*2^(2*p+4-(ie d.m))))) (d.m*2^(2*p+4-(ie d.m)))) != 0) p up)]) (.iw [gZ (wG d p up),iP (wF d p up)]) (by unfold wG wF wE AK;rw[hK,ZP])) 
def al9(d:Dy)(p:Nat)(up:Bool)(hd:d.ib)(hn:d.neg=false)(h0:d.m≠0)(il:8<=p)(ic:p<=512)(qV:¬Int.tmod (d.e-((2*p+4-(ie d.m):Nat):Int)) 2=0):gV 355 [gZ d,iP p,bP up] (.iw [gZ (wG d p up),iP (wF d p up)]):=by
 have hl:=hd.gW;have hx:=hd.exp;have hr:=hd.range.resolve_left h0;have bp:=ny h0;have hK:tV d p=((2*p+4-(ie d.m))+1):=by unfold tV;rw[bj qV]
 have he:=LV d p;rw[hK]at he;have hb:=qC h0 ((2*p+4-(ie d.m))+1);have z1:(gW (d.m*2^((2*p+4-(ie d.m))+1))).length<=256:=oX aE;have ue:(d.m*2^((2*p+4-(ie d.m))+1))≠0:=dm h0 (eu (bD aG));have tC:=DP (d.m*2^((2*p+4-(ie d.m))+1));have C5:=QI tC (p:=p) aE;have z2:(gW (me (d.m*2^((2*p+4-(ie d.m))+1))*me (d.m*2^((2*p+4-(ie d.m))+1)))).length<=256:=bA (mO tC.1) z1;have z3:(gW (me (d.m*2^((2*p+4-(ie d.m))+1)))).length<=256:=bA (mO (bA (aaN _) tC.1)) z1;have h00:me (d.m*2^((2*p+4-(ie d.m))+1))≠0\/me (d.m*2^((2*p+4-(ie d.m))+1))=0/\(d.e-(((2*p+4-(ie d.m))+1:Nat):Int))/2=0/\((kI (me (d.m*2^((2*p+4-(ie d.m))+1))*me (d.m*2^((2*p+4-(ie d.m))+1))) (d.m*2^((2*p+4-(ie d.m))+1))) != 0)=false:=.inl (λq=>by rw[q,rX]at C5;omega);have tw:((kI (me (d.m*2^((2*p+4-(ie d.m))+1))*me (d.m*2^((2*p+4-(ie d.m))+1))) (d.m*2^((2*p+4-(ie d.m))+1))) != 0)=true->p<ie (me (d.m*2^((2*p+4-(ie d.m))+1))):=λ_=>C5
 exact ak call355 func355 (ae [.o 17 (.e (Bg _):aj (.sl true 1 3 λi_ j_=>(ix d).getD (i_*3+j_) (.v (.bool false))) (jN [d])),ag [iP p,jN [d]] (Qu _ _ aF aE aE),ah 20 ((0:Int)==0) aG,ai 23 d.neg hn,ai 26 ((0:Int) != 0) aG,ai 31 (((gW d.m).length:Int)==0) (ni (nR h0)),
  iq (2*(p:Int)) aE,iq (((2*p:Nat):Int)+4) aE,ag [gZ d] (Em _ aF),iq ((((2*p)+4:Nat):Int)-(ie (Dy.m d):Int)) aE,.o 41 (aq (if((((2*p)+4:Nat):Int)-(ie (Dy.m d):Int))>0 then((((2*p)+4:Nat):Int)-(ie (Dy.m d):Int))else 0) ((2*p+4-(ie d.m):Nat):Int) aR),
  iq (d.e-((2*p+4-(ie d.m):Nat):Int)) aE,.a (aE:0<(2:Int)),ah 47 ((Int.tmod (d.e-((2*p+4-(ie d.m):Nat):Int)) 2) != 0) (by simpa using qV),
  iq (((2*p+4-(ie d.m):Nat):Int)+1) aE,.c (xp d.m ((2*p+4-(ie d.m))+1) aE aE aE),ag [ia (gW (d.m*2^((2*p+4-(ie d.m))+1)))] (Yu _ _ aE aF (DP _)),ag [ia (gW (me (d.m*2^((2*p+4-(ie d.m))+1)))),ia (gW (me (d.m*2^((2*p+4-(ie d.m))+1))))] (ze _ _ aE aE aE),
  iq (d.e-(((2*p+4-(ie d.m))+1:Nat):Int)) aE,.a (aE:0<(2:Int)),iq (d.e-(((2*p+4-(ie d.m))+1:Nat):Int)) aE,.o 70 (aq (Int.tdiv (d.e-(((2*p+4-(ie d.m))+1:Nat):Int)) 2) ((d.e-(((2*p+4-(ie d.m))+1:Nat):Int))/2) (by generalize hy:(d.e-(((2*p+4-(ie d.m))+1:Nat):Int))/2=y at *;rw[he];exact aq5 _ aG)),ag [ia (gW ((me (d.m*2^((2*p+4-(ie d.m))+1)))*(me (d.m*2^((2*p+4-(ie d.m))+1))))),ia (gW (d.m*2^((2*p+4-(ie d.m))+1)))] (y9 _ _ aE aE),ag [.agg [ia (gW (me (d.m*2^((2*p+4-(ie d.m))+1)))),iP ((d.e-(((2*p+4-(ie d.m))+1:Nat):Int))/2),bP ((kI ((me (d.m*2^((2*p+4-(ie d.m))+1)))*(me (d.m*2^((2*p+4-(ie d.m))+1)))) (d.m*2^((2*p+4-(ie d.m))+1))) != 0)],iP p,bP up] (Fo _ _ _ _ _ aE aF aE aE aE aE aF)]<|rQ (.iw [gZ (kn false (me (d.m*2^((2*p+4-(ie d.m))+1))) ((d.e-(((2*p+4-(ie d.m))+1:Nat):Int))/2) ((kI ((me (d.m*2^((2*p+4-(ie d.m))+1)))*(me (d.m*2^((2*p+4-(ie d.m))+1)))) (d.m*2^((2*p+4-(ie d.m))+1))) != 0) p up),iP (jY false (me (d.m*2^((2*p+4-(ie d.m))+1))) ((d.e-(((2*p+4-(ie d.m))+1:Nat):Int))/2) ((kI ((me (d.m*2^((2*p+4-(ie d.m))+1)))*(me (d.m*2^((2*p+4-(ie d.m))+1)))) (d.m*2^((2*p+4-(ie d.m))+1))) != 0) p up)]) (.iw [gZ (wG d p up),iP (wF d p up)]) (by unfold wG wF wE AK;rw[hK,ZP])) 
def Zp(d:Dy)(p:Nat)(up:Bool)(hd:d.ib)(hn:d.neg=false)(h0:d.m≠0)(il:8<=p)(ic:p<=512):gV 355 [gZ d,iP p,bP up] (.iw [gZ (wG d p up),iP (wF d p up)]):=by
 by_cases h:Int.tmod (d.e-((2*p+4-(ie d.m):Nat):Int)) 2=0
 .exact al8 d p up hd hn h0 il ic h
 .exact al9 d p up hd hn h0 il ic h
def al6(d:Dy)(p:Nat)(hd:d.ib)(hn:d.neg=false)(h0:d.m≠0)(il:8<=p)(ic:p<=512):gV 333 [gZ d,iP p] (.iw [gZ (wG d p false),iP (wF d p false)]):=
 ak call333 func333 (af [.c (Zp d p false aF aF aF aE aE)]) 
def al7(d:Dy)(p:Nat)(hd:d.ib)(hn:d.neg=false)(h0:d.m≠0)(il:8<=p)(ic:p<=512):gV 334 [gZ d,iP p] (.iw [gZ (wG d p true),iP (wF d p true)]):=
 ak call334 func334 (af [.c (Zp d p true aF aF aF aE aE)]) 
def aiL(x:Iv)(p:Nat)(hx:x.ib)(il:8<=p)(ic:p<=512)(xa:x.all=true):gV 319 [ij x,iP p] (ij gY):=
 ak call319 func319 (af [.o 10 (.e (lV _):aj (.sl true 1 7 λi_ j_=>(iO x).getD (i_*7+j_) (.v (.bool false))) (ig [x])),ag [ig [x]] (qu _ aF),ai 11 (!x.all) (by rw[xa];rfl),.c nZ]) 
def aiN(x:Iv)(p:Nat)(hx:x.ib)(il:8<=p)(ic:p<=512)(xa:x.all=false)(h1:x.lo.iI<=0):gV 319 [ij x,iP p] (ij gY):=by
 obtain⟨w1,w2⟩:=hx.ko;exact ak call319 func319 (af [.o 10 (.e (lV _):aj (.sl true 1 7 λi_ j_=>(iO x).getD (i_*7+j_) (.v (.bool false))) (ig [x])),ag [ig [x]] (qu _ aF),ah 11 (!x.all) (by rw[xa];rfl),ag [iP p] (xf _),ah 15 (nj (p:Int)) (sT.2 ⟨aE,aE⟩),ag [gZ x.lo] (nA _ aF),tB 22 (bn h1),.c nZ]) 
def aiO(x:Iv)(p:Nat)(hx:x.ib)(il:8<=p)(ic:p<=512)(xa:x.all=false)(h1:¬x.lo.iI<=0)(n1:x.lo.neg=false)(n2:x.hi.neg=false)(m1:x.lo.m≠0)(m2:x.hi.m≠0):gV 319 [ij x,iP p] (ij (mj (wG x.lo p false) (wF x.lo p false) (wG x.hi p true) (wF x.hi p true))):=by
 obtain⟨w1,w2⟩:=hx.ko;exact ak call319 func319 (af [.o 10 (.e (lV _):aj (.sl true 1 7 λi_ j_=>(iO x).getD (i_*7+j_) (.v (.bool false))) (ig [x])),ag [ig [x]] (qu _ aF),ah 11 (!x.all) (by rw[xa];rfl),ag [iP p] (xf _),ah 15 (nj (p:Int)) (sT.2 ⟨aE,aE⟩),ag [gZ x.lo] (nA _ aF),tB 22 (bt h1),.c (al6 x.lo p aF aF aF aE aE),.c (al7 x.hi p aF aF aF aE aE),.c (Dh (wG x.lo p false) (wG x.hi p true) (wF x.lo p false) (wF x.hi p true))]) 
def Y3{d:Dy}(h:0<d.q):d.neg=false/\d.m≠0:=by
 have hm:d.m≠0:=λq=>by rw[pv,q]at h;simp at h
 refine⟨?_,hm⟩;cases hn:d.neg
 .rfl
 .rw [pv,hn,bk rfl]at h;have:=b6 (show(0:Rat)<=(d.m:Rat)from cV) (bN (mF d.e))
  grind
def sqB{d:Dy}{p:Nat}(il:8<=p)(h0:d.m≠0):p<ie (me (d.m*2^tV d p)):=by
 refine QI (DP _) ?_;rw[qC h0];unfold tV;split<;>omega
def aiM{x:Iv}(hx:x.ib){p:Nat}(il:8<=p)(ic:p<=512):∃ Z,Z.ib/\gV 319 [ij x,iP (p:Int)] (ij Z):=by
 cases xa:x.all with
 |true=>exact⟨gY,mg,aiL x p hx il ic xa⟩
 |false=>
  by_cases h1:x.lo.iI<=0
  .exact ⟨gY,mg,aiN x p hx il ic xa h1⟩
  .have q1:0<x.lo.q:=(sI _).1.1 aE ;have q2:0<x.hi.q:=by have:=hx.q;grind
   obtain⟨n1,m1⟩:=Y3 q1;obtain⟨n2,m2⟩:=Y3 q2;refine⟨_,?_,aiO x p hx il ic xa h1 n1 n2 m1 m2⟩;refine an6 (DP _) (DP _) (sqB il m1) (sqB il m2) aE aE ?_;rw[aaP n1 _ (LV _ _),aaP n2 _ (LV _ _)];exact hx.q
def kj(X b:Nat):Nat->Nat
 | 0=>2^b
 |k+1=>kj X b k*X/2^b/(k+1)
def Vb{X b:Nat}(h:X<=2^(b+1))(t:Nat):t*X/2^b<=2*t:=by
 have hp:0<2^b:=bD aG;have h1:t*X<=t*(2^b*2):=cO t (by rw[<-bI];exact h);have h2:t*X/2^b<=t*(2^b*2)/2^b:=Nat.div_le_div_right h1;have h3:t*(2^b*2)/2^b=2*t:=by
  rw[show t*(2^b*2)=2^b*(2*t)by rw[dK,bL t 2]];exact aq6 _ hp
 omega
def Gr{X b:Nat}(h:X<=2^(b+1)):∀ k,kj X b k<=2^(b+1)
 | 0=>by show 2^b<=2^(b+1);rw[bI];omega
 | 1=>by
  show 2^b*X/2^b/1<=_;rw[fe,aq6 _ (bD aG)];exact h
 |k+2=>by
  have ih:=Gr h (k+1);have h1:=Vb h (kj X b (k+1));show kj X b (k+1)*X/2^b/(k+2)<=_;have h2:kj X b (k+1)*X/2^b/(k+2)<=kj X b (k+1)*X/2^b/2:=aqn aE aG;omega
def agE{X b:Nat}(h:X<=2^(b+1))(k:Nat)(hk:3<=k):kj X b (k+1)*2<=kj X b k:=by
 have h1:=Vb h (kj X b k);have h2:kj X b (k+1)<=kj X b k*X/2^b/4:=aqn aE aG;omega
def Va{X b:Nat}(h:X<=2^(b+1)):∀ j,kj X b (3+j)*2^j<=2^(b+1)
 | 0=>by rw[cI,ck];exact Gr h 3
 |j+1=>by
  have ih:=Va h j;have h1:=agE h (3+j) aE;have h2:=bW (2^j) h1;rw[bI,show kj X b (3+(j+1))*(2^j*2)=kj X b (3+j+1)*2*2^j by rw[bH,bL 2 (2^j)];rfl];omega
def agF{X b:Nat}(h:X<=2^(b+1)):∃ N,1<=N/\N<=b+5/\(∀ k,k<N->kj X b k≠0)/\kj X b N=0:=by
 have hz:kj X b (3+(b+2))=0:=by
  have h1:=Va h (b+2);apply bT;intro ju;have h2:2^(b+2)<=kj X b (3+(b+2))*2^(b+2):=gE _ (ef ju);have h3:2^(b+2)=2^(b+1)*2:=bI (n:=2) (m:=b+1);have h4:0<2^(b+1):=bD aG;omega
 obtain⟨N,n1,n2,n3⟩:=tI (p:=λk=>decide (kj X b k=0)) (n:=b+6) ⟨3+(b+2),aE,bn hz⟩;have n2':=cT n2;refine⟨N,?_,aE,λk hk=>gy (n3 k hk),n2'⟩;rcases N with _|N
 .have:0<2^b:=bD aG ;have e:2^b=0:=n2';omega
 .omega
def ahK{f:Nat->Nat}{B:Nat}(h0:f 0<2^B)(h:∀ k,f (k+1)*2<=f k):∃ N,N<=B/\(∀ k,k<N->f k≠0)/\f N=0:=by
 have hp:∀ k,f k*2^k<=f 0:=by
  intro k
  induction k with
  |zero=>rw[cI,ck];exact bu _
  |succ k ih=>
   have:=bW (2^k) (h k);rw[bI,show f (k+1)*(2^k*2)=f (k+1)*2*2^k by rw[bH,bL 2 (2^k)]];omega
 have hz:f B=0:=by
  apply bT;intro ju;have h2:2^B<=f B*2^B:=gE _ (ef ju);have:=hp B;omega
 obtain⟨N,n1,n2,n3⟩:=tI (p:=λk=>decide (f k=0)) (n:=B+1) ⟨B,aE,bn hz⟩;exact⟨N,aE,λk hk=>gy (n3 k hk),cT n2⟩
def jI(a b:Bool×Nat):Bool×Nat:=if a.1=b.1 then(a.1,a.2+b.2)else if a.2<b.2 then(b.1,b.2-a.2)else(a.1,a.2-b.2)
def pN(a:Bool×Nat):Int:=if a.1 then -(a.2:Int)else(a.2:Int)
def Nx(a b:Bool×Nat):pN (jI a b)=pN a+pN b:=by
 obtain⟨s,m⟩:=a;obtain⟨t,n⟩:=b;unfold jI pN;cases s<;>cases t<;>simp<;>(try split)<;>(try simp)<;>omega
def yN(a b:Bool×Nat):(jI a b).2<=a.2+b.2:=by
 unfold jI;split
 .exact bu _
 .split
  .show b.2-a.2<=_;omega
  .show a.2-b.2<=_;omega
def Bk(a:Bool×Nat)(b:Nat):Dy:=canon a.1 a.2 (-(b:Int))
def U9(a:Bool×Nat)(b:Nat):(Bk a b).q=(pN a:Rat)*P2 (-(b:Int)):=by
 unfold Bk pN;rw[qy];cases a.1
 .simp only[bK,bC];rw[eh]
 .simp only[bJ];rw[ado,eh];grind
def J3(a:Bool×Nat):Bool×Nat:=jI a (true,16777216)
def J2(a:Bool×Nat):Bool×Nat:=jI a (false,16777216)
def tN(a:Bool×Nat)(b p:Nat):Iv:=mj (kp (Bk (J3 a) b) p false) (j8 (Bk (J3 a) b) p false) (kp (Bk (J2 a) b) p true) (j8 (Bk (J2 a) b) p true)
def akT(a:Bool×Nat)(b:Nat){p:Nat}(hp:1<=p)(ic:p<=4096):(tN a b p).ib:=by
 unfold tN mj;split
 .exact mg
 .rename_i he;have c1:(Bk (J3 a) b).nx:=rY _ _ _;have c2:(Bk (J2 a) b).nx:=rY _ _ _;have A:=yp c1 hp ic;have B:=yr c2 hp ic;refine .inr ⟨rfl,xq _ hp ic _,xq _ hp ic _,?_⟩;rw[oY];refine bQ (A.1 aE).2 (bQ ?_ (B.1 aE).2);rw[U9,U9,tc,gr];unfold J3 J2;rw[Nx,Nx];simp[pN]
def A6(m n:Nat)(h1:(gW m).length<=256)(h2:n<=65536)(h3:(gW (m*2^n)).length<=256):gV 379 [ia (gW m),iP n] (ia (gW (m*2^n))):=
 ak call379 func379 (af [ag [ia (gW m),iP n] (PU _ _ aF aE aF)]) 
def xD(m n:Nat)(h1:(gW m).length<=256)(h2:n<=65536):gV 380 [ia (gW m),iP n] (ia (gW (m/2^n))):=
 ak call380 func380 (af [ag [ia (gW m),iP n] (K7 _ _ aF aE)]) 
def MO(m:Nat)(z:Int)(h1:(gW m).length<=256)(h2:0<=z)(h3:z<=65536)(h4:(gW (m*2^z.toNat)).length<=256):gV 379 [ia (gW m),iP z] (ia (gW (m*2^z.toNat))):=by
 have:=A6 m z.toNat h1 aE h4;rwa[show(z.toNat:Int)=z by omega]at this
def aep(m:Nat)(z:Int)(h1:(gW m).length<=256)(h2:0<=z)(h3:z<=65536):gV 380 [ia (gW m),iP z] (ia (gW (m/2^z.toNat))):=by
 have:=xD m z.toNat h1 aE;rwa[show(z.toNat:Int)=z by omega]at this
def lW{m k:Nat}(h:m<2^k)(hk:k<=8192):(gW m).length<=256:=oX (bA (lY.2 h) hk)
def uw{n:Nat}(h:n<4294967296):(gW n).length<=256:=lW (k:=32) h aG 
def aiv(n:Nat):(ja n).neg=false/\0<=(ja n).e/\(ja n).m*2^(ja n).e.toNat=n/\(ja n).m<=n:=by
 by_cases h:n=0
 .subst h;decide
 .have e1:(ja (n:Int))=canon false n 0:=BJ n;have e2:canon false n 0=⟨false,n/2^jz n,(jz n:Int)⟩:=by unfold canon;rw[bj h];simp
  rw[e1,e2];refine⟨rfl,Int.natCast_nonneg _,?_,b7 _ _⟩;show n/2^jz n*2^(jz n:Int).toNat=n;rw[fX];exact Gc h
def MR(n:Nat)(h:n<4294967296):gV 381 [iP n] (.agg [bP false,ia (gW n)]):=by
 obtain⟨p1,p2,p3,p4⟩:=aiv n;have hv:=EU n h;have he:=hv.exp;have z1:=hv.gW;have z2:(gW ((ja n).m*2^(Int.toNat (ja n).e))).length<=256:=by rw[p3];exact uw h
 exact ak call381 func381 (ae [.c (FW n aE),ag [ia (gW ((ja (n:Int)).m)),iP ((ja (n:Int)).e)] (MO _ _ aF aE aE aF)]<|rQ (.agg [bP ((ja (n:Int)).neg),ia (gW (((ja (n:Int)).m)*2^(Int.toNat ((ja (n:Int)).e))))]) (.agg [bP false,ia (gW n)]) (by rw[p1,p3])) 
def adi(m:Nat):((ie m:Int)==0)=decide (m=0):=by
 by_cases h:m=0
 .subst h;rw[rX];rfl
 .have:=ny h;rw[bt h];exact ni aE 
def Er(a:Bool×Nat)(ha:(gW a.2).length<=256):gV 386 [.agg [bP a.1,ia (gW a.2)]] (bP (decide (a.2=0))):=
 ak call386 func386 (ae [ag [ia (gW a.2)] (tf _ aE)]<|rQ (bP ((ie a.2:Int)==0)) (bP (decide (a.2=0))) (by rw[adi])) 
def xI(a:Bool×Nat):gV 376 [.agg [bP a.1,ia (gW a.2)]] (.agg [bP (!a.1),ia (gW a.2)]):=
 ak call376 func376 (.nil) 
def agq(a:Bool×Nat)(ha:(gW a.2).length<=256)(b:Bool×Nat)(hb:(gW b.2).length<=256)(h:a.1=b.1)(hs:(gW (a.2+b.2)).length<=256):gV 385 [.agg [bP a.1,ia (gW a.2)],.agg [bP b.1,ia (gW b.2)]] (.agg [bP a.1,ia (gW (a.2+b.2))]):=
 ak call385 func385 (af [ah 13 (a.1==b.1) (by rw[h];simp),ag [ia (gW a.2),ia (gW b.2)] (H9 _ _ aF aF aF)]) 
def ago(a:Bool×Nat)(ha:(gW a.2).length<=256)(b:Bool×Nat)(hb:(gW b.2).length<=256)(h:¬a.1=b.1)(h2:a.2<b.2):gV 385 [.agg [bP a.1,ia (gW a.2)],.agg [bP b.1,ia (gW b.2)]] (.agg [bP b.1,ia (gW (b.2-a.2))]):=
 ak call385 func385 (af [ai 13 (a.1==b.1) (by simpa using h),ag [ia (gW a.2),ia (gW b.2)] (y9 _ _ aE aE),tT 31 ((kI a.2 b.2)<0) (Ej.2 h2),ag [ia (gW b.2),ia (gW a.2)] (Dx _ _ aF aF aE)]) 
def agp(a:Bool×Nat)(ha:(gW a.2).length<=256)(b:Bool×Nat)(hb:(gW b.2).length<=256)(h:¬a.1=b.1)(h2:¬a.2<b.2):gV 385 [.agg [bP a.1,ia (gW a.2)],.agg [bP b.1,ia (gW b.2)]] (.agg [bP a.1,ia (gW (a.2-b.2))]):=
 ak call385 func385 (af [ai 13 (a.1==b.1) (by simpa using h),ag [ia (gW a.2),ia (gW b.2)] (y9 _ _ aE aE),tF 31 ((kI a.2 b.2)<0) λq=>h2 (Ej.1 q),ag [ia (gW a.2),ia (gW b.2)] (Dx _ _ aF aF aE)]) 
def uc(a:Bool×Nat)(ha:(gW a.2).length<=256)(b:Bool×Nat)(hb:(gW b.2).length<=256)(hs:(gW (a.2+b.2)).length<=256):gV 385 [.agg [bP a.1,ia (gW a.2)],.agg [bP b.1,ia (gW b.2)]] (.agg [bP ((jI a b).1),ia (gW ((jI a b).2))]):=by
 unfold jI;split
 .rename_i h;exact agq a ha b hb h hs
 .rename_i h;split
  .rename_i h2;exact ago a ha b hb h h2
  .rename_i h2;exact agp a ha b hb h h2
def Nw(a:Bool×Nat)(ha:(gW a.2).length<=256)(c:Bool×Nat)(hc:(gW c.2).length<=256)(b:Nat)(hb:b<=65536)(hm:(gW (a.2*c.2)).length<=256):gV 382 [.agg [bP a.1,ia (gW a.2)],.agg [bP c.1,ia (gW c.2)],iP b] (.agg [bP (a.1 != c.1),ia (gW (a.2*c.2/2^b))]):=
 ak call382 func382 (af [ag [ia (gW a.2),ia (gW c.2)] (ze _ _ aF aF aF),.c (xD (a.2*c.2) b aF aE)]) 
def Gm(a:Bool×Nat)(ha:(gW a.2).length<=256)(n:Nat)(h0:n≠0)(hn:n<4294967296):gV 388 [.agg [bP a.1,ia (gW a.2)],iP n] (.agg [bP a.1,ia (gW (a.2/n))]):=by
 have zn:(gW n).length<=256:=uw hn;exact ak call388 func388 (af [.c (MR n aE),ag [ia (gW a.2),ia (gW n)] (Av _ _ aE aE aF)]) 
def sr(d:Dy)(b:Nat):Bool×Nat:=(d.neg,if d.e+(b:Int)<0 then d.m/2^(0-(d.e+(b:Int))).toNat else d.m*2^(d.e+(b:Int)).toNat)
def ad8(d:Dy)(hd:d.ib)(b:Nat)(hb:b<=30000)(h:d.e+(b:Int)<0):gV 384 [gZ d,iP b] (.agg [bP ((sr d b).1),ia (gW ((sr d b).2))]):=by
 have hx:=hd.exp;have z1:=hd.gW;exact ak call384 func384 (ae [iq (d.e+(b:Int)) aE,tB 11 (bn h),iq (0-(d.e+(b:Int))) aE,ag [ia (gW d.m),iP (0-(d.e+(b:Int)))] (aep _ _ aF aE aE)]<|rQ (.agg [bP d.neg,ia (gW (d.m/2^(Int.toNat (0-(d.e+(b:Int))))))]) (.agg [bP ((sr d b).1),ia (gW ((sr d b).2))]) (by unfold sr;rw[bk h])) 
def ad7(d:Dy)(hd:d.ib)(b:Nat)(hb:b<=30000)(h:¬d.e+(b:Int)<0)(hs:(gW (d.m*2^(Int.toNat (d.e+(b:Int))))).length<=256):gV 384 [gZ d,iP b] (.agg [bP ((sr d b).1),ia (gW ((sr d b).2))]):=by
 have hx:=hd.exp;have z1:=hd.gW;exact ak call384 func384 (ae [iq (d.e+(b:Int)) aE,tB 11 (bt h),iq (d.e+(b:Int)) aE,ag [ia (gW d.m),iP (d.e+(b:Int))] (MO _ _ aF aE aE aF)]<|rQ (.agg [bP d.neg,ia (gW (d.m*2^(Int.toNat (d.e+(b:Int)))))]) (.agg [bP ((sr d b).1),ia (gW ((sr d b).2))]) (by unfold sr;rw[bj h])) 
def Ld{d:Dy}{b K:Nat}(h:d.im+(b:Int)<=K):(sr d b).2<2^K:=by
 by_cases h0:d.m=0
 .have:(sr d b).2=0:=by unfold sr;simp only[h0];split<;>simp
  rw[this];exact bD aG 
 .rw [IP h0]at h;have hm:=qw d.m;unfold sr;simp only;split
  .rename_i hc;obtain⟨k,hk⟩:∃ k,k=(0-(d.e+(b:Int))).toNat:=⟨_,rfl⟩
   rw[<-hk];by_cases hb:ie d.m<=k
   .rw [c9 (bV hm (bR aG hb))];exact bD aG 
   .refine (cA (bD aG)).2 (bV hm ?_);rw[<-bB];exact bR aG aE 
  .rename_i hc;obtain⟨k,hk⟩:∃ k,k=(d.e+(b:Int)).toNat:=⟨_,rfl⟩
   rw[<-hk];have:=du hm (bD (n:=k) (show 0<2 by decide));rw[<-bB]at this;exact bV this (bR aG aE)
def MQ(d:Dy)(hd:d.ib)(b K:Nat)(hb:b<=30000)(hK:K<=8192)(h:d.im+(b:Int)<=K):gV 384 [gZ d,iP (b:Int)] (.agg [bP ((sr d b).1),ia (gW ((sr d b).2))]):=by
 by_cases hc:d.e+(b:Int)<0
 .exact ad8 d hd b hb hc
 .refine ad7 d hd b hb hc ?_;have:=Ld h;unfold sr at this;rw[bj hc]at this;exact lW this hK
def mV(f:Nat->Nat):Nat->Bool×Nat
 | 0=>(false,f 0)
 |k+1=>jI (mV f k) (decide ((k+1)%2=1),f (k+1)/(2*(k+1)+1))
def RX{f:Nat->Nat}(hf:∀ k,f (k+1)<=f k):∀ n,(n%2=0->pN (mV f n)<=f 0/\(f 0:Int)-(f 1/3:Nat)<=pN (mV f n)-(f (n+1)/(2*(n+1)+1):Nat))/\(n%2=1->(f 0:Int)-(f 1/3:Nat)<=pN (mV f n)/\pN (mV f n)+(f (n+1)/(2*(n+1)+1):Nat)<=f 0)
 | 0=>⟨λ_=>⟨by simp[mV,pN],by simp[mV,pN]⟩,λh=> aE⟩
 |n+1=>by
  obtain⟨e,o⟩:=RX hf n;have hq:f (n+1+1)/(2*(n+1+1)+1)<=f (n+1)/(2*(n+1)+1):=Nat.div_le_div (hf (n+1)) aE aE;have hv:pN (mV f (n+1))=pN (mV f n)+pN (decide ((n+1)%2=1),f (n+1)/(2*(n+1)+1)):=Nx _ _;generalize f (n+1)/(2*(n+1)+1)=q1 at *
  generalize f (n+1+1)/(2*(n+1+1)+1)=q2 at *
  generalize f 1/3=q0 at *
  rcases aq7 n with h|h
  .obtain ⟨e1,e2⟩:=e h;rw[show decide ((n+1)%2=1)=true from bn aE]at hv;simp only[pN,bJ]at hv;exact⟨λq=> aE,λ_=>⟨by unfold pN at *;omega,by unfold pN at *;omega⟩⟩
  .obtain ⟨e1,e2⟩:=o h;rw[show decide ((n+1)%2=1)=false from bt aE]at hv;simp only[pN,bK,bC]at hv;exact⟨λ_=>⟨by unfold pN at *;omega,by unfold pN at *;omega⟩,λq=> aE⟩
def MG{f:Nat->Nat}(hf:∀ k,f (k+1)<=f k)(n:Nat):(mV f n).2<=f 0/\f 0<=(mV f n).2+f 1/3:=by
 have ht:=RX hf n;have h1:f 1/3<=f 0:=bA (b7 _ _) (hf 0);have hb:(f 0:Int)-(f 1/3:Nat)<=pN (mV f n)/\pN (mV f n)<=f 0:=by
  rcases aq7 n with h|h
  .have:=ht.1 h;generalize f (n+1)/(2*(n+1)+1)=q at *
   omega
  .have:=ht.2 h;generalize f (n+1)/(2*(n+1)+1)=q at *
   omega
 generalize mV f n=s at *
 generalize f 1/3=q at *
 obtain⟨b,m⟩:=s;cases b
 .simp only[pN,bK,bC]at hb ⊢;omega
 .simp only[pN,bJ]at hb ⊢;omega
def Jg{f:Nat->Nat}(hf:∀ k,f (k+1)<=f k):∀ k,f k<=f 0
 | 0=>bu _
 |k+1=>bA (hf k) (Jg hf k)
def D8{f:Nat->Nat}(hf:∀ k,f (k+1)<=f k){B:Nat}(hB:B<=8191)(hz:f 0<2^B)(k:Nat):(gW (f k)).length<=256:=lW (cC (Jg hf k) hz) aE 
def Jh{f:Nat->Nat}(hf:∀ k,f (k+1)<=f k){B:Nat}(hB:B<=8191)(hz:f 0<2^B)(k:Nat):(gW (mV f k).2).length<=256/\(gW (f (k+1)/(2*(k+1)+1))).length<=256:=⟨lW (cC (MG hf k).1 hz) aE,lW (cC (bA (b7 _ _) (Jg hf (k+1))) hz) aE⟩
def RY{f:Nat->Nat}(hf:∀ k,f (k+1)<=f k){B:Nat}(hB:B<=8191)(hz:f 0<2^B)(k:Nat):(gW ((mV f k).2+f (k+1)/(2*(k+1)+1))).length<=256:=by
 have h1:=(MG hf k).1;have h2:=bA (b7 (f (k+1)) (2*(k+1)+1)) (Jg hf (k+1));refine lW (k:=B+1) ?_ aE;rw[bI];omega
def s8(n b:Nat):Nat->Nat
 | 0=>1*2^b/n
 |k+1=>s8 n b k/(n*n)
def WS{n b:Nat}(hn:2<=n)(k:Nat):s8 n b (k+1)*2<=s8 n b k:=by
 show s8 n b k/(n*n)*2<=_;have h1:s8 n b k/(n*n)<=s8 n b k/2:=aqn (by have:=dr hn hn;omega) aG;omega
def Pc(n b:Nat):s8 n b 0<2^(b+1):=by
 show 1*2^b/n<_;rw[b9,bI];have:=b7 (2^b) n;have:0<2^b:=bD aG;omega
def aiD{n b:Nat}(hn:2<=n):∃ N,N<=b+1/\(∀ k,k<N->s8 n b (k+1)≠0)/\s8 n b (N+1)=0:=by
 obtain⟨N,h1,h2,h3⟩:=ahK (Pc n b) (WS hn);rcases N with _|N
 .refine ⟨0,aE,λk hk=>absurd hk (bE _),?_⟩;have:=WS (b:=b) hn 0;omega
 .exact ⟨N,aE,λk hk=>h2 (k+1) aE,h3⟩
def aly{T x y f g:Nat}(hT:65536<=T)(hf:f=T/5)(KK:x<=f)(wa:f<=x+f/(5*5)/3)(hy:y<=T/239)(hg:g=(jI (false,x*2^4) (true,y*2^2)).2):2<=g/\g<=T*4/\g/2<=T*2:=by
 have h16:(2:Nat)^4=16:=rfl;have h4:(2:Nat)^2=4:=rfl;have e:g=x*16-y*4:=by
  rw[hg,h16,h4];unfold jI;rw[bj (show ¬false=true from Bool.false_ne_true),bj (by show ¬x*16<y*4;omega)]
 omega
def RW(f:Nat->Nat)(g:FuncId)(cap:List E)(N:Nat)(x:Nat):PS:=⟨30,true,[(6,.e (iP ((x+1:Nat):Int))),(5,.box 5 0),(4,.box 4 0),(2,.box 2 0),(1,.e (.fn g cap))],[(5,.cells 278 [bP ((mV f x).1),ia (gW ((mV f x).2))]),(4,.cells 278 [bP false,.v (.slice none 0 0)]),(2,.cells 278 [bP false,ia (gW (f x))])]⟩
def ady(f:Nat->Nat)(g:FuncId)(cap:List E)(N:Nat)(hp:∀ k,k<=N->gV g ((.agg [bP false,ia (gW (f k))])::cap) (.agg [bP false,ia (gW (f (k+1)))]))(hf:∀ k,f (k+1)<=f k)(B:Nat)(hB:B<=8191)(hz:f 0<2^B)(h0:∀ k,k<N->f (k+1)≠0)(hN:f (N+1)=0)(tp:N<=100000):gV 390 [.agg [bP false,ia (gW (f 0))],.fn g cap] (.agg [bP ((mV f N).1),ia (gW ((mV f N).2))]):=by
 have z00:=D8 hf hB hz 0;exact ak call390 func390 (af [.s (Sp.jc (RW f g cap N) 0 N aE (λx hx kW=>by
    have z1:=D8 hf hB hz (x+1);have z0:=D8 hf hB hz x;have zs:=(Jh hf hB hz x).1;have zt:=(Jh hf hB hz x).2;have zu:=RY hf hB hz x;exact iy (ae [.c (hp x aE:gV g ((.agg [bP false,ia (gW (f x))])::cap) _),ag [.agg [bP false,ia (gW (f (x+1)))]] (Er (false,(f (x+1))) aF),tF 15 ((f (x+1))=0) (h0 x aE),
     iq (2*((x+1:Nat):Int)) aE,iq (((2*(x+1):Nat):Int)+1) aE,ag [.agg [bP false,ia (gW (f (x+1)))],iP (((2*(x+1))+1:Nat):Int)] (Gm (false,(f (x+1))) aF ((2*(x+1))+1) aE aE),.a (aE:0<(2:Int))]<|.w ((x+1)%2=1)
     (λho=>ae [ah 24 ((((x+1)%2:Nat):Int)==1) (by rw[ho];rfl),ag [.agg [bP false,ia (gW ((f (x+1))/((2*(x+1))+1)))]] (xI (false,((f (x+1))/((2*(x+1))+1)))),ag [.agg [bP ((mV f x).1),ia (gW ((mV f x).2))],.agg [bP (!false),ia (gW ((f (x+1))/((2*(x+1))+1)))]] (uc (mV f x) aF ((!false),((f (x+1))/((2*(x+1))+1))) aF aF),
      iq (((x+1:Nat):Int)+1) aE]<|.e (af [.b 5 (.iT (by first|rfl|simp[mV,ho]):Bx.le (.cells 278 [bP ((jI (mV f x) ((!false),((f (x+1))/((2*(x+1))+1)))).1),ia (gW ((jI (mV f x) ((!false),((f (x+1))/((2*(x+1))+1)))).2))]) (.cells 278 [bP ((mV f (x+1)).1),ia (gW ((mV f (x+1)).2))]))]))
     (λho=>ae [ai 24 ((((x+1)%2:Nat):Int)==1) aS,ag [.agg [bP ((mV f x).1),ia (gW ((mV f x).2))],.agg [bP false,ia (gW ((f (x+1))/((2*(x+1))+1)))]] (uc (mV f x) aF (false,((f (x+1))/((2*(x+1))+1))) aF aF),
      iq (((x+1:Nat):Int)+1) aE]<|.e (af [.b 5 (.iT (by first|rfl|simp[mV,ho]):Bx.le (.cells 278 [bP ((jI (mV f x) (false,((f (x+1))/((2*(x+1))+1)))).1),ia (gW ((jI (mV f x) (false,((f (x+1))/((2*(x+1))+1)))).2))]) (.cells 278 [bP ((mV f (x+1)).1),ia (gW ((mV f (x+1)).2))]))]))) aI)
  (λhx=>by
    have z1:=D8 hf hB hz (N+1);have z0:=D8 hf hB hz N;have zs:=(Jh hf hB hz N).1;have zt:=(Jh hf hB hz N).2;have zu:=RY hf hB hz N;exact iy (af [.c (hp N aE:gV g ((.agg [bP false,ia (gW (f N))])::cap) _),ag [.agg [bP false,ia (gW (f (N+1)))]] (Er (false,(f (N+1))) aF),tB 15 (bn hN)]) aI) aM:jb 4 f390 (RW f g cap N 0) .ret ⟨30,true,[(4,.box 4 0)],[(4,.cells 278 [bP ((mV f N).1),ia (gW ((mV f N).2))])]⟩) (af [.o 6 (aq 1 ((0+1:Nat):Int) aT),.b 5 (.iT (by first|rfl|simp[mV,ho]):Bx.le (.cells 278 [bP false,ia (gW (f 0))]) (.cells 278 [bP ((mV f 0).1),ia (gW ((mV f 0).2))]))])]) 
def adX(m n:Nat)(hm:(gW m).length<=256)(sc:n≠0)(hn:n<60000):gV 391 [.agg [bP false,ia (gW m)],(.iV 1 λj_=>[iP n].getD j_ .any)] (.agg [bP false,ia (gW (m/(n*n)))]):=by
 have hnn:n*n<3600000000:=aq8 hn hn;have hnz:n*n≠0:=dm sc sc;exact ak call391 func391 (af [iq ((n:Int)*(n:Int)) aE,ag [.agg [bP false,ia (gW m)],iP ((n*n:Nat):Int)] (Gm (false,m) aF (n*n) aE aE)]) 
def adY(n b:Nat)(S:Bool×Nat)(sc:n≠0)(hn:n<60000)(hb:b<=8000)(hS:gV 390 [.agg [bP false,ia (gW (1*2^b/n))],.fn 391 [(.iV 1 λj_=>[iP n].getD j_ .any)]] (.agg [bP S.1,ia (gW S.2)])):gV 389 [iP n,iP b] (.agg [bP S.1,ia (gW S.2)]):=by
 have z0:(gW 1).length<=256:=uw aG;have z1:(gW (1*2^b)).length<=256:=lW (k:=b+1) (by rw[bI,b9];have:0<2^b:=bD aG;omega) aE;exact ak call389 func389 (af [.o 6 (.e yi:aj (.sl false 1 1 λi_ j_=>[.v (.int .u32 1)].getD (i_*1+j_) (.v (.bool false))) (ia (gW 1))),.c (A6 1 b aF aE aF),ag [.agg [bP false,ia (gW (1*2^b))],iP n] (Gm (false,(1*2^b)) aF n aE aE),ag [.agg [bP false,ia (gW ((1*2^b)/n))],.fn 391 [(.iV 1 λj_=>[iP n].getD j_ .any)]] hS]) 
def SL(n b:Nat)(sc:2<=n)(hn:n<60000)(hb:b<=8000):∃ S:Bool×Nat,S.2<=2^b/n/\2^b/n<=S.2+2^b/n/(n*n)/3/\gV 389 [iP (n:Int),iP (b:Int)] (.agg [bP S.1,ia (gW S.2)]):=by
 obtain⟨N,h1,h2,h3⟩:=aiD (b:=b) sc;have hf:∀ k,s8 n b (k+1)<=s8 n b k:=λk=>b7 _ _
 obtain⟨r1,r2⟩:=MG hf N;have e0:s8 n b 0=2^b/n:=by show 1*2^b/n=_;rw[b9]
 have e1:s8 n b 1=2^b/n/(n*n):=by show s8 n b 0/(n*n)=_;rw[e0]
 refine⟨mV (s8 n b) N,by rw[<-e0];exact r1,by rw[<-e1,<-e0];exact r2,?_⟩;exact adY n b _ aE hn hb (ady (s8 n b) 391 _ N (λk _=>adX (s8 n b k) n (D8 hf (aE:b+1<=8191) (Pc n b) k) aE hn) hf (b+1) aE (Pc n b) h2 h3 aE)
def ad9(b:Nat)(x y:Bool×Nat)(zx:x.2<2^b)(zy:y.2<2^b)(hb:b<=8000)(hx:gV 389 [iP ((5:Nat):Int),iP (b:Int)] (.agg [bP x.1,ia (gW x.2)]))(hy:gV 389 [iP ((239:Nat):Int),iP (b:Int)] (.agg [bP y.1,ia (gW y.2)])):gV 378 [iP b] (.agg [bP ((jI (false,x.2*2^4) (true,y.2*2^2)).1),ia (gW ((jI (false,x.2*2^4) (true,y.2*2^2)).2))]):=by
 have z1:(gW x.2).length<=256:=lW zx aE;have z2:(gW y.2).length<=256:=lW zy aE;have e5:2^(b+5)=2^b*32:=by rw[bB]
 have z3:(gW (x.2*2^4)).length<=256:=lW (k:=b+5) aE aE;have z4:(gW (y.2*2^2)).length<=256:=lW (k:=b+5) aE aE;have z5:(gW (x.2*2^4+y.2*2^2)).length<=256:=lW (k:=b+5) aE aE;exact ak call378 func378 (af [ag [iP 5,iP b] hx,ag [iP 239,iP b] hy,.c (A6 x.2 4 aF aE aF),.c (A6 y.2 2 aF aE aF),ag [.agg [bP false,ia (gW (x.2*2^4))],.agg [bP true,ia (gW (y.2*2^2))]] (uc (false,(x.2*2^4)) aF (true,(y.2*2^2)) aF aF)]) 
def SN(b:Nat)(kD:16<=b)(hb:b<=8000):∃ c:Bool×Nat,2<=c.2/\c.2<=2^b*4/\c.2/2<=2^b*2/\gV 378 [iP (b:Int)] (.agg [bP c.1,ia (gW c.2)]):=by
 obtain⟨x,x1,x2,hx⟩:=SL 5 b aG aG hb;obtain⟨y,y1,y2,hy⟩:=SL 239 b aG aG hb;have hT:65536<=2^b:=by have:=bR (show 0<2 by decide) kD;omega
 obtain⟨g1,g2,g3⟩:=aly hT rfl x1 x2 y1 rfl;exact⟨_,g1,g2,g3,ad9 b x y aE aE hb hx hy⟩
def abp(n:Nat)(h:n<4294967296):bits .and .u32 (n:Int) 3=((n%4:Nat):Int):=by
 have:=bits_and_u32_nat n 3 h aG;rw[show((3:Int))=((3:Nat):Int)from rfl,this];exact congrArg _ (aq0 n 2)
def aij(k:Nat)(h:k<=3):bits .and .i64 (4-(k:Int)) 3=(((4-k)%4:Nat):Int):=by
 rcases(aE:k=0\/k=1\/k=2\/k=3)with rfl|rfl|rfl|rfl<;>decide
def agr{x:Bool×Nat}{m:Nat}(h:m<=x.2):jI x (!x.1,m)=(x.1,x.2-m):=by
 unfold jI;rw[bj (by show ¬x.1 = !x.1;cases x.1<;>decide),bj (by show ¬x.2<m;omega)]
def amf(n:Nat):n%4<=3:= aE 
def ame(n:Nat):(4-n)%4<=3:= aE 
def amg{x:Bool×Nat}{H b t:Nat}(h0:1<=H)(hH:H<=2^(b+t+40)*2):(jI x (!x.1,x.2/H*H)).2/2^(t+40)<=2^(b+1):=by
 rw[agr (dh _ _)];show(x.2-x.2/H*H)/_<=_;have h1:x.2-x.2/H*H=x.2%H:=by
  have:=cN x.2 H;rw[bL H]at this;omega
 have h2:=bM x.2 (aE:0<H);rw[h1];refine Nat.div_le_of_le_mul (bA (dt h2) (bA hH (gS ?_)));rw[<-bB,(aE:t+40+(b+1)=b+t+40+1)];exact(bI 2 (b+t+40)).symm
def lq(x:Bool×Nat):Nat->Bool
 | 0=>false
 |k+1=>(lq x k != x.1)
def jT(x:Bool×Nat)(b:Nat):Nat->(Bool×Nat)×(Bool×Nat)
 | 0=>((false,0),(false,1*2^b))
 |k+1=>if(k+1)%2=1 then(jI (jT x b k).1 ((if 2<=(k+1)%4 then !(lq x (k+1))else lq x (k+1)),kj x.2 b (k+1)),(jT x b k).2)
  else((jT x b k).1,jI (jT x b k).2 ((if 2<=(k+1)%4 then !(lq x (k+1))else lq x (k+1)),kj x.2 b (k+1)))
def aax{x:Bool×Nat}{b:Nat}(h:x.2<=2^(b+1)):∀ k,(jT x b k).1.2<=(k+1)*2^(b+1)/\(jT x b k).2.2<=(k+1)*2^(b+1)
 | 0=>⟨bS _,by show 1*2^b<=_;have:=bI (n:=2) (m:=b);omega⟩
 |k+1=>by
  obtain⟨h1,h2⟩:=aax h k;have h3:=Gr h (k+1);have h4:(k+1+1)*2^(b+1)=(k+1)*2^(b+1)+2^(b+1):=apV _ _;unfold jT;split
  .refine ⟨bA (yN _ _) ?_,by rw[h4];exact bA h2 (Nat.le_add_right _ _)⟩;rw[h4];exact Nat.add_le_add h1 h3
  .refine ⟨by rw[h4];exact bA h1 (Nat.le_add_right _ _),bA (yN _ _) ?_⟩;rw[h4];exact Nat.add_le_add h2 h3
def aay{x:Bool×Nat}{b:Nat}(h:x.2<=2^(b+1))(hb:b<=3000){k:Nat}(hk:k<=b+5):(jT x b k).1.2<2^(b+14)/\(jT x b k).2.2<2^(b+14):=by
 obtain⟨h1,h2⟩:=aax h k;have h3:(k+1)*2^(b+1)<2^(b+14):=by
  rw[(aE:b+14=13+(b+1)),bB 2 13];exact du aE (bD aG)
 exact⟨cC h1 h3,cC h2 h3⟩
def agD{T:TypeId}:Bx.le (.cells T [bP false,.v (.slice none 0 0)]) (.cells T [bP false,ia (gW 0)]):=
 .cells (λ_=>rfl) (.cons (.refl _) (.cons DA .nil))
structure ab0(x:Bool×Nat)(b k:Nat):Prop where
 t0:(gW (kj x.2 b k)).length<=256
 t1:(gW (kj x.2 b (k+1))).length<=256
 tm:(gW (kj x.2 b k*x.2)).length<=256
 tq:(gW (kj x.2 b k*x.2/2^b)).length<=256
 s0:(gW (jT x b k).1.2).length<=256
 c0:(gW (jT x b k).2.2).length<=256
 s1:(gW ((jT x b k).1.2+kj x.2 b (k+1))).length<=256
 c1:(gW ((jT x b k).2.2+kj x.2 b (k+1))).length<=256
def aaw{x:Bool×Nat}{b:Nat}(h:x.2<=2^(b+1))(hb:b<=3000){k:Nat}(hk:k<=b+5):ab0 x b k:=by
 have hp:(2:Nat)^(b+2)=2^(b+1)*2:=bI _ _;have hq:(0:Nat)<2^(b+1):=bD aG;have t0:=Gr h k;have t1:=Gr h (k+1);obtain⟨s,c⟩:=aay h hb hk;have hm:kj x.2 b k*x.2<2^(b+2+(b+2)):=by
  rw[bB];exact aq8 aE aE 
 have e14:(2:Nat)^(b+15)=2^(b+14)*2:=bI _ _;have e13:(2:Nat)^(b+1)<=2^(b+14):=bR aG aE;exact⟨lW (k:=b+2) aE aE,lW (k:=b+2) aE aE,lW hm aE,lW (cC (b7 _ _) hm) aE,
  lW s aE,lW c aE,lW (k:=b+15) aE aE,lW (k:=b+15) aE aE⟩
def X0{s:Bool}{m b:Nat}(h:m<2^4000)(hb:b<=8000):mT (canon s m (-(b:Int))):=by
 by_cases h0:m=0
 .subst h0;exact .inl rfl
 .have e:canon s m (-(b:Int))=⟨s,m/2^jz m,-(b:Int)+jz m⟩:=by unfold canon;rw[bj h0]
  have h1:ie m<=4000:=lY.2 h;have h2:=vz (b7 m (2^jz m));have h3:jz m<=4000:=by
   have:=Io h0;apply bT;intro hc;have:=bR (show 0<2 by decide) (aE:4000<=jz m);omega
  rw[e];exact .inr ⟨by show ie (m/2^jz m)<=4096;omega,by show -16384 <= -(b:Int)+jz m;omega,by show -(b:Int)+jz m<=16384;omega,by show(ie (m/2^jz m):Int)+(-(b:Int)+jz m)<=16384;omega⟩
def Ln{a b i j n:Nat}(ha:a<2^i)(hb:b<2^j)(hi:i<=n)(hj:j<=n):a+b<2^(n+1):=by
 have h1:=bR (show 0<2 by decide) hi;have h2:=bR (show 0<2 by decide) hj;have e:2^(n+1)=2^n*2:=bI _ _;omega
def ags{a b:Bool×Nat}{i j n:Nat}(ha:a.2<2^i)(hb:b.2<2^j)(hi:i<=n)(hj:j<=n):(jI a b).2<2^(n+1):=cC (yN _ _) (Ln ha hb hi hj)
def X1{s:Bool}{m:Nat}{e:Int}(h:mT (canon s m e)):(canon s m e).ib:=⟨rY _ _ _,h⟩
def Ip{m i k:Nat}(h:m<2^i)(hk:i<=k):m<2^k:=bV h (bR aG hk)
def qc(a c:Bool×Nat):Bool×Nat:=if a.1=true/\a.2%c.2≠0 then jI (a.1,a.2/c.2) (true,1)else(a.1,a.2/c.2)
def U5(a c:Bool×Nat):(qc a c).2<=a.2/c.2+1:=by
 unfold qc;split
 .exact yN _ _
 .exact Nat.le_succ _
def agy(a c:Bool×Nat):(qc a c).2*c.2<=a.2+c.2:=by
 refine bA (bW c.2 (U5 a c)) ?_;rw[apV];exact Nat.add_le_add_right (dh _ _) _
def XN{lo hi:Dy}{e f:Int}(h:e≠0\/f≠0):mj lo e hi f=gY:=bk h
def akc{lo hi:Dy}{e f:Int}(h:e=0)(k:f=0):mj lo e hi f=⟨lo,hi,false⟩:=bj (by rw[h,k];decide)
def aac(x:Bool×Nat)(b N:Nat)(i:Nat):PS:=⟨43,true,[(8,.e (iP ((i+1:Nat):Int))),(7,.box 7 0),(5,.box 5 0),(4,.box 4 0),(2,.box 2 0),(1,.e (iP b))],[(5,.cells 278 [bP (((jT x b i).2).1),ia (gW (((jT x b i).2).2))]),(7,.cells 278 [bP (lq x i),ia (gW (kj x.2 b i))]),(4,.cells 278 [bP (((jT x b i).1).1),ia (gW (((jT x b i).1).2))]),(2,.cells 278 [bP x.1,ia (gW x.2)])]⟩
def K0(n i:Nat):(gW n).getD i 0<4294967296:=by
 by_cases h:i<(gW n).length
 .rw [bw,bF h];exact ml n _ (cG h)
 .rw [bw,ch aE];decide
def aen(d:Dy)(b t m:Nat)(cp:Bool×Nat)(hd:d.ib)(ht:t=d.im.toNat)(kD:16<=b)(lZ:b<=2000)(tE:t<=2000)(K:Nat)(hK:K<=6000)(zx:m<2^K)(zc:2<=cp.2)(zd:(gW cp.2).length<=256)(sC:gV 378 [iP (((b+t)+40:Nat):Int)] (.agg [bP cp.1,ia (gW cp.2)]))(vO:gV 384 [gZ d,iP (((b+t)+40:Nat):Int)] (.agg [bP true,ia (gW m)]))(hn:0<(gW (m/(cp.2/2^1))).length):gV 374 [gZ d,iP b] (.iw [.agg [bP ((jI (true,m) (false,((m/(cp.2/2^1))*(cp.2/2^1)))).1),ia (gW ((jI (true,m) (false,((m/(cp.2/2^1))*(cp.2/2^1)))).2/2^(t+40)))],iP (((4-((gW (m/(cp.2/2^1))).getD 0 0%4))%4:Nat):Int)]):=by
 have OQ:=IN hd;have zX:(gW m).length<=256:=lW zx aE;have zH:(gW (cp.2/2^1)).length<=256:=bA (mO (b7 _ _)) zd;have nH:(cp.2/2^1)≠0:= aE ;have mM:((m/(cp.2/2^1))*(cp.2/2^1))<=m:=dh _ _;have zN:(gW (m/(cp.2/2^1))).length<=256:=bA (mO (b7 _ _)) zX;have zM:(gW ((m/(cp.2/2^1))*(cp.2/2^1))).length<=256:=bA (mO mM) zX;have zA:(gW (m+((m/(cp.2/2^1))*(cp.2/2^1)))).length<=256:=lW (k:=K+1) (by have:=bI 2 K;omega) aE;have zR:(gW (jI (true,m) (false,((m/(cp.2/2^1))*(cp.2/2^1)))).2).length<=256:=bA (mO (yN _ _)) zA;have zm:(gW (m%(cp.2/2^1))).length<=256:=bA (mO (eG _ _)) zX;have hg:(gW (m/(cp.2/2^1))).getD 0 0<4294967296:=K0 _ 0;have h4:(gW (m/(cp.2/2^1))).getD 0 0%4<=3:= aE ;exact ak call374 func374 (af [ag [gZ d] (mW _ aF),.o 19 (aq (if 0>(Dy.im d)then 0 else(Dy.im d)) t aR),iq ((b:Int)+t) aE,
  iq (((b+t:Nat):Int)+40) aE,ag [iP (((b+t)+40:Nat):Int)] sC,.c (xD cp.2 1 aF aE),ag [gZ d,iP (((b+t)+40:Nat):Int)] vO,ag [ia (gW m),ia (gW (cp.2/2^1))] (Av _ _ aE aE aF),ag [ia (gW (m/(cp.2/2^1))),ia (gW (cp.2/2^1))] (ze _ _ aF aF aF),ag [.agg [bP true,ia (gW m)],.agg [bP false,ia (gW ((m/(cp.2/2^1))*(cp.2/2^1)))]] (uc (true,m) aF (false,((m/(cp.2/2^1))*(cp.2/2^1))) aF aF),tT 61 (0<((gW (m/(cp.2/2^1))).length:Int)) aE,iX 0 ((gW (m/(cp.2/2^1))).length) aE,.o 65 (.int (abp _ aE):aj (.v (.int .u32 (bits .and .u32 (((gW (m/(cp.2/2^1))).getD 0 0:Nat):Int) 3))) (.v (.int .u32 ((((gW (m/(cp.2/2^1))).getD 0 0)%4:Nat):Int)))),.o 66 (aq (IntKind.i64.wrap ((((gW (m/(cp.2/2^1))).getD 0 0)%4:Nat):Int)) ((((gW (m/(cp.2/2^1))).getD 0 0)%4:Nat):Int) (KM _ aE)),
  iq (4-((((gW (m/(cp.2/2^1))).getD 0 0)%4:Nat):Int)) aE,.o 71 (aq (bits .and .i64 (4-((((gW (m/(cp.2/2^1))).getD 0 0)%4:Nat):Int)) 3) (((4-((gW (m/(cp.2/2^1))).getD 0 0%4))%4:Nat):Int) (aij _ aE)),
  iq ((t:Int)+40) aE,.c (xD ((jI (true,m) (false,((m/(cp.2/2^1))*(cp.2/2^1)))).2) (t+40) aF aE)]) 
def ael(d:Dy)(b t m:Nat)(cp:Bool×Nat)(hd:d.ib)(ht:t=d.im.toNat)(kD:16<=b)(lZ:b<=2000)(tE:t<=2000)(K:Nat)(hK:K<=6000)(zx:m<2^K)(zc:2<=cp.2)(zd:(gW cp.2).length<=256)(sC:gV 378 [iP (((b+t)+40:Nat):Int)] (.agg [bP cp.1,ia (gW cp.2)]))(vO:gV 384 [gZ d,iP (((b+t)+40:Nat):Int)] (.agg [bP true,ia (gW m)]))(hn:¬0<(gW (m/(cp.2/2^1))).length):gV 374 [gZ d,iP b] (.iw [.agg [bP ((jI (true,m) (false,((m/(cp.2/2^1))*(cp.2/2^1)))).1),ia (gW ((jI (true,m) (false,((m/(cp.2/2^1))*(cp.2/2^1)))).2/2^(t+40)))],iP 0]):=by
 have OQ:=IN hd;have zX:(gW m).length<=256:=lW zx aE;have zH:(gW (cp.2/2^1)).length<=256:=bA (mO (b7 _ _)) zd;have nH:(cp.2/2^1)≠0:= aE ;have mM:((m/(cp.2/2^1))*(cp.2/2^1))<=m:=dh _ _;have zN:(gW (m/(cp.2/2^1))).length<=256:=bA (mO (b7 _ _)) zX;have zM:(gW ((m/(cp.2/2^1))*(cp.2/2^1))).length<=256:=bA (mO mM) zX;have zA:(gW (m+((m/(cp.2/2^1))*(cp.2/2^1)))).length<=256:=lW (k:=K+1) (by have:=bI 2 K;omega) aE;have zR:(gW (jI (true,m) (false,((m/(cp.2/2^1))*(cp.2/2^1)))).2).length<=256:=bA (mO (yN _ _)) zA;have zm:(gW (m%(cp.2/2^1))).length<=256:=bA (mO (eG _ _)) zX;have hg:(gW (m/(cp.2/2^1))).getD 0 0<4294967296:=K0 _ 0;have h4:(gW (m/(cp.2/2^1))).getD 0 0%4<=3:= aE ;exact ak call374 func374 (af [ag [gZ d] (mW _ aF),.o 19 (aq (if 0>(Dy.im d)then 0 else(Dy.im d)) t aR),iq ((b:Int)+t) aE,
  iq (((b+t:Nat):Int)+40) aE,ag [iP (((b+t)+40:Nat):Int)] sC,.c (xD cp.2 1 aF aE),ag [gZ d,iP (((b+t)+40:Nat):Int)] vO,ag [ia (gW m),ia (gW (cp.2/2^1))] (Av _ _ aE aE aF),ag [ia (gW (m/(cp.2/2^1))),ia (gW (cp.2/2^1))] (ze _ _ aF aF aF),ag [.agg [bP true,ia (gW m)],.agg [bP false,ia (gW ((m/(cp.2/2^1))*(cp.2/2^1)))]] (uc (true,m) aF (false,((m/(cp.2/2^1))*(cp.2/2^1))) aF aF),tF 61 (0<((gW (m/(cp.2/2^1))).length:Int)) aE,iq (4-0) aE,.o 71 (aq (bits .and .i64 (4-0) 3) 0 aG),iq ((t:Int)+40) aE,.c (xD ((jI (true,m) (false,((m/(cp.2/2^1))*(cp.2/2^1)))).2) (t+40) aF aE)]) 
def aeo(d:Dy)(b t m:Nat)(cp:Bool×Nat)(hd:d.ib)(ht:t=d.im.toNat)(kD:16<=b)(lZ:b<=2000)(tE:t<=2000)(K:Nat)(hK:K<=6000)(zx:m<2^K)(zc:2<=cp.2)(zd:(gW cp.2).length<=256)(sC:gV 378 [iP (((b+t)+40:Nat):Int)] (.agg [bP cp.1,ia (gW cp.2)]))(vO:gV 384 [gZ d,iP (((b+t)+40:Nat):Int)] (.agg [bP false,ia (gW m)]))(hn:0<(gW (m/(cp.2/2^1))).length):gV 374 [gZ d,iP b] (.iw [.agg [bP ((jI (false,m) (true,((m/(cp.2/2^1))*(cp.2/2^1)))).1),ia (gW ((jI (false,m) (true,((m/(cp.2/2^1))*(cp.2/2^1)))).2/2^(t+40)))],iP (((gW (m/(cp.2/2^1))).getD 0 0%4:Nat):Int)]):=by
 have OQ:=IN hd;have zX:(gW m).length<=256:=lW zx aE;have zH:(gW (cp.2/2^1)).length<=256:=bA (mO (b7 _ _)) zd;have nH:(cp.2/2^1)≠0:= aE ;have mM:((m/(cp.2/2^1))*(cp.2/2^1))<=m:=dh _ _;have zN:(gW (m/(cp.2/2^1))).length<=256:=bA (mO (b7 _ _)) zX;have zM:(gW ((m/(cp.2/2^1))*(cp.2/2^1))).length<=256:=bA (mO mM) zX;have zA:(gW (m+((m/(cp.2/2^1))*(cp.2/2^1)))).length<=256:=lW (k:=K+1) (by have:=bI 2 K;omega) aE;have zR:(gW (jI (false,m) (true,((m/(cp.2/2^1))*(cp.2/2^1)))).2).length<=256:=bA (mO (yN _ _)) zA;have zm:(gW (m%(cp.2/2^1))).length<=256:=bA (mO (eG _ _)) zX;have hg:(gW (m/(cp.2/2^1))).getD 0 0<4294967296:=K0 _ 0;have h4:(gW (m/(cp.2/2^1))).getD 0 0%4<=3:= aE ;exact ak call374 func374 (af [ag [gZ d] (mW _ aF),.o 19 (aq (if 0>(Dy.im d)then 0 else(Dy.im d)) t aR),iq ((b:Int)+t) aE,
  iq (((b+t:Nat):Int)+40) aE,ag [iP (((b+t)+40:Nat):Int)] sC,.c (xD cp.2 1 aF aE),ag [gZ d,iP (((b+t)+40:Nat):Int)] vO,ag [ia (gW m),ia (gW (cp.2/2^1))] (Av _ _ aE aE aF),ag [ia (gW (m/(cp.2/2^1))),ia (gW (cp.2/2^1))] (ze _ _ aF aF aF),ag [.agg [bP false,ia (gW m)],.agg [bP true,ia (gW ((m/(cp.2/2^1))*(cp.2/2^1)))]] (uc (false,m) aF (true,((m/(cp.2/2^1))*(cp.2/2^1))) aF aF),tT 61 (0<((gW (m/(cp.2/2^1))).length:Int)) aE,iX 0 ((gW (m/(cp.2/2^1))).length) aE,.o 65 (.int (abp _ aE):aj (.v (.int .u32 (bits .and .u32 (((gW (m/(cp.2/2^1))).getD 0 0:Nat):Int) 3))) (.v (.int .u32 ((((gW (m/(cp.2/2^1))).getD 0 0)%4:Nat):Int)))),.o 66 (aq (IntKind.i64.wrap ((((gW (m/(cp.2/2^1))).getD 0 0)%4:Nat):Int)) ((((gW (m/(cp.2/2^1))).getD 0 0)%4:Nat):Int) (KM _ aE)),
  iq ((t:Int)+40) aE,.c (xD ((jI (false,m) (true,((m/(cp.2/2^1))*(cp.2/2^1)))).2) (t+40) aF aE)]) 
def aem(d:Dy)(b t m:Nat)(cp:Bool×Nat)(hd:d.ib)(ht:t=d.im.toNat)(kD:16<=b)(lZ:b<=2000)(tE:t<=2000)(K:Nat)(hK:K<=6000)(zx:m<2^K)(zc:2<=cp.2)(zd:(gW cp.2).length<=256)(sC:gV 378 [iP (((b+t)+40:Nat):Int)] (.agg [bP cp.1,ia (gW cp.2)]))(vO:gV 384 [gZ d,iP (((b+t)+40:Nat):Int)] (.agg [bP false,ia (gW m)]))(hn:¬0<(gW (m/(cp.2/2^1))).length):gV 374 [gZ d,iP b] (.iw [.agg [bP ((jI (false,m) (true,((m/(cp.2/2^1))*(cp.2/2^1)))).1),ia (gW ((jI (false,m) (true,((m/(cp.2/2^1))*(cp.2/2^1)))).2/2^(t+40)))],iP 0]):=by
 have OQ:=IN hd;have zX:(gW m).length<=256:=lW zx aE;have zH:(gW (cp.2/2^1)).length<=256:=bA (mO (b7 _ _)) zd;have nH:(cp.2/2^1)≠0:= aE ;have mM:((m/(cp.2/2^1))*(cp.2/2^1))<=m:=dh _ _;have zN:(gW (m/(cp.2/2^1))).length<=256:=bA (mO (b7 _ _)) zX;have zM:(gW ((m/(cp.2/2^1))*(cp.2/2^1))).length<=256:=bA (mO mM) zX;have zA:(gW (m+((m/(cp.2/2^1))*(cp.2/2^1)))).length<=256:=lW (k:=K+1) (by have:=bI 2 K;omega) aE;have zR:(gW (jI (false,m) (true,((m/(cp.2/2^1))*(cp.2/2^1)))).2).length<=256:=bA (mO (yN _ _)) zA;have zm:(gW (m%(cp.2/2^1))).length<=256:=bA (mO (eG _ _)) zX;have hg:(gW (m/(cp.2/2^1))).getD 0 0<4294967296:=K0 _ 0;have h4:(gW (m/(cp.2/2^1))).getD 0 0%4<=3:= aE ;exact ak call374 func374 (af [ag [gZ d] (mW _ aF),.o 19 (aq (if 0>(Dy.im d)then 0 else(Dy.im d)) t aR),iq ((b:Int)+t) aE,
  iq (((b+t:Nat):Int)+40) aE,ag [iP (((b+t)+40:Nat):Int)] sC,.c (xD cp.2 1 aF aE),ag [gZ d,iP (((b+t)+40:Nat):Int)] vO,ag [ia (gW m),ia (gW (cp.2/2^1))] (Av _ _ aE aE aF),ag [ia (gW (m/(cp.2/2^1))),ia (gW (cp.2/2^1))] (ze _ _ aF aF aF),ag [.agg [bP false,ia (gW m)],.agg [bP true,ia (gW ((m/(cp.2/2^1))*(cp.2/2^1)))]] (uc (false,m) aF (true,((m/(cp.2/2^1))*(cp.2/2^1))) aF aF),tF 61 (0<((gW (m/(cp.2/2^1))).length:Int)) aE,iq ((t:Int)+40) aE,.c (xD ((jI (false,m) (true,((m/(cp.2/2^1))*(cp.2/2^1)))).2) (t+40) aF aE)]) 
def aek(d:Dy)(b:Nat)(hd:d.ib)(kD:16<=b)(lZ:b<=1000)(ht:d.im<=100):∃ (r:Bool×Nat) (k:Nat),r.2<=2^(b+1)/\k<=3/\gV 374 [gZ d,iP (b:Int)] (.iw [.agg [bP r.1,ia (gW r.2)],iP (k:Int)]):=by
 obtain⟨t,tE⟩:∃ t,t=d.im.toNat:=⟨_,rfl⟩
 obtain⟨cp,c1,c2,c3,sC⟩:=SN (b+t+40) aE aE;have vO:=MQ d hd (b+t+40) 6000 aE aG aE;have iC:=Ld (d:=d) (b:=b+t+40) (K:=6000) aE;generalize sr d (b+t+40)=x at vO iC;have hp:(2:Nat)^(b+t+40+3)=2^(b+t+40)*8:=by rw[bB]
 have zd:(gW cp.2).length<=256:=lW (k:=b+t+40+3) (by have:0<2^(b+t+40):=bD aG;omega) aE;obtain⟨sg,m⟩:=x;have hle:=amg (x:=(sg,m)) (H:=cp.2/2^1) (b:=b) (t:=t) aE c3;by_cases hn:0<(gW (m/(cp.2/2^1))).length
 .cases sg with
  |false=>exact⟨((jI (false,m) (true,m/(cp.2/2^1)*(cp.2/2^1))).1,(jI (false,m) (true,m/(cp.2/2^1)*(cp.2/2^1))).2/2^(t+40)),_,hle,amf _,aeo d b t m cp hd tE kD aE aE 6000 aG iC c1 zd sC vO hn⟩
  |true=>exact⟨((jI (true,m) (false,m/(cp.2/2^1)*(cp.2/2^1))).1,(jI (true,m) (false,m/(cp.2/2^1)*(cp.2/2^1))).2/2^(t+40)),_,hle,ame _,aen d b t m cp hd tE kD aE aE 6000 aG iC c1 zd sC vO hn⟩
 .cases sg with
  |false=>exact⟨((jI (false,m) (true,m/(cp.2/2^1)*(cp.2/2^1))).1,(jI (false,m) (true,m/(cp.2/2^1)*(cp.2/2^1))).2/2^(t+40)),_,hle,bS 3,aem d b t m cp hd tE kD aE aE 6000 aG iC c1 zd sC vO hn⟩
  |true=>exact⟨((jI (true,m) (false,m/(cp.2/2^1)*(cp.2/2^1))).1,(jI (true,m) (false,m/(cp.2/2^1)*(cp.2/2^1))).2/2^(t+40)),_,hle,bS 3,ael d b t m cp hd tE kD aE aE 6000 aG iC c1 zd sC vO hn⟩
def aeq(x:Bool×Nat)(b N:Nat)(wa:x.2<=2^(b+1))(hb:b<=3000)(tp:N<=b+4)(h0:∀ k,k<N+1->kj x.2 b k≠0)(hN:kj x.2 b (N+1)=0):gV 375 [.agg [bP x.1,ia (gW x.2)],iP b] (.iw [.agg [bP (((jT x b N).1).1),ia (gW (((jT x b N).1).2))],.agg [bP (((jT x b N).2).1),ia (gW (((jT x b N).2).2))]]):=by
 have zx:(gW x.2).length<=256:=lW (k:=b+2) (by have e:2^(b+2)=2^(b+1)*2:=bI _ _;have:0<2^(b+1):=bD aG;omega) aE;have z0:(gW 1).length<=256:=uw aG;have z1:(gW (1*2^b)).length<=256:=lW (k:=b+1) (by rw[bI,b9];have:0<2^b:=bD aG;omega) aE;exact ak call375 func375 (af [.o 10 (.e yi:aj (.sl false 1 1 λi_ j_=>[.v (.int .u32 1)].getD (i_*1+j_) (.v (.bool false))) (ia (gW 1))),.c (A6 1 b aF aE aF),.s (Sp.jc (aac x b N) 0 N aE (λi hi oK=>by
    have SF:=aaw wa hb (k:=i) aE;obtain⟨f0,f1,f2,f3,f4,f5,f6,f7⟩:=SF;exact iy (ae [ag [.agg [bP (lq x i),ia (gW (kj x.2 b i))],.agg [bP x.1,ia (gW x.2)],iP b] (Nw ((lq x i),(kj x.2 b i)) aF x aF _ aE aF),ag [.agg [bP ((lq x i) != x.1),ia (gW ((kj x.2 b i)*x.2/2^b))],iP ((i+1:Nat):Int)] (Gm (((lq x i) != x.1),((kj x.2 b i)*x.2/2^b)) aF (i+1) aE aE),ag [.agg [bP (lq x (i+1)),ia (gW (kj x.2 b (i+1)))]] (Er ((lq x (i+1)),(kj x.2 b (i+1))) aF),tF 25 ((kj x.2 b (i+1))=0) (h0 (i+1) aE),.a (aE:0<(4:Int))]<|.w (2<=(i+1)%4)
     (λh4=>ae [tT 31 (2<=(((i+1)%4:Nat):Int)) aE,ag [.agg [bP (lq x (i+1)),ia (gW (kj x.2 b (i+1)))]] (xI ((lq x (i+1)),(kj x.2 b (i+1)))),.a (aE:0<(2:Int))]<|.w ((i+1)%2=1)
      (λho=>ae [ah 36 ((((i+1)%2:Nat):Int)==1) (by rw[ho];rfl),ag [.agg [bP (((jT x b i).1).1),ia (gW (((jT x b i).1).2))],.agg [bP (!(lq x (i+1))),ia (gW (kj x.2 b (i+1)))]] (uc ((jT x b i).1) aF ((!(lq x (i+1))),(kj x.2 b (i+1))) aF aF),
       iq (((i+1:Nat):Int)+1) aE]<|.e (af [.b 5 (.iT (by first|rfl|simp[jT,lq,kj,ho,h4]|simp[jT,lq,kj]):Bx.le (.cells 278 [bP (((jT x b i).2).1),ia (gW (((jT x b i).2).2))]) (.cells 278 [bP (((jT x b (i+1)).2).1),ia (gW (((jT x b (i+1)).2).2))])),.b 4 (.iT (by first|rfl|simp[jT,lq,kj,ho,h4]|simp[jT,lq,kj]):Bx.le (.cells 278 [bP ((jI ((jT x b i).1) ((!(lq x (i+1))),(kj x.2 b (i+1)))).1),ia (gW ((jI ((jT x b i).1) ((!(lq x (i+1))),(kj x.2 b (i+1)))).2))]) (.cells 278 [bP (((jT x b (i+1)).1).1),ia (gW (((jT x b (i+1)).1).2))]))]))
      (λho=>ae [ai 36 ((((i+1)%2:Nat):Int)==1) aS,ag [.agg [bP (((jT x b i).2).1),ia (gW (((jT x b i).2).2))],.agg [bP (!(lq x (i+1))),ia (gW (kj x.2 b (i+1)))]] (uc ((jT x b i).2) aF ((!(lq x (i+1))),(kj x.2 b (i+1))) aF aF),
       iq (((i+1:Nat):Int)+1) aE]<|.e (af [.b 5 (.iT (by first|rfl|simp[jT,lq,kj,ho,h4]|simp[jT,lq,kj]):Bx.le (.cells 278 [bP ((jI ((jT x b i).2) ((!(lq x (i+1))),(kj x.2 b (i+1)))).1),ia (gW ((jI ((jT x b i).2) ((!(lq x (i+1))),(kj x.2 b (i+1)))).2))]) (.cells 278 [bP (((jT x b (i+1)).2).1),ia (gW (((jT x b (i+1)).2).2))])),.b 4 (.iT (by first|rfl|simp[jT,lq,kj,ho,h4]|simp[jT,lq,kj]):Bx.le (.cells 278 [bP (((jT x b i).1).1),ia (gW (((jT x b i).1).2))]) (.cells 278 [bP (((jT x b (i+1)).1).1),ia (gW (((jT x b (i+1)).1).2))]))])))
     (λh4=>ae [tF 31 (2<=(((i+1)%4:Nat):Int)) aE,.a (aE:0<(2:Int))]<|.w ((i+1)%2=1)
      (λho=>ae [ah 36 ((((i+1)%2:Nat):Int)==1) (by rw[ho];rfl),ag [.agg [bP (((jT x b i).1).1),ia (gW (((jT x b i).1).2))],.agg [bP (lq x (i+1)),ia (gW (kj x.2 b (i+1)))]] (uc ((jT x b i).1) aF ((lq x (i+1)),(kj x.2 b (i+1))) aF aF),
       iq (((i+1:Nat):Int)+1) aE]<|.e (af [.b 5 (.iT (by first|rfl|simp[jT,lq,kj,ho,h4]|simp[jT,lq,kj]):Bx.le (.cells 278 [bP (((jT x b i).2).1),ia (gW (((jT x b i).2).2))]) (.cells 278 [bP (((jT x b (i+1)).2).1),ia (gW (((jT x b (i+1)).2).2))])),.b 4 (.iT (by first|rfl|simp[jT,lq,kj,ho,h4]|simp[jT,lq,kj]):Bx.le (.cells 278 [bP ((jI ((jT x b i).1) ((lq x (i+1)),(kj x.2 b (i+1)))).1),ia (gW ((jI ((jT x b i).1) ((lq x (i+1)),(kj x.2 b (i+1)))).2))]) (.cells 278 [bP (((jT x b (i+1)).1).1),ia (gW (((jT x b (i+1)).1).2))]))]))
      (λho=>ae [ai 36 ((((i+1)%2:Nat):Int)==1) aS,ag [.agg [bP (((jT x b i).2).1),ia (gW (((jT x b i).2).2))],.agg [bP (lq x (i+1)),ia (gW (kj x.2 b (i+1)))]] (uc ((jT x b i).2) aF ((lq x (i+1)),(kj x.2 b (i+1))) aF aF),
       iq (((i+1:Nat):Int)+1) aE]<|.e (af [.b 5 (.iT (by first|rfl|simp[jT,lq,kj,ho,h4]|simp[jT,lq,kj]):Bx.le (.cells 278 [bP ((jI ((jT x b i).2) ((lq x (i+1)),(kj x.2 b (i+1)))).1),ia (gW ((jI ((jT x b i).2) ((lq x (i+1)),(kj x.2 b (i+1)))).2))]) (.cells 278 [bP (((jT x b (i+1)).2).1),ia (gW (((jT x b (i+1)).2).2))])),.b 4 (.iT (by first|rfl|simp[jT,lq,kj,ho,h4]|simp[jT,lq,kj]):Bx.le (.cells 278 [bP (((jT x b i).1).1),ia (gW (((jT x b i).1).2))]) (.cells 278 [bP (((jT x b (i+1)).1).1),ia (gW (((jT x b (i+1)).1).2))]))])))) aI)
  (λhi=>by
    have SF:=aaw wa hb (k:=N) aE;obtain⟨f0,f1,f2,f3,f4,f5,f6,f7⟩:=SF;exact iy (af [ag [.agg [bP (lq x N),ia (gW (kj x.2 b N))],.agg [bP x.1,ia (gW x.2)],iP b] (Nw ((lq x N),(kj x.2 b N)) aF x aF _ aE aF),ag [.agg [bP ((lq x N) != x.1),ia (gW ((kj x.2 b N)*x.2/2^b))],iP ((N+1:Nat):Int)] (Gm (((lq x N) != x.1),((kj x.2 b N)*x.2/2^b)) aF (N+1) aE aE),ag [.agg [bP (lq x (N+1)),ia (gW (kj x.2 b (N+1)))]] (Er ((lq x (N+1)),(kj x.2 b (N+1))) aF),tB 25 (bn hN)]) aI) aM:jb 6 f375 (aac x b N 0) .ret ⟨43,true,[(5,.box 5 0),(4,.box 4 0)],[(5,.cells 278 [bP (((jT x b N).2).1),ia (gW (((jT x b N).2).2))]),(4,.cells 278 [bP (((jT x b N).1).1),ia (gW (((jT x b N).1).2))])]⟩) (af [.o 8 (aq 1 ((0+1:Nat):Int) aT),.b 5 (.iT (by first|rfl|simp[jT,lq,kj,ho,h4]|simp[jT,lq,kj]):Bx.le (.cells 278 [bP false,ia (gW (1*2^b))]) (.cells 278 [bP (((jT x b 0).2).1),ia (gW (((jT x b 0).2).2))])),.b 7 (.iT (by first|rfl|simp[jT,lq,kj,ho,h4]|simp[jT,lq,kj]):Bx.le (.cells 278 [bP false,ia (gW (1*2^b))]) (.cells 278 [bP (lq x 0),ia (gW (kj x.2 b 0))])),.b 4 (agD:Bx.le (.cells 278 [bP false,.v (.slice none 0 0)]) (.cells 278 [bP (((jT x b 0).1).1),ia (gW (((jT x b 0).1).2))]))])]) 
def aer(x:Bool×Nat)(b:Nat)(wa:x.2<=2^(b+1))(hb:b<=3000):∃ s c:Bool×Nat,s.2<2^(b+14)/\c.2<2^(b+14)/\gV 375 [.agg [bP x.1,ia (gW x.2)],iP (b:Int)] (.iw [.agg [bP s.1,ia (gW s.2)],.agg [bP c.1,ia (gW c.2)]]):=by
 obtain⟨N,n1,n2,n3,n4⟩:=agF wa;obtain⟨M,rfl⟩:∃ M,N=M+1:=⟨N-1,aE⟩
 obtain⟨a1,a2⟩:=aay wa hb (k:=M) aE;exact⟨_,_,a1,a2,aeq x b M wa hb aE n3 n4⟩
def A7(a:Bool×Nat)(b p:Nat)(ha:a.2<2^3000)(hb:b<=8000)(il:8<=p)(ic:p<=512):gV 377 [.agg [bP a.1,ia (gW a.2)],iP b,iP p] (ij (tN a b p)):=by
 have z1:(gW 1).length<=256:=uw aG;have z2:(gW (1*2^24)).length<=256:=uw aG;have z3:(gW a.2).length<=256:=lW ha aG;have hs:=Ln (n:=3000) ha (show 1*2^24<2^25 by decide) aG aG;have z4:(gW (a.2+1*2^24)).length<=256:=lW hs aG;have l1:=cC (show(jI a ((!false),(1*2^24))).2<=_ from yN _ _) hs;have l2:=cC (show(jI a (false,(1*2^24))).2<=_ from yN _ _) hs;have z5:(gW (jI a ((!false),(1*2^24))).2).length<=256:=lW l1 aG;have z6:(gW (jI a (false,(1*2^24))).2).length<=256:=lW l2 aG;have e3:(0-(b:Int)) = -(b:Int):=Int.zero_sub _;have r1:mT (canon (jI a ((!false),(1*2^24))).1 (jI a ((!false),(1*2^24))).2 (0-(b:Int))):=by rw[e3];exact X0 (Ip (k:=4000) l1 aG) hb
 have r2:mT (canon (jI a (false,(1*2^24))).1 (jI a (false,(1*2^24))).2 (0-(b:Int))):=by rw[e3];exact X0 (Ip (k:=4000) l2 aG) hb
 have v1:(canon (jI a ((!false),(1*2^24))).1 (jI a ((!false),(1*2^24))).2 (0-(b:Int))).ib:=X1 r1;have v2:(canon (jI a (false,(1*2^24))).1 (jI a (false,(1*2^24))).2 (0-(b:Int))).ib:=X1 r2;have hN:tN a b p=mj (kp (canon (jI a ((!false),(1*2^24))).1 (jI a ((!false),(1*2^24))).2 (0-(b:Int))) p false) (j8 (canon (jI a ((!false),(1*2^24))).1 (jI a ((!false),(1*2^24))).2 (0-(b:Int))) p false) (kp (canon (jI a (false,(1*2^24))).1 (jI a (false,(1*2^24))).2 (0-(b:Int))) p true) (j8 (canon (jI a (false,(1*2^24))).1 (jI a (false,(1*2^24))).2 (0-(b:Int))) p true):=by rw[e3];rfl
 exact ak call377 func377 (ae [.o 14 (.e yi:aj (.sl false 1 1 λi_ j_=>[.v (.int .u32 1)].getD (i_*1+j_) (.v (.bool false))) (ia (gW 1))),.c (A6 1 24 aF aE aF),ag [.agg [bP false,ia (gW (1*2^24))]] (xI (false,(1*2^24))),ag [.agg [bP a.1,ia (gW a.2)],.agg [bP (!false),ia (gW (1*2^24))]] (uc a aF ((!false),(1*2^24)) aF aF),ag [.agg [bP a.1,ia (gW a.2)],.agg [bP false,ia (gW (1*2^24))]] (uc a aF (false,(1*2^24)) aF aF),iq (0-(b:Int)) aE,ag [bP ((jI a ((!false),(1*2^24))).1),ia (gW ((jI a ((!false),(1*2^24))).2)),iP (0-(b:Int))] (yL _ _ _ aF aE aE aF),
  iq (0-(b:Int)) aE,ag [bP ((jI a (false,(1*2^24))).1),ia (gW ((jI a (false,(1*2^24))).2)),iP (0-(b:Int))] (yL _ _ _ aF aE aE aF),ai 45 ((0:Int) != 0) aG,ai 48 ((0:Int) != 0) aG,.c (Jo (canon ((jI a (!false,(1*2^24))).1) ((jI a (!false,(1*2^24))).2) (0-(b:Int))) p aF aE aE),.c (Jp (canon ((jI a (false,(1*2^24))).1) ((jI a (false,(1*2^24))).2) (0-(b:Int))) p aF aE aE)]<|.w ((j8 (canon ((jI a ((!false),(1*2^24))).1) ((jI a ((!false),(1*2^24))).2) (0-(b:Int))) p false)=0)
  (λk1=>ae [tB 64 (bg k1)]<|.w ((j8 (canon ((jI a (false,(1*2^24))).1) ((jI a (false,(1*2^24))).2) (0-(b:Int))) p true)=0)
   (λk2=>ae [tB 67 (bg k2)]<|rQ (ij (Iv.mk (kp (canon ((jI a ((!false),(1*2^24))).1) ((jI a ((!false),(1*2^24))).2) (0-(b:Int))) p false) (kp (canon ((jI a (false,(1*2^24))).1) ((jI a (false,(1*2^24))).2) (0-(b:Int))) p true) false)) (ij (tN a b p)) (by rw[hN,akc k1 k2]))
   (λk2=>ae [tB 67 (bh k2),.c nZ]<|rQ (ij gY) (ij (tN a b p)) (by rw[hN,XN (.inr k2)])))
  (λk1=>ae [tB 64 (bh k1),.c nZ]<|rQ (ij gY) (ij (tN a b p)) (by rw[hN,XN (.inl k1)]))) 
def aei(d:Dy)(p:Nat)(hd:d.ib)(h0:d.iI=0)(il:8<=p)(ic:p<=512):gV 353 [gZ d,bP true,iP p] (ij (jv 1)):=by
 have hv:=tH (n:=1) aG;exact ak call353 func353 (af [ag [gZ d] (nA _ aF),ah 14 ((Dy.iI d)==0) (by rw[h0];rfl),ag [iP 1] (rW _ aE),.c (BL (ja 1) aF)]) 
def aea(d:Dy)(p:Nat)(r s c:Bool×Nat)(hd:d.ib)(h0:d.iI≠0)(ql:gV 374 [gZ d,iP ((p+64:Nat):Int)] (.iw [.agg [bP r.1,ia (gW r.2)],iP 0]))(qm:gV 375 [.agg [bP r.1,ia (gW r.2)],iP ((p+64:Nat):Int)] (.iw [.agg [bP s.1,ia (gW s.2)],.agg [bP c.1,ia (gW c.2)]]))(zs:s.2<2^3000)(zc:c.2<2^3000)(il:8<=p)(ic:p<=512):gV 353 [gZ d,bP true,iP p] (ij (tN c (p+64) p)):=by
 have zk:c.2<2^3000:=zc;exact ak call353 func353 (af [ag [gZ d] (nA _ aF),ai 14 ((Dy.iI d)==0) (by simpa using h0),iq ((p:Int)+64) aE,ag [gZ d,iP ((p+64:Nat):Int)] ql,ag [.agg [bP r.1,ia (gW r.2)],iP ((p+64:Nat):Int)] qm,iq (0+1) aE,.a (aE:0<(4:Int)),.o 38 (aq (Int.tmod (0+1) 4) 1 aG),ah 40 ((1:Int)==1) aG,ag [.agg [bP c.1,ia (gW c.2)],iP ((p+64:Nat):Int),iP p] (A7 c _ _ aF aE aE aE)]) 
def aeb(d:Dy)(p:Nat)(r s c:Bool×Nat)(hd:d.ib)(h0:d.iI≠0)(ql:gV 374 [gZ d,iP ((p+64:Nat):Int)] (.iw [.agg [bP r.1,ia (gW r.2)],iP 1]))(qm:gV 375 [.agg [bP r.1,ia (gW r.2)],iP ((p+64:Nat):Int)] (.iw [.agg [bP s.1,ia (gW s.2)],.agg [bP c.1,ia (gW c.2)]]))(zs:s.2<2^3000)(zc:c.2<2^3000)(il:8<=p)(ic:p<=512):gV 353 [gZ d,bP true,iP p] (ij (tN ((!s.1),s.2) (p+64) p)):=by
 have zk:((!s.1),s.2).2<2^3000:=zs;exact ak call353 func353 (af [ag [gZ d] (nA _ aF),ai 14 ((Dy.iI d)==0) (by simpa using h0),iq ((p:Int)+64) aE,ag [gZ d,iP ((p+64:Nat):Int)] ql,ag [.agg [bP r.1,ia (gW r.2)],iP ((p+64:Nat):Int)] qm,iq (1+1) aE,.a (aE:0<(4:Int)),.o 38 (aq (Int.tmod (1+1) 4) 2 aG),ai 40 ((2:Int)==1) aG,ah 43 ((2:Int)==2) aG,ag [.agg [bP s.1,ia (gW s.2)]] (xI (s.1,s.2)),ag [.agg [bP (!s.1),ia (gW s.2)],iP ((p+64:Nat):Int),iP p] (A7 ((!s.1),s.2) _ _ aF aE aE aE)]) 
def aec(d:Dy)(p:Nat)(r s c:Bool×Nat)(hd:d.ib)(h0:d.iI≠0)(ql:gV 374 [gZ d,iP ((p+64:Nat):Int)] (.iw [.agg [bP r.1,ia (gW r.2)],iP 2]))(qm:gV 375 [.agg [bP r.1,ia (gW r.2)],iP ((p+64:Nat):Int)] (.iw [.agg [bP s.1,ia (gW s.2)],.agg [bP c.1,ia (gW c.2)]]))(zs:s.2<2^3000)(zc:c.2<2^3000)(il:8<=p)(ic:p<=512):gV 353 [gZ d,bP true,iP p] (ij (tN ((!c.1),c.2) (p+64) p)):=by
 have zk:((!c.1),c.2).2<2^3000:=zc;exact ak call353 func353 (af [ag [gZ d] (nA _ aF),ai 14 ((Dy.iI d)==0) (by simpa using h0),iq ((p:Int)+64) aE,ag [gZ d,iP ((p+64:Nat):Int)] ql,ag [.agg [bP r.1,ia (gW r.2)],iP ((p+64:Nat):Int)] qm,iq (2+1) aE,.a (aE:0<(4:Int)),.o 38 (aq (Int.tmod (2+1) 4) 3 aG),ai 40 ((3:Int)==1) aG,ai 43 ((3:Int)==2) aG,ah 47 ((3:Int)==3) aG,ag [.agg [bP c.1,ia (gW c.2)]] (xI (c.1,c.2)),ag [.agg [bP (!c.1),ia (gW c.2)],iP ((p+64:Nat):Int),iP p] (A7 ((!c.1),c.2) _ _ aF aE aE aE)]) 
def aed(d:Dy)(p:Nat)(r s c:Bool×Nat)(hd:d.ib)(h0:d.iI≠0)(ql:gV 374 [gZ d,iP ((p+64:Nat):Int)] (.iw [.agg [bP r.1,ia (gW r.2)],iP 3]))(qm:gV 375 [.agg [bP r.1,ia (gW r.2)],iP ((p+64:Nat):Int)] (.iw [.agg [bP s.1,ia (gW s.2)],.agg [bP c.1,ia (gW c.2)]]))(zs:s.2<2^3000)(zc:c.2<2^3000)(il:8<=p)(ic:p<=512):gV 353 [gZ d,bP true,iP p] (ij (tN s (p+64) p)):=by
 have zk:s.2<2^3000:=zs;exact ak call353 func353 (af [ag [gZ d] (nA _ aF),ai 14 ((Dy.iI d)==0) (by simpa using h0),iq ((p:Int)+64) aE,ag [gZ d,iP ((p+64:Nat):Int)] ql,ag [.agg [bP r.1,ia (gW r.2)],iP ((p+64:Nat):Int)] qm,iq (3+1) aE,.a (aE:0<(4:Int)),.o 38 (aq (Int.tmod (3+1) 4) 0 aG),ai 40 ((0:Int)==1) aG,ai 43 ((0:Int)==2) aG,ai 47 ((0:Int)==3) aG,ag [.agg [bP s.1,ia (gW s.2)],iP ((p+64:Nat):Int),iP p] (A7 s _ _ aF aE aE aE)]) 
def aej(d:Dy)(p:Nat)(hd:d.ib)(h0:d.iI=0)(il:8<=p)(ic:p<=512):gV 353 [gZ d,bP false,iP p] (ij (mJ d)):=
 ak call353 func353 (af [ag [gZ d] (nA _ aF),ah 14 ((Dy.iI d)==0) (by rw[h0];rfl),.c (BL d aF)]) 
def aee(d:Dy)(p:Nat)(r s c:Bool×Nat)(hd:d.ib)(h0:d.iI≠0)(ql:gV 374 [gZ d,iP ((p+64:Nat):Int)] (.iw [.agg [bP r.1,ia (gW r.2)],iP 0]))(qm:gV 375 [.agg [bP r.1,ia (gW r.2)],iP ((p+64:Nat):Int)] (.iw [.agg [bP s.1,ia (gW s.2)],.agg [bP c.1,ia (gW c.2)]]))(zs:s.2<2^3000)(zc:c.2<2^3000)(il:8<=p)(ic:p<=512):gV 353 [gZ d,bP false,iP p] (ij (tN s (p+64) p)):=by
 have zk:s.2<2^3000:=zs;exact ak call353 func353 (af [ag [gZ d] (nA _ aF),ai 14 ((Dy.iI d)==0) (by simpa using h0),iq ((p:Int)+64) aE,ag [gZ d,iP ((p+64:Nat):Int)] ql,ag [.agg [bP r.1,ia (gW r.2)],iP ((p+64:Nat):Int)] qm,.a (aE:0<(4:Int)),.o 38 (aq (Int.tmod 0 4) 0 aG),ai 40 ((0:Int)==1) aG,ai 43 ((0:Int)==2) aG,ai 47 ((0:Int)==3) aG,ag [.agg [bP s.1,ia (gW s.2)],iP ((p+64:Nat):Int),iP p] (A7 s _ _ aF aE aE aE)]) 
def aef(d:Dy)(p:Nat)(r s c:Bool×Nat)(hd:d.ib)(h0:d.iI≠0)(ql:gV 374 [gZ d,iP ((p+64:Nat):Int)] (.iw [.agg [bP r.1,ia (gW r.2)],iP 1]))(qm:gV 375 [.agg [bP r.1,ia (gW r.2)],iP ((p+64:Nat):Int)] (.iw [.agg [bP s.1,ia (gW s.2)],.agg [bP c.1,ia (gW c.2)]]))(zs:s.2<2^3000)(zc:c.2<2^3000)(il:8<=p)(ic:p<=512):gV 353 [gZ d,bP false,iP p] (ij (tN c (p+64) p)):=by
 have zk:c.2<2^3000:=zc;exact ak call353 func353 (af [ag [gZ d] (nA _ aF),ai 14 ((Dy.iI d)==0) (by simpa using h0),iq ((p:Int)+64) aE,ag [gZ d,iP ((p+64:Nat):Int)] ql,ag [.agg [bP r.1,ia (gW r.2)],iP ((p+64:Nat):Int)] qm,.a (aE:0<(4:Int)),.o 38 (aq (Int.tmod 1 4) 1 aG),ah 40 ((1:Int)==1) aG,ag [.agg [bP c.1,ia (gW c.2)],iP ((p+64:Nat):Int),iP p] (A7 c _ _ aF aE aE aE)]) 
def aeg(d:Dy)(p:Nat)(r s c:Bool×Nat)(hd:d.ib)(h0:d.iI≠0)(ql:gV 374 [gZ d,iP ((p+64:Nat):Int)] (.iw [.agg [bP r.1,ia (gW r.2)],iP 2]))(qm:gV 375 [.agg [bP r.1,ia (gW r.2)],iP ((p+64:Nat):Int)] (.iw [.agg [bP s.1,ia (gW s.2)],.agg [bP c.1,ia (gW c.2)]]))(zs:s.2<2^3000)(zc:c.2<2^3000)(il:8<=p)(ic:p<=512):gV 353 [gZ d,bP false,iP p] (ij (tN ((!s.1),s.2) (p+64) p)):=by
 have zk:((!s.1),s.2).2<2^3000:=zs;exact ak call353 func353 (af [ag [gZ d] (nA _ aF),ai 14 ((Dy.iI d)==0) (by simpa using h0),iq ((p:Int)+64) aE,ag [gZ d,iP ((p+64:Nat):Int)] ql,ag [.agg [bP r.1,ia (gW r.2)],iP ((p+64:Nat):Int)] qm,.a (aE:0<(4:Int)),.o 38 (aq (Int.tmod 2 4) 2 aG),ai 40 ((2:Int)==1) aG,ah 43 ((2:Int)==2) aG,ag [.agg [bP s.1,ia (gW s.2)]] (xI (s.1,s.2)),ag [.agg [bP (!s.1),ia (gW s.2)],iP ((p+64:Nat):Int),iP p] (A7 ((!s.1),s.2) _ _ aF aE aE aE)]) 
def aeh(d:Dy)(p:Nat)(r s c:Bool×Nat)(hd:d.ib)(h0:d.iI≠0)(ql:gV 374 [gZ d,iP ((p+64:Nat):Int)] (.iw [.agg [bP r.1,ia (gW r.2)],iP 3]))(qm:gV 375 [.agg [bP r.1,ia (gW r.2)],iP ((p+64:Nat):Int)] (.iw [.agg [bP s.1,ia (gW s.2)],.agg [bP c.1,ia (gW c.2)]]))(zs:s.2<2^3000)(zc:c.2<2^3000)(il:8<=p)(ic:p<=512):gV 353 [gZ d,bP false,iP p] (ij (tN ((!c.1),c.2) (p+64) p)):=by
 have zk:((!c.1),c.2).2<2^3000:=zc;exact ak call353 func353 (af [ag [gZ d] (nA _ aF),ai 14 ((Dy.iI d)==0) (by simpa using h0),iq ((p:Int)+64) aE,ag [gZ d,iP ((p+64:Nat):Int)] ql,ag [.agg [bP r.1,ia (gW r.2)],iP ((p+64:Nat):Int)] qm,.a (aE:0<(4:Int)),.o 38 (aq (Int.tmod 3 4) 3 aG),ai 40 ((3:Int)==1) aG,ai 43 ((3:Int)==2) aG,ah 47 ((3:Int)==3) aG,ag [.agg [bP c.1,ia (gW c.2)]] (xI (c.1,c.2)),ag [.agg [bP (!c.1),ia (gW c.2)],iP ((p+64:Nat):Int),iP p] (A7 ((!c.1),c.2) _ _ aF aE aE aE)]) 
def SO{d:Dy}(hd:d.ib)(ht:d.im<=100)(cs:Bool){p:Nat}(il:8<=p)(ic:p<=512):∃ Z,Z.ib/\gV 353 [gZ d,bP cs,iP (p:Int)] (ij Z):=by
 by_cases h0:d.iI=0
 .cases cs with
  |true=>exact⟨_,xj aG,aei d p hd h0 il ic⟩
  |false=>exact⟨_,wA hd,aej d p hd h0 il ic⟩
 .obtain ⟨r,k,hr,hk,ql⟩:=aek d (p+64) hd aE aE ht;obtain⟨s,c,zs,zc,qm⟩:=aer r (p+64) hr aE;have zs:=Ip zs (k:=3000) aE;have zc:=Ip zc (k:=3000) aE;have hv:∀ a:Bool×Nat,(tN a (p+64) p).ib:=λa=>akT a _ aE aE 
  rcases(aE:k=0\/k=1\/k=2\/k=3)with rfl|rfl|rfl|rfl
  .cases cs with
   |true=>exact⟨_,hv _,aea d p r s c hd h0 ql qm zs zc il ic⟩
   |false=>exact⟨_,hv _,aee d p r s c hd h0 ql qm zs zc il ic⟩
  .cases cs with
   |true=>exact⟨_,hv _,aeb d p r s c hd h0 ql qm zs zc il ic⟩
   |false=>exact⟨_,hv _,aef d p r s c hd h0 ql qm zs zc il ic⟩
  .cases cs with
   |true=>exact⟨_,hv _,aec d p r s c hd h0 ql qm zs zc il ic⟩
   |false=>exact⟨_,hv _,aeg d p r s c hd h0 ql qm zs zc il ic⟩
  .cases cs with
   |true=>exact⟨_,hv _,aed d p r s c hd h0 ql qm zs zc il ic⟩
   |false=>exact⟨_,hv _,aeh d p r s c hd h0 ql qm zs zc il ic⟩
def aix:(ja (-1)).neg=true/\(ja (-1)).m=1/\(ja (-1)).e=0:= aQ 
def aeu : gV 381 [iP (-1)] (.agg [bP true,ia (gW 1)]):=by
 obtain⟨q1,q2,q3⟩:=aix;have z1:(gW (ja (-1)).m).length<=256:=by rw[q2];exact uw aG 
 have z2:(gW ((ja (-1)).m*2^(Int.toNat (ja (-1)).e))).length<=256:=by rw[q2,q3];exact uw aG 
 exact ak call381 func381 (ae [ag [iP (-1)] (rW _ aE),ag [ia (gW ((ja (-1)).m)),iP ((ja (-1)).e)] (MO _ _ aF aE aE aF)]<|rQ (.agg [bP ((ja (-1)).neg),ia (gW (((ja (-1)).m)*2^(Int.toNat ((ja (-1)).e))))]) (.agg [bP true,ia (gW 1)]) (by rw[q1,q2,q3];rfl)) 
def adW(a c:Bool×Nat)(za:(gW a.2).length<=256)(zc:(gW c.2).length<=256)(c0:c.2≠0)(zs:(gW (a.2/c.2+1)).length<=256)(h1:a.1=false):gV 383 [.agg [bP a.1,ia (gW a.2)],.agg [bP c.1,ia (gW c.2)]] (.agg [bP ((qc a c).1),ia (gW ((qc a c).2))]):=by
 have zq:(gW (a.2/c.2)).length<=256:=bA (mO (b7 _ _)) za;have zr:(gW (a.2%c.2)).length<=256:=bA (mO (eG _ _)) za;have z1:(gW 1).length<=256:=uw aG;have e:qc a c=(a.1,a.2/c.2):=by unfold qc;rw[bj (by rw[h1];exact λq=>Bool.noConfusion q.1)]
 exact ak call383 func383 (ae [ag [ia (gW a.2),ia (gW c.2)] (Av _ _ aE aE aF),ai 19 a.1 h1,ai 23 a.1 h1]<|rQ (.agg [bP false,ia (gW (a.2/c.2))]) (.agg [bP ((qc a c).1),ia (gW ((qc a c).2))]) (by rw[e,h1])) 
def adT(a c:Bool×Nat)(za:(gW a.2).length<=256)(zc:(gW c.2).length<=256)(c0:c.2≠0)(zs:(gW (a.2/c.2+1)).length<=256)(h1:a.1=true)(h2:a.2%c.2=0):gV 383 [.agg [bP a.1,ia (gW a.2)],.agg [bP c.1,ia (gW c.2)]] (.agg [bP ((qc a c).1),ia (gW ((qc a c).2))]):=by
 have zq:(gW (a.2/c.2)).length<=256:=bA (mO (b7 _ _)) za;have zr:(gW (a.2%c.2)).length<=256:=bA (mO (eG _ _)) za;have z1:(gW 1).length<=256:=uw aG;have e:qc a c=(a.1,a.2/c.2):=by unfold qc;rw[bj (λq=>q.2 h2)]
 exact ak call383 func383 (ae [ag [ia (gW a.2),ia (gW c.2)] (Av _ _ aE aE aF),ah 19 a.1 h1,ah 23 a.1 h1,ag [ia (gW (a.2%c.2))] (tf _ aE),tF 27 (0<(ie (a.2%c.2):Int)) (by rw[h2,rX];decide)]<|rQ (.agg [bP true,ia (gW (a.2/c.2))]) (.agg [bP ((qc a c).1),ia (gW ((qc a c).2))]) (by rw[e,h1])) 
def adU(a c:Bool×Nat)(za:(gW a.2).length<=256)(zc:(gW c.2).length<=256)(c0:c.2≠0)(zs:(gW (a.2/c.2+1)).length<=256)(h1:a.1=true)(h2:a.2%c.2≠0):gV 383 [.agg [bP a.1,ia (gW a.2)],.agg [bP c.1,ia (gW c.2)]] (.agg [bP ((qc a c).1),ia (gW ((qc a c).2))]):=by
 have zq:(gW (a.2/c.2)).length<=256:=bA (mO (b7 _ _)) za;have zr:(gW (a.2%c.2)).length<=256:=bA (mO (eG _ _)) za;have z1:(gW 1).length<=256:=uw aG;have e:qc a c=jI (a.1,a.2/c.2) (true,1):=by unfold qc;rw[bk ⟨h1,h2⟩]
 exact ak call383 func383 (ae [ag [ia (gW a.2),ia (gW c.2)] (Av _ _ aE aE aF),ah 19 a.1 h1,ah 23 a.1 h1,ag [ia (gW (a.2%c.2))] (tf _ aE),tT 27 (0<(ie (a.2%c.2):Int)) (by have:=ny h2;omega),.c aeu,ag [.agg [bP true,ia (gW (a.2/c.2))],.agg [bP true,ia (gW 1)]] (uc (true,(a.2/c.2)) aF (true,1) aF aF)]<|rQ (.agg [bP ((jI (true,(a.2/c.2)) (true,1)).1),ia (gW ((jI (true,(a.2/c.2)) (true,1)).2))]) (.agg [bP ((qc a c).1),ia (gW ((qc a c).2))]) (by rw[e,h1])) 
def adV(a c:Bool×Nat)(za:(gW a.2).length<=256)(zc:(gW c.2).length<=256)(c0:c.2≠0)(zs:(gW (a.2/c.2+1)).length<=256):gV 383 [.agg [bP a.1,ia (gW a.2)],.agg [bP c.1,ia (gW c.2)]] (.agg [bP ((qc a c).1),ia (gW ((qc a c).2))]):=by
 cases h1:a.1 with
 |false=>rw[<-h1];exact adW a c za zc c0 zs h1
 |true=>
  rw[<-h1];by_cases h2:a.2%c.2=0
  .exact adT a c za zc c0 zs h1 h2
  .exact adU a c za zc c0 zs h1 h2
def ad4(x:Iv)(n p t w2 sg eg mm:Nat)(cp u v c1 a0 a1 k l0 d0 d1:Bool×Nat)(hx:x.ib)(xa:x.all=false)(hn:n<=3)(ic:p<=2000)(ht:(t:Int)=max (max x.lo.im x.hi.im) 0)(t2:t<=2000)(zd:(gW d1.2).length<=256)(sC:gV 378 [iP (((p+t)+40:Nat):Int)] (.agg [bP cp.1,ia (gW cp.2)]))(hU:gV 384 [gZ x.hi,iP (((p+t)+40:Nat):Int)] (.agg [bP u.1,ia (gW u.2)]))(hV:gV 384 [gZ x.lo,iP (((p+t)+40:Nat):Int)] (.agg [bP v.1,ia (gW v.2)]))(hW:gV 379 [ia (gW cp.2),iP ((1:Nat):Int)] (ia (gW w2)))(Et:gV 382 [.agg [bP false,ia (gW n)],.agg [bP cp.1,ia (gW cp.2)],iP ((0:Nat):Int)] (.agg [bP c1.1,ia (gW c1.2)]))(hS:gV 380 [ia (gW c1.2),iP ((1:Nat):Int)] (ia (gW sg)))(hE:gV 379 [ia (gW 1),iP (((t+24)+4:Nat):Int)] (ia (gW eg)))(vL:gV 385 [.agg [bP u.1,ia (gW u.2)],.agg [bP (!false),ia (gW sg)]] (.agg [bP a0.1,ia (gW a0.2)]))(qT:gV 385 [.agg [bP a0.1,ia (gW a0.2)],.agg [bP false,ia (gW eg)]] (.agg [bP a1.1,ia (gW a1.2)]))(hK:gV 383 [.agg [bP a1.1,ia (gW a1.2)],.agg [bP false,ia (gW w2)]] (.agg [bP k.1,ia (gW k.2)]))(hM:gV 234 [ia (gW k.2),ia (gW w2)] (.iw [ia (gW mm),iP 0]))(wV:gV 385 [.agg [bP k.1,ia (gW mm)],.agg [bP false,ia (gW sg)]] (.agg [bP l0.1,ia (gW l0.2)]))(yP:gV 385 [.agg [bP l0.1,ia (gW l0.2)],.agg [bP (!v.1),ia (gW v.2)]] (.agg [bP d0.1,ia (gW d0.2)]))(r8:gV 385 [.agg [bP d0.1,ia (gW d0.2)],.agg [bP false,ia (gW eg)]] (.agg [bP d1.1,ia (gW d1.2)]))(hz:d1.2=0):gV 354 [ij x,iP n,iP p] (bP true):=by
 obtain⟨w1,w2'⟩:=hx.ko;have z1:(gW 1).length<=256:=uw aG;exact ak call354 func354 (af [ag [gZ x.lo] (mW _ aF),ag [gZ x.hi] (mW _ aF),.o 24 (aq (if 0>(if(Dy.im x.hi)>(Dy.im x.lo)then(Dy.im x.hi)else(Dy.im x.lo))then 0 else(if(Dy.im x.hi)>(Dy.im x.lo)then(Dy.im x.hi)else(Dy.im x.lo))) t (by(repeat' split)<;>omega)),
  iq ((p:Int)+t) aE,iq (((p+t:Nat):Int)+40) aE,ag [iP (((p+t)+40:Nat):Int)] sC,ag [ia (gW cp.2),iP 1] hW,.c (MR n aE),ag [.agg [bP false,ia (gW n)],.agg [bP cp.1,ia (gW cp.2)],iP 0] Et,ag [ia (gW c1.2),iP 1] hS,.o 42 (.e yi:aj (.sl false 1 1 λi_ j_=>[.v (.int .u32 1)].getD (i_*1+j_) (.v (.bool false))) (ia (gW 1))),iq ((t:Int)+24) aE,iq (((t+24:Nat):Int)+4) aE,ag [ia (gW 1),iP (((t+24)+4:Nat):Int)] hE,ag [gZ x.hi,iP (((p+t)+40:Nat):Int)] hU,ag [.agg [bP false,ia (gW sg)]] (xI (false,sg)),ag [.agg [bP u.1,ia (gW u.2)],.agg [bP (!false),ia (gW sg)]] vL,ag [.agg [bP a0.1,ia (gW a0.2)],.agg [bP false,ia (gW eg)]] qT,ag [.agg [bP a1.1,ia (gW a1.2)],.agg [bP false,ia (gW w2)]] hK,ag [ia (gW k.2),ia (gW w2)] hM,ag [.agg [bP k.1,ia (gW mm)],.agg [bP false,ia (gW sg)]] wV,ag [gZ x.lo,iP (((p+t)+40:Nat):Int)] hV,ag [.agg [bP v.1,ia (gW v.2)]] (xI (v.1,v.2)),ag [.agg [bP l0.1,ia (gW l0.2)],.agg [bP (!v.1),ia (gW v.2)]] yP,ag [.agg [bP d0.1,ia (gW d0.2)],.agg [bP false,ia (gW eg)]] r8,ag [.agg [bP d1.1,ia (gW d1.2)]] (Er (d1.1,d1.2) aF),tB 83 (bn hz)]) 
def ad3(x:Iv)(n p t w2 sg eg mm:Nat)(cp u v c1 a0 a1 k l0 d0 d1:Bool×Nat)(hx:x.ib)(xa:x.all=false)(hn:n<=3)(ic:p<=2000)(ht:(t:Int)=max (max x.lo.im x.hi.im) 0)(t2:t<=2000)(zd:(gW d1.2).length<=256)(sC:gV 378 [iP (((p+t)+40:Nat):Int)] (.agg [bP cp.1,ia (gW cp.2)]))(hU:gV 384 [gZ x.hi,iP (((p+t)+40:Nat):Int)] (.agg [bP u.1,ia (gW u.2)]))(hV:gV 384 [gZ x.lo,iP (((p+t)+40:Nat):Int)] (.agg [bP v.1,ia (gW v.2)]))(hW:gV 379 [ia (gW cp.2),iP ((1:Nat):Int)] (ia (gW w2)))(Et:gV 382 [.agg [bP false,ia (gW n)],.agg [bP cp.1,ia (gW cp.2)],iP ((0:Nat):Int)] (.agg [bP c1.1,ia (gW c1.2)]))(hS:gV 380 [ia (gW c1.2),iP ((1:Nat):Int)] (ia (gW sg)))(hE:gV 379 [ia (gW 1),iP (((t+24)+4:Nat):Int)] (ia (gW eg)))(vL:gV 385 [.agg [bP u.1,ia (gW u.2)],.agg [bP (!false),ia (gW sg)]] (.agg [bP a0.1,ia (gW a0.2)]))(qT:gV 385 [.agg [bP a0.1,ia (gW a0.2)],.agg [bP false,ia (gW eg)]] (.agg [bP a1.1,ia (gW a1.2)]))(hK:gV 383 [.agg [bP a1.1,ia (gW a1.2)],.agg [bP false,ia (gW w2)]] (.agg [bP k.1,ia (gW k.2)]))(hM:gV 234 [ia (gW k.2),ia (gW w2)] (.iw [ia (gW mm),iP 0]))(wV:gV 385 [.agg [bP k.1,ia (gW mm)],.agg [bP false,ia (gW sg)]] (.agg [bP l0.1,ia (gW l0.2)]))(yP:gV 385 [.agg [bP l0.1,ia (gW l0.2)],.agg [bP (!v.1),ia (gW v.2)]] (.agg [bP d0.1,ia (gW d0.2)]))(r8:gV 385 [.agg [bP d0.1,ia (gW d0.2)],.agg [bP false,ia (gW eg)]] (.agg [bP d1.1,ia (gW d1.2)]))(hz:¬d1.2=0):gV 354 [ij x,iP n,iP p] (bP (!d1.1)):=by
 obtain⟨w1,w2'⟩:=hx.ko;have z1:(gW 1).length<=256:=uw aG;exact ak call354 func354 (af [ag [gZ x.lo] (mW _ aF),ag [gZ x.hi] (mW _ aF),.o 24 (aq (if 0>(if(Dy.im x.hi)>(Dy.im x.lo)then(Dy.im x.hi)else(Dy.im x.lo))then 0 else(if(Dy.im x.hi)>(Dy.im x.lo)then(Dy.im x.hi)else(Dy.im x.lo))) t (by(repeat' split)<;>omega)),
  iq ((p:Int)+t) aE,iq (((p+t:Nat):Int)+40) aE,ag [iP (((p+t)+40:Nat):Int)] sC,ag [ia (gW cp.2),iP 1] hW,.c (MR n aE),ag [.agg [bP false,ia (gW n)],.agg [bP cp.1,ia (gW cp.2)],iP 0] Et,ag [ia (gW c1.2),iP 1] hS,.o 42 (.e yi:aj (.sl false 1 1 λi_ j_=>[.v (.int .u32 1)].getD (i_*1+j_) (.v (.bool false))) (ia (gW 1))),iq ((t:Int)+24) aE,iq (((t+24:Nat):Int)+4) aE,ag [ia (gW 1),iP (((t+24)+4:Nat):Int)] hE,ag [gZ x.hi,iP (((p+t)+40:Nat):Int)] hU,ag [.agg [bP false,ia (gW sg)]] (xI (false,sg)),ag [.agg [bP u.1,ia (gW u.2)],.agg [bP (!false),ia (gW sg)]] vL,ag [.agg [bP a0.1,ia (gW a0.2)],.agg [bP false,ia (gW eg)]] qT,ag [.agg [bP a1.1,ia (gW a1.2)],.agg [bP false,ia (gW w2)]] hK,ag [ia (gW k.2),ia (gW w2)] hM,ag [.agg [bP k.1,ia (gW mm)],.agg [bP false,ia (gW sg)]] wV,ag [gZ x.lo,iP (((p+t)+40:Nat):Int)] hV,ag [.agg [bP v.1,ia (gW v.2)]] (xI (v.1,v.2)),ag [.agg [bP l0.1,ia (gW l0.2)],.agg [bP (!v.1),ia (gW v.2)]] yP,ag [.agg [bP d0.1,ia (gW d0.2)],.agg [bP false,ia (gW eg)]] r8,ag [.agg [bP d1.1,ia (gW d1.2)]] (Er (d1.1,d1.2) aF),tB 83 (bt hz)]) 
def Gl{a b:Bool×Nat}{i j n:Nat}(ha:a.2<2^i)(hb:b.2<2^j)(hi:i<=n)(hj:j<=n)(hn:n<=8000):∃ r:Bool×Nat,r.2<2^(n+1)/\gV 385 [.agg [bP a.1,ia (gW a.2)],.agg [bP b.1,ia (gW b.2)]] (.agg [bP r.1,ia (gW r.2)]):=
 ⟨jI a b,ags ha hb hi hj,uc a (lW ha aE) b (lW hb aE) (lW (Ln ha hb hi hj) aE)⟩
def ad2{x:Iv}(hx:x.ib)(xa:x.all=false)(n:Nat)(hn:n<=3)(p:Nat)(ic:p<=1000)(h1:x.lo.im<=100)(h2:x.hi.im<=100):∃ r:Bool,gV 354 [ij x,iP (n:Int),iP (p:Int)] (bP r):=by
 obtain⟨w1,w2⟩:=hx.ko;obtain⟨t,ht⟩:∃ t:Nat,(t:Int)=max (max x.lo.im x.hi.im) 0:=⟨(max (max x.lo.im x.hi.im) 0).toNat,aE⟩
 obtain⟨cp,c1,c2,c3,sC⟩:=SN (p+t+40) aE aE;have hU:=MQ x.hi w2 (p+t+40) 6000 aE aG aE;have hV:=MQ x.lo w1 (p+t+40) 6000 aE aG aE;have yu:=Ld (d:=x.hi) (b:=p+t+40) (K:=6000) aE;have yv:=Ld (d:=x.lo) (b:=p+t+40) (K:=6000) aE;have yc:=Ip (m:=cp.2) (i:=p+t+40+3) (k:=2000) (by have e:(2:Nat)^(p+t+40+3)=2^(p+t+40)*8:=bB 2 _ 3;have:0<2^(p+t+40):=bD aG;omega) aE;generalize sr x.hi (p+t+40)=u at hU yu;generalize sr x.lo (p+t+40)=v at hV yv;obtain⟨K,hK⟩:∃ K,K=6000:=⟨_,rfl⟩
 rw[<-hK]at yu yv;obtain⟨J,hJ⟩:∃ J,J=2000:=⟨_,rfl⟩
 rw[<-hJ]at yc;have zc:(gW cp.2).length<=256:=lW yc aE;have yw:cp.2*2^1<2^(J+1):=by have e:2^(J+1)=2^J*2:=bI _ _;omega
 have hW:=A6 cp.2 1 zc aG (lW yw aE);have w0:cp.2*2^1≠0:= aE ;generalize cp.2*2^1=w at hW yw w0;have yn:n*cp.2<2^(J+2):=by have e:2^(J+2)=2^J*4:=bB 2 J 2;have:=bW cp.2 hn;omega
 have Et:=Nw (false,n) (uw (by show n<_;omega)) cp zc 0 aG (lW yn aE);have y1:n*cp.2/2^0<2^(J+2):=cC (b7 _ _) yn;obtain⟨q,hq⟩:∃ q:Bool×Nat,q=(false != cp.1,n*cp.2/2^0):=⟨_,rfl⟩
 have yq:q.2<2^(J+2):=by rw[hq];exact y1
 have Gz:gV 382 [.agg [bP false,ia (gW n)],.agg [bP cp.1,ia (gW cp.2)],iP ((0:Nat):Int)] (.agg [bP q.1,ia (gW q.2)]):=by rw[hq];exact Et
 clear Et hq;have hS:=xD q.2 1 (lW yq aE) aG;have ys:q.2/2^1<2^(J+2):=cC (b7 _ _) yq;generalize q.2/2^1=sg at hS ys;have ye:1*2^(t+24+4)<2^K:=by rw[b9];exact gP aG aE 
 have hE:=A6 1 (t+24+4) (uw aG) aE (lW ye aE);generalize 1*2^(t+24+4)=eg at hE ye;obtain⟨a0,x0,vL⟩:=Gl (b:=(!false,sg)) yu ys (n:=K) aE aE aE;obtain⟨a1,x1,qT⟩:=Gl (b:=(false,eg)) x0 ye (n:=K+1) aE aE aE;have yf:a1.2/w+1<2^(K+3):=by
  have e:2^(K+3)=2^(K+1+1)*2:=bI _ _;have:=b7 a1.2 w;have:0<2^(K+1+1):=bD aG;omega
 have hF:=adV a1 (false,w) (lW x1 aE) (lW yw aE) w0 (lW yf aE);have yk:=cC (U5 a1 (false,w)) yf;have ym:(qc a1 (false,w)).2*w<2^(K+3):=cC (agy a1 (false,w)) (Ln (n:=K+2) x1 yw aE aE);generalize qc a1 (false,w)=k at hF yk ym;have hM:=ze k.2 w (lW yk aE) (lW yw aE) (lW ym aE);generalize k.2*w=mm at hM ym;obtain⟨l0,x2,wV⟩:=Gl (a:=(k.1,mm)) (b:=(false,sg)) ym ys (n:=K+3) aE aE aE;obtain⟨d0,x3,yP⟩:=Gl (b:=(!v.1,v.2)) x2 yv (n:=K+4) aE aE aE;obtain⟨d1,x4,r8⟩:=Gl (b:=(false,eg)) x3 ye (n:=K+5) aE aE aE;by_cases hz:d1.2=0
 .exact ⟨_,ad4 x n p t w sg eg mm cp u v q a0 a1 k l0 d0 d1 hx xa hn aE ht aE (lW x4 aE) sC hU hV hW Gz hS hE vL qT hF hM wV yP r8 hz⟩
 .exact ⟨_,ad3 x n p t w sg eg mm cp u v q a0 a1 k l0 d0 d1 hx xa hn aE ht aE (lW x4 aE) sC hU hV hW Gz hS hE vL qT hF hM wV yP r8 hz⟩
def lN:Iv:=⟨ja (-1),ja 1,false⟩
def AN:lN.ib:=.inr ⟨rfl,show(ja (-1)).ib from tH aG,show(ja 1).ib from tH aG,aQ⟩
def zP : gV 352 [] (ij lN):=by
 have h1:(ja (-1)).ib:=tH aG;have h2:(ja 1).ib:=tH aG;exact ak call352 func352 (ae [ag [iP (-1)] (rW _ aE),ag [iP 1] (rW _ aE)]<|rR (ij lN) (.iT rfl:E.le (ij (Iv.mk (ja (-1)) (ja 1) false)) (ij lN))) 
def acx(x y:Iv)(hx:x.ib)(hy:y.ib)(xa:(x.all||y.all)=true):gV 242 [ij x,ij y] (ij gY):=
 ak call242 func242 (af [.o 7 (.e (Ar _ _):aj (.sl true 2 7 λi_ j_=>(iO x++iO y).getD (i_*7+j_) (.v (.bool false))) (ig [x,y])),ag [ig [x,y]] (Aq _ _ aF aF),ai 8 (!(x.all||y.all)) (by rw[xa];rfl),.c nZ]) 
def acy{x y:Iv}(hx:x.ib)(hy:y.ib):∃ Z,Z.ib/\gV 242 [ij x,ij y] (ij Z):=by
 cases h:(x.all||y.all)with
 |true=>exact⟨gY,mg,acx x y hx hy h⟩
 |false=>
  obtain⟨h1,h2⟩:=eW.1 h;exact⟨qI x y,Wp hx hy,Sm x y hx hy h1 h2⟩
def acG(x:Iv)(hx:x.ib)(xa:x.all=true):gV 142 [ij x,ij lN] (.iw [ij lN,bP true]):=by
 have hu:=AN;exact ak call142 func142 (af [.c (se x aF),.c (se lN aF),ah 19 x.all xa]) 
def acI(x:Iv)(hx:x.ib)(xa:x.all=false)(h:0<iL (iW x.lo lN.lo) (jj x.hi lN.hi)):gV 142 [ij x,ij lN] (.iw [ij zE,bP false]):=by
 have hu:=AN;obtain⟨v1,v2⟩:=hx.ko;obtain⟨v3,v4⟩:=hu.ko;have m1:=vf v1 v3;have m2:=yb v2 v4;exact ak call142 func142 (ae [.c (se x aF),.c (se lN aF),ai 19 x.all xa,ai 23 lN.all rfl,.c (KR x.lo lN.lo aF aF),.c (KQ x.hi lN.hi aF aF),ag [gZ (iW x.lo lN.lo),gZ (jj x.hi lN.hi)] (lp _ _ aF aF),tB 41 (bn h)]<|rR (.iw [ij zE,bP false]) (.iw (.cons abJ (.cons (.refl _) .nil)):E.le (.iw [.agg au,bP false]) (.iw [ij zE,bP false]))) 
def acJ(x:Iv)(hx:x.ib)(xa:x.all=false)(h:¬0<iL (iW x.lo lN.lo) (jj x.hi lN.hi)):gV 142 [ij x,ij lN] (.iw [ij (Iv.mk (iW x.lo lN.lo) (jj x.hi lN.hi) false),bP true]):=by
 have hu:=AN;obtain⟨v1,v2⟩:=hx.ko;obtain⟨v3,v4⟩:=hu.ko;have m1:=vf v1 v3;have m2:=yb v2 v4;exact ak call142 func142 (af [.c (se x aF),.c (se lN aF),ai 19 x.all xa,ai 23 lN.all rfl,.c (KR x.lo lN.lo aF aF),.c (KQ x.hi lN.hi aF aF),ag [gZ (iW x.lo lN.lo),gZ (jj x.hi lN.hi)] (lp _ _ aF aF),tB 41 (bt h)]) 
structure zF(Y:Iv):Prop where
 v:Y.ib
 f:Y.all=false
 l:iL lN.lo Y.lo<=0
 h:iL Y.hi lN.hi<=0
def ao7:zF lN:=⟨AN,rfl,aQ,aQ⟩
def acH{x:Iv}(hx:x.ib):(∃ Y,zF Y/\gV 142 [ij x,ij lN] (.iw [ij Y,bP true]))\/gV 142 [ij x,ij lN] (.iw [ij zE,bP false]):=by
 cases xa:x.all with
 |true=>exact .inl ⟨lN,ao7,acG x hx xa⟩
 |false=>
  by_cases h:0<iL (iW x.lo lN.lo) (jj x.hi lN.hi)
  .exact .inr (acI x hx xa h)
  .have v1:(iW x.lo lN.lo).ib:=vf hx.ko.1 AN.ko.1;have v2:(jj x.hi lN.hi).ib:=yb hx.ko.2 AN.ko.2;have h1:iL lN.lo (iW x.lo lN.lo)<=0:=XW _ _;have h2:iL (jj x.hi lN.hi) lN.hi<=0:=XX _ _;have hq:=acJ x hx xa h;have h3:iL (iW x.lo lN.lo) (jj x.hi lN.hi)<=0:= aE ;generalize iW x.lo lN.lo=a at *
   generalize jj x.hi lN.hi=b at *
   exact .inl ⟨⟨a,b,false⟩,⟨.inr ⟨rfl,v1,v2,h3⟩,rfl,h1,h2⟩,hq⟩
def zF.up{Y:Iv}(h:zF Y):zF ⟨Y.lo,ja 1,false⟩:=by
 have e:=h.v.ko;refine⟨.inr ⟨rfl,e.1,tH (n:=1) aG,?_⟩,rfl,h.l,show iL (ja 1) (ja 1)<=0 by decide +kernel⟩;have:=h.v.q;rw[oY];exact bQ this ((oY _ _).1 h.h)
def zF.dn{Y:Iv}(h:zF Y):zF ⟨ja (-1),Y.hi,false⟩:=by
 have e:=h.v.ko;refine⟨.inr ⟨rfl,tH (n:=-1) aG,e.2,?_⟩,rfl,show iL (ja (-1)) (ja (-1))<=0 by decide +kernel,h.h⟩;have:=h.v.q;rw[oY];exact bQ ((oY _ _).1 h.l) this
def Jx(p:Nat)(il:8<=p)(ic:p<=512):gV 351 [iP p] (bP true):=
 ak call351 func351 (af [tT 4 (8<=(p:Int)) aE,tT 7 ((p:Int)<=512) aE]) 
def adB(x:Iv)(cs:Bool)(p:Nat)(hx:x.ib)(xa:x.all=true)(il:8<=p)(ic:p<=512):gV 332 [ij x,bP cs,iP p] (ij gY):=
 ak call332 func332 (af [.c (Jx p aE aE),.c (se x aF),ah 22 x.all xa,.c nZ]) 
def adE(x:Iv)(cs:Bool)(p:Nat)(hx:x.ib)(xa:x.all=false)(il:8<=p)(ic:p<=512)(hu:100<x.lo.im\/100<x.hi.im\/¬wJ x 64=0\/0<=iL (pd x 64) (ja 7)):gV 332 [ij x,bP cs,iP p] (ij lN):=by
 obtain⟨w1,w2⟩:=hx.ko;have h7:(ja 7).ib:=tH aG;have wv:(pd x 64).ib:=xq _ aG aG _;exact ak call332 func332 (ae [.c (Jx p aE aE),.c (se x aF),ai 22 x.all xa,ag [gZ x.lo] (mW _ aF)]<|.w (100<(Dy.im x.lo))
  (λk1=>af [tB 28 (bn k1),.c zP])
  (λk1=>ae [tB 28 (bt k1),ag [gZ x.hi] (mW _ aF)]<|.w (100<(Dy.im x.hi))
   (λk2=>af [tB 33 (bn k2),.c zP])
   (λk2=>ae [tB 33 (bt k2),.c (Ec x 64 aF aF aE aE)]<|.w (wJ x 64=0)
    (λk3=>ae [tB 40 (bn k3),ag [iP 7] (rW _ aE),ag [gZ (pd x 64),gZ (ja 7)] (lp _ _ aF aF)]<|.w (0<=(iL (pd x 64) (ja 7)))
     (λk4=>af [tB 47 (bn k4),.c zP])
     (λk4=>.x (by rcases hu with q|q|q|q<;>contradiction)))
    (λk3=>af [tB 40 (bt k3),.c zP])))) 
def adD(x:Iv)(cs:Bool)(p:Nat)(hx:x.ib)(xa:x.all=false)(il:8<=p)(ic:p<=512)(h1:¬100<x.lo.im)(h2:¬100<x.hi.im)(h3:wJ x 64=0)(h4:¬0<=iL (pd x 64) (ja 7))(P1 P2 H:Iv)(yR:∀ c,c=cs->gV 353 [gZ x.lo,bP c,iP (p:Int)] (ij P1))(yS:∀ c,c=cs->gV 353 [gZ x.hi,bP c,iP (p:Int)] (ij P2))(hH:gV 242 [ij P1,ij P2] (ij H))(wW:gV 142 [ij H,ij lN] (.iw [ij zE,bP false])):gV 332 [ij x,bP cs,iP p] (ij lN):=by
 obtain⟨w1,w2⟩:=hx.ko;have h7:(ja 7).ib:=tH aG;have wv:(pd x 64).ib:=xq _ aG aG _;exact ak call332 func332 (af [.c (Jx p aE aE),.c (se x aF),ai 22 x.all xa,ag [gZ x.lo] (mW _ aF),tB 28 (bt h1),ag [gZ x.hi] (mW _ aF),tB 33 (bt h2),.c (Ec x 64 aF aF aE aE),tB 40 (bn h3),ag [iP 7] (rW _ aE),ag [gZ (pd x 64),gZ (ja 7)] (lp _ _ aF aF),tB 47 (bt h4),ag [gZ x.lo,bP cs,iP p] (yR cs aK),ag [gZ x.hi,bP cs,iP p] (yS cs aK),ag [ij P1,ij P2] hH,.c zP,ag [ij H,ij lN] wW,.c zP]) 
def ru(cs:Bool)(R:Nat->Bool)(x Y:Iv):Iv:=if iL x.lo x.hi=0 then Y else⟨if R (if cs=true then 2 else 3)=true then ja (-1)else Y.lo,if R (if cs=true then 0 else 1)=true then ja 1 else Y.hi,Y.all⟩
def adC(x:Iv)(cs:Bool)(p:Nat)(hx:x.ib)(xa:x.all=false)(il:8<=p)(ic:p<=512)(h1:¬100<x.lo.im)(h2:¬100<x.hi.im)(h3:wJ x 64=0)(h4:¬0<=iL (pd x 64) (ja 7))(P1 P2 H Y:Iv)(hY:zF Y)(yR:∀ c,c=cs->gV 353 [gZ x.lo,bP c,iP (p:Int)] (ij P1))(yS:∀ c,c=cs->gV 353 [gZ x.hi,bP c,iP (p:Int)] (ij P2))(hH:gV 242 [ij P1,ij P2] (ij H))(wW:gV 142 [ij H,ij lN] (.iw [ij Y,bP true]))(R:Nat->Bool)(hM:∀ s:Nat,s<=3->gV 354 [ij x,iP (s:Int),iP ((p+64:Nat):Int)] (bP (R s))):gV 332 [ij x,bP cs,iP p] (ij (ru cs R x Y)):=by
 obtain⟨w1,w2⟩:=hx.ko;have h7:(ja 7).ib:=tH aG;have wv:(pd x 64).ib:=xq _ aG aG _;exact ak call332 func332 (ae [.c (Jx p aE aE),.c (se x aF),ai 22 x.all xa,ag [gZ x.lo] (mW _ aF),tB 28 (bt h1),ag [gZ x.hi] (mW _ aF),tB 33 (bt h2),.c (Ec x 64 aF aF aE aE),tB 40 (bn h3),ag [iP 7] (rW _ aE),ag [gZ (pd x 64),gZ (ja 7)] (lp _ _ aF aF),tB 47 (bt h4)]<|.w ((iL x.lo x.hi)=0)
  (λk1=>ae [ag [gZ x.lo,bP cs,iP p] (yR cs aK),ag [gZ x.hi,bP cs,iP p] (yS cs aK),ag [ij P1,ij P2] hH,.c zP,ag [ij H,ij lN] wW,ag [gZ x.lo,gZ x.hi] (lp _ _ aF aF),tB 74 (bc k1)]<|rQ (ij Y) (ij (ru cs R x Y)) (by unfold ru;simp[k1]))
  (λk1=>.w (cs=true)
   (λk2=>ae [tB 53 k2,ag [gZ x.lo,bP true,iP p] (yR true (by simp[k2])),tB 58 k2,ag [gZ x.hi,bP true,iP p] (yS true (by simp[k2])),ag [ij P1,ij P2] hH,.c zP,ag [ij H,ij lN] wW,ag [gZ x.lo,gZ x.hi] (lp _ _ aF aF),tB 74 (a7 k1),tB 76 k2,
    iq ((p:Int)+64) aE,ag [ij x,iP 0,iP ((p+64:Nat):Int)] (hM 0 aG)]<|.w (R 0=true)
    (λk3=>ae [tB 81 k3,ag [iP 1] (rW _ aE),iq ((p:Int)+64) aE,ag [ij x,iP 2,iP ((p+64:Nat):Int)] (hM 2 aG)]<|.w (R 2=true)
     (λk4=>ae [tB 88 k4,ag [iP (-1)] (rW _ aE)]<|rQ (ij (Iv.mk (ja (-1)) (ja 1) Y.all)) (ij (ru cs R x Y)) (by unfold ru;simp[k1,k2,k3,k4]))
     (λk4=>ae [tB 88 (bd k4)]<|rQ (ij (Iv.mk Y.lo (ja 1) Y.all)) (ij (ru cs R x Y)) (by unfold ru;simp[k1,k2,k3,k4])))
    (λk3=>ae [tB 81 (bd k3),iq ((p:Int)+64) aE,ag [ij x,iP 2,iP ((p+64:Nat):Int)] (hM 2 aG)]<|.w (R 2=true)
     (λk4=>ae [tB 88 k4,ag [iP (-1)] (rW _ aE)]<|rQ (ij (Iv.mk (ja (-1)) Y.hi Y.all)) (ij (ru cs R x Y)) (by unfold ru;simp[k1,k2,k3,k4]))
     (λk4=>ae [tB 88 (bd k4)]<|rQ (ij Y) (ij (ru cs R x Y)) (by unfold ru;simp[k1,k2,k3,k4]))))
   (λk2=>ae [tB 53 (bd k2),ag [gZ x.lo,bP false,iP p] (yR false (by simp[k2])),tB 58 (bd k2),ag [gZ x.hi,bP false,iP p] (yS false (by simp[k2])),ag [ij P1,ij P2] hH,.c zP,ag [ij H,ij lN] wW,ag [gZ x.lo,gZ x.hi] (lp _ _ aF aF),tB 74 (a7 k1),tB 76 (bd k2),iq ((p:Int)+64) aE,ag [ij x,iP 1,iP ((p+64:Nat):Int)] (hM 1 aG)]<|.w (R 1=true)
    (λk3=>ae [tB 81 k3,ag [iP 1] (rW _ aE),iq ((p:Int)+64) aE,ag [ij x,iP 3,iP ((p+64:Nat):Int)] (hM 3 aG)]<|.w (R 3=true)
     (λk4=>ae [tB 88 k4,ag [iP (-1)] (rW _ aE)]<|rQ (ij (Iv.mk (ja (-1)) (ja 1) Y.all)) (ij (ru cs R x Y)) (by unfold ru;simp[k1,k2,k3,k4]))
     (λk4=>ae [tB 88 (bd k4)]<|rQ (ij (Iv.mk Y.lo (ja 1) Y.all)) (ij (ru cs R x Y)) (by unfold ru;simp[k1,k2,k3,k4])))
    (λk3=>ae [tB 81 (bd k3),iq ((p:Int)+64) aE,ag [ij x,iP 3,iP ((p+64:Nat):Int)] (hM 3 aG)]<|.w (R 3=true)
     (λk4=>ae [tB 88 k4,ag [iP (-1)] (rW _ aE)]<|rQ (ij (Iv.mk (ja (-1)) Y.hi Y.all)) (ij (ru cs R x Y)) (by unfold ru;simp[k1,k2,k3,k4]))
     (λk4=>ae [tB 88 (bd k4)]<|rQ (ij Y) (ij (ru cs R x Y)) (by unfold ru;simp[k1,k2,k3,k4])))))) 
def SK{x:Iv}(hx:x.ib)(cs:Bool){p:Nat}(il:8<=p)(ic:p<=512):∃ Z,Z.ib/\gV 332 [ij x,bP cs,iP (p:Int)] (ij Z):=by
 cases xa:x.all with
 |true=>exact⟨_,mg,adB x cs p hx xa il ic⟩
 |false=>
  by_cases hu:100<x.lo.im\/100<x.hi.im\/¬wJ x 64=0\/0<=iL (pd x 64) (ja 7)
  .exact ⟨_,AN,adE x cs p hx xa il ic hu⟩
  have h1:¬100<x.lo.im:=λq=>hu (.inl q)
  have h2:¬100<x.hi.im:=λq=>hu (.inr (.inl q))
  have h3:wJ x 64=0:=bT λq=>hu (.inr (.inr (.inl q)))
  have h4:¬0<=iL (pd x 64) (ja 7):=λq=>hu (.inr (.inr (.inr q)))
  obtain⟨w1,w2⟩:=hx.ko;obtain⟨P1,g1,yR⟩:=SO w1 aE cs il ic;obtain⟨P2,g2,yS⟩:=SO w2 aE cs il ic;replace yR:∀ c,c=cs->gV 353 [gZ x.lo,bP c,iP (p:Int)] (ij P1):=λc h=>h▸yR
  replace yS:∀ c,c=cs->gV 353 [gZ x.hi,bP c,iP (p:Int)] (ij P2):=λc h=>h▸yS
  obtain⟨H,g3,hH⟩:=acy g1 g2;rcases acH g3 with⟨Y,hY,wW⟩|wW
  rotate_left
  .exact ⟨_,AN,adD x cs p hx xa il ic h1 h2 h3 h4 P1 P2 H yR yS hH wW⟩
  have ya:=hY.f;have v0:=hY.v;have v1:(Iv.mk (ja (-1)) (ja 1) Y.all).ib:=by rw[ya];exact AN
  have v2:(Iv.mk Y.lo (ja 1) Y.all).ib:=by rw[ya];exact hY.up.v
  have v3:(Iv.mk (ja (-1)) Y.hi Y.all).ib:=by rw[ya];exact hY.dn.v
  have v4:(Iv.mk Y.lo Y.hi Y.all).ib:=hY.v;have hm:∀ s:Nat,∃ r,s<=3->gV 354 [ij x,iP (s:Int),iP ((p+64:Nat):Int)] (bP r):=λs=>by
   by_cases hs:s<=3
   .obtain ⟨r,m⟩:=ad2 hx xa s aE (p+64) aE aE aE ;exact⟨r,λ_=>m⟩
   .exact ⟨true,λh=>absurd h hs⟩
  refine⟨ru cs (λs=>Classical.choose (hm s)) x Y,?_,adC x cs p hx xa il ic h1 h2 h3 h4 P1 P2 H Y hY yR yS hH wW (λs=>Classical.choose (hm s)) λs hs=>cU (hm s) hs⟩;generalize (λs=>Classical.choose (hm s))=R;unfold ru;by_cases q1:iL x.lo x.hi=0
  .rw [bk q1];exact v0
  rw[bj q1];by_cases q2:R (if cs=true then 2 else 3)=true<;>by_cases q3:R (if cs=true then 0 else 1)=true<;>simp only[q2,q3,bJ,bC,bK]<;>assumption
def aet(x Z:Iv)(p:Nat)(hZ:gV 332 [ij x,bP false,iP (p:Int)] (ij Z)):gV 315 [ij x,iP p] (ij Z):=
 ak call315 func315 (af [ag [ij x,bP false,iP p] hZ]) 
def aes{x:Iv}(hx:x.ib){p:Nat}(il:8<=p)(ic:p<=512):∃ Z,Z.ib/\gV 315 [ij x,iP (p:Int)] (ij Z):=by
 obtain⟨Z,h1,h2⟩:=SK hx false il ic;exact⟨Z,h1,aet x Z p h2⟩
def adM(x Z:Iv)(p:Nat)(hZ:gV 332 [ij x,bP true,iP (p:Int)] (ij Z)):gV 316 [ij x,iP p] (ij Z):=
 ak call316 func316 (af [ag [ij x,bP true,iP p] hZ]) 
def adL{x:Iv}(hx:x.ib){p:Nat}(il:8<=p)(ic:p<=512):∃ Z,Z.ib/\gV 316 [ij x,iP (p:Int)] (ij Z):=by
 obtain⟨Z,h1,h2⟩:=SK hx true il ic;exact⟨Z,h1,adM x Z p h2⟩
def agC:vu:=λ_ _ hx il ic=>⟨apy hx il ic,apF hx il ic,aes hx il ic,adL hx il ic,aiM hx il ic⟩
structure pf where
 kind:Int
 a:Int
 b:Int
 n:Int
 cn:Int
 cd:Int
structure kB where
 ik:Int
 gX:List pf
 iu:List Int
 iz:Int
 params:List RI
def lK:pf:=⟨0,0,0,0,0,0⟩
def AF(o:pf):List E:=[iP o.kind,iP o.a,iP o.b,iP o.n,iP o.cn,iP o.cd]
def Fw(o:pf):E:=.agg (AF o)
def kA(l:List pf):E:=.sl true l.length 6 λi j=>(AF (l.getD i lK)).getD j .any
def kF(l:List Int):E:=.sl true l.length 1 λi _=>iP (l.getD i 0)
def QP(s:kB):List E:=[iP s.ik,kA s.gX,kF s.iu,iP s.iz,jH s.params]
def lH(s:kB):E:=.agg (QP s)
structure pf.jV(o:pf):Prop where
 kind:ku .i64 o.kind
 a:ku .i64 o.a
 b:ku .i64 o.b
 n:ku .i64 o.n
 cn:ku .i64 o.cn
 cd:ku .i64 o.cd
structure kB.jV(s:kB):Prop where
 ik:ku .i64 s.ik
 gX:∀ i,(s.gX.getD i lK).jV
 iu:∀ i,ku .i64 (s.iu.getD i 0)
 iz:ku .i64 s.iz
 params:∀ i,(s.params.getD i jP).jV
structure kB.rT(s:kB):Prop where
 gX:s.gX.length<=1000
 params:s.params.length<=1000
def kz(o:pf)(m:Int):Bool:=
 if o.kind=1 then nM o.cn o.cd&&decide (o.a=0/\o.b=0/\o.n=0)
 else if 3<=o.kind/\o.kind<=6 then decide (o.cn=0/\o.cd=0/\0<=o.a/\o.a<m/\0<=o.b/\o.b<m/\o.n=0)
 else if o.kind=8 then decide (o.cn=0/\o.cd=0/\0<=o.a/\o.a<m/\o.b=0/\0<=o.n/\o.n<=16)
 else if o.kind=7\/9<=o.kind/\o.kind<=13 then decide (o.cn=0/\o.cd=0/\0<=o.a/\o.a<m/\o.b=0/\o.n=0)
 else false
def QJ(s:kB):Bool:=(List.range s.gX.length).all λi=>kz (s.gX.getD i lK) (s.ik+(i:Int))
def zi(s:kB)(k:Int):Bool:=decide (0<=k/\k<s.ik+(s.gX.length:Int))
def zp(s:kB):Bool:=(List.range s.iu.length).all λi=>zi s (s.iu.getD i 0)
noncomputable def oA(x:RI):Bool:=nU x && !x.all
noncomputable def Fy(s:kB):Bool:=(List.range s.params.length).all λi=>oA (s.params.getD i jP)
noncomputable def oC(s:kB):Bool:=decide (0<=s.ik/\s.ik<=8/\s.gX.length<=200/\s.iu.length<=200)&&QJ s&&zp s
 && decide (1<=s.iz/\s.iz<=4/\(s.iu.length:Int)=s.iz/\s.ik=s.iz+(s.params.length:Int)/\s.params.length<=4)&&Fy s
noncomputable def LH(d:RD):Bool:=@decide d.Ok (Classical.propDecidable _)
def Fv{d:RD}:LH d=true↔d.Ok:=@gp _ (Classical.propDecidable _)
def Je{n:Nat}{f:Nat->Bool}(h:¬(List.range n).all f=true):∃ N,N<n/\(!f N)=true/\∀ k,k<N->(!f k)=false:=by
 refine tI ?_;apply bT;intro q;apply h;refine bX.2 λi hi=>?_
 cases hf:f i with
 |true=>rfl
 |false=>exact absurd ⟨i,b5.1 hi,by rw[hf];rfl⟩ q
def R0{n:Nat}{f:Nat->Bool}:((List.range n).any λi=>!f i) = !((List.range n).all f):=by
 rw[dA];simp
def anc{s:kB}(h:¬(0<=s.ik/\s.ik<=8/\s.gX.length<=200/\s.iu.length<=200/\1<=s.iz/\s.iz<=4/\(s.iu.length:Int)=s.iz/\s.params.length<=4/\s.ik=s.iz+(s.params.length:Int))):oC s=false:=by
 refine bd λq=>h ?_
 unfold oC at q;simp only[bO,cv]at q;obtain⟨⟨⟨⟨a,_⟩,_⟩,b⟩,_⟩:=q;exact⟨a.1,a.2.1,a.2.2.1,a.2.2.2,b.1,b.2.1,b.2.2.1,b.2.2.2.2,b.2.2.2.1⟩
def pf.v(o:pf):np:=⟨o.kind.toNat,o.a.toNat,o.b.toNat,o.n.toNat,o.cn,o.cd⟩
def kB.v(s:kB):jM:=⟨⟨s.ik.toNat,s.gX.map pf.v,s.iu.map Int.toNat⟩,s.iz.toNat,s.params.map RI.iv⟩
def oh.of{k a b n m:Nat}{cn cd:Int}(k3:k=1\/3<=k)(xY:k<=13)(ha:k=1->a=0)(Ew:¬k=1->a<m)(hb:3<=k/\k<=6->b<m)(mR:¬(3<=k/\k<=6)->b=0)
 (hn:k=8->n<=16) (vW:¬k=8->n=0) (hc:k=1->nM cn cd=true) (CN:¬k=1->cn=0/\cd=0):oh ⟨k,a,b,n,cn,cd⟩ m:=by
 refine⟨k3,xY,?_,?_,?_,?_,.inr agC⟩
 .show if k=1 then a=0 else a<m
  split<;>simp_all
 .show if 3<=k/\k<=6 then b<m else b=0
  split
  .rename_i h;exact hb h
  .rename_i h;exact mR h
 .show if k=8 then n<=16 else n=0
  split
  .rename_i h;exact hn h
  .rename_i h;exact vW h
 .show if k=1 then nM cn cd=true else cn=0/\cd=0
  split
  .rename_i h;exact hc h
  .rename_i h;exact CN h
def amV{o:pf}{m:Nat}(h:kz o (m:Int)=true):oh o.v m/\0<=o.kind/\0<=o.a/\0<=o.b/\0<=o.n:=by
 obtain⟨k,a,b,n,cn,cd⟩:=o;unfold kz at h;simp only at h;show oh ⟨k.toNat,a.toNat,b.toNat,n.toNat,cn,cd⟩ m/\0<=k/\0<=a/\0<=b/\0<=n;split at h
 .rename_i hk;rw[bO,cv]at h;obtain⟨hr,h1,h2,h3⟩:=h;exact⟨oh.of aE aE aE aE aE aE aE aE (λ_=>hr) aE,aE,aE,aE,aE⟩
 .rename_i oJ;split at h
  .rename_i hk;have h:=cT h;exact⟨oh.of aE aE aE aE aE aE aE aE aE aE,aE,aE,aE,aE⟩
  .split at h
   .rename_i hk;have h:=cT h;exact⟨oh.of aE aE aE aE aE aE aE aE aE aE,aE,aE,aE,aE⟩
   .split at h
    .rename_i wZ hk;have h:=cT h;exact⟨oh.of aE aE aE aE aE aE aE aE aE aE,aE,aE,aE,aE⟩
    .cases h
def amX{o:pf}(h1:0<=o.kind)(h2:0<=o.a)(h3:0<=o.b)(h4:0<=o.n):Lj o.v=AF o:=by
 obtain⟨k,a,b,n,cn,cd⟩:=o;simp only[Lj,AF,pf.v]at *
 rw[fh h1,fh h2,fh h3,fh h4]
def ane{s:kB}(g:s.jV)(h:oC s=true):mh s.v/\lH s=lE s.v:=by
 unfold oC at h;simp only[bO,cv]at h;obtain⟨⟨⟨⟨⟨i0,i8,l1,l2⟩,ho⟩,hu⟩,s1,s4,e1,e2,p4⟩,hp⟩:=h;have ho:=bX.1 ho;have hu:=bX.1 hu;have hp:=bX.1 hp;have opAt:∀ i,i<s.gX.length->(s.gX.map pf.v).getD i iE=(s.gX.getD i lK).v:=λi hi=>by simp[bw,hi]
 have ouAt:∀ i,i<s.iu.length->(s.iu.map Int.toNat).getD i 0=(s.iu.getD i 0).toNat:=λi hi=>by simp[bw,hi]
 have paAt:∀ i,i<s.params.length->(s.params.map RI.iv).getD i gY=(s.params.getD i jP).iv:=λi hi=>by simp[bw,hi]
 have op:∀ i,i<s.gX.length->oh (s.gX.getD i lK).v (s.ik.toNat+i)/\0<=(s.gX.getD i lK).kind/\0<=(s.gX.getD i lK).a/\0<=(s.gX.getD i lK).b/\0<=(s.gX.getD i lK).n:=λi hi=>by
  have:=ho i (b5.2 hi);exact amV (by rwa[show((s.ik.toNat+i:Nat):Int)=s.ik+(i:Int)by omega])
 have ou:∀ i,i<s.iu.length->0<=s.iu.getD i 0/\s.iu.getD i 0<s.ik+(s.gX.length:Int):=λi hi=>cT (hu i (b5.2 hi))
 have pa:∀ i,i<s.params.length->(s.params.getD i jP).Ok/\(s.params.getD i jP).all=false:=λi hi=>by
  have:=hp i (b5.2 hi);unfold oA at this;rw[bO]at this;exact⟨uC.1 this.1,by simpa using this.2⟩
 refine⟨⟨⟨?_,?_,?_,?_,?_⟩,?_,?_,?_,?_,?_,?_⟩,?_⟩
 .show s.ik.toNat<=8;omega
 .show (s.gX.map pf.v).length<=200;rw[cB];exact l1
 .show (s.iu.map Int.toNat).length<=200;rw[cB];exact l2
 .intro i hi;have hi:i<s.gX.length:=by simpa[kB.v]using hi
  show oh ((s.gX.map pf.v).getD i iE) (s.ik.toNat+i);rw[opAt i hi];exact(op i hi).1
 .intro i hi;have hi:i<s.iu.length:=by simpa[kB.v]using hi
  show(s.iu.map Int.toNat).getD i 0<s.ik.toNat+(s.gX.map pf.v).length;rw[ouAt i hi,cB];have:=ou i hi;omega
 .show 1<=s.iz.toNat;omega
 .show s.iz.toNat<=4;omega
 .show (s.iu.map Int.toNat).length=s.iz.toNat;rw[cB];omega
 .show s.ik.toNat=s.iz.toNat+(s.params.map RI.iv).length;rw[cB];omega
 .show (s.params.map RI.iv).length<=4;rw[cB];exact p4
 .intro i hi;have hi:i<s.params.length:=by simpa[kB.v]using hi
  show((s.params.map RI.iv).getD i gY).ib/\((s.params.map RI.iv).getD i gY).all=false;rw[paAt i hi];exact⟨(pa i hi).1.valid,(pa i hi).2⟩
 .have e1:iP s.ik=iP (s.ik.toNat:Int):=by rw[fh i0]
  have e2:iP s.iz=iP (s.iz.toNat:Int):=by rw[fh (aE:0<=s.iz)]
  have e3:kA s.gX=kZ (s.gX.map pf.v):=by
   unfold kA kZ;rw[cB];congr 1;funext i j;by_cases hi:i<s.gX.length
   .rw [opAt i hi];obtain⟨_,h1,h2,h3,h4⟩:=op i hi;rw[amX h1 h2 h3 h4]
   .have a1:s.gX.getD i lK=lK:=by rw[bw,ch aE];rfl
    have a2:(s.gX.map pf.v).getD i iE=iE:=by rw[bw,ch (by rw[cB];omega)];rfl
    rw[a1,a2];rfl
  have e4:kF s.iu=kY (s.iu.map Int.toNat):=by
   unfold kF kY;rw[cB];congr 1;funext i j;by_cases hi:i<s.iu.length
   .rw [ouAt i hi,fh (ou i hi).1]
   .rw [bw,ch aE,bw (l:=s.iu.map Int.toNat),ch (by rw[cB];omega)];rfl
  have e5:jH s.params=ig (s.params.map RI.iv):=by
   rw[<-W4];congr 1;apply fZ;intro i;unfold DI;rw[cF,cF];by_cases hi:i<s.params.length
   .have h1:=(pa i hi).1;have g1:=g.params i;rw[bF hi];rw[bw,bF hi]at h1 g1;exact congrArg some (RI.Ok.eq (x:=s.params[i]) h1 g1).symm
   .rw [ch aE];rfl
  show E.agg [iP s.ik,kA s.gX,kF s.iu,iP s.iz,jH s.params]=_;rw[e1,e2,e3,e4,e5];rfl
def ZT(s:kB)(N:Nat)(x:Nat):PS:=⟨85,true,[(31,.e (iP x)),(30,.e (iP s.gX.length)),(29,.e (kA s.gX)),(3,.box 3 0),(1,.box 1 0)],[(3,.cells 25 [iP s.ik,kA s.gX,kF s.iu]),(1,.cells 28 [iP s.ik,kA s.gX,kF s.iu,iP s.iz,jH s.params])]⟩
def ZU(s:kB)(x:Nat):PS:=⟨85,true,[(31,.e (iP x)),(30,.e (iP s.gX.length)),(29,.e (kA s.gX)),(3,.box 3 0),(1,.box 1 0)],[(3,.cells 25 [iP s.ik,kA s.gX,kF s.iu]),(1,.cells 28 [iP s.ik,kA s.gX,kF s.iu,iP s.iz,jH s.params])]⟩
def ZV(s:kB)(x:Nat):PS:=⟨85,true,[(31,.e (iP x)),(30,.e (iP s.gX.length)),(29,.e (kA s.gX)),(3,.box 3 0),(1,.box 1 0)],[(3,.cells 25 [iP s.ik,kA s.gX,kF s.iu]),(1,.cells 28 [iP s.ik,kA s.gX,kF s.iu,iP s.iz,jH s.params])]⟩
def ZW(s:kB)(x:Nat):PS:=⟨85,true,[(31,.e (iP x)),(30,.e (iP s.gX.length)),(29,.e (kA s.gX)),(3,.box 3 0),(1,.box 1 0)],[(3,.cells 25 [iP s.ik,kA s.gX,kF s.iu]),(1,.cells 28 [iP s.ik,kA s.gX,kF s.iu,iP s.iz,jH s.params])]⟩
def sf{a b:Bool}(h:a=true↔b=true):a=b:=dA.2 h
def jB{a b:Bool}(h:a=b):bP a=bP b:=h▸rfl
def nc{o:pf}{m:Int}{b:Bool}(h:b=kz o m:=by simp_all[kz,SA]<;>(repeat' split)<;>intros<;>omega):bP b=bP (kz o m):=jB h
noncomputable def ala(o:pf)(m:Int)(g:o.jV)(C:Bool)(hC:C=decide (o.cn=0/\o.cd=0))(q1:¬o.a<0)(q2:¬o.b<0):Tr prog Tb:=
  .w (o.kind=1)
  (λk1=>ae [tB 21 (bc k1),.c (Lt o.cn o.cd)]<|.w (nM o.cn o.cd=true)
   (λk2=>ae [tB 24 k2]<|.w (o.a=0)
    (λk3=>ae [tB 28 (bc k3)]<|.w (o.b=0)
     (λk4=>ae [tB 33 (bc k4)]<|rQ (bP (o.n==0)) (bP (kz o m)) nc)
     (λk4=>ae [tB 33 (a7 k4)]<|rQ (bP false) (bP (kz o m)) nc))
    (λk3=>ae [tB 28 (a7 k3)]<|rQ (bP false) (bP (kz o m)) nc))
   (λk2=>ae [tB 24 (bd k2)]<|rQ (bP false) (bP (kz o m)) nc))
  (λk1=>ae [tB 21 (a7 k1),.j 80 ⟨111,true,[(40,.e (bP (decide (3<=o.kind/\o.kind<=6)))),(19,.e (iP o.kind)),(5,.e (bP C)),(2,.box 2 0),(1,.e (iP m))],[(2,.cells 107 [iP o.kind,iP o.a,iP o.b,iP o.n,iP o.cn,iP o.cd])]⟩
   (.w (o.kind=3)
    (λm1=>ae [.v 40 (.bool (bc m1))]<|.e (af [tB 40 (sf aO:true=(decide (3<=o.kind/\o.kind<=6)))]))
    (λm1=>ae [.v 40 (.bool (a7 m1))]<|.w (o.kind=4)
     (λm2=>ae [tB 42 (bc m2)]<|.e (af [tB 40 (sf aO:true=(decide (3<=o.kind/\o.kind<=6)))]))
     (λm2=>ae [tB 42 (a7 m2)]<|.w (o.kind=5)
      (λm3=>ae [tB 43 (bc m3)]<|.e (af [tB 40 (sf aO:true=(decide (3<=o.kind/\o.kind<=6)))]))
      (λm3=>ae [tB 43 (a7 m3)]<|.e (af [tB 40 (sf aO:(o.kind==6)=(decide (3<=o.kind/\o.kind<=6)))])))))]<|.w (3<=o.kind/\o.kind<=6)
   (λk2=>ae [.v 40 (.bool (bn k2))]<|.w (C=true)
    (λk3=>ae [tB 45 k3]<|.w (o.a<m)
     (λk4=>ae [tB 50 (bn k4)]<|.w (o.b<m)
      (λk5=>ae [tB 56 (bn k5)]<|rQ (bP (o.n==0)) (bP (kz o m)) nc)
      (λk5=>ae [tB 56 (bt k5)]<|rQ (bP false) (bP (kz o m)) nc))
     (λk4=>ae [tB 50 (bt k4)]<|rQ (bP false) (bP (kz o m)) nc))
    (λk3=>ae [tB 45 (bd k3)]<|rQ (bP false) (bP (kz o m)) nc))
   (λk2=>ae [.v 40 (.bool (bt k2))]<|.w (o.kind=8)
    (λk3=>ae [tB 64 (bc k3)]<|.w (C=true)
     (λk4=>ae [tB 65 k4]<|.w (o.a<m)
      (λk5=>ae [tB 70 (bn k5)]<|.w (o.b=0)
       (λk6=>ae [tB 75 (bc k6)]<|.w (0<=o.n)
        (λk7=>ae [tB 80 (bn k7)]<|rQ (bP (decide (o.n<=16))) (bP (kz o m)) nc)
        (λk7=>ae [tB 80 (bt k7)]<|rQ (bP false) (bP (kz o m)) nc))
       (λk6=>ae [tB 75 (a7 k6)]<|rQ (bP false) (bP (kz o m)) nc))
      (λk5=>ae [tB 70 (bt k5)]<|rQ (bP false) (bP (kz o m)) nc))
     (λk4=>ae [tB 65 (bd k4)]<|rQ (bP false) (bP (kz o m)) nc))
    (λk3=>ae [tB 64 (a7 k3),.j 174 ⟨111,true,[(87,.e (bP (decide (o.kind=7\/9<=o.kind/\o.kind<=13)))),(5,.e (bP C)),(2,.box 2 0),(1,.e (iP m))],[(2,.cells 107 [iP o.kind,iP o.a,iP o.b,iP o.n,iP o.cn,iP o.cd])]⟩
   (.w (o.kind=7)
    (λm1=>ae [.v 87 (.bool (bc m1))]<|.e (af [tB 87 (sf aO:true=(decide (o.kind=7\/9<=o.kind/\o.kind<=13)))]))
    (λm1=>ae [.v 87 (.bool (a7 m1))]<|.w (o.kind=9)
     (λm2=>ae [tB 89 (bc m2)]<|.e (af [tB 87 (sf aO:true=(decide (o.kind=7\/9<=o.kind/\o.kind<=13)))]))
     (λm2=>ae [tB 89 (a7 m2)]<|.w (o.kind=10)
      (λm3=>ae [tB 90 (bc m3)]<|.e (af [tB 87 (sf aO:true=(decide (o.kind=7\/9<=o.kind/\o.kind<=13)))]))
      (λm3=>ae [tB 90 (a7 m3)]<|.w (o.kind=11)
       (λm4=>ae [tB 91 (bc m4)]<|.e (af [tB 87 (sf aO:true=(decide (o.kind=7\/9<=o.kind/\o.kind<=13)))]))
       (λm4=>ae [tB 91 (a7 m4)]<|.w (o.kind=12)
        (λm5=>ae [tB 92 (bc m5)]<|.e (af [tB 87 (sf aO:true=(decide (o.kind=7\/9<=o.kind/\o.kind<=13)))]))
        (λm5=>ae [tB 92 (a7 m5)]<|.e (af [tB 87 (sf aO:(o.kind==13)=(decide (o.kind=7\/9<=o.kind/\o.kind<=13)))])))))))]<|.w (o.kind=7\/9<=o.kind/\o.kind<=13)
     (λk4=>ae [.v 87 (.bool (bn k4))]<|.w (C=true)
      (λk5=>ae [tB 94 k5]<|.w (o.a<m)
       (λk6=>ae [tB 99 (bn k6)]<|.w (o.b=0)
        (λk7=>ae [tB 104 (bc k7)]<|rQ (bP (o.n==0)) (bP (kz o m)) nc)
        (λk7=>ae [tB 104 (a7 k7)]<|rQ (bP false) (bP (kz o m)) nc))
       (λk6=>ae [tB 99 (bt k6)]<|rQ (bP false) (bP (kz o m)) nc))
      (λk5=>ae [tB 94 (bd k5)]<|rQ (bP false) (bP (kz o m)) nc))
     (λk4=>ae [.v 87 (.bool (bt k4))]<|rQ (bP false) (bP (kz o m)) nc))))
def Ig(o:pf)(m:Int)(g:o.jV):gV 178 [Fw o,iP m] (bP (kz o m)):=
 ak call178 func178 (.w (o.a<0)
  (λk1=>ae [tB 8 (bn k1)]<|rQ (bP false) (bP (kz o m)) nc)
  (λk1=>ae [tB 8 (bt k1)]<|.w (o.b<0)
   (λk2=>ae [tB 12 (bn k2)]<|rQ (bP false) (bP (kz o m)) nc)
   (λk2=>ae [tB 12 (bt k2),.g (YS g.cn g.cd rfl:pH prog .eql 93 (.agg [iP o.cn,iP o.cd]) (.agg [iP 0,iP 0]) (.bool (decide (o.cn=0/\o.cd=0))))]<|ala o m g (decide (o.cn=0/\o.cd=0)) rfl k1 k2))) 
def aop(s:kB)(g:s.jV)(k:Int)(h0:0<=s.ik)(h8:s.ik<=8)(l2:s.gX.length<=200):gV 179 [iP k,(.iV 3 λj_=>[iP s.ik,kA s.gX,kF s.iu].getD j_ .any)] (bP (!zi s k)):=
 ak call179 func179 (.w (k<0)
  (λk1=>ae [tB 5 (bn k1)]<|rQ (bP true) (bP (!zi s k)) (jB (by unfold zi;rw[dA];simp_all)))
  (λk1=>ae [tB 5 (bt k1),iq (s.ik+(s.gX.length:Int)) aE]<|rQ (bP (decide ((s.ik+(s.gX.length:Int))<=k))) (bP (!zi s k)) (jB (by unfold zi;rw[dA];simp_all)))) 
def aor(x:RI)(g:x.jV):gV 180 [wC x] (bP (!oA x)):=by
 have ga:=g.lo;have gb:=g.hi;by_cases ha:x.all=true
 .have e:oA x=false:=by unfold oA;rw[ha];simp
  rw[e];exact ak call180 func180 (af [ah 4 x.all ha]) 
 .replace ha:x.all=false:=by simpa using ha
  by_cases h1:x.lo.Ok
  .by_cases h2:x.hi.Ok
   .have v1:=h1.valid;have v2:=h2.valid;have e1:wC x=ij x.iv:=by rw[<-KT,show x.iv.raw=x by show RI.mk x.lo.dy.raw x.hi.dy.raw x.all=x;rw[h1.eq ga,h2.eq gb]]
    rw[e1];by_cases h3:iL x.lo.dy x.hi.dy<=0
    .have e:oA x=true:=by unfold oA;rw[uC.2 (.inr ⟨ha,h1,h2,h3⟩),ha];rfl
     rw[e];exact ak call180 func180 (af [ai 4 x.iv.all ha,ag [gZ x.iv.lo] (nB _ aF),ag [gZ x.iv.hi] (nB _ aF),ag [gZ x.iv.lo,gZ x.iv.hi] (lp _ _ aF aF),tF 23 (0<(iL x.iv.lo x.iv.hi)) (by show ¬0<iL x.lo.dy x.hi.dy;omega)]) 
    .have e:oA x=false:=by unfold oA;rw[show nU x=false by simpa using λq=>(uC.1 q).elim (λq=>by rw[ha]at q;exact Bool.noConfusion q.1) λq=>h3 q.2.2.2];rfl
     rw[e];exact ak call180 func180 (af [ai 4 x.iv.all ha,ag [gZ x.iv.lo] (nB _ aF),ag [gZ x.iv.hi] (nB _ aF),ag [gZ x.iv.lo,gZ x.iv.hi] (lp _ _ aF aF),tT 23 (0<(iL x.iv.lo x.iv.hi)) (by show 0<iL x.lo.dy x.hi.dy;omega)]) 
   .have e:oA x=false:=by unfold oA;rw[show nU x=false by simpa using λq=>(uC.1 q).elim (λq=>by rw[ha]at q;exact Bool.noConfusion q.1) λq=>h2 q.2.2.1];rfl
    rw[e];exact ak call180 func180 (af [ai 4 x.all ha,ag [qk x.lo] (zV _ aF true (by simp[h1])),ag [qk x.hi] (zV _ aF false (by simp[h2]))]) 
  .have e:oA x=false:=by unfold oA;rw[show nU x=false by simpa using λq=>(uC.1 q).elim (λq=>by rw[ha]at q;exact Bool.noConfusion q.1) λq=>h1 q.2.1];rfl
   rw[e];exact ak call180 func180 (af [ai 4 x.all ha,ag [qk x.lo] (zV _ aF false (by simp[h1]))]) 
def Qd(s:kB)(h0:0<=s.ik)(h8:s.ik<=8)(l2:s.gX.length<=200)(lu:s.iu.length<=200)(g:s.jV):gV 67 [kF s.iu,.fn 179 [(.iV 3 λj_=>[iP s.ik,kA s.gX,kF s.iu].getD j_ .any)]] (bP (!zp s)):=by
 have:=aiy true s.iu.length (λi _=>iP (s.iu.getD i 0)) 179 [(.iV 3 λj_=>[iP s.ik,kA s.gX,kF s.iu].getD j_ .any)] (λi=>!zi s (s.iu.getD i 0)) (λi _=>aop s g _ h0 h8 l2) (aE:s.iu.length<=1000000);rwa[R0]at this
def Y0(f:FuncId)(l:List RI)(hf:∀ i,gV f [wC (l.getD i jP)] (bP (!oA (l.getD i jP))))(hl:l.length<=1000):gV 53 [jH l,.fn f []] (bP (!((List.range l.length).all λi=>oA (l.getD i jP)))):=by
 have:=Pf true l.length (λi j=>(AE (l.getD i jP)).getD j .any) f [] (λi=>!oA (l.getD i jP)) (λi _=>hf i) (aE:l.length<=1000000);rwa[R0]at this
def aot(s:kB)(g:s.jV)(sm:s.rT)(hc:¬(0<=s.ik/\s.ik<=8/\s.gX.length<=200/\s.iu.length<=200)):gV 105 [lH s] (bP false):=
 ak call105 func105 (.w (s.ik<0)
  (λk1=>af [tB 10 (bn k1)])
  (λk1=>ae [tB 10 (bt k1)]<|.w (8<s.ik)
   (λk2=>af [tB 14 (bn k2)])
   (λk2=>ae [tB 14 (bt k2)]<|.w (200<(s.gX.length:Int))
    (λk3=>af [tB 20 (bn k3)])
    (λk3=>ae [tB 20 (bt k3)]<|.w (200<(s.iu.length:Int))
     (λk4=>af [tB 26 (bn k4)])
     (λk4=>.x aE))))) 
def aou(s:kB)(g:s.jV)(sm:s.rT)(i0:0<=s.ik)(i8:s.ik<=8)(l1:s.gX.length<=200)(l2:s.iu.length<=200)(N:Nat)(oR:N<s.gX.length)(jm:∀ k,k<N->(kz (s.gX.getD k lK) (s.ik+(k:Int)))=true)(hN:(kz (s.gX.getD N lK) (s.ik+(N:Int)))=false):gV 105 [lH s] (bP false):=
 ak call105 func105 (af [tF 10 (s.ik<0) aE,tF 14 (8<s.ik) aE,tF 20 (200<(s.gX.length:Int)) aE,tF 26 (200<(s.iu.length:Int)) aE,.s (Sp.jc (ZT s N) 0 N aE (λx hx kW=>by
    have pJ:=g.gX x;exact iy (af [tT 32 ((x:Int)<s.gX.length) aE,iX (x:Int) (s.gX.length) aE,iq (s.ik+(x:Int)) aE,.c (Ig (s.gX.getD x lK) (s.ik+(x:Int)) pJ),ai 42 (!(kz (s.gX.getD x lK) (s.ik+(x:Int)))) (by rw[jm x aE];rfl),iq ((x:Int)+1) aE]) aI)
  (λhx=>by
    have pJ:=g.gX N;exact iy (af [tT 32 ((N:Int)<s.gX.length) aE,iX (N:Int) (s.gX.length) aE,iq (s.ik+(N:Int)) aE,.c (Ig (s.gX.getD N lK) (s.ik+(N:Int)) pJ),ah 42 (!(kz (s.gX.getD N lK) (s.ik+(N:Int)))) (by rw[hN];rfl)]) aI) aM:jb 5 f105 (ZT s N 0) .ret ⟨85,true,[(2,.e (bP false))],[]⟩) .nil]) 
def aov(s:kB)(g:s.jV)(sm:s.rT)(i0:0<=s.ik)(i8:s.ik<=8)(l1:s.gX.length<=200)(l2:s.iu.length<=200)(jm:∀ k,k<s.gX.length->(kz (s.gX.getD k lK) (s.ik+(k:Int)))=true)(hu:zp s=false):gV 105 [lH s] (bP false):=
 ak call105 func105 (af [tF 10 (s.ik<0) aE,tF 14 (8<s.ik) aE,tF 20 (200<(s.gX.length:Int)) aE,tF 26 (200<(s.iu.length:Int)) aE,.s (Sp.jc (ZU s) 0 s.gX.length aE (λx hx kW=>by
    have pJ:=g.gX x;exact iy (af [tT 32 ((x:Int)<s.gX.length) aE,iX (x:Int) (s.gX.length) aE,iq (s.ik+(x:Int)) aE,.c (Ig (s.gX.getD x lK) (s.ik+(x:Int)) pJ),ai 42 (!(kz (s.gX.getD x lK) (s.ik+(x:Int)))) (by rw[jm x aE];rfl),iq ((x:Int)+1) aE]) aI)
  (λhx=>by
    exact iy (af [tF 32 ((s.gX.length:Int)<s.gX.length) aE]) aI) aM:jb 5 f105 (ZU s 0) (.exit 0) ⟨85,true,[(3,.box 3 0),(1,.box 1 0)],[(3,.cells 25 [iP s.ik,kA s.gX,kF s.iu]),(1,.cells 28 [iP s.ik,kA s.gX,kF s.iu,iP s.iz,jH s.params])]⟩) .nil,ag [kF s.iu,.fn 179 [(.iV 3 λj_=>[iP s.ik,kA s.gX,kF s.iu].getD j_ .any)]] (Qd s aE aE aE aE g),ah 47 (!(zp s)) (by rw[hu];rfl)]) 
def aow(s:kB)(g:s.jV)(sm:s.rT)(i0:0<=s.ik)(i8:s.ik<=8)(l1:s.gX.length<=200)(l2:s.iu.length<=200)(jm:∀ k,k<s.gX.length->(kz (s.gX.getD k lK) (s.ik+(k:Int)))=true)(hu:zp s=true)(hc:¬(1<=s.iz/\s.iz<=4/\(s.iu.length:Int)=s.iz/\s.ik=s.iz+(s.params.length:Int)/\s.params.length<=4)):gV 105 [lH s] (bP false):=by
 have sp:=sm.params;exact ak call105 func105 (ae [tF 10 (s.ik<0) aE,tF 14 (8<s.ik) aE,tF 20 (200<(s.gX.length:Int)) aE,tF 26 (200<(s.iu.length:Int)) aE,.s (Sp.jc (ZV s) 0 s.gX.length aE (λx hx kW=>by
    have pJ:=g.gX x;exact iy (af [tT 32 ((x:Int)<s.gX.length) aE,iX (x:Int) (s.gX.length) aE,iq (s.ik+(x:Int)) aE,.c (Ig (s.gX.getD x lK) (s.ik+(x:Int)) pJ),ai 42 (!(kz (s.gX.getD x lK) (s.ik+(x:Int)))) (by rw[jm x aE];rfl),iq ((x:Int)+1) aE]) aI)
  (λhx=>by
    exact iy (af [tF 32 ((s.gX.length:Int)<s.gX.length) aE]) aI) aM:jb 5 f105 (ZV s 0) (.exit 0) ⟨85,true,[(3,.box 3 0),(1,.box 1 0)],[(3,.cells 25 [iP s.ik,kA s.gX,kF s.iu]),(1,.cells 28 [iP s.ik,kA s.gX,kF s.iu,iP s.iz,jH s.params])]⟩) .nil,ag [kF s.iu,.fn 179 [(.iV 3 λj_=>[iP s.ik,kA s.gX,kF s.iu].getD j_ .any)]] (Qd s aE aE aE aE g),ai 47 (!(zp s)) (by rw[hu];rfl)]<|.w (s.iz<1)
  (λk1=>af [tB 50 (bn k1)])
  (λk1=>ae [tB 50 (bt k1)]<|.w (4<s.iz)
   (λk2=>af [tB 54 (bn k2)])
   (λk2=>ae [tB 54 (bt k2)]<|.w ((s.iu.length:Int)=s.iz)
    (λk3=>ae [tB 62 (bg k3),iq (s.iz+(s.params.length:Int)) aE]<|.w (s.ik=(s.iz+(s.params.length:Int)))
     (λk4=>ae [tB 73 (bg k4)]<|.w (4<(s.params.length:Int))
      (λk5=>af [tB 79 (bn k5)])
      (λk5=>.x aE))
     (λk4=>af [tB 73 (bh k4)]))
    (λk3=>af [tB 62 (bh k3)])))) 
def aox(s:kB)(g:s.jV)(sm:s.rT)(i0:0<=s.ik)(i8:s.ik<=8)(l1:s.gX.length<=200)(l2:s.iu.length<=200)(jm:∀ k,k<s.gX.length->(kz (s.gX.getD k lK) (s.ik+(k:Int)))=true)(hu:zp s=true)(s1:1<=s.iz)(s4:s.iz<=4)(e1:(s.iu.length:Int)=s.iz)(e2:s.ik=s.iz+(s.params.length:Int))(p4:s.params.length<=4):gV 105 [lH s] (bP (Fy s)):=by
 have sp:=sm.params;exact ak call105 func105 (ae [tF 10 (s.ik<0) aE,tF 14 (8<s.ik) aE,tF 20 (200<(s.gX.length:Int)) aE,tF 26 (200<(s.iu.length:Int)) aE,.s (Sp.jc (ZW s) 0 s.gX.length aE (λx hx kW=>by
    have pJ:=g.gX x;exact iy (af [tT 32 ((x:Int)<s.gX.length) aE,iX (x:Int) (s.gX.length) aE,iq (s.ik+(x:Int)) aE,.c (Ig (s.gX.getD x lK) (s.ik+(x:Int)) pJ),ai 42 (!(kz (s.gX.getD x lK) (s.ik+(x:Int)))) (by rw[jm x aE];rfl),iq ((x:Int)+1) aE]) aI)
  (λhx=>by
    exact iy (af [tF 32 ((s.gX.length:Int)<s.gX.length) aE]) aI) aM:jb 5 f105 (ZW s 0) (.exit 0) ⟨85,true,[(3,.box 3 0),(1,.box 1 0)],[(3,.cells 25 [iP s.ik,kA s.gX,kF s.iu]),(1,.cells 28 [iP s.ik,kA s.gX,kF s.iu,iP s.iz,jH s.params])]⟩) .nil,ag [kF s.iu,.fn 179 [(.iV 3 λj_=>[iP s.ik,kA s.gX,kF s.iu].getD j_ .any)]] (Qd s aE aE aE aE g),ai 47 (!(zp s)) (by rw[hu];rfl),tF 50 (s.iz<1) aE,tF 54 (4<s.iz) aE,ai 62 ((s.iu.length:Int) != s.iz) (by simp[e1]),iq (s.iz+(s.params.length:Int)) aE,ai 73 (s.ik != (s.iz+(s.params.length:Int))) (by simp[e2]),tF 79 (4<(s.params.length:Int)) aE,.c (Y0 180 s.params (λi=>aor _ (g.params i)) aE:gV 53 [jH s.params,.fn 180 []] _)]<|rQ (bP (!(!(Fy s)))) (bP (Fy s)) (jB aK)) 
def aoy(s:kB)(g:s.jV)(sm:s.rT):gV 105 [lH s] (bP (oC s)):=by
 by_cases c1:0<=s.ik/\s.ik<=8/\s.gX.length<=200/\s.iu.length<=200
 rotate_left
 .rw [show oC s=false by unfold oC;rw[bt c1];rfl];exact aot s g sm c1
 obtain⟨i0,i8,l1,l2⟩:=c1;by_cases c2:QJ s=true
 rotate_left
 .rw [show oC s=false by unfold oC;rw[bd c2];simp];obtain⟨N,n1,n2,n3⟩:=Je c2;exact aou s g sm i0 i8 l1 l2 N n1 (λk hk=>by simpa using n3 k hk) (by simpa using n2)
 have jm:∀ k,k<s.gX.length->kz (s.gX.getD k lK) (s.ik+(k:Int))=true:=λk hk=>bX.1 c2 k (b5.2 hk)
 cases hu:zp s with
 |false=>
  rw[show oC s=false by unfold oC;rw[hu];simp];exact aov s g sm i0 i8 l1 l2 jm hu
 |true=>
  by_cases c3:1<=s.iz/\s.iz<=4/\(s.iu.length:Int)=s.iz/\s.ik=s.iz+(s.params.length:Int)/\s.params.length<=4
  .rw [show oC s=Fy s by unfold oC;rw[bn (⟨i0,i8,l1,l2⟩:_/\_),c2,hu,bn c3];simp];obtain⟨s1,s4,e1,e2,p4⟩:=c3;exact aox s g sm i0 i8 l1 l2 jm hu s1 s4 e1 e2 p4
  .rw [show oC s=false by unfold oC;rw[bt c3];simp];exact aow s g sm i0 i8 l1 l2 jm hu c3
structure mz where
 method:Int
 order:Int
 jX:Int
 step:RD
 jy:Int
 kK:Int
structure mz.jV(c:mz):Prop where
 method:ku .i64 c.method
 order:ku .i64 c.order
 jX:ku .i64 c.jX
 step:c.step.jV
 jy:ku .i64 c.jy
 kK:ku .i64 c.kK
def Qs(c:mz):List E:=[iP c.method,iP c.order,iP c.jX,bP c.step.neg,ia c.step.L,iP c.step.e,iP c.jy,iP c.kK]
def yl(c:mz):E:=.agg (Qs c)
def Qt{c:mz}(h:c.step.Ok)(g:c.step.jV):yl c = .agg [iP c.method,iP c.order,iP c.jX,bP c.step.dy.neg,ia (gW c.step.dy.m),iP c.step.dy.e,iP c.jy,iP c.kK]:=by
 have e:gW c.step.dy.m=c.step.L:=congrArg RD.L (h.eq g);rw[e];rfl
noncomputable def P5(d:RD):Bool:=@decide d.Ok (Classical.propDecidable _)
def P6{d:RD}:P5 d=true↔d.Ok:=@gp _ (Classical.propDecidable _)
noncomputable def jr(c:mz):Bool:=decide (1<=c.method/\c.method<=3)&&decide (1<=c.order/\c.order<=15/\8<=c.jX/\c.jX<=256/\0<=c.jy/\c.jy<=200/\1<=c.kK/\c.kK<=1000)
 && (P5 c.step&&decide (0<c.step.dy.iI)&&decide (iL c.step.dy (iS 20)<=0))
def abn:(iS 20).ib:=IQ aG aG 
def Ef{c:mz}(h:¬(1<=c.method/\c.method<=3)):jr c=false:=by unfold jr;rw[bt h];rfl
def lf{c:mz}(h:¬(1<=c.order/\c.order<=15/\8<=c.jX/\c.jX<=256/\0<=c.jy/\c.jy<=200/\1<=c.kK/\c.kK<=1000)):jr c=false:=by unfold jr;rw[bt h,Bool.and_false];rfl
def JB{c:mz}(h:¬c.step.Ok):jr c=false:=by
 have:P5 c.step=false:=bd λq=>h (P6.1 q)
 unfold jr;rw[this];simp
def A9{c:mz}(h1:1<=c.method/\c.method<=3)(h2:1<=c.order/\c.order<=15/\8<=c.jX/\c.jX<=256/\0<=c.jy/\c.jy<=200/\1<=c.kK/\c.kK<=1000)(h3:c.step.Ok):jr c=(decide (0<c.step.dy.iI)&&decide (iL c.step.dy (iS 20)<=0)):=by
 unfold jr;rw[bn h1,bn h2,P6.2 h3];rfl
def F1{c:mz}(h:jr c=true):(1<=c.method/\c.method<=3)/\(1<=c.order/\c.order<=15/\8<=c.jX/\c.jX<=256/\0<=c.jy/\c.jy<=200/\1<=c.kK/\c.kK<=1000)/\c.step.Ok/\0<c.step.dy.iI/\iL c.step.dy (iS 20)<=0:=by
 unfold jr at h;simp only[bO,cv,P6]at h;exact⟨h.1.1,h.1.2,h.2.1.1,h.2.1.2,h.2.2⟩
def aeM(c:mz)(g:c.jV)(hd:¬c.step.Ok):gV 172 [.agg [iP c.method,iP c.order,iP c.jX,bP c.step.neg,ia c.step.L,iP c.step.e,iP c.jy,iP c.kK]] (bP (jr c)):=by
 have gs:=g.step;exact ak call172 func172 (.w (c.method=1)
  (λk1=>ae [tB 5 (bg k1)]<|.w (c.order<1)
   (λk2=>ae [tB 18 (bn k2)]<|rQ (bP false) (bP (jr c)) (jB (lf aE).symm))
   (λk2=>ae [tB 18 (bt k2)]<|.w (15<c.order)
    (λk3=>ae [tB 22 (bn k3)]<|rQ (bP false) (bP (jr c)) (jB (lf aE).symm))
    (λk3=>ae [tB 22 (bt k3)]<|.w (c.jX<8)
     (λk4=>ae [tB 27 (bn k4)]<|rQ (bP false) (bP (jr c)) (jB (lf aE).symm))
     (λk4=>ae [tB 27 (bt k4)]<|.w (256<c.jX)
      (λk5=>ae [tB 32 (bn k5)]<|rQ (bP false) (bP (jr c)) (jB (lf aE).symm))
      (λk5=>ae [tB 32 (bt k5)]<|.w (c.jy<0)
       (λk6=>ae [tB 37 (bn k6)]<|rQ (bP false) (bP (jr c)) (jB (lf aE).symm))
       (λk6=>ae [tB 37 (bt k6)]<|.w (200<c.jy)
        (λk7=>ae [tB 42 (bn k7)]<|rQ (bP false) (bP (jr c)) (jB (lf aE).symm))
        (λk7=>ae [tB 42 (bt k7)]<|.w (c.kK<1)
         (λk8=>ae [tB 47 (bn k8)]<|rQ (bP false) (bP (jr c)) (jB (lf aE).symm))
         (λk8=>ae [tB 47 (bt k8)]<|.w (1000<c.kK)
          (λk9=>ae [tB 52 (bn k9)]<|rQ (bP false) (bP (jr c)) (jB (lf aE).symm))
          (λk9=>ae [tB 52 (bt k9),ag [qk c.step] (zV _ gs false (by simp[hd]))]<|rQ (bP false) (bP (jr c)) (jB (JB hd).symm))))))))))
  (λk1=>ae [tB 5 (bh k1)]<|.w (c.method=2)
   (λk2=>ae [tB 9 (bg k2)]<|.w (c.order<1)
    (λk3=>ae [tB 18 (bn k3)]<|rQ (bP false) (bP (jr c)) (jB (lf aE).symm))
    (λk3=>ae [tB 18 (bt k3)]<|.w (15<c.order)
     (λk4=>ae [tB 22 (bn k4)]<|rQ (bP false) (bP (jr c)) (jB (lf aE).symm))
     (λk4=>ae [tB 22 (bt k4)]<|.w (c.jX<8)
      (λk5=>ae [tB 27 (bn k5)]<|rQ (bP false) (bP (jr c)) (jB (lf aE).symm))
      (λk5=>ae [tB 27 (bt k5)]<|.w (256<c.jX)
       (λk6=>ae [tB 32 (bn k6)]<|rQ (bP false) (bP (jr c)) (jB (lf aE).symm))
       (λk6=>ae [tB 32 (bt k6)]<|.w (c.jy<0)
        (λk7=>ae [tB 37 (bn k7)]<|rQ (bP false) (bP (jr c)) (jB (lf aE).symm))
        (λk7=>ae [tB 37 (bt k7)]<|.w (200<c.jy)
         (λk8=>ae [tB 42 (bn k8)]<|rQ (bP false) (bP (jr c)) (jB (lf aE).symm))
         (λk8=>ae [tB 42 (bt k8)]<|.w (c.kK<1)
          (λk9=>ae [tB 47 (bn k9)]<|rQ (bP false) (bP (jr c)) (jB (lf aE).symm))
          (λk9=>ae [tB 47 (bt k9)]<|.w (1000<c.kK)
           (λk10=>ae [tB 52 (bn k10)]<|rQ (bP false) (bP (jr c)) (jB (lf aE).symm))
           (λk10=>ae [tB 52 (bt k10),ag [qk c.step] (zV _ gs false (by simp[hd]))]<|rQ (bP false) (bP (jr c)) (jB (JB hd).symm))))))))))
   (λk2=>ae [tB 9 (bh k2)]<|.w (c.method=3)
    (λk3=>ae [tB 14 (bg k3)]<|.w (c.order<1)
     (λk4=>ae [tB 18 (bn k4)]<|rQ (bP false) (bP (jr c)) (jB (lf aE).symm))
     (λk4=>ae [tB 18 (bt k4)]<|.w (15<c.order)
      (λk5=>ae [tB 22 (bn k5)]<|rQ (bP false) (bP (jr c)) (jB (lf aE).symm))
      (λk5=>ae [tB 22 (bt k5)]<|.w (c.jX<8)
       (λk6=>ae [tB 27 (bn k6)]<|rQ (bP false) (bP (jr c)) (jB (lf aE).symm))
       (λk6=>ae [tB 27 (bt k6)]<|.w (256<c.jX)
        (λk7=>ae [tB 32 (bn k7)]<|rQ (bP false) (bP (jr c)) (jB (lf aE).symm))
        (λk7=>ae [tB 32 (bt k7)]<|.w (c.jy<0)
         (λk8=>ae [tB 37 (bn k8)]<|rQ (bP false) (bP (jr c)) (jB (lf aE).symm))
         (λk8=>ae [tB 37 (bt k8)]<|.w (200<c.jy)
          (λk9=>ae [tB 42 (bn k9)]<|rQ (bP false) (bP (jr c)) (jB (lf aE).symm))
          (λk9=>ae [tB 42 (bt k9)]<|.w (c.kK<1)
           (λk10=>ae [tB 47 (bn k10)]<|rQ (bP false) (bP (jr c)) (jB (lf aE).symm))
           (λk10=>ae [tB 47 (bt k10)]<|.w (1000<c.kK)
            (λk11=>ae [tB 52 (bn k11)]<|rQ (bP false) (bP (jr c)) (jB (lf aE).symm))
            (λk11=>ae [tB 52 (bt k11),ag [qk c.step] (zV _ gs false (by simp[hd]))]<|rQ (bP false) (bP (jr c)) (jB (JB hd).symm))))))))))
    (λk3=>ae [tB 14 (bh k3)]<|rQ (bP false) (bP (jr c)) (jB (Ef aE).symm))))) 
def aeN(c:mz)(hd:c.step.Ok):gV 172 [.agg ([iP c.method,iP c.order,iP c.jX]++ix c.step.dy++[iP c.jy,iP c.kK])] (bP (jr c)):=by
 have hv:=hd.valid;have h20:=abn;exact ak call172 func172 (.w (c.method=1)
  (λk1=>ae [tB 5 (bg k1)]<|.w (c.order<1)
   (λk2=>ae [tB 18 (bn k2)]<|rQ (bP false) (bP (jr c)) (jB (lf aE).symm))
   (λk2=>ae [tB 18 (bt k2)]<|.w (15<c.order)
    (λk3=>ae [tB 22 (bn k3)]<|rQ (bP false) (bP (jr c)) (jB (lf aE).symm))
    (λk3=>ae [tB 22 (bt k3)]<|.w (c.jX<8)
     (λk4=>ae [tB 27 (bn k4)]<|rQ (bP false) (bP (jr c)) (jB (lf aE).symm))
     (λk4=>ae [tB 27 (bt k4)]<|.w (256<c.jX)
      (λk5=>ae [tB 32 (bn k5)]<|rQ (bP false) (bP (jr c)) (jB (lf aE).symm))
      (λk5=>ae [tB 32 (bt k5)]<|.w (c.jy<0)
       (λk6=>ae [tB 37 (bn k6)]<|rQ (bP false) (bP (jr c)) (jB (lf aE).symm))
       (λk6=>ae [tB 37 (bt k6)]<|.w (200<c.jy)
        (λk7=>ae [tB 42 (bn k7)]<|rQ (bP false) (bP (jr c)) (jB (lf aE).symm))
        (λk7=>ae [tB 42 (bt k7)]<|.w (c.kK<1)
         (λk8=>ae [tB 47 (bn k8)]<|rQ (bP false) (bP (jr c)) (jB (lf aE).symm))
         (λk8=>ae [tB 47 (bt k8)]<|.w (1000<c.kK)
          (λk9=>ae [tB 52 (bn k9)]<|rQ (bP false) (bP (jr c)) (jB (lf aE).symm))
          (λk9=>ae [tB 52 (bt k9),ag [gZ c.step.dy] (nB _ aF),ag [gZ c.step.dy] (nA _ aF)]<|.w (0<(Dy.iI c.step.dy))
           (λk10=>ae [tB 61 (bn k10),.c (qQ 20),ag [gZ c.step.dy,gZ (iS 20)] (lp _ _ aF aF)]<|rQ (bP (decide ((iL c.step.dy (iS 20))<=0))) (bP (jr c)) (jB (by rw[A9 ⟨aE,aE⟩ ⟨aE,aE,aE,aE,aE,aE,aE,aE⟩ hd];simp[k10])))
           (λk10=>ae [tB 61 (bt k10)]<|rQ (bP false) (bP (jr c)) (jB (by rw[A9 ⟨aE,aE⟩ ⟨aE,aE,aE,aE,aE,aE,aE,aE⟩ hd];simp[k10]))))))))))))
  (λk1=>ae [tB 5 (bh k1)]<|.w (c.method=2)
   (λk2=>ae [tB 9 (bg k2)]<|.w (c.order<1)
    (λk3=>ae [tB 18 (bn k3)]<|rQ (bP false) (bP (jr c)) (jB (lf aE).symm))
    (λk3=>ae [tB 18 (bt k3)]<|.w (15<c.order)
     (λk4=>ae [tB 22 (bn k4)]<|rQ (bP false) (bP (jr c)) (jB (lf aE).symm))
     (λk4=>ae [tB 22 (bt k4)]<|.w (c.jX<8)
      (λk5=>ae [tB 27 (bn k5)]<|rQ (bP false) (bP (jr c)) (jB (lf aE).symm))
      (λk5=>ae [tB 27 (bt k5)]<|.w (256<c.jX)
       (λk6=>ae [tB 32 (bn k6)]<|rQ (bP false) (bP (jr c)) (jB (lf aE).symm))
       (λk6=>ae [tB 32 (bt k6)]<|.w (c.jy<0)
        (λk7=>ae [tB 37 (bn k7)]<|rQ (bP false) (bP (jr c)) (jB (lf aE).symm))
        (λk7=>ae [tB 37 (bt k7)]<|.w (200<c.jy)
         (λk8=>ae [tB 42 (bn k8)]<|rQ (bP false) (bP (jr c)) (jB (lf aE).symm))
         (λk8=>ae [tB 42 (bt k8)]<|.w (c.kK<1)
          (λk9=>ae [tB 47 (bn k9)]<|rQ (bP false) (bP (jr c)) (jB (lf aE).symm))
          (λk9=>ae [tB 47 (bt k9)]<|.w (1000<c.kK)
           (λk10=>ae [tB 52 (bn k10)]<|rQ (bP false) (bP (jr c)) (jB (lf aE).symm))
           (λk10=>ae [tB 52 (bt k10),ag [gZ c.step.dy] (nB _ aF),ag [gZ c.step.dy] (nA _ aF)]<|.w (0<(Dy.iI c.step.dy))
            (λk11=>ae [tB 61 (bn k11),.c (qQ 20),ag [gZ c.step.dy,gZ (iS 20)] (lp _ _ aF aF)]<|rQ (bP (decide ((iL c.step.dy (iS 20))<=0))) (bP (jr c)) (jB (by rw[A9 ⟨aE,aE⟩ ⟨aE,aE,aE,aE,aE,aE,aE,aE⟩ hd];simp[k11])))
            (λk11=>ae [tB 61 (bt k11)]<|rQ (bP false) (bP (jr c)) (jB (by rw[A9 ⟨aE,aE⟩ ⟨aE,aE,aE,aE,aE,aE,aE,aE⟩ hd];simp[k11]))))))))))))
   (λk2=>ae [tB 9 (bh k2)]<|.w (c.method=3)
    (λk3=>ae [tB 14 (bg k3)]<|.w (c.order<1)
     (λk4=>ae [tB 18 (bn k4)]<|rQ (bP false) (bP (jr c)) (jB (lf aE).symm))
     (λk4=>ae [tB 18 (bt k4)]<|.w (15<c.order)
      (λk5=>ae [tB 22 (bn k5)]<|rQ (bP false) (bP (jr c)) (jB (lf aE).symm))
      (λk5=>ae [tB 22 (bt k5)]<|.w (c.jX<8)
       (λk6=>ae [tB 27 (bn k6)]<|rQ (bP false) (bP (jr c)) (jB (lf aE).symm))
       (λk6=>ae [tB 27 (bt k6)]<|.w (256<c.jX)
        (λk7=>ae [tB 32 (bn k7)]<|rQ (bP false) (bP (jr c)) (jB (lf aE).symm))
        (λk7=>ae [tB 32 (bt k7)]<|.w (c.jy<0)
         (λk8=>ae [tB 37 (bn k8)]<|rQ (bP false) (bP (jr c)) (jB (lf aE).symm))
         (λk8=>ae [tB 37 (bt k8)]<|.w (200<c.jy)
          (λk9=>ae [tB 42 (bn k9)]<|rQ (bP false) (bP (jr c)) (jB (lf aE).symm))
          (λk9=>ae [tB 42 (bt k9)]<|.w (c.kK<1)
           (λk10=>ae [tB 47 (bn k10)]<|rQ (bP false) (bP (jr c)) (jB (lf aE).symm))
           (λk10=>ae [tB 47 (bt k10)]<|.w (1000<c.kK)
            (λk11=>ae [tB 52 (bn k11)]<|rQ (bP false) (bP (jr c)) (jB (lf aE).symm))
            (λk11=>ae [tB 52 (bt k11),ag [gZ c.step.dy] (nB _ aF),ag [gZ c.step.dy] (nA _ aF)]<|.w (0<(Dy.iI c.step.dy))
             (λk12=>ae [tB 61 (bn k12),.c (qQ 20),ag [gZ c.step.dy,gZ (iS 20)] (lp _ _ aF aF)]<|rQ (bP (decide ((iL c.step.dy (iS 20))<=0))) (bP (jr c)) (jB (by rw[A9 ⟨aE,aE⟩ ⟨aE,aE,aE,aE,aE,aE,aE,aE⟩ hd];simp[k12])))
             (λk12=>ae [tB 61 (bt k12)]<|rQ (bP false) (bP (jr c)) (jB (by rw[A9 ⟨aE,aE⟩ ⟨aE,aE,aE,aE,aE,aE,aE,aE⟩ hd];simp[k12]))))))))))))
    (λk3=>ae [tB 14 (bh k3)]<|rQ (bP false) (bP (jr c)) (jB (Ef aE).symm))))) 
def S3(c:mz)(g:c.jV):gV 172 [yl c] (bP (jr c)):=by
 by_cases hd:c.step.Ok
 .rw [Qt hd g.step];exact aeN c hd
 .exact aeM c g hd
def wu(c:mz):Int:=if 2+Int.tdiv c.jy 4<c.order then 2+Int.tdiv c.jy 4 else c.order
def YY{c:mz}(h:jr c=true):1<=wu c/\wu c<=15/\wu c<=c.order:=by
 obtain⟨_,⟨q1,q2,q3,q4,q5,q6,_⟩,_⟩:=F1 h;have qt:Int.tdiv c.jy 4=c.jy/4:=fC q5;unfold wu;rw[qt];split<;>omega
def S2(c:mz)(g:c.jV)(hb:jr c=false):gV 99 [.agg [iP c.method,iP c.order,iP c.jX,bP c.step.neg,ia c.step.L,iP c.step.e,iP c.jy,iP c.kK]] (.iw [iP 0,iP 1]):=
 ak call99 func99 (af [ag [.agg [iP c.method,iP c.order,iP c.jX,bP c.step.neg,ia c.step.L,iP c.step.e,iP c.jy,iP c.kK]] (S3 c g),ah 6 (!(jr c)) (by rw[hb];rfl)]) 
def M1(c:mz)(g:c.jV)(hb:jr c=true):gV 99 [.agg [iP c.method,iP c.order,iP c.jX,bP c.step.neg,ia c.step.L,iP c.step.e,iP c.jy,iP c.kK]] (.iw [iP (wu c),iP 0]):=by
 obtain⟨_,⟨q1,q2,q3,q4,q5,q6,_⟩,_⟩:=F1 hb;have qt:Int.tdiv c.jy 4=c.jy/4:=fC q5;exact ak call99 func99 (ae [ag [.agg [iP c.method,iP c.order,iP c.jX,bP c.step.neg,ia c.step.L,iP c.step.e,iP c.jy,iP c.kK]] (S3 c g),ai 6 (!(jr c)) (by rw[hb];rfl),.a (aE:0<(4:Int)),
  iq (c.jy) aE,iq (2+(Int.tdiv c.jy 4)) aE]<|rR (.iw [iP (wu c),iP 0]) (.iT rfl:E.le (.iw [iP (if(2+(Int.tdiv c.jy 4))<c.order then(2+(Int.tdiv c.jy 4))else c.order),iP 0]) (.iw [iP (wu c),iP 0]))) 
def aeL(c:mz)(g:c.jV):gV 99 [yl c] (if jr c=true then .iw [iP (wu c),iP 0]else .iw [iP 0,iP 1]):=by
 by_cases hb:jr c=true
 .rw [bk hb];exact M1 c g hb
 .rw [bj hb];exact S2 c g (bd hb)
def adr(x:RI)(g:x.jV):gV 181 [wC x] (bP (!oA x)):=
 ak call181 func181 (.w (x.all=true)
  (λk1=>ae [tB 4 k1]<|rQ (bP true) (bP (!oA x)) (jB (by unfold oA;simp_all)))
  (λk1=>ae [tB 4 (bd k1),ag [wC x] (aiQ _ g)]<|rQ (bP (!(nU x))) (bP (!oA x)) (jB (by unfold oA;simp_all)))) 
noncomputable def sN(b:List RI):Bool:=decide (1<=b.length/\b.length<=8)&&(List.range b.length).all λi=>oA (b.getD i jP)
def ads(b:List RI)(gb:∀ i,(b.getD i jP).jV)(Bs:b.length<=1000):gV 106 [jH b] (bP (sN b)):=
 ak call106 func106 (.w (1<=(b.length:Int))
  (λk1=>ae [tB 5 (bn k1)]<|.w ((b.length:Int)<=8)
   (λk2=>ae [tB 9 (bn k2),.c (Y0 181 b (λi=>adr _ (gb i)) Bs:gV 53 [jH b,.fn 181 []] _)]<|rQ (bP (!(!((List.range b.length).all λi=>oA (b.getD i jP))))) (bP (sN b)) (jB aY))
   (λk2=>ae [tB 9 (bt k2)]<|rQ (bP false) (bP (sN b)) (jB aY)))
  (λk1=>ae [tB 5 (bt k1)]<|rQ (bP false) (bP (sN b)) (jB aY))) 
def EX(n e:Int)(h1:n.natAbs<4294967296)(h2:-1000<=e)(h3:e<=1000):gV 100 [iP n,iP e] (gZ (ki n e)):=by
 have hrg:mT (canon (Dy.neg (ja n)) (Dy.m (ja n)) ((Dy.e (ja n))+e)):=by rw[SR];exact(Cu h1 h2 h3).range
 exact ak call100 func100 (ae [ag [iP n] (amn _ aE),ag [gZ (ja n),iP e] (amw _ _ (tH aE) aE aE hrg)]<|rQ (gZ (canon (Dy.neg (ja n)) (Dy.m (ja n)) ((Dy.e (ja n))+e))) (gZ (ki n e)) (by rw[SR])) 
def TY{a b:Dy}(h1:a.neg=b.neg)(h2:a.m=b.m)(h3:a.e=b.e):a=b:=by
 cases a;cases b;simp_all
def Pj:(ki 1 0).ib:=Cu aG aG aG 
def ajE:(ki 13 (-1)).ib:=Cu aG aG aG 
def kz3:(ki 3 (-1)).ib:=Cu aG aG aG 
def Xn:(ki 6 0).ib:=Cu aG aG aG 
def Xm:(ki 3 (-2)).ib:=Cu aG aG aG 
def MN:mz:=⟨1,15,53,(ki 1 0).raw,30,9⟩
def adN:MN.jV:=⟨⟨aG,aG⟩,⟨aG,aG⟩,⟨aG,aG⟩,Pj.J4,⟨aG,aG⟩,⟨aG,aG⟩⟩
def adP:jr MN=true:=by
 rw[A9 ⟨aG,aG⟩ ⟨aG,aG,aG,aG,aG,aG,aG,aG⟩ Pj.Lg];show(decide (0<(ki 1 0).raw.dy.iI)&&decide (iL (ki 1 0).raw.dy (iS 20)<=0))=true;rw[Dy.Qr];decide +kernel
def adO:gV 99 [.agg [iP 1,iP 15,iP 53,bP (ki 1 0).neg,ia (gW (ki 1 0).m),iP (ki 1 0).e,iP 30,iP 9]] (.iw [iP 9,iP 0]):=by
 have:=aeL MN adN;rw[bk adP]at this;exact this
def ajA:gV 101 [gZ (ki 13 (-1))] (.iw [gZ (ki 6 0),bP true]):=by
 have:=SM (ki 13 (-1)) ajE aQ;rwa[show qi (ki 13 (-1)).m (ki 13 (-1)).e=ki 6 0 from TY aQ aQ aQ]at this
def ajz : gV 102 [gZ (ki 1 0),gZ (ki 3 (-1))] (.iw [gZ (ki 3 (-2)),iP 0]):=by
 have v1:=Pj;have v3:=kz3;have vs:(jC (canon (ki 1 0).neg (ki 1 0).m ((ki 1 0).e+1))).ib:=F2 (rY _ _ _);exact ak call102 func102 (ae [ag [gZ (ki 1 0)] (nB _ aF),ag [gZ (ki 3 (-1))] (nB _ aF),ag [gZ (ki 1 0)] (nA _ aF),ai 21 (decide ((Dy.iI (ki 1 0))<=0)) aQ,ag [gZ (ki 3 (-1))] (nA _ aF),ai 26 (decide ((Dy.iI (ki 3 (-1)))<=0)) aQ,ag [gZ (ki 3 (-1)),gZ (ki 1 0)] (lp _ _ aF aF),ai 32 (decide ((iL (ki 3 (-1)) (ki 1 0))<=0)) aQ,.c (Eb (ki 1 0) 1 aF aE aE),ah 41 ((kC (canon (ki 1 0).neg (ki 1 0).m ((ki 1 0).e+1)))==0) aQ,ag [gZ (ki 3 (-1)),gZ (jC (canon (ki 1 0).neg (ki 1 0).m ((ki 1 0).e+1)))] (lp _ _ aF aF),ai 46 (decide (0<=(iL (ki 3 (-1)) (jC (canon (ki 1 0).neg (ki 1 0).m ((ki 1 0).e+1)))))) aQ,.c (Eb (ki 3 (-1)) (-1) aF aE aE),ai 56 ((kC (canon (ki 3 (-1)).neg (ki 3 (-1)).m ((ki 3 (-1)).e+(-1)))) != 0) aQ]<|rQ (.iw [gZ (jC (canon (ki 3 (-1)).neg (ki 3 (-1)).m ((ki 3 (-1)).e+(-1)))),iP 0]) (.iw [gZ (ki 3 (-2)),iP 0]) (by rw[show jC (canon (ki 3 (-1)).neg (ki 3 (-1)).m ((ki 3 (-1)).e+(-1)))=ki 3 (-2)from TY aQ aQ aQ])) 
def Hk : gV 36 [] (bP true):=
 ak call36 func36 (af [.c (EX 1 0 aG aG aG),ag [.agg ([iP 1,iP 15,iP 53]++ix (ki 1 0)++[iP 30,iP 9])] adO,.c (EX 13 (-1) aG aG aG),ag [gZ (ki 13 (-1))] ajA,.c (EX 1 0 aG aG aG),.c (EX 3 (-1) aG aG aG),.c ajz,ah 25 ((9:Int)==9) aG,ah 28 ((0:Int)==0) aG,.c (EX 6 0 aG aG aG),.c (DJ _ _ true ⟨λ_=>rfl,λ_=>rfl⟩ (by have:=Xn.gW;omega) (by have:=Xn.gW;omega):gV 34 [gZ (ki 6 0),gZ (ki 6 0)] _),ah 40 ((0:Int)==0) aG,.c (EX 3 (-2) aG aG aG),.c (DJ _ _ true ⟨λ_=>rfl,λ_=>rfl⟩ (by have:=Xm.gW;omega) (by have:=Xm.gW;omega):gV 34 [gZ (ki 3 (-2)),gZ (ki 3 (-2))] _)]) 
def Hr(d:RD):Bool:=decide (300<d.L.length)
def DZ(x:RI):Bool:=decide (10<x.lo.L.length)||decide (10<x.hi.L.length)
def FR(l:List RI):Bool:=(List.range l.length).any λi=>DZ (l.getD i jP)
def o0(s:kB)(x:List RI)(c:mz):Bool:=decide (x.length<=4)&&(decide (s.gX.length<=60)&&(decide (s.params.length<=4)&&(!FR x&&(!FR s.params&&(!Hr c.step&&(decide (24<=c.jX)&&(decide (c.jX<=64)&&decide (c.step.L.length<=4))))))))
def an2{s:kB}{x:List RI}{c:mz}(h:o0 s x c=true):x.length<=4/\s.rT/\24<=c.jX/\c.jX<=64/\c.step.L.length<=4:=by
 unfold o0 at h;simp only[bO,cv]at h;exact⟨h.1,⟨aE,aE⟩,h.2.2.2.2.2.2.1,h.2.2.2.2.2.2.2.1,h.2.2.2.2.2.2.2.2⟩
def aje(d:RD):gV 104 [qk d] (bP (Hr d)):=
 ak call104 func104 (rQ (bP (decide (300<(d.L.length:Int)))) (bP (Hr d)) (jB (by unfold Hr;rw[dA,cv,cv];omega))) 
def ajs(x:RI):gV 103 [wC x] (bP (DZ x)):=
 ak call103 func103 (.w (10<(x.lo.L.length:Int))
  (λk1=>ae [tB 7 (bn k1)]<|rQ (bP true) (bP (DZ x)) (jB (by unfold DZ;rw[dA];simp;omega)))
  (λk1=>ae [tB 7 (bt k1)]<|rQ (bP (decide (10<(x.hi.L.length:Int)))) (bP (DZ x)) (jB (by unfold DZ;rw[dA];simp;omega)))) 
def Xg(l:List RI)(hl:l.length<=1000):gV 53 [jH l,.fn 103 []] (bP (FR l)):=
 Pf true l.length (λi j=>(AE (l.getD i jP)).getD j .any) 103 [] (λi=>DZ (l.getD i jP)) (λi _=>ajs _) aE 
def KY(s:kB)(x:List RI)(c:mz):gV 37 [lH s,jH x,.agg [iP c.method,iP c.order,iP c.jX,bP c.step.neg,ia c.step.L,iP c.step.e,iP c.jy,iP c.kK]] (bP (o0 s x c)):=
 ak call37 func37 (.w ((x.length:Int)<=4)
  (λk1=>ae [tB 10 (bn k1)]<|.w ((s.gX.length:Int)<=60)
   (λk2=>ae [tB 16 (bn k2)]<|.w ((s.params.length:Int)<=4)
    (λk3=>ae [tB 22 (bn k3),ag [jH x,.fn 103 []] (Xg _ aE)]<|.w (FR x=true)
     (λk4=>ae [tB 27 k4]<|rQ (bP false) (bP (o0 s x c)) (jB (by unfold o0;simp[(aE:x.length<=4),(aE:s.gX.length<=60),(aE:s.params.length<=4),k4]<;>omega)))
     (λk4=>ae [tB 27 (bd k4),ag [jH s.params,.fn 103 []] (Xg _ aE)]<|.w (FR s.params=true)
      (λk5=>ae [tB 34 k5]<|rQ (bP false) (bP (o0 s x c)) (jB (by unfold o0;simp[(aE:x.length<=4),(aE:s.gX.length<=60),(aE:s.params.length<=4),k4,k5]<;>omega)))
      (λk5=>ae [tB 34 (bd k5),.c (aje c.step)]<|.w (Hr c.step=true)
       (λk6=>ae [tB 40 k6]<|rQ (bP false) (bP (o0 s x c)) (jB (by unfold o0;simp[(aE:x.length<=4),(aE:s.gX.length<=60),(aE:s.params.length<=4),k4,k5,k6]<;>omega)))
       (λk6=>ae [tB 40 (bd k6)]<|.w (24<=c.jX)
        (λk7=>ae [tB 46 (bn k7)]<|.w (c.jX<=64)
         (λk8=>ae [tB 51 (bn k8)]<|rQ (bP (decide ((c.step.L.length:Int)<=4))) (bP (o0 s x c)) (jB (by unfold o0;simp[(aE:x.length<=4),(aE:s.gX.length<=60),(aE:s.params.length<=4),k4,k5,k6,k7,k8]<;>omega)))
         (λk8=>ae [tB 51 (bt k8)]<|rQ (bP false) (bP (o0 s x c)) (jB (by unfold o0;simp[(aE:x.length<=4),(aE:s.gX.length<=60),(aE:s.params.length<=4),k4,k5,k6,k7,k8]<;>omega))))
        (λk7=>ae [tB 46 (bt k7)]<|rQ (bP false) (bP (o0 s x c)) (jB (by unfold o0;simp[(aE:x.length<=4),(aE:s.gX.length<=60),(aE:s.params.length<=4),k4,k5,k6,k7]<;>omega)))))))
    (λk3=>ae [tB 22 (bt k3)]<|rQ (bP false) (bP (o0 s x c)) (jB (by unfold o0;simp[(aE:x.length<=4),(aE:s.gX.length<=60),(aE:¬s.params.length<=4)]<;>omega))))
   (λk2=>ae [tB 16 (bt k2)]<|rQ (bP false) (bP (o0 s x c)) (jB (by unfold o0;simp[(aE:x.length<=4),(aE:¬s.gX.length<=60)]<;>omega))))
  (λk1=>ae [tB 10 (bt k1)]<|rQ (bP false) (bP (o0 s x c)) (jB (by unfold o0;simp[(aE:¬x.length<=4)]<;>omega)))) 
def aeR(s:kB)(g:s.jV)(sm:s.rT)(x:List RI)(gx:∀ i,(x.getD i jP).jV)(ng:x.length<=1000)(c:mz)(gc:c.jV)(hb:jr c=false):gV 38 [lH s,jH x,.agg [iP c.method,iP c.order,iP c.jX,bP c.step.neg,ia c.step.L,iP c.step.e,iP c.jy,iP c.kK]] (.iw [gZ iA,iP 1]):=
 ak call38 func38 (af [.c (S2 c gc hb),ah 21 ((1:Int) != 0) aG,.o 39 (.e qO:aj (.agg ar) (gZ iA))]) 
def aeS(s:kB)(g:s.jV)(sm:s.rT)(x:List RI)(gx:∀ i,(x.getD i jP).jV)(ng:x.length<=1000)(c:mz)(gc:c.jV)(hb:jr c=true)(hn:¬(oC s=true/\sN x=true/\(x.length:Int)=s.iz)):gV 38 [lH s,jH x,.agg [iP c.method,iP c.order,iP c.jX,bP c.step.neg,ia c.step.L,iP c.step.e,iP c.jy,iP c.kK]] (.iw [gZ iA,iP 1]):=
 ak call38 func38 (ae [.c (M1 c gc hb),ai 21 ((0:Int) != 0) aG,ag [lH s] (aoy _ g sm)]<|.w (oC s=true)
  (λk1=>ae [tB 24 k1,.c (ads x gx ng)]<|.w (sN x=true)
   (λk2=>ae [tB 29 k2]<|.w ((x.length:Int)=s.iz)
    (λk3=>.x (by exact absurd ⟨aF,aF,aF⟩ hn))
    (λk3=>af [tB 37 (bh k3),.o 39 (.e qO:aj (.agg ar) (gZ iA))]))
   (λk2=>af [tB 29 (bd k2),.o 39 (.e qO:aj (.agg ar) (gZ iA))]))
  (λk1=>af [tB 24 (bd k1),.o 39 (.e qO:aj (.agg ar) (gZ iA))])) 
def Tz{s:kB}(g:s.jV)(h1:oC s=true){x:List RI}(gx:∀ i,(x.getD i jP).jV)(h2:sN x=true)(h3:(x.length:Int)=s.iz):mh s.v/\kG s.v.iz (x.map RI.iv)/\lH s=lE s.v/\jH x=ig (x.map RI.iv):=by
 obtain⟨o1,o2⟩:=ane g h1;unfold sN at h2;rw[bO,cv]at h2;obtain⟨_,b2⟩:=h2;have pa:∀ i,i<x.length->(x.getD i jP).Ok/\(x.getD i jP).all=false:=λi hi=>by
  have:=bX.1 b2 i (b5.2 hi);unfold oA at this;rw[bO]at this;exact⟨uC.1 this.1,by simpa using this.2⟩
 have mi:∀ i,i<x.length->(x.map RI.iv).getD i gY=(x.getD i jP).iv:=λi hi=>by simp[bw,hi]
 have s1:=o1.s1;refine⟨o1,⟨by rw[cB];show x.length=s.iz.toNat;omega,λi hi=>?_⟩,o2,?_⟩
 .have hi:i<x.length:=by simpa using hi
  rw[mi i hi];exact⟨(pa i hi).1.valid,(pa i hi).2⟩
 .rw [<-W4];congr 1;apply fZ;intro i;unfold DI;rw[cF,cF];by_cases hi:i<x.length
  .have h1:=(pa i hi).1;have g1:=gx i;rw[bF hi];rw[bw,bF hi]at h1 g1;exact congrArg some (RI.Ok.eq (x:=x[i]) h1 g1).symm
  .rw [ch aE];rfl
def RB(s:kB)(x:List RI)(c:mz)(d:Dy)(p k t:Nat):Prop:=
 ∃ (o:Option Int) (j0:Int) (n1 n2:Nat),gV 38 [lH s,jH x,yl c] (Te o)/\qi d.m d.e=nD j0/\(nD j0).q<=d.q/\j0<=72 /\
  Mu (λj=>qE (uy s.v (x.map RI.iv) k p) (nD j) k (t:Int)) (λj=>(sx s.v (x.map RI.iv) (nD j) p).isSome) j0 n1 n2 /\
  (∀ j,o=some j->ux s.v (x.map RI.iv) k p=true/\I5 j0 n1 n2/\j=j0-n1-n2)/\(o=none->ux s.v (x.map RI.iv) k p=true->¬I5 j0 n1 n2)
def ae0(s:kB)(g:s.jV)(sm:s.rT)(x:List RI)(gx:∀ i,(x.getD i jP).jV)(ng:x.length<=1000)(c:mz)(gc:c.jV)(hn:¬(jr c=true/\oC s=true/\sN x=true/\(x.length:Int)=s.iz)):gV 38 [lH s,jH x,yl c] (.iw [gZ iA,iP 1]):=by
 by_cases hb:jr c=true
 .exact aeS s g sm x gx ng c gc hb λq=>hn ⟨hb,q⟩
 .exact aeR s g sm x gx ng c gc (bd hb)
def ae1(s:kB)(g:s.jV)(sm:s.rT)(x:List RI)(gx:∀ i,(x.getD i jP).jV)(ng:x.length<=1000)(c:mz)(gc:c.jV)(hb:jr c=true)(h1:oC s=true)(h2:sN x=true)(h3:(x.length:Int)=s.iz){p k t:Nat}(hp:c.jX=(p:Int))(hk:wu c=(k:Int))(ht:c.jy=(t:Int)):
 RB s x c c.step.dy p k t:=by
 obtain⟨_,⟨q1,q2,q3,q4,q5,q6,q7,q8⟩,hd,hs,hc⟩:=F1 hb;obtain⟨k1,k2,_⟩:=YY hb;obtain⟨o1,o2,o3,o4⟩:=Tz g h1 gx h2 h3;have hO:=M1 c gc hb;have e:=Qt hd gc.step;rw[show E.agg [iP c.method,iP c.order,iP c.jX,bP c.step.neg,ia c.step.L,iP c.step.e,iP c.jy,iP c.kK]=yl c from rfl,e,hk,hp,ht]at hO;unfold RB;rw[o3,o4,e,hp,ht];exact adG s.v (x.map RI.iv) c.step.dy c.method c.order c.kK p t k o1 o2 hd.valid hs aE aE aE aE hO hc
def ahs{x:List RI}(gx0:∀ y,y ∈ x->y.jV)(i:Nat):(x.getD i jP).jV:=by
 rw[bw];by_cases h:i<x.length
 .rw [bF h];exact gx0 _ (cG h)
 .rw [ch aE];exact LM
def JF{a b:Nat}:0<=kI a b↔b<=a:=by
 unfold kI;split
 .simp;omega
 .split<;>simp<;>omega
def Lr(m n:Nat)(hl:(gW m).length<=1000)(hn:n<=65536):gV 168 [ia (gW m),iP (n:Int)] (ia (gW (m*2^n))):=
 Ik (ml m) call168 (λA c w h _=>amq A c (gW m) n w h hl hn) λA c B w e w' h hB r=>by rw[kq]at r;exact rl B w e w' hB r
def Zd(m n:Nat)(hl:(gW m).length<=3000)(hn:(gW n).length<=3000):gV 170 [ia (gW m),ia (gW n)] (ia (gW (m+n))):=
 BW (ml m) (ml n) call170 (λA c B d w h k _=>amt A B c d (gW m) (gW n) w h k hl hn) λB w e w' hB r=>by rw[kq,kq]at r;exact rl B w e w' hB r
def Ls(m n:Nat)(hl:(gW m).length<=3000)(hn:n<=m):gV 171 [ia (gW m),ia (gW n)] (ia (gW (m-n))):=
 BW (ml m) (ml n) call171 (λA c B d w h k _=>amr A B c d (gW m) (gW n) w h k hl (mO hn) (by rw[kq,kq];exact hn)) λB w e w' hB r=>by rw[kq,kq]at r;exact rl B w e w' hB r
def Zc(m n:Nat)(hl:(gW m).length<=3000)(hn:(gW n).length<=3000):gV 97 [ia (gW m),ia (gW n)] (iP (kI m n)):=by
 refine BW (ml m) (ml n) call97 (λA c B d w h k _=>ZG A B c d (gW m) (gW n) w h k (uI _) (uI _) aE aE) ?_;rw[kq,kq];exact rv
def amA(a b:Dy)(ha:AW a)(hb:AW b):gV 96 [gZ a,gZ b] (gZ (iJ a b)):=by
 obtain⟨N7,ha2,ha3⟩:=ha;obtain⟨kD,lZ,qU⟩:=hb;have ba:=zL N7;have bb:=zL kD;obtain⟨k,hk⟩:∃ k,min a.e b.e=k:=⟨_,rfl⟩
 exact ak call96 func96 (.w (((gW a.m).length:Int)=0)
  (λk1=>by
   have a0:a.m=0:=pE.1 aE;exact ae [tB 11 (bc k1)]<|rQ (gZ b) (gZ (iJ a b)) (by rw[show iJ a b=b by unfold iJ;rw[bk a0]]))
  (λk1=>by
   have a0:a.m≠0:=λh=>k1 (by rw[pE.2 h];rfl)
   exact ae [tB 11 (a7 k1)]<|.w (((gW b.m).length:Int)=0)
    (λk2=>by
     have b0:b.m=0:=pE.1 aE;exact ae [tB 16 (bc k2)]<|rQ (gZ a) (gZ (iJ a b)) (by rw[show iJ a b=a by unfold iJ;rw[bj a0,bk b0]]))
    (λk2=>by
     have b0:b.m≠0:=λh=>k2 (by rw[pE.2 h];rfl)
     have hX:(gW (a.m*2^((a.e-k).toNat))).length<=1400:=oX (by rw[qC a0];omega);have hY:(gW (b.m*2^((b.e-k).toNat))).length<=1400:=oX (by rw[qC b0];omega);have hP:=Xx hX hY;have hM:(gW ((a.m*2^((a.e-k).toNat))-(b.m*2^((b.e-k).toNat)))).length<=1400:=bA (mO (dz _ _)) hX;have hN:(gW ((b.m*2^((b.e-k).toNat))-(a.m*2^((a.e-k).toNat)))).length<=1400:=bA (mO (dz _ _)) hY;exact ae [tB 16 (a7 k2),.o 22 (aq (if b.e<a.e then b.e else a.e) k (by rw[<-hk];split<;>omega)),iq (a.e-k) aE,.o 28 (aq (a.e-k) ((a.e-k).toNat:Int) aE),ag [ia (gW a.m),iP ((a.e-k).toNat:Int)] (Lr _ _ aE aE),iq (b.e-k) aE,.o 35 (aq (b.e-k) ((b.e-k).toNat:Int) aE),ag [ia (gW b.m),iP ((b.e-k).toNat:Int)] (Lr _ _ aE aE)]<|.w (a.neg=b.neg)
      (λk3=>ae [tB 41 (bc k3),ag [ia (gW (a.m*2^((a.e-k).toNat))),ia (gW (b.m*2^((b.e-k).toNat)))] (Zd _ _ aE aE),ag [bP a.neg,ia (gW ((a.m*2^((a.e-k).toNat))+(b.m*2^((b.e-k).toNat)))),iP k] (Fs _ _ _ aE aE aE)]<|rQ (gZ (canon a.neg ((a.m*2^((a.e-k).toNat))+(b.m*2^((b.e-k).toNat))) k)) (gZ (iJ a b)) (by have h:=Ra (s:=a.neg) a0 b0 hk;rw[show(⟨a.neg,b.m,b.e⟩:Dy)=b by rw[k3]]at h;exact congrArg gZ h.symm))
      (λk3=>ae [tB 41 (a7 k3),ag [ia (gW (a.m*2^((a.e-k).toNat))),ia (gW (b.m*2^((b.e-k).toNat)))] (Zc _ _ aE aE)]<|.w (0<=(kI (a.m*2^((a.e-k).toNat)) (b.m*2^((b.e-k).toNat))))
       (λk4=>by
        have hc:(b.m*2^((b.e-k).toNat))<=(a.m*2^((a.e-k).toNat)):=JF.1 k4;exact ae [tB 52 (bn k4),ag [ia (gW (a.m*2^((a.e-k).toNat))),ia (gW (b.m*2^((b.e-k).toNat)))] (Ls _ _ aE aE),ag [bP a.neg,ia (gW ((a.m*2^((a.e-k).toNat))-(b.m*2^((b.e-k).toNat)))),iP k] (Fs _ _ _ aE aE aE)]<|rQ (gZ (canon a.neg ((a.m*2^((a.e-k).toNat))-(b.m*2^((b.e-k).toNat))) k)) (gZ (iJ a b)) (congrArg gZ (Q8 (s:=a.neg) (t:=b.neg) a0 b0 hk k3 hc).symm))
       (λk4=>by
        have hc:(a.m*2^((a.e-k).toNat))<(b.m*2^((b.e-k).toNat)):=aqo λh=>k4 (JF.2 h)
        exact ae [tB 52 (bt k4),ag [ia (gW (b.m*2^((b.e-k).toNat))),ia (gW (a.m*2^((a.e-k).toNat)))] (Ls _ _ aE aE),ag [bP b.neg,ia (gW ((b.m*2^((b.e-k).toNat))-(a.m*2^((a.e-k).toNat)))),iP k] (Fs _ _ _ aE aE aE)]<|rQ (gZ (canon b.neg ((b.m*2^((b.e-k).toNat))-(a.m*2^((a.e-k).toNat))) k)) (gZ (iJ a b)) (congrArg gZ (Q9 (s:=a.neg) (t:=b.neg) a0 b0 hk k3 hc).symm)))))) 
def QC(a b:Dy)(ha:AW a)(hb:AW b):gV 75 [gZ a,gZ b] (iP (iL a b)):=by
 have hn:AW (jf b):=⟨hb.len,hb.lo,hb.hi⟩
 exact ak call75 func75 (ae [ag [gZ a] (B5 _),ag [gZ b] (B5 _)]<|.w ((Dy.iI a)=(Dy.iI b))
  (λk1=>ae [tB 13 (bg k1)]<|.w ((Dy.iI a)=0)
   (λk2=>ae [tB 18 (bc k2)]<|rQ (iP 0) (iP (iL a b)) (by rw[wO,bj (by simpa using k1),bk k2]))
   (λk2=>ae [tB 18 (a7 k2),ag [gZ a] (Ft _ ha),ag [gZ b] (Ft _ hb)]<|.w ((Dy.im a)=(Dy.im b))
    (λk3=>ae [tB 23 (bg k3),ag [gZ b] (QD _),.c (amA a (jf b) ha hn),ag [gZ (iJ a (jf b))] (B5 _)]<|rQ (iP (Dy.iI (iJ a (jf b)))) (iP (iL a b)) (by rw[wO,bj (by simpa using k1),bj k2,bj (by simpa using k3)]))
    (λk3=>ae [tB 23 (bh k3),ag [gZ a] (Ft _ ha),ag [gZ b] (Ft _ hb)]<|.w ((decide ((Dy.im a)<(Dy.im b)))=(decide (0<(Dy.iI a))))
     (λk4=>ae [tB 31 (bc k4)]<|rQ (iP (-1)) (iP (iL a b)) (by rw[wO,bj (by simpa using k1),bj k2,bk k3,bk (by simpa using k4)]))
     (λk4=>ae [tB 31 (a7 k4)]<|rQ (iP 1) (iP (iL a b)) (by rw[wO,bj (by simpa using k1),bj k2,bk k3,bj (by simpa using k4)])))))
  (λk1=>ae [tB 13 (bh k1)]<|.w ((Dy.iI a)<(Dy.iI b))
   (λk2=>ae [tB 16 (bn k2)]<|rQ (iP (-1)) (iP (iL a b)) (by rw[wO,bk k1,bk k2]))
   (λk2=>ae [tB 16 (bt k2)]<|rQ (iP 1) (iP (iL a b)) (by rw[wO,bk k1,bj k2])))) 
end Go.Proofs.YtgdahmmlddfimaaGreatDoor
namespace Go.Proofs.YtgdahmmlddfimaaGreatDoor.Fp
def aev{s:Bool}{m:Nat}{e:Int}(hm:ie m<=60000)(mv:-60000<=e)(lr:e<=60000):(gW (canon s m e).m).length<=2900 /\ -200000<=(canon s m e).e/\(canon s m e).e<=200000:=by
 by_cases h0:m=0
 .subst h0;rw[Ee];exact⟨by rw[show iA.m=0 from rfl,oz];decide,aG,aG⟩
 .obtain ⟨h1,h2,h3,h4⟩:=zQ (s:=s) (e:=e) h0;have h5:=ny h3;exact⟨Pr aE,aE,aE⟩
def YN{a:Dy}{k:Int}(h:k<=a.e):ie (a.num k).natAbs<=ie a.m+(a.e-k).toNat:=by
 have e:(a.num k).natAbs=a.m*2^(a.e-k).toNat:=by
  unfold Dy.num Dy.jO;split
  .rw [fH];exact dL _
  .exact dL _
 rw[e];by_cases h0:a.m=0
 .rw [h0,cM];exact bS _
 .rw [qC h0];exact bu _
def aqg{a b:Dy}(ha:a.ib)(hb:b.ib):(gW (iJ a b).m).length<=2900 /\ -200000<=(iJ a b).e/\(iJ a b).e<=200000:=by
 have h1:=ha.bits;have h2:=hb.bits;have h3:=ha.exp;have h4:=hb.exp;have la:=ha.len;have lb:=hb.len;unfold iJ;split
 .exact ⟨aE,aE,aE⟩
 .split
  .exact ⟨aE,aE,aE⟩
  .have g1:=YN (a:=a) (k:=min a.e b.e) aE ;have g2:=YN (a:=b) (k:=min a.e b.e) aE;refine aev ?_ aE aE;obtain⟨K,hK⟩:∃ K,K=40000:=⟨_,rfl⟩
   have g3:=lY.1 (bA g1 (aE:ie a.m+(a.e-min a.e b.e).toNat<=K));have g4:=lY.1 (bA g2 (aE:ie b.m+(b.e-min a.e b.e).toNat<=K));refine bA ((lY (k:=K+1)).2 ?_) (aE:K+1<=60000);have g5:(a.num (min a.e b.e)+b.num (min a.e b.e)).natAbs<=(a.num (min a.e b.e)).natAbs+(b.num (min a.e b.e)).natAbs:=Int.natAbs_add_le _ _;rw[bI];generalize 2^K=P at *
   omega
def ae7{a b:Dy}(ha:a.ib)(hb:b.ib)(h:iL a b=0):a=b:=by
 have h1:oO a (min a.e b.e):=.inr aE;have h2:oO b (min a.e b.e):=.inr aE;rw[Eh h1 h2]at h;refine Ng ha.canon hb.canon h1 h2 ?_;unfold xF at h;split at h
 .omega
 .split at h<;>omega
def XV{a b c:Dy}(ha:a.ib)(hb:b.ib)(hc:c.ib)(h1:iL a c<=0)(h2:iL b c<=0)(h3:c=a\/c=b):iW a b=c:=by
 unfold iW;rcases h3 with rfl|rfl
 .rw [bj aE]
 .split
  .rfl
  .rename_i h;have:=Ba a c;exact ae7 ha hc aE 
def YM(d:Dy)(k:Int):(kU d).num k=((d.num k).natAbs:Int):=by
 unfold Dy.num Dy.jO kU;cases d.neg
 .simp;exact(dL (d.m*2^(d.e-k).toNat)).symm▸by simp
 .simp only[bK,bC,bJ];rw[fH,dL]
def ab4{d:Dy}(hd:d.nx){k:Int}(h:0<=d.num k):kU d=d:=by
 rcases hd with⟨h1,h2,h3⟩|h1
 .unfold kU;rw[<-h2]
 .cases hn:d.neg with
  |false=>unfold kU;rw[<-hn]
  |true=>
   have:0<d.jO k:=xh aE k;unfold Dy.num at h;rw[hn,bk rfl]at h;omega
def ab5{d:Dy}(hd:d.nx){k:Int}(h:d.num k<=0):kU d=jf d:=by
 rcases hd with⟨h1,h2,h3⟩|h1
 .unfold kU jf;rw[h1,h2];simp
 .cases hn:d.neg with
  |true=>unfold kU jf;rw[hn];simp
  |false=>
   have:0<d.jO k:=xh aE k;unfold Dy.num at h;rw[hn,bj aG]at h;omega
def akh{x:Iv}(h1:x.lo.ib)(h2:x.hi.ib)(h3:iL x.lo x.hi<=0):iR x=iW (jf x.lo) x.hi:=by
 obtain⟨k,ka,kb⟩:∃ k:Int,k<=x.lo.e/\k<=x.hi.e:=⟨min x.lo.e x.hi.e,aE,aE⟩
 have aL:oO x.lo k:=.inr ka;have aH:oO x.hi k:=.inr kb;have aN:oO (jf x.lo) k:=I8 aL;have aA:oO (kU x.lo) k:=aL;have aB:oO (kU x.hi) k:=aH;have hle:=(qJ aL aH).1 h3;have n1:=La (d:=x.lo) k;have n2:=YM x.lo k;have n3:=YM x.hi k;unfold iR;by_cases hc:0<iL x.hi (jf x.lo)
 .have e:iW (jf x.lo) x.hi=x.hi:=by unfold iW;rw[bk hc]
  have EA:¬x.hi.num k<=(jf x.lo).num k:=λh=>by have:=(qJ aH aN).2 h;omega
  rw[e];exact XV (vy h1) (vy h2) h2 ((qJ aA aH).2 aE) ((qJ aB aH).2 aE) (.inr (ab4 h2.canon (k:=k) aE).symm)
 .have e:iW (jf x.lo) x.hi=jf x.lo:=by unfold iW;rw[bj hc]
  have s5:x.hi.num k<=(jf x.lo).num k:=(qJ aH aN).1 aE;rw[e];exact XV (vy h1) (vy h2) (yg h1) ((qJ aA aN).2 aE) ((qJ aB aN).2 aE) (.inl (ab5 h1.canon (k:=k) aE).symm)
end Go.Proofs.YtgdahmmlddfimaaGreatDoor.Fp
namespace Go.Proofs.YtgdahmmlddfimaaGreatDoor
open Go.RowKit Fp Pu
end Go.Proofs.YtgdahmmlddfimaaGreatDoor
namespace Go.Proofs.YtgdahmmlddfimaaGreatDoor.Fp
end Go.Proofs.YtgdahmmlddfimaaGreatDoor.Fp
namespace Go.Proofs.YtgdahmmlddfimaaGreatDoor
open Go.RowKit Fp Pu
def ajV(v:Nat):v<4294967296^(gW v).length:=y7 (bu _)
def Xy(v k:Nat):(gW v).getD k 0=mY v k:=by rw[Gw (ml v),kq]
def aoM{v l:Nat}(hl:(gW v).length=l+1):mY v l≠0/\ie v=32*l+ie (mY v l):=by
 have h1:=ajV v;rw[hl]at h1;have h2:4294967296^l<=v:=aqP λq=>by have:=s9 q;omega
 have h3:mY v l≠0:=by
  unfold mY;have a:=Nat.div_pos h2 (pw l);have b:v/4294967296^l<4294967296:=by rw[cA (pw l),bL,<-bI];exact h1
  rw[ca b];omega
 exact⟨h3,adb h1 h3⟩
def ajR{w y:Nat}:y<(gW w).length↔32*y<ie w:=by
 constructor
 .intro h;obtain⟨l,hl⟩:∃ l,(gW w).length=l+1:=⟨(gW w).length-1,aE⟩
  obtain⟨a,b⟩:=aoM hl;have:=ny a;omega
 .intro h;apply aqo;intro q;have h1:=y7 q;rw[ss]at h1;have:=lY.2 h1;omega
def Xr(j:Int)(x:Nat):PS:=⟨35,true,[(4,.e (iP x)),(3,.e (iP (Dy.im (nD j)))),(2,.box 2 0),(1,.box 1 0)],[(2,.cells 31 ar),(1,.cells 31 (ix (nD j)))]⟩
def Xs(j:Int)(x:Nat):PS:=⟨35,true,[(4,.e (iP x)),(3,.e (iP (Dy.im (nD j)))),(2,.box 2 0),(1,.box 1 0)],[(2,.cells 31 ar),(1,.cells 31 (ix (nD j)))]⟩
def IS{n:Int}(h1:-1000<=n)(h2:n<=1000):(iS n).ib:=by
 have e:=BR n;rw[<-e];exact ri aE aE 
def BN{x:Nat}:E.le (.sl false 1 1 λi j=>[E.v (.int .u32 (x:Int))].getD (i*1+j) (.v (.bool false))) (ia [x]):=by
 refine .sl λi j hi hj=>?_
 obtain rfl:i=0:= aE ;obtain rfl:j=0:= aE ;exact⟨.refl _,rfl⟩
def B4(x:Nat)(e:Int)(hx:x<4294967296)(mv:-1000000<=e)(lr:e<=1000000):gV 169 [bP false,ia [x],iP e] (gZ (canon false x e)):=by
 refine⟨call169,λw B vs hK hB hr=>?_⟩;obtain⟨v1,vs,rfl,h1,hr⟩:=hr.mG;obtain⟨v2,vs,rfl,h2,hr⟩:=hr.mG;obtain⟨v3,vs,rfl,h3,hr⟩:=hr.mG;obtain rfl:=hr.rj;obtain rfl:=iD.kJ h1;obtain rfl:=iD.kJ h3;have ok:iK [x]:=λy hy=>by simp at hy;omega
 obtain⟨A,c,rfl,s1⟩:=xv ok h2;have:=Fq false A c [x] e w s1 aK mv lr;rw[show val [x]=x by simp[val]]at this;exact this.mono λe w' h=>rd B w e w' hB h
def ZF(a:Dy)(ha:a.ib):gV 190 [gZ a] (iP (ie a.m)):=xn call190 (λA c w h _=>by
 have:=amh a.neg A c (gW a.m) a.e w h (uI _) (by have:=ha.gW;omega);rw[kq]at this;exact this) rv
def ajP(m i:Nat):(gW m).getD (i/32) 0/2^(i%32)%2=m/2^i%2:=by
 rw[Xy];unfold mY;have e:2^i=4294967296^(i/32)*2^(i%32):=by rw[ss,<-bB];congr 1;omega
 rw[e,<-dk];generalize m/4294967296^(i/32)=M;have hr:i%32<32:=bM _ aG;generalize i%32=r at hr;have e2:(4294967296:Nat)=2^r*(2^(31-r)*2):=by rw[<-bI,<-bB,(aE:r+(31-r).succ=32)]
 have h1:=cN M 4294967296;have h2:M/2^r=2^(31-r)*2*(M/4294967296)+M%4294967296/2^r:=by
  conv=>lhs;rw[<-h1,e2,bH,fk,eI _ _ (bD aG),fk]
  rw[<-e2]
 rw[h2,bL (2^(31-r)) 2,bH,fp]
def akZ{m k:Nat}(h4:4<=m/2^k)(h8:m/2^k<8):4+2*(m/2^(k+1)%2)+m/2^k%2=m/2^k:=by
 have e:m/2^(k+1)=m/2^k/2:=by rw[bI,dk]
 rw[e];omega
def aaz{d:Dy}(h:0<d.iI):d.neg=false:=by
 rcases AJ d with⟨_,q⟩|⟨_,_,q⟩|⟨_,q,_⟩
 .omega
 .omega
 .exact q
def ak0{d:Dy}(hn:d.neg=false)(h3:ie d.m<=3):d=qi d.m d.e:=by
 unfold qi;rw[bk h3];cases d;simp only at hn;rw[hn]
def YG{d:Dy}(h:0<d.iI)(h3:¬ie d.m<=3):4<=d.m/2^(ie d.m-3)/\d.m/2^(ie d.m-3)<8:=by
 have h0:d.m≠0:=by
  rcases AJ d with⟨_,q⟩|⟨q,_⟩|⟨q,_⟩
  .omega
  .exact q
  .exact q
 obtain⟨k,hk⟩:∃ k,ie d.m=k+3:=⟨ie d.m-3,aE⟩
 rw[hk,(aE:k+3-3=k)];constructor
 .have:=rP h0;rw[hk,(aE:k+3-1=2+k),bB]at this;rw[cW (bD aG)];exact this
 .have:=qw d.m;rw[hk,(aE:k+3=3+k),bB]at this;rw[cA (bD aG)];exact this
def SS{x N:Nat}{e:Int}(h:canon false x e=canon false N e):x=N:=by
 have h1:(canon false x e).q=(canon false N e).q:=by rw[h]
 rw[qy,qy]at h1;have h2:(x:Rat)*P2 e=(N:Rat)*P2 e:=h1;have h3:=mF e;have h4:(x:Rat)=(N:Rat):=by
  have a1:(x:Rat)<=(N:Rat):=(tc e).1 (by rw[h2];exact cg);have a2:(N:Rat)<=(x:Rat):=(tc e).1 (by rw[h2];exact cg);exact fg a1 a2
 exact_mod_cast h4
def ajt(a b:Dy)(ha:a.ib)(hb:b.ib):gV 238 [gZ a,gZ b] (gZ (iW a b)):=by
 have hc:=Ba a b;exact ak call238 func238 (ae [.c (QC a b ha.yd hb.yd)]<|.w (0<=(iL a b))
  (λk1=>ae [tB 8 (bn k1)]<|rQ (gZ a) (gZ (iW a b)) (by unfold iW;rw[bj aE]))
  (λk1=>ae [tB 8 (bt k1)]<|rQ (gZ b) (gZ (iW a b)) (by unfold iW;rw[bk aE]))) 
def Dl(x:Iv)(hx:x.ib)(lh:x.all=false):gV 193 [ij x] (gZ (iR x)):=by
 obtain⟨v1,v2,v3⟩:=uq hx lh;exact ak call193 func193 (ae [ag [gZ x.lo] (QD _),.c (ajt (jf x.lo) x.hi (yg v1) v2)]<|rQ (gZ (iW (jf x.lo) x.hi)) (gZ (iR x)) (by rw[akh v1 v2 v3])) 
def ai6(k:Int)(h1:-1000<=k)(h2:k<=1000):gV 199 [iP k] (bP true):=
 ak call199 func199 (af [tT 4 ((-32768)<=k) aE,tT 7 (k<=32768) aE]) 
def ai5(d:Dy)(hv:d.ib):gV 95 [gZ d] (.iw [gZ d,iP 0]):=
 ak call95 func95 (af [ag [gZ d] (DM _ aF)]) 
def ai7(n:Int)(h1:-1000<=n)(h2:n<=1000):gV 192 [bP false,ia [1],iP n] (.iw [gZ (iS n),iP 0]):=by
 have hv:=IS h1 h2;exact ak call192 func192 (af [ai 10 (decide (256<(([1].length:Nat):Int))) aG,.c (ai6 n aE aE),.c (by have:=B4 1 n aG aE aE;rwa[MX]at this:gV 169 [bP false,ia [1],iP n] (gZ (iS n))),.c (ai5 (iS n) hv)]) 
def BM(n:Int)(h1:-1000<=n)(h2:n<=1000):gV 117 [iP n] (gZ (iS n)):=
 ak call117 func117 (af [.o 6 (.e (BN (x:=1)):aj (.sl false 1 1 λi_ j_=>[.v (.int .u32 1)].getD (i_*1+j_) (.v (.bool false))) (ia [1])),.c (ai7 n aE aE)]) 
def Xh(m i:Nat)(h:i<ie m)(hb:ie m<=4096):gV 191 [ia (gW m),iP i] (iP ((m/2^i%2:Nat):Int)):=by
 have hx:i/32<(gW m).length:=ajR.2 aE;have hd:((gW m).getD (i/32) 0)<4294967296:=by rw[Xy];exact JK _ _
 have tD:((gW m).getD (i/32) 0)/2^(i%32)<4294967296:=cC (b7 _ _) hd;have hq:m/2^i%2<2:=bM _ aG;exact ak call191 func191 (af [.a (aE:0<(32:Int)),iq (i:Int) aE,.o 7 (aq (Int.tdiv (i:Int) 32) ((i/32:Nat):Int) (by rw[fC aE];omega)),
  iX ((i/32:Nat):Int) ((gW m).length) aE,.a (aE:0<(32:Int)),.o 11 (aq (Int.tmod (i:Int) 32) ((i%32:Nat):Int) (by rw[aqR aE];omega)),.o 12 (.int (by rw[IntKind.wrap_u64];omega):aj (.v (.int .u64 (IntKind.u64.wrap ((i%32:Nat):Int)))) (.v (.int .u64 ((i%32:Nat):Int)))),.a (aE:0<=(((i%32:Nat):Int):Int)/\(((i%32:Nat):Int):Int)<=((32:Nat):Int)),.o 13 (.int (by rw[Int.natCast_ediv,Int.natCast_pow];rfl):aj (.v (.int .u32 ((((gW m).getD (i/32) 0:Nat):Int)/2^(i%32)))) (.v (.int .u32 ((((gW m).getD (i/32) 0)/2^(i%32):Nat):Int)))),.o 14 (.int (by rw[show((1:Int))=1 from rfl,aoY _ tD,ajP]):aj (.v (.int .u32 (bits .and .u32 ((((gW m).getD (i/32) 0)/2^(i%32):Nat):Int) 1))) (.v (.int .u32 ((m/2^i%2:Nat):Int)))),.o 15 (aq (IntKind.i64.wrap ((m/2^i%2:Nat):Int)) ((m/2^i%2:Nat):Int) (i64_in _ aE aE))]) 
def Xi(d:Dy)(hv:d.ib)(h0:0<d.iI):gV 186 [gZ d] (bP true):=
 ak call186 func186 (af [ag [gZ d] (DM _ aF),ag [gZ d] (B5 _),tT 8 (0<(Dy.iI d)) aE]) 
def ajf(d:Dy)(hv:d.ib)(h0:0<d.iI)(h3:ie d.m<=3):gV 116 [gZ d] (.iw [gZ (qi d.m d.e),bP true]):=by
 obtain⟨j,vR,GN,_⟩:=Fa hv h0;have hl:=hv.gW;have he:=hv.exp;have hb:ie d.m<=4096:=by
  rcases hv.range with q|q
  .rw [q,rX];omega
  .exact q.1
 have hn:d.neg=false:=aaz h0;exact ak call116 func116 (ae [.c (Xi d aF aF),ag [gZ d] (ZF _ aF),tT 13 ((ie (Dy.m d):Int)<=3) aE]<|rQ (.iw [gZ d,bP true]) (.iw [gZ (qi d.m d.e),bP true]) (by rw[<-ak0 hn h3])) 
def ajg(d:Dy)(hv:d.ib)(h0:0<d.iI)(h3:¬ie d.m<=3):gV 116 [gZ d] (.iw [gZ (qi d.m d.e),bP true]):=by
 obtain⟨j,vR,GN,_⟩:=Fa hv h0;have hl:=hv.gW;have he:=hv.exp;have hb:ie d.m<=4096:=by
  rcases hv.range with q|q
  .rw [q,rX];omega
  .exact q.1
 have hn:d.neg=false:=aaz h0;have q4:=(YG h0 h3).1;have q8:=(YG h0 h3).2;have hnb:=akZ q4 q8;have m1:d.m/2^(ie d.m-3+1)%2<2:=bM _ aG;have m2:d.m/2^(ie d.m-3)%2<2:=bM _ aG;exact ak call116 func116 (ae [.c (Xi d aF aF),ag [gZ d] (ZF _ aF),tF 13 ((ie (Dy.m d):Int)<=3) aE,iq ((ie (Dy.m d):Int)-2) aE,.o 18 (aq ((ie (Dy.m d):Int)-2) (((ie d.m-3)+1:Nat):Int) aE),.c (Xh d.m ((ie d.m-3)+1) aE aE),
  iq (2*((d.m/2^((ie d.m-3)+1)%2:Nat):Int)) aE,iq (4+((2*(d.m/2^((ie d.m-3)+1)%2):Nat):Int)) aE,iq ((ie (Dy.m d):Int)-3) aE,.o 25 (aq ((ie (Dy.m d):Int)-3) ((ie d.m-3:Nat):Int) aE),.c (Xh d.m (ie d.m-3) aE aE),
  iq (((4+(2*(d.m/2^((ie d.m-3)+1)%2)):Nat):Int)+((d.m/2^(ie d.m-3)%2:Nat):Int)) aE,.o 27 (aq (((4+(2*(d.m/2^((ie d.m-3)+1)%2)):Nat):Int)+((d.m/2^(ie d.m-3)%2:Nat):Int)) ((d.m/2^(ie d.m-3):Nat):Int) (by rw[<-hnb];omega)),.o 29 (.int aV:aj (.v (.int .u32 (IntKind.u32.wrap ((d.m/2^(ie d.m-3):Nat):Int)))) (.v (.int .u32 ((d.m/2^(ie d.m-3):Nat):Int)))),.o 30 (.e (BN (x:=(d.m/2^(ie d.m-3)))):aj (.sl false 1 1 λi_ j_=>[.v (.int .u32 ((d.m/2^(ie d.m-3):Nat):Int))].getD (i_*1+j_) (.v (.bool false))) (ia [d.m/2^(ie d.m-3)])),
  iq (d.e+(ie (Dy.m d):Int)) aE,iq ((d.e+(ie (Dy.m d):Int))-3) aE,.o 35 (aq ((d.e+(ie (Dy.m d):Int))-3) (d.e+((ie d.m-3:Nat):Int)) aE),ag [bP false,ia [d.m/2^(ie d.m-3)],iP (d.e+((ie d.m-3:Nat):Int))] (B4 _ _ aE aE aE)]<|rQ (.iw [gZ (canon false (d.m/2^(ie d.m-3)) (d.e+((ie d.m-3:Nat):Int))),bP true]) (.iw [gZ (qi d.m d.e),bP true]) (by unfold qi;rw[bj h3])) 
def ajh(d:Dy)(hv:d.ib)(h0:0<d.iI):gV 116 [gZ d] (.iw [gZ (qi d.m d.e),bP true]):=by
 by_cases h3:ie d.m<=3
 .exact ajf d hv h0 h3
 .exact ajg d hv h0 h3
def Jz(x:Nat)(e:Int)(h:x<8):(gW (canon false x e).m).length<=1:=by
 refine s9 ?_;have:(canon false x e).m<=x:=by
  unfold canon;split
  .exact bS _
  .exact b7 _ _
 omega
def ajc(j:Int)(h1:-30000<=j)(h2:j<=30000)(h4:jD j=4):gV 119 [gZ (nD j)] (gZ (nD (j-1))):=by
 have hv:(nD j).ib:=ri aE aE;have hm:=Fb j;have ht:=uB j;have hp:=K5 j;have hl:(gW (nD j).m).length<=100000:=by have:=hv.gW;omega
 have Oo:nD j=canon false (jD j) (j/4):=rfl;rw[bk h4]at hp;exact ak call119 func119 (ae [ag [gZ (nD j)] (Ft _ hv.yd),.s (Sp.jc (Xr j) 0 (jD j) aE (λx hx kW=>by
    exact iy (af [tT 8 ((x:Int)<8) aE,.o 11 (.int aV:aj (.v (.int .u32 (IntKind.u32.wrap (x:Int)))) (.v (.int .u32 (x:Int)))),.o 12 (.e (BN (x:=x)):aj (.sl false 1 1 λi_ j_=>[.v (.int .u32 (x:Int))].getD (i_*1+j_) (.v (.bool false))) (ia [x])),iq ((Dy.im (nD j))-3) aE,.o 14 (aq ((Dy.im (nD j))-3) (j/4) aW),ag [bP false,ia [x],iP (j/4)] (B4 _ _ aE aE aE),.c (DJ _ _ false (iff_of_false aG (λq=>by have:=SS q;omega)) (by have:=Jz x (j/4) aE;omega) hl:gV 34 [gZ (canon false x (j/4)),gZ (nD j)] _),
     iq ((x:Int)+1) aE]) aI)
  (λhx=>by
    exact iy (af [tT 8 ((jD j:Int)<8) aE,.o 11 (.int aV:aj (.v (.int .u32 (IntKind.u32.wrap (jD j:Int)))) (.v (.int .u32 (jD j:Int)))),.o 12 (.e (BN (x:=(jD j))):aj (.sl false 1 1 λi_ j_=>[.v (.int .u32 (jD j:Int))].getD (i_*1+j_) (.v (.bool false))) (ia [jD j])),iq ((Dy.im (nD j))-3) aE,.o 14 (aq ((Dy.im (nD j))-3) (j/4) aW),ag [bP false,ia [jD j],iP (j/4)] (B4 _ _ aE aE aE),ag [gZ (canon false (jD j) (j/4)),gZ (nD j)] (DJ _ _ true (iff_of_true rfl Oo.symm) (by have:=Jz (jD j) (j/4) aE;omega) hl)]) aI) aM:jb 3 f119 (Xr j 0) (.exit 0) ⟨35,true,[(4,.e (iP (jD j:Int))),(3,.e (iP (Dy.im (nD j)))),(2,.box 2 0)],[(2,.cells 31 ar)]⟩) .nil,ah 23 ((jD j:Int)==4) (bc aE),.o 24 (.e (BN (x:=7)):aj (.sl false 1 1 λi_ j_=>[.v (.int .u32 7)].getD (i_*1+j_) (.v (.bool false))) (ia [7])),
  iq ((Dy.im (nD j))-4) aE,.o 26 (aq ((Dy.im (nD j))-4) (j/4-1) aW),ag [bP false,ia [7],iP (j/4-1)] (B4 _ _ aE aE aE)]<|rQ (gZ (canon false 7 (j/4-1))) (gZ (nD (j-1))) (by rw[hp])) 
def ajd(j:Int)(h1:-30000<=j)(h2:j<=30000)(h4:¬jD j=4):gV 119 [gZ (nD j)] (gZ (nD (j-1))):=by
 have hv:(nD j).ib:=ri aE aE;have hm:=Fb j;have ht:=uB j;have hp:=K5 j;have hl:(gW (nD j).m).length<=100000:=by have:=hv.gW;omega
 have Oo:nD j=canon false (jD j) (j/4):=rfl;rw[bj h4]at hp;exact ak call119 func119 (ae [ag [gZ (nD j)] (Ft _ hv.yd),.s (Sp.jc (Xs j) 0 (jD j) aE (λx hx kW=>by
    exact iy (af [tT 8 ((x:Int)<8) aE,.o 11 (.int aV:aj (.v (.int .u32 (IntKind.u32.wrap (x:Int)))) (.v (.int .u32 (x:Int)))),.o 12 (.e (BN (x:=x)):aj (.sl false 1 1 λi_ j_=>[.v (.int .u32 (x:Int))].getD (i_*1+j_) (.v (.bool false))) (ia [x])),iq ((Dy.im (nD j))-3) aE,.o 14 (aq ((Dy.im (nD j))-3) (j/4) aW),ag [bP false,ia [x],iP (j/4)] (B4 _ _ aE aE aE),.c (DJ _ _ false (iff_of_false aG (λq=>by have:=SS q;omega)) (by have:=Jz x (j/4) aE;omega) hl:gV 34 [gZ (canon false x (j/4)),gZ (nD j)] _),
     iq ((x:Int)+1) aE]) aI)
  (λhx=>by
    exact iy (af [tT 8 ((jD j:Int)<8) aE,.o 11 (.int aV:aj (.v (.int .u32 (IntKind.u32.wrap (jD j:Int)))) (.v (.int .u32 (jD j:Int)))),.o 12 (.e (BN (x:=(jD j))):aj (.sl false 1 1 λi_ j_=>[.v (.int .u32 (jD j:Int))].getD (i_*1+j_) (.v (.bool false))) (ia [jD j])),iq ((Dy.im (nD j))-3) aE,.o 14 (aq ((Dy.im (nD j))-3) (j/4) aW),ag [bP false,ia [jD j],iP (j/4)] (B4 _ _ aE aE aE),ag [gZ (canon false (jD j) (j/4)),gZ (nD j)] (DJ _ _ true (iff_of_true rfl Oo.symm) (by have:=Jz (jD j) (j/4) aE;omega) hl)]) aI) aM:jb 3 f119 (Xs j 0) (.exit 0) ⟨35,true,[(4,.e (iP (jD j:Int))),(3,.e (iP (Dy.im (nD j)))),(2,.box 2 0)],[(2,.cells 31 ar)]⟩) .nil,ai 23 ((jD j:Int)==4) (a7 aE),iq ((jD j:Int)-1) aE,.o 29 (aq ((jD j:Int)-1) ((jD j-1:Nat):Int) aE),.o 30 (.int aV:aj (.v (.int .u32 (IntKind.u32.wrap ((jD j-1:Nat):Int)))) (.v (.int .u32 ((jD j-1:Nat):Int)))),.o 31 (.e (BN (x:=(jD j-1))):aj (.sl false 1 1 λi_ j_=>[.v (.int .u32 ((jD j-1:Nat):Int))].getD (i_*1+j_) (.v (.bool false))) (ia [jD j-1])),iq ((Dy.im (nD j))-3) aE,.o 33 (aq ((Dy.im (nD j))-3) (j/4) aW),ag [bP false,ia [jD j-1],iP (j/4)] (B4 _ _ aE aE aE)]<|rQ (gZ (canon false (jD j-1) (j/4))) (gZ (nD (j-1))) (by rw[hp])) 
def EW(j:Int)(h1:-30000<=j)(h2:j<=30000):gV 119 [gZ (nD j)] (gZ (nD (j-1))):=by
 by_cases h4:jD j=4
 .exact ajc j h1 h2 h4
 .exact ajd j h1 h2 h4
def U2(l:List Iv)(d:Dy)(k t:Nat)(x:Nat):PS:=⟨48,true,[(9,.e (iP x)),(7,.box 7 0),(0,.e (ig l)),(1,.e (iP k)),(2,.e (iP t))],[(7,.cells 31 (ix d))]⟩
def U3(l:List Iv)(d:Dy)(k t x:Nat)(q:Nat):PS:=⟨48,true,[(11,.e (iP q)),(10,.box 10 0),(9,.e (iP x)),(7,.box 7 0),(0,.e (ig l)),(1,.e (iP k)),(2,.e (iP t))],[(10,.cells 31 (ix (jF d q (iR (l.getD x gY))))),(7,.cells 31 (ix d))]⟩
def U4(l:List Iv)(d:Dy)(k t x:Nat)(q:Nat):PS:=⟨48,true,[(11,.e (iP q)),(10,.box 10 0),(9,.e (iP x)),(7,.box 7 0),(0,.e (ig l)),(1,.e (iP k)),(2,.e (iP t))],[(10,.cells 31 (ix (jF d q (iR (l.getD x gY))))),(7,.cells 31 (ix d))]⟩
def UT(l:List Iv)(d:Dy)(k t:Nat)(x:Nat):PS:=⟨48,true,[(9,.e (iP x)),(7,.box 7 0),(0,.e (ig l)),(1,.e (iP k)),(2,.e (iP t))],[(7,.cells 31 (ix d))]⟩
def UU(l:List Iv)(d:Dy)(k t x:Nat)(q:Nat):PS:=⟨48,true,[(11,.e (iP q)),(10,.box 10 0),(9,.e (iP x)),(7,.box 7 0),(0,.e (ig l)),(1,.e (iP k)),(2,.e (iP t))],[(10,.cells 31 (ix (jF d q (iR (l.getD x gY))))),(7,.cells 31 (ix d))]⟩
def UW(l:List Iv)(d:Dy)(k t x:Nat)(q:Nat):PS:=⟨48,true,[(11,.e (iP q)),(10,.box 10 0),(9,.e (iP x)),(7,.box 7 0),(0,.e (ig l)),(1,.e (iP k)),(2,.e (iP t))],[(10,.cells 31 (ix (jF d q (iR (l.getD x gY))))),(7,.cells 31 (ix d))]⟩
def UX(l:List Iv)(d:Dy)(k t:Nat)(x:Nat):PS:=⟨48,true,[(9,.e (iP x)),(7,.box 7 0),(0,.e (ig l)),(1,.e (iP k)),(2,.e (iP t))],[(7,.cells 31 (ix d))]⟩
def UY(l:List Iv)(d:Dy)(k t x:Nat)(q:Nat):PS:=⟨48,true,[(11,.e (iP q)),(10,.box 10 0),(9,.e (iP x)),(7,.box 7 0),(0,.e (ig l)),(1,.e (iP k)),(2,.e (iP t))],[(10,.cells 31 (ix (jF d q (iR (l.getD x gY))))),(7,.cells 31 (ix d))]⟩
def UZ(l:List Iv)(d:Dy)(k t x:Nat)(q:Nat):PS:=⟨48,true,[(11,.e (iP q)),(10,.box 10 0),(9,.e (iP x)),(7,.box 7 0),(0,.e (ig l)),(1,.e (iP k)),(2,.e (iP t))],[(10,.cells 31 (ix (jF d q (iR (l.getD x gY))))),(7,.cells 31 (ix d))]⟩
def U1(l:List Iv)(d:Dy)(k t N:Nat)(q:Nat):PS:=⟨48,true,[(11,.e (iP q)),(10,.box 10 0),(9,.e (iP N)),(7,.box 7 0),(0,.e (ig l)),(1,.e (iP k)),(2,.e (iP t))],[(10,.cells 31 (ix (jF d q (iR (l.getD N gY))))),(7,.cells 31 (ix d))]⟩
def aaQ(l:List Iv)(d:Dy)(k t:Nat)(j0:Int)(n:Nat):PS:=⟨51,true,[(11,.box 11 0),(9,.box 9 0),(0,.e (ig l)),(1,.e (iP k)),(2,.e (iP t))],[(11,.cells 31 (ix (iS (-60)))),(9,.cells 31 (ix (nD (j0-(n:Int)))))]⟩
def aaT(l:List Iv)(d:Dy)(k t:Nat)(j0:Int)(n1:Nat)(m:Nat):PS:=⟨51,true,[(12,.own 12),(13,.e (iP m)),(11,.box 11 0),(9,.box 9 0)],[(12,.row true 31 m 3 (mQ ((List.range m).map λ(i:Nat)=>nD (j0-(n1:Int)-i)))),(11,.cells 31 (ix (iS (-60)))),(9,.cells 31 (ix (nD (j0-(n1:Int)-m))))]⟩
def aaR(l:List Iv)(d:Dy)(k t:Nat)(j0:Int)(n:Nat):PS:=⟨51,true,[(11,.box 11 0),(9,.box 9 0),(0,.e (ig l)),(1,.e (iP k)),(2,.e (iP t))],[(11,.cells 31 (ix (iS (-60)))),(9,.cells 31 (ix (nD (j0-(n:Int)))))]⟩
def aaU(l:List Iv)(d:Dy)(k t:Nat)(j0:Int)(n1:Nat)(m:Nat):PS:=⟨51,true,[(12,.own 12),(13,.e (iP m)),(11,.box 11 0),(9,.box 9 0)],[(12,.row true 31 m 3 (mQ ((List.range m).map λ(i:Nat)=>nD (j0-(n1:Int)-i)))),(11,.cells 31 (ix (iS (-60)))),(9,.cells 31 (ix (nD (j0-(n1:Int)-m))))]⟩
def aaS(l:List Iv)(d:Dy)(k t:Nat)(j0:Int)(n:Nat):PS:=⟨51,true,[(11,.box 11 0),(9,.box 9 0),(0,.e (ig l)),(1,.e (iP k)),(2,.e (iP t))],[(11,.cells 31 (ix (iS (-60)))),(9,.cells 31 (ix (nD (j0-(n:Int)))))]⟩
def aaV(l:List Iv)(d:Dy)(k t:Nat)(j0:Int)(n1:Nat)(m:Nat):PS:=⟨51,true,[(12,.own 12),(13,.e (iP m)),(11,.box 11 0),(9,.box 9 0)],[(12,.row true 31 m 3 (mQ ((List.range m).map λ(i:Nat)=>nD (j0-(n1:Int)-i)))),(11,.cells 31 (ix (iS (-60)))),(9,.cells 31 (ix (nD (j0-(n1:Int)-m))))]⟩
structure nd(d:Dy):Prop where
 len:(gW d.m).length<=256
 lo:-18000<=d.e
 hi:d.e<=18000
def Fp.Dy.ib.qK{d:Dy}(h:d.ib):nd d:=⟨h.yd.len,by have:=h.yd.lo;omega,by have:=h.yd.hi;omega⟩
def Ly(a:Dy)(ha:nd a):gV 158 [gZ a] (iP a.im):=xn call158 (λA c w h _=>by
 have:=ZH a.neg A c (gW a.m) a.e w h (uI _) (by have:=ha.len;omega) (by have:=ha.lo;omega) (by have:=ha.hi;omega);rw[kq]at this;exact this) rv
def DK(a b:Dy)(ha:nd a)(hb:nd b):gV 194 [gZ a,gZ b] (gZ (iY a b)):=Qh call194 (λA c B d w h k _=>by
 have:=amu a.neg A c (gW a.m) a.e b.neg B d (gW b.m) b.e w h k (by have:=ha.len;omega) (by have:=hb.len;omega) (by have:=ha.lo;omega) (by have:=ha.hi;omega) (by have:=hb.lo;omega) (by have:=hb.hi;omega);rw[kq,kq]at this;exact this) rd
def amB(a b:Dy)(ha:nd a)(hb:nd b):gV 96 [gZ a,gZ b] (gZ (iJ a b)):=by
 obtain⟨N7,ha2,ha3⟩:=ha;obtain⟨kD,lZ,qU⟩:=hb;have ba:=zL N7;have bb:=zL kD;obtain⟨k,hk⟩:∃ k,min a.e b.e=k:=⟨_,rfl⟩
 exact ak call96 func96 (.w (((gW a.m).length:Int)=0)
  (λk1=>by
   have a0:a.m=0:=pE.1 aE;exact ae [tB 11 (bc k1)]<|rQ (gZ b) (gZ (iJ a b)) (by rw[show iJ a b=b by unfold iJ;rw[bk a0]]))
  (λk1=>by
   have a0:a.m≠0:=λh=>k1 (by rw[pE.2 h];rfl)
   exact ae [tB 11 (a7 k1)]<|.w (((gW b.m).length:Int)=0)
    (λk2=>by
     have b0:b.m=0:=pE.1 aE;exact ae [tB 16 (bc k2)]<|rQ (gZ a) (gZ (iJ a b)) (by rw[show iJ a b=a by unfold iJ;rw[bj a0,bk b0]]))
    (λk2=>by
     have b0:b.m≠0:=λh=>k2 (by rw[pE.2 h];rfl)
     have hX:(gW (a.m*2^((a.e-k).toNat))).length<=1400:=oX (by rw[qC a0];omega);have hY:(gW (b.m*2^((b.e-k).toNat))).length<=1400:=oX (by rw[qC b0];omega);have hP:=Xx hX hY;have hM:(gW ((a.m*2^((a.e-k).toNat))-(b.m*2^((b.e-k).toNat)))).length<=1400:=bA (mO (dz _ _)) hX;have hN:(gW ((b.m*2^((b.e-k).toNat))-(a.m*2^((a.e-k).toNat)))).length<=1400:=bA (mO (dz _ _)) hY;exact ae [tB 16 (a7 k2),.o 22 (aq (if b.e<a.e then b.e else a.e) k (by rw[<-hk];split<;>omega)),iq (a.e-k) aE,.o 28 (aq (a.e-k) ((a.e-k).toNat:Int) aE),ag [ia (gW a.m),iP ((a.e-k).toNat:Int)] (Lr _ _ aE aE),iq (b.e-k) aE,.o 35 (aq (b.e-k) ((b.e-k).toNat:Int) aE),ag [ia (gW b.m),iP ((b.e-k).toNat:Int)] (Lr _ _ aE aE)]<|.w (a.neg=b.neg)
      (λk3=>ae [tB 41 (bc k3),ag [ia (gW (a.m*2^((a.e-k).toNat))),ia (gW (b.m*2^((b.e-k).toNat)))] (Zd _ _ aE aE),ag [bP a.neg,ia (gW ((a.m*2^((a.e-k).toNat))+(b.m*2^((b.e-k).toNat)))),iP k] (Fs _ _ _ aE aE aE)]<|rQ (gZ (canon a.neg ((a.m*2^((a.e-k).toNat))+(b.m*2^((b.e-k).toNat))) k)) (gZ (iJ a b)) (by have h:=Ra (s:=a.neg) a0 b0 hk;rw[show(⟨a.neg,b.m,b.e⟩:Dy)=b by rw[k3]]at h;exact congrArg gZ h.symm))
      (λk3=>ae [tB 41 (a7 k3),ag [ia (gW (a.m*2^((a.e-k).toNat))),ia (gW (b.m*2^((b.e-k).toNat)))] (Zc _ _ aE aE)]<|.w (0<=(kI (a.m*2^((a.e-k).toNat)) (b.m*2^((b.e-k).toNat))))
       (λk4=>by
        have hc:(b.m*2^((b.e-k).toNat))<=(a.m*2^((a.e-k).toNat)):=JF.1 k4;exact ae [tB 52 (bn k4),ag [ia (gW (a.m*2^((a.e-k).toNat))),ia (gW (b.m*2^((b.e-k).toNat)))] (Ls _ _ aE aE),ag [bP a.neg,ia (gW ((a.m*2^((a.e-k).toNat))-(b.m*2^((b.e-k).toNat)))),iP k] (Fs _ _ _ aE aE aE)]<|rQ (gZ (canon a.neg ((a.m*2^((a.e-k).toNat))-(b.m*2^((b.e-k).toNat))) k)) (gZ (iJ a b)) (congrArg gZ (Q8 (s:=a.neg) (t:=b.neg) a0 b0 hk k3 hc).symm))
       (λk4=>by
        have hc:(a.m*2^((a.e-k).toNat))<(b.m*2^((b.e-k).toNat)):=aqo λh=>k4 (JF.2 h)
        exact ae [tB 52 (bt k4),ag [ia (gW (b.m*2^((b.e-k).toNat))),ia (gW (a.m*2^((a.e-k).toNat)))] (Ls _ _ aE aE),ag [bP b.neg,ia (gW ((b.m*2^((b.e-k).toNat))-(a.m*2^((a.e-k).toNat)))),iP k] (Fs _ _ _ aE aE aE)]<|rQ (gZ (canon b.neg ((b.m*2^((b.e-k).toNat))-(a.m*2^((a.e-k).toNat))) k)) (gZ (iJ a b)) (congrArg gZ (Q9 (s:=a.neg) (t:=b.neg) a0 b0 hk k3 hc).symm)))))) 
def tS(a b:Dy)(ha:nd a)(hb:nd b):gV 75 [gZ a,gZ b] (iP (iL a b)):=by
 have hn:nd (jf b):=⟨hb.len,hb.lo,hb.hi⟩
 exact ak call75 func75 (ae [ag [gZ a] (B5 _),ag [gZ b] (B5 _)]<|.w ((Dy.iI a)=(Dy.iI b))
  (λk1=>ae [tB 13 (bg k1)]<|.w ((Dy.iI a)=0)
   (λk2=>ae [tB 18 (bc k2)]<|rQ (iP 0) (iP (iL a b)) (by rw[wO,bj (by simpa using k1),bk k2]))
   (λk2=>ae [tB 18 (a7 k2),ag [gZ a] (Ly _ ha),ag [gZ b] (Ly _ hb)]<|.w ((Dy.im a)=(Dy.im b))
    (λk3=>ae [tB 23 (bg k3),ag [gZ b] (QD _),.c (amB a (jf b) ha hn),ag [gZ (iJ a (jf b))] (B5 _)]<|rQ (iP (Dy.iI (iJ a (jf b)))) (iP (iL a b)) (by rw[wO,bj (by simpa using k1),bj k2,bj (by simpa using k3)]))
    (λk3=>ae [tB 23 (bh k3),ag [gZ a] (Ly _ ha),ag [gZ b] (Ly _ hb)]<|.w ((decide ((Dy.im a)<(Dy.im b)))=(decide (0<(Dy.iI a))))
     (λk4=>ae [tB 31 (bc k4)]<|rQ (iP (-1)) (iP (iL a b)) (by rw[wO,bj (by simpa using k1),bj k2,bk k3,bk (by simpa using k4)]))
     (λk4=>ae [tB 31 (a7 k4)]<|rQ (iP 1) (iP (iL a b)) (by rw[wO,bj (by simpa using k1),bj k2,bk k3,bj (by simpa using k4)])))))
  (λk1=>ae [tB 13 (bh k1)]<|.w ((Dy.iI a)<(Dy.iI b))
   (λk2=>ae [tB 16 (bn k2)]<|rQ (iP (-1)) (iP (iL a b)) (by rw[wO,bk k1,bk k2]))
   (λk2=>ae [tB 16 (bt k2)]<|rQ (iP 1) (iP (iL a b)) (by rw[wO,bk k1,bj k2])))) 
def ajb(l:List Iv)(d:Dy)(k t:Nat)(nP:l.length<=100)(hl:∀ i,(l.getD i gY).ib)(hd:d.ib)(hk:k<=16)(ht:t<=1000)(qp:∀ x,x<l.length->(l.getD x gY).all=false->∀ q,q<=k->nd (jF d q (iR (l.getD x gY))))(hf:∀ x,x<l.length->(l.getD x gY).all=false/\iL (jF d k (iR (l.getD x gY))) (iS (0-(t:Int)))<=0):gV 118 [ig l,iP k,iP t,gZ d] (bP true):=by
 have hnd:nd d:=hd.qK;exact ak call118 func118 (af [.s (Sp.jc (U2 l d k t) 0 l.length aE (λx hx kW=>by
    have qo:=hf x aE;have pS:=qo.1;have VQ:=qo.2;have oW:=qp x aE pS;have sG:=hl x;have OG:nd (jF d k (iR (l.getD x gY))):=oW k aE;have lR:nd (iS (0-(t:Int))):=(IS (n:=0-(t:Int)) aE aE).qK;by_cases hz:(jF d k (iR (l.getD x gY))).m=0
    .exact iy (af [tT 15 ((x:Int)<l.length) aE,iX (x:Int) (l.length) aE,ai 22 ((l.getD x gY).all) pS,iX (x:Int) (l.length) aE,.c (Dl (l.getD x gY) aF pS),.s (Sp.jc (U3 l d k t x) 0 k aE (λq hq yW=>by
    have vX:nd (jF d q (iR (l.getD x gY))):=oW q aE;exact iy (af [tT 30 ((q:Int)<k) aE,ag [gZ (jF d q (iR (l.getD x gY))),gZ d] (DK _ _ vX hnd),iq ((q:Int)+1) aE]) aI)
  (λhq=>by
    exact iy (af [tF 30 ((k:Int)<k) aE]) aI) aM:jb 8 f118 (U3 l d k t x 0) (.exit 2) ⟨48,true,[(10,.box 10 0),(9,.e (iP x)),(7,.box 7 0),(0,.e (ig l)),(1,.e (iP k)),(2,.e (iP t))],[(10,.cells 31 (ix (jF d k (iR (l.getD x gY))))),(7,.cells 31 (ix d))]⟩) (af [.b 10 (.iT rfl:Bx.le (.cells 31 (ix (iR (l.getD x gY)))) (.cells 31 (ix (jF d 0 (iR (l.getD x gY))))))]),tF 39 (0<(((gW ((jF d k (iR (l.getD x gY))).m)).length:Nat):Int)) (by rw[pE.2 hz];decide),iq ((x:Int)+1) aE]) aI 
    .exact iy (af [tT 15 ((x:Int)<l.length) aE,iX (x:Int) (l.length) aE,ai 22 ((l.getD x gY).all) pS,iX (x:Int) (l.length) aE,.c (Dl (l.getD x gY) aF pS),.s (Sp.jc (U4 l d k t x) 0 k aE (λq hq yW=>by
    have vX:nd (jF d q (iR (l.getD x gY))):=oW q aE;exact iy (af [tT 30 ((q:Int)<k) aE,ag [gZ (jF d q (iR (l.getD x gY))),gZ d] (DK _ _ vX hnd),iq ((q:Int)+1) aE]) aI)
  (λhq=>by
    exact iy (af [tF 30 ((k:Int)<k) aE]) aI) aM:jb 8 f118 (U4 l d k t x 0) (.exit 2) ⟨48,true,[(10,.box 10 0),(9,.e (iP x)),(7,.box 7 0),(0,.e (ig l)),(1,.e (iP k)),(2,.e (iP t))],[(10,.cells 31 (ix (jF d k (iR (l.getD x gY))))),(7,.cells 31 (ix d))]⟩) (af [.b 10 (.iT rfl:Bx.le (.cells 31 (ix (iR (l.getD x gY)))) (.cells 31 (ix (jF d 0 (iR (l.getD x gY))))))]),tT 39 (0<(((gW ((jF d k (iR (l.getD x gY))).m)).length:Nat):Int)) (by have:=nR hz;omega),iq (0-(t:Int)) aE,.c (BM (0-(t:Int)) aE aE),.c (tS (jF d k (iR (l.getD x gY))) (iS (0-(t:Int))) aF aF),tF 46 (0<(iL (jF d k (iR (l.getD x gY))) (iS (0-(t:Int))))) aE,
      iq ((x:Int)+1) aE]) aI)
  (λhx=>by
    exact iy (af [tF 15 ((l.length:Int)<l.length) aE]) aI) aM:jb 2 f118 (U2 l d k t 0) (.exit 0) ⟨48,true,[],[]⟩) .nil]) 
def ai9(l:List Iv)(d:Dy)(k t:Nat)(nP:l.length<=100)(hl:∀ i,(l.getD i gY).ib)(hd:d.ib)(hk:k<=16)(ht:t<=1000)(qp:∀ x,x<l.length->(l.getD x gY).all=false->∀ q,q<=k->nd (jF d q (iR (l.getD x gY))))(N:Nat)(hN:N<l.length)(hf:∀ x,x<N->(l.getD x gY).all=false/\iL (jF d k (iR (l.getD x gY))) (iS (0-(t:Int)))<=0)(hn:(l.getD N gY).all=true):gV 118 [ig l,iP k,iP t,gZ d] (bP false):=by
 have hnd:nd d:=hd.qK;exact ak call118 func118 (af [.s (Sp.jc (UT l d k t) 0 N aE (λx hx kW=>by
    have qo:=hf x aE;have pS:=qo.1;have VQ:=qo.2;have oW:=qp x aE pS;have sG:=hl x;have OG:nd (jF d k (iR (l.getD x gY))):=oW k aE;have lR:nd (iS (0-(t:Int))):=(IS (n:=0-(t:Int)) aE aE).qK;by_cases hz:(jF d k (iR (l.getD x gY))).m=0
    .exact iy (af [tT 15 ((x:Int)<l.length) aE,iX (x:Int) (l.length) aE,ai 22 ((l.getD x gY).all) pS,iX (x:Int) (l.length) aE,.c (Dl (l.getD x gY) aF pS),.s (Sp.jc (UU l d k t x) 0 k aE (λq hq yW=>by
    have vX:nd (jF d q (iR (l.getD x gY))):=oW q aE;exact iy (af [tT 30 ((q:Int)<k) aE,ag [gZ (jF d q (iR (l.getD x gY))),gZ d] (DK _ _ vX hnd),iq ((q:Int)+1) aE]) aI)
  (λhq=>by
    exact iy (af [tF 30 ((k:Int)<k) aE]) aI) aM:jb 8 f118 (UU l d k t x 0) (.exit 2) ⟨48,true,[(10,.box 10 0),(9,.e (iP x)),(7,.box 7 0),(0,.e (ig l)),(1,.e (iP k)),(2,.e (iP t))],[(10,.cells 31 (ix (jF d k (iR (l.getD x gY))))),(7,.cells 31 (ix d))]⟩) (af [.b 10 (.iT rfl:Bx.le (.cells 31 (ix (iR (l.getD x gY)))) (.cells 31 (ix (jF d 0 (iR (l.getD x gY))))))]),tF 39 (0<(((gW ((jF d k (iR (l.getD x gY))).m)).length:Nat):Int)) (by rw[pE.2 hz];decide),iq ((x:Int)+1) aE]) aI 
    .exact iy (af [tT 15 ((x:Int)<l.length) aE,iX (x:Int) (l.length) aE,ai 22 ((l.getD x gY).all) pS,iX (x:Int) (l.length) aE,.c (Dl (l.getD x gY) aF pS),.s (Sp.jc (UW l d k t x) 0 k aE (λq hq yW=>by
    have vX:nd (jF d q (iR (l.getD x gY))):=oW q aE;exact iy (af [tT 30 ((q:Int)<k) aE,ag [gZ (jF d q (iR (l.getD x gY))),gZ d] (DK _ _ vX hnd),iq ((q:Int)+1) aE]) aI)
  (λhq=>by
    exact iy (af [tF 30 ((k:Int)<k) aE]) aI) aM:jb 8 f118 (UW l d k t x 0) (.exit 2) ⟨48,true,[(10,.box 10 0),(9,.e (iP x)),(7,.box 7 0),(0,.e (ig l)),(1,.e (iP k)),(2,.e (iP t))],[(10,.cells 31 (ix (jF d k (iR (l.getD x gY))))),(7,.cells 31 (ix d))]⟩) (af [.b 10 (.iT rfl:Bx.le (.cells 31 (ix (iR (l.getD x gY)))) (.cells 31 (ix (jF d 0 (iR (l.getD x gY))))))]),tT 39 (0<(((gW ((jF d k (iR (l.getD x gY))).m)).length:Nat):Int)) (by have:=nR hz;omega),iq (0-(t:Int)) aE,.c (BM (0-(t:Int)) aE aE),.c (tS (jF d k (iR (l.getD x gY))) (iS (0-(t:Int))) aF aF),tF 46 (0<(iL (jF d k (iR (l.getD x gY))) (iS (0-(t:Int))))) aE,
      iq ((x:Int)+1) aE]) aI)
  (λhx=>by
    exact iy (af [tT 15 ((N:Int)<l.length) aE,iX (N:Int) (l.length) aE,ah 22 ((l.getD N gY).all) hn]) aI) aM:jb 2 f118 (UT l d k t 0) .ret ⟨48,true,[(8,.e (bP false))],[]⟩) .nil]) 
def aja(l:List Iv)(d:Dy)(k t:Nat)(nP:l.length<=100)(hl:∀ i,(l.getD i gY).ib)(hd:d.ib)(hk:k<=16)(ht:t<=1000)(qp:∀ x,x<l.length->(l.getD x gY).all=false->∀ q,q<=k->nd (jF d q (iR (l.getD x gY))))(N:Nat)(hN:N<l.length)(hf:∀ x,x<N->(l.getD x gY).all=false/\iL (jF d k (iR (l.getD x gY))) (iS (0-(t:Int)))<=0)(hn:(l.getD N gY).all=false)(hc:¬iL (jF d k (iR (l.getD N gY))) (iS (0-(t:Int)))<=0)(hz:(jF d k (iR (l.getD N gY))).m≠0):gV 118 [ig l,iP k,iP t,gZ d] (bP false):=by
 have hnd:nd d:=hd.qK;exact ak call118 func118 (af [.s (Sp.jc (UX l d k t) 0 N aE (λx hx kW=>by
    have qo:=hf x aE;have pS:=qo.1;have VQ:=qo.2;have oW:=qp x aE pS;have sG:=hl x;have OG:nd (jF d k (iR (l.getD x gY))):=oW k aE;have lR:nd (iS (0-(t:Int))):=(IS (n:=0-(t:Int)) aE aE).qK;by_cases hz:(jF d k (iR (l.getD x gY))).m=0
    .exact iy (af [tT 15 ((x:Int)<l.length) aE,iX (x:Int) (l.length) aE,ai 22 ((l.getD x gY).all) pS,iX (x:Int) (l.length) aE,.c (Dl (l.getD x gY) aF pS),.s (Sp.jc (UY l d k t x) 0 k aE (λq hq yW=>by
    have vX:nd (jF d q (iR (l.getD x gY))):=oW q aE;exact iy (af [tT 30 ((q:Int)<k) aE,ag [gZ (jF d q (iR (l.getD x gY))),gZ d] (DK _ _ vX hnd),iq ((q:Int)+1) aE]) aI)
  (λhq=>by
    exact iy (af [tF 30 ((k:Int)<k) aE]) aI) aM:jb 8 f118 (UY l d k t x 0) (.exit 2) ⟨48,true,[(10,.box 10 0),(9,.e (iP x)),(7,.box 7 0),(0,.e (ig l)),(1,.e (iP k)),(2,.e (iP t))],[(10,.cells 31 (ix (jF d k (iR (l.getD x gY))))),(7,.cells 31 (ix d))]⟩) (af [.b 10 (.iT rfl:Bx.le (.cells 31 (ix (iR (l.getD x gY)))) (.cells 31 (ix (jF d 0 (iR (l.getD x gY))))))]),tF 39 (0<(((gW ((jF d k (iR (l.getD x gY))).m)).length:Nat):Int)) (by rw[pE.2 hz];decide),iq ((x:Int)+1) aE]) aI 
    .exact iy (af [tT 15 ((x:Int)<l.length) aE,iX (x:Int) (l.length) aE,ai 22 ((l.getD x gY).all) pS,iX (x:Int) (l.length) aE,.c (Dl (l.getD x gY) aF pS),.s (Sp.jc (UZ l d k t x) 0 k aE (λq hq yW=>by
    have vX:nd (jF d q (iR (l.getD x gY))):=oW q aE;exact iy (af [tT 30 ((q:Int)<k) aE,ag [gZ (jF d q (iR (l.getD x gY))),gZ d] (DK _ _ vX hnd),iq ((q:Int)+1) aE]) aI)
  (λhq=>by
    exact iy (af [tF 30 ((k:Int)<k) aE]) aI) aM:jb 8 f118 (UZ l d k t x 0) (.exit 2) ⟨48,true,[(10,.box 10 0),(9,.e (iP x)),(7,.box 7 0),(0,.e (ig l)),(1,.e (iP k)),(2,.e (iP t))],[(10,.cells 31 (ix (jF d k (iR (l.getD x gY))))),(7,.cells 31 (ix d))]⟩) (af [.b 10 (.iT rfl:Bx.le (.cells 31 (ix (iR (l.getD x gY)))) (.cells 31 (ix (jF d 0 (iR (l.getD x gY))))))]),tT 39 (0<(((gW ((jF d k (iR (l.getD x gY))).m)).length:Nat):Int)) (by have:=nR hz;omega),iq (0-(t:Int)) aE,.c (BM (0-(t:Int)) aE aE),.c (tS (jF d k (iR (l.getD x gY))) (iS (0-(t:Int))) aF aF),tF 46 (0<(iL (jF d k (iR (l.getD x gY))) (iS (0-(t:Int))))) aE,
      iq ((x:Int)+1) aE]) aI)
  (λhx=>by
    have pS:=hn;have oW:=qp N hN hn;have sG:=hl N;have OG:nd (jF d k (iR (l.getD N gY))):=oW k aE;have lR:nd (iS (0-(t:Int))):=(IS (n:=0-(t:Int)) aE aE).qK;exact iy (af [tT 15 ((N:Int)<l.length) aE,iX (N:Int) (l.length) aE,ai 22 ((l.getD N gY).all) pS,iX (N:Int) (l.length) aE,.c (Dl (l.getD N gY) aF pS),.s (Sp.jc (U1 l d k t N) 0 k aE (λq hq yW=>by
    have vX:nd (jF d q (iR (l.getD N gY))):=oW q aE;exact iy (af [tT 30 ((q:Int)<k) aE,ag [gZ (jF d q (iR (l.getD N gY))),gZ d] (DK _ _ vX hnd),iq ((q:Int)+1) aE]) aI)
  (λhq=>by
    exact iy (af [tF 30 ((k:Int)<k) aE]) aI) aM:jb 8 f118 (U1 l d k t N 0) (.exit 2) ⟨48,true,[(10,.box 10 0),(9,.e (iP N)),(7,.box 7 0),(0,.e (ig l)),(1,.e (iP k)),(2,.e (iP t))],[(10,.cells 31 (ix (jF d k (iR (l.getD N gY))))),(7,.cells 31 (ix d))]⟩) (af [.b 10 (.iT rfl:Bx.le (.cells 31 (ix (iR (l.getD N gY)))) (.cells 31 (ix (jF d 0 (iR (l.getD N gY))))))]),tT 39 (0<(((gW ((jF d k (iR (l.getD N gY))).m)).length:Nat):Int)) (by have:=nR hz;omega),iq (0-(t:Int)) aE,.c (BM (0-(t:Int)) aE aE),.c (tS (jF d k (iR (l.getD N gY))) (iS (0-(t:Int))) aF aF),tT 46 (0<(iL (jF d k (iR (l.getD N gY))) (iS (0-(t:Int))))) aE]) aI) aM:jb 2 f118 (UX l d k t 0) .ret ⟨48,true,[(8,.e (bP false))],[]⟩) .nil]) 
def sA(l:List Iv)(d:Dy)(k t:Nat):Bool:=(List.range l.length).all λx=>!(l.getD x gY).all&&decide (iL (jF d k (iR (l.getD x gY))) (iS (0-(t:Int)))<=0)
def Hl(l:List Iv)(d:Dy)(k t:Nat)(nP:l.length<=100)(hl:∀ i,(l.getD i gY).ib)(hd:d.ib)(hk:k<=16)(ht:t<=1000)(qp:∀ x,x<l.length->(l.getD x gY).all=false->∀ q,q<=k->nd (jF d q (iR (l.getD x gY)))):gV 118 [ig l,iP k,iP t,gZ d] (bP (sA l d k t)):=by
 by_cases hb:sA l d k t=true
 .rw [hb];refine ajb l d k t nP hl hd hk ht qp λx hx=>?_
  have:=bX.1 hb x (b5.2 hx);simpa using this
 .rw [bd hb];obtain⟨N,n1,n2,n3⟩:=Jf hb;have hf:∀ x,x<N->(l.getD x gY).all=false/\iL (jF d k (iR (l.getD x gY))) (iS (0-(t:Int)))<=0:=λx hx=>by simpa using n3 x hx
  cases ha:(l.getD N gY).all with
  |true=>exact ai9 l d k t nP hl hd hk ht qp N n1 hf ha
  |false=>
   have hc:¬iL (jF d k (iR (l.getD N gY))) (iS (0-(t:Int)))<=0:=λq=>by rw[ha,bn q]at n2;cases n2
   refine aja l d k t nP hl hd hk ht qp N n1 hf ha hc λq=>hc ?_
   rw[oY,pv,q,Rm];have h0:((0:Nat):Rat)*P2 (jF d k (iR (l.getD N gY))).e=0:= aK ;split
   .rw [h0];have:=mF (0-(t:Int))
    grind
   .rw [h0];exact bN (mF _)
def ajn(l:List Iv)(d:Dy)(k t:Nat)(j0:Int)(nP:l.length<=100)(hl:∀ i,(l.getD i gY).ib)(hd:d.ib)(hk:k<=16)(ht:t<=1000)(hN:gV 116 [gZ d] (.iw [gZ (nD j0),bP true]))(hj:j0<=72)(qp:∀ j:Int,-248<=j->j<=72->∀ x,x<l.length->(l.getD x gY).all=false->∀ q,q<=k->nd (jF (nD j) q (iR (l.getD x gY))))(n1 n2:Nat)(jQ:∀ n,n<=n1->(nD (j0-(n:Int))).ib)(hA:∀ n:Nat,n<n1 -> -248<=j0-(n:Int)/\(sA l (nD (j0-(n:Int))) k t)=false)(hB:j0-(n1:Int) < -248)(h2:n2=0)(hD:∀ m:Nat,m<n2 -> -248<=j0-(n1:Int)-m):gV 42 [ig l,iP k,iP t,gZ d] (jN ((List.range n2).map λ(i:Nat)=>nD (j0-(n1:Int)-i))):=by
 have pD:nd (iS (-60)):=sV.qK;exact ak call42 func42 (ae [ag [gZ d] hN,.c (BM (-60) aE aE),.s (Sp.jc (aaQ l d k t j0) 0 n1 aE (λn hn EI=>by
    obtain⟨qT,ud⟩:=hA n aE;have pq:(nD (j0-(n:Int))).ib:=jQ n aE;have nQ:=pq.qK;exact iy (ae [.c (tS (nD (j0-(n:Int))) (iS (-60)) aF pD),ah 23 (decide (0<=(iL (nD (j0-(n:Int))) (iS (-60))))) (tY qT),.c (Hl l (nD (j0-(n:Int))) k t nP hl aF hk ht (qp _ aE aE)),ah 30 (!(sA l (nD (j0-(n:Int))) k t)) (by rw[ud];rfl),ag [gZ (nD (j0-(n:Int)))] (EW _ aE aE)]<|.e (af [.b 9 (pG aE:Bx.le (.cells 31 (ix (nD (j0-(n:Int)-1)))) (.cells 31 (ix (nD (j0-((n+1:Nat):Int))))))])) aI)
  (λhn=>by
    have pq:(nD (j0-(n1:Int))).ib:=jQ n1 (bu _);have nQ:=pq.qK;exact iy (af [.c (tS (nD (j0-(n1:Int))) (iS (-60)) aF pD),ai 23 (decide (0<=(iL (nD (j0-(n1:Int))) (iS (-60))))) (JE hB)]) aI) aM:jb 3 Tryz.f42 (aaQ l d k t j0 0) (.exit 0) ⟨51,true,[(11,.box 11 0),(9,.box 9 0)],[(11,.cells 31 (ix (iS (-60)))),(9,.cells 31 (ix (nD (j0-(n1:Int)))))]⟩) (af [.b 9 (pG aE:Bx.le (.cells 31 (ix (nD j0))) (.cells 31 (ix (nD (j0-((0:Nat):Int))))))]),.y 12 12 true 31 3 (mQ []),.s (Sp.jc (aaT l d k t j0 n1) 0 n2 aE (λm hm Ae=>by
    have r8:=hD m aE;have pq:(nD (j0-(n1:Int)-m)).ib:=ri aE aE;have nQ:=pq.qK;have qq:[nD (j0-(n1:Int)-m)].length=1:=rfl;exact iy (ae [tT 35 ((m:Int)<40) aE,.c (tS (nD (j0-(n1:Int)-m)) (iS (-60)) aF pD),ah 40 (decide (0<=(iL (nD (j0-(n1:Int)-m)) (iS (-60))))) (tY r8),.o 46 (.e (Bg _):aj (.sl true 1 3 λi_ j_=>(ix (nD (j0-(n1:Int)-m))).getD (i_*3+j_) (.v (.bool false))) (jN [nD (j0-(n1:Int)-m)])),.a (aE:(m+[nD (j0-(n1:Int)-m)].length)*40<=140737488355328),ag [gZ (nD (j0-(n1:Int)-m))] (EW _ aE aE),
     iq ((m:Int)+1) aE]<|.e (af [.b 12 (Gf rfl rfl:Bx.le (.row true 31 (m+[nD (j0-(n1:Int)-m)].length) 3 (λi_ j_=>if i_<m then(mQ ((List.range m).map λ(i:Nat)=>nD (j0-(n1:Int)-i))) i_ j_ else(E.kR (jN [nD (j0-(n1:Int)-m)])) (i_-m) j_)) (.row true 31 (m+1) 3 (mQ ((List.range (m+1)).map λ(i:Nat)=>nD (j0-(n1:Int)-i))))),.b 9 (pG aE:Bx.le (.cells 31 (ix (nD (j0-(n1:Int)-m-1)))) (.cells 31 (ix (nD (j0-(n1:Int)-((m+1:Nat):Int))))))])) aI)
  (λhm=>by
    have pq:(nD (j0-(n1:Int)-n2)).ib:=by
     have:=jQ n1 (bu _);rwa[(aE:j0-(n1:Int)-n2=j0-(n1:Int))]
    have nQ:=pq.qK;exact iy (af [tT 35 ((n2:Int)<40) aE,.c (tS (nD (j0-(n1:Int)-n2)) (iS (-60)) aF pD),ai 40 (decide (0<=(iL (nD (j0-(n1:Int)-n2)) (iS (-60))))) (JE aE)]) aI) aM:jb 7 Tryz.f42 (aaT l d k t j0 n1 0) (.exit 2) ⟨51,true,[(12,.own 12)],[(12,.row true 31 n2 3 (mQ ((List.range n2).map λ(i:Nat)=>nD (j0-(n1:Int)-i))))]⟩) (af [.b 12 (Ge:Bx.le (.row true 31 0 3 (mQ [])) (.row true 31 0 3 (mQ ((List.range 0).map λ(i:Nat)=>nD (j0-(n1:Int)-i))))),.b 9 (pG aE:Bx.le (.cells 31 (ix (nD (j0-(n1:Int))))) (.cells 31 (ix (nD (j0-(n1:Int)-((0:Nat):Int))))))])]<|rR (jN ((List.range n2).map λ(i:Nat)=>nD (j0-(n1:Int)-i))) (JQ aK:E.le (.sl true n2 3 (mQ ((List.range n2).map λ(i:Nat)=>nD (j0-(n1:Int)-i)))) (jN ((List.range n2).map λ(i:Nat)=>nD (j0-(n1:Int)-i))))) 
def ajl(l:List Iv)(d:Dy)(k t:Nat)(j0:Int)(nP:l.length<=100)(hl:∀ i,(l.getD i gY).ib)(hd:d.ib)(hk:k<=16)(ht:t<=1000)(hN:gV 116 [gZ d] (.iw [gZ (nD j0),bP true]))(hj:j0<=72)(qp:∀ j:Int,-248<=j->j<=72->∀ x,x<l.length->(l.getD x gY).all=false->∀ q,q<=k->nd (jF (nD j) q (iR (l.getD x gY))))(n1 n2:Nat)(jQ:∀ n,n<=n1->(nD (j0-(n:Int))).ib)(hA:∀ n:Nat,n<n1 -> -248<=j0-(n:Int)/\(sA l (nD (j0-(n:Int))) k t)=false)(uQ:-248<=j0-(n1:Int))(tn:(sA l (nD (j0-(n1:Int))) k t)=true)(h2:n2=40)(hD:∀ m:Nat,m<n2 -> -248<=j0-(n1:Int)-m):gV 42 [ig l,iP k,iP t,gZ d] (jN ((List.range n2).map λ(i:Nat)=>nD (j0-(n1:Int)-i))):=by
 have pD:nd (iS (-60)):=sV.qK;exact ak call42 func42 (ae [ag [gZ d] hN,.c (BM (-60) aE aE),.s (Sp.jc (aaR l d k t j0) 0 n1 aE (λn hn EI=>by
    obtain⟨qT,ud⟩:=hA n aE;have pq:(nD (j0-(n:Int))).ib:=jQ n aE;have nQ:=pq.qK;exact iy (ae [.c (tS (nD (j0-(n:Int))) (iS (-60)) aF pD),ah 23 (decide (0<=(iL (nD (j0-(n:Int))) (iS (-60))))) (tY qT),.c (Hl l (nD (j0-(n:Int))) k t nP hl aF hk ht (qp _ aE aE)),ah 30 (!(sA l (nD (j0-(n:Int))) k t)) (by rw[ud];rfl),ag [gZ (nD (j0-(n:Int)))] (EW _ aE aE)]<|.e (af [.b 9 (pG aE:Bx.le (.cells 31 (ix (nD (j0-(n:Int)-1)))) (.cells 31 (ix (nD (j0-((n+1:Nat):Int))))))])) aI)
  (λhn=>by
    have pq:(nD (j0-(n1:Int))).ib:=jQ n1 (bu _);have nQ:=pq.qK;exact iy (af [.c (tS (nD (j0-(n1:Int))) (iS (-60)) aF pD),ah 23 (decide (0<=(iL (nD (j0-(n1:Int))) (iS (-60))))) (tY uQ),.c (Hl l (nD (j0-(n1:Int))) k t nP hl aF hk ht (qp _ aE aE)),ai 30 (!(sA l (nD (j0-(n1:Int))) k t)) (by rw[tn];rfl)]) aI) aM:jb 3 Tryz.f42 (aaR l d k t j0 0) (.exit 0) ⟨51,true,[(11,.box 11 0),(9,.box 9 0)],[(11,.cells 31 (ix (iS (-60)))),(9,.cells 31 (ix (nD (j0-(n1:Int)))))]⟩) (af [.b 9 (pG aE:Bx.le (.cells 31 (ix (nD j0))) (.cells 31 (ix (nD (j0-((0:Nat):Int))))))]),.y 12 12 true 31 3 (mQ []),.s (Sp.jc (aaU l d k t j0 n1) 0 n2 aE (λm hm Ae=>by
    have r8:=hD m aE;have pq:(nD (j0-(n1:Int)-m)).ib:=ri aE aE;have nQ:=pq.qK;have qq:[nD (j0-(n1:Int)-m)].length=1:=rfl;exact iy (ae [tT 35 ((m:Int)<40) aE,.c (tS (nD (j0-(n1:Int)-m)) (iS (-60)) aF pD),ah 40 (decide (0<=(iL (nD (j0-(n1:Int)-m)) (iS (-60))))) (tY r8),.o 46 (.e (Bg _):aj (.sl true 1 3 λi_ j_=>(ix (nD (j0-(n1:Int)-m))).getD (i_*3+j_) (.v (.bool false))) (jN [nD (j0-(n1:Int)-m)])),.a (aE:(m+[nD (j0-(n1:Int)-m)].length)*40<=140737488355328),ag [gZ (nD (j0-(n1:Int)-m))] (EW _ aE aE),
     iq ((m:Int)+1) aE]<|.e (af [.b 12 (Gf rfl rfl:Bx.le (.row true 31 (m+[nD (j0-(n1:Int)-m)].length) 3 (λi_ j_=>if i_<m then(mQ ((List.range m).map λ(i:Nat)=>nD (j0-(n1:Int)-i))) i_ j_ else(E.kR (jN [nD (j0-(n1:Int)-m)])) (i_-m) j_)) (.row true 31 (m+1) 3 (mQ ((List.range (m+1)).map λ(i:Nat)=>nD (j0-(n1:Int)-i))))),.b 9 (pG aE:Bx.le (.cells 31 (ix (nD (j0-(n1:Int)-m-1)))) (.cells 31 (ix (nD (j0-(n1:Int)-((m+1:Nat):Int))))))])) aI)
  (λhm=>by
    exact iy (af [tF 35 ((n2:Int)<40) aE]) aI) aM:jb 7 Tryz.f42 (aaU l d k t j0 n1 0) (.exit 2) ⟨51,true,[(12,.own 12)],[(12,.row true 31 n2 3 (mQ ((List.range n2).map λ(i:Nat)=>nD (j0-(n1:Int)-i))))]⟩) (af [.b 12 (Ge:Bx.le (.row true 31 0 3 (mQ [])) (.row true 31 0 3 (mQ ((List.range 0).map λ(i:Nat)=>nD (j0-(n1:Int)-i))))),.b 9 (pG aE:Bx.le (.cells 31 (ix (nD (j0-(n1:Int))))) (.cells 31 (ix (nD (j0-(n1:Int)-((0:Nat):Int))))))])]<|rR (jN ((List.range n2).map λ(i:Nat)=>nD (j0-(n1:Int)-i))) (JQ aK:E.le (.sl true n2 3 (mQ ((List.range n2).map λ(i:Nat)=>nD (j0-(n1:Int)-i)))) (jN ((List.range n2).map λ(i:Nat)=>nD (j0-(n1:Int)-i))))) 
def ajo(l:List Iv)(d:Dy)(k t:Nat)(j0:Int)(nP:l.length<=100)(hl:∀ i,(l.getD i gY).ib)(hd:d.ib)(hk:k<=16)(ht:t<=1000)(hN:gV 116 [gZ d] (.iw [gZ (nD j0),bP true]))(hj:j0<=72)(qp:∀ j:Int,-248<=j->j<=72->∀ x,x<l.length->(l.getD x gY).all=false->∀ q,q<=k->nd (jF (nD j) q (iR (l.getD x gY))))(n1 n2:Nat)(jQ:∀ n,n<=n1->(nD (j0-(n:Int))).ib)(hA:∀ n:Nat,n<n1 -> -248<=j0-(n:Int)/\(sA l (nD (j0-(n:Int))) k t)=false)(uQ:-248<=j0-(n1:Int))(tn:(sA l (nD (j0-(n1:Int))) k t)=true)(h2:n2<40)(hS:j0-(n1:Int)-n2 < -248)(Bp:-249<=j0-(n1:Int)-n2)(hD:∀ m:Nat,m<n2 -> -248<=j0-(n1:Int)-m):gV 42 [ig l,iP k,iP t,gZ d] (jN ((List.range n2).map λ(i:Nat)=>nD (j0-(n1:Int)-i))):=by
 have pD:nd (iS (-60)):=sV.qK;exact ak call42 func42 (ae [ag [gZ d] hN,.c (BM (-60) aE aE),.s (Sp.jc (aaS l d k t j0) 0 n1 aE (λn hn EI=>by
    obtain⟨qT,ud⟩:=hA n aE;have pq:(nD (j0-(n:Int))).ib:=jQ n aE;have nQ:=pq.qK;exact iy (ae [.c (tS (nD (j0-(n:Int))) (iS (-60)) aF pD),ah 23 (decide (0<=(iL (nD (j0-(n:Int))) (iS (-60))))) (tY qT),.c (Hl l (nD (j0-(n:Int))) k t nP hl aF hk ht (qp _ aE aE)),ah 30 (!(sA l (nD (j0-(n:Int))) k t)) (by rw[ud];rfl),ag [gZ (nD (j0-(n:Int)))] (EW _ aE aE)]<|.e (af [.b 9 (pG aE:Bx.le (.cells 31 (ix (nD (j0-(n:Int)-1)))) (.cells 31 (ix (nD (j0-((n+1:Nat):Int))))))])) aI)
  (λhn=>by
    have pq:(nD (j0-(n1:Int))).ib:=jQ n1 (bu _);have nQ:=pq.qK;exact iy (af [.c (tS (nD (j0-(n1:Int))) (iS (-60)) aF pD),ah 23 (decide (0<=(iL (nD (j0-(n1:Int))) (iS (-60))))) (tY uQ),.c (Hl l (nD (j0-(n1:Int))) k t nP hl aF hk ht (qp _ aE aE)),ai 30 (!(sA l (nD (j0-(n1:Int))) k t)) (by rw[tn];rfl)]) aI) aM:jb 3 Tryz.f42 (aaS l d k t j0 0) (.exit 0) ⟨51,true,[(11,.box 11 0),(9,.box 9 0)],[(11,.cells 31 (ix (iS (-60)))),(9,.cells 31 (ix (nD (j0-(n1:Int)))))]⟩) (af [.b 9 (pG aE:Bx.le (.cells 31 (ix (nD j0))) (.cells 31 (ix (nD (j0-((0:Nat):Int))))))]),.y 12 12 true 31 3 (mQ []),.s (Sp.jc (aaV l d k t j0 n1) 0 n2 aE (λm hm Ae=>by
    have r8:=hD m aE;have pq:(nD (j0-(n1:Int)-m)).ib:=ri aE aE;have nQ:=pq.qK;have qq:[nD (j0-(n1:Int)-m)].length=1:=rfl;exact iy (ae [tT 35 ((m:Int)<40) aE,.c (tS (nD (j0-(n1:Int)-m)) (iS (-60)) aF pD),ah 40 (decide (0<=(iL (nD (j0-(n1:Int)-m)) (iS (-60))))) (tY r8),.o 46 (.e (Bg _):aj (.sl true 1 3 λi_ j_=>(ix (nD (j0-(n1:Int)-m))).getD (i_*3+j_) (.v (.bool false))) (jN [nD (j0-(n1:Int)-m)])),.a (aE:(m+[nD (j0-(n1:Int)-m)].length)*40<=140737488355328),ag [gZ (nD (j0-(n1:Int)-m))] (EW _ aE aE),
     iq ((m:Int)+1) aE]<|.e (af [.b 12 (Gf rfl rfl:Bx.le (.row true 31 (m+[nD (j0-(n1:Int)-m)].length) 3 (λi_ j_=>if i_<m then(mQ ((List.range m).map λ(i:Nat)=>nD (j0-(n1:Int)-i))) i_ j_ else(E.kR (jN [nD (j0-(n1:Int)-m)])) (i_-m) j_)) (.row true 31 (m+1) 3 (mQ ((List.range (m+1)).map λ(i:Nat)=>nD (j0-(n1:Int)-i))))),.b 9 (pG aE:Bx.le (.cells 31 (ix (nD (j0-(n1:Int)-m-1)))) (.cells 31 (ix (nD (j0-(n1:Int)-((m+1:Nat):Int))))))])) aI)
  (λhm=>by
    have pq:(nD (j0-(n1:Int)-n2)).ib:=ri aE aE;have nQ:=pq.qK;exact iy (af [tT 35 ((n2:Int)<40) aE,.c (tS (nD (j0-(n1:Int)-n2)) (iS (-60)) aF pD),ai 40 (decide (0<=(iL (nD (j0-(n1:Int)-n2)) (iS (-60))))) (JE hS)]) aI) aM:jb 7 Tryz.f42 (aaV l d k t j0 n1 0) (.exit 2) ⟨51,true,[(12,.own 12)],[(12,.row true 31 n2 3 (mQ ((List.range n2).map λ(i:Nat)=>nD (j0-(n1:Int)-i))))]⟩) (af [.b 12 (Ge:Bx.le (.row true 31 0 3 (mQ [])) (.row true 31 0 3 (mQ ((List.range 0).map λ(i:Nat)=>nD (j0-(n1:Int)-i))))),.b 9 (pG aE:Bx.le (.cells 31 (ix (nD (j0-(n1:Int))))) (.cells 31 (ix (nD (j0-(n1:Int)-((0:Nat):Int))))))])]<|rR (jN ((List.range n2).map λ(i:Nat)=>nD (j0-(n1:Int)-i))) (JQ aK:E.le (.sl true n2 3 (mQ ((List.range n2).map λ(i:Nat)=>nD (j0-(n1:Int)-i)))) (jN ((List.range n2).map λ(i:Nat)=>nD (j0-(n1:Int)-i))))) 
def YU{a b c d e f:Int}(ha:ku .i64 a)(hb:ku .i64 b)(hc:ku .i64 c)(hd:ku .i64 d)(he:ku .i64 e)(hf:ku .i64 f):
 prog.keyLits 10 107 [.int .i64 a,.int .i64 b,.int .i64 c,.int .i64 d,.int .i64 e,.int .i64 f]=some [.int .i64 a,.int .i64 b,.int .i64 c,.int .i64 d,.int .i64 e,.int .i64 f]:=by
 have c1:prog.cellsOf 107=6:= aI ;have c2:prog.cellsOf 3=1:= aI ;have c3:prog.cellsOf 93=2:= aI ;have r:prog.keyLits 9 93 [.int .i64 e,.int .i64 f]=some [.int .i64 e,.int .i64 f]:=by
  unfold Program.keyLits;rw[underlying93];simp[c3,c2,fD,BK he,BK hf]
 unfold Program.keyLits;rw[underlying107];simp[c1,c2,c3,fD,BK ha,BK hb,BK hc,BK hd,r]
def Li{a b c d e f a' b' c' d' e' f':Int}(ha:ku .i64 a)(hb:ku .i64 b)(hc:ku .i64 c)(hd:ku .i64 d)(he:ku .i64 e)(hf:ku .i64 f)
 (Ew:ku .i64 a') (mR:ku .i64 b') (CN:ku .i64 c') (CO:ku .i64 d') (he':ku .i64 e') (hf':ku .i64 f'):
 pH prog .eql 107 (.agg [iP a,iP b,iP c,iP d,iP e,iP f]) (.agg [iP a',iP b',iP c',iP d',iP e',iP f']) (.bool (decide (a=a'/\b=b'/\c=c'/\d=d'/\e=e'/\f=f'))):=
 ak8 (YU ha hb hc hd he hf) (YU Ew mR CN CO he' hf') aI aI rfl
def wD:ku .i64 0:=by unfold ku;decide
def ao4{d:Int}(h0:0<=d)(h:d<=1073741824):IntKind.u64.wrap d=(d.natAbs:Int):=by rw[IntKind.wrap_u64];omega
end Go.Proofs.YtgdahmmlddfimaaGreatDoor
