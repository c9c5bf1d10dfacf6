/- Lemmas that the last file uses. -/
import Derived.Test.YthalchiobglflaaGreatDoorM04
set_option linter.unusedSimpArgs false
set_option linter.unusedVariables false
set_option linter.defProp false
set_option maxHeartbeats 4000000
open Go.Proofs.Tryz
open Bool renaming true->aa,false->ac,noConfusion->bm
open Option renaming none->am
open Go renaming World->ap,Value->av
open Go.Value renaming cells->aL,ownBlock->bf
open Int renaming toNat->aN,tmod->bl
open List renaming range->be
namespace Go.Proofs.YthalchiobglflaaGreatDoor
open Go.RowKit Fp Pu
def afz(n:Nat)(h:n<4294967296):bits .and .u32 (n:Int) 3=((n%4:Nat):Int):=by
 have:=bits_and_u32_nat n 3 h aG;rw[show((3:Int))=((3:Nat):Int)from rfl,this];exact congrArg _<|awS n 2
def amT(k:Nat)(h:k<=3):bits .and .i64 (4-(k:Int)) 3=(((4-k)%4:Nat):Int):=by
 rcases(U:k=0\/k=1\/k=2\/k=3)with rfl|rfl|rfl|rfl<;>decide
def akJ{x:Bool×Nat}{m:Nat}(h:m<=x.2):kt x (!x.1,m)=(x.1,x.2-m):=by
 unfold kt;rw[bn<|by show ¬x.1 = !x.1;cases x.1<;>decide,bn<|by show ¬x.2<m;omega]
def arp(n:Nat):n%4<=3:= U 
def aro(n:Nat):(4-n)%4<=3:= U 
def arq{x:Bool×Nat}{H b t:Nat}(z:1<=H)(h:H<=2^(b+t+40)*2):(kt x (!x.1,x.2/H*H)).2/2^(t+40)<=2^(b+1):=by
 rw[akJ<|dB _ _];show(x.2-x.2/H*H)/_<=_;have k:x.2-x.2/H*H=x.2%H:=by
  have:=cH x.2 H;rw[bL H]at this;omega
 have y:=bO x.2 (U:0<H);rw[k];refine Nat.div_le_of_le_mul<|bF (dK y)<|bF h<|fz ?_;rw[<-bC,(U:t+40+(b+1)=b+t+40+1)];exact(bI 2<|b+t+40).symm
def nA(x:Bool×Nat):Nat->Bool
 | 0=>ac
 |k+1=>(nA x k != x.1)
def kR(x:Bool×Nat)(b:Nat):Nat->(Bool×Nat)×(Bool×Nat)
 | 0=>((ac,0),(ac,1*2^b))
 |k+1=>if(k+1)%2=1 then(kt (kR x b k).1 ((if 2<=(k+1)%4 then !(nA x<|k+1)else nA x (k+1)),lv x.2 b<|k+1),(kR x b k).2)
  else((kR x b k).1,kt (kR x b k).2 ((if 2<=(k+1)%4 then !(nA x<|k+1)else nA x (k+1)),lv x.2 b<|k+1))
def aex{x:Bool×Nat}{b:Nat}(h:x.2<=2^(b+1)):∀ k,(kR x b k).1.2<=(k+1)*2^(b+1)/\(kR x b k).2.2<=(k+1)*2^(b+1)
 | 0=>⟨cj _,by show 1*2^b<=_;have:=bI (n:=2) (m:=b);omega⟩
 |k+1=>by
  have⟨z,u⟩:=aex h k;have v:=Jh h<|k+1;have y:(k+1+1)*2^(b+1)=(k+1)*2^(b+1)+2^(b+1):=awu _ _;unfold kR;split
  .refine ⟨bF (AY _ _) ?_,by rw[y];exact bF u<|Nat.le_add_right _ _⟩;rw[y];exact Nat.add_le_add z v
  .refine ⟨by rw[y];exact bF z<|Nat.le_add_right _ _,bF (AY _ _) ?_⟩;rw[y];exact Nat.add_le_add u v
def aey{x:Bool×Nat}{b:Nat}(h:x.2<=2^(b+1))(v:b<=3000){k:Nat}(t:k<=b+5):(kR x b k).1.2<2^(b+14)/\(kR x b k).2.2<2^(b+14):=by
 have⟨z,u⟩:=aex h k;have y:(k+1)*2^(b+1)<2^(b+14):=by
  rw[(U:b+14=13+(b+1)),bC 2 13];exact dk U<|bG aG
 exact⟨cB z y,cB u y⟩
def akX{T:TypeId}:Bx.le (.cells T [I ac,.v<|.slice am 0 0])<|.cells T [I ac,F<|iy 0]:=
 .cells (λ_=>rfl) (.cons (.refl _)<|.cons D0 .nil)
structure aga(x:Bool×Nat)(b k:Nat):Prop where
 t0:(iy<|lv x.2 b k).length<=256
 t1:(iy<|lv x.2 b<|k+1).length<=256
 tm:(iy<|lv x.2 b k*x.2).length<=256
 tq:(iy<|lv x.2 b k*x.2/2^b).length<=256
 s0:(iy (kR x b k).1.2).length<=256
 c0:(iy (kR x b k).2.2).length<=256
 s1:(iy<|(kR x b k).1.2+lv x.2 b (k+1)).length<=256
 c1:(iy<|(kR x b k).2.2+lv x.2 b (k+1)).length<=256
def aew{x:Bool×Nat}{b:Nat}(h:x.2<=2^(b+1))(y:b<=3000){k:Nat}(z:k<=b+5):aga x b k:=by
 have p:(2:Nat)^(b+2)=2^(b+1)*2:=bI _ _;have q:(0:Nat)<2^(b+1):=bG aG;have t:=Jh h k;have v:=Jh h<|k+1;have⟨s,c⟩:=aey h y z;have m:lv x.2 b k*x.2<2^(b+2+(b+2)):=by
  rw[bC];exact axj U U 
 have e:(2:Nat)^(b+15)=2^(b+14)*2:=bI _ _;have u:(2:Nat)^(b+1)<=2^(b+14):=bR aG U;exact⟨na (k:=b+2) U U,na (k:=b+2) U U,na m U,na (cB (b6 _ _) m) U,
  na s U,na c U,na (k:=b+15) U U,na (k:=b+15) U U⟩
def abu{s:Bool}{m b:Nat}(h:m<2^4000)(k:b<=8000):oL<|canon s m (-(b:Int)):=by
 by_cases x:m=0
 .subst x;exact .inl rfl
 .have e:canon s m (-(b:Int))=⟨s,m/2^ky m,-(b:Int)+ky m⟩:=by unfold canon;rw[bn x]
  have y:H m<=4000:=mo.2 h;have z:=uX<|b6 m<|2^ky m;have u:ky m<=4000:=by
   have:=Hp x;apply b8;intro c;have:=bR (show 0<2 by decide) (U:4000<=ky m);omega
  rw[e];exact .inr ⟨by show H (m/2^ky m)<=4096;omega,by show -16384 <= -(b:Int)+ky m;omega,by show -(b:Int)+ky m<=16384;omega,by show(H<|m/2^ky m:Int)+(-(b:Int)+ky m)<=16384;omega⟩
def NW{a b i j n:Nat}(k:a<2^i)(y:b<2^j)(h:i<=n)(x:j<=n):a+b<2^(n+1):=by
 have z:=bR (show 0<2 by decide) h;have u:=bR (show 0<2 by decide) x;have e:2^(n+1)=2^n*2:=bI _ _;omega
def akK{a b:Bool×Nat}{i j n:Nat}(h:a.2<2^i)(x:b.2<2^j)(k:i<=n)(y:j<=n):(kt a b).2<2^(n+1):=cB (AY _ _)<|NW h x k y
def abv{s:Bool}{m:Nat}{e:Int}(h:oL<|canon s m e):(canon s m e).iE:=⟨tC _ _ _,h⟩
def KB{m i k:Nat}(h:m<2^i)(x:i<=k):m<2^k:=bJ h<|bR aG x
section
variable(a c:Bool×Nat)
def rz:Bool×Nat:=if a.1=aa/\a.2%c.2≠0 then kt (a.1,a.2/c.2) (aa,1)else(a.1,a.2/c.2)
def Yh:(rz a c).2<=a.2/c.2+1:=by
 unfold rz;split
 .exact AY _ _
 .exact Nat.le_succ _
def akT:(rz a c).2*c.2<=a.2+c.2:=by
 refine bF (bX c.2<|Yh a c) ?_;rw[awu];exact Nat.add_le_add_right (dB _ _) _
end
def abh{l i:Dy}{e f:Int}(h:e≠0\/f≠0):mc l e i f=L:=bt h
def aoi{l i:Dy}{e f:Int}(h:e=0)(k:f=0):mc l e i f=⟨l,i,ac⟩:=bn<|by rw[h,k];decide
def aec(x:Bool×Nat)(b N:Nat)(i:Nat):PS:=⟨43,aa,[(8,.e<|D ((i+1:Nat):Int)),(7,.box 7 0),(5,.box 5 0),(4,.box 4 0),(2,.box 2 0),(1,.e<|D b)],[(5,.cells 237 [I<|((kR x b i).2).1,F<|iy<|((kR x b i).2).2]),(7,.cells 237 [I<|nA x i,F<|iy<|lv x.2 b i]),(4,.cells 237 [I<|((kR x b i).1).1,F<|iy<|((kR x b i).1).2]),(2,.cells 237 [I x.1,F<|iy x.2])]⟩
def Nv(n i:Nat):(iy n).getD i 0<4294967296:=by
 by_cases h:i<(iy n).length
 .rw [bB,bH h];exact lW n _<|cT h
 .rw [bB,cM U];decide
section
variable(d:Dy)(b t m:Nat)(p:Bool×Nat)(v:d.iE)(h:t=d.iQ.toNat)(k:16<=b)(x:b<=2000)(u:t<=2000)(K:Nat)(y:K<=6000)(s:m<2^K)(z:2<=p.2)(r:(iy p.2).length<=256)(a:iB 345 [D (((b+t)+40:Nat):Int)]<|.agg [I p.1,F<|iy p.2])
section
variable(q:iB 351 [iJ d,D (((b+t)+40:Nat):Int)]<|.agg [I aa,F<|iy m])
def air(h:0<(iy<|m/(p.2/2^1)).length):iB 341 [iJ d,D b]<|.iO [.agg [I<|(kt (aa,m) (ac,((m/(p.2/2^1))*(p.2/2^1)))).1,F<|iy<|(kt (aa,m) (ac,((m/(p.2/2^1))*(p.2/2^1)))).2/2^(t+40)],D (((4-((iy<|m/(p.2/2^1)).getD 0 0%4))%4:Nat):Int)]:=by
 have J:=K6 v;have z:(iy m).length<=256:=na s U;have H:(iy<|p.2/2^1).length<=256:=bF (nR<|b6 _ _) r;have n:(p.2/2^1)≠0:= U ;have M:((m/(p.2/2^1))*(p.2/2^1))<=m:=dB _ _;have N:(iy<|m/(p.2/2^1)).length<=256:=bF (nR<|b6 _ _) z;have x:(iy<|(m/(p.2/2^1))*(p.2/2^1)).length<=256:=bF (nR M) z;have A:(iy<|m+((m/(p.2/2^1))*(p.2/2^1))).length<=256:=na (k:=K+1) (by have:=bI 2 K;omega) U;have R:(iy (kt (aa,m) (ac,((m/(p.2/2^1))*(p.2/2^1)))).2).length<=256:=bF (nR<|AY _ _) A;have y:(iy<|m%(p.2/2^1)).length<=256:=bF (nR<|ef _ _) z;have g:(iy<|m/(p.2/2^1)).getD 0 0<4294967296:=Nv _ 0;have u:(iy<|m/(p.2/2^1)).getD 0 0%4<=3:= U ;exact iL (af [.c<|pN d Z,.o 19<|oI (if 0>(Dy.iQ d)then 0 else(Dy.iQ d)) (t:Int) aR,iN<|(b:Int)+t,iN<|((b+t:Nat):Int)+40,.c a,.c<|zY p.2 1 Z,.c q,.c<|CE m (p.2/2^1) U U Z,.c<|CF (m/(p.2/2^1)) (p.2/2^1) Z Z Z,.c<|vY (aa,m) Z (ac,((m/(p.2/2^1))*(p.2/2^1))) Z Z,tT 61 (0<((iy<|m/(p.2/2^1)).length:Int)) U,
  iX 0 ((iy<|m/(p.2/2^1)).length),.o 65<|.int (k:=.u32)<|afz ((iy<|m/(p.2/2^1)).getD 0 0) U,.o 66<|.int (k:=.i64)<|R4 (((iy<|m/(p.2/2^1)).getD 0 0)%4) U,
  iN (4-((((iy<|m/(p.2/2^1)).getD 0 0)%4:Nat):Int)),.o 71<|.int (k:=.i64)<|amT (((iy<|m/(p.2/2^1)).getD 0 0)%4) U,iN<|(t:Int)+40,.c<|zY ((kt (aa,m) (ac,((m/(p.2/2^1))*(p.2/2^1)))).2) (t+40) Z])
def aip(h:¬0<(iy<|m/(p.2/2^1)).length):iB 341 [iJ d,D b]<|.iO [.agg [I<|(kt (aa,m) (ac,((m/(p.2/2^1))*(p.2/2^1)))).1,F<|iy<|(kt (aa,m) (ac,((m/(p.2/2^1))*(p.2/2^1)))).2/2^(t+40)],D 0]:=by
 have J:=K6 v;have z:(iy m).length<=256:=na s U;have H:(iy<|p.2/2^1).length<=256:=bF (nR<|b6 _ _) r;have n:(p.2/2^1)≠0:= U ;have M:((m/(p.2/2^1))*(p.2/2^1))<=m:=dB _ _;have N:(iy<|m/(p.2/2^1)).length<=256:=bF (nR<|b6 _ _) z;have x:(iy<|(m/(p.2/2^1))*(p.2/2^1)).length<=256:=bF (nR M) z;have A:(iy<|m+((m/(p.2/2^1))*(p.2/2^1))).length<=256:=na (k:=K+1) (by have:=bI 2 K;omega) U;have R:(iy (kt (aa,m) (ac,((m/(p.2/2^1))*(p.2/2^1)))).2).length<=256:=bF (nR<|AY _ _) A;have y:(iy<|m%(p.2/2^1)).length<=256:=bF (nR<|ef _ _) z;have g:(iy<|m/(p.2/2^1)).getD 0 0<4294967296:=Nv _ 0;have u:(iy<|m/(p.2/2^1)).getD 0 0%4<=3:= U ;exact iL<|af [.c<|pN d Z,.o 19<|oI (if 0>(Dy.iQ d)then 0 else(Dy.iQ d)) (t:Int) aR,iN<|(b:Int)+t,iN<|((b+t:Nat):Int)+40,.c a,.c<|zY p.2 1 Z,.c q,.c<|CE m (p.2/2^1) U U Z,.c<|CF (m/(p.2/2^1)) (p.2/2^1) Z Z Z,.c<|vY (aa,m) Z (ac,((m/(p.2/2^1))*(p.2/2^1))) Z Z,tF 61 (0<((iy<|m/(p.2/2^1)).length:Int)) U,iN<|4-0,.o 71<|oI (bits .and .i64 (4-0) 3) 0 aG,iN<|(t:Int)+40,.c<|zY ((kt (aa,m) (ac,((m/(p.2/2^1))*(p.2/2^1)))).2) (t+40) Z]
end
section
variable(q:iB 351 [iJ d,D (((b+t)+40:Nat):Int)]<|.agg [I ac,F<|iy m])
def ais(h:0<(iy<|m/(p.2/2^1)).length):iB 341 [iJ d,D b]<|.iO [.agg [I<|(kt (ac,m) (aa,((m/(p.2/2^1))*(p.2/2^1)))).1,F<|iy<|(kt (ac,m) (aa,((m/(p.2/2^1))*(p.2/2^1)))).2/2^(t+40)],D (((iy<|m/(p.2/2^1)).getD 0 0%4:Nat):Int)]:=by
 have J:=K6 v;have z:(iy m).length<=256:=na s U;have H:(iy<|p.2/2^1).length<=256:=bF (nR<|b6 _ _) r;have n:(p.2/2^1)≠0:= U ;have M:((m/(p.2/2^1))*(p.2/2^1))<=m:=dB _ _;have N:(iy<|m/(p.2/2^1)).length<=256:=bF (nR<|b6 _ _) z;have x:(iy<|(m/(p.2/2^1))*(p.2/2^1)).length<=256:=bF (nR M) z;have A:(iy<|m+((m/(p.2/2^1))*(p.2/2^1))).length<=256:=na (k:=K+1) (by have:=bI 2 K;omega) U;have R:(iy (kt (ac,m) (aa,((m/(p.2/2^1))*(p.2/2^1)))).2).length<=256:=bF (nR<|AY _ _) A;have y:(iy<|m%(p.2/2^1)).length<=256:=bF (nR<|ef _ _) z;have g:(iy<|m/(p.2/2^1)).getD 0 0<4294967296:=Nv _ 0;have u:(iy<|m/(p.2/2^1)).getD 0 0%4<=3:= U ;exact iL (af [.c<|pN d Z,.o 19<|oI (if 0>(Dy.iQ d)then 0 else(Dy.iQ d)) (t:Int) aR,iN<|(b:Int)+t,iN<|((b+t:Nat):Int)+40,.c a,.c<|zY p.2 1 Z,.c q,.c<|CE m (p.2/2^1) U U Z,.c<|CF (m/(p.2/2^1)) (p.2/2^1) Z Z Z,.c<|vY (ac,m) Z (aa,((m/(p.2/2^1))*(p.2/2^1))) Z Z,tT 61 (0<((iy<|m/(p.2/2^1)).length:Int)) U,
  iX 0 ((iy<|m/(p.2/2^1)).length),.o 65<|.int (k:=.u32)<|afz ((iy<|m/(p.2/2^1)).getD 0 0) U,.o 66<|.int (k:=.i64)<|R4 (((iy<|m/(p.2/2^1)).getD 0 0)%4) U,
  iN ((t:Int)+40),.c<|zY ((kt (ac,m) (aa,((m/(p.2/2^1))*(p.2/2^1)))).2) (t+40) Z])
def aiq(h:¬0<(iy<|m/(p.2/2^1)).length):iB 341 [iJ d,D b]<|.iO [.agg [I<|(kt (ac,m) (aa,((m/(p.2/2^1))*(p.2/2^1)))).1,F<|iy<|(kt (ac,m) (aa,((m/(p.2/2^1))*(p.2/2^1)))).2/2^(t+40)],D 0]:=by
 have J:=K6 v;have z:(iy m).length<=256:=na s U;have H:(iy<|p.2/2^1).length<=256:=bF (nR<|b6 _ _) r;have n:(p.2/2^1)≠0:= U ;have M:((m/(p.2/2^1))*(p.2/2^1))<=m:=dB _ _;have N:(iy<|m/(p.2/2^1)).length<=256:=bF (nR<|b6 _ _) z;have x:(iy<|(m/(p.2/2^1))*(p.2/2^1)).length<=256:=bF (nR M) z;have A:(iy<|m+((m/(p.2/2^1))*(p.2/2^1))).length<=256:=na (k:=K+1) (by have:=bI 2 K;omega) U;have R:(iy (kt (ac,m) (aa,((m/(p.2/2^1))*(p.2/2^1)))).2).length<=256:=bF (nR<|AY _ _) A;have y:(iy<|m%(p.2/2^1)).length<=256:=bF (nR<|ef _ _) z;have g:(iy<|m/(p.2/2^1)).getD 0 0<4294967296:=Nv _ 0;have u:(iy<|m/(p.2/2^1)).getD 0 0%4<=3:= U ;exact iL<|af [.c<|pN d Z,.o 19<|oI (if 0>(Dy.iQ d)then 0 else(Dy.iQ d)) (t:Int) aR,iN<|(b:Int)+t,iN<|((b+t:Nat):Int)+40,.c a,.c<|zY p.2 1 Z,.c q,.c<|CE m (p.2/2^1) U U Z,.c<|CF (m/(p.2/2^1)) (p.2/2^1) Z Z Z,.c<|vY (ac,m) Z (aa,((m/(p.2/2^1))*(p.2/2^1))) Z Z,tF 61 (0<((iy<|m/(p.2/2^1)).length:Int)) U,iN<|(t:Int)+40,.c<|zY ((kt (ac,m) (aa,((m/(p.2/2^1))*(p.2/2^1)))).2) (t+40) Z]
end
end
def aio(d:Dy)(b:Nat)(y:d.iE)(l:16<=b)(p:b<=1000)(g:d.iQ<=100):∃ (r:Bool×Nat) (k:Nat),r.2<=2^(b+1)/\k<=3/\iB 341 [iJ d,D (b:Int)] (.iO [.agg [I r.1,F<|iy r.2],D (k:Int)]):=by
 obtain⟨t,u⟩:∃ t,t=d.iQ.toNat:=⟨_,rfl⟩
 have⟨c,z,f,q,a⟩:=Wh (b+t+40) U U;have J:=PH d y (b+t+40) 6000 U aG U;have i:=NS (d:=d) (b:=b+t+40) (K:=6000) U;generalize tU d (b+t+40)=x at J i;have e:(2:Nat)^(b+t+40+3)=2^(b+t+40)*8:=by rw[bC]
 have v:(iy c.2).length<=256:=na (k:=b+t+40+3) (by have:0<2^(b+t+40):=bG aG;omega) U;have⟨s,m⟩:=x;have h:=arq (x:=(s,m)) (H:=c.2/2^1) (b:=b) (t:=t) U q;by_cases n:0<(iy<|m/(c.2/2^1)).length
 .cases s with
  |false=>exact⟨((kt (ac,m) (aa,m/(c.2/2^1)*(c.2/2^1))).1,(kt (ac,m) (aa,m/(c.2/2^1)*(c.2/2^1))).2/2^(t+40)),_,h,arp _,ais d b t m c y u l U U 6000 aG i z v a J n⟩
  |true=>exact⟨((kt (aa,m) (ac,m/(c.2/2^1)*(c.2/2^1))).1,(kt (aa,m) (ac,m/(c.2/2^1)*(c.2/2^1))).2/2^(t+40)),_,h,aro _,air d b t m c y u l U U 6000 aG i z v a J n⟩
 .cases s with
  |false=>exact⟨((kt (ac,m) (aa,m/(c.2/2^1)*(c.2/2^1))).1,(kt (ac,m) (aa,m/(c.2/2^1)*(c.2/2^1))).2/2^(t+40)),_,h,cj 3,aiq d b t m c y u l U U 6000 aG i z v a J n⟩
  |true=>exact⟨((kt (aa,m) (ac,m/(c.2/2^1)*(c.2/2^1))).1,(kt (aa,m) (ac,m/(c.2/2^1)*(c.2/2^1))).2/2^(t+40)),_,h,cj 3,aip d b t m c y u l U U 6000 aG i z v a J n⟩
def aiu(x:Bool×Nat)(b N:Nat)(u:x.2<=2^(b+1))(z:b<=3000)(r:N<=b+4)(v:∀ k,k<N+1->lv x.2 b k≠0)(t:lv x.2 b (N+1)=0):iB 342 [.agg [I x.1,F<|iy x.2],D b]<|.iO [.agg [I<|((kR x b N).1).1,F<|iy<|((kR x b N).1).2],.agg [I<|((kR x b N).2).1,F<|iy<|((kR x b N).2).2]]:=by
 have q:(iy x.2).length<=256:=na (k:=b+2) (by have e:2^(b+2)=2^(b+1)*2:=bI _ _;have:0<2^(b+1):=bG aG;omega) U;have p:(iy 1).length<=256:=wD aG;have n:(iy<|1*2^b).length<=256:=na (k:=b+1) (by rw[bI,bU];have:0<2^b:=bG aG;omega) U;exact iL (af [.o 10<|.e uR,.c<|Dg 1 b Z U Z,.s (Sp.jL (aec x b N) 0 N U (λi s o=>by
    have m:=aew u z (k:=i) U;have⟨f0,f1,f2,f3,f4,f5,f6,f7⟩:=m;exact iU (Y [ag [.agg [I<|nA x i,F<|iy<|lv x.2 b i],.agg [I x.1,F<|iy x.2],D b]<|Qx ((nA x i),(lv x.2 b i)) Z x Z _ U Z,.c<|Jb (((nA x i) != x.1),((lv x.2 b i)*x.2/2^b)) Z<|i+1,.c<|GC ((nA x<|i+1),(lv x.2 b<|i+1)) Z,tF 25 ((lv x.2 b<|i+1)=0)<|v (i+1) U,.a (U:0<(4:Int))]<|.w (2<=(i+1)%4)
     (λy=>Y [tT 31 (2<=(((i+1)%4:Nat):Int)) U,.c<|Ad ((nA x<|i+1),(lv x.2 b<|i+1)),.a (U:0<(2:Int))]<|.w ((i+1)%2=1)
      (λh=>Y [ah 36 ((((i+1)%2:Nat):Int)==1)<|by rw[h];rfl,.c<|vY ((kR x b i).1) Z ((!(nA x<|i+1)),(lv x.2 b<|i+1)) Z Z,iN<|((i+1:Nat):Int)+1]<|.e<|af [.b 5<|cE 237 [I<|((kR x b i).2).1,F<|iy<|((kR x b i).2).2] [I<|((kR x b<|i+1).2).1,F<|iy<|((kR x b<|i+1).2).2]<|by first|rfl|simp[kR,nA,lv,h,y]|simp[kR,nA,lv],.b 4<|cE 237 [I<|(kt ((kR x b i).1) ((!(nA x<|i+1)),(lv x.2 b<|i+1))).1,F<|iy<|(kt ((kR x b i).1) ((!(nA x<|i+1)),(lv x.2 b<|i+1))).2] [I<|((kR x b<|i+1).1).1,F<|iy<|((kR x b<|i+1).1).2]<|by first|rfl|simp[kR,nA,lv,h,y]|simp[kR,nA,lv]])
      (λh=>Y [ai 36 ((((i+1)%2:Nat):Int)==1) aS,.c<|vY ((kR x b i).2) Z ((!(nA x<|i+1)),(lv x.2 b<|i+1)) Z Z,iN<|((i+1:Nat):Int)+1]<|.e<|af [.b 5<|cE 237 [I<|(kt ((kR x b i).2) ((!(nA x<|i+1)),(lv x.2 b<|i+1))).1,F<|iy<|(kt ((kR x b i).2) ((!(nA x<|i+1)),(lv x.2 b<|i+1))).2] [I<|((kR x b<|i+1).2).1,F<|iy<|((kR x b<|i+1).2).2]<|by first|rfl|simp[kR,nA,lv,h,y]|simp[kR,nA,lv],.b 4<|cE 237 [I<|((kR x b i).1).1,F<|iy<|((kR x b i).1).2] [I<|((kR x b<|i+1).1).1,F<|iy<|((kR x b<|i+1).1).2]<|by first|rfl|simp[kR,nA,lv,h,y]|simp[kR,nA,lv]]))
     (λy=>Y [tF 31 (2<=(((i+1)%4:Nat):Int)) U,.a (U:0<(2:Int))]<|.w ((i+1)%2=1)
      (λh=>Y [ah 36 ((((i+1)%2:Nat):Int)==1)<|by rw[h];rfl,.c<|vY ((kR x b i).1) Z ((nA x<|i+1),(lv x.2 b<|i+1)) Z Z,iN<|((i+1:Nat):Int)+1]<|.e<|af [.b 5<|cE 237 [I<|((kR x b i).2).1,F<|iy<|((kR x b i).2).2] [I<|((kR x b<|i+1).2).1,F<|iy<|((kR x b<|i+1).2).2]<|by first|rfl|simp[kR,nA,lv,h,y]|simp[kR,nA,lv],.b 4<|cE 237 [I<|(kt ((kR x b i).1) ((nA x<|i+1),(lv x.2 b<|i+1))).1,F<|iy<|(kt ((kR x b i).1) ((nA x<|i+1),(lv x.2 b<|i+1))).2] [I<|((kR x b<|i+1).1).1,F<|iy<|((kR x b<|i+1).1).2]<|by first|rfl|simp[kR,nA,lv,h,y]|simp[kR,nA,lv]])
      (λh=>Y [ai 36 ((((i+1)%2:Nat):Int)==1) aS,.c<|vY ((kR x b i).2) Z ((nA x<|i+1),(lv x.2 b<|i+1)) Z Z,iN<|((i+1:Nat):Int)+1]<|.e<|af [.b 5<|cE 237 [I<|(kt ((kR x b i).2) ((nA x<|i+1),(lv x.2 b<|i+1))).1,F<|iy<|(kt ((kR x b i).2) ((nA x<|i+1),(lv x.2 b<|i+1))).2] [I<|((kR x b<|i+1).2).1,F<|iy<|((kR x b<|i+1).2).2]<|by first|rfl|simp[kR,nA,lv,h,y]|simp[kR,nA,lv],.b 4<|cE 237 [I<|((kR x b i).1).1,F<|iy<|((kR x b i).1).2] [I<|((kR x b<|i+1).1).1,F<|iy<|((kR x b<|i+1).1).2]<|by first|rfl|simp[kR,nA,lv,h,y]|simp[kR,nA,lv]]))) aI)
  (λs=>by
    have m:=aew u z (k:=N) U;have⟨f0,f1,f2,f3,f4,f5,f6,f7⟩:=m;exact iU (af [ag [.agg [I<|nA x N,F<|iy<|lv x.2 b N],.agg [I x.1,F<|iy x.2],D b]<|Qx ((nA x N),(lv x.2 b N)) Z x Z _ U Z,.c<|Jb (((nA x N) != x.1),((lv x.2 b N)*x.2/2^b)) Z<|N+1,.c<|GC ((nA x<|N+1),(lv x.2 b<|N+1)) Z,S 25<|bu t]) aI) aM:jK 6 f342 (aec x b N 0) .ret ⟨43,aa,[(5,.box 5 0),(4,.box 4 0)],[(5,.cells 237 [I<|((kR x b N).2).1,F<|iy<|((kR x b N).2).2]),(4,.cells 237 [I<|((kR x b N).1).1,F<|iy<|((kR x b N).1).2])]⟩)<|af [.o 8<|oI 1 ((0+1:Nat):Int),.b 5<|cE 237 [I ac,F<|iy<|1*2^b] [I<|((kR x b 0).2).1,F<|iy<|((kR x b 0).2).2]<|by first|rfl|simp[kR,nA,lv,h,y]|simp[kR,nA,lv],.b 7<|cE 237 [I ac,F<|iy<|1*2^b] [I<|nA x 0,F<|iy<|lv x.2 b 0]<|by first|rfl|simp[kR,nA,lv,h,y]|simp[kR,nA,lv],.b 4 (akX:Bx.le (.cells 237 [I ac,.v<|.slice am 0 0])<|.cells 237 [I<|((kR x b 0).1).1,F<|iy<|((kR x b 0).1).2])]])
def aiv(x:Bool×Nat)(b:Nat)(u:x.2<=2^(b+1))(h:b<=3000):∃ s c:Bool×Nat,s.2<2^(b+14)/\c.2<2^(b+14)/\iB 342 [.agg [I x.1,F<|iy x.2],D (b:Int)] (.iO [.agg [I s.1,F<|iy s.2],.agg [I c.1,F<|iy c.2]]):=by
 have⟨N,v,t,n,y⟩:=akZ u;obtain⟨M,rfl⟩:∃ M,N=M+1:=⟨N-1,U⟩
 have⟨a,z⟩:=aey u h (k:=M) U;exact⟨_,_,a,z,aiu x b M u h U n y⟩
def Dh(a:Bool×Nat)(b p:Nat)(y:a.2<2^3000)(z:b<=8000:=by omega)(i:8<=p:=by omega)(C:p<=512:=by omega):iB 344 [.agg [I a.1,F<|iy a.2],D b,D p]<|O<|vF a b p:=by
 have t:(iy 1).length<=256:=wD aG;have q:(iy<|1*2^24).length<=256:=wD aG;have m:(iy a.2).length<=256:=na y aG;have s:=NW (n:=3000) y (show 1*2^24<2^25 by decide) aG aG;have g:(iy<|a.2+1*2^24).length<=256:=na s aG;have l:=cB (show(kt a ((!ac),(1*2^24))).2<=_ from AY _ _) s;have u:=cB (show(kt a (ac,(1*2^24))).2<=_ from AY _ _) s;have f:(iy (kt a ((!ac),(1*2^24))).2).length<=256:=na l aG;have d:(iy (kt a (ac,(1*2^24))).2).length<=256:=na u aG;have e:(0-(b:Int)) = -(b:Int):=Int.zero_sub _;have r:oL<|canon (kt a ((!ac),(1*2^24))).1 (kt a ((!ac),(1*2^24))).2<|0-(b:Int):=by rw[e];exact abu (KB (k:=4000) l aG) z
 have v:oL<|canon (kt a (ac,(1*2^24))).1 (kt a (ac,(1*2^24))).2<|0-(b:Int):=by rw[e];exact abu (KB (k:=4000) u aG) z
 have c:(canon (kt a ((!ac),(1*2^24))).1 (kt a ((!ac),(1*2^24))).2<|0-(b:Int)).iE:=abv r;have j:(canon (kt a (ac,(1*2^24))).1 (kt a (ac,(1*2^24))).2<|0-(b:Int)).iE:=abv v;have N:vF a b p=mc (jZ (canon (kt a ((!ac),(1*2^24))).1 (kt a ((!ac),(1*2^24))).2<|0-(b:Int)) p ac) (kg (canon (kt a ((!ac),(1*2^24))).1 (kt a ((!ac),(1*2^24))).2<|0-(b:Int)) p ac) (jZ (canon (kt a (ac,(1*2^24))).1 (kt a (ac,(1*2^24))).2<|0-(b:Int)) p aa) (kg (canon (kt a (ac,(1*2^24))).1 (kt a (ac,(1*2^24))).2<|0-(b:Int)) p aa):=by rw[e];rfl
 exact iL (Y [.o 14<|.e uR,.c<|Dg 1 24 Z U Z,.c<|Ad (ac,(1*2^24)),.c<|vY a Z ((!ac),(1*2^24)) Z Z,.c<|vY a Z (ac,(1*2^24)) Z Z,iN<|0-(b:Int),.c<|EG ((kt a (!ac,(1*2^24))).1) ((kt a (!ac,(1*2^24))).2) (0-(b:Int)) Z U U Z,iN<|0-(b:Int),.c<|EG ((kt a (ac,(1*2^24))).1) ((kt a (ac,(1*2^24))).2) (0-(b:Int)) Z U U Z,tM 45 0 0,tM 48 0 0,.c<|LG (canon ((kt a (!ac,(1*2^24))).1) ((kt a (!ac,(1*2^24))).2)<|0-(b:Int)) p Z,.c<|LH (canon ((kt a (ac,(1*2^24))).1) ((kt a (ac,(1*2^24))).2)<|0-(b:Int)) p Z]<|.w ((kg (canon ((kt a ((!ac),(1*2^24))).1) ((kt a ((!ac),(1*2^24))).2)<|0-(b:Int)) p ac)=0)
  (λh=>Y [S 64<|bj h]<|.w ((kg (canon ((kt a (ac,(1*2^24))).1) ((kt a (ac,(1*2^24))).2)<|0-(b:Int)) p aa)=0)
   (λx=>Y [S 67<|bj x]<|V (O<|Iv.mk (jZ (canon ((kt a ((!ac),(1*2^24))).1) ((kt a ((!ac),(1*2^24))).2)<|0-(b:Int)) p ac) (jZ (canon ((kt a (ac,(1*2^24))).1) ((kt a (ac,(1*2^24))).2)<|0-(b:Int)) p aa) ac) (O<|vF a b p)<|by rw[N,aoi h x])
   (λx=>Y [S 67<|bk x,.c pv]<|V (O L) (O<|vF a b p)<|by rw[N,abh<|.inr x]))
  (λh=>Y [S 64<|bk h,.c pv]<|V (O L) (O<|vF a b p)<|by rw[N,abh<|.inl h]))
section
variable(d:Dy)(p:Nat)
def aim(x:d.iE)(h:d.jh=0)(i:8<=p)(C:p<=512):iB 326 [iJ d,I aa,D p]<|O<|kp 1:=by
 have v:=vz (n:=1) aG;exact iL<|af [.c<|oC d Z,ah 14 ((Dy.jh d)==0)<|by rw[h];rfl,.c<|tA 1,.c<|xg (jF 1) Z]
section
variable(r s c:Bool×Nat)(h:d.iE)(x:d.jh≠0)
def aid(Y:iB 341 [iJ d,D ((p+64:Nat):Int)]<|.iO [.agg [I r.1,F<|iy r.2],D 0])(y:iB 342 [.agg [I r.1,F<|iy r.2],D ((p+64:Nat):Int)]<|.iO [.agg [I s.1,F<|iy s.2],.agg [I c.1,F<|iy c.2]])(h:s.2<2^3000)(z:c.2<2^3000)(i:8<=p)(C:p<=512):iB 326 [iJ d,I aa,D p]<|O<|vF c (p+64) p:=by
 have k:c.2<2^3000:=z;exact iL<|af [.c<|oC d Z,ai 14 ((Dy.jh d)==0)<|by simpa using x,iN<|(p:Int)+64,.c Y,.c y,iN<|0+1,.a (U:0<(4:Int)),.o 38<|oI (bl (0+1) 4) 1 aG,tE 40 1 1,ag [.agg [I c.1,F<|iy c.2],D ((p+64:Nat):Int),D p]<|Dh c _ _ Z]
def aie(Y:iB 341 [iJ d,D ((p+64:Nat):Int)]<|.iO [.agg [I r.1,F<|iy r.2],D 1])(y:iB 342 [.agg [I r.1,F<|iy r.2],D ((p+64:Nat):Int)]<|.iO [.agg [I s.1,F<|iy s.2],.agg [I c.1,F<|iy c.2]])(z:s.2<2^3000)(h:c.2<2^3000)(i:8<=p)(C:p<=512):iB 326 [iJ d,I aa,D p]<|O<|vF ((!s.1),s.2) (p+64) p:=by
 have k:((!s.1),s.2).2<2^3000:=z;exact iL<|af [.c<|oC d Z,ai 14 ((Dy.jh d)==0)<|by simpa using x,iN<|(p:Int)+64,.c Y,.c y,iN<|1+1,.a (U:0<(4:Int)),.o 38<|oI (bl (1+1) 4) 2 aG,tN 40 2 1,tE 43 2 2,.c<|Ad (s.1,s.2),ag [.agg [I<|!s.1,F<|iy s.2],D ((p+64:Nat):Int),D p]<|Dh ((!s.1),s.2) _ _ Z]
def aif(Y:iB 341 [iJ d,D ((p+64:Nat):Int)]<|.iO [.agg [I r.1,F<|iy r.2],D 2])(y:iB 342 [.agg [I r.1,F<|iy r.2],D ((p+64:Nat):Int)]<|.iO [.agg [I s.1,F<|iy s.2],.agg [I c.1,F<|iy c.2]])(h:s.2<2^3000)(z:c.2<2^3000)(i:8<=p)(C:p<=512):iB 326 [iJ d,I aa,D p]<|O<|vF ((!c.1),c.2) (p+64) p:=by
 have k:((!c.1),c.2).2<2^3000:=z;exact iL<|af [.c<|oC d Z,ai 14 ((Dy.jh d)==0)<|by simpa using x,iN<|(p:Int)+64,.c Y,.c y,iN<|2+1,.a (U:0<(4:Int)),.o 38<|oI (bl (2+1) 4) 3 aG,tN 40 3 1,tN 43 3 2,tE 47 3 3,.c<|Ad (c.1,c.2),ag [.agg [I<|!c.1,F<|iy c.2],D ((p+64:Nat):Int),D p]<|Dh ((!c.1),c.2) _ _ Z]
def aih(Y:iB 341 [iJ d,D ((p+64:Nat):Int)]<|.iO [.agg [I r.1,F<|iy r.2],D 3])(y:iB 342 [.agg [I r.1,F<|iy r.2],D ((p+64:Nat):Int)]<|.iO [.agg [I s.1,F<|iy s.2],.agg [I c.1,F<|iy c.2]])(z:s.2<2^3000)(h:c.2<2^3000)(i:8<=p)(C:p<=512):iB 326 [iJ d,I aa,D p]<|O<|vF s (p+64) p:=by
 have k:s.2<2^3000:=z;exact iL<|af [.c<|oC d Z,ai 14 ((Dy.jh d)==0)<|by simpa using x,iN<|(p:Int)+64,.c Y,.c y,iN<|3+1,.a (U:0<(4:Int)),.o 38<|oI (bl (3+1) 4) 0 aG,tN 40 0 1,tN 43 0 2,tN 47 0 3,ag [.agg [I s.1,F<|iy s.2],D ((p+64:Nat):Int),D p]<|Dh s _ _ Z]
end
def ain(x:d.iE)(h:d.jh=0)(i:8<=p)(C:p<=512):iB 326 [iJ d,I ac,D p]<|O<|lp d:=
 iL (af [.c<|oC d Z,ah 14 ((Dy.jh d)==0)<|by rw[h];rfl,.c<|xg d Z])
section
variable(r s c:Bool×Nat)(h:d.iE)(x:d.jh≠0)
def aii(Y:iB 341 [iJ d,D ((p+64:Nat):Int)]<|.iO [.agg [I r.1,F<|iy r.2],D 0])(y:iB 342 [.agg [I r.1,F<|iy r.2],D ((p+64:Nat):Int)]<|.iO [.agg [I s.1,F<|iy s.2],.agg [I c.1,F<|iy c.2]])(z:s.2<2^3000)(h:c.2<2^3000)(i:8<=p)(C:p<=512):iB 326 [iJ d,I ac,D p]<|O<|vF s (p+64) p:=by
 have k:s.2<2^3000:=z;exact iL<|af [.c<|oC d Z,ai 14 ((Dy.jh d)==0)<|by simpa using x,iN<|(p:Int)+64,.c Y,.c y,.a (U:0<(4:Int)),.o 38<|oI (bl 0 4) 0 aG,tN 40 0 1,tN 43 0 2,tN 47 0 3,ag [.agg [I s.1,F<|iy s.2],D ((p+64:Nat):Int),D p]<|Dh s _ _ Z]
def aij(Y:iB 341 [iJ d,D ((p+64:Nat):Int)]<|.iO [.agg [I r.1,F<|iy r.2],D 1])(y:iB 342 [.agg [I r.1,F<|iy r.2],D ((p+64:Nat):Int)]<|.iO [.agg [I s.1,F<|iy s.2],.agg [I c.1,F<|iy c.2]])(h:s.2<2^3000)(z:c.2<2^3000)(i:8<=p)(C:p<=512):iB 326 [iJ d,I ac,D p]<|O<|vF c (p+64) p:=by
 have k:c.2<2^3000:=z;exact iL<|af [.c<|oC d Z,ai 14 ((Dy.jh d)==0)<|by simpa using x,iN<|(p:Int)+64,.c Y,.c y,.a (U:0<(4:Int)),.o 38<|oI (bl 1 4) 1 aG,tE 40 1 1,ag [.agg [I c.1,F<|iy c.2],D ((p+64:Nat):Int),D p]<|Dh c _ _ Z]
def aik(Y:iB 341 [iJ d,D ((p+64:Nat):Int)]<|.iO [.agg [I r.1,F<|iy r.2],D 2])(y:iB 342 [.agg [I r.1,F<|iy r.2],D ((p+64:Nat):Int)]<|.iO [.agg [I s.1,F<|iy s.2],.agg [I c.1,F<|iy c.2]])(z:s.2<2^3000)(h:c.2<2^3000)(i:8<=p)(C:p<=512):iB 326 [iJ d,I ac,D p]<|O<|vF ((!s.1),s.2) (p+64) p:=by
 have k:((!s.1),s.2).2<2^3000:=z;exact iL<|af [.c<|oC d Z,ai 14 ((Dy.jh d)==0)<|by simpa using x,iN<|(p:Int)+64,.c Y,.c y,.a (U:0<(4:Int)),.o 38<|oI (bl 2 4) 2 aG,tN 40 2 1,tE 43 2 2,.c<|Ad (s.1,s.2),ag [.agg [I<|!s.1,F<|iy s.2],D ((p+64:Nat):Int),D p]<|Dh ((!s.1),s.2) _ _ Z]
def ail(Y:iB 341 [iJ d,D ((p+64:Nat):Int)]<|.iO [.agg [I r.1,F<|iy r.2],D 3])(y:iB 342 [.agg [I r.1,F<|iy r.2],D ((p+64:Nat):Int)]<|.iO [.agg [I s.1,F<|iy s.2],.agg [I c.1,F<|iy c.2]])(h:s.2<2^3000)(z:c.2<2^3000)(i:8<=p)(C:p<=512):iB 326 [iJ d,I ac,D p]<|O<|vF ((!c.1),c.2) (p+64) p:=by
 have k:((!c.1),c.2).2<2^3000:=z;exact iL<|af [.c<|oC d Z,ai 14 ((Dy.jh d)==0)<|by simpa using x,iN<|(p:Int)+64,.c Y,.c y,.a (U:0<(4:Int)),.o 38<|oI (bl 3 4) 3 aG,tN 40 3 1,tN 43 3 2,tE 47 3 3,.c<|Ad (c.1,c.2),ag [.agg [I<|!c.1,F<|iy c.2],D ((p+64:Nat):Int),D p]<|Dh ((!c.1),c.2) _ _ Z]
end
end
def Wi{d:Dy}(h:d.iE)(t:d.iQ<=100)(cs:Bool){p:Nat}(i:8<=p)(C:p<=512):∃ Z,Z.iE/\iB 326 [iJ d,I cs,D (p:Int)] (O Z):=by
 by_cases x:d.jh=0
 .cases cs with
  |true=>exact⟨_,zz aG,aim d p h x i C⟩
  |false=>exact⟨_,vH h,ain d p h x i C⟩
 .have⟨r,k,q,n,Y⟩:=aio d (p+64) h U U t;have⟨s,c,z,y,u⟩:=aiv r (p+64) q U;have z:=KB z (k:=3000) U;have y:=KB y (k:=3000) U;have v:∀ a:Bool×Nat,(vF a (p+64) p).iE:=λa=>aoU a _ U U 
  rcases(U:k=0\/k=1\/k=2\/k=3)with rfl|rfl|rfl|rfl
  .cases cs with
   |true=>exact⟨_,v _,aid d p r s c h x Y u z y i C⟩
   |false=>exact⟨_,v _,aii d p r s c h x Y u z y i C⟩
  .cases cs with
   |true=>exact⟨_,v _,aie d p r s c h x Y u z y i C⟩
   |false=>exact⟨_,v _,aij d p r s c h x Y u z y i C⟩
  .cases cs with
   |true=>exact⟨_,v _,aif d p r s c h x Y u z y i C⟩
   |false=>exact⟨_,v _,aik d p r s c h x Y u z y i C⟩
  .cases cs with
   |true=>exact⟨_,v _,aih d p r s c h x Y u z y i C⟩
   |false=>exact⟨_,v _,ail d p r s c h x Y u z y i C⟩
def ana:(jF (-1)).neg=aa/\(jF (-1)).m=1/\(jF (-1)).e=0:= aQ 
def aiy: iB 348 [D (-1)]<|.agg [I aa,F<|iy 1]:=by
 have⟨x,q,h⟩:=ana;have z:(iy (jF (-1)).m).length<=256:=by rw[q];exact wD aG 
 have k:(iy<|(jF (-1)).m*2^(aN (jF (-1)).e)).length<=256:=by rw[q,h];exact wD aG 
 exact iL<|Y [.c<|tA (-1),.c<|PG ((jF (-1)).m) ((jF (-1)).e) Z U U Z]<|V (.agg [I<|(jF (-1)).neg,F<|iy<|((jF (-1)).m)*2^(aN<|(jF (-1)).e)]) (.agg [I aa,F<|iy 1])<|by rw[x,q,h];rfl
section
variable(a c:Bool×Nat)(y:(iy a.2).length<=256)(z:(iy c.2).length<=256)(x:c.2≠0)
def ah4(z:(iy<|a.2/c.2+1).length<=256)(h:a.1=ac):iB 350 [.agg [I a.1,F<|iy a.2],.agg [I c.1,F<|iy c.2]]<|.agg [I<|(rz a c).1,F<|iy<|(rz a c).2]:=by
 have zq:(iy<|a.2/c.2).length<=256:=bF (nR<|b6 _ _) y;have r:(iy<|a.2%c.2).length<=256:=bF (nR<|ef _ _) y;have x:(iy 1).length<=256:=wD aG;have e:rz a c=(a.1,a.2/c.2):=by unfold rz;rw[bn<|by rw[h];exact λq=>bm q.1]
 exact iL<|Y [.c<|CE a.2 c.2 U U Z,S 19 h,S 23 h]<|V (.agg [I ac,F<|iy<|a.2/c.2]) (.agg [I<|(rz a c).1,F<|iy<|(rz a c).2])<|by rw[e,h]
def ah1(z:(iy<|a.2/c.2+1).length<=256)(h:a.1=aa)(x:a.2%c.2=0):iB 350 [.agg [I a.1,F<|iy a.2],.agg [I c.1,F<|iy c.2]]<|.agg [I<|(rz a c).1,F<|iy<|(rz a c).2]:=by
 have zq:(iy<|a.2/c.2).length<=256:=bF (nR<|b6 _ _) y;have r:(iy<|a.2%c.2).length<=256:=bF (nR<|ef _ _) y;have k:(iy 1).length<=256:=wD aG;have e:rz a c=(a.1,a.2/c.2):=by unfold rz;rw[bn λq=>q.2 x]
 exact iL<|Y [.c<|CE a.2 c.2 U U Z,S 19 h,S 23 h,.c<|vE<|a.2%c.2,tF 27 (0<(H<|a.2%c.2:Int))<|by rw[x,tZ];decide]<|V (.agg [I aa,F<|iy<|a.2/c.2]) (.agg [I<|(rz a c).1,F<|iy<|(rz a c).2])<|by rw[e,h]
section
variable(s:(iy<|a.2/c.2+1).length<=256)
def ah2(h:a.1=aa)(x:a.2%c.2≠0):iB 350 [.agg [I a.1,F<|iy a.2],.agg [I c.1,F<|iy c.2]]<|.agg [I<|(rz a c).1,F<|iy<|(rz a c).2]:=by
 have zq:(iy<|a.2/c.2).length<=256:=bF (nR<|b6 _ _) y;have z:(iy<|a.2%c.2).length<=256:=bF (nR<|ef _ _) y;have k:(iy 1).length<=256:=wD aG;have e:rz a c=kt (a.1,a.2/c.2) (aa,1):=by unfold rz;rw[bt ⟨h,x⟩]
 exact iL<|Y [.c<|CE a.2 c.2 U U Z,S 19 h,S 23 h,.c<|vE<|a.2%c.2,tT 27 (0<(H<|a.2%c.2:Int))<|by have:=oP x;omega,.c aiy,.c<|vY (aa,(a.2/c.2)) Z (aa,1) Z Z]<|V (.agg [I<|(kt (aa,(a.2/c.2)) (aa,1)).1,F<|iy<|(kt (aa,(a.2/c.2)) (aa,1)).2]) (.agg [I<|(rz a c).1,F<|iy<|(rz a c).2])<|by rw[e,h]
def ah3:iB 350 [.agg [I a.1,F<|iy a.2],.agg [I c.1,F<|iy c.2]]<|.agg [I<|(rz a c).1,F<|iy<|(rz a c).2]:=by
 cases h1:a.1 with
 |false=>rw[<-h1];exact ah4 a c y z x s h1
 |true=>
  rw[<-h1];by_cases h:a.2%c.2=0
  .exact ah1 a c y z x s h1 h
  .exact ah2 a c y z x s h1 h
end
end
section
variable(x:Iv)(n p t T b R P:Nat)(c u v Q j o k X d0 d1:Bool×Nat)(N:x.iE)
def ah9(q:x.all=ac)(m:n<=3)(i:p<=2000)(l:(t:Int)=max (max x.lo.iQ x.hi.iQ) 0)(g:t<=2000)(d:(iy d1.2).length<=256)(a:iB 345 [D (((p+t)+40:Nat):Int)]<|.agg [I c.1,F<|iy c.2])(h:iB 351 [iJ x.hi,D (((p+t)+40:Nat):Int)]<|.agg [I u.1,F<|iy u.2])(V:iB 351 [iJ x.lo,D (((p+t)+40:Nat):Int)]<|.agg [I v.1,F<|iy v.2])(W:iB 346 [F<|iy c.2,D ((1:Nat):Int)]<|F<|iy T)(G:iB 349 [.agg [I ac,F<|iy n],.agg [I c.1,F<|iy c.2],D ((0:Nat):Int)]<|.agg [I Q.1,F<|iy Q.2])(H:iB 347 [F<|iy Q.2,D ((1:Nat):Int)]<|F<|iy b)(E:iB 346 [F<|iy 1,D (((t+24)+4:Nat):Int)]<|F<|iy R)(Y:iB 352 [.agg [I u.1,F<|iy u.2],.agg [I<|!ac,F<|iy b]]<|.agg [I j.1,F<|iy j.2])(A:iB 352 [.agg [I j.1,F<|iy j.2],.agg [I ac,F<|iy R]]<|.agg [I o.1,F<|iy o.2])(K:iB 350 [.agg [I o.1,F<|iy o.2],.agg [I ac,F<|iy T]]<|.agg [I k.1,F<|iy k.2])(M:iB 151 [F<|iy k.2,F<|iy T]<|.iO [F<|iy P,D 0])(y:iB 352 [.agg [I k.1,F<|iy P],.agg [I ac,F<|iy b]]<|.agg [I X.1,F<|iy X.2])(z:iB 352 [.agg [I X.1,F<|iy X.2],.agg [I<|!v.1,F<|iy v.2]]<|.agg [I d0.1,F<|iy d0.2])(s:iB 352 [.agg [I d0.1,F<|iy d0.2],.agg [I ac,F<|iy R]]<|.agg [I d1.1,F<|iy d1.2])(r:d1.2=0):iB 327 [O x,D n,D p]<|I aa:=by
 have⟨f,w⟩:=N.kN;have e:(iy 1).length<=256:=wD aG;exact iL (af [.c<|pN x.lo Z,.c<|pN x.hi Z,.o 24<|oI (if 0>(if(Dy.iQ x.hi)>(Dy.iQ x.lo)then(Dy.iQ x.hi)else(Dy.iQ x.lo))then 0 else(if(Dy.iQ x.hi)>(Dy.iQ x.lo)then(Dy.iQ x.hi)else(Dy.iQ x.lo))) (t:Int) (by(repeat' split)<;>omega),
  iN ((p:Int)+t),iN<|((p+t:Nat):Int)+40,.c a,.c W,.c<|PI n U,.c G,.c H,.o 42<|.e uR,iN<|(t:Int)+24,
  iN (((t+24:Nat):Int)+4),.c E,.c h,.c<|Ad (ac,b),.c Y,.c A,.c K,.c M,.c y,.c V,.c<|Ad (v.1,v.2),.c z,.c s,.c<|GC (d1.1,d1.2) Z,S 83<|bu r])
def ah8(q:x.all=ac)(m:n<=3)(i:p<=2000)(l:(t:Int)=max (max x.lo.iQ x.hi.iQ) 0)(g:t<=2000)(d:(iy d1.2).length<=256)(a:iB 345 [D (((p+t)+40:Nat):Int)]<|.agg [I c.1,F<|iy c.2])(h:iB 351 [iJ x.hi,D (((p+t)+40:Nat):Int)]<|.agg [I u.1,F<|iy u.2])(V:iB 351 [iJ x.lo,D (((p+t)+40:Nat):Int)]<|.agg [I v.1,F<|iy v.2])(W:iB 346 [F<|iy c.2,D ((1:Nat):Int)]<|F<|iy T)(G:iB 349 [.agg [I ac,F<|iy n],.agg [I c.1,F<|iy c.2],D ((0:Nat):Int)]<|.agg [I Q.1,F<|iy Q.2])(H:iB 347 [F<|iy Q.2,D ((1:Nat):Int)]<|F<|iy b)(E:iB 346 [F<|iy 1,D (((t+24)+4:Nat):Int)]<|F<|iy R)(Y:iB 352 [.agg [I u.1,F<|iy u.2],.agg [I<|!ac,F<|iy b]]<|.agg [I j.1,F<|iy j.2])(A:iB 352 [.agg [I j.1,F<|iy j.2],.agg [I ac,F<|iy R]]<|.agg [I o.1,F<|iy o.2])(K:iB 350 [.agg [I o.1,F<|iy o.2],.agg [I ac,F<|iy T]]<|.agg [I k.1,F<|iy k.2])(M:iB 151 [F<|iy k.2,F<|iy T]<|.iO [F<|iy P,D 0])(y:iB 352 [.agg [I k.1,F<|iy P],.agg [I ac,F<|iy b]]<|.agg [I X.1,F<|iy X.2])(z:iB 352 [.agg [I X.1,F<|iy X.2],.agg [I<|!v.1,F<|iy v.2]]<|.agg [I d0.1,F<|iy d0.2])(s:iB 352 [.agg [I d0.1,F<|iy d0.2],.agg [I ac,F<|iy R]]<|.agg [I d1.1,F<|iy d1.2])(r:¬d1.2=0):iB 327 [O x,D n,D p]<|I<|!d1.1:=by
 have⟨f,w⟩:=N.kN;have e:(iy 1).length<=256:=wD aG;exact iL (af [.c<|pN x.lo Z,.c<|pN x.hi Z,.o 24<|oI (if 0>(if(Dy.iQ x.hi)>(Dy.iQ x.lo)then(Dy.iQ x.hi)else(Dy.iQ x.lo))then 0 else(if(Dy.iQ x.hi)>(Dy.iQ x.lo)then(Dy.iQ x.hi)else(Dy.iQ x.lo))) (t:Int) (by(repeat' split)<;>omega),
  iN ((p:Int)+t),iN<|((p+t:Nat):Int)+40,.c a,.c W,.c<|PI n U,.c G,.c H,.o 42<|.e uR,iN<|(t:Int)+24,
  iN (((t+24:Nat):Int)+4),.c E,.c h,.c<|Ad (ac,b),.c Y,.c A,.c K,.c M,.c y,.c V,.c<|Ad (v.1,v.2),.c z,.c s,.c<|GC (d1.1,d1.2) Z,S 83<|bw r])
end
def Ja{a b:Bool×Nat}{i j n:Nat}(h:a.2<2^i)(x:b.2<2^j)(k:i<=n)(y:j<=n)(z:n<=8000):∃ r:Bool×Nat,r.2<2^(n+1)/\iB 352 [.agg [I a.1,F<|iy a.2],.agg [I b.1,F<|iy b.2]] (.agg [I r.1,F<|iy r.2]):=
 ⟨kt a b,akK h x k y,vY a (na h U) b (na x U)<|na (NW h x k y) U⟩
def ah7{x:Iv}(l:x.iE)(Z:x.all=ac)(n:Nat)(g:n<=3)(p:Nat)(iC:p<=1000)(h1:x.lo.iQ<=100)(h2:x.hi.iQ<=100):∃ r:Bool,iB 327 [O x,D (n:Int),D (p:Int)] (I r):=by
 have⟨w1,w2⟩:=l.kN;obtain⟨t,T⟩:∃ t:Nat,(t:Int)=max (max x.lo.iQ x.hi.iQ) 0:=⟨(max (max x.lo.iQ x.hi.iQ) 0).toNat,U⟩
 have⟨c,c1,c2,c3,R⟩:=Wh (p+t+40) U U;have zy:=PH x.hi w2 (p+t+40) 6000 U aG U;have V:=PH x.lo w1 (p+t+40) 6000 U aG U;have f:=NS (d:=x.hi) (b:=p+t+40) (K:=6000) U;have j:=NS (d:=x.lo) (b:=p+t+40) (K:=6000) U;have Q:=KB (m:=c.2) (i:=p+t+40+3) (k:=2000) (by have e:(2:Nat)^(p+t+40+3)=2^(p+t+40)*8:=bC 2 _ 3;have:0<2^(p+t+40):=bG aG;omega) U;generalize tU x.hi (p+t+40)=u at zy f;generalize tU x.lo (p+t+40)=v at V j;obtain⟨K,hK⟩:∃ K,K=6000:=⟨_,rfl⟩
 rw[<-hK]at f j;obtain⟨J,hJ⟩:∃ J,J=2000:=⟨_,rfl⟩
 rw[<-hJ]at Q;have P:(iy c.2).length<=256:=na Q U;have y:c.2*2^1<2^(J+1):=by have e:2^(J+1)=2^J*2:=bI _ _;omega
 have W:=Dg c.2 1 P aG<|na y U;have N:c.2*2^1≠0:= U ;generalize c.2*2^1=w at W y N;have L:n*c.2<2^(J+2):=by have e:2^(J+2)=2^J*4:=bC 2 J 2;have:=bX c.2 g;omega
 have G:=Qx (ac,n) (wD<|by show n<_;omega) c P 0 aG<|na L U;have y1:n*c.2/2^0<2^(J+2):=cB (b6 _ _) L;obtain⟨q,o⟩:∃ q:Bool×Nat,q=(ac != c.1,n*c.2/2^0):=⟨_,rfl⟩
 have H:q.2<2^(J+2):=by rw[o];exact y1
 have zx:iB 349 [.agg [I ac,F<|iy n],.agg [I c.1,F<|iy c.2],D ((0:Nat):Int)]<|.agg [I q.1,F<|iy q.2]:=by rw[o];exact G
 clear G o;have S:=zY q.2 1 (na H U) aG;have X:q.2/2^1<2^(J+2):=cB (b6 _ _) H;generalize q.2/2^1=sg at S X;have z:1*2^(t+24+4)<2^K:=by rw[bU];exact fG aG U 
 have E:=Dg 1 (t+24+4) (wD aG) U<|na z U;generalize 1*2^(t+24+4)=eg at E z;have⟨C,x0,B⟩:=Ja (b:=(!ac,sg)) f X (n:=K) U U U;have⟨h,A,zv⟩:=Ja (b:=(ac,eg)) x0 z (n:=K+1) U U U;have zu:h.2/w+1<2^(K+3):=by
  have e:2^(K+3)=2^(K+1+1)*2:=bI _ _;have:=b6 h.2 w;have:0<2^(K+1+1):=bG aG;omega
 have z0:=ah3 h (ac,w) (na A U) (na y U) N<|na zu U;have yk:=cB (Yh h (ac,w)) zu;have s:(rz h (ac,w)).2*w<2^(K+3):=cB (akT h (ac,w))<|NW (n:=K+2) A y U U;generalize rz h (ac,w)=k at z0 yk s;have M:=CF k.2 w (na yk U) (na y U)<|na s U;generalize k.2*w=mm at M s;have⟨l0,x2,y3⟩:=Ja (a:=(k.1,mm)) (b:=(ac,sg)) s X (n:=K+3) U U U;have⟨d0,x3,A4⟩:=Ja (b:=(!v.1,v.2)) x2 j (n:=K+4) U U U;have⟨Y,x4,GG⟩:=Ja (b:=(ac,eg)) x3 z (n:=K+5) U U U;by_cases hz:Y.2=0
 .exact ⟨_,ah9 x n p t w sg eg mm c u v q C h k l0 d0 Y l Z g U T U (na x4 U) R zy V W zx S E B zv z0 M y3 A4 GG hz⟩
 .exact ⟨_,ah8 x n p t w sg eg mm c u v q C h k l0 d0 Y l Z g U T U (na x4 U) R zy V W zx S E B zv z0 M y3 A4 GG hz⟩
def nn:Iv:=⟨jF (-1),jF 1,ac⟩
def CZ:nn.iE:=.inr ⟨rfl,show(jF (-1)).iE from vz aG,show(jF 1).iE from vz aG,aQ⟩
def BW: iB 325 []<|O nn:=by
 have h:(jF (-1)).iE:=vz aG;have x:(jF 1).iE:=vz aG;exact iL<|Y [.c<|tA (-1),.c<|tA 1]<|rR (O nn) (.jB rfl:E.le (O<|Iv.mk (jF (-1)) (jF 1) ac)<|O nn)
def agT(x y:Iv)(h:x.iE)(k:y.iE)(a:(x.all||y.all)=aa):iB 243 [O x,O y]<|O L:=
 iL (af [.o 7<|.e<|Cx x y,.c<|Cw x y Z Z,ai 8 (!(x.all||y.all))<|by rw[a];rfl,.c pv])
def agU{x y:Iv}(k:x.iE)(z:y.iE):∃ Z,Z.iE/\iB 243 [O x,O y] (O Z):=by
 cases h:(x.all||y.all)with
 |true=>exact⟨L,np,agT x y k z h⟩
 |false=>
  have⟨u,v⟩:=fC.1 h;exact⟨GZ x y,amR k z,agV x y k z u v⟩
def ag2(x:Iv)(h:x.iE)(a:x.all=aa):iB 130 [O x,O nn]<|.iO [O nn,I aa]:=by
 have u:=CZ;exact iL<|af [.c<|rL x Z,.c<|rL nn Z,S 19 a]
section
variable(x:Iv)(s:x.iE)(a:x.all=ac)
def ag4(h:0<jQ (jz x.lo nn.lo) (jI x.hi nn.hi)):iB 130 [O x,O nn]<|.iO [O BO,I ac]:=by
 have u:=CZ;have⟨v,k⟩:=s.kN;have⟨y,z⟩:=u.kN;have m:=qx v y;have t:=rm k z;exact iL<|Y [.c<|rL x Z,.c<|rL nn Z,S 19 a,ai 23 nn.all rfl,.c<|G6 x.lo nn.lo Z Z,.c<|G5 x.hi nn.hi Z Z,.c<|pE (jz x.lo nn.lo) (jI x.hi nn.hi) Z Z,S 41<|bu h]<|rR (.iO [O BO,I ac]) (.iO<|.cons afS<|.cons (.refl _) .nil:E.le (.iO [.agg au,I ac])<|.iO [O BO,I ac])
def ag5(h:¬0<jQ (jz x.lo nn.lo) (jI x.hi nn.hi)):iB 130 [O x,O nn]<|.iO [O<|Iv.mk (jz x.lo nn.lo) (jI x.hi nn.hi) ac,I aa]:=by
 have u:=CZ;have⟨v,k⟩:=s.kN;have⟨y,z⟩:=u.kN;have m:=qx v y;have t:=rm k z;exact iL<|af [.c<|rL x Z,.c<|rL nn Z,S 19 a,ai 23 nn.all rfl,.c<|G6 x.lo nn.lo Z Z,.c<|G5 x.hi nn.hi Z Z,.c<|pE (jz x.lo nn.lo) (jI x.hi nn.hi) Z Z,S 41<|bw h]
end
structure BP(Y:Iv):Prop where
 v:Y.iE
 f:Y.all=false
 l:jQ nn.lo Y.lo<=0
 h:jQ Y.hi nn.hi<=0
def au1:BP nn:=⟨CZ,rfl,aQ,aQ⟩
def ag3{x:Iv}(k:x.iE):(∃ Y,BP Y/\iB 130 [O x,O nn] (.iO [O Y,I aa]))\/iB 130 [O x,O nn] (.iO [O BO,I ac]):=by
 cases xa:x.all with
 |true=>exact .inl ⟨nn,au1,ag2 x k xa⟩
 |false=>
  by_cases h:0<jQ (jz x.lo nn.lo) (jI x.hi nn.hi)
  .exact .inr<|ag4 x k xa h
  .have v:(jz x.lo nn.lo).iE:=qx k.kN.1 CZ.kN.1;have y:(jI x.hi nn.hi).iE:=rm k.kN.2 CZ.kN.2;have z:jQ nn.lo (jz x.lo nn.lo)<=0:=abm _ _;have u:jQ (jI x.hi nn.hi) nn.hi<=0:=abp _ _;have q:=ag5 x k xa h;have t:jQ (jz x.lo nn.lo) (jI x.hi nn.hi)<=0:= U ;generalize jz x.lo nn.lo=a at *
   generalize jI x.hi nn.hi=b at *
   exact .inl ⟨⟨a,b,ac⟩,⟨.inr ⟨rfl,v,y,t⟩,rfl,z,u⟩,q⟩
def BP.up{Y:Iv}(h:BP Y):BP ⟨Y.lo,jF 1,ac⟩:=by
 have e:=h.v.kN;refine⟨.inr ⟨rfl,e.1,vz (n:=1) aG,?_⟩,rfl,h.l,show jQ (jF 1) (jF 1)<=0 by decide +kernel⟩;have:=h.v.q;rw[rN];exact cg this<|(rN _ _).1 h.h
def BP.dn{Y:Iv}(h:BP Y):BP ⟨jF (-1),Y.hi,ac⟩:=by
 have e:=h.v.kN;refine⟨.inr ⟨rfl,vz (n:=-1) aG,e.2,?_⟩,rfl,show jQ (jF (-1)) (jF (-1))<=0 by decide +kernel,h.h⟩;have:=h.v.q;rw[rN];exact cg ((rN _ _).1 h.l) this
def LW(p:Nat)(i:8<=p:=by omega)(C:p<=512:=by omega):iB 324 [D p]<|I aa:=
 iL (af [tT 4 (8<=(p:Int)) U,tT 7 ((p:Int)<=512) U])
section
variable(x:Iv)(cs:Bool)(p:Nat)(n:x.iE)
def ahV(a:x.all=aa)(i:8<=p)(C:p<=512):iB 302 [O x,I cs,D p]<|O L:=
 iL (af [.c<|LW p,.c<|rL x Z,S 22 a,.c pv])
section
variable(a:x.all=ac)(i:8<=p)(C:p<=512)
def ahY(u:100<x.lo.iQ\/100<x.hi.iQ\/¬Eo x 64=0\/0<=jQ (xr x 64) (jF 7)):iB 302 [O x,I cs,D p]<|O nn:=by
 have⟨w,v⟩:=n.kN;have t:(jF 7).iE:=vz aG;have s:(xr x 64).iE:=AI _ aG aG _;exact iL (Y [.c<|LW p,.c<|rL x Z,S 22 a,.c<|pN x.lo Z]<|.w (100<(Dy.iQ x.lo))
  (λk=>af [S 28<|bu k,.c BW])
  (λk=>Y [S 28<|bw k,.c<|pN x.hi Z]<|.w (100<(Dy.iQ x.hi))
   (λh=>af [S 33<|bu h,.c BW])
   (λh=>Y [S 33<|bw h,.c<|Pw x 64 Z Z U U]<|.w (Eo x 64=0)
    (λy=>Y [S 40<|bu y,.c<|tA 7,.c<|pE (xr x 64) (jF 7) Z Z]<|.w (0<=(jQ (xr x 64)<|jF 7))
     (λz=>af [S 47<|bu z,.c BW])
     (λz=>.x<|by rcases u with q|q|q|q<;>contradiction))
    (λy=>af [S 40<|bw y,.c BW]))))
def ahX(h:¬100<x.lo.iQ)(k:¬100<x.hi.iQ)(y:Eo x 64=0)(z:¬0<=jQ (xr x 64) (jF 7))(P P2 H:Iv)(A:∀ c,c=cs->iB 326 [iJ x.lo,I c,D (p:Int)] (O P))(u:∀ c,c=cs->iB 326 [iJ x.hi,I c,D (p:Int)] (O P2))(v:iB 243 [O P,O P2]<|O H)(t:iB 130 [O H,O nn]<|.iO [O BO,I ac]):iB 302 [O x,I cs,D p]<|O nn:=by
 have⟨w,s⟩:=n.kN;have r:(jF 7).iE:=vz aG;have q:(xr x 64).iE:=AI _ aG aG _;exact iL<|af [.c<|LW p,.c<|rL x Z,S 22 a,.c<|pN x.lo Z,S 28<|bw h,.c<|pN x.hi Z,S 33<|bw k,.c<|Pw x 64 Z Z U U,S 40<|bu y,.c<|tA 7,.c<|pE (xr x 64) (jF 7) Z Z,S 47<|bw z,.c<|A cs aK,.c<|u cs aK,.c v,.c BW,.c t,.c BW]
end
end
def s8(cs:Bool)(R:Nat->Bool)(x Y:Iv):Iv:=if jQ x.lo x.hi=0 then Y else⟨if R (if cs=aa then 2 else 3)=aa then jF (-1)else Y.lo,if R (if cs=aa then 0 else 1)=aa then jF 1 else Y.hi,Y.all⟩
def ahW(x:Iv)(cs:Bool)(p:Nat)(r:x.iE)(a:x.all=ac)(i:8<=p)(C:p<=512)(q:¬100<x.lo.iQ)(n:¬100<x.hi.iQ)(m:Eo x 64=0)(l:¬0<=jQ (xr x 64) (jF 7))(P P2 H b:Iv)(g:BP b)(A:∀ c,c=cs->iB 326 [iJ x.lo,I c,D (p:Int)] (O P))(u:∀ c,c=cs->iB 326 [iJ x.hi,I c,D (p:Int)] (O P2))(v:iB 243 [O P,O P2]<|O H)(t:iB 130 [O H,O nn]<|.iO [O b,I aa])(R:Nat->Bool)(M:∀ s:Nat,s<=3->iB 327 [O x,D (s:Int),D ((p+64:Nat):Int)] (I<|R s)):iB 302 [O x,I cs,D p]<|O<|s8 cs R x b:=by
 have⟨w,f⟩:=r.kN;have e:(jF 7).iE:=vz aG;have d:(xr x 64).iE:=AI _ aG aG _;exact iL (Y [.c<|LW p,.c<|rL x Z,S 22 a,.c<|pN x.lo Z,S 28<|bw q,.c<|pN x.hi Z,S 33<|bw n,.c<|Pw x 64 Z Z U U,S 40<|bu m,.c<|tA 7,.c<|pE (xr x 64) (jF 7) Z Z,S 47<|bw l]<|.w ((jQ x.lo x.hi)=0)
  (λz=>Y [.c<|A cs aK,.c<|u cs aK,.c v,.c BW,.c t,.c<|pE x.lo x.hi Z Z,S 74<|bg z]<|V (O b) (O<|s8 cs R x b)<|by unfold s8;simp[z])
  (λz=>.w (cs=aa)
   (λh=>Y [S 53 h,.c<|A aa<|by simp[h],S 58 h,.c<|u aa<|by simp[h],.c v,.c BW,.c t,.c<|pE x.lo x.hi Z Z,S 74<|bd z,S 76 h,
    iN ((p:Int)+64),.c<|M 0 aG]<|.w (R 0=aa)
    (λy=>Y [S 81 y,.c<|tA 1,iN<|(p:Int)+64,.c<|M 2 aG]<|.w (R 2=aa)
     (λk=>Y [S 88 k,.c<|tA (-1)]<|V (O<|Iv.mk (jF (-1)) (jF 1) b.all) (O<|s8 cs R x b)<|by unfold s8;simp[z,h,y,k])
     (λk=>Y [S 88<|bh k]<|V (O<|Iv.mk b.lo (jF 1) b.all) (O<|s8 cs R x b)<|by unfold s8;simp[z,h,y,k]))
    (λy=>Y [S 81<|bh y,iN<|(p:Int)+64,.c<|M 2 aG]<|.w (R 2=aa)
     (λk=>Y [S 88 k,.c<|tA (-1)]<|V (O<|Iv.mk (jF (-1)) b.hi b.all) (O<|s8 cs R x b)<|by unfold s8;simp[z,h,y,k])
     (λk=>Y [S 88<|bh k]<|V (O b) (O<|s8 cs R x b)<|by unfold s8;simp[z,h,y,k])))
   (λh=>Y [S 53<|bh h,.c<|A ac<|by simp[h],S 58<|bh h,.c<|u ac<|by simp[h],.c v,.c BW,.c t,.c<|pE x.lo x.hi Z Z,S 74<|bd z,S 76<|bh h,iN<|(p:Int)+64,.c<|M 1 aG]<|.w (R 1=aa)
    (λy=>Y [S 81 y,.c<|tA 1,iN<|(p:Int)+64,.c<|M 3 aG]<|.w (R 3=aa)
     (λk=>Y [S 88 k,.c<|tA (-1)]<|V (O<|Iv.mk (jF (-1)) (jF 1) b.all) (O<|s8 cs R x b)<|by unfold s8;simp[z,h,y,k])
     (λk=>Y [S 88<|bh k]<|V (O<|Iv.mk b.lo (jF 1) b.all) (O<|s8 cs R x b)<|by unfold s8;simp[z,h,y,k]))
    (λy=>Y [S 81<|bh y,iN<|(p:Int)+64,.c<|M 3 aG]<|.w (R 3=aa)
     (λk=>Y [S 88 k,.c<|tA (-1)]<|V (O<|Iv.mk (jF (-1)) b.hi b.all) (O<|s8 cs R x b)<|by unfold s8;simp[z,h,y,k])
     (λk=>Y [S 88<|bh k]<|V (O b) (O<|s8 cs R x b)<|by unfold s8;simp[z,h,y,k])))))
def Wf{x:Iv}(k:x.iE)(cs:Bool){p:Nat}(i:8<=p)(C:p<=512):∃ Z,Z.iE/\iB 302 [O x,I cs,D (p:Int)] (O Z):=by
 cases xa:x.all with
 |true=>exact⟨_,np,ahV x cs p k xa i C⟩
 |false=>
  by_cases u:100<x.lo.iQ\/100<x.hi.iQ\/¬Eo x 64=0\/0<=jQ (xr x 64) (jF 7)
  .exact ⟨_,CZ,ahY x cs p k xa i C u⟩
  have l:¬100<x.lo.iQ:=λq=>u<|.inl q
  have g:¬100<x.hi.iQ:=λq=>u<|.inr<|.inl q
  have f:Eo x 64=0:=b8 λq=>u<|.inr<|.inr<|.inl q
  have e:¬0<=jQ (xr x 64) (jF 7):=λq=>u<|.inr<|.inr<|.inr q
  have⟨w,j⟩:=k.kN;have⟨P,o,A⟩:=Wi w U cs i C;have⟨P2,X,z⟩:=Wi j U cs i C;replace A:∀ c,c=cs->iB 326 [iJ x.lo,I c,D (p:Int)] (O P):=λc h=>h▸A
  replace z:∀ c,c=cs->iB 326 [iJ x.hi,I c,D (p:Int)] (O P2):=λc h=>h▸z
  have⟨H,F,d⟩:=agU o X;rcases ag3 F with⟨Y,y,t⟩|t
  rotate_left
  .exact ⟨_,CZ,ahX x cs p k xa i C l g f e P P2 H A z d t⟩
  have a:=y.f;have V:=y.v;have Q:(Iv.mk (jF (-1)) (jF 1) Y.all).iE:=by rw[a];exact CZ
  have N:(Iv.mk Y.lo (jF 1) Y.all).iE:=by rw[a];exact y.up.v
  have M:(Iv.mk (jF (-1)) Y.hi Y.all).iE:=by rw[a];exact y.dn.v
  have L:(Iv.mk Y.lo Y.hi Y.all).iE:=y.v;have v:∀ s:Nat,∃ r,s<=3->iB 327 [O x,D (s:Int),D ((p+64:Nat):Int)] (I r):=λs=>by
   by_cases n:s<=3
   .have⟨r,m⟩:=ah7 k xa s U (p+64) U U U ;exact⟨r,λ_=>m⟩
   .exact ⟨aa,λh=>absurd h n⟩
  refine⟨s8 cs (λs=>Classical.choose<|v s) x Y,?_,ahW x cs p k xa i C l g f e P P2 H Y y A z d t (λs=>Classical.choose<|v s) λs n=>du (v s) n⟩;generalize (λs=>Classical.choose<|v s)=R;unfold s8;by_cases b:jQ x.lo x.hi=0
  .rw [bt b];exact V
  rw[bn b];by_cases T:R (if cs=aa then 2 else 3)=aa<;>by_cases S:R (if cs=aa then 0 else 1)=aa<;>simp only[T,S,bK,bE,bS]<;>assumption
def aix(x Z:Iv)(p:Nat)(h:iB 302 [O x,I ac,D (p:Int)]<|O Z):iB 262 [O x,D p]<|O Z:=
 iL (af [.c h])
def aiw{x:Iv}(h:x.iE){p:Nat}(i:8<=p)(C:p<=512):∃ Z,Z.iE/\iB 262 [O x,D (p:Int)] (O Z):=by
 have⟨Z,k,y⟩:=Wf h ac i C;exact⟨Z,k,aix x Z p y⟩
def ah0(x Z:Iv)(p:Nat)(h:iB 302 [O x,I aa,D (p:Int)]<|O Z):iB 263 [O x,D p]<|O Z:=
 iL (af [.c h])
def ahZ{x:Iv}(h:x.iE){p:Nat}(i:8<=p)(C:p<=512):∃ Z,Z.iE/\iB 263 [O x,D (p:Int)] (O Z):=by
 have⟨Z,k,y⟩:=Wf h aa i C;exact⟨Z,k,ah0 x Z p y⟩
def akW:xw:=λ_ _ h i C=>⟨avo h i C,avv h i C,aiw h i C,ahZ h i C,anp h i C⟩
structure qn where
 kind:Int
 a:Int
 b:Int
 n:Int
 cn:Int
 cd:Int
structure kz where
 iK:Int
 iz:List qn
 iR:List Int
 iZ:Int
 params:List RI
def nK:qn:=⟨0,0,0,0,0,0⟩
def CP(o:qn):List E:=[D o.kind,D o.a,D o.b,D o.n,D o.cn,D o.cd]
def H8(o:qn):E:=.agg<|CP o
def oY(l:List qn):E:=.sl aa l.length 6 λi j=>(CP<|l.getD i nK).getD j .any
def pJ(l:List Int):E:=.sl aa l.length 1 λi _=>D<|l.getD i 0
def T9(s:kz):List E:=[D s.iK,oY s.iz,pJ s.iR,D s.iZ,jJ s.params]
def mn(s:kz):E:=.agg<|T9 s
structure qn.jA(o:qn):Prop where
 kind:lN .i64 o.kind
 a:lN .i64 o.a
 b:lN .i64 o.b
 n:lN .i64 o.n
 cn:lN .i64 o.cn
 cd:lN .i64 o.cd
structure kz.jA(s:kz):Prop where
 iK:lN .i64 s.iK
 iz:∀ i,(s.iz.getD i nK).jA
 iR:∀ i,lN .i64<|s.iR.getD i 0
 iZ:lN .i64 s.iZ
 params:∀ i,(s.params.getD i jT).jA
structure kz.nO(s:kz):Prop where
 iz:s.iz.length<=1000
 params:s.params.length<=1000
def lI(o:qn)(m:Int):Bool:=
 if o.kind=1 then nJ o.cn o.cd&&decide (o.a=0/\o.b=0/\o.n=0)
 else if 3<=o.kind/\o.kind<=6 then decide (o.cn=0/\o.cd=0/\0<=o.a/\o.a<m/\0<=o.b/\o.b<m/\o.n=0)
 else if o.kind=8 then decide (o.cn=0/\o.cd=0/\0<=o.a/\o.a<m/\o.b=0/\0<=o.n/\o.n<=16)
 else if o.kind=7\/9<=o.kind/\o.kind<=13 then decide (o.cn=0/\o.cd=0/\0<=o.a/\o.a<m/\o.b=0/\o.n=0)
 else ac
def T3(s:kz):Bool:=(be s.iz.length).all λi=>lI (s.iz.getD i nK)<|s.iK+(i:Int)
def Bz(s:kz)(k:Int):Bool:=decide (0<=k/\k<s.iK+(s.iz.length:Int))
def BJ(s:kz):Bool:=(be s.iR.length).all λi=>Bz s<|s.iR.getD i 0
noncomputable def py(x:RI):Bool:=og x && !x.all
noncomputable def Ic(s:kz):Bool:=(be s.params.length).all λi=>py<|s.params.getD i jT
noncomputable def mR(s:kz):Bool:=decide (0<=s.iK/\s.iK<=8/\s.iz.length<=200/\s.iR.length<=200)&&T3 s&&BJ s
 && decide (1<=s.iZ/\s.iZ<=4/\(s.iR.length:Int)=s.iZ/\s.iK=s.iZ+(s.params.length:Int)/\s.params.length<=4)&&Ic s
noncomputable def Dd(n:Int)(b:List RI):Bool:=decide ((b.length:Int)=n)&&(be b.length).all λi=>py<|b.getD i jT
noncomputable def TY(d:RD):Bool:=@decide d.Ok<|Classical.propDecidable _
def HW{d:RD}:TY d=aa↔d.Ok:=@awn _<|Classical.propDecidable _
def IF{n:Nat}{f:Nat->Bool}(h:¬(be n).all f=aa):∃ N,N<n/\(!f N)=aa/\∀ k,k<N->(!f k)=ac:=by
 refine si ?_;apply b8;intro q;apply h;refine bZ.2 λi x=>?_
 cases hf:f i with
 |true=>rfl
 |false=>exact absurd ⟨i,ca.1 x,by rw[hf];rfl⟩ q
def Vl{n:Nat}{f:Nat->Bool}:((be n).any λi=>!f i) = !((be n).all f):=by
 rw[dW];simp
def asu{s:kz}(h:¬(0<=s.iK/\s.iK<=8/\s.iz.length<=200/\s.iR.length<=200/\1<=s.iZ/\s.iZ<=4/\(s.iR.length:Int)=s.iZ/\s.params.length<=4/\s.iK=s.iZ+(s.params.length:Int))):mR s=ac:=by
 refine bh λq=>h ?_
 unfold mR at q;simp only[bN,cK]at q;have⟨⟨⟨⟨a,_⟩,_⟩,b⟩,_⟩:=q;exact⟨a.1,a.2.1,a.2.2.1,a.2.2.2,b.1,b.2.1,b.2.2.1,b.2.2.2.2,b.2.2.2.1⟩
def qn.v(o:qn):nC:=⟨o.kind.toNat,o.a.toNat,o.b.toNat,o.n.toNat,o.cn,o.cd⟩
def kz.v(s:kz):jS:=⟨⟨s.iK.toNat,s.iz.map qn.v,s.iR.map aN⟩,s.iZ.toNat,s.params.map RI.iv⟩
def pC.of{k a b n m:Nat}{c d:Int}(x:k=1\/3<=k)(A:k<=13)(v:k=1->a=0)(G:¬k=1->a<m)(y:3<=k/\k<=6->b<m)(Q:¬(3<=k/\k<=6)->b=0)(z:k=8->n<=16)(w:¬k=8->n=0)(u:k=1->nJ c d=aa)(i:¬k=1->c=0/\d=0):pC ⟨k,a,b,n,c,d⟩ m:=by
 refine⟨x,A,?_,?_,?_,?_,.inr akW⟩
 .show if k=1 then a=0 else a<m
  split<;>simp_all
 .show if 3<=k/\k<=6 then b<m else b=0
  split
  .rename_i h;exact y h
  .rename_i h;exact Q h
 .show if k=8 then n<=16 else n=0
  split
  .rename_i h;exact z h
  .rename_i h;exact w h
 .show if k=1 then nJ c d=aa else c=0/\d=0
  split
  .rename_i h;exact u h
  .rename_i h;exact i h
def asb{o:qn}{m:Nat}(h:lI o (m:Int)=aa):pC o.v m/\0<=o.kind/\0<=o.a/\0<=o.b/\0<=o.n:=by
 have⟨k,a,b,n,c,d⟩:=o;unfold lI at h;simp only at h;show pC ⟨k.toNat,a.toNat,b.toNat,n.toNat,c,d⟩ m/\0<=k/\0<=a/\0<=b/\0<=n;split at h
 .rename_i x;rw[bN,cK]at h;have⟨r,y,z,u⟩:=h;exact⟨pC.of U U U U U U U U (λ_=>r) U,U,U,U,U⟩
 .rename_i l;split at h
  .rename_i x;have h:=cS h;exact⟨pC.of U U U U U U U U U U,U,U,U,U⟩
  .split at h
   .rename_i x;have h:=cS h;exact⟨pC.of U U U U U U U U U U,U,U,U,U⟩
   .split at h
    .rename_i w x;have h:=cS h;exact⟨pC.of U U U U U U U U U U,U,U,U,U⟩
    .cases h
def asd{o:qn}(h:0<=o.kind)(x:0<=o.a)(y:0<=o.b)(z:0<=o.n):Kr o.v=CP o:=by
 have⟨k,a,b,n,c,d⟩:=o;simp only[Kr,CP,qn.v]at *
 rw[fL h,fL x,fL y,fL z]
def adV{s:kz}(g:s.jA)(h:mR s=aa):mE s.v/\mn s=kH s.v:=by
 unfold mR at h;simp only[bN,cK]at h;have⟨⟨⟨⟨⟨f,R,d,c⟩,z⟩,v⟩,Q,P,e,r,b⟩,t⟩:=h;have z:=bZ.1 z;have v:=bZ.1 v;have t:=bZ.1 t;have M:∀ i,i<s.iz.length->(s.iz.map qn.v).getD i o=(s.iz.getD i nK).v:=λi k=>by simp[bB,k]
 have u:∀ i,i<s.iR.length->(s.iR.map aN).getD i 0=(s.iR.getD i 0).toNat:=λi k=>by simp[bB,k]
 have p:∀ i,i<s.params.length->(s.params.map RI.iv).getD i L=(s.params.getD i jT).iv:=λi k=>by simp[bB,k]
 have q:∀ i,i<s.iz.length->pC (s.iz.getD i nK).v (s.iK.toNat+i)/\0<=(s.iz.getD i nK).kind/\0<=(s.iz.getD i nK).a/\0<=(s.iz.getD i nK).b/\0<=(s.iz.getD i nK).n:=λi k=>by
  have:=z i<|ca.2 k;exact asb<|by rwa[show((s.iK.toNat+i:Nat):Int)=s.iK+(i:Int)by omega]
 have n:∀ i,i<s.iR.length->0<=s.iR.getD i 0/\s.iR.getD i 0<s.iK+(s.iz.length:Int):=λi k=>cS<|v i<|ca.2 k
 have a:∀ i,i<s.params.length->(s.params.getD i jT).Ok/\(s.params.getD i jT).all=ac:=λi k=>by
  have:=t i<|ca.2 k;unfold py at this;rw[bN]at this;exact⟨ux.1 this.1,by simpa using this.2⟩
 refine⟨⟨⟨?_,?_,?_,?_,?_⟩,?_,?_,?_,?_,?_,?_⟩,?_⟩
 .show s.iK.toNat<=8;omega
 .show (s.iz.map qn.v).length<=200;rw[cI];exact d
 .show (s.iR.map aN).length<=200;rw[cI];exact c
 .intro i k;have k:i<s.iz.length:=by simpa[kz.v]using k
  show pC ((s.iz.map qn.v).getD i o) (s.iK.toNat+i);rw[M i k];exact(q i k).1
 .intro i k;have k:i<s.iR.length:=by simpa[kz.v]using k
  show(s.iR.map aN).getD i 0<s.iK.toNat+(s.iz.map qn.v).length;rw[u i k,cI];have:=n i k;omega
 .show 1<=s.iZ.toNat;omega
 .show s.iZ.toNat<=4;omega
 .show (s.iR.map aN).length=s.iZ.toNat;rw[cI];omega
 .show s.iK.toNat=s.iZ.toNat+(s.params.map RI.iv).length;rw[cI];omega
 .show (s.params.map RI.iv).length<=4;rw[cI];exact b
 .intro i k;have k:i<s.params.length:=by simpa[kz.v]using k
  show((s.params.map RI.iv).getD i L).iE/\((s.params.map RI.iv).getD i L).all=ac;rw[p i k];exact⟨(a i k).1.valid,(a i k).2⟩
 .have e:D s.iK=D (s.iK.toNat:Int):=by rw[fL f]
  have r:D s.iZ=D (s.iZ.toNat:Int):=by rw[fL (U:0<=s.iZ)]
  have w:oY s.iz=mf (s.iz.map qn.v):=by
   unfold oY mf;rw[cI];congr 1;funext i j;by_cases k:i<s.iz.length
   .rw [M i k];have⟨_,y,X,Y,Z⟩:=q i k;rw[asd y X Y Z]
   .have N:s.iz.getD i nK=nK:=by rw[bB,cM U];rfl
    have V:(s.iz.map qn.v).getD i o=o:=by rw[bB,cM<|by rw[cI];omega];rfl
    rw[N,V];rfl
  have T:pJ s.iR=mh (s.iR.map aN):=by
   unfold pJ mh;rw[cI];congr 1;funext i j;by_cases k:i<s.iR.length
   .rw [u i k,fL (n i k).1]
   .rw [bB,cM U,bB (l:=s.iR.map aN),cM<|by rw[cI];omega];rfl
  have S:jJ s.params=K (s.params.map RI.iv):=by
   rw[<-So];congr 1;apply awD;intro i;unfold FN;rw[cQ,cQ];by_cases k:i<s.params.length
   .have y:=(a i k).1;have m:=g.params i;rw[bH k];rw[bB,bH k]at y m;exact congrArg some (RI.Ok.eq (x:=s.params[i]) y m).symm
   .rw [cM U];rfl
  show E.agg [D s.iK,oY s.iz,pJ s.iR,D s.iZ,jJ s.params]=_;rw[e,r,w,T,S];rfl
def adT(s:kz)(N:Nat)(x:Nat):PS:=⟨85,aa,[(31,.e<|D x),(30,.e<|D s.iz.length),(29,.e<|oY s.iz),(3,.box 3 0),(1,.box 1 0)],[(3,.cells 25 [D s.iK,oY s.iz,pJ s.iR]),(1,.cells 28 [D s.iK,oY s.iz,pJ s.iR,D s.iZ,jJ s.params])]⟩
def adU(s:kz)(x:Nat):PS:=⟨85,aa,[(31,.e<|D x),(30,.e<|D s.iz.length),(29,.e<|oY s.iz),(3,.box 3 0),(1,.box 1 0)],[(3,.cells 25 [D s.iK,oY s.iz,pJ s.iR]),(1,.cells 28 [D s.iK,oY s.iz,pJ s.iR,D s.iZ,jJ s.params])]⟩
def tO{a b:Bool}(h:a=aa↔b=aa):a=b:=dW.2 h
def nF{a b:Bool}(h:a=b):I a=I b:=h▸rfl
def oq{o:qn}{m:Int}{b:Bool}(h:b=lI o m:=by simp_all[lI,V0]<;>(repeat' split)<;>intros<;>omega):I b=I (lI o m):=nF h
noncomputable def apq(o:qn)(m:Int)(g:o.jA)(C:Bool)(n:C=decide (o.cn=0/\o.cd=0))(l:¬o.a<0)(f:¬o.b<0):Tr prog Tb:=
  .w (o.kind=1)
  (λr=>Y [S 21<|bg r,.c<|N8 o.cn o.cd]<|.w (nJ o.cn o.cd=aa)
   (λy=>Y [S 24 y]<|.w (o.a=0)
    (λh=>Y [S 28<|bg h]<|.w (o.b=0)
     (λk=>Y [S 33<|bg k]<|V (I<|o.n==0) (I<|lI o m) oq)
     (λk=>Y [S 33<|bd k]<|V (I ac) (I<|lI o m) oq))
    (λh=>Y [S 28<|bd h]<|V (I ac) (I<|lI o m) oq))
   (λy=>Y [S 24<|bh y]<|V (I ac) (I<|lI o m) oq))
  (λr=>Y [S 21<|bd r,.j 80 ⟨111,aa,[(40,.e<|I<|decide (3<=o.kind/\o.kind<=6)),(19,.e<|D o.kind),(5,.e<|I C),(2,.box 2 0),(1,.e<|D m)],[(2,.cells 87 [D o.kind,D o.a,D o.b,D o.n,D o.cn,D o.cd])]⟩
   (.w (o.kind=3)
    (λz=>Y [.v 40<|.bool<|bg z]<|.e<|af [S 40 (tO aO:aa=(decide (3<=o.kind/\o.kind<=6)))])
    (λz=>Y [.v 40<|.bool<|bd z]<|.w (o.kind=4)
     (λu=>Y [S 42<|bg u]<|.e<|af [S 40 (tO aO:aa=(decide (3<=o.kind/\o.kind<=6)))])
     (λu=>Y [S 42<|bd u]<|.w (o.kind=5)
      (λv=>Y [S 43<|bg v]<|.e<|af [S 40 (tO aO:aa=(decide (3<=o.kind/\o.kind<=6)))])
      (λv=>Y [S 43<|bd v]<|.e<|af [S 40 (tO aO:(o.kind==6)=(decide (3<=o.kind/\o.kind<=6)))]))))]<|.w (3<=o.kind/\o.kind<=6)
   (λy=>Y [.v 40<|.bool<|bu y]<|.w (C=aa)
    (λh=>Y [S 45 h]<|.w (o.a<m)
     (λk=>Y [S 50<|bu k]<|.w (o.b<m)
      (λx=>Y [S 56<|bu x]<|V (I<|o.n==0) (I<|lI o m) oq)
      (λx=>Y [S 56<|bw x]<|V (I ac) (I<|lI o m) oq))
     (λk=>Y [S 50<|bw k]<|V (I ac) (I<|lI o m) oq))
    (λh=>Y [S 45<|bh h]<|V (I ac) (I<|lI o m) oq))
   (λy=>Y [.v 40<|.bool<|bw y]<|.w (o.kind=8)
    (λh=>Y [S 64<|bg h]<|.w (C=aa)
     (λk=>Y [S 65 k]<|.w (o.a<m)
      (λx=>Y [S 70<|bu x]<|.w (o.b=0)
       (λt=>Y [S 75<|bg t]<|.w (0<=o.n)
        (λs=>Y [S 80<|bu s]<|V (I<|decide (o.n<=16)) (I<|lI o m) oq)
        (λs=>Y [S 80<|bw s]<|V (I ac) (I<|lI o m) oq))
       (λt=>Y [S 75<|bd t]<|V (I ac) (I<|lI o m) oq))
      (λx=>Y [S 70<|bw x]<|V (I ac) (I<|lI o m) oq))
     (λk=>Y [S 65<|bh k]<|V (I ac) (I<|lI o m) oq))
    (λh=>Y [S 64<|bd h,.j 174 ⟨111,aa,[(87,.e<|I<|decide (o.kind=7\/9<=o.kind/\o.kind<=13)),(5,.e<|I C),(2,.box 2 0),(1,.e<|D m)],[(2,.cells 87 [D o.kind,D o.a,D o.b,D o.n,D o.cn,D o.cd])]⟩
   (.w (o.kind=7)
    (λz=>Y [.v 87<|.bool<|bg z]<|.e<|af [S 87 (tO aO:aa=(decide (o.kind=7\/9<=o.kind/\o.kind<=13)))])
    (λz=>Y [.v 87<|.bool<|bd z]<|.w (o.kind=9)
     (λu=>Y [S 89<|bg u]<|.e<|af [S 87 (tO aO:aa=(decide (o.kind=7\/9<=o.kind/\o.kind<=13)))])
     (λu=>Y [S 89<|bd u]<|.w (o.kind=10)
      (λv=>Y [S 90<|bg v]<|.e<|af [S 87 (tO aO:aa=(decide (o.kind=7\/9<=o.kind/\o.kind<=13)))])
      (λv=>Y [S 90<|bd v]<|.w (o.kind=11)
       (λq=>Y [S 91<|bg q]<|.e<|af [S 87 (tO aO:aa=(decide (o.kind=7\/9<=o.kind/\o.kind<=13)))])
       (λq=>Y [S 91<|bd q]<|.w (o.kind=12)
        (λp=>Y [S 92<|bg p]<|.e<|af [S 87 (tO aO:aa=(decide (o.kind=7\/9<=o.kind/\o.kind<=13)))])
        (λp=>Y [S 92<|bd p]<|.e<|af [S 87 (tO aO:(o.kind==13)=(decide (o.kind=7\/9<=o.kind/\o.kind<=13)))]))))))]<|.w (o.kind=7\/9<=o.kind/\o.kind<=13)
     (λk=>Y [.v 87<|.bool<|bu k]<|.w (C=aa)
      (λx=>Y [S 94 x]<|.w (o.a<m)
       (λt=>Y [S 99<|bu t]<|.w (o.b=0)
        (λs=>Y [S 104<|bg s]<|V (I<|o.n==0) (I<|lI o m) oq)
        (λs=>Y [S 104<|bd s]<|V (I ac) (I<|lI o m) oq))
       (λt=>Y [S 99<|bw t]<|V (I ac) (I<|lI o m) oq))
      (λx=>Y [S 94<|bh x]<|V (I ac) (I<|lI o m) oq))
     (λk=>Y [.v 87<|.bool<|bw k]<|V (I ac) (I<|lI o m) oq))))
def Th(o:qn)(m:Int)(g:o.jA):iB 136 [H8 o,D m]<|I<|lI o m:=
 iL (.w (o.a<0)
  (λk=>Y [S 8<|bu k]<|V (I ac) (I<|lI o m) oq)
  (λk=>Y [S 8<|bw k]<|.w (o.b<0)
   (λh=>Y [S 12<|bu h]<|V (I ac) (I<|lI o m) oq)
   (λh=>Y [S 12<|bw h,.g (ack g.cn g.cd rfl:qU prog .eql 85 (.agg [D o.cn,D o.cd]) (.agg [D 0,D 0])<|.bool<|decide (o.cn=0/\o.cd=0))]<|apq o m g (decide (o.cn=0/\o.cd=0)) rfl k h)))
def auj(s:kz)(g:s.jA)(k:Int)(x:0<=s.iK)(y:s.iK<=8)(l:s.iz.length<=200):iB 137 [D k,(.jE 3 λj=>[D s.iK,oY s.iz,pJ s.iR].getD j .any)]<|I<|!Bz s k:=
 iL (.w (k<0)
  (λh=>Y [S 5<|bu h]<|V (I aa) (I<|!Bz s k)<|nF<|by unfold Bz;rw[dW];simp_all)
  (λh=>Y [S 5<|bw h,iN<|s.iK+(s.iz.length:Int)]<|V (I<|decide ((s.iK+(s.iz.length:Int))<=k)) (I<|!Bz s k)<|nF<|by unfold Bz;rw[dW];simp_all))
def aul(x:RI)(g:x.jA):iB 138 [mY x]<|I<|!py x:=by
 have a:=g.lo;have b:=g.hi;by_cases h:x.all=aa
 .have e:py x=ac:=by unfold py;rw[h];simp
  rw[e];exact iL<|af [S 4 h]
 .replace h:x.all=ac:=by simpa using h
  by_cases k:x.lo.Ok
  .by_cases y:x.hi.Ok
   .have v:=k.valid;have t:=y.valid;have u:mY x=O x.iv:=by rw[<-JX,show x.iv.raw=x by show RI.mk x.lo.dy.raw x.hi.dy.raw x.all=x;rw[k.eq a,y.eq b]]
    rw[u];by_cases z:jQ x.lo.dy x.hi.dy<=0
    .have e:py x=aa:=by unfold py;rw[ux.2<|.inr ⟨h,k,y,z⟩,h];rfl
     rw[e];exact iL<|af [S 4 h,.c<|pZ x.iv.lo Z,.c<|pZ x.iv.hi Z,.c<|pE x.iv.lo x.iv.hi Z Z,tF 23 (0<(jQ x.iv.lo x.iv.hi))<|by show ¬0<jQ x.lo.dy x.hi.dy;omega]
    .have e:py x=ac:=by unfold py;rw[show og x=ac by simpa using λq=>(ux.1 q).elim (λq=>by rw[h]at q;exact bm q.1) λq=>z q.2.2.2];rfl
     rw[e];exact iL<|af [S 4 h,.c<|pZ x.iv.lo Z,.c<|pZ x.iv.hi Z,.c<|pE x.iv.lo x.iv.hi Z Z,tT 23 (0<(jQ x.iv.lo x.iv.hi))<|by show 0<jQ x.lo.dy x.hi.dy;omega]
   .have e:py x=ac:=by unfold py;rw[show og x=ac by simpa using λq=>(ux.1 q).elim (λq=>by rw[h]at q;exact bm q.1) λq=>y q.2.2.1];rfl
    rw[e];exact iL<|af [S 4 h,.c<|Gx x.lo Z aa<|by simp[k],.c<|Gx x.hi Z ac<|by simp[y]]
  .have e:py x=ac:=by unfold py;rw[show og x=ac by simpa using λq=>(ux.1 q).elim (λq=>by rw[h]at q;exact bm q.1) λq=>k q.2.1];rfl
   rw[e];exact iL<|af [S 4 h,.c<|Gx x.lo Z ac<|by simp[k]]
def apU(s:kz)(h:0<=s.iK)(x:s.iK<=8)(l:s.iz.length<=200)(u:s.iR.length<=200)(g:s.jA):iB 100 [pJ s.iR,.fn 137 [(.jE 3 λj=>[D s.iK,oY s.iz,pJ s.iR].getD j .any)]]<|I<|!BJ s:=by
 have:=anb aa s.iR.length (λi _=>D<|s.iR.getD i 0) 137 [(.jE 3 λj=>[D s.iK,oY s.iz,pJ s.iR].getD j .any)] (λi=>!Bz s (s.iR.getD i 0)) (λi _=>auj s g _ h x l) (U:s.iR.length<=1000000);rwa[Vl]at this
def acw(f:FuncId)(l:List RI)(h:∀ i,iB f [mY<|l.getD i jT]<|I<|!py (l.getD i jT))(x:l.length<=1000):iB 28 [jJ l,.fn f []]<|I<|!((be l.length).all λi=>py<|l.getD i jT):=by
 have:=Nr aa l.length (λi j=>(AF<|l.getD i jT).getD j .any) f [] (λi=>!py (l.getD i jT)) (λi _=>h i) (U:l.length<=1000000);rwa[Vl]at this
def aun(s:kz)(g:s.jA)(m:s.nO)(c:¬(0<=s.iK/\s.iK<=8/\s.iz.length<=200/\s.iR.length<=200)):iB 78 [mn s]<|I ac:=
 iL (.w (s.iK<0)
  (λk=>af [S 10<|bu k])
  (λk=>Y [S 10<|bw k]<|.w (8<s.iK)
   (λh=>af [S 14<|bu h])
   (λh=>Y [S 14<|bw h]<|.w (200<(s.iz.length:Int))
    (λx=>af [S 20<|bu x])
    (λx=>Y [S 20<|bw x]<|.w (200<(s.iR.length:Int))
     (λy=>af [S 26<|bu y])
     (λy=>.x U)))))
section
variable(s:kz)(g:s.jA)
def auo(m:s.nO)(i:0<=s.iK)(z:s.iK<=8)(l:s.iz.length<=200)(u:s.iR.length<=200)(N:Nat)(o:N<s.iz.length)(j:∀ k,k<N->(lI (s.iz.getD k nK)<|s.iK+(k:Int))=aa)(h:(lI (s.iz.getD N nK)<|s.iK+(N:Int))=ac):iB 78 [mn s]<|I ac:=
 iL (af [tF 10 (s.iK<0) U,tF 14 (8<s.iK) U,tF 20 (200<(s.iz.length:Int)) U,tF 26 (200<(s.iR.length:Int)) U,.s (Sp.jL (adT s N) 0 N U (λx y Y=>by
    have w:=g.iz x;exact iU (af [tT 32 ((x:Int)<s.iz.length) U,iX (x:Int)<|s.iz.length,iN<|s.iK+(x:Int),.c<|Th (s.iz.getD x nK) (s.iK+(x:Int)) w,ai 42 (!(lI (s.iz.getD x nK)<|s.iK+(x:Int)))<|by rw[j x U];rfl,iN<|(x:Int)+1]) aI)
  (λy=>by
    have w:=g.iz N;exact iU (af [tT 32 ((N:Int)<s.iz.length) U,iX (N:Int)<|s.iz.length,iN<|s.iK+(N:Int),.c<|Th (s.iz.getD N nK) (s.iK+(N:Int)) w,ah 42 (!(lI (s.iz.getD N nK)<|s.iK+(N:Int)))<|by rw[h];rfl]) aI) aM:jK 5 Tryz.f78 (adT s N 0) .ret ⟨85,aa,[(2,.e<|I ac)],[]⟩) .nil])
def avC(m:s.nO)(i:0<=s.iK)(y:s.iK<=8)(l:s.iz.length<=200)(z:s.iR.length<=200)(j:∀ k,k<s.iz.length->(lI (s.iz.getD k nK)<|s.iK+(k:Int))=aa):jK 5 Tryz.f78 (adU s 0) (.exit 0) ⟨85,aa,[(3,.box 3 0),(1,.box 1 0)],[(3,.cells 25 [D s.iK,oY s.iz,pJ s.iR]),(1,.cells 28 [D s.iK,oY s.iz,pJ s.iR,D s.iZ,jJ s.params])]⟩:=
 Sp.jL (adU s) 0 s.iz.length U (λx h Y=>by
    have w:=g.iz x;exact iU (af [tT 32 ((x:Int)<s.iz.length) U,iX (x:Int)<|s.iz.length,iN<|s.iK+(x:Int),.c<|Th (s.iz.getD x nK) (s.iK+(x:Int)) w,ai 42 (!(lI (s.iz.getD x nK)<|s.iK+(x:Int)))<|by rw[j x U];rfl,iN<|(x:Int)+1]) aI)
  (λh=>by
    exact iU (af [tF 32 ((s.iz.length:Int)<s.iz.length) U]) aI) aM 
section
variable(m:s.nO)(v:0<=s.iK)(r:s.iK<=8)(l:s.iz.length<=200)(q:s.iR.length<=200)(j:∀ k,k<s.iz.length->(lI (s.iz.getD k nK)<|s.iK+(k:Int))=aa)
noncomputable def UO(t:Tr prog Tb):Tr prog Tb:=by
 exact Y [tF 10 (s.iK<0) U,tF 14 (8<s.iK) U,tF 20 (200<(s.iz.length:Int)) U,tF 26 (200<(s.iR.length:Int)) U,.s (avC s g m v r l q j) .nil,.c<|apU s U U U U g] t
def aup(h:BJ s=ac):iB 78 [mn s]<|I ac:=
 iL (UO s g m v r l q j<|af [ah 47 (!(BJ s))<|by rw[h];rfl])
def auq(u:BJ s=aa)(c:¬(1<=s.iZ/\s.iZ<=4/\(s.iR.length:Int)=s.iZ/\s.iK=s.iZ+(s.params.length:Int)/\s.params.length<=4)):iB 78 [mn s]<|I ac:=by
 have p:=m.params;exact iL (UO s g m v r l q j<|Y [ai 47 (!(BJ s))<|by rw[u];rfl]<|.w (s.iZ<1)
  (λk=>af [S 50<|bu k])
  (λk=>Y [S 50<|bw k]<|.w (4<s.iZ)
   (λh=>af [S 54<|bu h])
   (λh=>Y [S 54<|bw h]<|.w ((s.iR.length:Int)=s.iZ)
    (λx=>Y [S 62<|bj x,iN<|s.iZ+(s.params.length:Int)]<|.w (s.iK=(s.iZ+(s.params.length:Int)))
     (λy=>Y [S 73<|bj y]<|.w (4<(s.params.length:Int))
      (λz=>af [S 79<|bu z])
      (λz=>.x U))
     (λy=>af [S 73<|bk y]))
    (λx=>af [S 62<|bk x]))))
def aur(h:BJ s=aa)(k:1<=s.iZ)(y:s.iZ<=4)(e:(s.iR.length:Int)=s.iZ)(x:s.iK=s.iZ+(s.params.length:Int))(p:s.params.length<=4):iB 78 [mn s]<|I<|Ic s:=by
 have z:=m.params;exact iL<|UO s g m v r l q j<|Y [ai 47 (!(BJ s))<|by rw[h];rfl,tF 50 (s.iZ<1) U,tF 54 (4<s.iZ) U,ai 62 ((s.iR.length:Int) != s.iZ)<|by simp[e],iN<|s.iZ+(s.params.length:Int),ai 73 (s.iK != (s.iZ+(s.params.length:Int)))<|by simp[x],tF 79 (4<(s.params.length:Int)) U,.c<|acw 138 s.params (λi=>aul _<|g.params i) U]<|V (I<|!(!(Ic s))) (I<|Ic s)<|nF aK
end
def afa(m:s.nO):iB 78 [mn s]<|I<|mR s:=by
 by_cases z:0<=s.iK/\s.iK<=8/\s.iz.length<=200/\s.iR.length<=200
 rotate_left
 .rw [show mR s=ac by unfold mR;rw[bw z];rfl];exact aun s g m z
 have⟨i,h,l,x⟩:=z;by_cases c:T3 s=aa
 rotate_left
 .rw [show mR s=ac by unfold mR;rw[bh c];simp];have⟨N,n,v,t⟩:=IF c;exact auo s g m i h l x N n (λk u=>by simpa using t k u)<|by simpa using v
 have j:∀ k,k<s.iz.length->lI (s.iz.getD k nK) (s.iK+(k:Int))=aa:=λk u=>bZ.1 c k<|ca.2 u
 cases hu:BJ s with
 |false=>
  rw[show mR s=ac by unfold mR;rw[hu];simp];exact aup s g m i h l x j hu
 |true=>
  by_cases y:1<=s.iZ/\s.iZ<=4/\(s.iR.length:Int)=s.iZ/\s.iK=s.iZ+(s.params.length:Int)/\s.params.length<=4
  .rw [show mR s=Ic s by unfold mR;rw[bu (⟨i,h,l,x⟩:_/\_),c,hu,bu y];simp];have⟨r,q,e,p,f⟩:=y;exact aur s g m i h l x j hu r q e p f
  .rw [show mR s=ac by unfold mR;rw[bw y];simp];exact auq s g m i h l x j hu y
end
def aea(a:List Iv)(t:Iv)(p:Nat)(n:Nat):PS:=⟨38,aa,[(8,.e<|D<|(a.length:Int)-2-(n:Int)),(7,.box 7 0),(6,.box 6 0),(4,.box 4 0),(0,.e<|K a),(2,.e<|D p)],[(7,.cells 33<|jv<|tI a t p (a.length-1) n),(6,.cells 33 au),(4,.cells 33<|jv t)]⟩
noncomputable def adI(s:jS)(y:List Iv)(t:Iv)(k p:Nat)(i:Nat):PS:=⟨54,aa,[(15,.own 15),(37,.e<|D i),(36,.e<|D ((jb s y p<|k+1).length:Int)),(35,.e<|kX<|jb s y p<|k+1),(14,.box 14 0),(3,.e<|D k),(4,.e<|D p)],[(15,.row aa 33 i 7<|jf<|(be i).map λi=>B (((jb s y p<|k+1).getD i []).getD (k+1) L) (jO t (k+1) p) p),(14,.cells 33<|jv<|jO t (k+1) p)]⟩
section
variable(s:jS)(x y:List Iv)(t:Iv)(k p:Nat)(i:Nat)
noncomputable def Vv:PS:=⟨89,aa,[(17,.own 17),(65,.e<|D i),(64,.e<|D ((jb s x p k).length:Int)),(16,.e<|K<|kW s y t k p),(14,.e<|kX<|jb s x p k),(9,.box 9 0),(5,.e<|D p)],[(17,.row aa 33 i 7<|jf<|(be i).map λi=>jN (nv ((jb s x p k).getD i []) t p) ((kW s y t k p).getD i L) p),(9,.cells 33<|jv t)]⟩
noncomputable def Vw:PS:=⟨89,aa,[(17,.own 17),(65,.e<|D i),(64,.e<|D ((jb s x p k).length:Int)),(16,.e<|K<|kW s y t k p),(14,.e<|kX<|jb s x p k),(9,.box 9 0),(5,.e<|D p)],[(17,.row aa 33 i 7<|jf<|(be i).map λi=>jN (nv ((jb s x p k).getD i []) t p) ((kW s y t k p).getD i L) p),(9,.cells 33<|jv t)]⟩
end
section
variable(s:jS)(x:List Iv)(h:mE s)(z:kJ s.iZ x)
def VY:iB 79 [K x,(.jE 5 λj=>[D s.tape.iK,mf s.tape.iz,mh s.tape.iR,D s.iZ,K s.params].getD j .any)]<|I ac:=by
 have k:=h.s1;have y:=h.s4;have l:=z.len;exact iL<|af [.c<|Ey x U U z.ok,ai 12 ((x.length:Int) != (s.iZ:Int))<|zw]
def BV:iB 30 [kH s,(.sl aa 1 1 λk j=>[K x].getD (k*1+j)<|.v<|.bool ac)]<|I aa:=
 iL (af [.c<|Il s h,.c (KQ aa 1 _ 79 [(.jE 5 λj=>[D s.tape.iK,mf s.tape.iz,mh s.tape.iR,D s.iZ,K s.params].getD j .any)] (λ_=>ac) (λi y=>by obtain rfl:i=0:= U;exact VY s _ h Z) U λ_ _=>rfl:iB 10 [(.sl aa 1 1 λk j=>[K x].getD (k*1+j)<|.v<|.bool ac),.fn 79 [(.jE 5 λj=>[D s.tape.iK,mf s.tape.iz,mh s.tape.iR,D s.iZ,K s.params].getD j .any)]] _)])
section
variable(y:List Iv)(k:kJ s.iZ y)
def amd:iB 10 [kX [x,y],.fn 79 [(.jE 5 λj=>[D s.tape.iK,mf s.tape.iz,mh s.tape.iR,D s.iZ,K s.params].getD j .any)]]<|I ac:=
 KQ aa 2 (λi _=>K<|[x,y].getD i []) 79 _ (λ_=>ac) (λi k=>by obtain rfl|rfl:i=0\/i=1:= U <;>exact VY s _ h Z) U (λ_ _=>rfl)
def VZ:iB 30 [kH s,kX [x,y]]<|I aa:=
 iL (af [.c<|Il s h,.c<|amd s x h z y k])
end
end
def FI(p:Int):iB 31 [D p]<|I<|decide (8<=p)&&decide (p<=512):=
 iL (.w (8<=p)
  (λk=>Y [S 4<|bu k]<|V (I<|decide (p<=512)) (I<|decide (8<=p)&&decide (p<=512))<|nF<|by simp[k])
  (λk=>Y [S 4<|bw k]<|V (I ac) (I<|decide (8<=p)&&decide (p<=512))<|nF<|by simp[k]))
def Kv(k:Int):iB 32 [D k]<|I<|decide (1<=k)&&decide (k<=15):=
 iL (.w (1<=k)
  (λh=>Y [S 4<|bu h]<|V (I<|decide (k<=15)) (I<|decide (1<=k)&&decide (k<=15))<|nF<|by simp[h])
  (λh=>Y [S 4<|bw h]<|V (I ac) (I<|decide (1<=k)&&decide (k<=15))<|nF<|by simp[h]))
def AB(p:Nat)(h:8<=p:=by omega)(x:p<=512:=by omega):iB 31 [D (p:Int)]<|I aa:=by
 have:=FI (p:Int);rwa[show(decide (8<=(p:Int))&&decide ((p:Int)<=512))=aa from aS]at this
def AA(k:Nat)(h:1<=k:=by omega)(x:k<=15:=by omega):iB 32 [D (k:Int)]<|I aa:=by
 have:=Kv (k:Int);rwa[show(decide (1<=(k:Int))&&decide ((k:Int)<=15))=aa from aS]at this
def OL(t:Iv)(h:t.iE)(a:t.all=ac)(x:0<=t.lo.jh):iB 33 [O t]<|I aa:=by
 have⟨w,k⟩:=h.kN;exact iL<|af [S 4 a,.c<|rL t Z,.c<|oC t.lo Z,S 14<|bu x]
def Ui(a:List Iv)(t:Iv)(n p:Nat)(u:1<=n)(f:n<=17)(x:kV n a)(s:t.iE)(I:8<=p)(C:p<=512):iB 15 [K a,O t,D p]<|O<|nv a t p:=by
 have l:=x.len;have v:=x.ok 0;have k:=x.ok<|a.length-1;exact iL (Y [.o 10 (.e<|DU _:aj (.sl aa 1 1 λi j=>[K a].getD (i*1+j)<|.v<|.bool ac)<|kX [a]),.c<|yJ [a] n U U aK<|Db Z,
  iN ((a.length:Int)-1),.o 17<|oI ((a.length:Int)-1) ((a.length-1:Nat):Int),iX ((a.length-1:Nat):Int)<|a.length,iN<|(a.length:Int)-2,.s (Sp.jL (aea a t p) 0 (a.length-1) U (λn y z=>by
    have r:=RL (h:=t) (m:=a.length-1) (U:1<=p) (U:p<=4096) x.ok n;have q:=x.ok<|a.length-1-(n+1);have g:(B (tI a t p (a.length-1) n) t p).iE:=nZ _ _ U U;have e:((a.length:Int)-2-(n:Int)).toNat=a.length-1-(n+1):= U ;exact iU (Y [tT 24 (0<=((a.length:Int)-2-(n:Int))) U,.o 28<|oI ((a.length:Int)-2-(n:Int)) ((a.length-1-(n+1):Nat):Int),
     iX ((a.length-1-(n+1):Nat):Int) (a.length),.c<|uo (tI a t p (a.length-1) n) t p Z Z,.c<|yb (a.getD (a.length-1-(n+1)) L) (B (tI a t p (a.length-1) n) t p) p Z Z,iN<|((a.length:Int)-2-(n:Int))-1]<|.e<|af [.o 8<|oI (((a.length:Int)-2-(n:Int))-1)<|(a.length:Int)-2-((n+1:Nat):Int),.b 7<|.refl<|.cells 33<|jv<|tI a t p (a.length-1)<|n+1]) aI)
  (λy=>by
    exact iU (af [tF 24 (0<=((a.length:Int)-2-((a.length-1:Nat):Int))) U]) aI) aM:jK 5 Tryz.f15 (aea a t p 0) (.exit 0) ⟨38,aa,[(7,.box 7 0),(6,.box 6 0)],[(7,.cells 33<|jv<|tI a t p (a.length-1)<|a.length-1),(6,.cells 33 au)]⟩)<|af [.o 8<|oI ((a.length:Int)-2)<|(a.length:Int)-2-((0:Nat):Int),.b 7<|.refl<|.cells 33<|jv<|tI a t p (a.length-1) 0]]<|rR (O<|nv a t p) (.jB rfl:E.le (O<|tI a t p (a.length-1)<|a.length-1)<|O<|nv a t p))
def anH(x:Iv):iB 81 [O x]<|I x.all:=
 iL (.nil)
def Fx(b:List Iv):E:=if mU b then .iO [.v<|.slice am 0 0,D 11]else .iO [K b,D 0]
def aaP(b:List Iv)(h:b.length<=1000):iB 35 [K b]<|Fx b:=
 iL (Y [.c (Nr aa _ _ 81 [] (λi=>(b.getD i L).all) (λi _=>anH _) U:iB 28 [K b,.fn 81 []] _)]<|.w (mU b=aa)
  (λk=>Y [S 5 k]<|V (.iO [.v<|.slice am 0 0,D 11]) (Fx b)<|by unfold Fx;rw[show mU b=aa from k];rfl)
  (λk=>Y [S 5<|bh k]<|V (.iO [K b,D 0]) (Fx b)<|by unfold Fx;rw[show mU b=ac from bh k];rfl))
def Oj(s:jS)(y:List Iv)(t:Iv)(k p:Nat)(h:mE s)(x:kJ s.iZ y)(z:t.iE)(l:1<=k)(q:k<=15)(I:8<=p)(C:p<=512):iB 34 [kH s,K y,O t,D k,D p]<|.iO [K<|kW s y t k p,D 0]:=by
 have e:=sf s y p<|k+1;have m:=h.s1;have g:=h.s4;have f:=x.len;have v:=FJ z (k+1) (U:1<=p) (U:p<=4096);exact iL (Y [iN<|(k:Int)+1,.c<|IQ s y (k+1) p h Z I C,tM 28 0 0,iN<|(k:Int)+1,.c<|Gj t (k+1) p Z,.y 15 15 aa 33 7<|jf<|(be 0).map λi=>B (((jb s y p<|k+1).getD i []).getD (k+1) L) (jO t (k+1) p) p,.s (Sp.jL (adI s y t k p) 0 ((jb s y p<|k+1).length) U (λi r o=>by
    have u:=yd h x I C (k+1) U i U;have J:=u.len;have d:=u.ok<|k+1;have v:=FJ z (k+1) (U:1<=p) (U:p<=4096);have c:=oh<|B (((jb s y p<|k+1).getD i []).getD (k+1) L) (jO t (k+1) p) p;exact iU (Y [tT 38 ((i:Int)<((jb s y p<|k+1).length:Int)) U,iX (i:Int)<|(jb s y p<|k+1).length,iN<|(k:Int)+1,
     iX ((k+1:Nat):Int) (((jb s y p<|k+1).getD i []).length),.c<|uo (((jb s y p<|k+1).getD i []).getD (k+1) L) (jO t (k+1) p) p Z Z,.o 50<|.e<|lM<|B (((jb s y p<|k+1).getD i []).getD (k+1) L) (jO t (k+1) p) p,.a (U:(i+[B (((jb s y p<|k+1).getD i []).getD (k+1) L) (jO t (k+1) p) p].length)*88<=140737488355328),iN<|(i:Int)+1]<|.e<|af [.b 15<|ub 33 i λi=>B (((jb s y p<|k+1).getD i []).getD (k+1) L) (jO t (k+1) p) p]) aI)
  (λr=>by
    exact iU (Y [tF 38 (((jb s y p<|k+1).length:Int)<((jb s y p<|k+1).length:Int)) U,.z 15]<|.e<|af [.o 15<|.e<|uO (n:=(jb s y p<|k+1).length) (M:=(be<|(jb s y p<|k+1).length).map λi=>B (((jb s y p<|k+1).getD i []).getD (k+1) L) (jO t (k+1) p) p) aK]) aI) aM:jK 7 Tryz.f34 (adI s y t k p 0) (.exit 0) ⟨54,aa,[(15,.e<|K<|(be<|(jb s y p<|k+1).length).map λi=>B (((jb s y p<|k+1).getD i []).getD (k+1) L) (jO t (k+1) p) p)],[]⟩) .nil]<|V (.iO [K<|(be<|(jb s y p<|k+1).length).map λi=>B (((jb s y p<|k+1).getD i []).getD (k+1) L) (jO t (k+1) p) p,D 0]) (.iO [K<|kW s y t k p,D 0])<|by unfold kW lj;rw[e])
def aaO{b:List Iv}(h:mU b=aa)(l:b.length<=1000):iB 35 [K b]<|.iO [.v<|.slice am 0 0,D 11]:=by
 have:=aaP b l;unfold Fx at this;rwa[h]at this
def aaN{b:List Iv}(h:mU b=ac)(l:b.length<=1000):iB 35 [K b]<|.iO [K b,D 0]:=by
 have:=aaP b l;unfold Fx at this;rwa[h]at this
def BI(s:jS)(y:List Iv)(t:Iv)(k p:Nat):(kW s y t k p).length=y.length:=wR _ _
def FR{s:jS}{y:List Iv}{t:Iv}{k p:Nat}(I:8<=p)(C:p<=512){i:Nat}(h:i<y.length):((kW s y t k p).getD i L).iE:=by
 unfold kW;rw[Dt h];exact nZ _ _ U U 
def I6{a:List Iv}{t:Iv}{p:Nat}(h:1<=p)(i:p<=4096)(v:ns a):(nv a t p).iE:=RL h i v _
section
variable(s:jS)(x y:List Iv)(t:Iv)(k p:Nat)
section
variable(h:mE s)(a:kJ s.iZ x)(j:kJ s.iZ y)(b:t.iE)(w:t.all=ac)(X:0<=t.lo.jh)(E:1<=k)(T:k<=15)(d:8<=p)(c:p<=512)
def Ps(Q:mU (mG s x y t k p)=ac):iB 6 [kH s,K x,K y,O t,D k,D p]<|.iO [K<|mG s x y t k p,D 0]:=by
 have e:=sf s x p k;have C:=BI s y t k p;have v:=h.s1;have r:=h.s4;have l:=a.len;have q:=j.len;have A:((be (jb s x p k).length).map λi=>jN (nv ((jb s x p k).getD i []) t p) ((kW s y t k p).getD i L) p)=mG s x y t k p:=by unfold mG lj;rw[e]
 have B:=Q;rw[<-A]at B ⊢;exact iL (af [.o 23<|.e<|CB x y,.c<|VZ s x h Z y Z,.c<|AB p,.c<|AA k,.c<|OL t b w X,.c<|IQ s x k p h Z d c,tM 49 0 0,.c<|Oj s y t k p h j b E T d c,tM 61 0 0,.y 17 17 aa 33 7<|jf<|(be 0).map λi=>jN (nv ((jb s x p k).getD i []) t p) ((kW s y t k p).getD i L) p,.s (Sp.jL (Vv s x y t k p) 0 ((jb s x p k).length) U (λi u o=>by
    have z:=yd h a d c k U i U;have J:=z.len;have C:=BI s y t k p;have m:=I6 (t:=t) (U:1<=p) (U:p<=4096) z.ok;have g:=FR (s:=s) (t:=t) (k:=k) d c (y:=y) (i:=i) U;have f:=oh<|jN (nv ((jb s x p k).getD i []) t p) ((kW s y t k p).getD i L) p;exact iU (Y [tT 66 ((i:Int)<((jb s x p k).length:Int)) U,iX (i:Int)<|(jb s x p k).length,.c<|Ui ((jb s x p k).getD i []) t (k+1) p U U z b d c,
     iX (i:Int) ((kW s y t k p).length),.c<|yb (nv ((jb s x p k).getD i []) t p) ((kW s y t k p).getD i L) p Z Z,.o 82<|.e<|lM<|jN (nv ((jb s x p k).getD i []) t p) ((kW s y t k p).getD i L) p,.a (U:(i+[jN (nv ((jb s x p k).getD i []) t p) ((kW s y t k p).getD i L) p].length)*88<=140737488355328),iN<|(i:Int)+1]<|.e<|af [.b 17<|ub 33 i λi=>jN (nv ((jb s x p k).getD i []) t p) ((kW s y t k p).getD i L) p]) aI)
  (λu=>by
    exact iU (Y [tF 66 (((jb s x p k).length:Int)<((jb s x p k).length:Int)) U,.z 17]<|.e<|af [.o 17<|.e<|uO (n:=(jb s x p k).length) (M:=(be<|(jb s x p k).length).map λi=>jN (nv ((jb s x p k).getD i []) t p) ((kW s y t k p).getD i L) p) aK]) aI) aM:jK 13 Tryz.f6 (Vv s x y t k p 0) (.exit 1) ⟨89,aa,[(17,.e<|K<|(be<|(jb s x p k).length).map λi=>jN (nv ((jb s x p k).getD i []) t p) ((kW s y t k p).getD i L) p)],[]⟩) .nil,.c<|aaN B aS])
def Vx(Q:mU (mG s x y t k p)=aa):iB 6 [kH s,K x,K y,O t,D k,D p]<|.iO [.v<|.slice am 0 0,D 11]:=by
 have e:=sf s x p k;have C:=BI s y t k p;have v:=h.s1;have r:=h.s4;have l:=a.len;have q:=j.len;have A:((be (jb s x p k).length).map λi=>jN (nv ((jb s x p k).getD i []) t p) ((kW s y t k p).getD i L) p)=mG s x y t k p:=by unfold mG lj;rw[e]
 have B:=Q;rw[<-A]at B;exact iL (af [.o 23<|.e<|CB x y,.c<|VZ s x h Z y Z,.c<|AB p,.c<|AA k,.c<|OL t b w X,.c<|IQ s x k p h Z d c,tM 49 0 0,.c<|Oj s y t k p h j b E T d c,tM 61 0 0,.y 17 17 aa 33 7<|jf<|(be 0).map λi=>jN (nv ((jb s x p k).getD i []) t p) ((kW s y t k p).getD i L) p,.s (Sp.jL (Vw s x y t k p) 0 ((jb s x p k).length) U (λi u o=>by
    have z:=yd h a d c k U i U;have J:=z.len;have C:=BI s y t k p;have m:=I6 (t:=t) (U:1<=p) (U:p<=4096) z.ok;have g:=FR (s:=s) (t:=t) (k:=k) d c (y:=y) (i:=i) U;have f:=oh<|jN (nv ((jb s x p k).getD i []) t p) ((kW s y t k p).getD i L) p;exact iU (Y [tT 66 ((i:Int)<((jb s x p k).length:Int)) U,iX (i:Int)<|(jb s x p k).length,.c<|Ui ((jb s x p k).getD i []) t (k+1) p U U z b d c,
     iX (i:Int) ((kW s y t k p).length),.c<|yb (nv ((jb s x p k).getD i []) t p) ((kW s y t k p).getD i L) p Z Z,.o 82<|.e<|lM<|jN (nv ((jb s x p k).getD i []) t p) ((kW s y t k p).getD i L) p,.a (U:(i+[jN (nv ((jb s x p k).getD i []) t p) ((kW s y t k p).getD i L) p].length)*88<=140737488355328),iN<|(i:Int)+1]<|.e<|af [.b 17<|ub 33 i λi=>jN (nv ((jb s x p k).getD i []) t p) ((kW s y t k p).getD i L) p]) aI)
  (λu=>by
    exact iU (Y [tF 66 (((jb s x p k).length:Int)<((jb s x p k).length:Int)) U,.z 17]<|.e<|af [.o 17<|.e<|uO (n:=(jb s x p k).length) (M:=(be<|(jb s x p k).length).map λi=>jN (nv ((jb s x p k).getD i []) t p) ((kW s y t k p).getD i L) p) aK]) aI) aM:jK 13 Tryz.f6 (Vw s x y t k p 0) (.exit 1) ⟨89,aa,[(17,.e<|K<|(be<|(jb s x p k).length).map λi=>jN (nv ((jb s x p k).getD i []) t p) ((kW s y t k p).getD i L) p)],[]⟩) .nil,.c<|aaO B aS])
end
def LA:(mG s x y t k p).length=x.length:=wR _ _
end
def Q8{b:List Iv}(h:mU b=ac){i:Nat}(x:i<b.length):(b.getD i L).all=ac:=by
 have:=dt.1 h i<|ca.2 x;simpa using this
def LB{s:jS}{x y:List Iv}{t:Iv}{k p:Nat}(h:mE s)(u:kJ s.iZ x)(v:kJ s.iZ y)(q:k<=15)(I:8<=p)(C:p<=512)(n:mU (mG s x y t k p)=ac):kJ s.iZ<|mG s x y t k p:=by
 refine⟨by rw[LA,u.len],λi z=>⟨?_,Q8 n z⟩⟩;rw[LA]at z;have r:=yd h u I C k U i (by rw[sf];exact z);unfold mG;rw[Dt z];exact sN (I6 U U r.ok) (FR I C<|by rw[v.len,<-u.len];exact z) U U 
section
variable(s:jS)(x:List Iv)(h:mE s)(v:kJ s.iZ x)(p:Nat)(i:8<=p)(C:p<=512)(k:Nat)(d:Dy)(y:d.iE)(z:0<d.jh)(l:1<=k)(r:k<=15)
def av7(E:iB 69 [kH s,K x,iJ d,D p]<|.iO [.v<|.slice am 0 0,D 12]):iB 23 [kH s,K x,iJ d,D k,D p]<|.iO [.v<|.slice am 0 0,.v<|.slice am 0 0,D 12]:=by
 have y:=h.s1;have z:=h.s4;have l:=v.len;exact iL<|af [.c<|BV s x h Z,.c<|pZ d Z,.c<|oC d Z,tF 29 ((Dy.jh d)<=0) U,.c<|AB p,.c<|AA k,.c E,ah 49 ((12:Int) != 0) aG]
section
variable(b:List Iv)(E:iB 69 [kH s,K x,iJ d,D p]<|.iO [K b,D 0])
section
variable(u:List Iv)(t:0<u.length)(T:iB 70 [kH s,K x,iJ d,K b,D 4,D (p:Int)]<|K u)
def atN(A:iB 6 [kH s,K x,K u,O<|lp d,D (k:Int),D (p:Int)]<|.iO [.v<|.slice am 0 0,D 11]):iB 23 [kH s,K x,iJ d,D k,D p]<|.iO [.v<|.slice am 0 0,.v<|.slice am 0 0,D 11]:=by
 have y:=h.s1;have z:=h.s4;have l:=v.len;exact iL<|af [.c<|BV s x h Z,.c<|pZ d Z,.c<|oC d Z,tF 29 ((Dy.jh d)<=0) U,.c<|AB p,.c<|AA k,.c E,tM 49 0 0,.c T,ai 59 ((u.length:Int)==0) (J6 λq=>by rw[q]at t;exact dL _ t),.c<|xg d Z,.c A,ah 73 ((11:Int) != 0) aG]
def atO(w:List Iv)(A:iB 6 [kH s,K x,K u,O<|lp d,D (k:Int),D (p:Int)]<|.iO [K w,D 0])(M:iB 71 [K w,K u]<|.iO [.v<|.slice am 0 0,I ac]):iB 23 [kH s,K x,iJ d,D k,D p]<|.iO [.v<|.slice am 0 0,.v<|.slice am 0 0,D 1]:=by
 have y:=h.s1;have z:=h.s4;have l:=v.len;exact iL<|af [.c<|BV s x h Z,.c<|pZ d Z,.c<|oC d Z,tF 29 ((Dy.jh d)<=0) U,.c<|AB p,.c<|AA k,.c E,tM 49 0 0,.c T,ai 59 ((u.length:Int)==0) (J6 λq=>by rw[q]at t;exact dL _ t),.c<|xg d Z,.c A,tM 73 0 0,.c M]
def atP(w m:List Iv)(A:iB 6 [kH s,K x,K u,O<|lp d,D (k:Int),D (p:Int)]<|.iO [K w,D 0])(M:iB 71 [K w,K u]<|.iO [K m,I aa]):iB 23 [kH s,K x,iJ d,D k,D p]<|.iO [K u,K m,D 0]:=by
 have y:=h.s1;have z:=h.s4;have l:=v.len;exact iL<|af [.c<|BV s x h Z,.c<|pZ d Z,.c<|oC d Z,tF 29 ((Dy.jh d)<=0) U,.c<|AB p,.c<|AA k,.c E,tM 49 0 0,.c T,ai 59 ((u.length:Int)==0) (J6 λq=>by rw[q]at t;exact dL _ t),.c<|xg d Z,.c A,tM 73 0 0,.c M]
end
section
variable(T:iB 70 [kH s,K x,iJ d,K b,D 4,D (p:Int)]<|.v<|.slice am 0 0)
def atK(A:iB 6 [kH s,K x,K b,O<|lp d,D (k:Int),D (p:Int)]<|.iO [.v<|.slice am 0 0,D 11]):iB 23 [kH s,K x,iJ d,D k,D p]<|.iO [.v<|.slice am 0 0,.v<|.slice am 0 0,D 11]:=by
 have y:=h.s1;have z:=h.s4;have l:=v.len;exact iL<|af [.c<|BV s x h Z,.c<|pZ d Z,.c<|oC d Z,tF 29 ((Dy.jh d)<=0) U,.c<|AB p,.c<|AA k,.c E,tM 49 0 0,.c T,tE 59 0 0,.c<|xg d Z,.c A,ah 73 ((11:Int) != 0) aG]
def atL(w:List Iv)(A:iB 6 [kH s,K x,K b,O<|lp d,D (k:Int),D (p:Int)]<|.iO [K w,D 0])(M:iB 71 [K w,K b]<|.iO [.v<|.slice am 0 0,I ac]):iB 23 [kH s,K x,iJ d,D k,D p]<|.iO [.v<|.slice am 0 0,.v<|.slice am 0 0,D 1]:=by
 have y:=h.s1;have z:=h.s4;have l:=v.len;exact iL<|af [.c<|BV s x h Z,.c<|pZ d Z,.c<|oC d Z,tF 29 ((Dy.jh d)<=0) U,.c<|AB p,.c<|AA k,.c E,tM 49 0 0,.c T,tE 59 0 0,.c<|xg d Z,.c A,tM 73 0 0,.c M]
def atM(w m:List Iv)(A:iB 6 [kH s,K x,K b,O<|lp d,D (k:Int),D (p:Int)]<|.iO [K w,D 0])(M:iB 71 [K w,K b]<|.iO [K m,I aa]):iB 23 [kH s,K x,iJ d,D k,D p]<|.iO [K b,K m,D 0]:=by
 have y:=h.s1;have z:=h.s4;have l:=v.len;exact iL<|af [.c<|BV s x h Z,.c<|pZ d Z,.c<|oC d Z,tF 29 ((Dy.jh d)<=0) U,.c<|AB p,.c<|AA k,.c E,tM 49 0 0,.c T,tE 59 0 0,.c<|xg d Z,.c A,tM 73 0 0,.c M]
end
end
end
def aeV:Int ⊕ (List Iv×List Iv)->E
 | .inl e=>.iO [.v<|.slice am 0 0,.v<|.slice am 0 0,D e]
 | .inr q=>.iO [K q.1,K q.2,D 0]
def vH{d:Dy}(h:d.iE):(lp d).iE:=.inr ⟨rfl,h,h,by show jQ d d<=0;rw[rN];exact cP⟩
noncomputable def OF(s:jS)(x:List Iv)(d:Dy)(b:List Iv)(k p:Nat):Int ⊕ (List Iv×List Iv):=
 if mU (mG s x (rP s x d b p) (lp d) k p)then .inl 11
 else if Hg (mG s x (rP s x d b p) (lp d) k p) (rP s x d b p)then .inr (rP s x d b p,ur (mG s x (rP s x d b p) (lp d) k p)<|rP s x d b p)else .inl 1
def atJ(s:jS)(x:List Iv)(h:mE s)(v:kJ s.iZ x)(p:Nat)(i:8<=p)(C:p<=512)(k:Nat)(d:Dy)(r:d.iE)(m:0<d.jh)(E:1<=k)(u:k<=15)(b:List Iv)(c:kJ s.iZ b)(a:Fa s x d b p=aa)(g:iB 69 [kH s,K x,iJ d,D p]<|.iO [K b,D 0]):iB 23 [kH s,K x,iJ d,D (k:Int),D (p:Int)]<|aeV<|OF s x d b k p:=by
 have Q:=h.s1;have V:=h.s4;have f:=afw (d:=d) v (U:1<=p) (U:p<=4096) c;have X:=f.len;have Y:0<=(lp d).lo.jh:=by show 0<=d.jh;omega
 have T:(∃ _:0<(rP s x d b p).length,iB 70 [kH s,K x,iJ d,K b,D 4,D (p:Int)]<|K<|rP s x d b p)\/(rP s x d b p=b/\iB 70 [kH s,K x,iJ d,K b,D 4,D (p:Int)] (.v<|.slice am 0 0)):=by
  by_cases j:∀ k,k<4->qP s x d b p (k+1)≠[]
  .left;have e:rP s x d b p=qP s x d b p 4:=by unfold rP;rw[bt j]
   refine⟨U,?_⟩;rw[e];exact auF s x d b 4 p h v r m c i C aG a j
  .right;refine⟨by unfold rP;rw[bn j],?_⟩;have⟨N,z,y,Z⟩:=si (p:=λk=>decide (qP s x d b p (k+1)=[])) (n:=4) (by
    apply b8;intro q;exact j λk u e=>q ⟨k,u,bu e⟩)
   exact auG s x d b 4 p h v r m c i C aG a N z (λk u=>fk<|Z k u)<|cS y
 unfold OF;cases hA:mU (mG s x (rP s x d b p) (lp d) k p)with
 |true=>
  have z:=Vx s x (rP s x d b p) (lp d) k p h v f (vH r) rfl Y E u i C hA;simp only[bK,aeV];rcases T with⟨l,T⟩|⟨e,T⟩
  .exact atN s x h v p i C k d r m E u b g _ l T z
  .rw [e]at z;exact atK s x h v p i C k d r m E u b g T z
 |false=>
  have z:=Ps s x (rP s x d b p) (lp d) k p h v f (vH r) rfl Y E u i C hA;have o:=LB (t:=lp d) (k:=k) h v f u i C hA;have S:=o.len;have y:=ahM (mG s x (rP s x d b p) (lp d) k p) (rP s x d b p) U U U o.ok f.ok;unfold SM at y;simp only[bS,bE];cases hM:Hg (mG s x (rP s x d b p) (lp d) k p) (rP s x d b p)with
  |true=>
   rw[hM]at y;simp only[bK]at y ⊢;rcases T with⟨l,T⟩|⟨e,T⟩
   .exact atP s x h v p i C k d r m E u b g _ l T _ _ z y
   .generalize mG s x (rP s x d b p) (lp d) k p=w at z y ⊢;rw[e]at z y ⊢;exact atM s x h v p i C k d r m E u b g T _ _ z y
  |false=>
   rw[hM]at y;simp only[bS,bE]at y ⊢;rcases T with⟨l,T⟩|⟨e,T⟩
   .exact atO s x h v p i C k d r m E u b g _ l T _ z y
   .generalize mG s x (rP s x d b p) (lp d) k p=w at z y ⊢;rw[e]at z y;exact atL s x h v p i C k d r m E u b g T _ z y
def acn{a b c d e f:Int}(k:lN .i64 a)(y:lN .i64 b)(z:lN .i64 c)(u:lN .i64 d)(v:lN .i64 e)(t:lN .i64 f):
 prog.keyLits 10 87 [.int .i64 a,.int .i64 b,.int .i64 c,.int .i64 d,.int .i64 e,.int .i64 f]=some [.int .i64 a,.int .i64 b,.int .i64 c,.int .i64 d,.int .i64 e,.int .i64 f]:=by
 have s:prog.cellsOf 87=6:= aI ;have h:prog.cellsOf 3=1:= aI ;have x:prog.cellsOf 85=2:= aI ;have r:prog.keyLits 9 85 [.int .i64 e,.int .i64 f]=some [.int .i64 e,.int .i64 f]:=by
  unfold Program.keyLits;rw[underlying85];simp[x,h,gE,DP v,DP t]
 unfold Program.keyLits;rw[underlying87];simp[s,h,x,gE,DP k,DP y,DP z,DP u,r]
def NU{a b c d e f h b' c' x k y:Int}(v:lN .i64 a)(t:lN .i64 b)(s:lN .i64 c)(r:lN .i64 d)(q:lN .i64 e)(p:lN .i64 f)(G:lN .i64 h)(m:lN .i64 b')(A:lN .i64 c')(E:lN .i64 x)(z:lN .i64 k)(u:lN .i64 y):
 qU prog .eql 87 (.agg [D a,D b,D c,D d,D e,D f]) (.agg [D h,D b',D c',D x,D k,D y]) (.bool<|decide (a=h/\b=b'/\c=c'/\d=x/\e=k/\f=y)):=
 apn (acn v t s r q p) (acn G m A E z u) aI aI rfl
def yp:lN .i64 0:=by unfold lN;decide
def auZ{d:Int}(x:0<=d)(h:d<=1073741824):IntKind.u64.wrap d=(d.natAbs:Int):=by rw[IntKind.wrap_u64];omega
def WG{a b:Nat}:0<=kT a b↔b<=a:=by
 unfold kT;split
 .simp;omega
 .split<;>simp<;>omega
def acU(m n:Nat)(l:(iy m).length<=1000)(x:n<=65536):iB 198 [F<|iy m,D (n:Int)]<|F<|iy<|m*2^n:=
 Kx (lW m) call198 (λA c w h _=>arz A c (iy m) n w h l x) λA c B w e k h y r=>by rw[kE]at r;exact rl B w e k y r
section
variable(m n:Nat)(l:(iy m).length<=3000)
def aqU(x:(iy n).length<=3000):iB 199 [F<|iy m,F<|iy n]<|F<|iy<|m+n:=
 D5 (lW m) (lW n) call199 (λA c B d w h k _=>arC A B c d (iy m) (iy n) w h k l x) λB w e y z r=>by rw[kE,kE]at r;exact rl B w e y z r
def acV(x:n<=m):iB 200 [F<|iy m,F<|iy n]<|F<|iy<|m-n:=
 D5 (lW m) (lW n) call200 (λA c B d w h k _=>arA A B c d (iy m) (iy n) w h k l (nR x)<|by rw[kE,kE];exact x) λB w e y z r=>by rw[kE,kE]at r;exact rl B w e y z r
def aqT(x:(iy n).length<=3000):iB 164 [F<|iy m,F<|iy n]<|D<|kT m n:=by
 refine D5 (lW m) (lW n) call164 (λA c B d w h k _=>adu A B c d (iy m) (iy n) w h k (xq _) (xq _) U U) ?_;rw[kE,kE];exact rv
end
section
variable(a b:Dy)(j:yF a)(i:yF b)
def ady:iB 143 [iJ a,iJ b]<|iJ<|jl a b:=by
 have⟨p,n,m⟩:=j;have⟨l,g,f⟩:=i;have e:=zW p;have d:=zW l;obtain⟨k,v⟩:∃ k,min a.e b.e=k:=⟨_,rfl⟩
 exact iL (.w (((iy a.m).length:Int)=0)
  (λr=>by
   have x:a.m=0:=sF.1 U;exact Y [S 11<|bg r]<|V (iJ b) (iJ<|jl a b)<|by rw[show jl a b=b by unfold jl;rw[bt x]])
  (λr=>by
   have x:a.m≠0:=λh=>r (by rw[sF.2 h];rfl)
   exact Y [S 11<|bd r]<|.w (((iy b.m).length:Int)=0)
    (λq=>by
     have y:b.m=0:=sF.1 U;exact Y [S 16<|bg q]<|V (iJ a) (iJ<|jl a b)<|by rw[show jl a b=a by unfold jl;rw[bn x,bt y]])
    (λq=>by
     have y:b.m≠0:=λh=>q (by rw[sF.2 h];rfl)
     have X:(iy<|a.m*2^((a.e-k).toNat)).length<=1400:=ph (by rw[sO x];omega);have o:(iy<|b.m*2^((b.e-k).toNat)).length<=1400:=ph (by rw[sO y];omega);have P:=aaY X o;have M:(iy<|(a.m*2^((a.e-k).toNat))-(b.m*2^((b.e-k).toNat))).length<=1400:=bF (nR<|dY _ _) X;have N:(iy<|(b.m*2^((b.e-k).toNat))-(a.m*2^((a.e-k).toNat))).length<=1400:=bF (nR<|dY _ _) o;exact Y [S 16<|bd q,.o 22<|oI (if b.e<a.e then b.e else a.e) k<|by rw[<-v];split<;>omega,iN<|a.e-k,.o 28<|oI (a.e-k) ((a.e-k).toNat:Int),.c<|acU a.m ((a.e-k).toNat) U U,iN<|b.e-k,.o 35<|oI (b.e-k) ((b.e-k).toNat:Int),.c<|acU b.m ((b.e-k).toNat) U U]<|.w (a.neg=b.neg)
      (λz=>Y [S 41<|bg z,.c<|aqU (a.m*2^((a.e-k).toNat)) (b.m*2^((b.e-k).toNat)) U U,.c<|Hy a.neg ((a.m*2^((a.e-k).toNat))+(b.m*2^((b.e-k).toNat))) k]<|V (iJ<|canon a.neg ((a.m*2^((a.e-k).toNat))+(b.m*2^((b.e-k).toNat))) k) (iJ<|jl a b)<|by have h:=ae5 (s:=a.neg) x y v;rw[show(⟨a.neg,b.m,b.e⟩:Dy)=b by rw[z]]at h;exact congrArg iJ h.symm)
      (λz=>Y [S 41<|bd z,.c<|aqT (a.m*2^((a.e-k).toNat)) (b.m*2^((b.e-k).toNat)) U U]<|.w (0<=(kT (a.m*2^((a.e-k).toNat))<|b.m*2^((b.e-k).toNat)))
       (λu=>by
        have c:(b.m*2^((b.e-k).toNat))<=(a.m*2^((a.e-k).toNat)):=WG.1 u;exact Y [S 52<|bu u,.c<|acV (a.m*2^((a.e-k).toNat)) (b.m*2^((b.e-k).toNat)) U U,.c<|Hy a.neg ((a.m*2^((a.e-k).toNat))-(b.m*2^((b.e-k).toNat))) k]<|V (iJ<|canon a.neg ((a.m*2^((a.e-k).toNat))-(b.m*2^((b.e-k).toNat))) k) (iJ<|jl a b)<|congrArg iJ (ae3 (s:=a.neg) (t:=b.neg) x y v z c).symm)
       (λu=>by
        have c:(a.m*2^((a.e-k).toNat))<(b.m*2^((b.e-k).toNat)):=aww λh=>u (WG.2 h)
        exact Y [S 52<|bw u,.c<|acV (b.m*2^((b.e-k).toNat)) (a.m*2^((a.e-k).toNat)) U U,.c<|Hy b.neg ((b.m*2^((b.e-k).toNat))-(a.m*2^((a.e-k).toNat))) k]<|V (iJ<|canon b.neg ((b.m*2^((b.e-k).toNat))-(a.m*2^((a.e-k).toNat))) k) (iJ<|jl a b)<|congrArg iJ (ae4 (s:=a.neg) (t:=b.neg) x y v z c).symm)))))
def KK:iB 85 [iJ a,iJ b]<|D<|jQ a b:=by
 have n:yF<|ji b:=⟨i.len,i.lo,i.hi⟩
 exact iL (Y [.c<|AE a,.c<|AE b]<|.w ((Dy.jh a)=(Dy.jh b))
  (λh=>Y [S 13<|bj h]<|.w ((Dy.jh a)=0)
   (λk=>Y [S 18<|bg k]<|V (D 0) (D<|jQ a b)<|by rw[Gt,bn<|by simpa using h,bt k])
   (λk=>Y [S 18<|bd k,.c<|Og a j,.c<|Og b i]<|.w ((Dy.iQ a)=(Dy.iQ b))
    (λx=>Y [S 23<|bj x,.c<|uU b,.c<|ady a (ji b) j n,.c<|AE<|jl a<|ji b]<|V (D<|Dy.jh<|jl a<|ji b) (D<|jQ a b)<|by rw[Gt,bn<|by simpa using h,bn k,bn<|by simpa using x])
    (λx=>Y [S 23<|bk x,.c<|Og a j,.c<|Og b i]<|.w ((decide ((Dy.iQ a)<(Dy.iQ b)))=(decide (0<(Dy.jh a))))
     (λy=>Y [S 31<|bg y]<|V (D (-1)) (D<|jQ a b)<|by rw[Gt,bn<|by simpa using h,bn k,bt x,bt<|by simpa using y])
     (λy=>Y [S 31<|bd y]<|V (D 1) (D<|jQ a b)<|by rw[Gt,bn<|by simpa using h,bn k,bt x,bn<|by simpa using y]))))
  (λh=>Y [S 13<|bk h]<|.w ((Dy.jh a)<(Dy.jh b))
   (λk=>Y [S 16<|bu k]<|V (D (-1)) (D<|jQ a b)<|by rw[Gt,bt h,bt k])
   (λk=>Y [S 16<|bw k]<|V (D 1) (D<|jQ a b)<|by rw[Gt,bt h,bn k])))
end
def Yw(a b:Nat)(x:Nat):PS:=⟨12,aa,[(0,.e<|.v<|.int .u64 (((nP a b x).1:Nat):Int)),(1,.e<|.v<|.int .u64 (((nP a b x).2:Nat):Int))],[]⟩
section
variable(s:kz)
def adq(N:Nat)(x:Nat):PS:=⟨131,aa,[(4,.e<|D x),(3,.box 3 0),(1,.box 1 0)],[(3,.cells 25 [D s.iK,oY s.iz,pJ s.iR]),(1,.cells 28 [D s.iK,oY s.iz,pJ s.iR,D s.iZ,jJ s.params])]⟩
def adp(x:Nat):PS:=⟨131,aa,[(4,.e<|D x),(3,.box 3 0),(1,.box 1 0)],[(3,.cells 25 [D s.iK,oY s.iz,pJ s.iR]),(1,.cells 28 [D s.iK,oY s.iz,pJ s.iR,D s.iZ,jJ s.params])]⟩
def Oe(N:Nat)(x:Nat):PS:=⟨131,aa,[(5,.e<|D x),(3,.box 3 0),(1,.box 1 0)],[(3,.cells 25 [D s.iK,oY s.iz,pJ s.iR]),(1,.cells 28 [D s.iK,oY s.iz,pJ s.iR,D s.iZ,jJ s.params])]⟩
def adr(x:Nat):PS:=⟨131,aa,[(5,.e<|D x),(3,.box 3 0),(1,.box 1 0)],[(3,.cells 25 [D s.iK,oY s.iz,pJ s.iR]),(1,.cells 28 [D s.iK,oY s.iz,pJ s.iR,D s.iZ,jJ s.params])]⟩
def Of(N:Nat)(x:Nat):PS:=⟨131,aa,[(6,.e<|D x),(1,.box 1 0)],[(1,.cells 28 [D s.iK,oY s.iz,pJ s.iR,D s.iZ,jJ s.params])]⟩
def ads(x:Nat):PS:=⟨131,aa,[(6,.e<|D x),(1,.box 1 0)],[(1,.cells 28 [D s.iK,oY s.iz,pJ s.iR,D s.iZ,jJ s.params])]⟩
end
def N4(s:kz)(b:List RI)(N:Nat)(x:Nat):PS:=⟨35,aa,[(5,.e<|D x),(1,.e<|jJ b)],[]⟩
def acT(s:kz)(b:List RI)(x:Nat):PS:=⟨35,aa,[(5,.e<|D x),(1,.e<|jJ b)],[]⟩
def ak8(a b N:Nat)(z:a<18446744073709551616)(u:b<18446744073709551616)(j:∀ k,k<N->(nP a b k).2≠0)(h:(nP a b N).2=0):iB 196 [.v<|.int .u64 (a:Int),.v<|.int .u64 (b:Int)]<|.v<|.int .u64 (((nP a b N).1:Nat):Int):=
 iL (af [.s (Sp.jL (Yw a b) 0 N U (λx y v=>by
    have r:=j x U;exact iU (Y [ah 6 ((((nP a b x).2:Nat):Int) != 0)<|Km<|j x U,.a (U:0<((((nP a b x).2:Nat):Int):Int))]<|.e<|af [.o 0<|.int (k:=.u64) (by first|rfl|omega|(simp only[bT,bU];omega):(((nP a b x).2:Nat):Int)=(((nP a b<|x+1).1:Nat):Int)),.o 1<|.int (k:=.u64) (by first|rfl|omega|(simp only[bT,bU];omega):((((nP a b x).1)%((nP a b x).2):Nat):Int)=(((nP a b<|x+1).2:Nat):Int))]) aI)
  (λy=>by
    exact iU (af [S 6<|FC h]) aI) aM:jK 1 f196 (Yw a b 0) (.exit 0) ⟨12,aa,[(0,.e<|.v<|.int .u64 (((nP a b N).1:Nat):Int))],[]⟩)<|af [.o 0<|.int (k:=.u64) (by first|rfl|omega|(simp only[bT,bU];omega):(a:Int)=(((nP a b 0).1:Nat):Int)),.o 1<|.int (k:=.u64) (by first|rfl|omega|(simp only[bT,bU];omega):(b:Int)=(((nP a b 0).2:Nat):Int))]])
def ak9(a b:Nat)(x:a<18446744073709551616)(k:b<18446744073709551616):iB 196 [.v<|.int .u64 (a:Int),.v<|.int .u64 (b:Int)]<|.v<|.int .u64 (Nat.gcd a b:Int):=by
 have⟨N,y,h⟩:=XS b a;have g:=Qk a b N;rw[h,Nat.gcd_zero_right]at g;rw[<-g];exact ak8 a b N x k y h
def atu(m:Nat)(h:m<=1073741824):iB 197 [D m]<|.v<|.int .u64 (m:Int):=
 iL (af [tF 4 ((m:Int)<0) U,.o 11<|.int (k:=.u64)<|rS m])
def att(m:Nat)(x:0<m)(h:m<=1073741824):iB 197 [D (-(m:Int))]<|.v<|.int .u64 (m:Int):=
 iL (Y [tT 4 ((-(m:Int))<0) U,iN<|(-(m:Int))+1,iN<|0-((-(m:Int))+1),.o 7<|oI (0-((-(m:Int))+1)) ((m-1:Nat):Int),.o 8<|.int (k:=.u64)<|rS<|m-1,rp<|((m-1:Nat):Int)+1]<|V (.v<|.int .u64 (((m-1)+1:Nat):Int)) (.v<|.int .u64 (m:Int))<|by rw[(U:m-1+1=m)])
def Us(n:Int)(x:-1073741824<=n)(k:n<=1073741824):iB 197 [D n]<|.v<|.int .u64 (n.natAbs:Int):=by
 by_cases h:0<=n
 .obtain ⟨m,rfl⟩:=dZ h;exact atu m U 
 .obtain ⟨m,rfl⟩:∃ m:Nat,n = -(m:Int):=⟨n.natAbs,U⟩
  rw[gJ,ez];exact att m U U 
def N7(n d:Int):iB 140 [.agg [D n,D d]]<|I<|nJ n d:=
 iL (.w (1<=d)
  (λk=>Y [S 5<|bu k]<|.w (d<=1073741824)
   (λh=>Y [S 9<|bu h]<|.w ((-1073741824)<=n)
    (λx=>Y [S 14<|bu x]<|.w (n<=1073741824)
     (λy=>Y [S 19<|bu y,.c<|Us n U U,.o 27 (.int<|auZ U U:aj (.v<|.int .u64<|IntKind.u64.wrap d)<|.v<|.int .u64 (Int.natAbs d:Int)),.c<|ak9 (Int.natAbs n) (Int.natAbs d) U U]<|V (I<|(Nat.gcd (Int.natAbs n)<|Int.natAbs d:Int)==1) (I<|nJ n d)<|by unfold nJ;simp[By,k,h,x,y])
     (λy=>Y [S 19<|bw y]<|V (I ac) (I<|nJ n d)<|by unfold nJ;simp[By,k,h,x,y]))
    (λx=>Y [S 14<|bw x]<|V (I ac) (I<|nJ n d)<|by unfold nJ;simp[By,k,h,x]))
   (λh=>Y [S 9<|bw h]<|V (I ac) (I<|nJ n d)<|by unfold nJ;simp[By,k,h]))
  (λk=>Y [S 5<|bw k]<|V (I ac) (I<|nJ n d)<|by unfold nJ;simp[By,k]))
def Te(o:qn)(m:Int)(g:o.jA):iB 82 [H8 o,D m]<|I<|lI o m:=
 iL (.w (o.kind=1)
  (λq=>Y [S 13<|bg q,.c<|N7 o.cn o.cd]<|.w (nJ o.cn o.cd=aa)
   (λz=>Y [S 19 z,tF 47 ((0:Int)<0) U,tF 52 ((1:Int)<0) U,.g (NU g.kind g.a g.b g.n g.cn g.cd g.kind yp yp yp g.cn g.cd:qU prog .eql 87 (H8 o) (.agg [D o.kind,D 0,D 0,D 0,D o.cn,D o.cd])<|.bool<|decide (o.kind=o.kind/\o.a=0/\o.b=0/\o.n=0/\o.cn=o.cn/\o.cd=o.cd))]<|.w (o.kind=o.kind/\o.a=0/\o.b=0/\o.n=0/\o.cn=o.cn/\o.cd=o.cd)
    (λk=>Y [S 58<|bu k,tE 61 0 0]<|V (I aa) (I<|lI o m) oq)
    (λk=>Y [S 58<|bw k]<|V (I ac) (I<|lI o m) oq))
   (λz=>Y [S 19<|bh z]<|V (I ac) (I<|lI o m) oq))
  (λq=>Y [S 13<|bd q,.j 42 ⟨85,aa,[(21,.e<|I<|decide (3<=o.kind/\o.kind<=6)),(11,.e<|D o.kind),(6,.box 6 0),(2,.box 2 0),(1,.e<|D m)],[(6,.cells 87 [D o.kind,D 0,D 0,D 0,D 0,D 0]),(2,.cells 87 [D o.kind,D o.a,D o.b,D o.n,D o.cn,D o.cd])]⟩
   (.w (o.kind=3)
    (λu=>Y [.v 21<|.bool<|bg u]<|.e<|af [S 21 (tO aO:aa=(decide (3<=o.kind/\o.kind<=6)))])
    (λu=>Y [.v 21<|.bool<|bd u]<|.w (o.kind=4)
     (λv=>Y [S 23<|bg v]<|.e<|af [S 21 (tO aO:aa=(decide (3<=o.kind/\o.kind<=6)))])
     (λv=>Y [S 23<|bd v]<|.w (o.kind=5)
      (λt=>Y [S 24<|bg t]<|.e<|af [S 21 (tO aO:aa=(decide (3<=o.kind/\o.kind<=6)))])
      (λt=>Y [S 24<|bd t]<|.e<|af [S 21 (tO aO:(o.kind==6)=(decide (3<=o.kind/\o.kind<=6)))]))))]<|.w (3<=o.kind/\o.kind<=6)
   (λz=>Y [.v 21<|.bool<|bu z,tT 47 ((0:Int)<2) U,tT 52 ((1:Int)<2) U,.g (NU g.kind g.a g.b g.n g.cn g.cd g.kind g.a g.b yp yp yp:qU prog .eql 87 (H8 o) (.agg [D o.kind,D o.a,D o.b,D 0,D 0,D 0])<|.bool<|decide (o.kind=o.kind/\o.a=o.a/\o.b=o.b/\o.n=0/\o.cn=0/\o.cd=0))]<|.w (o.kind=o.kind/\o.a=o.a/\o.b=o.b/\o.n=0/\o.cn=0/\o.cd=0)
    (λk=>Y [S 58<|bu k,tN 61 2 0]<|.w (0<=o.a)
     (λh=>Y [S 65<|bu h]<|.w (o.a<m)
      (λx=>Y [S 70<|bu x]<|.w (0<=o.b)
       (λy=>Y [S 75<|bu y]<|V (I<|decide (o.b<m)) (I<|lI o m) oq)
       (λy=>Y [S 75<|bw y]<|V (I ac) (I<|lI o m) oq))
      (λx=>Y [S 70<|bw x]<|V (I ac) (I<|lI o m) oq))
     (λh=>Y [S 65<|bw h]<|V (I ac) (I<|lI o m) oq))
    (λk=>Y [S 58<|bw k]<|V (I ac) (I<|lI o m) oq))
   (λz=>Y [.v 21<|.bool<|bw z,.j 52 ⟨85,aa,[(26,.e<|I<|decide (o.kind=7\/9<=o.kind/\o.kind<=13)),(11,.e<|D o.kind),(6,.box 6 0),(2,.box 2 0),(1,.e<|D m)],[(6,.cells 87 [D o.kind,D 0,D 0,D 0,D 0,D 0]),(2,.cells 87 [D o.kind,D o.a,D o.b,D o.n,D o.cn,D o.cd])]⟩
   (.w (o.kind=7)
    (λu=>Y [.v 26<|.bool<|bg u]<|.e<|af [S 26 (tO aO:aa=(decide (o.kind=7\/9<=o.kind/\o.kind<=13)))])
    (λu=>Y [.v 26<|.bool<|bd u]<|.w (o.kind=9)
     (λv=>Y [S 28<|bg v]<|.e<|af [S 26 (tO aO:aa=(decide (o.kind=7\/9<=o.kind/\o.kind<=13)))])
     (λv=>Y [S 28<|bd v]<|.w (o.kind=10)
      (λt=>Y [S 29<|bg t]<|.e<|af [S 26 (tO aO:aa=(decide (o.kind=7\/9<=o.kind/\o.kind<=13)))])
      (λt=>Y [S 29<|bd t]<|.w (o.kind=11)
       (λp=>Y [S 30<|bg p]<|.e<|af [S 26 (tO aO:aa=(decide (o.kind=7\/9<=o.kind/\o.kind<=13)))])
       (λp=>Y [S 30<|bd p]<|.w (o.kind=12)
        (λn=>Y [S 31<|bg n]<|.e<|af [S 26 (tO aO:aa=(decide (o.kind=7\/9<=o.kind/\o.kind<=13)))])
        (λn=>Y [S 31<|bd n]<|.e<|af [S 26 (tO aO:(o.kind==13)=(decide (o.kind=7\/9<=o.kind/\o.kind<=13)))]))))))]<|.w (o.kind=7\/9<=o.kind/\o.kind<=13)
    (λk=>Y [.v 26<|.bool<|bu k,tT 47 ((0:Int)<1) U,tF 52 ((1:Int)<1) U,.g (NU g.kind g.a g.b g.n g.cn g.cd g.kind g.a yp yp yp yp:qU prog .eql 87 (H8 o) (.agg [D o.kind,D o.a,D 0,D 0,D 0,D 0])<|.bool<|decide (o.kind=o.kind/\o.a=o.a/\o.b=0/\o.n=0/\o.cn=0/\o.cd=0))]<|.w (o.kind=o.kind/\o.a=o.a/\o.b=0/\o.n=0/\o.cn=0/\o.cd=0)
     (λh=>Y [S 58<|bu h,tN 61 1 0]<|.w (0<=o.a)
      (λx=>Y [S 65<|bu x]<|.w (o.a<m)
       (λy=>Y [S 70<|bu y]<|.w (0<=o.b)
        (λs=>Y [S 75<|bu s]<|V (I<|decide (o.b<m)) (I<|lI o m) oq)
        (λs=>Y [S 75<|bw s]<|V (I ac) (I<|lI o m) oq))
       (λy=>Y [S 70<|bw y]<|V (I ac) (I<|lI o m) oq))
      (λx=>Y [S 65<|bw x]<|V (I ac) (I<|lI o m) oq))
     (λh=>Y [S 58<|bw h]<|V (I ac) (I<|lI o m) oq))
    (λk=>Y [.v 26<|.bool<|bw k]<|.w (o.kind=8)
     (λh=>Y [S 34<|bg h]<|.w (o.n<0)
      (λx=>Y [S 40<|bu x]<|V (I ac) (I<|lI o m) oq)
      (λx=>Y [S 40<|bw x]<|.w (16<o.n)
       (λy=>Y [S 44<|bu y]<|V (I ac) (I<|lI o m) oq)
       (λy=>Y [S 44<|bw y,tT 47 ((0:Int)<1) U,tF 52 ((1:Int)<1) U,.g (NU g.kind g.a g.b g.n g.cn g.cd g.kind g.a yp g.n yp yp:qU prog .eql 87 (H8 o) (.agg [D o.kind,D o.a,D 0,D o.n,D 0,D 0])<|.bool<|decide (o.kind=o.kind/\o.a=o.a/\o.b=0/\o.n=o.n/\o.cn=0/\o.cd=0))]<|.w (o.kind=o.kind/\o.a=o.a/\o.b=0/\o.n=o.n/\o.cn=0/\o.cd=0)
        (λs=>Y [S 58<|bu s,tN 61 1 0]<|.w (0<=o.a)
         (λl=>Y [S 65<|bu l]<|.w (o.a<m)
          (λf=>Y [S 70<|bu f]<|.w (0<=o.b)
           (λr=>Y [S 75<|bu r]<|V (I<|decide (o.b<m)) (I<|lI o m) oq)
           (λr=>Y [S 75<|bw r]<|V (I ac) (I<|lI o m) oq))
          (λf=>Y [S 70<|bw f]<|V (I ac) (I<|lI o m) oq))
         (λl=>Y [S 65<|bw l]<|V (I ac) (I<|lI o m) oq))
        (λs=>Y [S 58<|bw s]<|V (I ac) (I<|lI o m) oq))))
     (λh=>Y [S 34<|bd h]<|V (I ac) (I<|lI o m) oq)))))
def abN(L:List Nat):((L.length:Int)=0)↔L=[]:=by rw[<-aws];omega
def zB(d:RD):Bool:=!d.neg&&decide (d.L=[])&&(d.e==0)
def Li{d:RD}:zB d=aa↔d.Zero:=by simp[zB,RD.Zero,and_assoc]
def KG(d:RD):iB 83 [Ea d]<|I<|zB d:=
 iL (.w (d.neg=aa)
  (λk=>Y [S 4 k]<|V (I ac) (I<|zB d)<|by simp[zB,k])
  (λk=>Y [S 4<|bh k]<|.w ((d.L.length:Int)=0)
   (λh=>Y [S 10<|bg h]<|V (I<|d.e==0) (I<|zB d)<|by simp[zB,k,show d.L=[]from(abN _).1 h])
   (λh=>Y [S 10<|bd h]<|V (I ac) (I<|zB d)<|by simp[zB,k,show ¬d.L=[]from λq=>h<|(abN _).2 q])))
def BF(x:RI)(g:x.jA):iB 39 [mY x]<|I<|og x:=by
 have a:=g.lo;have b:=g.hi;by_cases h:x.all=aa
 .have n:∀ q:x.all=ac,False:=λq=>by rw[h]at q;cases q
  by_cases k:x.lo.Zero
  .by_cases y:x.hi.Zero
   .rw [ux.2<|.inl ⟨h,k,y⟩];exact iL<|af [S 4 h,.c<|KG x.lo,S 7<|Li.2 k,.c<|KG x.hi,S 11<|Li.2 y]
   .have e:og x=ac:=by simpa using λq=>(ux.1 q).elim (λq=>y q.2.2) λq=>n q.1
    rw[e];exact iL<|af [S 4 h,.c<|KG x.lo,S 7<|Li.2 k,.c<|KG x.hi,ai 11 (zB x.hi)<|bh λq=>y<|Li.1 q]
  .have e:og x=ac:=by simpa using λq=>(ux.1 q).elim (λq=>k q.2.1) λq=>n q.1
   rw[e];exact iL<|af [S 4 h,.c<|KG x.lo,ai 7 (zB x.lo)<|bh λq=>k<|Li.1 q]
 .replace h:x.all=ac:=by simpa using h
  by_cases k:x.lo.Ok
  .by_cases y:x.hi.Ok
   .have v:=k.valid;have u:=y.valid;have t:mY x=O x.iv:=by rw[<-JX,show x.iv.raw=x by show RI.mk x.lo.dy.raw x.hi.dy.raw x.all=x;rw[k.eq a,y.eq b]]
    rw[t];by_cases z:jQ x.lo.dy x.hi.dy<=0
    .rw [ux.2<|.inr ⟨h,k,y,z⟩];exact iL<|af [S 4 h,.c<|Ec x.iv.lo Z,.c<|Ec x.iv.hi Z,.c<|KK x.iv.lo x.iv.hi v.xj u.xj,S 27<|bu z]
    .have e:og x=ac:=by simpa using λq=>(ux.1 q).elim (λq=>by rw[h]at q;exact bm q.1) λq=>z q.2.2.2
     rw[e];exact iL<|af [S 4 h,.c<|Ec x.iv.lo Z,.c<|Ec x.iv.hi Z,.c<|KK x.iv.lo x.iv.hi v.xj u.xj,S 27<|bw z]
   .have e:og x=ac:=by simpa using λq=>(ux.1 q).elim (λq=>by rw[h]at q;exact bm q.1) λq=>y q.2.2.1
    rw[e];exact iL<|af [S 4 h,.c<|TR x.lo Z _ HW,S 15<|HW.2 k,.c<|TR x.hi Z _ HW,ai 19 (TY x.hi)<|bh λq=>y<|HW.1 q]
  .have e:og x=ac:=by simpa using λq=>(ux.1 q).elim (λq=>by rw[h]at q;exact bm q.1) λq=>k q.2.1
   rw[e];exact iL<|af [S 4 h,.c<|TR x.lo Z _ HW,ai 15 (TY x.lo)<|bh λq=>k<|HW.1 q]
section
variable(s:kz)
def aqr(g:s.jA)(m:s.nO)(c:¬(0<=s.iK/\s.iK<=8/\s.iz.length<=200/\s.iR.length<=200/\1<=s.iZ/\s.iZ<=4/\(s.iR.length:Int)=s.iZ/\s.params.length<=4/\s.iK=s.iZ+(s.params.length:Int))):iB 36 [mn s]<|I ac:=by
 have p:=m.params;have q:=m.iz;exact iL (.w (s.iK<0)
  (λk=>af [S 11<|bu k])
  (λk=>Y [S 11<|bw k]<|.w (8<s.iK)
   (λh=>af [S 15<|bu h])
   (λh=>Y [S 15<|bw h]<|.w (200<(s.iz.length:Int))
    (λx=>af [S 21<|bu x])
    (λx=>Y [S 21<|bw x]<|.w (200<(s.iR.length:Int))
     (λy=>af [S 27<|bu y])
     (λy=>Y [S 27<|bw y]<|.w (s.iZ<1)
      (λz=>af [S 32<|bu z])
      (λz=>Y [S 32<|bw z]<|.w (4<s.iZ)
       (λu=>af [S 37<|bu u])
       (λu=>Y [S 37<|bw u]<|.w ((s.iR.length:Int)=s.iZ)
        (λv=>Y [S 45<|bj v]<|.w (4<(s.params.length:Int))
         (λt=>af [S 51<|bu t])
         (λt=>Y [S 51<|bw t,iN<|s.iZ+(s.params.length:Int)]<|.w (s.iK=(s.iZ+(s.params.length:Int)))
          (λr=>.x<|by exact absurd ⟨U,U,U,U,U,U,U,U,U⟩ c)
          (λr=>af [S 62<|bk r])))
        (λv=>af [S 45<|bk v]))))))))
noncomputable def Is(g:s.jA)(m:s.nO)(i:0<=s.iK)(x:s.iK<=8)(l:s.iz.length<=200)(k:s.iR.length<=200)(y:1<=s.iZ)(z:s.iZ<=4)(e:(s.iR.length:Int)=s.iZ)(h:s.iK=s.iZ+(s.params.length:Int))(p:s.params.length<=4)(t:Tr prog Tb):Tr prog Tb:=by
 have u:=m.params;have q:=m.iz;exact Y [tF 11 (s.iK<0) U,tF 15 (8<s.iK) U,tF 21 (200<(s.iz.length:Int)) U,tF 27 (200<(s.iR.length:Int)) U,tF 32 (s.iZ<1) U,tF 37 (4<s.iZ) U,ai 45 ((s.iR.length:Int) != s.iZ)<|by simp[e],tF 51 (4<(s.params.length:Int)) U,iN<|s.iZ+(s.params.length:Int),ai 62 (s.iK != (s.iZ+(s.params.length:Int)))<|by simp[h]] t
section
variable(g:s.jA)(m:s.nO)(i:0<=s.iK)(r:s.iK<=8)(n:s.iz.length<=200)
def aqs(l:s.iR.length<=200)(h:1<=s.iZ)(y:s.iZ<=4)(e:(s.iR.length:Int)=s.iZ)(z:s.iK=s.iZ+(s.params.length:Int))(p:s.params.length<=4)(N:Nat)(o:N<s.iz.length)(j:∀ k,k<N->(lI (s.iz.getD k nK)<|s.iK+(k:Int))=aa)(u:(lI (s.iz.getD N nK)<|s.iK+(N:Int))=ac):iB 36 [mn s]<|I ac:=by
 have t:=m.params;have q:=m.iz;exact iL (Is s g m i r n l h y e z p<|af [.s (Sp.jL (adq s N) 0 N U (λx v Y=>by
    have w:=g.iz x;exact iU (af [tT 68 ((x:Int)<s.iz.length) U,iX (x:Int)<|s.iz.length,iN<|s.iK+(x:Int),.c<|Te (s.iz.getD x nK) (s.iK+(x:Int)) w,ai 81 (!(lI (s.iz.getD x nK)<|s.iK+(x:Int)))<|by rw[j x U];rfl,iN<|(x:Int)+1]) aI)
  (λv=>by
    have w:=g.iz N;exact iU (af [tT 68 ((N:Int)<s.iz.length) U,iX (N:Int)<|s.iz.length,iN<|s.iK+(N:Int),.c<|Te (s.iz.getD N nK) (s.iK+(N:Int)) w,ah 81 (!(lI (s.iz.getD N nK)<|s.iK+(N:Int)))<|by rw[u];rfl]) aI) aM:jK 5 Tryz.f36 (adq s N 0) .ret ⟨131,aa,[(2,.e<|I ac)],[]⟩) .nil])
def Lh(l:s.iR.length<=200)(y:1<=s.iZ)(z:s.iZ<=4)(e:(s.iR.length:Int)=s.iZ)(u:s.iK=s.iZ+(s.params.length:Int))(p:s.params.length<=4)(j:∀ k,k<s.iz.length->(lI (s.iz.getD k nK)<|s.iK+(k:Int))=aa):jK 5 Tryz.f36 (adp s 0) (.exit 0) ⟨131,aa,[(3,.box 3 0),(1,.box 1 0)],[(3,.cells 25 [D s.iK,oY s.iz,pJ s.iR]),(1,.cells 28 [D s.iK,oY s.iz,pJ s.iR,D s.iZ,jJ s.params])]⟩:=by
 have v:=m.params;have q:=m.iz;exact Sp.jL (adp s) 0 s.iz.length U (λx h Y=>by
    have w:=g.iz x;exact iU (af [tT 68 ((x:Int)<s.iz.length) U,iX (x:Int)<|s.iz.length,iN<|s.iK+(x:Int),.c<|Te (s.iz.getD x nK) (s.iK+(x:Int)) w,ai 81 (!(lI (s.iz.getD x nK)<|s.iK+(x:Int)))<|by rw[j x U];rfl,iN<|(x:Int)+1]) aI)
  (λh=>by
    exact iU (af [tF 68 ((s.iz.length:Int)<s.iz.length) U]) aI) aM 
section
variable(l:s.iR.length<=200)(z:1<=s.iZ)(u:s.iZ<=4)(e:(s.iR.length:Int)=s.iZ)(v:s.iK=s.iZ+(s.params.length:Int))(t:s.params.length<=4)(j:∀ k,k<s.iz.length->(lI (s.iz.getD k nK)<|s.iK+(k:Int))=aa)(N:Nat)(o:N<s.iR.length)(f:∀ k,k<N->0<=(s.iR.getD k 0)/\(s.iR.getD k 0)<s.iK+(s.iz.length:Int))
def aqt(h:(s.iR.getD N 0)<0):iB 36 [mn s]<|I ac:=by
 have p:=m.params;have q:=m.iz;exact iL (Is s g m i r n l z u e v t<|af [.s (Lh s g m i r n l z u e v t j) .nil,.s (Sp.jL (Oe s N) 0 N U (λx k Y=>by
    have Z:=f x U;exact iU (af [tT 86 ((x:Int)<s.iR.length) U,iX (x:Int)<|s.iR.length,tF 94 ((s.iR.getD x 0)<0) U,iX (x:Int)<|s.iR.length,
     iN (s.iK+(s.iz.length:Int)),tF 107 ((s.iK+(s.iz.length:Int))<=(s.iR.getD x 0)) U,iN<|(x:Int)+1]) aI)
  (λk=>by
    exact iU (af [tT 86 ((N:Int)<s.iR.length) U,iX (N:Int)<|s.iR.length,S 94<|bu h]) aI) aM:jK 10 Tryz.f36 (Oe s N 0) .ret ⟨131,aa,[(2,.e<|I ac)],[]⟩) .nil])
def aqu(y:0<=(s.iR.getD N 0))(h:s.iK+(s.iz.length:Int)<=(s.iR.getD N 0)):iB 36 [mn s]<|I ac:=by
 have p:=m.params;have q:=m.iz;exact iL (Is s g m i r n l z u e v t<|af [.s (Lh s g m i r n l z u e v t j) .nil,.s (Sp.jL (Oe s N) 0 N U (λx k Y=>by
    have Z:=f x U;exact iU (af [tT 86 ((x:Int)<s.iR.length) U,iX (x:Int)<|s.iR.length,tF 94 ((s.iR.getD x 0)<0) U,iX (x:Int)<|s.iR.length,
     iN (s.iK+(s.iz.length:Int)),tF 107 ((s.iK+(s.iz.length:Int))<=(s.iR.getD x 0)) U,iN<|(x:Int)+1]) aI)
  (λk=>by
    exact iU (af [tT 86 ((N:Int)<s.iR.length) U,iX (N:Int)<|s.iR.length,tF 94 ((s.iR.getD N 0)<0) U,iX (N:Int)<|s.iR.length,
    iN (s.iK+(s.iz.length:Int)),S 107<|bu h]) aI) aM:jK 10 Tryz.f36 (Oe s N 0) .ret ⟨131,aa,[(2,.e<|I ac)],[]⟩) .nil])
end
end
def UP(g:s.jA)(m:s.nO)(i:0<=s.iK)(y:s.iK<=8)(l:s.iz.length<=200)(z:s.iR.length<=200)(u:1<=s.iZ)(v:s.iZ<=4)(e:(s.iR.length:Int)=s.iZ)(t:s.iK=s.iZ+(s.params.length:Int))(p:s.params.length<=4)(j:∀ k,k<s.iz.length->(lI (s.iz.getD k nK)<|s.iK+(k:Int))=aa)(r:∀ k,k<s.iR.length->0<=(s.iR.getD k 0)/\(s.iR.getD k 0)<s.iK+(s.iz.length:Int)):jK 10 Tryz.f36 (adr s 0) (.exit 2) ⟨131,aa,[(1,.box 1 0)],[(1,.cells 28 [D s.iK,oY s.iz,pJ s.iR,D s.iZ,jJ s.params])]⟩:=by
 have q:=m.params;have n:=m.iz;exact Sp.jL (adr s) 0 s.iR.length U (λx h Y=>by
    have Z:=r x U;exact iU (af [tT 86 ((x:Int)<s.iR.length) U,iX (x:Int)<|s.iR.length,tF 94 ((s.iR.getD x 0)<0) U,iX (x:Int)<|s.iR.length,
     iN (s.iK+(s.iz.length:Int)),tF 107 ((s.iK+(s.iz.length:Int))<=(s.iR.getD x 0)) U,iN<|(x:Int)+1]) aI)
  (λh=>by
    exact iU (af [tF 86 ((s.iR.length:Int)<s.iR.length) U]) aI) aM 
section
variable(g:s.jA)(w:s.nO)
section
variable(i:0<=s.iK)(y:s.iK<=8)(l:s.iz.length<=200)(z:s.iR.length<=200)(u:1<=s.iZ)(v:s.iZ<=4)(e:(s.iR.length:Int)=s.iZ)(t:s.iK=s.iZ+(s.params.length:Int))(r:s.params.length<=4)(j:∀ k,k<s.iz.length->(lI (s.iz.getD k nK)<|s.iK+(k:Int))=aa)(n:∀ k,k<s.iR.length->0<=(s.iR.getD k 0)/\(s.iR.getD k 0)<s.iK+(s.iz.length:Int))
section
variable(N:Nat)(o:N<s.params.length)(B:∀ k,k<N->og (s.params.getD k jT)=aa/\(s.params.getD k jT).all=ac)
def aqv(h:(s.params.getD N jT).all=aa):iB 36 [mn s]<|I ac:=by
 have p:=w.params;have q:=w.iz;exact iL (Is s g w i y l z u v e t r<|af [.s (Lh s g w i y l z u v e t r j) .nil,.s (UP s g w i y l z u v e t r j n) .nil,.s (Sp.jL (Of s N) 0 N U (λx k Y=>by
    have C:=g.params x;exact iU (af [tT 113 ((x:Int)<s.params.length) U,iX (x:Int)<|s.params.length,ai 121 ((s.params.getD x jT).all)<|(B x U).2,
     iX (x:Int) (s.params.length),.c<|BF (s.params.getD x jT) Z,ai 129 (!(og<|s.params.getD x jT))<|by rw[(B x U).1];rfl,iN<|(x:Int)+1]) aI)
  (λk=>by
    have C:=g.params N;exact iU (af [tT 113 ((N:Int)<s.params.length) U,iX (N:Int)<|s.params.length,S 121 h]) aI) aM:jK 15 Tryz.f36 (Of s N 0) .ret ⟨131,aa,[(2,.e<|I ac)],[]⟩) .nil])
def aqw(h:(s.params.getD N jT).all=ac)(M:og (s.params.getD N jT)=ac):iB 36 [mn s]<|I ac:=by
 have p:=w.params;have q:=w.iz;exact iL (Is s g w i y l z u v e t r<|af [.s (Lh s g w i y l z u v e t r j) .nil,.s (UP s g w i y l z u v e t r j n) .nil,.s (Sp.jL (Of s N) 0 N U (λx k Y=>by
    have C:=g.params x;exact iU (af [tT 113 ((x:Int)<s.params.length) U,iX (x:Int)<|s.params.length,ai 121 ((s.params.getD x jT).all)<|(B x U).2,
     iX (x:Int) (s.params.length),.c<|BF (s.params.getD x jT) Z,ai 129 (!(og<|s.params.getD x jT))<|by rw[(B x U).1];rfl,iN<|(x:Int)+1]) aI)
  (λk=>by
    have C:=g.params N;exact iU (af [tT 113 ((N:Int)<s.params.length) U,iX (N:Int)<|s.params.length,S 121 h,iX (N:Int)<|s.params.length,.c<|BF (s.params.getD N jT) Z,ah 129 (!(og<|s.params.getD N jT))<|by rw[M];rfl]) aI) aM:jK 15 Tryz.f36 (Of s N 0) .ret ⟨131,aa,[(2,.e<|I ac)],[]⟩) .nil])
end
def aqx(B:∀ k,k<s.params.length->og (s.params.getD k jT)=aa/\(s.params.getD k jT).all=ac):iB 36 [mn s]<|I aa:=by
 have p:=w.params;have q:=w.iz;exact iL (Is s g w i y l z u v e t r<|af [.s (Lh s g w i y l z u v e t r j) .nil,.s (UP s g w i y l z u v e t r j n) .nil,.s (Sp.jL (ads s) 0 s.params.length U (λx h Y=>by
    have C:=g.params x;exact iU (af [tT 113 ((x:Int)<s.params.length) U,iX (x:Int)<|s.params.length,ai 121 ((s.params.getD x jT).all)<|(B x U).2,
     iX (x:Int) (s.params.length),.c<|BF (s.params.getD x jT) Z,ai 129 (!(og<|s.params.getD x jT))<|by rw[(B x U).1];rfl,iN<|(x:Int)+1]) aI)
  (λh=>by
    exact iU (af [tF 113 ((s.params.length:Int)<s.params.length) U]) aI) aM:jK 15 Tryz.f36 (ads s 0) (.exit 4) ⟨131,aa,[],[]⟩) .nil])
end
def zE:iB 36 [mn s]<|I<|mR s:=by
 by_cases b:0<=s.iK/\s.iK<=8/\s.iz.length<=200/\s.iR.length<=200/\1<=s.iZ/\s.iZ<=4/\(s.iR.length:Int)=s.iZ/\s.params.length<=4/\s.iK=s.iZ+(s.params.length:Int)
 rotate_left
 .rw [show mR s=ac from asu b];exact aqr s g w b
 have⟨i,x,l,y,z,u,e,p,v⟩:=b;by_cases c:T3 s=aa
 rotate_left
 .rw [show mR s=ac by unfold mR;rw[bh c];simp];have⟨N,n,t,m⟩:=IF c;exact aqs s g w i x l y z u e v p N n (λk h=>by simpa using m k h)<|by simpa using t
 have j:∀ k,k<s.iz.length->lI (s.iz.getD k nK) (s.iK+(k:Int))=aa:=λk h=>bZ.1 c k<|ca.2 h
 by_cases f:BJ s=aa
 rotate_left
 .rw [show mR s=ac by unfold mR;rw[bh f];simp];have⟨N,n,t,m⟩:=IF f;have r:∀ k,k<N->0<=s.iR.getD k 0/\s.iR.getD k 0<s.iK+(s.iz.length:Int):=λk h=>by simpa[Bz]using m k h
  have o:¬(0<=s.iR.getD N 0/\s.iR.getD N 0<s.iK+(s.iz.length:Int)):=λq=>by
   rw[show Bz s (s.iR.getD N 0)=aa from bu q]at t;cases t
  by_cases a:s.iR.getD N 0<0
  .exact aqt s g w i x l y z u e v p j N n r a
  .exact aqu s g w i x l y z u e v p j N n r U U 
 have r:∀ k,k<s.iR.length->0<=s.iR.getD k 0/\s.iR.getD k 0<s.iK+(s.iz.length:Int):=λk h=>by simpa[Bz]using List.all_eq_true.1 f k (ca.2 h)
 by_cases d:Ic s=aa
 .rw [show mR s=aa by unfold mR;rw[bu (⟨i,x,l,y⟩:_/\_),c,f,bu (⟨z,u,e,v,p⟩:_/\_),d];rfl];exact aqx s g w i x l y z u e v p j r λk h=>by simpa[py]using List.all_eq_true.1 d k (ca.2 h)
 .rw [show mR s=ac by unfold mR;rw[bh d];simp];have⟨N,n,t,m⟩:=IF d;have B:∀ k,k<N->og (s.params.getD k jT)=aa/\(s.params.getD k jT).all=ac:=λk h=>by simpa[py]using m k h
  cases ha:(s.params.getD N jT).all with
  |true=>exact aqv s g w i x l y z u e v p j r N n B ha
  |false=>exact aqw s g w i x l y z u e v p j r N n B ha (by
   cases h:og (s.params.getD N jT)with
   |false=>rfl
   |true=>rw[show py (s.params.getD N jT)=aa by unfold py;rw[h,ha];rfl]at t;cases t)
section
variable(b:List RI)
def aqO(x:∀ i,(b.getD i jT).jA)(p:b.length<=1000)(h:mR s=ac):iB 37 [mn s,jJ b]<|I ac:=
 iL (af [.c<|zE s g w,ah 8 (!(mR s))<|by rw[h];rfl])
def aqP(x:∀ i,(b.getD i jT).jA)(p:b.length<=1000)(h:mR s=aa)(l:¬(b.length:Int)=s.iZ):iB 37 [mn s,jJ b]<|I ac:=
 iL (af [.c<|zE s g w,ai 8 (!(mR s))<|by rw[h];rfl,ah 14 ((b.length:Int) != s.iZ)<|by simpa using l])
section
variable(y:∀ i,(b.getD i jT).jA)(p:b.length<=1000)(z:mR s=aa)(l:(b.length:Int)=s.iZ)
section
variable(N:Nat)(o:N<b.length)(B:∀ k,k<N->og (b.getD k jT)=aa/\(b.getD k jT).all=ac)
def aqQ(h:(b.getD N jT).all=aa):iB 37 [mn s,jJ b]<|I ac:=
 iL (af [.c<|zE s g w,ai 8 (!(mR s))<|by rw[z];rfl,ai 14 ((b.length:Int) != s.iZ)<|by simp[l],.s (Sp.jL (N4 s b N) 0 N U (λx k Y=>by
    have C:=y x;exact iU (af [tT 19 ((x:Int)<b.length) U,iX (x:Int)<|b.length,ai 26 ((b.getD x jT).all)<|(B x U).2,iX (x:Int)<|b.length,.c<|BF (b.getD x jT) Z,ai 33 (!(og<|b.getD x jT))<|by rw[(B x U).1];rfl,iN<|(x:Int)+1]) aI)
  (λk=>by
    have C:=y N;exact iU (af [tT 19 ((N:Int)<b.length) U,iX (N:Int)<|b.length,S 26 h]) aI) aM:jK 4 Tryz.f37 (N4 s b N 0) .ret ⟨35,aa,[(4,.e<|I ac)],[]⟩) .nil])
def aqR(h:(b.getD N jT).all=ac)(M:og (b.getD N jT)=ac):iB 37 [mn s,jJ b]<|I ac:=
 iL (af [.c<|zE s g w,ai 8 (!(mR s))<|by rw[z];rfl,ai 14 ((b.length:Int) != s.iZ)<|by simp[l],.s (Sp.jL (N4 s b N) 0 N U (λx k Y=>by
    have C:=y x;exact iU (af [tT 19 ((x:Int)<b.length) U,iX (x:Int)<|b.length,ai 26 ((b.getD x jT).all)<|(B x U).2,iX (x:Int)<|b.length,.c<|BF (b.getD x jT) Z,ai 33 (!(og<|b.getD x jT))<|by rw[(B x U).1];rfl,iN<|(x:Int)+1]) aI)
  (λk=>by
    have C:=y N;exact iU (af [tT 19 ((N:Int)<b.length) U,iX (N:Int)<|b.length,S 26 h,iX (N:Int)<|b.length,.c<|BF (b.getD N jT) Z,ah 33 (!(og<|b.getD N jT))<|by rw[M];rfl]) aI) aM:jK 4 Tryz.f37 (N4 s b N 0) .ret ⟨35,aa,[(4,.e<|I ac)],[]⟩) .nil])
end
def aqS(B:∀ k,k<b.length->og (b.getD k jT)=aa/\(b.getD k jT).all=ac):iB 37 [mn s,jJ b]<|I aa:=
 iL (af [.c<|zE s g w,ai 8 (!(mR s))<|by rw[z];rfl,ai 14 ((b.length:Int) != s.iZ)<|by simp[l],.s (Sp.jL (acT s b) 0 b.length U (λx h Y=>by
    have C:=y x;exact iU (af [tT 19 ((x:Int)<b.length) U,iX (x:Int)<|b.length,ai 26 ((b.getD x jT).all)<|(B x U).2,iX (x:Int)<|b.length,.c<|BF (b.getD x jT) Z,ai 33 (!(og<|b.getD x jT))<|by rw[(B x U).1];rfl,iN<|(x:Int)+1]) aI)
  (λh=>by
    exact iU (af [tF 19 ((b.length:Int)<b.length) U]) aI) aM:jK 4 Tryz.f37 (acT s b 0) (.exit 0) ⟨35,aa,[],[]⟩) .nil])
end
end
end
noncomputable def yO(b:List RI):Bool:=mR s&&Dd s.iZ b
def FL(g:s.jA)(m:s.nO)(b:List RI)(x:∀ i,(b.getD i jT).jA)(p:b.length<=1000):iB 37 [mn s,jJ b]<|I<|yO s b:=by
 unfold yO;cases hs:mR s with
 |false=>exact aqO s g m b x p hs
 |true=>
  rw[dw];by_cases h:(b.length:Int)=s.iZ
  rotate_left
  .rw [show Dd s.iZ b=ac by unfold Dd;rw[bw h];rfl];exact aqP s g m b x p hs h
  by_cases c:((be b.length).all λi=>py<|b.getD i jT)=aa
  .rw [show Dd s.iZ b=aa by unfold Dd;rw[bu h,c];rfl];exact aqS s g m b x p hs h λk y=>by simpa[py]using List.all_eq_true.1 c k (ca.2 y)
  .rw [show Dd s.iZ b=ac by unfold Dd;rw[bh c];simp];have⟨N,n,z,u⟩:=IF c;have B:∀ k,k<N->og (b.getD k jT)=aa/\(b.getD k jT).all=ac:=λk y=>by simpa[py]using u k y
   cases ha:(b.getD N jT).all with
   |true=>exact aqQ s g m b x p hs h N n B ha
   |false=>exact aqR s g m b x p hs h N n B ha (by
    cases y:og (b.getD N jT)with
    |false=>rfl
    |true=>rw[show py (b.getD N jT)=aa by unfold py;rw[y,ha];rfl]at z;cases z)
end
def am6:(prog.info? 26).map (λi=>(i.zero,i.size,i.bytes))=some (some<|.slice am 0 0,1,24):= aI 
def afU(n:Nat):∀ u,u ∈ Builtin.zeroCells (aL<|.slice am 0 0) n->qI u=ac:=by
 intro u h;simp only[Builtin.zeroCells,gp,gq]at h;obtain⟨q,x,rfl⟩:=h;have c:aL (.slice am 0 0) = #[.slice am 0 0]:=rfl;rw[c]at x ⊢;have s:(#[Value.slice am 0 0]:Array av).size=1:=rfl;rw[s,dq];rfl
set_option maxRecDepth 100000 in
def alU(n:Nat)(l:n<=1000000):wJ prog Tb 76 [.v<|.slice am 0 0,D (n:Int)] aa 26 0 1 λ_ _=>.any:=by
 refine⟨call76,λw B s K t r=>?_⟩;obtain⟨g,s,rfl,v,r⟩:=r.nm;obtain⟨f,s,rfl,y,r⟩:=r.nm;obtain rfl:=r.sj;obtain rfl:=z.lr v;obtain rfl:=z.lr y;show Calls _ _ #[.slice am 0 0,.int .i64 (n:Int)] w _;clear v y r t K;by_cases q:n=0
 .subst q;go_enter func76,ntmps76;go_wp2;go_ret;exact⟨_,rfl,Below.refl _ _,λ_ _=>undef,.inl ⟨rfl,rfl⟩,λx b=>by simp[bf]at b,λi j h=>absurd h<|bD _⟩
 .obtain ⟨i,h,p,v,y⟩:=info_parts am6;have e:IntKind.i64.wrap ((n:Int)-0)=n:=i64_in _;have L:IntKind.i64.wrap (n:Int)=n:=i64_in _;have d:decide ((n:Int)<0)=ac:=bw U;have c:decide ((0:Int)<n)=aa:=bu U;have E:n<=grownCap w n 0 26:=grownCap_ge w n 0 _;go_enter func76,ntmps76;go_wp2_with (at_builtin;go_must (refine afL aJ _ _ _ _ aJ _ i _ underlying41 underlying3 h p U n U U (by rw[y];omega) aJ aJ ?_))
  go_ret;have m:(aL<|.slice am 0 0).size=1:=rfl;refine⟨_,rfl,Vf w _,λ_ _=>undef,.inr ⟨w.heap.size,0,grownCap w n 0 26,_,rfl,heap_alloc_new w _,cj _,grownCap_le_maxLen w n 0 _<|by unfold maxLen;omega,?_,λi j h=>absurd h<|bD _,λ_ u k=>?_⟩,λx b=>?_,λi j h=>absurd h<|bD _⟩
  .simp only[atF,size_zeroCells,m,<-bT,ct];exact bX 1 U 
  .rcases fA.1 k with k|k
   .exact afU _ u k
   .exact afU _ u k
  .simp [bf]at b;subst b;exact⟨bA _,Vg w _⟩
end Go.Proofs.YthalchiobglflaaGreatDoor
namespace Go.Proofs.YthalchiobglflaaGreatDoor.Fp
def Wm{s:Bool}{m:Nat}{e:Int}(k:H m<=60000)(l:-60000<=e)(O:e<=60000):(iy (canon s m e).m).length<=2900 /\ -200000<=(canon s m e).e/\(canon s m e).e<=200000:=by
 by_cases h:m=0
 .subst h;rw[Gn];exact⟨by rw[show kq.m=0 from rfl,pj];decide,aG,aG⟩
 .have⟨y,z,x,u⟩:=EA (s:=s) (e:=e) h;have v:=oP x;exact⟨Sy U,U,U⟩
def aqf{a b:Dy}(h:a.iE)(x:b.iE):(iy (ml a b).m).length<=2900 /\ -200000<=(ml a b).e/\(ml a b).e<=200000:=by
 have k:=h.bits;have y:=x.bits;have z:=h.exp;have u:=x.exp;have v:H (a.m*b.m)<=H a.m+H b.m:=by
  rw[mo,bC];exact awm (qW a.m)<|qW b.m
 exact Wm U U U 
def acd{a:Dy}{k:Int}(h:k<=a.e):H (a.num k).natAbs<=H a.m+(a.e-k).toNat:=by
 have e:(a.num k).natAbs=a.m*2^(a.e-k).toNat:=by
  unfold Dy.num Dy.kC;split
  .rw [gJ];exact ez _
  .exact ez _
 rw[e];by_cases x:a.m=0
 .rw [x,cV];exact cj _
 .rw [sO x];exact bA _
section
variable{a b:Dy}(p:a.iE)(n:b.iE)
def at7:(iy (jl a b).m).length<=2900 /\ -200000<=(jl a b).e/\(jl a b).e<=200000:=by
 have x:=p.bits;have y:=n.bits;have z:=p.exp;have u:=n.exp;have l:=p.len;have v:=n.len;unfold jl;split
 .exact ⟨U,U,U⟩
 .split
  .exact ⟨U,U,U⟩
  .have g:=acd (a:=a) (k:=min a.e b.e) U ;have h:=acd (a:=b) (k:=min a.e b.e) U;refine Wm ?_ U U;obtain⟨K,t⟩:∃ K,K=40000:=⟨_,rfl⟩
   have s:=mo.1<|bF g (U:H a.m+(a.e-min a.e b.e).toNat<=K);have r:=mo.1<|bF h (U:H b.m+(b.e-min a.e b.e).toNat<=K);refine bF ((mo (k:=K+1)).2 ?_) (U:K+1<=60000);have q:(a.num (min a.e b.e)+b.num (min a.e b.e)).natAbs<=(a.num<|min a.e b.e).natAbs+(b.num<|min a.e b.e).natAbs:=Int.natAbs_add_le _ _;rw[bI];generalize 2^K=P at *
   omega
def WJ(h:jQ a b=0):a=b:=by
 have x:pM a<|min a.e b.e:=.inr U;have k:pM b<|min a.e b.e:=.inr U;rw[Gr x k]at h;refine Qf p.canon n.canon x k ?_;unfold z8 at h;split at h
 .omega
 .split at h<;>omega
end
section
variable{a b c:Dy}(z:a.iE)(h:b.iE)(u:c.iE)
def NC(k:jQ a c<=0)(y:jQ b c<=0)(x:c=a\/c=b):jz a b=c:=by
 unfold jz;rcases x with rfl|rfl
 .rw [bn U]
 .split
  .rfl
  .rename_i h;have:=AV a c;exact WJ z u U 
def abo(k:jQ c a<=0)(y:jQ c b<=0)(x:c=a\/c=b):jI a b=c:=by
 unfold jI;rcases x with rfl|rfl
 .have:=AV c b;rw[bn U]
 .split
  .rfl
  .rename_i h;have:=AV a c;exact WJ z u U 
end
def NP(d:Dy)(k:Int):(mF d).num k=((d.num k).natAbs:Int):=by
 unfold Dy.num Dy.kC mF;cases d.neg
 .simp;exact(ez<|d.m*2^(d.e-k).toNat).symm▸by simp
 .simp only[bS,bE,bK];rw[gJ,ez]
section
variable{d:Dy}(u:d.nj){k:Int}
def U9(h:0<=d.num k):mF d=d:=by
 rcases u with⟨x,y,z⟩|x
 .unfold mF;rw[<-y]
 .cases hn:d.neg with
  |false=>unfold mF;rw[<-hn]
  |true=>
   have:0<d.kC k:=zj U k;unfold Dy.num at h;rw[hn,bt rfl]at h;omega
def Va(h:d.num k<=0):mF d=ji d:=by
 rcases u with⟨x,y,z⟩|x
 .unfold mF ji;rw[x,y];simp
 .cases hn:d.neg with
  |true=>unfold mF ji;rw[hn];simp
  |false=>
   have:0<d.kC k:=zj U k;unfold Dy.num at h;rw[hn,bn aG]at h;omega
end
def aom{x:Iv}(y:x.lo.iE)(z:x.hi.iE)(u:jQ x.lo x.hi<=0):nX x=jz (ji x.lo) x.hi:=by
 obtain⟨k,v,b⟩:∃ k:Int,k<=x.lo.e/\k<=x.hi.e:=⟨min x.lo.e x.hi.e,U,U⟩
 have L:pM x.lo k:=.inr v;have a:pM x.hi k:=.inr b;have N:pM (ji x.lo) k:=IB L;have A:pM (mF x.lo) k:=L;have B:pM (mF x.hi) k:=a;have l:=(qd L a).1 u;have n:=Kp (d:=x.lo) k;have t:=NP x.lo k;have s:=NP x.hi k;unfold nX;by_cases c:0<jQ x.hi (ji x.lo)
 .have e:jz (ji x.lo) x.hi=x.hi:=by unfold jz;rw[bt c]
  have G:¬x.hi.num k<=(ji x.lo).num k:=λh=>by have:=(qd a N).2 h;omega
  rw[e];exact NC (uD y) (uD z) z ((qd A a).2 U) ((qd B a).2 U)<|.inr (U9 z.canon (k:=k) U).symm
 .have e:jz (ji x.lo) x.hi=ji x.lo:=by unfold jz;rw[bn c]
  have r:x.hi.num k<=(ji x.lo).num k:=(qd a N).1 U;rw[e];exact NC (uD y) (uD z) (sT y) ((qd A N).2 U) ((qd B N).2 U)<|.inl (Va y.canon (k:=k) U).symm
def aeJ{d:Dy}(k:Int):(0<d.jh↔0<d.num k)/\(d.jh<0↔d.num k<0):=by
 have⟨x,y,z⟩:=S5 (d:=d) k;rcases F1 d with⟨_,h⟩|⟨_,_,h⟩|⟨_,_,h⟩
 .have:=x h;rw[h];omega
 .have:=y h;rw[h];omega
 .have:=z h;rw[h];omega
def aot{x:Iv}(z:x.all=ac)(h:x.lo.iE)(y:x.hi.iE)(u:jQ x.lo x.hi<=0):pk x=if nk x=0 then kq else jz x.lo (ji x.hi):=by
 unfold pk;by_cases s:nk x=0
 .rw [bt s,bt s]
 .rw [bn s,bn s];obtain⟨k,v,b⟩:∃ k:Int,k<=x.lo.e/\k<=x.hi.e:=⟨min x.lo.e x.hi.e,U,U⟩
  have a:pM x.lo k:=.inr v;have H:pM x.hi k:=.inr b;have N:pM (ji x.hi) k:=IB H;have A:pM (mF x.lo) k:=a;have B:pM (mF x.hi) k:=H;have l:=(qd a H).1 u;have r:=Kp (d:=x.hi) k;have q:=NP x.lo k;have m:=NP x.hi k;have L:=aeJ (d:=x.lo) k;have t:=aeJ (d:=x.hi) k;by_cases p:0<x.lo.jh
  .have Z:=L.1.1 p;have e:=U9 h.canon (k:=k) U;rw[abo (uD h) (uD y) h ((qd a A).2 U) ((qd a B).2 U)<|.inl e.symm];exact(NC h (sT y) h (Cz _) ((qd N a).2 U)<|.inl rfl).symm
  .have n:x.hi.jh<0:=by
    apply b8;intro n;unfold nk at s;rw[z,bn aG,bn p,bn n]at s;exact s rfl
   have w:=t.2.1 n;have e:=Va y.canon (k:=k) U;rw[abo (uD h) (uD y) (sT y) ((qd N A).2 U) ((qd N B).2 U)<|.inr e.symm];exact(NC h (sT y) (sT y) ((qd a N).2 U) (Cz _)<|.inr rfl).symm
def qD{a b:Dy}{p:Nat}{up:Bool}(h:1<=p:=by omega)(i:p<=4096:=by omega):(lK a b p up).iE:=by
 unfold lK;split
 .exact tY
 .exact nV _ _ _ _ _ _ h i
def abq(a:Dy):jI a a=a:=by unfold jI;split<;>rfl
def abn(a:Dy):jz a a=a:=by unfold jz;split<;>rfl
end Go.Proofs.YthalchiobglflaaGreatDoor.Fp
namespace Go.Proofs.YthalchiobglflaaGreatDoor
open Go.RowKit Fp Pu
def ahO(x:RI)(g:x.jA):iB 139 [mY x]<|I<|!py x:=
 iL (.w (x.all=aa)
  (λk=>Y [S 4 k]<|V (I aa) (I<|!py x)<|nF<|by unfold py;simp_all)
  (λk=>Y [S 4<|bh k,.c<|aau x g]<|V (I<|!(og x)) (I<|!py x)<|nF<|by unfold py;simp_all))
noncomputable def uE(b:List RI):Bool:=decide (1<=b.length/\b.length<=8)&&(be b.length).all λi=>py<|b.getD i jT
def ahP(b:List RI)(g:∀ i,(b.getD i jT).jA)(p:b.length<=1000):iB 80 [jJ b]<|I<|uE b:=
 iL (.w (1<=(b.length:Int))
  (λk=>Y [S 5<|bu k]<|.w ((b.length:Int)<=8)
   (λh=>Y [S 9<|bu h,.c<|acw 139 b (λi=>ahO _<|g i) p]<|V (I<|!(!((be b.length).all λi=>py<|b.getD i jT))) (I<|uE b)<|nF aZ)
   (λh=>Y [S 9<|bw h]<|V (I ac) (I<|uE b)<|nF aZ))
  (λk=>Y [S 5<|bw k]<|V (I ac) (I<|uE b)<|nF aZ))
def Pz(s:kz)(x:List RI)(g:∀ i,(x.getD i jT).jA)(l:x.length<=1000):iB 79 [jJ x,(.jE 5 λj=>[D s.iK,oY s.iz,pJ s.iR,D s.iZ,jJ s.params].getD j .any)]<|I<|!(uE x&&decide ((x.length:Int)=s.iZ)):=
 iL (Y [.c<|ahP x g l]<|.w (uE x=aa)
  (λk=>Y [S 5 k]<|V (I<|(x.length:Int) != s.iZ) (I<|!(uE x&&decide ((x.length:Int)=s.iZ)))<|nF<|by first|(simp_all;done)|(simp_all;rfl))
  (λk=>Y [S 5<|bh k]<|V (I aa) (I<|!(uE x&&decide ((x.length:Int)=s.iZ)))<|nF<|by first|(simp_all;done)|(simp_all;rfl)))
noncomputable def uY(s:kz)(x:List RI):Bool:=mR s&&(uE x&&decide ((x.length:Int)=s.iZ))
def LL(s:kz)(g:s.jA)(m:s.nO)(x:List RI)(y:∀ i,(x.getD i jT).jA)(l:x.length<=1000):iB 30 [mn s,(.sl aa 1 1 λh j=>[jJ x].getD (h*1+j)<|.v<|.bool ac)]<|I<|uY s x:=
 iL (Y [.c<|afa s g m]<|.w (mR s=aa)
  (λk=>Y [S 6 k,.c (T4 aa 1 _ 79 [(.jE 5 λj=>[D s.iK,oY s.iz,pJ s.iR,D s.iZ,jJ s.params].getD j .any)] (λ_=>!(uE x&&decide ((x.length:Int)=s.iZ))) (λi z=>by obtain rfl:i=0:= U;exact Pz s x y l) U:iB 10 [(.sl aa 1 1 λh j=>[jJ x].getD (h*1+j)<|.v<|.bool ac),.fn 79 [(.jE 5 λj=>[D s.iK,oY s.iz,pJ s.iR,D s.iZ,jJ s.params].getD j .any)]] _)]<|V (I<|!((be 1).any λ_=>!(uE x&&decide ((x.length:Int)=s.iZ)))) (I<|uY s x)<|nF<|by unfold uY;simp_all)
  (λk=>Y [S 6<|bh k]<|V (I ac) (I<|uY s x)<|nF<|by unfold uY;simp_all))
def Dr(x:RI):Bool:=decide (20<x.lo.L.length)||decide (20<x.hi.L.length)
def ng(l:List RI):Bool:=decide (10<l.length)||(be l.length).any λi=>Dr<|l.getD i jT
def s7(s:kz)(k p:Int):Bool:=(decide (3<s.iZ)&&decide (s.iZ<=4))||(decide (2<s.params.length)||(decide (40<s.iz.length)||((decide (8<k)&&decide (k<16))||(decide (64<p)&&decide (p<=512)))))
def alP(x:RI):iB 29 [mY x]<|I<|Dr x:=
 iL (.w (20<(x.lo.L.length:Int))
  (λk=>Y [S 7<|bu k]<|V (I aa) (I<|Dr x)<|nF<|by unfold Dr;rw[dW];simp;omega)
  (λk=>Y [S 7<|bw k]<|V (I<|decide (20<(x.hi.L.length:Int))) (I<|Dr x)<|nF<|by unfold Dr;rw[dW];simp;omega))
def MA(l:List RI):iB 27 [jJ l]<|I<|ng l:=
 iL (.w (10<(l.length:Int))
  (λk=>Y [S 5<|bu k]<|V (I aa) (I<|ng l)<|nF<|by unfold ng;simp[(U:10<l.length)])
  (λk=>Y [S 5<|bw k,.c (Nr aa l.length (λi j=>(AF<|l.getD i jT).getD j .any) 29 [] (λi=>Dr<|l.getD i jT) (λi _=>alP _) U:iB 28 [jJ l,.fn 29 []] _)]<|V (I<|(be l.length).any λi=>Dr<|l.getD i jT) (I<|ng l)<|nF<|by unfold ng;simp[(U:¬10<l.length)]))
def ad1(p:Int):iB 38 [D p]<|I<|mi p:=
 iL (.w (8<=p)
  (λk=>Y [S 4<|bu k]<|V (I<|decide (p<=512)) (I<|mi p)<|by simp[mi,k])
  (λk=>Y [S 4<|bw k]<|V (I ac) (I<|mi p)<|by simp[mi,k]))
def PO{s:kz}(g:s.jA){x:List RI}:uY s x=yO s x:=by
 unfold uY yO;cases h1:mR s with
 |false=>rfl
 |true=>
  rw[dw,dw];have⟨o,_⟩:=adV g h1;have k:=o.s1;have y:=o.s4;have e:(s.v.iZ:Int)=s.iZ:=by
   show(s.iZ.toNat:Int)=s.iZ;have:1<=s.iZ.toNat:=k;omega
  unfold uE Dd;by_cases h:(x.length:Int)=s.iZ
  .rw [bu h,bu (U:1<=x.length/\x.length<=8)];simp
  .rw [bw h];simp
def asC(x:Iv)(k:x.iE):iB 58 [O x,O x]<|I aa:=by
 have⟨w,h⟩:=k.kN;exact iL<|af [ah 9 (x.all==x.all) aK,.c<|adv x.lo x.lo aa ⟨λ_=>rfl,λ_=>rfl⟩ (by have:=w.iy;omega)<|by have:=w.iy;omega,.c<|adv x.hi x.hi aa ⟨λ_=>rfl,λ_=>rfl⟩ (by have:=h.iy;omega)<|by have:=h.iy;omega]
def KV(b:List Iv)(h:∀ i,i<b.length->(b.getD i L).iE)(l:b.length<=1000:=by omega):iB 17 [K b,K b]<|I aa:=
 iL (af [.c<|VJ b b 58 [] (λ_=>aa) rfl l (λi x=>asC _<|h i x) (λ_ _=>rfl)])
noncomputable def zf(s:kz)(x:List RI):Bool:=uE x&&decide ((x.length:Int)=s.iZ)
noncomputable def vS(s:kz)(x y:List RI):Bool:=mR s&&(zf s x&&zf s y)
def ahm(s:kz)(x y:List RI)(g:∀ i,(x.getD i jT).jA)(k:∀ i,(y.getD i jT).jA)(l:x.length<=1000)(m:y.length<=1000):iB 10 [(.sl aa 2 1 λh j=>[jJ x,jJ y].getD (h*1+j)<|.v<|.bool ac),.fn 79 [(.jE 5 λj=>[D s.iK,oY s.iz,pJ s.iR,D s.iZ,jJ s.params].getD j .any)]]<|I<|!(zf s x&&zf s y):=by
 have:=T4 aa 2 (λh j=>[jJ x,jJ y].getD (h*1+j)<|.v<|.bool ac) 79 [(.jE 5 λj=>[D s.iK,oY s.iz,pJ s.iR,D s.iZ,jJ s.params].getD j .any)] (λi=>if i=0 then !zf s x else !zf s y) (λi z=>by
  obtain rfl|rfl:i=0\/i=1:= U 
  .exact Pz s x g l
  .exact Pz s y k m) U 
 exact this.j9<|.jB<|by rw[show be 2=[0,1]from rfl];simp[Bool.not_and]
def LK(s:kz)(g:s.jA)(m:s.nO)(x y:List RI)(h:∀ i,(x.getD i jT).jA)(z:∀ i,(y.getD i jT).jA)(l:x.length<=1000)(W:y.length<=1000):iB 30 [mn s,(.sl aa 2 1 λu j=>[jJ x,jJ y].getD (u*1+j)<|.v<|.bool ac)]<|I<|vS s x y:=
 iL (Y [.c<|afa s g m]<|.w (mR s=aa)
  (λk=>Y [S 6 k,.c<|ahm s x y h z l W]<|V (I<|!(!(zf s x&&zf s y))) (I<|vS s x y)<|nF<|by unfold vS;simp_all)
  (λk=>Y [S 6<|bh k]<|V (I ac) (I<|vS s x y)<|nF<|by unfold vS;simp_all))
noncomputable def xn(t:RI):Bool:=!t.all&&(og t&&decide (0<=t.lo.dy.jh))
def ato(t:RI)(g:t.jA)(h:og t=aa)(a:t.all=ac):iB 68 [Ea t.lo]<|D (RD.dy t.lo).jh:=by
 rcases ux.1 h with q|⟨_,q,_⟩
 .rw [q.1]at a;cases a
 .rw [show Ea t.lo=iJ t.lo.dy by rw[<-ajU,q.eq g.lo]];exact oC _ q.valid
def afk(t:RI)(g:t.jA):iB 33 [mY t]<|I<|xn t:=
 iL (.w (t.all=aa)
  (λk=>Y [S 4 k]<|V (I ac) (I<|xn t)<|nF<|by unfold xn;simp_all)
  (λk=>Y [S 4<|bh k,.c<|aau t g]<|.w (og t=aa)
   (λh=>Y [S 8 h,.c<|ato t g Z<|by simp_all]<|V (I<|decide (0<=(RD.dy t.lo).jh)) (I<|xn t)<|nF<|by unfold xn;simp_all)
   (λh=>Y [S 8<|bh h]<|V (I ac) (I<|xn t)<|nF<|by unfold xn;simp_all)))
noncomputable def BH(t:RI)(k p:Int):Bool:=mi p&&((decide (1<=k)&&decide (k<=15))&&xn t)
section
variable(s:kz)(g:s.jA)(m:s.nO)(x y:List RI)(r:∀ i,(x.getD i jT).jA)(q:∀ i,(y.getD i jT).jA)(l:x.length<=1000)(W:y.length<=1000)(t:RI)
def agx(z:t.jA)(k p:Int)(h:vS s x y=ac):iB 6 [mn s,jJ x,jJ y,mY t,D k,D p]<|.iO [.v<|.slice am 0 0,D 1]:=
 iL (af [.c<|LK s g m x y r q l W,S 24 h])
def agz(u:t.jA)(k p:Int)(h:vS s x y=aa)(z:(decide (8<=p)&&decide (p<=512))=ac):iB 6 [mn s,jJ x,jJ y,mY t,D k,D p]<|.iO [.v<|.slice am 0 0,D 2]:=
 iL (af [.c<|LK s g m x y r q l W,S 24 h,.c<|FI p,S 28 z])
def agA(v:t.jA)(k p:Int)(h:vS s x y=aa)(z:(decide (8<=p)&&decide (p<=512))=aa)(u:(decide (1<=k)&&decide (k<=15))=ac):iB 6 [mn s,jJ x,jJ y,mY t,D k,D p]<|.iO [.v<|.slice am 0 0,D 2]:=
 iL (af [.c<|LK s g m x y r q l W,S 24 h,.c<|FI p,S 28 z,.c<|Kv k,S 32 u])
section
variable(v:t.jA)(k p:Int)(n:vS s x y=aa)
def agB(h:(decide (8<=p)&&decide (p<=512))=aa)(z:(decide (1<=k)&&decide (k<=15))=aa)(u:xn t=ac):iB 6 [mn s,jJ x,jJ y,mY t,D k,D p]<|.iO [.v<|.slice am 0 0,D 2]:=
 iL (af [.c<|LK s g m x y r q l W,S 24 n,.c<|FI p,S 28 h,.c<|Kv k,S 32 z,.c<|afk t v,S 37 u])
def agy(h:BH t k p=ac):iB 6 [mn s,jJ x,jJ y,mY t,D k,D p]<|.iO [.v<|.slice am 0 0,D 2]:=by
 unfold BH mi at h;cases c1:(decide (8<=p)&&decide (p<=512))with
 |false=>exact agz s g m x y r q l W t v k p n c1
 |true=>
  rw[c1,dw]at h;cases c2:(decide (1<=k)&&decide (k<=15))with
  |false=>exact agA s g m x y r q l W t v k p n c1 c2
  |true=>
   rw[c2,dw]at h;exact agB s g m x y r q l W t v k p n c1 c2 h
end
end
def Dj(x y z w:List RI):iB 26 [(.sl aa 2 1 λh k=>[(.sl aa 3 1 λh k=>[jJ x,jJ y,jJ z].getD (h*1+k)<|.v<|.bool ac),(.sl aa 1 1 λh k=>[jJ w].getD (h*1+k)<|.v<|.bool ac)].getD (h*1+k)<|.v<|.bool ac)]<|.sl aa 4 1 λh k=>[jJ x,jJ y,jJ z,jJ w].getD (h*1+k)<|.v<|.bool ac:=
 iL (Y [.u 70,tT 12 ((0:Int)<2) U,iX 0 2,iN<|0+3,tF 20 (((0+3):Int)<0) U,iN<|0+1,tT 12 (((0+1):Int)<2) U,iX (0+1) 2,
  iN ((0+3)+1),tF 20 ((((0+3)+1):Int)<0) U,iN<|(0+1)+1,tF 12 ((((0+1)+1):Int)<2) U,.cn (alU _<|by first|omega|decide:wK 76 [.v<|.slice am 0 0,D<|(0+3)+1] aa 26 0 1 λ_ _=>.any),.u 70,tT 28 ((0:Int)<2) U,iX 0 2,.a (U:(0+3)*24<=140737488355328),iN<|0+1,tT 28 (((0+1):Int)<2) U,iX (0+1) 2,.a (U:(3+1)*24<=140737488355328),iN<|(0+1)+1,tF 28 ((((0+1)+1):Int)<2) U,.z 24]<|rR (.sl aa 4 1 λh k=>[jJ x,jJ y,jJ z,jJ w].getD (h*1+k)<|.v<|.bool ac) (.sl λi j u v=>by obtain rfl:j=0:= U;obtain rfl|rfl|rfl|rfl:i=0\/i=1\/i=2\/i=3:= U <;>exact⟨.jB rfl,rfl⟩:E.le (.sl aa 4 1 λh k=>if h<3 then(λh k=>if h<0 then(λ_ _=>.any) h k else(E.lO<|.sl aa 3 1 λh k=>[jJ x,jJ y,jJ z].getD (h*1+k)<|.v<|.bool ac) (h-0) k) h k else(E.lO<|.sl aa 1 1 λh k=>[jJ w].getD (h*1+k)<|.v<|.bool ac) (h-3) k)<|.sl aa 4 1 λh k=>[jJ x,jJ y,jJ z,jJ w].getD (h*1+k)<|.v<|.bool ac))
def nG(s:kz)(k p:Int)(x y z:List RI):Bool:=s7 s k p||(ng x||(ng y||(ng z||ng s.params)))
def Dw(s:kz)(x y z:List RI):iB 10 [(.sl aa 4 1 λh j=>[jJ x,jJ y,jJ z,jJ s.params].getD (h*1+j)<|.v<|.bool ac),.fn 27 []]<|I<|ng x||(ng y||(ng z||ng s.params)):=by
 have:=T4 aa 4 (λh j=>[jJ x,jJ y,jJ z,jJ s.params].getD (h*1+j)<|.v<|.bool ac) 27 [] (λi=>if i=0 then ng x else if i=1 then ng y else if i=2 then ng z else ng s.params) (λi k=>by
  obtain rfl|rfl|rfl|rfl:i=0\/i=1\/i=2\/i=3:= U 
  .exact MA x
  .exact MA y
  .exact MA z
  .exact MA s.params) U 
 exact this.j9<|.jB<|by rw[show be 4=[0,1,2,3]from rfl];simp
def Jl(s:kz)(k p:Int)(x y z:List RI):iB 5 [mn s,D k,D p,(.sl aa 3 1 λi j=>[jJ x,jJ y,jJ z].getD (i*1+j)<|.v<|.bool ac)]<|I<|nG s k p x y z:=
 iL (.w (3<s.iZ)
  (λr=>Y [S 11<|bu r]<|.w (s.iZ<=4)
   (λu=>Y [S 15<|bu u]<|V (I aa) (I<|nG s k p x y z)<|nF<|by unfold nG s7;simp[r,u]<;>omega)
   (λu=>Y [S 15<|bw u]<|.w (2<(s.params.length:Int))
    (λt=>Y [S 21<|bu t]<|V (I aa) (I<|nG s k p x y z)<|nF<|by unfold nG s7;simp[r,u,t]<;>omega)
    (λt=>Y [S 21<|bw t]<|.w (40<(s.iz.length:Int))
     (λq=>Y [S 28<|bu q]<|V (I aa) (I<|nG s k p x y z)<|nF<|by unfold nG s7;simp[r,u,t,q]<;>omega)
     (λq=>Y [S 28<|bw q]<|.w (8<k)
      (λv=>Y [S 32<|bu v]<|.w (k<16)
       (λh=>Y [S 35<|bu h]<|V (I aa) (I<|nG s k p x y z)<|nF<|by unfold nG s7;simp[r,u,t,q,v,h]<;>omega)
       (λh=>Y [S 35<|bw h]<|.w (64<p)
        (λn=>Y [S 40<|bu n]<|.w (p<=512)
         (λm=>Y [S 43<|bu m]<|V (I aa) (I<|nG s k p x y z)<|nF<|by unfold nG s7;simp[r,u,t,q,v,h,n,m]<;>omega)
         (λm=>Y [S 43<|bw m,.c<|Dj x y z s.params,.c<|Dw s x y z]<|V (I<|ng x||(ng y||(ng z||ng s.params))) (I<|nG s k p x y z)<|nF<|by unfold nG s7;simp[r,u,t,q,v,h,n,m]<;>omega))
        (λn=>Y [S 40<|bw n,.c<|Dj x y z s.params,.c<|Dw s x y z]<|V (I<|ng x||(ng y||(ng z||ng s.params))) (I<|nG s k p x y z)<|nF<|by unfold nG s7;simp[r,u,t,q,v,h,n]<;>omega)))
      (λv=>Y [S 32<|bw v]<|.w (64<p)
       (λh=>Y [S 40<|bu h]<|.w (p<=512)
        (λn=>Y [S 43<|bu n]<|V (I aa) (I<|nG s k p x y z)<|nF<|by unfold nG s7;simp[r,u,t,q,v,h,n]<;>omega)
        (λn=>Y [S 43<|bw n,.c<|Dj x y z s.params,.c<|Dw s x y z]<|V (I<|ng x||(ng y||(ng z||ng s.params))) (I<|nG s k p x y z)<|nF<|by unfold nG s7;simp[r,u,t,q,v,h,n]<;>omega))
       (λh=>Y [S 40<|bw h,.c<|Dj x y z s.params,.c<|Dw s x y z]<|V (I<|ng x||(ng y||(ng z||ng s.params))) (I<|nG s k p x y z)<|nF<|by unfold nG s7;simp[r,u,t,q,v,h]<;>omega))))))
  (λr=>Y [S 11<|bw r]<|.w (2<(s.params.length:Int))
   (λu=>Y [S 21<|bu u]<|V (I aa) (I<|nG s k p x y z)<|nF<|by unfold nG s7;simp[r,u]<;>omega)
   (λu=>Y [S 21<|bw u]<|.w (40<(s.iz.length:Int))
    (λt=>Y [S 28<|bu t]<|V (I aa) (I<|nG s k p x y z)<|nF<|by unfold nG s7;simp[r,u,t]<;>omega)
    (λt=>Y [S 28<|bw t]<|.w (8<k)
     (λq=>Y [S 32<|bu q]<|.w (k<16)
      (λv=>Y [S 35<|bu v]<|V (I aa) (I<|nG s k p x y z)<|nF<|by unfold nG s7;simp[r,u,t,q,v]<;>omega)
      (λv=>Y [S 35<|bw v]<|.w (64<p)
       (λh=>Y [S 40<|bu h]<|.w (p<=512)
        (λn=>Y [S 43<|bu n]<|V (I aa) (I<|nG s k p x y z)<|nF<|by unfold nG s7;simp[r,u,t,q,v,h,n]<;>omega)
        (λn=>Y [S 43<|bw n,.c<|Dj x y z s.params,.c<|Dw s x y z]<|V (I<|ng x||(ng y||(ng z||ng s.params))) (I<|nG s k p x y z)<|nF<|by unfold nG s7;simp[r,u,t,q,v,h,n]<;>omega))
       (λh=>Y [S 40<|bw h,.c<|Dj x y z s.params,.c<|Dw s x y z]<|V (I<|ng x||(ng y||(ng z||ng s.params))) (I<|nG s k p x y z)<|nF<|by unfold nG s7;simp[r,u,t,q,v,h]<;>omega)))
     (λq=>Y [S 32<|bw q]<|.w (64<p)
      (λv=>Y [S 40<|bu v]<|.w (p<=512)
       (λh=>Y [S 43<|bu h]<|V (I aa) (I<|nG s k p x y z)<|nF<|by unfold nG s7;simp[r,u,t,q,v,h]<;>omega)
       (λh=>Y [S 43<|bw h,.c<|Dj x y z s.params,.c<|Dw s x y z]<|V (I<|ng x||(ng y||(ng z||ng s.params))) (I<|nG s k p x y z)<|nF<|by unfold nG s7;simp[r,u,t,q,v,h]<;>omega))
      (λv=>Y [S 40<|bw v,.c<|Dj x y z s.params,.c<|Dw s x y z]<|V (I<|ng x||(ng y||(ng z||ng s.params))) (I<|nG s k p x y z)<|nF<|by unfold nG s7;simp[r,u,t,q,v]<;>omega))))))
noncomputable def pQ(t:RI)(k p:Int):Bool:=mi p&&(decide (1<=k)&&(decide (k<=15)&&(og t&&(!t.all && !t.lo.neg))))
def apl{d:RD}(h:d.Ok):d.neg=aa↔d.dy.jh<0:=by
 have c:=h.valid.canon;have e:d.dy.neg=d.neg:=rfl;unfold Dy.jh;rcases c with⟨x,k,y⟩|z
 .rw [bt x,<-e,k];simp
 .have m:d.dy.m≠0:= U ;rw[bn m,e];cases d.neg<;>simp
def TV(t:RI)(k p:Int):pQ t k p=BH t k p:=by
 unfold pQ BH xn;cases ho:og t with
 |false=>simp
 |true=>
  cases ha:t.all with
  |true=>simp
  |false=>
   have h:(!t.lo.neg)=decide (0<=t.lo.dy.jh):=by
    rcases ux.1 ho with q|⟨_,q,_⟩
    .rw [q.1]at ha;cases ha
    .have:=apl q;rw[dW,cK];cases hq:t.lo.neg<;>simp[hq]at this ⊢ <;> omega
   rw[h];cases mi p<;>simp[Bool.and_assoc]
def xf{a b:Int}(h:a=b):D a=D b:=h▸rfl
section
variable(s:kz)(g:s.jA)(b:s.nO)(x y:List RI)
def akN(u:∀ i,(x.getD i jT).jA)(v:∀ i,(y.getD i jT).jA)(l:x.length<=1000)(m:y.length<=1000)(t:RI)(r:t.jA)(k p:Int)(h:mR s=ac):iB 8 [mn s,(.sl aa 2 1 λz j=>[jJ x,jJ y].getD (z*1+j)<|.v<|.bool ac),mY t,D k,D p]<|D 1:=
 iL (af [.c<|zE s g b,S 13 h])
section
variable(e:∀ i,(x.getD i jT).jA)
def akO(v:∀ i,(y.getD i jT).jA)(l:x.length<=1000)(m:y.length<=1000)(t:RI)(r:t.jA)(k p:Int)(h:mR s=aa)(z:yO s x=ac):iB 8 [mn s,(.sl aa 2 1 λu j=>[jJ x,jJ y].getD (u*1+j)<|.v<|.bool ac),mY t,D k,D p]<|D 1:=
 iL (af [.c<|zE s g b,S 13 h,.u 70,tT 18 ((0:Int)<2) U,iX 0 2,.c<|FL s g b x e l,S 26 z])
section
variable(d:∀ i,(y.getD i jT).jA)(Q:x.length<=1000)(W:y.length<=1000)(t:RI)
def akP(v:t.jA)(k p:Int)(h:mR s=aa)(z:yO s x=aa)(u:yO s y=ac):iB 8 [mn s,(.sl aa 2 1 λi j=>[jJ x,jJ y].getD (i*1+j)<|.v<|.bool ac),mY t,D k,D p]<|D 1:=
 iL (af [.c<|zE s g b,S 13 h,.u 70,tT 18 ((0:Int)<2) U,iX 0 2,.c<|FL s g b x e Q,S 26 z,iN<|0+1,tT 18 (((0+1):Int)<2) U,iX (0+1) 2,.c<|FL s g b y d W,S 26 u])
def X8(n:t.jA)(k p:Int)(m:mR s=aa)(l:yO s x=aa)(f:yO s y=aa):iB 8 [mn s,(.sl aa 2 1 λi j=>[jJ x,jJ y].getD (i*1+j)<|.v<|.bool ac),mY t,D k,D p]<|D<|if pQ t k p=aa then 0 else 2:=
 iL (Y [.c<|zE s g b,S 13 m,.u 70,tT 18 ((0:Int)<2) U,iX 0 2,.c<|FL s g b x e Q,S 26 l,iN<|0+1,tT 18 (((0+1):Int)<2) U,iX (0+1) 2,.c<|FL s g b y d W,S 26 f,iN<|(0+1)+1,tF 18 ((((0+1)+1):Int)<2) U,.c<|ad1 p]<|.w (mi p=aa)
  (λh=>Y [S 29 h]<|.w (k<1)
   (λz=>Y [S 33<|bu z]<|V (D 2) (D<|if pQ t k p=aa then 0 else 2)<|xf aU)
   (λz=>Y [S 33<|bw z]<|.w (15<k)
    (λu=>Y [S 37<|bu u]<|V (D 2) (D<|if pQ t k p=aa then 0 else 2)<|xf aU)
    (λu=>Y [S 37<|bw u,.c<|BF t n]<|.w (og t=aa)
     (λv=>Y [S 41 v]<|.w (t.all=aa)
      (λr=>Y [S 46 r]<|V (D 2) (D<|if pQ t k p=aa then 0 else 2)<|xf aU)
      (λr=>Y [S 46<|bh r]<|.w (t.lo.neg=aa)
       (λq=>Y [S 51 q]<|V (D 2) (D<|if pQ t k p=aa then 0 else 2)<|xf aU)
       (λq=>Y [S 51<|bh q]<|V (D 0) (D<|if pQ t k p=aa then 0 else 2)<|xf aU)))
     (λv=>Y [S 41<|bh v]<|V (D 2) (D<|if pQ t k p=aa then 0 else 2)<|xf aU))))
  (λh=>Y [S 29<|bh h]<|V (D 2) (D<|if pQ t k p=aa then 0 else 2)<|xf aU))
end
end
def akQ(u:∀ i,(x.getD i jT).jA)(v:∀ i,(y.getD i jT).jA)(l:x.length<=1000)(m:y.length<=1000)(t:RI)(r:t.jA)(k p:Int)(h:mR s=ac):iB 8 [mn s,(.sl aa 1 1 λz j=>[jJ y].getD (z*1+j)<|.v<|.bool ac),mY t,D k,D p]<|D 1:=
 iL (af [.c<|zE s g b,S 13 h])
def akR(r:∀ i,(x.getD i jT).jA)(h:∀ i,(y.getD i jT).jA)(l:x.length<=1000)(m:y.length<=1000)(t:RI)(q:t.jA)(k p:Int)(z:mR s=aa)(u:yO s y=ac):iB 8 [mn s,(.sl aa 1 1 λv j=>[jJ y].getD (v*1+j)<|.v<|.bool ac),mY t,D k,D p]<|D 1:=
 iL (af [.c<|zE s g b,S 13 z,.u 70,tT 18 ((0:Int)<1) U,iX 0 1,.c<|FL s g b y h m,S 26 u])
def X9(c:∀ i,(x.getD i jT).jA)(n:∀ i,(y.getD i jT).jA)(Q:x.length<=1000)(m:y.length<=1000)(t:RI)(l:t.jA)(k p:Int)(f:mR s=aa)(e:yO s y=aa):iB 8 [mn s,(.sl aa 1 1 λd j=>[jJ y].getD (d*1+j)<|.v<|.bool ac),mY t,D k,D p]<|D<|if pQ t k p=aa then 0 else 2:=
 iL (Y [.c<|zE s g b,S 13 f,.u 70,tT 18 ((0:Int)<1) U,iX 0 1,.c<|FL s g b y n m,S 26 e,iN<|0+1,tF 18 (((0+1):Int)<1) U,.c<|ad1 p]<|.w (mi p=aa)
  (λh=>Y [S 29 h]<|.w (k<1)
   (λz=>Y [S 33<|bu z]<|V (D 2) (D<|if pQ t k p=aa then 0 else 2)<|xf aU)
   (λz=>Y [S 33<|bw z]<|.w (15<k)
    (λu=>Y [S 37<|bu u]<|V (D 2) (D<|if pQ t k p=aa then 0 else 2)<|xf aU)
    (λu=>Y [S 37<|bw u,.c<|BF t l]<|.w (og t=aa)
     (λv=>Y [S 41 v]<|.w (t.all=aa)
      (λr=>Y [S 46 r]<|V (D 2) (D<|if pQ t k p=aa then 0 else 2)<|xf aU)
      (λr=>Y [S 46<|bh r]<|.w (t.lo.neg=aa)
       (λq=>Y [S 51 q]<|V (D 2) (D<|if pQ t k p=aa then 0 else 2)<|xf aU)
       (λq=>Y [S 51<|bh q]<|V (D 0) (D<|if pQ t k p=aa then 0 else 2)<|xf aU)))
     (λv=>Y [S 41<|bh v]<|V (D 2) (D<|if pQ t k p=aa then 0 else 2)<|xf aU))))
  (λh=>Y [S 29<|bh h]<|V (D 2) (D<|if pQ t k p=aa then 0 else 2)<|xf aU))
end
def Lp(w:ap)(L:List Nat)(e:Ending)(w':ap):Prop:=∃ A c,e = .returned (.slice A L.length c)/\Sl w' A c L/\jc w w'/\∀ b o s,A=some ⟨b,o,s⟩->w.heap.size<=b
def Lp.l{w:ap}{L:List Nat}{e:Ending}{w':ap}(h:Lp w L e w'):vQ w L e w':=let⟨A,c,x,k,y,_⟩:=h;⟨A,c,x,k,y⟩
def Ow.slF{w:ap}{a:Nat}{v:av}{L:List Nat}(h:Ow w a v L):∃ A c,v = .slice A L.length c/\Sl w A c L/\∀ b o s,A=some ⟨b,o,s⟩->a<=b:=by
 have⟨A,c,k,y⟩:=h.sl;refine⟨A,c,k,y,λb o s e=>?_⟩;rcases h.row.2 with⟨x,_⟩|⟨g,z,u,x,t,_⟩
 .rw [k,e]at x;injection x with x;cases x
 .rw [k,e]at x;injection x with x;cases x;exact t
def atz{B:Nat->Nat->Prop}{br:Nat->Prop}{w w':ap}{A:Option Addr}{c:Nat}{L:List Nat}(k:∀ b o,B b o->b<w.heap.size)(h:Sl w' A c L)(f:∀ b o s,A=some ⟨b,o,s⟩->w.heap.size<=b):z B br w' (F L)<|.slice A L.length c:=by
 refine .sl ac L.length 1 _ A c (λi _=>.int .u32 (L.getD i 0:Int)) h.cap h.sE h.Au (λi j _ _=>⟨rfl,λh=>by cases h⟩) (λi j _ _=>rfl) (λi j x u=>?_) λi j _ _=>.v _;obtain rfl:j=0:= U ;have⟨b,o,e,V,D⟩:=h.mL x;have y:L.getD i 0=L[i]:=by simp[bB,x]
 refine⟨b,o,e,λv=>?_,V,by rw[cr,bV,D,y]⟩;have:=k b _ v;have:=f _ _ _ e;omega
abbrev UZ(f:FuncId)(a:List E)(j:E):Prop:=Er prog Tb f a j
def ap2{f:FuncId}{L M:List Nat}(k:je L)(x:∀ (vs:Array av) (w:ap),(callFunc f vs).run prog w = .ok (.enter f vs) w)(H:∀ A c w,Sl w A c L->Tb w->Calls prog f #[.slice A L.length c] w (Lp w M)):UZ f [F L]<|F M:=by
 refine⟨x,λw B vs K y h=>?_⟩;obtain⟨r,vs,rfl,z,h⟩:=h.nm;obtain rfl:=h.sj;obtain⟨A,c,rfl,s⟩:=yr k z;refine(H A c w s K).mono λe p ⟨A,c,q,u,v,t⟩=>⟨_,q,v,atz y u t⟩
def ars(A:Option Addr)(c:Nat)(L:List Nat)(w:ap)(hs:Sl w A c L)(hlen:L.length<=100000000):
 Calls prog 282 #[.slice A L.length c] w (Lp w<|iM L):=by
 have hc:=hs.cap;have hl:=hs.sE;have fin:∀ k:Nat,k=(iM L).length->Hid (iM L=L.take k):=λk hk=>by rw[hk];exact K8 L
 go_enter func282,ntmps282;go_wp2;go_loop [3] (λi=>∃ k:Nat,k<=L.length/\i = .int .i64 k/\nB L=nB (L.take k)) (λi=>(intOf i).toNat)
 case atStart=>exact⟨L.length,bA _,rfl,aK⟩
 case round=>
  obtain⟨k,hk,rfl,ht⟩:=hrel;have HT:=J ht;clear ht;have kF:([]:List Nat).length+(L.take k).length<=10000000000:=by rw[cz];simp;omega
  have HK:=J (show k=(L.take k).length by rw[cz];omega);have h1:=Ow.empty w w.heap.size<|bA _;have h2:=(hs.take k).alloc<|.cells #[] 110;have h3:=sD (w:=w) (bA _)<|.cells #[] 110;by_cases h0:0<k
  .obtain ⟨ab,ao,rfl,hb,DK⟩:=hs.mL (i:=k-1) U ;have e1:((k:Int)-1).toNat=k-1:= U ;have Z:=J<|ON L (k-1) U;have NZ:=J<|OM L (k-1) U;rw[fP h0]at Z NZ;generalize L[k-1]=x at *
   by_cases hx:x=0
   .have Hx:=J hx;clear hx;have hb:((x:Int)==0)=aa:=by have:=Hx.out;simp;omega
    clear fin;go_wp2;go_round
    case rel=>exact⟨k-1,U,by go_num,by rw[HT.out,Z.out Hx.out]⟩
    case measure=>simp[intOf];omega
   .have hb:((x:Int)==0)=ac:= aS ;have F:=fin k (by show k=nB L;rw[HT.out,NZ.out hx]);clear fin;go_wp2_with (at_builtin;go_must (refine tX aJ _ _ aJ w.heap.size _ [] aJ h1 _ _ _ (L.take k) aJ HK.out h2 kF h3 ?_);intro v' w' mC hg qs)
    obtain⟨A',c',rfl,pH,Rk⟩:=mC.slF;go_ret;rw[F.out];exact⟨A',c',rfl,pH,(jc.alloc _ _).grown hg (sD (bA _) _) (λk hk=>by simp[bf]at hk;omega),Rk⟩
  .have:k=0:= U ;subst this;have F:=fin 0 (by show 0=nB L;rw[HT.out];rfl);clear fin;go_wp2_with (at_builtin;go_must (refine tX aJ _ _ aJ w.heap.size _ [] aJ h1 _ _ _ (L.take 0) aJ HK.out h2 kF h3 ?_);intro v' w' mC hg qs)
   obtain⟨A',c',rfl,pH,Rk⟩:=mC.slF;go_ret;rw[F.out];exact⟨A',c',rfl,pH,(jc.alloc _ _).grown hg (sD (bA _) _) (λk hk=>by simp[bf]at hk;omega),Rk⟩
def BG(L:List Nat)(k:je L)(l:L.length<=100000):UZ 282 [F L]<|F<|iM L:=
 ap2 k call282 λA c w h _=>ars A c L w h U 
def Hs(L M:List Nat)(N k:Nat)(x:Nat):PS:=⟨30,aa,[(5,.e<|D<|(N:Int)-1-(x:Int)),(0,.e<|F L),(1,.e<|F M)],[]⟩
section
variable(L:List Nat)
def NY(k:Nat)(x:Nat):PS:=⟨31,aa,[(3,.e<|D<|(L.length:Int)-1-(x:Int)),(0,.e<|F L)],[]⟩
def acJ(k:Nat)(y:Nat):PS:=⟨31,aa,[(5,.e<|.v<|.int .u32 (((L.getD ((L.length:Int)-1-(k:Int)).toNat 0)/2^y:Nat):Int)),(4,.e<|D<|(32*((L.length:Int)-1-(k:Int)))+(y:Int))],[]⟩
def uf(z:Int)(x:je L)(u:0<=z:=by omega):iB 284 [F L,D z]<|.v<|.int .u64 (L.getD z.toNat 0:Int):=by
 have v:=x.getD z.toNat
 exact iL (.w (z<(L.length:Int))
  (λh=>af [S 8<|bu h,iX z<|L.length,.o 13<|.int (k:=.u64)<|rS<|L.getD z.toNat 0])
  (λh=>by
   have y:L.getD z.toNat 0=0:=by rw[bB,cM U];rfl
   exact Y [S 8<|bw h]<|V (.v<|.int .u64 0) (.v<|.int .u64 (L.getD z.toNat 0:Int))<|by rw[y];rfl))
def CL(n:Nat)(h:je L):iB 284 [F L,D (n:Int)]<|.v<|.int .u64 (L.getD n 0:Int):=uf L n h<|Int.natCast_nonneg n
end
section
variable(L M:List Nat)
noncomputable def TB(N k:Nat)(y:je L)(z:je M)(h:N=max L.length M.length)(s:N<=1000000)(e:∀ x,x<k->L.getD (N-1-x) 0=M.getD (N-1-x) 0)(t:Tr prog Tb):Tr prog Tb:=by
 exact Y [.o 10<|oI (if(M.length:Int)>(L.length:Int)then(M.length:Int)else(L.length:Int)) (N:Int)<|by rw[h];split<;>omega,iN<|(N:Int)-1] t
section
variable(N k:Nat)(u:je L)(v:je M)(t:N=max L.length M.length)(s:N<=1000000)(q:∀ x,x<k->L.getD (N-1-x) 0=M.getD (N-1-x) 0)
def aqC(y:k=N):iB 286 [F L,F M]<|D 0:=
 iL (TB L M N k u v t s q<|af [.s (Sp.jL (Hs L M N k) 0 k U (λx h z=>by
    have j:(((N:Int)-1-(x:Int))).toNat=N-1-x:= U ;have e:=q x U;rw[<-j]at e;exact iU (Y [tT 13 (0<=((N:Int)-1-(x:Int))) U,.c<|uf L ((N:Int)-1-(x:Int)) Z,.c<|uf M ((N:Int)-1-(x:Int)) Z,tF 22 (((L.getD ((N:Int)-1-(x:Int)).toNat 0:Nat):Int)<((M.getD ((N:Int)-1-(x:Int)).toNat 0:Nat):Int)) U,.c<|uf L ((N:Int)-1-(x:Int)) Z,.c<|uf M ((N:Int)-1-(x:Int)) Z,tF 29 (((M.getD ((N:Int)-1-(x:Int)).toNat 0:Nat):Int)<((L.getD ((N:Int)-1-(x:Int)).toNat 0:Nat):Int)) U,
     iN (((N:Int)-1-(x:Int))-1)]<|.e<|af [.o 5<|oI (((N:Int)-1-(x:Int))-1)<|(N:Int)-1-((x+1:Nat):Int)]) aI)
  (λh=>by
    exact iU (af [tF 13 (0<=((N:Int)-1-(k:Int))) U]) aI) aM:jK 2 f286 (Hs L M N k 0) (.exit 0) ⟨30,aa,[],[]⟩)<|af [.o 5<|oI ((N:Int)-1)<|(N:Int)-1-((0:Nat):Int)]])
def aqE(z:k<N)(d:L.getD (N-1-k) 0<M.getD (N-1-k) 0):iB 286 [F L,F M]<|D (-1):=
 iL (TB L M N k u v t s q<|Y [.s (Sp.jL (Hs L M N k) 0 k U (λx y r=>by
    have h:(((N:Int)-1-(x:Int))).toNat=N-1-x:= U ;have e:=q x U;rw[<-h]at e;exact iU (Y [tT 13 (0<=((N:Int)-1-(x:Int))) U,.c<|uf L ((N:Int)-1-(x:Int)) Z,.c<|uf M ((N:Int)-1-(x:Int)) Z,tF 22 (((L.getD ((N:Int)-1-(x:Int)).toNat 0:Nat):Int)<((M.getD ((N:Int)-1-(x:Int)).toNat 0:Nat):Int)) U,.c<|uf L ((N:Int)-1-(x:Int)) Z,.c<|uf M ((N:Int)-1-(x:Int)) Z,tF 29 (((M.getD ((N:Int)-1-(x:Int)).toNat 0:Nat):Int)<((L.getD ((N:Int)-1-(x:Int)).toNat 0:Nat):Int)) U,
     iN (((N:Int)-1-(x:Int))-1)]<|.e<|af [.o 5<|oI (((N:Int)-1-(x:Int))-1)<|(N:Int)-1-((x+1:Nat):Int)]) aI)
  (λy=>by
    have h:(((N:Int)-1-(k:Int))).toNat=N-1-k:= U ;rw[<-h]at d;exact iU (af [tT 13 (0<=((N:Int)-1-(k:Int))) U,.c<|uf L ((N:Int)-1-(k:Int)) Z,.c<|uf M ((N:Int)-1-(k:Int)) Z,tT 22 (((L.getD ((N:Int)-1-(k:Int)).toNat 0:Nat):Int)<((M.getD ((N:Int)-1-(k:Int)).toNat 0:Nat):Int)) U]) aI) aM:jK 2 f286 (Hs L M N k 0) .ret ⟨30,aa,[(4,.e<|D (-1))],[]⟩)<|af [.o 5<|oI ((N:Int)-1)<|(N:Int)-1-((0:Nat):Int)]]<|rR (D (-1)) (.jB rfl:E.le (D (-1))<|D (-1)))
def aqD(z:k<N)(d:M.getD (N-1-k) 0<L.getD (N-1-k) 0):iB 286 [F L,F M]<|D 1:=
 iL (TB L M N k u v t s q<|af [.s (Sp.jL (Hs L M N k) 0 k U (λx y r=>by
    have h:(((N:Int)-1-(x:Int))).toNat=N-1-x:= U ;have e:=q x U;rw[<-h]at e;exact iU (Y [tT 13 (0<=((N:Int)-1-(x:Int))) U,.c<|uf L ((N:Int)-1-(x:Int)) Z,.c<|uf M ((N:Int)-1-(x:Int)) Z,tF 22 (((L.getD ((N:Int)-1-(x:Int)).toNat 0:Nat):Int)<((M.getD ((N:Int)-1-(x:Int)).toNat 0:Nat):Int)) U,.c<|uf L ((N:Int)-1-(x:Int)) Z,.c<|uf M ((N:Int)-1-(x:Int)) Z,tF 29 (((M.getD ((N:Int)-1-(x:Int)).toNat 0:Nat):Int)<((L.getD ((N:Int)-1-(x:Int)).toNat 0:Nat):Int)) U,
     iN (((N:Int)-1-(x:Int))-1)]<|.e<|af [.o 5<|oI (((N:Int)-1-(x:Int))-1)<|(N:Int)-1-((x+1:Nat):Int)]) aI)
  (λy=>by
    have h:(((N:Int)-1-(k:Int))).toNat=N-1-k:= U ;rw[<-h]at d;exact iU (af [tT 13 (0<=((N:Int)-1-(k:Int))) U,.c<|uf L ((N:Int)-1-(k:Int)) Z,.c<|uf M ((N:Int)-1-(k:Int)) Z,tF 22 (((L.getD ((N:Int)-1-(k:Int)).toNat 0:Nat):Int)<((M.getD ((N:Int)-1-(k:Int)).toNat 0:Nat):Int)) U,.c<|uf L ((N:Int)-1-(k:Int)) Z,.c<|uf M ((N:Int)-1-(k:Int)) Z,tT 29 (((M.getD ((N:Int)-1-(k:Int)).toNat 0:Nat):Int)<((L.getD ((N:Int)-1-(k:Int)).toNat 0:Nat):Int)) U]) aI) aM:jK 2 f286 (Hs L M N k 0) .ret ⟨30,aa,[(4,.e<|D 1)],[]⟩)<|af [.o 5<|oI ((N:Int)-1)<|(N:Int)-1-((0:Nat):Int)]])
end
section
variable(m:je L)(l:je M)(h:L.length<=1000000)(x:M.length<=1000000)
def acL:iB 286 [F L,F M]<|D<|kT (val L)<|val M:=by
 obtain⟨N,z⟩:∃ N,N=max L.length M.length:=⟨_,rfl⟩
 have v:val L<4294967296^N:=bJ (nE m)<|bR aG U;have y:val M<4294967296^N:=bJ (nE l)<|bR aG U;by_cases h:∃ x,x<N/\(decide (L.getD (N-1-x) 0≠M.getD (N-1-x) 0))=aa
 .have⟨k,s,p,n⟩:=si h;have e:∀ x,x<k->L.getD (N-1-x) 0=M.getD (N-1-x) 0:=λx u=>by simpa using n x u
  have j:L.getD (N-1-k) 0≠M.getD (N-1-k) 0:=by simpa using p
  have g:∀ i,N-1-k<i->Q (val L) i=Q (val M) i:=λi r=>by
   by_cases t:i<N
   .have:=e (N-1-i) U ;rw[(U:N-1-(N-1-i)=i),rX m,rX l]at this;exact this
   .rw [yP v U,yP y U]
  rw[rX m,rX l]at j;rcases Nat.lt_or_gt_of_ne j with d|d
  .have:=abd v y g d;refine(aqE L M N k m l z U e s<|by rw[rX m,rX l];exact d).j9<|.jB ?_;unfold kT;rw[bt this]
  .have:=abd y v (λi r=>(g i r).symm) d;refine(aqD L M N k m l z U e s<|by rw[rX m,rX l];exact d).j9<|.jB ?_;unfold kT;rw[bn U,bt this]
 .have e:∀ x,x<N->L.getD (N-1-x) 0=M.getD (N-1-x) 0:=λx u=>by
   apply b8;intro q;exact h ⟨x,u,by simpa using q⟩
  have g:∀ i,Q (val L) i=Q (val M) i:=λi=>by
   by_cases t:i<N
   .have:=e (N-1-i) U ;rw[(U:N-1-(N-1-i)=i),rX m,rX l]at this;exact this
   .rw [yP v U,yP y U]
  refine(aqC L M N N m l z U e rfl).j9<|.jB ?_;rw[XR v y λi _=>g i];unfold kT;rw[bn<|dL _,bn<|dL _]
def aqH:iB 283 [F L,F M]<|I<|decide (kT (val L) (val M)<0):=
 iL (af [.c<|acL L M Z Z U U])
end
end
section
variable(L:List Nat)
def aqA(k:Nat)(u:je L)(s:L.length<=1000000)(z:∀ x,x<k->L.getD (L.length-1-x) 0=0)(v:k=L.length):iB 231 [F L]<|D 0:=
 iL (af [iN<|(L.length:Int)-1,.s (Sp.jL (NY L k) 0 k U (λx y t=>by
    have j:(((L.length:Int)-1-(x:Int))).toNat=L.length-1-x:= U ;have h:=z x U;rw[<-j]at h;exact iU (Y [tT 10 (0<=((L.length:Int)-1-(x:Int))) U,iX ((L.length:Int)-1-(x:Int))<|L.length,S 17<|FC h,
     iN (((L.length:Int)-1-(x:Int))-1)]<|.e<|af [.o 3<|oI (((L.length:Int)-1-(x:Int))-1)<|(L.length:Int)-1-((x+1:Nat):Int)]) aI)
  (λy=>by
    exact iU (af [tF 10 (0<=((L.length:Int)-1-(k:Int))) U]) aI) aM:jK 2 f231 (NY L k 0) (.exit 0) ⟨31,aa,[],[]⟩)<|af [.o 3<|oI ((L.length:Int)-1)<|(L.length:Int)-1-((0:Nat):Int)]])
def aqz(k:Nat)(z:je L)(s:L.length<=1000000)(u:∀ x,x<k->L.getD (L.length-1-x) 0=0)(r:k<L.length)(d:L.getD (L.length-1-k) 0≠0):iB 231 [F L]<|D<|(32*((L.length:Int)-1-(k:Int)))+(H<|L.getD ((L.length:Int)-1-(k:Int)).toNat 0:Int):=
 iL (af [iN<|(L.length:Int)-1,.s (Sp.jL (NY L k) 0 k U (λx v q=>by
    have h:(((L.length:Int)-1-(x:Int))).toNat=L.length-1-x:= U ;have e:=u x U;rw[<-h]at e;exact iU (Y [tT 10 (0<=((L.length:Int)-1-(x:Int))) U,iX ((L.length:Int)-1-(x:Int))<|L.length,S 17<|FC e,
     iN (((L.length:Int)-1-(x:Int))-1)]<|.e<|af [.o 3<|oI (((L.length:Int)-1-(x:Int))-1)<|(L.length:Int)-1-((x+1:Nat):Int)]) aI)
  (λv=>by
    have h:(((L.length:Int)-1-(k:Int))).toNat=L.length-1-k:= U ;have i:=z.getD ((L.length:Int)-1-(k:Int)).toNat
    have n:H (L.getD ((L.length:Int)-1-(k:Int)).toNat 0)<=32:=mo.2 i;rw[<-h]at d;exact iU (af [tT 10 (0<=((L.length:Int)-1-(k:Int))) U,iX ((L.length:Int)-1-(k:Int))<|L.length,S 17<|Km d,
    iN (32*((L.length:Int)-1-(k:Int))),iX ((L.length:Int)-1-(k:Int))<|L.length,.s (Sp.jL (acJ L k) 0 (H<|L.getD ((L.length:Int)-1-(k:Int)).toNat 0) U (λy t R=>by
    have p:0<(L.getD ((L.length:Int)-1-(k:Int)).toNat 0)/2^y:=ado (vC.1 U)<|bG aG;exact iU (Y [tT 25 (0<(((L.getD ((L.length:Int)-1-(k:Int)).toNat 0)/2^y:Nat):Int)) U,iN<|((32*((L.length:Int)-1-(k:Int)))+(y:Int))+1,.a (U:0<=(1:Int)/\(1:Int)<=((32:Nat):Int)),.o 27<|.int (k:=.u32)<|CS ((L.getD ((L.length:Int)-1-(k:Int)).toNat 0)/2^y) 1]<|.e<|af [.o 5<|.int (k:=.u32) (by rw[df,<-bI]:((((L.getD ((L.length:Int)-1-(k:Int)).toNat 0)/2^y)/2^1:Nat):Int)=(((L.getD ((L.length:Int)-1-(k:Int)).toNat 0)/2^(y+1):Nat):Int)),.o 4<|oI (((32*((L.length:Int)-1-(k:Int)))+(y:Int))+1)<|(32*((L.length:Int)-1-(k:Int)))+((y+1:Nat):Int)]) aI)
  (λt=>by
    have p:(L.getD ((L.length:Int)-1-(k:Int)).toNat 0)/2^(H<|L.getD ((L.length:Int)-1-(k:Int)).toNat 0)=0:=cG<|qW _;exact iU (af [tF 25 (0<(((L.getD ((L.length:Int)-1-(k:Int)).toNat 0)/2^(H<|L.getD ((L.length:Int)-1-(k:Int)).toNat 0):Nat):Int)) U]) aI) aM:jK 7 f231 (acJ L k 0) (.exit 2) ⟨31,aa,[(4,.e<|D<|(32*((L.length:Int)-1-(k:Int)))+(H<|L.getD ((L.length:Int)-1-(k:Int)).toNat 0:Int))],[]⟩)<|af [.o 5<|.int (k:=.u32) (by rw[cA,eC]:((L.getD ((L.length:Int)-1-(k:Int)).toNat 0:Nat):Int)=(((L.getD ((L.length:Int)-1-(k:Int)).toNat 0)/2^0:Nat):Int)),.o 4<|oI (32*((L.length:Int)-1-(k:Int)))<|(32*((L.length:Int)-1-(k:Int)))+((0:Nat):Int)]]) aI) aM:jK 2 f231 (NY L k 0) .ret ⟨31,aa,[(2,.e<|D<|(32*((L.length:Int)-1-(k:Int)))+(H<|L.getD ((L.length:Int)-1-(k:Int)).toNat 0:Int))],[]⟩)<|af [.o 3<|oI ((L.length:Int)-1)<|(L.length:Int)-1-((0:Nat):Int)]])
def acK(y:je L)(v:L.length<=1000000):iB 231 [F L]<|D<|H<|val L:=by
 by_cases h:∃ x,x<L.length/\(decide (L.getD (L.length-1-x) 0≠0))=aa
 .have⟨k,t,s,r⟩:=si h;have z:∀ x,x<k->L.getD (L.length-1-x) 0=0:=λx u=>by simpa using r x u
  have j:L.getD (L.length-1-k) 0≠0:=by simpa using s
  refine(aqz L k y v z t j).j9<|.jB ?_;have p:(((L.length:Int)-1-(k:Int))).toNat=L.length-1-k:= U ;rw[p];have b:=V6 (n:=val L) (k:=L.length-1-k) (OX y λi g=>by
   by_cases m:i<L.length
   .have:=z (L.length-1-i) U ;rwa[(U:L.length-1-(L.length-1-i)=i)]at this
   .rw [bB,cM U];rfl)<|by rw[<-rX y];exact j
  rw[b,<-rX y];exact congrArg D U 
 .have z:∀ x,x<L.length->L.getD (L.length-1-x) 0=0:=λx u=>by
   apply b8;intro q;exact h ⟨x,u,by simpa using q⟩
  refine(aqA L L.length y v z rfl).j9<|.jB ?_;have:val L<4294967296^0:=OX y λi _=>by
   by_cases m:i<L.length
   .have:=z (L.length-1-i) U ;rwa[(U:L.length-1-(L.length-1-i)=i)]at this
   .rw [bB,cM U];rfl
  have l:val L=0:=by rw[cA]at this;omega
  rw[l];rfl
end
def acI(L M:List Nat)(N:Nat)(x:Nat):PS:=⟨41,ac,[(5,.own 5),(7,.e<|D x),(6,.e<|.v<|.int .u64 (kA (val L) (val M) x:Int)),(0,.e<|F L),(1,.e<|F M)],[(5,.row ac 110 x 1<|jW<|jr (val L+val M) x)]⟩
def acS(L M:List Nat)(x:Nat):PS:=⟨36,ac,[(5,.own 5),(7,.e<|D x),(6,.e<|.v<|.int .u64 (kA (val L-val M) (val M) x:Int)),(0,.e<|F L),(1,.e<|F M)],[(5,.row ac 110 x 1<|jW<|jr (val L-val M) x)]⟩
section
variable(L:List Nat)(n:Nat)(x:Nat)
def acQ:PS:=⟨36,ac,[(5,.own 5),(6,.e<|D (((n/32)+x:Nat):Int)),(0,.e<|F L),(1,.e<|D n)],[(5,.row ac 110 x 1<|jW<|jr (val L/2^n) x)]⟩
def acR:PS:=⟨36,ac,[(5,.own 5),(6,.e<|D (((n/32)+x:Nat):Int)),(0,.e<|F L),(1,.e<|D n)],[(5,.row ac 110 x 1<|jW<|jr 0 x)]⟩
end
section
variable(L M:List Nat)(i:je L)(j:je M)(h:L.length<=10000)
def aqy(l:M.length<=10000):iB 287 [F L,F M]<|F<|iy<|val L+val M:=by
 obtain⟨N,y⟩:∃ N,N=max L.length M.length:=⟨_,rfl⟩
 have v:val L<4294967296^N:=bJ (nE i)<|bR aG U;have z:val M<4294967296^N:=bJ (nE j)<|bR aG U;have r:=wP (val L) (val M) N;have c:kA (val L) (val M) (N+kA (val L) (val M) N)=0:=by
  rcases er 0 (kA (val L) (val M) N)with h|h
  .rw [(U:kA (val L) (val M) N=1)];exact aiD v z
  .have u:kA (val L) (val M) N=0:= U ;rw[u,bV];exact u
 have p:val L+val M<4294967296^(N+kA (val L) (val M) N):=by
  have h:=Pp (val L) (val M)<|N+kA (val L) (val M) N;have g:val L<4294967296^(N+kA (val L) (val M) N):=bJ v<|bR aG U;have n:val M<4294967296^(N+kA (val L) (val M) N):=bJ z<|bR aG U;rw[c,cG g,cG n]at h;exact Nat.lt_of_div_eq_zero (pw _) h
 exact pL (Y [.y 5 5 ac 110 1<|jW<|jr (val L+val M) 0,.s (Sp.jL (acI L M N) 0 (N+(kA (val L) (val M) N)) U (λx t o=>by
    have a:=BU (val L) (val M) x;rw[<-rX i,<-rX j]at a;have b:=i.getD x;have f:=j.getD x;have e:=wP (val L) (val M) x;have d:=rU (val L+val M) x;have s:((((L.getD x 0+M.getD x 0)+(kA (val L) (val M) x))%4294967296%4294967296:Nat):Int)=(Q (val L+val M) x:Int):= U ;have q:((L.getD x 0+M.getD x 0)+(kA (val L) (val M) x))/4294967296=kA (val L) (val M) (x+1):= U ;by_cases t:x<N
    .exact iU (Y [.o 14<|oI (if(M.length:Int)>(L.length:Int)then(M.length:Int)else(L.length:Int)) (N:Int)<|by rw[y];split<;>omega,tT 15 ((x:Int)<N) U,.c<|CL L x Z,.c<|CL M x Z,rp<|(L.getD x 0:Int)+(M.getD x 0:Int),
      rp ((((L.getD x 0)+(M.getD x 0):Nat):Int)+(kA (val L) (val M) x:Int)),.o 33<|.int (k:=.u64)<|Ip<|((L.getD x 0)+(M.getD x 0))+(kA (val L) (val M) x),.o 34<|.int (k:=.u32)<|yA<|(((L.getD x 0)+(M.getD x 0))+(kA (val L) (val M) x))%4294967296,.a (U:(x+1)*4<=140737488355328),.a (U:0<=(32:Int)/\(32:Int)<=((64:Nat):Int)),.o 38<|.int (k:=.u64)<|F0<|((L.getD x 0)+(M.getD x 0))+(kA (val L) (val M) x),iN<|(x:Int)+1]<|.e<|af [.o 6<|.int (k:=.u64) (by rw[q]:(((((L.getD x 0)+(M.getD x 0))+(kA (val L) (val M) x))/4294967296:Nat):Int)=(kA (val L) (val M)<|x+1:Int)),.b 5<|DQ (T:=110) rfl s]) aI 
    .have m:kA (val L) (val M) x=kA (val L) (val M) N:=by rw[(U:x=N)]
     exact iU (Y [.o 14<|oI (if(M.length:Int)>(L.length:Int)then(M.length:Int)else(L.length:Int)) (N:Int)<|by rw[y];split<;>omega,tF 15 ((x:Int)<N) U,tT 18 (0<(kA (val L) (val M) x:Int)) U,.c<|CL L x Z,.c<|CL M x Z,rp<|(L.getD x 0:Int)+(M.getD x 0:Int),
      rp ((((L.getD x 0)+(M.getD x 0):Nat):Int)+(kA (val L) (val M) x:Int)),.o 33<|.int (k:=.u64)<|Ip<|((L.getD x 0)+(M.getD x 0))+(kA (val L) (val M) x),.o 34<|.int (k:=.u32)<|yA<|(((L.getD x 0)+(M.getD x 0))+(kA (val L) (val M) x))%4294967296,.a (U:(x+1)*4<=140737488355328),.a (U:0<=(32:Int)/\(32:Int)<=((64:Nat):Int)),.o 38<|.int (k:=.u64)<|F0<|((L.getD x 0)+(M.getD x 0))+(kA (val L) (val M) x),iN<|(x:Int)+1]<|.e<|af [.o 6<|.int (k:=.u64) (by rw[q]:(((((L.getD x 0)+(M.getD x 0))+(kA (val L) (val M) x))/4294967296:Nat):Int)=(kA (val L) (val M)<|x+1:Int)),.b 5<|DQ (T:=110) rfl s]) aI)
  (λt=>by
    exact iU (Y [.o 14<|oI (if(M.length:Int)>(L.length:Int)then(M.length:Int)else(L.length:Int)) (N:Int)<|by rw[y];split<;>omega,tF 15 (((N+(kA (val L) (val M) N):Nat):Int)<N) U,tF 18 (0<(kA (val L) (val M)<|N+(kA (val L) (val M) N):Int)) U,.z 5]<|.e<|af [.o 5 (.e<|CT (ot _ _).symm:aj (.sl ac (N+(kA (val L) (val M) N)) 1<|jW<|jr (val L+val M)<|N+(kA (val L) (val M) N))<|F<|jr (val L+val M)<|N+(kA (val L) (val M) N))]) aI) aM:jK 4 f287 (acI L M N 0) (.exit 0) ⟨41,ac,[(5,.e<|F<|jr (val L+val M)<|N+(kA (val L) (val M) N))],[]⟩)<|af [.o 6<|.int (k:=.u64) (by rw[LY];rfl:0=(kA (val L) (val M) 0:Int))],.cf<|BG (jr (val L+val M)<|N+(kA (val L) (val M) N)) (uZ _ _) aV]<|V (F<|iM<|jr (val L+val M)<|N+(kA (val L) (val M) N)) (F<|iy<|val L+val M)<|by rw[F5 p])
def aqM(h:val M<=val L):iB 309 [F L,F M]<|F<|iy<|val L-val M:=by
 have p:val L-val M<4294967296^L.length:=cB (dY _ _)<|nE i;exact pL (Y [.y 5 5 ac 110 1<|jW<|jr (val L-val M) 0,.s (Sp.jL (acS L M) 0 L.length U (λx y r=>by
    have a:=aeX h x;rw[<-rX i,<-rX j]at a;have b:=i.getD x;have u:=j.getD x;have v:=wP (val L-val M) (val M) x;have t:=wP (val L-val M) (val M)<|x+1;have s:=rU (val L-val M) x;have z:(((((L.getD x 0+4294967296)-M.getD x 0)-(kA (val L-val M) (val M) x))%4294967296%4294967296:Nat):Int)=(Q (val L-val M) x:Int):= U ;have q:1-(((L.getD x 0+4294967296)-M.getD x 0)-(kA (val L-val M) (val M) x))/4294967296=kA (val L-val M) (val M) (x+1):= U ;exact iU (Y [tT 12 ((x:Int)<L.length) U,.c<|CL L x Z,rp<|(L.getD x 0:Int)+4294967296,.c<|CL M x Z,
     rp ((((L.getD x 0)+4294967296:Nat):Int)-(M.getD x 0:Int)),.o 22<|.int (k:=.u64) (U:((((L.getD x 0)+4294967296:Nat):Int)-(M.getD x 0:Int))=(((L.getD x 0+4294967296)-M.getD x 0:Nat):Int)),
     rp ((((L.getD x 0+4294967296)-M.getD x 0:Nat):Int)-(kA (val L-val M) (val M) x:Int)),.o 24<|.int (k:=.u64) (U:((((L.getD x 0+4294967296)-M.getD x 0:Nat):Int)-(kA (val L-val M) (val M) x:Int))=((((L.getD x 0+4294967296)-M.getD x 0)-(kA (val L-val M) (val M) x):Nat):Int)),.o 27<|.int (k:=.u64)<|Ip<|((L.getD x 0+4294967296)-M.getD x 0)-(kA (val L-val M) (val M) x),.o 28<|.int (k:=.u32)<|yA<|(((L.getD x 0+4294967296)-M.getD x 0)-(kA (val L-val M) (val M) x))%4294967296,.a (U:(x+1)*4<=140737488355328),.a (U:0<=(32:Int)/\(32:Int)<=((64:Nat):Int)),.o 32<|.int (k:=.u64)<|F0<|((L.getD x 0+4294967296)-M.getD x 0)-(kA (val L-val M) (val M) x),
     rp (1-(((((L.getD x 0+4294967296)-M.getD x 0)-(kA (val L-val M) (val M) x))/4294967296:Nat):Int)),.o 33<|.int (k:=.u64) (U:(1-(((((L.getD x 0+4294967296)-M.getD x 0)-(kA (val L-val M) (val M) x))/4294967296:Nat):Int))=((1-((((L.getD x 0+4294967296)-M.getD x 0)-(kA (val L-val M) (val M) x))/4294967296):Nat):Int)),
     iN ((x:Int)+1)]<|.e<|af [.o 6<|.int (k:=.u64) (by rw[q]:((1-((((L.getD x 0+4294967296)-M.getD x 0)-(kA (val L-val M) (val M) x))/4294967296):Nat):Int)=(kA (val L-val M) (val M)<|x+1:Int)),.b 5<|DQ (T:=110) rfl z]) aI)
  (λy=>by
    exact iU (Y [tF 12 ((L.length:Int)<L.length) U,.z 5]<|.e<|af [.o 5 (.e<|CT (ot _ _).symm:aj (.sl ac L.length 1<|jW<|jr (val L-val M) L.length)<|F<|jr (val L-val M) L.length)]) aI) aM:jK 4 f309 (acS L M 0) (.exit 0) ⟨36,ac,[(5,.e<|F<|jr (val L-val M) L.length)],[]⟩)<|af [.o 6<|.int (k:=.u64) (by rw[LY];rfl:0=(kA (val L-val M) (val M) 0:Int))],.cf<|BG (jr (val L-val M) L.length) (uZ _ _) aV]<|V (F<|iM<|jr (val L-val M) L.length) (F<|iy<|val L-val M)<|by rw[F5 p])
end
def aqK(L:List Nat)(n:Nat)(y:je L)(t:L.length<=10000)(s:n<=1000000):iB 285 [F L,D n]<|F<|iy<|val L/2^n:=by
 have p:val L/2^n<4294967296^(L.length-n/32):=by
  rw[cC<|bG aG];by_cases h:n/32<=L.length
  .refine bJ (nE y) ?_;rw[pI,pI,<-bC];exact bR aG U 
  .rw [(U:L.length-n/32=0),cA,bU];refine bJ (nE y) ?_;rw[pI];exact bR aG U 
 by_cases e:n/32<=L.length
 .exact pL (Y [.a (U:0<(32:Int)),iN (n:Int),.y 5 5 ac 110 1<|jW<|jr (val L/2^n) 0,.s (Sp.jL (acQ L n) 0 (L.length-n/32) U (λx z m=>by
    have b:=y.getD<|(n/32)+x;have r:=y.getD<|((n/32)+x)+1;have q:(L.getD ((n/32)+x) 0+(L.getD (((n/32)+x)+1) 0*4294967296))/2^(n%32)<=(L.getD ((n/32)+x) 0+(L.getD (((n/32)+x)+1) 0*4294967296)):=b6 _ _;have u:(((L.getD ((n/32)+x) 0+(L.getD (((n/32)+x)+1) 0*4294967296))/2^(n%32)%4294967296%4294967296:Nat):Int)=(Q (val L/2^n) x:Int):=by
     rw[Nat.mod_mod,atj,<-rX y,<-rX y,eX x,bL 4294967296]
    exact iU (Y [tT 13 ((((n/32)+x:Nat):Int)<L.length) U,.c<|CL L ((n/32)+x) Z,iN<|(((n/32)+x:Nat):Int)+1,.c<|CL L (((n/32)+x)+1) Z,.a (U:0<=(32:Int)/\(32:Int)<=((64:Nat):Int)),.o 23<|.int (k:=.u64)<|Ii<|L.getD (((n/32)+x)+1) 0,
     rp ((L.getD ((n/32)+x) 0:Int)+((L.getD (((n/32)+x)+1) 0*4294967296:Nat):Int)),.a (U:0<(32:Int)),.a (U:0<=(((n%32:Nat):Int):Int)/\(((n%32:Nat):Int):Int)<=((64:Nat):Int)),.o 29<|.int (k:=.u64)<|CS ((L.getD ((n/32)+x) 0)+(L.getD (((n/32)+x)+1) 0*4294967296))<|n%32,.o 30<|.int (k:=.u64)<|Ip<|((L.getD ((n/32)+x) 0)+(L.getD (((n/32)+x)+1) 0*4294967296))/2^(n%32),.o 31<|.int (k:=.u32)<|yA<|(((L.getD ((n/32)+x) 0)+(L.getD (((n/32)+x)+1) 0*4294967296))/2^(n%32))%4294967296,.a (U:(x+1)*4<=140737488355328),
     iN ((((n/32)+x:Nat):Int)+1)]<|.e<|af [.o 6<|oI ((((n/32)+x)+1:Nat):Int) (((n/32)+(x+1):Nat):Int),.b 5<|DQ (T:=110) rfl u]) aI)
  (λz=>by
    exact iU (Y [tF 13 ((((n/32)+(L.length-n/32):Nat):Int)<L.length) U,.z 5]<|.e<|af [.o 5 (.e<|CT (ot _ _).symm:aj (.sl ac (L.length-n/32) 1<|jW<|jr (val L/2^n)<|L.length-n/32)<|F<|jr (val L/2^n)<|L.length-n/32)]) aI) aM:jK 3 f285 (acQ L n 0) (.exit 0) ⟨36,ac,[(5,.e<|F<|jr (val L/2^n)<|L.length-n/32)],[]⟩)<|af [.o 6<|oI ((n/32:Nat):Int) (((n/32)+0:Nat):Int)],.cf<|BG (jr (val L/2^n)<|L.length-n/32) (uZ _ _) aV]<|V (F<|iM<|jr (val L/2^n)<|L.length-n/32) (F<|iy<|val L/2^n)<|by rw[F5 p])
 .have v:val L/2^n=0:=by rw[(U:L.length-n/32=0),cA]at p;exact Nat.lt_one_iff.1 p
  rw[v];exact pL (Y [.a (U:0<(32:Int)),iN (n:Int),.y 5 5 ac 110 1<|jW<|jr 0 0,.s (Sp.jL (acR L n) 0 0 U (λx z m=>by
    omega)
  (λz=>by
    exact iU (Y [tF 13 ((((n/32)+0:Nat):Int)<L.length) U,.z 5]<|.e<|af [.o 5 (.e<|CT (ot _ _).symm:aj (.sl ac 0 1<|jW<|jr 0 0)<|F<|jr 0 0)]) aI) aM:jK 3 f285 (acR L n 0) (.exit 0) ⟨36,ac,[(5,.e<|F<|jr 0 0)],[]⟩)<|af [.o 6<|oI ((n/32:Nat):Int) (((n/32)+0:Nat):Int)],.cf<|BG (jr 0 0) (uZ _ _) aV]<|V (F<|iM<|jr 0 0) (F<|iy 0)<|by rw[F5 aG])
end Go.Proofs.YthalchiobglflaaGreatDoor
namespace Go.Proofs.YthalchiobglflaaGreatDoor.Fp
def ju(a b n x:Nat):Nat:=a/2^(n-x)%b
def mg(a b n x:Nat):Nat:=a/2^(n-x)/b
def jU(a n x:Nat):Nat:=a/2^(n-1-x)%2
def Mg(a n x:Nat):jU a n x<=1:=by unfold jU;omega
def Xu{a n x:Nat}(h:x<n):a/2^(n-(x+1))=2*(a/2^(n-x))+jU a n x:=by
 unfold jU;rw[(U:n-x=(n-1-x)+1),(U:n-(x+1)=n-1-x),bI,<-df];omega
section
variable{a b n x:Nat}(k:0<b)(y:x<n)
def Xs(h:2*ju a b n x+jU a n x<b):ju a b n (x+1)=2*ju a b n x+jU a n x/\mg a b n (x+1)=2*mg a b n x:=by
 have e:a/2^(n-(x+1))=b*(2*mg a b n x)+(2*ju a b n x+jU a n x):=by
  rw[Xu y];have:=cH (a/2^(n-x)) b;unfold mg ju;rw[dp];omega
 constructor
 .conv=>lhs;unfold ju
  rw[e,ey,bY h]
 .conv=>lhs;unfold mg
  rw[e,dQ k,cG h,bV]
def Xt(h:¬2*ju a b n x+jU a n x<b):ju a b n (x+1)=2*ju a b n x+jU a n x-b/\mg a b n (x+1)=2*mg a b n x+1:=by
 have r:ju a b n x<b:=bO _ k;have w:=Mg a n x;have e:a/2^(n-(x+1))=b*(2*mg a b n x+1)+(2*ju a b n x+jU a n x-b):=by
  rw[Xu y];have:=cH (a/2^(n-x)) b;unfold mg ju at *
  rw[bW,dp,cr];omega
 constructor
 .conv=>lhs;unfold ju
  rw[e,ey,bY U]
 .conv=>lhs;unfold mg
  rw[e,dQ k,cG U,bV]
end
def Xv{a b n:Nat}(h:a<2^n):ju a b n 0=0/\mg a b n 0=0:=by
 unfold ju mg;rw[dI,cG h];simp
def Xr(a b n:Nat):ju a b n n=a%b/\mg a b n n=a/b:=by
 unfold ju mg;rw[dm,cA,eC];exact⟨rfl,rfl⟩
def ajK(a b n x:Nat):mg a b n x*2^(n-x)<=a:=by
 unfold mg;exact bF (bX _<|b6 _ _)<|dB _ _
def V9{L:List Nat}(h:je L):H (val L)<=32*L.length:=mo.2<|by rw[<-pI];exact nE h
def as7{q i m:Nat}(h:i/32<m)(y:q*2^(i+1)<4294967296^m):
 (∃ t,Q (q*2^(i+1)) (i/32)=t*2^(i%32+1))/\Q (q*2^(i+1)) (i/32)+2^(i%32)<4294967296 /\
 (jr (q*2^(i+1)) m).set (i/32) (Q (q*2^(i+1)) (i/32)+2^(i%32))=jr ((2*q+1)*2^i) m:=by
 have p:i%32<32:=bO _ aG;have z:q*2^(i+1)/4294967296^(i/32)=q*2^(i%32+1):=by
  rw[(U:i+1=(i%32+1)+32*(i/32)),bC,<-pI,<-bM,ep _<|pw _]
 have k:(4294967296:Nat)=2^(i%32+1)*2^(32-(i%32+1)):=by rw[<-bC,(U:i%32+1+(32-(i%32+1))=32)]
 have e:Q (q*2^(i+1)) (i/32)=(q%2^(32-(i%32+1)))*2^(i%32+1):=by
  unfold Q;rw[z,bL]
  conv=>lhs;rhs;rw[k]
  rw[awq,bL]
 have n:(q%2^(32-(i%32+1)))*2^(i%32+1)+2^(i%32+1)<=4294967296:=by
  have:=bX (2^(i%32+1))<|show q%2^(32-(i%32+1))+1<=2^(32-(i%32+1))from bO _<|bG aG;rw[bT,bU]at this;refine bF this<|fz ?_;rw[bL];exact k.symm
 have l:2^(i%32)<2^(i%32+1):=fG aG U;have V:Q (q*2^(i+1)) (i/32)+2^(i%32)<4294967296:=by rw[e];omega
 refine⟨⟨_,e⟩,V,?_⟩;have u:i/32<(jr (q*2^(i+1)) m).length:=by rw[ot];exact h
 have v:=BM (x:=Q (q*2^(i+1)) (i/32)+2^(i%32)) u;rw[wQ h,yC,bY y,bW]at v;refine(Gw ((uZ _ _).set _ V) (by rw[de,ot]) ?_).symm;have s:4294967296^(i/32)*2^(i%32)=2^i:=by rw[pI,<-bC];congr 1;omega
 rw[s]at v;have r:2*q*2^i=q*2^(i+1):=by rw[bI,bL 2 q,bM,bL 2]
 rw[bT,bU,r];omega
end Go.Proofs.YthalchiobglflaaGreatDoor.Fp
namespace Go.Proofs.YthalchiobglflaaGreatDoor
open Go.RowKit Fp Pu
def apQ(s t:Nat)(x:s<32)(i:t*2^(s+1)+2^s<4294967296):bits .or .u32 ((t*2^(s+1):Nat):Int) (IntKind.u32.wrap<|1*2^s)=((t*2^(s+1)+2^s:Nat):Int):=by
 have h:2^s<2^(s+1):=fG aG U;have e:IntKind.u32.wrap (1*2^s)=((2^s:Nat):Int):=by
  rw[IntKind.wrap_u32,Int.one_mul,show(2:Int)^s=((2^s:Nat):Int)by simp];omega
 rw[e,K9 _ _ U U,ij,D3 _ t (s+1) h,eX]
def apR(o r a:Nat)(k:r<32)(h:o<2^r):bits .or .u32 (o:Int) ((a*2^r%4294967296%4294967296:Nat):Int)=((o+a*2^r%4294967296:Nat):Int):=by
 have x:(4294967296:Nat)=2^r*2^(32-r):=by rw[<-bC,(U:r+(32-r)=32)]
 have B:2^r<=2^31:=bR aG U;have J:(2:Nat)^31=2147483648:= aG ;have e:a*2^r%4294967296=(a%2^(32-r))*2^r:=by
  rw[bL]
  conv=>lhs;rhs;rw[x]
  rw[awq,bL]
 rw[Nat.mod_mod,K9 _ _ U<|bO _ aG,e,D3 _ _ _ h]
def atf(a r:Nat)(h:a<4294967296)(x:r<32):IntKind.u64.wrap ((a:Int)*2^r)=((a*2^r:Nat):Int):=by
 have B:2^r<=2^31:=bR aG U;have J:(2:Nat)^31=2147483648:= aG ;have k:a*2^r<=4294967295*2147483648:=dx U U;have e:(a:Int)*2^r=((a*2^r:Nat):Int):= aK ;rw[e];exact rS _ 
def ate{a r:Nat}(h:a<4294967296)(x:r<32):a*2^r<=9223372034707292160:=by
 have B:2^r<=2^31:=bR aG U;have J:(2:Nat)^31=2147483648:= aG ;have k:a*2^r<=4294967295*2147483648:=dx U U;omega
def Uk(x:Nat):IntKind.u32.wrap ((x:Int)*2^1)=((2*x%4294967296:Nat):Int):=by rw[IntKind.wrap_u32];omega
def NV(x c:Nat)(k:c<=1):bits .or .u32 ((2*x%4294967296:Nat):Int) (c:Int)=((2*x%4294967296+c:Nat):Int):=by
 have h:2*x%4294967296=(2*x%4294967296/2)*2^1:= U ;rw[K9 _ _ U U,ij,h,D3 _ _ 1 U,eX]
def aso{T n t p q:Nat}{L s:List Nat}{z y:Nat}(r:n=t)(m:p<L.length)(l:q<L.length)(g:(L.set p z).set q y=s):
 Bx.le (.row ac T n 1 λu x=>if u=q/\0<=x/\x<0+1 then[.v<|.int .u32 (y:Int)].getD (x-0) .any else(λu x=>if u=p/\0<=x/\x<0+1 then[.v<|.int .u32 (z:Int)].getD (x-0) .any else(jW L) u x) u x) (.row ac T t 1<|jW s):=by
 subst g;refine .row r λi j _ f=>?_
 obtain rfl:j=0:= U ;refine⟨.jB ?_,rfl⟩;by_cases v:i=q
 .subst v;rw[bt ⟨rfl,U,U⟩];show E.v (.int .u32 (y:Int))=E.v (.int .u32 ((((L.set p z).set i y).getD i 0:Nat):Int));rw[Fp.QG<|by rw[de];exact l]
 .rw [bn λk=>v k.1];by_cases h:i=p
  .subst h;show(if i=i/\0<=0/\0<0+1 then _ else _)=E.v (.int .u32 ((((L.set i z).set q y).getD i 0:Nat):Int));rw[bt ⟨rfl,U,U⟩,Fp.yY λk=>v k.symm,Fp.QG m];rfl
  .show (if i=p/\0<=0/\0<0+1 then _ else E.v (.int .u32 (L.getD i 0:Int)))=E.v (.int .u32 ((((L.set p z).set q y).getD i 0:Nat):Int));rw[bn λk=>h k.1,Fp.yY λk=>v k.symm,Fp.yY λk=>h k.symm]
def acP(L:List Nat)(n:Nat)(x:Nat):PS:=⟨60,ac,[(6,.e<|D x),(5,.own 16),(0,.e<|F<|iM L),(1,.e<|D n)],[(16,.row ac 110 (n/32+(iM L).length+1) 1<|jW<|jr ((val<|(iM L).take x)*2^n)<|n/32+(iM L).length+1)]⟩
def aqI(L:List Nat)(n:Nat)(y:je L)(z:L.length<=10000)(g:n<=1000000):iB 233 [F L,D n]<|F<|iy<|val L*2^n:=by
 have t:=qQ L;unfold nB at t;have p:val ((iM L).take (iM L).length)*2^n<4294967296^(n/32+(iM L).length+1):=by
  rw[dV,cU,bC,bL];have z:=nE y.iM;have u:2^n<=4294967296^(n/32)*4294967296:=by
   rw[pI,show(4294967296:Nat)=2^32 by rfl,<-bC];exact bR aG U 
  rw[bI,dp,bL];refine axg z u<|by exact fO (pw _) aG
 exact pL (Y [.cf<|BG L Z aV,.a (U:0<(32:Int)),iN (n:Int),iN<|((n/32:Nat):Int)+((iM L).length:Int),
  iN ((((n/32)+(iM L).length:Nat):Int)+1),.a (U:0<=(((((n/32)+(iM L).length)+1:Nat):Int):Int)/\(((((n/32)+(iM L).length)+1:Nat):Int):Int)<=(((((n/32)+(iM L).length)+1:Nat):Int):Int)),.a (U:((4:Nat):Int)*((((n/32)+(iM L).length)+1:Nat):Int)<=281474976710656/\(((((n/32)+(iM L).length)+1:Nat):Int):Int)<=9223372036854775807),.s (Sp.jL (acP L n) 0 ((iM L).length) U (λx v f=>by
    have R:=y.iM.getD x;have r:n%32<32:=bO _ aG;have e:(val<|(iM L).take x)<4294967296^x:=by
     have:=nE<|y.iM.take x;rw[cz,dE U]at this;exact this
    have⟨o,s⟩:=atg (n:=n) R (O:=(jr ((val<|(iM L).take x)*2^n)<|n/32+(iM L).length+1)) rfl e (m:=(n/32+(iM L).length+1)) U;rw[<-yD]at s;have q:(((iM L).getD x 0)*2^(n%32))/4294967296<4294967296:=by
     have:=ate R r;omega
    rw[<-bY q]at s;exact iU (Y [tT 20 ((x:Int)<((iM L).length:Int)) U,iX (x:Int)<|(iM L).length,.o 27<|.int (k:=.u64)<|rS<|(iM L).getD x 0,.a (U:0<(32:Int)),.a (U:0<=(((n%32:Nat):Int):Int)/\(((n%32:Nat):Int):Int)<=((64:Nat):Int)),.o 30<|.int (k:=.u64)<|atf ((iM L).getD x 0) (n%32) R r,.a (U:0<(32:Int)),
     iN (n:Int),iN<|(x:Int)+((n/32:Nat):Int),.a (U:0<(32:Int)),iN (n:Int),iN<|(x:Int)+((n/32:Nat):Int),
     iX ((x+(n/32):Nat):Int) (n/32+(iM L).length+1),.a (U:(x+(n/32))<(n/32+(iM L).length+1)),.o 44<|.int (k:=.u64)<|Ip<|((iM L).getD x 0)*2^(n%32),.o 45<|.int (k:=.u32)<|yA<|(((iM L).getD x 0)*2^(n%32))%4294967296,.o 46 (.int<|apR _ _ _ r o:aj (.v<|.int .u32<|bits .or .u32 (((jr ((val<|(iM L).take x)*2^n)<|n/32+(iM L).length+1).getD (x+(n/32)) 0:Nat):Int) ((((((iM L).getD x 0)*2^(n%32))%4294967296)%4294967296:Nat):Int))<|.v<|.int .u32 ((((jr ((val<|(iM L).take x)*2^n)<|n/32+(iM L).length+1).getD (x+(n/32)) 0)+((((iM L).getD x 0)*2^(n%32))%4294967296):Nat):Int)),
     iX ((x+(n/32):Nat):Int) (n/32+(iM L).length+1),.a (U:(x+(n/32))<(n/32+(iM L).length+1)),.a (U:0<(32:Int)),iN (n:Int),
     iN ((x:Int)+((n/32:Nat):Int)),iN<|((x+(n/32):Nat):Int)+1,.a (U:0<=(32:Int)/\(32:Int)<=((64:Nat):Int)),.o 55<|.int (k:=.u64)<|F0<|((iM L).getD x 0)*2^(n%32),.o 56<|.int (k:=.u32)<|yA<|(((iM L).getD x 0)*2^(n%32))/4294967296,
     iX (((x+(n/32))+1:Nat):Int) (n/32+(iM L).length+1),.a (U:((x+(n/32))+1)<(n/32+(iM L).length+1)),iN<|(x:Int)+1]<|.e<|af [.b 16 (aso rfl (by rw[ot];omega) (by rw[ot];omega) s:Bx.le (.row ac 110 (n/32+(iM L).length+1) 1 λh j=>if h=((x+(n/32))+1)/\0<=j/\j<0+1 then[.v<|.int .u32 ((((((iM L).getD x 0)*2^(n%32))/4294967296)%4294967296:Nat):Int)].getD (j-0) .any else(λh j=>if h=(x+(n/32))/\0<=j/\j<0+1 then[.v<|.int .u32 ((((jr ((val<|(iM L).take x)*2^n)<|n/32+(iM L).length+1).getD (x+(n/32)) 0)+((((iM L).getD x 0)*2^(n%32))%4294967296):Nat):Int)].getD (j-0) .any else(jW<|jr ((val<|(iM L).take x)*2^n)<|n/32+(iM L).length+1) h j) h j)<|.row ac 110 (n/32+(iM L).length+1) 1<|jW<|jr ((val<|(iM L).take<|x+1)*2^n)<|n/32+(iM L).length+1)]) aI)
  (λv=>by
    exact iU (Y [tF 20 (((iM L).length:Int)<((iM L).length:Int)) U,.z 16]<|.e<|af [.o 5 (.e<|CT (ot _ _).symm:aj (.sl ac (n/32+(iM L).length+1) 1<|jW<|jr ((val<|(iM L).take (iM L).length)*2^n)<|n/32+(iM L).length+1)<|F<|jr ((val<|(iM L).take (iM L).length)*2^n)<|n/32+(iM L).length+1)]) aI) aM:jK 4 f233 (acP L n 0) (.exit 0) ⟨60,ac,[(5,.e<|F<|jr ((val<|(iM L).take (iM L).length)*2^n)<|n/32+(iM L).length+1)],[]⟩)<|af [.b 16 (KR U λi=>by rw[show val (List.take 0<|iM L)=0 from rfl,cV,Mc]:Bx.le (.row ac 110 (((n/32)+(iM L).length)+1) 1 λ_ l=>[.v<|.int .u32 0].getD l .any)<|.row ac 110 (n/32+(iM L).length+1) 1<|jW<|jr ((val<|(iM L).take 0)*2^n)<|n/32+(iM L).length+1)],.cf<|BG (jr ((val<|(iM L).take (iM L).length)*2^n)<|n/32+(iM L).length+1) (uZ _ _) aV]<|V (F<|iM<|jr ((val<|(iM L).take (iM L).length)*2^n)<|n/32+(iM L).length+1) (F<|iy<|val L*2^n)<|by rw[F5 p,dV,qm])
section
variable(L M:List Nat)
def acO(n:Nat)(x:Nat):PS:=⟨106,ac,[(8,.e<|D<|(n:Int)-1-(x:Int)),(7,.own 23),(6,.own 19),(1,.e<|F<|iM M),(0,.e<|F L)],[(23,.row ac 110 ((iM M).length+1) 1<|jW<|jr (ju (val L) (val M) n x)<|(iM M).length+1),(19,.row ac 110 L.length 1<|jW<|jr ((mg (val L) (val M) n x)*2^(n-x)) L.length)]⟩
def acM(n x:Nat)(k:Nat):PS:=⟨106,ac,[(10,.e<|D k),(9,.e<|.v<|.int .u32 (nW (ju (val L) (val M) n x) (jU (val L) n x) k:Int)),(8,.e<|D<|(n:Int)-1-(x:Int)),(7,.own 23),(6,.own 19),(1,.e<|F<|iM M),(0,.e<|F L)],[(23,.row ac 110 ((iM M).length+1) 1<|jW<|me (2*(ju (val L) (val M) n x)+(jU (val L) n x)) (ju (val L) (val M) n x) k<|(iM M).length+1),(19,.row ac 110 L.length 1<|jW<|jr ((mg (val L) (val M) n x)*2^(n-x)) L.length)]⟩
def acN(n x:Nat)(k:Nat):PS:=⟨106,ac,[(13,.e<|D k),(12,.e<|.v<|.int .u64 (kA ((2*(ju (val L) (val M) n x)+(jU (val L) n x))-val M) (val M) k:Int)),(8,.e<|D<|(n:Int)-1-(x:Int)),(7,.own 23),(6,.own 19),(1,.e<|F<|iM M),(0,.e<|F L)],[(23,.row ac 110 ((iM M).length+1) 1<|jW<|me ((2*(ju (val L) (val M) n x)+(jU (val L) n x))-val M) (2*(ju (val L) (val M) n x)+(jU (val L) n x)) k<|(iM M).length+1),(19,.row ac 110 L.length 1<|jW<|jr ((mg (val L) (val M) n x)*2^(n-x)) L.length)]⟩
def aqG(n:Nat)(y:je L)(u:je M)(z:L.length<=10000)(h2:M.length<=10000)(B:0<val M)(v:n=H (val L)):iB 232 [F L,F M]<|.iO [F<|iy<|val L/val M,F<|iy<|val L%val M]:=by
 have E:=qQ M;unfold nB at E;have z1:=Xv (a:=val L) (b:=val M) (n:=n) (by rw[v];exact qW _);have zx:=V9 y;have z5:=Xr (val L) (val M) n;have f1:val L/val M*2^(n-n)<4294967296^L.length:=by
  rw[dm,cA,cr];exact cB (b6 _ _)<|nE y
 have f2:val L%val M<4294967296^((iM M).length+1):=by
  have z:=nE u.iM;rw[qm]at z;refine fD (bO _ B)<|bJ z<|bR aG U
 exact pL (Y [.cf<|BG M Z aV,.a (U:0<=((L.length:Int):Int)/\((L.length:Int):Int)<=((L.length:Int):Int)),.a (U:((4:Nat):Int)*(L.length:Int)<=281474976710656/\((L.length:Int):Int)<=9223372036854775807),iN<|((iM M).length:Int)+1,.a (U:0<=((((iM M).length+1:Nat):Int):Int)/\((((iM M).length+1:Nat):Int):Int)<=((((iM M).length+1:Nat):Int):Int)),.a (U:((4:Nat):Int)*(((iM M).length+1:Nat):Int)<=281474976710656/\((((iM M).length+1:Nat):Int):Int)<=9223372036854775807),.c<|acK L Z U,.o 25<|oI (H<|val L:Int) (n:Int)<|by rw[v],iN<|(n:Int)-1,.s (Sp.jL (acO L M n) 0 n U (λx A P=>by
    have X:(n-1-x)/32<L.length:=by
     have:=V9 y;rw[<-v]at this;omega
    have p:=Mg (val L) n x;have z0:=y.getD<|(n-1-x)/32;have Fh:L.getD ((n-1-x)/32) 0/2^((n-1-x)%32)<=L.getD ((n-1-x)/32) 0:=b6 _ _;have K:bits .and .u32 ((L.getD ((n-1-x)/32) 0/2^((n-1-x)%32):Nat):Int) 1=(jU (val L) n x:Int):=by
     rw[OS _];have:=PA y (n-1-x) X;unfold jU;rw[this];simp[bB,X]
    have O:(ju (val L) (val M) n x)<val M:=bO _ B;have z3:val (jr (2*(ju (val L) (val M) n x)+(jU (val L) n x))<|(iM M).length+1)=(2*(ju (val L) (val M) n x)+(jU (val L) n x)):=by
     rw[yC,bY];have z:=nE u.iM;rw[qm]at z;rw[bI];omega
    exact iU (Y [.o 27<|oI ((n:Int)-1-(x:Int)) ((n-1-x:Nat):Int),tT 28 (0<=((n-1-x:Nat):Int)) U,.o 32<|oI ((n:Int)-1-(x:Int)) ((n-1-x:Nat):Int),.a (U:0<(32:Int)),iN ((n-1-x:Nat):Int),iX (((n-1-x)/32:Nat):Int)<|L.length,.o 36<|oI ((n:Int)-1-(x:Int)) ((n-1-x:Nat):Int),.a (U:0<(32:Int)),.a (U:0<=((((n-1-x)%32:Nat):Int):Int)/\((((n-1-x)%32:Nat):Int):Int)<=((32:Nat):Int)),.o 38<|.int (k:=.u32)<|CS (L.getD ((n-1-x)/32) 0)<|(n-1-x)%32,.o 39 (.int K:aj (.v<|.int .u32<|bits .and .u32 (((L.getD ((n-1-x)/32) 0)/2^((n-1-x)%32):Nat):Int) 1)<|.v<|.int .u32 (jU (val L) n x:Int)),.s (Sp.jL (acM L M n x) 0 ((iM M).length+1) U (λk s W=>by
    have p:=Mg (val L) n x;have G:=Mb (r:=(ju (val L) (val M) n x)) p k;have d:=Ma (r:=(ju (val L) (val M) n x)) p k;have C:(me (2*(ju (val L) (val M) n x)+(jU (val L) n x)) (ju (val L) (val M) n x) k<|(iM M).length+1).set k (2*Q (ju (val L) (val M) n x) k%4294967296+nW (ju (val L) (val M) n x) (jU (val L) n x) k)=(me (2*(ju (val L) (val M) n x)+(jU (val L) n x)) (ju (val L) (val M) n x) (k+1)<|(iM M).length+1):=by rw[<-G.1,NG]
    exact iU (Y [tT 43 ((k:Int)<(((iM M).length+1:Nat):Int)) U,iX (k:Int)<|(iM M).length+1,.a (U:k<((iM M).length+1)),.o 49<|.int (k:=.u32) (by rw[Ke]:(((me (2*(ju (val L) (val M) n x)+(jU (val L) n x)) (ju (val L) (val M) n x) k<|(iM M).length+1).getD k 0:Nat):Int)=(Q (ju (val L) (val M) n x) k:Int)),.a (U:0<=(1:Int)/\(1:Int)<=((32:Nat):Int)),.o 53<|.int (k:=.u32)<|Uk<|Q (ju (val L) (val M) n x) k,.o 55 (.int<|NV _ _ d:aj (.v<|.int .u32<|bits .or .u32 ((2*Q (ju (val L) (val M) n x) k%4294967296:Nat):Int) (nW (ju (val L) (val M) n x) (jU (val L) n x) k:Int))<|.v<|.int .u32 ((2*Q (ju (val L) (val M) n x) k%4294967296+nW (ju (val L) (val M) n x) (jU (val L) n x) k:Nat):Int)),
     iX (k:Int) ((iM M).length+1),.a (U:k<((iM M).length+1)),.a (U:0<=(31:Int)/\(31:Int)<=((32:Nat):Int)),.o 58<|.int (k:=.u32)<|CS (Q (ju (val L) (val M) n x) k) 31,iN<|(k:Int)+1]<|.e<|af [.o 9<|.int (k:=.u32) (by rw[G.2]:(((Q (ju (val L) (val M) n x) k)/2^31:Nat):Int)=(nW (ju (val L) (val M) n x) (jU (val L) n x)<|k+1:Int)),.b 23 (Ib rfl a7 C:Bx.le (.row ac 110 ((iM M).length+1) 1 λh j=>if h=k/\0<=j/\j<0+1 then[.v<|.int .u32 ((2*Q (ju (val L) (val M) n x) k%4294967296+nW (ju (val L) (val M) n x) (jU (val L) n x) k:Nat):Int)].getD (j-0) .any else(jW<|me (2*(ju (val L) (val M) n x)+(jU (val L) n x)) (ju (val L) (val M) n x) k<|(iM M).length+1) h j)<|.row ac 110 ((iM M).length+1) 1<|jW<|me (2*(ju (val L) (val M) n x)+(jU (val L) n x)) (ju (val L) (val M) n x) (k+1)<|(iM M).length+1)]) aI)
  (λs=>by
    exact iU (Y [tF 43 ((((iM M).length+1:Nat):Int)<(((iM M).length+1:Nat):Int)) U]<|.e<|af [.b 23 (.jB<|by rw[NF<|bA _]:Bx.le (.row ac 110 ((iM M).length+1) 1<|jW<|me (2*(ju (val L) (val M) n x)+(jU (val L) n x)) (ju (val L) (val M) n x) ((iM M).length+1)<|(iM M).length+1)<|.row ac 110 ((iM M).length+1) 1<|jW<|jr (2*(ju (val L) (val M) n x)+(jU (val L) n x))<|(iM M).length+1)]) aI) aM:jK 9 f232 (acM L M n x 0) (.exit 2) ⟨106,ac,[(8,.e<|D<|(n:Int)-1-(x:Int)),(7,.own 23),(6,.own 19),(1,.e<|F<|iM M),(0,.e<|F L)],[(23,.row ac 110 ((iM M).length+1) 1<|jW<|jr (2*(ju (val L) (val M) n x)+(jU (val L) n x))<|(iM M).length+1),(19,.row ac 110 L.length 1<|jW<|jr ((mg (val L) (val M) n x)*2^(n-x)) L.length)]⟩)<|af [.o 9<|.int (k:=.u32) (by rw[P7]:(jU (val L) n x:Int)=(nW (ju (val L) (val M) n x) (jU (val L) n x) 0:Int)),.b 23 (.jB<|by rw[Kf]:Bx.le (.row ac 110 ((iM M).length+1) 1<|jW<|jr (ju (val L) (val M) n x)<|(iM M).length+1)<|.row ac 110 ((iM M).length+1) 1<|jW<|me (2*(ju (val L) (val M) n x)+(jU (val L) n x)) (ju (val L) (val M) n x) 0<|(iM M).length+1)],.c (by rw[Ei<|show((iM M).length+1)=(jr (2*(ju (val L) (val M) n x)+(jU (val L) n x))<|(iM M).length+1).length by first|omega|(simp only[ot,yh];omega)|simp only[ot,yh]];exact(aqH _ _ (uZ _ _) (je.iM Z) (by first|omega|(simp only[ot,yh];omega)|simp only[ot,yh])<|by first|omega|(simp only[ot,yh];omega)|simp only[ot,yh]):iB 283 [.sl ac ((iM M).length+1) 1<|jW<|jr (2*(ju (val L) (val M) n x)+(jU (val L) n x))<|(iM M).length+1,F<|iM M]<|I<|decide ((kT (val<|jr (2*(ju (val L) (val M) n x)+(jU (val L) n x))<|(iM M).length+1)<|val<|iM M)<0))]<|.w ((2*(ju (val L) (val M) n x)+(jU (val L) n x))<val M)
     (λJ=>by
      have o:kT (val<|jr (2*(ju (val L) (val M) n x)+(jU (val L) n x))<|(iM M).length+1) (val<|iM M)<0:=by rw[z3,qm];unfold kT;rw[bt J];decide
      have z4:=Xs B P J;have g:=z4.1;have f:=z4.2;have R:jr (2*(ju (val L) (val M) n x)+(jU (val L) n x)) ((iM M).length+1)=jr (ju (val L) (val M) n<|x+1) ((iM M).length+1):=by rw[g]
      have e:(jr ((mg (val L) (val M) n x)*2^(n-x)) L.length)=(jr ((mg (val L) (val M) n<|x+1)*2^(n-(x+1))) L.length):=by
       rw[f];congr 1;rw[(U:n-x=n-(x+1)+1),bI,bL 2,bM,bL 2]
      exact Y [S 61<|bu o,.o 29<|oI ((n:Int)-1-(x:Int)) ((n-1-x:Nat):Int),iN<|((n-1-x:Nat):Int)-1]<|.e<|af [.o 8<|oI (((n-1-x:Nat):Int)-1)<|(n:Int)-1-((x+1:Nat):Int),.b 23 (.jB<|by rw[R]:Bx.le (.row ac 110 ((iM M).length+1) 1<|jW<|jr (2*(ju (val L) (val M) n x)+(jU (val L) n x))<|(iM M).length+1)<|.row ac 110 ((iM M).length+1) 1<|jW<|jr (ju (val L) (val M) n<|x+1)<|(iM M).length+1),.b 19 (.jB<|by rw[e]:Bx.le (.row ac 110 L.length 1<|jW<|jr ((mg (val L) (val M) n x)*2^(n-x)) L.length)<|.row ac 110 L.length 1<|jW<|jr ((mg (val L) (val M) n<|x+1)*2^(n-(x+1))) L.length)])
     (λJ=>by
      have o:¬kT (val<|jr (2*(ju (val L) (val M) n x)+(jU (val L) n x))<|(iM M).length+1) (val<|iM M)<0:=by rw[z3,qm];unfold kT;rw[bn J];split<;>decide
      have z4:=Xt B P J;have g:=z4.1;have f:=z4.2;have R:jr ((2*(ju (val L) (val M) n x)+(jU (val L) n x))-val M) ((iM M).length+1)=jr (ju (val L) (val M) n<|x+1) ((iM M).length+1):=by rw[g]
      have c:n-x=(n-1-x)+1:= U ;have e4:n-(x+1)=(n-1-x):= U ;have l:=ajK (val L) (val M) n x;rw[c]at l;have N:=as7 (q:=(mg (val L) (val M) n x)) (i:=(n-1-x)) (m:=L.length) X<|cB l<|nE y;have z2:=N.2.1;have s3:=N.2.2;have w:(jr ((mg (val L) (val M) n x)*2^(n-x)) L.length).set ((n-1-x)/32) (Q ((mg (val L) (val M) n x)*2^((n-1-x)+1)) ((n-1-x)/32)+2^((n-1-x)%32))=(jr ((mg (val L) (val M) n<|x+1)*2^(n-(x+1))) L.length):=by rw[c,s3,f,e4]
      have jk:(((jr ((mg (val L) (val M) n x)*2^(n-x)) L.length).getD ((n-1-x)/32) 0:Nat):Int)=(Q ((mg (val L) (val M) n x)*2^((n-1-x)+1))<|(n-1-x)/32:Int):=by rw[c,wQ X]
      have rj:bits .or .u32 (Q ((mg (val L) (val M) n x)*2^((n-1-x)+1))<|(n-1-x)/32:Int) (IntKind.u32.wrap<|1*2^((n-1-x)%32))=((Q ((mg (val L) (val M) n x)*2^((n-1-x)+1)) ((n-1-x)/32)+2^((n-1-x)%32):Nat):Int):=by
       refine Exists.elim N.1 λt s1=>?_
       rw[s1]at z2 ⊢;exact apQ _ _ (bO _ aG) z2
      exact Y [S 61<|bw o,.s (Sp.jL (acN L M n x) 0 ((iM M).length+1) U (λk s W=>by
    have ha:=aeX (U:val M<=(2*(ju (val L) (val M) n x)+(jU (val L) n x))) k;have zu:(iM M).getD k 0=Q (val M) k:=by rw[rX u.iM,qm]
    have zv:=u.iM;rw[<-zu]at ha;have b1:=rU (2*(ju (val L) (val M) n x)+(jU (val L) n x)) k;have b2:=zv.getD k;have b3:=wP ((2*(ju (val L) (val M) n x)+(jU (val L) n x))-val M) (val M) k;have b5:=wP ((2*(ju (val L) (val M) n x)+(jU (val L) n x))-val M) (val M)<|k+1;have b4:=rU ((2*(ju (val L) (val M) n x)+(jU (val L) n x))-val M) k;have zy:(((Q (2*(ju (val L) (val M) n x)+(jU (val L) n x)) k+4294967296)-(iM M).getD k 0)-(kA ((2*(ju (val L) (val M) n x)+(jU (val L) n x))-val M) (val M) k))%4294967296%4294967296=Q ((2*(ju (val L) (val M) n x)+(jU (val L) n x))-val M) k:= U ;have hq:1-(((Q (2*(ju (val L) (val M) n x)+(jU (val L) n x)) k+4294967296)-(iM M).getD k 0)-(kA ((2*(ju (val L) (val M) n x)+(jU (val L) n x))-val M) (val M) k))/4294967296=(kA ((2*(ju (val L) (val M) n x)+(jU (val L) n x))-val M) (val M)<|k+1):= U ;have C:(me ((2*(ju (val L) (val M) n x)+(jU (val L) n x))-val M) (2*(ju (val L) (val M) n x)+(jU (val L) n x)) k<|(iM M).length+1).set k ((((Q (2*(ju (val L) (val M) n x)+(jU (val L) n x)) k+4294967296)-(iM M).getD k 0)-(kA ((2*(ju (val L) (val M) n x)+(jU (val L) n x))-val M) (val M) k))%4294967296%4294967296)=(me ((2*(ju (val L) (val M) n x)+(jU (val L) n x))-val M) (2*(ju (val L) (val M) n x)+(jU (val L) n x)) (k+1)<|(iM M).length+1):=by rw[zy,NG]
    exact iU (Y [tT 65 ((k:Int)<(((iM M).length+1:Nat):Int)) U,iX (k:Int)<|(iM M).length+1,.a (U:k<((iM M).length+1)),.o 71<|.int (k:=.u32) (by rw[Ke]:(((me ((2*(ju (val L) (val M) n x)+(jU (val L) n x))-val M) (2*(ju (val L) (val M) n x)+(jU (val L) n x)) k<|(iM M).length+1).getD k 0:Nat):Int)=(Q (2*(ju (val L) (val M) n x)+(jU (val L) n x)) k:Int)),.o 72<|.int (k:=.u64)<|rS<|Q (2*(ju (val L) (val M) n x)+(jU (val L) n x)) k,rp<|(Q (2*(ju (val L) (val M) n x)+(jU (val L) n x)) k:Int)+4294967296,.c<|CL (iM M) k<|je.iM Z,rp<|(((Q (2*(ju (val L) (val M) n x)+(jU (val L) n x)) k)+4294967296:Nat):Int)-(((iM M).getD k 0:Nat):Int),.o 77<|.int (k:=.u64) (U:((((Q (2*(ju (val L) (val M) n x)+(jU (val L) n x)) k)+4294967296:Nat):Int)-(((iM M).getD k 0:Nat):Int))=(((Q (2*(ju (val L) (val M) n x)+(jU (val L) n x)) k+4294967296)-(iM M).getD k 0:Nat):Int)),
     rp ((((Q (2*(ju (val L) (val M) n x)+(jU (val L) n x)) k+4294967296)-(iM M).getD k 0:Nat):Int)-(kA ((2*(ju (val L) (val M) n x)+(jU (val L) n x))-val M) (val M) k:Int)),.o 79<|.int (k:=.u64) (U:((((Q (2*(ju (val L) (val M) n x)+(jU (val L) n x)) k+4294967296)-(iM M).getD k 0:Nat):Int)-(kA ((2*(ju (val L) (val M) n x)+(jU (val L) n x))-val M) (val M) k:Int))=((((Q (2*(ju (val L) (val M) n x)+(jU (val L) n x)) k+4294967296)-(iM M).getD k 0)-(kA ((2*(ju (val L) (val M) n x)+(jU (val L) n x))-val M) (val M) k):Nat):Int)),.o 83<|.int (k:=.u64)<|Ip<|((Q (2*(ju (val L) (val M) n x)+(jU (val L) n x)) k+4294967296)-(iM M).getD k 0)-(kA ((2*(ju (val L) (val M) n x)+(jU (val L) n x))-val M) (val M) k),.o 84<|.int (k:=.u32)<|yA<|(((Q (2*(ju (val L) (val M) n x)+(jU (val L) n x)) k+4294967296)-(iM M).getD k 0)-(kA ((2*(ju (val L) (val M) n x)+(jU (val L) n x))-val M) (val M) k))%4294967296,
     iX (k:Int) ((iM M).length+1),.a (U:k<((iM M).length+1)),.a (U:0<=(32:Int)/\(32:Int)<=((64:Nat):Int)),.o 87<|.int (k:=.u64)<|F0<|((Q (2*(ju (val L) (val M) n x)+(jU (val L) n x)) k+4294967296)-(iM M).getD k 0)-(kA ((2*(ju (val L) (val M) n x)+(jU (val L) n x))-val M) (val M) k),
     rp (1-(((((Q (2*(ju (val L) (val M) n x)+(jU (val L) n x)) k+4294967296)-(iM M).getD k 0)-(kA ((2*(ju (val L) (val M) n x)+(jU (val L) n x))-val M) (val M) k))/4294967296:Nat):Int)),.o 88<|.int (k:=.u64) (U:(1-(((((Q (2*(ju (val L) (val M) n x)+(jU (val L) n x)) k+4294967296)-(iM M).getD k 0)-(kA ((2*(ju (val L) (val M) n x)+(jU (val L) n x))-val M) (val M) k))/4294967296:Nat):Int))=((1-((((Q (2*(ju (val L) (val M) n x)+(jU (val L) n x)) k+4294967296)-(iM M).getD k 0)-(kA ((2*(ju (val L) (val M) n x)+(jU (val L) n x))-val M) (val M) k))/4294967296):Nat):Int)),
     iN ((k:Int)+1)]<|.e<|af [.o 12<|.int (k:=.u64) (by rw[hq]:((1-((((Q (2*(ju (val L) (val M) n x)+(jU (val L) n x)) k+4294967296)-(iM M).getD k 0)-(kA ((2*(ju (val L) (val M) n x)+(jU (val L) n x))-val M) (val M) k))/4294967296):Nat):Int)=(kA ((2*(ju (val L) (val M) n x)+(jU (val L) n x))-val M) (val M)<|k+1:Int)),.b 23 (Ib rfl a7 C:Bx.le (.row ac 110 ((iM M).length+1) 1 λh j=>if h=k/\0<=j/\j<0+1 then[.v<|.int .u32 ((((((Q (2*(ju (val L) (val M) n x)+(jU (val L) n x)) k+4294967296)-(iM M).getD k 0)-(kA ((2*(ju (val L) (val M) n x)+(jU (val L) n x))-val M) (val M) k))%4294967296)%4294967296:Nat):Int)].getD (j-0) .any else(jW<|me ((2*(ju (val L) (val M) n x)+(jU (val L) n x))-val M) (2*(ju (val L) (val M) n x)+(jU (val L) n x)) k<|(iM M).length+1) h j)<|.row ac 110 ((iM M).length+1) 1<|jW<|me ((2*(ju (val L) (val M) n x)+(jU (val L) n x))-val M) (2*(ju (val L) (val M) n x)+(jU (val L) n x)) (k+1)<|(iM M).length+1)]) aI)
  (λs=>by
    exact iU (Y [tF 65 ((((iM M).length+1:Nat):Int)<(((iM M).length+1:Nat):Int)) U]<|.e<|af [.b 23 (.jB<|by rw[NF<|bA _]:Bx.le (.row ac 110 ((iM M).length+1) 1<|jW<|me ((2*(ju (val L) (val M) n x)+(jU (val L) n x))-val M) (2*(ju (val L) (val M) n x)+(jU (val L) n x)) ((iM M).length+1)<|(iM M).length+1)<|.row ac 110 ((iM M).length+1) 1<|jW<|jr ((2*(ju (val L) (val M) n x)+(jU (val L) n x))-val M)<|(iM M).length+1)]) aI) aM:jK 17 f232 (acN L M n x 0) (.exit 4) ⟨106,ac,[(8,.e<|D<|(n:Int)-1-(x:Int)),(7,.own 23),(6,.own 19),(1,.e<|F<|iM M),(0,.e<|F L)],[(23,.row ac 110 ((iM M).length+1) 1<|jW<|jr ((2*(ju (val L) (val M) n x)+(jU (val L) n x))-val M)<|(iM M).length+1),(19,.row ac 110 L.length 1<|jW<|jr ((mg (val L) (val M) n x)*2^(n-x)) L.length)]⟩)<|af [.o 12<|.int (k:=.u64) (by rw[LY];rfl:0=(kA ((2*(ju (val L) (val M) n x)+(jU (val L) n x))-val M) (val M) 0:Int)),.b 23 (.jB<|by rw[Kf]:Bx.le (.row ac 110 ((iM M).length+1) 1<|jW<|jr (2*(ju (val L) (val M) n x)+(jU (val L) n x))<|(iM M).length+1)<|.row ac 110 ((iM M).length+1) 1<|jW<|me ((2*(ju (val L) (val M) n x)+(jU (val L) n x))-val M) (2*(ju (val L) (val M) n x)+(jU (val L) n x)) 0<|(iM M).length+1)],.o 90<|oI ((n:Int)-1-(x:Int)) ((n-1-x:Nat):Int),.a (U:0<(32:Int)),iN ((n-1-x:Nat):Int),.o 93<|oI ((n:Int)-1-(x:Int)) ((n-1-x:Nat):Int),.a (U:0<(32:Int)),iN ((n-1-x:Nat):Int),iX (((n-1-x)/32:Nat):Int)<|L.length,.a (U:((n-1-x)/32)<L.length),.o 96 (.int jk:aj (.v<|.int .u32 (((jr ((mg (val L) (val M) n x)*2^(n-x)) L.length).getD ((n-1-x)/32) 0:Nat):Int))<|.v<|.int .u32 (Q ((mg (val L) (val M) n x)*2^((n-1-x)+1))<|(n-1-x)/32:Int)),.o 97<|oI ((n:Int)-1-(x:Int)) ((n-1-x:Nat):Int),.a (U:0<(32:Int)),.a (U:0<=((((n-1-x)%32:Nat):Int):Int)/\((((n-1-x)%32:Nat):Int):Int)<=((32:Nat):Int)),.o 100 (.int rj:aj (.v<|.int .u32<|bits .or .u32 (Q ((mg (val L) (val M) n x)*2^((n-1-x)+1))<|(n-1-x)/32:Int)<|IntKind.u32.wrap<|1*2^((n-1-x)%32))<|.v<|.int .u32 ((Q ((mg (val L) (val M) n x)*2^((n-1-x)+1)) ((n-1-x)/32)+2^((n-1-x)%32):Nat):Int)),
       iX (((n-1-x)/32:Nat):Int) (L.length),.a (U:((n-1-x)/32)<L.length),.o 29<|oI ((n:Int)-1-(x:Int)) ((n-1-x:Nat):Int),
       iN (((n-1-x:Nat):Int)-1)]<|.e<|af [.o 8<|oI (((n-1-x:Nat):Int)-1)<|(n:Int)-1-((x+1:Nat):Int),.b 23 (.jB<|by rw[R]:Bx.le (.row ac 110 ((iM M).length+1) 1<|jW<|jr ((2*(ju (val L) (val M) n x)+(jU (val L) n x))-val M)<|(iM M).length+1)<|.row ac 110 ((iM M).length+1) 1<|jW<|jr (ju (val L) (val M) n<|x+1)<|(iM M).length+1),.b 19 (Ib rfl (by rw[ot];omega) w:Bx.le (.row ac 110 L.length 1 λh j=>if h=((n-1-x)/32)/\0<=j/\j<0+1 then[.v<|.int .u32 ((Q ((mg (val L) (val M) n x)*2^((n-1-x)+1)) ((n-1-x)/32)+2^((n-1-x)%32):Nat):Int)].getD (j-0) .any else(jW<|jr ((mg (val L) (val M) n x)*2^(n-x)) L.length) h j)<|.row ac 110 L.length 1<|jW<|jr ((mg (val L) (val M) n<|x+1)*2^(n-(x+1))) L.length)])) aI)
  (λA=>by
    exact iU (Y [tF 28 (0<=((n:Int)-1-(n:Int))) U,.z 19,.z 23]<|.e<|af [.o 7 (.e<|CT (ot _ _).symm:aj (.sl ac ((iM M).length+1) 1<|jW<|jr (ju (val L) (val M) n n)<|(iM M).length+1)<|F<|jr (ju (val L) (val M) n n)<|(iM M).length+1),.o 6 (.e<|CT (ot _ _).symm:aj (.sl ac L.length 1<|jW<|jr ((mg (val L) (val M) n n)*2^(n-n)) L.length)<|F<|jr ((mg (val L) (val M) n n)*2^(n-n)) L.length)]) aI) aM:jK 5 f232 (acO L M n 0) (.exit 0) ⟨106,ac,[(7,.e<|F<|jr (ju (val L) (val M) n n)<|(iM M).length+1),(6,.e<|F<|jr ((mg (val L) (val M) n n)*2^(n-n)) L.length)],[]⟩)<|af [.o 8<|oI ((n:Int)-1)<|(n:Int)-1-((0:Nat):Int),.b 23 (KR rfl (λi=>by rw[z1.1,Mc]):Bx.le (.row ac 110 ((iM M).length+1) 1 λ_ T=>[.v<|.int .u32 0].getD T .any)<|.row ac 110 ((iM M).length+1) 1<|jW<|jr (ju (val L) (val M) n 0)<|(iM M).length+1),.b 19 (KR rfl (λi=>by rw[z1.2,cV,Mc]):Bx.le (.row ac 110 L.length 1 λ_ T=>[.v<|.int .u32 0].getD T .any)<|.row ac 110 L.length 1<|jW<|jr ((mg (val L) (val M) n 0)*2^(n-0)) L.length)],.cf<|BG (jr ((mg (val L) (val M) n n)*2^(n-n)) L.length) (uZ _ _) aV,.cf<|BG (jr (ju (val L) (val M) n n)<|(iM M).length+1) (uZ _ _) aV]<|V (.iO [F<|iM<|jr ((mg (val L) (val M) n n)*2^(n-n)) L.length,F<|iM<|jr (ju (val L) (val M) n n)<|(iM M).length+1]) (.iO [F<|iy<|val L/val M,F<|iy<|val L%val M])<|by rw[z5.1,z5.2,F5 f1,F5 f2,dm,cA,cr])
end
def aqN(m:Nat)(h:(iy m).length<=10000):iB 282 [F<|iy m]<|F<|iy m:=by
 have:=(BG (iy m) (lW m) U).pc;rwa[show iM (iy m)=iy m from xq m]at this
def Hr(m:Nat)(h:(iy m).length<=10000:=by omega):iB 231 [F<|iy m]<|D<|H m:=by
 have:=acK (iy m) (lW m) U;rwa[kE]at this
section
variable(m n:Nat)(h:(iy m).length<=10000)
section
variable(k:(iy n).length<=10000)
def aqB:iB 286 [F<|iy m,F<|iy n]<|D<|kT m n:=by
 have:=acL (iy m) (iy n) (lW m) (lW n) U U;rwa[kE,kE]at this
def TF:iB 287 [F<|iy m,F<|iy n]<|F<|iy<|m+n:=by
 have:=aqy (iy m) (iy n) (lW m) (lW n) U U;rwa[kE,kE]at this
end
def aqL(k:n<=m):iB 309 [F<|iy m,F<|iy n]<|F<|iy<|m-n:=by
 have:=aqM (iy m) (iy n) (lW m) (lW n) U (by rw[kE,kE];exact k);rwa[kE,kE]at this
def TG(k:n<=1000000):iB 233 [F<|iy m,D (n:Int)]<|F<|iy<|m*2^n:=by
 have:=aqI (iy m) n (lW m) U U;rwa[kE]at this
def aqJ(k:n<=1000000):iB 285 [F<|iy m,D (n:Int)]<|F<|iy<|m/2^n:=by
 have:=aqK (iy m) n (lW m) U U;rwa[kE]at this
def aqF(k:(iy n).length<=10000)(h:0<n):iB 232 [F<|iy m,F<|iy n]<|.iO [F<|iy<|m/n,F<|iy<|m%n]:=by
 have:=aqG (iy m) (iy n) _ (lW m) (lW n) U U (by rw[kE];exact h) rfl;rwa[kE,kE]at this
end
def aqV(n:Bool)(p:Nat)(i:8<=p)(C:p<=512):iB 288 [I n,D p]<|iJ<|canon n (2^p-1)<|16384-(p:Int):=by
 have g:H (1*2^p)=p+1:=by rw[bU];exact yK (bA _)<|fG aG U
 have h:(iy 1).length<=256:=ph aG;have x:(iy<|1*2^p).length<=256:=ph;have k:1<=1*2^p:=by rw[bU];exact bG aG 
 have y:(iy<|(1*2^p)-1).length<=256:=ph (by have:=uX<|dY (1*2^p) 1;omega);exact iL<|Y [.o 6<|.e uR,.c<|TG 1 p U U,.o 9<|.e uR,.c<|aqL (1*2^p) 1 U Z,iN<|16384-(p:Int),.c<|Hy n ((1*2^p)-1)<|16384-(p:Int)]<|V (iJ<|canon n ((1*2^p)-1)<|16384-(p:Int)) (iJ<|canon n (2^p-1)<|16384-(p:Int))<|by rw[bU]
section
variable(n:Bool)(m:Nat)(e:Int)(more:Bool)(p:Nat)(up:Bool)(r:(iy m).length<=2900)(G:-200000<=e)(q:e<=200000)(i:8<=p)(C:p<=512)
noncomputable def D7(Q:Nat)(f:Bool)(q:lX m e more p (n != up)=Q)(v:f=(n != up))(l:(iy Q).length<=2901:=by omega):Tr prog Tb:=by
 have b:=zW r;have t:jH m e p<=1000000:=by unfold jH;omega
 have w:(jH m e p:Int)<=max (H m:Int) (-16384-e):=by unfold jH;omega
 have s:=zW l;exact Y [.c<|Hr Q]<|.w (0<(H Q:Int))
  (λk=>Y [S 53<|bu k,.c<|Hr Q,iN<|(H Q:Int)+e,iN<|((H Q:Int)+e)+(jH m e p:Int)]<|.w (16384<(((H Q:Int)+e)+(jH m e p:Int)))
   (λu=>Y [S 61<|bu u]<|.w (f=aa)
    (λy=>Y [S 63 y,.o 64<|.e xv]<|rR (.iO [iJ<|kB n m e more p up,D<|ko n m e more p up]) (by
      have z:Q≠0:=by intro h;rw[h]at k;exact absurd k aG 
      obtain⟨g,x⟩:=(W8 (e:=e) q z U).1 (by rw[<-v];simp[y]);exact .jB (by rw[g,x]):E.le (.iO [iJ kq,D 9])<|.iO [iJ<|kB n m e more p up,D<|ko n m e more p up]))
    (λy=>Y [S 63<|bh y,.c<|aqV n p U U]<|rR (.iO [iJ<|kB n m e more p up,D<|ko n m e more p up]) (by
      have z:Q≠0:=by intro h;rw[h]at k;exact absurd k aG 
      obtain⟨g,x⟩:=(W8 (e:=e) q z U).2 (by rw[<-v];simp[y]);exact .jB (by rw[g,x]):E.le (.iO [iJ<|canon n (2^p-1)<|16384-(p:Int),D 0])<|.iO [iJ<|kB n m e more p up,D<|ko n m e more p up])))
   (λu=>Y [S 61<|bw u,iN<|e+(jH m e p:Int),.c<|Hy n Q<|e+(jH m e p:Int)]<|rR (.iO [iJ<|kB n m e more p up,D<|ko n m e more p up]) (by
      obtain⟨g,x⟩:=W6 (e:=e) q<|.inr U;exact .jB (by rw[g,x]):E.le (.iO [iJ<|canon n Q<|e+(jH m e p:Int),D 0])<|.iO [iJ<|kB n m e more p up,D<|ko n m e more p up])))
  (λk=>Y [S 53<|bw k,iN<|e+(jH m e p:Int),.c<|Hy n Q<|e+(jH m e p:Int)]<|rR (.iO [iJ<|kB n m e more p up,D<|ko n m e more p up]) (by
      have z:Q=0:=by
       apply b8;intro h;have:=oP h;omega
      obtain⟨g,x⟩:=W6 (e:=e) q<|.inl z;exact .jB (by rw[g,x]):E.le (.iO [iJ<|canon n Q<|e+(jH m e p:Int),D 0])<|.iO [iJ<|kB n m e more p up,D<|ko n m e more p up]))
def acX:iB 234 [I n,F<|iy m,D e,I more,D p,I up]<|.iO [iJ<|kB n m e more p up,D<|ko n m e more p up]:=by
 have b:=zW r;have l:jH m e p<=1000000:=by unfold jH;omega
 have w:(jH m e p:Int)<=max (H m:Int) (-16384-e):=by unfold jH;omega
 have g:=nR<|b6 m<|2^jH m e p;have u:=nR<|dB m<|2^jH m e p;have v:(iy 1).length<=256:=ph aG;have t:(iy<|(m/2^jH m e p)+1).length<=2901:=aaY U U;have s:=zW (m:=m/2^jH m e p)<|bF g r;exact iL (Y [.c<|aqN m U,.c<|Hr m,iN<|(H m:Int)-p,iN<|(-16384)-e,.o 27<|oI (if 0>(if((-16384)-e)>((H m:Int)-p)then((-16384)-e)else((H m:Int)-p))then 0 else(if((-16384)-e)>((H m:Int)-p)then((-16384)-e)else((H m:Int)-p))) (jH m e p:Int)<|by unfold jH;(repeat' split)<;>omega,.c<|aqJ m (jH m e p) U U]<|.w (0<(jH m e p:Int))
  (λz=>Y [S 32<|bu z,.c<|TG (m/2^(jH m e p)) (jH m e p) U U,.c<|aqB ((m/2^(jH m e p))*2^(jH m e p)) m U U]<|.w ((kT ((m/2^(jH m e p))*2^(jH m e p)) m)=0)
   (λx=>by
    have j:m%2^(jH m e p)=0:=(abb _ _).1 x;exact Y [S 39<|bj x]<|.w (more=aa)
     (λk=>.w (n=up)
      (λy=>Y [S 43<|yN<|bg y,S 44 k]<|D7 n m e more p up r G q i C (m/2^(jH m e p)) ac (by unfold lX;simp[k,y,j])<|by first|rfl|simp[k,y,j])
      (λy=>Y [S 43<|yM<|bd y,S 44 k,.o 49<|.e uR,.c<|TF (m/2^(jH m e p)) 1 U U]<|D7 n m e more p up r G q i C ((m/2^(jH m e p))+1) aa (by unfold lX;simp[k,y,j])<|by first|rfl|simp[k,y,j]))
     (λk=>Y [S 44<|bh k]<|D7 n m e more p up r G q i C (m/2^(jH m e p)) (!(n==up)) (by unfold lX;simp[k,j])<|by first|rfl|simp[k,j]))
   (λx=>by
    have j:m%2^(jH m e p)≠0:=λh=>x ((abb _ _).2 h)
    exact Y [S 39<|bk x]<|.w (n=up)
     (λk=>Y [S 43<|yN<|bg k]<|D7 n m e more p up r G q i C (m/2^(jH m e p)) ac (by unfold lX;simp[k,j])<|by first|rfl|simp[k,j])
     (λk=>Y [S 43<|yM<|bd k,.o 49<|.e uR,.c<|TF (m/2^(jH m e p)) 1 U U]<|D7 n m e more p up r G q i C ((m/2^(jH m e p))+1) aa (by unfold lX;simp[k,j])<|by first|rfl|simp[k,j])))
  (λz=>by
   have j:m%2^(jH m e p)=0:=by rw[show(jH m e p)=0 by omega,cA,dq]
   exact Y [S 32<|bw z]<|.w (more=aa)
    (λx=>.w (n=up)
     (λk=>Y [S 43<|yN<|bg k,S 44 x]<|D7 n m e more p up r G q i C (m/2^(jH m e p)) ac (by unfold lX;simp[x,k,j])<|by first|rfl|simp[x,k,j])
     (λk=>Y [S 43<|yM<|bd k,S 44 x,.o 49<|.e uR,.c<|TF (m/2^(jH m e p)) 1 U U]<|D7 n m e more p up r G q i C ((m/2^(jH m e p))+1) aa (by unfold lX;simp[x,k,j])<|by first|rfl|simp[x,k,j]))
    (λx=>Y [S 44<|bh x]<|D7 n m e more p up r G q i C (m/2^(jH m e p)) (!(n==up)) (by unfold lX;simp[x,j])<|by first|rfl|simp[x,j])))
end
def TH(d:Dy)(p:Nat)(up:Bool)(h:(iy d.m).length<=2900)(l:-200000<=d.e)(k:d.e<=200000)(i:8<=p)(C:p<=512):iB 178 [iJ d,D p,I up]<|.iO [iJ<|jZ d p up,D<|kg d p up]:=
 iL (af [.c<|acX d.neg d.m d.e ac p up U U U U U])
def KF(a b:Dy)(p:Nat)(h:a.iE)(x:b.iE)(i:8<=p:=by omega)(C:p<=512:=by omega):iB 177 [iJ a,iJ b,D p]<|D 0:=
 iL (af [.c<|Ec a Z,.c<|Ec b Z,.c<|arD (p:Int),ah 16 (mi (p:Int))<|sr.2 ⟨U,U⟩])
section
variable(a b:Dy)(p:Nat)(up:Bool)(d:a.iE)(c:b.iE)
def acW(i:8<=p)(C:p<=512):iB 109 [iJ a,iJ b,D p,I up]<|.iO [iJ<|jZ (jl a b) p up,D<|kg (jl a b) p up]:=by
 have h:=at7 d c;exact iL<|af [.c<|KF a b p Z Z,tM 16 0 0,.c<|ady a b (Fp.Dy.iE.xj Z)<|Fp.Dy.iE.xj Z,.c<|TH (jl a b) p up h.1 h.2.1 h.2.2 U U]
def zF(i:8<=p:=by omega)(C:p<=512:=by omega):iB 112 [iJ a,iJ b,D p,I up]<|.iO [iJ<|jZ (ml a b) p up,D<|kg (ml a b) p up]:=by
 have h:=aqf d c;exact iL<|af [.c<|KF a b p Z Z,tM 16 0 0,.c<|arG a b (Fp.Dy.iE.xj Z)<|Fp.Dy.iE.xj Z,.c<|TH (ml a b) p up h.1 h.2.1 h.2.2 U U]
def D8(k:b.m≠0)(i:8<=p:=by omega)(C:p<=512:=by omega):iB 176 [iJ a,iJ b,D p,I up]<|.iO [iJ<|lK a b p up,D<|o9 a b p up]:=by
 by_cases x:a.m=0
 .have e:lK a b p up=kq/\o9 a b p up=0:=by unfold lK o9;rw[bt x,bt x];exact⟨rfl,rfl⟩
  exact iL<|Y [.c<|KF a b p Z Z,tM 19 0 0,S 25<|oo<|qg k,S 30<|tS<|sF.2 x,.o 31<|.e xv]<|V (.iO [iJ kq,D 0]) (.iO [iJ<|lK a b p up,D<|o9 a b p up])<|by rw[e.1,e.2]
 .have v:=d.iy;have y:=c.iy;have z:=d.exp;have u:=c.exp;have t:=d.range.resolve_left x;have s:=c.range.resolve_left k;have q:=oP x;have n:=oP k;have K:lg a b p 2=p+2+H b.m-H a.m:=rfl;have m:=sO x<|lg a b p 2;have l:(iy<|a.m*2^lg a b p 2).length<=2900:=ph;have g:(iy<|a.m*2^lg a b p 2/b.m).length<=2900:=ph (by have:=uX<|b6 (a.m*2^lg a b p 2) b.m;omega);have f:(iy<|a.m*2^lg a b p 2%b.m).length<=2900:=ph (by have:=uX<|dK<|bO (a.m*2^lg a b p 2)<|eB k;omega);have r:decide (0<(H<|a.m*2^lg a b p 2%b.m:Int))=decide (a.m*2^lg a b p 2%b.m≠0):=by
   by_cases h:a.m*2^lg a b p 2%b.m=0
   .rw [h,tZ];rfl
   .have:=oP h;rw[bu h,bu U]
  exact iL (Y [.c<|KF a b p Z Z,tM 19 0 0,S 25<|oo<|qg k,S 30<|oo<|qg x,iN<|(p:Int)+2,.c<|Hr b.m,
   iN (((p:Int)+2)+(H b.m:Int)),.c<|Hr a.m,iN<|(((p:Int)+2)+(H b.m:Int))-(H a.m:Int),.o 42<|oI (if((((p:Int)+2)+(H b.m:Int))-(H a.m:Int))>0 then((((p:Int)+2)+(H b.m:Int))-(H a.m:Int))else 0) (lg a b p 2:Int) aR,.c<|TG a.m (lg a b p 2) U U,.c<|aqF (a.m*2^(lg a b p 2)) b.m U U U,iN<|a.e-b.e,iN<|(a.e-b.e)-(lg a b p 2:Int),.c<|Hr<|(a.m*2^(lg a b p 2))%b.m,.c<|acX (! (a.neg==b.neg)) ((a.m*2^(lg a b p 2))/b.m) ((a.e-b.e)-(lg a b p 2:Int)) (decide (0<(H<|(a.m*2^(lg a b p 2))%b.m:Int))) p up U U U U U]<|V (.iO [iJ<|kB (!(a.neg==b.neg)) ((a.m*2^(lg a b p 2))/b.m) ((a.e-b.e)-(lg a b p 2:Int)) (decide (0<(H<|(a.m*2^(lg a b p 2))%b.m:Int))) p up,D<|ko (!(a.neg==b.neg)) ((a.m*2^(lg a b p 2))/b.m) ((a.e-b.e)-(lg a b p 2:Int)) (decide (0<(H<|(a.m*2^(lg a b p 2))%b.m:Int))) p up]) (.iO [iJ<|lK a b p up,D<|o9 a b p up])<|by unfold lK o9;rw[bn x,bn x,<-r];rfl)
end
abbrev TC(x:Iv)(y:Iv)(p):=jI (jZ (ml x.lo y.lo) p ac)<|jZ (ml x.lo y.lo) p ac
abbrev TD(x:Iv)(y:Iv)(p):=jz (jZ (ml x.lo y.lo) p aa)<|jZ (ml x.lo y.lo) p aa
def FM(p:Int):iB 38 [D p]<|I<|mi p:=
 iL (.w (8<=p)
  (λk=>Y [S 4<|bu k]<|V (I<|decide (p<=512)) (I<|mi p)<|by simp[mi,k])
  (λk=>Y [S 4<|bw k]<|V (I ac) (I<|mi p)<|by simp[mi,k]))
def qN: iB 108 []<|O L:=
 iL (af [.o 1<|.e Le])
def ac1(d:Dy):iB 115 [iJ d]<|O<|lp d:=
 iL (.nil)
def ac4: iB 83 [iJ kq]<|I aa:=
 iL (af [ai 4 kq.neg rfl,ah 10 (((iy kq.m).length:Int)==0)<|tS<|sF.2 rfl,ah 15 (kq.e==0) rfl])
def aqZ(x:Iv)(h:x.iE):iB 39 [O x]<|I aa:=by
 by_cases l:x.all=aa
 .have⟨k,y⟩:=Sk h l;exact iL<|af [S 4 l,.c (by rw[k];exact ac4:iB 83 [iJ x.lo]<|I aa),.c (by rw[y];exact ac4:iB 83 [iJ x.hi]<|I aa)]
 .replace l:x.all=ac:=by simpa using l
  have⟨k,y,z⟩:=rk h l;exact iL<|af [S 4 l,.c<|Ec x.lo Z,.c<|Ec x.hi Z,.c<|KK x.lo x.hi (Fp.Dy.iE.xj Z)<|Fp.Dy.iE.xj Z,S 27<|bu z]
def yo(x:Iv)(h:x.iE):iB 107 [O x]<|I<|!x.all:=
 iL (af [.c<|aqZ x Z])
def CM(l h:Dy)(e f:Int):iB 110 [iJ l,D e,iJ h,D f]<|O<|mc l e h f:=
 iL (.w (e=0)
  (λk=>Y [S 10<|bj k]<|.w (f=0)
   (λx=>Y [S 13<|bj x]<|V (O<|Iv.mk l h ac) (O<|mc l e h f)<|by unfold mc;simp[k,x];try rfl)
   (λx=>Y [S 13<|bk x,.c qN]<|V (O L) (O<|mc l e h f)<|by unfold mc;simp[k,x]))
  (λk=>Y [S 10<|bk k,.c qN]<|V (O L) (O<|mc l e h f)<|by unfold mc;simp[k]))
def Ht(x y:Iv)(p:Nat)(z:x.iE)(u:y.iE)(i:8<=p:=by omega)(C:p<=512:=by omega):iB 63 [O x,O y,D p]<|O<|jN x y p:=
 iL (Y [.c<|FM (p:Int),ah 12 (mi (p:Int))<|sr.2 ⟨U,U⟩,.c<|yo x Z]<|.w (x.all=aa)
  (λk=>Y [S 16<|yN k,.c qN]<|V (O L) (O<|jN x y p)<|by unfold jN;simp[k])
  (λk=>by
   have m:=rk z<|bh k;have v:=m.1;have t:=m.2.1;have s:=m.2.2;exact Y [S 16<|yM<|bh k,.c<|yo y Z]<|.w (y.all=aa)
    (λh=>Y [S 21<|yN h,.c qN]<|V (O L) (O<|jN x y p)<|by unfold jN;simp[k,h])
    (λh=>by
     have m:=rk u<|bh h;have r:=m.1;have q:=m.2.1;have n:=m.2.2;exact Y [S 21<|yM<|bh h,.c<|acW x.lo y.lo p ac Z Z U U,.c<|acW x.hi y.hi p aa Z Z U U,.c<|CM (jZ (jl x.lo y.lo) p ac) (jZ (jl x.hi y.hi) p aa) (kg (jl x.lo y.lo) p ac)<|kg (jl x.hi y.hi) p aa]<|V (O<|mc (jZ (jl x.lo y.lo) p ac) (kg (jl x.lo y.lo) p ac) (jZ (jl x.hi y.hi) p aa)<|kg (jl x.hi y.hi) p aa) (O<|jN x y p)<|by unfold jN;simp[k,h])))
def ac0(x:Iv)(h:x.iE):iB 230 [O x]<|O<|oF x:=
 iL (Y [.c<|yo x Z]<|.w (x.all=aa)
  (λk=>Y [S 4<|yN k,.c qN]<|V (O L) (O<|oF x)<|by unfold oF;simp[k])
  (λk=>by
   have m:=rk h<|bh k;have v:=m.1;have y:=m.2.1;have z:=m.2.2;exact Y [S 4<|yM<|bh k,.c<|uU x.hi,.c<|uU x.lo]<|V (O<|Iv.mk (ji x.hi) (ji x.lo) ac) (O<|oF x)<|by unfold oF;simp[k];try rfl))
def ac3(x y:Iv)(p:Nat)(h:x.iE)(k:y.iE)(i:8<=p)(C:p<=512):iB 229 [O x,O y,D p]<|O<|qy x y p:=
 iL (af [.c<|ac0 y Z,.c<|Ht x (oF y) p Z<|DY Z])
section
variable(a b:Dy)(h:a.iE)(x:b.iE)
def D9:iB 113 [iJ a,iJ b]<|iJ<|jI a b:=by
 have h:=AV a b;exact iL (Y [.c<|KK a b (Fp.Dy.iE.xj Z)<|Fp.Dy.iE.xj Z]<|.w ((jQ a b)<=0)
  (λk=>Y [S 8<|bu k]<|V (iJ a) (iJ<|jI a b)<|by unfold jI;rw[bn U])
  (λk=>Y [S 8<|bw k]<|V (iJ b) (iJ<|jI a b)<|by unfold jI;rw[bt U]))
def BE:iB 114 [iJ a,iJ b]<|iJ<|jz a b:=by
 have h:=AV a b;exact iL (Y [.c<|KK a b (Fp.Dy.iE.xj Z)<|Fp.Dy.iE.xj Z]<|.w (0<=(jQ a b))
  (λk=>Y [S 8<|bu k]<|V (iJ a) (iJ<|jz a b)<|by unfold jz;rw[bn U])
  (λk=>Y [S 8<|bw k]<|V (iJ b) (iJ<|jz a b)<|by unfold jz;rw[bt U]))
end
section
variable(x:Iv)(t:x.iE)
def ac2:iB 175 [O x]<|D<|nk x:=
 iL (Y [.c<|yo x Z]<|.w (x.all=aa)
  (λk=>Y [S 4<|yN k]<|V (D 0) (D<|nk x)<|by unfold nk;simp[k])
  (λk=>by
   have m:=rk t<|bh k;have v:=m.1;have z:=m.2.1;have u:=m.2.2;exact Y [S 4<|yM<|bh k,.c<|AE x.lo]<|.w (0<(Dy.jh x.lo))
    (λh=>Y [S 9<|bu h]<|V (D 1) (D<|nk x)<|by unfold nk;simp[k,h])
    (λh=>Y [S 9<|bw h,.c<|AE x.hi]<|.w ((Dy.jh x.hi)<0)
     (λy=>Y [S 13<|bu y]<|V (D (-1)) (D<|nk x)<|by unfold nk;simp[k,h,y])
     (λy=>Y [S 13<|bw y]<|V (D 0) (D<|nk x)<|by unfold nk;simp[k,h,y]))))
def aqX(l:x.all=ac):iB 181 [O x]<|iJ<|nX x:=by
 have⟨v,h,k⟩:=rk t l;exact iL<|Y [.c<|uU x.lo,.c<|BE (ji x.lo) x.hi (sT Z) Z]<|V (iJ<|jz (ji x.lo) x.hi) (iJ<|nX x)<|by rw[aom v h k]
def aqY(l:x.all=ac):iB 180 [O x]<|iJ<|pk x:=by
 have⟨v,y,z⟩:=rk t l;have h:=aot l v y z;exact iL (Y [.c<|ac2 x Z]<|.w ((nk x)=0)
  (λk=>Y [S 5<|bg k,.o 6<|.e xv]<|V (iJ kq) (iJ<|pk x)<|by rw[h,bt k])
  (λk=>Y [S 5<|bd k,.c<|uU x.hi,.c<|BE x.lo (ji x.hi) Z<|sT Z]<|V (iJ<|jz x.lo<|ji x.hi) (iJ<|pk x)<|by rw[h,bn k]))
def aqW:iB 116 [O x]<|O<|jG x:=
 iL (Y [.c<|yo x Z]<|.w (x.all=aa)
  (λk=>Y [S 4<|yN k,.c qN]<|V (O L) (O<|jG x)<|by unfold jG;simp[k])
  (λk=>by
   have m:=rk t<|bh k;have v:=m.1;have h:=m.2.1;have y:=m.2.2;exact Y [S 4<|yM<|bh k,.c<|aqY x Z<|bh Z,.c<|aqX x Z<|bh Z]<|V (O<|Iv.mk (pk x) (nX x) ac) (O<|jG x)<|by unfold jG;simp[k];try rfl))
end
def acZ(x y:Iv):iB 111 [O x,O y]<|.sl aa 4 6 λi j=>(lh x.lo++lh y.lo++lh x.lo++lh y.hi++lh x.hi++lh y.lo++lh x.hi++lh y.hi).getD (i*6+j)<|.v<|.bool ac:=
 iL (.nil)
section
variable(x y:Iv)(p:Nat)(w:x.iE)(o:y.iE)
def CN(i:8<=p:=by omega)(C:p<=512:=by omega):iB 65 [O x,O y,D p]<|O<|B x y p:=
 iL (Y [.c<|FM (p:Int),ah 15 (mi (p:Int))<|sr.2 ⟨U,U⟩,.c<|yo x Z]<|.w (x.all=aa)
  (λk=>Y [S 19<|yN k,.c qN]<|V (O L) (O<|B x y p)<|by unfold B;simp[k])
  (λk=>by
   have m:=rk w<|bh k;have g:=m.1;have f:=m.2.1;have e:=m.2.2;exact Y [S 19<|yM<|bh k,.c<|yo y Z]<|.w (y.all=aa)
    (λh=>Y [S 24<|yN h,.c qN]<|V (O L) (O<|B x y p)<|by unfold B;simp[k,h])
    (λh=>by
     have m:=rk o<|bh h;have d:=m.1;have c:=m.2.1;have b:=m.2.2;exact Y [S 24<|yM<|bh h,.c<|acZ x y,.u 70,tT 32 ((0:Int)<4) U,iX 0 4,iX 0 2,iX 0 4,iX 1 2,.c<|zF x.lo y.lo p ac Z Z,iX 0 4,iX 0 2,iX 0 4,iX 1 2,.c<|zF x.lo y.lo p aa Z Z]<|.w ((kg (ml x.lo y.lo) p ac)=0)
      (λu=>Y [S 66<|bj u]<|.w ((kg (ml x.lo y.lo) p aa)=0)
       (λv=>Y [S 69<|bj v,tE 73 0 0,.c<|D9 (jZ (ml x.lo y.lo) p ac) (jZ (ml x.lo y.lo) p ac) (nV _ _ _ _ _ _)<|nV _ _ _ _ _ _,.c<|BE (jZ (ml x.lo y.lo) p aa) (jZ (ml x.lo y.lo) p aa) (nV _ _ _ _ _ _)<|nV _ _ _ _ _ _,iN<|0+1,.k [9,69,68,8,7,6,2] [8,6],tT 32 (((0+1):Int)<4) U,iX (0+1) 4,iX 0 2,iX (0+1) 4,iX 1 2,.c<|zF x.lo y.hi p ac Z Z,
        iX (0+1) 4,iX 0 2,iX (0+1) 4,iX 1 2,.c<|zF x.lo y.hi p aa Z Z]<|.w ((kg (ml x.lo y.hi) p ac)=0)
        (λt=>Y [S 66<|bj t]<|.w ((kg (ml x.lo y.hi) p aa)=0)
         (λs=>Y [S 69<|bj s,tN 73 ((0+1):Int) 0,.c<|D9 (TC x y p) (jZ (ml x.lo y.hi) p ac) (rm (nV _ _ _ _ _ _)<|nV _ _ _ _ _ _)<|nV _ _ _ _ _ _,.c<|BE (TD x y p) (jZ (ml x.lo y.hi) p aa) (qx (nV _ _ _ _ _ _)<|nV _ _ _ _ _ _)<|nV _ _ _ _ _ _,
          iN ((0+1)+1),.k [9,69,68,8,7,6,2] [8,6],tT 32 ((((0+1)+1):Int)<4) U,iX ((0+1)+1) 4,iX 0 2,iX ((0+1)+1) 4,iX 1 2,.c<|zF x.hi y.lo p ac Z Z,iX ((0+1)+1) 4,iX 0 2,iX ((0+1)+1) 4,iX 1 2,.c<|zF x.hi y.lo p aa Z Z]<|.w ((kg (ml x.hi y.lo) p ac)=0)
          (λr=>Y [S 66<|bj r]<|.w ((kg (ml x.hi y.lo) p aa)=0)
           (λn=>Y [S 69<|bj n,tN 73 (((0+1)+1):Int) 0,.c<|D9 (jI (TC x y p)<|jZ (ml x.lo y.hi) p ac) (jZ (ml x.hi y.lo) p ac) (rm (rm (nV _ _ _ _ _ _)<|nV _ _ _ _ _ _)<|nV _ _ _ _ _ _)<|nV _ _ _ _ _ _,.c<|BE (jz (TD x y p)<|jZ (ml x.lo y.hi) p aa) (jZ (ml x.hi y.lo) p aa) (qx (qx (nV _ _ _ _ _ _)<|nV _ _ _ _ _ _)<|nV _ _ _ _ _ _)<|nV _ _ _ _ _ _,
            iN (((0+1)+1)+1),.k [9,69,68,8,7,6,2] [8,6],tT 32 (((((0+1)+1)+1):Int)<4) U,iX (((0+1)+1)+1) 4,iX 0 2,iX (((0+1)+1)+1) 4,
            iX 1 2,.c<|zF x.hi y.hi p ac Z Z,iX (((0+1)+1)+1) 4,iX 0 2,iX (((0+1)+1)+1) 4,iX 1 2,.c<|zF x.hi y.hi p aa Z Z]<|.w ((kg (ml x.hi y.hi) p ac)=0)
            (λl=>Y [S 66<|bj l]<|.w ((kg (ml x.hi y.hi) p aa)=0)
             (λz=>Y [S 69<|bj z,tN 73 ((((0+1)+1)+1):Int) 0,.c<|D9 (jI (jI (TC x y p)<|jZ (ml x.lo y.hi) p ac)<|jZ (ml x.hi y.lo) p ac) (jZ (ml x.hi y.hi) p ac) (rm (rm (rm (nV _ _ _ _ _ _)<|nV _ _ _ _ _ _)<|nV _ _ _ _ _ _)<|nV _ _ _ _ _ _)<|nV _ _ _ _ _ _,.c<|BE (jz (jz (TD x y p)<|jZ (ml x.lo y.hi) p aa)<|jZ (ml x.hi y.lo) p aa) (jZ (ml x.hi y.hi) p aa) (qx (qx (qx (nV _ _ _ _ _ _)<|nV _ _ _ _ _ _)<|nV _ _ _ _ _ _)<|nV _ _ _ _ _ _)<|nV _ _ _ _ _ _,
              iN ((((0+1)+1)+1)+1),.k [9,69,68,8,7,6,2] [8,6],tF 32 ((((((0+1)+1)+1)+1):Int)<4) U]<|rR (O<|B x y p) (by
      exact .jB (by
       unfold B;rw[bn<|by simp[k,h]];rw[show nQ _ _ x y=_ from bt ⟨⟨u,v⟩,⟨t,s⟩,⟨r,n⟩,⟨l,z⟩⟩];rw[abq,abn];try rfl):E.le (O<|Iv.mk (jI (jI (jI (jI (jZ (ml x.lo y.lo) p ac)<|jZ (ml x.lo y.lo) p ac)<|jZ (ml x.lo y.hi) p ac)<|jZ (ml x.hi y.lo) p ac)<|jZ (ml x.hi y.hi) p ac) (jz (jz (jz (jz (jZ (ml x.lo y.lo) p aa)<|jZ (ml x.lo y.lo) p aa)<|jZ (ml x.lo y.hi) p aa)<|jZ (ml x.hi y.lo) p aa)<|jZ (ml x.hi y.hi) p aa) ac)<|O<|B x y p))
             (λz=>Y [S 69<|bk z,.c qN]<|rR (O<|B x y p) (by
      exact .jB (by
       unfold B;rw[bn<|by simp[k,h]];rw[show nQ _ _ x y=_ from bn<|by rintro⟨⟨_,_⟩,⟨_,_⟩,⟨_,_⟩,⟨_,q⟩⟩;exact z q]):E.le (O L)<|O<|B x y p)))
            (λl=>Y [S 66<|bk l,.c qN]<|rR (O<|B x y p) (by
      exact .jB (by
       unfold B;rw[bn<|by simp[k,h]];rw[show nQ _ _ x y=_ from bn<|by rintro⟨⟨_,_⟩,⟨_,_⟩,⟨_,_⟩,⟨q,_⟩⟩;exact l q]):E.le (O L)<|O<|B x y p)))
           (λn=>Y [S 69<|bk n,.c qN]<|rR (O<|B x y p) (by
      exact .jB (by
       unfold B;rw[bn<|by simp[k,h]];rw[show nQ _ _ x y=_ from bn<|by rintro⟨⟨_,_⟩,⟨_,_⟩,⟨_,q⟩,⟨_,_⟩⟩;exact n q]):E.le (O L)<|O<|B x y p)))
          (λr=>Y [S 66<|bk r,.c qN]<|rR (O<|B x y p) (by
      exact .jB (by
       unfold B;rw[bn<|by simp[k,h]];rw[show nQ _ _ x y=_ from bn<|by rintro⟨⟨_,_⟩,⟨_,_⟩,⟨q,_⟩,⟨_,_⟩⟩;exact r q]):E.le (O L)<|O<|B x y p)))
         (λs=>Y [S 69<|bk s,.c qN]<|rR (O<|B x y p) (by
      exact .jB (by
       unfold B;rw[bn<|by simp[k,h]];rw[show nQ _ _ x y=_ from bn<|by rintro⟨⟨_,_⟩,⟨_,q⟩,⟨_,_⟩,⟨_,_⟩⟩;exact s q]):E.le (O L)<|O<|B x y p)))
        (λt=>Y [S 66<|bk t,.c qN]<|rR (O<|B x y p) (by
      exact .jB (by
       unfold B;rw[bn<|by simp[k,h]];rw[show nQ _ _ x y=_ from bn<|by rintro⟨⟨_,_⟩,⟨q,_⟩,⟨_,_⟩,⟨_,_⟩⟩;exact t q]):E.le (O L)<|O<|B x y p)))
       (λv=>Y [S 69<|bk v,.c qN]<|rR (O<|B x y p) (by
      exact .jB (by
       unfold B;rw[bn<|by simp[k,h]];rw[show nQ _ _ x y=_ from bn<|by rintro⟨⟨_,q⟩,⟨_,_⟩,⟨_,_⟩,⟨_,_⟩⟩;exact v q]):E.le (O L)<|O<|B x y p)))
      (λu=>Y [S 66<|bk u,.c qN]<|rR (O<|B x y p) (by
      exact .jB (by
       unfold B;rw[bn<|by simp[k,h]];rw[show nQ _ _ x y=_ from bn<|by rintro⟨⟨q,_⟩,⟨_,_⟩,⟨_,_⟩,⟨_,_⟩⟩;exact u q]):E.le (O L)<|O<|B x y p)))))
def acY(i:8<=p)(C:p<=512):iB 105 [O x,O y,D p]<|O<|jC x y p:=
 iL (Y [.c<|FM (p:Int),ah 15 (mi (p:Int))<|sr.2 ⟨U,U⟩,.c<|yo x Z]<|.w (x.all=aa)
  (λk=>Y [S 19<|yN k,.c qN]<|V (O L) (O<|jC x y p)<|by unfold jC;simp[k])
  (λk=>by
   have m:=rk w<|bh k;have e:=m.1;have d:=m.2.1;have c:=m.2.2;exact Y [S 19<|yM<|bh k,.c<|yo y Z]<|.w (y.all=aa)
    (λh=>Y [S 24<|yN h,.c qN]<|V (O L) (O<|jC x y p)<|by unfold jC;simp[k,h])
    (λh=>by
     have m:=rk o<|bh h;have b:=m.1;have a:=m.2.1;have j:=m.2.2;exact Y [S 24<|yM<|bh h,.c<|ac2 y Z]<|.w ((nk y)=0)
      (λz=>Y [S 30<|bg z,.c qN]<|V (O L) (O<|jC x y p)<|by unfold jC;simp[k,h,z])
      (λz=>by
       have t:=aeH o z;exact Y [S 30<|bd z,.c<|acZ x y,.u 70,tT 37 ((0:Int)<4) U,iX 0 4,iX 0 2,iX 0 4,iX 1 2,.c<|D8 x.lo y.lo p ac Z Z t.1,iX 0 4,iX 0 2,iX 0 4,iX 1 2,.c<|D8 x.lo y.lo p aa Z Z t.1]<|.w ((o9 x.lo y.lo p ac)=0)
        (λs=>Y [S 71<|bj s]<|.w ((o9 x.lo y.lo p aa)=0)
         (λr=>Y [S 74<|bj r,tE 78 0 0,.c<|D9 (lK x.lo y.lo p ac) (lK x.lo y.lo p ac) (qD)<|qD,.c<|BE (lK x.lo y.lo p aa) (lK x.lo y.lo p aa) (qD)<|qD,iN<|0+1,.k [9,74,73,8,7,6,2] [8,6],tT 37 (((0+1):Int)<4) U,
          iX (0+1) 4,iX 0 2,iX (0+1) 4,iX 1 2,.c<|D8 x.lo y.hi p ac Z Z t.2,iX (0+1) 4,
          iX 0 2,iX (0+1) 4,iX 1 2,.c<|D8 x.lo y.hi p aa Z Z t.2]<|.w ((o9 x.lo y.hi p ac)=0)
          (λn=>Y [S 71<|bj n]<|.w ((o9 x.lo y.hi p aa)=0)
           (λl=>Y [S 74<|bj l,tN 78 ((0+1):Int) 0,.c<|D9 (jI (lK x.lo y.lo p ac)<|lK x.lo y.lo p ac) (lK x.lo y.hi p ac) (rm (qD)<|qD)<|qD,.c<|BE (jz (lK x.lo y.lo p aa)<|lK x.lo y.lo p aa) (lK x.lo y.hi p aa) (qx (qD)<|qD)<|qD,
            iN ((0+1)+1),.k [9,74,73,8,7,6,2] [8,6],tT 37 ((((0+1)+1):Int)<4) U,iX ((0+1)+1) 4,iX 0 2,iX ((0+1)+1) 4,iX 1 2,.c<|D8 x.hi y.lo p ac Z Z t.1,iX ((0+1)+1) 4,iX 0 2,iX ((0+1)+1) 4,iX 1 2,.c<|D8 x.hi y.lo p aa Z Z t.1]<|.w ((o9 x.hi y.lo p ac)=0)
            (λg=>Y [S 71<|bj g]<|.w ((o9 x.hi y.lo p aa)=0)
             (λf=>Y [S 74<|bj f,tN 78 (((0+1)+1):Int) 0,.c<|D9 (jI (jI (lK x.lo y.lo p ac)<|lK x.lo y.lo p ac)<|lK x.lo y.hi p ac) (lK x.hi y.lo p ac) (rm (rm (qD)<|qD)<|qD)<|qD,.c<|BE (jz (jz (lK x.lo y.lo p aa)<|lK x.lo y.lo p aa)<|lK x.lo y.hi p aa) (lK x.hi y.lo p aa) (qx (qx (qD)<|qD)<|qD)<|qD,
              iN (((0+1)+1)+1),.k [9,74,73,8,7,6,2] [8,6],tT 37 (((((0+1)+1)+1):Int)<4) U,iX (((0+1)+1)+1) 4,iX 0 2,iX (((0+1)+1)+1) 4,
              iX 1 2,.c<|D8 x.hi y.hi p ac Z Z t.2,iX (((0+1)+1)+1) 4,iX 0 2,iX (((0+1)+1)+1) 4,
              iX 1 2,.c<|D8 x.hi y.hi p aa Z Z t.2]<|.w ((o9 x.hi y.hi p ac)=0)
              (λu=>Y [S 71<|bj u]<|.w ((o9 x.hi y.hi p aa)=0)
               (λv=>Y [S 74<|bj v,tN 78 ((((0+1)+1)+1):Int) 0,.c<|D9 (jI (jI (jI (lK x.lo y.lo p ac)<|lK x.lo y.lo p ac)<|lK x.lo y.hi p ac)<|lK x.hi y.lo p ac) (lK x.hi y.hi p ac) (rm (rm (rm (qD)<|qD)<|qD)<|qD)<|qD,.c<|BE (jz (jz (jz (lK x.lo y.lo p aa)<|lK x.lo y.lo p aa)<|lK x.lo y.hi p aa)<|lK x.hi y.lo p aa) (lK x.hi y.hi p aa) (qx (qx (qx (qD)<|qD)<|qD)<|qD)<|qD,
                iN ((((0+1)+1)+1)+1),.k [9,74,73,8,7,6,2] [8,6],tF 37 ((((((0+1)+1)+1)+1):Int)<4) U]<|rR (O<|jC x y p) (by
      exact .jB (by
       unfold jC;rw[bn<|by simp[k,h,z]];rw[show nQ _ _ x y=_ from bt ⟨⟨s,r⟩,⟨n,l⟩,⟨g,f⟩,⟨u,v⟩⟩];rw[abq,abn];try rfl):E.le (O<|Iv.mk (jI (jI (jI (jI (lK x.lo y.lo p ac)<|lK x.lo y.lo p ac)<|lK x.lo y.hi p ac)<|lK x.hi y.lo p ac)<|lK x.hi y.hi p ac) (jz (jz (jz (jz (lK x.lo y.lo p aa)<|lK x.lo y.lo p aa)<|lK x.lo y.hi p aa)<|lK x.hi y.lo p aa)<|lK x.hi y.hi p aa) ac)<|O<|jC x y p))
               (λv=>Y [S 74<|bk v,.c qN]<|rR (O<|jC x y p) (by
      exact .jB (by
       unfold jC;rw[bn<|by simp[k,h,z]];rw[show nQ _ _ x y=_ from bn<|by rintro⟨⟨_,_⟩,⟨_,_⟩,⟨_,_⟩,⟨_,q⟩⟩;exact v q]):E.le (O L)<|O<|jC x y p)))
              (λu=>Y [S 71<|bk u,.c qN]<|rR (O<|jC x y p) (by
      exact .jB (by
       unfold jC;rw[bn<|by simp[k,h,z]];rw[show nQ _ _ x y=_ from bn<|by rintro⟨⟨_,_⟩,⟨_,_⟩,⟨_,_⟩,⟨q,_⟩⟩;exact u q]):E.le (O L)<|O<|jC x y p)))
             (λf=>Y [S 74<|bk f,.c qN]<|rR (O<|jC x y p) (by
      exact .jB (by
       unfold jC;rw[bn<|by simp[k,h,z]];rw[show nQ _ _ x y=_ from bn<|by rintro⟨⟨_,_⟩,⟨_,_⟩,⟨_,q⟩,⟨_,_⟩⟩;exact f q]):E.le (O L)<|O<|jC x y p)))
            (λg=>Y [S 71<|bk g,.c qN]<|rR (O<|jC x y p) (by
      exact .jB (by
       unfold jC;rw[bn<|by simp[k,h,z]];rw[show nQ _ _ x y=_ from bn<|by rintro⟨⟨_,_⟩,⟨_,_⟩,⟨q,_⟩,⟨_,_⟩⟩;exact g q]):E.le (O L)<|O<|jC x y p)))
           (λl=>Y [S 74<|bk l,.c qN]<|rR (O<|jC x y p) (by
      exact .jB (by
       unfold jC;rw[bn<|by simp[k,h,z]];rw[show nQ _ _ x y=_ from bn<|by rintro⟨⟨_,_⟩,⟨_,q⟩,⟨_,_⟩,⟨_,_⟩⟩;exact l q]):E.le (O L)<|O<|jC x y p)))
          (λn=>Y [S 71<|bk n,.c qN]<|rR (O<|jC x y p) (by
      exact .jB (by
       unfold jC;rw[bn<|by simp[k,h,z]];rw[show nQ _ _ x y=_ from bn<|by rintro⟨⟨_,_⟩,⟨q,_⟩,⟨_,_⟩,⟨_,_⟩⟩;exact n q]):E.le (O L)<|O<|jC x y p)))
         (λr=>Y [S 74<|bk r,.c qN]<|rR (O<|jC x y p) (by
      exact .jB (by
       unfold jC;rw[bn<|by simp[k,h,z]];rw[show nQ _ _ x y=_ from bn<|by rintro⟨⟨_,q⟩,⟨_,_⟩,⟨_,_⟩,⟨_,_⟩⟩;exact r q]):E.le (O L)<|O<|jC x y p)))
        (λs=>Y [S 71<|bk s,.c qN]<|rR (O<|jC x y p) (by
      exact .jB (by
       unfold jC;rw[bn<|by simp[k,h,z]];rw[show nQ _ _ x y=_ from bn<|by rintro⟨⟨q,_⟩,⟨_,_⟩,⟨_,_⟩,⟨_,_⟩⟩;exact s q]):E.le (O L)<|O<|jC x y p))))))
end
section
variable(d:Dy)
def ac5(n p:Nat)(x:Nat):PS:=⟨35,aa,[(10,.e<|D ((x+1:Nat):Int)),(9,.e<|D<|(b d p ac x).2),(8,.box 8 0),(6,.box 6 0),(3,.box 3 0),(1,.e<|D n),(2,.e<|D p)],[(8,.cells 31<|lh<|(b d p ac x).1),(6,.cells 31 ar),(3,.cells 31<|lh d)]⟩
def ac6(n N p:Nat)(x:Nat):PS:=⟨35,aa,[(10,.e<|D ((x+1:Nat):Int)),(9,.e<|D<|(b d p ac x).2),(8,.box 8 0),(6,.box 6 0),(3,.box 3 0),(1,.e<|D n),(2,.e<|D p)],[(8,.cells 31<|lh<|(b d p ac x).1),(6,.cells 31 ar),(3,.cells 31<|lh d)]⟩
def ac7(n p:Nat)(x:Nat):PS:=⟨35,aa,[(10,.e<|D ((x+1:Nat):Int)),(9,.e<|D<|(b d p aa x).2),(8,.box 8 0),(6,.box 6 0),(3,.box 3 0),(1,.e<|D n),(2,.e<|D p)],[(8,.cells 31<|lh<|(b d p aa x).1),(6,.cells 31 ar),(3,.cells 31<|lh d)]⟩
def ac8(n N p:Nat)(x:Nat):PS:=⟨35,aa,[(10,.e<|D ((x+1:Nat):Int)),(9,.e<|D<|(b d p aa x).2),(8,.box 8 0),(6,.box 6 0),(3,.box 3 0),(1,.e<|D n),(2,.e<|D p)],[(8,.cells 31<|lh<|(b d p aa x).1),(6,.cells 31 ar),(3,.cells 31<|lh d)]⟩
def N5(p:Nat)(up:Bool)(x:d.iE)(i:8<=p:=by omega)(C:p<=512:=by omega):iB 182 [iJ d,D p,I up]<|.iO [iJ<|jZ d p up,D<|kg d p up]:=by
 have l:=x.iy;have e:=x.exp;have h:(iy d.m).length<=2900 /\ -200000<=d.e/\d.e<=200000:=⟨U,U,U⟩
 exact iL<|af [.c<|KF d d p Z Z,tM 14 0 0,.c<|TH d p up h.1 h.2.1 h.2.2 U U]
def aq0(n p:Nat)(k:d.iE)(y:1<=n)(u:n<=16)(i:8<=p)(C:p<=512)(j:∀ x,x<n-1->(b d p ac x).2=0):iB 117 [iJ d,D n,D p]<|.iO [iJ (b d p ac<|n-1).1,D (b d p ac<|n-1).2]:=
 iL (af [.c<|N5 d p ac Z,.s (Sp.jL (ac5 d n p) 0 (n-1) U (λx h z=>by
    have m:=j x U;have v:=yl d (U:1<=p) (U:p<=4096) ac x;exact iU (Y [tT 19 (((x+1:Nat):Int)<n) U,ah 22 (((b d p ac x).2)==0)<|by rw[m];rfl,.c<|zF ((b d p ac x).1) d p ac Z Z,
     iN (((x+1:Nat):Int)+1)]<|.e<|af [.o 9<|oI (kg (ml ((b d p ac x).1) d) p ac) ((b d p ac<|x+1).2)<|by rw[vI m];rfl,.b 8<|cE 31 (lh<|jZ (ml ((b d p ac x).1) d) p ac) (lh<|(b d p ac<|x+1).1)<|by rw[vI m];rfl]) aI)
  (λh=>by
    exact iU (af [tF 19 ((((n-1)+1:Nat):Int)<n) U]) aI) aM:jK 3 f117 (ac5 d n p 0) (.exit 0) ⟨35,aa,[(9,.e<|D<|(b d p ac<|n-1).2),(8,.box 8 0),(6,.box 6 0)],[(8,.cells 31<|lh<|(b d p ac<|n-1).1),(6,.cells 31 ar)]⟩)<|af [.o 10<|oI 1 ((0+1:Nat):Int),.o 9<|oI (kg d p ac)<|(b d p ac 0).2,.b 8<|.refl<|.cells 31<|lh<|(b d p ac 0).1]])
def aq1(n N p:Nat)(y:d.iE)(z:1<=n)(u:n<=16)(i:8<=p)(C:p<=512)(o:N<n-1)(j:∀ x,x<N->(b d p ac x).2=0)(h:(b d p ac N).2≠0):iB 117 [iJ d,D n,D p]<|.iO [iJ (b d p ac N).1,D (b d p ac N).2]:=
 iL (af [.c<|N5 d p ac Z,.s (Sp.jL (ac6 d n N p) 0 N U (λx k t=>by
    have m:=j x U;have v:=yl d (U:1<=p) (U:p<=4096) ac x;exact iU (Y [tT 19 (((x+1:Nat):Int)<n) U,ah 22 (((b d p ac x).2)==0)<|by rw[m];rfl,.c<|zF ((b d p ac x).1) d p ac Z Z,
     iN (((x+1:Nat):Int)+1)]<|.e<|af [.o 9<|oI (kg (ml ((b d p ac x).1) d) p ac) ((b d p ac<|x+1).2)<|by rw[vI m];rfl,.b 8<|cE 31 (lh<|jZ (ml ((b d p ac x).1) d) p ac) (lh<|(b d p ac<|x+1).1)<|by rw[vI m];rfl]) aI)
  (λk=>by
    exact iU (af [tT 19 (((N+1:Nat):Int)<n) U,ai 22 (((b d p ac N).2)==0)<|by simpa using h]) aI) aM:jK 3 f117 (ac6 d n N p 0) (.exit 0) ⟨35,aa,[(9,.e<|D<|(b d p ac N).2),(8,.box 8 0),(6,.box 6 0)],[(8,.cells 31<|lh<|(b d p ac N).1),(6,.cells 31 ar)]⟩)<|af [.o 10<|oI 1 ((0+1:Nat):Int),.o 9<|oI (kg d p ac)<|(b d p ac 0).2,.b 8<|.refl<|.cells 31<|lh<|(b d p ac 0).1]])
def Hu(n p:Nat)(y:d.iE)(z:1<=n:=by omega)(u:n<=16:=by omega)(i:8<=p:=by omega)(C:p<=512:=by omega):iB 117 [iJ d,D n,D p]<|.iO [iJ (b d p ac<|n-1).1,D (b d p ac<|n-1).2]:=by
 by_cases h:∃ x,x<n-1/\decide ((b d p ac x).2≠0)=aa
 .have⟨N,t,s,r⟩:=si h;have v:(b d p ac N).2≠0:=cS s;have:=aq1 d n N p y z u i C t (λx k=>by simpa using r x k) v;have e:=KC d p ac N v<|n-1-N;rw[(U:N+(n-1-N)=n-1)]at e;rw[e];exact this
 .exact aq0 d n p y z u i C λx k=>b8 λq=>h ⟨x,k,bu q⟩
def aq2(n p:Nat)(k:d.iE)(y:1<=n)(u:n<=16)(i:8<=p)(C:p<=512)(j:∀ x,x<n-1->(b d p aa x).2=0):iB 119 [iJ d,D n,D p]<|.iO [iJ (b d p aa<|n-1).1,D (b d p aa<|n-1).2]:=
 iL (af [.c<|N5 d p aa Z,.s (Sp.jL (ac7 d n p) 0 (n-1) U (λx h z=>by
    have m:=j x U;have v:=yl d (U:1<=p) (U:p<=4096) aa x;exact iU (Y [tT 19 (((x+1:Nat):Int)<n) U,ah 22 (((b d p aa x).2)==0)<|by rw[m];rfl,.c<|zF ((b d p aa x).1) d p aa Z Z,
     iN (((x+1:Nat):Int)+1)]<|.e<|af [.o 9<|oI (kg (ml ((b d p aa x).1) d) p aa) ((b d p aa<|x+1).2)<|by rw[vI m];rfl,.b 8<|cE 31 (lh<|jZ (ml ((b d p aa x).1) d) p aa) (lh<|(b d p aa<|x+1).1)<|by rw[vI m];rfl]) aI)
  (λh=>by
    exact iU (af [tF 19 ((((n-1)+1:Nat):Int)<n) U]) aI) aM:jK 3 f119 (ac7 d n p 0) (.exit 0) ⟨35,aa,[(9,.e<|D<|(b d p aa<|n-1).2),(8,.box 8 0),(6,.box 6 0)],[(8,.cells 31<|lh<|(b d p aa<|n-1).1),(6,.cells 31 ar)]⟩)<|af [.o 10<|oI 1 ((0+1:Nat):Int),.o 9<|oI (kg d p aa)<|(b d p aa 0).2,.b 8<|.refl<|.cells 31<|lh<|(b d p aa 0).1]])
def aq3(n N p:Nat)(y:d.iE)(z:1<=n)(u:n<=16)(i:8<=p)(C:p<=512)(o:N<n-1)(j:∀ x,x<N->(b d p aa x).2=0)(h:(b d p aa N).2≠0):iB 119 [iJ d,D n,D p]<|.iO [iJ (b d p aa N).1,D (b d p aa N).2]:=
 iL (af [.c<|N5 d p aa Z,.s (Sp.jL (ac8 d n N p) 0 N U (λx k t=>by
    have m:=j x U;have v:=yl d (U:1<=p) (U:p<=4096) aa x;exact iU (Y [tT 19 (((x+1:Nat):Int)<n) U,ah 22 (((b d p aa x).2)==0)<|by rw[m];rfl,.c<|zF ((b d p aa x).1) d p aa Z Z,
     iN (((x+1:Nat):Int)+1)]<|.e<|af [.o 9<|oI (kg (ml ((b d p aa x).1) d) p aa) ((b d p aa<|x+1).2)<|by rw[vI m];rfl,.b 8<|cE 31 (lh<|jZ (ml ((b d p aa x).1) d) p aa) (lh<|(b d p aa<|x+1).1)<|by rw[vI m];rfl]) aI)
  (λk=>by
    exact iU (af [tT 19 (((N+1:Nat):Int)<n) U,ai 22 (((b d p aa N).2)==0)<|by simpa using h]) aI) aM:jK 3 f119 (ac8 d n N p 0) (.exit 0) ⟨35,aa,[(9,.e<|D<|(b d p aa N).2),(8,.box 8 0),(6,.box 6 0)],[(8,.cells 31<|lh<|(b d p aa N).1),(6,.cells 31 ar)]⟩)<|af [.o 10<|oI 1 ((0+1:Nat):Int),.o 9<|oI (kg d p aa)<|(b d p aa 0).2,.b 8<|.refl<|.cells 31<|lh<|(b d p aa 0).1]])
def Hv(n p:Nat)(y:d.iE)(z:1<=n:=by omega)(u:n<=16:=by omega)(i:8<=p:=by omega)(C:p<=512:=by omega):iB 119 [iJ d,D n,D p]<|.iO [iJ (b d p aa<|n-1).1,D (b d p aa<|n-1).2]:=by
 by_cases h:∃ x,x<n-1/\decide ((b d p aa x).2≠0)=aa
 .have⟨N,t,s,r⟩:=si h;have v:(b d p aa N).2≠0:=cS s;have:=aq3 d n N p y z u i C t (λx k=>by simpa using r x k) v;have e:=KC d p aa N v<|n-1-N;rw[(U:N+(n-1-N)=n-1)]at e;rw[e];exact this
 .exact aq2 d n p y z u i C λx k=>b8 λq=>h ⟨x,k,bu q⟩
end
section
variable(x:Iv)(n p:Nat)(u:x.iE)
def aq4(h:x.all=aa)(k:n<=16)(i:8<=p)(C:p<=512):iB 66 [O x,D n,D p]<|O<|jO x n p:=
 iL (Y [.c<|FM (p:Int),ah 13 (mi (p:Int))<|sr.2 ⟨U,U⟩,.c<|yo x Z,ai 17 (!x.all)<|by rw[h];rfl,.c qN]<|V (O L) (O<|jO x n p)<|by unfold jO;rw[bt h])
def aq7(h:x.all=ac)(k:n=0)(i:8<=p)(C:p<=512):iB 66 [O x,D n,D p]<|O<|jO x n p:=
 iL (Y [.c<|FM (p:Int),ah 13 (mi (p:Int))<|sr.2 ⟨U,U⟩,.c<|yo x Z,ah 17 (!x.all)<|by rw[h];rfl,tF 22 ((n:Int)<0) U,tF 26 (16<(n:Int)) U,S 30<|tS k,.c<|adx 1 aG,.c<|ac1<|canon ac 1 0]<|V (O<|lp<|canon ac 1 0) (O<|jO x n p)<|by unfold jO;rw[bn<|by rw[h];decide,bt k,Td])
section
variable(a:x.all=ac)(z:n≠0)(h:n<=16)
def aq5(e:n%2=0)(i:8<=p)(C:p<=512):iB 66 [O x,D n,D p]<|O<|jO x n p:=by
 have v:=IC u;have⟨w,y⟩:=v.kN;exact iL (Y [.c<|FM (p:Int),ah 13 (mi (p:Int))<|sr.2 ⟨U,U⟩,.c<|yo x Z,ah 17 (!x.all)<|by rw[a];rfl,tF 22 ((n:Int)<0) U,tF 26 (16<(n:Int)) U,S 30<|oo z,.a (U:0<(2:Int)),.o 35<|oI (bl (n:Int) 2) ((n%2:Nat):Int)<|by rw[awC U];omega,S 36<|tS e,.c<|aqW x Z,.c<|Hu ((jG x).lo) n p Z,.c<|AE<|(jG x).lo]<|.w ((Dy.jh<|(jG x).lo)<0)
  (λh=>Y [S 50<|bu h,.c<|uU<|(jG x).lo,.c<|Hv (ji<|(jG x).lo) n p<|sT Z,.c<|uU<|(b (ji<|(jG x).lo) p aa<|n-1).1,.c<|Hv ((jG x).hi) n p Z,.c<|AE<|(jG x).hi]<|.w ((Dy.jh<|(jG x).hi)<0)
   (λk=>Y [S 73<|bu k,.c<|uU<|(jG x).hi,.c<|Hu (ji<|(jG x).hi) n p<|sT Z,.c<|uU<|(b (ji<|(jG x).hi) p ac<|n-1).1,.c<|CM (ji<|(b (ji<|(jG x).lo) p aa<|n-1).1) (ji<|(b (ji<|(jG x).hi) p ac<|n-1).1) ((b (ji<|(jG x).lo) p aa<|n-1).2)<|(b (ji<|(jG x).hi) p ac<|n-1).2]<|V (O<|mc (ji<|(b (ji<|(jG x).lo) p aa<|n-1).1) ((b (ji<|(jG x).lo) p aa<|n-1).2) (ji<|(b (ji<|(jG x).hi) p ac<|n-1).1)<|(b (ji<|(jG x).hi) p ac<|n-1).2) (O<|jO x n p)<|by unfold jO sU;rw[bn<|by rw[a];decide,bn z];rw[bt e];unfold mr;(rw[bt h,bt k])<;>rfl)
   (λk=>Y [S 73<|bw k,.c<|CM (ji<|(b (ji<|(jG x).lo) p aa<|n-1).1) ((b ((jG x).hi) p aa<|n-1).1) ((b (ji<|(jG x).lo) p aa<|n-1).2)<|(b ((jG x).hi) p aa<|n-1).2]<|V (O<|mc (ji<|(b (ji<|(jG x).lo) p aa<|n-1).1) ((b (ji<|(jG x).lo) p aa<|n-1).2) ((b ((jG x).hi) p aa<|n-1).1)<|(b ((jG x).hi) p aa<|n-1).2) (O<|jO x n p)<|by unfold jO sU;rw[bn<|by rw[a];decide,bn z];rw[bt e];unfold mr;(rw[bt h,bn k])<;>rfl))
  (λh=>Y [S 50<|bw h,.c<|Hv ((jG x).hi) n p Z,.c<|AE<|(jG x).hi]<|.w ((Dy.jh<|(jG x).hi)<0)
   (λk=>Y [S 73<|bu k,.c<|uU<|(jG x).hi,.c<|Hu (ji<|(jG x).hi) n p<|sT Z,.c<|uU<|(b (ji<|(jG x).hi) p ac<|n-1).1,.c<|CM ((b ((jG x).lo) p ac<|n-1).1) (ji<|(b (ji<|(jG x).hi) p ac<|n-1).1) ((b ((jG x).lo) p ac<|n-1).2)<|(b (ji<|(jG x).hi) p ac<|n-1).2]<|V (O<|mc ((b ((jG x).lo) p ac<|n-1).1) ((b ((jG x).lo) p ac<|n-1).2) (ji<|(b (ji<|(jG x).hi) p ac<|n-1).1)<|(b (ji<|(jG x).hi) p ac<|n-1).2) (O<|jO x n p)<|by unfold jO sU;rw[bn<|by rw[a];decide,bn z];rw[bt e];unfold mr;(rw[bn h,bt k])<;>rfl)
   (λk=>Y [S 73<|bw k,.c<|CM ((b ((jG x).lo) p ac<|n-1).1) ((b ((jG x).hi) p aa<|n-1).1) ((b ((jG x).lo) p ac<|n-1).2)<|(b ((jG x).hi) p aa<|n-1).2]<|V (O<|mc ((b ((jG x).lo) p ac<|n-1).1) ((b ((jG x).lo) p ac<|n-1).2) ((b ((jG x).hi) p aa<|n-1).1)<|(b ((jG x).hi) p aa<|n-1).2) (O<|jO x n p)<|by unfold jO sU;rw[bn<|by rw[a];decide,bn z];rw[bt e];unfold mr;(rw[bn h,bn k])<;>rfl)))
def aq6(e:¬n%2=0)(i:8<=p)(C:p<=512):iB 66 [O x,D n,D p]<|O<|jO x n p:=by
 have v:=u;have⟨w,y⟩:=v.kN;exact iL (Y [.c<|FM (p:Int),ah 13 (mi (p:Int))<|sr.2 ⟨U,U⟩,.c<|yo x Z,ah 17 (!x.all)<|by rw[a];rfl,tF 22 ((n:Int)<0) U,tF 26 (16<(n:Int)) U,S 30<|oo z,.a (U:0<(2:Int)),.o 35<|oI (bl (n:Int) 2) ((n%2:Nat):Int)<|by rw[awC U];omega,S 36<|oo e,.c<|Hu x.lo n p Z,.c<|AE x.lo]<|.w ((Dy.jh x.lo)<0)
  (λh=>Y [S 50<|bu h,.c<|uU x.lo,.c<|Hv (ji x.lo) n p<|sT Z,.c<|uU<|(b (ji x.lo) p aa<|n-1).1,.c<|Hv x.hi n p Z,.c<|AE x.hi]<|.w ((Dy.jh x.hi)<0)
   (λk=>Y [S 73<|bu k,.c<|uU x.hi,.c<|Hu (ji x.hi) n p<|sT Z,.c<|uU<|(b (ji x.hi) p ac<|n-1).1,.c<|CM (ji<|(b (ji x.lo) p aa<|n-1).1) (ji<|(b (ji x.hi) p ac<|n-1).1) ((b (ji x.lo) p aa<|n-1).2)<|(b (ji x.hi) p ac<|n-1).2]<|V (O<|mc (ji<|(b (ji x.lo) p aa<|n-1).1) ((b (ji x.lo) p aa<|n-1).2) (ji<|(b (ji x.hi) p ac<|n-1).1)<|(b (ji x.hi) p ac<|n-1).2) (O<|jO x n p)<|by unfold jO sU;rw[bn<|by rw[a];decide,bn z];rw[bn e];unfold mr;(rw[bt h,bt k])<;>rfl)
   (λk=>Y [S 73<|bw k,.c<|CM (ji<|(b (ji x.lo) p aa<|n-1).1) ((b x.hi p aa<|n-1).1) ((b (ji x.lo) p aa<|n-1).2)<|(b x.hi p aa<|n-1).2]<|V (O<|mc (ji<|(b (ji x.lo) p aa<|n-1).1) ((b (ji x.lo) p aa<|n-1).2) ((b x.hi p aa<|n-1).1)<|(b x.hi p aa<|n-1).2) (O<|jO x n p)<|by unfold jO sU;rw[bn<|by rw[a];decide,bn z];rw[bn e];unfold mr;(rw[bt h,bn k])<;>rfl))
  (λh=>Y [S 50<|bw h,.c<|Hv x.hi n p Z,.c<|AE x.hi]<|.w ((Dy.jh x.hi)<0)
   (λk=>Y [S 73<|bu k,.c<|uU x.hi,.c<|Hu (ji x.hi) n p<|sT Z,.c<|uU<|(b (ji x.hi) p ac<|n-1).1,.c<|CM ((b x.lo p ac<|n-1).1) (ji<|(b (ji x.hi) p ac<|n-1).1) ((b x.lo p ac<|n-1).2)<|(b (ji x.hi) p ac<|n-1).2]<|V (O<|mc ((b x.lo p ac<|n-1).1) ((b x.lo p ac<|n-1).2) (ji<|(b (ji x.hi) p ac<|n-1).1)<|(b (ji x.hi) p ac<|n-1).2) (O<|jO x n p)<|by unfold jO sU;rw[bn<|by rw[a];decide,bn z];rw[bn e];unfold mr;(rw[bn h,bt k])<;>rfl)
   (λk=>Y [S 73<|bw k,.c<|CM ((b x.lo p ac<|n-1).1) ((b x.hi p aa<|n-1).1) ((b x.lo p ac<|n-1).2)<|(b x.hi p aa<|n-1).2]<|V (O<|mc ((b x.lo p ac<|n-1).1) ((b x.lo p ac<|n-1).2) ((b x.hi p aa<|n-1).1)<|(b x.hi p aa<|n-1).2) (O<|jO x n p)<|by unfold jO sU;rw[bn<|by rw[a];decide,bn z];rw[bn e];unfold mr;(rw[bn h,bn k])<;>rfl)))
end
def N6(h:n<=16:=by omega)(i:8<=p:=by omega)(C:p<=512:=by omega):iB 66 [O x,D (n:Int),D (p:Int)]<|O<|jO x n p:=by
 cases ha:x.all with
 |true=>exact aq4 x n p u ha h i C
 |false=>
  by_cases k:n=0
  .exact aq7 x n p u ha k i C
  .by_cases e:n%2=0
   .exact aq5 x n p u ha k h e i C
   .exact aq6 x n p u ha k h e i C
end
section
variable(a b:List Iv)(p:Nat)(i:Nat)
def ae0:PS:=⟨45,aa,[(9,.own 9),(10,.e<|D i),(0,.e<|K a),(1,.e<|K b),(2,.e<|I ac),(3,.e<|D p)],[(9,.row aa 33 i 7<|jf<|(be i).map λi=>jN (a.getD i L) (b.getD i L) p)]⟩
def ae1:PS:=⟨45,aa,[(9,.own 9),(10,.e<|D i),(0,.e<|K a),(1,.e<|K b),(2,.e<|I aa),(3,.e<|D p)],[(9,.row aa 33 i 7<|jf<|(be i).map λi=>qy (a.getD i L) (b.getD i L) p)]⟩
end
def abX(a:List Iv)(i:Nat):PS:=⟨20,aa,[(3,.own 3),(4,.e<|D i),(0,.e<|K a)],[(3,.row aa 33 i 7<|jf<|(be i).map λi=>oF<|a.getD i L)]⟩
section
variable(a b:List Iv)
def abB(p:Nat)(i:Nat):PS:=⟨51,aa,[(7,.own 7),(8,.e<|D i),(0,.e<|K a),(1,.e<|K b),(2,.e<|D p)],[(7,.row aa 33 i 7<|jf<|(be i).map λk=>lq p (λq=>B (a.getD q L) (b.getD (k-q) L) p) 0 k)]⟩
def abC(p i:Nat)(j:Nat):PS:=⟨51,aa,[(10,.e<|D ((j+1:Nat):Int)),(9,.box 9 0),(7,.own 7),(8,.e<|D i),(0,.e<|K a),(1,.e<|K b),(2,.e<|D p)],[(9,.cells 33<|jv<|lq p (λq=>B (a.getD q L) (b.getD (i-q) L) p) 0 j),(7,.row aa 33 i 7<|jf<|(be i).map λk=>lq p (λq=>B (a.getD q L) (b.getD (k-q) L) p) 0 k)]⟩
def Xh(p:Nat)(i:Nat):PS:=⟨51,aa,[(7,.own 7),(8,.e<|D i),(0,.e<|K a),(1,.e<|K b),(2,.e<|D p)],[(7,.row aa 33 i 7<|jf<|jx (nf a b p) i)]⟩
def Xi(p i:Nat)(j:Nat):PS:=⟨51,aa,[(10,.e<|D j),(9,.box 9 0),(7,.own 7),(8,.e<|D i),(0,.e<|K a),(1,.e<|K b),(2,.e<|D p)],[(9,.cells 33<|jv<|oM p (a.getD i L) (λq=>B ((jx (nf a b p) i).getD q L) (b.getD (i-q) L) p) 0 j),(7,.row aa 33 i 7<|jf<|jx (nf a b p) i)]⟩
end
def XV(a:List Iv)(t:Iv)(p:Nat)(n:Nat):PS:=⟨33,aa,[(8,.e<|D<|(a.length:Int)-2-(n:Int)),(7,.box 7 0),(6,.box 6 0),(4,.box 4 0),(0,.e<|K a),(2,.e<|D p)],[(7,.cells 33<|jv<|tI a t p (a.length-1) n),(6,.cells 33 au),(4,.cells 33<|jv t)]⟩
def NO(n:Nat)(h:n<4294967296:=by omega):iB 106 [D n]<|O<|jX n:=
 iL (Y [.c<|adw (n:Int) U,.c<|ac1<|jF (n:Int)]<|rR (O<|jX n) (.jB rfl:E.le (O<|lp<|jF (n:Int))<|O<|jX n))
section
variable(a b:List Iv)(n p:Nat)(h:1<=n)(m:n<=17)(z:kV n a)(u:kV n b)(i:8<=p)(C:p<=512)
def at3:iB 170 [K a,K b,I ac,D p]<|K<|AS a b p:=by
 have l:=z.len;have x:=u.len;exact iL (Y [.y 9 9 aa 33 7<|jf<|(be 0).map λi=>jN (a.getD i L) (b.getD i L) p,.s (Sp.jL (ae0 a b p) 0 a.length U (λi h o=>by
    have v:=z.ok i;have k:=u.ok i;have y:=oh<|jN (a.getD i L) (b.getD i L) p;exact iU (Y [tT 14 ((i:Int)<a.length) U,iX (i:Int)<|a.length,iX (i:Int)<|b.length,.c<|Ht (a.getD i L) (b.getD i L) p Z Z,.o 42<|.e<|lM<|jN (a.getD i L) (b.getD i L) p,.a (U:(i+[jN (a.getD i L) (b.getD i L) p].length)*88<=140737488355328),iN<|(i:Int)+1]<|.e<|af [.b 9<|ub 33 i λi=>jN (a.getD i L) (b.getD i L) p]) aI)
  (λh=>by
    exact iU (Y [tF 14 ((a.length:Int)<a.length) U,.z 9]<|.e<|af [.o 9<|.e<|uO (n:=a.length) (M:=(be a.length).map λi=>jN (a.getD i L) (b.getD i L) p) aK]) aI) aM:jK 3 f170 (ae0 a b p 0) (.exit 0) ⟨45,aa,[(9,.e<|K<|(be a.length).map λi=>jN (a.getD i L) (b.getD i L) p)],[]⟩) .nil]<|rR (K<|AS a b p) (.jB rfl:E.le (K<|(be a.length).map λi=>jN (a.getD i L) (b.getD i L) p)<|K<|AS a b p))
def at4:iB 170 [K a,K b,I aa,D p]<|K<|BL a b p:=by
 have l:=z.len;have x:=u.len;exact iL (Y [.y 9 9 aa 33 7<|jf<|(be 0).map λi=>qy (a.getD i L) (b.getD i L) p,.s (Sp.jL (ae1 a b p) 0 a.length U (λi h o=>by
    have v:=z.ok i;have k:=u.ok i;have y:=oh<|qy (a.getD i L) (b.getD i L) p;exact iU (Y [tT 14 ((i:Int)<a.length) U,iX (i:Int)<|a.length,iX (i:Int)<|b.length,.c<|ac3 (a.getD i L) (b.getD i L) p Z Z U U,.o 29<|.e<|lM<|qy (a.getD i L) (b.getD i L) p,.a (U:(i+[qy (a.getD i L) (b.getD i L) p].length)*88<=140737488355328),iN<|(i:Int)+1]<|.e<|af [.b 9<|ub 33 i λi=>qy (a.getD i L) (b.getD i L) p]) aI)
  (λh=>by
    exact iU (Y [tF 14 ((a.length:Int)<a.length) U,.z 9]<|.e<|af [.o 9<|.e<|uO (n:=a.length) (M:=(be a.length).map λi=>qy (a.getD i L) (b.getD i L) p) aK]) aI) aM:jK 3 f170 (ae1 a b p 0) (.exit 0) ⟨45,aa,[(9,.e<|K<|(be a.length).map λi=>qy (a.getD i L) (b.getD i L) p)],[]⟩) .nil]<|rR (K<|BL a b p) (.jB rfl:E.le (K<|(be a.length).map λi=>qy (a.getD i L) (b.getD i L) p)<|K<|BL a b p))
end
def aoV(a:List Iv)(n:Nat)(k:1<=n)(m:n<=17)(h:kV n a):iB 173 [K a]<|K<|Bv a:=by
 have l:=h.len;exact iL (Y [.y 3 3 aa 33 7<|jf<|(be 0).map λi=>oF<|a.getD i L,.s (Sp.jL (abX a) 0 a.length U (λi x o=>by
    have v:=h.ok i;have p:=oh<|oF<|a.getD i L;exact iU (Y [tT 8 ((i:Int)<a.length) U,iX (i:Int)<|a.length,.c<|ac0 (a.getD i L) Z,.o 17<|.e<|lM<|oF<|a.getD i L,.a (U:(i+[oF<|a.getD i L].length)*88<=140737488355328),iN<|(i:Int)+1]<|.e<|af [.b 3<|ub 33 i λi=>oF<|a.getD i L]) aI)
  (λx=>by
    exact iU (Y [tF 8 ((a.length:Int)<a.length) U,.z 3]<|.e<|af [.o 3<|.e<|uO (n:=a.length) (M:=(be a.length).map λi=>oF<|a.getD i L) aK]) aI) aM:jK 3 f173 (abX a 0) (.exit 0) ⟨20,aa,[(3,.e<|K<|(be a.length).map λi=>oF<|a.getD i L)],[]⟩) .nil]<|rR (K<|Bv a) (.jB rfl:E.le (K<|(be a.length).map λi=>oF<|a.getD i L)<|K<|Bv a))
section
variable(a b:List Iv)(n p:Nat)(h:1<=n)(m:n<=17)(X:kV n a)(c:kV n b)(i:8<=p)(C:p<=512)
def aoB:iB 171 [K a,K b,D p]<|K<|qK a b p:=by
 have l:=X.len;have z:=c.len;exact iL (Y [.y 7 7 aa 33 7<|jf<|(be 0).map λk=>lq p (λh=>B (a.getD h L) (b.getD (k-h) L) p) 0 k,.s (Sp.jL (abB a b p) 0 a.length U (λi x o=>by
    have v:=X.ok 0;have u:=c.ok i;have t:=CW (T:=(λh=>B (a.getD h L) (b.getD (i-h) L) p)) (a:=0) (U:1<=p) (U:p<=4096) i λq _ _=>nZ _ _ U U 
    have s:=oh<|lq p (λh=>B (a.getD h L) (b.getD (i-h) L) p) 0 i;exact iU (Y [tT 14 ((i:Int)<a.length) U,iX 0<|a.length,iX (i:Int)<|b.length,.c<|CN (a.getD 0 L) (b.getD i L) p Z Z,.s (Sp.jL (abC a b p i) 0 i U (λj y f=>by
    have r:=CW (T:=(λh=>B (a.getD h L) (b.getD (i-h) L) p)) (a:=0) (U:1<=p) (U:p<=4096) j λq _ _=>nZ _ _ U U 
    have w:=X.ok<|j+1;have m:=c.ok<|i-(j+1);have g:=nZ (a.getD (j+1) L) (b.getD (i-(j+1)) L) (p:=p) U U;exact iU (Y [tT 28 (((j+1:Nat):Int)<=i) U,iX ((j+1:Nat):Int)<|a.length,iN<|(i:Int)-((j+1:Nat):Int),.o 39<|oI ((i:Int)-((j+1:Nat):Int)) ((i-(j+1):Nat):Int),iX ((i-(j+1):Nat):Int)<|b.length,.c<|CN (a.getD (j+1) L) (b.getD (i-(j+1)) L) p Z Z,.c<|Ht (lq p (λh=>B (a.getD h L) (b.getD (i-h) L) p) 0 j) (B (a.getD (j+1) L) (b.getD (i-(j+1)) L) p) p Z Z,
     iN (((j+1:Nat):Int)+1)]<|.e<|af [.b 9<|cE 33 (jv<|jN (lq p (λh=>B (a.getD h L) (b.getD (i-h) L) p) 0 j) (B (a.getD (j+1) L) (b.getD (i-(j+1)) L) p) p) (jv<|lq p (λh=>B (a.getD h L) (b.getD (i-h) L) p) 0<|j+1)<|by first|rfl|(simp only[lq,ct];done)]) aI)
  (λy=>by
    exact iU (af [tF 28 (((i+1:Nat):Int)<=i) U]) aI) aM:jK 7 f171 (abC a b p i 0) (.exit 2) ⟨51,aa,[(9,.box 9 0),(7,.own 7),(8,.e<|D i),(0,.e<|K a),(1,.e<|K b),(2,.e<|D p)],[(9,.cells 33<|jv<|lq p (λh=>B (a.getD h L) (b.getD (i-h) L) p) 0 i),(7,.row aa 33 i 7<|jf<|(be i).map λk=>lq p (λh=>B (a.getD h L) (b.getD (k-h) L) p) 0 k)]⟩)<|af [.o 10<|oI 1 ((0+1:Nat):Int),.b 9<|cE 33 (jv<|B (a.getD 0 L) (b.getD i L) p) (jv<|lq p (λh=>B (a.getD h L) (b.getD (i-h) L) p) 0 0)<|by first|rfl|(simp only[lq,ct];done)],.o 48<|.e<|lM<|lq p (λh=>B (a.getD h L) (b.getD (i-h) L) p) 0 i,.a (U:(i+[lq p (λh=>B (a.getD h L) (b.getD (i-h) L) p) 0 i].length)*88<=140737488355328),
     iN ((i:Int)+1)]<|.e<|af [.b 7<|ub 33 i λk=>lq p (λh=>B (a.getD h L) (b.getD (k-h) L) p) 0 k]) aI)
  (λx=>by
    exact iU (Y [tF 14 ((a.length:Int)<a.length) U,.z 7]<|.e<|af [.o 7<|.e<|uO (n:=a.length) (M:=(be a.length).map λk=>lq p (λh=>B (a.getD h L) (b.getD (k-h) L) p) 0 k) aK]) aI) aM:jK 3 f171 (abB a b p 0) (.exit 0) ⟨51,aa,[(7,.e<|K<|(be a.length).map λk=>lq p (λh=>B (a.getD h L) (b.getD (k-h) L) p) 0 k)],[]⟩) .nil]<|rR (K<|qK a b p) (.jB rfl:E.le (K<|(be a.length).map λk=>lq p (λh=>B (a.getD h L) (b.getD (k-h) L) p) 0 k)<|K<|qK a b p))
def ajx:iB 172 [K a,K b,D p]<|K<|yQ a b p:=by
 have l:=X.len;have t:=c.len;exact iL (Y [.y 7 7 aa 33 7<|jf [],.s (Sp.jL (Xh a b p) 0 a.length U (λi z R=>by
    have v:=X.ok i;have n:=c.ok 0;have r:ns<|jx (nf a b p) i:=(CO i λk o _ _=>by unfold nf;exact su _ _).ok;have m:=G9 (s:=a.getD i L) (T:=(λh=>B ((jx (nf a b p) i).getD h L) (b.getD (i-h) L) p)) (a:=0) (U:1<=p) (U:p<=4096) v i λq _ _=>nZ _ _ U U 
    have g:=oh<|jC (oM p (a.getD i L) (λh=>B ((jx (nf a b p) i).getD h L) (b.getD (i-h) L) p) 0 i) (b.getD 0 L) p;exact iU (Y [tT 14 ((i:Int)<a.length) U,iX (i:Int)<|a.length,.s (Sp.jL (Xi a b p i) 0 i U (λj u V=>by
    have f:=G9 (s:=a.getD i L) (T:=(λh=>B ((jx (nf a b p) i).getD h L) (b.getD (i-h) L) p)) (a:=0) (U:1<=p) (U:p<=4096) v j λq _ _=>nZ _ _ U U 
    have w:=r j;have e:=c.ok<|i-j;have d:=nZ ((jx (nf a b p) i).getD j L) (b.getD (i-j) L) (p:=p) U U;have C:=zI (nf a b p) i;exact iU (Y [tT 23 ((j:Int)<i) U,iX (j:Int) i,.a (U:j<i),iN<|(i:Int)-j,.o 34<|oI ((i:Int)-j) ((i-j:Nat):Int),iX ((i-j:Nat):Int)<|b.length,.c<|CN ((jx (nf a b p) i).getD j L) (b.getD (i-j) L) p Z Z,.c<|ac3 (oM p (a.getD i L) (λh=>B ((jx (nf a b p) i).getD h L) (b.getD (i-h) L) p) 0 j) (B ((jx (nf a b p) i).getD j L) (b.getD (i-j) L) p) p Z Z U U,
     iN ((j:Int)+1)]<|.e<|af [.b 9<|cE 33 (jv<|qy (oM p (a.getD i L) (λh=>B ((jx (nf a b p) i).getD h L) (b.getD (i-h) L) p) 0 j) (B ((jx (nf a b p) i).getD j L) (b.getD (i-j) L) p) p) (jv<|oM p (a.getD i L) (λh=>B ((jx (nf a b p) i).getD h L) (b.getD (i-h) L) p) 0<|j+1)<|by first|rfl|(simp only[oM,ct];done)]) aI)
  (λu=>by
    exact iU (af [tF 23 ((i:Int)<i) U]) aI) aM:jK 7 f172 (Xi a b p i 0) (.exit 2) ⟨51,aa,[(9,.box 9 0),(7,.own 7),(8,.e<|D i),(0,.e<|K a),(1,.e<|K b),(2,.e<|D p)],[(9,.cells 33<|jv<|oM p (a.getD i L) (λh=>B ((jx (nf a b p) i).getD h L) (b.getD (i-h) L) p) 0 i),(7,.row aa 33 i 7<|jf<|jx (nf a b p) i)]⟩)<|af [.b 9<|cE 33 (jv<|a.getD i L) (jv<|oM p (a.getD i L) (λh=>B ((jx (nf a b p) i).getD h L) (b.getD (i-h) L) p) 0 0)<|by first|rfl|(simp only[oM,ct];done)],
     iX 0 (b.length),.c<|acY (oM p (a.getD i L) (λh=>B ((jx (nf a b p) i).getD h L) (b.getD (i-h) L) p) 0 i) (b.getD 0 L) p Z Z U U,.o 48<|.e<|lM<|jC (oM p (a.getD i L) (λh=>B ((jx (nf a b p) i).getD h L) (b.getD (i-h) L) p) 0 i) (b.getD 0 L) p,.a (U:(i+[jC (oM p (a.getD i L) (λh=>B ((jx (nf a b p) i).getD h L) (b.getD (i-h) L) p) 0 i) (b.getD 0 L) p].length)*88<=140737488355328),iN<|(i:Int)+1]<|.e<|af [.b 7 (adn rfl rfl:Bx.le (.row aa 33 (i+[jC (oM p (a.getD i L) (λh=>B ((jx (nf a b p) i).getD h L) (b.getD (i-h) L) p) 0 i) (b.getD 0 L) p].length) 7 λx y=>if x<i then(jf<|jx (nf a b p) i) x y else(E.lO<|K [jC (oM p (a.getD i L) (λh=>B ((jx (nf a b p) i).getD h L) (b.getD (i-h) L) p) 0 i) (b.getD 0 L) p]) (x-i) y)<|.row aa 33 (i+1) 7<|jf<|jx (nf a b p)<|i+1)]) aI)
  (λz=>by
    exact iU (Y [tF 14 ((a.length:Int)<a.length) U,.z 7]<|.e<|af [.o 7 (.e<|AJ (zI _ _).symm:aj (.sl aa a.length 7<|jf<|jx (nf a b p) a.length)<|K<|jx (nf a b p) a.length)]) aI) aM:jK 3 f172 (Xh a b p 0) (.exit 0) ⟨51,aa,[(7,.e<|K<|jx (nf a b p) a.length)],[]⟩)<|af [.b 7 (Ia:Bx.le (.row aa 33 0 7<|jf [])<|.row aa 33 0 7<|jf<|jx (nf a b p) 0)]]<|rR (K<|yQ a b p) (.jB rfl:E.le (K<|jx (nf a b p) a.length)<|K<|yQ a b p))
end
def akm(a:List Iv)(t:Iv)(n p:Nat)(u:1<=n)(g:n<=17)(x:kV n a)(s:t.iE)(i:8<=p)(C:p<=512):iB 64 [K a,O t,D p]<|O<|nv a t p:=by
 have l:=x.len;have v:=x.ok<|a.length-1;exact iL (Y [iN<|(a.length:Int)-1,.o 12<|oI ((a.length:Int)-1) ((a.length-1:Nat):Int),iX ((a.length-1:Nat):Int)<|a.length,iN<|(a.length:Int)-2,.s (Sp.jL (XV a t p) 0 (a.length-1) U (λn k y=>by
    have r:=RL (h:=t) (m:=a.length-1) (U:1<=p) (U:p<=4096) x.ok n;have z:=x.ok<|a.length-1-(n+1);have q:(B (tI a t p (a.length-1) n) t p).iE:=nZ _ _ U U;have e:((a.length:Int)-2-(n:Int)).toNat=a.length-1-(n+1):= U ;rw[<-e]at z;exact iU (Y [tT 19 (0<=((a.length:Int)-2-(n:Int))) U,iX ((a.length:Int)-2-(n:Int))<|a.length,.c<|CN (tI a t p (a.length-1) n) t p Z Z,.c<|Ht (a.getD ((a.length:Int)-2-(n:Int)).toNat L) (B (tI a t p (a.length-1) n) t p) p Z Z,
     iN (((a.length:Int)-2-(n:Int))-1)]<|.e<|af [.o 8<|oI (((a.length:Int)-2-(n:Int))-1)<|(a.length:Int)-2-((n+1:Nat):Int),.b 7<|cE 33 (jv<|jN (a.getD ((a.length:Int)-2-(n:Int)).toNat L) (B (tI a t p (a.length-1) n) t p) p) (jv<|tI a t p (a.length-1)<|n+1)<|by rw[e];rfl]) aI)
  (λk=>by
    exact iU (af [tF 19 (0<=((a.length:Int)-2-((a.length-1:Nat):Int))) U]) aI) aM:jK 3 Tryz.f64 (XV a t p 0) (.exit 0) ⟨33,aa,[(7,.box 7 0),(6,.box 6 0)],[(7,.cells 33<|jv<|tI a t p (a.length-1)<|a.length-1),(6,.cells 33 au)]⟩)<|af [.o 8<|oI ((a.length:Int)-2)<|(a.length:Int)-2-((0:Nat):Int),.b 7<|.refl<|.cells 33<|jv<|tI a t p (a.length-1) 0]]<|rR (O<|nv a t p) (.jB rfl:E.le (O<|tI a t p (a.length-1)<|a.length-1)<|O<|nv a t p))
end Go.Proofs.YthalchiobglflaaGreatDoor
namespace Go.Proofs.YthalchiobglflaaGreatDoor.Fp
section
variable{T p:Nat}{E:Int}(t:H T=p)
def YA(u:1<=p){g:Rat}(x:GM p g):g<=(T:Rat)*P2 E\/((T+1:Nat):Rat)*P2 E<=g:=by
 obtain⟨m,e,b,v,t,rfl⟩:=x;by_cases h:E<=e
 .rw [vD (K:=E) h<|cL _,vD (K:=E) (cL _) h,show(E-E).toNat=0 by omega];omega
 .left;rw[vD (K:=e) (cL _) U,show(e-e).toNat=0 by omega,cA,cr];have s:m<2^p:=mo.1 b;have k:2^(p-1)<=T:=vC.1 U;have y:2^1<=2^(E-e).toNat:=bR aG U;have z:=dx k y;rw[<-bC,(U:p-1+1=p)]at z;omega
section
variable(u:1<=p)(s:-16384<=E)
def ao8(x:(p:Int)+E<=16384){v:Rat}(B:(T:Rat)*P2 E<=v)(r:v<((T+1:Nat):Rat)*P2 E):Dn p v (canon ac T E) 0:=by
 have e:(canon ac T E).q=(T:Rat)*P2 E:=by rw[tv];simp
 have y:0<=(T:Rat)*P2 E:=cw dv<|b9<|oZ E;refine⟨λ_=>⟨by rw[e];exact .inl ⟨T,E,U,s,U,rfl⟩,by rw[e];exact B⟩,λg h R=>⟨rfl,?_⟩⟩;rw[e];by_cases W:0<=g
 .rcases YA (E:=E) t u (h.pos W)with k|k
  .exact k
  .exfalso;grind
 .grind
def apa(y:(p:Int)+E+1<=16384){v:Rat}(B:(T:Rat)*P2 E<v)(r:v<=((T+1:Nat):Rat)*P2 E):Up p v (canon ac (T+1) E) 0:=by
 have e:(canon ac (T+1) E).q=((T+1:Nat):Rat)*P2 E:=by rw[tv];simp
 have z:0<=(T:Rat)*P2 E:=cw dv<|b9<|oZ E;refine⟨λ_=>⟨?_,by rw[e];exact r⟩,λg x R=>⟨rfl,?_⟩⟩
 .rw [e];have i:T<2^p:=mo.1 U;by_cases h:T+1<2^p
  .exact .inl ⟨T+1,E,mo.2 h,s,by have:=mo.2 h;omega,rfl⟩
  .refine .inl ⟨1,(p:Int)+E,by rw[yL];exact u,U,by rw[yL];omega,?_⟩;rw[(U:T+1=2^p),sK,yG,show((1:Nat):Rat)=1 from rfl,fK]
 .rw [e];have W:0<=g:= aP ;rcases YA (E:=E) t u (x.pos W)with k|k
  .exfalso;grind
  .exact k
end
def akx(x:-16384<=E)(y:(p:Int)+E<=16384){v:Rat}(h:v=(T:Rat)*P2 E):Up p v (canon ac T E) 0:=by
 have e:(canon ac T E).q=(T:Rat)*P2 E:=by rw[tv];simp
 exact⟨λ_=>⟨by rw[e];exact .inl ⟨T,E,U,x,U,rfl⟩,by rw[e,h];exact cP⟩,λg _ k=>⟨rfl,by rw[e,<-h];exact k⟩⟩
end
section
variable{p:Nat}{v:Rat}{D z:Dy}{E:Int}
def ajI(h:Dn p v D 0)(k:Dn p v z E)(c:D.nj)(A:z.nj):E=0/\z=D:=by
 have⟨g,x⟩:=h.1 rfl;have⟨e,l⟩:=k.2 _ g x;have⟨y,q⟩:=k.1 e;have⟨_,G⟩:=h.2 _ y q;exact⟨e,NX A c<|eN G l⟩
def au3(h:Up p v D 0)(k:Up p v z E)(c:D.nj)(A:z.nj):E=0/\z=D:=by
 have⟨g,x⟩:=h.1 rfl;have⟨e,l⟩:=k.2 _ g x;have⟨y,q⟩:=k.1 e;have⟨_,G⟩:=h.2 _ y q;exact⟨e,NX A c<|eN l G⟩
end
end Go.Proofs.YthalchiobglflaaGreatDoor.Fp
namespace Go.Proofs.YthalchiobglflaaGreatDoor
open Go.RowKit Fp Pu
def aa1{n k:Nat}(x:4294967296^k<=n)(h:n<4294967296^(k+1)):(iy n).length=k+1:=by
 have a:=uc h;have b:¬(iy n).length<=k:=λq=>absurd (yg q) U 
 omega
def Fz(v:Nat):v<4294967296^(iy v).length:=yg<|bA _
def J8{v l:Nat}(h:(iy v).length=l):jr v l=iy v:=h▸P8 v
def DR(v k:Nat):(iy v).getD k 0=Q v k:=by rw[rX<|lW v,kE]
def ajq{v:Nat}(h:nW v 0 (iy v).length=0):jr (2*v) (iy v).length=iy (2*v):=by
 have x:=Fz v;unfold nW at h;rw[bY x,bV]at h;have k:2*v<4294967296^(iy v).length:=by
  rcases er (2*v) (4294967296^(iy v).length)with q|q
  .exact q
  .have:=ado q<|pw _;omega
 have a:=uc k;have b:=nR (U:v<=2*v);exact J8 U 
def ajr{v:Nat}(h:nW v 0 (iy v).length≠0):jr (2*v) ((iy v).length+1)=iy (2*v)/\Q (2*v) (iy v).length=nW v 0 (iy v).length:=by
 have x:=Fz v;have e:=(Mb (r:=v) (b:=0) aG (iy v).length)
 have k:Q v (iy v).length=0:=yP x<|bA _;refine⟨J8<|aa1 ?_ ?_,by have:=e.1;rw[bV,k]at this;simpa using this⟩
 .unfold nW at h;rw[bY x,bV]at h;exact gN λq=>h<|cG q
 .rw [bI];omega
def as8{v:Nat}(h:v≠0)(e:v%2=0):(iy v).set 0 (Q v 0+1)=iy (v+1):=by
 rw[CA h,CA (U:v+1≠0),awL];unfold Q;rw[cA,eC,show(v+1)%4294967296=v%4294967296+1 by omega,show(v+1)/4294967296=v/4294967296 by omega]
def apT(a:Nat)(h:a<4294967296)(e:a%2=0):bits .or .u32 (a:Int) 1=((a+1:Nat):Int):=by
 have:=NV (a/2) 1 aG;rwa[(U:2*(a/2)%4294967296=a)]at this
def Nn{v N:Nat}(j:∀ k,k<N->Q v k=4294967295):∀ k,k<=N->Q 1 k+kA v 1 k=1
 | 0,_=>by rw[LY];decide
 |k+1,h=>by
  have a:=BU v 1 k;have b:=Nn j k U;have c:=j k U;have d:=rU (v+1) k;have e:=wP v 1<|k+1;have f:Q 1 (k+1)=0:=yP (k:=1) aG U;omega
section
variable{v N:Nat}(j:∀ k,k<N->Q v k=4294967295)
def aai{k:Nat}(h:k<N):Q (v+1) k=0:=by
 have a:=BU v 1 k;have b:=Nn j k U;have c:=j k h;have d:=rU (v+1) k;have e:=wP v 1<|k+1;omega
def am3(h:Q v N≠4294967295):Q (v+1) N=Q v N+1/\kA v 1 (N+1)=0:=by
 have a:=BU v 1 N;have b:=Nn j N<|bA _;have c:=rU v N;have d:=rU (v+1) N;have e:=wP v 1<|N+1;omega
end
def aah{v N:Nat}(h:kA v 1 (N+1)=0):∀ j,kA v 1 (N+1+j)=0/\Q (v+1) (N+1+j)=Q v (N+1+j)
 | 0=>by
  have a:=BU v 1<|N+1;have f:Q 1 (N+1)=0:=yP (k:=1) aG U;have c:=rU v<|N+1;have e:=wP v 1<|N+1+1;have d:=rU (v+1)<|N+1;rw[bV];omega
 |j+1=>by
  have⟨x,y⟩:=aah h j;have a:=BU v 1<|N+1+j;have f:Q 1 (N+1+j)=0:=yP (k:=1) aG U;have z:kA v 1 (N+1+(j+1))=0:=by
   rw[(U:N+1+(j+1)=N+1+j+1)];have d:=rU (v+1)<|N+1+j;omega
  have a:=BU v 1<|N+1+(j+1);have f:Q 1 (N+1+(j+1))=0:=yP (k:=1) aG U;have c:=rU v<|N+1+(j+1);have d:=rU (v+1)<|N+1+(j+1);have e:=wP v 1<|N+1+(j+1)+1;omega
def ao9{v N:Nat}(r:N<(iy v).length)(h:∀ k,k<N->Q v k=4294967295)(d:Q v N≠4294967295):(me 0 v N (iy v).length).set N (Q v N+1)=iy (v+1):=by
 have⟨y,z⟩:=am3 h d;have p:=Fz v;have V:v+1<4294967296^(iy v).length:=by
  rcases er (v+1) (4294967296^(iy v).length)with q|q
  .exact q
  .exfalso;have e:v+1=4294967296^(iy v).length:= U ;have n:Q (v+1) N=0:=by
    rw[e];unfold Q;obtain⟨j,t⟩:∃ j,(iy v).length=N+(j+1):=⟨(iy v).length-N-1,U⟩
    rw[t,bC,aw2 _<|pw N,bI,fR]
   omega
 have l:(iy<|v+1).length=(iy v).length:=Nat.le_antisymm (uc V)<|nR<|Nat.le_succ v;rw[<-J8 l];unfold me jr;apply fI aK;intro i m s;have g:i<(iy v).length:=by simpa using s
 rw[awx,iq,iq,awy];by_cases x:N=i
 .subst x;rw[bt rfl,y]
 .rw [bn x];by_cases u:i<N
  .rw [bt u,EF,aai h u]
  .rw [bn u];have:=(aah z<|i-(N+1)).2;rw[(U:N+1+(i-(N+1))=i)]at this;exact this.symm
def ao7{v:Nat}(j:∀ k,k<(iy v).length->Q v k=4294967295):jr (v+1) (iy v).length=jr 0 (iy v).length/\Q (v+1) (iy v).length=1/\jr (v+1) ((iy v).length+1)=iy (v+1):=by
 have e:jr (v+1) (iy v).length=jr 0 (iy v).length:=by
  unfold jr;apply fh;intro k x;rw[aai j<|ca.1 x,EF]
 have t:=Fz v;have h:=yC (v+1) (iy v).length;rw[e,yC,Nat.zero_mod]at h;have r:4294967296^(iy v).length<=v+1:=gN λq=>by rw[bY q]at h;omega
 refine⟨e,?_,J8<|aa1 r<|by rw[bI];have:=pw (iy v).length;omega⟩;have a:=BU v 1 (iy v).length;have b:=Nn j _<|bA _;have c:Q v (iy v).length=0:=yP t<|bA _;have d:=rU (v+1) (iy v).length;have f:=wP v 1<|(iy v).length+1;omega
def afo{v l:Nat}(k:(iy v).length=l+1):Q v l≠0/\H v=32*l+H (Q v l):=by
 have h:=Fz v;rw[k]at h;have y:4294967296^l<=v:=gN λq=>by have:=uc q;omega
 have x:Q v l≠0:=by
  unfold Q;have a:=ado y<|pw l;have b:v/4294967296^l<4294967296:=by rw[cC<|pw l,bL,<-bI];exact h
  rw[bY b];omega
 exact⟨x,V6 h x⟩
def ahC{v l:Nat}(_:(iy v).length=l+1):H (Q v l)<=32:=mo.2<|rU v l
def ahq{t x:Nat}(h:x<32-H t):t/2^(31-x)%2=0:=by
 have k:=qW t;have y:=bR (show 0<2 by decide) (U:H t<=31-x);rw[cG U]
def ahs{t x:Nat}(y:t≠0)(h:x=32-H t)(b:H t<=32):t/2^(31-x)%2=1:=by
 have v:=qW t;have z:=uC y;have s:=oP y;have e:31-x=H t-1:= U ;rw[e];have r:2^H t=2*2^(H t-1):=by
  obtain⟨k,u⟩:∃ k,H t=k+1:=⟨H t-1,U⟩
  rw[u,eD,bI,bL]
 have q:t/2^(H t-1)<2:=by rw[cC<|bG aG];omega
 have p:=ado z (bG (n:=H t-1)<|show 0<2 by decide);omega
def V4{v i:Nat}:Q v (i/32)/2^(i%32)%2=v/2^i%2:=by
 by_cases h:i/32<(iy v).length
 .have:=PA (lW v) i h;rw[kE]at this;rw[this,<-DR,bB,bH h];rfl
 .have k:=Fz v;have y:=bR (show 0<4294967296 by decide)<|gN h;have x:v<4294967296^(i/32):= U ;rw[yP x<|bA _,im];have z:4294967296^(i/32)<=2^i:=by rw[pI];exact bR aG U 
  rw[cG U]
def ahr{v i:Nat}(h:32*(iy v).length<=i):v/2^i%2=0:=by
 have x:=Fz v;rw[pI]at x;have k:=bR (show 0<2 by decide) h;rw[cG U]
def Ny(w k:Nat):w%2^(k+1)=w%2^k+w/2^k%2*2^k:=by
 rw[bI,il,bL<|2^k]
def To{w k:Nat}(h:k<32)(x:w<4294967296):bits .or .u32 ((w%2^k:Nat):Int) ((w/2^k%2*2^k:Nat):Int)=((w%2^(k+1):Nat):Int):=by
 have a:=bO w (bG (n:=k)<|show 0<2 by decide);have b:=bO (w/2^k) (show 0<2 by decide);have c:=Ny w k;have d:=ef w<|2^(k+1);have e:=ef w<|2^k;rw[K9 _ _ U U,D3 _ _ _ a,c]
def Ul{b k:Nat}(x:k<32)(h:b<=1):IntKind.u32.wrap ((b:Int)*2^k)=((b*2^k:Nat):Int):=by
 have y:b*2^k<=1*2^31:=dx h<|bR aG U;rw[IntKind.wrap_u32];have e:((b:Int)*2^k)=((b*2^k:Nat):Int):=by
  rw[eH,Int.natCast_pow];rfl
 rw[e];omega
def Xc{w y k:Nat}(h:k<32):Q w y/2^k%2=w/2^(32*y+k)%2:=by
 have:=V4 (v:=w) (i:=32*y+k);rwa[show(32*y+k)/32=y by omega,show(32*y+k)%32=k by omega]at this
def J7{w y:Nat}:y<(iy w).length↔32*y<H w:=by
 constructor
 .intro h;obtain⟨l,k⟩:∃ l,(iy w).length=l+1:=⟨(iy w).length-1,U⟩
  have⟨a,b⟩:=afo k;have:=oP a;omega
 .intro h;apply aww;intro q;have x:=yg q;rw[pI]at x;have:=mo.2 x;omega
def V7{v s:Nat}(h:s<=H v):H (v/2^s)=H v-s:=by
 by_cases x:v/2^s=0
 .rw [x,tZ];have z:v<2^s:=by
   rcases er v (2^s)with q|q
   .exact q
   .have:=ado q<|bG aG;omega
  have:=mo.2 z;omega
 .have u:v≠0:=λq=>x (by rw[q,im])
  have a:=qW v;have b:=uC u;have t:s<H v:=by
   rcases er s (H v)with q|q
   .exact q
   .exfalso;apply x;apply cG;exact bJ a<|bR aG q
  obtain⟨k,y⟩:∃ k,H v=s+(k+1):=⟨H v-s-1,U⟩
  rw[y]at a b;rw[y,Nat.add_sub_cancel_left];refine yK ?_ ?_
  .rw [dz<|bG aG,<-bC];rw[(U:s+(k+1)-1=k+s)]at b;exact b
  .rw [cC<|bG aG,<-bC,eX<|k+1];exact a
def ajl{v:Nat}(h:v≠0):ky v<H v:=by
 have:=Hp h;exact vC.2 this
def V5(v l N:Nat)(x:Nat):PS:=⟨29,aa,[(4,.e<|D ((31-x:Nat):Int)),(3,.e<|D l),(0,.e<|F<|iy v)],[]⟩
def Oy(v:Nat)(x:Nat):PS:=⟨38,ac,[(5,.own 5),(7,.e<|D x),(6,.e<|.v<|.int .u32 (nW v 0 x:Int)),(0,.e<|F<|iy v)],[(5,.row ac 110 x 1<|jW<|jr (2*v) x)]⟩
def ahu(v l N:Nat)(u:(iy v).length=l+1)(s:l<=1000000)(h:((iy v).getD l 0)≠0)(y:N=32-H ((iy v).getD l 0))(R:H ((iy v).getD l 0)<=32)(r:1<=H ((iy v).getD l 0))(q:H v=32*l+H ((iy v).getD l 0)):iB 278 [F<|iy v]<|D<|H v:=
 iL (Y [iN<|((iy v).length:Int)-1,.o 7<|oI (((iy v).length:Int)-1) (l:Int),.u 70,tT 9 (0<=(l:Int)) U,.s (Sp.jL (V5 v l N) 0 N U (λx z p=>by
    have X:=(lW v).getD l;have d:=b6 ((iy v).getD l 0)<|2^(31-x);have b:=ahq (t:=((iy v).getD l 0)) (x:=x) U;exact iU (Y [tT 13 (0<=((31-x:Nat):Int)) U,iX (l:Int)<|(iy v).length,.a (U:0<=(((31-x:Nat):Int):Int)/\(((31-x:Nat):Int):Int)<=((32:Nat):Int)),.o 21<|.int (k:=.u32)<|CS ((iy v).getD l 0)<|31-x,.o 22<|.int (k:=.u32)<|OS<|((iy v).getD l 0)/2^(31-x),tN 23 (((((iy v).getD l 0)/2^(31-x))%2:Nat):Int) 1,
     iN (((31-x:Nat):Int)-1)]<|.e<|af [.o 4<|oI (((31-x:Nat):Int)-1) ((31-(x+1):Nat):Int)]) aI)
  (λz=>by
    have X:=(lW v).getD l;have d:=b6 ((iy v).getD l 0)<|2^(31-N);have b:=ahs (t:=((iy v).getD l 0)) (x:=N) h y R;exact iU (af [tT 13 (0<=((31-N:Nat):Int)) U,iX (l:Int)<|(iy v).length,.a (U:0<=(((31-N:Nat):Int):Int)/\(((31-N:Nat):Int):Int)<=((32:Nat):Int)),.o 21<|.int (k:=.u32)<|CS ((iy v).getD l 0)<|31-N,.o 22<|.int (k:=.u32)<|OS<|((iy v).getD l 0)/2^(31-N),tE 23 (((((iy v).getD l 0)/2^(31-N))%2:Nat):Int) 1,
    iN (32*(l:Int)),iN<|((32*l:Nat):Int)+((31-N:Nat):Int),iN<|(((32*l)+(31-N):Nat):Int)+1]) aI) aM:jK 5 f278 (V5 v l N 0) .ret ⟨29,aa,[(2,.e<|D ((((32*l)+(31-N))+1:Nat):Int))],[]⟩)<|af [.o 4<|oI 31 ((31-0:Nat):Int)]]<|V (D ((((32*l)+(31-N))+1:Nat):Int)) (D<|H v)<|congrArg D U)
def ahv: iB 278 [F<|iy 0]<|D 0:=by
 have z:(iy 0).length=0:=by rw[pj];rfl
 exact iL<|af [iN<|((iy 0).length:Int)-1,.u 70,tF 9 (0<=(((iy 0).length:Int)-1))<|by rw[pj];decide]
def LP(v:Nat)(h:(iy v).length<=1000000):iB 278 [F<|iy v]<|D<|H v:=by
 rcases hl:(iy v).length with _|l
 .obtain rfl:=sF.1 hl;exact ahv
 .have⟨a,b⟩:=afo hl;have c:=ahC hl;have d:=oP a;rw[<-DR]at a b c d;exact ahu v l _ hl U a rfl c d b
def LO(v i:Nat)(h:(iy v).length<=1000000)(z:i<=1000000000):iB 279 [F<|iy v,D i]<|D ((v/2^i%2:Nat):Int):=by
 have X:=(lW v).getD<|i/32;have d:=b6 ((iy v).getD (i/32) 0)<|2^(i%32);exact iL (Y [tF 6 ((i:Int)<0) U,iN<|32*((iy v).length:Int)]<|.w (((32*(iy v).length:Nat):Int)<=i)
  (λy=>Y [S 12<|bu y]<|V (D 0) (D ((v/2^i%2:Nat):Int))<|congrArg (λx:Nat=>D (x:Int)) (ahr U).symm)
  (λy=>Y [S 12<|bw y,.a (U:0<(32:Int)),iN (i:Int),iX ((i/32:Nat):Int)<|(iy v).length,.a (U:0<(32:Int)),.a (U:0<=(((i%32:Nat):Int):Int)/\(((i%32:Nat):Int):Int)<=((32:Nat):Int)),.o 21<|.int (k:=.u32)<|CS ((iy v).getD (i/32) 0)<|i%32,.o 22<|.int (k:=.u32)<|OS<|((iy v).getD (i/32) 0)/2^(i%32),.o 23<|.int (k:=.i64)<|R4 ((((iy v).getD (i/32) 0)/2^(i%32))%2) U]<|V (D (((((iy v).getD (i/32) 0)/2^(i%32))%2:Nat):Int)) (D ((v/2^i%2:Nat):Int))<|by rw[DR,V4]))
def atb(v:Nat)(h:(iy v).length<=1000000)(o:(nW v 0 (iy v).length)=0):iB 276 [F<|iy v,.v<|.int .u64 0]<|F<|iy<|2*v:=
 pL (Y [.o 9 (.int aG:aj (.v<|.int .u32<|IntKind.u32.wrap 0)<|.v<|.int .u32 0),.y 5 5 ac 110 1<|jW<|jr (2*v) 0,.s (Sp.jL (Oy v) 0 ((iy v).length) U (λx y u=>by
    have e:=Mb (r:=v) (b:=0) aG x;rw[bV,<-DR v x]at e;have c:=Ma (r:=v) (b:=0) aG x;have X:=(lW v).getD x;have z:(((2*((iy v).getD x 0)%4294967296)+(nW v 0 x):Nat):Int)=(Q (2*v) x:Int):=by rw[e.1]
    have q:((iy v).getD x 0)/2^31=nW v 0 (x+1):=by rw[e.2]
    exact iU (Y [tT 13 ((x:Int)<((iy v).length:Int)) U,iX (x:Int)<|(iy v).length,.a (U:0<=(1:Int)/\(1:Int)<=((32:Nat):Int)),.o 21<|.int (k:=.u32)<|Uk<|(iy v).getD x 0,.o 23 (.int<|NV _ _ c:aj (.v<|.int .u32<|bits .or .u32 ((2*((iy v).getD x 0)%4294967296:Nat):Int) (nW v 0 x:Int))<|.v<|.int .u32 (((2*((iy v).getD x 0)%4294967296)+(nW v 0 x):Nat):Int)),.a (U:(x+1)*4<=140737488355328),iX (x:Int)<|(iy v).length,.a (U:0<=(31:Int)/\(31:Int)<=((32:Nat):Int)),.o 30<|.int (k:=.u32)<|CS ((iy v).getD x 0) 31,
     iN ((x:Int)+1)]<|.e<|af [.o 6<|.int (k:=.u32) (by rw[q]:((((iy v).getD x 0)/2^31:Nat):Int)=(nW v 0<|x+1:Int)),.b 5<|DQ (T:=110) rfl z]) aI)
  (λy=>by
    exact iU (af [tF 13 (((iy v).length:Int)<((iy v).length:Int)) U]) aI) aM:jK 4 f276 (Oy v 0) (.exit 0) ⟨38,ac,[(5,.own 5),(6,.e<|.v<|.int .u32 ((nW v 0 (iy v).length:Nat):Int))],[(5,.row ac 110 ((iy v).length) 1<|jW<|jr (2*v)<|(iy v).length)]⟩)<|af [.o 6<|.int (k:=.u32) (by rw[P7];rfl:0=(nW v 0 0:Int))],S 32<|FC o]<|V (.sl ac ((iy v).length) 1<|jW<|jr (2*v)<|(iy v).length) (F<|iy<|2*v)<|by rw[Ei (ot _ _).symm,ajq o])
def anV{N l c:Nat}{L:List Nat}(y:jr N (l+1)=L)(z:Q N l=c):E.le (.sl ac (l+1) 1 λx k=>if x<l then jW (jr N l) x k else(E.lO<|.sl ac 1 1 λx k=>[.v<|.int .u32 (c:Int)].getD (x*1+k)<|.v<|.bool ac) (x-l) k)<|F L:=by
 subst y z;rw[<-Ei (ot N<|l+1).symm];refine .sl λi j u v=>?_
 obtain rfl:j=0:= U ;by_cases h:i<l
 .simp only[h,bK];exact⟨.jB<|by unfold jW;rw[wQ h,wQ],rfl⟩
 .obtain rfl:i=l:= U ;simp only[dL,bE,dm];exact⟨.jB<|by unfold jW;rw[wQ];rfl,rfl⟩
section
variable(v:Nat)(h:(iy v).length<=1000000)
def atc(o:(nW v 0 (iy v).length)≠0):iB 276 [F<|iy v,.v<|.int .u64 0]<|F<|iy<|2*v:=by
 have⟨y,z⟩:=ajr o;exact pL (Y [.o 9 (.int aG:aj (.v<|.int .u32<|IntKind.u32.wrap 0)<|.v<|.int .u32 0),.y 5 5 ac 110 1<|jW<|jr (2*v) 0,.s (Sp.jL (Oy v) 0 ((iy v).length) U (λx u s=>by
    have h:=Mb (r:=v) (b:=0) aG x;rw[bV,<-DR v x]at h;have c:=Ma (r:=v) (b:=0) aG x;have X:=(lW v).getD x;have t:(((2*((iy v).getD x 0)%4294967296)+(nW v 0 x):Nat):Int)=(Q (2*v) x:Int):=by rw[h.1]
    have q:((iy v).getD x 0)/2^31=nW v 0 (x+1):=by rw[h.2]
    exact iU (Y [tT 13 ((x:Int)<((iy v).length:Int)) U,iX (x:Int)<|(iy v).length,.a (U:0<=(1:Int)/\(1:Int)<=((32:Nat):Int)),.o 21<|.int (k:=.u32)<|Uk<|(iy v).getD x 0,.o 23 (.int<|NV _ _ c:aj (.v<|.int .u32<|bits .or .u32 ((2*((iy v).getD x 0)%4294967296:Nat):Int) (nW v 0 x:Int))<|.v<|.int .u32 (((2*((iy v).getD x 0)%4294967296)+(nW v 0 x):Nat):Int)),.a (U:(x+1)*4<=140737488355328),iX (x:Int)<|(iy v).length,.a (U:0<=(31:Int)/\(31:Int)<=((32:Nat):Int)),.o 30<|.int (k:=.u32)<|CS ((iy v).getD x 0) 31,
     iN ((x:Int)+1)]<|.e<|af [.o 6<|.int (k:=.u32) (by rw[q]:((((iy v).getD x 0)/2^31:Nat):Int)=(nW v 0<|x+1:Int)),.b 5<|DQ (T:=110) rfl t]) aI)
  (λu=>by
    exact iU (af [tF 13 (((iy v).length:Int)<((iy v).length:Int)) U]) aI) aM:jK 4 f276 (Oy v 0) (.exit 0) ⟨38,ac,[(5,.own 5),(6,.e<|.v<|.int .u32 ((nW v 0 (iy v).length:Nat):Int))],[(5,.row ac 110 ((iy v).length) 1<|jW<|jr (2*v)<|(iy v).length)]⟩)<|af [.o 6<|.int (k:=.u32) (by rw[P7];rfl:0=(nW v 0 0:Int))],S 32<|Km o,.a (U:((iy v).length+1)*4<=140737488355328)]<|rR (F<|iy<|2*v) (anV y z:E.le (.sl ac ((iy v).length+1) 1 λi j=>if i<(iy v).length then(jW<|jr (2*v)<|(iy v).length) i j else(E.lO<|.sl ac 1 1 λi j=>[.v<|.int .u32 ((nW v 0 (iy v).length:Nat):Int)].getD (i*1+j)<|.v<|.bool ac) (i-(iy v).length) j)<|F<|iy<|2*v))
def aeC:iB 276 [F<|iy v,.v<|.int .u64 0]<|F<|iy<|2*v:=by
 by_cases c:(nW v 0 (iy v).length)=0
 .exact atb v h c
 .exact atc v h c
end
def anY{L M:List Nat}{n z:Nat}(v:n=0+L.length)(s:L.set 0 z=M):E.le (.sl ac n 1 λu k=>if u=0/\0<=k/\k<0+1 then[.v<|.int .u32 (z:Int)].getD (k-0) .any else(λx y=>if x<0 then(λx y=>([]:List E).getD (x*1+y)<|.v<|.bool ac) x y else(E.lO<|F L) (x-0) y) u k)<|F M:=by
 subst s;have e:n=(L.set 0 z).length:=by rw[de];omega
 rw[<-Ei e];refine .sl λi j t r=>?_
 obtain rfl:j=0:= U ;have m:i<L.length:= U ;by_cases h:i=0
 .subst h;simp only[ib,bA,awU,bK,ct];exact⟨.jB<|by show _=E.v (.int .u32 (((L.set 0 z).getD 0 0:Nat):Int));rw[bB (l:=L.set 0 z),List.getElem?_set_self m];rfl,rfl⟩
 .simp only[h,gz,bE,bD,dI];exact⟨.jB<|by show E.v (.int .u32 (L.getD i 0:Int))=_;unfold jW;rw[bB,bB,awp λq=>h q.symm],rfl⟩
def as5: iB 277 [F<|iy 0]<|F<|iy<|0+1:=
 iL (af [ah 6 (((iy 0).length:Int)==0)<|by rw[pj];rfl,.o 7<|.e uR])
def as4(v:Nat)(l:1<=(iy v).length)(s:(iy v).length<=1000000)(e:v%2=0):iB 277 [F<|iy v]<|F<|iy<|v+1:=by
 have X:=(lW v).getD 0;have r:((iy v).getD 0 0)%2=0:=by rw[DR];unfold Q;rw[cA,eC];omega
 have y:v≠0:=λq=>by subst q;rw[pj]at l;exact absurd l aG 
 exact pL<|Y [tN 6 ((iy v).length:Int) 0,.bo,.a (U:(0+(iy v).length)*4<=140737488355328),iX 0<|0+(iy v).length,.a (U:0<(0+(iy v).length)),.o 15<|.int (k:=.u32)<|apT ((iy v).getD 0 0) X r,iX 0<|0+(iy v).length,.a (U:0<(0+(iy v).length))]<|rR (F<|iy<|v+1) (anY U<|by rw[DR];exact as8 y e:E.le (.sl ac (0+(iy v).length) 1 λx j=>if x=0/\0<=j/\j<0+1 then[.v<|.int .u32 ((((iy v).getD 0 0)+1:Nat):Int)].getD (j-0) .any else(λi h=>if i<0 then(λi h=>([]:List E).getD (i*1+h)<|.v<|.bool ac) i h else(E.lO<|F<|iy v) (i-0) h) x j)<|F<|iy<|v+1)
def aez(v:Nat)(s:(iy v).length<=1000000)(e:v%2=0):iB 277 [F<|iy v]<|F<|iy<|v+1:=by
 by_cases h:(iy v).length=0
 .obtain rfl:=sF.1 h;exact as5
 .exact as4 v U s e
def aht(v:Nat)(A:Option Addr)(c:Nat)(w:ap)(s:Sl w A c<|iy v)(T:Tb w)(h:(iy v).length<=1000000):
 Calls prog 278 #[.slice A (iy v).length c] w (λe w'=>e = .returned (.int .i64 (H v:Int))/\jc w w'):=by
 refine((LP v h).run w (λ_ _=>False) [_] T (λ_ _ h=>h.elim)<|.cons (BK (λ_ _ h=>h.elim) (jc.refl w) s)<|.nil _ _ _).mono ?_;rintro e w' ⟨x,rfl,b,r⟩;obtain rfl:=z.lr r;exact⟨rfl,b⟩
def aho(v i:Nat)(A:Option Addr)(c:Nat)(w:ap)(s:Sl w A c<|iy v)(T:Tb w)(h:(iy v).length<=1000000)(k:i<=1000000000):
 Calls prog 279 #[.slice A (iy v).length c,.int .i64 (i:Int)] w (λe w'=>e = .returned (.int .i64 ((v/2^i%2:Nat):Int))/\jc w w'):=by
 refine((LO v i h k).run w (λ_ _=>False) [_,_] T (λ_ _ h=>h.elim)<|.cons (BK (λ_ _ h=>h.elim) (jc.refl w) s)<|.cons (.v _)<|.nil _ _ _).mono ?_;rintro e w' ⟨x,rfl,b,r⟩;obtain rfl:=z.lr r;exact⟨rfl,b⟩
def Ow.B4{w:ap}{b:Nat}{v:av}{L:List Nat}(h:Ow w b v L){g:Nat}(x:g<b)(i:Nat)(u:av):Ow (w.setCell ⟨g,i,am⟩ u) b v L:=
 ⟨ownsRow_setCell_below h.row x u,h.ok⟩
def Ow.ext{w w':ap}{b:Nat}{v:av}{L:List Nat}(h:Ow w b v L)(x:jc w w'):Ow w' b v L:=by
 refine⟨⟨h.row.1,?_⟩,h.ok⟩;rcases h.row.2 with q|⟨g,c,u,k,y,e,r⟩
 .exact .inl q
 .exact .inr ⟨g,c,u,k,y,by rw[x.block g (cX.1 e).1];exact e,r⟩
def Ow.mono{w:ap}{a b:Nat}{v:av}{L:List Nat}(h:Ow w a v L)(x:b<=a):Ow w b v L:=by
 refine⟨⟨h.row.1,?_⟩,h.ok⟩;rcases h.row.2 with q|⟨g,c,u,e,k,r⟩
 .exact .inl q
 .exact .inr ⟨g,c,u,e,bF x k,r⟩
def kf.as3{w:ap}{g n c:Nat}{s:Bool}{A:Option Addr}{e:Int}(h:kf w g s A n c e)(x:Option Addr)(k c':Nat):kf (w.setCell ⟨g,1,am⟩<|.slice x k c') g s x k c' e:=heap_setCell_same w g 1 _ _ (.slice x k c') h
def kf.grown{w w':ap}{g n c b:Nat}{s:Bool}{A:Option Addr}{e:Int}{v:av}{L:List Nat}(h:kf w g s A n c e)(o:Ow w b v L)(x:w.grownBy w' v.ownBlock)(k:g<b):kf w' g s A n c e:=
 (x.block g h.lt (λq=>by have:=(o.row.lt g q.symm).1;omega)).trans h
def aoh(v:Nat)(e:Int)(A:Option Addr)(c:Nat)(w:ap)(h0:v≠0)(hs:Sl w A c<|iy v)(hT:Tb w)(hl:(iy v).length<=1000)(lG:-100000<=e)(kO:e<=100000):
 Calls prog 280 #[.bool ac,.slice A (iy v).length c,.int .i64 e] w (xx w<|canon ac v e):=by
 have oQ:=J (show canon ac v e=⟨ac,v/2^ky v,e+ky v⟩by unfold canon;rw[bn h0]);have hZ:=ajl h0;have hB:H v<=32*1000:=by
  have:=yg<|bA (iy v).length;rw[pI]at this;have:=mo.2 this;omega
 have rB:(((H v:Int)==0))=ac:=bd U;have ES:=J λA c w (hs:Sl w A c<|iy v) hT=>aht v A c w hs hT U;have wU:=J λi A c w (hs:Sl w A c<|iy v) hT hi=>aho v i A c w hs hT U hi;obtain⟨m,hm⟩:∃ m,m=(iy v).length:=⟨_,rfl⟩
 rw[<-hm]at ES wU ⊢;have HM:=J hm;clear hm;obtain⟨n,hn⟩:∃ n,n=H v:=⟨_,rfl⟩
 rw[<-hn]at ES hZ hB rB;have HN:=J hn;clear hn;obtain⟨Z,Q3⟩:∃ Z,Z=ky v:=⟨_,rfl⟩
 rw[<-Q3]at hZ oQ;have HZ:=J Q3;clear Q3;go_enter func280,ntmps280;go_wp2_with fail;refine(ES.out A c _ (hs.alloc _)<|hT.alloc _).mono ?_;rintro e' w1 ⟨rfl,lk⟩;go_wp2;have vv:∀ k,k<Z->v/2^k%2=0:=λk hk=>by rw[HZ.out]at hk;exact V3 h0 hk
 have vy:v/2^Z%2=1:=by rw[HZ.out];exact V2 h0
 have HZ1:=J vv;clear vv;have HZ2:=J vy;clear vy;have wB:=hs.below<|(jc.alloc w _).trans lk;have hT1:=hT.below<|(jc.alloc w _).trans lk;have DK:=(jc.alloc w _).trans lk;go_loopw [8] (λi wr=>∃ k:Nat,k<=Z/\i = .int .i64 (k:Int)/\jc w1 wr) (λi _=>Z-(intOf i).toNat)
 case atStart=>exact⟨0,cj _,rfl,jc.refl _⟩
 case round=>
  obtain⟨k,hk,rfl,nx⟩:=hrel;have lL:=wB.below nx;have Ag:=hT1.below nx;have uM:=DK.trans nx;go_wp2_with fail;refine(wU.out k A c _ lL Ag U).mono ?_;rintro e'' w3 ⟨rfl,qu⟩;by_cases hkZ:k<Z
  .rw [HZ1.out k hkZ];have Cq:IntKind.i64.wrap ((k:Int)+1)=((k+1:Nat):Int):=by rw[IntKind.wrap_i64];omega
   go_wp2;go_roundw
   case rel=>exact⟨k+1,U,by go_num,nx.trans qu⟩
   case measure=>simp[intOf];omega
  .obtain rfl:k=Z:= U ;rw[HZ2.out];have hx3:=uM.trans qu;have GW:=lL.below qu;have hT3:=Ag.below qu;have uL:IntKind.i64.wrap (e+(k:Int))=e+(k:Int):=by rw[IntKind.wrap_i64];omega
   go_wp2;have LV:=kf.new w3 ac am 0 0<|e+(k:Int);have hxW:=lk.trans<|nx.trans qu;have hg:=hxW.size;have hx5:=hxW.trans<|jc.alloc w3<|.cells #[.bool ac,.slice am 0 0,.int .i64<|e+(k:Int)] 31;obtain⟨g9,Zp⟩:∃ g,g=w3.heap.size:=⟨_,rfl⟩
   rw[<-Zp]at LV hg ⊢;generalize w3.alloc (.cells #[.bool ac,.slice am 0 0,.int .i64<|e+(k:Int)] 31)=w5 at *
   clear Zp;have xT:=hs.alloc<|.cells #[.bool ac,.slice am 0 0,.int .i64 0] 31;have hTW:=hT.alloc<|.cells #[.bool ac,.slice am 0 0,.int .i64 0] 31;have bx6:=kf.new w ac am 0 0 0;generalize hW:w.alloc (.cells #[.bool ac,.slice am 0 0,.int .i64 0] 31)=W at *
   have hwW:jc w W:=hW▸jc.alloc w _;have MN:g9<w5.heap.size:=LV.lt;obtain⟨V,hV⟩:∃ V,V=v/2^k:=⟨_,rfl⟩
   have HV:=J hV;rw[<-hV]at oQ;have hVb:H V+k=n:=by rw[hV,V7<|by rw[<-HN.out];omega,<-HN.out];omega
   have Zd:∀ i,i<1000000->v/2^(k+i)%2=V/2^i%2:=λi _=>by rw[hV,df,<-bC]
   have HBV:=J Zd;clear Zd hV;have Y7:∀ y,y<(iy V).length↔32*y<H V:=λy=>J7
   have HYB:=J Y7;clear Y7;obtain⟨Y,hY⟩:∃ Y,Y=(iy V).length:=⟨_,rfl⟩
   rw[<-hY]at HYB;have HY:=J hY;clear hY;obtain⟨E9,YP⟩:∃ E9,E9=e+(k:Int):=⟨_,rfl⟩
   rw[<-YP]at oQ LV;clear YP;go_loopw [10] (λi wr=>∃ (y:Nat) (O:List Nat) (OA:Option Addr) (Oc:Nat),y<=Y/\i = .int .i64 ((k+32*y:Nat):Int)/\O=(iy V).take y/\Ow wr w5.heap.size (.slice OA O.length Oc) O/\kf wr g9 ac OA O.length Oc E9/\jc W wr/\w5.heap.size<=wr.heap.size) (λi _=>k+32*Y-(intOf i).toNat)
   case atStart=>exact⟨0,[],am,0,cj _,by go_num,aK,Ow.nil _ _,LV,hx5,bA _⟩
   case round=>
    obtain⟨y,O,OA,Oc,hy,rfl,hO,mA,jP,DM,kF⟩:=hrel;have hsr:=xT.below DM;have MM:=hTW.below DM;obtain⟨I,hI⟩:∃ I,I=k+32*y:=⟨_,rfl⟩
    rw[<-hI];by_cases iV:y<Y
    .have h1:=(HYB.out y).1 iV;have ht:decide ((I:Int)<n)=aa:=bu U;have GY:I<n:= U ;have JO:decide (I<n)=aa:=bu GY;have hIb:I<=40000:= U ;have hD:Q V y<4294967296:=rU V y;have Zc:∀ j,j<32->v/2^(I+j)%2=Q V y/2^j%2:=λj hj=>by
      rw[hI,cU,HBV.out _ U,Xc hj]
     have HBD:=J Zc;clear Zc;have HI:=J hI;clear hI;go_wp2;go_loopw [11,12] (λx q wj=>∃ j:Nat,j<=32/\x = .int .u32 ((Q V y%2^j:Nat):Int)/\q = .int .i64 (j:Int)/\jc wr wj) (λ_ q _=>32-(intOf q).toNat)
     case atStart=>exact⟨0,cj _,by simp[dq],rfl,jc.refl _⟩
     case round=>
      obtain⟨j,hj,rfl,rfl,ET⟩:=hrel;by_cases JA:j<32
      .have uJ:decide ((j:Int)<32)=aa:=bu U ;have Cq:IntKind.i64.wrap ((I:Int)+j)=((I+j:Nat):Int):=by rw[IntKind.wrap_i64];omega
       go_wp2_with fail;refine(wU.out (I+j) A c _ (hsr.below ET) (MM.below ET) U).mono ?_;rintro e3 w6 ⟨rfl,hb6⟩;rw[HBD.out j JA];have amg:Q V y/2^j%2<=1:= U ;have ho:=To JA hD;generalize Q V y/2^j%2=b at *
       have wq:bits .or .u32 ((Q V y:Int)%2^j) ((b:Int)*2^j)=((Q V y%2^(j+1):Nat):Int):=by rw[<-ho];congr 1<;>simp
       have HO:=J wq;clear ho wq;have hcv:IntKind.u32.wrap (b:Int)=b:=by rw[IntKind.wrap_u32];omega
       have Fh:=Ul JA amg;have hw4:IntKind.i64.wrap ((j:Int)+1)=((j+1:Nat):Int):=by rw[IntKind.wrap_i64];omega
       go_wp2;go_roundw
       case rel=>exact⟨j+1,U,congrArg (Value.int .u32) HO.out,by go_num,ET.trans hb6⟩
       case measure=>simp[intOf];omega
      .obtain rfl:j=32:= U ;have Zj:Q V y%2^32=Q V y:=bY (by simpa using hD);rw[Zj];have Rd:=jP.ext ET;have RM:=mA.ext ET;have b1:=Rd.c1;have f1:=Rd.fr 1;have YS:O++[Q V y]=(iy V).take (y+1):=by
        have DE:y<(iy V).length:=by rw[<-HY.out];exact iV
        have:=DR V y;rw[bB,bH DE]at this;rw[awk,bH DE,hO,<-this];rfl
       have HON:=J YS;clear YS;clear hO HBD Zj;generalize Q V y=z at *
       have hO4:O.length<=3000:=by
        have:=HON.out▸(show(O++[z]).length=O.length+1 by simp);rw[cz]at this;omega
       have amO:O.length+[z].length<=10000000000:= aS ;have amv:w5.heap.size<=wr.heap.size:=bF kF ET.size;have Fl:=DM.trans ET;have hw5:IntKind.i64.wrap ((I:Int)+32)=((I+32:Nat):Int):=by rw[IntKind.wrap_i64];omega
       have ama:W.heap.size<=w5.heap.size:=hx5.size;go_wp2_with (at_builtin;go_must (refine tX aJ _ _ aJ w5.heap.size _ O aJ (RM.alloc _) _ _ _ [z] aJ aJ (Sl.wE _ _ z U U) amO (sD amv _) ?_);intro v' w7 ZM Rm avK;obtain⟨OA7,Oc7,rfl,avZ⟩:=ZM.sl;have PE:=(Rd.alloc _).grown (RM.alloc _) Rm MN;have b7:=PE.c1;have f7:=PE.fr 1)
       go_roundw
       case rel=>
        refine⟨y+1,O++[z],OA7,Oc7,U,congrArg (Value.int .i64)<|by have:=HI.out;omega,HON.out,ZM.B4 MN 1 _,(by rw[cD];exact PE.as3 _ _ _),((Fl.trans<|jc.alloc _ _).own _ _ ((RM.alloc _).mono ama) Rm).setCell hg _,?_⟩;have:=Rm.size;simp[World.setCell]at this ⊢;omega
       case measure=>have:=HI.out;simp[intOf];omega
    .have hyY:y=Y:= U ;have GY:¬I<n:=by
      intro q;have:=(HYB.out y).2 U;omega
     have ht:decide ((I:Int)<n)=ac:=bw U;have JO:decide (I<n)=ac:=bw GY;have hOV:O=iy V:=by rw[hO,cW<|by rw[<-HY.out];omega]
     obtain⟨OA',Oc',heq,xQ⟩:=mA.sl;cases heq;have b0:=jP.c0;have b1:=jP.c1;have b2:=jP.c2;have Df:=bx6.ext DM;have c0:=Df.c0;have c1:=Df.c1;have c2:=Df.c2;have f0:=Df.fr 0;have f1:=Df.fr 1;have f2:=Df.fr 2;clear hI hO HYB;go_wp2;rw[oQ.out];subst hOV;exact vX rfl rfl rfl (Df.set _ _ _ _ _) rfl (Df.wG xQ _ _ _ _ _) (kf.vK (hwW.trans DM) (bA _) _ _ _ _ _)
def abe(v:Nat)(e:Int)(x:v≠0)(l:(iy v).length<=1000)(G:-100000<=e)(k:e<=100000):iB 280 [I ac,F<|iy v,D e]<|iJ<|canon ac v e:=by
 refine⟨call280,λw B s K y r=>?_⟩;obtain⟨n,s,rfl,f,r⟩:=r.nm;obtain⟨m,s,rfl,u,r⟩:=r.nm;obtain⟨g,s,rfl,t,r⟩:=r.nm;obtain rfl:=r.sj;obtain rfl:=z.lr f;obtain rfl:=z.lr t;obtain⟨A,c,rfl,q⟩:=yr (lW v) u;exact(aoh v e A c w x q K l G k).mono λe p h=>rd B w e p y h
end Go.Proofs.YthalchiobglflaaGreatDoor
