/- Lemmas that the last file uses. -/
import Derived.Test.YthalchiobglflaaGreatDoorM03
import Derived.DeepKeys
set_option linter.unusedSimpArgs false
set_option linter.unusedVariables false
set_option linter.defProp false
set_option maxHeartbeats 4000000
open Go.Proofs.Tryz
open Bool renaming true->aa,false->ac
open Option renaming some->al,none->am
open Go renaming World->ap,Value->av,FuncId->ax,TypeId->ay
open List renaming replicate->aA,range->be
open Go.Value renaming cells->aL
open Int renaming toNat->aN,tmod->bl
namespace Go.Proofs.YthalchiobglflaaGreatDoor
open Go.RowKit Fp Pu
def Yx(a b:Nat)(x:Nat):PS:=⟨12,aa,[(0,.e<|.v<|.int .u64 (((nP a b x).1:Nat):Int)),(1,.e<|.v<|.int .u64 (((nP a b x).2:Nat):Int))],[]⟩
def ala(a b N:Nat)(z:a<18446744073709551616)(u:b<18446744073709551616)(j:∀ k,k<N->(nP a b k).2≠0)(h:(nP a b N).2=0):iB 225 [.v<|.int .u64 (a:Int),.v<|.int .u64 (b:Int)]<|.v<|.int .u64 (((nP a b N).1:Nat):Int):=
 iL (af [.s (Sp.jL (Yx a b) 0 N U (λx y v=>by
    have r:=j x U;exact iU (Y [ah 6 ((((nP a b x).2:Nat):Int) != 0)<|Km<|j x U,.a (U:0<((((nP a b x).2:Nat):Int):Int))]<|.e<|af [.o 0<|.int (k:=.u64) (by first|rfl|omega|(simp only[bT,bU];omega):(((nP a b x).2:Nat):Int)=(((nP a b<|x+1).1:Nat):Int)),.o 1<|.int (k:=.u64) (by first|rfl|omega|(simp only[bT,bU];omega):((((nP a b x).1)%((nP a b x).2):Nat):Int)=(((nP a b<|x+1).2:Nat):Int))]) aI)
  (λy=>by
    exact iU (af [S 6<|FC h]) aI) aM:jK 1 f225 (Yx a b 0) (.exit 0) ⟨12,aa,[(0,.e<|.v<|.int .u64 (((nP a b N).1:Nat):Int))],[]⟩)<|af [.o 0<|.int (k:=.u64) (by first|rfl|omega|(simp only[bT,bU];omega):(a:Int)=(((nP a b 0).1:Nat):Int)),.o 1<|.int (k:=.u64) (by first|rfl|omega|(simp only[bT,bU];omega):(b:Int)=(((nP a b 0).2:Nat):Int))]])
def alb(a b:Nat)(x:a<18446744073709551616)(k:b<18446744073709551616):iB 225 [.v<|.int .u64 (a:Int),.v<|.int .u64 (b:Int)]<|.v<|.int .u64 (Nat.gcd a b:Int):=by
 have⟨N,y,h⟩:=XS b a;have g:=Qk a b N;rw[h,Nat.gcd_zero_right]at g;rw[<-g];exact ala a b N x k y h
def atw(m:Nat)(h:m<=1073741824):iB 226 [D m]<|.v<|.int .u64 (m:Int):=
 iL (af [tF 4 ((m:Int)<0) U,.o 9<|.int (k:=.u64)<|rS m])
def atv(m:Nat)(x:0<m)(h:m<=1073741824):iB 226 [D (-(m:Int))]<|.v<|.int .u64 (m:Int):=
 iL (af [tT 4 ((-(m:Int))<0) U,iN<|0-(-(m:Int)),.o 6<|oI (0-(-(m:Int))) (m:Int),.o 7<|.int (k:=.u64)<|rS m])
def aeM(n:Int)(x:-1073741824<=n)(k:n<=1073741824):iB 226 [D n]<|.v<|.int .u64 (n.natAbs:Int):=by
 by_cases h:0<=n
 .obtain ⟨m,rfl⟩:=dZ h;exact atw m U 
 .obtain ⟨m,rfl⟩:∃ m:Nat,n = -(m:Int):=⟨n.natAbs,U⟩
  rw[gJ,ez];exact atv m U U 
def By(g:Nat):((g:Int)==1)=decide (g=1):=by
 by_cases h:g=1
 .subst h;rfl
 .rw [bw h];exact bd U 
def N8(n d:Int):iB 166 [.agg [D n,D d]]<|I<|nJ n d:=
 iL (.w (1<=d)
  (λk=>Y [S 5<|bu k]<|.w (d<=1073741824)
   (λh=>Y [S 9<|bu h]<|.w ((-1073741824)<=n)
    (λx=>Y [S 14<|bu x]<|.w (n<=1073741824)
     (λy=>Y [S 19<|bu y,.c<|aeM n U U,.c<|aeM d U U,.c<|alb (Int.natAbs n) (Int.natAbs d) U U]<|V (I<|(Nat.gcd (Int.natAbs n)<|Int.natAbs d:Int)==1) (I<|nJ n d)<|by unfold nJ;simp[By,k,h,x,y])
     (λy=>Y [S 19<|bw y]<|V (I ac) (I<|nJ n d)<|by unfold nJ;simp[By,k,h,x,y]))
    (λx=>Y [S 14<|bw x]<|V (I ac) (I<|nJ n d)<|by unfold nJ;simp[By,k,h,x]))
   (λh=>Y [S 9<|bw h]<|V (I ac) (I<|nJ n d)<|by unfold nJ;simp[By,k,h]))
  (λk=>Y [S 5<|bw k]<|V (I ac) (I<|nJ n d)<|by unfold nJ;simp[By,k]))
def abi{l i:Dy}{e f:Int}(h:e≠0\/f≠0):mc l e i f=L:=bt h
def aoj{l i:Dy}{e f:Int}(h:e=0)(k:f=0):mc l e i f=⟨l,i,ac⟩:=bn<|by rw[h,k];decide
def ac9(n d:Int)(p:Nat)(h:nJ n d=aa)(i:8<=p)(C:p<=512):iB 145 [.agg [D n,D d],D p]<|O<|qj n d p:=by
 have⟨r,y,z,u⟩:=KH h;have v:=vz (n:=n) U;have t:=vz (n:=d) U;have s:(jF d).m≠0:=Sc U;exact iL (Y [.c<|N8 n d,ai 11 (!(nJ n d))<|by rw[h];rfl,.c<|tA n,.c<|tA d,.c<|adf (jF n) (jF d) p Z Z Z U U,.c<|tA n,.c<|tA d,.c<|adg (jF n) (jF d) p Z Z Z U U]<|.w ((o9 (jF n) (jF d) p ac)=0)
  (λk=>Y [S 36<|bj k]<|.w ((o9 (jF n) (jF d) p aa)=0)
   (λx=>Y [S 39<|bj x]<|V (O<|Iv.mk (lK (jF n) (jF d) p ac) (lK (jF n) (jF d) p aa) ac) (O<|qj n d p)<|by unfold qj;rw[bt h,aoj k x])
   (λx=>Y [S 39<|bk x,.o 41<|.e Le]<|V (O L) (O<|qj n d p)<|by unfold qj;rw[bt h,abi<|.inr x]))
  (λk=>Y [S 36<|bk k,.o 41<|.e Le]<|V (O L) (O<|qj n d p)<|by unfold qj;rw[bt h,abi<|.inl k]))
section
variable(x:Iv)
noncomputable def yU(p:Nat):Iv:=@dite Iv (∃ y:Iv,y.iE/\iB 259 [O x,D (p:Int)] (O y)) (Classical.propDecidable _) Classical.choose λ_=>L
def Qv(p:Nat):(yU x p).iE:=by
 unfold yU;split
 .rename_i h;exact(du h).1
 .exact np
def X2(k:x.iE)(p:Nat)(i:8<=p)(C:p<=512)(F:xw):iB 259 [O x,D (p:Int)]<|O<|yU x p:=by
 have h:∃ y:Iv,y.iE/\iB 259 [O x,D (p:Int)] (O y):=(F x p k i C).1;unfold yU;rw[dif_pos h];exact(du h).2
noncomputable def yV(p:Nat):Iv:=@dite Iv (∃ y:Iv,y.iE/\iB 261 [O x,D (p:Int)] (O y)) (Classical.propDecidable _) Classical.choose λ_=>L
def Qw(p:Nat):(yV x p).iE:=by
 unfold yV;split
 .rename_i h;exact(du h).1
 .exact np
def X3(k:x.iE)(p:Nat)(i:8<=p)(C:p<=512)(F:xw):iB 261 [O x,D (p:Int)]<|O<|yV x p:=by
 have h:∃ y:Iv,y.iE/\iB 261 [O x,D (p:Int)] (O y):=(F x p k i C).2.1;unfold yV;rw[dif_pos h];exact(du h).2
noncomputable def yW(p:Nat):Iv:=@dite Iv (∃ y:Iv,y.iE/\iB 262 [O x,D (p:Int)] (O y)) (Classical.propDecidable _) Classical.choose λ_=>L
def X5(p:Nat):(yW x p).iE:=by
 unfold yW;split
 .rename_i h;exact(du h).1
 .exact np
def X4(k:x.iE)(p:Nat)(i:8<=p)(C:p<=512)(F:xw):iB 262 [O x,D (p:Int)]<|O<|yW x p:=by
 have h:∃ y:Iv,y.iE/\iB 262 [O x,D (p:Int)] (O y):=(F x p k i C).2.2.1;unfold yW;rw[dif_pos h];exact(du h).2
noncomputable def yT(p:Nat):Iv:=@dite Iv (∃ y:Iv,y.iE/\iB 263 [O x,D (p:Int)] (O y)) (Classical.propDecidable _) Classical.choose λ_=>L
def X1(p:Nat):(yT x p).iE:=by
 unfold yT;split
 .rename_i h;exact(du h).1
 .exact np
def X0(k:x.iE)(p:Nat)(i:8<=p)(C:p<=512)(F:xw):iB 263 [O x,D (p:Int)]<|O<|yT x p:=by
 have h:∃ y:Iv,y.iE/\iB 263 [O x,D (p:Int)] (O y):=(F x p k i C).2.2.2.1;unfold yT;rw[dif_pos h];exact(du h).2
noncomputable def rV(p:Nat):Iv:=@dite Iv (∃ y:Iv,y.iE/\iB 266 [O x,D (p:Int)] (O y)) (Classical.propDecidable _) Classical.choose λ_=>L
def Jc(p:Nat):(rV x p).iE:=by
 unfold rV;split
 .rename_i h;exact(du h).1
 .exact np
def X6(k:x.iE)(p:Nat)(i:8<=p)(C:p<=512)(F:xw):iB 266 [O x,D (p:Int)]<|O<|rV x p:=by
 have h:∃ y:Iv,y.iE/\iB 266 [O x,D (p:Int)] (O y):=(F x p k i C).2.2.2.2;unfold rV;rw[dif_pos h];exact(du h).2
end
def wO(o:nC):Bool:=decide (o.kind<=6)
noncomputable def oJ(o:nC)(x y:Iv)(p:Nat):Iv:=
 if o.kind=3 then jN x y p else if o.kind=4 then qy x y p else if o.kind=5 then B x y p else if o.kind=6 then jC x y p
 else if o.kind=7 then oF x else if o.kind=8 then jO x o.n p else if o.kind=9 then yU x p else if o.kind=10 then yV x p
 else if o.kind=11 then yW x p else if o.kind=12 then yT x p else if o.kind=13 then rV x p else L
noncomputable def AU(o:nC)(l:List Iv)(p:Nat):Iv:=if o.kind=1 then qj o.cn o.cd p else oJ o (l.getD o.a L) (if wO o then l.getD o.b L else L) p
noncomputable def kS(i:List nC)(xs:List Iv)(p:Nat):Nat->List Iv
 | 0=>xs
 |k+1=>kS i xs p k++[AU (i.getD k o) (kS i xs p k) p]
noncomputable def mB(t:qo)(xs:List Iv)(p:Nat):List Iv:=t.iR.map λk=>(kS t.iz xs p t.iz.length).getD k L
section
variable(s:jS)(x:List Iv)(h:Dy)(b:List Iv)(p:Nat)
noncomputable def sd:List Iv:=
 if mU (mB s.tape (b++s.params) p)then[]else if mU (Cs x (mB s.tape (b++s.params) p) h p)then[]else Cs x (mB s.tape (b++s.params) p) h p
noncomputable def Fa:Bool:=!(sd s x h b p).isEmpty&&(xX x b&&xX (sd s x h b p) b)
end
def UL(i:List nC)(xs:List Iv)(p:Nat):∀ k,(kS i xs p k).length=xs.length+k
 | 0=>rfl
 |k+1=>by simp only[kS,cD,UL i xs p k,dD,awM];omega
def agn(o:nC){x y:Iv}(k:x.iE)(z:y.iE){p:Nat}(h:1<=p)(i:p<=4096):(oJ o x y p).iE:=by
 unfold oJ;split
 .exact sN k z h i
 split
 .exact sN k (DY z) h i
 split
 .exact nZ _ _ h i
 split
 .exact su _ _ h i
 split
 .exact DY k
 split
 .exact FJ k _ h i
 split
 .exact Qv _ _
 split
 .exact Qw _ _
 split
 .exact X5 _ _
 split
 .exact X1 _ _
 split
 .exact Jc _ _
 .exact np
def agp(o:nC){l:List Iv}(h:ns l){p:Nat}(x:1<=p)(i:p<=4096):(AU o l p).iE:=by
 unfold AU;split
 .exact Ub _ _ x i
 .exact agn o (h _) (by split;exact h _;exact np) x i
def OZ(i:List nC){xs:List Iv}(h:ns xs){p:Nat}(x:1<=p)(C:p<=4096):∀ k,ns (kS i xs p k)
 | 0=>h
 |k+1=>(OZ i h x C k).push<|agp _ (OZ i h x C k) x C
def Yb(t:qo){xs:List Iv}(h:ns xs){p:Nat}(x:1<=p)(C:p<=4096):ns<|mB t xs p:=λi=>by
 unfold mB;rw[bB,cQ];cases t.iR[i]? with
 |none=>exact np
 |some k=>exact OZ t.iz h x C _ _
def Mt(t:qo)(xs:List Iv)(p:Nat):(mB t xs p).length=t.iR.length:=by simp[mB]
def aae{s:jS}{x b:List Iv}{h:Dy}{p n:Nat}(k:kJ n x)(z:1<=p)(i:p<=4096)(j:sd s x h b p≠[]):kJ n<|sd s x h b p:=by
 unfold sd at j ⊢;split at j
 .exact absurd rfl j
 .rename_i u;rw[bn u];split at j
  .exact absurd rfl j
  .rename_i y;rw[bn y];exact⟨by rw[Nl,k.len],ame (by simpa using y)<|amZ k.ok.UK z i⟩
def ajm:ky 1=0:= aQ 
def Wo(e:Int):canon ac 1 e=⟨ac,1,e⟩:=by
 unfold canon;rw[bn aG,ajm];simp
def pV(k:Int):Dy:=⟨ac,1,k⟩
section
variable{k:Int}(h:-100<=k)(x:k<=100)
def UF:oL<|pV k:=.inr ⟨by show H 1<=4096;rw[yL];decide,by show -16384<=k;omega,by show k<=16384;omega,by show(H 1:Int)+k<=16384;rw[yL];omega⟩
def OR:(pV k).iE:=⟨by have:=tC ac 1 k;rwa[Wo]at this,UF h x⟩
end
def OQ(k:Int):¬(pV k).jh<0:=by
 rw[(uS _).2,sV];show ¬(if ac=aa then _ else((1:Nat):Rat)*P2 k)<0;rw[bn aG];have:=oZ k
 grind
def Ur{d:Dy}(h:¬d.jh<0):0<=d.q:=by
 rw[(uS d).2]at h
 grind
noncomputable def Dc(s:jS)(x:List Iv)(h:Dy)(p:Nat)(k:Int):Bool:=xF x (pV k)&&Fa s x h (tG x<|pV k) p
section
variable(a b:List Iv)(g:ax)(cap:List E)
def VI(i:Nat):PS:=⟨32,ac,[(17,.e<|D i),(16,.e<|D a.length),(15,.e<|K a),(1,.e<|K b),(2,.e<|.fn g cap)],[]⟩
def VH(N:Nat)(i:Nat):PS:=⟨32,ac,[(17,.e<|D i),(16,.e<|D a.length),(15,.e<|K a),(1,.e<|K b),(2,.e<|.fn g cap)],[]⟩
end
section
variable(x:List Iv)(d:Dy)
def VM(i:Nat):PS:=⟨60,aa,[(6,.own 6),(28,.e<|D i),(27,.e<|D x.length),(26,.e<|K x),(3,.box 3 0)],[(6,.row aa 33 i 7<|jf<|(be i).map λj=>uH (x.getD j L) d),(3,.cells 31<|lh d)]⟩
def VK(N:Nat)(i:Nat):PS:=⟨60,aa,[(6,.own 6),(28,.e<|D i),(27,.e<|D x.length),(26,.e<|K x),(3,.box 3 0)],[(6,.row aa 33 i 7<|jf<|(be i).map λj=>uH (x.getD j L) d),(3,.cells 31<|lh d)]⟩
def VL(N:Nat)(i:Nat):PS:=⟨60,aa,[(6,.own 6),(28,.e<|D i),(27,.e<|D x.length),(26,.e<|K x),(3,.box 3 0)],[(6,.row aa 33 i 7<|jf<|(be i).map λj=>uH (x.getD j L) d),(3,.cells 31<|lh d)]⟩
end
def ahQ(x:Iv)(h:x.iE)(a:x.all=ac):iB 139 [O x]<|I ac:=
 iL (af [S 4 a,.c<|rL x Z])
def Ey(b:List Iv)(k:1<=b.length)(y:b.length<=8)(h:ss b):iB 80 [K b]<|I aa:=
 iL (af [tT 5 (1<=(b.length:Int)) U,tT 9 ((b.length:Int)<=8) U,.c (Fw aa _ _ 139 [] (λ_=>ac) (λi x=>ahQ _ (h i x).1 (h i x).2) U λ_ _=>rfl:iB 28 [K b,.fn 139 []] _)])
section
variable(a b:List Iv)
def PB(h:1<=a.length)(x:a.length<=8)(l:b.length=a.length)(k:ss a)(y:ss b):iB 129 [K a,K b]<|I aa:=
 iL (af [.c<|Ey a U U Z,.c<|Ey b U U Z,ah 16 ((a.length:Int)==b.length)<|SU U])
section
variable(g:ax)(cap:List E)(f:Nat->Bool)(l:b.length=a.length)(t:a.length<=1000)(v:∀ i,i<a.length->iB g ((O<|a.getD i L)::(O<|b.getD i L)::cap) (I<|f i))
def VJ(j:∀ i,i<a.length->f i=aa):iB 57 [K a,K b,.fn g cap]<|I aa:=
 pL (af [ai 14 ((a.length:Int) != (b.length:Int))<|zw,.s (Sp.jL (VI a b g cap) 0 a.length U (λi h o=>by
    exact iU (af [tT 18 ((i:Int)<a.length) U,iX (i:Int)<|a.length,iX (i:Int)<|b.length,.c<|v i U,S 29<|j i U,
     iN ((i:Int)+1)]) aI)
  (λh=>by
    exact iU (af [tF 18 ((a.length:Int)<a.length) U]) aI) aM:jK 4 Tryz.f57 (VI a b g cap 0) (.exit 0) ⟨32,ac,[],[]⟩) .nil])
def agP(N:Nat)(o:N<a.length)(j:∀ i,i<N->f i=aa)(h:f N=ac):iB 57 [K a,K b,.fn g cap]<|I ac:=
 pL (af [ai 14 ((a.length:Int) != (b.length:Int))<|zw,.s (Sp.jL (VH a b g cap N) 0 N U (λi x R=>by
    exact iU (af [tT 18 ((i:Int)<a.length) U,iX (i:Int)<|a.length,iX (i:Int)<|b.length,.c<|v i U,S 29<|j i U,
     iN ((i:Int)+1)]) aI)
  (λx=>by
    exact iU (af [tT 18 ((N:Int)<a.length) U,iX (N:Int)<|a.length,iX (N:Int)<|b.length,.c<|v N U,S 29 h]) aI) aM:jK 4 Tryz.f57 (VH a b g cap N 0) .ret ⟨32,ac,[(6,.e<|I ac)],[]⟩) .nil])
def agQ:iB 57 [K a,K b,.fn g cap]<|I<|(be a.length).all f:=by
 by_cases h:∃ i,i<a.length/\(!(f i))=aa
 .have⟨N,k,y,u⟩:=si (p:=λi=>!(f i)) h;refine(agP a b g cap f l t v N k (λi x=>by simpa using u i x)<|by simpa using y).j9<|.jB ?_;rw[show(be a.length).all f=ac from aw1.2 ⟨N,ca.2 k,by simpa using y⟩]
 .have z:∀ i,i<a.length->f i=aa:=λi x=>by
   cases hf:f i
   .exact absurd ⟨i,x,by rw[hf];rfl⟩ h
   .rfl
  refine(VJ a b g cap f l t v z).j9<|.jB ?_;rw[show(be a.length).all f=aa from bZ.2 λi x=>z i<|ca.1 x]
end
def Wb(z:1<=a.length)(u:a.length<=8)(h:b.length=a.length)(x:ss a)(k:ss b):iB 187 [K a,K b]<|I<|xX a b:=
 iL (af [.c<|PB a b U U U Z Z,.c<|agQ a b 25 [] (λi=>Cu (a.getD i L)<|b.getD i L) h U λi y=>VN _ _ (x i y).1 (k i U).1])
end
def QJ{x:Iv}{d:Dy}(h:yZ x d=aa):oj (jl x.lo<|ji d)=0/\oj (jl x.hi d)=0:=by
 unfold yZ at h;rwa[bN,cK,cK]at h
section
variable(x:List Iv)(d:Dy)
section
variable(x1:1<=x.length)(h:x.length<=8)(v:ss x)(k:d.iE)(t:¬d.jh<0)
def ahK(k:∀ i,i<x.length->yZ (x.getD i L) d=aa):iB 186 [K x,iJ d]<|.iO [K<|(be x.length).map λj=>uH (x.getD j L) d,D 0]:=
 iL (af [.c<|Ey x U U Z,.c<|pZ d Z,.c<|oC d Z,S 24<|bw t,.y 6 6 aa 33 7<|jf<|(be 0).map λj=>uH (x.getD j L) d,.s (Sp.jL (VM x d) 0 x.length U (λi h o=>by
    have⟨w,z⟩:=(v i U).1.kN;have⟨g,y⟩:=QJ<|k i U;have p:=oh<|Iv.mk (nD<|jl (x.getD i L).lo<|ji d) (nD<|jl (x.getD i L).hi d) ac;exact iU (Y [tT 29 ((i:Int)<x.length) U,iX (i:Int)<|x.length,.c<|IK ((x.getD i L).lo) d Z Z,.c<|IG ((x.getD i L).hi) d Z Z,ai 47 ((oj<|jl ((x.getD i L).lo)<|ji d) != 0)<|by rw[g];rfl,ai 50 ((oj<|jl ((x.getD i L).hi) d) != 0)<|by rw[y];rfl,.o 56<|.e<|lM<|Iv.mk (nD<|jl ((x.getD i L).lo)<|ji d) (nD<|jl ((x.getD i L).hi) d) ac,.a (U:(i+[Iv.mk (nD<|jl ((x.getD i L).lo)<|ji d) (nD<|jl ((x.getD i L).hi) d) ac].length)*88<=140737488355328),iN<|(i:Int)+1]<|.e<|af [.b 6<|ub 33 i λj=>uH (x.getD j L) d]) aI)
  (λh=>by
    exact iU (Y [tF 29 ((x.length:Int)<x.length) U,.z 6]<|.e<|af [.o 6<|.e<|uO (n:=x.length) (M:=(be x.length).map λj=>uH (x.getD j L) d) aK]) aI) aM:jK 5 f186 (VM x d 0) (.exit 0) ⟨60,aa,[(6,.e<|K<|(be x.length).map λj=>uH (x.getD j L) d)],[]⟩) .nil])
section
variable(N:Nat)(o:N<x.length)(s:∀ i,i<N->yZ (x.getD i L) d=aa)
def ahH(h:oj (jl (x.getD N L).lo<|ji d)≠0):iB 186 [K x,iJ d]<|.iO [.v<|.slice am 0 0,D 9]:=
 iL (af [.c<|Ey x U U Z,.c<|pZ d Z,.c<|oC d Z,S 24<|bw t,.y 6 6 aa 33 7<|jf<|(be 0).map λj=>uH (x.getD j L) d,.s (Sp.jL (VK x d N) 0 N U (λi k o=>by
    have⟨w,y⟩:=(v i U).1.kN;have⟨g,z⟩:=QJ<|s i U;have p:=oh<|Iv.mk (nD<|jl (x.getD i L).lo<|ji d) (nD<|jl (x.getD i L).hi d) ac;exact iU (Y [tT 29 ((i:Int)<x.length) U,iX (i:Int)<|x.length,.c<|IK ((x.getD i L).lo) d Z Z,.c<|IG ((x.getD i L).hi) d Z Z,ai 47 ((oj<|jl ((x.getD i L).lo)<|ji d) != 0)<|by rw[g];rfl,ai 50 ((oj<|jl ((x.getD i L).hi) d) != 0)<|by rw[z];rfl,.o 56<|.e<|lM<|Iv.mk (nD<|jl ((x.getD i L).lo)<|ji d) (nD<|jl ((x.getD i L).hi) d) ac,.a (U:(i+[Iv.mk (nD<|jl ((x.getD i L).lo)<|ji d) (nD<|jl ((x.getD i L).hi) d) ac].length)*88<=140737488355328),iN<|(i:Int)+1]<|.e<|af [.b 6<|ub 33 i λj=>uH (x.getD j L) d]) aI)
  (λk=>by
    have⟨w,y⟩:=(v N U).1.kN;exact iU (af [tT 29 ((N:Int)<x.length) U,iX (N:Int)<|x.length,.c<|IK ((x.getD N L).lo) d Z Z,.c<|IG ((x.getD N L).hi) d Z Z,ah 47 ((oj<|jl ((x.getD N L).lo)<|ji d) != 0)<|by simpa using h]) aI) aM:jK 5 f186 (VK x d N 0) .ret ⟨60,aa,[(5,.e<|D 9),(4,.e<|.v<|.slice am 0 0)],[]⟩) .nil])
def ahI(h:oj (jl (x.getD N L).lo<|ji d)=0)(k:oj (jl (x.getD N L).hi d)≠0):iB 186 [K x,iJ d]<|.iO [.v<|.slice am 0 0,D 9]:=
 iL (af [.c<|Ey x U U Z,.c<|pZ d Z,.c<|oC d Z,S 24<|bw t,.y 6 6 aa 33 7<|jf<|(be 0).map λj=>uH (x.getD j L) d,.s (Sp.jL (VL x d N) 0 N U (λi y o=>by
    have⟨w,z⟩:=(v i U).1.kN;have⟨g,u⟩:=QJ<|s i U;have p:=oh<|Iv.mk (nD<|jl (x.getD i L).lo<|ji d) (nD<|jl (x.getD i L).hi d) ac;exact iU (Y [tT 29 ((i:Int)<x.length) U,iX (i:Int)<|x.length,.c<|IK ((x.getD i L).lo) d Z Z,.c<|IG ((x.getD i L).hi) d Z Z,ai 47 ((oj<|jl ((x.getD i L).lo)<|ji d) != 0)<|by rw[g];rfl,ai 50 ((oj<|jl ((x.getD i L).hi) d) != 0)<|by rw[u];rfl,.o 56<|.e<|lM<|Iv.mk (nD<|jl ((x.getD i L).lo)<|ji d) (nD<|jl ((x.getD i L).hi) d) ac,.a (U:(i+[Iv.mk (nD<|jl ((x.getD i L).lo)<|ji d) (nD<|jl ((x.getD i L).hi) d) ac].length)*88<=140737488355328),iN<|(i:Int)+1]<|.e<|af [.b 6<|ub 33 i λj=>uH (x.getD j L) d]) aI)
  (λy=>by
    have⟨w,z⟩:=(v N U).1.kN;exact iU (af [tT 29 ((N:Int)<x.length) U,iX (N:Int)<|x.length,.c<|IK ((x.getD N L).lo) d Z Z,.c<|IG ((x.getD N L).hi) d Z Z,ai 47 ((oj<|jl ((x.getD N L).lo)<|ji d) != 0)<|by rw[h];rfl,ah 50 ((oj<|jl ((x.getD N L).hi) d) != 0)<|by simpa using k]) aI) aM:jK 5 f186 (VL x d N 0) .ret ⟨60,aa,[(5,.e<|D 9),(4,.e<|.v<|.slice am 0 0)],[]⟩) .nil])
end
end
def Jo:Int:=if xF x d then 0 else 9
def ahJ(x1:1<=x.length)(y:x.length<=8)(z:ss x)(u:d.iE)(v:¬d.jh<0):iB 186 [K x,iJ d]<|.iO [K<|tG x d,D<|Jo x d]:=by
 unfold tG Jo;cases hg:xF x d with
 |true=>
  rw[bt rfl,bt rfl];exact ahK x d x1 y z u v λi h=>bZ.1 hg i<|ca.2 h
 |false=>
  rw[bn aG,bn aG];have⟨i,h,b⟩:=aw1.1 hg;have⟨N,t,k,s⟩:=si (p:=λi=>!(yZ (x.getD i L) d)) ⟨i,ca.1 h,by simpa using b⟩;have j:∀ i,i<N->yZ (x.getD i L) d=aa:=λi h=>by simpa using s i h
  have k:yZ (x.getD N L) d=ac:=by simpa using k
  have e:iB 186 [K x,iJ d]<|.iO [.v<|.slice am 0 0,D 9]:=by
   by_cases M:oj (jl (x.getD N L).lo<|ji d)=0
   .exact ahI x d x1 y z u v N t j M λq=>by
     unfold yZ at k;rw[M,q]at k;exact absurd k aG 
   .exact ahH x d x1 y z u v N t j M
  exact e.j9<|.iO<|.cons (.nil _ _ _)<|.cons (.refl _) .nil
end
end Go.Proofs.YthalchiobglflaaGreatDoor
namespace Go.Proofs.YthalchiobglflaaGreatDoor.Pu
open Go.RowKit
def adB{bs:Nat->Nat->Prop}{br:Nat->Prop}{w:ap}{xs:List av}{a:av}(h:z bs br w (.agg<|xs.map E.v) a):a = .agg xs.toArray:=by
 generalize y:E.agg (xs.map E.v)=e at h;cases h with
 |agg l s u k=>
  cases y;rw[cI]at u;have:s=xs:=awD λi=>by
   cases hx:xs[i]? with
   |none=>rw[List.getElem?_eq_none_iff]at hx ⊢;omega
   |some x=>
    obtain⟨v,r⟩:∃ v,s[i]? = al v:=by
     have t:i<xs.length:=(cF.1 hx).1;exact⟨s[i]'(U),bH U⟩
    rw[r,z.lr<|k i (.v x) v (by rw[cQ,hx];rfl) r]
  rw[this]
 |_=>cases y
def Tg{P:Program}{t:ay}{m D k:Nat}(n:m<=10000)(y:P.keyTypeAt m t=aa)(g:P.eqGuardType P.depth t=ac){xs ys:List av}{la l:List Lit}(z:P.keyLits D t xs=al la)(u:P.keyLits k t ys=al l)(f:(Value.agg xs.toArray).formed P t=aa)(v:(Value.agg ys.toArray).formed P t=aa){c:Bool}(s:c=aa↔la=l):
 qU P .eql t (.agg<|xs.map E.v) (.agg<|ys.map E.v) (.bool c):=by
 intro d i w a b o j q p;obtain rfl:=adB q;obtain rfl:=adB p;constructor
 .simp only[eqGuard,fu,bS,bE,Sem.run_bind,run_program,Result.andThen_ok,g,fc,bK,Sem.run_pure]
 .have⟨r,x,h⟩:=run_equalIn_deep (10000-m) m t y w _ _ _ _ la l f v (by simpa[aL]using z) (by simpa[aL]using u);rw[(U:10000-m+m=10000)]at x;have e:r=c:=by rw[dW,h,s]
  subst e;have:(Op.equal t (.agg xs.toArray)<|.agg ys.toArray).run P w = .ok r w:=x;simp only[binOp,Sem.run_bind,this,Result.andThen_ok,Sem.run_pure]
end Go.Proofs.YthalchiobglflaaGreatDoor.Pu
namespace Go.Proofs.YthalchiobglflaaGreatDoor
open Go.RowKit Fp Pu
def acm{t:ay}{m:Nat}(x:m<=10000)(k:prog.keyTypeAt m t=aa)(g:prog.eqGuardType prog.depth t=ac){xs:List av}(y:(prog.keyLits 10 t xs).isSome=aa)(f:(Value.agg xs.toArray).formed prog t=aa):qU prog .eql t (.agg<|xs.map E.v) (.agg<|xs.map E.v)<|.bool aa:=by
 have⟨l,h⟩:=ie.1 y;exact Tg x k g h h f f aK 
def NT{a b c d e f:Int}(h:a=0/\b=0/\c=0/\d=0/\e=0/\f=0):
 qU prog .eql 87 (.agg [D a,D b,D c,D d,D e,D f]) (.agg [D 0,D 0,D 0,D 0,D 0,D 0]) (.bool aa):=by
 obtain⟨rfl,rfl,rfl,rfl,rfl,rfl⟩:=h;exact acm (m:=10) (xs:=[.int .i64 0,.int .i64 0,.int .i64 0,.int .i64 0,.int .i64 0,.int .i64 0]) aG aI aI aI aI 
def Tf{a b:Int}(h:a=0/\b=0):qU prog .eql 85 (.agg [D a,D b]) (.agg [D 0,D 0])<|.bool aa:=by
 obtain⟨rfl,rfl⟩:=h;exact acm (m:=10) (xs:=[.int .i64 0,.int .i64 0]) aG aI aI aI aI 
def DP{d:Nat}{n:Int}(h:lN .i64 n):prog.keyLits (d+1) 3 [.int .i64 n]=al [.int .i64 n]:=by
 have w:(Lit.int .i64 n).wf=aa:=by
  unfold lN at h;simp[Lit.wf,IntKind.min,IntKind.max,IntKind.signed,IntKind.bits];omega
 unfold Program.keyLits;rw[underlying3];simp[w]
def ada{a b:Int}(h:lN .i64 a)(x:lN .i64 b):prog.keyLits 10 85 [.int .i64 a,.int .i64 b]=al [.int .i64 a,.int .i64 b]:=by
 have c:prog.cellsOf 85=2:= aI ;have k:prog.cellsOf 3=1:= aI ;unfold Program.keyLits;rw[underlying85];simp[c,k,gE,DP h,DP x]
def ack{a b:Int}{r:Bool}(x:lN .i64 a)(k:lN .i64 b)(h:decide (a=0/\b=0)=r):qU prog .eql 85 (.agg [D a,D b]) (.agg [D 0,D 0])<|.bool r:=
 Tg (m:=10) (xs:=[.int .i64 a,.int .i64 b]) (ys:=[.int .i64 0,.int .i64 0]) aG aI aI (ada x k) (ada bc bc) aI aI (by subst h;simp)
def apn{a b c d e f x b' c' k y z:Int}{r:Bool}(u:prog.keyLits 10 87 [.int .i64 a,.int .i64 b,.int .i64 c,.int .i64 d,.int .i64 e,.int .i64 f]=al [.int .i64 a,.int .i64 b,.int .i64 c,.int .i64 d,.int .i64 e,.int .i64 f])(v:prog.keyLits 10 87 [.int .i64 x,.int .i64 b',.int .i64 c',.int .i64 k,.int .i64 y,.int .i64 z]=al [.int .i64 x,.int .i64 b',.int .i64 c',.int .i64 k,.int .i64 y,.int .i64 z])(t:(Value.agg<|List.toArray [.int .i64 a,.int .i64 b,.int .i64 c,.int .i64 d,.int .i64 e,.int .i64 f]).formed prog 87=aa)(s:(Value.agg<|List.toArray [.int .i64 x,.int .i64 b',.int .i64 c',.int .i64 k,.int .i64 y,.int .i64 z]).formed prog 87=aa)(h:decide (a=x/\b=b'/\c=c'/\d=k/\e=y/\f=z)=r):
 qU prog .eql 87 (.agg [D a,D b,D c,D d,D e,D f]) (.agg [D x,D b',D c',D k,D y,D z]) (.bool r):=
 Tg (m:=10) (xs:=[.int .i64 a,.int .i64 b,.int .i64 c,.int .i64 d,.int .i64 e,.int .i64 f]) (ys:=[.int .i64 x,.int .i64 b',.int .i64 c',.int .i64 k,.int .i64 y,.int .i64 z]) aG aI aI u v t s (by subst h;simp)
def asA{P:Program}(w:ap)(t x ty e:ay)(i:TypeInfo)(z:av)(y:P.underlying t=al (.slice e))(u:P.underlying x=al (.int .i64))(v:P.info? e=al i)(s:i.zero=al z)(C:i.size≠0)(n:Nat)(r:0<n)(B:n<=1000000)(Y:n*i.bytes<=281474976710656):
 (Builtin.append_ #[t,x] ty #[.slice am 0 0,.int .i64 (n:Int)]).run P w =
  .ok (.slice (al ⟨w.heap.size,0,am⟩) n<|grownCap w n 0 e) (w.drew.alloc<|.cells (Builtin.zeroCells z.cells n++Builtin.zeroCells z.cells (grownCap w n 0 e-n)) e):=by
 have k:n≠0:= U ;have Z:n*i.size≠0:=eo k C;have a:¬(9223372036854775807<(n:Int)):= U ;have l:¬(281474976710656<Builtin.nextslicecap n 0*i.bytes):=by rw[nextslicecap_zero r];omega
 have q:IntKind.i64.wrap (n:Int)=n:=i64_in _;have J:¬((n:Int)<0):= U ;have h:¬(281474976710656<(n:Int)*(i.bytes:Int)):=by
  have:(n:Int)*(i.bytes:Int)=((n*i.bytes:Nat):Int):= aK ;rw[this];omega
 simp[Builtin.append_,run_underlying y,run_underlying u,sizeOf,typeInfo,zeroValue,v,s,asInt,asIntOf,q,J,h,k,Z,a,l,Question.forced,run_firstCells_none,newRow,grownCap]
def afL{P:Program}{w:ap}{u:Array Oper}{rest:List Oper}{o:Oper}{a:Act}{Q:Exit->Act->ap->Prop}(E:o.guard=am)(s x:Operand)(t k:ay)(v:o.op = .call { callee:=.builtin .append,args:=#[s,x],argTypes:=#[t,k] })(e:ay)(i:TypeInfo)(z:av)(r:P.underlying t=al (.slice e))(q:P.underlying k=al (.int .i64))(p:P.info? e=al i)(m:i.zero=al z)(C:i.size≠0)(n:Nat)(l:0<n)(B:n<=1000000)(Y:n*i.bytes<=281474976710656)(g:a.eval s = .slice am 0 0)(y:a.eval x = .int .i64 (n:Int))(h:wpList P u Q rest (a.put o.dst<|.slice (al ⟨w.heap.size,0,am⟩) n<|grownCap w n 0 e)<|w.drew.alloc<|.cells (Builtin.zeroCells z.cells n++Builtin.zeroCells z.cells (grownCap w n 0 e-n)) e):wpList P u Q (o::rest) a w:=by
 refine wpList_plain E λK f=>?_
 have H:=asA (P:=P) w t k o.type e i z r q p m C n l B Y;unfold Oper.wp;simp[execOp,v,resolve,invoke,builtin,g,y,H,Result.andThen];exact f _ _ h
def Vf(w:ap)(o:Obj):Below w.heap.size w (w.alloc o).drew:=⟨rfl,rfl,rfl,by rw[show(w.alloc o).drew.heap=w.heap.push o from rfl,Array.size_push];omega,λx h=>Below.heap_alloc w _ x h⟩
def Vg(w:ap)(o:Obj):w.heap.size<(w.alloc o).drew.heap.size:=by rw[show(w.alloc o).drew.heap=w.heap.push o from rfl,Array.size_push];omega
def am5:(prog.info? 33).map (λi=>(i.zero,i.size,i.bytes))=al (al<|.agg #[.bool ac,.slice am 0 0,.int .i64 0,.bool ac,.slice am 0 0,.int .i64 0,.bool ac],7,88):= aI 
def afT(n:Nat):∀ u,u ∈ Builtin.zeroCells (aL<|.agg #[.bool ac,.slice am 0 0,.int .i64 0,.bool ac,.slice am 0 0,.int .i64 0,.bool ac]) n->qI u=ac:=by
 intro u h;simp only[Builtin.zeroCells,gp,gq]at h;obtain⟨q,x,rfl⟩:=h;have c:aL (.agg #[.bool ac,.slice am 0 0,.int .i64 0,.bool ac,.slice am 0 0,.int .i64 0,.bool ac]) = #[.bool ac,.slice am 0 0,.int .i64 0,.bool ac,.slice am 0 0,.int .i64 0,.bool ac]:=rfl;rw[c]at x ⊢;have s:(#[Value.bool ac,.slice am 0 0,.int .i64 0,.bool ac,.slice am 0 0,.int .i64 0,.bool ac]:Array av).size=7:=rfl;rw[s];have y:q%7<7:=bO _ aG;generalize q%7=k at y;rcases k with _|_|_|_|_|_|_|k
 all_goals first|rfl|omega
set_option maxRecDepth 100000 in
def alY(n:Nat)(l:n<=1000000):wJ prog Tb 314 [.v<|.slice am 0 0,D (n:Int)] aa 33 0 7<|jf []:=by
 refine⟨call314,λw B s K q r=>?_⟩;obtain⟨g,s,rfl,v,r⟩:=r.nm;obtain⟨f,s,rfl,y,r⟩:=r.nm;obtain rfl:=r.sj;obtain rfl:=z.lr v;obtain rfl:=z.lr y;show Calls _ _ #[.slice am 0 0,.int .i64 (n:Int)] w _;clear v y r q K;by_cases p:n=0
 .subst p;go_enter func314,ntmps314;go_wp2;go_ret;exact⟨_,rfl,Below.refl _ _,λ_ _=>undef,.inl ⟨rfl,rfl⟩,λx b=>by simp[Value.ownBlock]at b,λi j h=>absurd h<|bD _⟩
 .obtain ⟨i,h,m,v,y⟩:=info_parts am5;have e:IntKind.i64.wrap ((n:Int)-0)=n:=i64_in _;have L:IntKind.i64.wrap (n:Int)=n:=i64_in _;have d:decide ((n:Int)<0)=ac:=bw U;have c:decide ((0:Int)<n)=aa:=bu U;have E:n<=grownCap w n 0 33:=grownCap_ge w n 0 _;go_enter func314,ntmps314;go_wp2_with (at_builtin;go_must (refine afL aJ _ _ _ _ aJ _ i _ underlying26 underlying3 h m U n U U (by rw[y];omega) aJ aJ ?_))
  go_ret;have t:(#[Value.bool ac,.slice am 0 0,.int .i64 0,.bool ac,.slice am 0 0,.int .i64 0,.bool ac]:Array av).size=7:=rfl;refine⟨_,rfl,Vf w _,λ_ _=>undef,.inr ⟨w.heap.size,0,grownCap w n 0 33,_,rfl,heap_alloc_new w _,cj _,grownCap_le_maxLen w n 0 _<|by unfold maxLen;omega,?_,λi j h=>absurd h<|bD _,λ_ u k=>?_⟩,λx b=>?_,λi j h=>absurd h<|bD _⟩
  .simp only[atF,size_zeroCells,t,<-bT,ct];exact bX 7 U 
  .rcases fA.1 k with k|k
   .exact afT _ u k
   .exact afT _ u k
  .simp [Value.ownBlock]at b;subst b;exact⟨bA _,Vg w _⟩
abbrev wK(f:ax)(a:List E)(nl:Bool)(T:ay)(n sz:Nat)(el:Nat->Nat->E):Prop:=wJ prog Tb f a nl T n sz el
def UE{f:ax}{fn:Func}{a:List E}{nl:Bool}{T0:ay}{n sz:Nat}{el:Nat->Nat->E}(A:∀ (vs:Array av) (w:ap),(callFunc f vs).run prog w = .ok (.enter f vs) w)(x:prog.funcs[f]? = al fn)(t:Tr prog Tb)(h:TN TT fn a (.row nl T0 n sz el) t=t.ex λ_=>.a (Bx.le (.row nl T0 n sz el)<|.row nl T0 n sz el) .nil):wK f a nl T0 n sz el:=
 wJ.UD IA mixed Pj A x t h
def afg(t:qo)(x:Nat):PS:=⟨46,aa,[(28,.e<|D x),(27,.e<|D t.iz.length),(26,.e<|mf t.iz),(1,.box 1 0)],[(1,.cells 25 [D t.iK,mf t.iz,mh t.iR])]⟩
def afb(s:jS)(x:Nat):PS:=⟨85,aa,[(31,.e<|D x),(30,.e<|D s.tape.iz.length),(29,.e<|mf s.tape.iz),(3,.box 3 0),(1,.box 1 0)],[(3,.cells 25 [D s.tape.iK,mf s.tape.iz,mh s.tape.iR]),(1,.cells 28 [D s.tape.iK,mf s.tape.iz,mh s.tape.iR,D s.iZ,K s.params])]⟩
noncomputable def aff(t:qo)(xs:List Iv)(p:Nat)(x:Nat):PS:=⟨75,aa,[(26,.e<|D x),(25,.e<|D t.iz.length),(24,.e<|mf t.iz),(7,.own 22),(2,.e<|D p)],[(22,.row aa 33 ((kS t.iz xs p x).length) 7<|jf<|kS t.iz xs p x)]⟩
def acu(k:Nat)(u:3<=k)(v:k<=6):iB 165 [D k]<|D 2:=
 iL (Y [tN 5 (k:Int) 1]<|.w ((k:Int)=3)
  (λh=>af [S 7<|bg h])
  (λh=>Y [S 7<|bd h]<|.w ((k:Int)=4)
   (λx=>af [S 8<|bg x])
   (λx=>Y [S 8<|bd x]<|.w ((k:Int)=5)
    (λy=>af [S 9<|bg y])
    (λy=>Y [S 9<|bd y]<|.w ((k:Int)=6)
     (λz=>af [S 10<|bg z])
     (λz=>.x U)))))
def Tk(k:Nat)(s:7<=k)(r:k<=13):iB 165 [D k]<|D 1:=
 iL (Y [tN 5 (k:Int) 1,tN 7 (k:Int) 3,tN 8 (k:Int) 4,tN 9 (k:Int) 5,tN 10 (k:Int) 6]<|.w ((k:Int)=7)
  (λh=>af [S 12<|bg h])
  (λh=>Y [S 12<|bd h]<|.w ((k:Int)=8)
   (λx=>af [S 13<|bg x])
   (λx=>Y [S 13<|bd x]<|.w ((k:Int)=9)
    (λy=>af [S 14<|bg y])
    (λy=>Y [S 14<|bd y]<|.w ((k:Int)=10)
     (λz=>af [S 15<|bg z])
     (λz=>Y [S 15<|bd z]<|.w ((k:Int)=11)
      (λu=>af [S 16<|bg u])
      (λu=>Y [S 16<|bd u]<|.w ((k:Int)=12)
       (λv=>af [S 17<|bg v])
       (λv=>Y [S 17<|bd v]<|.w ((k:Int)=13)
        (λt=>af [S 18<|bg t])
        (λt=>.x U))))))))
def acs(k:Nat)(h:k=1):iB 165 [D k]<|D 0:=
 iL (af [tE 5 (k:Int) 1])
def apo{a b:Int}(h:nJ a b=aa):qU prog .eql 85 (.agg [D a,D b]) (.agg [D 0,D 0])<|.bool ac:=by
 have⟨x,k,y,z⟩:=KH h;exact ack bc bc<|bw U
section
variable{o:nC}{m:Nat}(h:pC o m)
def pC.zV(l:o.kind≠1)(k:o.kind<=6):3<=o.kind/\o.a<m/\o.b<m/\o.n=0/\o.cn=0/\o.cd=0:=by
 have x:=h.k3.resolve_left l;have a:=h.a;have b:=h.b;have n:=h.n;have c:=h.c;rw[bn l]at a c;rw[bt ⟨x,k⟩]at b;rw[bn U]at n;exact⟨x,a,b,n,c.1,c.2⟩
def pC.pow(k:o.kind=8):o.a<m/\o.b=0/\o.n<=16/\o.cn=0/\o.cd=0:=by
 have a:=h.a;have b:=h.b;have n:=h.n;have c:=h.c;rw[bn U]at a b c;rw[bt k]at n;exact⟨a,b,n,c.1,c.2⟩
def pC.un(k:¬o.kind<=6)(w:o.kind≠8):o.kind<=13/\o.a<m/\o.b=0/\o.n=0/\o.cn=0/\o.cd=0:=by
 have a:=h.a;have b:=h.b;have n:=h.n;have c:=h.c;rw[bn U]at a b c;rw[bn w]at n;exact⟨h.Ar,a,b,n,c.1,c.2⟩
def pC.num(k:o.kind=1):o.a=0/\o.b=0/\o.n=0/\nJ o.cn o.cd=aa:=by
 have a:=h.a;have b:=h.b;have n:=h.n;have c:=h.c;rw[bt k]at a c;rw[bn U]at b n;exact⟨a,b,n,c⟩
def pC.yI(k:o.kind≠1):o.a<m:=by
 have a:=h.a;rwa[bn k]at a
end
section
variable(o:nC)(m:Nat)(h:pC o m)
def aqh(k:o.kind=1):iB 99 [Az o,D m]<|I aa:=by
 have⟨x,y,z,u⟩:=h.num k;exact iL<|af [.c<|acs o.kind U,tF 14 ((0:Int)<0) U,tE 17 0 0,.c<|N8 o.cn o.cd,S 20 u,tN 26 (o.kind:Int) 8,tF 37 ((0:Int)<0) U,tF 49 ((1:Int)<0) U,.g (NT ⟨U,U,U,U,U,U⟩:qU prog .eql 87 (.agg [D 0,D o.a,D o.b,D o.n,D 0,D 0]) (.agg [D 0,D 0,D 0,D 0,D 0,D 0])<|.bool aa)]
def aqg(l:o.kind≠1)(k:o.kind<=6):iB 99 [Az o,D m]<|I aa:=by
 have⟨x,y,z,u,v,t⟩:=h.zV l k;exact iL<|af [.c<|acu o.kind U U,tF 14 ((2:Int)<0) U,tN 17 2 0,tN 26 (o.kind:Int) 8,tT 37 ((0:Int)<2) U,tF 40 ((o.a:Int)<0) U,tF 45 ((m:Int)<=o.a) U,tT 49 ((1:Int)<2) U,tF 52 ((o.b:Int)<0) U,tF 57 ((m:Int)<=o.b) U,.g (NT ⟨U,U,U,U,U,U⟩:qU prog .eql 87 (.agg [D 0,D 0,D 0,D o.n,D o.cn,D o.cd]) (.agg [D 0,D 0,D 0,D 0,D 0,D 0])<|.bool aa)]
def aqj(k:o.kind=8):iB 99 [Az o,D m]<|I aa:=by
 have⟨x,y,z,u,v⟩:=h.pow k;exact iL<|af [.c<|Tk o.kind U U,tF 14 ((1:Int)<0) U,tN 17 1 0,tE 26 (o.kind:Int) 8,tF 29 ((o.n:Int)<0) U,tF 33 (16<(o.n:Int)) U,tT 37 ((0:Int)<1) U,tF 40 ((o.a:Int)<0) U,tF 45 ((m:Int)<=o.a) U,tF 49 ((1:Int)<1) U,.g (NT ⟨U,U,U,U,U,U⟩:qU prog .eql 87 (.agg [D 0,D 0,D o.b,D 0,D o.cn,D o.cd]) (.agg [D 0,D 0,D 0,D 0,D 0,D 0])<|.bool aa)]
def aqk(k:¬o.kind<=6)(w:o.kind≠8):iB 99 [Az o,D m]<|I aa:=by
 have⟨x,y,z,u,v,t⟩:=h.un k w;exact iL<|af [.c<|Tk o.kind U U,tF 14 ((1:Int)<0) U,tN 17 1 0,tN 26 (o.kind:Int) 8,tT 37 ((0:Int)<1) U,tF 40 ((o.a:Int)<0) U,tF 45 ((m:Int)<=o.a) U,tF 49 ((1:Int)<1) U,.g (NT ⟨U,U,U,U,U,U⟩:qU prog .eql 87 (.agg [D 0,D 0,D o.b,D o.n,D o.cn,D o.cd]) (.agg [D 0,D 0,D 0,D 0,D 0,D 0])<|.bool aa)]
def auf(k:o.kind=1):iB 136 [Az o,D m]<|I aa:=by
 have⟨x,y,z,u⟩:=h.num k;exact iL<|af [tF 8 ((o.a:Int)<0) U,tF 12 ((o.b:Int)<0) U,.g (apo u:qU prog .eql 85 (.agg [D o.cn,D o.cd]) (.agg [D 0,D 0])<|.bool ac),tE 21 (o.kind:Int) 1,.c<|N8 o.cn o.cd,S 24 u,tE 28 (o.a:Int) 0,tE 33 (o.b:Int) 0,tE 38 (o.n:Int) 0]
def aue(l:o.kind≠1)(u:o.kind<=6):iB 136 [Az o,D m]<|I aa:=by
 have⟨v,t,s,r,q,p⟩:=h.zV l u;exact iL (Y [tF 8 ((o.a:Int)<0) U,tF 12 ((o.b:Int)<0) U,.g (Tf ⟨U,U⟩:qU prog .eql 85 (.agg [D o.cn,D o.cd]) (.agg [D 0,D 0])<|.bool aa),tN 21 (o.kind:Int) 1]<|.w ((o.kind:Int)=3)
  (λk=>af [S 41<|bg k,tT 50 ((o.a:Int)<m) U,tT 56 ((o.b:Int)<m) U,tE 61 (o.n:Int) 0])
  (λk=>Y [S 41<|bd k]<|.w ((o.kind:Int)=4)
   (λx=>af [S 42<|bg x,tT 50 ((o.a:Int)<m) U,tT 56 ((o.b:Int)<m) U,tE 61 (o.n:Int) 0])
   (λx=>Y [S 42<|bd x]<|.w ((o.kind:Int)=5)
    (λy=>af [S 43<|bg y,tT 50 ((o.a:Int)<m) U,tT 56 ((o.b:Int)<m) U,tE 61 (o.n:Int) 0])
    (λy=>Y [S 43<|bd y]<|.w ((o.kind:Int)=6)
     (λz=>af [S 44<|bg z,tT 50 ((o.a:Int)<m) U,tT 56 ((o.b:Int)<m) U,tE 61 (o.n:Int) 0])
     (λz=>.x U)))))
def auh(k:o.kind=8):iB 136 [Az o,D m]<|I aa:=by
 have⟨x,y,z,u,v⟩:=h.pow k;exact iL<|af [tF 8 ((o.a:Int)<0) U,tF 12 ((o.b:Int)<0) U,.g (Tf ⟨U,U⟩:qU prog .eql 85 (.agg [D o.cn,D o.cd]) (.agg [D 0,D 0])<|.bool aa),tN 21 (o.kind:Int) 1,tN 41 (o.kind:Int) 3,tN 42 (o.kind:Int) 4,tN 43 (o.kind:Int) 5,tN 44 (o.kind:Int) 6,tE 64 (o.kind:Int) 8,tT 70 ((o.a:Int)<m) U,tE 75 (o.b:Int) 0,tT 80 (0<=(o.n:Int)) U,tT 85 ((o.n:Int)<=16) U]
def aui(t:¬o.kind<=6)(w:o.kind≠8):iB 136 [Az o,D m]<|I aa:=by
 have⟨s,r,q,p,n,l⟩:=h.un t w;exact iL (Y [tF 8 ((o.a:Int)<0) U,tF 12 ((o.b:Int)<0) U,.g (Tf ⟨U,U⟩:qU prog .eql 85 (.agg [D o.cn,D o.cd]) (.agg [D 0,D 0])<|.bool aa),tN 21 (o.kind:Int) 1,tN 41 (o.kind:Int) 3,tN 42 (o.kind:Int) 4,tN 43 (o.kind:Int) 5,tN 44 (o.kind:Int) 6,tN 64 (o.kind:Int) 8]<|.w ((o.kind:Int)=7)
  (λk=>af [S 88<|bg k,tT 99 ((o.a:Int)<m) U,tE 104 (o.b:Int) 0,tE 109 (o.n:Int) 0])
  (λk=>Y [S 88<|bd k]<|.w ((o.kind:Int)=9)
   (λx=>af [S 89<|bg x,tT 99 ((o.a:Int)<m) U,tE 104 (o.b:Int) 0,tE 109 (o.n:Int) 0])
   (λx=>Y [S 89<|bd x]<|.w ((o.kind:Int)=10)
    (λy=>af [S 90<|bg y,tT 99 ((o.a:Int)<m) U,tE 104 (o.b:Int) 0,tE 109 (o.n:Int) 0])
    (λy=>Y [S 90<|bd y]<|.w ((o.kind:Int)=11)
     (λz=>af [S 91<|bg z,tT 99 ((o.a:Int)<m) U,tE 104 (o.b:Int) 0,tE 109 (o.n:Int) 0])
     (λz=>Y [S 91<|bd z]<|.w ((o.kind:Int)=12)
      (λu=>af [S 92<|bg u,tT 99 ((o.a:Int)<m) U,tE 104 (o.b:Int) 0,tE 109 (o.n:Int) 0])
      (λu=>Y [S 92<|bd u]<|.w ((o.kind:Int)=13)
       (λv=>af [S 93<|bg v,tT 99 ((o.a:Int)<m) U,tE 104 (o.b:Int) 0,tE 109 (o.n:Int) 0])
       (λv=>.x U)))))))
def aqi:iB 99 [Az o,D (m:Int)]<|I aa:=by
 by_cases l:o.kind=1
 .exact aqh o m h l
 by_cases k:o.kind<=6
 .exact aqg o m h l k
 .by_cases w:o.kind=8
  .exact aqj o m h w
  .exact aqk o m h k w
def aug:iB 136 [Az o,D (m:Int)]<|I aa:=by
 by_cases l:o.kind=1
 .exact auf o m h l
 by_cases k:o.kind<=6
 .exact aue o m h l k
 .by_cases w:o.kind=8
  .exact auh o m h w
  .exact aui o m h k w
end
def auD(t:qo)(k:Nat)(h:k<t.iK+t.iz.length)(x:t.iK<=8)(a:t.iz.length<=200):iB 101 [D k,(.jE 3 λj=>[D t.iK,mf t.iz,mh t.iR].getD j .any)]<|I ac:=
 iL (af [tF 5 ((k:Int)<0) U,iN<|(t.iK:Int)+t.iz.length,tF 14 (((t.iK+t.iz.length:Nat):Int)<=k) U])
def UC(t:qo)(h:zT t):iB 59 [El t]<|I aa:=by
 have k:=h.iK;have u:=h.iz;have r:=h.iR;exact iL (af [tF 7 ((t.iK:Int)<0) U,tF 11 (8<(t.iK:Int)) U,tF 17 (200<(t.iz.length:Int)) U,tF 23 (200<(t.iR.length:Int)) U,.s (Sp.jL (afg t) 0 t.iz.length U (λx y Y=>by
    have W:=h.op x U;exact iU (af [tT 29 ((x:Int)<t.iz.length) U,iX (x:Int)<|t.iz.length,iN<|(t.iK:Int)+x,.c<|aqi (t.iz.getD x o) (t.iK+x) W,
     iN ((x:Int)+1)]) aI)
  (λy=>by
    exact iU (af [tF 29 ((t.iz.length:Int)<t.iz.length) U]) aI) aM:jK 4 Tryz.f59 (afg t 0) (.exit 0) ⟨46,aa,[(1,.box 1 0)],[(1,.cells 25 [D t.iK,mf t.iz,mh t.iR])]⟩) .nil,.c (Sd aa _ _ 101 [(.jE 3 λj=>[D t.iK,mf t.iz,mh t.iR].getD j .any)] (λ_=>ac) (λi z=>auD t _ (h.out i z) k u) U λ_ _=>rfl:iB 100 [mh t.iR,.fn 101 [(.jE 3 λj=>[D t.iK,mf t.iz,mh t.iR].getD j .any)]] _)])
def auk(t:qo)(k:Nat)(h:k<t.iK+t.iz.length)(x:t.iK<=8)(a:t.iz.length<=200):iB 137 [D k,(.jE 3 λj=>[D t.iK,mf t.iz,mh t.iR].getD j .any)]<|I ac:=
 iL (af [tF 5 ((k:Int)<0) U,iN<|(t.iK:Int)+t.iz.length,tF 14 (((t.iK+t.iz.length:Nat):Int)<=k) U])
def aum(x:Iv)(h:x.iE)(a:x.all=ac):iB 138 [O x]<|I ac:=by
 have⟨w,k,y⟩:=rk h a;exact iL<|af [S 4 a,.c<|pZ x.lo Z,.c<|pZ x.hi Z,.c<|pE x.lo x.hi Z Z,tF 23 (0<(jQ x.lo x.hi)) U]
def Il(s:jS)(h:mE s):iB 78 [kH s]<|I aa:=by
 have y:=h.tape.iK;have t:=h.tape.iz;have r:=h.tape.iR;have u:=h.s1;have v:=h.s4;have q:=h.iR;have k:=h.iK;have p:=h.p4;exact iL (af [tF 10 ((s.tape.iK:Int)<0) U,tF 14 (8<(s.tape.iK:Int)) U,tF 20 (200<(s.tape.iz.length:Int)) U,tF 26 (200<(s.tape.iR.length:Int)) U,.s (Sp.jL (afb s) 0 s.tape.iz.length U (λx z Y=>by
    have W:=h.tape.op x U;exact iU (af [tT 32 ((x:Int)<s.tape.iz.length) U,iX (x:Int)<|s.tape.iz.length,iN<|(s.tape.iK:Int)+x,.c<|aug (s.tape.iz.getD x o) (s.tape.iK+x) W,iN<|(x:Int)+1]) aI)
  (λz=>by
    exact iU (af [tF 32 ((s.tape.iz.length:Int)<s.tape.iz.length) U]) aI) aM:jK 5 Tryz.f78 (afb s 0) (.exit 0) ⟨85,aa,[(3,.box 3 0),(1,.box 1 0)],[(3,.cells 25 [D s.tape.iK,mf s.tape.iz,mh s.tape.iR]),(1,.cells 28 [D s.tape.iK,mf s.tape.iz,mh s.tape.iR,D s.iZ,K s.params])]⟩) .nil,.c (Sd aa _ _ 137 [(.jE 3 λj=>[D s.tape.iK,mf s.tape.iz,mh s.tape.iR].getD j .any)] (λ_=>ac) (λi k=>auk s.tape _ (h.tape.out i k) y t) U λ_ _=>rfl:iB 100 [mh s.tape.iR,.fn 137 [(.jE 3 λj=>[D s.tape.iK,mf s.tape.iz,mh s.tape.iR].getD j .any)]] _),tF 50 ((s.iZ:Int)<1) U,tF 54 (4<(s.iZ:Int)) U,ai 62 ((s.tape.iR.length:Int) != (s.iZ:Int))<|zw,
  iN ((s.iZ:Int)+s.params.length),ai 73 ((s.tape.iK:Int) != ((s.iZ+s.params.length:Nat):Int))<|zw,tF 79 (4<(s.params.length:Int)) U,.c (Fw aa _ _ 138 [] (λ_=>ac) (λi k=>aum _ (h.params i k).1 (h.params i k).2) U λ_ _=>rfl:iB 28 [K s.params,.fn 138 []] _)])
def Vm(o:nC)(x y:Iv)(p:Nat)(g:x.iE)(f:y.iE)(e:3<=o.kind)(d:o.kind<=13)(c:o.n<=16)(i:8<=p)(C:p<=512)(h:o.kind<=8\/xw):iB 334 [D o.kind,D o.n,O x,O y,D p]<|O<|oJ o x y p:=
 iL (.w ((o.kind:Int)=3)
  (λu=>Y [S 13<|bg u,.c<|yb x y p Z Z]<|V (O<|jN x y p) (O<|oJ o x y p)<|by unfold oJ;simp[(U:o.kind=3)])
  (λu=>Y [S 13<|bd u]<|.w ((o.kind:Int)=4)
   (λv=>Y [S 19<|bg v,.c<|Nq x y p Z Z]<|V (O<|qy x y p) (O<|oJ o x y p)<|by unfold oJ;simp[(U:¬o.kind=3),(U:o.kind=4)])
   (λv=>Y [S 19<|bd v]<|.w ((o.kind:Int)=5)
    (λt=>Y [S 25<|bg t,.c<|uo x y p Z Z]<|V (O<|B x y p) (O<|oJ o x y p)<|by unfold oJ;simp[(U:¬o.kind=3),(U:¬o.kind=4),(U:o.kind=5)])
    (λt=>Y [S 25<|bd t]<|.w ((o.kind:Int)=6)
     (λs=>Y [S 31<|bg s,.c<|Cv x y p Z Z]<|V (O<|jC x y p) (O<|oJ o x y p)<|by unfold oJ;simp[(U:¬o.kind=3),(U:¬o.kind=4),(U:¬o.kind=5),(U:o.kind=6)])
     (λs=>Y [S 31<|bd s]<|.w ((o.kind:Int)=7)
      (λr=>Y [S 37<|bg r,.c<|No x Z]<|V (O<|oF x) (O<|oJ o x y p)<|by unfold oJ;simp[(U:¬o.kind=3),(U:¬o.kind=4),(U:¬o.kind=5),(U:¬o.kind=6),(U:o.kind=7)])
      (λr=>Y [S 37<|bd r]<|.w ((o.kind:Int)=8)
       (λq=>Y [S 41<|bg q,.c<|Gj x o.n p Z]<|V (O<|jO x o.n p) (O<|oJ o x y p)<|by unfold oJ;simp[(U:¬o.kind=3),(U:¬o.kind=4),(U:¬o.kind=5),(U:¬o.kind=6),(U:¬o.kind=7),(U:o.kind=8)])
       (λq=>Y [S 41<|bd q]<|.w ((o.kind:Int)=9)
        (λn=>Y [S 47<|bg n,.c<|X2 x Z p U U<|h.resolve_left U]<|V (O<|yU x p) (O<|oJ o x y p)<|by unfold oJ;simp[(U:¬o.kind=3),(U:¬o.kind=4),(U:¬o.kind=5),(U:¬o.kind=6),(U:¬o.kind=7),(U:¬o.kind=8),(U:o.kind=9)])
        (λn=>Y [S 47<|bd n]<|.w ((o.kind:Int)=10)
         (λm=>Y [S 52<|bg m,.c<|X3 x Z p U U<|h.resolve_left U]<|V (O<|yV x p) (O<|oJ o x y p)<|by unfold oJ;simp[(U:¬o.kind=3),(U:¬o.kind=4),(U:¬o.kind=5),(U:¬o.kind=6),(U:¬o.kind=7),(U:¬o.kind=8),(U:¬o.kind=9),(U:o.kind=10)])
         (λm=>Y [S 52<|bd m]<|.w ((o.kind:Int)=11)
          (λl=>Y [S 57<|bg l,.c<|X4 x Z p U U<|h.resolve_left U]<|V (O<|yW x p) (O<|oJ o x y p)<|by unfold oJ;simp[(U:¬o.kind=3),(U:¬o.kind=4),(U:¬o.kind=5),(U:¬o.kind=6),(U:¬o.kind=7),(U:¬o.kind=8),(U:¬o.kind=9),(U:¬o.kind=10),(U:o.kind=11)])
          (λl=>Y [S 57<|bd l]<|.w ((o.kind:Int)=12)
           (λk=>Y [S 62<|bg k,.c<|X0 x Z p U U<|h.resolve_left U]<|V (O<|yT x p) (O<|oJ o x y p)<|by unfold oJ;simp[(U:¬o.kind=3),(U:¬o.kind=4),(U:¬o.kind=5),(U:¬o.kind=6),(U:¬o.kind=7),(U:¬o.kind=8),(U:¬o.kind=9),(U:¬o.kind=10),(U:¬o.kind=11),(U:o.kind=12)])
           (λk=>Y [S 62<|bd k]<|.w ((o.kind:Int)=13)
            (λz=>Y [S 67<|bg z,.c<|X6 x Z p U U<|h.resolve_left U]<|V (O<|rV x p) (O<|oJ o x y p)<|by unfold oJ;simp[(U:¬o.kind=3),(U:¬o.kind=4),(U:¬o.kind=5),(U:¬o.kind=6),(U:¬o.kind=7),(U:¬o.kind=8),(U:¬o.kind=9),(U:¬o.kind=10),(U:¬o.kind=11),(U:¬o.kind=12),(U:o.kind=13)])
            (λz=>.x U))))))))))))
def ahR{nl:Bool}{T n x sz:Nat}{f g h:Nat->Nat->E}(z:n=x)(k:∀ i j,i<n->j<sz->g i j=h i j/\(h i j).nr 2=aa):Bx.le (.row nl T (0+n) sz λi j=>if i<0 then f i j else g (i-0) j)<|.row nl T x sz h:=
 .row U λi j u y=>by
  have m:i<n:= U ;simp only[bD,bE,dI];exact⟨.jB (k i j m y).1,(k i j m y).2⟩
def IH(r:List Iv)(y:0<r.length:=by omega)(l:r.length<=1000:=by omega):wK 127 [K r] aa 33 r.length 7<|jf r:=
 UE call127 func127 (Y [.a (U:0<r.length),.bo,.a (U:(0+r.length)*88<=140737488355328)]<|.rb (ahR rfl λi j z k=>⟨rfl,tK _ _ k⟩:Bx.le (.row aa 33 (0+r.length) 7 λh x=>if h<0 then(λh x=>([]:List E).getD (h*7+x)<|.v<|.bool ac) h x else(E.lO<|K r) (h-0) x)<|.row aa 33 r.length 7<|jf r)) aI 
def UM{T n h x:Nat}{t:qo}{xs:List Iv}{p:Nat}{y:Iv}(k:n=(kS t.iz xs p x).length)(w:h=(kS t.iz xs p<|x+1).length)(z:AU (t.iz.getD x o) (kS t.iz xs p x) p=y):
 Bx.le (.row aa T (n+[y].length) 7 λi j=>if i<n then jf (kS t.iz xs p x) i j else(E.lO<|K [y]) (i-n) j) (.row aa T h 7<|jf<|kS t.iz xs p<|x+1):=by
 subst w z;exact JY k
def zD{o:nC}{m:Nat}(h:pC o m):o.n<=16:=by
 have:=h.n;split at this<;>omega
def auB(t:qo)(xs:List Iv)(p:Nat)(h:zT t)(g:1<=xs.length)(k:xs.length=t.iK)(v:ns xs)(f:8<=p)(C:p<=512):iB 312 [El t,K xs,D p]<|K<|kS t.iz xs p t.iz.length:=by
 have e:=h.iK;have V:=h.iz;exact iL (af [.c<|UC t Z,S 19<|zw k,.cn (IH _:wK 127 [K xs] aa 33 xs.length 7<|jf xs),.s (Sp.jL (aff t xs p) 0 t.iz.length U (λx k Q=>by
    have W:=h.op x U;have B:=OZ t.iz v (U:1<=p) (U:p<=4096) x;have G:=UL t.iz xs p x;have d:=B (t.iz.getD x o).a;by_cases l:((t.iz.getD x o)).kind=1
    .have m:((t.iz.getD x o)).kind=1:=l;have⟨u,P,s,c⟩:=W.num m;have I:AU (t.iz.getD x o) (kS t.iz xs p x) p=(qj (t.iz.getD x o).cn (t.iz.getD x o).cd p):=by unfold AU;rw[bt m]
     have y:=oh<|qj (t.iz.getD x o).cn (t.iz.getD x o).cd p;exact iU (Y [tT 27 ((x:Int)<t.iz.length) U,iX (x:Int)<|t.iz.length,.c<|acs ((t.iz.getD x o).kind:Nat) U,tE 50 0 0,.c<|ac9 ((t.iz.getD x o).cn) ((t.iz.getD x o).cd) p Z U U,.o 71<|.e<|lM<|qj ((t.iz.getD x o).cn) ((t.iz.getD x o).cd) p,.a (U:((kS t.iz xs p x).length+[qj ((t.iz.getD x o).cn) ((t.iz.getD x o).cd) p].length)*88<=140737488355328),iN<|(x:Int)+1]<|.e<|af [.b 22 (UM rfl rfl I:Bx.le (.row aa 33 ((kS t.iz xs p x).length+[qj ((t.iz.getD x o).cn) ((t.iz.getD x o).cd) p].length) 7 λi j=>if i<(kS t.iz xs p x).length then(jf<|kS t.iz xs p x) i j else(E.lO<|K [qj ((t.iz.getD x o).cn) ((t.iz.getD x o).cd) p]) (i-(kS t.iz xs p x).length) j)<|.row aa 33 ((kS t.iz xs p<|x+1).length) 7<|jf<|kS t.iz xs p<|x+1)]) aI 
    .by_cases z:((t.iz.getD x o)).kind<=6
     .have q:((t.iz.getD x o)).kind≠1:=l;have m:((t.iz.getD x o)).kind<=6:=z;have I:AU (t.iz.getD x o) (kS t.iz xs p x) p=(oJ (t.iz.getD x o) ((kS t.iz xs p x).getD ((t.iz.getD x o).a) L) ((kS t.iz xs p x).getD ((t.iz.getD x o).b) L) p):=by unfold AU wO;rw[bn q,bu m];rfl
      have⟨u,P,s,b,a,X⟩:=W.zV q m;have w:=B (t.iz.getD x o).b;have r:=W.Ar;have y:=oh<|oJ (t.iz.getD x o) ((kS t.iz xs p x).getD ((t.iz.getD x o).a) L) ((kS t.iz xs p x).getD ((t.iz.getD x o).b) L) p;exact iU (Y [tT 27 ((x:Int)<t.iz.length) U,iX (x:Int)<|t.iz.length,.c<|acu ((t.iz.getD x o).kind:Nat) U U,tN 50 2 0,tN 56 2 1,
       iX ((t.iz.getD x o).a:Int) ((kS t.iz xs p x).length),.a (U:(t.iz.getD x o).a<(kS t.iz xs p x).length),iX ((t.iz.getD x o).b:Int)<|(kS t.iz xs p x).length,.a (U:(t.iz.getD x o).b<(kS t.iz xs p x).length),ag [D ((t.iz.getD x o).kind:Int),D ((t.iz.getD x o).n:Int),O<|(kS t.iz xs p x).getD (t.iz.getD x o).a L,O<|(kS t.iz xs p x).getD (t.iz.getD x o).b L,D p]<|Vm (t.iz.getD x o) _ _ _ Z Z U U U U U W.f,.o 71<|.e<|lM<|oJ (t.iz.getD x o) ((kS t.iz xs p x).getD (t.iz.getD x o).a L) ((kS t.iz xs p x).getD (t.iz.getD x o).b L) p,.a (U:((kS t.iz xs p x).length+[oJ (t.iz.getD x o) ((kS t.iz xs p x).getD (t.iz.getD x o).a L) ((kS t.iz xs p x).getD (t.iz.getD x o).b L) p].length)*88<=140737488355328),
       iN ((x:Int)+1)]<|.e<|af [.b 22 (UM rfl rfl I:Bx.le (.row aa 33 ((kS t.iz xs p x).length+[oJ (t.iz.getD x o) ((kS t.iz xs p x).getD (t.iz.getD x o).a L) ((kS t.iz xs p x).getD (t.iz.getD x o).b L) p].length) 7 λi j=>if i<(kS t.iz xs p x).length then(jf<|kS t.iz xs p x) i j else(E.lO<|K [oJ (t.iz.getD x o) ((kS t.iz xs p x).getD (t.iz.getD x o).a L) ((kS t.iz xs p x).getD (t.iz.getD x o).b L) p]) (i-(kS t.iz xs p x).length) j)<|.row aa 33 ((kS t.iz xs p<|x+1).length) 7<|jf<|kS t.iz xs p<|x+1)]) aI 
     .have q:((t.iz.getD x o)).kind≠1:=l;have m:¬((t.iz.getD x o)).kind<=6:=z;have I:AU (t.iz.getD x o) (kS t.iz xs p x) p=(oJ (t.iz.getD x o) ((kS t.iz xs p x).getD ((t.iz.getD x o).a) L) L p):=by unfold AU wO;rw[bn q,bw m];rfl
      have w:=np;have P:=W.yI q;have r:=W.Ar;have T:=zD W;have y:=oh<|oJ (t.iz.getD x o) ((kS t.iz xs p x).getD ((t.iz.getD x o).a) L) L p;exact iU (Y [tT 27 ((x:Int)<t.iz.length) U,iX (x:Int)<|t.iz.length,.c<|Tk ((t.iz.getD x o).kind:Nat) U U,tN 50 1 0,tE 56 1 1,
       iX ((t.iz.getD x o).a:Int) ((kS t.iz xs p x).length),.a (U:(t.iz.getD x o).a<(kS t.iz xs p x).length),.o 66<|.e Le,ag [D ((t.iz.getD x o).kind:Int),D ((t.iz.getD x o).n:Int),O<|(kS t.iz xs p x).getD (t.iz.getD x o).a L,O L,D p]<|Vm (t.iz.getD x o) _ _ _ Z Z U U U U U W.f,.o 71<|.e<|lM<|oJ (t.iz.getD x o) ((kS t.iz xs p x).getD (t.iz.getD x o).a L) L p,.a (U:((kS t.iz xs p x).length+[oJ (t.iz.getD x o) ((kS t.iz xs p x).getD (t.iz.getD x o).a L) L p].length)*88<=140737488355328),iN<|(x:Int)+1]<|.e<|af [.b 22 (UM rfl rfl I:Bx.le (.row aa 33 ((kS t.iz xs p x).length+[oJ (t.iz.getD x o) ((kS t.iz xs p x).getD (t.iz.getD x o).a L) L p].length) 7 λi j=>if i<(kS t.iz xs p x).length then(jf<|kS t.iz xs p x) i j else(E.lO<|K [oJ (t.iz.getD x o) ((kS t.iz xs p x).getD (t.iz.getD x o).a L) L p]) (i-(kS t.iz xs p x).length) j)<|.row aa 33 ((kS t.iz xs p<|x+1).length) 7<|jf<|kS t.iz xs p<|x+1)]) aI)
  (λk=>by
    exact iU (Y [tF 27 ((t.iz.length:Int)<t.iz.length) U,.z 22]<|.e<|af [.o 7<|.e<|uO (n:=(kS t.iz xs p t.iz.length).length) (M:=kS t.iz xs p t.iz.length) aK]) aI) aM:jK 5 f312 (aff t xs p 0) (.exit 0) ⟨75,aa,[(7,.e<|K<|kS t.iz xs p t.iz.length)],[]⟩)<|af [.b 22<|.refl<|.row aa 33 ((kS t.iz xs p 0).length) 7<|jf<|kS t.iz xs p 0]])
def pY(m:List<|List Iv):Nat->List Iv
 | 0=>[]
 |k+1=>pY m k++m.getD k []
def PR(m:List<|List Iv)(k:Nat):(pY m<|k+1).length=(pY m k).length+(m.getD k []).length:=by simp[pY]
def anz{T n x:Nat}{xs r:List Iv}(k:n=xs.length)(w:x=(xs++r).length):Bx.le (.row aa T (n+r.length) 7 λi j=>if i<n then jf xs i j else(E.lO<|K r) (i-n) j)<|.row aa T x 7<|jf<|xs++r:=by
 subst k w;refine .row aK λi j z y=>⟨.jB ?_,tK _ _ y⟩
 by_cases h:i<xs.length
 .rw [bt h];show(jv<|xs.getD i L).getD j .any=(jv<|(xs++r).getD i L).getD j .any;congr 2;simp[bB,eF h]
 .rw [bn h];show(jv<|r.getD (i-xs.length) L).getD j .any=(jv<|(xs++r).getD i L).getD j .any;congr 2;simp[bB,gn (U:xs.length<=i)]
def CB(a b:List Iv):E.le (.sl aa 2 1 λi j=>[K a,K b].getD (i*1+j)<|.v<|.bool ac)<|kX [a,b]:=.sl λi j h x=>by
 obtain rfl:j=0:= U ;obtain rfl|rfl:i=0\/i=1:= U 
 all_goals exact⟨.refl _,rfl⟩
def asq{n:Nat}:E.le (.sl aa n 1 λk _=>.sl aa ((λ_=>0) k) 7<|(λ_ _ _=>.any) k)<|kX<|aA n []:=by
 have h:kX (aA n []) = .sl aa n 1 λi _=>K ((aA n []).getD i []):=by unfold kX;rw[List.length_replicate]
 rw[h];refine .sl λi j x z=>⟨?_,rfl⟩
 have e:(aA n ([]:List Iv)).getD i []=[]:=by simp[bB,x]
 rw[e];exact .sl λq _ y _=>absurd y<|bD _
section
variable(m:List<|List Iv)(x:Nat)
def Wq:PS:=⟨36,aa,[(11,.e<|D x),(10,.e<|D m.length),(9,.e<|kX m),(3,.e<|D ((pY m x).length:Int)),(0,.e<|kX m)],[]⟩
def Wr:PS:=⟨36,aa,[(27,.e<|D x),(26,.e<|D m.length),(25,.e<|kX m),(6,.own 24)],[(24,.row aa 33 ((pY m x).length) 7<|jf<|pY m x)]⟩
end
section
variable(t:qo)(xs:List Iv)(p:Nat)(x:Nat)
noncomputable def Yu:PS:=⟨91,aa,[(43,.e<|D x),(42,.e<|D 0),(11,.own 41),(10,.e<|K<|kS t.iz xs p t.iz.length),(4,.box 4 0),(3,.e<|D p)],[(41,.kn aa 26 33 t.iR.length 7 (λ_=>0) (λ_ _ _=>.any) .none),(4,.cells 25 [D t.iK,mf t.iz,mh t.iR])]⟩
noncomputable def Yt:PS:=⟨91,aa,[(16,.own 16),(77,.e<|D x),(76,.e<|D t.iR.length),(75,.e<|mh t.iR),(11,.own 41),(10,.e<|K<|kS t.iz xs p t.iz.length)],[(16,.row aa 33 x 7<|jf<|(be x).map λj=>(kS t.iz xs p t.iz.length).getD (t.iR.getD j 0) L),(41,.kn aa 26 33 t.iR.length 7 (λ_=>0) (λ_ _ _=>.any) .none)]⟩
end
def ajb(m:List<|List Iv)(z:m.length<=1000)(h:∀ k,k<=m.length->(pY m k).length<=1000):iB 295 [kX m]<|K<|pY m m.length:=by
 have p:=h m.length<|bA _;exact iL (af [.s (Sp.jL (Wq m) 0 m.length U (λx y u=>by
    have l:=h (x+1) U;rw[PR]at l;exact iU (Y [tT 12 ((x:Int)<m.length) U,iX (x:Int)<|m.length,iN<|((pY m x).length:Int)+((m.getD x []).length:Int),tF 20 ((((pY m x).length+(m.getD x []).length:Nat):Int)<0) U,iN<|(x:Int)+1]<|.e<|af [.o 3<|oI (((pY m x).length+(m.getD x []).length:Nat):Int) ((pY m<|x+1).length:Int)<|by rw[PR]]) aI)
  (λy=>by
    exact iU (af [tF 12 ((m.length:Int)<m.length) U]) aI) aM:jK 3 f295 (Wq m 0) (.exit 0) ⟨36,aa,[(3,.e<|D ((pY m m.length).length:Int)),(0,.e<|kX m)],[]⟩)<|af [.o 3<|oI 0 ((pY m 0).length:Int)],.cn (alY _ U:wK 314 [.v<|.slice am 0 0,D ((pY m m.length).length:Int)] aa 33 0 7<|jf []),.s (Sp.jL (Wr m) 0 m.length U (λx y u=>by
    have l:=h (x+1) U;rw[PR]at l;exact iU (Y [tT 28 ((x:Int)<m.length) U,iX (x:Int)<|m.length,.a (U:((pY m x).length+(m.getD x []).length)*88<=140737488355328),iN<|(x:Int)+1]<|.e<|af [.b 24 (anz rfl rfl:Bx.le (.row aa 33 ((pY m x).length+(m.getD x []).length) 7 λi j=>if i<(pY m x).length then(jf<|pY m x) i j else(E.lO<|K<|m.getD x []) (i-(pY m x).length) j)<|.row aa 33 ((pY m<|x+1).length) 7<|jf<|pY m<|x+1)]) aI)
  (λy=>by
    exact iU (Y [tF 28 ((m.length:Int)<m.length) U,.z 24]<|.e<|af [.o 6<|.e<|uO (n:=(pY m m.length).length) (M:=pY m m.length) aK]) aI) aM:jK 11 f295 (Wr m 0) (.exit 2) ⟨36,aa,[(6,.e<|K<|pY m m.length)],[]⟩)<|af [.b 24<|.refl<|.row aa 33 ((pY m 0).length) 7<|jf<|pY m 0]])
def WO(a b:List Iv)(y:a.length<=400)(z:b.length<=400):iB 295 [kX [a,b]]<|K<|a++b:=by
 have x:pY [a,b] 1=a:=rfl;have e:pY [a,b] 2=a++b:=rfl;have:=ajb [a,b] aK λk h=>by
  have h:k<=2:=h;rcases k with _|_|_|k
  .exact cj _
  .rw [x];omega
  .rw [e,cD];omega
  .omega
 rwa[show[a,b].length=2 from rfl,e]at this
def QC(p:Int):iB 293 [D p]<|I<|mi p:=
 iL (.w (8<=p)
  (λk=>Y [S 4<|bu k]<|V (I<|decide (p<=512)) (I<|mi p)<|by unfold mi;simp[k])
  (λk=>Y [S 4<|bw k]<|V (I ac) (I<|mi p)<|by unfold mi;simp[k]))
def ak5(x:Iv)(h:x.iE):iB 333 [O x]<|I ac:=
 iL (af [.c<|rL x Z])
section
variable(t:qo)(xs:List Iv)(p:Nat)
def ak6(h:zT t)(k:1<=xs.length)(x:xs.length=t.iK)(v:ns xs)(u:8<=p)(C:p<=512):iB 311 [El t,K xs,D p]<|I aa:=by
 have y:=h.iK;exact iL<|af [.c<|UC t Z,S 14<|SU x,.c<|QC (p:Int),ah 18 (mi (p:Int))<|sr.2 ⟨U,U⟩,.c (Fw aa _ _ 333 [] (λ_=>ac) (λi z=>ak5 _<|v i) U λ_ _=>rfl:iB 28 [K xs,.fn 333 []] _)]
def akS:(be t.iR.length).map (λj=>(kS t.iz xs p t.iz.length).getD (t.iR.getD j 0) L)=mB t xs p:=by
 unfold mB;apply awD;intro i;rw[cQ,cQ];by_cases h:i<t.iR.length
 .rw [bH<|by simpa using h,bH h];simp[bB,h]
 .rw [cM<|by simpa using h,cM U];rfl
def Yv(h:zT t)(y:1<=xs.length)(k:xs.length=t.iK)(v:ns xs)(i:8<=p)(C:p<=512):iB 294 [El t,K xs,D 0,D p]<|.iO [K<|mB t xs p,kX<|aA t.iR.length []]:=by
 have u:=h.iK;have q:=h.iz;have r:=h.iR;exact iL (Y [.c<|ak6 t xs p h y k v U U,tF 26 ((0:Int)<0) U,tF 32 ((t.iK:Int)<0) U,.c<|auB t xs p h y k v U U,.a (U:0<=((t.iR.length:Int):Int)/\((t.iR.length:Int):Int)<=((t.iR.length:Int):Int)),.a (U:((24:Nat):Int)*(t.iR.length:Int)<=281474976710656/\((t.iR.length:Int):Int)<=9223372036854775807),.s (Sp.jL (Yu t xs p) 0 0 U (λx k m=>by
    exact absurd m<|bD _)
  (λk=>by
    exact iU (af [tF 44 ((0:Int)<0) U]) aI) aM:jK 6 f294 (Yu t xs p 0) (.exit 0) ⟨91,aa,[(11,.own 41),(10,.e<|K<|kS t.iz xs p t.iz.length),(4,.box 4 0)],[(41,.kn aa 26 33 t.iR.length 7 (λ_=>0) (λ_ _ _=>.any) .none),(4,.cells 25 [D t.iK,mf t.iz,mh t.iR])]⟩) .nil,.y 16 16 aa 33 7<|jf<|(be 0).map λj=>(kS t.iz xs p t.iz.length).getD (t.iR.getD j 0) L,.s (Sp.jL (Yt t xs p) 0 t.iR.length U (λx k m=>by
    have o:=h.out x U;have G:=UL t.iz xs p t.iz.length;have s:=oh<|(kS t.iz xs p t.iz.length).getD (t.iR.getD x 0) L;exact iU (Y [tT 78 ((x:Int)<t.iR.length) U,iX (x:Int)<|t.iR.length,iX (t.iR.getD x 0:Int)<|(kS t.iz xs p t.iz.length).length,.o 86<|.e<|lM<|(kS t.iz xs p t.iz.length).getD (t.iR.getD x 0) L,.a (U:(x+[(kS t.iz xs p t.iz.length).getD (t.iR.getD x 0) L].length)*88<=140737488355328),
     iN ((x:Int)+1)]<|.e<|af [.b 16<|ub 33 x λj=>(kS t.iz xs p t.iz.length).getD (t.iR.getD j 0) L]) aI)
  (λk=>by
    exact iU (Y [tF 78 ((t.iR.length:Int)<t.iR.length) U,.z 16]<|.e<|af [.o 16<|.e<|uO (n:=t.iR.length) (M:=(be t.iR.length).map λj=>(kS t.iz xs p t.iz.length).getD (t.iR.getD j 0) L) aK]) aI) aM:jK 17 f294 (Yt t xs p 0) (.exit 4) ⟨91,aa,[(16,.e<|K<|(be t.iR.length).map λj=>(kS t.iz xs p t.iz.length).getD (t.iR.getD j 0) L),(11,.own 41)],[(41,.kn aa 26 33 t.iR.length 7 (λ_=>0) (λ_ _ _=>.any) .none)]⟩) .nil]<|rR (.iO [K<|mB t xs p,kX<|aA t.iR.length []]) (.iO<|.cons (.jB<|by rw[akS])<|.cons asq .nil:E.le (.iO [K<|(be t.iR.length).map λj=>(kS t.iz xs p t.iz.length).getD (t.iR.getD j 0) L,(.sl aa t.iR.length 1 λz _=>.sl aa ((λ_=>0) z) 7<|(λ_ _ _=>.any) z)])<|.iO [K<|mB t xs p,kX<|aA t.iR.length []]))
end
def ak0(x:Iv):iB 310 [O x]<|I x.all:=
 iL (.nil)
def Ji(l:List Iv)(h:l.length<=1000:=by omega):iB 291 [K l]<|I<|mU l:=
 iL (af [.c (Nr aa _ _ 310 [] (λi=>(l.getD i L).all) (λi x=>ak0 _) U:iB 28 [K l,.fn 310 []] _)])
def Yp(x:Iv)(h:x.iE):iB 292 [O x]<|I ac:=
 iL (af [.c<|rL x Z])
def arU(n:Nat)(x:n<=1000):iB 10 [kX<|aA n [],.fn 291 []]<|I ac:=by
 have e:∀ i,i<n->(aA n ([]:List Iv)).getD i []=[]:=λi h=>by simp[bB,h]
 refine KQ aa _ _ 291 [] (λ_=>ac) (λi h=>?_) (by simpa using by omega) λ_ _=>rfl;have m:i<n:=by simpa using h
 show iB 291 [K<|(aA n []).getD i []] _;rw[e i m];exact Ji [] aK 
def ab8{l:List Iv}(h:ss l):mU l=ac:=by
 unfold mU;rw[dt];intro i x;rw[(h i<|ca.1 x).2];decide
def LU{s:jS}{b:List Iv}(h:mE s)(x:kJ s.iZ b):zT s.tape/\1<=(b++s.params).length/\(b++s.params).length=s.tape.iK/\ns (b++s.params):=by
 have k:=h.s1;have y:=h.iK;have z:=x.len;refine⟨h.tape,?_,?_,x.ok.UK.append h.params.UK⟩
 .rw [cD];omega
 .rw [cD];omega
section
variable(s:jS)(b:List Iv)(p:Nat)(h:mE s)(v:kJ s.iZ b)(i:8<=p)(C:p<=512)
def ak1(n:mU (mB s.tape (b++s.params) p)=aa):iB 246 [kH s,K b,D 0,D p]<|.iO [.v<|.slice am 0 0,.v<|.slice am 0 0,D 11]:=by
 have k:=h.s4;have y:=h.p4;have z:=v.len;have r:=h.tape.iR;have E:=ab8 v.ok;have u:=Mt s.tape (b++s.params) p;have⟨f1,f2,f3,f4⟩:=LU h v;exact iL<|af [.c<|Il s Z,S 21<|zw v.len,.c<|Ji b,S 25 E,.c (Fw aa _ _ 292 [] (λ_=>ac) (λi x=>Yp _ (v.ok i x).1) U λ_ _=>rfl:iB 28 [K b,.fn 292 []] _),.c<|QC (p:Int),ah 32 (mi (p:Int))<|sr.2 ⟨U,U⟩,.o 40<|.e<|CB b s.params,.c<|WO b s.params U U,.c<|Yv s.tape (b++s.params) p f1 f2 f3 f4 U U,.c<|Ji<|mB s.tape (b++s.params) p,S 48 n]
def ak2(n:mU (mB s.tape (b++s.params) p)=ac):iB 246 [kH s,K b,D 0,D p]<|.iO [K<|mB s.tape (b++s.params) p,kX<|aA s.tape.iR.length [],D 0]:=by
 have k:=h.s4;have y:=h.p4;have z:=v.len;have r:=h.tape.iR;have E:=ab8 v.ok;have u:=Mt s.tape (b++s.params) p;have⟨f1,f2,f3,f4⟩:=LU h v;exact iL<|af [.c<|Il s Z,S 21<|zw v.len,.c<|Ji b,S 25 E,.c (Fw aa _ _ 292 [] (λ_=>ac) (λi x=>Yp _ (v.ok i x).1) U λ_ _=>rfl:iB 28 [K b,.fn 292 []] _),.c<|QC (p:Int),ah 32 (mi (p:Int))<|sr.2 ⟨U,U⟩,.o 40<|.e<|CB b s.params,.c<|WO b s.params U U,.c<|Yv s.tape (b++s.params) p f1 f2 f3 f4 U U,.c<|Ji<|mB s.tape (b++s.params) p,S 48 n,.c<|arU s.tape.iR.length U]
def ak4(n:mU (mB s.tape (b++s.params) p)=aa):iB 190 [kH s,K b,D p]<|.iO [.v<|.slice am 0 0,D 11]:=
 iL (af [.c<|ak1 s b p h v i C n])
def Yq(n:mU (mB s.tape (b++s.params) p)=ac):iB 190 [kH s,K b,D p]<|.iO [K<|mB s.tape (b++s.params) p,D 0]:=
 iL (af [.c<|ak2 s b p h v i C n])
end
section
variable(s:jS)(x:List Iv)(d:Dy)
noncomputable def aac(b:List Iv)(p:Nat)(N:Nat)(i:Nat):PS:=⟨66,aa,[(14,.own 14),(42,.e<|D i),(41,.e<|D x.length),(13,.box 13 0),(11,.e<|K<|mB s.tape (b++s.params) p),(1,.e<|K x),(4,.e<|D p)],[(14,.row aa 33 i 7<|jf<|(be i).map λj=>(jN (x.getD j L) (B (ql d) ((mB s.tape (b++s.params) p).getD j L) p) p)),(13,.cells 33<|ar++lh d++[I ac])]⟩
noncomputable def aad(b:List Iv)(p:Nat)(i:Nat):PS:=⟨66,aa,[(14,.own 14),(42,.e<|D i),(41,.e<|D x.length),(13,.box 13 0),(11,.e<|K<|mB s.tape (b++s.params) p),(1,.e<|K x),(4,.e<|D p)],[(14,.row aa 33 i 7<|jf<|(be i).map λj=>(jN (x.getD j L) (B (ql d) ((mB s.tape (b++s.params) p).getD j L) p) p)),(13,.cells 33<|ar++lh d++[I ac])]⟩
def XF(p:Nat)(N:Nat)(k:Nat):PS:=⟨55,aa,[(22,.e<|D k),(10,.qC 123 [.box 5,.box 4,.box 6,.box 7]),(7,.box 7 0),(6,.box 6 0),(5,.box 5 0),(4,.box 4 0)],[(7,.cells 3 [D p]),(6,.cells 31<|lh d),(5,.cells 26 [K x]),(4,.cells 28 [D s.tape.iK,mf s.tape.iz,mh s.tape.iR,D s.iZ,K s.params])]⟩
end
def ahn(x:Iv)(h:x.iE)(a:x.all=ac):iB 238 [O x]<|I ac:=
 iL (af [.c<|rL x Z,S 8 a])
def LM(s:jS)(b:List Iv)(h:kJ s.iZ b)(k:s.iZ<=4):iB 184 [kH s,K b]<|I aa:=by
 have E:=h.len;exact iL<|af [S 9<|SU h.len,.c (Fw aa _ _ 238 [] (λ_=>ac) (λi x=>ahn _ (h.ok i x).1 (h.ok i x).2) U λ_ _=>rfl:iB 28 [K b,.fn 238 []] _)]
def On(b:RI):E.le (.sl aa 1 7 λi j=>(AF b).getD (i*7+j)<|.v<|.bool ac)<|jJ [b]:=.sl λi j h x=>by
 obtain rfl:i=0:= U ;rcases j with _|_|_|_|_|_|_|j
 all_goals first|exact⟨.refl _,rfl⟩|omega
section
variable(s:jS)(x:List Iv)(d:Dy)
def Mu(p:Nat)(h:mE s)(k:kJ s.iZ x)(z:d.iE)(y:0<d.jh)(i:8<=p)(C:p<=512):iB 122 [kH s,K x,iJ d,D p]<|I aa:=by
 have u:=h.s4;exact iL<|af [.c<|Il s Z,.c<|LM s x k U,.c<|pZ d Z,.c<|oC d Z,S 23<|bu y,tT 27 (8<=(p:Int)) U,tT 31 ((p:Int)<=512) U]
def amV(b:List Iv)(p:Nat)(h:mE s)(y:kJ s.iZ x)(z:d.iE)(u:0<d.jh)(k:kJ s.iZ b)(i:8<=p)(C:p<=512)(n:mU (mB s.tape (b++s.params) p)=aa):iB 128 [kH s,K x,iJ d,K b,D p]<|.v<|.slice am 0 0:=by
 have v:=h.s4;exact iL<|af [.c<|Mu s x d p h y z u i C,.c<|LM s b k v,.c<|ak4 s b p h k i C n,ah 37 ((11:Int) != 0) aG]
end
def Uu(d:Dy):E.le (.agg<|ar++lh d++[I ac])<|O<|ql d:=
 .agg (.cons (.refl _)<|.cons D0<|.cons (.refl _)<|.cons (.refl _)<|.cons (.refl _)<|.cons (.refl _)<|.cons (.refl _) .nil)
section
variable(s:jS)(x:List Iv)(d:Dy)(b:List Iv)(p:Nat)(h:mE s)(l:kJ s.iZ x)(e:d.iE)(c:0<d.jh)(g:kJ s.iZ b)(a:8<=p)(X:p<=512)
section
variable(T:mU (mB s.tape (b++s.params) p)=ac)
def amW(N:Nat)(o:N<x.length)(k:∀ i,i<N->(jN (x.getD i L) (B (ql d) ((mB s.tape (b++s.params) p).getD i L) p) p).all=ac)(y:(jN (x.getD N L) (B (ql d) ((mB s.tape (b++s.params) p).getD N L) p) p).all=aa):iB 128 [kH s,K x,iJ d,K b,D p]<|.v<|.slice am 0 0:=by
 have z:=h.s4;have C:=l.len;have r:=h.iR;have n:=Mt s.tape (b++s.params) p;have⟨f1,f2,f3,f4⟩:=LU h g;have f:=Yb s.tape f4 (U:1<=p) (U:p<=4096);have q:0<d.q:=(uS d).1.1 c;have Q:=aeU e<|b9 q;exact iL (af [.c<|Mu s x d p h l e c a X,.c<|LM s b g z,.c<|Yq s b p h g a X T,tM 37 0 0,.y 14 14 aa 33 7<|jf<|(be 0).map λj=>(jN (x.getD j L) (B (ql d) ((mB s.tape (b++s.params) p).getD j L) p) p),.s (Sp.jL (aac s x d b p N) 0 N U (λi u R=>by
    have w:=(l.ok i U).1;have v:=f i;have t:=nZ (ql d) ((mB s.tape (b++s.params) p).getD i L) (U:1<=p) (U:p<=4096);have m:=oh<|jN (x.getD i L) (B (ql d) ((mB s.tape (b++s.params) p).getD i L) p) p;exact iU (Y [tT 43 ((i:Int)<x.length) U,iX (i:Int)<|x.length,.o 49<|.e<|Uu d,iX (i:Int)<|(mB s.tape (b++s.params) p).length,.c<|uo (ql d) ((mB s.tape (b++s.params) p).getD i L) p Z Z,.c<|yb (x.getD i L) (B (ql d) ((mB s.tape (b++s.params) p).getD i L) p) p Z Z,S 59<|k i U,.o 62<|.e<|lM<|jN (x.getD i L) (B (ql d) ((mB s.tape (b++s.params) p).getD i L) p) p,.a (U:(i+[jN (x.getD i L) (B (ql d) ((mB s.tape (b++s.params) p).getD i L) p) p].length)*88<=140737488355328),iN<|(i:Int)+1]<|.e<|af [.b 14<|ub 33 i λj=>(jN (x.getD j L) (B (ql d) ((mB s.tape (b++s.params) p).getD j L) p) p)]) aI)
  (λu=>by
    have w:=(l.ok N U).1;have v:=f N;have t:=nZ (ql d) ((mB s.tape (b++s.params) p).getD N L) (U:1<=p) (U:p<=4096);exact iU (af [tT 43 ((N:Int)<x.length) U,iX (N:Int)<|x.length,.o 49<|.e<|Uu d,iX (N:Int)<|(mB s.tape (b++s.params) p).length,.c<|uo (ql d) ((mB s.tape (b++s.params) p).getD N L) p Z Z,.c<|yb (x.getD N L) (B (ql d) ((mB s.tape (b++s.params) p).getD N L) p) p Z Z,S 59 y]) aI) aM:jK 9 f128 (aac s x d b p N 0) .ret ⟨66,aa,[(10,.e<|.v<|.slice am 0 0)],[]⟩) .nil])
def amX(k:∀ i,i<x.length->(jN (x.getD i L) (B (ql d) ((mB s.tape (b++s.params) p).getD i L) p) p).all=ac):iB 128 [kH s,K x,iJ d,K b,D p]<|K<|(be x.length).map λj=>(jN (x.getD j L) (B (ql d) ((mB s.tape (b++s.params) p).getD j L) p) p):=by
 have y:=h.s4;have C:=l.len;have r:=h.iR;have u:=Mt s.tape (b++s.params) p;have⟨f1,f2,f3,f4⟩:=LU h g;have f:=Yb s.tape f4 (U:1<=p) (U:p<=4096);have q:0<d.q:=(uS d).1.1 c;have Q:=aeU e<|b9 q;exact iL (af [.c<|Mu s x d p h l e c a X,.c<|LM s b g y,.c<|Yq s b p h g a X T,tM 37 0 0,.y 14 14 aa 33 7<|jf<|(be 0).map λj=>(jN (x.getD j L) (B (ql d) ((mB s.tape (b++s.params) p).getD j L) p) p),.s (Sp.jL (aad s x d b p) 0 x.length U (λi z o=>by
    have w:=(l.ok i U).1;have v:=f i;have t:=nZ (ql d) ((mB s.tape (b++s.params) p).getD i L) (U:1<=p) (U:p<=4096);have m:=oh<|jN (x.getD i L) (B (ql d) ((mB s.tape (b++s.params) p).getD i L) p) p;exact iU (Y [tT 43 ((i:Int)<x.length) U,iX (i:Int)<|x.length,.o 49<|.e<|Uu d,iX (i:Int)<|(mB s.tape (b++s.params) p).length,.c<|uo (ql d) ((mB s.tape (b++s.params) p).getD i L) p Z Z,.c<|yb (x.getD i L) (B (ql d) ((mB s.tape (b++s.params) p).getD i L) p) p Z Z,S 59<|k i U,.o 62<|.e<|lM<|jN (x.getD i L) (B (ql d) ((mB s.tape (b++s.params) p).getD i L) p) p,.a (U:(i+[jN (x.getD i L) (B (ql d) ((mB s.tape (b++s.params) p).getD i L) p) p].length)*88<=140737488355328),iN<|(i:Int)+1]<|.e<|af [.b 14<|ub 33 i λj=>(jN (x.getD j L) (B (ql d) ((mB s.tape (b++s.params) p).getD j L) p) p)]) aI)
  (λz=>by
    exact iU (Y [tF 43 ((x.length:Int)<x.length) U,.z 14]<|.e<|af [.o 14<|.e<|uO (n:=x.length) (M:=(be x.length).map λj=>(jN (x.getD j L) (B (ql d) ((mB s.tape (b++s.params) p).getD j L) p) p)) aK]) aI) aM:jK 9 f128 (aad s x d b p 0) (.exit 0) ⟨66,aa,[(14,.e<|K<|(be x.length).map λj=>(jN (x.getD j L) (B (ql d) ((mB s.tape (b++s.params) p).getD j L) p) p))],[]⟩) .nil])
end
def JT:iB 128 [kH s,K x,iJ d,K b,D p]<|K<|sd s x d b p:=by
 unfold sd;cases hn:mU (mB s.tape (b++s.params) p)with
 |true=>rw[bt rfl];exact(amV s x d b p h l e c g a X hn).j9<|.nil _ _ _
 |false=>
  rw[bn aG];cases ha:mU (Cs x (mB s.tape (b++s.params) p) d p)with
  |true=>
   rw[bt rfl];unfold mU at ha;rw[dh,Nl]at ha;have⟨i,k,n⟩:=ha;have⟨N,y,z,u⟩:=si (p:=λi=>((Cs x (mB s.tape (b++s.params) p) d p).getD i L).all) ⟨i,ca.1 k,n⟩;refine(amW s x d b p h l e c g a X hn N y (λi k=>?_) ?_).j9<|.nil _ _ _
   .have:=u i k;rw[Nk (U:i<x.length)]at this;exact this
   .rw [Nk y]at z;exact z
  |false=>
   rw[bn aG];refine amX s x d b p h l e c g a X hn λi k=>?_
   unfold mU at ha;rw[dt,Nl]at ha;have:=ha i<|ca.2 k;rw[Nk k]at this;exact bh this
def amE(i:(sd s x d b p)=[]):iB 125 [kH s,K x,iJ d,K b,D p]<|I ac:=
 iL (af [.c<|JT s x d b p h l e c g a X,ai 20 (decide (0<((sd s x d b p).length:Int)))<|by rw[i];rfl])
end
def IM{n:Nat}{b:List Iv}(h:kJ n b)(x:1<=n)(k:n<=4):1<=b.length/\b.length<=4/\ss b:=⟨by rw[h.len];exact x,by rw[h.len];exact k,h.ok⟩
section
variable(s:jS)(x:List Iv)(d:Dy)(b:List Iv)(p:Nat)(h:mE s)(g:kJ s.iZ x)(c:d.iE)(a:0<d.jh)(f:kJ s.iZ b)(j:8<=p)(w:p<=512)
def amF(i:(sd s x d b p)≠[]):iB 125 [kH s,K x,iJ d,K b,D p]<|I<|xX x b&&xX (sd s x d b p) b:=by
 have y:=h.s1;have z:=h.s4;have⟨u,v,o⟩:=IM g y z;have⟨t,r,q⟩:=IM f y z;have C:=g.len;have E:=f.len;have e:=aae g (U:1<=p) (U:p<=4096) i;have⟨n,m,l⟩:=IM e y z;have R:=e.len;exact iL (Y [.c<|JT s x d b p h g c a f j w,tT 20 (0<((sd s x d b p).length:Int)) U,.c<|Wb x b U U U Z Z]<|.w (xX x b=aa)
  (λk=>Y [S 24 k,.c<|Wb (sd s x d b p) b U U U Z Z]<|V (I<|xX (sd s x d b p) b) (I<|xX x b&&xX (sd s x d b p) b)<|by simp[k])
  (λk=>Y [S 24<|bh k]<|V (I ac) (I<|xX x b&&xX (sd s x d b p) b)<|by simp[k]))
def RK:iB 125 [kH s,K x,iJ d,K b,D p]<|I<|Fa s x d b p:=by
 unfold Fa;by_cases i:(sd s x d b p)=[]
 .have:=amE s x d b p h g c a f j w i;rwa[i,show(!([]:List Iv).isEmpty&&(xX x b&&xX [] b))=ac from rfl]
 .have:=amF s x d b p h g c a f j w i;have e:((sd s x d b p)).isEmpty=ac:=by
   cases q:(sd s x d b p)with
   |nil=>exact absurd q i
   |cons _ _=>rfl
  rwa[e,fc,dw]
end
def auR(k:Int)(h:-100<=k)(x:k<=100):iB 185 [iJ ⟨ac,1,0⟩,D k]<|.iO [iJ<|pV k,D 0]:=by
 have:=Pv ⟨ac,1,0⟩ k Hm U U;have e:canon ac 1 (0+k)=pV k:=by rw[Int.zero_add];exact Wo k
 have y:nD (canon ac 1<|0+k)=pV k:=by rw[e];exact Dk<|UF h x
 have z:oj (canon ac 1<|0+k)=0:=by rw[e];exact IP<|UF h x
 change iB 185 [iJ ⟨ac,1,0⟩,D k] (.iO [iJ<|nD<|canon ac 1<|0+k,D<|oj<|canon ac 1<|0+k])at this;rwa[y,z]at this
def alT(x:List Iv)(d:Dy):(Jo x d==0)=xF x d:=by
 unfold Jo;cases xF x d<;>rfl
def YI(x:List Iv)(k:Int)(x1:1<=x.length)(z:x.length<=8)(u:ss x)(h:-100<=k)(y:k<=100):iB 124 [K x,D k]<|.iO [K<|tG x<|pV k,I<|xF x<|pV k]:=by
 have v:=OR h y;have s:=OQ k;exact iL<|Y [.c<|tA 1,ag [iJ<|jF 1,D k]<|auR _ U U,tM 16 0 0,.c<|ahJ x (pV k) U U Z Z Z]<|rR (.iO [K<|tG x<|pV k,I<|xF x<|pV k]) (.iO<|.cons (.refl _)<|.cons (.jB<|by rw[alT]) .nil:E.le (.iO [K<|tG x<|pV k,I<|(Jo x<|pV k)==0])<|.iO [K<|tG x<|pV k,I<|xF x<|pV k])
section
variable(s:jS)(x:List Iv)(d:Dy)(p:Nat)(h:mE s)(m:kJ s.iZ x)
def agJ(u:d.iE)(v:0<d.jh)(i:8<=p)(C:p<=512)(k:Int)(t:-100<=k)(r:k<=100)(g:(xF x<|pV k)=ac):iB 123 [D k,(.jE 1 λj=>[K x].getD j .any),(.jE 5 λj=>[D s.tape.iK,mf s.tape.iz,mh s.tape.iR,D s.iZ,K s.params].getD j .any),(.jE 3 λj=>[I d.neg,F<|iy d.m,D d.e].getD j .any),(.jE 1 λj=>[D p].getD j .any)]<|.iO [K<|tG x<|pV k,I ac]:=by
 have y:=h.s1;have z:=h.s4;have⟨q,n,o⟩:=IM m y z;exact iL<|af [.c<|YI x k U U o U U,S 15 g]
section
variable(t:d.iE)(r:0<d.jh)(i:8<=p)(C:p<=512)(k:Int)(q:-100<=k)(n:k<=100)
def agK(g:(xF x<|pV k)=aa):iB 123 [D k,(.jE 1 λj=>[K x].getD j .any),(.jE 5 λj=>[D s.tape.iK,mf s.tape.iz,mh s.tape.iR,D s.iZ,K s.params].getD j .any),(.jE 3 λj=>[I d.neg,F<|iy d.m,D d.e].getD j .any),(.jE 1 λj=>[D p].getD j .any)]<|.iO [K<|tG x<|pV k,I<|Fa s x d (tG x<|pV k) p]:=by
 have y:=h.s1;have z:=h.s4;have⟨u,v,o⟩:=IM m y z;have b:=QI m (OR q n) (Ur<|OQ k) g;exact iL<|af [.c<|YI x k U U o U U,S 15 g,.c<|RK s x d (tG x<|pV k) p h m t r b i C]
def VA:iB 123 [D k,(.jE 1 λj=>[K x].getD j .any),(.jE 5 λj=>[D s.tape.iK,mf s.tape.iz,mh s.tape.iR,D s.iZ,K s.params].getD j .any),(.jE 3 λj=>[I d.neg,F<|iy d.m,D d.e].getD j .any),(.jE 1 λj=>[D p].getD j .any)]<|.iO [K<|tG x<|pV k,I<|Dc s x d p k]:=by
 unfold Dc;cases hg:xF x (pV k)with
 |false=>exact agJ s x d p h m t r i C k q n hg
 |true=>exact agK s x d p h m t r i C k q n hg
end
end
def J6{l:List Iv}(h:l≠[]):((l.length:Int)==0)=ac:=oo λq=>h<|aws.1 q
def akd(s:jS)(x:List Iv)(d:Dy)(p:Nat)(h:mE s)(y:kJ s.iZ x)(z:d.iE)(u:0<d.jh)(i:8<=p)(C:p<=512)(N:Nat)(o:N<24)(v:∀ k:Nat,k<N->Dc s x d p ((k:Int)-20)=ac)(t:Dc s x d p ((N:Int)-20)=aa):iB 69 [kH s,K x,iJ d,D p]<|.iO [K<|tG x<|pV<|(N:Int)-20,D 0]:=
 iL (af [.c<|Mu s x d p h y z u i C,.s (Sp.jL (XF s x d p N) 0 N U (λk r E=>by
    exact iU (af [tT 23 ((k:Int)<24) U,iN<|(k:Int)-20,ag [D<|(k:Int)-20,(.jE 1 λj=>[K x].getD j .any),(.jE 5 λj=>[D s.tape.iK,mf s.tape.iz,mh s.tape.iR,D s.iZ,K s.params].getD j .any),(.jE 3 λj=>[I d.neg,F<|iy d.m,D d.e].getD j .any),(.jE 1 λj=>[D p].getD j .any)]<|VA _ _ _ _ h y z u i C _ U U,S 31<|v k U,iN<|(k:Int)+1]) aI)
  (λr=>by
    exact iU (af [tT 23 ((N:Int)<24) U,iN<|(N:Int)-20,ag [D<|(N:Int)-20,(.jE 1 λj=>[K x].getD j .any),(.jE 5 λj=>[D s.tape.iK,mf s.tape.iz,mh s.tape.iR,D s.iZ,K s.params].getD j .any),(.jE 3 λj=>[I d.neg,F<|iy d.m,D d.e].getD j .any),(.jE 1 λj=>[D p].getD j .any)]<|VA _ _ _ _ h y z u i C _ U U,S 31 t]) aI) aM:jK 5 Tryz.f69 (XF s x d p N 0) .ret ⟨55,aa,[(9,.e<|D 0),(8,.e<|K<|tG x<|pV<|(N:Int)-20)],[]⟩) .nil])
def AK:Iv:=⟨kq,kq,ac⟩
def asD:AK.iE:=.inr ⟨rfl,tY,tY,aQ⟩
abbrev jX(n:Nat):Iv:=lp<|jF (n:Int)
def lq(p:Nat)(T:Nat->Iv)(a:Nat):Nat->Iv
 | 0=>T a
 |n+1=>jN (lq p T a n) (T<|a+n+1) p
def oM(p:Nat)(s:Iv)(T:Nat->Iv)(a:Nat):Nat->Iv
 | 0=>s
 |n+1=>qy (oM p s T a n) (T<|a+n) p
def lJ(x:Iv)(k:Nat):List Iv:=x::aA k AK
structure kV(n:Nat)(a:List Iv):Prop where
 len:a.length=n
 ok:ns a
def lj(f:Nat->Iv)(n:Nat):List Iv:=(be n).map f
def AS(a b:List Iv)(p:Nat):List Iv:=lj (λi=>jN (a.getD i L) (b.getD i L) p) a.length
def BL(a b:List Iv)(p:Nat):List Iv:=lj (λi=>qy (a.getD i L) (b.getD i L) p) a.length
def Bv(a:List Iv):List Iv:=lj (λi=>oF<|a.getD i L) a.length
def qK(a b:List Iv)(p:Nat):List Iv:=lj (λk=>lq p (λi=>B (a.getD i L) (b.getD (k-i) L) p) 0 k) a.length
def jx(f:Nat->List Iv->Iv):Nat->List Iv
 | 0=>[]
 |k+1=>jx f k++[f k<|jx f k]
def nf(a b:List Iv)(p k:Nat)(out:List Iv):Iv:=jC (oM p (a.getD k L) (λi=>B (out.getD i L) (b.getD (k-i) L) p) 0 k) (b.getD 0 L) p
def yQ(a b:List Iv)(p:Nat):List Iv:=jx (nf a b p) a.length
def nd(a:List Iv)(p:Nat):Nat->List Iv
 | 0=>a
 |k+1=>qK (nd a p k) a p
section
variable(a:List Iv)
def CJ(n p:Nat):List Iv:=if n=0 then lj (λi=>B (jX 0) (a.getD i L) p) a.length else nd a p (n-1)
def qh(n p:Nat):List Iv:=(CJ a n p).set 0<|jO (a.getD 0 L) n p
noncomputable def sP(p k:Nat)(out:List Iv):Iv:=
 if k=0 then yU (a.getD 0 L) p else jC (lq p (λi=>B (B (jX i) (a.getD i L) p) (out.getD (k-i) L) p) 1<|k-1) (jX k) p
noncomputable def Dq(p:Nat):List Iv:=jx (sP a p) a.length
end
def uq(a out:List Iv)(p k:Nat):Nat->Iv
 | 0=>jX 0
 |n+1=>jN (uq a out p k n) (B (B (jX<|n+1) (out.getD (n+1) L) p) (a.getD (k-(n+1)) L) p) p
section
variable(a:List Iv)
noncomputable def oV(p k:Nat)(out:List Iv):Iv:=
 if k=0 then yV (a.getD 0 L) p else jC (qy (a.getD k L) (jC (uq a out p k<|k-1) (jX k) p) p) (a.getD 0 L) p
noncomputable def Hb(p:Nat):List Iv:=jx (oV a p) a.length
def ue(p k:Nat)(f:List Iv):Iv:=jC (lq p (λi=>B (B (jX i) (a.getD i L) p) (f.getD (k-i) L) p) 1<|k-1) (jX k) p
end
noncomputable def ny(a:List Iv)(p:Nat):Nat->List Iv×List Iv
 | 0=>([yW (a.getD 0 L) p],[yT (a.getD 0 L) p])
 |k+1=>((ny a p k).1++[ue a p (k+1) (ny a p k).2],(ny a p k).2++[oF<|ue a p (k+1) (ny a p k).1])
noncomputable def pU(a:List Iv)(p k:Nat)(out:List Iv):Iv:=
 if k=0 then rV (a.getD 0 L) p else jC (oM p (a.getD k L) (λi=>B (out.getD i L) (out.getD (k-i) L) p) 1<|k-1) (nM (rV (a.getD 0 L) p) 1) p
noncomputable def Ej(a:List Iv)(p:Nat):List Iv:=jx (pU a p) a.length
noncomputable def oO(o:nC)(a b:List Iv)(p:Nat):List Iv:=
 if o.kind=3 then AS a b p else if o.kind=4 then BL a b p else if o.kind=5 then qK a b p else if o.kind=6 then yQ a b p
 else if o.kind=7 then Bv a else if o.kind=8 then qh a o.n p else if o.kind=9 then Dq a p else if o.kind=10 then Hb a p
 else if o.kind=11 then(ny a p<|a.length-1).1 else if o.kind=12 then(ny a p<|a.length-1).2 else if o.kind=13 then Ej a p else[]
noncomputable def oi(o:nC)(l:List<|List Iv)(k p:Nat):List Iv:=if o.kind=1 then lJ (qj o.cn o.cd p) k else oO o (l.getD o.a []) (l.getD (if wO o then o.b else o.a) []) p
noncomputable def jm(z:List nC)(K:List<|List Iv)(k p:Nat):Nat->List (List Iv)
 | 0=>K
 |i+1=>jm z K k p i++[oi (z.getD i o) (jm z K k p i) k p]
noncomputable def qq(t:qo)(i:List<|List Iv)(k p:Nat):List<|List Iv:=t.iR.map λj=>(jm t.iz i k p t.iz.length).getD j []
section
variable(s:jS)(x:List<|List Iv)
def pr(k:Nat):List<|List Iv:=x.map (λc=>c.take<|k+1)++s.params.map λa=>lJ a k
noncomputable def DZ(p n i:Nat):Iv:=jC (((qq s.tape (pr s x n) n p).getD i []).getD n L) (jX<|n+1) p
end
noncomputable def jb(s:jS)(x:List Iv)(p:Nat):Nat->List (List Iv)
 | 0=>x.map λy=>[y]
 |n+1=>(be x.length).map λi=>(jb s x p n).getD i []++[DZ s (jb s x p n) p n i]
def ns.nil:ns []:=λ_=>np
def getD_map{x:Type}{n i:Nat}{f:Nat->x}{d:x}(h:i<n):((be n).map f).getD i d=f i:=by simp[bB,h]
def Dt{f:Nat->Iv}{n i:Nat}(h:i<n):(lj f n).getD i L=f i:=getD_map h
def wR(f:Nat->Iv)(n:Nat):(lj f n).length=n:=by simp[lj]
def Jj{f:Nat->Iv}{n:Nat}(h:∀ i,i<n->(f i).iE):kV n<|lj f n:=⟨wR _ _,λi=>by
 by_cases x:i<n
 .rw [Dt x];exact h i x
 .rw [bB,cM<|by rw[wR];omega];exact np⟩
def zI(f:Nat->List Iv->Iv):∀ n,(jx f n).length=n
 | 0=>rfl
 |n+1=>by simp[jx,zI f n]
def CO{f:Nat->List Iv->Iv}(n:Nat)(h:∀ k l,k<n->kV k l->(f k l).iE):kV n<|jx f n:=by
 induction n with
 |zero=>exact⟨rfl,ns.nil⟩
 |succ n i=>
  have:=i λk l x=>h k l U 
  exact⟨zI _ _,this.ok.push<|h n _ U this⟩
def avF(k:Nat):ns<|aA k AK:=λi=>by
 rw[bB,fE];split
 .exact asD
 .exact np
def WS{x:Iv}(h:x.iE)(k:Nat):kV (k+1)<|lJ x k:=⟨by simp[lJ],(ns.push ns.nil h).append<|avF k⟩
def zO(n:Nat)(h:n<4294967296:=by omega):(jX n).iE:=vH<|G4 n h
section
variable {p:Nat} (z:1<=p) (C:p<=4096)
include z C
def Uv{x y:Iv}(h:x.iE)(k:y.iE):(qy x y p).iE:=sN h (DY k) z C
def CW{T:Nat->Iv}{a:Nat}:∀ n,(∀ i,a<=i->i<=a+n->(T i).iE)->(lq p T a n).iE
 | 0,h=>h a (bA _)<|bA _
 |n+1,h=>sN (CW n λi x k=>h i x U) (h _ U U) z C
def G9{s:Iv}(x:s.iE){T:Nat->Iv}{a:Nat}:∀ n,(∀ i,a<=i->i<a+n->(T i).iE)->(oM p s T a n).iE
 | 0,_=>x
 |n+1,h=>Uv z C (G9 x n λi k y=>h i k U)<|h _ U U
section
variable{n:Nat}{a b:List Iv}(h:kV n a)(x:kV n b)
def agf:kV n<|AS a b p:=h.len▸Jj λi _=>sN (h.ok i) (x.ok i) z C
def atZ:kV n<|BL a b p:=h.len▸Jj λi _=>Uv z C (h.ok i)<|x.ok i
end
end
def ao0{n:Nat}{a:List Iv}(h:kV n a):kV n<|Bv a:=h.len▸Jj λi _=>DY<|h.ok i
section
variable {p:Nat} (x:1<=p) (C:p<=4096)
include x C
section
variable{n:Nat}{a:List Iv}(h:kV n a)(b:List Iv)
def abI:kV n<|qK a b p:=h.len▸Jj λi _=>CW x C _ λ_ _ _=>nZ _ _ x C
def ajA:kV n<|yQ a b p:=h.len▸CO _ λ_ _ _ _=>su _ _ x C
end
def NJ{n:Nat}{a:List Iv}(h:kV n a):∀ k,kV n (nd a p k)
 | 0=>h
 |k+1=>abI x C (NJ h k) a
def aqm{n:Nat}{a:List Iv}(h:kV n a)(k:Nat):kV n<|CJ a k p:=by
 unfold CJ;split
 .exact h.len▸Jj λi _=>nZ _ _ x C
 .exact NJ x C h _
end
def kV.set{n:Nat}{a:List Iv}(h:kV n a)(i:Nat){x:Iv}(k:x.iE):kV n<|a.set i x:=⟨by simp[h.len],λj=>by
 rw[bB,List.getElem?_set];split
 .split
  .exact k
  .exact np
 .have:=h.ok j;rwa[bB]at this⟩
section
variable {p:Nat} (y:1<=p) (i:p<=4096)
include y i
section
variable{n:Nat}{a:List Iv}(h:kV n a)
def aqo(k:Nat):kV n<|qh a k p:=(aqm y i h k).set 0<|FJ (h.ok 0) k y i
def aky:kV n<|Dq a p:=h.len▸CO _ λk l _ _=>by
 unfold sP;split
 .exact Qv _ _
 .exact su _ _ y i
def aod:kV n<|Hb a p:=h.len▸CO _ λk l _ _=>by
 unfold oV;split
 .exact Qw _ _
 .exact su _ _ y i
def atH:kV n<|Ej a p:=h.len▸CO _ λk l _ _=>by
 unfold pU;split
 .exact Jc _ _
 .exact su _ _ y i
end
def Ts(a f:List Iv)(k:Nat):(ue a p k f).iE:=su _ _ y i
def KW(a:List Iv):∀ k,kV (k+1) (ny a p k).1/\kV (k+1) (ny a p k).2
 | 0=>⟨⟨rfl,ns.push ns.nil<|X5 _ _⟩,⟨rfl,ns.push ns.nil<|X1 _ _⟩⟩
 |k+1=>by
  have⟨h,x⟩:=KW a k;exact⟨⟨by simp[ny,h.len],h.ok.push<|Ts y i _ _ _⟩,⟨by simp[ny,x.len],x.ok.push<|DY<|Ts y i _ _ _⟩⟩
def ago(o:nC){n:Nat}{a b:List Iv}(h:kV (n+1) a)(x:kV (n+1) b)(k:3<=o.kind)(w:o.kind<=13):kV (n+1)<|oO o a b p:=by
 have l:a.length-1+1=n+1:=by rw[h.len];rfl
 unfold oO;split
 .exact agf y i h x
 split
 .exact atZ y i h x
 split
 .exact abI y i h b
 split
 .exact ajA y i h b
 split
 .exact ao0 h
 split
 .exact aqo y i h _
 split
 .exact aky y i h
 split
 .exact aod y i h
 split
 .exact l▸(KW y i a _).1
 split
 .exact l▸(KW y i a _).2
 split
 .exact atH y i h
 .omega
def wL(n:Nat)(l:List<|List Iv):Prop:=∀ i,i<l.length->kV n (l.getD i [])
end
def wL.push{n:Nat}{l:List<|List Iv}(h:wL n l){y:List Iv}(x:kV n y):wL n<|l++[y]:=λi k=>by
 rw[bB,eu];split
 .rename_i z;have:=h i z;rwa[bB]at this
 .obtain rfl:i=l.length:=by simp at k;omega
  simpa using x
section
variable {p:Nat} (h:1<=p) (i:p<=4096)
include h i
end
def FX{p:Nat}(z:List nC)(K:List<|List Iv)(k:Nat):∀ i,(jm z K k p i).length=K.length+i
 | 0=>rfl
 |i+1=>by simp only[jm,cD,FX z K k i,dD,awM];omega
section
variable {p:Nat} (v:1<=p) (C:p<=4096)
include v C
def apD{o:nC}{m n:Nat}(h:pC o m){l:List<|List Iv}(y:wL (n+1) l)(u:l.length=m):kV (n+1)<|oi o l n p:=by
 have z:=h.k3;have a:=h.a;have b:=h.b;unfold oi;split
 .exact WS (Ub _ _ v C) n
 .rename_i k;rw[bn k]at a;refine ago v C o (y _ U) (y _ ?_) (z.resolve_left k) h.Ar;unfold wO;by_cases x:o.kind<=6
  .rw [bt ⟨z.resolve_left k,x⟩]at b;simp only[x,gK,bK];omega
  .simp only[x,awo,bS,bE];omega
def KT{t:qo}(h:zT t){K:List<|List Iv}{n:Nat}(x:wL (n+1) K)(l:K.length=t.iK):∀ i,i<=t.iz.length->wL (n+1) (jm t.iz K n p i)
 | 0,_=>x
 |i+1,hle=>(KT h x l i U).push<|apD v C (h.op i U) (KT h x l i U)<|by rw[FX,l]
def Ya{t:qo}(h:zT t){K:List<|List Iv}{n:Nat}(x:wL (n+1) K)(l:K.length=t.iK):wL (n+1)<|qq t K n p:=λi V=>by
 unfold qq at V ⊢;have J:i<t.iR.length:=by simpa using V
 have:=h.out i J;rw[bB,cQ,bH J];rw[bB,bH J]at this;exact KT v C h x l _ (bA _) _<|by rw[FX,l];exact this
end
def Vo(m:List<|List Iv)(x:Nat):PS:=⟨29,aa,[(7,.e<|D x),(6,.e<|D m.length),(5,.e<|kX m),(0,.e<|kX m)],[]⟩
section
variable(p:Nat)(z:Int)(g:ax)(cap:List E)
def aes(T:Nat->Iv)(A:Nat)(x:Nat):PS:=⟨28,aa,[(10,.e<|D ((A+x+1:Nat):Int)),(9,.box 9 0),(8,.box 8 0),(1,.e<|D z),(2,.e<|D p),(3,.e<|.fn g cap)],[(9,.cells 33<|jv<|lq p T A x),(8,.cells 33 au)]⟩
def aed(s:Iv)(T:Nat->Iv)(A:Nat)(x:Nat):PS:=⟨25,aa,[(11,.e<|D ((A+x:Nat):Int)),(10,.box 10 0),(5,.box 5 0),(2,.e<|D z),(3,.e<|D p),(4,.e<|.fn g cap)],[(10,.cells 33 au),(5,.cells 33<|jv<|oM p s T A x)]⟩
end
def ad9(a b:List Iv)(g:ax)(cap:List E)(T:Nat->Iv)(x:Nat):PS:=⟨37,aa,[(19,.e<|D x),(18,.e<|D a.length),(7,.own 16),(0,.e<|K a),(1,.e<|K b),(2,.e<|.fn g cap)],[(16,.row aa 33 x 7<|jf<|lj T x)]⟩
section
variable(a b:List Iv)(p:Nat)(x:Nat)
def aei:PS:=⟨31,aa,[(19,.e<|D x),(18,.e<|D a.length),(7,.own 16),(5,.box 5 0),(4,.box 4 0),(3,.box 3 0)],[(16,.row aa 33 x 7<|jf<|lj (λk=>lq p (λi=>B (a.getD i L) (b.getD (k-i) L) p) 0 k) x),(5,.cells 3 [D p]),(4,.cells 26 [K b]),(3,.cells 26 [K a])]⟩
def ad8:PS:=⟨43,aa,[(20,.e<|D x),(19,.e<|D a.length),(7,.oe 7 1 0 0),(5,.box 5 0),(4,.box 4 0),(0,.e<|K a)],[(7,.kn aa 26 33 1 7 (λ_=>x) (λ_=>jf<|jx (nf a b p) x) .none),(5,.cells 3 [D p]),(4,.cells 26 [K b])]⟩
end
def yJ(m:List<|List Iv)(n:Nat)(r:1<=n)(y:n<=17)(l:m.length<=100)(h:∀ i,i<m.length->(m.getD i []).length=n):iB 56 [kX m]<|I aa:=
 iL (af [.s (Sp.jL (Vo m) 0 m.length U (λx k Y=>by
    have e:=h x U;have z:=h 0 U;exact iU (af [tT 8 ((x:Int)<m.length) U,iX (x:Int)<|m.length,tF 13 (((m.getD x []).length:Int)<1) U,tF 17 (17<((m.getD x []).length:Int)) U,
     iX 0 (m.length),ai 26 (((m.getD x []).length:Int) != ((m.getD 0 []).length:Int))<|zw,iN<|(x:Int)+1]) aI)
  (λk=>by
    exact iU (af [tF 8 ((m.length:Int)<m.length) U]) aI) aM:jK 2 Tryz.f56 (Vo m 0) (.exit 0) ⟨29,aa,[],[]⟩) .nil])
def Db{a:List Iv}{n:Nat}(h:a.length=n)(i:Nat)(x:i<[a].length):([a].getD i []).length=n:=by
 obtain rfl:i=0:=by simp at x;omega
 exact h
def Lx{a b:List Iv}{n:Nat}(h:a.length=n)(x:b.length=n)(i:Nat)(k:i<[a,b].length):([a,b].getD i []).length=n:=by
 rcases i with _|_|i
 .exact h
 .exact x
 .simp at k;omega
def DU(a:List Iv):E.le (.sl aa 1 1 λi j=>[K a].getD (i*1+j)<|.v<|.bool ac)<|kX [a]:=.sl λi j h x=>by
 obtain rfl:i=0:= U ;obtain rfl:j=0:= U ;exact⟨.jB rfl,rfl⟩
def QE{T i n:Nat}{f:Nat->Iv}{y:Iv}(x:n=i)(k:y=f i):
 Bx.le (.row aa T (n+[y].length) 7 λa j=>if a<n then jf (lj f i) a j else(E.lO<|K [y]) (a-n) j) (.row aa T (i+1) 7<|jf<|lj f<|i+1):=by
 subst k;have e:lj f (i+1)=lj f i++[f i]:=by simp[lj,List.range_succ]
 have h:=JY (T:=T) (n:=n) (xs:=lj f i) (y:=f i) (by rw[wR];exact x);rw[<-e]at h;have z:(lj f<|i+1).length=i+1:=wR _ _;rw[z]at h;exact h
def My(T i:Nat)(f:Nat->Iv):=QE (T:=T) (i:=i) (f:=f) rfl rfl
def adn{T i n:Nat}{f:Nat->List Iv->Iv}{y:Iv}(x:n=i)(k:y=f i (jx f i)):
 Bx.le (.row aa T (n+[y].length) 7 λa j=>if a<n then jf (jx f i) a j else(E.lO<|K [y]) (a-n) j) (.row aa T (i+1) 7<|jf<|jx f<|i+1):=by
 subst k;have h:=JY (T:=T) (n:=n) (xs:=jx f i) (y:=f i<|jx f i) (by rw[zI];exact x);have e:(jx f i++[f i<|jx f i]).length=i+1:=zI f<|i+1;rw[e]at h;exact h
def Ia{T:Nat}{el e:Nat->Nat->E}:Bx.le (.row aa T 0 7 el)<|.row aa T 0 7 e:=.row rfl λi j h=>absurd h<|bD i
def AJ{n:Nat}{xs:List Iv}(h:n=xs.length):E.le (.sl aa n 7<|jf xs)<|K xs:=by subst h;exact .refl _
def an3(L:List Nat):yE<|F L:=by
 intro d s a w v h u;cases u with
 |sl _ _ _ _ A c f t m r l p x k=>
  refine .sl _ _ _ _ A c f t m r l p (λi j y X=>?_) λi j y X=>?_
  .have⟨b,o,e,n,V,D⟩:=x i j y X;refine⟨b,o,e,λg=>?_,V,D⟩;rcases h b _ g with q|q
   .exact n q
   .have e:=z.lr<|k i j y X;rw[e]at D;exact q _ _ D
  .have e:=z.lr<|k i j y X;rw[e];exact .v _
def an4(x:av):yE<|.v x:=λs b r w v _ h=>(z.lr h) ▸ .v _
def aa4(x:Iv)(j:Nat)(h:j<7):yE<|(jv x).getD j .any:=by
 rcases j with _|_|_|_|_|_|_|j
 all_goals first|exact an4 _|exact an3 _|omega
def J9(x:Iv):yE<|O x:=by
 intro s b u w v h t;obtain⟨l,rfl,r⟩:=t.Eu;refine lf.agg ⟨r.len,λi p y k n=>?_⟩;have m:i<7:=by
  rcases er i 7 with q|q
  .exact q
  .rw [cM<|by exact q]at k;cases k
 have z:=aa4 x i m s b u w y h;rw[bB,k]at z;exact z<|r.kP i p y k n
def Nw{n:Nat}(xs:List Iv):Ep n 7<|jf xs:=λi j _ h=>aa4 _ j h
def Ov(A n p:Nat)(z:Int)(u:z=((A+n:Nat):Int))(g:ax)(cap:List E)(T:Nat->Iv)(v:A+n<=1000)(I:8<=p)(C:p<=512)(h:∀ i,A<=i->i<=A+n->(T i).iE/\iB g (D (i:Int)::cap) (O<|T i)):iB 252 [D A,D z,D p,.fn g cap]<|O<|lq p T A n:=by
 have t:=(h A U U).1;exact iL (af [.c<|(h A U U).2,iN<|(A:Int)+1,.s (Sp.jL (aes p z g cap T A) 0 n U (λx k m=>by
    have s:=CW (U:1<=p) (U:p<=4096) x λi y r=>(h i y U).1
    have q:=(h (A+x+1) U U).1;exact iU (Y [tT 18 (((A+x+1:Nat):Int)<=z) U,.c<|(h (A+x+1) U U).2,.c<|yb (lq p T A x) (T<|A+x+1) p Z Z,
     iN (((A+x+1:Nat):Int)+1)]<|.e<|af [.o 10<|oI (((A+x+1)+1:Nat):Int) ((A+(x+1)+1:Nat):Int),.b 9<|.refl<|.cells 33<|jv<|lq p T A<|x+1]) aI)
  (λk=>by
    exact iU (af [tF 18 (((A+n+1:Nat):Int)<=z) U]) aI) aM:jK 3 f252 (aes p z g cap T A 0) (.exit 0) ⟨28,aa,[(9,.box 9 0),(8,.box 8 0)],[(9,.cells 33<|jv<|lq p T A n),(8,.cells 33 au)]⟩)<|af [.o 10<|oI ((A+1:Nat):Int) ((A+0+1:Nat):Int),.b 9<|.refl<|.cells 33<|jv<|lq p T A 0]])
def aee(s:Iv)(k:s.iE)(A n p:Nat)(z:Int)(v:z=((A+n:Nat):Int)-1)(g:ax)(cap:List E)(T:Nat->Iv)(t:A+n<=1000)(I:8<=p)(C:p<=512)(h:∀ i,A<=i->i<A+n->(T i).iE/\iB g (D (i:Int)::cap) (O<|T i)):iB 254 [O s,D A,D z,D p,.fn g cap]<|O<|oM p s T A n:=
 iL (af [.s (Sp.jL (aed p z g cap s T A) 0 n U (λx y l=>by
    have r:=G9 (U:1<=p) (U:p<=4096) k x λi u q=>(h i u U).1
    have m:=(h (A+x) U U).1;exact iU (Y [tT 15 (((A+x:Nat):Int)<=z) U,.c<|(h (A+x) U U).2,.c<|Nq (oM p s T A x) (T<|A+x) p Z Z,iN<|((A+x:Nat):Int)+1]<|.e<|af [.o 11<|oI (((A+x)+1:Nat):Int) ((A+(x+1):Nat):Int),.b 5<|.refl<|.cells 33<|jv<|oM p s T A<|x+1]) aI)
  (λy=>by
    exact iU (af [tF 15 (((A+n:Nat):Int)<=z) U]) aI) aM:jK 2 f254 (aed p z g cap s T A 0) (.exit 0) ⟨25,aa,[(10,.box 10 0),(5,.box 5 0)],[(10,.cells 33 au),(5,.cells 33<|jv<|oM p s T A n)]⟩)<|af [.o 11<|oI (A:Int) ((A+0:Nat):Int),.b 5<|.refl<|.cells 33<|jv<|oM p s T A 0]])
def Eg(n:Nat)(h:n<4294967296:=by omega):iB 258 [D n]<|O<|jX n:=
 iL (af [.c<|II n,.c<|xg (jF (n:Int))<|G4 _ U])
def ajd{x:Iv}{k:Nat}:E.le (.sl aa (k+1) 7 λz y=>if z=0/\0<=y/\y<0+7 then(jv x).getD (y-0) .any else au.getD y .any)<|K<|lJ x k:=by
 have l:(lJ x k).length=k+1:=by simp[lJ]
 unfold K;rw[l];refine .sl λi j t u=>⟨?_,tK _ _ u⟩
 by_cases h:i=0
 .subst h;rw[bt ⟨rfl,cj _,U⟩];exact .jB rfl
 .rw [bn λq=>h q.1];obtain⟨m,rfl⟩:∃ m,i=m+1:=⟨i-1,U⟩
  have e:(lJ x k).getD (m+1) L=AK:=by
   simp only[lJ,bB,awI,fE];rw[bt U];rfl
  rw[e];have v:E.le (.v<|.slice am 0 0)<|F<|iy 0:=by rw[pj];exact .nil _ _ _
  rcases j with _|_|_|_|_|_|_|j
  all_goals first|exact v|exact .refl _|omega
def ad7(x:Iv)(y:x.iE)(k:Nat)(z:k<=16):iB 144 [O x,D k]<|K<|lJ x k:=
 iL (Y [tF 7 ((k:Int)<0) U,tF 10 (16<(k:Int)) U,iN<|(k:Int)+1,.a (U:0<=(((k+1:Nat):Int):Int)/\(((k+1:Nat):Int):Int)<=(((k+1:Nat):Int):Int)),.a (U:((88:Nat):Int)*((k+1:Nat):Int)<=281474976710656/\(((k+1:Nat):Int):Int)<=9223372036854775807),iX 0<|k+1,.a (U:0<(k+1))]<|rR (K<|lJ x k) (ajd:E.le (.sl aa (k+1) 7 λi j=>if i=0/\0<=j/\j<0+7 then[I x.lo.neg,F<|iy x.lo.m,D x.lo.e,I x.hi.neg,F<|iy x.hi.m,D x.hi.e,I x.all].getD (j-0) .any else(λ_ h=>au.getD h .any) i j)<|K<|lJ x k))
def Uh(a b:List Iv)(n:Nat)(y:1<=n)(m:n<=17)(z:a.length=n)(u:b.length=n)(g:ax)(cap:List E)(T:Nat->Iv)(h:∀ i,i<n->iB g (O (a.getD i L)::O (b.getD i L)::cap) (O<|T i)):iB 248 [K a,K b,.fn g cap]<|K<|lj T a.length:=
 iL (af [.o 11<|.e<|CB a b,.c<|yJ [a,b] n U U aK<|Lx Z Z,.a (U:0<=(0:Int)/\(0:Int)<=((a.length:Int):Int)),.a (U:((88:Nat):Int)*(a.length:Int)<=281474976710656/\((a.length:Int):Int)<=9223372036854775807),.s (Sp.jL (ad9 a b g cap T) 0 a.length U (λx k v=>by
    have p:=oh<|T x;exact iU (Y [tT 20 ((x:Int)<a.length) U,iX (x:Int)<|a.length,iX (x:Int)<|b.length,.c<|h x U,.o 33<|.e<|lM<|T x,.a (U:(x+[T x].length)*88<=140737488355328),iN<|(x:Int)+1]<|.e<|af [.b 16<|My 33 x T]) aI)
  (λk=>by
    exact iU (Y [tF 20 ((a.length:Int)<a.length) U,.z 16]<|.e<|af [.o 7 (.e<|AJ (wR _ _).symm:aj (.sl aa a.length 7<|jf<|lj T a.length)<|K<|lj T a.length)]) aI) aM:jK 5 f248 (ad9 a b g cap T 0) (.exit 0) ⟨37,aa,[(7,.e<|K<|lj T a.length)],[]⟩)<|af [.b 16 (Ia:Bx.le (.row aa 33 0 7 λ_ j=>au.getD j .any)<|.row aa 33 0 7<|jf<|lj T 0)]])
def asK(x y:Iv)(p:Nat)(h:x.iE)(k:y.iE)(i:8<=p)(C:p<=512):iB 249 [O x,O y,(.jE 1 λj=>[D p].getD j .any)]<|O<|jN x y p:=
 iL (af [.c<|yb x y p Z Z])
def asL(a b:List Iv)(n p:Nat)(k:1<=n)(m:n<=17)(h:kV n a)(x:kV n b)(I:8<=p)(C:p<=512):iB 201 [K a,K b,D p]<|K<|AS a b p:=by
 have l:=h.len;have y:=x.len;exact iL<|Y [.c (Uh a b n k m l y _ _ (λi=>jN (a.getD i L) (b.getD i L) p) λi z=>asK _ _ p (h.ok i) (x.ok i) I C:iB 248 [K a,K b,.fn 249 [(.jE 1 λj=>[D p].getD j .any)]] _)]<|rR (K<|AS a b p) (.jB rfl:E.le (K<|lj (λi=>jN (a.getD i L) (b.getD i L) p) a.length)<|K<|AS a b p)
def as1(x y:Iv)(p:Nat)(h:x.iE)(k:y.iE)(i:8<=p)(C:p<=512):iB 250 [O x,O y,(.jE 1 λj=>[D p].getD j .any)]<|O<|qy x y p:=
 iL (af [.c<|Nq x y p Z Z])
def as2(a b:List Iv)(n p:Nat)(k:1<=n)(m:n<=17)(h:kV n a)(x:kV n b)(I:8<=p)(C:p<=512):iB 202 [K a,K b,D p]<|K<|BL a b p:=by
 have l:=h.len;have y:=x.len;exact iL<|Y [.c (Uh a b n k m l y _ _ (λi=>qy (a.getD i L) (b.getD i L) p) λi z=>as1 _ _ p (h.ok i) (x.ok i) I C:iB 248 [K a,K b,.fn 250 [(.jE 1 λj=>[D p].getD j .any)]] _)]<|rR (K<|BL a b p) (.jB rfl:E.le (K<|lj (λi=>qy (a.getD i L) (b.getD i L) p) a.length)<|K<|BL a b p)
def asS(x y:Iv)(h:x.iE):iB 256 [O x,O y]<|O<|oF x:=
 iL (af [.c<|No x Z])
def asT(a:List Iv)(n:Nat)(x:1<=n)(m:n<=17)(h:kV n a):iB 205 [K a]<|K<|Bv a:=by
 have l:=h.len;exact iL<|Y [.c (Uh a a n x m l l _ _ (λi=>oF<|a.getD i L) λi k=>asS _ _ (h.ok i):iB 248 [K a,K a,.fn 256 []] _)]<|rR (K<|Bv a) (.jB rfl:E.le (K<|lj (λi=>oF<|a.getD i L) a.length)<|K<|Bv a)
def aeh(a b:List Iv)(i k p:Nat)(x:i<=k)(y:k<a.length)(R:k<b.length)(l:b.length<=17)(v:ns a)(h:ns b)(I:8<=p)(C:p<=512):iB 253 [D i,(.jE 1 λj=>[K a].getD j .any),(.jE 1 λj=>[K b].getD j .any),(.jE 1 λj=>[D k].getD j .any),(.jE 1 λj=>[D p].getD j .any)]<|O<|B (a.getD i L) (b.getD (k-i) L) p:=by
 have z:=v i;have u:=h<|k-i;exact iL<|af [iX (i:Int)<|a.length,iN<|(k:Int)-i,.o 14<|oI ((k:Int)-i) ((k-i:Nat):Int),iX ((k-i:Nat):Int)<|b.length,.c<|uo (a.getD i L) (b.getD (k-i) L) p Z Z]
def asR(a b:List Iv)(n p:Nat)(z:1<=n)(m:n<=17)(h:kV n a)(y:kV n b)(I:8<=p)(C:p<=512):iB 203 [K a,K b,D p]<|K<|qK a b p:=by
 have l:=h.len;have v:=y.len;exact iL (Y [.o 11<|.e<|CB a b,.c<|yJ [a,b] n U U aK<|Lx Z Z,.a (U:0<=(0:Int)/\(0:Int)<=((a.length:Int):Int)),.a (U:((88:Nat):Int)*(a.length:Int)<=281474976710656/\((a.length:Int):Int)<=9223372036854775807),.s (Sp.jL (aei a b p) 0 a.length U (λx u s=>by
    have o:=oh<|lq p (λi=>B (a.getD i L) (b.getD (x-i) L) p) 0 x;exact iU (Y [tT 20 ((x:Int)<a.length) U,.c (Ov 0 x p _ U _ _ (λi=>B (a.getD i L) (b.getD (x-i) L) p) U I C λi z t=>⟨nZ _ _ U U,aeh a b i x p U U U U h.ok y.ok I C⟩:iB 252 [D 0,D x,D p,.fn 253 [(.jE 1 λj=>[K a].getD j .any),(.jE 1 λj=>[K b].getD j .any),(.jE 1 λj=>[D x].getD j .any),(.jE 1 λj=>[D p].getD j .any)]] _),.o 27<|.e<|lM<|lq p (λi=>B (a.getD i L) (b.getD (x-i) L) p) 0 x,.a (U:(x+[lq p (λi=>B (a.getD i L) (b.getD (x-i) L) p) 0 x].length)*88<=140737488355328),
     iN ((x:Int)+1)]<|.e<|af [.b 16<|My 33 x λk=>lq p (λi=>B (a.getD i L) (b.getD (k-i) L) p) 0 k]) aI)
  (λu=>by
    exact iU (Y [tF 20 ((a.length:Int)<a.length) U,.z 16]<|.e<|af [.o 7 (.e<|AJ (wR _ _).symm:aj (.sl aa a.length 7<|jf<|lj (λk=>lq p (λi=>B (a.getD i L) (b.getD (k-i) L) p) 0 k) a.length)<|K<|lj (λk=>lq p (λi=>B (a.getD i L) (b.getD (k-i) L) p) 0 k) a.length)]) aI) aM:jK 5 f203 (aei a b p 0) (.exit 0) ⟨31,aa,[(7,.e<|K<|lj (λk=>lq p (λi=>B (a.getD i L) (b.getD (k-i) L) p) 0 k) a.length)],[]⟩)<|af [.b 16 (Ia:Bx.le (.row aa 33 0 7 λ_ j=>au.getD j .any)<|.row aa 33 0 7<|jf<|lj (λk=>lq p (λi=>B (a.getD i L) (b.getD (k-i) L) p) 0 k) 0)]]<|rR (K<|qK a b p) (.jB rfl:E.le (K<|lj (λk=>lq p (λi=>B (a.getD i L) (b.getD (k-i) L) p) 0 k) a.length)<|K<|qK a b p))
def TP{T1 T0 x:Nat}{f:Nat->List Iv->Iv}{y:Iv}(u:y=f x (jx f x)):Bx.le (.kn aa T1 T0 1 7 (λq=>if q=0 then x+[y].length else x) (λq i j=>if q=0 then(if i<x then jf (jx f x) i j else(E.lO<|K [y]) (i-x) j)else jf (jx f x) i j) am)
 (.kn aa T1 T0 1 7 (λ_=>x+1) (λ_=>jf<|jx f<|x+1) am):=by
 subst u;refine .kn rfl (λk v=>?_) (λk i j v z t=>?_)
 .obtain rfl:k=0:= U ;rfl
 .obtain rfl:k=0:= U ;refine⟨.jB ?_,tK _ _ t⟩;rw[bt rfl];have z:i<x+1:=z;by_cases h:i<x
  .rw [bt h];show(jv<|(jx f x).getD i L).getD j .any=(jv<|(jx f x++[f x<|jx f x]).getD i L).getD j .any;congr 2;simp[bB,eF<|show i<(jx f x).length by rw[zI];exact h]
  .obtain rfl:i=x:= U ;rw[bn h,dm];show(jv<|f i<|jx f i).getD j .any=(jv<|(jx f i++[f i<|jx f i]).getD i L).getD j .any;congr 2;have e:=zI f i;simp[bB,e]
def arl{T1 T0:Nat}{l:Nat->Nat}{el e:Nat->Nat->Nat->E}(h:∀ k,k<1->l k=0):Bx.le (.kn aa T1 T0 1 7 l el am)<|.kn aa T1 T0 1 7 (λ_=>0) e am:=
 .kn rfl h λk i j y x=>by rw[h k y]at x;exact absurd x<|bD i
def asM(out b:List Iv)(i k p m:Nat)(y:i<m)(h:i<=k)(R:k<b.length)(l:b.length<=17)(v:ns out)(x:ns b)(I:8<=p)(C:p<=512):iB 255 [D i,(.jE 1 λ_=>.sl aa m 7<|jf out),(.jE 1 λj=>[K b].getD j .any),(.jE 1 λj=>[D k].getD j .any),(.jE 1 λj=>[D p].getD j .any)]<|O<|B (out.getD i L) (b.getD (k-i) L) p:=by
 have z:=v i;have u:=x<|k-i;exact iL<|af [iX (i:Int) m,iN<|(k:Int)-i,.o 14<|oI ((k:Int)-i) ((k-i:Nat):Int),iX ((k-i:Nat):Int)<|b.length,.c<|uo (out.getD i L) (b.getD (k-i) L) p Z Z]
def asN(a b:List Iv)(n p:Nat)(u:1<=n)(m:n<=17)(y:kV n a)(z:kV n b)(I:8<=p)(C:p<=512):iB 204 [K a,K b,D p]<|K<|yQ a b p:=by
 have r:=y.len;have g:=z.len;have v:=z.ok 0;exact iL (Y [.o 12<|.e<|CB a b,.c<|yJ [a,b] n U U aK<|Lx Z Z,.a (U:0<=(0:Int)/\(0:Int)<=((a.length:Int):Int)),.a (U:((88:Nat):Int)*(a.length:Int)<=281474976710656/\((a.length:Int):Int)<=9223372036854775807),.s (Sp.jL (ad8 a b p) 0 a.length U (λx t d=>by
    have o:kV x<|jx (nf a b p) x:=CO x λk l _ _=>su _ _ 
    have c:(λ_:Nat=>x) 0=x:=rfl;have f:=oh<|jC (oM p (a.getD x L) (λi=>B ((jx (nf a b p) x).getD i L) (b.getD (x-i) L) p) 0 x) (b.getD 0 L) p;have s:=G9 (U:1<=p) (U:p<=4096) (y.ok x) (T:=(λi=>B ((jx (nf a b p) x).getD i L) (b.getD (x-i) L) p)) (a:=0) x λ_ _ _=>nZ _ _ U U 
    exact iU (Y [tT 21 ((x:Int)<a.length) U,iX (x:Int)<|a.length,iN<|(x:Int)-1,.c (aee _ (y.ok x) 0 x p _ U _ _ (λi=>B ((jx (nf a b p) x).getD i L) (b.getD (x-i) L) p) U I C λi u e=>⟨nZ _ _ U U,asM _ b i x p _ (U:i<x) U U U o.ok z.ok I C⟩:iB 254 [O<|a.getD x L,D 0,D<|(x:Int)-1,D p,.fn 255 [(.jE 1 λ_=>(.sl aa ((λ_=>x) 0) 7<|(λ_=>jf<|jx (nf a b p) x) 0)),(.jE 1 λh=>[K b].getD h .any),(.jE 1 λh=>[D x].getD h .any),(.jE 1 λh=>[D p].getD h .any)]] _),.a (J9 _:yE<|O<|oM p (a.getD x L) (λi=>B ((jx (nf a b p) x).getD i L) (b.getD (x-i) L) p) 0 x),.a (U:0<1),iX 0<|b.length,.c<|Cv (oM p (a.getD x L) (λi=>B ((jx (nf a b p) x).getD i L) (b.getD (x-i) L) p) 0 x) (b.getD 0 L) p Z Z,.o 39<|.e<|lM<|jC (oM p (a.getD x L) (λi=>B ((jx (nf a b p) x).getD i L) (b.getD (x-i) L) p) 0 x) (b.getD 0 L) p,.a (U:0<1),.a (U:((λ_=>x) 0+[jC (oM p (a.getD x L) (λi=>B ((jx (nf a b p) x).getD i L) (b.getD (x-i) L) p) 0 x) (b.getD 0 L) p].length)*88<=140737488355328),.a (rfl:0=0),.a (rfl:0=0),.a (U:0<1),iN<|(x:Int)+1]<|.e<|af [.b 7 (TP rfl:Bx.le (.kn aa 26 33 1 7 (λq=>if q=0 then(λ_=>x) q+[jC (oM p (a.getD x L) (λi=>B ((jx (nf a b p) x).getD i L) (b.getD (x-i) L) p) 0 x) (b.getD 0 L) p].length else(λ_=>x) q) (λq i j=>if q=0 then(if i<(λ_=>x) q then(λ_=>jf<|jx (nf a b p) x) q i j else(E.lO<|K [jC (oM p (a.getD x L) (λi=>B ((jx (nf a b p) x).getD i L) (b.getD (x-i) L) p) 0 x) (b.getD 0 L) p]) (i-(λ_=>x) q) j)else(λ_=>jf<|jx (nf a b p) x) q i j) .none)<|.kn aa 26 33 1 7 (λ_=>(x+1)) (λ_=>jf<|jx (nf a b p)<|x+1) .none)]) aI)
  (λt=>by
    exact iU (af [tF 21 ((a.length:Int)<a.length) U]) aI) aM:jK 5 f204 (ad8 a b p 0) (.exit 0) ⟨43,aa,[(7,.oe 7 1 0 0)],[(7,.kn aa 26 33 1 7 (λ_=>a.length) (λ_=>jf<|jx (nf a b p) a.length) .none)]⟩)<|af [.b 7 (arl λ_ _=>rfl:Bx.le (.kn aa 26 33 1 7 (λ_=>0) (λ_=>λ_ h=>au.getD h .any) .none)<|.kn aa 26 33 1 7 (λ_=>0) (λ_=>jf<|jx (nf a b p) 0) .none)],.a (U:0<1)]<|rR (K<|yQ a b p) (AJ (xs:=yQ a b p)<|by unfold yQ;rw[zI]:E.le (.sl aa ((λ_=>a.length) 0) 7<|(λ_=>jf<|jx (nf a b p) a.length) 0)<|K<|yQ a b p))
def aej(a b:List Iv)(p:Nat)(x:Nat):PS:=⟨31,aa,[(19,.e<|D x),(18,.e<|D a.length),(7,.own 16),(5,.box 5 0),(4,.box 4 0),(3,.box 3 0)],[(16,.row aa 33 x 7<|jf<|lj (λk=>lq p (λi=>B (a.getD i L) (b.getD (k-i) L) p) 0 k) x),(5,.cells 3 [D p]),(4,.cells 26 [K b]),(3,.cells 26 [K a])]⟩
section
variable(a:List Iv)(p k:Nat)(x:Nat)
def aem:PS:=⟨71,aa,[(39,.e<|D x),(38,.e<|D a.length),(7,.own 15),(0,.e<|K a),(1,.e<|D k),(2,.e<|D p)],[(15,.row aa 33 a.length 7<|jf<|lj (λi=>if i<x then(λi=>B (jX 0) (a.getD i L) p) i else(λi=>a.getD i L) i) a.length)]⟩
def aen:PS:=⟨71,aa,[(55,.e<|D x),(7,.own 60),(54,.e<|D<|(k:Int)-1),(0,.e<|K a),(1,.e<|D k),(2,.e<|D p)],[(60,.row aa 33 ((nd a p x).length) 7<|jf<|nd a p x)]⟩
end
noncomputable def aeb(a:List Iv)(p:Nat)(x:Nat):PS:=⟨43,aa,[(6,.box 6 0),(5,.oe 5 1 0 0),(3,.box 3 0),(2,.box 2 0)],[(6,.cells 3 [D x]),(5,.kn aa 26 33 1 7 (λ_=>x) (λ_=>jf<|jx (sP a p) x) .none),(3,.cells 3 [D p]),(2,.cells 26 [K a])]⟩
def aek(a b:List Iv)(n p:Nat)(z:1<=n)(m:n<=17)(h:kV n a)(y:kV n b)(I:8<=p)(C:p<=512):wK 203 [K a,K b,D p] aa 33 a.length 7<|jf<|qK a b p:=by
 have l:=h.len;have v:=y.len;exact UE call203 func203 (Y [.o 11<|.e<|CB a b,.c<|yJ [a,b] n U U aK<|Lx Z Z,.a (U:0<=(0:Int)/\(0:Int)<=((a.length:Int):Int)),.a (U:((88:Nat):Int)*(a.length:Int)<=281474976710656/\((a.length:Int):Int)<=9223372036854775807),.s (Sp.jL (aej a b p) 0 a.length U (λx u s=>by
    have o:=oh<|lq p (λi=>B (a.getD i L) (b.getD (x-i) L) p) 0 x;exact iU (Y [tT 20 ((x:Int)<a.length) U,.c (Ov 0 x p _ U _ _ (λi=>B (a.getD i L) (b.getD (x-i) L) p) U I C λi z t=>⟨nZ _ _ U U,aeh a b i x p U U U U h.ok y.ok I C⟩:iB 252 [D 0,D x,D p,.fn 253 [(.jE 1 λj=>[K a].getD j .any),(.jE 1 λj=>[K b].getD j .any),(.jE 1 λj=>[D x].getD j .any),(.jE 1 λj=>[D p].getD j .any)]] _),.o 27<|.e<|lM<|lq p (λi=>B (a.getD i L) (b.getD (x-i) L) p) 0 x,.a (U:(x+[lq p (λi=>B (a.getD i L) (b.getD (x-i) L) p) 0 x].length)*88<=140737488355328),
     iN ((x:Int)+1)]<|.e<|af [.b 16<|My 33 x λk=>lq p (λi=>B (a.getD i L) (b.getD (k-i) L) p) 0 k]) aI)
  (λu=>by
    exact iU (af [tF 20 ((a.length:Int)<a.length) U]) aI) aM:jK 5 f203 (aej a b p 0) (.exit 0) ⟨31,aa,[(7,.own 16)],[(16,.row aa 33 a.length 7<|jf<|lj (λk=>lq p (λi=>B (a.getD i L) (b.getD (k-i) L) p) 0 k) a.length)]⟩)<|af [.b 16 (Ia:Bx.le (.row aa 33 0 7 λ_ j=>au.getD j .any)<|.row aa 33 0 7<|jf<|lj (λk=>lq p (λi=>B (a.getD i L) (b.getD (k-i) L) p) 0 k) 0)]]<|.rb (.refl _:Bx.le (.row aa 33 a.length 7<|jf<|lj (λk=>lq p (λi=>B (a.getD i L) (b.getD (k-i) L) p) 0 k) a.length)<|.row aa 33 a.length 7<|jf<|qK a b p)) aI 
def K0{n:Nat}{xs:List Iv}{y:Iv}(h:n=xs.length):E.le (.sl aa n 7 λu k=>if u=0/\0<=k/\k<0+7 then(jv y).getD (k-0) .any else jf xs u k)<|K<|xs.set 0 y:=by
 have l:(xs.set 0 y).length=n:=by simp[h]
 unfold K;rw[l];refine .sl λi j t v=>⟨?_,tK _ _ v⟩
 by_cases z:i=0
 .subst z;rw[bt ⟨rfl,cj _,U⟩];have e:(xs.set 0 y).getD 0 L=y:=by
   cases xs with
   |nil=>simp at h;omega
   |cons x xs=>rfl
  rw[e];exact .refl _
 .rw [bn λq=>z q.1];have e:(xs.set 0 y).getD i L=xs.getD i L:=by
   simp only[bB,List.getElem?_set,bn λq:0=i=>z q.symm]
  rw[e];exact .refl _
def as6{T n x:Nat}{f g:Nat->Iv}{y:Iv}(v:y=f x):Bx.le (.row aa T n 7 λu k=>if u=x/\0<=k/\k<0+7 then(jv y).getD (k-0) .any else jf (lj (λi=>if i<x then f i else g i) n) u k)
 (.row aa T n 7<|jf<|lj (λi=>if i<x+1 then f i else g i) n):=.row rfl λi j z t=>⟨.jB (by
 subst v;by_cases h:i=x
 .subst h;rw[bt ⟨rfl,cj _,U⟩];show _=(jv<|(lj _ n).getD i L).getD j .any;rw[Dt z,bt<|fg _];rfl
 .rw [bn λq=>h q.1];show(jv<|(lj _ n).getD i L).getD j .any=(jv<|(lj _ n).getD i L).getD j .any;rw[Dt z,Dt z];by_cases q:i<x
  .rw [bt q,bt U]
  .rw [bn q,bn U]),tK _ _ t⟩
def ald(a:List Iv):lj (λi=>a.getD i L) a.length=a:=by
 apply fI<|wR _ _;intro i x h;simp[lj,bB,h]
def alc{f g:Nat->Iv}{n:Nat}(h:∀ i,i<n->f i=g i):lj f n=lj g n:=by
 unfold lj;exact fh λi x=>h i<|ca.1 x
def CD{a:List Iv}{p:Nat}:∀ k,(nd a p k).length=a.length
 | 0=>rfl
 |k+1=>by simp only[nd,qK,wR];exact CD k
section
variable(a:List Iv)(n p k:Nat)(h:1<=n)(x:n<=17)(m:kV n a)(i:8<=p)(C:p<=512)(y:k<=16)
def asV(y:k=0):iB 206 [K a,D k,D p]<|K<|qh a k p:=by
 have l:=m.len;have v:=m.ok 0;exact iL (Y [.o 11 (.e<|DU _:aj (.sl aa 1 1 λz u=>[K a].getD (z*1+u)<|.v<|.bool ac)<|kX [a]),.c<|yJ [a] n U U aK<|Db Z,.cn (IH _:wK 127 [K a] aa 33 a.length 7<|jf a),tF 18 ((k:Int)<0) U,tF 21 (16<(k:Int)) U,tE 36 (k:Int) 0,.s (Sp.jL (aem a p k) 0 a.length U (λx t g=>by
    have r:=m.ok x;have q:=zO 0;exact iU (Y [tT 40 ((x:Int)<a.length) U,.c<|Eg 0,iX (x:Int)<|a.length,.c<|uo (jX 0) (a.getD x L) p Z Z,
     iX (x:Int) (a.length),.a (U:x<a.length),iN<|(x:Int)+1]<|.e<|af [.b 15 (as6 rfl:Bx.le (.row aa 33 a.length 7 λh j=>if h=x/\0<=j/\j<0+7 then[I<|((B (jX 0) (a.getD x L) p).lo).neg,F<|iy<|((B (jX 0) (a.getD x L) p).lo).m,D<|((B (jX 0) (a.getD x L) p).lo).e,I<|((B (jX 0) (a.getD x L) p).hi).neg,F<|iy<|((B (jX 0) (a.getD x L) p).hi).m,D<|((B (jX 0) (a.getD x L) p).hi).e,I<|(B (jX 0) (a.getD x L) p).all].getD (j-0) .any else(jf<|lj (λi=>if i<x then(λi=>B (jX 0) (a.getD i L) p) i else(λi=>a.getD i L) i) a.length) h j)<|.row aa 33 a.length 7<|jf<|lj (λi=>if i<(x+1)then(λi=>B (jX 0) (a.getD i L) p) i else(λi=>a.getD i L) i) a.length)]) aI)
  (λt=>by
    exact iU (af [tF 40 ((a.length:Int)<a.length) U]) aI) aM:jK 13 f206 (aem a p k 0) (.exit 3) ⟨71,aa,[(7,.own 15),(0,.e<|K a),(1,.e<|D k),(2,.e<|D p)],[(15,.row aa 33 a.length 7<|jf<|lj (λi=>if i<a.length then(λi=>B (jX 0) (a.getD i L) p) i else(λi=>a.getD i L) i) a.length)]⟩)<|af [.b 15 (.jB<|by simp only[bD,bE,ald]:Bx.le (.row aa 33 a.length 7<|jf a)<|.row aa 33 a.length 7<|jf<|lj (λi=>if i<0 then(λi=>B (jX 0) (a.getD i L) p) i else(λi=>a.getD i L) i) a.length)],
  iN ((k:Int)-1),.u 2,tF 56 (0<((k:Int)-1)) U,iX 0<|a.length,.c<|Gj (a.getD 0 L) k p Z,
  iX 0 (a.length),.a (U:0<a.length)]<|rR (K<|qh a k p) ((K0 (wR _ _).symm).trans<|.jB<|by unfold qh CJ;rw[bt y,alc λi s=>bt s]:E.le (.sl aa a.length 7 λh j=>if h=0/\0<=j/\j<0+7 then[I<|((jO (a.getD 0 L) k p).lo).neg,F<|iy<|((jO (a.getD 0 L) k p).lo).m,D<|((jO (a.getD 0 L) k p).lo).e,I<|((jO (a.getD 0 L) k p).hi).neg,F<|iy<|((jO (a.getD 0 L) k p).hi).m,D<|((jO (a.getD 0 L) k p).hi).e,I<|(jO (a.getD 0 L) k p).all].getD (j-0) .any else(jf<|lj (λi=>if i<a.length then(λi=>B (jX 0) (a.getD i L) p) i else(λi=>a.getD i L) i) a.length) h j)<|K<|qh a k p))
def asW(h:k=1):iB 206 [K a,D k,D p]<|K<|qh a k p:=by
 have l:=m.len;have v:=m.ok 0;exact iL (Y [.o 11 (.e<|DU _:aj (.sl aa 1 1 λx y=>[K a].getD (x*1+y)<|.v<|.bool ac)<|kX [a]),.c<|yJ [a] n U U aK<|Db Z,.cn (IH _:wK 127 [K a] aa 33 a.length 7<|jf a),tF 18 ((k:Int)<0) U,tF 21 (16<(k:Int)) U,tN 36 (k:Int) 0,
  iN ((k:Int)-1),.u 2,tF 56 (0<((k:Int)-1)) U,iX 0<|a.length,.c<|Gj (a.getD 0 L) k p Z,
  iX 0 (a.length),.a (U:0<a.length)]<|rR (K<|qh a k p) ((K0 rfl).trans<|.jB<|by unfold qh CJ;rw[bn U,h];rfl:E.le (.sl aa a.length 7 λi j=>if i=0/\0<=j/\j<0+7 then[I<|((jO (a.getD 0 L) k p).lo).neg,F<|iy<|((jO (a.getD 0 L) k p).lo).m,D<|((jO (a.getD 0 L) k p).lo).e,I<|((jO (a.getD 0 L) k p).hi).neg,F<|iy<|((jO (a.getD 0 L) k p).hi).m,D<|((jO (a.getD 0 L) k p).hi).e,I<|(jO (a.getD 0 L) k p).all].getD (j-0) .any else(jf a) i j)<|K<|qh a k p))
end
def Oq{T n x:Nat}{xs:List Iv}(h:n=x):Bx.le (.row aa T n 7<|jf xs)<|.row aa T x 7<|jf xs:=.row h λi j _ k=>⟨.refl _,tK _ _ k⟩
section
variable(a:List Iv)(n p k:Nat)(h1:1<=n)(mZ:n<=17)(ha:kV n a)(iI:8<=p)(iC:p<=512)(y:k<=16)
def asX(t:2<=k):iB 206 [K a,D k,D p]<|K<|qh a k p:=by
 have l:=ha.len;have v:=ha.ok 0;have y:=CD (a:=a) (p:=p)<|k-1;exact iL (Y [.o 11 (.e<|DU _:aj (.sl aa 1 1 λh z=>[K a].getD (h*1+z)<|.v<|.bool ac)<|kX [a]),.c<|yJ [a] n U U aK<|Db Z,.cn (IH _:wK 127 [K a] aa 33 a.length 7<|jf a),tF 18 ((k:Int)<0) U,tF 21 (16<(k:Int)) U,tN 36 (k:Int) 0,
  iN ((k:Int)-1),.u 2,tT 56 (0<((k:Int)-1)) U,.cn (aek a a n p h1 mZ ha ha iI iC:wK 203 [.sl aa a.length 7<|jf a,K a,D p] aa 33 a.length 7<|jf<|qK a a p),.a (Nw _:Ep a.length 7<|jf<|qK a a p),
  iN (0+1),.k [55,7,54,0,1,2] [60],.s (Sp.jL (aen a p k) 1 (k-1) U (λx u s=>by
    have y:=CD (a:=a) (p:=p) x;exact iU (Y [tT 56 ((x:Int)<((k:Int)-1)) U,.cn (aek (nd a p x) a n p h1 mZ (NJ U U ha x) ha iI iC:wK 203 [.sl aa ((nd a p x).length) 7<|jf<|nd a p x,K a,D p] aa 33 ((nd a p x).length) 7<|jf<|qK (nd a p x) a p),.a (Nw _:Ep ((nd a p x).length) 7<|jf<|qK (nd a p x) a p),iN<|(x:Int)+1]<|.e<|af [.b 60 (Oq (xs:=(nd a p<|x+1))<|by simp only[CD]:Bx.le (.row aa 33 ((nd a p x).length) 7<|jf<|qK (nd a p x) a p)<|.row aa 33 ((nd a p<|x+1).length) 7<|jf<|nd a p<|x+1)]) aI)
  (λu=>by
    exact iU (af [tF 56 (((k-1:Nat):Int)<((k:Int)-1)) U]) aI) aM:jK 18 f206 (aen a p k 1) (.exit 5) ⟨71,aa,[(7,.own 60),(0,.e<|K a),(1,.e<|D k),(2,.e<|D p)],[(60,.row aa 33 ((nd a p<|k-1).length) 7<|jf<|nd a p<|k-1)]⟩)<|af [.o 55<|oI (0+1) 1,.b 60 (Oq (xs:=(nd a p 1))<|by simp only[CD]:Bx.le (.row aa 33 a.length 7<|jf<|qK a a p)<|.row aa 33 ((nd a p 1).length) 7<|jf<|nd a p 1)],
  iX 0 (a.length),.c<|Gj (a.getD 0 L) k p Z,iX 0<|(nd a p<|k-1).length,.a (U:0<(nd a p<|k-1).length)]<|rR (K<|qh a k p) ((K0 rfl).trans<|.jB<|by unfold qh CJ;rw[bn U]:E.le (.sl aa ((nd a p<|k-1).length) 7 λi j=>if i=0/\0<=j/\j<0+7 then[I<|((jO (a.getD 0 L) k p).lo).neg,F<|iy<|((jO (a.getD 0 L) k p).lo).m,D<|((jO (a.getD 0 L) k p).lo).e,I<|((jO (a.getD 0 L) k p).hi).neg,F<|iy<|((jO (a.getD 0 L) k p).hi).m,D<|((jO (a.getD 0 L) k p).hi).e,I<|(jO (a.getD 0 L) k p).all].getD (j-0) .any else(jf<|nd a p<|k-1) i j)<|K<|qh a k p))
def asY:iB 206 [K a,D (k:Int),D (p:Int)]<|K<|qh a k p:=by
 by_cases h:k=0
 .exact asV a n p k h1 mZ ha iI iC y h
 by_cases x:k=1
 .exact asW a n p k h1 mZ ha iI iC y x
 .exact asX a n p k h1 mZ ha iI iC y U 
end
def adm{T1 T0:Nat}{f:Nat->List Iv->Iv}{y:Iv}{e x:Nat->Nat->Nat->E}(z:y=f 0 []):Bx.le (.kn aa T1 T0 1 7 (λq=>if q=0 then 0+[y].length else 0) (λq i j=>if q=0 then(if i<0 then e q i j else(E.lO<|K [y]) (i-0) j)else x q i j) am)
 (.kn aa T1 T0 1 7 (λ_=>1) (λ_=>jf<|jx f 1) am):=by
 subst z;refine .kn rfl (λk u=>?_) (λk i j u h v=>?_)
 .obtain rfl:k=0:= U ;rfl
 .obtain rfl:k=0:= U ;rw[bt rfl]at h;have h:i<0+1:=h;obtain rfl:i=0:= U ;exact⟨.jB rfl,tK _ _ v⟩
def arn{T:Nat}{f:Nat->List Iv->Iv}{y:Iv}{e:Nat->Nat->E}(x:y=f 0 []):Bx.le (.row aa T (0+[y].length) 7 λa j=>if a<0 then e a j else(E.lO<|K [y]) (a-0) j)<|.row aa T 1 7<|jf<|jx f 1:=by
 subst x;refine .row rfl λi j h k=>?_
 have h:i<0+1:=h;obtain rfl:i=0:= U ;exact⟨.jB rfl,tK _ _ k⟩
def asO(a out:List Iv)(i k p m:Nat)(r:1<=i)(h:i<=k)(x:k<a.length)(y:k<=m)(l:a.length<=17)(v:ns a)(o:ns out)(I:8<=p)(C:p<=512):iB 260 [D i,(.jE 1 λj=>[K a].getD j .any),(.jE 1 λj=>[D p].getD j .any),(.jE 1 λ_=>.sl aa m 7<|jf out),(.jE 1 λj=>[D k].getD j .any)]<|O<|B (B (jX i) (a.getD i L) p) (out.getD (k-i) L) p:=by
 have z:=v i;have u:=o<|k-i;have t:=zO i;have s:(B (jX i) (a.getD i L) p).iE:=nZ _ _ U U;exact iL<|af [.c<|Eg i,iX (i:Int)<|a.length,.c<|uo (jX i) (a.getD i L) p Z Z,iN<|(k:Int)-i,.o 18<|oI ((k:Int)-i) ((k-i:Nat):Int),iX ((k-i:Nat):Int) m,.c<|uo (B (jX i) (a.getD i L) p) (out.getD (k-i) L) p Z Z]
def asP(a:List Iv)(n p:Nat)(z:1<=n)(m:n<=17)(y:kV n a)(I:8<=p)(C:p<=512)(F:xw):iB 207 [K a,D p]<|K<|Dq a p:=by
 have s:=y.len;have v:=y.ok 0;have Q:(λ_:Nat=>(0:Nat)) 0=0:=rfl;have e:=oh<|yU (a.getD 0 L) p;exact iL (Y [.o 9 (.e<|DU _:aj (.sl aa 1 1 λu h=>[K a].getD (u*1+h)<|.v<|.bool ac)<|kX [a]),.c<|yJ [a] n U U aK<|Db Z,.a (U:0<=(0:Int)/\(0:Int)<=((a.length:Int):Int)),.a (U:((88:Nat):Int)*(a.length:Int)<=281474976710656/\((a.length:Int):Int)<=9223372036854775807),.a (U:0<1),
  iX 0 (a.length),.c<|X2 (a.getD 0 L) Z p U U F,.o 21<|.e<|lM<|yU (a.getD 0 L) p,.a (U:0<1),.a (U:((λ_=>0) 0+[yU (a.getD 0 L) p].length)*88<=140737488355328),.a (rfl:0=0),.a (rfl:0=0),.a (U:0<1),.s (Sp.jL (aeb a p) 1 a.length U (λx t d=>by
    have c:(λ_:Nat=>x) 0=x:=rfl;have o:kV x<|jx (sP a p) x:=CO x λk l _ _=>by unfold sP;split<;>first|exact Qv _ _|exact su _ _ 
    have r:=CW (U:1<=p) (U:p<=4096) (T:=(λi=>(B (B (jX i) (a.getD i L) p) ((jx (sP a p) x).getD (x-i) L) p))) (a:=1) (x-1) λ_ _ _=>nZ _ _ U U 
    have w:=zO x;have g:=oh<|jC (lq p (λi=>(B (B (jX i) (a.getD i L) p) ((jx (sP a p) x).getD (x-i) L) p)) 1<|x-1) (jX x) p;exact iU (Y [tT 26 ((x:Int)<a.length) U,.c (Ov 1 (x-1) p _ U _ _ (λi=>(B (B (jX i) (a.getD i L) p) ((jx (sP a p) x).getD (x-i) L) p)) U I C λi z f=>⟨nZ _ _ U U,asO a _ i x p _ z U U U U y.ok o.ok I C⟩:iB 252 [D 1,D x,D p,.fn 260 [(.jE 1 λh=>[K a].getD h .any),(.jE 1 λh=>[D p].getD h .any),(.jE 1 λ_=>(.sl aa ((λ_=>x) 0) 7<|(λ_=>jf<|jx (sP a p) x) 0)),(.jE 1 λh=>[D x].getD h .any)]] _),.a (J9 _:yE<|O<|lq p (λi=>(B (B (jX i) (a.getD i L) p) ((jx (sP a p) x).getD (x-i) L) p)) 1<|x-1),.a (U:0<1),.c<|Eg x,.c<|Cv (lq p (λi=>(B (B (jX i) (a.getD i L) p) ((jx (sP a p) x).getD (x-i) L) p)) 1<|x-1) (jX x) p Z Z,.o 39<|.e<|lM<|jC (lq p (λi=>(B (B (jX i) (a.getD i L) p) ((jx (sP a p) x).getD (x-i) L) p)) 1<|x-1) (jX x) p,.a (U:0<1),.a (U:((λ_=>x) 0+[jC (lq p (λi=>(B (B (jX i) (a.getD i L) p) ((jx (sP a p) x).getD (x-i) L) p)) 1<|x-1) (jX x) p].length)*88<=140737488355328),.a (rfl:0=0),.a (rfl:0=0),.a (U:0<1),iN<|(x:Int)+1]<|.e<|af [.b 5 (TP<|by unfold sP;rw[bn U]:Bx.le (.kn aa 26 33 1 7 (λq=>if q=0 then(λ_=>x) q+[jC (lq p (λi=>(B (B (jX i) (a.getD i L) p) ((jx (sP a p) x).getD (x-i) L) p)) 1<|x-1) (jX x) p].length else(λ_=>x) q) (λq i j=>if q=0 then(if i<(λ_=>x) q then(λ_=>jf<|jx (sP a p) x) q i j else(E.lO<|K [jC (lq p (λi=>(B (B (jX i) (a.getD i L) p) ((jx (sP a p) x).getD (x-i) L) p)) 1<|x-1) (jX x) p]) (i-(λ_=>x) q) j)else(λ_=>jf<|jx (sP a p) x) q i j) .none)<|.kn aa 26 33 1 7 (λ_=>(x+1)) (λ_=>jf<|jx (sP a p)<|x+1) .none)]) aI)
  (λt=>by
    exact iU (af [tF 26 ((a.length:Int)<a.length) U]) aI) aM:jK 6 f207 (aeb a p 1) (.exit 0) ⟨43,aa,[(5,.oe 5 1 0 0)],[(5,.kn aa 26 33 1 7 (λ_=>a.length) (λ_=>jf<|jx (sP a p) a.length) .none)]⟩)<|af [.b 5 (adm rfl:Bx.le (.kn aa 26 33 1 7 (λq=>if q=0 then(λ_=>0) q+[yU (a.getD 0 L) p].length else(λ_=>0) q) (λq i j=>if q=0 then(if i<(λ_=>0) q then(λ_=>λ_ h=>au.getD h .any) q i j else(E.lO<|K [yU (a.getD 0 L) p]) (i-(λ_=>0) q) j)else(λ_=>λ_ h=>au.getD h .any) q i j) .none)<|.kn aa 26 33 1 7 (λ_=>1) (λ_=>jf<|jx (sP a p) 1) .none)],.a (U:0<1)]<|rR (K<|Dq a p) (AJ (xs:=Dq a p)<|by unfold Dq;rw[zI]:E.le (.sl aa ((λ_=>a.length) 0) 7<|(λ_=>jf<|jx (sP a p) a.length) 0)<|K<|Dq a p))
def jo(f:Nat->Rat):Nat->Rat
 | 0=>0
 |n+1=>jo f n+f n
def sI{f g:Nat->Rat}:∀ n,(∀ i,i<n->f i=g i)->jo f n=jo g n
 | 0,_=>rfl
 |n+1,h=>by rw[jo,jo,sI n λi x=>h i U,h n U]
def F3{f g:Nat->Rat}:∀ n,(∀ i,i<n->f i<=g i)->jo f n<=jo g n
 | 0,_=>cP
 |n+1,h=>by
  have x:=F3 n λi k=>h i U;have y:=h n U;rw[jo,jo];grind
def F4{f:Nat->Rat}(n:Nat)(h:∀ i,i<n->0<=f i):0<=jo f n:=by
 induction n with
 |zero=>exact cP
 |succ n x=>
  have k:=x λi y=>h i U;have z:=h n U;rw[jo];grind
def Ek(f:Nat->Rat)(c:Rat):∀ n,jo (λi=>c*f i) n=c*jo f n
 | 0=>by simp[jo]
 |n+1=>by rw[jo,jo,Ek f c n];grind
def Ij(f:Nat->Rat)(c:Rat):∀ n,jo (λi=>f i*c) n=jo f n*c
 | 0=>by simp[jo]
 |n+1=>by rw[jo,jo,Ij f c n];grind
def K2(f g:Nat->Rat):∀ n,jo (λi=>f i+g i) n=jo f n+jo g n
 | 0=>by simp only[jo];grind
 |n+1=>by rw[jo,jo,jo,K2 f g n];grind
def K3(f:Nat->Nat->Rat)(m:Nat):∀ n,jo (λi=>jo (λj=>f i j) m) n=jo (λj=>jo (λi=>f i j) n) m
 | 0=>by
  have:∀ m,jo (λ_=>(0:Rat)) m=0:=by
   intro m
   induction m with
   |zero=>rfl
   |succ m h=>rw[jo,h];grind
  exact(this m).symm
 |n+1=>by
  rw[jo,K3 f m n,<-K2];rfl
def ae6(f:Nat->Rat):∀ n,jo f (n+1)=f 0+jo (λi=>f<|i+1) n
 | 0=>by simp only[jo];grind
 |n+1=>by rw[jo,ae6 f n,jo];grind
def jM(x:Rat):Rat:=if 0<=x then x else -x
def oG(x:Rat):0<=jM x/\x<=jM x /\ -x<=jM x/\(jM x=x/\0<=x\/jM x = -x/\x<=0):=by unfold jM;split<;>grind
def BS{x b:Rat}(h:x<=b)(k:-x<=b):jM x<=b:=by unfold jM;split<;>grind
def U6(x y:Rat):jM (x+y)<=jM x+jM y:=by
 have⟨a,h,k,_⟩:=oG x;have⟨b,z,u,_⟩:=oG y;exact BS aP aP 
def BT(x y:Rat):jM (x*y)=jM x*jM y:=by
 have⟨_,_,_,a⟩:=oG x;have⟨_,_,_,b⟩:=oG y;have⟨u,_,_,c⟩:=oG<|x*y;rcases a with⟨e,h⟩|⟨e,h⟩<;>rcases b with⟨z,k⟩|⟨z,k⟩<;>rw[e,z]
 .have:=cw h k;grind
 .have:=cw h (show 0 <= -y by grind);grind
 .have:=cw (show 0 <= -x by grind) k;grind
 .have:=cw (show 0 <= -x by grind) (show 0 <= -y by grind);grind
def Gc(f:Nat->Rat):∀ n,jM (jo f n)<=jo (λi=>jM<|f i) n
 | 0=>by simp[jo,jM]
 |n+1=>by
  have h:=Gc f n;have x:=U6 (jo f n)<|f n;rw[jo,jo];grind
def U7:jM 0=0:=rfl
abbrev QM:=Nat->Nat->Rat
def sS(n:Nat)(A B:QM):QM:=λi j=>jo (λq=>A i q*B q j) n
def Bw:QM:=λi j=>if i=j then 1 else 0
def TQ(n:Nat)(M:QM)(t:Rat):Nat->QM
 | 0=>Bw
 |j+1=>λi l=>t/((j+1:Nat):Rat)*sS n (TQ n M t j) M i l
def SQ(n:Nat)(M:QM)(t:Rat):Nat->QM
 | 0=>Bw
 |j+1=>λi l=>SQ n M t j i l+TQ n M t (j+1) i l
def acb(j:Nat):(kp (j:Int)).kQ ((j:Nat):Rat):=by have:=CH (j:Int);rwa[eI]at this
section
variable {m:List<|List Iv} {h:Iv} {M:QM} {t:Rat} {n p:Nat}
def C7(n:Nat)(A:QM)(b:Rat):Prop:=∀ i,i<n->jo (λl=>jM<|A i l) n<=b
def asm{A B:QM}{a b:Rat}(_h0:0<=a)(x:0<=b)(k:C7 n A a)(y:C7 n B b):C7 n (sS n A B)<|a*b:=by
 intro i z;have e:jo (λl=>jM<|sS n A B i l) n<=jo (λl=>jo (λq=>jM (A i q)*jM (B q l)) n) n:=
  F3 n λl _=>by
   have:=Gc (λq=>A i q*B q l) n;rw[show(λq=>jM<|A i q*B q l)=λq=>jM (A i q)*jM (B q l)from funext λq=>BT _ _]at this;exact this
 rw[K3]at e;have h:jo (λq=>jo (λl=>jM (A i q)*jM (B q l)) n) n<=jo (λq=>jM (A i q)*b) n:=
  F3 n λq u=>by
   rw[Ek];exact dj (y q u) (oG _).1
 rw[Ij]at h;exact cg e<|cg h<|cO (k i z) x
def eQ(c:Rat):Nat->Rat
 | 0=>1
 |j+1=>eQ c j*(c/((j+1:Nat):Rat))
def DX(j:Nat):(0:Rat)<((j+1:Nat):Rat):=gO.2 U 
def Xk{a b:Rat}(h:0<=a)(x:0<b):0<=a/b:=by
 rw[di];exact cw h<|b9<|gR.2 x
def yR{c:Rat}(h:0<=c):∀ j,0<=eQ c j
 | 0=>by simp only[eQ];decide
 |j+1=>cw (yR h j)<|Xk h<|DX j
def at5(n i:Nat):jo (λl=>jM<|Bw i l) n<=1/\(n<=i->jo (λl=>jM<|Bw i l) n=0):=by
 induction n with
 |zero=>exact⟨by simp only[jo];grind,λ_=>rfl⟩
 |succ n x=>
  have e:jM 1=1:= aG ;simp only[jo,Bw]at x ⊢;by_cases h:i=n
  .have:=x.2 U ;rw[this,bt h,e];exact⟨aP,λk=>absurd k U⟩
  .rw [bn h,U7,Rat.add_zero];exact⟨x.1,λk=>x.2 U⟩
def asi{A:QM}{b:Rat}(h:C7 n A b){i l:Nat}(x:i<n)(k:l<n):jM (A i l)<=b:=by
 have y:=h i x;have:∀ m,l<m->jM (A i l)<=jo (λl=>jM<|A i l) m:=by
  intro m u
  induction m with
  |zero=>omega
  |succ m z=>
   rw[jo];have v:=F4 m (f:=λl=>jM<|A i l) λi _=>(oG _).1
   have t:=(oG<|A i m).1;by_cases q:l=m
   .subst q;grind
   .have:=z U;grind
 exact cg (this n k) y
end
def OH(g:Nat->Nat->Rat):∀ m,jo (λj=>jo (g j)<|m-j) m=jo (λs=>jo (λj=>g j<|s-j)<|s+1) m
 | 0=>rfl
 |m+1=>by
  have i:=OH g m;have e:jo (λj=>jo (g j)<|m+1-j) m=jo (λj=>jo (g j) (m-j)+g j (m-j)) m:=
   sI m λj k=>by rw[(U:m+1-j=m-j+1)];rfl
  have h:jo (g m) (m+1-m)=g m 0:=by
   rw[(U:m+1-m=0+1)];simp only[jo];grind
  have x:jo (λj=>g j<|m-j) (m+1)=jo (λj=>g j<|m-j) m+g m (m-m):=rfl;show jo (λj=>jo (g j)<|m+1-j) m+jo (g m) (m+1-m)=jo (λs=>jo (λj=>g j<|s-j)<|s+1) m+jo (λj=>g j<|m-j) (m+1);rw[e,K2,h,x,i,dm]
  grind
def K4{f:Nat->Rat}(h:∀ i,0<=f i){m k:Nat}(z:m<=k):jo f m<=jo f k:=by
 induction k with
 |zero=>
  have:m=0:= U ;rw[this];exact cP
 |succ k x=>
  by_cases y:m=k+1
  .rw [y];exact cP
  .have:=x U ;have:=h k;rw[jo];grind
def Ik(f:Nat->Rat)(m:Nat):∀ d,jo f (m+d)=jo f m+jo (λi=>f<|m+i) d
 | 0=>by simp only[jo,bV];grind
 |d+1=>by
  show jo f (m+d)+f (m+d)=_;rw[Ik f m d,jo];grind
def Ml(c:Rat)(j:Nat):eQ c (j+1)*((j+1:Nat):Rat)=c*eQ c j:=by
 have h:c/((j+1:Nat):Rat)*((j+1:Nat):Rat)=c:=eh (by have:=DX j;grind);simp only[eQ];grind
def LN(a b:Rat):∀ s,jo (λj=>eQ b j*eQ a (s-j)) (s+1)=eQ (a+b) s
 | 0=>by
  show 0+eQ b 0*eQ a 0=1;simp only[eQ];grind
 |s+1=>by
  have i:=LN a b s;have h:=DX s;have k:jo (λj=>eQ b j*eQ a (s+1-j)) (s+2)*((s+1:Nat):Rat)=(a+b)*eQ (a+b) s:=by
   have e:jo (λj=>eQ b j*eQ a (s+1-j)) (s+2)*((s+1:Nat):Rat)=jo (λj=>(j:Rat)*(eQ b j*eQ a (s+1-j))+eQ b j*(((s+1-j:Nat):Rat)*eQ a (s+1-j))) (s+2):=by
    rw[<-Ij];refine sI _ λj x=>?_
    have:((s+1:Nat):Rat)=(j:Rat)+((s+1-j:Nat):Rat):=by rw[<-eK];congr 1;omega
    rw[this];grind
   rw[e,K2];have u:jo (λj=>(j:Rat)*(eQ b j*eQ a (s+1-j))) (s+2)=b*eQ (a+b) s:=by
    rw[ae6,<-i,<-Ek];have z:(((0:Nat):Rat))=0:=rfl;rw[z,awz,Rat.zero_add];refine sI _ λj x=>?_
    have v:=Ml b j;rw[(U:s+1-(j+1)=s-j)]
    grind
   have t:jo (λj=>eQ b j*(((s+1-j:Nat):Rat)*eQ a (s+1-j))) (s+2)=a*eQ (a+b) s:=by
    rw[(U:s+2=(s+1)+1),jo,dm,<-i,<-Ek];have z:(((0:Nat):Rat))=0:=rfl;rw[z,awz,Rat.mul_zero,Rat.add_zero];refine sI _ λj x=>?_
    have v:=Ml a<|s-j;rw[(U:s+1-j=s-j+1)]
    grind
   rw[u,t];grind
  have r:=Ml (a+b) s;have y:jo (λj=>eQ b j*eQ a (s+1-j)) (s+2)*((s+1:Nat):Rat)=eQ (a+b) (s+1)*((s+1:Nat):Rat):=by rw[k,r]
  exact eN (fJ (by rw[y];exact cP) h)<|fJ (by rw[y];exact cP) h
def I3(c:Rat):∀ j,jM (eQ c j)=eQ (jM c) j
 | 0=>by simp only[eQ];decide
 |j+1=>by
  simp only[eQ];rw[BT,I3 c j];congr 1;rw[di,di,BT];congr 1;have:=gR.2<|DX j;unfold jM;rw[bt<|b9 this]
def yj(v:Rat):Nat->Rat
 | 0=>1
 |j+1=>yj v j*v
def acE(v:Rat)(i:Nat):∀ j,yj v (i+j)=yj v i*yj v j
 | 0=>by simp only[yj,bV];grind
 |j+1=>by
  show yj v (i+j)*v=_;rw[acE v i j,yj];grind
def acF{v:Rat}(h:0<=v):∀ j,0<=yj v j
 | 0=>by simp only[yj];decide
 |j+1=>cw (acF h j) h
def Qj(c v:Rat):∀ j,eQ (c*v) j=eQ c j*yj v j
 | 0=>by simp only[eQ,yj];grind
 |j+1=>by
  simp only[eQ,yj];rw[Qj c v j];simp only[di];grind
def Vn(q:Rat):∃ n:Nat,q<=(n:Rat):=by
 refine⟨q.ceil.toNat,?_⟩;have h:q<=(q.ceil:Rat):=Rat.le_ceil;have x:((q.ceil:Int):Rat)<=((q.ceil.toNat:Nat):Rat):=by
  rw[<-eI,iu];omega
 exact cg h x
def UA{z:Rat}{J:Nat}(h:0<=z)(x:z*2<=(J:Rat)){m:Nat}(y:J<=m):eQ z (m+1)*2<=eQ z m:=by
 have k:=yR h m;have u:=Ml z m;have p:=DX m;have Q:z*2<=((m+1:Nat):Rat):=cg x<|dO.2 U;apply fJ (c:=((m+1:Nat):Rat)) _ p;have v:=dj Q k
 grind
def UB{z:Rat}{J:Nat}(h:0<=z)(x:z*2<=(J:Rat)){m:Nat}(k:J<=m):∀ d,jo (λi=>eQ z<|m+i) d+eQ z (m+d)*2<=eQ z m*2
 | 0=>by simp only[jo,bV];grind
 |d+1=>by
  have y:=UB h x k d;have u:=UA h x (U:J<=m+d);rw[jo,(U:m+(d+1)=m+d+1)]
  grind
def afc{z:Rat}{J:Nat}(h:0<=z)(x:z*2<=(J:Rat)):∀ r:Nat,eQ z (J+r)*((2^r:Nat):Rat)<=eQ z J
 | 0=> aK 
 |r+1=>by
  have i:=afc h x r;have k:=UA h x (U:J<=J+r);have p:(0:Rat)<=((2^r:Nat):Rat):=dv;have y:=cO k p;rw[show(2^(r+1):Nat)=2^r*2 from bI _ _,dC,(U:J+(r+1)=J+r+1)];have e:((2:Nat):Rat)=2:=rfl;rw[e];grind
def afe{z h:Rat}(x:0<=z)(k:0<h):∃ u,∀ m,u<=m->∀ d,jo (λi=>eQ z<|m+i) d<=h:=by
 have⟨J,y⟩:=Vn<|z*2;have⟨r,v⟩:=Vn<|eQ z J*2/h;refine⟨J+r,λm s d=>?_⟩;obtain⟨t,rfl⟩:∃ t,m=J+t:=⟨m-J,U⟩
 have q:=UB x y (U:J<=J+t) d;have n:=afc x y t;have l:=yR x<|J+t+d;have g:=yR x<|J+t;have I:(r:Rat)<=((2^t:Nat):Rat):=dO.2<|dK<|cB (U:r<=t) Nat.lt_two_pow_self;have f:eQ z J*2<=h*((2^t:Nat):Rat):=by
  have e:eQ z J*2/h*h=eQ z J*2:=eh aP;have b:=cO (cg v I)<|b9 k
  grind
 have p:(0:Rat)<((2^t:Nat):Rat):=gO.2<|bG aG;have a:eQ z (J+t)*2<=h:=by
  apply fJ (c:=((2^t:Nat):Rat)) _ p
  grind
 grind
def MP(n:Nat)(M:QM):Nat->QM
 | 0=>Bw
 |j+1=>sS n (MP n M j) M
section
variable {n:Nat} {M:QM}
def Pg(t:Rat):∀ j i l,TQ n M t j i l=eQ t j*MP n M j i l
 | 0,i,l=>by simp only[TQ,eQ,MP];grind
 |j+1,i,l=>by
  show t/((j+1:Nat):Rat)*jo (λq=>TQ n M t j i q*M q l) n=eQ t j*(t/((j+1:Nat):Rat))*jo (λq=>MP n M j i q*M q l) n;rw[sI n λq _=>show TQ n M t j i q*M q l=eQ t j*(MP n M j i q*M q l)by rw[Pg t j i q];grind,Ek]
  grind
def Iz(t:Rat)(i l:Nat):∀ N,SQ n M t N i l=jo (λj=>eQ t j*MP n M j i l) (N+1)
 | 0=>by simp only[SQ,jo,eQ,MP];grind
 |N+1=>by
  show SQ n M t N i l+TQ n M t (N+1) i l=_;rw[Iz t i l N,Pg];rfl
def aoD(A:QM)(i:Nat){l:Nat}(k:l<n):sS n A Bw i l=A i l:=by
 have:∀ m,jo (λq=>A i q*Bw q l) m=if l<m then A i l else 0:=by
  intro m
  induction m with
  |zero=>simp[jo]
  |succ m y=>
   rw[jo,y];unfold Bw;by_cases h:l<m
   .rw [bt h,bn (U:¬m=l),bt (U:l<m+1)];grind
   .by_cases x:m=l
    .subst x;rw[bn h,bt rfl,bt (U:m<m+1)];grind
    .rw [bn h,bn x,bn (U:¬l<m+1)];grind
 unfold sS;rw[this,bt k]
def aoC(A B C:QM)(i l:Nat):sS n A (sS n B C) i l=sS n (sS n A B) C i l:=by
 unfold sS;have e:∀ q,A i q*jo (λr=>B q r*C r l) n=jo (λr=>A i q*(B q r*C r l)) n:=λq=>(Ek _ _ n).symm
 have x:∀ r,jo (λq=>A i q*B q r) n*C r l=jo (λq=>A i q*B q r*C r l) n:=λr=>(Ij _ _ n).symm
 rw[sI n λq _=>e q,sI (f:=λq=>jo (λh=>A i h*B h q) n*C q l) n λr _=>x r,K3];exact sI n λr _=>sI n λq _=> aP 
def UW(j:Nat):∀ k i l,l<n->sS n (MP n M j) (MP n M k) i l=MP n M (j+k) i l
 | 0,i,l,hl=>aoD _ i hl
 |k+1,i,l,hl=>by
  show sS n (MP n M j) (sS n (MP n M k) M) i l=sS n (MP n M<|j+k) M i l;rw[aoC];exact sI n λq h=>by rw[UW j k i q h]
def UX{v:Rat}(x:0<=v)(h:C7 n M v):∀ j,C7 n (MP n M j) (yj v j)
 | 0=>λi _=>(at5 n i).1
 |j+1=>asm (acF x j) x (UX x h j) h
def asj(n:Nat)(M:QM):∃ v,0<=v/\C7 n M v:=by
 refine⟨jo (λi=>jo (λl=>jM<|M i l) n) n,F4 n λi _=>F4 n λl _=>(oG _).1,λi h=>?_⟩;have:∀ m,i<m->jo (λl=>jM<|M i l) n<=jo (λi=>jo (λl=>jM<|M i l) n) m:=by
  intro m k
  induction m with
  |zero=>omega
  |succ m x=>
   rw[jo];have y:0<=jo (λl=>jM<|M m l) n:=F4 n λl _=>(oG _).1
   have z:0<=jo (λi=>jo (λl=>jM<|M i l) n) m:=F4 m λi _=>F4 n λl _=>(oG _).1
   by_cases q:i=m
   .subst q;grind
   .have:=x U;grind
 exact this n h
def aqe(a b:Rat)(N:Nat)(i:Nat){l:Nat}(h:l<n):sS n (SQ n M b N) (SQ n M a N) i l=jo (λj=>jo (λk=>eQ b j*eQ a k*MP n M (j+k) i l)<|N+1) (N+1):=by
 unfold sS;have e:∀ q,SQ n M b N i q*SQ n M a N q l=jo (λj=>jo (λk=>eQ b j*eQ a k*(MP n M j i q*MP n M k q l))<|N+1) (N+1):=by
  intro q;rw[Iz,Iz,<-Ij];refine sI _ λj _=>?_
  rw[<-Ek];exact sI _ λk _=> aP 
 rw[sI n λq _=>e q,K3];refine sI _ λj _=>?_
 rw[K3];refine sI _ λk _=>?_
 rw[<-UW j k i l h,Ek];rfl
def auO(a b:Rat)(N:Nat)(i l:Nat):jo (λj=>jo (λk=>eQ b j*eQ a k*MP n M (j+k) i l)<|N+1-j) (N+1)=SQ n M (a+b) N i l:=by
 rw[OH λj k=>eQ b j*eQ a k*MP n M (j+k) i l,Iz];refine sI _ λs _=>?_
 rw[<-LN,<-Ij];exact sI _ λj h=>by rw[(U:j+(s-j)=s)]
def aeR(g:Nat->Nat->Rat)(m:Nat):jo (λj=>jo (g j) m) m=jo (λj=>jo (g j)<|m-j) m+jo (λj=>jo (λk=>g j<|m-j+k) j) m:=by
 rw[<-K2];refine sI _ λj h=>?_
 rw[<-Ik,(U:m-j+j=m)]
def alR{v:Rat}(x:0<=v)(h:C7 n M v)(a b:Rat)(N:Nat){i l:Nat}(z:i<n)(y:l<n):
 jM (sS n (SQ n M b N) (SQ n M a N) i l-SQ n M (a+b) N i l)<=jo (λs=>eQ (jM a*v+jM b*v)<|N+1+s) (N+1):=by
 have u:0<=jM a*v:=cw (oG a).1 x;have t:0<=jM b*v:=cw (oG b).1 x;have w:sS n (SQ n M b N) (SQ n M a N) i l=SQ n M (a+b) N i l+jo (λj=>jo (λk=>eQ b j*eQ a (N+1-j+k)*MP n M (j+(N+1-j+k)) i l) j) (N+1):=by
  have:=aeR (λj k=>eQ b j*eQ a k*MP n M (j+k) i l)<|N+1;rw[auO,<-aqe a b N i y]at this;exact this
 have e:sS n (SQ n M b N) (SQ n M a N) i l-SQ n M (a+b) N i l=jo (λj=>jo (λk=>eQ b j*eQ a (N+1-j+k)*MP n M (j+(N+1-j+k)) i l) j) (N+1):= aP ;rw[e];have p:jM (jo (λj=>jo (λk=>eQ b j*eQ a (N+1-j+k)*MP n M (j+(N+1-j+k)) i l) j)<|N+1)<=jo (λj=>jo (λk=>eQ (jM b*v) j*eQ (jM a*v) (N+1-j+k)) j) (N+1):=by
  refine cg (Gc _ _)<|F3 _ λj _=>cg (Gc _ _)<|F3 _ λk _=>?_;rw[BT,BT,I3,I3,Qj,Qj];have r:=asi (UX x h<|j+(N+1-j+k)) z y;rw[acE]at r;have m:=yR (oG b).1 j;have g:=yR (oG a).1<|N+1-j+k;have X:=dj r<|cw m g
  grind
 refine cg p ?_;have d:jo (λj=>jo (λk=>eQ (jM b*v) j*eQ (jM a*v) k)<|N+1) (N+1)=jo (λj=>jo (λk=>eQ (jM b*v) j*eQ (jM a*v) k)<|N+1-j) (N+1)+jo (λj=>jo (λk=>eQ (jM b*v) j*eQ (jM a*v) (N+1-j+k)) j) (N+1):=
  aeR (λj k=>eQ (jM b*v) j*eQ (jM a*v) k) (N+1)
 have o:jo (λj=>jo (λk=>eQ (jM b*v) j*eQ (jM a*v) k)<|N+1-j) (N+1)=jo (λs=>eQ (jM a*v+jM b*v) s) (N+1):=by
  rw[OH λj k=>eQ (jM b*v) j*eQ (jM a*v) k];exact sI _ λs _=>LN _ _ s
 have G:∀ j k,0<=eQ (jM b*v) j*eQ (jM a*v) k:=λj k=>cw (yR t j)<|yR u k
 have q:jo (λj=>jo (λk=>eQ (jM b*v) j*eQ (jM a*v) k)<|N+1) (N+1)<=jo (λs=>eQ (jM a*v+jM b*v) s) (N+1+(N+1)):=by
  rw[<-sI (f:=λs=>jo (λj=>eQ (jM b*v) j*eQ (jM a*v) (s-j))<|s+1) _ λs _=>LN _ _ s,<-OH (λj k=>eQ (jM b*v) j*eQ (jM a*v) k)];refine cg (F3 _ λj Y=>K4 (λk=>G j k) (U:N+1<=N+1+(N+1)-j)) ?_;exact K4 (λj=>F4 _ λk _=>G j k) U 
 rw[Ik (λs=>eQ (jM a*v+jM b*v) s) (N+1)<|N+1,d,o]at q;have c:∀ A B C:Rat,A+B<=A+C->B<=C:=by intro A B C h;grind
 exact c _ _ _ q
def alS(n:Nat)(M:QM)(a b:Rat){y:Rat}(x:0<y):∃ z,∀ N,z<=N->∀ i l,i<n->l<n->jM (sS n (SQ n M b N) (SQ n M a N) i l-SQ n M (a+b) N i l)<=y:=by
 have⟨v,k,h⟩:=asj n M;have u:0<=jM a*v+jM b*v:=by
  have q:0<=jM a*v:=cw (oG a).1 k;have p:0<=jM b*v:=cw (oG b).1 k
  grind
 have⟨m,t⟩:=afe u x;exact⟨m,λN g i l s r=>cg (alR k h a b N s r)<|t (N+1) U<|N+1⟩
def af9(N:Nat)(i l:Nat):SQ n M 0 N i l=Bw i l:=by
 induction N with
 |zero=>rfl
 |succ N h=>
  show SQ n M 0 N i l+TQ n M 0 (N+1) i l=_;rw[h,Pg];simp only[eQ,di];grind
end
def rq(f:Nat->Rat)(X:Iv):Prop:=∀ h,0<h->∃ x,∀ N,x<=N->∃ r,X.kQ r/\jM (f N-r)<=h
def rq.S9{f:Nat->Rat}{X:Iv}{k:Nat}(h:∀ N,k<=N->X.kQ (f N)):rq f X:=λz x=>
 ⟨k,λN y=>⟨f N,h N y,by rw[Rat.sub_self,U7];exact b9 x⟩⟩
def rq.all{f:Nat->Rat}{X:Iv}(h:X.all=aa):rq f X:=rq.S9 (k:=0) λ_ _=>.inl h
def rq.shift{f g:Nat->Rat}{X:Iv}(h:rq f X)(k:∀ x,0<x->∃ y,∀ N,y<=N->jM (g N-f N)<=x):rq g X:=λx z=>by
 have⟨u,v⟩:=h (x/2) aP;have⟨t,s⟩:=k (x/2) aP;refine⟨max u t,λN p=>?_⟩;have⟨r,q,d⟩:=v N U;have n:=s N U;refine⟨r,q,?_⟩;have:=U6 (g N-f N)<|f N-r;rw[show g N-f N+(f N-r)=g N-r by grind]at this
 grind
def EQ(c:Rat)(N:Nat):Rat:=jo (eQ c)<|N+1
def apm(j:Nat):MP 1 (λ_ _=>1) j 0 0=1:=by
 induction j with
 |zero=>rfl
 |succ j i=>
  show jo (λq=>MP 1 (λ_ _=>1) j 0 q*1) 1=1;simp only[jo];rw[i];grind
def Lm(c:Rat)(N:Nat):SQ 1 (λ_ _=>1) c N 0 0=EQ c N:=by
 rw[Iz];exact sI _ λj _=>by rw[apm];grind
def Pb(a b:Rat){k:Rat}(h:0<k):∃ x,∀ N,x<=N->jM (EQ (a+b) N-EQ a N*EQ b N)<=k:=by
 have⟨x,y⟩:=alS 1 (λ_ _=>1) a b h;refine⟨x,λN z=>?_⟩;have:=y N z 0 0 aG aG;rw[show sS 1 (SQ 1 (λ_ _=>1) b N) (SQ 1 (λ_ _=>1) a N) 0 0=EQ a N*EQ b N by
  show jo (λq=>SQ 1 (λ_ _=>1) b N 0 q*SQ 1 (λ_ _=>1) a N q 0) 1=_;simp only[jo];rw[Lm,Lm];grind,Lm]at this
 have⟨_,u,v,_⟩:=oG<|EQ a N*EQ b N-EQ (a+b) N;exact BS aP aP 
def af1(N:Nat):EQ 0 N=1:=by
 rw[<-Lm,af9];rfl
def Vs{x:Iv}{r s:Rat}(k:x.iE)(h:x.kQ r)(y:jM s<=jM r):(tz x).kQ s:=by
 unfold tz;cases xa:x.all
 .have⟨z,u⟩:=h.kN xa;have⟨m,v,_⟩:=FA k.q;have⟨_,a,t,q⟩:=oG r;have⟨_,b,p,_⟩:=oG s;have n:jM r<=(nX x).q:= aP ;refine .inr ⟨?_,?_⟩
  .show (ji<|nX x).q<=s;rw[qM];grind
  .show s<=(nX x).q
   grind
 .rw [bt rfl];exact .inl xa
def Ix{a b:Int}(h:a<=b):P2 a<=P2 b:=by
 rw[Iy h];have x:(1:Rat)<=((2^(b-a).toNat:Nat):Rat):=by
  have:=dO.2<|Nat.one_le_two_pow (n:=(b-a).toNat);exact this
 have:=cO x<|b9<|oZ a
 grind
def OP{i:Nat}(h:i<2):i=0\/i=1:= U 
def HF1:Dy:=⟨ac,1014047155841371404857783918912611814895143950022408150448898879701903863171748812343190420115852101928445847465915947005,-398⟩
def HF2:Dy:=⟨ac,2028094311682742809715567837825223629790287900044816300897797759403807726343497624686380840231704203856891694931831894109,-399⟩
def HF:Iv:=⟨HF1,HF2,ac⟩
def after{N:Nat}(h:100<=N):∃ d,N=100+d:=⟨N-100,U⟩
def zq(k:Int):Rat×Rat:=if k%4=0 then(1,0)else if k%4=1 then(0,1)else if k%4=2 then(-1,0)else(0,-1)
def ni(r:Iv)(p:Nat):Nat->Iv
 | 0=>kp 1
 |j+1=>jC (B (ni r p j) r p) (kp ((j+1:Nat):Int)) p
def Ug(r:Iv)(p j:Nat):Iv:=if 2<=j%4 then oF (ni r p j)else ni r p j
def Ou(r:Iv)(p:Nat):Nat->Iv
 | 0=>kp 0
 |j+1=>if(j+1)%2=1 then jN (Ou r p j) (Ug r p<|j+1) p else Ou r p j
def tu(n:Int):(sk n).q=P2 n:=by unfold sk;rw[tv];simp
def zJ{r:Iv}{p:Nat}(_hr:r.iE)(i:8<=p)(C:p<=512):∀ j,(ni r p j).iE
 | 0=>FE 1 aG 
 |j+1=>su _ _ 
def asJ{r:Iv}{p:Nat}(h:r.iE)(i:8<=p)(C:p<=512)(j:Nat):(Ug r p j).iE:=by
 unfold Ug;split
 .exact DY<|zJ h i C j
 .exact zJ h i C j
def aep{r:Iv}{p:Nat}(h:r.iE)(i:8<=p)(C:p<=512):∀ j,(Ou r p j).iE
 | 0=>FE 0 aG 
 |j+1=>by
  unfold Ou;split
  .exact sN (aep h i C j) (asJ h i C _) U U 
  .exact aep h i C j
def Uj{r:Iv}{p:Nat}(k:r.iE)(i:8<=p)(C:p<=512){x:Rat}(h:r.kQ x):∀ j,j<4294967296->(ni r p j).kQ (eQ x j)
 | 0,_=>CH 1
 |j+1,hj=>by
  have e:eQ x (j+1)=eQ x j*x/((j+1:Nat):Rat):=by simp only[eQ,di];grind
  rw[e];exact Me (nZ _ _ U U) (S2 (j+1) hj) U U (SO (zJ k i C j) k U U (Uj k i C h j U) h)<|acb<|j+1
def aet{r:Iv}{p:Nat}:∀ {j d:Nat},(ni r p<|j+d).all=ac->(ni r p j).all=ac
 |_,0,h=>h
 |j,d+1,h=>by
  apply aet (d:=d);cases ha:(ni r p<|j+d).all
  .rfl
  .exfalso;have:ni r p (j+(d+1))=L:=by
    show jC (B (ni r p<|j+d) r p) _ p=_;rw[NI p<|.inl ha,IZ p<|.inl rfl]
   rw[this]at h;cases h
def ru(n:Int):Iv:=⟨ji<|sk n,sk n,ac⟩
def Gl{n:Int}{r:Rat}:(ru n).kQ r ↔ -P2 n<=r/\r<=P2 n:=by
 unfold Iv.kQ ru;simp only[bS,false_or];rw[qM,tu]
def C6{p:Nat}(h:1<=p){n:Int}(x:-1000<=n)(k:n<=1000):G p<|P2 n:=.inl ⟨1,n,by rw[yL];exact h,U,by rw[yL];omega,aK⟩
def IL{p:Nat}{S:Rat->Prop}{X:Iv}(h:Iu p S X)(x:1<=p){n:Int}(k:-1000<=n)(y:n<=1000)(s:∀ r,S r -> -P2 n<=r/\r<=P2 n):Sub X<|ru n:=by
 have⟨a,b,c⟩:=h.Bp _ _ (C6 x k y).neg (C6 x k y) s;refine .inr ⟨a,?_,?_⟩
 .show (ji<|sk n).q<=_;rw[qM,tu];exact b
 .show _<=(sk n).q;rw[tu];exact c
def U8{a b u v:Rat}(s:-u<=a)(x:a<=u)(r:-v<=b)(k:b<=v):-(u*v)<=a*b/\a*b<=u*v:=by
 have h:jM a<=u:=BS x aP;have y:jM b<=v:=BS k aP;have m:=BT a b;have z:=(oG b).1;have t:0<=u:=cg (oG a).1 h;have q:=cO h z;have p:=dj y t;have⟨_,c,n,_⟩:=oG<|a*b;constructor<;>grind
def Za(j:Nat):P2 (-(j:Int))*P2 (-1)=P2 (-((j+1:Nat):Int)):=by
 rw[<-sK];congr 1;omega
def ajB{a u:Rat}{n:Nat}(z:-u<=a)(v:a<=u):-u<=a/((n+1:Nat):Rat)/\a/((n+1:Nat):Rat)<=u:=by
 have h:=DX n;have Y:(1:Rat)<=((n+1:Nat):Rat):=by
  have:=dO (a:=1) (b:=n+1);exact this.2 U 
 have e:=eh (a:=a) (b:=((n+1:Nat):Rat)) aP;have k:0<=u:= aP ;generalize a/((n+1:Nat):Rat)=x at *
 generalize ((n+1:Nat):Rat)=c at *
 constructor
 .apply ej.1;intro i;have m:=eO i h;have y:=dj Y k
  grind
 .apply ej.1;intro i;have m:=eO i h;have y:=dj Y k
  grind
def aev{y:Iv}(z:y.iE)(h:Sub y<|ru (-1)){p:Nat}(i:8<=p)(C:p<=512):∀ j,j<=900->Sub (ni y p j) (ru (-(j:Int)))
 | 0,_=>by
  have e:(kp 1).lo.q=1/\(kp 1).hi.q=1/\(kp 1).all=ac:=aca 1;refine .inr ⟨e.2.2,?_,?_⟩
  .show (ji<|sk _).q<=_;rw[qM,tu,show(ni y p 0).lo.q=1 from e.1];decide +kernel
  .show _<=(sk _).q;rw[tu,show(ni y p 0).hi.q=1 from e.2.1];decide +kernel
 |j+1,hj=>by
  have q:=aev z h i C j U;have T:=zJ z i C j;have⟨m,_⟩:=q.As rfl;have⟨l,_⟩:=h.As rfl;have o:=SN T z m l (U:1<=p) U;have n:Sub (B (ni y p j) y p)<|ru (-((j+1:Nat):Int)):=IL o U U U (by
   rintro r ⟨a,b,u,v,rfl⟩;have⟨t,s⟩:=Gl.1<|q.kQ u;have⟨x,k⟩:=Gl.1<|h.kQ v;rw[<-Za];exact U8 t s x k)
  have g:(B (ni y p j) y p).iE:=nZ _ _ U U;have⟨f,_⟩:=n.As rfl;have d:=S2 (j+1) U;have c:nk (kp ((j+1:Nat):Int))≠0:=by rw[aph U];decide
  exact IL (Md g d f c (U:1<=p) U) U U U (by
   rintro r ⟨a,b,u,v,rfl⟩;have⟨t,s⟩:=Gl.1<|n.kQ u;have⟨x,k⟩:=v.kN rfl;have e:=aca<|j+1;rw[e.1]at x;rw[e.2.1]at k;rw[show b=((j+1:Nat):Rat)from eN k x];exact ajB t s)
def rO(x:Iv)(p:Nat):Bool:=x.all||(decide ((nX x).m=0)||decide ((nX x).iQ <= -(p:Int)))
def afp{d:Dy}(m:d.m≠0){n:Int}(h:jM d.q<=P2 n):d.iQ<=n+1:=by
 apply b8;intro i;have T:d.iQ=(H d.m:Int)+d.e:=by unfold Dy.iQ;rw[bn m]
 have b:0<H d.m:=vC.2 (by rw[cA];omega);have x:2^(H d.m-1)<=d.m:=vC.1 U;have k:((2^(H d.m-1):Nat):Rat)<=(d.m:Rat):=dO.2 x;have y:=cO k<|b9<|oZ d.e;rw[<-yG,<-sK,show((H d.m-1:Nat):Int)+d.e=d.iQ-1 by rw[T];omega]at y;have u:jM d.q=(d.m:Rat)*P2 d.e:=by
  have z:0<=(d.m:Rat)*P2 d.e:=cw dv<|b9<|oZ _;rw[sV];unfold jM;cases d.neg
  .simp only[bS,bE];rw[bt z]
  .simp only[bK];split<;>grind
 have v:=Ix (U:n+1<=d.iQ-1);have t:P2 (n+1)=P2 n*2:=by rw[sK];congr 1
 have:=oZ n
 grind
def afm{x:Iv}(z:x.iE){p:Nat}(h:Sub x<|ru (-((p+1:Nat):Int))):rO x p=aa:=by
 unfold rO;cases ha:x.all
 .by_cases v:(nX x).m=0
  .rw [bu v];rfl
  .have⟨_,k,y⟩:=h.As rfl;have⟨s,r,m⟩:=FA z.q;replace k:(ji<|sk (-((p+1:Nat):Int))).q<=x.lo.q:=k;replace y:x.hi.q<=(sk (-((p+1:Nat):Int))).q:=y;rw[qM,tu]at k;rw[tu]at y;have q:=z.q;have F:=oZ (-((p+1:Nat):Int));generalize t:P2 (-((p+1:Nat):Int))=u at *
   have l:jM (nX x).q<=u:=BS (by rcases m with m|m<;>grind) (by rcases m with m|m<;>grind);have:=afp v<|t▸l;rw[bu<|show(nX x).iQ <= -(p:Int)by omega];simp
 .rfl
def aeu{y:Iv}(h:y.all=aa)(p:Nat):ni y p 1=L:=by
 show jC (B (kp 1) y p) _ p=_;rw[NI p<|.inr h,IZ p<|.inl rfl]
def akE{y:Iv}(k:y.iE)(h:y.all=aa\/Sub y (ru (-1))){p:Nat}(i:8<=p)(C:p<=512):∃ N,1<=N/\N<=1000/\(∀ x,1<=x->x<N->rO (ni y p x) p=ac)/\rO (ni y p N) p=aa:=by
 have e:∃ x,x<900/\decide (1<=x/\rO (ni y p x) p=aa)=aa:=by
  rcases h with h|h
  .exact ⟨1,U,bu ⟨U,by rw[aeu h];rfl⟩⟩
  .exact ⟨p+1,U,bu ⟨U,afm (zJ k i C _)<|aev k h i C (p+1) U⟩⟩
 have⟨N,s,z,u⟩:=si (p:=λx=>decide (1<=x/\rO (ni y p x) p=aa)) e;have n:=cS z;refine⟨N,n.1,U,λx v t=>?_,n.2⟩;have:=fk<|u x t;cases c:rO (ni y p x) p
 .rfl
 .exact absurd ⟨v,c⟩ this
def xD(y:Iv)(p:Nat):Nat->Iv
 | 0=>kp 1
 |j+1=>jN (xD y p j) (ni y p<|j+1) p
def B3(y:Iv)(p N:Nat):Iv:=jN (xD y p N) (tz<|ni y p N) p
def GB{y:Iv}(h:y.iE){p:Nat}(i:8<=p)(C:p<=512):∀ j,(xD y p j).iE
 | 0=>FE 1 aG 
 |j+1=>sN (GB h i C j) (zJ h i C _) U U 
def akD{y:Iv}(h:y.iE){p:Nat}(i:8<=p)(C:p<=512)(N:Nat):(B3 y p N).iE:=sN (GB h i C N) (Gg<|zJ h i C N) U U 
def nL(x:Iv)(p:Nat):Iv:=if x.all then L else mc (jZ x.lo p ac) (kg x.lo p ac) (jZ x.hi p aa) (kg x.hi p aa)
def xB(a b:Iv):Iv:=if a.all||b.all then L else⟨a.lo,b.hi,ac⟩
section
variable{x:Iv}(s:x.iE){p:Nat}
def H9(h:1<=p:=by omega)(i:p<=4096:=by omega):(nL x p).iE:=by
 unfold nL;cases xa:x.all
 .have⟨c,k⟩:=s.BY;simp only[bS,bE];unfold mc;split
  .exact np
  .rename_i e;have A:=AG c h i;have B:=AH k h i;refine .inr ⟨rfl,AI _ h i _,AI _ h i _,?_⟩;rw[rN];exact cg (A.1 U).2<|cg s.q (B.1 U).2
 .exact np
def KP(k:1<=p)(i:p<=4096){r:Rat}(h:x.kQ r):(nL x p).kQ r:=by
 unfold nL;cases xa:x.all
 .have⟨c,y⟩:=s.BY;have⟨z,u⟩:=h.kN xa;simp only[bS,bE];unfold mc;split
  .exact .inl rfl
  .rename_i e;have A:=AG c k i;have B:=AH y k i;exact .inr ⟨cg (A.1 U).2 z,cg u (B.1 U).2⟩
 .exact .inl rfl
def ase(k:1<=p)(i:p<=4096){n:Int}(u:-1000<=n)(v:n<=1000)(h:Sub x<|ru n):Sub (nL x p)<|ru n:=by
 have⟨a,y,z⟩:=h.As rfl;replace y:(ji<|sk n).q<=x.lo.q:=y;replace z:x.hi.q<=(sk n).q:=z;rw[qM,tu]at y;rw[tu]at z;have⟨c,t⟩:=s.BY;have A:=(AG c k i).2 _ (C6 k u v).neg y;have B:=(AH t k i).2 _ (C6 k u v) z;unfold nL mc;rw[a];simp only[bS,bE];rw[bn U];refine .inr ⟨rfl,?_,?_⟩
 .show (ji<|sk n).q<=_;rw[qM,tu];exact A.2
 .show _<=(sk n).q;rw[tu];exact B.2
end
def anT{f g:Nat->Rat}{A B:Iv}(t:rq f A)(q:rq g B)(h:∀ x,0<x->∃ p,∀ N,p<=N->f N<=g N+x)(a:A.all=ac)(b:B.all=ac):A.lo.q<=B.hi.q:=by
 apply ej.1;intro i;obtain⟨x,u⟩:∃ x,x=(A.lo.q-B.hi.q)/4:=⟨_,rfl⟩
 have v:0<x:=by rw[u];grind
 have⟨k,n⟩:=t x v;have⟨y,m⟩:=q x v;have⟨z,l⟩:=h x v;have⟨r,e,c⟩:=n (max k<|max y z) U;have⟨s,d,j⟩:=m (max k<|max y z) U;have o:=l (max k<|max y z) U;have⟨w,X⟩:=e.kN a;have⟨Y,Z⟩:=d.kN b;have⟨_,Q,V,_⟩:=oG<|f (max k<|max y z)-r;have⟨_,T,S,_⟩:=oG<|g (max k<|max y z)-s
 grind
def af0{c:Rat}(h:0<=c)(N:Nat):1<=EQ c N:=by
 have:=K4 (f:=eQ c) (λi=>yR h i) (U:1<=N+1);have e:jo (eQ c) 1=1:=by show 0+1=1;grind
 unfold EQ;rw[e]at this;exact this
def afZ(c:Rat){z:Rat}(x:0<z):∃ y,∀ N,y<=N -> -z<=EQ c N:=by
 have⟨y,u⟩:=Pb (c/2) (c/2) x;rw[show c/2+c/2=c by grind]at u;refine⟨y,λN v=>?_⟩;have h:=u N v;have s:0<=EQ (c/2) N*EQ (c/2) N:=by
  by_cases k:0<=EQ (c/2) N
  .exact cw k k
  .have:=cw (show 0 <= -EQ (c/2) N by grind) (show 0 <= -EQ (c/2) N by grind)
   grind
 have⟨_,a,t,_⟩:=oG<|EQ c N-EQ (c/2) N*EQ (c/2) N
 grind
def afW{c:Rat}(h:0<=c):∃ M:Rat,0<M/\∀ N,EQ c N<=M:=by
 have⟨m,x⟩:=afe h (show(0:Rat)<1 by decide);have s:0<=jo (eQ c) m:=by
  have:=K4 (f:=eQ c) (λi=>yR h i)<|cj m;exact this
 refine⟨jo (eQ c) m+1,aP,λN=>?_⟩;unfold EQ;by_cases y:m<=N+1
 .obtain ⟨d,k⟩:∃ d,N+1=m+d:=⟨N+1-m,U⟩
  rw[k,Ik];have:=x m (bA _) d
  grind
 .have:=K4 (f:=eQ c) (λi=>yR h i) (U:N+1<=m)
  grind
def afY{a b:Rat}(h:a<=b){k:Rat}(u:0<k):∃ s,∀ N,s<=N->EQ a N<=EQ b N+k:=by
 have d:0<=b-a:= aP ;have⟨r,t⟩:=Pb a (b-a) (show 0<k/2 by grind);rw[show a+(b-a)=b by grind]at t;obtain⟨M,w,q⟩:∃ M:Rat,0<M/\∀ N,EQ (b-a) N<=M:=afW d;obtain⟨p,n⟩:=afZ a (show 0<k/(2*M)by rw[di];exact eJ u<|gR.2 aP);refine⟨max r p,λN m=>?_⟩;have l:=t N U;have g:=n N U;have e:k/(2*M)*M=k/2:=by
  have:=eh (a:=k) (b:=2*M) aP 
  grind
 have f:=af0 d N;have c:=q N;have⟨_,j,o,_⟩:=oG<|EQ b N-EQ a N*EQ (b-a) N;generalize EQ a N=x at *
 generalize EQ (b-a) N=y at *
 generalize EQ b N=z at *
 generalize k/(2*M)=δ at *
 have X:=cw (show 0<=x+δ by grind) (show 0<=y-1 by grind);have v:0<=δ:=by
  apply ej.1;intro i;have:=eO i w
  grind
 have Y:=dj (show y-1<=M by grind) v
 grind
def XW{y:Iv}{r:Rat}(x:y.iE)(h:y.kQ r){p:Nat}(i:8<=p)(C:p<=512):∀ j,j<4294967296->(xD y p j).kQ (EQ r j)
 | 0,_=>by
  have:EQ r 0=1:=by unfold EQ;simp only[jo,eQ];grind
  rw[this];exact CH 1
 |j+1,hj=>Es (GB x i C j) (zJ x i C<|j+1) U U (XW x h i C j U)<|Uj x i C h (j+1) hj
def akA{y:Iv}(h:y.all=aa){p N:Nat}(x:1<=N):(B3 y p N).all=aa:=by
 have t:(ni y p N).all=aa:=by
  cases hc:(ni y p N).all
  .obtain ⟨d,rfl⟩:∃ d,N=1+d:=⟨N-1,U⟩
   have:=aet hc;rw[aeu h]at this;cases this
  .rfl
 unfold B3;rw[Lu p<|.inr<|by unfold tz;rw[t];simpa using t];rfl
section
variable{y:Iv}{r:Rat}(n:y.iE)(h:y.kQ r)
def akB(x:jM r*2<=1){p:Nat}(I:8<=p)(C:p<=512){N:Nat}(k:1<=N)(v:N<=1000)(M:Nat)(u:N<=M):(B3 y p N).kQ<|EQ r M:=by
 obtain⟨d,rfl⟩:∃ d,M=N+d:=⟨M-N,U⟩
 have e:EQ r (N+d)=EQ r N+jo (λi=>eQ r<|N+1+i) d:=by
  unfold EQ;rw[(U:N+d+1=N+1+d),Ik]
 have z:=(oG r).1;have t:=UB z (J:=1) (by exact x) (U:1<=N+1) d;have s:=yR z<|N+1+d;have b:jM (jo (λi=>eQ r<|N+1+i) d)<=jo (λi=>eQ (jM r)<|N+1+i) d:=by
  have:=Gc (λi=>eQ r<|N+1+i) d;rwa[sI d λi _=>I3 r<|N+1+i]at this
 have q:eQ (jM r) (N+1)*2<=eQ (jM r) N:=UA z (J:=1) (by exact x) (U:1<=N);rw[e];refine Es (GB n I C N) (Gg<|zJ n I C N) U U (XW n h I C N U)<|Vs (zJ n I C N) (Uj n I C h N U) ?_;rw[I3];grind
def akC(z:y.all=aa\/Sub y (ru (-1))){p:Nat}(i:8<=p)(C:p<=512){N:Nat}(u:1<=N)(v:N<=1000):rq (EQ r)<|B3 y p N:=by
 rcases z with z|z
 .exact rq.all<|akA z u
 .refine rq.S9 (k:=N) λM t=>akB n h ?_ i C u v M t
  have⟨s,q⟩:=Gl.1<|z.kQ h;have e:P2 (-1)=1/2:= aQ ;rw[e]at s q;have:=BS (x:=r) (b:=1/2) aP aP 
  grind
end
def qO(x:Iv)(p:Nat):Iv:=if(jG x).all then L else mc (jZ (ml (jG x).lo (jG x).lo) p ac) (kg (ml (jG x).lo (jG x).lo) p ac) (jZ (ml (jG x).hi (jG x).hi) p aa) (kg (ml (jG x).hi (jG x).hi) p aa)
def U5{x:Iv}(a:x.all=ac):0<=(jG x).lo.q:=by
 unfold jG;rw[a];show 0<=(pk x).q;unfold pk;split
 .rw [uA];exact cP
 .have⟨_,_,m⟩:=FK (mF x.lo)<|mF x.hi;rcases m with m|m<;>rw[m]
  .exact (CK x.lo).1
  .exact (CK x.hi).1
def Da(x:Iv):(jG x).all=x.all:=by unfold jG;cases h:x.all<;>simp[h,L]
section
variable{x:Iv}(f:x.iE){p:Nat}(g:1<=p)(i:p<=4096)
def Ut{r:Rat}(h:x.kQ r):(qO x p).kQ<|r*r:=by
 unfold qO;rw[Da];cases xa:x.all
 .simp only[bS,bE];obtain⟨s,t,k,e⟩:∃ s,(jG x).kQ s/\0<=s/\r*r=s*s:=by
   by_cases u:0<=r
   .exact ⟨r,Ls f h<|.inl ⟨rfl,u⟩,u,rfl⟩
   .exact ⟨-r,Ls f h<|.inr ⟨rfl,aP⟩,aP,aP⟩
  have l:=U5 xa;have a:(jG x).all=ac:=by rw[Da];exact xa
  have⟨v,y⟩:=t.kN a;rw[e];unfold mc;split
  .exact .inl rfl
  .rename_i n;have A:=AG (Di (jG x).lo (jG x).lo) g i;have B:=AH (Di (jG x).hi (jG x).hi) g i;rw[Hq]at A B;have q:=(A.1 U).2;have b:=(B.1 U).2;refine .inr ⟨?_,?_⟩
   .have m:=cO v l;have z:=dj v k;show _<=s*s;exact cg q<|cg m<|by rw[gQ s];rw[gQ (jG x).lo.q s];exact z
   .have m:=cO y k;have z:=dj y<|cg k y;exact cg (cg m z) b
 .exact .inl rfl
def OD:(qO x p).iE:=by
 cases xa:x.all
 .have h:=Ut f g i f.Dx;unfold qO at h ⊢;rw[Da,xa]at h ⊢;simp only[bS,bE]at h ⊢;unfold mc at h ⊢;split
  .exact np
  .rename_i e;rw[bn e]at h;have⟨k,y⟩:=h.kN rfl;refine .inr ⟨rfl,AI _ g i _,AI _ g i _,?_⟩;rw[rN];exact cg k y
 .unfold qO;rw[Da,xa];exact np
end
def rq.sqr{f:Nat->Rat}{X:Iv}(n:X.iE)(h:rq f X){p:Nat}(m:1<=p)(i:p<=4096):rq (λN=>f N*f N)<|qO X p:=by
 cases xa:X.all
 .intro z u;obtain⟨B,o⟩:∃ B,B=jM X.lo.q+jM X.hi.q+1:=⟨_,rfl⟩
  have w:=oG X.lo.q;have Y:=oG X.hi.q;have l:1<=B:= aP ;have Q:0<2*B:= aP ;obtain⟨x,k⟩:∃ x,x=min 1 (z/(2*B)):=⟨_,rfl⟩
  have v:0<z/(2*B):=by rw[di];exact eJ u<|gR.2 Q
  have y:0<x:=by rw[k];grind
  have t:x<=1:=by rw[k];grind
  have s:x*(2*B)<=z:=by
   have g:x<=z/(2*B):=by rw[k];grind
   have e:=cO g<|b9 Q;rwa[eh aP]at e
  have⟨d,c⟩:=h x y;refine⟨d,λN b=>?_⟩;have⟨r,q,a⟩:=c N b;refine⟨r*r,Ut n m i q,?_⟩;have⟨Z,U⟩:=q.kN xa;rw[show f N*f N-r*r=(f N-r)*(f N+r)by grind,BT];have j:jM (f N+r)<=2*B:=by
   have⟨_,V,T,_⟩:=oG<|f N-r;exact BS aP aP 
  have S:=dj j (oG<|f N-r).1;have R:=cO a<|b9 Q
  grind
 .exact rq.all<|by unfold qO;rw[Da,xa];rfl
def afX(r:Rat):∀ h,0<h->∃ k,∀ N,k<=N->jM (EQ r N-EQ (r*P2 (-1)) N*EQ (r*P2 (-1)) N)<=h:=by
 intro h x;have e:r*P2 (-1)+r*P2 (-1)=r:=by
  have:P2 (-1)=1/2:= aQ ;rw[this];grind
 have:=Pb (r*P2 (-1)) (r*P2 (-1)) x;rwa[e]at this
def anS{r:Rat}{X:Iv}(x:X.iE)(h:rq (EQ<|r*P2 (-1)) X){p:Nat}(k:1<=p)(i:p<=4096):rq (EQ r)<|qO X p:=(h.sqr x k i).shift<|afX r
def asI{y:Iv}{n:Int}(h:Sub y<|ru n):(nM y (-1)).all=aa\/Sub (nM y (-1)) (ru<|n-1):=by
 have⟨a,k,x⟩:=h.As rfl;replace k:(ji<|sk n).q<=y.lo.q:=k;replace x:y.hi.q<=(sk n).q:=x;rw[qM,tu]at k;rw[tu]at x;unfold nM mc;rw[a];simp only[bS,bE];split
 .exact .inl rfl
 .rename_i z;have e:P2 (n-1)=P2 n*P2 (-1):=by rw[<-sK];congr 1
  refine .inr<|.inr ⟨rfl,?_,?_⟩
  .show (ji<|sk<|n-1).q<=(wF y.lo (-1)).q;rw[qM,tu,Ef,e,<-ix,zp];exact k
  .show (wF y.hi (-1)).q<=(sk<|n-1).q;rw[tu,Ef,e,zp];exact x
def wN(z:Rat)(k:Nat):Rat:=pz z (2*k+1)/((2*k+1:Nat):Rat)
def AQ(z:Rat)(N:Nat):Rat:=jo (wN z)<|N+1
def qJ(z:Iv)(p:Nat):Nat->Iv
 | 0=>z
 |k+1=>B (qJ z p k) (qO z p) p
def zi(z:Iv)(p:Nat):Nat->Iv
 | 0=>z
 |k+1=>jN (zi z p k) (jC (qJ z p<|k+1) (kp ((2*k+3:Nat):Int)) p) p
noncomputable def Ha(z:Iv)(p N:Nat):Iv:=nM (jN (zi z p N) (tz<|qJ z p N) p) 1
def Bq{z:Iv}(h:z.iE){p:Nat}(i:8<=p)(C:p<=512):∀ k,(qJ z p k).iE
 | 0=>h
 |_+1=>nZ _ _ U U 
def Fy{z:Iv}(h:z.iE){p:Nat}(i:8<=p)(C:p<=512):∀ k,(zi z p k).iE
 | 0=>h
 |k+1=>sN (Fy h i C k) (su _ _) U U 
def anQ{z:Iv}(h:z.iE){p:Nat}(i:8<=p)(C:p<=512)(N:Nat):(Ha z p N).iE:=KX (sN (Fy h i C N) (Gg<|Bq h i C N) U U) 1
def T7(r:Rat)(k:Nat):pz r (2*(k+1)+1)=pz r (2*k+1)*(r*r):=by
 show pz r (2*k+1)*r*r=_
 grind
def Sx{z:Iv}{r:Rat}(x:z.iE)(h:z.kQ r){p:Nat}(i:8<=p)(C:p<=512):∀ k,(qJ z p k).kQ (pz r<|2*k+1)
 | 0=>by
  have e:pz r (2*0+1)=r:=by show 1*r=r;grind
  rw[e];exact h
 |k+1=>by
  rw[T7];exact SO (Bq x i C k) (OD x U U) U U (Sx x h i C k)<|Ut x U U h
def aaW{z:Iv}{r:Rat}(x:z.iE)(h:z.kQ r){p:Nat}(i:8<=p)(C:p<=512):∀ k,k<1000000->(zi z p k).kQ (AQ r k)
 | 0,_=>by
  have e:AQ r 0=r:=by
   show 0+1*r/((2*0+1:Nat):Rat)=r;have:((2*0+1:Nat):Rat)=1:=rfl;rw[this,di,show(1:Rat)⁻¹=1 by decide +kernel];grind
  rw[e];exact h
 |k+1,hk=>Es (Fy x i C k) (su _ _) U U (aaW x h i C k U)
  (Me (Bq x i C<|k+1) (S2 (2*k+3) U) U U (Sx x h i C<|k+1)<|acb<|2*k+3)
def Pm(r:Rat):∀ n,jM (pz r n)=pz (jM r) n
 | 0=>by show jM 1=1;decide +kernel
 |n+1=>by simp only[pz];rw[BT,Pm r n]
def agd(r:Rat)(k:Nat):jM (wN r k)<=pz (jM r) (2*k+1):=by
 unfold wN;have h:(0:Rat)<((2*k+1:Nat):Rat):=DX<|2*k;have y:(1:Rat)<=((2*k+1:Nat):Rat):=by
  have:=dO (a:=1) (b:=2*k+1);exact this.2 U 
 have z:=FW (oG r).1<|2*k+1;rw[di,BT,Pm];have i:=gR.2 h;have e:jM (((2*k+1:Nat):Rat)⁻¹)=((2*k+1:Nat):Rat)⁻¹:=by unfold jM;rw[bt<|b9 i]
 rw[e,<-di];have u:=Xk z h;have c:=eh (a:=pz (jM r)<|2*k+1) (b:=((2*k+1:Nat):Rat)) aP;generalize pz (jM r) (2*k+1)/((2*k+1:Nat):Rat)=x at *
 have:=dj y u
 grind
def Vz{r:Rat}(h:jM r*2<=1)(N:Nat):∀ d,jo (λi=>jM<|wN r<|N+1+i) d+pz (jM r) (2*(N+d)+1)<=pz (jM r) (2*N+1)
 | 0=>by simp only[jo,bV];grind
 |d+1=>by
  have z:=Vz h N d;have x:=agd r<|N+1+d;have e:2*(N+1+d)+1=2*(N+d+1)+1:= U ;rw[e,T7]at x;have k:2*(N+(d+1))+1=2*(N+d+1)+1:= U ;rw[k,T7,jo];have y:=FW (oG r).1<|2*(N+d)+1;have t:=(oG r).1;have s:jM r*jM r*4<=1:=by
   have m:=dj h<|show 0<=jM r*2 by grind
   grind
  generalize pz (jM r) (2*(N+d)+1)=u at *
  generalize jM r*jM r=v at *
  have q:=dj s y
  grind
def anP{z:Iv}{r:Rat}(x:z.iE)(h:z.kQ r)(k:jM r*2<=1){p:Nat}(I:8<=p)(C:p<=512){N:Nat}(u:N<=1000):∀ M,N<=M->(Ha z p N).kQ (AQ r M*2):=by
 intro M v;obtain⟨d,rfl⟩:∃ d,M=N+d:=⟨M-N,U⟩
 have e:AQ r (N+d)=AQ r N+jo (λi=>wN r<|N+1+i) d:=by
  unfold AQ;rw[(U:N+d+1=N+1+d),Ik]
 have t:=Vz k N d;have b:=Gc (λi=>wN r<|N+1+i) d;have s:=FW (oG r).1<|2*(N+d)+1;have y:P2 1=2:= aQ ;rw[<-y,e];refine Uf (Es (Fy x I C N) (Gg<|Bq x I C N) U U (aaW x h I C N U)<|Vs (Bq x I C N) (Sx x h I C N) ?_) 1;rw[Pm];grind
def atE{z:Iv}(x:z.iE)(h:Sub z<|ru (-1)){p:Nat}(i:8<=p)(C:p<=512):Sub (qO z p)<|ru (-1):=by
 have⟨a,k,y⟩:=h.As rfl;replace k:(ji<|sk (-1)).q<=z.lo.q:=k;replace y:z.hi.q<=(sk (-1)).q:=y;have e:P2 (-1)=1/2:= aQ ;rw[qM,tu,e]at k;rw[tu,e]at y;have l:=U5 a;have v:(jG z).iE:=IC x;have q:=v.q;have t:(jG z).hi.q<=1/2:=by
  unfold jG;rw[a];show(nX z).q<=1/2;have⟨_,_,m⟩:=FA x.q;have:=x.q;rcases m with m|m<;>grind
 have G:=C6 (p:=p) U (n:=-1) aG aG;have A:=AG (Di (jG z).lo (jG z).lo) (p:=p) U U;have B:=AH (Di (jG z).hi (jG z).hi) (p:=p) U U;rw[Hq]at A B;rw[e]at G;have j:0<=(jG z).lo.q*(jG z).lo.q:=cw l l;have u:(jG z).hi.q*(jG z).hi.q<=1/2:=by
  have s:0<=(jG z).hi.q:=cg l q;have m:=dj t s
  grind
 have r:=A.2 (-(1/2)) G.neg aP;have b:=B.2 (1/2) G u;unfold qO mc;rw[Da,a];simp only[bS,bE];rw[bn U];refine .inr ⟨rfl,?_,?_⟩
 .show (ji<|sk (-1)).q<=_;rw[qM,tu,e];exact r.2
 .show _<=(sk (-1)).q;rw[tu,e];exact b.2
def aaV{z:Iv}(x:z.iE)(h:Sub z<|ru (-1)){p:Nat}(i:8<=p)(C:p<=512):∀ k,k<=900->Sub (qJ z p k) (ru (-((k+1:Nat):Int)))
 | 0,_=>h
 |k+1,hk=>by
  have y:=aaV x h i C k U;have s:=atE x h i C;have v:=Bq x i C k;have⟨t,_⟩:=y.As rfl;have⟨u,_⟩:=s.As rfl;exact IL (SN v (OD x U U) t u (U:1<=p) U) U U U (by
   rintro r ⟨a,b,q,n,rfl⟩;have⟨m,l⟩:=Gl.1<|y.kQ q;have⟨g,f⟩:=Gl.1<|s.kQ n;rw[<-Za];exact U8 m l g f)
def anR{z:Iv}(k:z.iE)(h:z.all=aa\/Sub z (ru (-1))){p:Nat}(i:8<=p)(C:p<=512):∃ N,N<=1000/\(∀ x,x<N->rO (qJ z p x) p=ac)/\rO (qJ z p N) p=aa:=by
 have e:∃ x,x<900/\rO (qJ z p x) p=aa:=by
  rcases h with h|h
  .exact ⟨0,U,by show rO z p=aa;unfold rO;rw[h];rfl⟩
  .exact ⟨p,U,afm (Bq k i C _)<|aaV k h i C p U⟩
 have⟨N,u,n,y⟩:=si e;exact⟨N,U,y,n⟩
def agC{a b:Rat}(h:a<=b)(k:Nat):wN a k<=wN b k:=by
 unfold wN;rw[di,di];exact cO (T6 U h)<|b9<|gR.2<|DX<|2*k
def Lj{a b:Rat}(h:a<=b)(N:Nat):AQ a N<=AQ b N:=F3 _ λk _=>agC h k
def KE{d:Dy}(h:d.m≠0):jM d.q<P2 d.iQ:=by
 have T:d.iQ=(H d.m:Int)+d.e:=by unfold Dy.iQ;rw[bn h]
 have k:(d.m:Rat)<((2^H d.m:Nat):Rat):=Rat.natCast_lt_natCast.2<|qW d.m;have x:=eO k<|oZ d.e;rw[<-yG,<-sK]at x;have y:0<=(d.m:Rat)*P2 d.e:=cw dv<|b9<|oZ _;have z:jM d.q=(d.m:Rat)*P2 d.e:=by
  rw[sV];unfold jM;cases d.neg
  .simp only[bS,bE];rw[bt y]
  .simp only[bK];split<;>grind
 rw[z,T];exact x
def TA{d:Dy}(h:d.m≠0):P2 (d.iQ-1)<=jM d.q:=by
 have T:d.iQ=(H d.m:Int)+d.e:=by unfold Dy.iQ;rw[bn h]
 have b:0<H d.m:=vC.2 (by rw[cA];omega);have k:2^(H d.m-1)<=d.m:=vC.1 U;have y:((2^(H d.m-1):Nat):Rat)<=(d.m:Rat):=dO.2 k;have x:=cO y<|b9<|oZ d.e;rw[<-yG,<-sK,show((H d.m-1:Nat):Int)+d.e=d.iQ-1 by rw[T];omega]at x;have z:jM d.q=(d.m:Rat)*P2 d.e:=by
  have u:0<=(d.m:Rat)*P2 d.e:=cw dv<|b9<|oZ _;rw[sV];unfold jM;cases d.neg
  .simp only[bS,bE];rw[bt u]
  .simp only[bK];split<;>grind
 rw[z];exact x
def Ho{d:Dy}(h:0<d.q):d.m≠0:=λe=>by
 have:d.q=0:=by rw[sV,e];simp
 grind
def Lt{r:Rat}(h:0<r):jM r=r:=by unfold jM;rw[bt<|b9 h]
def zo(d:Dy):Rat:=d.q*P2 (-d.iQ)
def C5(d:Dy):Rat:=(zo d-1)/(zo d+1)
def UY(k:Int):P2 k*P2 (-k)=1:=by rw[<-sK,(U:k + -k=0),Pd]
def abA{d:Dy}(h:0<d.q):1/2<=zo d/\zo d<1:=by
 have x:=TA<|Ho h;have k:=KE<|Ho h;rw[Lt h]at x k;have p:=oZ (-d.iQ);have e:=UY d.iQ;have y:P2 (d.iQ-1)*P2 (-d.iQ)=1/2:=by
  rw[<-sK,(U:d.iQ-1 + -d.iQ = -1)];decide +kernel
 have m:=cO x<|b9 p;have z:=eO k p;unfold zo;constructor<;>grind
def QB{a b:Rat}(u:0<=a)(h:a<=b):(a-1)/(a+1)<=(b-1)/(b+1):=by
 have k:0<a+1:= aP ;have z:0<b+1:= aP ;have e:=eh (a:=a-1) (b:=a+1) aP;have v:=eh (a:=b-1) (b:=b+1) aP;generalize (a-1)/(a+1)=x at *
 generalize (b-1)/(b+1)=y at *
 apply ej.1;intro i;have m:=eO i k;have t:y<1:=by
  apply Rat.not_le.1;intro l;have:=cO l<|b9 z
  grind
 have s:=dj h<|show 0<=1-y by grind
 grind
def UR{d:Dy}(h:0<d.q):-(1/3)<=C5 d/\C5 d<=0:=by
 have⟨x,k⟩:=abA h;have a:=QB (show(0:Rat)<=1/2 by decide +kernel) x;have b:=QB (show 0<=zo d by grind)<|b9 k;have e:((1:Rat)/2-1)/(1/2+1) = -(1/3):= aQ ;have y:((1:Rat)-1)/(1+1)=0:= aQ ;rw[e]at a;rw[y]at b;exact⟨a,b⟩
def Pa(z:Rat)(N:Nat):AQ (-z) N = -AQ z N:=by
 have:∀ n,jo (wN (-z)) n = -jo (wN z) n:=by
  intro n
  induction n with
  |zero=>simp[jo]
  |succ n i=>
   rw[jo,jo,i];have:wN (-z) n = -wN z n:=by
    unfold wN;rw[FV,bn U];simp only[di];grind
   rw[this];grind
 exact this _
def US(N:Nat):AQ 0 N=0:=by
 have:=Pa 0 N;rw[show -(0:Rat)=0 by decide +kernel]at this
 grind
def afV(N:Nat):0<=AQ (1/3) N:=by
 have:=Lj (show(0:Rat)<=1/3 by decide +kernel) N;rwa[US]at this
def LQ(d:Dy)(N:Nat):Rat:=AQ (C5 d) N*2+(d.iQ:Rat)*(AQ (1/3) N*2)
section
variable{a b:Dy}(n:0<a.q)(h:a.q<=b.q)
def auK:a.iQ<=b.iQ:=by
 have h:0<b.q:= aP ;have x:=TA<|Ho n;have k:=KE<|Ho h;rw[Lt n]at x;rw[Lt h]at k;apply b8;intro i;have:=Ix (U:b.iQ<=a.iQ-1)
 grind
def af4(N:Nat):LQ a N<=LQ b N:=by
 have x:0<b.q:= aP ;have t:=auK n h;have⟨r,k⟩:=UR n;have⟨y,q⟩:=UR x;have c:=afV N;unfold LQ;rcases Int.lt_or_eq_of_le t with i|e
 .have z:=Lj k N;rw[US]at z;have u:=Lj y N;rw[Pa]at u;have v:(a.iQ:Rat)+1<=(b.iQ:Rat):=by
   have:=iu (a:=a.iQ+1) (b:=b.iQ);have:=this.2 U;rwa[Rat.intCast_add]at this
  have p:=cO v<|show 0<=AQ (1/3) N*2 by grind
  grind
 .have m:zo a<=zo b:=by
   unfold zo;rw[e];exact cO h<|b9<|oZ _
  have s:C5 a<=C5 b:=QB (by have:=(abA n).1;grind) m;have:=Lj s N;rw[e]
  grind
end
def af5(N:Nat):LQ ⟨ac,1,0⟩ N=0:=by
 have e:C5 ⟨ac,1,0⟩ = -(1/3):= aQ ;have h:((⟨ac,1,0⟩:Dy).iQ:Rat)=1:= aQ ;unfold LQ;rw[e,h,Pa];grind
noncomputable def xh(d:Dy)(p:Nat):Iv:=nM (nL (lp d) p) (-d.iQ)
noncomputable def Hc(d:Dy)(p:Nat):Iv:=jC (jN (xh d p) (kp (-1)) p) (jN (xh d p) (kp 1) p) p
section
variable{d:Dy}(o:d.iE)
def afq(h:d.m≠0):-16384<=d.iQ-1/\d.iQ<=16384:=by
 have T:d.iQ=(H d.m:Int)+d.e:=by unfold Dy.iQ;rw[bn h]
 have b:0<H d.m:=vC.2 (by rw[cA];omega);have x:=o.range;unfold oL at x;have k:=o.exp;constructor
 .omega
 .rw [T]
  first|omega|(rcases x with x|x<;>first|omega|exact absurd x h)
def asf(h:0<d.q){p:Nat}(i:8<=p)(C:p<=512)(a:(nL (lp d) p).all=ac):P2 (d.iQ-1)<=(nL (lp d) p).lo.q/\(nL (lp d) p).hi.q<=P2 d.iQ:=by
 have x:=Ho h;have⟨t,l⟩:=afq o x;have q:=TA x;have k:=KE x;rw[Lt h]at q k;have A:=AG o.canon (p:=p) U U;have B:=AH o.canon (p:=p) U U;have u:G p<|P2<|d.iQ-1:=.inl ⟨1,d.iQ-1,by rw[yL];omega,t,by rw[yL];omega,aK⟩;have v:¬(kg d p ac≠0\/kg d p aa≠0):=by
  intro c;unfold nL mc at a;rw[show(lp d).all=ac from rfl]at a;simp only[bS,bE]at a;rw[bt<|show kg (lp d).lo p ac≠0\/kg (lp d).hi p aa≠0 from c]at a;cases a
 have y:(nL (lp d) p).lo=jZ d p ac/\(nL (lp d) p).hi=jZ d p aa:=by
  unfold nL mc;rw[show(lp d).all=ac from rfl];simp only[bS,bE];rw[bn<|show ¬(kg (lp d).lo p ac≠0\/kg (lp d).hi p aa≠0)from v];exact⟨rfl,rfl⟩
 rw[y.1,y.2];refine⟨(A.2 _ u q).2,?_⟩;by_cases f:d.iQ<=16383
 .have s:G p<|P2 d.iQ:=.inl ⟨1,d.iQ,by rw[yL];omega,U,by rw[yL];omega,aK⟩;exact(B.2 _ s<|b9 k).2
 .have⟨g,_⟩:=B.1 U ;have Z:0<=(jZ d p aa).q:=cg (b9 h) (B.1 U).2;have⟨m,e,b,_,j,r⟩:=g.pos Z;rw[r];have n:(m:Rat)<=((2^H m:Nat):Rat):=dO.2<|dK<|qW m;have z:=cO n<|b9<|oZ e;rw[<-yG,<-sK]at z;exact cg z<|Ix U
section
variable{p:Nat}(i:8<=p)(C:p<=512)
def aoa:(xh d p).kQ<|zo d:=Uf (KP (vH o) U U<|Tw d) _
def aoc:(xh d p).iE:=KX (H9<|vH o) _
end
def aob(h:0<d.q){p:Nat}(i:8<=p)(C:p<=512)(a:(xh d p).all=ac):1/2<=(xh d p).lo.q/\(xh d p).hi.q<=1:=by
 unfold xh nM at a ⊢;cases ra:(nL (lp d) p).all
 .rw [ra]at a;have⟨x,k⟩:=asf o h i C ra;simp only[bS,bE]at a ⊢;unfold mc at a ⊢;split
  .rename_i e;rw[bt e]at a;cases a
  .rename_i e;have y:=UY d.iQ;have z:P2 (d.iQ-1)*P2 (-d.iQ)=1/2:=by
    rw[<-sK,(U:d.iQ-1 + -d.iQ = -1)];decide +kernel
   refine⟨?_,?_⟩
   .show 1/2<=(wF _ _).q;rw[Ef,<-z,zp];exact x
   .show (wF _ _).q<=1;rw[Ef,<-y,zp];exact k
 .rw [ra]at a;cases a
end
def amb{a b:Rat}(h:-(1/2)<=a)(k:a<=1/2)(y:1<=b):-(1/2)<=a/b/\a/b<=1/2:=by
 have e:=eh (a:=a) (b:=b) aP;generalize a/b=x at *
 constructor
 .apply ej.1;intro i;have:=eO i (show 0<b by grind)
  grind
 .apply ej.1;intro i;have:=eO i (show 0<b by grind)
  grind
def aoe{d:Dy}(u:d.iE)(h:0<d.q){p:Nat}(i:8<=p)(C:p<=512):(Hc d p).iE/\(Hc d p).kQ (C5 d)/\((Hc d p).all=aa\/Sub (Hc d p) (ru (-1))):=by
 have v:=aoc u i C;have M:=aoa u i C;have t:(kp (-1)).iE:=zz aG;have s:(kp 1).iE:=zz aG;have A:(jN (xh d p) (kp (-1)) p).iE:=sN v t U U;have B:(jN (xh d p) (kp 1) p).iE:=sN v s U U;have e:((-1:Int):Rat) = -1:= aQ ;have q:((1:Int):Rat)=1:= aQ ;have m:=Es v t (p:=p) U U M<|CH (-1);have l:=Es v s (p:=p) U U M<|CH 1;rw[e,show zo d + -1=zo d-1 by grind]at m;rw[q]at l;refine⟨su _ _,Me A B U U m l,?_⟩;cases ma:(xh d p).all
 .right;have⟨L,V⟩:=aob u h i C ma;have o:∀ (n:Int) r,(kp n).kQ r->r=(n:Rat):=λn r X=>by
   have⟨y,z⟩:=X.kN rfl;replace y:(jF n).q<=r:=y;replace z:r<=(jF n).q:=z;rw[BD]at y z;exact eN z y
  have g:G p<|1/2:=by have:=C6 (p:=p) U (n:=-1) aG aG;rwa[show P2 (-1)=1/2 by decide +kernel]at this
  have Y:G p 1:=by have:=C6 (p:=p) U (n:=0) aG aG;rwa[Pd]at this
  have Z:G p 2:=by have:=C6 (p:=p) U (n:=1) aG aG;rwa[show P2 1=2 by decide +kernel]at this
  have⟨f,T,S⟩:=(Pn v t ma rfl (U:1<=p) U).Bp (-(1/2)) (1/2) g.neg g (by
   rintro r ⟨a,b,x,k,rfl⟩;have⟨c,j⟩:=x.kN ma;rw[o _ b k,e];constructor<;>grind)
  have⟨w,c,j⟩:=(Pn v s ma rfl (U:1<=p) U).Bp 1 2 Y Z (by
   rintro r ⟨a,b,x,k,rfl⟩;have⟨c,j⟩:=x.kN ma;rw[o _ b k,q];constructor<;>grind)
  refine IL (Md A B f (Uo w<|.inl aP) (U:1<=p) U) U aG aG ?_;rintro r ⟨a,b,x,k,rfl⟩;have⟨R,Q⟩:=x.kN f;have⟨P,N⟩:=k.kN w;rw[show P2 (-1)=1/2 by decide +kernel];exact amb aP aP aP 
 .left;show(jC (jN (xh d p) (kp (-1)) p) (jN (xh d p) (kp 1) p) p).all=aa;rw[Lu p<|.inl ma,IZ p<|.inl rfl];rfl
def akz{d:Dy}(k:d.iE)(h:d.m≠0){p:Nat}(i:8<=p)(C:p<=512){n:Int}(x:d.iQ<=n)(y:-1000<=n)(z:n<=1000):Sub (nL (lp d) p)<|ru n:=by
 refine ase (vH k) U U y z<|.inr ⟨rfl,?_,?_⟩
 .show (ji<|sk n).q<=d.q;rw[qM,tu];have:=KE h;have l:=Ix x;have⟨_,a,u,_⟩:=oG d.q
  grind
 .show d.q<=(sk n).q;rw[tu];have:=KE h;have l:=Ix x;have⟨_,a,u,_⟩:=oG d.q
  grind
def afE(y:Iv)(p n:Nat)(x:Nat):PS:=⟨32,aa,[(7,.e<|D ((x+1:Nat):Int)),(6,.box 6 0),(5,.box 5 0),(4,.box 4 0),(3,.box 3 0),(2,.box 2 0)],[(6,.cells 33<|jv<|xD y p x),(5,.cells 33<|jv<|ni y p x),(4,.cells 33 au),(3,.cells 33<|jv y),(2,.cells 222 [D p])]⟩
def anU{f:Nat->Rat}{X Y:Iv}(h:rq f X)(k:∀ r,X.kQ r->Y.kQ r):rq f Y:=λy x=>by
 have⟨z,u⟩:=h y x;exact⟨z,λN v=>by have⟨r,t,s⟩:=u N v;exact⟨r,k r t,s⟩⟩
def ivW{x:Iv}(z:x.iE)(h:x.all=aa):x=L:=by
 have⟨k,y⟩:=Sk z h;have⟨a,b,c⟩:=x;simp only at k y h;rw[k,y,h];rfl
section
variable(x:Iv)(u:x.iE)
def agY(a:x.all=aa)(k:Int)(h:-32768<=k)(y:k<=32768):iB 267 [O x,D k]<|O<|nM x k:=
 iL (Y [.o 10<|.e<|lM x,.c<|se x Z,ai 11 (!x.all)<|by rw[a];rfl,.c pv]<|V (O L) (O<|nM x k)<|by rw[show(nM x k)=L by unfold nM;rw[bt a]])
def agZ(a:x.all=ac)(k:Int)(h:-32768<=k)(y:k<=32768):iB 267 [O x,D k]<|O<|nM x k:=by
 have⟨v,z⟩:=u.kN;exact iL<|Y [.o 10<|.e<|lM x,.c<|se x Z,ah 11 (!x.all)<|by rw[a];rfl,.c<|Pv x.lo k Z U U,.c<|Pv x.hi k Z U U,.c<|Fv (nD<|canon x.lo.neg x.lo.m<|x.lo.e+k) (nD<|canon x.hi.neg x.hi.m<|x.hi.e+k) (oj<|canon x.lo.neg x.lo.m<|x.lo.e+k)<|oj<|canon x.hi.neg x.hi.m<|x.hi.e+k]<|V (O<|mc (nD<|canon x.lo.neg x.lo.m<|x.lo.e+k) (oj<|canon x.lo.neg x.lo.m<|x.lo.e+k) (nD<|canon x.hi.neg x.hi.m<|x.hi.e+k)<|oj<|canon x.hi.neg x.hi.m<|x.hi.e+k) (O<|nM x k)<|by unfold nM;rw[bn<|by rw[a];decide];simp only[asF,asG]
def LF(k:Int)(h:-32768<=k)(y:k<=32768):iB 267 [O x,D k]<|O<|nM x k:=by
 cases xa:x.all with
 |true=>exact agY x u xa k h y
 |false=>exact agZ x u xa k h y
def agW(a:x.all=aa)(p:Nat)(i:8<=p)(C:p<=512):iB 317 [O x,D p]<|O<|nL x p:=
 iL (Y [.o 10<|.e<|lM x,.c<|se x Z,ai 11 (!x.all)<|by rw[a];rfl,.c pv]<|V (O L) (O<|nL x p)<|by rw[show(nL x p)=L by unfold nL;rw[bt a]])
def agX(a:x.all=ac)(p:Nat)(i:8<=p)(C:p<=512):iB 317 [O x,D p]<|O<|nL x p:=by
 have⟨v,h⟩:=u.kN;exact iL<|Y [.o 10<|.e<|lM x,.c<|se x Z,ah 11 (!x.all)<|by rw[a];rfl,.c<|zh (p:Int),ah 15 (mi (p:Int))<|sr.2 ⟨U,U⟩,.c<|LG x.lo p Z,.c<|LH x.hi p Z,.c<|Fv (jZ x.lo p ac) (jZ x.hi p aa) (kg x.lo p ac)<|kg x.hi p aa]<|V (O<|mc (jZ x.lo p ac) (kg x.lo p ac) (jZ x.hi p aa)<|kg x.hi p aa) (O<|nL x p)<|by unfold nL;rw[bn<|by rw[a];decide]
def IJ(p:Nat)(i:8<=p:=by omega)(C:p<=512:=by omega):iB 317 [O x,D p]<|O<|nL x p:=by
 cases xa:x.all with
 |true=>exact agW x u xa p i C
 |false=>exact agX x u xa p i C
def ag0(a:x.all=aa)(p:Nat)(i:8<=p)(C:p<=512):iB 338 [O x,D p]<|O<|qO x p:=by
 have h:(jG x).all=aa:=by rw[Da,a]
 exact iL<|Y [.c<|Sg x Z,S 13 h,.c pv]<|V (O L) (O<|qO x p)<|by unfold qO;rw[bt h]
def ag1(a:x.all=ac)(p:Nat)(i:8<=p)(C:p<=512):iB 338 [O x,D p]<|O<|qO x p:=by
 have h:(jG x).all=ac:=by rw[Da,a]
 have v:=IC u;have⟨k,y⟩:=v.kN;exact iL<|Y [.c<|Sg x Z,S 13 h,.c<|zh (p:Int),ah 16 (mi (p:Int))<|sr.2 ⟨U,U⟩,.c<|N9 ((jG x).lo) ((jG x).lo) p Z Z U U,.c<|Oa ((jG x).hi) ((jG x).hi) p Z Z U U,.c<|Fv (jZ (nY ((jG x).lo)<|(jG x).lo) p ac) (jZ (nY ((jG x).hi)<|(jG x).hi) p aa) (kg (nY ((jG x).lo)<|(jG x).lo) p ac)<|kg (nY ((jG x).hi)<|(jG x).hi) p aa]<|V (O<|mc (jZ (nY ((jG x).lo)<|(jG x).lo) p ac) (kg (nY ((jG x).lo)<|(jG x).lo) p ac) (jZ (nY ((jG x).hi)<|(jG x).hi) p aa)<|kg (nY ((jG x).hi)<|(jG x).hi) p aa) (O<|qO x p)<|by unfold qO;rw[bn<|by rw[h];decide];rfl
def VO(p:Nat)(i:8<=p)(C:p<=512):iB 338 [O x,D (p:Int)]<|O<|qO x p:=by
 cases xa:x.all with
 |true=>exact ag0 x u xa p i C
 |false=>exact ag1 x u xa p i C
def VP(a:x.all=aa):iB 92 [O x]<|.iO [iJ kq,I ac]:=
 iL (af [.o 5<|.e<|lM x,.c<|se x Z,ai 6 (!x.all)<|by rw[a];rfl,.o 8<|.e xv])
end
def AM(n:Int)(h:n.natAbs<4294967296:=by omega):iB 315 [D n]<|O<|kp n:=by
 have v:=vz h;exact iL<|af [.c<|tA n,.c<|xg (jF n) Z]
section
variable(p:Nat)(x y:Iv)(h:x.iE)(k:y.iE)
def En(i:8<=p:=by omega)(C:p<=512:=by omega):iB 320 [.agg [D p],O x,O y]<|O<|jN x y p:=
 iL (af [.c<|yb x y p Z Z])
def O5(i:8<=p:=by omega)(C:p<=512:=by omega):iB 322 [.agg [D p],O x,O y]<|O<|B x y p:=
 iL (af [.c<|uo x y p Z Z])
def Lc(i:8<=p:=by omega)(C:p<=512:=by omega):iB 319 [.agg [D p],O x,O y]<|O<|jC x y p:=
 iL (af [.c<|Cv x y p Z Z])
end
def avi(p:Nat)(x:Iv)(h:x.iE)(a:x.all=aa)(i:8<=p)(C:p<=512):iB 339 [.agg [D p],O x]<|I<|rO x p:=
 iL (Y [.c<|VP x h a]<|V (I aa) (I<|rO x p)<|by unfold rO;rw[a];rfl)
def afl{x:Iv}(a:x.all=ac)(p:Nat):rO x p=(((nX x).jh==0)||decide ((nX x).iQ<=0-(p:Int))):=by
 unfold rO;rw[a,awr];congr 1
 .unfold Dy.jh;by_cases h:(nX x).m=0
  .simp [h]
  .simp only[h,bE,awo];split<;>rfl
 .rw [show(0:Int)-p = -(p:Int)by omega]
section
variable(p:Nat)(x:Iv)(y:x.iE)
def avj(a:x.all=ac)(i:8<=p)(C:p<=512):iB 339 [.agg [D p],O x]<|I<|rO x p:=by
 have h:=Nz y.kN.1 y.kN.2;exact iL (Y [.c<|Sj x y a,.c<|oC (nX x) Z]<|.w ((Dy.jh<|nX x)=0)
  (λk=>Y [S 17<|bg k]<|V (I aa) (I<|rO x p)<|by rw[afl a];simp[k])
  (λk=>Y [S 17<|bd k,.c<|pN (nX x) Z,iN<|0-(p:Int)]<|V (I<|decide ((Dy.iQ<|nX x)<=(0-(p:Int)))) (I<|rO x p)<|by rw[afl a];simp[k]))
def O6(i:8<=p:=by omega)(C:p<=512:=by omega):iB 339 [.agg [D p],O x]<|I<|rO x p:=by
 cases xa:x.all with
 |true=>exact avi p x y xa i C
 |false=>exact avj p x y xa i C
end
section
variable(x:Iv)(k:x.iE)
def avl(a:x.all=aa):iB 340 [O x]<|O<|tz x:=
 iL (Y [.c<|VP x k a,.c pv]<|V (O L) (O<|tz x)<|by rw[show tz x=L by unfold tz;rw[bt a];exact ivW k a])
def avm(a:x.all=ac):iB 340 [O x]<|O<|tz x:=by
 have h:=Nz k.kN.1 k.kN.2;exact iL<|Y [.c<|Sj x k a,.c<|AX (nX x) Z]<|V (O<|Iv.mk (ji<|nX x) (nX x) ac) (O<|tz x)<|by unfold tz;rw[bn<|by rw[a];decide];try rfl
def afO:iB 340 [O x]<|O<|tz x:=by
 cases xa:x.all with
 |true=>exact avl x k xa
 |false=>exact avm x k xa
end
def avd(y:Iv)(p n:Nat)(h:y.iE)(i:8<=p)(C:p<=512)(r:n<=1000)(j:∀ x,x<n->rO (ni y p<|x+1) p=ac)(N:rO (ni y p<|n+1) p=aa):iB 337 [.agg [D p],O y]<|O<|B3 y p<|n+1:=by
 have k:=zJ h i C n;have s:=GB h i C n;have z:(B (ni y p n) y p).iE:=nZ _ _ U U;have u:(kp ((n+1:Nat):Int)).iE:=FE _;have t:(jC (B (ni y p n) y p) (kp ((n+1:Nat):Int)) p).iE:=su _ _;have a:(jN (xD y p n) (jC (B (ni y p n) y p) (kp ((n+1:Nat):Int)) p) p).iE:=sN s t U U;have q:=Gg t;exact iL (Y [.c<|AM 1,.c<|AM 1,.s (Sp.jL (afE y p n) 0 n U (λx v m=>by
    have k:=zJ h i C x;have s:=GB h i C x;have z:(B (ni y p x) y p).iE:=nZ _ _ U U;have u:(kp ((x+1:Nat):Int)).iE:=FE _;have t:(jC (B (ni y p x) y p) (kp ((x+1:Nat):Int)) p).iE:=su _ _;exact iU (Y [.c<|O5 p (ni y p x) y Z Z,.c<|AM ((x+1:Nat):Int),.c<|Lc p (B (ni y p x) y p) (kp ((x+1:Nat):Int)) Z Z,.c<|En p (xD y p x) (jC (B (ni y p x) y p) (kp ((x+1:Nat):Int)) p) Z Z,.c<|O6 p (jC (B (ni y p x) y p) (kp ((x+1:Nat):Int)) p) Z,S 26<|j x U,iN<|((x+1:Nat):Int)+1]<|.e<|af [.b 6<|.refl<|.cells 33<|jv<|xD y p<|x+1,.b 5<|.refl<|.cells 33<|jv<|ni y p<|x+1]) aI)
  (λv=>by
    exact iU (af [.c<|O5 p (ni y p n) y Z Z,.c<|AM ((n+1:Nat):Int),.c<|Lc p (B (ni y p n) y p) (kp ((n+1:Nat):Int)) Z Z,.c<|En p (xD y p n) (jC (B (ni y p n) y p) (kp ((n+1:Nat):Int)) p) Z Z,.c<|O6 p (jC (B (ni y p n) y p) (kp ((n+1:Nat):Int)) p) Z,S 26 N]) aI) aM:jK 4 f337 (afE y p n 0) (.exit 0) ⟨32,aa,[(6,.box 6 0),(5,.box 5 0),(4,.box 4 0),(2,.box 2 0)],[(6,.cells 33<|jv<|jN (xD y p n) (jC (B (ni y p n) y p) (kp ((n+1:Nat):Int)) p) p),(5,.cells 33<|jv<|jC (B (ni y p n) y p) (kp ((n+1:Nat):Int)) p),(4,.cells 33 au),(2,.cells 222 [D p])]⟩)<|af [.o 7<|oI 1 ((0+1:Nat):Int),.b 6<|.refl<|.cells 33<|jv<|xD y p 0,.b 5<|.refl<|.cells 33<|jv<|ni y p 0],.c<|afO (jC (B (ni y p n) y p) (kp ((n+1:Nat):Int)) p) Z,.c<|En p (jN (xD y p n) (jC (B (ni y p n) y p) (kp ((n+1:Nat):Int)) p) p) (tz<|jC (B (ni y p n) y p) (kp ((n+1:Nat):Int)) p) Z Z]<|rR (O<|B3 y p<|n+1) (.jB rfl:E.le (O<|jN (jN (xD y p n) (jC (B (ni y p n) y p) (kp ((n+1:Nat):Int)) p) p) (tz<|jC (B (ni y p n) y p) (kp ((n+1:Nat):Int)) p) p)<|O<|B3 y p<|n+1))
def ave{y:Iv}(h:y.iE)(b:y.all=aa\/Sub y (ru (-1))){p:Nat}(i:8<=p)(C:p<=512):∃ Z,Z.iE/\(∀ r,y.kQ r->rq (EQ r) Z)/\iB 337 [.agg [D (p:Int)],O y] (O Z):=by
 have⟨N,k,z,u,v⟩:=akE h b i C;obtain⟨n,rfl⟩:∃ n,N=n+1:=⟨N-1,U⟩
 exact⟨B3 y p<|n+1,akD h i C _,λr t=>akC h t b i C k z,avd y p n h i C U (λx s=>u (x+1) U U) v⟩
def avg(y Z:Iv)(p:Nat)(a:iB 337 [.agg [D (p:Int)],O y]<|O Z):iB 318 [.agg [D p],O y,D 0]<|O Z:=
 iL (af [tE 8 0 0,.c a])
def avf(y u:Iv)(p n:Nat)(x:y.iE)(k:u.iE)(z:n<=1000)(h:iB 318 [.agg [D (p:Int)],O<|nM y (-1),D (n:Int)]<|O u)(i:8<=p)(C:p<=512):iB 318 [.agg [D p],O y,D ((n+1:Nat):Int)]<|O<|qO u p:=
 iL (af [ai 8 (((n+1:Nat):Int)==0)<|oo U,.c<|LF y Z (-1) U U,iN<|((n+1:Nat):Int)-1,.c (by rw[show(((n+1:Nat):Int)-1)=(n:Int)by omega];exact h:iB 318 [.agg [D p],O<|nM y (-1),D<|((n+1:Nat):Int)-1]<|O u),.c<|VO u Z p U U])
def afF{p:Nat}(i:8<=p)(C:p<=512):∀ (n:Nat) {y:Iv},n<=500->y.iE->(y.all=aa\/Sub y (ru<|(n:Int)-1))->∃ Z,Z.iE/\(∀ r,y.kQ r->rq (EQ r) Z)/\iB 318 [.agg [D (p:Int)],O y,D (n:Int)] (O Z)
 | 0,y,_,hy,h=>by
  have⟨Z,x,k,z⟩:=ave hy (by simpa using h) i C;exact⟨Z,x,k,avg y Z p z⟩
 |n+1,y,hn,hy,h=>by
  have s:=KX hy (-1);have m:(nM y (-1)).all=aa\/Sub (nM y (-1)) (ru<|(n:Int)-1):=by
   rcases h with h|h
   .left;unfold nM;rw[bt h];rfl
   .have:=asI h;rwa[show(((n+1:Nat):Int)-1-1)=(n:Int)-1 by omega]at this
  have⟨Z,x,k,z⟩:=afF i C n U s m;exact⟨qO Z p,OD x U U,λr u=>anS x (k _<|Uf u (-1)) U U,avf y Z p n hy x U z i C⟩
def UN(p m:Nat)(h:p<=512)(x:m<=1000):iB 316 [D p,D m]<|.agg [D ((min (p+m) 512:Nat):Int)]:=
 iL (af [iN<|(p:Int)+m,.o 8<|oI (if 512<((p+m:Nat):Int)then 512 else((p+m:Nat):Int)) ((min (p+m) 512:Nat):Int) aR])
def avB(d:Dy)(p:Nat)(x:d.iE)(h:d.jh=0)(i:8<=p)(C:p<=512):iB 300 [iJ d,D p]<|O<|kp 1:=
 iL (af [.c<|oC d Z,ah 9 ((Dy.jh d)==0)<|by rw[h];rfl,.c<|AM 1])
def K6{d:Dy}(h:d.iE):-100000<=d.iQ:=by
 unfold Dy.iQ;have:=h.exp;split<;>omega
def auM{d:Dy}(h:d.m=0):d.iQ=0:=by unfold Dy.iQ;rw[bt h]
def avA(d:Dy)(p:Nat)(y:Iv)(h:d.iE)(x:d.jh≠0)(t:d.iQ<=100)(k:y.iE)(H:iB 318 [.agg [D (((min (p+(((d.iQ+1).toNat)+24)) 512):Nat):Int)],O<|nL (lp d)<|min (p+(((d.iQ+1).toNat)+24)) 512,D ((((d.iQ+1).toNat):Nat):Int)]<|O y)(i:8<=p)(C:p<=512):iB 300 [iJ d,D p]<|O<|nL y p:=by
 have u:-100000<=d.iQ:=K6 h;have v:=vH h;exact iL<|af [.c<|oC d Z,ai 9 ((Dy.jh d)==0)<|by simpa using x,.c<|pN d Z,iN<|(Dy.iQ d)+1,.o 14<|oI (if 0>((Dy.iQ d)+1)then 0 else((Dy.iQ d)+1)) ((d.iQ+1).toNat:Int) aR,iN<|((d.iQ+1).toNat:Int)+24,.c<|UN p (((d.iQ+1).toNat)+24) U U,.c<|xg d Z,.c<|IJ (lp d) Z<|min (p+(((d.iQ+1).toNat)+24)) 512,.c H,.c<|IJ y Z p]
def atr{d:Dy}(h:d.jh≠0):d.m≠0:=λq=>h<|by unfold Dy.jh;rw[bt q]
def afR{d:Dy}(x:d.iE)(t:d.iQ<=100){p:Nat}(i:8<=p)(C:p<=512):∃ Z,Z.iE/\rq (EQ d.q) Z/\iB 300 [iJ d,D (p:Int)] (O Z):=by
 by_cases y:d.jh=0
 .refine ⟨kp 1,zz aG,?_,avB d p x y i C⟩;have z:d.q=0:=by
   have h:=uS d;rw[y]at h;have a:=h.1.2;have b:=h.2.2;have:¬0<d.q:=λq=>absurd (a q) aG 
   have:¬d.q<0:=λq=>absurd (b q) aG 
   grind
  rw[z];exact rq.S9 (k:=0) λN _=>by rw[af1];exact CH 1
 .have m:=atr y;obtain⟨P,u⟩:∃ P,P=min (p+((d.iQ+1).toNat+24)) 512:=⟨_,rfl⟩
  have v:=akz x m (p:=P) U U (n:=((d.iQ+1).toNat:Int)-1) U U U;have⟨Z,h,s,l⟩:=afF (p:=P) U U ((d.iQ+1).toNat) U (H9<|vH x)<|.inr v;subst u;refine⟨nL Z p,H9 h,?_,avA d p Z x y t h l i C⟩;have g:=s _<|KP (vH x) U U<|Tw d;exact anU g λr f=>KP h U U f
def afP(a b:Iv)(x:a.iE)(y:b.iE):iB 299 [O a,O b]<|O<|xB a b:=
 iL (.w (a.all=aa)
  (λk=>Y [S 6 k,.c pv]<|V (O L) (O<|xB a b)<|by unfold xB;simp[k])
  (λk=>Y [S 6<|bh k]<|.w (b.all=aa)
   (λh=>Y [S 9 h,.c pv]<|V (O L) (O<|xB a b)<|by unfold xB;simp[k,h])
   (λh=>Y [S 9<|bh h]<|V (O<|Iv.mk a.lo b.hi ac) (O<|xB a b)<|by unfold xB;simp[k,h])))
def Bs(d:Dy):Bool:=decide (jQ (mF d) (jF 1000)<=0)
def Lg(d:Dy)(h:d.iE):iB 298 [iJ d]<|I<|Bs d:=by
 have a:=uD h;have i:(jF 1000).iE:=vz aG;exact iL<|af [.c<|I1 d Z,.c<|tA 1000,.c<|pE (mF d) (jF 1000) Z Z]
section
variable(x:Iv)(p:Nat)(r:x.iE)
def F7(i:8<=p:=by omega)(C:p<=512:=by omega):iB 297 [O x,D p]<|I<|!x.all:=
 iL (.w (x.all=aa)
  (λk=>Y [S 6 k]<|V (I ac) (I<|!x.all)<|by simp[k])
  (λk=>Y [S 6<|bh k,.c<|rL x Z,tT 14 (8<=(p:Int)) U,tT 18 ((p:Int)<=512) U]<|V (I aa) (I<|!x.all)<|by simp[k]))
def avn(i:8<=p)(C:p<=512)(a:x.all=aa):iB 259 [O x,D p]<|O L:=
 iL (af [.c<|F7 x p Z,ai 7 (!x.all)<|by rw[a];rfl,.c pv])
section
variable(i:8<=p)(C:p<=512)(a:x.all=ac)
def avr(h:Bs x.lo=ac):iB 259 [O x,D p]<|O L:=by
 have⟨w,k⟩:=r.kN;exact iL<|af [.c<|F7 x p Z,ah 7 (!x.all)<|by rw[a];rfl,.c<|Lg x.lo Z,S 12 h,.c pv]
def avp(h:Bs x.lo=aa)(k:Bs x.hi=ac):iB 259 [O x,D p]<|O L:=by
 have⟨w,y⟩:=r.kN;exact iL<|af [.c<|F7 x p Z,ah 7 (!x.all)<|by rw[a];rfl,.c<|Lg x.lo Z,S 12 h,.c<|Lg x.hi Z,S 18 k,.c pv]
def avq(k:Bs x.lo=aa)(y:Bs x.hi=aa)(q h:Iv)(v:q.iE)(t:h.iE)(z:iB 300 [iJ x.lo,D (p:Int)]<|O q)(u:iB 300 [iJ x.hi,D (p:Int)]<|O h):iB 259 [O x,D p]<|O<|xB q h:=by
 have⟨w,s⟩:=r.kN;exact iL<|af [.c<|F7 x p Z,ah 7 (!x.all)<|by rw[a];rfl,.c<|Lg x.lo Z,S 12 k,.c<|Lg x.hi Z,S 18 y,.c z,.c u,.c<|afP q h Z Z]
end
end
def abw{d:Dy}(y:d.iE)(h:Bs d=aa):d.iQ<=100:=by
 by_cases x:d.m=0
 .rw [auM x];decide
 .unfold Bs at h;rw[cK,rN,BD]at h;have q:=CK d;have k:jM d.q<=P2 10:=by
   have:P2 10=1024:= aQ ;rw[this];have a:((1000:Int):Rat)=1000:=rfl;rw[a]at h;exact BS aP aP 
  have:=afp x k;omega
def XQ{a b:Iv}(x:a.iE)(k:b.iE)(h:a.all=ac->b.all=ac->a.lo.q<=b.hi.q):(xB a b).iE:=by
 unfold xB;cases xa:a.all
 .cases xb:b.all
  .exact .inr ⟨rfl,x.kN.1,k.kN.2,(rN _ _).2<|h xa xb⟩
  .exact np
 .exact np
def avo{x:Iv}(h:x.iE){p:Nat}(i:8<=p)(C:p<=512):∃ Z,Z.iE/\iB 259 [O x,D (p:Int)] (O Z):=by
 cases xa:x.all with
 |true=>exact⟨L,np,avn x p h i C xa⟩
 |false=>
  cases h1:Bs x.lo with
  |false=>exact⟨L,np,avr x p h i C xa h1⟩
  |true=>
   cases h2:Bs x.hi with
   |false=>exact⟨L,np,avp x p h i C xa h1 h2⟩
   |true=>
    have⟨w,y⟩:=h.kN;have⟨z,u,l,s⟩:=afR w (abw w h1) i C;have⟨v,t,r,q⟩:=afR y (abw y h2) i C;exact⟨xB z v,XQ u t λa b=>anT l r (λn k=>afY h.q k) a b,avq x p h i C xa h1 h2 z v u t s q⟩
section
variable(a:List Iv)
noncomputable def aef(p:Nat)(x:Nat):PS:=⟨76,aa,[(6,.e<|D x),(5,.own 15),(0,.e<|K a),(1,.e<|D p)],[(15,.row aa 33 x 7<|jf<|jx (oV a p) x)]⟩
noncomputable def aeg(p x:Nat)(z:Nat):PS:=⟨76,aa,[(8,.e<|D ((z+1:Nat):Int)),(7,.box 7 0),(6,.e<|D x),(5,.own 15),(0,.e<|K a),(1,.e<|D p)],[(7,.cells 33<|jv<|uq a (jx (oV a p) x) p x z),(15,.row aa 33 x 7<|jf<|jx (oV a p) x)]⟩
noncomputable def aeq(p:Nat)(y:Nat):PS:=⟨59,aa,[(6,.box 6 0),(5,.own 26),(4,.own 16),(3,.box 3 0),(2,.box 2 0)],[(6,.cells 3 [D ((y+1:Nat):Int)]),(26,.row aa 33 (y+1) 7<|jf (ny a p y).2),(16,.row aa 33 (y+1) 7<|jf (ny a p y).1),(3,.cells 3 [D p]),(2,.cells 26 [K a])]⟩
noncomputable def aer(p:Nat)(x:Nat):PS:=⟨52,aa,[(7,.box 7 0),(6,.box 6 0),(5,.oe 5 1 0 0),(3,.box 3 0),(0,.e<|K a)],[(7,.cells 3 [D x]),(6,.cells 33<|jv<|nM (rV (a.getD 0 L) p) 1),(5,.kn aa 26 33 1 7 (λ_=>x) (λ_=>jf<|jx (pU a p) x) .none),(3,.cells 3 [D p])]⟩
end
def SB{a out:List Iv}{p k:Nat}(h:1<=p)(i:p<=4096):∀ n,(uq a out p k n).iE
 | 0=>zO 0 aG 
 |n+1=>sN (SB h i n) (nZ _ _ h i) h i
def asQ(a:List Iv)(n p:Nat)(q:1<=n)(m:n<=17)(h:kV n a)(I:8<=p)(C:p<=512)(F:xw):iB 208 [K a,D p]<|K<|Hb a p:=by
 have g:=h.len;have v:=h.ok 0;have Q:(λ_:Nat=>(0:Nat)) 0=0:=rfl;have P:=oh<|yV (a.getD 0 L) p;exact iL (Y [.o 10 (.e<|DU _:aj (.sl aa 1 1 λi j=>[K a].getD (i*1+j)<|.v<|.bool ac)<|kX [a]),.c<|yJ [a] n U U aK<|Db Z,.a (U:0<=(0:Int)/\(0:Int)<=((a.length:Int):Int)),.a (U:((88:Nat):Int)*(a.length:Int)<=281474976710656/\((a.length:Int):Int)<=9223372036854775807),
  iX 0 (a.length),.c<|X3 (a.getD 0 L) Z p U U F,.o 22<|.e<|lM<|yV (a.getD 0 L) p,.a (U:(0+[yV (a.getD 0 L) p].length)*88<=140737488355328),.s (Sp.jL (aef a p) 1 a.length U (λx y N=>by
    have O:(λ_:Nat=>x) 0=x:=rfl;have d:kV x<|jx (oV a p) x:=CO x λk l _ _=>by unfold oV;split<;>first|exact Qw _ _|exact su _ _ 
    have f:=zO 0;have w:=zO x;have u:=h.ok x;have e:=SB (a:=a) (out:=(jx (oV a p) x)) (k:=x) (U:1<=p) (U:p<=4096)<|x-1;have t:(jC (uq a (jx (oV a p) x) p x<|x-1) (jX x) p).iE:=su _ _;have c:(qy (a.getD x L) (jC (uq a (jx (oV a p) x) p x<|x-1) (jX x) p) p).iE:=Uv U U u t;have b:=oh<|jC (qy (a.getD x L) (jC (uq a (jx (oV a p) x) p x<|x-1) (jX x) p) p) (a.getD 0 L) p;exact iU (Y [tT 27 ((x:Int)<a.length) U,.c<|Eg 0,.s (Sp.jL (aeg a p x) 0 (x-1) U (λz s r=>by
    have X:=SB (a:=a) (out:=(jx (oV a p) x)) (k:=x) (U:1<=p) (U:p<=4096) z;have o:=zO<|z+1;have V:=d.ok<|z+1;have T:=h.ok<|x-(z+1);have S:(B (jX<|z+1) ((jx (oV a p) x).getD (z+1) L) p).iE:=nZ _ _ U U;have R:(B (B (jX<|z+1) ((jx (oV a p) x).getD (z+1) L) p) (a.getD (x-(z+1)) L) p).iE:=nZ _ _ U U;exact iU (Y [tT 33 (((z+1:Nat):Int)<x) U,.c<|Eg<|z+1,iX ((z+1:Nat):Int) x,.a (U:(z+1)<x),.c<|uo (jX<|z+1) ((jx (oV a p) x).getD (z+1) L) p Z Z,iN<|(x:Int)-((z+1:Nat):Int),.o 48<|oI ((x:Int)-((z+1:Nat):Int)) ((x-(z+1):Nat):Int),iX ((x-(z+1):Nat):Int)<|a.length,.c<|uo (B (jX<|z+1) ((jx (oV a p) x).getD (z+1) L) p) (a.getD (x-(z+1)) L) p Z Z,.c<|yb (uq a (jx (oV a p) x) p x z) (B (B (jX<|z+1) ((jx (oV a p) x).getD (z+1) L) p) (a.getD (x-(z+1)) L) p) p Z Z,
     iN (((z+1:Nat):Int)+1)]<|.e<|af [.b 7<|.refl<|.cells 33<|jv<|uq a (jx (oV a p) x) p x<|z+1]) aI)
  (λs=>by
    exact iU (af [tF 33 ((((x-1)+1:Nat):Int)<x) U]) aI) aM:jK 10 f208 (aeg a p x 0) (.exit 2) ⟨76,aa,[(7,.box 7 0),(6,.e<|D x),(5,.own 15),(0,.e<|K a),(1,.e<|D p)],[(7,.cells 33<|jv<|uq a (jx (oV a p) x) p x<|x-1),(15,.row aa 33 x 7<|jf<|jx (oV a p) x)]⟩)<|af [.o 8<|oI 1 ((0+1:Nat):Int),.b 7<|.refl<|.cells 33<|jv<|uq a (jx (oV a p) x) p x 0],
     iX (x:Int) (a.length),.c<|Eg x,.c<|Cv (uq a (jx (oV a p) x) p x<|x-1) (jX x) p Z Z,.c<|Nq (a.getD x L) (jC (uq a (jx (oV a p) x) p x<|x-1) (jX x) p) p Z Z,iX 0<|a.length,.c<|Cv (qy (a.getD x L) (jC (uq a (jx (oV a p) x) p x<|x-1) (jX x) p) p) (a.getD 0 L) p Z Z,.o 73<|.e<|lM<|jC (qy (a.getD x L) (jC (uq a (jx (oV a p) x) p x<|x-1) (jX x) p) p) (a.getD 0 L) p,.a (U:(x+[jC (qy (a.getD x L) (jC (uq a (jx (oV a p) x) p x<|x-1) (jX x) p) p) (a.getD 0 L) p].length)*88<=140737488355328),iN<|(x:Int)+1]<|.e<|af [.b 15 (adn rfl (by unfold oV;rw[bn U]):Bx.le (.row aa 33 (x+[jC (qy (a.getD x L) (jC (uq a (jx (oV a p) x) p x<|x-1) (jX x) p) p) (a.getD 0 L) p].length) 7 λi j=>if i<x then(jf<|jx (oV a p) x) i j else(E.lO<|K [jC (qy (a.getD x L) (jC (uq a (jx (oV a p) x) p x<|x-1) (jX x) p) p) (a.getD 0 L) p]) (i-x) j)<|.row aa 33 (x+1) 7<|jf<|jx (oV a p)<|x+1)]) aI)
  (λy=>by
    exact iU (Y [tF 27 ((a.length:Int)<a.length) U,.z 15]<|.e<|af [.o 5 (.e<|AJ (zI _ _).symm:aj (.sl aa a.length 7<|jf<|jx (oV a p) a.length)<|K<|jx (oV a p) a.length)]) aI) aM:jK 6 f208 (aef a p 1) (.exit 0) ⟨76,aa,[(5,.e<|K<|jx (oV a p) a.length)],[]⟩)<|af [.b 15 (arn rfl:Bx.le (.row aa 33 (0+[yV (a.getD 0 L) p].length) 7 λi j=>if i<0 then(λ_ j=>au.getD j .any) i j else(E.lO<|K [yV (a.getD 0 L) p]) (i-0) j)<|.row aa 33 1 7<|jf<|jx (oV a p) 1)]]<|rR (K<|Hb a p) (.jB rfl:E.le (K<|jx (oV a p) a.length)<|K<|Hb a p))
def asU(a out:List Iv)(i k p m:Nat)(r:1<=i)(h:i<=k)(x:k<a.length)(y:k<=m)(l:a.length<=17)(v:ns a)(o:ns out)(I:8<=p)(C:p<=512):iB 265 [D i,(.jE 1 λj=>[K a].getD j .any),(.jE 1 λj=>[D p].getD j .any),(.jE 1 λj=>[.sl aa m 7<|jf out].getD j .any),(.jE 1 λj=>[D k].getD j .any)]<|O<|B (B (jX i) (a.getD i L) p) (out.getD (k-i) L) p:=by
 have z:=v i;have u:=o<|k-i;have t:=zO i;have s:(B (jX i) (a.getD i L) p).iE:=nZ _ _ U U;exact iL<|af [.c<|Eg i,iX (i:Int)<|a.length,.c<|uo (jX i) (a.getD i L) p Z Z,iN<|(k:Int)-i,.o 18<|oI ((k:Int)-i) ((k-i:Nat):Int),iX ((k-i:Nat):Int) m,.c<|uo (B (jX i) (a.getD i L) p) (out.getD (k-i) L) p Z Z]
def ael(a out:List Iv)(k p m:Nat)(z:1<=k)(h:k<a.length)(x:k<=m)(l:a.length<=17)(v:ns a)(o:ns out)(I:8<=p)(C:p<=512):iB 264 [.sl aa m 7<|jf out,(.jE 1 λj=>[D k].getD j .any),(.jE 1 λj=>[D p].getD j .any),(.jE 1 λj=>[K a].getD j .any)]<|O<|ue a p k out:=by
 have s:=CW (U:1<=p) (U:p<=4096) (T:=(λi=>(B (B (jX i) (a.getD i L) p) (out.getD (k-i) L) p))) (a:=1) (k-1) λ_ _ _=>nZ _ _ U U 
 have w:=zO k;exact iL<|Y [.c (Ov 1 (k-1) p _ U _ _ (λi=>(B (B (jX i) (a.getD i L) p) (out.getD (k-i) L) p)) U I C λi y u=>⟨nZ _ _ U U,asU a out i k p m y U h x l v o I C⟩:iB 252 [D 1,D k,D p,.fn 265 [(.jE 1 λj=>[K a].getD j .any),(.jE 1 λj=>[D p].getD j .any),(.jE 1 λj=>[.sl aa m 7<|jf out].getD j .any),(.jE 1 λj=>[D k].getD j .any)]] _),.c<|Eg k,.c<|Cv (lq p (λi=>(B (B (jX i) (a.getD i L) p) (out.getD (k-i) L) p)) 1<|k-1) (jX k) p Z Z]<|rR (O<|ue a p k out) (.jB rfl:E.le (O<|jC (lq p (λi=>(B (B (jX i) (a.getD i L) p) (out.getD (k-i) L) p)) 1<|k-1) (jX k) p)<|O<|ue a p k out)
def ad4{T y:Nat}{xs:List Iv}{v:Iv}(h:xs.length=y+1):Bx.le (.row aa T ((y+1)+[v].length) 7 λi j=>if i<y+1 then jf xs i j else(E.lO<|K [v]) (i-(y+1)) j)<|.row aa T (y+1+1) 7<|jf<|xs++[v]:=by
 have e:=JY (T:=T) (n:=y+1) (xs:=xs) (y:=v) h.symm;have x:(xs++[v]).length=y+1+1:=by simp[h]
 rw[x]at e;exact e
def ad3{T:Nat}{v:Iv}{e:Nat->Nat->E}:Bx.le (.row aa T (0+[v].length) 7 λa j=>if a<0 then e a j else(E.lO<|K [v]) (a-0) j)<|.row aa T (0+1) 7<|jf [v]:=.row rfl λi j h x=>by
 have h:i<0+1:=h;obtain rfl:i=0:= U ;exact⟨.jB rfl,tK _ _ x⟩
def aeo(a:List Iv)(n p:Nat)(k:1<=n)(z:n<=17)(h:kV n a)(I:8<=p)(C:p<=512)(F:xw):iB 209 [K a,D p]<|.iO [K (ny a p<|a.length-1).1,K (ny a p<|a.length-1).2]:=by
 have l:=h.len;have v:=h.ok 0;have o:=KW (U:1<=p) (U:p<=4096) a<|a.length-1;have m:=oh<|yW (a.getD 0 L) p;have t:=oh<|yT (a.getD 0 L) p;exact iL (Y [.o 11 (.e<|DU _:aj (.sl aa 1 1 λi j=>[K a].getD (i*1+j)<|.v<|.bool ac)<|kX [a]),.c<|yJ [a] n U U aK<|Db Z,.a (U:0<=(0:Int)/\(0:Int)<=((a.length:Int):Int)),.a (U:((88:Nat):Int)*(a.length:Int)<=281474976710656/\((a.length:Int):Int)<=9223372036854775807),
  iX 0 (a.length),.c<|X4 (a.getD 0 L) Z p U U F,.o 22<|.e<|lM<|yW (a.getD 0 L) p,.a (U:(0+[yW (a.getD 0 L) p].length)*88<=140737488355328),.a (U:0<=(0:Int)/\(0:Int)<=((a.length:Int):Int)),.a (U:((88:Nat):Int)*(a.length:Int)<=281474976710656/\((a.length:Int):Int)<=9223372036854775807),
  iX 0 (a.length),.c<|X0 (a.getD 0 L) Z p U U F,.o 32<|.e<|lM<|yT (a.getD 0 L) p,.a (U:(0+[yT (a.getD 0 L) p].length)*88<=140737488355328),.s (Sp.jL (aeq a p) 0 (a.length-1) U (λy x R=>by
    have o:=KW (U:1<=p) (U:p<=4096) a y;have u:=Ts (U:1<=p) (U:p<=4096) a (ny a p y).1<|y+1;have m:=oh<|ue a p (y+1) (ny a p y).2;have t:=oh<|oF<|ue a p (y+1) (ny a p y).1;exact iU (Y [tT 37 (((y+1:Nat):Int)<a.length) U,ag [.sl aa (y+1) 7<|jf (ny a p y).2,(.jE 1 λj=>[D ((y+1:Nat):Int)].getD j .any),(.jE 1 λj=>[D p].getD j .any),(.jE 1 λj=>[K a].getD j .any)]<|ael a (ny a p y).2 (y+1) p _ U U U U h.ok o.2.ok I C,.a (J9 _:yE<|O<|ue a p (y+1) (ny a p y).2),ag [.sl aa (y+1) 7<|jf (ny a p y).1,(.jE 1 λj=>[D ((y+1:Nat):Int)].getD j .any),(.jE 1 λj=>[D p].getD j .any),(.jE 1 λj=>[K a].getD j .any)]<|ael a (ny a p y).1 (y+1) p _ U U U U h.ok o.1.ok I C,.a (J9 _:yE<|O<|ue a p (y+1) (ny a p y).1),.c<|No (ue a p (y+1) (ny a p y).1) Z,.o 50<|.e<|lM<|ue a p (y+1) (ny a p y).2,.a (U:((y+1)+[ue a p (y+1) (ny a p y).2].length)*88<=140737488355328),.o 54<|.e<|lM<|oF<|ue a p (y+1) (ny a p y).1,.a (U:((y+1)+[oF<|ue a p (y+1) (ny a p y).1].length)*88<=140737488355328),iN<|((y+1:Nat):Int)+1]<|.e<|af [.b 26 (ad4 o.2.len:Bx.le (.row aa 33 ((y+1)+[oF<|ue a p (y+1) (ny a p y).1].length) 7 λi j=>if i<(y+1)then(jf (ny a p y).2) i j else(E.lO<|K [oF<|ue a p (y+1) (ny a p y).1]) (i-(y+1)) j)<|.row aa 33 ((y+1)+1) 7<|jf (ny a p<|y+1).2),.b 16 (ad4 o.1.len:Bx.le (.row aa 33 ((y+1)+[ue a p (y+1) (ny a p y).2].length) 7 λi j=>if i<(y+1)then(jf (ny a p y).1) i j else(E.lO<|K [ue a p (y+1) (ny a p y).2]) (i-(y+1)) j)<|.row aa 33 ((y+1)+1) 7<|jf (ny a p<|y+1).1)]) aI)
  (λx=>by
    exact iU (af [tF 37 ((((a.length-1)+1:Nat):Int)<a.length) U]) aI) aM:jK 6 f209 (aeq a p 0) (.exit 0) ⟨59,aa,[(5,.own 26),(4,.own 16)],[(26,.row aa 33 ((a.length-1)+1) 7<|jf (ny a p<|a.length-1).2),(16,.row aa 33 ((a.length-1)+1) 7<|jf (ny a p<|a.length-1).1)]⟩)<|af [.b 6<|.refl<|.cells 3 [D ((0+1:Nat):Int)],.b 26 (ad3:Bx.le (.row aa 33 (0+[yT (a.getD 0 L) p].length) 7 λi j=>if i<0 then(λ_ j=>au.getD j .any) i j else(E.lO<|K [yT (a.getD 0 L) p]) (i-0) j)<|.row aa 33 (0+1) 7<|jf (ny a p 0).2),.b 16 (ad3:Bx.le (.row aa 33 (0+[yW (a.getD 0 L) p].length) 7 λi j=>if i<0 then(λ_ j=>au.getD j .any) i j else(E.lO<|K [yW (a.getD 0 L) p]) (i-0) j)<|.row aa 33 (0+1) 7<|jf (ny a p 0).1)]]<|rR (.iO [K (ny a p<|a.length-1).1,K (ny a p<|a.length-1).2]) (.iO<|.cons (AJ<|by rw[o.1.len])<|.cons (AJ<|by rw[o.2.len]) .nil:E.le (.iO [.sl aa ((a.length-1)+1) 7<|jf (ny a p<|a.length-1).1,.sl aa ((a.length-1)+1) 7<|jf (ny a p<|a.length-1).2])<|.iO [K (ny a p<|a.length-1).1,K (ny a p<|a.length-1).2]))
def asZ(out:List Iv)(i k p m:Nat)(t:1<=i)(x:i<k)(y:k<=m)(h:k<=17)(v:ns out)(I:8<=p)(C:p<=512):iB 268 [D i,(.jE 1 λ_=>.sl aa m 7<|jf out),(.jE 1 λj=>[D k].getD j .any),(.jE 1 λj=>[D p].getD j .any)]<|O<|B (out.getD i L) (out.getD (k-i) L) p:=by
 have z:=v i;have u:=v<|k-i;exact iL<|af [iX (i:Int) m,iN<|(k:Int)-i,.o 13<|oI ((k:Int)-i) ((k-i:Nat):Int),iX ((k-i:Nat):Int) m,.c<|uo (out.getD i L) (out.getD (k-i) L) p Z Z]
def as0(a:List Iv)(n p:Nat)(z:1<=n)(m:n<=17)(y:kV n a)(I:8<=p)(C:p<=512)(F:xw):iB 210 [K a,D p]<|K<|Ej a p:=by
 have g:=y.len;have v:=y.ok 0;have Q:(λ_:Nat=>(0:Nat)) 0=0:=rfl;have c:=oh<|rV (a.getD 0 L) p;exact iL (Y [.o 10 (.e<|DU _:aj (.sl aa 1 1 λu h=>[K a].getD (u*1+h)<|.v<|.bool ac)<|kX [a]),.c<|yJ [a] n U U aK<|Db Z,.a (U:0<=(0:Int)/\(0:Int)<=((a.length:Int):Int)),.a (U:((88:Nat):Int)*(a.length:Int)<=281474976710656/\((a.length:Int):Int)<=9223372036854775807),.a (U:0<1),
  iX 0 (a.length),.c<|X6 (a.getD 0 L) Z p U U F,.o 22<|.e<|lM<|rV (a.getD 0 L) p,.a (U:0<1),.a (U:((λ_=>0) 0+[rV (a.getD 0 L) p].length)*88<=140737488355328),.a (rfl:0=0),.a (rfl:0=0),.a (U:0<1),.a (U:0<1),.a (U:0<1),.a (aK:0<=(0:Int)/\(0:Int)<(((λq=>if q=0 then(λ_=>0) q+[rV (a.getD 0 L) p].length else(λ_=>0) q) 0:Nat):Int)),.a (U:0<1),.a (aK:0<((λq=>if q=0 then(λ_=>0) q+[rV (a.getD 0 L) p].length else(λ_=>0) q) 0)),.c<|LF ([rV (a.getD 0 L) p].getD 0 L) (Jc _ _) 1 aG aG,.s (Sp.jL (aer a p) 1 a.length U (λx t b=>by
    have w:(λ_:Nat=>x) 0=x:=rfl;have o:kV x<|jx (pU a p) x:=CO x λk l _ _=>by unfold pU;split<;>first|exact Jc _ _|exact su _ _ 
    have s:=G9 (U:1<=p) (U:p<=4096) (y.ok x) (T:=(λi=>B ((jx (pU a p) x).getD i L) ((jx (pU a p) x).getD (x-i) L) p)) (a:=1) (x-1) λ_ _ _=>nZ _ _ U U 
    have f:=y.ok x;have r:(nM (rV (a.getD 0 L) p) 1).iE:=KX (Jc _ _) 1;have e:=oh<|jC (oM p (a.getD x L) (λi=>B ((jx (pU a p) x).getD i L) ((jx (pU a p) x).getD (x-i) L) p) 1<|x-1) (nM (rV (a.getD 0 L) p) 1) p;exact iU (Y [tT 31 ((x:Int)<a.length) U,iX (x:Int)<|a.length,iN<|(x:Int)-1,.c (aee _ (y.ok x) 1 (x-1) p _ U _ _ (λi=>B ((jx (pU a p) x).getD i L) ((jx (pU a p) x).getD (x-i) L) p) U I C λi z d=>⟨nZ _ _ U U,asZ _ i x p _ z U U U o.ok I C⟩:iB 254 [O<|a.getD x L,D 1,D<|(x:Int)-1,D p,.fn 268 [(.jE 1 λ_=>(.sl aa ((λ_=>x) 0) 7<|(λ_=>jf<|jx (pU a p) x) 0)),(.jE 1 λh=>[D x].getD h .any),(.jE 1 λh=>[D p].getD h .any)]] _),.a (J9 _:yE<|O<|oM p (a.getD x L) (λi=>B ((jx (pU a p) x).getD i L) ((jx (pU a p) x).getD (x-i) L) p) 1<|x-1),.a (U:0<1),.c<|Cv (oM p (a.getD x L) (λi=>B ((jx (pU a p) x).getD i L) ((jx (pU a p) x).getD (x-i) L) p) 1<|x-1) (nM (rV (a.getD 0 L) p) 1) p Z Z,.o 48<|.e<|lM<|jC (oM p (a.getD x L) (λi=>B ((jx (pU a p) x).getD i L) ((jx (pU a p) x).getD (x-i) L) p) 1<|x-1) (nM (rV (a.getD 0 L) p) 1) p,.a (U:0<1),.a (U:((λ_=>x) 0+[jC (oM p (a.getD x L) (λi=>B ((jx (pU a p) x).getD i L) ((jx (pU a p) x).getD (x-i) L) p) 1<|x-1) (nM (rV (a.getD 0 L) p) 1) p].length)*88<=140737488355328),.a (rfl:0=0),.a (rfl:0=0),.a (U:0<1),iN<|(x:Int)+1]<|.e<|af [.b 5 (TP<|by unfold pU;rw[bn U]:Bx.le (.kn aa 26 33 1 7 (λq=>if q=0 then(λ_=>x) q+[jC (oM p (a.getD x L) (λi=>B ((jx (pU a p) x).getD i L) ((jx (pU a p) x).getD (x-i) L) p) 1<|x-1) (nM (rV (a.getD 0 L) p) 1) p].length else(λ_=>x) q) (λq i j=>if q=0 then(if i<(λ_=>x) q then(λ_=>jf<|jx (pU a p) x) q i j else(E.lO<|K [jC (oM p (a.getD x L) (λi=>B ((jx (pU a p) x).getD i L) ((jx (pU a p) x).getD (x-i) L) p) 1<|x-1) (nM (rV (a.getD 0 L) p) 1) p]) (i-(λ_=>x) q) j)else(λ_=>jf<|jx (pU a p) x) q i j) .none)<|.kn aa 26 33 1 7 (λ_=>(x+1)) (λ_=>jf<|jx (pU a p)<|x+1) .none)]) aI)
  (λt=>by
    exact iU (af [tF 31 ((a.length:Int)<a.length) U]) aI) aM:jK 7 f210 (aer a p 1) (.exit 0) ⟨52,aa,[(5,.oe 5 1 0 0)],[(5,.kn aa 26 33 1 7 (λ_=>a.length) (λ_=>jf<|jx (pU a p) a.length) .none)]⟩)<|af [.b 5 (adm rfl:Bx.le (.kn aa 26 33 1 7 (λq=>if q=0 then(λ_=>0) q+[rV (a.getD 0 L) p].length else(λ_=>0) q) (λq i j=>if q=0 then(if i<(λ_=>0) q then(λ_=>λ_ h=>au.getD h .any) q i j else(E.lO<|K [rV (a.getD 0 L) p]) (i-(λ_=>0) q) j)else(λ_=>λ_ h=>au.getD h .any) q i j) .none)<|.kn aa 26 33 1 7 (λ_=>1) (λ_=>jf<|jx (pU a p) 1) .none)],.a (U:0<1)]<|rR (K<|Ej a p) (AJ (xs:=Ej a p)<|by unfold Ej;rw[zI]:E.le (.sl aa ((λ_=>a.length) 0) 7<|(λ_=>jf<|jx (pU a p) a.length) 0)<|K<|Ej a p))
def tI(a:List Iv)(h:Iv)(p m:Nat):Nat->Iv
 | 0=>a.getD m L
 |n+1=>jN (a.getD (m-(n+1)) L) (B (tI a h p m n) h p) p
def nv(a:List Iv)(h:Iv)(p:Nat):Iv:=tI a h p (a.length-1)<|a.length-1
def RL{a:List Iv}{h:Iv}{p m:Nat}(x:1<=p)(i:p<=4096)(v:ns a):∀ n,(tI a h p m n).iE
 | 0=>v m
 |n+1=>sN (v _) (nZ _ _ x i) x i
def KY(o:nC)(a b:List Iv)(n p:Nat)(h:1<=n)(m:n<=17)(x:kV n a)(z:kV n b)(i:8<=p)(C:p<=512)(d:3<=o.kind)(c:o.kind<=13)(e:o.n<=16)(F:o.kind<=8\/xw):iB 146 [D o.kind,D o.n,K a,K b,D p]<|K<|oO o a b p:=
 iL (.w ((o.kind:Int)=3)
  (λu=>Y [S 17<|bg u,.c<|asL a b n p h m x z i C]<|V (K<|AS a b p) (K<|oO o a b p)<|by unfold oO;simp[(U:o.kind=3)])
  (λu=>Y [S 17<|bd u]<|.w ((o.kind:Int)=4)
   (λv=>Y [S 23<|bg v,.c<|as2 a b n p h m x z i C]<|V (K<|BL a b p) (K<|oO o a b p)<|by unfold oO;simp[(U:¬o.kind=3),(U:o.kind=4)])
   (λv=>Y [S 23<|bd v]<|.w ((o.kind:Int)=5)
    (λt=>Y [S 29<|bg t,.c<|asR a b n p h m x z i C]<|V (K<|qK a b p) (K<|oO o a b p)<|by unfold oO;simp[(U:¬o.kind=3),(U:¬o.kind=4),(U:o.kind=5)])
    (λt=>Y [S 29<|bd t]<|.w ((o.kind:Int)=6)
     (λs=>Y [S 35<|bg s,.c<|asN a b n p h m x z i C]<|V (K<|yQ a b p) (K<|oO o a b p)<|by unfold oO;simp[(U:¬o.kind=3),(U:¬o.kind=4),(U:¬o.kind=5),(U:o.kind=6)])
     (λs=>Y [S 35<|bd s]<|.w ((o.kind:Int)=7)
      (λr=>Y [S 41<|bg r,.c<|asT a n h m x]<|V (K<|Bv a) (K<|oO o a b p)<|by unfold oO;simp[(U:¬o.kind=3),(U:¬o.kind=4),(U:¬o.kind=5),(U:¬o.kind=6),(U:o.kind=7)])
      (λr=>Y [S 41<|bd r]<|.w ((o.kind:Int)=8)
       (λq=>Y [S 45<|bg q,.c<|asY a n p o.n h m x i C e]<|V (K<|qh a o.n p) (K<|oO o a b p)<|by unfold oO;simp[(U:¬o.kind=3),(U:¬o.kind=4),(U:¬o.kind=5),(U:¬o.kind=6),(U:¬o.kind=7),(U:o.kind=8)])
       (λq=>Y [S 45<|bd q]<|.w ((o.kind:Int)=9)
        (λl=>Y [S 51<|bg l,.c<|asP a n p h m x i C<|F.resolve_left U]<|V (K<|Dq a p) (K<|oO o a b p)<|by unfold oO;simp[(U:¬o.kind=3),(U:¬o.kind=4),(U:¬o.kind=5),(U:¬o.kind=6),(U:¬o.kind=7),(U:¬o.kind=8),(U:o.kind=9)])
        (λl=>Y [S 51<|bd l]<|.w ((o.kind:Int)=10)
         (λg=>Y [S 56<|bg g,.c<|asQ a n p h m x i C<|F.resolve_left U]<|V (K<|Hb a p) (K<|oO o a b p)<|by unfold oO;simp[(U:¬o.kind=3),(U:¬o.kind=4),(U:¬o.kind=5),(U:¬o.kind=6),(U:¬o.kind=7),(U:¬o.kind=8),(U:¬o.kind=9),(U:o.kind=10)])
         (λg=>Y [S 56<|bd g]<|.w ((o.kind:Int)=11)
          (λf=>Y [S 61<|bg f,.c<|aeo a n p h m x i C<|F.resolve_left U]<|V (K<|(ny a p<|a.length-1).1) (K<|oO o a b p)<|by unfold oO;simp[(U:¬o.kind=3),(U:¬o.kind=4),(U:¬o.kind=5),(U:¬o.kind=6),(U:¬o.kind=7),(U:¬o.kind=8),(U:¬o.kind=9),(U:¬o.kind=10),(U:o.kind=11)])
          (λf=>Y [S 61<|bd f]<|.w ((o.kind:Int)=12)
           (λk=>Y [S 70<|bg k,.c<|aeo a n p h m x i C<|F.resolve_left U]<|V (K<|(ny a p<|a.length-1).2) (K<|oO o a b p)<|by unfold oO;simp[(U:¬o.kind=3),(U:¬o.kind=4),(U:¬o.kind=5),(U:¬o.kind=6),(U:¬o.kind=7),(U:¬o.kind=8),(U:¬o.kind=9),(U:¬o.kind=10),(U:¬o.kind=11),(U:o.kind=12)])
           (λk=>Y [S 70<|bd k]<|.w ((o.kind:Int)=13)
            (λy=>Y [S 79<|bg y,.c<|as0 a n p h m x i C<|F.resolve_left U]<|V (K<|Ej a p) (K<|oO o a b p)<|by unfold oO;simp[(U:¬o.kind=3),(U:¬o.kind=4),(U:¬o.kind=5),(U:¬o.kind=6),(U:¬o.kind=7),(U:¬o.kind=8),(U:¬o.kind=9),(U:¬o.kind=10),(U:¬o.kind=11),(U:¬o.kind=12),(U:o.kind=13)])
            (λy=>.x U))))))))))))
section
variable(t:qo)(i:List<|List Iv)(k p:Nat)(x:Nat)
noncomputable def aaB:PS:=⟨98,aa,[(21,.e<|D x),(20,.e<|D t.iz.length),(19,.e<|mf t.iz),(9,.own 15),(4,.box 4 0),(2,.e<|D k),(3,.e<|D p)],[(15,.row aa 26 ((jm t.iz i k p x).length) 1<|mX<|jm t.iz i k p x),(4,.cells 25 [D t.iK,mf t.iz,mh t.iR])]⟩
noncomputable def aaC:PS:=⟨98,aa,[(12,.own 12),(85,.e<|D x),(84,.e<|D t.iR.length),(83,.e<|mh t.iR),(9,.own 15)],[(12,.row aa 26 (((t.iR.take x).map λj=>(jm t.iz i k p t.iz.length).getD j []).length) 1<|mX<|(t.iR.take x).map λj=>(jm t.iz i k p t.iz.length).getD j []),(15,.row aa 26 ((jm t.iz i k p t.iz.length).length) 1<|mX<|jm t.iz i k p t.iz.length)]⟩
end
abbrev aaU(n:Nat)(M:List<|List Iv):E:=.mT ac aa n 1 λk _=>.mT aa aa (kG M k) 7<|mv M k
def aaz(s:jS)(n:Nat)(M:List<|List Iv)(k:Nat)(x:Nat):PS:=⟨43,aa,[(7,.own 7),(14,.e<|D x),(13,.e<|D n),(12,.e<|aaU n M),(3,.box 3 0),(2,.e<|D k)],[(7,.row aa 26 (((M.take x).map λc=>c.take<|k+1).length) 1<|mX<|(M.take x).map λc=>c.take<|k+1),(3,.cells 28 [D s.tape.iK,mf s.tape.iz,mh s.tape.iR,D s.iZ,K s.params])]⟩
def aaA(s:jS)(n:Nat)(M:List<|List Iv)(k:Nat)(x:Nat):PS:=⟨43,aa,[(31,.e<|D x),(30,.e<|D s.params.length),(29,.e<|K s.params),(7,.own 7),(2,.e<|D k)],[(7,.row aa 26 (((M.map λc=>c.take<|k+1)++(s.params.take x).map λa=>lJ a k).length) 1<|mX<|(M.map λc=>c.take<|k+1)++(s.params.take x).map λa=>lJ a k)]⟩
section
variable(s:jS)(x:List Iv)
noncomputable def mD(p n i:Nat):List<|List Iv:=(be x.length).map λq=>(jb s x p n).getD q []++(if q<i then[DZ s (jb s x p n) p n q]else[])
def aaG(k p:Nat)(w:Nat):PS:=⟨72,aa,[(9,.own 9),(18,.e<|D w),(17,.e<|D x.length),(16,.e<|K x),(4,.box 4 0),(2,.e<|D k),(3,.e<|D p)],[(9,.kn aa 26 33 w 7 (kG<|x.map λy=>[y]) (mv<|x.map λy=>[y]) .none),(4,.cells 28 [D s.tape.iK,mf s.tape.iz,mh s.tape.iR,D s.iZ,K s.params])]⟩
noncomputable def aaH(k p:Nat)(m:Nat):PS:=⟨72,aa,[(29,.e<|D m),(28,.e<|D k),(9,.own 9),(4,.box 4 0),(3,.e<|D p)],[(9,.kn aa 26 33 x.length 7 (kG<|jb s x p m) (mv<|jb s x p m) .none),(4,.cells 28 [D s.tape.iK,mf s.tape.iz,mh s.tape.iR,D s.iZ,K s.params])]⟩
noncomputable def aaI(k p m:Nat)(w:Nat):PS:=⟨72,aa,[(47,.e<|D w),(46,.e<|D x.length),(14,.box 14 0),(13,.e<|kX<|qq s.tape (pr s (jb s x p m) m) m p),(12,.e<|D m),(29,.e<|D m),(28,.e<|D k),(9,.own 9),(4,.box 4 0),(3,.e<|D p)],[(14,.cells 33<|jv<|jX<|m+1),(9,.kn aa 26 33 x.length 7 (kG<|mD s x p m w) (mv<|mD s x p m w) .none),(4,.cells 28 [D s.tape.iK,mf s.tape.iz,mh s.tape.iR,D s.iZ,K s.params])]⟩
end
def SH{T n h:Nat}{M M':List<|List Iv}{r:List Iv}{p:E}(x:n=M.length)(w:h=M'.length)(k:∀ j,j<1->p.lO 0 j=K r)(y:M'=M++[r]):
 Bx.le (.row aa T (n+1) 1 λi j=>if i<n then mX M i j else(E.lO p) (i-n) j) (.row aa T h 1<|mX M'):=by
 subst y w;exact aor x rfl k
def uQ(T:Nat){M M':List<|List Iv}{r:List Iv}(h:M'=M++[r]):=SH (T:=T) (n:=M.length) (p:=.sl aa 1 1 λi x=>[K r].getD (i*1+x)<|.v<|.bool ac) rfl rfl (λj k=>by obtain rfl:j=0:= U;rfl) h
def abl{T n h:Nat}{M:List<|List Iv}{e:Nat->Nat->E}(x:n=M.length)(w:h=M.length):Bx.le (.row aa T (0+n) 1 λi j=>if i<0 then e i j else(E.lO<|kX M) (i-0) j)<|.row aa T h 1<|mX M:=by
 subst w;refine .row U λi j k y=>?_
 rw[bn<|bD i,dI];exact⟨.jB rfl,Sm _⟩
def NA{T n:Nat}{e:Nat->Nat->E}{M:List<|List Iv}(h:M=[])(x:n=M.length):Bx.le (.row aa T 0 1 e)<|.row aa T n 1<|mX M:=by
 subst x h;exact .row rfl λi j k=>absurd k<|bD i
def He{h y:Type}(f:h->y)(l:List h)(d:h){x:Nat}(k:x<l.length:=by omega):(l.take<|x+1).map f=(l.take x).map f++[f<|l.getD x d]:=by
 rw[awk,bH k,fU];congr 1;rw[bB,bH k];rfl
def anC(t:qo)(i:List<|List Iv)(k p:Nat)(h:zT t)(w:wL (k+1) i)(X:i.length=t.iK)(y:k<=16)(I:8<=p)(C:p<=512):iB 86 [El t,kX i,D k,D p]<|kX<|qq t i k p:=by
 have T:=h.iK;have H:=h.iz;have J:=h.iR;have R:=FX (p:=p) t.iz i k t.iz.length;exact iL (Y [.bo,.a (U:(0+i.length)*24<=140737488355328),.s (Sp.jL (aaB t i k p) 0 t.iz.length U (λx e F=>by
    have W:=h.op x U;have R:=FX (p:=p) t.iz i k x;have zx:=KT (U:1<=p) (U:p<=4096) h w X x U;by_cases l:((t.iz.getD x o)).kind=1
    .have n:(jm t.iz i k p<|x+1)=(jm t.iz i k p x)++[oi (t.iz.getD x o) (jm t.iz i k p x) k p]:=rfl;have m:((t.iz.getD x o)).kind=1:=l;have⟨u,v,s,S⟩:=W.num m;rw[show oi (t.iz.getD x o) (jm t.iz i k p x) k p=(lJ (qj (t.iz.getD x o).cn (t.iz.getD x o).cd p) k)by unfold oi;rw[bt m]]at n;exact iU (Y [tT 22 ((x:Int)<t.iz.length) U,iX (x:Int)<|t.iz.length,tE 47 ((t.iz.getD x o).kind:Int) 1,.c<|ac9 ((t.iz.getD x o).cn) ((t.iz.getD x o).cd) p Z U U,.c<|ad7 (qj ((t.iz.getD x o).cn) ((t.iz.getD x o).cd) p) (Ub _ _ U U) k U,.a (U:((jm t.iz i k p x).length+1)*24<=140737488355328),iN<|(x:Int)+1]<|.e<|af [.b 15<|uQ 26 n]) aI 
    .by_cases y:((t.iz.getD x o)).kind<=6
     .by_cases Q:((t.iz.getD x o)).kind=3
      .have n:(jm t.iz i k p<|x+1)=(jm t.iz i k p x)++[oi (t.iz.getD x o) (jm t.iz i k p x) k p]:=rfl;have q:((t.iz.getD x o)).kind≠1:=l;have m:((t.iz.getD x o)).kind<=6:=y;have r:=W.Ar;have G:=W.k3.resolve_left q;have A:=W.yI q;have B:=zD W;have g:=zx (t.iz.getD x o).a U;have⟨u,v,s,d,c,b⟩:=W.zV q m;have a:=zx (t.iz.getD x o).b U;rw[show oi (t.iz.getD x o) (jm t.iz i k p x) k p=(oO (t.iz.getD x o) ((jm t.iz i k p x).getD (t.iz.getD x o).a []) ((jm t.iz i k p x).getD ((t.iz.getD x o).b) []) p)by unfold oi wO;rw[bn q,bu m];rfl]at n;exact iU (Y [tT 22 ((x:Int)<t.iz.length) U,iX (x:Int)<|t.iz.length,tN 47 ((t.iz.getD x o).kind:Int) 1,tE 58 ((t.iz.getD x o).kind:Int) 3,
        iX ((t.iz.getD x o).a:Int) ((jm t.iz i k p x).length),.a (U:(t.iz.getD x o).a<(jm t.iz i k p x).length),
        iX ((t.iz.getD x o).b:Int) ((jm t.iz i k p x).length),.a (U:(t.iz.getD x o).b<(jm t.iz i k p x).length),ag [D ((t.iz.getD x o).kind:Int),D ((t.iz.getD x o).n:Int),K<|(jm t.iz i k p x).getD ((t.iz.getD x o).a) [],K<|(jm t.iz i k p x).getD ((t.iz.getD x o).b) [],D p]<|KY (t.iz.getD x o) _ _ (k+1) p U U Z Z I C U U U W.f,.a (U:((jm t.iz i k p x).length+1)*24<=140737488355328),iN<|(x:Int)+1]<|.e<|af [.b 15<|uQ 26 n]) aI 
      .by_cases P:((t.iz.getD x o)).kind=4
       .have n:(jm t.iz i k p<|x+1)=(jm t.iz i k p x)++[oi (t.iz.getD x o) (jm t.iz i k p x) k p]:=rfl;have q:((t.iz.getD x o)).kind≠1:=l;have m:((t.iz.getD x o)).kind<=6:=y;have r:=W.Ar;have G:=W.k3.resolve_left q;have A:=W.yI q;have B:=zD W;have g:=zx (t.iz.getD x o).a U;have⟨u,v,s,d,c,b⟩:=W.zV q m;have a:=zx (t.iz.getD x o).b U;rw[show oi (t.iz.getD x o) (jm t.iz i k p x) k p=(oO (t.iz.getD x o) ((jm t.iz i k p x).getD (t.iz.getD x o).a []) ((jm t.iz i k p x).getD ((t.iz.getD x o).b) []) p)by unfold oi wO;rw[bn q,bu m];rfl]at n;exact iU (Y [tT 22 ((x:Int)<t.iz.length) U,iX (x:Int)<|t.iz.length,tN 47 ((t.iz.getD x o).kind:Int) 1,tN 58 ((t.iz.getD x o).kind:Int) 3,tE 59 ((t.iz.getD x o).kind:Int) 4,iX ((t.iz.getD x o).a:Int)<|(jm t.iz i k p x).length,.a (U:(t.iz.getD x o).a<(jm t.iz i k p x).length),
         iX ((t.iz.getD x o).b:Int) ((jm t.iz i k p x).length),.a (U:(t.iz.getD x o).b<(jm t.iz i k p x).length),ag [D ((t.iz.getD x o).kind:Int),D ((t.iz.getD x o).n:Int),K<|(jm t.iz i k p x).getD ((t.iz.getD x o).a) [],K<|(jm t.iz i k p x).getD ((t.iz.getD x o).b) [],D p]<|KY (t.iz.getD x o) _ _ (k+1) p U U Z Z I C U U U W.f,.a (U:((jm t.iz i k p x).length+1)*24<=140737488355328),iN<|(x:Int)+1]<|.e<|af [.b 15<|uQ 26 n]) aI 
       .by_cases N:((t.iz.getD x o)).kind=5
        .have n:(jm t.iz i k p<|x+1)=(jm t.iz i k p x)++[oi (t.iz.getD x o) (jm t.iz i k p x) k p]:=rfl;have q:((t.iz.getD x o)).kind≠1:=l;have m:((t.iz.getD x o)).kind<=6:=y;have r:=W.Ar;have G:=W.k3.resolve_left q;have A:=W.yI q;have B:=zD W;have g:=zx (t.iz.getD x o).a U;have⟨u,v,s,d,c,b⟩:=W.zV q m;have a:=zx (t.iz.getD x o).b U;rw[show oi (t.iz.getD x o) (jm t.iz i k p x) k p=(oO (t.iz.getD x o) ((jm t.iz i k p x).getD (t.iz.getD x o).a []) ((jm t.iz i k p x).getD ((t.iz.getD x o).b) []) p)by unfold oi wO;rw[bn q,bu m];rfl]at n;exact iU (Y [tT 22 ((x:Int)<t.iz.length) U,iX (x:Int)<|t.iz.length,tN 47 ((t.iz.getD x o).kind:Int) 1,tN 58 ((t.iz.getD x o).kind:Int) 3,tN 59 ((t.iz.getD x o).kind:Int) 4,tE 60 ((t.iz.getD x o).kind:Int) 5,iX ((t.iz.getD x o).a:Int)<|(jm t.iz i k p x).length,.a (U:(t.iz.getD x o).a<(jm t.iz i k p x).length),iX ((t.iz.getD x o).b:Int)<|(jm t.iz i k p x).length,.a (U:(t.iz.getD x o).b<(jm t.iz i k p x).length),ag [D ((t.iz.getD x o).kind:Int),D ((t.iz.getD x o).n:Int),K<|(jm t.iz i k p x).getD ((t.iz.getD x o).a) [],K<|(jm t.iz i k p x).getD ((t.iz.getD x o).b) [],D p]<|KY (t.iz.getD x o) _ _ (k+1) p U U Z Z I C U U U W.f,.a (U:((jm t.iz i k p x).length+1)*24<=140737488355328),iN<|(x:Int)+1]<|.e<|af [.b 15<|uQ 26 n]) aI 
        .have n:(jm t.iz i k p<|x+1)=(jm t.iz i k p x)++[oi (t.iz.getD x o) (jm t.iz i k p x) k p]:=rfl;have q:((t.iz.getD x o)).kind≠1:=l;have m:((t.iz.getD x o)).kind<=6:=y;have r:=W.Ar;have G:=W.k3.resolve_left q;have A:=W.yI q;have B:=zD W;have g:=zx (t.iz.getD x o).a U;have⟨u,v,s,d,c,b⟩:=W.zV q m;have a:=zx (t.iz.getD x o).b U;rw[show oi (t.iz.getD x o) (jm t.iz i k p x) k p=(oO (t.iz.getD x o) ((jm t.iz i k p x).getD (t.iz.getD x o).a []) ((jm t.iz i k p x).getD ((t.iz.getD x o).b) []) p)by unfold oi wO;rw[bn q,bu m];rfl]at n;exact iU (Y [tT 22 ((x:Int)<t.iz.length) U,iX (x:Int)<|t.iz.length,tN 47 ((t.iz.getD x o).kind:Int) 1,tN 58 ((t.iz.getD x o).kind:Int) 3,tN 59 ((t.iz.getD x o).kind:Int) 4,tN 60 ((t.iz.getD x o).kind:Int) 5,tE 61 ((t.iz.getD x o).kind:Int) 6,iX ((t.iz.getD x o).a:Int)<|(jm t.iz i k p x).length,.a (U:(t.iz.getD x o).a<(jm t.iz i k p x).length),iX ((t.iz.getD x o).b:Int)<|(jm t.iz i k p x).length,.a (U:(t.iz.getD x o).b<(jm t.iz i k p x).length),ag [D ((t.iz.getD x o).kind:Int),D ((t.iz.getD x o).n:Int),K<|(jm t.iz i k p x).getD ((t.iz.getD x o).a) [],K<|(jm t.iz i k p x).getD ((t.iz.getD x o).b) [],D p]<|KY (t.iz.getD x o) _ _ (k+1) p U U Z Z I C U U U W.f,.a (U:((jm t.iz i k p x).length+1)*24<=140737488355328),iN<|(x:Int)+1]<|.e<|af [.b 15<|uQ 26 n]) aI 
     .have n:(jm t.iz i k p<|x+1)=(jm t.iz i k p x)++[oi (t.iz.getD x o) (jm t.iz i k p x) k p]:=rfl;have q:((t.iz.getD x o)).kind≠1:=l;have m:¬((t.iz.getD x o)).kind<=6:=y;have r:=W.Ar;have G:=W.k3.resolve_left q;have A:=W.yI q;have B:=zD W;have g:=zx (t.iz.getD x o).a U;rw[show oi (t.iz.getD x o) (jm t.iz i k p x) k p=(oO (t.iz.getD x o) ((jm t.iz i k p x).getD (t.iz.getD x o).a []) ((jm t.iz i k p x).getD ((t.iz.getD x o).a) []) p)by unfold oi wO;rw[bn q,bw m];rfl]at n;exact iU (Y [tT 22 ((x:Int)<t.iz.length) U,iX (x:Int)<|t.iz.length,tN 47 ((t.iz.getD x o).kind:Int) 1,tN 58 ((t.iz.getD x o).kind:Int) 3,tN 59 ((t.iz.getD x o).kind:Int) 4,tN 60 ((t.iz.getD x o).kind:Int) 5,tN 61 ((t.iz.getD x o).kind:Int) 6,iX ((t.iz.getD x o).a:Int)<|(jm t.iz i k p x).length,.a (U:(t.iz.getD x o).a<(jm t.iz i k p x).length),iX ((t.iz.getD x o).a:Int)<|(jm t.iz i k p x).length,.a (U:(t.iz.getD x o).a<(jm t.iz i k p x).length),ag [D ((t.iz.getD x o).kind:Int),D ((t.iz.getD x o).n:Int),K<|(jm t.iz i k p x).getD ((t.iz.getD x o).a) [],K<|(jm t.iz i k p x).getD ((t.iz.getD x o).a) [],D p]<|KY (t.iz.getD x o) _ _ (k+1) p U U Z Z I C U U U W.f,.a (U:((jm t.iz i k p x).length+1)*24<=140737488355328),iN<|(x:Int)+1]<|.e<|af [.b 15<|uQ 26 n]) aI)
  (λe=>by
    exact iU (af [tF 22 ((t.iz.length:Int)<t.iz.length) U]) aI) aM:jK 3 Tryz.f86 (aaB t i k p 0) (.exit 0) ⟨98,aa,[(9,.own 15),(4,.box 4 0)],[(15,.row aa 26 ((jm t.iz i k p t.iz.length).length) 1<|mX<|jm t.iz i k p t.iz.length),(4,.cells 25 [D t.iK,mf t.iz,mh t.iR])]⟩)<|af [.b 15 (abl rfl rfl:Bx.le (.row aa 26 (0+i.length) 1 λz f=>if z<0 then(λz f=>([]:List E).getD (z*1+f)<|.v<|.bool ac) z f else(E.lO<|kX i) (z-0) f)<|.row aa 26 ((jm t.iz i k p 0).length) 1<|mX<|jm t.iz i k p 0)],.y 12 12 aa 26 1<|mX [],.s (Sp.jL (aaC t i k p) 0 t.iR.length U (λx e F=>by
    have L:=h.out x U;have zy:((t.iR.take x).map λj=>(jm t.iz i k p t.iz.length).getD j []).length<=200:=by rw[cI,cz];omega
    exact iU (Y [tT 86 ((x:Int)<t.iR.length) U,iX (x:Int)<|t.iR.length,iX (t.iR.getD x 0:Int)<|(jm t.iz i k p t.iz.length).length,.a (U:(t.iR.getD x 0)<(jm t.iz i k p t.iz.length).length),.a (U:(((t.iR.take x).map λj=>(jm t.iz i k p t.iz.length).getD j []).length+1)*24<=140737488355328),
     iN ((x:Int)+1)]<|.e<|af [.b 12<|uQ 26 (M:=(t.iR.take x).map λj=>(jm t.iz i k p t.iz.length).getD j [])<|He _ t.iR 0]) aI)
  (λe=>by
    exact iU (Y [tF 86 ((t.iR.length:Int)<t.iR.length) U,.z 12]<|.e<|af [.o 12 (.e<|NB rfl:aj (.sl aa (((t.iR.take t.iR.length).map λj=>(jm t.iz i k p t.iz.length).getD j []).length) 1<|mX<|(t.iR.take t.iR.length).map λj=>(jm t.iz i k p t.iz.length).getD j [])<|kX<|(t.iR.take t.iR.length).map λj=>(jm t.iz i k p t.iz.length).getD j [])]) aI) aM:jK 17 Tryz.f86 (aaC t i k p 0) (.exit 3) ⟨98,aa,[(12,.e<|kX<|(t.iR.take t.iR.length).map λj=>(jm t.iz i k p t.iz.length).getD j [])],[]⟩)<|af [.b 12 (NA aK rfl:Bx.le (.row aa 26 0 1<|mX [])<|.row aa 26 (((t.iR.take 0).map λj=>(jm t.iz i k p t.iz.length).getD j []).length) 1<|mX<|(t.iR.take 0).map λj=>(jm t.iz i k p t.iz.length).getD j [])]]<|V (kX<|(t.iR.take t.iR.length).map λj=>(jm t.iz i k p t.iz.length).getD j []) (kX<|qq t i k p)<|by unfold qq;rw[dV])
def auz{M:List<|List Iv}{x q m:Nat}{e:Nat->Nat->E}(h:q=m)(y:m<=(M.getD x []).length):E.le (.sl aa (0+q) 7 λi j=>if i<0 then e i j else mv M x (i-0) j)<|K<|(M.getD x []).take m:=by
 subst h;have l:((M.getD x []).take q).length=0+q:=by rw[cz];omega
 unfold K;rw[l];refine .sl λi j z k=>?_
 rw[bn<|bD i,dI];refine⟨.jB ?_,tK _ _ k⟩;show(jv<|(M.getD x []).getD i L).getD j .any=(jv<|((M.getD x []).take q).getD i L).getD j .any;congr 2;simp only[bB];rw[axf U]
def anB(s:jS)(n k:Nat)(M:List<|List Iv)(h:mE s)(v:n=M.length)(H:n<=8)(p:k<=16)(t:∀ i,i<n->k+1<=(M.getD i []).length)(l:∀ i,i<n->(M.getD i []).length<=17):iB 87 [kH s,aaU n M,D k]<|kX<|pr s M k:=by
 have m:=h.p4;exact iL (Y [.y 7 7 aa 26 1<|mX [],.s (Sp.jL (aaz s n M k) 0 n U (λx u d=>by
    have C:kG M x=(M.getD x []).length:=rfl;have R:=t x U;have r:=l x U;have q:((M.take x).map λc=>c.take<|k+1).length<=8:=by rw[cI,cz];omega
    exact iU (Y [tT 15 ((x:Int)<n) U,iX (x:Int) n,.bo,iN<|(k:Int)+1,.a (U:0<=(((k+1:Nat):Int):Int)/\(((k+1:Nat):Int):Int)<=(kG M x:Int)),.bo,.a (U:(0+(k+1))*88<=140737488355328),.o 24 (.e<|auz U R:aj (.sl aa (0+(k+1)) 7 λy z=>if y<0 then(λy z=>([]:List E).getD (y*7+z)<|.v<|.bool ac) y z else(E.lO<|.mT aa aa (k+1) 7<|E.lO<|.mT aa aa (kG M x) 7<|mv M x) (y-0) z)<|K<|(M.getD x []).take<|k+1),.o 25 (.refl _:aj (.sl aa 1 1 λy z=>[K<|(M.getD x []).take<|k+1].getD (y*1+z)<|.v<|.bool ac)<|.sl aa 1 1 λy z=>[K<|(M.getD x []).take<|k+1].getD (y*1+z)<|.v<|.bool ac),.a (U:(((M.take x).map λc=>c.take<|k+1).length+1)*24<=140737488355328),iN<|(x:Int)+1]<|.e<|af [.b 7<|uQ 26 (M:=(M.take x).map λc=>c.take<|k+1)<|He _ M []]) aI)
  (λu=>by
    exact iU (af [tF 15 ((n:Int)<n) U]) aI) aM:jK 3 Tryz.f87 (aaz s n M k 0) (.exit 0) ⟨43,aa,[(7,.own 7),(3,.box 3 0),(2,.e<|D k)],[(7,.row aa 26 (((M.take n).map λc=>c.take<|k+1).length) 1<|mX<|(M.take n).map λc=>c.take<|k+1),(3,.cells 28 [D s.tape.iK,mf s.tape.iz,mh s.tape.iR,D s.iZ,K s.params])]⟩)<|af [.b 7 (NA aK rfl:Bx.le (.row aa 26 0 1<|mX [])<|.row aa 26 (((M.take 0).map λc=>c.take<|k+1).length) 1<|mX<|(M.take 0).map λc=>c.take<|k+1)],.s (Sp.jL (aaA s n M k) 0 s.params.length U (λx u d=>by
    have g:=(h.params x U).1;have f:((M.map λc=>c.take<|k+1)++(s.params.take x).map λa=>lJ a k).length<=16:=by rw[cD,cI,cI,cz];omega
    exact iU (Y [tT 32 ((x:Int)<s.params.length) U,iX (x:Int)<|s.params.length,.c<|ad7 (s.params.getD x L) Z k U,.a (U:(((M.map λc=>c.take<|k+1)++(s.params.take x).map λa=>lJ a k).length+1)*24<=140737488355328),iN<|(x:Int)+1]<|.e<|af [.b 7 (SH rfl rfl (λj e=>by obtain rfl:j=0:= U;rfl) (by rw[He (λa=>lJ a k) s.params L,gZ]):Bx.le (.row aa 26 (((M.map λc=>c.take<|k+1)++(s.params.take x).map λa=>lJ a k).length+1) 1 λy z=>if y<((M.map λc=>c.take<|k+1)++(s.params.take x).map λa=>lJ a k).length then(mX<|(M.map λc=>c.take<|k+1)++(s.params.take x).map λa=>lJ a k) y z else(E.lO<|.sl aa 1 1 λy z=>[K<|lJ (s.params.getD x L) k].getD (y*1+z)<|.v<|.bool ac) (y-((M.map λc=>c.take<|k+1)++(s.params.take x).map λa=>lJ a k).length) z)<|.row aa 26 (((M.map λc=>c.take<|k+1)++(s.params.take<|x+1).map λa=>lJ a k).length) 1<|mX<|(M.map λc=>c.take<|k+1)++(s.params.take<|x+1).map λa=>lJ a k)]) aI)
  (λu=>by
    exact iU (Y [tF 32 ((s.params.length:Int)<s.params.length) U,.z 7]<|.e<|af [.o 7 (.e<|NB rfl:aj (.sl aa (((M.map λc=>c.take<|k+1)++(s.params.take s.params.length).map λa=>lJ a k).length) 1<|mX<|(M.map λc=>c.take<|k+1)++(s.params.take s.params.length).map λa=>lJ a k)<|kX<|(M.map λc=>c.take<|k+1)++(s.params.take s.params.length).map λa=>lJ a k)]) aI) aM:jK 8 Tryz.f87 (aaA s n M k 0) (.exit 2) ⟨43,aa,[(7,.e<|kX<|(M.map λc=>c.take<|k+1)++(s.params.take s.params.length).map λa=>lJ a k)],[]⟩)<|af [.b 7 (Bx.le.jB<|by rw[v,dV];simp:Bx.le (.row aa 26 (((M.take n).map λc=>c.take<|k+1).length) 1<|mX<|(M.take n).map λc=>c.take<|k+1)<|.row aa 26 (((M.map λc=>c.take<|k+1)++(s.params.take 0).map λa=>lJ a k).length) 1<|mX<|(M.map λc=>c.take<|k+1)++(s.params.take 0).map λa=>lJ a k)]]<|V (kX<|(M.map λc=>c.take<|k+1)++(s.params.take s.params.length).map λa=>lJ a k) (kX<|pr s M k)<|by unfold pr;rw[dV])
def sf(s:jS)(x:List Iv)(p:Nat):∀ n,(jb s x p n).length=x.length
 | 0=>by simp[jb]
 |n+1=>by simp[jb]
def Sr(s:jS)(x:List Iv)(p n i:Nat):(mD s x p n i).length=x.length:=by simp[mD]
def JZ{s:jS}{x:List Iv}{p n i q:Nat}(h:q<x.length):(mD s x p n i).getD q []=(jb s x p n).getD q []++(if q<i then[DZ s (jb s x p n) p n q]else[]):=by
 simp[mD,bB,h]
section
variable(s:jS)(x:List Iv)(p n:Nat)
def aaF:mD s x p n 0=jb s x p n:=by
 have l:=sf s x p n;apply fI (by rw[Sr,l]);intro q h k;have y:q<x.length:=by rw[Sr]at h;exact h
 have e:=JZ (s:=s) (p:=p) (n:=n) (i:=0) y;rw[bn<|bD q,fp]at e;rw[bB,bH h,bB,bH k]at e;exact e
def aaD:mD s x p n x.length=jb s x p (n+1):=by
 unfold mD;show _=(be x.length).map λi=>(jb s x p n).getD i []++[DZ s (jb s x p n) p n i]
 exact fh λq h=>by rw[bt<|ca.1 h]
end
def yd{s:jS}(h:mE s){x:List Iv}(y:kJ s.iZ x){p:Nat}(I:8<=p)(C:p<=512):∀ n,n<=16->wL (n+1) (jb s x p n)
 | 0,_=>λi k=>by
  have m:i<x.length:=by rw[sf]at k;exact k
  have e:(jb s x p 0).getD i []=[x.getD i L]:=by simp[jb,bB,m]
  rw[e];exact⟨rfl,ns.push ns.nil (y.ok i m).1⟩
 |n+1,hn=>λi k=>by
  have m:i<x.length:=by rw[sf]at k;exact k
  have e:(jb s x p<|n+1).getD i []=(jb s x p n).getD i []++[DZ s (jb s x p n) p n i]:=by simp[jb,bB,m]
  have z:=yd h y I C n U i (by rw[sf];exact m);rw[e];refine⟨by rw[cD,z.len];rfl,z.ok.push ?_⟩;unfold DZ;exact su _ _ 
def Sb{s:jS}(h:mE s){M:List<|List Iv}{n:Nat}(z:wL (n+1) M)(l:M.length=s.iZ):wL (n+1) (pr s M n)/\(pr s M n).length=s.tape.iK:=by
 refine⟨λi y=>?_,by unfold pr;rw[cD,cI,cI,h.iK,l]⟩;unfold pr at y ⊢;rw[cD,cI,cI]at y;rw[bB,eu,cI];split
 .rename_i x;rw[cQ,bH x];have:=z i x;rw[bB,bH x]at this;show kV (n+1) ((M[i]).take<|n+1);rw[cW<|by have:=this.len;simp at this;omega];exact this
 .rename_i x;have k:i-M.length<s.params.length:= U ;rw[cQ,bH k];have:=(h.params _ k).1;rw[bB,bH k]at this;exact WS this n
def asr{T1 T0 n x:Nat}{M M':List<|List Iv}{y:Iv}(h:∀ q,q<n->M'.getD q []=if q=x then M.getD q []++[y]else M.getD q []):
 Bx.le (.kn aa T1 T0 n 7 (λq=>if q=x then kG M q+[y].length else kG M q) (λq i j=>if q=x then(if i<kG M q then mv M q i j else(E.lO<|K [y]) (i-kG M q) j)else mv M q i j) am)
  (.kn aa T1 T0 n 7 (kG M') (mv M') am):=by
 refine .kn rfl (λq k=>?_) (λq i j k z u=>⟨.jB ?_,tK _ _ u⟩)
 .simp only[kG,h q k];split
  .rw [cD]
  .rfl
 .simp only[mv,kG,h q k]at z ⊢;by_cases e:q=x
  .rw [bt e]at z;rw[bt e,bt e];by_cases V:i<(M.getD q []).length
   .rw [bt V];congr 2;simp only[bB]at V ⊢;rw[eF V]
   .rw [bn V];have v:i=(M.getD q []).length:=by
     rw[gU]at z;omega
    subst v;rw[dm];show(jv y).getD j .any=_;congr 2;simp[bB]
  .rw [bn e,bn e]
def Si(y:Iv)(j:Nat)(h:j<7):(jv y).getD (0*7+j) (.v<|.bool ac)=(jv y).getD j .any:=by
 rcases j with _|_|_|_|_|_|_|j
 all_goals first|rfl|omega
def adS{T1 T0 x:Nat}{X:List Iv}{e:Nat->Nat->E}(v:x<X.length)(t:∀ j,j<7->e 0 j=(jv<|X.getD x L).getD j .any):
 Bx.le (.kn aa T1 T0 (x+1) 7 (λk=>if k<x then kG (X.map λy=>[y]) k else 1) (λk=>if k<x then mv (X.map λy=>[y]) k else e) am) (.kn aa T1 T0 (x+1) 7 (kG<|X.map λy=>[y]) (mv<|X.map λy=>[y]) am):=by
 have z:(X.map λy=>[y]).getD x []=[X.getD x L]:=by simp[bB,v]
 refine .kn rfl (λk s=>?_) (λk i j s r u=>⟨.jB ?_,tK _ _ u⟩)
 .by_cases h:k<x
  .rw [bt h]
  .obtain rfl:k=x:= U ;rw[bn h];simp only[kG,z];rfl
 .by_cases h:k<x
  .rw [bt h]
  .obtain rfl:k=x:= U ;simp only[h,bE]at r ⊢;obtain rfl:i=0:= U ;rw[t j u];simp only[mv,z];rfl
def aaE{s:jS}{x:List Iv}{p n i:Nat}(q:Nat)(k:q<x.length):(mD s x p n<|i+1).getD q []=if q=i then(mD s x p n i).getD q []++[DZ s (jb s x p n) p n q]else(mD s x p n i).getD q []:=by
 rw[JZ k,JZ k];by_cases h:q=i
 .subst h;rw[bt rfl,bt<|fg _,bn<|dL _,fp]
 .rw [bn h];by_cases y:q<i
  .rw [bt y,bt U]
  .rw [bn y,bn U]
section
variable(s:jS)(x:List Iv)
def anE(k p:Nat)(h:mE s)(u:kJ s.iZ x)(V:k<=16)(I:8<=p)(C:p<=512):iB 41 [kH s,K x,D k,D p]<|kX<|jb s x p k:=by
 have T:=h.s4;have S:=u.len;exact iL (Y [.y 9 9 aa 26 1<|mX [],.s (Sp.jL (aaG s x k p) 0 x.length U (λw v N=>by
    have R:=u.ok w U;exact iU (Y [tT 19 ((w:Int)<x.length) U,iX (w:Int)<|x.length,.bo,.a (U:0<1),.a (U:(w+1)*24<=140737488355328),iN<|(w:Int)+1]<|.e<|af [.b 9 (adS U λj r=>Si _ j r:Bx.le (.kn aa 26 33 (w+1) 7 (λz=>if z<w then(kG<|x.map λy=>[y]) z else(λ_=>1) (z-w)) (λz=>if z<w then(mv<|x.map λy=>[y]) z else(λ_=>λn g=>(jv<|x.getD w L).getD (n*7+g)<|.v<|.bool ac) (z-w)) .none)<|.kn aa 26 33 (w+1) 7 (kG<|x.map λy=>[y]) (mv<|x.map λy=>[y]) .none)]) aI)
  (λv=>by
    exact iU (af [tF 19 ((x.length:Int)<x.length) U]) aI) aM:jK 3 Tryz.f41 (aaG s x k p 0) (.exit 0) ⟨72,aa,[(9,.own 9),(4,.box 4 0),(2,.e<|D k),(3,.e<|D p)],[(9,.kn aa 26 33 x.length 7 (kG<|x.map λy=>[y]) (mv<|x.map λy=>[y]) .none),(4,.cells 28 [D s.tape.iK,mf s.tape.iz,mh s.tape.iR,D s.iZ,K s.params])]⟩)<|af [.b 9 (Bx.le.adR:Bx.le (.row aa 26 0 1<|mX [])<|.kn aa 26 33 0 7 (kG<|x.map λy=>[y]) (mv<|x.map λy=>[y]) .none)],.s (Sp.jL (aaH s x k p) 0 k U (λm f a=>by
    have B:=yd h u I C m U;have l:=Sb h B (by rw[sf,u.len]);have P:=Ya (U:1<=p) (U:p<=4096) h.tape l.1 l.2;have d:(qq s.tape (pr s (jb s x p m) m) m p).length=x.length:=by unfold qq;rw[cI,h.iR,u.len]
    have c:=zO<|m+1;exact iU (Y [tT 30 ((m:Int)<k) U,.c (anB s x.length m (jb s x p m) h (sf _ _ _ _).symm U U (λi t=>by rw[(B i<|by rw[sf];exact t).len];exact bA _) (λi t=>by rw[(B i<|by rw[sf];exact t).len];omega):iB 87 [kH s,(.mT ac aa x.length 1 λz _=>.mT aa aa ((kG<|jb s x p m) z) 7<|(mv<|jb s x p m) z),D m] _),.c<|anC s.tape (pr s (jb s x p m) m) m p h.tape l.1 l.2 U I C,iN<|(m:Int)+1,.c<|II<|m+1,.c<|xg (jF ((m+1:Nat):Int))<|G4 _ U,.s (Sp.jL (aaI s x k p m) 0 x.length U (λw v N=>by
    have J:=P w (by rw[d];omega);have b:=J.len;have o:=J.ok m;have X:∀ q,q<x.length->(mD s x p m<|w+1).getD q []=if q=w then(mD s x p m w).getD q []++[jC (((qq s.tape (pr s (jb s x p m) m) m p).getD w []).getD m L) (jX<|m+1) p]else(mD s x p m w).getD q []:=λq H=>by
     rw[aaE q H];by_cases e:q=w
     .subst e;rw[bt rfl,bt rfl];rfl
     .rw [bn e,bn e]
    have G:kG (mD s x p m w) w=m+1:=by
     show(List.getD (mD s x p m w) w []).length=m+1;rw[JZ U,bn<|dL _,fp];exact(B w<|by rw[sf];omega).len
    have Q:=oh<|jC (((qq s.tape (pr s (jb s x p m) m) m p).getD w []).getD m L) (jX<|m+1) p;exact iU (Y [tT 48 ((w:Int)<x.length) U,iX (w:Int)<|x.length,.a (U:w<x.length),iX (w:Int)<|(qq s.tape (pr s (jb s x p m) m) m p).length,
     iX (m:Int) (((qq s.tape (pr s (jb s x p m) m) m p).getD w []).length),.c<|Cv (((qq s.tape (pr s (jb s x p m) m) m p).getD w []).getD m L) (jX<|m+1) p Z Z,.o 66<|.e<|lM<|jC (((qq s.tape (pr s (jb s x p m) m) m p).getD w []).getD m L) (jX<|m+1) p,.a (U:w<x.length),.a (U:((kG<|mD s x p m w) w+[jC (((qq s.tape (pr s (jb s x p m) m) m p).getD w []).getD m L) (jX<|m+1) p].length)*88<=140737488355328),iX (w:Int)<|x.length,.a (rfl:w=w),.a (rfl:w=w),.a (U:w<x.length),iN<|(w:Int)+1]<|.e<|af [.b 9 (asr (M:=(mD s x p m w)) (M':=(mD s x p m<|w+1)) (x:=w) (y:=(jC (((qq s.tape (pr s (jb s x p m) m) m p).getD w []).getD m L) (jX<|m+1) p)) X:Bx.le (.kn aa 26 33 x.length 7 (λq=>if q=w then(kG<|mD s x p m w) q+[jC (((qq s.tape (pr s (jb s x p m) m) m p).getD w []).getD m L) (jX<|m+1) p].length else(kG<|mD s x p m w) q) (λq i j=>if q=w then(if i<(kG<|mD s x p m w) q then(mv<|mD s x p m w) q i j else(E.lO<|K [jC (((qq s.tape (pr s (jb s x p m) m) m p).getD w []).getD m L) (jX<|m+1) p]) (i-(kG<|mD s x p m w) q) j)else(mv<|mD s x p m w) q i j) .none)<|.kn aa 26 33 x.length 7 (kG<|mD s x p m<|w+1) (mv<|mD s x p m<|w+1) .none)]) aI)
  (λv=>by
    exact iU (af [tF 48 ((x.length:Int)<x.length) U]) aI) aM:jK 13 Tryz.f41 (aaI s x k p m 0) (.exit 4) ⟨72,aa,[(29,.e<|D m),(28,.e<|D k),(9,.own 9),(4,.box 4 0),(3,.e<|D p)],[(9,.kn aa 26 33 x.length 7 (kG<|mD s x p m x.length) (mv<|mD s x p m x.length) .none),(4,.cells 28 [D s.tape.iK,mf s.tape.iz,mh s.tape.iR,D s.iZ,K s.params])]⟩)<|af [.b 9 (.jB<|by rw[aaF]:Bx.le (.kn aa 26 33 x.length 7 (kG<|jb s x p m) (mv<|jb s x p m) .none)<|.kn aa 26 33 x.length 7 (kG<|mD s x p m 0) (mv<|mD s x p m 0) .none)],
     iN ((m:Int)+1)]<|.e<|af [.b 9 (.jB<|by rw[aaD]:Bx.le (.kn aa 26 33 x.length 7 (kG<|mD s x p m x.length) (mv<|mD s x p m x.length) .none)<|.kn aa 26 33 x.length 7 (kG<|jb s x p<|m+1) (mv<|jb s x p<|m+1) .none)]) aI)
  (λf=>by
    exact iU (af [tF 30 ((k:Int)<k) U]) aI) aM:jK 8 Tryz.f41 (aaH s x k p 0) (.exit 2) ⟨72,aa,[(9,.own 9)],[(9,.kn aa 26 33 x.length 7 (kG<|jb s x p k) (mv<|jb s x p k) .none)]⟩)<|af [.b 9<|.refl<|.kn aa 26 33 x.length 7 (kG<|jb s x p 0) (mv<|jb s x p 0) .none]]<|rR (kX<|jb s x p k) (aoq (sf _ _ _ _).symm:E.le (.sl aa x.length 1 λz _=>.sl aa ((kG<|jb s x p k) z) 7<|(mv<|jb s x p k) z)<|kX<|jb s x p k))
def anD(p:Nat)(h:mE s)(k:kJ s.iZ x)(i:8<=p)(C:p<=512):iB 40 [kH s,K x,D p]<|I aa:=by
 have y:=h.s1;have z:=h.s4;have l:=k.len;exact iL<|af [.c<|Il s Z,.c<|Ey x U U k.ok,tE 18 (x.length:Int) (s.iZ:Int),tT 22 (8<=(p:Int)) U,tT 26 ((p:Int)<=512) U]
def IQ(k p:Nat)(h:mE s)(y:kJ s.iZ x)(i:8<=p)(C:p<=512)(z:k<=16:=by omega):iB 9 [kH s,K x,D k,D p]<|.iO [kX<|jb s x p k,D 0]:=by
 have u:=h.s1;have v:=h.s4;have l:=y.len;exact iL<|af [.c<|anD s x p h y i C,tF 16 ((k:Int)<0) U,tF 19 (16<(k:Int)) U,.c<|anE s x k p h y z i C]
end
noncomputable def kW(s:jS)(u:List Iv)(t:Iv)(k p:Nat):List Iv:=lj (λi=>B (((jb s u p<|k+1).getD i []).getD (k+1) L) (jO t (k+1) p) p) u.length
noncomputable def mG(s:jS)(x u:List Iv)(t:Iv)(k p:Nat):List Iv:=lj (λi=>jN (nv ((jb s x p k).getD i []) t p) ((kW s u t k p).getD i L) p) x.length
def qB:jS:=⟨⟨1,[],[0]⟩,1,[]⟩
def YD:mG qB [⟨lV 1 0,lV 1 0,ac⟩] [⟨lV 2 (-1),lV 3 (-1),ac⟩] ⟨lV 1 (-2),lV 1 (-2),ac⟩ 1 24=[⟨lV 82 (-6),lV 83 (-6),ac⟩]:=by
 unfold mG;show[_]=[_]
 congr 1
abbrev gX:List Iv:=[⟨lV 1 0,lV 1 0,ac⟩]
abbrev gH:Dy:=lV 1 (-6)
def QK:Dc qB gX gH 53 (-5)=aa:= aQ 
def alX:∀ k:Nat,k<15->Dc qB gX gH 53 ((k:Int)-20)=ac:= aQ 
noncomputable def qP(s:jS)(x:List Iv)(d:Dy)(b:List Iv)(p:Nat):Nat->List Iv
 | 0=>b
 |k+1=>sd s x d (qP s x d b p k) p
noncomputable abbrev gT:List Iv:=qP qB gX gH (tG gX<|pV (-5)) 53 4
def YG:∀ k,k<=4->(qP qB gX gH (tG gX<|pV (-5)) 53 k).length=1:= aQ 
def Bt(x y:Iv):Bool:=decide (jQ (jz x.lo y.lo) (jI x.hi y.hi)<=0)
def tp(x y:Iv):Iv:=⟨jz x.lo y.lo,jI x.hi y.hi,ac⟩
def aox{x y:Iv}(h:Bt x y=aa):¬0<jQ (jz x.lo y.lo) (jI x.hi y.hi):=by have:=cS h;omega
def aow{x y:Iv}(h:Bt x y=ac):0<jQ (jz x.lo y.lo) (jI x.hi y.hi):=by have:=fk h;omega
def aoy{x y:Iv}(k:x.iE)(z:y.iE)(a:x.all=ac)(s:y.all=ac)(h:Bt x y=aa):(tp x y).iE:=by
 have⟨w,u⟩:=k.kN;have⟨v,t⟩:=z.kN;exact .inr ⟨rfl,qx w v,rm u t,cS h⟩
section
variable(a b:List Iv)
def ur:List Iv:=(be a.length).map λj=>tp (a.getD j L)<|b.getD j L
def Hg:Bool:=(be a.length).all λj=>Bt (a.getD j L)<|b.getD j L
def Wd(i:Nat):PS:=⟨39,aa,[(6,.own 6),(16,.e<|D i),(15,.e<|D a.length),(0,.e<|K a),(1,.e<|K b)],[(6,.row aa 33 i 7<|jf<|(be i).map λj=>tp (a.getD j L)<|b.getD j L)]⟩
def Wc(N:Nat)(i:Nat):PS:=⟨39,aa,[(6,.own 6),(16,.e<|D i),(15,.e<|D a.length),(0,.e<|K a),(1,.e<|K b)],[(6,.row aa 33 i 7<|jf<|(be i).map λj=>tp (a.getD j L)<|b.getD j L)]⟩
end
section
variable(s:jS)(x:List Iv)(d:Dy)(b:List Iv)(n p:Nat)
noncomputable def afh(k:Nat):PS:=⟨45,aa,[(32,.e<|D k),(31,.e<|D n),(13,.e<|K<|qP s x d b p k),(8,.box 8 0),(6,.box 6 0),(1,.e<|K x),(5,.e<|D p)],[(8,.cells 31<|lh d),(6,.cells 28 [D s.tape.iK,mf s.tape.iz,mh s.tape.iR,D s.iZ,K s.params])]⟩
noncomputable def afi(N:Nat)(k:Nat):PS:=⟨45,aa,[(32,.e<|D k),(31,.e<|D n),(13,.e<|K<|qP s x d b p k),(8,.box 8 0),(6,.box 6 0),(1,.e<|K x),(5,.e<|D p)],[(8,.cells 31<|lh d),(6,.cells 28 [D s.tape.iK,mf s.tape.iz,mh s.tape.iR,D s.iZ,K s.params])]⟩
end
def abz(x y:Iv)(h:x.iE)(k:y.iE)(a:x.all=ac)(z:y.all=ac)(m:Bt x y=aa):iB 130 [O x,O y]<|.iO [O<|tp x y,I aa]:=by
 have⟨w,u⟩:=h.kN;have⟨v,t⟩:=k.kN;have s:=qx w v;have r:=rm u t;exact iL<|Y [.c<|rL x Z,.c<|rL y Z,S 19 a,S 23 z,.c<|G6 x.lo y.lo Z Z,.c<|G5 x.hi y.hi Z Z,.c<|pE (jz x.lo y.lo) (jI x.hi y.hi) Z Z,tF 41 (0<(jQ (jz x.lo y.lo)<|jI x.hi y.hi))<|aox m]<|rR (.iO [O<|tp x y,I aa]) (.jB rfl:E.le (.iO [O<|Iv.mk (jz x.lo y.lo) (jI x.hi y.hi) ac,I aa])<|.iO [O<|tp x y,I aa])
def aut:wI au<|jv AK:=by
 have e:E.le (.v<|.slice am 0 0)<|F<|iy 0:=by rw[pj];exact .nil _ _ _
 exact .cons (.refl _)<|.cons e<|.cons (.refl _)<|.cons (.refl _)<|.cons e<|.cons (.refl _)<|.cons (.refl _) .nil
def aoA(x y:Iv)(h:x.iE)(k:y.iE)(a:x.all=ac)(z:y.all=ac)(m:Bt x y=ac):iB 130 [O x,O y]<|.iO [O AK,I ac]:=by
 have⟨w,u⟩:=h.kN;have⟨v,t⟩:=k.kN;have s:=qx w v;have r:=rm u t;exact iL<|Y [.c<|rL x Z,.c<|rL y Z,S 19 a,S 23 z,.c<|G6 x.lo y.lo Z Z,.c<|G5 x.hi y.hi Z Z,.c<|pE (jz x.lo y.lo) (jI x.hi y.hi) Z Z,tT 41 (0<(jQ (jz x.lo y.lo)<|jI x.hi y.hi))<|aow m]<|rR (.iO [O AK,I ac]) (.iO<|.cons (.agg aut)<|.cons (.refl _) .nil:E.le (.iO [.agg au,I ac])<|.iO [O AK,I ac])
section
variable(a b:List Iv)
section
variable(h:1<=a.length)(x:a.length<=8)(l:b.length=a.length)(s:ss a)(r:ss b)
def ahN(k:∀ i,i<a.length->Bt (a.getD i L) (b.getD i L)=aa):iB 71 [K a,K b]<|.iO [K<|ur a b,I aa]:=
 iL (Y [.c<|PB a b U U U Z Z,.y 6 6 aa 33 7<|jf<|(be 0).map λj=>tp (a.getD j L)<|b.getD j L,.s (Sp.jL (Wd a b) 0 a.length U (λi h o=>by
    have⟨v,x⟩:=s i U;have⟨y,z⟩:=r i U;have u:=k i U;have p:=oh<|tp (a.getD i L)<|b.getD i L;exact iU (Y [tT 17 ((i:Int)<a.length) U,iX (i:Int)<|a.length,iX (i:Int)<|b.length,.c<|abz (a.getD i L) (b.getD i L) Z Z Z Z Z,.o 35<|.e<|lM<|tp (a.getD i L)<|b.getD i L,.a (U:(i+[tp (a.getD i L)<|b.getD i L].length)*88<=140737488355328),iN<|(i:Int)+1]<|.e<|af [.b 6<|ub 33 i λj=>tp (a.getD j L)<|b.getD j L]) aI)
  (λh=>by
    exact iU (Y [tF 17 ((a.length:Int)<a.length) U,.z 6]<|.e<|af [.o 6<|.e<|uO (n:=a.length) (M:=(be a.length).map λj=>tp (a.getD j L)<|b.getD j L) aK]) aI) aM:jK 5 Tryz.f71 (Wd a b 0) (.exit 0) ⟨39,aa,[(6,.e<|K<|(be a.length).map λj=>tp (a.getD j L)<|b.getD j L)],[]⟩) .nil]<|rR (.iO [K<|ur a b,I aa]) (.jB rfl:E.le (.iO [K<|(be a.length).map λj=>tp (a.getD j L)<|b.getD j L,I aa])<|.iO [K<|ur a b,I aa]))
def ahL(N:Nat)(o:N<a.length)(k:∀ i,i<N->Bt (a.getD i L) (b.getD i L)=aa)(u:Bt (a.getD N L) (b.getD N L)=ac):iB 71 [K a,K b]<|.iO [.v<|.slice am 0 0,I ac]:=
 iL (af [.c<|PB a b U U U Z Z,.y 6 6 aa 33 7<|jf<|(be 0).map λj=>tp (a.getD j L)<|b.getD j L,.s (Sp.jL (Wc a b N) 0 N U (λi h R=>by
    have⟨v,x⟩:=s i U;have⟨y,z⟩:=r i U;have t:=k i U;have p:=oh<|tp (a.getD i L)<|b.getD i L;exact iU (Y [tT 17 ((i:Int)<a.length) U,iX (i:Int)<|a.length,iX (i:Int)<|b.length,.c<|abz (a.getD i L) (b.getD i L) Z Z Z Z Z,.o 35<|.e<|lM<|tp (a.getD i L)<|b.getD i L,.a (U:(i+[tp (a.getD i L)<|b.getD i L].length)*88<=140737488355328),iN<|(i:Int)+1]<|.e<|af [.b 6<|ub 33 i λj=>tp (a.getD j L)<|b.getD j L]) aI)
  (λh=>by
    have⟨v,x⟩:=s N U;have⟨y,z⟩:=r N U;exact iU (af [tT 17 ((N:Int)<a.length) U,iX (N:Int)<|a.length,iX (N:Int)<|b.length,.c<|aoA (a.getD N L) (b.getD N L) Z Z Z Z Z]) aI) aM:jK 5 Tryz.f71 (Wc a b N 0) .ret ⟨39,aa,[(5,.e<|I ac),(4,.e<|.v<|.slice am 0 0)],[]⟩) .nil])
end
def SM:E:=if Hg a b then .iO [K<|ur a b,I aa]else .iO [.v<|.slice am 0 0,I ac]
def ahM(x:1<=a.length)(k:a.length<=8)(l:b.length=a.length)(y:ss a)(z:ss b):iB 71 [K a,K b]<|SM a b:=by
 unfold SM;cases hm:Hg a b with
 |true=>exact ahN a b x k l y z λi h=>bZ.1 hm i<|ca.2 h
 |false=>
  have⟨i,h,n⟩:=aw1.1 hm;have⟨N,u,v,t⟩:=si (p:=λi=>!(Bt (a.getD i L)<|b.getD i L)) ⟨i,ca.1 h,by simpa using n⟩;exact ahL a b x k l y z N u (λi h=>by simpa using t i h)<|by simpa using v
end
def aoz{n:Nat}{a b:List Iv}(x:kJ n a)(k:kJ n b)(h:Hg a b=aa):kJ n<|ur a b:=by
 refine⟨by simp[ur,x.len],λi y=>?_⟩;have m:i<a.length:=by simpa[ur]using y
 have e:(ur a b).getD i L=tp (a.getD i L) (b.getD i L):=getD_map m;rw[e];have⟨z,u⟩:=x.ok i m;have⟨v,t⟩:=k.ok i (by rw[k.len,<-x.len];exact m);exact⟨aoy z v u t<|bZ.1 h i<|ca.2 m,rfl⟩
def ap3{P:Program}{K:ap->Prop}{f:ax}{a:List E}{nl:Bool}{T:ay}{n sz:Nat}{el:Nat->Nat->E}(h:wJ P K f a nl T n sz el):PC P K f a<|.sl nl n sz el:=
 ⟨h.call,λw B s t z r=>(h.run w B s t z r).mono λe V ⟨v,q,p,g,m,l,u⟩=>⟨v,q,p,by
  rcases m with⟨rfl,rfl⟩|⟨b,o,c,d,rfl,X,G,Y,S,D,Z⟩
  .exact .sl nl 0 sz el am 0 g (bA _) aG (λ_=>rfl) (λi j x=>absurd x<|bD i) (λi j x=>absurd x<|bD i) (λi j x=>absurd x<|bD i) (λi j x=>absurd x<|bD i)
  .have O:=l b rfl;refine .sl nl n sz el _ c g G (by unfold maxLen at Y;omega) (λh=>by cases h) (λi j x k=>⟨(D i j x k).2,λQ=>Z Q _<|dG (D i j x k).1⟩) (λi j x k=>(u i j x k).2)
    (λi j x k=>⟨b,o,rfl,λy=>absurd (z b _ y).1 U,O.2,?_⟩) (λi j x k=>(u i j x k).1.qS (λ_ _ h=>.inl h) λ_ h=>h)
   simp only[World.cell?,X];simpa using(D i j x k).1⟩⟩
def WA(r:List Iv)(h:0<r.length)(l:r.length<=1000):iB 127 [K r]<|K r:=ap3<|IH r h l
def OK{s:jS}{x:List Iv}{d:Dy}{b:List Iv}{p:Nat}(y:kJ s.iZ x)(z:1<=p)(i:p<=4096)(u:kJ s.iZ b):∀ k,(∀ j,j<k->qP s x d b p (j+1)≠[])->kJ s.iZ (qP s x d b p k)
 | 0,_=>u
 |k+1,h=>aae y z i<|h k<|fg k
section
variable(s:jS)(x:List Iv)(d:Dy)(b:List Iv)
section
variable(n p:Nat)(h:mE s)(m:kJ s.iZ x)(g:d.iE)(f:0<d.jh)(l:kJ s.iZ b)(i:8<=p)(C:p<=512)(k:n<=100)(e:Fa s x d b p=aa)
def auF(r:∀ k,k<n->(qP s x d b p<|k+1)≠[]):iB 70 [kH s,K x,iJ d,K b,D n,D p]<|K<|qP s x d b p n:=by
 have z:=h.s1;have u:=h.s4;have E:=l.len;have N:p<=4096:= U ;exact iL (af [tF 15 ((n:Int)<0) U,tF 18 (100<(n:Int)) U,.c (by rw[<-e];exact RK s x d b p h m g f l i C:iB 125 [kH s,K x,iJ d,K b,D p]<|I aa),.c<|WA b U U,.s (Sp.jL (afh s x d b n p) 0 n U (λk y v=>by
    have w:=OK m (U:1<=p) N l k λj t=>r j U;exact iU (Y [tT 33 ((k:Int)<n) U,.c<|JT s x d (qP s x d b p k) p h m g f w i C,ai 42 (((sd s x d (qP s x d b p k) p).length:Int)==0)<|J6<|r k U,
     iN ((k:Int)+1)]<|.e<|af [.o 13<|.refl<|.e<|K<|qP s x d b p<|k+1]) aI)
  (λy=>by
    exact iU (af [tF 33 ((n:Int)<n) U]) aI) aM:jK 5 Tryz.f70 (afh s x d b n p 0) (.exit 0) ⟨45,aa,[(13,.e<|K<|qP s x d b p n)],[]⟩)<|af [.o 13<|.refl<|.e<|K<|qP s x d b p 0]])
def auG(N:Nat)(o:N<n)(c:∀ k,k<N->(qP s x d b p<|k+1)≠[])(z:(qP s x d b p<|N+1)=[]):iB 70 [kH s,K x,iJ d,K b,D n,D p]<|.v<|.slice am 0 0:=by
 have t:=h.s1;have r:=h.s4;have E:=l.len;have y:p<=4096:= U ;exact iL (af [tF 15 ((n:Int)<0) U,tF 18 (100<(n:Int)) U,.c (by rw[<-e];exact RK s x d b p h m g f l i C:iB 125 [kH s,K x,iJ d,K b,D p]<|I aa),.c<|WA b U U,.s (Sp.jL (afi s x d b n p N) 0 N U (λk u q=>by
    have w:=OK m (U:1<=p) y l k λj v=>c j U;exact iU (Y [tT 33 ((k:Int)<n) U,.c<|JT s x d (qP s x d b p k) p h m g f w i C,ai 42 (((sd s x d (qP s x d b p k) p).length:Int)==0)<|J6<|c k U,
     iN ((k:Int)+1)]<|.e<|af [.o 13<|.refl<|.e<|K<|qP s x d b p<|k+1]) aI)
  (λu=>by
    have w:=OK m (U:1<=p) y l N λj v=>c j U;exact iU (af [tT 33 ((N:Int)<n) U,.c<|JT s x d (qP s x d b p N) p h m g f w i C,ah 42 (((sd s x d (qP s x d b p N) p).length:Int)==0)<|by rw[show sd s x d (qP s x d b p N) p=[]from z];rfl]) aI) aM:jK 5 Tryz.f70 (afi s x d b n p N 0) .ret ⟨45,aa,[(12,.e<|.v<|.slice am 0 0)],[]⟩)<|af [.o 13<|.refl<|.e<|K<|qP s x d b p 0]])
end
noncomputable def rP(p:Nat):List Iv:=@ite (List Iv) (∀ k,k<4->qP s x d b p (k+1)≠[]) (Classical.propDecidable _) (qP s x d b p 4) b
end
def afw{s:jS}{x:List Iv}{d:Dy}{b:List Iv}{p:Nat}(y:kJ s.iZ x)(z:1<=p)(i:p<=4096)(k:kJ s.iZ b):kJ s.iZ<|rP s x d b p:=by
 unfold rP;split
 .rename_i h;exact OK y z i k 4 h
 .exact k
def afG(z:Iv)(p N:Nat)(x:Nat):PS:=⟨39,aa,[(8,.e<|D ((2*x+3:Nat):Int)),(7,.box 7 0),(6,.box 6 0),(5,.box 5 0),(4,.box 4 0),(2,.box 2 0)],[(7,.cells 33<|jv<|zi z p x),(6,.cells 33<|jv<|qJ z p x),(5,.cells 33<|jv<|qO z p),(4,.cells 33 au),(2,.cells 222 [D p])]⟩
def avh(z:Iv)(p N:Nat)(h:z.iE)(i:8<=p)(C:p<=512)(v:N<=1000)(j:∀ x,x<N->rO (qJ z p x) p=ac)(k:rO (qJ z p N) p=aa):iB 321 [.agg [D p],O z]<|O<|Ha z p N:=by
 have y:=OD h (U:1<=p) (U:p<=4096);have t:=Bq h i C N;have s:=Fy h i C N;have r:=Gg t;have a:=sN s r (U:1<=p) (U:p<=4096);exact iL (Y [.c<|VO z Z p U U,.s (Sp.jL (afG z p N) 0 N U (λx u m=>by
    have t:=Bq h i C x;have s:=Fy h i C x;have q:(B (qJ z p x) (qO z p) p).iE:=nZ _ _ U U;have n:(kp ((2*x+3:Nat):Int)).iE:=FE _;have d:(jC (B (qJ z p x) (qO z p) p) (kp ((2*x+3:Nat):Int)) p).iE:=su _ _;exact iU (Y [.c<|O6 p (qJ z p x) Z,S 17<|j x U,.c<|O5 p (qJ z p x) (qO z p) Z Z,.c<|AM ((2*x+3:Nat):Int),.c<|Lc p (B (qJ z p x) (qO z p) p) (kp ((2*x+3:Nat):Int)) Z Z,.c<|En p (zi z p x) (jC (B (qJ z p x) (qO z p) p) (kp ((2*x+3:Nat):Int)) p) Z Z,iN<|((2*x+3:Nat):Int)+2]<|.e<|af [.o 8<|oI (((2*x+3)+2:Nat):Int) ((2*(x+1)+3:Nat):Int),.b 7<|.refl<|.cells 33<|jv<|zi z p<|x+1,.b 6<|.refl<|.cells 33<|jv<|qJ z p<|x+1]) aI)
  (λu=>by
    have t:=Bq h i C N;have s:=Fy h i C N;have q:(B (qJ z p N) (qO z p) p).iE:=nZ _ _ U U;have n:(kp ((2*N+3:Nat):Int)).iE:=FE _;have d:(jC (B (qJ z p N) (qO z p) p) (kp ((2*N+3:Nat):Int)) p).iE:=su _ _;exact iU (af [.c<|O6 p (qJ z p N) Z,S 17 k]) aI) aM:jK 4 f321 (afG z p N 0) (.exit 0) ⟨39,aa,[(7,.box 7 0),(6,.box 6 0),(4,.box 4 0),(2,.box 2 0)],[(7,.cells 33<|jv<|zi z p N),(6,.cells 33<|jv<|qJ z p N),(4,.cells 33 au),(2,.cells 222 [D p])]⟩)<|af [.o 8<|oI 3 ((2*0+3:Nat):Int),.b 7<|.refl<|.cells 33<|jv<|zi z p 0,.b 6<|.refl<|.cells 33<|jv<|qJ z p 0],.c<|afO (qJ z p N) Z,.c<|En p (zi z p N) (tz<|qJ z p N) Z Z,.c<|LF (jN (zi z p N) (tz<|qJ z p N) p) Z 1 U U]<|rR (O<|Ha z p N) (.refl _:E.le (O<|nM (jN (zi z p N) (tz<|qJ z p N) p) 1)<|O<|Ha z p N))
def F9(f:Nat->Rat)(X:Iv):Prop:=∃ N,∀ M,N<=M->X.kQ (f M)
def F9.mono{f:Nat->Rat}{X Y:Iv}(h:F9 f X)(k:∀ r,X.kQ r->Y.kQ r):F9 f Y:=h.imp λ_ h M x=>k _<|h M x
def afH{z:Iv}(h:z.iE)(b:z.all=aa\/Sub z (ru (-1))){p:Nat}(i:8<=p)(C:p<=512):∃ Z,Z.iE/\(∀ r,z.kQ r->jM r*2<=1->F9 (λM=>AQ r M*2) Z)/\iB 321 [.agg [D p],O z] (O Z):=by
 have⟨N,x,k,y⟩:=anR h b i C;exact⟨Ha z p N,anQ h i C N,λr u a=>⟨N,λM v=>anP h u a i C x M v⟩,avh z p N h i C x k y⟩
def auH{p:Nat}(i:8<=p)(C:p<=512):(jC (kp 1) (kp 3) p).iE/\(jC (kp 1) (kp 3) p).kQ (1/3)/\Sub (jC (kp 1) (kp 3) p) (ru (-1)):=by
 have v:(kp 1).iE:=zz aG;have z:(kp 3).iE:=zz aG;have u:=CH 1;have t:=CH 3;refine⟨su _ _,?_,?_⟩
 .have:=Me v z (p:=p) U U u t;rwa[show((1:Int):Rat)/((3:Int):Rat)=1/3 from rfl]at this
 .have s:nk (kp 3)≠0:=Uo rfl (.inl<|by show 0<(jF 3).q;rw[BD];decide);refine IL (Md v z rfl s (p:=p) U U) U aG aG ?_;rintro r ⟨a,b,q,n,rfl⟩;have⟨h,x⟩:=q.kN rfl;have⟨k,y⟩:=n.kN rfl;change (jF 1).q<=a at h;change a<=(jF 1).q at x;change (jF 3).q<=b at k;change b<=(jF 3).q at y;rw[BD]at h x k y;have e:a=1:=eN x h;have m:b=3:=eN y k;subst e m;have:P2 (-1)=1/2:= aQ ;rw[this];exact⟨aQ,aQ⟩
def avt(p:Nat)(y:Iv)(x:y.iE)(h:iB 321 [.agg [D (((min (p+16) 512):Nat):Int)],O<|jC (kp 1) (kp 3)<|min (p+16) 512]<|O y)(i:8<=p)(C:p<=512):iB 323 [D p]<|O<|nL y p:=by
 have v:(kp 1).iE:=zz aG;have k:(kp 3).iE:=zz aG;exact iL<|af [tF 5 ((p:Int)<8) U,tF 8 (512<(p:Int)) U,.c<|UN p 16 U U,.c<|AM 1,.c<|AM 3,.c<|Lc (min (p+16) 512) (kp 1) (kp 3) Z Z,.c h,.c<|IJ y Z p]
def avs{p:Nat}(i:8<=p)(C:p<=512):∃ Z,Z.iE/\F9 (λM=>AQ (1/3) M*2) Z/\iB 323 [D (p:Int)] (O Z):=by
 have⟨t,x,k⟩:=auH (p:=min (p+16) 512) U U;have⟨Z,h,y,z⟩:=afH t (.inr k) (p:=min (p+16) 512) U U;refine⟨nL Z p,H9 h,(y _ x aQ).mono λr u=>KP h U U u,avt p Z h z i C⟩
def BO:Iv:=⟨kq,kq,ac⟩
def afS:E.le (.agg au)<|O BO:=
 .agg (.cons (.refl _)<|.cons D0<|.cons (.refl _)<|.cons (.refl _)<|.cons D0<|.cons (.refl _)<|.cons (.refl _) .nil)
def avy(d:Dy)(p:Nat)(x:d.iE)(h:jQ d ⟨ac,1,0⟩=0)(i:8<=p)(C:p<=512):iB 301 [iJ d,D p]<|O BO:=by
 have v:=Hm;exact iL<|Y [.c Pt,.c<|pE d (Dy.mk ac 1 0) Z Z,ah 12 ((jQ d<|Dy.mk ac 1 0)==0)<|by rw[h];rfl]<|rR (O BO) (afS:E.le (.agg au)<|O BO)
def avz(d:Dy)(p:Nat)(e Y:Iv)(x:d.iE)(k:¬jQ d ⟨ac,1,0⟩=0)(X:-20000<=d.iQ)(J:d.iQ<=20000)(y:e.iE)(t:Y.iE)(L:iB 321 [.agg [D (((min (p+40) 512):Nat):Int)],O<|jC (jN (nM (nL (lp d)<|min (p+40) 512)<|0-(Dy.iQ d)) (kp (-1))<|min (p+40) 512) (jN (nM (nL (lp d)<|min (p+40) 512)<|0-(Dy.iQ d)) (kp 1)<|min (p+40) 512)<|min (p+40) 512]<|O e)(h:iB 323 [D (((min (p+40) 512):Nat):Int)]<|O Y)(i:8<=p)(C:p<=512):iB 301 [iJ d,D p]<|O<|nL (jN e (B (kp d.iQ) Y<|min (p+40) 512)<|min (p+40) 512) p:=by
 have s:=Hm;have z:=vH x;have r:(nL (lp d)<|min (p+40) 512).iE:=H9 z;have v:(nM (nL (lp d)<|min (p+40) 512)<|0-(Dy.iQ d)).iE:=KX r _;have n:(kp 1).iE:=zz aG;have u:(kp (-1)).iE:=zz aG;have a:(jN (nM (nL (lp d)<|min (p+40) 512)<|0-(Dy.iQ d)) (kp (-1))<|min (p+40) 512).iE:=sN v u U U;have q:(jN (nM (nL (lp d)<|min (p+40) 512)<|0-(Dy.iQ d)) (kp 1)<|min (p+40) 512).iE:=sN v n U U;have l:(jC (jN (nM (nL (lp d)<|min (p+40) 512)<|0-(Dy.iQ d)) (kp (-1))<|min (p+40) 512) (jN (nM (nL (lp d)<|min (p+40) 512)<|0-(Dy.iQ d)) (kp 1)<|min (p+40) 512)<|min (p+40) 512).iE:=su _ _;have g:(kp d.iQ).iE:=zz U;have m:(B (kp d.iQ) Y<|min (p+40) 512).iE:=nZ _ _ U U;have f:(jN e (B (kp d.iQ) Y<|min (p+40) 512)<|min (p+40) 512).iE:=sN y m U U;exact iL<|af [.c Pt,.c<|pE d (Dy.mk ac 1 0) Z Z,ai 12 ((jQ d<|Dy.mk ac 1 0)==0)<|by simpa using k,.c<|UN p 40 U U,.c<|pN d Z,.c<|xg d Z,.c<|IJ (lp d) Z<|min (p+40) 512,iN<|0-(Dy.iQ d),.c<|LF (nL (lp d)<|min (p+40) 512) Z (0-(Dy.iQ d)) U U,.c<|AM (-1),.c<|En (min (p+40) 512) (nM (nL (lp d)<|min (p+40) 512)<|0-(Dy.iQ d)) (kp (-1)) Z Z,.c<|AM 1,.c<|En (min (p+40) 512) (nM (nL (lp d)<|min (p+40) 512)<|0-(Dy.iQ d)) (kp 1) Z Z,.c<|Lc (min (p+40) 512) (jN (nM (nL (lp d)<|min (p+40) 512)<|0-(Dy.iQ d)) (kp (-1))<|min (p+40) 512) (jN (nM (nL (lp d)<|min (p+40) 512)<|0-(Dy.iQ d)) (kp 1)<|min (p+40) 512) Z Z,.c L,.c<|AM<|Dy.iQ d,.c h,.c<|O5 (min (p+40) 512) (kp<|Dy.iQ d) Y Z Z,.c<|En (min (p+40) 512) e (B (kp<|Dy.iQ d) Y<|min (p+40) 512) Z Z,.c<|IJ (jN e (B (kp<|Dy.iQ d) Y<|min (p+40) 512)<|min (p+40) 512) Z p]
def afQ{d:Dy}(h:d.iE)(q:0<d.q){p:Nat}(i:8<=p)(C:p<=512):∃ Z,Z.iE/\F9 (LQ d) Z/\iB 301 [iJ d,D (p:Int)] (O Z):=by
 by_cases z:jQ d ⟨ac,1,0⟩=0
 .refine ⟨BO,.inr ⟨rfl,tY,tY,Cz _⟩,⟨0,λM _=>?_⟩,avy d p h z i C⟩;have e:d=⟨ac,1,0⟩:=by
   refine NX h.canon Hm.canon<|eN ((rN _ _).1 U)<|(rN _ _).1 ?_;rw[AV];have:=AV d ⟨ac,1,0⟩;omega
  rw[e,af5];exact .inr ⟨by show kq.q<=0;rw[uA];exact cP,by show 0<=kq.q;rw[uA];exact cP⟩
 .have s:=Ho q;have⟨V,T⟩:=afq h s;obtain⟨P,r⟩:∃ P,P=min (p+40) 512:=⟨_,rfl⟩
  have k:8<=P:= U ;have y:P<=512:= U ;have⟨n,l,g⟩:=aoe h q k y;have⟨Z,a,f,u⟩:=afH n g k y;have⟨Y,v,c,j⟩:=avs k y;have m:(B (kp d.iQ) Y P).iE:=nZ _ _ U U;have t:=sN a m (p:=P) U U;refine⟨nL (jN Z (B (kp d.iQ) Y P) P) p,H9 t,?_,?_⟩
  .have S:=UR q;have o:jM (C5 d)*2<=1:=by
    have:=BS (x:=C5 d) (b:=1/3) aP aP 
    grind
   have⟨N,w⟩:=f _ l o;have⟨X,Q⟩:=c;refine⟨max N X,λM R=>KP t U U ?_⟩;exact Es a m U U (w M U)<|SO (zz U) v U U (CH d.iQ)<|Q M U
  .subst r;have e:Hc d (min (p+40) 512)=jC (jN (nM (nL (lp d)<|min (p+40) 512)<|0-(Dy.iQ d)) (kp (-1))<|min (p+40) 512) (jN (nM (nL (lp d)<|min (p+40) 512)<|0-(Dy.iQ d)) (kp 1)<|min (p+40) 512) (min (p+40) 512):=by unfold Hc xh;rw[(U:-d.iQ=0-d.iQ)]
   rw[e]at u;exact avz d p Z Y h z U U a v u j i C
section
variable(x:Iv)(p:Nat)(s:x.iE)(i:8<=p)(C:p<=512)
def avu(a:x.all=aa):iB 261 [O x,D p]<|O L:=
 iL (af [.c<|F7 x p Z,ai 7 (!x.all)<|by rw[a];rfl,.c pv])
def avx(a:x.all=ac)(h:x.lo.jh<=0):iB 261 [O x,D p]<|O L:=by
 have⟨w,k⟩:=s.kN;exact iL<|af [.c<|F7 x p Z,ah 7 (!x.all)<|by rw[a];rfl,.c<|oC x.lo Z,S 13<|bu h,.c pv]
def avw(a:x.all=ac)(k:¬x.lo.jh<=0)(r h:Iv)(u:r.iE)(v:h.iE)(y:iB 301 [iJ x.lo,D (p:Int)]<|O r)(z:iB 301 [iJ x.hi,D (p:Int)]<|O h):iB 261 [O x,D p]<|O<|xB r h:=by
 have⟨w,t⟩:=s.kN;exact iL<|af [.c<|F7 x p Z,ah 7 (!x.all)<|by rw[a];rfl,.c<|oC x.lo Z,S 13<|bw k,.c y,.c z,.c<|afP r h Z Z]
end
def avv{x:Iv}(h:x.iE){p:Nat}(i:8<=p)(C:p<=512):∃ Z,Z.iE/\iB 261 [O x,D (p:Int)] (O Z):=by
 cases xa:x.all with
 |true=>exact⟨L,np,avu x p h i C xa⟩
 |false=>
  by_cases y:x.lo.jh<=0
  .exact ⟨L,np,avx x p h i C xa y⟩
  .have⟨w,s⟩:=h.kN;have q:0<x.lo.q:=(uS _).1.1 U;have r:0<x.hi.q:=by have:=h.q;grind
   have⟨z,u,⟨N,l⟩,n⟩:=afQ w q i C;have⟨v,t,⟨k,m⟩,g⟩:=afQ s r i C;refine⟨xB z v,XQ u t λa b=>?_,avw x p h i C xa y z v u t n g⟩;have e:=((l (max N k) U).kN a).1;have f:=((m (max N k) U).kN b).2;have d:=af4 q h.q<|max N k;exact cg e<|cg d f
def xZ(a s:Nat):Prop:=s*s<=a/\a<(s+1)*(s+1)
def adM(a:Nat):∃ s,xZ a s:=by
 induction a with
 |zero=>exact⟨0,aG,aG⟩
 |succ a i=>
  have⟨s,x,k⟩:=i;by_cases h:(s+1)*(s+1)<=a+1
  .refine ⟨s+1,h,?_⟩;have:(s+1+1)*(s+1+1)=(s+1)*(s+1)+2*(s+1)+1:=by
    simp only[bT,bW,bU,cr];omega
   omega
  .exact ⟨s,U,U⟩
def ar8{a s t:Nat}(h:xZ a s)(x:t*t<=a):t<=s:=by
 apply b8;intro i;have:=dx (U:s+1<=t) (U:s+1<=t);have:=h.2;omega
def rM(a x:Nat):Nat:=(x+a/x)/2
section
variable{a s x:Nat}(h:xZ a s)(g:0<x)
def ao3:s<=rM a x:=by
 unfold rM;apply b8;intro i;have z:x+a/x<2*s:=by generalize a/x=q at *;omega
 have u:a<(a/x+1)*x:=by
  have:=cH a x;have:=bO a g;rw[bT,bU,bL<|a/x];omega
 have y:a/x+1<=2*s-x/\x<=2*s:=by
  generalize a/x=q at *
  omega
 have v:(a/x+1)*x<=(2*s-x)*x:=bX x y.1;have t:=y.2;have n:(2*s-x)*x<=s*s:=by
  obtain⟨k,m⟩:∃ k,2*s=x+k:=⟨2*s-x,by clear z u v i y;omega⟩
  rw[show 2*s-x=k by clear z u v i y;omega];clear z u v i y;rcases Nat.le_total x s with r|r
  .obtain ⟨e,rfl⟩:∃ e,s=x+e:=⟨s-x,U⟩
   obtain rfl:k=x+2*e:= U ;simp only[bT,bW,bL x e,bM];have:0<=e*e:=cj _;have l:e*(2*x)=2*(e*x):=dp e 2 x;omega
  .obtain ⟨e,rfl⟩:∃ e,x=s+e:=⟨x-s,U⟩
   obtain⟨f,p⟩:∃ f,s=k+f:=⟨s-k,U⟩
   obtain rfl:f=e:= U ;subst p;simp only[bT,bW,bL f k];have:0<=f*f:=cj _;omega
 have:=h.1;omega
def ao2(u:s<=x)(y:x<=rM a x):x=s:=by
 have k:x<=a/x:=by unfold rM at y;omega
 have z:x*x<=a:=(dz g).1 k;have:=ar8 h z;omega
end
def mu(a x:Nat):Nat->Nat
 | 0=>x
 |k+1=>rM a<|mu a x k
def ar9(a:Nat){s:Nat}(h:xZ a s):s<=2^((H a+1)/2):=by
 apply b8;intro i;have x:(2^((H a+1)/2))*(2^((H a+1)/2))<=s*s:=dx U U;rw[<-bC]at x;have k:=qW a;have y:2^H a<=2^((H a+1)/2+(H a+1)/2):=bR aG U;have:=h.1;omega
def ar7{a x s:Nat}(h:xZ a s)(p:0<a)(u:s<=x):∃ N,N<=x/\(∀ k,k<N->rM a (mu a x k)<mu a x k)/\mu a x N<=rM a (mu a x N)/\mu a x N=s/\∀ k,k<=N->s<=mu a x k/\mu a x k<=x:=by
 have m:0<s:=by
  apply b8;intro g;obtain rfl:s=0:= U ;have:=h.2;omega
 have r:∀ k,s<=mu a x k:=λk=>by
  induction k with
  |zero=>exact u
  |succ k i=>exact ao3 h U 
 have z:∃ k,k<x+1/\decide (mu a x k<=rM a (mu a x k))=aa:=by
  apply b8;intro c;have d:∀ k,k<x+1->rM a (mu a x k)<mu a x k:=λk y=>by
   apply b8;intro q;exact c ⟨k,y,bu U⟩
  have b:∀ k,k<=x+1->mu a x k+k<=x:=by
   intro k y
   induction k with
   |zero=>exact bA _
   |succ k i=>
    have:=i U;have:=d k U;show rM a (mu a x k)+(k+1)<=x;omega
  have:=b (x+1)<|bA _;omega
 have⟨N,f,v,t⟩:=si z;have n:=cS v;have V:∀ k,k<N->rM a (mu a x k)<mu a x k:=λk y=>by
  have:=fk<|t k y;omega
 have l:∀ k,k<=N->mu a x k<=x:=by
  intro k y
  induction k with
  |zero=>exact bA _
  |succ k i=>
   have:=i U;have:=V k U;show rM a (mu a x k)<=x;omega
 have e:=ao2 h (by have:=r N;omega) (r N) n;exact⟨N,U,V,n,e,λk y=>⟨r k,l k y⟩⟩
section
variable(m s:Nat)(e:Int)(p:Nat)(up:Bool)
def yx:Dy:=kB ac s e (decide (s*s≠m)) p up
def CU:Int:=ko ac s e (decide (s*s≠m)) p up
end
section
variable{m s:Nat}{e:Int}{p:Nat}
def atB(h:xZ m s)(b:p<H s)(y:1<=p)(i:p<=4096)(x:CU m s e p ac=0):0<=(yx m s e p ac).q/\(yx m s e p ac).q<=(s:Rat)*P2 e:=by
 unfold yx CU at *
 by_cases q:s*s=m
 .rw [bw U]at x ⊢;have A:=IV ac s e y i;rw[tv]at A;simp only[bS,bE]at A;exact⟨(A.2 0 (.inl<|AN p)<|cw dv<|b9<|oZ e).2,(A.1 x).2⟩
 .rw [bu U]at x ⊢;have⟨u,v⟩:=Gv e b ac ac;rw[u];rw[v]at x;have A:=IV ac (2*s+1) (e-1) y i;rw[tv]at A;simp only[bS,bE]at A;have z:=(A.2 0 (.inl<|AN p)<|cw dv<|b9<|oZ<|e-1).2;have⟨g,l⟩:=A.1 x;refine⟨z,?_⟩;rcases QD (e:=e) b (g.pos z)with k|k
  .exact k
  .exfalso;have t:P2 e=P2 (e-1)*2:=by
    have:=sK (e-1) 1;rw[(U:e-1+1=e),show P2 1=2 by decide +kernel]at this;exact this
   have n:=oZ<|e-1;have c:((2*s+1:Nat):Rat)=2*(s:Rat)+1:=by rw[eK,dC];rfl
   have r:((s+1:Nat):Rat)=(s:Rat)+1:=by rw[eK];rfl
   rw[c]at l;rw[r,t]at k
   grind
def atA(h:xZ m s)(b:p<H s)(n:1<=p)(i:p<=4096)(x:CU m s e p aa=0):0<=(yx m s e p aa).q/\(m:Rat)*(P2 e*P2 e)<=(yx m s e p aa).q*(yx m s e p aa).q:=by
 have z:=oZ e;have j:(0:Rat)<=(s:Rat):=dv;have y:∀ D:Rat,(s:Rat)*P2 e<=D->(s*s≠m->((s+1:Nat):Rat)*P2 e<=D)->0<=D/\(m:Rat)*(P2 e*P2 e)<=D*D:=by
  intro D u v;have d:0<=D:=cg (cw j<|b9 z) u;refine⟨d,?_⟩;have l:∀ t:Nat,m<=t*t->(t:Rat)*P2 e<=D->(m:Rat)*(P2 e*P2 e)<=D*D:=by
   intro t o f;have w:(0:Rat)<=(t:Rat):=dv;have c:(m:Rat)<=(t:Rat)*(t:Rat):=by
    have:=dO.2 o;rwa[dC]at this
   have N:=cO c<|cw (b9 z)<|b9 z;have S:=cO f<|cw w<|b9 z;have R:=dj f d;generalize (t:Rat)=T at *
   generalize P2 e=P at *
   have Q:T*T*(P*P)=T*P*(T*P):= aP 
   grind
  by_cases r:s*s=m
  .exact l s U u
  .exact l (s+1) (by have:=h.2;omega)<|v r
 unfold yx CU at *
 by_cases r:s*s=m
 .rw [bw U]at x ⊢;have A:=IW ac s e n i;rw[tv]at A;simp only[bS,bE]at A;exact y _ (A.1 x).2 λq=>absurd r q
 .rw [bu U]at x ⊢;have⟨u,v⟩:=Gv e b ac aa;rw[u];rw[v]at x;have A:=IW ac (2*s+1) (e-1) n i;rw[tv]at A;simp only[bS,bE]at A;have⟨g,a⟩:=A.1 x;have X:P2 e=P2 (e-1)*2:=by
   have:=sK (e-1) 1;rw[(U:e-1+1=e),show P2 1=2 by decide +kernel]at this;exact this
  have I:=oZ<|e-1;have Y:((2*s+1:Nat):Rat)=2*(s:Rat)+1:=by rw[eK,dC];rfl
  rw[Y]at a;have Z:0<=(kB ac (2*s+1) (e-1) ac p aa).q:=cg (cw aP<|b9 I) a;have V:(s:Rat)*P2 e<(kB ac (2*s+1) (e-1) ac p aa).q:=by rw[X];grind
  refine y _ (b9 V) λ_=>?_
  rcases QD (e:=e) b (g.pos Z)with k|k
  .exact absurd V<|ej.2 k
  .exact k
end
def atC{a b:Rat}(k:0<=a)(x:0<=b)(h:a*a<=b*b):a<=b:=by
 apply ej.1;intro i;have m:=dj (b9 i) x;have y:=eO i<|show 0<a by grind
 grind
def atD{m s n t:Nat}{e f:Int}{p:Nat}(h:xZ m s)(k:xZ n t)(b:p<H s)(z:p<H t)(x:1<=p)(i:p<=4096)(l:(m:Rat)*(P2 e*P2 e)<=(n:Rat)*(P2 f*P2 f)):
 (mc (yx m s e p ac) (CU m s e p ac) (yx n t f p aa)<|CU n t f p aa).iE:=by
 unfold mc;split
 .exact np
 .rename_i r;have⟨a,y⟩:=atB (e:=e) h b x i U;have⟨u,g⟩:=atA (e:=f) k z x i U;refine .inr ⟨rfl,nV _ _ _ _ _ _ x i,nV _ _ _ _ _ _ x i,?_⟩;rw[rN];refine atC a u ?_;have v:(0:Rat)<=(s:Rat):=dv;have q:=oZ e;have d:=dj y a;have j:=cO y<|cw v<|b9 q;have c:(s:Rat)*(s:Rat)<=(m:Rat):=by
   have:=dO.2 h.1;rwa[dC]at this
  have o:=cO c<|cw (b9 q)<|b9 q;generalize (yx m s e p ac).q=A at *
  generalize (s:Rat)=S at *
  generalize P2 e=P at *
  have w:S*S*(P*P)=S*P*(S*P):= aP 
  grind
def abS(m N:Nat)(x:Nat):PS:=⟨43,aa,[(5,.e<|F<|iy<|mu m (2^((H m+1)/2)) x),(0,.e<|F<|iy m)],[]⟩
def abK(L M:List Nat)(y:je L)(z:je M)(u:L.length<=3000)(v:M.length<=3000):∃ S:List Nat,iB 274 [F L,F M] (F S)/\val S=val L+val M/\je S/\S.length=max L.length M.length+1:=by
 obtain⟨n,x⟩:∃ n,n=max L.length M.length+1:=⟨_,rfl⟩
 have i:val L+val M<4294967296^n:=by
  have a:=nE y;have b:=nE z;have e:4294967296^n=4294967296^max L.length M.length*4294967296:=by rw[x,bI]
  have c:=bR (show 0<4294967296 by decide)<|Nat.le_max_left L.length M.length;have d:=bR (show 0<4294967296 by decide)<|Nat.le_max_right L.length M.length;omega
 refine⟨jr (val L+val M) n,?_,by rw[yC,bY i],uZ _ _,by rw[ot,x]⟩;refine D5 y z call274 (λA c B d w h k _=>abU A B c d L M w h k u v) λB w e t s r=>?_
 have⟨S,q,p,m,r⟩:=r;rw[Gw p (by rw[m,x]) q];exact rl B w e t s r
section
variable(L:List Nat)
def aoM(n:Nat)(x:je L)(q:L.length<=3000)(y:n<=65536):∃ S:List Nat,iB 296 [F L,D (n:Int)] (F S)/\val S=val L*2^n/\je S:=by
 obtain⟨m,k⟩:∃ m,m=n/32+(iM L).length+1:=⟨_,rfl⟩
 have i:val L*2^n<4294967296^m:=by
  have a:=nE x.iM;rw[qm]at a;have e:4294967296^m=4294967296^(iM L).length*2^(32*(n/32+1)):=by
   rw[k,(U:n/32+(iM L).length+1=(iM L).length+(n/32+1)),bC,Nat.pow_mul]
  rw[e];exact axg a (bR aG U)<|bG aG
 refine⟨jr (val L*2^n) m,?_,by rw[yC,bY i],uZ _ _⟩;refine Kx x call296 (λA c w h _=>abV A c L n w h U y) λA c B w e z h u r=>?_
 have⟨S,v,t,s,r⟩:=r;rw[Gw t (by rw[s,k]) v];exact rl B w e z u r
def FZ:List Nat:=sW (1%32)<|(iM L).drop<|1/32
def abQ(x:je L)(z:L.length<=3000):iB 219 [F L,D 1]<|F<|FZ L:=
 Kx (n:=((1:Nat):Int)) x call219 (λA c w h _=>SY A c L 1 w h U aG) λA c B w e k h y r=>rl B w e k y r
end
def aeF{L:List Nat}(h:je L):iM (FZ L)=iy (val L/2):=by
 unfold FZ;rw[sX<|D1 _ _,OY h.iM,qm]
def ab6(m x:Nat):rM m x<=max x (m/x):=by
 unfold rM;generalize m/x=q;omega
def aa2(a b:Nat):(iy<|max a b).length<=max (iy a).length (iy b).length:=by
 rcases Nat.le_total a b with h|h
 .rw [Nat.max_eq_right h];omega
 .rw [Nat.max_eq_left h];omega
def aoI(m:Nat)(h:(iy m).length<=256):iB 214 [F<|iy m]<|.iO [F<|iy m,D 0]:=by
 have:=abM (iy m) (lW m) (by rw[xq];exact h);rwa[xq]at this
def aoO(m N:Nat)(r:(iy m).length<=256)(p:m≠0)(w:∀ k,k<N->rM m (mu m (2^((H m+1)/2)) k)<(mu m (2^((H m+1)/2)) k))(E:(mu m (2^((H m+1)/2)) N)<=rM m (mu m (2^((H m+1)/2)) N))(l:∀ k,k<=N->0<(mu m (2^((H m+1)/2)) k)/\(mu m (2^((H m+1)/2)) k)<=(2^((H m+1)/2))):iB 354 [F<|iy m]<|.iO [F<|iy<|mu m (2^((H m+1)/2)) N,D 0]:=by
 have L:=oP p;have zy:=zW r;have n:(iy<|2^((H m+1)/2)).length<=256:=ph (by rw[show(2^((H m+1)/2))=1*2^((H m+1)/2)by omega,sO aG];show 1+_<=_;omega);have h:∀ k,k<=N->(iy<|mu m (2^((H m+1)/2)) k).length<=256:=λk g=>bF (nR (l k g).2) n
 have⟨t,P,s,o⟩:=aoM (iy 1) ((H m+1)/2) (lW 1) aQ U;rw[kE,bU]at s;have S:iB 216 [F t]<|F<|iy<|2^((H m+1)/2):=by
  have:=xi t o;rwa[sX o,s]at this
 have W:=h N U;exact iL (af [.c<|aoJ (iy m) Z,.c<|vE m,ai 15 ((H m:Int)==0)<|oo U,.o 16<|.e uR,iN<|(H m:Int)+1,.a (U:0<(2:Int)),iN (((H m)+1:Nat):Int),.c P,.c S,.s (Sp.jL (abS m N) 0 N U (λx f B=>by
    have⟨e,c⟩:=l x U;have⟨T,b,J,d,a,y,i,j,X⟩:=SS (iy m) (iy<|mu m (2^((H m+1)/2)) x) (lW m) (lW _) U (by have:=h x U;omega) (by rw[kE];omega);rw[kE,kE]at d;have I:=h x U;have Q:iB 216 [F T]<|F<|iy<|m/(mu m (2^((H m+1)/2)) x):=by
     have:=xi T y;rwa[sX y,d]at this
    have A:(iy<|m/(mu m (2^((H m+1)/2)) x)).length<=257:=bF (nR<|b6 _ _) U;have⟨C,v,u,z,R⟩:=abK (iy<|mu m (2^((H m+1)/2)) x) (iy<|m/(mu m (2^((H m+1)/2)) x)) (lW _) (lW _) U U;rw[kE,kE]at u;have V:=abQ C z U;have G:iB 216 [F<|FZ C]<|F<|iy<|rM m<|mu m (2^((H m+1)/2)) x:=by
     have:=xi (FZ C)<|D1 _ _;rwa[aeF z,u]at this
    have M:(iy<|rM m<|mu m (2^((H m+1)/2)) x).length<=257:=bF (nR<|ab6 m<|mu m (2^((H m+1)/2)) x) (by have:=aa2 (mu m (2^((H m+1)/2)) x)<|m/(mu m (2^((H m+1)/2)) x);omega);exact iU (Y [.c J,.c Q,.c v,.c V,.c G,.c<|Bu (rM m<|mu m (2^((H m+1)/2)) x)<|mu m (2^((H m+1)/2)) x,tF 37 (0<=(kT (rM m<|mu m (2^((H m+1)/2)) x)<|mu m (2^((H m+1)/2)) x))<|by have:=w x U;have:=Gu.2 this;omega]<|.e<|af [.o 5<|.refl<|.e<|F<|iy<|mu m (2^((H m+1)/2))<|x+1]) aI)
  (λf=>by
    have⟨e,c⟩:=l N U;have⟨T,b,J,d,a,y,i,j,X⟩:=SS (iy m) (iy<|mu m (2^((H m+1)/2)) N) (lW m) (lW _) U (by have:=h N U;omega) (by rw[kE];omega);rw[kE,kE]at d;have I:=h N U;have Q:iB 216 [F T]<|F<|iy<|m/(mu m (2^((H m+1)/2)) N):=by
     have:=xi T y;rwa[sX y,d]at this
    have A:(iy<|m/(mu m (2^((H m+1)/2)) N)).length<=257:=bF (nR<|b6 _ _) U;have⟨C,v,u,z,R⟩:=abK (iy<|mu m (2^((H m+1)/2)) N) (iy<|m/(mu m (2^((H m+1)/2)) N)) (lW _) (lW _) U U;rw[kE,kE]at u;have V:=abQ C z U;have G:iB 216 [F<|FZ C]<|F<|iy<|rM m<|mu m (2^((H m+1)/2)) N:=by
     have:=xi (FZ C)<|D1 _ _;rwa[aeF z,u]at this
    have M:(iy<|rM m<|mu m (2^((H m+1)/2)) N).length<=257:=bF (nR<|ab6 m<|mu m (2^((H m+1)/2)) N) (by have:=aa2 (mu m (2^((H m+1)/2)) N)<|m/(mu m (2^((H m+1)/2)) N);omega);exact iU (af [.c J,.c Q,.c v,.c V,.c G,.c<|Bu (rM m<|mu m (2^((H m+1)/2)) N)<|mu m (2^((H m+1)/2)) N,tT 37 (0<=(kT (rM m<|mu m (2^((H m+1)/2)) N)<|mu m (2^((H m+1)/2)) N)) (by have:=E;have:¬kT (rM m<|mu m (2^((H m+1)/2)) N) (mu m (2^((H m+1)/2)) N)<0:=λq=>absurd (Gu.1 q) U;omega),.c<|aoI (mu m (2^((H m+1)/2)) N) U]) aI) aM:jK 7 f354 (abS m N 0) .ret ⟨43,aa,[(3,.e<|D 0),(2,.e<|F<|iy<|mu m (2^((H m+1)/2)) N)],[]⟩)<|af [.o 5<|.refl<|.e<|F<|iy<|mu m (2^((H m+1)/2)) 0]])
def abT(m s:Nat)(z:(iy m).length<=256)(x:m≠0)(r:xZ m s):iB 354 [F<|iy m]<|.iO [F<|iy s,D 0]:=by
 have⟨N,_,a,b,c,d⟩:=ar7 r (eB x)<|ar9 m r;have u:0<s:=by
  apply b8;intro h;obtain rfl:s=0:= U ;have:=r.2;omega
 have:=aoO m N z x a b λk y=>⟨by have:=(d k y).1;omega,(d k y).2⟩
 rwa[c]at this
noncomputable def nh(m:Nat):Nat:=Classical.choose<|adM m
def FT(m:Nat):xZ m<|nh m:=du<|adM m
section
variable(d:Dy)(p:Nat)
def vN:Nat:=if bl (d.e-((2*p+4-H d.m:Nat):Int)) 2=0 then 2*p+4-H d.m else 2*p+4-H d.m+1
noncomputable def yz(up:Bool):Dy:=yx (d.m*2^vN d p) (nh<|d.m*2^vN d p) ((d.e-(vN d p:Int))/2) p up
noncomputable def yy(up:Bool):Int:=CU (d.m*2^vN d p) (nh<|d.m*2^vN d p) ((d.e-(vN d p:Int))/2) p up
def OC:d.e-(vN d p:Int)=2*((d.e-(vN d p:Int))/2):=by
 have k:∀ x:Int,bl x 2=0↔x%2=0:=λx=>by rw[<-Int.dvd_iff_tmod_eq_zero,<-Int.dvd_iff_emod_eq_zero]
 have:(d.e-(vN d p:Int))%2=0:=by
  unfold vN;split
  .rename_i h;exact(k _).1 h
  .rename_i h;have y:¬(d.e-((2*p+4-H d.m:Nat):Int))%2=0:=λq=>h ((k _).2 q)
   clear h;omega
 omega
end
def aeQ(s:Nat):s<=s*s:=by
 by_cases h:s=0
 .subst h;exact cj _
 .exact apS s<|eB h
def aeS{d:Dy}(n:d.neg=ac)(K:Nat){E:Int}(h:d.e-(K:Int)=2*E):((d.m*2^K:Nat):Rat)*(P2 E*P2 E)=d.q:=by
 rw[sV,n,bn aG,<-sK,dC,<-yG,fj,<-sK,show(K:Int)+(E+E)=d.e by omega]
def TZ{m s p:Nat}(h:xZ m s)(y:2*p+4<=H m):p<H s:=by
 apply b8;intro b;have z:s<2^H s:=qW s;have u:2^H s<=2^p:=bR aG U;have x:=dx (U:s+1<=2^p) (U:s+1<=2^p);rw[<-bC]at x;have k:=h.2;have v:H m<=p+p:=mo.2<|bJ k x;omega
def adN(m s:Nat):((kT (s*s) m) != 0)=decide (s*s≠m):=by
 unfold kT;generalize s*s=q;rcases Nat.lt_trichotomy q m with h|h|h
 .rw [bt h,bu U];rfl
 .subst h;simp
 .rw [bn U,bt h,bu U];rfl
section
variable(d:Dy)(p:Nat)(up:Bool)(g:d.iE)(f:d.neg=ac)(m:d.m≠0)(i:8<=p)(C:p<=512)
def ari(r:bl (d.e-((2*p+4-(H d.m):Nat):Int)) 2=0):iB 328 [iJ d,D p,I up]<|.iO [iJ<|yz d p up,D<|yy d p up]:=by
 have l:=g.iy;have x:=g.exp;have k:=g.range.resolve_left m;have b:=oP m;have h:vN d p=(2*p+4-(H d.m)):=by unfold vN;rw[bt r]
 have e:=OC d p;rw[h]at e;have v:=sO m<|2*p+4-(H d.m);have z:(iy<|d.m*2^(2*p+4-(H d.m))).length<=256:=ph;have w:(d.m*2^(2*p+4-(H d.m)))≠0:=eo m<|eE<|bG aG;have u:=FT<|d.m*2^(2*p+4-(H d.m));have F:=TZ u (p:=p) U;have t:(iy<|nh (d.m*2^(2*p+4-(H d.m)))*nh (d.m*2^(2*p+4-(H d.m)))).length<=256:=bF (nR u.1) z;have s:(iy<|nh<|d.m*2^(2*p+4-(H d.m))).length<=256:=bF (nR<|bF (aeQ _) u.1) z;have M:nh (d.m*2^(2*p+4-(H d.m)))≠0\/nh (d.m*2^(2*p+4-(H d.m)))=0/\(d.e-((2*p+4-(H d.m):Nat):Int))/2=0/\((kT (nh (d.m*2^(2*p+4-(H d.m)))*nh (d.m*2^(2*p+4-(H d.m))))<|d.m*2^(2*p+4-(H d.m))) != 0)=ac:=.inl (λq=>by rw[q,tZ]at F;omega);have j:((kT (nh (d.m*2^(2*p+4-(H d.m)))*nh (d.m*2^(2*p+4-(H d.m))))<|d.m*2^(2*p+4-(H d.m))) != 0)=aa->p<H (nh<|d.m*2^(2*p+4-(H d.m))):=λ_=>F
 exact iL (Y [.o 17<|.e<|Qg d,.c<|TK p d Z U U,tE 20 0 0,S 23 f,tM 26 0 0,S 31<|oo<|qg m,iN<|2*(p:Int),
  iN (((2*p:Nat):Int)+4),.c<|Mh d Z,iN<|(((2*p)+4:Nat):Int)-(H<|Dy.m d:Int),.o 41<|oI (if((((2*p)+4:Nat):Int)-(H<|Dy.m d:Int))>0 then((((2*p)+4:Nat):Int)-(H<|Dy.m d:Int))else 0) ((2*p+4-(H d.m):Nat):Int) aR,
  iN (d.e-((2*p+4-(H d.m):Nat):Int)),.a (U:0<(2:Int)),ai 47 ((bl (d.e-((2*p+4-(H d.m):Nat):Int)) 2) != 0)<|by simpa using r,.c<|zG d.m<|2*p+4-(H d.m),.c<|abT (d.m*2^(2*p+4-(H d.m))) _ U Z<|FT _,.c<|CF (nh<|d.m*2^(2*p+4-(H d.m))) (nh<|d.m*2^(2*p+4-(H d.m))) U U U,iN<|d.e-((2*p+4-(H d.m):Nat):Int),.a (U:0<(2:Int)),
  iN (d.e-((2*p+4-(H d.m):Nat):Int)),.o 70<|oI (Int.tdiv (d.e-((2*p+4-(H d.m):Nat):Int)) 2) ((d.e-((2*p+4-(H d.m):Nat):Int))/2) (by generalize n:(d.e-((2*p+4-(H d.m):Nat):Int))/2=y at *;rw[e];exact axh _ aG),.c<|Bu ((nh<|d.m*2^(2*p+4-(H d.m)))*(nh<|d.m*2^(2*p+4-(H d.m))))<|d.m*2^(2*p+4-(H d.m)),.c<|Hw (nh<|d.m*2^(2*p+4-(H d.m))) ((d.e-((2*p+4-(H d.m):Nat):Int))/2) ((kT ((nh<|d.m*2^(2*p+4-(H d.m)))*(nh<|d.m*2^(2*p+4-(H d.m))))<|d.m*2^(2*p+4-(H d.m))) != 0) up p U Z U U U U Z]<|V (.iO [iJ<|kB ac (nh<|d.m*2^(2*p+4-(H d.m))) ((d.e-((2*p+4-(H d.m):Nat):Int))/2) ((kT ((nh<|d.m*2^(2*p+4-(H d.m)))*(nh<|d.m*2^(2*p+4-(H d.m))))<|d.m*2^(2*p+4-(H d.m))) != 0) p up,D<|ko ac (nh<|d.m*2^(2*p+4-(H d.m))) ((d.e-((2*p+4-(H d.m):Nat):Int))/2) ((kT ((nh<|d.m*2^(2*p+4-(H d.m)))*(nh<|d.m*2^(2*p+4-(H d.m))))<|d.m*2^(2*p+4-(H d.m))) != 0) p up]) (.iO [iJ<|yz d p up,D<|yy d p up])<|by unfold yz yy yx CU;rw[h,adN])
def arj(r:¬bl (d.e-((2*p+4-(H d.m):Nat):Int)) 2=0):iB 328 [iJ d,D p,I up]<|.iO [iJ<|yz d p up,D<|yy d p up]:=by
 have l:=g.iy;have x:=g.exp;have k:=g.range.resolve_left m;have b:=oP m;have h:vN d p=((2*p+4-(H d.m))+1):=by unfold vN;rw[bn r]
 have e:=OC d p;rw[h]at e;have v:=sO m<|(2*p+4-(H d.m))+1;have z:(iy<|d.m*2^((2*p+4-(H d.m))+1)).length<=256:=ph;have w:(d.m*2^((2*p+4-(H d.m))+1))≠0:=eo m<|eE<|bG aG;have u:=FT<|d.m*2^((2*p+4-(H d.m))+1);have F:=TZ u (p:=p) U;have t:(iy<|nh (d.m*2^((2*p+4-(H d.m))+1))*nh (d.m*2^((2*p+4-(H d.m))+1))).length<=256:=bF (nR u.1) z;have s:(iy<|nh<|d.m*2^((2*p+4-(H d.m))+1)).length<=256:=bF (nR<|bF (aeQ _) u.1) z;have M:nh (d.m*2^((2*p+4-(H d.m))+1))≠0\/nh (d.m*2^((2*p+4-(H d.m))+1))=0/\(d.e-(((2*p+4-(H d.m))+1:Nat):Int))/2=0/\((kT (nh (d.m*2^((2*p+4-(H d.m))+1))*nh (d.m*2^((2*p+4-(H d.m))+1)))<|d.m*2^((2*p+4-(H d.m))+1)) != 0)=ac:=.inl (λq=>by rw[q,tZ]at F;omega);have j:((kT (nh (d.m*2^((2*p+4-(H d.m))+1))*nh (d.m*2^((2*p+4-(H d.m))+1)))<|d.m*2^((2*p+4-(H d.m))+1)) != 0)=aa->p<H (nh<|d.m*2^((2*p+4-(H d.m))+1)):=λ_=>F
 exact iL (Y [.o 17<|.e<|Qg d,.c<|TK p d Z U U,tE 20 0 0,S 23 f,tM 26 0 0,S 31<|oo<|qg m,iN<|2*(p:Int),
  iN (((2*p:Nat):Int)+4),.c<|Mh d Z,iN<|(((2*p)+4:Nat):Int)-(H<|Dy.m d:Int),.o 41<|oI (if((((2*p)+4:Nat):Int)-(H<|Dy.m d:Int))>0 then((((2*p)+4:Nat):Int)-(H<|Dy.m d:Int))else 0) ((2*p+4-(H d.m):Nat):Int) aR,
  iN (d.e-((2*p+4-(H d.m):Nat):Int)),.a (U:0<(2:Int)),ah 47 ((bl (d.e-((2*p+4-(H d.m):Nat):Int)) 2) != 0)<|by simpa using r,
  iN (((2*p+4-(H d.m):Nat):Int)+1),.c<|zG d.m<|(2*p+4-(H d.m))+1,.c<|abT (d.m*2^((2*p+4-(H d.m))+1)) _ U Z<|FT _,.c<|CF (nh<|d.m*2^((2*p+4-(H d.m))+1)) (nh<|d.m*2^((2*p+4-(H d.m))+1)) U U U,iN<|d.e-(((2*p+4-(H d.m))+1:Nat):Int),.a (U:0<(2:Int)),iN<|d.e-(((2*p+4-(H d.m))+1:Nat):Int),.o 70<|oI (Int.tdiv (d.e-(((2*p+4-(H d.m))+1:Nat):Int)) 2) ((d.e-(((2*p+4-(H d.m))+1:Nat):Int))/2) (by generalize n:(d.e-(((2*p+4-(H d.m))+1:Nat):Int))/2=y at *;rw[e];exact axh _ aG),.c<|Bu ((nh<|d.m*2^((2*p+4-(H d.m))+1))*(nh<|d.m*2^((2*p+4-(H d.m))+1)))<|d.m*2^((2*p+4-(H d.m))+1),.c<|Hw (nh<|d.m*2^((2*p+4-(H d.m))+1)) ((d.e-(((2*p+4-(H d.m))+1:Nat):Int))/2) ((kT ((nh<|d.m*2^((2*p+4-(H d.m))+1))*(nh<|d.m*2^((2*p+4-(H d.m))+1)))<|d.m*2^((2*p+4-(H d.m))+1)) != 0) up p U Z U U U U Z]<|V (.iO [iJ<|kB ac (nh<|d.m*2^((2*p+4-(H d.m))+1)) ((d.e-(((2*p+4-(H d.m))+1:Nat):Int))/2) ((kT ((nh<|d.m*2^((2*p+4-(H d.m))+1))*(nh<|d.m*2^((2*p+4-(H d.m))+1)))<|d.m*2^((2*p+4-(H d.m))+1)) != 0) p up,D<|ko ac (nh<|d.m*2^((2*p+4-(H d.m))+1)) ((d.e-(((2*p+4-(H d.m))+1:Nat):Int))/2) ((kT ((nh<|d.m*2^((2*p+4-(H d.m))+1))*(nh<|d.m*2^((2*p+4-(H d.m))+1)))<|d.m*2^((2*p+4-(H d.m))+1)) != 0) p up]) (.iO [iJ<|yz d p up,D<|yy d p up])<|by unfold yz yy yx CU;rw[h,adN])
def adl:iB 328 [iJ d,D p,I up]<|.iO [iJ<|yz d p up,D<|yy d p up]:=by
 by_cases h:bl (d.e-((2*p+4-(H d.m):Nat):Int)) 2=0
 .exact ari d p up g f m i C h
 .exact arj d p up g f m i C h
end
section
variable(d:Dy)(p:Nat)(h:d.iE)(n:d.neg=ac)(x:d.m≠0)(i:8<=p)(C:p<=512)
def arf:iB 303 [iJ d,D p]<|.iO [iJ<|yz d p ac,D<|yy d p ac]:=
 iL (af [.c<|adl d p ac Z Z Z U U])
def arh:iB 304 [iJ d,D p]<|.iO [iJ<|yz d p aa,D<|yy d p aa]:=
 iL (af [.c<|adl d p aa Z Z Z U U])
end
section
variable(x:Iv)(p:Nat)(u:x.iE)
def ano(i:8<=p)(C:p<=512)(a:x.all=aa):iB 266 [O x,D p]<|O L:=
 iL (af [.o 10<|.e<|lM x,.c<|se x Z,ai 11 (!x.all)<|by rw[a];rfl,.c pv])
section
variable(i:8<=p)(C:p<=512)(a:x.all=ac)
def anq(h:x.lo.jh<=0):iB 266 [O x,D p]<|O L:=by
 have⟨w,k⟩:=u.kN;exact iL<|af [.o 10<|.e<|lM x,.c<|se x Z,ah 11 (!x.all)<|by rw[a];rfl,.c<|zh (p:Int),ah 15 (mi (p:Int))<|sr.2 ⟨U,U⟩,.c<|oC x.lo Z,S 22<|bu h,.c pv]
def anr(h:¬x.lo.jh<=0)(n:x.lo.neg=ac)(k:x.hi.neg=ac)(m:x.lo.m≠0)(y:x.hi.m≠0):iB 266 [O x,D p]<|O<|mc (yz x.lo p ac) (yy x.lo p ac) (yz x.hi p aa)<|yy x.hi p aa:=by
 have⟨w,z⟩:=u.kN;exact iL<|af [.o 10<|.e<|lM x,.c<|se x Z,ah 11 (!x.all)<|by rw[a];rfl,.c<|zh (p:Int),ah 15 (mi (p:Int))<|sr.2 ⟨U,U⟩,.c<|oC x.lo Z,S 22<|bw h,.c<|arf x.lo p Z Z Z U U,.c<|arh x.hi p Z Z Z U U,.c<|Fv (yz x.lo p ac) (yz x.hi p aa) (yy x.lo p ac)<|yy x.hi p aa]
end
end
def acA{d:Dy}(h:0<d.q):d.neg=ac/\d.m≠0:=by
 have m:d.m≠0:=λq=>by rw[sV,q]at h;simp at h
 refine⟨?_,m⟩;cases hn:d.neg
 .rfl
 .rw [sV,hn,bt rfl]at h;have:=cw (show(0:Rat)<=(d.m:Rat)from dv) (b9<|oZ d.e)
  grind
def sqB{d:Dy}{p:Nat}(i:8<=p)(h:d.m≠0):p<H (nh<|d.m*2^vN d p):=by
 refine TZ (FT _) ?_;rw[sO h];unfold vN;split<;>omega
def anp{x:Iv}(h:x.iE){p:Nat}(i:8<=p)(C:p<=512):∃ Z,Z.iE/\iB 266 [O x,D (p:Int)] (O Z):=by
 cases xa:x.all with
 |true=>exact⟨L,np,ano x p h i C xa⟩
 |false=>
  by_cases k:x.lo.jh<=0
  .exact ⟨L,np,anq x p h i C xa k⟩
  .have q:0<x.lo.q:=(uS _).1.1 U ;have u:0<x.hi.q:=by have:=h.q;grind
   have⟨n,m⟩:=acA q;have⟨y,z⟩:=acA u;refine⟨_,?_,anr x p h i C xa k n y m z⟩;refine atD (FT _) (FT _) (sqB i m) (sqB i z) U U ?_;rw[aeS n _<|OC _ _,aeS y _<|OC _ _];exact h.q
def lv(X b:Nat):Nat->Nat
 | 0=>2^b
 |k+1=>lv X b k*X/2^b/(k+1)
def Yo{X b:Nat}(h:X<=2^(b+1))(t:Nat):t*X/2^b<=2*t:=by
 have p:0<2^b:=bG aG;have x:t*X<=t*(2^b*2):=cR t (by rw[<-bI];exact h);have k:t*X/2^b<=t*(2^b*2)/2^b:=Nat.div_le_div_right x;have y:t*(2^b*2)/2^b=2*t:=by
  rw[show t*(2^b*2)=2^b*(2*t)by rw[dp,bL t 2]];exact aw2 _ p
 omega
def Jh{X b:Nat}(h:X<=2^(b+1)):∀ k,lv X b k<=2^(b+1)
 | 0=>by show 2^b<=2^(b+1);rw[bI];omega
 | 1=>by
  show 2^b*X/2^b/1<=_;rw[eC,aw2 _<|bG aG];exact h
 |k+2=>by
  have i:=Jh h<|k+1;have x:=Yo h<|lv X b<|k+1;show lv X b (k+1)*X/2^b/(k+2)<=_;have y:lv X b (k+1)*X/2^b/(k+2)<=lv X b (k+1)*X/2^b/2:=awv U aG;omega
def akY{X b:Nat}(h:X<=2^(b+1))(k:Nat)(x:3<=k):lv X b (k+1)*2<=lv X b k:=by
 have y:=Yo h<|lv X b k;have z:lv X b (k+1)<=lv X b k*X/2^b/4:=awv U aG;omega
def Yn{X b:Nat}(h:X<=2^(b+1)):∀ j,lv X b (3+j)*2^j<=2^(b+1)
 | 0=>by rw[cA,cr];exact Jh h 3
 |j+1=>by
  have i:=Yn h j;have x:=akY h (3+j) U;have k:=bX (2^j) x;rw[bI,show lv X b (3+(j+1))*(2^j*2)=lv X b (3+j+1)*2*2^j by rw[bM,bL 2<|2^j];rfl];omega
def akZ{X b:Nat}(h:X<=2^(b+1)):∃ N,1<=N/\N<=b+5/\(∀ k,k<N->lv X b k≠0)/\lv X b N=0:=by
 have z:lv X b (3+(b+2))=0:=by
  have t:=Yn h<|b+2;apply b8;intro j;have s:2^(b+2)<=lv X b (3+(b+2))*2^(b+2):=apS _<|eB j;have r:2^(b+2)=2^(b+1)*2:=bI (n:=2) (m:=b+1);have q:0<2^(b+1):=bG aG;omega
 have⟨N,l,y,u⟩:=si (p:=λk=>decide (lv X b k=0)) (n:=b+6) ⟨3+(b+2),U,bu z⟩;have x:=cS y;refine⟨N,?_,U,λk v=>fk<|u k v,x⟩;rcases N with _|N
 .have:0<2^b:=bG aG ;have e:2^b=0:=x;omega
 .omega
def amc{f:Nat->Nat}{B:Nat}(t:f 0<2^B)(h:∀ k,f (k+1)*2<=f k):∃ N,N<=B/\(∀ k,k<N->f k≠0)/\f N=0:=by
 have x:∀ k,f k*2^k<=f 0:=by
  intro k
  induction k with
  |zero=>rw[cA,cr];exact bA _
  |succ k i=>
   have:=bX (2^k)<|h k;rw[bI,show f (k+1)*(2^k*2)=f (k+1)*2*2^k by rw[bM,bL 2<|2^k]];omega
 have z:f B=0:=by
  apply b8;intro j;have s:2^B<=f B*2^B:=apS _<|eB j;have:=x B;omega
 have⟨N,r,y,u⟩:=si (p:=λk=>decide (f k=0)) (n:=B+1) ⟨B,U,bu z⟩;exact⟨N,U,λk v=>fk<|u k v,cS y⟩
def kt(a b:Bool×Nat):Bool×Nat:=if a.1=b.1 then(a.1,a.2+b.2)else if a.2<b.2 then(b.1,b.2-a.2)else(a.1,a.2-b.2)
def q9(a:Bool×Nat):Int:=if a.1 then -(a.2:Int)else(a.2:Int)
def Qy(a b:Bool×Nat):q9 (kt a b)=q9 a+q9 b:=by
 have⟨s,m⟩:=a;have⟨t,n⟩:=b;unfold kt q9;cases s<;>cases t<;>simp<;>(try split)<;>(try simp)<;>omega
def AY(a b:Bool×Nat):(kt a b).2<=a.2+b.2:=by
 unfold kt;split
 .exact bA _
 .split
  .show b.2-a.2<=_;omega
  .show a.2-b.2<=_;omega
section
variable(a:Bool×Nat)
def Ds(b:Nat):Dy:=canon a.1 a.2 (-(b:Int))
def Ym(b:Nat):(Ds a b).q=(q9 a:Rat)*P2 (-(b:Int)):=by
 unfold Ds q9;rw[tv];cases a.1
 .simp only[bS,bE];rw[eI]
 .simp only[bK];rw[iw,eI];grind
def Mx:Bool×Nat:=kt a (aa,16777216)
def Mw:Bool×Nat:=kt a (ac,16777216)
def vF(b p:Nat):Iv:=mc (jZ (Ds (Mx a) b) p ac) (kg (Ds (Mx a) b) p ac) (jZ (Ds (Mw a) b) p aa)<|kg (Ds (Mw a) b) p aa
def aoU(b:Nat){p:Nat}(h:1<=p)(i:p<=4096):(vF a b p).iE:=by
 unfold vF mc;split
 .exact np
 .rename_i e;have c:(Ds (Mx a) b).nj:=tC _ _ _;have x:(Ds (Mw a) b).nj:=tC _ _ _;have A:=AG c h i;have B:=AH x h i;refine .inr ⟨rfl,AI _ h i _,AI _ h i _,?_⟩;rw[rN];refine cg (A.1 U).2<|cg ?_ (B.1 U).2;rw[Ym,Ym,zp,iu];unfold Mx Mw;rw[Qy,Qy];simp[q9]
end
section
variable(m n:Nat)(h:(iy m).length<=256)
def Dg(h:n<=65536)(x:(iy<|m*2^n).length<=256):iB 346 [F<|iy m,D n]<|F<|iy<|m*2^n:=
 iL (af [.c<|SW m n Z U Z])
def zY(h:n<=65536:=by omega):iB 347 [F<|iy m,D n]<|F<|iy<|m/2^n:=
 iL (af [.c<|SX m n Z U])
end
section
variable(m:Nat)(z:Int)(x:(iy m).length<=256)(h:0<=z)(k:z<=65536)
def PG(h:(iy<|m*2^z.toNat).length<=256):iB 346 [F<|iy m,D z]<|F<|iy<|m*2^z.toNat:=by
 have:=Dg m z.toNat x U h;rwa[show(z.toNat:Int)=z by omega]at this
def ait:iB 347 [F<|iy m,D z]<|F<|iy<|m/2^z.toNat:=by
 have:=zY m z.toNat x;rwa[show(z.toNat:Int)=z by omega]at this
end
def na{m k:Nat}(h:m<2^k)(x:k<=8192):(iy m).length<=256:=ph<|bF (mo.2 h) x
def wD{n:Nat}(h:n<4294967296):(iy n).length<=256:=na (k:=32) h aG 
def am8(n:Nat):(jF n).neg=ac/\0<=(jF n).e/\(jF n).m*2^(jF n).e.toNat=n/\(jF n).m<=n:=by
 by_cases h:n=0
 .subst h;decide
 .have e:(jF (n:Int))=canon ac n 0:=Ft n;have x:canon ac n 0=⟨ac,n/2^ky n,(ky n:Int)⟩:=by unfold canon;rw[bn h];simp
  rw[e,x];refine⟨rfl,Int.natCast_nonneg _,?_,b6 _ _⟩;show n/2^ky n*2^(ky n:Int).toNat=n;rw[gW];exact I0 h
def PI(n:Nat)(h:n<4294967296):iB 348 [D n]<|.agg [I ac,F<|iy n]:=by
 have⟨x,k,p,y⟩:=am8 n;have v:=G4 n h;have e:=v.exp;have z:=v.iy;have u:(iy<|(jF n).m*2^(aN (jF n).e)).length<=256:=by rw[p];exact wD h
 exact iL<|Y [.c<|II n,.c<|PG ((jF (n:Int)).m) ((jF (n:Int)).e) Z U U Z]<|V (.agg [I<|(jF (n:Int)).neg,F<|iy<|((jF (n:Int)).m)*2^(aN<|(jF (n:Int)).e)]) (.agg [I ac,F<|iy n])<|by rw[x,p]
def ahD(m:Nat):((H m:Int)==0)=decide (m=0):=by
 by_cases h:m=0
 .subst h;rw[tZ];rfl
 .have:=oP h;rw[bw h];exact oo U 
section
variable(a:Bool×Nat)
def GC(h:(iy a.2).length<=256):iB 353 [.agg [I a.1,F<|iy a.2]]<|I<|decide (a.2=0):=
 iL (Y [.c<|vE a.2]<|V (I<|(H a.2:Int)==0) (I<|decide (a.2=0))<|by rw[ahD])
def Ad:iB 343 [.agg [I a.1,F<|iy a.2]]<|.agg [I<|!a.1,F<|iy a.2]:=
 iL (.nil)
section
variable(k:(iy a.2).length<=256)
section
variable(b:Bool×Nat)(y:(iy b.2).length<=256)
def akI(h:a.1=b.1)(s:(iy<|a.2+b.2).length<=256):iB 352 [.agg [I a.1,F<|iy a.2],.agg [I b.1,F<|iy b.2]]<|.agg [I a.1,F<|iy<|a.2+b.2]:=
 iL (af [ah 13 (a.1==b.1)<|by rw[h];simp,.c<|Kk a.2 b.2 Z Z Z])
def akG(h:¬a.1=b.1)(x:a.2<b.2):iB 352 [.agg [I a.1,F<|iy a.2],.agg [I b.1,F<|iy b.2]]<|.agg [I b.1,F<|iy<|b.2-a.2]:=
 iL (af [ai 13 (a.1==b.1)<|by simpa using h,.c<|Bu a.2 b.2,tT 31 ((kT a.2 b.2)<0)<|Gu.2 x,.c<|FD b.2 a.2 Z Z])
def akH(h:¬a.1=b.1)(x:¬a.2<b.2):iB 352 [.agg [I a.1,F<|iy a.2],.agg [I b.1,F<|iy b.2]]<|.agg [I a.1,F<|iy<|a.2-b.2]:=
 iL (af [ai 13 (a.1==b.1)<|by simpa using h,.c<|Bu a.2 b.2,tF 31 ((kT a.2 b.2)<0) λq=>x<|Gu.1 q,.c<|FD a.2 b.2 Z Z])
def vY(s:(iy<|a.2+b.2).length<=256):iB 352 [.agg [I a.1,F<|iy a.2],.agg [I b.1,F<|iy b.2]]<|.agg [I<|(kt a b).1,F<|iy<|(kt a b).2]:=by
 unfold kt;split
 .rename_i h;exact akI a k b y h s
 .rename_i h;split
  .rename_i x;exact akG a k b y h x
  .rename_i x;exact akH a k b y h x
end
def Qx(c:Bool×Nat)(h:(iy c.2).length<=256)(b:Nat)(x:b<=65536)(m:(iy<|a.2*c.2).length<=256):iB 349 [.agg [I a.1,F<|iy a.2],.agg [I c.1,F<|iy c.2],D b]<|.agg [I<|a.1 != c.1,F<|iy<|a.2*c.2/2^b]:=
 iL (af [.c<|CF a.2 c.2 Z Z Z,.c<|zY (a.2*c.2) b Z])
def Jb(n:Nat)(x:n≠0:=by omega)(h:n<4294967296:=by omega):iB 369 [.agg [I a.1,F<|iy a.2],D n]<|.agg [I a.1,F<|iy<|a.2/n]:=by
 have z:(iy n).length<=256:=wD h;exact iL<|af [.c<|PI n U,.c<|CE a.2 n U U Z]
end
end
def tU(d:Dy)(b:Nat):Bool×Nat:=(d.neg,if d.e+(b:Int)<0 then d.m/2^(0-(d.e+(b:Int))).toNat else d.m*2^(d.e+(b:Int)).toNat)
section
variable(d:Dy)(k:d.iE)(b:Nat)(h:b<=30000)
def aib(h:d.e+(b:Int)<0):iB 351 [iJ d,D b]<|.agg [I<|(tU d b).1,F<|iy<|(tU d b).2]:=by
 have x:=k.exp;have z:=k.iy;exact iL<|Y [iN<|d.e+(b:Int),S 11<|bu h,iN<|0-(d.e+(b:Int)),.c<|ait d.m (0-(d.e+(b:Int))) Z U U]<|V (.agg [I d.neg,F<|iy<|d.m/2^(aN<|0-(d.e+(b:Int)))]) (.agg [I<|(tU d b).1,F<|iy<|(tU d b).2])<|by unfold tU;rw[bt h]
def aia(h:¬d.e+(b:Int)<0)(s:(iy<|d.m*2^(aN<|d.e+(b:Int))).length<=256):iB 351 [iJ d,D b]<|.agg [I<|(tU d b).1,F<|iy<|(tU d b).2]:=by
 have x:=k.exp;have z:=k.iy;exact iL<|Y [iN<|d.e+(b:Int),S 11<|bw h,iN<|d.e+(b:Int),.c<|PG d.m (d.e+(b:Int)) Z U U Z]<|V (.agg [I d.neg,F<|iy<|d.m*2^(aN<|d.e+(b:Int))]) (.agg [I<|(tU d b).1,F<|iy<|(tU d b).2])<|by unfold tU;rw[bn h]
end
def NS{d:Dy}{b K:Nat}(h:d.iQ+(b:Int)<=K):(tU d b).2<2^K:=by
 by_cases y:d.m=0
 .have:(tU d b).2=0:=by unfold tU;simp only[y];split<;>simp
  rw[this];exact bG aG 
 .rw [K7 y]at h;have m:=qW d.m;unfold tU;simp only;split
  .rename_i c;obtain⟨k,x⟩:∃ k,k=(0-(d.e+(b:Int))).toNat:=⟨_,rfl⟩
   rw[<-x];by_cases z:H d.m<=k
   .rw [cG<|bJ m<|bR aG z];exact bG aG 
   .refine (cC<|bG aG).2<|bJ m ?_;rw[<-bC];exact bR aG U 
  .rename_i c;obtain⟨k,x⟩:∃ k,k=(d.e+(b:Int)).toNat:=⟨_,rfl⟩
   rw[<-x];have:=dk m (bG (n:=k)<|show 0<2 by decide);rw[<-bC]at this;exact bJ this<|bR aG U
def PH(d:Dy)(x:d.iE)(b K:Nat)(k:b<=30000)(y:K<=8192)(h:d.iQ+(b:Int)<=K):iB 351 [iJ d,D (b:Int)]<|.agg [I<|(tU d b).1,F<|iy<|(tU d b).2]:=by
 by_cases c:d.e+(b:Int)<0
 .exact aib d x b k c
 .refine aia d x b k c ?_;have:=NS h;unfold tU at this;rw[bn c]at this;exact na this y
def oH(f:Nat->Nat):Nat->Bool×Nat
 | 0=>(ac,f 0)
 |k+1=>kt (oH f k) (decide ((k+1)%2=1),f (k+1)/(2*(k+1)+1))
def Vi{f:Nat->Nat}(x:∀ k,f (k+1)<=f k):∀ n,(n%2=0->q9 (oH f n)<=f 0/\(f 0:Int)-(f 1/3:Nat)<=q9 (oH f n)-(f (n+1)/(2*(n+1)+1):Nat))/\(n%2=1->(f 0:Int)-(f 1/3:Nat)<=q9 (oH f n)/\q9 (oH f n)+(f (n+1)/(2*(n+1)+1):Nat)<=f 0)
 | 0=>⟨λ_=>⟨by simp[oH,q9],by simp[oH,q9]⟩,λh=> U⟩
 |n+1=>by
  have⟨e,o⟩:=Vi x n;have u:f (n+1+1)/(2*(n+1+1)+1)<=f (n+1)/(2*(n+1)+1):=Nat.div_le_div (x<|n+1) U U;have v:q9 (oH f<|n+1)=q9 (oH f n)+q9 (decide ((n+1)%2=1),f (n+1)/(2*(n+1)+1)):=Qy _ _;generalize f (n+1)/(2*(n+1)+1)=q1 at *
  generalize f (n+1+1)/(2*(n+1+1)+1)=q2 at *
  generalize f 1/3=q0 at *
  rcases axi n with h|h
  .have⟨y,z⟩:=e h;rw[show decide ((n+1)%2=1)=aa from bu U]at v;simp only[q9,bK]at v;exact⟨λq=> U,λ_=>⟨by unfold q9 at *;omega,by unfold q9 at *;omega⟩⟩
  .have⟨y,z⟩:=o h;rw[show decide ((n+1)%2=1)=ac from bw U]at v;simp only[q9,bS,bE]at v;exact⟨λ_=>⟨by unfold q9 at *;omega,by unfold q9 at *;omega⟩,λq=> U⟩
def Pq{f:Nat->Nat}(x:∀ k,f (k+1)<=f k)(n:Nat):(oH f n).2<=f 0/\f 0<=(oH f n).2+f 1/3:=by
 have t:=Vi x n;have z:f 1/3<=f 0:=bF (b6 _ _)<|x 0;have y:(f 0:Int)-(f 1/3:Nat)<=q9 (oH f n)/\q9 (oH f n)<=f 0:=by
  rcases axi n with h|h
  .have:=t.1 h;generalize f (n+1)/(2*(n+1)+1)=q at *
   omega
  .have:=t.2 h;generalize f (n+1)/(2*(n+1)+1)=q at *
   omega
 generalize oH f n=s at *
 generalize f 1/3=q at *
 have⟨b,m⟩:=s;cases b
 .simp only[q9,bS,bE]at y ⊢;omega
 .simp only[q9,bK]at y ⊢;omega
def Lv{f:Nat->Nat}(h:∀ k,f (k+1)<=f k):∀ k,f k<=f 0
 | 0=>bA _
 |k+1=>bF (h k)<|Lv h k
section
variable{f:Nat->Nat}(y:∀ k,f (k+1)<=f k){B:Nat}(x:B<=8191)(h:f 0<2^B)(k:Nat)
def Gf:(iy<|f k).length<=256:=na (cB (Lv y k) h) U 
def Lw:(iy (oH f k).2).length<=256/\(iy<|f (k+1)/(2*(k+1)+1)).length<=256:=⟨na (cB (Pq y k).1 h) U,na (cB (bF (b6 _ _)<|Lv y<|k+1) h) U⟩
def Vj:(iy<|(oH f k).2+f (k+1)/(2*(k+1)+1)).length<=256:=by
 have h:=(Pq y k).1;have x:=bF (b6 (f<|k+1)<|2*(k+1)+1)<|Lv y<|k+1;refine na (k:=B+1) ?_ U;rw[bI];omega
end
def uN(n b:Nat):Nat->Nat
 | 0=>1*2^b/n
 |k+1=>uN n b k/(n*n)
def aao{n b:Nat}(h:2<=n)(k:Nat):uN n b (k+1)*2<=uN n b k:=by
 show uN n b k/(n*n)*2<=_;have x:uN n b k/(n*n)<=uN n b k/2:=awv (by have:=dx h h;omega) aG;omega
def Sf(n b:Nat):uN n b 0<2^(b+1):=by
 show 1*2^b/n<_;rw[bU,bI];have:=b6 (2^b) n;have:0<2^b:=bG aG;omega
def anh{n b:Nat}(h:2<=n):∃ N,N<=b+1/\(∀ k,k<N->uN n b (k+1)≠0)/\uN n b (N+1)=0:=by
 have⟨N,u,y,z⟩:=amc (Sf n b)<|aao h;rcases N with _|N
 .refine ⟨0,U,λk x=>absurd x<|bD _,?_⟩;have:=aao (b:=b) h 0;omega
 .exact ⟨N,U,λk x=>y (k+1) U,z⟩
def ap5{T x y f g:Nat}(u:65536<=T)(v:f=T/5)(D:x<=f)(M:f<=x+f/(5*5)/3)(t:y<=T/239)(k:g=(kt (ac,x*2^4) (aa,y*2^2)).2):2<=g/\g<=T*4/\g/2<=T*2:=by
 have h:(2:Nat)^4=16:=rfl;have z:(2:Nat)^2=4:=rfl;have e:g=x*16-y*4:=by
  rw[k,h,z];unfold kt;rw[bn<|show ¬ac=aa from Bool.false_ne_true,bn<|by show ¬x*16<y*4;omega]
 omega
section
variable(f:Nat->Nat)(g:ax)(cap:List E)
def Vh(N:Nat)(x:Nat):PS:=⟨30,aa,[(6,.e<|D ((x+1:Nat):Int)),(5,.box 5 0),(4,.box 4 0),(2,.box 2 0),(1,.e<|.fn g cap)],[(5,.cells 237 [I<|(oH f x).1,F<|iy<|(oH f x).2]),(4,.cells 237 [I ac,.v<|.slice am 0 0]),(2,.cells 237 [I ac,F<|iy<|f x])]⟩
def ahU(N:Nat)(p:∀ k,k<=N->iB g ((.agg [I ac,F<|iy<|f k])::cap) (.agg [I ac,F<|iy<|f<|k+1]))(h:∀ k,f (k+1)<=f k)(B:Nat)(y:B<=8191)(z:f 0<2^B)(u:∀ k,k<N->f (k+1)≠0)(v:f (N+1)=0)(e:N<=100000):iB 371 [.agg [I ac,F<|iy<|f 0],.fn g cap]<|.agg [I<|(oH f N).1,F<|iy<|(oH f N).2]:=by
 have t:=Gf h y z 0;exact iL (af [.s (Sp.jL (Vh f g cap N) 0 N U (λx s d=>by
    have r:=Gf h y z<|x+1;have q:=Gf h y z x;have n:=(Lw h y z x).1;have m:=(Lw h y z x).2;have l:=Vj h y z x;exact iU (Y [.c<|p x U,.c<|GC (ac,(f<|x+1)) Z,tF 15 ((f<|x+1)=0)<|u x U,iN<|2*((x+1:Nat):Int),iN<|((2*(x+1):Nat):Int)+1,.c<|Jb (ac,(f<|x+1)) Z<|(2*(x+1))+1,.a (U:0<(2:Int))]<|.w ((x+1)%2=1)
     (λo=>Y [ah 24 ((((x+1)%2:Nat):Int)==1)<|by rw[o];rfl,.c<|Ad (ac,((f<|x+1)/((2*(x+1))+1))),.c<|vY (oH f x) Z ((!ac),((f<|x+1)/((2*(x+1))+1))) Z Z,iN<|((x+1:Nat):Int)+1]<|.e<|af [.b 5<|cE 237 [I<|(kt (oH f x) ((!ac),((f<|x+1)/((2*(x+1))+1)))).1,F<|iy<|(kt (oH f x) ((!ac),((f<|x+1)/((2*(x+1))+1)))).2] [I<|(oH f<|x+1).1,F<|iy<|(oH f<|x+1).2]<|by first|rfl|simp[oH,o]])
     (λo=>Y [ai 24 ((((x+1)%2:Nat):Int)==1) aS,.c<|vY (oH f x) Z (ac,((f<|x+1)/((2*(x+1))+1))) Z Z,iN<|((x+1:Nat):Int)+1]<|.e<|af [.b 5<|cE 237 [I<|(kt (oH f x) (ac,((f<|x+1)/((2*(x+1))+1)))).1,F<|iy<|(kt (oH f x) (ac,((f<|x+1)/((2*(x+1))+1)))).2] [I<|(oH f<|x+1).1,F<|iy<|(oH f<|x+1).2]<|by first|rfl|simp[oH,o]])) aI)
  (λs=>by
    have r:=Gf h y z<|N+1;have q:=Gf h y z N;have n:=(Lw h y z N).1;have m:=(Lw h y z N).2;have l:=Vj h y z N;exact iU (af [.c<|p N U,.c<|GC (ac,(f<|N+1)) Z,S 15<|bu v]) aI) aM:jK 4 f371 (Vh f g cap N 0) .ret ⟨30,aa,[(4,.box 4 0)],[(4,.cells 237 [I<|(oH f N).1,F<|iy<|(oH f N).2])]⟩)<|af [.o 6<|oI 1 ((0+1:Nat):Int),.b 5<|cE 237 [I ac,F<|iy<|f 0] [I<|(oH f 0).1,F<|iy<|(oH f 0).2]<|by first|rfl|simp[oH,o]]])
end
def ah5(m n:Nat)(y:(iy m).length<=256)(r:n≠0)(h:n<60000):iB 372 [.agg [I ac,F<|iy m],(.jE 1 λj=>[D n].getD j .any)]<|.agg [I ac,F<|iy<|m/(n*n)]:=by
 have x:n*n<3600000000:=axj h h;have k:n*n≠0:=eo r r;exact iL<|af [iN<|(n:Int)*(n:Int),.c<|Jb (ac,m) Z<|n*n]
def ah6(n b:Nat)(S:Bool×Nat)(r:n≠0)(x:n<60000)(y:b<=8000)(h:iB 371 [.agg [I ac,F<|iy<|1*2^b/n],.fn 372 [(.jE 1 λj=>[D n].getD j .any)]]<|.agg [I S.1,F<|iy S.2]):iB 370 [D n,D b]<|.agg [I S.1,F<|iy S.2]:=by
 have z:(iy 1).length<=256:=wD aG;have u:(iy<|1*2^b).length<=256:=na (k:=b+1) (by rw[bI,bU];have:0<2^b:=bG aG;omega) U;exact iL<|af [.o 6<|.e uR,.c<|Dg 1 b Z U Z,.c<|Jb (ac,(1*2^b)) Z n,.c h]
def Wg(n b:Nat)(r:2<=n)(x:n<60000)(y:b<=8000):∃ S:Bool×Nat,S.2<=2^b/n/\2^b/n<=S.2+2^b/n/(n*n)/3/\iB 370 [D (n:Int),D (b:Int)] (.agg [I S.1,F<|iy S.2]):=by
 have⟨N,q,z,u⟩:=anh (b:=b) r;have h:∀ k,uN n b (k+1)<=uN n b k:=λk=>b6 _ _
 have⟨v,t⟩:=Pq h N;have e:uN n b 0=2^b/n:=by show 1*2^b/n=_;rw[bU]
 have s:uN n b 1=2^b/n/(n*n):=by show uN n b 0/(n*n)=_;rw[e]
 refine⟨oH (uN n b) N,by rw[<-e];exact v,by rw[<-s,<-e];exact t,?_⟩;exact ah6 n b _ U x y<|ahU (uN n b) 372 _ N (λk _=>ah5 (uN n b k) n (Gf h (U:b+1<=8191) (Sf n b) k) U x) h (b+1) U (Sf n b) z u U
def aic(b:Nat)(x y:Bool×Nat)(z:x.2<2^b)(h:y.2<2^b)(t:b<=8000)(u:iB 370 [D ((5:Nat):Int),D (b:Int)]<|.agg [I x.1,F<|iy x.2])(v:iB 370 [D ((239:Nat):Int),D (b:Int)]<|.agg [I y.1,F<|iy y.2]):iB 345 [D b]<|.agg [I<|(kt (ac,x.2*2^4) (aa,y.2*2^2)).1,F<|iy<|(kt (ac,x.2*2^4) (aa,y.2*2^2)).2]:=by
 have s:(iy x.2).length<=256:=na z U;have r:(iy y.2).length<=256:=na h U;have e:2^(b+5)=2^b*32:=by rw[bC]
 have q:(iy<|x.2*2^4).length<=256:=na (k:=b+5) U U;have p:(iy<|y.2*2^2).length<=256:=na (k:=b+5) U U;have n:(iy<|x.2*2^4+y.2*2^2).length<=256:=na (k:=b+5) U U;exact iL<|af [.c u,.c v,.c<|Dg x.2 4 Z U Z,.c<|Dg y.2 2 Z U Z,.c<|vY (ac,(x.2*2^4)) Z (aa,(y.2*2^2)) Z Z]
def Wh(b:Nat)(l:16<=b)(h:b<=8000):∃ c:Bool×Nat,2<=c.2/\c.2<=2^b*4/\c.2/2<=2^b*2/\iB 345 [D (b:Int)] (.agg [I c.1,F<|iy c.2]):=by
 have⟨x,k,z,u⟩:=Wg 5 b aG aG h;have⟨y,v,q,t⟩:=Wg 239 b aG aG h;have T:65536<=2^b:=by have:=bR (show 0<2 by decide) l;omega
 have⟨g,s,r⟩:=ap5 T rfl k z v rfl;exact⟨_,g,s,r,aic b x y U U h u t⟩
end Go.Proofs.YthalchiobglflaaGreatDoor
