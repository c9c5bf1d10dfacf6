/- Lemmas that the last file uses. -/
import Derived.Test.YtjkmahljfblobaaGreatDoorM04
set_option linter.unusedSimpArgs false
set_option linter.unusedVariables false
set_option linter.defProp false
set_option maxHeartbeats 4000000
open Go.Proofs.Tryz
namespace Go.Proofs.YtjkmahljfblobaaGreatDoor
open Go.RowKit Fp Pu
def ace(x:Bool×Nat)(b N:Nat)(i:Nat):PS:=⟨43,true,[(8,.e<|iP ((i+1:Nat):Int)),(7,.box 7 0),(5,.box 5 0),(4,.box 4 0),(2,.box 2 0),(1,.e<|iP b)],[(5,.cells 287 [bP<|((jY x b i).2).1,iy<|im<|((jY x b i).2).2]),(7,.cells 287 [bP<|lM x i,iy<|im<|kz x.2 b i]),(4,.cells 287 [bP<|((jY x b i).1).1,iy<|im<|((jY x b i).1).2]),(2,.cells 287 [bP x.1,iy<|im x.2])]⟩
def MQ(n i:Nat):(im n).getD i 0<4294967296:=by
 by_cases h:i<(im n).length
 .rw [bt,bD h];exact nA n _<|cB h
 .rw [bt,bW aC];decide
section
variable(d:Dy)(b t m:Nat)(cp:Bool×Nat)(hd:d.ix)(ht:t=d.iJ.toNat)(kI:16<=b)(oB:b<=2000)(uE:t<=2000)(K:Nat)(hK:K<=6000)(zx:m<2^K)(zc:2<=cp.2)(zd:(im cp.2).length<=256)(sT:il 377 [iP (((b+t)+40:Nat):Int)]<|.agg [bP cp.1,iy<|im cp.2])
section
variable(wT:il 383 [iB d,iP (((b+t)+40:Nat):Int)]<|.agg [bP true,iy<|im m])
def afW(hn:0<(im<|m/(cp.2/2^1)).length):il 373 [iB d,iP b]<|.iH [.agg [bP<|(jU (true,m) (false,((m/(cp.2/2^1))*(cp.2/2^1)))).1,iy<|im<|(jU (true,m) (false,((m/(cp.2/2^1))*(cp.2/2^1)))).2/2^(t+40)],iP (((4-((im<|m/(cp.2/2^1)).getD 0 0%4))%4:Nat):Int)]:=by
 have Re:=KK hd;have zX:(im m).length<=256:=mo zx aC;have zH:(im<|cp.2/2^1).length<=256:=bA (nG<|cv _ _) zd;have nH:(cp.2/2^1)≠0:= aC ;have mM:((m/(cp.2/2^1))*(cp.2/2^1))<=m:=dH _ _;have zN:(im<|m/(cp.2/2^1)).length<=256:=bA (nG<|cv _ _) zX;have zM:(im<|(m/(cp.2/2^1))*(cp.2/2^1)).length<=256:=bA (nG mM) zX;have zA:(im<|m+((m/(cp.2/2^1))*(cp.2/2^1))).length<=256:=mo (k:=K+1) (by have:=bM 2 K;omega) aC;have zR:(im (jU (true,m) (false,((m/(cp.2/2^1))*(cp.2/2^1)))).2).length<=256:=bA (nG<|Am _ _) zA;have zm:(im<|m%(cp.2/2^1)).length<=256:=bA (nG<|e9 _ _) zX;have hg:(im<|m/(cp.2/2^1)).getD 0 0<4294967296:=MQ _ 0;have h4:(im<|m/(cp.2/2^1)).getD 0 0%4<=3:= aC ;exact iE (af [.c<|oY d aD,.o 19<|aq (if 0>(Dy.iJ d)then 0 else(Dy.iJ d)) t aM,iL<|(b:Int)+t,
  iL (((b+t:Nat):Int)+40),ag [iP (((b+t)+40:Nat):Int)] sT,.c<|yO cp.2 1 aD,ag [iB d,iP (((b+t)+40:Nat):Int)] wT,.c<|B9 m (cp.2/2^1) aC aC aD,.c<|Ca (m/(cp.2/2^1)) (cp.2/2^1) aD aD aD,ag [.agg [bP true,iy<|im m],.agg [bP false,iy<|im<|(m/(cp.2/2^1))*(cp.2/2^1)]]<|uZ (true,m) aD (false,((m/(cp.2/2^1))*(cp.2/2^1))) aD aD,tT 61 (0<((im<|m/(cp.2/2^1)).length:Int)) aC,iX 0<|(im<|m/(cp.2/2^1)).length,.o 65 (.int<|adl _ aC:aj (.v<|.int .u32<|bits .and .u32 (((im<|m/(cp.2/2^1)).getD 0 0:Nat):Int) 3)<|.v<|.int .u32 ((((im<|m/(cp.2/2^1)).getD 0 0)%4:Nat):Int)),.o 66<|aq (IntKind.i64.wrap ((((im<|m/(cp.2/2^1)).getD 0 0)%4:Nat):Int)) ((((im<|m/(cp.2/2^1)).getD 0 0)%4:Nat):Int)<|Yz _ aC,
  iL (4-((((im<|m/(cp.2/2^1)).getD 0 0)%4:Nat):Int)),.o 71<|aq (bits .and .i64 (4-((((im<|m/(cp.2/2^1)).getD 0 0)%4:Nat):Int)) 3) (((4-((im<|m/(cp.2/2^1)).getD 0 0%4))%4:Nat):Int)<|akx _ aC,
  iL ((t:Int)+40),.c<|yO ((jU (true,m) (false,((m/(cp.2/2^1))*(cp.2/2^1)))).2) (t+40) aD])
def afU(hn:¬0<(im<|m/(cp.2/2^1)).length):il 373 [iB d,iP b]<|.iH [.agg [bP<|(jU (true,m) (false,((m/(cp.2/2^1))*(cp.2/2^1)))).1,iy<|im<|(jU (true,m) (false,((m/(cp.2/2^1))*(cp.2/2^1)))).2/2^(t+40)],iP 0]:=by
 have Re:=KK hd;have zX:(im m).length<=256:=mo zx aC;have zH:(im<|cp.2/2^1).length<=256:=bA (nG<|cv _ _) zd;have nH:(cp.2/2^1)≠0:= aC ;have mM:((m/(cp.2/2^1))*(cp.2/2^1))<=m:=dH _ _;have zN:(im<|m/(cp.2/2^1)).length<=256:=bA (nG<|cv _ _) zX;have zM:(im<|(m/(cp.2/2^1))*(cp.2/2^1)).length<=256:=bA (nG mM) zX;have zA:(im<|m+((m/(cp.2/2^1))*(cp.2/2^1))).length<=256:=mo (k:=K+1) (by have:=bM 2 K;omega) aC;have zR:(im (jU (true,m) (false,((m/(cp.2/2^1))*(cp.2/2^1)))).2).length<=256:=bA (nG<|Am _ _) zA;have zm:(im<|m%(cp.2/2^1)).length<=256:=bA (nG<|e9 _ _) zX;have hg:(im<|m/(cp.2/2^1)).getD 0 0<4294967296:=MQ _ 0;have h4:(im<|m/(cp.2/2^1)).getD 0 0%4<=3:= aC ;exact iE (af [.c<|oY d aD,.o 19<|aq (if 0>(Dy.iJ d)then 0 else(Dy.iJ d)) t aM,iL<|(b:Int)+t,
  iL (((b+t:Nat):Int)+40),ag [iP (((b+t)+40:Nat):Int)] sT,.c<|yO cp.2 1 aD,ag [iB d,iP (((b+t)+40:Nat):Int)] wT,.c<|B9 m (cp.2/2^1) aC aC aD,.c<|Ca (m/(cp.2/2^1)) (cp.2/2^1) aD aD aD,ag [.agg [bP true,iy<|im m],.agg [bP false,iy<|im<|(m/(cp.2/2^1))*(cp.2/2^1)]]<|uZ (true,m) aD (false,((m/(cp.2/2^1))*(cp.2/2^1))) aD aD,tF 61 (0<((im<|m/(cp.2/2^1)).length:Int)) aC,iL<|4-0,.o 71<|aq (bits .and .i64 (4-0) 3) 0 aE,iL<|(t:Int)+40,.c<|yO ((jU (true,m) (false,((m/(cp.2/2^1))*(cp.2/2^1)))).2) (t+40) aD])
end
section
variable(wT:il 383 [iB d,iP (((b+t)+40:Nat):Int)]<|.agg [bP false,iy<|im m])
def afX(hn:0<(im<|m/(cp.2/2^1)).length):il 373 [iB d,iP b]<|.iH [.agg [bP<|(jU (false,m) (true,((m/(cp.2/2^1))*(cp.2/2^1)))).1,iy<|im<|(jU (false,m) (true,((m/(cp.2/2^1))*(cp.2/2^1)))).2/2^(t+40)],iP (((im<|m/(cp.2/2^1)).getD 0 0%4:Nat):Int)]:=by
 have Re:=KK hd;have zX:(im m).length<=256:=mo zx aC;have zH:(im<|cp.2/2^1).length<=256:=bA (nG<|cv _ _) zd;have nH:(cp.2/2^1)≠0:= aC ;have mM:((m/(cp.2/2^1))*(cp.2/2^1))<=m:=dH _ _;have zN:(im<|m/(cp.2/2^1)).length<=256:=bA (nG<|cv _ _) zX;have zM:(im<|(m/(cp.2/2^1))*(cp.2/2^1)).length<=256:=bA (nG mM) zX;have zA:(im<|m+((m/(cp.2/2^1))*(cp.2/2^1))).length<=256:=mo (k:=K+1) (by have:=bM 2 K;omega) aC;have zR:(im (jU (false,m) (true,((m/(cp.2/2^1))*(cp.2/2^1)))).2).length<=256:=bA (nG<|Am _ _) zA;have zm:(im<|m%(cp.2/2^1)).length<=256:=bA (nG<|e9 _ _) zX;have hg:(im<|m/(cp.2/2^1)).getD 0 0<4294967296:=MQ _ 0;have h4:(im<|m/(cp.2/2^1)).getD 0 0%4<=3:= aC ;exact iE (af [.c<|oY d aD,.o 19<|aq (if 0>(Dy.iJ d)then 0 else(Dy.iJ d)) t aM,iL<|(b:Int)+t,
  iL (((b+t:Nat):Int)+40),ag [iP (((b+t)+40:Nat):Int)] sT,.c<|yO cp.2 1 aD,ag [iB d,iP (((b+t)+40:Nat):Int)] wT,.c<|B9 m (cp.2/2^1) aC aC aD,.c<|Ca (m/(cp.2/2^1)) (cp.2/2^1) aD aD aD,ag [.agg [bP false,iy<|im m],.agg [bP true,iy<|im<|(m/(cp.2/2^1))*(cp.2/2^1)]]<|uZ (false,m) aD (true,((m/(cp.2/2^1))*(cp.2/2^1))) aD aD,tT 61 (0<((im<|m/(cp.2/2^1)).length:Int)) aC,iX 0<|(im<|m/(cp.2/2^1)).length,.o 65 (.int<|adl _ aC:aj (.v<|.int .u32<|bits .and .u32 (((im<|m/(cp.2/2^1)).getD 0 0:Nat):Int) 3)<|.v<|.int .u32 ((((im<|m/(cp.2/2^1)).getD 0 0)%4:Nat):Int)),.o 66<|aq (IntKind.i64.wrap ((((im<|m/(cp.2/2^1)).getD 0 0)%4:Nat):Int)) ((((im<|m/(cp.2/2^1)).getD 0 0)%4:Nat):Int)<|Yz _ aC,
  iL ((t:Int)+40),.c<|yO ((jU (false,m) (true,((m/(cp.2/2^1))*(cp.2/2^1)))).2) (t+40) aD])
def afV(hn:¬0<(im<|m/(cp.2/2^1)).length):il 373 [iB d,iP b]<|.iH [.agg [bP<|(jU (false,m) (true,((m/(cp.2/2^1))*(cp.2/2^1)))).1,iy<|im<|(jU (false,m) (true,((m/(cp.2/2^1))*(cp.2/2^1)))).2/2^(t+40)],iP 0]:=by
 have Re:=KK hd;have zX:(im m).length<=256:=mo zx aC;have zH:(im<|cp.2/2^1).length<=256:=bA (nG<|cv _ _) zd;have nH:(cp.2/2^1)≠0:= aC ;have mM:((m/(cp.2/2^1))*(cp.2/2^1))<=m:=dH _ _;have zN:(im<|m/(cp.2/2^1)).length<=256:=bA (nG<|cv _ _) zX;have zM:(im<|(m/(cp.2/2^1))*(cp.2/2^1)).length<=256:=bA (nG mM) zX;have zA:(im<|m+((m/(cp.2/2^1))*(cp.2/2^1))).length<=256:=mo (k:=K+1) (by have:=bM 2 K;omega) aC;have zR:(im (jU (false,m) (true,((m/(cp.2/2^1))*(cp.2/2^1)))).2).length<=256:=bA (nG<|Am _ _) zA;have zm:(im<|m%(cp.2/2^1)).length<=256:=bA (nG<|e9 _ _) zX;have hg:(im<|m/(cp.2/2^1)).getD 0 0<4294967296:=MQ _ 0;have h4:(im<|m/(cp.2/2^1)).getD 0 0%4<=3:= aC ;exact iE (af [.c<|oY d aD,.o 19<|aq (if 0>(Dy.iJ d)then 0 else(Dy.iJ d)) t aM,iL<|(b:Int)+t,
  iL (((b+t:Nat):Int)+40),ag [iP (((b+t)+40:Nat):Int)] sT,.c<|yO cp.2 1 aD,ag [iB d,iP (((b+t)+40:Nat):Int)] wT,.c<|B9 m (cp.2/2^1) aC aC aD,.c<|Ca (m/(cp.2/2^1)) (cp.2/2^1) aD aD aD,ag [.agg [bP false,iy<|im m],.agg [bP true,iy<|im<|(m/(cp.2/2^1))*(cp.2/2^1)]]<|uZ (false,m) aD (true,((m/(cp.2/2^1))*(cp.2/2^1))) aD aD,tF 61 (0<((im<|m/(cp.2/2^1)).length:Int)) aC,iL<|(t:Int)+40,.c<|yO ((jU (false,m) (true,((m/(cp.2/2^1))*(cp.2/2^1)))).2) (t+40) aD])
end
end
def afT(d:Dy)(b:Nat)(hd:d.ix)(kI:16<=b)(oB:b<=1000)(ht:d.iJ<=100):∃ (r:Bool×Nat) (k:Nat),r.2<=2^(b+1)/\k<=3/\il 373 [iB d,iP (b:Int)] (.iH [.agg [bP r.1,iy<|im r.2],iP (k:Int)]):=by
 obtain⟨t,uE⟩:∃ t,t=d.iJ.toNat:=⟨_,rfl⟩
 obtain⟨cp,c1,c2,c3,sT⟩:=UW (b+t+40) aC aC;have wT:=Pe d hd (b+t+40) 6000 aC aE aC;have iN:=Nb (d:=d) (b:=b+t+40) (K:=6000) aC;generalize sL d (b+t+40)=x at wT iN;have hp:(2:Nat)^(b+t+40+3)=2^(b+t+40)*8:=by rw[bE]
 have zd:(im cp.2).length<=256:=mo (k:=b+t+40+3) (by have:0<2^(b+t+40):=bF aE;omega) aC;obtain⟨sg,m⟩:=x;have hle:=ao0 (x:=(sg,m)) (H:=cp.2/2^1) (b:=b) (t:=t) aC c3;by_cases hn:0<(im<|m/(cp.2/2^1)).length
 .cases sg with
  |false=>exact⟨((jU (false,m) (true,m/(cp.2/2^1)*(cp.2/2^1))).1,(jU (false,m) (true,m/(cp.2/2^1)*(cp.2/2^1))).2/2^(t+40)),_,hle,aoZ _,afX d b t m cp hd uE kI aC aC 6000 aE iN c1 zd sT wT hn⟩
  |true=>exact⟨((jU (true,m) (false,m/(cp.2/2^1)*(cp.2/2^1))).1,(jU (true,m) (false,m/(cp.2/2^1)*(cp.2/2^1))).2/2^(t+40)),_,hle,aoY _,afW d b t m cp hd uE kI aC aC 6000 aE iN c1 zd sT wT hn⟩
 .cases sg with
  |false=>exact⟨((jU (false,m) (true,m/(cp.2/2^1)*(cp.2/2^1))).1,(jU (false,m) (true,m/(cp.2/2^1)*(cp.2/2^1))).2/2^(t+40)),_,hle,ck 3,afV d b t m cp hd uE kI aC aC 6000 aE iN c1 zd sT wT hn⟩
  |true=>exact⟨((jU (true,m) (false,m/(cp.2/2^1)*(cp.2/2^1))).1,(jU (true,m) (false,m/(cp.2/2^1)*(cp.2/2^1))).2/2^(t+40)),_,hle,ck 3,afU d b t m cp hd uE kI aC aC 6000 aE iN c1 zd sT wT hn⟩
def afZ(x:Bool×Nat)(b N:Nat)(sY:x.2<=2^(b+1))(hb:b<=3000)(ux:N<=b+4)(h0:∀ k,k<N+1->kz x.2 b k≠0)(hN:kz x.2 b (N+1)=0):il 374 [.agg [bP x.1,iy<|im x.2],iP b]<|.iH [.agg [bP<|((jY x b N).1).1,iy<|im<|((jY x b N).1).2],.agg [bP<|((jY x b N).2).1,iy<|im<|((jY x b N).2).2]]:=by
 have zx:(im x.2).length<=256:=mo (k:=b+2) (by have e:2^(b+2)=2^(b+1)*2:=bM _ _;have:0<2^(b+1):=bF aE;omega) aC;have z0:(im 1).length<=256:=vu aE;have z1:(im<|1*2^b).length<=256:=mo (k:=b+1) (by rw[bM,bX];have:0<2^b:=bF aE;omega) aC;exact iE (af [.o 10 (.e A0:aj (.sl false 1 1 λi_ j_=>[.v<|.int .u32 1].getD (i_*1+j_)<|.v<|.bool false)<|iy<|im 1),.c<|CD 1 b aD aC aD,.s (Sp.jP (ace x b N) 0 N aC (λi hi mW=>by
    have SF:=acj sY hb (k:=i) aC;obtain⟨f0,f1,f2,f3,f4,f5,f6,f7⟩:=SF;exact iS (ae [ag [.agg [bP<|lM x i,iy<|im<|kz x.2 b i],.agg [bP x.1,iy<|im x.2],iP b]<|P4 ((lM x i),(kz x.2 b i)) aD x aD _ aC aD,ag [.agg [bP<|(lM x i) != x.1,iy<|im<|(kz x.2 b i)*x.2/2^b],iP ((i+1:Nat):Int)]<|IS (((lM x i) != x.1),((kz x.2 b i)*x.2/2^b)) aD<|i+1,ag [.agg [bP<|lM x<|i+1,iy<|im<|kz x.2 b<|i+1]]<|F2 ((lM x<|i+1),(kz x.2 b<|i+1)) aD,tF 25 ((kz x.2 b<|i+1)=0)<|h0 (i+1) aC,.a (aC:0<(4:Int))]<|.w (2<=(i+1)%4)
     (λh4=>ae [tT 31 (2<=(((i+1)%4:Nat):Int)) aC,ag [.agg [bP<|lM x<|i+1,iy<|im<|kz x.2 b<|i+1]]<|yW ((lM x<|i+1),(kz x.2 b<|i+1)),.a (aC:0<(2:Int))]<|.w ((i+1)%2=1)
      (λho=>ae [ah 36 ((((i+1)%2:Nat):Int)==1)<|by rw[ho];rfl,ag [.agg [bP<|((jY x b i).1).1,iy<|im<|((jY x b i).1).2],.agg [bP<|!(lM x<|i+1),iy<|im<|kz x.2 b<|i+1]]<|uZ ((jY x b i).1) aD ((!(lM x<|i+1)),(kz x.2 b<|i+1)) aD aD,
       iL (((i+1:Nat):Int)+1)]<|.e<|af [.b 5 (.jq<|by first|rfl|simp[jY,lM,kz,ho,h4]|simp[jY,lM,kz]:Bx.le (.cells 287 [bP<|((jY x b i).2).1,iy<|im<|((jY x b i).2).2])<|.cells 287 [bP<|((jY x b<|i+1).2).1,iy<|im<|((jY x b<|i+1).2).2]),.b 4 (.jq<|by first|rfl|simp[jY,lM,kz,ho,h4]|simp[jY,lM,kz]:Bx.le (.cells 287 [bP<|(jU ((jY x b i).1) ((!(lM x<|i+1)),(kz x.2 b<|i+1))).1,iy<|im<|(jU ((jY x b i).1) ((!(lM x<|i+1)),(kz x.2 b<|i+1))).2])<|.cells 287 [bP<|((jY x b<|i+1).1).1,iy<|im<|((jY x b<|i+1).1).2])])
      (λho=>ae [ai 36 ((((i+1)%2:Nat):Int)==1) aN,ag [.agg [bP<|((jY x b i).2).1,iy<|im<|((jY x b i).2).2],.agg [bP<|!(lM x<|i+1),iy<|im<|kz x.2 b<|i+1]]<|uZ ((jY x b i).2) aD ((!(lM x<|i+1)),(kz x.2 b<|i+1)) aD aD,
       iL (((i+1:Nat):Int)+1)]<|.e<|af [.b 5 (.jq<|by first|rfl|simp[jY,lM,kz,ho,h4]|simp[jY,lM,kz]:Bx.le (.cells 287 [bP<|(jU ((jY x b i).2) ((!(lM x<|i+1)),(kz x.2 b<|i+1))).1,iy<|im<|(jU ((jY x b i).2) ((!(lM x<|i+1)),(kz x.2 b<|i+1))).2])<|.cells 287 [bP<|((jY x b<|i+1).2).1,iy<|im<|((jY x b<|i+1).2).2]),.b 4 (.jq<|by first|rfl|simp[jY,lM,kz,ho,h4]|simp[jY,lM,kz]:Bx.le (.cells 287 [bP<|((jY x b i).1).1,iy<|im<|((jY x b i).1).2])<|.cells 287 [bP<|((jY x b<|i+1).1).1,iy<|im<|((jY x b<|i+1).1).2])]))
     (λh4=>ae [tF 31 (2<=(((i+1)%4:Nat):Int)) aC,.a (aC:0<(2:Int))]<|.w ((i+1)%2=1)
      (λho=>ae [ah 36 ((((i+1)%2:Nat):Int)==1)<|by rw[ho];rfl,ag [.agg [bP<|((jY x b i).1).1,iy<|im<|((jY x b i).1).2],.agg [bP<|lM x<|i+1,iy<|im<|kz x.2 b<|i+1]]<|uZ ((jY x b i).1) aD ((lM x<|i+1),(kz x.2 b<|i+1)) aD aD,
       iL (((i+1:Nat):Int)+1)]<|.e<|af [.b 5 (.jq<|by first|rfl|simp[jY,lM,kz,ho,h4]|simp[jY,lM,kz]:Bx.le (.cells 287 [bP<|((jY x b i).2).1,iy<|im<|((jY x b i).2).2])<|.cells 287 [bP<|((jY x b<|i+1).2).1,iy<|im<|((jY x b<|i+1).2).2]),.b 4 (.jq<|by first|rfl|simp[jY,lM,kz,ho,h4]|simp[jY,lM,kz]:Bx.le (.cells 287 [bP<|(jU ((jY x b i).1) ((lM x<|i+1),(kz x.2 b<|i+1))).1,iy<|im<|(jU ((jY x b i).1) ((lM x<|i+1),(kz x.2 b<|i+1))).2])<|.cells 287 [bP<|((jY x b<|i+1).1).1,iy<|im<|((jY x b<|i+1).1).2])])
      (λho=>ae [ai 36 ((((i+1)%2:Nat):Int)==1) aN,ag [.agg [bP<|((jY x b i).2).1,iy<|im<|((jY x b i).2).2],.agg [bP<|lM x<|i+1,iy<|im<|kz x.2 b<|i+1]]<|uZ ((jY x b i).2) aD ((lM x<|i+1),(kz x.2 b<|i+1)) aD aD,
       iL (((i+1:Nat):Int)+1)]<|.e<|af [.b 5 (.jq<|by first|rfl|simp[jY,lM,kz,ho,h4]|simp[jY,lM,kz]:Bx.le (.cells 287 [bP<|(jU ((jY x b i).2) ((lM x<|i+1),(kz x.2 b<|i+1))).1,iy<|im<|(jU ((jY x b i).2) ((lM x<|i+1),(kz x.2 b<|i+1))).2])<|.cells 287 [bP<|((jY x b<|i+1).2).1,iy<|im<|((jY x b<|i+1).2).2]),.b 4 (.jq<|by first|rfl|simp[jY,lM,kz,ho,h4]|simp[jY,lM,kz]:Bx.le (.cells 287 [bP<|((jY x b i).1).1,iy<|im<|((jY x b i).1).2])<|.cells 287 [bP<|((jY x b<|i+1).1).1,iy<|im<|((jY x b<|i+1).1).2])]))) aF)
  (λhi=>by
    have SF:=acj sY hb (k:=N) aC;obtain⟨f0,f1,f2,f3,f4,f5,f6,f7⟩:=SF;exact iS (af [ag [.agg [bP<|lM x N,iy<|im<|kz x.2 b N],.agg [bP x.1,iy<|im x.2],iP b]<|P4 ((lM x N),(kz x.2 b N)) aD x aD _ aC aD,ag [.agg [bP<|(lM x N) != x.1,iy<|im<|(kz x.2 b N)*x.2/2^b],iP ((N+1:Nat):Int)]<|IS (((lM x N) != x.1),((kz x.2 b N)*x.2/2^b)) aD<|N+1,ag [.agg [bP<|lM x<|N+1,iy<|im<|kz x.2 b<|N+1]]<|F2 ((lM x<|N+1),(kz x.2 b<|N+1)) aD,tB 25<|bu hN]) aF) aI:jM 6 f374 (ace x b N 0) .ret ⟨43,true,[(5,.box 5 0),(4,.box 4 0)],[(5,.cells 287 [bP<|((jY x b N).2).1,iy<|im<|((jY x b N).2).2]),(4,.cells 287 [bP<|((jY x b N).1).1,iy<|im<|((jY x b N).1).2])]⟩)<|af [.o 8<|aq 1 ((0+1:Nat):Int) aO,.b 5 (.jq<|by first|rfl|simp[jY,lM,kz,ho,h4]|simp[jY,lM,kz]:Bx.le (.cells 287 [bP false,iy<|im<|1*2^b])<|.cells 287 [bP<|((jY x b 0).2).1,iy<|im<|((jY x b 0).2).2]),.b 7 (.jq<|by first|rfl|simp[jY,lM,kz,ho,h4]|simp[jY,lM,kz]:Bx.le (.cells 287 [bP false,iy<|im<|1*2^b])<|.cells 287 [bP<|lM x 0,iy<|im<|kz x.2 b 0]),.b 4 (aiS:Bx.le (.cells 287 [bP false,.v<|.slice none 0 0])<|.cells 287 [bP<|((jY x b 0).1).1,iy<|im<|((jY x b 0).1).2])]])
def af0(x:Bool×Nat)(b:Nat)(sY:x.2<=2^(b+1))(hb:b<=3000):∃ s c:Bool×Nat,s.2<2^(b+14)/\c.2<2^(b+14)/\il 374 [.agg [bP x.1,iy<|im x.2],iP (b:Int)] (.iH [.agg [bP s.1,iy<|im s.2],.agg [bP c.1,iy<|im c.2]]):=by
 obtain⟨N,n1,n2,n3,n4⟩:=aiU sY;obtain⟨M,rfl⟩:∃ M,N=M+1:=⟨N-1,aC⟩
 obtain⟨a1,a2⟩:=acm sY hb (k:=M) aC;exact⟨_,_,a1,a2,afZ x b M sY hb aC n3 n4⟩
def CE(a:Bool×Nat)(b p:Nat)(ha:a.2<2^3000)(hb:b<=8000:=by omega)(iC:8<=p:=by omega)(iu:p<=512:=by omega):il 376 [.agg [bP a.1,iy<|im a.2],iP b,iP p]<|iA<|uK a b p:=by
 have z1:(im 1).length<=256:=vu aE;have z2:(im<|1*2^24).length<=256:=vu aE;have z3:(im a.2).length<=256:=mo ha aE;have hs:=Nk (n:=3000) ha (show 1*2^24<2^25 by decide) aE aE;have z4:(im<|a.2+1*2^24).length<=256:=mo hs aE;have l1:=cO (show(jU a ((!false),(1*2^24))).2<=_ from Am _ _) hs;have l2:=cO (show(jU a (false,(1*2^24))).2<=_ from Am _ _) hs;have z5:(im (jU a ((!false),(1*2^24))).2).length<=256:=mo l1 aE;have z6:(im (jU a (false,(1*2^24))).2).length<=256:=mo l2 aE;have e3:(0-(b:Int)) = -(b:Int):=Int.zero_sub _;have r1:oi<|canon (jU a ((!false),(1*2^24))).1 (jU a ((!false),(1*2^24))).2<|0-(b:Int):=by rw[e3];exact aad (Kh (k:=4000) l1 aE) hb
 have r2:oi<|canon (jU a (false,(1*2^24))).1 (jU a (false,(1*2^24))).2<|0-(b:Int):=by rw[e3];exact aad (Kh (k:=4000) l2 aE) hb
 have v1:(canon (jU a ((!false),(1*2^24))).1 (jU a ((!false),(1*2^24))).2<|0-(b:Int)).ix:=aae r1;have v2:(canon (jU a (false,(1*2^24))).1 (jU a (false,(1*2^24))).2<|0-(b:Int)).ix:=aae r2;have hN:uK a b p=mF (jd (canon (jU a ((!false),(1*2^24))).1 (jU a ((!false),(1*2^24))).2<|0-(b:Int)) p false) (jI (canon (jU a ((!false),(1*2^24))).1 (jU a ((!false),(1*2^24))).2<|0-(b:Int)) p false) (jd (canon (jU a (false,(1*2^24))).1 (jU a (false,(1*2^24))).2<|0-(b:Int)) p true) (jI (canon (jU a (false,(1*2^24))).1 (jU a (false,(1*2^24))).2<|0-(b:Int)) p true):=by rw[e3];rfl
 exact iE (ae [.o 14 (.e A0:aj (.sl false 1 1 λi_ j_=>[.v<|.int .u32 1].getD (i_*1+j_)<|.v<|.bool false)<|iy<|im 1),.c<|CD 1 24 aD aC aD,ag [.agg [bP false,iy<|im<|1*2^24]]<|yW (false,(1*2^24)),ag [.agg [bP a.1,iy<|im a.2],.agg [bP<|!false,iy<|im<|1*2^24]]<|uZ a aD ((!false),(1*2^24)) aD aD,ag [.agg [bP a.1,iy<|im a.2],.agg [bP false,iy<|im<|1*2^24]]<|uZ a aD (false,(1*2^24)) aD aD,iL<|0-(b:Int),.c<|D2 ((jU a (!false,(1*2^24))).1) ((jU a (!false,(1*2^24))).2) (0-(b:Int)) aD aC aC aD,iL<|0-(b:Int),.c<|D2 ((jU a (false,(1*2^24))).1) ((jU a (false,(1*2^24))).2) (0-(b:Int)) aD aC aC aD,ai 45 ((0:Int) != 0) aE,ai 48 ((0:Int) != 0) aE,.c<|Ih (canon ((jU a (!false,(1*2^24))).1) ((jU a (!false,(1*2^24))).2)<|0-(b:Int)) p aD,.c<|Ii (canon ((jU a (false,(1*2^24))).1) ((jU a (false,(1*2^24))).2)<|0-(b:Int)) p aD]<|.w ((jI (canon ((jU a ((!false),(1*2^24))).1) ((jU a ((!false),(1*2^24))).2)<|0-(b:Int)) p false)=0)
  (λk1=>ae [tB 64<|bg k1]<|.w ((jI (canon ((jU a (false,(1*2^24))).1) ((jU a (false,(1*2^24))).2)<|0-(b:Int)) p true)=0)
   (λk2=>ae [tB 67<|bg k2]<|rQ (iA<|Iv.mk (jd (canon ((jU a ((!false),(1*2^24))).1) ((jU a ((!false),(1*2^24))).2)<|0-(b:Int)) p false) (jd (canon ((jU a (false,(1*2^24))).1) ((jU a (false,(1*2^24))).2)<|0-(b:Int)) p true) false) (iA<|uK a b p)<|by rw[hN,amx k1 k2])
   (λk2=>ae [tB 67<|bh k2,.c oC]<|rQ (iA iw) (iA<|uK a b p)<|by rw[hN,ZU<|.inr k2]))
  (λk1=>ae [tB 64<|bh k1,.c oC]<|rQ (iA iw) (iA<|uK a b p)<|by rw[hN,ZU<|.inl k1]))
section
variable(d:Dy)(p:Nat)
def afR(hd:d.ix)(h0:d.jL=0)(iC:8<=p)(iu:p<=512):il 368 [iB d,bP true,iP p]<|iA<|jj 1:=by
 have hv:=tU (n:=1) aE;exact iE<|af [.c<|pP d aD,ah 14 ((Dy.jL d)==0)<|by rw[h0];rfl,.c<|rL 1,.c<|yh (jm 1) aD]
section
variable(r s c:Bool×Nat)(hd:d.ix)(h0:d.jL≠0)
def afJ(q6:il 373 [iB d,iP ((p+64:Nat):Int)]<|.iH [.agg [bP r.1,iy<|im r.2],iP 0])(q7:il 374 [.agg [bP r.1,iy<|im r.2],iP ((p+64:Nat):Int)]<|.iH [.agg [bP s.1,iy<|im s.2],.agg [bP c.1,iy<|im c.2]])(zs:s.2<2^3000)(zc:c.2<2^3000)(iC:8<=p)(iu:p<=512):il 368 [iB d,bP true,iP p]<|iA<|uK c (p+64) p:=by
 have zk:c.2<2^3000:=zc;exact iE<|af [.c<|pP d aD,ai 14 ((Dy.jL d)==0)<|by simpa using h0,iL<|(p:Int)+64,ag [iB d,iP ((p+64:Nat):Int)] q6,ag [.agg [bP r.1,iy<|im r.2],iP ((p+64:Nat):Int)] q7,iL<|0+1,.a (aC:0<(4:Int)),.o 38<|aq (Int.tmod (0+1) 4) 1 aE,ah 40 ((1:Int)==1) aE,ag [.agg [bP c.1,iy<|im c.2],iP ((p+64:Nat):Int),iP p]<|CE c _ _ aD]
def afK(q6:il 373 [iB d,iP ((p+64:Nat):Int)]<|.iH [.agg [bP r.1,iy<|im r.2],iP 1])(q7:il 374 [.agg [bP r.1,iy<|im r.2],iP ((p+64:Nat):Int)]<|.iH [.agg [bP s.1,iy<|im s.2],.agg [bP c.1,iy<|im c.2]])(zs:s.2<2^3000)(zc:c.2<2^3000)(iC:8<=p)(iu:p<=512):il 368 [iB d,bP true,iP p]<|iA<|uK ((!s.1),s.2) (p+64) p:=by
 have zk:((!s.1),s.2).2<2^3000:=zs;exact iE<|af [.c<|pP d aD,ai 14 ((Dy.jL d)==0)<|by simpa using h0,iL<|(p:Int)+64,ag [iB d,iP ((p+64:Nat):Int)] q6,ag [.agg [bP r.1,iy<|im r.2],iP ((p+64:Nat):Int)] q7,iL<|1+1,.a (aC:0<(4:Int)),.o 38<|aq (Int.tmod (1+1) 4) 2 aE,ai 40 ((2:Int)==1) aE,ah 43 ((2:Int)==2) aE,ag [.agg [bP s.1,iy<|im s.2]]<|yW (s.1,s.2),ag [.agg [bP<|!s.1,iy<|im s.2],iP ((p+64:Nat):Int),iP p]<|CE ((!s.1),s.2) _ _ aD]
def afL(q6:il 373 [iB d,iP ((p+64:Nat):Int)]<|.iH [.agg [bP r.1,iy<|im r.2],iP 2])(q7:il 374 [.agg [bP r.1,iy<|im r.2],iP ((p+64:Nat):Int)]<|.iH [.agg [bP s.1,iy<|im s.2],.agg [bP c.1,iy<|im c.2]])(zs:s.2<2^3000)(zc:c.2<2^3000)(iC:8<=p)(iu:p<=512):il 368 [iB d,bP true,iP p]<|iA<|uK ((!c.1),c.2) (p+64) p:=by
 have zk:((!c.1),c.2).2<2^3000:=zc;exact iE<|af [.c<|pP d aD,ai 14 ((Dy.jL d)==0)<|by simpa using h0,iL<|(p:Int)+64,ag [iB d,iP ((p+64:Nat):Int)] q6,ag [.agg [bP r.1,iy<|im r.2],iP ((p+64:Nat):Int)] q7,iL<|2+1,.a (aC:0<(4:Int)),.o 38<|aq (Int.tmod (2+1) 4) 3 aE,ai 40 ((3:Int)==1) aE,ai 43 ((3:Int)==2) aE,ah 47 ((3:Int)==3) aE,ag [.agg [bP c.1,iy<|im c.2]]<|yW (c.1,c.2),ag [.agg [bP<|!c.1,iy<|im c.2],iP ((p+64:Nat):Int),iP p]<|CE ((!c.1),c.2) _ _ aD]
def afM(q6:il 373 [iB d,iP ((p+64:Nat):Int)]<|.iH [.agg [bP r.1,iy<|im r.2],iP 3])(q7:il 374 [.agg [bP r.1,iy<|im r.2],iP ((p+64:Nat):Int)]<|.iH [.agg [bP s.1,iy<|im s.2],.agg [bP c.1,iy<|im c.2]])(zs:s.2<2^3000)(zc:c.2<2^3000)(iC:8<=p)(iu:p<=512):il 368 [iB d,bP true,iP p]<|iA<|uK s (p+64) p:=by
 have zk:s.2<2^3000:=zs;exact iE<|af [.c<|pP d aD,ai 14 ((Dy.jL d)==0)<|by simpa using h0,iL<|(p:Int)+64,ag [iB d,iP ((p+64:Nat):Int)] q6,ag [.agg [bP r.1,iy<|im r.2],iP ((p+64:Nat):Int)] q7,iL<|3+1,.a (aC:0<(4:Int)),.o 38<|aq (Int.tmod (3+1) 4) 0 aE,ai 40 ((0:Int)==1) aE,ai 43 ((0:Int)==2) aE,ai 47 ((0:Int)==3) aE,ag [.agg [bP s.1,iy<|im s.2],iP ((p+64:Nat):Int),iP p]<|CE s _ _ aD]
end
def afS(hd:d.ix)(h0:d.jL=0)(iC:8<=p)(iu:p<=512):il 368 [iB d,bP false,iP p]<|iA<|jx d:=
 iE (af [.c<|pP d aD,ah 14 ((Dy.jL d)==0)<|by rw[h0];rfl,.c<|yh d aD])
section
variable(r s c:Bool×Nat)(hd:d.ix)(h0:d.jL≠0)
def afN(q6:il 373 [iB d,iP ((p+64:Nat):Int)]<|.iH [.agg [bP r.1,iy<|im r.2],iP 0])(q7:il 374 [.agg [bP r.1,iy<|im r.2],iP ((p+64:Nat):Int)]<|.iH [.agg [bP s.1,iy<|im s.2],.agg [bP c.1,iy<|im c.2]])(zs:s.2<2^3000)(zc:c.2<2^3000)(iC:8<=p)(iu:p<=512):il 368 [iB d,bP false,iP p]<|iA<|uK s (p+64) p:=by
 have zk:s.2<2^3000:=zs;exact iE<|af [.c<|pP d aD,ai 14 ((Dy.jL d)==0)<|by simpa using h0,iL<|(p:Int)+64,ag [iB d,iP ((p+64:Nat):Int)] q6,ag [.agg [bP r.1,iy<|im r.2],iP ((p+64:Nat):Int)] q7,.a (aC:0<(4:Int)),.o 38<|aq (Int.tmod 0 4) 0 aE,ai 40 ((0:Int)==1) aE,ai 43 ((0:Int)==2) aE,ai 47 ((0:Int)==3) aE,ag [.agg [bP s.1,iy<|im s.2],iP ((p+64:Nat):Int),iP p]<|CE s _ _ aD]
def afO(q6:il 373 [iB d,iP ((p+64:Nat):Int)]<|.iH [.agg [bP r.1,iy<|im r.2],iP 1])(q7:il 374 [.agg [bP r.1,iy<|im r.2],iP ((p+64:Nat):Int)]<|.iH [.agg [bP s.1,iy<|im s.2],.agg [bP c.1,iy<|im c.2]])(zs:s.2<2^3000)(zc:c.2<2^3000)(iC:8<=p)(iu:p<=512):il 368 [iB d,bP false,iP p]<|iA<|uK c (p+64) p:=by
 have zk:c.2<2^3000:=zc;exact iE<|af [.c<|pP d aD,ai 14 ((Dy.jL d)==0)<|by simpa using h0,iL<|(p:Int)+64,ag [iB d,iP ((p+64:Nat):Int)] q6,ag [.agg [bP r.1,iy<|im r.2],iP ((p+64:Nat):Int)] q7,.a (aC:0<(4:Int)),.o 38<|aq (Int.tmod 1 4) 1 aE,ah 40 ((1:Int)==1) aE,ag [.agg [bP c.1,iy<|im c.2],iP ((p+64:Nat):Int),iP p]<|CE c _ _ aD]
def afP(q6:il 373 [iB d,iP ((p+64:Nat):Int)]<|.iH [.agg [bP r.1,iy<|im r.2],iP 2])(q7:il 374 [.agg [bP r.1,iy<|im r.2],iP ((p+64:Nat):Int)]<|.iH [.agg [bP s.1,iy<|im s.2],.agg [bP c.1,iy<|im c.2]])(zs:s.2<2^3000)(zc:c.2<2^3000)(iC:8<=p)(iu:p<=512):il 368 [iB d,bP false,iP p]<|iA<|uK ((!s.1),s.2) (p+64) p:=by
 have zk:((!s.1),s.2).2<2^3000:=zs;exact iE<|af [.c<|pP d aD,ai 14 ((Dy.jL d)==0)<|by simpa using h0,iL<|(p:Int)+64,ag [iB d,iP ((p+64:Nat):Int)] q6,ag [.agg [bP r.1,iy<|im r.2],iP ((p+64:Nat):Int)] q7,.a (aC:0<(4:Int)),.o 38<|aq (Int.tmod 2 4) 2 aE,ai 40 ((2:Int)==1) aE,ah 43 ((2:Int)==2) aE,ag [.agg [bP s.1,iy<|im s.2]]<|yW (s.1,s.2),ag [.agg [bP<|!s.1,iy<|im s.2],iP ((p+64:Nat):Int),iP p]<|CE ((!s.1),s.2) _ _ aD]
def afQ(q6:il 373 [iB d,iP ((p+64:Nat):Int)]<|.iH [.agg [bP r.1,iy<|im r.2],iP 3])(q7:il 374 [.agg [bP r.1,iy<|im r.2],iP ((p+64:Nat):Int)]<|.iH [.agg [bP s.1,iy<|im s.2],.agg [bP c.1,iy<|im c.2]])(zs:s.2<2^3000)(zc:c.2<2^3000)(iC:8<=p)(iu:p<=512):il 368 [iB d,bP false,iP p]<|iA<|uK ((!c.1),c.2) (p+64) p:=by
 have zk:((!c.1),c.2).2<2^3000:=zc;exact iE<|af [.c<|pP d aD,ai 14 ((Dy.jL d)==0)<|by simpa using h0,iL<|(p:Int)+64,ag [iB d,iP ((p+64:Nat):Int)] q6,ag [.agg [bP r.1,iy<|im r.2],iP ((p+64:Nat):Int)] q7,.a (aC:0<(4:Int)),.o 38<|aq (Int.tmod 3 4) 3 aE,ai 40 ((3:Int)==1) aE,ai 43 ((3:Int)==2) aE,ah 47 ((3:Int)==3) aE,ag [.agg [bP c.1,iy<|im c.2]]<|yW (c.1,c.2),ag [.agg [bP<|!c.1,iy<|im c.2],iP ((p+64:Nat):Int),iP p]<|CE ((!c.1),c.2) _ _ aD]
end
end
def UX{d:Dy}(hd:d.ix)(ht:d.iJ<=100)(cs:Bool){p:Nat}(iC:8<=p)(iu:p<=512):∃ Z,Z.ix/\il 368 [iB d,bP cs,iP (p:Int)] (iA Z):=by
 by_cases h0:d.jL=0
 .cases cs with
  |true=>exact⟨_,yy aE,afR d p hd h0 iC iu⟩
  |false=>exact⟨_,tz hd,afS d p hd h0 iC iu⟩
 .obtain ⟨r,k,hr,hk,q6⟩:=afT d (p+64) hd aC aC ht;obtain⟨s,c,zs,zc,q7⟩:=af0 r (p+64) hr aC;have zs:=Kh zs (k:=3000) aC;have zc:=Kh zc (k:=3000) aC;have hv:∀ a:Bool×Nat,(uK a (p+64) p).ix:=λa=>anp a _ aC aC 
  rcases(aC:k=0\/k=1\/k=2\/k=3)with rfl|rfl|rfl|rfl
  .cases cs with
   |true=>exact⟨_,hv _,afJ d p r s c hd h0 q6 q7 zs zc iC iu⟩
   |false=>exact⟨_,hv _,afN d p r s c hd h0 q6 q7 zs zc iC iu⟩
  .cases cs with
   |true=>exact⟨_,hv _,afK d p r s c hd h0 q6 q7 zs zc iC iu⟩
   |false=>exact⟨_,hv _,afO d p r s c hd h0 q6 q7 zs zc iC iu⟩
  .cases cs with
   |true=>exact⟨_,hv _,afL d p r s c hd h0 q6 q7 zs zc iC iu⟩
   |false=>exact⟨_,hv _,afP d p r s c hd h0 q6 q7 zs zc iC iu⟩
  .cases cs with
   |true=>exact⟨_,hv _,afM d p r s c hd h0 q6 q7 zs zc iC iu⟩
   |false=>exact⟨_,hv _,afQ d p r s c hd h0 q6 q7 zs zc iC iu⟩
def akI:(jm (-1)).neg=true/\(jm (-1)).m=1/\(jm (-1)).e=0:= aL 
def af3 : il 380 [iP (-1)]<|.agg [bP true,iy<|im 1]:=by
 obtain⟨q1,q2,q3⟩:=akI;have z1:(im (jm (-1)).m).length<=256:=by rw[q2];exact vu aE 
 have z2:(im<|(jm (-1)).m*2^(Int.toNat (jm (-1)).e)).length<=256:=by rw[q2,q3];exact vu aE 
 exact iE<|ae [.c<|rL (-1),.c<|Pd ((jm (-1)).m) ((jm (-1)).e) aD aC aC aD]<|rQ (.agg [bP<|(jm (-1)).neg,iy<|im<|((jm (-1)).m)*2^(Int.toNat<|(jm (-1)).e)]) (.agg [bP true,iy<|im 1])<|by rw[q1,q2,q3];rfl
section
variable(a c:Bool×Nat)(za:(im a.2).length<=256)(zc:(im c.2).length<=256)(c0:c.2≠0)
def afA(zs:(im<|a.2/c.2+1).length<=256)(h1:a.1=false):il 382 [.agg [bP a.1,iy<|im a.2],.agg [bP c.1,iy<|im c.2]]<|.agg [bP<|(qR a c).1,iy<|im<|(qR a c).2]:=by
 have zq:(im<|a.2/c.2).length<=256:=bA (nG<|cv _ _) za;have zr:(im<|a.2%c.2).length<=256:=bA (nG<|e9 _ _) za;have z1:(im 1).length<=256:=vu aE;have e:qR a c=(a.1,a.2/c.2):=by unfold qR;rw[bj<|by rw[h1];exact λq=>Bool.noConfusion q.1]
 exact iE<|ae [.c<|B9 a.2 c.2 aC aC aD,ai 19 a.1 h1,ai 23 a.1 h1]<|rQ (.agg [bP false,iy<|im<|a.2/c.2]) (.agg [bP<|(qR a c).1,iy<|im<|(qR a c).2])<|by rw[e,h1]
def afx(zs:(im<|a.2/c.2+1).length<=256)(h1:a.1=true)(h2:a.2%c.2=0):il 382 [.agg [bP a.1,iy<|im a.2],.agg [bP c.1,iy<|im c.2]]<|.agg [bP<|(qR a c).1,iy<|im<|(qR a c).2]:=by
 have zq:(im<|a.2/c.2).length<=256:=bA (nG<|cv _ _) za;have zr:(im<|a.2%c.2).length<=256:=bA (nG<|e9 _ _) za;have z1:(im 1).length<=256:=vu aE;have e:qR a c=(a.1,a.2/c.2):=by unfold qR;rw[bj λq=>q.2 h2]
 exact iE<|ae [.c<|B9 a.2 c.2 aC aC aD,ah 19 a.1 h1,ah 23 a.1 h1,.c<|uJ<|a.2%c.2,tF 27 (0<(iD<|a.2%c.2:Int))<|by rw[h2,uo];decide]<|rQ (.agg [bP true,iy<|im<|a.2/c.2]) (.agg [bP<|(qR a c).1,iy<|im<|(qR a c).2])<|by rw[e,h1]
section
variable(zs:(im<|a.2/c.2+1).length<=256)
def afy(h1:a.1=true)(h2:a.2%c.2≠0):il 382 [.agg [bP a.1,iy<|im a.2],.agg [bP c.1,iy<|im c.2]]<|.agg [bP<|(qR a c).1,iy<|im<|(qR a c).2]:=by
 have zq:(im<|a.2/c.2).length<=256:=bA (nG<|cv _ _) za;have zr:(im<|a.2%c.2).length<=256:=bA (nG<|e9 _ _) za;have z1:(im 1).length<=256:=vu aE;have e:qR a c=jU (a.1,a.2/c.2) (true,1):=by unfold qR;rw[bk ⟨h1,h2⟩]
 exact iE<|ae [.c<|B9 a.2 c.2 aC aC aD,ah 19 a.1 h1,ah 23 a.1 h1,.c<|uJ<|a.2%c.2,tT 27 (0<(iD<|a.2%c.2:Int))<|by have:=qa h2;omega,ag [iP (-1)] af3,ag [.agg [bP true,iy<|im<|a.2/c.2],.agg [bP true,iy<|im 1]]<|uZ (true,(a.2/c.2)) aD (true,1) aD aD]<|rQ (.agg [bP<|(jU (true,(a.2/c.2)) (true,1)).1,iy<|im<|(jU (true,(a.2/c.2)) (true,1)).2]) (.agg [bP<|(qR a c).1,iy<|im<|(qR a c).2])<|by rw[e,h1]
def afz:il 382 [.agg [bP a.1,iy<|im a.2],.agg [bP c.1,iy<|im c.2]]<|.agg [bP<|(qR a c).1,iy<|im<|(qR a c).2]:=by
 cases h1:a.1 with
 |false=>rw[<-h1];exact afA a c za zc c0 zs h1
 |true=>
  rw[<-h1];by_cases h2:a.2%c.2=0
  .exact afx a c za zc c0 zs h1 h2
  .exact afy a c za zc c0 zs h1 h2
end
end
section
variable(x:Iv)(n p t w2 sg eg mm:Nat)(cp u v c1 a0 a1 k l0 d0 d1:Bool×Nat)(hx:x.ix)
def afF(xa:x.all=false)(hn:n<=3)(iu:p<=2000)(ht:(t:Int)=max (max x.lo.iJ x.hi.iJ) 0)(t2:t<=2000)(zd:(im d1.2).length<=256)(sT:il 377 [iP (((p+t)+40:Nat):Int)]<|.agg [bP cp.1,iy<|im cp.2])(hU:il 383 [iB x.hi,iP (((p+t)+40:Nat):Int)]<|.agg [bP u.1,iy<|im u.2])(hV:il 383 [iB x.lo,iP (((p+t)+40:Nat):Int)]<|.agg [bP v.1,iy<|im v.2])(hW:il 378 [iy<|im cp.2,iP ((1:Nat):Int)]<|iy<|im w2)(F4:il 381 [.agg [bP false,iy<|im n],.agg [bP cp.1,iy<|im cp.2],iP ((0:Nat):Int)]<|.agg [bP c1.1,iy<|im c1.2])(hS:il 379 [iy<|im c1.2,iP ((1:Nat):Int)]<|iy<|im sg)(hE:il 378 [iy<|im 1,iP (((t+24)+4:Nat):Int)]<|iy<|im eg)(wR:il 384 [.agg [bP u.1,iy<|im u.2],.agg [bP<|!false,iy<|im sg]]<|.agg [bP a0.1,iy<|im a0.2])(CS:il 384 [.agg [bP a0.1,iy<|im a0.2],.agg [bP false,iy<|im eg]]<|.agg [bP a1.1,iy<|im a1.2])(hK:il 382 [.agg [bP a1.1,iy<|im a1.2],.agg [bP false,iy<|im w2]]<|.agg [bP k.1,iy<|im k.2])(hM:il 178 [iy<|im k.2,iy<|im w2]<|.iH [iy<|im mm,iP 0])(xP:il 384 [.agg [bP k.1,iy<|im mm],.agg [bP false,iy<|im sg]]<|.agg [bP l0.1,iy<|im l0.2])(An:il 384 [.agg [bP l0.1,iy<|im l0.2],.agg [bP<|!v.1,iy<|im v.2]]<|.agg [bP d0.1,iy<|im d0.2])(F5:il 384 [.agg [bP d0.1,iy<|im d0.2],.agg [bP false,iy<|im eg]]<|.agg [bP d1.1,iy<|im d1.2])(hz:d1.2=0):il 369 [iA x,iP n,iP p]<|bP true:=by
 obtain⟨w1,w2'⟩:=hx.jX;have z1:(im 1).length<=256:=vu aE;exact iE (af [.c<|oY x.lo aD,.c<|oY x.hi aD,.o 24<|aq (if 0>(if(Dy.iJ x.hi)>(Dy.iJ x.lo)then(Dy.iJ x.hi)else(Dy.iJ x.lo))then 0 else(if(Dy.iJ x.hi)>(Dy.iJ x.lo)then(Dy.iJ x.hi)else(Dy.iJ x.lo))) t (by(repeat' split)<;>omega),
  iL ((p:Int)+t),iL<|((p+t:Nat):Int)+40,ag [iP (((p+t)+40:Nat):Int)] sT,ag [iy<|im cp.2,iP 1] hW,.c<|Pf n aC,ag [.agg [bP false,iy<|im n],.agg [bP cp.1,iy<|im cp.2],iP 0] F4,ag [iy<|im c1.2,iP 1] hS,.o 42 (.e A0:aj (.sl false 1 1 λi_ j_=>[.v<|.int .u32 1].getD (i_*1+j_)<|.v<|.bool false)<|iy<|im 1),iL<|(t:Int)+24,iL<|((t+24:Nat):Int)+4,ag [iy<|im 1,iP (((t+24)+4:Nat):Int)] hE,ag [iB x.hi,iP (((p+t)+40:Nat):Int)] hU,ag [.agg [bP false,iy<|im sg]]<|yW (false,sg),ag [.agg [bP u.1,iy<|im u.2],.agg [bP<|!false,iy<|im sg]] wR,ag [.agg [bP a0.1,iy<|im a0.2],.agg [bP false,iy<|im eg]] CS,ag [.agg [bP a1.1,iy<|im a1.2],.agg [bP false,iy<|im w2]] hK,ag [iy<|im k.2,iy<|im w2] hM,ag [.agg [bP k.1,iy<|im mm],.agg [bP false,iy<|im sg]] xP,ag [iB x.lo,iP (((p+t)+40:Nat):Int)] hV,ag [.agg [bP v.1,iy<|im v.2]]<|yW (v.1,v.2),ag [.agg [bP l0.1,iy<|im l0.2],.agg [bP<|!v.1,iy<|im v.2]] An,ag [.agg [bP d0.1,iy<|im d0.2],.agg [bP false,iy<|im eg]] F5,ag [.agg [bP d1.1,iy<|im d1.2]]<|F2 (d1.1,d1.2) aD,tB 83<|bu hz])
def afE(xa:x.all=false)(hn:n<=3)(iu:p<=2000)(ht:(t:Int)=max (max x.lo.iJ x.hi.iJ) 0)(t2:t<=2000)(zd:(im d1.2).length<=256)(sT:il 377 [iP (((p+t)+40:Nat):Int)]<|.agg [bP cp.1,iy<|im cp.2])(hU:il 383 [iB x.hi,iP (((p+t)+40:Nat):Int)]<|.agg [bP u.1,iy<|im u.2])(hV:il 383 [iB x.lo,iP (((p+t)+40:Nat):Int)]<|.agg [bP v.1,iy<|im v.2])(hW:il 378 [iy<|im cp.2,iP ((1:Nat):Int)]<|iy<|im w2)(F4:il 381 [.agg [bP false,iy<|im n],.agg [bP cp.1,iy<|im cp.2],iP ((0:Nat):Int)]<|.agg [bP c1.1,iy<|im c1.2])(hS:il 379 [iy<|im c1.2,iP ((1:Nat):Int)]<|iy<|im sg)(hE:il 378 [iy<|im 1,iP (((t+24)+4:Nat):Int)]<|iy<|im eg)(wR:il 384 [.agg [bP u.1,iy<|im u.2],.agg [bP<|!false,iy<|im sg]]<|.agg [bP a0.1,iy<|im a0.2])(CS:il 384 [.agg [bP a0.1,iy<|im a0.2],.agg [bP false,iy<|im eg]]<|.agg [bP a1.1,iy<|im a1.2])(hK:il 382 [.agg [bP a1.1,iy<|im a1.2],.agg [bP false,iy<|im w2]]<|.agg [bP k.1,iy<|im k.2])(hM:il 178 [iy<|im k.2,iy<|im w2]<|.iH [iy<|im mm,iP 0])(xP:il 384 [.agg [bP k.1,iy<|im mm],.agg [bP false,iy<|im sg]]<|.agg [bP l0.1,iy<|im l0.2])(An:il 384 [.agg [bP l0.1,iy<|im l0.2],.agg [bP<|!v.1,iy<|im v.2]]<|.agg [bP d0.1,iy<|im d0.2])(F5:il 384 [.agg [bP d0.1,iy<|im d0.2],.agg [bP false,iy<|im eg]]<|.agg [bP d1.1,iy<|im d1.2])(hz:¬d1.2=0):il 369 [iA x,iP n,iP p]<|bP<|!d1.1:=by
 obtain⟨w1,w2'⟩:=hx.jX;have z1:(im 1).length<=256:=vu aE;exact iE (af [.c<|oY x.lo aD,.c<|oY x.hi aD,.o 24<|aq (if 0>(if(Dy.iJ x.hi)>(Dy.iJ x.lo)then(Dy.iJ x.hi)else(Dy.iJ x.lo))then 0 else(if(Dy.iJ x.hi)>(Dy.iJ x.lo)then(Dy.iJ x.hi)else(Dy.iJ x.lo))) t (by(repeat' split)<;>omega),
  iL ((p:Int)+t),iL<|((p+t:Nat):Int)+40,ag [iP (((p+t)+40:Nat):Int)] sT,ag [iy<|im cp.2,iP 1] hW,.c<|Pf n aC,ag [.agg [bP false,iy<|im n],.agg [bP cp.1,iy<|im cp.2],iP 0] F4,ag [iy<|im c1.2,iP 1] hS,.o 42 (.e A0:aj (.sl false 1 1 λi_ j_=>[.v<|.int .u32 1].getD (i_*1+j_)<|.v<|.bool false)<|iy<|im 1),iL<|(t:Int)+24,iL<|((t+24:Nat):Int)+4,ag [iy<|im 1,iP (((t+24)+4:Nat):Int)] hE,ag [iB x.hi,iP (((p+t)+40:Nat):Int)] hU,ag [.agg [bP false,iy<|im sg]]<|yW (false,sg),ag [.agg [bP u.1,iy<|im u.2],.agg [bP<|!false,iy<|im sg]] wR,ag [.agg [bP a0.1,iy<|im a0.2],.agg [bP false,iy<|im eg]] CS,ag [.agg [bP a1.1,iy<|im a1.2],.agg [bP false,iy<|im w2]] hK,ag [iy<|im k.2,iy<|im w2] hM,ag [.agg [bP k.1,iy<|im mm],.agg [bP false,iy<|im sg]] xP,ag [iB x.lo,iP (((p+t)+40:Nat):Int)] hV,ag [.agg [bP v.1,iy<|im v.2]]<|yW (v.1,v.2),ag [.agg [bP l0.1,iy<|im l0.2],.agg [bP<|!v.1,iy<|im v.2]] An,ag [.agg [bP d0.1,iy<|im d0.2],.agg [bP false,iy<|im eg]] F5,ag [.agg [bP d1.1,iy<|im d1.2]]<|F2 (d1.1,d1.2) aD,tB 83<|bn hz])
end
def IQ{a b:Bool×Nat}{i j n:Nat}(ha:a.2<2^i)(hb:b.2<2^j)(hi:i<=n)(hj:j<=n)(hn:n<=8000):∃ r:Bool×Nat,r.2<2^(n+1)/\il 384 [.agg [bP a.1,iy<|im a.2],.agg [bP b.1,iy<|im b.2]] (.agg [bP r.1,iy<|im r.2]):=
 ⟨jU a b,aiJ ha hb hi hj,uZ a (mo ha aC) b (mo hb aC)<|mo (Nk ha hb hi hj) aC⟩
def afD{x:Iv}(hx:x.ix)(xa:x.all=false)(n:Nat)(hn:n<=3)(p:Nat)(iu:p<=1000)(h1:x.lo.iJ<=100)(h2:x.hi.iJ<=100):∃ r:Bool,il 369 [iA x,iP (n:Int),iP (p:Int)] (bP r):=by
 obtain⟨w1,w2⟩:=hx.jX;obtain⟨t,ht⟩:∃ t:Nat,(t:Int)=max (max x.lo.iJ x.hi.iJ) 0:=⟨(max (max x.lo.iJ x.hi.iJ) 0).toNat,aC⟩
 obtain⟨cp,c1,c2,c3,sT⟩:=UW (p+t+40) aC aC;have hU:=Pe x.hi w2 (p+t+40) 6000 aC aE aC;have hV:=Pe x.lo w1 (p+t+40) 6000 aC aE aC;have yu:=Nb (d:=x.hi) (b:=p+t+40) (K:=6000) aC;have yv:=Nb (d:=x.lo) (b:=p+t+40) (K:=6000) aC;have yc:=Kh (m:=cp.2) (i:=p+t+40+3) (k:=2000) (by have e:(2:Nat)^(p+t+40+3)=2^(p+t+40)*8:=bE 2 _ 3;have:0<2^(p+t+40):=bF aE;omega) aC;generalize sL x.hi (p+t+40)=u at hU yu;generalize sL x.lo (p+t+40)=v at hV yv;obtain⟨K,hK⟩:∃ K,K=6000:=⟨_,rfl⟩
 rw[<-hK]at yu yv;obtain⟨J,hJ⟩:∃ J,J=2000:=⟨_,rfl⟩
 rw[<-hJ]at yc;have zc:(im cp.2).length<=256:=mo yc aC;have yw:cp.2*2^1<2^(J+1):=by have e:2^(J+1)=2^J*2:=bM _ _;omega
 have hW:=CD cp.2 1 zc aE<|mo yw aC;have w0:cp.2*2^1≠0:= aC ;generalize cp.2*2^1=w at hW yw w0;have yn:n*cp.2<2^(J+2):=by have e:2^(J+2)=2^J*4:=bE 2 J 2;have:=bU cp.2 hn;omega
 have F4:=P4 (false,n) (vu<|by show n<_;omega) cp zc 0 aE<|mo yn aC;have y1:n*cp.2/2^0<2^(J+2):=cO (cv _ _) yn;obtain⟨q,hq⟩:∃ q:Bool×Nat,q=(false != cp.1,n*cp.2/2^0):=⟨_,rfl⟩
 have yq:q.2<2^(J+2):=by rw[hq];exact y1
 have Xb:il 381 [.agg [bP false,iy<|im n],.agg [bP cp.1,iy<|im cp.2],iP ((0:Nat):Int)]<|.agg [bP q.1,iy<|im q.2]:=by rw[hq];exact F4
 clear F4 hq;have hS:=yO q.2 1 (mo yq aC) aE;have ys:q.2/2^1<2^(J+2):=cO (cv _ _) yq;generalize q.2/2^1=sg at hS ys;have ye:1*2^(t+24+4)<2^K:=by rw[bX];exact ik aE aC 
 have hE:=CD 1 (t+24+4) (vu aE) aC<|mo ye aC;generalize 1*2^(t+24+4)=eg at hE ye;obtain⟨a0,x0,wR⟩:=IQ (b:=(!false,sg)) yu ys (n:=K) aC aC aC;obtain⟨a1,x1,CS⟩:=IQ (b:=(false,eg)) x0 ye (n:=K+1) aC aC aC;have yf:a1.2/w+1<2^(K+3):=by
  have e:2^(K+3)=2^(K+1+1)*2:=bM _ _;have:=cv a1.2 w;have:0<2^(K+1+1):=bF aE;omega
 have hF:=afz a1 (false,w) (mo x1 aC) (mo yw aC) w0<|mo yf aC;have yk:=cO (WI a1 (false,w)) yf;have ym:(qR a1 (false,w)).2*w<2^(K+3):=cO (aiN a1 (false,w))<|Nk (n:=K+2) x1 yw aC aC;generalize qR a1 (false,w)=k at hF yk ym;have hM:=Ca k.2 w (mo yk aC) (mo yw aC)<|mo ym aC;generalize k.2*w=mm at hM ym;obtain⟨l0,x2,xP⟩:=IQ (a:=(k.1,mm)) (b:=(false,sg)) ym ys (n:=K+3) aC aC aC;obtain⟨d0,x3,An⟩:=IQ (b:=(!v.1,v.2)) x2 yv (n:=K+4) aC aC aC;obtain⟨d1,x4,F5⟩:=IQ (b:=(false,eg)) x3 ye (n:=K+5) aC aC aC;by_cases hz:d1.2=0
 .exact ⟨_,afF x n p t w sg eg mm cp u v q a0 a1 k l0 d0 d1 hx xa hn aC ht aC (mo x4 aC) sT hU hV hW Xb hS hE wR CS hF hM xP An F5 hz⟩
 .exact ⟨_,afE x n p t w sg eg mm cp u v q a0 a1 k l0 d0 d1 hx xa hn aC ht aC (mo x4 aC) sT hU hV hW Xb hS hE wR CS hF hM xP An F5 hz⟩
def mc:Iv:=⟨jm (-1),jm 1,false⟩
def Cq:mc.ix:=.inr ⟨rfl,show(jm (-1)).ix from tU aE,show(jm 1).ix from tU aE,aL⟩
def Bn : il 367 []<|iA mc:=by
 have h1:(jm (-1)).ix:=tU aE;have h2:(jm 1).ix:=tU aE;exact iE<|ae [.c<|rL (-1),.c<|rL 1]<|rR (iA mc) (.jq rfl:E.le (iA<|Iv.mk (jm (-1)) (jm 1) false)<|iA mc)
def aew(x y:Iv)(hx:x.ix)(hy:y.ix)(xa:(x.all||y.all)=true):il 190 [iA x,iA y]<|iA iw:=
 iE (af [.o 7<|.e<|AH x y,.c<|BX x y aD aD,ai 8 (!(x.all||y.all))<|by rw[xa];rfl,.c oC])
def aex{x y:Iv}(hx:x.ix)(hy:y.ix):∃ Z,Z.ix/\il 190 [iA x,iA y] (iA Z):=by
 cases h:(x.all||y.all)with
 |true=>exact⟨iw,ln,aew x y hx hy h⟩
 |false=>
  obtain⟨h1,h2⟩:=eo.1 h;exact⟨Gr x y,akw hx hy,aey x y hx hy h1 h2⟩
def aeF(x:Iv)(hx:x.ix)(xa:x.all=true):il 24 [iA x,iA mc]<|.iH [iA mc,bP true]:=by
 have hu:=Cq;exact iE<|af [.c<|qG x aD,.c<|qG mc aD,ah 19 x.all xa]
section
variable(x:Iv)(hx:x.ix)(xa:x.all=false)
def aeH(h:0<jN (jy x.lo mc.lo) (jA x.hi mc.hi)):il 24 [iA x,iA mc]<|.iH [iA Bd,bP false]:=by
 have hu:=Cq;obtain⟨v1,v2⟩:=hx.jX;obtain⟨v3,v4⟩:=hu.jX;have m1:=uI v1 v3;have m2:=xo v2 v4;exact iE<|ae [.c<|qG x aD,.c<|qG mc aD,ai 19 x.all xa,ai 23 mc.all rfl,.c<|Jz x.lo mc.lo aD aD,.c<|Jy x.hi mc.hi aD aD,.c<|nE (jy x.lo mc.lo) (jA x.hi mc.hi) aD aD,tB 41<|bu h]<|rR (.iH [iA Bd,bP false]) (.iH<|.cons adN<|.cons (.refl _) .nil:E.le (.iH [.agg au,bP false])<|.iH [iA Bd,bP false])
def aeI(h:¬0<jN (jy x.lo mc.lo) (jA x.hi mc.hi)):il 24 [iA x,iA mc]<|.iH [iA<|Iv.mk (jy x.lo mc.lo) (jA x.hi mc.hi) false,bP true]:=by
 have hu:=Cq;obtain⟨v1,v2⟩:=hx.jX;obtain⟨v3,v4⟩:=hu.jX;have m1:=uI v1 v3;have m2:=xo v2 v4;exact iE<|af [.c<|qG x aD,.c<|qG mc aD,ai 19 x.all xa,ai 23 mc.all rfl,.c<|Jz x.lo mc.lo aD aD,.c<|Jy x.hi mc.hi aD aD,.c<|nE (jy x.lo mc.lo) (jA x.hi mc.hi) aD aD,tB 41<|bn h]
end
structure Be(Y:Iv):Prop where
 v:Y.ix
 f:Y.all=false
 l:jN mc.lo Y.lo<=0
 h:jN Y.hi mc.hi<=0
def asf:Be mc:=⟨Cq,rfl,aL,aL⟩
def aeG{x:Iv}(hx:x.ix):(∃ Y,Be Y/\il 24 [iA x,iA mc] (.iH [iA Y,bP true]))\/il 24 [iA x,iA mc] (.iH [iA Bd,bP false]):=by
 cases xa:x.all with
 |true=>exact .inl ⟨mc,asf,aeF x hx xa⟩
 |false=>
  by_cases h:0<jN (jy x.lo mc.lo) (jA x.hi mc.hi)
  .exact .inr<|aeH x hx xa h
  .have v1:(jy x.lo mc.lo).ix:=uI hx.jX.1 Cq.jX.1;have v2:(jA x.hi mc.hi).ix:=xo hx.jX.2 Cq.jX.2;have h1:jN mc.lo (jy x.lo mc.lo)<=0:=Z3 _ _;have h2:jN (jA x.hi mc.hi) mc.hi<=0:=Z8 _ _;have hq:=aeI x hx xa h;have h3:jN (jy x.lo mc.lo) (jA x.hi mc.hi)<=0:= aC ;generalize jy x.lo mc.lo=a at *
   generalize jA x.hi mc.hi=b at *
   exact .inl ⟨⟨a,b,false⟩,⟨.inr ⟨rfl,v1,v2,h3⟩,rfl,h1,h2⟩,hq⟩
def Be.up{Y:Iv}(h:Be Y):Be ⟨Y.lo,jm 1,false⟩:=by
 have e:=h.v.jX;refine⟨.inr ⟨rfl,e.1,tU (n:=1) aE,?_⟩,rfl,h.l,show jN (jm 1) (jm 1)<=0 by decide +kernel⟩;have:=h.v.q;rw[r6];exact bZ this<|(r6 _ _).1 h.h
def Be.dn{Y:Iv}(h:Be Y):Be ⟨jm (-1),Y.hi,false⟩:=by
 have e:=h.v.jX;refine⟨.inr ⟨rfl,tU (n:=-1) aE,e.2,?_⟩,rfl,show jN (jm (-1)) (jm (-1))<=0 by decide +kernel,h.h⟩;have:=h.v.q;rw[r6];exact bZ ((r6 _ _).1 h.l) this
def Lp(p:Nat)(iC:8<=p:=by omega)(iu:p<=512:=by omega):il 366 [iP p]<|bP true:=
 iE (af [tT 4 (8<=(p:Int)) aC,tT 7 ((p:Int)<=512) aC])
section
variable(x:Iv)(cs:Bool)(p:Nat)(hx:x.ix)
def afr(xa:x.all=true)(iC:8<=p)(iu:p<=512):il 352 [iA x,bP cs,iP p]<|iA iw:=
 iE (af [ag [iP p]<|Lp _,.c<|qG x aD,ah 22 x.all xa,.c oC])
section
variable(xa:x.all=false)(iC:8<=p)(iu:p<=512)
def afu(hu:100<x.lo.iJ\/100<x.hi.iJ\/¬DO x 64=0\/0<=jN (wA x 64) (jm 7)):il 352 [iA x,bP cs,iP p]<|iA mc:=by
 obtain⟨w1,w2⟩:=hx.jX;have h7:(jm 7).ix:=tU aE;have wv:(wA x 64).ix:=rF _ aE aE _;exact iE (ae [ag [iP p]<|Lp _,.c<|qG x aD,ai 22 x.all xa,.c<|oY x.lo aD]<|.w (100<(Dy.iJ x.lo))
  (λk1=>af [tB 28<|bu k1,ag [] Bn])
  (λk1=>ae [tB 28<|bn k1,.c<|oY x.hi aD]<|.w (100<(Dy.iJ x.hi))
   (λk2=>af [tB 33<|bu k2,ag [] Bn])
   (λk2=>ae [tB 33<|bn k2,.c<|O5 x 64 aD aD aC aC]<|.w (DO x 64=0)
    (λk3=>ae [tB 40<|bu k3,.c<|rL 7,.c<|nE (wA x 64) (jm 7) aD aD]<|.w (0<=(jN (wA x 64)<|jm 7))
     (λk4=>af [tB 47<|bu k4,ag [] Bn])
     (λk4=>.x<|by rcases hu with q|q|q|q<;>contradiction))
    (λk3=>af [tB 40<|bn k3,ag [] Bn]))))
def aft(h1:¬100<x.lo.iJ)(h2:¬100<x.hi.iJ)(h3:DO x 64=0)(h4:¬0<=jN (wA x 64) (jm 7))(P1 P2 H:Iv)(Ap:∀ c,c=cs->il 368 [iB x.lo,bP c,iP (p:Int)] (iA P1))(Aq:∀ c,c=cs->il 368 [iB x.hi,bP c,iP (p:Int)] (iA P2))(hH:il 190 [iA P1,iA P2]<|iA H)(xQ:il 24 [iA H,iA mc]<|.iH [iA Bd,bP false]):il 352 [iA x,bP cs,iP p]<|iA mc:=by
 obtain⟨w1,w2⟩:=hx.jX;have h7:(jm 7).ix:=tU aE;have wv:(wA x 64).ix:=rF _ aE aE _;exact iE<|af [ag [iP p]<|Lp _,.c<|qG x aD,ai 22 x.all xa,.c<|oY x.lo aD,tB 28<|bn h1,.c<|oY x.hi aD,tB 33<|bn h2,.c<|O5 x 64 aD aD aC aC,tB 40<|bu h3,.c<|rL 7,.c<|nE (wA x 64) (jm 7) aD aD,tB 47<|bn h4,ag [iB x.lo,bP cs,iP p]<|Ap cs aH,ag [iB x.hi,bP cs,iP p]<|Aq cs aH,ag [iA P1,iA P2] hH,ag [] Bn,ag [iA H,iA mc] xQ,ag [] Bn]
end
end
def sf(cs:Bool)(R:Nat->Bool)(x Y:Iv):Iv:=if jN x.lo x.hi=0 then Y else⟨if R (if cs=true then 2 else 3)=true then jm (-1)else Y.lo,if R (if cs=true then 0 else 1)=true then jm 1 else Y.hi,Y.all⟩
def afs(x:Iv)(cs:Bool)(p:Nat)(hx:x.ix)(xa:x.all=false)(iC:8<=p)(iu:p<=512)(h1:¬100<x.lo.iJ)(h2:¬100<x.hi.iJ)(h3:DO x 64=0)(h4:¬0<=jN (wA x 64) (jm 7))(P1 P2 H Y:Iv)(hY:Be Y)(Ap:∀ c,c=cs->il 368 [iB x.lo,bP c,iP (p:Int)] (iA P1))(Aq:∀ c,c=cs->il 368 [iB x.hi,bP c,iP (p:Int)] (iA P2))(hH:il 190 [iA P1,iA P2]<|iA H)(xQ:il 24 [iA H,iA mc]<|.iH [iA Y,bP true])(R:Nat->Bool)(hM:∀ s:Nat,s<=3->il 369 [iA x,iP (s:Int),iP ((p+64:Nat):Int)] (bP<|R s)):il 352 [iA x,bP cs,iP p]<|iA<|sf cs R x Y:=by
 obtain⟨w1,w2⟩:=hx.jX;have h7:(jm 7).ix:=tU aE;have wv:(wA x 64).ix:=rF _ aE aE _;exact iE (ae [ag [iP p]<|Lp _,.c<|qG x aD,ai 22 x.all xa,.c<|oY x.lo aD,tB 28<|bn h1,.c<|oY x.hi aD,tB 33<|bn h2,.c<|O5 x 64 aD aD aC aC,tB 40<|bu h3,.c<|rL 7,.c<|nE (wA x 64) (jm 7) aD aD,tB 47<|bn h4]<|.w ((jN x.lo x.hi)=0)
  (λk1=>ae [ag [iB x.lo,bP cs,iP p]<|Ap cs aH,ag [iB x.hi,bP cs,iP p]<|Aq cs aH,ag [iA P1,iA P2] hH,ag [] Bn,ag [iA H,iA mc] xQ,.c<|nE x.lo x.hi aD aD,tB 74<|aZ k1]<|rQ (iA Y) (iA<|sf cs R x Y)<|by unfold sf;simp[k1])
  (λk1=>.w (cs=true)
   (λk2=>ae [tB 53 k2,ag [iB x.lo,bP true,iP p]<|Ap true<|by simp[k2],tB 58 k2,ag [iB x.hi,bP true,iP p]<|Aq true<|by simp[k2],ag [iA P1,iA P2] hH,ag [] Bn,ag [iA H,iA mc] xQ,.c<|nE x.lo x.hi aD aD,tB 74<|aY k1,tB 76 k2,
    iL ((p:Int)+64),ag [iA x,iP 0,iP ((p+64:Nat):Int)]<|hM 0 aE]<|.w (R 0=true)
    (λk3=>ae [tB 81 k3,.c<|rL 1,iL<|(p:Int)+64,ag [iA x,iP 2,iP ((p+64:Nat):Int)]<|hM 2 aE]<|.w (R 2=true)
     (λk4=>ae [tB 88 k4,.c<|rL (-1)]<|rQ (iA<|Iv.mk (jm (-1)) (jm 1) Y.all) (iA<|sf cs R x Y)<|by unfold sf;simp[k1,k2,k3,k4])
     (λk4=>ae [tB 88<|bc k4]<|rQ (iA<|Iv.mk Y.lo (jm 1) Y.all) (iA<|sf cs R x Y)<|by unfold sf;simp[k1,k2,k3,k4]))
    (λk3=>ae [tB 81<|bc k3,iL<|(p:Int)+64,ag [iA x,iP 2,iP ((p+64:Nat):Int)]<|hM 2 aE]<|.w (R 2=true)
     (λk4=>ae [tB 88 k4,.c<|rL (-1)]<|rQ (iA<|Iv.mk (jm (-1)) Y.hi Y.all) (iA<|sf cs R x Y)<|by unfold sf;simp[k1,k2,k3,k4])
     (λk4=>ae [tB 88<|bc k4]<|rQ (iA Y) (iA<|sf cs R x Y)<|by unfold sf;simp[k1,k2,k3,k4])))
   (λk2=>ae [tB 53<|bc k2,ag [iB x.lo,bP false,iP p]<|Ap false<|by simp[k2],tB 58<|bc k2,ag [iB x.hi,bP false,iP p]<|Aq false<|by simp[k2],ag [iA P1,iA P2] hH,ag [] Bn,ag [iA H,iA mc] xQ,.c<|nE x.lo x.hi aD aD,tB 74<|aY k1,tB 76<|bc k2,iL<|(p:Int)+64,ag [iA x,iP 1,iP ((p+64:Nat):Int)]<|hM 1 aE]<|.w (R 1=true)
    (λk3=>ae [tB 81 k3,.c<|rL 1,iL<|(p:Int)+64,ag [iA x,iP 3,iP ((p+64:Nat):Int)]<|hM 3 aE]<|.w (R 3=true)
     (λk4=>ae [tB 88 k4,.c<|rL (-1)]<|rQ (iA<|Iv.mk (jm (-1)) (jm 1) Y.all) (iA<|sf cs R x Y)<|by unfold sf;simp[k1,k2,k3,k4])
     (λk4=>ae [tB 88<|bc k4]<|rQ (iA<|Iv.mk Y.lo (jm 1) Y.all) (iA<|sf cs R x Y)<|by unfold sf;simp[k1,k2,k3,k4]))
    (λk3=>ae [tB 81<|bc k3,iL<|(p:Int)+64,ag [iA x,iP 3,iP ((p+64:Nat):Int)]<|hM 3 aE]<|.w (R 3=true)
     (λk4=>ae [tB 88 k4,.c<|rL (-1)]<|rQ (iA<|Iv.mk (jm (-1)) Y.hi Y.all) (iA<|sf cs R x Y)<|by unfold sf;simp[k1,k2,k3,k4])
     (λk4=>ae [tB 88<|bc k4]<|rQ (iA Y) (iA<|sf cs R x Y)<|by unfold sf;simp[k1,k2,k3,k4])))))
def UT{x:Iv}(hx:x.ix)(cs:Bool){p:Nat}(iC:8<=p)(iu:p<=512):∃ Z,Z.ix/\il 352 [iA x,bP cs,iP (p:Int)] (iA Z):=by
 cases xa:x.all with
 |true=>exact⟨_,ln,afr x cs p hx xa iC iu⟩
 |false=>
  by_cases hu:100<x.lo.iJ\/100<x.hi.iJ\/¬DO x 64=0\/0<=jN (wA x 64) (jm 7)
  .exact ⟨_,Cq,afu x cs p hx xa iC iu hu⟩
  have h1:¬100<x.lo.iJ:=λq=>hu<|.inl q
  have h2:¬100<x.hi.iJ:=λq=>hu<|.inr<|.inl q
  have h3:DO x 64=0:=ca λq=>hu<|.inr<|.inr<|.inl q
  have h4:¬0<=jN (wA x 64) (jm 7):=λq=>hu<|.inr<|.inr<|.inr q
  obtain⟨w1,w2⟩:=hx.jX;obtain⟨P1,g1,Ap⟩:=UX w1 aC cs iC iu;obtain⟨P2,g2,Aq⟩:=UX w2 aC cs iC iu;replace Ap:∀ c,c=cs->il 368 [iB x.lo,bP c,iP (p:Int)] (iA P1):=λc h=>h▸Ap
  replace Aq:∀ c,c=cs->il 368 [iB x.hi,bP c,iP (p:Int)] (iA P2):=λc h=>h▸Aq
  obtain⟨H,g3,hH⟩:=aex g1 g2;rcases aeG g3 with⟨Y,hY,xQ⟩|xQ
  rotate_left
  .exact ⟨_,Cq,aft x cs p hx xa iC iu h1 h2 h3 h4 P1 P2 H Ap Aq hH xQ⟩
  have ya:=hY.f;have v0:=hY.v;have v1:(Iv.mk (jm (-1)) (jm 1) Y.all).ix:=by rw[ya];exact Cq
  have v2:(Iv.mk Y.lo (jm 1) Y.all).ix:=by rw[ya];exact hY.up.v
  have v3:(Iv.mk (jm (-1)) Y.hi Y.all).ix:=by rw[ya];exact hY.dn.v
  have v4:(Iv.mk Y.lo Y.hi Y.all).ix:=hY.v;have hm:∀ s:Nat,∃ r,s<=3->il 369 [iA x,iP (s:Int),iP ((p+64:Nat):Int)] (bP r):=λs=>by
   by_cases hs:s<=3
   .obtain ⟨r,m⟩:=afD hx xa s aC (p+64) aC aC aC ;exact⟨r,λ_=>m⟩
   .exact ⟨true,λh=>absurd h hs⟩
  refine⟨sf cs (λs=>Classical.choose<|hm s) x Y,?_,afs x cs p hx xa iC iu h1 h2 h3 h4 P1 P2 H Y hY Ap Aq hH xQ (λs=>Classical.choose<|hm s) λs hs=>dk (hm s) hs⟩;generalize (λs=>Classical.choose<|hm s)=R;unfold sf;by_cases q1:jN x.lo x.hi=0
  .rw [bk q1];exact v0
  rw[bj q1];by_cases q2:R (if cs=true then 2 else 3)=true<;>by_cases q3:R (if cs=true then 0 else 1)=true<;>simp only[q2,q3,bH,bB,bJ]<;>assumption
def af2(x Z:Iv)(p:Nat)(hZ:il 352 [iA x,bP false,iP (p:Int)]<|iA Z):il 319 [iA x,iP p]<|iA Z:=
 iE (af [ag [iA x,bP false,iP p] hZ])
def af1{x:Iv}(hx:x.ix){p:Nat}(iC:8<=p)(iu:p<=512):∃ Z,Z.ix/\il 319 [iA x,iP (p:Int)] (iA Z):=by
 obtain⟨Z,h1,h2⟩:=UT hx false iC iu;exact⟨Z,h1,af2 x Z p h2⟩
def afw(x Z:Iv)(p:Nat)(hZ:il 352 [iA x,bP true,iP (p:Int)]<|iA Z):il 320 [iA x,iP p]<|iA Z:=
 iE (af [ag [iA x,bP true,iP p] hZ])
def afv{x:Iv}(hx:x.ix){p:Nat}(iC:8<=p)(iu:p<=512):∃ Z,Z.ix/\il 320 [iA x,iP (p:Int)] (iA Z):=by
 obtain⟨Z,h1,h2⟩:=UT hx true iC iu;exact⟨Z,h1,afw x Z p h2⟩
def aiR:yH:=λ_ _ hx iC iu=>⟨asH hx iC iu,asO hx iC iu,af1 hx iC iu,afv hx iC iu,ak7 hx iC iu⟩
structure pZ where
 kind:Int
 a:Int
 b:Int
 n:Int
 cn:Int
 cd:Int
structure mR where
 iI:Int
 iq:List pZ
 iz:List Int
 jg:Int
 params:List RI
def pe:pZ:=⟨0,0,0,0,0,0⟩
def Ch(o:pZ):List E:=[iP o.kind,iP o.a,iP o.b,iP o.n,iP o.cn,iP o.cd]
def Hc(o:pZ):E:=.agg<|Ch o
def pz(l:List pZ):E:=.sl true l.length 6 λi j=>(Ch<|l.getD i pe).getD j .any
def pU(l:List Int):E:=.sl true l.length 1 λi _=>iP<|l.getD i 0
def S3(s:mR):List E:=[iP s.iI,pz s.iq,pU s.iz,iP s.jg,lj s.params]
def pW(s:mR):E:=.agg<|S3 s
structure pZ.lp(o:pZ):Prop where
 kind:kC .i64 o.kind
 a:kC .i64 o.a
 b:kC .i64 o.b
 n:kC .i64 o.n
 cn:kC .i64 o.cn
 cd:kC .i64 o.cd
structure mR.lp(s:mR):Prop where
 iI:kC .i64 s.iI
 iq:∀ i,(s.iq.getD i pe).lp
 iz:∀ i,kC .i64<|s.iz.getD i 0
 jg:kC .i64 s.jg
 params:∀ i,(s.params.getD i lE).lp
structure mR.wE(s:mR):Prop where
 iq:s.iq.length<=1000
 params:s.params.length<=1000
def nI(o:pZ)(m:Int):Bool:=
 if o.kind=1 then qu o.cn o.cd&&decide (o.a=0/\o.b=0/\o.n=0)
 else if 3<=o.kind/\o.kind<=6 then decide (o.cn=0/\o.cd=0/\0<=o.a/\o.a<m/\0<=o.b/\o.b<m/\o.n=0)
 else if o.kind=8 then decide (o.cn=0/\o.cd=0/\0<=o.a/\o.a<m/\o.b=0/\0<=o.n/\o.n<=16)
 else if o.kind=7\/9<=o.kind/\o.kind<=13 then decide (o.cn=0/\o.cd=0/\0<=o.a/\o.a<m/\o.b=0/\o.n=0)
 else false
def abT(s:mR):Bool:=(List.range s.iq.length).all λi=>nI (s.iq.getD i pe)<|s.iI+(i:Int)
def Fb(s:mR)(k:Int):Bool:=decide (0<=k/\k<s.iI+(s.iq.length:Int))
def Ci(s:mR):Bool:=(List.range s.iz.length).all λi=>Fb s<|s.iz.getD i 0
noncomputable def qX(x:RI):Bool:=tw x && !x.all
noncomputable def Kv(s:mR):Bool:=(List.range s.params.length).all λi=>qX<|s.params.getD i lE
noncomputable def r8(s:mR):Bool:=decide (0<=s.iI/\s.iI<=8/\s.iq.length<=200/\s.iz.length<=200)&&abT s&&Ci s
 && decide (1<=s.jg/\s.jg<=4/\(s.iz.length:Int)=s.jg/\s.iI=s.jg+(s.params.length:Int)/\s.params.length<=4)&&Kv s
def T8{n:Nat}{f:Nat->Bool}(h:¬(List.range n).all f=true):∃ N,N<n/\(!f N)=true/\∀ k,k<N->(!f k)=false:=by
 refine sx ?_;apply ca;intro q;apply h;refine bO.2 λi hi=>?_
 cases hf:f i with
 |true=>rfl
 |false=>exact absurd ⟨i,bN.1 hi,by rw[hf];rfl⟩ q
def Uc{n:Nat}{f:Nat->Bool}:((List.range n).any λi=>!f i) = !((List.range n).all f):=by
 rw[fw];simp
def pZ.v(o:pZ):jv:=⟨o.kind.toNat,o.a.toNat,o.b.toNat,o.n.toNat,o.cn,o.cd⟩
def mR.v(s:mR):lY:=⟨⟨s.iI.toNat,s.iq.map pZ.v,s.iz.map Int.toNat⟩,s.jg.toNat,s.params.map RI.iv⟩
def ns.of{k a b n m:Nat}{cn cd:Int}(k3:k=1\/3<=k)(BY:k<=13)(ha:k=1->a=0)(vN:¬k=1->a<m)(hb:3<=k/\k<=6->b<m)(oe:¬(3<=k/\k<=6)->b=0)
 (hn:k=8->n<=16) (sU:¬k=8->n=0) (hc:k=1->qu cn cd=true) (Ef:¬k=1->cn=0/\cd=0):ns ⟨k,a,b,n,cn,cd⟩ m:=by
 refine⟨k3,BY,?_,?_,?_,?_,.inr aiR⟩
 .show if k=1 then a=0 else a<m
  split<;>simp_all
 .show if 3<=k/\k<=6 then b<m else b=0
  split
  .rename_i h;exact hb h
  .rename_i h;exact oe h
 .show if k=8 then n<=16 else n=0
  split
  .rename_i h;exact hn h
  .rename_i h;exact sU h
 .show if k=1 then qu cn cd=true else cn=0/\cd=0
  split
  .rename_i h;exact hc h
  .rename_i h;exact Ef h
def apW{o:pZ}{m:Nat}(h:nI o (m:Int)=true):ns o.v m/\0<=o.kind/\0<=o.a/\0<=o.b/\0<=o.n:=by
 obtain⟨k,a,b,n,cn,cd⟩:=o;unfold nI at h;simp only at h;show ns ⟨k.toNat,a.toNat,b.toNat,n.toNat,cn,cd⟩ m/\0<=k/\0<=a/\0<=b/\0<=n;split at h
 .rename_i hk;rw[bK,c9]at h;obtain⟨hr,h1,h2,h3⟩:=h;exact⟨ns.of aC aC aC aC aC aC aC aC (λ_=>hr) aC,aC,aC,aC,aC⟩
 .rename_i oP;split at h
  .rename_i hk;have h:=cL h;exact⟨ns.of aC aC aC aC aC aC aC aC aC aC,aC,aC,aC,aC⟩
  .split at h
   .rename_i hk;have h:=cL h;exact⟨ns.of aC aC aC aC aC aC aC aC aC aC,aC,aC,aC,aC⟩
   .split at h
    .rename_i xR hk;have h:=cL h;exact⟨ns.of aC aC aC aC aC aC aC aC aC aC,aC,aC,aC,aC⟩
    .cases h
def apY{o:pZ}(h1:0<=o.kind)(h2:0<=o.a)(h3:0<=o.b)(h4:0<=o.n):zF o.v=Ch o:=by
 obtain⟨k,a,b,n,cn,cd⟩:=o;simp only[zF,Ch,pZ.v]at *
 rw[fA h1,fA h2,fA h3,fA h4]
def aqe{s:mR}(g:s.lp)(h:r8 s=true):nK s.v/\pW s=kS s.v:=by
 unfold r8 at h;simp only[bK,c9]at h;obtain⟨⟨⟨⟨⟨i0,i8,l1,l2⟩,ho⟩,hu⟩,s1,s4,e1,e2,p4⟩,hp⟩:=h;have ho:=bO.1 ho;have hu:=bO.1 hu;have hp:=bO.1 hp;have opAt:∀ i,i<s.iq.length->(s.iq.map pZ.v).getD i iU=(s.iq.getD i pe).v:=λi hi=>by simp[bt,hi]
 have ouAt:∀ i,i<s.iz.length->(s.iz.map Int.toNat).getD i 0=(s.iz.getD i 0).toNat:=λi hi=>by simp[bt,hi]
 have paAt:∀ i,i<s.params.length->(s.params.map RI.iv).getD i iw=(s.params.getD i lE).iv:=λi hi=>by simp[bt,hi]
 have op:∀ i,i<s.iq.length->ns (s.iq.getD i pe).v (s.iI.toNat+i)/\0<=(s.iq.getD i pe).kind/\0<=(s.iq.getD i pe).a/\0<=(s.iq.getD i pe).b/\0<=(s.iq.getD i pe).n:=λi hi=>by
  have:=ho i<|bN.2 hi;exact apW<|by rwa[show((s.iI.toNat+i:Nat):Int)=s.iI+(i:Int)by omega]
 have ou:∀ i,i<s.iz.length->0<=s.iz.getD i 0/\s.iz.getD i 0<s.iI+(s.iq.length:Int):=λi hi=>cL<|hu i<|bN.2 hi
 have pa:∀ i,i<s.params.length->(s.params.getD i lE).Ok/\(s.params.getD i lE).all=false:=λi hi=>by
  have:=hp i<|bN.2 hi;unfold qX at this;rw[bK]at this;exact⟨AX.1 this.1,by simpa using this.2⟩
 refine⟨⟨⟨?_,?_,?_,?_,?_⟩,?_,?_,?_,?_,?_,?_⟩,?_⟩
 .show s.iI.toNat<=8;omega
 .show (s.iq.map pZ.v).length<=200;rw[cG];exact l1
 .show (s.iz.map Int.toNat).length<=200;rw[cG];exact l2
 .intro i hi;have hi:i<s.iq.length:=by simpa[mR.v]using hi
  show ns ((s.iq.map pZ.v).getD i iU) (s.iI.toNat+i);rw[opAt i hi];exact(op i hi).1
 .intro i hi;have hi:i<s.iz.length:=by simpa[mR.v]using hi
  show(s.iz.map Int.toNat).getD i 0<s.iI.toNat+(s.iq.map pZ.v).length;rw[ouAt i hi,cG];have:=ou i hi;omega
 .show 1<=s.jg.toNat;omega
 .show s.jg.toNat<=4;omega
 .show (s.iz.map Int.toNat).length=s.jg.toNat;rw[cG];omega
 .show s.iI.toNat=s.jg.toNat+(s.params.map RI.iv).length;rw[cG];omega
 .show (s.params.map RI.iv).length<=4;rw[cG];exact p4
 .intro i hi;have hi:i<s.params.length:=by simpa[mR.v]using hi
  show((s.params.map RI.iv).getD i iw).ix/\((s.params.map RI.iv).getD i iw).all=false;rw[paAt i hi];exact⟨(pa i hi).1.valid,(pa i hi).2⟩
 .have e1:iP s.iI=iP (s.iI.toNat:Int):=by rw[fA i0]
  have e2:iP s.jg=iP (s.jg.toNat:Int):=by rw[fA (aC:0<=s.jg)]
  have e3:pz s.iq=lG (s.iq.map pZ.v):=by
   unfold pz lG;rw[cG];congr 1;funext i j;by_cases hi:i<s.iq.length
   .rw [opAt i hi];obtain⟨_,h1,h2,h3,h4⟩:=op i hi;rw[apY h1 h2 h3 h4]
   .have a1:s.iq.getD i pe=pe:=by rw[bt,bW aC];rfl
    have a2:(s.iq.map pZ.v).getD i iU=iU:=by rw[bt,bW<|by rw[cG];omega];rfl
    rw[a1,a2];rfl
  have e4:pU s.iz=lL (s.iz.map Int.toNat):=by
   unfold pU lL;rw[cG];congr 1;funext i j;by_cases hi:i<s.iz.length
   .rw [ouAt i hi,fA (ou i hi).1]
   .rw [bt,bW aC,bt (l:=s.iz.map Int.toNat),bW<|by rw[cG];omega];rfl
  have e5:lj s.params=iG (s.params.map RI.iv):=by
   rw[<-MK];congr 1;apply att;intro i;unfold r7;rw[cC,cC];by_cases hi:i<s.params.length
   .have h1:=(pa i hi).1;have g1:=g.params i;rw[bD hi];rw[bt,bD hi]at h1 g1;exact congrArg some (RI.Ok.eq (x:=s.params[i]) h1 g1).symm
   .rw [bW aC];rfl
  show E.agg [iP s.iI,pz s.iq,pU s.iz,iP s.jg,lj s.params]=_;rw[e1,e2,e3,e4,e5];rfl
def VL(r:List Iv)(i p:Nat)(x:Nat):PS:=⟨84,true,[(23,.e<|iP x),(22,.e<|iP r.length),(21,.e<|iG r),(8,.box 8 0),(7,.box 7 0),(6,.box 6 0),(0,.e<|iG r),(1,.e<|iP i),(2,.e<|iP p)],[(8,.cells 37<|kG<|mO r i p x),(7,.cells 41<|jS iw),(6,.cells 41 au)]⟩
def VK(r:List Iv)(i p:Nat)(N:Nat)(x:Nat):PS:=⟨84,true,[(23,.e<|iP x),(22,.e<|iP r.length),(21,.e<|iG r),(8,.box 8 0),(7,.box 7 0),(6,.box 6 0),(0,.e<|iG r),(1,.e<|iP i),(2,.e<|iP p)],[(8,.cells 37<|kG<|mO r i p x),(7,.cells 41<|jS iw),(6,.cells 41 au)]⟩
def VM(m:List<|List Iv)(p:Nat)(x:Nat):PS:=⟨33,true,[(6,.own 6),(19,.e<|iP x),(18,.e<|iP m.length),(17,.e<|j9 m),(1,.e<|iP p)],[(6,.row true 41 x 7<|jC<|(List.range x).map λi_=>qm (m.getD i_ []) i_ p)]⟩
noncomputable def VO(s:lY)(b:List Iv)(p:Nat)(x:Nat):PS:=⟨45,true,[(11,.e<|iP ((x+1:Nat):Int)),(10,.box 10 0),(8,.e<|j9<|ny s b p),(6,.box 6 0),(2,.e<|iP p)],[(10,.cells 41<|jS<|zV (ny s b p) p x),(6,.cells 41 au)]⟩
def aa4{r:List Iv}{i p k:Nat}(h:xt r i p k=true)(hk:¬k=i):jI (jc (mO r i p k)<|mq<|r.getD k iw) p true=0:=by
 unfold xt at h;rw[bn hk,fu]at h;exact cL h
section
variable(r:List Iv)(i p:Nat)(hr:oW r)
def agT(hi:i<r.length)(hl:r.length<=1000)(iC:8<=p)(iu:p<=512)(hb:SJ r i p=true):il 92 [iG r,iP i,iP p]<|iA<|qm r i p:=by
 have ji:∀ k,k<r.length->xt r i p k=true:=λk hk=>bO.1 hb k<|bN.2 hk
 obtain⟨v1,v2⟩:=hr i hi;obtain⟨v3,v4⟩:=v1.jX;have v5:=Kl r i (aC:1<=p) (aC:p<=4096) r.length;have v6:=yx v5;exact iE (ae [.o 19 (.e Ba:aj (.agg [bP false,.v<|.slice none 0 0,iP 0,bP false,.v<|.slice none 0 0,iP 0,bP true])<|iA iw),.o 20 (.e uQ:aj (.agg ar)<|iB iY),.s (Sp.jP (VL r i p) 0 r.length aC (λx hx mX=>by
    obtain⟨w1,w2⟩:=hr x aC;obtain⟨w5,w6⟩:=w1.jX;have w3:=EX w5 w6;have w4:=Kl r i (aC:1<=p) (aC:p<=4096) x;exact iS (ae [tT 24 ((x:Int)<r.length) aC,iX (x:Int)<|r.length,.c<|Gz (r.getD x iw) w1 w2]<|.w (x=i)
     (λwX=>by
      have my:mO r i p (x+1)=mO r i p x:=by rw[Np,bk wX]
      exact ae [ah 38 ((x:Int)==i)<|aZ aC,iL<|(x:Int)+1]<|.e<|af [.b 8 (.jq<|by rw[my]:Bx.le (.cells 37<|kG<|mO r i p x)<|.cells 37<|kG<|mO r i p<|x+1)])
     (λwX=>by
      have my:mO r i p (x+1)=jd (jc (mO r i p x)<|mq<|r.getD x iw) p true:=by rw[Np,bj wX]
      exact ae [ai 38 ((x:Int)==i)<|aY aC,.c<|G6 (mO r i p x) (mq<|r.getD x iw) p aD aD,ai 47 ((jI (jc (mO r i p x)<|mq<|r.getD x iw) p true) != 0)<|bg<|aa4 (ji x aC) wX,iL<|(x:Int)+1]<|.e<|af [.b 8 (.jq<|by rw[my]:Bx.le (.cells 37<|kG<|jd (jc (mO r i p x)<|mq<|r.getD x iw) p true)<|.cells 37<|kG<|mO r i p<|x+1)])) aF)
  (λhx=>by
    exact iS (af [tF 24 ((r.length:Int)<r.length) aC]) aF) aI:jM 4 Tryz.f92 (VL r i p 0) (.exit 0) ⟨84,true,[(8,.box 8 0),(7,.box 7 0),(6,.box 6 0),(0,.e<|iG r),(1,.e<|iP i),(2,.e<|iP p)],[(8,.cells 37<|kG<|mO r i p r.length),(7,.cells 41<|jS iw),(6,.cells 41 au)]⟩)<|af [.b 8<|.refl<|.cells 37<|kG<|mO r i p 0],
  iX (i:Int) (r.length),.c<|xL (mO r i p r.length) aD,.c<|Ns ((r.getD i iw).lo) (ki<|mO r i p r.length) p aD aD,
  iX (i:Int) (r.length),.c<|G6 ((r.getD i iw).hi) (mO r i p r.length) p aD aD]<|.w ((jI (jc ((r.getD i iw).lo)<|ki<|mO r i p r.length) p false)=0)
  (λk1=>ae [tB 75<|bg k1]<|.w ((jI (jc ((r.getD i iw).hi)<|mO r i p r.length) p true)=0)
   (λk2=>ae [tB 78<|bg k2]<|rQ (iA<|Iv.mk (jd (jc ((r.getD i iw).lo)<|ki<|mO r i p r.length) p false) (jd (jc ((r.getD i iw).hi)<|mO r i p r.length) p true) false) (iA<|qm r i p)<|by unfold qm;rw[bk hb,bk<|by simp_all])
   (λk2=>ae [tB 78<|bh k2]<|rQ (iA iw) (iA<|qm r i p)<|by unfold qm;rw[bk hb,bj<|by simp_all]))
  (λk1=>ae [tB 75<|bh k1]<|rQ (iA iw) (iA<|qm r i p)<|by unfold qm;rw[bk hb,bj<|by simp_all]))
def agU(hi:i<r.length)(hl:r.length<=1000)(iC:8<=p)(iu:p<=512)(N:Nat)(qd:N<r.length)(ji:∀ k,k<N->xt r i p k=true)(hN:xt r i p N=false):il 92 [iG r,iP i,iP p]<|iA iw:=by
 have hNi:¬N=i:=λe=>by unfold xt at hN;rw[bu e]at hN;cases hN
 have hNe:jI (jc (mO r i p N)<|mq<|r.getD N iw) p true≠0:=λe=>by unfold xt at hN;rw[bu e,Bool.or_true]at hN;cases hN
 exact iE (af [.o 19 (.e Ba:aj (.agg [bP false,.v<|.slice none 0 0,iP 0,bP false,.v<|.slice none 0 0,iP 0,bP true])<|iA iw),.o 20 (.e uQ:aj (.agg ar)<|iB iY),.s (Sp.jP (VK r i p N) 0 N aC (λx hx mX=>by
    obtain⟨w1,w2⟩:=hr x aC;obtain⟨w5,w6⟩:=w1.jX;have w3:=EX w5 w6;have w4:=Kl r i (aC:1<=p) (aC:p<=4096) x;exact iS (ae [tT 24 ((x:Int)<r.length) aC,iX (x:Int)<|r.length,.c<|Gz (r.getD x iw) w1 w2]<|.w (x=i)
     (λwX=>by
      have my:mO r i p (x+1)=mO r i p x:=by rw[Np,bk wX]
      exact ae [ah 38 ((x:Int)==i)<|aZ aC,iL<|(x:Int)+1]<|.e<|af [.b 8 (.jq<|by rw[my]:Bx.le (.cells 37<|kG<|mO r i p x)<|.cells 37<|kG<|mO r i p<|x+1)])
     (λwX=>by
      have my:mO r i p (x+1)=jd (jc (mO r i p x)<|mq<|r.getD x iw) p true:=by rw[Np,bj wX]
      exact ae [ai 38 ((x:Int)==i)<|aY aC,.c<|G6 (mO r i p x) (mq<|r.getD x iw) p aD aD,ai 47 ((jI (jc (mO r i p x)<|mq<|r.getD x iw) p true) != 0)<|bg<|aa4 (ji x aC) wX,iL<|(x:Int)+1]<|.e<|af [.b 8 (.jq<|by rw[my]:Bx.le (.cells 37<|kG<|jd (jc (mO r i p x)<|mq<|r.getD x iw) p true)<|.cells 37<|kG<|mO r i p<|x+1)])) aF)
  (λhx=>by
    obtain⟨w1,w2⟩:=hr N aC;obtain⟨w5,w6⟩:=w1.jX;have w3:=EX w5 w6;have w4:=Kl r i (aC:1<=p) (aC:p<=4096) N;exact iS (af [tT 24 ((N:Int)<r.length) aC,iX (N:Int)<|r.length,.c<|Gz (r.getD N iw) w1 w2,ai 38 ((N:Int)==i)<|aY aC,.c<|G6 (mO r i p N) (mq<|r.getD N iw) p aD aD,tB 47<|bh hNe]) aF) aI:jM 4 Tryz.f92 (VK r i p N 0) .ret ⟨84,true,[(6,.box 6 0)],[(6,.cells 41<|jS iw)]⟩)<|af [.b 8<|.refl<|.cells 37<|kG<|mO r i p 0]])
def agV(hi:i<r.length)(hl:r.length<=1000)(iC:8<=p)(iu:p<=512):il 92 [iG r,iP i,iP p]<|iA<|qm r i p:=by
 by_cases c:SJ r i p=true
 .exact agT r i p hr hi hl iC iu c
 .obtain ⟨N,n1,n2,n3⟩:=T8 c;have:=agU r i p hr hi hl iC iu N n1 (λk hk=>by simpa using n3 k hk) (by simpa using n2);rwa[show qm r i p=iw by unfold qm;rw[bj c]]
end
def JH(p:Int):il 69 [iP p]<|bP<|kA p:=
 iE (.w (8<=p)
  (λk1=>ae [tB 4<|bu k1]<|rQ (bP<|decide (p<=512)) (bP<|kA p)<|by unfold kA;simp[k1])
  (λk1=>ae [tB 4<|bn k1]<|rQ (bP false) (bP<|kA p)<|by unfold kA;simp[k1]))
def al0(m:List<|List Iv)(n:Nat)(hm:nJ m n n):il 70 [j9 m]<|bP true:=by
 have m1:=hm.iM;have m2:=hm.n1;have m3:=hm.qV (aC:0<n);exact iE<|af [.c<|E3 m _ _ hm,iX 0<|m.length,ah 12 ((m.length:Int)==((m.getD 0 []).length:Int))<|GO aC]
def agY(m:List<|List Iv)(n p:Nat)(hm:nJ m n n)(uB:∀ i,i<n->oW (m.getD i []))(iC:8<=p)(iu:p<=512):il 48 [j9 m,iP p]<|.iH [iG<|wK m p,iP 0]:=by
 have m1:=hm.iM;have m8:=hm.n8;exact iE (af [ag [iP p]<|JH _,ah 10 (kA (p:Int))<|oo.2 ⟨aC,aC⟩,ag [j9 m]<|al0 _ _ hm,.y 6 6 true 41 7<|jC<|(List.range 0).map λi_=>qm (m.getD i_ []) i_ p,.s (Sp.jP (VM m p) 0 m.length aC (λx hx mX=>by
    have Rb:=hm.qV (aC:x<n);have qB:=pJ<|qm (m.getD x []) x p;exact iS (ae [tT 20 ((x:Int)<m.length) aC,iX (x:Int)<|m.length,ag [iG<|m.getD x [],iP x,iP p]<|agV _ _ _ (uB x aC) aC aC aC aC,.o 29<|.e<|mn<|qm (m.getD x []) x p,.a (aC:(x+[qm (m.getD x []) x p].length)*88<=140737488355328),iL<|(x:Int)+1]<|.e<|af [.b 6 (zi rfl rfl rfl:Bx.le (.row true 41 (x+[qm (m.getD x []) x p].length) 7 λi_ j_=>if i_<x then(jC<|(List.range x).map λi_=>qm (m.getD i_ []) i_ p) i_ j_ else(E.ky<|iG [qm (m.getD x []) x p]) (i_-x) j_)<|.row true 41 (x+1) 7<|jC<|(List.range<|x+1).map λi_=>qm (m.getD i_ []) i_ p)]) aF)
  (λhx=>by
    exact iS (ae [tF 20 ((m.length:Int)<m.length) aC,.z 6]<|.e<|af [.o 6 (.e<|xj aH:aj (.sl true m.length 7<|jC<|(List.range m.length).map λi_=>qm (m.getD i_ []) i_ p)<|iG<|(List.range m.length).map λi_=>qm (m.getD i_ []) i_ p)]) aF) aI:jM 5 Tryz.f48 (VM m p 0) (.exit 0) ⟨33,true,[(6,.e<|iG<|(List.range m.length).map λi_=>qm (m.getD i_ []) i_ p)],[]⟩) .nil])
def ag1(s:lY)(b:List Iv)(p:Nat)(h:nK s)(hb:lN s.jg b)(iC:8<=p)(iu:p<=512)(hn:uG s b p=true):il 51 [kS s,iG b,iP p]<|.iH [.agg au,iP 11]:=
 iE (af [.c<|WW s b p h hb iC iu hn,ah 20 ((11:Int) != 0) aE])
section
variable{s:lY}(h:nK s)(b:List Iv)(p:Nat)
def GA:(ny s b p).length=s.jg:=by unfold ny;rw[yi,h.iz]
def RG{i:Nat}(hi:i<s.jg):((ny s b p).getD i []).length=s.jg:=by
 unfold ny;rw[JD<|by rw[h.iz];exact hi];simp
end
def JC{s:lY}(h:nK s){b:List Iv}(hb:lN s.jg b){p:Nat}(hp:1<=p)(iu:p<=4096)(i j:Nat):(((ny s b p).getD i []).getD j iw).ix:=by
 obtain⟨f1,f2,f3,f4⟩:=Li h hb;by_cases hi:i<s.tape.iz.length
 .unfold ny;rw[JD hi];by_cases hj:j<s.jg
  .rw [tC hj];exact RF _ f4 hp iu _ _
  .rw [bt,bW<|by simpa using hj];exact ln
 .rw [bt (l:=ny s b p),bW<|by rw[GA h];rw[h.iz]at hi;omega];exact ln
def Tu{s:lY}(h:nK s){b:List Iv}(hb:lN s.jg b){p:Nat}(hp:1<=p)(iu:p<=4096):∀ k,(zV (ny s b p) p k).ix
 | 0=>JC h hb hp iu 0 0
 |k+1=>pN (Tu h hb hp iu k) (JC h hb hp iu _ _) hp iu
section
variable{s:lY}(h:nK s){b:List Iv}(hb:lN s.jg b){p:Nat}(hp:1<=p)(iu:p<=4096)
def alm(hn:uG s b p=false)(i:Nat)(hi:i<s.jg):oW<|(ny s b p).getD i []:=by
 unfold uG at hn;rw[eo]at hn;have h2:=cI.1 hn.2 i (bN.2<|by rw[yi,h.iz];exact hi);exact ajU (by simpa[ny]using h2)<|JC h hb hp iu i
def alk:nJ (ny s b p) s.jg s.jg:=by
 have s1:=h.s1;have s4:=h.s4;have mT:∀ {α:Type} {l:List α} {x:α} (d:α),x ∈ l->∃ i,i<l.length/\l.getD i d=x:=λd hx=>by
  obtain⟨i,hi,e⟩:=atz hx;exact⟨i,hi,by rw[bt,bD hi];exact e⟩
 refine⟨GA h b p,λr hr=>?_,λr hr x hx=>?_,aC,aC,aC,aC⟩
 .obtain ⟨i,hi,rfl⟩:=mT [] hr;rw[GA h]at hi;exact RG h b p hi
 .obtain ⟨i,hi,rfl⟩:=mT [] hr;obtain⟨j,hj,rfl⟩:=mT iw hx;exact JC h hb hp iu i j
end
def ag7(s:lY)(b:List Iv)(p:Nat)(h:nK s)(hb:lN s.jg b)(iC:8<=p)(iu:p<=512)(hn:uG s b p=false):il 51 [kS s,iG b,iP p]<|.iH [iA<|zV (ny s b p) p<|s.jg-1,iP 0]:=by
 have p1:1<=p:= aC ;have p2:p<=4096:= aC ;have s1:=h.s1;have s4:=h.s4;have wV:=GA h b p;have sV:=RG h b p (aC:0<s.jg);exact iE (af [.c<|WX s b p h hb iC iu hn,ai 20 ((0:Int) != 0) aE,iX 0<|(ny s b p).length,iX 0<|((ny s b p).getD 0 []).length,.s (Sp.jP (VO s b p) 0 (s.jg-1) aC (λx hx mX=>by
    have hr:=RG h b p (aC:x+1<s.jg);have Gs:=JC h hb p1 p2 (x+1)<|x+1;have tS:=Tu h hb p1 p2 x;exact iS (ae [tT 31 (((x+1:Nat):Int)<((ny s b p).length:Int)) aC,iX ((x+1:Nat):Int)<|(ny s b p).length,iX ((x+1:Nat):Int)<|((ny s b p).getD (x+1) []).length,.c<|BW (zV (ny s b p) p x) (((ny s b p).getD (x+1) []).getD (x+1) iw) p aD aD,iL<|((x+1:Nat):Int)+1]<|.e<|af [.b 10<|.refl<|.cells 41<|jS<|zV (ny s b p) p<|x+1]) aF)
  (λhx=>by
    exact iS (af [tF 31 ((((s.jg-1)+1:Nat):Int)<((ny s b p).length:Int)) aC]) aF) aI:jM 6 Tryz.f51 (VO s b p 0) (.exit 0) ⟨45,true,[(10,.box 10 0),(6,.box 6 0)],[(10,.cells 41<|jS<|zV (ny s b p) p<|s.jg-1),(6,.cells 41 au)]⟩)<|af [.o 11<|aq 1 ((0+1:Nat):Int) aO,.b 10<|.refl<|.cells 41<|jS<|zV (ny s b p) p 0]])
def DB(d:Iv):Bool:=d.all||decide (0<=d.hi.jL)
section
variable(s:lY)(b:List Iv)(p:Nat)
noncomputable def N4:Bool:=!uG s b p && !((List.range (wK (ny s b p) p).length).any λi=>DB<|(wK (ny s b p) p).getD i iw)
noncomputable def Tz:Bool:=!uG s b p&&decide (0<nQ (zV (ny s b p) p<|s.jg-1))
end
def VN(m:List<|List Iv)(p:Nat):(wK m p).length=m.length:=by simp[wK]
def agX{m:List<|List Iv}{p i:Nat}(h:i<m.length):(wK m p).getD i iw=qm (m.getD i []) i p:=by
 unfold wK;rw[tC h]
def aqZ(d:Iv)(hh:d.hi.ix):il 49 [iA d]<|bP<|DB d:=
 iE (.w (d.all=true)
  (λk1=>ae [tB 4 k1]<|rQ (bP true) (bP<|DB d)<|by unfold DB;simp_all)
  (λk1=>ae [tB 4<|bc k1,.c<|pP d.hi aD]<|rQ (bP<|decide (0<=(Dy.jL d.hi))) (bP<|DB d)<|by unfold DB;simp_all))
section
variable(s:lY)(b:List Iv)(p:Nat)(h:nK s)(hb:lN s.jg b)(iC:8<=p)(iu:p<=512)
def aq0(hn:uG s b p=true):il 11 [kS s,iG b,iP p]<|bP false:=
 iE (af [.c<|WW s b p h hb iC iu hn,ah 18 ((11:Int) != 0) aE])
def aq1(hn:uG s b p=false):il 11 [kS s,iG b,iP p]<|bP<|!((List.range (wK (ny s b p) p).length).any λi=>DB<|(wK (ny s b p) p).getD i iw):=by
 have p1:1<=p:= aC ;have p2:p<=4096:= aC ;have s1:=h.s1;have s4:=h.s4;have wV:=GA h b p;have Eh:=VN (ny s b p) p;have hdh:∀ i,i<(wK (ny s b p) p).length->((wK (ny s b p) p).getD i iw).hi.ix:=λi hi=>by rw[agX<|by rw[VN]at hi;exact hi];exact(agW _ _ p1 p2).2
 exact iE<|af [.c<|WX s b p h hb iC iu hn,ai 18 ((0:Int) != 0) aE,ag [j9<|ny s b p,iP p]<|agY _ _ _ (alk h hb p1 p2) (alm h hb p1 p2 hn) iC iu,ah 26 ((0:Int)==0) aE,.c (Dd true _ _ 49 [] (λi=>DB<|(wK (ny s b p) p).getD i iw) λi hi=>aqZ _<|hdh i hi:il 39 [iG<|wK (ny s b p) p,.fn 49 []] _)]
def asg(hn:uG s b p=true):il 12 [kS s,iG b,iP p]<|bP false:=
 iE (af [ag [kS s,iG b,iP p]<|ag1 _ _ _ h hb iC iu hn,ai 17 ((11:Int)==0) aE])
def asi(hn:uG s b p=false):il 12 [kS s,iG b,iP p]<|bP<|decide (0<nQ (zV (ny s b p) p<|s.jg-1)):=by
 have p1:1<=p:= aC ;have p2:p<=4096:= aC ;have s1:=h.s1;have s4:=h.s4;have wV:=GA h b p;have Ye:=Tu h hb p1 p2<|s.jg-1;exact iE<|af [ag [kS s,iG b,iP p]<|ag7 _ _ _ h hb iC iu hn,ah 17 ((0:Int)==0) aE,.c<|JA (zV (ny s b p) p<|s.jg-1) Ye]
def acI:il 11 [kS s,iG b,iP (p:Int)]<|bP<|N4 s b p:=by
 unfold N4;cases hn:uG s b p with
 |true=>exact aq0 s b p h hb iC iu hn
 |false=>exact aq1 s b p h hb iC iu hn
def ash:il 12 [kS s,iG b,iP (p:Int)]<|bP<|Tz s b p:=by
 unfold Tz;cases hn:uG s b p with
 |true=>exact asg s b p h hb iC iu hn
 |false=>exact asi s b p h hb iC iu hn
end
def sw{a b:Bool}(h:a=b):bP a=bP b:=h▸rfl
def CW(x:Iv)(d:Dy):Bool:=decide (jN x.lo d<=0)&&decide (jN d x.hi<=0)
def vO(x:Iv)(d:Dy):Bool:=x.all||CW x d
def lX(x : Iv)(p : Nat) : Dy:=
  if jI (jc x.lo x.hi) p false=0 then
    (if rp (canon (jd (jc x.lo x.hi) p false).neg (jd (jc x.lo x.hi) p false).m<|(jd (jc x.lo x.hi) p false).e + -1)=0/\CW x (nZ<|canon (jd (jc x.lo x.hi) p false).neg (jd (jc x.lo x.hi) p false).m<|(jd (jc x.lo x.hi) p false).e + -1)=true
     then nZ (canon (jd (jc x.lo x.hi) p false).neg (jd (jc x.lo x.hi) p false).m<|(jd (jc x.lo x.hi) p false).e + -1)else x.lo)
  else x.lo
section
variable(x y:Iv)
def zg:Bool:=y.all||(!x.all&&(decide (jN y.lo x.lo<0)&&decide (jN x.hi y.hi<0)))
def D4:Bool:=AE x y&&AE y x
def yo:Bool:=decide (jN (jy x.lo y.lo) (jA x.hi y.hi)<=0)
def qi:Iv:=⟨jy x.lo y.lo,jA x.hi y.hi,false⟩
end
def MH:Iv:=⟨iY,iY,false⟩
def sA(x y:Iv):Iv:=if x.all then y else if y.all then x else if yo x y then qi x y else MH
def xp(x y:Iv):Bool:=x.all||(y.all||yo x y)
def YU(x:Iv)(d:Dy)(hx:x.ix)(hd:d.ix):il 37 [iA x,iB d]<|bP<|vO x d:=by
 obtain⟨w1,w2⟩:=hx.jX;exact iE (ae [.c<|qG x aD,.c<|sj d aD]<|.w (x.all=true)
  (λk1=>ae [tB 14 k1]<|rQ (bP true) (bP<|vO x d)<|sw<|by unfold vO CW;simp_all<;>omega)
  (λk1=>ae [tB 14<|bc k1,.c<|nE x.lo d aD aD]<|.w ((jN x.lo d)<=0)
   (λk2=>ae [tB 20<|bu k2,.c<|nE d x.hi aD aD]<|rQ (bP<|decide ((jN d x.hi)<=0)) (bP<|vO x d)<|sw<|by unfold vO CW;simp_all<;>omega)
   (λk2=>ae [tB 20<|bn k2]<|rQ (bP false) (bP<|vO x d)<|sw<|by unfold vO CW;simp_all<;>omega)))
def ak3(x:Iv)(d:Dy)(hx:x.ix)(xa:x.all=false)(hd:d.ix):il 37 [iA x,iB d]<|bP<|CW x d:=by
 have:=YU x d hx hd;unfold vO at this;rwa[xa,fu]at this
def MI(x:Iv)(p:Nat)(hx:x.ix)(xa:x.all=false)(iC:8<=p)(iu:p<=512):il 214 [iA x,iP p]<|iB<|lX x p:=by
 obtain⟨w1,w2⟩:=hx.jX;have w3:=rF (jc x.lo x.hi) (aC:1<=p) (aC:p<=4096) false;have w4:=Lv<|uV (jd (jc x.lo x.hi) p false).neg (jd (jc x.lo x.hi) p false).m<|(jd (jc x.lo x.hi) p false).e + -1;exact iE (ae [.o 9<|.e<|mn x,.c<|qU x aD,ah 10 (!x.all)<|by rw[xa];rfl,.c<|xi (p:Int),ah 14 (kA (p:Int))<|oo.2 ⟨aC,aC⟩,.c<|Ns x.lo x.hi p aD aD]<|.w ((jI (jc x.lo x.hi) p false)=0)
  (λk1=>ae [tB 28<|bg k1,.c<|O4 (jd (jc x.lo x.hi) p false) (-1) aD aC aC]<|.w ((rp<|canon (jd (jc x.lo x.hi) p false).neg (jd (jc x.lo x.hi) p false).m<|(jd (jc x.lo x.hi) p false).e+(-1))=0)
   (λk2=>ae [tB 37<|bg k2,ag [iA x,iB<|nZ<|canon (jd (jc x.lo x.hi) p false).neg (jd (jc x.lo x.hi) p false).m<|(jd (jc x.lo x.hi) p false).e+(-1)]<|ak3 x _ hx xa aD]<|.w (CW x (nZ<|canon (jd (jc x.lo x.hi) p false).neg (jd (jc x.lo x.hi) p false).m<|(jd (jc x.lo x.hi) p false).e+(-1))=true)
    (λk3=>ae [tB 41 k3]<|rQ (iB<|nZ<|canon (jd (jc x.lo x.hi) p false).neg (jd (jc x.lo x.hi) p false).m<|(jd (jc x.lo x.hi) p false).e+(-1)) (iB<|lX x p) aX)
    (λk3=>ae [tB 41<|bc k3]<|rQ (iB x.lo) (iB<|lX x p) aX))
   (λk2=>ae [tB 37<|bh k2]<|rQ (iB x.lo) (iB<|lX x p) aX))
  (λk1=>ae [tB 28<|bh k1]<|rQ (iB x.lo) (iB<|lX x p) aX))
def GL{x:Iv}(hx:x.ix)(p:Nat):(lX x p).ix:=by
 unfold lX;split
 .split
  .exact Lv<|uV _ _ _
  .exact hx.jX.1
 .exact hx.jX.1
def akW:vG au<|jS MH:=by
 have e1:E.le (.v<|.slice none 0 0)<|iy<|im 0:=by rw[px];exact .nil _ _ _
 exact .cons (.refl _)<|.cons e1<|.cons (.refl _)<|.cons (.refl _)<|.cons e1<|.cons (.refl _)<|.cons (.refl _) .nil
def akX:MH.ix:=.inr ⟨rfl,ph,ph,aE⟩
section
variable{x y:Iv}(hx:x.ix)(hy:y.ix)
def aah(h:yo x y=true):(qi x y).ix:=by
 obtain⟨w1,w2⟩:=hx.jX;obtain⟨w3,w4⟩:=hy.jX;exact .inr ⟨rfl,uI w1 w3,xo w2 w4,cL h⟩
def amY:(sA x y).ix:=by
 unfold sA;split
 .exact hy
 .split
  .exact hx
  .split
   .exact aah hx hy aD 
   .exact akX
end
section
variable(x y:Iv)(hx:x.ix)(hy:y.ix)
def ak4:il 267 [iA x,iA y]<|bP<|zg x y:=by
 obtain⟨w1,w2⟩:=hx.jX;obtain⟨w3,w4⟩:=hy.jX;exact iE (ae [.c<|qG x aD,.c<|qG y aD]<|.w (y.all=true)
  (λk1=>ae [tB 14 k1]<|rQ (bP true) (bP<|zg x y)<|sw aS)
  (λk1=>ae [tB 14<|bc k1]<|.w (x.all=true)
   (λk2=>ae [tB 17 k2]<|rQ (bP false) (bP<|zg x y)<|sw aS)
   (λk2=>ae [tB 17<|bc k2,.c<|nE y.lo x.lo aD aD]<|.w ((jN y.lo x.lo)<0)
    (λk3=>ae [tB 25<|bu k3,.c<|nE x.hi y.hi aD aD]<|rQ (bP<|decide ((jN x.hi y.hi)<0)) (bP<|zg x y)<|sw aS)
    (λk3=>ae [tB 25<|bn k3]<|rQ (bP false) (bP<|zg x y)<|sw aS))))
def akY:il 217 [iA x,iA y]<|bP<|D4 x y:=
 iE (ae [.c<|Ut x y aD aD]<|.w (AE x y=true)
  (λk1=>ae [tB 7 k1,.c<|Ut y x aD aD]<|rQ (bP<|AE y x) (bP<|D4 x y)<|sw<|by unfold D4;simp_all)
  (λk1=>ae [tB 7<|bc k1]<|rQ (bP false) (bP<|D4 x y)<|sw<|by unfold D4;simp_all))
def RA:il 24 [iA x,iA y]<|.iH [iA<|sA x y,bP<|xp x y]:=by
 obtain⟨w1,w2⟩:=hx.jX;obtain⟨w3,w4⟩:=hy.jX;have w5:=uI w1 w3;have w6:=xo w2 w4;exact iE (ae [.c<|qG x aD,.c<|qG y aD]<|.w (x.all=true)
  (λk1=>ae [tB 19 k1]<|rQ (.iH [iA y,bP true]) (.iH [iA<|sA x y,bP<|xp x y])<|by unfold sA xp;simp_all)
  (λk1=>ae [tB 19<|bc k1]<|.w (y.all=true)
   (λk2=>ae [tB 23 k2]<|rQ (.iH [iA x,bP true]) (.iH [iA<|sA x y,bP<|xp x y])<|by unfold sA xp;simp_all)
   (λk2=>ae [tB 23<|bc k2,.c<|Jz x.lo y.lo aD aD,.c<|Jy x.hi y.hi aD aD,.c<|nE (jy x.lo y.lo) (jA x.hi y.hi) aD aD]<|.w (0<(jN (jy x.lo y.lo)<|jA x.hi y.hi))
    (λk3=>ae [tB 41<|bu k3]<|rR (.iH [iA<|sA x y,bP<|xp x y]) (by
      have hm:yo x y=false:=bn aC;exact .iH (.cons (.trans (.agg akW)<|.jq<|by unfold sA;simp_all[iA])<|.cons (.jq<|sw<|by unfold xp;simp_all) .nil):E.le (.iH [.agg au,bP false])<|.iH [iA<|sA x y,bP<|xp x y]))
    (λk3=>ae [tB 41<|bn k3]<|rR (.iH [iA<|sA x y,bP<|xp x y]) (by
      have hm:yo x y=true:=bu aC;exact .jq (by unfold sA xp qi;simp_all):E.le (.iH [iA<|Iv.mk (jy x.lo y.lo) (jA x.hi y.hi) false,bP true])<|.iH [iA<|sA x y,bP<|xp x y])))))
end
def KV(l:List Dy):Prop:=∀ i,(l.getD i iY).ix
def Ki(l:List Dy):List Iv:=(List.range l.length).map λj_=>jx<|l.getD j_ iY
def vv(b:List Iv)(p:Nat):List Dy:=(List.range b.length).map λj_=>lX (b.getD j_ iw) p
section
variable(a b:List Iv)
def AD:Bool:=(List.range a.length).all λi=>zg (a.getD i iw)<|b.getD i iw
def xN:Bool:=(List.range a.length).all λi=>D4 (a.getD i iw)<|b.getD i iw
def qJ:List Iv:=(List.range a.length).map λj_=>qi (a.getD j_ iw)<|b.getD j_ iw
def E5:Bool:=(List.range a.length).all λj_=>yo (a.getD j_ iw)<|b.getD j_ iw
end
def Uy(l:List Dy)(i:Nat):PS:=⟨22,true,[(3,.own 3),(11,.e<|iP i),(10,.e<|iP l.length),(9,.e<|na l)],[(3,.row true 41 i 7<|jC<|(List.range i).map λj_=>jx<|l.getD j_ iY)]⟩
def Uw(b:List Iv)(p:Nat)(i:Nat):PS:=⟨30,true,[(5,.own 5),(18,.e<|iP i),(17,.e<|iP b.length),(16,.e<|iG b),(1,.e<|iP p)],[(5,.row true 37 i 3<|pr<|(List.range i).map λj_=>lX (b.getD j_ iw) p)]⟩
def UN(a b:List Iv)(i:Nat):PS:=⟨39,true,[(6,.own 6),(16,.e<|iP i),(15,.e<|iP a.length),(0,.e<|iG a),(1,.e<|iG b)],[(6,.row true 41 i 7<|jC<|(List.range i).map λj_=>qi (a.getD j_ iw)<|b.getD j_ iw)]⟩
def UM(a b:List Iv)(N:Nat)(i:Nat):PS:=⟨39,true,[(6,.own 6),(16,.e<|iP i),(15,.e<|iP a.length),(0,.e<|iG a),(1,.e<|iG b)],[(6,.row true 41 i 7<|jC<|(List.range i).map λj_=>qi (a.getD j_ iw)<|b.getD j_ iw)]⟩
def GJ(b:List Iv)(k p:Nat):List Iv:=b.set k ⟨(b.getD k iw).lo,lX (b.getD k iw) p,(b.getD k iw).all⟩
def Ge(b:List Iv)(k p:Nat):List Iv:=b.set k ⟨lX (b.getD k iw) p,(b.getD k iw).hi,(b.getD k iw).all⟩
def ML{k i:Nat}{xs:List Iv}{v:Iv}(hi:i<xs.length):(xs.set k v).getD i iw=if k=i then v else xs.getD i iw:=by
 simp only[bt,List.getElem?_set,hi];by_cases h:k=i
 .subst h;simp[hi]
 .simp [h]
section
variable{n k:Nat}{xs:List Iv}{m:Dy}(hn:n=xs.length)
def alh:
 E.le (.sl true n 7 λi' j'=>if i'=k/\3<=j'/\j'<3+3 then(kG m).getD (j'-3) .any else jC xs i' j') (iG<|xs.set k ⟨(xs.getD k iw).lo,m,(xs.getD k iw).all⟩):=by
 subst hn;have e:iG (xs.set k ⟨(xs.getD k iw).lo,m,(xs.getD k iw).all⟩) = .sl true xs.length 7 (jC<|xs.set k ⟨(xs.getD k iw).lo,m,(xs.getD k iw).all⟩):=by unfold iG;rw[cY]
 rw[e];refine .sl λi j hi hj=>⟨.jq ?_,AF _ _ hj⟩
 show _=(jS<|(xs.set k _).getD i iw).getD j .any;rw[ML hi];by_cases h:k=i
 .subst h;rw[bk rfl];simp only[fJ];rcases j with _|_|_|_|_|_|_|j
  all_goals first|rfl|omega
 .rw [bj h,bj λq=>h q.1.symm]
def ali:
 E.le (.sl true n 7 λi' j'=>if i'=k/\0<=j'/\j'<0+3 then(kG m).getD (j'-0) .any else jC xs i' j') (iG<|xs.set k ⟨m,(xs.getD k iw).hi,(xs.getD k iw).all⟩):=by
 subst hn;have e:iG (xs.set k ⟨m,(xs.getD k iw).hi,(xs.getD k iw).all⟩) = .sl true xs.length 7 (jC<|xs.set k ⟨m,(xs.getD k iw).hi,(xs.getD k iw).all⟩):=by unfold iG;rw[cY]
 rw[e];refine .sl λi j hi hj=>⟨.jq ?_,AF _ _ hj⟩
 show _=(jS<|(xs.set k _).getD i iw).getD j .any;rw[ML hi];by_cases h:k=i
 .subst h;rw[bk rfl];simp only[fJ];rcases j with _|_|_|_|_|_|_|j
  all_goals first|rfl|omega
 .rw [bj h,bj λq=>h q.1.symm]
end
def aeN(d:Dy)(hd:d.ix):il 340 [iB d]<|bP false:=
 iE (af [.c<|sj d aD])
section
variable(l:List Dy)(l1:1<=l.length)(l8:l.length<=8)(hv:KV l)
def aeO:il 297 [na l]<|bP true:=
 iE (af [tT 5 (1<=(l.length:Int)) aC,tT 9 ((l.length:Int)<=8) aC,.c (PL true _ _ 340 [] (λ_=>false) (λi hi=>aeN _<|hv i) aC λ_ _=>rfl:il 339 [na l,.fn 340 []] _)])
def afn:il 260 [na l]<|iG<|Ki l:=
 iE (ae [ag [na l]<|aeO _ l1 l8 hv,.y 3 3 true 41 7<|jC<|(List.range 0).map λj_=>jx<|l.getD j_ iY,.s (Sp.jP (Uy l) 0 l.length aC (λi hi mW=>by
    have MD:=hv i;have qB:=pJ<|jx<|l.getD i iY;exact iS (ae [tT 12 ((i:Int)<l.length) aC,iX (i:Int)<|l.length,.c<|yh (l.getD i iY) MD,.o 18<|.e<|mn<|jx<|l.getD i iY,.a (aC:(i+[jx<|l.getD i iY].length)*88<=140737488355328),iL<|(i:Int)+1]<|.e<|af [.b 3 (zi rfl rfl rfl:Bx.le (.row true 41 (i+[jx<|l.getD i iY].length) 7 λi_ j_=>if i_<i then(jC<|(List.range i).map λj_=>jx<|l.getD j_ iY) i_ j_ else(E.ky<|iG [jx<|l.getD i iY]) (i_-i) j_)<|.row true 41 (i+1) 7<|jC<|(List.range<|i+1).map λj_=>jx<|l.getD j_ iY)]) aF)
  (λhi=>by
    exact iS (ae [tF 12 ((l.length:Int)<l.length) aC,.z 3]<|.e<|af [.o 3 (.e<|xj aH:aj (.sl true l.length 7<|jC<|(List.range l.length).map λj_=>jx<|l.getD j_ iY)<|iG<|(List.range l.length).map λj_=>jx<|l.getD j_ iY)]) aF) aI:jM 5 f260 (Uy l 0) (.exit 0) ⟨22,true,[(3,.e<|iG<|(List.range l.length).map λj_=>jx<|l.getD j_ iY)],[]⟩) .nil]<|rR (iG<|Ki l) (.refl _:E.le (iG<|(List.range l.length).map λj_=>jx<|l.getD j_ iY)<|iG<|Ki l))
end
def UP(b:List Iv)(b1:1<=b.length)(b8:b.length<=8)(hb:oW b)(p:Nat)(iC:8<=p)(iu:p<=512):il 261 [iG b,iP p]<|na<|vv b p:=
 iE (ae [.c<|Im b aC aC hb,.c<|UQ (p:Int),ah 13 (kA (p:Int))<|oo.2 ⟨aC,aC⟩,.y 5 5 true 37 3<|pr<|(List.range 0).map λj_=>lX (b.getD j_ iw) p,.s (Sp.jP (Uw b p) 0 b.length aC (λi hi mW=>by
    obtain⟨w1,w2⟩:=hb i aC;have qB:=pJ<|lX (b.getD i iw) p;exact iS (ae [tT 19 ((i:Int)<b.length) aC,iX (i:Int)<|b.length,.c<|MI (b.getD i iw) p w1 w2 iC iu,.o 26<|.e<|CK<|lX (b.getD i iw) p,.a (aC:(i+[lX (b.getD i iw) p].length)*40<=140737488355328),iL<|(i:Int)+1]<|.e<|af [.b 5 (LM rfl rfl rfl:Bx.le (.row true 37 (i+[lX (b.getD i iw) p].length) 3 λi_ j_=>if i_<i then(pr<|(List.range i).map λj_=>lX (b.getD j_ iw) p) i_ j_ else(E.ky<|na [lX (b.getD i iw) p]) (i_-i) j_)<|.row true 37 (i+1) 3<|pr<|(List.range<|i+1).map λj_=>lX (b.getD j_ iw) p)]) aF)
  (λhi=>by
    exact iS (ae [tF 19 ((b.length:Int)<b.length) aC,.z 5]<|.e<|af [.o 5 (.e<|ahC aH:aj (.sl true b.length 3<|pr<|(List.range b.length).map λj_=>lX (b.getD j_ iw) p)<|na<|(List.range b.length).map λj_=>lX (b.getD j_ iw) p)]) aF) aI:jM 5 f261 (Uw b p 0) (.exit 0) ⟨30,true,[(5,.e<|na<|(List.range b.length).map λj_=>lX (b.getD j_ iw) p)],[]⟩) .nil]<|rR (na<|vv b p) (.refl _:E.le (na<|(List.range b.length).map λj_=>lX (b.getD j_ iw) p)<|na<|vv b p))
section
variable(a b:List Iv)(a1:1<=a.length)(a8:a.length<=8)(hl:b.length=a.length)(ha:oW a)(hb:oW b)
def Lj:il 212 [iG a,iG b]<|bP<|AD a b:=
 iE (af [.c<|Ll a b a1 a8 hl ha hb,.c<|OY a b 267 [] (λi=>zg (a.getD i iw)<|b.getD i iw) hl aC λi hi=>ak4 _ _ (ha i hi).1 (hb i aC).1])
def DU:il 139 [iG a,iG b]<|bP<|xN a b:=
 iE (af [.c<|Ll a b a1 a8 hl ha hb,.c<|OY a b 217 [] (λi=>D4 (a.getD i iw)<|b.getD i iw) hl aC λi hi=>akY _ _ (ha i hi).1 (hb i aC).1])
end
section
variable(x y:Iv)(hx:x.ix)(hy:y.ix)(xa:x.all=false)(ya:y.all=false)
def aai(hm:yo x y=true):il 24 [iA x,iA y]<|.iH [iA<|qi x y,bP true]:=by
 have:=RA x y hx hy;unfold sA xp at this;rwa[xa,ya,hm]at this
def amZ(hm:yo x y=false):il 24 [iA x,iA y]<|.iH [iA MH,bP false]:=by
 have:=RA x y hx hy;unfold sA xp at this;rwa[xa,ya,hm]at this
end
section
variable(a b:List Iv)(a1:1<=a.length)(a8:a.length<=8)(hl:b.length=a.length)(ha:oW a)(hb:oW b)
def afm(ji:∀ i,i<a.length->yo (a.getD i iw) (b.getD i iw)=true):il 213 [iG a,iG b]<|.iH [iG<|qJ a b,bP true]:=
 iE (ae [.c<|Ll a b a1 a8 hl ha hb,.y 6 6 true 41 7<|jC<|(List.range 0).map λj_=>qi (a.getD j_ iw)<|b.getD j_ iw,.s (Sp.jP (UN a b) 0 a.length aC (λi hi mW=>by
    obtain⟨v1,v2⟩:=ha i aC;obtain⟨v3,v4⟩:=hb i aC;have v5:=ji i aC;have qB:=pJ<|qi (a.getD i iw)<|b.getD i iw;exact iS (ae [tT 17 ((i:Int)<a.length) aC,iX (i:Int)<|a.length,iX (i:Int)<|b.length,ag [iA<|a.getD i iw,iA<|b.getD i iw]<|aai _ _ v1 v3 v2 v4 v5,.o 35<|.e<|mn<|qi (a.getD i iw)<|b.getD i iw,.a (aC:(i+[qi (a.getD i iw)<|b.getD i iw].length)*88<=140737488355328),iL<|(i:Int)+1]<|.e<|af [.b 6 (zi rfl rfl rfl:Bx.le (.row true 41 (i+[qi (a.getD i iw)<|b.getD i iw].length) 7 λi_ j_=>if i_<i then(jC<|(List.range i).map λj_=>qi (a.getD j_ iw)<|b.getD j_ iw) i_ j_ else(E.ky<|iG [qi (a.getD i iw)<|b.getD i iw]) (i_-i) j_)<|.row true 41 (i+1) 7<|jC<|(List.range<|i+1).map λj_=>qi (a.getD j_ iw)<|b.getD j_ iw)]) aF)
  (λhi=>by
    exact iS (ae [tF 17 ((a.length:Int)<a.length) aC,.z 6]<|.e<|af [.o 6 (.e<|xj aH:aj (.sl true a.length 7<|jC<|(List.range a.length).map λj_=>qi (a.getD j_ iw)<|b.getD j_ iw)<|iG<|(List.range a.length).map λj_=>qi (a.getD j_ iw)<|b.getD j_ iw)]) aF) aI:jM 5 f213 (UN a b 0) (.exit 0) ⟨39,true,[(6,.e<|iG<|(List.range a.length).map λj_=>qi (a.getD j_ iw)<|b.getD j_ iw)],[]⟩) .nil]<|rR (.iH [iG<|qJ a b,bP true]) (.jq rfl:E.le (.iH [iG<|(List.range a.length).map λj_=>qi (a.getD j_ iw)<|b.getD j_ iw,bP true])<|.iH [iG<|qJ a b,bP true]))
def afl(N:Nat)(qd:N<a.length)(ji:∀ i,i<N->yo (a.getD i iw) (b.getD i iw)=true)(hN:yo (a.getD N iw) (b.getD N iw)=false):il 213 [iG a,iG b]<|.iH [.v<|.slice none 0 0,bP false]:=
 iE (af [.c<|Ll a b a1 a8 hl ha hb,.y 6 6 true 41 7<|jC<|(List.range 0).map λj_=>qi (a.getD j_ iw)<|b.getD j_ iw,.s (Sp.jP (UM a b N) 0 N aC (λi hi mW=>by
    obtain⟨v1,v2⟩:=ha i aC;obtain⟨v3,v4⟩:=hb i aC;have v5:=ji i aC;have qB:=pJ<|qi (a.getD i iw)<|b.getD i iw;exact iS (ae [tT 17 ((i:Int)<a.length) aC,iX (i:Int)<|a.length,iX (i:Int)<|b.length,ag [iA<|a.getD i iw,iA<|b.getD i iw]<|aai _ _ v1 v3 v2 v4 v5,.o 35<|.e<|mn<|qi (a.getD i iw)<|b.getD i iw,.a (aC:(i+[qi (a.getD i iw)<|b.getD i iw].length)*88<=140737488355328),iL<|(i:Int)+1]<|.e<|af [.b 6 (zi rfl rfl rfl:Bx.le (.row true 41 (i+[qi (a.getD i iw)<|b.getD i iw].length) 7 λi_ j_=>if i_<i then(jC<|(List.range i).map λj_=>qi (a.getD j_ iw)<|b.getD j_ iw) i_ j_ else(E.ky<|iG [qi (a.getD i iw)<|b.getD i iw]) (i_-i) j_)<|.row true 41 (i+1) 7<|jC<|(List.range<|i+1).map λj_=>qi (a.getD j_ iw)<|b.getD j_ iw)]) aF)
  (λhi=>by
    obtain⟨v1,v2⟩:=ha N aC;obtain⟨v3,v4⟩:=hb N aC;exact iS (af [tT 17 ((N:Int)<a.length) aC,iX (N:Int)<|a.length,iX (N:Int)<|b.length,ag [iA<|a.getD N iw,iA<|b.getD N iw]<|amZ _ _ v1 v3 v2 v4 hN]) aF) aI:jM 5 f213 (UM a b N 0) .ret ⟨39,true,[(5,.e<|bP false),(4,.e<|.v<|.slice none 0 0)],[]⟩) .nil])
def afk(hm:E5 a b=false):il 213 [iG a,iG b]<|.iH [.v<|.slice none 0 0,bP false]:=by
 obtain⟨i,hi,hn⟩:=at0.1 hm;obtain⟨N,h1,h2,h3⟩:=sx (p:=λi=>!(yo (a.getD i iw)<|b.getD i iw)) ⟨i,bN.1 hi,by simpa using hn⟩;exact afl a b a1 a8 hl ha hb N h1 (λi hi=>by simpa using h3 i hi)<|by simpa using h2
def UO(hm:E5 a b=true):il 213 [iG a,iG b]<|.iH [iG<|qJ a b,bP true]:=afm a b a1 a8 hl ha hb λi hi=>bO.1 hm i<|bN.2 hi
end
def RX{n:Nat}{a b:List Iv}(ha:lN n a)(hb:lN n b)(h:E5 a b=true):lN n<|qJ a b:=by
 refine⟨by simp[qJ,ha.len],λi hi=>?_⟩;have lg:i<a.length:=by simpa[qJ]using hi
 have e:(qJ a b).getD i iw=qi (a.getD i iw) (b.getD i iw):=tC lg;rw[e];obtain⟨x1,x2⟩:=ha.ok i lg;obtain⟨y1,y2⟩:=hb.ok i (by rw[hb.len,<-ha.len];exact lg);exact⟨aah x1 y1<|bO.1 h i<|bN.2 lg,rfl⟩
def Pa(b:List Iv)(b1:1<=b.length)(b8:b.length<=8)(hb:oW b)(k p:Nat)(iC:8<=p)(iu:p<=512)(hk:k<b.length):il 137 [iG b,iP k,iP p]<|.iH [iG<|GJ b k p,iG<|Ge b k p,iP 0]:=by
 obtain⟨w1,w2⟩:=hb k hk;exact iE<|ae [.c<|Im b aC aC hb,.c<|UQ (p:Int),ah 17 (kA (p:Int))<|oo.2 ⟨aC,aC⟩,tF 21 ((k:Int)<0) aC,tF 26 ((b.length:Int)<=k) aC,iX (k:Int)<|b.length,.c<|MI (b.getD k iw) p w1 w2 iC iu,.cn (Af _:zZ 135 [iG b] true 41 b.length 7<|jC b),.cn (Af _:zZ 135 [iG b] true 41 b.length 7<|jC b),iX (k:Int)<|b.length,.a (aC:k<b.length),iX (k:Int)<|b.length,.a (aC:k<b.length)]<|rR (.iH [iG<|GJ b k p,iG<|Ge b k p,iP 0]) (.iH<|.cons (alh (m:=lX (b.getD k iw) p) rfl)<|.cons (ali (m:=lX (b.getD k iw) p) rfl)<|.cons (.refl _) .nil:E.le (.iH [.sl true b.length 7 λi' j'=>if i'=k/\3<=j'/\j'<3+3 then[bP<|(lX (b.getD k iw) p).neg,iy<|im<|(lX (b.getD k iw) p).m,iP<|(lX (b.getD k iw) p).e].getD (j'-3) .any else(jC b) i' j',.sl true b.length 7 λi' j'=>if i'=k/\0<=j'/\j'<0+3 then[bP<|(lX (b.getD k iw) p).neg,iy<|im<|(lX (b.getD k iw) p).m,iP<|(lX (b.getD k iw) p).e].getD (j'-0) .any else(jC b) i' j',iP 0])<|.iH [iG<|GJ b k p,iG<|Ge b k p,iP 0])
def NL(a b:Dy)(w:Nat):Dy:=jd (jc a b) w false
def NM(a b:Dy)(w:Nat):Bool:=jI (jc a b) w false != 0
def Qm(w:Nat)(bad:Bool)(d:Dy)(e:Int):uk 345 252 [iP w,bP bad] [iP w,bP<|bad||(e != 0)] [iB d,iP e]<|iB d:=
 KN call345 func345 aF (λbL=>.w (bad=true)
  (λk1=>ae [tB 11 k1]<|.rm (Bx.le.jq<|by simp_all:Bx.le (.nN 252 bL [iP w,bP true])<|.nN 252 bL [iP w,bP<|bad||(e != 0)]) (.refl _:E.le (iB d)<|iB d))
  (λk1=>ae [tB 11<|bc k1]<|.rm (Bx.le.jq<|by simp_all:Bx.le (.nN 252 bL [iP w,bP<|e != 0])<|.nN 252 bL [iP w,bP<|bad||(e != 0)]) (.refl _:E.le (iB d)<|iB d))) (λbL=> aF)
section
variable(w:Nat)(bad:Bool)(a b:Dy)(ha:a.ix)(hb:b.ix)
def abL(b0:b.m≠0)(zf:8<=w)(ED:w<=512):uk 303 252 [iP w,bP bad] [iP w,bP<|bad||(oX a b w false != 0)] [iB a,iB b]<|iB<|nv a b w false:=
 KN call303 func303 aF (λbL=>ae [.c<|SL a b w aD aD aD aC aC,.cm (Qm _ _ _ _:uk 345 252 [iP w,bP bad] [iP w,bP<|bad||((oX a b w false) != 0)] [iB<|nv a b w false,iP<|oX a b w false]<|iB<|nv a b w false)]<|.rm (.jq rfl:Bx.le (.nN 252 bL [iP w,bP<|bad||((oX a b w false) != 0)])<|.nN 252 bL [iP w,bP<|bad||(oX a b w false != 0)]) (.refl _:E.le (iB<|nv a b w false)<|iB<|nv a b w false)) (λbL=> aF)
section
variable(zf:8<=w)(ED:w<=512)
def abM:uk 305 252 [iP w,bP bad] [iP w,bP<|bad||(wo a b w)] [iB a,iB b]<|iB<|sC a b w:=
 KN call305 func305 aF (λbL=>ae [.c<|Km a b w aD aD,.cm (Qm _ _ _ _:uk 345 252 [iP w,bP bad] [iP w,bP<|bad||((jI (mI a b) w false) != 0)] [iB<|jd (mI a b) w false,iP<|jI (mI a b) w false]<|iB<|jd (mI a b) w false)]<|.rm (.jq rfl:Bx.le (.nN 252 bL [iP w,bP<|bad||((jI (mI a b) w false) != 0)])<|.nN 252 bL [iP w,bP<|bad||(wo a b w)]) (.jq rfl:E.le (iB<|jd (mI a b) w false)<|iB<|sC a b w)) (λbL=> aF)
def apG:uk 346 252 [iP w,bP bad] [iP w,bP<|bad||(NM a b w)] [iB a,iB b]<|iB<|NL a b w:=
 KN call346 func346 aF (λbL=>ae [.c<|Ns a b w aD aD,.cm (Qm _ _ _ _:uk 345 252 [iP w,bP bad] [iP w,bP<|bad||((jI (jc a b) w false) != 0)] [iB<|jd (jc a b) w false,iP<|jI (jc a b) w false]<|iB<|jd (jc a b) w false)]<|.rm (.jq rfl:Bx.le (.nN 252 bL [iP w,bP<|bad||((jI (jc a b) w false) != 0)])<|.nN 252 bL [iP w,bP<|bad||(NM a b w)]) (.jq rfl:E.le (iB<|jd (jc a b) w false)<|iB<|NL a b w)) (λbL=> aF)
def abN:uk 304 252 [iP w,bP bad] [iP w,bP<|bad||(A5 a b w)] [iB a,iB b]<|iB<|Cj a b w:=by
 have hnb:=yx hb;exact KN call304 func304 aF (λbL=>ae [.c<|xL b aD,.cm (apG _ _ _ _ aD aD aC aC:uk 346 252 [iP w,bP bad] [iP w,bP<|bad||(NM a (ki b) w)] [iB a,iB<|ki b]<|iB<|NL a (ki b) w)]<|.rm (.jq rfl:Bx.le (.nN 252 bL [iP w,bP<|bad||(NM a (ki b) w)])<|.nN 252 bL [iP w,bP<|bad||(A5 a b w)]) (.jq rfl:E.le (iB<|NL a (ki b) w)<|iB<|Cj a b w)) λbL=> aF
end
end
def MU(p:Nat)(hp:p<=512:=by omega):il 299 [iP p]<|iP (sy p:Int):=
 iE (ae [iL<|(p:Int)+48]<|rQ (iP<|if 512<((p+48:Nat):Int)then 512 else((p+48:Nat):Int)) (iP (sy p:Int))<|congrArg iP<|by unfold sy;split<;>split<;>omega)
def Zy(m:List<|List Dy)(k:Nat):PS:=⟨19,true,[(8,.e<|iP k),(3,.own 16),(7,.e<|iP m.length),(6,.e<|mH m)],[(16,.iM true 219 37 k 3 (λ_=>m.length) (jF<|uW m) .none)]⟩
def adp{x i j:Nat}:E.le (if i=x/\0<=j/\j<0+3 then(kG<|jm 1).getD (j-0) .any else([.v<|.bool false,.v<|.slice none 0 0,.v<|.int .i64 0]:List E).getD j .any)<|(kG<|uh x i).getD j .any:=by
 unfold uh;by_cases h:i=x
 .rw [bk h];by_cases h3:j<3
  .rw [bk ⟨h,ck _,aC⟩];exact .refl _
  .rw [bj aC];rcases j with _|_|_|j
   .omega
   .omega
   .omega
   .exact .refl _
 .rw [bj h,bj λq=>h q.1];exact aho
def ZL(n:Nat)(k:Nat):PS:=⟨22,true,[(7,.e<|iP k),(3,.own 19),(6,.e<|iP n),(0,.e<|iP n)],[(19,.iM true 219 37 k 3 (λ_=>n) (jF uh) .none)]⟩
def ZJ(A:Nat->Nat->Dy)(n c:Nat)(k:Nat):PS:=⟨47,true,[(9,.e<|iP ((c+k:Nat):Int)),(8,.e<|iP (o9 A c c k:Int)),(0,.e<|.lJ false true n 1 λk_ _=>.lJ true true ((λ_=>n) k_) 3<|(jF A) k_),(2,.e<|iP c)],[]⟩
def amm(d:Dy)(hd:d.ix):il 343 [iB d]<|bP false:=
 iE (af [.c<|sj d aD])
def amn(l:List Dy)(n:Nat)(hl:l.length=n)(h8:n<=8)(hv:KV l):il 342 [na l,(.jK 1 λj_=>[iP n].getD j_ .any)]<|bP false:=
 iE (af [ai 7 ((l.length:Int) != (n:Int))<|bg<|by rw[hl],.c (PL true _ _ 343 [] (λ_=>false) (λi hi=>amm _<|hv i) aC λ_ _=>rfl:il 339 [na l,.fn 343 []] _)])
def MV(m:List<|List Dy)(hm:sS m):il 298 [mH m]<|bP true:=by
 have n1:=hm.n1;have n8:=hm.n8;exact iE<|af [tF 7 ((m.length:Int)<1) aC,tF 10 (8<(m.length:Int)) aC,.c (Wc true _ _ 342 _ (λ_=>false) (λi hi=>amn _ _ (hm.row i hi) hm.n8 λq=>hm.ok i q) (by have:=hm.n8;omega) λ_ _=>rfl:il 341 [mH m,.fn 342 [(.jK 1 λj_=>[iP m.length].getD j_ .any)]] _)]
def Vi(r:List Dy)(h0:0<r.length)(hl:r.length<=1000):zZ 344 [na r] true 37 r.length 3<|pr r:=
 trn call344 func344 (ae [.a (aC:0<r.length),.bo,.a (aC:(0+r.length)*40<=140737488355328)]<|.rb (UR rfl λi j hi hj=>⟨rfl,Bq _ _ hj⟩:Bx.le (.row true 37 (0+r.length) 3 λi_ j_=>if i_<0 then(λi_ j_=>([]:List E).getD (i_*3+j_)<|.v<|.bool false) i_ j_ else(E.ky<|na r) (i_-0) j_)<|.row true 37 r.length 3<|pr r)) aF 
def MS(m:List<|List Dy)(hm:sS m):yK 300 [mH m] true 219 37 m.length 3 (λ_=>m.length)<|jF<|uW m:=by
 have n1:=hm.n1;have n8:=hm.n8;have sV:=hm.row 0 aC;have hr3:(m.getD 0 []).length<=1000:= aC ;have hr4:0<(m.getD 0 []).length:= aC ;exact trr call300 func300 (ae [.u 70,tT 9 (0<(m.length:Int)) aC,iX 0<|m.length,.cn (Vi _ aV aV:zZ 344 [na<|m.getD 0 []] true 37 ((m.getD 0 []).length) 3<|pr<|m.getD 0 []),.a (aC:0<1),.a (aC:1*24<=140737488355328),
  iL (0+1),.s (Sp.jP (Zy m) 1 m.length aC (λk hk tO=>by
    have hrk:=hm.row k aC;have Ra:(m.getD k []).length<=1000:= aC ;have og:0<(m.getD k []).length:= aC ;exact iS (ae [tT 9 ((k:Int)<m.length) aC,iX (k:Int)<|m.length,.cn (Vi _ aV aV:zZ 344 [na<|m.getD k []] true 37 ((m.getD k []).length) 3<|pr<|m.getD k []),.a (aC:0<1),.a (aC:(k+1)*24<=140737488355328),iL<|(k:Int)+1]<|.e<|af [.b 16 (LF rfl rfl hrk (λ_ _ _ _=>.refl _):Bx.le (.iM true 219 37 (k+1) 3 (λk_=>if k_<k then(λ_=>m.length) k_ else(λ_=>(m.getD k []).length) (k_-k)) (λk_=>if k_<k then(jF<|uW m) k_ else(λ_=>pr<|m.getD k []) (k_-k)) .none)<|.iM true 219 37 (k+1) 3 (λ_=>m.length) (jF<|uW m) .none)]) aF)
  (λhk=>by
    exact iS (af [tF 9 ((m.length:Int)<m.length) aC]) aF) aI:jM 3 f300 (Zy m 1) (.exit 0) ⟨19,true,[(3,.own 16)],[(16,.iM true 219 37 m.length 3 (λ_=>m.length) (jF<|uW m) .none)]⟩)<|af [.o 8<|aq (0+1) 1 aO,.b 16 (VV rfl sV (λ_ _ _ _=>.refl _):Bx.le (.iM true 219 37 1 3 (λ_=>(m.getD 0 []).length) (λ_=>pr<|m.getD 0 []) .none)<|.iM true 219 37 1 3 (λ_=>m.length) (jF<|uW m) .none)]]<|.rb (.refl _:Bx.le (.iM true 219 37 m.length 3 (λ_=>m.length) (jF<|uW m) .none)<|.iM true 219 37 m.length 3 (λ_=>m.length) (jF<|uW m) .none)) aF 
def MW(n:Nat)(n1:1<=n:=by omega)(n8:n<=8:=by omega):yK 301 [iP (n:Int)] true 219 37 n 3 (λ_=>n)<|jF uh:=
 trr call301 func301 (ae [.u 70,tT 8 (0<(n:Int)) aC,.a (aC:0<=((n:Int):Int)/\((n:Int):Int)<=((n:Int):Int)),.a (aC:((40:Nat):Int)*(n:Int)<=281474976710656/\((n:Int):Int)<=9223372036854775807),.c<|rL 1,iX 0 n,.a (aC:0<n),.a (aC:0<1),.a (aC:1*24<=140737488355328),iL<|0+1,.s (Sp.jP (ZL n) 1 n aC (λk hk tO=>by
    exact iS (ae [tT 8 ((k:Int)<n) aC,.a (aC:0<=((n:Int):Int)/\((n:Int):Int)<=((n:Int):Int)),.a (aC:((40:Nat):Int)*(n:Int)<=281474976710656/\((n:Int):Int)<=9223372036854775807),.c<|rL 1,iX (k:Int) n,.a (aC:k<n),.a (aC:0<1),.a (aC:(k+1)*24<=140737488355328),iL<|(k:Int)+1]<|.e<|af [.b 19 (LF rfl rfl rfl (λ_ _ _ _=>adp):Bx.le (.iM true 219 37 (k+1) 3 (λk_=>if k_<k then(λ_=>n) k_ else(λ_=>n) (k_-k)) (λk_=>if k_<k then(jF uh) k_ else(λ_=>λi' j'=>if i'=k/\0<=j'/\j'<0+3 then[bP<|(jm 1).neg,iy<|im<|(jm 1).m,iP<|(jm 1).e].getD (j'-0) .any else(λ_ j_=>ar.getD j_ .any) i' j') (k_-k)) .none)<|.iM true 219 37 (k+1) 3 (λ_=>n) (jF uh) .none)]) aF)
  (λhk=>by
    exact iS (af [tF 8 ((n:Int)<n) aC]) aF) aI:jM 3 f301 (ZL n 1) (.exit 0) ⟨22,true,[(3,.own 19)],[(19,.iM true 219 37 n 3 (λ_=>n) (jF uh) .none)]⟩)<|af [.o 7<|aq (0+1) 1 aO,.b 19 (VV rfl rfl (λ_ _ _ _=>adp):Bx.le (.iM true 219 37 1 3 (λ_=>n) (λ_=>λi' j'=>if i'=0/\0<=j'/\j'<0+3 then[bP<|(jm 1).neg,iy<|im<|(jm 1).m,iP<|(jm 1).e].getD (j'-0) .any else(λ_ j_=>ar.getD j_ .any) i' j') .none)<|.iM true 219 37 1 3 (λ_=>n) (jF uh) .none)]]<|.rb (.refl _:Bx.le (.iM true 219 37 n 3 (λ_=>n) (jF uh) .none)<|.iM true 219 37 n 3 (λ_=>n) (jF uh) .none)) aF 
def ZK(A:Nat->Nat->Dy)(n c:Nat)(XC:c<n)(n8:n<=8)(hv:∀ k i,(A k i).ix):il 302 [(.lJ false true n 1 λk_ _=>.lJ true true ((λ_=>n) k_) 3<|(jF A) k_),iP c,iP c]<|.iH [iP (o9 A c c<|n-c:Int),bP<|(A (o9 A c c<|n-c) c).jL != 0]:=by
 obtain⟨q3,q4⟩:=Nn (A:=A) (col:=c) XC (n-c) aC;have v5:=hv (o9 A c c<|n-c) c;exact iE (ae [.s (Sp.jP (ZJ A n c) 0 (n-c) aC (λk hk tO=>by
    obtain⟨q1,q2⟩:=Nn (A:=A) (col:=c) XC k aC;have v1:=hv (c+k) c;have v2:=hv (o9 A c c k) c;have v3:=yN v1;have v4:=yN v2;exact iS (ae [tT 15 (((c+k:Nat):Int)<n) aC,iX ((c+k:Nat):Int) n,iX (c:Int) n,.c<|D1 (A (c+k) c) aD,
     iX (o9 A c c k:Int) n,iX (c:Int) n,.c<|D1 (A (o9 A c c k) c) aD,.c<|nE (mi<|A (c+k) c) (mi<|A (o9 A c c k) c) aD aD]<|.w (0<jN (mi<|A (c+k) c) (mi<|A (o9 A c c k) c))
     (λI4=>by
      have my:o9 A c c (k+1)=c+k:=by show(if _ then _ else _)=_;rw[bk I4]
      exact ae [tB 35<|bu I4,iL<|((c+k:Nat):Int)+1]<|.e<|af [.o 9<|aq (((c+k)+1:Nat):Int) ((c+(k+1):Nat):Int),.o 8<|aq ((c+k:Nat):Int) (o9 A c c<|k+1:Int)<|by rw[my]])
     (λI4=>by
      have my:o9 A c c (k+1)=o9 A c c k:=by show(if _ then _ else _)=_;rw[bj I4]
      exact ae [tB 35<|bn I4,iL<|((c+k:Nat):Int)+1]<|.e<|af [.o 9<|aq (((c+k)+1:Nat):Int) ((c+(k+1):Nat):Int),.o 8<|aq (o9 A c c k:Int) (o9 A c c<|k+1:Int)<|by rw[my]])) aF)
  (λhk=>by
    exact iS (af [tF 15 (((c+(n-c):Nat):Int)<n) aC]) aF) aI:jM 3 f302 (ZJ A n c 0) (.exit 0) ⟨47,true,[(8,.e<|iP (o9 A c c<|n-c:Int)),(0,.e<|.lJ false true n 1 λk_ _=>.lJ true true ((λ_=>n) k_) 3<|(jF A) k_),(2,.e<|iP c)],[]⟩)<|af [.o 9<|aq c ((c+0:Nat):Int) rfl,.o 8<|aq c (o9 A c c 0:Int) rfl],
  iX (o9 A c c<|n-c:Int) n,iX (c:Int) n,.c<|pP (A (o9 A c c<|n-c) c) aD]<|rR (.iH [iP (o9 A c c<|n-c:Int),bP<|(A (o9 A c c<|n-c) c).jL != 0]) (.refl _:E.le (.iH [iP (o9 A c c<|n-c:Int),bP<|(Dy.jL<|A (o9 A c c<|n-c) c) != 0])<|.iH [iP (o9 A c c<|n-c:Int),bP<|(A (o9 A c c<|n-c) c).jL != 0]))
section
variable{d:Dy}{p:Nat}(h0:jI d p false=0)(h1:jI d p true=0)
def J3:oR d p=0:=by
 unfold oR;rw[h0,h1];rfl
def M6(h2:¬Dm d p = -1)(h3:¬Dm d p=1):
 oG d p=if(jd d p true).m=0\/((jd d p false).m≠0/\(jd d p false).e<(jd d p true).e)then jd d p true else jd d p false:=by
 unfold oG;rw[J3 h0 h1,bj aE,bj h2,bj h3]
end
def oH(B:Nat->Nat->Dy)(p:Nat):Nat->Nat->Dy:=λk i=>oG (B k i) p
def aaR{B:Nat->Nat->Dy}{n p k i j:Nat}(hi:i<n):E.le (pr ((List.range n).map<|oH B p k) i j)<|(kG<|oH B p k i).getD j .any:=.jq (by
 show(kG<|((List.range n).map<|oH B p k).getD i iY).getD j .any=_;rw[D0 hi])
section
variable(B:Nat->Nat->Dy)
def ZE(n p:Nat)(k:Nat):PS:=⟨45,true,[(6,.own 6),(16,.e<|iP k),(15,.e<|iP n),(14,.e<|.lJ false true n 1 λk_ _=>.lJ true true ((λ_=>n) k_) 3<|(jF B) k_),(1,.e<|iP p)],[(6,.iM true 219 37 k 3 (λ_=>n) (jF<|oH B p) .none)]⟩
def ZF(n p k:Nat)(i:Nat):PS:=⟨45,true,[(9,.own 9),(22,.e<|iP i),(21,.e<|iP n),(20,.e<|.lJ true true ((λ_=>n) k) 3<|(jF B) k),(6,.own 6),(16,.e<|iP k),(15,.e<|iP n),(14,.e<|.lJ false true n 1 λk_ _=>.lJ true true ((λ_=>n) k_) 3<|(jF B) k_),(1,.e<|iP p)],[(9,.row true 37 i 3<|pr<|(List.range i).map<|oH B p k),(6,.iM true 219 37 k 3 (λ_=>n) (jF<|oH B p) .none)]⟩
def ZG(n p K I:Nat)(k:Nat):PS:=⟨45,true,[(6,.own 6),(16,.e<|iP k),(15,.e<|iP n),(14,.e<|.lJ false true n 1 λk_ _=>.lJ true true ((λ_=>n) k_) 3<|(jF B) k_),(1,.e<|iP p)],[(6,.iM true 219 37 k 3 (λ_=>n) (jF<|oH B p) .none)]⟩
def ZH(n p k:Nat)(i:Nat):PS:=⟨45,true,[(9,.own 9),(22,.e<|iP i),(21,.e<|iP n),(20,.e<|.lJ true true ((λ_=>n) k) 3<|(jF B) k),(6,.own 6),(16,.e<|iP k),(15,.e<|iP n),(14,.e<|.lJ false true n 1 λk_ _=>.lJ true true ((λ_=>n) k_) 3<|(jF B) k_),(1,.e<|iP p)],[(9,.row true 37 i 3<|pr<|(List.range i).map<|oH B p k),(6,.iM true 219 37 k 3 (λ_=>n) (jF<|oH B p) .none)]⟩
def ZI(n p K:Nat)(i:Nat):PS:=⟨45,true,[(9,.own 9),(22,.e<|iP i),(21,.e<|iP n),(20,.e<|.lJ true true ((λ_=>n) K) 3<|(jF B) K),(6,.own 6),(16,.e<|iP K),(15,.e<|iP n),(14,.e<|.lJ false true n 1 λk_ _=>.lJ true true ((λ_=>n) k_) 3<|(jF B) k_),(1,.e<|iP p)],[(9,.row true 37 i 3<|pr<|(List.range i).map<|oH B p K),(6,.iM true 219 37 K 3 (λ_=>n) (jF<|oH B p) .none)]⟩
end
def Nu(d:Dy)(p:Nat)(hd:d.ix)(iC:8<=p:=by omega)(iu:p<=512:=by omega):il 347 [iB d,iP p]<|.iH [iB<|oG d p,iP<|oR d p]:=by
 have w1:=rF d (aC:1<=p) (aC:p<=4096) false;have w2:=rF d (aC:1<=p) (aC:p<=4096) true;have w3:=Lv<|DY hd.canon (yx w1).canon;have w4:=Lv<|DY w2.canon (yx hd).canon;have w5:((im (jd d p true).m).length:Int)=0↔(jd d p true).m=0:=by
  rw[<-MO,<-apI];omega
 have w6:(0:Int)<((im (jd d p false).m).length:Int)↔(jd d p false).m≠0:=by
  rw[df,<-MO,<-apI];omega
 exact iE (ae [.c<|Ih d p aD]<|.w ((jI d p false)=0)
  (λk1=>ae [tB 20<|bg k1,.c<|Ii d p aD]<|.w ((jI d p true)=0)
   (λk2=>ae [tB 30<|bg k2,.c<|UE d (jd d p false) aD aD,.c<|UE (jd d p true) d aD aD,.c<|nE (nZ<|jc d<|ki<|jd d p false) (nZ<|jc (jd d p true)<|ki d) aD aD]<|.w ((jN (nZ<|jc d<|ki<|jd d p false)<|nZ<|jc (jd d p true)<|ki d)=(-1))
    (λk3=>ae [tB 49<|aZ k3]<|rQ (.iH [iB<|jd d p false,iP 0]) (.iH [iB<|oG d p,iP<|oR d p]) aU)
    (λk3=>ae [tB 49<|aY k3]<|.w ((jN (nZ<|jc d<|ki<|jd d p false)<|nZ<|jc (jd d p true)<|ki d)=1)
     (λk4=>ae [tB 52<|aZ k4]<|rQ (.iH [iB<|jd d p true,iP 0]) (.iH [iB<|oG d p,iP<|oR d p]) aU)
     (λk4=>ae [tB 52<|aY k4]<|.w (((im<|(jd d p true).m).length:Int)=0)
      (λk5=>ae [tB 57<|aZ k5]<|rQ (.iH [iB<|jd d p true,iP 0]) (.iH [iB<|oG d p,iP<|oR d p])<|by rw[M6 k1 k2 k3 k4,J3 k1 k2,bk<|.inl<|w5.1 k5])
      (λk5=>ae [tB 57<|aY k5]<|.w (0<((im<|(jd d p false).m).length:Int))
       (λk6=>ae [tB 62<|bu k6]<|.w (((jd d p false).e)<((jd d p true).e))
        (λk7=>ae [tB 68<|bu k7]<|rQ (.iH [iB<|jd d p true,iP 0]) (.iH [iB<|oG d p,iP<|oR d p])<|by rw[M6 k1 k2 k3 k4,J3 k1 k2,bk<|.inr ⟨w6.1 k6,k7⟩])
        (λk7=>ae [tB 68<|bn k7]<|rQ (.iH [iB<|jd d p false,iP 0]) (.iH [iB<|oG d p,iP<|oR d p])<|by rw[M6 k1 k2 k3 k4,J3 k1 k2,bj λq=>q.elim (λq=>k5<|w5.2 q) λq=>k7 q.2]))
       (λk6=>ae [tB 62<|bn k6]<|rQ (.iH [iB<|jd d p false,iP 0]) (.iH [iB<|oG d p,iP<|oR d p])<|by rw[M6 k1 k2 k3 k4,J3 k1 k2,bj λq=>q.elim (λq=>k5<|w5.2 q) λq=>k6<|w6.2 q.1])))))
   (λk2=>ae [tB 30<|bh k2,.o 31 (.e uQ:aj (.agg ar)<|iB iY)]<|rQ (.iH [iB iY,iP<|jI d p true]) (.iH [iB<|oG d p,iP<|oR d p]) aU))
  (λk1=>ae [tB 20<|bh k1,.o 21 (.e uQ:aj (.agg ar)<|iB iY)]<|rQ (.iH [iB iY,iP<|jI d p false]) (.iH [iB<|oG d p,iP<|oR d p]) aU))
section
variable(B:Nat->Nat->Dy)(n p:Nat)(n8:n<=8)(hv:∀ k i,(B k i).ix)(iC:8<=p)(iu:p<=512)
def aml(lP:∀ k,k<n->∀ i,i<n->oR (B k i) p=0):il 306 [(.lJ false true n 1 λk_ _=>.lJ true true ((λ_=>n) k_) 3<|(jF B) k_),iP p]<|.iH [mH<|AW B n p,bP true]:=
 iE (ae [.y 6 6 true 219 1 λ_ _=>.any,.s (Sp.jP (ZE B n p) 0 n aC (λk hk tO=>by
    exact iS (ae [tT 17 ((k:Int)<n) aC,iX (k:Int) n,.y 9 9 true 37 3<|pr<|(List.range 0).map<|oH B p k,.s (Sp.jP (ZF B n p k) 0 n aC (λi hi mW=>by
    have Jq:=hv k i;have qB:[oG (B k i) p].length=1:=rfl;exact iS (ae [tT 23 ((i:Int)<n) aC,iX (i:Int) n,ag [iB<|B k i,iP p]<|Nu _ _ aD,ai 33 ((oR (B k i) p) != 0)<|bg<|lP k aC i aC,.o 36<|.e<|CK<|oG (B k i) p,.a (aC:(i+[oG (B k i) p].length)*40<=140737488355328),
     iL ((i:Int)+1)]<|.e<|af [.b 9 (LM rfl rfl rfl:Bx.le (.row true 37 (i+[oG (B k i) p].length) 3 λi_ j_=>if i_<i then(pr<|(List.range i).map<|oH B p k) i_ j_ else(E.ky<|na [oG (B k i) p]) (i_-i) j_)<|.row true 37 (i+1) 3<|pr<|(List.range<|i+1).map<|oH B p k)]) aF)
  (λhi=>by
    exact iS (af [tF 23 ((n:Int)<n) aC]) aF) aI:jM 7 f306 (ZF B n p k 0) (.exit 2) ⟨45,true,[(9,.own 9),(6,.own 6),(16,.e<|iP k),(15,.e<|iP n),(14,.e<|.lJ false true n 1 λk_ _=>.lJ true true ((λ_=>n) k_) 3<|(jF B) k_),(1,.e<|iP p)],[(9,.row true 37 n 3<|pr<|(List.range n).map<|oH B p k),(6,.iM true 219 37 k 3 (λ_=>n) (jF<|oH B p) .none)]⟩) .nil,.a (aC:0<1),.a (aC:(k+1)*24<=140737488355328),iL<|(k:Int)+1]<|.e<|af [.b 6 (LF rfl rfl aH (λ_ _ hi _=>aaR hi):Bx.le (.iM true 219 37 (k+1) 3 (λk_=>if k_<k then(λ_=>n) k_ else(λ_=>n) (k_-k)) (λk_=>if k_<k then(jF<|oH B p) k_ else(λ_=>pr<|(List.range n).map<|oH B p k) (k_-k)) .none)<|.iM true 219 37 (k+1) 3 (λ_=>n) (jF<|oH B p) .none)]) aF)
  (λhk=>by
    exact iS (af [tF 17 ((n:Int)<n) aC,.z 6]) aF) aI:jM 3 f306 (ZE B n p 0) (.exit 0) ⟨45,true,[(6,.e<|.sl true n 1 λk_ _=>.sl true ((λ_=>n) k_) 3<|(jF<|oH B p) k_)],[]⟩)<|af [.b 6 (Bx.le.ab1:Bx.le (.row true 219 0 1 λ_ _=>.any)<|.iM true 219 37 0 3 (λ_=>n) (jF<|oH B p) .none)]]<|rR (.iH [mH<|AW B n p,bP true]) (.iH<|.cons (ahb (by unfold AW;simp) rfl)<|.cons (.refl _) .nil:E.le (.iH [(.sl true n 1 λk_ _=>.sl true ((λ_=>n) k_) 3<|(jF<|oH B p) k_),bP true])<|.iH [mH<|AW B n p,bP true]))
def amk(K I:Nat)(hK:K<n)(hI:I<n)(lP:∀ k,k<K->∀ i,i<n->oR (B k i) p=0)(nj:∀ i,i<I->oR (B K i) p=0)(pQ:oR (B K I) p≠0):il 306 [(.lJ false true n 1 λk_ _=>.lJ true true ((λ_=>n) k_) 3<|(jF B) k_),iP p]<|.iH [.v<|.slice none 0 0,bP false]:=
 iE (ae [.y 6 6 true 219 1 λ_ _=>.any,.s (Sp.jP (ZG B n p K I) 0 K aC (λk hk tO=>by
    exact iS (ae [tT 17 ((k:Int)<n) aC,iX (k:Int) n,.y 9 9 true 37 3<|pr<|(List.range 0).map<|oH B p k,.s (Sp.jP (ZH B n p k) 0 n aC (λi hi mW=>by
    have Jq:=hv k i;have qB:[oG (B k i) p].length=1:=rfl;exact iS (ae [tT 23 ((i:Int)<n) aC,iX (i:Int) n,ag [iB<|B k i,iP p]<|Nu _ _ aD,ai 33 ((oR (B k i) p) != 0)<|bg<|lP k aC i aC,.o 36<|.e<|CK<|oG (B k i) p,.a (aC:(i+[oG (B k i) p].length)*40<=140737488355328),
     iL ((i:Int)+1)]<|.e<|af [.b 9 (LM rfl rfl rfl:Bx.le (.row true 37 (i+[oG (B k i) p].length) 3 λi_ j_=>if i_<i then(pr<|(List.range i).map<|oH B p k) i_ j_ else(E.ky<|na [oG (B k i) p]) (i_-i) j_)<|.row true 37 (i+1) 3<|pr<|(List.range<|i+1).map<|oH B p k)]) aF)
  (λhi=>by
    exact iS (af [tF 23 ((n:Int)<n) aC]) aF) aI:jM 7 f306 (ZH B n p k 0) (.exit 2) ⟨45,true,[(9,.own 9),(6,.own 6),(16,.e<|iP k),(15,.e<|iP n),(14,.e<|.lJ false true n 1 λk_ _=>.lJ true true ((λ_=>n) k_) 3<|(jF B) k_),(1,.e<|iP p)],[(9,.row true 37 n 3<|pr<|(List.range n).map<|oH B p k),(6,.iM true 219 37 k 3 (λ_=>n) (jF<|oH B p) .none)]⟩) .nil,.a (aC:0<1),.a (aC:(k+1)*24<=140737488355328),iL<|(k:Int)+1]<|.e<|af [.b 6 (LF rfl rfl aH (λ_ _ hi _=>aaR hi):Bx.le (.iM true 219 37 (k+1) 3 (λk_=>if k_<k then(λ_=>n) k_ else(λ_=>n) (k_-k)) (λk_=>if k_<k then(jF<|oH B p) k_ else(λ_=>pr<|(List.range n).map<|oH B p k) (k_-k)) .none)<|.iM true 219 37 (k+1) 3 (λ_=>n) (jF<|oH B p) .none)]) aF)
  (λhk=>by
    exact iS (af [tT 17 ((K:Int)<n) aC,iX (K:Int) n,.y 9 9 true 37 3<|pr<|(List.range 0).map<|oH B p K,.s (Sp.jP (ZI B n p K) 0 I aC (λi hi mW=>by
    have Jq:=hv K i;have qB:[oG (B K i) p].length=1:=rfl;exact iS (ae [tT 23 ((i:Int)<n) aC,iX (i:Int) n,ag [iB<|B K i,iP p]<|Nu _ _ aD,ai 33 ((oR (B K i) p) != 0)<|bg<|nj i aC,.o 36<|.e<|CK<|oG (B K i) p,.a (aC:(i+[oG (B K i) p].length)*40<=140737488355328),iL<|(i:Int)+1]<|.e<|af [.b 9 (LM rfl rfl rfl:Bx.le (.row true 37 (i+[oG (B K i) p].length) 3 λi_ j_=>if i_<i then(pr<|(List.range i).map<|oH B p K) i_ j_ else(E.ky<|na [oG (B K i) p]) (i_-i) j_)<|.row true 37 (i+1) 3<|pr<|(List.range<|i+1).map<|oH B p K)]) aF)
  (λhi=>by
    have Jq:=hv K I;exact iS (af [tT 23 ((I:Int)<n) aC,iX (I:Int) n,ag [iB<|B K I,iP p]<|Nu _ _ aD,tB 33<|bh pQ]) aF) aI:jM 7 f306 (ZI B n p K 0) .ret ⟨45,true,[(5,.e<|bP false),(4,.e<|.v<|.slice none 0 0)],[]⟩) .nil]) aF) aI:jM 3 f306 (ZG B n p K I 0) .ret ⟨45,true,[(5,.e<|bP false),(4,.e<|.v<|.slice none 0 0)],[]⟩)<|af [.b 6 (Bx.le.ab1:Bx.le (.row true 219 0 1 λ_ _=>.any)<|.iM true 219 37 0 3 (λ_=>n) (jF<|oH B p) .none)]]<|rR (.iH [.v<|.slice none 0 0,bP false]) (.refl _:E.le (.iH [.v<|.slice none 0 0,bP false])<|.iH [.v<|.slice none 0 0,bP false]))
end
section
variable(m:List<|List Dy)
def kR(w c:Nat):pj:=yQ m.length w (AB m) c
def tW(w c:Nat):pj:=Tk m.length c<|kR m w c
def pG(w c k:Nat):pj:=Ak w c ((tW m w c).A c c) (tW m w c) k
def kT(w c i:Nat):pj:=DE m.length w c (pG m w c m.length) i
def kV(w c i k:Nat):pj:=ur w c i ((kT m w c i).A i c) (kT m w c i) k
def rX(w c:Nat):Nat:=o9 (kR m w c).A c c<|m.length-c
end
section
variable {m:List<|List Dy} {w:Nat} (hm:sS m) (h1:8<=w) (h2:w<=512)
include hm h1 h2
def Js(c:Nat):s8<|kR m w c:=Vf h1 h2 (akD hm.ok) _ c
def YS(c:Nat):s8<|tW m w c:=acV (Js hm h1 h2 c) _ _
def YC(c k:Nat):s8<|pG m w c k:=LI h1 h2 (YS hm h1 h2 c) _ _ _
def Rv(c i:Nat):s8<|kT m w c i:=NP h1 h2 (YC hm h1 h2 c _) _ _ _
def akA(c i k:Nat):s8<|kV m w c i k:=LO h1 h2 (Rv hm h1 h2 c i) _ _ _ _
end
section
variable{m:List<|List Dy}
def YP{w c i:Nat}(h:i=c\/((kT m w c i).A i c).jL=0):kT m w c (i+1)=kT m w c i:=by
 show(if i=c\/((kT m w c i).A i c).jL=0 then kT m w c i else kV m w c i m.length)=_;rw[bk h]
def akT{w c i:Nat}(h:¬i=c)(h2:¬((kT m w c i).A i c).jL=0):kT m w c (i+1)=kV m w c i m.length:=by
 show(if i=c\/((kT m w c i).A i c).jL=0 then kT m w c i else kV m w c i m.length)=_;rw[bj λq=>q.elim h h2]
def arT{w c:Nat}(h:((kR m w c).A (rX m w c) c).jL≠0):((tW m w c).A c c).m≠0:=by
 have e:(tW m w c).A c c=(kR m w c).A (rX m w c) c:=by
  show(kR m w c).A (pf c (rX m w c) c) c=_;unfold pf;simp
 rw[e];intro q;exact h<|by unfold Dy.jL;rw[bk q]
def aco{w c:Nat}(h:xz m.length c (kR m w c)=false):((kR m w c).A (rX m w c) c).jL≠0:=gl h
def aqG{w c:Nat}(h:xz m.length c (kR m w c)=true):((kR m w c).A (rX m w c) c).jL=0:=cL h
end
section
variable(m:List<|List Dy)
def B4(p w:Nat)(c:Nat):PS:=⟨212,true,[(37,.e<|iP c),(36,.e<|iP m.length),(9,.e<|bP false),(8,.own 34),(7,.own 31),(6,.box 29 0),(1,.e<|iP p)],[(34,.iM true 219 37 m.length 3 (λ_=>m.length) (jF<|(kR m w c).B) .none),(31,.iM true 219 37 m.length 3 (λ_=>m.length) (jF<|(kR m w c).A) .none),(29,.cells 252 [iP w,bP<|(kR m w c).bad])]⟩
def Zz(p w c:Nat)(k:Nat):PS:=⟨212,true,[(86,.e<|iP k),(85,.e<|iP m.length),(13,.box 13 0),(10,.e<|iP c),(37,.e<|iP c),(36,.e<|iP m.length),(9,.e<|bP false),(8,.own 34),(7,.own 31),(6,.box 29 0),(1,.e<|iP p)],[(13,.cells 37<|kG<|(tW m w c).A c c),(34,.iM true 219 37 m.length 3 (λ_=>m.length) (jF<|(pG m w c k).B) .none),(31,.iM true 219 37 m.length 3 (λ_=>m.length) (jF<|(pG m w c k).A) .none),(29,.cells 252 [iP w,bP<|(pG m w c k).bad])]⟩
def ZC(p w c:Nat)(i:Nat):PS:=⟨212,true,[(124,.e<|iP i),(123,.e<|iP m.length),(10,.e<|iP c),(37,.e<|iP c),(36,.e<|iP m.length),(9,.e<|bP false),(8,.own 34),(7,.own 31),(6,.box 29 0),(1,.e<|iP p)],[(34,.iM true 219 37 m.length 3 (λ_=>m.length) (jF<|(kT m w c i).B) .none),(31,.iM true 219 37 m.length 3 (λ_=>m.length) (jF<|(kT m w c i).A) .none),(29,.cells 252 [iP w,bP<|(kT m w c i).bad])]⟩
def ZA(p w c i:Nat)(k:Nat):PS:=⟨212,true,[(144,.e<|iP k),(143,.e<|iP m.length),(140,.e<|bP true),(139,.e<|iP<|Dy.jL<|((kT m w c i).A) i c),(138,.e<|iB<|((kT m w c i).A) i c),(16,.box 16 0),(15,.e<|iP i),(124,.e<|iP i),(123,.e<|iP m.length),(10,.e<|iP c),(37,.e<|iP c),(36,.e<|iP m.length),(9,.e<|bP false),(8,.own 34),(7,.own 31),(6,.box 29 0),(1,.e<|iP p)],[(16,.cells 37<|kG<|((kT m w c i).A) i c),(34,.iM true 219 37 m.length 3 (λ_=>m.length) (jF<|(kV m w c i k).B) .none),(31,.iM true 219 37 m.length 3 (λ_=>m.length) (jF<|(kV m w c i k).A) .none),(29,.cells 252 [iP w,bP<|(kV m w c i k).bad])]⟩
def ZB(p w:Nat)(c:Nat)(hm:sS m)(n1:1<=m.length)(n8:m.length<=8)(w1:8<=w)(w2:w<=512)(iN:c<m.length)(X7:xz m.length c (kR m w c)=false):Sp prog Tb (O9 7 f262) (B4 m p w c) λe_ υ_=>e_ = .normal/\υ_=(B4 m p w<|c+1):=by
    obtain⟨q1,q2⟩:=Nn (A:=(kR m w c).A) (col:=c) (aC:c<m.length) (m.length-c) aC;have hpv:rX m w c<m.length:=q1;exact iS (ae [tT 38 ((c:Int)<m.length) aC,.c<|ZK (kR m w c).A m.length c aC n8 (Js hm w1 w2 c).a,ah 46 (((kR m w c).A (rX m w c) c).jL != 0)<|bh<|aco X7,
     iX (rX m w c:Int) (m.length),.a (aC:(rX m w c)<m.length),iX (c:Int)<|m.length,.a (aC:c<m.length),iX (c:Int)<|m.length,.a (aC:c<m.length),.a (aC:(rX m w c)<m.length),iX (rX m w c:Int)<|m.length,.a (rfl:(rX m w c)=(rX m w c)),.a (rfl:c=c),iX (rX m w c:Int)<|m.length,.a (aC:(rX m w c)<m.length),iX (c:Int)<|m.length,.a (aC:c<m.length),iX (c:Int)<|m.length,.a (aC:c<m.length),.a (aC:(rX m w c)<m.length),
     iX (rX m w c:Int) (m.length),.a (rfl:(rX m w c)=(rX m w c)),.a (rfl:c=c),iX (c:Int)<|m.length,.a (aC:c<m.length),.a (aC:c<m.length),.a (aC:0<=((c:Int):Int)/\((c:Int):Int)<m.length),.a (aC:c<m.length),.a (aC:c<m.length),.s (Sp.jP (Zz m p w c) 0 m.length aC (λk hk tO=>by
    have hI:=YC hm w1 w2 c k;have v1:=hI.a c k;have v2:=hI.b c k;have v3:=(YS hm w1 w2 c).a c c;have v4:=arT<|aco X7;exact iS (ae [tT 87 ((k:Int)<m.length) aC,iX (c:Int)<|m.length,.a (aC:c<m.length),iX (c:Int)<|m.length,.a (aC:c<m.length),
     iX (c:Int) (m.length),.a (aC:c<m.length),.a (aC:c<m.length),.a (aC:0<=((k:Int):Int)/\((k:Int):Int)<m.length),.a (aC:c<m.length),.a (aC:k<m.length),.cm (abL _ _ _ _ aD aD aD aC aC:uk 303 252 [iP w,bP<|(pG m w c k).bad] [iP w,bP<|(pG m w c k).bad||(oX (((pG m w c k).A) c k) ((tW m w c).A c c) w false != 0)] [iB<|((pG m w c k).A) c k,iB<|(tW m w c).A c c]<|iB<|nv (((pG m w c k).A) c k) ((tW m w c).A c c) w false),
     iX (c:Int) (m.length),.a (aC:c<m.length),.a (aC:c<m.length),.a (aC:0<=((k:Int):Int)/\((k:Int):Int)<m.length),.a (aC:c<m.length),.a (aC:k<m.length),.cm (abL _ _ _ _ aD aD aD aC aC:uk 303 252 [iP w,bP<|(pG m w c k).bad||(oX (((pG m w c k).A) c k) ((tW m w c).A c c) w false != 0)] [iP w,bP<|((pG m w c k).bad||(oX (((pG m w c k).A) c k) ((tW m w c).A c c) w false != 0))||(oX (((pG m w c k).B) c k) ((tW m w c).A c c) w false != 0)] [iB<|((pG m w c k).B) c k,iB<|(tW m w c).A c c]<|iB<|nv (((pG m w c k).B) c k) ((tW m w c).A c c) w false),.a (aC:c<m.length),.a (aC:0<=((k:Int):Int)/\((k:Int):Int)<m.length),.a (aC:c<m.length),.a (aC:k<m.length),.a (aC:c<m.length),.a (aC:0<=((k:Int):Int)/\((k:Int):Int)<m.length),.a (aC:c<m.length),.a (aC:k<m.length),iL<|(k:Int)+1]<|.e<|af [.b 34 (LG rfl rfl rfl:Bx.le (.iM true 219 37 m.length 3 (λ_=>m.length) (λk' i' j'=>if k'=c/\i'=k/\0<=j'/\j'<0+3 then(kG<|nv (((pG m w c k).B) c k) ((tW m w c).A c c) w false).getD (j'-0) .any else(jF<|(pG m w c k).B) k' i' j') .none)<|.iM true 219 37 m.length 3 (λ_=>m.length) (jF<|(pG m w c<|k+1).B) .none),.b 31 (LG rfl rfl rfl:Bx.le (.iM true 219 37 m.length 3 (λ_=>m.length) (λk' i' j'=>if k'=c/\i'=k/\0<=j'/\j'<0+3 then(kG<|nv (((pG m w c k).A) c k) ((tW m w c).A c c) w false).getD (j'-0) .any else(jF<|(pG m w c k).A) k' i' j') .none)<|.iM true 219 37 m.length 3 (λ_=>m.length) (jF<|(pG m w c<|k+1).A) .none),.b 29<|.refl<|.cells 252 [iP w,bP<|(pG m w c<|k+1).bad]]) aF)
  (λhk=>by
    exact iS (af [tF 87 ((m.length:Int)<m.length) aC]) aF) aI:jM 16 f262 (Zz m p w c 0) (.exit 2) ⟨212,true,[(10,.e<|iP c),(37,.e<|iP c),(36,.e<|iP m.length),(9,.e<|bP false),(8,.own 34),(7,.own 31),(6,.box 29 0),(1,.e<|iP p)],[(34,.iM true 219 37 m.length 3 (λ_=>m.length) (jF<|(pG m w c m.length).B) .none),(31,.iM true 219 37 m.length 3 (λ_=>m.length) (jF<|(pG m w c m.length).A) .none),(29,.cells 252 [iP w,bP<|(pG m w c m.length).bad])]⟩)<|af [.b 13<|.refl<|.cells 37<|kG<|(tW m w c).A c c,.b 34 (VW rfl rfl:Bx.le (.iM true 219 37 m.length 3 (λ_=>m.length) (λq=>(jF<|(kR m w c).B)<|pf c (rX m w c) q) .none)<|.iM true 219 37 m.length 3 (λ_=>m.length) (jF<|(pG m w c 0).B) .none),.b 31 (VW rfl rfl:Bx.le (.iM true 219 37 m.length 3 (λ_=>m.length) (λq=>(jF<|(kR m w c).A)<|pf c (rX m w c) q) .none)<|.iM true 219 37 m.length 3 (λ_=>m.length) (jF<|(pG m w c 0).A) .none),.b 29<|.refl<|.cells 252 [iP w,bP<|(pG m w c 0).bad]],.s (Sp.jP (ZC m p w c) 0 m.length aC (λi hi mW=>by
    have v5:=(Rv hm w1 w2 c i).a i c;exact iS (ae [tT 125 ((i:Int)<m.length) aC,iX (i:Int)<|m.length,.a (aC:i<m.length),.a (aC:i<m.length),.a (aC:0<=((c:Int):Int)/\((c:Int):Int)<m.length),.a (aC:i<m.length),.a (aC:c<m.length)]<|.w (i=c)
     (λQW=>by
      have my:=YP (m:=m) (w:=w)<|.inl QW;exact ae [ai 136 ((i:Int) != (c:Int))<|bg aC,iL<|(i:Int)+1]<|.e<|af [.b 34 (.jq<|by rw[my]:Bx.le (.iM true 219 37 m.length 3 (λ_=>m.length) (jF<|(kT m w c i).B) .none)<|.iM true 219 37 m.length 3 (λ_=>m.length) (jF<|(kT m w c<|i+1).B) .none),.b 31 (.jq<|by rw[my]:Bx.le (.iM true 219 37 m.length 3 (λ_=>m.length) (jF<|(kT m w c i).A) .none)<|.iM true 219 37 m.length 3 (λ_=>m.length) (jF<|(kT m w c<|i+1).A) .none),.b 29 (.jq<|by rw[my]:Bx.le (.cells 252 [iP w,bP<|(kT m w c i).bad])<|.cells 252 [iP w,bP<|(kT m w c<|i+1).bad])])
     (λQW=>ae [ah 136 ((i:Int) != (c:Int))<|bh aC,.c<|pP (((kT m w c i).A) i c) aD]<|.w (((kT m w c i).A i c).jL=0)
      (λJj=>by
       have my:=YP (m:=m) (w:=w) (c:=c) (i:=i)<|.inr Jj;exact ae [tB 140<|bg Jj,iL<|(i:Int)+1]<|.e<|af [.b 34 (.jq<|by rw[my]:Bx.le (.iM true 219 37 m.length 3 (λ_=>m.length) (jF<|(kT m w c i).B) .none)<|.iM true 219 37 m.length 3 (λ_=>m.length) (jF<|(kT m w c<|i+1).B) .none),.b 31 (.jq<|by rw[my]:Bx.le (.iM true 219 37 m.length 3 (λ_=>m.length) (jF<|(kT m w c i).A) .none)<|.iM true 219 37 m.length 3 (λ_=>m.length) (jF<|(kT m w c<|i+1).A) .none),.b 29 (.jq<|by rw[my]:Bx.le (.cells 252 [iP w,bP<|(kT m w c i).bad])<|.cells 252 [iP w,bP<|(kT m w c<|i+1).bad])])
      (λJj=>by
       have my:=akT (m:=m) (w:=w) QW Jj;exact ae [tB 140<|bh Jj,.s (Sp.jP (ZA m p w c i) 0 m.length aC (λk hk tO=>by
    have hI:=akA hm w1 w2 c i k;have v1:=hI.a i k;have v2:=hI.a c k;have v3:=hI.b i k;have v4:=hI.b c k;have v5:=(Rv hm w1 w2 c i).a i c;have v6:=ab2 w1 w2 ((kT m w c i).A i c)<|(kV m w c i k).A c k;have v7:=ab2 w1 w2 ((kT m w c i).A i c)<|(kV m w c i k).B c k;exact iS (ae [tT 145 ((k:Int)<m.length) aC,iX (i:Int)<|m.length,.a (aC:i<m.length),iX (i:Int)<|m.length,.a (aC:i<m.length),.a (aC:i<m.length),.a (aC:0<=((k:Int):Int)/\((k:Int):Int)<m.length),.a (aC:i<m.length),.a (aC:k<m.length),iX (c:Int)<|m.length,.a (aC:c<m.length),.a (aC:c<m.length),.a (aC:0<=((k:Int):Int)/\((k:Int):Int)<m.length),.a (aC:c<m.length),.a (aC:k<m.length),.cm (abM _ _ _ _ aD aD aC aC:uk 305 252 [iP w,bP<|(kV m w c i k).bad] [iP w,bP<|(kV m w c i k).bad||(wo (((kT m w c i).A) i c) (((kV m w c i k).A) c k) w)] [iB<|((kT m w c i).A) i c,iB<|((kV m w c i k).A) c k]<|iB<|sC (((kT m w c i).A) i c) (((kV m w c i k).A) c k) w),.cm (abN _ _ _ _ aD aD aC aC:uk 304 252 [iP w,bP<|(kV m w c i k).bad||(wo (((kT m w c i).A) i c) (((kV m w c i k).A) c k) w)] [iP w,bP<|((kV m w c i k).bad||(wo (((kT m w c i).A) i c) (((kV m w c i k).A) c k) w))||(A5 (((kV m w c i k).A) i k) (sC (((kT m w c i).A) i c) (((kV m w c i k).A) c k) w) w)] [iB<|((kV m w c i k).A) i k,iB<|sC (((kT m w c i).A) i c) (((kV m w c i k).A) c k) w]<|iB<|Cj (((kV m w c i k).A) i k) (sC (((kT m w c i).A) i c) (((kV m w c i k).A) c k) w) w),.a (aC:i<m.length),.a (aC:0<=((k:Int):Int)/\((k:Int):Int)<m.length),.a (aC:i<m.length),.a (aC:k<m.length),iX (i:Int)<|m.length,.a (aC:i<m.length),iX (i:Int)<|m.length,.a (aC:i<m.length),.a (aC:i<m.length),.a (aC:0<=((k:Int):Int)/\((k:Int):Int)<m.length),.a (aC:i<m.length),.a (aC:k<m.length),iX (c:Int)<|m.length,.a (aC:c<m.length),.a (aC:c<m.length),.a (aC:0<=((k:Int):Int)/\((k:Int):Int)<m.length),.a (aC:c<m.length),.a (aC:k<m.length),.cm (abM _ _ _ _ aD aD aC aC:uk 305 252 [iP w,bP<|((kV m w c i k).bad||(wo (((kT m w c i).A) i c) (((kV m w c i k).A) c k) w))||(A5 (((kV m w c i k).A) i k) (sC (((kT m w c i).A) i c) (((kV m w c i k).A) c k) w) w)] [iP w,bP<|(((kV m w c i k).bad||(wo (((kT m w c i).A) i c) (((kV m w c i k).A) c k) w))||(A5 (((kV m w c i k).A) i k) (sC (((kT m w c i).A) i c) (((kV m w c i k).A) c k) w) w))||(wo (((kT m w c i).A) i c) (((kV m w c i k).B) c k) w)] [iB<|((kT m w c i).A) i c,iB<|((kV m w c i k).B) c k]<|iB<|sC (((kT m w c i).A) i c) (((kV m w c i k).B) c k) w),.cm (abN _ _ _ _ aD aD aC aC:uk 304 252 [iP w,bP<|(((kV m w c i k).bad||(wo (((kT m w c i).A) i c) (((kV m w c i k).A) c k) w))||(A5 (((kV m w c i k).A) i k) (sC (((kT m w c i).A) i c) (((kV m w c i k).A) c k) w) w))||(wo (((kT m w c i).A) i c) (((kV m w c i k).B) c k) w)] [iP w,bP<|((((kV m w c i k).bad||(wo (((kT m w c i).A) i c) (((kV m w c i k).A) c k) w))||(A5 (((kV m w c i k).A) i k) (sC (((kT m w c i).A) i c) (((kV m w c i k).A) c k) w) w))||(wo (((kT m w c i).A) i c) (((kV m w c i k).B) c k) w))||(A5 (((kV m w c i k).B) i k) (sC (((kT m w c i).A) i c) (((kV m w c i k).B) c k) w) w)] [iB<|((kV m w c i k).B) i k,iB<|sC (((kT m w c i).A) i c) (((kV m w c i k).B) c k) w]<|iB<|Cj (((kV m w c i k).B) i k) (sC (((kT m w c i).A) i c) (((kV m w c i k).B) c k) w) w),.a (aC:i<m.length),.a (aC:0<=((k:Int):Int)/\((k:Int):Int)<m.length),.a (aC:i<m.length),.a (aC:k<m.length),iL<|(k:Int)+1]<|.e<|af [.b 34 (LG rfl rfl rfl:Bx.le (.iM true 219 37 m.length 3 (λ_=>m.length) (λk' i' j'=>if k'=i/\i'=k/\0<=j'/\j'<0+3 then(kG<|Cj (((kV m w c i k).B) i k) (sC (((kT m w c i).A) i c) (((kV m w c i k).B) c k) w) w).getD (j'-0) .any else(jF<|(kV m w c i k).B) k' i' j') .none)<|.iM true 219 37 m.length 3 (λ_=>m.length) (jF<|(kV m w c i<|k+1).B) .none),.b 31 (LG rfl rfl rfl:Bx.le (.iM true 219 37 m.length 3 (λ_=>m.length) (λk' i' j'=>if k'=i/\i'=k/\0<=j'/\j'<0+3 then(kG<|Cj (((kV m w c i k).A) i k) (sC (((kT m w c i).A) i c) (((kV m w c i k).A) c k) w) w).getD (j'-0) .any else(jF<|(kV m w c i k).A) k' i' j') .none)<|.iM true 219 37 m.length 3 (λ_=>m.length) (jF<|(kV m w c i<|k+1).A) .none),.b 29<|.refl<|.cells 252 [iP w,bP<|(kV m w c i<|k+1).bad]]) aF)
  (λhk=>by
    exact iS (af [tF 145 ((m.length:Int)<m.length) aC]) aF) aI:jM 26 f262 (ZA m p w c i 0) (.exit 6) ⟨212,true,[(140,.e<|bP true),(139,.e<|iP<|Dy.jL<|((kT m w c i).A) i c),(138,.e<|iB<|((kT m w c i).A) i c),(124,.e<|iP i),(123,.e<|iP m.length),(10,.e<|iP c),(37,.e<|iP c),(36,.e<|iP m.length),(9,.e<|bP false),(8,.own 34),(7,.own 31),(6,.box 29 0),(1,.e<|iP p)],[(34,.iM true 219 37 m.length 3 (λ_=>m.length) (jF<|(kV m w c i m.length).B) .none),(31,.iM true 219 37 m.length 3 (λ_=>m.length) (jF<|(kV m w c i m.length).A) .none),(29,.cells 252 [iP w,bP<|(kV m w c i m.length).bad])]⟩)<|af [.b 34<|.refl<|.iM true 219 37 m.length 3 (λ_=>m.length) (jF<|(kV m w c i 0).B) .none,.b 31<|.refl<|.iM true 219 37 m.length 3 (λ_=>m.length) (jF<|(kV m w c i 0).A) .none,.b 29<|.refl<|.cells 252 [iP w,bP<|(kV m w c i 0).bad]],
        iL ((i:Int)+1)]<|.e<|af [.b 34 (.jq<|by rw[my]:Bx.le (.iM true 219 37 m.length 3 (λ_=>m.length) (jF<|(kV m w c i m.length).B) .none)<|.iM true 219 37 m.length 3 (λ_=>m.length) (jF<|(kT m w c<|i+1).B) .none),.b 31 (.jq<|by rw[my]:Bx.le (.iM true 219 37 m.length 3 (λ_=>m.length) (jF<|(kV m w c i m.length).A) .none)<|.iM true 219 37 m.length 3 (λ_=>m.length) (jF<|(kT m w c<|i+1).A) .none),.b 29 (.jq<|by rw[my]:Bx.le (.cells 252 [iP w,bP<|(kV m w c i m.length).bad])<|.cells 252 [iP w,bP<|(kT m w c<|i+1).bad])]))) aF)
  (λhi=>by
    exact iS (af [tF 125 ((m.length:Int)<m.length) aC]) aF) aI:jM 21 f262 (ZC m p w c 0) (.exit 4) ⟨212,true,[(37,.e<|iP c),(36,.e<|iP m.length),(9,.e<|bP false),(8,.own 34),(7,.own 31),(6,.box 29 0),(1,.e<|iP p)],[(34,.iM true 219 37 m.length 3 (λ_=>m.length) (jF<|(kT m w c m.length).B) .none),(31,.iM true 219 37 m.length 3 (λ_=>m.length) (jF<|(kT m w c m.length).A) .none),(29,.cells 252 [iP w,bP<|(kT m w c m.length).bad])]⟩)<|af [.b 34<|.refl<|.iM true 219 37 m.length 3 (λ_=>m.length) (jF<|(kT m w c 0).B) .none,.b 31<|.refl<|.iM true 219 37 m.length 3 (λ_=>m.length) (jF<|(kT m w c 0).A) .none,.b 29<|.refl<|.cells 252 [iP w,bP<|(kT m w c 0).bad]],
     iL ((c:Int)+1)]<|.e<|af [.b 34<|.refl<|.iM true 219 37 m.length 3 (λ_=>m.length) (jF<|(kR m w<|c+1).B) .none,.b 31<|.refl<|.iM true 219 37 m.length 3 (λ_=>m.length) (jF<|(kR m w<|c+1).A) .none,.b 29<|.refl<|.cells 252 [iP w,bP<|(kR m w<|c+1).bad]]) aF 
def RQ(p w:Nat)(hm:sS m)(n1:1<=m.length)(n8:m.length<=8)(w1:8<=w)(w2:w<=512)(vU:∀ c,c<m.length->xz m.length c (kR m w c)=false):jM 7 f262 (B4 m p w 0) (.exit 0) ⟨212,true,[(9,.e<|bP false),(8,.own 34),(6,.box 29 0),(1,.e<|iP p)],[(34,.iM true 219 37 m.length 3 (λ_=>m.length) (jF<|(kR m w m.length).B) .none),(29,.cells 252 [iP w,bP<|(kR m w m.length).bad])]⟩:=
  Sp.jP (B4 m p w) 0 m.length aC (λc hc XV=>by
    exact ZB m p w c hm n1 n8 w1 w2 aC<|vU c aC)
  (λhc=>by
    exact iS (af [tF 38 ((m.length:Int)<m.length) aC]) aF) aI 
end
def an9:Option (List<|List Dy)->E
 |none=>.iH [.v<|.slice none 0 0,bP false]
 |some m=>.iH [mH m,bP true]
def anx{A:Nat->Nat->Dy}{n p:Nat}(h:¬M7 A n p=true):∃ K I,K<n/\I<n/\(∀ k,k<K->∀ i,i<n->oR (A k i) p=0)/\(∀ i,i<I->oR (A K i) p=0)/\oR (A K I) p≠0:=by
 have hx:∃ K,K<n/\(!(List.range n).all λi=>decide (oR (A K i) p=0))=true:=ca λhc=>h (by
  unfold M7;rw[bO];intro k hk;refine ca λq=>hc ⟨k,bN.1 hk,?_⟩
  rw[du,Bool.eq_false_iff];exact q)
 obtain⟨K,h1,h2,h3⟩:=sx hx;have hy:∃ I,I<n/\decide (oR (A K I) p≠0)=true:=ca λhc=>by
  rw[du,Bool.eq_false_iff]at h2;refine h2<|bO.2 λi hi=>bu ?_;exact ca λq=>hc ⟨i,bN.1 hi,bu q⟩
 obtain⟨I,k1,k2,k3⟩:=sx hy;refine⟨K,I,h1,k1,λk hk i hi=>?_,λi hi=>?_,cL k2⟩
 .have:=h3 k hk;rw[atr,bO]at this;exact cL<|this i<|bN.2 hi
 .have:=k3 i hi;exact ca λq=>by rw[bu q]at this;cases this
section
variable(m:List<|List Dy)(hm:sS m)(p:Nat)(iC:8<=p)(iu:p<=512)
section
variable(w:Nat)(hw:sy p=w)(w1:8<=w)(w2:w<=512)
def ami(N:Nat)(hN:N<m.length)(vU:∀ c,c<N->xz m.length c (kR m w c)=false)(pQ:xz m.length N (kR m w N)=true):il 262 [mH m,iP p]<|.iH [.v<|.slice none 0 0,bP false]:=by
 have n1:=hm.n1;have n8:=hm.n8;exact iE (ae [.c<|JH (p:Int),ah 19 (kA (p:Int))<|oo.2 ⟨aC,aC⟩,.c<|MV m aD,ag [iP p]<|hw▸MU _,.cr (MS _ hm:yK 300 [mH m] true 219 37 m.length 3 (λ_=>m.length)<|jF<|uW m),.cr (MW _:yK 301 [iP m.length] true 219 37 m.length 3 (λ_=>m.length)<|jF uh),.s (Sp.jP (B4 m p w) 0 N aC (λc hc XV=>by
    exact ZB m p w c hm n1 n8 w1 w2 aC<|vU c aC)
  (λhc=>by
    exact iS (af [tT 38 ((N:Int)<m.length) aC,.c<|ZK (kR m w N).A m.length N aC n8 (Js hm w1 w2 N).a,ai 46 (((kR m w N).A (rX m w N) N).jL != 0)<|bg<|aqG pQ]) aF) aI:jM 7 f262 (B4 m p w 0) (.exit 0) ⟨212,true,[(9,.e<|bP true),(8,.own 34),(6,.box 29 0),(1,.e<|iP p)],[(34,.iM true 219 37 m.length 3 (λ_=>m.length) (jF<|(kR m w N).B) .none),(29,.cells 252 [iP w,bP<|(kR m w N).bad])]⟩)<|af [.b 34<|.refl<|.iM true 219 37 m.length 3 (λ_=>m.length) (jF<|(kR m w 0).B) .none,.b 31<|.refl<|.iM true 219 37 m.length 3 (λ_=>m.length) (jF<|(kR m w 0).A) .none,.b 29<|.refl<|.cells 252 [iP w,bP<|(kR m w 0).bad]]]<|rR (.iH [.v<|.slice none 0 0,bP false]) (.refl _:E.le (.iH [.v<|.slice none 0 0,bP false])<|.iH [.v<|.slice none 0 0,bP false]))
section
variable(vU:∀ c,c<m.length->xz m.length c (kR m w c)=false)
def amg(hb:(kR m w m.length).bad=true):il 262 [mH m,iP p]<|.iH [.v<|.slice none 0 0,bP false]:=by
 have n1:=hm.n1;have n8:=hm.n8;exact iE<|ae [.c<|JH (p:Int),ah 19 (kA (p:Int))<|oo.2 ⟨aC,aC⟩,.c<|MV m aD,ag [iP p]<|hw▸MU _,.cr (MS _ hm:yK 300 [mH m] true 219 37 m.length 3 (λ_=>m.length)<|jF<|uW m),.cr (MW _:yK 301 [iP m.length] true 219 37 m.length 3 (λ_=>m.length)<|jF uh),.s (RQ m p w hm n1 n8 w1 w2 vU:jM 7 f262 (B4 m p w 0) (.exit 0) ⟨212,true,[(9,.e<|bP false),(8,.own 34),(6,.box 29 0),(1,.e<|iP p)],[(34,.iM true 219 37 m.length 3 (λ_=>m.length) (jF<|(kR m w m.length).B) .none),(29,.cells 252 [iP w,bP<|(kR m w m.length).bad])]⟩)<|af [.b 34<|.refl<|.iM true 219 37 m.length 3 (λ_=>m.length) (jF<|(kR m w 0).B) .none,.b 31<|.refl<|.iM true 219 37 m.length 3 (λ_=>m.length) (jF<|(kR m w 0).A) .none,.b 29<|.refl<|.cells 252 [iP w,bP<|(kR m w 0).bad]],ah 205 ((kR m w m.length).bad) hb]<|rR (.iH [.v<|.slice none 0 0,bP false]) (.refl _:E.le (.iH [.v<|.slice none 0 0,bP false])<|.iH [.v<|.slice none 0 0,bP false])
section
variable(hb:(kR m w m.length).bad=false)
def amh(K I:Nat)(hK:K<m.length)(hI:I<m.length)(lP:∀ k,k<K->∀ i,i<m.length->oR ((kR m w m.length).B k i) p=0)(nj:∀ i,i<I->oR ((kR m w m.length).B K i) p=0)(pQ:oR ((kR m w m.length).B K I) p≠0):il 262 [mH m,iP p]<|.iH [.v<|.slice none 0 0,bP false]:=by
 have n1:=hm.n1;have n8:=hm.n8;exact iE<|ae [.c<|JH (p:Int),ah 19 (kA (p:Int))<|oo.2 ⟨aC,aC⟩,.c<|MV m aD,ag [iP p]<|hw▸MU _,.cr (MS _ hm:yK 300 [mH m] true 219 37 m.length 3 (λ_=>m.length)<|jF<|uW m),.cr (MW _:yK 301 [iP m.length] true 219 37 m.length 3 (λ_=>m.length)<|jF uh),.s (RQ m p w hm n1 n8 w1 w2 vU:jM 7 f262 (B4 m p w 0) (.exit 0) ⟨212,true,[(9,.e<|bP false),(8,.own 34),(6,.box 29 0),(1,.e<|iP p)],[(34,.iM true 219 37 m.length 3 (λ_=>m.length) (jF<|(kR m w m.length).B) .none),(29,.cells 252 [iP w,bP<|(kR m w m.length).bad])]⟩)<|af [.b 34<|.refl<|.iM true 219 37 m.length 3 (λ_=>m.length) (jF<|(kR m w 0).B) .none,.b 31<|.refl<|.iM true 219 37 m.length 3 (λ_=>m.length) (jF<|(kR m w 0).A) .none,.b 29<|.refl<|.cells 252 [iP w,bP<|(kR m w 0).bad]],ai 205 ((kR m w m.length).bad) hb,.c<|amk (kR m w m.length).B m.length p n8 (Js hm w1 w2 _).b iC iu K I hK hI lP nj pQ]<|rR (.iH [.v<|.slice none 0 0,bP false]) (.refl _:E.le (.iH [.v<|.slice none 0 0,bP false])<|.iH [.v<|.slice none 0 0,bP false])
def amj(lP:∀ k,k<m.length->∀ i,i<m.length->oR ((kR m w m.length).B k i) p=0):il 262 [mH m,iP p]<|.iH [mH<|AW (kR m w m.length).B m.length p,bP true]:=by
 have n1:=hm.n1;have n8:=hm.n8;exact iE<|ae [.c<|JH (p:Int),ah 19 (kA (p:Int))<|oo.2 ⟨aC,aC⟩,.c<|MV m aD,ag [iP p]<|hw▸MU _,.cr (MS _ hm:yK 300 [mH m] true 219 37 m.length 3 (λ_=>m.length)<|jF<|uW m),.cr (MW _:yK 301 [iP m.length] true 219 37 m.length 3 (λ_=>m.length)<|jF uh),.s (RQ m p w hm n1 n8 w1 w2 vU:jM 7 f262 (B4 m p w 0) (.exit 0) ⟨212,true,[(9,.e<|bP false),(8,.own 34),(6,.box 29 0),(1,.e<|iP p)],[(34,.iM true 219 37 m.length 3 (λ_=>m.length) (jF<|(kR m w m.length).B) .none),(29,.cells 252 [iP w,bP<|(kR m w m.length).bad])]⟩)<|af [.b 34<|.refl<|.iM true 219 37 m.length 3 (λ_=>m.length) (jF<|(kR m w 0).B) .none,.b 31<|.refl<|.iM true 219 37 m.length 3 (λ_=>m.length) (jF<|(kR m w 0).A) .none,.b 29<|.refl<|.cells 252 [iP w,bP<|(kR m w 0).bad]],ai 205 ((kR m w m.length).bad) hb,.c<|aml (kR m w m.length).B m.length p n8 (Js hm w1 w2 _).b iC iu lP]<|rR (.iH [mH<|AW (kR m w m.length).B m.length p,bP true]) (.refl _:E.le (.iH [mH<|AW (kR m w m.length).B m.length p,bP true])<|.iH [mH<|AW (kR m w m.length).B m.length p,bP true])
end
end
end
def ZD:il 262 [mH m,iP p]<|an9<|xf m m.length p:=by
 obtain⟨w1,w2⟩:=amX iC iu;by_cases hs:∃ c,c<m.length/\xz m.length c (kR m (sy p) c)=true
 .obtain ⟨N,q1,q2,q3⟩:=sx hs;have e:xf m m.length p=none:=bk<|dE.2 ⟨N,bN.2 q1,q2⟩;rw[e];exact ami m hm p iC iu _ rfl w1 w2 N q1 q3 q2
 .have vU:∀ c,c<m.length->xz m.length c (kR m (sy p) c)=false:=λc hc=>bc λq=>hs ⟨c,hc,q⟩
  have e0:((List.range m.length).any λc=>xz m.length c<|yQ m.length (sy p) (AB m) c)=false:=cI.2 λc hc=>by
   have:=vU c<|bN.1 hc;unfold kR at this;rw[this];decide
  unfold xf;rw[e0,bj aE];by_cases hb:(kR m (sy p) m.length).bad=true
  .rw [show(yQ m.length (sy p) (AB m) m.length).bad=true from hb,bk rfl];exact amg m hm p iC iu _ rfl w1 w2 vU hb
  .have hb:=bc hb;rw[show(yQ m.length (sy p) (AB m) m.length).bad=false from hb,bj aE];by_cases ho:M7 (yQ m.length (sy p) (AB m) m.length).B m.length p=true
   .rw [bk ho];refine amj m hm p iC iu _ rfl w1 w2 vU hb λk hk i hi=>?_
    have:=bO.1 ho k<|bN.2 hk;exact cL<|bO.1 this i<|bN.2 hi
   .rw [bj ho];obtain⟨K,I,g1,g2,g3,g4,g5⟩:=anx ho;exact amh m hm p iC iu _ rfl w1 w2 vU hb K I g1 g2 g3 g4 g5
end
abbrev sd(a:List<|List Iv)(b:List<|List Iv)(p):=λi j=>nD (λq=>(a.getD i []).getD q iw) (λq=>(b.getD q []).getD j iw) p<|(a.getD i []).length-1
abbrev TD(a:List<|List Iv)(x)(b:List<|List Iv)(k)(p):=nD (λq=>(a.getD x []).getD q iw) (λq=>(b.getD q []).getD k iw) p<|(a.getD x []).length-1
def V0(r:List Iv)(g:FuncId)(cap:List E)(Y:Nat->Iv)(p:Nat)(c:Nat):PS:=⟨35,true,[(8,.e<|iP ((c+1:Nat):Int)),(7,.box 7 0),(6,.box 6 0),(0,.e<|iG r),(1,.e<|.fn g cap),(2,.e<|iP p)],[(7,.cells 41<|jS<|nD (λq=>r.getD q iw) Y p c),(6,.cells 41 au)]⟩
section
variable(a b:List<|List Iv)(p:Nat)(x:Nat)
def aam:PS:=⟨66,true,[(37,.e<|iP x),(36,.e<|iP a.length),(8,.own 34),(4,.box 4 0),(0,.e<|j9 a),(2,.e<|iP p)],[(34,.iM true 23 41 a.length 7 (jJ<|jl a.length (λ_=>(b.getD 0 []).length) (sd a b p) x 0) (kK<|jl a.length (λ_=>(b.getD 0 []).length) (sd a b p) x 0) .none),(4,.cells 49 [j9 b])]⟩
def aan(k:Nat):PS:=⟨66,true,[(44,.e<|iP k),(43,.e<|iP ((b.getD 0 []).length:Int)),(9,.e<|iP x),(37,.e<|iP x),(36,.e<|iP a.length),(8,.own 34),(4,.box 4 0),(0,.e<|j9 a),(2,.e<|iP p)],[(34,.iM true 23 41 a.length 7 (jJ<|jl a.length (λ_=>(b.getD 0 []).length) (sd a b p) x k) (kK<|jl a.length (λ_=>(b.getD 0 []).length) (sd a b p) x k) .none),(4,.cells 49 [j9 b])]⟩
end
def V1(r:List Iv)(g:FuncId)(cap:List E)(Y:Nat->Iv)(p:Nat)(hl:r.length<=1000)(h0:0<r.length)(hr:∀ i,i<r.length->(r.getD i iw).ix)(hy:∀ i,(Y i).ix)(hg:∀ i,i<r.length->il g (iP (i:Int)::cap) (iA<|Y i))(iC:8<=p)(iu:p<=512):il 165 [iG r,.fn g cap,iP p]<|iA<|nD (λq=>r.getD q iw) Y p<|r.length-1:=by
 have w1:=hr 0 h0;have w2:=hy 0;exact iE (af [iX 0<|r.length,.c (hg 0 aC:il g ((iP 0)::cap) _),.c<|vY (r.getD 0 iw) (Y 0) p aD aD,.s (Sp.jP (V0 r g cap Y p) 0 (r.length-1) aC (λc hc XV=>by
    have w1:=hr (c+1) aC;have w2:=hy<|c+1;have w3:=PF (λq=>r.getD q iw) Y (aC:1<=p) aC c;have w4:=pI (r.getD (c+1) iw) (Y<|c+1) (aC:1<=p);exact iS (ae [tT 19 (((c+1:Nat):Int)<r.length) aC,iX ((c+1:Nat):Int)<|r.length,.c (hg (c+1) aC:il g ((iP ((c+1:Nat):Int))::cap) _),.c<|vY (r.getD (c+1) iw) (Y<|c+1) p aD aD,.c<|BW (nD (λq=>r.getD q iw) Y p c) (kf (r.getD (c+1) iw) (Y<|c+1) p) p aD aD,iL<|((c+1:Nat):Int)+1]<|.e<|af [.b 7<|.refl<|.cells 41<|jS<|nD (λq=>r.getD q iw) Y p<|c+1]) aF)
  (λhc=>by
    exact iS (af [tF 19 ((((r.length-1)+1:Nat):Int)<r.length) aC]) aF) aI:jM 3 f165 (V0 r g cap Y p 0) (.exit 0) ⟨35,true,[(7,.box 7 0),(6,.box 6 0)],[(7,.cells 41<|jS<|nD (λq=>r.getD q iw) Y p<|r.length-1),(6,.cells 41 au)]⟩)<|af [.o 8<|aq 1 ((0+1:Nat):Int) aO,.b 7<|.refl<|.cells 41<|jS<|nD (λq=>r.getD q iw) Y p 0]])
def am0(q j:Nat)(b:List<|List Iv)(hq:q<b.length)(hj:j<(b.getD q []).length):il 166 [iP q,(.jK 1 λj_=>[j9 b].getD j_ .any),(.jK 1 λj_=>[iP j].getD j_ .any)]<|iA<|(b.getD q []).getD j iw:=
 iE (af [iX (q:Int)<|b.length,iX (j:Int)<|(b.getD q []).length])
def amF(a b:List<|List Iv)(p:Nat)(n k c:Nat)(ga:nJ a n k)(gb:nJ b k c)(iC:8<=p)(iu:p<=512):il 97 [j9 a,j9 b,iP p]<|.iH [j9<|AS a b p,iP 0]:=by
 have ra:=ga.iM;have rb:=gb.iM;have n1:=ga.n1;have n8:=ga.n8;have kk1:=ga.k1;have kk8:=ga.k8;have cc8:=gb.k8;have la:=ga.qV (aC:0<n);have lb:=gb.qV (aC:0<k);have ew:rI a.length (λ_=>(b.getD 0 []).length) (λi j=>nD (λq=>(a.getD i []).getD q iw) (λq=>(b.getD q []).getD j iw) p<|(a.getD i []).length-1)=AS a b p:=by
  rw[<-asA (n:=n) (k:=k-1) (c:=c) (a:=a) (b:=b) (p:=p) ra (λi hi=>by rw[ga.qV hi];omega) aC lb,ra,lb];unfold rI;apply dQ;intro i hi;have e:=ga.qV<|bN.1 hi;simp only[e]
 exact iE (ae [.c<|E3 a _ _ aD,.c<|E3 b _ _ aD,.c<|M4 (p:Int),ah 22 (kA (p:Int))<|oo.2 ⟨aC,aC⟩,iX 0<|a.length,ai 31 (((a.getD 0 []).length:Int) != (b.length:Int))<|s5,.a (aC:0<=((a.length:Int):Int)/\((a.length:Int):Int)<=((a.length:Int):Int)),.a (aC:((24:Nat):Int)*(a.length:Int)<=281474976710656/\((a.length:Int):Int)<=9223372036854775807),.s (Sp.jP (aam a b p) 0 a.length aC (λx hx mX=>by
    have lax:=ga.qV (aC:x<n);exact iS (ae [tT 38 ((x:Int)<a.length) aC,iX 0<|b.length,.s (Sp.jP (aan a b p x) 0 ((b.getD 0 []).length) aC (λk hk tO=>by
    have hle:jJ (jl a.length (λ_=>(b.getD 0 []).length) (λi j=>nD (λq=>(a.getD i []).getD q iw) (λq=>(b.getD q []).getD j iw) p<|(a.getD i []).length-1) x k) x=k:=MT ;have h1:=pJ<|nD (λq=>(a.getD x []).getD q iw) (λq=>(b.getD q []).getD k iw) p<|(a.getD x []).length-1;exact iS (ae [tT 45 ((k:Int)<((b.getD 0 []).length:Int)) aC,iX (x:Int)<|a.length,.a (aC:x<a.length),iX (x:Int)<|a.length,.c (V1 _ 166 _ (λq=>(b.getD q []).getD k iw) p aC aC (λq hq=>ga.A9 aC<|by rw[lax]at hq;exact hq) (λq=>elV gb q k) (λq hq=>am0 q k b aC<|by rw[gb.qV aC];omega) aC aC:il 165 [iG<|a.getD x [],.fn 166 [(.jK 1 λj_=>[j9 b].getD j_ .any),(.jK 1 λj_=>[iP k].getD j_ .any)],iP p] _),.o 60<|.e<|mn<|TD a x b k p,.a (aC:x<a.length),.a (aC:((jJ<|jl a.length (λ_=>(b.getD 0 []).length) (λi j=>nD (λq=>(a.getD i []).getD q iw) (λq=>(b.getD q []).getD j iw) p<|(a.getD i []).length-1) x k) x+[nD (λq=>(a.getD x []).getD q iw) (λq=>(b.getD q []).getD k iw) p<|(a.getD x []).length-1].length)*88<=140737488355328),
     iX (x:Int) (a.length),.a (rfl:x=x),.a (rfl:x=x),.a (aC:x<a.length),iL<|(k:Int)+1]<|.e<|af [.b 34 (Ku rfl aC aC rfl:Bx.le (.iM true 23 41 a.length 7 (λq=>if q=x then(jJ<|jl a.length (λ_=>(b.getD 0 []).length) (sd a b p) x k) q+[TD a x b k p].length else(jJ<|jl a.length (λ_=>(b.getD 0 []).length) (sd a b p) x k) q) (λq i j=>if q=x then(if i<(jJ<|jl a.length (λ_=>(b.getD 0 []).length) (sd a b p) x k) q then(kK<|jl a.length (λ_=>(b.getD 0 []).length) (sd a b p) x k) q i j else(E.ky<|iG [TD a x b k p]) (i-(jJ<|jl a.length (λ_=>(b.getD 0 []).length) (sd a b p) x k) q) j)else(kK<|jl a.length (λ_=>(b.getD 0 []).length) (sd a b p) x k) q i j) .none)<|.iM true 23 41 a.length 7 (jJ<|jl a.length (λ_=>(b.getD 0 []).length) (sd a b p) x<|k+1) (kK<|jl a.length (λ_=>(b.getD 0 []).length) (sd a b p) x<|k+1) .none)]) aF)
  (λhk=>by
    exact iS (af [tF 45 (((b.getD 0 []).length:Int)<((b.getD 0 []).length:Int)) aC]) aF) aI:jM 12 Tryz.f97 (aan a b p x 0) (.exit 3) ⟨66,true,[(37,.e<|iP x),(36,.e<|iP a.length),(8,.own 34),(4,.box 4 0),(0,.e<|j9 a),(2,.e<|iP p)],[(34,.iM true 23 41 a.length 7 (jJ<|jl a.length (λ_=>(b.getD 0 []).length) (sd a b p) x<|(b.getD 0 []).length) (kK<|jl a.length (λ_=>(b.getD 0 []).length) (sd a b p) x<|(b.getD 0 []).length) .none),(4,.cells 49 [j9 b])]⟩) .nil,
     iL ((x:Int)+1)]<|.e<|af [.b 34 (NK rfl:Bx.le (.iM true 23 41 a.length 7 (jJ<|jl a.length (λ_=>(b.getD 0 []).length) (sd a b p) x<|(b.getD 0 []).length) (kK<|jl a.length (λ_=>(b.getD 0 []).length) (sd a b p) x<|(b.getD 0 []).length) .none)<|.iM true 23 41 a.length 7 (jJ<|jl a.length (λ_=>(b.getD 0 []).length) (sd a b p) (x+1) 0) (kK<|jl a.length (λ_=>(b.getD 0 []).length) (sd a b p) (x+1) 0) .none)]) aF)
  (λhx=>by
    exact iS (af [tF 38 ((a.length:Int)<a.length) aC]) aF) aI:jM 9 Tryz.f97 (aam a b p 0) (.exit 1) ⟨66,true,[(8,.own 34)],[(34,.iM true 23 41 a.length 7 (jJ<|jl a.length (λ_=>(b.getD 0 []).length) (sd a b p) a.length 0) (kK<|jl a.length (λ_=>(b.getD 0 []).length) (sd a b p) a.length 0) .none)]⟩)<|af [.b 34 (NJ rfl:Bx.le (.iM true 23 41 a.length 7 (λ_=>0) (λ_ _ _=>.any) .none)<|.iM true 23 41 a.length 7 (jJ<|jl a.length (λ_=>(b.getD 0 []).length) (sd a b p) 0 0) (kK<|jl a.length (λ_=>(b.getD 0 []).length) (sd a b p) 0 0) .none)]]<|rR (.iH [j9<|AS a b p,iP 0]) (by
      rw[<-ew,<-Lm];exact .iH (.cons (JQ (Ln _ _ _ _ _).symm)<|.cons (.refl _) .nil):E.le (.iH [(.sl true a.length 1 λk_ _=>.sl true ((jJ<|jl a.length (λ_=>(b.getD 0 []).length) (λi j=>nD (λq=>(a.getD i []).getD q iw) (λq=>(b.getD q []).getD j iw) p<|(a.getD i []).length-1) a.length 0) k_) 7<|(kK<|jl a.length (λ_=>(b.getD 0 []).length) (λi j=>nD (λq=>(a.getD i []).getD q iw) (λq=>(b.getD q []).getD j iw) p<|(a.getD i []).length-1) a.length 0) k_),iP 0])<|.iH [j9<|AS a b p,iP 0]))
def Dp(y:List<|List Dy):List<|List Iv:=rI y.length (λq=>(y.getD q []).length) λi j=>jx<|(y.getD i []).getD j iY
def tZ(m:List<|List Iv)(p:Nat):List<|List Dy:=vK m.length (λq=>(m.getD q []).length) λi j=>lX ((m.getD i []).getD j iw) p
def KC(a b:List<|List Iv)(p:Nat):List<|List Iv:=rI a.length (λq=>(a.getD q []).length) λi j=>nn ((a.getD i []).getD j iw) ((b.getD i []).getD j iw) p
def xH(a:List<|List Iv)(x:List Iv)(p:Nat):List Iv:=(List.range a.length).map λi=>nD (λq=>(a.getD i []).getD q iw) (λq=>x.getD q iw) p<|(a.getD i []).length-1
def TG{n:Nat}{c:Nat->Nat}{F:Nat->Nat->Iv}{k:Nat}(n1:1<=n)(n8:n<=8)(k1:1<=k)(k8:k<=8)(hc:∀ i,i<n->c i=k)(hF:∀ i j,i<n->j<k->(F i j).ix):nJ (rI n c F) n k:=by
 refine⟨by simp[rI],λr hr=>?_,λr hr x hx=>?_,n1,n8,k1,k8⟩
 .unfold rI at hr;obtain⟨i,hi,rfl⟩:=cP.1 hr;simp[hc i<|bN.1 hi]
 .unfold rI at hr;obtain⟨i,hi,rfl⟩:=cP.1 hr;obtain⟨j,hj,rfl⟩:=cP.1 hx;have h1:=bN.1 hi;have h2:=bN.1 hj;rw[hc i h1]at h2;exact hF i j h1 h2
def aa2{y:List<|List Dy}(h:sS y):nJ (Dp y) y.length y.length:=TG h.n1 h.n8 h.n1 h.n8 h.row λi j _ _=>tz<|h.ok i j
def aq8{a b:List<|List Iv}{n k p:Nat}(ga:nJ a n k)(gb:nJ b n k)(h1:1<=p)(h2:p<=4096):nJ (KC a b p) n k:=by
 unfold KC;rw[ga.iM];exact TG ga.n1 ga.n8 ga.k1 ga.k8 (λi hi=>ga.qV hi) λi j hi hj=>pN (ga.A9 hi hj) (xr<|gb.A9 hi hj) h1 h2
def ahn{n:Nat}{c:Nat->Nat}{F:Nat->Nat->Dy}{i j:Nat}(hi:i<n)(hj:j<c i):((vK n c F).getD i []).getD j iY=F i j:=by
 rw[PH hi,D0 hj]
def Z7{m:List<|List Iv}{n p:Nat}(g:nJ m n n):sS<|tZ m p:=by
 have hl:(tZ m p).length=n:=by rw[<-g.iM];simp[tZ,vK]
 refine⟨by rw[hl];exact g.n1,by rw[hl];exact g.n8,λk hk=>?_,λk i=>?_⟩
 .rw [hl]at hk ⊢;unfold tZ;rw[PH<|by rw[g.iM];exact hk];simp only[cG,dV];exact g.qV hk
 .unfold uW tZ;by_cases hk:k<m.length
  .by_cases hi:i<(m.getD k []).length
   .rw [ahn hk hi];exact GL (g.A9 (by rw[<-g.iM];exact hk)<|by rw[<-g.qV (i:=k) (by rw[<-g.iM];exact hk)];exact hi) p
   .rw [PH hk,bt,bW<|by simpa using Nat.not_lt.1 hi];exact ph
  .rw [bt (l:=vK _ _ _),bW<|by simpa[vK]using Nat.not_lt.1 hk];exact ph
def Z6(m:List<|List Iv)(p:Nat):(tZ m p).length=m.length:=by simp[tZ,vK]
def OV(a:List<|List Iv)(x:List Iv)(p:Nat):(xH a x p).length=a.length:=by simp[xH]
section
variable{a:List<|List Iv}{x:List Iv}{p i:Nat}
def aei(h:i<a.length):(xH a x p).getD i iw=nD (λq=>(a.getD i []).getD q iw) (λq=>x.getD q iw) p ((a.getD i []).length-1):=by
 unfold xH;rw[tC h]
def K7(h1:1<=p)(h2:p<=4096):((xH a x p).getD i iw).ix:=by
 by_cases h:i<a.length
 .rw [aei h];exact PF _ _ h1 h2 _
 .rw [bt,bW<|by rw[OV];omega];exact ln
end
section
variable(m:List<|List Dy)(g:FuncId)(cap:List E)(F:Nat->Nat->Iv)(x:Nat)
def VD:PS:=⟨44,true,[(15,.e<|iP x),(14,.e<|iP m.length),(13,.e<|mH m),(5,.own 12),(1,.e<|.fn g cap)],[(12,.iM true 23 41 m.length 7 (jJ<|jl m.length (λq=>(m.getD q []).length) F x 0) (kK<|jl m.length (λq=>(m.getD q []).length) F x 0) .none)]⟩
def VE(k:Nat):PS:=⟨44,true,[(22,.e<|iP k),(21,.e<|iP ((m.getD x []).length:Int)),(20,.e<|na<|m.getD x []),(6,.e<|iP x),(15,.e<|iP x),(14,.e<|iP m.length),(13,.e<|mH m),(5,.own 12),(1,.e<|.fn g cap)],[(12,.iM true 23 41 m.length 7 (jJ<|jl m.length (λq=>(m.getD q []).length) F x k) (kK<|jl m.length (λq=>(m.getD q []).length) F x k) .none)]⟩
end
section
variable(m:List<|List Iv)(g:FuncId)(cap:List E)(F:Nat->Nat->Dy)(x:Nat)
def YE:PS:=⟨44,true,[(15,.e<|iP x),(14,.e<|iP m.length),(13,.e<|j9 m),(5,.own 12),(1,.e<|.fn g cap)],[(12,.iM true 219 37 m.length 3 (oO<|lO m.length (λq=>(m.getD q []).length) F x 0) (si<|lO m.length (λq=>(m.getD q []).length) F x 0) .none)]⟩
def YF(k:Nat):PS:=⟨44,true,[(22,.e<|iP k),(21,.e<|iP ((m.getD x []).length:Int)),(20,.e<|iG<|m.getD x []),(6,.e<|iP x),(15,.e<|iP x),(14,.e<|iP m.length),(13,.e<|j9 m),(5,.own 12),(1,.e<|.fn g cap)],[(12,.iM true 219 37 m.length 3 (oO<|lO m.length (λq=>(m.getD q []).length) F x k) (si<|lO m.length (λq=>(m.getD q []).length) F x k) .none)]⟩
end
def ahi{m:List<|List Dy}(hm:sS m)(i:Nat):(m.getD i []).length<=1000:=by
 have n8:=hm.n8;by_cases h:i<m.length
 .rw [hm.row i h];omega
 .rw [bt,bW aC];simp
def aar(a:List<|List Iv)(x:List Iv)(p:Nat)(i:Nat):PS:=⟨46,true,[(8,.own 8),(33,.e<|iP i),(32,.e<|iP a.length),(31,.e<|j9 a),(4,.box 4 0),(2,.e<|iP p)],[(8,.row true 41 i 7<|jC<|(List.range i).map λi=>nD (λq=>(a.getD i []).getD q iw) (λq=>x.getD q iw) p<|(a.getD i []).length-1),(4,.cells 23 [iG x])]⟩
def aha(m:List<|List Dy)(g:FuncId)(cap:List E)(F:Nat->Nat->Iv)(hl:m.length<=1000)(hr:∀ i,(m.getD i []).length<=1000)(hf:∀ i j,i<m.length->j<(m.getD i []).length->il g (iP (i:Int)::iP (j:Int)::iB ((m.getD i []).getD j iY)::cap) (iA<|F i j)):il 312 [mH m,.fn g cap]<|j9<|rI m.length (λq=>(m.getD q []).length) F:=
 iE (ae [.a (aC:0<=((m.length:Int):Int)/\((m.length:Int):Int)<=((m.length:Int):Int)),.a (aC:((24:Nat):Int)*(m.length:Int)<=281474976710656/\((m.length:Int):Int)<=9223372036854775807),.s (Sp.jP (VD m g cap F) 0 m.length aC (λx hx mX=>by
    have sY:=hr x;exact iS (ae [tT 16 ((x:Int)<m.length) aC,iX (x:Int)<|m.length,.s (Sp.jP (VE m g cap F x) 0 ((m.getD x []).length) aC (λk hk tO=>by
    have sY:=hr x;have hle:jJ (jl m.length (λq=>(m.getD q []).length) F x k) x=k:=MT ;have h1:=pJ<|F x k;exact iS (ae [tT 23 ((k:Int)<((m.getD x []).length:Int)) aC,iX (k:Int)<|(m.getD x []).length,iX (x:Int)<|m.length,.a (aC:x<m.length),.c (hf x k aC aC:il g ((iP x)::(iP k)::(iB<|(m.getD x []).getD k iY)::cap) _),.o 38<|.e<|mn<|F x k,.a (aC:x<m.length),.a (aC:((jJ<|jl m.length (λq=>(m.getD q []).length) F x k) x+[F x k].length)*88<=140737488355328),iX (x:Int)<|m.length,.a (rfl:x=x),.a (rfl:x=x),.a (aC:x<m.length),
     iL ((k:Int)+1)]<|.e<|af [.b 12 (Ku rfl aC aC rfl:Bx.le (.iM true 23 41 m.length 7 (λq=>if q=x then(jJ<|jl m.length (λq=>(m.getD q []).length) F x k) q+[F x k].length else(jJ<|jl m.length (λq=>(m.getD q []).length) F x k) q) (λq i j=>if q=x then(if i<(jJ<|jl m.length (λq=>(m.getD q []).length) F x k) q then(kK<|jl m.length (λq=>(m.getD q []).length) F x k) q i j else(E.ky<|iG [F x k]) (i-(jJ<|jl m.length (λq=>(m.getD q []).length) F x k) q) j)else(kK<|jl m.length (λq=>(m.getD q []).length) F x k) q i j) .none)<|.iM true 23 41 m.length 7 (jJ<|jl m.length (λq=>(m.getD q []).length) F x<|k+1) (kK<|jl m.length (λq=>(m.getD q []).length) F x<|k+1) .none)]) aF)
  (λhk=>by
    exact iS (af [tF 23 (((m.getD x []).length:Int)<((m.getD x []).length:Int)) aC]) aF) aI:jM 6 f312 (VE m g cap F x 0) (.exit 2) ⟨44,true,[(15,.e<|iP x),(14,.e<|iP m.length),(13,.e<|mH m),(5,.own 12),(1,.e<|.fn g cap)],[(12,.iM true 23 41 m.length 7 (jJ<|jl m.length (λq=>(m.getD q []).length) F x<|(m.getD x []).length) (kK<|jl m.length (λq=>(m.getD q []).length) F x<|(m.getD x []).length) .none)]⟩) .nil,
     iL ((x:Int)+1)]<|.e<|af [.b 12 (NK rfl:Bx.le (.iM true 23 41 m.length 7 (jJ<|jl m.length (λq=>(m.getD q []).length) F x<|(m.getD x []).length) (kK<|jl m.length (λq=>(m.getD q []).length) F x<|(m.getD x []).length) .none)<|.iM true 23 41 m.length 7 (jJ<|jl m.length (λq=>(m.getD q []).length) F (x+1) 0) (kK<|jl m.length (λq=>(m.getD q []).length) F (x+1) 0) .none)]) aF)
  (λhx=>by
    exact iS (af [tF 16 ((m.length:Int)<m.length) aC]) aF) aI:jM 3 f312 (VD m g cap F 0) (.exit 0) ⟨44,true,[(5,.own 12)],[(12,.iM true 23 41 m.length 7 (jJ<|jl m.length (λq=>(m.getD q []).length) F m.length 0) (kK<|jl m.length (λq=>(m.getD q []).length) F m.length 0) .none)]⟩)<|af [.b 12 (NJ rfl:Bx.le (.iM true 23 41 m.length 7 (λ_=>0) (λ_ _ _=>.any) .none)<|.iM true 23 41 m.length 7 (jJ<|jl m.length (λq=>(m.getD q []).length) F 0 0) (kK<|jl m.length (λq=>(m.getD q []).length) F 0 0) .none)]]<|rR (j9<|rI m.length (λq=>(m.getD q []).length) F) (by
      rw[<-Lm];exact JQ (Ln _ _ _ _ _).symm:E.le (.sl true m.length 1 λk_ _=>.sl true ((jJ<|jl m.length (λq=>(m.getD q []).length) F m.length 0) k_) 7<|(kK<|jl m.length (λq=>(m.getD q []).length) F m.length 0) k_)<|j9<|rI m.length (λq=>(m.getD q []).length) F))
def akB(m:List<|List Iv)(g:FuncId)(cap:List E)(F:Nat->Nat->Dy)(hl:m.length<=1000)(hr:∀ i,(m.getD i []).length<=1000)(hf:∀ i j,i<m.length->j<(m.getD i []).length->il g (iP (i:Int)::iP (j:Int)::iA ((m.getD i []).getD j iw)::cap) (iB<|F i j)):il 309 [j9 m,.fn g cap]<|mH<|vK m.length (λq=>(m.getD q []).length) F:=
 iE (ae [.a (aC:0<=((m.length:Int):Int)/\((m.length:Int):Int)<=((m.length:Int):Int)),.a (aC:((24:Nat):Int)*(m.length:Int)<=281474976710656/\((m.length:Int):Int)<=9223372036854775807),.s (Sp.jP (YE m g cap F) 0 m.length aC (λx hx mX=>by
    have sY:=hr x;exact iS (ae [tT 16 ((x:Int)<m.length) aC,iX (x:Int)<|m.length,.s (Sp.jP (YF m g cap F x) 0 ((m.getD x []).length) aC (λk hk tO=>by
    have sY:=hr x;have hle:oO (lO m.length (λq=>(m.getD q []).length) F x k) x=k:=ag9 aC ;have h1:=pJ<|F x k;exact iS (ae [tT 23 ((k:Int)<((m.getD x []).length:Int)) aC,iX (k:Int)<|(m.getD x []).length,iX (x:Int)<|m.length,.a (aC:x<m.length),.c (hf x k aC aC:il g ((iP x)::(iP k)::(iA<|(m.getD x []).getD k iw)::cap) _),.o 38<|.e<|CK<|F x k,.a (aC:x<m.length),.a (aC:((oO<|lO m.length (λq=>(m.getD q []).length) F x k) x+[F x k].length)*40<=140737488355328),iX (x:Int)<|m.length,.a (rfl:x=x),.a (rfl:x=x),.a (aC:x<m.length),
     iL ((k:Int)+1)]<|.e<|af [.b 12 (ahl rfl aC aC rfl:Bx.le (.iM true 219 37 m.length 3 (λq=>if q=x then(oO<|lO m.length (λq=>(m.getD q []).length) F x k) q+[F x k].length else(oO<|lO m.length (λq=>(m.getD q []).length) F x k) q) (λq i j=>if q=x then(if i<(oO<|lO m.length (λq=>(m.getD q []).length) F x k) q then(si<|lO m.length (λq=>(m.getD q []).length) F x k) q i j else(E.ky<|na [F x k]) (i-(oO<|lO m.length (λq=>(m.getD q []).length) F x k) q) j)else(si<|lO m.length (λq=>(m.getD q []).length) F x k) q i j) .none)<|.iM true 219 37 m.length 3 (oO<|lO m.length (λq=>(m.getD q []).length) F x<|k+1) (si<|lO m.length (λq=>(m.getD q []).length) F x<|k+1) .none)]) aF)
  (λhk=>by
    exact iS (af [tF 23 (((m.getD x []).length:Int)<((m.getD x []).length:Int)) aC]) aF) aI:jM 6 f309 (YF m g cap F x 0) (.exit 2) ⟨44,true,[(15,.e<|iP x),(14,.e<|iP m.length),(13,.e<|j9 m),(5,.own 12),(1,.e<|.fn g cap)],[(12,.iM true 219 37 m.length 3 (oO<|lO m.length (λq=>(m.getD q []).length) F x<|(m.getD x []).length) (si<|lO m.length (λq=>(m.getD q []).length) F x<|(m.getD x []).length) .none)]⟩) .nil,
     iL ((x:Int)+1)]<|.e<|af [.b 12 (ahk rfl:Bx.le (.iM true 219 37 m.length 3 (oO<|lO m.length (λq=>(m.getD q []).length) F x<|(m.getD x []).length) (si<|lO m.length (λq=>(m.getD q []).length) F x<|(m.getD x []).length) .none)<|.iM true 219 37 m.length 3 (oO<|lO m.length (λq=>(m.getD q []).length) F (x+1) 0) (si<|lO m.length (λq=>(m.getD q []).length) F (x+1) 0) .none)]) aF)
  (λhx=>by
    exact iS (af [tF 16 ((m.length:Int)<m.length) aC]) aF) aI:jM 3 f309 (YE m g cap F 0) (.exit 0) ⟨44,true,[(5,.own 12)],[(12,.iM true 219 37 m.length 3 (oO<|lO m.length (λq=>(m.getD q []).length) F m.length 0) (si<|lO m.length (λq=>(m.getD q []).length) F m.length 0) .none)]⟩)<|af [.b 12 (ahj rfl:Bx.le (.iM true 219 37 m.length 3 (λ_=>0) (λ_ _ _=>.any) .none)<|.iM true 219 37 m.length 3 (oO<|lO m.length (λq=>(m.getD q []).length) F 0 0) (si<|lO m.length (λq=>(m.getD q []).length) F 0 0) .none)]]<|rR (mH<|vK m.length (λq=>(m.getD q []).length) F) (ahc:E.le (.sl true m.length 1 λk_ _=>.sl true ((oO<|lO m.length (λq=>(m.getD q []).length) F m.length 0) k_) 3<|(si<|lO m.length (λq=>(m.getD q []).length) F m.length 0) k_)<|mH<|vK m.length (λq=>(m.getD q []).length) F))
def agE(d:Dy)(hd:d.ix):il 349 [iB d,(.jK 1 λj_=>[.fn 60 []].getD j_ .any)]<|bP false:=
 iE (af [.c<|sj d aD])
def agF(l:List Dy)(m:List<|List Dy)(hm:sS m)(hl:l.length=(m.getD 0 []).length)(hv:KV l):il 348 [na l,(.jK 1 λj_=>[mH m].getD j_ .any),(.jK 1 λj_=>[.fn 60 []].getD j_ .any)]<|bP false:=by
 have n1:=hm.n1;have n8:=hm.n8;have hr:=hm.row 0 aC;exact iE<|af [iX 0<|m.length,ai 11 ((l.length:Int) != ((m.getD 0 []).length:Int))<|bg<|by rw[hl],.c (PL true _ _ 349 _ (λ_=>false) (λi hi=>agE _<|hv i) aC λ_ _=>rfl:il 339 [na l,.fn 349 [(.jK 1 λj_=>[.fn 60 []].getD j_ .any)]] _)]
def agG(m:List<|List Dy)(hm:sS m):il 311 [mH m,.fn 60 []]<|bP true:=by
 have n1:=hm.n1;have n8:=hm.n8;have hr:=hm.row 0 aC;exact iE<|af [tF 7 ((m.length:Int)<1) aC,tF 11 (8<(m.length:Int)) aC,iX 0<|m.length,tF 18 (((m.getD 0 []).length:Int)<1) aC,iX 0<|m.length,tF 25 (8<((m.getD 0 []).length:Int)) aC,.c (Wc true _ _ 348 _ (λ_=>false) (λi hi=>agF _ m hm (by rw[hm.row i hi,hm.row 0 aC]) λq=>hm.ok i q) aC λ_ _=>rfl:il 341 [mH m,.fn 348 [(.jK 1 λj_=>[mH m].getD j_ .any),(.jK 1 λj_=>[.fn 60 []].getD j_ .any)]] _)]
def anN(i j:Nat)(d:Dy)(hd:d.ix):il 313 [iP i,iP j,iB d]<|iA<|jx d:=
 iE (af [.c<|yh d aD])
def aau(m:List<|List Dy)(hm:sS m):il 264 [mH m]<|j9<|Dp m:=by
 have n1:=hm.n1;have n8:=hm.n8;exact iE<|af [ag [mH m,.fn 60 []]<|agG _ hm,.c (aha m _ _ (λi j=>jx<|(m.getD i []).getD j iY) aC (λi=>ahi hm i) λi j hi hj=>anN i j _<|hm.ok i j:il 312 [mH m,.fn 313 []] _)]
def amS(i j:Nat)(x:Iv)(p:Nat)(hx:x.ix)(xa:x.all=false)(iC:8<=p)(iu:p<=512):il 310 [iP i,iP j,iA x,(.jK 1 λj_=>[iP p].getD j_ .any)]<|iB<|lX x p:=
 iE (af [.c<|MI x p aD aD iC iu])
def amQ(x:Iv)(xa:x.all=false):il 308 [iA x]<|bP false:=
 iE (rQ (bP x.all) (bP false)<|by rw[xa])
def amR(l:List Iv)(hl:l.length<=8)(ha:∀ i,i<l.length->(l.getD i iw).all=false):il 307 [iG l]<|bP false:=
 iE (af [.c (AG true _ _ 308 _ (λ_=>false) (λi hi=>amQ _<|ha i hi) aC λ_ _=>rfl:il 39 [iG l,.fn 308 []] _)])
def aat(m:List<|List Iv)(n k p:Nat)(g:nJ m n k)(uB:∀ i,i<m.length->∀ j,j<(m.getD i []).length->((m.getD i []).getD j iw).all=false)(iC:8<=p)(iu:p<=512):il 263 [j9 m,iP p]<|mH<|tZ m p:=by
 have n8:=g.n8;have ra:=g.iM;exact iE<|af [.c<|E3 m _ _ g,.c<|M4 (p:Int),ah 10 (kA (p:Int))<|oo.2 ⟨aC,aC⟩,.c (abZ true _ _ 307 _ (λ_=>false) (λi hi=>amR _ (by rw[g.qV aC];exact g.k8)<|uB i hi) aC λ_ _=>rfl:il 159 [j9 m,.fn 307 []] _),.c (akB m _ _ (λi j=>lX ((m.getD i []).getD j iw) p) aC (λi=>bA (g.RO i) aE) λi j hi hj=>amS i j _ p (g.A9 aC<|by rw[<-g.qV (aC:i<n)];exact hj) (uB i hi j hj) iC iu:il 309 [j9 m,.fn 310 [(.jK 1 λj_=>[iP p].getD j_ .any)]] _)]
def ahG(i j:Nat)(x:Iv)(b:List<|List Iv)(p:Nat)(hx:x.ix)(hy:(((b.getD i []).getD j iw)).ix)(hi:i<b.length)(hj:j<(b.getD i []).length)(iC:8<=p)(iu:p<=512):il 231 [iP i,iP j,iA x,(.jK 1 λj_=>[.fn 163 []].getD j_ .any),(.jK 1 λj_=>[j9 b].getD j_ .any),(.jK 1 λj_=>[iP p].getD j_ .any)]<|iA<|nn x ((b.getD i []).getD j iw) p:=
 iE (af [iX (i:Int)<|b.length,iX (j:Int)<|(b.getD i []).length,.c<|EO x ((b.getD i []).getD j iw) p aD aD])
section
variable(a b:List<|List Iv)(n k p:Nat)(ga:nJ a n k)(gb:nJ b n k)(iC:8<=p)(iu:p<=512)
def ahH:il 171 [j9 a,j9 b,iP p,.fn 163 []]<|.iH [j9<|KC a b p,iP 0]:=by
 have ra:=ga.iM;have rb:=gb.iM;have n1:=ga.n1;have n8:=ga.n8;have la:=ga.qV (aC:0<n);have lb:=gb.qV (aC:0<n);exact iE<|af [.c<|E3 a _ _ aD,.c<|E3 b _ _ aD,.c<|M4 (p:Int),ah 21 (kA (p:Int))<|oo.2 ⟨aC,aC⟩,ai 28 ((a.length:Int) != (b.length:Int))<|s5,iX 0<|a.length,iX 0<|b.length,ai 38 (((a.getD 0 []).length:Int) != ((b.getD 0 []).length:Int))<|s5,.c<|amD a 231 [(.jK 1 λj_=>[.fn 163 []].getD j_ .any),(.jK 1 λj_=>[j9 b].getD j_ .any),(.jK 1 λj_=>[iP p].getD j_ .any)] (λi j=>nn ((a.getD i []).getD j iw) ((b.getD i []).getD j iw) p) aC (λi=>bA (ga.RO i) aE) λi j hi hj=>ahG _ _ _ _ _ (ga.A9 aC<|by rw[ga.qV aC]at hj;exact hj) (gb.A9 aC<|by rw[ga.qV aC]at hj;exact hj) aC (by rw[gb.qV aC];rw[ga.qV aC]at hj;exact hj) iC iu]
def am3:il 265 [j9 a,j9 b,iP p]<|.iH [j9<|KC a b p,iP 0]:=
 iE (af [ag [j9 a,j9 b,iP p,.fn 163 []]<|ahH a b n k p ga gb iC iu])
end
def aeg(x:Iv)(hx:x.ix):il 314 [iA x]<|bP false:=
 iE (af [.c<|qG x aD])
def aeh(q:Nat)(x:List Iv)(hq:q<x.length):il 315 [iP q,(.jK 1 λj_=>[iG x].getD j_ .any)]<|iA<|x.getD q iw:=
 iE (af [iX (q:Int)<|x.length])
def aas(a:List<|List Iv)(x:List Iv)(n k p:Nat)(ga:nJ a n k)(hl:x.length=k)(hx:∀ i,(x.getD i iw).ix)(iC:8<=p)(iu:p<=512):il 266 [j9 a,iG x,iP p]<|.iH [iG<|xH a x p,iP 0]:=by
 have ra:=ga.iM;have n1:=ga.n1;have n8:=ga.n8;have k1:=ga.k1;have k8:=ga.k8;have la:=ga.qV (aC:0<n);exact iE (ae [.c<|E3 a _ _ aD,.c (AG true _ _ 314 _ (λ_=>false) (λi hi=>aeg _<|hx i) aC λ_ _=>rfl:il 39 [iG x,.fn 314 []] _),.c<|M4 (p:Int),ah 21 (kA (p:Int))<|oo.2 ⟨aC,aC⟩,iX 0<|a.length,ai 30 (((a.getD 0 []).length:Int) != (x.length:Int))<|s5,.y 8 8 true 41 7<|jC<|(List.range 0).map λi=>nD (λq=>(a.getD i []).getD q iw) (λq=>x.getD q iw) p<|(a.getD i []).length-1,.s (Sp.jP (aar a x p) 0 a.length aC (λi hi mW=>by
    have lai:=ga.qV (aC:i<n);have qB:=pJ<|nD (λq=>(a.getD i []).getD q iw) (λq=>x.getD q iw) p<|(a.getD i []).length-1;exact iS (ae [tT 34 ((i:Int)<a.length) aC,iX (i:Int)<|a.length,.c<|V1 (a.getD i []) 315 [(.jK 1 λj_=>[iG x].getD j_ .any)] (λq=>x.getD q iw) p aC aC (λq hq=>ga.A9 aC<|by rw[lai]at hq;exact hq) hx (λq hq=>aeh q x aC) iC iu,.o 42<|.e<|mn<|nD (λq=>(a.getD i []).getD q iw) (λq=>x.getD q iw) p<|(a.getD i []).length-1,.a (aC:(i+[nD (λq=>(a.getD i []).getD q iw) (λq=>x.getD q iw) p<|(a.getD i []).length-1].length)*88<=140737488355328),iL<|(i:Int)+1]<|.e<|af [.b 8 (zi rfl rfl rfl:Bx.le (.row true 41 (i+[nD (λq=>(a.getD i []).getD q iw) (λq=>x.getD q iw) p<|(a.getD i []).length-1].length) 7 λi_ j_=>if i_<i then(jC<|(List.range i).map λi=>nD (λq=>(a.getD i []).getD q iw) (λq=>x.getD q iw) p<|(a.getD i []).length-1) i_ j_ else(E.ky<|iG [nD (λq=>(a.getD i []).getD q iw) (λq=>x.getD q iw) p<|(a.getD i []).length-1]) (i_-i) j_)<|.row true 41 (i+1) 7<|jC<|(List.range<|i+1).map λi=>nD (λq=>(a.getD i []).getD q iw) (λq=>x.getD q iw) p<|(a.getD i []).length-1)]) aF)
  (λhi=>by
    exact iS (ae [tF 34 ((a.length:Int)<a.length) aC,.z 8]<|.e<|af [.o 8 (.e<|xj aH:aj (.sl true a.length 7<|jC<|(List.range a.length).map λi=>nD (λq=>(a.getD i []).getD q iw) (λq=>x.getD q iw) p<|(a.getD i []).length-1)<|iG<|(List.range a.length).map λi=>nD (λq=>(a.getD i []).getD q iw) (λq=>x.getD q iw) p<|(a.getD i []).length-1)]) aF) aI:jM 9 f266 (aar a x p 0) (.exit 1) ⟨46,true,[(8,.e<|iG<|(List.range a.length).map λi=>nD (λq=>(a.getD i []).getD q iw) (λq=>x.getD q iw) p<|(a.getD i []).length-1)],[]⟩) .nil]<|rR (.iH [iG<|xH a x p,iP 0]) (.refl _:E.le (.iH [iG<|(List.range a.length).map λi=>nD (λq=>(a.getD i []).getD q iw) (λq=>x.getD q iw) p<|(a.getD i []).length-1,iP 0])<|.iH [iG<|xH a x p,iP 0]))
noncomputable def Zd(t:je)(xs:List Iv)(p:Nat)(i:Nat):PS:=⟨52,true,[(8,.own 8),(39,.e<|iP i),(38,.e<|iP t.iz.length),(37,.e<|lL t.iz),(7,.e<|iG<|jH t.iq xs p t.iq.length)],[(8,.row true 41 i 7<|jC<|(List.range i).map λj_=>(jH t.iq xs p t.iq.length).getD (t.iz.getD j_ 0) iw)]⟩
def me(x:List Iv)(p:Nat):List Iv:=(List.range x.length).map λj_=>jx<|lX (x.getD j_ iw) p
def wc(r x c:List Iv)(p:Nat)(s:Iv):Nat->Iv
 | 0=>s
 |k+1=>kO (wc r x c p s k) (kf (r.getD k iw) (nn (x.getD k iw) (c.getD k iw) p) p) p
noncomputable def xn(t:je)(x:List Iv)(p k:Nat):Iv:=
 sA (wc ((mD t x p t.iI).getD k []) x (me x p) p ((kH t (me x p) p).getD k iw) x.length) ((kH t x p).getD k iw)
noncomputable def zz(t:je)(x:List Iv)(p:Nat):List Iv:=(List.range t.iz.length).map<|xn t x p
def Iq(x:List Iv)(p:Nat):(me x p).length=x.length:=by simp[me]
def age{x:List Iv}{p i:Nat}(h:i<x.length):(me x p).getD i iw=jx (lX (x.getD i iw) p):=by unfold me;rw[tC h]
def Lt{x:List Iv}(hv:mS x)(p:Nat):mS<|me x p:=λi=>by
 by_cases h:i<x.length
 .rw [age h];exact tz<|GL (hv i) p
 .rw [bt,bW<|by rw[Iq];omega];exact ln
def M3{r x c:List Iv}{p:Nat}{s:Iv}(hs:s.ix)(h1:1<=p)(h2:p<=4096):∀ k,(wc r x c p s k).ix
 | 0=>hs
 |k+1=>pN (M3 hs h1 h2 k) (pI _ _ h1 h2) h1 h2
def amM{t:je}{x:List Iv}{p:Nat}(hv:mS x)(h1:1<=p)(h2:p<=4096)(k:Nat):(xn t x p k).ix:=
 amY (M3 (F3 t (Lt hv p) h1 h2 k) h1 h2 _) (F3 t hv h1 h2 k)
def Z4(t:je)(x:List Iv)(p:Nat):(zz t x p).length=t.iz.length:=by simp[zz]
def amN{t:je}{x:List Iv}{p k:Nat}(h:k<t.iz.length):(zz t x p).getD k iw=xn t x p k:=by unfold zz;rw[tC h]
def alj(t:je){x:List Iv}(hv:mS x){p m:Nat}(h1:1<=p)(h2:p<=4096)(k i:Nat):(((mD t x p m).getD k []).getD i iw).ix:=by
 by_cases hk:k<t.iz.length
 .rw [JD hk];by_cases hi:i<m
  .rw [tC hi];exact RF t hv h1 h2 _ _
  .rw [bt,bW<|by simpa using Nat.not_lt.1 hi];exact ln
 .rw [bt (l:=mD _ _ _ _),bW<|by rw[yi];omega];exact ln
section
variable(t:je)(x:List Iv)
noncomputable def WY(p:Nat)(i:Nat):PS:=⟨103,true,[(9,.own 9),(35,.e<|iP i),(34,.e<|iP x.length),(33,.e<|iG x),(8,.e<|j9<|mD t x p t.iI),(7,.e<|iG<|kH t x p),(3,.box 3 0),(1,.e<|iG x),(2,.e<|iP p)],[(9,.row true 41 i 7<|jC<|(List.range i).map λj_=>jx<|lX (x.getD j_ iw) p),(3,.cells 29 [iP t.iI,lG t.iq,lL t.iz])]⟩
noncomputable def W0(p:Nat)(w:Nat):PS:=⟨103,true,[(13,.own 13),(53,.e<|iP w),(52,.e<|iP ((kH t x p).length:Int)),(12,.e<|iG<|kH t (me x p) p),(9,.e<|iG<|me x p),(8,.e<|j9<|mD t x p t.iI),(7,.e<|iG<|kH t x p),(1,.e<|iG x),(2,.e<|iP p)],[(13,.row true 41 w 7<|jC<|(List.range w).map<|xn t x p)]⟩
noncomputable def WZ(p w:Nat)(i:Nat):PS:=⟨103,true,[(62,.e<|iP i),(61,.e<|iP x.length),(15,.box 15 0),(14,.e<|iP w),(13,.own 13),(53,.e<|iP w),(52,.e<|iP ((kH t x p).length:Int)),(12,.e<|iG<|kH t (me x p) p),(9,.e<|iG<|me x p),(8,.e<|j9<|mD t x p t.iI),(7,.e<|iG<|kH t x p),(1,.e<|iG x),(2,.e<|iP p)],[(15,.cells 41<|jS<|wc ((mD t x p t.iI).getD w []) x (me x p) p ((kH t (me x p) p).getD w iw) i),(13,.row true 41 w 7<|jC<|(List.range w).map<|xn t x p)]⟩
end
def RJ(t:je)(xs:List Iv)(p:Nat)(h:wF t)(h1:1<=xs.length)(hx:xs.length=t.iI)(hv:mS xs)(iC:8<=p)(iu:p<=512):il 257 [jT t,iG xs,iP p]<|iG<|kH t xs p:=by
 have h8:=h.iI;have ss:=h.iq;have qq:=h.iz;have C4:=Hs t.iq xs p t.iq.length;exact iE (ae [.c<|ac4 t xs p h h1 hx hv aC aC,iL<|(t.iI:Int)+t.iq.length,tF 23 (((jH t.iq xs p t.iq.length).length:Int)<((t.iI+t.iq.length:Nat):Int)) aC,ai 29 ((xs.length:Int) != (t.iI:Int))<|s5 hx,.c<|KH t aD,.y 8 8 true 41 7<|jC<|(List.range 0).map λj_=>(jH t.iq xs p t.iq.length).getD (t.iz.getD j_ 0) iw,.s (Sp.jP (Zd t xs p) 0 t.iz.length aC (λi hi mW=>by
    have X3:=h.out i aC;have C4:=Hs t.iq xs p t.iq.length;have qB:=pJ<|(jH t.iq xs p t.iq.length).getD (t.iz.getD i 0) iw;exact iS (ae [tT 40 ((i:Int)<t.iz.length) aC,iX (i:Int)<|t.iz.length,iX (t.iz.getD i 0:Int)<|(jH t.iq xs p t.iq.length).length,.o 48<|.e<|mn<|(jH t.iq xs p t.iq.length).getD (t.iz.getD i 0) iw,.a (aC:(i+[(jH t.iq xs p t.iq.length).getD (t.iz.getD i 0) iw].length)*88<=140737488355328),
     iL ((i:Int)+1)]<|.e<|af [.b 8 (zi rfl rfl rfl:Bx.le (.row true 41 (i+[(jH t.iq xs p t.iq.length).getD (t.iz.getD i 0) iw].length) 7 λi_ j_=>if i_<i then(jC<|(List.range i).map λj_=>(jH t.iq xs p t.iq.length).getD (t.iz.getD j_ 0) iw) i_ j_ else(E.ky<|iG [(jH t.iq xs p t.iq.length).getD (t.iz.getD i 0) iw]) (i_-i) j_)<|.row true 41 (i+1) 7<|jC<|(List.range<|i+1).map λj_=>(jH t.iq xs p t.iq.length).getD (t.iz.getD j_ 0) iw)]) aF)
  (λhi=>by
    exact iS (ae [tF 40 ((t.iz.length:Int)<t.iz.length) aC,.z 8]<|.e<|af [.o 8 (.e<|xj aH:aj (.sl true t.iz.length 7<|jC<|(List.range t.iz.length).map λj_=>(jH t.iq xs p t.iq.length).getD (t.iz.getD j_ 0) iw)<|iG<|(List.range t.iz.length).map λj_=>(jH t.iq xs p t.iq.length).getD (t.iz.getD j_ 0) iw)]) aF) aI:jM 6 f257 (Zd t xs p 0) (.exit 0) ⟨52,true,[(8,.e<|iG<|(List.range t.iz.length).map λj_=>(jH t.iq xs p t.iq.length).getD (t.iz.getD j_ 0) iw)],[]⟩) .nil]<|rQ (iG<|(List.range t.iz.length).map λj_=>(jH t.iq xs p t.iq.length).getD (t.iz.getD j_ 0) iw) (iG<|kH t xs p)<|by rw[Wz])
def alz(t:je)(x:List Iv)(p:Nat)(h:wF t)(h1:1<=x.length)(hx:x.length=t.iI)(hv:mS x)(iC:8<=p)(iu:p<=512)(uB:∀ i,i<x.length->(x.getD i iw).all=false):il 258 [jT t,iG x,iP p]<|iG<|zz t x p:=by
 have h8:=h.iI;have ss:=h.iq;have qq:=h.iz;have q1:1<=p:= aC ;have q2:p<=4096:= aC ;have By:=Iq x p;have BA:=Lt hv p;have XG:=F3 t BA q1 q2;have hfx:=F3 t hv q1 q2;have y3:=yX t x p;have nj:=yX t (me x p) p;have wV:=yi t x p t.iI;exact iE (ae [.c<|WV t x p h h1 hx hv aC aC,.c<|CQ t x p t.iI h h1 hx hv<|bw _,.y 9 9 true 41 7<|jC<|(List.range 0).map λj_=>jx<|lX (x.getD j_ iw) p,.s (Sp.jP (WY t x p) 0 x.length aC (λi hi mW=>by
    have v1:=hv i;have xa:=uB i aC;have v2:=GL v1 p;have qB:=pJ<|jx<|lX (x.getD i iw) p;exact iS (ae [tT 36 ((i:Int)<x.length) aC,iX (i:Int)<|x.length,.c<|MI (x.getD i iw) p aD aD iC iu,.c<|yh (lX (x.getD i iw) p) aD,.o 44<|.e<|mn<|jx<|lX (x.getD i iw) p,.a (aC:(i+[jx<|lX (x.getD i iw) p].length)*88<=140737488355328),
     iL ((i:Int)+1)]<|.e<|af [.b 9 (zi rfl rfl rfl:Bx.le (.row true 41 (i+[jx<|lX (x.getD i iw) p].length) 7 λi_ j_=>if i_<i then(jC<|(List.range i).map λj_=>jx<|lX (x.getD j_ iw) p) i_ j_ else(E.ky<|iG [jx<|lX (x.getD i iw) p]) (i_-i) j_)<|.row true 41 (i+1) 7<|jC<|(List.range<|i+1).map λj_=>jx<|lX (x.getD j_ iw) p)]) aF)
  (λhi=>by
    exact iS (ae [tF 36 ((x.length:Int)<x.length) aC,.z 9]<|.e<|af [.o 9 (.e<|xj aH:aj (.sl true x.length 7<|jC<|(List.range x.length).map λj_=>jx<|lX (x.getD j_ iw) p)<|iG<|me x p)]) aF) aI:jM 6 f258 (WY t x p 0) (.exit 0) ⟨103,true,[(9,.e<|iG<|me x p),(8,.e<|j9<|mD t x p t.iI),(7,.e<|iG<|kH t x p),(3,.box 3 0),(1,.e<|iG x),(2,.e<|iP p)],[(3,.cells 29 [iP t.iI,lG t.iq,lL t.iz])]⟩) .nil,ag [jT t,iG<|me x p,iP p]<|RJ t (me x p) p h (by rw[Iq];omega) (by rw[Iq];omega) (Lt hv p) aC aC,.y 13 13 true 41 7<|jC<|(List.range 0).map<|xn t x p,.s (Sp.jP (W0 t x p) 0 t.iz.length aC (λw hw as3=>by
    have hjr:((mD t x p t.iI).getD w []).length=t.iI:=by rw[JD aC];simp
    have v7:=M3 (r:=(mD t x p t.iI).getD w []) (x:=x) (c:=me x p) (XG w) q1 q2 x.length;have v8:=hfx w;have qB:=pJ<|sA (wc ((mD t x p t.iI).getD w []) x (me x p) p ((kH t (me x p) p).getD w iw) x.length)<|(kH t x p).getD w iw;exact iS (ae [tT 54 ((w:Int)<((kH t x p).length:Int)) aC,iX (w:Int)<|(kH t (me x p) p).length,.s (Sp.jP (WZ t x p w) 0 x.length aC (λi hi mW=>by
    have v1:=hv i;have v2:=BA i;have v3:=alj t hv q1 q2 (m:=t.iI) w i;have v4:=M3 (r:=(mD t x p t.iI).getD w []) (x:=x) (c:=me x p) (XG w) q1 q2 i;have v5:(nn (x.getD i iw) ((me x p).getD i iw) p).ix:=pN v1 (xr v2) q1 q2;have v6:=pI (((mD t x p t.iI).getD w []).getD i iw) (nn (x.getD i iw) ((me x p).getD i iw) p) q1 q2;exact iS (ae [tT 63 ((i:Int)<x.length) aC,iX (w:Int)<|(mD t x p t.iI).length,iX (i:Int)<|((mD t x p t.iI).getD w []).length,
     iX (i:Int) (x.length),iX (i:Int)<|(me x p).length,.c<|EO (x.getD i iw) ((me x p).getD i iw) p aD aD,.c<|vY (((mD t x p t.iI).getD w []).getD i iw) (nn (x.getD i iw) ((me x p).getD i iw) p) p aD aD,.c<|BW (wc ((mD t x p t.iI).getD w []) x (me x p) p ((kH t (me x p) p).getD w iw) i) (kf (((mD t x p t.iI).getD w []).getD i iw) (nn (x.getD i iw) ((me x p).getD i iw) p) p) p aD aD,
     iL ((i:Int)+1)]<|.e<|af [.b 15<|.refl<|.cells 41<|jS<|wc ((mD t x p t.iI).getD w []) x (me x p) p ((kH t (me x p) p).getD w iw)<|i+1]) aF)
  (λhi=>by
    exact iS (af [tF 63 ((x.length:Int)<x.length) aC]) aF) aI:jM 17 f258 (WZ t x p w 0) (.exit 4) ⟨103,true,[(15,.box 15 0),(14,.e<|iP w),(13,.own 13),(53,.e<|iP w),(52,.e<|iP ((kH t x p).length:Int)),(12,.e<|iG<|kH t (me x p) p),(9,.e<|iG<|me x p),(8,.e<|j9<|mD t x p t.iI),(7,.e<|iG<|kH t x p),(1,.e<|iG x),(2,.e<|iP p)],[(15,.cells 41<|jS<|wc ((mD t x p t.iI).getD w []) x (me x p) p ((kH t (me x p) p).getD w iw) x.length),(13,.row true 41 w 7<|jC<|(List.range w).map<|xn t x p)]⟩)<|af [.b 15<|.refl<|.cells 41<|jS<|wc ((mD t x p t.iI).getD w []) x (me x p) p ((kH t (me x p) p).getD w iw) 0],
     iX (w:Int) ((kH t x p).length),.c<|RA (wc ((mD t x p t.iI).getD w []) x (me x p) p ((kH t (me x p) p).getD w iw) x.length) ((kH t x p).getD w iw) aD aD,.o 99<|.e<|mn<|sA (wc ((mD t x p t.iI).getD w []) x (me x p) p ((kH t (me x p) p).getD w iw) x.length)<|(kH t x p).getD w iw,.a (aC:(w+[sA (wc ((mD t x p t.iI).getD w []) x (me x p) p ((kH t (me x p) p).getD w iw) x.length)<|(kH t x p).getD w iw].length)*88<=140737488355328),iL<|(w:Int)+1]<|.e<|af [.b 13 (zi rfl rfl rfl:Bx.le (.row true 41 (w+[sA (wc ((mD t x p t.iI).getD w []) x (me x p) p ((kH t (me x p) p).getD w iw) x.length)<|(kH t x p).getD w iw].length) 7 λi_ j_=>if i_<w then(jC<|(List.range w).map<|xn t x p) i_ j_ else(E.ky<|iG [sA (wc ((mD t x p t.iI).getD w []) x (me x p) p ((kH t (me x p) p).getD w iw) x.length)<|(kH t x p).getD w iw]) (i_-w) j_)<|.row true 41 (w+1) 7<|jC<|(List.range<|w+1).map<|xn t x p)]) aF)
  (λhw=>by
    exact iS (ae [tF 54 ((t.iz.length:Int)<((kH t x p).length:Int)) aC,.z 13]<|.e<|af [.o 13 (.e<|xj aH:aj (.sl true t.iz.length 7<|jC<|(List.range t.iz.length).map<|xn t x p)<|iG<|(List.range t.iz.length).map<|xn t x p)]) aF) aI:jM 13 f258 (W0 t x p 0) (.exit 2) ⟨103,true,[(13,.e<|iG<|(List.range t.iz.length).map<|xn t x p)],[]⟩) .nil]<|rR (iG<|zz t x p) (.jq rfl:E.le (iG<|(List.range t.iz.length).map<|xn t x p)<|iG<|zz t x p))
structure UL where
 n:Nat
 g:Nat->Int
abbrev pg(g:Nat->Int):Nat->Nat->E:=λi _=>.v<|.int .u32<|g i
def uP(a:UL):E:=.sl false a.n 1<|pg a.g
def Fv(g:Nat->Int)(k:Nat)(v:Int):Nat->Int:=λi=>if i=k then v else g i
section
variable(d:Dy)(k:Nat)
abbrev WM:Nat:=((Int.tdiv (d.e+16384) 32)+(k:Int)).toNat
abbrev L6:Nat:=(((Int.tdiv (d.e+16384) 32)+(k:Int))+1).toNat
abbrev WO:Int:=IntKind.u64.wrap<|(((im d.m).getD k 0:Nat):Int)*2^(Int.tmod (d.e+16384) 32).toNat
end
def vc(d:Dy):Nat->Nat->Int
 | 0=>λ_=>0
 |k+1=>Fv (Fv (vc d k) (WM d k)<|bits .or .u32 (vc d k<|WM d k)<|IntKind.u32.wrap<|WO d k) (L6 d k)
  (bits .or .u32 (vc d k<|L6 d k)<|IntKind.u32.wrap<|WO d k/2^32)
abbrev Qd(d:Dy):Nat:=(((Int.tdiv (d.e+16384) 32)+((im d.m).length:Int))+1).toNat
def tc(d:Dy):UL:=⟨Qd d,vc d (im d.m).length⟩
def al4{m:Nat}(k:Nat):(im m).getD k 0<4294967296:=(nA m).getD k
def kj(a:UL)(i:Nat):Int:=if i<a.n then IntKind.u64.wrap (a.g i)else 0
def WQ{d:Dy}(hd:d.ix):0<=d.e+16384/\d.e+16384<=32768/\(im d.m).length<=128/\0<=Int.tdiv (d.e+16384) 32/\Int.tdiv (d.e+16384) 32<=1024/\0<=Int.tmod (d.e+16384) 32/\Int.tmod (d.e+16384) 32<=31:=by
 have h:0<=d.e+16384/\d.e+16384<=32768:=by
  rcases hd.range with h|⟨_,h1,h2,_⟩
  .have:d.e=0:=by
    rcases hd.canon with h1|h1
    .exact h1.2.2
    .omega
   omega
  .omega
 have hl:(im d.m).length<=128:=by
  rcases hd.range with h|⟨h,_⟩
  .rw [h,px];simp
  .exact JJ aC 
 have e1:=atF (b:=32) h.1;have e2:=atZ (b:=32) h.1;omega
def asa{T n n':Nat}{g:Nat->Int}(hn:n=n')(h:∀ i,g i=0):Bx.le (.row false T n 1 λ_ j_=>[(.v<|.int .u32 0:E)].getD j_ .any)<|.row false T n' 1<|pg g:=by
 subst hn;refine .row rfl λi j hi hj=>⟨.jq ?_,rfl⟩
 obtain rfl:j=0:= aC ;show E.v (.int .u32 0) = .v (.int .u32<|g i);rw[h]
def asc{T n n' a b:Nat}{v w:Int}{g g':Nat->Int}(hn:n=n')(h:g'=Fv (Fv g a v) b w):
 Bx.le (.row false T n 1 λi' j'=>if i'=b/\0<=j'/\j'<0+1 then[(.v<|.int .u32 w:E)].getD (j'-0) .any else(λi' j'=>if i'=a/\0<=j'/\j'<0+1 then[(.v<|.int .u32 v:E)].getD (j'-0) .any else pg g i' j') i' j') (.row false T n' 1<|pg g'):=by
 subst hn h;refine .row rfl λi j hi hj=>⟨.jq ?_,rfl⟩
 obtain rfl:j=0:= aC ;show _=E.v (.int .u32<|Fv (Fv g a v) b w i);unfold Fv;by_cases h1:i=b
 .rw [bk ⟨h1,bw _,aE⟩,bk h1];rfl
 .rw [bj λh=>h1 h.1,bj h1];by_cases h2:i=a
  .simp only;rw[bk ⟨h2,bw _,aE⟩,bk h2];rfl
  .simp only;rw[bj λh=>h2 h.1,bj h2]
def asb{a b:Nat}{v:Int}{g:Nat->Int}(h:b≠a):E.le ((λi' j'=>if i'=a/\0<=j'/\j'<0+1 then[(.v<|.int .u32 v:E)].getD (j'-0) .any else pg g i' j') b 0)<|.v<|.int .u32<|g b:=
 .jq (bj λq=>h q.1)
def WE(d:Dy)(k:Nat):PS:=⟨58,false,[(22,.e<|iP k),(21,.e<|iP ((im d.m).length:Int)),(20,.e<|iy<|im d.m),(4,.own 18),(3,.e<|iP<|d.e+16384)],[(18,.row false 95 ((((Int.tdiv (d.e+16384) 32)+((im d.m).length:Int))+1).toNat) 1<|pg<|vc d k)]⟩
def ko(a b:UL):Nat:=if a.n<b.n then b.n else a.n
def R0(a b:UL):(if(b.n:Int)>(a.n:Int)then(b.n:Int)else(a.n:Int))=(ko a b:Int):=by unfold ko;split<;>split<;>omega
def Ff(a b:UL):Nat->Int
 | 0=>IntKind.u64.wrap<|IntKind.u64.wrap (kj a 0+kj b 0)+0
 |k+1=>IntKind.u64.wrap<|IntKind.u64.wrap (kj a (k+1)+kj b (k+1))+Ff a b k/2^32
def Dv(a b:UL):Nat->Int
 | 0=>0
 |k+1=>Ff a b k/2^32
def Dw(a b:UL)(k:Nat):Int:=IntKind.u32.wrap<|Ff a b k
def GZ(a b:UL):UL:=⟨ko a b+1,Dw a b⟩
def GN(a b:UL):Nat->Int
 | 0=>IntKind.u64.wrap<|IntKind.u64.wrap (kj a 0-kj b 0)-0
 |k+1=>IntKind.u64.wrap<|IntKind.u64.wrap (kj a (k+1)-kj b (k+1))-GN a b k/2^63
section
variable(a b:UL)
def vw:Nat->Int
 | 0=>0
 |k+1=>GN a b k/2^63
def vy(k:Nat):Int:=IntKind.u32.wrap<|GN a b k
def B8:UL:=⟨a.n,vy a b⟩
def abi:∀ k,Ff a b k=IntKind.u64.wrap (IntKind.u64.wrap (kj a k+kj b k)+Dv a b k)
 | 0=>by unfold Ff;rfl
 |k+1=>by unfold Ff;rfl
def M0:∀ k,GN a b k=IntKind.u64.wrap (IntKind.u64.wrap (kj a k-kj b k)-vw a b k)
 | 0=>rfl
 |k+1=>rfl
end
def Tx{T n n' m:Nat}{g:Nat->Int}{el2:Nat->Nat->E}(hm:m=1)(hn:n'=n+1)(he:el2 0 0 = .v (.int .u32<|g n)):Bx.le (.row false T (n+m) 1 λi j=>if i<n then pg g i j else el2 (i-n) j)<|.row false T n' 1<|pg g:=by
 subst hm hn;refine .row rfl λi j hi hj=>⟨.jq ?_,rfl⟩
 obtain rfl:j=0:= aC ;by_cases h:i<n
 .rw [bk h]
 .obtain rfl:i=n:= aC ;rw[bj h,dg,he]
section
variable(P:Program)(t:TypeId)(a b:Int)
def T6:mP P .add t (.v<|.int .u64 a) (.v<|.int .u64 b)<|.int .u64<|IntKind.u64.wrap<|a+b:=λbs br w x y ox oy hx hy=>by
 obtain rfl:=iO.kW hx;obtain rfl:=iO.kW hy;refine⟨by simp only[eqGuard_at_int,Sem.run_pure],?_⟩;rw[binOp_add];simp[Op.intArith]
def N5:mP P .sub t (.v<|.int .u64 a) (.v<|.int .u64 b)<|.int .u64<|IntKind.u64.wrap<|a-b:=λbs br w x y ox oy hx hy=>by
 obtain rfl:=iO.kW hx;obtain rfl:=iO.kW hy;refine⟨by simp only[eqGuard_at_int,Sem.run_pure],?_⟩;rw[binOp_sub];simp[Op.intArith]
end
def yR(a b:Int):Int:=if a<b then -1 else if b<a then 1 else 0
def FQ(a b:UL):Nat->Int
 | 0=>0
 |k+1=>if kj a k=kj b k then FQ a b k else yR (kj a k) (kj b k)
def Ai(a b:UL):Int:=FQ a b<|ko a b
def JS(a b:UL):UL:=if Ai a b<0 then B8 b a else B8 a b
def xE(x:Iv):UL:=if x.lo.neg=x.hi.neg then JS (tc x.lo) (tc x.hi)else GZ (tc x.lo) (tc x.hi)
def pM(b:List Iv):Nat->Nat
 | 0=>0
 |k+1=>if 0<Ai (xE<|b.getD k iw) (xE<|b.getD (pM b k) iw)then k else pM b k
def Pr{a b:UL}{M:Nat}:∀ x,x<=M->(∀ y,y<x->kj a (M-1-y)=kj b (M-1-y))->FQ a b M=FQ a b (M-x)
 | 0,_,_=>rfl
 |x+1,hx,h=>by
  rw[Pr x aC λy hy=>h y aC];have e:=h x aC;obtain⟨q,hq⟩:∃ q,M-x=q+1:=⟨M-x-1,aC⟩
  rw[hq,(aC:M-(x+1)=q)];rw[(aC:M-1-x=q)]at e;show(if kj a q=kj b q then FQ a b q else _)=_;rw[bk e]
def TF{b:List Iv}:∀ k,0<b.length->k<=b.length->pM b k<b.length
 | 0,h,_=>h
 |k+1,h,hk=>by
  have:=TF k h aC;unfold pM;split<;>omega
section
variable(a b:UL)
def Vl(x:Nat):PS:=⟨30,true,[(5,.e<|iP<|(ko a b:Int)-1-(x:Int)),(0,.e<|uP a),(1,.e<|uP b)],[]⟩
def Vm(N:Nat)(x:Nat):PS:=⟨30,true,[(5,.e<|iP<|(ko a b:Int)-1-(x:Int)),(0,.e<|uP a),(1,.e<|uP b)],[]⟩
def abj(k:Nat):PS:=⟨36,false,[(5,.own 5),(15,.e<|iP k),(14,.e<|iP (((ko a b)+1:Nat):Int)),(6,.e<|.v<|.int .u64<|Dv a b k),(0,.e<|uP a),(1,.e<|uP b)],[(5,.row false 95 k 1<|pg<|Dw a b)]⟩
def aaa(k:Nat):PS:=⟨38,false,[(5,.own 5),(17,.e<|iP k),(16,.e<|iP (UL.n b:Int)),(6,.e<|.v<|.int .u64<|vw b a k),(1,.e<|uP a),(0,.e<|uP b)],[(5,.row false 95 k 1<|pg<|vy b a)]⟩
def Z9(k:Nat):PS:=⟨38,false,[(5,.own 5),(17,.e<|iP k),(16,.e<|iP (UL.n a:Int)),(6,.e<|.v<|.int .u64<|vw a b k),(0,.e<|uP a),(1,.e<|uP b)],[(5,.row false 95 k 1<|pg<|vy a b)]⟩
end
def adH(b:List Iv)(i:Nat):PS:=⟨28,true,[(11,.e<|iP i),(10,.e<|iP b.length),(9,.e<|iG b),(3,.e<|iP (pM b i:Int)),(0,.e<|iG b)],[]⟩
def WG(d:Dy)(hd:d.ix):il 270 [iB d]<|uP<|tc d:=by
 obtain⟨f1,f2,f3,f4,f5,f6,f7⟩:=WQ hd;exact pA (ae [iL<|d.e+16384,.a (aC:0<(32:Int)),iL<|d.e+16384,iL<|(Int.tdiv (d.e+16384) 32)+((im d.m).length:Int),
  iL (((Int.tdiv (d.e+16384) 32)+((im d.m).length:Int))+1),.a (aC:0<=((((Int.tdiv (d.e+16384) 32)+((im d.m).length:Int))+1):Int)/\((((Int.tdiv (d.e+16384) 32)+((im d.m).length:Int))+1):Int)<=((((Int.tdiv (d.e+16384) 32)+((im d.m).length:Int))+1):Int)),.a (aC:((4:Nat):Int)*(((Int.tdiv (d.e+16384) 32)+((im d.m).length:Int))+1)<=281474976710656/\((((Int.tdiv (d.e+16384) 32)+((im d.m).length:Int))+1):Int)<=9223372036854775807),.s (Sp.jP (WE d) 0 ((im d.m).length) aC (λk hk tO=>by
    have hlk:=al4 (m:=d.m) k;exact iS (ae [tT 23 ((k:Int)<((im d.m).length:Int)) aC,iX (k:Int)<|(im d.m).length,.o 28 (.int<|s7 _:aj (.v<|.int .u64<|IntKind.u64.wrap (((im d.m).getD k 0:Nat):Int))<|.v<|.int .u64 (((im d.m).getD k 0:Nat):Int)),.a (aC:0<(32:Int)),.a (aC:0<=((Int.tmod (d.e+16384) 32):Int)/\((Int.tmod (d.e+16384) 32):Int)<=((64:Nat):Int)),.a (aC:0<(32:Int)),iL<|d.e+16384,
     iL ((Int.tdiv (d.e+16384) 32)+(k:Int)),iX ((Int.tdiv (d.e+16384) 32)+(k:Int))<|(((Int.tdiv (d.e+16384) 32)+((im d.m).length:Int))+1).toNat,.a (aC:(((Int.tdiv (d.e+16384) 32)+(k:Int))).toNat<((((Int.tdiv (d.e+16384) 32)+((im d.m).length:Int))+1)).toNat),
     iX ((Int.tdiv (d.e+16384) 32)+(k:Int)) ((((Int.tdiv (d.e+16384) 32)+((im d.m).length:Int))+1).toNat),.a (aC:(((Int.tdiv (d.e+16384) 32)+(k:Int))).toNat<((((Int.tdiv (d.e+16384) 32)+((im d.m).length:Int))+1)).toNat),.a (aC:0<(32:Int)),iL<|d.e+16384,
     iL ((Int.tdiv (d.e+16384) 32)+(k:Int)),iL<|((Int.tdiv (d.e+16384) 32)+(k:Int))+1,
     iX (((Int.tdiv (d.e+16384) 32)+(k:Int))+1) ((((Int.tdiv (d.e+16384) 32)+((im d.m).length:Int))+1).toNat),.a (aC:((((Int.tdiv (d.e+16384) 32)+(k:Int))+1)).toNat<((((Int.tdiv (d.e+16384) 32)+((im d.m).length:Int))+1)).toNat),.o 50 (.e<|asb<|by simp only[df];omega:aj ((λi' j'=>if i'=(((Int.tdiv (d.e+16384) 32)+(k:Int))).toNat/\0<=j'/\j'<0+1 then[.v<|.int .u32<|bits .or .u32 ((vc d k)<|((Int.tdiv (d.e+16384) 32)+(k:Int)).toNat)<|IntKind.u32.wrap<|IntKind.u64.wrap<|(((im d.m).getD k 0:Nat):Int)*2^((Int.tmod (d.e+16384) 32)).toNat].getD (j'-0) .any else(pg<|vc d k) i' j') ((((Int.tdiv (d.e+16384) 32)+(k:Int))+1).toNat) 0)<|.v<|.int .u32<|vc d k<|L6 d k),.a (aC:0<=(32:Int)/\(32:Int)<=((64:Nat):Int)),iX (((Int.tdiv (d.e+16384) 32)+(k:Int))+1)<|(((Int.tdiv (d.e+16384) 32)+((im d.m).length:Int))+1).toNat,.a (aC:((((Int.tdiv (d.e+16384) 32)+(k:Int))+1)).toNat<((((Int.tdiv (d.e+16384) 32)+((im d.m).length:Int))+1)).toNat),iL<|(k:Int)+1]<|.e<|af [.b 18 (asc rfl rfl:Bx.le (.row false 95 ((((Int.tdiv (d.e+16384) 32)+((im d.m).length:Int))+1).toNat) 1 λi' j'=>if i'=((((Int.tdiv (d.e+16384) 32)+(k:Int))+1)).toNat/\0<=j'/\j'<0+1 then[.v<|.int .u32<|bits .or .u32 (vc d k<|L6 d k)<|IntKind.u32.wrap<|(IntKind.u64.wrap<|(((im d.m).getD k 0:Nat):Int)*2^((Int.tmod (d.e+16384) 32)).toNat)/2^32].getD (j'-0) .any else(λi' j'=>if i'=(((Int.tdiv (d.e+16384) 32)+(k:Int))).toNat/\0<=j'/\j'<0+1 then[.v<|.int .u32<|bits .or .u32 ((vc d k)<|((Int.tdiv (d.e+16384) 32)+(k:Int)).toNat)<|IntKind.u32.wrap<|IntKind.u64.wrap<|(((im d.m).getD k 0:Nat):Int)*2^((Int.tmod (d.e+16384) 32)).toNat].getD (j'-0) .any else(pg<|vc d k) i' j') i' j')<|.row false 95 ((((Int.tdiv (d.e+16384) 32)+((im d.m).length:Int))+1).toNat) 1<|pg<|vc d<|k+1)]) aF)
  (λhk=>by
    exact iS (af [tF 23 (((im d.m).length:Int)<((im d.m).length:Int)) aC,.z 18]) aF) aI:jM 4 f270 (WE d 0) (.exit 0) ⟨58,false,[(4,.e<|.sl false ((((Int.tdiv (d.e+16384) 32)+((im d.m).length:Int))+1).toNat) 1<|pg<|vc d<|(im d.m).length)],[]⟩)<|af [.b 18 (asa rfl (λ_=>rfl):Bx.le (.row false 95 ((((Int.tdiv (d.e+16384) 32)+((im d.m).length:Int))+1).toNat) 1 λ_ j_=>[.v<|.int .u32 0].getD j_ .any)<|.row false 95 ((((Int.tdiv (d.e+16384) 32)+((im d.m).length:Int))+1).toNat) 1<|pg<|vc d 0)]]<|rR (uP<|tc d) (.jq rfl:E.le (.sl false ((((Int.tdiv (d.e+16384) 32)+((im d.m).length:Int))+1).toNat) 1<|pg<|vc d<|(im d.m).length)<|uP<|tc d))
def DS(a:UL)(i:Int)(h:0<=i:=by omega):il 268 [uP a,iP i]<|.v<|.int .u64<|kj a i.toNat:=
 iE (.w ((UL.n a:Int)<=i)
  (λk1=>ae [tB 8<|bu k1]<|rQ (.v<|.int .u64 0) (.v<|.int .u64<|kj a i.toNat)<|by unfold kj;rw[bj aC])
  (λk1=>ae [tB 8<|bn k1,iX i<|UL.n a]<|rQ (.v<|.int .u64<|IntKind.u64.wrap<|UL.g a<|(i).toNat) (.v<|.int .u64<|kj a i.toNat)<|by unfold kj;rw[bk aC]))
def YQ(a:Int):il 316 [.v<|.int .u64 a]<|bP false:=
 iE (af [ai 5 (a != a)<|atU _])
def ago(a b:Int):il 269 [.v<|.int .u64 a,.v<|.int .u64 b]<|iP<|yR a b:=
 iE (ae [ag [.v<|.int .u64 a]<|YQ _,ag [.v<|.int .u64 b]<|YQ _]<|.w (a<b)
  (λk1=>ae [tB 16<|bu k1]<|rQ (iP (-1)) (iP<|yR a b)<|congrArg iP aT)
  (λk1=>ae [tB 16<|bn k1]<|.w (b<a)
   (λk2=>ae [tB 19<|bu k2]<|rQ (iP 1) (iP<|yR a b)<|congrArg iP aT)
   (λk2=>ae [tB 19<|bn k2]<|rQ (iP 0) (iP<|yR a b)<|congrArg iP aT)))
def FL(a:UL)(m x:Nat)(h:x<m:=by omega):il 268 [uP a,iP<|(m:Int)-1-(x:Int)]<|.v<|.int .u64<|kj a<|m-1-x:=by
 have:=DS a<|(m:Int)-1-(x:Int);rwa[show((m:Int)-1-(x:Int)).toNat=m-1-x by omega]at this
section
variable(a b:UL)(ha:a.n<=1000000)(hb:b.n<=1000000)
def aem(ji:∀ x,x<ko a b->kj a (ko a b-1-x)=kj b (ko a b-1-x)):il 215 [uP a,uP b]<|iP 0:=by
 have hm:ko a b<=1000000:=by unfold ko;split<;>omega
 exact iE (af [.o 12<|aq (if(UL.n b:Int)>(UL.n a:Int)then(UL.n b:Int)else(UL.n a:Int)) (ko a b:Int)<|R0 a b,
  iL ((ko a b:Int)-1),.s (Sp.jP (Vl a b) 0 (ko a b) aC (λx hx mX=>by
    exact iS (ae [tT 15 (0<=((ko a b:Int)-1-(x:Int))) aC,ag [uP a,iP<|(ko a b:Int)-1-(x:Int)]<|FL a (ko a b) x,ag [uP b,iP<|(ko a b:Int)-1-(x:Int)]<|FL b (ko a b) x,ai 26 ((kj a<|ko a b-1-x) != (kj b<|ko a b-1-x))<|bg<|ji x aC,
     iL (((ko a b:Int)-1-(x:Int))-1)]<|.e<|af [.o 5<|aq (((ko a b:Int)-1-(x:Int))-1) ((ko a b:Int)-1-((x+1:Nat):Int)) aO]) aF)
  (λhx=>by
    exact iS (af [tF 15 (0<=((ko a b:Int)-1-(ko a b:Int))) aC]) aF) aI:jM 2 f215 (Vl a b 0) (.exit 0) ⟨30,true,[],[]⟩)<|af [.o 5<|aq ((ko a b:Int)-1) ((ko a b:Int)-1-((0:Nat):Int)) aO]])
def aen(N:Nat)(qd:N<ko a b)(ji:∀ x,x<N->kj a (ko a b-1-x)=kj b (ko a b-1-x))(hN:kj a (ko a b-1-N)≠kj b (ko a b-1-N)):il 215 [uP a,uP b]<|iP<|yR (kj a<|ko a b-1-N)<|kj b<|ko a b-1-N:=by
 have hm:ko a b<=1000000:=by unfold ko;split<;>omega
 exact iE (af [.o 12<|aq (if(UL.n b:Int)>(UL.n a:Int)then(UL.n b:Int)else(UL.n a:Int)) (ko a b:Int)<|R0 a b,
  iL ((ko a b:Int)-1),.s (Sp.jP (Vm a b N) 0 N aC (λx hx mX=>by
    exact iS (ae [tT 15 (0<=((ko a b:Int)-1-(x:Int))) aC,ag [uP a,iP<|(ko a b:Int)-1-(x:Int)]<|FL a (ko a b) x,ag [uP b,iP<|(ko a b:Int)-1-(x:Int)]<|FL b (ko a b) x,ai 26 ((kj a<|ko a b-1-x) != (kj b<|ko a b-1-x))<|bg<|ji x aC,
     iL (((ko a b:Int)-1-(x:Int))-1)]<|.e<|af [.o 5<|aq (((ko a b:Int)-1-(x:Int))-1) ((ko a b:Int)-1-((x+1:Nat):Int)) aO]) aF)
  (λhx=>by
    exact iS (af [tT 15 (0<=((ko a b:Int)-1-(N:Int))) aC,ag [uP a,iP<|(ko a b:Int)-1-(N:Int)]<|FL a (ko a b) N,ag [uP b,iP<|(ko a b:Int)-1-(N:Int)]<|FL b (ko a b) N,tB 26<|bh hN,ag [.v<|.int .u64<|kj a<|ko a b-1-N,.v<|.int .u64<|kj b<|ko a b-1-N]<|ago _ _]) aF) aI:jM 2 f215 (Vm a b N 0) .ret ⟨30,true,[(4,.e<|iP<|yR (kj a<|ko a b-1-N)<|kj b<|ko a b-1-N)],[]⟩)<|af [.o 5<|aq ((ko a b:Int)-1) ((ko a b:Int)-1-((0:Nat):Int)) aO]])
def OX:il 215 [uP a,uP b]<|iP<|Ai a b:=by
 by_cases h:∃ x,x<ko a b/\decide (kj a (ko a b-1-x)≠kj b (ko a b-1-x))=true
 .obtain ⟨N,h1,h2,h3⟩:=sx h;have ji:∀ x,x<N->kj a (ko a b-1-x)=kj b (ko a b-1-x):=λx hx=>by have:=h3 x hx;simpa using this
  have hN:kj a (ko a b-1-N)≠kj b (ko a b-1-N):=cL h2;have:=aen a b ha hb N h1 ji hN;have e:Ai a b=yR (kj a<|ko a b-1-N) (kj b<|ko a b-1-N):=by
   unfold Ai;rw[Pr N aC ji,(aC:ko a b-N=(ko a b-1-N)+1)];unfold FQ;rw[bj hN]
  rwa[e]
 .have ji:∀ x,x<ko a b->kj a (ko a b-1-x)=kj b (ko a b-1-x):=λx hx=>ca λq=>h ⟨x,hx,bu q⟩
  have:=aem a b ha hb ji;have e:Ai a b=0:=by
   unfold Ai;rw[Pr _ (bw _) ji,dg];rfl
  rwa[e]
def aeM:il 271 [uP a,uP b]<|uP<|GZ a b:=by
 have hm:ko a b<=1000000:=by unfold ko;split<;>omega
 exact pA (ae [.o 13<|aq (if(UL.n b:Int)>(UL.n a:Int)then(UL.n b:Int)else(UL.n a:Int)) (ko a b:Int)<|R0 a b,
  iL ((ko a b:Int)+1),.y 5 5 false 95 1<|pg<|Dw a b,.s (Sp.jP (abj a b) 0 (ko a b+1) aC (λk hk tO=>by
    exact iS (ae [tT 16 ((k:Int)<(((ko a b)+1:Nat):Int)) aC,ag [uP a,iP k]<|DS _ _,ag [uP b,iP k]<|DS _ _,.gi (T6 _ _ _ _:mP prog .add 148 (.v<|.int .u64<|kj a k) (.v<|.int .u64<|kj b k)<|.int .u64<|IntKind.u64.wrap<|kj a k+kj b k),.gi (T6 _ _ _ _:mP prog .add 148 (.v<|.int .u64<|IntKind.u64.wrap<|kj a k+kj b k) (.v<|.int .u64<|Dv a b k)<|.int .u64<|IntKind.u64.wrap<|(IntKind.u64.wrap<|kj a k+kj b k)+(Dv a b k)),.a (aC:(k+1)*4<=140737488355328),.a (aC:0<=(32:Int)/\(32:Int)<=((64:Nat):Int)),iL<|(k:Int)+1]<|.e<|af [.o 6 (.int<|by show _=Ff a b k/2^32;rw[abi]:aj (.v<|.int .u64<|(IntKind.u64.wrap<|(IntKind.u64.wrap<|kj a k+kj b k)+(Dv a b k))/2^32)<|.v<|.int .u64<|Dv a b<|k+1),.b 5 (Tx rfl rfl (by show E.v _=E.v _;unfold Dw;rw[abi]):Bx.le (.row false 95 (k+1) 1 λi_ j_=>if i_<k then(pg<|Dw a b) i_ j_ else(E.ky<|.sl false 1 1 λi_ j_=>[.v<|.int .u32<|IntKind.u32.wrap<|IntKind.u64.wrap<|(IntKind.u64.wrap<|kj a k+kj b k)+(Dv a b k)].getD (i_*1+j_)<|.v<|.bool false) (i_-k) j_)<|.row false 95 (k+1) 1<|pg<|Dw a b)]) aF)
  (λhk=>by
    exact iS (af [tF 16 (((ko a b+1:Nat):Int)<(((ko a b)+1:Nat):Int)) aC,.z 5]) aF) aI:jM 4 f271 (abj a b 0) (.exit 0) ⟨36,false,[(5,.e<|.sl false (ko a b+1) 1<|pg<|Dw a b)],[]⟩)<|af [.o 6 (.int rfl:aj (.v<|.int .u64 0)<|.v<|.int .u64<|Dv a b 0)]]<|rR (uP<|GZ a b) (.jq rfl:E.le (.sl false (ko a b+1) 1<|pg<|Dw a b)<|uP<|GZ a b))
def aeK(hc:Ai a b<0):il 272 [uP a,uP b]<|uP<|B8 b a:=
 pA (ae [ag [uP a,uP b]<|OX _ _ aD aD,tB 12<|bu hc,.y 5 5 false 95 1<|pg<|vy b a,.s (Sp.jP (aaa a b) 0 (UL.n b) aC (λk hk tO=>by
    exact iS (ae [tT 18 ((k:Int)<(UL.n b:Int)) aC,ag [uP b,iP k]<|DS _ _,ag [uP a,iP k]<|DS _ _,.gi (N5 _ _ _ _:mP prog .sub 148 (.v<|.int .u64<|kj b k) (.v<|.int .u64<|kj a k)<|.int .u64<|IntKind.u64.wrap<|kj b k-kj a k),.gi (N5 _ _ _ _:mP prog .sub 148 (.v<|.int .u64<|IntKind.u64.wrap<|kj b k-kj a k) (.v<|.int .u64<|vw b a k)<|.int .u64<|IntKind.u64.wrap<|(IntKind.u64.wrap<|kj b k-kj a k)-(vw b a k)),.a (aC:(k+1)*4<=140737488355328),.a (aC:0<=(63:Int)/\(63:Int)<=((64:Nat):Int)),iL<|(k:Int)+1]<|.e<|af [.o 6 (.int<|by show _=GN b a k/2^63;rw[M0]:aj (.v<|.int .u64<|(IntKind.u64.wrap<|(IntKind.u64.wrap<|kj b k-kj a k)-(vw b a k))/2^63)<|.v<|.int .u64<|vw b a<|k+1),.b 5 (Tx rfl rfl (by show E.v _=E.v _;unfold vy;rw[M0]):Bx.le (.row false 95 (k+1) 1 λi_ j_=>if i_<k then(pg<|vy b a) i_ j_ else(E.ky<|.sl false 1 1 λi_ j_=>[.v<|.int .u32<|IntKind.u32.wrap<|IntKind.u64.wrap<|(IntKind.u64.wrap<|kj b k-kj a k)-(vw b a k)].getD (i_*1+j_)<|.v<|.bool false) (i_-k) j_)<|.row false 95 (k+1) 1<|pg<|vy b a)]) aF)
  (λhk=>by
    exact iS (af [tF 18 ((UL.n b:Int)<(UL.n b:Int)) aC,.z 5]) aF) aI:jM 6 f272 (aaa a b 0) (.exit 0) ⟨38,false,[(5,.e<|.sl false (UL.n b) 1<|pg<|vy b a)],[]⟩)<|af [.o 6 (.int rfl:aj (.v<|.int .u64 0)<|.v<|.int .u64<|vw b a 0)]]<|rR (uP<|B8 b a) (.jq rfl:E.le (.sl false (UL.n b) 1<|pg<|vy b a)<|uP<|B8 b a))
def aeJ(hc:¬Ai a b<0):il 272 [uP a,uP b]<|uP<|B8 a b:=
 pA (ae [ag [uP a,uP b]<|OX _ _ aD aD,tB 12<|bn hc,.y 5 5 false 95 1<|pg<|vy a b,.s (Sp.jP (Z9 a b) 0 (UL.n a) aC (λk hk tO=>by
    exact iS (ae [tT 18 ((k:Int)<(UL.n a:Int)) aC,ag [uP a,iP k]<|DS _ _,ag [uP b,iP k]<|DS _ _,.gi (N5 _ _ _ _:mP prog .sub 148 (.v<|.int .u64<|kj a k) (.v<|.int .u64<|kj b k)<|.int .u64<|IntKind.u64.wrap<|kj a k-kj b k),.gi (N5 _ _ _ _:mP prog .sub 148 (.v<|.int .u64<|IntKind.u64.wrap<|kj a k-kj b k) (.v<|.int .u64<|vw a b k)<|.int .u64<|IntKind.u64.wrap<|(IntKind.u64.wrap<|kj a k-kj b k)-(vw a b k)),.a (aC:(k+1)*4<=140737488355328),.a (aC:0<=(63:Int)/\(63:Int)<=((64:Nat):Int)),iL<|(k:Int)+1]<|.e<|af [.o 6 (.int<|by show _=GN a b k/2^63;rw[M0]:aj (.v<|.int .u64<|(IntKind.u64.wrap<|(IntKind.u64.wrap<|kj a k-kj b k)-(vw a b k))/2^63)<|.v<|.int .u64<|vw a b<|k+1),.b 5 (Tx rfl rfl (by show E.v _=E.v _;unfold vy;rw[M0]):Bx.le (.row false 95 (k+1) 1 λi_ j_=>if i_<k then(pg<|vy a b) i_ j_ else(E.ky<|.sl false 1 1 λi_ j_=>[.v<|.int .u32<|IntKind.u32.wrap<|IntKind.u64.wrap<|(IntKind.u64.wrap<|kj a k-kj b k)-(vw a b k)].getD (i_*1+j_)<|.v<|.bool false) (i_-k) j_)<|.row false 95 (k+1) 1<|pg<|vy a b)]) aF)
  (λhk=>by
    exact iS (af [tF 18 ((UL.n a:Int)<(UL.n a:Int)) aC,.z 5]) aF) aI:jM 6 f272 (Z9 a b 0) (.exit 0) ⟨38,false,[(5,.e<|.sl false (UL.n a) 1<|pg<|vy a b)],[]⟩)<|af [.o 6 (.int rfl:aj (.v<|.int .u64 0)<|.v<|.int .u64<|vw a b 0)]]<|rR (uP<|B8 a b) (.jq rfl:E.le (.sl false (UL.n a) 1<|pg<|vy a b)<|uP<|B8 a b))
def aeL:il 272 [uP a,uP b]<|uP<|JS a b:=by
 unfold JS;split
 .exact aeK a b ha hb aD 
 .exact aeJ a b ha hb aD 
end
def L4{d:Dy}(hd:d.ix):(tc d).n<=10000:=by
 obtain⟨f1,f2,f3,f4,f5,f6,f7⟩:=WQ hd;show Qd d<=10000;unfold Qd;omega
def adG{x:Iv}(hx:x.ix):(xE x).n<=1000000:=by
 have h1:=L4 hx.jX.1;have h2:=L4 hx.jX.2;unfold xE JS B8 GZ ko;split
 .split<;>(simp only;omega)
 .simp only;split<;>omega
def US(x:Iv)(hx:x.ix):il 216 [iA x]<|uP<|xE x:=by
 obtain⟨w1,w2⟩:=hx.jX;have l1:(tc x.lo).n<=1000000:=by have:=L4 w1;omega
 have l2:(tc x.hi).n<=1000000:=by have:=L4 w2;omega
 exact iE (ae [ag [iB x.lo]<|WG _ aD,ag [iB x.hi]<|WG _ aD]<|.w (x.lo.neg=x.hi.neg)
  (λk1=>ae [tB 17<|bnt<|aZ k1,ag [uP<|tc x.lo,uP<|tc x.hi]<|aeL _ _ aD aD]<|rQ (uP<|JS (tc x.lo)<|tc x.hi) (uP<|xE x)<|by unfold xE;simp_all)
  (λk1=>ae [tB 17<|bnf<|aY k1,ag [uP<|tc x.lo,uP<|tc x.hi]<|aeM _ _ aD aD]<|rQ (uP<|GZ (tc x.lo)<|tc x.hi) (uP<|xE x)<|by unfold xE;simp_all))
def Pb(b:List Iv)(b1:1<=b.length)(b8:b.length<=8)(hb:oW b):il 138 [iG b]<|iP (pM b b.length:Int):=
 iE (ae [.c<|Im b aC aC hb,.s (Sp.jP (adH b) 0 b.length aC (λi hi mW=>by
    have BO:=TF (b:=b) i aC aC;obtain⟨w1,w2⟩:=hb i aC;obtain⟨w3,w4⟩:=hb (pM b i) BO;have l1:=adG w1;have l2:=adG w3;exact iS (ae [tT 12 ((i:Int)<b.length) aC,iX (i:Int)<|b.length,ag [iA<|b.getD i iw]<|US _ aD,iX (pM b i:Int)<|b.length,ag [iA<|b.getD (pM b i) iw]<|US _ aD,ag [uP<|xE<|b.getD i iw,uP<|xE<|b.getD (pM b i) iw]<|OX _ _ aD aD]<|.w (0<Ai (xE<|b.getD i iw) (xE<|b.getD (pM b i) iw))
     (λhc=>by
      have my:pM b (i+1)=i:=by show(if _ then _ else _)=_;rw[bk hc]
      exact ae [tB 24<|bu hc,iL<|(i:Int)+1]<|.e<|af [.o 3<|aq i (pM b<|i+1:Int)<|by rw[my]])
     (λhc=>by
      have my:pM b (i+1)=pM b i:=by show(if _ then _ else _)=_;rw[bj hc]
      exact ae [tB 24<|bn hc,iL<|(i:Int)+1]<|.e<|af [.o 3<|aq (pM b i:Int) (pM b<|i+1:Int)<|by rw[my]])) aF)
  (λhi=>by
    exact iS (af [tF 12 ((b.length:Int)<b.length) aC]) aF) aI:jM 5 f138 (adH b 0) (.exit 0) ⟨28,true,[(3,.e<|iP (pM b b.length:Int))],[]⟩)<|af [.o 3<|aq 0 (pM b 0:Int) aO]]<|rR (iP (pM b b.length:Int)) (.refl _:E.le (iP (pM b b.length:Int))<|iP (pM b b.length:Int)))
def vq{n:Nat}{x:List Iv}(h:n<=x.length):E.le (.sl true n 7<|E.ky<|iG x)<|iG<|x.take n:=by
 have hl:(x.take n).length=n:= aN ;have e:iG (x.take n) = .sl true n 7 (jC<|x.take n):=by unfold iG;rw[hl]
 rw[e];refine .sl λi j hi hj=>⟨.jq ?_,AF _ _ hj⟩
 show(jS<|x.getD i iw).getD j .any=(jS<|(x.take n).getD i iw).getD j .any;congr 2;simp[bt,hi]
def RC{n:Nat}{x:List Iv}(h:n<=x.length):E.le (.sl true (x.length-n) 7 λi_ j_=>(E.ky<|iG x) (n+i_) j_)<|iG<|x.drop n:=by
 have hl:(x.drop n).length=x.length-n:= aH ;have e:iG (x.drop n) = .sl true (x.length-n) 7 (jC<|x.drop n):=by unfold iG;rw[hl]
 rw[e];refine .sl λi j hi hj=>⟨.jq ?_,AF _ _ hj⟩
 show(jS<|x.getD (n+i) iw).getD j .any=(jS<|(x.drop n).getD i iw).getD j .any;congr 2;simp[bt]
structure mB(t:je)(x:List Iv):Prop where
 tape:wF t
 n1:1<=t.iz.length
 qK:t.iz.length<=t.iI
 len:x.length=t.iI
 ok:∀ i,i<x.length->(x.getD i iw).ix/\(x.getD i iw).all=false
def mB.sc{t:je}{x:List Iv}(h:mB t x):mS x:=λi=>by
 by_cases hi:i<x.length
 .exact (h.ok i hi).1
 .rw [bt,bW aC];exact ln
def Oa{n i:Nat}{x:List Iv}(h:i<n):(x.take n).getD i iw=x.getD i iw:=by simp[bt,h]
def V2{n i:Nat}{x:List Iv}:(x.drop n).getD i iw=x.getD (n+i) iw:=by simp[bt]
def adu{a b:List Iv}(ha:mS a)(hb:mS b):mS<|a++b:=λi=>by
 by_cases h:i<a.length
 .have e:(a++b).getD i iw=a.getD i iw:=by simp only[bt];rw[dh h]
  rw[e];exact ha i
 .have e:(a++b).getD i iw=b.getD (i-a.length) iw:=by simp only[bt];rw[dL aC]
  rw[e];exact hb _
section
variable{x:List Iv}(h:mS x)(n:Nat)
def adv:mS<|x.drop n:=λi=>by rw[V2];exact h _
def adw:mS<|x.take n:=λi=>by
 by_cases hi:i<n
 .rw [Oa hi];exact h i
 .rw [bt,bW aN];exact ln
end
def alp(x:Iv)(hx:x.ix)(xa:x.all=false):il 209 [iA x]<|bP false:=
 iE (af [.c<|qG x aD,ai 8 x.all xa])
def Df(t:je)(x:List Iv)(hk:mB t x):il 133 [jT t,iG x]<|bP true:=by
 have h:=hk.tape;have h8:=h.iI;have ss:=h.iq;have qq:=h.iz;have k1:=hk.n1;have k2:=hk.qK;have hx:=hk.len;have hv:=hk.sc;exact iE<|af [.c<|KH t aD,tT 13 (1<=(t.iz.length:Int)) aC,tT 19 ((t.iz.length:Int)<=t.iI) aC,ah 26 ((x.length:Int)==t.iI)<|GO hx,.c (AG true _ _ 209 _ (λ_=>false) (λi hi=>alp _ (hk.ok i hi).1 (hk.ok i hi).2) aC λ_ _=>rfl:il 39 [iG x,.fn 209 []] _)]
def Dg(p:Int):il 134 [iP p]<|bP<|kA p:=
 iE (.w (8<=p)
  (λk1=>ae [tB 4<|bu k1]<|rQ (bP<|decide (p<=512)) (bP<|kA p)<|by unfold kA;simp[k1])
  (λk1=>ae [tB 4<|bn k1]<|rQ (bP false) (bP<|kA p)<|by unfold kA;simp[k1]))
def aln(x:Iv):il 296 [iA x]<|bP x.all:=
 iE (.nil)
def De(l:List Iv)(hl:l.length<=1000:=by omega):il 259 [iG l]<|bP<|ni l:=
 iE (af [.c (Dd true _ _ 296 _ (λi=>(l.getD i iw).all) λi hi=>aln _:il 39 [iG l,.fn 296 []] _)])
def Fp.Ds:Dy:=⟨false,1,0⟩
def anP:Ds.ix:=by have:=EL 1 aE;rw[BV]at this;exact this
def YA(n:Nat)(x:Nat):PS:=⟨42,true,[(17,.e<|iP x),(16,.e<|iP n),(3,.own 14),(0,.e<|iP n)],[(14,.iM true 23 41 n 7 (jJ<|jl n (λ_=>n) (λi j=>jx<|if i=j then⟨false,1,0⟩else iY) x 0) (kK<|jl n (λ_=>n) (λi j=>jx<|if i=j then⟨false,1,0⟩else iY) x 0) .none)]⟩
def YB(n x:Nat)(k:Nat):PS:=⟨42,true,[(21,.e<|iP k),(20,.e<|iP n),(4,.e<|iP x),(17,.e<|iP x),(16,.e<|iP n),(3,.own 14),(0,.e<|iP n)],[(14,.iM true 23 41 n 7 (jJ<|jl n (λ_=>n) (λi j=>jx<|if i=j then⟨false,1,0⟩else iY) x k) (kK<|jl n (λ_=>n) (λi j=>jx<|if i=j then⟨false,1,0⟩else iY) x k) .none)]⟩
def V5(n:Nat)(h:n<4294967296):il 71 [iP n]<|iB<|jm (n:Int):=by
 have ok2:iW [n%4294967296,n/4294967296%4294967296]:=iW.cons (bR _ aE)<|iW.cons (bR _ aE) iW.nil;exact iE<|ae [.o 5 (.int<|s7 _:aj (.v<|.int .u64<|IntKind.u64.wrap (n:Int))<|.v<|.int .u64 (n:Int)),tF 7 ((n:Int)<0) aC,tF 11 ((n:Int)<0) aC,.o 13 (.int<|DK _:aj (.v<|.int .u32<|IntKind.u32.wrap (n:Int))<|.v<|.int .u32 ((n%4294967296:Nat):Int)),.a (aC:0<=(32:Int)/\(32:Int)<=((64:Nat):Int)),.o 15 (.int<|S9 _:aj (.v<|.int .u64<|(n:Int)/2^32)<|.v<|.int .u64 ((n/4294967296:Nat):Int)),.o 16 (.int<|DK _:aj (.v<|.int .u32<|IntKind.u32.wrap ((n/4294967296:Nat):Int))<|.v<|.int .u32 (((n/4294967296)%4294967296:Nat):Int)),.o 17 (.e<|adj _ _:aj (.sl false 2 1 λi_ j_=>[.v<|.int .u32 ((n%4294967296:Nat):Int),.v<|.int .u32 (((n/4294967296)%4294967296:Nat):Int)].getD (i_*1+j_)<|.v<|.bool false)<|iy [n%4294967296,(n/4294967296)%4294967296]),.c<|V4 false [n%4294967296,(n/4294967296)%4294967296] 0 ok2 aH aE aE]<|rQ (iB<|canon false (val [n%4294967296,(n/4294967296)%4294967296]) 0) (iB<|jm (n:Int))<|by rw[adt,(aC:n%4294967296+4294967296*(n/4294967296%4294967296)=n),BV]
def amE(n:Nat)(h1:1<=n)(h8:n<=8):il 96 [iP n]<|j9<|EH n:=by
 have v1:=anP;have v0:=ph;have int1:il 71 [iP 1]<|iB Ds:=V5 1 aE;have int0:il 71 [iP 0]<|iB iY:=V5 0 aE;have ew:rI n (λ_=>n) (λi j=>jx<|if i=j then⟨false,1,0⟩else iY)=EH n:=rfl;exact iE (ae [tF 8 ((n:Int)<1) aC,tF 11 (8<(n:Int)) aC,.a (aC:0<=((n:Int):Int)/\((n:Int):Int)<=((n:Int):Int)),.a (aC:((24:Nat):Int)*(n:Int)<=281474976710656/\((n:Int):Int)<=9223372036854775807),.s (Sp.jP (YA n) 0 n aC (λx hx mX=>by
    exact iS (ae [tT 18 ((x:Int)<n) aC,.s (Sp.jP (YB n x) 0 n aC (λk hk tO=>by
    have hle:jJ (jl n (λ_=>n) (λi j=>jx<|if i=j then⟨false,1,0⟩else iY) x k) x=k:=MT ;by_cases c1:x=k
    .have h1:=pJ<|jx Ds;exact iS (ae [tT 22 ((k:Int)<n) aC,ah 26 ((x:Int)==k)<|GO c1,iX (x:Int) n,.a (aC:x<n),ag [iP 1] int1,.c<|yh Ds aD,.o 36<|.e<|mn<|jx Ds,.a (aC:x<n),.a (aC:((jJ<|jl n (λ_=>n) (λi j=>jx<|if i=j then⟨false,1,0⟩else iY) x k) x+[jx Ds].length)*88<=140737488355328),iX (x:Int) n,.a (rfl:x=x),.a (rfl:x=x),.a (aC:x<n),iL<|(k:Int)+1]<|.e<|af [.b 14 (Ku rfl aC aC (by rw[bk c1];rfl):Bx.le (.iM true 23 41 n 7 (λq=>if q=x then(jJ<|jl n (λ_=>n) (λi j=>jx<|if i=j then⟨false,1,0⟩else iY) x k) q+[jx Ds].length else(jJ<|jl n (λ_=>n) (λi j=>jx<|if i=j then⟨false,1,0⟩else iY) x k) q) (λq i j=>if q=x then(if i<(jJ<|jl n (λ_=>n) (λi j=>jx<|if i=j then⟨false,1,0⟩else iY) x k) q then(kK<|jl n (λ_=>n) (λi j=>jx<|if i=j then⟨false,1,0⟩else iY) x k) q i j else(E.ky<|iG [jx Ds]) (i-(jJ<|jl n (λ_=>n) (λi j=>jx<|if i=j then⟨false,1,0⟩else iY) x k) q) j)else(kK<|jl n (λ_=>n) (λi j=>jx<|if i=j then⟨false,1,0⟩else iY) x k) q i j) .none)<|.iM true 23 41 n 7 (jJ<|jl n (λ_=>n) (λi j=>jx<|if i=j then⟨false,1,0⟩else iY) x<|k+1) (kK<|jl n (λ_=>n) (λi j=>jx<|if i=j then⟨false,1,0⟩else iY) x<|k+1) .none)]) aF 
    .have h1:=pJ<|jx iY;exact iS (ae [tT 22 ((k:Int)<n) aC,ai 26 ((x:Int)==k)<|am9 c1,iX (x:Int) n,.a (aC:x<n),ag [iP 0] int0,.c<|yh iY aD,.o 36<|.e<|mn<|jx iY,.a (aC:x<n),.a (aC:((jJ<|jl n (λ_=>n) (λi j=>jx<|if i=j then⟨false,1,0⟩else iY) x k) x+[jx iY].length)*88<=140737488355328),iX (x:Int) n,.a (rfl:x=x),.a (rfl:x=x),.a (aC:x<n),iL<|(k:Int)+1]<|.e<|af [.b 14 (Ku rfl aC aC (by rw[bj c1]):Bx.le (.iM true 23 41 n 7 (λq=>if q=x then(jJ<|jl n (λ_=>n) (λi j=>jx<|if i=j then⟨false,1,0⟩else iY) x k) q+[jx iY].length else(jJ<|jl n (λ_=>n) (λi j=>jx<|if i=j then⟨false,1,0⟩else iY) x k) q) (λq i j=>if q=x then(if i<(jJ<|jl n (λ_=>n) (λi j=>jx<|if i=j then⟨false,1,0⟩else iY) x k) q then(kK<|jl n (λ_=>n) (λi j=>jx<|if i=j then⟨false,1,0⟩else iY) x k) q i j else(E.ky<|iG [jx iY]) (i-(jJ<|jl n (λ_=>n) (λi j=>jx<|if i=j then⟨false,1,0⟩else iY) x k) q) j)else(kK<|jl n (λ_=>n) (λi j=>jx<|if i=j then⟨false,1,0⟩else iY) x k) q i j) .none)<|.iM true 23 41 n 7 (jJ<|jl n (λ_=>n) (λi j=>jx<|if i=j then⟨false,1,0⟩else iY) x<|k+1) (kK<|jl n (λ_=>n) (λi j=>jx<|if i=j then⟨false,1,0⟩else iY) x<|k+1) .none)]) aF)
  (λhk=>by
    exact iS (af [tF 22 ((n:Int)<n) aC]) aF) aI:jM 8 Tryz.f96 (YB n x 0) (.exit 2) ⟨42,true,[(17,.e<|iP x),(16,.e<|iP n),(3,.own 14),(0,.e<|iP n)],[(14,.iM true 23 41 n 7 (jJ<|jl n (λ_=>n) (λi j=>jx<|if i=j then⟨false,1,0⟩else iY) x n) (kK<|jl n (λ_=>n) (λi j=>jx<|if i=j then⟨false,1,0⟩else iY) x n) .none)]⟩) .nil,
     iL ((x:Int)+1)]<|.e<|af [.b 14 (NK rfl:Bx.le (.iM true 23 41 n 7 (jJ<|jl n (λ_=>n) (λi j=>jx<|if i=j then⟨false,1,0⟩else iY) x n) (kK<|jl n (λ_=>n) (λi j=>jx<|if i=j then⟨false,1,0⟩else iY) x n) .none)<|.iM true 23 41 n 7 (jJ<|jl n (λ_=>n) (λi j=>jx<|if i=j then⟨false,1,0⟩else iY) (x+1) 0) (kK<|jl n (λ_=>n) (λi j=>jx<|if i=j then⟨false,1,0⟩else iY) (x+1) 0) .none)]) aF)
  (λhx=>by
    exact iS (af [tF 18 ((n:Int)<n) aC]) aF) aI:jM 5 Tryz.f96 (YA n 0) (.exit 0) ⟨42,true,[(3,.own 14)],[(14,.iM true 23 41 n 7 (jJ<|jl n (λ_=>n) (λi j=>jx<|if i=j then⟨false,1,0⟩else iY) n 0) (kK<|jl n (λ_=>n) (λi j=>jx<|if i=j then⟨false,1,0⟩else iY) n 0) .none)]⟩)<|af [.b 14 (NJ rfl:Bx.le (.iM true 23 41 n 7 (λ_=>0) (λ_ _ _=>.any) .none)<|.iM true 23 41 n 7 (jJ<|jl n (λ_=>n) (λi j=>jx<|if i=j then⟨false,1,0⟩else iY) 0 0) (kK<|jl n (λ_=>n) (λi j=>jx<|if i=j then⟨false,1,0⟩else iY) 0 0) .none)]]<|rR (j9<|EH n) (by
      rw[<-ew,<-Lm];exact JQ (Ln _ _ _ _ _).symm:E.le (.sl true n 1 λk_ _=>.sl true ((jJ<|jl n (λ_=>n) (λi j=>jx<|if i=j then⟨false,1,0⟩else iY) n 0) k_) 7<|(kK<|jl n (λ_=>n) (λi j=>jx<|if i=j then⟨false,1,0⟩else iY) n 0) k_)<|j9<|EH n))
def aoB(b:List Iv)(p:Nat):Ki (vv b p)=me b p:=by
 unfold Ki me;have hl:(vv b p).length=b.length:=by simp[vv]
 rw[hl];apply dQ;intro i hi;unfold vv;rw[D0<|bN.1 hi]
section
variable(t:je)(x:List Iv)(p:Nat)
def nk:List Iv:=me (x.take t.iz.length) p
noncomputable def nW:List<|List Iv:=mD t x p t.iz.length
noncomputable def EP:List Iv:=kH t (nk t x p++x.drop t.iz.length) p
noncomputable def GD(y:List<|List Dy):List<|List Iv:=KC (EH t.iz.length) (AS (Dp y) (nW t x p) p) p
def BZ:List Iv:=(List.range t.iz.length).map λj_=>nn (x.getD j_ iw) ((nk t x p).getD j_ iw) p
section
variable(y:List<|List Dy)
noncomputable def tX:List Iv:=xH (Dp y) (EP t x p) p
noncomputable def vt:List Iv:=xH (GD t x p y) (BZ t x p) p
noncomputable def sZ:List Iv:=(List.range t.iz.length).map λj_=>kO (nn ((nk t x p).getD j_ iw) ((tX t x p y).getD j_ iw) p) ((vt t x p y).getD j_ iw) p
end
noncomputable def uc:Option<|List Iv:=
 if ni (kH t x p)||um (nW t x p)then none
 else match xf (tZ (nW t x p) p) t.iz.length p with
  |none=>none
  |some y=>if ni (sZ t x p y)then none else some (sZ t x p y)
end
def Ng:Option (List Iv)->E
 |none=>.iH [.v<|.slice none 0 0,iP 15]
 |some k=>.iH [iG k,iP 0]
section
variable{t:je}{x:List Iv}(hk:mB t x)
def RL{p:Nat}(h1:1<=p)(h2:p<=4096):nJ (nW t x p) t.iz.length t.iz.length:=by
 have hi:=hk.tape.iI;have h3:=hk.qK;have h4:=hk.n1;have e:nW t x p=rI t.iz.length (λ_=>t.iz.length) (oD t x p):=by
  unfold nW mD lH rI;simp only[bC,bB]
 rw[e];exact TG h4 aC h4 aC (λ_ _=>rfl) λi j _ _=>RF t hk.sc h1 h2 i j
def Zf(p:Nat):(nk t x p).length=t.iz.length:=by
 have:=hk.qK;have:=hk.len;unfold nk;rw[Iq,cJ];omega
def MM(p:Nat):mS<|nk t x p:=Lt (adw hk.sc _) p
def alN{p:Nat}(h1:1<=p)(h2:p<=4096):mS<|EP t x p:=F3 t (adu (MM hk p)<|adv hk.sc _) h1 h2
end
def Zg(t:je)(x:List Iv)(p:Nat):(BZ t x p).length=t.iz.length:=by simp[BZ]
def alK{t:je}{x:List Iv}(hk:mB t x){p:Nat}(h1:1<=p)(h2:p<=4096):mS<|BZ t x p:=λi=>by
 by_cases h:i<t.iz.length
 .unfold BZ;rw[tC h];exact pN (hk.sc i) (xr<|MM hk p i) h1 h2
 .rw [bt,bW<|by rw[Zg];omega];exact ln
structure OM(y:List<|List Dy)(n:Nat):Prop where
 dm:sS y
 len:y.length=n
def akP{m:List<|List Dy}{n p:Nat}{y:List<|List Dy}(h:xf m n p=some y)(n1:1<=n)(n8:n<=8)(h1:1<=p)(h2:p<=4096):OM y n:=by
 obtain⟨q1,q2,q3⟩:=akO h;exact⟨⟨aC,aC,λk hk=>by rw[q1]at hk ⊢;exact q2 k hk,λk i=>q3 k i h1 h2⟩,q1⟩
def alJ{t:je}{x:List Iv}(hk:mB t x){p:Nat}{y:List<|List Dy}(hy:OM y t.iz.length)(h1:1<=p)(h2:p<=4096):nJ (GD t x p y) t.iz.length t.iz.length:=by
 have hi:=hk.tape.iI;have h3:=hk.qK;have h4:=hk.n1;have go:=aa2 hy.dm;rw[hy.len]at go;exact aq8 (YD h4 aC) (aao go (RL hk h1 h2) h1 h2) h1 h2
def aaP{m:List<|List Iv}(h:um m=false):∀ i,i<m.length->∀ j,j<(m.getD i []).length->((m.getD i []).getD j iw).all=false:=λi hi j hj=>by
 have h1:=cI.1 h i<|bN.2 hi;have h1:ni (m.getD i [])=false:=by simpa using h1
 have h2:=cI.1 h1 j<|bN.2 hj;simpa using h2
section
variable{m:List<|List Dy}{n p:Nat}
def akR(hm:sS m)(hl:m.length=n)(iC:8<=p)(iu:p<=512)(h:xf m n p=none):il 262 [mH m,iP (p:Int)]<|.iH [.v<|.slice none 0 0,bP false]:=by
 subst hl;have:=ZD m hm p iC iu;rwa[h]at this
def akS{y:List<|List Dy}(hm:sS m)(hl:m.length=n)(iC:8<=p)(iu:p<=512)(h:xf m n p=some y):il 262 [mH m,iP (p:Int)]<|.iH [mH y,bP true]:=by
 subst hl;have:=ZD m hm p iC iu;rwa[h]at this
end
section
variable(t:je)(x:List Iv)(p:Nat)(y:List<|List Dy)(i:Nat)
noncomputable def Y9:PS:=⟨171,true,[(18,.own 18),(102,.e<|iP i),(101,.e<|iP t.iz.length),(16,.e<|iP 0),(17,.e<|j9<|GD t x p y),(14,.e<|iG<|EP t x p),(12,.e<|mH y),(11,.e<|iG<|nk t x p),(8,.e<|iP t.iz.length),(1,.e<|iG x),(2,.e<|iP p)],[(18,.row true 41 i 7<|jC<|(List.range i).map λj_=>nn (x.getD j_ iw) ((nk t x p).getD j_ iw) p)]⟩
noncomputable def Za:PS:=⟨171,true,[(24,.own 24),(145,.e<|iP i),(144,.e<|iP t.iz.length),(22,.e<|iG<|vt t x p y),(20,.e<|iG<|tX t x p y),(11,.e<|iG<|nk t x p),(2,.e<|iP p)],[(24,.row true 41 i 7<|jC<|(List.range i).map λj_=>kO (nn ((nk t x p).getD j_ iw) ((tX t x p y).getD j_ iw) p) ((vt t x p y).getD j_ iw) p)]⟩
end
def Zc{t:je}{x:List Iv}(hk:mB t x){p:Nat}(iC:8<=p)(iu:p<=512):il 260 [na<|vv (x.take t.iz.length) p]<|iG<|nk t x p:=by
 have h8:=hk.tape.iI;have k1:=hk.n1;have k2:=hk.qK;have hx:=hk.len;have hl:(vv (x.take t.iz.length) p).length=t.iz.length:=by unfold vv;simp;omega
 have:=afn (vv (x.take t.iz.length) p) aC aC λi=>by
  by_cases hi:i<(x.take t.iz.length).length
  .unfold vv;rw[D0 hi];exact GL (adw hk.sc _ i) p
  .rw [bt,bW<|by unfold vv;simpa using hi];exact ph
 rwa[aoB]at this
section
variable(t:je)(x:List Iv)(hk:mB t x)(p:Nat)(iC:8<=p)(iu:p<=512)
def alC(n1:(ni<|kH t x p)=true):il 211 [jT t,iG x,iP p]<|.iH [.v<|.slice none 0 0,iP 15]:=by
 have h:=hk.tape;have h8:=h.iI;have ss:=h.iq;have qq:=h.iz;have k1:=hk.n1;have k2:=hk.qK;have hx:=hk.len;have hv:=hk.sc;have q1:1<=p:= aC ;have q2:p<=4096:= aC ;have k0:1<=x.length:= aC ;have tR:t.iz.length<=1000:= aC ;have y3:=yX t x p;have wV:(nW t x p).length=t.iz.length:=yi _ _ _ _;exact iE<|af [.c<|Df t x hk,.c<|Dg (p:Int),ah 33 (kA (p:Int))<|oo.2 ⟨aC,aC⟩,.c<|CQ t x p t.iz.length h k0 hx hv k2,.c<|De<|kH t x p,ah 47 (ni<|kH t x p) n1]
section
variable(n1:(ni<|kH t x p)=false)
def alD(n2:(um<|nW t x p)=true):il 211 [jT t,iG x,iP p]<|.iH [.v<|.slice none 0 0,iP 15]:=by
 have h:=hk.tape;have h8:=h.iI;have ss:=h.iq;have qq:=h.iz;have k1:=hk.n1;have k2:=hk.qK;have hx:=hk.len;have hv:=hk.sc;have q1:1<=p:= aC ;have q2:p<=4096:= aC ;have k0:1<=x.length:= aC ;have tR:t.iz.length<=1000:= aC ;have y3:=yX t x p;have wV:(nW t x p).length=t.iz.length:=yi _ _ _ _;exact iE<|af [.c<|Df t x hk,.c<|Dg (p:Int),ah 33 (kA (p:Int))<|oo.2 ⟨aC,aC⟩,.c<|CQ t x p t.iz.length h k0 hx hv k2,.c<|De<|kH t x p,ai 47 (ni<|kH t x p) n1,.c (He true _ _ 259 [] (λi=>ni<|(nW t x p).getD i []) λi hi=>De _<|JE tR i:il 159 [j9<|nW t x p,.fn 259 []] _),ah 50 (um<|nW t x p) n2]
def alE(n2:(um<|nW t x p)=false)(hi:xf (tZ (nW t x p) p) t.iz.length p=none):il 211 [jT t,iG x,iP p]<|.iH [.v<|.slice none 0 0,iP 15]:=by
 have h:=hk.tape;have h8:=h.iI;have ss:=h.iq;have qq:=h.iz;have k1:=hk.n1;have k2:=hk.qK;have hx:=hk.len;have hv:=hk.sc;have q1:1<=p:= aC ;have q2:p<=4096:= aC ;have k0:1<=x.length:= aC ;have tR:t.iz.length<=1000:= aC ;have y3:=yX t x p;have wV:(nW t x p).length=t.iz.length:=yi _ _ _ _;have gj:=RL hk q1 q2;have BN:(x.take t.iz.length).length=t.iz.length:= aN ;have Mn:∀ i,i<(x.take t.iz.length).length->((x.take t.iz.length).getD i iw).ix/\((x.take t.iz.length).getD i iw).all=false:=λi hi=>by
  rw[Oa aC];exact hk.ok i aC 
 have Q5:=aaP n2;have By:=Zf hk p;have xT:(tZ (nW t x p) p).length=t.iz.length:=by rw[Z6,wV]
 exact iE<|af [.c<|Df t x hk,.c<|Dg (p:Int),ah 33 (kA (p:Int))<|oo.2 ⟨aC,aC⟩,.c<|CQ t x p t.iz.length h k0 hx hv k2,.c<|De<|kH t x p,ai 47 (ni<|kH t x p) n1,.c (He true _ _ 259 [] (λi=>ni<|(nW t x p).getD i []) λi hi=>De _<|JE tR i:il 159 [j9<|nW t x p,.fn 259 []] _),ai 50 (um<|nW t x p) n2,.a (aC:0<=((t.iz.length:Int):Int)/\((t.iz.length:Int):Int)<=x.length),.o 54<|.e<|vq (n:=t.iz.length) (x:=x) aC,.c<|UP (x.take t.iz.length) aC aC Mn p iC iu,ag [na<|vv (x.take t.iz.length) p]<|Zc hk iC iu,.c<|aat (nW t x p) _ _ p gj Q5 iC iu,ag [mH<|tZ (nW t x p) p,iP p]<|akR (Z7 gj) xT iC iu hi]
end
def alB(y:List<|List Dy)(n1:(ni<|kH t x p)=false)(n2:(um<|nW t x p)=false)(hi:xf (tZ (nW t x p) p) t.iz.length p=some y):il 211 [jT t,iG x,iP p]<|Ng<|if ni (sZ t x p y)then none else some (sZ t x p y):=by
 have h:=hk.tape;have h8:=h.iI;have ss:=h.iq;have qq:=h.iz;have k1:=hk.n1;have k2:=hk.qK;have hx:=hk.len;have hv:=hk.sc;have q1:1<=p:= aC ;have q2:p<=4096:= aC ;have k0:1<=x.length:= aC ;have tR:t.iz.length<=1000:= aC ;have y3:=yX t x p;have wV:(nW t x p).length=t.iz.length:=yi _ _ _ _;have gj:=RL hk q1 q2;have BN:(x.take t.iz.length).length=t.iz.length:= aN ;have Mn:∀ i,i<(x.take t.iz.length).length->((x.take t.iz.length).getD i iw).ix/\((x.take t.iz.length).getD i iw).all=false:=λi hi=>by
  rw[Oa aC];exact hk.ok i aC 
 have Q5:=aaP n2;have By:=Zf hk p;have xT:(tZ (nW t x p) p).length=t.iz.length:=by rw[Z6,wV]
 have hy:=akP hi k1 aC q1 q2;have go:=aa2 hy.dm;rw[hy.len]at go;have gk:=alJ hk hy q1 q2;have BA:=MM hk p;have Eh:(x.drop t.iz.length).length=t.iI-t.iz.length:=by rw[dz,hx]
 have Ek:(EP t x p).length=t.iz.length:=yX _ _ _;have tK:=alN hk q1 q2;have aj4:=Zg t x p;have Ei:=alK hk q1 q2;have QV:(tX t x p y).length=t.iz.length:=by show(xH _ _ _).length=_;rw[OV];exact go.iM
 have hhl:(vt t x p y).length=t.iz.length:=by show(xH _ _ _).length=_;rw[OV];exact gk.iM
 have XR:(sZ t x p y).length=t.iz.length:=by simp[sZ]
 exact iE (ae [.c<|Df t x hk,.c<|Dg (p:Int),ah 33 (kA (p:Int))<|oo.2 ⟨aC,aC⟩,.c<|CQ t x p t.iz.length h k0 hx hv k2,.c<|De<|kH t x p,ai 47 (ni<|kH t x p) n1,.c (He true _ _ 259 [] (λi=>ni<|(nW t x p).getD i []) λi hi=>De _<|JE tR i:il 159 [j9<|nW t x p,.fn 259 []] _),ai 50 (um<|nW t x p) n2,.a (aC:0<=((t.iz.length:Int):Int)/\((t.iz.length:Int):Int)<=x.length),.o 54<|.e<|vq (n:=t.iz.length) (x:=x) aC,.c<|UP (x.take t.iz.length) aC aC Mn p iC iu,ag [na<|vv (x.take t.iz.length) p]<|Zc hk iC iu,.c<|aat (nW t x p) _ _ p gj Q5 iC iu,ag [mH<|tZ (nW t x p) p,iP p]<|akS (Z7 gj) xT iC iu hi,ai 72 (((nk t x p).length:Int) != (t.iz.length:Int))<|s5 By,.a (aC:0<=((t.iz.length:Int):Int)/\((t.iz.length:Int):Int)<=x.length),.o 78<|.e<|RC (n:=t.iz.length) (x:=x) aC,.o 79<|.e<|B6 (nk t x p)<|x.drop t.iz.length,.c<|CH (nk t x p)<|x.drop t.iz.length,.c<|RJ t ((nk t x p)++(x.drop t.iz.length)) p h (by rw[cz,By,Eh];omega) (by rw[cz,By,Eh];omega) (adu BA<|adv hv _) aC aC,.c<|aau y hy.dm,.c<|amF (Dp y) (nW t x p) p _ _ _ go gj aC aC,ai 92 ((0:Int) != 0) aE,.c<|amE t.iz.length aC aC,.c<|am3 (EH t.iz.length) (AS (Dp y) (nW t x p) p) _ _ p (YD aC aC) (aao go gj q1 q2) iC iu,.y 18 18 true 41 7<|jC<|(List.range 0).map λj_=>nn (x.getD j_ iw) ((nk t x p).getD j_ iw) p,.s (Sp.jP (Y9 t x p y) 0 t.iz.length aC (λi hi mW=>by
    have v1:=hv i;have v2:=BA i;have qB:=pJ<|nn (x.getD i iw) ((nk t x p).getD i iw) p;exact iS (ae [tT 103 ((i:Int)<t.iz.length) aC,iX (i:Int)<|x.length,iX (i:Int)<|(nk t x p).length,.c<|EO (x.getD i iw) ((nk t x p).getD i iw) p aD aD,.o 116<|.e<|mn<|nn (x.getD i iw) ((nk t x p).getD i iw) p,.a (aC:(i+[nn (x.getD i iw) ((nk t x p).getD i iw) p].length)*88<=140737488355328),iL<|(i:Int)+1]<|.e<|af [.b 18 (zi rfl rfl rfl:Bx.le (.row true 41 (i+[nn (x.getD i iw) ((nk t x p).getD i iw) p].length) 7 λi_ j_=>if i_<i then(jC<|(List.range i).map λj_=>nn (x.getD j_ iw) ((nk t x p).getD j_ iw) p) i_ j_ else(E.ky<|iG [nn (x.getD i iw) ((nk t x p).getD i iw) p]) (i_-i) j_)<|.row true 41 (i+1) 7<|jC<|(List.range<|i+1).map λj_=>nn (x.getD j_ iw) ((nk t x p).getD j_ iw) p)]) aF)
  (λhi=>by
    exact iS (ae [tF 103 ((t.iz.length:Int)<t.iz.length) aC,.z 18]<|.e<|af [.o 18 (.e<|xj aH:aj (.sl true t.iz.length 7<|jC<|(List.range t.iz.length).map λj_=>nn (x.getD j_ iw) ((nk t x p).getD j_ iw) p)<|iG<|BZ t x p)]) aF) aI:jM 20 f211 (Y9 t x p y 0) (.exit 1) ⟨171,true,[(18,.e<|iG<|BZ t x p),(16,.e<|iP 0),(17,.e<|j9<|GD t x p y),(14,.e<|iG<|EP t x p),(12,.e<|mH y),(11,.e<|iG<|nk t x p),(8,.e<|iP t.iz.length),(2,.e<|iP p)],[]⟩) .nil,.c<|aau y hy.dm,.c<|aas (Dp y) (EP t x p) _ _ p go Ek tK iC iu,.c<|aas (GD t x p y) (BZ t x p) _ _ p gk aj4 Ei iC iu,ai 135 ((0:Int) != 0) aE,ai 138 ((0:Int) != 0) aE,ai 142 ((0:Int) != 0) aE,.y 24 24 true 41 7<|jC<|(List.range 0).map λj_=>kO (nn ((nk t x p).getD j_ iw) ((tX t x p y).getD j_ iw) p) ((vt t x p y).getD j_ iw) p,.s (Sp.jP (Za t x p y) 0 t.iz.length aC (λi hi mW=>by
    have v1:=BA i;have v2:=K7 (a:=Dp y) (x:=EP t x p) (i:=i) q1 q2;have v3:=K7 (a:=GD t x p y) (x:=BZ t x p) (i:=i) q1 q2;have v4:(nn ((nk t x p).getD i iw) ((tX t x p y).getD i iw) p).ix:=pN v1 (xr v2) q1 q2;have qB:=pJ<|kO (nn ((nk t x p).getD i iw) ((tX t x p y).getD i iw) p) ((vt t x p y).getD i iw) p;exact iS (ae [tT 146 ((i:Int)<t.iz.length) aC,iX (i:Int)<|(nk t x p).length,iX (i:Int)<|(tX t x p y).length,.c<|EO ((nk t x p).getD i iw) ((tX t x p y).getD i iw) p aD aD,iX (i:Int)<|(vt t x p y).length,.c<|BW (nn ((nk t x p).getD i iw) ((tX t x p y).getD i iw) p) ((vt t x p y).getD i iw) p aD aD,.o 165<|.e<|mn<|kO (nn ((nk t x p).getD i iw) ((tX t x p y).getD i iw) p) ((vt t x p y).getD i iw) p,.a (aC:(i+[kO (nn ((nk t x p).getD i iw) ((tX t x p y).getD i iw) p) ((vt t x p y).getD i iw) p].length)*88<=140737488355328),iL<|(i:Int)+1]<|.e<|af [.b 24 (zi rfl rfl rfl:Bx.le (.row true 41 (i+[kO (nn ((nk t x p).getD i iw) ((tX t x p y).getD i iw) p) ((vt t x p y).getD i iw) p].length) 7 λi_ j_=>if i_<i then(jC<|(List.range i).map λj_=>kO (nn ((nk t x p).getD j_ iw) ((tX t x p y).getD j_ iw) p) ((vt t x p y).getD j_ iw) p) i_ j_ else(E.ky<|iG [kO (nn ((nk t x p).getD i iw) ((tX t x p y).getD i iw) p) ((vt t x p y).getD i iw) p]) (i_-i) j_)<|.row true 41 (i+1) 7<|jC<|(List.range<|i+1).map λj_=>kO (nn ((nk t x p).getD j_ iw) ((tX t x p y).getD j_ iw) p) ((vt t x p y).getD j_ iw) p)]) aF)
  (λhi=>by
    exact iS (ae [tF 146 ((t.iz.length:Int)<t.iz.length) aC,.z 24]<|.e<|af [.o 24 (.e<|xj aH:aj (.sl true t.iz.length 7<|jC<|(List.range t.iz.length).map λj_=>kO (nn ((nk t x p).getD j_ iw) ((tX t x p y).getD j_ iw) p) ((vt t x p y).getD j_ iw) p)<|iG<|sZ t x p y)]) aF) aI:jM 30 f211 (Za t x p y 0) (.exit 3) ⟨171,true,[(24,.e<|iG<|sZ t x p y)],[]⟩) .nil,.c<|De<|sZ t x p y]<|.w (ni (sZ t x p y)=true)
  (λk1=>ae [tB 169 k1]<|rQ (.iH [.v<|.slice none 0 0,iP 15]) (Ng<|if ni (sZ t x p y)then none else some (sZ t x p y))<|by rw[bk k1];rfl)
  (λk1=>ae [tB 169<|bc k1]<|rQ (.iH [iG<|sZ t x p y,iP 0]) (Ng<|if ni (sZ t x p y)then none else some (sZ t x p y))<|by rw[bj k1];rfl))
def Zb:il 211 [jT t,iG x,iP (p:Int)]<|Ng<|uc t x p:=by
 unfold uc;cases n1:ni (kH t x p)with
 |true=>exact alC t x hk p iC iu n1
 |false=>
  cases n2:um (nW t x p)with
  |true=>exact alD t x hk p iC iu n1 n2
  |false=>
   rw[eB,bj aE];cases hi:xf (tZ (nW t x p) p) t.iz.length p with
   |none=>exact alE t x hk p iC iu n1 n2 hi
   |some y=>
    exact alB t x hk p iC iu y n1 n2 hi
end
def anT{t:je}{x k:List Iv}(hk:mB t x){p:Nat}(iC:8<=p)(iu:p<=512)(h:uc t x p=some k):
 ∃ y,xf (tZ (nW t x p) p) t.iz.length p=some y/\ni (kH t x p)=false/\um (nW t x p)=false/\k=sZ t x p y/\k.length=t.iz.length/\∀ i,i<k.length->(k.getD i iw).ix/\(k.getD i iw).all=false:=by
 unfold uc at h;split at h
 .cases h
 .rename_i hn;have hn:=bc hn;rw[eo]at hn;split at h
  .cases h
  .rename_i y hy;split at h
   .cases h
   .rename_i h3;cases h;have hl:(sZ t x p y).length=t.iz.length:=by simp[sZ]
    refine⟨y,hy,hn.1,hn.2,rfl,hl,λi hi=>⟨?_,?_⟩⟩
    .have q1:1<=p:= aC ;have q2:p<=4096:= aC ;unfold sZ;rw[tC aC];exact pN (pN (MM hk p i) (xr<|K7 q1 q2) q1 q2) (K7 q1 q2) q1 q2
    .have h3:=bc h3;have:=cI.1 h3 i<|bN.2 hi;simpa using this
def Dq(l:List Iv):Bool:=(List.range l.length).any λi=>!vO (l.getD i iw) iY
noncomputable def tv(t:je)(x:List Iv)(p:Nat):Bool:=Dq (kH t x p)||Dq (zz t x p)
section
variable(t:je)(b:List Iv)(p:Nat)
noncomputable def rh:Option<|Int×List Iv:=
 if tv t b p then some (1,[])else match uc t b p with
  |none=>some (0,b.take t.iz.length)
  |some k=>if AD k (b.take t.iz.length)then some (2,k)else if !E5 k (b.take t.iz.length)then some (1,[])
   else if xN (qJ k<|b.take t.iz.length) (b.take t.iz.length)then some (0,b.take t.iz.length)else none
noncomputable def JL:List Iv:=match uc t b p with
 |none=>b
 |some k=>qJ k (b.take t.iz.length)++b.drop t.iz.length
end
noncomputable def jf(t:je)(x:List Iv)(p:Nat):Nat->List Iv
 | 0=>x
 |i+1=>JL t (jf t x p i) p
noncomputable def AO(t:je)(x:List Iv)(p:Nat):Nat->Nat->Int×List Iv
 | 0,i=>(0,(jf t x p i).take t.iz.length)
 |m+1,i=>match rh t (jf t x p i) p with
  |some r=>r
  |none=>AO t x p m<|i+1
noncomputable def GI(t:je)(x:List Iv)(p:Nat):Int×List Iv:=AO t x p 12 0
def Zs(r:Int×List Iv):E:=.iH [iG r.2,iP r.1]
def aaO{c:Int}:E.le (.iH [.v<|.slice none 0 0,iP c])<|Zs (c,[]):=.iH<|.cons (.nil _ _ _)<|.cons (.refl _) .nil
def amO{t:je}{x:List Iv}{p:Nat}(hv:mS x)(h1:1<=p)(h2:p<=4096):mS<|zz t x p:=λi=>by
 by_cases h:i<t.iz.length
 .rw [amN h];exact amM hv h1 h2 i
 .rw [bt,bW<|by rw[Z4];omega];exact ln
def mB.take{t:je}{x:List Iv}(h:mB t x):lN t.iz.length<|x.take t.iz.length:=by
 have h1:=h.qK;have h2:=h.len;have hl:(x.take t.iz.length).length=t.iz.length:= aN ;exact⟨hl,λi hi=>by rw[hl]at hi;rw[Oa hi];exact h.ok i aC⟩
def mB.next{t:je}{x m:List Iv}(h:mB t x)(hm:lN t.iz.length m):mB t<|m++x.drop t.iz.length:=by
 have h1:=h.qK;have h2:=h.len;refine⟨h.tape,h.n1,h.qK,by rw[cz,hm.len,dz];omega,λi hi=>?_⟩;by_cases lg:i<m.length
 .have e:(m++x.drop t.iz.length).getD i iw=m.getD i iw:=by simp only[bt];rw[dh lg]
  rw[e];exact hm.ok i lg
 .have e:(m++x.drop t.iz.length).getD i iw=x.getD (t.iz.length+(i-m.length)) iw:=by
   rw[<-V2];simp only[bt];rw[dL aC]
  rw[e];rw[cz,dz]at hi;have:=hm.len;exact h.ok _ aC 
def GV{t:je}{x k:List Iv}(hk:mB t x){p:Nat}(iC:8<=p)(iu:p<=512)(h:uc t x p=some k):lN t.iz.length k:=by
 obtain⟨_,_,_,_,_,hl,ho⟩:=anT hk iC iu h;exact⟨hl,ho⟩
def Zx{t:je}{b:List Iv}{p:Nat}(h:rh t b p=none):tv t b p=false/\∃ k,uc t b p=some k/\AD k (b.take t.iz.length)=false/\E5 k (b.take t.iz.length)=true/\xN (qJ k<|b.take t.iz.length) (b.take t.iz.length)=false/\JL t b p=qJ k (b.take t.iz.length)++b.drop t.iz.length:=by
 unfold rh at h;split at h
 .cases h
 .rename_i h1;cases iK:uc t b p with
  |none=>rw[iK]at h;cases h
  |some k=>
   rw[iK]at h;simp only at h;split at h
   .cases h
   .rename_i h2;split at h
    .cases h
    .rename_i h3;split at h
     .cases h
     .rename_i h4;refine⟨bc h1,k,rfl,bc h2,by simpa using h3,bc h4,?_⟩;unfold JL;rw[iK]
def Zt{t:je}{b:List Iv}(hk:mB t b){p:Nat}(iC:8<=p)(iu:p<=512)(h:rh t b p=none):mB t<|JL t b p:=by
 obtain⟨_,k,h1,_,h3,_,h5⟩:=Zx h;rw[h5];exact hk.next<|RX (GV hk iC iu h1) hk.take h3
def B3{t:je}{x:List Iv}(hk:mB t x){p:Nat}(iC:8<=p)(iu:p<=512):∀ i,(∀ j,j<i->rh t (jf t x p j) p=none)->mB t (jf t x p i)
 | 0,_=>hk
 |i+1,h=>Zt (B3 hk iC iu i λj hj=>h j aC) iC iu<|h i aC
def Zu{t:je}{x:List Iv}{p N:Nat}{r:Int×List Iv}(hr:rh t (jf t x p N) p=some r):∀ d m i,i+d=N->d<m->(∀ j,j<N->rh t (jf t x p j) p=none)->AO t x p m i=r
 | 0,m,i,h1,h2,h=>by
  obtain⟨m,rfl⟩:∃ q,m=q+1:=⟨m-1,aC⟩
  obtain rfl:i=N:= aC ;unfold AO;rw[hr]
 |d+1,m,i,h1,h2,h=>by
  obtain⟨m,rfl⟩:∃ q,m=q+1:=⟨m-1,aC⟩
  unfold AO;rw[h i aC];exact Zu hr d m (i+1) aC aC h
def Zw{t:je}{x:List Iv}{p:Nat}:∀ m i,(∀ j,j<i+m->rh t (jf t x p j) p=none)->AO t x p m i=(0,(jf t x p<|i+m).take t.iz.length)
 | 0,i,_=>rfl
 |m+1,i,h=>by
  unfold AO;rw[h i aC];have:=Zw (t:=t) (x:=x) (p:=p) m (i+1) λj hj=>h j aC;rw[(aC:i+1+m=i+(m+1))]at this;exact this
def Fc{P:Program}{K:World->Prop}{f:FuncId}{args:List E}{nl:Bool}{T:TypeId}{n sz:Nat}{el:Nat->Nat->E}(h:wD P K f args nl T n sz el):PC P K f args<|.sl nl n sz el:=
 ⟨h.call,λw B vs hK hB hr=>(h.run w B vs hK hB hr).mono λe w' ⟨v,he,hb,g,lW,tJ,At⟩=>⟨v,he,hb,by
  rcases lW with⟨rfl,rfl⟩|⟨b,ofs,c,cur,rfl,hg,qf,oZ,nL,kF,jQ⟩
  .exact .sl nl 0 sz el none 0 g (bw _) aE (λ_=>rfl) (λi j hi=>absurd hi<|bC i) (λi j hi=>absurd hi<|bC i) (λi j hi=>absurd hi<|bC i) (λi j hi=>absurd hi<|bC i)
  .have rO:=tJ b rfl;refine .sl nl n sz el _ c g qf (by unfold maxLen at oZ;omega) (λh=>by cases h) (λi j hi hj=>⟨(kF i j hi hj).2,λhn=>jQ hn _<|ek (kF i j hi hj).1⟩) (λi j hi hj=>(At i j hi hj).2)
    (λi j hi hj=>⟨b,ofs,rfl,λMc=>absurd (hB b Mc).1 aC,rO.2,?_⟩) (λi j hi hj=>(At i j hi hj).1.nS (λ_ h=>.inl h) λ_ h=>h)
   simp only[World.cell?,hg];simpa using(kF i j hi hj).1⟩⟩
def Nf{t:je}{x k:List Iv}(hk:mB t x){p:Nat}(iC:8<=p)(iu:p<=512)(h:uc t x p=some k):il 211 [jT t,iG x,iP (p:Int)]<|.iH [iG k,iP 0]:=by
 have:=Zb t x hk p iC iu;rwa[h]at this
def anY{t:je}{x:List Iv}(hk:mB t x){p:Nat}(iC:8<=p)(iu:p<=512)(h:uc t x p=none):il 211 [jT t,iG x,iP (p:Int)]<|.iH [.v<|.slice none 0 0,iP 15]:=by
 have:=Zb t x hk p iC iu;rwa[h]at this
noncomputable def wa(t:je)(x:List Iv)(p:Nat)(i:Nat):PS:=⟨68,true,[(19,.e<|iP i),(9,.e<|iG<|jf t x p i),(8,.e<|iP t.iz.length),(3,.box 3 0),(2,.e<|iP p)],[(3,.cells 29 [iP t.iI,lG t.iq,lL t.iz])]⟩
def alA(x:Iv)(d:Dy)(hx:x.ix)(hd:d.ix):il 256 [iA x,(.jK 3 λj_=>[bP d.neg,iy<|im d.m,iP d.e].getD j_ .any)]<|bP<|!(vO x d):=
 iE (ae [.c<|YU x d aD aD]<|rR (bP<|!(vO x d)) (.refl _:E.le (bP<|!(vO x d))<|bP<|!(vO x d)))
def Y8(l:List Iv)(hl:l.length<=1000)(hv:mS l):il 255 [iG l,(.jK 3 λj_=>[bP iY.neg,iy<|im iY.m,iP iY.e].getD j_ .any)]<|bP<|Dq l:=
 iE (ae [.c (Dd true _ _ 256 _ (λi=>!vO (l.getD i iw) iY) λi hi=>alA _ _ (hv i) ph:il 39 [iG l,.fn 256 [(.jK 3 λj_=>[bP iY.neg,iy<|im iY.m,iP iY.e].getD j_ .any)]] _)]<|rR (bP<|Dq l) (.refl _:E.le (bP<|Dq l)<|bP<|Dq l))
section
variable(t:je)(x:List Iv)
def GC(hk:mB t x)(p:Nat)(iC:8<=p)(iu:p<=512):il 210 [jT t,iG x,iP p]<|bP<|tv t x p:=by
 have h:=hk.tape;have h8:=h.iI;have ss:=h.iq;have qq:=h.iz;have k1:=hk.n1;have k2:=hk.qK;have hx:=hk.len;have hv:=hk.sc;have k0:1<=x.length:= aC ;have y3:=yX t x p;have nj:=Z4 t x p;have tK:=F3 t hv (aC:1<=p) (aC:p<=4096);have Ja:=amO (t:=t) hv (aC:1<=p) (aC:p<=4096);exact iE (ae [.o 9 (.e uQ:aj (.agg ar)<|iB iY),.c<|RJ t x p h k0 hx hv iC iu,ag [iG<|kH t x p,(.jK 3 λj_=>[bP iY.neg,iy<|im iY.m,iP iY.e].getD j_ .any)]<|Y8 _ aC tK]<|.w (Dq (kH t x p)=true)
  (λk1=>ae [tB 16 k1]<|rQ (bP true) (bP<|tv t x p)<|sw<|by unfold tv;simp_all)
  (λk1=>ae [tB 16<|bc k1,.c<|alz t x p h k0 hx hv iC iu λi hi=>(hk.ok i hi).2,ag [iG<|zz t x p,(.jK 3 λj_=>[bP iY.neg,iy<|im iY.m,iP iY.e].getD j_ .any)]<|Y8 _ aC Ja]<|rQ (bP<|Dq<|zz t x p) (bP<|tv t x p)<|sw<|by unfold tv;simp_all))
def GB(p:Nat)(i:Nat)(hk:mB t x)(iC:8<=p)(iu:p<=512)(h:wF t)(h8:t.iI<=8)(qq:t.iz.length<=200)(k1:1<=t.iz.length)(k2:t.iz.length<=t.iI)(hx:x.length=t.iI)(hv:mS x)(mW:i<12)(ji:∀ j,j<i+1->rh t (jf t x p j) p=none):Sp prog Tb (O9 4 f136) (wa t x p i) λe_ υ_=>e_ = .normal/\υ_=(wa t x p<|i+1):=by
 obtain⟨sr,k,iK,kP,y5,heq,my⟩:=Zx<|ji i aC;have lZ:=B3 hk iC iu i λj hj=>ji j aC 
 have rO:=lZ.len;have I3:=lZ.qK;have su:=lZ.take;have BN:=su.len;have tbo:=su.ok;have uA:=GV lZ iC iu iK;have kbo:=uA.ok;have kl:=uA.len;have kb1:1<=k.length:= aC ;have kb8:k.length<=8:= aC ;have kbl:k.length=((jf t x p i).take t.iz.length).length:= aC ;have rT:=RX uA su y5;have mbo:=rT.ok;have mlen:=rT.len;have mb1:1<=(qJ k<|(jf t x p i).take t.iz.length).length:= aC ;have mb8:(qJ k<|(jf t x p i).take t.iz.length).length<=8:= aC ;have mbl:(qJ k<|(jf t x p i).take t.iz.length).length=((jf t x p i).take t.iz.length).length:= aC ;have BC:((jf t x p i).drop t.iz.length).length=t.iI-t.iz.length:=by rw[dz,rO]
 exact iS (ae [tT 20 ((i:Int)<12) aC,ag [jT t,iG<|jf t x p i,iP p]<|GC _ _ lZ _ iC iu,ai 24 (tv t (jf t x p i) p) sr,ag [jT t,iG<|jf t x p i,iP p]<|Nf lZ iC iu iK,ai 33 ((0:Int) != 0) aE,.a (aC:0<=((t.iz.length:Int):Int)/\((t.iz.length:Int):Int)<=((jf t x p i).length:Int)),.o 40<|.e<|vq (n:=t.iz.length) (x:=(jf t x p i)) aC,.c<|Lj k ((jf t x p i).take t.iz.length) kb1 kb8 kbl.symm kbo tbo,ai 41 (AD k<|(jf t x p i).take t.iz.length) kP,.a (aC:0<=((t.iz.length:Int):Int)/\((t.iz.length:Int):Int)<=((jf t x p i).length:Int)),.o 47<|.e<|vq (n:=t.iz.length) (x:=(jf t x p i)) aC,.c<|UO k ((jf t x p i).take t.iz.length) kb1 kb8 kbl.symm kbo tbo y5,.a (aC:0<=((t.iz.length:Int):Int)/\((t.iz.length:Int):Int)<=((jf t x p i).length:Int)),.o 56<|.e<|vq (n:=t.iz.length) (x:=(jf t x p i)) aC,.c<|DU (qJ k<|(jf t x p i).take t.iz.length) ((jf t x p i).take t.iz.length) mb1 mb8 mbl.symm mbo tbo,ai 57 (xN (qJ k<|(jf t x p i).take t.iz.length)<|(jf t x p i).take t.iz.length) heq,.a (aC:0<=((t.iz.length:Int):Int)/\((t.iz.length:Int):Int)<=((jf t x p i).length:Int)),.o 61<|.e<|RC (n:=t.iz.length) (x:=(jf t x p i)) aC,.o 62<|.e<|B6 (qJ k<|(jf t x p i).take t.iz.length)<|(jf t x p i).drop t.iz.length,.c<|CH (qJ k<|(jf t x p i).take t.iz.length)<|(jf t x p i).drop t.iz.length,
  iL ((i:Int)+1)]<|.e<|af [.o 9 (.e<|.jq<|by rw[show jf t x p (i+1)=JL t (jf t x p i) p from rfl,my]:aj (iG<|(qJ k<|(jf t x p i).take t.iz.length)++((jf t x p i).drop t.iz.length))<|iG<|jf t x p<|i+1)]) aF 
section
variable(hk:mB t x)(p:Nat)(iC:8<=p)(iu:p<=512)
section
variable(N:Nat)(hN:N<12)(ji:∀ j,j<N->rh t (jf t x p j) p=none)
def alr(sr:(tv t (jf t x p N) p)=true):il 136 [jT t,iG x,iP p]<|.iH [.v<|.slice none 0 0,iP 1]:=by
 have h:=hk.tape;have h8:=h.iI;have ss:=h.iq;have qq:=h.iz;have k1:=hk.n1;have k2:=hk.qK;have hx:=hk.len;have hv:=hk.sc;have k0:1<=x.length:= aC ;exact iE (ae [ag [iG x]<|Fc<|Af x,.s (Sp.jP (wa t x p) 0 N aC (λi hi mW=>by
    exact GB t x p i hk iC iu h h8 qq k1 k2 hx hv aC λj hj=>ji j aC)
  (λhi=>by
    have lZ:=B3 hk iC iu N ji;have rO:=lZ.len;have I3:=lZ.qK;have su:=lZ.take;have BN:=su.len;have tbo:=su.ok;exact iS (af [tT 20 ((N:Int)<12) aC,ag [jT t,iG<|jf t x p N,iP p]<|GC _ _ lZ _ iC iu,ah 24 (tv t (jf t x p N) p) sr]) aF) aI:jM 4 f136 (wa t x p 0) .ret ⟨68,true,[(7,.e<|iP 1),(6,.e<|.v<|.slice none 0 0)],[]⟩)<|af [.o 9<|.refl<|.e<|iG<|jf t x p 0]]<|rR (.iH [.v<|.slice none 0 0,iP 1]) (.refl _:E.le (.iH [.v<|.slice none 0 0,iP 1])<|.iH [.v<|.slice none 0 0,iP 1]))
section
variable(sr:(tv t (jf t x p N) p)=false)
def als(iK:uc t (jf t x p N) p=none):il 136 [jT t,iG x,iP p]<|.iH [iG<|(jf t x p N).take t.iz.length,iP 0]:=by
 have h:=hk.tape;have h8:=h.iI;have ss:=h.iq;have qq:=h.iz;have k1:=hk.n1;have k2:=hk.qK;have hx:=hk.len;have hv:=hk.sc;have k0:1<=x.length:= aC ;exact iE (ae [ag [iG x]<|Fc<|Af x,.s (Sp.jP (wa t x p) 0 N aC (λi hi mW=>by
    exact GB t x p i hk iC iu h h8 qq k1 k2 hx hv aC λj hj=>ji j aC)
  (λhi=>by
    have lZ:=B3 hk iC iu N ji;have rO:=lZ.len;have I3:=lZ.qK;have su:=lZ.take;have BN:=su.len;have tbo:=su.ok;exact iS (af [tT 20 ((N:Int)<12) aC,ag [jT t,iG<|jf t x p N,iP p]<|GC _ _ lZ _ iC iu,ai 24 (tv t (jf t x p N) p) sr,ag [jT t,iG<|jf t x p N,iP p]<|anY lZ iC iu iK,ah 33 ((15:Int) != 0) aE,.a (aC:0<=((t.iz.length:Int):Int)/\((t.iz.length:Int):Int)<=((jf t x p N).length:Int)),.o 36<|.e<|vq (n:=t.iz.length) (x:=(jf t x p N)) aC]) aF) aI:jM 4 f136 (wa t x p 0) .ret ⟨68,true,[(7,.e<|iP 0),(6,.e<|iG<|(jf t x p N).take t.iz.length)],[]⟩)<|af [.o 9<|.refl<|.e<|iG<|jf t x p 0]]<|rR (.iH [iG<|(jf t x p N).take t.iz.length,iP 0]) (.refl _:E.le (.iH [iG<|(jf t x p N).take t.iz.length,iP 0])<|.iH [iG<|(jf t x p N).take t.iz.length,iP 0]))
section
variable(k:List Iv)(iK:uc t (jf t x p N) p=some k)
def alu(kP:(AD k<|(jf t x p N).take t.iz.length)=true):il 136 [jT t,iG x,iP p]<|.iH [iG k,iP 2]:=by
 have h:=hk.tape;have h8:=h.iI;have ss:=h.iq;have qq:=h.iz;have k1:=hk.n1;have k2:=hk.qK;have hx:=hk.len;have hv:=hk.sc;have k0:1<=x.length:= aC ;exact iE (ae [ag [iG x]<|Fc<|Af x,.s (Sp.jP (wa t x p) 0 N aC (λi hi mW=>by
    exact GB t x p i hk iC iu h h8 qq k1 k2 hx hv aC λj hj=>ji j aC)
  (λhi=>by
    have lZ:=B3 hk iC iu N ji;have rO:=lZ.len;have I3:=lZ.qK;have su:=lZ.take;have BN:=su.len;have tbo:=su.ok;have uA:=GV lZ iC iu iK;have kbo:=uA.ok;have kl:=uA.len;have kb1:1<=k.length:= aC ;have kb8:k.length<=8:= aC ;have kbl:k.length=((jf t x p N).take t.iz.length).length:= aC ;exact iS (af [tT 20 ((N:Int)<12) aC,ag [jT t,iG<|jf t x p N,iP p]<|GC _ _ lZ _ iC iu,ai 24 (tv t (jf t x p N) p) sr,ag [jT t,iG<|jf t x p N,iP p]<|Nf lZ iC iu iK,ai 33 ((0:Int) != 0) aE,.a (aC:0<=((t.iz.length:Int):Int)/\((t.iz.length:Int):Int)<=((jf t x p N).length:Int)),.o 40<|.e<|vq (n:=t.iz.length) (x:=(jf t x p N)) aC,.c<|Lj k ((jf t x p N).take t.iz.length) kb1 kb8 kbl.symm kbo tbo,ah 41 (AD k<|(jf t x p N).take t.iz.length) kP]) aF) aI:jM 4 f136 (wa t x p 0) .ret ⟨68,true,[(7,.e<|iP 2),(6,.e<|iG k)],[]⟩)<|af [.o 9<|.refl<|.e<|iG<|jf t x p 0]]<|rR (.iH [iG k,iP 2]) (.refl _:E.le (.iH [iG k,iP 2])<|.iH [iG k,iP 2]))
section
variable(kP:(AD k<|(jf t x p N).take t.iz.length)=false)
def alv(y5:E5 k ((jf t x p N).take t.iz.length)=false):il 136 [jT t,iG x,iP p]<|.iH [.v<|.slice none 0 0,iP 1]:=by
 have h:=hk.tape;have h8:=h.iI;have ss:=h.iq;have qq:=h.iz;have k1:=hk.n1;have k2:=hk.qK;have hx:=hk.len;have hv:=hk.sc;have k0:1<=x.length:= aC ;exact iE (ae [ag [iG x]<|Fc<|Af x,.s (Sp.jP (wa t x p) 0 N aC (λi hi mW=>by
    exact GB t x p i hk iC iu h h8 qq k1 k2 hx hv aC λj hj=>ji j aC)
  (λhi=>by
    have lZ:=B3 hk iC iu N ji;have rO:=lZ.len;have I3:=lZ.qK;have su:=lZ.take;have BN:=su.len;have tbo:=su.ok;have uA:=GV lZ iC iu iK;have kbo:=uA.ok;have kl:=uA.len;have kb1:1<=k.length:= aC ;have kb8:k.length<=8:= aC ;have kbl:k.length=((jf t x p N).take t.iz.length).length:= aC ;exact iS (af [tT 20 ((N:Int)<12) aC,ag [jT t,iG<|jf t x p N,iP p]<|GC _ _ lZ _ iC iu,ai 24 (tv t (jf t x p N) p) sr,ag [jT t,iG<|jf t x p N,iP p]<|Nf lZ iC iu iK,ai 33 ((0:Int) != 0) aE,.a (aC:0<=((t.iz.length:Int):Int)/\((t.iz.length:Int):Int)<=((jf t x p N).length:Int)),.o 40<|.e<|vq (n:=t.iz.length) (x:=(jf t x p N)) aC,.c<|Lj k ((jf t x p N).take t.iz.length) kb1 kb8 kbl.symm kbo tbo,ai 41 (AD k<|(jf t x p N).take t.iz.length) kP,.a (aC:0<=((t.iz.length:Int):Int)/\((t.iz.length:Int):Int)<=((jf t x p N).length:Int)),.o 47<|.e<|vq (n:=t.iz.length) (x:=(jf t x p N)) aC,.c<|afk k ((jf t x p N).take t.iz.length) kb1 kb8 kbl.symm kbo tbo y5]) aF) aI:jM 4 f136 (wa t x p 0) .ret ⟨68,true,[(7,.e<|iP 1),(6,.e<|.v<|.slice none 0 0)],[]⟩)<|af [.o 9<|.refl<|.e<|iG<|jf t x p 0]]<|rR (.iH [.v<|.slice none 0 0,iP 1]) (.refl _:E.le (.iH [.v<|.slice none 0 0,iP 1])<|.iH [.v<|.slice none 0 0,iP 1]))
def alw(y5:E5 k ((jf t x p N).take t.iz.length)=true)(heq:(xN (qJ k<|(jf t x p N).take t.iz.length)<|(jf t x p N).take t.iz.length)=true):il 136 [jT t,iG x,iP p]<|.iH [iG<|(jf t x p N).take t.iz.length,iP 0]:=by
 have h:=hk.tape;have h8:=h.iI;have ss:=h.iq;have qq:=h.iz;have k1:=hk.n1;have k2:=hk.qK;have hx:=hk.len;have hv:=hk.sc;have k0:1<=x.length:= aC ;have Mu:=B3 hk iC iu N ji;have XR:=Mu.len;exact iE (ae [ag [iG x]<|Fc<|Af x,.s (Sp.jP (wa t x p) 0 N aC (λi hi mW=>by
    exact GB t x p i hk iC iu h h8 qq k1 k2 hx hv aC λj hj=>ji j aC)
  (λhi=>by
    have lZ:=B3 hk iC iu N ji;have rO:=lZ.len;have I3:=lZ.qK;have su:=lZ.take;have BN:=su.len;have tbo:=su.ok;have uA:=GV lZ iC iu iK;have kbo:=uA.ok;have kl:=uA.len;have kb1:1<=k.length:= aC ;have kb8:k.length<=8:= aC ;have kbl:k.length=((jf t x p N).take t.iz.length).length:= aC ;have rT:=RX uA su y5;have mbo:=rT.ok;have mlen:=rT.len;have mb1:1<=(qJ k<|(jf t x p N).take t.iz.length).length:= aC ;have mb8:(qJ k<|(jf t x p N).take t.iz.length).length<=8:= aC ;have mbl:(qJ k<|(jf t x p N).take t.iz.length).length=((jf t x p N).take t.iz.length).length:= aC ;have BC:((jf t x p N).drop t.iz.length).length=t.iI-t.iz.length:=by rw[dz,rO]
    exact iS (af [tT 20 ((N:Int)<12) aC,ag [jT t,iG<|jf t x p N,iP p]<|GC _ _ lZ _ iC iu,ai 24 (tv t (jf t x p N) p) sr,ag [jT t,iG<|jf t x p N,iP p]<|Nf lZ iC iu iK,ai 33 ((0:Int) != 0) aE,.a (aC:0<=((t.iz.length:Int):Int)/\((t.iz.length:Int):Int)<=((jf t x p N).length:Int)),.o 40<|.e<|vq (n:=t.iz.length) (x:=(jf t x p N)) aC,.c<|Lj k ((jf t x p N).take t.iz.length) kb1 kb8 kbl.symm kbo tbo,ai 41 (AD k<|(jf t x p N).take t.iz.length) kP,.a (aC:0<=((t.iz.length:Int):Int)/\((t.iz.length:Int):Int)<=((jf t x p N).length:Int)),.o 47<|.e<|vq (n:=t.iz.length) (x:=(jf t x p N)) aC,.c<|UO k ((jf t x p N).take t.iz.length) kb1 kb8 kbl.symm kbo tbo y5,.a (aC:0<=((t.iz.length:Int):Int)/\((t.iz.length:Int):Int)<=((jf t x p N).length:Int)),.o 56<|.e<|vq (n:=t.iz.length) (x:=(jf t x p N)) aC,.c<|DU (qJ k<|(jf t x p N).take t.iz.length) ((jf t x p N).take t.iz.length) mb1 mb8 mbl.symm mbo tbo,ah 57 (xN (qJ k<|(jf t x p N).take t.iz.length)<|(jf t x p N).take t.iz.length) heq]) aF) aI:jM 4 f136 (wa t x p 0) (.exit 0) ⟨68,true,[(9,.e<|iG<|jf t x p N),(8,.e<|iP t.iz.length)],[]⟩)<|af [.o 9<|.refl<|.e<|iG<|jf t x p 0],.a (aC:0<=((t.iz.length:Int):Int)/\((t.iz.length:Int):Int)<=((jf t x p N).length:Int)),.o 67<|.e<|vq (n:=t.iz.length) (x:=(jf t x p N)) aC]<|rR (.iH [iG<|(jf t x p N).take t.iz.length,iP 0]) (.refl _:E.le (.iH [iG<|(jf t x p N).take t.iz.length,iP 0])<|.iH [iG<|(jf t x p N).take t.iz.length,iP 0]))
end
end
end
end
def alx(ji:∀ j,j<12->rh t (jf t x p j) p=none):il 136 [jT t,iG x,iP p]<|.iH [iG<|(jf t x p 12).take t.iz.length,iP 0]:=by
 have h:=hk.tape;have h8:=h.iI;have ss:=h.iq;have qq:=h.iz;have k1:=hk.n1;have k2:=hk.qK;have hx:=hk.len;have hv:=hk.sc;have k0:1<=x.length:= aC ;have Mu:=B3 hk iC iu 12 ji;have XR:=Mu.len;exact iE (ae [ag [iG x]<|Fc<|Af x,.s (Sp.jP (wa t x p) 0 12 aC (λi hi mW=>by
    exact GB t x p i hk iC iu h h8 qq k1 k2 hx hv aC λj hj=>ji j aC)
  (λhi=>by
    exact iS (af [ai 20 (decide ((12:Int)<12)) aE]) aF) aI:jM 4 f136 (wa t x p 0) (.exit 0) ⟨68,true,[(9,.e<|iG<|jf t x p 12),(8,.e<|iP t.iz.length)],[]⟩)<|af [.o 9<|.refl<|.e<|iG<|jf t x p 0],.a (aC:0<=((t.iz.length:Int):Int)/\((t.iz.length:Int):Int)<=((jf t x p 12).length:Int)),.o 67<|.e<|vq (n:=t.iz.length) (x:=(jf t x p 12)) aC]<|rR (.iH [iG<|(jf t x p 12).take t.iz.length,iP 0]) (.refl _:E.le (.iH [iG<|(jf t x p 12).take t.iz.length,iP 0])<|.iH [iG<|(jf t x p 12).take t.iz.length,iP 0]))
def aly:il 136 [jT t,iG x,iP p]<|Zs<|GI t x p:=by
 by_cases hx:∃ N,N<12/\(rh t (jf t x p N) p).isSome=true
 .obtain ⟨N,hN,h2,h3⟩:=sx hx;have ji:∀ j,j<N->rh t (jf t x p j) p=none:=λj hj=>by simpa using h3 j hj
  cases hr:rh t (jf t x p N) p with
  |none=>rw[hr]at h2;cases h2
  |some r=>
   have er:GI t x p=r:=Zu hr N 12 0 aC hN ji;rw[er];clear er;unfold rh at hr;split at hr
   .rename_i sr;cases hr;exact(alr t x hk p iC iu N hN ji sr).jk aaO
   .rename_i sr;have sr:=bc sr;cases iK:uc t (jf t x p N) p with
    |none=>
     rw[iK]at hr;cases hr;exact als t x hk p iC iu N hN ji sr iK
    |some k=>
     rw[iK]at hr;simp only at hr;split at hr
     .rename_i kP;cases hr;exact alu t x hk p iC iu N hN ji sr k iK kP
     .rename_i kP;have kP:=bc kP;split at hr
      .rename_i y5;cases hr;exact(alv t x hk p iC iu N hN ji sr k iK kP<|by simpa using y5).jk aaO
      .rename_i y5;split at hr
       .rename_i heq;cases hr;exact alw t x hk p iC iu N hN ji sr k iK kP (by simpa using y5) heq
       .cases hr
 .have ji:∀ j,j<12->rh t (jf t x p j) p=none:=λj hj=>by
   cases h:rh t (jf t x p j) p with
   |none=>rfl
   |some r=>exact absurd ⟨j,hj,by rw[h];rfl⟩ hx
  have er:GI t x p=(0,(jf t x p 12).take t.iz.length):=Zw 12 0 (by simpa using ji);rw[er];exact alx t x hk p iC iu ji
end
end
section
variable(R:List<|List Iv×Bool)
abbrev pV:Nat->Nat->E:=λi j=>([iG (R.getD i ([],false)).1,bP (R.getD i ([],false)).2]:List E).getD j .any
def sP:E:=.sl true R.length 2<|pV R
end
def apP{R:List<|List Iv×Bool}{i j:Nat}(hj:j<2):(pV R i j).nr 2=true:=by
 rcases j with _|_|j
 .exact JB _
 .rfl
 .omega
def Ks{T n n' m:Nat}{R R':List<|List Iv×Bool}{b:List Iv}{s:Bool}{p:E}(hR:R'=R++[(b,s)])(hn:n=R.length)(hm:m=1)(sU:n'=R'.length)(hp:∀ j,j<2->p.ky 0 j=([iG b,bP s]:List E).getD j .any):
 Bx.le (.row true T (n+m) 2 λi j=>if i<n then pV R i j else(E.ky p) (i-n) j) (.row true T n' 2<|pV R'):=by
 subst hR hn hm sU;refine .row aH λi j hi hj=>⟨.jq ?_,apP hj⟩
 by_cases h:i<R.length
 .rw [bk h];have e:(R++[(b,s)]).getD i ([],false)=R.getD i ([],false):=by simp[bt,dh h]
  show pV R i j=pV (R++[(b,s)]) i j;simp only[pV,e]
 .have lg:i=R.length:= aC ;subst lg;have e:(R++[(b,s)]).getD R.length ([],false)=(b,s):=by simp[bt]
  rw[bj h,dg,hp j hj];simp only[pV,e]
def aoG{T n:Nat}{b:List Iv}{Q:List<|List Iv}(hQ:Q=[b])(hn:n=Q.length):Bx.le (.row true T 1 1 λi_ j_=>[iG b].getD (i_*1+j_)<|.v<|.bool false)<|.row true T n 1<|nX Q:=by
 subst hQ hn;refine .row rfl λi j hi hj=>⟨.jq ?_,JB _⟩
 obtain rfl:i=0:= aC ;obtain rfl:j=0:= aC ;rfl
def G4{T n:Nat}{Q Q':List<|List Iv}(hQ:Q'=Q.drop 1)(hn:n=Q'.length):Bx.le (.row true T (Q.length-1) 1 λi j=>nX Q (1+i) j)<|.row true T n 1<|nX Q':=by
 subst hQ hn;refine .row aH λi j hi hj=>⟨.jq ?_,JB _⟩
 show iG (Q.getD (1+i) [])=iG ((Q.drop 1).getD i []);congr 1;simp[bt,gw]
def aoI{T n m:Nat}{Q Q':List<|List Iv}{a b:List Iv}{p:E}(hQ:Q'=Q.drop 1++[a,b])(hm:m=2)(hn:n=Q'.length)(hp:∀ i j,i<2->j<1->p.ky i j=iG (([a,b]:List<|List Iv).getD i [])):
 Bx.le (.row true T (Q.length-1+m) 1 λi j=>if i<Q.length-1 then(λi j=>nX Q (1+i) j) i j else(E.ky p) (i-(Q.length-1)) j) (.row true T n 1<|nX Q'):=by
 subst hQ hm hn;refine .row aH λi j hi hj=>⟨.jq ?_,JB _⟩
 by_cases h:i<Q.length-1
 .rw [bk h];show iG (Q.getD (1+i) [])=iG ((Q.drop 1++[a,b]).getD i []);congr 1;simp only[bt];rw[dh<|by simpa using h];simp[gw]
 .rw [bj h,hp _ _ aC hj];show _=iG ((Q.drop 1++[a,b]).getD i []);congr 1;simp only[bt];rw[dL<|by simpa using h];simp
structure Ac where
 q:List<|List Iv
 r:List<|List Iv×Bool
noncomputable def kU(t:je)(x:List Iv)(p:Nat)(s:Ac):Int×List Iv:=GI t (s.q.getD 0 []++x.drop t.iz.length) p
def Fz(most:Int)(s:Ac)(i:Nat):Bool:=decide (most<((s.r.length+(s.q.length-1)+2:Nat):Int))||decide (4000<((i+1:Nat):Int))
def tD(m:List Iv)(p:Nat):List Iv:=GJ m (pM m m.length) p
def ue(m:List Iv)(p:Nat):List Iv:=Ge m (pM m m.length) p
noncomputable def qM(t:je)(x:List Iv)(most:Int)(p i:Nat)(s:Ac):Ac:=
 if(kU t x p s).1=1 then⟨s.q.drop 1,s.r⟩
 else if(kU t x p s).1=2 then⟨s.q.drop 1,s.r++[((kU t x p s).2,true)]⟩
 else if Fz most s i then⟨s.q.drop 1,s.r++[((kU t x p s).2,false)]⟩
 else if xN (tD (kU t x p s).2 p) (kU t x p s).2||xN (ue (kU t x p s).2 p) (kU t x p s).2 then⟨s.q.drop 1,s.r++[((kU t x p s).2,false)]⟩
 else⟨s.q.drop 1++[tD (kU t x p s).2 p,ue (kU t x p s).2 p],s.r⟩
noncomputable def iR(t:je)(x:List Iv)(most:Int)(p:Nat):Nat->Ac
 | 0=>⟨[x.take t.iz.length],[]⟩
 |i+1=>qM t x most p i<|iR t x most p i
def acT(t:je)(x:List Iv)(most:Int)(p i:Nat)(s:Ac):(qM t x most p i s).r.length<=s.r.length+1/\(qM t x most p i s).q.length<=s.q.length+2/\(qM t x most p i s).q.length+2*(4000-(i+1))<=s.q.length-1+2*(4000-i):=by
 unfold qM;split
 .simp;omega
 .split
  .simp;omega
  .split
   .simp;omega
   .rename_i h;have h:=bc h;unfold Fz at h;rw[eo]at h;have h:=gl h.2;split
    .simp;omega
    .simp;omega
def Th(t:je)(x:List Iv)(most:Int)(p:Nat):∀ i,(iR t x most p i).r.length<=i/\(iR t x most p i).q.length<=2*i+1
 | 0=>⟨bw _,bw _⟩
 |i+1=>by
  have h1:=acT t x most p i<|iR t x most p i;have h2:=Th t x most p i;show(qM t x most p i<|iR t x most p i).r.length<=i+1/\(qM t x most p i<|iR t x most p i).q.length<=2*(i+1)+1;omega
def acU(t:je)(x:List Iv)(most:Int)(p:Nat):∀ i,(∀ j,j<i->(iR t x most p j).q.length≠0)->(iR t x most p i).q.length+2*(4000-i)+i<=8001
 | 0,_=>by show[x.take t.iz.length].length+_<=_;simp
 |i+1,h=>by
  have h1:=acT t x most p i<|iR t x most p i;have h2:=acU t x most p i λj hj=>h j aC 
  have h3:=h i aC;show(qM t x most p i<|iR t x most p i).q.length+_+_<=_;omega
section
variable(t:je)(x:List Iv)(most:Int)(p:Nat)
def N9:∃ N,N<=8001/\(iR t x most p N).q.length=0/\∀ i,i<N->(iR t x most p i).q.length≠0:=by
 have hx:∃ N,N<8002/\decide ((iR t x most p N).q.length=0)=true:=ca λhc=>by
  have:=acU t x most p 8001 λj hj h0=>hc ⟨j,aC,bu h0⟩
  exact hc ⟨8001,aC,bu aC⟩
 obtain⟨N,h1,h2,h3⟩:=sx hx;exact⟨N,aC,cL h2,λi hi h0=>by have:=h3 i hi;rw[bu h0]at this;cases this⟩
noncomputable def svN:Nat:=(N9 t x most p).choose
noncomputable def Tc:List<|List Iv×Bool:=(iR t x most p<|svN t x most p).r
end
def amf{t:je}{b:List Iv}(hk:mB t b){p:Nat}(iC:8<=p)(iu:p<=512){r:Int×List Iv}(h:rh t b p=some r)(h1:r.1≠1):lN t.iz.length r.2:=by
 unfold rh at h;split at h
 .cases h;exact absurd rfl h1
 .cases iK:uc t b p with
  |none=>rw[iK]at h;cases h;exact hk.take
  |some k=>
   rw[iK]at h;simp only at h;split at h
   .cases h;exact GV hk iC iu iK
   .split at h
    .cases h;exact absurd rfl h1
    .split at h
     .cases h;exact hk.take
     .cases h
def Zv{t:je}{x:List Iv}{p:Nat}(iC:8<=p)(iu:p<=512):∀ m i,mB t (jf t x p i)->(AO t x p m i).1≠1->lN t.iz.length (AO t x p m i).2
 | 0,i,hk,_=>hk.take
 |m+1,i,hk,h=>by
  unfold AO at h ⊢;cases hr:rh t (jf t x p i) p with
  |some r=>rw[hr]at h;exact amf hk iC iu hr h
  |none=>rw[hr]at h;exact Zv iC iu m (i+1) (Zt hk iC iu hr) h
def RS{t:je}{x:List Iv}{p:Nat}(hk:mB t x)(iC:8<=p)(iu:p<=512)(h:(GI t x p).1≠1):lN t.iz.length (GI t x p).2:=Zv iC iu 12 0 hk h
def Z5{x:Iv}(hx:x.ix)(xa:x.all=false)(p:Nat):jN x.lo (lX x p)<=0/\jN (lX x p) x.hi<=0:=by
 have hle:jN x.lo x.hi<=0:=by
  rcases hx with h|⟨_,_,_,h⟩
  .rw [h.1]at xa;cases xa
  .exact h
 unfold lX;split
 .split
  .rename_i h;have h:=h.2;unfold CW at h;rw[bK]at h;exact⟨cL h.1,cL h.2⟩
  .exact ⟨B2 _,hle⟩
 .exact ⟨B2 _,hle⟩
section
variable{n:Nat}{m:List Iv}(h:lN n m){k:Nat}(p:Nat)
def ZR:lN n<|GJ m k p:=by
 unfold GJ;refine⟨by rw[cY];exact h.len,λi hi=>?_⟩;rw[cY]at hi;rw[ML hi];obtain⟨v,va⟩:=h.ok i hi;split
 .rename_i e;subst e;exact⟨.inr ⟨va,v.jX.1,GL v p,(Z5 v va p).1⟩,va⟩
 .exact ⟨v,va⟩
def XM:lN n<|Ge m k p:=by
 unfold Ge;refine⟨by rw[cY];exact h.len,λi hi=>?_⟩;rw[cY]at hi;rw[ML hi];obtain⟨v,va⟩:=h.ok i hi;split
 .rename_i e;subst e;exact⟨.inr ⟨va,GL v p,v.jX.2,(Z5 v va p).2⟩,va⟩
 .exact ⟨v,va⟩
end
def wj{q:List<|List Iv}(h:q.length≠0):q.getD 0 [] ∈ q:=by
 rw[bt,bD aC];exact cB _
def ark{t:je}{x:List Iv}(hk:mB t x){most:Int}{p i:Nat}(iC:8<=p)(iu:p<=512){s:Ac}(hs:∀ b,b ∈ s.q->lN t.iz.length b)(h0:s.q.length≠0):∀ b,b ∈ (qM t x most p i s).q->lN t.iz.length b:=by
 have hd:∀ b,b ∈ s.q.drop 1->lN t.iz.length b:=λb hb=>hs b<|eh hb
 have hb:=hk.next<|hs _<|wj h0
 intro b;unfold qM;split
 .exact hd b
 .rename_i n1;have hm:=RS hb iC iu n1;split
  .exact hd b
  .split
   .exact hd b
   .split
    .exact hd b
    .intro h;rcases di.1 h with h|h
     .exact hd b h
     .simp only[dw,List.not_mem_nil,or_false]at h;rcases h with rfl|rfl
      .exact ZR hm p
      .exact XM hm p
def Ti{t:je}{x:List Iv}(hk:mB t x){most:Int}{p:Nat}(iC:8<=p)(iu:p<=512):∀ i,(∀ j,j<i->(iR t x most p j).q.length≠0)->∀ b,b ∈ (iR t x most p i).q->lN t.iz.length b
 | 0,_=>λb hb=>by
  have hb:b ∈ [x.take t.iz.length]:=hb;rw[eu]at hb;subst hb;exact hk.take
 |i+1,h=>ark hk iC iu (Ti hk iC iu i λj hj=>h j aC)<|h i aC
def Hl{t:je}{x:List Iv}{p:Nat}{s:Ac}(hk:mB t<|s.q.getD 0 []++x.drop t.iz.length)(iC:8<=p)(iu:p<=512)(k1:1<=t.iz.length)(k8:t.iz.length<=8)(g1:¬(kU t x p s).1=1):
 lN t.iz.length (kU t x p s).2/\(kU t x p s).2.length=t.iz.length/\oW (kU t x p s).2/\1<=(kU t x p s).2.length/\(kU t x p s).2.length<=8:=by
 have hm:lN t.iz.length (kU t x p s).2:=RS hk iC iu g1;have:=hm.len;exact⟨hm,this,hm.ok,aC,aC⟩
def Tj{n:Nat}(p:Nat){m:List Iv}(hm:lN n m)(k1:1<=n)(k8:n<=8):pM m m.length<m.length/\oW (tD m p)/\oW (ue m p)/\1<=(tD m p).length/\(tD m p).length<=8/\m.length=(tD m p).length /\
 1<=(ue m p).length/\(ue m p).length<=8/\m.length=(ue m p).length/\[tD m p,ue m p].length=2:=by
 have h1:=ZR (k:=pM m m.length) hm p;have h2:=XM (k:=pM m m.length) hm p;have l:=hm.len;have l1:(tD m p).length=n:=h1.len;have l2:(ue m p).length=n:=h2.len;exact⟨TF _ aC<|bw _,h1.ok,h2.ok,aC,aC,aC,aC,aC,aC,rfl⟩
noncomputable def Ze(t:je)(x:List Iv)(most:Int)(p N:Nat)(i:Nat):PS:=⟨126,true,[(11,.own 11),(13,.e<|iP i),(12,.own 44),(10,.e<|iP t.iz.length),(4,.box 4 0),(1,.e<|iG x),(2,.e<|iP most),(3,.e<|iP p)],[(11,.row true 62 ((iR t x most p i).r.length) 2<|pV (iR t x most p i).r),(44,.row true 23 ((iR t x most p i).q.length) 1<|nX (iR t x most p i).q),(4,.cells 29 [iP t.iI,lG t.iq,lL t.iz])]⟩
section
variable(t:je)(x:List Iv)(hk:mB t x)(most:Int)(p:Nat)(iC:8<=p)(iu:p<=512)(m1:1<=most)(m2:most<=10000)
def alG(N:Nat)(hN:N<=8001)(h0:(iR t x most p N).q.length=0)(hq:∀ i,i<N->(iR t x most p i).q.length≠0):il 78 [jT t,iG x,iP most,iP p]<|.iH [sP (iR t x most p N).r,iP 0]:=by
 have h:=hk.tape;have h8:=h.iI;have ss:=h.iq;have qq:=h.iz;have k1:=hk.n1;have k2:=hk.qK;have hx:=hk.len;have hv:=hk.sc;have k0:1<=x.length:= aC ;have BN:(x.take t.iz.length).length=t.iz.length:= aN ;have BC:(x.drop t.iz.length).length=t.iI-t.iz.length:=by rw[dz,hx]
 exact iE (ae [.c<|Df t x hk,.c<|Dg (p:Int),ah 27 (kA (p:Int))<|oo.2 ⟨aC,aC⟩,tF 31 (most<1) aC,tF 35 (10000<most) aC,.a (aC:0<=((t.iz.length:Int):Int)/\((t.iz.length:Int):Int)<=x.length),.o 42<|.e<|vq (n:=t.iz.length) (x:=x) aC,ag [iG<|x.take t.iz.length]<|Fc<|Af _,.bo,.y 11 11 true 62 2<|pV [],.s (Sp.jP (Ze t x most p N) 0 N aC (λi hi mW=>by
    have xX:=hq i aC;have C4:=Th t x most p i;have Q7:=Ti hk (most:=most) iC iu i (λj hj=>hq j aC) _<|wj xX;have vj:=Q7.len;have lZ:=hk.next Q7
    exact iS (ae [tT 47 (0<((iR t x most p i).q.length:Int)) aC,iX 0<|(iR t x most p i).q.length,.a (aC:0<(iR t x most p i).q.length),.a (aC:0<=(1:Int)/\(1:Int)<=((iR t x most p i).q.length:Int)),.a (aC:0<=((t.iz.length:Int):Int)/\((t.iz.length:Int):Int)<=x.length),.o 58<|.e<|RC (n:=t.iz.length) (x:=x) aC,.o 59<|.e<|B6 ((iR t x most p i).q.getD 0 [])<|x.drop t.iz.length,.c<|CH ((iR t x most p i).q.getD 0 [])<|x.drop t.iz.length,.c<|aly t (((iR t x most p i).q.getD 0 [])++(x.drop t.iz.length)) lZ p iC iu,iL<|(i:Int)+1]<|.w ((kU t x p<|iR t x most p i).1=1)
     (λg1=>by
      have my:iR t x most p (i+1)=⟨(iR t x most p i).q.drop 1,(iR t x most p i).r⟩:=by show qM _ _ _ _ _ _=_;unfold qM;rw[bk g1]
      exact ae [tB 69<|aZ g1]<|.e<|af [.b 11 (.jq<|by rw[my]:Bx.le (.row true 62 ((iR t x most p i).r.length) 2<|pV (iR t x most p i).r)<|.row true 62 ((iR t x most p<|i+1).r.length) 2<|pV (iR t x most p<|i+1).r),.b 44 (G4 (Q:=(iR t x most p i).q) (Q':=(iR t x most p<|i+1).q) (by rw[my]) rfl:Bx.le (.row true 23 ((iR t x most p i).q.length-1) 1 λi_ j_=>(nX (iR t x most p i).q) (1+i_) j_)<|.row true 23 ((iR t x most p<|i+1).q.length) 1<|nX (iR t x most p<|i+1).q)])
     (λg1=>ae [tB 69<|aY g1]<|.w ((kU t x p<|iR t x most p i).1=2)
      (λg2=>by
       have kX:=Hl lZ iC iu k1 (aC:t.iz.length<=8) g1;have hm:=kX.1;have mlen:=kX.2.1;have mbo:=kX.2.2.1;have mb1:=kX.2.2.2.1;have mb8:=kX.2.2.2.2;have my:iR t x most p (i+1)=⟨(iR t x most p i).q.drop 1,(iR t x most p i).r++[((kU t x p<|iR t x most p i).2,true)]⟩:=by show qM _ _ _ _ _ _=_;unfold qM;rw[bj g1,bk g2]
       exact ae [tB 71<|aZ g2,.a (aC:((iR t x most p i).r.length+1)*32<=140737488355328)]<|.e<|af [.b 11 (Ks (R:=(iR t x most p i).r) (R':=(iR t x most p<|i+1).r) (by rw[my]) rfl rfl rfl (λj hj=>by obtain rfl|rfl:j=0\/j=1:= aC <;>rfl):Bx.le (.row true 62 ((iR t x most p i).r.length+1) 2 λi_ j_=>if i_<(iR t x most p i).r.length then(pV (iR t x most p i).r) i_ j_ else(E.ky<|.sl true 1 2 λi_ j_=>[iG<|(kU t x p<|iR t x most p i).2,bP true].getD (i_*2+j_)<|.v<|.bool false) (i_-(iR t x most p i).r.length) j_)<|.row true 62 ((iR t x most p<|i+1).r.length) 2<|pV (iR t x most p<|i+1).r),.b 44 (G4 (Q:=(iR t x most p i).q) (Q':=(iR t x most p<|i+1).q) (by rw[my]) rfl:Bx.le (.row true 23 ((iR t x most p i).q.length-1) 1 λi_ j_=>(nX (iR t x most p i).q) (1+i_) j_)<|.row true 23 ((iR t x most p<|i+1).q.length) 1<|nX (iR t x most p<|i+1).q)])
      (λg2=>ae [tB 71<|aY g2,iL<|((iR t x most p i).r.length:Int)+(((iR t x most p i).q.length-1:Nat):Int),
       iL ((((iR t x most p i).r.length+((iR t x most p i).q.length-1):Nat):Int)+2)]<|.w (most<(((iR t x most p i).r.length+((iR t x most p i).q.length-1)+2:Nat):Int))
       (λg3=>by
        have kX:=Hl lZ iC iu k1 (aC:t.iz.length<=8) g1;have hm:=kX.1;have mlen:=kX.2.1;have mbo:=kX.2.2.1;have mb1:=kX.2.2.2.1;have mb8:=kX.2.2.2.2;have my:iR t x most p (i+1)=⟨(iR t x most p i).q.drop 1,(iR t x most p i).r++[((kU t x p<|iR t x most p i).2,false)]⟩:=by show qM _ _ _ _ _ _=_;unfold qM;rw[bj g1,bj g2,bk<|by unfold Fz;rw[bu g3];rfl]
        exact ae [tB 84<|bu g3,.a (aC:((iR t x most p i).r.length+1)*32<=140737488355328)]<|.e<|af [.b 11 (Ks (R:=(iR t x most p i).r) (R':=(iR t x most p<|i+1).r) (by rw[my]) rfl rfl rfl (λj hj=>by obtain rfl|rfl:j=0\/j=1:= aC <;>rfl):Bx.le (.row true 62 ((iR t x most p i).r.length+1) 2 λi_ j_=>if i_<(iR t x most p i).r.length then(pV (iR t x most p i).r) i_ j_ else(E.ky<|.sl true 1 2 λi_ j_=>[iG<|(kU t x p<|iR t x most p i).2,bP false].getD (i_*2+j_)<|.v<|.bool false) (i_-(iR t x most p i).r.length) j_)<|.row true 62 ((iR t x most p<|i+1).r.length) 2<|pV (iR t x most p<|i+1).r),.b 44 (G4 (Q:=(iR t x most p i).q) (Q':=(iR t x most p<|i+1).q) (by rw[my]) rfl:Bx.le (.row true 23 ((iR t x most p i).q.length-1) 1 λi_ j_=>(nX (iR t x most p i).q) (1+i_) j_)<|.row true 23 ((iR t x most p<|i+1).q.length) 1<|nX (iR t x most p<|i+1).q)])
       (λg3=>ae [tB 84<|bn g3]<|.w ((4000:Int)<((i+1:Nat):Int))
        (λg3b=>by
         have kX:=Hl lZ iC iu k1 (aC:t.iz.length<=8) g1;have hm:=kX.1;have mlen:=kX.2.1;have mbo:=kX.2.2.1;have mb1:=kX.2.2.2.1;have mb8:=kX.2.2.2.2;have my:iR t x most p (i+1)=⟨(iR t x most p i).q.drop 1,(iR t x most p i).r++[((kU t x p<|iR t x most p i).2,false)]⟩:=by show qM _ _ _ _ _ _=_;unfold qM;rw[bj g1,bj g2,bk<|by unfold Fz;rw[bu g3b,Bool.or_true]]
         exact ae [tB 87<|bu g3b,.a (aC:((iR t x most p i).r.length+1)*32<=140737488355328)]<|.e<|af [.b 11 (Ks (R:=(iR t x most p i).r) (R':=(iR t x most p<|i+1).r) (by rw[my]) rfl rfl rfl (λj hj=>by obtain rfl|rfl:j=0\/j=1:= aC <;>rfl):Bx.le (.row true 62 ((iR t x most p i).r.length+1) 2 λi_ j_=>if i_<(iR t x most p i).r.length then(pV (iR t x most p i).r) i_ j_ else(E.ky<|.sl true 1 2 λi_ j_=>[iG<|(kU t x p<|iR t x most p i).2,bP false].getD (i_*2+j_)<|.v<|.bool false) (i_-(iR t x most p i).r.length) j_)<|.row true 62 ((iR t x most p<|i+1).r.length) 2<|pV (iR t x most p<|i+1).r),.b 44 (G4 (Q:=(iR t x most p i).q) (Q':=(iR t x most p<|i+1).q) (by rw[my]) rfl:Bx.le (.row true 23 ((iR t x most p i).q.length-1) 1 λi_ j_=>(nX (iR t x most p i).q) (1+i_) j_)<|.row true 23 ((iR t x most p<|i+1).q.length) 1<|nX (iR t x most p<|i+1).q)])
        (λg3b=>ae [tB 87<|bn g3b]<|.w ((xN (tD (kU t x p<|iR t x most p i).2 p) (kU t x p<|iR t x most p i).2)=true)
         (λg4=>by
          have kX:=Hl lZ iC iu k1 (aC:t.iz.length<=8) g1;have hm:=kX.1;have mlen:=kX.2.1;have mbo:=kX.2.2.1;have mb1:=kX.2.2.2.1;have mb8:=kX.2.2.2.2;have kX:=Tj p hm k1 (aC:t.iz.length<=8);have BO:=kX.1;have lbo:=kX.2.1;have iZ:=kX.2.2.1;have lb1:=kX.2.2.2.1;have lb8:=kX.2.2.2.2.1;have lbl:=kX.2.2.2.2.2.1;have kI:=kX.2.2.2.2.2.2.1;have Mk:=kX.2.2.2.2.2.2.2.1;have rO:=kX.2.2.2.2.2.2.2.2.1;have X2:=kX.2.2.2.2.2.2.2.2.2;have my:iR t x most p (i+1)=⟨(iR t x most p i).q.drop 1,(iR t x most p i).r++[((kU t x p<|iR t x most p i).2,false)]⟩:=by show qM _ _ _ _ _ _=_;unfold qM;rw[bj g1,bj g2,bj<|by unfold Fz;rw[bn g3,bn g3b];decide,bk<|by rw[g4];rfl]
          exact ae [.c<|Pb ((kU t x p<|iR t x most p i).2) mb1 mb8 mbo,.c<|Pa ((kU t x p<|iR t x most p i).2) mb1 mb8 mbo (pM (kU t x p<|iR t x most p i).2 (kU t x p<|iR t x most p i).2.length) p iC iu BO,ai 104 ((0:Int) != 0) aE,.c<|DU (tD (kU t x p<|iR t x most p i).2 p) ((kU t x p<|iR t x most p i).2) lb1 lb8 lbl lbo mbo,ah 108 (xN (tD (kU t x p<|iR t x most p i).2 p) (kU t x p<|iR t x most p i).2) g4,.a (aC:((iR t x most p i).r.length+1)*32<=140737488355328)]<|.e<|af [.b 11 (Ks (R:=(iR t x most p i).r) (R':=(iR t x most p<|i+1).r) (by rw[my]) rfl rfl rfl (λj hj=>by obtain rfl|rfl:j=0\/j=1:= aC <;>rfl):Bx.le (.row true 62 ((iR t x most p i).r.length+1) 2 λi_ j_=>if i_<(iR t x most p i).r.length then(pV (iR t x most p i).r) i_ j_ else(E.ky<|.sl true 1 2 λi_ j_=>[iG<|(kU t x p<|iR t x most p i).2,bP false].getD (i_*2+j_)<|.v<|.bool false) (i_-(iR t x most p i).r.length) j_)<|.row true 62 ((iR t x most p<|i+1).r.length) 2<|pV (iR t x most p<|i+1).r),.b 44 (G4 (Q:=(iR t x most p i).q) (Q':=(iR t x most p<|i+1).q) (by rw[my]) rfl:Bx.le (.row true 23 ((iR t x most p i).q.length-1) 1 λi_ j_=>(nX (iR t x most p i).q) (1+i_) j_)<|.row true 23 ((iR t x most p<|i+1).q.length) 1<|nX (iR t x most p<|i+1).q)])
         (λg4=>.w ((xN (ue (kU t x p<|iR t x most p i).2 p) (kU t x p<|iR t x most p i).2)=true)
          (λg5=>by
           have kX:=Hl lZ iC iu k1 (aC:t.iz.length<=8) g1;have hm:=kX.1;have mlen:=kX.2.1;have mbo:=kX.2.2.1;have mb1:=kX.2.2.2.1;have mb8:=kX.2.2.2.2;have kX:=Tj p hm k1 (aC:t.iz.length<=8);have BO:=kX.1;have lbo:=kX.2.1;have iZ:=kX.2.2.1;have lb1:=kX.2.2.2.1;have lb8:=kX.2.2.2.2.1;have lbl:=kX.2.2.2.2.2.1;have kI:=kX.2.2.2.2.2.2.1;have Mk:=kX.2.2.2.2.2.2.2.1;have rO:=kX.2.2.2.2.2.2.2.2.1;have X2:=kX.2.2.2.2.2.2.2.2.2;have my:iR t x most p (i+1)=⟨(iR t x most p i).q.drop 1,(iR t x most p i).r++[((kU t x p<|iR t x most p i).2,false)]⟩:=by show qM _ _ _ _ _ _=_;unfold qM;rw[bj g1,bj g2,bj<|by unfold Fz;rw[bn g3,bn g3b];decide,bk<|by rw[g5,Bool.or_true]]
           exact ae [.c<|Pb ((kU t x p<|iR t x most p i).2) mb1 mb8 mbo,.c<|Pa ((kU t x p<|iR t x most p i).2) mb1 mb8 mbo (pM (kU t x p<|iR t x most p i).2 (kU t x p<|iR t x most p i).2.length) p iC iu BO,ai 104 ((0:Int) != 0) aE,.c<|DU (tD (kU t x p<|iR t x most p i).2 p) ((kU t x p<|iR t x most p i).2) lb1 lb8 lbl lbo mbo,tB 108<|bc g4,.c<|DU (ue (kU t x p<|iR t x most p i).2 p) ((kU t x p<|iR t x most p i).2) kI Mk rO iZ mbo,ah 113 (xN (ue (kU t x p<|iR t x most p i).2 p) (kU t x p<|iR t x most p i).2) g5,.a (aC:((iR t x most p i).r.length+1)*32<=140737488355328)]<|.e<|af [.b 11 (Ks (R:=(iR t x most p i).r) (R':=(iR t x most p<|i+1).r) (by rw[my]) rfl rfl rfl (λj hj=>by obtain rfl|rfl:j=0\/j=1:= aC <;>rfl):Bx.le (.row true 62 ((iR t x most p i).r.length+1) 2 λi_ j_=>if i_<(iR t x most p i).r.length then(pV (iR t x most p i).r) i_ j_ else(E.ky<|.sl true 1 2 λi_ j_=>[iG<|(kU t x p<|iR t x most p i).2,bP false].getD (i_*2+j_)<|.v<|.bool false) (i_-(iR t x most p i).r.length) j_)<|.row true 62 ((iR t x most p<|i+1).r.length) 2<|pV (iR t x most p<|i+1).r),.b 44 (G4 (Q:=(iR t x most p i).q) (Q':=(iR t x most p<|i+1).q) (by rw[my]) rfl:Bx.le (.row true 23 ((iR t x most p i).q.length-1) 1 λi_ j_=>(nX (iR t x most p i).q) (1+i_) j_)<|.row true 23 ((iR t x most p<|i+1).q.length) 1<|nX (iR t x most p<|i+1).q)])
          (λg5=>by
           have kX:=Hl lZ iC iu k1 (aC:t.iz.length<=8) g1;have hm:=kX.1;have mlen:=kX.2.1;have mbo:=kX.2.2.1;have mb1:=kX.2.2.2.1;have mb8:=kX.2.2.2.2;have kX:=Tj p hm k1 (aC:t.iz.length<=8);have BO:=kX.1;have lbo:=kX.2.1;have iZ:=kX.2.2.1;have lb1:=kX.2.2.2.1;have lb8:=kX.2.2.2.2.1;have lbl:=kX.2.2.2.2.2.1;have kI:=kX.2.2.2.2.2.2.1;have Mk:=kX.2.2.2.2.2.2.2.1;have rO:=kX.2.2.2.2.2.2.2.2.1;have X2:=kX.2.2.2.2.2.2.2.2.2;have my:iR t x most p (i+1)=⟨(iR t x most p i).q.drop 1++[tD (kU t x p<|iR t x most p i).2 p,ue (kU t x p<|iR t x most p i).2 p],(iR t x most p i).r⟩:=by show qM _ _ _ _ _ _=_;unfold qM;rw[bj g1,bj g2,bj<|by unfold Fz;rw[bn g3,bn g3b];decide,bj<|by rw[bc g4,bc g5];decide]
           exact ae [.c<|Pb ((kU t x p<|iR t x most p i).2) mb1 mb8 mbo,.c<|Pa ((kU t x p<|iR t x most p i).2) mb1 mb8 mbo (pM (kU t x p<|iR t x most p i).2 (kU t x p<|iR t x most p i).2.length) p iC iu BO,ai 104 ((0:Int) != 0) aE,.c<|DU (tD (kU t x p<|iR t x most p i).2 p) ((kU t x p<|iR t x most p i).2) lb1 lb8 lbl lbo mbo,tB 108<|bc g4,.c<|DU (ue (kU t x p<|iR t x most p i).2 p) ((kU t x p<|iR t x most p i).2) kI Mk rO iZ mbo,tB 113<|bc g5,.o 123<|.e<|B6 (tD (kU t x p<|iR t x most p i).2 p)<|ue (kU t x p<|iR t x most p i).2 p,.a (aC:(((iR t x most p i).q.length-1)+[tD (kU t x p<|iR t x most p i).2 p,ue (kU t x p<|iR t x most p i).2 p].length)*24<=140737488355328)]<|.e<|af [.b 11 (.jq<|by rw[my]:Bx.le (.row true 62 ((iR t x most p i).r.length) 2<|pV (iR t x most p i).r)<|.row true 62 ((iR t x most p<|i+1).r.length) 2<|pV (iR t x most p<|i+1).r),.b 44 (aoI (Q:=(iR t x most p i).q) (Q':=(iR t x most p<|i+1).q) (by rw[my]) rfl rfl (λi j hi hj=>by obtain rfl:j=0:= aC;obtain rfl|rfl:i=0\/i=1:= aC <;>rfl):Bx.le (.row true 23 (((iR t x most p i).q.length-1)+[tD (kU t x p<|iR t x most p i).2 p,ue (kU t x p<|iR t x most p i).2 p].length) 1 λi_ j_=>if i_<((iR t x most p i).q.length-1)then(λi_ j_=>(nX (iR t x most p i).q) (1+i_) j_) i_ j_ else(E.ky<|j9 [tD (kU t x p<|iR t x most p i).2 p,ue (kU t x p<|iR t x most p i).2 p]) (i_-((iR t x most p i).q.length-1)) j_)<|.row true 23 ((iR t x most p<|i+1).q.length) 1<|nX (iR t x most p<|i+1).q)]))))))) aF)
  (λhi=>by
    exact iS (af [tF 47 (0<((iR t x most p N).q.length:Int)) aC,.z 11]) aF) aI:jM 9 Tryz.f78 (Ze t x most p N 0) (.exit 1) ⟨126,true,[(11,.e<|.sl true ((iR t x most p N).r.length) 2<|pV (iR t x most p N).r)],[]⟩)<|af [.b 11<|.refl<|.row true 62 ((iR t x most p 0).r.length) 2<|pV (iR t x most p 0).r,.b 44 (aoG rfl rfl:Bx.le (.row true 23 1 1 λi_ j_=>[iG<|x.take t.iz.length].getD (i_*1+j_)<|.v<|.bool false)<|.row true 23 ((iR t x most p 0).q.length) 1<|nX (iR t x most p 0).q)]]<|rR (.iH [sP (iR t x most p N).r,iP 0]) (.refl _:E.le (.iH [.sl true ((iR t x most p N).r.length) 2<|pV (iR t x most p N).r,iP 0])<|.iH [sP (iR t x most p N).r,iP 0]))
def alH:il 78 [jT t,iG x,iP most,iP p]<|.iH [sP<|Tc t x most p,iP 0]:=by
 obtain⟨h1,h2,h3⟩:=(N9 t x most p).choose_spec;exact alG t x hk most p iC iu m1 m2 _ h1 h2 h3
end
def Tl{s:lY}{x:List Iv}(h:nK s)(hx:lN s.jg x):mB s.tape<|x++s.params:=by
 have h1:=h.s1;have h2:=h.iI;have h3:=h.iz;have h4:=hx.len;refine⟨h.tape,aC,aC,by rw[cz];omega,λi hi=>?_⟩;by_cases lg:i<x.length
 .have e:(x++s.params).getD i iw=x.getD i iw:=by simp only[bt];rw[dh lg]
  rw[e];exact hx.ok i lg
 .have e:(x++s.params).getD i iw=s.params.getD (i-x.length) iw:=by simp only[bt];rw[dL aC]
  rw[e];rw[cz]at hi;exact h.params _ aC 
noncomputable def yV(s:lY)(x:List Iv)(most:Int)(p:Nat):List<|List Iv×Bool:=Tc s.tape (x++s.params) most p
section
variable(R:List<|List Iv×Bool)
def KG:Bool:=(List.range R.length).all λi=>(R.getD i ([],false)).2
def zL:List<|List Iv:=(List.range R.length).map λi=>(R.getD i ([],false)).1
def Nz:E:=if KG R then .iH [j9<|zL R,iP 0]else .iH [.v<|.slice none 0 0,iP 15]
end
def acS(t:je)(x:List Iv)(most:Int)(p:Nat):(Tc t x most p).length<=8001:=by
 obtain⟨h1,h2,h3⟩:=(N9 t x most p).choose_spec;have:=(Th t x most p<|svN t x most p).1;exact bA this h1
section
variable(R:List<|List Iv×Bool)
def abI(i:Nat):PS:=⟨42,true,[(12,.own 12),(28,.e<|iP i),(27,.e<|iP R.length),(26,.e<|sP R)],[(12,.row true 23 i 1<|nX<|(List.range i).map λi=>(R.getD i ([],false)).1)]⟩
def abH(N:Nat)(i:Nat):PS:=⟨42,true,[(12,.own 12),(28,.e<|iP i),(27,.e<|iP R.length),(26,.e<|sP R)],[(12,.row true 23 i 1<|nX<|(List.range i).map λi=>(R.getD i ([],false)).1)]⟩
end
section
variable(s:lY)(x:List Iv)
def Y7(h:nK s)(hx:lN s.jg x)(most:Int)(p:Nat)(iC:8<=p)(iu:p<=512)(m1:1<=most)(m2:most<=10000):il 27 [kS s,iG x,iP most,iP p]<|.iH [sP<|yV s x most p,iP 0]:=by
 have s1:=h.s1;have s4:=h.s4;have p4:=h.p4;have hl:=hx.len;exact iE<|ae [.c<|Hm s aD,ai 18 ((x.length:Int) != (s.jg:Int))<|s5 hl,.o 25<|.e<|B6 x s.params,.c<|CH x s.params,.c<|alH s.tape (x++s.params) (Tl h hx) most p iC iu m1 m2]<|rR (.iH [sP<|yV s x most p,iP 0]) (.refl _:E.le (.iH [sP<|yV s x most p,iP 0])<|.iH [sP<|yV s x most p,iP 0])
section
variable(most:Int)(p:Nat)(R:List<|List Iv×Bool)(hR:R.length<=8001)(hE:il 27 [kS s,iG x,iP most,iP (p:Int)]<|.iH [sP R,iP 0])
def aps(lP:∀ i,i<R.length->(R.getD i ([],false)).2=true):il 26 [kS s,iG x,iP most,iP p]<|.iH [j9<|zL R,iP 0]:=
 iE (ae [ag [kS s,iG x,iP most,iP p] hE,ai 24 ((0:Int) != 0) aE,.y 12 12 true 23 1<|nX<|(List.range 0).map λi=>(R.getD i ([],false)).1,.s (Sp.jP (abI R) 0 R.length aC (λi hi mW=>by
    have hs:=lP i aC;have qB:=pJ (R.getD i ([],false)).1;exact iS (ae [tT 29 ((i:Int)<R.length) aC,iX (i:Int)<|R.length,ah 33 ((R.getD i ([],false)).2) hs,.a (aC:(i+1)*24<=140737488355328),
     iL ((i:Int)+1)]<|.e<|af [.b 12 (Z0 rfl rfl rfl (λj hj=>by obtain rfl:j=0:= aC;rfl):Bx.le (.row true 23 (i+1) 1 λi_ j_=>if i_<i then(nX<|(List.range i).map λi=>(R.getD i ([],false)).1) i_ j_ else(E.ky<|.sl true 1 1 λi_ j_=>[iG<|(R.getD i ([],false)).1].getD (i_*1+j_)<|.v<|.bool false) (i_-i) j_)<|.row true 23 (i+1) 1<|nX<|(List.range<|i+1).map λi=>(R.getD i ([],false)).1)]) aF)
  (λhi=>by
    exact iS (af [tF 29 ((R.length:Int)<R.length) aC,.z 12]) aF) aI:jM 6 Tryz.f26 (abI R 0) (.exit 0) ⟨42,true,[(12,.e<|.sl true R.length 1<|nX<|(List.range R.length).map λi=>(R.getD i ([],false)).1)],[]⟩) .nil]<|rR (.iH [j9<|zL R,iP 0]) (.iH<|.cons (amK aH)<|.cons (.refl _) .nil:E.le (.iH [.sl true R.length 1<|nX<|(List.range R.length).map λi=>(R.getD i ([],false)).1,iP 0])<|.iH [j9<|zL R,iP 0]))
def apq(N:Nat)(hN:N<R.length)(lP:∀ i,i<N->(R.getD i ([],false)).2=true)(pQ:(R.getD N ([],false)).2=false):il 26 [kS s,iG x,iP most,iP p]<|.iH [.v<|.slice none 0 0,iP 15]:=
 iE (ae [ag [kS s,iG x,iP most,iP p] hE,ai 24 ((0:Int) != 0) aE,.y 12 12 true 23 1<|nX<|(List.range 0).map λi=>(R.getD i ([],false)).1,.s (Sp.jP (abH R N) 0 N aC (λi hi mW=>by
    have hs:=lP i aC;have qB:=pJ (R.getD i ([],false)).1;exact iS (ae [tT 29 ((i:Int)<R.length) aC,iX (i:Int)<|R.length,ah 33 ((R.getD i ([],false)).2) hs,.a (aC:(i+1)*24<=140737488355328),
     iL ((i:Int)+1)]<|.e<|af [.b 12 (Z0 rfl rfl rfl (λj hj=>by obtain rfl:j=0:= aC;rfl):Bx.le (.row true 23 (i+1) 1 λi_ j_=>if i_<i then(nX<|(List.range i).map λi=>(R.getD i ([],false)).1) i_ j_ else(E.ky<|.sl true 1 1 λi_ j_=>[iG<|(R.getD i ([],false)).1].getD (i_*1+j_)<|.v<|.bool false) (i_-i) j_)<|.row true 23 (i+1) 1<|nX<|(List.range<|i+1).map λi=>(R.getD i ([],false)).1)]) aF)
  (λhi=>by
    exact iS (af [tT 29 ((N:Int)<R.length) aC,iX (N:Int)<|R.length,ai 33 ((R.getD N ([],false)).2) pQ]) aF) aI:jM 6 Tryz.f26 (abH R N 0) .ret ⟨42,true,[(9,.e<|iP 15),(8,.e<|.v<|.slice none 0 0)],[]⟩) .nil]<|rR (.iH [.v<|.slice none 0 0,iP 15]) (.refl _:E.le (.iH [.v<|.slice none 0 0,iP 15])<|.iH [.v<|.slice none 0 0,iP 15]))
def apr:il 26 [kS s,iG x,iP most,iP p]<|Nz R:=by
 unfold Nz;by_cases c:KG R=true
 .rw [bk c];exact aps s x most p R hR hE λi hi=>bO.1 c i<|bN.2 hi
 .rw [bj c];obtain⟨i,hi,hn⟩:=at0.1<|bc c;obtain⟨N,h1,h2,h3⟩:=sx (p:=λi=>!(R.getD i ([],false)).2) ⟨i,bN.1 hi,by simpa using hn⟩;exact apq s x most p R hR hE N h1 (λi hi=>by simpa using h3 i hi)<|by simpa using h2
end
def apo(h:nK s)(hx:lN s.jg x)(most:Int)(p:Nat)(iC:8<=p)(iu:p<=512)(m1:1<=most)(m2:most<=10000):il 26 [kS s,iG x,iP most,iP p]<|Nz<|yV s x most p:=apr s x most p _ (acS _ _ _ _)<|Y7 s x h hx most p iC iu m1 m2
end
def y1{y:List<|List Dy}(h:OM y 1):∃ d,y=[[d]]/\d.ix:=by
 obtain⟨hd,hl⟩:=h
 match y,hl with
 | [r],_=>
  have hr:r.length=1:=hd.row 0 (Nat.zero_lt_succ _)
  match r,hr with
  | [d],_=>exact⟨d,rfl,hd.ok 0 0⟩
section
variable {x:List Iv} {most:Int} {i:Nat} {s:Ac}
end
def SV(R:List<|List Iv×Bool):(zL R).length=R.length:=by simp[zL]
def apn{R:List<|List Iv×Bool}{i:Nat}(h:i<R.length):(zL R).getD i []=(R.getD i ([],false)).1:=by unfold zL;rw[NI h]
def cc8 : il 154 [.sl true (1+0) 1 λi_ j_=>if i_<1 then(λi_ j_=>if i_<0 then(λi_ j_=>([]:List E).getD (i_*1+j_)<|.v<|.bool false) i_ j_ else(E.ky<|.sl true 1 1 λi_ j_=>[.v<|.string ⟨#[120]⟩].getD (i_*1+j_)<|.v<|.bool false) (i_-0) j_) i_ j_ else(E.ky<|.sl true 0 1 λ_ _=>.any) (i_-1) j_,.v<|.string ⟨#[120]⟩]<|iP 0:=
 iE (af [.u 12,ah 9 (decide ((0:Int)<1)) aE,iX 0 1,.g (Nd<|atu _:mP prog .eql 9 (.v<|.string ⟨#[120]⟩) (.v<|.string ⟨#[120]⟩)<|.bool true)])
def ab4(s:mR)(N:Nat)(x:Nat):PS:=⟨85,true,[(31,.e<|iP x),(30,.e<|iP s.iq.length),(29,.e<|pz s.iq),(3,.box 3 0),(1,.box 1 0)],[(3,.cells 29 [iP s.iI,pz s.iq,pU s.iz]),(1,.cells 31 [iP s.iI,pz s.iq,pU s.iz,iP s.jg,lj s.params])]⟩
section
variable(s:mR)(x:Nat)
def ab5:PS:=⟨85,true,[(31,.e<|iP x),(30,.e<|iP s.iq.length),(29,.e<|pz s.iq),(3,.box 3 0),(1,.box 1 0)],[(3,.cells 29 [iP s.iI,pz s.iq,pU s.iz]),(1,.cells 31 [iP s.iI,pz s.iq,pU s.iz,iP s.jg,lj s.params])]⟩
def ab6:PS:=⟨85,true,[(31,.e<|iP x),(30,.e<|iP s.iq.length),(29,.e<|pz s.iq),(3,.box 3 0),(1,.box 1 0)],[(3,.cells 29 [iP s.iI,pz s.iq,pU s.iz]),(1,.cells 31 [iP s.iI,pz s.iq,pU s.iz,iP s.jg,lj s.params])]⟩
def ab7:PS:=⟨85,true,[(31,.e<|iP x),(30,.e<|iP s.iq.length),(29,.e<|pz s.iq),(3,.box 3 0),(1,.box 1 0)],[(3,.cells 29 [iP s.iI,pz s.iq,pU s.iz]),(1,.cells 31 [iP s.iI,pz s.iq,pU s.iz,iP s.jg,lj s.params])]⟩
end
def AJ{a b:Bool}(h:a=true↔b=true):a=b:=fw.2 h
def Le{a b:Bool}(h:a=b):bP a=bP b:=h▸rfl
def sQ{o:pZ}{m:Int}{b:Bool}(h:b=nI o m:=by simp_all[nI,UH]<;>(repeat' split)<;>intros<;>omega):bP b=bP (nI o m):=Le h
noncomputable def anV(o:pZ)(m:Int)(g:o.lp)(C:Bool)(hC:C=decide (o.cn=0/\o.cd=0))(q1:¬o.a<0)(q2:¬o.b<0):Tr prog Tb:=
  .w (o.kind=1)
  (λk1=>ae [tB 21<|aZ k1,.c<|Nr o.cn o.cd]<|.w (qu o.cn o.cd=true)
   (λk2=>ae [tB 24 k2]<|.w (o.a=0)
    (λk3=>ae [tB 28<|aZ k3]<|.w (o.b=0)
     (λk4=>ae [tB 33<|aZ k4]<|rQ (bP<|o.n==0) (bP<|nI o m) sQ)
     (λk4=>ae [tB 33<|aY k4]<|rQ (bP false) (bP<|nI o m) sQ))
    (λk3=>ae [tB 28<|aY k3]<|rQ (bP false) (bP<|nI o m) sQ))
   (λk2=>ae [tB 24<|bc k2]<|rQ (bP false) (bP<|nI o m) sQ))
  (λk1=>ae [tB 21<|aY k1,.j 80 ⟨111,true,[(40,.e<|bP<|decide (3<=o.kind/\o.kind<=6)),(19,.e<|iP o.kind),(5,.e<|bP C),(2,.box 2 0),(1,.e<|iP m)],[(2,.cells 153 [iP o.kind,iP o.a,iP o.b,iP o.n,iP o.cn,iP o.cd])]⟩
   (.w (o.kind=3)
    (λm1=>ae [.v 40<|.bool<|aZ m1]<|.e<|af [tB 40 (AJ aJ:true=(decide (3<=o.kind/\o.kind<=6)))])
    (λm1=>ae [.v 40<|.bool<|aY m1]<|.w (o.kind=4)
     (λm2=>ae [tB 42<|aZ m2]<|.e<|af [tB 40 (AJ aJ:true=(decide (3<=o.kind/\o.kind<=6)))])
     (λm2=>ae [tB 42<|aY m2]<|.w (o.kind=5)
      (λm3=>ae [tB 43<|aZ m3]<|.e<|af [tB 40 (AJ aJ:true=(decide (3<=o.kind/\o.kind<=6)))])
      (λm3=>ae [tB 43<|aY m3]<|.e<|af [tB 40 (AJ aJ:(o.kind==6)=(decide (3<=o.kind/\o.kind<=6)))]))))]<|.w (3<=o.kind/\o.kind<=6)
   (λk2=>ae [.v 40<|.bool<|bu k2]<|.w (C=true)
    (λk3=>ae [tB 45 k3]<|.w (o.a<m)
     (λk4=>ae [tB 50<|bu k4]<|.w (o.b<m)
      (λk5=>ae [tB 56<|bu k5]<|rQ (bP<|o.n==0) (bP<|nI o m) sQ)
      (λk5=>ae [tB 56<|bn k5]<|rQ (bP false) (bP<|nI o m) sQ))
     (λk4=>ae [tB 50<|bn k4]<|rQ (bP false) (bP<|nI o m) sQ))
    (λk3=>ae [tB 45<|bc k3]<|rQ (bP false) (bP<|nI o m) sQ))
   (λk2=>ae [.v 40<|.bool<|bn k2]<|.w (o.kind=8)
    (λk3=>ae [tB 64<|aZ k3]<|.w (C=true)
     (λk4=>ae [tB 65 k4]<|.w (o.a<m)
      (λk5=>ae [tB 70<|bu k5]<|.w (o.b=0)
       (λk6=>ae [tB 75<|aZ k6]<|.w (0<=o.n)
        (λk7=>ae [tB 80<|bu k7]<|rQ (bP<|decide (o.n<=16)) (bP<|nI o m) sQ)
        (λk7=>ae [tB 80<|bn k7]<|rQ (bP false) (bP<|nI o m) sQ))
       (λk6=>ae [tB 75<|aY k6]<|rQ (bP false) (bP<|nI o m) sQ))
      (λk5=>ae [tB 70<|bn k5]<|rQ (bP false) (bP<|nI o m) sQ))
     (λk4=>ae [tB 65<|bc k4]<|rQ (bP false) (bP<|nI o m) sQ))
    (λk3=>ae [tB 64<|aY k3,.j 174 ⟨111,true,[(87,.e<|bP<|decide (o.kind=7\/9<=o.kind/\o.kind<=13)),(5,.e<|bP C),(2,.box 2 0),(1,.e<|iP m)],[(2,.cells 153 [iP o.kind,iP o.a,iP o.b,iP o.n,iP o.cn,iP o.cd])]⟩
   (.w (o.kind=7)
    (λm1=>ae [.v 87<|.bool<|aZ m1]<|.e<|af [tB 87 (AJ aJ:true=(decide (o.kind=7\/9<=o.kind/\o.kind<=13)))])
    (λm1=>ae [.v 87<|.bool<|aY m1]<|.w (o.kind=9)
     (λm2=>ae [tB 89<|aZ m2]<|.e<|af [tB 87 (AJ aJ:true=(decide (o.kind=7\/9<=o.kind/\o.kind<=13)))])
     (λm2=>ae [tB 89<|aY m2]<|.w (o.kind=10)
      (λm3=>ae [tB 90<|aZ m3]<|.e<|af [tB 87 (AJ aJ:true=(decide (o.kind=7\/9<=o.kind/\o.kind<=13)))])
      (λm3=>ae [tB 90<|aY m3]<|.w (o.kind=11)
       (λm4=>ae [tB 91<|aZ m4]<|.e<|af [tB 87 (AJ aJ:true=(decide (o.kind=7\/9<=o.kind/\o.kind<=13)))])
       (λm4=>ae [tB 91<|aY m4]<|.w (o.kind=12)
        (λm5=>ae [tB 92<|aZ m5]<|.e<|af [tB 87 (AJ aJ:true=(decide (o.kind=7\/9<=o.kind/\o.kind<=13)))])
        (λm5=>ae [tB 92<|aY m5]<|.e<|af [tB 87 (AJ aJ:(o.kind==13)=(decide (o.kind=7\/9<=o.kind/\o.kind<=13)))]))))))]<|.w (o.kind=7\/9<=o.kind/\o.kind<=13)
     (λk4=>ae [.v 87<|.bool<|bu k4]<|.w (C=true)
      (λk5=>ae [tB 94 k5]<|.w (o.a<m)
       (λk6=>ae [tB 99<|bu k6]<|.w (o.b=0)
        (λk7=>ae [tB 104<|aZ k7]<|rQ (bP<|o.n==0) (bP<|nI o m) sQ)
        (λk7=>ae [tB 104<|aY k7]<|rQ (bP false) (bP<|nI o m) sQ))
       (λk6=>ae [tB 99<|bn k6]<|rQ (bP false) (bP<|nI o m) sQ))
      (λk5=>ae [tB 94<|bc k5]<|rQ (bP false) (bP<|nI o m) sQ))
     (λk4=>ae [.v 87<|.bool<|bn k4]<|rQ (bP false) (bP<|nI o m) sQ))))
def J8(o:pZ)(m:Int)(g:o.lp):il 129 [Hc o,iP m]<|bP<|nI o m:=
 iE (.w (o.a<0)
  (λk1=>ae [tB 8<|bu k1]<|rQ (bP false) (bP<|nI o m) sQ)
  (λk1=>ae [tB 8<|bn k1]<|.w (o.b<0)
   (λk2=>ae [tB 12<|bu k2]<|rQ (bP false) (bP<|nI o m) sQ)
   (λk2=>ae [tB 12<|bn k2,.g (aa6 g.cn g.cd rfl:mP prog .eql 78 (.agg [iP o.cn,iP o.cd]) (.agg [iP 0,iP 0])<|.bool<|decide (o.cn=0/\o.cd=0))]<|anV o m g (decide (o.cn=0/\o.cd=0)) rfl k1 k2)))
def arw(s:mR)(g:s.lp)(k:Int)(h0:0<=s.iI)(h8:s.iI<=8)(l2:s.iq.length<=200):il 131 [iP k,(.jK 3 λj_=>[iP s.iI,pz s.iq,pU s.iz].getD j_ .any)]<|bP<|!Fb s k:=
 iE (.w (k<0)
  (λk1=>ae [tB 5<|bu k1]<|rQ (bP true) (bP<|!Fb s k)<|Le<|by unfold Fb;rw[fw];simp_all)
  (λk1=>ae [tB 5<|bn k1,iL<|s.iI+(s.iq.length:Int)]<|rQ (bP<|decide ((s.iI+(s.iq.length:Int))<=k)) (bP<|!Fb s k)<|Le<|by unfold Fb;rw[fw];simp_all))
def ary(x:RI)(g:x.lp):il 132 [yC x]<|bP<|!qX x:=by
 have ga:=g.lo;have gb:=g.hi;by_cases ha:x.all=true
 .have e:qX x=false:=by unfold qX;rw[ha];simp
  rw[e];exact iE<|af [ah 4 x.all ha]
 .replace ha:x.all=false:=by simpa using ha
  by_cases h1:x.lo.Ok
  .by_cases h2:x.hi.Ok
   .have v1:=h1.valid;have v2:=h2.valid;have e1:yC x=iA x.iv:=by rw[<-RB,show x.iv.raw=x by show RI.mk x.lo.dy.raw x.hi.dy.raw x.all=x;rw[h1.eq ga,h2.eq gb]]
    rw[e1];by_cases h3:jN x.lo.dy x.hi.dy<=0
    .have e:qX x=true:=by unfold qX;rw[AX.2<|.inr ⟨ha,h1,h2,h3⟩,ha];rfl
     rw[e];exact iE<|af [ai 4 x.iv.all ha,.c<|sj x.iv.lo aD,.c<|sj x.iv.hi aD,.c<|nE x.iv.lo x.iv.hi aD aD,tF 23 (0<(jN x.iv.lo x.iv.hi))<|by show ¬0<jN x.lo.dy x.hi.dy;omega]
    .have e:qX x=false:=by unfold qX;rw[show tw x=false by simpa using λq=>(AX.1 q).elim (λq=>by rw[ha]at q;exact Bool.noConfusion q.1) λq=>h3 q.2.2.2];rfl
     rw[e];exact iE<|af [ai 4 x.iv.all ha,.c<|sj x.iv.lo aD,.c<|sj x.iv.hi aD,.c<|nE x.iv.lo x.iv.hi aD aD,tT 23 (0<(jN x.iv.lo x.iv.hi))<|by show 0<jN x.lo.dy x.hi.dy;omega]
   .have e:qX x=false:=by unfold qX;rw[show tw x=false by simpa using λq=>(AX.1 q).elim (λq=>by rw[ha]at q;exact Bool.noConfusion q.1) λq=>h2 q.2.2.1];rfl
    rw[e];exact iE<|af [ai 4 x.all ha,.c<|FU x.lo aD true<|by simp[h1],.c<|FU x.hi aD false<|by simp[h2]]
  .have e:qX x=false:=by unfold qX;rw[show tw x=false by simpa using λq=>(AX.1 q).elim (λq=>by rw[ha]at q;exact Bool.noConfusion q.1) λq=>h1 q.2.1];rfl
   rw[e];exact iE<|af [ai 4 x.all ha,.c<|FU x.lo aD false<|by simp[h1]]
def Sy(s:mR)(h0:0<=s.iI)(h8:s.iI<=8)(l2:s.iq.length<=200)(lu:s.iz.length<=200)(g:s.lp):il 130 [pU s.iz,.fn 131 [(.jK 3 λj_=>[iP s.iI,pz s.iq,pU s.iz].getD j_ .any)]]<|bP<|!Ci s:=by
 have:=akJ true s.iz.length (λi _=>iP<|s.iz.getD i 0) 131 [(.jK 3 λj_=>[iP s.iI,pz s.iq,pU s.iz].getD j_ .any)] (λi=>!Fb s (s.iz.getD i 0)) (λi _=>arw s g _ h0 h8 l2) (aC:s.iz.length<=1000000);rwa[Uc]at this
def aol(f:FuncId)(l:List RI)(hf:∀ i,il f [yC<|l.getD i lE]<|bP<|!qX (l.getD i lE))(hl:l.length<=1000):il 39 [lj l,.fn f []]<|bP<|!((List.range l.length).all λi=>qX<|l.getD i lE):=by
 have:=Dd true l.length (λi j=>(wk<|l.getD i lE).getD j .any) f [] (λi=>!qX (l.getD i lE)) (λi _=>hf i) (aC:l.length<=1000000);rwa[Uc]at this
def arA(s:mR)(g:s.lp)(sm:s.wE)(hc:¬(0<=s.iI/\s.iI<=8/\s.iq.length<=200/\s.iz.length<=200)):il 77 [pW s]<|bP false:=
 iE (.w (s.iI<0)
  (λk1=>af [tB 10<|bu k1])
  (λk1=>ae [tB 10<|bn k1]<|.w (8<s.iI)
   (λk2=>af [tB 14<|bu k2])
   (λk2=>ae [tB 14<|bn k2]<|.w (200<(s.iq.length:Int))
    (λk3=>af [tB 20<|bu k3])
    (λk3=>ae [tB 20<|bn k3]<|.w (200<(s.iz.length:Int))
     (λk4=>af [tB 26<|bu k4])
     (λk4=>.x aC)))))
section
variable(s:mR)(g:s.lp)
def arB(sm:s.wE)(i0:0<=s.iI)(i8:s.iI<=8)(l1:s.iq.length<=200)(l2:s.iz.length<=200)(N:Nat)(qd:N<s.iq.length)(ji:∀ k,k<N->(nI (s.iq.getD k pe)<|s.iI+(k:Int))=true)(hN:(nI (s.iq.getD N pe)<|s.iI+(N:Int))=false):il 77 [pW s]<|bP false:=
 iE (af [tF 10 (s.iI<0) aC,tF 14 (8<s.iI) aC,tF 20 (200<(s.iq.length:Int)) aC,tF 26 (200<(s.iz.length:Int)) aC,.s (Sp.jP (ab4 s N) 0 N aC (λx hx mX=>by
    have wU:=g.iq x;exact iS (af [tT 32 ((x:Int)<s.iq.length) aC,iX (x:Int)<|s.iq.length,iL<|s.iI+(x:Int),ag [Hc<|s.iq.getD x pe,iP<|s.iI+(x:Int)]<|J8 _ _ wU,ai 42 (!(nI (s.iq.getD x pe)<|s.iI+(x:Int)))<|by rw[ji x aC];rfl,
     iL ((x:Int)+1)]) aF)
  (λhx=>by
    have wU:=g.iq N;exact iS (af [tT 32 ((N:Int)<s.iq.length) aC,iX (N:Int)<|s.iq.length,iL<|s.iI+(N:Int),ag [Hc<|s.iq.getD N pe,iP<|s.iI+(N:Int)]<|J8 _ _ wU,ah 42 (!(nI (s.iq.getD N pe)<|s.iI+(N:Int)))<|by rw[hN];rfl]) aF) aI:jM 5 Tryz.f77 (ab4 s N 0) .ret ⟨85,true,[(2,.e<|bP false)],[]⟩) .nil])
def arC(sm:s.wE)(i0:0<=s.iI)(i8:s.iI<=8)(l1:s.iq.length<=200)(l2:s.iz.length<=200)(ji:∀ k,k<s.iq.length->(nI (s.iq.getD k pe)<|s.iI+(k:Int))=true)(hu:Ci s=false):il 77 [pW s]<|bP false:=
 iE (af [tF 10 (s.iI<0) aC,tF 14 (8<s.iI) aC,tF 20 (200<(s.iq.length:Int)) aC,tF 26 (200<(s.iz.length:Int)) aC,.s (Sp.jP (ab5 s) 0 s.iq.length aC (λx hx mX=>by
    have wU:=g.iq x;exact iS (af [tT 32 ((x:Int)<s.iq.length) aC,iX (x:Int)<|s.iq.length,iL<|s.iI+(x:Int),ag [Hc<|s.iq.getD x pe,iP<|s.iI+(x:Int)]<|J8 _ _ wU,ai 42 (!(nI (s.iq.getD x pe)<|s.iI+(x:Int)))<|by rw[ji x aC];rfl,
     iL ((x:Int)+1)]) aF)
  (λhx=>by
    exact iS (af [tF 32 ((s.iq.length:Int)<s.iq.length) aC]) aF) aI:jM 5 Tryz.f77 (ab5 s 0) (.exit 0) ⟨85,true,[(3,.box 3 0),(1,.box 1 0)],[(3,.cells 29 [iP s.iI,pz s.iq,pU s.iz]),(1,.cells 31 [iP s.iI,pz s.iq,pU s.iz,iP s.jg,lj s.params])]⟩) .nil,ag [pU s.iz,.fn 131 [(.jK 3 λj_=>[iP s.iI,pz s.iq,pU s.iz].getD j_ .any)]]<|Sy s aC aC aC aC g,ah 47 (!(Ci s))<|by rw[hu];rfl])
section
variable(sm:s.wE)(i0:0<=s.iI)(i8:s.iI<=8)(l1:s.iq.length<=200)(l2:s.iz.length<=200)(ji:∀ k,k<s.iq.length->(nI (s.iq.getD k pe)<|s.iI+(k:Int))=true)(hu:Ci s=true)
def arD(hc:¬(1<=s.jg/\s.jg<=4/\(s.iz.length:Int)=s.jg/\s.iI=s.jg+(s.params.length:Int)/\s.params.length<=4)):il 77 [pW s]<|bP false:=by
 have sp:=sm.params;exact iE (ae [tF 10 (s.iI<0) aC,tF 14 (8<s.iI) aC,tF 20 (200<(s.iq.length:Int)) aC,tF 26 (200<(s.iz.length:Int)) aC,.s (Sp.jP (ab6 s) 0 s.iq.length aC (λx hx mX=>by
    have wU:=g.iq x;exact iS (af [tT 32 ((x:Int)<s.iq.length) aC,iX (x:Int)<|s.iq.length,iL<|s.iI+(x:Int),ag [Hc<|s.iq.getD x pe,iP<|s.iI+(x:Int)]<|J8 _ _ wU,ai 42 (!(nI (s.iq.getD x pe)<|s.iI+(x:Int)))<|by rw[ji x aC];rfl,
     iL ((x:Int)+1)]) aF)
  (λhx=>by
    exact iS (af [tF 32 ((s.iq.length:Int)<s.iq.length) aC]) aF) aI:jM 5 Tryz.f77 (ab6 s 0) (.exit 0) ⟨85,true,[(3,.box 3 0),(1,.box 1 0)],[(3,.cells 29 [iP s.iI,pz s.iq,pU s.iz]),(1,.cells 31 [iP s.iI,pz s.iq,pU s.iz,iP s.jg,lj s.params])]⟩) .nil,ag [pU s.iz,.fn 131 [(.jK 3 λj_=>[iP s.iI,pz s.iq,pU s.iz].getD j_ .any)]]<|Sy s aC aC aC aC g,ai 47 (!(Ci s))<|by rw[hu];rfl]<|.w (s.jg<1)
  (λk1=>af [tB 50<|bu k1])
  (λk1=>ae [tB 50<|bn k1]<|.w (4<s.jg)
   (λk2=>af [tB 54<|bu k2])
   (λk2=>ae [tB 54<|bn k2]<|.w ((s.iz.length:Int)=s.jg)
    (λk3=>ae [tB 62<|bg k3,iL<|s.jg+(s.params.length:Int)]<|.w (s.iI=(s.jg+(s.params.length:Int)))
     (λk4=>ae [tB 73<|bg k4]<|.w (4<(s.params.length:Int))
      (λk5=>af [tB 79<|bu k5])
      (λk5=>.x aC))
     (λk4=>af [tB 73<|bh k4]))
    (λk3=>af [tB 62<|bh k3]))))
def arE(s1:1<=s.jg)(s4:s.jg<=4)(e1:(s.iz.length:Int)=s.jg)(e2:s.iI=s.jg+(s.params.length:Int))(p4:s.params.length<=4):il 77 [pW s]<|bP<|Kv s:=by
 have sp:=sm.params;exact iE (ae [tF 10 (s.iI<0) aC,tF 14 (8<s.iI) aC,tF 20 (200<(s.iq.length:Int)) aC,tF 26 (200<(s.iz.length:Int)) aC,.s (Sp.jP (ab7 s) 0 s.iq.length aC (λx hx mX=>by
    have wU:=g.iq x;exact iS (af [tT 32 ((x:Int)<s.iq.length) aC,iX (x:Int)<|s.iq.length,iL<|s.iI+(x:Int),ag [Hc<|s.iq.getD x pe,iP<|s.iI+(x:Int)]<|J8 _ _ wU,ai 42 (!(nI (s.iq.getD x pe)<|s.iI+(x:Int)))<|by rw[ji x aC];rfl,
     iL ((x:Int)+1)]) aF)
  (λhx=>by
    exact iS (af [tF 32 ((s.iq.length:Int)<s.iq.length) aC]) aF) aI:jM 5 Tryz.f77 (ab7 s 0) (.exit 0) ⟨85,true,[(3,.box 3 0),(1,.box 1 0)],[(3,.cells 29 [iP s.iI,pz s.iq,pU s.iz]),(1,.cells 31 [iP s.iI,pz s.iq,pU s.iz,iP s.jg,lj s.params])]⟩) .nil,ag [pU s.iz,.fn 131 [(.jK 3 λj_=>[iP s.iI,pz s.iq,pU s.iz].getD j_ .any)]]<|Sy s aC aC aC aC g,ai 47 (!(Ci s))<|by rw[hu];rfl,tF 50 (s.jg<1) aC,tF 54 (4<s.jg) aC,ai 62 ((s.iz.length:Int) != s.jg)<|by simp[e1],iL<|s.jg+(s.params.length:Int),ai 73 (s.iI != (s.jg+(s.params.length:Int)))<|by simp[e2],tF 79 (4<(s.params.length:Int)) aC,.c (aol 132 s.params (λi=>ary _<|g.params i) aC:il 39 [lj s.params,.fn 132 []] _)]<|rQ (bP<|!(!(Kv s))) (bP<|Kv s)<|Le aH)
end
def acX(sm:s.wE):il 77 [pW s]<|bP<|r8 s:=by
 by_cases c1:0<=s.iI/\s.iI<=8/\s.iq.length<=200/\s.iz.length<=200
 rotate_left
 .rw [show r8 s=false by unfold r8;rw[bn c1];rfl];exact arA s g sm c1
 obtain⟨i0,i8,l1,l2⟩:=c1;by_cases c2:abT s=true
 rotate_left
 .rw [show r8 s=false by unfold r8;rw[bc c2];simp];obtain⟨N,n1,n2,n3⟩:=T8 c2;exact arB s g sm i0 i8 l1 l2 N n1 (λk hk=>by simpa using n3 k hk)<|by simpa using n2
 have ji:∀ k,k<s.iq.length->nI (s.iq.getD k pe) (s.iI+(k:Int))=true:=λk hk=>bO.1 c2 k<|bN.2 hk
 cases hu:Ci s with
 |false=>
  rw[show r8 s=false by unfold r8;rw[hu];simp];exact arC s g sm i0 i8 l1 l2 ji hu
 |true=>
  by_cases c3:1<=s.jg/\s.jg<=4/\(s.iz.length:Int)=s.jg/\s.iI=s.jg+(s.params.length:Int)/\s.params.length<=4
  .rw [show r8 s=Kv s by unfold r8;rw[bu (⟨i0,i8,l1,l2⟩:_/\_),c2,hu,bu c3];simp];obtain⟨s1,s4,e1,e2,p4⟩:=c3;exact arE s g sm i0 i8 l1 l2 ji hu s1 s4 e1 e2 p4
  .rw [show r8 s=false by unfold r8;rw[bn c3];simp];exact arD s g sm i0 i8 l1 l2 ji hu c3
end
def aa8{a b c d e f:Int}(ha:kC .i64 a)(hb:kC .i64 b)(hc:kC .i64 c)(hd:kC .i64 d)(he:kC .i64 e)(hf:kC .i64 f):
 prog.keyLits 10 153 [.int .i64 a,.int .i64 b,.int .i64 c,.int .i64 d,.int .i64 e,.int .i64 f]=some [.int .i64 a,.int .i64 b,.int .i64 c,.int .i64 d,.int .i64 e,.int .i64 f]:=by
 have c1:prog.cellsOf 153=6:= aF ;have c2:prog.cellsOf 3=1:= aF ;have c3:prog.cellsOf 78=2:= aF ;have r:prog.keyLits 9 78 [.int .i64 e,.int .i64 f]=some [.int .i64 e,.int .i64 f]:=by
  unfold Program.keyLits;rw[underlying78];simp[c3,c2,eX,Dc he,Dc hf]
 unfold Program.keyLits;rw[underlying153];simp[c1,c2,c3,eX,Dc ha,Dc hb,Dc hc,Dc hd,r]
def anS{a b c d e f a' b' c' d' e' f':Int}(ha:kC .i64 a)(hb:kC .i64 b)(hc:kC .i64 c)(hd:kC .i64 d)(he:kC .i64 e)(hf:kC .i64 f)
 (vN:kC .i64 a') (oe:kC .i64 b') (Ef:kC .i64 c') (Eg:kC .i64 d') (he':kC .i64 e') (hf':kC .i64 f'):
 mP prog .eql 153 (.agg [iP a,iP b,iP c,iP d,iP e,iP f]) (.agg [iP a',iP b',iP c',iP d',iP e',iP f']) (.bool<|decide (a=a'/\b=b'/\c=c'/\d=d'/\e=e'/\f=f')):=
 anR (aa8 ha hb hc hd he hf) (aa8 vN oe Ef Eg he' hf') aF aF rfl
inductive mL where
 |num (n:Int)
 |var (y:Bool)
 |un (k n:Nat) (e:mL)
 |iV (k:Nat) (a b:mL)
def jB:mL->List E
 | .num n=>[iP 1,iP n,iP 1,.v<|.string ⟨#[]⟩,iP 0,.v<|.slice none 0 0]
 | .var true=>[iP 2,iP 0,iP 0,.v<|.string ⟨#[121]⟩,iP 0,.v<|.slice none 0 0]
 | .var false=>[iP 2,iP 0,iP 0,.v<|.string ⟨#[120]⟩,iP 0,.v<|.slice none 0 0]
 | .un k n e=>[iP (k:Int),iP 0,iP 0,.v<|.string ⟨#[]⟩,iP (n:Int),.sl true 1 6 λi j=>(jB e).getD (i*6+j)<|.v<|.bool false]
 | .iV k a b=>[iP (k:Int),iP 0,iP 0,.v<|.string ⟨#[]⟩,iP 0,.sl true 2 6 λi j=>(jB a++jB b).getD (i*6+j)<|.v<|.bool false]
def jo(e:mL):E:=.agg<|jB e
def nP:E:=.sl true 2 1 λi j=>[.v<|.string ⟨#[120]⟩,.v<|.string ⟨#[121]⟩].getD (i*1+j)<|.v<|.bool false
def om(q o:jv):Bool:=decide ((q.kind:Int)=o.kind/\(q.a:Int)=o.a/\(q.b:Int)=o.b/\(q.n:Int)=o.n/\q.cn=o.cn/\q.cd=o.cd)
def Bu(l:List jv)(o:jv):Nat->Option Nat
 | 0=>none
 |k+1=>match Bu l o k with
  |some i=>some i
  |none=>if om (l.getD k iU) o then some k else none
def rK(t:je)(o:jv):je×Nat:=match Bu t.iq o t.iq.length with
 |some i=>(t,t.iI+i)
 |none=>({ t with iq:=t.iq++[o] },t.iI+t.iq.length)
def iF(t:je):mL->je×Nat
 | .num n=>rK t ⟨1,0,0,0,n,1⟩
 | .var y=>(t,if y then 1 else 0)
 | .un k n e=>rK (iF t e).1 ⟨k,(iF t e).2,0,n,0,0⟩
 | .iV k a b=>rK (iF (iF t a).1 b).1 ⟨k,(iF t a).2,(iF (iF t a).1 b).2,0,0,0⟩
def P9{l:List jv}{o:jv}:∀ {k:Nat},Bu l o k=none->∀ i,i<k->om (l.getD i iU) o=false
 | 0,_,i,hi=>absurd hi<|bC i
 |k+1,h,i,hi=>by
  unfold Bu at h;split at h
  .cases h
  .rename_i h1;split at h
   .cases h
   .rename_i h2;by_cases e:i=k
    .subst e;exact bc h2
    .exact P9 h1 i aC 
def Qa{l:List jv}{o:jv}{N:Nat}:∀ {k:Nat},Bu l o k=some N->N<k/\om (l.getD N iU) o=true/\∀ i,i<N->om (l.getD i iU) o=false
 | 0,h=>by cases h
 |k+1,h=>by
  unfold Bu at h;split at h
  .rename_i i h1;cases h;obtain⟨a,b,c⟩:=Qa h1;exact⟨aC,b,c⟩
  .rename_i h1;split at h
   .rename_i h2;cases h;exact⟨aC,h2,P9 h1⟩
   .cases h
structure xF(o:jv):Prop where
 k:o.kind<=1000
 a:o.a<=1000
 b:o.b<=1000
 n:o.n<=1000
 c1:-1099511627776<=o.cn
 c2:o.cn<=1099511627776
 d1:-1099511627776<=o.cd
 d2:o.cd<=1099511627776
def Cd(q o:jv)(hq:xF q)(ho:xF o):mP prog .eql 153 (rD q) (rD o)<|.bool<|om q o:=by
 obtain⟨a1,a2,a3,a4,a5,a6,a7,a8⟩:=hq;obtain⟨b1,b2,b3,b4,b5,b6,b7,b8⟩:=ho;exact anS aQ aQ aQ aQ aQ aQ aQ aQ aQ aQ aQ aQ 
def Sx{l:List jv}{o:jv}{p:E}(hp:∀ j,j<6->p.ky 0 j=(zF o).getD j .any):E.le (.sl true (0+l.length+1) 6 λi j=>if i<0+l.length then(λi_ j_=>if i_<0 then(λi_ j_=>([]:List E).getD (i_*6+j_)<|.v<|.bool false) i_ j_ else(E.ky<|lG l) (i_-0) j_) i j else(E.ky p) (i-(0+l.length)) j)<|lG<|l++[o]:=by
 have e:lG (l++[o]) = .sl true (0+l.length+1) 6 λi j=>(zF<|(l++[o]).getD i iU).getD j .any:=by unfold lG;rw[cz,cw];rfl
 rw[e];refine .sl λi j hi hj=>⟨.jq ?_,?_⟩
 .rw [cw]at *
  by_cases h:i<l.length
  .rw [bk h];show(zF<|l.getD i iU).getD j .any=(zF<|(l++[o]).getD i iU).getD j .any;congr 2;simp[bt,dh h]
  .have lg:i=l.length:= aC ;subst lg;rw[bj h,dg,hp j hj];congr 2;simp[bt]
 .unfold zF;rcases j with _|_|_|_|_|_|j
  all_goals first|rfl|omega
def mL.sz:mL->Nat
 | .num _=>1
 | .var _=>1
 | .un _ _ e=>e.sz+1
 | .iV _ a b=>a.sz+b.sz+1
def mL.Ok:mL->Prop
 | .num n=>-1073741824<=n/\n<=1073741824
 | .var _=>True
 | .un k n e=>7<=k/\k<=8/\(if k=8 then n<=16 else n=0)/\e.Ok
 | .iV k a b=>3<=k/\k<=6/\a.Ok/\b.Ok
structure qw(t:je):Prop where
 iI:t.iI=2
 op:∀ i,i<t.iq.length->ns (t.iq.getD i iU) (t.iI+i)
def qw.sm{t:je}(h:qw t)(hl:t.iq.length<=900)(i:Nat)(hi:i<t.iq.length):xF<|t.iq.getD i iU:=by
 have ho:=h.op i hi;have h2:=h.iI;obtain⟨k3,BY,oa,ob,on,oc⟩:=ho;refine⟨aC,?_,?_,?_,?_,?_,?_,?_⟩
 .split at oa<;>omega
 .split at ob<;>omega
 .split at on<;>omega
 all_goals
  split at oc
  .have:=Nq oc;omega
  .omega
def qw.add{t:je}(h:qw t){o:jv}(ho:ns o<|t.iI+t.iq.length):qw (rK t o).1/\(rK t o).2<(rK t o).1.iI+(rK t o).1.iq.length/\(rK t o).1.iq.length<=t.iq.length+1/\t.iq.length<=(rK t o).1.iq.length/\(rK t o).1.iz=t.iz:=by
 unfold rK;split
 .rename_i i hi;obtain⟨q,_⟩:=Qa hi;exact⟨h,by show t.iI+i<t.iI+t.iq.length;omega,by show t.iq.length<=_;omega,bw _,rfl⟩
 .refine ⟨⟨h.iI,λi hi=>?_⟩,?_,?_,?_,rfl⟩
  .have hi:i<(t.iq++[o]).length:=hi;show ns ((t.iq++[o]).getD i iU) (t.iI+i);rw[cz,gp]at hi;by_cases e:i<t.iq.length
   .rw [bt,dh e,<-bt];exact h.op i e
   .obtain rfl:i=t.iq.length:= aC ;simpa[bt]using ho
  .show t.iI+t.iq.length<t.iI+(t.iq++[o]).length;simp
  .show (t.iq++[o]).length<=_;simp
  .show _<=(t.iq++[o]).length;simp
def aoL{n:Int}(h1:-1073741824<=n)(h2:n<=1073741824):qu n 1=true:=by
 unfold qu;simp[h1,h2]
def anD{n:Int}{m:Nat}(h1:-1073741824<=n)(h2:n<=1073741824):ns ⟨1,0,0,0,n,1⟩ m:=by
 refine⟨.inl rfl,by show 1<=13;decide,?_,?_,?_,?_,.inl<|by show 1<=8;decide⟩
 .rw [bk rfl]
 .rw [bj<|by show ¬(3<=1/\1<=6);decide]
 .rw [bj<|by show ¬1=8;decide]
 .rw [bk rfl];exact aoL h1 h2
def asd{k n a m:Nat}(h7:7<=k)(h8:k<=8)(hn:if k=8 then n<=16 else n=0)(ha:a<m):ns ⟨k,a,0,n,0,0⟩ m:=by
 refine⟨.inr<|by show 3<=k;omega,by show k<=13;omega,?_,?_,hn,?_,.inl h8⟩
 .rw [bj<|by show ¬k=1;omega];exact ha
 .rw [bj<|by show ¬(3<=k/\k<=6);omega]
 .rw [bj<|by show ¬k=1;omega];exact⟨rfl,rfl⟩
def ae6{k a b m:Nat}(h3:3<=k)(h6:k<=6)(ha:a<m)(hb:b<m):ns ⟨k,a,b,0,0,0⟩ m:=by
 refine⟨.inr h3,by show k<=13;omega,?_,?_,?_,?_,.inl<|by show k<=8;omega⟩
 .rw [bj<|by show ¬k=1;omega];exact ha
 .rw [bk ⟨h3,h6⟩];exact hb
 .rw [bj<|by show ¬k=8;omega]
 .rw [bj<|by show ¬k=1;omega];exact⟨rfl,rfl⟩
def zD:∀ (e:mL) {t:je},e.Ok->qw t->qw (iF t e).1/\(iF t e).2<(iF t e).1.iI+(iF t e).1.iq.length/\(iF t e).1.iq.length<=t.iq.length+e.sz/\t.iq.length<=(iF t e).1.iq.length/\(iF t e).1.iz=t.iz
 | .num n,t,h,k=>k.add<|anD h.1 h.2
 | .var y,t,_,k=>by
  have:=k.iI;refine⟨k,?_,?_,?_,rfl⟩
  .show (if y then 1 else 0)<t.iI+t.iq.length;cases y<;>simp<;>omega
  .show t.iq.length<=t.iq.length+1;omega
  .show t.iq.length<=t.iq.length;omega
 | .un c n e,t,⟨h7,h8,hn,he⟩,k=>by
  obtain⟨k1,k2,k3,k4,k5⟩:=zD e he k;obtain⟨q1,q2,q3,q4,q5⟩:=k1.add<|asd (n:=n) h7 h8 hn k2;exact⟨q1,q2,by show(rK _ _).1.iq.length<=t.iq.length+(e.sz+1);omega,bA k4 q4,q5.trans k5⟩
 | .iV c a b,t,⟨h3,h6,ha,hb⟩,k=>by
  obtain⟨k1,k2,k3,k4,k5⟩:=zD a ha k;obtain⟨l1,l2,l3,l4,l5⟩:=zD b hb k1;have e1:=k1.iI;have e2:=l1.iI;obtain⟨q1,q2,q3,q4,q5⟩:=l1.add (ae6 h3 h6 (show(iF t a).2<_ by omega) l2);exact⟨q1,q2,by show(rK _ _).1.iq.length<=t.iq.length+(a.sz+b.sz+1);omega,bA k4<|bA l4 q4,q5.trans<|l5.trans k5⟩
def lI:je:=⟨2,[],[]⟩
def uO(a b:mL):lY:=⟨⟨2,(iF (iF lI a).1 b).1.iq,[(iF lI a).2,(iF (iF lI a).1 b).2]⟩,2,[]⟩
def acW{a b:mL}(ha:a.Ok)(hb:b.Ok)(hs:a.sz+b.sz<=200):nK<|uO a b:=by
 have k:qw lI:=⟨rfl,λi hi=>absurd hi<|bC i⟩
 obtain⟨k1,k2,k3,k4,k5⟩:=zD a ha k;obtain⟨l1,l2,l3,l4,l5⟩:=zD b hb k1;have e1:=k1.iI;have e2:=l1.iI;have k3':(iF lI a).1.iq.length<=0+a.sz:=k3;refine⟨⟨by show 2<=8;decide,by show(iF (iF lI a).1 b).1.iq.length<=200;omega,by show 2<=200;decide,λi hi=>?_,λi hi=>?_⟩,by show 1<=2;decide,by show 2<=4;decide,rfl,rfl,by show 0<=4;decide,λi hi=>absurd hi<|bC i⟩
 .have:=l1.op i hi;rw[e2]at this;exact this
 .have hi:i<2:=hi;show[(iF lI a).2,(iF (iF lI a).1 b).2].getD i 0<2+(iF (iF lI a).1 b).1.iq.length;obtain rfl|rfl:i=0\/i=1:= aC 
  .show (iF lI a).2<_;omega
  .show (iF (iF lI a).1 b).2<_;omega
end Go.Proofs.YtjkmahljfblobaaGreatDoor
