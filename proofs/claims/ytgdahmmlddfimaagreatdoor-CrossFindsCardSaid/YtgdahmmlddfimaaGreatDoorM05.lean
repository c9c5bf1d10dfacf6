/- Lemmas that the last file uses. -/
import Derived.Test.YtgdahmmlddfimaaGreatDoorM04
set_option linter.unusedSimpArgs false
set_option linter.unusedVariables false
set_option linter.defProp false
set_option maxHeartbeats 4000000
open Go.Proofs.Tryz
namespace Go.Proofs.YtgdahmmlddfimaaGreatDoor
open Go.RowKit Fp Pu
def Zl(x:Bool×Nat)(b N:Nat)(i:Nat):PS:=⟨43,true,[(8,.e (iP ((i+1:Nat):Int))),(7,.box 7 0),(5,.box 5 0),(4,.box 4 0),(2,.box 2 0),(1,.e (iP b))],[(5,.cells 278 [bP (((kg x b i).2).1),ik (ij (((kg x b i).2).2))]),(7,.cells 278 [bP (lP x i),ik (ij (kD x.2 b i))]),(4,.cells 278 [bP (((kg x b i).1).1),ik (ij (((kg x b i).1).2))]),(2,.cells 278 [bP x.1,ik (ij x.2)])]⟩
def KI(n i:Nat):(ij n).getD i 0<4294967296:=by
 by_cases h:i<(ij n).length
 .rw [bE,bJ h];exact mQ n _ (cK h)
 .rw [bE,cz aC];decide
def ade(d:Dy)(b t m:Nat)(cp:Bool×Nat)(hd:d.ix)(ht:t=d.iI.toNat)(lh:16<=b)(om:b<=2000)(tU:t<=2000)(K:Nat)(hK:K<=6000)(zx:m<2^K)(zc:2<=cp.2)(zd:(ij cp.2).length<=256)(sF:ie 378 [iP (((b+t)+40:Nat):Int)] (.agg [bP cp.1,ik (ij cp.2)]))(wq:ie 384 [iz d,iP (((b+t)+40:Nat):Int)] (.agg [bP true,ik (ij m)]))(hn:0<(ij (m/(cp.2/2^1))).length):ie 374 [iz d,iP b] (.iE [.agg [bP ((j9 (true,m) (false,((m/(cp.2/2^1))*(cp.2/2^1)))).1),ik (ij ((j9 (true,m) (false,((m/(cp.2/2^1))*(cp.2/2^1)))).2/2^(t+40)))],iP (((4-((ij (m/(cp.2/2^1))).getD 0 0%4))%4:Nat):Int)]):=by
 have OR:=IX hd;have zX:(ij m).length<=256:=mn zx aC;have zH:(ij (cp.2/2^1)).length<=256:=bH (nA (cw _ _)) zd;have nH:(cp.2/2^1)≠0:= aC ;have mM:((m/(cp.2/2^1))*(cp.2/2^1))<=m:=dD _ _;have zN:(ij (m/(cp.2/2^1))).length<=256:=bH (nA (cw _ _)) zX;have zM:(ij ((m/(cp.2/2^1))*(cp.2/2^1))).length<=256:=bH (nA mM) zX;have zA:(ij (m+((m/(cp.2/2^1))*(cp.2/2^1)))).length<=256:=mn (k:=K+1) (by have:=bS 2 K;omega) aC;have zR:(ij (j9 (true,m) (false,((m/(cp.2/2^1))*(cp.2/2^1)))).2).length<=256:=bH (nA (y7 _ _)) zA;have zm:(ij (m%(cp.2/2^1))).length<=256:=bH (nA (fj _ _)) zX;have hg:(ij (m/(cp.2/2^1))).getD 0 0<4294967296:=KI _ 0;have h4:(ij (m/(cp.2/2^1))).getD 0 0%4<=3:= aC ;exact ak call374 func374 (af [ag [iz d] (pU _ aD),.o 19 (aq (if 0>(Dy.iI d)then 0 else(Dy.iI d)) t aM),iF ((b:Int)+t) aC,
  iF (((b+t:Nat):Int)+40) aC,ag [iP (((b+t)+40:Nat):Int)] sF,.c (xT cp.2 1 aD aC),ag [iz d,iP (((b+t)+40:Nat):Int)] wq,ag [ik (ij m),ik (ij (cp.2/2^1))] (AX _ _ aC aC aD),ag [ik (ij (m/(cp.2/2^1))),ik (ij (cp.2/2^1))] (AY _ _ aD aD aD),ag [.agg [bP true,ik (ij m)],.agg [bP false,ik (ij ((m/(cp.2/2^1))*(cp.2/2^1)))]] (uC (true,m) aD (false,((m/(cp.2/2^1))*(cp.2/2^1))) aD aD),tT 61 (0<((ij (m/(cp.2/2^1))).length:Int)) aC,iX 0 ((ij (m/(cp.2/2^1))).length) aC,.o 65 (.int (aaA _ aC):aj (.v (.int .u32 (bits .and .u32 (((ij (m/(cp.2/2^1))).getD 0 0:Nat):Int) 3))) (.v (.int .u32 ((((ij (m/(cp.2/2^1))).getD 0 0)%4:Nat):Int)))),.o 66 (aq (IntKind.i64.wrap ((((ij (m/(cp.2/2^1))).getD 0 0)%4:Nat):Int)) ((((ij (m/(cp.2/2^1))).getD 0 0)%4:Nat):Int) (VK _ aC)),
  iF (4-((((ij (m/(cp.2/2^1))).getD 0 0)%4:Nat):Int)) aC,.o 71 (aq (bits .and .i64 (4-((((ij (m/(cp.2/2^1))).getD 0 0)%4:Nat):Int)) 3) (((4-((ij (m/(cp.2/2^1))).getD 0 0%4))%4:Nat):Int) (ahe _ aC)),
  iF ((t:Int)+40) aC,.c (xT ((j9 (true,m) (false,((m/(cp.2/2^1))*(cp.2/2^1)))).2) (t+40) aD aC)]) 
def ada(d:Dy)(b t m:Nat)(cp:Bool×Nat)(hd:d.ix)(ht:t=d.iI.toNat)(lh:16<=b)(om:b<=2000)(tU:t<=2000)(K:Nat)(hK:K<=6000)(zx:m<2^K)(zc:2<=cp.2)(zd:(ij cp.2).length<=256)(sF:ie 378 [iP (((b+t)+40:Nat):Int)] (.agg [bP cp.1,ik (ij cp.2)]))(wq:ie 384 [iz d,iP (((b+t)+40:Nat):Int)] (.agg [bP true,ik (ij m)]))(hn:¬0<(ij (m/(cp.2/2^1))).length):ie 374 [iz d,iP b] (.iE [.agg [bP ((j9 (true,m) (false,((m/(cp.2/2^1))*(cp.2/2^1)))).1),ik (ij ((j9 (true,m) (false,((m/(cp.2/2^1))*(cp.2/2^1)))).2/2^(t+40)))],iP 0]):=by
 have OR:=IX hd;have zX:(ij m).length<=256:=mn zx aC;have zH:(ij (cp.2/2^1)).length<=256:=bH (nA (cw _ _)) zd;have nH:(cp.2/2^1)≠0:= aC ;have mM:((m/(cp.2/2^1))*(cp.2/2^1))<=m:=dD _ _;have zN:(ij (m/(cp.2/2^1))).length<=256:=bH (nA (cw _ _)) zX;have zM:(ij ((m/(cp.2/2^1))*(cp.2/2^1))).length<=256:=bH (nA mM) zX;have zA:(ij (m+((m/(cp.2/2^1))*(cp.2/2^1)))).length<=256:=mn (k:=K+1) (by have:=bS 2 K;omega) aC;have zR:(ij (j9 (true,m) (false,((m/(cp.2/2^1))*(cp.2/2^1)))).2).length<=256:=bH (nA (y7 _ _)) zA;have zm:(ij (m%(cp.2/2^1))).length<=256:=bH (nA (fj _ _)) zX;have hg:(ij (m/(cp.2/2^1))).getD 0 0<4294967296:=KI _ 0;have h4:(ij (m/(cp.2/2^1))).getD 0 0%4<=3:= aC ;exact ak call374 func374 (af [ag [iz d] (pU _ aD),.o 19 (aq (if 0>(Dy.iI d)then 0 else(Dy.iI d)) t aM),iF ((b:Int)+t) aC,
  iF (((b+t:Nat):Int)+40) aC,ag [iP (((b+t)+40:Nat):Int)] sF,.c (xT cp.2 1 aD aC),ag [iz d,iP (((b+t)+40:Nat):Int)] wq,ag [ik (ij m),ik (ij (cp.2/2^1))] (AX _ _ aC aC aD),ag [ik (ij (m/(cp.2/2^1))),ik (ij (cp.2/2^1))] (AY _ _ aD aD aD),ag [.agg [bP true,ik (ij m)],.agg [bP false,ik (ij ((m/(cp.2/2^1))*(cp.2/2^1)))]] (uC (true,m) aD (false,((m/(cp.2/2^1))*(cp.2/2^1))) aD aD),tF 61 (0<((ij (m/(cp.2/2^1))).length:Int)) aC,iF (4-0) aC,.o 71 (aq (bits .and .i64 (4-0) 3) 0 aE),iF ((t:Int)+40) aC,.c (xT ((j9 (true,m) (false,((m/(cp.2/2^1))*(cp.2/2^1)))).2) (t+40) aD aC)]) 
def adf(d:Dy)(b t m:Nat)(cp:Bool×Nat)(hd:d.ix)(ht:t=d.iI.toNat)(lh:16<=b)(om:b<=2000)(tU:t<=2000)(K:Nat)(hK:K<=6000)(zx:m<2^K)(zc:2<=cp.2)(zd:(ij cp.2).length<=256)(sF:ie 378 [iP (((b+t)+40:Nat):Int)] (.agg [bP cp.1,ik (ij cp.2)]))(wq:ie 384 [iz d,iP (((b+t)+40:Nat):Int)] (.agg [bP false,ik (ij m)]))(hn:0<(ij (m/(cp.2/2^1))).length):ie 374 [iz d,iP b] (.iE [.agg [bP ((j9 (false,m) (true,((m/(cp.2/2^1))*(cp.2/2^1)))).1),ik (ij ((j9 (false,m) (true,((m/(cp.2/2^1))*(cp.2/2^1)))).2/2^(t+40)))],iP (((ij (m/(cp.2/2^1))).getD 0 0%4:Nat):Int)]):=by
 have OR:=IX hd;have zX:(ij m).length<=256:=mn zx aC;have zH:(ij (cp.2/2^1)).length<=256:=bH (nA (cw _ _)) zd;have nH:(cp.2/2^1)≠0:= aC ;have mM:((m/(cp.2/2^1))*(cp.2/2^1))<=m:=dD _ _;have zN:(ij (m/(cp.2/2^1))).length<=256:=bH (nA (cw _ _)) zX;have zM:(ij ((m/(cp.2/2^1))*(cp.2/2^1))).length<=256:=bH (nA mM) zX;have zA:(ij (m+((m/(cp.2/2^1))*(cp.2/2^1)))).length<=256:=mn (k:=K+1) (by have:=bS 2 K;omega) aC;have zR:(ij (j9 (false,m) (true,((m/(cp.2/2^1))*(cp.2/2^1)))).2).length<=256:=bH (nA (y7 _ _)) zA;have zm:(ij (m%(cp.2/2^1))).length<=256:=bH (nA (fj _ _)) zX;have hg:(ij (m/(cp.2/2^1))).getD 0 0<4294967296:=KI _ 0;have h4:(ij (m/(cp.2/2^1))).getD 0 0%4<=3:= aC ;exact ak call374 func374 (af [ag [iz d] (pU _ aD),.o 19 (aq (if 0>(Dy.iI d)then 0 else(Dy.iI d)) t aM),iF ((b:Int)+t) aC,
  iF (((b+t:Nat):Int)+40) aC,ag [iP (((b+t)+40:Nat):Int)] sF,.c (xT cp.2 1 aD aC),ag [iz d,iP (((b+t)+40:Nat):Int)] wq,ag [ik (ij m),ik (ij (cp.2/2^1))] (AX _ _ aC aC aD),ag [ik (ij (m/(cp.2/2^1))),ik (ij (cp.2/2^1))] (AY _ _ aD aD aD),ag [.agg [bP false,ik (ij m)],.agg [bP true,ik (ij ((m/(cp.2/2^1))*(cp.2/2^1)))]] (uC (false,m) aD (true,((m/(cp.2/2^1))*(cp.2/2^1))) aD aD),tT 61 (0<((ij (m/(cp.2/2^1))).length:Int)) aC,iX 0 ((ij (m/(cp.2/2^1))).length) aC,.o 65 (.int (aaA _ aC):aj (.v (.int .u32 (bits .and .u32 (((ij (m/(cp.2/2^1))).getD 0 0:Nat):Int) 3))) (.v (.int .u32 ((((ij (m/(cp.2/2^1))).getD 0 0)%4:Nat):Int)))),.o 66 (aq (IntKind.i64.wrap ((((ij (m/(cp.2/2^1))).getD 0 0)%4:Nat):Int)) ((((ij (m/(cp.2/2^1))).getD 0 0)%4:Nat):Int) (VK _ aC)),
  iF ((t:Int)+40) aC,.c (xT ((j9 (false,m) (true,((m/(cp.2/2^1))*(cp.2/2^1)))).2) (t+40) aD aC)]) 
def adb(d:Dy)(b t m:Nat)(cp:Bool×Nat)(hd:d.ix)(ht:t=d.iI.toNat)(lh:16<=b)(om:b<=2000)(tU:t<=2000)(K:Nat)(hK:K<=6000)(zx:m<2^K)(zc:2<=cp.2)(zd:(ij cp.2).length<=256)(sF:ie 378 [iP (((b+t)+40:Nat):Int)] (.agg [bP cp.1,ik (ij cp.2)]))(wq:ie 384 [iz d,iP (((b+t)+40:Nat):Int)] (.agg [bP false,ik (ij m)]))(hn:¬0<(ij (m/(cp.2/2^1))).length):ie 374 [iz d,iP b] (.iE [.agg [bP ((j9 (false,m) (true,((m/(cp.2/2^1))*(cp.2/2^1)))).1),ik (ij ((j9 (false,m) (true,((m/(cp.2/2^1))*(cp.2/2^1)))).2/2^(t+40)))],iP 0]):=by
 have OR:=IX hd;have zX:(ij m).length<=256:=mn zx aC;have zH:(ij (cp.2/2^1)).length<=256:=bH (nA (cw _ _)) zd;have nH:(cp.2/2^1)≠0:= aC ;have mM:((m/(cp.2/2^1))*(cp.2/2^1))<=m:=dD _ _;have zN:(ij (m/(cp.2/2^1))).length<=256:=bH (nA (cw _ _)) zX;have zM:(ij ((m/(cp.2/2^1))*(cp.2/2^1))).length<=256:=bH (nA mM) zX;have zA:(ij (m+((m/(cp.2/2^1))*(cp.2/2^1)))).length<=256:=mn (k:=K+1) (by have:=bS 2 K;omega) aC;have zR:(ij (j9 (false,m) (true,((m/(cp.2/2^1))*(cp.2/2^1)))).2).length<=256:=bH (nA (y7 _ _)) zA;have zm:(ij (m%(cp.2/2^1))).length<=256:=bH (nA (fj _ _)) zX;have hg:(ij (m/(cp.2/2^1))).getD 0 0<4294967296:=KI _ 0;have h4:(ij (m/(cp.2/2^1))).getD 0 0%4<=3:= aC ;exact ak call374 func374 (af [ag [iz d] (pU _ aD),.o 19 (aq (if 0>(Dy.iI d)then 0 else(Dy.iI d)) t aM),iF ((b:Int)+t) aC,
  iF (((b+t:Nat):Int)+40) aC,ag [iP (((b+t)+40:Nat):Int)] sF,.c (xT cp.2 1 aD aC),ag [iz d,iP (((b+t)+40:Nat):Int)] wq,ag [ik (ij m),ik (ij (cp.2/2^1))] (AX _ _ aC aC aD),ag [ik (ij (m/(cp.2/2^1))),ik (ij (cp.2/2^1))] (AY _ _ aD aD aD),ag [.agg [bP false,ik (ij m)],.agg [bP true,ik (ij ((m/(cp.2/2^1))*(cp.2/2^1)))]] (uC (false,m) aD (true,((m/(cp.2/2^1))*(cp.2/2^1))) aD aD),tF 61 (0<((ij (m/(cp.2/2^1))).length:Int)) aC,iF ((t:Int)+40) aC,.c (xT ((j9 (false,m) (true,((m/(cp.2/2^1))*(cp.2/2^1)))).2) (t+40) aD aC)]) 
def ac9(d:Dy)(b:Nat)(hd:d.ix)(lh:16<=b)(om:b<=1000)(ht:d.iI<=100):∃ (r:Bool×Nat) (k:Nat),r.2<=2^(b+1)/\k<=3/\ie 374 [iz d,iP (b:Int)] (.iE [.agg [bP r.1,ik (ij r.2)],iP (k:Int)]):=by
 obtain⟨t,tU⟩:∃ t,t=d.iI.toNat:=⟨_,rfl⟩
 obtain⟨cp,c1,c2,c3,sF⟩:=So (b+t+40) aC aC;have wq:=MS d hd (b+t+40) 6000 aC aE aC;have iK:=KU (d:=d) (b:=b+t+40) (K:=6000) aC;generalize sr d (b+t+40)=x at wq iK;have hp:(2:Nat)^(b+t+40+3)=2^(b+t+40)*8:=by rw[bK]
 have zd:(ij cp.2).length<=256:=mn (k:=b+t+40+3) (by have:0<2^(b+t+40):=bL aE;omega) aC;obtain⟨sg,m⟩:=x;have hle:=akR (x:=(sg,m)) (H:=cp.2/2^1) (b:=b) (t:=t) aC c3;by_cases hn:0<(ij (m/(cp.2/2^1))).length
 .cases sg with
  |false=>exact⟨((j9 (false,m) (true,m/(cp.2/2^1)*(cp.2/2^1))).1,(j9 (false,m) (true,m/(cp.2/2^1)*(cp.2/2^1))).2/2^(t+40)),_,hle,akQ _,adf d b t m cp hd tU lh aC aC 6000 aE iK c1 zd sF wq hn⟩
  |true=>exact⟨((j9 (true,m) (false,m/(cp.2/2^1)*(cp.2/2^1))).1,(j9 (true,m) (false,m/(cp.2/2^1)*(cp.2/2^1))).2/2^(t+40)),_,hle,akP _,ade d b t m cp hd tU lh aC aC 6000 aE iK c1 zd sF wq hn⟩
 .cases sg with
  |false=>exact⟨((j9 (false,m) (true,m/(cp.2/2^1)*(cp.2/2^1))).1,(j9 (false,m) (true,m/(cp.2/2^1)*(cp.2/2^1))).2/2^(t+40)),_,hle,cj 3,adb d b t m cp hd tU lh aC aC 6000 aE iK c1 zd sF wq hn⟩
  |true=>exact⟨((j9 (true,m) (false,m/(cp.2/2^1)*(cp.2/2^1))).1,(j9 (true,m) (false,m/(cp.2/2^1)*(cp.2/2^1))).2/2^(t+40)),_,hle,cj 3,ada d b t m cp hd tU lh aC aC 6000 aE iK c1 zd sF wq hn⟩
def adh(x:Bool×Nat)(b N:Nat)(wE:x.2<=2^(b+1))(hb:b<=3000)(tI:N<=b+4)(h0:∀ k,k<N+1->kD x.2 b k≠0)(hN:kD x.2 b (N+1)=0):ie 375 [.agg [bP x.1,ik (ij x.2)],iP b] (.iE [.agg [bP (((kg x b N).1).1),ik (ij (((kg x b N).1).2))],.agg [bP (((kg x b N).2).1),ik (ij (((kg x b N).2).2))]]):=by
 have zx:(ij x.2).length<=256:=mn (k:=b+2) (by have e:2^(b+2)=2^(b+1)*2:=bS _ _;have:0<2^(b+1):=bL aE;omega) aC;have z0:(ij 1).length<=256:=uP aE;have z1:(ij (1*2^b)).length<=256:=mn (k:=b+1) (by rw[bS,cv];have:0<2^b:=bL aE;omega) aC;exact ak call375 func375 (af [.o 10 (.e zQ:aj (.sl false 1 1 λi_ j_=>[.v (.int .u32 1)].getD (i_*1+j_) (.v (.bool false))) (ik (ij 1))),.c (BC 1 b aD aC aD),.s (Sp.jT (Zl x b N) 0 N aC (λi hi nP=>by
    have SF:=ZF wE hb (k:=i) aC;obtain⟨f0,f1,f2,f3,f4,f5,f6,f7⟩:=SF;exact iL (ae [ag [.agg [bP (lP x i),ik (ij (kD x.2 b i))],.agg [bP x.1,ik (ij x.2)],iP b] (NB ((lP x i),(kD x.2 b i)) aD x aD _ aC aD),ag [.agg [bP ((lP x i) != x.1),ik (ij ((kD x.2 b i)*x.2/2^b))],iP ((i+1:Nat):Int)] (GA (((lP x i) != x.1),((kD x.2 b i)*x.2/2^b)) aD (i+1) aC aC),ag [.agg [bP (lP x (i+1)),ik (ij (kD x.2 b (i+1)))]] (EM ((lP x (i+1)),(kD x.2 b (i+1))) aD),tF 25 ((kD x.2 b (i+1))=0) (h0 (i+1) aC),.a (aC:0<(4:Int))]<|.w (2<=(i+1)%4)
     (λh4=>ae [tT 31 (2<=(((i+1)%4:Nat):Int)) aC,ag [.agg [bP (lP x (i+1)),ik (ij (kD x.2 b (i+1)))]] (xY ((lP x (i+1)),(kD x.2 b (i+1)))),.a (aC:0<(2:Int))]<|.w ((i+1)%2=1)
      (λho=>ae [ah 36 ((((i+1)%2:Nat):Int)==1) (by rw[ho];rfl),ag [.agg [bP (((kg x b i).1).1),ik (ij (((kg x b i).1).2))],.agg [bP (!(lP x (i+1))),ik (ij (kD x.2 b (i+1)))]] (uC ((kg x b i).1) aD ((!(lP x (i+1))),(kD x.2 b (i+1))) aD aD),
       iF (((i+1:Nat):Int)+1) aC]<|.e (af [.b 5 (.ji (by first|rfl|simp[kg,lP,kD,ho,h4]|simp[kg,lP,kD]):Bx.le (.cells 278 [bP (((kg x b i).2).1),ik (ij (((kg x b i).2).2))]) (.cells 278 [bP (((kg x b (i+1)).2).1),ik (ij (((kg x b (i+1)).2).2))])),.b 4 (.ji (by first|rfl|simp[kg,lP,kD,ho,h4]|simp[kg,lP,kD]):Bx.le (.cells 278 [bP ((j9 ((kg x b i).1) ((!(lP x (i+1))),(kD x.2 b (i+1)))).1),ik (ij ((j9 ((kg x b i).1) ((!(lP x (i+1))),(kD x.2 b (i+1)))).2))]) (.cells 278 [bP (((kg x b (i+1)).1).1),ik (ij (((kg x b (i+1)).1).2))]))]))
      (λho=>ae [ai 36 ((((i+1)%2:Nat):Int)==1) aN,ag [.agg [bP (((kg x b i).2).1),ik (ij (((kg x b i).2).2))],.agg [bP (!(lP x (i+1))),ik (ij (kD x.2 b (i+1)))]] (uC ((kg x b i).2) aD ((!(lP x (i+1))),(kD x.2 b (i+1))) aD aD),
       iF (((i+1:Nat):Int)+1) aC]<|.e (af [.b 5 (.ji (by first|rfl|simp[kg,lP,kD,ho,h4]|simp[kg,lP,kD]):Bx.le (.cells 278 [bP ((j9 ((kg x b i).2) ((!(lP x (i+1))),(kD x.2 b (i+1)))).1),ik (ij ((j9 ((kg x b i).2) ((!(lP x (i+1))),(kD x.2 b (i+1)))).2))]) (.cells 278 [bP (((kg x b (i+1)).2).1),ik (ij (((kg x b (i+1)).2).2))])),.b 4 (.ji (by first|rfl|simp[kg,lP,kD,ho,h4]|simp[kg,lP,kD]):Bx.le (.cells 278 [bP (((kg x b i).1).1),ik (ij (((kg x b i).1).2))]) (.cells 278 [bP (((kg x b (i+1)).1).1),ik (ij (((kg x b (i+1)).1).2))]))])))
     (λh4=>ae [tF 31 (2<=(((i+1)%4:Nat):Int)) aC,.a (aC:0<(2:Int))]<|.w ((i+1)%2=1)
      (λho=>ae [ah 36 ((((i+1)%2:Nat):Int)==1) (by rw[ho];rfl),ag [.agg [bP (((kg x b i).1).1),ik (ij (((kg x b i).1).2))],.agg [bP (lP x (i+1)),ik (ij (kD x.2 b (i+1)))]] (uC ((kg x b i).1) aD ((lP x (i+1)),(kD x.2 b (i+1))) aD aD),
       iF (((i+1:Nat):Int)+1) aC]<|.e (af [.b 5 (.ji (by first|rfl|simp[kg,lP,kD,ho,h4]|simp[kg,lP,kD]):Bx.le (.cells 278 [bP (((kg x b i).2).1),ik (ij (((kg x b i).2).2))]) (.cells 278 [bP (((kg x b (i+1)).2).1),ik (ij (((kg x b (i+1)).2).2))])),.b 4 (.ji (by first|rfl|simp[kg,lP,kD,ho,h4]|simp[kg,lP,kD]):Bx.le (.cells 278 [bP ((j9 ((kg x b i).1) ((lP x (i+1)),(kD x.2 b (i+1)))).1),ik (ij ((j9 ((kg x b i).1) ((lP x (i+1)),(kD x.2 b (i+1)))).2))]) (.cells 278 [bP (((kg x b (i+1)).1).1),ik (ij (((kg x b (i+1)).1).2))]))]))
      (λho=>ae [ai 36 ((((i+1)%2:Nat):Int)==1) aN,ag [.agg [bP (((kg x b i).2).1),ik (ij (((kg x b i).2).2))],.agg [bP (lP x (i+1)),ik (ij (kD x.2 b (i+1)))]] (uC ((kg x b i).2) aD ((lP x (i+1)),(kD x.2 b (i+1))) aD aD),
       iF (((i+1:Nat):Int)+1) aC]<|.e (af [.b 5 (.ji (by first|rfl|simp[kg,lP,kD,ho,h4]|simp[kg,lP,kD]):Bx.le (.cells 278 [bP ((j9 ((kg x b i).2) ((lP x (i+1)),(kD x.2 b (i+1)))).1),ik (ij ((j9 ((kg x b i).2) ((lP x (i+1)),(kD x.2 b (i+1)))).2))]) (.cells 278 [bP (((kg x b (i+1)).2).1),ik (ij (((kg x b (i+1)).2).2))])),.b 4 (.ji (by first|rfl|simp[kg,lP,kD,ho,h4]|simp[kg,lP,kD]):Bx.le (.cells 278 [bP (((kg x b i).1).1),ik (ij (((kg x b i).1).2))]) (.cells 278 [bP (((kg x b (i+1)).1).1),ik (ij (((kg x b (i+1)).1).2))]))])))) aF)
  (λhi=>by
    have SF:=ZF wE hb (k:=N) aC;obtain⟨f0,f1,f2,f3,f4,f5,f6,f7⟩:=SF;exact iL (af [ag [.agg [bP (lP x N),ik (ij (kD x.2 b N))],.agg [bP x.1,ik (ij x.2)],iP b] (NB ((lP x N),(kD x.2 b N)) aD x aD _ aC aD),ag [.agg [bP ((lP x N) != x.1),ik (ij ((kD x.2 b N)*x.2/2^b))],iP ((N+1:Nat):Int)] (GA (((lP x N) != x.1),((kD x.2 b N)*x.2/2^b)) aD (N+1) aC aC),ag [.agg [bP (lP x (N+1)),ik (ij (kD x.2 b (N+1)))]] (EM ((lP x (N+1)),(kD x.2 b (N+1))) aD),tB 25 (bC hN)]) aF) aI:jS 6 f375 (Zl x b N 0) .ret ⟨43,true,[(5,.box 5 0),(4,.box 4 0)],[(5,.cells 278 [bP (((kg x b N).2).1),ik (ij (((kg x b N).2).2))]),(4,.cells 278 [bP (((kg x b N).1).1),ik (ij (((kg x b N).1).2))])]⟩) (af [.o 8 (aq 1 ((0+1:Nat):Int) aP),.b 5 (.ji (by first|rfl|simp[kg,lP,kD,ho,h4]|simp[kg,lP,kD]):Bx.le (.cells 278 [bP false,ik (ij (1*2^b))]) (.cells 278 [bP (((kg x b 0).2).1),ik (ij (((kg x b 0).2).2))])),.b 7 (.ji (by first|rfl|simp[kg,lP,kD,ho,h4]|simp[kg,lP,kD]):Bx.le (.cells 278 [bP false,ik (ij (1*2^b))]) (.cells 278 [bP (lP x 0),ik (ij (kD x.2 b 0))])),.b 4 (afD:Bx.le (.cells 278 [bP false,.v (.slice none 0 0)]) (.cells 278 [bP (((kg x b 0).1).1),ik (ij (((kg x b 0).1).2))]))])]) 
def adi(x:Bool×Nat)(b:Nat)(wE:x.2<=2^(b+1))(hb:b<=3000):∃ s c:Bool×Nat,s.2<2^(b+14)/\c.2<2^(b+14)/\ie 375 [.agg [bP x.1,ik (ij x.2)],iP (b:Int)] (.iE [.agg [bP s.1,ik (ij s.2)],.agg [bP c.1,ik (ij c.2)]]):=by
 obtain⟨N,n1,n2,n3,n4⟩:=afF wE;obtain⟨M,rfl⟩:∃ M,N=M+1:=⟨N-1,aC⟩
 obtain⟨a1,a2⟩:=ZH wE hb (k:=M) aC;exact⟨_,_,a1,a2,adh x b M wE hb aC n3 n4⟩
def BD(a:Bool×Nat)(b p:Nat)(ha:a.2<2^3000)(hb:b<=8000)(iA:8<=p)(im:p<=512):ie 377 [.agg [bP a.1,ik (ij a.2)],iP b,iP p] (iy (uf a b p)):=by
 have z1:(ij 1).length<=256:=uP aE;have z2:(ij (1*2^24)).length<=256:=uP aE;have z3:(ij a.2).length<=256:=mn ha aE;have hs:=La (n:=3000) ha (show 1*2^24<2^25 by decide) aE aE;have z4:(ij (a.2+1*2^24)).length<=256:=mn hs aE;have l1:=cQ (show(j9 a ((!false),(1*2^24))).2<=_ from y7 _ _) hs;have l2:=cQ (show(j9 a (false,(1*2^24))).2<=_ from y7 _ _) hs;have z5:(ij (j9 a ((!false),(1*2^24))).2).length<=256:=mn l1 aE;have z6:(ij (j9 a (false,(1*2^24))).2).length<=256:=mn l2 aE;have e3:(0-(b:Int)) = -(b:Int):=Int.zero_sub _;have r1:oR (canon (j9 a ((!false),(1*2^24))).1 (j9 a ((!false),(1*2^24))).2 (0-(b:Int))):=by rw[e3];exact W3 (Iu (k:=4000) l1 aE) hb
 have r2:oR (canon (j9 a (false,(1*2^24))).1 (j9 a (false,(1*2^24))).2 (0-(b:Int))):=by rw[e3];exact W3 (Iu (k:=4000) l2 aE) hb
 have v1:(canon (j9 a ((!false),(1*2^24))).1 (j9 a ((!false),(1*2^24))).2 (0-(b:Int))).ix:=W4 r1;have v2:(canon (j9 a (false,(1*2^24))).1 (j9 a (false,(1*2^24))).2 (0-(b:Int))).ix:=W4 r2;have hN:uf a b p=mA (iM (canon (j9 a ((!false),(1*2^24))).1 (j9 a ((!false),(1*2^24))).2 (0-(b:Int))) p false) (jY (canon (j9 a ((!false),(1*2^24))).1 (j9 a ((!false),(1*2^24))).2 (0-(b:Int))) p false) (iM (canon (j9 a (false,(1*2^24))).1 (j9 a (false,(1*2^24))).2 (0-(b:Int))) p true) (jY (canon (j9 a (false,(1*2^24))).1 (j9 a (false,(1*2^24))).2 (0-(b:Int))) p true):=by rw[e3];rfl
 exact ak call377 func377 (ae [.o 14 (.e zQ:aj (.sl false 1 1 λi_ j_=>[.v (.int .u32 1)].getD (i_*1+j_) (.v (.bool false))) (ik (ij 1))),.c (BC 1 24 aD aC aD),ag [.agg [bP false,ik (ij (1*2^24))]] (xY (false,(1*2^24))),ag [.agg [bP a.1,ik (ij a.2)],.agg [bP (!false),ik (ij (1*2^24))]] (uC a aD ((!false),(1*2^24)) aD aD),ag [.agg [bP a.1,ik (ij a.2)],.agg [bP false,ik (ij (1*2^24))]] (uC a aD (false,(1*2^24)) aD aD),iF (0-(b:Int)) aC,ag [bP ((j9 a ((!false),(1*2^24))).1),ik (ij ((j9 a ((!false),(1*2^24))).2)),iP (0-(b:Int))] (CZ _ _ _ aD aC aC aD),
  iF (0-(b:Int)) aC,ag [bP ((j9 a (false,(1*2^24))).1),ik (ij ((j9 a (false,(1*2^24))).2)),iP (0-(b:Int))] (CZ _ _ _ aD aC aC aD),ai 45 ((0:Int) != 0) aE,ai 48 ((0:Int) != 0) aE,.c (Jm (canon ((j9 a (!false,(1*2^24))).1) ((j9 a (!false,(1*2^24))).2) (0-(b:Int))) p aD aC aC),.c (Jn (canon ((j9 a (false,(1*2^24))).1) ((j9 a (false,(1*2^24))).2) (0-(b:Int))) p aD aC aC)]<|.w ((jY (canon ((j9 a ((!false),(1*2^24))).1) ((j9 a ((!false),(1*2^24))).2) (0-(b:Int))) p false)=0)
  (λk1=>ae [tB 64 (bu k1)]<|.w ((jY (canon ((j9 a (false,(1*2^24))).1) ((j9 a (false,(1*2^24))).2) (0-(b:Int))) p true)=0)
   (λk2=>ae [tB 67 (bu k2)]<|rQ (iy (Iv.mk (iM (canon ((j9 a ((!false),(1*2^24))).1) ((j9 a ((!false),(1*2^24))).2) (0-(b:Int))) p false) (iM (canon ((j9 a (false,(1*2^24))).1) ((j9 a (false,(1*2^24))).2) (0-(b:Int))) p true) false)) (iy (uf a b p)) (by rw[hN,aiB k1 k2]))
   (λk2=>ae [tB 67 (bw k2),.c oz]<|rQ (iy il) (iy (uf a b p)) (by rw[hN,WU (.inr k2)])))
  (λk1=>ae [tB 64 (bw k1),.c oz]<|rQ (iy il) (iy (uf a b p)) (by rw[hN,WU (.inl k1)]))) 
def ac7(d:Dy)(p:Nat)(hd:d.ix)(h0:d.jq=0)(iA:8<=p)(im:p<=512):ie 353 [iz d,bP true,iP p] (iy (jQ 1)):=by
 have hv:=tY (n:=1) aE;exact ak call353 func353 (af [ag [iz d] (qd _ aD),ah 14 ((Dy.jq d)==0) (by rw[h0];rfl),ag [iP 1] (sB _ aC),.c (sM (jv 1) aD)]) 
def acZ(d:Dy)(p:Nat)(r s c:Bool×Nat)(hd:d.ix)(h0:d.jq≠0)(qP:ie 374 [iz d,iP ((p+64:Nat):Int)] (.iE [.agg [bP r.1,ik (ij r.2)],iP 0]))(qQ:ie 375 [.agg [bP r.1,ik (ij r.2)],iP ((p+64:Nat):Int)] (.iE [.agg [bP s.1,ik (ij s.2)],.agg [bP c.1,ik (ij c.2)]]))(zs:s.2<2^3000)(zc:c.2<2^3000)(iA:8<=p)(im:p<=512):ie 353 [iz d,bP true,iP p] (iy (uf c (p+64) p)):=by
 have zk:c.2<2^3000:=zc;exact ak call353 func353 (af [ag [iz d] (qd _ aD),ai 14 ((Dy.jq d)==0) (by simpa using h0),iF ((p:Int)+64) aC,ag [iz d,iP ((p+64:Nat):Int)] qP,ag [.agg [bP r.1,ik (ij r.2)],iP ((p+64:Nat):Int)] qQ,iF (0+1) aC,.a (aC:0<(4:Int)),.o 38 (aq (Int.tmod (0+1) 4) 1 aE),ah 40 ((1:Int)==1) aE,ag [.agg [bP c.1,ik (ij c.2)],iP ((p+64:Nat):Int),iP p] (BD c _ _ aD aC aC aC)]) 
def ac0(d:Dy)(p:Nat)(r s c:Bool×Nat)(hd:d.ix)(h0:d.jq≠0)(qP:ie 374 [iz d,iP ((p+64:Nat):Int)] (.iE [.agg [bP r.1,ik (ij r.2)],iP 1]))(qQ:ie 375 [.agg [bP r.1,ik (ij r.2)],iP ((p+64:Nat):Int)] (.iE [.agg [bP s.1,ik (ij s.2)],.agg [bP c.1,ik (ij c.2)]]))(zs:s.2<2^3000)(zc:c.2<2^3000)(iA:8<=p)(im:p<=512):ie 353 [iz d,bP true,iP p] (iy (uf ((!s.1),s.2) (p+64) p)):=by
 have zk:((!s.1),s.2).2<2^3000:=zs;exact ak call353 func353 (af [ag [iz d] (qd _ aD),ai 14 ((Dy.jq d)==0) (by simpa using h0),iF ((p:Int)+64) aC,ag [iz d,iP ((p+64:Nat):Int)] qP,ag [.agg [bP r.1,ik (ij r.2)],iP ((p+64:Nat):Int)] qQ,iF (1+1) aC,.a (aC:0<(4:Int)),.o 38 (aq (Int.tmod (1+1) 4) 2 aE),ai 40 ((2:Int)==1) aE,ah 43 ((2:Int)==2) aE,ag [.agg [bP s.1,ik (ij s.2)]] (xY (s.1,s.2)),ag [.agg [bP (!s.1),ik (ij s.2)],iP ((p+64:Nat):Int),iP p] (BD ((!s.1),s.2) _ _ aD aC aC aC)]) 
def ac1(d:Dy)(p:Nat)(r s c:Bool×Nat)(hd:d.ix)(h0:d.jq≠0)(qP:ie 374 [iz d,iP ((p+64:Nat):Int)] (.iE [.agg [bP r.1,ik (ij r.2)],iP 2]))(qQ:ie 375 [.agg [bP r.1,ik (ij r.2)],iP ((p+64:Nat):Int)] (.iE [.agg [bP s.1,ik (ij s.2)],.agg [bP c.1,ik (ij c.2)]]))(zs:s.2<2^3000)(zc:c.2<2^3000)(iA:8<=p)(im:p<=512):ie 353 [iz d,bP true,iP p] (iy (uf ((!c.1),c.2) (p+64) p)):=by
 have zk:((!c.1),c.2).2<2^3000:=zc;exact ak call353 func353 (af [ag [iz d] (qd _ aD),ai 14 ((Dy.jq d)==0) (by simpa using h0),iF ((p:Int)+64) aC,ag [iz d,iP ((p+64:Nat):Int)] qP,ag [.agg [bP r.1,ik (ij r.2)],iP ((p+64:Nat):Int)] qQ,iF (2+1) aC,.a (aC:0<(4:Int)),.o 38 (aq (Int.tmod (2+1) 4) 3 aE),ai 40 ((3:Int)==1) aE,ai 43 ((3:Int)==2) aE,ah 47 ((3:Int)==3) aE,ag [.agg [bP c.1,ik (ij c.2)]] (xY (c.1,c.2)),ag [.agg [bP (!c.1),ik (ij c.2)],iP ((p+64:Nat):Int),iP p] (BD ((!c.1),c.2) _ _ aD aC aC aC)]) 
def ac2(d:Dy)(p:Nat)(r s c:Bool×Nat)(hd:d.ix)(h0:d.jq≠0)(qP:ie 374 [iz d,iP ((p+64:Nat):Int)] (.iE [.agg [bP r.1,ik (ij r.2)],iP 3]))(qQ:ie 375 [.agg [bP r.1,ik (ij r.2)],iP ((p+64:Nat):Int)] (.iE [.agg [bP s.1,ik (ij s.2)],.agg [bP c.1,ik (ij c.2)]]))(zs:s.2<2^3000)(zc:c.2<2^3000)(iA:8<=p)(im:p<=512):ie 353 [iz d,bP true,iP p] (iy (uf s (p+64) p)):=by
 have zk:s.2<2^3000:=zs;exact ak call353 func353 (af [ag [iz d] (qd _ aD),ai 14 ((Dy.jq d)==0) (by simpa using h0),iF ((p:Int)+64) aC,ag [iz d,iP ((p+64:Nat):Int)] qP,ag [.agg [bP r.1,ik (ij r.2)],iP ((p+64:Nat):Int)] qQ,iF (3+1) aC,.a (aC:0<(4:Int)),.o 38 (aq (Int.tmod (3+1) 4) 0 aE),ai 40 ((0:Int)==1) aE,ai 43 ((0:Int)==2) aE,ai 47 ((0:Int)==3) aE,ag [.agg [bP s.1,ik (ij s.2)],iP ((p+64:Nat):Int),iP p] (BD s _ _ aD aC aC aC)]) 
def ac8(d:Dy)(p:Nat)(hd:d.ix)(h0:d.jq=0)(iA:8<=p)(im:p<=512):ie 353 [iz d,bP false,iP p] (iy (jP d)):=
 ak call353 func353 (af [ag [iz d] (qd _ aD),ah 14 ((Dy.jq d)==0) (by rw[h0];rfl),.c (sM d aD)]) 
def ac3(d:Dy)(p:Nat)(r s c:Bool×Nat)(hd:d.ix)(h0:d.jq≠0)(qP:ie 374 [iz d,iP ((p+64:Nat):Int)] (.iE [.agg [bP r.1,ik (ij r.2)],iP 0]))(qQ:ie 375 [.agg [bP r.1,ik (ij r.2)],iP ((p+64:Nat):Int)] (.iE [.agg [bP s.1,ik (ij s.2)],.agg [bP c.1,ik (ij c.2)]]))(zs:s.2<2^3000)(zc:c.2<2^3000)(iA:8<=p)(im:p<=512):ie 353 [iz d,bP false,iP p] (iy (uf s (p+64) p)):=by
 have zk:s.2<2^3000:=zs;exact ak call353 func353 (af [ag [iz d] (qd _ aD),ai 14 ((Dy.jq d)==0) (by simpa using h0),iF ((p:Int)+64) aC,ag [iz d,iP ((p+64:Nat):Int)] qP,ag [.agg [bP r.1,ik (ij r.2)],iP ((p+64:Nat):Int)] qQ,.a (aC:0<(4:Int)),.o 38 (aq (Int.tmod 0 4) 0 aE),ai 40 ((0:Int)==1) aE,ai 43 ((0:Int)==2) aE,ai 47 ((0:Int)==3) aE,ag [.agg [bP s.1,ik (ij s.2)],iP ((p+64:Nat):Int),iP p] (BD s _ _ aD aC aC aC)]) 
def ac4(d:Dy)(p:Nat)(r s c:Bool×Nat)(hd:d.ix)(h0:d.jq≠0)(qP:ie 374 [iz d,iP ((p+64:Nat):Int)] (.iE [.agg [bP r.1,ik (ij r.2)],iP 1]))(qQ:ie 375 [.agg [bP r.1,ik (ij r.2)],iP ((p+64:Nat):Int)] (.iE [.agg [bP s.1,ik (ij s.2)],.agg [bP c.1,ik (ij c.2)]]))(zs:s.2<2^3000)(zc:c.2<2^3000)(iA:8<=p)(im:p<=512):ie 353 [iz d,bP false,iP p] (iy (uf c (p+64) p)):=by
 have zk:c.2<2^3000:=zc;exact ak call353 func353 (af [ag [iz d] (qd _ aD),ai 14 ((Dy.jq d)==0) (by simpa using h0),iF ((p:Int)+64) aC,ag [iz d,iP ((p+64:Nat):Int)] qP,ag [.agg [bP r.1,ik (ij r.2)],iP ((p+64:Nat):Int)] qQ,.a (aC:0<(4:Int)),.o 38 (aq (Int.tmod 1 4) 1 aE),ah 40 ((1:Int)==1) aE,ag [.agg [bP c.1,ik (ij c.2)],iP ((p+64:Nat):Int),iP p] (BD c _ _ aD aC aC aC)]) 
def ac5(d:Dy)(p:Nat)(r s c:Bool×Nat)(hd:d.ix)(h0:d.jq≠0)(qP:ie 374 [iz d,iP ((p+64:Nat):Int)] (.iE [.agg [bP r.1,ik (ij r.2)],iP 2]))(qQ:ie 375 [.agg [bP r.1,ik (ij r.2)],iP ((p+64:Nat):Int)] (.iE [.agg [bP s.1,ik (ij s.2)],.agg [bP c.1,ik (ij c.2)]]))(zs:s.2<2^3000)(zc:c.2<2^3000)(iA:8<=p)(im:p<=512):ie 353 [iz d,bP false,iP p] (iy (uf ((!s.1),s.2) (p+64) p)):=by
 have zk:((!s.1),s.2).2<2^3000:=zs;exact ak call353 func353 (af [ag [iz d] (qd _ aD),ai 14 ((Dy.jq d)==0) (by simpa using h0),iF ((p:Int)+64) aC,ag [iz d,iP ((p+64:Nat):Int)] qP,ag [.agg [bP r.1,ik (ij r.2)],iP ((p+64:Nat):Int)] qQ,.a (aC:0<(4:Int)),.o 38 (aq (Int.tmod 2 4) 2 aE),ai 40 ((2:Int)==1) aE,ah 43 ((2:Int)==2) aE,ag [.agg [bP s.1,ik (ij s.2)]] (xY (s.1,s.2)),ag [.agg [bP (!s.1),ik (ij s.2)],iP ((p+64:Nat):Int),iP p] (BD ((!s.1),s.2) _ _ aD aC aC aC)]) 
def ac6(d:Dy)(p:Nat)(r s c:Bool×Nat)(hd:d.ix)(h0:d.jq≠0)(qP:ie 374 [iz d,iP ((p+64:Nat):Int)] (.iE [.agg [bP r.1,ik (ij r.2)],iP 3]))(qQ:ie 375 [.agg [bP r.1,ik (ij r.2)],iP ((p+64:Nat):Int)] (.iE [.agg [bP s.1,ik (ij s.2)],.agg [bP c.1,ik (ij c.2)]]))(zs:s.2<2^3000)(zc:c.2<2^3000)(iA:8<=p)(im:p<=512):ie 353 [iz d,bP false,iP p] (iy (uf ((!c.1),c.2) (p+64) p)):=by
 have zk:((!c.1),c.2).2<2^3000:=zc;exact ak call353 func353 (af [ag [iz d] (qd _ aD),ai 14 ((Dy.jq d)==0) (by simpa using h0),iF ((p:Int)+64) aC,ag [iz d,iP ((p+64:Nat):Int)] qP,ag [.agg [bP r.1,ik (ij r.2)],iP ((p+64:Nat):Int)] qQ,.a (aC:0<(4:Int)),.o 38 (aq (Int.tmod 3 4) 3 aE),ai 40 ((3:Int)==1) aE,ai 43 ((3:Int)==2) aE,ah 47 ((3:Int)==3) aE,ag [.agg [bP c.1,ik (ij c.2)]] (xY (c.1,c.2)),ag [.agg [bP (!c.1),ik (ij c.2)],iP ((p+64:Nat):Int),iP p] (BD ((!c.1),c.2) _ _ aD aC aC aC)]) 
def Sr{d:Dy}(hd:d.ix)(ht:d.iI<=100)(cs:Bool){p:Nat}(iA:8<=p)(im:p<=512):∃ Z,Z.ix/\ie 353 [iz d,bP cs,iP (p:Int)] (iy Z):=by
 by_cases h0:d.jq=0
 .cases cs with
  |true=>exact⟨_,xE aE,ac7 d p hd h0 iA im⟩
  |false=>exact⟨_,rH hd,ac8 d p hd h0 iA im⟩
 .obtain ⟨r,k,hr,hk,qP⟩:=ac9 d (p+64) hd aC aC ht;obtain⟨s,c,zs,zc,qQ⟩:=adi r (p+64) hr aC;have zs:=Iu zs (k:=3000) aC;have zc:=Iu zc (k:=3000) aC;have hv:∀ a:Bool×Nat,(uf a (p+64) p).ix:=λa=>ajb a _ aC aC 
  rcases(aC:k=0\/k=1\/k=2\/k=3)with rfl|rfl|rfl|rfl
  .cases cs with
   |true=>exact⟨_,hv _,acZ d p r s c hd h0 qP qQ zs zc iA im⟩
   |false=>exact⟨_,hv _,ac3 d p r s c hd h0 qP qQ zs zc iA im⟩
  .cases cs with
   |true=>exact⟨_,hv _,ac0 d p r s c hd h0 qP qQ zs zc iA im⟩
   |false=>exact⟨_,hv _,ac4 d p r s c hd h0 qP qQ zs zc iA im⟩
  .cases cs with
   |true=>exact⟨_,hv _,ac1 d p r s c hd h0 qP qQ zs zc iA im⟩
   |false=>exact⟨_,hv _,ac5 d p r s c hd h0 qP qQ zs zc iA im⟩
  .cases cs with
   |true=>exact⟨_,hv _,ac2 d p r s c hd h0 qP qQ zs zc iA im⟩
   |false=>exact⟨_,hv _,ac6 d p r s c hd h0 qP qQ zs zc iA im⟩
def ahr:(jv (-1)).neg=true/\(jv (-1)).m=1/\(jv (-1)).e=0:= aL 
def adl : ie 381 [iP (-1)] (.agg [bP true,ik (ij 1)]):=by
 obtain⟨q1,q2,q3⟩:=ahr;have z1:(ij (jv (-1)).m).length<=256:=by rw[q2];exact uP aE 
 have z2:(ij ((jv (-1)).m*2^(Int.toNat (jv (-1)).e))).length<=256:=by rw[q2,q3];exact uP aE 
 exact ak call381 func381 (ae [ag [iP (-1)] (sB _ aC),ag [ik (ij ((jv (-1)).m)),iP ((jv (-1)).e)] (MR _ _ aD aC aC aD)]<|rQ (.agg [bP ((jv (-1)).neg),ik (ij (((jv (-1)).m)*2^(Int.toNat ((jv (-1)).e))))]) (.agg [bP true,ik (ij 1)]) (by rw[q1,q2,q3];rfl)) 
def acQ(a c:Bool×Nat)(za:(ij a.2).length<=256)(zc:(ij c.2).length<=256)(c0:c.2≠0)(zs:(ij (a.2/c.2+1)).length<=256)(h1:a.1=false):ie 383 [.agg [bP a.1,ik (ij a.2)],.agg [bP c.1,ik (ij c.2)]] (.agg [bP ((qC a c).1),ik (ij ((qC a c).2))]):=by
 have zq:(ij (a.2/c.2)).length<=256:=bH (nA (cw _ _)) za;have zr:(ij (a.2%c.2)).length<=256:=bH (nA (fj _ _)) za;have z1:(ij 1).length<=256:=uP aE;have e:qC a c=(a.1,a.2/c.2):=by unfold qC;rw[bA (by rw[h1];exact λq=>Bool.noConfusion q.1)]
 exact ak call383 func383 (ae [ag [ik (ij a.2),ik (ij c.2)] (AX _ _ aC aC aD),ai 19 a.1 h1,ai 23 a.1 h1]<|rQ (.agg [bP false,ik (ij (a.2/c.2))]) (.agg [bP ((qC a c).1),ik (ij ((qC a c).2))]) (by rw[e,h1])) 
def acN(a c:Bool×Nat)(za:(ij a.2).length<=256)(zc:(ij c.2).length<=256)(c0:c.2≠0)(zs:(ij (a.2/c.2+1)).length<=256)(h1:a.1=true)(h2:a.2%c.2=0):ie 383 [.agg [bP a.1,ik (ij a.2)],.agg [bP c.1,ik (ij c.2)]] (.agg [bP ((qC a c).1),ik (ij ((qC a c).2))]):=by
 have zq:(ij (a.2/c.2)).length<=256:=bH (nA (cw _ _)) za;have zr:(ij (a.2%c.2)).length<=256:=bH (nA (fj _ _)) za;have z1:(ij 1).length<=256:=uP aE;have e:qC a c=(a.1,a.2/c.2):=by unfold qC;rw[bA (λq=>q.2 h2)]
 exact ak call383 func383 (ae [ag [ik (ij a.2),ik (ij c.2)] (AX _ _ aC aC aD),ah 19 a.1 h1,ah 23 a.1 h1,ag [ik (ij (a.2%c.2))] (ue _ aC),tF 27 (0<(iB (a.2%c.2):Int)) (by rw[h2,tE];decide)]<|rQ (.agg [bP true,ik (ij (a.2/c.2))]) (.agg [bP ((qC a c).1),ik (ij ((qC a c).2))]) (by rw[e,h1])) 
def acO(a c:Bool×Nat)(za:(ij a.2).length<=256)(zc:(ij c.2).length<=256)(c0:c.2≠0)(zs:(ij (a.2/c.2+1)).length<=256)(h1:a.1=true)(h2:a.2%c.2≠0):ie 383 [.agg [bP a.1,ik (ij a.2)],.agg [bP c.1,ik (ij c.2)]] (.agg [bP ((qC a c).1),ik (ij ((qC a c).2))]):=by
 have zq:(ij (a.2/c.2)).length<=256:=bH (nA (cw _ _)) za;have zr:(ij (a.2%c.2)).length<=256:=bH (nA (fj _ _)) za;have z1:(ij 1).length<=256:=uP aE;have e:qC a c=j9 (a.1,a.2/c.2) (true,1):=by unfold qC;rw[bB ⟨h1,h2⟩]
 exact ak call383 func383 (ae [ag [ik (ij a.2),ik (ij c.2)] (AX _ _ aC aC aD),ah 19 a.1 h1,ah 23 a.1 h1,ag [ik (ij (a.2%c.2))] (ue _ aC),tT 27 (0<(iB (a.2%c.2):Int)) (by have:=pF h2;omega),.c adl,ag [.agg [bP true,ik (ij (a.2/c.2))],.agg [bP true,ik (ij 1)]] (uC (true,(a.2/c.2)) aD (true,1) aD aD)]<|rQ (.agg [bP ((j9 (true,(a.2/c.2)) (true,1)).1),ik (ij ((j9 (true,(a.2/c.2)) (true,1)).2))]) (.agg [bP ((qC a c).1),ik (ij ((qC a c).2))]) (by rw[e,h1])) 
def acP(a c:Bool×Nat)(za:(ij a.2).length<=256)(zc:(ij c.2).length<=256)(c0:c.2≠0)(zs:(ij (a.2/c.2+1)).length<=256):ie 383 [.agg [bP a.1,ik (ij a.2)],.agg [bP c.1,ik (ij c.2)]] (.agg [bP ((qC a c).1),ik (ij ((qC a c).2))]):=by
 cases h1:a.1 with
 |false=>rw[<-h1];exact acQ a c za zc c0 zs h1
 |true=>
  rw[<-h1];by_cases h2:a.2%c.2=0
  .exact acN a c za zc c0 zs h1 h2
  .exact acO a c za zc c0 zs h1 h2
def acV(x:Iv)(n p t w2 sg eg mm:Nat)(cp u v c1 a0 a1 k l0 d0 d1:Bool×Nat)(hx:x.ix)(xa:x.all=false)(hn:n<=3)(im:p<=2000)(ht:(t:Int)=max (max x.lo.iI x.hi.iI) 0)(t2:t<=2000)(zd:(ij d1.2).length<=256)(sF:ie 378 [iP (((p+t)+40:Nat):Int)] (.agg [bP cp.1,ik (ij cp.2)]))(hU:ie 384 [iz x.hi,iP (((p+t)+40:Nat):Int)] (.agg [bP u.1,ik (ij u.2)]))(hV:ie 384 [iz x.lo,iP (((p+t)+40:Nat):Int)] (.agg [bP v.1,ik (ij v.2)]))(hW:ie 379 [ik (ij cp.2),iP ((1:Nat):Int)] (ik (ij w2)))(ES:ie 382 [.agg [bP false,ik (ij n)],.agg [bP cp.1,ik (ij cp.2)],iP ((0:Nat):Int)] (.agg [bP c1.1,ik (ij c1.2)]))(hS:ie 380 [ik (ij c1.2),iP ((1:Nat):Int)] (ik (ij sg)))(hE:ie 379 [ik (ij 1),iP (((t+24)+4:Nat):Int)] (ik (ij eg)))(wm:ie 385 [.agg [bP u.1,ik (ij u.2)],.agg [bP (!false),ik (ij sg)]] (.agg [bP a0.1,ik (ij a0.2)]))(BR:ie 385 [.agg [bP a0.1,ik (ij a0.2)],.agg [bP false,ik (ij eg)]] (.agg [bP a1.1,ik (ij a1.2)]))(hK:ie 383 [.agg [bP a1.1,ik (ij a1.2)],.agg [bP false,ik (ij w2)]] (.agg [bP k.1,ik (ij k.2)]))(hM:ie 234 [ik (ij k.2),ik (ij w2)] (.iE [ik (ij mm),iP 0]))(xk:ie 385 [.agg [bP k.1,ik (ij mm)],.agg [bP false,ik (ij sg)]] (.agg [bP l0.1,ik (ij l0.2)]))(y9:ie 385 [.agg [bP l0.1,ik (ij l0.2)],.agg [bP (!v.1),ik (ij v.2)]] (.agg [bP d0.1,ik (ij d0.2)]))(ET:ie 385 [.agg [bP d0.1,ik (ij d0.2)],.agg [bP false,ik (ij eg)]] (.agg [bP d1.1,ik (ij d1.2)]))(hz:d1.2=0):ie 354 [iy x,iP n,iP p] (bP true):=by
 obtain⟨w1,w2'⟩:=hx.kq;have z1:(ij 1).length<=256:=uP aE;exact ak call354 func354 (af [ag [iz x.lo] (pU _ aD),ag [iz x.hi] (pU _ aD),.o 24 (aq (if 0>(if(Dy.iI x.hi)>(Dy.iI x.lo)then(Dy.iI x.hi)else(Dy.iI x.lo))then 0 else(if(Dy.iI x.hi)>(Dy.iI x.lo)then(Dy.iI x.hi)else(Dy.iI x.lo))) t (by(repeat' split)<;>omega)),
  iF ((p:Int)+t) aC,iF (((p+t:Nat):Int)+40) aC,ag [iP (((p+t)+40:Nat):Int)] sF,ag [ik (ij cp.2),iP 1] hW,.c (MT n aC),ag [.agg [bP false,ik (ij n)],.agg [bP cp.1,ik (ij cp.2)],iP 0] ES,ag [ik (ij c1.2),iP 1] hS,.o 42 (.e zQ:aj (.sl false 1 1 λi_ j_=>[.v (.int .u32 1)].getD (i_*1+j_) (.v (.bool false))) (ik (ij 1))),iF ((t:Int)+24) aC,iF (((t+24:Nat):Int)+4) aC,ag [ik (ij 1),iP (((t+24)+4:Nat):Int)] hE,ag [iz x.hi,iP (((p+t)+40:Nat):Int)] hU,ag [.agg [bP false,ik (ij sg)]] (xY (false,sg)),ag [.agg [bP u.1,ik (ij u.2)],.agg [bP (!false),ik (ij sg)]] wm,ag [.agg [bP a0.1,ik (ij a0.2)],.agg [bP false,ik (ij eg)]] BR,ag [.agg [bP a1.1,ik (ij a1.2)],.agg [bP false,ik (ij w2)]] hK,ag [ik (ij k.2),ik (ij w2)] hM,ag [.agg [bP k.1,ik (ij mm)],.agg [bP false,ik (ij sg)]] xk,ag [iz x.lo,iP (((p+t)+40:Nat):Int)] hV,ag [.agg [bP v.1,ik (ij v.2)]] (xY (v.1,v.2)),ag [.agg [bP l0.1,ik (ij l0.2)],.agg [bP (!v.1),ik (ij v.2)]] y9,ag [.agg [bP d0.1,ik (ij d0.2)],.agg [bP false,ik (ij eg)]] ET,ag [.agg [bP d1.1,ik (ij d1.2)]] (EM (d1.1,d1.2) aD),tB 83 (bC hz)]) 
def acU(x:Iv)(n p t w2 sg eg mm:Nat)(cp u v c1 a0 a1 k l0 d0 d1:Bool×Nat)(hx:x.ix)(xa:x.all=false)(hn:n<=3)(im:p<=2000)(ht:(t:Int)=max (max x.lo.iI x.hi.iI) 0)(t2:t<=2000)(zd:(ij d1.2).length<=256)(sF:ie 378 [iP (((p+t)+40:Nat):Int)] (.agg [bP cp.1,ik (ij cp.2)]))(hU:ie 384 [iz x.hi,iP (((p+t)+40:Nat):Int)] (.agg [bP u.1,ik (ij u.2)]))(hV:ie 384 [iz x.lo,iP (((p+t)+40:Nat):Int)] (.agg [bP v.1,ik (ij v.2)]))(hW:ie 379 [ik (ij cp.2),iP ((1:Nat):Int)] (ik (ij w2)))(ES:ie 382 [.agg [bP false,ik (ij n)],.agg [bP cp.1,ik (ij cp.2)],iP ((0:Nat):Int)] (.agg [bP c1.1,ik (ij c1.2)]))(hS:ie 380 [ik (ij c1.2),iP ((1:Nat):Int)] (ik (ij sg)))(hE:ie 379 [ik (ij 1),iP (((t+24)+4:Nat):Int)] (ik (ij eg)))(wm:ie 385 [.agg [bP u.1,ik (ij u.2)],.agg [bP (!false),ik (ij sg)]] (.agg [bP a0.1,ik (ij a0.2)]))(BR:ie 385 [.agg [bP a0.1,ik (ij a0.2)],.agg [bP false,ik (ij eg)]] (.agg [bP a1.1,ik (ij a1.2)]))(hK:ie 383 [.agg [bP a1.1,ik (ij a1.2)],.agg [bP false,ik (ij w2)]] (.agg [bP k.1,ik (ij k.2)]))(hM:ie 234 [ik (ij k.2),ik (ij w2)] (.iE [ik (ij mm),iP 0]))(xk:ie 385 [.agg [bP k.1,ik (ij mm)],.agg [bP false,ik (ij sg)]] (.agg [bP l0.1,ik (ij l0.2)]))(y9:ie 385 [.agg [bP l0.1,ik (ij l0.2)],.agg [bP (!v.1),ik (ij v.2)]] (.agg [bP d0.1,ik (ij d0.2)]))(ET:ie 385 [.agg [bP d0.1,ik (ij d0.2)],.agg [bP false,ik (ij eg)]] (.agg [bP d1.1,ik (ij d1.2)]))(hz:¬d1.2=0):ie 354 [iy x,iP n,iP p] (bP (!d1.1)):=by
 obtain⟨w1,w2'⟩:=hx.kq;have z1:(ij 1).length<=256:=uP aE;exact ak call354 func354 (af [ag [iz x.lo] (pU _ aD),ag [iz x.hi] (pU _ aD),.o 24 (aq (if 0>(if(Dy.iI x.hi)>(Dy.iI x.lo)then(Dy.iI x.hi)else(Dy.iI x.lo))then 0 else(if(Dy.iI x.hi)>(Dy.iI x.lo)then(Dy.iI x.hi)else(Dy.iI x.lo))) t (by(repeat' split)<;>omega)),
  iF ((p:Int)+t) aC,iF (((p+t:Nat):Int)+40) aC,ag [iP (((p+t)+40:Nat):Int)] sF,ag [ik (ij cp.2),iP 1] hW,.c (MT n aC),ag [.agg [bP false,ik (ij n)],.agg [bP cp.1,ik (ij cp.2)],iP 0] ES,ag [ik (ij c1.2),iP 1] hS,.o 42 (.e zQ:aj (.sl false 1 1 λi_ j_=>[.v (.int .u32 1)].getD (i_*1+j_) (.v (.bool false))) (ik (ij 1))),iF ((t:Int)+24) aC,iF (((t+24:Nat):Int)+4) aC,ag [ik (ij 1),iP (((t+24)+4:Nat):Int)] hE,ag [iz x.hi,iP (((p+t)+40:Nat):Int)] hU,ag [.agg [bP false,ik (ij sg)]] (xY (false,sg)),ag [.agg [bP u.1,ik (ij u.2)],.agg [bP (!false),ik (ij sg)]] wm,ag [.agg [bP a0.1,ik (ij a0.2)],.agg [bP false,ik (ij eg)]] BR,ag [.agg [bP a1.1,ik (ij a1.2)],.agg [bP false,ik (ij w2)]] hK,ag [ik (ij k.2),ik (ij w2)] hM,ag [.agg [bP k.1,ik (ij mm)],.agg [bP false,ik (ij sg)]] xk,ag [iz x.lo,iP (((p+t)+40:Nat):Int)] hV,ag [.agg [bP v.1,ik (ij v.2)]] (xY (v.1,v.2)),ag [.agg [bP l0.1,ik (ij l0.2)],.agg [bP (!v.1),ik (ij v.2)]] y9,ag [.agg [bP d0.1,ik (ij d0.2)],.agg [bP false,ik (ij eg)]] ET,ag [.agg [bP d1.1,ik (ij d1.2)]] (EM (d1.1,d1.2) aD),tB 83 (bD hz)]) 
def Gz{a b:Bool×Nat}{i j n:Nat}(ha:a.2<2^i)(hb:b.2<2^j)(hi:i<=n)(hj:j<=n)(hn:n<=8000):∃ r:Bool×Nat,r.2<2^(n+1)/\ie 385 [.agg [bP a.1,ik (ij a.2)],.agg [bP b.1,ik (ij b.2)]] (.agg [bP r.1,ik (ij r.2)]):=
 ⟨j9 a b,ae1 ha hb hi hj,uC a (mn ha aC) b (mn hb aC) (mn (La ha hb hi hj) aC)⟩
def acT{x:Iv}(hx:x.ix)(xa:x.all=false)(n:Nat)(hn:n<=3)(p:Nat)(im:p<=1000)(h1:x.lo.iI<=100)(h2:x.hi.iI<=100):∃ r:Bool,ie 354 [iy x,iP (n:Int),iP (p:Int)] (bP r):=by
 obtain⟨w1,w2⟩:=hx.kq;obtain⟨t,ht⟩:∃ t:Nat,(t:Int)=max (max x.lo.iI x.hi.iI) 0:=⟨(max (max x.lo.iI x.hi.iI) 0).toNat,aC⟩
 obtain⟨cp,c1,c2,c3,sF⟩:=So (p+t+40) aC aC;have hU:=MS x.hi w2 (p+t+40) 6000 aC aE aC;have hV:=MS x.lo w1 (p+t+40) 6000 aC aE aC;have yu:=KU (d:=x.hi) (b:=p+t+40) (K:=6000) aC;have yv:=KU (d:=x.lo) (b:=p+t+40) (K:=6000) aC;have yc:=Iu (m:=cp.2) (i:=p+t+40+3) (k:=2000) (by have e:(2:Nat)^(p+t+40+3)=2^(p+t+40)*8:=bK 2 _ 3;have:0<2^(p+t+40):=bL aE;omega) aC;generalize sr x.hi (p+t+40)=u at hU yu;generalize sr x.lo (p+t+40)=v at hV yv;obtain⟨K,hK⟩:∃ K,K=6000:=⟨_,rfl⟩
 rw[<-hK]at yu yv;obtain⟨J,hJ⟩:∃ J,J=2000:=⟨_,rfl⟩
 rw[<-hJ]at yc;have zc:(ij cp.2).length<=256:=mn yc aC;have yw:cp.2*2^1<2^(J+1):=by have e:2^(J+1)=2^J*2:=bS _ _;omega
 have hW:=BC cp.2 1 zc aE (mn yw aC);have w0:cp.2*2^1≠0:= aC ;generalize cp.2*2^1=w at hW yw w0;have yn:n*cp.2<2^(J+2):=by have e:2^(J+2)=2^J*4:=bK 2 J 2;have:=bY cp.2 hn;omega
 have ES:=NB (false,n) (uP (by show n<_;omega)) cp zc 0 aE (mn yn aC);have y1:n*cp.2/2^0<2^(J+2):=cQ (cw _ _) yn;obtain⟨q,hq⟩:∃ q:Bool×Nat,q=(false != cp.1,n*cp.2/2^0):=⟨_,rfl⟩
 have yq:q.2<2^(J+2):=by rw[hq];exact y1
 have Un:ie 382 [.agg [bP false,ik (ij n)],.agg [bP cp.1,ik (ij cp.2)],iP ((0:Nat):Int)] (.agg [bP q.1,ik (ij q.2)]):=by rw[hq];exact ES
 clear ES hq;have hS:=xT q.2 1 (mn yq aC) aE;have ys:q.2/2^1<2^(J+2):=cQ (cw _ _) yq;generalize q.2/2^1=sg at hS ys;have ye:1*2^(t+24+4)<2^K:=by rw[cv];exact apt aE aC 
 have hE:=BC 1 (t+24+4) (uP aE) aC (mn ye aC);generalize 1*2^(t+24+4)=eg at hE ye;obtain⟨a0,x0,wm⟩:=Gz (b:=(!false,sg)) yu ys (n:=K) aC aC aC;obtain⟨a1,x1,BR⟩:=Gz (b:=(false,eg)) x0 ye (n:=K+1) aC aC aC;have yf:a1.2/w+1<2^(K+3):=by
  have e:2^(K+3)=2^(K+1+1)*2:=bS _ _;have:=cw a1.2 w;have:0<2^(K+1+1):=bL aE;omega
 have hF:=acP a1 (false,w) (mn x1 aC) (mn yw aC) w0 (mn yf aC);have yk:=cQ (T8 a1 (false,w)) yf;have ym:(qC a1 (false,w)).2*w<2^(K+3):=cQ (afy a1 (false,w)) (La (n:=K+2) x1 yw aC aC);generalize qC a1 (false,w)=k at hF yk ym;have hM:=AY k.2 w (mn yk aC) (mn yw aC) (mn ym aC);generalize k.2*w=mm at hM ym;obtain⟨l0,x2,xk⟩:=Gz (a:=(k.1,mm)) (b:=(false,sg)) ym ys (n:=K+3) aC aC aC;obtain⟨d0,x3,y9⟩:=Gz (b:=(!v.1,v.2)) x2 yv (n:=K+4) aC aC aC;obtain⟨d1,x4,ET⟩:=Gz (b:=(false,eg)) x3 ye (n:=K+5) aC aC aC;by_cases hz:d1.2=0
 .exact ⟨_,acV x n p t w sg eg mm cp u v q a0 a1 k l0 d0 d1 hx xa hn aC ht aC (mn x4 aC) sF hU hV hW Un hS hE wm BR hF hM xk y9 ET hz⟩
 .exact ⟨_,acU x n p t w sg eg mm cp u v q a0 a1 k l0 d0 d1 hx xa hn aC ht aC (mn x4 aC) sF hU hV hW Un hS hE wm BR hF hM xk y9 ET hz⟩
def mg:Iv:=⟨jv (-1),jv 1,false⟩
def Bg:mg.ix:=.inr ⟨rfl,show(jv (-1)).ix from tY aE,show(jv 1).ix from tY aE,aL⟩
def Al : ie 352 [] (iy mg):=by
 have h1:(jv (-1)).ix:=tY aE;have h2:(jv 1).ix:=tY aE;exact ak call352 func352 (ae [ag [iP (-1)] (sB _ aC),ag [iP 1] (sB _ aC)]<|rR (iy mg) (.ji rfl:E.le (iy (Iv.mk (jv (-1)) (jv 1) false)) (iy mg))) 
def abN(x y:Iv)(hx:x.ix)(hy:y.ix)(xa:(x.all||y.all)=true):ie 242 [iy x,iy y] (iy il):=
 ak call242 func242 (af [.o 7 (.e (AO _ _):aj (.sl true 2 7 λi_ j_=>(iN x++iN y).getD (i_*7+j_) (.v (.bool false))) (iu [x,y])),ag [iu [x,y]] (AN _ _ aD aD),ai 8 (!(x.all||y.all)) (by rw[xa];rfl),.c oz]) 
def abO{x y:Iv}(hx:x.ix)(hy:y.ix):∃ Z,Z.ix/\ie 242 [iy x,iy y] (iy Z):=by
 cases h:(x.all||y.all)with
 |true=>exact⟨il,mw,abN x y hx hy h⟩
 |false=>
  obtain⟨h1,h2⟩:=ek.1 h;exact⟨Ff x y,ahd hx hy,abP x y hx hy h1 h2⟩
def abX(x:Iv)(hx:x.ix)(xa:x.all=true):ie 142 [iy x,iy mg] (.iE [iy mg,bP true]):=by
 have hu:=Bg;exact ak call142 func142 (af [.c (rj x aD),.c (rj mg aD),ah 19 x.all xa]) 
def abZ(x:Iv)(hx:x.ix)(xa:x.all=false)(h:0<jf (jy x.lo mg.lo) (jB x.hi mg.hi)):ie 142 [iy x,iy mg] (.iE [iy Aa,bP false]):=by
 have hu:=Bg;obtain⟨v1,v2⟩:=hx.kq;obtain⟨v3,v4⟩:=hu.kq;have m1:=tw v1 v3;have m2:=vD v2 v4;exact ak call142 func142 (ae [.c (rj x aD),.c (rj mg aD),ai 19 x.all xa,ai 23 mg.all rfl,.c (Fo x.lo mg.lo aD aD),.c (Fm x.hi mg.hi aD aD),ag [iz (jy x.lo mg.lo),iz (jB x.hi mg.hi)] (nR _ _ aD aD),tB 41 (bC h)]<|rR (.iE [iy Aa,bP false]) (.iE (.cons aaX (.cons (.refl _) .nil)):E.le (.iE [.agg au,bP false]) (.iE [iy Aa,bP false]))) 
def ab0(x:Iv)(hx:x.ix)(xa:x.all=false)(h:¬0<jf (jy x.lo mg.lo) (jB x.hi mg.hi)):ie 142 [iy x,iy mg] (.iE [iy (Iv.mk (jy x.lo mg.lo) (jB x.hi mg.hi) false),bP true]):=by
 have hu:=Bg;obtain⟨v1,v2⟩:=hx.kq;obtain⟨v3,v4⟩:=hu.kq;have m1:=tw v1 v3;have m2:=vD v2 v4;exact ak call142 func142 (af [.c (rj x aD),.c (rj mg aD),ai 19 x.all xa,ai 23 mg.all rfl,.c (Fo x.lo mg.lo aD aD),.c (Fm x.hi mg.hi aD aD),ag [iz (jy x.lo mg.lo),iz (jB x.hi mg.hi)] (nR _ _ aD aD),tB 41 (bD h)]) 
structure Ab(Y:Iv):Prop where
 v:Y.ix
 f:Y.all=false
 l:jf mg.lo Y.lo<=0
 h:jf Y.hi mg.hi<=0
def an6:Ab mg:=⟨Bg,rfl,aL,aL⟩
def abY{x:Iv}(hx:x.ix):(∃ Y,Ab Y/\ie 142 [iy x,iy mg] (.iE [iy Y,bP true]))\/ie 142 [iy x,iy mg] (.iE [iy Aa,bP false]):=by
 cases xa:x.all with
 |true=>exact .inl ⟨mg,an6,abX x hx xa⟩
 |false=>
  by_cases h:0<jf (jy x.lo mg.lo) (jB x.hi mg.hi)
  .exact .inr (abZ x hx xa h)
  .have v1:(jy x.lo mg.lo).ix:=tw hx.kq.1 Bg.kq.1;have v2:(jB x.hi mg.hi).ix:=vD hx.kq.2 Bg.kq.2;have h1:jf mg.lo (jy x.lo mg.lo)<=0:=WZ _ _;have h2:jf (jB x.hi mg.hi) mg.hi<=0:=W0 _ _;have hq:=ab0 x hx xa h;have h3:jf (jy x.lo mg.lo) (jB x.hi mg.hi)<=0:= aC ;generalize jy x.lo mg.lo=a at *
   generalize jB x.hi mg.hi=b at *
   exact .inl ⟨⟨a,b,false⟩,⟨.inr ⟨rfl,v1,v2,h3⟩,rfl,h1,h2⟩,hq⟩
def Ab.up{Y:Iv}(h:Ab Y):Ab ⟨Y.lo,jv 1,false⟩:=by
 have e:=h.v.kq;refine⟨.inr ⟨rfl,e.1,tY (n:=1) aE,?_⟩,rfl,h.l,show jf (jv 1) (jv 1)<=0 by decide +kernel⟩;have:=h.v.q;rw[qk];exact bX this ((qk _ _).1 h.h)
def Ab.dn{Y:Iv}(h:Ab Y):Ab ⟨jv (-1),Y.hi,false⟩:=by
 have e:=h.v.kq;refine⟨.inr ⟨rfl,tY (n:=-1) aE,e.2,?_⟩,rfl,show jf (jv (-1)) (jv (-1))<=0 by decide +kernel,h.h⟩;have:=h.v.q;rw[qk];exact bX ((qk _ _).1 h.l) this
def Js(p:Nat)(iA:8<=p)(im:p<=512):ie 351 [iP p] (bP true):=
 ak call351 func351 (af [tT 4 (8<=(p:Int)) aC,tT 7 ((p:Int)<=512) aC]) 
def acH(x:Iv)(cs:Bool)(p:Nat)(hx:x.ix)(xa:x.all=true)(iA:8<=p)(im:p<=512):ie 332 [iy x,bP cs,iP p] (iy il):=
 ak call332 func332 (af [.c (Js p aC aC),.c (rj x aD),ah 22 x.all xa,.c oz]) 
def acK(x:Iv)(cs:Bool)(p:Nat)(hx:x.ix)(xa:x.all=false)(iA:8<=p)(im:p<=512)(hu:100<x.lo.iI\/100<x.hi.iI\/¬CL x 64=0\/0<=jf (vQ x 64) (jv 7)):ie 332 [iy x,bP cs,iP p] (iy mg):=by
 obtain⟨w1,w2⟩:=hx.kq;have h7:(jv 7).ix:=tY aE;have wv:(vQ x 64).ix:=wQ _ aE aE _;exact ak call332 func332 (ae [.c (Js p aC aC),.c (rj x aD),ai 22 x.all xa,ag [iz x.lo] (pU _ aD)]<|.w (100<(Dy.iI x.lo))
  (λk1=>af [tB 28 (bC k1),.c Al])
  (λk1=>ae [tB 28 (bD k1),ag [iz x.hi] (pU _ aD)]<|.w (100<(Dy.iI x.hi))
   (λk2=>af [tB 33 (bC k2),.c Al])
   (λk2=>ae [tB 33 (bD k2),.c (MG x 64 aD aD aC aC)]<|.w (CL x 64=0)
    (λk3=>ae [tB 40 (bC k3),ag [iP 7] (sB _ aC),ag [iz (vQ x 64),iz (jv 7)] (nR _ _ aD aD)]<|.w (0<=(jf (vQ x 64) (jv 7)))
     (λk4=>af [tB 47 (bC k4),.c Al])
     (λk4=>.x (by rcases hu with q|q|q|q<;>contradiction)))
    (λk3=>af [tB 40 (bD k3),.c Al])))) 
def acJ(x:Iv)(cs:Bool)(p:Nat)(hx:x.ix)(xa:x.all=false)(iA:8<=p)(im:p<=512)(h1:¬100<x.lo.iI)(h2:¬100<x.hi.iI)(h3:CL x 64=0)(h4:¬0<=jf (vQ x 64) (jv 7))(P1 P2 H:Iv)(zf:∀ c,c=cs->ie 353 [iz x.lo,bP c,iP (p:Int)] (iy P1))(zg:∀ c,c=cs->ie 353 [iz x.hi,bP c,iP (p:Int)] (iy P2))(hH:ie 242 [iy P1,iy P2] (iy H))(sW:ie 142 [iy H,iy mg] (.iE [iy Aa,bP false])):ie 332 [iy x,bP cs,iP p] (iy mg):=by
 obtain⟨w1,w2⟩:=hx.kq;have h7:(jv 7).ix:=tY aE;have wv:(vQ x 64).ix:=wQ _ aE aE _;exact ak call332 func332 (af [.c (Js p aC aC),.c (rj x aD),ai 22 x.all xa,ag [iz x.lo] (pU _ aD),tB 28 (bD h1),ag [iz x.hi] (pU _ aD),tB 33 (bD h2),.c (MG x 64 aD aD aC aC),tB 40 (bC h3),ag [iP 7] (sB _ aC),ag [iz (vQ x 64),iz (jv 7)] (nR _ _ aD aD),tB 47 (bD h4),ag [iz x.lo,bP cs,iP p] (zf cs aH),ag [iz x.hi,bP cs,iP p] (zg cs aH),ag [iy P1,iy P2] hH,.c Al,ag [iy H,iy mg] sW,.c Al]) 
def rM(cs:Bool)(R:Nat->Bool)(x Y:Iv):Iv:=if jf x.lo x.hi=0 then Y else⟨if R (if cs=true then 2 else 3)=true then jv (-1)else Y.lo,if R (if cs=true then 0 else 1)=true then jv 1 else Y.hi,Y.all⟩
def acI(x:Iv)(cs:Bool)(p:Nat)(hx:x.ix)(xa:x.all=false)(iA:8<=p)(im:p<=512)(h1:¬100<x.lo.iI)(h2:¬100<x.hi.iI)(h3:CL x 64=0)(h4:¬0<=jf (vQ x 64) (jv 7))(P1 P2 H Y:Iv)(hY:Ab Y)(zf:∀ c,c=cs->ie 353 [iz x.lo,bP c,iP (p:Int)] (iy P1))(zg:∀ c,c=cs->ie 353 [iz x.hi,bP c,iP (p:Int)] (iy P2))(hH:ie 242 [iy P1,iy P2] (iy H))(sW:ie 142 [iy H,iy mg] (.iE [iy Y,bP true]))(R:Nat->Bool)(hM:∀ s:Nat,s<=3->ie 354 [iy x,iP (s:Int),iP ((p+64:Nat):Int)] (bP (R s))):ie 332 [iy x,bP cs,iP p] (iy (rM cs R x Y)):=by
 obtain⟨w1,w2⟩:=hx.kq;have h7:(jv 7).ix:=tY aE;have wv:(vQ x 64).ix:=wQ _ aE aE _;exact ak call332 func332 (ae [.c (Js p aC aC),.c (rj x aD),ai 22 x.all xa,ag [iz x.lo] (pU _ aD),tB 28 (bD h1),ag [iz x.hi] (pU _ aD),tB 33 (bD h2),.c (MG x 64 aD aD aC aC),tB 40 (bC h3),ag [iP 7] (sB _ aC),ag [iz (vQ x 64),iz (jv 7)] (nR _ _ aD aD),tB 47 (bD h4)]<|.w ((jf x.lo x.hi)=0)
  (λk1=>ae [ag [iz x.lo,bP cs,iP p] (zf cs aH),ag [iz x.hi,bP cs,iP p] (zg cs aH),ag [iy P1,iy P2] hH,.c Al,ag [iy H,iy mg] sW,ag [iz x.lo,iz x.hi] (nR _ _ aD aD),tB 74 (bn k1)]<|rQ (iy Y) (iy (rM cs R x Y)) (by unfold rM;simp[k1]))
  (λk1=>.w (cs=true)
   (λk2=>ae [tB 53 k2,ag [iz x.lo,bP true,iP p] (zf true (by simp[k2])),tB 58 k2,ag [iz x.hi,bP true,iP p] (zg true (by simp[k2])),ag [iy P1,iy P2] hH,.c Al,ag [iy H,iy mg] sW,ag [iz x.lo,iz x.hi] (nR _ _ aD aD),tB 74 (bk k1),tB 76 k2,
    iF ((p:Int)+64) aC,ag [iy x,iP 0,iP ((p+64:Nat):Int)] (hM 0 aE)]<|.w (R 0=true)
    (λk3=>ae [tB 81 k3,ag [iP 1] (sB _ aC),iF ((p:Int)+64) aC,ag [iy x,iP 2,iP ((p+64:Nat):Int)] (hM 2 aE)]<|.w (R 2=true)
     (λk4=>ae [tB 88 k4,ag [iP (-1)] (sB _ aC)]<|rQ (iy (Iv.mk (jv (-1)) (jv 1) Y.all)) (iy (rM cs R x Y)) (by unfold rM;simp[k1,k2,k3,k4]))
     (λk4=>ae [tB 88 (bt k4)]<|rQ (iy (Iv.mk Y.lo (jv 1) Y.all)) (iy (rM cs R x Y)) (by unfold rM;simp[k1,k2,k3,k4])))
    (λk3=>ae [tB 81 (bt k3),iF ((p:Int)+64) aC,ag [iy x,iP 2,iP ((p+64:Nat):Int)] (hM 2 aE)]<|.w (R 2=true)
     (λk4=>ae [tB 88 k4,ag [iP (-1)] (sB _ aC)]<|rQ (iy (Iv.mk (jv (-1)) Y.hi Y.all)) (iy (rM cs R x Y)) (by unfold rM;simp[k1,k2,k3,k4]))
     (λk4=>ae [tB 88 (bt k4)]<|rQ (iy Y) (iy (rM cs R x Y)) (by unfold rM;simp[k1,k2,k3,k4]))))
   (λk2=>ae [tB 53 (bt k2),ag [iz x.lo,bP false,iP p] (zf false (by simp[k2])),tB 58 (bt k2),ag [iz x.hi,bP false,iP p] (zg false (by simp[k2])),ag [iy P1,iy P2] hH,.c Al,ag [iy H,iy mg] sW,ag [iz x.lo,iz x.hi] (nR _ _ aD aD),tB 74 (bk k1),tB 76 (bt k2),iF ((p:Int)+64) aC,ag [iy x,iP 1,iP ((p+64:Nat):Int)] (hM 1 aE)]<|.w (R 1=true)
    (λk3=>ae [tB 81 k3,ag [iP 1] (sB _ aC),iF ((p:Int)+64) aC,ag [iy x,iP 3,iP ((p+64:Nat):Int)] (hM 3 aE)]<|.w (R 3=true)
     (λk4=>ae [tB 88 k4,ag [iP (-1)] (sB _ aC)]<|rQ (iy (Iv.mk (jv (-1)) (jv 1) Y.all)) (iy (rM cs R x Y)) (by unfold rM;simp[k1,k2,k3,k4]))
     (λk4=>ae [tB 88 (bt k4)]<|rQ (iy (Iv.mk Y.lo (jv 1) Y.all)) (iy (rM cs R x Y)) (by unfold rM;simp[k1,k2,k3,k4])))
    (λk3=>ae [tB 81 (bt k3),iF ((p:Int)+64) aC,ag [iy x,iP 3,iP ((p+64:Nat):Int)] (hM 3 aE)]<|.w (R 3=true)
     (λk4=>ae [tB 88 k4,ag [iP (-1)] (sB _ aC)]<|rQ (iy (Iv.mk (jv (-1)) Y.hi Y.all)) (iy (rM cs R x Y)) (by unfold rM;simp[k1,k2,k3,k4]))
     (λk4=>ae [tB 88 (bt k4)]<|rQ (iy Y) (iy (rM cs R x Y)) (by unfold rM;simp[k1,k2,k3,k4])))))) 
def Sm{x:Iv}(hx:x.ix)(cs:Bool){p:Nat}(iA:8<=p)(im:p<=512):∃ Z,Z.ix/\ie 332 [iy x,bP cs,iP (p:Int)] (iy Z):=by
 cases xa:x.all with
 |true=>exact⟨_,mw,acH x cs p hx xa iA im⟩
 |false=>
  by_cases hu:100<x.lo.iI\/100<x.hi.iI\/¬CL x 64=0\/0<=jf (vQ x 64) (jv 7)
  .exact ⟨_,Bg,acK x cs p hx xa iA im hu⟩
  have h1:¬100<x.lo.iI:=λq=>hu (.inl q)
  have h2:¬100<x.hi.iI:=λq=>hu (.inr (.inl q))
  have h3:CL x 64=0:=ct λq=>hu (.inr (.inr (.inl q)))
  have h4:¬0<=jf (vQ x 64) (jv 7):=λq=>hu (.inr (.inr (.inr q)))
  obtain⟨w1,w2⟩:=hx.kq;obtain⟨P1,g1,zf⟩:=Sr w1 aC cs iA im;obtain⟨P2,g2,zg⟩:=Sr w2 aC cs iA im;replace zf:∀ c,c=cs->ie 353 [iz x.lo,bP c,iP (p:Int)] (iy P1):=λc h=>h▸zf
  replace zg:∀ c,c=cs->ie 353 [iz x.hi,bP c,iP (p:Int)] (iy P2):=λc h=>h▸zg
  obtain⟨H,g3,hH⟩:=abO g1 g2;rcases abY g3 with⟨Y,hY,sW⟩|sW
  rotate_left
  .exact ⟨_,Bg,acJ x cs p hx xa iA im h1 h2 h3 h4 P1 P2 H zf zg hH sW⟩
  have ya:=hY.f;have v0:=hY.v;have v1:(Iv.mk (jv (-1)) (jv 1) Y.all).ix:=by rw[ya];exact Bg
  have v2:(Iv.mk Y.lo (jv 1) Y.all).ix:=by rw[ya];exact hY.up.v
  have v3:(Iv.mk (jv (-1)) Y.hi Y.all).ix:=by rw[ya];exact hY.dn.v
  have v4:(Iv.mk Y.lo Y.hi Y.all).ix:=hY.v;have hm:∀ s:Nat,∃ r,s<=3->ie 354 [iy x,iP (s:Int),iP ((p+64:Nat):Int)] (bP r):=λs=>by
   by_cases hs:s<=3
   .obtain ⟨r,m⟩:=acT hx xa s aC (p+64) aC aC aC ;exact⟨r,λ_=>m⟩
   .exact ⟨true,λh=>absurd h hs⟩
  refine⟨rM cs (λs=>Classical.choose (hm s)) x Y,?_,acI x cs p hx xa iA im h1 h2 h3 h4 P1 P2 H Y hY zf zg hH sW (λs=>Classical.choose (hm s)) λs hs=>dj (hm s) hs⟩;generalize (λs=>Classical.choose (hm s))=R;unfold rM;by_cases q1:jf x.lo x.hi=0
  .rw [bB q1];exact v0
  rw[bA q1];by_cases q2:R (if cs=true then 2 else 3)=true<;>by_cases q3:R (if cs=true then 0 else 1)=true<;>simp only[q2,q3,bN,bI,bR]<;>assumption
def adk(x Z:Iv)(p:Nat)(hZ:ie 332 [iy x,bP false,iP (p:Int)] (iy Z)):ie 315 [iy x,iP p] (iy Z):=
 ak call315 func315 (af [ag [iy x,bP false,iP p] hZ]) 
def adj{x:Iv}(hx:x.ix){p:Nat}(iA:8<=p)(im:p<=512):∃ Z,Z.ix/\ie 315 [iy x,iP (p:Int)] (iy Z):=by
 obtain⟨Z,h1,h2⟩:=Sm hx false iA im;exact⟨Z,h1,adk x Z p h2⟩
def acM(x Z:Iv)(p:Nat)(hZ:ie 332 [iy x,bP true,iP (p:Int)] (iy Z)):ie 316 [iy x,iP p] (iy Z):=
 ak call316 func316 (af [ag [iy x,bP true,iP p] hZ]) 
def acL{x:Iv}(hx:x.ix){p:Nat}(iA:8<=p)(im:p<=512):∃ Z,Z.ix/\ie 316 [iy x,iP (p:Int)] (iy Z):=by
 obtain⟨Z,h1,h2⟩:=Sm hx true iA im;exact⟨Z,h1,acM x Z p h2⟩
def afC:vR:=λ_ _ hx iA im=>⟨aoD hx iA im,aoK hx iA im,adj hx iA im,acL hx iA im,ahG hx iA im⟩
structure mO where
 kind:Int
 a:Int
 b:Int
 n:Int
 cn:Int
 cd:Int
structure jt where
 iw:Int
 ig:List mO
 iC:List Int
 iG:Int
 params:List RI
def kA:mO:=⟨0,0,0,0,0,0⟩
def A9(o:mO):List E:=[iP o.kind,iP o.a,iP o.b,iP o.n,iP o.cn,iP o.cd]
def uT(o:mO):E:=.agg (A9 o)
def jK(l:List mO):E:=.sl true l.length 6 λi j=>(A9 (l.getD i kA)).getD j .any
def jM(l:List Int):E:=.sl true l.length 1 λi _=>iP (l.getD i 0)
def QE(s:jt):List E:=[iP s.iw,jK s.ig,jM s.iC,iP s.iG,iD s.params]
def kz(s:jt):E:=.agg (QE s)
structure mO.iW(o:mO):Prop where
 kind:kQ .i64 o.kind
 a:kQ .i64 o.a
 b:kQ .i64 o.b
 n:kQ .i64 o.n
 cn:kQ .i64 o.cn
 cd:kQ .i64 o.cd
structure jt.iW(s:jt):Prop where
 iw:kQ .i64 s.iw
 ig:∀ i,(s.ig.getD i kA).iW
 iC:∀ i,kQ .i64 (s.iC.getD i 0)
 iG:kQ .i64 s.iG
 params:∀ i,(s.params.getD i jC).iW
structure jt.pq(s:jt):Prop where
 ig:s.ig.length<=1000
 params:s.params.length<=1000
def jb(o:mO)(m:Int):Bool:=
 if o.kind=1 then nO o.cn o.cd&&decide (o.a=0/\o.b=0/\o.n=0)
 else if 3<=o.kind/\o.kind<=6 then decide (o.cn=0/\o.cd=0/\0<=o.a/\o.a<m/\0<=o.b/\o.b<m/\o.n=0)
 else if o.kind=8 then decide (o.cn=0/\o.cd=0/\0<=o.a/\o.a<m/\o.b=0/\0<=o.n/\o.n<=16)
 else if o.kind=7\/9<=o.kind/\o.kind<=13 then decide (o.cn=0/\o.cd=0/\0<=o.a/\o.a<m/\o.b=0/\o.n=0)
 else false
def FK(s:jt):Bool:=(List.range s.ig.length).all λi=>jb (s.ig.getD i kA) (s.iw+(i:Int))
def rU(s:jt)(k:Int):Bool:=decide (0<=k/\k<s.iw+(s.ig.length:Int))
def s7(s:jt):Bool:=(List.range s.iC.length).all λi=>rU s (s.iC.getD i 0)
noncomputable def nN(x:RI):Bool:=oW x && !x.all
noncomputable def FM(s:jt):Bool:=(List.range s.params.length).all λi=>nN (s.params.getD i jC)
noncomputable def qb(s:jt):Bool:=decide (0<=s.iw/\s.iw<=8/\s.ig.length<=200/\s.iC.length<=200)&&FK s&&s7 s
 && decide (1<=s.iG/\s.iG<=4/\(s.iC.length:Int)=s.iG/\s.iw=s.iG+(s.params.length:Int)/\s.params.length<=4)&&FM s
noncomputable def kU(d:RD):Bool:=@decide d.Ok (Classical.propDecidable _)
def nV{d:RD}:kU d=true↔d.Ok:=@apu _ (Classical.propDecidable _)
def xR{n:Nat}{f:Nat->Bool}(h:¬(List.range n).all f=true):∃ N,N<n/\(!f N)=true/\∀ k,k<N->(!f k)=false:=by
 refine uO ?_;apply ct;intro q;apply h;refine bU.2 λi hi=>?_
 cases hf:f i with
 |true=>rfl
 |false=>exact absurd ⟨i,b6.1 hi,by rw[hf];rfl⟩ q
def MC{n:Nat}{f:Nat->Bool}:((List.range n).any λi=>!f i) = !((List.range n).all f):=by
 rw[dv];simp
def alM{s:jt}(h:¬(0<=s.iw/\s.iw<=8/\s.ig.length<=200/\s.iC.length<=200/\1<=s.iG/\s.iG<=4/\(s.iC.length:Int)=s.iG/\s.params.length<=4/\s.iw=s.iG+(s.params.length:Int))):qb s=false:=by
 refine bt λq=>h ?_
 unfold qb at q;simp only[bQ,cL]at q;obtain⟨⟨⟨⟨a,_⟩,_⟩,b⟩,_⟩:=q;exact⟨a.1,a.2.1,a.2.2.1,a.2.2.2,b.1,b.2.1,b.2.2.1,b.2.2.2.2,b.2.2.2.1⟩
def mO.v(o:mO):nF:=⟨o.kind.toNat,o.a.toNat,o.b.toNat,o.n.toNat,o.cn,o.cd⟩
def jt.v(s:jt):jN:=⟨⟨s.iw.toNat,s.ig.map mO.v,s.iC.map Int.toNat⟩,s.iG.toNat,s.params.map RI.iv⟩
def og.of{k a b n m:Nat}{cn cd:Int}(k3:k=1\/3<=k)(yD:k<=13)(ha:k=1->a=0)(BU:¬k=1->a<m)(hb:3<=k/\k<=6->b<m)(ns:¬(3<=k/\k<=6)->b=0)
 (hn:k=8->n<=16) (uH:¬k=8->n=0) (hc:k=1->nO cn cd=true) (Dg:¬k=1->cn=0/\cd=0):og ⟨k,a,b,n,cn,cd⟩ m:=by
 refine⟨k3,yD,?_,?_,?_,?_,.inr afC⟩
 .show if k=1 then a=0 else a<m
  split<;>simp_all
 .show if 3<=k/\k<=6 then b<m else b=0
  split
  .rename_i h;exact hb h
  .rename_i h;exact ns h
 .show if k=8 then n<=16 else n=0
  split
  .rename_i h;exact hn h
  .rename_i h;exact uH h
 .show if k=1 then nO cn cd=true else cn=0/\cd=0
  split
  .rename_i h;exact hc h
  .rename_i h;exact Dg h
def YU{o:mO}{m:Nat}(h:jb o (m:Int)=true):og o.v m/\0<=o.kind/\0<=o.a/\0<=o.b/\0<=o.n:=by
 obtain⟨k,a,b,n,cn,cd⟩:=o;unfold jb at h;simp only at h;show og ⟨k.toNat,a.toNat,b.toNat,n.toNat,cn,cd⟩ m/\0<=k/\0<=a/\0<=b/\0<=n;split at h
 .rename_i hk;rw[bQ,cL]at h;obtain⟨hr,h1,h2,h3⟩:=h;exact⟨og.of aC aC aC aC aC aC aC aC (λ_=>hr) aC,aC,aC,aC,aC⟩
 .rename_i oq;split at h
  .rename_i hk;have h:=cR h;exact⟨og.of aC aC aC aC aC aC aC aC aC aC,aC,aC,aC,aC⟩
  .split at h
   .rename_i hk;have h:=cR h;exact⟨og.of aC aC aC aC aC aC aC aC aC aC,aC,aC,aC,aC⟩
   .split at h
    .rename_i xn hk;have h:=cR h;exact⟨og.of aC aC aC aC aC aC aC aC aC aC,aC,aC,aC,aC⟩
    .cases h
def YV{o:mO}(h1:0<=o.kind)(h2:0<=o.a)(h3:0<=o.b)(h4:0<=o.n):K0 o.v=A9 o:=by
 obtain⟨k,a,b,n,cn,cd⟩:=o;simp only[K0,A9,mO.v]at *
 rw[eJ h1,eJ h2,eJ h3,eJ h4]
def alN{s:jt}(g:s.iW)(h:qb s=true):mq s.v/\kz s=kf s.v:=by
 unfold qb at h;simp only[bQ,cL]at h;obtain⟨⟨⟨⟨⟨i0,i8,l1,l2⟩,ho⟩,hu⟩,s1,s4,e1,e2,p4⟩,hp⟩:=h;have ho:=bU.1 ho;have hu:=bU.1 hu;have hp:=bU.1 hp;have opAt:∀ i,i<s.ig.length->(s.ig.map mO.v).getD i iR=(s.ig.getD i kA).v:=λi hi=>by simp[bE,hi]
 have ouAt:∀ i,i<s.iC.length->(s.iC.map Int.toNat).getD i 0=(s.iC.getD i 0).toNat:=λi hi=>by simp[bE,hi]
 have paAt:∀ i,i<s.params.length->(s.params.map RI.iv).getD i il=(s.params.getD i jC).iv:=λi hi=>by simp[bE,hi]
 have op:∀ i,i<s.ig.length->og (s.ig.getD i kA).v (s.iw.toNat+i)/\0<=(s.ig.getD i kA).kind/\0<=(s.ig.getD i kA).a/\0<=(s.ig.getD i kA).b/\0<=(s.ig.getD i kA).n:=λi hi=>by
  have:=ho i (b6.2 hi);exact YU (by rwa[show((s.iw.toNat+i:Nat):Int)=s.iw+(i:Int)by omega])
 have ou:∀ i,i<s.iC.length->0<=s.iC.getD i 0/\s.iC.getD i 0<s.iw+(s.ig.length:Int):=λi hi=>cR (hu i (b6.2 hi))
 have pa:∀ i,i<s.params.length->(s.params.getD i jC).Ok/\(s.params.getD i jC).all=false:=λi hi=>by
  have:=hp i (b6.2 hi);unfold nN at this;rw[bQ]at this;exact⟨uh.1 this.1,by simpa using this.2⟩
 refine⟨⟨⟨?_,?_,?_,?_,?_⟩,?_,?_,?_,?_,?_,?_⟩,?_⟩
 .show s.iw.toNat<=8;omega
 .show (s.ig.map mO.v).length<=200;rw[bZ];exact l1
 .show (s.iC.map Int.toNat).length<=200;rw[bZ];exact l2
 .intro i hi;have hi:i<s.ig.length:=by simpa[jt.v]using hi
  show og ((s.ig.map mO.v).getD i iR) (s.iw.toNat+i);rw[opAt i hi];exact(op i hi).1
 .intro i hi;have hi:i<s.iC.length:=by simpa[jt.v]using hi
  show(s.iC.map Int.toNat).getD i 0<s.iw.toNat+(s.ig.map mO.v).length;rw[ouAt i hi,bZ];have:=ou i hi;omega
 .show 1<=s.iG.toNat;omega
 .show s.iG.toNat<=4;omega
 .show (s.iC.map Int.toNat).length=s.iG.toNat;rw[bZ];omega
 .show s.iw.toNat=s.iG.toNat+(s.params.map RI.iv).length;rw[bZ];omega
 .show (s.params.map RI.iv).length<=4;rw[bZ];exact p4
 .intro i hi;have hi:i<s.params.length:=by simpa[jt.v]using hi
  show((s.params.map RI.iv).getD i il).ix/\((s.params.map RI.iv).getD i il).all=false;rw[paAt i hi];exact⟨(pa i hi).1.valid,(pa i hi).2⟩
 .have e1:iP s.iw=iP (s.iw.toNat:Int):=by rw[eJ i0]
  have e2:iP s.iG=iP (s.iG.toNat:Int):=by rw[eJ (aC:0<=s.iG)]
  have e3:jK s.ig=mG (s.ig.map mO.v):=by
   unfold jK mG;rw[bZ];congr 1;funext i j;by_cases hi:i<s.ig.length
   .rw [opAt i hi];obtain⟨_,h1,h2,h3,h4⟩:=op i hi;rw[YV h1 h2 h3 h4]
   .have a1:s.ig.getD i kA=kA:=by rw[bE,cz aC];rfl
    have a2:(s.ig.map mO.v).getD i iR=iR:=by rw[bE,cz aX];rfl
    rw[a1,a2];rfl
  have e4:jM s.iC=mF (s.iC.map Int.toNat):=by
   unfold jM mF;rw[bZ];congr 1;funext i j;by_cases hi:i<s.iC.length
   .rw [ouAt i hi,eJ (ou i hi).1]
   .rw [bE,cz aC,bE (l:=s.iC.map Int.toNat),cz aX];rfl
  have e5:iD s.params=iu (s.params.map RI.iv):=by
   rw[<-V8];congr 1;apply gG;intro i;unfold D5;rw[cG,cG];by_cases hi:i<s.params.length
   .have h1:=(pa i hi).1;have g1:=g.params i;rw[bJ hi];rw[bE,bJ hi]at h1 g1;exact congrArg some (RI.Ok.eq (x:=s.params[i]) h1 g1).symm
   .rw [cz aC];rfl
  show E.agg [iP s.iw,jK s.ig,jM s.iC,iP s.iG,iD s.params]=_;rw[e1,e2,e3,e4,e5];rfl
def Y2(s:jt)(N:Nat)(x:Nat):PS:=⟨85,true,[(31,.e (iP x)),(30,.e (iP s.ig.length)),(29,.e (jK s.ig)),(3,.box 3 0),(1,.box 1 0)],[(3,.cells 25 [iP s.iw,jK s.ig,jM s.iC]),(1,.cells 28 [iP s.iw,jK s.ig,jM s.iC,iP s.iG,iD s.params])]⟩
def Y3(s:jt)(x:Nat):PS:=⟨85,true,[(31,.e (iP x)),(30,.e (iP s.ig.length)),(29,.e (jK s.ig)),(3,.box 3 0),(1,.box 1 0)],[(3,.cells 25 [iP s.iw,jK s.ig,jM s.iC]),(1,.cells 28 [iP s.iw,jK s.ig,jM s.iC,iP s.iG,iD s.params])]⟩
def Y4(s:jt)(x:Nat):PS:=⟨85,true,[(31,.e (iP x)),(30,.e (iP s.ig.length)),(29,.e (jK s.ig)),(3,.box 3 0),(1,.box 1 0)],[(3,.cells 25 [iP s.iw,jK s.ig,jM s.iC]),(1,.cells 28 [iP s.iw,jK s.ig,jM s.iC,iP s.iG,iD s.params])]⟩
def Y5(s:jt)(x:Nat):PS:=⟨85,true,[(31,.e (iP x)),(30,.e (iP s.ig.length)),(29,.e (jK s.ig)),(3,.box 3 0),(1,.box 1 0)],[(3,.cells 25 [iP s.iw,jK s.ig,jM s.iC]),(1,.cells 28 [iP s.iw,jK s.ig,jM s.iC,iP s.iG,iD s.params])]⟩
def px{a b:Bool}(h:a=true↔b=true):a=b:=dv.2 h
def jL{a b:Bool}(h:a=b):bP a=bP b:=h▸rfl
def nv{o:mO}{m:Int}{b:Bool}(h:b=jb o m:=by simp_all[jb,Sa]<;>(repeat' split)<;>intros<;>omega):bP b=bP (jb o m):=jL h
noncomputable def ajp(o:mO)(m:Int)(g:o.iW)(C:Bool)(hC:C=decide (o.cn=0/\o.cd=0))(q1:¬o.a<0)(q2:¬o.b<0):Tr prog Tb:=
  .w (o.kind=1)
  (λk1=>ae [tB 21 (bn k1),.c (Iz o.cn o.cd)]<|.w (nO o.cn o.cd=true)
   (λk2=>ae [tB 24 k2]<|.w (o.a=0)
    (λk3=>ae [tB 28 (bn k3)]<|.w (o.b=0)
     (λk4=>ae [tB 33 (bn k4)]<|rQ (bP (o.n==0)) (bP (jb o m)) nv)
     (λk4=>ae [tB 33 (bk k4)]<|rQ (bP false) (bP (jb o m)) nv))
    (λk3=>ae [tB 28 (bk k3)]<|rQ (bP false) (bP (jb o m)) nv))
   (λk2=>ae [tB 24 (bt k2)]<|rQ (bP false) (bP (jb o m)) nv))
  (λk1=>ae [tB 21 (bk k1),.j 80 ⟨111,true,[(40,.e (bP (decide (3<=o.kind/\o.kind<=6)))),(19,.e (iP o.kind)),(5,.e (bP C)),(2,.box 2 0),(1,.e (iP m))],[(2,.cells 107 [iP o.kind,iP o.a,iP o.b,iP o.n,iP o.cn,iP o.cd])]⟩
   (.w (o.kind=3)
    (λm1=>ae [.v 40 (.bool (bn m1))]<|.e (af [tB 40 (px aJ:true=(decide (3<=o.kind/\o.kind<=6)))]))
    (λm1=>ae [.v 40 (.bool (bk m1))]<|.w (o.kind=4)
     (λm2=>ae [tB 42 (bn m2)]<|.e (af [tB 40 (px aJ:true=(decide (3<=o.kind/\o.kind<=6)))]))
     (λm2=>ae [tB 42 (bk m2)]<|.w (o.kind=5)
      (λm3=>ae [tB 43 (bn m3)]<|.e (af [tB 40 (px aJ:true=(decide (3<=o.kind/\o.kind<=6)))]))
      (λm3=>ae [tB 43 (bk m3)]<|.e (af [tB 40 (px aJ:(o.kind==6)=(decide (3<=o.kind/\o.kind<=6)))])))))]<|.w (3<=o.kind/\o.kind<=6)
   (λk2=>ae [.v 40 (.bool (bC k2))]<|.w (C=true)
    (λk3=>ae [tB 45 k3]<|.w (o.a<m)
     (λk4=>ae [tB 50 (bC k4)]<|.w (o.b<m)
      (λk5=>ae [tB 56 (bC k5)]<|rQ (bP (o.n==0)) (bP (jb o m)) nv)
      (λk5=>ae [tB 56 (bD k5)]<|rQ (bP false) (bP (jb o m)) nv))
     (λk4=>ae [tB 50 (bD k4)]<|rQ (bP false) (bP (jb o m)) nv))
    (λk3=>ae [tB 45 (bt k3)]<|rQ (bP false) (bP (jb o m)) nv))
   (λk2=>ae [.v 40 (.bool (bD k2))]<|.w (o.kind=8)
    (λk3=>ae [tB 64 (bn k3)]<|.w (C=true)
     (λk4=>ae [tB 65 k4]<|.w (o.a<m)
      (λk5=>ae [tB 70 (bC k5)]<|.w (o.b=0)
       (λk6=>ae [tB 75 (bn k6)]<|.w (0<=o.n)
        (λk7=>ae [tB 80 (bC k7)]<|rQ (bP (decide (o.n<=16))) (bP (jb o m)) nv)
        (λk7=>ae [tB 80 (bD k7)]<|rQ (bP false) (bP (jb o m)) nv))
       (λk6=>ae [tB 75 (bk k6)]<|rQ (bP false) (bP (jb o m)) nv))
      (λk5=>ae [tB 70 (bD k5)]<|rQ (bP false) (bP (jb o m)) nv))
     (λk4=>ae [tB 65 (bt k4)]<|rQ (bP false) (bP (jb o m)) nv))
    (λk3=>ae [tB 64 (bk k3),.j 174 ⟨111,true,[(87,.e (bP (decide (o.kind=7\/9<=o.kind/\o.kind<=13)))),(5,.e (bP C)),(2,.box 2 0),(1,.e (iP m))],[(2,.cells 107 [iP o.kind,iP o.a,iP o.b,iP o.n,iP o.cn,iP o.cd])]⟩
   (.w (o.kind=7)
    (λm1=>ae [.v 87 (.bool (bn m1))]<|.e (af [tB 87 (px aJ:true=(decide (o.kind=7\/9<=o.kind/\o.kind<=13)))]))
    (λm1=>ae [.v 87 (.bool (bk m1))]<|.w (o.kind=9)
     (λm2=>ae [tB 89 (bn m2)]<|.e (af [tB 87 (px aJ:true=(decide (o.kind=7\/9<=o.kind/\o.kind<=13)))]))
     (λm2=>ae [tB 89 (bk m2)]<|.w (o.kind=10)
      (λm3=>ae [tB 90 (bn m3)]<|.e (af [tB 87 (px aJ:true=(decide (o.kind=7\/9<=o.kind/\o.kind<=13)))]))
      (λm3=>ae [tB 90 (bk m3)]<|.w (o.kind=11)
       (λm4=>ae [tB 91 (bn m4)]<|.e (af [tB 87 (px aJ:true=(decide (o.kind=7\/9<=o.kind/\o.kind<=13)))]))
       (λm4=>ae [tB 91 (bk m4)]<|.w (o.kind=12)
        (λm5=>ae [tB 92 (bn m5)]<|.e (af [tB 87 (px aJ:true=(decide (o.kind=7\/9<=o.kind/\o.kind<=13)))]))
        (λm5=>ae [tB 92 (bk m5)]<|.e (af [tB 87 (px aJ:(o.kind==13)=(decide (o.kind=7\/9<=o.kind/\o.kind<=13)))])))))))]<|.w (o.kind=7\/9<=o.kind/\o.kind<=13)
     (λk4=>ae [.v 87 (.bool (bC k4))]<|.w (C=true)
      (λk5=>ae [tB 94 k5]<|.w (o.a<m)
       (λk6=>ae [tB 99 (bC k6)]<|.w (o.b=0)
        (λk7=>ae [tB 104 (bn k7)]<|rQ (bP (o.n==0)) (bP (jb o m)) nv)
        (λk7=>ae [tB 104 (bk k7)]<|rQ (bP false) (bP (jb o m)) nv))
       (λk6=>ae [tB 99 (bD k6)]<|rQ (bP false) (bP (jb o m)) nv))
      (λk5=>ae [tB 94 (bt k5)]<|rQ (bP false) (bP (jb o m)) nv))
     (λk4=>ae [.v 87 (.bool (bD k4))]<|rQ (bP false) (bP (jb o m)) nv))))
def Im(o:mO)(m:Int)(g:o.iW):ie 178 [uT o,iP m] (bP (jb o m)):=
 ak call178 func178 (.w (o.a<0)
  (λk1=>ae [tB 8 (bC k1)]<|rQ (bP false) (bP (jb o m)) nv)
  (λk1=>ae [tB 8 (bD k1)]<|.w (o.b<0)
   (λk2=>ae [tB 12 (bC k2)]<|rQ (bP false) (bP (jb o m)) nv)
   (λk2=>ae [tB 12 (bD k2),.g (XN g.cn g.cd rfl:oJ prog .eql 93 (.agg [iP o.cn,iP o.cd]) (.agg [iP 0,iP 0]) (.bool (decide (o.cn=0/\o.cd=0))))]<|ajp o m g (decide (o.cn=0/\o.cd=0)) rfl k1 k2))) 
def ani(s:jt)(g:s.iW)(k:Int)(h0:0<=s.iw)(h8:s.iw<=8)(l2:s.ig.length<=200):ie 179 [iP k,(.jh 3 λj_=>[iP s.iw,jK s.ig,jM s.iC].getD j_ .any)] (bP (!rU s k)):=
 ak call179 func179 (.w (k<0)
  (λk1=>ae [tB 5 (bC k1)]<|rQ (bP true) (bP (!rU s k)) (jL aY))
  (λk1=>ae [tB 5 (bD k1),iF (s.iw+(s.ig.length:Int)) aC]<|rQ (bP (decide ((s.iw+(s.ig.length:Int))<=k))) (bP (!rU s k)) (jL aY))) 
def ank(x:RI)(g:x.iW):ie 180 [wP x] (bP (!nN x)):=by
 have ga:=g.lo;have gb:=g.hi;by_cases ha:x.all=true
 .have e:nN x=false:=by unfold nN;rw[ha];simp
  rw[e];exact ak call180 func180 (af [ah 4 x.all ha]) 
 .replace ha:x.all=false:=by simpa using ha
  by_cases h1:x.lo.Ok
  .by_cases h2:x.hi.Ok
   .have v1:=h1.valid;have v2:=h2.valid;have e1:wP x=iy x.iv:=by rw[<-Ho,show x.iv.raw=x by show RI.mk x.lo.dy.raw x.hi.dy.raw x.all=x;rw[h1.eq ga,h2.eq gb]]
    rw[e1];by_cases h3:jf x.lo.dy x.hi.dy<=0
    .have e:nN x=true:=by unfold nN;rw[uh.2 (.inr ⟨ha,h1,h2,h3⟩),ha];rfl
     rw[e];exact ak call180 func180 (af [ai 4 x.iv.all ha,ag [iz x.iv.lo] (sT _ aD),ag [iz x.iv.hi] (sT _ aD),ag [iz x.iv.lo,iz x.iv.hi] (nR _ _ aD aD),tF 23 (0<(jf x.iv.lo x.iv.hi)) (by show ¬0<jf x.lo.dy x.hi.dy;omega)]) 
    .have e:nN x=false:=by unfold nN;rw[show oW x=false by simpa using λq=>(uh.1 q).elim (λq=>by rw[ha]at q;exact Bool.noConfusion q.1) λq=>h3 q.2.2.2];rfl
     rw[e];exact ak call180 func180 (af [ai 4 x.iv.all ha,ag [iz x.iv.lo] (sT _ aD),ag [iz x.iv.hi] (sT _ aD),ag [iz x.iv.lo,iz x.iv.hi] (nR _ _ aD aD),tT 23 (0<(jf x.iv.lo x.iv.hi)) (by show 0<jf x.lo.dy x.hi.dy;omega)]) 
   .have e:nN x=false:=by unfold nN;rw[show oW x=false by simpa using λq=>(uh.1 q).elim (λq=>by rw[ha]at q;exact Bool.noConfusion q.1) λq=>h2 q.2.2.1];rfl
    rw[e];exact ak call180 func180 (af [ai 4 x.all ha,ag [jj x.lo] (BJ _ aD true (by simp[h1])),ag [jj x.hi] (BJ _ aD false (by simp[h2]))]) 
  .have e:nN x=false:=by unfold nN;rw[show oW x=false by simpa using λq=>(uh.1 q).elim (λq=>by rw[ha]at q;exact Bool.noConfusion q.1) λq=>h1 q.2.1];rfl
   rw[e];exact ak call180 func180 (af [ai 4 x.all ha,ag [jj x.lo] (BJ _ aD false (by simp[h1]))]) 
def P4(s:jt)(h0:0<=s.iw)(h8:s.iw<=8)(l2:s.ig.length<=200)(lu:s.iC.length<=200)(g:s.iW):ie 67 [jM s.iC,.fn 179 [(.jh 3 λj_=>[iP s.iw,jK s.ig,jM s.iC].getD j_ .any)]] (bP (!s7 s)):=by
 have:=VS true s.iC.length (λi _=>iP (s.iC.getD i 0)) 179 [(.jh 3 λj_=>[iP s.iw,jK s.ig,jM s.iC].getD j_ .any)] (λi=>!rU s (s.iC.getD i 0)) (λi _=>ani s g _ h0 h8 l2) (aC:s.iC.length<=1000000);rwa[MC]at this
def XX(f:FuncId)(l:List RI)(hf:∀ i,ie f [wP (l.getD i jC)] (bP (!nN (l.getD i jC))))(hl:l.length<=1000):ie 53 [iD l,.fn f []] (bP (!((List.range l.length).all λi=>nN (l.getD i jC)))):=by
 have:=Pf true l.length (λi j=>(A8 (l.getD i jC)).getD j .any) f [] (λi=>!nN (l.getD i jC)) (λi _=>hf i) (aC:l.length<=1000000);rwa[MC]at this
def anm(s:jt)(g:s.iW)(sm:s.pq)(hc:¬(0<=s.iw/\s.iw<=8/\s.ig.length<=200/\s.iC.length<=200)):ie 105 [kz s] (bP false):=
 ak call105 func105 (.w (s.iw<0)
  (λk1=>af [tB 10 (bC k1)])
  (λk1=>ae [tB 10 (bD k1)]<|.w (8<s.iw)
   (λk2=>af [tB 14 (bC k2)])
   (λk2=>ae [tB 14 (bD k2)]<|.w (200<(s.ig.length:Int))
    (λk3=>af [tB 20 (bC k3)])
    (λk3=>ae [tB 20 (bD k3)]<|.w (200<(s.iC.length:Int))
     (λk4=>af [tB 26 (bC k4)])
     (λk4=>.x aC))))) 
def ann(s:jt)(g:s.iW)(sm:s.pq)(i0:0<=s.iw)(i8:s.iw<=8)(l1:s.ig.length<=200)(l2:s.iC.length<=200)(N:Nat)(nJ:N<s.ig.length)(jc:∀ k,k<N->(jb (s.ig.getD k kA) (s.iw+(k:Int)))=true)(hN:(jb (s.ig.getD N kA) (s.iw+(N:Int)))=false):ie 105 [kz s] (bP false):=
 ak call105 func105 (af [tF 10 (s.iw<0) aC,tF 14 (8<s.iw) aC,tF 20 (200<(s.ig.length:Int)) aC,tF 26 (200<(s.iC.length:Int)) aC,.s (Sp.jT (Y2 s N) 0 N aC (λx hx lJ=>by
    have mU:=g.ig x;exact iL (af [tT 32 ((x:Int)<s.ig.length) aC,iX (x:Int) (s.ig.length) aC,iF (s.iw+(x:Int)) aC,.c (Im (s.ig.getD x kA) (s.iw+(x:Int)) mU),ai 42 (!(jb (s.ig.getD x kA) (s.iw+(x:Int)))) (by rw[jc x aC];rfl),iF ((x:Int)+1) aC]) aF)
  (λhx=>by
    have mU:=g.ig N;exact iL (af [tT 32 ((N:Int)<s.ig.length) aC,iX (N:Int) (s.ig.length) aC,iF (s.iw+(N:Int)) aC,.c (Im (s.ig.getD N kA) (s.iw+(N:Int)) mU),ah 42 (!(jb (s.ig.getD N kA) (s.iw+(N:Int)))) (by rw[hN];rfl)]) aF) aI:jS 5 f105 (Y2 s N 0) .ret ⟨85,true,[(2,.e (bP false))],[]⟩) .nil]) 
def ano(s:jt)(g:s.iW)(sm:s.pq)(i0:0<=s.iw)(i8:s.iw<=8)(l1:s.ig.length<=200)(l2:s.iC.length<=200)(jc:∀ k,k<s.ig.length->(jb (s.ig.getD k kA) (s.iw+(k:Int)))=true)(hu:s7 s=false):ie 105 [kz s] (bP false):=
 ak call105 func105 (af [tF 10 (s.iw<0) aC,tF 14 (8<s.iw) aC,tF 20 (200<(s.ig.length:Int)) aC,tF 26 (200<(s.iC.length:Int)) aC,.s (Sp.jT (Y3 s) 0 s.ig.length aC (λx hx lJ=>by
    have mU:=g.ig x;exact iL (af [tT 32 ((x:Int)<s.ig.length) aC,iX (x:Int) (s.ig.length) aC,iF (s.iw+(x:Int)) aC,.c (Im (s.ig.getD x kA) (s.iw+(x:Int)) mU),ai 42 (!(jb (s.ig.getD x kA) (s.iw+(x:Int)))) (by rw[jc x aC];rfl),iF ((x:Int)+1) aC]) aF)
  (λhx=>by
    exact iL (af [tF 32 ((s.ig.length:Int)<s.ig.length) aC]) aF) aI:jS 5 f105 (Y3 s 0) (.exit 0) ⟨85,true,[(3,.box 3 0),(1,.box 1 0)],[(3,.cells 25 [iP s.iw,jK s.ig,jM s.iC]),(1,.cells 28 [iP s.iw,jK s.ig,jM s.iC,iP s.iG,iD s.params])]⟩) .nil,ag [jM s.iC,.fn 179 [(.jh 3 λj_=>[iP s.iw,jK s.ig,jM s.iC].getD j_ .any)]] (P4 s aC aC aC aC g),ah 47 (!(s7 s)) (by rw[hu];rfl)]) 
def anp(s:jt)(g:s.iW)(sm:s.pq)(i0:0<=s.iw)(i8:s.iw<=8)(l1:s.ig.length<=200)(l2:s.iC.length<=200)(jc:∀ k,k<s.ig.length->(jb (s.ig.getD k kA) (s.iw+(k:Int)))=true)(hu:s7 s=true)(hc:¬(1<=s.iG/\s.iG<=4/\(s.iC.length:Int)=s.iG/\s.iw=s.iG+(s.params.length:Int)/\s.params.length<=4)):ie 105 [kz s] (bP false):=by
 have sp:=sm.params;exact ak call105 func105 (ae [tF 10 (s.iw<0) aC,tF 14 (8<s.iw) aC,tF 20 (200<(s.ig.length:Int)) aC,tF 26 (200<(s.iC.length:Int)) aC,.s (Sp.jT (Y4 s) 0 s.ig.length aC (λx hx lJ=>by
    have mU:=g.ig x;exact iL (af [tT 32 ((x:Int)<s.ig.length) aC,iX (x:Int) (s.ig.length) aC,iF (s.iw+(x:Int)) aC,.c (Im (s.ig.getD x kA) (s.iw+(x:Int)) mU),ai 42 (!(jb (s.ig.getD x kA) (s.iw+(x:Int)))) (by rw[jc x aC];rfl),iF ((x:Int)+1) aC]) aF)
  (λhx=>by
    exact iL (af [tF 32 ((s.ig.length:Int)<s.ig.length) aC]) aF) aI:jS 5 f105 (Y4 s 0) (.exit 0) ⟨85,true,[(3,.box 3 0),(1,.box 1 0)],[(3,.cells 25 [iP s.iw,jK s.ig,jM s.iC]),(1,.cells 28 [iP s.iw,jK s.ig,jM s.iC,iP s.iG,iD s.params])]⟩) .nil,ag [jM s.iC,.fn 179 [(.jh 3 λj_=>[iP s.iw,jK s.ig,jM s.iC].getD j_ .any)]] (P4 s aC aC aC aC g),ai 47 (!(s7 s)) (by rw[hu];rfl)]<|.w (s.iG<1)
  (λk1=>af [tB 50 (bC k1)])
  (λk1=>ae [tB 50 (bD k1)]<|.w (4<s.iG)
   (λk2=>af [tB 54 (bC k2)])
   (λk2=>ae [tB 54 (bD k2)]<|.w ((s.iC.length:Int)=s.iG)
    (λk3=>ae [tB 62 (bu k3),iF (s.iG+(s.params.length:Int)) aC]<|.w (s.iw=(s.iG+(s.params.length:Int)))
     (λk4=>ae [tB 73 (bu k4)]<|.w (4<(s.params.length:Int))
      (λk5=>af [tB 79 (bC k5)])
      (λk5=>.x aC))
     (λk4=>af [tB 73 (bw k4)]))
    (λk3=>af [tB 62 (bw k3)])))) 
def anq(s:jt)(g:s.iW)(sm:s.pq)(i0:0<=s.iw)(i8:s.iw<=8)(l1:s.ig.length<=200)(l2:s.iC.length<=200)(jc:∀ k,k<s.ig.length->(jb (s.ig.getD k kA) (s.iw+(k:Int)))=true)(hu:s7 s=true)(s1:1<=s.iG)(s4:s.iG<=4)(e1:(s.iC.length:Int)=s.iG)(e2:s.iw=s.iG+(s.params.length:Int))(p4:s.params.length<=4):ie 105 [kz s] (bP (FM s)):=by
 have sp:=sm.params;exact ak call105 func105 (ae [tF 10 (s.iw<0) aC,tF 14 (8<s.iw) aC,tF 20 (200<(s.ig.length:Int)) aC,tF 26 (200<(s.iC.length:Int)) aC,.s (Sp.jT (Y5 s) 0 s.ig.length aC (λx hx lJ=>by
    have mU:=g.ig x;exact iL (af [tT 32 ((x:Int)<s.ig.length) aC,iX (x:Int) (s.ig.length) aC,iF (s.iw+(x:Int)) aC,.c (Im (s.ig.getD x kA) (s.iw+(x:Int)) mU),ai 42 (!(jb (s.ig.getD x kA) (s.iw+(x:Int)))) (by rw[jc x aC];rfl),iF ((x:Int)+1) aC]) aF)
  (λhx=>by
    exact iL (af [tF 32 ((s.ig.length:Int)<s.ig.length) aC]) aF) aI:jS 5 f105 (Y5 s 0) (.exit 0) ⟨85,true,[(3,.box 3 0),(1,.box 1 0)],[(3,.cells 25 [iP s.iw,jK s.ig,jM s.iC]),(1,.cells 28 [iP s.iw,jK s.ig,jM s.iC,iP s.iG,iD s.params])]⟩) .nil,ag [jM s.iC,.fn 179 [(.jh 3 λj_=>[iP s.iw,jK s.ig,jM s.iC].getD j_ .any)]] (P4 s aC aC aC aC g),ai 47 (!(s7 s)) (by rw[hu];rfl),tF 50 (s.iG<1) aC,tF 54 (4<s.iG) aC,ai 62 ((s.iC.length:Int) != s.iG) (by simp[e1]),iF (s.iG+(s.params.length:Int)) aC,ai 73 (s.iw != (s.iG+(s.params.length:Int))) (by simp[e2]),tF 79 (4<(s.params.length:Int)) aC,.c (XX 180 s.params (λi=>ank _ (g.params i)) aC:ie 53 [iD s.params,.fn 180 []] _)]<|rQ (bP (!(!(FM s)))) (bP (FM s)) (jL aH)) 
def anr(s:jt)(g:s.iW)(sm:s.pq):ie 105 [kz s] (bP (qb s)):=by
 by_cases c1:0<=s.iw/\s.iw<=8/\s.ig.length<=200/\s.iC.length<=200
 rotate_left
 .rw [show qb s=false by unfold qb;rw[bD c1];rfl];exact anm s g sm c1
 obtain⟨i0,i8,l1,l2⟩:=c1;by_cases c2:FK s=true
 rotate_left
 .rw [show qb s=false by unfold qb;rw[bt c2];simp];obtain⟨N,n1,n2,n3⟩:=xR c2;exact ann s g sm i0 i8 l1 l2 N n1 (λk hk=>by simpa using n3 k hk) (by simpa using n2)
 have jc:∀ k,k<s.ig.length->jb (s.ig.getD k kA) (s.iw+(k:Int))=true:=λk hk=>bU.1 c2 k (b6.2 hk)
 cases hu:s7 s with
 |false=>
  rw[show qb s=false by unfold qb;rw[hu];simp];exact ano s g sm i0 i8 l1 l2 jc hu
 |true=>
  by_cases c3:1<=s.iG/\s.iG<=4/\(s.iC.length:Int)=s.iG/\s.iw=s.iG+(s.params.length:Int)/\s.params.length<=4
  .rw [show qb s=FM s by unfold qb;rw[bC (⟨i0,i8,l1,l2⟩:_/\_),c2,hu,bC c3];simp];obtain⟨s1,s4,e1,e2,p4⟩:=c3;exact anq s g sm i0 i8 l1 l2 jc hu s1 s4 e1 e2 p4
  .rw [show qb s=false by unfold qb;rw[bD c3];simp];exact anp s g sm i0 i8 l1 l2 jc hu c3
def Zi(a:List Iv)(t:Iv)(p:Nat)(n:Nat):PS:=⟨38,true,[(8,.e (iP ((a.length:Int)-2-(n:Int)))),(7,.box 7 0),(6,.box 6 0),(4,.box 4 0),(0,.e (iu a)),(2,.e (iP p))],[(7,.cells 39 (iN (xq a t p (a.length-1) n))),(6,.cells 39 au),(4,.cells 39 (iN t))]⟩
noncomputable def YN(s:jN)(y:List Iv)(t:Iv)(k p:Nat)(i:Nat):PS:=⟨54,true,[(15,.own 15),(37,.e (iP i)),(36,.e (iP ((jm s y p (k+1)).length:Int))),(35,.e (lW (jm s y p (k+1)))),(14,.box 14 0),(3,.e (iP k)),(4,.e (iP p))],[(15,.row true 39 i 7 (je ((List.range i).map (λi=>iY (((jm s y p (k+1)).getD i []).getD (k+1) il) (lN t (k+1) p) p)))),(14,.cells 39 (iN (lN t (k+1) p)))]⟩
noncomputable def RR(s:jN)(x y:List Iv)(t:Iv)(k p:Nat)(i:Nat):PS:=⟨89,true,[(17,.own 17),(65,.e (iP i)),(64,.e (iP ((jm s x p k).length:Int))),(16,.e (iu (mZ s y t k p))),(14,.e (lW (jm s x p k))),(9,.box 9 0),(5,.e (iP p))],[(17,.row true 39 i 7 (je ((List.range i).map (λi=>jX (nS ((jm s x p k).getD i []) t p) ((mZ s y t k p).getD i il) p)))),(9,.cells 39 (iN t))]⟩
noncomputable def RS(s:jN)(x y:List Iv)(t:Iv)(k p:Nat)(i:Nat):PS:=⟨89,true,[(17,.own 17),(65,.e (iP i)),(64,.e (iP ((jm s x p k).length:Int))),(16,.e (iu (mZ s y t k p))),(14,.e (lW (jm s x p k))),(9,.box 9 0),(5,.e (iP p))],[(17,.row true 39 i 7 (je ((List.range i).map (λi=>jX (nS ((jm s x p k).getD i []) t p) ((mZ s y t k p).getD i il) p)))),(9,.cells 39 (iN t))]⟩
def ace(s:jN)(x:List Iv)(h:mq s)(hx:kE s.iG x):ie 163 [iu x,(.jh 5 λj_=>[iP s.tape.iw,mG s.tape.ig,mF s.tape.iC,iP s.iG,iu s.params].getD j_ .any)] (bP false):=by
 have s1:=h.s1;have s4:=h.s4;have lx:=hx.len;exact ak call163 func163 (af [.c (Jr x aC aC hx.ok),ai 12 ((x.length:Int) != (s.iG:Int)) (pf aC)]) 
def agE(s:jN)(x:List Iv)(h:mq s)(hx:kE s.iG x)(y:List Iv)(hy:kE s.iG y):ie 50 [lW [x,y],.fn 163 [(.jh 5 λj_=>[iP s.tape.iw,mG s.tape.ig,mF s.tape.iC,iP s.iG,iu s.params].getD j_ .any)]] (bP false):=
 Y0 true 2 (λi _=>iu ([x,y].getD i [])) 163 _ (λ_=>false) (λi hi=>by obtain rfl|rfl:i=0\/i=1:= aC <;>exact ace s _ h aD) aC (λ_ _=>rfl)
def MK(s:jN)(x:List Iv)(h:mq s)(hx:kE s.iG x)(y:List Iv)(hy:kE s.iG y):ie 86 [kf s,lW [x,y]] (bP true):=
 ak call86 func86 (af [.c (Q0 s h),ag [lW [x,y],.fn 163 [(.jh 5 λj_=>[iP s.tape.iw,mG s.tape.ig,mF s.tape.iC,iP s.iG,iu s.params].getD j_ .any)]] (agE s x h hx y hy)]) 
def ajV(p:Int):ie 87 [iP p] (bP (decide (8<=p)&&decide (p<=512))):=
 ak call87 func87 (.w (8<=p)
  (λk1=>ae [tB 4 (bC k1)]<|rQ (bP (decide (p<=512))) (bP (decide (8<=p)&&decide (p<=512))) (jL (by simp[k1])))
  (λk1=>ae [tB 4 (bD k1)]<|rQ (bP false) (bP (decide (8<=p)&&decide (p<=512))) (jL (by simp[k1])))) 
def ajK(k:Int):ie 93 [iP k] (bP (decide (1<=k)&&decide (k<=15))):=
 ak call93 func93 (.w (1<=k)
  (λk1=>ae [tB 4 (bC k1)]<|rQ (bP (decide (k<=15))) (bP (decide (1<=k)&&decide (k<=15))) (jL (by simp[k1])))
  (λk1=>ae [tB 4 (bD k1)]<|rQ (bP false) (bP (decide (1<=k)&&decide (k<=15))) (jL (by simp[k1])))) 
def P9(p:Nat)(h1:8<=p)(h2:p<=512):ie 87 [iP (p:Int)] (bP true):=by
 have:=ajV (p:Int);rwa[show(decide (8<=(p:Int))&&decide ((p:Int)<=512))=true from aN]at this
def P3(k:Nat)(h1:1<=k)(h2:k<=15):ie 93 [iP (k:Int)] (bP true):=by
 have:=ajK (k:Int);rwa[show(decide (1<=(k:Int))&&decide ((k:Int)<=15))=true from aN]at this
def aan(t:Iv)(ht:t.ix)(ta:t.all=false)(t0:0<=t.lo.jq):ie 147 [iy t] (bP true):=by
 obtain⟨w1,w2⟩:=ht.kq;exact ak call147 func147 (af [ai 4 t.all ta,.c (rj t aD),ag [iz t.lo] (qd _ aD),tB 14 (bC t0)]) 
def Zj(a:List Iv)(t:Iv)(n p:Nat)(h1:1<=n)(oj:n<=17)(ha:lg n a)(ht:t.ix)(iA:8<=p)(im:p<=512):ie 149 [iu a,iy t,iP p] (iy (nS a t p)):=by
 have la:=ha.len;have va0:=ha.ok 0;have va1:=ha.ok (a.length-1);exact ak call149 func149 (ae [.o 10 (.e (Ce _):aj (.sl true 1 1 λi_ j_=>[iu a].getD (i_*1+j_) (.v (.bool false))) (lW [a])),.c (w9 [a] n aC aC aH (Bu aD)),
  iF ((a.length:Int)-1) aC,.o 17 (aq ((a.length:Int)-1) ((a.length-1:Nat):Int) aC),iX ((a.length-1:Nat):Int) (a.length) aC,
  iF ((a.length:Int)-2) aC,.s (Sp.jT (Zi a t p) 0 (a.length-1) aC (λn hn Km=>by
    have v1:=Vf (h:=t) (m:=a.length-1) (aC:1<=p) (aC:p<=4096) ha.ok n;have v2:=ha.ok (a.length-1-(n+1));have v3:(iY (xq a t p (a.length-1) n) t p).ix:=py _ _ aC aC;have en:((a.length:Int)-2-(n:Int)).toNat=a.length-1-(n+1):= aC ;exact iL (ae [tT 24 (0<=((a.length:Int)-2-(n:Int))) aC,.o 28 (aq ((a.length:Int)-2-(n:Int)) ((a.length-1-(n+1):Nat):Int) aC),
     iX ((a.length-1-(n+1):Nat):Int) (a.length) aC,.c (vv (xq a t p (a.length-1) n) t p aD aD aC aC),.c (xA (a.getD (a.length-1-(n+1)) il) (iY (xq a t p (a.length-1) n) t p) p aD aD aC aC),iF (((a.length:Int)-2-(n:Int))-1) aC]<|.e (af [.o 8 (aq (((a.length:Int)-2-(n:Int))-1) ((a.length:Int)-2-((n+1:Nat):Int)) aP),.b 7 (.ji rfl:Bx.le (.cells 39 (iN (jX (a.getD (a.length-1-(n+1)) il) (iY (xq a t p (a.length-1) n) t p) p))) (.cells 39 (iN (xq a t p (a.length-1) (n+1)))))])) aF)
  (λhn=>by
    exact iL (af [tF 24 (0<=((a.length:Int)-2-((a.length-1:Nat):Int))) aC]) aF) aI:jS 5 f149 (Zi a t p 0) (.exit 0) ⟨38,true,[(7,.box 7 0),(6,.box 6 0)],[(7,.cells 39 (iN (xq a t p (a.length-1) (a.length-1)))),(6,.cells 39 au)]⟩) (af [.o 8 (aq ((a.length:Int)-2) ((a.length:Int)-2-((0:Nat):Int)) aP),.b 7 (.ji rfl:Bx.le (.cells 39 (iN (a.getD (a.length-1) il))) (.cells 39 (iN (xq a t p (a.length-1) 0))))])]<|rR (iy (nS a t p)) (.ji rfl:E.le (iy (xq a t p (a.length-1) (a.length-1))) (iy (nS a t p)))) 
def ah1(x:Iv):ie 214 [iy x] (bP x.all):=
 ak call214 func214 (.nil) 
def DK(b:List Iv):E:=if sY b then .iE [.v (.slice none 0 0),iP 11]else .iE [iu b,iP 0]
def Wr(b:List Iv)(hl:b.length<=1000):ie 150 [iu b] (DK b):=
 ak call150 func150 (ae [.c (Pf true _ _ 214 [] (λi=>(b.getD i il).all) (λi _=>ah1 _) aC:ie 53 [iu b,.fn 214 []] _)]<|.w (sY b=true)
  (λk1=>ae [tB 5 k1]<|rQ (.iE [.v (.slice none 0 0),iP 11]) (DK b) (by unfold DK;rw[show sY b=true from k1];rfl))
  (λk1=>ae [tB 5 (bt k1)]<|rQ (.iE [iu b,iP 0]) (DK b) (by unfold DK;rw[show sY b=false from bt k1];rfl))) 
def YO(s:jN)(y:List Iv)(t:Iv)(k p:Nat)(h:mq s)(hy:kE s.iG y)(ht:t.ix)(oq:1<=k)(hk:k<=15)(iA:8<=p)(im:p<=512):ie 148 [kf s,iu y,iy t,iP k,iP p] (.iE [iu (mZ s y t k p),iP 0]):=by
 have e0:=ua s y p (k+1);have s1:=h.s1;have s4:=h.s4;have ly:=hy.len;have v2:=Ld ht (k+1) (aC:1<=p) (aC:p<=4096);exact ak call148 func148 (ae [iF ((k:Int)+1) aC,.c (M3 s y (k+1) p h aD iA im aC),ai 28 ((0:Int) != 0) aE,iF ((k:Int)+1) aC,ag [iy t,iP ((k+1:Nat):Int),iP p] (Ge _ _ _ aD aC aC aC),.y 15 15 true 39 7 (je ((List.range 0).map (λi=>iY (((jm s y p (k+1)).getD i []).getD (k+1) il) (lN t (k+1) p) p))),.s (Sp.jT (YN s y t k p) 0 ((jm s y p (k+1)).length) aC (λi hi nP=>by
    have hs:=Cb h hy iA im (k+1) aC i aC;have tS:=hs.len;have v1:=hs.ok (k+1);have v2:=Ld ht (k+1) (aC:1<=p) (aC:p<=4096);have tn:=qL (iY (((jm s y p (k+1)).getD i []).getD (k+1) il) (lN t (k+1) p) p);exact iL (ae [tT 38 ((i:Int)<((jm s y p (k+1)).length:Int)) aC,iX (i:Int) ((jm s y p (k+1)).length) aC,iF ((k:Int)+1) aC,
     iX ((k+1:Nat):Int) (((jm s y p (k+1)).getD i []).length) aC,.c (vv (((jm s y p (k+1)).getD i []).getD (k+1) il) (lN t (k+1) p) p aD aD aC aC),.o 50 (.e (mf _):aj (.sl true 1 7 λi_ j_=>(iN (iY (((jm s y p (k+1)).getD i []).getD (k+1) il) (lN t (k+1) p) p)).getD (i_*7+j_) (.v (.bool false))) (iu [iY (((jm s y p (k+1)).getD i []).getD (k+1) il) (lN t (k+1) p) p])),.a (aC:(i+[iY (((jm s y p (k+1)).getD i []).getD (k+1) il) (lN t (k+1) p) p].length)*88<=140737488355328),iF ((i:Int)+1) aC]<|.e (af [.b 15 (DH rfl rfl rfl:Bx.le (.row true 39 (i+[iY (((jm s y p (k+1)).getD i []).getD (k+1) il) (lN t (k+1) p) p].length) 7 (λi_ j_=>if i_<i then(je ((List.range i).map (λi=>iY (((jm s y p (k+1)).getD i []).getD (k+1) il) (lN t (k+1) p) p))) i_ j_ else(E.kY (iu [iY (((jm s y p (k+1)).getD i []).getD (k+1) il) (lN t (k+1) p) p])) (i_-i) j_)) (.row true 39 (i+1) 7 (je ((List.range (i+1)).map (λi=>iY (((jm s y p (k+1)).getD i []).getD (k+1) il) (lN t (k+1) p) p)))))])) aF)
  (λhi=>by
    exact iL (ae [tF 38 (((jm s y p (k+1)).length:Int)<((jm s y p (k+1)).length:Int)) aC,.z 15]<|.e (af [.o 15 (.e (DG aH):aj (.sl true ((jm s y p (k+1)).length) 7 (je ((List.range ((jm s y p (k+1)).length)).map (λi=>iY (((jm s y p (k+1)).getD i []).getD (k+1) il) (lN t (k+1) p) p)))) (iu ((List.range ((jm s y p (k+1)).length)).map (λi=>iY (((jm s y p (k+1)).getD i []).getD (k+1) il) (lN t (k+1) p) p))))])) aF) aI:jS 7 f148 (YN s y t k p 0) (.exit 0) ⟨54,true,[(15,.e (iu ((List.range ((jm s y p (k+1)).length)).map (λi=>iY (((jm s y p (k+1)).getD i []).getD (k+1) il) (lN t (k+1) p) p))))],[]⟩) .nil]<|rQ (.iE [iu ((List.range ((jm s y p (k+1)).length)).map (λi=>iY (((jm s y p (k+1)).getD i []).getD (k+1) il) (lN t (k+1) p) p)),iP 0]) (.iE [iu (mZ s y t k p),iP 0]) (by unfold mZ lq;rw[e0])) 
def ah0{b:List Iv}(h:sY b=true)(hl:b.length<=1000):ie 150 [iu b] (.iE [.v (.slice none 0 0),iP 11]):=by
 have:=Wr b hl;unfold DK at this;rwa[h]at this
def ahZ{b:List Iv}(h:sY b=false)(hl:b.length<=1000):ie 150 [iu b] (.iE [iu b,iP 0]):=by
 have:=Wr b hl;unfold DK at this;rwa[h]at this
def Lt(s:jN)(y:List Iv)(t:Iv)(k p:Nat):(mZ s y t k p).length=y.length:=xj _ _
def Qu{s:jN}{y:List Iv}{t:Iv}{k p:Nat}(iA:8<=p)(im:p<=512){i:Nat}(hi:i<y.length):((mZ s y t k p).getD i il).ix:=by
 unfold mZ;rw[C9 hi];exact py _ _ aC aC 
def Nr{a:List Iv}{t:Iv}{p:Nat}(hp:1<=p)(im:p<=4096)(va:nG a):(nS a t p).ix:=Vf hp im va _
def CR(s:jN)(x y:List Iv)(t:Iv)(k p:Nat)(h:mq s)(hx:kE s.iG x)(hy:kE s.iG y)(ht:t.ix)(ta:t.all=false)(t0:0<=t.lo.jq)(oq:1<=k)(hk:k<=15)(iA:8<=p)(im:p<=512)(NT:sY (lK s x y t k p)=false):ie 64 [kf s,iu x,iu y,iy t,iP k,iP p] (.iE [iu (lK s x y t k p),iP 0]):=by
 have e0:=ua s x p k;have ON:=Lt s y t k p;have s1:=h.s1;have s4:=h.s4;have lx:=hx.len;have ly:=hy.len;have eA:((List.range (jm s x p k).length).map (λi=>jX (nS ((jm s x p k).getD i []) t p) ((mZ s y t k p).getD i il) p))=lK s x y t k p:=by unfold lK lq;rw[e0]
 have GK:=NT;rw[<-eA]at GK ⊢;exact ak call64 func64 (af [.o 23 (.e (DS _ _):aj (.sl true 2 1 λi_ j_=>[iu x,iu y].getD (i_*1+j_) (.v (.bool false))) (lW [x,y])),.c (MK s x h aD y aD),ag [iP p] (P9 _ aC aC),ag [iP k] (P3 _ aC aC),.c (aan t ht ta t0),.c (M3 s x k p h aD iA im aC),ai 49 ((0:Int) != 0) aE,.c (YO s y t k p h hy ht oq hk iA im),ai 61 ((0:Int) != 0) aE,.y 17 17 true 39 7 (je ((List.range 0).map (λi=>jX (nS ((jm s x p k).getD i []) t p) ((mZ s y t k p).getD i il) p))),.s (Sp.jT (RR s x y t k p) 0 ((jm s x p k).length) aC (λi hi nP=>by
    have hs:=Cb h hx iA im k aC i aC;have tS:=hs.len;have ON:=Lt s y t k p;have v1:=Nr (t:=t) (aC:1<=p) (aC:p<=4096) hs.ok;have v2:=Qu (s:=s) (t:=t) (k:=k) iA im (y:=y) (i:=i) aC;have tn:=qL (jX (nS ((jm s x p k).getD i []) t p) ((mZ s y t k p).getD i il) p);exact iL (ae [tT 66 ((i:Int)<((jm s x p k).length:Int)) aC,iX (i:Int) ((jm s x p k).length) aC,.c (Zj ((jm s x p k).getD i []) t (k+1) p aC aC hs ht iA im),
     iX (i:Int) ((mZ s y t k p).length) aC,.c (xA (nS ((jm s x p k).getD i []) t p) ((mZ s y t k p).getD i il) p aD aD aC aC),.o 82 (.e (mf _):aj (.sl true 1 7 λi_ j_=>(iN (jX (nS ((jm s x p k).getD i []) t p) ((mZ s y t k p).getD i il) p)).getD (i_*7+j_) (.v (.bool false))) (iu [jX (nS ((jm s x p k).getD i []) t p) ((mZ s y t k p).getD i il) p])),.a (aC:(i+[jX (nS ((jm s x p k).getD i []) t p) ((mZ s y t k p).getD i il) p].length)*88<=140737488355328),iF ((i:Int)+1) aC]<|.e (af [.b 17 (DH rfl rfl rfl:Bx.le (.row true 39 (i+[jX (nS ((jm s x p k).getD i []) t p) ((mZ s y t k p).getD i il) p].length) 7 (λi_ j_=>if i_<i then(je ((List.range i).map (λi=>jX (nS ((jm s x p k).getD i []) t p) ((mZ s y t k p).getD i il) p))) i_ j_ else(E.kY (iu [jX (nS ((jm s x p k).getD i []) t p) ((mZ s y t k p).getD i il) p])) (i_-i) j_)) (.row true 39 (i+1) 7 (je ((List.range (i+1)).map (λi=>jX (nS ((jm s x p k).getD i []) t p) ((mZ s y t k p).getD i il) p)))))])) aF)
  (λhi=>by
    exact iL (ae [tF 66 (((jm s x p k).length:Int)<((jm s x p k).length:Int)) aC,.z 17]<|.e (af [.o 17 (.e (DG aH):aj (.sl true ((jm s x p k).length) 7 (je ((List.range ((jm s x p k).length)).map (λi=>jX (nS ((jm s x p k).getD i []) t p) ((mZ s y t k p).getD i il) p)))) (iu ((List.range ((jm s x p k).length)).map (λi=>jX (nS ((jm s x p k).getD i []) t p) ((mZ s y t k p).getD i il) p))))])) aF) aI:jS 13 Tryz.f64 (RR s x y t k p 0) (.exit 1) ⟨89,true,[(17,.e (iu ((List.range ((jm s x p k).length)).map (λi=>jX (nS ((jm s x p k).getD i []) t p) ((mZ s y t k p).getD i il) p))))],[]⟩) .nil,ag [iu ((List.range ((jm s x p k).length)).map (λi=>jX (nS ((jm s x p k).getD i []) t p) ((mZ s y t k p).getD i il) p))] (ahZ GK aN)]) 
def RU(s:jN)(x y:List Iv)(t:Iv)(k p:Nat)(h:mq s)(hx:kE s.iG x)(hy:kE s.iG y)(ht:t.ix)(ta:t.all=false)(t0:0<=t.lo.jq)(oq:1<=k)(hk:k<=15)(iA:8<=p)(im:p<=512)(NT:sY (lK s x y t k p)=true):ie 64 [kf s,iu x,iu y,iy t,iP k,iP p] (.iE [.v (.slice none 0 0),iP 11]):=by
 have e0:=ua s x p k;have ON:=Lt s y t k p;have s1:=h.s1;have s4:=h.s4;have lx:=hx.len;have ly:=hy.len;have eA:((List.range (jm s x p k).length).map (λi=>jX (nS ((jm s x p k).getD i []) t p) ((mZ s y t k p).getD i il) p))=lK s x y t k p:=by unfold lK lq;rw[e0]
 have GK:=NT;rw[<-eA]at GK;exact ak call64 func64 (af [.o 23 (.e (DS _ _):aj (.sl true 2 1 λi_ j_=>[iu x,iu y].getD (i_*1+j_) (.v (.bool false))) (lW [x,y])),.c (MK s x h aD y aD),ag [iP p] (P9 _ aC aC),ag [iP k] (P3 _ aC aC),.c (aan t ht ta t0),.c (M3 s x k p h aD iA im aC),ai 49 ((0:Int) != 0) aE,.c (YO s y t k p h hy ht oq hk iA im),ai 61 ((0:Int) != 0) aE,.y 17 17 true 39 7 (je ((List.range 0).map (λi=>jX (nS ((jm s x p k).getD i []) t p) ((mZ s y t k p).getD i il) p))),.s (Sp.jT (RS s x y t k p) 0 ((jm s x p k).length) aC (λi hi nP=>by
    have hs:=Cb h hx iA im k aC i aC;have tS:=hs.len;have ON:=Lt s y t k p;have v1:=Nr (t:=t) (aC:1<=p) (aC:p<=4096) hs.ok;have v2:=Qu (s:=s) (t:=t) (k:=k) iA im (y:=y) (i:=i) aC;have tn:=qL (jX (nS ((jm s x p k).getD i []) t p) ((mZ s y t k p).getD i il) p);exact iL (ae [tT 66 ((i:Int)<((jm s x p k).length:Int)) aC,iX (i:Int) ((jm s x p k).length) aC,.c (Zj ((jm s x p k).getD i []) t (k+1) p aC aC hs ht iA im),
     iX (i:Int) ((mZ s y t k p).length) aC,.c (xA (nS ((jm s x p k).getD i []) t p) ((mZ s y t k p).getD i il) p aD aD aC aC),.o 82 (.e (mf _):aj (.sl true 1 7 λi_ j_=>(iN (jX (nS ((jm s x p k).getD i []) t p) ((mZ s y t k p).getD i il) p)).getD (i_*7+j_) (.v (.bool false))) (iu [jX (nS ((jm s x p k).getD i []) t p) ((mZ s y t k p).getD i il) p])),.a (aC:(i+[jX (nS ((jm s x p k).getD i []) t p) ((mZ s y t k p).getD i il) p].length)*88<=140737488355328),iF ((i:Int)+1) aC]<|.e (af [.b 17 (DH rfl rfl rfl:Bx.le (.row true 39 (i+[jX (nS ((jm s x p k).getD i []) t p) ((mZ s y t k p).getD i il) p].length) 7 (λi_ j_=>if i_<i then(je ((List.range i).map (λi=>jX (nS ((jm s x p k).getD i []) t p) ((mZ s y t k p).getD i il) p))) i_ j_ else(E.kY (iu [jX (nS ((jm s x p k).getD i []) t p) ((mZ s y t k p).getD i il) p])) (i_-i) j_)) (.row true 39 (i+1) 7 (je ((List.range (i+1)).map (λi=>jX (nS ((jm s x p k).getD i []) t p) ((mZ s y t k p).getD i il) p)))))])) aF)
  (λhi=>by
    exact iL (ae [tF 66 (((jm s x p k).length:Int)<((jm s x p k).length:Int)) aC,.z 17]<|.e (af [.o 17 (.e (DG aH):aj (.sl true ((jm s x p k).length) 7 (je ((List.range ((jm s x p k).length)).map (λi=>jX (nS ((jm s x p k).getD i []) t p) ((mZ s y t k p).getD i il) p)))) (iu ((List.range ((jm s x p k).length)).map (λi=>jX (nS ((jm s x p k).getD i []) t p) ((mZ s y t k p).getD i il) p))))])) aF) aI:jS 13 Tryz.f64 (RS s x y t k p 0) (.exit 1) ⟨89,true,[(17,.e (iu ((List.range ((jm s x p k).length)).map (λi=>jX (nS ((jm s x p k).getD i []) t p) ((mZ s y t k p).getD i il) p))))],[]⟩) .nil,ag [iu ((List.range ((jm s x p k).length)).map (λi=>jX (nS ((jm s x p k).getD i []) t p) ((mZ s y t k p).getD i il) p))] (ah0 GK aN)]) 
def RT(s:jN)(x y:List Iv)(t:Iv)(k p:Nat):(lK s x y t k p).length=x.length:=xj _ _
def agF{b:List Iv}(h:sY b=false){i:Nat}(hi:i<b.length):(b.getD i il).all=false:=by
 have:=dg.1 h i (b6.2 hi);simpa using this
def Bv{s:jN}{x y:List Iv}{t:Iv}{k p:Nat}(h:mq s)(hx:kE s.iG x)(hy:kE s.iG y)(hk:k<=15)(iA:8<=p)(im:p<=512)(hn:sY (lK s x y t k p)=false):kE s.iG (lK s x y t k p):=by
 refine⟨by rw[RT,hx.len],λi hi=>⟨?_,agF hn hi⟩⟩;rw[RT]at hi;have hs:=Cb h hx iA im k aC i (by rw[ua];exact hi);unfold lK;rw[C9 hi];exact qO (Nr aC aC hs.ok) (Qu iA im (by rw[hy.len,<-hx.len];exact hi)) aC aC 
def rH{d:Dy}(hd:d.ix):(jP d).ix:=.inr ⟨rfl,hd,hd,by show jf d d<=0;rw[qk];exact cP⟩
def XP{a b c d e f:Int}(ha:kQ .i64 a)(hb:kQ .i64 b)(hc:kQ .i64 c)(hd:kQ .i64 d)(he:kQ .i64 e)(hf:kQ .i64 f):
 prog.keyLits 10 107 [.int .i64 a,.int .i64 b,.int .i64 c,.int .i64 d,.int .i64 e,.int .i64 f]=some [.int .i64 a,.int .i64 b,.int .i64 c,.int .i64 d,.int .i64 e,.int .i64 f]:=by
 have c1:prog.cellsOf 107=6:= aF ;have c2:prog.cellsOf 3=1:= aF ;have c3:prog.cellsOf 93=2:= aF ;have r:prog.keyLits 9 93 [.int .i64 e,.int .i64 f]=some [.int .i64 e,.int .i64 f]:=by
  unfold Program.keyLits;rw[underlying93];simp[c3,c2,fP,B9 he,B9 hf]
 unfold Program.keyLits;rw[underlying107];simp[c1,c2,c3,fP,B9 ha,B9 hb,B9 hc,B9 hd,r]
def zS{a b c d e f a' b' c' d' e' f':Int}(ha:kQ .i64 a)(hb:kQ .i64 b)(hc:kQ .i64 c)(hd:kQ .i64 d)(he:kQ .i64 e)(hf:kQ .i64 f)
 (BU:kQ .i64 a') (ns:kQ .i64 b') (Dg:kQ .i64 c') (Dh:kQ .i64 d') (he':kQ .i64 e') (hf':kQ .i64 f'):
 oJ prog .eql 107 (.agg [iP a,iP b,iP c,iP d,iP e,iP f]) (.agg [iP a',iP b',iP c',iP d',iP e',iP f']) (.bool (decide (a=a'/\b=b'/\c=c'/\d=d'/\e=e'/\f=f'))):=
 ajn (XP ha hb hc hd he hf) (XP BU ns Dg Dh he' hf') aF aF rfl
def kT:kQ .i64 0:=by unfold kQ;decide
def an4{d:Int}(h0:0<=d)(h:d<=1073741824):IntKind.u64.wrap d=(d.natAbs:Int):=by rw[IntKind.wrap_u64];omega
def SP{a b:Nat}:0<=lp a b↔b<=a:=by
 unfold lp;split
 .simp;omega
 .split<;>simp<;>omega
def Yd(m n:Nat)(hl:(ij m).length<=1000)(hn:n<=65536):ie 168 [ik (ij m),iP (n:Int)] (ik (ij (m*2^n))):=
 Ir (mQ m) call168 (λA c w h _=>ak0 A c (ij m) n w h hl hn) λA c B w e w' h hB r=>by rw[kP]at r;exact rl B w e w' hB r
def akA(m n:Nat)(hl:(ij m).length<=3000)(hn:(ij n).length<=3000):ie 170 [ik (ij m),ik (ij n)] (ik (ij (m+n))):=
 Cn (mQ m) (mQ n) call170 (λA c B d w h k _=>ak4 A B c d (ij m) (ij n) w h k hl hn) λB w e w' hB r=>by rw[kP,kP]at r;exact rl B w e w' hB r
def Ye(m n:Nat)(hl:(ij m).length<=3000)(hn:n<=m):ie 171 [ik (ij m),ik (ij n)] (ik (ij (m-n))):=
 Cn (mQ m) (mQ n) call171 (λA c B d w h k _=>ak1 A B c d (ij m) (ij n) w h k hl (nA hn) (by rw[kP,kP];exact hn)) λB w e w' hB r=>by rw[kP,kP]at r;exact rl B w e w' hB r
def akz(m n:Nat)(hl:(ij m).length<=3000)(hn:(ij n).length<=3000):ie 97 [ik (ij m),ik (ij n)] (iP (lp m n)):=by
 refine Cn (mQ m) (mQ n) call97 (λA c B d w h k _=>YJ A B c d (ij m) (ij n) w h k (wW _) (wW _) aC aC) ?_;rw[kP,kP];exact rv
def ala(a b:Dy)(ha:Bq a)(hb:Bq b):ie 96 [iz a,iz b] (iz (iH a b)):=by
 obtain⟨UJ,UK,ha3⟩:=ha;obtain⟨lh,om,sG⟩:=hb;have ba:=CT UJ;have bb:=CT lh;obtain⟨k,hk⟩:∃ k,min a.e b.e=k:=⟨_,rfl⟩
 exact ak call96 func96 (.w (((ij a.m).length:Int)=0)
  (λk1=>by
   have a0:a.m=0:=vz.1 aC;exact ae [tB 11 (bn k1)]<|rQ (iz b) (iz (iH a b)) (by rw[show iH a b=b by unfold iH;rw[bB a0]]))
  (λk1=>by
   have a0:a.m≠0:=λh=>k1 (by rw[vz.2 h];rfl)
   exact ae [tB 11 (bk k1)]<|.w (((ij b.m).length:Int)=0)
    (λk2=>by
     have b0:b.m=0:=vz.1 aC;exact ae [tB 16 (bn k2)]<|rQ (iz a) (iz (iH a b)) (by rw[show iH a b=a by unfold iH;rw[bA a0,bB b0]]))
    (λk2=>by
     have b0:b.m≠0:=λh=>k2 (by rw[vz.2 h];rfl)
     have hX:(ij (a.m*2^((a.e-k).toNat))).length<=1400:=pY (by rw[sC a0];omega);have hY:(ij (b.m*2^((b.e-k).toNat))).length<=1400:=pY (by rw[sC b0];omega);have hP:=aih hX hY;have hM:(ij ((a.m*2^((a.e-k).toNat))-(b.m*2^((b.e-k).toNat)))).length<=1400:=bH (nA (fA _ _)) hX;have hN:(ij ((b.m*2^((b.e-k).toNat))-(a.m*2^((a.e-k).toNat)))).length<=1400:=bH (nA (fA _ _)) hY;exact ae [tB 16 (bk k2),.o 22 (aq (if b.e<a.e then b.e else a.e) k (by rw[<-hk];split<;>omega)),iF (a.e-k) aC,.o 28 (aq (a.e-k) ((a.e-k).toNat:Int) aC),ag [ik (ij a.m),iP ((a.e-k).toNat:Int)] (Yd _ _ aC aC),iF (b.e-k) aC,.o 35 (aq (b.e-k) ((b.e-k).toNat:Int) aC),ag [ik (ij b.m),iP ((b.e-k).toNat:Int)] (Yd _ _ aC aC)]<|.w (a.neg=b.neg)
      (λk3=>ae [tB 41 (bn k3),ag [ik (ij (a.m*2^((a.e-k).toNat))),ik (ij (b.m*2^((b.e-k).toNat)))] (akA _ _ aC aC),ag [bP a.neg,ik (ij ((a.m*2^((a.e-k).toNat))+(b.m*2^((b.e-k).toNat)))),iP k] (Qr _ _ _ aC aC aC)]<|rQ (iz (canon a.neg ((a.m*2^((a.e-k).toNat))+(b.m*2^((b.e-k).toNat))) k)) (iz (iH a b)) (by have h:=am6 (s:=a.neg) a0 b0 hk;rw[show(⟨a.neg,b.m,b.e⟩:Dy)=b by rw[k3]]at h;exact congrArg iz h.symm))
      (λk3=>ae [tB 41 (bk k3),ag [ik (ij (a.m*2^((a.e-k).toNat))),ik (ij (b.m*2^((b.e-k).toNat)))] (akz _ _ aC aC)]<|.w (0<=(lp (a.m*2^((a.e-k).toNat)) (b.m*2^((b.e-k).toNat))))
       (λk4=>by
        have hc:(b.m*2^((b.e-k).toNat))<=(a.m*2^((a.e-k).toNat)):=SP.1 k4;exact ae [tB 52 (bC k4),ag [ik (ij (a.m*2^((a.e-k).toNat))),ik (ij (b.m*2^((b.e-k).toNat)))] (Ye _ _ aC aC),ag [bP a.neg,ik (ij ((a.m*2^((a.e-k).toNat))-(b.m*2^((b.e-k).toNat)))),iP k] (Qr _ _ _ aC aC aC)]<|rQ (iz (canon a.neg ((a.m*2^((a.e-k).toNat))-(b.m*2^((b.e-k).toNat))) k)) (iz (iH a b)) (congrArg iz (am4 (s:=a.neg) (t:=b.neg) a0 b0 hk k3 hc).symm))
       (λk4=>by
        have hc:(a.m*2^((a.e-k).toNat))<(b.m*2^((b.e-k).toNat)):=Nat.lt_of_not_le λh=>k4 (SP.2 h)
        exact ae [tB 52 (bD k4),ag [ik (ij (b.m*2^((b.e-k).toNat))),ik (ij (a.m*2^((a.e-k).toNat)))] (Ye _ _ aC aC),ag [bP b.neg,ik (ij ((b.m*2^((b.e-k).toNat))-(a.m*2^((a.e-k).toNat)))),iP k] (Qr _ _ _ aC aC aC)]<|rQ (iz (canon b.neg ((b.m*2^((b.e-k).toNat))-(a.m*2^((a.e-k).toNat))) k)) (iz (iH a b)) (congrArg iz (am5 (s:=a.neg) (t:=b.neg) a0 b0 hk k3 hc).symm)))))) 
def IB(a b:Dy)(ha:Bq a)(hb:Bq b):ie 75 [iz a,iz b] (iP (jf a b)):=by
 have hn:Bq (iO b):=⟨hb.len,hb.lo,hb.hi⟩
 exact ak call75 func75 (ae [ag [iz a] (Qs _),ag [iz b] (Qs _)]<|.w ((Dy.jq a)=(Dy.jq b))
  (λk1=>ae [tB 13 (bu k1)]<|.w ((Dy.jq a)=0)
   (λk2=>ae [tB 18 (bn k2)]<|rQ (iP 0) (iP (jf a b)) (by rw[ED,bA (by simpa using k1),bB k2]))
   (λk2=>ae [tB 18 (bk k2),ag [iz a] (Lj _ ha),ag [iz b] (Lj _ hb)]<|.w ((Dy.iI a)=(Dy.iI b))
    (λk3=>ae [tB 23 (bu k3),ag [iz b] (ak3 _),.c (ala a (iO b) ha hn),ag [iz (iH a (iO b))] (Qs _)]<|rQ (iP (Dy.jq (iH a (iO b)))) (iP (jf a b)) (by rw[ED,bA (by simpa using k1),bA k2,bA (by simpa using k3)]))
    (λk3=>ae [tB 23 (bw k3),ag [iz a] (Lj _ ha),ag [iz b] (Lj _ hb)]<|.w ((decide ((Dy.iI a)<(Dy.iI b)))=(decide (0<(Dy.jq a))))
     (λk4=>ae [tB 31 (bn k4)]<|rQ (iP (-1)) (iP (jf a b)) (by rw[ED,bA (by simpa using k1),bA k2,bB k3,bB (by simpa using k4)]))
     (λk4=>ae [tB 31 (bk k4)]<|rQ (iP 1) (iP (jf a b)) (by rw[ED,bA (by simpa using k1),bA k2,bB k3,bA (by simpa using k4)])))))
  (λk1=>ae [tB 13 (bw k1)]<|.w ((Dy.jq a)<(Dy.jq b))
   (λk2=>ae [tB 16 (bC k2)]<|rQ (iP (-1)) (iP (jf a b)) (by rw[ED,bB k1,bB k2]))
   (λk2=>ae [tB 16 (bD k2)]<|rQ (iP 1) (iP (jf a b)) (by rw[ED,bB k1,bA k2])))) 
def Ug(a b:Nat)(x:Nat):PS:=⟨12,true,[(0,.e (.v (.int .u64 (((mN a b x).1:Nat):Int)))),(1,.e (.v (.int .u64 (((mN a b x).2:Nat):Int))))],[]⟩
def Yz(s:jt)(N:Nat)(x:Nat):PS:=⟨131,true,[(4,.e (iP x)),(3,.box 3 0),(1,.box 1 0)],[(3,.cells 25 [iP s.iw,jK s.ig,jM s.iC]),(1,.cells 28 [iP s.iw,jK s.ig,jM s.iC,iP s.iG,iD s.params])]⟩
def Yu(s:jt)(x:Nat):PS:=⟨131,true,[(4,.e (iP x)),(3,.box 3 0),(1,.box 1 0)],[(3,.cells 25 [iP s.iw,jK s.ig,jM s.iC]),(1,.cells 28 [iP s.iw,jK s.ig,jM s.iC,iP s.iG,iD s.params])]⟩
def YA(s:jt)(N:Nat)(x:Nat):PS:=⟨131,true,[(5,.e (iP x)),(3,.box 3 0),(1,.box 1 0)],[(3,.cells 25 [iP s.iw,jK s.ig,jM s.iC]),(1,.cells 28 [iP s.iw,jK s.ig,jM s.iC,iP s.iG,iD s.params])]⟩
def Yv(s:jt)(x:Nat):PS:=⟨131,true,[(4,.e (iP x)),(3,.box 3 0),(1,.box 1 0)],[(3,.cells 25 [iP s.iw,jK s.ig,jM s.iC]),(1,.cells 28 [iP s.iw,jK s.ig,jM s.iC,iP s.iG,iD s.params])]⟩
def YB(s:jt)(N:Nat)(x:Nat):PS:=⟨131,true,[(5,.e (iP x)),(3,.box 3 0),(1,.box 1 0)],[(3,.cells 25 [iP s.iw,jK s.ig,jM s.iC]),(1,.cells 28 [iP s.iw,jK s.ig,jM s.iC,iP s.iG,iD s.params])]⟩
def Yw(s:jt)(x:Nat):PS:=⟨131,true,[(4,.e (iP x)),(3,.box 3 0),(1,.box 1 0)],[(3,.cells 25 [iP s.iw,jK s.ig,jM s.iC]),(1,.cells 28 [iP s.iw,jK s.ig,jM s.iC,iP s.iG,iD s.params])]⟩
def YC(s:jt)(x:Nat):PS:=⟨131,true,[(5,.e (iP x)),(3,.box 3 0),(1,.box 1 0)],[(3,.cells 25 [iP s.iw,jK s.ig,jM s.iC]),(1,.cells 28 [iP s.iw,jK s.ig,jM s.iC,iP s.iG,iD s.params])]⟩
def YD(s:jt)(N:Nat)(x:Nat):PS:=⟨131,true,[(6,.e (iP x)),(1,.box 1 0)],[(1,.cells 28 [iP s.iw,jK s.ig,jM s.iC,iP s.iG,iD s.params])]⟩
def Yx(s:jt)(x:Nat):PS:=⟨131,true,[(4,.e (iP x)),(3,.box 3 0),(1,.box 1 0)],[(3,.cells 25 [iP s.iw,jK s.ig,jM s.iC]),(1,.cells 28 [iP s.iw,jK s.ig,jM s.iC,iP s.iG,iD s.params])]⟩
def YE(s:jt)(x:Nat):PS:=⟨131,true,[(5,.e (iP x)),(3,.box 3 0),(1,.box 1 0)],[(3,.cells 25 [iP s.iw,jK s.ig,jM s.iC]),(1,.cells 28 [iP s.iw,jK s.ig,jM s.iC,iP s.iG,iD s.params])]⟩
def YF(s:jt)(N:Nat)(x:Nat):PS:=⟨131,true,[(6,.e (iP x)),(1,.box 1 0)],[(1,.cells 28 [iP s.iw,jK s.ig,jM s.iC,iP s.iG,iD s.params])]⟩
def Yy(s:jt)(x:Nat):PS:=⟨131,true,[(4,.e (iP x)),(3,.box 3 0),(1,.box 1 0)],[(3,.cells 25 [iP s.iw,jK s.ig,jM s.iC]),(1,.cells 28 [iP s.iw,jK s.ig,jM s.iC,iP s.iG,iD s.params])]⟩
def YG(s:jt)(x:Nat):PS:=⟨131,true,[(5,.e (iP x)),(3,.box 3 0),(1,.box 1 0)],[(3,.cells 25 [iP s.iw,jK s.ig,jM s.iC]),(1,.cells 28 [iP s.iw,jK s.ig,jM s.iC,iP s.iG,iD s.params])]⟩
def YH(s:jt)(x:Nat):PS:=⟨131,true,[(6,.e (iP x)),(1,.box 1 0)],[(1,.cells 28 [iP s.iw,jK s.ig,jM s.iC,iP s.iG,iD s.params])]⟩
def afH(a b N:Nat)(ha:a<18446744073709551616)(hb:b<18446744073709551616)(jc:∀ k,k<N->(mN a b k).2≠0)(hN:(mN a b N).2=0):ie 256 [.v (.int .u64 (a:Int)),.v (.int .u64 (b:Int))] (.v (.int .u64 (((mN a b N).1:Nat):Int))):=
 ak call256 func256 (af [.s (Sp.jT (Ug a b) 0 N aC (λx hx lJ=>by
    have mr:=jc x aC;exact iL (ae [ah 6 ((((mN a b x).2:Nat):Int) != 0) (Xm (jc x aC)),.a (aC:0<((((mN a b x).2:Nat):Int):Int))]<|.e (af [.o 0 (.int aP:aj (.v (.int .u64 (((mN a b x).2:Nat):Int))) (.v (.int .u64 (((mN a b (x+1)).1:Nat):Int)))),.o 1 (.int aP:aj (.v (.int .u64 ((((mN a b x).1)%((mN a b x).2):Nat):Int))) (.v (.int .u64 (((mN a b (x+1)).2:Nat):Int))))])) aF)
  (λhx=>by
    exact iL (af [ai 6 ((((mN a b N).2:Nat):Int) != 0) (Xl hN)]) aF) aI:jS 1 f256 (Ug a b 0) (.exit 0) ⟨12,true,[(0,.e (.v (.int .u64 (((mN a b N).1:Nat):Int))))],[]⟩) (af [.o 0 (.int aP:aj (.v (.int .u64 (a:Int))) (.v (.int .u64 (((mN a b 0).1:Nat):Int)))),.o 1 (.int aP:aj (.v (.int .u64 (b:Int))) (.v (.int .u64 (((mN a b 0).2:Nat):Int))))])]) 
def afI(a b:Nat)(ha:a<18446744073709551616)(hb:b<18446744073709551616):ie 256 [.v (.int .u64 (a:Int)),.v (.int .u64 (b:Int))] (.v (.int .u64 (Nat.gcd a b:Int))):=by
 obtain⟨N,h1,h2⟩:=Tz b a;have hg:=Nn a b N;rw[h2,Nat.gcd_zero_right]at hg;rw[<-hg];exact afH a b N ha hb h1 h2
def amP(m:Nat)(h:m<=1073741824):ie 257 [iP m] (.v (.int .u64 (m:Int))):=
 ak call257 func257 (af [tF 4 ((m:Int)<0) aC,.o 11 (.int (sR _ aC):aj (.v (.int .u64 (IntKind.u64.wrap (m:Int)))) (.v (.int .u64 (m:Int))))]) 
def amN(m:Nat)(h0:0<m)(h:m<=1073741824):ie 257 [iP (-(m:Int))] (.v (.int .u64 (m:Int))):=
 ak call257 func257 (ae [tT 4 ((-(m:Int))<0) aC,iF ((-(m:Int))+1) aC,iF (0-((-(m:Int))+1)) aC,.o 7 (aq (0-((-(m:Int))+1)) ((m-1:Nat):Int) aC),.o 8 (.int (sR _ aC):aj (.v (.int .u64 (IntKind.u64.wrap ((m-1:Nat):Int)))) (.v (.int .u64 ((m-1:Nat):Int)))),Cx (((m-1:Nat):Int)+1) aC]<|rQ (.v (.int .u64 (((m-1)+1:Nat):Int))) (.v (.int .u64 (m:Int))) (by rw[(aC:m-1+1=m)])) 
def amO(n:Int)(h1:-1073741824<=n)(h2:n<=1073741824):ie 257 [iP n] (.v (.int .u64 (n.natAbs:Int))):=by
 by_cases h:0<=n
 .obtain ⟨m,rfl⟩:=fU h;exact amP m aC 
 .obtain ⟨m,rfl⟩:∃ m:Nat,n = -(m:Int):=⟨n.natAbs,aC⟩
  rw[gK,fi];exact amN m aC aC 
def Yf(n d:Int):ie 217 [.agg [iP n,iP d]] (bP (nO n d)):=
 ak call217 func217 (.w (1<=d)
  (λk1=>ae [tB 5 (bC k1)]<|.w (d<=1073741824)
   (λk2=>ae [tB 9 (bC k2)]<|.w ((-1073741824)<=n)
    (λk3=>ae [tB 14 (bC k3)]<|.w (n<=1073741824)
     (λk4=>ae [tB 19 (bC k4),ag [iP n] (amO _ aC aC),.o 27 (.int (an4 aC aC):aj (.v (.int .u64 (IntKind.u64.wrap d))) (.v (.int .u64 (Int.natAbs d:Int)))),.c (afI (Int.natAbs n) (Int.natAbs d) aC aC)]<|rQ (bP ((Nat.gcd (Int.natAbs n) (Int.natAbs d):Int)==1)) (bP (nO n d)) (by unfold nO;simp[zP,k1,k2,k3,k4]))
     (λk4=>ae [tB 19 (bD k4)]<|rQ (bP false) (bP (nO n d)) (by unfold nO;simp[zP,k1,k2,k3,k4])))
    (λk3=>ae [tB 14 (bD k3)]<|rQ (bP false) (bP (nO n d)) (by unfold nO;simp[zP,k1,k2,k3])))
   (λk2=>ae [tB 9 (bD k2)]<|rQ (bP false) (bP (nO n d)) (by unfold nO;simp[zP,k1,k2])))
  (λk1=>ae [tB 5 (bD k1)]<|rQ (bP false) (bP (nO n d)) (by unfold nO;simp[zP,k1]))) 
def D0(o:mO)(m:Int)(g:o.iW):ie 161 [uT o,iP m] (bP (jb o m)):=
 ak call161 func161 (.w (o.kind=1)
  (λk1=>ae [tB 13 (bn k1),.c (Yf o.cn o.cd)]<|.w (nO o.cn o.cd=true)
   (λk2=>ae [tB 19 k2,ai 47 (decide ((0:Int)<0)) aE,ai 52 (decide ((1:Int)<0)) aE,.g (zS g.kind g.a g.b g.n g.cn g.cd g.kind kT kT kT g.cn g.cd:oJ prog .eql 107 (uT o) (.agg [iP o.kind,iP 0,iP 0,iP 0,iP o.cn,iP o.cd]) (.bool (decide (o.kind=o.kind/\o.a=0/\o.b=0/\o.n=0/\o.cn=o.cn/\o.cd=o.cd))))]<|.w (o.kind=o.kind/\o.a=0/\o.b=0/\o.n=0/\o.cn=o.cn/\o.cd=o.cd)
    (λk3=>ae [tB 58 (bC k3),ah 61 ((0:Int)==0) aE]<|rQ (bP true) (bP (jb o m)) nv)
    (λk3=>ae [tB 58 (bD k3)]<|rQ (bP false) (bP (jb o m)) nv))
   (λk2=>ae [tB 19 (bt k2)]<|rQ (bP false) (bP (jb o m)) nv))
  (λk1=>ae [tB 13 (bk k1),.j 42 ⟨85,true,[(21,.e (bP (decide (3<=o.kind/\o.kind<=6)))),(11,.e (iP o.kind)),(6,.box 6 0),(2,.box 2 0),(1,.e (iP m))],[(6,.cells 107 [iP o.kind,iP 0,iP 0,iP 0,iP 0,iP 0]),(2,.cells 107 [iP o.kind,iP o.a,iP o.b,iP o.n,iP o.cn,iP o.cd])]⟩
   (.w (o.kind=3)
    (λm1=>ae [.v 21 (.bool (bn m1))]<|.e (af [tB 21 (px aJ:true=(decide (3<=o.kind/\o.kind<=6)))]))
    (λm1=>ae [.v 21 (.bool (bk m1))]<|.w (o.kind=4)
     (λm2=>ae [tB 23 (bn m2)]<|.e (af [tB 21 (px aJ:true=(decide (3<=o.kind/\o.kind<=6)))]))
     (λm2=>ae [tB 23 (bk m2)]<|.w (o.kind=5)
      (λm3=>ae [tB 24 (bn m3)]<|.e (af [tB 21 (px aJ:true=(decide (3<=o.kind/\o.kind<=6)))]))
      (λm3=>ae [tB 24 (bk m3)]<|.e (af [tB 21 (px aJ:(o.kind==6)=(decide (3<=o.kind/\o.kind<=6)))])))))]<|.w (3<=o.kind/\o.kind<=6)
   (λk2=>ae [.v 21 (.bool (bC k2)),ah 47 (decide ((0:Int)<2)) aE,ah 52 (decide ((1:Int)<2)) aE,.g (zS g.kind g.a g.b g.n g.cn g.cd g.kind g.a g.b kT kT kT:oJ prog .eql 107 (uT o) (.agg [iP o.kind,iP o.a,iP o.b,iP 0,iP 0,iP 0]) (.bool (decide (o.kind=o.kind/\o.a=o.a/\o.b=o.b/\o.n=0/\o.cn=0/\o.cd=0))))]<|.w (o.kind=o.kind/\o.a=o.a/\o.b=o.b/\o.n=0/\o.cn=0/\o.cd=0)
    (λk3=>ae [tB 58 (bC k3),ai 61 ((2:Int)==0) aE]<|.w (0<=o.a)
     (λk4=>ae [tB 65 (bC k4)]<|.w (o.a<m)
      (λk5=>ae [tB 70 (bC k5)]<|.w (0<=o.b)
       (λk6=>ae [tB 75 (bC k6)]<|rQ (bP (decide (o.b<m))) (bP (jb o m)) nv)
       (λk6=>ae [tB 75 (bD k6)]<|rQ (bP false) (bP (jb o m)) nv))
      (λk5=>ae [tB 70 (bD k5)]<|rQ (bP false) (bP (jb o m)) nv))
     (λk4=>ae [tB 65 (bD k4)]<|rQ (bP false) (bP (jb o m)) nv))
    (λk3=>ae [tB 58 (bD k3)]<|rQ (bP false) (bP (jb o m)) nv))
   (λk2=>ae [.v 21 (.bool (bD k2)),.j 52 ⟨85,true,[(26,.e (bP (decide (o.kind=7\/9<=o.kind/\o.kind<=13)))),(11,.e (iP o.kind)),(6,.box 6 0),(2,.box 2 0),(1,.e (iP m))],[(6,.cells 107 [iP o.kind,iP 0,iP 0,iP 0,iP 0,iP 0]),(2,.cells 107 [iP o.kind,iP o.a,iP o.b,iP o.n,iP o.cn,iP o.cd])]⟩
   (.w (o.kind=7)
    (λm1=>ae [.v 26 (.bool (bn m1))]<|.e (af [tB 26 (px aJ:true=(decide (o.kind=7\/9<=o.kind/\o.kind<=13)))]))
    (λm1=>ae [.v 26 (.bool (bk m1))]<|.w (o.kind=9)
     (λm2=>ae [tB 28 (bn m2)]<|.e (af [tB 26 (px aJ:true=(decide (o.kind=7\/9<=o.kind/\o.kind<=13)))]))
     (λm2=>ae [tB 28 (bk m2)]<|.w (o.kind=10)
      (λm3=>ae [tB 29 (bn m3)]<|.e (af [tB 26 (px aJ:true=(decide (o.kind=7\/9<=o.kind/\o.kind<=13)))]))
      (λm3=>ae [tB 29 (bk m3)]<|.w (o.kind=11)
       (λm4=>ae [tB 30 (bn m4)]<|.e (af [tB 26 (px aJ:true=(decide (o.kind=7\/9<=o.kind/\o.kind<=13)))]))
       (λm4=>ae [tB 30 (bk m4)]<|.w (o.kind=12)
        (λm5=>ae [tB 31 (bn m5)]<|.e (af [tB 26 (px aJ:true=(decide (o.kind=7\/9<=o.kind/\o.kind<=13)))]))
        (λm5=>ae [tB 31 (bk m5)]<|.e (af [tB 26 (px aJ:(o.kind==13)=(decide (o.kind=7\/9<=o.kind/\o.kind<=13)))])))))))]<|.w (o.kind=7\/9<=o.kind/\o.kind<=13)
    (λk3=>ae [.v 26 (.bool (bC k3)),ah 47 (decide ((0:Int)<1)) aE,ai 52 (decide ((1:Int)<1)) aE,.g (zS g.kind g.a g.b g.n g.cn g.cd g.kind g.a kT kT kT kT:oJ prog .eql 107 (uT o) (.agg [iP o.kind,iP o.a,iP 0,iP 0,iP 0,iP 0]) (.bool (decide (o.kind=o.kind/\o.a=o.a/\o.b=0/\o.n=0/\o.cn=0/\o.cd=0))))]<|.w (o.kind=o.kind/\o.a=o.a/\o.b=0/\o.n=0/\o.cn=0/\o.cd=0)
     (λk4=>ae [tB 58 (bC k4),ai 61 ((1:Int)==0) aE]<|.w (0<=o.a)
      (λk5=>ae [tB 65 (bC k5)]<|.w (o.a<m)
       (λk6=>ae [tB 70 (bC k6)]<|.w (0<=o.b)
        (λk7=>ae [tB 75 (bC k7)]<|rQ (bP (decide (o.b<m))) (bP (jb o m)) nv)
        (λk7=>ae [tB 75 (bD k7)]<|rQ (bP false) (bP (jb o m)) nv))
       (λk6=>ae [tB 70 (bD k6)]<|rQ (bP false) (bP (jb o m)) nv))
      (λk5=>ae [tB 65 (bD k5)]<|rQ (bP false) (bP (jb o m)) nv))
     (λk4=>ae [tB 58 (bD k4)]<|rQ (bP false) (bP (jb o m)) nv))
    (λk3=>ae [.v 26 (.bool (bD k3))]<|.w (o.kind=8)
     (λk4=>ae [tB 34 (bn k4)]<|.w (o.n<0)
      (λk5=>ae [tB 40 (bC k5)]<|rQ (bP false) (bP (jb o m)) nv)
      (λk5=>ae [tB 40 (bD k5)]<|.w (16<o.n)
       (λk6=>ae [tB 44 (bC k6)]<|rQ (bP false) (bP (jb o m)) nv)
       (λk6=>ae [tB 44 (bD k6),ah 47 (decide ((0:Int)<1)) aE,ai 52 (decide ((1:Int)<1)) aE,.g (zS g.kind g.a g.b g.n g.cn g.cd g.kind g.a kT g.n kT kT:oJ prog .eql 107 (uT o) (.agg [iP o.kind,iP o.a,iP 0,iP o.n,iP 0,iP 0]) (.bool (decide (o.kind=o.kind/\o.a=o.a/\o.b=0/\o.n=o.n/\o.cn=0/\o.cd=0))))]<|.w (o.kind=o.kind/\o.a=o.a/\o.b=0/\o.n=o.n/\o.cn=0/\o.cd=0)
        (λk7=>ae [tB 58 (bC k7),ai 61 ((1:Int)==0) aE]<|.w (0<=o.a)
         (λk8=>ae [tB 65 (bC k8)]<|.w (o.a<m)
          (λk9=>ae [tB 70 (bC k9)]<|.w (0<=o.b)
           (λk10=>ae [tB 75 (bC k10)]<|rQ (bP (decide (o.b<m))) (bP (jb o m)) nv)
           (λk10=>ae [tB 75 (bD k10)]<|rQ (bP false) (bP (jb o m)) nv))
          (λk9=>ae [tB 70 (bD k9)]<|rQ (bP false) (bP (jb o m)) nv))
         (λk8=>ae [tB 65 (bD k8)]<|rQ (bP false) (bP (jb o m)) nv))
        (λk7=>ae [tB 58 (bD k7)]<|rQ (bP false) (bP (jb o m)) nv))))
     (λk4=>ae [tB 34 (bk k4)]<|rQ (bP false) (bP (jb o m)) nv))))) 
def Xj(L:List Nat):((L.length:Int)=0)↔L=[]:=by rw[<-apZ];omega
def zB(d:RD):Bool:=!d.neg&&decide (d.L=[])&&(d.e==0)
def I5{d:RD}:zB d=true↔d.Zero:=by simp[zB,RD.Zero,and_assoc]
def Iy(d:RD):ie 165 [jj d] (bP (zB d)):=
 ak call165 func165 (.w (d.neg=true)
  (λk1=>ae [tB 4 k1]<|rQ (bP false) (bP (zB d)) (by simp[zB,k1]))
  (λk1=>ae [tB 4 (bt k1)]<|.w ((d.L.length:Int)=0)
   (λk2=>ae [tB 10 (bn k2)]<|rQ (bP (d.e==0)) (bP (zB d)) (by simp[zB,k1,show d.L=[]from(Xj _).1 k2]))
   (λk2=>ae [tB 10 (bk k2)]<|rQ (bP false) (bP (zB d)) (by simp[zB,k1,show ¬d.L=[]from λq=>k2 ((Xj _).2 q)])))) 
def yM(x:RI)(g:x.iW):ie 90 [wP x] (bP (oW x)):=by
 have ga:=g.lo;have gb:=g.hi;by_cases ha:x.all=true
 .have nb:∀ q:x.all=false,False:=λq=>by rw[ha]at q;cases q
  by_cases h1:x.lo.Zero
  .by_cases h2:x.hi.Zero
   .rw [uh.2 (.inl ⟨ha,h1,h2⟩)];exact ak call90 func90 (af [ah 4 x.all ha,.c (Iy x.lo),ah 7 (zB x.lo) (I5.2 h1),.c (Iy x.hi),ah 11 (zB x.hi) (I5.2 h2)]) 
   .have e:oW x=false:=by simpa using λq=>(uh.1 q).elim (λq=>h2 q.2.2) λq=>nb q.1
    rw[e];exact ak call90 func90 (af [ah 4 x.all ha,.c (Iy x.lo),ah 7 (zB x.lo) (I5.2 h1),.c (Iy x.hi),ai 11 (zB x.hi) (bt λq=>h2 (I5.1 q))]) 
  .have e:oW x=false:=by simpa using λq=>(uh.1 q).elim (λq=>h1 q.2.1) λq=>nb q.1
   rw[e];exact ak call90 func90 (af [ah 4 x.all ha,.c (Iy x.lo),ai 7 (zB x.lo) (bt λq=>h1 (I5.1 q))]) 
 .replace ha:x.all=false:=by simpa using ha
  by_cases h1:x.lo.Ok
  .by_cases h2:x.hi.Ok
   .have v1:=h1.valid;have v2:=h2.valid;have e1:wP x=iy x.iv:=by rw[<-Ho,show x.iv.raw=x by show RI.mk x.lo.dy.raw x.hi.dy.raw x.all=x;rw[h1.eq ga,h2.eq gb]]
    rw[e1];by_cases h3:jf x.lo.dy x.hi.dy<=0
    .rw [uh.2 (.inr ⟨ha,h1,h2,h3⟩)];exact ak call90 func90 (af [ai 4 x.iv.all ha,ag [iz x.iv.lo] (Ln _ aD),ag [iz x.iv.hi] (Ln _ aD),.c (IB x.iv.lo x.iv.hi v1.zK v2.zK),tB 27 (bC h3)]) 
    .have e:oW x=false:=by simpa using λq=>(uh.1 q).elim (λq=>by rw[ha]at q;exact Bool.noConfusion q.1) λq=>h3 q.2.2.2
     rw[e];exact ak call90 func90 (af [ai 4 x.iv.all ha,ag [iz x.iv.lo] (Ln _ aD),ag [iz x.iv.hi] (Ln _ aD),.c (IB x.iv.lo x.iv.hi v1.zK v2.zK),tB 27 (bD h3)]) 
   .have e:oW x=false:=by simpa using λq=>(uh.1 q).elim (λq=>by rw[ha]at q;exact Bool.noConfusion q.1) λq=>h2 q.2.2.1
    rw[e];exact ak call90 func90 (af [ai 4 x.all ha,ag [jj x.lo] (Ll _ aD _ nV),ah 15 (kU x.lo) (nV.2 h1),ag [jj x.hi] (Ll _ aD _ nV),ai 19 (kU x.hi) (bt λq=>h2 (nV.1 q))]) 
  .have e:oW x=false:=by simpa using λq=>(uh.1 q).elim (λq=>by rw[ha]at q;exact Bool.noConfusion q.1) λq=>h1 q.2.1
   rw[e];exact ak call90 func90 (af [ai 4 x.all ha,ag [jj x.lo] (Ll _ aD _ nV),ai 15 (kU x.lo) (bt λq=>h1 (nV.1 q))]) 
def akr(s:jt)(g:s.iW)(sm:s.pq)(hc:¬(0<=s.iw/\s.iw<=8/\s.ig.length<=200/\s.iC.length<=200/\1<=s.iG/\s.iG<=4/\(s.iC.length:Int)=s.iG/\s.params.length<=4/\s.iw=s.iG+(s.params.length:Int))):ie 77 [kz s] (bP false):=by
 have sp:=sm.params;have sq:=sm.ig;exact ak call77 func77 (.w (s.iw<0)
  (λk1=>af [tB 11 (bC k1)])
  (λk1=>ae [tB 11 (bD k1)]<|.w (8<s.iw)
   (λk2=>af [tB 15 (bC k2)])
   (λk2=>ae [tB 15 (bD k2)]<|.w (200<(s.ig.length:Int))
    (λk3=>af [tB 21 (bC k3)])
    (λk3=>ae [tB 21 (bD k3)]<|.w (200<(s.iC.length:Int))
     (λk4=>af [tB 27 (bC k4)])
     (λk4=>ae [tB 27 (bD k4)]<|.w (s.iG<1)
      (λk5=>af [tB 32 (bC k5)])
      (λk5=>ae [tB 32 (bD k5)]<|.w (4<s.iG)
       (λk6=>af [tB 37 (bC k6)])
       (λk6=>ae [tB 37 (bD k6)]<|.w ((s.iC.length:Int)=s.iG)
        (λk7=>ae [tB 45 (bu k7)]<|.w (4<(s.params.length:Int))
         (λk8=>af [tB 51 (bC k8)])
         (λk8=>ae [tB 51 (bD k8),iF (s.iG+(s.params.length:Int)) aC]<|.w (s.iw=(s.iG+(s.params.length:Int)))
          (λk9=>.x (by exact absurd ⟨aC,aC,aC,aC,aC,aC,aC,aC,aC⟩ hc))
          (λk9=>af [tB 62 (bw k9)])))
        (λk7=>af [tB 45 (bw k7)])))))))) 
def aks(s:jt)(g:s.iW)(sm:s.pq)(i0:0<=s.iw)(i8:s.iw<=8)(l1:s.ig.length<=200)(l2:s.iC.length<=200)(s1:1<=s.iG)(s4:s.iG<=4)(e1:(s.iC.length:Int)=s.iG)(e2:s.iw=s.iG+(s.params.length:Int))(p4:s.params.length<=4)(N:Nat)(nJ:N<s.ig.length)(jc:∀ k,k<N->(jb (s.ig.getD k kA) (s.iw+(k:Int)))=true)(hN:(jb (s.ig.getD N kA) (s.iw+(N:Int)))=false):ie 77 [kz s] (bP false):=by
 have sp:=sm.params;have sq:=sm.ig;exact ak call77 func77 (af [tF 11 (s.iw<0) aC,tF 15 (8<s.iw) aC,tF 21 (200<(s.ig.length:Int)) aC,tF 27 (200<(s.iC.length:Int)) aC,tF 32 (s.iG<1) aC,tF 37 (4<s.iG) aC,ai 45 ((s.iC.length:Int) != s.iG) (by simp[e1]),tF 51 (4<(s.params.length:Int)) aC,iF (s.iG+(s.params.length:Int)) aC,ai 62 (s.iw != (s.iG+(s.params.length:Int))) (by simp[e2]),.s (Sp.jT (Yz s N) 0 N aC (λx hx lJ=>by
    have mU:=g.ig x;exact iL (af [tT 68 ((x:Int)<s.ig.length) aC,iX (x:Int) (s.ig.length) aC,iF (s.iw+(x:Int)) aC,.c (D0 (s.ig.getD x kA) (s.iw+(x:Int)) mU),ai 81 (!(jb (s.ig.getD x kA) (s.iw+(x:Int)))) (by rw[jc x aC];rfl),iF ((x:Int)+1) aC]) aF)
  (λhx=>by
    have mU:=g.ig N;exact iL (af [tT 68 ((N:Int)<s.ig.length) aC,iX (N:Int) (s.ig.length) aC,iF (s.iw+(N:Int)) aC,.c (D0 (s.ig.getD N kA) (s.iw+(N:Int)) mU),ah 81 (!(jb (s.ig.getD N kA) (s.iw+(N:Int)))) (by rw[hN];rfl)]) aF) aI:jS 5 Tryz.f77 (Yz s N 0) .ret ⟨131,true,[(2,.e (bP false))],[]⟩) .nil]) 
def akt(s:jt)(g:s.iW)(sm:s.pq)(i0:0<=s.iw)(i8:s.iw<=8)(l1:s.ig.length<=200)(l2:s.iC.length<=200)(s1:1<=s.iG)(s4:s.iG<=4)(e1:(s.iC.length:Int)=s.iG)(e2:s.iw=s.iG+(s.params.length:Int))(p4:s.params.length<=4)(jc:∀ k,k<s.ig.length->(jb (s.ig.getD k kA) (s.iw+(k:Int)))=true)(N:Nat)(nJ:N<s.iC.length)(sJ:∀ k,k<N->0<=(s.iC.getD k 0)/\(s.iC.getD k 0)<s.iw+(s.ig.length:Int))(hN:(s.iC.getD N 0)<0):ie 77 [kz s] (bP false):=by
 have sp:=sm.params;have sq:=sm.ig;exact ak call77 func77 (af [tF 11 (s.iw<0) aC,tF 15 (8<s.iw) aC,tF 21 (200<(s.ig.length:Int)) aC,tF 27 (200<(s.iC.length:Int)) aC,tF 32 (s.iG<1) aC,tF 37 (4<s.iG) aC,ai 45 ((s.iC.length:Int) != s.iG) (by simp[e1]),tF 51 (4<(s.params.length:Int)) aC,iF (s.iG+(s.params.length:Int)) aC,ai 62 (s.iw != (s.iG+(s.params.length:Int))) (by simp[e2]),.s (Sp.jT (Yu s) 0 s.ig.length aC (λx hx lJ=>by
    have mU:=g.ig x;exact iL (af [tT 68 ((x:Int)<s.ig.length) aC,iX (x:Int) (s.ig.length) aC,iF (s.iw+(x:Int)) aC,.c (D0 (s.ig.getD x kA) (s.iw+(x:Int)) mU),ai 81 (!(jb (s.ig.getD x kA) (s.iw+(x:Int)))) (by rw[jc x aC];rfl),iF ((x:Int)+1) aC]) aF)
  (λhx=>by
    exact iL (af [tF 68 ((s.ig.length:Int)<s.ig.length) aC]) aF) aI:jS 5 Tryz.f77 (Yu s 0) (.exit 0) ⟨131,true,[(3,.box 3 0),(1,.box 1 0)],[(3,.cells 25 [iP s.iw,jK s.ig,jM s.iC]),(1,.cells 28 [iP s.iw,jK s.ig,jM s.iC,iP s.iG,iD s.params])]⟩) .nil,.s (Sp.jT (YA s N) 0 N aC (λx hx lJ=>by
    have Kt:=sJ x aC;exact iL (af [tT 86 ((x:Int)<s.iC.length) aC,iX (x:Int) (s.iC.length) aC,tF 94 ((s.iC.getD x 0)<0) aC,iX (x:Int) (s.iC.length) aC,
     iF (s.iw+(s.ig.length:Int)) aC,tF 107 ((s.iw+(s.ig.length:Int))<=(s.iC.getD x 0)) aC,iF ((x:Int)+1) aC]) aF)
  (λhx=>by
    exact iL (af [tT 86 ((N:Int)<s.iC.length) aC,iX (N:Int) (s.iC.length) aC,tB 94 (bC hN)]) aF) aI:jS 10 Tryz.f77 (YA s N 0) .ret ⟨131,true,[(2,.e (bP false))],[]⟩) .nil]) 
def aku(s:jt)(g:s.iW)(sm:s.pq)(i0:0<=s.iw)(i8:s.iw<=8)(l1:s.ig.length<=200)(l2:s.iC.length<=200)(s1:1<=s.iG)(s4:s.iG<=4)(e1:(s.iC.length:Int)=s.iG)(e2:s.iw=s.iG+(s.params.length:Int))(p4:s.params.length<=4)(jc:∀ k,k<s.ig.length->(jb (s.ig.getD k kA) (s.iw+(k:Int)))=true)(N:Nat)(nJ:N<s.iC.length)(sJ:∀ k,k<N->0<=(s.iC.getD k 0)/\(s.iC.getD k 0)<s.iw+(s.ig.length:Int))(hN:0<=(s.iC.getD N 0))(hM:s.iw+(s.ig.length:Int)<=(s.iC.getD N 0)):ie 77 [kz s] (bP false):=by
 have sp:=sm.params;have sq:=sm.ig;exact ak call77 func77 (af [tF 11 (s.iw<0) aC,tF 15 (8<s.iw) aC,tF 21 (200<(s.ig.length:Int)) aC,tF 27 (200<(s.iC.length:Int)) aC,tF 32 (s.iG<1) aC,tF 37 (4<s.iG) aC,ai 45 ((s.iC.length:Int) != s.iG) (by simp[e1]),tF 51 (4<(s.params.length:Int)) aC,iF (s.iG+(s.params.length:Int)) aC,ai 62 (s.iw != (s.iG+(s.params.length:Int))) (by simp[e2]),.s (Sp.jT (Yv s) 0 s.ig.length aC (λx hx lJ=>by
    have mU:=g.ig x;exact iL (af [tT 68 ((x:Int)<s.ig.length) aC,iX (x:Int) (s.ig.length) aC,iF (s.iw+(x:Int)) aC,.c (D0 (s.ig.getD x kA) (s.iw+(x:Int)) mU),ai 81 (!(jb (s.ig.getD x kA) (s.iw+(x:Int)))) (by rw[jc x aC];rfl),iF ((x:Int)+1) aC]) aF)
  (λhx=>by
    exact iL (af [tF 68 ((s.ig.length:Int)<s.ig.length) aC]) aF) aI:jS 5 Tryz.f77 (Yv s 0) (.exit 0) ⟨131,true,[(3,.box 3 0),(1,.box 1 0)],[(3,.cells 25 [iP s.iw,jK s.ig,jM s.iC]),(1,.cells 28 [iP s.iw,jK s.ig,jM s.iC,iP s.iG,iD s.params])]⟩) .nil,.s (Sp.jT (YB s N) 0 N aC (λx hx lJ=>by
    have Kt:=sJ x aC;exact iL (af [tT 86 ((x:Int)<s.iC.length) aC,iX (x:Int) (s.iC.length) aC,tF 94 ((s.iC.getD x 0)<0) aC,iX (x:Int) (s.iC.length) aC,
     iF (s.iw+(s.ig.length:Int)) aC,tF 107 ((s.iw+(s.ig.length:Int))<=(s.iC.getD x 0)) aC,iF ((x:Int)+1) aC]) aF)
  (λhx=>by
    exact iL (af [tT 86 ((N:Int)<s.iC.length) aC,iX (N:Int) (s.iC.length) aC,tF 94 ((s.iC.getD N 0)<0) aC,iX (N:Int) (s.iC.length) aC,
    iF (s.iw+(s.ig.length:Int)) aC,tB 107 (bC hM)]) aF) aI:jS 10 Tryz.f77 (YB s N 0) .ret ⟨131,true,[(2,.e (bP false))],[]⟩) .nil]) 
def akv(s:jt)(g:s.iW)(sm:s.pq)(i0:0<=s.iw)(i8:s.iw<=8)(l1:s.ig.length<=200)(l2:s.iC.length<=200)(s1:1<=s.iG)(s4:s.iG<=4)(e1:(s.iC.length:Int)=s.iG)(e2:s.iw=s.iG+(s.params.length:Int))(p4:s.params.length<=4)(jc:∀ k,k<s.ig.length->(jb (s.ig.getD k kA) (s.iw+(k:Int)))=true)(sJ:∀ k,k<s.iC.length->0<=(s.iC.getD k 0)/\(s.iC.getD k 0)<s.iw+(s.ig.length:Int))(N:Nat)(nJ:N<s.params.length)(yp:∀ k,k<N->oW (s.params.getD k jC)=true/\(s.params.getD k jC).all=false)(hN:(s.params.getD N jC).all=true):ie 77 [kz s] (bP false):=by
 have sp:=sm.params;have sq:=sm.ig;exact ak call77 func77 (af [tF 11 (s.iw<0) aC,tF 15 (8<s.iw) aC,tF 21 (200<(s.ig.length:Int)) aC,tF 27 (200<(s.iC.length:Int)) aC,tF 32 (s.iG<1) aC,tF 37 (4<s.iG) aC,ai 45 ((s.iC.length:Int) != s.iG) (by simp[e1]),tF 51 (4<(s.params.length:Int)) aC,iF (s.iG+(s.params.length:Int)) aC,ai 62 (s.iw != (s.iG+(s.params.length:Int))) (by simp[e2]),.s (Sp.jT (Yw s) 0 s.ig.length aC (λx hx lJ=>by
    have mU:=g.ig x;exact iL (af [tT 68 ((x:Int)<s.ig.length) aC,iX (x:Int) (s.ig.length) aC,iF (s.iw+(x:Int)) aC,.c (D0 (s.ig.getD x kA) (s.iw+(x:Int)) mU),ai 81 (!(jb (s.ig.getD x kA) (s.iw+(x:Int)))) (by rw[jc x aC];rfl),iF ((x:Int)+1) aC]) aF)
  (λhx=>by
    exact iL (af [tF 68 ((s.ig.length:Int)<s.ig.length) aC]) aF) aI:jS 5 Tryz.f77 (Yw s 0) (.exit 0) ⟨131,true,[(3,.box 3 0),(1,.box 1 0)],[(3,.cells 25 [iP s.iw,jK s.ig,jM s.iC]),(1,.cells 28 [iP s.iw,jK s.ig,jM s.iC,iP s.iG,iD s.params])]⟩) .nil,.s (Sp.jT (YC s) 0 s.iC.length aC (λx hx lJ=>by
    have Kt:=sJ x aC;exact iL (af [tT 86 ((x:Int)<s.iC.length) aC,iX (x:Int) (s.iC.length) aC,tF 94 ((s.iC.getD x 0)<0) aC,iX (x:Int) (s.iC.length) aC,
     iF (s.iw+(s.ig.length:Int)) aC,tF 107 ((s.iw+(s.ig.length:Int))<=(s.iC.getD x 0)) aC,iF ((x:Int)+1) aC]) aF)
  (λhx=>by
    exact iL (af [tF 86 ((s.iC.length:Int)<s.iC.length) aC]) aF) aI:jS 10 Tryz.f77 (YC s 0) (.exit 2) ⟨131,true,[(1,.box 1 0)],[(1,.cells 28 [iP s.iw,jK s.ig,jM s.iC,iP s.iG,iD s.params])]⟩) .nil,.s (Sp.jT (YD s N) 0 N aC (λx hx lJ=>by
    have Kg:=g.params x;exact iL (af [tT 113 ((x:Int)<s.params.length) aC,iX (x:Int) (s.params.length) aC,ai 121 ((s.params.getD x jC).all) ((yp x aC).2),
     iX (x:Int) (s.params.length) aC,.c (yM (s.params.getD x jC) aD),ai 129 (!(oW (s.params.getD x jC))) (by rw[(yp x aC).1];rfl),iF ((x:Int)+1) aC]) aF)
  (λhx=>by
    have Kg:=g.params N;exact iL (af [tT 113 ((N:Int)<s.params.length) aC,iX (N:Int) (s.params.length) aC,ah 121 ((s.params.getD N jC).all) hN]) aF) aI:jS 15 Tryz.f77 (YD s N 0) .ret ⟨131,true,[(2,.e (bP false))],[]⟩) .nil]) 
def akw(s:jt)(g:s.iW)(sm:s.pq)(i0:0<=s.iw)(i8:s.iw<=8)(l1:s.ig.length<=200)(l2:s.iC.length<=200)(s1:1<=s.iG)(s4:s.iG<=4)(e1:(s.iC.length:Int)=s.iG)(e2:s.iw=s.iG+(s.params.length:Int))(p4:s.params.length<=4)(jc:∀ k,k<s.ig.length->(jb (s.ig.getD k kA) (s.iw+(k:Int)))=true)(sJ:∀ k,k<s.iC.length->0<=(s.iC.getD k 0)/\(s.iC.getD k 0)<s.iw+(s.ig.length:Int))(N:Nat)(nJ:N<s.params.length)(yp:∀ k,k<N->oW (s.params.getD k jC)=true/\(s.params.getD k jC).all=false)(hN:(s.params.getD N jC).all=false)(hM:oW (s.params.getD N jC)=false):ie 77 [kz s] (bP false):=by
 have sp:=sm.params;have sq:=sm.ig;exact ak call77 func77 (af [tF 11 (s.iw<0) aC,tF 15 (8<s.iw) aC,tF 21 (200<(s.ig.length:Int)) aC,tF 27 (200<(s.iC.length:Int)) aC,tF 32 (s.iG<1) aC,tF 37 (4<s.iG) aC,ai 45 ((s.iC.length:Int) != s.iG) (by simp[e1]),tF 51 (4<(s.params.length:Int)) aC,iF (s.iG+(s.params.length:Int)) aC,ai 62 (s.iw != (s.iG+(s.params.length:Int))) (by simp[e2]),.s (Sp.jT (Yx s) 0 s.ig.length aC (λx hx lJ=>by
    have mU:=g.ig x;exact iL (af [tT 68 ((x:Int)<s.ig.length) aC,iX (x:Int) (s.ig.length) aC,iF (s.iw+(x:Int)) aC,.c (D0 (s.ig.getD x kA) (s.iw+(x:Int)) mU),ai 81 (!(jb (s.ig.getD x kA) (s.iw+(x:Int)))) (by rw[jc x aC];rfl),iF ((x:Int)+1) aC]) aF)
  (λhx=>by
    exact iL (af [tF 68 ((s.ig.length:Int)<s.ig.length) aC]) aF) aI:jS 5 Tryz.f77 (Yx s 0) (.exit 0) ⟨131,true,[(3,.box 3 0),(1,.box 1 0)],[(3,.cells 25 [iP s.iw,jK s.ig,jM s.iC]),(1,.cells 28 [iP s.iw,jK s.ig,jM s.iC,iP s.iG,iD s.params])]⟩) .nil,.s (Sp.jT (YE s) 0 s.iC.length aC (λx hx lJ=>by
    have Kt:=sJ x aC;exact iL (af [tT 86 ((x:Int)<s.iC.length) aC,iX (x:Int) (s.iC.length) aC,tF 94 ((s.iC.getD x 0)<0) aC,iX (x:Int) (s.iC.length) aC,
     iF (s.iw+(s.ig.length:Int)) aC,tF 107 ((s.iw+(s.ig.length:Int))<=(s.iC.getD x 0)) aC,iF ((x:Int)+1) aC]) aF)
  (λhx=>by
    exact iL (af [tF 86 ((s.iC.length:Int)<s.iC.length) aC]) aF) aI:jS 10 Tryz.f77 (YE s 0) (.exit 2) ⟨131,true,[(1,.box 1 0)],[(1,.cells 28 [iP s.iw,jK s.ig,jM s.iC,iP s.iG,iD s.params])]⟩) .nil,.s (Sp.jT (YF s N) 0 N aC (λx hx lJ=>by
    have Kg:=g.params x;exact iL (af [tT 113 ((x:Int)<s.params.length) aC,iX (x:Int) (s.params.length) aC,ai 121 ((s.params.getD x jC).all) ((yp x aC).2),
     iX (x:Int) (s.params.length) aC,.c (yM (s.params.getD x jC) aD),ai 129 (!(oW (s.params.getD x jC))) (by rw[(yp x aC).1];rfl),iF ((x:Int)+1) aC]) aF)
  (λhx=>by
    have Kg:=g.params N;exact iL (af [tT 113 ((N:Int)<s.params.length) aC,iX (N:Int) (s.params.length) aC,ai 121 ((s.params.getD N jC).all) hN,iX (N:Int) (s.params.length) aC,.c (yM (s.params.getD N jC) aD),ah 129 (!(oW (s.params.getD N jC))) (by rw[hM];rfl)]) aF) aI:jS 15 Tryz.f77 (YF s N 0) .ret ⟨131,true,[(2,.e (bP false))],[]⟩) .nil]) 
def akx(s:jt)(g:s.iW)(sm:s.pq)(i0:0<=s.iw)(i8:s.iw<=8)(l1:s.ig.length<=200)(l2:s.iC.length<=200)(s1:1<=s.iG)(s4:s.iG<=4)(e1:(s.iC.length:Int)=s.iG)(e2:s.iw=s.iG+(s.params.length:Int))(p4:s.params.length<=4)(jc:∀ k,k<s.ig.length->(jb (s.ig.getD k kA) (s.iw+(k:Int)))=true)(sJ:∀ k,k<s.iC.length->0<=(s.iC.getD k 0)/\(s.iC.getD k 0)<s.iw+(s.ig.length:Int))(yp:∀ k,k<s.params.length->oW (s.params.getD k jC)=true/\(s.params.getD k jC).all=false):ie 77 [kz s] (bP true):=by
 have sp:=sm.params;have sq:=sm.ig;exact ak call77 func77 (af [tF 11 (s.iw<0) aC,tF 15 (8<s.iw) aC,tF 21 (200<(s.ig.length:Int)) aC,tF 27 (200<(s.iC.length:Int)) aC,tF 32 (s.iG<1) aC,tF 37 (4<s.iG) aC,ai 45 ((s.iC.length:Int) != s.iG) (by simp[e1]),tF 51 (4<(s.params.length:Int)) aC,iF (s.iG+(s.params.length:Int)) aC,ai 62 (s.iw != (s.iG+(s.params.length:Int))) (by simp[e2]),.s (Sp.jT (Yy s) 0 s.ig.length aC (λx hx lJ=>by
    have mU:=g.ig x;exact iL (af [tT 68 ((x:Int)<s.ig.length) aC,iX (x:Int) (s.ig.length) aC,iF (s.iw+(x:Int)) aC,.c (D0 (s.ig.getD x kA) (s.iw+(x:Int)) mU),ai 81 (!(jb (s.ig.getD x kA) (s.iw+(x:Int)))) (by rw[jc x aC];rfl),iF ((x:Int)+1) aC]) aF)
  (λhx=>by
    exact iL (af [tF 68 ((s.ig.length:Int)<s.ig.length) aC]) aF) aI:jS 5 Tryz.f77 (Yy s 0) (.exit 0) ⟨131,true,[(3,.box 3 0),(1,.box 1 0)],[(3,.cells 25 [iP s.iw,jK s.ig,jM s.iC]),(1,.cells 28 [iP s.iw,jK s.ig,jM s.iC,iP s.iG,iD s.params])]⟩) .nil,.s (Sp.jT (YG s) 0 s.iC.length aC (λx hx lJ=>by
    have Kt:=sJ x aC;exact iL (af [tT 86 ((x:Int)<s.iC.length) aC,iX (x:Int) (s.iC.length) aC,tF 94 ((s.iC.getD x 0)<0) aC,iX (x:Int) (s.iC.length) aC,
     iF (s.iw+(s.ig.length:Int)) aC,tF 107 ((s.iw+(s.ig.length:Int))<=(s.iC.getD x 0)) aC,iF ((x:Int)+1) aC]) aF)
  (λhx=>by
    exact iL (af [tF 86 ((s.iC.length:Int)<s.iC.length) aC]) aF) aI:jS 10 Tryz.f77 (YG s 0) (.exit 2) ⟨131,true,[(1,.box 1 0)],[(1,.cells 28 [iP s.iw,jK s.ig,jM s.iC,iP s.iG,iD s.params])]⟩) .nil,.s (Sp.jT (YH s) 0 s.params.length aC (λx hx lJ=>by
    have Kg:=g.params x;exact iL (af [tT 113 ((x:Int)<s.params.length) aC,iX (x:Int) (s.params.length) aC,ai 121 ((s.params.getD x jC).all) ((yp x aC).2),
     iX (x:Int) (s.params.length) aC,.c (yM (s.params.getD x jC) aD),ai 129 (!(oW (s.params.getD x jC))) (by rw[(yp x aC).1];rfl),iF ((x:Int)+1) aC]) aF)
  (λhx=>by
    exact iL (af [tF 113 ((s.params.length:Int)<s.params.length) aC]) aF) aI:jS 15 Tryz.f77 (YH s 0) (.exit 4) ⟨131,true,[],[]⟩) .nil]) 
def aky(s:jt)(g:s.iW)(sm:s.pq):ie 77 [kz s] (bP (qb s)):=by
 by_cases hc:0<=s.iw/\s.iw<=8/\s.ig.length<=200/\s.iC.length<=200/\1<=s.iG/\s.iG<=4/\(s.iC.length:Int)=s.iG/\s.params.length<=4/\s.iw=s.iG+(s.params.length:Int)
 rotate_left
 .rw [show qb s=false from alM hc];exact akr s g sm hc
 obtain⟨i0,i8,l1,l2,s1,s4,e1,p4,e2⟩:=hc;by_cases c2:FK s=true
 rotate_left
 .rw [show qb s=false by unfold qb;rw[bt c2];simp];obtain⟨N,n1,n2,n3⟩:=xR c2;exact aks s g sm i0 i8 l1 l2 s1 s4 e1 e2 p4 N n1 (λk hk=>by simpa using n3 k hk) (by simpa using n2)
 have jc:∀ k,k<s.ig.length->jb (s.ig.getD k kA) (s.iw+(k:Int))=true:=λk hk=>bU.1 c2 k (b6.2 hk)
 by_cases c3:s7 s=true
 rotate_left
 .rw [show qb s=false by unfold qb;rw[bt c3];simp];obtain⟨N,n1,n2,n3⟩:=xR c3;have sJ:∀ k,k<N->0<=s.iC.getD k 0/\s.iC.getD k 0<s.iw+(s.ig.length:Int):=λk hk=>by simpa[rU]using n3 k hk
  have hN:¬(0<=s.iC.getD N 0/\s.iC.getD N 0<s.iw+(s.ig.length:Int)):=λq=>by
   rw[show rU s (s.iC.getD N 0)=true from bC q]at n2;cases n2
  by_cases h0:s.iC.getD N 0<0
  .exact akt s g sm i0 i8 l1 l2 s1 s4 e1 e2 p4 jc N n1 sJ h0
  .exact aku s g sm i0 i8 l1 l2 s1 s4 e1 e2 p4 jc N n1 sJ aC aC 
 have sJ:∀ k,k<s.iC.length->0<=s.iC.getD k 0/\s.iC.getD k 0<s.iw+(s.ig.length:Int):=λk hk=>by simpa[rU]using List.all_eq_true.1 c3 k (b6.2 hk)
 by_cases c4:FM s=true
 .rw [show qb s=true by unfold qb;rw[bC (⟨i0,i8,l1,l2⟩:_/\_),c2,c3,bC (⟨s1,s4,e1,e2,p4⟩:_/\_),c4];rfl];exact akx s g sm i0 i8 l1 l2 s1 s4 e1 e2 p4 jc sJ λk hk=>by simpa[nN]using List.all_eq_true.1 c4 k (b6.2 hk)
 .rw [show qb s=false by unfold qb;rw[bt c4];simp];obtain⟨N,n1,n2,n3⟩:=xR c4;have yp:∀ k,k<N->oW (s.params.getD k jC)=true/\(s.params.getD k jC).all=false:=λk hk=>by simpa[nN]using n3 k hk
  cases ha:(s.params.getD N jC).all with
  |true=>exact akv s g sm i0 i8 l1 l2 s1 s4 e1 e2 p4 jc sJ N n1 yp ha
  |false=>exact akw s g sm i0 i8 l1 l2 s1 s4 e1 e2 p4 jc sJ N n1 yp ha (by
   cases hk:oW (s.params.getD N jC)with
   |false=>rfl
   |true=>rw[show nN (s.params.getD N jC)=true by unfold nN;rw[hk,ha];rfl]at n2;cases n2)
def ahj:(prog.info? 26).map (λi=>(i.zero,i.size,i.bytes))=some (some (.slice none 0 0),1,24):= aF 
def aaY(n:Nat):∀ u,u ∈ Builtin.zeroCells (Value.cells (.slice none 0 0)) n->qI u=false:=by
 intro u hu;simp only[Builtin.zeroCells,gH,gI]at hu;obtain⟨q,hq,rfl⟩:=hu;have hc:Value.cells (.slice none 0 0) = #[.slice none 0 0]:=rfl;rw[hc]at hq ⊢;have hs:(#[Value.slice none 0 0]:Array Value).size=1:=rfl;rw[hs,dZ];rfl
set_option maxRecDepth 100000 in
def Uk(n:Nat)(hn:n<=1000000):vS prog Tb 129 [.v (.slice none 0 0),iP (n:Int)] true 26 0 1 (λ_ _=>.any):=by
 refine⟨call129,λw B vs hK hB hr=>?_⟩;obtain⟨v1,vs,rfl,h1,hr⟩:=hr.ni;obtain⟨v2,vs,rfl,h2,hr⟩:=hr.ni;obtain rfl:=hr.rS;obtain rfl:=iQ.kX h1;obtain rfl:=iQ.kX h2;show Calls _ _ #[.slice none 0 0,.int .i64 (n:Int)] w _;clear h1 h2 hr hB hK;by_cases h0:n=0
 .subst h0;go_enter func129,ntmps129;go_wp2;go_ret;exact⟨_,rfl,Below.refl _ _,λ_ _=>undef,.inl ⟨rfl,rfl⟩,λx hx=>by simp[Value.ownBlock]at hx,λi j hi=>absurd hi (bG _)⟩
 .obtain ⟨i,hi,hz,h1,h2⟩:=info_parts ahj;have hw:IntKind.i64.wrap ((n:Int)-0)=n:=i64_in _ aC aC;have OV:IntKind.i64.wrap (n:Int)=n:=i64_in _ aC aC;have e2:decide ((n:Int)<0)=false:=bD aC;have e3:decide ((0:Int)<n)=true:=bC aC;have EX:n<=grownCap w n 0 26:=grownCap_ge w n 0 _;go_enter func129,ntmps129;go_wp2_with (at_builtin;go_must (refine aoz aG _ _ _ _ aG _ i _ underlying72 underlying3 hi hz aC n aC aC (by rw[h2];omega) aG aG ?_))
  go_ret;have xw:(Value.cells (.slice none 0 0)).size=1:=rfl;refine⟨_,rfl,abn w _,λ_ _=>undef,.inr ⟨w.heap.size,grownCap w n 0 26,_,rfl,heap_alloc_new w _,cj _,grownCap_le_maxLen w n 0 _ (by unfold maxLen;omega),?_,λi j hi=>absurd hi (bG _),λ_ u hu=>?_⟩,λx hx=>?_,λi j hi=>absurd hi (bG _)⟩
  .simp only[apL,size_zeroCells,xw,<-cr];congr 1;omega
  .rcases fL.1 hu with hu|hu
   .exact aaY _ u hu
   .exact aaY _ u hu
  .simp [Value.ownBlock]at hx;subst hx;exact⟨bF _,abo w _⟩
end Go.Proofs.YtgdahmmlddfimaaGreatDoor
namespace Go.Proofs.YtgdahmmlddfimaaGreatDoor.Fp
def adm{s:Bool}{m:Nat}{e:Int}(hm:iB m<=60000)(mP:-60000<=e)(lZ:e<=60000):(ij (canon s m e).m).length<=2900 /\ -200000<=(canon s m e).e/\(canon s m e).e<=200000:=by
 by_cases h0:m=0
 .subst h0;rw[Ez];exact⟨by rw[show iS.m=0 from rfl,oV];decide,aE,aE⟩
 .obtain ⟨h1,h2,h3,h4⟩:=CX (s:=s) (e:=e) h0;have h5:=pF h3;exact⟨WG aC,aC,aC⟩
def XI{a:Dy}{k:Int}(h:k<=a.e):iB (a.num k).natAbs<=iB a.m+(a.e-k).toNat:=by
 have e:(a.num k).natAbs=a.m*2^(a.e-k).toNat:=by
  unfold Dy.num Dy.kG;split
  .rw [gK];exact fi _
  .exact fi _
 rw[e];by_cases h0:a.m=0
 .rw [h0,dc];exact cj _
 .rw [sC h0];exact bF _
def apk{a b:Dy}(ha:a.ix)(hb:b.ix):(ij (iH a b).m).length<=2900 /\ -200000<=(iH a b).e/\(iH a b).e<=200000:=by
 have h1:=ha.bits;have h2:=hb.bits;have h3:=ha.exp;have h4:=hb.exp;have la:=ha.len;have lb:=hb.len;unfold iH;split
 .exact ⟨aC,aC,aC⟩
 .split
  .exact ⟨aC,aC,aC⟩
  .have g1:=XI (a:=a) (k:=min a.e b.e) aC ;have g2:=XI (a:=b) (k:=min a.e b.e) aC;refine adm ?_ aC aC;obtain⟨K,hK⟩:∃ K,K=40000:=⟨_,rfl⟩
   have g3:=mK.1 (bH g1 (aC:iB a.m+(a.e-min a.e b.e).toNat<=K));have g4:=mK.1 (bH g2 (aC:iB b.m+(b.e-min a.e b.e).toNat<=K));refine bH ((mK (k:=K+1)).2 ?_) (aC:K+1<=60000);have g5:(a.num (min a.e b.e)+b.num (min a.e b.e)).natAbs<=(a.num (min a.e b.e)).natAbs+(b.num (min a.e b.e)).natAbs:=Int.natAbs_add_le _ _;rw[bS];generalize 2^K=P at *
   omega
def adL{a b:Dy}(ha:a.ix)(hb:b.ix)(h:jf a b=0):a=b:=by
 have h1:qx a (min a.e b.e):=.inr aC;have h2:qx b (min a.e b.e):=.inr aC;rw[EA h1 h2]at h;refine Nj ha.canon hb.canon h1 h2 ?_;unfold xV at h;split at h
 .omega
 .split at h<;>omega
end Go.Proofs.YtgdahmmlddfimaaGreatDoor.Fp
namespace Go.Proofs.YtgdahmmlddfimaaGreatDoor
open Go.RowKit Fp Pu
def acC(x:RI)(g:x.iW):ie 181 [wP x] (bP (!nN x)):=
 ak call181 func181 (.w (x.all=true)
  (λk1=>ae [tB 4 k1]<|rQ (bP true) (bP (!nN x)) (jL (by unfold nN;simp_all)))
  (λk1=>ae [tB 4 (bt k1),ag [wP x] (ahK _ g)]<|rQ (bP (!(oW x))) (bP (!nN x)) (jL (by unfold nN;simp_all)))) 
noncomputable def k0(b:List RI):Bool:=decide (1<=b.length/\b.length<=8)&&(List.range b.length).all λi=>nN (b.getD i jC)
def Gh(b:List RI)(gb:∀ i,(b.getD i jC).iW)(At:b.length<=1000):ie 106 [iD b] (bP (k0 b)):=
 ak call106 func106 (.w (1<=(b.length:Int))
  (λk1=>ae [tB 5 (bC k1)]<|.w ((b.length:Int)<=8)
   (λk2=>ae [tB 9 (bC k2),.c (XX 181 b (λi=>acC _ (gb i)) At:ie 53 [iD b,.fn 181 []] _)]<|rQ (bP (!(!((List.range b.length).all λi=>nN (b.getD i jC))))) (bP (k0 b)) (jL bg))
   (λk2=>ae [tB 9 (bD k2)]<|rQ (bP false) (bP (k0 b)) (jL bg)))
  (λk1=>ae [tB 5 (bD k1)]<|rQ (bP false) (bP (k0 b)) (jL bg))) 
def BN(x:RI):Bool:=decide (20<x.lo.L.length)||decide (20<x.hi.L.length)
def nd(l:List RI):Bool:=decide (10<l.length)||(List.range l.length).any λi=>BN (l.getD i jC)
def C6(d:RD):Bool:=decide (20<d.L.length)
def LC(p:Int):ie 23 [iP p] (bP (nm p)):=
 ak call23 func23 (.w (8<=p)
  (λk1=>ae [tB 4 (bC k1)]<|rQ (bP (decide (p<=512))) (bP (nm p)) (by simp[nm,k1]))
  (λk1=>ae [tB 4 (bD k1)]<|rQ (bP false) (bP (nm p)) (by simp[nm,k1]))) 
def QH(x:Iv)(hx:x.ix):ie 69 [iy x,iy x] (bP true):=by
 obtain⟨w1,w2⟩:=hx.kq;exact ak call69 func69 (af [ah 9 (x.all==x.all) aH,.c (Qq _ _ true ⟨λ_=>rfl,λ_=>rfl⟩ (by have:=w1.ij;omega) (by have:=w1.ij;omega):ie 34 [iz x.lo,iz x.lo] _),.c (Qq _ _ true ⟨λ_=>rfl,λ_=>rfl⟩ (by have:=w2.ij;omega) (by have:=w2.ij;omega):ie 34 [iz x.hi,iz x.hi] _)]) 
noncomputable def oZ(s:jN)(t:ki)(x:List Iv)(p:Nat):Iv:=(Ap t (x++s.params) p).getD 0 il
noncomputable def oK(s:jN)(t:ki)(x:List Iv)(p:Nat):List (List Iv):=rn t (pX s (jm s x p 1) 1) 1 p
noncomputable def AR(s:jN)(t:ki)(x:List Iv)(p:Nat):List Iv:=lq (λi=>((oK s t x p).getD i []).getD 1 il) (oK s t x p).length
noncomputable def ja(s:jN)(t:ki)(x:List Iv)(p:Nat):Iv:=(AR s t x p).getD 0 il
structure oI(s:jN)(t:ki):Prop where
 tape:Af t
 iw:t.iw=s.tape.iw
 one:t.iC.length=1
def s9(dir:Int):Int:=if dir=2 then -1 else 1
def DJ(dir a b c d:Int):Int:=if a≠0\/d = -(s9 dir)then 1 else if d=s9 dir/\b = -(s9 dir)/\c=s9 dir then 3 else 2
noncomputable def aal(t:ki)(xs:List Iv)(p:Nat)(i:Nat):PS:=⟨52,true,[(8,.own 8),(39,.e (iP i)),(38,.e (iP t.iC.length)),(37,.e (mF t.iC)),(7,.e (iu (kj t.ig xs p t.ig.length)))],[(8,.row true 39 i 7 (je ((List.range i).map (λj_=>(kj t.ig xs p t.ig.length).getD (t.iC.getD j_ 0) il))))]⟩
def Wb(s:jN)(M:List (List Iv))(k:Nat)(x:Nat):PS:=⟨43,true,[(7,.own 7),(14,.e (iP x)),(13,.e (iP M.length)),(12,.e (lW M)),(3,.box 3 0),(2,.e (iP k))],[(7,.row true 26 (((M.take x).map λc=>c.take (k+1)).length) 1 (lM ((M.take x).map λc=>c.take (k+1)))),(3,.cells 28 [iP s.tape.iw,mG s.tape.ig,mF s.tape.iC,iP s.iG,iu s.params])]⟩
def Wc(s:jN)(M:List (List Iv))(k:Nat)(x:Nat):PS:=⟨43,true,[(31,.e (iP x)),(30,.e (iP s.params.length)),(29,.e (iu s.params)),(7,.own 7),(2,.e (iP k))],[(7,.row true 26 (((M.map λc=>c.take (k+1))++(s.params.take x).map λa=>mh a k).length) 1 (lM ((M.map λc=>c.take (k+1))++(s.params.take x).map λa=>mh a k)))]⟩
noncomputable def WB(s:jN)(t:ki)(x:List Iv)(p:Nat)(i:Nat):PS:=⟨40,true,[(12,.own 12),(28,.e (iP i)),(27,.e (iP ((oK s t x p).length:Int))),(26,.e (lW (oK s t x p)))],[(12,.row true 39 i 7 (je ((List.range i).map (λi=>((oK s t x p).getD i []).getD 1 il))))]⟩
def Ar(x:Iv)(d:Dy):Bool:=decide (jf x.lo d<=0)&&decide (jf d x.hi<=0)
def lk(x : Iv)(p : Nat) : Dy:=
  if jY (iH x.lo x.hi) p false=0 then
    (if vc (canon (iM (iH x.lo x.hi) p false).neg (iM (iH x.lo x.hi) p false).m ((iM (iH x.lo x.hi) p false).e + -1))=0/\Ar x (sS (canon (iM (iH x.lo x.hi) p false).neg (iM (iH x.lo x.hi) p false).m ((iM (iH x.lo x.hi) p false).e + -1)))=true
     then sS (canon (iM (iH x.lo x.hi) p false).neg (iM (iH x.lo x.hi) p false).m ((iM (iH x.lo x.hi) p false).e + -1))else x.lo)
  else x.lo
noncomputable def nT(s:jN)(t:ki)(x y z:List Iv)(dir:Int)(p:Nat):Int:=DJ dir (nc (oZ s t y p)) (nc (oZ s t x p)) (nc (oZ s t z p)) (nc (ja s t y p))
def amu(dir:Int):s9 dir=1\/s9 dir = -1:=by
 unfold s9;split
 .exact .inr rfl
 .exact .inl rfl
noncomputable def oA(s:jN)(t:ki)(x y:List Iv)(l:Iv)(p:Nat)(o:Iv):Iv:=r7 (jP (lk o p)) (jO (oZ s t (lK s x y (jP (lk o p)) 8 p) p) l p) p
noncomputable def BB(s:jN)(t:ki)(x y:List Iv)(l:Iv)(p:Nat)(o:Iv):Bool:=sY (lK s x y (jP (lk o p)) 8 p)||(oA s t x y l p o).all
noncomputable def jA(s:jN)(t:ki)(x y:List Iv)(l:Iv)(p:Nat)(o:Iv):Nat->Iv
 | 0=>o
 |n+1=>nf (jA s t x y l p o n) (oA s t x y l p (jA s t x y l p o n))
def xI(s:jN)(t:ki)(x y:List Iv)(l:Iv)(p:Nat)(o:Iv)(n:Nat):Prop:=BB s t x y l p (jA s t x y l p o n)=false/\tz (jA s t x y l p o n) (oA s t x y l p (jA s t x y l p o n))=true
noncomputable def Be(s:jN)(t:ki)(x y:List Iv)(l:Iv)(p:Nat):Nat->Iv->Option Iv
 | 0,o=>some o
 |n+1,o=>if BB s t x y l p o=true then some o else if tz o (oA s t x y l p o)=true then Be s t x y l p n (nf o (oA s t x y l p o))else none
structure ur(o:Iv):Prop where
 val:o.ix
 all:o.all=false
 lo:0<=o.lo.jq
def sA:Option Iv->E
 |some o=>.iE [iy o,bP true]
 |none=>.iE [iy pA,bP false]
noncomputable def aaN(s:jN)(t:ki)(x:List Iv)(a b:Dy)(y z:List Iv)(p:Nat)(N:Nat)(n:Nat):PS:=⟨84,true,[(42,.e (iP n)),(15,.box 15 0),(14,.box 14 0),(10,.box 10 0),(8,.box 8 0),(6,.box 6 0),(5,.box 5 0),(2,.e (iu x)),(4,.e (iP p))],[(15,.cells 39 (iN (ja s t y p))),(14,.cells 39 (iN (jA s t x y (ja s t y p) p (⟨iS,iM (iH b (iO a)) p true,false⟩:Iv) n))),(10,.cells 39 au),(8,.cells 33 (jg a++jg b++[iu y,iu z])),(6,.cells 25 [iP t.iw,mG t.ig,mF t.iC]),(5,.cells 28 [iP s.tape.iw,mG s.tape.ig,mF s.tape.iC,iP s.iG,iu s.params])]⟩
noncomputable def aaO(s:jN)(t:ki)(x:List Iv)(a b:Dy)(y z:List Iv)(p:Nat)(N:Nat)(n:Nat):PS:=⟨84,true,[(42,.e (iP n)),(15,.box 15 0),(14,.box 14 0),(10,.box 10 0),(8,.box 8 0),(6,.box 6 0),(5,.box 5 0),(2,.e (iu x)),(4,.e (iP p))],[(15,.cells 39 (iN (ja s t y p))),(14,.cells 39 (iN (jA s t x y (ja s t y p) p (⟨iS,iM (iH b (iO a)) p true,false⟩:Iv) n))),(10,.cells 39 au),(8,.cells 33 (jg a++jg b++[iu y,iu z])),(6,.cells 25 [iP t.iw,mG t.ig,mF t.iC]),(5,.cells 28 [iP s.tape.iw,mG s.tape.ig,mF s.tape.iC,iP s.iG,iu s.params])]⟩
noncomputable def aaP(s:jN)(t:ki)(x:List Iv)(a b:Dy)(y z:List Iv)(p:Nat)(N:Nat)(n:Nat):PS:=⟨84,true,[(42,.e (iP n)),(15,.box 15 0),(14,.box 14 0),(10,.box 10 0),(8,.box 8 0),(6,.box 6 0),(5,.box 5 0),(2,.e (iu x)),(4,.e (iP p))],[(15,.cells 39 (iN (ja s t y p))),(14,.cells 39 (iN (jA s t x y (ja s t y p) p (⟨iS,iM (iH b (iO a)) p true,false⟩:Iv) n))),(10,.cells 39 au),(8,.cells 33 (jg a++jg b++[iu y,iu z])),(6,.cells 25 [iP t.iw,mG t.ig,mF t.iC]),(5,.cells 28 [iP s.tape.iw,mG s.tape.ig,mF s.tape.iC,iP s.iG,iu s.params])]⟩
noncomputable def aaQ(s:jN)(t:ki)(x:List Iv)(a b:Dy)(y z:List Iv)(p:Nat)(n:Nat):PS:=⟨84,true,[(42,.e (iP n)),(15,.box 15 0),(14,.box 14 0),(10,.box 10 0),(8,.box 8 0),(6,.box 6 0),(5,.box 5 0),(2,.e (iu x)),(4,.e (iP p))],[(15,.cells 39 (iN (ja s t y p))),(14,.cells 39 (iN (jA s t x y (ja s t y p) p (⟨iS,iM (iH b (iO a)) p true,false⟩:Iv) n))),(10,.cells 39 au),(8,.cells 33 (jg a++jg b++[iu y,iu z])),(6,.cells 25 [iP t.iw,mG t.ig,mF t.iC]),(5,.cells 28 [iP s.tape.iw,mG s.tape.ig,mF s.tape.iC,iP s.iG,iu s.params])]⟩
def anI(t:ki)(xs:List Iv)(p:Nat)(h:Af t)(h1:1<=xs.length)(hx:xs.length=t.iw)(hv:nG xs)(iA:8<=p)(im:p<=512):ie 202 [kW t,iu xs,iP p] (iu (Ap t xs p)):=by
 have h8:=h.iw;have Fb:=h.ig;have sJ:=h.iC;have xo:=L9 t.ig xs p t.ig.length;exact ak call202 func202 (ae [.c (anB t xs p h h1 hx hv aC aC),iF ((t.iw:Int)+t.ig.length) aC,tF 23 (((kj t.ig xs p t.ig.length).length:Int)<((t.iw+t.ig.length:Nat):Int)) aC,ai 29 ((xs.length:Int) != (t.iw:Int)) (pf hx),.c (LW t aD),.y 8 8 true 39 7 (je ((List.range 0).map (λj_=>(kj t.ig xs p t.ig.length).getD (t.iC.getD j_ 0) il))),.s (Sp.jT (aal t xs p) 0 t.iC.length aC (λi hi nP=>by
    have hot:=h.out i aC;have xo:=L9 t.ig xs p t.ig.length;have tn:=qL ((kj t.ig xs p t.ig.length).getD (t.iC.getD i 0) il);exact iL (ae [tT 40 ((i:Int)<t.iC.length) aC,iX (i:Int) (t.iC.length) aC,iX (t.iC.getD i 0:Int) ((kj t.ig xs p t.ig.length).length) aC,.o 48 (.e (mf _):aj (.sl true 1 7 λi_ j_=>(iN ((kj t.ig xs p t.ig.length).getD (t.iC.getD i 0) il)).getD (i_*7+j_) (.v (.bool false))) (iu [(kj t.ig xs p t.ig.length).getD (t.iC.getD i 0) il])),.a (aC:(i+[(kj t.ig xs p t.ig.length).getD (t.iC.getD i 0) il].length)*88<=140737488355328),iF ((i:Int)+1) aC]<|.e (af [.b 8 (DH rfl rfl rfl:Bx.le (.row true 39 (i+[(kj t.ig xs p t.ig.length).getD (t.iC.getD i 0) il].length) 7 (λi_ j_=>if i_<i then(je ((List.range i).map (λj_=>(kj t.ig xs p t.ig.length).getD (t.iC.getD j_ 0) il))) i_ j_ else(E.kY (iu [(kj t.ig xs p t.ig.length).getD (t.iC.getD i 0) il])) (i_-i) j_)) (.row true 39 (i+1) 7 (je ((List.range (i+1)).map (λj_=>(kj t.ig xs p t.ig.length).getD (t.iC.getD j_ 0) il)))))])) aF)
  (λhi=>by
    exact iL (ae [tF 40 ((t.iC.length:Int)<t.iC.length) aC,.z 8]<|.e (af [.o 8 (.e (DG aH):aj (.sl true t.iC.length 7 (je ((List.range t.iC.length).map (λj_=>(kj t.ig xs p t.ig.length).getD (t.iC.getD j_ 0) il)))) (iu ((List.range t.iC.length).map (λj_=>(kj t.ig xs p t.ig.length).getD (t.iC.getD j_ 0) il))))])) aF) aI:jS 6 f202 (aal t xs p 0) (.exit 0) ⟨52,true,[(8,.e (iu ((List.range t.iC.length).map (λj_=>(kj t.ig xs p t.ig.length).getD (t.iC.getD j_ 0) il))))],[]⟩) .nil]<|rQ (iu ((List.range t.iC.length).map (λj_=>(kj t.ig xs p t.ig.length).getD (t.iC.getD j_ 0) il))) (iu (Ap t xs p)) (by rw[TV])) 
def ahR(s:jN)(k:Nat)(M:List (List Iv))(h:mq s)(hn8:M.length<=8)(hk:k<=16)(hM:∀ i,i<M.length->k+1<=(M.getD i []).length)(NU:∀ i,i<M.length->(M.getD i []).length<=17):ie 188 [kf s,lW M,iP k] (lW (pX s M k)):=by
 have p4:=h.p4;exact ak call188 func188 (ae [.y 7 7 true 26 1 (lM []),.s (Sp.jT (Wb s M k) 0 M.length aC (λx hx lJ=>by
    have OI:=hM x aC;have ag1:=NU x aC;have hla:((M.take x).map λc=>c.take (k+1)).length<=8:=by rw[bZ,cF];omega
    exact iL (ae [tT 15 ((x:Int)<M.length) aC,iX (x:Int) (M.length) aC,.bo,iF ((k:Int)+1) aC,.a (aC:0<=(((k+1:Nat):Int):Int)/\(((k+1:Nat):Int):Int)<=((M.getD x []).length:Int)),.bo,.a (aC:(0+(k+1))*88<=140737488355328),.o 24 (.e (aag aC OI):aj (.sl true (0+(k+1)) 7 (λi_ j_=>if i_<0 then(λi_ j_=>([]:List E).getD (i_*7+j_) (.v (.bool false))) i_ j_ else(E.kY (.sl true (k+1) 7 (E.kY (iu (M.getD x []))))) (i_-0) j_)) (iu ((M.getD x []).take (k+1)))),.o 25 (.refl _:aj (.sl true 1 1 λi_ j_=>[iu ((M.getD x []).take (k+1))].getD (i_*1+j_) (.v (.bool false))) (.sl true 1 1 λi_ j_=>[iu ((M.getD x []).take (k+1))].getD (i_*1+j_) (.v (.bool false)))),.a (aC:(((M.take x).map λc=>c.take (k+1)).length+1)*24<=140737488355328),iF ((x:Int)+1) aC]<|.e (af [.b 7 (yI rfl rfl (λj hj=>by obtain rfl:j=0:= aC;rfl) (Hz _ M [] aC):Bx.le (.row true 26 (((M.take x).map λc=>c.take (k+1)).length+1) 1 (λi_ j_=>if i_<((M.take x).map λc=>c.take (k+1)).length then(lM ((M.take x).map λc=>c.take (k+1))) i_ j_ else(E.kY (.sl true 1 1 λi_ j_=>[iu ((M.getD x []).take (k+1))].getD (i_*1+j_) (.v (.bool false)))) (i_-((M.take x).map λc=>c.take (k+1)).length) j_)) (.row true 26 (((M.take (x+1)).map λc=>c.take (k+1)).length) 1 (lM ((M.take (x+1)).map λc=>c.take (k+1)))))])) aF)
  (λhx=>by
    exact iL (af [tF 15 ((M.length:Int)<M.length) aC]) aF) aI:jS 3 f188 (Wb s M k 0) (.exit 0) ⟨43,true,[(7,.own 7),(3,.box 3 0),(2,.e (iP k))],[(7,.row true 26 (((M.take M.length).map λc=>c.take (k+1)).length) 1 (lM ((M.take M.length).map λc=>c.take (k+1)))),(3,.cells 28 [iP s.tape.iw,mG s.tape.ig,mF s.tape.iC,iP s.iG,iu s.params])]⟩) (af [.b 7 (Pt aH rfl:Bx.le (.row true 26 0 1 (lM [])) (.row true 26 (((M.take 0).map λc=>c.take (k+1)).length) 1 (lM ((M.take 0).map λc=>c.take (k+1)))))]),.s (Sp.jT (Wc s M k) 0 s.params.length aC (λx hx lJ=>by
    have vp:=(h.params x aC).1;have hlb:((M.map λc=>c.take (k+1))++(s.params.take x).map λa=>mh a k).length<=16:=by rw[cC,bZ,bZ,cF];omega
    exact iL (ae [tT 32 ((x:Int)<s.params.length) aC,iX (x:Int) (s.params.length) aC,.c (QO (s.params.getD x il) aD k aC),.a (aC:(((M.map λc=>c.take (k+1))++(s.params.take x).map λa=>mh a k).length+1)*24<=140737488355328),iF ((x:Int)+1) aC]<|.e (af [.b 7 (yI rfl rfl (λj hj=>by obtain rfl:j=0:= aC;rfl) (by rw[Hz (λa=>mh a k) s.params il aC,gZ]):Bx.le (.row true 26 (((M.map λc=>c.take (k+1))++(s.params.take x).map λa=>mh a k).length+1) 1 (λi_ j_=>if i_<((M.map λc=>c.take (k+1))++(s.params.take x).map λa=>mh a k).length then(lM ((M.map λc=>c.take (k+1))++(s.params.take x).map λa=>mh a k)) i_ j_ else(E.kY (.sl true 1 1 λi_ j_=>[iu (mh (s.params.getD x il) k)].getD (i_*1+j_) (.v (.bool false)))) (i_-((M.map λc=>c.take (k+1))++(s.params.take x).map λa=>mh a k).length) j_)) (.row true 26 (((M.map λc=>c.take (k+1))++(s.params.take (x+1)).map λa=>mh a k).length) 1 (lM ((M.map λc=>c.take (k+1))++(s.params.take (x+1)).map λa=>mh a k))))])) aF)
  (λhx=>by
    exact iL (ae [tF 32 ((s.params.length:Int)<s.params.length) aC,.z 7]<|.e (af [.o 7 (.e (Pv rfl):aj (.sl true (((M.map λc=>c.take (k+1))++(s.params.take s.params.length).map λa=>mh a k).length) 1 (lM ((M.map λc=>c.take (k+1))++(s.params.take s.params.length).map λa=>mh a k))) (lW ((M.map λc=>c.take (k+1))++(s.params.take s.params.length).map λa=>mh a k)))])) aF) aI:jS 8 f188 (Wc s M k 0) (.exit 2) ⟨43,true,[(7,.e (lW ((M.map λc=>c.take (k+1))++(s.params.take s.params.length).map λa=>mh a k)))],[]⟩) (af [.b 7 (Bx.le.ji (by rw[eD];simp):Bx.le (.row true 26 (((M.take M.length).map λc=>c.take (k+1)).length) 1 (lM ((M.take M.length).map λc=>c.take (k+1)))) (.row true 26 (((M.map λc=>c.take (k+1))++(s.params.take 0).map λa=>mh a k).length) 1 (lM ((M.map λc=>c.take (k+1))++(s.params.take 0).map λa=>mh a k))))])]<|rQ (lW ((M.map λc=>c.take (k+1))++(s.params.take s.params.length).map λa=>mh a k)) (lW (pX s M k)) (by unfold pX;rw[eD])) 
def abp(s:jN)(t:ki)(x:List Iv)(p:Nat)(h:mq s)(ht:oI s t)(hx:kE s.iG x)(iA:8<=p)(im:p<=512):ie 245 [kf s,kW t,iu x,iP 1,iP p] (.iE [lW (oK s t x p),iP 0]):=by
 have hT:=ht.tape;have oQ:=ht.iw;have Fe:=ht.one;have s1:=h.s1;have s4:=h.s4;have p4:=h.p4;have lx:=hx.len;have hi:=h.iw;have U5:=ua s x p 1;have zo:=Cb h hx iA im 1 aE;have lI:=O8 h zo (by rw[U5,lx]);have agT:(pX s (jm s x p 1) 1).length=t.iw:=by rw[lI.2,oQ]
 exact ak call245 func245 (af [.c (Wg s x p h hx iA im),.c (LW t aD),ai 28 ((t.iw:Int) != (s.tape.iw:Int)) (pf oQ),ai 31 (decide ((1:Int)<0)) aE,ai 34 (decide ((16:Int)<1)) aE,.c (Wl s x 1 p h hx aE iA im),.c (ahR s 1 (jm s x p 1) h aC aE (λi hi=>by rw[(zo i hi).len];exact bF _) (λi hi=>by rw[(zo i hi).len];decide)),.c (Wf t (pX s (jm s x p 1) 1) 1 p hT lI.1 agT aE iA im)]) 
def MA{s:jN}{t:ki}{x:List Iv}{p:Nat}(h:mq s)(ht:oI s t)(hx:kE s.iG x)(iA:8<=p)(im:p<=512):(oK s t x p).length=t.iC.length/\vV 2 (oK s t x p):=by
 have zo:=Cb h hx iA im 1 aE;have lI:=O8 h zo (by rw[ua,hx.len]);refine⟨by unfold oK rn;rw[bZ],?_⟩;exact TU (aC:1<=p) (aC:p<=4096) ht.tape lI.1 (by rw[lI.2,ht.iw])
def aib(s:jN)(t:ki)(x:List Iv)(p:Nat)(h:mq s)(ht:oI s t)(hx:kE s.iG x)(iA:8<=p)(im:p<=512):ie 201 [kf s,kW t,iu x,iP p] (.iE [iu (AR s t x p),iP 0]):=by
 have hT:=ht.tape;have oQ:=ht.iw;have Fe:=ht.one;have s1:=h.s1;have s4:=h.s4;have p4:=h.p4;have lx:=hx.len;have hi:=h.iw;obtain⟨UJ,UK⟩:=MA h ht hx iA im;exact ak call201 func201 (ae [.c (abp s t x p h ht hx iA im),ai 24 ((0:Int) != 0) aE,.y 12 12 true 39 7 (je ((List.range 0).map (λi=>((oK s t x p).getD i []).getD 1 il))),.s (Sp.jT (WB s t x p) 0 ((oK s t x p).length) aC (λi hi nP=>by
    have tS:=(UK i aC).len;have tn:=qL (((oK s t x p).getD i []).getD 1 il);exact iL (ae [tT 29 ((i:Int)<((oK s t x p).length:Int)) aC,iX (i:Int) ((oK s t x p).length) aC,iX 1 (((oK s t x p).getD i []).length) aC,.o 36 (.e (mf _):aj (.sl true 1 7 λi_ j_=>(iN (((oK s t x p).getD i []).getD 1 il)).getD (i_*7+j_) (.v (.bool false))) (iu [((oK s t x p).getD i []).getD 1 il])),.a (aC:(i+[((oK s t x p).getD i []).getD 1 il].length)*88<=140737488355328),iF ((i:Int)+1) aC]<|.e (af [.b 12 (DH rfl rfl rfl:Bx.le (.row true 39 (i+[((oK s t x p).getD i []).getD 1 il].length) 7 (λi_ j_=>if i_<i then(je ((List.range i).map (λi=>((oK s t x p).getD i []).getD 1 il))) i_ j_ else(E.kY (iu [((oK s t x p).getD i []).getD 1 il])) (i_-i) j_)) (.row true 39 (i+1) 7 (je ((List.range (i+1)).map (λi=>((oK s t x p).getD i []).getD 1 il)))))])) aF)
  (λhi=>by
    exact iL (ae [tF 29 (((oK s t x p).length:Int)<((oK s t x p).length:Int)) aC,.z 12]<|.e (af [.o 12 (.e (DG aH):aj (.sl true ((oK s t x p).length) 7 (je ((List.range ((oK s t x p).length)).map (λi=>((oK s t x p).getD i []).getD 1 il)))) (iu ((List.range ((oK s t x p).length)).map (λi=>((oK s t x p).getD i []).getD 1 il))))])) aF) aI:jS 6 f201 (WB s t x p 0) (.exit 0) ⟨40,true,[(12,.e (iu ((List.range ((oK s t x p).length)).map (λi=>((oK s t x p).getD i []).getD 1 il))))],[]⟩) .nil]<|rQ (.iE [iu ((List.range ((oK s t x p).length)).map (λi=>((oK s t x p).getD i []).getD 1 il)),iP 0]) (.iE [iu (AR s t x p),iP 0]) (by unfold AR lq;rfl)) 
def aia{s:jN}{t:ki}{x:List Iv}{p:Nat}(h:mq s)(ht:oI s t)(hx:kE s.iG x)(iA:8<=p)(im:p<=512):(AR s t x p).length=1:=by
 unfold AR;rw[xj,(MA h ht hx iA im).1,ht.one]
def FQ{s:jN}{t:ki}{x:List Iv}{p:Nat}(h:mq s)(ht:oI s t)(hx:kE s.iG x)(iA:8<=p)(im:p<=512):(ja s t x p).ix:=by
 obtain⟨h1,h2⟩:=MA h ht hx iA im;have h3:=ht.one;unfold ja AR;rw[C9 aC];exact(h2 0 aC).ok 1
def Bj{s:jN}{t:ki}{x:List Iv}{p:Nat}(h:mq s)(ht:oI s t)(hx:kE s.iG x)(iA:8<=p)(im:p<=512):(oZ s t x p).ix:=by
 have hv:=hx.ok.L8.append h.params.L8;have h1:=ht.one;unfold oZ;rw[<-TV,bE,cG,gL aC];exact Ma t.ig hv (aC:1<=p) (aC:p<=4096) _ _
def ahQ{X Y:List Iv}{n q:Nat}{f g:Nat->Nat->E}(hn:n=X.length)(hq:q=Y.length)(hf:∀ i j,f i j=je X i j)(hg:∀ i j,g i j=je Y i j):E.le (.sl true (n+q) 7 λi j=>if i<n then f i j else g (i-n) j) (iu (X++Y)):=by
 subst hn hq;unfold iu;rw[cC];refine .sl λi j hi hj=>⟨.ji ?_,tZ _ _ hj⟩
 by_cases h:i<X.length
 .rw [bB h,hf];show(iN (X.getD i il)).getD j .any=(iN ((X++Y).getD i il)).getD j .any;simp only[bE];rw[dO h]
 .rw [bA h,hg];show(iN (Y.getD (i-X.length) il)).getD j .any=(iN ((X++Y).getD i il)).getD j .any;simp only[bE];rw[fK aC]
def Bk(s:jN)(t:ki)(x:List Iv)(p:Nat)(h:mq s)(ht:oI s t)(hx:kE s.iG x)(iA:8<=p)(im:p<=512):ie 135 [kf s,kW t,iu x,iP p] (iy (oZ s t x p)):=by
 have hT:=ht.tape;have oQ:=ht.iw;have Fe:=ht.one;have s1:=h.s1;have s4:=h.s4;have p4:=h.p4;have lx:=hx.len;have hi:=h.iw;have hv:=hx.ok.L8.append h.params.L8;have GU:=ae5 t (x++s.params) p;exact ak call135 func135 (ae [.cn (Es _ aC aC:w8 63 [iu x] true 39 x.length 7 (je x)),.bo,.a (aC:(x.length+s.params.length)*88<=140737488355328),.o 14 (.e (ahQ rfl rfl (λ_ _=>rfl) (λ_ _=>rfl)):aj (.sl true (x.length+s.params.length) 7 (λi_ j_=>if i_<x.length then(je x) i_ j_ else(E.kY (iu s.params)) (i_-x.length) j_)) (iu (x++s.params))),.c (anI t (x++s.params) p hT (by rw[cC];omega) (by rw[cC];omega) hv aC aC),iX 0 ((Ap t (x++s.params) p).length) aC]<|rQ (iy ((Ap t (x++s.params) p).getD 0 il)) (iy (oZ s t x p)) (by unfold oZ;rfl)) 
def IP(s:jN)(t:ki)(x:List Iv)(p:Nat)(h:mq s)(ht:oI s t)(hx:kE s.iG x)(iA:8<=p)(im:p<=512):ie 133 [kf s,kW t,iu x,iP p] (iy (ja s t x p)):=by
 have hT:=ht.tape;have oQ:=ht.iw;have Fe:=ht.one;have s1:=h.s1;have s4:=h.s4;have p4:=h.p4;have lx:=hx.len;have hi:=h.iw;have kS:=aia h ht hx iA im;exact ak call133 func133 (ae [.c (aib s t x p h ht hx iA im),ai 20 ((0:Int) != 0) aE,iX 0 ((AR s t x p).length) aC]<|rQ (iy ((AR s t x p).getD 0 il)) (iy (ja s t x p)) (by unfold ja;rfl)) 
def VY(x:Iv)(d:Dy)(hx:x.ix)(xa:x.all=false)(hd:d.ix):ie 49 [iy x,iz d] (bP (Ar x d)):=by
 obtain⟨w1,w2⟩:=hx.kq;exact ak call49 func49 (ae [.c (rj x aD),ag [iz d] (sT _ aD),ai 14 x.all xa,ag [iz x.lo,iz d] (nR _ _ aD aD)]<|.w ((jf x.lo d)<=0)
  (λk1=>ae [tB 20 (bC k1),ag [iz d,iz x.hi] (nR _ _ aD aD)]<|rQ (bP (decide ((jf d x.hi)<=0))) (bP (Ar x d)) (jL (by unfold Ar;simp_all<;>omega)))
  (λk1=>ae [tB 20 (bD k1)]<|rQ (bP false) (bP (Ar x d)) (jL (by unfold Ar;simp_all<;>omega)))) 
def DF(x:Iv)(p:Nat)(hx:x.ix)(xa:x.all=false)(iA:8<=p)(im:p<=512):ie 139 [iy x,iP p] (iz (lk x p)):=by
 obtain⟨w1,w2⟩:=hx.kq;have w3:=wQ (iH x.lo x.hi) (aC:1<=p) (aC:p<=4096) false;have w4:=SG (ux (iM (iH x.lo x.hi) p false).neg (iM (iH x.lo x.hi) p false).m ((iM (iH x.lo x.hi) p false).e + -1));exact ak call139 func139 (ae [.o 9 (.e (mf _):aj (.sl true 1 7 λi_ j_=>(iN x).getD (i_*7+j_) (.v (.bool false))) (iu [x])),ag [iu [x]] (qJ _ aD),ah 10 (!x.all) (by rw[xa];rfl),ag [iP p] (wI _),ah 14 (nm (p:Int)) (vK.2 ⟨aC,aC⟩),.c (Yj x.lo x.hi p aD aD aC aC)]<|.w ((jY (iH x.lo x.hi) p false)=0)
  (λk1=>ae [tB 28 (bu k1),.c (MF (iM (iH x.lo x.hi) p false) (-1) aD aC aC)]<|.w ((vc (canon (iM (iH x.lo x.hi) p false).neg (iM (iH x.lo x.hi) p false).m ((iM (iH x.lo x.hi) p false).e+(-1))))=0)
   (λk2=>ae [tB 37 (bu k2),.c (VY x (sS (canon (iM (iH x.lo x.hi) p false).neg (iM (iH x.lo x.hi) p false).m ((iM (iH x.lo x.hi) p false).e+(-1)))) hx xa aD)]<|.w (Ar x (sS (canon (iM (iH x.lo x.hi) p false).neg (iM (iH x.lo x.hi) p false).m ((iM (iH x.lo x.hi) p false).e+(-1))))=true)
    (λk3=>ae [tB 41 k3]<|rQ (iz (sS (canon (iM (iH x.lo x.hi) p false).neg (iM (iH x.lo x.hi) p false).m ((iM (iH x.lo x.hi) p false).e+(-1))))) (iz (lk x p)) bh)
    (λk3=>ae [tB 41 (bt k3)]<|rQ (iz x.lo) (iz (lk x p)) bh))
   (λk2=>ae [tB 37 (bw k2)]<|rQ (iz x.lo) (iz (lk x p)) bh))
  (λk1=>ae [tB 28 (bw k1)]<|rQ (iz x.lo) (iz (lk x p)) bh)) 
def amH(dir:Int):ie 134 [iP dir] (iP (s9 dir)):=
 ak call134 func134 (.w (dir=2)
  (λk1=>ae [tB 4 (bn k1)]<|rQ (iP (-1)) (iP (s9 dir)) (by unfold s9;simp_all))
  (λk1=>ae [tB 4 (bk k1)]<|rQ (iP 1) (iP (s9 dir)) (by unfold s9;simp_all))) 
def Hq(s:jN)(t:ki)(x:List Iv)(a b:Dy)(y z:List Iv)(dir:Int)(p:Nat)(h:mq s)(ht:oI s t)(hx:kE s.iG x)(hy:kE s.iG y)(hz:kE s.iG z)(iA:8<=p)(im:p<=512):ie 59 [kf s,kW t,iu x,.agg (jg a++jg b++[iu y,iu z]),iP dir,iP p] (iP (nT s t x y z dir p)):=by
 have v1:=Bj h ht hx iA im;have v2:=Bj h ht hy iA im;have v3:=Bj h ht hz iA im;have v4:=FQ h ht hy iA im;have yz:=amu dir;exact ak call59 func59 (ae [.c (IP s t y p h ht aD iA im),.c (Ca (ja s t y p) aD),.c (amH dir),.c (Bk s t y p h ht aD iA im),.c (Ca (oZ s t y p) aD)]<|.w ((nc (oZ s t y p))=0)
  (λk1=>ae [tB 32 (bu k1),iF (0-(s9 dir)) aC]<|.w ((nc (ja s t y p))=(0-(s9 dir)))
   (λk2=>ae [tB 37 (bn k2)]<|rQ (iP 1) (iP (nT s t x y z dir p)) a6)
   (λk2=>ae [tB 37 (bk k2)]<|.w ((nc (ja s t y p))=(s9 dir))
    (λk3=>ae [tB 42 (bn k3),.c (Bk s t x p h ht aD iA im),.c (Ca (oZ s t x p) aD),iF (0-(s9 dir)) aC]<|.w ((nc (oZ s t x p))=(0-(s9 dir)))
     (λk4=>ae [tB 52 (bn k4),.c (Bk s t z p h ht aD iA im),.c (Ca (oZ s t z p) aD)]<|.w ((nc (oZ s t z p))=(s9 dir))
      (λk5=>ae [tB 63 (bn k5)]<|rQ (iP 3) (iP (nT s t x y z dir p)) a6)
      (λk5=>ae [tB 63 (bk k5)]<|rQ (iP 2) (iP (nT s t x y z dir p)) a6))
     (λk4=>ae [tB 52 (bk k4)]<|rQ (iP 2) (iP (nT s t x y z dir p)) a6))
    (λk3=>ae [tB 42 (bk k3)]<|rQ (iP 2) (iP (nT s t x y z dir p)) a6)))
  (λk1=>ae [tB 32 (bw k1)]<|rQ (iP 1) (iP (nT s t x y z dir p)) a6)) 
def KT{T:Nat}{h:Dy}:Bx.le (.cells T (ar++jg h++[bP false])) (.cells T (iN ⟨iS,h,false⟩)):=by
 have e1:E.le (.v (.slice none 0 0)) (ik (ij 0)):=by rw[oV];exact .nil _ _ _
 exact .cells (λ_=>rfl) (.cons (.refl _) (.cons e1 (.cons (.refl _) (.cons (.refl _) (.cons (.refl _) (.cons (.refl _) (.cons (.refl _) .nil)))))))
def ZQ{a b:Dy}(h:jf a b<=0)(h0:0<=a.jq):0<=b.jq:=by
 have h1:a.q<=b.q:=(qk a b).1 h;have h2:0<=a.q:=amM aC;have:=akp (bX h2 h1);omega
def AU{o:Iv}(h:ur o){p:Nat}(iA:8<=p)(im:p<=512):(lk o p).ix/\0<=(lk o p).jq:=by
 obtain⟨w1,w2⟩:=h.val.kq;unfold lk;split
 .split
  .rename_i hq;refine⟨SG (ux _ _ _),?_⟩;have h1:=hq.2;unfold Ar at h1;rw[bQ]at h1;exact ZQ (cR h1.1) h.lo
  .exact ⟨w1,h.lo⟩
 .exact ⟨w1,h.lo⟩
def D2{d:Dy}(h:d.ix)(h0:0<=d.jq):ur (jP d):=⟨rH h,rfl,h0⟩
def W7{o n:Iv}(h:ur o)(hn:n.ix)(na:n.all=false)(hm:tz o n=true):ur (nf o n):=by
 refine⟨W8 h.val hn h.all na hm,rfl,?_⟩;exact ZQ (DT o.lo n.lo) h.lo
def Ci(s:jN)(t:ki)(x y:List Iv)(l o:Iv){p:Nat}(iA:8<=p)(im:p<=512)(hd:(lk o p).ix):(oA s t x y l p o).ix:=by
 unfold oA;exact qO (rH hd) (Ch (pH _ _ aC aC)) aC aC 
def CU{s:jN}{t:ki}{x y:List Iv}{l o:Iv}{p:Nat}(h:BB s t x y l p o=false):sY (lK s x y (jP (lk o p)) 8 p)=false/\(oA s t x y l p o).all=false:=by
 unfold BB at h;rwa[ek]at h
def Cl{s:jN}{t:ki}{x y:List Iv}{l o:Iv}{p:Nat}(h:mq s)(ht:oI s t)(hx:kE s.iG x)(hy:kE s.iG y)(iA:8<=p)(im:p<=512)(ho:ur o):∀ n,(∀ i,i<n->xI s t x y l p o i)->ur (jA s t x y l p o n)
 | 0,_=>ho
 |n+1,hg=>by
  have h1:=Cl h ht hx hy iA im ho n λi hi=>hg i aC 
  obtain⟨h2,h3⟩:=hg n aC;exact W7 h1 (Ci s t x y l _ iA im (AU h1 iA im).1) (CU h2).2 h3
def Wv{P:Nat->Prop}{n:Nat}(h:¬∀ i,i<n->P i):∃ N,N<n/\¬P N/\∀ i,i<N->P i:=by
 have hex:∃ i,i<n/\@decide (¬P i) (Classical.propDecidable _)=true:=by
  apply ct;intro q;refine h λi hi=>?_
  apply ct;intro q2;exact q ⟨i,hi,@bC _ (Classical.propDecidable _) q2⟩
 obtain⟨N,n1,n2,n3⟩:=uO hex;refine⟨N,n1,@cR _ (Classical.propDecidable _) n2,λi hi=>?_⟩;apply ct;intro q;exact @eI _ (Classical.propDecidable _) (n3 i hi) q
def T7{a b:Dy}{p:Nat}(iA:8<=p)(im:p<=512)(ha:a.ix)(hb:b.ix)(sX:jf a b<0)(hE:jY (iH b (iO a)) p true=0):ur ⟨iS,iM (iH b (iO a)) p true,false⟩:=by
 have hv:=wQ (iH b (iO a)) (aC:1<=p) (aC:p<=4096) true;have h1:a.q<=b.q:=(qk a b).1 aC;have h3:0<=(iH b (iO a)).q:=by rw[Yc,rX];grind
 have h2:(iH b (iO a)).q<=(iM (iH b (iO a)) p true).q:=(qk _ _).1 ((Qx (Ey hb.canon (wN ha).canon) p aC).1 hE);exact⟨.inr ⟨rfl,tC,hv,(qk _ _).2 (by rw[xH];exact bX h3 h2)⟩,rfl,show 0<=iS.jq by decide⟩
def aow(s:jN)(t:ki)(x:List Iv)(a b:Dy)(y z:List Iv)(p:Nat)(h:mq s)(ht:oI s t)(hx:kE s.iG x)(hy:kE s.iG y)(iA:8<=p)(im:p<=512)(ha:a.ix)(hb:b.ix)(hE:(jY (iH b (iO a)) p true)≠0):ie 60 [kf s,kW t,iu x,.agg (jg a++jg b++[iu y,iu z]),iP p] (sA (some il)):=by
 have w1:=wN ha;have v4:=FQ h ht hy iA im;exact ak call60 func60 (ae [ag [iz a] (ve _ aD),.c (D6 b (iO a) p aD aD aC aC),ah 32 ((jY (iH b (iO a)) p true) != 0) (by simp[hE]),.c oz]<|rR (sA (some il)) (.ji rfl:E.le (.iE [iy il,bP true]) (sA (some il)))) 
def aos(s:jN)(t:ki)(x:List Iv)(a b:Dy)(y z:List Iv)(p:Nat)(h:mq s)(ht:oI s t)(hx:kE s.iG x)(hy:kE s.iG y)(iA:8<=p)(im:p<=512)(ha:a.ix)(hb:b.ix)(hE:(jY (iH b (iO a)) p true)=0)(uK:ur (⟨iS,iM (iH b (iO a)) p true,false⟩:Iv))(N:Nat)(hN:N<4)(jc:∀ i,i<N->xI s t x y (ja s t y p) p (⟨iS,iM (iH b (iO a)) p true,false⟩:Iv) i)(hA:sY (lK s x y (jP (lk (jA s t x y (ja s t y p) p (⟨iS,iM (iH b (iO a)) p true,false⟩:Iv) N) p)) 8 p)=true):ie 60 [kf s,kW t,iu x,.agg (jg a++jg b++[iu y,iu z]),iP p] (sA (some (jA s t x y (ja s t y p) p (⟨iS,iM (iH b (iO a)) p true,false⟩:Iv) N))):=by
 have w1:=wN ha;have v4:=FQ h ht hy iA im;exact ak call60 func60 (ae [ag [iz a] (ve _ aD),.c (D6 b (iO a) p aD aD aC aC),ai 32 ((jY (iH b (iO a)) p true) != 0) (by simp[hE]),.c (IP s t y p h ht aD iA im),.s (Sp.jT (aaN s t x a b y z p N) 0 N aC (λn hn Km=>by
    obtain⟨hB,hM⟩:=jc n aC;have ho:=(Cl h ht hx hy iA im uK n λi hi=>jc i aC)
    obtain⟨pW,qD⟩:=AU ho iA im;have qs:=D2 pW qD;obtain⟨hA,ru⟩:=CU hB;have jo:=Bv (k:=8) h hx hy aE iA im hA;have Hh:=Bj h ht jo iA im;have tl:=pH (oZ s t (lK s x y (jP (lk (jA s t x y (ja s t y p) p (⟨iS,iM (iH b (iO a)) p true,false⟩:Iv) n) p)) 8 p) p) (ja s t y p) (aC:1<=p) (aC:p<=4096);have zw:=Ci s t x y (ja s t y p) (jA s t x y (ja s t y p) p (⟨iS,iM (iH b (iO a)) p true,false⟩:Iv) n) iA im pW;exact iL (ae [tT 43 ((n:Int)<4) aC,.c (DF (jA s t x y (ja s t y p) p (⟨iS,iM (iH b (iO a)) p true,false⟩:Iv) n) p ho.val ho.all iA im),.c (sM (lk (jA s t x y (ja s t y p) p (⟨iS,iM (iH b (iO a)) p true,false⟩:Iv) n) p) pW),.c (CR s x y (jP (lk (jA s t x y (ja s t y p) p (⟨iS,iM (iH b (iO a)) p true,false⟩:Iv) n) p)) 8 p h hx hy qs.val rfl qs.lo aE aE iA im hA),ai 59 ((0:Int) != 0) aE,.c (Bk s t (lK s x y (jP (lk (jA s t x y (ja s t y p) p (⟨iS,iM (iH b (iO a)) p true,false⟩:Iv) n) p)) 8 p) p h ht jo iA im),.c (uN (oZ s t (lK s x y (jP (lk (jA s t x y (ja s t y p) p (⟨iS,iM (iH b (iO a)) p true,false⟩:Iv) n) p)) 8 p) p) (ja s t y p) p aD aD aC aC),.c (zF (jP (lk (jA s t x y (ja s t y p) p (⟨iS,iM (iH b (iO a)) p true,false⟩:Iv) n) p)) (jO (oZ s t (lK s x y (jP (lk (jA s t x y (ja s t y p) p (⟨iS,iM (iH b (iO a)) p true,false⟩:Iv) n) p)) 8 p) p) (ja s t y p) p) p qs.val tl aC aC),ai 72 ((oA s t x y (ja s t y p) p (jA s t x y (ja s t y p) p (⟨iS,iM (iH b (iO a)) p true,false⟩:Iv) n)).all) ru,.c (Fv (jA s t x y (ja s t y p) p (⟨iS,iM (iH b (iO a)) p true,false⟩:Iv) n) (oA s t x y (ja s t y p) p (jA s t x y (ja s t y p) p (⟨iS,iM (iH b (iO a)) p true,false⟩:Iv) n)) ho.val zw ho.all ru hM),
     iF ((n:Int)+1) aC]<|.e (af [.b 14 (.ji rfl:Bx.le (.cells 39 (iN (nf (jA s t x y (ja s t y p) p (⟨iS,iM (iH b (iO a)) p true,false⟩:Iv) n) (oA s t x y (ja s t y p) p (jA s t x y (ja s t y p) p (⟨iS,iM (iH b (iO a)) p true,false⟩:Iv) n))))) (.cells 39 (iN (jA s t x y (ja s t y p) p (⟨iS,iM (iH b (iO a)) p true,false⟩:Iv) (n+1)))))])) aF)
  (λhn=>by
    have ho:=Cl h ht hx hy iA im uK N jc;obtain⟨pW,qD⟩:=AU ho iA im;have qs:=D2 pW qD;exact iL (af [tT 43 ((N:Int)<4) aC,.c (DF (jA s t x y (ja s t y p) p (⟨iS,iM (iH b (iO a)) p true,false⟩:Iv) N) p ho.val ho.all iA im),.c (sM (lk (jA s t x y (ja s t y p) p (⟨iS,iM (iH b (iO a)) p true,false⟩:Iv) N) p) pW),.c (RU s x y (jP (lk (jA s t x y (ja s t y p) p (⟨iS,iM (iH b (iO a)) p true,false⟩:Iv) N) p)) 8 p h hx hy qs.val rfl qs.lo aE aE iA im hA),ah 59 ((11:Int) != 0) aE]) aF) aI:jS 7 Tryz.f60 (aaN s t x a b y z p N 0) (.exit 0) ⟨84,true,[(14,.box 14 0),(10,.box 10 0)],[(14,.cells 39 (iN (jA s t x y (ja s t y p) p (⟨iS,iM (iH b (iO a)) p true,false⟩:Iv) N))),(10,.cells 39 au)]⟩) (af [.b 14 (KT:Bx.le (.cells 39 (ar++jg (iM (iH b (iO a)) p true)++[bP false])) (.cells 39 (iN (jA s t x y (ja s t y p) p (⟨iS,iM (iH b (iO a)) p true,false⟩:Iv) 0))))])]<|rR (sA (some (jA s t x y (ja s t y p) p (⟨iS,iM (iH b (iO a)) p true,false⟩:Iv) N))) (.ji rfl:E.le (.iE [iy (jA s t x y (ja s t y p) p (⟨iS,iM (iH b (iO a)) p true,false⟩:Iv) N),bP true]) (sA (some (jA s t x y (ja s t y p) p (⟨iS,iM (iH b (iO a)) p true,false⟩:Iv) N))))) 
def aot(s:jN)(t:ki)(x:List Iv)(a b:Dy)(y z:List Iv)(p:Nat)(h:mq s)(ht:oI s t)(hx:kE s.iG x)(hy:kE s.iG y)(iA:8<=p)(im:p<=512)(ha:a.ix)(hb:b.ix)(hE:(jY (iH b (iO a)) p true)=0)(uK:ur (⟨iS,iM (iH b (iO a)) p true,false⟩:Iv))(N:Nat)(hN:N<4)(jc:∀ i,i<N->xI s t x y (ja s t y p) p (⟨iS,iM (iH b (iO a)) p true,false⟩:Iv) i)(hA:sY (lK s x y (jP (lk (jA s t x y (ja s t y p) p (⟨iS,iM (iH b (iO a)) p true,false⟩:Iv) N) p)) 8 p)=false)(ru:((oA s t x y (ja s t y p) p (jA s t x y (ja s t y p) p (⟨iS,iM (iH b (iO a)) p true,false⟩:Iv) N))).all=true):ie 60 [kf s,kW t,iu x,.agg (jg a++jg b++[iu y,iu z]),iP p] (sA (some (jA s t x y (ja s t y p) p (⟨iS,iM (iH b (iO a)) p true,false⟩:Iv) N))):=by
 have w1:=wN ha;have v4:=FQ h ht hy iA im;exact ak call60 func60 (ae [ag [iz a] (ve _ aD),.c (D6 b (iO a) p aD aD aC aC),ai 32 ((jY (iH b (iO a)) p true) != 0) (by simp[hE]),.c (IP s t y p h ht aD iA im),.s (Sp.jT (aaO s t x a b y z p N) 0 N aC (λn hn Km=>by
    obtain⟨hB,hM⟩:=jc n aC;have ho:=(Cl h ht hx hy iA im uK n λi hi=>jc i aC)
    obtain⟨pW,qD⟩:=AU ho iA im;have qs:=D2 pW qD;obtain⟨hA,ru⟩:=CU hB;have jo:=Bv (k:=8) h hx hy aE iA im hA;have Hh:=Bj h ht jo iA im;have tl:=pH (oZ s t (lK s x y (jP (lk (jA s t x y (ja s t y p) p (⟨iS,iM (iH b (iO a)) p true,false⟩:Iv) n) p)) 8 p) p) (ja s t y p) (aC:1<=p) (aC:p<=4096);have zw:=Ci s t x y (ja s t y p) (jA s t x y (ja s t y p) p (⟨iS,iM (iH b (iO a)) p true,false⟩:Iv) n) iA im pW;exact iL (ae [tT 43 ((n:Int)<4) aC,.c (DF (jA s t x y (ja s t y p) p (⟨iS,iM (iH b (iO a)) p true,false⟩:Iv) n) p ho.val ho.all iA im),.c (sM (lk (jA s t x y (ja s t y p) p (⟨iS,iM (iH b (iO a)) p true,false⟩:Iv) n) p) pW),.c (CR s x y (jP (lk (jA s t x y (ja s t y p) p (⟨iS,iM (iH b (iO a)) p true,false⟩:Iv) n) p)) 8 p h hx hy qs.val rfl qs.lo aE aE iA im hA),ai 59 ((0:Int) != 0) aE,.c (Bk s t (lK s x y (jP (lk (jA s t x y (ja s t y p) p (⟨iS,iM (iH b (iO a)) p true,false⟩:Iv) n) p)) 8 p) p h ht jo iA im),.c (uN (oZ s t (lK s x y (jP (lk (jA s t x y (ja s t y p) p (⟨iS,iM (iH b (iO a)) p true,false⟩:Iv) n) p)) 8 p) p) (ja s t y p) p aD aD aC aC),.c (zF (jP (lk (jA s t x y (ja s t y p) p (⟨iS,iM (iH b (iO a)) p true,false⟩:Iv) n) p)) (jO (oZ s t (lK s x y (jP (lk (jA s t x y (ja s t y p) p (⟨iS,iM (iH b (iO a)) p true,false⟩:Iv) n) p)) 8 p) p) (ja s t y p) p) p qs.val tl aC aC),ai 72 ((oA s t x y (ja s t y p) p (jA s t x y (ja s t y p) p (⟨iS,iM (iH b (iO a)) p true,false⟩:Iv) n)).all) ru,.c (Fv (jA s t x y (ja s t y p) p (⟨iS,iM (iH b (iO a)) p true,false⟩:Iv) n) (oA s t x y (ja s t y p) p (jA s t x y (ja s t y p) p (⟨iS,iM (iH b (iO a)) p true,false⟩:Iv) n)) ho.val zw ho.all ru hM),
     iF ((n:Int)+1) aC]<|.e (af [.b 14 (.ji rfl:Bx.le (.cells 39 (iN (nf (jA s t x y (ja s t y p) p (⟨iS,iM (iH b (iO a)) p true,false⟩:Iv) n) (oA s t x y (ja s t y p) p (jA s t x y (ja s t y p) p (⟨iS,iM (iH b (iO a)) p true,false⟩:Iv) n))))) (.cells 39 (iN (jA s t x y (ja s t y p) p (⟨iS,iM (iH b (iO a)) p true,false⟩:Iv) (n+1)))))])) aF)
  (λhn=>by
    have ho:=Cl h ht hx hy iA im uK N jc;obtain⟨pW,qD⟩:=AU ho iA im;have qs:=D2 pW qD;have jo:=Bv (k:=8) h hx hy aE iA im hA;have Hh:=Bj h ht jo iA im;have tl:=pH (oZ s t (lK s x y (jP (lk (jA s t x y (ja s t y p) p (⟨iS,iM (iH b (iO a)) p true,false⟩:Iv) N) p)) 8 p) p) (ja s t y p) (aC:1<=p) (aC:p<=4096);have zw:=Ci s t x y (ja s t y p) (jA s t x y (ja s t y p) p (⟨iS,iM (iH b (iO a)) p true,false⟩:Iv) N) iA im pW;exact iL (af [tT 43 ((N:Int)<4) aC,.c (DF (jA s t x y (ja s t y p) p (⟨iS,iM (iH b (iO a)) p true,false⟩:Iv) N) p ho.val ho.all iA im),.c (sM (lk (jA s t x y (ja s t y p) p (⟨iS,iM (iH b (iO a)) p true,false⟩:Iv) N) p) pW),.c (CR s x y (jP (lk (jA s t x y (ja s t y p) p (⟨iS,iM (iH b (iO a)) p true,false⟩:Iv) N) p)) 8 p h hx hy qs.val rfl qs.lo aE aE iA im hA),ai 59 ((0:Int) != 0) aE,.c (Bk s t (lK s x y (jP (lk (jA s t x y (ja s t y p) p (⟨iS,iM (iH b (iO a)) p true,false⟩:Iv) N) p)) 8 p) p h ht jo iA im),.c (uN (oZ s t (lK s x y (jP (lk (jA s t x y (ja s t y p) p (⟨iS,iM (iH b (iO a)) p true,false⟩:Iv) N) p)) 8 p) p) (ja s t y p) p aD aD aC aC),.c (zF (jP (lk (jA s t x y (ja s t y p) p (⟨iS,iM (iH b (iO a)) p true,false⟩:Iv) N) p)) (jO (oZ s t (lK s x y (jP (lk (jA s t x y (ja s t y p) p (⟨iS,iM (iH b (iO a)) p true,false⟩:Iv) N) p)) 8 p) p) (ja s t y p) p) p qs.val tl aC aC),ah 72 ((oA s t x y (ja s t y p) p (jA s t x y (ja s t y p) p (⟨iS,iM (iH b (iO a)) p true,false⟩:Iv) N)).all) ru]) aF) aI:jS 7 Tryz.f60 (aaO s t x a b y z p N 0) (.exit 0) ⟨84,true,[(14,.box 14 0),(10,.box 10 0)],[(14,.cells 39 (iN (jA s t x y (ja s t y p) p (⟨iS,iM (iH b (iO a)) p true,false⟩:Iv) N))),(10,.cells 39 au)]⟩) (af [.b 14 (KT:Bx.le (.cells 39 (ar++jg (iM (iH b (iO a)) p true)++[bP false])) (.cells 39 (iN (jA s t x y (ja s t y p) p (⟨iS,iM (iH b (iO a)) p true,false⟩:Iv) 0))))])]<|rR (sA (some (jA s t x y (ja s t y p) p (⟨iS,iM (iH b (iO a)) p true,false⟩:Iv) N))) (.ji rfl:E.le (.iE [iy (jA s t x y (ja s t y p) p (⟨iS,iM (iH b (iO a)) p true,false⟩:Iv) N),bP true]) (sA (some (jA s t x y (ja s t y p) p (⟨iS,iM (iH b (iO a)) p true,false⟩:Iv) N))))) 
def aou(s:jN)(t:ki)(x:List Iv)(a b:Dy)(y z:List Iv)(p:Nat)(h:mq s)(ht:oI s t)(hx:kE s.iG x)(hy:kE s.iG y)(iA:8<=p)(im:p<=512)(ha:a.ix)(hb:b.ix)(hE:(jY (iH b (iO a)) p true)=0)(uK:ur (⟨iS,iM (iH b (iO a)) p true,false⟩:Iv))(N:Nat)(hN:N<4)(jc:∀ i,i<N->xI s t x y (ja s t y p) p (⟨iS,iM (iH b (iO a)) p true,false⟩:Iv) i)(hA:sY (lK s x y (jP (lk (jA s t x y (ja s t y p) p (⟨iS,iM (iH b (iO a)) p true,false⟩:Iv) N) p)) 8 p)=false)(ru:((oA s t x y (ja s t y p) p (jA s t x y (ja s t y p) p (⟨iS,iM (iH b (iO a)) p true,false⟩:Iv) N))).all=false)(hM:tz (jA s t x y (ja s t y p) p (⟨iS,iM (iH b (iO a)) p true,false⟩:Iv) N) (oA s t x y (ja s t y p) p (jA s t x y (ja s t y p) p (⟨iS,iM (iH b (iO a)) p true,false⟩:Iv) N))=false):ie 60 [kf s,kW t,iu x,.agg (jg a++jg b++[iu y,iu z]),iP p] (sA none):=by
 have w1:=wN ha;have v4:=FQ h ht hy iA im;exact ak call60 func60 (ae [ag [iz a] (ve _ aD),.c (D6 b (iO a) p aD aD aC aC),ai 32 ((jY (iH b (iO a)) p true) != 0) (by simp[hE]),.c (IP s t y p h ht aD iA im),.s (Sp.jT (aaP s t x a b y z p N) 0 N aC (λn hn Km=>by
    obtain⟨hB,hM⟩:=jc n aC;have ho:=(Cl h ht hx hy iA im uK n λi hi=>jc i aC)
    obtain⟨pW,qD⟩:=AU ho iA im;have qs:=D2 pW qD;obtain⟨hA,ru⟩:=CU hB;have jo:=Bv (k:=8) h hx hy aE iA im hA;have Hh:=Bj h ht jo iA im;have tl:=pH (oZ s t (lK s x y (jP (lk (jA s t x y (ja s t y p) p (⟨iS,iM (iH b (iO a)) p true,false⟩:Iv) n) p)) 8 p) p) (ja s t y p) (aC:1<=p) (aC:p<=4096);have zw:=Ci s t x y (ja s t y p) (jA s t x y (ja s t y p) p (⟨iS,iM (iH b (iO a)) p true,false⟩:Iv) n) iA im pW;exact iL (ae [tT 43 ((n:Int)<4) aC,.c (DF (jA s t x y (ja s t y p) p (⟨iS,iM (iH b (iO a)) p true,false⟩:Iv) n) p ho.val ho.all iA im),.c (sM (lk (jA s t x y (ja s t y p) p (⟨iS,iM (iH b (iO a)) p true,false⟩:Iv) n) p) pW),.c (CR s x y (jP (lk (jA s t x y (ja s t y p) p (⟨iS,iM (iH b (iO a)) p true,false⟩:Iv) n) p)) 8 p h hx hy qs.val rfl qs.lo aE aE iA im hA),ai 59 ((0:Int) != 0) aE,.c (Bk s t (lK s x y (jP (lk (jA s t x y (ja s t y p) p (⟨iS,iM (iH b (iO a)) p true,false⟩:Iv) n) p)) 8 p) p h ht jo iA im),.c (uN (oZ s t (lK s x y (jP (lk (jA s t x y (ja s t y p) p (⟨iS,iM (iH b (iO a)) p true,false⟩:Iv) n) p)) 8 p) p) (ja s t y p) p aD aD aC aC),.c (zF (jP (lk (jA s t x y (ja s t y p) p (⟨iS,iM (iH b (iO a)) p true,false⟩:Iv) n) p)) (jO (oZ s t (lK s x y (jP (lk (jA s t x y (ja s t y p) p (⟨iS,iM (iH b (iO a)) p true,false⟩:Iv) n) p)) 8 p) p) (ja s t y p) p) p qs.val tl aC aC),ai 72 ((oA s t x y (ja s t y p) p (jA s t x y (ja s t y p) p (⟨iS,iM (iH b (iO a)) p true,false⟩:Iv) n)).all) ru,.c (Fv (jA s t x y (ja s t y p) p (⟨iS,iM (iH b (iO a)) p true,false⟩:Iv) n) (oA s t x y (ja s t y p) p (jA s t x y (ja s t y p) p (⟨iS,iM (iH b (iO a)) p true,false⟩:Iv) n)) ho.val zw ho.all ru hM),
     iF ((n:Int)+1) aC]<|.e (af [.b 14 (.ji rfl:Bx.le (.cells 39 (iN (nf (jA s t x y (ja s t y p) p (⟨iS,iM (iH b (iO a)) p true,false⟩:Iv) n) (oA s t x y (ja s t y p) p (jA s t x y (ja s t y p) p (⟨iS,iM (iH b (iO a)) p true,false⟩:Iv) n))))) (.cells 39 (iN (jA s t x y (ja s t y p) p (⟨iS,iM (iH b (iO a)) p true,false⟩:Iv) (n+1)))))])) aF)
  (λhn=>by
    have ho:=Cl h ht hx hy iA im uK N jc;obtain⟨pW,qD⟩:=AU ho iA im;have qs:=D2 pW qD;have jo:=Bv (k:=8) h hx hy aE iA im hA;have Hh:=Bj h ht jo iA im;have tl:=pH (oZ s t (lK s x y (jP (lk (jA s t x y (ja s t y p) p (⟨iS,iM (iH b (iO a)) p true,false⟩:Iv) N) p)) 8 p) p) (ja s t y p) (aC:1<=p) (aC:p<=4096);have zw:=Ci s t x y (ja s t y p) (jA s t x y (ja s t y p) p (⟨iS,iM (iH b (iO a)) p true,false⟩:Iv) N) iA im pW;exact iL (af [tT 43 ((N:Int)<4) aC,.c (DF (jA s t x y (ja s t y p) p (⟨iS,iM (iH b (iO a)) p true,false⟩:Iv) N) p ho.val ho.all iA im),.c (sM (lk (jA s t x y (ja s t y p) p (⟨iS,iM (iH b (iO a)) p true,false⟩:Iv) N) p) pW),.c (CR s x y (jP (lk (jA s t x y (ja s t y p) p (⟨iS,iM (iH b (iO a)) p true,false⟩:Iv) N) p)) 8 p h hx hy qs.val rfl qs.lo aE aE iA im hA),ai 59 ((0:Int) != 0) aE,.c (Bk s t (lK s x y (jP (lk (jA s t x y (ja s t y p) p (⟨iS,iM (iH b (iO a)) p true,false⟩:Iv) N) p)) 8 p) p h ht jo iA im),.c (uN (oZ s t (lK s x y (jP (lk (jA s t x y (ja s t y p) p (⟨iS,iM (iH b (iO a)) p true,false⟩:Iv) N) p)) 8 p) p) (ja s t y p) p aD aD aC aC),.c (zF (jP (lk (jA s t x y (ja s t y p) p (⟨iS,iM (iH b (iO a)) p true,false⟩:Iv) N) p)) (jO (oZ s t (lK s x y (jP (lk (jA s t x y (ja s t y p) p (⟨iS,iM (iH b (iO a)) p true,false⟩:Iv) N) p)) 8 p) p) (ja s t y p) p) p qs.val tl aC aC),ai 72 ((oA s t x y (ja s t y p) p (jA s t x y (ja s t y p) p (⟨iS,iM (iH b (iO a)) p true,false⟩:Iv) N)).all) ru,.c (W9 (jA s t x y (ja s t y p) p (⟨iS,iM (iH b (iO a)) p true,false⟩:Iv) N) (oA s t x y (ja s t y p) p (jA s t x y (ja s t y p) p (⟨iS,iM (iH b (iO a)) p true,false⟩:Iv) N)) ho.val zw ho.all ru hM)]) aF) aI:jS 7 Tryz.f60 (aaP s t x a b y z p N 0) .ret ⟨84,true,[(11,.e (bP false)),(10,.box 10 0)],[(10,.cells 39 (iN pA))]⟩) (af [.b 14 (KT:Bx.le (.cells 39 (ar++jg (iM (iH b (iO a)) p true)++[bP false])) (.cells 39 (iN (jA s t x y (ja s t y p) p (⟨iS,iM (iH b (iO a)) p true,false⟩:Iv) 0))))])]<|rR (sA none) (.ji rfl:E.le (.iE [iy pA,bP false]) (sA none))) 
def aov(s:jN)(t:ki)(x:List Iv)(a b:Dy)(y z:List Iv)(p:Nat)(h:mq s)(ht:oI s t)(hx:kE s.iG x)(hy:kE s.iG y)(iA:8<=p)(im:p<=512)(ha:a.ix)(hb:b.ix)(hE:(jY (iH b (iO a)) p true)=0)(uK:ur (⟨iS,iM (iH b (iO a)) p true,false⟩:Iv))(jc:∀ i,i<4->xI s t x y (ja s t y p) p (⟨iS,iM (iH b (iO a)) p true,false⟩:Iv) i):ie 60 [kf s,kW t,iu x,.agg (jg a++jg b++[iu y,iu z]),iP p] (sA (some (jA s t x y (ja s t y p) p (⟨iS,iM (iH b (iO a)) p true,false⟩:Iv) 4))):=by
 have w1:=wN ha;have v4:=FQ h ht hy iA im;exact ak call60 func60 (ae [ag [iz a] (ve _ aD),.c (D6 b (iO a) p aD aD aC aC),ai 32 ((jY (iH b (iO a)) p true) != 0) (by simp[hE]),.c (IP s t y p h ht aD iA im),.s (Sp.jT (aaQ s t x a b y z p) 0 4 aC (λn hn Km=>by
    obtain⟨hB,hM⟩:=jc n aC;have ho:=(Cl h ht hx hy iA im uK n λi hi=>jc i aC)
    obtain⟨pW,qD⟩:=AU ho iA im;have qs:=D2 pW qD;obtain⟨hA,ru⟩:=CU hB;have jo:=Bv (k:=8) h hx hy aE iA im hA;have Hh:=Bj h ht jo iA im;have tl:=pH (oZ s t (lK s x y (jP (lk (jA s t x y (ja s t y p) p (⟨iS,iM (iH b (iO a)) p true,false⟩:Iv) n) p)) 8 p) p) (ja s t y p) (aC:1<=p) (aC:p<=4096);have zw:=Ci s t x y (ja s t y p) (jA s t x y (ja s t y p) p (⟨iS,iM (iH b (iO a)) p true,false⟩:Iv) n) iA im pW;exact iL (ae [tT 43 ((n:Int)<4) aC,.c (DF (jA s t x y (ja s t y p) p (⟨iS,iM (iH b (iO a)) p true,false⟩:Iv) n) p ho.val ho.all iA im),.c (sM (lk (jA s t x y (ja s t y p) p (⟨iS,iM (iH b (iO a)) p true,false⟩:Iv) n) p) pW),.c (CR s x y (jP (lk (jA s t x y (ja s t y p) p (⟨iS,iM (iH b (iO a)) p true,false⟩:Iv) n) p)) 8 p h hx hy qs.val rfl qs.lo aE aE iA im hA),ai 59 ((0:Int) != 0) aE,.c (Bk s t (lK s x y (jP (lk (jA s t x y (ja s t y p) p (⟨iS,iM (iH b (iO a)) p true,false⟩:Iv) n) p)) 8 p) p h ht jo iA im),.c (uN (oZ s t (lK s x y (jP (lk (jA s t x y (ja s t y p) p (⟨iS,iM (iH b (iO a)) p true,false⟩:Iv) n) p)) 8 p) p) (ja s t y p) p aD aD aC aC),.c (zF (jP (lk (jA s t x y (ja s t y p) p (⟨iS,iM (iH b (iO a)) p true,false⟩:Iv) n) p)) (jO (oZ s t (lK s x y (jP (lk (jA s t x y (ja s t y p) p (⟨iS,iM (iH b (iO a)) p true,false⟩:Iv) n) p)) 8 p) p) (ja s t y p) p) p qs.val tl aC aC),ai 72 ((oA s t x y (ja s t y p) p (jA s t x y (ja s t y p) p (⟨iS,iM (iH b (iO a)) p true,false⟩:Iv) n)).all) ru,.c (Fv (jA s t x y (ja s t y p) p (⟨iS,iM (iH b (iO a)) p true,false⟩:Iv) n) (oA s t x y (ja s t y p) p (jA s t x y (ja s t y p) p (⟨iS,iM (iH b (iO a)) p true,false⟩:Iv) n)) ho.val zw ho.all ru hM),
     iF ((n:Int)+1) aC]<|.e (af [.b 14 (.ji rfl:Bx.le (.cells 39 (iN (nf (jA s t x y (ja s t y p) p (⟨iS,iM (iH b (iO a)) p true,false⟩:Iv) n) (oA s t x y (ja s t y p) p (jA s t x y (ja s t y p) p (⟨iS,iM (iH b (iO a)) p true,false⟩:Iv) n))))) (.cells 39 (iN (jA s t x y (ja s t y p) p (⟨iS,iM (iH b (iO a)) p true,false⟩:Iv) (n+1)))))])) aF)
  (λhn=>by
    exact iL (af [ai 43 (decide ((4:Int)<4)) aE]) aF) aI:jS 7 Tryz.f60 (aaQ s t x a b y z p 0) (.exit 0) ⟨84,true,[(14,.box 14 0),(10,.box 10 0)],[(14,.cells 39 (iN (jA s t x y (ja s t y p) p (⟨iS,iM (iH b (iO a)) p true,false⟩:Iv) 4))),(10,.cells 39 au)]⟩) (af [.b 14 (KT:Bx.le (.cells 39 (ar++jg (iM (iH b (iO a)) p true)++[bP false])) (.cells 39 (iN (jA s t x y (ja s t y p) p (⟨iS,iM (iH b (iO a)) p true,false⟩:Iv) 0))))])]<|rR (sA (some (jA s t x y (ja s t y p) p (⟨iS,iM (iH b (iO a)) p true,false⟩:Iv) 4))) (.ji rfl:E.le (.iE [iy (jA s t x y (ja s t y p) p (⟨iS,iM (iH b (iO a)) p true,false⟩:Iv) 4),bP true]) (sA (some (jA s t x y (ja s t y p) p (⟨iS,iM (iH b (iO a)) p true,false⟩:Iv) 4))))) 
def P5(s:jN)(t:ki)(x y:List Iv)(l:Iv)(p:Nat)(o:Iv):∀ n,jA s t x y l p (nf o (oA s t x y l p o)) n=jA s t x y l p o (n+1)
 | 0=>rfl
 |n+1=>by
  show nf (jA s t x y l p (nf o (oA s t x y l p o)) n) (oA s t x y l p (jA s t x y l p (nf o (oA s t x y l p o)) n))=_;rw[P5 s t x y l p o n];rfl
def akD{s:jN}{t:ki}{x y:List Iv}{l:Iv}{p:Nat}{o:Iv}{n:Nat}(h:xI s t x y l p o (n+1)):xI s t x y l p (nf o (oA s t x y l p o)) n:=by
 unfold xI at h ⊢;rwa[P5]
def Q6{s:jN}{t:ki}{x y:List Iv}{l:Iv}{p:Nat}:∀ (n k:Nat) (o:Iv),(∀ i,i<n->xI s t x y l p o i)->Be s t x y l p (n+k) o=Be s t x y l p k (jA s t x y l p o n)
 | 0,k,o,_=>by rw[cD];rfl
 |n+1,k,o,h=>by
  have h0:=h 0 aC;have h1:BB s t x y l p o=false:=h0.1;have h2:tz o (oA s t x y l p o)=true:=h0.2;rw[(aC:n+1+k=(n+k)+1)];show(if BB s t x y l p o=true then some o else if tz o (oA s t x y l p o)=true then Be s t x y l p (n+k) (nf o (oA s t x y l p o))else none)=_;rw[h1,bA aE,h2,bB rfl,Q6 n k _ λi hi=>akD (h (i+1) aC),P5]
noncomputable def F2(s:jN)(t:ki)(x:List Iv)(a b:Dy)(y:List Iv)(p:Nat):Option Iv:=if(jY (iH b (iO a)) p true)=0 then Be s t x y (ja s t y p) p 4 (⟨iS,iM (iH b (iO a)) p true,false⟩:Iv)else some il
def aox(s:jN)(t:ki)(x:List Iv)(a b:Dy)(y z:List Iv)(p:Nat)(h:mq s)(ht:oI s t)(hx:kE s.iG x)(hy:kE s.iG y)(iA:8<=p)(im:p<=512)(ha:a.ix)(hb:b.ix)(sX:jf a b<0):ie 60 [kf s,kW t,iu x,.agg (jg a++jg b++[iu y,iu z]),iP p] (sA (F2 s t x a b y p)):=by
 unfold F2;by_cases hE:(jY (iH b (iO a)) p true)=0
 .rw [bB hE];have uK:ur (⟨iS,iM (iH b (iO a)) p true,false⟩:Iv):=T7 iA im ha hb sX hE;by_cases xm:∀ i,i<4->xI s t x y (ja s t y p) p (⟨iS,iM (iH b (iO a)) p true,false⟩:Iv) i
  .have:=aov s t x a b y z p h ht hx hy iA im ha hb hE uK xm;rwa[show Be s t x y (ja s t y p) p 4 (⟨iS,iM (iH b (iO a)) p true,false⟩:Iv)=some (jA s t x y (ja s t y p) p (⟨iS,iM (iH b (iO a)) p true,false⟩:Iv) 4)from(Q6 4 0 _ xm)]
  .obtain ⟨N,n1,n2,n3⟩:∃ N,N<4/\¬xI s t x y (ja s t y p) p (⟨iS,iM (iH b (iO a)) p true,false⟩:Iv) N/\∀ i,i<N->xI s t x y (ja s t y p) p (⟨iS,iM (iH b (iO a)) p true,false⟩:Iv) i:=Wv xm;have mU:=Q6 N (4-N) _ n3;rw[(aC:N+(4-N)=(3-N+1)+N)]at mU;rw[(aC:3-N+1+N=4),(aC:4-N=3-N+1)]at mU;rw[mU];unfold Be;cases hB:BB s t x y (ja s t y p) p (jA s t x y (ja s t y p) p (⟨iS,iM (iH b (iO a)) p true,false⟩:Iv) N)with
   |true=>
    rw[bB rfl];have NP:=hB;unfold BB at NP;cases hA:sY (lK s x y (jP (lk (jA s t x y (ja s t y p) p (⟨iS,iM (iH b (iO a)) p true,false⟩:Iv) N) p)) 8 p)with
    |true=>exact aos s t x a b y z p h ht hx hy iA im ha hb hE uK N n1 n3 hA
    |false=>
     rw[hA,apx]at NP;exact aot s t x a b y z p h ht hx hy iA im ha hb hE uK N n1 n3 hA NP
   |false=>
    obtain⟨hA,ru⟩:=CU hB;rw[bA aE];cases hM:tz (jA s t x y (ja s t y p) p (⟨iS,iM (iH b (iO a)) p true,false⟩:Iv) N) (oA s t x y (ja s t y p) p (jA s t x y (ja s t y p) p (⟨iS,iM (iH b (iO a)) p true,false⟩:Iv) N))with
    |true=>exact absurd ⟨hB,hM⟩ n2
    |false=>
     rw[bA aE];exact aou s t x a b y z p h ht hx hy iA im ha hb hE uK N n1 n3 hA ru hM
 .rw [bA hE];exact aow s t x a b y z p h ht hx hy iA im ha hb hE
def M9(k dir:Int)(w:Iv)(wh:E):List E:=[iP 0,iP k,iP dir]++iN w++[wh]
def q9(k dir:Int)(w:Iv)(wh:E):E:=.agg (M9 k dir w wh)
def ug:E:=.v (.slice none 0 0)
noncomputable def Md(s:jN)(x y:List Iv)(o:Iv)(p:Nat):Option (List Iv):=if o.all=true then some y else if sY (lK s x y o 8 p)=true then some y else if H8 y (lK s x y o 8 p)=true then some (vE y (lK s x y o 8 p))else none
noncomputable def yR(s:jN)(t:ki)(x:List Iv)(a b:Dy)(y:List Iv)(p:Nat):Option (Iv×List Iv):=match F2 s t x a b y p with
 |none=>none
 |some o=>match Md s x y o p with
  |none=>none
  |some l=>some (jX (jP a) o p,l)
noncomputable def CA(s:jN)(t:ki)(x:List Iv)(a b:Dy)(y z:List Iv)(dir:Int)(p:Nat):E:=
 if nT s t x y z dir p=3 then(match yR s t x a b y p with
  |none=>.iE [q9 0 0 pA ug,iP 14]
  |some q=>.iE [q9 3 dir q.1 (iu q.2),iP 0])
 else .iE [q9 (nT s t x y z dir p) 0 pA ug,iP 0]
def adX{c k d:Int}{w:E}:tc [iP c,iP k,iP d,bP false,.v (.slice none 0 0),iP 0,bP false,.v (.slice none 0 0),iP 0,bP false,w] ([iP c,iP k,iP d]++iN pA++[w]):=by
 have e1:E.le (.v (.slice none 0 0)) (ik (ij 0)):=by rw[oV];exact .nil _ _ _
 exact .cons (.refl _) (.cons (.refl _) (.cons (.refl _) (.cons (.refl _) (.cons e1 (.cons (.refl _) (.cons (.refl _) (.cons e1 (.cons (.refl _) (.cons (.refl _) (.cons (.refl _) .nil))))))))))
def Na{k e:Int}:E.le (.iE [.agg [iP 0,iP k,iP 0,bP false,.v (.slice none 0 0),iP 0,bP false,.v (.slice none 0 0),iP 0,bP false,.v (.slice none 0 0)],iP e]) (.iE [q9 k 0 pA ug,iP e]):=
 .iE (.cons (.agg adX) (.cons (.refl _) .nil))
def Rd{s:jN}{t:ki}{x:List Iv}{a b:Dy}{y:List Iv}{p:Nat}(h:mq s)(ht:oI s t)(hx:kE s.iG x)(hy:kE s.iG y)(iA:8<=p)(im:p<=512)(ha:a.ix)(hb:b.ix)(sX:jf a b<0){o:Iv}(ho:F2 s t x a b y p=some o):o=il\/ur o:=by
 unfold F2 at ho;split at ho
 .rename_i hE;have h0:=T7 iA im ha hb sX hE;generalize (⟨iS,iM (iH b (iO a)) p true,false⟩:Iv)=u at ho h0;have key:∀ (n:Nat) (u:Iv),ur u->Be s t x y (ja s t y p) p n u=some o->ur o:=by
   intro n
   induction n with
   |zero=>intro u hu h;cases h;exact hu
   |succ n ih=>
    intro u hu h;unfold Be at h;split at h
    .cases h;exact hu
    .rename_i hB;split at h
     .rename_i hM;exact ih _ (W7 hu (Ci s t x y _ _ iA im (AU hu iA im).1) (CU (by simpa using hB)).2 hM) h
     .cases h
  exact .inr (key 4 u h0 ho)
 .cases ho;exact .inl rfl
def al1(s:jN)(t:ki)(x:List Iv)(a b:Dy)(y z:List Iv)(dir:Int)(p:Nat)(h:mq s)(ht:oI s t)(hx:kE s.iG x)(hy:kE s.iG y)(hz:kE s.iG z)(iA:8<=p)(im:p<=512)(ha:a.ix)(qS:ie 56 [kf s,kW t] (bP true))(oP:ie 57 [kf s,iu x,.agg (jg a++jg b++[iu y,iu z])] (bP true))(tO:ie 58 [iP dir,iP p] (bP true))(hk:(nT s t x y z dir p)≠3):ie 11 [kf s,kW t,iu x,.agg (jg a++jg b++[iu y,iu z]),iP dir,iP p] (.iE [q9 (nT s t x y z dir p) 0 pA ug,iP 0]):=
 ak call11 func11 (ae [ag [kf s,kW t] qS,ag [kf s,iu x,.agg (jg a++jg b++[iu y,iu z])] oP,ag [iP dir,iP p] tO,.c (Hq s t x a b y z dir p h ht hx hy hz iA im),ah 48 ((nT s t x y z dir p) != 3) (by simp[hk])]<|rR (.iE [q9 (nT s t x y z dir p) 0 pA ug,iP 0]) (Na:E.le (.iE [.agg [iP 0,iP (nT s t x y z dir p),iP 0,bP false,.v (.slice none 0 0),iP 0,bP false,.v (.slice none 0 0),iP 0,bP false,.v (.slice none 0 0)],iP 0]) (.iE [q9 (nT s t x y z dir p) 0 pA ug,iP 0]))) 
def al0(s:jN)(t:ki)(x:List Iv)(a b:Dy)(y z:List Iv)(dir:Int)(p:Nat)(h:mq s)(ht:oI s t)(hx:kE s.iG x)(hy:kE s.iG y)(hz:kE s.iG z)(iA:8<=p)(im:p<=512)(ha:a.ix)(qS:ie 56 [kf s,kW t] (bP true))(oP:ie 57 [kf s,iu x,.agg (jg a++jg b++[iu y,iu z])] (bP true))(tO:ie 58 [iP dir,iP p] (bP true))(hk:(nT s t x y z dir p)=3)(hW:ie 60 [kf s,kW t,iu x,.agg (jg a++jg b++[iu y,iu z]),iP p] (sA none)):ie 11 [kf s,kW t,iu x,.agg (jg a++jg b++[iu y,iu z]),iP dir,iP p] (.iE [q9 0 0 pA ug,iP 14]):=
 ak call11 func11 (ae [ag [kf s,kW t] qS,ag [kf s,iu x,.agg (jg a++jg b++[iu y,iu z])] oP,ag [iP dir,iP p] tO,.c (Hq s t x a b y z dir p h ht hx hy hz iA im),ai 48 ((nT s t x y z dir p) != 3) (by simp[hk]),ag [kf s,kW t,iu x,.agg (jg a++jg b++[iu y,iu z]),iP p] hW]<|rR (.iE [q9 0 0 pA ug,iP 14]) (Na:E.le (.iE [.agg [iP 0,iP 0,iP 0,bP false,.v (.slice none 0 0),iP 0,bP false,.v (.slice none 0 0),iP 0,bP false,.v (.slice none 0 0)],iP 14]) (.iE [q9 0 0 pA ug,iP 14]))) 
def Zf(s:jN)(t:ki)(x:List Iv)(a b:Dy)(y z:List Iv)(dir:Int)(p:Nat)(h:mq s)(ht:oI s t)(hx:kE s.iG x)(hy:kE s.iG y)(hz:kE s.iG z)(iA:8<=p)(im:p<=512)(ha:a.ix)(qS:ie 56 [kf s,kW t] (bP true))(oP:ie 57 [kf s,iu x,.agg (jg a++jg b++[iu y,iu z])] (bP true))(tO:ie 58 [iP dir,iP p] (bP true))(hk:(nT s t x y z dir p)=3)(o:Iv)(ho:o.ix)(hW:ie 60 [kf s,kW t,iu x,.agg (jg a++jg b++[iu y,iu z]),iP p] (sA (some o)))(e:Int)(he:e≠0)(hA:ie 64 [kf s,iu x,iu y,iy o,iP 8,iP p] (.iE [.v (.slice none 0 0),iP e])):ie 11 [kf s,kW t,iu x,.agg (jg a++jg b++[iu y,iu z]),iP dir,iP p] (.iE [q9 3 dir (jX (jP a) o p) (iu y),iP 0]):=by
 have s1:=h.s1;have s4:=h.s4;have ly:=hy.len;exact ak call11 func11 (ae [ag [kf s,kW t] qS,ag [kf s,iu x,.agg (jg a++jg b++[iu y,iu z])] oP,ag [iP dir,iP p] tO,.c (Hq s t x a b y z dir p h ht hx hy hz iA im),ai 48 ((nT s t x y z dir p) != 3) (by simp[hk]),ag [kf s,kW t,iu x,.agg (jg a++jg b++[iu y,iu z]),iP p] hW,.c (sM a ha),.c (xA (jP a) o p (rH ha) ho aC aC),ag [iu y] (M0 _ aC aC),ag [kf s,iu x,iu y,iy o,iP 8,iP p] hA,ai 86 (e==0) (by simp[he])]<|rQ (.iE [.agg ([iP 0,iP (nT s t x y z dir p),iP dir]++iN (jX (jP a) o p)++[iu y]),iP 0]) (.iE [q9 3 dir (jX (jP a) o p) (iu y),iP 0]) (by unfold q9 M9;rw[hk])) 
def al2(s:jN)(t:ki)(x:List Iv)(a b:Dy)(y z:List Iv)(dir:Int)(p:Nat)(h:mq s)(ht:oI s t)(hx:kE s.iG x)(hy:kE s.iG y)(hz:kE s.iG z)(iA:8<=p)(im:p<=512)(ha:a.ix)(qS:ie 56 [kf s,kW t] (bP true))(oP:ie 57 [kf s,iu x,.agg (jg a++jg b++[iu y,iu z])] (bP true))(tO:ie 58 [iP dir,iP p] (bP true))(hk:(nT s t x y z dir p)=3)(o:Iv)(ho:o.ix)(hW:ie 60 [kf s,kW t,iu x,.agg (jg a++jg b++[iu y,iu z]),iP p] (sA (some o)))(hA:ie 64 [kf s,iu x,iu y,iy o,iP 8,iP p] (.iE [iu (lK s x y o 8 p),iP 0]))(hM:ie 65 [iu y,iu (lK s x y o 8 p)] (.iE [iu (vE y (lK s x y o 8 p)),bP true])):ie 11 [kf s,kW t,iu x,.agg (jg a++jg b++[iu y,iu z]),iP dir,iP p] (.iE [q9 3 dir (jX (jP a) o p) (iu (vE y (lK s x y o 8 p))),iP 0]):=by
 have s1:=h.s1;have s4:=h.s4;have ly:=hy.len;exact ak call11 func11 (ae [ag [kf s,kW t] qS,ag [kf s,iu x,.agg (jg a++jg b++[iu y,iu z])] oP,ag [iP dir,iP p] tO,.c (Hq s t x a b y z dir p h ht hx hy hz iA im),ai 48 ((nT s t x y z dir p) != 3) (by simp[hk]),ag [kf s,kW t,iu x,.agg (jg a++jg b++[iu y,iu z]),iP p] hW,.c (sM a ha),.c (xA (jP a) o p (rH ha) ho aC aC),ag [iu y] (M0 _ aC aC),ag [kf s,iu x,iu y,iy o,iP 8,iP p] hA,ah 86 ((0:Int)==0) aE,ag [iu y,iu (lK s x y o 8 p)] hM]<|rQ (.iE [.agg ([iP 0,iP (nT s t x y z dir p),iP dir]++iN (jX (jP a) o p)++[iu (vE y (lK s x y o 8 p))]),iP 0]) (.iE [q9 3 dir (jX (jP a) o p) (iu (vE y (lK s x y o 8 p))),iP 0]) (by unfold q9 M9;rw[hk])) 
def alZ(s:jN)(t:ki)(x:List Iv)(a b:Dy)(y z:List Iv)(dir:Int)(p:Nat)(h:mq s)(ht:oI s t)(hx:kE s.iG x)(hy:kE s.iG y)(hz:kE s.iG z)(iA:8<=p)(im:p<=512)(ha:a.ix)(qS:ie 56 [kf s,kW t] (bP true))(oP:ie 57 [kf s,iu x,.agg (jg a++jg b++[iu y,iu z])] (bP true))(tO:ie 58 [iP dir,iP p] (bP true))(hk:(nT s t x y z dir p)=3)(o:Iv)(ho:o.ix)(hW:ie 60 [kf s,kW t,iu x,.agg (jg a++jg b++[iu y,iu z]),iP p] (sA (some o)))(hA:ie 64 [kf s,iu x,iu y,iy o,iP 8,iP p] (.iE [iu (lK s x y o 8 p),iP 0]))(hM:ie 65 [iu y,iu (lK s x y o 8 p)] (.iE [.v (.slice none 0 0),bP false])):ie 11 [kf s,kW t,iu x,.agg (jg a++jg b++[iu y,iu z]),iP dir,iP p] (.iE [q9 0 0 pA ug,iP 14]):=by
 have s1:=h.s1;have s4:=h.s4;have ly:=hy.len;exact ak call11 func11 (ae [ag [kf s,kW t] qS,ag [kf s,iu x,.agg (jg a++jg b++[iu y,iu z])] oP,ag [iP dir,iP p] tO,.c (Hq s t x a b y z dir p h ht hx hy hz iA im),ai 48 ((nT s t x y z dir p) != 3) (by simp[hk]),ag [kf s,kW t,iu x,.agg (jg a++jg b++[iu y,iu z]),iP p] hW,.c (sM a ha),.c (xA (jP a) o p (rH ha) ho aC aC),ag [iu y] (M0 _ aC aC),ag [kf s,iu x,iu y,iy o,iP 8,iP p] hA,ah 86 ((0:Int)==0) aE,ag [iu y,iu (lK s x y o 8 p)] hM]<|rR (.iE [q9 0 0 pA ug,iP 14]) (Na:E.le (.iE [.agg [iP 0,iP 0,iP 0,bP false,.v (.slice none 0 0),iP 0,bP false,.v (.slice none 0 0),iP 0,bP false,.v (.slice none 0 0)],iP 14]) (.iE [q9 0 0 pA ug,iP 14]))) 
def anL(t:Iv)(ta:t.all=true):ie 147 [iy t] (bP false):=
 ak call147 func147 (af [ah 4 t.all ta]) 
def abx(s:jN)(x y:List Iv)(t:Iv)(p:Nat)(h:mq s)(hx:kE s.iG x)(hy:kE s.iG y)(ta:t.all=true)(iA:8<=p)(im:p<=512):ie 64 [kf s,iu x,iu y,iy t,iP 8,iP p] (.iE [.v (.slice none 0 0),iP 2]):=by
 have s1:=h.s1;have s4:=h.s4;have lx:=hx.len;have ly:=hy.len;exact ak call64 func64 (af [.o 23 (.e (DS _ _):aj (.sl true 2 1 λi_ j_=>[iu x,iu y].getD (i_*1+j_) (.v (.bool false))) (lW [x,y])),.c (MK s x h aD y aD),ag [iP p] (P9 _ aC aC),ag [iP 8] (P3 8 aE aE),.c (anL t ta)]) 
def al6(s:jN)(t:ki)(x:List Iv)(a b:Dy)(y z:List Iv)(dir:Int)(p:Nat)(h:mq s)(ht:oI s t)(hx:kE s.iG x)(hy:kE s.iG y)(hz:kE s.iG z)(iA:8<=p)(im:p<=512)(ha:a.ix)(qS:ie 56 [kf s,kW t] (bP true))(oP:ie 57 [kf s,iu x,.agg (jg a++jg b++[iu y,iu z])] (bP true))(tO:ie 58 [iP dir,iP p] (bP true))(hb:b.ix)(sX:jf a b<0):ie 11 [kf s,kW t,iu x,.agg (jg a++jg b++[iu y,iu z]),iP dir,iP p] (CA s t x a b y z dir p):=by
 unfold CA;by_cases hk:(nT s t x y z dir p)=3
 .rw [bB hk];have hW:=aox s t x a b y z p h ht hx hy iA im ha hb sX;have mc:=@Rd s t x a b y p h ht hx hy iA im ha hb sX;unfold yR;cases hw:F2 s t x a b y p with
  |none=>
   rw[hw]at hW;exact al0 s t x a b y z dir p h ht hx hy hz iA im ha qS oP tO hk hW
  |some o=>
   rw[hw]at hW;have s1:=h.s1;have s4:=h.s4;have ly:=hy.len;show ie _ _ (match(match Md s x y o p with|none=>none|some l=>some (jX (jP a) o p,l))with|none=>_|some q=>_);unfold Md;rcases mc hw with rfl|ho
   .rw [bB (show il.all=true from rfl)];exact Zf s t x a b y z dir p h ht hx hy hz iA im ha qS oP tO hk il mw hW 2 aE (abx s x y il p h hx hy rfl iA im)
   .rw [bA (by rw[ho.all];decide)];cases hA:sY (lK s x y o 8 p)with
    |true=>
     rw[bB rfl];exact Zf s t x a b y z dir p h ht hx hy hz iA im ha qS oP tO hk o ho.val hW 11 aE (RU s x y o 8 p h hx hy ho.val ho.all ho.lo aE aE iA im hA)
    |false=>
     have jo:=Bv (k:=8) h hx hy aE iA im hA;have hP:=CR s x y o 8 p h hx hy ho.val ho.all ho.lo aE aE iA im hA;have sW:=acA y (lK s x y o 8 p) aC aC (by rw[jo.len,ly]) hy.ok jo.ok;rw[bA aE];unfold PA at sW;cases hM:H8 y (lK s x y o 8 p)with
     |true=>
      rw[hM,bB rfl]at sW;rw[bB rfl];exact al2 s t x a b y z dir p h ht hx hy hz iA im ha qS oP tO hk o ho.val hW hP sW
     |false=>
      rw[hM,bA aE]at sW;rw[bA aE];exact alZ s t x a b y z dir p h ht hx hy hz iA im ha qS oP tO hk o ho.val hW hP sW
 .rw [bA hk];exact al1 s t x a b y z dir p h ht hx hy hz iA im ha qS oP tO hk
set_option maxRecDepth 100000 in
def kH(t:jt):E:=.agg [iP t.iw,jK t.ig,jM t.iC]
def sO(t:jt):Bool:=decide (0<=t.iw/\t.iw<=8/\t.ig.length<=200/\t.iC.length<=200)&&FK t&&s7 t
def Y6(s:jt)(N:Nat)(x:Nat):PS:=⟨46,true,[(28,.e (iP x)),(27,.e (iP s.ig.length)),(26,.e (jK s.ig)),(1,.box 1 0)],[(1,.cells 25 [iP s.iw,jK s.ig,jM s.iC])]⟩
def Y7(s:jt)(x:Nat):PS:=⟨46,true,[(28,.e (iP x)),(27,.e (iP s.ig.length)),(26,.e (jK s.ig)),(1,.box 1 0)],[(1,.cells 25 [iP s.iw,jK s.ig,jM s.iC])]⟩
def oi(k:Int):Int:=if k=1 then 0 else if 3<=k/\k<=6 then 2 else if 7<=k/\k<=13 then 1 else -1
def tX{a b:Int}(h:a=b):iP a=iP b:=h▸rfl
def K3(k:Int):ie 152 [iP k] (iP (oi k)):=
 ak call152 func152 (.w (k=1)
  (λk1=>ae [tB 5 (bn k1)]<|rQ (iP 0) (iP (oi k)) (tX aS))
  (λk1=>ae [tB 5 (bk k1)]<|.w (k=3)
   (λk2=>ae [tB 7 (bn k2)]<|rQ (iP 2) (iP (oi k)) (tX aS))
   (λk2=>ae [tB 7 (bk k2)]<|.w (k=4)
    (λk3=>ae [tB 8 (bn k3)]<|rQ (iP 2) (iP (oi k)) (tX aS))
    (λk3=>ae [tB 8 (bk k3)]<|.w (k=5)
     (λk4=>ae [tB 9 (bn k4)]<|rQ (iP 2) (iP (oi k)) (tX aS))
     (λk4=>ae [tB 9 (bk k4)]<|.w (k=6)
      (λk5=>ae [tB 10 (bn k5)]<|rQ (iP 2) (iP (oi k)) (tX aS))
      (λk5=>ae [tB 10 (bk k5)]<|.w (k=7)
       (λk6=>ae [tB 12 (bn k6)]<|rQ (iP 1) (iP (oi k)) (tX aS))
       (λk6=>ae [tB 12 (bk k6)]<|.w (k=8)
        (λk7=>ae [tB 13 (bn k7)]<|rQ (iP 1) (iP (oi k)) (tX aS))
        (λk7=>ae [tB 13 (bk k7)]<|.w (k=9)
         (λk8=>ae [tB 14 (bn k8)]<|rQ (iP 1) (iP (oi k)) (tX aS))
         (λk8=>ae [tB 14 (bk k8)]<|.w (k=10)
          (λk9=>ae [tB 15 (bn k9)]<|rQ (iP 1) (iP (oi k)) (tX aS))
          (λk9=>ae [tB 15 (bk k9)]<|.w (k=11)
           (λk10=>ae [tB 16 (bn k10)]<|rQ (iP 1) (iP (oi k)) (tX aS))
           (λk10=>ae [tB 16 (bk k10)]<|.w (k=12)
            (λk11=>ae [tB 17 (bn k11)]<|rQ (iP 1) (iP (oi k)) (tX aS))
            (λk11=>ae [tB 17 (bk k11)]<|.w (k=13)
             (λk12=>ae [tB 18 (bn k12)]<|rQ (iP 1) (iP (oi k)) (tX aS))
             (λk12=>ae [tB 18 (bk k12)]<|rQ (iP (-1)) (iP (oi k)) (tX aS)))))))))))))) 
def ajH(o:mO)(h:o.kind=1):ie 152 [iP o.kind] (iP 0):=by
 have:=K3 o.kind;rwa[show oi o.kind=0 by unfold oi;(repeat' split)<;>omega]at this
def ajF(o:mO)(h:3<=o.kind/\o.kind<=6):ie 152 [iP o.kind] (iP 2):=by
 have:=K3 o.kind;rwa[show oi o.kind=2 by unfold oi;(repeat' split)<;>omega]at this
def ajI(o:mO)(h:7<=o.kind/\o.kind<=13):ie 152 [iP o.kind] (iP 1):=by
 have:=K3 o.kind;rwa[show oi o.kind=1 by unfold oi;(repeat' split)<;>omega]at this
def ajG(o:mO)(h:o.kind≠1/\¬(3<=o.kind/\o.kind<=6)/\¬(7<=o.kind/\o.kind<=13)):ie 152 [iP o.kind] (iP (-1)):=by
 have:=K3 o.kind;rwa[show oi o.kind = -1 by unfold oi;(repeat' split)<;>omega]at this
def akb(o:mO)(m:Int)(g:o.iW)(h:o.kind=1):ie 66 [uT o,iP m] (bP (jb o m)):=
 ak call66 func66 (ae [ag [iP o.kind] (ajH o h),ai 14 (decide ((0:Int)<0)) aE,ah 17 ((0:Int)==0) aE,.c (Iz o.cn o.cd)]<|.w (nO o.cn o.cd=true)
  (λk1=>ae [tB 20 k1]<|.w (o.kind=8)
   (λk2=>ae [tB 26 (bn k2)]<|.w (o.n<0)
    (λk3=>ae [tB 29 (bC k3)]<|rQ (bP false) (bP (jb o m)) (jL aO))
    (λk3=>ae [tB 29 (bD k3)]<|.w (16<o.n)
     (λk4=>ae [tB 33 (bC k4)]<|rQ (bP false) (bP (jb o m)) (jL aO))
     (λk4=>ae [tB 33 (bD k4),ai 37 (decide ((0:Int)<0)) aE,ai 49 (decide ((1:Int)<0)) aE,.g (zS kT g.a g.b kT kT kT kT kT kT kT kT kT:oJ prog .eql 107 (.agg [iP 0,iP o.a,iP o.b,iP 0,iP 0,iP 0]) (.agg [iP 0,iP 0,iP 0,iP 0,iP 0,iP 0]) (.bool (decide ((0:Int)=0/\(o.a:Int)=0/\(o.b:Int)=0/\(0:Int)=0/\(0:Int)=0/\(0:Int)=0))))]<|rQ (bP (decide ((0:Int)=0/\(o.a:Int)=0/\(o.b:Int)=0/\(0:Int)=0/\(0:Int)=0/\(0:Int)=0))) (bP (jb o m)) (jL aO))))
   (λk2=>ae [tB 26 (bk k2),ai 37 (decide ((0:Int)<0)) aE,ai 49 (decide ((1:Int)<0)) aE,.g (zS kT g.a g.b g.n kT kT kT kT kT kT kT kT:oJ prog .eql 107 (.agg [iP 0,iP o.a,iP o.b,iP o.n,iP 0,iP 0]) (.agg [iP 0,iP 0,iP 0,iP 0,iP 0,iP 0]) (.bool (decide ((0:Int)=0/\(o.a:Int)=0/\(o.b:Int)=0/\(o.n:Int)=0/\(0:Int)=0/\(0:Int)=0))))]<|rQ (bP (decide ((0:Int)=0/\(o.a:Int)=0/\(o.b:Int)=0/\(o.n:Int)=0/\(0:Int)=0/\(0:Int)=0))) (bP (jb o m)) (jL aO)))
  (λk1=>ae [tB 20 (bt k1)]<|rQ (bP false) (bP (jb o m)) (jL aO))) 
def aj9(o:mO)(m:Int)(g:o.iW)(h:3<=o.kind/\o.kind<=6):ie 66 [uT o,iP m] (bP (jb o m)):=
 ak call66 func66 (ae [ag [iP o.kind] (ajF o h),ai 14 (decide ((2:Int)<0)) aE,ai 17 ((2:Int)==0) aE]<|.w (o.kind=8)
  (λk1=>ae [tB 26 (bn k1)]<|.w (o.n<0)
   (λk2=>ae [tB 29 (bC k2)]<|rQ (bP false) (bP (jb o m)) (jL aO))
   (λk2=>ae [tB 29 (bD k2)]<|.w (16<o.n)
    (λk3=>ae [tB 33 (bC k3)]<|rQ (bP false) (bP (jb o m)) (jL aO))
    (λk3=>ae [tB 33 (bD k3),ah 37 (decide ((0:Int)<2)) aE]<|.w (o.a<0)
     (λk4=>ae [tB 40 (bC k4)]<|rQ (bP false) (bP (jb o m)) (jL aO))
     (λk4=>ae [tB 40 (bD k4)]<|.w (m<=o.a)
      (λk5=>ae [tB 45 (bC k5)]<|rQ (bP false) (bP (jb o m)) (jL aO))
      (λk5=>ae [tB 45 (bD k5),ah 49 (decide ((1:Int)<2)) aE]<|.w (o.b<0)
       (λk6=>ae [tB 52 (bC k6)]<|rQ (bP false) (bP (jb o m)) (jL aO))
       (λk6=>ae [tB 52 (bD k6)]<|.w (m<=o.b)
        (λk7=>ae [tB 57 (bC k7)]<|rQ (bP false) (bP (jb o m)) (jL aO))
        (λk7=>ae [tB 57 (bD k7),.g (zS kT kT kT kT g.cn g.cd kT kT kT kT kT kT:oJ prog .eql 107 (.agg [iP 0,iP 0,iP 0,iP 0,iP o.cn,iP o.cd]) (.agg [iP 0,iP 0,iP 0,iP 0,iP 0,iP 0]) (.bool (decide ((0:Int)=0/\(0:Int)=0/\(0:Int)=0/\(0:Int)=0/\(o.cn:Int)=0/\(o.cd:Int)=0))))]<|rQ (bP (decide ((0:Int)=0/\(0:Int)=0/\(0:Int)=0/\(0:Int)=0/\(o.cn:Int)=0/\(o.cd:Int)=0))) (bP (jb o m)) (jL aO))))))))
  (λk1=>ae [tB 26 (bk k1),ah 37 (decide ((0:Int)<2)) aE]<|.w (o.a<0)
   (λk2=>ae [tB 40 (bC k2)]<|rQ (bP false) (bP (jb o m)) (jL aO))
   (λk2=>ae [tB 40 (bD k2)]<|.w (m<=o.a)
    (λk3=>ae [tB 45 (bC k3)]<|rQ (bP false) (bP (jb o m)) (jL aO))
    (λk3=>ae [tB 45 (bD k3),ah 49 (decide ((1:Int)<2)) aE]<|.w (o.b<0)
     (λk4=>ae [tB 52 (bC k4)]<|rQ (bP false) (bP (jb o m)) (jL aO))
     (λk4=>ae [tB 52 (bD k4)]<|.w (m<=o.b)
      (λk5=>ae [tB 57 (bC k5)]<|rQ (bP false) (bP (jb o m)) (jL aO))
      (λk5=>ae [tB 57 (bD k5),.g (zS kT kT kT g.n g.cn g.cd kT kT kT kT kT kT:oJ prog .eql 107 (.agg [iP 0,iP 0,iP 0,iP o.n,iP o.cn,iP o.cd]) (.agg [iP 0,iP 0,iP 0,iP 0,iP 0,iP 0]) (.bool (decide ((0:Int)=0/\(0:Int)=0/\(0:Int)=0/\(o.n:Int)=0/\(o.cn:Int)=0/\(o.cd:Int)=0))))]<|rQ (bP (decide ((0:Int)=0/\(0:Int)=0/\(0:Int)=0/\(o.n:Int)=0/\(o.cn:Int)=0/\(o.cd:Int)=0))) (bP (jb o m)) (jL aO))))))) 
def akc(o:mO)(m:Int)(g:o.iW)(h:7<=o.kind/\o.kind<=13):ie 66 [uT o,iP m] (bP (jb o m)):=
 ak call66 func66 (ae [ag [iP o.kind] (ajI o h),ai 14 (decide ((1:Int)<0)) aE,ai 17 ((1:Int)==0) aE]<|.w (o.kind=8)
  (λk1=>ae [tB 26 (bn k1)]<|.w (o.n<0)
   (λk2=>ae [tB 29 (bC k2)]<|rQ (bP false) (bP (jb o m)) (jL aO))
   (λk2=>ae [tB 29 (bD k2)]<|.w (16<o.n)
    (λk3=>ae [tB 33 (bC k3)]<|rQ (bP false) (bP (jb o m)) (jL aO))
    (λk3=>ae [tB 33 (bD k3),ah 37 (decide ((0:Int)<1)) aE]<|.w (o.a<0)
     (λk4=>ae [tB 40 (bC k4)]<|rQ (bP false) (bP (jb o m)) (jL aO))
     (λk4=>ae [tB 40 (bD k4)]<|.w (m<=o.a)
      (λk5=>ae [tB 45 (bC k5)]<|rQ (bP false) (bP (jb o m)) (jL aO))
      (λk5=>ae [tB 45 (bD k5),ai 49 (decide ((1:Int)<1)) aE,.g (zS kT kT g.b kT g.cn g.cd kT kT kT kT kT kT:oJ prog .eql 107 (.agg [iP 0,iP 0,iP o.b,iP 0,iP o.cn,iP o.cd]) (.agg [iP 0,iP 0,iP 0,iP 0,iP 0,iP 0]) (.bool (decide ((0:Int)=0/\(0:Int)=0/\(o.b:Int)=0/\(0:Int)=0/\(o.cn:Int)=0/\(o.cd:Int)=0))))]<|rQ (bP (decide ((0:Int)=0/\(0:Int)=0/\(o.b:Int)=0/\(0:Int)=0/\(o.cn:Int)=0/\(o.cd:Int)=0))) (bP (jb o m)) (jL aO))))))
  (λk1=>ae [tB 26 (bk k1),ah 37 (decide ((0:Int)<1)) aE]<|.w (o.a<0)
   (λk2=>ae [tB 40 (bC k2)]<|rQ (bP false) (bP (jb o m)) (jL aO))
   (λk2=>ae [tB 40 (bD k2)]<|.w (m<=o.a)
    (λk3=>ae [tB 45 (bC k3)]<|rQ (bP false) (bP (jb o m)) (jL aO))
    (λk3=>ae [tB 45 (bD k3),ai 49 (decide ((1:Int)<1)) aE,.g (zS kT kT g.b g.n g.cn g.cd kT kT kT kT kT kT:oJ prog .eql 107 (.agg [iP 0,iP 0,iP o.b,iP o.n,iP o.cn,iP o.cd]) (.agg [iP 0,iP 0,iP 0,iP 0,iP 0,iP 0]) (.bool (decide ((0:Int)=0/\(0:Int)=0/\(o.b:Int)=0/\(o.n:Int)=0/\(o.cn:Int)=0/\(o.cd:Int)=0))))]<|rQ (bP (decide ((0:Int)=0/\(0:Int)=0/\(o.b:Int)=0/\(o.n:Int)=0/\(o.cn:Int)=0/\(o.cd:Int)=0))) (bP (jb o m)) (jL aO))))) 
def aka(o:mO)(m:Int)(g:o.iW)(h:o.kind≠1/\¬(3<=o.kind/\o.kind<=6)/\¬(7<=o.kind/\o.kind<=13)):ie 66 [uT o,iP m] (bP (jb o m)):=
 ak call66 func66 (ae [ag [iP o.kind] (ajG o h),ah 14 (decide (((-1):Int)<0)) aE]<|rQ (bP false) (bP (jb o m)) (jL aO)) 
def Qc(o:mO)(m:Int)(g:o.iW):ie 66 [uT o,iP m] (bP (jb o m)):=by
 by_cases h0:o.kind=1
 .exact akb o m g h0
 by_cases h2:3<=o.kind/\o.kind<=6
 .exact aj9 o m g h2
 by_cases h1:7<=o.kind/\o.kind<=13
 .exact akc o m g h1
 .exact aka o m g ⟨h0,h2,h1⟩
def anz(s:jt)(g:s.iW)(k:Int)(h0:0<=s.iw)(h8:s.iw<=8)(l2:s.ig.length<=200):ie 68 [iP k,(.jh 3 λj_=>[iP s.iw,jK s.ig,jM s.iC].getD j_ .any)] (bP (!rU s k)):=
 ak call68 func68 (.w (k<0)
  (λk1=>ae [tB 5 (bC k1)]<|rQ (bP true) (bP (!rU s k)) (jL aY))
  (λk1=>ae [tB 5 (bD k1),iF (s.iw+(s.ig.length:Int)) aC]<|rQ (bP (decide ((s.iw+(s.ig.length:Int))<=k))) (bP (!rU s k)) (jL aY))) 
def anx(s:jt)(h0:0<=s.iw)(h8:s.iw<=8)(l2:s.ig.length<=200)(lu:s.iC.length<=200)(g:s.iW):ie 67 [jM s.iC,.fn 68 [(.jh 3 λj_=>[iP s.iw,jK s.ig,jM s.iC].getD j_ .any)]] (bP (!s7 s)):=by
 have:=VS true s.iC.length (λi _=>iP (s.iC.getD i 0)) 68 [(.jh 3 λj_=>[iP s.iw,jK s.ig,jM s.iC].getD j_ .any)] (λi=>!rU s (s.iC.getD i 0)) (λi _=>anz s g _ h0 h8 l2) (aC:s.iC.length<=1000000);rwa[MC]at this
def anE(s:jt)(g:s.iW)(sm:s.ig.length<=1000)(hc:¬(0<=s.iw/\s.iw<=8/\s.ig.length<=200/\s.iC.length<=200)):ie 12 [kH s] (bP false):=
 ak call12 func12 (.w (s.iw<0)
  (λk1=>af [tB 7 (bC k1)])
  (λk1=>ae [tB 7 (bD k1)]<|.w (8<s.iw)
   (λk2=>af [tB 11 (bC k2)])
   (λk2=>ae [tB 11 (bD k2)]<|.w (200<(s.ig.length:Int))
    (λk3=>af [tB 17 (bC k3)])
    (λk3=>ae [tB 17 (bD k3)]<|.w (200<(s.iC.length:Int))
     (λk4=>af [tB 23 (bC k4)])
     (λk4=>.x aC))))) 
def anF(s:jt)(g:s.iW)(sm:s.ig.length<=1000)(i0:0<=s.iw)(i8:s.iw<=8)(l1:s.ig.length<=200)(l2:s.iC.length<=200)(N:Nat)(nJ:N<s.ig.length)(jc:∀ k,k<N->(jb (s.ig.getD k kA) (s.iw+(k:Int)))=true)(hN:(jb (s.ig.getD N kA) (s.iw+(N:Int)))=false):ie 12 [kH s] (bP false):=
 ak call12 func12 (af [tF 7 (s.iw<0) aC,tF 11 (8<s.iw) aC,tF 17 (200<(s.ig.length:Int)) aC,tF 23 (200<(s.iC.length:Int)) aC,.s (Sp.jT (Y6 s N) 0 N aC (λx hx lJ=>by
    have mU:=g.ig x;exact iL (af [tT 29 ((x:Int)<s.ig.length) aC,iX (x:Int) (s.ig.length) aC,iF (s.iw+(x:Int)) aC,ag [uT (s.ig.getD x kA),iP (s.iw+(x:Int))] (Qc _ _ mU),ai 39 (!(jb (s.ig.getD x kA) (s.iw+(x:Int)))) (by rw[jc x aC];rfl),
     iF ((x:Int)+1) aC]) aF)
  (λhx=>by
    have mU:=g.ig N;exact iL (af [tT 29 ((N:Int)<s.ig.length) aC,iX (N:Int) (s.ig.length) aC,iF (s.iw+(N:Int)) aC,ag [uT (s.ig.getD N kA),iP (s.iw+(N:Int))] (Qc _ _ mU),ah 39 (!(jb (s.ig.getD N kA) (s.iw+(N:Int)))) (by rw[hN];rfl)]) aF) aI:jS 4 Tryz.f12 (Y6 s N 0) .ret ⟨46,true,[(2,.e (bP false))],[]⟩) .nil]) 
def anG(s:jt)(g:s.iW)(sm:s.ig.length<=1000)(i0:0<=s.iw)(i8:s.iw<=8)(l1:s.ig.length<=200)(l2:s.iC.length<=200)(jc:∀ k,k<s.ig.length->(jb (s.ig.getD k kA) (s.iw+(k:Int)))=true):ie 12 [kH s] (bP (s7 s)):=
 ak call12 func12 (ae [tF 7 (s.iw<0) aC,tF 11 (8<s.iw) aC,tF 17 (200<(s.ig.length:Int)) aC,tF 23 (200<(s.iC.length:Int)) aC,.s (Sp.jT (Y7 s) 0 s.ig.length aC (λx hx lJ=>by
    have mU:=g.ig x;exact iL (af [tT 29 ((x:Int)<s.ig.length) aC,iX (x:Int) (s.ig.length) aC,iF (s.iw+(x:Int)) aC,ag [uT (s.ig.getD x kA),iP (s.iw+(x:Int))] (Qc _ _ mU),ai 39 (!(jb (s.ig.getD x kA) (s.iw+(x:Int)))) (by rw[jc x aC];rfl),
     iF ((x:Int)+1) aC]) aF)
  (λhx=>by
    exact iL (af [tF 29 ((s.ig.length:Int)<s.ig.length) aC]) aF) aI:jS 4 Tryz.f12 (Y7 s 0) (.exit 0) ⟨46,true,[(1,.box 1 0)],[(1,.cells 25 [iP s.iw,jK s.ig,jM s.iC])]⟩) .nil,ag [jM s.iC,.fn 68 [(.jh 3 λj_=>[iP s.iw,jK s.ig,jM s.iC].getD j_ .any)]] (anx s aC aC aC aC g)]<|rQ (bP (!(!(s7 s)))) (bP (s7 s)) (jL aH)) 
def anH(s:jt)(g:s.iW)(sm:s.ig.length<=1000):ie 12 [kH s] (bP (sO s)):=by
 by_cases c1:0<=s.iw/\s.iw<=8/\s.ig.length<=200/\s.iC.length<=200
 rotate_left
 .rw [show sO s=false by unfold sO;rw[bD c1];rfl];exact anE s g sm c1
 obtain⟨i0,i8,l1,l2⟩:=c1;by_cases c2:FK s=true
 rotate_left
 .rw [show sO s=false by unfold sO;rw[bt c2];simp];obtain⟨N,n1,n2,n3⟩:=xR c2;exact anF s g sm i0 i8 l1 l2 N n1 (λk hk=>by simpa using n3 k hk) (by simpa using n2)
 have jc:∀ k,k<s.ig.length->jb (s.ig.getD k kA) (s.iw+(k:Int))=true:=λk hk=>bU.1 c2 k (b6.2 hk)
 rw[show sO s=s7 s by unfold sO;rw[bC (⟨i0,i8,l1,l2⟩:_/\_),c2];rfl];exact anG s g sm i0 i8 l1 l2 jc
def jt.t(s:jt):ki:=s.v.tape
def alO{s:jt}(h:sO s=true):Af s.t/\kH s=kW s.t:=by
 unfold sO at h;simp only[bQ,cL]at h;obtain⟨⟨⟨i0,i8,l1,l2⟩,ho⟩,hu⟩:=h;have ho:=bU.1 ho;have hu:=bU.1 hu;have opAt:∀ i,i<s.ig.length->(s.ig.map mO.v).getD i iR=(s.ig.getD i kA).v:=λi hi=>by simp[bE,hi]
 have ouAt:∀ i,i<s.iC.length->(s.iC.map Int.toNat).getD i 0=(s.iC.getD i 0).toNat:=λi hi=>by simp[bE,hi]
 have op:∀ i,i<s.ig.length->og (s.ig.getD i kA).v (s.iw.toNat+i)/\0<=(s.ig.getD i kA).kind/\0<=(s.ig.getD i kA).a/\0<=(s.ig.getD i kA).b/\0<=(s.ig.getD i kA).n:=λi hi=>by
  have:=ho i (b6.2 hi);exact YU (by rwa[show((s.iw.toNat+i:Nat):Int)=s.iw+(i:Int)by omega])
 have ou:∀ i,i<s.iC.length->0<=s.iC.getD i 0/\s.iC.getD i 0<s.iw+(s.ig.length:Int):=λi hi=>cR (hu i (b6.2 hi))
 refine⟨⟨?_,?_,?_,?_,?_⟩,?_⟩
 .show s.iw.toNat<=8;omega
 .show (s.ig.map mO.v).length<=200;rw[bZ];exact l1
 .show (s.iC.map Int.toNat).length<=200;rw[bZ];exact l2
 .intro i hi;have hi:i<s.ig.length:=by simpa[jt.t,jt.v]using hi
  show og ((s.ig.map mO.v).getD i iR) (s.iw.toNat+i);rw[opAt i hi];exact(op i hi).1
 .intro i hi;have hi:i<s.iC.length:=by simpa[jt.t,jt.v]using hi
  show(s.iC.map Int.toNat).getD i 0<s.iw.toNat+(s.ig.map mO.v).length;rw[ouAt i hi,bZ];have:=ou i hi;omega
 .have e1:iP s.iw=iP (s.iw.toNat:Int):=by rw[eJ i0]
  have e3:jK s.ig=mG (s.ig.map mO.v):=by
   unfold jK mG;rw[bZ];congr 1;funext i j;by_cases hi:i<s.ig.length
   .rw [opAt i hi];obtain⟨_,h1,h2,h3,h4⟩:=op i hi;rw[YV h1 h2 h3 h4]
   .have a1:s.ig.getD i kA=kA:=by rw[bE,cz aC];rfl
    have a2:(s.ig.map mO.v).getD i iR=iR:=by rw[bE,cz aX];rfl
    rw[a1,a2];rfl
  have e4:jM s.iC=mF (s.iC.map Int.toNat):=by
   unfold jM mF;rw[bZ];congr 1;funext i j;by_cases hi:i<s.iC.length
   .rw [ouAt i hi,eJ (ou i hi).1]
   .rw [bE,cz aC,bE (l:=s.iC.map Int.toNat),cz aX];rfl
  show E.agg [iP s.iw,jK s.ig,jM s.iC]=_;rw[e1,e3,e4];rfl
noncomputable def mT(s t:jt):Bool:=qb s&&(sO t&&(decide (t.iw=s.iw)&&decide (t.iC.length=1)))
def JZ(s:jt)(g:s.iW)(sm:s.pq)(t:jt)(gt:t.iW)(stm:t.ig.length<=1000):ie 56 [kz s,kH t] (bP (mT s t)):=
 ak call56 func56 (ae [ag [kz s] (anr _ g sm)]<|.w (qb s=true)
  (λk1=>ae [tB 6 k1,ag [kH t] (anH _ gt stm)]<|.w (sO t=true)
   (λk2=>ae [tB 9 k2]<|.w (t.iw=s.iw)
    (λk3=>ae [tB 17 (bn k3)]<|rQ (bP ((t.iC.length:Int)==1)) (bP (mT s t)) (jL aT))
    (λk3=>ae [tB 17 (bk k3)]<|rQ (bP false) (bP (mT s t)) (jL aT)))
   (λk2=>ae [tB 9 (bt k2)]<|rQ (bP false) (bP (mT s t)) (jL aT)))
  (λk1=>ae [tB 6 (bt k1)]<|rQ (bP false) (bP (mT s t)) (jL aT))) 
noncomputable def wX(x y:List RI):Bool:=k0 x&&(k0 y&&decide (x.length=y.length))
def Ak{x:List RI}(gx:∀ i,(x.getD i jC).iW)(h2:k0 x=true):1<=x.length/\x.length<=8/\qN (x.map RI.iv)/\iD x=iu (x.map RI.iv):=by
 unfold k0 at h2;rw[bQ,cL]at h2;obtain⟨⟨b1,b8⟩,b2⟩:=h2;have pa:∀ i,i<x.length->(x.getD i jC).Ok/\(x.getD i jC).all=false:=λi hi=>by
  have:=bU.1 b2 i (b6.2 hi);unfold nN at this;rw[bQ]at this;exact⟨uh.1 this.1,by simpa using this.2⟩
 refine⟨b1,b8,λi hi=>?_,?_⟩
 .have hi:i<x.length:=by simpa using hi
  rw[show(x.map RI.iv).getD i il=(x.getD i jC).iv by simp[bE,hi]];exact⟨(pa i hi).1.valid,(pa i hi).2⟩
 .rw [<-V8];congr 1;apply gG;intro i;unfold D5;rw[cG,cG];by_cases hi:i<x.length
  .have h1:=(pa i hi).1;have g1:=gx i;rw[bJ hi];rw[bE,bJ hi]at h1 g1;exact congrArg some (RI.Ok.eq (x:=x[i]) h1 g1).symm
  .rw [cz aC];rfl
def acD(x y:List RI)(gx:∀ i,(x.getD i jC).iW)(gy:∀ i,(y.getD i jC).iW)(jG:x.length<=1000)(vt:y.length<=1000):ie 151 [iD x,iD y] (bP (wX x y)):=
 ak call151 func151 (ae [.c (Gh x gx jG)]<|.w (k0 x=true)
  (λk1=>ae [tB 6 k1,.c (Gh y gy vt)]<|.w (k0 y=true)
   (λk2=>ae [tB 9 k2]<|rQ (bP ((x.length:Int)==y.length)) (bP (wX x y)) (jL aZ))
   (λk2=>ae [tB 9 (bt k2)]<|rQ (bP false) (bP (wX x y)) (jL aZ)))
  (λk1=>ae [tB 6 (bt k1)]<|rQ (bP false) (bP (wX x y)) (jL aZ))) 
def acy(x y:List RI)(gx:∀ i,(x.getD i jC).iW)(gy:∀ i,(y.getD i jC).iW)(jG:x.length<=1000)(vt:y.length<=1000)(hn:wX x y=false):ie 131 [iD x,iD y] (bP false):=
 ak call131 func131 (af [.c (by have h_:=acD x y gx gy jG vt;rwa[hn]at h_:ie 151 [iD x,iD y] (bP false))]) 
noncomputable def nu(x y:List RI):Bool:=wX x y&&zE (x.map RI.iv) (y.map RI.iv)
def uZ(x y:List RI)(gx:∀ i,(x.getD i jC).iW)(gy:∀ i,(y.getD i jC).iW)(jG:x.length<=1000)(vt:y.length<=1000):ie 131 [iD x,iD y] (bP (nu x y)):=by
 unfold nu;cases hn:wX x y with
 |false=>exact acy x y gx gy jG vt hn
 |true=>
  have h:=hn;unfold wX at h;rw[bQ,bQ,cL]at h;obtain⟨h1,h2,h3⟩:=h;obtain⟨a1,a8,a2,a3⟩:=Ak gx h1;obtain⟨b1,b8,b2,b3⟩:=Ak gy h2;rw[di,a3,b3];exact MN _ _ aX aX (by rw[bZ,bZ];omega) a2 b2
def Ys{d:RD}(g:d.iW)(h:d.Ok):uS d=jg d.dy:=by
 have:jj d=iz d.dy:=by rw[<-C0,h.eq g]
 exact E.agg.inj this
def s5(k p:Int):Bool:=decide (k=1\/k=2)&&decide (8<=p/\p<=512)
def X1(k p:Int):ie 58 [iP k,iP p] (bP (s5 k p)):=
 ak call58 func58 (.w (k=1)
  (λk1=>ae [tB 6 (bn k1)]<|.w (8<=p)
   (λk2=>ae [tB 13 (bC k2)]<|rQ (bP (decide (p<=512))) (bP (s5 k p)) (jL aW))
   (λk2=>ae [tB 13 (bD k2)]<|rQ (bP false) (bP (s5 k p)) (jL aW)))
  (λk1=>ae [tB 6 (bk k1)]<|.w (k=2)
   (λk2=>ae [tB 9 (bn k2)]<|.w (8<=p)
    (λk3=>ae [tB 13 (bC k3)]<|rQ (bP (decide (p<=512))) (bP (s5 k p)) (jL aW))
    (λk3=>ae [tB 13 (bD k3)]<|rQ (bP false) (bP (s5 k p)) (jL aW)))
   (λk2=>ae [tB 9 (bk k2)]<|rQ (bP false) (bP (s5 k p)) (jL aW)))) 
def wr(x:Int):Int:=IntKind.i64.wrap x
def Tw(b:List Iv)(x:Nat):PS:=⟨27,true,[(5,.e (iP x)),(0,.e (iu b)),(1,.e (iu b))],[]⟩
def ags(x:RI):ie 54 [wP x] (bP (BN x)):=
 ak call54 func54 (.w (20<(x.lo.L.length:Int))
  (λk1=>ae [tB 7 (bC k1)]<|rQ (bP true) (bP (BN x)) (jL (by unfold BN;rw[dv];simp;omega)))
  (λk1=>ae [tB 7 (bD k1)]<|rQ (bP (decide (20<(x.hi.L.length:Int)))) (bP (BN x)) (jL (by unfold BN;rw[dv];simp;omega)))) 
def GI(l:List RI):ie 52 [iD l] (bP (nd l)):=
 ak call52 func52 (.w (10<(l.length:Int))
  (λk1=>ae [tB 5 (bC k1)]<|rQ (bP true) (bP (nd l)) (jL (by unfold nd;simp[(aC:10<l.length)])))
  (λk1=>ae [tB 5 (bD k1),.c (Pf true l.length (λi j=>(A8 (l.getD i jC)).getD j .any) 54 [] (λi=>BN (l.getD i jC)) (λi _=>ags _) aC:ie 53 [iD l,.fn 54 []] _)]<|rQ (bP ((List.range l.length).any λi=>BN (l.getD i jC))) (bP (nd l)) (jL (by unfold nd;simp[(aC:¬10<l.length)])))) 
def pE(s t:jt)(p:Int):Bool:=(decide (3<s.iG)&&decide (s.iG<=4))||(decide (2<s.params.length)||(decide (40<s.ig.length)||(decide (40<t.ig.length)||(decide (64<p)&&decide (p<=512)))))
def TS(d:RD):ie 9 [jj d] (bP (C6 d)):=
 ak call9 func9 (rQ (bP (decide (20<(d.L.length:Int)))) (bP (C6 d)) (jL (by unfold C6;rw[dv,cL,cL];omega))) 
def alR(b:List Iv)(hb:∀ i,i<b.length->(b.getD i il).ix)(hl:b.length<=1000):ie 70 [iu b,iu b] (bP true):=
 ak call70 func70 (af [ai 10 ((b.length:Int) != (b.length:Int)) (pf rfl),.s (Sp.jT (Tw b) 0 b.length aC (λx hx lJ=>by
    have hv:=hb x aC;exact iL (af [tT 14 ((x:Int)<b.length) aC,iX (x:Int) (b.length) aC,iX (x:Int) (b.length) aC,.c (QH (b.getD x il) hv),iF ((x:Int)+1) aC]) aF)
  (λhx=>by
    exact iL (af [tF 14 ((b.length:Int)<b.length) aC]) aF) aI:jS 4 Tryz.f70 (Tw b 0) (.exit 0) ⟨27,true,[],[]⟩) .nil]) 
def qY:jN:=⟨⟨1,[⟨1,0,0,0,1,1⟩],[1]⟩,1,[]⟩
def sw:ki:=⟨1,[⟨1,0,0,0,1,2⟩,⟨4,0,1,0,0,0⟩],[2]⟩
def cA:Dy:=kR 0 0
def cB:Dy:=kR 1 0
def cX(k e:Int):List Iv:=[⟨kR 0 e,kR k e,false⟩]
def cY(k e:Int):List Iv:=[⟨kR 0 e,cB,false⟩]
def cZ:List Iv:=[jP cB]
def adA:nT qY sw (cX 0 0) (cY 0 0) cZ 1 24=3:= aL 
def adC:nT qY sw (cX 0 0) (cY 0 0) cZ 2 24=1:= aL 
def adD:nT qY sw (cX 1 (-1)) (cY 1 (-1)) cZ 1 24=2:= aL 
noncomputable def Am:Iv×List Iv:=(yR qY sw (cX 0 0) cA cB (cY 0 0) 24).getD (il,[])
def SK:(yR qY sw (cX 0 0) cA cB (cY 0 0) 24).isSome=true:= aL 
def adE:Ar Am.1 (kR 1 (-1))=true:= aL 
def adB:Am.1.all=false:= aL 
def LU:mq qY:=by
 refine⟨⟨aE,aE,aE,λi hi=>?_,λi hi=>?_⟩,aE,aE,rfl,rfl,aE,λi hi=>absurd hi (bG i)⟩
 .have hi:i<1:=hi;obtain rfl:i=0:= aC ;exact⟨.inl rfl,aE,rfl,rfl,rfl,aE,.inl aE⟩
 .have hi:i<1:=hi;obtain rfl:i=0:= aC ;decide
def LV:oI qY sw:=by
 refine⟨⟨aE,aE,aE,λi hi=>?_,λi hi=>?_⟩,rfl,rfl⟩
 .have hi:i<2:=hi;obtain rfl|rfl:i=0\/i=1:= aC 
  .exact ⟨.inl rfl,aE,rfl,rfl,rfl,aE,.inl aE⟩
  .exact ⟨.inr aE,aE,aE,aE,rfl,⟨rfl,rfl⟩,.inl aE⟩
 .have hi:i<1:=hi;obtain rfl:i=0:= aC ;decide
def MM{B:Iv}(v:B.ix)(a:B.all=false):kE 1 [B]:=⟨rfl,λi hi=>by
 have hi:i<1:=hi;obtain rfl:i=0:= aC ;exact⟨v,a⟩⟩
def Gi:cA.ix:=y4 aE aE aE 
def Ew:cB.ix:=y4 aE aE aE 
def Jt{k e:Int}(h1:k.natAbs<4294967296)(h2:-1000<=e)(h3:e<=1000)(h:jf (kR 0 e) (kR k e)<=0):kE qY.iG (cX k e):=MM (.inr ⟨rfl,y4 (show(0:Int).natAbs<4294967296 by decide) h2 h3,y4 h1 h2 h3,h⟩) rfl
def Ju{k e:Int}(h2:-1000<=e)(h3:e<=1000)(h:jf (kR 0 e) cB<=0):kE qY.iG (cY k e):=MM (.inr ⟨rfl,y4 (show(0:Int).natAbs<4294967296 by decide) h2 h3,Ew,h⟩) rfl
def MU:kE qY.iG cZ:=MM (rH Ew) rfl
def adF:Am.1.ix:=by
 have h:=SK;unfold Am;cases hq:yR qY sw (cX 0 0) cA cB (cY 0 0) 24 with
 |none=>rw[hq]at h;cases h
 |some q=>
  have hX:=Jt (k:=0) (e:=0) aE aE aE aL;have hY:=Ju (k:=0) (e:=0) aE aE aL;unfold yR at hq;split at hq
  .cases hq
  .rename_i o ho;split at hq
   .cases hq
   .cases hq;have sZ:o.ix:=by
     rcases Rd LU LV hX hY aE aE Gi Ew aL ho with rfl|h
     .exact mw
     .exact h.val
    exact qO (rH Gi) sZ aE aE 
def DI(n e:Int)(h1:n.natAbs<4294967296)(h2:-1000<=e)(h3:e<=1000):ie 46 [iP n,iP e] (iz (kR n e)):=by
 have hrg:oR (canon (Dy.neg (jv n)) (Dy.m (jv n)) ((Dy.e (jv n))+e)):=by rw[St];exact(y4 h1 h2 h3).range
 exact ak call46 func46 (ae [ag [iP n] (akX _ aC),ag [iz (jv n),iP e] (ak6 _ _ (tY aC) aC aC hrg)]<|rQ (iz (canon (Dy.neg (jv n)) (Dy.m (jv n)) ((Dy.e (jv n))+e))) (iz (kR n e)) (by rw[St])) 
def Wp(m n e:Int)(h0:m.natAbs<4294967296)(h1:n.natAbs<4294967296)(h2:-1000<=e)(h3:e<=1000):ie 47 [iP m,iP n,iP e] (iy ⟨kR m e,kR n e,false⟩):=
 ak call47 func47 (ae [.c (DI m e aR aR aR),.c (DI n e aR aR aR)]<|rR (iy ⟨kR m e,kR n e,false⟩) (.ji rfl:E.le (iy (Iv.mk (kR m e) (kR n e) false)) (iy ⟨kR m e,kR n e,false⟩))) 
def Pj : ie 48 [] (kf qY):=
 ak call48 func48 (rR (kf qY) (by
  exact .agg (.cons (.refl _) (.cons (.sl λi j hi hj=>by
   obtain rfl:i=0:= aC ;rcases j with _|_|_|_|_|_|j
   all_goals first|exact⟨.ji rfl,rfl⟩|omega) (.cons (.sl λi j hi hj=>by
   obtain rfl:i=0:= aC ;rcases j with _|_|_|_|_|_|j
   all_goals first|exact⟨.ji rfl,rfl⟩|omega) (.cons (.refl _) (.cons (.nil _ _ _) .nil))))):E.le (.agg [iP 1,(.sl true 1 6 λi_ j_=>[iP 1,iP 0,iP 0,iP 0,iP 1,iP 1].getD (i_*6+j_) (.v (.bool false))),(.sl true 1 1 λi_ j_=>[iP 1].getD (i_*1+j_) (.v (.bool false))),iP 1,.v (.slice none 0 0)]) (kf qY))) 
def ahW : ie 44 [.agg [iP 1,iP 2]] (kW sw):=
 ak call44 func44 (rR (kW sw) (by
  exact .agg (.cons (.refl _) (.cons (.sl λi j hi hj=>by
   obtain rfl|rfl:i=0\/i=1:= aC 
   all_goals rcases j with _|_|_|_|_|_|j
   all_goals first|exact⟨.ji rfl,rfl⟩|omega) (.cons (.sl λi j hi hj=>by
   obtain rfl:i=0:= aC ;rcases j with _|_|_|_|_|_|j
   all_goals first|exact⟨.ji rfl,rfl⟩|omega) .nil))):E.le (.agg [iP 1,(.sl true 2 6 λi_ j_=>[iP 1,iP 0,iP 0,iP 0,iP 1,iP 2,iP 4,iP 0,iP 1,iP 0,iP 0,iP 0].getD (i_*6+j_) (.v (.bool false))),(.sl true 1 1 λi_ j_=>[iP 2].getD (i_*1+j_) (.v (.bool false)))]) (kW sw))) 
def PU{y:Iv}{el:Nat->Nat->E}(h:∀ j,j<7->el 0 j=(iN y).getD j .any):E.le (.sl true 1 7 el) (iu [y]):=.sl λi j hi hj=>by
 obtain rfl:i=0:= aC ;exact⟨.ji (h j hj),tZ _ _ hj⟩
def Wq(a b:Dy)(w:Iv)(hb:b.ix):ie 45 [iz a,iz b,iy w] (.iE [iu [w],.agg (jg a++jg b++[iu [⟨w.lo,b,false⟩],iu [jP b]])]):=
 ak call45 func45 (ae [.o 9 (.e (mf _):aj (.sl true 1 7 λi_ j_=>(iN w).getD (i_*7+j_) (.v (.bool false))) (iu [w])),.o 16 (.e (mf _):aj (.sl true 1 7 λi_ j_=>(iN (Iv.mk w.lo b false)).getD (i_*7+j_) (.v (.bool false))) (iu [Iv.mk w.lo b false])),.c (sM b aD),.o 19 (.e (mf _):aj (.sl true 1 7 λi_ j_=>(iN (jP b)).getD (i_*7+j_) (.v (.bool false))) (iu [jP b]))]<|rR (.iE [iu [w],.agg (jg a++jg b++[iu [⟨w.lo,b,false⟩],iu [jP b]])]) (.iE (.cons (PU λj hj=>by rcases j with _|_|_|_|_|_|_|j<;>first|rfl|omega) (.cons (.agg (.cons (.refl _) (.cons (.refl _) (.cons (.refl _) (.cons (.refl _) (.cons (.refl _) (.cons (.refl _) (.cons (PU λj hj=>by rcases j with _|_|_|_|_|_|_|j<;>first|rfl|omega) (.cons (PU λj hj=>by rcases j with _|_|_|_|_|_|_|j<;>first|rfl|omega) .nil))))))))) .nil)):E.le (.iE [iu [w],.agg (jg a++jg b++[iu [Iv.mk w.lo b false],iu [jP b]])]) (.iE [iu [w],.agg (jg a++jg b++[iu [⟨w.lo,b,false⟩],iu [jP b]])]))) 
def NM(s:jN)(t:ki)(h:mq s)(ht:oI s t):ie 56 [kf s,kW t] (bP true):=by
 have hT:=ht.tape;have oQ:=ht.iw;have Fe:=ht.one;exact ak call56 func56 (af [.c (Q0 s aD),.c (LW t aD),ah 17 ((t.iw:Int)==s.tape.iw) (bn aC),ah 23 ((t.iC.length:Int)==1) (bn aC)]) 
def alp(s:jN)(x:List Iv)(a b:Dy)(y z:List Iv)(h:mq s)(hx:kE s.iG x)(hy:kE s.iG y)(hz:kE s.iG z)(ha:a.ix)(hb:b.ix)(sX:jf a b<0)(hi:zE x y=true)(hj:zE z y=true):ie 57 [kf s,iu x,.agg (jg a++jg b++[iu y,iu z])] (bP true):=by
 have s1:=h.s1;have s4:=h.s4;have lx:=hx.len;have ly:=hy.len;have lz:=hz.len;exact ak call57 func57 (af [ag [iz a] (sT _ aD),ag [iz b] (sT _ aD),ag [iz a,iz b] (nR _ _ aD aD),tB 21 (bC sX),ah 28 ((x.length:Int)==s.iG) (bn aC),.c (MN x y aC aC aC hx.ok hy.ok),ah 34 (zE x y) hi,.c (MN z y aC aC aC hz.ok hy.ok),ah 41 (zE z y) hj]) 
def Qa(dir:Int)(p:Nat)(hd:dir=1\/dir=2)(iA:8<=p)(im:p<=512):ie 58 [iP dir,iP (p:Int)] (bP true):=by
 have:=X1 dir p;rwa[show s5 dir p=true by unfold s5;rw[bC hd,bC aC];rfl]at this
def LH(s:jN)(t:ki)(x:List Iv)(a b:Dy)(y z:List Iv)(dir:Int)(p:Nat)(h:mq s)(ht:oI s t)(hx:kE s.iG x)(hy:kE s.iG y)(hz:kE s.iG z)(iA:8<=p)(im:p<=512)(ha:a.ix)(hb:b.ix)(sX:jf a b<0)(hd:dir=1\/dir=2)(hi:zE x y=true)(hj:zE z y=true):ie 11 [kf s,kW t,iu x,.agg (jg a++jg b++[iu y,iu z]),iP dir,iP p] (CA s t x a b y z dir p):=
 al6 s t x a b y z dir p h ht hx hy hz iA im ha (NM s t h ht) (alp s x a b y z h hx hy hz ha hb sX hi hj) (Qa dir p hd iA im) hb sX
def abz:ie 11 [kf qY,kW sw,iu (cX 0 0),.agg (jg cA++jg cB++[iu (cY 0 0),iu cZ]),iP 1,iP 24] (.iE [q9 3 1 Am.1 (iu Am.2),iP 0]):=by
 have:=LH qY sw (cX 0 0) cA cB (cY 0 0) cZ 1 24 LU LV (Jt (k:=0) (e:=0) aE aE aE aL) (Ju (k:=0) (e:=0) aE aE aL) MU aE aE Gi Ew aL aE aL aL;unfold CA at this;rw[adA,bB rfl]at this;have h:=SK;unfold Am;cases hq:yR qY sw (cX 0 0) cA cB (cY 0 0) 24 with
 |none=>rw[hq]at h;cases h
 |some q=>rw[hq]at this;exact this
def abA:ie 11 [kf qY,kW sw,iu (cX 0 0),.agg (jg cA++jg cB++[iu (cY 0 0),iu cZ]),iP 2,iP 24] (.iE [q9 1 0 pA ug,iP 0]):=by
 have:=LH qY sw (cX 0 0) cA cB (cY 0 0) cZ 2 24 LU LV (Jt (k:=0) (e:=0) aE aE aE aL) (Ju (k:=0) (e:=0) aE aE aL) MU aE aE Gi Ew aL aE aL aL;unfold CA at this;rwa[adC,bA aE]at this
def abB:ie 11 [kf qY,kW sw,iu (cX 1 (-1)),.agg (jg cA++jg cB++[iu (cY 1 (-1)),iu cZ]),iP 1,iP 24] (.iE [q9 2 0 pA ug,iP 0]):=by
 have:=LH qY sw (cX 1 (-1)) cA cB (cY 1 (-1)) cZ 1 24 LU LV (Jt (k:=1) (e:=(-1)) aE aE aE aL) (Ju (k:=1) (e:=(-1)) aE aE aL) MU aE aE Gi Ew aL aE aL aL;unfold CA at this;rwa[adD,bA aE]at this
def yE : ie 7 [] (bP true):=
 ak call7 func7 (af [.c ahW,.c (DI 0 0 aR aR aR),.c (DI 1 0 aR aR aR),.c (Wp 0 0 0 aE aE aE aE),.c (Wq (kR 0 0) (kR 1 0) (⟨kR 0 0,kR 0 0,false⟩:Iv) (y4 aE aE aE)),.c Pj,ag [kf qY,kW sw,iu [(⟨kR 0 0,kR 0 0,false⟩:Iv)],.agg (jg (kR 0 0)++jg (kR 1 0)++[iu [(⟨Iv.lo (⟨kR 0 0,kR 0 0,false⟩:Iv),kR 1 0,false⟩:Iv)],iu [jP (kR 1 0)]]),iP 1,iP 24] abz,.c Pj,ag [kf qY,kW sw,iu [(⟨kR 0 0,kR 0 0,false⟩:Iv)],.agg (jg (kR 0 0)++jg (kR 1 0)++[iu [(⟨Iv.lo (⟨kR 0 0,kR 0 0,false⟩:Iv),kR 1 0,false⟩:Iv)],iu [jP (kR 1 0)]]),iP 2,iP 24] abA,.c (DI 0 0 aR aR aR),.c (DI 1 0 aR aR aR),.c (Wp 0 1 (-1) aE aE aE aE),.c (Wq (kR 0 0) (kR 1 0) (⟨kR 0 (-1),kR 1 (-1),false⟩:Iv) (y4 aE aE aE)),.c Pj,ag [kf qY,kW sw,iu [(⟨kR 0 (-1),kR 1 (-1),false⟩:Iv)],.agg (jg (kR 0 0)++jg (kR 1 0)++[iu [(⟨Iv.lo (⟨kR 0 (-1),kR 1 (-1),false⟩:Iv),kR 1 0,false⟩:Iv)],iu [jP (kR 1 0)]]),iP 1,iP 24] abB,ah 53 ((0:Int)==0) aE,ah 56 ((0:Int)==0) aE,ah 60 ((0:Int)==0) aE,ah 65 ((3:Int)==3) aE,.c (DI 1 (-1) aR aR aR),.c (by have h_:=VY Am.1 (kR 1 (-1)) adF adB (y4 aE aE aE);rwa[adE]at h_:ie 49 [iy Am.1,iz (kR 1 (-1))] (bP true)),ah 76 ((1:Int)==1) aE,ah 81 ((2:Int)==2) aE]) 
def agn{x:List RI}(gx0:∀ w,w ∈ x->w.iW):∀ i,(x.getD i jC).iW:=λi=>by
 rw[bE];by_cases h:i<x.length
 .rw [bJ h];exact gx0 _ (cK h)
 .rw [cz aC];exact Ba
def am9{s:jN}{t:ki}{x:List Iv}{a b:Dy}{y:List Iv}{p:Nat}(h:mq s)(ht:oI s t)(hx:kE s.iG x)(hy:kE s.iG y)(iA:8<=p)(im:p<=512)(ha:a.ix)(hb:b.ix)(sX:jf a b<0){q:Iv×List Iv}(hq:yR s t x a b y p=some q):q.1.ix/\(∀ i,i<q.2.length->(q.2.getD i il).ix)/\q.2.length<=1000:=by
 have s4:=h.s4;have ly:=hy.len;unfold yR at hq;split at hq
 .cases hq
 .rename_i o ho;have sZ:o.ix:=by
   rcases Rd h ht hx hy iA im ha hb sX ho with rfl|h
   .exact mw
   .exact h.val
  split at hq
  .cases hq
  .rename_i l hl;cases hq;refine⟨qO (rH ha) sZ aC aC,?_⟩;unfold Md at hl;split at hl
   .cases hl;exact⟨λi hi=>(hy.ok i hi).1,by show y.length<=1000;omega⟩
   .split at hl
    .cases hl;exact⟨λi hi=>(hy.ok i hi).1,by show y.length<=1000;omega⟩
    .rename_i hA;have jo:=Bv (k:=8) h hx hy aE iA im (by simpa using hA);split at hl
     .rename_i hM;cases hl;have hm:=aiR hy jo hM;have:=hm.len;exact⟨λi hi=>(hm.ok i hi).1,by show(vE y _).length<=1000;omega⟩
     .cases hl
def ae4{l:List RI}(h:nd l=false):l.length<=10:=by
 unfold nd at h;rw[ek]at h;have:=eI h.1;omega
open Go.ChangeShapes Go.WideShapes Go.ChangeAt
def Mm(W:World)(o:mO)(cs:List Value):Prop:=o.iW/\cs.length=6/\∀ j,j<6->∃ v,cs[j]? = some v/\iQ mo mo W ((A9 o).getD j .any) v
def WK{α:Type}{l:List α}(h:l.length=2):∃ a b,l=[a,b]:=by
 rcases l with _|⟨a,_|⟨b,_|⟨c,l⟩⟩⟩<;>simp at h
 exact⟨a,b,rfl⟩
def ain{α:Type}{l:List α}(h:l.length=5):∃ a b c d e,l=[a,b,c,d,e]:=by
 rcases l with _|⟨a,_|⟨b,_|⟨c,_|⟨d,_|⟨e,_|⟨f,l⟩⟩⟩⟩⟩⟩<;>simp at h
 exact⟨a,b,c,d,e,rfl⟩
def aio{α:Type}{l:List α}(h:l.length=6):∃ a b c d e f,l=[a,b,c,d,e,f]:=by
 rcases l with _|⟨a,_|⟨b,_|⟨c,_|⟨d,_|⟨e,_|⟨f,_|⟨g,l⟩⟩⟩⟩⟩⟩⟩<;>simp at h
 exact⟨a,b,c,d,e,f,rfl⟩
section
variable {H:Type} {enc:TypeId×Value->H} {W:World} {fuel:Nat} {cs:List Value} {x:DataW H×List MemPlace}
def Ck(h:DataW.trod enc prog W 0 (λ_=>true) true fuel 3 cs=some x):∃ z,cs=[.int .i64 z]/\kQ .i64 z:=by
 obtain⟨z,hz,_,hw⟩:=DataW.trod_int underlying3 h;exact⟨z,hz,aaM hw⟩
def ajx(h:DataW.trod enc prog W 0 (λ_=>true) true fuel 93 cs=some x):∃ n d,cs=[.int .i64 n,.int .i64 d]/\kQ .i64 n/\kQ .i64 d:=by
 obtain⟨xs,n,rfl,rfl,hl,jG,hf⟩:=DataW.trod_struct underlying93 h;have hC:prog.cellsOf 93=2:= aF ;have hI:prog.cellsOf 3=1:= aF ;rw[hC]at hl;obtain⟨c0,c1,rfl⟩:=WK hl;have h0:=hf 0 _ rfl;have h1:=hf 1 _ rfl;simp only[eU,eV,dX]at h0 h1;simp only[hI,eW,eX,eu,eZ]at h0 h1;rw[bJ (by rw[jG];decide)]at h0 h1;obtain⟨z0,e0,w0⟩:=Ck h0;obtain⟨z1,e1,w1⟩:=Ck h1;simp at e0 e1;subst e0 e1;exact⟨z0,z1,rfl,w0,w1⟩
def ajz(h:DataW.trod enc prog W 0 (λ_=>true) true fuel 107 cs=some x):∃ o,Mm W o cs:=by
 obtain⟨xs,n,rfl,rfl,hl,jG,hf⟩:=DataW.trod_struct underlying107 h;have hC:prog.cellsOf 107=6:= aF ;have hR:prog.cellsOf 93=2:= aF ;have hI:prog.cellsOf 3=1:= aF ;rw[hC]at hl;obtain⟨c0,c1,c2,c3,c4,c5,rfl⟩:=aio hl;have h0:=hf 0 _ rfl;have h1:=hf 1 _ rfl;have h2:=hf 2 _ rfl;have h3:=hf 3 _ rfl;have h4:=hf 4 _ rfl;simp only[eU,eV,dX]at h0 h1 h2 h3 h4;simp only[hI,hR,eW,eX,eu,eZ]at h0 h1 h2 h3 h4;rw[bJ (by rw[jG];decide)]at h0 h1 h2 h3 h4;obtain⟨z0,e0,w0⟩:=Ck h0;obtain⟨z1,e1,w1⟩:=Ck h1;obtain⟨z2,e2,w2⟩:=Ck h2;obtain⟨z3,e3,w3⟩:=Ck h3;obtain⟨z4,z5,e4,w4,w5⟩:=ajx h4;simp at e0 e1 e2 e3 e4;obtain⟨e4,e5⟩:=e4;subst e0 e1 e2 e3 e4 e5;refine⟨⟨z0,z1,z2,z3,z4,z5⟩,⟨w0,w1,w2,w3,w4,w5⟩,rfl,λj hj=>?_⟩;rcases j with _|_|_|_|_|_|j
 all_goals first|exact⟨_,rfl,.v _⟩|omega
def alv(o:mO)(j:Nat)(hj:j<6):((A9 o).getD j .any).one=true/\(((A9 o).getD j .any).ng=true)/\((A9 o).getD j .any).nr 2=true:=by
 rcases j with _|_|_|_|_|_|j
 all_goals first|exact⟨rfl,rfl,rfl⟩|omega
def ajA(h:DataW.trod enc prog W 0 (λ_=>true) true fuel 22 cs=some x):
  ∃ l v,cs=[v]/\(∀ y,y ∈ l->y.iW)/\iQ mo mo W (jK l) v:=by
 have hC:prog.cellsOf 107=6:= aF ;rcases Deep.open_slice underlying22 h with⟨rfl,_⟩|⟨a,len,cap,m,n,D,Pl,rfl,hb,hl,hm,sI,rfl,hx⟩
 .exact ⟨[],_,rfl,(λy hy=>by cases hy),.sl true 0 6 _ none 0 (λ_ _=>.bool false) (bF _) aE (λ_=>rfl) (λi j hi=>absurd hi (bG i)) (λi j hi=>absurd hi (bG i)) (λi j hi=>absurd hi (bG i)) (λi j hi=>absurd hi (bG i))⟩
 .simp only[bN]at sI;subst sI;have ex:∀ i,∃ y:mO,i<len->∃ cs',W.cells? 0 (a.add (i*6)) 6=some cs'/\Mm W y cs':=by
   intro i;by_cases hi:i<len
   .obtain ⟨cs',h1,h2⟩:=hx i aC ;rw[hC]at h1;obtain⟨y,hy⟩:=ajz h2;exact⟨y,λ_=>⟨cs',h1,hy⟩⟩
   .exact ⟨kA,λh=>absurd h hi⟩
  let X:Nat->mO:=λi=>Classical.choose (ex i)
  have hX:∀ i,i<len->∃ cs',W.cells? 0 (a.add (i*6)) 6=some cs'/\Mm W (X i) cs':=λi=>dj (ex i)
  have hlen:((List.range len).map X).length=len:= aH ;refine⟨(List.range len).map X,_,rfl,?_,?_⟩
  .intro y hy;obtain⟨i,hi,rfl⟩:=dz.1 hy;obtain⟨cs',_,h2⟩:=hX i (b6.1 hi);exact h2.1
  .have Aw:∀ i,i<len->((List.range len).map X).getD i kA=X i:=by
    intro i hi;rw[bE,cG,gL hi];rfl
   have:=Lp (W:=W) (a:=a) (len:=len) (cap:=m) (nl:=true) (λi j=>(A9 (((List.range len).map X).getD i kA)).getD j .any) hl hm (show 0<6 by decide)
    (λi j _ hj=>let⟨h1,h2,h3⟩:=alv (((List.range len).map X).getD i kA) j hj;⟨h1,λ_=>h2,h3⟩)
    (λi hi=>by
     obtain⟨cs',h1,h2,_,h3⟩:=hX i hi;exact⟨cs',h1,λj hj=>by rw[Aw i hi];exact h3 j hj⟩)
   unfold jK;rw[hlen];exact this
def YT:kA.iW:=by constructor<;>(show kQ .i64 0;unfold kQ;decide)
def Da{α:Type}{P:α->Prop}{l:List α}{d:α}(h:∀ y,y ∈ l->P y)(hd:P d)(i:Nat):P (l.getD i d):=by
 by_cases hi:i<l.length
 .rw [bE,bJ hi];exact h _ (cK hi)
 .rw [bE,cz aC];exact hd
def Rk(W:World)(s:jt)(cs:List Value):Prop:=s.iW/\cs.length=5/\∀ j,j<5->∃ v,cs[j]? = some v/\iQ mo mo W ((QE s).getD j .any) v
def XQ(h:DataW.trod enc prog W 0 (λ_=>true) true fuel 25 cs=some x):
 ∃ (n:Int) (ig:List mO) (iC:List Int) (v w:Value),cs=[.int .i64 n,v,w]/\kQ .i64 n/\(∀ y,y ∈ ig->y.iW)/\(∀ z,z ∈ iC->kQ .i64 z)/\iQ mo mo W (jK ig) v/\iQ mo mo W (jM iC) w:=by
 obtain⟨xs,n,rfl,rfl,hl,jG,hf⟩:=DataW.trod_struct underlying25 h;have hC:prog.cellsOf 25=3:= aF ;have hI:prog.cellsOf 3=1:= aF ;have hO:prog.cellsOf 22=1:= aF ;have hU:prog.cellsOf 23=1:= aF ;rw[hC]at hl;obtain⟨c0,c1,c2,rfl⟩:=WL hl;have h0:=hf 0 _ rfl;have h1:=hf 1 _ rfl;have h2:=hf 2 _ rfl;simp only[eU,eV,dX]at h0 h1 h2;simp only[hI,hO,hU,eW,eX,eu,eZ]at h0 h1 h2;rw[bJ (by rw[jG];decide)]at h0 h1 h2;obtain⟨z0,e0,w0⟩:=Ck h0;obtain⟨ig,v,e1,g1,r1⟩:=ajA h1;obtain⟨iC,w,e2,g2,r2⟩:=aju (k:=.i64) (λ_=>rfl) underlying23 underlying3 hI h2;simp at e0 e1 e2;subst e0 e1 e2;exact⟨z0,ig,iC,_,_,rfl,w0,g1,g2,r1,r2⟩
def ajD(h:DataW.trod enc prog W 0 (λ_=>true) true fuel 28 cs=some x)(iK:∀ p ∈ x.2,p.block<W.heap.size):∃ s,Rk W s cs:=by
 obtain⟨xs,n,rfl,rfl,hl,jG,hf⟩:=DataW.trod_struct underlying28 h;have hC:prog.cellsOf 28=5:= aF ;have hT:prog.cellsOf 25=3:= aF ;have hI:prog.cellsOf 3=1:= aF ;have hP:prog.cellsOf 26=1:= aF ;rw[hC]at hl;obtain⟨c0,c1,c2,c3,c4,rfl⟩:=ain hl;have h0:=hf 0 _ rfl;have h1:=hf 1 _ rfl;have h2:=hf 2 _ rfl;simp only[eU,eV,dX]at h0 h1 h2;simp only[hT,hI,hP,eW,eX,eu,eZ]at h0 h1 h2;rw[bJ (by rw[jG];decide)]at h0 h1 h2;obtain⟨z0,ig,iC,v,w,e0,w0,g1,g2,r1,r2⟩:=XQ h0;obtain⟨z1,e1,w1⟩:=Ck h1;obtain⟨ps,u,e2,g3,r3⟩:=K2 h2 (λp hp=>iK p (dt.2 ⟨_,cK _,hp⟩));simp at e0 e1 e2;obtain⟨e0,e0b,e0c⟩:=e0;subst e0 e0b e0c e1 e2;refine⟨⟨z0,ig,iC,z1,ps⟩,⟨w0,Da g1 YT,Da g2 (by unfold kQ;decide),w1,Da g3 Ba⟩,rfl,λj hj=>?_⟩;rcases j with _|_|_|_|_|j
 .exact ⟨_,rfl,.v _⟩
 .exact ⟨_,rfl,r1⟩
 .exact ⟨_,rfl,r2⟩
 .exact ⟨_,rfl,.v _⟩
 .exact ⟨_,rfl,r3⟩
 .omega
end
def ans{W:World}{x:jt}{cs:Array Value}(h:Rk W x cs.toList):iQ mo mo W (kz x) (.agg cs):=by
 obtain⟨_,hl,h⟩:=h;have:=iQ.agg (bs:=mo) (br:=mo) (w:=W) (QE x) cs.toList (by rw[hl];rfl) (λi p v h1 h2=>by
  have hi:i<5:=by have:=(cE.1 h2).1;omega
  obtain⟨v',h3,h4⟩:=h i hi;rw[h2]at h3;cases h3;rw[bE,h1]at h4;exact h4)
 unfold kz;exact this
structure kN where
 a:RD
 b:RD
 y:List RI
 z:List RI
def Ec(q:kN):List E:=uS q.a++uS q.b++[iD q.y,iD q.z]
def Y8(t:jt):List E:=[iP t.iw,jK t.ig,jM t.iC]
def Rl(W:World)(t:jt)(cs:List Value):Prop:=t.iW/\cs.length=3/\∀ j,j<3->∃ v,cs[j]? = some v/\iQ mo mo W ((Y8 t).getD j .any) v
def Mn(W:World)(q:kN)(cs:List Value):Prop:=(q.a.iW/\q.b.iW/\(∀ w,w ∈ q.y->w.iW)/\∀ w,w ∈ q.z->w.iW)/\cs.length=8/\∀ j,j<8->∃ v,cs[j]? = some v/\iQ mo mo W ((Ec q).getD j .any) v
def aiq{α:Type}{l:List α}(h:l.length=8):∃ a b c d e f g i,l=[a,b,c,d,e,f,g,i]:=by
 rcases l with _|⟨a,_|⟨b,_|⟨c,_|⟨d,_|⟨e,_|⟨f,_|⟨g,_|⟨i,_|⟨j,l⟩⟩⟩⟩⟩⟩⟩⟩⟩<;>simp at h
 exact⟨a,b,c,d,e,f,g,i,rfl⟩
section
variable {H:Type} {enc:TypeId×Value->H} {W:World} {fuel:Nat} {cs:List Value} {x:DataW H×List MemPlace}
def ajE(h:DataW.trod enc prog W 0 (λ_=>true) true fuel 25 cs=some x)(_:∀ p ∈ x.2,p.block<W.heap.size):∃ t,Rl W t cs:=by
 obtain⟨n,ig,iC,v,w,rfl,w0,g1,g2,r1,r2⟩:=XQ h;refine⟨⟨n,ig,iC,0,[]⟩,⟨w0,Da g1 YT,Da g2 (by unfold kQ;decide),kT,λi=>Ba⟩,rfl,λj hj=>?_⟩;rcases j with _|_|_|j
 .exact ⟨_,rfl,.v _⟩
 .exact ⟨_,rfl,r1⟩
 .exact ⟨_,rfl,r2⟩
 .omega
def ajB(h:DataW.trod enc prog W 0 (λ_=>true) true fuel 33 cs=some x)(iK:∀ p ∈ x.2,p.block<W.heap.size):∃ q,Mn W q cs:=by
 obtain⟨xs,n,rfl,rfl,hl,jG,hf⟩:=DataW.trod_struct underlying33 h;have hC:prog.cellsOf 33=8:= aF ;have hD:prog.cellsOf 31=3:= aF ;have hP:prog.cellsOf 26=1:= aF ;rw[hC]at hl;obtain⟨c0,c1,c2,c3,c4,c5,c6,c7,rfl⟩:=aiq hl;have h0:=hf 0 _ rfl;have h1:=hf 1 _ rfl;have h2:=hf 2 _ rfl;have h3:=hf 3 _ rfl;simp only[eU,eV,dX]at h0 h1 h2 h3;simp only[hD,hP,eW,eX,eu,eZ]at h0 h1 h2 h3;rw[bJ (by rw[jG];decide)]at h0 h1 h2 h3;have hm:∀ (i:Nat) (hi:i<xs.length),∀ p ∈ (xs[i]).2,p.block<W.heap.size:=λi hi p hp=>iK p (dt.2 ⟨_,cK hi,hp⟩)
 obtain⟨a,ga,_,ra⟩:=K1 h0 (hm _ _);obtain⟨b,gb,_,rb⟩:=K1 h1 (hm _ _);obtain⟨y,u,e2,gy,ry⟩:=K2 h2 (hm _ _);obtain⟨z,w,e3,gz,rz⟩:=K2 h3 (hm _ _);simp at e2 e3;subst e2 e3;refine⟨⟨a,b,y,z⟩,⟨ga,gb,gy,gz⟩,rfl,λj hj=>?_⟩;rcases j with _|_|_|_|_|_|_|_|j
 .exact ra 0 aE 
 .exact ra 1 aE 
 .exact ra 2 aE 
 .exact rb 0 aE 
 .exact rb 1 aE 
 .exact rb 2 aE 
 .exact ⟨_,rfl,ry⟩
 .exact ⟨_,rfl,rz⟩
 .omega
end
def anA{W:World}{x:jt}{cs:Array Value}(h:Rl W x cs.toList):iQ mo mo W (kH x) (.agg cs):=by
 obtain⟨_,hl,h⟩:=h;have:=iQ.agg (bs:=mo) (br:=mo) (w:=W) (Y8 x) cs.toList (by rw[hl];rfl) (λi p v h1 h2=>by
  have hi:i<3:=by have:=(cE.1 h2).1;omega
  obtain⟨v',h3,h4⟩:=h i hi;rw[h2]at h3;cases h3;rw[bE,h1]at h4;exact h4)
 unfold kH;exact this
def iq:kN:=⟨Cy,Cy,[],[]⟩
def jR(l:List kN):E:=.sl true l.length 8 λi j=>(Ec (l.getD i iq)).getD j .any
def Lx(x:List RI)(l:List kN):E:=.agg [iD x,jR l]
def kN.iW(q:kN):Prop:=q.a.iW/\q.b.iW/\(∀ i,(q.y.getD i jC).iW)/\∀ i,(q.z.getD i jC).iW
def kK(x:List RI)(l:List kN)(i:Nat):List RI:=if i=0 then x else(l.getD (i-1) iq).z
noncomputable def su(x:List RI)(l:List kN)(i:Nat):Bool:=
 kU (l.getD i iq).a&&(kU (l.getD i iq).b&&(decide (jf (l.getD i iq).a.dy (l.getD i iq).b.dy<0)&&(decide ((l.getD i iq).y.length=x.length) &&
  ((decide (i=0)||decide (jf (l.getD i iq).a.dy (l.getD (i-1) iq).b.dy=0))&&(nu (l.getD i iq).z (l.getD i iq).y&&nu (kK x l i) (l.getD i iq).y)))))
noncomputable def oB(x:List RI)(l:List kN):Bool:=k0 x&&(decide (x.length<=4)&&(decide (l.length<=1000)&&(List.range l.length).all λi=>su x l i))
def X5(x:List RI)(l:List kN)(i:Nat):PS:=⟨94,true,[(29,.e (iP i)),(28,.e (iP l.length)),(27,.e (jR l)),(4,.e (iD (kK x l i))),(3,.e (iP x.length)),(1,.box 1 0)],[(1,.cells 50 [iD x,jR l])]⟩
def X4(x:List RI)(l:List kN)(N:Nat)(i:Nat):PS:=⟨94,true,[(29,.e (iP i)),(28,.e (iP l.length)),(27,.e (jR l)),(4,.e (iD (kK x l i))),(3,.e (iP x.length)),(1,.box 1 0)],[(1,.cells 50 [iD x,jR l])]⟩
def EG(a b:RD)(ga:a.iW)(gb:b.iW)(ha:a.Ok)(hb:b.Ok):ie 108 [jj a,jj b] (iP (jf a.dy b.dy)):=by
 rw[show jj a=iz a.dy by rw[<-C0,ha.eq ga],show jj b=iz b.dy by rw[<-C0,hb.eq gb]];exact nR _ _ ha.valid hb.valid
def yG(a b:RD)(ga:a.iW)(gb:b.iW)(ha:a.Ok)(hb:b.Ok):ie 155 [jj a,jj b] (bP (decide (jf a.dy b.dy<0))):=
 ak call155 func155 (ae [ag [jj a,jj b] (EG _ _ aD aD aD aD)]<|rR (bP (decide (jf a.dy b.dy<0))) (.ji rfl:E.le (bP (decide ((jf (RD.dy a) (RD.dy b))<0))) (bP (decide (jf a.dy b.dy<0))))) 
def qB(d:RD)(g:d.iW):ie 91 [jj d] (bP (kU d)):=by
 by_cases h:d.Ok
 .rw [nV.2 h];exact BJ _ g true (by simp[h])
 .rw [show kU d=false by simpa using λq=>h (nV.1 q)];exact BJ _ g false (by simp[h])
def uw{x:List RI}{l:List kN}{i:Nat}:kK x l (i+1)=(l.getD i iq).z:=by
 unfold kK;rw[bA (Nat.succ_ne_zero i)];rfl
def Ev{x:List RI}(gx:∀ i,(x.getD i jC).iW)(jG:x.length<=1000){l:List kN}(gl:∀ i,(l.getD i iq).iW)(kS:∀ i,(l.getD i iq).y.length<=1000/\(l.getD i iq).z.length<=1000)(i:Nat):(∀ j,((kK x l i).getD j jC).iW)/\(kK x l i).length<=1000:=by
 unfold kK;split
 .exact ⟨gx,jG⟩
 .exact ⟨(gl _).2.2.2,(kS _).2⟩
def wR{x:List RI}{l:List kN}{i:Nat}(h:su x l i=true):(l.getD i iq).a.Ok/\(l.getD i iq).b.Ok/\jf (l.getD i iq).a.dy (l.getD i iq).b.dy<0/\(l.getD i iq).y.length=x.length/\(i=0\/jf (l.getD i iq).a.dy (l.getD (i-1) iq).b.dy=0)/\nu (l.getD i iq).z (l.getD i iq).y=true/\nu (kK x l i) (l.getD i iq).y=true:=by
 unfold su at h;simp only[bQ,eo,cL]at h;exact⟨nV.1 h.1,nV.1 h.2.1,h.2.2.1,h.2.2.2.1,h.2.2.2.2.1,h.2.2.2.2.2.1,h.2.2.2.2.2.2⟩
def aj4(x:List RI)(gx:∀ i,(x.getD i jC).iW)(jG:x.length<=1000)(l:List kN)(gl:∀ i,(l.getD i iq).iW)(kS:∀ i,(l.getD i iq).y.length<=1000/\(l.getD i iq).z.length<=1000)(h0:k0 x=true)(xv:x.length<=4)(lr:l.length<=1000)(jc:∀ i,i<l.length->su x l i=true):ie 72 [.agg [iD x,jR l]] (bP true):=
 ak call72 func72 (af [.c (Gh x gx jG),ah 12 (k0 x) h0,tF 16 (4<(x.length:Int)) aC,tF 22 (1000<(l.length:Int)) aC,.s (Sp.jT (X5 x l) 0 l.length aC (λi hi nP=>by
    obtain⟨h1,h2,h3,h4,h5,h6,h7⟩:=wR (jc i aC);obtain⟨ga,gb,gy,gz⟩:=gl i;obtain⟨vt,wF⟩:=kS i;obtain⟨gp1,gp,gp3,gp4⟩:=gl (i-1);obtain⟨gbf,GR⟩:=Ev gx jG gl kS i;by_cases hz:i=0
    .exact iL (ae [tT 30 ((i:Int)<l.length) aC,iX (i:Int) (l.length) aC,ag [jj ((l.getD i iq).a)] (qB _ aD),ah 36 (kU ((l.getD i iq).a)) (nV.2 h1),ag [jj ((l.getD i iq).b)] (qB _ aD),ah 41 (kU ((l.getD i iq).b)) (nV.2 h2),.c (yG ((l.getD i iq).a) ((l.getD i iq).b) aD aD aD aD),tB 49 (bC h3),ai 57 ((((l.getD i iq).y).length:Int) != (x.length:Int)) (pf h4),tF 61 (0<(i:Int)) aC,ag [iD ((l.getD i iq).z),iD ((l.getD i iq).y)] (uZ _ _ aD aD aD aD),ah 81 (nu ((l.getD i iq).z) ((l.getD i iq).y)) h6,ag [iD (kK x l i),iD ((l.getD i iq).y)] (uZ _ _ aD aD aD aD),ah 88 (nu (kK x l i) ((l.getD i iq).y)) h7,
      iF ((i:Int)+1) aC]<|.e (af [.o 4 (.e (.ji aV):aj (iD ((l.getD i iq).z)) (iD (kK x l (i+1))))])) aF 
    .have h5:=h5.resolve_left hz;have hp:=(wR (jc (i-1) aC)).2.1;exact iL (ae [tT 30 ((i:Int)<l.length) aC,iX (i:Int) (l.length) aC,ag [jj ((l.getD i iq).a)] (qB _ aD),ah 36 (kU ((l.getD i iq).a)) (nV.2 h1),ag [jj ((l.getD i iq).b)] (qB _ aD),ah 41 (kU ((l.getD i iq).b)) (nV.2 h2),.c (yG ((l.getD i iq).a) ((l.getD i iq).b) aD aD aD aD),tB 49 (bC h3),ai 57 ((((l.getD i iq).y).length:Int) != (x.length:Int)) (pf h4),tT 61 (0<(i:Int)) aC,iF ((i:Int)-1) aC,.o 68 (aq ((i:Int)-1) ((i-1:Nat):Int) aC),iX ((i-1:Nat):Int) (l.length) aC,ag [jj ((l.getD i iq).a),jj ((l.getD (i-1) iq).b)] (EG _ _ aD aD aD aD),ai 73 ((jf (RD.dy ((l.getD i iq).a)) (RD.dy ((l.getD (i-1) iq).b))) != 0) (by rw[h5];rfl),ag [iD ((l.getD i iq).z),iD ((l.getD i iq).y)] (uZ _ _ aD aD aD aD),ah 81 (nu ((l.getD i iq).z) ((l.getD i iq).y)) h6,ag [iD (kK x l i),iD ((l.getD i iq).y)] (uZ _ _ aD aD aD aD),ah 88 (nu (kK x l i) ((l.getD i iq).y)) h7,
      iF ((i:Int)+1) aC]<|.e (af [.o 4 (.e (.ji aV):aj (iD ((l.getD i iq).z)) (iD (kK x l (i+1))))])) aF)
  (λhi=>by
    exact iL (af [tF 30 ((l.length:Int)<l.length) aC]) aF) aI:jS 6 Tryz.f72 (X5 x l 0) (.exit 0) ⟨94,true,[],[]⟩) (af [.o 4 (.e (.ji aV):aj (iD x) (iD (kK x l 0)))])]) 
def LG{x:List RI}{l:List kN}{i:Nat}(h1:(l.getD i iq).a.Ok)(h2:(l.getD i iq).b.Ok)(h3:jf (l.getD i iq).a.dy (l.getD i iq).b.dy<0)(h4:(l.getD i iq).y.length=x.length)(h5:i=0\/jf (l.getD i iq).a.dy (l.getD (i-1) iq).b.dy=0)(h6:nu (l.getD i iq).z (l.getD i iq).y=true)(h7:nu (kK x l i) (l.getD i iq).y=true):su x l i=true:=by
 unfold su;simp only[bQ,eo,cL];exact⟨nV.2 h1,nV.2 h2,h3,h4,h5,h6,h7⟩
def aj3(x:List RI)(gx:∀ i,(x.getD i jC).iW)(jG:x.length<=1000)(l:List kN)(gl:∀ i,(l.getD i iq).iW)(kS:∀ i,(l.getD i iq).y.length<=1000/\(l.getD i iq).z.length<=1000)(h0:k0 x=true)(xv:x.length<=4)(lr:l.length<=1000)(N:Nat)(nJ:N<l.length)(jc:∀ i,i<N->su x l i=true)(hN:su x l N=false):ie 72 [.agg [iD x,jR l]] (bP false):=
 ak call72 func72 (af [.c (Gh x gx jG),ah 12 (k0 x) h0,tF 16 (4<(x.length:Int)) aC,tF 22 (1000<(l.length:Int)) aC,.s (Sp.jT (X4 x l N) 0 N aC (λi hi nP=>by
    obtain⟨h1,h2,h3,h4,h5,h6,h7⟩:=wR (jc i aC);obtain⟨ga,gb,gy,gz⟩:=gl i;obtain⟨vt,wF⟩:=kS i;obtain⟨gp1,gp,gp3,gp4⟩:=gl (i-1);obtain⟨gbf,GR⟩:=Ev gx jG gl kS i;by_cases hz:i=0
    .exact iL (ae [tT 30 ((i:Int)<l.length) aC,iX (i:Int) (l.length) aC,ag [jj ((l.getD i iq).a)] (qB _ aD),ah 36 (kU ((l.getD i iq).a)) (nV.2 h1),ag [jj ((l.getD i iq).b)] (qB _ aD),ah 41 (kU ((l.getD i iq).b)) (nV.2 h2),.c (yG ((l.getD i iq).a) ((l.getD i iq).b) aD aD aD aD),tB 49 (bC h3),ai 57 ((((l.getD i iq).y).length:Int) != (x.length:Int)) (pf h4),tF 61 (0<(i:Int)) aC,ag [iD ((l.getD i iq).z),iD ((l.getD i iq).y)] (uZ _ _ aD aD aD aD),ah 81 (nu ((l.getD i iq).z) ((l.getD i iq).y)) h6,ag [iD (kK x l i),iD ((l.getD i iq).y)] (uZ _ _ aD aD aD aD),ah 88 (nu (kK x l i) ((l.getD i iq).y)) h7,
      iF ((i:Int)+1) aC]<|.e (af [.o 4 (.e (.ji aV):aj (iD ((l.getD i iq).z)) (iD (kK x l (i+1))))])) aF 
    .have h5:=h5.resolve_left hz;have hp:=(wR (jc (i-1) aC)).2.1;exact iL (ae [tT 30 ((i:Int)<l.length) aC,iX (i:Int) (l.length) aC,ag [jj ((l.getD i iq).a)] (qB _ aD),ah 36 (kU ((l.getD i iq).a)) (nV.2 h1),ag [jj ((l.getD i iq).b)] (qB _ aD),ah 41 (kU ((l.getD i iq).b)) (nV.2 h2),.c (yG ((l.getD i iq).a) ((l.getD i iq).b) aD aD aD aD),tB 49 (bC h3),ai 57 ((((l.getD i iq).y).length:Int) != (x.length:Int)) (pf h4),tT 61 (0<(i:Int)) aC,iF ((i:Int)-1) aC,.o 68 (aq ((i:Int)-1) ((i-1:Nat):Int) aC),iX ((i-1:Nat):Int) (l.length) aC,ag [jj ((l.getD i iq).a),jj ((l.getD (i-1) iq).b)] (EG _ _ aD aD aD aD),ai 73 ((jf (RD.dy ((l.getD i iq).a)) (RD.dy ((l.getD (i-1) iq).b))) != 0) (by rw[h5];rfl),ag [iD ((l.getD i iq).z),iD ((l.getD i iq).y)] (uZ _ _ aD aD aD aD),ah 81 (nu ((l.getD i iq).z) ((l.getD i iq).y)) h6,ag [iD (kK x l i),iD ((l.getD i iq).y)] (uZ _ _ aD aD aD aD),ah 88 (nu (kK x l i) ((l.getD i iq).y)) h7,
      iF ((i:Int)+1) aC]<|.e (af [.o 4 (.e (.ji aV):aj (iD ((l.getD i iq).z)) (iD (kK x l (i+1))))])) aF)
  (λhi=>by
    obtain⟨ga,gb,gy,gz⟩:=gl N;obtain⟨vt,wF⟩:=kS N;obtain⟨gp1,gp,gp3,gp4⟩:=gl (N-1);obtain⟨gbf,GR⟩:=Ev gx jG gl kS N;by_cases h1:kU (l.getD N iq).a=true
    .by_cases h2:kU (l.getD N iq).b=true
     .replace h1:=h1;have o1:=nV.1 h1;have o2:=nV.1 h2;by_cases h3:jf (l.getD N iq).a.dy (l.getD N iq).b.dy<0
      .by_cases h4:(l.getD N iq).y.length=x.length
       .by_cases hz:N=0
        .by_cases h6:nu (l.getD N iq).z (l.getD N iq).y=true
         .by_cases h7:nu (kK x l N) (l.getD N iq).y=true
          .exact absurd (LG (nV.1 h1) (nV.1 h2) h3 h4 (.inl hz) h6 h7) (by rw[hN];decide)
          .exact iL (af [tT 30 ((N:Int)<l.length) aC,iX (N:Int) (l.length) aC,ag [jj ((l.getD N iq).a)] (qB _ aD),ah 36 (kU ((l.getD N iq).a)) h1,ag [jj ((l.getD N iq).b)] (qB _ aD),ah 41 (kU ((l.getD N iq).b)) h2,.c (yG ((l.getD N iq).a) ((l.getD N iq).b) aD aD aD aD),tB 49 (bC h3),ai 57 ((((l.getD N iq).y).length:Int) != (x.length:Int)) (pf h4),tF 61 (0<(N:Int)) aC,ag [iD ((l.getD N iq).z),iD ((l.getD N iq).y)] (uZ _ _ aD aD aD aD),ah 81 (nu ((l.getD N iq).z) ((l.getD N iq).y)) h6,ag [iD (kK x l N),iD ((l.getD N iq).y)] (uZ _ _ aD aD aD aD),tB 88 (bt h7)]) aF 
         .exact iL (af [tT 30 ((N:Int)<l.length) aC,iX (N:Int) (l.length) aC,ag [jj ((l.getD N iq).a)] (qB _ aD),ah 36 (kU ((l.getD N iq).a)) h1,ag [jj ((l.getD N iq).b)] (qB _ aD),ah 41 (kU ((l.getD N iq).b)) h2,.c (yG ((l.getD N iq).a) ((l.getD N iq).b) aD aD aD aD),tB 49 (bC h3),ai 57 ((((l.getD N iq).y).length:Int) != (x.length:Int)) (pf h4),tF 61 (0<(N:Int)) aC,ag [iD ((l.getD N iq).z),iD ((l.getD N iq).y)] (uZ _ _ aD aD aD aD),tB 81 (bt h6)]) aF 
        .have hp:=(wR (jc (N-1) aC)).2.1;by_cases h5:jf (l.getD N iq).a.dy (l.getD (N-1) iq).b.dy=0
         .by_cases h6:nu (l.getD N iq).z (l.getD N iq).y=true
          .by_cases h7:nu (kK x l N) (l.getD N iq).y=true
           .exact absurd (LG (nV.1 h1) (nV.1 h2) h3 h4 (.inr h5) h6 h7) (by rw[hN];decide)
           .exact iL (af [tT 30 ((N:Int)<l.length) aC,iX (N:Int) (l.length) aC,ag [jj ((l.getD N iq).a)] (qB _ aD),ah 36 (kU ((l.getD N iq).a)) h1,ag [jj ((l.getD N iq).b)] (qB _ aD),ah 41 (kU ((l.getD N iq).b)) h2,.c (yG ((l.getD N iq).a) ((l.getD N iq).b) aD aD aD aD),tB 49 (bC h3),ai 57 ((((l.getD N iq).y).length:Int) != (x.length:Int)) (pf h4),tT 61 (0<(N:Int)) aC,iF ((N:Int)-1) aC,.o 68 (aq ((N:Int)-1) ((N-1:Nat):Int) aC),iX ((N-1:Nat):Int) (l.length) aC,ag [jj ((l.getD N iq).a),jj ((l.getD (N-1) iq).b)] (EG _ _ aD aD aD aD),ai 73 ((jf (RD.dy ((l.getD N iq).a)) (RD.dy ((l.getD (N-1) iq).b))) != 0) (by rw[h5];rfl),ag [iD ((l.getD N iq).z),iD ((l.getD N iq).y)] (uZ _ _ aD aD aD aD),ah 81 (nu ((l.getD N iq).z) ((l.getD N iq).y)) h6,ag [iD (kK x l N),iD ((l.getD N iq).y)] (uZ _ _ aD aD aD aD),tB 88 (bt h7)]) aF 
          .exact iL (af [tT 30 ((N:Int)<l.length) aC,iX (N:Int) (l.length) aC,ag [jj ((l.getD N iq).a)] (qB _ aD),ah 36 (kU ((l.getD N iq).a)) h1,ag [jj ((l.getD N iq).b)] (qB _ aD),ah 41 (kU ((l.getD N iq).b)) h2,.c (yG ((l.getD N iq).a) ((l.getD N iq).b) aD aD aD aD),tB 49 (bC h3),ai 57 ((((l.getD N iq).y).length:Int) != (x.length:Int)) (pf h4),tT 61 (0<(N:Int)) aC,iF ((N:Int)-1) aC,.o 68 (aq ((N:Int)-1) ((N-1:Nat):Int) aC),iX ((N-1:Nat):Int) (l.length) aC,ag [jj ((l.getD N iq).a),jj ((l.getD (N-1) iq).b)] (EG _ _ aD aD aD aD),ai 73 ((jf (RD.dy ((l.getD N iq).a)) (RD.dy ((l.getD (N-1) iq).b))) != 0) (by rw[h5];rfl),ag [iD ((l.getD N iq).z),iD ((l.getD N iq).y)] (uZ _ _ aD aD aD aD),tB 81 (bt h6)]) aF 
         .exact iL (af [tT 30 ((N:Int)<l.length) aC,iX (N:Int) (l.length) aC,ag [jj ((l.getD N iq).a)] (qB _ aD),ah 36 (kU ((l.getD N iq).a)) h1,ag [jj ((l.getD N iq).b)] (qB _ aD),ah 41 (kU ((l.getD N iq).b)) h2,.c (yG ((l.getD N iq).a) ((l.getD N iq).b) aD aD aD aD),tB 49 (bC h3),ai 57 ((((l.getD N iq).y).length:Int) != (x.length:Int)) (pf h4),tT 61 (0<(N:Int)) aC,iF ((N:Int)-1) aC,.o 68 (aq ((N:Int)-1) ((N-1:Nat):Int) aC),iX ((N-1:Nat):Int) (l.length) aC,ag [jj ((l.getD N iq).a),jj ((l.getD (N-1) iq).b)] (EG _ _ aD aD aD aD),tB 73 (bw h5)]) aF 
       .exact iL (af [tT 30 ((N:Int)<l.length) aC,iX (N:Int) (l.length) aC,ag [jj ((l.getD N iq).a)] (qB _ aD),ah 36 (kU ((l.getD N iq).a)) h1,ag [jj ((l.getD N iq).b)] (qB _ aD),ah 41 (kU ((l.getD N iq).b)) h2,.c (yG ((l.getD N iq).a) ((l.getD N iq).b) aD aD aD aD),tB 49 (bC h3),ah 57 ((((l.getD N iq).y).length:Int) != (x.length:Int)) (KP h4)]) aF 
      .exact iL (af [tT 30 ((N:Int)<l.length) aC,iX (N:Int) (l.length) aC,ag [jj ((l.getD N iq).a)] (qB _ aD),ah 36 (kU ((l.getD N iq).a)) h1,ag [jj ((l.getD N iq).b)] (qB _ aD),ah 41 (kU ((l.getD N iq).b)) h2,.c (yG ((l.getD N iq).a) ((l.getD N iq).b) aD aD aD aD),tB 49 (bD h3)]) aF 
     .exact iL (af [tT 30 ((N:Int)<l.length) aC,iX (N:Int) (l.length) aC,ag [jj ((l.getD N iq).a)] (qB _ aD),ah 36 (kU ((l.getD N iq).a)) h1,ag [jj ((l.getD N iq).b)] (qB _ aD),tB 41 (bt h2)]) aF 
    .exact iL (af [tT 30 ((N:Int)<l.length) aC,iX (N:Int) (l.length) aC,ag [jj ((l.getD N iq).a)] (qB _ aD),tB 36 (bt h1)]) aF) aI:jS 6 Tryz.f72 (X4 x l N 0) .ret ⟨94,true,[(2,.e (bP false))],[]⟩) (af [.o 4 (.e (.ji aV):aj (iD x) (iD (kK x l 0)))])]) 
def aj2(x:List RI)(gx:∀ i,(x.getD i jC).iW)(jG:x.length<=1000)(l:List kN)(gl:∀ i,(l.getD i iq).iW)(kS:∀ i,(l.getD i iq).y.length<=1000/\(l.getD i iq).z.length<=1000)(lr:l.length<=1000)(hn:¬(k0 x=true/\x.length<=4)):ie 72 [.agg [iD x,jR l]] (bP false):=
 ak call72 func72 (ae [.c (Gh x gx jG)]<|.w (k0 x=true)
  (λk1=>ae [tB 12 k1]<|.w (4<(x.length:Int))
   (λk2=>af [tB 16 (bC k2)])
   (λk2=>.x (by exact absurd ⟨(by first|assumption|simp_all),aC⟩ hn)))
  (λk1=>af [tB 12 (bt k1)])) 
def K8(x:List RI)(gx:∀ i,(x.getD i jC).iW)(jG:x.length<=1000)(l:List kN)(gl:∀ i,(l.getD i iq).iW)(kS:∀ i,(l.getD i iq).y.length<=1000/\(l.getD i iq).z.length<=1000)(lr:l.length<=1000):ie 72 [Lx x l] (bP (oB x l)):=by
 by_cases c1:k0 x=true/\x.length<=4
 rotate_left
 .rw [show oB x l=false by
   unfold oB;cases h:k0 x with
   |false=>rfl
   |true=>rw[bD (show ¬x.length<=4 from λq=>c1 ⟨h,q⟩)];rfl]
  exact aj2 x gx jG l gl kS lr c1
 obtain⟨h0,xv⟩:=c1;unfold oB;rw[h0,bC xv,bC lr,di,di,di];by_cases c2:((List.range l.length).all λi=>su x l i)=true
 .rw [c2];exact aj4 x gx jG l gl kS h0 xv lr λi hi=>bU.1 c2 i (b6.2 hi)
 .rw [bt c2];obtain⟨N,n1,n2,n3⟩:=xR c2;exact aj3 x gx jG l gl kS h0 xv lr N n1 (λk hk=>by simpa using n3 k hk) (by simpa using n2)
def Sg(x:List RI)(i:Nat):PS:=⟨31,true,[(3,.e (iP i)),(0,.e (iD x))],[]⟩
def Sh(x:List RI)(i:Nat):PS:=⟨31,true,[(3,.e (iP i)),(0,.e (iD x))],[]⟩
def Si(x:List RI)(i:Nat):PS:=⟨31,true,[(3,.e (iP i)),(0,.e (iD x))],[]⟩
def Sf(x:List RI)(N:Nat)(i:Nat):PS:=⟨31,true,[(3,.e (iP i)),(0,.e (iD x))],[]⟩
def VN(x y:List Iv)(i:Nat):PS:=⟨27,true,[(5,.e (iP i)),(0,.e (iu x)),(1,.e (iu y))],[]⟩
def VM(x y:List Iv)(N:Nat)(i:Nat):PS:=⟨27,true,[(5,.e (iP i)),(0,.e (iu x)),(1,.e (iu y))],[]⟩
def X3(x:List RI)(l:List kN)(i:Nat):PS:=⟨104,true,[(3,.e (iP i)),(1,.box 1 0)],[(1,.cells 50 [iD x,jR l])]⟩
def X2(x:List RI)(l:List kN)(N:Nat)(i:Nat):PS:=⟨104,true,[(3,.e (iP i)),(1,.box 1 0)],[(1,.cells 50 [iD x,jR l])]⟩
def K6{x:RI}(h:nN x=true):oW x=true/\x.all=false:=by
 unfold nN at h;rw[bQ]at h;exact⟨h.1,by simpa using h.2⟩
def ajQ{x:RI}(h1:oW x=true)(h2:x.all=false):nN x=true:=by
 unfold nN;rw[h1,h2];rfl
def acu(x:List RI)(gx:∀ i,(x.getD i jC).iW)(jG:x.length<=1000)(jc:∀ i,i<x.length->nN (x.getD i jC)=true)(hc:x.length<1):ie 73 [iD x] (bP false):=
 ak call73 func73 (af [.s (Sp.jT (Sg x) 0 x.length aC (λi hi nP=>by
    obtain⟨p1,p2⟩:=K6 (jc i aC);exact iL (af [tT 7 ((i:Int)<x.length) aC,iX (i:Int) (x.length) aC,.c (yM (x.getD i jC) (gx _)),ah 14 (oW (x.getD i jC)) p1,
     iX (i:Int) (x.length) aC,ai 21 ((x.getD i jC).all) p2,iF ((i:Int)+1) aC]) aF)
  (λhi=>by
    exact iL (af [tF 7 ((x.length:Int)<x.length) aC]) aF) aI:jS 2 Tryz.f73 (Sg x 0) (.exit 0) ⟨31,true,[(0,.e (iD x))],[]⟩) .nil,tF 25 (1<=(x.length:Int)) aC]) 
def acv(x:List RI)(gx:∀ i,(x.getD i jC).iW)(jG:x.length<=1000)(jc:∀ i,i<x.length->nN (x.getD i jC)=true)(hc:1<=x.length/\x.length<=8):ie 73 [iD x] (bP true):=
 ak call73 func73 (af [.s (Sp.jT (Sh x) 0 x.length aC (λi hi nP=>by
    obtain⟨p1,p2⟩:=K6 (jc i aC);exact iL (af [tT 7 ((i:Int)<x.length) aC,iX (i:Int) (x.length) aC,.c (yM (x.getD i jC) (gx _)),ah 14 (oW (x.getD i jC)) p1,
     iX (i:Int) (x.length) aC,ai 21 ((x.getD i jC).all) p2,iF ((i:Int)+1) aC]) aF)
  (λhi=>by
    exact iL (af [tF 7 ((x.length:Int)<x.length) aC]) aF) aI:jS 2 Tryz.f73 (Sh x 0) (.exit 0) ⟨31,true,[(0,.e (iD x))],[]⟩) .nil,tT 25 (1<=(x.length:Int)) aC,tT 29 ((x.length:Int)<=8) aC]) 
def acw(x:List RI)(gx:∀ i,(x.getD i jC).iW)(jG:x.length<=1000)(jc:∀ i,i<x.length->nN (x.getD i jC)=true)(hc:8<x.length):ie 73 [iD x] (bP false):=
 ak call73 func73 (af [.s (Sp.jT (Si x) 0 x.length aC (λi hi nP=>by
    obtain⟨p1,p2⟩:=K6 (jc i aC);exact iL (af [tT 7 ((i:Int)<x.length) aC,iX (i:Int) (x.length) aC,.c (yM (x.getD i jC) (gx _)),ah 14 (oW (x.getD i jC)) p1,
     iX (i:Int) (x.length) aC,ai 21 ((x.getD i jC).all) p2,iF ((i:Int)+1) aC]) aF)
  (λhi=>by
    exact iL (af [tF 7 ((x.length:Int)<x.length) aC]) aF) aI:jS 2 Tryz.f73 (Si x 0) (.exit 0) ⟨31,true,[(0,.e (iD x))],[]⟩) .nil,tT 25 (1<=(x.length:Int)) aC,tF 29 ((x.length:Int)<=8) aC]) 
def acx(x:List RI)(gx:∀ i,(x.getD i jC).iW)(jG:x.length<=1000)(N:Nat)(nJ:N<x.length)(jc:∀ i,i<N->nN (x.getD i jC)=true)(hN:nN (x.getD N jC)=false):ie 73 [iD x] (bP false):=
 ak call73 func73 (af [.s (Sp.jT (Sf x N) 0 N aC (λi hi nP=>by
    obtain⟨p1,p2⟩:=K6 (jc i aC);exact iL (af [tT 7 ((i:Int)<x.length) aC,iX (i:Int) (x.length) aC,.c (yM (x.getD i jC) (gx _)),ah 14 (oW (x.getD i jC)) p1,
     iX (i:Int) (x.length) aC,ai 21 ((x.getD i jC).all) p2,iF ((i:Int)+1) aC]) aF)
  (λhi=>by
    by_cases p1:oW (x.getD N jC)=true
    .by_cases p2:(x.getD N jC).all=true
     .exact iL (af [tT 7 ((N:Int)<x.length) aC,iX (N:Int) (x.length) aC,.c (yM (x.getD N jC) (gx _)),ah 14 (oW (x.getD N jC)) p1,
      iX (N:Int) (x.length) aC,ah 21 ((x.getD N jC).all) p2]) aF 
     .exact absurd (ajQ p1 (by simpa using p2)) (by rw[hN];decide)
    .exact iL (af [tT 7 ((N:Int)<x.length) aC,iX (N:Int) (x.length) aC,.c (yM (x.getD N jC) (gx _)),tB 14 (bt p1)]) aF) aI:jS 2 Tryz.f73 (Sf x N 0) .ret ⟨31,true,[(2,.e (bP false))],[]⟩) .nil]) 
def pG(x:List RI)(gx:∀ i,(x.getD i jC).iW)(jG:x.length<=1000):ie 73 [iD x] (bP (k0 x)):=by
 unfold k0;by_cases c:((List.range x.length).all λi=>nN (x.getD i jC))=true
 .have jc:∀ i,i<x.length->nN (x.getD i jC)=true:=λi hi=>bU.1 c i (b6.2 hi)
  rw[c,ap0];by_cases h1:x.length<1
  .rw [bD aC];exact acu x gx jG jc h1
  .by_cases h8:8<x.length
   .rw [bD aC];exact acw x gx jG jc h8
   .rw [bC aC];exact acv x gx jG jc aC 
 .rw [bt c,Bool.and_false];obtain⟨N,n1,n2,n3⟩:=xR c;exact acx x gx jG N n1 (λk hk=>by simpa using n3 k hk) (by simpa using n2)
def oC(d:RD)(g:d.iW):ie 74 [jj d] (bP (kU d)):=Ll d g _ nV
def uk(a b:RD)(ga:a.iW)(gb:b.iW)(ha:a.Ok)(hb:b.Ok):ie 75 [jj a,jj b] (iP (jf a.dy b.dy)):=by
 rw[show jj a=iz a.dy by rw[<-C0,ha.eq ga],show jj b=iz b.dy by rw[<-C0,hb.eq gb]];exact IB _ _ ha.valid.zK hb.valid.zK
def Cu(a b:RD)(ga:a.iW)(gb:b.iW)(ha:a.Ok)(hb:b.Ok):ie 34 [jj a,jj b] (bP (decide (jf a.dy b.dy=0))):=by
 rw[show jj a=iz a.dy by rw[<-C0,ha.eq ga],show jj b=iz b.dy by rw[<-C0,hb.eq gb]];refine Qq _ _ _ ?_ (by have:=ha.valid.ij;omega) (by have:=hb.valid.ij;omega);rw[cL];refine⟨adL ha.valid hb.valid,λh=>?_⟩;rw[h];have:=EB b.dy b.dy;omega
def LD(x:Iv)(hx:x.ix):ie 90 [iy x] (bP true):=by
 have h:=yM (Iv.raw x) hx.JW;rwa[Ho,uh.2 hx.KW]at h
def QI(x y:Iv)(hx:x.ix)(hy:y.ix):ie 160 [iy x,iy y] (bP (ri x y)):=by
 obtain⟨w1,w2⟩:=hx.kq;obtain⟨w3,w4⟩:=hy.kq;exact ak call160 func160 (ae [ag [iy x] (LD _ aD),ag [iy y] (LD _ aD)]<|.w (x.all=true)
  (λk1=>ae [tB 15 k1,ag [iy x] (LD _ aD),ag [iy y] (LD _ aD)]<|rQ (bP y.all) (bP (ri x y)) (jL (by rw[dv];unfold ri;simp[k1])))
  (λk1=>ae [tB 15 (bt k1)]<|.w (y.all=true)
   (λk2=>ae [tB 28 k2]<|rQ (bP true) (bP (ri x y)) (jL (by rw[dv];unfold ri;simp[k1,k2])))
   (λk2=>ae [tB 28 (bt k2),.c (IB y.lo x.lo (Fp.Dy.ix.zK aD) (Fp.Dy.ix.zK aD))]<|.w ((jf y.lo x.lo)<=0)
    (λk3=>ae [tB 35 (bC k3),.c (IB x.hi y.hi (Fp.Dy.ix.zK aD) (Fp.Dy.ix.zK aD))]<|rQ (bP (decide ((jf x.hi y.hi)<=0))) (bP (ri x y)) (jL (by rw[dv];unfold ri;simp[k1,k2,k3])))
    (λk3=>ae [tB 35 (bD k3)]<|rQ (bP false) (bP (ri x y)) (jL (by rw[dv];unfold ri;simp[k1,k2,k3])))))) 
def ahm(x y:List Iv)(x8:x.length<=8)(hx:qN x)(hy:qN y)(y8:y.length<=8)(hl:x.length≠y.length):ie 76 [iu x,iu y] (bP false):=
 ak call76 func76 (af [ah 10 ((x.length:Int) != (y.length:Int)) (KP hl)]) 
def aho(x y:List Iv)(x8:x.length<=8)(hx:qN x)(hy:qN y)(hl:x.length=y.length)(jc:∀ i,i<x.length->(ri (x.getD i il) (y.getD i il))=true):ie 76 [iu x,iu y] (bP true):=
 ak call76 func76 (af [ai 10 ((x.length:Int) != (y.length:Int)) (pf hl),.s (Sp.jT (VN x y) 0 x.length aC (λi hi nP=>by
    have v1:=(hx i aC).1;have v2:=(hy i aC).1;exact iL (af [tT 14 ((i:Int)<x.length) aC,iX (i:Int) (x.length) aC,iX (i:Int) (y.length) aC,.c (QI (x.getD i il) (y.getD i il) v1 v2),ah 25 (ri (x.getD i il) (y.getD i il)) (jc i aC),iF ((i:Int)+1) aC]) aF)
  (λhi=>by
    exact iL (af [tF 14 ((x.length:Int)<x.length) aC]) aF) aI:jS 4 Tryz.f76 (VN x y 0) (.exit 0) ⟨27,true,[],[]⟩) .nil]) 
def ahl(x y:List Iv)(x8:x.length<=8)(hx:qN x)(hy:qN y)(hl:x.length=y.length)(N:Nat)(nJ:N<x.length)(jc:∀ i,i<N->(ri (x.getD i il) (y.getD i il))=true)(hN:(ri (x.getD N il) (y.getD N il))=false):ie 76 [iu x,iu y] (bP false):=
 ak call76 func76 (af [ai 10 ((x.length:Int) != (y.length:Int)) (pf hl),.s (Sp.jT (VM x y N) 0 N aC (λi hi nP=>by
    have v1:=(hx i aC).1;have v2:=(hy i aC).1;exact iL (af [tT 14 ((i:Int)<x.length) aC,iX (i:Int) (x.length) aC,iX (i:Int) (y.length) aC,.c (QI (x.getD i il) (y.getD i il) v1 v2),ah 25 (ri (x.getD i il) (y.getD i il)) (jc i aC),iF ((i:Int)+1) aC]) aF)
  (λhi=>by
    have v1:=(hx N aC).1;have v2:=(hy N aC).1;exact iL (af [tT 14 ((N:Int)<x.length) aC,iX (N:Int) (x.length) aC,iX (N:Int) (y.length) aC,.c (QI (x.getD N il) (y.getD N il) v1 v2),ai 25 (ri (x.getD N il) (y.getD N il)) hN]) aF) aI:jS 4 Tryz.f76 (VM x y N 0) .ret ⟨27,true,[(4,.e (bP false))],[]⟩) .nil]) 
def ahn(x y:List Iv)(x8:x.length<=8)(hx:qN x)(hy:qN y)(y8:y.length<=8):ie 76 [iu x,iu y] (bP (decide (x.length=y.length)&&zE x y)):=by
 by_cases hl:x.length=y.length
 .rw [bC hl,di];by_cases c:zE x y=true
  .rw [c];exact aho x y x8 hx hy hl λi hi=>bU.1 c i (b6.2 hi)
  .rw [bt c];obtain⟨N,n1,n2,n3⟩:=xR c;exact ahl x y x8 hx hy hl N n1 (λk hk=>by simpa using n3 k hk) (by simpa using n2)
 .rw [bD hl,Bool.false_and];exact ahm x y x8 hx hy y8 hl
def vu{x y:List RI}(gx:∀ i,(x.getD i jC).iW)(gy:∀ i,(y.getD i jC).iW)(h1:k0 x=true)(h2:k0 y=true):ie 76 [iD x,iD y] (bP (nu x y)):=by
 obtain⟨a1,a8,a2,a3⟩:=Ak gx h1;obtain⟨b1,b8,b2,b3⟩:=Ak gy h2;have:=ahn (x.map RI.iv) (y.map RI.iv) (by rw[bZ];exact a8) a2 b2 (by rw[bZ];exact b8);rw[a3,b3];unfold nu wX;rw[h1,h2,di,di];rwa[bZ,bZ]at this
def vX(x:List RI)(l:List kN)(i:Nat)(hi:i<=l.length)(hl:l.length<=1000):ie 24 [.agg [iD x,jR l],iP i] (iD (kK x l i)):=by
 by_cases h0:i=0
 .exact ak call24 func24 (ae [ah 6 ((i:Int)==0) (bn aC)]<|rQ (iD x) (iD (kK x l i)) (by unfold kK;rw[bB h0])) 
 .exact ak call24 func24 (ae [ai 6 ((i:Int)==0) (bk aC),iF ((i:Int)-1) aC,.o 12 (aq ((i:Int)-1) ((i-1:Nat):Int) aC),
   iX ((i-1:Nat):Int) (l.length) aC]<|rQ (iD ((l.getD (i-1) iq).z)) (iD (kK x l i)) (by unfold kK;rw[bA h0])) 
def DB{x y:List RI}(h:nu x y=true):k0 x=true/\k0 y=true/\x.length=y.length:=by
 unfold nu wX at h;simp only[bQ,cL]at h;exact⟨h.1.1,h.1.2.1,h.1.2.2⟩
def MI{x:List RI}{l:List kN}(h0:k0 x=true){i:Nat}(jc:∀ j,j<i->su x l j=true):k0 (kK x l i)=true:=by
 unfold kK;split
 .exact h0
 .exact (DB (wR (jc (i-1) aC)).2.2.2.2.2.1).1
def aj1(x:List RI)(gx:∀ i,(x.getD i jC).iW)(jG:x.length<=1000)(l:List kN)(gl:∀ i,(l.getD i iq).iW)(kS:∀ i,(l.getD i iq).y.length<=1000/\(l.getD i iq).z.length<=1000)(h0:k0 x=true)(xv:x.length<=4)(lr:l.length<=1000)(jc:∀ i,i<l.length->su x l i=true):ie 20 [.agg [iD x,jR l]] (bP true):=
 ak call20 func20 (af [ag [iD x] (pG x aD aD),ah 7 (k0 x) h0,tF 13 (4<(x.length:Int)) aC,tF 19 (1000<(l.length:Int)) aC,.s (Sp.jT (X3 x l) 0 l.length aC (λi hi nP=>by
    obtain⟨h1,h2,h3,h4,h5,h6,h7⟩:=wR (jc i aC);obtain⟨nk,jE,_⟩:=DB h6;have UN:=MI (i:=i) h0 λj hj=>jc j aC 
    obtain⟨ga,gb,gy,gz⟩:=gl i;obtain⟨vt,wF⟩:=kS i;obtain⟨gp1,gp,gp3,gp4⟩:=gl (i-1);obtain⟨gbf,GR⟩:=Ev gx jG gl kS i;by_cases hz:i=0
    .exact iL (af [tT 25 ((i:Int)<l.length) aC,iX (i:Int) (l.length) aC,ag [jj ((l.getD i iq).a)] (oC _ aD),ah 35 (kU ((l.getD i iq).a)) (nV.2 h1),ag [jj ((l.getD i iq).b)] (oC _ aD),ah 40 (kU ((l.getD i iq).b)) (nV.2 h2),ag [jj ((l.getD i iq).a),jj ((l.getD i iq).b)] (uk _ _ aD aD aD aD),tF 49 (0<=(jf (RD.dy ((l.getD i iq).a)) (RD.dy ((l.getD i iq).b)))) aC,tF 53 (0<(i:Int)) aC,ag [iD ((l.getD i iq).y)] (pG ((l.getD i iq).y) aD aD),ah 70 (k0 ((l.getD i iq).y)) jE,ag [iD ((l.getD i iq).z)] (pG ((l.getD i iq).z) aD aD),ah 75 (k0 ((l.getD i iq).z)) nk,ai 85 ((((l.getD i iq).y).length:Int) != (x.length:Int)) (pf h4),ag [iD ((l.getD i iq).z),iD ((l.getD i iq).y)] (vu aD aD aD aD),ah 92 (nu ((l.getD i iq).z) ((l.getD i iq).y)) h6,.c (vX x l i aC aC),ag [iD (kK x l i),iD ((l.getD i iq).y)] (vu aD aD aD aD),ah 101 (nu (kK x l i) ((l.getD i iq).y)) h7,iF ((i:Int)+1) aC]) aF 
    .have h5:=h5.resolve_left hz;have hp:=(wR (jc (i-1) aC)).2.1;exact iL (af [tT 25 ((i:Int)<l.length) aC,iX (i:Int) (l.length) aC,ag [jj ((l.getD i iq).a)] (oC _ aD),ah 35 (kU ((l.getD i iq).a)) (nV.2 h1),ag [jj ((l.getD i iq).b)] (oC _ aD),ah 40 (kU ((l.getD i iq).b)) (nV.2 h2),ag [jj ((l.getD i iq).a),jj ((l.getD i iq).b)] (uk _ _ aD aD aD aD),tF 49 (0<=(jf (RD.dy ((l.getD i iq).a)) (RD.dy ((l.getD i iq).b)))) aC,tT 53 (0<(i:Int)) aC,iF ((i:Int)-1) aC,.o 60 (aq ((i:Int)-1) ((i-1:Nat):Int) aC),iX ((i-1:Nat):Int) (l.length) aC,ag [jj ((l.getD i iq).a),jj ((l.getD (i-1) iq).b)] (Cu _ _ aD aD aD aD),tB 64 (bC h5),ag [iD ((l.getD i iq).y)] (pG ((l.getD i iq).y) aD aD),ah 70 (k0 ((l.getD i iq).y)) jE,ag [iD ((l.getD i iq).z)] (pG ((l.getD i iq).z) aD aD),ah 75 (k0 ((l.getD i iq).z)) nk,ai 85 ((((l.getD i iq).y).length:Int) != (x.length:Int)) (pf h4),ag [iD ((l.getD i iq).z),iD ((l.getD i iq).y)] (vu aD aD aD aD),ah 92 (nu ((l.getD i iq).z) ((l.getD i iq).y)) h6,.c (vX x l i aC aC),ag [iD (kK x l i),iD ((l.getD i iq).y)] (vu aD aD aD aD),ah 101 (nu (kK x l i) ((l.getD i iq).y)) h7,iF ((i:Int)+1) aC]) aF)
  (λhi=>by
    exact iL (af [tF 25 ((l.length:Int)<l.length) aC]) aF) aI:jS 4 Tryz.f20 (X3 x l 0) (.exit 0) ⟨104,true,[],[]⟩) .nil]) 
def aj0(x:List RI)(gx:∀ i,(x.getD i jC).iW)(jG:x.length<=1000)(l:List kN)(gl:∀ i,(l.getD i iq).iW)(kS:∀ i,(l.getD i iq).y.length<=1000/\(l.getD i iq).z.length<=1000)(h0:k0 x=true)(xv:x.length<=4)(lr:l.length<=1000)(N:Nat)(nJ:N<l.length)(jc:∀ i,i<N->su x l i=true)(hN:su x l N=false):ie 20 [.agg [iD x,jR l]] (bP false):=
 ak call20 func20 (af [ag [iD x] (pG x aD aD),ah 7 (k0 x) h0,tF 13 (4<(x.length:Int)) aC,tF 19 (1000<(l.length:Int)) aC,.s (Sp.jT (X2 x l N) 0 N aC (λi hi nP=>by
    obtain⟨h1,h2,h3,h4,h5,h6,h7⟩:=wR (jc i aC);obtain⟨nk,jE,_⟩:=DB h6;have UN:=MI (i:=i) h0 λj hj=>jc j aC 
    obtain⟨ga,gb,gy,gz⟩:=gl i;obtain⟨vt,wF⟩:=kS i;obtain⟨gp1,gp,gp3,gp4⟩:=gl (i-1);obtain⟨gbf,GR⟩:=Ev gx jG gl kS i;by_cases hz:i=0
    .exact iL (af [tT 25 ((i:Int)<l.length) aC,iX (i:Int) (l.length) aC,ag [jj ((l.getD i iq).a)] (oC _ aD),ah 35 (kU ((l.getD i iq).a)) (nV.2 h1),ag [jj ((l.getD i iq).b)] (oC _ aD),ah 40 (kU ((l.getD i iq).b)) (nV.2 h2),ag [jj ((l.getD i iq).a),jj ((l.getD i iq).b)] (uk _ _ aD aD aD aD),tF 49 (0<=(jf (RD.dy ((l.getD i iq).a)) (RD.dy ((l.getD i iq).b)))) aC,tF 53 (0<(i:Int)) aC,ag [iD ((l.getD i iq).y)] (pG ((l.getD i iq).y) aD aD),ah 70 (k0 ((l.getD i iq).y)) jE,ag [iD ((l.getD i iq).z)] (pG ((l.getD i iq).z) aD aD),ah 75 (k0 ((l.getD i iq).z)) nk,ai 85 ((((l.getD i iq).y).length:Int) != (x.length:Int)) (pf h4),ag [iD ((l.getD i iq).z),iD ((l.getD i iq).y)] (vu aD aD aD aD),ah 92 (nu ((l.getD i iq).z) ((l.getD i iq).y)) h6,.c (vX x l i aC aC),ag [iD (kK x l i),iD ((l.getD i iq).y)] (vu aD aD aD aD),ah 101 (nu (kK x l i) ((l.getD i iq).y)) h7,iF ((i:Int)+1) aC]) aF 
    .have h5:=h5.resolve_left hz;have hp:=(wR (jc (i-1) aC)).2.1;exact iL (af [tT 25 ((i:Int)<l.length) aC,iX (i:Int) (l.length) aC,ag [jj ((l.getD i iq).a)] (oC _ aD),ah 35 (kU ((l.getD i iq).a)) (nV.2 h1),ag [jj ((l.getD i iq).b)] (oC _ aD),ah 40 (kU ((l.getD i iq).b)) (nV.2 h2),ag [jj ((l.getD i iq).a),jj ((l.getD i iq).b)] (uk _ _ aD aD aD aD),tF 49 (0<=(jf (RD.dy ((l.getD i iq).a)) (RD.dy ((l.getD i iq).b)))) aC,tT 53 (0<(i:Int)) aC,iF ((i:Int)-1) aC,.o 60 (aq ((i:Int)-1) ((i-1:Nat):Int) aC),iX ((i-1:Nat):Int) (l.length) aC,ag [jj ((l.getD i iq).a),jj ((l.getD (i-1) iq).b)] (Cu _ _ aD aD aD aD),tB 64 (bC h5),ag [iD ((l.getD i iq).y)] (pG ((l.getD i iq).y) aD aD),ah 70 (k0 ((l.getD i iq).y)) jE,ag [iD ((l.getD i iq).z)] (pG ((l.getD i iq).z) aD aD),ah 75 (k0 ((l.getD i iq).z)) nk,ai 85 ((((l.getD i iq).y).length:Int) != (x.length:Int)) (pf h4),ag [iD ((l.getD i iq).z),iD ((l.getD i iq).y)] (vu aD aD aD aD),ah 92 (nu ((l.getD i iq).z) ((l.getD i iq).y)) h6,.c (vX x l i aC aC),ag [iD (kK x l i),iD ((l.getD i iq).y)] (vu aD aD aD aD),ah 101 (nu (kK x l i) ((l.getD i iq).y)) h7,iF ((i:Int)+1) aC]) aF)
  (λhi=>by
    obtain⟨ga,gb,gy,gz⟩:=gl N;obtain⟨vt,wF⟩:=kS N;obtain⟨gp1,gp,gp3,gp4⟩:=gl (N-1);obtain⟨gbf,GR⟩:=Ev gx jG gl kS N;have UN:=MI (i:=N) h0 jc;by_cases h1:kU (l.getD N iq).a=true
    .by_cases h2:kU (l.getD N iq).b=true
     .have o1:=nV.1 h1;have o2:=nV.1 h2;by_cases h3:jf (l.getD N iq).a.dy (l.getD N iq).b.dy<0
      .by_cases hz:N=0
       .by_cases jE:k0 (l.getD N iq).y=true
        .by_cases nk:k0 (l.getD N iq).z=true
         .by_cases h4:(l.getD N iq).y.length=x.length
          .by_cases h6:nu (l.getD N iq).z (l.getD N iq).y=true
           .by_cases h7:nu (kK x l N) (l.getD N iq).y=true
            .exact absurd (LG o1 o2 h3 h4 (.inl hz) h6 h7) (by rw[hN];decide)
            .exact iL (af [tT 25 ((N:Int)<l.length) aC,iX (N:Int) (l.length) aC,ag [jj ((l.getD N iq).a)] (oC _ aD),ah 35 (kU ((l.getD N iq).a)) h1,ag [jj ((l.getD N iq).b)] (oC _ aD),ah 40 (kU ((l.getD N iq).b)) h2,ag [jj ((l.getD N iq).a),jj ((l.getD N iq).b)] (uk _ _ aD aD aD aD),tF 49 (0<=(jf (RD.dy ((l.getD N iq).a)) (RD.dy ((l.getD N iq).b)))) aC,tF 53 (0<(N:Int)) aC,ag [iD ((l.getD N iq).y)] (pG ((l.getD N iq).y) aD aD),ah 70 (k0 ((l.getD N iq).y)) jE,ag [iD ((l.getD N iq).z)] (pG ((l.getD N iq).z) aD aD),ah 75 (k0 ((l.getD N iq).z)) nk,ai 85 ((((l.getD N iq).y).length:Int) != (x.length:Int)) (pf h4),ag [iD ((l.getD N iq).z),iD ((l.getD N iq).y)] (vu aD aD aD aD),ah 92 (nu ((l.getD N iq).z) ((l.getD N iq).y)) h6,.c (vX x l N aC aC),ag [iD (kK x l N),iD ((l.getD N iq).y)] (vu aD aD aD aD),tB 101 (bt h7)]) aF 
           .exact iL (af [tT 25 ((N:Int)<l.length) aC,iX (N:Int) (l.length) aC,ag [jj ((l.getD N iq).a)] (oC _ aD),ah 35 (kU ((l.getD N iq).a)) h1,ag [jj ((l.getD N iq).b)] (oC _ aD),ah 40 (kU ((l.getD N iq).b)) h2,ag [jj ((l.getD N iq).a),jj ((l.getD N iq).b)] (uk _ _ aD aD aD aD),tF 49 (0<=(jf (RD.dy ((l.getD N iq).a)) (RD.dy ((l.getD N iq).b)))) aC,tF 53 (0<(N:Int)) aC,ag [iD ((l.getD N iq).y)] (pG ((l.getD N iq).y) aD aD),ah 70 (k0 ((l.getD N iq).y)) jE,ag [iD ((l.getD N iq).z)] (pG ((l.getD N iq).z) aD aD),ah 75 (k0 ((l.getD N iq).z)) nk,ai 85 ((((l.getD N iq).y).length:Int) != (x.length:Int)) (pf h4),ag [iD ((l.getD N iq).z),iD ((l.getD N iq).y)] (vu aD aD aD aD),tB 92 (bt h6)]) aF 
          .exact iL (af [tT 25 ((N:Int)<l.length) aC,iX (N:Int) (l.length) aC,ag [jj ((l.getD N iq).a)] (oC _ aD),ah 35 (kU ((l.getD N iq).a)) h1,ag [jj ((l.getD N iq).b)] (oC _ aD),ah 40 (kU ((l.getD N iq).b)) h2,ag [jj ((l.getD N iq).a),jj ((l.getD N iq).b)] (uk _ _ aD aD aD aD),tF 49 (0<=(jf (RD.dy ((l.getD N iq).a)) (RD.dy ((l.getD N iq).b)))) aC,tF 53 (0<(N:Int)) aC,ag [iD ((l.getD N iq).y)] (pG ((l.getD N iq).y) aD aD),ah 70 (k0 ((l.getD N iq).y)) jE,ag [iD ((l.getD N iq).z)] (pG ((l.getD N iq).z) aD aD),ah 75 (k0 ((l.getD N iq).z)) nk,ah 85 ((((l.getD N iq).y).length:Int) != (x.length:Int)) (KP h4)]) aF 
         .exact iL (af [tT 25 ((N:Int)<l.length) aC,iX (N:Int) (l.length) aC,ag [jj ((l.getD N iq).a)] (oC _ aD),ah 35 (kU ((l.getD N iq).a)) h1,ag [jj ((l.getD N iq).b)] (oC _ aD),ah 40 (kU ((l.getD N iq).b)) h2,ag [jj ((l.getD N iq).a),jj ((l.getD N iq).b)] (uk _ _ aD aD aD aD),tF 49 (0<=(jf (RD.dy ((l.getD N iq).a)) (RD.dy ((l.getD N iq).b)))) aC,tF 53 (0<(N:Int)) aC,ag [iD ((l.getD N iq).y)] (pG ((l.getD N iq).y) aD aD),ah 70 (k0 ((l.getD N iq).y)) jE,ag [iD ((l.getD N iq).z)] (pG ((l.getD N iq).z) aD aD),tB 75 (bt nk)]) aF 
        .exact iL (af [tT 25 ((N:Int)<l.length) aC,iX (N:Int) (l.length) aC,ag [jj ((l.getD N iq).a)] (oC _ aD),ah 35 (kU ((l.getD N iq).a)) h1,ag [jj ((l.getD N iq).b)] (oC _ aD),ah 40 (kU ((l.getD N iq).b)) h2,ag [jj ((l.getD N iq).a),jj ((l.getD N iq).b)] (uk _ _ aD aD aD aD),tF 49 (0<=(jf (RD.dy ((l.getD N iq).a)) (RD.dy ((l.getD N iq).b)))) aC,tF 53 (0<(N:Int)) aC,ag [iD ((l.getD N iq).y)] (pG ((l.getD N iq).y) aD aD),tB 70 (bt jE)]) aF 
       .have hp:=(wR (jc (N-1) aC)).2.1;by_cases h5:jf (l.getD N iq).a.dy (l.getD (N-1) iq).b.dy=0
        .by_cases jE:k0 (l.getD N iq).y=true
         .by_cases nk:k0 (l.getD N iq).z=true
          .by_cases h4:(l.getD N iq).y.length=x.length
           .by_cases h6:nu (l.getD N iq).z (l.getD N iq).y=true
            .by_cases h7:nu (kK x l N) (l.getD N iq).y=true
             .exact absurd (LG o1 o2 h3 h4 (.inr h5) h6 h7) (by rw[hN];decide)
             .exact iL (af [tT 25 ((N:Int)<l.length) aC,iX (N:Int) (l.length) aC,ag [jj ((l.getD N iq).a)] (oC _ aD),ah 35 (kU ((l.getD N iq).a)) h1,ag [jj ((l.getD N iq).b)] (oC _ aD),ah 40 (kU ((l.getD N iq).b)) h2,ag [jj ((l.getD N iq).a),jj ((l.getD N iq).b)] (uk _ _ aD aD aD aD),tF 49 (0<=(jf (RD.dy ((l.getD N iq).a)) (RD.dy ((l.getD N iq).b)))) aC,tT 53 (0<(N:Int)) aC,iF ((N:Int)-1) aC,.o 60 (aq ((N:Int)-1) ((N-1:Nat):Int) aC),iX ((N-1:Nat):Int) (l.length) aC,ag [jj ((l.getD N iq).a),jj ((l.getD (N-1) iq).b)] (Cu _ _ aD aD aD aD),tB 64 (bC h5),ag [iD ((l.getD N iq).y)] (pG ((l.getD N iq).y) aD aD),ah 70 (k0 ((l.getD N iq).y)) jE,ag [iD ((l.getD N iq).z)] (pG ((l.getD N iq).z) aD aD),ah 75 (k0 ((l.getD N iq).z)) nk,ai 85 ((((l.getD N iq).y).length:Int) != (x.length:Int)) (pf h4),ag [iD ((l.getD N iq).z),iD ((l.getD N iq).y)] (vu aD aD aD aD),ah 92 (nu ((l.getD N iq).z) ((l.getD N iq).y)) h6,.c (vX x l N aC aC),ag [iD (kK x l N),iD ((l.getD N iq).y)] (vu aD aD aD aD),tB 101 (bt h7)]) aF 
            .exact iL (af [tT 25 ((N:Int)<l.length) aC,iX (N:Int) (l.length) aC,ag [jj ((l.getD N iq).a)] (oC _ aD),ah 35 (kU ((l.getD N iq).a)) h1,ag [jj ((l.getD N iq).b)] (oC _ aD),ah 40 (kU ((l.getD N iq).b)) h2,ag [jj ((l.getD N iq).a),jj ((l.getD N iq).b)] (uk _ _ aD aD aD aD),tF 49 (0<=(jf (RD.dy ((l.getD N iq).a)) (RD.dy ((l.getD N iq).b)))) aC,tT 53 (0<(N:Int)) aC,iF ((N:Int)-1) aC,.o 60 (aq ((N:Int)-1) ((N-1:Nat):Int) aC),iX ((N-1:Nat):Int) (l.length) aC,ag [jj ((l.getD N iq).a),jj ((l.getD (N-1) iq).b)] (Cu _ _ aD aD aD aD),tB 64 (bC h5),ag [iD ((l.getD N iq).y)] (pG ((l.getD N iq).y) aD aD),ah 70 (k0 ((l.getD N iq).y)) jE,ag [iD ((l.getD N iq).z)] (pG ((l.getD N iq).z) aD aD),ah 75 (k0 ((l.getD N iq).z)) nk,ai 85 ((((l.getD N iq).y).length:Int) != (x.length:Int)) (pf h4),ag [iD ((l.getD N iq).z),iD ((l.getD N iq).y)] (vu aD aD aD aD),tB 92 (bt h6)]) aF 
           .exact iL (af [tT 25 ((N:Int)<l.length) aC,iX (N:Int) (l.length) aC,ag [jj ((l.getD N iq).a)] (oC _ aD),ah 35 (kU ((l.getD N iq).a)) h1,ag [jj ((l.getD N iq).b)] (oC _ aD),ah 40 (kU ((l.getD N iq).b)) h2,ag [jj ((l.getD N iq).a),jj ((l.getD N iq).b)] (uk _ _ aD aD aD aD),tF 49 (0<=(jf (RD.dy ((l.getD N iq).a)) (RD.dy ((l.getD N iq).b)))) aC,tT 53 (0<(N:Int)) aC,iF ((N:Int)-1) aC,.o 60 (aq ((N:Int)-1) ((N-1:Nat):Int) aC),iX ((N-1:Nat):Int) (l.length) aC,ag [jj ((l.getD N iq).a),jj ((l.getD (N-1) iq).b)] (Cu _ _ aD aD aD aD),tB 64 (bC h5),ag [iD ((l.getD N iq).y)] (pG ((l.getD N iq).y) aD aD),ah 70 (k0 ((l.getD N iq).y)) jE,ag [iD ((l.getD N iq).z)] (pG ((l.getD N iq).z) aD aD),ah 75 (k0 ((l.getD N iq).z)) nk,ah 85 ((((l.getD N iq).y).length:Int) != (x.length:Int)) (KP h4)]) aF 
          .exact iL (af [tT 25 ((N:Int)<l.length) aC,iX (N:Int) (l.length) aC,ag [jj ((l.getD N iq).a)] (oC _ aD),ah 35 (kU ((l.getD N iq).a)) h1,ag [jj ((l.getD N iq).b)] (oC _ aD),ah 40 (kU ((l.getD N iq).b)) h2,ag [jj ((l.getD N iq).a),jj ((l.getD N iq).b)] (uk _ _ aD aD aD aD),tF 49 (0<=(jf (RD.dy ((l.getD N iq).a)) (RD.dy ((l.getD N iq).b)))) aC,tT 53 (0<(N:Int)) aC,iF ((N:Int)-1) aC,.o 60 (aq ((N:Int)-1) ((N-1:Nat):Int) aC),iX ((N-1:Nat):Int) (l.length) aC,ag [jj ((l.getD N iq).a),jj ((l.getD (N-1) iq).b)] (Cu _ _ aD aD aD aD),tB 64 (bC h5),ag [iD ((l.getD N iq).y)] (pG ((l.getD N iq).y) aD aD),ah 70 (k0 ((l.getD N iq).y)) jE,ag [iD ((l.getD N iq).z)] (pG ((l.getD N iq).z) aD aD),tB 75 (bt nk)]) aF 
         .exact iL (af [tT 25 ((N:Int)<l.length) aC,iX (N:Int) (l.length) aC,ag [jj ((l.getD N iq).a)] (oC _ aD),ah 35 (kU ((l.getD N iq).a)) h1,ag [jj ((l.getD N iq).b)] (oC _ aD),ah 40 (kU ((l.getD N iq).b)) h2,ag [jj ((l.getD N iq).a),jj ((l.getD N iq).b)] (uk _ _ aD aD aD aD),tF 49 (0<=(jf (RD.dy ((l.getD N iq).a)) (RD.dy ((l.getD N iq).b)))) aC,tT 53 (0<(N:Int)) aC,iF ((N:Int)-1) aC,.o 60 (aq ((N:Int)-1) ((N-1:Nat):Int) aC),iX ((N-1:Nat):Int) (l.length) aC,ag [jj ((l.getD N iq).a),jj ((l.getD (N-1) iq).b)] (Cu _ _ aD aD aD aD),tB 64 (bC h5),ag [iD ((l.getD N iq).y)] (pG ((l.getD N iq).y) aD aD),tB 70 (bt jE)]) aF 
        .exact iL (af [tT 25 ((N:Int)<l.length) aC,iX (N:Int) (l.length) aC,ag [jj ((l.getD N iq).a)] (oC _ aD),ah 35 (kU ((l.getD N iq).a)) h1,ag [jj ((l.getD N iq).b)] (oC _ aD),ah 40 (kU ((l.getD N iq).b)) h2,ag [jj ((l.getD N iq).a),jj ((l.getD N iq).b)] (uk _ _ aD aD aD aD),tF 49 (0<=(jf (RD.dy ((l.getD N iq).a)) (RD.dy ((l.getD N iq).b)))) aC,tT 53 (0<(N:Int)) aC,iF ((N:Int)-1) aC,.o 60 (aq ((N:Int)-1) ((N-1:Nat):Int) aC),iX ((N-1:Nat):Int) (l.length) aC,ag [jj ((l.getD N iq).a),jj ((l.getD (N-1) iq).b)] (Cu _ _ aD aD aD aD),tB 64 (bD h5)]) aF 
      .exact iL (af [tT 25 ((N:Int)<l.length) aC,iX (N:Int) (l.length) aC,ag [jj ((l.getD N iq).a)] (oC _ aD),ah 35 (kU ((l.getD N iq).a)) h1,ag [jj ((l.getD N iq).b)] (oC _ aD),ah 40 (kU ((l.getD N iq).b)) h2,ag [jj ((l.getD N iq).a),jj ((l.getD N iq).b)] (uk _ _ aD aD aD aD),tT 49 (0<=(jf (RD.dy ((l.getD N iq).a)) (RD.dy ((l.getD N iq).b)))) aC]) aF 
     .exact iL (af [tT 25 ((N:Int)<l.length) aC,iX (N:Int) (l.length) aC,ag [jj ((l.getD N iq).a)] (oC _ aD),ah 35 (kU ((l.getD N iq).a)) h1,ag [jj ((l.getD N iq).b)] (oC _ aD),tB 40 (bt h2)]) aF 
    .exact iL (af [tT 25 ((N:Int)<l.length) aC,iX (N:Int) (l.length) aC,ag [jj ((l.getD N iq).a)] (oC _ aD),tB 35 (bt h1)]) aF) aI:jS 4 Tryz.f20 (X2 x l N 0) .ret ⟨104,true,[(2,.e (bP false))],[]⟩) .nil]) 
def ajZ(x:List RI)(gx:∀ i,(x.getD i jC).iW)(jG:x.length<=1000)(l:List kN)(gl:∀ i,(l.getD i iq).iW)(kS:∀ i,(l.getD i iq).y.length<=1000/\(l.getD i iq).z.length<=1000)(lr:l.length<=1000)(hn:¬(k0 x=true/\x.length<=4)):ie 20 [.agg [iD x,jR l]] (bP false):=
 ak call20 func20 (ae [ag [iD x] (pG x aD aD)]<|.w (k0 x=true)
  (λk1=>ae [tB 7 k1]<|.w (4<(x.length:Int))
   (λk2=>af [tB 13 (bC k2)])
   (λk2=>.x (by exact absurd ⟨(by first|assumption|simp_all),aC⟩ hn)))
  (λk1=>af [tB 7 (bt k1)])) 
def Co(x:List RI)(gx:∀ i,(x.getD i jC).iW)(jG:x.length<=1000)(l:List kN)(gl:∀ i,(l.getD i iq).iW)(kS:∀ i,(l.getD i iq).y.length<=1000/\(l.getD i iq).z.length<=1000)(lr:l.length<=1000):ie 20 [Lx x l] (bP (oB x l)):=by
 by_cases c1:k0 x=true/\x.length<=4
 rotate_left
 .rw [show oB x l=false by
   unfold oB;cases h:k0 x with
   |false=>rfl
   |true=>rw[bD (show ¬x.length<=4 from λq=>c1 ⟨h,q⟩)];rfl]
  exact ajZ x gx jG l gl kS lr c1
 obtain⟨h0,xv⟩:=c1;unfold oB;rw[h0,bC xv,bC lr,di,di,di];by_cases c2:((List.range l.length).all λi=>su x l i)=true
 .rw [c2];exact aj1 x gx jG l gl kS h0 xv lr λi hi=>bU.1 c2 i (b6.2 hi)
 .rw [bt c2];obtain⟨N,n1,n2,n3⟩:=xR c2;exact aj0 x gx jG l gl kS h0 xv lr N n1 (λk hk=>by simpa using n3 k hk) (by simpa using n2)
end Go.Proofs.YtgdahmmlddfimaaGreatDoor
