/- The negative guard is crossed in the opposite direction, with the same kind, at the same time, and at the same place; what is Sure in a direction is Never in the other one. -/
import Derived.Test.YtgdahmmlddfimaaGreatDoorM04
set_option linter.unusedSimpArgs false
set_option linter.unusedVariables false
set_option linter.defProp false
set_option maxHeartbeats 4000000
open Go.Proofs.Tryz
namespace Go.Proofs.YtgdahmmlddfimaaGreatDoor
open Go.RowKit Fp Pu
def aeY:(jo (-1)).neg=true/\(jo (-1)).m=1/\(jo (-1)).e=0:= aL 
def abj : ik 381 [iP (-1)] (.agg [bP true,iu (im 1)]):=by
 obtain⟨q1,q2,q3⟩:=aeY;have z1:(im (jo (-1)).m).length<=256:=by rw[q2];exact ua aE 
 have z2:(im ((jo (-1)).m*2^(Int.toNat (jo (-1)).e))).length<=256:=by rw[q2,q3];exact ua aE 
 exact ak call381 func381 (ae [ag [iP (-1)] (rT _ aC),ag [iu (im ((jo (-1)).m)),iP ((jo (-1)).e)] (Ll _ _ aD aC aC aD)]<|rQ (.agg [bP ((jo (-1)).neg),iu (im (((jo (-1)).m)*2^(Int.toNat ((jo (-1)).e))))]) (.agg [bP true,iu (im 1)]) (by rw[q1,q2,q3];rfl)) 
def aaQ(a c:Bool×Nat)(za:(im a.2).length<=256)(zc:(im c.2).length<=256)(c0:c.2≠0)(zs:(im (a.2/c.2+1)).length<=256)(h1:a.1=false):ik 383 [.agg [bP a.1,iu (im a.2)],.agg [bP c.1,iu (im c.2)]] (.agg [bP ((qa a c).1),iu (im ((qa a c).2))]):=by
 have zq:(im (a.2/c.2)).length<=256:=bI (nB (cv _ _)) za;have zr:(im (a.2%c.2)).length<=256:=bI (nB (fe _ _)) za;have z1:(im 1).length<=256:=ua aE;have e:qa a c=(a.1,a.2/c.2):=by unfold qa;rw[bu (by rw[h1];exact λq=>Bool.noConfusion q.1)]
 exact ak call383 func383 (ae [ag [iu (im a.2),iu (im c.2)] (Aa _ _ aC aC aD),ai 19 a.1 h1,ai 23 a.1 h1]<|rQ (.agg [bP false,iu (im (a.2/c.2))]) (.agg [bP ((qa a c).1),iu (im ((qa a c).2))]) (by rw[e,h1])) 
def aaN(a c:Bool×Nat)(za:(im a.2).length<=256)(zc:(im c.2).length<=256)(c0:c.2≠0)(zs:(im (a.2/c.2+1)).length<=256)(h1:a.1=true)(h2:a.2%c.2=0):ik 383 [.agg [bP a.1,iu (im a.2)],.agg [bP c.1,iu (im c.2)]] (.agg [bP ((qa a c).1),iu (im ((qa a c).2))]):=by
 have zq:(im (a.2/c.2)).length<=256:=bI (nB (cv _ _)) za;have zr:(im (a.2%c.2)).length<=256:=bI (nB (fe _ _)) za;have z1:(im 1).length<=256:=ua aE;have e:qa a c=(a.1,a.2/c.2):=by unfold qa;rw[bu (λq=>q.2 h2)]
 exact ak call383 func383 (ae [ag [iu (im a.2),iu (im c.2)] (Aa _ _ aC aC aD),ah 19 a.1 h1,ah 23 a.1 h1,ag [iu (im (a.2%c.2))] (tf _ aC),tF 27 (0<(iD (a.2%c.2):Int)) (by rw[h2,sM];decide)]<|rQ (.agg [bP true,iu (im (a.2/c.2))]) (.agg [bP ((qa a c).1),iu (im ((qa a c).2))]) (by rw[e,h1])) 
def aaO(a c:Bool×Nat)(za:(im a.2).length<=256)(zc:(im c.2).length<=256)(c0:c.2≠0)(zs:(im (a.2/c.2+1)).length<=256)(h1:a.1=true)(h2:a.2%c.2≠0):ik 383 [.agg [bP a.1,iu (im a.2)],.agg [bP c.1,iu (im c.2)]] (.agg [bP ((qa a c).1),iu (im ((qa a c).2))]):=by
 have zq:(im (a.2/c.2)).length<=256:=bI (nB (cv _ _)) za;have zr:(im (a.2%c.2)).length<=256:=bI (nB (fe _ _)) za;have z1:(im 1).length<=256:=ua aE;have e:qa a c=jS (a.1,a.2/c.2) (true,1):=by unfold qa;rw[bw ⟨h1,h2⟩]
 exact ak call383 func383 (ae [ag [iu (im a.2),iu (im c.2)] (Aa _ _ aC aC aD),ah 19 a.1 h1,ah 23 a.1 h1,ag [iu (im (a.2%c.2))] (tf _ aC),tT 27 (0<(iD (a.2%c.2):Int)) (by have:=pn h2;omega),.c abj,ag [.agg [bP true,iu (im (a.2/c.2))],.agg [bP true,iu (im 1)]] (tJ (true,(a.2/c.2)) aD (true,1) aD aD)]<|rQ (.agg [bP ((jS (true,(a.2/c.2)) (true,1)).1),iu (im ((jS (true,(a.2/c.2)) (true,1)).2))]) (.agg [bP ((qa a c).1),iu (im ((qa a c).2))]) (by rw[e,h1])) 
def aaP(a c:Bool×Nat)(za:(im a.2).length<=256)(zc:(im c.2).length<=256)(c0:c.2≠0)(zs:(im (a.2/c.2+1)).length<=256):ik 383 [.agg [bP a.1,iu (im a.2)],.agg [bP c.1,iu (im c.2)]] (.agg [bP ((qa a c).1),iu (im ((qa a c).2))]):=by
 cases h1:a.1 with
 |false=>rw[<-h1];exact aaQ a c za zc c0 zs h1
 |true=>
  rw[<-h1];by_cases h2:a.2%c.2=0
  .exact aaN a c za zc c0 zs h1 h2
  .exact aaO a c za zc c0 zs h1 h2
def aaV(x:Iv)(n p t w2 sg eg mm:Nat)(cp u v c1 a0 a1 k l0 d0 d1:Bool×Nat)(hx:x.iy)(xa:x.all=false)(hn:n<=3)(iw:p<=2000)(ht:(t:Int)=max (max x.lo.iI x.hi.iI) 0)(t2:t<=2000)(zd:(im d1.2).length<=256)(rV:ik 378 [iP (((p+t)+40:Nat):Int)] (.agg [bP cp.1,iu (im cp.2)]))(hU:ik 384 [iA x.hi,iP (((p+t)+40:Nat):Int)] (.agg [bP u.1,iu (im u.2)]))(hV:ik 384 [iA x.lo,iP (((p+t)+40:Nat):Int)] (.agg [bP v.1,iu (im v.2)]))(hW:ik 379 [iu (im cp.2),iP ((1:Nat):Int)] (iu (im w2)))(DM:ik 382 [.agg [bP false,iu (im n)],.agg [bP cp.1,iu (im cp.2)],iP ((0:Nat):Int)] (.agg [bP c1.1,iu (im c1.2)]))(hS:ik 380 [iu (im c1.2),iP ((1:Nat):Int)] (iu (im sg)))(hE:ik 379 [iu (im 1),iP (((t+24)+4:Nat):Int)] (iu (im eg)))(vk:ik 385 [.agg [bP u.1,iu (im u.2)],.agg [bP (!false),iu (im sg)]] (.agg [bP a0.1,iu (im a0.2)]))(A0:ik 385 [.agg [bP a0.1,iu (im a0.2)],.agg [bP false,iu (im eg)]] (.agg [bP a1.1,iu (im a1.2)]))(hK:ik 383 [.agg [bP a1.1,iu (im a1.2)],.agg [bP false,iu (im w2)]] (.agg [bP k.1,iu (im k.2)]))(hM:ik 234 [iu (im k.2),iu (im w2)] (.iE [iu (im mm),iP 0]))(wj:ik 385 [.agg [bP k.1,iu (im mm)],.agg [bP false,iu (im sg)]] (.agg [bP l0.1,iu (im l0.2)]))(yd:ik 385 [.agg [bP l0.1,iu (im l0.2)],.agg [bP (!v.1),iu (im v.2)]] (.agg [bP d0.1,iu (im d0.2)]))(DN:ik 385 [.agg [bP d0.1,iu (im d0.2)],.agg [bP false,iu (im eg)]] (.agg [bP d1.1,iu (im d1.2)]))(hz:d1.2=0):ik 354 [iz x,iP n,iP p] (bP true):=by
 obtain⟨w1,w2'⟩:=hx.kr;have z1:(im 1).length<=256:=ua aE;exact ak call354 func354 (af [ag [iA x.lo] (pr _ aD),ag [iA x.hi] (pr _ aD),.o 24 (aq (if 0>(if(Dy.iI x.hi)>(Dy.iI x.lo)then(Dy.iI x.hi)else(Dy.iI x.lo))then 0 else(if(Dy.iI x.hi)>(Dy.iI x.lo)then(Dy.iI x.hi)else(Dy.iI x.lo))) t (by(repeat' split)<;>omega)),
  iL ((p:Int)+t) aC,iL (((p+t:Nat):Int)+40) aC,ag [iP (((p+t)+40:Nat):Int)] rV,ag [iu (im cp.2),iP 1] hW,.c (Ln n aC),ag [.agg [bP false,iu (im n)],.agg [bP cp.1,iu (im cp.2)],iP 0] DM,ag [iu (im c1.2),iP 1] hS,.o 42 (.e yO:aj (.sl false 1 1 λi_ j_=>[.v (.int .u32 1)].getD (i_*1+j_) (.v (.bool false))) (iu (im 1))),iL ((t:Int)+24) aC,iL (((t+24:Nat):Int)+4) aC,ag [iu (im 1),iP (((t+24)+4:Nat):Int)] hE,ag [iA x.hi,iP (((p+t)+40:Nat):Int)] hU,ag [.agg [bP false,iu (im sg)]] (xd (false,sg)),ag [.agg [bP u.1,iu (im u.2)],.agg [bP (!false),iu (im sg)]] vk,ag [.agg [bP a0.1,iu (im a0.2)],.agg [bP false,iu (im eg)]] A0,ag [.agg [bP a1.1,iu (im a1.2)],.agg [bP false,iu (im w2)]] hK,ag [iu (im k.2),iu (im w2)] hM,ag [.agg [bP k.1,iu (im mm)],.agg [bP false,iu (im sg)]] wj,ag [iA x.lo,iP (((p+t)+40:Nat):Int)] hV,ag [.agg [bP v.1,iu (im v.2)]] (xd (v.1,v.2)),ag [.agg [bP l0.1,iu (im l0.2)],.agg [bP (!v.1),iu (im v.2)]] yd,ag [.agg [bP d0.1,iu (im d0.2)],.agg [bP false,iu (im eg)]] DN,ag [.agg [bP d1.1,iu (im d1.2)]] (DL (d1.1,d1.2) aD),tB 83 (bA hz)]) 
def aaU(x:Iv)(n p t w2 sg eg mm:Nat)(cp u v c1 a0 a1 k l0 d0 d1:Bool×Nat)(hx:x.iy)(xa:x.all=false)(hn:n<=3)(iw:p<=2000)(ht:(t:Int)=max (max x.lo.iI x.hi.iI) 0)(t2:t<=2000)(zd:(im d1.2).length<=256)(rV:ik 378 [iP (((p+t)+40:Nat):Int)] (.agg [bP cp.1,iu (im cp.2)]))(hU:ik 384 [iA x.hi,iP (((p+t)+40:Nat):Int)] (.agg [bP u.1,iu (im u.2)]))(hV:ik 384 [iA x.lo,iP (((p+t)+40:Nat):Int)] (.agg [bP v.1,iu (im v.2)]))(hW:ik 379 [iu (im cp.2),iP ((1:Nat):Int)] (iu (im w2)))(DM:ik 382 [.agg [bP false,iu (im n)],.agg [bP cp.1,iu (im cp.2)],iP ((0:Nat):Int)] (.agg [bP c1.1,iu (im c1.2)]))(hS:ik 380 [iu (im c1.2),iP ((1:Nat):Int)] (iu (im sg)))(hE:ik 379 [iu (im 1),iP (((t+24)+4:Nat):Int)] (iu (im eg)))(vk:ik 385 [.agg [bP u.1,iu (im u.2)],.agg [bP (!false),iu (im sg)]] (.agg [bP a0.1,iu (im a0.2)]))(A0:ik 385 [.agg [bP a0.1,iu (im a0.2)],.agg [bP false,iu (im eg)]] (.agg [bP a1.1,iu (im a1.2)]))(hK:ik 383 [.agg [bP a1.1,iu (im a1.2)],.agg [bP false,iu (im w2)]] (.agg [bP k.1,iu (im k.2)]))(hM:ik 234 [iu (im k.2),iu (im w2)] (.iE [iu (im mm),iP 0]))(wj:ik 385 [.agg [bP k.1,iu (im mm)],.agg [bP false,iu (im sg)]] (.agg [bP l0.1,iu (im l0.2)]))(yd:ik 385 [.agg [bP l0.1,iu (im l0.2)],.agg [bP (!v.1),iu (im v.2)]] (.agg [bP d0.1,iu (im d0.2)]))(DN:ik 385 [.agg [bP d0.1,iu (im d0.2)],.agg [bP false,iu (im eg)]] (.agg [bP d1.1,iu (im d1.2)]))(hz:¬d1.2=0):ik 354 [iz x,iP n,iP p] (bP (!d1.1)):=by
 obtain⟨w1,w2'⟩:=hx.kr;have z1:(im 1).length<=256:=ua aE;exact ak call354 func354 (af [ag [iA x.lo] (pr _ aD),ag [iA x.hi] (pr _ aD),.o 24 (aq (if 0>(if(Dy.iI x.hi)>(Dy.iI x.lo)then(Dy.iI x.hi)else(Dy.iI x.lo))then 0 else(if(Dy.iI x.hi)>(Dy.iI x.lo)then(Dy.iI x.hi)else(Dy.iI x.lo))) t (by(repeat' split)<;>omega)),
  iL ((p:Int)+t) aC,iL (((p+t:Nat):Int)+40) aC,ag [iP (((p+t)+40:Nat):Int)] rV,ag [iu (im cp.2),iP 1] hW,.c (Ln n aC),ag [.agg [bP false,iu (im n)],.agg [bP cp.1,iu (im cp.2)],iP 0] DM,ag [iu (im c1.2),iP 1] hS,.o 42 (.e yO:aj (.sl false 1 1 λi_ j_=>[.v (.int .u32 1)].getD (i_*1+j_) (.v (.bool false))) (iu (im 1))),iL ((t:Int)+24) aC,iL (((t+24:Nat):Int)+4) aC,ag [iu (im 1),iP (((t+24)+4:Nat):Int)] hE,ag [iA x.hi,iP (((p+t)+40:Nat):Int)] hU,ag [.agg [bP false,iu (im sg)]] (xd (false,sg)),ag [.agg [bP u.1,iu (im u.2)],.agg [bP (!false),iu (im sg)]] vk,ag [.agg [bP a0.1,iu (im a0.2)],.agg [bP false,iu (im eg)]] A0,ag [.agg [bP a1.1,iu (im a1.2)],.agg [bP false,iu (im w2)]] hK,ag [iu (im k.2),iu (im w2)] hM,ag [.agg [bP k.1,iu (im mm)],.agg [bP false,iu (im sg)]] wj,ag [iA x.lo,iP (((p+t)+40:Nat):Int)] hV,ag [.agg [bP v.1,iu (im v.2)]] (xd (v.1,v.2)),ag [.agg [bP l0.1,iu (im l0.2)],.agg [bP (!v.1),iu (im v.2)]] yd,ag [.agg [bP d0.1,iu (im d0.2)],.agg [bP false,iu (im eg)]] DN,ag [.agg [bP d1.1,iu (im d1.2)]] (DL (d1.1,d1.2) aD),tB 83 (bB hz)]) 
def FD{a b:Bool×Nat}{i j n:Nat}(ha:a.2<2^i)(hb:b.2<2^j)(hi:i<=n)(hj:j<=n)(hn:n<=8000):∃ r:Bool×Nat,r.2<2^(n+1)/\ik 385 [.agg [bP a.1,iu (im a.2)],.agg [bP b.1,iu (im b.2)]] (.agg [bP r.1,iu (im r.2)]):=
 ⟨jS a b,ac3 ha hb hi hj,tJ a (lR ha aC) b (lR hb aC) (lR (JZ ha hb hi hj) aC)⟩
def aaT{x:Iv}(hx:x.iy)(xa:x.all=false)(n:Nat)(hn:n<=3)(p:Nat)(iw:p<=1000)(h1:x.lo.iI<=100)(h2:x.hi.iI<=100):∃ r:Bool,ik 354 [iz x,iP (n:Int),iP (p:Int)] (bP r):=by
 obtain⟨w1,w2⟩:=hx.kr;obtain⟨t,ht⟩:∃ t:Nat,(t:Int)=max (max x.lo.iI x.hi.iI) 0:=⟨(max (max x.lo.iI x.hi.iI) 0).toNat,aC⟩
 obtain⟨cp,c1,c2,c3,rV⟩:=QY (p+t+40) aC aC;have hU:=Lm x.hi w2 (p+t+40) 6000 aC aE aC;have hV:=Lm x.lo w1 (p+t+40) 6000 aC aE aC;have yu:=JN (d:=x.hi) (b:=p+t+40) (K:=6000) aC;have yv:=JN (d:=x.lo) (b:=p+t+40) (K:=6000) aC;have yc:=GU (m:=cp.2) (i:=p+t+40+3) (k:=2000) (by have e:(2:Nat)^(p+t+40+3)=2^(p+t+40)*8:=bH 2 _ 3;have:0<2^(p+t+40):=bJ aE;omega) aC;generalize rK x.hi (p+t+40)=u at hU yu;generalize rK x.lo (p+t+40)=v at hV yv;obtain⟨K,hK⟩:∃ K,K=6000:=⟨_,rfl⟩
 rw[<-hK]at yu yv;obtain⟨J,hJ⟩:∃ J,J=2000:=⟨_,rfl⟩
 rw[<-hJ]at yc;have zc:(im cp.2).length<=256:=lR yc aC;have yw:cp.2*2^1<2^(J+1):=by have e:2^(J+1)=2^J*2:=bQ _ _;omega
 have hW:=AJ cp.2 1 zc aE (lR yw aC);have w0:cp.2*2^1≠0:= aC ;generalize cp.2*2^1=w at hW yw w0;have yn:n*cp.2<2^(J+2):=by have e:2^(J+2)=2^J*4:=bH 2 J 2;have:=bW cp.2 hn;omega
 have DM:=L6 (false,n) (ua (by show n<_;omega)) cp zc 0 aE (lR yn aC);have y1:n*cp.2/2^0<2^(J+2):=cP (cv _ _) yn;obtain⟨q,hq⟩:∃ q:Bool×Nat,q=(false != cp.1,n*cp.2/2^0):=⟨_,rfl⟩
 have yq:q.2<2^(J+2):=by rw[hq];exact y1
 have SB:ik 382 [.agg [bP false,iu (im n)],.agg [bP cp.1,iu (im cp.2)],iP ((0:Nat):Int)] (.agg [bP q.1,iu (im q.2)]):=by rw[hq];exact DM
 clear DM hq;have hS:=wZ q.2 1 (lR yq aC) aE;have ys:q.2/2^1<2^(J+2):=cP (cv _ _) yq;generalize q.2/2^1=sg at hS ys;have ye:1*2^(t+24+4)<2^K:=by rw[ct];exact ig aE aC 
 have hE:=AJ 1 (t+24+4) (ua aE) aC (lR ye aC);generalize 1*2^(t+24+4)=eg at hE ye;obtain⟨a0,x0,vk⟩:=FD (b:=(!false,sg)) yu ys (n:=K) aC aC aC;obtain⟨a1,x1,A0⟩:=FD (b:=(false,eg)) x0 ye (n:=K+1) aC aC aC;have yf:a1.2/w+1<2^(K+3):=by
  have e:2^(K+3)=2^(K+1+1)*2:=bQ _ _;have:=cv a1.2 w;have:0<2^(K+1+1):=bJ aE;omega
 have hF:=aaP a1 (false,w) (lR x1 aC) (lR yw aC) w0 (lR yf aC);have yk:=cP (Sm a1 (false,w)) yf;have ym:(qa a1 (false,w)).2*w<2^(K+3):=cP (ac7 a1 (false,w)) (JZ (n:=K+2) x1 yw aC aC);generalize qa a1 (false,w)=k at hF yk ym;have hM:=Ab k.2 w (lR yk aC) (lR yw aC) (lR ym aC);generalize k.2*w=mm at hM ym;obtain⟨l0,x2,wj⟩:=FD (a:=(k.1,mm)) (b:=(false,sg)) ym ys (n:=K+3) aC aC aC;obtain⟨d0,x3,yd⟩:=FD (b:=(!v.1,v.2)) x2 yv (n:=K+4) aC aC aC;obtain⟨d1,x4,DN⟩:=FD (b:=(false,eg)) x3 ye (n:=K+5) aC aC aC;by_cases hz:d1.2=0
 .exact ⟨_,aaV x n p t w sg eg mm cp u v q a0 a1 k l0 d0 d1 hx xa hn aC ht aC (lR x4 aC) rV hU hV hW SB hS hE vk A0 hF hM wj yd DN hz⟩
 .exact ⟨_,aaU x n p t w sg eg mm cp u v q a0 a1 k l0 d0 d1 hx xa hn aC ht aC (lR x4 aC) rV hU hV hW SB hS hE vk A0 hF hM wj yd DN hz⟩
def lL:Iv:=⟨jo (-1),jo 1,false⟩
def Ap:lL.iy:=.inr ⟨rfl,show(jo (-1)).iy from s6 aE,show(jo 1).iy from s6 aE,aL⟩
def y9 : ik 352 [] (iz lL):=by
 have h1:(jo (-1)).iy:=s6 aE;have h2:(jo 1).iy:=s6 aE;exact ak call352 func352 (ae [ag [iP (-1)] (rT _ aC),ag [iP 1] (rT _ aC)]<|rR (iz lL) (.jl rfl:E.le (iz (Iv.mk (jo (-1)) (jo 1) false)) (iz lL))) 
def ZT(x y:Iv)(hx:x.iy)(hy:y.iy)(xa:(x.all||y.all)=true):ik 242 [iz x,iz y] (iz ix):=
 ak call242 func242 (af [.o 7 (.e (zT _ _):aj (.sl true 2 7 λi_ j_=>(iQ x++iQ y).getD (i_*7+j_) (.v (.bool false))) (iq [x,y])),ag [iq [x,y]] (zS _ _ aD aD),ai 8 (!(x.all||y.all)) (by rw[xa];rfl),.c nW]) 
def ZU{x y:Iv}(hx:x.iy)(hy:y.iy):∃ Z,Z.iy/\ik 242 [iz x,iz y] (iz Z):=by
 cases h:(x.all||y.all)with
 |true=>exact⟨ix,mc,ZT x y hx hy h⟩
 |false=>
  obtain⟨h1,h2⟩:=eu.1 h;exact⟨D8 x y,aeN hx hy,ZV x y hx hy h1 h2⟩
def Z5(x:Iv)(hx:x.iy)(xa:x.all=true):ik 142 [iz x,iz lL] (.iE [iz lL,bP true]):=by
 have hu:=Ap;exact ak call142 func142 (af [.c (qH x aD),.c (qH lL aD),ah 19 x.all xa]) 
def Z7(x:Iv)(hx:x.iy)(xa:x.all=false)(h:0<jE (jg x.lo lL.lo) (jk x.hi lL.hi)):ik 142 [iz x,iz lL] (.iE [iz yV,bP false]):=by
 have hu:=Ap;obtain⟨v1,v2⟩:=hx.kr;obtain⟨v3,v4⟩:=hu.kr;have m1:=qI v1 v3;have m2:=rJ v2 v4;exact ak call142 func142 (ae [.c (qH x aD),.c (qH lL aD),ai 19 x.all xa,ai 23 lL.all rfl,.c (Eg x.lo lL.lo aD aD),.c (Ef x.hi lL.hi aD aD),ag [iA (jg x.lo lL.lo),iA (jk x.hi lL.hi)] (nv _ _ aD aD),tB 41 (bA h)]<|rR (.iE [iz yV,bP false]) (.iE (.cons YZ (.cons (.refl _) .nil)):E.le (.iE [.agg au,bP false]) (.iE [iz yV,bP false]))) 
def Z8(x:Iv)(hx:x.iy)(xa:x.all=false)(h:¬0<jE (jg x.lo lL.lo) (jk x.hi lL.hi)):ik 142 [iz x,iz lL] (.iE [iz (Iv.mk (jg x.lo lL.lo) (jk x.hi lL.hi) false),bP true]):=by
 have hu:=Ap;obtain⟨v1,v2⟩:=hx.kr;obtain⟨v3,v4⟩:=hu.kr;have m1:=qI v1 v3;have m2:=rJ v2 v4;exact ak call142 func142 (af [.c (qH x aD),.c (qH lL aD),ai 19 x.all xa,ai 23 lL.all rfl,.c (Eg x.lo lL.lo aD aD),.c (Ef x.hi lL.hi aD aD),ag [iA (jg x.lo lL.lo),iA (jk x.hi lL.hi)] (nv _ _ aD aD),tB 41 (bB h)]) 
structure yW(Y:Iv):Prop where
 v:Y.iy
 f:Y.all=false
 l:jE lL.lo Y.lo<=0
 h:jE Y.hi lL.hi<=0
def alp:yW lL:=⟨Ap,rfl,aL,aL⟩
def Z6{x:Iv}(hx:x.iy):(∃ Y,yW Y/\ik 142 [iz x,iz lL] (.iE [iz Y,bP true]))\/ik 142 [iz x,iz lL] (.iE [iz yV,bP false]):=by
 cases xa:x.all with
 |true=>exact .inl ⟨lL,alp,Z5 x hx xa⟩
 |false=>
  by_cases h:0<jE (jg x.lo lL.lo) (jk x.hi lL.hi)
  .exact .inr (Z7 x hx xa h)
  .have v1:(jg x.lo lL.lo).iy:=qI hx.kr.1 Ap.kr.1;have v2:(jk x.hi lL.hi).iy:=rJ hx.kr.2 Ap.kr.2;have h1:jE lL.lo (jg x.lo lL.lo)<=0:=Vn _ _;have h2:jE (jk x.hi lL.hi) lL.hi<=0:=Vp _ _;have hq:=Z8 x hx xa h;have h3:jE (jg x.lo lL.lo) (jk x.hi lL.hi)<=0:= aC ;generalize jg x.lo lL.lo=a at *
   generalize jk x.hi lL.hi=b at *
   exact .inl ⟨⟨a,b,false⟩,⟨.inr ⟨rfl,v1,v2,h3⟩,rfl,h1,h2⟩,hq⟩
def yW.up{Y:Iv}(h:yW Y):yW ⟨Y.lo,jo 1,false⟩:=by
 have e:=h.v.kr;refine⟨.inr ⟨rfl,e.1,s6 (n:=1) aE,?_⟩,rfl,h.l,show jE (jo 1) (jo 1)<=0 by decide +kernel⟩;have:=h.v.q;rw[pA];exact bV this ((pA _ _).1 h.h)
def yW.dn{Y:Iv}(h:yW Y):yW ⟨jo (-1),Y.hi,false⟩:=by
 have e:=h.v.kr;refine⟨.inr ⟨rfl,s6 (n:=-1) aE,e.2,?_⟩,rfl,show jE (jo (-1)) (jo (-1))<=0 by decide +kernel,h.h⟩;have:=h.v.q;rw[pA];exact bV ((pA _ _).1 h.l) this
def Ir(p:Nat)(iB:8<=p)(iw:p<=512):ik 351 [iP p] (bP true):=
 ak call351 func351 (af [tT 4 (8<=(p:Int)) aC,tT 7 ((p:Int)<=512) aC]) 
def aaH(x:Iv)(cs:Bool)(p:Nat)(hx:x.iy)(xa:x.all=true)(iB:8<=p)(iw:p<=512):ik 332 [iz x,bP cs,iP p] (iz ix):=
 ak call332 func332 (af [.c (Ir p aC aC),.c (qH x aD),ah 22 x.all xa,.c nW]) 
def aaK(x:Iv)(cs:Bool)(p:Nat)(hx:x.iy)(xa:x.all=false)(iB:8<=p)(iw:p<=512)(hu:100<x.lo.iI\/100<x.hi.iI\/¬BY x 64=0\/0<=jE (uP x 64) (jo 7)):ik 332 [iz x,bP cs,iP p] (iz lL):=by
 obtain⟨w1,w2⟩:=hx.kr;have h7:(jo 7).iy:=s6 aE;have wv:(uP x 64).iy:=vQ _ aE aE _;exact ak call332 func332 (ae [.c (Ir p aC aC),.c (qH x aD),ai 22 x.all xa,ag [iA x.lo] (pr _ aD)]<|.w (100<(Dy.iI x.lo))
  (λk1=>af [tB 28 (bA k1),.c y9])
  (λk1=>ae [tB 28 (bB k1),ag [iA x.hi] (pr _ aD)]<|.w (100<(Dy.iI x.hi))
   (λk2=>af [tB 33 (bA k2),.c y9])
   (λk2=>ae [tB 33 (bB k2),.c (Lc x 64 aD aD aC aC)]<|.w (BY x 64=0)
    (λk3=>ae [tB 40 (bA k3),ag [iP 7] (rT _ aC),ag [iA (uP x 64),iA (jo 7)] (nv _ _ aD aD)]<|.w (0<=(jE (uP x 64) (jo 7)))
     (λk4=>af [tB 47 (bA k4),.c y9])
     (λk4=>.x (by rcases hu with q|q|q|q<;>contradiction)))
    (λk3=>af [tB 40 (bB k3),.c y9])))) 
def aaJ(x:Iv)(cs:Bool)(p:Nat)(hx:x.iy)(xa:x.all=false)(iB:8<=p)(iw:p<=512)(h1:¬100<x.lo.iI)(h2:¬100<x.hi.iI)(h3:BY x 64=0)(h4:¬0<=jE (uP x 64) (jo 7))(P1 P2 H:Iv)(yh:∀ c,c=cs->ik 353 [iA x.lo,bP c,iP (p:Int)] (iz P1))(yi:∀ c,c=cs->ik 353 [iA x.hi,bP c,iP (p:Int)] (iz P2))(hH:ik 242 [iz P1,iz P2] (iz H))(sc:ik 142 [iz H,iz lL] (.iE [iz yV,bP false])):ik 332 [iz x,bP cs,iP p] (iz lL):=by
 obtain⟨w1,w2⟩:=hx.kr;have h7:(jo 7).iy:=s6 aE;have wv:(uP x 64).iy:=vQ _ aE aE _;exact ak call332 func332 (af [.c (Ir p aC aC),.c (qH x aD),ai 22 x.all xa,ag [iA x.lo] (pr _ aD),tB 28 (bB h1),ag [iA x.hi] (pr _ aD),tB 33 (bB h2),.c (Lc x 64 aD aD aC aC),tB 40 (bA h3),ag [iP 7] (rT _ aC),ag [iA (uP x 64),iA (jo 7)] (nv _ _ aD aD),tB 47 (bB h4),ag [iA x.lo,bP cs,iP p] (yh cs aH),ag [iA x.hi,bP cs,iP p] (yi cs aH),ag [iz P1,iz P2] hH,.c y9,ag [iz H,iz lL] sc,.c y9]) 
def q6(cs:Bool)(R:Nat->Bool)(x Y:Iv):Iv:=if jE x.lo x.hi=0 then Y else⟨if R (if cs=true then 2 else 3)=true then jo (-1)else Y.lo,if R (if cs=true then 0 else 1)=true then jo 1 else Y.hi,Y.all⟩
def aaI(x:Iv)(cs:Bool)(p:Nat)(hx:x.iy)(xa:x.all=false)(iB:8<=p)(iw:p<=512)(h1:¬100<x.lo.iI)(h2:¬100<x.hi.iI)(h3:BY x 64=0)(h4:¬0<=jE (uP x 64) (jo 7))(P1 P2 H Y:Iv)(hY:yW Y)(yh:∀ c,c=cs->ik 353 [iA x.lo,bP c,iP (p:Int)] (iz P1))(yi:∀ c,c=cs->ik 353 [iA x.hi,bP c,iP (p:Int)] (iz P2))(hH:ik 242 [iz P1,iz P2] (iz H))(sc:ik 142 [iz H,iz lL] (.iE [iz Y,bP true]))(R:Nat->Bool)(hM:∀ s:Nat,s<=3->ik 354 [iz x,iP (s:Int),iP ((p+64:Nat):Int)] (bP (R s))):ik 332 [iz x,bP cs,iP p] (iz (q6 cs R x Y)):=by
 obtain⟨w1,w2⟩:=hx.kr;have h7:(jo 7).iy:=s6 aE;have wv:(uP x 64).iy:=vQ _ aE aE _;exact ak call332 func332 (ae [.c (Ir p aC aC),.c (qH x aD),ai 22 x.all xa,ag [iA x.lo] (pr _ aD),tB 28 (bB h1),ag [iA x.hi] (pr _ aD),tB 33 (bB h2),.c (Lc x 64 aD aD aC aC),tB 40 (bA h3),ag [iP 7] (rT _ aC),ag [iA (uP x 64),iA (jo 7)] (nv _ _ aD aD),tB 47 (bB h4)]<|.w ((jE x.lo x.hi)=0)
  (λk1=>ae [ag [iA x.lo,bP cs,iP p] (yh cs aH),ag [iA x.hi,bP cs,iP p] (yi cs aH),ag [iz P1,iz P2] hH,.c y9,ag [iz H,iz lL] sc,ag [iA x.lo,iA x.hi] (nv _ _ aD aD),tB 74 (bj k1)]<|rQ (iz Y) (iz (q6 cs R x Y)) (by unfold q6;simp[k1]))
  (λk1=>.w (cs=true)
   (λk2=>ae [tB 53 k2,ag [iA x.lo,bP true,iP p] (yh true (by simp[k2])),tB 58 k2,ag [iA x.hi,bP true,iP p] (yi true (by simp[k2])),ag [iz P1,iz P2] hH,.c y9,ag [iz H,iz lL] sc,ag [iA x.lo,iA x.hi] (nv _ _ aD aD),tB 74 (bh k1),tB 76 k2,
    iL ((p:Int)+64) aC,ag [iz x,iP 0,iP ((p+64:Nat):Int)] (hM 0 aE)]<|.w (R 0=true)
    (λk3=>ae [tB 81 k3,ag [iP 1] (rT _ aC),iL ((p:Int)+64) aC,ag [iz x,iP 2,iP ((p+64:Nat):Int)] (hM 2 aE)]<|.w (R 2=true)
     (λk4=>ae [tB 88 k4,ag [iP (-1)] (rT _ aC)]<|rQ (iz (Iv.mk (jo (-1)) (jo 1) Y.all)) (iz (q6 cs R x Y)) (by unfold q6;simp[k1,k2,k3,k4]))
     (λk4=>ae [tB 88 (bk k4)]<|rQ (iz (Iv.mk Y.lo (jo 1) Y.all)) (iz (q6 cs R x Y)) (by unfold q6;simp[k1,k2,k3,k4])))
    (λk3=>ae [tB 81 (bk k3),iL ((p:Int)+64) aC,ag [iz x,iP 2,iP ((p+64:Nat):Int)] (hM 2 aE)]<|.w (R 2=true)
     (λk4=>ae [tB 88 k4,ag [iP (-1)] (rT _ aC)]<|rQ (iz (Iv.mk (jo (-1)) Y.hi Y.all)) (iz (q6 cs R x Y)) (by unfold q6;simp[k1,k2,k3,k4]))
     (λk4=>ae [tB 88 (bk k4)]<|rQ (iz Y) (iz (q6 cs R x Y)) (by unfold q6;simp[k1,k2,k3,k4]))))
   (λk2=>ae [tB 53 (bk k2),ag [iA x.lo,bP false,iP p] (yh false (by simp[k2])),tB 58 (bk k2),ag [iA x.hi,bP false,iP p] (yi false (by simp[k2])),ag [iz P1,iz P2] hH,.c y9,ag [iz H,iz lL] sc,ag [iA x.lo,iA x.hi] (nv _ _ aD aD),tB 74 (bh k1),tB 76 (bk k2),iL ((p:Int)+64) aC,ag [iz x,iP 1,iP ((p+64:Nat):Int)] (hM 1 aE)]<|.w (R 1=true)
    (λk3=>ae [tB 81 k3,ag [iP 1] (rT _ aC),iL ((p:Int)+64) aC,ag [iz x,iP 3,iP ((p+64:Nat):Int)] (hM 3 aE)]<|.w (R 3=true)
     (λk4=>ae [tB 88 k4,ag [iP (-1)] (rT _ aC)]<|rQ (iz (Iv.mk (jo (-1)) (jo 1) Y.all)) (iz (q6 cs R x Y)) (by unfold q6;simp[k1,k2,k3,k4]))
     (λk4=>ae [tB 88 (bk k4)]<|rQ (iz (Iv.mk Y.lo (jo 1) Y.all)) (iz (q6 cs R x Y)) (by unfold q6;simp[k1,k2,k3,k4])))
    (λk3=>ae [tB 81 (bk k3),iL ((p:Int)+64) aC,ag [iz x,iP 3,iP ((p+64:Nat):Int)] (hM 3 aE)]<|.w (R 3=true)
     (λk4=>ae [tB 88 k4,ag [iP (-1)] (rT _ aC)]<|rQ (iz (Iv.mk (jo (-1)) Y.hi Y.all)) (iz (q6 cs R x Y)) (by unfold q6;simp[k1,k2,k3,k4]))
     (λk4=>ae [tB 88 (bk k4)]<|rQ (iz Y) (iz (q6 cs R x Y)) (by unfold q6;simp[k1,k2,k3,k4])))))) 
def QW{x:Iv}(hx:x.iy)(cs:Bool){p:Nat}(iB:8<=p)(iw:p<=512):∃ Z,Z.iy/\ik 332 [iz x,bP cs,iP (p:Int)] (iz Z):=by
 cases xa:x.all with
 |true=>exact⟨_,mc,aaH x cs p hx xa iB iw⟩
 |false=>
  by_cases hu:100<x.lo.iI\/100<x.hi.iI\/¬BY x 64=0\/0<=jE (uP x 64) (jo 7)
  .exact ⟨_,Ap,aaK x cs p hx xa iB iw hu⟩
  have h1:¬100<x.lo.iI:=λq=>hu (.inl q)
  have h2:¬100<x.hi.iI:=λq=>hu (.inr (.inl q))
  have h3:BY x 64=0:=ck λq=>hu (.inr (.inr (.inl q)))
  have h4:¬0<=jE (uP x 64) (jo 7):=λq=>hu (.inr (.inr (.inr q)))
  obtain⟨w1,w2⟩:=hx.kr;obtain⟨P1,g1,yh⟩:=QZ w1 aC cs iB iw;obtain⟨P2,g2,yi⟩:=QZ w2 aC cs iB iw;replace yh:∀ c,c=cs->ik 353 [iA x.lo,bP c,iP (p:Int)] (iz P1):=λc h=>h▸yh
  replace yi:∀ c,c=cs->ik 353 [iA x.hi,bP c,iP (p:Int)] (iz P2):=λc h=>h▸yi
  obtain⟨H,g3,hH⟩:=ZU g1 g2;rcases Z6 g3 with⟨Y,hY,sc⟩|sc
  rotate_left
  .exact ⟨_,Ap,aaJ x cs p hx xa iB iw h1 h2 h3 h4 P1 P2 H yh yi hH sc⟩
  have ya:=hY.f;have v0:=hY.v;have v1:(Iv.mk (jo (-1)) (jo 1) Y.all).iy:=by rw[ya];exact Ap
  have v2:(Iv.mk Y.lo (jo 1) Y.all).iy:=by rw[ya];exact hY.up.v
  have v3:(Iv.mk (jo (-1)) Y.hi Y.all).iy:=by rw[ya];exact hY.dn.v
  have v4:(Iv.mk Y.lo Y.hi Y.all).iy:=hY.v;have hm:∀ s:Nat,∃ r,s<=3->ik 354 [iz x,iP (s:Int),iP ((p+64:Nat):Int)] (bP r):=λs=>by
   by_cases hs:s<=3
   .obtain ⟨r,m⟩:=aaT hx xa s aC (p+64) aC aC aC ;exact⟨r,λ_=>m⟩
   .exact ⟨true,λh=>absurd h hs⟩
  refine⟨q6 cs (λs=>Classical.choose (hm s)) x Y,?_,aaI x cs p hx xa iB iw h1 h2 h3 h4 P1 P2 H Y hY yh yi hH sc (λs=>Classical.choose (hm s)) λs hs=>dh (hm s) hs⟩;generalize (λs=>Classical.choose (hm s))=R;unfold q6;by_cases q1:jE x.lo x.hi=0
  .rw [bw q1];exact v0
  rw[bu q1];by_cases q2:R (if cs=true then 2 else 3)=true<;>by_cases q3:R (if cs=true then 0 else 1)=true<;>simp only[q2,q3,bL,bE,bM]<;>assumption
def abi(x Z:Iv)(p:Nat)(hZ:ik 332 [iz x,bP false,iP (p:Int)] (iz Z)):ik 315 [iz x,iP p] (iz Z):=
 ak call315 func315 (af [ag [iz x,bP false,iP p] hZ]) 
def abh{x:Iv}(hx:x.iy){p:Nat}(iB:8<=p)(iw:p<=512):∃ Z,Z.iy/\ik 315 [iz x,iP (p:Int)] (iz Z):=by
 obtain⟨Z,h1,h2⟩:=QW hx false iB iw;exact⟨Z,h1,abi x Z p h2⟩
def aaM(x Z:Iv)(p:Nat)(hZ:ik 332 [iz x,bP true,iP (p:Int)] (iz Z)):ik 316 [iz x,iP p] (iz Z):=
 ak call316 func316 (af [ag [iz x,bP true,iP p] hZ]) 
def aaL{x:Iv}(hx:x.iy){p:Nat}(iB:8<=p)(iw:p<=512):∃ Z,Z.iy/\ik 316 [iz x,iP (p:Int)] (iz Z):=by
 obtain⟨Z,h1,h2⟩:=QW hx true iB iw;exact⟨Z,h1,aaM x Z p h2⟩
def adb:uQ:=λ_ _ hx iB iw=>⟨alV hx iB iw,al2 hx iB iw,abh hx iB iw,aaL hx iB iw,afd hx iB iw⟩
structure kY where
 kind:Int
 a:Int
 b:Int
 n:Int
 cn:Int
 cd:Int
structure kg where
 iC:Int
 il:List kY
 iF:List Int
 iZ:Int
 params:List RI
def lE:kY:=⟨0,0,0,0,0,0⟩
def uJ(o:kY):List E:=[iP o.kind,iP o.a,iP o.b,iP o.n,iP o.cn,iP o.cd]
def Ak(o:kY):E:=.agg (uJ o)
def lK(l:List kY):E:=.sl true l.length 6 λi j=>(uJ (l.getD i lE)).getD j .any
def mL(l:List Int):E:=.sl true l.length 1 λi _=>iP (l.getD i 0)
def Pc(s:kg):List E:=[iP s.iC,lK s.il,mL s.iF,iP s.iZ,jd s.params]
def nm(s:kg):E:=.agg (Pc s)
structure kY.jB(o:kY):Prop where
 kind:kB .i64 o.kind
 a:kB .i64 o.a
 b:kB .i64 o.b
 n:kB .i64 o.n
 cn:kB .i64 o.cn
 cd:kB .i64 o.cd
structure kg.jB(s:kg):Prop where
 iC:kB .i64 s.iC
 il:∀ i,(s.il.getD i lE).jB
 iF:∀ i,kB .i64 (s.iF.getD i 0)
 iZ:kB .i64 s.iZ
 params:∀ i,(s.params.getD i lg).jB
structure kg.wX(s:kg):Prop where
 il:s.il.length<=1000
 params:s.params.length<=1000
def jN(o:kY)(m:Int):Bool:=
 if o.kind=1 then pU o.cn o.cd&&decide (o.a=0/\o.b=0/\o.n=0)
 else if 3<=o.kind/\o.kind<=6 then decide (o.cn=0/\o.cd=0/\0<=o.a/\o.a<m/\0<=o.b/\o.b<m/\o.n=0)
 else if o.kind=8 then decide (o.cn=0/\o.cd=0/\0<=o.a/\o.a<m/\o.b=0/\0<=o.n/\o.n<=16)
 else if o.kind=7\/9<=o.kind/\o.kind<=13 then decide (o.cn=0/\o.cd=0/\0<=o.a/\o.a<m/\o.b=0/\o.n=0)
 else false
def Kf(s:kg):Bool:=(List.range s.il.length).all λi=>jN (s.il.getD i lE) (s.iC+(i:Int))
def uc(s:kg)(k:Int):Bool:=decide (0<=k/\k<s.iC+(s.il.length:Int))
def ud(s:kg):Bool:=(List.range s.iF.length).all λi=>uc s (s.iF.getD i 0)
noncomputable def qs(x:RI):Bool:=Af x && !x.all
noncomputable def G5(s:kg):Bool:=(List.range s.params.length).all λi=>qs (s.params.getD i lg)
noncomputable def ue(s:kg):Bool:=decide (0<=s.iC/\s.iC<=8/\s.il.length<=200/\s.iF.length<=200)&&Kf s&&ud s
 && decide (1<=s.iZ/\s.iZ<=4/\(s.iF.length:Int)=s.iZ/\s.iC=s.iZ+(s.params.length:Int)/\s.params.length<=4)&&G5 s
noncomputable def G3(d:RD):Bool:=@decide d.Ok (Classical.propDecidable _)
def ED{d:RD}:G3 d=true↔d.Ok:=@ij _ (Classical.propDecidable _)
def Qg{n:Nat}{f:Nat->Bool}(h:¬(List.range n).all f=true):∃ N,N<n/\(!f N)=true/\∀ k,k<N->(!f k)=false:=by
 refine uB ?_;apply ck;intro q;apply h;refine bT.2 λi hi=>?_
 cases hf:f i with
 |true=>rfl
 |false=>exact absurd ⟨i,cC.1 hi,by rw[hf];rfl⟩ q
def K8{n:Nat}{f:Nat->Bool}:((List.range n).any λi=>!f i) = !((List.range n).all f):=by
 rw[fc];simp
def kY.v(o:kY):lF:=⟨o.kind.toNat,o.a.toNat,o.b.toNat,o.n.toNat,o.cn,o.cd⟩
def kg.v(s:kg):jH:=⟨⟨s.iC.toNat,s.il.map kY.v,s.iF.map Int.toNat⟩,s.iZ.toNat,s.params.map RI.iv⟩
def ns.of{k a b n m:Nat}{cn cd:Int}(k3:k=1\/3<=k)(xw:k<=13)(ha:k=1->a=0)(A6:¬k=1->a<m)(hb:3<=k/\k<=6->b<m)(nR:¬(3<=k/\k<=6)->b=0)
 (hn:k=8->n<=16) (xm:¬k=8->n=0) (hc:k=1->pU cn cd=true) (Cj:¬k=1->cn=0/\cd=0):ns ⟨k,a,b,n,cn,cd⟩ m:=by
 refine⟨k3,xw,?_,?_,?_,?_,.inr adb⟩
 .show if k=1 then a=0 else a<m
  split<;>simp_all
 .show if 3<=k/\k<=6 then b<m else b=0
  split
  .rename_i h;exact hb h
  .rename_i h;exact nR h
 .show if k=8 then n<=16 else n=0
  split
  .rename_i h;exact hn h
  .rename_i h;exact xm h
 .show if k=1 then pU cn cd=true else cn=0/\cd=0
  split
  .rename_i h;exact hc h
  .rename_i h;exact Cj h
def WR{o:kY}{m:Nat}(h:jN o (m:Int)=true):ns o.v m/\0<=o.kind/\0<=o.a/\0<=o.b/\0<=o.n:=by
 obtain⟨k,a,b,n,cn,cd⟩:=o;unfold jN at h;simp only at h;show ns ⟨k.toNat,a.toNat,b.toNat,n.toNat,cn,cd⟩ m/\0<=k/\0<=a/\0<=b/\0<=n;split at h
 .rename_i hk;rw[bO,cL]at h;obtain⟨hr,h1,h2,h3⟩:=h;exact⟨ns.of aC aC aC aC aC aC aC aC (λ_=>hr) aC,aC,aC,aC,aC⟩
 .rename_i nT;split at h
  .rename_i hk;have h:=cQ h;exact⟨ns.of aC aC aC aC aC aC aC aC aC aC,aC,aC,aC,aC⟩
  .split at h
   .rename_i hk;have h:=cQ h;exact⟨ns.of aC aC aC aC aC aC aC aC aC aC,aC,aC,aC,aC⟩
   .split at h
    .rename_i wm hk;have h:=cQ h;exact⟨ns.of aC aC aC aC aC aC aC aC aC aC,aC,aC,aC,aC⟩
    .cases h
def WT{o:kY}(h1:0<=o.kind)(h2:0<=o.a)(h3:0<=o.b)(h4:0<=o.n):JQ o.v=uJ o:=by
 obtain⟨k,a,b,n,cn,cd⟩:=o;simp only[JQ,uJ,kY.v]at *
 rw[eI h1,eI h2,eI h3,eI h4]
def ai3{s:kg}(g:s.jB)(h:ue s=true):lM s.v/\nm s=jD s.v:=by
 unfold ue at h;simp only[bO,cL]at h;obtain⟨⟨⟨⟨⟨i0,i8,l1,l2⟩,ho⟩,hu⟩,s1,s4,e1,e2,p4⟩,hp⟩:=h;have ho:=bT.1 ho;have hu:=bT.1 hu;have hp:=bT.1 hp;have opAt:∀ i,i<s.il.length->(s.il.map kY.v).getD i iN=(s.il.getD i lE).v:=λi hi=>by simp[bC,hi]
 have ouAt:∀ i,i<s.iF.length->(s.iF.map Int.toNat).getD i 0=(s.iF.getD i 0).toNat:=λi hi=>by simp[bC,hi]
 have paAt:∀ i,i<s.params.length->(s.params.map RI.iv).getD i ix=(s.params.getD i lg).iv:=λi hi=>by simp[bC,hi]
 have op:∀ i,i<s.il.length->ns (s.il.getD i lE).v (s.iC.toNat+i)/\0<=(s.il.getD i lE).kind/\0<=(s.il.getD i lE).a/\0<=(s.il.getD i lE).b/\0<=(s.il.getD i lE).n:=λi hi=>by
  have:=ho i (cC.2 hi);exact WR (by rwa[show((s.iC.toNat+i:Nat):Int)=s.iC+(i:Int)by omega])
 have ou:∀ i,i<s.iF.length->0<=s.iF.getD i 0/\s.iF.getD i 0<s.iC+(s.il.length:Int):=λi hi=>cQ (hu i (cC.2 hi))
 have pa:∀ i,i<s.params.length->(s.params.getD i lg).Ok/\(s.params.getD i lg).all=false:=λi hi=>by
  have:=hp i (cC.2 hi);unfold qs at this;rw[bO]at this;exact⟨Bw.1 this.1,by simpa using this.2⟩
 refine⟨⟨⟨?_,?_,?_,?_,?_⟩,?_,?_,?_,?_,?_,?_⟩,?_⟩
 .show s.iC.toNat<=8;omega
 .show (s.il.map kY.v).length<=200;rw[b6];exact l1
 .show (s.iF.map Int.toNat).length<=200;rw[b6];exact l2
 .intro i hi;have hi:i<s.il.length:=by simpa[kg.v]using hi
  show ns ((s.il.map kY.v).getD i iN) (s.iC.toNat+i);rw[opAt i hi];exact(op i hi).1
 .intro i hi;have hi:i<s.iF.length:=by simpa[kg.v]using hi
  show(s.iF.map Int.toNat).getD i 0<s.iC.toNat+(s.il.map kY.v).length;rw[ouAt i hi,b6];have:=ou i hi;omega
 .show 1<=s.iZ.toNat;omega
 .show s.iZ.toNat<=4;omega
 .show (s.iF.map Int.toNat).length=s.iZ.toNat;rw[b6];omega
 .show s.iC.toNat=s.iZ.toNat+(s.params.map RI.iv).length;rw[b6];omega
 .show (s.params.map RI.iv).length<=4;rw[b6];exact p4
 .intro i hi;have hi:i<s.params.length:=by simpa[kg.v]using hi
  show((s.params.map RI.iv).getD i ix).iy/\((s.params.map RI.iv).getD i ix).all=false;rw[paAt i hi];exact⟨(pa i hi).1.valid,(pa i hi).2⟩
 .have e1:iP s.iC=iP (s.iC.toNat:Int):=by rw[eI i0]
  have e2:iP s.iZ=iP (s.iZ.toNat:Int):=by rw[eI (aC:0<=s.iZ)]
  have e3:lK s.il=mH (s.il.map kY.v):=by
   unfold lK mH;rw[b6];congr 1;funext i j;by_cases hi:i<s.il.length
   .rw [opAt i hi];obtain⟨_,h1,h2,h3,h4⟩:=op i hi;rw[WT h1 h2 h3 h4]
   .have a1:s.il.getD i lE=lE:=by rw[bC,cE aC];rfl
    have a2:(s.il.map kY.v).getD i iN=iN:=by rw[bC,cE aW];rfl
    rw[a1,a2];rfl
  have e4:mL s.iF=mG (s.iF.map Int.toNat):=by
   unfold mL mG;rw[b6];congr 1;funext i j;by_cases hi:i<s.iF.length
   .rw [ouAt i hi,eI (ou i hi).1]
   .rw [bC,cE aC,bC (l:=s.iF.map Int.toNat),cE aW];rfl
  have e5:jd s.params=iq (s.params.map RI.iv):=by
   rw[<-UA];congr 1;apply gE;intro i;unfold C3;rw[cG,cG];by_cases hi:i<s.params.length
   .have h1:=(pa i hi).1;have g1:=g.params i;rw[bG hi];rw[bC,bG hi]at h1 g1;exact congrArg some (RI.Ok.eq (x:=s.params[i]) h1 g1).symm
   .rw [cE aC];rfl
  show E.agg [iP s.iC,lK s.il,mL s.iF,iP s.iZ,jd s.params]=_;rw[e1,e2,e3,e4,e5];rfl
def W0(s:kg)(N:Nat)(x:Nat):PS:=⟨85,true,[(31,.e (iP x)),(30,.e (iP s.il.length)),(29,.e (lK s.il)),(3,.box 3 0),(1,.box 1 0)],[(3,.cells 25 [iP s.iC,lK s.il,mL s.iF]),(1,.cells 28 [iP s.iC,lK s.il,mL s.iF,iP s.iZ,jd s.params])]⟩
def W1(s:kg)(x:Nat):PS:=⟨85,true,[(31,.e (iP x)),(30,.e (iP s.il.length)),(29,.e (lK s.il)),(3,.box 3 0),(1,.box 1 0)],[(3,.cells 25 [iP s.iC,lK s.il,mL s.iF]),(1,.cells 28 [iP s.iC,lK s.il,mL s.iF,iP s.iZ,jd s.params])]⟩
def W2(s:kg)(x:Nat):PS:=⟨85,true,[(31,.e (iP x)),(30,.e (iP s.il.length)),(29,.e (lK s.il)),(3,.box 3 0),(1,.box 1 0)],[(3,.cells 25 [iP s.iC,lK s.il,mL s.iF]),(1,.cells 28 [iP s.iC,lK s.il,mL s.iF,iP s.iZ,jd s.params])]⟩
def W3(s:kg)(x:Nat):PS:=⟨85,true,[(31,.e (iP x)),(30,.e (iP s.il.length)),(29,.e (lK s.il)),(3,.box 3 0),(1,.box 1 0)],[(3,.cells 25 [iP s.iC,lK s.il,mL s.iF]),(1,.cells 28 [iP s.iC,lK s.il,mL s.iF,iP s.iZ,jd s.params])]⟩
def yF{a b:Bool}(h:a=true↔b=true):a=b:=fc.2 h
def kz{a b:Bool}(h:a=b):bP a=bP b:=h▸rfl
def rN{o:kY}{m:Int}{b:Bool}(h:b=jN o m:=by simp_all[jN,QL]<;>(repeat' split)<;>intros<;>omega):bP b=bP (jN o m):=kz h
noncomputable def ag9(o:kY)(m:Int)(g:o.jB)(C:Bool)(hC:C=decide (o.cn=0/\o.cd=0))(q1:¬o.a<0)(q2:¬o.b<0):Tr prog Tb:=
  .w (o.kind=1)
  (λk1=>ae [tB 21 (bj k1),.c (GW o.cn o.cd)]<|.w (pU o.cn o.cd=true)
   (λk2=>ae [tB 24 k2]<|.w (o.a=0)
    (λk3=>ae [tB 28 (bj k3)]<|.w (o.b=0)
     (λk4=>ae [tB 33 (bj k4)]<|rQ (bP (o.n==0)) (bP (jN o m)) rN)
     (λk4=>ae [tB 33 (bh k4)]<|rQ (bP false) (bP (jN o m)) rN))
    (λk3=>ae [tB 28 (bh k3)]<|rQ (bP false) (bP (jN o m)) rN))
   (λk2=>ae [tB 24 (bk k2)]<|rQ (bP false) (bP (jN o m)) rN))
  (λk1=>ae [tB 21 (bh k1),.j 80 ⟨111,true,[(40,.e (bP (decide (3<=o.kind/\o.kind<=6)))),(19,.e (iP o.kind)),(5,.e (bP C)),(2,.box 2 0),(1,.e (iP m))],[(2,.cells 107 [iP o.kind,iP o.a,iP o.b,iP o.n,iP o.cn,iP o.cd])]⟩
   (.w (o.kind=3)
    (λm1=>ae [.v 40 (.bool (bj m1))]<|.e (af [tB 40 (yF aJ:true=(decide (3<=o.kind/\o.kind<=6)))]))
    (λm1=>ae [.v 40 (.bool (bh m1))]<|.w (o.kind=4)
     (λm2=>ae [tB 42 (bj m2)]<|.e (af [tB 40 (yF aJ:true=(decide (3<=o.kind/\o.kind<=6)))]))
     (λm2=>ae [tB 42 (bh m2)]<|.w (o.kind=5)
      (λm3=>ae [tB 43 (bj m3)]<|.e (af [tB 40 (yF aJ:true=(decide (3<=o.kind/\o.kind<=6)))]))
      (λm3=>ae [tB 43 (bh m3)]<|.e (af [tB 40 (yF aJ:(o.kind==6)=(decide (3<=o.kind/\o.kind<=6)))])))))]<|.w (3<=o.kind/\o.kind<=6)
   (λk2=>ae [.v 40 (.bool (bA k2))]<|.w (C=true)
    (λk3=>ae [tB 45 k3]<|.w (o.a<m)
     (λk4=>ae [tB 50 (bA k4)]<|.w (o.b<m)
      (λk5=>ae [tB 56 (bA k5)]<|rQ (bP (o.n==0)) (bP (jN o m)) rN)
      (λk5=>ae [tB 56 (bB k5)]<|rQ (bP false) (bP (jN o m)) rN))
     (λk4=>ae [tB 50 (bB k4)]<|rQ (bP false) (bP (jN o m)) rN))
    (λk3=>ae [tB 45 (bk k3)]<|rQ (bP false) (bP (jN o m)) rN))
   (λk2=>ae [.v 40 (.bool (bB k2))]<|.w (o.kind=8)
    (λk3=>ae [tB 64 (bj k3)]<|.w (C=true)
     (λk4=>ae [tB 65 k4]<|.w (o.a<m)
      (λk5=>ae [tB 70 (bA k5)]<|.w (o.b=0)
       (λk6=>ae [tB 75 (bj k6)]<|.w (0<=o.n)
        (λk7=>ae [tB 80 (bA k7)]<|rQ (bP (decide (o.n<=16))) (bP (jN o m)) rN)
        (λk7=>ae [tB 80 (bB k7)]<|rQ (bP false) (bP (jN o m)) rN))
       (λk6=>ae [tB 75 (bh k6)]<|rQ (bP false) (bP (jN o m)) rN))
      (λk5=>ae [tB 70 (bB k5)]<|rQ (bP false) (bP (jN o m)) rN))
     (λk4=>ae [tB 65 (bk k4)]<|rQ (bP false) (bP (jN o m)) rN))
    (λk3=>ae [tB 64 (bh k3),.j 174 ⟨111,true,[(87,.e (bP (decide (o.kind=7\/9<=o.kind/\o.kind<=13)))),(5,.e (bP C)),(2,.box 2 0),(1,.e (iP m))],[(2,.cells 107 [iP o.kind,iP o.a,iP o.b,iP o.n,iP o.cn,iP o.cd])]⟩
   (.w (o.kind=7)
    (λm1=>ae [.v 87 (.bool (bj m1))]<|.e (af [tB 87 (yF aJ:true=(decide (o.kind=7\/9<=o.kind/\o.kind<=13)))]))
    (λm1=>ae [.v 87 (.bool (bh m1))]<|.w (o.kind=9)
     (λm2=>ae [tB 89 (bj m2)]<|.e (af [tB 87 (yF aJ:true=(decide (o.kind=7\/9<=o.kind/\o.kind<=13)))]))
     (λm2=>ae [tB 89 (bh m2)]<|.w (o.kind=10)
      (λm3=>ae [tB 90 (bj m3)]<|.e (af [tB 87 (yF aJ:true=(decide (o.kind=7\/9<=o.kind/\o.kind<=13)))]))
      (λm3=>ae [tB 90 (bh m3)]<|.w (o.kind=11)
       (λm4=>ae [tB 91 (bj m4)]<|.e (af [tB 87 (yF aJ:true=(decide (o.kind=7\/9<=o.kind/\o.kind<=13)))]))
       (λm4=>ae [tB 91 (bh m4)]<|.w (o.kind=12)
        (λm5=>ae [tB 92 (bj m5)]<|.e (af [tB 87 (yF aJ:true=(decide (o.kind=7\/9<=o.kind/\o.kind<=13)))]))
        (λm5=>ae [tB 92 (bh m5)]<|.e (af [tB 87 (yF aJ:(o.kind==13)=(decide (o.kind=7\/9<=o.kind/\o.kind<=13)))])))))))]<|.w (o.kind=7\/9<=o.kind/\o.kind<=13)
     (λk4=>ae [.v 87 (.bool (bA k4))]<|.w (C=true)
      (λk5=>ae [tB 94 k5]<|.w (o.a<m)
       (λk6=>ae [tB 99 (bA k6)]<|.w (o.b=0)
        (λk7=>ae [tB 104 (bj k7)]<|rQ (bP (o.n==0)) (bP (jN o m)) rN)
        (λk7=>ae [tB 104 (bh k7)]<|rQ (bP false) (bP (jN o m)) rN))
       (λk6=>ae [tB 99 (bB k6)]<|rQ (bP false) (bP (jN o m)) rN))
      (λk5=>ae [tB 94 (bk k5)]<|rQ (bP false) (bP (jN o m)) rN))
     (λk4=>ae [.v 87 (.bool (bB k4))]<|rQ (bP false) (bP (jN o m)) rN))))
def GL(o:kY)(m:Int)(g:o.jB):ik 178 [Ak o,iP m] (bP (jN o m)):=
 ak call178 func178 (.w (o.a<0)
  (λk1=>ae [tB 8 (bA k1)]<|rQ (bP false) (bP (jN o m)) rN)
  (λk1=>ae [tB 8 (bB k1)]<|.w (o.b<0)
   (λk2=>ae [tB 12 (bA k2)]<|rQ (bP false) (bP (jN o m)) rN)
   (λk2=>ae [tB 12 (bB k2),.g (V7 g.cn g.cd rfl:nY prog .eql 93 (.agg [iP o.cn,iP o.cd]) (.agg [iP 0,iP 0]) (.bool (decide (o.cn=0/\o.cd=0))))]<|ag9 o m g (decide (o.cn=0/\o.cd=0)) rfl k1 k2))) 
def akk(s:kg)(g:s.jB)(k:Int)(h0:0<=s.iC)(h8:s.iC<=8)(l2:s.il.length<=200):ik 179 [iP k,(.jC 3 λj_=>[iP s.iC,lK s.il,mL s.iF].getD j_ .any)] (bP (!uc s k)):=
 ak call179 func179 (.w (k<0)
  (λk1=>ae [tB 5 (bA k1)]<|rQ (bP true) (bP (!uc s k)) (kz aX))
  (λk1=>ae [tB 5 (bB k1),iL (s.iC+(s.il.length:Int)) aC]<|rQ (bP (decide ((s.iC+(s.il.length:Int))<=k))) (bP (!uc s k)) (kz aX))) 
def akm(x:RI)(g:x.jB):ik 180 [xJ x] (bP (!qs x)):=by
 have ga:=g.lo;have gb:=g.hi;by_cases ha:x.all=true
 .have e:qs x=false:=by unfold qs;rw[ha];simp
  rw[e];exact ak call180 func180 (af [ah 4 x.all ha]) 
 .replace ha:x.all=false:=by simpa using ha
  by_cases h1:x.lo.Ok
  .by_cases h2:x.hi.Ok
   .have v1:=h1.valid;have v2:=h2.valid;have e1:xJ x=iz x.iv:=by rw[<-ND,show x.iv.raw=x by show RI.mk x.lo.dy.raw x.hi.dy.raw x.all=x;rw[h1.eq ga,h2.eq gb]]
    rw[e1];by_cases h3:jE x.lo.dy x.hi.dy<=0
    .have e:qs x=true:=by unfold qs;rw[Bw.2 (.inr ⟨ha,h1,h2,h3⟩),ha];rfl
     rw[e];exact ak call180 func180 (af [ai 4 x.iv.all ha,ag [iA x.iv.lo] (q7 _ aD),ag [iA x.iv.hi] (q7 _ aD),ag [iA x.iv.lo,iA x.iv.hi] (nv _ _ aD aD),tF 23 (0<(jE x.iv.lo x.iv.hi)) (by show ¬0<jE x.lo.dy x.hi.dy;omega)]) 
    .have e:qs x=false:=by unfold qs;rw[show Af x=false by simpa using λq=>(Bw.1 q).elim (λq=>by rw[ha]at q;exact Bool.noConfusion q.1) λq=>h3 q.2.2.2];rfl
     rw[e];exact ak call180 func180 (af [ai 4 x.iv.all ha,ag [iA x.iv.lo] (q7 _ aD),ag [iA x.iv.hi] (q7 _ aD),ag [iA x.iv.lo,iA x.iv.hi] (nv _ _ aD aD),tT 23 (0<(jE x.iv.lo x.iv.hi)) (by show 0<jE x.lo.dy x.hi.dy;omega)]) 
   .have e:qs x=false:=by unfold qs;rw[show Af x=false by simpa using λq=>(Bw.1 q).elim (λq=>by rw[ha]at q;exact Bool.noConfusion q.1) λq=>h2 q.2.2.1];rfl
    rw[e];exact ak call180 func180 (af [ai 4 x.all ha,ag [tl x.lo] (AR _ aD true (by simp[h1])),ag [tl x.hi] (AR _ aD false (by simp[h2]))]) 
  .have e:qs x=false:=by unfold qs;rw[show Af x=false by simpa using λq=>(Bw.1 q).elim (λq=>by rw[ha]at q;exact Bool.noConfusion q.1) λq=>h1 q.2.1];rfl
   rw[e];exact ak call180 func180 (af [ai 4 x.all ha,ag [tl x.lo] (AR _ aD false (by simp[h1]))]) 
def Oy(s:kg)(h0:0<=s.iC)(h8:s.iC<=8)(l2:s.il.length<=200)(lu:s.iF.length<=200)(g:s.jB):ik 67 [mL s.iF,.fn 179 [(.jC 3 λj_=>[iP s.iC,lK s.il,mL s.iF].getD j_ .any)]] (bP (!ud s)):=by
 have:=Ui true s.iF.length (λi _=>iP (s.iF.getD i 0)) 179 [(.jC 3 λj_=>[iP s.iC,lK s.il,mL s.iF].getD j_ .any)] (λi=>!uc s (s.iF.getD i 0)) (λi _=>akk s g _ h0 h8 l2) (aC:s.iF.length<=1000000);rwa[K8]at this
def We(f:FuncId)(l:List RI)(hf:∀ i,ik f [xJ (l.getD i lg)] (bP (!qs (l.getD i lg))))(hl:l.length<=1000):ik 53 [jd l,.fn f []] (bP (!((List.range l.length).all λi=>qs (l.getD i lg)))):=by
 have:=NF true l.length (λi j=>(Aj (l.getD i lg)).getD j .any) f [] (λi=>!qs (l.getD i lg)) (λi _=>hf i) (aC:l.length<=1000000);rwa[K8]at this
def ako(s:kg)(g:s.jB)(sm:s.wX)(hc:¬(0<=s.iC/\s.iC<=8/\s.il.length<=200/\s.iF.length<=200)):ik 105 [nm s] (bP false):=
 ak call105 func105 (.w (s.iC<0)
  (λk1=>af [tB 10 (bA k1)])
  (λk1=>ae [tB 10 (bB k1)]<|.w (8<s.iC)
   (λk2=>af [tB 14 (bA k2)])
   (λk2=>ae [tB 14 (bB k2)]<|.w (200<(s.il.length:Int))
    (λk3=>af [tB 20 (bA k3)])
    (λk3=>ae [tB 20 (bB k3)]<|.w (200<(s.iF.length:Int))
     (λk4=>af [tB 26 (bA k4)])
     (λk4=>.x aC))))) 
def akp(s:kg)(g:s.jB)(sm:s.wX)(i0:0<=s.iC)(i8:s.iC<=8)(l1:s.il.length<=200)(l2:s.iF.length<=200)(N:Nat)(q8:N<s.il.length)(jZ:∀ k,k<N->(jN (s.il.getD k lE) (s.iC+(k:Int)))=true)(hN:(jN (s.il.getD N lE) (s.iC+(N:Int)))=false):ik 105 [nm s] (bP false):=
 ak call105 func105 (af [tF 10 (s.iC<0) aC,tF 14 (8<s.iC) aC,tF 20 (200<(s.il.length:Int)) aC,tF 26 (200<(s.iF.length:Int)) aC,.s (Sp.kE (W0 s N) 0 N aC (λx hx nd=>by
    have qE:=g.il x;exact jh (af [tT 32 ((x:Int)<s.il.length) aC,iX (x:Int) (s.il.length) aC,iL (s.iC+(x:Int)) aC,.c (GL (s.il.getD x lE) (s.iC+(x:Int)) qE),ai 42 (!(jN (s.il.getD x lE) (s.iC+(x:Int)))) (by rw[jZ x aC];rfl),iL ((x:Int)+1) aC]) aF)
  (λhx=>by
    have qE:=g.il N;exact jh (af [tT 32 ((N:Int)<s.il.length) aC,iX (N:Int) (s.il.length) aC,iL (s.iC+(N:Int)) aC,.c (GL (s.il.getD N lE) (s.iC+(N:Int)) qE),ah 42 (!(jN (s.il.getD N lE) (s.iC+(N:Int)))) (by rw[hN];rfl)]) aF) aI:kD 5 f105 (W0 s N 0) .ret ⟨85,true,[(2,.e (bP false))],[]⟩) .nil]) 
def akq(s:kg)(g:s.jB)(sm:s.wX)(i0:0<=s.iC)(i8:s.iC<=8)(l1:s.il.length<=200)(l2:s.iF.length<=200)(jZ:∀ k,k<s.il.length->(jN (s.il.getD k lE) (s.iC+(k:Int)))=true)(hu:ud s=false):ik 105 [nm s] (bP false):=
 ak call105 func105 (af [tF 10 (s.iC<0) aC,tF 14 (8<s.iC) aC,tF 20 (200<(s.il.length:Int)) aC,tF 26 (200<(s.iF.length:Int)) aC,.s (Sp.kE (W1 s) 0 s.il.length aC (λx hx nd=>by
    have qE:=g.il x;exact jh (af [tT 32 ((x:Int)<s.il.length) aC,iX (x:Int) (s.il.length) aC,iL (s.iC+(x:Int)) aC,.c (GL (s.il.getD x lE) (s.iC+(x:Int)) qE),ai 42 (!(jN (s.il.getD x lE) (s.iC+(x:Int)))) (by rw[jZ x aC];rfl),iL ((x:Int)+1) aC]) aF)
  (λhx=>by
    exact jh (af [tF 32 ((s.il.length:Int)<s.il.length) aC]) aF) aI:kD 5 f105 (W1 s 0) (.exit 0) ⟨85,true,[(3,.box 3 0),(1,.box 1 0)],[(3,.cells 25 [iP s.iC,lK s.il,mL s.iF]),(1,.cells 28 [iP s.iC,lK s.il,mL s.iF,iP s.iZ,jd s.params])]⟩) .nil,ag [mL s.iF,.fn 179 [(.jC 3 λj_=>[iP s.iC,lK s.il,mL s.iF].getD j_ .any)]] (Oy s aC aC aC aC g),ah 47 (!(ud s)) (by rw[hu];rfl)]) 
def akr(s:kg)(g:s.jB)(sm:s.wX)(i0:0<=s.iC)(i8:s.iC<=8)(l1:s.il.length<=200)(l2:s.iF.length<=200)(jZ:∀ k,k<s.il.length->(jN (s.il.getD k lE) (s.iC+(k:Int)))=true)(hu:ud s=true)(hc:¬(1<=s.iZ/\s.iZ<=4/\(s.iF.length:Int)=s.iZ/\s.iC=s.iZ+(s.params.length:Int)/\s.params.length<=4)):ik 105 [nm s] (bP false):=by
 have sp:=sm.params;exact ak call105 func105 (ae [tF 10 (s.iC<0) aC,tF 14 (8<s.iC) aC,tF 20 (200<(s.il.length:Int)) aC,tF 26 (200<(s.iF.length:Int)) aC,.s (Sp.kE (W2 s) 0 s.il.length aC (λx hx nd=>by
    have qE:=g.il x;exact jh (af [tT 32 ((x:Int)<s.il.length) aC,iX (x:Int) (s.il.length) aC,iL (s.iC+(x:Int)) aC,.c (GL (s.il.getD x lE) (s.iC+(x:Int)) qE),ai 42 (!(jN (s.il.getD x lE) (s.iC+(x:Int)))) (by rw[jZ x aC];rfl),iL ((x:Int)+1) aC]) aF)
  (λhx=>by
    exact jh (af [tF 32 ((s.il.length:Int)<s.il.length) aC]) aF) aI:kD 5 f105 (W2 s 0) (.exit 0) ⟨85,true,[(3,.box 3 0),(1,.box 1 0)],[(3,.cells 25 [iP s.iC,lK s.il,mL s.iF]),(1,.cells 28 [iP s.iC,lK s.il,mL s.iF,iP s.iZ,jd s.params])]⟩) .nil,ag [mL s.iF,.fn 179 [(.jC 3 λj_=>[iP s.iC,lK s.il,mL s.iF].getD j_ .any)]] (Oy s aC aC aC aC g),ai 47 (!(ud s)) (by rw[hu];rfl)]<|.w (s.iZ<1)
  (λk1=>af [tB 50 (bA k1)])
  (λk1=>ae [tB 50 (bB k1)]<|.w (4<s.iZ)
   (λk2=>af [tB 54 (bA k2)])
   (λk2=>ae [tB 54 (bB k2)]<|.w ((s.iF.length:Int)=s.iZ)
    (λk3=>ae [tB 62 (bn k3),iL (s.iZ+(s.params.length:Int)) aC]<|.w (s.iC=(s.iZ+(s.params.length:Int)))
     (λk4=>ae [tB 73 (bn k4)]<|.w (4<(s.params.length:Int))
      (λk5=>af [tB 79 (bA k5)])
      (λk5=>.x aC))
     (λk4=>af [tB 73 (bt k4)]))
    (λk3=>af [tB 62 (bt k3)])))) 
def aks(s:kg)(g:s.jB)(sm:s.wX)(i0:0<=s.iC)(i8:s.iC<=8)(l1:s.il.length<=200)(l2:s.iF.length<=200)(jZ:∀ k,k<s.il.length->(jN (s.il.getD k lE) (s.iC+(k:Int)))=true)(hu:ud s=true)(s1:1<=s.iZ)(s4:s.iZ<=4)(e1:(s.iF.length:Int)=s.iZ)(e2:s.iC=s.iZ+(s.params.length:Int))(p4:s.params.length<=4):ik 105 [nm s] (bP (G5 s)):=by
 have sp:=sm.params;exact ak call105 func105 (ae [tF 10 (s.iC<0) aC,tF 14 (8<s.iC) aC,tF 20 (200<(s.il.length:Int)) aC,tF 26 (200<(s.iF.length:Int)) aC,.s (Sp.kE (W3 s) 0 s.il.length aC (λx hx nd=>by
    have qE:=g.il x;exact jh (af [tT 32 ((x:Int)<s.il.length) aC,iX (x:Int) (s.il.length) aC,iL (s.iC+(x:Int)) aC,.c (GL (s.il.getD x lE) (s.iC+(x:Int)) qE),ai 42 (!(jN (s.il.getD x lE) (s.iC+(x:Int)))) (by rw[jZ x aC];rfl),iL ((x:Int)+1) aC]) aF)
  (λhx=>by
    exact jh (af [tF 32 ((s.il.length:Int)<s.il.length) aC]) aF) aI:kD 5 f105 (W3 s 0) (.exit 0) ⟨85,true,[(3,.box 3 0),(1,.box 1 0)],[(3,.cells 25 [iP s.iC,lK s.il,mL s.iF]),(1,.cells 28 [iP s.iC,lK s.il,mL s.iF,iP s.iZ,jd s.params])]⟩) .nil,ag [mL s.iF,.fn 179 [(.jC 3 λj_=>[iP s.iC,lK s.il,mL s.iF].getD j_ .any)]] (Oy s aC aC aC aC g),ai 47 (!(ud s)) (by rw[hu];rfl),tF 50 (s.iZ<1) aC,tF 54 (4<s.iZ) aC,ai 62 ((s.iF.length:Int) != s.iZ) (by simp[e1]),iL (s.iZ+(s.params.length:Int)) aC,ai 73 (s.iC != (s.iZ+(s.params.length:Int))) (by simp[e2]),tF 79 (4<(s.params.length:Int)) aC,.c (We 180 s.params (λi=>akm _ (g.params i)) aC:ik 53 [jd s.params,.fn 180 []] _)]<|rQ (bP (!(!(G5 s)))) (bP (G5 s)) (kz aH)) 
def akt(s:kg)(g:s.jB)(sm:s.wX):ik 105 [nm s] (bP (ue s)):=by
 by_cases c1:0<=s.iC/\s.iC<=8/\s.il.length<=200/\s.iF.length<=200
 rotate_left
 .rw [show ue s=false by unfold ue;rw[bB c1];rfl];exact ako s g sm c1
 obtain⟨i0,i8,l1,l2⟩:=c1;by_cases c2:Kf s=true
 rotate_left
 .rw [show ue s=false by unfold ue;rw[bk c2];simp];obtain⟨N,n1,n2,n3⟩:=Qg c2;exact akp s g sm i0 i8 l1 l2 N n1 (λk hk=>by simpa using n3 k hk) (by simpa using n2)
 have jZ:∀ k,k<s.il.length->jN (s.il.getD k lE) (s.iC+(k:Int))=true:=λk hk=>bT.1 c2 k (cC.2 hk)
 cases hu:ud s with
 |false=>
  rw[show ue s=false by unfold ue;rw[hu];simp];exact akq s g sm i0 i8 l1 l2 jZ hu
 |true=>
  by_cases c3:1<=s.iZ/\s.iZ<=4/\(s.iF.length:Int)=s.iZ/\s.iC=s.iZ+(s.params.length:Int)/\s.params.length<=4
  .rw [show ue s=G5 s by unfold ue;rw[bA (⟨i0,i8,l1,l2⟩:_/\_),c2,hu,bA c3];simp];obtain⟨s1,s4,e1,e2,p4⟩:=c3;exact aks s g sm i0 i8 l1 l2 jZ hu s1 s4 e1 e2 p4
  .rw [show ue s=false by unfold ue;rw[bB c3];simp];exact akr s g sm i0 i8 l1 l2 jZ hu c3
def Xl(a:List Iv)(t:Iv)(p:Nat)(n:Nat):PS:=⟨38,true,[(8,.e (iP ((a.length:Int)-2-(n:Int)))),(7,.box 7 0),(6,.box 6 0),(4,.box 4 0),(0,.e (iq a)),(2,.e (iP p))],[(7,.cells 39 (iQ (wA a t p (a.length-1) n))),(6,.cells 39 au),(4,.cells 39 (iQ t))]⟩
noncomputable def WI(s:jH)(y:List Iv)(t:Iv)(k p:Nat)(i:Nat):PS:=⟨54,true,[(15,.own 15),(37,.e (iP i)),(36,.e (iP ((jf s y p (k+1)).length:Int))),(35,.e (lv (jf s y p (k+1)))),(14,.box 14 0),(3,.e (iP k)),(4,.e (iP p))],[(15,.row true 39 i 7 (jc ((List.range i).map (λi=>iV (((jf s y p (k+1)).getD i []).getD (k+1) ix) (lk t (k+1) p) p)))),(14,.cells 39 (iQ (lk t (k+1) p)))]⟩
noncomputable def Qs(s:jH)(x y:List Iv)(t:Iv)(k p:Nat)(i:Nat):PS:=⟨89,true,[(17,.own 17),(65,.e (iP i)),(64,.e (iP ((jf s x p k).length:Int))),(16,.e (iq (mI s y t k p))),(14,.e (lv (jf s x p k))),(9,.box 9 0),(5,.e (iP p))],[(17,.row true 39 i 7 (jc ((List.range i).map (λi=>jO (nA ((jf s x p k).getD i []) t p) ((mI s y t k p).getD i ix) p)))),(9,.cells 39 (iQ t))]⟩
noncomputable def Qt(s:jH)(x y:List Iv)(t:Iv)(k p:Nat)(i:Nat):PS:=⟨89,true,[(17,.own 17),(65,.e (iP i)),(64,.e (iP ((jf s x p k).length:Int))),(16,.e (iq (mI s y t k p))),(14,.e (lv (jf s x p k))),(9,.box 9 0),(5,.e (iP p))],[(17,.row true 39 i 7 (jc ((List.range i).map (λi=>jO (nA ((jf s x p k).getD i []) t p) ((mI s y t k p).getD i ix) p)))),(9,.cells 39 (iQ t))]⟩
def aal(s:jH)(x:List Iv)(h:lM s)(hx:jT s.iZ x):ik 163 [iq x,(.jC 5 λj_=>[iP s.tape.iC,mH s.tape.il,mG s.tape.iF,iP s.iZ,iq s.params].getD j_ .any)] (bP false):=by
 have s1:=h.s1;have s4:=h.s4;have lx:=hx.len;exact ak call163 func163 (af [.c (Iq x aC aC hx.ok),ai 12 ((x.length:Int) != (s.iZ:Int)) (yK aC)]) 
def aed(s:jH)(x:List Iv)(h:lM s)(hx:jT s.iZ x)(y:List Iv)(hy:jT s.iZ y):ik 50 [lv [x,y],.fn 163 [(.jC 5 λj_=>[iP s.tape.iC,mH s.tape.il,mG s.tape.iF,iP s.iZ,iq s.params].getD j_ .any)]] (bP false):=
 WX true 2 (λi _=>iq ([x,y].getD i [])) 163 _ (λ_=>false) (λi hi=>by obtain rfl|rfl:i=0\/i=1:= aC <;>exact aal s _ h aD) aC (λ_ _=>rfl)
def Lf(s:jH)(x:List Iv)(h:lM s)(hx:jT s.iZ x)(y:List Iv)(hy:jT s.iZ y):ik 86 [jD s,lv [x,y]] (bP true):=
 ak call86 func86 (af [.c (Pw s h),ag [lv [x,y],.fn 163 [(.jC 5 λj_=>[iP s.tape.iC,mH s.tape.il,mG s.tape.iF,iP s.iZ,iq s.params].getD j_ .any)]] (aed s x h hx y hy)]) 
def ahB(p:Int):ik 87 [iP p] (bP (decide (8<=p)&&decide (p<=512))):=
 ak call87 func87 (.w (8<=p)
  (λk1=>ae [tB 4 (bA k1)]<|rQ (bP (decide (p<=512))) (bP (decide (8<=p)&&decide (p<=512))) (kz (by simp[k1])))
  (λk1=>ae [tB 4 (bB k1)]<|rQ (bP false) (bP (decide (8<=p)&&decide (p<=512))) (kz (by simp[k1])))) 
def ahs(k:Int):ik 93 [iP k] (bP (decide (1<=k)&&decide (k<=15))):=
 ak call93 func93 (.w (1<=k)
  (λk1=>ae [tB 4 (bA k1)]<|rQ (bP (decide (k<=15))) (bP (decide (1<=k)&&decide (k<=15))) (kz (by simp[k1])))
  (λk1=>ae [tB 4 (bB k1)]<|rQ (bP false) (bP (decide (1<=k)&&decide (k<=15))) (kz (by simp[k1])))) 
def OE(p:Nat)(h1:8<=p)(h2:p<=512):ik 87 [iP (p:Int)] (bP true):=by
 have:=ahB (p:Int);rwa[show(decide (8<=(p:Int))&&decide ((p:Int)<=512))=true from aN]at this
def Ox(k:Nat)(h1:1<=k)(h2:k<=15):ik 93 [iP (k:Int)] (bP true):=by
 have:=ahs (k:Int);rwa[show(decide (1<=(k:Int))&&decide ((k:Int)<=15))=true from aN]at this
def Yn(t:Iv)(ht:t.iy)(ta:t.all=false)(t0:0<=t.lo.jG):ik 147 [iz t] (bP true):=by
 obtain⟨w1,w2⟩:=ht.kr;exact ak call147 func147 (af [ai 4 t.all ta,.c (qH t aD),ag [iA t.lo] (pC _ aD),tB 14 (bA t0)]) 
def Xm(a:List Iv)(t:Iv)(n p:Nat)(h1:1<=n)(nQ:n<=17)(ha:kO n a)(ht:t.iy)(iB:8<=p)(iw:p<=512):ik 149 [iq a,iz t,iP p] (iz (nA a t p)):=by
 have la:=ha.len;have va0:=ha.ok 0;have va1:=ha.ok (a.length-1);exact ak call149 func149 (ae [.o 10 (.e (Br _):aj (.sl true 1 1 λi_ j_=>[iq a].getD (i_*1+j_) (.v (.bool false))) (lv [a])),.c (vZ [a] n aC aC aH (AE aD)),
  iL ((a.length:Int)-1) aC,.o 17 (aq ((a.length:Int)-1) ((a.length-1:Nat):Int) aC),iX ((a.length-1:Nat):Int) (a.length) aC,
  iL ((a.length:Int)-2) aC,.s (Sp.kE (Xl a t p) 0 (a.length-1) aC (λn hn Ji=>by
    have v1:=TA (h:=t) (m:=a.length-1) (aC:1<=p) (aC:p<=4096) ha.ok n;have v2:=ha.ok (a.length-1-(n+1));have v3:(iV (wA a t p (a.length-1) n) t p).iy:=oV _ _ aC aC;have en:((a.length:Int)-2-(n:Int)).toNat=a.length-1-(n+1):= aC ;exact jh (ae [tT 24 (0<=((a.length:Int)-2-(n:Int))) aC,.o 28 (aq ((a.length:Int)-2-(n:Int)) ((a.length-1-(n+1):Nat):Int) aC),
     iX ((a.length-1-(n+1):Nat):Int) (a.length) aC,.c (uA (wA a t p (a.length-1) n) t p aD aD aC aC),.c (wG (a.getD (a.length-1-(n+1)) ix) (iV (wA a t p (a.length-1) n) t p) p aD aD aC aC),iL (((a.length:Int)-2-(n:Int))-1) aC]<|.e (af [.o 8 (aq (((a.length:Int)-2-(n:Int))-1) ((a.length:Int)-2-((n+1:Nat):Int)) aP),.b 7 (.jl rfl:Bx.le (.cells 39 (iQ (jO (a.getD (a.length-1-(n+1)) ix) (iV (wA a t p (a.length-1) n) t p) p))) (.cells 39 (iQ (wA a t p (a.length-1) (n+1)))))])) aF)
  (λhn=>by
    exact jh (af [tF 24 (0<=((a.length:Int)-2-((a.length-1:Nat):Int))) aC]) aF) aI:kD 5 f149 (Xl a t p 0) (.exit 0) ⟨38,true,[(7,.box 7 0),(6,.box 6 0)],[(7,.cells 39 (iQ (wA a t p (a.length-1) (a.length-1)))),(6,.cells 39 au)]⟩) (af [.o 8 (aq ((a.length:Int)-2) ((a.length:Int)-2-((0:Nat):Int)) aP),.b 7 (.jl rfl:Bx.le (.cells 39 (iQ (a.getD (a.length-1) ix))) (.cells 39 (iQ (wA a t p (a.length-1) 0))))])]<|rR (iz (nA a t p)) (.jl rfl:E.le (iz (wA a t p (a.length-1) (a.length-1))) (iz (nA a t p)))) 
def afA(x:Iv):ik 214 [iz x] (bP x.all):=
 ak call214 func214 (.nil) 
def CK(b:List Iv):E:=if rC b then .iE [.v (.slice none 0 0),iP 11]else .iE [iq b,iP 0]
def UT(b:List Iv)(hl:b.length<=1000):ik 150 [iq b] (CK b):=
 ak call150 func150 (ae [.c (NF true _ _ 214 [] (λi=>(b.getD i ix).all) (λi _=>afA _) aC:ik 53 [iq b,.fn 214 []] _)]<|.w (rC b=true)
  (λk1=>ae [tB 5 k1]<|rQ (.iE [.v (.slice none 0 0),iP 11]) (CK b) (by unfold CK;rw[show rC b=true from k1];rfl))
  (λk1=>ae [tB 5 (bk k1)]<|rQ (.iE [iq b,iP 0]) (CK b) (by unfold CK;rw[show rC b=false from bk k1];rfl))) 
def WJ(s:jH)(y:List Iv)(t:Iv)(k p:Nat)(h:lM s)(hy:jT s.iZ y)(ht:t.iy)(nT:1<=k)(hk:k<=15)(iB:8<=p)(iw:p<=512):ik 148 [jD s,iq y,iz t,iP k,iP p] (.iE [iq (mI s y t k p),iP 0]):=by
 have e0:=sB s y p (k+1);have s1:=h.s1;have s4:=h.s4;have ly:=hy.len;have v2:=J2 ht (k+1) (aC:1<=p) (aC:p<=4096);exact ak call148 func148 (ae [iL ((k:Int)+1) aC,.c (Lx s y (k+1) p h aD iB iw aC),ai 28 ((0:Int) != 0) aE,iL ((k:Int)+1) aC,ag [iz t,iP ((k+1:Nat):Int),iP p] (Fe _ _ _ aD aC aC aC),.y 15 15 true 39 7 (jc ((List.range 0).map (λi=>iV (((jf s y p (k+1)).getD i []).getD (k+1) ix) (lk t (k+1) p) p))),.s (Sp.kE (WI s y t k p) 0 ((jf s y p (k+1)).length) aC (λi hi rF=>by
    have hs:=zU h hy iB iw (k+1) aC i aC;have sy:=hs.len;have v1:=hs.ok (k+1);have v2:=J2 ht (k+1) (aC:1<=p) (aC:p<=4096);have sx:=qj (iV (((jf s y p (k+1)).getD i []).getD (k+1) ix) (lk t (k+1) p) p);exact jh (ae [tT 38 ((i:Int)<((jf s y p (k+1)).length:Int)) aC,iX (i:Int) ((jf s y p (k+1)).length) aC,iL ((k:Int)+1) aC,
     iX ((k+1:Nat):Int) (((jf s y p (k+1)).getD i []).length) aC,.c (uA (((jf s y p (k+1)).getD i []).getD (k+1) ix) (lk t (k+1) p) p aD aD aC aC),.o 50 (.e (lJ _):aj (.sl true 1 7 λi_ j_=>(iQ (iV (((jf s y p (k+1)).getD i []).getD (k+1) ix) (lk t (k+1) p) p)).getD (i_*7+j_) (.v (.bool false))) (iq [iV (((jf s y p (k+1)).getD i []).getD (k+1) ix) (lk t (k+1) p) p])),.a (aC:(i+[iV (((jf s y p (k+1)).getD i []).getD (k+1) ix) (lk t (k+1) p) p].length)*88<=140737488355328),iL ((i:Int)+1) aC]<|.e (af [.b 15 (CI rfl rfl rfl:Bx.le (.row true 39 (i+[iV (((jf s y p (k+1)).getD i []).getD (k+1) ix) (lk t (k+1) p) p].length) 7 (λi_ j_=>if i_<i then(jc ((List.range i).map (λi=>iV (((jf s y p (k+1)).getD i []).getD (k+1) ix) (lk t (k+1) p) p))) i_ j_ else(E.kT (iq [iV (((jf s y p (k+1)).getD i []).getD (k+1) ix) (lk t (k+1) p) p])) (i_-i) j_)) (.row true 39 (i+1) 7 (jc ((List.range (i+1)).map (λi=>iV (((jf s y p (k+1)).getD i []).getD (k+1) ix) (lk t (k+1) p) p)))))])) aF)
  (λhi=>by
    exact jh (ae [tF 38 (((jf s y p (k+1)).length:Int)<((jf s y p (k+1)).length:Int)) aC,.z 15]<|.e (af [.o 15 (.e (CH aH):aj (.sl true ((jf s y p (k+1)).length) 7 (jc ((List.range ((jf s y p (k+1)).length)).map (λi=>iV (((jf s y p (k+1)).getD i []).getD (k+1) ix) (lk t (k+1) p) p)))) (iq ((List.range ((jf s y p (k+1)).length)).map (λi=>iV (((jf s y p (k+1)).getD i []).getD (k+1) ix) (lk t (k+1) p) p))))])) aF) aI:kD 7 f148 (WI s y t k p 0) (.exit 0) ⟨54,true,[(15,.e (iq ((List.range ((jf s y p (k+1)).length)).map (λi=>iV (((jf s y p (k+1)).getD i []).getD (k+1) ix) (lk t (k+1) p) p))))],[]⟩) .nil]<|rQ (.iE [iq ((List.range ((jf s y p (k+1)).length)).map (λi=>iV (((jf s y p (k+1)).getD i []).getD (k+1) ix) (lk t (k+1) p) p)),iP 0]) (.iE [iq (mI s y t k p),iP 0]) (by unfold mI kQ;rw[e0])) 
def afz{b:List Iv}(h:rC b=true)(hl:b.length<=1000):ik 150 [iq b] (.iE [.v (.slice none 0 0),iP 11]):=by
 have:=UT b hl;unfold CK at this;rwa[h]at this
def afy{b:List Iv}(h:rC b=false)(hl:b.length<=1000):ik 150 [iq b] (.iE [iq b,iP 0]):=by
 have:=UT b hl;unfold CK at this;rwa[h]at this
def Ka(s:jH)(y:List Iv)(t:Iv)(k p:Nat):(mI s y t k p).length=y.length:=wi _ _
def OZ{s:jH}{y:List Iv}{t:Iv}{k p:Nat}(iB:8<=p)(iw:p<=512){i:Nat}(hi:i<y.length):((mI s y t k p).getD i ix).iy:=by
 unfold mI;rw[yb hi];exact oV _ _ aC aC 
def LS{a:List Iv}{t:Iv}{p:Nat}(hp:1<=p)(iw:p<=4096)(va:mZ a):(nA a t p).iy:=TA hp iw va _
def B3(s:jH)(x y:List Iv)(t:Iv)(k p:Nat)(h:lM s)(hx:jT s.iZ x)(hy:jT s.iZ y)(ht:t.iy)(ta:t.all=false)(t0:0<=t.lo.jG)(nT:1<=k)(hk:k<=15)(iB:8<=p)(iw:p<=512)(Mp:rC (k0 s x y t k p)=false):ik 64 [jD s,iq x,iq y,iz t,iP k,iP p] (.iE [iq (k0 s x y t k p),iP 0]):=by
 have e0:=sB s x p k;have Nb:=Ka s y t k p;have s1:=h.s1;have s4:=h.s4;have lx:=hx.len;have ly:=hy.len;have eA:((List.range (jf s x p k).length).map (λi=>jO (nA ((jf s x p k).getD i []) t p) ((mI s y t k p).getD i ix) p))=k0 s x y t k p:=by unfold k0 kQ;rw[e0]
 have FN:=Mp;rw[<-eA]at FN ⊢;exact ak call64 func64 (af [.o 23 (.e (CS _ _):aj (.sl true 2 1 λi_ j_=>[iq x,iq y].getD (i_*1+j_) (.v (.bool false))) (lv [x,y])),.c (Lf s x h aD y aD),ag [iP p] (OE _ aC aC),ag [iP k] (Ox _ aC aC),.c (Yn t ht ta t0),.c (Lx s x k p h aD iB iw aC),ai 49 ((0:Int) != 0) aE,.c (WJ s y t k p h hy ht nT hk iB iw),ai 61 ((0:Int) != 0) aE,.y 17 17 true 39 7 (jc ((List.range 0).map (λi=>jO (nA ((jf s x p k).getD i []) t p) ((mI s y t k p).getD i ix) p))),.s (Sp.kE (Qs s x y t k p) 0 ((jf s x p k).length) aC (λi hi rF=>by
    have hs:=zU h hx iB iw k aC i aC;have sy:=hs.len;have Nb:=Ka s y t k p;have v1:=LS (t:=t) (aC:1<=p) (aC:p<=4096) hs.ok;have v2:=OZ (s:=s) (t:=t) (k:=k) iB iw (y:=y) (i:=i) aC;have sx:=qj (jO (nA ((jf s x p k).getD i []) t p) ((mI s y t k p).getD i ix) p);exact jh (ae [tT 66 ((i:Int)<((jf s x p k).length:Int)) aC,iX (i:Int) ((jf s x p k).length) aC,.c (Xm ((jf s x p k).getD i []) t (k+1) p aC aC hs ht iB iw),
     iX (i:Int) ((mI s y t k p).length) aC,.c (wG (nA ((jf s x p k).getD i []) t p) ((mI s y t k p).getD i ix) p aD aD aC aC),.o 82 (.e (lJ _):aj (.sl true 1 7 λi_ j_=>(iQ (jO (nA ((jf s x p k).getD i []) t p) ((mI s y t k p).getD i ix) p)).getD (i_*7+j_) (.v (.bool false))) (iq [jO (nA ((jf s x p k).getD i []) t p) ((mI s y t k p).getD i ix) p])),.a (aC:(i+[jO (nA ((jf s x p k).getD i []) t p) ((mI s y t k p).getD i ix) p].length)*88<=140737488355328),iL ((i:Int)+1) aC]<|.e (af [.b 17 (CI rfl rfl rfl:Bx.le (.row true 39 (i+[jO (nA ((jf s x p k).getD i []) t p) ((mI s y t k p).getD i ix) p].length) 7 (λi_ j_=>if i_<i then(jc ((List.range i).map (λi=>jO (nA ((jf s x p k).getD i []) t p) ((mI s y t k p).getD i ix) p))) i_ j_ else(E.kT (iq [jO (nA ((jf s x p k).getD i []) t p) ((mI s y t k p).getD i ix) p])) (i_-i) j_)) (.row true 39 (i+1) 7 (jc ((List.range (i+1)).map (λi=>jO (nA ((jf s x p k).getD i []) t p) ((mI s y t k p).getD i ix) p)))))])) aF)
  (λhi=>by
    exact jh (ae [tF 66 (((jf s x p k).length:Int)<((jf s x p k).length:Int)) aC,.z 17]<|.e (af [.o 17 (.e (CH aH):aj (.sl true ((jf s x p k).length) 7 (jc ((List.range ((jf s x p k).length)).map (λi=>jO (nA ((jf s x p k).getD i []) t p) ((mI s y t k p).getD i ix) p)))) (iq ((List.range ((jf s x p k).length)).map (λi=>jO (nA ((jf s x p k).getD i []) t p) ((mI s y t k p).getD i ix) p))))])) aF) aI:kD 13 Tryz.f64 (Qs s x y t k p 0) (.exit 1) ⟨89,true,[(17,.e (iq ((List.range ((jf s x p k).length)).map (λi=>jO (nA ((jf s x p k).getD i []) t p) ((mI s y t k p).getD i ix) p))))],[]⟩) .nil,ag [iq ((List.range ((jf s x p k).length)).map (λi=>jO (nA ((jf s x p k).getD i []) t p) ((mI s y t k p).getD i ix) p))] (afy FN aN)]) 
def Qv(s:jH)(x y:List Iv)(t:Iv)(k p:Nat)(h:lM s)(hx:jT s.iZ x)(hy:jT s.iZ y)(ht:t.iy)(ta:t.all=false)(t0:0<=t.lo.jG)(nT:1<=k)(hk:k<=15)(iB:8<=p)(iw:p<=512)(Mp:rC (k0 s x y t k p)=true):ik 64 [jD s,iq x,iq y,iz t,iP k,iP p] (.iE [.v (.slice none 0 0),iP 11]):=by
 have e0:=sB s x p k;have Nb:=Ka s y t k p;have s1:=h.s1;have s4:=h.s4;have lx:=hx.len;have ly:=hy.len;have eA:((List.range (jf s x p k).length).map (λi=>jO (nA ((jf s x p k).getD i []) t p) ((mI s y t k p).getD i ix) p))=k0 s x y t k p:=by unfold k0 kQ;rw[e0]
 have FN:=Mp;rw[<-eA]at FN;exact ak call64 func64 (af [.o 23 (.e (CS _ _):aj (.sl true 2 1 λi_ j_=>[iq x,iq y].getD (i_*1+j_) (.v (.bool false))) (lv [x,y])),.c (Lf s x h aD y aD),ag [iP p] (OE _ aC aC),ag [iP k] (Ox _ aC aC),.c (Yn t ht ta t0),.c (Lx s x k p h aD iB iw aC),ai 49 ((0:Int) != 0) aE,.c (WJ s y t k p h hy ht nT hk iB iw),ai 61 ((0:Int) != 0) aE,.y 17 17 true 39 7 (jc ((List.range 0).map (λi=>jO (nA ((jf s x p k).getD i []) t p) ((mI s y t k p).getD i ix) p))),.s (Sp.kE (Qt s x y t k p) 0 ((jf s x p k).length) aC (λi hi rF=>by
    have hs:=zU h hx iB iw k aC i aC;have sy:=hs.len;have Nb:=Ka s y t k p;have v1:=LS (t:=t) (aC:1<=p) (aC:p<=4096) hs.ok;have v2:=OZ (s:=s) (t:=t) (k:=k) iB iw (y:=y) (i:=i) aC;have sx:=qj (jO (nA ((jf s x p k).getD i []) t p) ((mI s y t k p).getD i ix) p);exact jh (ae [tT 66 ((i:Int)<((jf s x p k).length:Int)) aC,iX (i:Int) ((jf s x p k).length) aC,.c (Xm ((jf s x p k).getD i []) t (k+1) p aC aC hs ht iB iw),
     iX (i:Int) ((mI s y t k p).length) aC,.c (wG (nA ((jf s x p k).getD i []) t p) ((mI s y t k p).getD i ix) p aD aD aC aC),.o 82 (.e (lJ _):aj (.sl true 1 7 λi_ j_=>(iQ (jO (nA ((jf s x p k).getD i []) t p) ((mI s y t k p).getD i ix) p)).getD (i_*7+j_) (.v (.bool false))) (iq [jO (nA ((jf s x p k).getD i []) t p) ((mI s y t k p).getD i ix) p])),.a (aC:(i+[jO (nA ((jf s x p k).getD i []) t p) ((mI s y t k p).getD i ix) p].length)*88<=140737488355328),iL ((i:Int)+1) aC]<|.e (af [.b 17 (CI rfl rfl rfl:Bx.le (.row true 39 (i+[jO (nA ((jf s x p k).getD i []) t p) ((mI s y t k p).getD i ix) p].length) 7 (λi_ j_=>if i_<i then(jc ((List.range i).map (λi=>jO (nA ((jf s x p k).getD i []) t p) ((mI s y t k p).getD i ix) p))) i_ j_ else(E.kT (iq [jO (nA ((jf s x p k).getD i []) t p) ((mI s y t k p).getD i ix) p])) (i_-i) j_)) (.row true 39 (i+1) 7 (jc ((List.range (i+1)).map (λi=>jO (nA ((jf s x p k).getD i []) t p) ((mI s y t k p).getD i ix) p)))))])) aF)
  (λhi=>by
    exact jh (ae [tF 66 (((jf s x p k).length:Int)<((jf s x p k).length:Int)) aC,.z 17]<|.e (af [.o 17 (.e (CH aH):aj (.sl true ((jf s x p k).length) 7 (jc ((List.range ((jf s x p k).length)).map (λi=>jO (nA ((jf s x p k).getD i []) t p) ((mI s y t k p).getD i ix) p)))) (iq ((List.range ((jf s x p k).length)).map (λi=>jO (nA ((jf s x p k).getD i []) t p) ((mI s y t k p).getD i ix) p))))])) aF) aI:kD 13 Tryz.f64 (Qt s x y t k p 0) (.exit 1) ⟨89,true,[(17,.e (iq ((List.range ((jf s x p k).length)).map (λi=>jO (nA ((jf s x p k).getD i []) t p) ((mI s y t k p).getD i ix) p))))],[]⟩) .nil,ag [iq ((List.range ((jf s x p k).length)).map (λi=>jO (nA ((jf s x p k).getD i []) t p) ((mI s y t k p).getD i ix) p))] (afz FN aN)]) 
def Qu(s:jH)(x y:List Iv)(t:Iv)(k p:Nat):(k0 s x y t k p).length=x.length:=wi _ _
def aee{b:List Iv}(h:rC b=false){i:Nat}(hi:i<b.length):(b.getD i ix).all=false:=by
 have:=df.1 h i (cC.2 hi);simpa using this
def y7{s:jH}{x y:List Iv}{t:Iv}{k p:Nat}(h:lM s)(hx:jT s.iZ x)(hy:jT s.iZ y)(hk:k<=15)(iB:8<=p)(iw:p<=512)(hn:rC (k0 s x y t k p)=false):jT s.iZ (k0 s x y t k p):=by
 refine⟨by rw[Qu,hx.len],λi hi=>⟨?_,aee hn hi⟩⟩;rw[Qu]at hi;have hs:=zU h hx iB iw k aC i (by rw[sB];exact hi);unfold k0;rw[yb hi];exact qk (LS aC aC hs.ok) (OZ iB iw (by rw[hy.len,<-hx.len];exact hi)) aC aC 
def qV{d:Dy}(hd:d.iy):(jF d).iy:=.inr ⟨rfl,hd,hd,by show jE d d<=0;rw[pA];exact cR⟩
def V9{a b c d e f:Int}(ha:kB .i64 a)(hb:kB .i64 b)(hc:kB .i64 c)(hd:kB .i64 d)(he:kB .i64 e)(hf:kB .i64 f):
 prog.keyLits 10 107 [.int .i64 a,.int .i64 b,.int .i64 c,.int .i64 d,.int .i64 e,.int .i64 f]=some [.int .i64 a,.int .i64 b,.int .i64 c,.int .i64 d,.int .i64 e,.int .i64 f]:=by
 have c1:prog.cellsOf 107=6:= aF ;have c2:prog.cellsOf 3=1:= aF ;have c3:prog.cellsOf 93=2:= aF ;have r:prog.keyLits 9 93 [.int .i64 e,.int .i64 f]=some [.int .i64 e,.int .i64 f]:=by
  unfold Program.keyLits;rw[underlying93];simp[c3,c2,fQ,Bm he,Bm hf]
 unfold Program.keyLits;rw[underlying107];simp[c1,c2,c3,fQ,Bm ha,Bm hb,Bm hc,Bm hd,r]
def Er{a b c d e f a' b' c' d' e' f':Int}(ha:kB .i64 a)(hb:kB .i64 b)(hc:kB .i64 c)(hd:kB .i64 d)(he:kB .i64 e)(hf:kB .i64 f)
 (A6:kB .i64 a') (nR:kB .i64 b') (Cj:kB .i64 c') (Ck:kB .i64 d') (he':kB .i64 e') (hf':kB .i64 f'):
 nY prog .eql 107 (.agg [iP a,iP b,iP c,iP d,iP e,iP f]) (.agg [iP a',iP b',iP c',iP d',iP e',iP f']) (.bool (decide (a=a'/\b=b'/\c=c'/\d=d'/\e=e'/\f=f'))):=
 ag7 (V9 ha hb hc hd he hf) (V9 A6 nR Cj Ck he' hf') aF aF rfl
def kJ:kB .i64 0:=by unfold kB;decide
def aeU:(prog.info? 26).map (λi=>(i.zero,i.size,i.bytes))=some (some (.slice none 0 0),1,24):= aF 
def Y0(n:Nat):∀ u,u ∈ Builtin.zeroCells (Value.cells (.slice none 0 0)) n->qh u=false:=by
 intro u hu;simp only[Builtin.zeroCells,gF,gG]at hu;obtain⟨q,hq,rfl⟩:=hu;have hc:Value.cells (.slice none 0 0) = #[.slice none 0 0]:=rfl;rw[hc]at hq ⊢;have hs:(#[Value.slice none 0 0]:Array Value).size=1:=rfl;rw[hs,dX];rfl
set_option maxRecDepth 100000 in
def adZ(n:Nat)(hn:n<=1000000):uR prog Tb 129 [.v (.slice none 0 0),iP (n:Int)] true 26 0 1 (λ_ _=>.any):=by
 refine⟨call129,λw B vs hK hB hr=>?_⟩;obtain⟨v1,vs,rfl,h1,hr⟩:=hr.nE;obtain⟨v2,vs,rfl,h2,hr⟩:=hr.nE;obtain rfl:=hr.r6;obtain rfl:=iO.kG h1;obtain rfl:=iO.kG h2;show Calls _ _ #[.slice none 0 0,.int .i64 (n:Int)] w _;clear h1 h2 hr hB hK;by_cases h0:n=0
 .subst h0;go_enter func129,ntmps129;go_wp2;go_ret;exact⟨_,rfl,Below.refl _ _,λ_ _=>undef,.inl ⟨rfl,rfl⟩,λx hx=>by simp[Value.ownBlock]at hx,λi j hi=>absurd hi (bF _)⟩
 .obtain ⟨i,hi,hz,h1,h2⟩:=info_parts aeU;have hw:IntKind.i64.wrap ((n:Int)-0)=n:=i64_in _ aC aC;have Nl:IntKind.i64.wrap (n:Int)=n:=i64_in _ aC aC;have e2:decide ((n:Int)<0)=false:=bB aC;have e3:decide ((0:Int)<n)=true:=bA aC;have DS:n<=grownCap w n 0 26:=grownCap_ge w n 0 _;go_enter func129,ntmps129;go_wp2_with (at_builtin;go_must (refine alQ aG _ _ _ _ aG _ i _ underlying72 underlying3 hi hz aC n aC aC (by rw[h2];omega) aG aG ?_))
  go_ret;have yB:(Value.cells (.slice none 0 0)).size=1:=rfl;refine⟨_,rfl,Zs w _,λ_ _=>undef,.inr ⟨w.heap.size,grownCap w n 0 26,_,rfl,heap_alloc_new w _,cz _,grownCap_le_maxLen w n 0 _ (by unfold maxLen;omega),?_,λi j hi=>absurd hi (bF _),λ_ u hu=>?_⟩,λx hx=>?_,λi j hi=>absurd hi (bF _)⟩
  .simp only[amY,size_zeroCells,yB,<-cj];congr 1;omega
  .rcases fM.1 hu with hu|hu
   .exact Y0 _ u hu
   .exact Y0 _ u hu
  .simp [Value.ownBlock]at hx;subst hx;exact⟨bD _,Zt w _⟩
end Go.Proofs.YtgdahmmlddfimaaGreatDoor
namespace Go.Proofs.YtgdahmmlddfimaaGreatDoor.Fp
end Go.Proofs.YtgdahmmlddfimaaGreatDoor.Fp
namespace Go.Proofs.YtgdahmmlddfimaaGreatDoor
open Go.RowKit Fp Pu
def aaD(x:RI)(g:x.jB):ik 181 [xJ x] (bP (!qs x)):=
 ak call181 func181 (.w (x.all=true)
  (λk1=>ae [tB 4 k1]<|rQ (bP true) (bP (!qs x)) (kz (by unfold qs;simp_all)))
  (λk1=>ae [tB 4 (bk k1),ag [xJ x] (afh _ g)]<|rQ (bP (!(Af x))) (bP (!qs x)) (kz (by unfold qs;simp_all)))) 
noncomputable def uW(b:List RI):Bool:=decide (1<=b.length/\b.length<=8)&&(List.range b.length).all λi=>qs (b.getD i lg)
def QU(b:List RI)(gb:∀ i,(b.getD i lg).jB)(zo:b.length<=1000):ik 106 [jd b] (bP (uW b)):=
 ak call106 func106 (.w (1<=(b.length:Int))
  (λk1=>ae [tB 5 (bA k1)]<|.w ((b.length:Int)<=8)
   (λk2=>ae [tB 9 (bA k2),.c (We 181 b (λi=>aaD _ (gb i)) zo:ik 53 [jd b,.fn 181 []] _)]<|rQ (bP (!(!((List.range b.length).all λi=>qs (b.getD i lg))))) (bP (uW b)) (kz a7))
   (λk2=>ae [tB 9 (bB k2)]<|rQ (bP false) (bP (uW b)) (kz a7)))
  (λk1=>ae [tB 5 (bB k1)]<|rQ (bP false) (bP (uW b)) (kz a7))) 
def AV(x:RI):Bool:=decide (20<x.lo.L.length)||decide (20<x.hi.L.length)
def nP(l:List RI):Bool:=decide (10<l.length)||(List.range l.length).any λi=>AV (l.getD i lg)
def o9(d:RD):Bool:=decide (20<d.L.length)
def Pf(x:Iv)(hx:x.iy):ik 69 [iz x,iz x] (bP true):=by
 obtain⟨w1,w2⟩:=hx.kr;exact ak call69 func69 (af [ah 9 (x.all==x.all) aH,.c (WC _ _ true ⟨λ_=>rfl,λ_=>rfl⟩ (by have:=w1.im;omega) (by have:=w1.im;omega):ik 34 [iA x.lo,iA x.lo] _),.c (WC _ _ true ⟨λ_=>rfl,λ_=>rfl⟩ (by have:=w2.im;omega) (by have:=w2.im;omega):ik 34 [iA x.hi,iA x.hi] _)]) 
noncomputable def nL(s:jH)(t:j8)(x:List Iv)(p:Nat):Iv:=(xZ t (x++s.params) p).getD 0 ix
noncomputable def nG(s:jH)(t:j8)(x:List Iv)(p:Nat):List (List Iv):=qC t (oR s (jf s x p 1) 1) 1 p
noncomputable def yI(s:jH)(t:j8)(x:List Iv)(p:Nat):List Iv:=kQ (λi=>((nG s t x p).getD i []).getD 1 ix) (nG s t x p).length
noncomputable def iW(s:jH)(t:j8)(x:List Iv)(p:Nat):Iv:=(yI s t x p).getD 0 ix
structure np(s:jH)(t:j8):Prop where
 tape:uT t
 iC:t.iC=s.tape.iC
 one:t.iF.length=1
def rk(dir:Int):Int:=if dir=2 then -1 else 1
def vH(dir a b c d:Int):Int:=if a≠0\/d = -(rk dir)then 1 else if d=rk dir/\b = -(rk dir)/\c=rk dir then 3 else 2
noncomputable def Yl(t:j8)(xs:List Iv)(p:Nat)(i:Nat):PS:=⟨52,true,[(8,.own 8),(39,.e (iP i)),(38,.e (iP t.iF.length)),(37,.e (mG t.iF)),(7,.e (iq (jR t.il xs p t.il.length)))],[(8,.row true 39 i 7 (jc ((List.range i).map (λj_=>(jR t.il xs p t.il.length).getD (t.iF.getD j_ 0) ix))))]⟩
def UD(s:jH)(M:List (List Iv))(k:Nat)(x:Nat):PS:=⟨43,true,[(7,.own 7),(14,.e (iP x)),(13,.e (iP M.length)),(12,.e (lv M)),(3,.box 3 0),(2,.e (iP k))],[(7,.row true 26 (((M.take x).map λc=>c.take (k+1)).length) 1 (lj ((M.take x).map λc=>c.take (k+1)))),(3,.cells 28 [iP s.tape.iC,mH s.tape.il,mG s.tape.iF,iP s.iZ,iq s.params])]⟩
def UE(s:jH)(M:List (List Iv))(k:Nat)(x:Nat):PS:=⟨43,true,[(31,.e (iP x)),(30,.e (iP s.params.length)),(29,.e (iq s.params)),(7,.own 7),(2,.e (iP k))],[(7,.row true 26 (((M.map λc=>c.take (k+1))++(s.params.take x).map λa=>lN a k).length) 1 (lj ((M.map λc=>c.take (k+1))++(s.params.take x).map λa=>lN a k)))]⟩
noncomputable def U1(s:jH)(t:j8)(x:List Iv)(p:Nat)(i:Nat):PS:=⟨40,true,[(12,.own 12),(28,.e (iP i)),(27,.e (iP ((nG s t x p).length:Int))),(26,.e (lv (nG s t x p)))],[(12,.row true 39 i 7 (jc ((List.range i).map (λi=>((nG s t x p).getD i []).getD 1 ix))))]⟩
def zj(x:Iv)(d:Dy):Bool:=decide (jE x.lo d<=0)&&decide (jE d x.hi<=0)
def kK(x : Iv)(p : Nat) : Dy:=
  if jP (iG x.lo x.hi) p false=0 then
    (if uk (canon (iM (iG x.lo x.hi) p false).neg (iM (iG x.lo x.hi) p false).m ((iM (iG x.lo x.hi) p false).e + -1))=0/\zj x (r8 (canon (iM (iG x.lo x.hi) p false).neg (iM (iG x.lo x.hi) p false).m ((iM (iG x.lo x.hi) p false).e + -1)))=true
     then r8 (canon (iM (iG x.lo x.hi) p false).neg (iM (iG x.lo x.hi) p false).m ((iM (iG x.lo x.hi) p false).e + -1))else x.lo)
  else x.lo
noncomputable def mR(s:jH)(t:j8)(x y z:List Iv)(dir:Int)(p:Nat):Int:=vH dir (lZ (nL s t y p)) (lZ (nL s t x p)) (lZ (nL s t z p)) (lZ (iW s t y p))
def ajJ(dir:Int):rk dir=1\/rk dir = -1:=by
 unfold rk;split
 .exact .inr rfl
 .exact .inl rfl
noncomputable def nj(s:jH)(t:j8)(x y:List Iv)(l:Iv)(p:Nat)(o:Iv):Iv:=rm (jF (kK o p)) (jz (nL s t (k0 s x y (jF (kK o p)) 8 p) p) l p) p
noncomputable def tE(s:jH)(t:j8)(x y:List Iv)(l:Iv)(p:Nat)(o:Iv):Bool:=rC (k0 s x y (jF (kK o p)) 8 p)||(nj s t x y l p o).all
noncomputable def jt(s:jH)(t:j8)(x y:List Iv)(l:Iv)(p:Nat)(o:Iv):Nat->Iv
 | 0=>o
 |n+1=>mK (jt s t x y l p o n) (nj s t x y l p (jt s t x y l p o n))
def wN(s:jH)(t:j8)(x y:List Iv)(l:Iv)(p:Nat)(o:Iv)(n:Nat):Prop:=tE s t x y l p (jt s t x y l p o n)=false/\sD (jt s t x y l p o n) (nj s t x y l p (jt s t x y l p o n))=true
noncomputable def wS(s:jH)(t:j8)(x y:List Iv)(l:Iv)(p:Nat):Nat->Iv->Option Iv
 | 0,o=>some o
 |n+1,o=>if tE s t x y l p o=true then some o else if sD o (nj s t x y l p o)=true then wS s t x y l p n (mK o (nj s t x y l p o))else none
structure tC(o:Iv):Prop where
 val:o.iy
 all:o.all=false
 lo:0<=o.lo.jG
def rS:Option Iv->E
 |some o=>.iE [iz o,bP true]
 |none=>.iE [iz lV,bP false]
noncomputable def YQ(s:jH)(t:j8)(x:List Iv)(a b:Dy)(y z:List Iv)(p:Nat)(N:Nat)(n:Nat):PS:=⟨84,true,[(42,.e (iP n)),(15,.box 15 0),(14,.box 14 0),(10,.box 10 0),(8,.box 8 0),(6,.box 6 0),(5,.box 5 0),(2,.e (iq x)),(4,.e (iP p))],[(15,.cells 39 (iQ (iW s t y p))),(14,.cells 39 (iQ (jt s t x y (iW s t y p) p (⟨iS,iM (iG b (iK a)) p true,false⟩:Iv) n))),(10,.cells 39 au),(8,.cells 33 (iR a++iR b++[iq y,iq z])),(6,.cells 25 [iP t.iC,mH t.il,mG t.iF]),(5,.cells 28 [iP s.tape.iC,mH s.tape.il,mG s.tape.iF,iP s.iZ,iq s.params])]⟩
noncomputable def YR(s:jH)(t:j8)(x:List Iv)(a b:Dy)(y z:List Iv)(p:Nat)(N:Nat)(n:Nat):PS:=⟨84,true,[(42,.e (iP n)),(15,.box 15 0),(14,.box 14 0),(10,.box 10 0),(8,.box 8 0),(6,.box 6 0),(5,.box 5 0),(2,.e (iq x)),(4,.e (iP p))],[(15,.cells 39 (iQ (iW s t y p))),(14,.cells 39 (iQ (jt s t x y (iW s t y p) p (⟨iS,iM (iG b (iK a)) p true,false⟩:Iv) n))),(10,.cells 39 au),(8,.cells 33 (iR a++iR b++[iq y,iq z])),(6,.cells 25 [iP t.iC,mH t.il,mG t.iF]),(5,.cells 28 [iP s.tape.iC,mH s.tape.il,mG s.tape.iF,iP s.iZ,iq s.params])]⟩
noncomputable def YS(s:jH)(t:j8)(x:List Iv)(a b:Dy)(y z:List Iv)(p:Nat)(N:Nat)(n:Nat):PS:=⟨84,true,[(42,.e (iP n)),(15,.box 15 0),(14,.box 14 0),(10,.box 10 0),(8,.box 8 0),(6,.box 6 0),(5,.box 5 0),(2,.e (iq x)),(4,.e (iP p))],[(15,.cells 39 (iQ (iW s t y p))),(14,.cells 39 (iQ (jt s t x y (iW s t y p) p (⟨iS,iM (iG b (iK a)) p true,false⟩:Iv) n))),(10,.cells 39 au),(8,.cells 33 (iR a++iR b++[iq y,iq z])),(6,.cells 25 [iP t.iC,mH t.il,mG t.iF]),(5,.cells 28 [iP s.tape.iC,mH s.tape.il,mG s.tape.iF,iP s.iZ,iq s.params])]⟩
noncomputable def YT(s:jH)(t:j8)(x:List Iv)(a b:Dy)(y z:List Iv)(p:Nat)(n:Nat):PS:=⟨84,true,[(42,.e (iP n)),(15,.box 15 0),(14,.box 14 0),(10,.box 10 0),(8,.box 8 0),(6,.box 6 0),(5,.box 5 0),(2,.e (iq x)),(4,.e (iP p))],[(15,.cells 39 (iQ (iW s t y p))),(14,.cells 39 (iQ (jt s t x y (iW s t y p) p (⟨iS,iM (iG b (iK a)) p true,false⟩:Iv) n))),(10,.cells 39 au),(8,.cells 33 (iR a++iR b++[iq y,iq z])),(6,.cells 25 [iP t.iC,mH t.il,mG t.iF]),(5,.cells 28 [iP s.tape.iC,mH s.tape.il,mG s.tape.iF,iP s.iZ,iq s.params])]⟩
def akJ(t:j8)(xs:List Iv)(p:Nat)(h:uT t)(h1:1<=xs.length)(hx:xs.length=t.iC)(hv:mZ xs)(iB:8<=p)(iw:p<=512):ik 202 [jJ t,iq xs,iP p] (iq (xZ t xs p)):=by
 have h8:=h.iC;have D5:=h.il;have TB:=h.iF;have F1:=Hr t.il xs p t.il.length;exact ak call202 func202 (ae [.c (akD t xs p h h1 hx hv aC aC),iL ((t.iC:Int)+t.il.length) aC,tF 23 (((jR t.il xs p t.il.length).length:Int)<((t.iC+t.il.length:Nat):Int)) aC,ai 29 ((xs.length:Int) != (t.iC:Int)) (yK hx),.c (BS t aD),.y 8 8 true 39 7 (jc ((List.range 0).map (λj_=>(jR t.il xs p t.il.length).getD (t.iF.getD j_ 0) ix))),.s (Sp.kE (Yl t xs p) 0 t.iF.length aC (λi hi rF=>by
    have hot:=h.out i aC;have F1:=Hr t.il xs p t.il.length;have sx:=qj ((jR t.il xs p t.il.length).getD (t.iF.getD i 0) ix);exact jh (ae [tT 40 ((i:Int)<t.iF.length) aC,iX (i:Int) (t.iF.length) aC,iX (t.iF.getD i 0:Int) ((jR t.il xs p t.il.length).length) aC,.o 48 (.e (lJ _):aj (.sl true 1 7 λi_ j_=>(iQ ((jR t.il xs p t.il.length).getD (t.iF.getD i 0) ix)).getD (i_*7+j_) (.v (.bool false))) (iq [(jR t.il xs p t.il.length).getD (t.iF.getD i 0) ix])),.a (aC:(i+[(jR t.il xs p t.il.length).getD (t.iF.getD i 0) ix].length)*88<=140737488355328),iL ((i:Int)+1) aC]<|.e (af [.b 8 (CI rfl rfl rfl:Bx.le (.row true 39 (i+[(jR t.il xs p t.il.length).getD (t.iF.getD i 0) ix].length) 7 (λi_ j_=>if i_<i then(jc ((List.range i).map (λj_=>(jR t.il xs p t.il.length).getD (t.iF.getD j_ 0) ix))) i_ j_ else(E.kT (iq [(jR t.il xs p t.il.length).getD (t.iF.getD i 0) ix])) (i_-i) j_)) (.row true 39 (i+1) 7 (jc ((List.range (i+1)).map (λj_=>(jR t.il xs p t.il.length).getD (t.iF.getD j_ 0) ix)))))])) aF)
  (λhi=>by
    exact jh (ae [tF 40 ((t.iF.length:Int)<t.iF.length) aC,.z 8]<|.e (af [.o 8 (.e (CH aH):aj (.sl true t.iF.length 7 (jc ((List.range t.iF.length).map (λj_=>(jR t.il xs p t.il.length).getD (t.iF.getD j_ 0) ix)))) (iq ((List.range t.iF.length).map (λj_=>(jR t.il xs p t.il.length).getD (t.iF.getD j_ 0) ix))))])) aF) aI:kD 6 f202 (Yl t xs p 0) (.exit 0) ⟨52,true,[(8,.e (iq ((List.range t.iF.length).map (λj_=>(jR t.il xs p t.il.length).getD (t.iF.getD j_ 0) ix))))],[]⟩) .nil]<|rQ (iq ((List.range t.iF.length).map (λj_=>(jR t.il xs p t.il.length).getD (t.iF.getD j_ 0) ix))) (iq (xZ t xs p)) (by rw[Sf])) 
def afo(s:jH)(k:Nat)(M:List (List Iv))(h:lM s)(hn8:M.length<=8)(hk:k<=16)(hM:∀ i,i<M.length->k+1<=(M.getD i []).length)(Mq:∀ i,i<M.length->(M.getD i []).length<=17):ik 188 [jD s,lv M,iP k] (lv (oR s M k)):=by
 have p4:=h.p4;exact ak call188 func188 (ae [.y 7 7 true 26 1 (lj []),.s (Sp.kE (UD s M k) 0 M.length aC (λx hx nd=>by
    have M6:=hM x aC;have aeA:=Mq x aC;have hla:((M.take x).map λc=>c.take (k+1)).length<=8:=by rw[b6,cF];omega
    exact jh (ae [tT 15 ((x:Int)<M.length) aC,iX (x:Int) (M.length) aC,.bo,iL ((k:Int)+1) aC,.a (aC:0<=(((k+1:Nat):Int):Int)/\(((k+1:Nat):Int):Int)<=((M.getD x []).length:Int)),.bo,.a (aC:(0+(k+1))*88<=140737488355328),.o 24 (.e (Yj aC M6):aj (.sl true (0+(k+1)) 7 (λi_ j_=>if i_<0 then(λi_ j_=>([]:List E).getD (i_*7+j_) (.v (.bool false))) i_ j_ else(E.kT (.sl true (k+1) 7 (E.kT (iq (M.getD x []))))) (i_-0) j_)) (iq ((M.getD x []).take (k+1)))),.o 25 (.refl _:aj (.sl true 1 1 λi_ j_=>[iq ((M.getD x []).take (k+1))].getD (i_*1+j_) (.v (.bool false))) (.sl true 1 1 λi_ j_=>[iq ((M.getD x []).take (k+1))].getD (i_*1+j_) (.v (.bool false)))),.a (aC:(((M.take x).map λc=>c.take (k+1)).length+1)*24<=140737488355328),iL ((x:Int)+1) aC]<|.e (af [.b 7 (xC rfl rfl (λj hj=>by obtain rfl:j=0:= aC;rfl) (Gu _ M [] aC):Bx.le (.row true 26 (((M.take x).map λc=>c.take (k+1)).length+1) 1 (λi_ j_=>if i_<((M.take x).map λc=>c.take (k+1)).length then(lj ((M.take x).map λc=>c.take (k+1))) i_ j_ else(E.kT (.sl true 1 1 λi_ j_=>[iq ((M.getD x []).take (k+1))].getD (i_*1+j_) (.v (.bool false)))) (i_-((M.take x).map λc=>c.take (k+1)).length) j_)) (.row true 26 (((M.take (x+1)).map λc=>c.take (k+1)).length) 1 (lj ((M.take (x+1)).map λc=>c.take (k+1)))))])) aF)
  (λhx=>by
    exact jh (af [tF 15 ((M.length:Int)<M.length) aC]) aF) aI:kD 3 f188 (UD s M k 0) (.exit 0) ⟨43,true,[(7,.own 7),(3,.box 3 0),(2,.e (iP k))],[(7,.row true 26 (((M.take M.length).map λc=>c.take (k+1)).length) 1 (lj ((M.take M.length).map λc=>c.take (k+1)))),(3,.cells 28 [iP s.tape.iC,mH s.tape.il,mG s.tape.iF,iP s.iZ,iq s.params])]⟩) (af [.b 7 (NR aH rfl:Bx.le (.row true 26 0 1 (lj [])) (.row true 26 (((M.take 0).map λc=>c.take (k+1)).length) 1 (lj ((M.take 0).map λc=>c.take (k+1)))))]),.s (Sp.kE (UE s M k) 0 s.params.length aC (λx hx nd=>by
    have vp:=(h.params x aC).1;have hlb:((M.map λc=>c.take (k+1))++(s.params.take x).map λa=>lN a k).length<=16:=by rw[cg,b6,b6,cF];omega
    exact jh (ae [tT 32 ((x:Int)<s.params.length) aC,iX (x:Int) (s.params.length) aC,.c (Pk (s.params.getD x ix) aD k aC),.a (aC:(((M.map λc=>c.take (k+1))++(s.params.take x).map λa=>lN a k).length+1)*24<=140737488355328),iL ((x:Int)+1) aC]<|.e (af [.b 7 (xC rfl rfl (λj hj=>by obtain rfl:j=0:= aC;rfl) (by rw[Gu (λa=>lN a k) s.params ix aC,gY]):Bx.le (.row true 26 (((M.map λc=>c.take (k+1))++(s.params.take x).map λa=>lN a k).length+1) 1 (λi_ j_=>if i_<((M.map λc=>c.take (k+1))++(s.params.take x).map λa=>lN a k).length then(lj ((M.map λc=>c.take (k+1))++(s.params.take x).map λa=>lN a k)) i_ j_ else(E.kT (.sl true 1 1 λi_ j_=>[iq (lN (s.params.getD x ix) k)].getD (i_*1+j_) (.v (.bool false)))) (i_-((M.map λc=>c.take (k+1))++(s.params.take x).map λa=>lN a k).length) j_)) (.row true 26 (((M.map λc=>c.take (k+1))++(s.params.take (x+1)).map λa=>lN a k).length) 1 (lj ((M.map λc=>c.take (k+1))++(s.params.take (x+1)).map λa=>lN a k))))])) aF)
  (λhx=>by
    exact jh (ae [tF 32 ((s.params.length:Int)<s.params.length) aC,.z 7]<|.e (af [.o 7 (.e (NS rfl):aj (.sl true (((M.map λc=>c.take (k+1))++(s.params.take s.params.length).map λa=>lN a k).length) 1 (lj ((M.map λc=>c.take (k+1))++(s.params.take s.params.length).map λa=>lN a k))) (lv ((M.map λc=>c.take (k+1))++(s.params.take s.params.length).map λa=>lN a k)))])) aF) aI:kD 8 f188 (UE s M k 0) (.exit 2) ⟨43,true,[(7,.e (lv ((M.map λc=>c.take (k+1))++(s.params.take s.params.length).map λa=>lN a k)))],[]⟩) (af [.b 7 (Bx.le.jl (by rw[eD];simp):Bx.le (.row true 26 (((M.take M.length).map λc=>c.take (k+1)).length) 1 (lj ((M.take M.length).map λc=>c.take (k+1)))) (.row true 26 (((M.map λc=>c.take (k+1))++(s.params.take 0).map λa=>lN a k).length) 1 (lj ((M.map λc=>c.take (k+1))++(s.params.take 0).map λa=>lN a k))))])]<|rQ (lv ((M.map λc=>c.take (k+1))++(s.params.take s.params.length).map λa=>lN a k)) (lv (oR s M k)) (by unfold oR;rw[eD])) 
def Zu(s:jH)(t:j8)(x:List Iv)(p:Nat)(h:lM s)(ht:np s t)(hx:jT s.iZ x)(iB:8<=p)(iw:p<=512):ik 245 [jD s,jJ t,iq x,iP 1,iP p] (.iE [lv (nG s t x p),iP 0]):=by
 have hT:=ht.tape;have ot:=ht.iC;have wD:=ht.one;have s1:=h.s1;have s4:=h.s4;have p4:=h.p4;have lx:=hx.len;have hi:=h.iC;have Tk:=sB s x p 1;have wk:=zU h hx iB iw 1 aE;have kV:=Jv h wk (by rw[Tk,lx]);have aes:(oR s (jf s x p 1) 1).length=t.iC:=by rw[kV.2,ot]
 exact ak call245 func245 (af [.c (UI s x p h hx iB iw),.c (BS t aD),ai 28 ((t.iC:Int) != (s.tape.iC:Int)) (yK ot),ai 31 (decide ((1:Int)<0)) aE,ai 34 (decide ((16:Int)<1)) aE,.c (UN s x 1 p h hx aE iB iw),.c (afo s 1 (jf s x p 1) h aC aE (λi hi=>by rw[(wk i hi).len];exact bD _) (λi hi=>by rw[(wk i hi).len];decide)),.c (UH t (oR s (jf s x p 1) 1) 1 p hT kV.1 aes aE iB iw)]) 
def E9{s:jH}{t:j8}{x:List Iv}{p:Nat}(h:lM s)(ht:np s t)(hx:jT s.iZ x)(iB:8<=p)(iw:p<=512):(nG s t x p).length=t.iF.length/\uS 2 (nG s t x p):=by
 have wk:=zU h hx iB iw 1 aE;have kV:=Jv h wk (by rw[sB,hx.len]);refine⟨by unfold nG qC;rw[b6],?_⟩;exact Se (aC:1<=p) (aC:p<=4096) ht.tape kV.1 (by rw[kV.2,ht.iC])
def afM(s:jH)(t:j8)(x:List Iv)(p:Nat)(h:lM s)(ht:np s t)(hx:jT s.iZ x)(iB:8<=p)(iw:p<=512):ik 201 [jD s,jJ t,iq x,iP p] (.iE [iq (yI s t x p),iP 0]):=by
 have hT:=ht.tape;have ot:=ht.iC;have wD:=ht.one;have s1:=h.s1;have s4:=h.s4;have p4:=h.p4;have lx:=hx.len;have hi:=h.iC;obtain⟨ha1,ha2⟩:=E9 h ht hx iB iw;exact ak call201 func201 (ae [.c (Zu s t x p h ht hx iB iw),ai 24 ((0:Int) != 0) aE,.y 12 12 true 39 7 (jc ((List.range 0).map (λi=>((nG s t x p).getD i []).getD 1 ix))),.s (Sp.kE (U1 s t x p) 0 ((nG s t x p).length) aC (λi hi rF=>by
    have sy:=(ha2 i aC).len;have sx:=qj (((nG s t x p).getD i []).getD 1 ix);exact jh (ae [tT 29 ((i:Int)<((nG s t x p).length:Int)) aC,iX (i:Int) ((nG s t x p).length) aC,iX 1 (((nG s t x p).getD i []).length) aC,.o 36 (.e (lJ _):aj (.sl true 1 7 λi_ j_=>(iQ (((nG s t x p).getD i []).getD 1 ix)).getD (i_*7+j_) (.v (.bool false))) (iq [((nG s t x p).getD i []).getD 1 ix])),.a (aC:(i+[((nG s t x p).getD i []).getD 1 ix].length)*88<=140737488355328),iL ((i:Int)+1) aC]<|.e (af [.b 12 (CI rfl rfl rfl:Bx.le (.row true 39 (i+[((nG s t x p).getD i []).getD 1 ix].length) 7 (λi_ j_=>if i_<i then(jc ((List.range i).map (λi=>((nG s t x p).getD i []).getD 1 ix))) i_ j_ else(E.kT (iq [((nG s t x p).getD i []).getD 1 ix])) (i_-i) j_)) (.row true 39 (i+1) 7 (jc ((List.range (i+1)).map (λi=>((nG s t x p).getD i []).getD 1 ix)))))])) aF)
  (λhi=>by
    exact jh (ae [tF 29 (((nG s t x p).length:Int)<((nG s t x p).length:Int)) aC,.z 12]<|.e (af [.o 12 (.e (CH aH):aj (.sl true ((nG s t x p).length) 7 (jc ((List.range ((nG s t x p).length)).map (λi=>((nG s t x p).getD i []).getD 1 ix)))) (iq ((List.range ((nG s t x p).length)).map (λi=>((nG s t x p).getD i []).getD 1 ix))))])) aF) aI:kD 6 f201 (U1 s t x p 0) (.exit 0) ⟨40,true,[(12,.e (iq ((List.range ((nG s t x p).length)).map (λi=>((nG s t x p).getD i []).getD 1 ix))))],[]⟩) .nil]<|rQ (.iE [iq ((List.range ((nG s t x p).length)).map (λi=>((nG s t x p).getD i []).getD 1 ix)),iP 0]) (.iE [iq (yI s t x p),iP 0]) (by unfold yI kQ;rfl)) 
def afL{s:jH}{t:j8}{x:List Iv}{p:Nat}(h:lM s)(ht:np s t)(hx:jT s.iZ x)(iB:8<=p)(iw:p<=512):(yI s t x p).length=1:=by
 unfold yI;rw[wi,(E9 h ht hx iB iw).1,ht.one]
def BP{s:jH}{t:j8}{x:List Iv}{p:Nat}(h:lM s)(ht:np s t)(hx:jT s.iZ x)(iB:8<=p)(iw:p<=512):(iW s t x p).iy:=by
 obtain⟨h1,h2⟩:=E9 h ht hx iB iw;have h3:=ht.one;unfold iW yI;rw[yb aC];exact(h2 0 aC).ok 1
def vW{s:jH}{t:j8}{x:List Iv}{p:Nat}(h:lM s)(ht:np s t)(hx:jT s.iZ x)(iB:8<=p)(iw:p<=512):(nL s t x p).iy:=by
 have hv:=hx.ok.KG.append h.params.KG;have h1:=ht.one;unfold nL;rw[<-Sf,bC,cG,amJ aC];exact KH t.il hv (aC:1<=p) (aC:p<=4096) _ _
def afn{X Y:List Iv}{n q:Nat}{f g:Nat->Nat->E}(hn:n=X.length)(hq:q=Y.length)(hf:∀ i j,f i j=jc X i j)(hg:∀ i j,g i j=jc Y i j):E.le (.sl true (n+q) 7 λi j=>if i<n then f i j else g (i-n) j) (iq (X++Y)):=by
 subst hn hq;unfold iq;rw[cg];refine .sl λi j hi hj=>⟨.jl ?_,s7 _ _ hj⟩
 by_cases h:i<X.length
 .rw [bw h,hf];show(iQ (X.getD i ix)).getD j .any=(iQ ((X++Y).getD i ix)).getD j .any;simp only[bC];rw[dp h]
 .rw [bu h,hg];show(iQ (Y.getD (i-X.length) ix)).getD j .any=(iQ ((X++Y).getD i ix)).getD j .any;simp only[bC];rw[et aC]
def Aq(s:jH)(t:j8)(x:List Iv)(p:Nat)(h:lM s)(ht:np s t)(hx:jT s.iZ x)(iB:8<=p)(iw:p<=512):ik 135 [jD s,jJ t,iq x,iP p] (iz (nL s t x p)):=by
 have hT:=ht.tape;have ot:=ht.iC;have wD:=ht.one;have s1:=h.s1;have s4:=h.s4;have p4:=h.p4;have lx:=hx.len;have hi:=h.iC;have hv:=hx.ok.KG.append h.params.KG;have FU:=ac6 t (x++s.params) p;exact ak call135 func135 (ae [.cn (Dw _ aC aC:tv 63 [iq x] true 39 x.length 7 (jc x)),.bo,.a (aC:(x.length+s.params.length)*88<=140737488355328),.o 14 (.e (afn rfl rfl (λ_ _=>rfl) (λ_ _=>rfl)):aj (.sl true (x.length+s.params.length) 7 (λi_ j_=>if i_<x.length then(jc x) i_ j_ else(E.kT (iq s.params)) (i_-x.length) j_)) (iq (x++s.params))),.c (akJ t (x++s.params) p hT (by rw[cg];omega) (by rw[cg];omega) hv aC aC),iX 0 ((xZ t (x++s.params) p).length) aC]<|rQ (iz ((xZ t (x++s.params) p).getD 0 ix)) (iz (nL s t x p)) (by unfold nL;rfl)) 
def He(s:jH)(t:j8)(x:List Iv)(p:Nat)(h:lM s)(ht:np s t)(hx:jT s.iZ x)(iB:8<=p)(iw:p<=512):ik 133 [jD s,jJ t,iq x,iP p] (iz (iW s t x p)):=by
 have hT:=ht.tape;have ot:=ht.iC;have wD:=ht.one;have s1:=h.s1;have s4:=h.s4;have p4:=h.p4;have lx:=hx.len;have hi:=h.iC;have Tp:=afL h ht hx iB iw;exact ak call133 func133 (ae [.c (afM s t x p h ht hx iB iw),ai 20 ((0:Int) != 0) aE,iX 0 ((yI s t x p).length) aC]<|rQ (iz ((yI s t x p).getD 0 ix)) (iz (iW s t x p)) (by unfold iW;rfl)) 
def Uo(x:Iv)(d:Dy)(hx:x.iy)(xa:x.all=false)(hd:d.iy):ik 49 [iz x,iA d] (bP (zj x d)):=by
 obtain⟨w1,w2⟩:=hx.kr;exact ak call49 func49 (ae [.c (qH x aD),ag [iA d] (q7 _ aD),ai 14 x.all xa,ag [iA x.lo,iA d] (nv _ _ aD aD)]<|.w ((jE x.lo d)<=0)
  (λk1=>ae [tB 20 (bA k1),ag [iA d,iA x.hi] (nv _ _ aD aD)]<|rQ (bP (decide ((jE d x.hi)<=0))) (bP (zj x d)) (kz (by unfold zj;simp_all<;>omega)))
  (λk1=>ae [tB 20 (bB k1)]<|rQ (bP false) (bP (zj x d)) (kz (by unfold zj;simp_all<;>omega)))) 
def CG(x:Iv)(p:Nat)(hx:x.iy)(xa:x.all=false)(iB:8<=p)(iw:p<=512):ik 139 [iz x,iP p] (iA (kK x p)):=by
 obtain⟨w1,w2⟩:=hx.kr;have w3:=vQ (iG x.lo x.hi) (aC:1<=p) (aC:p<=4096) false;have w4:=Rc (tG (iM (iG x.lo x.hi) p false).neg (iM (iG x.lo x.hi) p false).m ((iM (iG x.lo x.hi) p false).e + -1));exact ak call139 func139 (ae [.o 9 (.e (lJ _):aj (.sl true 1 7 λi_ j_=>(iQ x).getD (i_*7+j_) (.v (.bool false))) (iq [x])),ag [iq [x]] (qi _ aD),ah 10 (!x.all) (by rw[xa];rfl),ag [iP p] (vG _),ah 14 (pT (p:Int)) (uI.2 ⟨aC,aC⟩),.c (Ws x.lo x.hi p aD aD aC aC)]<|.w ((jP (iG x.lo x.hi) p false)=0)
  (λk1=>ae [tB 28 (bn k1),.c (Lb (iM (iG x.lo x.hi) p false) (-1) aD aC aC)]<|.w ((uk (canon (iM (iG x.lo x.hi) p false).neg (iM (iG x.lo x.hi) p false).m ((iM (iG x.lo x.hi) p false).e+(-1))))=0)
   (λk2=>ae [tB 37 (bn k2),.c (Uo x (r8 (canon (iM (iG x.lo x.hi) p false).neg (iM (iG x.lo x.hi) p false).m ((iM (iG x.lo x.hi) p false).e+(-1)))) hx xa aD)]<|.w (zj x (r8 (canon (iM (iG x.lo x.hi) p false).neg (iM (iG x.lo x.hi) p false).m ((iM (iG x.lo x.hi) p false).e+(-1))))=true)
    (λk3=>ae [tB 41 k3]<|rQ (iA (r8 (canon (iM (iG x.lo x.hi) p false).neg (iM (iG x.lo x.hi) p false).m ((iM (iG x.lo x.hi) p false).e+(-1))))) (iA (kK x p)) bc)
    (λk3=>ae [tB 41 (bk k3)]<|rQ (iA x.lo) (iA (kK x p)) bc))
   (λk2=>ae [tB 37 (bt k2)]<|rQ (iA x.lo) (iA (kK x p)) bc))
  (λk1=>ae [tB 28 (bt k1)]<|rQ (iA x.lo) (iA (kK x p)) bc)) 
def ajR(dir:Int):ik 134 [iP dir] (iP (rk dir)):=
 ak call134 func134 (.w (dir=2)
  (λk1=>ae [tB 4 (bj k1)]<|rQ (iP (-1)) (iP (rk dir)) (by unfold rk;simp_all))
  (λk1=>ae [tB 4 (bh k1)]<|rQ (iP 1) (iP (rk dir)) (by unfold rk;simp_all))) 
def Gn(s:jH)(t:j8)(x:List Iv)(a b:Dy)(y z:List Iv)(dir:Int)(p:Nat)(h:lM s)(ht:np s t)(hx:jT s.iZ x)(hy:jT s.iZ y)(hz:jT s.iZ z)(iB:8<=p)(iw:p<=512):ik 59 [jD s,jJ t,iq x,.agg (iR a++iR b++[iq y,iq z]),iP dir,iP p] (iP (mR s t x y z dir p)):=by
 have v1:=vW h ht hx iB iw;have v2:=vW h ht hy iB iw;have v3:=vW h ht hz iB iw;have v4:=BP h ht hy iB iw;have hsg:=ajJ dir;exact ak call59 func59 (ae [.c (He s t y p h ht aD iB iw),.c (Bn (iW s t y p) aD),.c (ajR dir),.c (Aq s t y p h ht aD iB iw),.c (Bn (nL s t y p) aD)]<|.w ((lZ (nL s t y p))=0)
  (λk1=>ae [tB 32 (bn k1),iL (0-(rk dir)) aC]<|.w ((lZ (iW s t y p))=(0-(rk dir)))
   (λk2=>ae [tB 37 (bj k2)]<|rQ (iP 1) (iP (mR s t x y z dir p)) aZ)
   (λk2=>ae [tB 37 (bh k2)]<|.w ((lZ (iW s t y p))=(rk dir))
    (λk3=>ae [tB 42 (bj k3),.c (Aq s t x p h ht aD iB iw),.c (Bn (nL s t x p) aD),iL (0-(rk dir)) aC]<|.w ((lZ (nL s t x p))=(0-(rk dir)))
     (λk4=>ae [tB 52 (bj k4),.c (Aq s t z p h ht aD iB iw),.c (Bn (nL s t z p) aD)]<|.w ((lZ (nL s t z p))=(rk dir))
      (λk5=>ae [tB 63 (bj k5)]<|rQ (iP 3) (iP (mR s t x y z dir p)) aZ)
      (λk5=>ae [tB 63 (bh k5)]<|rQ (iP 2) (iP (mR s t x y z dir p)) aZ))
     (λk4=>ae [tB 52 (bh k4)]<|rQ (iP 2) (iP (mR s t x y z dir p)) aZ))
    (λk3=>ae [tB 42 (bh k3)]<|rQ (iP 2) (iP (mR s t x y z dir p)) aZ)))
  (λk1=>ae [tB 32 (bt k1)]<|rQ (iP 1) (iP (mR s t x y z dir p)) aZ)) 
def JM{T:Nat}{h:Dy}:Bx.le (.cells T (ar++iR h++[bP false])) (.cells T (iQ ⟨iS,h,false⟩)):=by
 have e1:E.le (.v (.slice none 0 0)) (iu (im 0)):=by rw[px];exact .nil _ _ _
 exact .cells (λ_=>rfl) (.cons (.refl _) (.cons e1 (.cons (.refl _) (.cons (.refl _) (.cons (.refl _) (.cons (.refl _) (.cons (.refl _) .nil)))))))
def XU{a b:Dy}(h:jE a b<=0)(h0:0<=a.jG):0<=b.jG:=by
 have h1:a.q<=b.q:=(pA a b).1 h;have h2:0<=a.q:=ajU aC;have:=ahW (bV h2 h1);omega
def zY{o:Iv}(h:tC o){p:Nat}(iB:8<=p)(iw:p<=512):(kK o p).iy/\0<=(kK o p).jG:=by
 obtain⟨w1,w2⟩:=h.val.kr;unfold kK;split
 .split
  .rename_i hq;refine⟨Rc (tG _ _ _),?_⟩;have h1:=hq.2;unfold zj at h1;rw[bO]at h1;exact XU (cQ h1.1) h.lo
  .exact ⟨w1,h.lo⟩
 .exact ⟨w1,h.lo⟩
def C1{d:Dy}(h:d.iy)(h0:0<=d.jG):tC (jF d):=⟨qV h,rfl,h0⟩
def Vw{o n:Iv}(h:tC o)(hn:n.iy)(na:n.all=false)(hm:sD o n=true):tC (mK o n):=by
 refine⟨Vx h.val hn h.all na hm,rfl,?_⟩;exact XU (CT o.lo n.lo) h.lo
def Bv(s:jH)(t:j8)(x y:List Iv)(l o:Iv){p:Nat}(iB:8<=p)(iw:p<=512)(hd:(kK o p).iy):(nj s t x y l p o).iy:=by
 unfold nj;exact qk (qV hd) (Bu (oZ _ _ aC aC)) aC aC 
def B5{s:jH}{t:j8}{x y:List Iv}{l o:Iv}{p:Nat}(h:tE s t x y l p o=false):rC (k0 s x y (jF (kK o p)) 8 p)=false/\(nj s t x y l p o).all=false:=by
 unfold tE at h;rwa[eu]at h
def BA{s:jH}{t:j8}{x y:List Iv}{l o:Iv}{p:Nat}(h:lM s)(ht:np s t)(hx:jT s.iZ x)(hy:jT s.iZ y)(iB:8<=p)(iw:p<=512)(ho:tC o):∀ n,(∀ i,i<n->wN s t x y l p o i)->tC (jt s t x y l p o n)
 | 0,_=>ho
 |n+1,hg=>by
  have h1:=BA h ht hx hy iB iw ho n λi hi=>hg i aC 
  obtain⟨h2,h3⟩:=hg n aC;exact Vw h1 (Bv s t x y l _ iB iw (zY h1 iB iw).1) (B5 h2).2 h3
def afE{P:Nat->Prop}{n:Nat}(h:¬∀ i,i<n->P i):∃ N,N<n/\¬P N/\∀ i,i<N->P i:=by
 have hex:∃ i,i<n/\@decide (¬P i) (Classical.propDecidable _)=true:=by
  apply ck;intro q;refine h λi hi=>?_
  apply ck;intro q2;exact q ⟨i,hi,@bA _ (Classical.propDecidable _) q2⟩
 obtain⟨N,n1,n2,n3⟩:=uB hex;refine⟨N,n1,@cQ _ (Classical.propDecidable _) n2,λi hi=>?_⟩;apply ck;intro q;exact @fG _ (Classical.propDecidable _) (n3 i hi) q
def Sk{a b:Dy}{p:Nat}(iB:8<=p)(iw:p<=512)(ha:a.iy)(hb:b.iy)(qD:jE a b<0)(hE:jP (iG b (iK a)) p true=0):tC ⟨iS,iM (iG b (iK a)) p true,false⟩:=by
 have hv:=vQ (iG b (iK a)) (aC:1<=p) (aC:p<=4096) true;have h1:a.q<=b.q:=(pA a b).1 aC;have h3:0<=(iG b (iK a)).q:=by rw[Wp,ri];grind
 have h2:(iG b (iK a)).q<=(iM (iG b (iK a)) p true).q:=(pA _ _).1 ((O5 (DC hb.canon (vN ha).canon) p aC).1 hE);exact⟨.inr ⟨rfl,sk,hv,(pA _ _).2 (by rw[wM];exact bV h3 h2)⟩,rfl,show 0<=iS.jG by decide⟩
def alM(s:jH)(t:j8)(x:List Iv)(a b:Dy)(y z:List Iv)(p:Nat)(h:lM s)(ht:np s t)(hx:jT s.iZ x)(hy:jT s.iZ y)(iB:8<=p)(iw:p<=512)(ha:a.iy)(hb:b.iy)(hE:(jP (iG b (iK a)) p true)≠0):ik 60 [jD s,jJ t,iq x,.agg (iR a++iR b++[iq y,iq z]),iP p] (rS (some ix)):=by
 have w1:=vN ha;have v4:=BP h ht hy iB iw;exact ak call60 func60 (ae [ag [iA a] (um _ aD),.c (C4 b (iK a) p aD aD aC aC),ah 32 ((jP (iG b (iK a)) p true) != 0) (by simp[hE]),.c nW]<|rR (rS (some ix)) (.jl rfl:E.le (.iE [iz ix,bP true]) (rS (some ix)))) 
def alI(s:jH)(t:j8)(x:List Iv)(a b:Dy)(y z:List Iv)(p:Nat)(h:lM s)(ht:np s t)(hx:jT s.iZ x)(hy:jT s.iZ y)(iB:8<=p)(iw:p<=512)(ha:a.iy)(hb:b.iy)(hE:(jP (iG b (iK a)) p true)=0)(tW:tC (⟨iS,iM (iG b (iK a)) p true,false⟩:Iv))(N:Nat)(hN:N<4)(jZ:∀ i,i<N->wN s t x y (iW s t y p) p (⟨iS,iM (iG b (iK a)) p true,false⟩:Iv) i)(hA:rC (k0 s x y (jF (kK (jt s t x y (iW s t y p) p (⟨iS,iM (iG b (iK a)) p true,false⟩:Iv) N) p)) 8 p)=true):ik 60 [jD s,jJ t,iq x,.agg (iR a++iR b++[iq y,iq z]),iP p] (rS (some (jt s t x y (iW s t y p) p (⟨iS,iM (iG b (iK a)) p true,false⟩:Iv) N))):=by
 have w1:=vN ha;have v4:=BP h ht hy iB iw;exact ak call60 func60 (ae [ag [iA a] (um _ aD),.c (C4 b (iK a) p aD aD aC aC),ai 32 ((jP (iG b (iK a)) p true) != 0) (by simp[hE]),.c (He s t y p h ht aD iB iw),.s (Sp.kE (YQ s t x a b y z p N) 0 N aC (λn hn Ji=>by
    obtain⟨hB,hM⟩:=jZ n aC;have ho:=(BA h ht hx hy iB iw tW n λi hi=>jZ i aC)
    obtain⟨pv,qb⟩:=zY ho iB iw;have pP:=C1 pv qb;obtain⟨hA,qN⟩:=B5 hB;have jj:=y7 (k:=8) h hx hy aE iB iw hA;have Gf:=vW h ht jj iB iw;have sw:=oZ (nL s t (k0 s x y (jF (kK (jt s t x y (iW s t y p) p (⟨iS,iM (iG b (iK a)) p true,false⟩:Iv) n) p)) 8 p) p) (iW s t y p) (aC:1<=p) (aC:p<=4096);have yx:=Bv s t x y (iW s t y p) (jt s t x y (iW s t y p) p (⟨iS,iM (iG b (iK a)) p true,false⟩:Iv) n) iB iw pv;exact jh (ae [tT 43 ((n:Int)<4) aC,.c (CG (jt s t x y (iW s t y p) p (⟨iS,iM (iG b (iK a)) p true,false⟩:Iv) n) p ho.val ho.all iB iw),.c (rZ (kK (jt s t x y (iW s t y p) p (⟨iS,iM (iG b (iK a)) p true,false⟩:Iv) n) p) pv),.c (B3 s x y (jF (kK (jt s t x y (iW s t y p) p (⟨iS,iM (iG b (iK a)) p true,false⟩:Iv) n) p)) 8 p h hx hy pP.val rfl pP.lo aE aE iB iw hA),ai 59 ((0:Int) != 0) aE,.c (Aq s t (k0 s x y (jF (kK (jt s t x y (iW s t y p) p (⟨iS,iM (iG b (iK a)) p true,false⟩:Iv) n) p)) 8 p) p h ht jj iB iw),.c (tY (nL s t (k0 s x y (jF (kK (jt s t x y (iW s t y p) p (⟨iS,iM (iG b (iK a)) p true,false⟩:Iv) n) p)) 8 p) p) (iW s t y p) p aD aD aC aC),.c (yD (jF (kK (jt s t x y (iW s t y p) p (⟨iS,iM (iG b (iK a)) p true,false⟩:Iv) n) p)) (jz (nL s t (k0 s x y (jF (kK (jt s t x y (iW s t y p) p (⟨iS,iM (iG b (iK a)) p true,false⟩:Iv) n) p)) 8 p) p) (iW s t y p) p) p pP.val sw aC aC),ai 72 ((nj s t x y (iW s t y p) p (jt s t x y (iW s t y p) p (⟨iS,iM (iG b (iK a)) p true,false⟩:Iv) n)).all) qN,.c (Em (jt s t x y (iW s t y p) p (⟨iS,iM (iG b (iK a)) p true,false⟩:Iv) n) (nj s t x y (iW s t y p) p (jt s t x y (iW s t y p) p (⟨iS,iM (iG b (iK a)) p true,false⟩:Iv) n)) ho.val yx ho.all qN hM),
     iL ((n:Int)+1) aC]<|.e (af [.b 14 (.jl rfl:Bx.le (.cells 39 (iQ (mK (jt s t x y (iW s t y p) p (⟨iS,iM (iG b (iK a)) p true,false⟩:Iv) n) (nj s t x y (iW s t y p) p (jt s t x y (iW s t y p) p (⟨iS,iM (iG b (iK a)) p true,false⟩:Iv) n))))) (.cells 39 (iQ (jt s t x y (iW s t y p) p (⟨iS,iM (iG b (iK a)) p true,false⟩:Iv) (n+1)))))])) aF)
  (λhn=>by
    have ho:=BA h ht hx hy iB iw tW N jZ;obtain⟨pv,qb⟩:=zY ho iB iw;have pP:=C1 pv qb;exact jh (af [tT 43 ((N:Int)<4) aC,.c (CG (jt s t x y (iW s t y p) p (⟨iS,iM (iG b (iK a)) p true,false⟩:Iv) N) p ho.val ho.all iB iw),.c (rZ (kK (jt s t x y (iW s t y p) p (⟨iS,iM (iG b (iK a)) p true,false⟩:Iv) N) p) pv),.c (Qv s x y (jF (kK (jt s t x y (iW s t y p) p (⟨iS,iM (iG b (iK a)) p true,false⟩:Iv) N) p)) 8 p h hx hy pP.val rfl pP.lo aE aE iB iw hA),ah 59 ((11:Int) != 0) aE]) aF) aI:kD 7 Tryz.f60 (YQ s t x a b y z p N 0) (.exit 0) ⟨84,true,[(14,.box 14 0),(10,.box 10 0)],[(14,.cells 39 (iQ (jt s t x y (iW s t y p) p (⟨iS,iM (iG b (iK a)) p true,false⟩:Iv) N))),(10,.cells 39 au)]⟩) (af [.b 14 (JM:Bx.le (.cells 39 (ar++iR (iM (iG b (iK a)) p true)++[bP false])) (.cells 39 (iQ (jt s t x y (iW s t y p) p (⟨iS,iM (iG b (iK a)) p true,false⟩:Iv) 0))))])]<|rR (rS (some (jt s t x y (iW s t y p) p (⟨iS,iM (iG b (iK a)) p true,false⟩:Iv) N))) (.jl rfl:E.le (.iE [iz (jt s t x y (iW s t y p) p (⟨iS,iM (iG b (iK a)) p true,false⟩:Iv) N),bP true]) (rS (some (jt s t x y (iW s t y p) p (⟨iS,iM (iG b (iK a)) p true,false⟩:Iv) N))))) 
def alJ(s:jH)(t:j8)(x:List Iv)(a b:Dy)(y z:List Iv)(p:Nat)(h:lM s)(ht:np s t)(hx:jT s.iZ x)(hy:jT s.iZ y)(iB:8<=p)(iw:p<=512)(ha:a.iy)(hb:b.iy)(hE:(jP (iG b (iK a)) p true)=0)(tW:tC (⟨iS,iM (iG b (iK a)) p true,false⟩:Iv))(N:Nat)(hN:N<4)(jZ:∀ i,i<N->wN s t x y (iW s t y p) p (⟨iS,iM (iG b (iK a)) p true,false⟩:Iv) i)(hA:rC (k0 s x y (jF (kK (jt s t x y (iW s t y p) p (⟨iS,iM (iG b (iK a)) p true,false⟩:Iv) N) p)) 8 p)=false)(qN:((nj s t x y (iW s t y p) p (jt s t x y (iW s t y p) p (⟨iS,iM (iG b (iK a)) p true,false⟩:Iv) N))).all=true):ik 60 [jD s,jJ t,iq x,.agg (iR a++iR b++[iq y,iq z]),iP p] (rS (some (jt s t x y (iW s t y p) p (⟨iS,iM (iG b (iK a)) p true,false⟩:Iv) N))):=by
 have w1:=vN ha;have v4:=BP h ht hy iB iw;exact ak call60 func60 (ae [ag [iA a] (um _ aD),.c (C4 b (iK a) p aD aD aC aC),ai 32 ((jP (iG b (iK a)) p true) != 0) (by simp[hE]),.c (He s t y p h ht aD iB iw),.s (Sp.kE (YR s t x a b y z p N) 0 N aC (λn hn Ji=>by
    obtain⟨hB,hM⟩:=jZ n aC;have ho:=(BA h ht hx hy iB iw tW n λi hi=>jZ i aC)
    obtain⟨pv,qb⟩:=zY ho iB iw;have pP:=C1 pv qb;obtain⟨hA,qN⟩:=B5 hB;have jj:=y7 (k:=8) h hx hy aE iB iw hA;have Gf:=vW h ht jj iB iw;have sw:=oZ (nL s t (k0 s x y (jF (kK (jt s t x y (iW s t y p) p (⟨iS,iM (iG b (iK a)) p true,false⟩:Iv) n) p)) 8 p) p) (iW s t y p) (aC:1<=p) (aC:p<=4096);have yx:=Bv s t x y (iW s t y p) (jt s t x y (iW s t y p) p (⟨iS,iM (iG b (iK a)) p true,false⟩:Iv) n) iB iw pv;exact jh (ae [tT 43 ((n:Int)<4) aC,.c (CG (jt s t x y (iW s t y p) p (⟨iS,iM (iG b (iK a)) p true,false⟩:Iv) n) p ho.val ho.all iB iw),.c (rZ (kK (jt s t x y (iW s t y p) p (⟨iS,iM (iG b (iK a)) p true,false⟩:Iv) n) p) pv),.c (B3 s x y (jF (kK (jt s t x y (iW s t y p) p (⟨iS,iM (iG b (iK a)) p true,false⟩:Iv) n) p)) 8 p h hx hy pP.val rfl pP.lo aE aE iB iw hA),ai 59 ((0:Int) != 0) aE,.c (Aq s t (k0 s x y (jF (kK (jt s t x y (iW s t y p) p (⟨iS,iM (iG b (iK a)) p true,false⟩:Iv) n) p)) 8 p) p h ht jj iB iw),.c (tY (nL s t (k0 s x y (jF (kK (jt s t x y (iW s t y p) p (⟨iS,iM (iG b (iK a)) p true,false⟩:Iv) n) p)) 8 p) p) (iW s t y p) p aD aD aC aC),.c (yD (jF (kK (jt s t x y (iW s t y p) p (⟨iS,iM (iG b (iK a)) p true,false⟩:Iv) n) p)) (jz (nL s t (k0 s x y (jF (kK (jt s t x y (iW s t y p) p (⟨iS,iM (iG b (iK a)) p true,false⟩:Iv) n) p)) 8 p) p) (iW s t y p) p) p pP.val sw aC aC),ai 72 ((nj s t x y (iW s t y p) p (jt s t x y (iW s t y p) p (⟨iS,iM (iG b (iK a)) p true,false⟩:Iv) n)).all) qN,.c (Em (jt s t x y (iW s t y p) p (⟨iS,iM (iG b (iK a)) p true,false⟩:Iv) n) (nj s t x y (iW s t y p) p (jt s t x y (iW s t y p) p (⟨iS,iM (iG b (iK a)) p true,false⟩:Iv) n)) ho.val yx ho.all qN hM),
     iL ((n:Int)+1) aC]<|.e (af [.b 14 (.jl rfl:Bx.le (.cells 39 (iQ (mK (jt s t x y (iW s t y p) p (⟨iS,iM (iG b (iK a)) p true,false⟩:Iv) n) (nj s t x y (iW s t y p) p (jt s t x y (iW s t y p) p (⟨iS,iM (iG b (iK a)) p true,false⟩:Iv) n))))) (.cells 39 (iQ (jt s t x y (iW s t y p) p (⟨iS,iM (iG b (iK a)) p true,false⟩:Iv) (n+1)))))])) aF)
  (λhn=>by
    have ho:=BA h ht hx hy iB iw tW N jZ;obtain⟨pv,qb⟩:=zY ho iB iw;have pP:=C1 pv qb;have jj:=y7 (k:=8) h hx hy aE iB iw hA;have Gf:=vW h ht jj iB iw;have sw:=oZ (nL s t (k0 s x y (jF (kK (jt s t x y (iW s t y p) p (⟨iS,iM (iG b (iK a)) p true,false⟩:Iv) N) p)) 8 p) p) (iW s t y p) (aC:1<=p) (aC:p<=4096);have yx:=Bv s t x y (iW s t y p) (jt s t x y (iW s t y p) p (⟨iS,iM (iG b (iK a)) p true,false⟩:Iv) N) iB iw pv;exact jh (af [tT 43 ((N:Int)<4) aC,.c (CG (jt s t x y (iW s t y p) p (⟨iS,iM (iG b (iK a)) p true,false⟩:Iv) N) p ho.val ho.all iB iw),.c (rZ (kK (jt s t x y (iW s t y p) p (⟨iS,iM (iG b (iK a)) p true,false⟩:Iv) N) p) pv),.c (B3 s x y (jF (kK (jt s t x y (iW s t y p) p (⟨iS,iM (iG b (iK a)) p true,false⟩:Iv) N) p)) 8 p h hx hy pP.val rfl pP.lo aE aE iB iw hA),ai 59 ((0:Int) != 0) aE,.c (Aq s t (k0 s x y (jF (kK (jt s t x y (iW s t y p) p (⟨iS,iM (iG b (iK a)) p true,false⟩:Iv) N) p)) 8 p) p h ht jj iB iw),.c (tY (nL s t (k0 s x y (jF (kK (jt s t x y (iW s t y p) p (⟨iS,iM (iG b (iK a)) p true,false⟩:Iv) N) p)) 8 p) p) (iW s t y p) p aD aD aC aC),.c (yD (jF (kK (jt s t x y (iW s t y p) p (⟨iS,iM (iG b (iK a)) p true,false⟩:Iv) N) p)) (jz (nL s t (k0 s x y (jF (kK (jt s t x y (iW s t y p) p (⟨iS,iM (iG b (iK a)) p true,false⟩:Iv) N) p)) 8 p) p) (iW s t y p) p) p pP.val sw aC aC),ah 72 ((nj s t x y (iW s t y p) p (jt s t x y (iW s t y p) p (⟨iS,iM (iG b (iK a)) p true,false⟩:Iv) N)).all) qN]) aF) aI:kD 7 Tryz.f60 (YR s t x a b y z p N 0) (.exit 0) ⟨84,true,[(14,.box 14 0),(10,.box 10 0)],[(14,.cells 39 (iQ (jt s t x y (iW s t y p) p (⟨iS,iM (iG b (iK a)) p true,false⟩:Iv) N))),(10,.cells 39 au)]⟩) (af [.b 14 (JM:Bx.le (.cells 39 (ar++iR (iM (iG b (iK a)) p true)++[bP false])) (.cells 39 (iQ (jt s t x y (iW s t y p) p (⟨iS,iM (iG b (iK a)) p true,false⟩:Iv) 0))))])]<|rR (rS (some (jt s t x y (iW s t y p) p (⟨iS,iM (iG b (iK a)) p true,false⟩:Iv) N))) (.jl rfl:E.le (.iE [iz (jt s t x y (iW s t y p) p (⟨iS,iM (iG b (iK a)) p true,false⟩:Iv) N),bP true]) (rS (some (jt s t x y (iW s t y p) p (⟨iS,iM (iG b (iK a)) p true,false⟩:Iv) N))))) 
def alK(s:jH)(t:j8)(x:List Iv)(a b:Dy)(y z:List Iv)(p:Nat)(h:lM s)(ht:np s t)(hx:jT s.iZ x)(hy:jT s.iZ y)(iB:8<=p)(iw:p<=512)(ha:a.iy)(hb:b.iy)(hE:(jP (iG b (iK a)) p true)=0)(tW:tC (⟨iS,iM (iG b (iK a)) p true,false⟩:Iv))(N:Nat)(hN:N<4)(jZ:∀ i,i<N->wN s t x y (iW s t y p) p (⟨iS,iM (iG b (iK a)) p true,false⟩:Iv) i)(hA:rC (k0 s x y (jF (kK (jt s t x y (iW s t y p) p (⟨iS,iM (iG b (iK a)) p true,false⟩:Iv) N) p)) 8 p)=false)(qN:((nj s t x y (iW s t y p) p (jt s t x y (iW s t y p) p (⟨iS,iM (iG b (iK a)) p true,false⟩:Iv) N))).all=false)(hM:sD (jt s t x y (iW s t y p) p (⟨iS,iM (iG b (iK a)) p true,false⟩:Iv) N) (nj s t x y (iW s t y p) p (jt s t x y (iW s t y p) p (⟨iS,iM (iG b (iK a)) p true,false⟩:Iv) N))=false):ik 60 [jD s,jJ t,iq x,.agg (iR a++iR b++[iq y,iq z]),iP p] (rS none):=by
 have w1:=vN ha;have v4:=BP h ht hy iB iw;exact ak call60 func60 (ae [ag [iA a] (um _ aD),.c (C4 b (iK a) p aD aD aC aC),ai 32 ((jP (iG b (iK a)) p true) != 0) (by simp[hE]),.c (He s t y p h ht aD iB iw),.s (Sp.kE (YS s t x a b y z p N) 0 N aC (λn hn Ji=>by
    obtain⟨hB,hM⟩:=jZ n aC;have ho:=(BA h ht hx hy iB iw tW n λi hi=>jZ i aC)
    obtain⟨pv,qb⟩:=zY ho iB iw;have pP:=C1 pv qb;obtain⟨hA,qN⟩:=B5 hB;have jj:=y7 (k:=8) h hx hy aE iB iw hA;have Gf:=vW h ht jj iB iw;have sw:=oZ (nL s t (k0 s x y (jF (kK (jt s t x y (iW s t y p) p (⟨iS,iM (iG b (iK a)) p true,false⟩:Iv) n) p)) 8 p) p) (iW s t y p) (aC:1<=p) (aC:p<=4096);have yx:=Bv s t x y (iW s t y p) (jt s t x y (iW s t y p) p (⟨iS,iM (iG b (iK a)) p true,false⟩:Iv) n) iB iw pv;exact jh (ae [tT 43 ((n:Int)<4) aC,.c (CG (jt s t x y (iW s t y p) p (⟨iS,iM (iG b (iK a)) p true,false⟩:Iv) n) p ho.val ho.all iB iw),.c (rZ (kK (jt s t x y (iW s t y p) p (⟨iS,iM (iG b (iK a)) p true,false⟩:Iv) n) p) pv),.c (B3 s x y (jF (kK (jt s t x y (iW s t y p) p (⟨iS,iM (iG b (iK a)) p true,false⟩:Iv) n) p)) 8 p h hx hy pP.val rfl pP.lo aE aE iB iw hA),ai 59 ((0:Int) != 0) aE,.c (Aq s t (k0 s x y (jF (kK (jt s t x y (iW s t y p) p (⟨iS,iM (iG b (iK a)) p true,false⟩:Iv) n) p)) 8 p) p h ht jj iB iw),.c (tY (nL s t (k0 s x y (jF (kK (jt s t x y (iW s t y p) p (⟨iS,iM (iG b (iK a)) p true,false⟩:Iv) n) p)) 8 p) p) (iW s t y p) p aD aD aC aC),.c (yD (jF (kK (jt s t x y (iW s t y p) p (⟨iS,iM (iG b (iK a)) p true,false⟩:Iv) n) p)) (jz (nL s t (k0 s x y (jF (kK (jt s t x y (iW s t y p) p (⟨iS,iM (iG b (iK a)) p true,false⟩:Iv) n) p)) 8 p) p) (iW s t y p) p) p pP.val sw aC aC),ai 72 ((nj s t x y (iW s t y p) p (jt s t x y (iW s t y p) p (⟨iS,iM (iG b (iK a)) p true,false⟩:Iv) n)).all) qN,.c (Em (jt s t x y (iW s t y p) p (⟨iS,iM (iG b (iK a)) p true,false⟩:Iv) n) (nj s t x y (iW s t y p) p (jt s t x y (iW s t y p) p (⟨iS,iM (iG b (iK a)) p true,false⟩:Iv) n)) ho.val yx ho.all qN hM),
     iL ((n:Int)+1) aC]<|.e (af [.b 14 (.jl rfl:Bx.le (.cells 39 (iQ (mK (jt s t x y (iW s t y p) p (⟨iS,iM (iG b (iK a)) p true,false⟩:Iv) n) (nj s t x y (iW s t y p) p (jt s t x y (iW s t y p) p (⟨iS,iM (iG b (iK a)) p true,false⟩:Iv) n))))) (.cells 39 (iQ (jt s t x y (iW s t y p) p (⟨iS,iM (iG b (iK a)) p true,false⟩:Iv) (n+1)))))])) aF)
  (λhn=>by
    have ho:=BA h ht hx hy iB iw tW N jZ;obtain⟨pv,qb⟩:=zY ho iB iw;have pP:=C1 pv qb;have jj:=y7 (k:=8) h hx hy aE iB iw hA;have Gf:=vW h ht jj iB iw;have sw:=oZ (nL s t (k0 s x y (jF (kK (jt s t x y (iW s t y p) p (⟨iS,iM (iG b (iK a)) p true,false⟩:Iv) N) p)) 8 p) p) (iW s t y p) (aC:1<=p) (aC:p<=4096);have yx:=Bv s t x y (iW s t y p) (jt s t x y (iW s t y p) p (⟨iS,iM (iG b (iK a)) p true,false⟩:Iv) N) iB iw pv;exact jh (af [tT 43 ((N:Int)<4) aC,.c (CG (jt s t x y (iW s t y p) p (⟨iS,iM (iG b (iK a)) p true,false⟩:Iv) N) p ho.val ho.all iB iw),.c (rZ (kK (jt s t x y (iW s t y p) p (⟨iS,iM (iG b (iK a)) p true,false⟩:Iv) N) p) pv),.c (B3 s x y (jF (kK (jt s t x y (iW s t y p) p (⟨iS,iM (iG b (iK a)) p true,false⟩:Iv) N) p)) 8 p h hx hy pP.val rfl pP.lo aE aE iB iw hA),ai 59 ((0:Int) != 0) aE,.c (Aq s t (k0 s x y (jF (kK (jt s t x y (iW s t y p) p (⟨iS,iM (iG b (iK a)) p true,false⟩:Iv) N) p)) 8 p) p h ht jj iB iw),.c (tY (nL s t (k0 s x y (jF (kK (jt s t x y (iW s t y p) p (⟨iS,iM (iG b (iK a)) p true,false⟩:Iv) N) p)) 8 p) p) (iW s t y p) p aD aD aC aC),.c (yD (jF (kK (jt s t x y (iW s t y p) p (⟨iS,iM (iG b (iK a)) p true,false⟩:Iv) N) p)) (jz (nL s t (k0 s x y (jF (kK (jt s t x y (iW s t y p) p (⟨iS,iM (iG b (iK a)) p true,false⟩:Iv) N) p)) 8 p) p) (iW s t y p) p) p pP.val sw aC aC),ai 72 ((nj s t x y (iW s t y p) p (jt s t x y (iW s t y p) p (⟨iS,iM (iG b (iK a)) p true,false⟩:Iv) N)).all) qN,.c (Vy (jt s t x y (iW s t y p) p (⟨iS,iM (iG b (iK a)) p true,false⟩:Iv) N) (nj s t x y (iW s t y p) p (jt s t x y (iW s t y p) p (⟨iS,iM (iG b (iK a)) p true,false⟩:Iv) N)) ho.val yx ho.all qN hM)]) aF) aI:kD 7 Tryz.f60 (YS s t x a b y z p N 0) .ret ⟨84,true,[(11,.e (bP false)),(10,.box 10 0)],[(10,.cells 39 (iQ lV))]⟩) (af [.b 14 (JM:Bx.le (.cells 39 (ar++iR (iM (iG b (iK a)) p true)++[bP false])) (.cells 39 (iQ (jt s t x y (iW s t y p) p (⟨iS,iM (iG b (iK a)) p true,false⟩:Iv) 0))))])]<|rR (rS none) (.jl rfl:E.le (.iE [iz lV,bP false]) (rS none))) 
def alL(s:jH)(t:j8)(x:List Iv)(a b:Dy)(y z:List Iv)(p:Nat)(h:lM s)(ht:np s t)(hx:jT s.iZ x)(hy:jT s.iZ y)(iB:8<=p)(iw:p<=512)(ha:a.iy)(hb:b.iy)(hE:(jP (iG b (iK a)) p true)=0)(tW:tC (⟨iS,iM (iG b (iK a)) p true,false⟩:Iv))(jZ:∀ i,i<4->wN s t x y (iW s t y p) p (⟨iS,iM (iG b (iK a)) p true,false⟩:Iv) i):ik 60 [jD s,jJ t,iq x,.agg (iR a++iR b++[iq y,iq z]),iP p] (rS (some (jt s t x y (iW s t y p) p (⟨iS,iM (iG b (iK a)) p true,false⟩:Iv) 4))):=by
 have w1:=vN ha;have v4:=BP h ht hy iB iw;exact ak call60 func60 (ae [ag [iA a] (um _ aD),.c (C4 b (iK a) p aD aD aC aC),ai 32 ((jP (iG b (iK a)) p true) != 0) (by simp[hE]),.c (He s t y p h ht aD iB iw),.s (Sp.kE (YT s t x a b y z p) 0 4 aC (λn hn Ji=>by
    obtain⟨hB,hM⟩:=jZ n aC;have ho:=(BA h ht hx hy iB iw tW n λi hi=>jZ i aC)
    obtain⟨pv,qb⟩:=zY ho iB iw;have pP:=C1 pv qb;obtain⟨hA,qN⟩:=B5 hB;have jj:=y7 (k:=8) h hx hy aE iB iw hA;have Gf:=vW h ht jj iB iw;have sw:=oZ (nL s t (k0 s x y (jF (kK (jt s t x y (iW s t y p) p (⟨iS,iM (iG b (iK a)) p true,false⟩:Iv) n) p)) 8 p) p) (iW s t y p) (aC:1<=p) (aC:p<=4096);have yx:=Bv s t x y (iW s t y p) (jt s t x y (iW s t y p) p (⟨iS,iM (iG b (iK a)) p true,false⟩:Iv) n) iB iw pv;exact jh (ae [tT 43 ((n:Int)<4) aC,.c (CG (jt s t x y (iW s t y p) p (⟨iS,iM (iG b (iK a)) p true,false⟩:Iv) n) p ho.val ho.all iB iw),.c (rZ (kK (jt s t x y (iW s t y p) p (⟨iS,iM (iG b (iK a)) p true,false⟩:Iv) n) p) pv),.c (B3 s x y (jF (kK (jt s t x y (iW s t y p) p (⟨iS,iM (iG b (iK a)) p true,false⟩:Iv) n) p)) 8 p h hx hy pP.val rfl pP.lo aE aE iB iw hA),ai 59 ((0:Int) != 0) aE,.c (Aq s t (k0 s x y (jF (kK (jt s t x y (iW s t y p) p (⟨iS,iM (iG b (iK a)) p true,false⟩:Iv) n) p)) 8 p) p h ht jj iB iw),.c (tY (nL s t (k0 s x y (jF (kK (jt s t x y (iW s t y p) p (⟨iS,iM (iG b (iK a)) p true,false⟩:Iv) n) p)) 8 p) p) (iW s t y p) p aD aD aC aC),.c (yD (jF (kK (jt s t x y (iW s t y p) p (⟨iS,iM (iG b (iK a)) p true,false⟩:Iv) n) p)) (jz (nL s t (k0 s x y (jF (kK (jt s t x y (iW s t y p) p (⟨iS,iM (iG b (iK a)) p true,false⟩:Iv) n) p)) 8 p) p) (iW s t y p) p) p pP.val sw aC aC),ai 72 ((nj s t x y (iW s t y p) p (jt s t x y (iW s t y p) p (⟨iS,iM (iG b (iK a)) p true,false⟩:Iv) n)).all) qN,.c (Em (jt s t x y (iW s t y p) p (⟨iS,iM (iG b (iK a)) p true,false⟩:Iv) n) (nj s t x y (iW s t y p) p (jt s t x y (iW s t y p) p (⟨iS,iM (iG b (iK a)) p true,false⟩:Iv) n)) ho.val yx ho.all qN hM),
     iL ((n:Int)+1) aC]<|.e (af [.b 14 (.jl rfl:Bx.le (.cells 39 (iQ (mK (jt s t x y (iW s t y p) p (⟨iS,iM (iG b (iK a)) p true,false⟩:Iv) n) (nj s t x y (iW s t y p) p (jt s t x y (iW s t y p) p (⟨iS,iM (iG b (iK a)) p true,false⟩:Iv) n))))) (.cells 39 (iQ (jt s t x y (iW s t y p) p (⟨iS,iM (iG b (iK a)) p true,false⟩:Iv) (n+1)))))])) aF)
  (λhn=>by
    exact jh (af [ai 43 (decide ((4:Int)<4)) aE]) aF) aI:kD 7 Tryz.f60 (YT s t x a b y z p 0) (.exit 0) ⟨84,true,[(14,.box 14 0),(10,.box 10 0)],[(14,.cells 39 (iQ (jt s t x y (iW s t y p) p (⟨iS,iM (iG b (iK a)) p true,false⟩:Iv) 4))),(10,.cells 39 au)]⟩) (af [.b 14 (JM:Bx.le (.cells 39 (ar++iR (iM (iG b (iK a)) p true)++[bP false])) (.cells 39 (iQ (jt s t x y (iW s t y p) p (⟨iS,iM (iG b (iK a)) p true,false⟩:Iv) 0))))])]<|rR (rS (some (jt s t x y (iW s t y p) p (⟨iS,iM (iG b (iK a)) p true,false⟩:Iv) 4))) (.jl rfl:E.le (.iE [iz (jt s t x y (iW s t y p) p (⟨iS,iM (iG b (iK a)) p true,false⟩:Iv) 4),bP true]) (rS (some (jt s t x y (iW s t y p) p (⟨iS,iM (iG b (iK a)) p true,false⟩:Iv) 4))))) 
def Oz(s:jH)(t:j8)(x y:List Iv)(l:Iv)(p:Nat)(o:Iv):∀ n,jt s t x y l p (mK o (nj s t x y l p o)) n=jt s t x y l p o (n+1)
 | 0=>rfl
 |n+1=>by
  show mK (jt s t x y l p (mK o (nj s t x y l p o)) n) (nj s t x y l p (jt s t x y l p (mK o (nj s t x y l p o)) n))=_;rw[Oz s t x y l p o n];rfl
def ah0{s:jH}{t:j8}{x y:List Iv}{l:Iv}{p:Nat}{o:Iv}{n:Nat}(h:wN s t x y l p o (n+1)):wN s t x y l p (mK o (nj s t x y l p o)) n:=by
 unfold wN at h ⊢;rwa[Oz]
def PD{s:jH}{t:j8}{x y:List Iv}{l:Iv}{p:Nat}:∀ (n k:Nat) (o:Iv),(∀ i,i<n->wN s t x y l p o i)->wS s t x y l p (n+k) o=wS s t x y l p k (jt s t x y l p o n)
 | 0,k,o,_=>by rw[cD];rfl
 |n+1,k,o,h=>by
  have h0:=h 0 aC;have h1:tE s t x y l p o=false:=h0.1;have h2:sD o (nj s t x y l p o)=true:=h0.2;rw[(aC:n+1+k=(n+k)+1)];show(if tE s t x y l p o=true then some o else if sD o (nj s t x y l p o)=true then wS s t x y l p (n+k) (mK o (nj s t x y l p o))else none)=_;rw[h1,bu aE,h2,bw rfl,PD n k _ λi hi=>ah0 (h (i+1) aC),Oz]
noncomputable def As(s:jH)(t:j8)(x:List Iv)(a b:Dy)(y:List Iv)(p:Nat):Option Iv:=if(jP (iG b (iK a)) p true)=0 then wS s t x y (iW s t y p) p 4 (⟨iS,iM (iG b (iK a)) p true,false⟩:Iv)else some ix
def alN(s:jH)(t:j8)(x:List Iv)(a b:Dy)(y z:List Iv)(p:Nat)(h:lM s)(ht:np s t)(hx:jT s.iZ x)(hy:jT s.iZ y)(iB:8<=p)(iw:p<=512)(ha:a.iy)(hb:b.iy)(qD:jE a b<0):ik 60 [jD s,jJ t,iq x,.agg (iR a++iR b++[iq y,iq z]),iP p] (rS (As s t x a b y p)):=by
 unfold As;by_cases hE:(jP (iG b (iK a)) p true)=0
 .rw [bw hE];have tW:tC (⟨iS,iM (iG b (iK a)) p true,false⟩:Iv):=Sk iB iw ha hb qD hE;by_cases yl:∀ i,i<4->wN s t x y (iW s t y p) p (⟨iS,iM (iG b (iK a)) p true,false⟩:Iv) i
  .have:=alL s t x a b y z p h ht hx hy iB iw ha hb hE tW yl;rwa[show wS s t x y (iW s t y p) p 4 (⟨iS,iM (iG b (iK a)) p true,false⟩:Iv)=some (jt s t x y (iW s t y p) p (⟨iS,iM (iG b (iK a)) p true,false⟩:Iv) 4)from(PD 4 0 _ yl)]
  .obtain ⟨N,n1,n2,n3⟩:∃ N,N<4/\¬wN s t x y (iW s t y p) p (⟨iS,iM (iG b (iK a)) p true,false⟩:Iv) N/\∀ i,i<N->wN s t x y (iW s t y p) p (⟨iS,iM (iG b (iK a)) p true,false⟩:Iv) i:=afE yl;have qE:=PD N (4-N) _ n3;rw[(aC:N+(4-N)=(3-N+1)+N)]at qE;rw[(aC:3-N+1+N=4),(aC:4-N=3-N+1)]at qE;rw[qE];unfold wS;cases hB:tE s t x y (iW s t y p) p (jt s t x y (iW s t y p) p (⟨iS,iM (iG b (iK a)) p true,false⟩:Iv) N)with
   |true=>
    rw[bw rfl];have Ml:=hB;unfold tE at Ml;cases hA:rC (k0 s x y (jF (kK (jt s t x y (iW s t y p) p (⟨iS,iM (iG b (iK a)) p true,false⟩:Iv) N) p)) 8 p)with
    |true=>exact alI s t x a b y z p h ht hx hy iB iw ha hb hE tW N n1 n3 hA
    |false=>
     rw[hA,amI]at Ml;exact alJ s t x a b y z p h ht hx hy iB iw ha hb hE tW N n1 n3 hA Ml
   |false=>
    obtain⟨hA,qN⟩:=B5 hB;rw[bu aE];cases hM:sD (jt s t x y (iW s t y p) p (⟨iS,iM (iG b (iK a)) p true,false⟩:Iv) N) (nj s t x y (iW s t y p) p (jt s t x y (iW s t y p) p (⟨iS,iM (iG b (iK a)) p true,false⟩:Iv) N))with
    |true=>exact absurd ⟨hB,hM⟩ n2
    |false=>
     rw[bu aE];exact alK s t x a b y z p h ht hx hy iB iw ha hb hE tW N n1 n3 hA qN hM
 .rw [bu hE];exact alM s t x a b y z p h ht hx hy iB iw ha hb hE
def LD(k dir:Int)(w:Iv)(wh:E):List E:=[iP 0,iP k,iP dir]++iQ w++[wh]
def mu(k dir:Int)(w:Iv)(wh:E):E:=.agg (LD k dir w wh)
def ni:E:=.v (.slice none 0 0)
noncomputable def KL(s:jH)(x y:List Iv)(o:Iv)(p:Nat):Option (List Iv):=if o.all=true then some y else if rC (k0 s x y o 8 p)=true then some y else if Gx y (k0 s x y o 8 p)=true then some (uD y (k0 s x y o 8 p))else none
noncomputable def uL(s:jH)(t:j8)(x:List Iv)(a b:Dy)(y:List Iv)(p:Nat):Option (Iv×List Iv):=match As s t x a b y p with
 |none=>none
 |some o=>match KL s x y o p with
  |none=>none
  |some l=>some (jO (jF a) o p,l)
noncomputable def Dc(s:jH)(t:j8)(x:List Iv)(a b:Dy)(y z:List Iv)(dir:Int)(p:Nat):E:=
 if mR s t x y z dir p=3 then(match uL s t x a b y p with
  |none=>.iE [mu 0 0 lV ni,iP 14]
  |some q=>.iE [mu 3 dir q.1 (iq q.2),iP 0])
 else .iE [mu (mR s t x y z dir p) 0 lV ni,iP 0]
def abV{c k d:Int}{w:E}:tp [iP c,iP k,iP d,bP false,.v (.slice none 0 0),iP 0,bP false,.v (.slice none 0 0),iP 0,bP false,w] ([iP c,iP k,iP d]++iQ lV++[w]):=by
 have e1:E.le (.v (.slice none 0 0)) (iu (im 0)):=by rw[px];exact .nil _ _ _
 exact .cons (.refl _) (.cons (.refl _) (.cons (.refl _) (.cons (.refl _) (.cons e1 (.cons (.refl _) (.cons (.refl _) (.cons e1 (.cons (.refl _) (.cons (.refl _) (.cons (.refl _) .nil))))))))))
def DG{k e:Int}:E.le (.iE [.agg [iP 0,iP k,iP 0,bP false,.v (.slice none 0 0),iP 0,bP false,.v (.slice none 0 0),iP 0,bP false,.v (.slice none 0 0)],iP e]) (.iE [mu k 0 lV ni,iP e]):=
 .iE (.cons (.agg abV) (.cons (.refl _) .nil))
def PM{s:jH}{t:j8}{x:List Iv}{a b:Dy}{y:List Iv}{p:Nat}(h:lM s)(ht:np s t)(hx:jT s.iZ x)(hy:jT s.iZ y)(iB:8<=p)(iw:p<=512)(ha:a.iy)(hb:b.iy)(qD:jE a b<0){o:Iv}(ho:As s t x a b y p=some o):o=ix\/tC o:=by
 unfold As at ho;split at ho
 .rename_i hE;have h0:=Sk iB iw ha hb qD hE;generalize (⟨iS,iM (iG b (iK a)) p true,false⟩:Iv)=u at ho h0;have key:∀ (n:Nat) (u:Iv),tC u->wS s t x y (iW s t y p) p n u=some o->tC o:=by
   intro n
   induction n with
   |zero=>intro u hu h;cases h;exact hu
   |succ n ih=>
    intro u hu h;unfold wS at h;split at h
    .cases h;exact hu
    .rename_i hB;split at h
     .rename_i hM;exact ih _ (Vw hu (Bv s t x y _ _ iB iw (zY hu iB iw).1) (B5 (by simpa using hB)).2 hM) h
     .cases h
  exact .inr (key 4 u h0 ho)
 .cases ho;exact .inl rfl
def ajj(s:jH)(t:j8)(x:List Iv)(a b:Dy)(y z:List Iv)(dir:Int)(p:Nat)(h:lM s)(ht:np s t)(hx:jT s.iZ x)(hy:jT s.iZ y)(hz:jT s.iZ z)(iB:8<=p)(iw:p<=512)(ha:a.iy)(pN:ik 56 [jD s,jJ t] (bP true))(oq:ik 57 [jD s,iq x,.agg (iR a++iR b++[iq y,iq z])] (bP true))(sX:ik 58 [iP dir,iP p] (bP true))(hk:(mR s t x y z dir p)≠3):ik 11 [jD s,jJ t,iq x,.agg (iR a++iR b++[iq y,iq z]),iP dir,iP p] (.iE [mu (mR s t x y z dir p) 0 lV ni,iP 0]):=
 ak call11 func11 (ae [ag [jD s,jJ t] pN,ag [jD s,iq x,.agg (iR a++iR b++[iq y,iq z])] oq,ag [iP dir,iP p] sX,.c (Gn s t x a b y z dir p h ht hx hy hz iB iw),ah 48 ((mR s t x y z dir p) != 3) (by simp[hk])]<|rR (.iE [mu (mR s t x y z dir p) 0 lV ni,iP 0]) (DG:E.le (.iE [.agg [iP 0,iP (mR s t x y z dir p),iP 0,bP false,.v (.slice none 0 0),iP 0,bP false,.v (.slice none 0 0),iP 0,bP false,.v (.slice none 0 0)],iP 0]) (.iE [mu (mR s t x y z dir p) 0 lV ni,iP 0]))) 
def aji(s:jH)(t:j8)(x:List Iv)(a b:Dy)(y z:List Iv)(dir:Int)(p:Nat)(h:lM s)(ht:np s t)(hx:jT s.iZ x)(hy:jT s.iZ y)(hz:jT s.iZ z)(iB:8<=p)(iw:p<=512)(ha:a.iy)(pN:ik 56 [jD s,jJ t] (bP true))(oq:ik 57 [jD s,iq x,.agg (iR a++iR b++[iq y,iq z])] (bP true))(sX:ik 58 [iP dir,iP p] (bP true))(hk:(mR s t x y z dir p)=3)(hW:ik 60 [jD s,jJ t,iq x,.agg (iR a++iR b++[iq y,iq z]),iP p] (rS none)):ik 11 [jD s,jJ t,iq x,.agg (iR a++iR b++[iq y,iq z]),iP dir,iP p] (.iE [mu 0 0 lV ni,iP 14]):=
 ak call11 func11 (ae [ag [jD s,jJ t] pN,ag [jD s,iq x,.agg (iR a++iR b++[iq y,iq z])] oq,ag [iP dir,iP p] sX,.c (Gn s t x a b y z dir p h ht hx hy hz iB iw),ai 48 ((mR s t x y z dir p) != 3) (by simp[hk]),ag [jD s,jJ t,iq x,.agg (iR a++iR b++[iq y,iq z]),iP p] hW]<|rR (.iE [mu 0 0 lV ni,iP 14]) (DG:E.le (.iE [.agg [iP 0,iP 0,iP 0,bP false,.v (.slice none 0 0),iP 0,bP false,.v (.slice none 0 0),iP 0,bP false,.v (.slice none 0 0)],iP 14]) (.iE [mu 0 0 lV ni,iP 14]))) 
def Xi(s:jH)(t:j8)(x:List Iv)(a b:Dy)(y z:List Iv)(dir:Int)(p:Nat)(h:lM s)(ht:np s t)(hx:jT s.iZ x)(hy:jT s.iZ y)(hz:jT s.iZ z)(iB:8<=p)(iw:p<=512)(ha:a.iy)(pN:ik 56 [jD s,jJ t] (bP true))(oq:ik 57 [jD s,iq x,.agg (iR a++iR b++[iq y,iq z])] (bP true))(sX:ik 58 [iP dir,iP p] (bP true))(hk:(mR s t x y z dir p)=3)(o:Iv)(ho:o.iy)(hW:ik 60 [jD s,jJ t,iq x,.agg (iR a++iR b++[iq y,iq z]),iP p] (rS (some o)))(e:Int)(he:e≠0)(hA:ik 64 [jD s,iq x,iq y,iz o,iP 8,iP p] (.iE [.v (.slice none 0 0),iP e])):ik 11 [jD s,jJ t,iq x,.agg (iR a++iR b++[iq y,iq z]),iP dir,iP p] (.iE [mu 3 dir (jO (jF a) o p) (iq y),iP 0]):=by
 have s1:=h.s1;have s4:=h.s4;have ly:=hy.len;exact ak call11 func11 (ae [ag [jD s,jJ t] pN,ag [jD s,iq x,.agg (iR a++iR b++[iq y,iq z])] oq,ag [iP dir,iP p] sX,.c (Gn s t x a b y z dir p h ht hx hy hz iB iw),ai 48 ((mR s t x y z dir p) != 3) (by simp[hk]),ag [jD s,jJ t,iq x,.agg (iR a++iR b++[iq y,iq z]),iP p] hW,.c (rZ a ha),.c (wG (jF a) o p (qV ha) ho aC aC),ag [iq y] (Lv _ aC aC),ag [jD s,iq x,iq y,iz o,iP 8,iP p] hA,ai 86 (e==0) (by simp[he])]<|rQ (.iE [.agg ([iP 0,iP (mR s t x y z dir p),iP dir]++iQ (jO (jF a) o p)++[iq y]),iP 0]) (.iE [mu 3 dir (jO (jF a) o p) (iq y),iP 0]) (by unfold mu LD;rw[hk])) 
def ajk(s:jH)(t:j8)(x:List Iv)(a b:Dy)(y z:List Iv)(dir:Int)(p:Nat)(h:lM s)(ht:np s t)(hx:jT s.iZ x)(hy:jT s.iZ y)(hz:jT s.iZ z)(iB:8<=p)(iw:p<=512)(ha:a.iy)(pN:ik 56 [jD s,jJ t] (bP true))(oq:ik 57 [jD s,iq x,.agg (iR a++iR b++[iq y,iq z])] (bP true))(sX:ik 58 [iP dir,iP p] (bP true))(hk:(mR s t x y z dir p)=3)(o:Iv)(ho:o.iy)(hW:ik 60 [jD s,jJ t,iq x,.agg (iR a++iR b++[iq y,iq z]),iP p] (rS (some o)))(hA:ik 64 [jD s,iq x,iq y,iz o,iP 8,iP p] (.iE [iq (k0 s x y o 8 p),iP 0]))(hM:ik 65 [iq y,iq (k0 s x y o 8 p)] (.iE [iq (uD y (k0 s x y o 8 p)),bP true])):ik 11 [jD s,jJ t,iq x,.agg (iR a++iR b++[iq y,iq z]),iP dir,iP p] (.iE [mu 3 dir (jO (jF a) o p) (iq (uD y (k0 s x y o 8 p))),iP 0]):=by
 have s1:=h.s1;have s4:=h.s4;have ly:=hy.len;exact ak call11 func11 (ae [ag [jD s,jJ t] pN,ag [jD s,iq x,.agg (iR a++iR b++[iq y,iq z])] oq,ag [iP dir,iP p] sX,.c (Gn s t x a b y z dir p h ht hx hy hz iB iw),ai 48 ((mR s t x y z dir p) != 3) (by simp[hk]),ag [jD s,jJ t,iq x,.agg (iR a++iR b++[iq y,iq z]),iP p] hW,.c (rZ a ha),.c (wG (jF a) o p (qV ha) ho aC aC),ag [iq y] (Lv _ aC aC),ag [jD s,iq x,iq y,iz o,iP 8,iP p] hA,ah 86 ((0:Int)==0) aE,ag [iq y,iq (k0 s x y o 8 p)] hM]<|rQ (.iE [.agg ([iP 0,iP (mR s t x y z dir p),iP dir]++iQ (jO (jF a) o p)++[iq (uD y (k0 s x y o 8 p))]),iP 0]) (.iE [mu 3 dir (jO (jF a) o p) (iq (uD y (k0 s x y o 8 p))),iP 0]) (by unfold mu LD;rw[hk])) 
def ajh(s:jH)(t:j8)(x:List Iv)(a b:Dy)(y z:List Iv)(dir:Int)(p:Nat)(h:lM s)(ht:np s t)(hx:jT s.iZ x)(hy:jT s.iZ y)(hz:jT s.iZ z)(iB:8<=p)(iw:p<=512)(ha:a.iy)(pN:ik 56 [jD s,jJ t] (bP true))(oq:ik 57 [jD s,iq x,.agg (iR a++iR b++[iq y,iq z])] (bP true))(sX:ik 58 [iP dir,iP p] (bP true))(hk:(mR s t x y z dir p)=3)(o:Iv)(ho:o.iy)(hW:ik 60 [jD s,jJ t,iq x,.agg (iR a++iR b++[iq y,iq z]),iP p] (rS (some o)))(hA:ik 64 [jD s,iq x,iq y,iz o,iP 8,iP p] (.iE [iq (k0 s x y o 8 p),iP 0]))(hM:ik 65 [iq y,iq (k0 s x y o 8 p)] (.iE [.v (.slice none 0 0),bP false])):ik 11 [jD s,jJ t,iq x,.agg (iR a++iR b++[iq y,iq z]),iP dir,iP p] (.iE [mu 0 0 lV ni,iP 14]):=by
 have s1:=h.s1;have s4:=h.s4;have ly:=hy.len;exact ak call11 func11 (ae [ag [jD s,jJ t] pN,ag [jD s,iq x,.agg (iR a++iR b++[iq y,iq z])] oq,ag [iP dir,iP p] sX,.c (Gn s t x a b y z dir p h ht hx hy hz iB iw),ai 48 ((mR s t x y z dir p) != 3) (by simp[hk]),ag [jD s,jJ t,iq x,.agg (iR a++iR b++[iq y,iq z]),iP p] hW,.c (rZ a ha),.c (wG (jF a) o p (qV ha) ho aC aC),ag [iq y] (Lv _ aC aC),ag [jD s,iq x,iq y,iz o,iP 8,iP p] hA,ah 86 ((0:Int)==0) aE,ag [iq y,iq (k0 s x y o 8 p)] hM]<|rR (.iE [mu 0 0 lV ni,iP 14]) (DG:E.le (.iE [.agg [iP 0,iP 0,iP 0,bP false,.v (.slice none 0 0),iP 0,bP false,.v (.slice none 0 0),iP 0,bP false,.v (.slice none 0 0)],iP 14]) (.iE [mu 0 0 lV ni,iP 14]))) 
def akM(t:Iv)(ta:t.all=true):ik 147 [iz t] (bP false):=
 ak call147 func147 (af [ah 4 t.all ta]) 
def ZB(s:jH)(x y:List Iv)(t:Iv)(p:Nat)(h:lM s)(hx:jT s.iZ x)(hy:jT s.iZ y)(ta:t.all=true)(iB:8<=p)(iw:p<=512):ik 64 [jD s,iq x,iq y,iz t,iP 8,iP p] (.iE [.v (.slice none 0 0),iP 2]):=by
 have s1:=h.s1;have s4:=h.s4;have lx:=hx.len;have ly:=hy.len;exact ak call64 func64 (af [.o 23 (.e (CS _ _):aj (.sl true 2 1 λi_ j_=>[iq x,iq y].getD (i_*1+j_) (.v (.bool false))) (lv [x,y])),.c (Lf s x h aD y aD),ag [iP p] (OE _ aC aC),ag [iP 8] (Ox 8 aE aE),.c (akM t ta)]) 
def ajn(s:jH)(t:j8)(x:List Iv)(a b:Dy)(y z:List Iv)(dir:Int)(p:Nat)(h:lM s)(ht:np s t)(hx:jT s.iZ x)(hy:jT s.iZ y)(hz:jT s.iZ z)(iB:8<=p)(iw:p<=512)(ha:a.iy)(pN:ik 56 [jD s,jJ t] (bP true))(oq:ik 57 [jD s,iq x,.agg (iR a++iR b++[iq y,iq z])] (bP true))(sX:ik 58 [iP dir,iP p] (bP true))(hb:b.iy)(qD:jE a b<0):ik 11 [jD s,jJ t,iq x,.agg (iR a++iR b++[iq y,iq z]),iP dir,iP p] (Dc s t x a b y z dir p):=by
 unfold Dc;by_cases hk:(mR s t x y z dir p)=3
 .rw [bw hk];have hW:=alN s t x a b y z p h ht hx hy iB iw ha hb qD;have mv:=@PM s t x a b y p h ht hx hy iB iw ha hb qD;unfold uL;cases hw:As s t x a b y p with
  |none=>
   rw[hw]at hW;exact aji s t x a b y z dir p h ht hx hy hz iB iw ha pN oq sX hk hW
  |some o=>
   rw[hw]at hW;have s1:=h.s1;have s4:=h.s4;have ly:=hy.len;show ik _ _ (match(match KL s x y o p with|none=>none|some l=>some (jO (jF a) o p,l))with|none=>_|some q=>_);unfold KL;rcases mv hw with rfl|ho
   .rw [bw (show ix.all=true from rfl)];exact Xi s t x a b y z dir p h ht hx hy hz iB iw ha pN oq sX hk ix mc hW 2 aE (ZB s x y ix p h hx hy rfl iB iw)
   .rw [bu (by rw[ho.all];decide)];cases hA:rC (k0 s x y o 8 p)with
    |true=>
     rw[bw rfl];exact Xi s t x a b y z dir p h ht hx hy hz iB iw ha pN oq sX hk o ho.val hW 11 aE (Qv s x y o 8 p h hx hy ho.val ho.all ho.lo aE aE iB iw hA)
    |false=>
     have jj:=y7 (k:=8) h hx hy aE iB iw hA;have hP:=B3 s x y o 8 p h hx hy ho.val ho.all ho.lo aE aE iB iw hA;have sc:=aaB y (k0 s x y o 8 p) aC aC (by rw[jj.len,ly]) hy.ok jj.ok;rw[bu aE];unfold NX at sc;cases hM:Gx y (k0 s x y o 8 p)with
     |true=>
      rw[hM,bw rfl]at sc;rw[bw rfl];exact ajk s t x a b y z dir p h ht hx hy hz iB iw ha pN oq sX hk o ho.val hW hP sc
     |false=>
      rw[hM,bu aE]at sc;rw[bu aE];exact ajh s t x a b y z dir p h ht hx hy hz iB iw ha pN oq sX hk o ho.val hW hP sc
 .rw [bu hk];exact ajj s t x a b y z dir p h ht hx hy hz iB iw ha pN oq sX hk
def ai4{P:Program}(w:World)(t ty e:TypeId)(i:TypeInfo)(ht:P.underlying t=some (.slice e))(hi:P.info? e=some i)(b ad:Addr)(c:Nat):
 (Builtin.append_ #[t,t] ty #[.slice (some b) 0 0,.slice (some ad) 0 c]).run P w = .ok (.slice (some b) 0 0) w:=by
 simp[Builtin.append_,run_underlying ht,sizeOf,typeInfo,hi,Builtin.lenOf,Builtin.firstCells,loadCells,loadCellsFrom,storeCells]
def alP{P:Program}{w:World}{il:Array Oper}{rest:List Oper}{o:Oper}{a:Act}{Q:Exit->Act->World->Prop}(pN:o.guard=none)(s x:Operand)(t:TypeId)
 (ho:o.op = .call { callee:=.builtin .append,args:=#[s,x],argTypes:=#[t,t] })
 (e:TypeId) (i:TypeInfo) (ht:P.underlying t=some (.slice e)) (hi:P.info? e=some i) (b ad:Addr) (c:Nat) (hs:a.eval s = .slice (some b) 0 0) (No:a.eval x = .slice (some ad) 0 c)
 (h:wpList P il Q rest (a.put o.dst (.slice (some b) 0 0)) w):wpList P il Q (o::rest) a w:=by
 refine wpList_plain pN λK hK=>?_
 have kP:=ai4 (P:=P) w t o.type e i ht hi b ad c;unfold Oper.wp;simp[execOp,ho,resolve,invoke,builtin,hs,No,kP,Result.andThen];exact hK _ _ h
def Zr(w:World)(o:Obj):Below w.heap.size w (w.alloc o):=⟨rfl,rfl,rfl,by rw[show(w.alloc o).heap=w.heap.push o from rfl,amR];omega,λx hx=>Below.heap_alloc w _ x hx⟩
def aeT:(prog.info? 107).map (λi=>(i.size,i.bytes))=some (6,48):= aF 
set_option maxRecDepth 100000 in
def abF(el el':Nat->Nat->E):tv 55 [.sl true 0 6 el] true 107 0 6 el':=by
 refine⟨call55,λw B vs hK hB hr=>?_⟩;obtain⟨v1,vs,rfl,h1,hr⟩:=hr.nE;obtain rfl:=hr.r6;cases h1 with
 |sl _ _ _ _ A c f hc hm h0 hl D6 cell k=>
 show Calls _ _ #[.slice A 0 c] w _;rcases A with _|ad
 .have oO:=h0 rfl;subst oO;have q:=λ(w:World) (n' c':Nat)=>Lib.run_eql_slice_nil (P:=prog) w 22 _ none 0 0 n' c' underlying22
  simp only[Option.isNone_none]at q;go_enter func55,ntmps55;go_wp2;go_ret;exact⟨_,rfl,Below.refl _ _,⟨λ_ _=>undef,.inl ⟨rfl,rfl⟩⟩,λx hx=>by simp[Value.ownBlock]at hx⟩
 .have q:=λ(w:World) (n' c':Nat)=>Lib.run_eql_slice_nil (P:=prog) w 22 _ (some ad) 0 c n' c' underlying22
  simp only[Option.isNone_some]at q;obtain⟨i,hi,-⟩:∃ i,prog.info? 107=some i/\True:=by
   have:=aeT;cases h:prog.info? 107 with
   |none=>rw[h]at this;cases this
   |some i=>exact⟨i,rfl,trivial⟩
  go_enter func55,ntmps55;go_wp2_with (at_builtin;go_must (refine alP aG _ _ _ aG _ i underlying22 hi _ ad c aG aG ?_))
  go_ret;refine⟨_,rfl,?_,⟨λ_ _=>undef,.inr ⟨w.heap.size,0,_,rfl,heap_alloc_new w _,cz _,cz _,rfl,λi j hi=>absurd hi (bF _),λ_ u hu=>by simp at hu⟩⟩,λx hx=>?_⟩
  .exact Zr w _
  .simp [Value.ownBlock]at hx;subst hx;exact⟨bD _,by rw[show(w.alloc _).heap=w.heap.push _ from rfl,amR];omega⟩
def nn(t:kg):E:=.agg [iP t.iC,lK t.il,mL t.iF]
def qW(t:kg):Bool:=decide (0<=t.iC/\t.iC<=8/\t.il.length<=200/\t.iF.length<=200)&&Kf t&&ud t
def W4(s:kg)(N:Nat)(x:Nat):PS:=⟨46,true,[(28,.e (iP x)),(27,.e (iP s.il.length)),(26,.e (lK s.il)),(1,.box 1 0)],[(1,.cells 25 [iP s.iC,lK s.il,mL s.iF])]⟩
def W5(s:kg)(x:Nat):PS:=⟨46,true,[(28,.e (iP x)),(27,.e (iP s.il.length)),(26,.e (lK s.il)),(1,.box 1 0)],[(1,.cells 25 [iP s.iC,lK s.il,mL s.iF])]⟩
def nO(k:Int):Int:=if k=1 then 0 else if 3<=k/\k<=6 then 2 else if 7<=k/\k<=13 then 1 else -1
def vD{a b:Int}(h:a=b):iP a=iP b:=h▸rfl
def JT(k:Int):ik 152 [iP k] (iP (nO k)):=
 ak call152 func152 (.w (k=1)
  (λk1=>ae [tB 5 (bj k1)]<|rQ (iP 0) (iP (nO k)) (vD aS))
  (λk1=>ae [tB 5 (bh k1)]<|.w (k=3)
   (λk2=>ae [tB 7 (bj k2)]<|rQ (iP 2) (iP (nO k)) (vD aS))
   (λk2=>ae [tB 7 (bh k2)]<|.w (k=4)
    (λk3=>ae [tB 8 (bj k3)]<|rQ (iP 2) (iP (nO k)) (vD aS))
    (λk3=>ae [tB 8 (bh k3)]<|.w (k=5)
     (λk4=>ae [tB 9 (bj k4)]<|rQ (iP 2) (iP (nO k)) (vD aS))
     (λk4=>ae [tB 9 (bh k4)]<|.w (k=6)
      (λk5=>ae [tB 10 (bj k5)]<|rQ (iP 2) (iP (nO k)) (vD aS))
      (λk5=>ae [tB 10 (bh k5)]<|.w (k=7)
       (λk6=>ae [tB 12 (bj k6)]<|rQ (iP 1) (iP (nO k)) (vD aS))
       (λk6=>ae [tB 12 (bh k6)]<|.w (k=8)
        (λk7=>ae [tB 13 (bj k7)]<|rQ (iP 1) (iP (nO k)) (vD aS))
        (λk7=>ae [tB 13 (bh k7)]<|.w (k=9)
         (λk8=>ae [tB 14 (bj k8)]<|rQ (iP 1) (iP (nO k)) (vD aS))
         (λk8=>ae [tB 14 (bh k8)]<|.w (k=10)
          (λk9=>ae [tB 15 (bj k9)]<|rQ (iP 1) (iP (nO k)) (vD aS))
          (λk9=>ae [tB 15 (bh k9)]<|.w (k=11)
           (λk10=>ae [tB 16 (bj k10)]<|rQ (iP 1) (iP (nO k)) (vD aS))
           (λk10=>ae [tB 16 (bh k10)]<|.w (k=12)
            (λk11=>ae [tB 17 (bj k11)]<|rQ (iP 1) (iP (nO k)) (vD aS))
            (λk11=>ae [tB 17 (bh k11)]<|.w (k=13)
             (λk12=>ae [tB 18 (bj k12)]<|rQ (iP 1) (iP (nO k)) (vD aS))
             (λk12=>ae [tB 18 (bh k12)]<|rQ (iP (-1)) (iP (nO k)) (vD aS)))))))))))))) 
def ahp(o:kY)(h:o.kind=1):ik 152 [iP o.kind] (iP 0):=by
 have:=JT o.kind;rwa[show nO o.kind=0 by unfold nO;(repeat' split)<;>omega]at this
def ahn(o:kY)(h:3<=o.kind/\o.kind<=6):ik 152 [iP o.kind] (iP 2):=by
 have:=JT o.kind;rwa[show nO o.kind=2 by unfold nO;(repeat' split)<;>omega]at this
def ahq(o:kY)(h:7<=o.kind/\o.kind<=13):ik 152 [iP o.kind] (iP 1):=by
 have:=JT o.kind;rwa[show nO o.kind=1 by unfold nO;(repeat' split)<;>omega]at this
def aho(o:kY)(h:o.kind≠1/\¬(3<=o.kind/\o.kind<=6)/\¬(7<=o.kind/\o.kind<=13)):ik 152 [iP o.kind] (iP (-1)):=by
 have:=JT o.kind;rwa[show nO o.kind = -1 by unfold nO;(repeat' split)<;>omega]at this
def ahK(o:kY)(m:Int)(g:o.jB)(h:o.kind=1):ik 66 [Ak o,iP m] (bP (jN o m)):=
 ak call66 func66 (ae [ag [iP o.kind] (ahp o h),ai 14 (decide ((0:Int)<0)) aE,ah 17 ((0:Int)==0) aE,.c (GW o.cn o.cd)]<|.w (pU o.cn o.cd=true)
  (λk1=>ae [tB 20 k1]<|.w (o.kind=8)
   (λk2=>ae [tB 26 (bj k2)]<|.w (o.n<0)
    (λk3=>ae [tB 29 (bA k3)]<|rQ (bP false) (bP (jN o m)) (kz aO))
    (λk3=>ae [tB 29 (bB k3)]<|.w (16<o.n)
     (λk4=>ae [tB 33 (bA k4)]<|rQ (bP false) (bP (jN o m)) (kz aO))
     (λk4=>ae [tB 33 (bB k4),ai 37 (decide ((0:Int)<0)) aE,ai 49 (decide ((1:Int)<0)) aE,.g (Er kJ g.a g.b kJ kJ kJ kJ kJ kJ kJ kJ kJ:nY prog .eql 107 (.agg [iP 0,iP o.a,iP o.b,iP 0,iP 0,iP 0]) (.agg [iP 0,iP 0,iP 0,iP 0,iP 0,iP 0]) (.bool (decide ((0:Int)=0/\(o.a:Int)=0/\(o.b:Int)=0/\(0:Int)=0/\(0:Int)=0/\(0:Int)=0))))]<|rQ (bP (decide ((0:Int)=0/\(o.a:Int)=0/\(o.b:Int)=0/\(0:Int)=0/\(0:Int)=0/\(0:Int)=0))) (bP (jN o m)) (kz aO))))
   (λk2=>ae [tB 26 (bh k2),ai 37 (decide ((0:Int)<0)) aE,ai 49 (decide ((1:Int)<0)) aE,.g (Er kJ g.a g.b g.n kJ kJ kJ kJ kJ kJ kJ kJ:nY prog .eql 107 (.agg [iP 0,iP o.a,iP o.b,iP o.n,iP 0,iP 0]) (.agg [iP 0,iP 0,iP 0,iP 0,iP 0,iP 0]) (.bool (decide ((0:Int)=0/\(o.a:Int)=0/\(o.b:Int)=0/\(o.n:Int)=0/\(0:Int)=0/\(0:Int)=0))))]<|rQ (bP (decide ((0:Int)=0/\(o.a:Int)=0/\(o.b:Int)=0/\(o.n:Int)=0/\(0:Int)=0/\(0:Int)=0))) (bP (jN o m)) (kz aO)))
  (λk1=>ae [tB 20 (bk k1)]<|rQ (bP false) (bP (jN o m)) (kz aO))) 
def ahI(o:kY)(m:Int)(g:o.jB)(h:3<=o.kind/\o.kind<=6):ik 66 [Ak o,iP m] (bP (jN o m)):=
 ak call66 func66 (ae [ag [iP o.kind] (ahn o h),ai 14 (decide ((2:Int)<0)) aE,ai 17 ((2:Int)==0) aE]<|.w (o.kind=8)
  (λk1=>ae [tB 26 (bj k1)]<|.w (o.n<0)
   (λk2=>ae [tB 29 (bA k2)]<|rQ (bP false) (bP (jN o m)) (kz aO))
   (λk2=>ae [tB 29 (bB k2)]<|.w (16<o.n)
    (λk3=>ae [tB 33 (bA k3)]<|rQ (bP false) (bP (jN o m)) (kz aO))
    (λk3=>ae [tB 33 (bB k3),ah 37 (decide ((0:Int)<2)) aE]<|.w (o.a<0)
     (λk4=>ae [tB 40 (bA k4)]<|rQ (bP false) (bP (jN o m)) (kz aO))
     (λk4=>ae [tB 40 (bB k4)]<|.w (m<=o.a)
      (λk5=>ae [tB 45 (bA k5)]<|rQ (bP false) (bP (jN o m)) (kz aO))
      (λk5=>ae [tB 45 (bB k5),ah 49 (decide ((1:Int)<2)) aE]<|.w (o.b<0)
       (λk6=>ae [tB 52 (bA k6)]<|rQ (bP false) (bP (jN o m)) (kz aO))
       (λk6=>ae [tB 52 (bB k6)]<|.w (m<=o.b)
        (λk7=>ae [tB 57 (bA k7)]<|rQ (bP false) (bP (jN o m)) (kz aO))
        (λk7=>ae [tB 57 (bB k7),.g (Er kJ kJ kJ kJ g.cn g.cd kJ kJ kJ kJ kJ kJ:nY prog .eql 107 (.agg [iP 0,iP 0,iP 0,iP 0,iP o.cn,iP o.cd]) (.agg [iP 0,iP 0,iP 0,iP 0,iP 0,iP 0]) (.bool (decide ((0:Int)=0/\(0:Int)=0/\(0:Int)=0/\(0:Int)=0/\(o.cn:Int)=0/\(o.cd:Int)=0))))]<|rQ (bP (decide ((0:Int)=0/\(0:Int)=0/\(0:Int)=0/\(0:Int)=0/\(o.cn:Int)=0/\(o.cd:Int)=0))) (bP (jN o m)) (kz aO))))))))
  (λk1=>ae [tB 26 (bh k1),ah 37 (decide ((0:Int)<2)) aE]<|.w (o.a<0)
   (λk2=>ae [tB 40 (bA k2)]<|rQ (bP false) (bP (jN o m)) (kz aO))
   (λk2=>ae [tB 40 (bB k2)]<|.w (m<=o.a)
    (λk3=>ae [tB 45 (bA k3)]<|rQ (bP false) (bP (jN o m)) (kz aO))
    (λk3=>ae [tB 45 (bB k3),ah 49 (decide ((1:Int)<2)) aE]<|.w (o.b<0)
     (λk4=>ae [tB 52 (bA k4)]<|rQ (bP false) (bP (jN o m)) (kz aO))
     (λk4=>ae [tB 52 (bB k4)]<|.w (m<=o.b)
      (λk5=>ae [tB 57 (bA k5)]<|rQ (bP false) (bP (jN o m)) (kz aO))
      (λk5=>ae [tB 57 (bB k5),.g (Er kJ kJ kJ g.n g.cn g.cd kJ kJ kJ kJ kJ kJ:nY prog .eql 107 (.agg [iP 0,iP 0,iP 0,iP o.n,iP o.cn,iP o.cd]) (.agg [iP 0,iP 0,iP 0,iP 0,iP 0,iP 0]) (.bool (decide ((0:Int)=0/\(0:Int)=0/\(0:Int)=0/\(o.n:Int)=0/\(o.cn:Int)=0/\(o.cd:Int)=0))))]<|rQ (bP (decide ((0:Int)=0/\(0:Int)=0/\(0:Int)=0/\(o.n:Int)=0/\(o.cn:Int)=0/\(o.cd:Int)=0))) (bP (jN o m)) (kz aO))))))) 
def ahL(o:kY)(m:Int)(g:o.jB)(h:7<=o.kind/\o.kind<=13):ik 66 [Ak o,iP m] (bP (jN o m)):=
 ak call66 func66 (ae [ag [iP o.kind] (ahq o h),ai 14 (decide ((1:Int)<0)) aE,ai 17 ((1:Int)==0) aE]<|.w (o.kind=8)
  (λk1=>ae [tB 26 (bj k1)]<|.w (o.n<0)
   (λk2=>ae [tB 29 (bA k2)]<|rQ (bP false) (bP (jN o m)) (kz aO))
   (λk2=>ae [tB 29 (bB k2)]<|.w (16<o.n)
    (λk3=>ae [tB 33 (bA k3)]<|rQ (bP false) (bP (jN o m)) (kz aO))
    (λk3=>ae [tB 33 (bB k3),ah 37 (decide ((0:Int)<1)) aE]<|.w (o.a<0)
     (λk4=>ae [tB 40 (bA k4)]<|rQ (bP false) (bP (jN o m)) (kz aO))
     (λk4=>ae [tB 40 (bB k4)]<|.w (m<=o.a)
      (λk5=>ae [tB 45 (bA k5)]<|rQ (bP false) (bP (jN o m)) (kz aO))
      (λk5=>ae [tB 45 (bB k5),ai 49 (decide ((1:Int)<1)) aE,.g (Er kJ kJ g.b kJ g.cn g.cd kJ kJ kJ kJ kJ kJ:nY prog .eql 107 (.agg [iP 0,iP 0,iP o.b,iP 0,iP o.cn,iP o.cd]) (.agg [iP 0,iP 0,iP 0,iP 0,iP 0,iP 0]) (.bool (decide ((0:Int)=0/\(0:Int)=0/\(o.b:Int)=0/\(0:Int)=0/\(o.cn:Int)=0/\(o.cd:Int)=0))))]<|rQ (bP (decide ((0:Int)=0/\(0:Int)=0/\(o.b:Int)=0/\(0:Int)=0/\(o.cn:Int)=0/\(o.cd:Int)=0))) (bP (jN o m)) (kz aO))))))
  (λk1=>ae [tB 26 (bh k1),ah 37 (decide ((0:Int)<1)) aE]<|.w (o.a<0)
   (λk2=>ae [tB 40 (bA k2)]<|rQ (bP false) (bP (jN o m)) (kz aO))
   (λk2=>ae [tB 40 (bB k2)]<|.w (m<=o.a)
    (λk3=>ae [tB 45 (bA k3)]<|rQ (bP false) (bP (jN o m)) (kz aO))
    (λk3=>ae [tB 45 (bB k3),ai 49 (decide ((1:Int)<1)) aE,.g (Er kJ kJ g.b g.n g.cn g.cd kJ kJ kJ kJ kJ kJ:nY prog .eql 107 (.agg [iP 0,iP 0,iP o.b,iP o.n,iP o.cn,iP o.cd]) (.agg [iP 0,iP 0,iP 0,iP 0,iP 0,iP 0]) (.bool (decide ((0:Int)=0/\(0:Int)=0/\(o.b:Int)=0/\(o.n:Int)=0/\(o.cn:Int)=0/\(o.cd:Int)=0))))]<|rQ (bP (decide ((0:Int)=0/\(0:Int)=0/\(o.b:Int)=0/\(o.n:Int)=0/\(o.cn:Int)=0/\(o.cd:Int)=0))) (bP (jN o m)) (kz aO))))) 
def ahJ(o:kY)(m:Int)(g:o.jB)(h:o.kind≠1/\¬(3<=o.kind/\o.kind<=6)/\¬(7<=o.kind/\o.kind<=13)):ik 66 [Ak o,iP m] (bP (jN o m)):=
 ak call66 func66 (ae [ag [iP o.kind] (aho o h),ah 14 (decide (((-1):Int)<0)) aE]<|rQ (bP false) (bP (jN o m)) (kz aO)) 
def OG(o:kY)(m:Int)(g:o.jB):ik 66 [Ak o,iP m] (bP (jN o m)):=by
 by_cases h0:o.kind=1
 .exact ahK o m g h0
 by_cases h2:3<=o.kind/\o.kind<=6
 .exact ahI o m g h2
 by_cases h1:7<=o.kind/\o.kind<=13
 .exact ahL o m g h1
 .exact ahJ o m g ⟨h0,h2,h1⟩
def akB(s:kg)(g:s.jB)(k:Int)(h0:0<=s.iC)(h8:s.iC<=8)(l2:s.il.length<=200):ik 68 [iP k,(.jC 3 λj_=>[iP s.iC,lK s.il,mL s.iF].getD j_ .any)] (bP (!uc s k)):=
 ak call68 func68 (.w (k<0)
  (λk1=>ae [tB 5 (bA k1)]<|rQ (bP true) (bP (!uc s k)) (kz aX))
  (λk1=>ae [tB 5 (bB k1),iL (s.iC+(s.il.length:Int)) aC]<|rQ (bP (decide ((s.iC+(s.il.length:Int))<=k))) (bP (!uc s k)) (kz aX))) 
def akA(s:kg)(h0:0<=s.iC)(h8:s.iC<=8)(l2:s.il.length<=200)(lu:s.iF.length<=200)(g:s.jB):ik 67 [mL s.iF,.fn 68 [(.jC 3 λj_=>[iP s.iC,lK s.il,mL s.iF].getD j_ .any)]] (bP (!ud s)):=by
 have:=Ui true s.iF.length (λi _=>iP (s.iF.getD i 0)) 68 [(.jC 3 λj_=>[iP s.iC,lK s.il,mL s.iF].getD j_ .any)] (λi=>!uc s (s.iF.getD i 0)) (λi _=>akB s g _ h0 h8 l2) (aC:s.iF.length<=1000000);rwa[K8]at this
def akG(s:kg)(g:s.jB)(sm:s.il.length<=1000)(hc:¬(0<=s.iC/\s.iC<=8/\s.il.length<=200/\s.iF.length<=200)):ik 12 [nn s] (bP false):=
 ak call12 func12 (.w (s.iC<0)
  (λk1=>af [tB 7 (bA k1)])
  (λk1=>ae [tB 7 (bB k1)]<|.w (8<s.iC)
   (λk2=>af [tB 11 (bA k2)])
   (λk2=>ae [tB 11 (bB k2)]<|.w (200<(s.il.length:Int))
    (λk3=>af [tB 17 (bA k3)])
    (λk3=>ae [tB 17 (bB k3)]<|.w (200<(s.iF.length:Int))
     (λk4=>af [tB 23 (bA k4)])
     (λk4=>.x aC))))) 
def akH(s:kg)(g:s.jB)(sm:s.il.length<=1000)(i0:0<=s.iC)(i8:s.iC<=8)(l1:s.il.length<=200)(l2:s.iF.length<=200)(N:Nat)(q8:N<s.il.length)(jZ:∀ k,k<N->(jN (s.il.getD k lE) (s.iC+(k:Int)))=true)(hN:(jN (s.il.getD N lE) (s.iC+(N:Int)))=false):ik 12 [nn s] (bP false):=
 ak call12 func12 (af [tF 7 (s.iC<0) aC,tF 11 (8<s.iC) aC,tF 17 (200<(s.il.length:Int)) aC,tF 23 (200<(s.iF.length:Int)) aC,.s (Sp.kE (W4 s N) 0 N aC (λx hx nd=>by
    have qE:=g.il x;exact jh (af [tT 29 ((x:Int)<s.il.length) aC,iX (x:Int) (s.il.length) aC,iL (s.iC+(x:Int)) aC,ag [Ak (s.il.getD x lE),iP (s.iC+(x:Int))] (OG _ _ qE),ai 39 (!(jN (s.il.getD x lE) (s.iC+(x:Int)))) (by rw[jZ x aC];rfl),
     iL ((x:Int)+1) aC]) aF)
  (λhx=>by
    have qE:=g.il N;exact jh (af [tT 29 ((N:Int)<s.il.length) aC,iX (N:Int) (s.il.length) aC,iL (s.iC+(N:Int)) aC,ag [Ak (s.il.getD N lE),iP (s.iC+(N:Int))] (OG _ _ qE),ah 39 (!(jN (s.il.getD N lE) (s.iC+(N:Int)))) (by rw[hN];rfl)]) aF) aI:kD 4 Tryz.f12 (W4 s N 0) .ret ⟨46,true,[(2,.e (bP false))],[]⟩) .nil]) 
def akI(s:kg)(g:s.jB)(sm:s.il.length<=1000)(i0:0<=s.iC)(i8:s.iC<=8)(l1:s.il.length<=200)(l2:s.iF.length<=200)(jZ:∀ k,k<s.il.length->(jN (s.il.getD k lE) (s.iC+(k:Int)))=true):ik 12 [nn s] (bP (ud s)):=
 ak call12 func12 (ae [tF 7 (s.iC<0) aC,tF 11 (8<s.iC) aC,tF 17 (200<(s.il.length:Int)) aC,tF 23 (200<(s.iF.length:Int)) aC,.s (Sp.kE (W5 s) 0 s.il.length aC (λx hx nd=>by
    have qE:=g.il x;exact jh (af [tT 29 ((x:Int)<s.il.length) aC,iX (x:Int) (s.il.length) aC,iL (s.iC+(x:Int)) aC,ag [Ak (s.il.getD x lE),iP (s.iC+(x:Int))] (OG _ _ qE),ai 39 (!(jN (s.il.getD x lE) (s.iC+(x:Int)))) (by rw[jZ x aC];rfl),
     iL ((x:Int)+1) aC]) aF)
  (λhx=>by
    exact jh (af [tF 29 ((s.il.length:Int)<s.il.length) aC]) aF) aI:kD 4 Tryz.f12 (W5 s 0) (.exit 0) ⟨46,true,[(1,.box 1 0)],[(1,.cells 25 [iP s.iC,lK s.il,mL s.iF])]⟩) .nil,ag [mL s.iF,.fn 68 [(.jC 3 λj_=>[iP s.iC,lK s.il,mL s.iF].getD j_ .any)]] (akA s aC aC aC aC g)]<|rQ (bP (!(!(ud s)))) (bP (ud s)) (kz aH)) 
def Kw(s:kg)(g:s.jB)(sm:s.il.length<=1000):ik 12 [nn s] (bP (qW s)):=by
 by_cases c1:0<=s.iC/\s.iC<=8/\s.il.length<=200/\s.iF.length<=200
 rotate_left
 .rw [show qW s=false by unfold qW;rw[bB c1];rfl];exact akG s g sm c1
 obtain⟨i0,i8,l1,l2⟩:=c1;by_cases c2:Kf s=true
 rotate_left
 .rw [show qW s=false by unfold qW;rw[bk c2];simp];obtain⟨N,n1,n2,n3⟩:=Qg c2;exact akH s g sm i0 i8 l1 l2 N n1 (λk hk=>by simpa using n3 k hk) (by simpa using n2)
 have jZ:∀ k,k<s.il.length->jN (s.il.getD k lE) (s.iC+(k:Int))=true:=λk hk=>bT.1 c2 k (cC.2 hk)
 rw[show qW s=ud s by unfold qW;rw[bA (⟨i0,i8,l1,l2⟩:_/\_),c2];rfl];exact akI s g sm i0 i8 l1 l2 jZ
def kg.t(s:kg):j8:=s.v.tape
def W7{s:kg}(h:qW s=true):uT s.t/\nn s=jJ s.t:=by
 unfold qW at h;simp only[bO,cL]at h;obtain⟨⟨⟨i0,i8,l1,l2⟩,ho⟩,hu⟩:=h;have ho:=bT.1 ho;have hu:=bT.1 hu;have opAt:∀ i,i<s.il.length->(s.il.map kY.v).getD i iN=(s.il.getD i lE).v:=λi hi=>by simp[bC,hi]
 have ouAt:∀ i,i<s.iF.length->(s.iF.map Int.toNat).getD i 0=(s.iF.getD i 0).toNat:=λi hi=>by simp[bC,hi]
 have op:∀ i,i<s.il.length->ns (s.il.getD i lE).v (s.iC.toNat+i)/\0<=(s.il.getD i lE).kind/\0<=(s.il.getD i lE).a/\0<=(s.il.getD i lE).b/\0<=(s.il.getD i lE).n:=λi hi=>by
  have:=ho i (cC.2 hi);exact WR (by rwa[show((s.iC.toNat+i:Nat):Int)=s.iC+(i:Int)by omega])
 have ou:∀ i,i<s.iF.length->0<=s.iF.getD i 0/\s.iF.getD i 0<s.iC+(s.il.length:Int):=λi hi=>cQ (hu i (cC.2 hi))
 refine⟨⟨?_,?_,?_,?_,?_⟩,?_⟩
 .show s.iC.toNat<=8;omega
 .show (s.il.map kY.v).length<=200;rw[b6];exact l1
 .show (s.iF.map Int.toNat).length<=200;rw[b6];exact l2
 .intro i hi;have hi:i<s.il.length:=by simpa[kg.t,kg.v]using hi
  show ns ((s.il.map kY.v).getD i iN) (s.iC.toNat+i);rw[opAt i hi];exact(op i hi).1
 .intro i hi;have hi:i<s.iF.length:=by simpa[kg.t,kg.v]using hi
  show(s.iF.map Int.toNat).getD i 0<s.iC.toNat+(s.il.map kY.v).length;rw[ouAt i hi,b6];have:=ou i hi;omega
 .have e1:iP s.iC=iP (s.iC.toNat:Int):=by rw[eI i0]
  have e3:lK s.il=mH (s.il.map kY.v):=by
   unfold lK mH;rw[b6];congr 1;funext i j;by_cases hi:i<s.il.length
   .rw [opAt i hi];obtain⟨_,h1,h2,h3,h4⟩:=op i hi;rw[WT h1 h2 h3 h4]
   .have a1:s.il.getD i lE=lE:=by rw[bC,cE aC];rfl
    have a2:(s.il.map kY.v).getD i iN=iN:=by rw[bC,cE aW];rfl
    rw[a1,a2];rfl
  have e4:mL s.iF=mG (s.iF.map Int.toNat):=by
   unfold mL mG;rw[b6];congr 1;funext i j;by_cases hi:i<s.iF.length
   .rw [ouAt i hi,eI (ou i hi).1]
   .rw [bC,cE aC,bC (l:=s.iF.map Int.toNat),cE aW];rfl
  show E.agg [iP s.iC,lK s.il,mL s.iF]=_;rw[e1,e3,e4];rfl
noncomputable def su(s t:kg):Bool:=ue s&&(qW t&&(decide (t.iC=s.iC)&&decide (t.iF.length=1)))
def Mj(s:kg)(g:s.jB)(sm:s.wX)(t:kg)(gt:t.jB)(stm:t.il.length<=1000):ik 56 [nm s,nn t] (bP (su s t)):=
 ak call56 func56 (ae [ag [nm s] (akt _ g sm)]<|.w (ue s=true)
  (λk1=>ae [tB 6 k1,ag [nn t] (Kw _ gt stm)]<|.w (qW t=true)
   (λk2=>ae [tB 9 k2]<|.w (t.iC=s.iC)
    (λk3=>ae [tB 17 (bj k3)]<|rQ (bP ((t.iF.length:Int)==1)) (bP (su s t)) (kz aU))
    (λk3=>ae [tB 17 (bh k3)]<|rQ (bP false) (bP (su s t)) (kz aU)))
   (λk2=>ae [tB 9 (bk k2)]<|rQ (bP false) (bP (su s t)) (kz aU)))
  (λk1=>ae [tB 6 (bk k1)]<|rQ (bP false) (bP (su s t)) (kz aU))) 
noncomputable def wT(x y:List RI):Bool:=uW x&&(uW y&&decide (x.length=y.length))
def Fi{x:List RI}(gx:∀ i,(x.getD i lg).jB)(h2:uW x=true):1<=x.length/\x.length<=8/\sK (x.map RI.iv)/\jd x=iq (x.map RI.iv):=by
 unfold uW at h2;rw[bO,cL]at h2;obtain⟨⟨b1,b8⟩,b2⟩:=h2;have pa:∀ i,i<x.length->(x.getD i lg).Ok/\(x.getD i lg).all=false:=λi hi=>by
  have:=bT.1 b2 i (cC.2 hi);unfold qs at this;rw[bO]at this;exact⟨Bw.1 this.1,by simpa using this.2⟩
 refine⟨b1,b8,λi hi=>?_,?_⟩
 .have hi:i<x.length:=by simpa using hi
  rw[show(x.map RI.iv).getD i ix=(x.getD i lg).iv by simp[bC,hi]];exact⟨(pa i hi).1.valid,(pa i hi).2⟩
 .rw [<-UA];congr 1;apply gE;intro i;unfold C3;rw[cG,cG];by_cases hi:i<x.length
  .have h1:=(pa i hi).1;have g1:=gx i;rw[bG hi];rw[bC,bG hi]at h1 g1;exact congrArg some (RI.Ok.eq (x:=x[i]) h1 g1).symm
  .rw [cE aC];rfl
def aaE(x y:List RI)(gx:∀ i,(x.getD i lg).jB)(gy:∀ i,(y.getD i lg).jB)(lQ:x.length<=1000)(pH:y.length<=1000):ik 151 [jd x,jd y] (bP (wT x y)):=
 ak call151 func151 (ae [.c (QU x gx lQ)]<|.w (uW x=true)
  (λk1=>ae [tB 6 k1,.c (QU y gy pH)]<|.w (uW y=true)
   (λk2=>ae [tB 9 k2]<|rQ (bP ((x.length:Int)==y.length)) (bP (wT x y)) (kz aY))
   (λk2=>ae [tB 9 (bk k2)]<|rQ (bP false) (bP (wT x y)) (kz aY)))
  (λk1=>ae [tB 6 (bk k1)]<|rQ (bP false) (bP (wT x y)) (kz aY))) 
def aaz(x y:List RI)(gx:∀ i,(x.getD i lg).jB)(gy:∀ i,(y.getD i lg).jB)(lQ:x.length<=1000)(pH:y.length<=1000)(hn:wT x y=false):ik 131 [jd x,jd y] (bP false):=
 ak call131 func131 (af [.c (by have h_:=aaE x y gx gy lQ pH;rwa[hn]at h_:ik 151 [jd x,jd y] (bP false))]) 
noncomputable def CC(x y:List RI):Bool:=wT x y&&yC (x.map RI.iv) (y.map RI.iv)
def QR(x y:List RI)(gx:∀ i,(x.getD i lg).jB)(gy:∀ i,(y.getD i lg).jB)(lQ:x.length<=1000)(pH:y.length<=1000):ik 131 [jd x,jd y] (bP (CC x y)):=by
 unfold CC;cases hn:wT x y with
 |false=>exact aaz x y gx gy lQ pH hn
 |true=>
  have h:=hn;unfold wT at h;rw[bO,bO,cL]at h;obtain⟨h1,h2,h3⟩:=h;obtain⟨a1,a8,a2,a3⟩:=Fi gx h1;obtain⟨b1,b8,b2,b3⟩:=Fi gy h2;rw[e9,a3,b3];exact Lh _ _ aW aW (by rw[b6,b6];omega) a2 b2
def aiD(s:kg)(x:List RI)(gx:∀ i,(x.getD i lg).jB)(lQ:x.length<=1000)(y z:List RI)(gy:∀ i,(y.getD i lg).jB)(gz:∀ i,(z.getD i lg).jB)(pH:y.length<=1000)(qg:z.length<=1000)(a b:RD)(ga:a.jB)(na:¬a.Ok):ik 57 [nm s,jd x,.agg [bP a.neg,iu a.L,iP a.e,bP b.neg,iu b.L,iP b.e,jd y,jd z]] (bP false):=
 ak call57 func57 (af [ag [tl a] (AR _ ga false (by simp[na]))]) 
def aiE(s:kg)(x:List RI)(gx:∀ i,(x.getD i lg).jB)(lQ:x.length<=1000)(y z:List RI)(gy:∀ i,(y.getD i lg).jB)(gz:∀ i,(z.getD i lg).jB)(pH:y.length<=1000)(qg:z.length<=1000)(a:Dy)(b:RD)(ha:a.iy)(gb:b.jB)(nb:¬b.Ok):ik 57 [nm s,jd x,.agg (iR a++[bP b.neg,iu b.L,iP b.e,jd y,jd z])] (bP false):=
 ak call57 func57 (af [ag [iA a] (q7 _ aD),ag [tl b] (AR _ gb false (by simp[nb]))]) 
noncomputable def xK(s:kg)(x:List RI)(a b:Dy)(y z:List RI):Bool:=decide (jE a b<0)&&(decide ((x.length:Int)=s.iZ)&&(CC x y&&CC z y))
noncomputable def BH(s:kg)(x:List RI)(a b:RD)(y z:List RI):Bool:=G3 a&&(G3 b&&xK s x a.dy b.dy y z)
def aiF(s:kg)(x:List RI)(gx:∀ i,(x.getD i lg).jB)(lQ:x.length<=1000)(y z:List RI)(gy:∀ i,(y.getD i lg).jB)(gz:∀ i,(z.getD i lg).jB)(pH:y.length<=1000)(qg:z.length<=1000)(a b:Dy)(ha:a.iy)(hb:b.iy):ik 57 [nm s,jd x,.agg (iR a++iR b++[jd y,jd z])] (bP (xK s x a b y z)):=
 ak call57 func57 (ae [ag [iA a] (q7 _ aD),ag [iA b] (q7 _ aD),ag [iA a,iA b] (nv _ _ aD aD)]<|.w ((jE a b)<0)
  (λk1=>ae [tB 21 (bA k1)]<|.w ((x.length:Int)=s.iZ)
   (λk2=>ae [tB 28 (bj k2),ag [jd x,jd y] (QR x y gx gy lQ pH)]<|.w (CC x y=true)
    (λk3=>ae [tB 34 k3,ag [jd z,jd y] (QR z y gz gy qg pH)]<|rQ (bP (CC z y)) (bP (xK s x a b y z)) (kz aV))
    (λk3=>ae [tB 34 (bk k3)]<|rQ (bP false) (bP (xK s x a b y z)) (kz aV)))
   (λk2=>ae [tB 28 (bh k2)]<|rQ (bP false) (bP (xK s x a b y z)) (kz aV)))
  (λk1=>ae [tB 21 (bB k1)]<|rQ (bP false) (bP (xK s x a b y z)) (kz aV))) 
def J7{d:RD}(g:d.jB)(h:d.Ok):xI d=iR d.dy:=by
 have:tl d=iA d.dy:=by rw[<-LI,h.eq g]
 exact E.agg.inj this
def WL(s:kg)(x:List RI)(gx:∀ i,(x.getD i lg).jB)(lQ:x.length<=1000)(y z:List RI)(gy:∀ i,(y.getD i lg).jB)(gz:∀ i,(z.getD i lg).jB)(pH:y.length<=1000)(qg:z.length<=1000)(a b:RD)(ga:a.jB)(gb:b.jB):ik 57 [nm s,jd x,.agg (xI a++xI b++[jd y,jd z])] (bP (BH s x a b y z)):=by
 unfold BH;cases ha:G3 a with
 |false=>exact aiD s x gx lQ y z gy gz pH qg a b ga λq=>by rw[ED.2 q]at ha;cases ha
 |true=>
  have ha:=ED.1 ha;rw[J7 ga ha];cases hb:G3 b with
  |false=>exact aiE s x gx lQ y z gy gz pH qg a.dy b ha.valid gb λq=>by rw[ED.2 q]at hb;cases hb
  |true=>
   have hb:=ED.1 hb;rw[J7 gb hb];exact aiF s x gx lQ y z gy gz pH qg a.dy b.dy ha.valid hb.valid
def sE(k p:Int):Bool:=decide (k=1\/k=2)&&decide (8<=p/\p<=512)
def Wi(k p:Int):ik 58 [iP k,iP p] (bP (sE k p)):=
 ak call58 func58 (.w (k=1)
  (λk1=>ae [tB 6 (bj k1)]<|.w (8<=p)
   (λk2=>ae [tB 13 (bA k2)]<|rQ (bP (decide (p<=512))) (bP (sE k p)) (kz aT))
   (λk2=>ae [tB 13 (bB k2)]<|rQ (bP false) (bP (sE k p)) (kz aT)))
  (λk1=>ae [tB 6 (bh k1)]<|.w (k=2)
   (λk2=>ae [tB 9 (bj k2)]<|.w (8<=p)
    (λk3=>ae [tB 13 (bA k3)]<|rQ (bP (decide (p<=512))) (bP (sE k p)) (kz aT))
    (λk3=>ae [tB 13 (bB k3)]<|rQ (bP false) (bP (sE k p)) (kz aT)))
   (λk2=>ae [tB 9 (bh k2)]<|rQ (bP false) (bP (sE k p)) (kz aT)))) 
def EF(l:List kY)(i j:Nat):E:=(uJ (l.getD i lE)).getD j .any
def wr(x:Int):Int:=IntKind.i64.wrap x
def re(t:kg):kg:=⟨t.iC,t.il++[⟨7,t.iF.getD 0 0,0,0,0,0⟩],[wr (wr (t.iC+((t.il.length+1:Nat):Int))-1)],0,[]⟩
def RW(b:List Iv)(x:Nat):PS:=⟨27,true,[(5,.e (iP x)),(0,.e (iq b)),(1,.e (iq b))],[]⟩
def WS(o:kY)(j:Nat)(hj:j<6):((uJ o).getD j .any).nr 2=true:=by
 rcases j with _|_|_|_|_|_|j
 all_goals first|rfl|omega
def ZI(r:List kY)(h0:0<r.length)(hl:r.length<=1000):tv 55 [lK r] true 107 r.length 6 (EF r):=
 PF call55 func55 (ae [.a (aC:0<r.length),.bo,.a (aC:(0+r.length)*48<=140737488355328)]<|.rb (QV rfl λi j hi hj=>⟨rfl,WS _ _ hj⟩:Bx.le (.row true 107 (0+r.length) 6 (λi_ j_=>if i_<0 then(λi_ j_=>([]:List E).getD (i_*6+j_) (.v (.bool false))) i_ j_ else(E.kT (lK r)) (i_-0) j_)) (.row true 107 r.length 6 (EF r)))) aF 
def ZJ(r:List kY)(hl:r.length<=1000):tv 55 [lK r] true 107 r.length 6 (EF r):=by
 by_cases h0:r.length=0
 .obtain rfl:=dz h0;exact abF _ _
 .exact ZI r aC hl
def aj9(P:Program)(t:TypeId)(a b:Int):nY P .sub t (.v (.int .i64 a)) (.v (.int .i64 b)) (.int .i64 (IntKind.i64.wrap (a-b))):=λbs br w x y ox oy hx hy=>by
 obtain rfl:=iO.kG hx;obtain rfl:=iO.kG hy;refine⟨by simp only[eqGuard_at_int,Sem.run_pure],?_⟩;rw[binOp_sub];simp[Op.intArith]
def Zo(P:Program)(t:TypeId)(a b:Int):nY P .add t (.v (.int .i64 a)) (.v (.int .i64 b)) (.int .i64 (IntKind.i64.wrap (a+b))):=λbs br w x y ox oy hx hy=>by
 obtain rfl:=iO.kG hx;obtain rfl:=iO.kG hy;refine⟨by simp only[eqGuard_at_int,Sem.run_pure],?_⟩;rw[binOp_add];simp[Op.intArith]
def afG(t:kg):nY prog .add 3 (iP t.iC) (iP ((t.il++[(⟨7,t.iF.getD 0 0,0,0,0,0⟩:kY)]).length:Int)) (.int .i64 (wr (t.iC+((t.il.length+1:Nat):Int)))):=by
 rw[cg];exact Zo _ _ _ _
def alR(x:Int):kB .i64 (wr x):=by
 unfold wr kB IntKind.wrap;simp only[IntKind.bits,IntKind.signed];simp;split<;>omega
def aiM{X:List kY}{o:kY}{n q:Nat}{f g:Nat->Nat->E}(hn:n=X.length)(hq:q=1)(hf:∀ i j,f i j=EF X i j)(hg:∀ j,j<6->g 0 j=(uJ o).getD j .any):E.le (.sl true (n+q) 6 λi j=>if i<n then f i j else g (i-n) j) (lK (X++[o])):=by
 subst hn hq;unfold lK;rw[cg,dm];refine .sl λi j hi hj=>⟨.jl ?_,WS _ _ hj⟩
 by_cases h:i<X.length
 .rw [bw h,hf];show(uJ (X.getD i lE)).getD j .any=(uJ ((X++[o]).getD i lE)).getD j .any;simp only[bC];rw[dp h]
 .obtain rfl:i=X.length:= aC ;rw[bu h,dq,hg j hj];simp[bC]
def JI(t:kg)(stm:t.il.length<=1000)(h1:t.iF.length=1):ik 10 [nn t] (nn (re t)):=
 ak call10 func10 (ae [.cn (ZJ _ aC:tv 55 [lK t.il] true 107 t.il.length 6 (EF t.il)),iX 0 (t.iF.length) aC,.o 11 (.refl _:aj (.sl true 1 6 λi_ j_=>[iP 7,iP (t.iF.getD 0 0),iP 0,iP 0,iP 0,iP 0].getD (i_*6+j_) (.v (.bool false))) (.sl true 1 6 λi_ j_=>[iP 7,iP (t.iF.getD 0 0),iP 0,iP 0,iP 0,iP 0].getD (i_*6+j_) (.v (.bool false)))),
  .bo,.a (aC:(t.il.length+1)*48<=140737488355328),.o 12 (.e (aiM (X:=t.il) (o:=⟨7,t.iF.getD 0 0,0,0,0,0⟩) rfl rfl (λ_ _=>rfl) (λj hj=>by rcases j with _|_|_|_|_|_|j<;>first|rfl|omega)):aj (.sl true (t.il.length+1) 6 (λi_ j_=>if i_<t.il.length then(EF t.il) i_ j_ else(E.kT (.sl true 1 6 λi_ j_=>[iP 7,iP (t.iF.getD 0 0),iP 0,iP 0,iP 0,iP 0].getD (i_*6+j_) (.v (.bool false)))) (i_-t.il.length) j_)) (lK (t.il++[(⟨7,t.iF.getD 0 0,0,0,0,0⟩:kY)]))),.gi (afG _:nY prog .add 3 (iP t.iC) (iP ((t.il++[(⟨7,t.iF.getD 0 0,0,0,0,0⟩:kY)]).length:Int)) (.int .i64 (wr (t.iC+((t.il.length+1:Nat):Int))))),.gi (aj9 _ _ _ _:nY prog .sub 3 (iP (wr (t.iC+((t.il.length+1:Nat):Int)))) (iP 1) (.int .i64 (wr ((wr (t.iC+((t.il.length+1:Nat):Int)))-1)))),.o 21 (.refl _:aj (.sl true 1 1 λi_ j_=>[iP (wr ((wr (t.iC+((t.il.length+1:Nat):Int)))-1))].getD (i_*1+j_) (.v (.bool false))) (.sl true 1 1 λi_ j_=>[iP (wr ((wr (t.iC+((t.il.length+1:Nat):Int)))-1))].getD (i_*1+j_) (.v (.bool false))))]<|rR (nn (re t)) (by
    exact .agg (.cons (.refl _) (.cons (.refl _) (.cons (.sl λi j hi hj=>by
     obtain rfl:j=0:= aC ;obtain rfl:i=0:= aC ;exact⟨.jl rfl,rfl⟩) .nil))):E.le (.agg [iP t.iC,lK (t.il++[(⟨7,t.iF.getD 0 0,0,0,0,0⟩:kY)]),(.sl true 1 1 λi_ j_=>[iP (wr ((wr (t.iC+((t.il.length+1:Nat):Int)))-1))].getD (i_*1+j_) (.v (.bool false)))]) (nn (re t)))) 
def ad0(x:RI):ik 54 [xJ x] (bP (AV x)):=
 ak call54 func54 (.w (20<(x.lo.L.length:Int))
  (λk1=>ae [tB 7 (bA k1)]<|rQ (bP true) (bP (AV x)) (kz (by unfold AV;rw[fc];simp;omega)))
  (λk1=>ae [tB 7 (bB k1)]<|rQ (bP (decide (20<(x.hi.L.length:Int)))) (bP (AV x)) (kz (by unfold AV;rw[fc];simp;omega)))) 
def I0(l:List RI):ik 52 [jd l] (bP (nP l)):=
 ak call52 func52 (.w (10<(l.length:Int))
  (λk1=>ae [tB 5 (bA k1)]<|rQ (bP true) (bP (nP l)) (kz (by unfold nP;simp[(aC:10<l.length)])))
  (λk1=>ae [tB 5 (bB k1),.c (NF true l.length (λi j=>(Aj (l.getD i lg)).getD j .any) 54 [] (λi=>AV (l.getD i lg)) (λi _=>ad0 _) aC:ik 53 [jd l,.fn 54 []] _)]<|rQ (bP ((List.range l.length).any λi=>AV (l.getD i lg))) (bP (nP l)) (kz (by unfold nP;simp[(aC:¬10<l.length)])))) 
def Iw(x y z w:List RI):ik 51 [(.sl true 2 1 λi_ j_=>[(.sl true 3 1 λi_ j_=>[jd x,jd y,jd z].getD (i_*1+j_) (.v (.bool false))),(.sl true 1 1 λi_ j_=>[jd w].getD (i_*1+j_) (.v (.bool false)))].getD (i_*1+j_) (.v (.bool false)))] (.sl true 4 1 λi_ j_=>[jd x,jd y,jd z,jd w].getD (i_*1+j_) (.v (.bool false))):=
 ak call51 func51 (ae [.u 70,ah 12 (decide ((0:Int)<2)) aE,iX 0 2 aC,iL (0+3) aC,ai 20 (decide (((0+3):Int)<0)) aE,iL (0+1) aC,ah 12 (decide (((0+1):Int)<2)) aE,iX (0+1) 2 aC,iL ((0+3)+1) aC,ai 20 (decide ((((0+3)+1):Int)<0)) aE,iL ((0+1)+1) aC,ai 12 (decide ((((0+1)+1):Int)<2)) aE,.cn (adZ _ (by first|omega|decide):tv 129 [.v (.slice none 0 0),iP ((0+3)+1)] true 26 0 1 (λ_ _=>.any)),.u 70,ah 28 (decide ((0:Int)<2)) aE,iX 0 2 aC,.a (aC:(0+3)*24<=140737488355328),iL (0+1) aC,ah 28 (decide (((0+1):Int)<2)) aE,iX (0+1) 2 aC,.a (aC:(3+1)*24<=140737488355328),iL ((0+1)+1) aC,ai 28 (decide ((((0+1)+1):Int)<2)) aE,.z 24]<|rR (.sl true 4 1 λi_ j_=>[jd x,jd y,jd z,jd w].getD (i_*1+j_) (.v (.bool false))) (.sl λi j hi hj=>by obtain rfl:j=0:= aC;obtain rfl|rfl|rfl|rfl:i=0\/i=1\/i=2\/i=3:= aC <;>exact⟨.jl rfl,rfl⟩:E.le (.sl true 4 1 (λi_ j_=>if i_<3 then(λi_ j_=>if i_<0 then(λ_ _=>.any) i_ j_ else(E.kT (.sl true 3 1 λi_ j_=>[jd x,jd y,jd z].getD (i_*1+j_) (.v (.bool false)))) (i_-0) j_) i_ j_ else(E.kT (.sl true 1 1 λi_ j_=>[jd w].getD (i_*1+j_) (.v (.bool false)))) (i_-3) j_)) (.sl true 4 1 λi_ j_=>[jd x,jd y,jd z,jd w].getD (i_*1+j_) (.v (.bool false))))) 
def tD(s t:kg)(p:Int):Bool:=(decide (3<s.iZ)&&decide (s.iZ<=4))||(decide (2<s.params.length)||(decide (40<s.il.length)||(decide (40<t.il.length)||(decide (64<p)&&decide (p<=512)))))
def mD(s t:kg)(p:Int)(x y z:List RI):Bool:=tD s t p||(nP x||(nP y||(nP z||nP s.params)))
def IZ(s:kg)(x y z:List RI):ik 50 [(.sl true 4 1 λi_ j_=>[jd x,jd y,jd z,jd s.params].getD (i_*1+j_) (.v (.bool false))),.fn 52 []] (bP (nP x||(nP y||(nP z||nP s.params)))):=by
 have:=aiQ true 4 (λi_ j_=>[jd x,jd y,jd z,jd s.params].getD (i_*1+j_) (.v (.bool false))) 52 [] (λi=>if i=0 then nP x else if i=1 then nP y else if i=2 then nP z else nP s.params) (λi hi=>by
  obtain rfl|rfl|rfl|rfl:i=0\/i=1\/i=2\/i=3:= aC 
  .exact I0 x
  .exact I0 y
  .exact I0 z
  .exact I0 s.params) aC 
 exact this.kq (.jl (by rw[show List.range 4=[0,1,2,3]from rfl];simp))
def AY(s t:kg)(p:Int)(x y z:List RI):ik 8 [nm s,nn t,iP p,(.sl true 3 1 λi_ j_=>[jd x,jd y,jd z].getD (i_*1+j_) (.v (.bool false)))] (bP (mD s t p x y z)):=
 ak call8 func8 (.w (3<s.iZ)
  (λk1=>ae [tB 11 (bA k1)]<|.w (s.iZ<=4)
   (λk2=>ae [tB 15 (bA k2)]<|rQ (bP true) (bP (mD s t p x y z)) (kz (by unfold mD tD;simp[k1,k2]<;>omega)))
   (λk2=>ae [tB 15 (bB k2)]<|.w (2<(s.params.length:Int))
    (λk3=>ae [tB 21 (bA k3)]<|rQ (bP true) (bP (mD s t p x y z)) (kz (by unfold mD tD;simp[k1,k2,k3]<;>omega)))
    (λk3=>ae [tB 21 (bB k3)]<|.w (40<(s.il.length:Int))
     (λk4=>ae [tB 28 (bA k4)]<|rQ (bP true) (bP (mD s t p x y z)) (kz (by unfold mD tD;simp[k1,k2,k3,k4]<;>omega)))
     (λk4=>ae [tB 28 (bB k4)]<|.w (40<(t.il.length:Int))
      (λk5=>ae [tB 34 (bA k5)]<|rQ (bP true) (bP (mD s t p x y z)) (kz (by unfold mD tD;simp[k1,k2,k3,k4,k5]<;>omega)))
      (λk5=>ae [tB 34 (bB k5)]<|.w (64<p)
       (λk6=>ae [tB 38 (bA k6)]<|.w (p<=512)
        (λk7=>ae [tB 41 (bA k7)]<|rQ (bP true) (bP (mD s t p x y z)) (kz (by unfold mD tD;simp[k1,k2,k3,k4,k5,k6,k7]<;>omega)))
        (λk7=>ae [tB 41 (bB k7),.c (Iw x y z s.params),ag [(.sl true 4 1 λi_ j_=>[jd x,jd y,jd z,jd s.params].getD (i_*1+j_) (.v (.bool false))),.fn 52 []] (IZ s x y z)]<|rQ (bP (nP x||(nP y||(nP z||nP s.params)))) (bP (mD s t p x y z)) (kz (by unfold mD tD;simp[k1,k2,k3,k4,k5,k6,k7]<;>omega))))
       (λk6=>ae [tB 38 (bB k6),.c (Iw x y z s.params),ag [(.sl true 4 1 λi_ j_=>[jd x,jd y,jd z,jd s.params].getD (i_*1+j_) (.v (.bool false))),.fn 52 []] (IZ s x y z)]<|rQ (bP (nP x||(nP y||(nP z||nP s.params)))) (bP (mD s t p x y z)) (kz (by unfold mD tD;simp[k1,k2,k3,k4,k5,k6]<;>omega))))))))
  (λk1=>ae [tB 11 (bB k1)]<|.w (2<(s.params.length:Int))
   (λk2=>ae [tB 21 (bA k2)]<|rQ (bP true) (bP (mD s t p x y z)) (kz (by unfold mD tD;simp[k1,k2]<;>omega)))
   (λk2=>ae [tB 21 (bB k2)]<|.w (40<(s.il.length:Int))
    (λk3=>ae [tB 28 (bA k3)]<|rQ (bP true) (bP (mD s t p x y z)) (kz (by unfold mD tD;simp[k1,k2,k3]<;>omega)))
    (λk3=>ae [tB 28 (bB k3)]<|.w (40<(t.il.length:Int))
     (λk4=>ae [tB 34 (bA k4)]<|rQ (bP true) (bP (mD s t p x y z)) (kz (by unfold mD tD;simp[k1,k2,k3,k4]<;>omega)))
     (λk4=>ae [tB 34 (bB k4)]<|.w (64<p)
      (λk5=>ae [tB 38 (bA k5)]<|.w (p<=512)
       (λk6=>ae [tB 41 (bA k6)]<|rQ (bP true) (bP (mD s t p x y z)) (kz (by unfold mD tD;simp[k1,k2,k3,k4,k5,k6]<;>omega)))
       (λk6=>ae [tB 41 (bB k6),.c (Iw x y z s.params),ag [(.sl true 4 1 λi_ j_=>[jd x,jd y,jd z,jd s.params].getD (i_*1+j_) (.v (.bool false))),.fn 52 []] (IZ s x y z)]<|rQ (bP (nP x||(nP y||(nP z||nP s.params)))) (bP (mD s t p x y z)) (kz (by unfold mD tD;simp[k1,k2,k3,k4,k5,k6]<;>omega))))
      (λk5=>ae [tB 38 (bB k5),.c (Iw x y z s.params),ag [(.sl true 4 1 λi_ j_=>[jd x,jd y,jd z,jd s.params].getD (i_*1+j_) (.v (.bool false))),.fn 52 []] (IZ s x y z)]<|rQ (bP (nP x||(nP y||(nP z||nP s.params)))) (bP (mD s t p x y z)) (kz (by unfold mD tD;simp[k1,k2,k3,k4,k5]<;>omega)))))))) 
def vi(d:RD):ik 9 [tl d] (bP (o9 d)):=
 ak call9 func9 (rQ (bP (decide (20<(d.L.length:Int)))) (bP (o9 d)) (kz (by unfold o9;rw[fc,cL,cL];omega))) 
def Xc(b:List Iv)(hb:∀ i,i<b.length->(b.getD i ix).iy)(hl:b.length<=1000):ik 70 [iq b,iq b] (bP true):=
 ak call70 func70 (af [ai 10 ((b.length:Int) != (b.length:Int)) (yK rfl),.s (Sp.kE (RW b) 0 b.length aC (λx hx nd=>by
    have hv:=hb x aC;exact jh (af [tT 14 ((x:Int)<b.length) aC,iX (x:Int) (b.length) aC,iX (x:Int) (b.length) aC,.c (Pf (b.getD x ix) hv),iL ((x:Int)+1) aC]) aF)
  (λhx=>by
    exact jh (af [tF 14 ((b.length:Int)<b.length) aC]) aF) aI:kD 4 Tryz.f70 (RW b 0) (.exit 0) ⟨27,true,[],[]⟩) .nil]) 
def ai7:ik 70 [ni,ni] (bP true):=(Xc [] (λi hi=>absurd hi (bF i)) aE).le (.cons (.nil _ _ _) (.cons (.nil _ _ _) .nil)) (.refl _)
def ai8(k d:Int)(w:Iv)(hw:w.iy)(b:List Iv)(hb:∀ i,i<b.length->(b.getD i ix).iy)(hl:b.length<=1000):ik 13 [.agg ([iP 0,iP k,iP d]++iQ w++[iq b]),.agg ([iP 0,iP k,iP d]++iQ w++[iq b])] (bP true):=
 ak call13 func13 (af [ah 9 ((0:Int)==0) aE,ah 15 (k==k) aH,ah 22 (d==d) aH,.c (Pf w hw),.c (Xc b hb hl)]) 
def Xe(k d:Int)(w:Iv)(hw:w.iy):ik 13 [.agg ([iP 0,iP k,iP d]++iQ w++[.v (.slice none 0 0)]),.agg ([iP 0,iP k,iP d]++iQ w++[.v (.slice none 0 0)])] (bP true):=
 ak call13 func13 (af [ah 9 ((0:Int)==0) aE,ah 15 (k==k) aH,ah 22 (d==d) aH,.c (Pf w hw),ag [.v (.slice none 0 0),.v (.slice none 0 0)] ai7]) 
def aje(s:kg)(g:s.jB)(sm:s.wX)(t:kg)(gt:t.jB)(stm:t.il.length<=1000)(x:List RI)(gx:∀ i,(x.getD i lg).jB)(lQ:x.length<=1000)(y z:List RI)(gy:∀ i,(y.getD i lg).jB)(gz:∀ i,(z.getD i lg).jB)(pH:y.length<=1000)(qg:z.length<=1000)(a b:RD)(ga:a.jB)(gb:b.jB)(dir p:Int)(h1:su s t=false):ik 11 [nm s,nn t,jd x,.agg [bP a.neg,iu a.L,iP a.e,bP b.neg,iu b.L,iP b.e,jd y,jd z],iP dir,iP p] (.iE [mu 0 0 lV ni,iP 1]):=
 ak call11 func11 (ae [.c (Mj s g sm t gt stm),ai 22 (su s t) h1]<|rR (.iE [mu 0 0 lV ni,iP 1]) (DG:E.le (.iE [.agg [iP 0,iP 0,iP 0,bP false,.v (.slice none 0 0),iP 0,bP false,.v (.slice none 0 0),iP 0,bP false,.v (.slice none 0 0)],iP 1]) (.iE [mu 0 0 lV ni,iP 1]))) 
def ajf(s:kg)(g:s.jB)(sm:s.wX)(t:kg)(gt:t.jB)(stm:t.il.length<=1000)(x:List RI)(gx:∀ i,(x.getD i lg).jB)(lQ:x.length<=1000)(y z:List RI)(gy:∀ i,(y.getD i lg).jB)(gz:∀ i,(z.getD i lg).jB)(pH:y.length<=1000)(qg:z.length<=1000)(a b:RD)(ga:a.jB)(gb:b.jB)(dir p:Int)(h1:su s t=true)(h2:BH s x a b y z=false):ik 11 [nm s,nn t,jd x,.agg [bP a.neg,iu a.L,iP a.e,bP b.neg,iu b.L,iP b.e,jd y,jd z],iP dir,iP p] (.iE [mu 0 0 lV ni,iP 1]):=
 ak call11 func11 (ae [.c (Mj s g sm t gt stm),ah 22 (su s t) h1,ag [nm s,jd x,.agg [bP a.neg,iu a.L,iP a.e,bP b.neg,iu b.L,iP b.e,jd y,jd z]] (WL s x gx lQ y z gy gz pH qg a b ga gb),ai 28 (BH s x a b y z) h2]<|rR (.iE [mu 0 0 lV ni,iP 1]) (DG:E.le (.iE [.agg [iP 0,iP 0,iP 0,bP false,.v (.slice none 0 0),iP 0,bP false,.v (.slice none 0 0),iP 0,bP false,.v (.slice none 0 0)],iP 1]) (.iE [mu 0 0 lV ni,iP 1]))) 
def ajg(s:kg)(g:s.jB)(sm:s.wX)(t:kg)(gt:t.jB)(stm:t.il.length<=1000)(x:List RI)(gx:∀ i,(x.getD i lg).jB)(lQ:x.length<=1000)(y z:List RI)(gy:∀ i,(y.getD i lg).jB)(gz:∀ i,(z.getD i lg).jB)(pH:y.length<=1000)(qg:z.length<=1000)(a b:RD)(ga:a.jB)(gb:b.jB)(dir p:Int)(h1:su s t=true)(h2:BH s x a b y z=true)(h3:sE dir p=false):ik 11 [nm s,nn t,jd x,.agg [bP a.neg,iu a.L,iP a.e,bP b.neg,iu b.L,iP b.e,jd y,jd z],iP dir,iP p] (.iE [mu 0 0 lV ni,iP 2]):=
 ak call11 func11 (ae [.c (Mj s g sm t gt stm),ah 22 (su s t) h1,ag [nm s,jd x,.agg [bP a.neg,iu a.L,iP a.e,bP b.neg,iu b.L,iP b.e,jd y,jd z]] (WL s x gx lQ y z gy gz pH qg a b ga gb),ah 28 (BH s x a b y z) h2,.c (Wi dir p),ai 35 (sE dir p) h3]<|rR (.iE [mu 0 0 lV ni,iP 2]) (DG:E.le (.iE [.agg [iP 0,iP 0,iP 0,bP false,.v (.slice none 0 0),iP 0,bP false,.v (.slice none 0 0),iP 0,bP false,.v (.slice none 0 0)],iP 2]) (.iE [mu 0 0 lV ni,iP 2]))) 
def XW(d:Dy):(iK d).jG = -d.jG:=by
 unfold Dy.jG iK;by_cases h:d.m=0
 .simp [h]
 .cases hn:d.neg<;>simp[h]
def Oe(x:Iv):(mz x).all=x.all:=by
 unfold mz;split
 .rename_i h;rw[h];rfl
 .rename_i h;simp at h;rw[h]
def XZ{x:Iv}(hx:x.iy)(xa:x.all=false):(0<x.lo.jG->0<x.hi.jG)/\(x.hi.jG<0->x.lo.jG<0):=by
 obtain⟨_,_,h⟩:=tZ hx xa;have h1:x.lo.q<=x.hi.q:=(pA _ _).1 h;obtain⟨a1,a2⟩:=sF x.lo;obtain⟨b1,b2⟩:=sF x.hi;refine⟨λh=>b1.2 ?_,λh=>a2.2 ?_⟩
 .have:=a1.1 h;grind
 .have:=b2.1 h;grind
def Hc{x:Iv}(hx:x.iy):lZ (mz x) = -lZ x:=by
 unfold lZ;rw[Oe];cases xa:x.all with
 |true=>rfl
 |false=>
  obtain⟨h1,h2⟩:=XZ hx xa;have e1:(mz x).lo=iK x.hi:=by unfold mz;rw[xa];rfl
  have e2:(mz x).hi=iK x.lo:=by unfold mz;rw[xa];rfl
  rw[e1,e2,XW,XW];simp only[bM,bE];split<;>split<;>(try split)<;>omega
def Km{d:Dy}(h:d.jG≠0):d.m≠0:=λq=>h (by unfold Dy.jG;rw[bw q])
def ID{a b:Dy}(hb:b.m≠0)(p:Nat)(up:Bool):oC (iK a) (iK b) p up=oC a b p up/\pZ (iK a) (iK b) p up=pZ a b p up:=by
 by_cases ha:a.m=0
 .unfold oC pZ;rw[bw (show(iK a).m=0 from ha),bw ha,bw (show(iK a).m=0 from ha),bw ha];exact⟨rfl,rfl⟩
 .have e:((iK a).neg != (iK b).neg)=(a.neg != b.neg):=by
   show((!a.neg&&decide (a.m≠0)) != (!b.neg&&decide (b.m≠0)))=_;rw[bA ha,bA hb];cases a.neg<;>cases b.neg<;>rfl
  unfold oC pZ;rw[bu (show ¬(iK a).m=0 from ha),bu ha,bu (show ¬(iK a).m=0 from ha),bu ha,e];exact⟨rfl,rfl⟩
def Vo(a b c d:Dy):(jk (jk (jk a b) c) d).q<=(jk (jk (jk d c) b) a).q:=by
 have h1:=vP (jk (jk a b) c) d;have h2:=vP (jk a b) c;have h3:=vP a b;have g1:=vP (jk (jk d c) b) a;have g2:=vP (jk d c) b;have g3:=vP d c
 grind
def Vm(a b c d:Dy):(jg (jg (jg a b) c) d).q<=(jg (jg (jg d c) b) a).q:=by
 have h1:=xG (jg (jg a b) c) d;have h2:=xG (jg a b) c;have h3:=xG a b;have g1:=xG (jg (jg d c) b) a;have g2:=xG (jg d c) b;have g3:=xG d c
 grind
def ago{a b c d:Dy}(ha:a.iy)(hb:b.iy)(hc:c.iy)(hd:d.iy):jk (jk (jk a b) c) d=jk (jk (jk d c) b) a:=
 OK (rJ (rJ (rJ ha hb) hc) hd).canon (rJ (rJ (rJ hd hc) hb) ha).canon (fg (Vo a b c d) (Vo d c b a))
def agm{a b c d:Dy}(ha:a.iy)(hb:b.iy)(hc:c.iy)(hd:d.iy):jg (jg (jg a b) c) d=jg (jg (jg d c) b) a:=
 OK (qI (qI (qI ha hb) hc) hd).canon (qI (qI (qI hd hc) hb) ha).canon (fg (Vm a b c d) (Vm d c b a))
def ab5(a b:Dy){p:Nat}(hp:1<=p)(iw:p<=4096)(up:Bool):(oC a b p up).iy:=by
 unfold oC;split
 .exact sk
 .exact sN _ _ _ _ _ _ hp iw
def ab7{x y:Iv}(hx:x.iy)(hy:y.iy){p:Nat}(hp:1<=p)(iw:p<=4096):jz (mz x) (mz y) p=jz x y p:=by
 unfold jz;rw[Oe,Oe,Hc hy];cases xa:x.all with
 |true=>rfl
 |false=>
  cases ya:y.all with
  |true=>rfl
  |false=>
   by_cases h0:lZ y=0
   .rw [h0];rfl
   .rw [bB h0,bB (aC:¬-lZ y=0)];simp only[gL,bM,bE];have hm:y.lo.m≠0/\y.hi.m≠0:=by
     obtain⟨s1,s2⟩:=XZ hy ya;unfold lZ at h0;rw[ya]at h0;simp only[bM,bE]at h0;split at h0
     .rename_i h;exact⟨Km aC,Km (by have:=s1 h;omega)⟩
     .split at h0
      .rename_i h;exact⟨Km (by have:=s2 h;omega),Km aC⟩
      .exact absurd rfl h0
    have e1:mz x=⟨iK x.hi,iK x.lo,false⟩:=by unfold mz;rw[xa];rfl
    have e2:mz y=⟨iK y.hi,iK y.lo,false⟩:=by unfold mz;rw[ya];rfl
    rw[e1,e2];unfold pt;simp only[(ID hm.1 p _).1,(ID hm.2 p _).1,(ID hm.1 p _).2,(ID hm.2 p _).2];have hv:=λ(a b:Dy) (up:Bool)=>ab5 a b hp iw up
    rw[ago (hv x.hi y.hi false) (hv x.hi y.lo false) (hv x.lo y.hi false) (hv x.lo y.lo false),agm (hv x.hi y.hi true) (hv x.hi y.lo true) (hv x.lo y.hi true) (hv x.lo y.lo true)];congr 1;exact propext ⟨λ⟨a,b,c,d⟩=>⟨d,c,b,a⟩,λ⟨a,b,c,d⟩=>⟨d,c,b,a⟩⟩
def nX(t:j8):j8:=⟨t.iC,t.il++[⟨7,t.iF.getD 0 0,0,0,0,0⟩],[t.iC+t.il.length]⟩
def VS{s:jH}{t:j8}(h:np s t)(xf:t.il.length<=40):np s (nX t):=by
 have h1:=h.one;have h2:=h.tape.out 0 aC;refine⟨⟨h.tape.iC,?_,?_,λi hi=>?_,λi hi=>?_⟩,h.iC,rfl⟩
 .show (t.il++_).length<=200;rw[cg,dm];omega
 .show 1<=200;decide
 .show ns ((t.il++[(⟨7,t.iF.getD 0 0,0,0,0,0⟩:lF)]).getD i iN) (t.iC+i);have hi:i<t.il.length+1:=by simpa[nX]using hi
  rw[bC];by_cases hl:i<t.il.length
  .rw [dp hl,<-bC];exact h.tape.op i hl
  .obtain rfl:i=t.il.length:= aC ;rw[et (bD _),dq];show ns (⟨7,t.iF.getD 0 0,0,0,0,0⟩:lF) (t.iC+t.il.length);exact⟨.inr (show 3<=7 by decide),show 7<=13 by decide,h2,rfl,rfl,⟨rfl,rfl⟩,.inl (show 7<=8 by decide)⟩
 .have hi:i<1:=hi;obtain rfl:i=0:= aC ;show t.iC+t.il.length<t.iC+(t.il++[(⟨7,t.iF.getD 0 0,0,0,0,0⟩:lF)]).length;rw[cg,dm];omega
def YG(il more:List lF)(xs:List Iv)(p:Nat):∀ n,n<=il.length->jR (il++more) xs p n=jR il xs p n
 | 0,_=>rfl
 |n+1,h=>by
  show jR (il++more) xs p n++[uV ((il++more).getD n iN) (jR (il++more) xs p n) p]=_;rw[YG il more xs p n aC,bC,dp aC,<-bC];rfl
def W8(il more:List lF)(iC:List (List Iv))(k p:Nat):∀ n,n<=il.length->je (il++more) iC k p n=je il iC k p n
 | 0,_=>rfl
 |n+1,h=>by
  show je (il++more) iC k p n++[qq ((il++more).getD n iN) (je (il++more) iC k p n) k p]=_;rw[W8 il more iC k p n aC,bC,dp aC,<-bC];rfl
def IY{α:Type}(l:List α)(a d:α){n:Nat}(h:n=l.length):(l++[a]).getD n d=a:=by
 subst h;rw[bC,et (bD _),dq];rfl
def KI{s:jH}{t:j8}{x:List Iv}{p:Nat}(h:lM s)(ht:np s t)(hx:jT s.iZ x):nL s (nX t) x p=mz (nL s t x p):=by
 have h1:=ht.one;have hl:(x++s.params).length=t.iC:=by rw[cg,hx.len,ht.iC,h.iC]
 unfold nL;generalize x++s.params=xs at hl;obtain⟨k,hk⟩:∃ k,t.iF=[k]:=amM.1 h1;unfold xZ;rw[hk];show(jR (t.il++[(⟨7,t.iF.getD 0 0,0,0,0,0⟩:lF)]) xs p (t.il++[(⟨7,t.iF.getD 0 0,0,0,0,0⟩:lF)]).length).getD (t.iC+t.il.length) ix=mz ((jR t.il xs p t.il.length).getD k ix);rw[cg,dm];show(jR (t.il++[(⟨7,t.iF.getD 0 0,0,0,0,0⟩:lF)]) xs p t.il.length++[uV ((t.il++[(⟨7,t.iF.getD 0 0,0,0,0,0⟩:lF)]).getD t.il.length iN) (jR (t.il++[(⟨7,t.iF.getD 0 0,0,0,0,0⟩:lF)]) xs p t.il.length) p]).getD (t.iC+t.il.length) ix=_;rw[YG t.il _ xs p _ (bD _),IY t.il _ _ rfl,IY _ _ _ (by rw[Hr,hl]),hk];unfold uV mU;simp
def X4{s:jH}{t:j8}{x:List Iv}{p:Nat}(h:lM s)(ht:np s t)(xf:t.il.length<=40)(hx:jT s.iZ x)(iB:8<=p)(iw:p<=512):iW s (nX t) x p=mz (iW s t x p):=by
 have h1:=ht.one;have hN:=VS ht xf;obtain⟨a1,a2⟩:=E9 h ht hx iB iw;obtain⟨b1,b2⟩:=E9 h hN hx iB iw;obtain⟨k,hk⟩:∃ k,t.iF=[k]:=amM.1 h1;have wk:=zU h hx iB iw 1 aE;have kV:=Jv h wk (by rw[sB,hx.len]);have sy:=(a2 0 aC).len;unfold iW yI;rw[yb (by rw[b1];exact Nat.one_pos),yb aC];have e1:(nG s (nX t) x p).getD 0 []=Ac ((nG s t x p).getD 0 []):=by
  unfold nG qC;have hl:(oR s (jf s x p 1) 1).length=t.iC:=by rw[kV.2,ht.iC]
  generalize oR s (jf s x p 1) 1=iC at hl;rw[hk];show(je (t.il++[(⟨7,t.iF.getD 0 0,0,0,0,0⟩:lF)]) iC 1 p (t.il++[(⟨7,t.iF.getD 0 0,0,0,0,0⟩:lF)]).length).getD (t.iC+t.il.length) []=Ac ((je t.il iC 1 p t.il.length).getD k []);rw[cg,dm];show(je (t.il++[(⟨7,t.iF.getD 0 0,0,0,0,0⟩:lF)]) iC 1 p t.il.length++[qq ((t.il++[(⟨7,t.iF.getD 0 0,0,0,0,0⟩:lF)]).getD t.il.length iN) (je (t.il++[(⟨7,t.iF.getD 0 0,0,0,0,0⟩:lF)]) iC 1 p t.il.length) 1 p]).getD (t.iC+t.il.length) []=_;rw[W8 t.il _ iC 1 p _ (bD _),IY t.il _ _ rfl,IY _ _ _ (by rw[EH,hl]),hk];unfold qq nu;simp
 rw[e1];unfold Ac;rw[yb aC]
def XM{dir:Int}(h:dir=1\/dir=2):rk (3-dir) = -rk dir:=by
 rcases h with rfl|rfl<;>decide
def afx{dir:Int}(h:dir=1\/dir=2)(a b c d:Int):vH (3-dir) (-a) (-b) (-c) (-d)=vH dir a b c d:=by
 unfold vH;rw[XM h];generalize rk dir=s;congr 1
 .exact propext aC 
 .congr 1;exact propext aC 
def afw{dir:Int}(h:dir=1\/dir=2){a b c d:Int}(h3:vH dir a b c d=3):vH (3-dir) a b c d=1:=by
 unfold vH at *
 rw[XM h];split at h3
 .exact absurd h3 aE 
 .split at h3
  .rename_i q;rw[bw (.inr (by rw[q.1];omega))]
  .exact absurd h3 aE 
def ag3{s:jH}{t:j8}{x y:List Iv}{l o:Iv}{p:Nat}(h:lM s)(ht:np s t)(hx:jT s.iZ x)(hy:jT s.iZ y)(hl:l.iy)(iB:8<=p)(iw:p<=512)(hA:rC (k0 s x y (jF (kK o p)) 8 p)=false):
 nj s (nX t) x y (mz l) p o=nj s t x y l p o:=by
 have hb:=y7 (k:=8) h hx hy aE iB iw hA;unfold nj;rw[KI h ht hb,ab7 (vW h ht hb iB iw) hl aC aC]
def Yq{s:jH}{t:j8}{x y:List Iv}{l:Iv}{p:Nat}(h:lM s)(ht:np s t)(hx:jT s.iZ x)(hy:jT s.iZ y)(hl:l.iy)(iB:8<=p)(iw:p<=512):∀ (n:Nat) (o:Iv),wS s (nX t) x y (mz l) p n o=wS s t x y l p n o
 | 0,_=>rfl
 |n+1,o=>by
  unfold wS;cases hA:rC (k0 s x y (jF (kK o p)) 8 p)with
  |true=>
   have e1:tE s (nX t) x y (mz l) p o=true:=by unfold tE;rw[hA];rfl
   have e2:tE s t x y l p o=true:=by unfold tE;rw[hA];rfl
   rw[e1,e2,bw rfl,bw rfl]
  |false=>
   have e:=ag3 (o:=o) h ht hx hy hl iB iw hA;have e1:tE s (nX t) x y (mz l) p o=tE s t x y l p o:=by unfold tE;rw[e]
   rw[e1,e,Yq h ht hx hy hl iB iw n]
def alH{s:jH}{t:j8}{x:List Iv}(a b:Dy){y:List Iv}{p:Nat}(h:lM s)(ht:np s t)(xf:t.il.length<=40)(hx:jT s.iZ x)(hy:jT s.iZ y)(iB:8<=p)(iw:p<=512):As s (nX t) x a b y p=As s t x a b y p:=by
 unfold As;rw[X4 h ht xf hy iB iw,Yq h ht hx hy (BP h ht hy iB iw) iB iw]
def ajm{s:jH}{t:j8}{x:List Iv}(a b:Dy){y z:List Iv}{dir:Int}{p:Nat}(h:lM s)(ht:np s t)(xf:t.il.length<=40)(hx:jT s.iZ x)(hy:jT s.iZ y)(hz:jT s.iZ z)(iB:8<=p)(iw:p<=512)(hd:dir=1\/dir=2):
 mR s (nX t) x y z (3-dir) p=mR s t x y z dir p/\uL s (nX t) x a b y p=uL s t x a b y p/\(mR s t x y z dir p=3->mR s t x y z (3-dir) p=1):=by
 refine⟨?_,?_,afw hd⟩
 .unfold mR;rw[KI h ht hx,KI h ht hy,KI h ht hz,X4 h ht xf hy iB iw,Hc (vW h ht hx iB iw),Hc (vW h ht hy iB iw),Hc (vW h ht hz iB iw),Hc (BP h ht hy iB iw)];exact afx hd _ _ _ _
 .unfold uL;rw[alH a b h ht xf hx hy iB iw]
def qu:jH:=⟨⟨1,[⟨1,0,0,0,1,1⟩],[1]⟩,1,[]⟩
def rO:j8:=⟨1,[⟨1,0,0,0,1,2⟩,⟨4,0,1,0,0,0⟩],[2]⟩
def cA:Dy:=kH 0 0
def cB:Dy:=kH 1 0
def cX(k e:Int):List Iv:=[⟨kH 0 e,kH k e,false⟩]
def cY(k e:Int):List Iv:=[⟨kH 0 e,cB,false⟩]
def cZ:List Iv:=[jF cB]
def abz:mR qu rO (cX 0 0) (cY 0 0) cZ 1 24=3:= aL 
def abB:mR qu rO (cX 0 0) (cY 0 0) cZ 2 24=1:= aL 
def abC:mR qu rO (cX 1 (-1)) (cY 1 (-1)) cZ 1 24=2:= aL 
noncomputable def ze:Iv×List Iv:=(uL qu rO (cX 0 0) cA cB (cY 0 0) 24).getD (ix,[])
def Rg:(uL qu rO (cX 0 0) cA cB (cY 0 0) 24).isSome=true:= aL 
def abD:zj ze.1 (kH 1 (-1))=true:= aL 
def abA:ze.1.all=false:= aL 
def Ku:lM qu:=by
 refine⟨⟨aE,aE,aE,λi hi=>?_,λi hi=>?_⟩,aE,aE,rfl,rfl,aE,λi hi=>absurd hi (bF i)⟩
 .have hi:i<1:=hi;obtain rfl:i=0:= aC ;exact⟨.inl rfl,aE,rfl,rfl,rfl,aE,.inl aE⟩
 .have hi:i<1:=hi;obtain rfl:i=0:= aC ;decide
def Kv:np qu rO:=by
 refine⟨⟨aE,aE,aE,λi hi=>?_,λi hi=>?_⟩,rfl,rfl⟩
 .have hi:i<2:=hi;obtain rfl|rfl:i=0\/i=1:= aC 
  .exact ⟨.inl rfl,aE,rfl,rfl,rfl,aE,.inl aE⟩
  .exact ⟨.inr aE,aE,aE,aE,rfl,⟨rfl,rfl⟩,.inl aE⟩
 .have hi:i<1:=hi;obtain rfl:i=0:= aC ;decide
def Lg{B:Iv}(v:B.iy)(a:B.all=false):jT 1 [B]:=⟨rfl,λi hi=>by
 have hi:i<1:=hi;obtain rfl:i=0:= aC ;exact⟨v,a⟩⟩
def Fj:cA.iy:=xU aE aE aE 
def DA:cB.iy:=xU aE aE aE 
def Is{k e:Int}(h1:k.natAbs<4294967296)(h2:-1000<=e)(h3:e<=1000)(h:jE (kH 0 e) (kH k e)<=0):jT qu.iZ (cX k e):=Lg (.inr ⟨rfl,xU (show(0:Int).natAbs<4294967296 by decide) h2 h3,xU h1 h2 h3,h⟩) rfl
def It{k e:Int}(h2:-1000<=e)(h3:e<=1000)(h:jE (kH 0 e) cB<=0):jT qu.iZ (cY k e):=Lg (.inr ⟨rfl,xU (show(0:Int).natAbs<4294967296 by decide) h2 h3,DA,h⟩) rfl
def Lp:jT qu.iZ cZ:=Lg (qV DA) rfl
def abE:ze.1.iy:=by
 have h:=Rg;unfold ze;cases hq:uL qu rO (cX 0 0) cA cB (cY 0 0) 24 with
 |none=>rw[hq]at h;cases h
 |some q=>
  have hX:=Is (k:=0) (e:=0) aE aE aE aL;have hY:=It (k:=0) (e:=0) aE aE aL;unfold uL at hq;split at hq
  .cases hq
  .rename_i o ho;split at hq
   .cases hq
   .cases hq;have sf:o.iy:=by
     rcases PM Ku Kv hX hY aE aE Fj DA aL ho with rfl|h
     .exact mc
     .exact h.val
    exact qk (qV Fj) sf aE aE 
def CJ(n e:Int)(h1:n.natAbs<4294967296)(h2:-1000<=e)(h3:e<=1000):ik 46 [iP n,iP e] (iA (kH n e)):=by
 have hrg:oz (canon (Dy.neg (jo n)) (Dy.m (jo n)) ((Dy.e (jo n))+e)):=by rw[Q1];exact(xU h1 h2 h3).range
 exact ak call46 func46 (ae [ag [iP n] (ain _ aC),ag [iA (jo n),iP e] (air _ _ (s6 aC) aC aC hrg)]<|rQ (iA (canon (Dy.neg (jo n)) (Dy.m (jo n)) ((Dy.e (jo n))+e))) (iA (kH n e)) (by rw[Q1])) 
def UR(m n e:Int)(h0:m.natAbs<4294967296)(h1:n.natAbs<4294967296)(h2:-1000<=e)(h3:e<=1000):ik 47 [iP m,iP n,iP e] (iz ⟨kH m e,kH n e,false⟩):=
 ak call47 func47 (ae [.c (CJ m e aR aR aR),.c (CJ n e aR aR aR)]<|rR (iz ⟨kH m e,kH n e,false⟩) (.jl rfl:E.le (iz (Iv.mk (kH m e) (kH n e) false)) (iz ⟨kH m e,kH n e,false⟩))) 
def NI : ik 48 [] (jD qu):=
 ak call48 func48 (rR (jD qu) (by
  exact .agg (.cons (.refl _) (.cons (.sl λi j hi hj=>by
   obtain rfl:i=0:= aC ;rcases j with _|_|_|_|_|_|j
   all_goals first|exact⟨.jl rfl,rfl⟩|omega) (.cons (.sl λi j hi hj=>by
   obtain rfl:i=0:= aC ;rcases j with _|_|_|_|_|_|j
   all_goals first|exact⟨.jl rfl,rfl⟩|omega) (.cons (.refl _) (.cons (.nil _ _ _) .nil))))):E.le (.agg [iP 1,(.sl true 1 6 λi_ j_=>[iP 1,iP 0,iP 0,iP 0,iP 1,iP 1].getD (i_*6+j_) (.v (.bool false))),(.sl true 1 1 λi_ j_=>[iP 1].getD (i_*1+j_) (.v (.bool false))),iP 1,.v (.slice none 0 0)]) (jD qu))) 
def aft : ik 44 [.agg [iP 1,iP 2]] (jJ rO):=
 ak call44 func44 (rR (jJ rO) (by
  exact .agg (.cons (.refl _) (.cons (.sl λi j hi hj=>by
   obtain rfl|rfl:i=0\/i=1:= aC 
   all_goals rcases j with _|_|_|_|_|_|j
   all_goals first|exact⟨.jl rfl,rfl⟩|omega) (.cons (.sl λi j hi hj=>by
   obtain rfl:i=0:= aC ;rcases j with _|_|_|_|_|_|j
   all_goals first|exact⟨.jl rfl,rfl⟩|omega) .nil))):E.le (.agg [iP 1,(.sl true 2 6 λi_ j_=>[iP 1,iP 0,iP 0,iP 0,iP 1,iP 2,iP 4,iP 0,iP 1,iP 0,iP 0,iP 0].getD (i_*6+j_) (.v (.bool false))),(.sl true 1 1 λi_ j_=>[iP 2].getD (i_*1+j_) (.v (.bool false)))]) (jJ rO))) 
def On{y:Iv}{el:Nat->Nat->E}(h:∀ j,j<7->el 0 j=(iQ y).getD j .any):E.le (.sl true 1 7 el) (iq [y]):=.sl λi j hi hj=>by
 obtain rfl:i=0:= aC ;exact⟨.jl (h j hj),s7 _ _ hj⟩
def US(a b:Dy)(w:Iv)(hb:b.iy):ik 45 [iA a,iA b,iz w] (.iE [iq [w],.agg (iR a++iR b++[iq [⟨w.lo,b,false⟩],iq [jF b]])]):=
 ak call45 func45 (ae [.o 9 (.e (lJ _):aj (.sl true 1 7 λi_ j_=>(iQ w).getD (i_*7+j_) (.v (.bool false))) (iq [w])),.o 16 (.e (lJ _):aj (.sl true 1 7 λi_ j_=>(iQ (Iv.mk w.lo b false)).getD (i_*7+j_) (.v (.bool false))) (iq [Iv.mk w.lo b false])),.c (rZ b aD),.o 19 (.e (lJ _):aj (.sl true 1 7 λi_ j_=>(iQ (jF b)).getD (i_*7+j_) (.v (.bool false))) (iq [jF b]))]<|rR (.iE [iq [w],.agg (iR a++iR b++[iq [⟨w.lo,b,false⟩],iq [jF b]])]) (.iE (.cons (On λj hj=>by rcases j with _|_|_|_|_|_|_|j<;>first|rfl|omega) (.cons (.agg (.cons (.refl _) (.cons (.refl _) (.cons (.refl _) (.cons (.refl _) (.cons (.refl _) (.cons (.refl _) (.cons (On λj hj=>by rcases j with _|_|_|_|_|_|_|j<;>first|rfl|omega) (.cons (On λj hj=>by rcases j with _|_|_|_|_|_|_|j<;>first|rfl|omega) .nil))))))))) .nil)):E.le (.iE [iq [w],.agg (iR a++iR b++[iq [Iv.mk w.lo b false],iq [jF b]])]) (.iE [iq [w],.agg (iR a++iR b++[iq [⟨w.lo,b,false⟩],iq [jF b]])]))) 
def ad1(s:jH)(t:j8)(h:lM s)(ht:np s t):ik 56 [jD s,jJ t] (bP true):=by
 have hT:=ht.tape;have ot:=ht.iC;have wD:=ht.one;exact ak call56 func56 (af [.c (Pw s aD),.c (BS t aD),ah 17 ((t.iC:Int)==s.tape.iC) (bj aC),ah 23 ((t.iF.length:Int)==1) (bj aC)]) 
def aiG(s:jH)(x:List Iv)(a b:Dy)(y z:List Iv)(h:lM s)(hx:jT s.iZ x)(hy:jT s.iZ y)(hz:jT s.iZ z)(ha:a.iy)(hb:b.iy)(qD:jE a b<0)(hi:yC x y=true)(hj:yC z y=true):ik 57 [jD s,iq x,.agg (iR a++iR b++[iq y,iq z])] (bP true):=by
 have s1:=h.s1;have s4:=h.s4;have lx:=hx.len;have ly:=hy.len;have lz:=hz.len;exact ak call57 func57 (af [ag [iA a] (q7 _ aD),ag [iA b] (q7 _ aD),ag [iA a,iA b] (nv _ _ aD aD),tB 21 (bA qD),ah 28 ((x.length:Int)==s.iZ) (bj aC),.c (Lh x y aC aC aC hx.ok hy.ok),ah 34 (yC x y) hi,.c (Lh z y aC aC aC hz.ok hy.ok),ah 41 (yC z y) hj]) 
def ahC(dir:Int)(p:Nat)(hd:dir=1\/dir=2)(iB:8<=p)(iw:p<=512):ik 58 [iP dir,iP (p:Int)] (bP true):=by
 have:=Wi dir p;rwa[show sE dir p=true by unfold sE;rw[bA hd,bA aC];rfl]at this
def EL(s:jH)(t:j8)(x:List Iv)(a b:Dy)(y z:List Iv)(dir:Int)(p:Nat)(h:lM s)(ht:np s t)(hx:jT s.iZ x)(hy:jT s.iZ y)(hz:jT s.iZ z)(iB:8<=p)(iw:p<=512)(ha:a.iy)(hb:b.iy)(qD:jE a b<0)(hd:dir=1\/dir=2)(hi:yC x y=true)(hj:yC z y=true):ik 11 [jD s,jJ t,iq x,.agg (iR a++iR b++[iq y,iq z]),iP dir,iP p] (Dc s t x a b y z dir p):=
 ajn s t x a b y z dir p h ht hx hy hz iB iw ha (ad1 s t h ht) (aiG s x a b y z h hx hy hz ha hb qD hi hj) (ahC dir p hd iB iw) hb qD
def ZD:ik 11 [jD qu,jJ rO,iq (cX 0 0),.agg (iR cA++iR cB++[iq (cY 0 0),iq cZ]),iP 1,iP 24] (.iE [mu 3 1 ze.1 (iq ze.2),iP 0]):=by
 have:=EL qu rO (cX 0 0) cA cB (cY 0 0) cZ 1 24 Ku Kv (Is (k:=0) (e:=0) aE aE aE aL) (It (k:=0) (e:=0) aE aE aL) Lp aE aE Fj DA aL aE aL aL;unfold Dc at this;rw[abz,bw rfl]at this;have h:=Rg;unfold ze;cases hq:uL qu rO (cX 0 0) cA cB (cY 0 0) 24 with
 |none=>rw[hq]at h;cases h
 |some q=>rw[hq]at this;exact this
def ZE:ik 11 [jD qu,jJ rO,iq (cX 0 0),.agg (iR cA++iR cB++[iq (cY 0 0),iq cZ]),iP 2,iP 24] (.iE [mu 1 0 lV ni,iP 0]):=by
 have:=EL qu rO (cX 0 0) cA cB (cY 0 0) cZ 2 24 Ku Kv (Is (k:=0) (e:=0) aE aE aE aL) (It (k:=0) (e:=0) aE aE aL) Lp aE aE Fj DA aL aE aL aL;unfold Dc at this;rwa[abB,bu aE]at this
def ZF:ik 11 [jD qu,jJ rO,iq (cX 1 (-1)),.agg (iR cA++iR cB++[iq (cY 1 (-1)),iq cZ]),iP 1,iP 24] (.iE [mu 2 0 lV ni,iP 0]):=by
 have:=EL qu rO (cX 1 (-1)) cA cB (cY 1 (-1)) cZ 1 24 Ku Kv (Is (k:=1) (e:=(-1)) aE aE aE aL) (It (k:=1) (e:=(-1)) aE aE aL) Lp aE aE Fj DA aL aE aL aL;unfold Dc at this;rwa[abC,bu aE]at this
def xx : ik 7 [] (bP true):=
 ak call7 func7 (af [.c aft,.c (CJ 0 0 aR aR aR),.c (CJ 1 0 aR aR aR),.c (UR 0 0 0 aE aE aE aE),.c (US (kH 0 0) (kH 1 0) (⟨kH 0 0,kH 0 0,false⟩:Iv) (xU aE aE aE)),.c NI,ag [jD qu,jJ rO,iq [(⟨kH 0 0,kH 0 0,false⟩:Iv)],.agg (iR (kH 0 0)++iR (kH 1 0)++[iq [(⟨Iv.lo (⟨kH 0 0,kH 0 0,false⟩:Iv),kH 1 0,false⟩:Iv)],iq [jF (kH 1 0)]]),iP 1,iP 24] ZD,.c NI,ag [jD qu,jJ rO,iq [(⟨kH 0 0,kH 0 0,false⟩:Iv)],.agg (iR (kH 0 0)++iR (kH 1 0)++[iq [(⟨Iv.lo (⟨kH 0 0,kH 0 0,false⟩:Iv),kH 1 0,false⟩:Iv)],iq [jF (kH 1 0)]]),iP 2,iP 24] ZE,.c (CJ 0 0 aR aR aR),.c (CJ 1 0 aR aR aR),.c (UR 0 1 (-1) aE aE aE aE),.c (US (kH 0 0) (kH 1 0) (⟨kH 0 (-1),kH 1 (-1),false⟩:Iv) (xU aE aE aE)),.c NI,ag [jD qu,jJ rO,iq [(⟨kH 0 (-1),kH 1 (-1),false⟩:Iv)],.agg (iR (kH 0 0)++iR (kH 1 0)++[iq [(⟨Iv.lo (⟨kH 0 (-1),kH 1 (-1),false⟩:Iv),kH 1 0,false⟩:Iv)],iq [jF (kH 1 0)]]),iP 1,iP 24] ZF,ah 53 ((0:Int)==0) aE,ah 56 ((0:Int)==0) aE,ah 60 ((0:Int)==0) aE,ah 65 ((3:Int)==3) aE,.c (CJ 1 (-1) aR aR aR),.c (by have h_:=Uo ze.1 (kH 1 (-1)) abE abA (xU aE aE aE);rwa[abD]at h_:ik 49 [iz ze.1,iA (kH 1 (-1))] (bP true)),ah 76 ((1:Int)==1) aE,ah 81 ((2:Int)==2) aE]) 
def akV(s t:kg)(x:List RI)(a b:RD)(y z:List RI)(dir p:Int)(h1:mD s t p x y z=true):ik 3 [nm s,nn t,jd x,.agg [bP a.neg,iu a.L,iP a.e,bP b.neg,iu b.L,iP b.e,jd y,jd z],iP dir,iP p] (bP true):=
 ak call3 func3 (af [.c xx,.c (AY s t p x y z),ah 31 (mD s t p x y z) h1]) 
def akW(s t:kg)(x:List RI)(a b:RD)(y z:List RI)(dir p:Int)(h1:mD s t p x y z=false)(h2:o9 a=true):ik 3 [nm s,nn t,jd x,.agg [bP a.neg,iu a.L,iP a.e,bP b.neg,iu b.L,iP b.e,jd y,jd z],iP dir,iP p] (bP true):=
 ak call3 func3 (af [.c xx,.c (AY s t p x y z),ai 31 (mD s t p x y z) h1,.c (vi a),ah 35 (o9 a) h2]) 
def akX(s t:kg)(x:List RI)(a b:RD)(y z:List RI)(dir p:Int)(h1:mD s t p x y z=false)(h2:o9 a=false)(h3:o9 b=true):ik 3 [nm s,nn t,jd x,.agg [bP a.neg,iu a.L,iP a.e,bP b.neg,iu b.L,iP b.e,jd y,jd z],iP dir,iP p] (bP true):=
 ak call3 func3 (af [.c xx,.c (AY s t p x y z),ai 31 (mD s t p x y z) h1,.c (vi a),ai 35 (o9 a) h2,.c (vi b),ah 40 (o9 b) h3]) 
def akY(s t:kg)(x:List RI)(a b:RD)(y z:List RI)(dir p:Int)(h1:mD s t p x y z=false)(h2:o9 a=false)(h3:o9 b=false)(h4:t.iF.length≠1):ik 3 [nm s,nn t,jd x,.agg [bP a.neg,iu a.L,iP a.e,bP b.neg,iu b.L,iP b.e,jd y,jd z],iP dir,iP p] (bP true):=
 ak call3 func3 (af [.c xx,.c (AY s t p x y z),ai 31 (mD s t p x y z) h1,.c (vi a),ai 35 (o9 a) h2,.c (vi b),ai 40 (o9 b) h3,ah 46 ((t.iF.length:Int) != 1) (by rw[bne_iff_ne];omega)]) 
def akZ(s t:kg)(x:List RI)(a b:RD)(y z:List RI)(dir p:Int)(h1:mD s t p x y z=false)(h2:o9 a=false)(h3:o9 b=false)(h4:t.iF.length=1)(stm:t.il.length<=40)(gu:(re t).jB)(hu:qW (re t)=false)(e:Int)(hS:ik 11 [nm s,nn t,jd x,.agg [bP a.neg,iu a.L,iP a.e,bP b.neg,iu b.L,iP b.e,jd y,jd z],iP dir,iP p] (.iE [mu 0 0 lV ni,iP e])):ik 3 [nm s,nn t,jd x,.agg [bP a.neg,iu a.L,iP a.e,bP b.neg,iu b.L,iP b.e,jd y,jd z],iP dir,iP p] (bP true):=
 ak call3 func3 (af [.c xx,.c (AY s t p x y z),ai 31 (mD s t p x y z) h1,.c (vi a),ai 35 (o9 a) h2,.c (vi b),ai 40 (o9 b) h3,ai 46 ((t.iF.length:Int) != 1) (by simp[h4]),.c (JI t aC h4),ag [nm s,nn t,jd x,.agg [bP a.neg,iu a.L,iP a.e,bP b.neg,iu b.L,iP b.e,jd y,jd z],iP dir,iP p] hS,ag [nn (re t)] (Kw _ gu (by show(t.il++_).length<=1000;rw[cg,dm];omega)),ai 61 (qW (re t)) hu]) 
def ak0(s t:kg)(x:List RI)(a b:RD)(y z:List RI)(dir p:Int)(h1:mD s t p x y z=false)(h2:o9 a=false)(h3:o9 b=false)(h4:t.iF.length=1)(stm:t.il.length<=40)(gu:(re t).jB)(hu:qW (re t)=true)(hS:ik 11 [nm s,nn t,jd x,.agg [bP a.neg,iu a.L,iP a.e,bP b.neg,iu b.L,iP b.e,jd y,jd z],iP dir,iP p] (.iE [mu 0 0 lV ni,iP 1])):ik 3 [nm s,nn t,jd x,.agg [bP a.neg,iu a.L,iP a.e,bP b.neg,iu b.L,iP b.e,jd y,jd z],iP dir,iP p] (bP true):=
 ak call3 func3 (af [.c xx,.c (AY s t p x y z),ai 31 (mD s t p x y z) h1,.c (vi a),ai 35 (o9 a) h2,.c (vi b),ai 40 (o9 b) h3,ai 46 ((t.iF.length:Int) != 1) (by simp[h4]),.c (JI t aC h4),ag [nm s,nn t,jd x,.agg [bP a.neg,iu a.L,iP a.e,bP b.neg,iu b.L,iP b.e,jd y,jd z],iP dir,iP p] hS,ag [nn (re t)] (Kw _ gu (by show(t.il++_).length<=1000;rw[cg,dm];omega)),ah 61 (qW (re t)) hu,ah 65 ((1:Int)==1) aE]) 
def ak1(s t:kg)(x:List RI)(a b:RD)(y z:List RI)(dir p:Int)(h1:mD s t p x y z=false)(h2:o9 a=false)(h3:o9 b=false)(h4:t.iF.length=1)(stm:t.il.length<=40)(gu:(re t).jB)(hu:qW (re t)=true)(hS:ik 11 [nm s,nn t,jd x,.agg [bP a.neg,iu a.L,iP a.e,bP b.neg,iu b.L,iP b.e,jd y,jd z],iP dir,iP p] (.iE [mu 0 0 lV ni,iP 2])):ik 3 [nm s,nn t,jd x,.agg [bP a.neg,iu a.L,iP a.e,bP b.neg,iu b.L,iP b.e,jd y,jd z],iP dir,iP p] (bP true):=
 ak call3 func3 (af [.c xx,.c (AY s t p x y z),ai 31 (mD s t p x y z) h1,.c (vi a),ai 35 (o9 a) h2,.c (vi b),ai 40 (o9 b) h3,ai 46 ((t.iF.length:Int) != 1) (by simp[h4]),.c (JI t aC h4),ag [nm s,nn t,jd x,.agg [bP a.neg,iu a.L,iP a.e,bP b.neg,iu b.L,iP b.e,jd y,jd z],iP dir,iP p] hS,ag [nn (re t)] (Kw _ gu (by show(t.il++_).length<=1000;rw[cg,dm];omega)),ah 61 (qW (re t)) hu,ai 65 ((2:Int)==1) aE,ah 69 ((2:Int)==2) aE]) 
def ak2(s:jH)(t:j8)(x:List Iv)(a b:Dy)(y z:List Iv)(dir:Int)(p:Nat)(hd:dir=1\/dir=2)(wD:t.iF.length=1)(Ch:uT (nX t))(hG:ik 8 [jD s,jJ t,iP p,(.sl true 3 1 λi_ j_=>[iq x,iq y,iq z].getD (i_*1+j_) (.v (.bool false)))] (bP false))(sQ:ik 9 [iA a] (bP false))(sR:ik 9 [iA b] (bP false))(hN:ik 10 [jJ t] (jJ (nX t)))(hC:ik 11 [jD s,jJ t,iq x,.agg (iR a++iR b++[iq y,iq z]),iP dir,iP p] (.iE [mu 0 0 lV ni,iP 14]))(hD:ik 11 [jD s,jJ (nX t),iq x,.agg (iR a++iR b++[iq y,iq z]),iP (3-dir),iP p] (.iE [mu 0 0 lV ni,iP 14]))(hO:ik 11 [jD s,jJ t,iq x,.agg (iR a++iR b++[iq y,iq z]),iP (3-dir),iP p] (.iE [mu 1 0 lV ni,iP 0])):ik 3 [jD s,jJ t,iq x,.agg (iR a++iR b++[iq y,iq z]),iP dir,iP p] (bP true):=
 ak call3 func3 (af [.c xx,ag [jD s,jJ t,iP p,(.sl true 3 1 λi_ j_=>[iq x,iq y,iq z].getD (i_*1+j_) (.v (.bool false)))] hG,ag [iA a] sQ,ag [iA b] sR,ai 46 ((t.iF.length:Int) != 1) (by simp[wD]),ag [jJ t] hN,ag [jD s,jJ t,iq x,.agg (iR a++iR b++[iq y,iq z]),iP dir,iP p] hC,.c (BS (nX t) Ch),ai 65 ((14:Int)==1) aE,ai 69 ((14:Int)==2) aE,iL (3-dir) aC,ag [jD s,jJ (nX t),iq x,.agg (iR a++iR b++[iq y,iq z]),iP (3-dir),iP p] hD,iL (3-dir) aC,ag [jD s,jJ t,iq x,.agg (iR a++iR b++[iq y,iq z]),iP (3-dir),iP p] hO,ai 95 ((14:Int) != 14) aE,ah 97 ((14:Int) != 0) aE]) 
def YA(s:jH)(t:j8)(x:List Iv)(a b:Dy)(y z:List Iv)(dir:Int)(p:Nat)(hd:dir=1\/dir=2)(wD:t.iF.length=1)(Ch:uT (nX t))(hG:ik 8 [jD s,jJ t,iP p,(.sl true 3 1 λi_ j_=>[iq x,iq y,iq z].getD (i_*1+j_) (.v (.bool false)))] (bP false))(sQ:ik 9 [iA a] (bP false))(sR:ik 9 [iA b] (bP false))(hN:ik 10 [jJ t] (jJ (nX t)))(k:Int)(hk:k≠3)(ko d2:Int)(wo:Iv)(eo:Int)(hC:ik 11 [jD s,jJ t,iq x,.agg (iR a++iR b++[iq y,iq z]),iP dir,iP p] (.iE [mu k 0 lV ni,iP 0]))(hD:ik 11 [jD s,jJ (nX t),iq x,.agg (iR a++iR b++[iq y,iq z]),iP (3-dir),iP p] (.iE [mu k 0 lV ni,iP 0]))(hO:ik 11 [jD s,jJ t,iq x,.agg (iR a++iR b++[iq y,iq z]),iP (3-dir),iP p] (.iE [mu ko d2 wo ni,iP eo])):ik 3 [jD s,jJ t,iq x,.agg (iR a++iR b++[iq y,iq z]),iP dir,iP p] (bP true):=
 ak call3 func3 (af [.c xx,ag [jD s,jJ t,iP p,(.sl true 3 1 λi_ j_=>[iq x,iq y,iq z].getD (i_*1+j_) (.v (.bool false)))] hG,ag [iA a] sQ,ag [iA b] sR,ai 46 ((t.iF.length:Int) != 1) (by simp[wD]),ag [jJ t] hN,ag [jD s,jJ t,iq x,.agg (iR a++iR b++[iq y,iq z]),iP dir,iP p] hC,.c (BS (nX t) Ch),ai 65 ((0:Int)==1) aE,ai 69 ((0:Int)==2) aE,iL (3-dir) aC,ag [jD s,jJ (nX t),iq x,.agg (iR a++iR b++[iq y,iq z]),iP (3-dir),iP p] hD,iL (3-dir) aC,ag [jD s,jJ t,iq x,.agg (iR a++iR b++[iq y,iq z]),iP (3-dir),iP p] hO,ai 95 ((0:Int) != 0) aE,ai 97 ((0:Int) != 0) aE,.c (Xe k 0 lV Pg),tB 107 (bt hk)]) 
def ak3(s:jH)(t:j8)(x:List Iv)(a b:Dy)(y z:List Iv)(dir:Int)(p:Nat)(hd:dir=1\/dir=2)(wD:t.iF.length=1)(Ch:uT (nX t))(hG:ik 8 [jD s,jJ t,iP p,(.sl true 3 1 λi_ j_=>[iq x,iq y,iq z].getD (i_*1+j_) (.v (.bool false)))] (bP false))(sQ:ik 9 [iA a] (bP false))(sR:ik 9 [iA b] (bP false))(hN:ik 10 [jJ t] (jJ (nX t)))(k:Int)(hk:k≠3)(ko d2:Int)(wo:Iv)(l:List Iv)(eo:Int)(hC:ik 11 [jD s,jJ t,iq x,.agg (iR a++iR b++[iq y,iq z]),iP dir,iP p] (.iE [mu k 0 lV ni,iP 0]))(hD:ik 11 [jD s,jJ (nX t),iq x,.agg (iR a++iR b++[iq y,iq z]),iP (3-dir),iP p] (.iE [mu k 0 lV ni,iP 0]))(hO:ik 11 [jD s,jJ t,iq x,.agg (iR a++iR b++[iq y,iq z]),iP (3-dir),iP p] (.iE [mu ko d2 wo (iq l),iP eo])):ik 3 [jD s,jJ t,iq x,.agg (iR a++iR b++[iq y,iq z]),iP dir,iP p] (bP true):=
 ak call3 func3 (af [.c xx,ag [jD s,jJ t,iP p,(.sl true 3 1 λi_ j_=>[iq x,iq y,iq z].getD (i_*1+j_) (.v (.bool false)))] hG,ag [iA a] sQ,ag [iA b] sR,ai 46 ((t.iF.length:Int) != 1) (by simp[wD]),ag [jJ t] hN,ag [jD s,jJ t,iq x,.agg (iR a++iR b++[iq y,iq z]),iP dir,iP p] hC,.c (BS (nX t) Ch),ai 65 ((0:Int)==1) aE,ai 69 ((0:Int)==2) aE,iL (3-dir) aC,ag [jD s,jJ (nX t),iq x,.agg (iR a++iR b++[iq y,iq z]),iP (3-dir),iP p] hD,iL (3-dir) aC,ag [jD s,jJ t,iq x,.agg (iR a++iR b++[iq y,iq z]),iP (3-dir),iP p] hO,ai 95 ((0:Int) != 0) aE,ai 97 ((0:Int) != 0) aE,.c (Xe k 0 lV Pg),tB 107 (bt hk)]) 
def ak4(s:jH)(t:j8)(x:List Iv)(a b:Dy)(y z:List Iv)(dir:Int)(p:Nat)(hd:dir=1\/dir=2)(wD:t.iF.length=1)(Ch:uT (nX t))(hG:ik 8 [jD s,jJ t,iP p,(.sl true 3 1 λi_ j_=>[iq x,iq y,iq z].getD (i_*1+j_) (.v (.bool false)))] (bP false))(sQ:ik 9 [iA a] (bP false))(sR:ik 9 [iA b] (bP false))(hN:ik 10 [jJ t] (jJ (nX t)))(w:Iv)(hw:w.iy)(l:List Iv)(hb:∀ i,i<l.length->(l.getD i ix).iy)(hl:l.length<=1000)(hC:ik 11 [jD s,jJ t,iq x,.agg (iR a++iR b++[iq y,iq z]),iP dir,iP p] (.iE [mu 3 dir w (iq l),iP 0]))(hD:ik 11 [jD s,jJ (nX t),iq x,.agg (iR a++iR b++[iq y,iq z]),iP (3-dir),iP p] (.iE [mu 3 (3-dir) w (iq l),iP 0]))(hO:ik 11 [jD s,jJ t,iq x,.agg (iR a++iR b++[iq y,iq z]),iP (3-dir),iP p] (.iE [mu 1 0 lV ni,iP 0])):ik 3 [jD s,jJ t,iq x,.agg (iR a++iR b++[iq y,iq z]),iP dir,iP p] (bP true):=
 ak call3 func3 (af [.c xx,ag [jD s,jJ t,iP p,(.sl true 3 1 λi_ j_=>[iq x,iq y,iq z].getD (i_*1+j_) (.v (.bool false)))] hG,ag [iA a] sQ,ag [iA b] sR,ai 46 ((t.iF.length:Int) != 1) (by simp[wD]),ag [jJ t] hN,ag [jD s,jJ t,iq x,.agg (iR a++iR b++[iq y,iq z]),iP dir,iP p] hC,.c (BS (nX t) Ch),ai 65 ((0:Int)==1) aE,ai 69 ((0:Int)==2) aE,iL (3-dir) aC,ag [jD s,jJ (nX t),iq x,.agg (iR a++iR b++[iq y,iq z]),iP (3-dir),iP p] hD,iL (3-dir) aC,ag [jD s,jJ t,iq x,.agg (iR a++iR b++[iq y,iq z]),iP (3-dir),iP p] hO,ai 95 ((0:Int) != 0) aE,ai 97 ((0:Int) != 0) aE,.c (ai8 3 dir w hw l hb hl),ai 107 ((3:Int) != 3) aE,ah 110 ((0:Int)==0) aE,ah 114 ((1:Int)==1) aE]) 
def Mi{x:List RI}(gx0:∀ w,w ∈ x->w.jB):∀ i,(x.getD i lg).jB:=λi=>by
 rw[bC];by_cases h:i<x.length
 .rw [bG h];exact gx0 _ (cO h)
 .rw [cE aC];exact EJ
def agT{t:kg}(g:t.jB):(re t).jB:=by
 refine⟨g.iC,λi=>?_,λi=>?_,kJ,λi=>?_⟩
 .show (List.getD (t.il++[(⟨7,t.iF.getD 0 0,0,0,0,0⟩:kY)]) i lE).jB;rw[bC];by_cases h:i<t.il.length
  .rw [dp h,<-bC];exact g.il i
  .rw [et aC];rcases i-t.il.length with _|j
   .exact ⟨by show kB .i64 7;unfold kB;decide,g.iF 0,kJ,kJ,kJ,kJ⟩
   .exact ⟨kJ,kJ,kJ,kJ,kJ,kJ⟩
 .rcases i with _|j
  .exact alR _
  .exact kJ
 .exact EJ
def agU{t:kg}(h:qW t=true)(h4:t.iF.length=1)(xf:t.il.length<=40):nn (re t)=jJ (nX t.t):=by
 have hb:=h;unfold qW at hb;simp only[bO,cL]at hb;obtain⟨⟨⟨i0,i8,l1,l2⟩,ho⟩,hu⟩:=hb;have ho:=bT.1 ho;have TM:0<=t.iF.getD 0 0/\t.iF.getD 0 0<t.iC+(t.il.length:Int):=cQ (bT.1 hu 0 (cC.2 aC));have ew:wr (wr (t.iC+((t.il.length+1:Nat):Int))-1)=t.iC+(t.il.length:Int):=by
  unfold wr;rw[i64_in (t.iC+((t.il.length+1:Nat):Int)) aC aC,i64_in _ aC aC];omega
 have hN:qW (re t)=true:=by
  unfold qW;rw[bO,bO,cL];refine⟨⟨⟨i0,i8,?_,?_⟩,?_⟩,?_⟩
  .show (t.il++_).length<=200;rw[cg,dm];omega
  .show 1<=200;decide
  .refine bT.2 λi hi=>?_
   have hi:i<t.il.length+1:=by have:=cC.1 hi;simpa[re]using this
   show jN ((t.il++[(⟨7,t.iF.getD 0 0,0,0,0,0⟩:kY)]).getD i lE) (t.iC+(i:Int))=true;rw[bC];by_cases hl:i<t.il.length
   .rw [dp hl,<-bC];exact ho i (cC.2 hl)
   .obtain rfl:i=t.il.length:= aC ;rw[et (bD _),dq];show jN ⟨7,t.iF.getD 0 0,0,0,0,0⟩ (t.iC+(t.il.length:Int))=true;unfold jN;rw[bu (show ¬(7:Int)=1 by decide),bu (show ¬((3:Int)<=7/\(7:Int)<=6)by decide),bu (show ¬(7:Int)=8 by decide),bw (show(7:Int)=7\/(9:Int)<=7/\(7:Int)<=13 by decide)];exact bA ⟨rfl,rfl,TM.1,TM.2,rfl,rfl⟩
  .refine bT.2 λi hi=>?_
   have hi:i<1:=cC.1 hi;obtain rfl:i=0:= aC ;show uc (re t) (wr (wr (t.iC+((t.il.length+1:Nat):Int))-1))=true;unfold uc;rw[ew,cL];show 0<=t.iC+(t.il.length:Int)/\t.iC+(t.il.length:Int)<t.iC+((t.il++[(⟨7,t.iF.getD 0 0,0,0,0,0⟩:kY)]).length:Int)
   rw[cg,dm];omega
 rw[(W7 hN).2];obtain⟨k,hk⟩:∃ k,t.iF=[k]:=amM.1 h4;show jJ ⟨t.iC.toNat,(t.il++[(⟨7,t.iF.getD 0 0,0,0,0,0⟩:kY)]).map kY.v,[(wr (wr (t.iC+((t.il.length+1:Nat):Int))-1)).toNat]⟩=jJ ⟨t.iC.toNat,t.il.map kY.v++[⟨7,(t.iF.map Int.toNat).getD 0 0,0,0,0,0⟩],[t.iC.toNat+(t.il.map kY.v).length]⟩;rw[ew,hk,gq,b6,show(t.iC+(t.il.length:Int)).toNat=t.iC.toNat+t.il.length by omega];rfl
def akc{s:jH}{t:j8}{x:List Iv}{a b:Dy}{y:List Iv}{p:Nat}(h:lM s)(ht:np s t)(hx:jT s.iZ x)(hy:jT s.iZ y)(iB:8<=p)(iw:p<=512)(ha:a.iy)(hb:b.iy)(qD:jE a b<0){q:Iv×List Iv}(hq:uL s t x a b y p=some q):q.1.iy/\(∀ i,i<q.2.length->(q.2.getD i ix).iy)/\q.2.length<=1000:=by
 have s4:=h.s4;have ly:=hy.len;unfold uL at hq;split at hq
 .cases hq
 .rename_i o ho;have sf:o.iy:=by
   rcases PM h ht hx hy iB iw ha hb qD ho with rfl|h
   .exact mc
   .exact h.val
  split at hq
  .cases hq
  .rename_i l hl;cases hq;refine⟨qk (qV ha) sf aC aC,?_⟩;unfold KL at hl;split at hl
   .cases hl;exact⟨λi hi=>(hy.ok i hi).1,by show y.length<=1000;omega⟩
   .split at hl
    .cases hl;exact⟨λi hi=>(hy.ok i hi).1,by show y.length<=1000;omega⟩
    .rename_i hA;have jj:=y7 (k:=8) h hx hy aE iB iw (by simpa using hA);split at hl
     .rename_i hM;cases hl;have hm:=agv hy jj hM;have:=hm.len;exact⟨λi hi=>(hm.ok i hi).1,by show(uD y _).length<=1000;omega⟩
     .cases hl
def PG(s t:kg)(x:List RI)(a b:RD)(y z:List RI)(dir p:Int)(h1:mD s t p x y z=false)(h2:o9 a=false)(h3:o9 b=false)(h4:t.iF.length=1)(stm:t.il.length<=40)(gt:t.jB)(e:Int)(he:e=1\/e=2)(hS:ik 11 [nm s,nn t,jd x,.agg [bP a.neg,iu a.L,iP a.e,bP b.neg,iu b.L,iP b.e,jd y,jd z],iP dir,iP p] (.iE [mu 0 0 lV ni,iP e])):ik 3 [nm s,nn t,jd x,.agg [bP a.neg,iu a.L,iP a.e,bP b.neg,iu b.L,iP b.e,jd y,jd z],iP dir,iP p] (bP true):=by
 have gu:=agT gt;cases hu:qW (re t)with
 |false=>exact akZ s t x a b y z dir p h1 h2 h3 h4 stm gu hu e hS
 |true=>
  rcases he with rfl|rfl
  .exact ak0 s t x a b y z dir p h1 h2 h3 h4 stm gu hu hS
  .exact ak1 s t x a b y z dir p h1 h2 h3 h4 stm gu hu hS
def ak5(s:jH)(t:j8)(x:List Iv)(a b:Dy)(y z:List Iv)(dir:Int)(p:Nat)(hd:dir=1\/dir=2)(h:lM s)(ht:np s t)(xf:t.il.length<=40)(hx:jT s.iZ x)(hy:jT s.iZ y)(hz:jT s.iZ z)(iB:8<=p)(iw:p<=512)(ha:a.iy)(hb:b.iy)(qD:jE a b<0)(hi:yC x y=true)(hj:yC z y=true)(hG:ik 8 [jD s,jJ t,iP p,(.sl true 3 1 λi_ j_=>[iq x,iq y,iq z].getD (i_*1+j_) (.v (.bool false)))] (bP false))(sQ:ik 9 [iA a] (bP false))(sR:ik 9 [iA b] (bP false))(hN:ik 10 [jJ t] (jJ (nX t))):ik 3 [jD s,jJ t,iq x,.agg (iR a++iR b++[iq y,iq z]),iP dir,iP p] (bP true):=by
 have DO:=VS ht xf;have S7:(3-dir)=1\/(3-dir)=2:= aC ;obtain⟨q1,q2,q3⟩:=ajm a b h ht xf hx hy hz iB iw hd;have hC:=EL s t x a b y z dir p h ht hx hy hz iB iw ha hb qD hd hi hj;have hD:=EL s (nX t) x a b y z (3-dir) p h DO hx hy hz iB iw ha hb qD S7 hi hj;have hO:=EL s t x a b y z (3-dir) p h ht hx hy hz iB iw ha hb qD S7 hi hj;unfold Dc at hC hD hO;rw[q1,q2]at hD;by_cases hk:mR s t x y z dir p=3
 .rw [bw hk]at hC hD;rw[q3 hk,bu aE]at hO;cases hs:uL s t x a b y p with
  |none=>
   rw[hs]at hC hD;exact ak2 s t x a b y z dir p hd ht.one DO.tape hG sQ sR hN hC hD hO
  |some q=>
   rw[hs]at hC hD;obtain⟨v1,v2,v3⟩:=akc h ht hx hy iB iw ha hb qD hs;exact ak4 s t x a b y z dir p hd ht.one DO.tape hG sQ sR hN q.1 v1 q.2 v2 v3 hC hD hO
 .rw [bu hk]at hC hD;by_cases ho:mR s t x y z (3-dir) p=3
  .rw [bw ho]at hO;cases hs:uL s t x a b y p with
   |none=>
    rw[hs]at hO;exact YA s t x a b y z dir p hd ht.one DO.tape hG sQ sR hN _ hk 0 0 lV 14 hC hD hO
   |some q=>
    rw[hs]at hO;exact ak3 s t x a b y z dir p hd ht.one DO.tape hG sQ sR hN _ hk 3 (3-dir) q.1 q.2 0 hC hD hO
  .rw [bu ho]at hO;exact YA s t x a b y z dir p hd ht.one DO.tape hG sQ sR hN _ hk _ 0 lV 0 hC hD hO
def L9{l:List RI}(h:nP l=false):l.length<=10:=by
 unfold nP at h;rw[eu]at h;have:=fG h.1;omega
def afC(s t:kg)(x:List RI)(a b:RD)(y z:List RI)(dir p:Int)(g:s.jB)(gt:t.jB)(gx0:∀ w,w ∈ x->w.jB)(ga:a.jB)(gb:b.jB)(gy0:∀ w,w ∈ y->w.jB)(gz0:∀ w,w ∈ z->w.jB):
 ik 3 [nm s,nn t,jd x,.agg (xI a++xI b++[jd y,jd z]),iP dir,iP p] (bP true):=by
 have gx:=Mi gx0;have gy:=Mi gy0;have gz:=Mi gz0;cases h1:mD s t p x y z with
 |true=>exact akV s t x a b y z dir p h1
 |false=>
 cases h2:o9 a with
 |true=>exact akW s t x a b y z dir p h1 h2
 |false=>
 cases h3:o9 b with
 |true=>exact akX s t x a b y z dir p h1 h2 h3
 |false=>
 by_cases h4:t.iF.length=1
 rotate_left
 .exact akY s t x a b y z dir p h1 h2 h3 h4
 have MV:=h1;unfold mD tD at MV;simp only[eu,Bool.and_eq_false_iff,decide_eq_false_iff_not]at MV;obtain⟨⟨_,b2,b3,b4,_⟩,fx,fy,fz,_⟩:=MV;have stm:t.il.length<=40:= aC ;have sm:s.wX:=⟨aC,aC⟩
 have lQ:=L9 fx;have pH:=L9 fy;have qg:=L9 fz;have lQ:x.length<=1000:= aC ;have pH:y.length<=1000:= aC ;have qg:z.length<=1000:= aC ;cases c1:su s t with
 |false=>exact PG s t x a b y z dir p h1 h2 h3 h4 stm gt 1 (.inl rfl) (aje s g sm t gt aC x gx lQ y z gy gz pH qg a b ga gb dir p c1)
 |true=>
 cases c2:BH s x a b y z with
 |false=>exact PG s t x a b y z dir p h1 h2 h3 h4 stm gt 1 (.inl rfl) (ajf s g sm t gt aC x gx lQ y z gy gz pH qg a b ga gb dir p c1 c2)
 |true=>
 cases c3:sE dir p with
 |false=>exact PG s t x a b y z dir p h1 h2 h3 h4 stm gt 2 (.inr rfl) (ajg s g sm t gt aC x gx lQ y z gy gz pH qg a b ga gb dir p c1 c2 c3)
 |true=>
 have hG:=AY s t p x y z;have sQ:=vi a;have sR:=vi b;have hN:=JI t aC h4;rw[h1]at hG;rw[h2]at sQ;rw[h3]at sR;unfold su at c1;simp only[bO,cL]at c1;obtain⟨hs,ht,ot,_⟩:=c1;obtain⟨o1,o2⟩:=ai3 g hs;obtain⟨q1,q2⟩:=W7 ht;have hNT:=agU ht h4 stm;unfold BH xK CC at c2;simp only[bO,cL]at c2;obtain⟨ca,cb,qD,D0,⟨tw,hi⟩,_,hj⟩:=c2;have ca:=ED.1 ca;have cb:=ED.1 cb;unfold wT at *
 rename_i tz;simp only[bO,cL]at tw tz;obtain⟨bx,by_,lxy⟩:=tw;obtain⟨bz,_,lzy⟩:=tz;obtain⟨_,_,nx,ex⟩:=Fi gx bx;obtain⟨_,_,ny,ey⟩:=Fi gy by_;obtain⟨_,_,nz,ez⟩:=Fi gz bz;have s1:=o1.s1;have Nf:x.length=s.v.iZ:=by
  show x.length=s.iZ.toNat
  omega
 have hX:jT s.v.iZ (x.map RI.iv):=⟨by rw[b6,Nf],nx⟩
 have hY:jT s.v.iZ (y.map RI.iv):=⟨by rw[b6,<-lxy,Nf],ny⟩
 have hZ:jT s.v.iZ (z.map RI.iv):=⟨by rw[b6,lzy,<-lxy,Nf],nz⟩
 have hGd:np s.v t.t:=⟨q1,by show t.iC.toNat=s.iC.toNat;rw[ot],by show(t.iF.map Int.toNat).length=1;rw[b6];exact h4⟩
 unfold sE at c3;simp only[bO,cL]at c3;obtain⟨hd,iB,iw⟩:=c3;obtain⟨p,rfl⟩:=gK (aC:0<=p);have e1:tl a=iA a.dy:=by rw[<-LI,ca.eq ga]
 have e2:tl b=iA b.dy:=by rw[<-LI,cb.eq gb]
 rw[hNT,q2]at hN;have hG2:ik 8 [jD s.v,jJ t.t,iP p,(.sl true 3 1 λi_ j_=>[iq (x.map RI.iv),iq (y.map RI.iv),iq (z.map RI.iv)].getD (i_*1+j_) (.v (.bool false)))] (bP false):=by
  have h_:=hG;rw[show([nm s,nn t,iP p,(.sl true 3 1 λi_ j_=>[jd x,jd y,jd z].getD (i_*1+j_) (.v (.bool false)))]:List E)=[jD s.v,jJ t.t,iP p,(.sl true 3 1 λi_ j_=>[iq (x.map RI.iv),iq (y.map RI.iv),iq (z.map RI.iv)].getD (i_*1+j_) (.v (.bool false)))]by rw[o2,q2,ex,ey,ez]]at h_;exact h_
 rw[o2,q2,ex,ey,ez,J7 ga ca,J7 gb cb];exact ak5 s.v t.t (x.map RI.iv) a.dy b.dy (y.map RI.iv) (z.map RI.iv) dir p hd o1 hGd (by show(t.il.map kY.v).length<=40;rw[b6];exact stm) hX hY hZ aC aC ca.valid cb.valid qD hi hj hG2 (by have h_:=sQ;exact e1▸h_) (by have h_:=sR;exact e2▸h_) hN
open Go.ChangeShapes Go.WideShapes Go.ChangeAt
def KU(W:World)(o:kY)(cs:List Value):Prop:=o.jB/\cs.length=6/\∀ j,j<6->∃ v,cs[j]? = some v/\iO mA mA W ((uJ o).getD j .any) v
def afX{α:Type}{l:List α}(h:l.length=2):∃ a b,l=[a,b]:=by
 rcases l with _|⟨a,_|⟨b,_|⟨c,l⟩⟩⟩<;>simp at h
 exact⟨a,b,rfl⟩
def afY{α:Type}{l:List α}(h:l.length=5):∃ a b c d e,l=[a,b,c,d,e]:=by
 rcases l with _|⟨a,_|⟨b,_|⟨c,_|⟨d,_|⟨e,_|⟨f,l⟩⟩⟩⟩⟩⟩<;>simp at h
 exact⟨a,b,c,d,e,rfl⟩
def afZ{α:Type}{l:List α}(h:l.length=6):∃ a b c d e f,l=[a,b,c,d,e,f]:=by
 rcases l with _|⟨a,_|⟨b,_|⟨c,_|⟨d,_|⟨e,_|⟨f,_|⟨g,l⟩⟩⟩⟩⟩⟩⟩<;>simp at h
 exact⟨a,b,c,d,e,f,rfl⟩
section
variable {H:Type} {enc:TypeId×Value->H} {W:World} {fuel:Nat} {cs:List Value} {x:DataW H×List MemPlace}
def Bz(h:DataW.trod enc prog W 0 (λ_=>true) true fuel 3 cs=some x):∃ z,cs=[.int .i64 z]/\kB .i64 z:=by
 obtain⟨z,hz,_,hw⟩:=DataW.trod_int underlying3 h;exact⟨z,hz,YP hw⟩
def ahg(h:DataW.trod enc prog W 0 (λ_=>true) true fuel 93 cs=some x):∃ n d,cs=[.int .i64 n,.int .i64 d]/\kB .i64 n/\kB .i64 d:=by
 obtain⟨xs,n,rfl,rfl,hl,lQ,hf⟩:=DataW.trod_struct underlying93 h;have hC:prog.cellsOf 93=2:= aF ;have hI:prog.cellsOf 3=1:= aF ;rw[hC]at hl;obtain⟨c0,c1,rfl⟩:=afX hl;have h0:=hf 0 _ rfl;have h1:=hf 1 _ rfl;simp only[fj,fk,ek]at h0 h1;simp only[hI,fm,fo,eO,fp]at h0 h1;rw[bG (by rw[lQ];decide)]at h0 h1;obtain⟨z0,e0,w0⟩:=Bz h0;obtain⟨z1,e1,w1⟩:=Bz h1;simp at e0 e1;subst e0 e1;exact⟨z0,z1,rfl,w0,w1⟩
def ahi(h:DataW.trod enc prog W 0 (λ_=>true) true fuel 107 cs=some x):∃ o,KU W o cs:=by
 obtain⟨xs,n,rfl,rfl,hl,lQ,hf⟩:=DataW.trod_struct underlying107 h;have hC:prog.cellsOf 107=6:= aF ;have hR:prog.cellsOf 93=2:= aF ;have hI:prog.cellsOf 3=1:= aF ;rw[hC]at hl;obtain⟨c0,c1,c2,c3,c4,c5,rfl⟩:=afZ hl;have h0:=hf 0 _ rfl;have h1:=hf 1 _ rfl;have h2:=hf 2 _ rfl;have h3:=hf 3 _ rfl;have h4:=hf 4 _ rfl;simp only[fj,fk,ek]at h0 h1 h2 h3 h4;simp only[hI,hR,fm,fo,eO,fp]at h0 h1 h2 h3 h4;rw[bG (by rw[lQ];decide)]at h0 h1 h2 h3 h4;obtain⟨z0,e0,w0⟩:=Bz h0;obtain⟨z1,e1,w1⟩:=Bz h1;obtain⟨z2,e2,w2⟩:=Bz h2;obtain⟨z3,e3,w3⟩:=Bz h3;obtain⟨z4,z5,e4,w4,w5⟩:=ahg h4;simp at e0 e1 e2 e3 e4;obtain⟨e4,e5⟩:=e4;subst e0 e1 e2 e3 e4 e5;refine⟨⟨z0,z1,z2,z3,z4,z5⟩,⟨w0,w1,w2,w3,w4,w5⟩,rfl,λj hj=>?_⟩;rcases j with _|_|_|_|_|_|j
 all_goals first|exact⟨_,rfl,.v _⟩|omega
def aiL(o:kY)(j:Nat)(hj:j<6):((uJ o).getD j .any).one=true/\(((uJ o).getD j .any).mS=true)/\((uJ o).getD j .any).nr 2=true:=by
 rcases j with _|_|_|_|_|_|j
 all_goals first|exact⟨rfl,rfl,rfl⟩|omega
def ahj(h:DataW.trod enc prog W 0 (λ_=>true) true fuel 22 cs=some x):
  ∃ l v,cs=[v]/\(∀ y,y ∈ l->y.jB)/\iO mA mA W (lK l) v:=by
 have hC:prog.cellsOf 107=6:= aF ;rcases Deep.open_slice underlying22 h with⟨rfl,_⟩|⟨a,len,cap,m,n,D,Pl,rfl,hb,hl,hm,sV,rfl,hx⟩
 .exact ⟨[],_,rfl,(λy hy=>by cases hy),.sl true 0 6 _ none 0 (λ_ _=>.bool false) (bD _) aE (λ_=>rfl) (λi j hi=>absurd hi (bF i)) (λi j hi=>absurd hi (bF i)) (λi j hi=>absurd hi (bF i)) (λi j hi=>absurd hi (bF i))⟩
 .simp only[bL]at sV;subst sV;have ex:∀ i,∃ y:kY,i<len->∃ cs',W.cells? 0 (a.add (i*6)) 6=some cs'/\KU W y cs':=by
   intro i;by_cases hi:i<len
   .obtain ⟨cs',h1,h2⟩:=hx i aC ;rw[hC]at h1;obtain⟨y,hy⟩:=ahi h2;exact⟨y,λ_=>⟨cs',h1,hy⟩⟩
   .exact ⟨lE,λh=>absurd h hi⟩
  let X:Nat->kY:=λi=>Classical.choose (ex i)
  have hX:∀ i,i<len->∃ cs',W.cells? 0 (a.add (i*6)) 6=some cs'/\KU W (X i) cs':=λi=>dh (ex i)
  have hlen:((List.range len).map X).length=len:= aH ;refine⟨(List.range len).map X,_,rfl,?_,?_⟩
  .intro y hy;obtain⟨i,hi,rfl⟩:=dG.1 hy;obtain⟨cs',_,h2⟩:=hX i (cC.1 hi);exact h2.1
  .have Cl:∀ i,i<len->((List.range len).map X).getD i lE=X i:=by
    intro i hi;rw[bC,cG,amJ hi];rfl
   have:=OX (W:=W) (a:=a) (len:=len) (cap:=m) (nl:=true) (λi j=>(uJ (((List.range len).map X).getD i lE)).getD j .any) hl hm (show 0<6 by decide)
    (λi j _ hj=>let⟨h1,h2,h3⟩:=aiL (((List.range len).map X).getD i lE) j hj;⟨h1,λ_=>h2,h3⟩)
    (λi hi=>by
     obtain⟨cs',h1,h2,_,h3⟩:=hX i hi;exact⟨cs',h1,λj hj=>by rw[Cl i hi];exact h3 j hj⟩)
   unfold lK;rw[hlen];exact this
def WQ:lE.jB:=by constructor<;>(show kB .i64 0;unfold kB;decide)
def FK{α:Type}{P:α->Prop}{l:List α}{d:α}(h:∀ y,y ∈ l->P y)(hd:P d)(i:Nat):P (l.getD i d):=by
 by_cases hi:i<l.length
 .rw [bC,bG hi];exact h _ (cO hi)
 .rw [bC,cE aC];exact hd
def PW(W:World)(s:kg)(cs:List Value):Prop:=s.jB/\cs.length=5/\∀ j,j<5->∃ v,cs[j]? = some v/\iO mA mA W ((Pc s).getD j .any) v
def Wa(h:DataW.trod enc prog W 0 (λ_=>true) true fuel 25 cs=some x):
 ∃ (n:Int) (il:List kY) (iF:List Int) (v w:Value),cs=[.int .i64 n,v,w]/\kB .i64 n/\(∀ y,y ∈ il->y.jB)/\(∀ z,z ∈ iF->kB .i64 z)/\iO mA mA W (lK il) v/\iO mA mA W (mL iF) w:=by
 obtain⟨xs,n,rfl,rfl,hl,lQ,hf⟩:=DataW.trod_struct underlying25 h;have hC:prog.cellsOf 25=3:= aF ;have hI:prog.cellsOf 3=1:= aF ;have hO:prog.cellsOf 22=1:= aF ;have hU:prog.cellsOf 23=1:= aF ;rw[hC]at hl;obtain⟨c0,c1,c2,rfl⟩:=U8 hl;have h0:=hf 0 _ rfl;have h1:=hf 1 _ rfl;have h2:=hf 2 _ rfl;simp only[fj,fk,ek]at h0 h1 h2;simp only[hI,hO,hU,fm,fo,eO,fp]at h0 h1 h2;rw[bG (by rw[lQ];decide)]at h0 h1 h2;obtain⟨z0,e0,w0⟩:=Bz h0;obtain⟨il,v,e1,g1,r1⟩:=ahj h1;obtain⟨iF,w,e2,g2,r2⟩:=ahe (k:=.i64) (λ_=>rfl) underlying23 underlying3 hI h2;simp at e0 e1 e2;subst e0 e1 e2;exact⟨z0,il,iF,_,_,rfl,w0,g1,g2,r1,r2⟩
def ahl(h:DataW.trod enc prog W 0 (λ_=>true) true fuel 28 cs=some x)(iJ:∀ p ∈ x.2,p.block<W.heap.size):∃ s,PW W s cs:=by
 obtain⟨xs,n,rfl,rfl,hl,lQ,hf⟩:=DataW.trod_struct underlying28 h;have hC:prog.cellsOf 28=5:= aF ;have hT:prog.cellsOf 25=3:= aF ;have hI:prog.cellsOf 3=1:= aF ;have hP:prog.cellsOf 26=1:= aF ;rw[hC]at hl;obtain⟨c0,c1,c2,c3,c4,rfl⟩:=afY hl;have h0:=hf 0 _ rfl;have h1:=hf 1 _ rfl;have h2:=hf 2 _ rfl;simp only[fj,fk,ek]at h0 h1 h2;simp only[hT,hI,hP,fm,fo,eO,fp]at h0 h1 h2;rw[bG (by rw[lQ];decide)]at h0 h1 h2;obtain⟨z0,il,iF,v,w,e0,w0,g1,g2,r1,r2⟩:=Wa h0;obtain⟨z1,e1,w1⟩:=Bz h1;obtain⟨ps,u,e2,g3,r3⟩:=JS h2 (λp hp=>iJ p (dH.2 ⟨_,cO _,hp⟩));simp at e0 e1 e2;obtain⟨e0,e0b,e0c⟩:=e0;subst e0 e0b e0c e1 e2;refine⟨⟨z0,il,iF,z1,ps⟩,⟨w0,FK g1 WQ,FK g2 (by unfold kB;decide),w1,FK g3 EJ⟩,rfl,λj hj=>?_⟩;rcases j with _|_|_|_|_|j
 .exact ⟨_,rfl,.v _⟩
 .exact ⟨_,rfl,r1⟩
 .exact ⟨_,rfl,r2⟩
 .exact ⟨_,rfl,.v _⟩
 .exact ⟨_,rfl,r3⟩
 .omega
end
def aku{W:World}{x:kg}{cs:Array Value}(h:PW W x cs.toList):iO mA mA W (nm x) (.agg cs):=by
 obtain⟨_,hl,h⟩:=h;have:=iO.agg (bs:=mA) (br:=mA) (w:=W) (Pc x) cs.toList (by rw[hl];rfl) (λi p v h1 h2=>by
  have hi:i<5:=by have:=(cw.1 h2).1;omega
  obtain⟨v',h3,h4⟩:=h i hi;rw[h2]at h3;cases h3;rw[bC,h1]at h4;exact h4)
 unfold nm;exact this
structure KW where
 a:RD
 b:RD
 y:List RI
 z:List RI
def WZ(q:KW):List E:=xI q.a++xI q.b++[jd q.y,jd q.z]
def W6(t:kg):List E:=[iP t.iC,lK t.il,mL t.iF]
def PX(W:World)(t:kg)(cs:List Value):Prop:=t.jB/\cs.length=3/\∀ j,j<3->∃ v,cs[j]? = some v/\iO mA mA W ((W6 t).getD j .any) v
def PU(W:World)(q:KW)(cs:List Value):Prop:=(q.a.jB/\q.b.jB/\(∀ w,w ∈ q.y->w.jB)/\∀ w,w ∈ q.z->w.jB)/\cs.length=8/\∀ j,j<8->∃ v,cs[j]? = some v/\iO mA mA W ((WZ q).getD j .any) v
def af1{α:Type}{l:List α}(h:l.length=8):∃ a b c d e f g i,l=[a,b,c,d,e,f,g,i]:=by
 rcases l with _|⟨a,_|⟨b,_|⟨c,_|⟨d,_|⟨e,_|⟨f,_|⟨g,_|⟨i,_|⟨j,l⟩⟩⟩⟩⟩⟩⟩⟩⟩<;>simp at h
 exact⟨a,b,c,d,e,f,g,i,rfl⟩
section
variable {H:Type} {enc:TypeId×Value->H} {W:World} {fuel:Nat} {cs:List Value} {x:DataW H×List MemPlace}
def ahm(h:DataW.trod enc prog W 0 (λ_=>true) true fuel 25 cs=some x)(_:∀ p ∈ x.2,p.block<W.heap.size):∃ t,PX W t cs:=by
 obtain⟨n,il,iF,v,w,rfl,w0,g1,g2,r1,r2⟩:=Wa h;refine⟨⟨n,il,iF,0,[]⟩,⟨w0,FK g1 WQ,FK g2 (by unfold kB;decide),kJ,λi=>EJ⟩,rfl,λj hj=>?_⟩;rcases j with _|_|_|j
 .exact ⟨_,rfl,.v _⟩
 .exact ⟨_,rfl,r1⟩
 .exact ⟨_,rfl,r2⟩
 .omega
def ahk(h:DataW.trod enc prog W 0 (λ_=>true) true fuel 33 cs=some x)(iJ:∀ p ∈ x.2,p.block<W.heap.size):∃ q,PU W q cs:=by
 obtain⟨xs,n,rfl,rfl,hl,lQ,hf⟩:=DataW.trod_struct underlying33 h;have hC:prog.cellsOf 33=8:= aF ;have hD:prog.cellsOf 31=3:= aF ;have hP:prog.cellsOf 26=1:= aF ;rw[hC]at hl;obtain⟨c0,c1,c2,c3,c4,c5,c6,c7,rfl⟩:=af1 hl;have h0:=hf 0 _ rfl;have h1:=hf 1 _ rfl;have h2:=hf 2 _ rfl;have h3:=hf 3 _ rfl;simp only[fj,fk,ek]at h0 h1 h2 h3;simp only[hD,hP,fm,fo,eO,fp]at h0 h1 h2 h3;rw[bG (by rw[lQ];decide)]at h0 h1 h2 h3;have hm:∀ (i:Nat) (hi:i<xs.length),∀ p ∈ (xs[i]).2,p.block<W.heap.size:=λi hi p hp=>iJ p (dH.2 ⟨_,cO hi,hp⟩)
 obtain⟨a,ga,_,ra⟩:=JR h0 (hm _ _);obtain⟨b,gb,_,rb⟩:=JR h1 (hm _ _);obtain⟨y,u,e2,gy,ry⟩:=JS h2 (hm _ _);obtain⟨z,w,e3,gz,rz⟩:=JS h3 (hm _ _);simp at e2 e3;subst e2 e3;refine⟨⟨a,b,y,z⟩,⟨ga,gb,gy,gz⟩,rfl,λj hj=>?_⟩;rcases j with _|_|_|_|_|_|_|_|j
 .exact ra 0 aE 
 .exact ra 1 aE 
 .exact ra 2 aE 
 .exact rb 0 aE 
 .exact rb 1 aE 
 .exact rb 2 aE 
 .exact ⟨_,rfl,ry⟩
 .exact ⟨_,rfl,rz⟩
 .omega
end
def akC{W:World}{x:kg}{cs:Array Value}(h:PX W x cs.toList):iO mA mA W (nn x) (.agg cs):=by
 obtain⟨_,hl,h⟩:=h;have:=iO.agg (bs:=mA) (br:=mA) (w:=W) (W6 x) cs.toList (by rw[hl];rfl) (λi p v h1 h2=>by
  have hi:i<3:=by have:=(cw.1 h2).1;omega
  obtain⟨v',h3,h4⟩:=h i hi;rw[h2]at h3;cases h3;rw[bC,h1]at h4;exact h4)
 unfold nn;exact this
def ajl{W:World}{x:KW}{cs:Array Value}(h:PU W x cs.toList):iO mA mA W (.agg (xI x.a++xI x.b++[jd x.y,jd x.z])) (.agg cs):=by
 obtain⟨_,hl,h⟩:=h;have:=iO.agg (bs:=mA) (br:=mA) (w:=W) (WZ x) cs.toList (by rw[hl];rfl) (λi p v h1 h2=>by
  have hi:i<8:=by have:=(cw.1 h2).1;omega
  obtain⟨v',h3,h4⟩:=h i hi;rw[h2]at h3;cases h3;rw[bC,h1]at h4;exact h4)
 exact this
def acN:Value:=.agg #[.int .i64 0,.slice none 0 0,.slice none 0 0,.int .i64 0,.slice none 0 0]
def acO{H:Type}:DataW H:=.agg [.agg [.lit (.int .i64 0),.nil,.nil],.lit (.int .i64 0),.nil]
def acP:Value:=.agg #[.int .i64 0,.slice none 0 0,.slice none 0 0]
def acQ{H:Type}:DataW H:=.agg [.lit (.int .i64 0),.nil,.nil]
def acL:Value:=.agg #[.bool false,.slice none 0 0,.int .i64 0,.bool false,.slice none 0 0,.int .i64 0,.slice none 0 0,.slice none 0 0]
def acM{H:Type}:DataW H:=.agg [.agg [.lit (.bool false),.nil,.lit (.int .i64 0)],.agg [.lit (.bool false),.nil,.lit (.int .i64 0)],.nil,.nil]
def Dg:Array Value:=#[acN,acP,.slice none 0 0,acL,.int .i64 0,.int .i64 0]
set_option maxRecDepth 100000 in
def ak6(H:Type)(enc:TypeId×Value->H)(W:World)(base:Nat)(args:Array Value)(ds gs:List (DataW H))(before:List MemPlace)
 (my:∀ (j:Nat) t v,Tryz.f3.params[j]? = some t->args[j]? = some v->Value.okWide prog W .any base t v)
 (hW:DataW.Whole enc prog Tryz.f3.params.toList Rows.crossTurnedSpec.vars false W args.toList ds gs before) (hL:laidMetH prog Rows.crossTurnedRow.laid W):
 Calls prog 3 args W λe W'=>∃ v,e = .returned v/\Rows.crossTurnedSpec.post enc prog Tryz.f3 false true false false W args v W':=by
 have FQ:=hW;obtain⟨p,q,vk,hV,rfl,hfz,hnd⟩:=hW;have hA:DataW.TrodAll enc prog W 0 (λ_=>true) true Tryz.f3.params.toList args.toList ds p:=vk;rw[Tryz.params3]at hA my;obtain⟨v0,vs0,d0,ds0,p0,q0,Ea,rfl,rfl,h0,vk⟩:=trodAll_cons hA;obtain⟨v1,vs1,d1,ds1,p1,q1,rfl,rfl,rfl,h1,A0⟩:=trodAll_cons vk;obtain⟨v2,vs2,d2,ds2,p2,q2,rfl,rfl,rfl,h2,hA2⟩:=trodAll_cons A0;obtain⟨v3,vs3,d3,ds3,p3,q3,rfl,rfl,rfl,h3,hA3⟩:=trodAll_cons hA2;obtain⟨v4,vs4,d4,ds4,p4,q4,rfl,rfl,rfl,h4,hA4⟩:=trodAll_cons hA3;obtain⟨v5,vs5,d5,ds5,p5,q5,rfl,rfl,rfl,h5,hA5⟩:=trodAll_cons hA4;obtain⟨rfl,rfl,rfl⟩:=trodAll_nil hA5;obtain rfl:args = #[v0,v1,v2,v3,v4,v5]:=by cases args;simp_all
 obtain⟨rfl,rfl⟩:=trodVars_none hV;obtain⟨cs0,rfl,amu⟩:=okWide_struct underlying28 (my 0 28 v0 rfl rfl);obtain⟨cs1,rfl,amv⟩:=okWide_struct underlying25 (my 1 25 v1 rfl rfl);obtain⟨a2,len2,cap2,rfl⟩:=okWide_slice underlying26 (my 2 26 v2 rfl rfl);obtain⟨cs3,rfl,amw⟩:=okWide_struct underlying33 (my 3 33 v3 rfl rfl);obtain⟨x4,rfl,rfl,rfl,b4⟩:=open_int underlying3 (my 4 3 v4 rfl rfl) h4;obtain⟨x5,rfl,rfl,rfl,b5⟩:=open_int underlying3 (my 5 3 v5 rfl rfl) h5;have h0k:=h0;obtain⟨fuel0,hf0⟩:=h0;have h1k:=h1;obtain⟨fuel1,MO⟩:=h1;have h2k:=h2;obtain⟨fuel2,MQ⟩:=h2;have h3k:=h3;obtain⟨fuel3,hf3⟩:=h3;clear vk;have DY:∀ x ∈ p0,x.block<W.heap.size:=λx hx=>FQ.lt x (by simp[hx])
 have DZ:∀ x ∈ p1,x.block<W.heap.size:=λx hx=>FQ.lt x (by simp[hx])
 have Jh:∀ x ∈ p2,x.block<W.heap.size:=λx hx=>FQ.lt x (by simp[hx])
 have Ts:∀ x ∈ p3,x.block<W.heap.size:=λx hx=>FQ.lt x (by simp[hx])
 obtain⟨x0,g0⟩:=ahl hf0 DY;obtain⟨x1,g1⟩:=ahm MO DZ;obtain⟨x2,w2,rY,g2,r2⟩:=JS MQ Jh;obtain rfl:Value.slice a2 len2 cap2=w2:=by
  have:(Value.slice a2 len2 cap2).cells.toList=[Value.slice a2 len2 cap2]:=rfl;rw[this]at rY;simpa using rY
 obtain⟨x3,g3⟩:=ahk hf3 Ts;have kP:=(afC x0 x1 x2 x3.a x3.b x3.y x3.z x4 x5 g0.1 g1.1 g2 g3.1.1 g3.1.2.1 g3.1.2.2.1 g3.1.2.2.2).run W mA [.agg cs0,.agg cs1,.slice a2 len2 cap2,.agg cs3,.int .i64 x4,.int .i64 x5] (akK rfl hL) (λ_ h=>h.elim) (.cons (aku (cs:=cs0) g0) (.cons (akC (cs:=cs1) g1) (.cons r2 (.cons (ajl (cs:=cs3) g3) (.cons (.v _) (.cons (.v _) (.nil _ _ _)))))));refine kP.mono λr W' ⟨v,hr,hb,rX⟩=>?_
 obtain rfl:=iO.kG rX;subst hr;refine⟨_,rfl,_,_,_,[],p0++(p1++(p2++(p3++([]++([]))))),[],FQ,?_,?_,rfl,hb.frame _,λh=>by cases h⟩
 .exact trodAll_mk1 (shut_bool underlying4 _)
 .exact ⟨p0,_,Below.trod Eh aF (cQ aF) h0k hb DY,⟨p1,_,Below.trod Eh aF (cQ aF) h1k hb DZ,⟨p2,_,Below.trod Eh aF (cQ aF) h2k hb Jh,⟨p3,_,Below.trod Eh aF (cQ aF) h3k hb Ts,⟨[],_,Below.trod Eh aF (cQ aF) h4 hb (λ_ h=>by cases h),trodAll_mk1 (Below.trod Eh aF (cQ aF) h5 hb (λ_ h=>by cases h)),rfl⟩,rfl⟩,rfl⟩,rfl⟩,rfl⟩
def ak9(os:Os):laidMet prog Rows.crossTurnedRow.laid ((NK os Dg).forCall (λ_ _=>0) ⟨#[],Dg,[]⟩).memory:=
 laidMet_of_run' 8 aF aF 
def alb(os:Os){H:Type}(enc:TypeId×Value->H):∃ places,DataW.whole enc prog ((NK os Dg).forCall (λ_ _=>0) ⟨#[],Dg,[]⟩).memory Tryz.f3.params.toList Rows.crossTurnedSpec.vars false Dg.toList 8=some ([acO,acQ,.nil,acM,.lit (.int .i64 0),.lit (.int .i64 0)],[],places):=
 ⟨[],aF⟩
set_option maxRecDepth 100000 in
def ak8(os:Os)(started:os.Started)(H:Type)(enc:TypeId×Value->H)(F:Stop.Interp):
  ReturnsInHanded {} Tryz.checked os 3 .any ((OpenSpec.ofChange Rows.crossTurnedSpec).preRow enc prog Tryz.f3 Rows.crossTurnedRow.domain false Rows.crossTurnedRow.laid) (((OpenSpec.ofChange Rows.crossTurnedSpec).at F).post enc prog Tryz.f3 false true false false):=by
 obtain⟨places,hx⟩:=alb os enc;refine returnsInHanded_of_row (C:=Tryz.checked) (s:=OpenSpec.ofChange Rows.crossTurnedSpec) own started aF func3
  (witness_row_at (enc:=enc) (C:=Tryz.checked) false (NK os Dg) Dg rfl aF aF aF 
   (OpenSpec.preRow_of_cond 8 hx aF (λk hk=>by cases hk) aF (ak9 os))) ?_
 intro W base args ds gs before my hW _ _ _ hL _ _;exact ak6 H enc W base args ds gs before my hW hL
set_option maxHeartbeats 100000000 in
def ak7:joinedFacts prog 3 Tryz.f3 (OpenSpec.ofChange Rows.crossTurnedSpec).bare Rows.crossTurnedRow=true:=by
 unfold joinedFacts;simp only[bO]
 and_intros<;>decide +kernel
def alc:Rows.CrossTurnedSaid:=
 OpenClaim.holds_of_cond 3 Tryz.f3 rfl rfl rfl rfl rfl rfl rfl ⟨rfl,rfl,rfl,rfl,rfl⟩ rfl rfl rfl rfl rfl aF func3 ak7
  (cQ aF) (by unfold Func.isWrapper;first|(rw[bw aL];kernel_rfl)|(rw[bu aL];exact⟨rfl,rfl⟩))
  (λos started H enc _ F=>by rw[OpenClaim.pre_eq_preRow];exact ak8 os started H enc F)
def ala (f:FuncId) (fn:Func) (hf:Tryz.pinned.checked.prog.funcNamed "flowpipe/flowpipelaw41.CrossTurned" = some f) (hfn:Tryz.pinned.checked.prog.funcs[f]? = some fn):
 false=Tryz.pinned.checked.prog.looks []/\∀ (j:Nat) t,fn.params[j]? = some t->Tryz.pinned.checked.prog.wantsStandIn t=false:=by
 obtain rfl:f=3:=am4 ((show prog.funcNamed "flowpipe/flowpipelaw41.CrossTurned" = some 3 by kernel_rfl).symm.trans hf) |>.symm
 obtain rfl:fn=Tryz.f3:=(am4 (func3.symm.trans hfn)).symm;refine⟨aF,λj t ht=>?_⟩;rw[Tryz.params3]at ht;have:t=28\/t=25\/t=26\/t=33\/t=3:=by
  have:=dZ ht;simp only[gX,dw,List.not_mem_nil,or_false]at this;rcases this with h|h|h|h|h|h<;>subst h<;>simp
 rcases this with rfl|rfl|rfl|rfl|rfl
 .exact (show prog.wantsStandIn 28=false by kernel_rfl)
 .exact (show prog.wantsStandIn 25=false by kernel_rfl)
 .exact (show prog.wantsStandIn 26=false by kernel_rfl)
 .exact (show prog.wantsStandIn 33=false by kernel_rfl)
 .exact (show prog.wantsStandIn 3=false by kernel_rfl)
theorem turned_card:Rows.CrossTurnedCardSaid:=
 Claim7.holds_tied_plain_at .later [] _ _ _ _ alc (λ_ h=>by cases h) aF (λ_ h=>by cases h) crossTurned_row_tie rfl ⟨rfl,rfl⟩ aF rfl ala (adV ada rfl)
end Go.Proofs.YtgdahmmlddfimaaGreatDoor
