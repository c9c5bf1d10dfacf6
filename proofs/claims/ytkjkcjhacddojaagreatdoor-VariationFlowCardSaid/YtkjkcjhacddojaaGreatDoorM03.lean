/- Lemmas that the last file uses. -/
import Derived.Test.YtkjkcjhacddojaaGreatDoorM02
set_option linter.unusedSimpArgs false
set_option linter.unusedVariables false
set_option linter.defProp false
set_option maxHeartbeats 4000000
open Go.Proofs.Tryz
namespace Go.Proofs.YtkjkcjhacddojaaGreatDoor
open Go.RowKit Fp Pu
def jV(p:Int):Bool:=decide (8<=p)&&decide (p<=512)
def mm{p:Int}:jV p=true↔8<=p/\p<=512:=by simp[jV]
def Aa(p:Int):gJ 147 [iP p] (bP (jV p)):=by
 by_cases h:8<=p
 .exact aj call147 func147 (aa [tB 4 (bk h)]<|rQ (bP (decide (p<=512))) (bP (jV p)) (by simp[jV,h])) 
 .exact aj call147 func147 (aa [tB 4 (bl h)]<|rQ (bP false) (bP (jV p)) (by simp[jV,h])) 
def rI(p:Int):gJ 135 [iP p] (bP (jV p)):=by
 by_cases h:8<=p
 .exact aj call135 func135 (aa [tB 4 (bk h)]<|rQ (bP (decide (p<=512))) (bP (jV p)) (by simp[jV,h])) 
 .exact aj call135 func135 (aa [tB 4 (bl h)]<|rQ (bP false) (bP (jV p)) (by simp[jV,h])) 
def agc(p:Int):gJ 318 [iP p] (bP (jV p)):=by
 by_cases h:8<=p
 .exact aj call318 func318 (aa [tB 4 (bk h)]<|rQ (bP (decide (p<=512))) (bP (jV p)) (by simp[jV,h])) 
 .exact aj call318 func318 (aa [tB 4 (bl h)]<|rQ (bP false) (bP (jV p)) (by simp[jV,h])) 
def BN(p:Int):gJ 204 [iP p] (bP (jV p)):=by
 by_cases h:8<=p
 .exact aj call204 func204 (aa [tB 4 (bk h)]<|rQ (bP (decide (p<=512))) (bP (jV p)) (by simp[jV,h])) 
 .exact aj call204 func204 (aa [tB 4 (bl h)]<|rQ (bP false) (bP (jV p)) (by simp[jV,h])) 
def UL(l:List Dy)(p:Nat)(i:Nat):PS:=⟨20,true,[(9,.e (iP i)),(8,.e (iP l.length)),(7,.e (nL l)),(0,.e (iP p))],[]⟩
def Ei(neg:Bool)(m:Nat)(e:Int)(more up:Bool)(p:Nat)(h1:(gK m).length<=256)(h0:m≠0\/m=0/\e=0/\more=false)(ie:8<=p)(gS:p<=512)(lh:-45000<=e)(kF:e<=45000)(hm:more=true->p<gU m):gJ 283 [bP neg,.agg [gO (gK m),iP e,bP more],iP p,bP up] (.hH [gM (jK neg m e more p up),iP (jD neg m e more p up)]):=by
 cases neg with
 |true=>
  have hs:=Om true m e more p up;change _/\(jD false m e more p (!(up==true))=0->_->iB (jK false m e more p (!(up==true)))=_)/\((jD false m e more p (!(up==true))≠0\/_)->jK false m e more p (!(up==true))=_)at hs;have hE:jD true m e more p up=jD false m e more p (!(up==true)):=hs.1;have hv:=lY false m e more p (!(up==true)) (aD:1<=p) aD;by_cases hz:jD false m e more p (!(up==true))=0
  .exact aj call283 func283 (aa [af [.agg [gO (gK m),iP e,bP more],iP p,bP (!(up==true))] (Hc _ _ _ _ _ aD aE aD aD aD aD aE),ag 22 ((jD false m e more p (!(up==true)))==0) (by rw[hz];rfl),af [gM (jK false m e more p (!(up==true)))] (yb _ aE)]<|rQ (.hH [gM (iB (jK false m e more p (!(up==true)))),iP (jD false m e more p (!(up==true)))]) (.hH [gM (jK true m e more p up),iP (jD true m e more p up)]) (by rw[hs.2.1 hz rfl,hE])) 
  .exact aj call283 func283 (aa [af [.agg [gO (gK m),iP e,bP more],iP p,bP (!(up==true))] (Hc _ _ _ _ _ aD aE aD aD aD aD aE),ah 22 ((jD false m e more p (!(up==true)))==0) (by simpa using hz)]<|rQ (.hH [gM (jK false m e more p (!(up==true))),iP (jD false m e more p (!(up==true)))]) (.hH [gM (jK true m e more p up),iP (jD true m e more p up)]) (by rw[hs.2.2 (.inl hz),hE])) 
 |false=>
  have hs:=Om false m e more p up;change _/\(jD false m e more p (!(up==false))=0->_->iB (jK false m e more p (!(up==false)))=_)/\((jD false m e more p (!(up==false))≠0\/_)->jK false m e more p (!(up==false))=_)at hs;have hE:jD false m e more p up=jD false m e more p (!(up==false)):=hs.1;have hv:=lY false m e more p (!(up==false)) (aD:1<=p) aD;by_cases hz:jD false m e more p (!(up==false))=0
  .exact aj call283 func283 (aa [af [.agg [gO (gK m),iP e,bP more],iP p,bP (!(up==false))] (Hc _ _ _ _ _ aD aE aD aD aD aD aE),ag 22 ((jD false m e more p (!(up==false)))==0) (by rw[hz];rfl)]<|rQ (.hH [gM (jK false m e more p (!(up==false))),iP (jD false m e more p (!(up==false)))]) (.hH [gM (jK false m e more p up),iP (jD false m e more p up)]) (by rw[hs.2.2 (.inr rfl),hE])) 
  .exact aj call283 func283 (aa [af [.agg [gO (gK m),iP e,bP more],iP p,bP (!(up==false))] (Hc _ _ _ _ _ aD aE aD aD aD aD aE),ah 22 ((jD false m e more p (!(up==false)))==0) (by simpa using hz)]<|rQ (.hH [gM (jK false m e more p (!(up==false))),iP (jD false m e more p (!(up==false)))]) (.hH [gM (jK false m e more p up),iP (jD false m e more p up)]) (by rw[hs.2.2 (.inl hz),hE])) 
def agb(d:Dy):gJ 319 [gM d] (.agg [gO (gK d.m),iP d.e,bP false]):=
 aj call319 func319 (.nil) 
def UM(p:Nat)(l:List Dy)(hl:l.length<=1000)(hv:∀ i,i<l.length->(l.getD i ix).gQ)(ie:8<=p)(gS:p<=512):gJ 280 [iP p,nL l] (iP 0):=
 aj call280 func280 (ae [.s (Sp.iG (UL l p) 0 l.length aD (λi hi rq=>by
    have Q8:=hv i rq;exact gX (ae [tT 10 ((i:Int)<l.length) aD,iX (i:Int) (l.length) aD,af [gM (l.getD i ix)] (rS _ aE),gW ((i:Int)+1) aD]) aG)
  (λhi=>by
    exact gX (ae [tF 10 ((l.length:Int)<l.length) aD]) aG) aK:iF 2 f280 (UL l p 0) (.exit 0) ⟨20,true,[(0,.e (iP p))],[]⟩) .nil,af [iP p] (agc _),ag 18 (jV (p:Int)) (mm.2 ⟨aD,aD⟩)]) 
def aga(p:Nat)(a:Dy)(ha:a.gQ)(ie:8<=p)(gS:p<=512):gJ 280 [iP (p:Int),nL [a]] (iP 0):=
 UM p [a] aJ (λi hi=>(match i,hi with
  | 0,_=>ha
  |n+1,hi=>absurd hi aJ)) ie gS
def vB(p:Nat)(a b:Dy)(ha:a.gQ)(hb:b.gQ)(ie:8<=p)(gS:p<=512):gJ 280 [iP (p:Int),nL [a,b]] (iP 0):=
 UM p [a,b] aJ (λi hi=>(match i,hi with
  | 0,_=>ha
  | 1,_=>hb
  |n+2,hi=>absurd hi aJ)) ie gS
def Hd(d:Dy)(p:Nat)(up:Bool)(hd:d.gQ)(ie:8<=p)(gS:p<=512):gJ 281 [gM d,iP p,bP up] (.hH [gM (ji d p up),iP (jl d p up)]):=by
 have hl:=hd.gK;have hz:d.m≠0\/d.m=0/\d.e=0/\false=false:=by
  by_cases h:d.m=0
  .rcases hd.canon with q|q
   .exact .inr ⟨h,q.2.2,rfl⟩
   .omega
  .exact .inl h
 have BF:-45000<=d.e:=by have:=hd.exp;omega
 have vn:d.e<=45000:=by have:=hd.exp;omega
 have hm:false=true->p<gU d.m:=λh=>by cases h
 exact aj call281 func281 (ae [.o 11 (.e (Zm _):ai (.sl true 1 3 λi_ j_=>(iy d).getD (i_*3+j_) (.v (.bool false))) (nL [d])),af [iP p,nL [d]] (aga _ _ aE aD aD),ah 14 ((0:Int) != 0) aF,.c (agb d),.c (Ei d.neg d.m d.e false up p aD aE aD aD aD aD aE)]) 
def N5{a b:Nat}:kv a b<0↔a<b:=by
 unfold kv;split
 .simp_all
 .split<;>simp_all
def He(a b:Dy)(p:Nat)(ha:a.gQ)(hb:b.gQ)(a0:a.m≠0)(b0:b.m≠0)(ht:b.jj<=a.jj)(ie:8<=p)(gS:p<=512):gJ 282 [gM a,gM b,iP p] (.hH [.agg [gO (gK (lH a b p)),iP (jg a b p),bP (mN a b p)],bP (oE a b p)]):=by
 have sz:=H8 ha hb a0 b0 ht gS;have sp:=Mx ha hb a0 b0 ht gS;obtain⟨l1,l2,l3,l4,l5,l6,l7,l8,l9⟩:=sz;obtain⟨l10,l11,l12⟩:=sp;obtain⟨r1,r2,r3⟩:=Me a b p;have va:=ha.gK;have vb:=hb.gK;have xa:=ha.exp;have xb:=hb.exp;have ta:=Ew a0;have tb:=Ew b0;have ba:=vQ va;have bb:=vQ vb;have z1:(gK (a.m*2^((a.e-(jg a b p)).toNat))).length<=256:=nI (aD:gU (nv a b p)<=_);have zy:(gK (mr b (jg a b p))).length<=256:=nI aD;have z3:(gK (mq a b p)).length<=256:=nI aD;have zm:(gK (lH a b p)).length<=256:=nI aD;have z5:(gK 1).length<=256:=nI aF;exact aj call282 func282 (aa [af [gM a] (ua _ aE),gW ((Dy.jj a)-(p:Int)) aD,gW (((Dy.jj a)-(p:Int))-8) aD,af [gM a] (ua _ aE),af [gM b] (ua _ aE),gW ((Dy.jj a)-(Dy.jj b)) aD,.j 62 ⟨109,true,[(8,.e (iP (jg a b p))),(6,.box 6 0),(4,.box 4 0),(3,.box 3 0)],[(6,.cells 210 [.v (.slice none 0 0),iP 0,bP false]),(4,.cells 39 (iy b)),(3,.cells 39 (iy a))]⟩
   (.w (((Dy.jj a)-(Dy.jj b))<=2)
    (λm1=>aa [.v 31 (.bool (bk m1))]<|.e (ae [.o 8 (an (if b.e<(if(((Dy.jj a)-(p:Int))-8)<a.e then(((Dy.jj a)-(p:Int))-8)else a.e)then b.e else(if(((Dy.jj a)-(p:Int))-8)<a.e then(((Dy.jj a)-(p:Int))-8)else a.e)) (jg a b p) (by unfold jg;rw[bj m1];split<;>split<;>omega))]))
    (λm1=>aa [.v 31 (.bool (bl m1))]<|.e (ae [.o 8 (an (if(((Dy.jj a)-(p:Int))-8)<a.e then(((Dy.jj a)-(p:Int))-8)else a.e) (jg a b p) (by unfold jg;rw[bh m1];split<;>omega))]))),
  gW (a.e-(jg a b p)) aD,.o 41 (an (a.e-(jg a b p)) ((a.e-(jg a b p)).toNat:Int) aD),.c (wH a.m ((a.e-(jg a b p)).toNat) aD aD aD),.j 92 ⟨109,true,[(10,.e (gO (gK (mr b (jg a b p))))),(11,.e (bP (nf b (jg a b p)))),(9,.e (gO (gK (a.m*2^((a.e-(jg a b p)).toNat))))),(8,.e (iP (jg a b p))),(6,.box 6 0),(4,.box 4 0),(3,.box 3 0)],[(6,.cells 210 [.v (.slice none 0 0),iP 0,bP false]),(4,.cells 39 (iy b)),(3,.cells 39 (iy a))]⟩
   (.w ((jg a b p)<=b.e)
    (λm1=>by
     have z2:(gK (b.m*2^((b.e-(jg a b p)).toNat))).length<=256:=by have:=zy;rwa[show mr b (jg a b p)=_ from bj m1]at this
     exact aa [.v 46 (.bool (bk m1)),gW (b.e-(jg a b p)) aD,.o 52 (an (b.e-(jg a b p)) ((b.e-(jg a b p)).toNat:Int) aD),.c (wH b.m ((b.e-(jg a b p)).toNat) aD aD aD)]<|.e (ae [.o 10 (.e (.iD (by rw[show mr b (jg a b p)=_ from bj m1])):ai (gO (gK (b.m*2^((b.e-(jg a b p)).toNat)))) (gO (gK (mr b (jg a b p))))),tB 11 (by simp[nf,m1]:false=(nf b (jg a b p)))]))
    (λm1=>aa [.v 46 (.bool (bl m1)),gW ((jg a b p)-b.e) aD,.o 60 (an ((jg a b p)-b.e) (((jg a b p)-b.e).toNat:Int) aD),.c (L6 b.m (((jg a b p)-b.e).toNat) aD aD)]<|.e (ae [.o 10 (.e (.iD (by rw[show mr b (jg a b p)=_ from bh m1])):ai (gO (gK (b.m/2^(((jg a b p)-b.e).toNat)))) (gO (gK (mr b (jg a b p))))),tB 11 (by simp[nf,m1]:(decide (b.m%2^(((jg a b p)-b.e).toNat)≠0))=(nf b (jg a b p)))])))]<|.w (a.neg=b.neg)
  (λk1=>by
   have eT:oE a b p=false:=by unfold oE;simp[k1]
   have eY:mq a b p=mr b (jg a b p):=by unfold mq;simp[k1]
   have eM:lH a b p=nv a b p+mr b (jg a b p):=by unfold lH;rw[bj k1,eY]
   have eS:mN a b p=nf b (jg a b p):=by unfold mN;rw[eT];simp
   have z4:(gK ((a.m*2^((a.e-(jg a b p)).toNat))+mr b (jg a b p))).length<=256:=by have:=zm;rwa[eM]at this
   exact aa [tB 68 (a8 k1),af [gO (gK (a.m*2^((a.e-(jg a b p)).toNat))),gO (gK (mr b (jg a b p)))] (Lg _ _ aD aD aD)]<|rQ (.hH [.agg [gO (gK ((a.m*2^((a.e-(jg a b p)).toNat))+(mr b (jg a b p)))),iP (jg a b p),bP (nf b (jg a b p))],bP false]) (.hH [.agg [gO (gK (lH a b p)),iP (jg a b p),bP (mN a b p)],bP (oE a b p)]) (by rw[eM,eS,eT];rfl))
  (λk1=>aa [tB 68 (a7 k1),.j 158 ⟨109,true,[(10,.e (gO (gK (mq a b p)))),(11,.e (bP (nf b (jg a b p)))),(9,.e (gO (gK (a.m*2^((a.e-(jg a b p)).toNat))))),(8,.e (iP (jg a b p))),(6,.box 6 0)],[(6,.cells 210 [.v (.slice none 0 0),iP 0,bP false])]⟩
   (.w (nf b (jg a b p)=true)
    (λm1=>by
     have z6:(gK ((mr b (jg a b p))+1)).length<=256:=nI (by rw[show(mr b (jg a b p))+1=mq a b p by(unfold mq;simp[k1,m1])];omega);exact aa [.v 79 (.bool m1),.o 82 (.e uC:ai (.sl false 1 1 λi_ j_=>[.v (.int .u32 1)].getD (i_*1+j_) (.v (.bool false))) (gO (gK 1))),af [gO (gK (mr b (jg a b p))),gO (gK 1)] (Lg _ _ aD aD aD)]<|.e (ae [.o 10 (.e (.iD (by unfold mq;simp[k1,m1])):ai (gO (gK ((mr b (jg a b p))+1))) (gO (gK (mq a b p))))]))
    (λm1=>aa [.v 79 (.bool (bc m1))]<|.e (ae [.o 10 (.e (.iD (by unfold mq;simp[k1,m1])):ai (gO (gK (mr b (jg a b p)))) (gO (gK (mq a b p))))]))),af [gO (gK (a.m*2^((a.e-(jg a b p)).toNat))),gO (gK (mq a b p))] (Lh _ _ aD aD)]<|.w ((kv (a.m*2^((a.e-(jg a b p)).toNat)) (mq a b p))<0)
   (λk2=>by
    have hc:nv a b p<mq a b p:=N5.1 k2;have eT:oE a b p=true:=by unfold oE;simp[k1,hc]
    have eM:lH a b p=mq a b p-nv a b p:=by unfold lH;rw[bh k1,bj hc]
    have eS:mN a b p=false:=by unfold mN;rw[eT];simp
    have z4:(gK (mq a b p-(a.m*2^((a.e-(jg a b p)).toNat)))).length<=256:=by have:=zm;rwa[eM]at this
    have z7:(a.m*2^((a.e-(jg a b p)).toNat))<=mq a b p:=dv hc;exact aa [tB 89 (bk k2),af [gO (gK (mq a b p)),gO (gK (a.m*2^((a.e-(jg a b p)).toNat)))] (Lj _ _ aD aD aD)]<|rQ (.hH [.agg [gO (gK ((mq a b p)-(a.m*2^((a.e-(jg a b p)).toNat)))),iP (jg a b p),bP false],bP true]) (.hH [.agg [gO (gK (lH a b p)),iP (jg a b p),bP (mN a b p)],bP (oE a b p)]) (by rw[eM,eS,eT];rfl))
   (λk2=>by
    have hc:¬nv a b p<mq a b p:=λh=>k2 (N5.2 h)
    have eT:oE a b p=false:=by unfold oE;simp[hc]
    have eM:lH a b p=nv a b p-mq a b p:=by unfold lH;rw[bh k1,bh hc]
    have eS:mN a b p=nf b (jg a b p):=by unfold mN;rw[eT];simp
    have z4:(gK ((a.m*2^((a.e-(jg a b p)).toNat))-mq a b p)).length<=256:=by have:=zm;rwa[eM]at this
    have z7:mq a b p<=(a.m*2^((a.e-(jg a b p)).toNat)):=fo hc;exact aa [tB 89 (bl k2),af [gO (gK (a.m*2^((a.e-(jg a b p)).toNat))),gO (gK (mq a b p))] (Lj _ _ aD aD aD)]<|rQ (.hH [.agg [gO (gK ((a.m*2^((a.e-(jg a b p)).toNat))-(mq a b p))),iP (jg a b p),bP (nf b (jg a b p))],bP false]) (.hH [.agg [gO (gK (lH a b p)),iP (jg a b p),bP (mN a b p)],bP (oE a b p)]) (by rw[eM,eS,eT];rfl)))) 
def yW(p:Nat)(up:Bool):ji ix p up=ix/\jl ix p up=0:=by
 have hK:iO 0 0 p=0:=by unfold iO;rw[ri];omega
 have hQ:∀ o,ks 0 0 false p o=0:=by intro o;unfold ks;rw[hK];simp
 have hO:∀ o,lr 0 0 false p o=false:=by intro o;unfold lr;rw[hQ];simp
 unfold ji jl jK jD;simp only[ix,hO,hQ];exact⟨rfl,rfl⟩
def UH(a b:Dy)(p:Nat)(up:Bool)(ha:a.gQ)(hb:b.gQ)(ie:8<=p)(gS:p<=512):gJ 228 [gM a,gM b,iP p,bP up] (.hH [gM (ji (iM a b) p up),iP (jl (iM a b) p up)]):=by
 by_cases a0:a.m=0
 .have e1:iM a b=b:=by unfold iM;rw[bj a0]
  exact aj call228 func228 (aa [.o 16 (.e (uT _ _):ai (.sl true 2 3 λi_ j_=>(iy a++iy b).getD (i_*3+j_) (.v (.bool false))) (nL [a,b])),af [iP p,nL [a,b]] (vB _ _ _ aE aE aD aD),ah 19 ((0:Int) != 0) aF,ag 26 (((gK a.m).length:Int)==0) (qk (pY.2 a0)),.c (Hd b p up aE aD aD)]<|rQ (.hH [gM (ji b p up),iP (jl b p up)]) (.hH [gM (ji (iM a b) p up),iP (jl (iM a b) p up)]) (by rw[e1])) 
 .by_cases b0:b.m=0
  .have e1:iM a b=a:=by unfold iM;rw[bh a0,bj b0]
   exact aj call228 func228 (aa [.o 16 (.e (uT _ _):ai (.sl true 2 3 λi_ j_=>(iy a++iy b).getD (i_*3+j_) (.v (.bool false))) (nL [a,b])),af [iP p,nL [a,b]] (vB _ _ _ aE aE aD aD),ah 19 ((0:Int) != 0) aF,ah 26 (((gK a.m).length:Int)==0) (mv (pv a0)),ag 37 (((gK b.m).length:Int)==0) (qk (pY.2 b0)),.c (Hd a p up aE aD aD)]<|rQ (.hH [gM (ji a p up),iP (jl a p up)]) (.hH [gM (ji (iM a b) p up),iP (jl (iM a b) p up)]) (by rw[e1])) 
  .by_cases ht:a.jj<b.jj
   .have BC:a.jj<=b.jj:= aD ;have law:=V6 (p:=p) hb ha b0 a0 up;have siz:=H8 hb ha b0 a0 BC gS;have prt:=Mx hb ha b0 a0 BC gS;obtain⟨l1,l2,_,_,_,_,_,_,_⟩:=siz;have z1:(gK (lH b a p)).length<=256:=nI aD;have sv:=prt.2.2;have y1:-45000<=jg b a p:= aD ;have y2:jg b a p<=45000:= aD ;by_cases hz:lH b a p=0
    .by_cases hl:mN b a p=true
     .have h0:lH b a p≠0:=by intro q;have:=sv hl;rw[q,ri]at this;omega
      exact absurd hz h0
     .replace hz:lH b a p=0/\mN b a p=false:=⟨hz,by simpa using hl⟩
      have yn:iM a b=ix:=by rw[V4 a0 b0];exact law.1 hz
      exact aj call228 func228 (aa [.o 16 (.e (uT _ _):ai (.sl true 2 3 λi_ j_=>(iy a++iy b).getD (i_*3+j_) (.v (.bool false))) (nL [a,b])),af [iP p,nL [a,b]] (vB _ _ _ aE aE aD aD),ah 19 ((0:Int) != 0) aF,ah 26 (((gK a.m).length:Int)==0) (mv (pv a0)),ah 37 (((gK b.m).length:Int)==0) (mv (pv b0)),af [gM a] (ua _ aE),af [gM b] (ua _ aE),tB 48 (bk ht),.c (He b a p aE aE aE aE aE aD aD),ag 61 (((gK (lH b a p)).length:Int)==0) (qk (pY.2 hz.1)),ah 64 (mN b a p) hz.2,.o 67 (.e qM:ai (.agg aq) (gM ix))]<|rQ (.hH [gM ix,iP 0]) (.hH [gM (ji (iM a b) p up),iP (jl (iM a b) p up)]) (by rw[yn,(yW p up).1,(yW p up).2])) 
    .have h0:lH b a p≠0\/lH b a p=0/\jg b a p=0/\mN b a p=false:=.inl hz;obtain⟨q1,q2⟩:=law.2 (λq=>hz q.1);rw[<-V4 a0 b0]at q1 q2;exact aj call228 func228 (aa [.o 16 (.e (uT _ _):ai (.sl true 2 3 λi_ j_=>(iy a++iy b).getD (i_*3+j_) (.v (.bool false))) (nL [a,b])),af [iP p,nL [a,b]] (vB _ _ _ aE aE aD aD),ah 19 ((0:Int) != 0) aF,ah 26 (((gK a.m).length:Int)==0) (mv (pv a0)),ah 37 (((gK b.m).length:Int)==0) (mv (pv b0)),af [gM a] (ua _ aE),af [gM b] (ua _ aE),tB 48 (bk ht),.c (He b a p aE aE aE aE aE aD aD),ah 61 (((gK (lH b a p)).length:Int)==0) (mv (pv hz)),.c (Ei (! (b.neg==(oE b a p))) (lH b a p) (jg b a p) (mN b a p) up p aD aE aD aD aD aD aE)]<|rQ (.hH [gM (jK (!(b.neg==(oE b a p))) (lH b a p) (jg b a p) (mN b a p) p up),iP (jD (!(b.neg==(oE b a p))) (lH b a p) (jg b a p) (mN b a p) p up)]) (.hH [gM (ji (iM a b) p up),iP (jl (iM a b) p up)]) (by rw[<-q1,<-q2];rfl)) 
   .have BC:b.jj<=a.jj:= aD ;have law:=V6 (p:=p) ha hb a0 b0 up;have siz:=H8 ha hb a0 b0 BC gS;have prt:=Mx ha hb a0 b0 BC gS;obtain⟨l1,l2,_,_,_,_,_,_,_⟩:=siz;have z1:(gK (lH a b p)).length<=256:=nI aD;have sv:=prt.2.2;have y1:-45000<=jg a b p:= aD ;have y2:jg a b p<=45000:= aD ;by_cases hz:lH a b p=0
    .by_cases hl:mN a b p=true
     .have h0:lH a b p≠0:=by intro q;have:=sv hl;rw[q,ri]at this;omega
      exact absurd hz h0
     .replace hz:lH a b p=0/\mN a b p=false:=⟨hz,by simpa using hl⟩
      have yn:iM a b=ix:=by exact law.1 hz
      exact aj call228 func228 (aa [.o 16 (.e (uT _ _):ai (.sl true 2 3 λi_ j_=>(iy a++iy b).getD (i_*3+j_) (.v (.bool false))) (nL [a,b])),af [iP p,nL [a,b]] (vB _ _ _ aE aE aD aD),ah 19 ((0:Int) != 0) aF,ah 26 (((gK a.m).length:Int)==0) (mv (pv a0)),ah 37 (((gK b.m).length:Int)==0) (mv (pv b0)),af [gM a] (ua _ aE),af [gM b] (ua _ aE),tB 48 (bl ht),.c (He a b p aE aE aE aE aE aD aD),ag 61 (((gK (lH a b p)).length:Int)==0) (qk (pY.2 hz.1)),ah 64 (mN a b p) hz.2,.o 67 (.e qM:ai (.agg aq) (gM ix))]<|rQ (.hH [gM ix,iP 0]) (.hH [gM (ji (iM a b) p up),iP (jl (iM a b) p up)]) (by rw[yn,(yW p up).1,(yW p up).2])) 
    .have h0:lH a b p≠0\/lH a b p=0/\jg a b p=0/\mN a b p=false:=.inl hz;obtain⟨q1,q2⟩:=law.2 (λq=>hz q.1);exact aj call228 func228 (aa [.o 16 (.e (uT _ _):ai (.sl true 2 3 λi_ j_=>(iy a++iy b).getD (i_*3+j_) (.v (.bool false))) (nL [a,b])),af [iP p,nL [a,b]] (vB _ _ _ aE aE aD aD),ah 19 ((0:Int) != 0) aF,ah 26 (((gK a.m).length:Int)==0) (mv (pv a0)),ah 37 (((gK b.m).length:Int)==0) (mv (pv b0)),af [gM a] (ua _ aE),af [gM b] (ua _ aE),tB 48 (bl ht),.c (He a b p aE aE aE aE aE aD aD),ah 61 (((gK (lH a b p)).length:Int)==0) (mv (pv hz)),.c (Ei (! (a.neg==(oE a b p))) (lH a b p) (jg a b p) (mN a b p) up p aD aE aD aD aD aD aE)]<|rQ (.hH [gM (jK (!(a.neg==(oE a b p))) (lH a b p) (jg a b p) (mN a b p) p up),iP (jD (!(a.neg==(oE a b p))) (lH a b p) (jg a b p) (mN a b p) p up)]) (.hH [gM (ji (iM a b) p up),iP (jl (iM a b) p up)]) (by rw[<-q1,<-q2];rfl)) 
def UO(a b:Dy)(p:Nat)(up:Bool)(ha:a.gQ)(hb:b.gQ)(ie:8<=p)(gS:p<=512):gJ 264 [gM a,gM b,iP p,bP up] (.hH [gM (ji (mK a b) p up),iP (jl (mK a b) p up)]):=by
 by_cases a0:a.m=0
 .have e1:mK a b=ix:=by unfold mK;rw[a0,cB];rfl
  exact aj call264 func264 (aa [.o 16 (.e (uT _ _):ai (.sl true 2 3 λi_ j_=>(iy a++iy b).getD (i_*3+j_) (.v (.bool false))) (nL [a,b])),af [iP p,nL [a,b]] (vB _ _ _ aE aE aD aD),ah 19 ((0:Int) != 0) aF,ag 25 (((gK a.m).length:Int)==0) (qk (pY.2 a0)),.o 32 (.e qM:ai (.agg aq) (gM ix))]<|rQ (.hH [gM ix,iP 0]) (.hH [gM (ji (mK a b) p up),iP (jl (mK a b) p up)]) (by rw[e1,(yW p up).1,(yW p up).2])) 
 .by_cases b0:b.m=0
  .have e1:mK a b=ix:=by unfold mK;rw[b0,cH];rfl
   exact aj call264 func264 (aa [.o 16 (.e (uT _ _):ai (.sl true 2 3 λi_ j_=>(iy a++iy b).getD (i_*3+j_) (.v (.bool false))) (nL [a,b])),af [iP p,nL [a,b]] (vB _ _ _ aE aE aD aD),ah 19 ((0:Int) != 0) aF,ah 25 (((gK a.m).length:Int)==0) (mv (pv a0)),ag 30 (((gK b.m).length:Int)==0) (qk (pY.2 b0)),.o 32 (.e qM:ai (.agg aq) (gM ix))]<|rQ (.hH [gM ix,iP 0]) (.hH [gM (ji (mK a b) p up),iP (jl (mK a b) p up)]) (by rw[e1,(yW p up).1,(yW p up).2])) 
  .have va:=ha.gK;have vb:=hb.gK;have xa:=ha.exp;have xb:=hb.exp;have ra:=ha.range.resolve_left a0;have rb:=hb.range.resolve_left b0;have bm:=IU a.m b.m;have z1:(gK (a.m*b.m)).length<=256:=nI aD;have m0:a.m*b.m≠0:=ez a0 b0;have h0:a.m*b.m≠0\/a.m*b.m=0/\a.e+b.e=0/\false=false:=.inl m0;have hm:false=true->p<gU (a.m*b.m):=λh=>by cases h
   obtain⟨q1,q2⟩:=Vf (a.neg != b.neg) up (a.m*b.m) (a.e+b.e) p m0;change ji (mK a b) p up=_ at q1;change jl (mK a b) p up=_ at q2;exact aj call264 func264 (aa [.o 16 (.e (uT _ _):ai (.sl true 2 3 λi_ j_=>(iy a++iy b).getD (i_*3+j_) (.v (.bool false))) (nL [a,b])),af [iP p,nL [a,b]] (vB _ _ _ aE aE aD aD),ah 19 ((0:Int) != 0) aF,ah 25 (((gK a.m).length:Int)==0) (mv (pv a0)),ah 30 (((gK b.m).length:Int)==0) (mv (pv b0)),af [gO (gK a.m),gO (gK b.m)] (adv _ _ aD aD aD),gW (a.e+b.e) aD,.c (Ei (! (a.neg==b.neg)) (a.m*b.m) (a.e+b.e) false up p aD aE aD aD aD aD aE)]<|rQ (.hH [gM (jK (!(a.neg==b.neg)) (a.m*b.m) (a.e+b.e) false p up),iP (jD (!(a.neg==b.neg)) (a.m*b.m) (a.e+b.e) false p up)]) (.hH [gM (ji (mK a b) p up),iP (jl (mK a b) p up)]) (by rw[q1,q2];rfl)) 
def af7(a b:Dy)(p:Nat)(ha:a.gQ)(hb:b.gQ)(ie:8<=p)(gS:p<=512):gJ 149 [gM a,gM b,iP p] (.hH [gM (ji (iM a b) p false),iP (jl (iM a b) p false)]):=
 aj call149 func149 (ae [.c (UH a b p false aE aE aD aD)]) 
def wG(a b:Dy)(p:Nat)(ha:a.gQ)(hb:b.gQ)(ie:8<=p)(gS:p<=512):gJ 150 [gM a,gM b,iP p] (.hH [gM (ji (iM a b) p true),iP (jl (iM a b) p true)]):=
 aj call150 func150 (ae [.c (UH a b p true aE aE aD aD)]) 
def L4(a b:Dy)(p:Nat)(ha:a.gQ)(hb:b.gQ)(ie:8<=p)(gS:p<=512):gJ 189 [gM a,gM b,iP p] (.hH [gM (ji (mK a b) p false),iP (jl (mK a b) p false)]):=
 aj call189 func189 (ae [.c (UO a b p false aE aE aD aD)]) 
def L5(a b:Dy)(p:Nat)(ha:a.gQ)(hb:b.gQ)(ie:8<=p)(gS:p<=512):gJ 190 [gM a,gM b,iP p] (.hH [gM (ji (mK a b) p true),iP (jl (mK a b) p true)]):=
 aj call190 func190 (ae [.c (UO a b p true aE aE aD aD)]) 
end Go.Proofs.YtkjkcjhacddojaaGreatDoor
namespace Go.Proofs.YtkjkcjhacddojaaGreatDoor.Fp
def acE{U V P q:Nat}(hP:0<P)(hV:9223372036854775808<=V/P)(hUV:U<4294967296*V)(h1:q<=4294967295)(h2:q<=U/P/(V/P))(h3:q=4294967295\/U/P/(V/P)<=q):
 U/V<=q/\q<=U/V+1:=by
 have JX:0<V/P:= aD ;have uX:0<V:=by
  apply bY;intro h;have:V=0:= aD ;rw[this,fm]at JX;omega
 have hVm:=ck V P;have hVr:=bA V hP;have hUm:=ck U P;have hUr:=bA U hP;constructor
 .
  rcases h3 with h3|h3
  .have:U/V<4294967296:=by rw[bZ uX];exact hUV
   omega
  .refine bM ?_ h3;rw[de JX,de hP,bw];have h4:V/P*P<=V:=dj V P;exact bM (cA _ h4) (dj U V)
 .
  have h4:q*(V/P)<=U/P:=(de JX).1 h2;have h5:q*V<=q*(V/P)*P+q*P:=by
   have:V<=V/P*P+P:=by rw[bB];omega
   have:=cA q this;rw[bH,<-bw]at this;exact this
  have h6:q*(V/P)*P<=U:=bM (bL P h4) (dj U P);have h7:(q+1)*P<=V/P*P:=bL P aD;have h8:V/P*P<=V:=dj V P;have h9:q*V<U+V:=by
   rw[bT,bX]at h7;omega
  apply bY;intro h;have sU:(U/V+2)*V<=q*V:=bL V aD;have uf:=ck U V;have h12:=bA U uX;rw[bT,bB (U/V)]at sU;omega
def YI{x v w third q rest:Nat}(hx:q*v+rest=x)(hq:q<=4294967295)(hw:w<4294967296)(hv:0<v)
 (h:4294967296<=rest\/q*w<=rest*4294967296+third):q<=(x*4294967296+third)/(v*4294967296+w):=by
 rw[de aD,bH,<-hx];have e:q*(v*4294967296)=q*v*4294967296:=by rw[bw]
 rw[e,bT];rcases h with h|h
 .have h1:q*w<=4294967295*4294967295:=di hq aD ;omega
 .omega
def Ou{x v w third q rest:Nat}(hx:q*v+rest=x)(hv:0<v)(h:rest*4294967296+third<q*w):
 (x*4294967296+third)/(v*4294967296+w)<=q-1/\0<q/\(q-1)*v+(rest+v)=x:=by
 have hq:0<q:=by
  apply bY;intro h';have:q=0:= aD ;subst this;rw[cB]at h;omega
 obtain⟨r,rfl⟩:∃ r,q=r+1:=⟨q-1,aD⟩
 refine⟨?_,hq,?_⟩
 .have e1:(r+1)*(v*4294967296+w)=(r+1)*v*4294967296+(r+1)*w:=by rw[bH,<-bw]
  have e2:((r+1)*v+rest)*4294967296=(r+1)*v*4294967296+rest*4294967296:=bT _ _ _;have:(x*4294967296+third)/(v*4294967296+w)<r+1:=by
   have hd:0<v*4294967296+w:= aD ;have e4:x*4294967296=(r+1)*v*4294967296+rest*4294967296:=hx▸e2;refine(bZ hd).2 ?_;rw[e1,e4];clear e1 e2 e4 hd hx hq;generalize (r+1)*v=a at *
   generalize (r+1)*w=z at *
   exact Nat.add_lt_add_left h _|>λh=>by rw[<-cP]at h;exact h
  omega
 .have e3:(r+1)*v=r*v+v:=Nat.succ_mul r v;rw[dB];rw[e3]at hx;clear e3 h hq;generalize r*v=a at *
  omega
def YK{x v w third:Nat}(hv:0<v)(ht:third<4294967296):(x*4294967296+third)/(v*4294967296+w)<=x/v:=by
 have h1:(x*4294967296+third)/(v*4294967296+w)<=(x*4294967296+third)/(v*4294967296):=Nat.div_le_div_left aD aD;refine bM h1 ?_;rw[bB v,<-cJ];have:(x*4294967296+third)/4294967296=x:= aD ;rw[this];exact bp _
structure vO(O0:List Nat)(j q:Nat)(V:List Nat)(k:Nat)(O:List Nat)(c b:Nat):Prop where
 len:O.length=O0.length
 ok:iw O
 vl:val O+q*(4294967296^j*val (V.take k))=val O0+4294967296^(j+k)*(c+b)
 pk:∀ i,j+k<=i->O.getD i 0=O0.getD i 0
 NJ:c<4294967296
 Nt:b<=1
def vO.start{O0:List Nat}(h:iw O0)(j q:Nat)(V:List Nat):vO O0 j q V 0 O0 0 0:=
 ⟨rfl,h,by simp[val],λ_ _=>rfl,aF,aF⟩
def aiv{q y c b u:Nat}(hq:q<=4294967295)(hy:y<4294967296)(hc:c<4294967296)(hb:b<=1)(hu:u<4294967296):
 q*y+c<18446744073709551616/\(q*y+c)/4294967296<4294967296 /\
 ((u+18446744073709551616-(q*y+c)%4294967296-b)%18446744073709551616)/9223372036854775808<=1 /\
 ((u+18446744073709551616-(q*y+c)%4294967296-b)%18446744073709551616)%4294967296+(q*y+c)%4294967296+b =
  u+4294967296*(((u+18446744073709551616-(q*y+c)%4294967296-b)%18446744073709551616)/9223372036854775808):=by
 have h1:q*y<=4294967295*4294967295:=di hq aD;generalize q*y=z at *
 omega
def vO.step{O0 V O:List Nat}{j q k c b:Nat}(h:vO O0 j q V k O c b){u' b':Nat}(hk:k<V.length)(hj:j+V.length<O0.length)(hu:u'<4294967296)(hc:(q*V.getD k 0+c)/4294967296<4294967296)(hb:b'<=1)
 (hd:u'+(q*V.getD k 0+c)%4294967296+b=O.getD (j+k) 0+4294967296*b'):
 vO O0 j q V (k+1) (O.set (j+k) u') ((q*V.getD k 0+c)/4294967296) b':=by
 have oZ:j+k<O.length:=by rw[h.len];omega
 refine⟨by rw[cI];exact h.len,h.ok.set _ hu,?_,λi hi=>?_,hc,hb⟩
 .have e:=dC (q*V.getD k 0+c) 4294967296;have h1:=wK (x:=u') oZ;have h2:=h.vl;have h3:u'+(q*V.getD k 0+c)+b=O.getD (j+k) 0+4294967296*((q*V.getD k 0+c)/4294967296+b'):= aD ;have h4:=congrArg (4294967296^(j+k) * ·) h3;simp only[bH]at h4;rw[tI,bH (4294967296^j),bH q,<-bw (4294967296^j),<-bq,show q*(4294967296^(j+k)*V.getD k 0)=4294967296^(j+k)*(q*V.getD k 0)from cW _ _ _,
   show j+(k+1)=j+k+1 from rfl,bE,bw,bH 4294967296,bH (4294967296^(j+k))]
  rw[bH]at h2;omega
 .rw [ue aD];exact h.pk i aD 
def vO.K0{O0 V O:List Nat}{j q c b:Nat}(h:vO O0 j q V V.length O c b)(hj:j+V.length<O0.length){t:Nat}
 (ht:t=(O.getD (j+V.length) 0+18446744073709551616-c-b)%18446744073709551616):
 (O.set (j+V.length) (t%4294967296)).length=O0.length/\iw (O.set (j+V.length) (t%4294967296))/\t/9223372036854775808<=1 /\
 val (O.set (j+V.length) (t%4294967296))+q*(4294967296^j*val V)=val O0+4294967296^(j+V.length+1)*(t/9223372036854775808) /\
 ∀ i,j+V.length<i->(O.set (j+V.length) (t%4294967296)).getD i 0=O0.getD i 0:=by
 have oZ:j+V.length<O.length:=by rw[h.len];omega
 have hc:=h.NJ;have hb:=h.Nt;have hu:=h.ok.getD (j+V.length);have hd:t%4294967296+c+b=O.getD (j+V.length) 0+4294967296*(t/9223372036854775808):= aD ;refine⟨by rw[cI];exact h.len,h.ok.set _ (bA _ aF),aD,?_,λi hi=>by rw[ue aD];exact h.pk i aD⟩;have h1:=wK (x:=t%4294967296) oZ;have h2:=h.vl;rw[fk]at h2;have h4:=congrArg (4294967296^(j+V.length) * ·) hd;simp only[bH]at h4;rw[bE,bw];rw[bH]at h2;omega
structure vN(O0:List Nat)(j:Nat)(V:List Nat)(k:Nat)(O:List Nat)(c:Nat):Prop where
 len:O.length=O0.length
 ok:iw O
 vl:val O+4294967296^(j+k)*c=val O0+4294967296^j*val (V.take k)
 pk:∀ i,j+k<=i->O.getD i 0=O0.getD i 0
 IZ:c<=1
def vN.start{O0:List Nat}(h:iw O0)(j:Nat)(V:List Nat):vN O0 j V 0 O0 0:=
 ⟨rfl,h,by simp[val],λ_ _=>rfl,aF⟩
def vN.step{O0 V O:List Nat}{j k c:Nat}(h:vN O0 j V k O c)(hV:iw V)(hk:k<V.length)(hj:j+V.length<O0.length):
 vN O0 j V (k+1) (O.set (j+k) ((O.getD (j+k) 0+V.getD k 0+c)%4294967296)) ((O.getD (j+k) 0+V.getD k 0+c)/4294967296):=by
 have oZ:j+k<O.length:=by rw[h.len];omega
 have hu:=h.ok.getD (j+k);have hy:=hV.getD k;have hc:=h.IZ;refine⟨by rw[cI];exact h.len,h.ok.set _ (bA _ aF),?_,λi hi=>by rw[ue aD];exact h.pk i aD,aD⟩;have h1:=wK (x:=(O.getD (j+k) 0+V.getD k 0+c)%4294967296) oZ;have h2:=h.vl;have h4:=congrArg (4294967296^(j+k) * ·) (dC (O.getD (j+k) 0+V.getD k 0+c) 4294967296);simp only[bH]at h4;rw[tI,bH (4294967296^j),<-bw (4294967296^j),<-bq,show j+(k+1)=j+k+1 from rfl,bE,bw];omega
def vN.K0{O0 V O:List Nat}{j c:Nat}(h:vN O0 j V V.length O c)(hj:j+V.length<O0.length):
 (O.set (j+V.length) ((O.getD (j+V.length) 0+c)%4294967296)).length=O0.length/\iw (O.set (j+V.length) ((O.getD (j+V.length) 0+c)%4294967296)) /\
 (∃ κ,κ<=1/\val (O.set (j+V.length) ((O.getD (j+V.length) 0+c)%4294967296))+4294967296^(j+V.length+1)*κ=val O0+4294967296^j*val V) /\
 ∀ i,j+V.length<i->(O.set (j+V.length) ((O.getD (j+V.length) 0+c)%4294967296)).getD i 0=O0.getD i 0:=by
 have oZ:j+V.length<O.length:=by rw[h.len];omega
 have hu:=h.ok.getD (j+V.length);have hc:=h.IZ;refine⟨by rw[cI];exact h.len,h.ok.set _ (bA _ aF),⟨(O.getD (j+V.length) 0+c)/4294967296,aD,?_⟩,λi hi=>by rw[ue aD];exact h.pk i aD⟩;have h1:=wK (x:=(O.getD (j+V.length) 0+c)%4294967296) oZ;have h2:=h.vl;rw[fk]at h2;have h4:=congrArg (4294967296^(j+V.length) * ·) (dC (O.getD (j+V.length) 0+c) 4294967296);simp only[bH]at h4;rw[bE,bw];omega
def Ir{O:List Nat}(h:iw O){k:Nat}(hz:∀ i,k<=i->O.getD i 0=0):val O<4294967296^k:=by
 by_cases hk:O.length<=k
 .exact bN (lW h) (bG aF hk)
 .rw [Cx O k aD];have:val (O.drop k)=0:=by
   rw[EB];intro x hx;obtain⟨i,hi⟩:=dr.1 hx;rw[eB]at hi;have:=hz (k+i) aD;rw[bn,hi]at this;exact this
  rw[this,cH,bK];have h1:=lW (h.take k);rw[cj,df aD]at h1;exact h1
def aiC{O:List Nat}(h:iw O){k:Nat}(hv:val O<4294967296^k){i:Nat}(hi:k<=i):O.getD i 0=0:=by
 have h1:val (O.drop k)=0:=by rw[EA h,ca hv]
 rw[EB]at h1;rw[bn];cases hg:O[i]? with
 |none=>rfl
 |some x=>exact h1 x (dr.2 ⟨i-k,by rw[eB,(aD:k+(i-k)=i)];exact hg⟩)
def Ov{u u' V P x:Nat}(hP:0<P)(hV:0<V)(h:u'+x*(P*V)=u)(hx:u/P/V<=x):x=u/P/V/\u'<V*P:=by
 have h1:x*V<=u/P:=by
  rw[de hP,bw,bB V P];omega
 have h2:x<=u/P/V:=(de hV).2 h1;have h3:x=u/P/V:= aD ;refine⟨h3,?_⟩;have e1:=ck u P;have e2:=bA u hP;have e3:=ck (u/P) V;have e4:=bA (u/P) hV;rw[<-h3]at e3;have e5:P*(u/P)=x*(P*V)+P*(u/P%V):=by
  rw[<-e3,bH,e3,bB V x,cW]
 have e6:P*(u/P%V)+P<=V*P:=by
  rw[bB V P,<-Nat.mul_succ];exact cA P e4
 omega
def YJ{u u' u'' V P R x κ:Nat}(hP:0<P)(hV:0<V)(h:u'+x*(P*V)=u+R)(h':u'<R)(hx:x<=u/P/V+1)
 (hk:κ<=1) (h2:u''+R*κ=u'+P*V) (h3:u''<R):0<x/\x-1=u/P/V/\u''+(x-1)*(P*V)=u/\u''<V*P:=by
 have lP:u/P<x*V:=by
  rw[bZ hP,bw,bB V P];omega
 have BF:u/P/V<x:=by rw[bZ hV];exact lP
 have vn:x=u/P/V+1:=Nat.le_antisymm hx BF;obtain⟨y,hy⟩:∃ y,y=u/P/V:=⟨_,rfl⟩
 rw[<-hy]at vn;subst vn;rw[dB];have e0:(y+1)*(P*V)=y*(P*V)+P*V:=Nat.succ_mul _ _;have e1:y*(P*V)<=u:=by
  have:y*V<=u/P:=by rw[hy];exact dj _ _
  have:=(de hP).1 this;rw[bw,bB V P]at this;exact this
 have hκ:κ=1:=by
  apply bY;intro q;obtain rfl:κ=0:= aD ;omega
 subst hκ;have e2:u''+y*(P*V)=u:= aD ;exact⟨aD,hy,e2,(Ov hP hV e2 aD).2⟩
def rP(q rest third v w x:Nat):Prop:=rest+x*v<4294967296/\(rest+x*v)*4294967296+third<(q-x)*w
def Oq{X q rest third v w:Nat}(hx:q*v+rest=X)(hq:q<=4294967295)(hv:2147483648<=v)(hw:w<4294967296):
 ∃ N,N<=2/\N<=q/\(∀ x,x<N->rP q rest third v w x)/\¬rP q rest third v w N/\q-N<=(X*4294967296+third)/(v*4294967296+w)/\(N=0\/(X*4294967296+third)/(v*4294967296+w)<=q-N):=by
 have stop:∀ {q' r':Nat},q'*v+r'=X->q'<=4294967295->¬(r'<4294967296/\r'*4294967296+third<q'*w)->q'<=(X*4294967296+third)/(v*4294967296+w):=fun {q' r'} h1 h2 h3=>
  YI h1 h2 hw aD (by
   by_cases hr:4294967296<=r'
   .exact .inl hr
   .refine .inr (fo λhn=>h3 ⟨gF hr,hn⟩))
 by_cases h0:rP q rest third v w 0
 .have g0:=h0;unfold rP at g0;rw[cB,bK,du]at g0;obtain⟨k1,k2,k3⟩:=Ou hx aD g0.2;by_cases h1:rP q rest third v w 1
  .have g1:=h1;unfold rP at g1;rw[bX]at g1;obtain⟨l1,l2,l3⟩:=Ou k3 aD g1.2;have h2:¬rP q rest third v w 2:=λh=>by unfold rP at h;omega
   refine⟨2,bp _,aD,λx hx=>?_,h2,?_,.inr l1⟩
   .obtain rfl|rfl:x=0\/x=1:= aD 
    .exact h0
    .exact h1
   .refine stop (r':=rest+v+v) l3 aD λh=> aD 
  .refine ⟨1,aF,k2,λx hx=>?_,h1,?_,.inr k1⟩
   .obtain rfl:x=0:= aD ;exact h0
   .unfold rP at h1;rw[bX]at h1;exact stop k3 aD h1
 .refine ⟨0,aF,b6 _,λx hx=>absurd hx (bC x),h0,?_,.inl rfl⟩;unfold rP at h0;rw[cB,bK,du]at h0;exact stop hx hq h0
def Y0{a b s q r:Nat}(hb:0<b)(h:r+b*2^s*q=a*2^s)(hr:r<b*2^s):q=a/b/\r=a%b*2^s:=by
 have hp:0<2^s:=bu aF;have h1:r%2^s=0:=by
  have:=congrArg (· % 2^s) h;simp only[fC]at this;rw[bw,cW,dY]at this;exact this
 obtain⟨t,ht⟩:∃ t,r=t*2^s:=⟨r/2^s,by rw[Nat.div_mul_cancel (Nat.dvd_of_mod_eq_zero h1)]⟩
 subst ht;have h2:(t+b*q)*2^s=a*2^s:=by rw[bT,<-h,fB]
 have h3:=aks hp h2;have h4:t<b:=akt hr;constructor
 .rw [<-h3,eO _ _ hb,ca h4,bU]
 .rw [<-h3,dY,bJ h4]
def We{O:List Nat}(h:iw O){j n:Nat}(hn:2<=n)(hz:∀ i,j+n<i->O.getD i 0=0):
 val O/4294967296^j/4294967296^(n-2)=(O.getD (j+n) 0*4294967296+O.getD (j+n-1) 0)*4294967296+O.getD (j+n-2) 0:=by
 rw[cJ,<-bq,<-EA h];have e:∀ (l:List Nat),iw l->(∀ i,2<i->l.getD i 0=0)->val l=(l.getD 2 0*4294967296+l.getD 1 0)*4294967296+l.getD 0 0:=by
  intro l hl hz;rcases l with _|⟨a,_|⟨b,_|⟨c,l⟩⟩⟩
  .rfl
  .simp [val]
  .simp [val];omega
  .have:val l=0:=by
    rw[EB];intro x hx;obtain⟨i,hi⟩:=dr.1 hx;have:=hz (i+3) aD;rw[bn]at this;simp only[aki,hi]at this;exact this
   simp[val,this];omega
 have g:∀ i,(O.drop (j+(n-2))).getD i 0=O.getD (j+(n-2)+i) 0:=λi=>by
  rw[bn,eB,bn]
 rw[e _ (h.drop _) (λi hi=>by rw[g];exact hz _ aD),g,g,g];rw[(aD:j+(n-2)+2=j+n),(aD:j+(n-2)+1=j+n-1),(aD:j+(n-2)+0=j+n-2)]
def aiB{V:List Nat}(h:iw V){n:Nat}(hn:2<=n)(hl:V.length=n):val V/4294967296^(n-2)=V.getD (n-1) 0*4294967296+V.getD (n-2) 0:=by
 have:=We (O:=V) h (j:=0) (n:=n) hn (λi hi=>by rw[bn,bR aD];rfl);rw[bV,dR,bU]at this;rw[this,show V.getD n 0=0 by rw[bn,bR aD];rfl];omega
end Go.Proofs.YtkjkcjhacddojaaGreatDoor.Fp
namespace Go.Proofs.YtkjkcjhacddojaaGreatDoor
open Go.RowKit Fp
def Rx(w:World)(b:Nat)(L:List Nat)(R:List Value):Prop:=w.heap[b]? = some (.cells (nJ L++R).toArray 150 (0,0))
section
variable {w w':World} {b:Nat} {L:List Nat} {R:List Value}
def Rx.lt(h:Rx w b L R):b<w.heap.size:=(cX.1 h).1
def Rx.cell(h:Rx w b L R){i:Nat}(hi:i<L.length):w.cell? ⟨b,i,none⟩=some (.int .u32 (L.getD i 0:Int)):=by
 unfold Rx at h;simp only[World.cell?,h];simp[nJ,hi,fE]
def Rx.frozen(h:Rx w b L R)(i:Nat):w.frozen? ⟨b,i,none⟩=false:=by
 unfold Rx at h;simp[World.frozen?,h]
def Rx.set(h:Rx w b L R){i:Nat}(hi:i<L.length)(x:Nat):Rx (w.setCell ⟨b,i,none⟩ (.int .u32 (x:Int))) b (L.set i x) R:=by
 unfold Rx at h ⊢;simp only[World.setCell,cY,h];simp[nJ,List.map_set,List.set_append,hi]
def Rx.pk(h:Rx w b L R)(hb:w'.heap[b]? = w.heap[b]?):Rx w' b L R:=by unfold Rx at h ⊢;rw[hb];exact h
end
structure rL(b:Nat)(w w':World):Prop where
 below:Below b w w'
 size:w'.heap.size=w.heap.size
 oW:∀ x,x≠b->w'.heap[x]? = w.heap[x]?
def rL.refl(b:Nat)(w:World):rL b w w:=⟨Below.refl _ _,rfl,λ_ _=>rfl⟩
def rL.Et{b:Nat}{w w':World}(h:rL b w w')(i:Nat)(v:Value):rL b w (w'.setCell ⟨b,i,none⟩ v):=
 ⟨h.below.setCell (p:=⟨b,i,none⟩) (bp _) v,by
  have:(w'.setCell ⟨b,i,none⟩ v).heap.size=w'.heap.size:=by simp[World.setCell]
  rw[this,h.size],λx hx=>by
  rw[<-h.oW x hx];simp only[World.setCell,cY];rw[bh (λe=>hx e.symm)]⟩
def MN(b:Nat)(A:Option Addr):Prop:=∀ b' o s,A=some ⟨b',o,s⟩->b'≠b
def Sl.oW{w w':World}{A:Option Addr}{c b:Nat}{L:List Nat}(h:Sl w A c L)(ha:MN b A)(ho:rL b w w'):Sl w' A c L:=
 ⟨h.cap,h.pg,h.ok,h.vw,λi x hx=>by
  obtain⟨b',o,e,h1,h2⟩:=h.cell i x hx;refine⟨b',o,e,by rw[ho.size];exact h1,?_⟩;rw[<-h2];exact(World.cell?_of_block (w:=w) (w':=w') (ho.oW b' (ha _ _ _ e)))⟩
def WI{u m b:Nat}(hm:m<4294967296)(hb:b<=4294967296):
 IntKind.u64.wrap (IntKind.u64.wrap ((u:Int)-m)-(b:Int))=(((u+18446744073709551616-m-b)%18446744073709551616:Nat):Int):=by
 rw[IntKind.wrap_u64,IntKind.wrap_u64];omega
def aiu(b j cu c q:Nat)(O V:List Nat)(R:List Value)(A:Option Addr)(w:World)(hu:Rx w b O R)(hv:Sl w A c V)(hA:MN b A)(kf:iw O)(hj:j+V.length<O.length)(hq:q<=4294967295)(hl:O.length<=1000000):
 Calls prog 378 #[.slice (some ⟨b,j,none⟩) (V.length+1) cu,.slice A V.length c,.int .u64 q] w λe w'=>∃ (O':List Nat) (δ:Nat),e = .returned (.bool (decide (δ=1)))/\Rx w' b O' R/\O'.length=O.length/\iw O'/\δ<=1 /\
  val O'+q*(4294967296^j*val V)=val O+4294967296^(j+V.length+1)*δ/\(∀ i,j+V.length<i->O'.getD i 0=O.getD i 0)/\rL b w w':=by
 obtain⟨n,hn⟩:∃ n,n=V.length:=⟨_,rfl⟩
 rw[<-hn]at hj ⊢;have HN:=akw hn;have HJ:=akw hj;clear hn;have jZ:n<=1000000:= aD ;have ui:j<=1000000:= aD ;clear hj;have HT0:=akw (vO.start kf j q V);clear kf;have HO:=akw (rL.refl b w);have HU:=akw hu;clear hu;go_enter func378,ntmps378;go_wp2;go_loopw [7,8,9,10,11,12,16] (λcy bo _ _ _ _ i wr=>∃ (k c' b':Nat) (O':List Nat),k<=n/\i = .int .i64 k/\cy = .int .u64 c'/\bo = .int .u64 b'/\vO O j q V k O' c' b'/\Rx wr b O' R/\rL b w wr) (λ_ _ _ _ _ _ i _=>n-(intOf i).toNat)
 case atStart=>
  exact⟨0,0,0,O,b6 _,rfl,rfl,rfl,HT0.out,HU.out,HO.out⟩
 case round=>
  obtain⟨k,c',b',O',hk,rfl,rfl,rfl,ht,hR,ho⟩:=hrel;clear HT0 HO HU;have HTk:=akw ht;have kJ:=ht.Nt;have C6:=ht.NJ;have HOl:=akw ht.len;clear ht;have KG:=hv.oW hA ho;by_cases iE:k<n
  .have xj:k<V.length:=by rw[<-HN.out];exact iE
   obtain⟨ab,ao,e1,_,c1⟩:=KG.k0 xj;have oK:V.getD k 0<4294967296:=hv.ok.getD k;have Rh:V[k]=V.getD k 0:=by simp[bn,xj]
   rw[Rh]at c1;have oZ:j+k<O'.length:=by rw[HOl.out];have:=HJ.out;omega
   have c2:=hR.cell oZ;have c3:=hR.frozen (j+k);have Dm:O'.getD (j+k) 0<4294967296:=HTk.out.ok.getD _;obtain⟨rY,kr,BA,QX⟩:=aiv hq oK C6 kJ Dm;have HST:=akw (HTk.out.step (b':=((O'.getD (j+k) 0+18446744073709551616-(q*V.getD k 0+c')%4294967296-b')%18446744073709551616)/9223372036854775808) xj (by rw[<-HN.out];exact HJ.out) (bA _ aF) kr BA QX);have HRS:=akw (λx:Nat=>hR.set oZ x);have HOS:=akw (λ(v:Value)=>ho.Et (j+k) v);clear hR ho HTk oZ Rh xj QX HOl KG;subst e1;have QN:q*V.getD k 0<=4294967295*4294967295:=di hq aD;have xp:IntKind.u64.wrap ((q:Int)*(V.getD k 0:Int))=((q*V.getD k 0:Nat):Int):=by rw[<-dQ];exact oH _ aD 
   generalize V.getD k 0=y at *
   generalize q*y=z at *
   have Gq:IntKind.u64.wrap ((z:Int)+c')=((z+c':Nat):Int):=by rw[<-eG];exact oH _ aD 
   generalize O'.getD (j+k) 0=u at *
   generalize z+c'=s at *
   have s7:bits .and .u64 (s:Int) 4294967295=((s%4294967296:Nat):Int):=by rw[uR s aD];omega
   have ajs:s%4294967296<4294967296:=bA _ aF;have hd:(s:Int)/4294967296=((s/4294967296:Nat):Int):= aD ;generalize s%4294967296=m at *
   generalize s/4294967296=s2 at *
   have Dj:=WI (u:=u) (m:=m) (b:=b') aD aD;generalize (u+18446744073709551616-m-b')%18446744073709551616=t at *
   have vW:(j:Int)+k=((j+k:Nat):Int):= aD ;go_wp2;go_roundw
   case rel=>
    have e1:((t:Int)%4294967296)=((t%4294967296:Nat):Int):= aD ;exact⟨k+1,s2,t/9223372036854775808,O'.set (j+k) (t%4294967296),aD,by go_num,by go_num,by go_num,HST.out,by rw[e1];exact HRS.out _,HOS.out _⟩
   case measure=>simp[intOf];omega
  .obtain rfl:k=n:= aD ;have Kn:j+k<O.length:=HJ.out;have HTk':=akw (show vO O j q V V.length O' c' b' by rw[<-HN.out];exact HTk.out);have HL:=HTk'.out.K0 (t:=(O'.getD (j+k) 0+18446744073709551616-c'-b')%18446744073709551616) (by rw[<-HN.out];exact Kn) (by rw[<-HN.out]);rw[<-HN.out]at HL;have HT:=akw HL;clear HL;have oZ:j+k<O'.length:=by rw[HOl.out];exact Kn
   have c2:=hR.cell oZ;have c3:=hR.frozen (j+k);have Dm:O'.getD (j+k) 0<4294967296:=HTk.out.ok.getD _;have HRS:=akw (λx:Nat=>hR.set oZ x);have HOS:=akw (λ(v:Value)=>ho.Et (j+k) v);clear hR ho HTk HTk' oZ Kn HOl KG;generalize O'.getD (j+k) 0=u at *
   have Dj:=WI (u:=u) (m:=c') (b:=b') C6 aD;have htl:(u+18446744073709551616-c'-b')%18446744073709551616<18446744073709551616:=bA _ aF;generalize (u+18446744073709551616-c'-b')%18446744073709551616=t at *
   have vW:(j:Int)+k=((j+k:Nat):Int):= aD ;go_wp2;go_ret;have e1:((t:Int)%4294967296)=((t%4294967296:Nat):Int):= aD ;obtain⟨t1,t2,t3,t4,t5⟩:=HT.out;exact⟨O'.set (j+k) (t%4294967296),t/9223372036854775808,Hm (a:=(((t:Int)/9223372036854775808)==1)) (by rw[dn,gz,gy];omega),by rw[e1];exact HRS.out _,t1,t2,t3,t4,t5,HOS.out _⟩
def SO(A:Option Addr)(c:Nat)(L:List Nat)(n:Nat)(w:World)(hs:Sl w A c L)(hlen:L.length<=100000000)(hn:n<=65536):
 Calls prog 275 #[.slice A L.length c,.int .i64 n] w (λe w'=>∃ T v,e = .returned v/\val T=val L*2^n/\T.length=n/32+(gT L).length+1/\Ow w' w.heap.size v T/\iu w w'):=by
 have hT:=akw (tu A c L w hs);have kr:=hs.sN;have nd:=n9 L;have hC:=kr.cap;have hL:=hs.pg;unfold lI at nd;have hv:=akw (oc L);generalize gT L=M at *
 obtain⟨m,hm⟩:∃ m,m=M.length:=⟨_,rfl⟩
 rw[<-hm]at hT nd hC;have HM:=akw hm;clear hm;have oz:=K9 (n/32) (n/32+m+1) aD aD;rw[show((n/32:Nat):Int)=n/32 by omega,show((n/32+m+1:Nat):Int)=n/32+m+1 by omega]at oz;have C3:=akw (Ow.wi w w.heap.size (n/32) (n/32+m+1) (bp _) aD aD);go_enter func275,ntmps275;go_wp2_with fail;refine hT.out.mono ?_;rintro e w' ⟨rfl,rfl⟩;go_wp2;go_loopw [5,6,23] (λv cy i wr=>∃ (k q:Nat) (O:List Nat),k<=m/\i = .int .i64 k/\cy = .int .u64 q/\q<2^(n%32)/\O.length=n/32+k/\val O+4294967296^(n/32+k)*q=val (M.take k)*2^(n%32)*4294967296^(n/32)/\Ow wr w.heap.size v O/\iu w wr) (λ_ _ i _=>m-(intOf i).toNat)
 case atStart=>
  exact⟨0,0,List.replicate (n/32) 0,b6 _,rfl,rfl,bu aF,aJ,by simp[xP],C3.out,iu.alloc _ _⟩
 case round=>
  obtain⟨k,q,O,hk,rfl,rfl,hq,hO,kR,kW,hb⟩:=hrel;have HV:=akw kR;have HO:=akw hO;have C2:O.length<=200000000:= aD ;have s9:=akw hq;clear kR hO hq;obtain⟨OA,Oc,rfl,xl⟩:=kW.sl;by_cases iE:k<m
  .have ot:k<M.length:=by have:=HM.out;omega
   obtain⟨ab,ao,rfl,_,c1⟩:=(kr.below hb).k0 ot;have mi:M[k]<4294967296:=kr.ok.get ot;have HX:=akw (Mq (c:=q) (s:=n%32) (n0:=n/32) ot HO.out HV.out);generalize M[k]=x at *
   obtain⟨hw,xq,sB⟩:=Mr x q (n%32) mi (bA _ aF) s9.out;generalize x*2^(n%32)+q=z at *
   have Dr:=akw sB;clear sB;have lf:O.length+[z%4294967296].length<=10000000000:= aR ;go_wp2_with (at_builtin;go_must (refine qb aI _ _ aI w.heap.size _ O aI (kW.alloc _) _ _ _ [z%4294967296] aI aI (Sl.r6 _ _ (z%4294967296) aD aD) lf (pf hb.size _) ?_);intro v' w1 nV hg oj)
   go_roundw
   case rel=>
    exact⟨k+1,z/4294967296,O++[z%4294967296],aD,by go_num,by go_num,Dr.out,by rw[cv,HO.out];rfl,HX.out,nV,(hb.trans (iu.alloc _ _)).own _ _ (kW.alloc _) hg⟩
   case measure=>simp[intOf];omega
  .obtain rfl:k=m:= aD ;have lf:O.length+[q].length<=10000000000:= aR ;have Gh:q<4294967296:=by
    have:=s9.out;have hp:2^(n%32)<=2^31:=bG aF aD;have e31:(2:Nat)^31=2147483648:= aF ;omega
   have QV:(q:Int)%4294967296=q:= aD ;go_wp2_with (at_builtin;go_must (refine qb aI _ _ aI w.heap.size _ O aI (kW.alloc _) _ _ _ [q] aI aI (Sl.r6 _ _ q aD aD) lf (pf hb.size _) ?_);intro v' w1 nV hg oj)
   go_ret;refine⟨O++[q],v',rfl,?_,by rw[cv,HO.out,<-HM.out];rfl,nV,(hb.trans (iu.alloc _ _)).own _ _ (kW.alloc _) hg⟩;have h:=HV.out;rw[cG (by rw[HM.out];exact bp _)]at h;rw[tH,HO.out,pC,xN,cH,bK,h,<-hv.out,nB,bw,<-bq];congr 2;omega
end Go.Proofs.YtkjkcjhacddojaaGreatDoor
namespace Go.Proofs.YtkjkcjhacddojaaGreatDoor.Fp
def iq(n k:Nat):Nat:=n/4294967296^k%4294967296
def oP(n k:Nat):iq n k<4294967296:=bA _ aF 
def zw(k:Nat):iq 0 k=0:=by unfold iq;rw[fm]
def pw(k:Nat):0<4294967296^k:=bu aF 
def oQ{L:List Nat}(h:iw L)(k:Nat):L.getD k 0=iq (val L) k:=by
 unfold iq;rw[<-EA h];by_cases hk:k<L.length
 .rw [eR hk,show val (L[k]::L.drop (k+1))=L[k]+4294967296*val (L.drop (k+1))from rfl,dY,bJ (h.get hk)];simp[bn,hk]
 .rw [dZ aD,bn,bR aD];rfl
def mod_succ(n k:Nat):n%4294967296^(k+1)=n%4294967296^k+4294967296^k*iq n k:=by
 rw[bE,fP];rfl
def tX{n k:Nat}(h:n<4294967296^k){j:Nat}(hj:k<=j):iq n j=0:=by
 unfold iq;rw[ca (bN h (bG aF hj))]
def iI(n m:Nat):List Nat:=(List.range m).map (iq n)
def mu(n m:Nat):(iI n m).length=m:=by simp[iI]
def sn(n m:Nat):iw (iI n m):=λx hx=>by
 obtain⟨k,_,rfl⟩:=cw.1 hx;exact oP n k
def sk{n m k:Nat}(h:k<m):(iI n m).getD k 0=iq n k:=by
 simp[iI,bn,h]
def Fj(m i:Nat):(iI 0 m).getD i 0=0:=by
 by_cases h:i<m
 .rw [sk h,zw]
 .rw [bn,bR (by rw[mu];omega)];rfl
def YL(n m:Nat):iI n (m+1)=iI n m++[iq n m]:=by simp[iI,List.range_succ]
def vH(n m:Nat):val (iI n m)=n%4294967296^m:=by
 induction m with
 |zero=>simp[iI,val];omega
 |succ m ih=>
  rw[YL,tH,ih,mu,mod_succ];rfl
def aiX{L M:List Nat}(hL:iw L)(hM:iw M)(hl:L.length=M.length)(hv:val L=val M):L=M:=by
 apply dw hl;intro i h1 h2;have e1:=oQ hL i;have e2:=oQ hM i;rw[hv,<-e2]at e1;simpa[bn,h1,h2]using e1
def YM{L:List Nat}(h:iw L):iI (val L) L.length=L:=
 aiX (sn _ _) h (mu _ _) (by rw[vH,bJ (lW h)])
def Fk{L:List Nat}{n m:Nat}(h:iw L)(hl:L.length=m)(hv:val L=n):iI n m=L:=by subst hl hv;exact YM h
def AO{n m:Nat}(h:n<4294967296^m):gT (iI n m)=gK n:=by
 rw[qJ (sn n m),vH,bJ h]
def Jd(n:Nat):iI n (gK n).length=gK n:=Fk (kO n) rfl (jR n)
def ky(a b k m:Nat):List Nat:=(List.range m).map λj=>if j<k then iq a j else iq b j
def tq(a b k m:Nat):(ky a b k m).length=m:=by simp[ky]
def adj{a b k m j:Nat}(h:j<m):(ky a b k m).getD j 0=if j<k then iq a j else iq b j:=by
 simp[ky,bn,h]
def DO{a b k m:Nat}(h:k<m):(ky a b k m).getD k 0=iq b k:=by rw[adj h,bh (eu k)]
def DP(a b m:Nat):ky a b 0 m=iI b m:=by simp[ky,iI]
def GH{a b k m:Nat}(h:m<=k):ky a b k m=iI a m:=by
 unfold ky iI;exact dh λj hj=>bj (bN (bD.1 hj) h)
def GI{a b k m:Nat}:(ky a b k m).set k (iq a k)=ky a b (k+1) m:=by
 apply dw
 .simp [ky]
 .intro j h1 h2;have hj:j<m:=by simpa[ky]using h2
  rw[akb];by_cases h:k=j
  .subst h;simp[ky]
  .rw [bh h];simp only[ky,dx,dK];by_cases q:j<k
   .rw [bj q,bj aD]
   .rw [bh q,bh aD]
def adk{a b k m:Nat}:(ky a b (k+1) m).set k (iq b k)=ky a b k m:=by
 apply dw
 .simp [ky]
 .intro j h1 h2;have hj:j<m:=by simpa[ky]using h2
  rw[akb];by_cases h:k=j
  .subst h;simp[ky]
  .rw [bh h];simp only[ky,dx,dK];by_cases q:j<k
   .rw [bj q,bj aD]
   .rw [bh q,bh aD]
def Jg(a k:Nat):a/4294967296^k=4294967296*(a/4294967296^(k+1))+iq a k:=by
 rw[bE,<-cJ];unfold iq;omega
def ahD{a d k:Nat}(hd:0<d)(rn:d<4294967296):(a/4294967296^(k+1)%d*4294967296+iq a k)/d=iq (a/d) k/\(a/4294967296^(k+1)%d*4294967296+iq a k)%d=a/4294967296^k%d:=by
 have e1:=Jg a k;have e2:=ck (a/4294967296^(k+1)) d;have e3:=bA (a/4294967296^(k+1)) hd;have e4:=oP a k;have e5:a/4294967296^k=d*(4294967296*(a/4294967296^(k+1)/d))+(a/4294967296^(k+1)%d*4294967296+iq a k):=by
  rw[e1,cW];omega
 have e6:(a/4294967296^(k+1)%d*4294967296+iq a k)/d<4294967296:=by
  rw[bZ hd];have:=bL 4294967296 (show a/4294967296^(k+1)%d+1<=d from e3);omega
 constructor
 .conv=>rhs;unfold iq
  rw[cJ,bB d,<-cJ,e5,dk hd,dG,bJ e6]
 .rw [e5,dG]
def Pd{a b N:Nat}(ha:a<4294967296^N)(hb:b<4294967296^N)(h:∀ i,i<N->iq a i=iq b i):a=b:=by
 have e1:val (iI a N)=a:=by rw[vH,bJ ha]
 have e2:val (iI b N)=b:=by rw[vH,bJ hb]
 rw[<-e1,<-e2];congr 1;exact dh λj hj=>h j (bD.1 hj)
def Y2{a b N j:Nat}(ha:a<4294967296^N)(hb:b<4294967296^N)(h:∀ i,j<=i->iq a i=iq b i):a/4294967296^j=b/4294967296^j:=by
 have e:∀ (n i:Nat),iq (n/4294967296^j) i=iq n (j+i):=λn i=>by unfold iq;rw[cJ,<-bq]
 refine Pd (N:=N) (cC (cz _ _) ha) (cC (cz _ _) hb) λi _=>?_
 rw[e,e];exact h _ aD 
def Sa{a b N j:Nat}(ha:a<4294967296^N)(hb:b<4294967296^N)(h:∀ i,j<i->iq a i=iq b i)(hd:iq a j<iq b j):a<b:=by
 have e:=Y2 (j:=j+1) ha hb λi hi=>h i hi
 have e1:=Jg a j;have e2:=Jg b j;have:a/4294967296^j<b/4294967296^j:= aD ;exact gF λhle=>by
  have:=Nat.div_le_div_right (c:=4294967296^j) hle;omega
def NA{n k:Nat}(h:n<4294967296^(k+1))(hd:iq n k≠0):gU n=32*k+gU (iq n k):=by
 have e1:iq n k=n/4294967296^k:=by
  unfold iq;rw[bJ];rw[bZ (pw k),bB 4294967296,<-bE];exact h
 have h1:=qK hd;have h2:=px (iq n k);have h3:=mZ hd;obtain⟨m,hm⟩:∃ m,gU (iq n k)=m+1:=⟨gU (iq n k)-1,aD⟩
 rw[hm]at h1 h2 ⊢;rw[dB]at h1;rw[<-cP];have hp:(4294967296:Nat)^k=2^(32*k):=nB k;refine tR ?_ ?_
 .rw [e1,de (pw k),hp,<-bq,ej]at h1;exact h1
 .rw [e1,bZ (pw k),hp,<-bq,(aD:m+1+32*k=32*k+m+1)]at h2;exact h2
def jt(a b k:Nat):Nat:=(a%4294967296^k+b%4294967296^k)/4294967296^k
def Fa(a b:Nat):jt a b 0=0:=by unfold jt;simp[cT]
def si(a b k:Nat):jt a b k<=1:=by
 unfold jt;have h1:=bA a (pw k);have h2:=bA b (pw k);have:(a%4294967296^k+b%4294967296^k)/4294967296^k<2:=by rw[bZ (pw k)];omega
 omega
def IP(a b k:Nat):(a+b)/4294967296^k=a/4294967296^k+b/4294967296^k+jt a b k:=by
 unfold jt;have h1:=ck a (4294967296^k);have h2:=ck b (4294967296^k);have h3:=dk (pw k) (a/4294967296^k+b/4294967296^k) (a%4294967296^k+b%4294967296^k);rw[<-h3];congr 1;rw[bH];omega
def wQ(a b k:Nat):iq a k+iq b k+jt a b k=iq (a+b) k+4294967296*jt a b (k+1):=by
 have h1:jt a b (k+1)=(iq a k+iq b k+jt a b k)/4294967296:=by
  conv=>lhs;unfold jt
  rw[mod_succ,mod_succ,bE,<-cJ];congr 1;have h3:=dk (pw k) (iq a k+iq b k) (a%4294967296^k+b%4294967296^k);unfold jt;rw[<-h3];congr 1;rw[bH];omega
 have h2:iq (a+b) k=(iq a k+iq b k+jt a b k)%4294967296:=by
  conv=>lhs;unfold iq
  rw[IP];unfold iq;omega
 rw[h1,h2];exact(dC _ _).symm
def X6{a b k:Nat}(h:a+b<4294967296^k):jt a b k=0:=by
 have h0:=IP a b k;rw[ca h]at h0;exact(Nat.add_eq_zero_iff.1 h0.symm).2
def X7{a b k:Nat}(ha:a<4294967296^k)(hb:b<4294967296^k):jt a b (k+1)=0:=by
 apply X6;rw[bE];omega
def V0{a b:Nat}(h:b<=a)(k:Nat):iq a k+4294967296-iq b k-jt (a-b) b k=iq (a-b) k+4294967296*(1-jt (a-b) b (k+1)):=by
 have h1:=wQ (a-b) b k;rw[eQ h]at h1;have h2:=si (a-b) b (k+1);have h3:=oP b k;have h4:=si (a-b) b k;have h5:=oP (a-b) k;omega
def ahF(n s k:Nat):iq (n/2^s) k=((iq n (k+s/32)+4294967296*iq n (k+s/32+1))/2^(s%32))%4294967296:=by
 have e:2^s*4294967296^k=4294967296^(k+s/32)*2^(s%32):=by
  rw[nB,nB,<-bq,<-bq];congr 1;omega
 unfold iq;rw[cJ,e,<-cJ,bE,<-cJ];generalize n/4294967296^(k+s/32)=N;have hr:s%32<32:=bA _ aF;generalize s%32=r at *
 have h1:N%4294967296+4294967296*(N/4294967296%4294967296)=N%(4294967296*4294967296):=(fP).symm;rw[h1];have h2:N=4294967296*(N/(4294967296*4294967296))*4294967296+N%(4294967296*4294967296):=by
  have:=ck N (4294967296*4294967296);omega
 have h3:(4294967296:Nat)=2^r*2^(32-r):=by rw[<-bq,(aD:r+(32-r)=32)]
 generalize N%(4294967296*4294967296)=u at *
 generalize N/(4294967296*4294967296)=t at *
 have h4:N/2^r=4294967296*(t*2^(32-r))+u/2^r:=by
  rw[h2];have e2:4294967296*t*4294967296=2^r*(4294967296*(t*2^(32-r))):=by
   conv=>lhs;rw[bB]
   conv=>lhs;lhs;rw[h3]
   rw[bw,cW (2^(32-r)),bB (2^(32-r)) t]
  rw[e2,dk (bu aF)]
 rw[h4,dG]
def ahC{O:List Nat}{P x n k m:Nat}(hx:x<4294967296)(hO:O=iI (P*2^n) m)(hP:P<4294967296^k)(hm:k+n/32+1<m):
 (O.getD (k+n/32) 0)<2^(n%32)/\((O.set (k+n/32) (O.getD (k+n/32) 0+x*2^(n%32)%4294967296)).set (k+n/32+1) (x*2^(n%32)/4294967296))=iI ((P+4294967296^k*x)*2^n) m:=by
 have hr:n%32<32:=bA _ aF;have hq:(2:Nat)^n=2^(n%32)*4294967296^(n/32):=by rw[nB,<-bq];congr 1;omega
 have wX:2^(n%32)<=2^31:=bG aF aD;have CZ:(2:Nat)^31=2147483648:= aF ;have pr:0<2^(n%32):=bu aF;have kf:iw O:=by rw[hO];exact sn _ _
 have hlen:O.length=m:=by rw[hO,mu]
 have hN:P*2^n<4294967296^(k+n/32)*2^(n%32):=by
  have h1:P*2^(n%32)<4294967296^k*2^(n%32):=cO hP pr;have h2:=cO h1 (pw (n/32));rw[hq,<-bw,bq,fB (4294967296^k)];exact h2
 have qd:P*2^n<4294967296^(k+n/32+1):=by
  rw[bE];exact bN hN (cA _ aD)
 have o1:O.getD (k+n/32) 0=P*2^n/4294967296^(k+n/32):=by
  rw[hO,sk aD];unfold iq;rw[bJ];rw[bZ (pw _),bB 4294967296,<-bE];exact qd
 have o2:O.getD (k+n/32+1) 0=0:=by rw[hO,sk hm];exact tX qd (bp _)
 have o3:O.getD (k+n/32) 0<2^(n%32):=by
  rw[o1,bZ (pw _),bB (2^(n%32))];exact hN
 refine⟨o3,?_⟩;have vn:x*2^(n%32)<4294967296*2^(n%32):=cO hx pr;have mJ:O.getD (k+n/32) 0+x*2^(n%32)%4294967296<4294967296:=by
  have h3:(4294967296:Nat)=2^(n%32)*2^(32-n%32):=by rw[<-bq,(aD:n%32+(32-n%32)=32)]
  have h4:x*2^(n%32)%4294967296=2^(n%32)*(x%2^(32-n%32)):=by
   conv=>lhs;rw[bB];rhs;rw[h3]
   exact gC _ _ _
  have h5:x%2^(32-n%32)<2^(32-n%32):=bA _ (bu aF);have h6:=cA (2^(n%32)) (show x%2^(32-n%32)+1<=2^(32-n%32)from h5);rw[<-h3,bH,bW]at h6;omega
 have kx:k+n/32<O.length:= aD ;have uv:=wK (x:=O.getD (k+n/32) 0+x*2^(n%32)%4294967296) kx;have rp:k+n/32+1<(O.set (k+n/32) (O.getD (k+n/32) 0+x*2^(n%32)%4294967296)).length:=by rw[cI];omega
 have qh:=wK (x:=x*2^(n%32)/4294967296) rp;rw[ue aD,o2,cH,bK]at qh;refine(Fk ((kf.set _ mJ).set _ ?_) (by rw[cI,cI,hlen]) ?_).symm
 .rw [bZ aF];exact bN vn (cA _ aD)
 .have q6:val O=P*2^n:=by
   rw[hO,vH,bJ];exact bN qd (bG aF aD)
  rw[qh];rw[q6,bH]at uv;have e1:=dC (x*2^(n%32)) 4294967296;have e2:=congrArg (4294967296^(k+n/32) * ·) e1;simp only[bH]at e2;have e3:4294967296^(k+n/32)*(x*2^(n%32))=4294967296^k*x*2^n:=by
   rw[hq,bq];simp only[bw,bB,cW]
  rw[bE,bw,bT];rw[e3]at e2;omega
def lF(r b k:Nat):Nat:=(2*(r%4294967296^k)+b)/4294967296^k
def Jc(r b:Nat):lF r b 0=b:=by unfold lF;simp[cT]
def Fh{r b:Nat}(hb:b<=1)(k:Nat):lF r b k<=1:=by
 unfold lF;have h1:=bA r (pw k);have:(2*(r%4294967296^k)+b)/4294967296^k<2:=by rw[bZ (pw k)];omega
 omega
def Fi{r b:Nat}(hb:b<=1)(k:Nat):iq (2*r+b) k=2*iq r k%4294967296+lF r b k/\lF r b (k+1)=iq r k/2147483648:=by
 have h1:(2*r+b)/4294967296^k=2*(r/4294967296^k)+lF r b k:=by
  unfold lF;have h1:=ck r (4294967296^k);have h3:=dk (pw k) (2*(r/4294967296^k)) (2*(r%4294967296^k)+b);rw[<-h3];congr 1;rw[cW];omega
 have h2:=Fh (r:=r) hb k;have h3:lF r b (k+1)=(2*iq r k+lF r b k)/4294967296:=by
  conv=>lhs;unfold lF
  rw[mod_succ,bE,<-cJ];congr 1;have h3:=dk (pw k) (2*iq r k) (2*(r%4294967296^k)+b);unfold lF;rw[<-h3];congr 1;rw[cW];omega
 have h4:iq (2*r+b) k=(2*iq r k+lF r b k)%4294967296:=by
  conv=>lhs;unfold iq
  rw[h1];unfold iq;omega
 have h5:=oP r k;constructor
 .rw [h4];omega
 .rw [h3];omega
structure rf(U0:Nat)(V:List Nat)(k m:Nat)(O Q:List Nat):Prop where
 RW:O.length=m
 DG:Q.length=m-V.length
 xC:iw O
 Aj:iw Q
 eq:val O+val V*val Q=U0
 lt:val O<val V*4294967296^k
 qz:∀ i,i<k->Q.getD i 0=0
def rf.step{U0 k m x:Nat}{V O Q O2:List Nat}(h:rf U0 V (k+1) m O Q)(hk:k<m-V.length)(hl:O2.length=m)(kf:iw O2)(hx:x<4294967296)
 (he:val O2+x*(4294967296^k*val V)=val O) (iE:val O2<val V*4294967296^k):rf U0 V k m O2 (Q.set k x):=by
 have xi:k<Q.length:=by rw[h.DG];exact hk
 have hv:=wK (x:=x) xi;rw[h.qz k (gE k),cH,bK]at hv;refine⟨hl,by rw[cI];exact h.DG,kf,h.Aj.set _ hx,?_,iE,λi hi=>by rw[ue aD];exact h.qz i aD⟩;rw[hv,bH,show val V*(4294967296^k*x)=x*(4294967296^k*val V)by simp only[bB,cW,bw]];have:=h.eq;omega
def rf.zero{U0 k m:Nat}{V O Q:List Nat}(h:rf U0 V (k+1) m O Q)(hV:iw V){i:Nat}(hi:k+V.length<i):O.getD i 0=0:=by
 refine aiC h.xC (k:=k+V.length+1) ?_ hi;refine fp h.lt ?_;have:=cO (lW hV) (pw (k+1));rw[<-bq,(aD:V.length+(k+1)=k+V.length+1)]at this;exact this
def rf.abi{U0 k m:Nat}{V O Q:List Nat}(h:rf U0 V (k+1) m O Q)(hV:iw V)(hn:2<=V.length)(hN:2147483648<=V.getD (V.length-1) 0):
 O.getD (k+V.length) 0<=V.getD (V.length-1) 0/\∀ g,g<=4294967295 ->
  g<=((O.getD (k+V.length) 0*4294967296+O.getD (k+V.length-1) 0)*4294967296+O.getD (k+V.length-2) 0)/(V.getD (V.length-1) 0*4294967296+V.getD (V.length-2) 0) ->
  (g=4294967295\/((O.getD (k+V.length) 0*4294967296+O.getD (k+V.length-1) 0)*4294967296+O.getD (k+V.length-2) 0)/(V.getD (V.length-1) 0*4294967296+V.getD (V.length-2) 0)<=g) ->
  val O/4294967296^k/val V<=g/\g<=val O/4294967296^k/val V+1:=by
 have t3:=We h.xC (j:=k) hn (λi hi=>h.zero hV hi);have t2:=aiB hV hn rfl;have hU:val O/4294967296^k<4294967296*val V:=by
  rw[bZ (pw k)];have:=h.lt;rw[bE]at this;rw[show 4294967296*val V*4294967296^k=val V*(4294967296^k*4294967296)by simp only[bB,cW,bw]];exact this
 have w1:=h.xC.getD (k+V.length-1);have w2:=h.xC.getD (k+V.length-2);have w3:=hV.getD (V.length-2);refine⟨?_,λg g1 g2 g3=>?_⟩
 .have hP:=pw (V.length-2);have h1:val V<(V.getD (V.length-1) 0*4294967296+V.getD (V.length-2) 0+1)*4294967296^(V.length-2):=by
   rw[<-t2,<-bZ hP];omega
  have h2:val O/4294967296^k/4294967296^(V.length-2)<4294967296*(V.getD (V.length-1) 0*4294967296+V.getD (V.length-2) 0+1):=by
   rw[bZ hP];refine bN hU ?_;rw[bw];exact cA _ (dv h1)
  rw[t3]at h2;omega
 .rw [<-t3,<-t2]at g2 g3;exact acE (pw _) (by rw[t2];omega) hU g1 g2 g3
def rf.Ti{U0 k m x:Nat}{V O Q O':List Nat}(h:rf U0 V (k+1) m O Q)(hV:iw V)(kf:iw O')(hv:val O'+x*(4294967296^k*val V)=val O+4294967296^(k+V.length+1)*1)
 (hs:∀ i,k+V.length<i->O'.getD i 0=O.getD i 0):val O'<4294967296^(k+V.length+1)/\0<x:=by
 have h1:val O'<4294967296^(k+V.length+1):=Ir kf λi hi=>by rw[hs i aD];exact h.zero hV aD 
 refine⟨h1,?_⟩;rcases ek x with h0|h0
 .subst h0;rw[cB]at hv;omega
 .exact h0
def rf.XC{U0 k m x κ:Nat}{V O Q O' O2:List Nat}(h:rf U0 V (k+1) m O Q)(hV:iw V)(hk:k<m-V.length)(kf:iw O')(hv:val O'+x*(4294967296^k*val V)=val O+4294967296^(k+V.length+1)*1)
 (hs:∀ i,k+V.length<i->O'.getD i 0=O.getD i 0) (hx:x<=4294967295) (vn:x<=val O/4294967296^k/val V+1) (uX:0<val V) (nd:O2.length=m) (Gg:iw O2) (hκ:κ<=1)
 (h2:val O2+4294967296^(k+V.length+1)*κ=val O'+4294967296^k*val V) (kr:∀ i,k+V.length<i->O2.getD i 0=O'.getD i 0):rf U0 V k m O2 (Q.set k (x-1)):=by
 obtain⟨h1,h0⟩:=h.Ti hV kf hv hs;have h3:val O2<4294967296^(k+V.length+1):=Ir Gg λi hi=>by rw[kr i aD,hs i aD];exact h.zero hV aD 
 rw[bW]at hv;obtain⟨_,_,e,l⟩:=YJ (pw k) uX hv h1 vn hκ h2 h3;exact h.step (x:=x-1) hk nd Gg aD e l
def adY{L:List Nat}{x s l:Nat}(hk:iw L)(hl:L.length=l+1)(hx:L.getD l 0=x)(lP:x≠0)(hs:s=32-gU x):
 s<32/\(gK (val L*2^s)).length=l+1/\2147483648<=(gK (val L*2^s)).getD l 0/\4294967296^l*2147483648<=val L*2^s/\val L*2^s<4294967296^(l+1):=by
 have mi:x<4294967296:=by rw[<-hx];exact hk.getD l
 have kJ:=mZ lP;have mB:gU x<=32:=kB.2 mi;have h1:=qK lP;have h2:=px x;have e1:2^(gU x-1)*2^s=2147483648:=by rw[<-bq,(aD:gU x-1+s=31)]
 have e2:2^gU x*2^s=4294967296:=by rw[<-bq,(aD:gU x+s=32)]
 have hp:0<2^s:=bu aF;have hv:val L=val (L.take l)+4294967296^l*x:=by
  have:=tI L l;rw[cG aD,hx]at this;exact this
 have mJ:val (L.take l)<4294967296^l:=by
  have:=lW (hk.take l);rw[cj,df aD]at this;exact this
 have g1:4294967296^l*2147483648<=val L*2^s:=by
  rw[<-e1,<-bw];refine bL _ ?_;rw[hv];exact bM (cA _ h1) (Nat.le_add_left _ _)
 have g2:val L*2^s<4294967296^(l+1):=by
  have e3:4294967296^(l+1)=4294967296^l*(2^gU x*2^s):=by rw[bE,e2]
  rw[e3,<-bw];refine cO ?_ hp;rw[hv];have:=cA (4294967296^l) (show x+1<=2^gU x from h2);rw[bH,bW]at this;omega
 have hlen:(gK (val L*2^s)).length=l+1:=by
  have u1:=qi g2;have u2:¬(gK (val L*2^s)).length<=l:=λh=>by
   have:=uy h;have:=pw l;omega
  omega
 refine⟨aD,hlen,?_,g1,g2⟩;rw[oQ (kO _),jR];unfold iq;rw[bJ (by rw[bZ (pw l),bB 4294967296,<-bE];exact g2),de (pw l),bB];exact g1
def rf.start{A s:Nat}{V O:List Nat}(hO:iw O)(hv:val O=A*2^s){la:Nat}(hA:A<4294967296^la)(hl:O.length=la+1)(hs:s<32)(hn:1<=V.length)(jZ:V.length<=la)(hV:4294967296^(V.length-1)*2147483648<=val V):
 rf (A*2^s) V (la+1-V.length) (la+1) O (List.replicate (la+1-V.length) 0):=by
 refine⟨hl,aJ,hO,iw.AH _,by rw[xP,cH,bK,hv],?_,λi _=>?_⟩
 .rw [hv];have wX:2^s<=2^31:=bG aF aD;have CZ:(2:Nat)^31=2147483648:= aF ;rw[CZ]at wX;have h1:A*2^s<4294967296^la*2^s:=cO hA (bu aF);have h2:=cA (4294967296^la) wX;have h3:=bL (4294967296^(la+1-V.length)) hV;rw[fB,<-bq,(aD:V.length-1+(la+1-V.length)=la)]at h3;omega
 .rw [bn,fM];split<;>rfl
end Go.Proofs.YtkjkcjhacddojaaGreatDoor.Fp
namespace Go.Proofs.YtkjkcjhacddojaaGreatDoor
open Go.RowKit Fp Pu
def y3{n:Nat}{L:List Nat}(h:n=L.length):(E.sl false n 1 (iW L))=gO L:=by subst h;rfl
def Cw(n:Nat)(h:n<18446744073709551616):bits .and .u64 (n:Int) 4294967295=((n%4294967296:Nat):Int):=by
 have:=MC n 4294967295 h aF;rw[show((4294967295:Int))=((4294967295:Nat):Int)from rfl,this];exact congrArg _ (akr n 32)
def Ii(n:Nat)(h:n<4294967296):bits .and .u32 (n:Int) 1=((n%2:Nat):Int):=by
 have:=bits_and_u32_nat n 1 h aF;rw[show((1:Int))=((1:Nat):Int)from rfl,this];exact congrArg _ (gv n)
def Cq(n:Nat)(h:n<4294967296):IntKind.u64.wrap ((n:Int)*2^32)=((n*4294967296:Nat):Int):=by rw[IntKind.wrap_u64];omega
def D8(a b:Nat)(ha:a<4294967296)(hb:b<4294967296):bits .or .u64 ((a*4294967296:Nat):Int) (b:Int)=((a*4294967296+b:Nat):Int):=by
 rw[Ij _ _ aD aD,fL,show a*4294967296=a*2^32 by rfl,yL b a 32 (by simpa using hb),ej]
def Ci{T n n' p:Nat}{L L':List Nat}{z:Nat}(hn:n=n')(hp:p<L.length)(hs:L.set p z=L'):Bx.le (.row false T n 1 λi' j'=>if i'=p/\0<=j'/\j'<0+1 then[.v (.int .u32 (z:Int))].getD (j'-0) .any else(iW L) i' j') (.row false T n' 1 (iW L')):=hs▸Mi hn hp
def yF{T n n':Nat}{N:Nat}{z:Int}(hn:n'=n+1)(hz:z=(iq N n:Int)):
 Bx.le (.row false T (n+1) 1 λi_ j_=>if i_<n then(iW (iI N n)) i_ j_ else(E.ke (.sl false 1 1 λi_ j_=>[.v (.int .u32 z)].getD (i_*1+j_) (.v (.bool false)))) (i_-n) j_) (.row false T n' 1 (iW (iI N n'))):=by
 subst hn hz;refine .row rfl λi j hi hj=>?_
 obtain rfl:j=0:= aD ;refine⟨.iD ?_,rfl⟩;by_cases h:i<n
 .rw [bj h];show E.v (.int .u32 (((iI N n).getD i 0:Nat):Int))=E.v (.int .u32 (((iI N (n+1)).getD i 0:Nat):Int));rw[sk h,sk hi]
 .obtain rfl:i=n:= aD ;rw[bh (eu i)];show E.ke _ (i-i) 0=E.v (.int .u32 (((iI N (i+1)).getD i 0:Nat):Int));rw[sk (gE i),cV];rfl
def On(q rest third v w:Nat)(x:Nat):PS:=⟨32,true,[(0,.e (.v (.int .u64 ((q-x:Nat):Int)))),(1,.e (.v (.int .u64 ((rest+(x*v):Nat):Int)))),(2,.e (.v (.int .u32 (third:Int)))),(3,.e (.v (.int .u32 (v:Int)))),(4,.e (.v (.int .u32 (w:Int))))],[]⟩
def VG(L:List Nat)(d:Nat)(x:Nat):PS:=⟨34,false,[(8,.e (iP ((L.length:Int)-1-(x:Int)))),(7,.e (.v (.int .u32 ((val L/4294967296^(L.length-x)%d:Nat):Int)))),(6,.own 11),(0,.e (gO L)),(1,.e (.v (.int .u32 (d:Int))))],[(11,.row false 150 L.length 1 (iW (ky 0 (val L/d) (L.length-x) L.length)))]⟩
def YQ(h l d:Nat)(h1:h<d)(h2:l<4294967296)(h3:d<4294967296):gJ 399 [.v (.int .u32 (h:Int)),.v (.int .u32 (l:Int)),.v (.int .u32 (d:Int))] (.hH [.v (.int .u32 (((h*4294967296+l)/d:Nat):Int)),.v (.int .u32 (((h*4294967296+l)%d:Nat):Int))]):=by
 have e1:(h*4294967296+l)/d<4294967296:=by rw[bZ aD];omega
 have e2:(h*4294967296+l)%d<4294967296:=fp (bA _ aD) h3;exact aj call399 func399 (aa [ag 10 ((d:Int) != 0) aR,tF 14 ((d:Int)<=h) aD,.o 18 (.int (oH _ aD):ai (.v (.int .u64 (IntKind.u64.wrap (h:Int)))) (.v (.int .u64 (h:Int)))),.a (aD:0<=(32:Int)/\(32:Int)<=((64:Nat):Int)),.o 19 (.int (Cq _ aD):ai (.v (.int .u64 (IntKind.u64.wrap ((h:Int)*2^32)))) (.v (.int .u64 ((h*4294967296:Nat):Int)))),.o 21 (.int (oH _ aD):ai (.v (.int .u64 (IntKind.u64.wrap (l:Int)))) (.v (.int .u64 (l:Int)))),.o 22 (.int (D8 _ _ aD aD):ai (.v (.int .u64 (bits .or .u64 ((h*4294967296:Nat):Int) (l:Int)))) (.v (.int .u64 ((h*4294967296+l:Nat):Int)))),.o 25 (.int (oH _ aD):ai (.v (.int .u64 (IntKind.u64.wrap (d:Int)))) (.v (.int .u64 (d:Int)))),.a (aD:0<((d:Int):Int)),
  oF ((h*4294967296+l:Nat):Int) aD,.o 27 (.int (q9 _):ai (.v (.int .u32 (IntKind.u32.wrap (((h*4294967296+l)/d:Nat):Int)))) (.v (.int .u32 ((((h*4294967296+l)/d)%4294967296:Nat):Int)))),.o 30 (.int (oH _ aD):ai (.v (.int .u64 (IntKind.u64.wrap (d:Int)))) (.v (.int .u64 (d:Int)))),.a (aD:0<((d:Int):Int)),.o 32 (.int (q9 _):ai (.v (.int .u32 (IntKind.u32.wrap (((h*4294967296+l)%d:Nat):Int)))) (.v (.int .u32 ((((h*4294967296+l)%d)%4294967296:Nat):Int))))]<|rQ (.hH [.v (.int .u32 ((((h*4294967296+l)/d)%4294967296:Nat):Int)),.v (.int .u32 ((((h*4294967296+l)%d)%4294967296:Nat):Int))]) (.hH [.v (.int .u32 (((h*4294967296+l)/d:Nat):Int)),.v (.int .u32 (((h*4294967296+l)%d:Nat):Int))]) (by rw[bJ e1,bJ e2])) 
def ajz(q rest third v w N:Nat)(hq:q<=4294967295)(hr:rest<9223372036854775808)(ht:third<4294967296)(hv:v<4294967296)(hw:w<4294967296)(hNq:N<=q)(iJ:∀ x,x<N->rP q rest third v w x)(g1:¬rest+N*v<4294967296):gJ 400 [.v (.int .u64 (q:Int)),.v (.int .u64 (rest:Int)),.v (.int .u32 (third:Int)),.v (.int .u32 (v:Int)),.v (.int .u32 (w:Int))] (.v (.int .u64 ((q-N:Nat):Int))):=
 aj call400 func400 (ae [.s (Sp.iG (On q rest third v w) 0 N aD (λx hx jf=>by
    obtain⟨g1,g2⟩:=iJ x aD;have m1:(q-x)*w<=4294967295*4294967295:=di aD aD;have g3:0<q-x:=by
     rcases ek (q-x)with h|h
     .rw [h,cB]at g2;omega
     .exact h
    exact gX (aa [tT 12 (((rest+(x*v):Nat):Int)<4294967296) aD,.o 16 (.int (oH _ aD):ai (.v (.int .u64 (IntKind.u64.wrap (w:Int)))) (.v (.int .u64 (w:Int)))),
     oF (((q-x:Nat):Int)*(w:Int)) aD,.a (aD:0<=(32:Int)/\(32:Int)<=((64:Nat):Int)),.o 19 (.int (Cq _ aD):ai (.v (.int .u64 (IntKind.u64.wrap (((rest+(x*v):Nat):Int)*2^32)))) (.v (.int .u64 (((rest+(x*v))*4294967296:Nat):Int)))),.o 21 (.int (oH _ aD):ai (.v (.int .u64 (IntKind.u64.wrap (third:Int)))) (.v (.int .u64 (third:Int)))),.o 22 (.int (D8 _ _ aD aD):ai (.v (.int .u64 (bits .or .u64 (((rest+(x*v))*4294967296:Nat):Int) (third:Int)))) (.v (.int .u64 ((((rest+(x*v))*4294967296)+third:Nat):Int)))),tT 23 (((((rest+(x*v))*4294967296)+third:Nat):Int)<(((q-x)*w:Nat):Int)) (Int.ofNat_lt.2 g2),oF (((q-x:Nat):Int)-1) aD,.o 29 (.int (oH _ aD):ai (.v (.int .u64 (IntKind.u64.wrap (v:Int)))) (.v (.int .u64 (v:Int)))),oF (((rest+(x*v):Nat):Int)+v) aD]<|.e (ae [.o 0 (.int aS:ai (.v (.int .u64 (((q-x:Nat):Int)-1))) (.v (.int .u64 ((q-(x+1):Nat):Int)))),.o 1 (.int aS:ai (.v (.int .u64 (((rest+(x*v))+v:Nat):Int))) (.v (.int .u64 ((rest+((x+1)*v):Nat):Int))))])) aG)
  (λhx=>by
    have m1:(q-N)*w<=4294967295*4294967295:=di aD aD;exact gX (ae [tF 12 (((rest+(N*v):Nat):Int)<4294967296) aD]) aG) aK:iF 1 f400 (On q rest third v w 0) (.exit 0) ⟨32,true,[(0,.e (.v (.int .u64 ((q-N:Nat):Int))))],[]⟩) (ae [.o 0 (.int aS:ai (.v (.int .u64 (q:Int))) (.v (.int .u64 ((q-0:Nat):Int)))),.o 1 (.int aS:ai (.v (.int .u64 (rest:Int))) (.v (.int .u64 ((rest+(0*v):Nat):Int))))])]) 
def adx(L:List Nat)(d:Nat)(hk:iw L)(hl:L.length<=1000000)(uh:0<d)(rn:d<4294967296):gJ 375 [gO L,.v (.int .u32 (d:Int))] (.hH [gO (iI (val L/d) L.length),.v (.int .u32 ((val L%d:Nat):Int))]):=
 ak call375 func375 (aa [.a (aD:0<=((L.length:Int):Int)/\((L.length:Int):Int)<=((L.length:Int):Int)),.a (aD:((4:Nat):Int)*(L.length:Int)<=281474976710656/\((L.length:Int):Int)<=9223372036854775807),gW ((L.length:Int)-1) aD,.s (Sp.iG (VG L d) 0 L.length aD (λx hx jf=>by
    have F3:((L.length:Int)-1-(x:Int)).toNat=L.length-1-x:= aD ;have hld:((L.getD ((L.length:Int)-1-(x:Int)).toNat 0:Nat):Int)=(iq (val L) (L.length-1-x):Int):=by rw[F3,oQ hk]
    have ur:=ahD (a:=val L) (k:=L.length-1-x) uh rn;have rz:L.length-1-x+1=L.length-x:= aD ;have jO:L.length-(x+1)=L.length-1-x:= aD ;rw[rz]at ur;have Gb:=bA (val L/4294967296^(L.length-x)) uh;have C7:=oP (val L) (L.length-1-x);have tg:(ky 0 (val L/d) (L.length-x) L.length).set ((L.length:Int)-1-(x:Int)).toNat ((val L/4294967296^(L.length-x)%d*4294967296+iq (val L) (L.length-1-x))/d)=ky 0 (val L/d) (L.length-(x+1)) L.length:=by
     rw[F3,ur.1,<-rz,adk,jO]
    exact gX (aa [tT 16 (0<=((L.length:Int)-1-(x:Int))) aD,iX ((L.length:Int)-1-(x:Int)) (L.length) aD,.o 26 (.int hld:ai (.v (.int .u32 ((L.getD ((L.length:Int)-1-(x:Int)).toNat 0:Nat):Int))) (.v (.int .u32 (iq (val L) (L.length-1-x):Int)))),.c (YQ (val L/4294967296^(L.length-x)%d) (iq (val L) (L.length-1-x)) d aD aD aD),iX ((L.length:Int)-1-(x:Int)) (L.length) aD,.a (aD:(((L.length:Int)-1-(x:Int))).toNat<L.length),gW (((L.length:Int)-1-(x:Int))-1) aD]<|.e (ae [.o 8 (an (((L.length:Int)-1-(x:Int))-1) ((L.length:Int)-1-((x+1:Nat):Int)) aS),.o 7 (.int (by rw[ur.2,jO]):ai (.v (.int .u32 ((((val L/4294967296^(L.length-x)%d)*4294967296+(iq (val L) (L.length-1-x)))%d:Nat):Int))) (.v (.int .u32 ((val L/4294967296^(L.length-(x+1))%d:Nat):Int)))),.b 11 (Ci rfl aZ tg:Bx.le (.row false 150 L.length 1 (λi' j'=>if i'=(((L.length:Int)-1-(x:Int))).toNat/\0<=j'/\j'<0+1 then[.v (.int .u32 ((((val L/4294967296^(L.length-x)%d)*4294967296+(iq (val L) (L.length-1-x)))/d:Nat):Int))].getD (j'-0) .any else(iW (ky 0 (val L/d) (L.length-x) L.length)) i' j')) (.row false 150 L.length 1 (iW (ky 0 (val L/d) (L.length-(x+1)) L.length))))])) aG)
  (λhx=>by
    exact gX (ae [tF 16 (0<=((L.length:Int)-1-(L.length:Int))) aD]) aG) aK:iF 4 f375 (VG L d 0) (.exit 0) ⟨34,false,[(7,.e (.v (.int .u32 ((val L/4294967296^(L.length-L.length)%d:Nat):Int)))),(6,.own 11)],[(11,.row false 150 L.length 1 (iW (ky 0 (val L/d) (L.length-L.length) L.length)))]⟩) (ae [.o 8 (an ((L.length:Int)-1) ((L.length:Int)-1-((0:Nat):Int)) aS),.o 7 (.int (by rw[du,ca (lW hk),Nat.zero_mod];rfl):ai (.v (.int .u32 0)) (.v (.int .u32 ((val L/4294967296^(L.length-0)%d:Nat):Int)))),.b 11 (Eo rfl (λi=>by rw[du,GH (bp _),Fj]):Bx.le (.row false 150 L.length 1 (λ_ j_=>[.v (.int .u32 0)].getD j_ .any)) (.row false 150 L.length 1 (iW (ky 0 (val L/d) (L.length-0) L.length))))])]<|rR (.hH [gO (iI (val L/d) L.length),.v (.int .u32 ((val L%d:Nat):Int))]) (.hH (.cons (by rw[cV,DP];exact xL (mu _ _).symm) (.cons (.iD (by rw[cV,bV,dR])) .nil)):E.le (.hH [.sl false L.length 1 (iW (ky 0 (val L/d) (L.length-L.length) L.length)),.v (.int .u32 ((val L/4294967296^(L.length-L.length)%d:Nat):Int))]) (.hH [gO (iI (val L/d) L.length),.v (.int .u32 ((val L%d:Nat):Int))]))) 
def WT(w:World)(T S:List Nat)(e:Ending)(w':World):Prop:=∃ A c B d,e = .returned (.tuple #[.slice A T.length c,.slice B S.length d])/\Sl w' A c T/\Sl w' B d S/\iu w w'
def Ow.rx{w:World}{base:Nat}{v:Value}{L:List Nat}(h:Ow w base v L)(hl:L≠[]):∃ g cap R,v = .slice (some ⟨g,0,none⟩) L.length cap/\base<=g/\g<w.heap.size/\Rx w g L R/\L.length<=cap/\cap<=maxLen:=by
 rcases h.row.2 with⟨_,h0⟩|⟨g,cap,cur,rfl,hb,hg,o0,nE,ny,Dl⟩
 .exact absurd (dq h0) hl
 .refine ⟨g,cap,cur.toList.drop L.length,rfl,hb,(cX.1 hg).1,?_,o0,nE⟩;unfold Rx;rw[hg];rw[bW]at Dl;rw[<-Dl,ajP]
def Rx.sl{w:World}{b cap:Nat}{L:List Nat}{R:List Value}(h:Rx w b L R)(hk:iw L)(hc:L.length<=cap)(hm:cap<=maxLen)(n:Nat):Sl w (some ⟨b,0,none⟩) cap (L.take n):=
 ⟨by rw[cj];omega,by unfold maxLen at hm;omega,hk.take n,(λh=>by cases h),λi x hx=>by
  rw[eg]at hx;split at hx
  .obtain ⟨hi,yp⟩:=cg.1 hx;refine⟨_,_,rfl,h.lt,?_⟩;rw[bU,h.cell hi];simp[bn,hx]
  .cases hx⟩
def ac2(x:Nat)(hx:x<4294967296)(w:World):
 Calls prog 376 #[.int .u32 x] w λe w'=>e = .returned (.int .i64 ((32-gU x:Nat):Int))/\w=w':=by
 have mB:gU x<=32:=kB.2 hx;have H:=akw (λw=>RV x hx w);go_enter func376,ntmps376;go_wp2_with fail;refine(H.out _).mono ?_;rintro e w' ⟨rfl,rfl⟩;go_wp2;go_ret;exact⟨nS aD,rfl⟩
def Ot(q rest third v w0 N:Nat)(w:World)(hq:q<=4294967295)(hr:rest<9223372036854775808)(ht:third<4294967296)(hv:v<4294967296)(hw:w0<4294967296)(hNq:N<=q)(iJ:∀ x,x<N->rP q rest third v w0 x)(hN:¬rP q rest third v w0 N):
 Calls prog 400 #[.int .u64 q,.int .u64 rest,.int .u32 third,.int .u32 v,.int .u32 w0] w λe w'=>e = .returned (.int .u64 ((q-N:Nat):Int))/\w=w':=by
 have HLO:=akw iJ;have HNN:=akw hN;clear iJ hN;go_enter func400,ntmps400;go_wp2;go_loop [0,1] (λa b=>∃ k:Nat,k<=N/\a = .int .u64 ((q-k:Nat):Int)/\b = .int .u64 ((rest+k*v:Nat):Int)) (λa _=>(intOf a).toNat+0*N)
 case atStart=>exact⟨0,b6 _,by go_num,by go_num⟩
 case round=>
  obtain⟨k,hk,rfl,rfl⟩:=hrel;have m1:(q-k)*w0<=4294967295*4294967295:=di aD aD;have m2:(q-k)*w0=(q-k)*w0:=rfl;by_cases iE:k<N
  .have hc:=HLO.out k iE;have sy:0<q-k:= aD ;have QO:rest+(k+1)*v=rest+k*v+v:=by rw[bT,bX];omega
   have HX:=akw QO;clear QO;unfold rP at hc;have xp:IntKind.u64.wrap (((q-k:Nat):Int)*(w0:Int))=(((q-k)*w0:Nat):Int):=by rw[<-dQ];exact oH _ aD 
   generalize rest+k*v=y at *
   generalize hz:(q-k)*w0=z at *
   have By:q-k=q-(k+1)+1:= aD ;have HQ:=akw By;obtain⟨p,hp⟩:∃ p,p=q-k:=⟨_,rfl⟩
   rw[<-hp]at xp sy By HQ ⊢;have HP:=akw hp;have zP:p<=4294967295:= aD ;clear hp hz By;have zR:=Cq y hc.1;have sw:=D8 y third hc.1 ht;have g2:=hc.2;have g1:=hc.1;clear hc;rw[show((y*4294967296:Nat):Int)=y*4294967296 by omega]at sw zR;have d1:decide ((y:Int)<4294967296)=true:=bk aD;have d2:decide ((y:Int)*4294967296+(third:Int)<z)=true:=bk aD;have QN:IntKind.u64.wrap ((p:Int)-1)=((p-1:Nat):Int):=by rw[IntKind.wrap_u64];omega
   go_wp2;go_round
   case rel=>
    have e1:=HP.out;exact⟨k+1,aD,by go_num,by rw[HX.out];go_num⟩
   case measure=>simp[intOf];omega
  .obtain rfl:k=N:= aD ;have hn:=HNN.out;clear HNN HLO;unfold rP at hn;have xp:IntKind.u64.wrap (((q-k:Nat):Int)*(w0:Int))=(((q-k)*w0:Nat):Int):=by rw[<-dQ];exact oH _ aD 
   generalize rest+k*v=y at *
   generalize (q-k)*w0=z at *
   obtain⟨p,hp⟩:∃ p,p=q-k:=⟨_,rfl⟩
   rw[<-hp]at xp ⊢;have HP:=akw hp;clear hp;by_cases g1:y<4294967296
   .have zR:=Cq y g1;have sw:=D8 y third g1 ht;rw[show((y*4294967296:Nat):Int)=y*4294967296 by omega]at sw zR;have d1:decide ((y:Int)<4294967296)=true:=bk aD;have d2:decide ((y:Int)*4294967296+(third:Int)<z)=false:=bl aD;clear hn;go_wp2;go_ret;exact⟨nS (by rw[<-HP.out]),rfl⟩
   .have d1:decide ((y:Int)<4294967296)=false:=bl aD ;clear hn xp;go_wp2;go_ret;exact⟨nS (by rw[<-HP.out]),rfl⟩
def abj(jj next third v w0:Nat)(hv:2147483648<=v)(qh:v<4294967296)(hn:next<4294967296)(ht:third<4294967296)(hw:w0<4294967296)(htv:jj<=v):
 ∃ g,g<=4294967295/\g<=((jj*4294967296+next)*4294967296+third)/(v*4294967296+w0)/\(g=4294967295\/((jj*4294967296+next)*4294967296+third)/(v*4294967296+w0)<=g) /\
  ∀ w,Calls prog 377 #[.int .u32 jj,.int .u32 next,.int .u32 third,.int .u32 v,.int .u32 w0] w λe w'=>e = .returned (.int .u64 (g:Int))/\∃ m,w'=w.drewN m:=by
 by_cases k1:v<=jj
 .obtain ⟨N,hN3,mA,qd,rm,g1,g2⟩:=Oq (X:=jj*4294967296+next) (q:=4294967295) (rest:=(jj-v)*4294967296+next+v) (third:=third) (v:=v) (w:=w0) aD (bp _) hv hw;refine⟨4294967295-N,aD,g1,g2.elim (λh=>.inl (by rw[h])) .inr,λw=>?_⟩;clear g1 g2;have H:=λw=>Ot 4294967295 ((jj-v)*4294967296+next+v) third v w0 N w aD aD ht qh hw mA qd rm
  clear qd rm;obtain rfl:v=jj:= aD ;have uq:(v-v)*4294967296+next+v=next+v:= aD 
  rw[uq,eG]at H;have HD:=akw H;clear H;have d1:decide ((v:Int)<=v)=true:=bk aD;go_enter func377,ntmps377;go_wp2_with fail;refine(HD.out _).mono ?_;rintro e w' ⟨rfl,rfl⟩;go_wp2;go_ret;exact⟨rfl,0,rfl⟩
 .have d1:=ck (jj*4294967296+next) v;have d2:=bA (jj*4294967296+next) (aD:0<v);have d3:(jj*4294967296+next)/v<4294967296:=by rw[bZ aD];omega
  obtain⟨N,hN3,mA,qd,rm,g1,g2⟩:=Oq (X:=jj*4294967296+next) (q:=(jj*4294967296+next)/v) (rest:=(jj*4294967296+next)%v) (third:=third) (v:=v) (w:=w0) (by rw[bB];exact d1) aD hv hw;have g3:=YK (x:=jj*4294967296+next) (v:=v) (w:=w0) (third:=third) aD ht;refine⟨(jj*4294967296+next)/v-N,aD,g1,.inr ?_,λw=>?_⟩
  .rcases g2 with rfl|g2
   .exact g3
   .exact g2
  have H:=λw=>Ot ((jj*4294967296+next)/v) ((jj*4294967296+next)%v) third v w0 N w (Nat.le_of_lt_succ d3) (fp d2 aD) ht qh hw mA qd rm
  rw[Int.natCast_ediv,Int.natCast_emod]at H;have HD:=akw H;clear H g1 g2 g3 mA qd rm d1 d2 d3;have d1:decide ((v:Int)<=jj)=false:=bl aD;have zR:=Cq jj aD;have sw:=D8 jj next aD hn
  rw[show((jj*4294967296:Nat):Int)=jj*4294967296 by omega]at sw zR;have lP:((jj*4294967296+next:Nat):Int)<18446744073709551616:= aD ;rw[show((jj*4294967296+next:Nat):Int)=jj*4294967296+(next:Int)by omega]at sw lP;have q6:((v:Int)==0)=false:= aR ;go_enter func377,ntmps377;go_wp2;go_quiet (exact Calls.quiet_of_same ((HD.out _).mono λ_ _ ⟨h1,h2⟩=>⟨h1,h2.symm⟩));go_wp2;go_ret;exact⟨rfl,_,rfl⟩
def Fp.iu.aiE{w0 w w':World}{g n:Nat}(h:iu w0 w)(k:rL g (w.drewN n) w')(hg:w0.heap.size<=g):iu w0 w':=
 (below_drewN h n).trans (k.below.mono hg)
def Fp.iu.only{w0 w w':World}{g:Nat}(h:iu w0 w)(k:rL g w w')(hg:w0.heap.size<=g):iu w0 w':=
 Below.trans h (k.below.mono hg)
def Sl.Pp{w:World}{g cap:Nat}{L:List Nat}(h:Sl w (some ⟨g,0,none⟩) cap L){b:Nat}(hb:g≠b)(i:Nat)(v:Value):Sl (w.setCell ⟨b,i,none⟩ v) (some ⟨g,0,none⟩) cap L:=
 h.oW (λb' o _ e=>by cases e;exact hb) (rL.Et (rL.refl b w) i v)
def Sl.drewN{w:World}{A:Option Addr}{c:Nat}{L:List Nat}(h:Sl w A c L)(n:Nat):Sl (w.drewN n) A c L:=h.below (below_drewN (Below.refl _ _) n)
def aeL{P:Program}{f:FuncId}{args:Array Value}{w:World}{n:Nat}{v:Value}
 (h:Calls P f args (w.drewN n) λe w'=>e = .returned v/\∃ m,w'=(w.drewN n).drewN m):Calls P f args (w.drewN n) λe w''=>e = .returned v/\∃ m,w''=w.drewN m:=
 h.mono λ_ _ ⟨he,m,hm⟩=>⟨he,n+m,by rw[hm,World.drewN_drewN]⟩
set_option maxRecDepth 100000 in
set_option maxHeartbeats 8000000 in
def Y3(A B:Option Addr)(c d:Nat)(L M:List Nat)(w:World)(lx ly s:Nat)(s6:lx=(gT L).length)(F9:ly=(gT M).length)(ur:s=32-gU ((gT M).getD (ly-1) 0))(hs:Sl w A c L)(hr:Sl w B d M)(qy:Tb w)(h1:L.length<=100000)(h2:M.length<=100000)(rV:val M<=val L)(hlen:2<=ly):
 Calls prog 357 #[.slice A L.length c,.slice B M.length d] w (WT w (iI (val L/val M) (lx+1-ly)) (pS (s%32) ((gK (val L%val M*2^s)).drop (s/32)))):=by
 have H1:=tu A c L w hs;have H2:=tu B d M w hr;have PX:=n9 L;unfold lI at PX;have PY:=n9 M;unfold lI at PY;have eL:=oc L;have eM:=oc M;rw[<-eL,<-eM]at rV ⊢;have kr:=hs.sN;have mV:=hr.sN;have JQ:=xM M;have Qd:gT (gT L)=gT L:=xM L;have Qh:gT (gT M)=gT M:=xM M;have H3:=GK A B c d (gT L) (gT M) w kr mV aD aD;generalize gT L=X at *
 generalize gT M=Y at *
 have n5:0<=kv (val X) (val Y):=by unfold kv;split<;>(try split)<;>omega
 generalize kv (val X) (val Y)=cm at *
 have Qf:Y.length<=X.length:=by
  apply bY;intro h;have:=Iq kr.ok JQ (aD:X.length<Y.length);omega
 clear eL eM hs hr rV;rw[<-s6]at Qf H1 H3 PX;rw[<-F9]at Qf H2 H3 PY;have lP:Y.getD (ly-1) 0≠0:=by
  have:=(y4 Y).1 JQ aD;have e:Y.getD (ly-1) 0=Y[Y.length-1]'(aD):=by
   rw[bn,(aD:ly-1=Y.length-1)];simp[(aD:Y.length-1<Y.length)]
  rw[e];exact this
 have HN:=adY mV.ok (l:=ly-1) aD rfl lP ur;rw[(aD:ly-1+1=ly)]at HN;obtain⟨x,hx⟩:∃ x,x=Y.getD (ly-1) 0:=⟨_,rfl⟩
 have mi:x<4294967296:=by rw[hx];exact mV.ok.getD _
 have H4:=akw (λw=>ac2 x mi w);rw[<-hx]at ur;rw[<-ur]at H4;obtain⟨ab,ao,rfl,hab,c1⟩:=mV.k0 (i:=ly-1) aD;have Gs:Y[ly-1]'(aD)=x:=by rw[hx];simp[bn,(aD:ly-1<Y.length)]
 rw[Gs]at c1;have abU:s<32:=HN.1;have HNh:=akw HN;have H5:=λw (h:Sl w A c X)=>SO A c X s w h aD aD 
 have H6:=λw (h:Sl w (some ⟨ab,ao,none⟩) d Y)=>SO (some ⟨ab,ao,none⟩) d Y s w h aD aD 
 rw[Qd,<-s6,(aD:s/32+lx+1=lx+1)]at H5;rw[Qh,<-F9,(aD:s/32+ly+1=ly+1)]at H6;have H5h:=akw H5;have H6h:=akw H6;have HX:=akw s6;have HY:=akw F9;have HS2:=akw kr;have HR2:=akw mV;have H1h:=akw H1;have H2h:=akw H2;have H3h:=akw H3;clear H1 H2 H3 H5 H6 Qd Qh HN s6 F9 hx Gs ur lP kr mV JQ;have xp:(ly:Int)-1=((ly-1:Nat):Int):= aD ;have d0:decide (cm<0)=false:=bl aD;have d2:decide ((lx:Int)+1<=(lx:Int))=false:=bl aD;have oz:=BK (lx+1-ly) aD;rw[show((lx+1-ly:Nat):Int)=lx+1-(ly:Int)by omega]at oz;have d1:((ly:Int)==1)=false:= aR ;go_enter func357,ntmps357;go_wp2_with fail;refine H1h.out.mono ?_;rintro e w' ⟨rfl,rfl⟩;go_wp2_with fail;refine H2h.out.mono ?_;rintro e w' ⟨rfl,rfl⟩;go_wp2_with fail;refine H3h.out.mono ?_;rintro e w1 ⟨rfl,kJ⟩;have c2:=c1;rw[<-(kJ.cell (p:=⟨ab,ao+(ly-1),none⟩) hab)]at c2;go_wp2_with fail;refine(H4.out _).mono ?_;rintro e w2 ⟨rfl,rfl⟩;go_wp2_with fail;refine(H5h.out _ (HS2.out.below kJ)).mono ?_;rintro e w2 ⟨T,v1,he,Qa,zC,kW,mB⟩;obtain⟨g,cap,R,uv,QB,QC,P5,Bj,aby⟩:=kW.rx (by intro h;rw[h]at zC;simp at zC);have P9:=akw kW.ok;rw[zC]at uv Bj;subst uv;subst he;clear kW;have HTv:=akw Qa;have HTl:=akw zC;clear Qa zC;go_wp2_with fail;refine(H6h.out _ ((HR2.out.below kJ).below mB)).mono ?_;rintro e w3 ⟨S,v2,he,P8,C4,kW,oY⟩;have FU:=P5.pk (oY.block g QC);obtain⟨g',cap',R',qh,abF,ajq,_,ajp,_⟩:=kW.rx (by intro h;rw[h]at C4;simp at C4);obtain⟨_,_,e2,JT⟩:=kW.sl;rw[qh]at e2;cases e2;have F0:g'≠g:= aD 
 have H7:=tu (some ⟨g',0,none⟩) cap' S w3 JT;have hV:gT S=gK (val Y*2^s):=by rw[qJ kW.ok,P8]
 have wY:=JT.sN;rw[hV]at H7 wY;rw[HNh.out.2.1,C4]at H7;rw[C4]at qh;have abv:iu w w3:=(kJ.trans mB).trans oY;subst qh;subst he;have H7h:=akw H7;clear kW JT hV P8 C4 H7 P5 mB oY;go_wp2_with fail;refine H7h.out.mono ?_;rintro e w4 ⟨rfl,rfl⟩;go_wp2;go_loop [9] (λu=>u = .slice (some ⟨g,0,none⟩) (lx+1) cap) (λ_=>0)
 case atStart=>rfl
 case round=>
  subst hrel;go_wp2;have ug:=Rw.wi w3 (lx+1-ly);have Gc:=HNh.out.2.1;have qd:=HNh.out.2.2.1;have rm:=HNh.out.2.2.2.1;have Qb:=kO (val Y*2^s);have JY:=jR (val Y*2^s);rw[<-JY]at rm;generalize gK (val Y*2^s)=V at *
  have JP:=rf.start (A:=val X) (s:=s) (V:=V) (O:=T) P9.out HTv.out (la:=lx) (by rw[HX.out];exact lW HS2.out.ok) HTl.out abU aD aD (by rw[Gc];exact rm);have P7:=wY.alloc (.cells (nJ (List.replicate (lx+1-ly) 0)).toArray 150);have P6:Rx (w3.alloc (.cells (nJ (List.replicate (lx+1-ly) 0)).toArray 150)) g T R:=FU.pk ((iu.alloc w3 _).block g (by have:=FU.lt;omega));rw[Gc]at JP;have HD0:=akw JP;have HR0:=akw ug;have HRx:=akw P6;have HSV:=akw P7;have HE0:=akw (abv.trans (iu.alloc w3 (.cells (nJ (List.replicate (lx+1-ly) 0)).toArray 150)));have HnV:=akw Gc;have HVok:=akw Qb;have HVv:=akw JY;have HN1:=akw qd;have hgq:g<w3.heap.size:=FU.lt;have QE:w.heap.size<=g:=bM kJ.size QB;clear JP ug P6 P7 wY FU Gc Qb JY qd rm HTv HTl P9 H1h H2h H3h H4 H5h H6h H7h c1 c2 d2 oz kJ QB abF QC HNh HS2 HR2;go_loopw [13] (λj wr=>∃ (k:Nat) (O Q:List Nat),k<=lx+1-ly/\j = .int .i64 ((k:Int)-1)/\rf (val X*2^s) V k (lx+1) O Q/\Rx wr g O R/\Rw wr w3.heap.size Q/\Sl wr (some ⟨g',0,none⟩) cap' V/\iu w wr) (λj _=>(intOf j+1).toNat)
  case atStart=>
   exact⟨lx+1-ly,T,_,bp _,by go_num,HD0.out,HRx.out,HR0.out,HSV.out,HE0.out⟩
  case round=>
   clear HD0 HRx HR0 HSV HE0;obtain⟨k,O,Q,hk,rfl,hD,Bf,JS,wY,Qo⟩:=hrel;have HE:=akw Qo;have HSV:=akw wY;have HRQ:=akw JS;have HRO:=akw Bf;have HD:=akw hD;clear hD Qo;rcases k with _|t
   .have hO:=HD.out.RW;have QY:=HRO.out.sl HD.out.xC (cap:=cap) aD aby ly;have HZ:=SP (some ⟨g,0,none⟩) cap (O.take ly) s wr QY aW aD;have e1:(O.take ly).length=ly:=by rw[cj];omega
    rw[e1]at HZ;have HZh:=akw HZ;have HQs:=akw (HRQ.out.sl HD.out.Aj (by rw[HD.out.DG];omega));have uX:0<val V:=by
     have:=HD.out.lt;rcases ek (val V)with h|h
     .rw [h,cB]at this;omega
     .exact h
    have Qe:0<val Y:=by
     rw[HVv.out]at uX;exact Nat.pos_of_mul_pos_right uX
    have Kd:=Y0 (a:=val X) (b:=val Y) (s:=s) (q:=val Q) (r:=val O) Qe (by rw[<-HVv.out];exact HD.out.eq) (by rw[<-HVv.out];have:=HD.out.lt;rw[bV,bW]at this;exact this);have mJ:val (O.take ly)=val O:=by
     rw[ai2 HD.out.xC,bJ];have:=HD.out.lt;rw[bV,bW]at this;refine fp this ?_;have h:=lW HVok.out;rw[HnV.out]at h;exact h
    have PZ:gT (O.take ly)=gK (val X%val Y*2^s):=by rw[qJ (HD.out.xC.take ly),mJ,Kd.2]
    rw[PZ]at HZh;have FR:=HD.out.DG;rw[HnV.out]at FR;have P3:iI (val X/val Y) (lx+1-ly)=Q:=Fk HD.out.Aj FR Kd.1;have HQd:=akw P3;generalize pS (s%32) ((gK (val X%val Y*2^s)).drop (s/32))=Z at *
    have HQl:=akw FR;clear Kd mJ PZ P3 QY HZ e1 FR hO uX Qe wY Bf JS;go_wp2_with fail;refine HZh.out.mono ?_;rintro e w5 ⟨AZ,cZ,rfl,hZs,Qi⟩;go_wp2;go_ret2;have hq:=HQs.out.below Qi;rw[HQl.out]at hq;exact⟨_,_,_,_,by rw[mu];rfl,by rw[HQd.out];exact hq,hZs,HE.out.trans Qi⟩
   .have hO:=HD.out.RW;have c4:=Bf.cell (i:=t+ly) aD;have c5:=Bf.cell (i:=t+ly-1) aD;have c6:=Bf.cell (i:=t+ly-2) aD;obtain⟨_,_,e1,_,c7⟩:=wY.k0 (i:=ly-1) (by rw[HnV.out];omega);obtain⟨_,_,e2,_,c8⟩:=wY.k0 (i:=ly-2) (by rw[HnV.out];omega);cases e1;cases e2;rw[bU]at c7 c8;have v7:V[ly-1]'(by rw[HnV.out];omega)=V.getD (ly-1) 0:=by simp[bn,HnV.out,(aD:ly-1<ly)]
    have v8:V[ly-2]'(by rw[HnV.out];omega)=V.getD (ly-2) 0:=by simp[bn,HnV.out,(aD:ly-2<ly)]
    rw[v7]at c7;rw[v8]at c8;clear v7 v8;have kf:=HD.out.xC;have o4:=kf.getD (t+ly);have o5:=kf.getD (t+ly-1);have o6:=kf.getD (t+ly-2);have o7:=HVok.out.getD (ly-1);have o8:=HVok.out.getD (ly-2);have hG:=HD.out.abi HVok.out (by rw[HnV.out];omega) (by rw[HnV.out];exact HN1.out);rw[HnV.out]at hG;obtain⟨gd,g1,g2,g3,g4⟩:=abj (O.getD (t+ly) 0) (O.getD (t+ly-1) 0) (O.getD (t+ly-2) 0) (V.getD (ly-1) 0) (V.getD (ly-2) 0) HN1.out o7 o5 o6 o8 hG.1;have HGq:=akw (hG.2 gd g1 g2 g3);have HG:=akw g4;clear hG g2 g3 g4 kf wY Bf JS;generalize O.getD (t+ly) 0=x4 at *
    generalize O.getD (t+ly-1) 0=x5 at *
    generalize O.getD (t+ly-2) 0=x6 at *
    have HV1:=akw (rfl:V.getD (ly-1) 0=V.getD (ly-1) 0);generalize hx7:V.getD (ly-1) 0=x7 at *
    generalize V.getD (ly-2) 0=x8 at *
    clear hx7 HV1;have i1:(((t+1:Nat):Int)-1)=(t:Int):= aD ;have i2:((t:Int)+ly).toNat=t+ly:= aD ;have i3:((t:Int)+ly-1).toNat=t+ly-1:= aD ;have i4:((t:Int)+ly-2).toNat=t+ly-2:= aD ;have i6:((ly:Int)-2)=((ly-2:Nat):Int):= aD ;have p1:IntKind.i64.wrap ((t:Int)+ly)=(t:Int)+ly:=i64_in _ aD aD;have p2:IntKind.i64.wrap ((t:Int)+ly-1)=(t:Int)+ly-1:=i64_in _ aD aD;have p3:IntKind.i64.wrap ((t:Int)+ly-2)=(t:Int)+ly-2:=i64_in _ aD aD;have p4:IntKind.i64.wrap ((ly-1:Nat):Int)=((ly-1:Nat):Int):=i64_in _ aD aD;have p5:IntKind.i64.wrap ((ly-2:Nat):Int)=((ly-2:Nat):Int):=i64_in _ aD aD;have j6:((ly-1:Nat):Int)<ly:= aD ;have j7:((ly-2:Nat):Int)<ly:= aD ;have j0:0<=(t:Int)+ly:= aD ;have j1:0<=(t:Int)+ly-1:= aD ;have j2:0<=(t:Int)+ly-2:= aD ;have j3:(t:Int)+ly<lx+1:= aD ;have j4:(t:Int)+ly-1<(lx:Int)+1:= aD ;have j5:(t:Int)+ly-2<(lx:Int)+1:= aD ;rw[i1];clear i1;go_wp2;go_quiet (exact aeL (HG.out _));go_wp2_with fail;have HTk:=aiu g t (cap-t) cap' gd O V R (some ⟨g',0,none⟩) (wr.drewN nq) (HRO.out.pk rfl) (HSV.out.drewN nq) (λb' o _ e=>by cases e;exact F0) HD.out.xC (by rw[HnV.out];omega) g1 aD;rw[HnV.out,(aD:ly+1=t+ly+1-t)]at HTk;refine HTk.mono ?_;rintro e w5 ⟨O',δ,rfl,P4,oR,Bv,hδ,kR,Gl,Bw⟩;have HRO':=akw P4;have HON:=akw Bw;have HSV5:=akw ((HSV.out.drewN nq).oW (λb' o _ e=>by cases e;exact F0) Bw);have HRQ5:=akw (show Rw w5 w3.heap.size Q from(Bw.oW _ aD).trans HRQ.out);have HE5:=akw (show iu w w5 from Fp.iu.aiE HE.out Bw QE);have hPt:=pw t;have Qc:0<val V:=by
     have:=HD.out.lt;rcases ek (val V)with h|h
     .rw [h,cB]at this;omega
     .exact h
    have wg:IntKind.u32.wrap (gd:Int)=gd:=by rw[IntKind.wrap_u32];omega
    have htm:(t:Int)<lx+1-(ly:Int):= aD ;have Q3:t<Q.length:=by rw[HD.out.DG,HnV.out];omega
    have JR:=bt Q3;have cq:=HRQ5.out.cell JR;have fq:=HRQ5.out.frozen t;generalize Q[t]=q0 at *
    have HQG:=akw JR;clear JR Q3 c4 c5 c6 c7 c8 HRO HRQ HSV HE HTk P4 Bw;rcases dO δ 1 with hδ0|hδ1
    .obtain rfl:δ=0:= aD ;have PU:=Ov hPt Qc (by rw[kR,cH,bK]) HGq.out.1;have HDS:=akw (HD.out.step (x:=gd) (by rw[HnV.out];omega) (by rw[oR,hO]) Bv aD (by rw[kR,cH,bK]) PU.2);clear PU kR Gl Bv oR HD HGq;have HRQ6:=akw (λx:Nat=>HRQ5.out.set t x);have HRO6:=akw (λv:Value=>HRO'.out.pk (w':=w5.setCell ⟨w3.heap.size,t,none⟩ v) (by simp only[World.setCell,cY];rw[bh aD]));have HSV6:=akw (λv:Value=>HSV5.out.Pp (b:=w3.heap.size) aD t v);have HE6:=akw (λv:Value=>HE5.out.setCell (p:=⟨w3.heap.size,t,none⟩) (by show w.heap.size<=w3.heap.size;omega) v);go_wp2;go_roundw
     case rel=>exact⟨t,O',Q.set t gd,aD,by go_num,HDS.out,HRO6.out _,HRQ6.out _,HSV6.out _,HE6.out _⟩
     case measure=>simp[intOf]
    .obtain rfl:δ=1:= aD ;have sx:=HD.out.Ti (x:=gd) HVok.out Bv (by rw[HnV.out];exact kR) (by rw[HnV.out];exact Gl);have zH:=sx.2;have HB:=akw (λ(κ:Nat) (O2:List Nat)=>HD.out.XC (x:=gd) (κ:=κ) (O2:=O2) HVok.out (by rw[HnV.out];omega) Bv (by rw[HnV.out];exact kR) (by rw[HnV.out];exact Gl) g1 HGq.out.2 Qc);have HP0:=akw (vN.start Bv t V);have QJ:O'.length=lx+1:=by rw[oR,hO]
     have HL':=akw QJ;have hxm:IntKind.u64.wrap ((gd:Int)-1)=((gd-1:Nat):Int):=by rw[IntKind.wrap_u64];omega
     have wg1:IntKind.u32.wrap ((gd-1:Nat):Int)=((gd-1:Nat):Int):=by rw[IntKind.wrap_u32];omega
     clear sx kR Gl Bv oR QJ HD HGq wg cq fq;go_wp2;go_loopw [15,125] (λcy i wr2=>∃ (k c':Nat) (O2:List Nat),k<=ly/\i = .int .i64 k/\cy = .int .u32 c'/\vN O' t V k O2 c'/\Rx wr2 g O2 R/\rL g w5 wr2) (λ_ i _=>ly-(intOf i).toNat)
     case atStart=>exact⟨0,0,O',b6 _,rfl,rfl,HP0.out,HRO'.out,rL.refl _ _⟩
     case round=>
      clear HP0 HRO';obtain⟨k,c',O2,rp,rfl,rfl,hP,yg,Bu⟩:=hrel;have HP:=akw hP;have C6:=hP.IZ;have nd:O2.length=lx+1:=by rw[hP.len];exact HL'.out
      have HL2:=akw nd;clear hP;by_cases iE:k<ly
      .have xj:k<V.length:=by rw[HnV.out];exact iE
       obtain⟨_,_,e1,_,c1⟩:=(HSV5.out.oW (λb' o _ e=>by cases e;exact F0) Bu).k0 xj;cases e1;rw[bU]at c1;have v7:V[k]=V.getD k 0:=by simp[bn,xj]
       rw[v7]at c1;have oZ:t+k<O2.length:= aD ;have c2:=yg.cell oZ;have c3:=yg.frozen (t+k);have oK:V.getD k 0<4294967296:=HVok.out.getD k;have Dm:O2.getD (t+k) 0<4294967296:=HP.out.ok.getD _;have HST:=akw (HP.out.step HVok.out xj (by rw[HL'.out,HnV.out];omega));have HRS:=akw (λx:Nat=>yg.set oZ x);have HOS:=akw (λ(v:Value)=>Bu.Et (t+k) v);have HA:=akw (λw=>CE (O2.getD (t+k) 0) (V.getD k 0) c' w Dm oK C6);clear yg Bu HP v7 xj oZ nd HL2;generalize O2.getD (t+k) 0=u at *
       generalize V.getD k 0=y at *
       have vW:((t:Int)+k).toNat=t+k:= aD ;have sX:0<=(t:Int)+k:= aD ;have QH:(t:Int)+k<lx+1:= aD ;go_wp2_with fail;refine(HA.out _).mono ?_;rintro e w6 ⟨rfl,rfl⟩;go_wp2;go_roundw
       case rel=>
        exact⟨k+1,(u+y+c')/4294967296,O2.set (t+k) ((u+y+c')%4294967296),aD,by go_num,rfl,HST.out,HRS.out _,HOS.out _⟩
       case measure=>simp[intOf];omega
      .obtain rfl:k=ly:= aD ;have FQ:=(show vN O' t V V.length O2 c' by rw[HnV.out];exact HP.out).K0 (by rw[HL'.out,HnV.out];omega);rw[HnV.out]at FQ;obtain⟨q1,q2,⟨κ,q3,q4⟩,q5⟩:=FQ;have oZ:t+k<O2.length:= aD ;have c2:=yg.cell oZ;have c3:=yg.frozen (t+k);have Dm:O2.getD (t+k) 0<4294967296:=HP.out.ok.getD _;have HDS:=akw (HB.out κ _ (by rw[q1];exact HL'.out) q2 q3 (by rw[HnV.out];exact q4) (by rw[HnV.out];exact q5));have HRS:=akw (λx:Nat=>yg.set oZ x);have HOS:=akw (λ(v:Value)=>Bu.Et (t+k) v);have FT:∀ v:Value,Rw (wr.setCell ⟨g,t+k,none⟩ v) w3.heap.size Q:=λv=>((HOS.out v).oW _ aD).trans HRQ5.out
       have hcq:∀ v:Value,(wr.setCell ⟨g,t+k,none⟩ v).cell? ⟨w3.heap.size,t,none⟩=some (.int .u32 (q0:Int)):=λv=>(FT v).cell HQG.out
       have hfq:∀ v:Value,(wr.setCell ⟨g,t+k,none⟩ v).frozen? ⟨w3.heap.size,t,none⟩=false:=λv=>(FT v).frozen t
       have HRQ8:=akw (λ(v:Value) (x:Nat)=>(FT v).set t x);have HRO8:=akw (λ(x:Nat) (v:Value)=>(HRS.out x).pk (w':=(wr.setCell ⟨g,t+k,none⟩ (.int .u32 (x:Int))).setCell ⟨w3.heap.size,t,none⟩ v) (by simp only[World.setCell,cY];rw[bh aD]));have HSV8:=akw (λ(v v2:Value)=>(HSV5.out.oW (λb' o _ e=>by cases e;exact F0) (HOS.out v)).Pp (b:=w3.heap.size) aD t v2);have HE8:=akw (λ(v v2:Value)=>(Fp.iu.only HE5.out (HOS.out v) QE).setCell (p:=⟨w3.heap.size,t,none⟩) (by show w.heap.size<=w3.heap.size;omega) v2);clear FT HRS HOS yg Bu HP q1 q2 q3 q4 q5 oZ nd HL2;generalize O2.getD (t+k) 0=u at *
       have vW:((t:Int)+k).toNat=t+k:= aD ;have sX:0<=(t:Int)+k:= aD ;have QH:(t:Int)+k<lx+1:= aD ;have hi4:IntKind.u32.wrap ((u:Int)+c')=(((u+c')%4294967296:Nat):Int):=by rw[IntKind.wrap_u32];omega
       generalize (u+c')%4294967296=uu at *
       go_wp2;go_roundw
       case rel=>exact⟨t,O2.set (t+k) uu,Q.set t (gd-1),aD,by go_num,HDS.out,HRO8.out _ _,HRQ8.out _ _,HSV8.out _ _,HE8.out _ _⟩
       case measure=>simp[intOf]
def ahT:E.le (.v (.slice none 0 0)) (gO []):=λbs br w v h=>by
 obtain rfl:=iz.kE h;exact .sl false 0 1 _ none 0 (λ_ _=>undef) (bp _) aF (λ_=>rfl) (λi j hi=>absurd hi (bC i)) (λi j hi=>absurd hi (bC i)) (λi j hi=>absurd hi (bC i)) (λi j hi=>absurd hi (bC i))
def ahU{x:Nat}:E.le (.sl false 1 1 λi_ j_=>[.v (.int .u32 (x:Int))].getD (i_*1+j_) (.v (.bool false))) (gO [x]):=.sl λi j hi hj=>by
 obtain rfl:i=0:= aD ;obtain rfl:j=0:= aD ;exact⟨.refl _,rfl⟩
def NW(L:List Nat)(hk:iw L):gJ 302 [gO L] (gO L):=D9 hk call302 (λA c w h _=>I3 A c L w h) λA c B w e w' h hB ⟨h1,h2⟩=>by
 subst h2;exact⟨_,h1,Below.refl _ _,wJ hB (Below.refl _ _) ⟨bp _,h.len,h.ok,λhn=>by have:=h.vw hn;have:=h.cap;omega,h.cell⟩⟩
def NX(L:List Nat)(hk:iw L)(hl:L.length<=1000000):gJ 244 [gO L] (gO L):=D9 hk call244 (λA c w h _=>I4 A c L w h aD) λA c B w e w' h hB r=>rl B w e w' hB r
def adq(L M:List Nat)(hL:iw L)(hM:iw M)(h1:L.length<=100000)(h2:M.length<=100000)(hc:kv (val (gT L)) (val (gT M))<0):gJ 357 [gO L,gO M] (.hH [gO [],gO (gT L)]):=by
 have ta:=n9 L;have tb:=n9 M;unfold lI at ta tb;exact aj call357 func357 (aa [af [gO L] (xy _ aE),af [gO M] (xy _ aE),af [gO (gT L),gO (gT M)] (DW _ _ (iw.gT aE) (iw.gT aE) aD aD),tB 25 (bk hc),af [gO (gT L)] (NX _ (iw.gT aE) aD)]<|rR (.hH [gO [],gO (gT L)]) (.hH (.cons ahT (.cons (.refl _) .nil)):E.le (.hH [.v (.slice none 0 0),gO (gT L)]) (.hH [gO [],gO (gT L)]))) 
def adr(L M:List Nat)(hL:iw L)(hM:iw M)(h1:L.length<=100000)(h2:M.length<=100000)(hc:¬kv (val (gT L)) (val (gT M))<0)(hl:(gT M).length=1)(uh:0<(gT M).getD 0 0)(rn:(gT M).getD 0 0<4294967296):gJ 357 [gO L,gO M] (.hH [gO (iI (val (gT L)/(gT M).getD 0 0) (gT L).length),gO [val (gT L)%(gT M).getD 0 0]]):=by
 have ta:=n9 L;have tb:=n9 M;unfold lI at ta tb;exact aj call357 func357 (aa [af [gO L] (xy _ aE),af [gO M] (xy _ aE),af [gO (gT L),gO (gT M)] (DW _ _ (iw.gT aE) (iw.gT aE) aD aD),tB 25 (bl hc),ag 30 (((gT M).length:Int)==1) (by rw[hl];rfl),iX 0 ((gT M).length) aD,.c (adx (gT L) ((gT M).getD 0 0) (iw.gT aE) aD uh rn)]<|rR (.hH [gO (iI (val (gT L)/(gT M).getD 0 0) (gT L).length),gO [val (gT L)%(gT M).getD 0 0]]) (.hH (.cons (.refl _) (.cons ahU .nil)):E.le (.hH [gO (iI (val (gT L)/((gT M).getD 0 0)) (gT L).length),(.sl false 1 1 λi_ j_=>[.v (.int .u32 ((val (gT L)%((gT M).getD 0 0):Nat):Int))].getD (i_*1+j_) (.v (.bool false)))]) (.hH [gO (iI (val (gT L)/(gT M).getD 0 0) (gT L).length),gO [val (gT L)%(gT M).getD 0 0]]))) 
def ads(L M:List Nat)(hL:iw L)(hM:iw M)(h1:L.length<=100000)(h2:M.length<=100000)(h0:val M≠0):∃ T S:List Nat,gJ 357 [gO L,gO M] (.hH [gO T,gO S])/\val T=val L/val M/\val S=val L%val M/\iw T/\iw S/\T.length<=L.length/\S.length<=L.length+1:=by
 have ta:=n9 L;have tb:=n9 M;unfold lI at ta tb;have e1:=oc L;have e2:=oc M;by_cases hc:kv (val (gT L)) (val (gT M))<0
 .refine ⟨[],gT L,adq L M hL hM h1 h2 hc,?_,?_,iw.nil,hL.gT,b6 _,aD⟩
  .rw [e1,e2]at hc;have:val L<val M:=by unfold kv at hc;split at hc<;>(try split at hc)<;>omega
   rw[ca this];rfl
  .rw [e1,e2]at hc;have:val L<val M:=by unfold kv at hc;split at hc<;>(try split at hc)<;>omega
   rw[bJ this,e1]
 .have rV:val M<=val L:=by rw[e1,e2]at hc;unfold kv at hc;split at hc<;>(try split at hc)<;>omega
  have kV:gT M≠[]:=by intro h;rw[h]at e2;exact h0 e2.symm
  have hlen:(gT M).length≠0:=by simpa using kV
  by_cases hl:(gT M).length=1
  .obtain ⟨x,hx⟩:=List.length_eq_one_iff.1 hl;have kf:=hM.gT;rw[hx]at kf;have Rf:x=val M:=by rw[<-e2,hx];simp[val]
   have hg:(gT M).getD 0 0=x:=by rw[hx];rfl
   have:=adr L M hL hM h1 h2 hc hl (by rw[hg];omega) (by rw[hg];exact kf.head);rw[hg]at this;refine⟨_,_,this,?_,?_,sn _ _,iw.cons (fp (bA _ aD) kf.head) iw.nil,by rw[mu];exact ta,aJ⟩
   .rw [vH,bJ,e1,Rf];exact cC (cz _ _) (lW hL.gT)
   .simp [val,e1,Rf]
  .refine ⟨_,_,Al hL hM call357 (λA c B d w h k hT=>Y3 A B c d L M w _ _ _ rfl rfl rfl h k hT h1 h2 rV aD) (λB w e w' hB ⟨A1,c1,B1,d1,q1,q2,q3,q4⟩=>⟨_,q1,q4,kj.hH (.cons (wJ hB q4 q2) (.cons (wJ hB q4 q3) (.nil _ _ _)))⟩),?_,?_,sn _ _,D4 _ _,?_,?_⟩
   .rw [vH,bJ];rw[bZ aD];have g1:=lW hL.gT;rw[e1]at g1;refine bN g1 ?_;obtain⟨l,oR⟩:∃ l,(gT M).length=l+1:=⟨(gT M).length-1,aD⟩
    have g2:4294967296^l<=val M:=by
     apply bY;intro q;have q2:(gK (val M)).length<=l:=qi aD;rw[<-qJ hM]at q2;omega
    have g3:=cA (4294967296^((gT L).length+1-(gT M).length)) g2;rw[<-bq]at g3;refine bM ?_ g3;exact bG aF aD 
   .rw [MF (kO _),jR,dD _ (bu aF)]
   .rw [mu];omega
   .rw [Hz,eE];have hb:32-gU ((gT M).getD ((gT M).length-1) 0)<33:= aD ;have:=acV (kO (val L%val M)) (32-gU ((gT M).getD ((gT M).length-1) 0));rw[jR]at this;have h3:(gK (val L%val M)).length<=(gK (val L)).length:=xw (fR _ _);rw[<-qJ hL]at h3;omega
def adp(m n:Nat)(h1:(gK m).length<=256)(h2:(gK n).length<=256)(h0:n≠0):gJ 307 [gO (gK m),gO (gK n)] (.hH [gO (gK (m/n)),gO (gK (m%n)),iP 0]):=by
 obtain⟨T,S,Qv,hT,hS,oT,oS,_,_⟩:=ads (gK m) (gK n) (kO m) (kO n) aD aD (by rw[jR];exact h0);rw[jR,jR]at hT hS;have hz:gT (gK n)=gK n:=uK n;have hl:=pv h0;have nd:(((gT (gK n)).length:Int)==0)=false:=by rw[hz];exact mv hl
 exact aj call307 func307 (aa [.c (SI (gK m) (gK n) aE aE),af [gO (gK n)] (xy _ (kO _)),ah 18 (((gT (gK n)).length:Int)==0) nd,af [gO (gK m),gO (gK n)] Qv,af [gO T] (xy _ aE),af [gO (gT T)] (NW _ (iw.gT aE)),af [gO S] (xy _ aE),af [gO (gT S)] (NW _ (iw.gT aE))]<|rQ (.hH [gO (gT T),gO (gT S),iP 0]) (.hH [gO (gK (m/n)),gO (gK (m%n)),iP 0]) (by rw[qJ oT,qJ oS,hT,hS])) 
def UK(a b:Dy)(p:Nat)(up:Bool)(ha:a.gQ)(hb:b.gQ)(b0:b.m≠0)(ie:8<=p)(gS:p<=512):gJ 269 [gM a,gM b,iP p,bP up] (.hH [gM (jU a b p up),iP (mH a b p up)]):=by
 by_cases a0:a.m=0
 .have e1:jU a b p up=ix/\mH a b p up=0:=by unfold jU mH;rw[bj a0,bj a0];exact⟨rfl,rfl⟩
  exact aj call269 func269 (aa [.o 18 (.e (uT _ _):ai (.sl true 2 3 λi_ j_=>(iy a++iy b).getD (i_*3+j_) (.v (.bool false))) (nL [a,b])),af [iP p,nL [a,b]] (vB _ _ _ aE aE aD aD),ah 21 ((0:Int) != 0) aF,ah 28 (((gK b.m).length:Int)==0) (mv (pv b0)),ag 34 (((gK a.m).length:Int)==0) (qk (pY.2 a0)),.o 35 (.e qM:ai (.agg aq) (gM ix))]<|rQ (.hH [gM ix,iP 0]) (.hH [gM (jU a b p up),iP (mH a b p up)]) (by rw[e1.1,e1.2])) 
 .have va:=ha.gK;have vb:=hb.gK;have xa:=ha.exp;have xb:=hb.exp;have ra:=ha.range.resolve_left a0;have rb:=hb.range.resolve_left b0;have pa:=mZ a0;have pb:=mZ b0;have hK:j8 a b p 3=p+3+gU b.m-gU a.m:=rfl;have bs:=qw a0 (j8 a b p 3);have z1:(gK (a.m*2^j8 a b p 3)).length<=256:=nI aD;have hq:=Jf a0 b0 p 3 aF;have q0:a.m*2^j8 a b p 3/b.m≠0:=by intro q;rw[q,ri]at hq;omega
  have z2:(gK (a.m*2^j8 a b p 3/b.m)).length<=256:=nI (by have:=sg (cz (a.m*2^j8 a b p 3) b.m);omega);have z3:(gK (a.m*2^j8 a b p 3%b.m)).length<=256:=nI (by have:=sg (dv (bA (a.m*2^j8 a b p 3) (ep b0)));omega);have om:decide (0<(gU (a.m*2^j8 a b p 3%b.m):Int))=decide (a.m*2^j8 a b p 3%b.m≠0):=by
   by_cases h:a.m*2^j8 a b p 3%b.m=0
   .rw [h,ri];rfl
   .have:=mZ h;rw[bk h,bk aD]
  obtain⟨d1,d2⟩:=Y1 a0 b0 p up;have h0:a.m*2^j8 a b p 3/b.m≠0\/a.m*2^j8 a b p 3/b.m=0/\a.e-(j8 a b p 3:Int)-b.e=0/\decide (0<(gU (a.m*2^j8 a b p 3%b.m):Int))=false:=.inl q0;have hm:decide (0<(gU (a.m*2^j8 a b p 3%b.m):Int))=true->p<gU (a.m*2^j8 a b p 3/b.m):=λ_=>hq
  exact aj call269 func269 (aa [.o 18 (.e (uT _ _):ai (.sl true 2 3 λi_ j_=>(iy a++iy b).getD (i_*3+j_) (.v (.bool false))) (nL [a,b])),af [iP p,nL [a,b]] (vB _ _ _ aE aE aD aD),ah 21 ((0:Int) != 0) aF,ah 28 (((gK b.m).length:Int)==0) (mv (pv b0)),ah 34 (((gK a.m).length:Int)==0) (mv (pv a0)),gW ((p:Int)+3) aD,af [gM b] (ON _ aE),gW (((p:Int)+3)+(gU (Dy.m b):Int)) aD,af [gM a] (ON _ aE),
   gW ((((p:Int)+3)+(gU (Dy.m b):Int))-(gU (Dy.m a):Int)) aD,.o 44 (an (if((((p:Int)+3)+(gU (Dy.m b):Int))-(gU (Dy.m a):Int))>0 then((((p:Int)+3)+(gU (Dy.m b):Int))-(gU (Dy.m a):Int))else 0) (j8 a b p 3:Int) aQ),.c (wH a.m (j8 a b p 3) aD aD aD),af [gO (gK (a.m*2^(j8 a b p 3))),gO (gK b.m)] (adp _ _ aD aD aE),
   gW (a.e-(j8 a b p 3:Int)) aD,gW ((a.e-(j8 a b p 3:Int))-b.e) aD,af [gO (gK ((a.m*2^(j8 a b p 3))%b.m))] (uz _ aD),.c (Ei (! (a.neg==b.neg)) ((a.m*2^(j8 a b p 3))/b.m) ((a.e-(j8 a b p 3:Int))-b.e) (decide (0<(gU ((a.m*2^(j8 a b p 3))%b.m):Int))) up p aD aE aD aD aD aD aE)]<|rQ (.hH [gM (jK (!(a.neg==b.neg)) ((a.m*2^(j8 a b p 3))/b.m) ((a.e-(j8 a b p 3:Int))-b.e) (decide (0<(gU ((a.m*2^(j8 a b p 3))%b.m):Int))) p up),iP (jD (!(a.neg==b.neg)) ((a.m*2^(j8 a b p 3))/b.m) ((a.e-(j8 a b p 3:Int))-b.e) (decide (0<(gU ((a.m*2^(j8 a b p 3))%b.m):Int))) p up)]) (.hH [gM (jU a b p up),iP (mH a b p up)]) (by rw[<-d1,<-d2,<-om];rfl)) 
def UI(a b:Dy)(p:Nat)(ha:a.gQ)(hb:b.gQ)(b0:b.m≠0)(ie:8<=p)(gS:p<=512):gJ 209 [gM a,gM b,iP p] (.hH [gM (jU a b p false),iP (mH a b p false)]):=
 aj call209 func209 (ae [.c (UK a b p false aE aE aE aD aD)]) 
def UJ(a b:Dy)(p:Nat)(ha:a.gQ)(hb:b.gQ)(b0:b.m≠0)(ie:8<=p)(gS:p<=512):gJ 210 [gM a,gM b,iP p] (.hH [gM (jU a b p true),iP (mH a b p true)]):=
 aj call210 func210 (ae [.c (UK a b p true aE aE aE aD aD)]) 
def RA(l:List Iv)(i:Nat):PS:=⟨19,true,[(7,.e (iP i)),(6,.e (iP l.length)),(5,.e (ic l))],[]⟩
def Rz(l:List Iv)(N:Nat)(i:Nat):PS:=⟨19,true,[(7,.e (iP i)),(6,.e (iP l.length)),(5,.e (ic l))],[]⟩
def lD(a:Iv):E.le (.sl true 1 7 λi j=>(iA a).getD (i*7+j) (.v (.bool false))) (ic [a]):=.sl λi j hi hj=>by
 obtain rfl:i=0:= aD ;rcases j with _|_|_|_|_|_|_|j
 all_goals first|exact⟨.refl _,rfl⟩|omega
def xu(a b:Iv):E.le (.sl true 2 7 λi j=>(iA a++iA b).getD (i*7+j) (.v (.bool false))) (ic [a,b]):=.sl λi j hi hj=>by
 obtain rfl|rfl:i=0\/i=1:= aD 
 all_goals
  rcases j with _|_|_|_|_|_|_|j
  all_goals first|exact⟨.refl _,rfl⟩|omega
def oB{x:Iv}(h:x.gQ)(ha:x.all=false):x.lo.gQ/\x.hi.gQ/\jh x.lo x.hi<=0:=by
 rcases h with⟨h1,_⟩|⟨_,h⟩
 .rw [ha]at h1;cases h1
 .exact h
def KU{x:Iv}(h:x.gQ)(ha:x.all=true):x.lo=ix/\x.hi=ix:=by
 rcases h with⟨_,h⟩|⟨h1,_⟩
 .exact h
 .rw [ha]at h1;cases h1
def q7 : gJ 148 [] (gR gL):=
 aj call148 func148 (ae [.o 1 (.e xR:ai (.agg [bP false,.v (.slice none 0 0),iP 0,bP false,.v (.slice none 0 0),iP 0,bP true]) (gR gL))]) 
def KS(lo hi:Dy)(e f:Int):gJ 151 [gM lo,iP e,gM hi,iP f] (gR (mj lo e hi f)):=by
 by_cases he:e=0
 .by_cases hf:f=0
  .exact aj call151 func151 (aa [ah 10 (e != 0) (by rw[he];rfl),ah 13 (f != 0) (by rw[hf];rfl)]<|rQ (gR (Iv.mk lo hi false)) (gR (mj lo e hi f)) (by rw[show mj lo e hi f=⟨lo,hi,false⟩by unfold mj;rw[bh (by simp[he,hf])]];try rfl)) 
  .exact aj call151 func151 (aa [ah 10 (e != 0) (by rw[he];rfl),ag 13 (f != 0) (by simpa using hf),.c q7]<|rQ (gR gL) (gR (mj lo e hi f)) (by rw[show mj lo e hi f=gL by unfold mj;rw[bj (.inr hf)]])) 
 .exact aj call151 func151 (aa [ag 10 (e != 0) (by simpa using he),.c q7]<|rQ (gR gL) (gR (mj lo e hi f)) (by rw[show mj lo e hi f=gL by unfold mj;rw[bj (.inl he)]])) 
def RE : gJ 198 [gM ix] (bP true):=
 aj call198 func198 (ae [ah 4 ix.neg rfl,ag 10 (((gK ix.m).length:Int)==0) (qk (pY.2 rfl)),ag 15 (ix.e==0) rfl]) 
def vq(x:Iv)(hx:x.gQ):gJ 121 [gR x] (bP true):=by
 by_cases kp:x.all=true
 .obtain ⟨h1,h2⟩:=KU hx kp;exact aj call121 func121 (ae [ag 5 x.all kp,.c (by rw[h1];exact RE:gJ 198 [gM x.lo] (bP true)),.c (by rw[h2];exact RE:gJ 198 [gM x.hi] (bP true))]) 
 .replace kp:x.all=false:=by simpa using kp
  obtain⟨h1,h2,h3⟩:=oB hx kp;exact aj call121 func121 (ae [ah 5 x.all kp,af [gM x.lo] (rS _ aE),af [gM x.hi] (rS _ aE),af [gM x.lo,gM x.hi] (nT _ _ aE aE),tB 30 (bk h3)]) 
def RB(l:List Iv)(hl:l.length<=1000)(hv:∀ i,i<l.length->(l.getD i gL).gQ)(ha:∀ i,i<l.length->(l.getD i gL).all=false):gJ 93 [ic l] (bP true):=
 aj call93 func93 (ae [.s (Sp.iG (RA l) 0 l.length aD (λi hi rq=>by
    have Q8:=hv i aD;have J0:=ha i aD;exact gX (ae [tT 8 ((i:Int)<l.length) aD,iX (i:Int) (l.length) aD,ah 12 ((l.getD i gL).all) J0,.c (vq (l.getD i gL) aE),
     gW ((i:Int)+1) aD]) aG)
  (λhi=>by
    exact gX (ae [tF 8 ((l.length:Int)<l.length) aD]) aG) aK:iF 2 Tryz.f93 (RA l 0) (.exit 0) ⟨19,true,[],[]⟩) .nil]) 
def KR(l:List Iv)(hl:l.length<=1000)(hv:∀ i,i<l.length->(l.getD i gL).gQ)(N:Nat)(hN:N<l.length)(ha:∀ i,i<N->(l.getD i gL).all=false)(rm:(l.getD N gL).all=true):gJ 93 [ic l] (bP false):=
 aj call93 func93 (ae [.s (Sp.iG (Rz l N) 0 N aD (λi hi rq=>by
    have Q8:=hv i aD;have J0:=ha i aD;exact gX (ae [tT 8 ((i:Int)<l.length) aD,iX (i:Int) (l.length) aD,ah 12 ((l.getD i gL).all) J0,.c (vq (l.getD i gL) aE),
     gW ((i:Int)+1) aD]) aG)
  (λhi=>by
    exact gX (ae [tT 8 ((N:Int)<l.length) aD,iX (N:Int) (l.length) aD,ag 12 ((l.getD N gL).all) rm]) aG) aK:iF 2 Tryz.f93 (Rz l N 0) .ret ⟨19,true,[(2,.e (bP false))],[]⟩) .nil]) 
def rB(x:Iv)(hx:x.gQ):gJ 93 [ic [x]] (bP (!x.all)):=by
 have hv:∀ i,i<[x].length->([x].getD i gL).gQ:=λi hi=>(match i,hi with
  | 0,_=>hx
  |n+1,hi=>absurd hi aJ)
 cases kp:x.all with
 |true=>exact KR [x] aJ hv 0 aJ (λi hi=>absurd hi (bC i)) kp
 |false=>exact RB [x] aJ hv (λi hi=>(match i,hi with
  | 0,_=>kp
  |n+1,hi=>absurd hi aJ))
def z8(x y:Iv)(hx:x.gQ)(hy:y.gQ):gJ 93 [ic [x,y]] (bP (!(x.all||y.all))):=by
 have hv:∀ i,i<[x,y].length->([x,y].getD i gL).gQ:=λi hi=>(match i,hi with
  | 0,_=>hx
  | 1,_=>hy
  |n+2,hi=>absurd hi aJ)
 cases kp:x.all with
 |true=>exact KR [x,y] aJ hv 0 aJ (λi hi=>absurd hi (bC i)) kp
 |false=>cases yr:y.all with
  |true=>exact KR [x,y] aJ hv 1 aJ (λi hi=>(match i,hi with
   | 0,_=>kp
   |n+1,hi=>absurd hi aD)) yr
  |false=>exact RB [x,y] aJ hv (λi hi=>(match i,hi with
   | 0,_=>kp
   | 1,_=>yr
   |n+2,hi=>absurd hi aJ))
def xr(x y:Iv)(p:Nat)(hx:x.gQ)(hy:y.gQ)(ie:8<=p)(gS:p<=512):gJ 78 [gR x,gR y,iP p] (gR (jx x y p)):=by
 by_cases hk:(x.all||y.all)=true
 .exact aj call78 func78 (aa [.o 13 (.e (xu _ _):ai (.sl true 2 7 λi_ j_=>(iA x++iA y).getD (i_*7+j_) (.v (.bool false))) (ic [x,y])),af [ic [x,y]] (z8 _ _ aE aE),ah 14 (!(x.all||y.all)) (by rw[hk];rfl),.c q7]<|rQ (gR gL) (gR (jx x y p)) (by rw[show jx x y p=gL by unfold jx;rw[bj hk]])) 
 .replace hk:(x.all||y.all)=false:=by simpa using hk
  have kp:x.all=false:=by cases h:x.all;rfl;rw[h]at hk;simp at hk
  have yr:y.all=false:=by cases h:y.all;rfl;rw[h]at hk;simp at hk
  obtain⟨v1,v2,v3⟩:=oB hx kp;obtain⟨v4,v5,v6⟩:=oB hy yr;exact aj call78 func78 (aa [.o 13 (.e (xu _ _):ai (.sl true 2 7 λi_ j_=>(iA x++iA y).getD (i_*7+j_) (.v (.bool false))) (ic [x,y])),af [ic [x,y]] (z8 _ _ aE aE),ag 14 (!(x.all||y.all)) (by rw[hk];rfl),af [iP p] (Aa _),ag 18 (jV (p:Int)) (mm.2 ⟨aD,aD⟩),.c (af7 x.lo y.lo p aE aE aD aD),.c (wG x.hi y.hi p aE aE aD aD),.c (KS (ji (iM x.lo y.lo) p false) (ji (iM x.hi y.hi) p true) (jl (iM x.lo y.lo) p false) (jl (iM x.hi y.hi) p true))]<|rQ (gR (mj (ji (iM x.lo y.lo) p false) (jl (iM x.lo y.lo) p false) (ji (iM x.hi y.hi) p true) (jl (iM x.hi y.hi) p true))) (gR (jx x y p)) (by rw[show jx x y p=_ by unfold jx;rw[bh (by rw[hk];decide)]])) 
def KT(x:Iv)(hx:x.gQ):gJ 268 [gR x] (gR (oC x)):=by
 by_cases kp:x.all=true
 .exact aj call268 func268 (aa [.o 4 (.e (lD _):ai (.sl true 1 7 λi_ j_=>(iA x).getD (i_*7+j_) (.v (.bool false))) (ic [x])),af [ic [x]] (rB _ aE),ah 5 (!x.all) (by rw[kp];rfl),.c q7]<|rQ (gR gL) (gR (oC x)) (by rw[show oC x=gL by unfold oC;rw[bj kp]])) 
 .replace kp:x.all=false:=by simpa using kp
  obtain⟨v1,v2,v3⟩:=oB hx kp;exact aj call268 func268 (aa [.o 4 (.e (lD _):ai (.sl true 1 7 λi_ j_=>(iA x).getD (i_*7+j_) (.v (.bool false))) (ic [x])),af [ic [x]] (rB _ aE),ag 5 (!x.all) (by rw[kp];rfl),af [gM x.hi] (yb _ aE),af [gM x.lo] (yb _ aE)]<|rQ (gR (Iv.mk (iB x.hi) (iB x.lo) false)) (gR (oC x)) (by rw[show oC x=⟨iB x.hi,iB x.lo,false⟩by unfold oC;rw[bh (by rw[kp];decide)]];try rfl)) 
def Dw(x y:Iv)(p:Nat)(hx:x.gQ)(hy:y.gQ)(ie:8<=p)(gS:p<=512):gJ 203 [gR x,gR y,iP p] (gR (je x y p)):=by
 have hn:=rZ hy;exact aj call203 func203 (ae [.c (KT y aE),.c (xr x (oC y) p aE aE aD aD)]) 
def xt(d:Dy)(hd:d.gQ):gJ 202 [gM d] (gR (gZ d)):=
 aj call202 func202 (ae [af [gM d] (rS _ aE)]) 
def Fs(d:Dy)(hd:d.gQ):gJ 243 [gM d] (gM (lg d)):=by
 have hl:=hd.gK;by_cases h0:d.m=0
 .have e1:lg d=ix:=by
   rcases hd.canon with q|q
   .unfold lg ix;rw[q.1,q.2.2]
   .omega
  exact aj call243 func243 (aa [af [gM d] (rS _ aE),ag 10 (((gK d.m).length:Int)==0) (qk (pY.2 h0)),.o 12 (.e qM:ai (.agg aq) (gM ix))]<|rQ (gM ix) (gM (lg d)) (by rw[e1])) 
 .exact aj call243 func243 (ae [af [gM d] (rS _ aE),ah 10 (((gK d.m).length:Int)==0) (mv (pv h0)),af [gO (gK d.m)] (NX _ (kO _) aD)]) 
def acj(a b:Dy)(ha:a.gQ)(hb:b.gQ):gJ 304 [gM a,gM b] (gM (iZ a b)):=by
 have hc:=wS a b;by_cases h:(jh a b<=0)
 .exact aj call304 func304 (aa [af [gM a,gM b] (nT _ _ aE aE),tB 8 (bk h)]<|rQ (gM a) (gM (iZ a b)) (by unfold iZ;rw[bh aD])) 
 .exact aj call304 func304 (aa [af [gM a,gM b] (nT _ _ aE aE),tB 8 (bl h)]<|rQ (gM b) (gM (iZ a b)) (by unfold iZ;rw[bj aD])) 
def acn(a b:Dy)(ha:a.gQ)(hb:b.gQ):gJ 242 [gM a,gM b] (gM (iT a b)):=by
 have hc:=wS a b;by_cases h:(0<=jh a b)
 .exact aj call242 func242 (aa [af [gM a,gM b] (nT _ _ aE aE),tB 8 (bk h)]<|rQ (gM a) (gM (iT a b)) (by unfold iT;rw[bh aD])) 
 .exact aj call242 func242 (aa [af [gM a,gM b] (nT _ _ aE aE),tB 8 (bl h)]<|rQ (gM b) (gM (iT a b)) (by unfold iT;rw[bj aD])) 
def Gz(x:Iv)(hx:x.gQ):gJ 47 [gR x] (iP (lR x)):=by
 by_cases kp:x.all=true
 .exact aj call47 func47 (aa [.o 5 (.e (lD _):ai (.sl true 1 7 λi_ j_=>(iA x).getD (i_*7+j_) (.v (.bool false))) (ic [x])),af [ic [x]] (rB _ aE),ah 6 (!x.all) (by rw[kp];rfl)]<|rQ (iP 0) (iP (lR x)) (by rw[show lR x=0 by unfold lR;rw[bj kp]])) 
 .replace kp:x.all=false:=by simpa using kp
  obtain⟨v1,v2,v3⟩:=oB hx kp;by_cases h1:0<x.lo.jc
  .exact aj call47 func47 (aa [.o 5 (.e (lD _):ai (.sl true 1 7 λi_ j_=>(iA x).getD (i_*7+j_) (.v (.bool false))) (ic [x])),af [ic [x]] (rB _ aE),ag 6 (!x.all) (by rw[kp];rfl),af [gM x.lo] (tZ _ aE),tB 12 (bk h1)]<|rQ (iP 1) (iP (lR x)) (by rw[show lR x=1 by unfold lR;rw[bh (by rw[kp];decide)];simp[h1]])) 
  .by_cases h2:x.hi.jc<0
   .exact aj call47 func47 (aa [.o 5 (.e (lD _):ai (.sl true 1 7 λi_ j_=>(iA x).getD (i_*7+j_) (.v (.bool false))) (ic [x])),af [ic [x]] (rB _ aE),ag 6 (!x.all) (by rw[kp];rfl),af [gM x.lo] (tZ _ aE),tB 12 (bl h1),af [gM x.hi] (tZ _ aE),tB 17 (bk h2)]<|rQ (iP (-1)) (iP (lR x)) (by rw[show lR x = -1 by unfold lR;rw[bh (by rw[kp];decide)];simp[h1,h2]])) 
   .exact aj call47 func47 (aa [.o 5 (.e (lD _):ai (.sl true 1 7 λi_ j_=>(iA x).getD (i_*7+j_) (.v (.bool false))) (ic [x])),af [ic [x]] (rB _ aE),ag 6 (!x.all) (by rw[kp];rfl),af [gM x.lo] (tZ _ aE),tB 12 (bl h1),af [gM x.hi] (tZ _ aE),tB 17 (bl h2)]<|rQ (iP 0) (iP (lR x)) (by rw[show lR x=0 by unfold lR;rw[bh (by rw[kp];decide)];simp[h1,h2]])) 
def wc(x:Iv)(hx:x.gQ)(kp:x.all=false):gJ 165 [gR x] (.hH [gM (ku x),bP true]):=by
 obtain⟨v1,v2,v3⟩:=oB hx kp;have w1:=rh v1;have w2:=rh v2;exact aj call165 func165 (ae [.o 5 (.e (lD _):ai (.sl true 1 7 λi_ j_=>(iA x).getD (i_*7+j_) (.v (.bool false))) (ic [x])),af [ic [x]] (rB _ aE),ag 6 (!x.all) (by rw[kp];rfl),.c (Fs x.lo aE),.c (Fs x.hi aE),.c (acn (lg x.lo) (lg x.hi) aE aE)]) 
def acm(x:Iv)(hx:x.gQ)(kp:x.all=false):gJ 267 [gR x] (.hH [gM (mW x),bP true]):=by
 obtain⟨v1,v2,v3⟩:=oB hx kp;have w1:=rh v1;have w2:=rh v2;by_cases hs:lR x=0
 .exact aj call267 func267 (aa [.o 5 (.e (lD _):ai (.sl true 1 7 λi_ j_=>(iA x).getD (i_*7+j_) (.v (.bool false))) (ic [x])),af [ic [x]] (rB _ aE),ag 6 (!x.all) (by rw[kp];rfl),.c (Gz x aE),ag 11 ((lR x)==0) (by rw[hs];rfl),.o 12 (.e qM:ai (.agg aq) (gM ix))]<|rQ (.hH [gM ix,bP true]) (.hH [gM (mW x),bP true]) (by rw[show mW x=ix by unfold mW;rw[bj hs]])) 
 .exact aj call267 func267 (aa [.o 5 (.e (lD _):ai (.sl true 1 7 λi_ j_=>(iA x).getD (i_*7+j_) (.v (.bool false))) (ic [x])),af [ic [x]] (rB _ aE),ag 6 (!x.all) (by rw[kp];rfl),.c (Gz x aE),ah 11 ((lR x)==0) (by simpa using hs),.c (Fs x.lo aE),.c (Fs x.hi aE),.c (acj (lg x.lo) (lg x.hi) aE aE)]<|rQ (.hH [gM (iZ (lg x.lo) (lg x.hi)),bP true]) (.hH [gM (mW x),bP true]) (by rw[show mW x=iZ (lg x.lo) (lg x.hi)by unfold mW;rw[bh hs]])) 
def Dv(x:Iv)(hx:x.gQ):gJ 201 [gR x] (gR (ib x)):=by
 by_cases kp:x.all=true
 .exact aj call201 func201 (aa [.o 8 (.e (lD _):ai (.sl true 1 7 λi_ j_=>(iA x).getD (i_*7+j_) (.v (.bool false))) (ic [x])),af [ic [x]] (rB _ aE),ah 9 (!x.all) (by rw[kp];rfl),.c q7]<|rQ (gR gL) (gR (ib x)) (by rw[show ib x=gL by unfold ib;rw[bj kp]])) 
 .replace kp:x.all=false:=by simpa using kp
  obtain⟨v1,v2,v3⟩:=oB hx kp;exact aj call201 func201 (aa [.o 8 (.e (lD _):ai (.sl true 1 7 λi_ j_=>(iA x).getD (i_*7+j_) (.v (.bool false))) (ic [x])),af [ic [x]] (rB _ aE),ag 9 (!x.all) (by rw[kp];rfl),.c (acm x aE kp),.c (wc x aE kp)]<|rQ (gR (Iv.mk (mW x) (ku x) false)) (gR (ib x)) (by rw[show ib x=⟨mW x,ku x,false⟩by unfold ib;rw[bh (by rw[kp];decide)]];try rfl)) 
def acf(x y:Iv)(p:Nat)(gd gu:FuncId)(DD:Dy->Dy->Bool->Dy)(EE:Dy->Dy->Bool->Int):PS:=⟨96,true,[(41,.e (iP 0)),(40,.e (.agg (iA (Iv.mk x.lo y.lo x.lo.neg)++[gO (gK x.lo.m),iP x.lo.e]++iA (Iv.mk y.hi x.hi y.lo.neg)++[gO (gK y.lo.m),iP y.lo.e]++iy x.hi++iy y.hi))),(12,.box 12 0),(10,.box 10 0),(2,.e (iP p)),(3,.e (.fn gd [])),(4,.e (.fn gu []))],[(12,.cells 46 (iA (Iv.mk (DD x.lo y.lo false) (DD x.lo y.lo true) false))),(10,.cells 46 ar)]⟩
def acg(x y:Iv)(p:Nat)(gd gu:FuncId)(DD:Dy->Dy->Bool->Dy)(EE:Dy->Dy->Bool->Int):PS:=⟨96,true,[(41,.e (iP (0+1))),(40,.e (.agg (iA (Iv.mk x.lo y.lo x.lo.neg)++[gO (gK x.lo.m),iP x.lo.e]++iA (Iv.mk y.hi x.hi y.lo.neg)++[gO (gK y.lo.m),iP y.lo.e]++iy x.hi++iy y.hi))),(12,.box 12 0),(10,.box 10 0),(2,.e (iP p)),(3,.e (.fn gd [])),(4,.e (.fn gu []))],[(12,.cells 46 (iA (Iv.mk (iZ (DD x.lo y.lo false) (DD x.lo y.hi false)) (iT (DD x.lo y.lo true) (DD x.lo y.hi true)) false))),(10,.cells 46 ar)]⟩
def ach(x y:Iv)(p:Nat)(gd gu:FuncId)(DD:Dy->Dy->Bool->Dy)(EE:Dy->Dy->Bool->Int):PS:=⟨96,true,[(41,.e (iP ((0+1)+1))),(40,.e (.agg (iA (Iv.mk x.lo y.lo x.lo.neg)++[gO (gK x.lo.m),iP x.lo.e]++iA (Iv.mk y.hi x.hi y.lo.neg)++[gO (gK y.lo.m),iP y.lo.e]++iy x.hi++iy y.hi))),(12,.box 12 0),(10,.box 10 0),(2,.e (iP p)),(3,.e (.fn gd [])),(4,.e (.fn gu []))],[(12,.cells 46 (iA (Iv.mk (iZ (iZ (DD x.lo y.lo false) (DD x.lo y.hi false)) (DD x.hi y.lo false)) (iT (iT (DD x.lo y.lo true) (DD x.lo y.hi true)) (DD x.hi y.lo true)) false))),(10,.cells 46 ar)]⟩
def aci(x y:Iv)(p:Nat)(gd gu:FuncId)(DD:Dy->Dy->Bool->Dy)(EE:Dy->Dy->Bool->Int):PS:=⟨96,true,[(41,.e (iP (((0+1)+1)+1))),(40,.e (.agg (iA (Iv.mk x.lo y.lo x.lo.neg)++[gO (gK x.lo.m),iP x.lo.e]++iA (Iv.mk y.hi x.hi y.lo.neg)++[gO (gK y.lo.m),iP y.lo.e]++iy x.hi++iy y.hi))),(12,.box 12 0),(10,.box 10 0),(2,.e (iP p)),(3,.e (.fn gd [])),(4,.e (.fn gu []))],[(12,.cells 46 (iA (Iv.mk (iZ (iZ (iZ (DD x.lo y.lo false) (DD x.lo y.hi false)) (DD x.hi y.lo false)) (DD x.hi y.hi false)) (iT (iT (iT (DD x.lo y.lo true) (DD x.lo y.hi true)) (DD x.hi y.lo true)) (DD x.hi y.hi true)) false))),(10,.cells 46 ar)]⟩
def Ry(x y:Iv)(p:Nat)(gd gu:FuncId)(DD:Dy->Dy->Bool->Dy)(EE:Dy->Dy->Bool->Int)(hd:∀ a b,(a=x.lo\/a=x.hi)->(b=y.lo\/b=y.hi)->gJ gd [gM a,gM b,iP (p:Int)] (.hH [gM (DD a b false),iP (EE a b false)]))
  (hu:∀ a b,(a=x.lo\/a=x.hi)->(b=y.lo\/b=y.hi)->gJ gu [gM a,gM b,iP (p:Int)] (.hH [gM (DD a b true),iP (EE a b true)])) (hv:∀ a b up,(DD a b up).gQ):gJ 188 [gR x,gR y,iP p,.fn gd [],.fn gu []] (gR (lK DD EE x y)):=by
 exact aj call188 func188 (aa [.u 5,ag 42 (decide ((0:Int)<4)) aF]<|.w ((EE x.lo y.lo false)=0)
  (λk1=>.w ((EE x.lo y.lo true)=0)
   (λk2=>aa [.j 3 (acf x y p gd gu DD EE)
   (ae [iX 0 4 aD,iX 0 2 aD,iX 1 2 aD,.c (hd _ _ (.inl rfl) (.inl rfl):gJ gd ((gM x.lo)::(gM y.lo)::(iP p)::[]) _),iX 0 2 aD,iX 1 2 aD,.c (hu _ _ (.inl rfl) (.inl rfl):gJ gu ((gM x.lo)::(gM y.lo)::(iP p)::[]) _),tB 66 (bd k1),tB 69 (bd k2),ag 73 ((0:Int)==0) aF,ag 84 ((0:Int)==0) aF]),
    gW (0+1) aD,ag 42 (decide (((0+1):Int)<4)) aF]<|.w ((EE x.lo y.hi false)=0)
    (λk3=>.w ((EE x.lo y.hi true)=0)
     (λk4=>aa [.j 3 (acg x y p gd gu DD EE)
   (aa [iX (0+1) 4 aD,iX 0 2 aD,iX 1 2 aD,.c (hd _ _ (.inl rfl) (.inr rfl):gJ gd ((gM x.lo)::(gM y.hi)::(iP p)::[]) _),iX 0 2 aD,iX 1 2 aD,.c (hu _ _ (.inl rfl) (.inr rfl):gJ gu ((gM x.lo)::(gM y.hi)::(iP p)::[]) _),tB 66 (bd k3),tB 69 (bd k4),ah 73 (((0+1):Int)==0) aF,af [gM (DD x.lo y.hi false),gM (DD x.lo y.lo false)] (nT _ _ (hv _ _ _) (hv _ _ _))]<|.w ((jh (DD x.lo y.hi false) (DD x.lo y.lo false))<0)
    (λm1=>aa [tB 79 (bk m1),ah 84 (((0+1):Int)==0) aF,af [gM (DD x.lo y.hi true),gM (DD x.lo y.lo true)] (nT _ _ (hv _ _ _) (hv _ _ _))]<|.w (0<(jh (DD x.lo y.hi true) (DD x.lo y.lo true)))
     (λm2=>aa [tB 90 (bk m2)]<|.e (ae [.b 12 (.iD (by rw[show iZ (DD x.lo y.lo false) (DD x.lo y.hi false)=(DD x.lo y.hi false)from bj m1,show iT (DD x.lo y.lo true) (DD x.lo y.hi true)=(DD x.lo y.hi true)from bj m2]):Bx.le (.cells 46 (iA (Iv.mk (DD x.lo y.hi false) (DD x.lo y.hi true) false))) (.cells 46 (iA (Iv.mk (iZ (DD x.lo y.lo false) (DD x.lo y.hi false)) (iT (DD x.lo y.lo true) (DD x.lo y.hi true)) false))))]))
     (λm2=>aa [tB 90 (bl m2)]<|.e (ae [.b 12 (.iD (by rw[show iZ (DD x.lo y.lo false) (DD x.lo y.hi false)=(DD x.lo y.hi false)from bj m1,show iT (DD x.lo y.lo true) (DD x.lo y.hi true)=(DD x.lo y.lo true)from bh m2]):Bx.le (.cells 46 (iA (Iv.mk (DD x.lo y.hi false) (DD x.lo y.lo true) false))) (.cells 46 (iA (Iv.mk (iZ (DD x.lo y.lo false) (DD x.lo y.hi false)) (iT (DD x.lo y.lo true) (DD x.lo y.hi true)) false))))])))
    (λm1=>aa [tB 79 (bl m1),ah 84 (((0+1):Int)==0) aF,af [gM (DD x.lo y.hi true),gM (DD x.lo y.lo true)] (nT _ _ (hv _ _ _) (hv _ _ _))]<|.w (0<(jh (DD x.lo y.hi true) (DD x.lo y.lo true)))
     (λm2=>aa [tB 90 (bk m2)]<|.e (ae [.b 12 (.iD (by rw[show iZ (DD x.lo y.lo false) (DD x.lo y.hi false)=(DD x.lo y.lo false)from bh m1,show iT (DD x.lo y.lo true) (DD x.lo y.hi true)=(DD x.lo y.hi true)from bj m2]):Bx.le (.cells 46 (iA (Iv.mk (DD x.lo y.lo false) (DD x.lo y.hi true) false))) (.cells 46 (iA (Iv.mk (iZ (DD x.lo y.lo false) (DD x.lo y.hi false)) (iT (DD x.lo y.lo true) (DD x.lo y.hi true)) false))))]))
     (λm2=>aa [tB 90 (bl m2)]<|.e (ae [.b 12 (.iD (by rw[show iZ (DD x.lo y.lo false) (DD x.lo y.hi false)=(DD x.lo y.lo false)from bh m1,show iT (DD x.lo y.lo true) (DD x.lo y.hi true)=(DD x.lo y.lo true)from bh m2]):Bx.le (.cells 46 (iA (Iv.mk (DD x.lo y.lo false) (DD x.lo y.lo true) false))) (.cells 46 (iA (Iv.mk (iZ (DD x.lo y.lo false) (DD x.lo y.hi false)) (iT (DD x.lo y.lo true) (DD x.lo y.hi true)) false))))])))),
      gW ((0+1)+1) aD,ag 42 (decide ((((0+1)+1):Int)<4)) aF]<|.w ((EE x.hi y.lo false)=0)
      (λk5=>.w ((EE x.hi y.lo true)=0)
       (λk6=>aa [.j 3 (ach x y p gd gu DD EE)
   (aa [iX ((0+1)+1) 4 aD,iX 0 2 aD,iX 1 2 aD,.c (hd _ _ (.inr rfl) (.inl rfl):gJ gd ((gM x.hi)::(gM y.lo)::(iP p)::[]) _),iX 0 2 aD,iX 1 2 aD,.c (hu _ _ (.inr rfl) (.inl rfl):gJ gu ((gM x.hi)::(gM y.lo)::(iP p)::[]) _),tB 66 (bd k5),tB 69 (bd k6),ah 73 ((((0+1)+1):Int)==0) aF,af [gM (DD x.hi y.lo false),gM (iZ (DD x.lo y.lo false) (DD x.lo y.hi false))] (nT _ _ (hv _ _ _) (qj (hv _ _ _) (hv _ _ _)))]<|.w ((jh (DD x.hi y.lo false) (iZ (DD x.lo y.lo false) (DD x.lo y.hi false)))<0)
    (λm1=>aa [tB 79 (bk m1),ah 84 ((((0+1)+1):Int)==0) aF,af [gM (DD x.hi y.lo true),gM (iT (DD x.lo y.lo true) (DD x.lo y.hi true))] (nT _ _ (hv _ _ _) (py (hv _ _ _) (hv _ _ _)))]<|.w (0<(jh (DD x.hi y.lo true) (iT (DD x.lo y.lo true) (DD x.lo y.hi true))))
     (λm2=>aa [tB 90 (bk m2)]<|.e (ae [.b 12 (.iD (by rw[show iZ (iZ (DD x.lo y.lo false) (DD x.lo y.hi false)) (DD x.hi y.lo false)=(DD x.hi y.lo false)from bj m1,show iT (iT (DD x.lo y.lo true) (DD x.lo y.hi true)) (DD x.hi y.lo true)=(DD x.hi y.lo true)from bj m2]):Bx.le (.cells 46 (iA (Iv.mk (DD x.hi y.lo false) (DD x.hi y.lo true) false))) (.cells 46 (iA (Iv.mk (iZ (iZ (DD x.lo y.lo false) (DD x.lo y.hi false)) (DD x.hi y.lo false)) (iT (iT (DD x.lo y.lo true) (DD x.lo y.hi true)) (DD x.hi y.lo true)) false))))]))
     (λm2=>aa [tB 90 (bl m2)]<|.e (ae [.b 12 (.iD (by rw[show iZ (iZ (DD x.lo y.lo false) (DD x.lo y.hi false)) (DD x.hi y.lo false)=(DD x.hi y.lo false)from bj m1,show iT (iT (DD x.lo y.lo true) (DD x.lo y.hi true)) (DD x.hi y.lo true)=(iT (DD x.lo y.lo true) (DD x.lo y.hi true))from bh m2]):Bx.le (.cells 46 (iA (Iv.mk (DD x.hi y.lo false) (iT (DD x.lo y.lo true) (DD x.lo y.hi true)) false))) (.cells 46 (iA (Iv.mk (iZ (iZ (DD x.lo y.lo false) (DD x.lo y.hi false)) (DD x.hi y.lo false)) (iT (iT (DD x.lo y.lo true) (DD x.lo y.hi true)) (DD x.hi y.lo true)) false))))])))
    (λm1=>aa [tB 79 (bl m1),ah 84 ((((0+1)+1):Int)==0) aF,af [gM (DD x.hi y.lo true),gM (iT (DD x.lo y.lo true) (DD x.lo y.hi true))] (nT _ _ (hv _ _ _) (py (hv _ _ _) (hv _ _ _)))]<|.w (0<(jh (DD x.hi y.lo true) (iT (DD x.lo y.lo true) (DD x.lo y.hi true))))
     (λm2=>aa [tB 90 (bk m2)]<|.e (ae [.b 12 (.iD (by rw[show iZ (iZ (DD x.lo y.lo false) (DD x.lo y.hi false)) (DD x.hi y.lo false)=(iZ (DD x.lo y.lo false) (DD x.lo y.hi false))from bh m1,show iT (iT (DD x.lo y.lo true) (DD x.lo y.hi true)) (DD x.hi y.lo true)=(DD x.hi y.lo true)from bj m2]):Bx.le (.cells 46 (iA (Iv.mk (iZ (DD x.lo y.lo false) (DD x.lo y.hi false)) (DD x.hi y.lo true) false))) (.cells 46 (iA (Iv.mk (iZ (iZ (DD x.lo y.lo false) (DD x.lo y.hi false)) (DD x.hi y.lo false)) (iT (iT (DD x.lo y.lo true) (DD x.lo y.hi true)) (DD x.hi y.lo true)) false))))]))
     (λm2=>aa [tB 90 (bl m2)]<|.e (ae [.b 12 (.iD (by rw[show iZ (iZ (DD x.lo y.lo false) (DD x.lo y.hi false)) (DD x.hi y.lo false)=(iZ (DD x.lo y.lo false) (DD x.lo y.hi false))from bh m1,show iT (iT (DD x.lo y.lo true) (DD x.lo y.hi true)) (DD x.hi y.lo true)=(iT (DD x.lo y.lo true) (DD x.lo y.hi true))from bh m2]):Bx.le (.cells 46 (iA (Iv.mk (iZ (DD x.lo y.lo false) (DD x.lo y.hi false)) (iT (DD x.lo y.lo true) (DD x.lo y.hi true)) false))) (.cells 46 (iA (Iv.mk (iZ (iZ (DD x.lo y.lo false) (DD x.lo y.hi false)) (DD x.hi y.lo false)) (iT (iT (DD x.lo y.lo true) (DD x.lo y.hi true)) (DD x.hi y.lo true)) false))))])))),
        gW (((0+1)+1)+1) aD,ag 42 (decide (((((0+1)+1)+1):Int)<4)) aF]<|.w ((EE x.hi y.hi false)=0)
        (λk7=>.w ((EE x.hi y.hi true)=0)
         (λk8=>aa [.j 3 (aci x y p gd gu DD EE)
   (aa [iX (((0+1)+1)+1) 4 aD,iX 0 2 aD,iX 1 2 aD,.c (hd _ _ (.inr rfl) (.inr rfl):gJ gd ((gM x.hi)::(gM y.hi)::(iP p)::[]) _),iX 0 2 aD,iX 1 2 aD,.c (hu _ _ (.inr rfl) (.inr rfl):gJ gu ((gM x.hi)::(gM y.hi)::(iP p)::[]) _),tB 66 (bd k7),tB 69 (bd k8),ah 73 (((((0+1)+1)+1):Int)==0) aF,af [gM (DD x.hi y.hi false),gM (iZ (iZ (DD x.lo y.lo false) (DD x.lo y.hi false)) (DD x.hi y.lo false))] (nT _ _ (hv _ _ _) (qj (qj (hv _ _ _) (hv _ _ _)) (hv _ _ _)))]<|.w ((jh (DD x.hi y.hi false) (iZ (iZ (DD x.lo y.lo false) (DD x.lo y.hi false)) (DD x.hi y.lo false)))<0)
    (λm1=>aa [tB 79 (bk m1),ah 84 (((((0+1)+1)+1):Int)==0) aF,af [gM (DD x.hi y.hi true),gM (iT (iT (DD x.lo y.lo true) (DD x.lo y.hi true)) (DD x.hi y.lo true))] (nT _ _ (hv _ _ _) (py (py (hv _ _ _) (hv _ _ _)) (hv _ _ _)))]<|.w (0<(jh (DD x.hi y.hi true) (iT (iT (DD x.lo y.lo true) (DD x.lo y.hi true)) (DD x.hi y.lo true))))
     (λm2=>aa [tB 90 (bk m2)]<|.e (ae [.b 12 (.iD (by rw[show iZ (iZ (iZ (DD x.lo y.lo false) (DD x.lo y.hi false)) (DD x.hi y.lo false)) (DD x.hi y.hi false)=(DD x.hi y.hi false)from bj m1,show iT (iT (iT (DD x.lo y.lo true) (DD x.lo y.hi true)) (DD x.hi y.lo true)) (DD x.hi y.hi true)=(DD x.hi y.hi true)from bj m2]):Bx.le (.cells 46 (iA (Iv.mk (DD x.hi y.hi false) (DD x.hi y.hi true) false))) (.cells 46 (iA (Iv.mk (iZ (iZ (iZ (DD x.lo y.lo false) (DD x.lo y.hi false)) (DD x.hi y.lo false)) (DD x.hi y.hi false)) (iT (iT (iT (DD x.lo y.lo true) (DD x.lo y.hi true)) (DD x.hi y.lo true)) (DD x.hi y.hi true)) false))))]))
     (λm2=>aa [tB 90 (bl m2)]<|.e (ae [.b 12 (.iD (by rw[show iZ (iZ (iZ (DD x.lo y.lo false) (DD x.lo y.hi false)) (DD x.hi y.lo false)) (DD x.hi y.hi false)=(DD x.hi y.hi false)from bj m1,show iT (iT (iT (DD x.lo y.lo true) (DD x.lo y.hi true)) (DD x.hi y.lo true)) (DD x.hi y.hi true)=(iT (iT (DD x.lo y.lo true) (DD x.lo y.hi true)) (DD x.hi y.lo true))from bh m2]):Bx.le (.cells 46 (iA (Iv.mk (DD x.hi y.hi false) (iT (iT (DD x.lo y.lo true) (DD x.lo y.hi true)) (DD x.hi y.lo true)) false))) (.cells 46 (iA (Iv.mk (iZ (iZ (iZ (DD x.lo y.lo false) (DD x.lo y.hi false)) (DD x.hi y.lo false)) (DD x.hi y.hi false)) (iT (iT (iT (DD x.lo y.lo true) (DD x.lo y.hi true)) (DD x.hi y.lo true)) (DD x.hi y.hi true)) false))))])))
    (λm1=>aa [tB 79 (bl m1),ah 84 (((((0+1)+1)+1):Int)==0) aF,af [gM (DD x.hi y.hi true),gM (iT (iT (DD x.lo y.lo true) (DD x.lo y.hi true)) (DD x.hi y.lo true))] (nT _ _ (hv _ _ _) (py (py (hv _ _ _) (hv _ _ _)) (hv _ _ _)))]<|.w (0<(jh (DD x.hi y.hi true) (iT (iT (DD x.lo y.lo true) (DD x.lo y.hi true)) (DD x.hi y.lo true))))
     (λm2=>aa [tB 90 (bk m2)]<|.e (ae [.b 12 (.iD (by rw[show iZ (iZ (iZ (DD x.lo y.lo false) (DD x.lo y.hi false)) (DD x.hi y.lo false)) (DD x.hi y.hi false)=(iZ (iZ (DD x.lo y.lo false) (DD x.lo y.hi false)) (DD x.hi y.lo false))from bh m1,show iT (iT (iT (DD x.lo y.lo true) (DD x.lo y.hi true)) (DD x.hi y.lo true)) (DD x.hi y.hi true)=(DD x.hi y.hi true)from bj m2]):Bx.le (.cells 46 (iA (Iv.mk (iZ (iZ (DD x.lo y.lo false) (DD x.lo y.hi false)) (DD x.hi y.lo false)) (DD x.hi y.hi true) false))) (.cells 46 (iA (Iv.mk (iZ (iZ (iZ (DD x.lo y.lo false) (DD x.lo y.hi false)) (DD x.hi y.lo false)) (DD x.hi y.hi false)) (iT (iT (iT (DD x.lo y.lo true) (DD x.lo y.hi true)) (DD x.hi y.lo true)) (DD x.hi y.hi true)) false))))]))
     (λm2=>aa [tB 90 (bl m2)]<|.e (ae [.b 12 (.iD (by rw[show iZ (iZ (iZ (DD x.lo y.lo false) (DD x.lo y.hi false)) (DD x.hi y.lo false)) (DD x.hi y.hi false)=(iZ (iZ (DD x.lo y.lo false) (DD x.lo y.hi false)) (DD x.hi y.lo false))from bh m1,show iT (iT (iT (DD x.lo y.lo true) (DD x.lo y.hi true)) (DD x.hi y.lo true)) (DD x.hi y.hi true)=(iT (iT (DD x.lo y.lo true) (DD x.lo y.hi true)) (DD x.hi y.lo true))from bh m2]):Bx.le (.cells 46 (iA (Iv.mk (iZ (iZ (DD x.lo y.lo false) (DD x.lo y.hi false)) (DD x.hi y.lo false)) (iT (iT (DD x.lo y.lo true) (DD x.lo y.hi true)) (DD x.hi y.lo true)) false))) (.cells 46 (iA (Iv.mk (iZ (iZ (iZ (DD x.lo y.lo false) (DD x.lo y.hi false)) (DD x.hi y.lo false)) (DD x.hi y.hi false)) (iT (iT (iT (DD x.lo y.lo true) (DD x.lo y.hi true)) (DD x.hi y.lo true)) (DD x.hi y.hi true)) false))))])))),
          gW ((((0+1)+1)+1)+1) aD,ah 42 (decide ((((((0+1)+1)+1)+1):Int)<4)) aF]<|rQ (gR (Iv.mk (iZ (iZ (iZ (DD x.lo y.lo false) (DD x.lo y.hi false)) (DD x.hi y.lo false)) (DD x.hi y.hi false)) (iT (iT (iT (DD x.lo y.lo true) (DD x.lo y.hi true)) (DD x.hi y.lo true)) (DD x.hi y.hi true)) false)) (gR (lK DD EE x y)) (by rw[show lK DD EE x y=⟨iZ (iZ (iZ (DD x.lo y.lo false) (DD x.lo y.hi false)) (DD x.hi y.lo false)) (DD x.hi y.hi false),iT (iT (iT (DD x.lo y.lo true) (DD x.lo y.hi true)) (DD x.hi y.lo true)) (DD x.hi y.hi true),false⟩from bj ⟨⟨k1,k2⟩,⟨k3,k4⟩,⟨k5,k6⟩,⟨k7,k8⟩⟩];try rfl))
         (λk8=>aa [iX (((0+1)+1)+1) 4 aD,iX 0 2 aD,iX 1 2 aD,.c (hd _ _ (.inr rfl) (.inr rfl):gJ gd ((gM x.hi)::(gM y.hi)::(iP p)::[]) _),iX 0 2 aD,iX 1 2 aD,.c (hu _ _ (.inr rfl) (.inr rfl):gJ gu ((gM x.hi)::(gM y.hi)::(iP p)::[]) _),tB 66 (bd k7),tB 69 (bg k8),.c q7]<|rQ (gR gL) (gR (lK DD EE x y)) (by rw[show lK DD EE x y=gL from bh (by rintro⟨⟨q0,r0⟩,⟨q1,r1⟩,⟨q2,r2⟩,⟨q3,r3⟩⟩;exact k8 r3)])))
        (λk7=>aa [iX (((0+1)+1)+1) 4 aD,iX 0 2 aD,iX 1 2 aD,.c (hd _ _ (.inr rfl) (.inr rfl):gJ gd ((gM x.hi)::(gM y.hi)::(iP p)::[]) _),iX 0 2 aD,iX 1 2 aD,.c (hu _ _ (.inr rfl) (.inr rfl):gJ gu ((gM x.hi)::(gM y.hi)::(iP p)::[]) _),tB 66 (bg k7),.c q7]<|rQ (gR gL) (gR (lK DD EE x y)) (by rw[show lK DD EE x y=gL from bh (by rintro⟨⟨q0,r0⟩,⟨q1,r1⟩,⟨q2,r2⟩,⟨q3,r3⟩⟩;exact k7 q3)])))
       (λk6=>aa [iX ((0+1)+1) 4 aD,iX 0 2 aD,iX 1 2 aD,.c (hd _ _ (.inr rfl) (.inl rfl):gJ gd ((gM x.hi)::(gM y.lo)::(iP p)::[]) _),iX 0 2 aD,iX 1 2 aD,.c (hu _ _ (.inr rfl) (.inl rfl):gJ gu ((gM x.hi)::(gM y.lo)::(iP p)::[]) _),tB 66 (bd k5),tB 69 (bg k6),.c q7]<|rQ (gR gL) (gR (lK DD EE x y)) (by rw[show lK DD EE x y=gL from bh (by rintro⟨⟨q0,r0⟩,⟨q1,r1⟩,⟨q2,r2⟩,⟨q3,r3⟩⟩;exact k6 r2)])))
      (λk5=>aa [iX ((0+1)+1) 4 aD,iX 0 2 aD,iX 1 2 aD,.c (hd _ _ (.inr rfl) (.inl rfl):gJ gd ((gM x.hi)::(gM y.lo)::(iP p)::[]) _),iX 0 2 aD,iX 1 2 aD,.c (hu _ _ (.inr rfl) (.inl rfl):gJ gu ((gM x.hi)::(gM y.lo)::(iP p)::[]) _),tB 66 (bg k5),.c q7]<|rQ (gR gL) (gR (lK DD EE x y)) (by rw[show lK DD EE x y=gL from bh (by rintro⟨⟨q0,r0⟩,⟨q1,r1⟩,⟨q2,r2⟩,⟨q3,r3⟩⟩;exact k5 q2)])))
     (λk4=>aa [iX (0+1) 4 aD,iX 0 2 aD,iX 1 2 aD,.c (hd _ _ (.inl rfl) (.inr rfl):gJ gd ((gM x.lo)::(gM y.hi)::(iP p)::[]) _),iX 0 2 aD,iX 1 2 aD,.c (hu _ _ (.inl rfl) (.inr rfl):gJ gu ((gM x.lo)::(gM y.hi)::(iP p)::[]) _),tB 66 (bd k3),tB 69 (bg k4),.c q7]<|rQ (gR gL) (gR (lK DD EE x y)) (by rw[show lK DD EE x y=gL from bh (by rintro⟨⟨q0,r0⟩,⟨q1,r1⟩,⟨q2,r2⟩,⟨q3,r3⟩⟩;exact k4 r1)])))
    (λk3=>aa [iX (0+1) 4 aD,iX 0 2 aD,iX 1 2 aD,.c (hd _ _ (.inl rfl) (.inr rfl):gJ gd ((gM x.lo)::(gM y.hi)::(iP p)::[]) _),iX 0 2 aD,iX 1 2 aD,.c (hu _ _ (.inl rfl) (.inr rfl):gJ gu ((gM x.lo)::(gM y.hi)::(iP p)::[]) _),tB 66 (bg k3),.c q7]<|rQ (gR gL) (gR (lK DD EE x y)) (by rw[show lK DD EE x y=gL from bh (by rintro⟨⟨q0,r0⟩,⟨q1,r1⟩,⟨q2,r2⟩,⟨q3,r3⟩⟩;exact k3 q1)])))
   (λk2=>aa [iX 0 4 aD,iX 0 2 aD,iX 1 2 aD,.c (hd _ _ (.inl rfl) (.inl rfl):gJ gd ((gM x.lo)::(gM y.lo)::(iP p)::[]) _),iX 0 2 aD,iX 1 2 aD,.c (hu _ _ (.inl rfl) (.inl rfl):gJ gu ((gM x.lo)::(gM y.lo)::(iP p)::[]) _),tB 66 (bd k1),tB 69 (bg k2),.c q7]<|rQ (gR gL) (gR (lK DD EE x y)) (by rw[show lK DD EE x y=gL from bh (by rintro⟨⟨q0,r0⟩,⟨q1,r1⟩,⟨q2,r2⟩,⟨q3,r3⟩⟩;exact k2 r0)])))
  (λk1=>aa [iX 0 4 aD,iX 0 2 aD,iX 1 2 aD,.c (hd _ _ (.inl rfl) (.inl rfl):gJ gd ((gM x.lo)::(gM y.lo)::(iP p)::[]) _),iX 0 2 aD,iX 1 2 aD,.c (hu _ _ (.inl rfl) (.inl rfl):gJ gu ((gM x.lo)::(gM y.lo)::(iP p)::[]) _),tB 66 (bg k1),.c q7]<|rQ (gR gL) (gR (lK DD EE x y)) (by rw[show lK DD EE x y=gL from bh (by rintro⟨⟨q0,r0⟩,⟨q1,r1⟩,⟨q2,r2⟩,⟨q3,r3⟩⟩;exact k1 q0)]))) 
def VI{y:Iv}(hy:y.gQ)(hs:lR y≠0):y.lo.m≠0/\y.hi.m≠0:=by
 unfold lR at hs;have ha:y.all=false:=by
  cases h:y.all with
  |false=>rfl
  |true=>rw[h]at hs;exact absurd rfl hs
 obtain⟨v1,v2,v3⟩:=oB hy ha;rw[ha]at hs;simp only[b9,bF]at hs;have z:∀ d:Dy,d.m=0->d.jc=0:=λd h=>by unfold Dy.jc;rw[bj h]
 have hc:=A5 y.lo y.hi;rw[hc]at v3;constructor
 .intro h0;have:=z _ h0;rw[this]at hs v3;split at hs
  .omega
  .split at hs
   .split at v3<;>omega
   .exact hs rfl
 .intro h0;have:=z _ h0;rw[this]at hs v3;split at hs
  .split at v3<;>omega
  .split at hs
   .omega
   .exact hs rfl
def YU(a b:Dy){p:Nat}(up:Bool)(hp:1<=p)(gS:p<=4096):(jU a b p up).gQ:=by
 unfold jU;split
 .exact re
 .exact lY _ _ _ _ _ _ hp gS
def rC(x y:Iv)(p:Nat)(hx:x.gQ)(hy:y.gQ)(ie:8<=p)(gS:p<=512):gJ 115 [gR x,gR y,iP p] (gR (ia x y p)):=by
 by_cases hk:(x.all||y.all)=true
 .exact aj call115 func115 (aa [.o 9 (.e (xu _ _):ai (.sl true 2 7 λi_ j_=>(iA x++iA y).getD (i_*7+j_) (.v (.bool false))) (ic [x,y])),af [ic [x,y]] (z8 _ _ aE aE),ah 10 (!(x.all||y.all)) (by rw[hk];rfl),.c q7]<|rQ (gR gL) (gR (ia x y p)) (by rw[show ia x y p=gL by unfold ia;rw[bj hk]])) 
 .replace hk:(x.all||y.all)=false:=by simpa using hk
  have kp:x.all=false:=by cases h:x.all;rfl;rw[h]at hk;simp at hk
  have yr:y.all=false:=by cases h:y.all;rfl;rw[h]at hk;simp at hk
  obtain⟨v1,v2,v3⟩:=oB hx kp;obtain⟨v4,v5,v6⟩:=oB hy yr;exact aj call115 func115 (aa [.o 9 (.e (xu _ _):ai (.sl true 2 7 λi_ j_=>(iA x++iA y).getD (i_*7+j_) (.v (.bool false))) (ic [x,y])),af [ic [x,y]] (z8 _ _ aE aE),ag 10 (!(x.all||y.all)) (by rw[hk];rfl),af [iP p] (Aa _),ag 14 (jV (p:Int)) (mm.2 ⟨aD,aD⟩),.c (Ry x y p 189 190 (λa b up=>ji (mK a b) p up) (λa b up=>jl (mK a b) p up) (λa b ha hb=>L4 a b p (by rcases ha with rfl|rfl;exact v1;exact v2) (by rcases hb with rfl|rfl;exact v4;exact v5) ie gS) (λa b ha hb=>L5 a b p (by rcases ha with rfl|rfl;exact v1;exact v2) (by rcases hb with rfl|rfl;exact v4;exact v5) ie gS) (λa b up=>lY _ _ _ _ _ _ aD aD))]<|rQ (gR (lK (λa b up=>ji (mK a b) p up) (λa b up=>jl (mK a b) p up) x y)) (gR (ia x y p)) (by rw[show ia x y p=_ by unfold ia;rw[bh (by rw[hk];decide)]];rfl)) 
def wb(x y:Iv)(p:Nat)(hx:x.gQ)(hy:y.gQ)(ie:8<=p)(gS:p<=512):gJ 128 [gR x,gR y,iP p] (gR (ik x y p)):=by
 by_cases hk:(x.all||y.all)=true
 .exact aj call128 func128 (aa [.o 9 (.e (xu _ _):ai (.sl true 2 7 λi_ j_=>(iA x++iA y).getD (i_*7+j_) (.v (.bool false))) (ic [x,y])),af [ic [x,y]] (z8 _ _ aE aE),ah 10 (!(x.all||y.all)) (by rw[hk];rfl),.c q7]<|rQ (gR gL) (gR (ik x y p)) (by rw[show ik x y p=gL by unfold ik;rw[bj (by rw[hk];rfl)]])) 
 .replace hk:(x.all||y.all)=false:=by simpa using hk
  have kp:x.all=false:=by cases h:x.all;rfl;rw[h]at hk;simp at hk
  have yr:y.all=false:=by cases h:y.all;rfl;rw[h]at hk;simp at hk
  obtain⟨v1,v2,v3⟩:=oB hx kp;obtain⟨v4,v5,v6⟩:=oB hy yr;by_cases hs:lR y=0
  .exact aj call128 func128 (aa [.o 9 (.e (xu _ _):ai (.sl true 2 7 λi_ j_=>(iA x++iA y).getD (i_*7+j_) (.v (.bool false))) (ic [x,y])),af [ic [x,y]] (z8 _ _ aE aE),ag 10 (!(x.all||y.all)) (by rw[hk];rfl),af [iP p] (Aa _),ag 14 (jV (p:Int)) (mm.2 ⟨aD,aD⟩),.c (Gz y aE),ag 20 ((lR y)==0) (by rw[hs];rfl),.c q7]<|rQ (gR gL) (gR (ik x y p)) (by rw[show ik x y p=gL by unfold ik;rw[bj (by rw[hk,bk hs];rfl)]])) 
  .obtain ⟨n1,n2⟩:=VI hy hs;exact aj call128 func128 (aa [.o 9 (.e (xu _ _):ai (.sl true 2 7 λi_ j_=>(iA x++iA y).getD (i_*7+j_) (.v (.bool false))) (ic [x,y])),af [ic [x,y]] (z8 _ _ aE aE),ag 10 (!(x.all||y.all)) (by rw[hk];rfl),af [iP p] (Aa _),ag 14 (jV (p:Int)) (mm.2 ⟨aD,aD⟩),.c (Gz y aE),ah 20 ((lR y)==0) (by simpa using hs),.c (Ry x y p 209 210 (λa b up=>jU a b p up) (λa b up=>mH a b p up) (λa b ha hb=>UI a b p (by rcases ha with rfl|rfl;exact v1;exact v2) (by rcases hb with rfl|rfl;exact v4;exact v5) (by rcases hb with rfl|rfl;exact n1;exact n2) ie gS) (λa b ha hb=>UJ a b p (by rcases ha with rfl|rfl;exact v1;exact v2) (by rcases hb with rfl|rfl;exact v4;exact v5) (by rcases hb with rfl|rfl;exact n1;exact n2) ie gS) (λa b up=>YU a b up aD aD))]<|rQ (gR (lK (λa b up=>jU a b p up) (λa b up=>mH a b p up) x y)) (gR (ik x y p)) (by rw[show ik x y p=_ by unfold ik;rw[bh (by rw[hk,bl hs];decide)]])) 
def acq(d:RD)(h:d.Zero):gJ 198 [pA d] (bP true):=by
 obtain⟨h1,h2,h3⟩:=h;exact aj call198 func198 (ae [ah 4 d.neg h1,ag 10 ((d.L.length:Int)==0) (qk (by rw[h2];rfl)),ag 15 (d.e==0) (by rw[h3];rfl)]) 
def RC(d:RD)(h:¬d.Zero):gJ 198 [pA d] (bP false):=by
 by_cases h1:d.neg=true
 .exact aj call198 func198 (ae [ag 4 d.neg h1]) 
 .replace h1:d.neg=false:=by simpa using h1
  by_cases h2:d.L=[]
  .have h3:¬d.e=0:=λq=>h ⟨h1,h2,q⟩
   exact aj call198 func198 (ae [ah 4 d.neg h1,ag 10 ((d.L.length:Int)==0) (qk (by rw[h2];rfl)),ah 15 (d.e==0) (by simpa using h3)]) 
  .exact aj call198 func198 (ae [ah 4 d.neg h1,ah 10 ((d.L.length:Int)==0) (mv (λq=>h2 (aj9.1 q)))]) 
def acp(x:RI)(g:x.jo)(h:x.Ok):gJ 121 [kH x] (bP true):=by
 have:=vq x.iv h.valid;rwa[<-BH,h.eq g]at this
def aco(x:RI)(g:x.jo)(h:¬x.Ok):gJ 121 [kH x] (bP false):=by
 have ga:=g.lo;have gb:=g.hi;by_cases ha:x.all=true
 .by_cases h1:x.lo.Zero
  .have h2:¬x.hi.Zero:=λq=>h (.inl ⟨ha,h1,q⟩)
   exact aj call121 func121 (ae [ag 5 x.all ha,.c (acq x.lo h1),.c (RC x.hi h2)]) 
  .exact aj call121 func121 (ae [ag 5 x.all ha,.c (RC x.lo h1)]) 
 .replace ha:x.all=false:=by simpa using ha
  by_cases h1:x.lo.Ok
  .by_cases h2:x.hi.Ok
   .have h3:¬jh x.lo.dy x.hi.dy<=0:=λq=>h (.inr ⟨ha,h1,h2,q⟩)
    have v1:=h1.valid;have v2:=h2.valid;have e1:kH x=gR x.iv:=by rw[<-BH,show x.iv.raw=x by show RI.mk x.lo.dy.raw x.hi.dy.raw x.all=x;rw[h1.eq ga,h2.eq gb]]
    rw[e1];exact aj call121 func121 (ae [ah 5 x.iv.all ha,af [gM x.iv.lo] (rS _ aE),af [gM x.iv.hi] (rS _ aE),af [gM x.iv.lo,gM x.iv.hi] (nT _ _ aE aE),tB 30 (bl h3)]) 
   .exact aj call121 func121 (ae [ah 5 x.all ha,af [pA x.lo] (A9 _ aE true (by simp[h1])),af [pA x.hi] (A9 _ aE false (by simp[h2]))]) 
  .exact aj call121 func121 (ae [ah 5 x.all ha,af [pA x.lo] (A9 _ aE false (by simp[h1]))]) 
def GA(x:RI)(g:x.jo):gJ 121 [kH x] (bP (ki x)):=by
 by_cases h:x.Ok
 .rw [pM.2 h];exact acp x g h
 .rw [show ki x=false by simpa using λq=>h (pM.1 q)];exact aco x g h
def adb(x:RI)(g:x.jo):gJ 293 [kH x,(.jN 1 λj_=>[.fn 121 []].getD j_ .any)] (bP (!(ki x))):=
 aj call293 func293 (ae [af [kH x] (GA _ aE)]) 
def ada(r:List RI)(m:List (List RI))(gr:∀ j,(r.getD j iR).jo)(hr:r.length<=1000000)(hm:0<m.length):gJ 292 [jk r,(.jN 1 λj_=>[pR m].getD j_ .any),(.jN 1 λj_=>[.fn 121 []].getD j_ .any)] (bP (decide (r.length≠(m.getD 0 []).length)||((List.range (r.length)).any λj=>!(ki (r.getD j iR))))):=by
 by_cases h:r.length=(m.getD 0 []).length
 .exact aj call292 func292 (aa [iX 0 (m.length) aD,ah 11 ((r.length:Int) != ((m.getD 0 []).length:Int)) (pK h),.c (yB true _ _ 293 _ (λj=>!(ki (r.getD j iR))) (λj hj=>adb _ (gr j)) aD:gJ 40 [jk r,.fn 293 [(.jN 1 λj_=>[.fn 121 []].getD j_ .any)]] _)]<|rQ (bP ((List.range (r.length)).any λj=>!(ki (r.getD j iR)))) (bP (decide (r.length≠(m.getD 0 []).length)||((List.range (r.length)).any λj=>!(ki (r.getD j iR))))) (by rw[bl (akc h)];rfl)) 
 .exact aj call292 func292 (aa [iX 0 (m.length) aD,ag 11 ((r.length:Int) != ((m.getD 0 []).length:Int)) (SK h)]<|rQ (bP true) (bP (decide (r.length≠(m.getD 0 []).length)||((List.range (r.length)).any λj=>!(ki (r.getD j iR))))) (by rw[bk h];rfl)) 
def ade(m:List (List RI))(g:vK m)(hl:m.length<=1000000)(nP:∀ i,(m.getD i []).length<=1000000):gJ 241 [pR m,.fn 121 []] (bP (qE m)):=by
 by_cases h1:m.length<1
 .exact aj call241 func241 (aa [tT 7 ((m.length:Int)<1) aD]<|rQ (bP false) (bP (qE m)) (by rw[wk (λq=>by have:=q.n1;omega)])) 
 .by_cases h2:8<m.length
  .exact aj call241 func241 (aa [tF 7 ((m.length:Int)<1) aD,tT 11 (8<(m.length:Int)) aD]<|rQ (bP false) (bP (qE m)) (by rw[wk (λq=>by have:=q.n8;omega)])) 
  .by_cases h3:(m.getD 0 []).length<1
   .exact aj call241 func241 (aa [tF 7 ((m.length:Int)<1) aD,tF 11 (8<(m.length:Int)) aD,iX 0 (m.length) aD,tT 18 (((m.getD 0 []).length:Int)<1) aD]<|rQ (bP false) (bP (qE m)) (by rw[wk (λq=>by have:=q.k1;omega)])) 
   .by_cases h4:8<(m.getD 0 []).length
    .exact aj call241 func241 (aa [tF 7 ((m.length:Int)<1) aD,tF 11 (8<(m.length:Int)) aD,iX 0 (m.length) aD,tF 18 (((m.getD 0 []).length:Int)<1) aD,iX 0 (m.length) aD,tT 25 (8<((m.getD 0 []).length:Int)) aD]<|rQ (bP false) (bP (qE m)) (by rw[wk (λq=>by have:=q.k8;omega)])) 
    .have hb:qE m = !((List.range m.length).any λi=>decide ((m.getD i []).length≠(m.getD 0 []).length)||((List.range ((m.getD i []).length)).any λj=>!(ki ((m.getD i []).getD j iR)))):=by
      by_cases hk:AU m
      .rw [Ad.2 hk];symm;rw[fh,c9];intro i hi;have hi:=bD.1 hi;have pd:decide ((m.getD i []).length≠(m.getD 0 []).length)=false:=bl (akc (hk.row i hi));rw[pd,fQ,gG,c9];intro j hj;rw[pM.2 (hk.ok i hi j (bD.1 hj))];decide
      .rw [wk hk];symm;rw[gH];apply bY;intro hc;rw[gG,c9]at hc;refine hk ⟨aD,aD,aD,aD,λi hi=>?_,λi hi j hj=>?_⟩
       .have:=hc i (bD.2 hi);simp only[cR,decide_not,dJ,not_or,gG,gH,cF]at this;exact this.1
       .have:=hc i (bD.2 hi);simp only[cR,decide_not,dJ,not_or,gG,gH,cF]at this;have:=c9.1 this.2 j (bD.2 hj);exact pM.1 (by simpa using this)
     exact aj call241 func241 (aa [tF 7 ((m.length:Int)<1) aD,tF 11 (8<(m.length:Int)) aD,iX 0 (m.length) aD,tF 18 (((m.getD 0 []).length:Int)<1) aD,iX 0 (m.length) aD,tF 25 (8<((m.getD 0 []).length:Int)) aD,.c (Hq true _ _ 292 _ (λi=>decide ((m.getD i []).length≠(m.getD 0 []).length)||((List.range ((m.getD i []).length)).any λj=>!(ki ((m.getD i []).getD j iR)))) (λi hi=>ada _ _ (λj=>g.at i j) (nP i) aD) aD:gJ 163 [pR m,.fn 292 [(.jN 1 λj_=>[pR m].getD j_ .any),(.jN 1 λj_=>[.fn 121 []].getD j_ .any)]] _)]<|rQ (bP (!((List.range m.length).any λi=>decide ((m.getD i []).length≠(m.getD 0 []).length)||((List.range ((m.getD i []).length)).any λj=>!(ki ((m.getD i []).getD j iR)))))) (bP (qE m)) (by rw[hb])) 
def adf(m:List (List RI))(g:vK m)(hl:m.length<=1000000)(nP:∀ i,(m.getD i []).length<=1000000):gJ 164 [pR m] (bP (qE m)):=
 aj call164 func164 (ae [.c (ade m g aD nP)]) 
def Vd(a b:Nat)(x:Nat):PS:=⟨12,true,[(0,.e (.v (.int .u64 (((na a b x).1:Nat):Int)))),(1,.e (.v (.int .u64 (((na a b x).2:Nat):Int))))],[]⟩
def af1(a b N:Nat)(ha:a<18446744073709551616)(hb:b<18446744073709551616)(iJ:∀ x,x<N->(na a b x).2≠0)(hN:(na a b N).2=0):gJ 214 [.v (.int .u64 (a:Int)),.v (.int .u64 (b:Int))] (.v (.int .u64 (Nat.gcd a b:Int))):=
 aj call214 func214 (aa [.s (Sp.iG (Vd a b) 0 N aD (λx hx jf=>by
    have hnz:=iJ x aD;have kJ:=Jr ha hb x;exact gX (aa [ag 6 ((((na a b x).2:Nat):Int) != 0) (BO (iJ x aD)),.a (aD:0<((((na a b x).2:Nat):Int):Int))]<|.e (ae [.o 0 (.int rfl:ai (.v (.int .u64 (((na a b x).2:Nat):Int))) (.v (.int .u64 (((na a b (x+1)).1:Nat):Int)))),.o 1 (.int rfl:ai (.v (.int .u64 ((((na a b x).1)%((na a b x).2):Nat):Int))) (.v (.int .u64 (((na a b (x+1)).2:Nat):Int))))])) aG)
  (λhx=>by
    exact gX (ae [ah 6 ((((na a b N).2:Nat):Int) != 0) (yJ hN)]) aG) aK:iF 1 f214 (Vd a b 0) (.exit 0) ⟨12,true,[(0,.e (.v (.int .u64 (((na a b N).1:Nat):Int))))],[]⟩) (ae [.o 0 (.int rfl:ai (.v (.int .u64 (a:Int))) (.v (.int .u64 (((na a b 0).1:Nat):Int)))),.o 1 (.int rfl:ai (.v (.int .u64 (b:Int))) (.v (.int .u64 (((na a b 0).2:Nat):Int))))])]<|rQ (.v (.int .u64 (((na a b N).1:Nat):Int))) (.v (.int .u64 (Nat.gcd a b:Int))) (by have h:=Pe a b N;rw[hN,akd]at h;rw[<-h])) 
def af2(a b:Nat)(ha:a<18446744073709551616)(hb:b<18446744073709551616):gJ 214 [.v (.int .u64 (a:Int)),.v (.int .u64 (b:Int))] (.v (.int .u64 (Nat.gcd a b:Int))):=by
 obtain⟨N,h1,h2⟩:=ZN a b;exact af1 a b N ha hb h1 h2
def Ha(n:Int)(h1:-9223372036854775807<=n)(h2:n<=9223372036854775807):gJ 215 [iP n] (.v (.int .u64 (n.natAbs:Int))):=
 aj call215 func215 (.w (n<0)
  (λk1=>ae [tB 4 (bk k1),gW (0-n) aD,.o 7 (.int (by rw[IntKind.wrap_u64];omega):ai (.v (.int .u64 (IntKind.u64.wrap (0-n)))) (.v (.int .u64 (n.natAbs:Int))))])
  (λk1=>ae [tB 4 (bl k1),.o 9 (.int (by rw[IntKind.wrap_u64];omega):ai (.v (.int .u64 (IntKind.u64.wrap n))) (.v (.int .u64 (n.natAbs:Int))))])) 
def af6(N:Int)(D:Nat)(C0:1<=D)(zA:D<=1073741824)(qd:-1073741824<=N)(rm:N<=1073741824)(hg:Nat.gcd N.natAbs D=1):gJ 132 [.agg [iP N,iP D]] (bP true):=
 aj call132 func132 (ae [tT 5 (1<=(D:Int)) aD,tT 9 ((D:Int)<=1073741824) aD,tT 14 ((-1073741824)<=N) aD,tT 19 (N<=1073741824) aD,.c (Ha N aD aD),.c (Ha (D:Int) aD aD),.c (af2 (N.natAbs:Nat) ((D:Int).natAbs:Nat) aD aD),.o 29 (.bool (by rw[dc,hg];rfl):ai (bP ((Nat.gcd ((N).natAbs) ((D:Int).natAbs):Int)==1)) (bP true))]) 
def ahS{x y:Nat}:E.le (.sl false 2 1 λi_ j_=>[.v (.int .u32 (x:Int)),.v (.int .u32 (y:Int))].getD (i_*1+j_) (.v (.bool false))) (gO [x,y]):=.sl λi j hi hj=>by
 obtain rfl:j=0:= aD ;rcases i with _|_|i
 .exact ⟨.refl _,rfl⟩
 .exact ⟨.refl _,rfl⟩
 .omega
def S7{n:Nat}(h:n<4294967296):iw [n,0]:=iw.cons h (iw.cons aF iw.nil)
def EC(n:Nat):val [n,0]=n:=by simp[val]
def UC(n:Nat)(h:n<4294967296):gJ 217 [.v (.int .u64 (n:Int))] (gO [n,0]):=
 aj call217 func217 (aa [.o 4 (.int (q9 _):ai (.v (.int .u32 (IntKind.u32.wrap (n:Int)))) (.v (.int .u32 ((n%4294967296:Nat):Int)))),.a (aD:0<=(32:Int)/\(32:Int)<=((64:Nat):Int)),.o 6 (.int (xJ _):ai (.v (.int .u64 ((n:Int)/2^32))) (.v (.int .u64 ((n/4294967296:Nat):Int)))),.o 7 (.int (q9 _):ai (.v (.int .u32 (IntKind.u32.wrap ((n/4294967296:Nat):Int)))) (.v (.int .u32 (((n/4294967296)%4294967296:Nat):Int))))]<|rR (gO [n,0]) (ahS.trans (.iD (by rw[bJ h,ca h])):E.le (.sl false 2 1 λi_ j_=>[.v (.int .u32 ((n%4294967296:Nat):Int)),.v (.int .u32 (((n/4294967296)%4294967296:Nat):Int))].getD (i_*1+j_) (.v (.bool false))) (gO [n,0]))) 
def SL(L:List Nat)(n:Int)(hk:iw L)(hl:L.length<=256)(h0:0<=n)(hn:n<=65536)(hf:(gK (val L*2^n.toNat)).length<=256):gJ 219 [gO L,iP n] (.hH [gO (gK (val L*2^n.toNat)),iP 0]):=by
 obtain⟨n,rfl⟩:=dm h0;rw[fD]at hf ⊢;exact G0 hk call219 (λA c w h _=>Li A c L n w h hl aD hf) λA c B w e w' h hB r=>Cf B w e w' hB r
def UE(N:Int)(D:Nat)(d:Dy)(hv:d.gQ)(d0:d.m≠0)(C0:1<=D)(zA:D<=1073741824)(qd:-1073741824<=N)(rm:N<=1073741824)(mA:N≠0):gJ 133 [.agg [iP N,iP D],gM d] (iP (pP N.natAbs D d)):=by
 have hT:=Ew d0;have yh:=hv.bits;have oo:=mZ d0;have hlen:(gK d.m).length<=256:=BJ aD;have ok1:iw [N.natAbs,0]:=S7 aD;have ok2:iw [(D:Int).natAbs,0]:=S7 aD;have Qz:(gK (val (gK d.m)*val [(D:Int).natAbs,0])).length<=256:=by
  rw[jR,EC,dc];exact acS hv zA
 exact aj call133 func133 (aa [af [gM d] (ua _ aE)]<|.w (32<(Dy.jj d))
  (λk1=>aa [tB 13 (bk k1)]<|rQ (iP (-1)) (iP (pP N.natAbs D d)) (by rw[af3 aD C0 d0 aD]))
  (λk1=>aa [tB 13 (bl k1)]<|.w ((Dy.jj d)<(-32))
   (λk2=>aa [tB 16 (bk k2)]<|rQ (iP 1) (iP (pP N.natAbs D d)) (by rw[af4 aD zA aD]))
   (λk2=>aa [tB 16 (bl k2),.c (Ha N aD aD),.c (UC (N.natAbs:Nat) aD),.c (Ha (D:Int) aD aD),.c (UC ((D:Int).natAbs:Nat) aD),af [gO (gK d.m),gO [(D:Int).natAbs,0]] (SJ _ _ (kO _) ok2 aD aJ Qz)]<|.w (0<=d.e)
    (λk3=>by
     have Ki:(gK (val (gK (val (gK d.m)*val [(D:Int).natAbs,0]))*2^(d.e).toNat)).length<=256:=by
      rw[jR,jR,EC,dc];exact(acT (d:=d) zA aD).resolve_right aD 
     exact aa [tB 33 (bk k3),af [gO (gK (val (gK d.m)*val [(D:Int).natAbs,0])),iP d.e] (SL _ _ (kO _) Qz aD aD Ki),af [gO [(N).natAbs,0],gO (gK (val (gK (val (gK d.m)*val [(D:Int).natAbs,0]))*2^(d.e).toNat))] (DW _ _ ok1 (kO _) aJ aD)]<|rQ (iP (kv (val [(N).natAbs,0]) (val (gK (val (gK (val (gK d.m)*val [(D:Int).natAbs,0]))*2^(d.e).toNat))))) (iP (pP N.natAbs D d)) (by simp only[jR,EC,dc];unfold pP;rw[show(-d.e).toNat=0 from aD,bV,bW]))
    (λk3=>by
     have Ki:(gK (val [(N).natAbs,0]*2^((0-d.e)).toNat)).length<=256:=by
      rw[EC,Int.zero_sub];exact acQ hv aD aD 
     exact aa [tB 33 (bl k3),gW (0-d.e) aD,af [gO [(N).natAbs,0],iP (0-d.e)] (SL _ _ ok1 aJ aD aD Ki),af [gO (gK (val [(N).natAbs,0]*2^((0-d.e)).toNat)),gO (gK (val (gK d.m)*val [(D:Int).natAbs,0]))] (DW _ _ (kO _) (kO _) aD aD)]<|rQ (iP (kv (val (gK (val [(N).natAbs,0]*2^((0-d.e)).toNat))) (val (gK (val (gK d.m)*val [(D:Int).natAbs,0]))))) (iP (pP N.natAbs D d)) (by simp only[jR,EC,dc,Int.zero_sub];unfold pP;rw[(aD:d.e.toNat=0),bV,bW]))))) 
def UF(a D:Nat)(d:Dy):-1<=pP a D d/\pP a D d<=1:=by
 unfold pP kv;split
 .omega
 .split<;>omega
def VM{d:Dy}(h:d.jc≠0):d.m≠0:=λq=>h (by unfold Dy.jc;rw[bj q])
def afZ(N:Int)(D:Nat)(d:Dy)(hv:d.gQ)(C0:1<=D)(zA:D<=1073741824)(qd:-1073741824<=N)(rm:N<=1073741824)(hg:Nat.gcd N.natAbs D=1):gJ 73 [.agg [iP N,iP D],gM d] (.hH [iP (mw N D d),iP 0]):=
 aj call73 func73 (aa [af [.agg [iP N,iP D]] (af6 _ _ aD aD aD aD hg),af [gM d] (rS _ aE)]<|.w (0<N)
  (λk1=>aa [tB 19 (bk k1),af [gM d] (tZ _ aE)]<|.w (1<(Dy.jc d))
   (λk2=>aa [tB 29 (bk k2)]<|rR (.hH [iP (mw N D d),iP 0]) (by
      exact .iD (by
       have e:mw N D d=(-1):=by
        unfold mw tD;simp[k1,k2]
       rw[e]):E.le (.hH [iP (-1),iP 0]) (.hH [iP (mw N D d),iP 0])))
   (λk2=>aa [tB 29 (bl k2)]<|.w ((Dy.jc d)<1)
    (λk3=>aa [tB 33 (bk k3)]<|rR (.hH [iP (mw N D d),iP 0]) (by
      exact .iD (by
       have e:mw N D d=1:=by
        unfold mw tD;simp[k1,k2,k3]
       rw[e]):E.le (.hH [iP 1,iP 0]) (.hH [iP (mw N D d),iP 0])))
    (λk3=>by
     have d0:d.m≠0:=VM aD;have hmr:=UF N.natAbs D d;exact aa [tB 33 (bl k3),ah 36 ((1:Int)==0) aF,.c (UE N D d hv d0 C0 zA qd rm aD),gW (1*(pP N.natAbs D d)) aD]<|rR (.hH [iP (mw N D d),iP 0]) (by
      exact .iD (by
       have e:mw N D d=(1*(pP N.natAbs D d)):=by
        unfold mw tD;simp[k1,k2,k3]
       rw[e]):E.le (.hH [iP (1*(pP N.natAbs D d)),iP 0]) (.hH [iP (mw N D d),iP 0])))))
  (λk1=>aa [tB 19 (bl k1)]<|.w (N<0)
   (λk2=>aa [tB 23 (bk k2),af [gM d] (tZ _ aE)]<|.w ((-1)<(Dy.jc d))
    (λk3=>aa [tB 29 (bk k3)]<|rR (.hH [iP (mw N D d),iP 0]) (by
      exact .iD (by
       have e:mw N D d=(-1):=by
        unfold mw tD;simp[k1,k2,k3]
       rw[e]):E.le (.hH [iP (-1),iP 0]) (.hH [iP (mw N D d),iP 0])))
    (λk3=>aa [tB 29 (bl k3)]<|.w ((Dy.jc d)<(-1))
     (λk4=>aa [tB 33 (bk k4)]<|rR (.hH [iP (mw N D d),iP 0]) (by
      exact .iD (by
       have e:mw N D d=1:=by
        unfold mw tD;simp[k1,k2,k3,k4]
       rw[e]):E.le (.hH [iP 1,iP 0]) (.hH [iP (mw N D d),iP 0])))
     (λk4=>by
      have d0:d.m≠0:=VM aD;have hmr:=UF N.natAbs D d;exact aa [tB 33 (bl k4),ah 36 (((-1):Int)==0) aF,.c (UE N D d hv d0 C0 zA qd rm aD),gW ((-1)*(pP N.natAbs D d)) aD]<|rR (.hH [iP (mw N D d),iP 0]) (by
      exact .iD (by
       have e:mw N D d=((-1)*(pP N.natAbs D d)):=by
        unfold mw tD;simp[k1,k2,k3,k4]
       rw[e]):E.le (.hH [iP ((-1)*(pP N.natAbs D d)),iP 0]) (.hH [iP (mw N D d),iP 0])))))
   (λk2=>aa [tB 23 (bl k2),af [gM d] (tZ _ aE)]<|.w (0<(Dy.jc d))
    (λk3=>aa [tB 29 (bk k3)]<|rR (.hH [iP (mw N D d),iP 0]) (by
      exact .iD (by
       have e:mw N D d=(-1):=by
        unfold mw tD;simp[k1,k2,k3]
       rw[e]):E.le (.hH [iP (-1),iP 0]) (.hH [iP (mw N D d),iP 0])))
    (λk3=>aa [tB 29 (bl k3)]<|.w ((Dy.jc d)<0)
     (λk4=>aa [tB 33 (bk k4)]<|rR (.hH [iP (mw N D d),iP 0]) (by
      exact .iD (by
       have e:mw N D d=1:=by
        unfold mw tD;simp[k1,k2,k3,k4]
       rw[e]):E.le (.hH [iP 1,iP 0]) (.hH [iP (mw N D d),iP 0])))
     (λk4=>aa [tB 33 (bl k4),ag 36 ((0:Int)==0) aF]<|rR (.hH [iP (mw N D d),iP 0]) (by
      exact .iD (by
       have e:mw N D d=0:=by
        unfold mw tD;simp[k1,k2,k3,k4]
       rw[e]):E.le (.hH [iP 0,iP 0]) (.hH [iP (mw N D d),iP 0]))))))) 
def Cd(s:Bool)(m:Nat)(e:Int)(hl:(gK m).length<=3000)(lh:-1000000<=e)(kF:e<=1000000):gJ 186 [bP s,gO (gK m),iP e] (gM (canon s m e)):=by
 refine⟨call186,λw B vs hK hB hr=>?_⟩;obtain⟨v1,vs,rfl,h1,hr⟩:=hr.lV;obtain⟨v2,vs,rfl,h2,hr⟩:=hr.lV;obtain⟨v3,vs,rfl,h3,hr⟩:=hr.lV;obtain rfl:=hr.ph;obtain rfl:=iz.kE h1;obtain rfl:=iz.kE h3;obtain⟨A,c,rfl,s1⟩:=uJ (kO m) h2;have:=Ek s A c (gK m) e w s1 hl lh kF;rw[jR]at this;exact this.mono λe w' h=>rd B w e w' hB h
def yV(a:Dy)(ha:a.gQ):gJ 96 [gM a] (bP true):=xE call96 (λA c w h _=>agC a A c w h ha) rv
def vC(a:Dy):gJ 53 [gM a] (iP a.jc):=xE call53 (λA c w h _=>agy a A c w h) rv
def qp(a:Dy):gJ 146 [gM a] (gM (iB a)):=
 xE call146 (λA c w h _=>by
  have:=agp a.neg A c (gK a.m) a.e w h (uK _);rw[jR]at this;exact this) rd
def Hg(a:Dy)(ha:tJ a):gJ 171 [gM a] (iP a.jj):=xE call171 (λA c w h _=>agB a A c w h ha) rv
def Hf(n:Nat)(hn:n<4294967296):gJ 112 [iP (n:Int)] (gM (canon false n 0)):=by
 refine⟨call112,λw B vs hK hB hr=>?_⟩;obtain⟨v1,vs,rfl,h1,hr⟩:=hr.lV;obtain rfl:=hr.ph;obtain rfl:=iz.kE h1;exact(agm n w hn).mono λe w' h=>rd B w e w' hB h
def U8(a b:Dy)(r:Bool)(hr:r=true↔a=b)(ha:(gK a.m).length<=100000)(hb:(gK b.m).length<=100000):gJ 83 [gM a,gM b] (bP r):=
 LI call83 (λA c A' c' w h k _=>agi a b A A' c c' w _ h k ha hb hr) rv
end Go.Proofs.YtkjkcjhacddojaaGreatDoor
namespace Go.Proofs.YtkjkcjhacddojaaGreatDoor.Fp
def R9(m k:Nat):kv (m/2^k*2^k) m=0↔m%2^k=0:=by
 have h1:=ck m (2^k);rw[bB]at h1;unfold kv;split
 .simp;omega
 .split
  .have:=dj m (2^k);omega
  .simp;omega
def Oh{neg up more:Bool}{m p q:Nat}{e:Int}(hq:ks m e more p (neg != up)=q)(h:q=0\/¬16384<(gU q:Int)+e+iO m e p):jK neg m e more p up=canon neg q (e+iO m e p)/\jD neg m e more p up=0:=by
 have ho:lr m e more p (neg != up)=false:=by
  unfold lr;rw[hq];rcases h with h|h
  .simp [h]
  .simp [h]
 unfold jK jD;rw[ho,hq];simp
def Oj{neg up more:Bool}{m p q:Nat}{e:Int}(hq:ks m e more p (neg != up)=q)(h0:q≠0)(h:16384<(gU q:Int)+e+iO m e p):
 ((neg != up)=true->jK neg m e more p up=ix/\jD neg m e more p up=9)/\((neg != up)=false->jK neg m e more p up=canon neg (2^p-1) (16384-p)/\jD neg m e more p up=0):=by
 have ho:lr m e more p (neg != up)=true:=by unfold lr;rw[hq];simp[h0,h]
 unfold jK jD;rw[ho];constructor
 .intro hn;rw[hn];exact⟨rfl,rfl⟩
 .intro hn;rw[hn];exact⟨rfl,rfl⟩
end Go.Proofs.YtkjkcjhacddojaaGreatDoor.Fp
namespace Go.Proofs.YtkjkcjhacddojaaGreatDoor
open Go.RowKit Fp Pu
def OO(s:Bool)(L:List Nat)(e:Int)(hk:iw L)(hl:L.length<=256)(lh:-1000000<=e)(kF:e<=1000000):gJ 255 [bP s,gO L,iP e] (gM (canon s (val L) e)):=by
 refine⟨call255,λw B vs hK hB hr=>?_⟩;obtain⟨v1,vs,rfl,h1,hr⟩:=hr.lV;obtain⟨v2,vs,rfl,h2,hr⟩:=hr.lV;obtain⟨v3,vs,rfl,h3,hr⟩:=hr.lV;obtain rfl:=hr.ph;obtain rfl:=iz.kE h1;obtain rfl:=iz.kE h3;obtain⟨A,c,rfl,s1⟩:=uJ hk h2;exact(Ft s A c L e w s1 aD (by have:=n9 L;unfold lI at this;omega) lh kF hK).mono λe w' h=>rd B w e w' hB h
def Wo(x y:Nat):E.le (.sl false 2 1 λi j=>[E.v (.int .u32 (x:Int)),.v (.int .u32 (y:Int))].getD (i*1+j) (.v (.bool false))) (gO [x,y]):=.sl λi j hi hj=>by
 obtain rfl:j=0:= aD ;obtain rfl|rfl:i=0\/i=1:= aD 
 .exact ⟨.refl _,rfl⟩
 .exact ⟨.refl _,rfl⟩
def tm(n:Nat):jI (n:Int)=canon false n 0:=by
 unfold jI lE;rw[bl aD,dc]
def ux(n:Nat)(h:n<4294967296):(jI (n:Int)).gQ:=by
 rw[tm];refine⟨rj _ _ _,?_⟩;by_cases h0:n=0
 .subst h0;exact .inl rfl
 .have:=zq (s:=false) (e:=0) h0;have hb:gU n<=32:=kB.2 h;refine .inr ⟨aD,aD,?_,aD⟩;obtain⟨h1,h2,h3,h4⟩:=this;have:=mZ h3;omega
def WA(x y:Nat):val [x,y]=x+4294967296*y:=by simp[val]
def agv(d:Dy)(k:Int)(hd:d.gQ)(kx:-32768<=k)(rp:k<=32768)(hr:pe (canon d.neg d.m (d.e+k))):gJ 111 [gM d,iP k] (.hH [gM (canon d.neg d.m (d.e+k)),iP 0]):=by
 refine⟨call111,λw B vs hK hB Di=>?_⟩;obtain⟨v1,vs,rfl,h1,Di⟩:=Di.lV;obtain⟨v2,vs,rfl,h2,Di⟩:=Di.lV;obtain rfl:=Di.ph;obtain⟨A,c,rfl,s1⟩:=Fu h1;obtain rfl:=iz.kE h2;have:=agw d.neg A c (gK d.m) d.e k w s1 hd.tY kx rp (by rw[jR];exact hr);rw[jR]at this;exact this.mono λe w' h=>UP B w e w' hB h
def NK{n:Int}{e:Int}:canon (jI n).neg (jI n).m ((jI n).e+e)=lE n e:=by
 unfold jI lE;by_cases h:n.natAbs=0
 .rw [h,A4,A4];show canon false 0 _=_;rw[A4]
 .have h1:=Fl h;rw[show canon (decide (n<0)) n.natAbs 0=⟨decide (n<0),n.natAbs/2^jY n.natAbs,0+(jY n.natAbs:Int)⟩by unfold canon;rw[bh h]];show canon (decide (n<0)) (n.natAbs/2^jY n.natAbs) (0+(jY n.natAbs:Int)+e)=_;rw[<-I0 _ _ _ (jY n.natAbs),h1];congr 1;omega
def zp{n e:Int}(h1:n.natAbs<4294967296)(h2:-1000<=e)(h3:e<=1000):(lE n e).gQ:=by
 refine⟨rj _ _ _,?_⟩;unfold lE;by_cases h0:n.natAbs=0
 .rw [h0,A4];exact .inl rfl
 .have:=zq (s:=decide (n<0)) (e:=e) h0;have hb:gU n.natAbs<=32:=kB.2 h1;obtain⟨h4,h5,h6,_⟩:=this;have:=mZ h6;exact .inr ⟨aD,aD,aD,aD⟩
def Gy{n:Int}(h1:n.natAbs<4294967296):(jI n).gQ:=zp h1 aF aF 
def agk(k:Nat)(w:World)(h0:0<k)(hn:k<4294967296):
 Calls prog 112 #[.int .i64 (-(k:Int))] w (sO w (canon true k 0)):=by
 have hm:=uR k aD;have vg:(k:Int)%4294967296=k:= aD ;rw[vg]at hm;have hd:(k:Int)/4294967296=0:= aD ;have iE:(-(k:Int))<0:= aD ;have C7:decide ((-(k:Int))<0)=true:=bk iE;have hu:IntKind.u64.wrap (-(k:Int))=18446744073709551616-k:=by rw[IntKind.wrap_u64];omega
 have hs:IntKind.u64.wrap (-(18446744073709551616-(k:Int)))=k:=by rw[IntKind.wrap_u64];omega
 have HC:=akw (λ(A:Option Addr) c w (h:Sl w A c [k,0])=>Ek true A c [k,0] 0 w h aJ aF aF);have hv:val [k,0]=k:= aJ ;rw[hv]at HC;clear hv;generalize canon true k 0=d at *
 generalize hN:(-(k:Int))=N at *
 go_enter func112,ntmps112;go_wp2_with fail;refine(HC.out _ _ _ (Sl.Ih _ _ aJ _ _ k 0 rfl rfl hn aF)).mono ?_;rintro r w1 ⟨A1,c1,rfl,rY,kJ⟩;have om:iu (w.alloc (.cells #[.bool false,.slice none 0 0,.int .i64 0] 39)) w1:=(iu.alloc _ _).trans kJ;have bx:=(ju.new w false none 0 0 0).ext om;have b0:=bx.c0;have b1:=bx.c1;have b2:=bx.c2;have f0:=bx.fr 0;have f1:=bx.fr 1;have f2:=bx.fr 2;go_wp2;exact rT rfl rfl rfl (bx.set _ _ _ _ _) rfl (bx.sM rY _ _ _ _ _) (ju.sc ((iu.alloc _ _).trans om) (bp _) _ _ _ _ _)
def Rs(k:Nat)(h0:0<k):jI (-(k:Int))=canon true k 0:=by
 unfold jI lE;rw[bk (show(-(k:Int))<0 by omega),fj,dc]
def agl(n:Int)(h:n.natAbs<4294967296):gJ 112 [iP n] (gM (jI n)):=by
 by_cases h0:0<=n
 .obtain ⟨k,rfl⟩:=dm h0;rw[tm];exact Hf k aD 
 .obtain ⟨k,rfl⟩:∃ k:Nat,n = -(k:Int):=⟨n.natAbs,aD⟩
  rw[Rs k aD];refine⟨call112,λw B vs hK hB hr=>?_⟩;obtain⟨v1,vs,rfl,h1,hr⟩:=hr.lV;obtain rfl:=hr.ph;obtain rfl:=iz.kE h1;exact(agk k w aD aD).mono λe w' h=>rd B w e w' hB h
def EO(w:World)(L:List Nat)(e:Ending)(w':World):Prop:=∃ A c,e = .returned (.slice A L.length c)/\Sl w' A c L/\iu w w'/\∀ b o s,A=some ⟨b,o,s⟩->w.heap.size<=b
def EO.l{w:World}{L:List Nat}{e:Ending}{w':World}(h:EO w L e w'):rN w L e w':=let⟨A,c,h1,h2,h3,_⟩:=h;⟨A,c,h1,h2,h3⟩
def Ow.VP{w:World}{base:Nat}{v:Value}{L:List Nat}(h:Ow w base v L):∃ A c,v = .slice A L.length c/\Sl w A c L/\∀ b o s,A=some ⟨b,o,s⟩->base<=b:=by
 obtain⟨A,c,h1,h2⟩:=h.sl;refine⟨A,c,h1,h2,λb o s e=>?_⟩;rcases h.row.2 with⟨h3,_⟩|⟨g,cap,cur,h3,hb,_⟩
 .rw [h1,e]at h3;injection h3 with h3;cases h3
 .rw [h1,e]at h3;injection h3 with h3;cases h3;exact hb
def ahV{B br:Nat->Prop}{w w':World}{A:Option Addr}{c:Nat}{L:List Nat}(hB:∀ b,B b->b<w.heap.size)(h:Sl w' A c L)(hf:∀ b o s,A=some ⟨b,o,s⟩->w.heap.size<=b):iz B br w' (gO L) (.slice A L.length c):=by
 refine .sl false L.length 1 _ A c (λi _=>.int .u32 (L.getD i 0:Int)) h.cap h.pg h.vw (λi j _ _=>⟨rfl,λh=>by cases h⟩) (λi j _ _=>rfl) (λi j hi hj=>?_) (λi j _ _=>.v _);obtain rfl:j=0:= aD ;obtain⟨b,o,e1,iE,lk⟩:=h.k0 hi;have e2:L.getD i 0=L[i]:=by simp[bn,hi]
 refine⟨b,o,e1,λmS=>?_,iE,by rw[bW,bK,lk,e2]⟩;have:=hB b mS;have:=hf _ _ _ e1;omega
abbrev uN(f:FuncId)(args:List E)(jQ:E):Prop:=ze prog Tb f args jQ
def aev{f:FuncId}{L M:List Nat}(hk:iw L)(hc:∀ (vs:Array Value) (w:World),(callFunc f vs).run prog w = .ok (.enter f vs) w)
 (H:∀ A c w,Sl w A c L->Tb w->Calls prog f #[.slice A L.length c] w (EO w M)):uN f [gO L] (gO M):=by
 refine⟨hc,λw B vs hK hB hr=>?_⟩;obtain⟨v1,vs,rfl,h1,hr⟩:=hr.lV;obtain rfl:=hr.ph;obtain⟨A,c,rfl,s1⟩:=uJ hk h1;refine(H A c w s1 hK).mono λe w' ⟨A,c,q1,q2,q3,q4⟩=>⟨_,q1,q3,ahV hB q2 q4⟩
def age(A:Option Addr)(c:Nat)(L:List Nat)(w:World)(hs:Sl w A c L)(hlen:L.length<=100000000):
 Calls prog 311 #[.slice A L.length c] w (EO w (gT L)):=by
 have hc:=hs.cap;have hl:=hs.pg;have fin:∀ k:Nat,k=(gT L).length->Hid (gT L=L.take k):=λk hk=>by rw[hk];exact Ey L
 go_enter func311,ntmps311;go_wp2;go_loop [3] (λi=>∃ k:Nat,k<=L.length/\i = .int .i64 k/\lI L=lI (L.take k)) (λi=>(intOf i).toNat)
 case atStart=>exact⟨L.length,bp _,rfl,aJ⟩
 case round=>
  obtain⟨k,hk,rfl,ht⟩:=hrel;have HT:=akw ht;clear ht;have lf:([]:List Nat).length+(L.take k).length<=10000000000:=by rw[cj];simp;omega
  have HK:=akw (show k=(L.take k).length by rw[cj];omega);have h1:=Ow.empty w w.heap.size (bp _);have h2:=(hs.take k).alloc (.cells #[] 150);have h3:=pf (w:=w) (bp _) (.cells #[] 150);by_cases h0:0<k
  .obtain ⟨ab,ao,rfl,hb,BF⟩:=hs.k0 (i:=k-1) aD ;have e1:((k:Int)-1).toNat=k-1:= aD ;have Z:=akw (Ib L (k-1) aD);have NZ:=akw (Ia L (k-1) aD);rw[eQ h0]at Z NZ;generalize L[k-1]=x at *
   by_cases hx:x=0
   .have Hx:=akw hx;clear hx;have hb:((x:Int)==0)=true:=by have:=Hx.out;simp;omega
    clear fin;go_wp2;go_round
    case rel=>exact⟨k-1,aD,by go_num,by rw[HT.out,Z.out Hx.out]⟩
    case measure=>simp[intOf];omega
   .have hb:((x:Int)==0)=false:= aR ;have F:=fin k (by show k=lI L;rw[HT.out,NZ.out hx]);clear fin;go_wp2_with (at_builtin;go_must (refine qb aI _ _ aI w.heap.size _ [] aI h1 _ _ _ (L.take k) aI HK.out h2 lf h3 ?_);intro v' w' nW hg oj)
    obtain⟨A',c',rfl,ns,Kh⟩:=nW.VP;go_ret;rw[F.out];exact⟨A',c',rfl,ns,(iu.alloc _ _).grown hg (pf (bp _) _) (λk hk=>by simp[Value.ownBlock]at hk;omega),Kh⟩
  .have:k=0:= aD ;subst this;have F:=fin 0 (by show 0=lI L;rw[HT.out];rfl);clear fin;go_wp2_with (at_builtin;go_must (refine qb aI _ _ aI w.heap.size _ [] aI h1 _ _ _ (L.take 0) aI HK.out h2 lf h3 ?_);intro v' w' nW hg oj)
   obtain⟨A',c',rfl,ns,Kh⟩:=nW.VP;go_ret;rw[F.out];exact⟨A',c',rfl,ns,(iu.alloc _ _).grown hg (pf (bp _) _) (λk hk=>by simp[Value.ownBlock]at hk;omega),Kh⟩
def wI(L:List Nat)(hk:iw L)(hl:L.length<=100000):uN 311 [gO L] (gO (gT L)):=
 aev hk call311 λA c w h _=>age A c L w h aD 
def TB(L M:List Nat)(N k:Nat)(x:Nat):PS:=⟨30,true,[(5,.e (iP ((N:Int)-1-(x:Int)))),(0,.e (gO L)),(1,.e (gO M))],[]⟩
def TD(L M:List Nat)(N k:Nat)(x:Nat):PS:=⟨30,true,[(5,.e (iP ((N:Int)-1-(x:Int)))),(0,.e (gO L)),(1,.e (gO M))],[]⟩
def TC(L M:List Nat)(N k:Nat)(x:Nat):PS:=⟨30,true,[(5,.e (iP ((N:Int)-1-(x:Int)))),(0,.e (gO L)),(1,.e (gO M))],[]⟩
def Ty(L:List Nat)(k:Nat)(x:Nat):PS:=⟨31,true,[(3,.e (iP ((L.length:Int)-1-(x:Int)))),(0,.e (gO L))],[]⟩
def Tx(L:List Nat)(k:Nat)(x:Nat):PS:=⟨31,true,[(3,.e (iP ((L.length:Int)-1-(x:Int)))),(0,.e (gO L))],[]⟩
def Tz(L:List Nat)(k:Nat)(y:Nat):PS:=⟨31,true,[(5,.e (.v (.int .u32 (((L.getD ((L.length:Int)-1-(k:Int)).toNat 0)/2^y:Nat):Int)))),(4,.e (iP ((32*((L.length:Int)-1-(k:Int)))+(y:Int))))],[]⟩
def qm(L:List Nat)(z:Int)(hk:iw L)(h0:0<=z):gJ 313 [gO L,iP z] (.v (.int .u64 (L.getD z.toNat 0:Int))):=by
 have h1:=hk.getD z.toNat
 exact aj call313 func313 (.w (z<(L.length:Int))
  (λk1=>ae [tB 8 (bk k1),iX z (L.length) aD,.o 13 (.int (oH _ aD):ai (.v (.int .u64 (IntKind.u64.wrap ((L.getD (z).toNat 0:Nat):Int)))) (.v (.int .u64 ((L.getD (z).toNat 0:Nat):Int))))])
  (λk1=>by
   have hz:L.getD z.toNat 0=0:=by rw[bn,bR aD];rfl
   exact aa [tB 8 (bl k1)]<|rQ (.v (.int .u64 0)) (.v (.int .u64 (L.getD z.toNat 0:Int))) (by rw[hz];rfl))) 
def xF(L:List Nat)(n:Nat)(hk:iw L):gJ 313 [gO L,iP (n:Int)] (.v (.int .u64 (L.getD n 0:Int))):=qm L n hk (Int.natCast_nonneg n)
def aeX(L M:List Nat)(N k:Nat)(hL:iw L)(hM:iw M)(hN:N=max L.length M.length)(hs:N<=1000000)(heq:∀ x,x<k->L.getD (N-1-x) 0=M.getD (N-1-x) 0)(hk:k=N):gJ 315 [gO L,gO M] (iP 0):=
 aj call315 func315 (ae [.o 10 (an (if(M.length:Int)>(L.length:Int)then(M.length:Int)else(L.length:Int)) N (by rw[hN];split<;>omega)),
  gW ((N:Int)-1) aD,.s (Sp.iG (TB L M N k) 0 k aD (λx hx jf=>by
    have hj:(((N:Int)-1-(x:Int))).toNat=N-1-x:= aD ;have he:=heq x aD;rw[<-hj]at he;exact gX (aa [tT 13 (0<=((N:Int)-1-(x:Int))) aD,af [gO L,iP ((N:Int)-1-(x:Int))] (qm _ _ aE aD),af [gO M,iP ((N:Int)-1-(x:Int))] (qm _ _ aE aD),tF 22 (((L.getD ((N:Int)-1-(x:Int)).toNat 0:Nat):Int)<((M.getD ((N:Int)-1-(x:Int)).toNat 0:Nat):Int)) aD,af [gO L,iP ((N:Int)-1-(x:Int))] (qm _ _ aE aD),af [gO M,iP ((N:Int)-1-(x:Int))] (qm _ _ aE aD),tF 29 (((M.getD ((N:Int)-1-(x:Int)).toNat 0:Nat):Int)<((L.getD ((N:Int)-1-(x:Int)).toNat 0:Nat):Int)) aD,
     gW (((N:Int)-1-(x:Int))-1) aD]<|.e (ae [.o 5 (an (((N:Int)-1-(x:Int))-1) ((N:Int)-1-((x+1:Nat):Int)) aS)])) aG)
  (λhx=>by
    exact gX (ae [tF 13 (0<=((N:Int)-1-(k:Int))) aD]) aG) aK:iF 2 f315 (TB L M N k 0) (.exit 0) ⟨30,true,[],[]⟩) (ae [.o 5 (an ((N:Int)-1) ((N:Int)-1-((0:Nat):Int)) aS)])]) 
def aeZ(L M:List Nat)(N k:Nat)(hL:iw L)(hM:iw M)(hN:N=max L.length M.length)(hs:N<=1000000)(heq:∀ x,x<k->L.getD (N-1-x) 0=M.getD (N-1-x) 0)(hk:k<N)(hd:L.getD (N-1-k) 0<M.getD (N-1-k) 0):gJ 315 [gO L,gO M] (iP (-1)):=
 aj call315 func315 (aa [.o 10 (an (if(M.length:Int)>(L.length:Int)then(M.length:Int)else(L.length:Int)) N (by rw[hN];split<;>omega)),
  gW ((N:Int)-1) aD,.s (Sp.iG (TD L M N k) 0 k aD (λx hx jf=>by
    have hj:(((N:Int)-1-(x:Int))).toNat=N-1-x:= aD ;have he:=heq x aD;rw[<-hj]at he;exact gX (aa [tT 13 (0<=((N:Int)-1-(x:Int))) aD,af [gO L,iP ((N:Int)-1-(x:Int))] (qm _ _ aE aD),af [gO M,iP ((N:Int)-1-(x:Int))] (qm _ _ aE aD),tF 22 (((L.getD ((N:Int)-1-(x:Int)).toNat 0:Nat):Int)<((M.getD ((N:Int)-1-(x:Int)).toNat 0:Nat):Int)) aD,af [gO L,iP ((N:Int)-1-(x:Int))] (qm _ _ aE aD),af [gO M,iP ((N:Int)-1-(x:Int))] (qm _ _ aE aD),tF 29 (((M.getD ((N:Int)-1-(x:Int)).toNat 0:Nat):Int)<((L.getD ((N:Int)-1-(x:Int)).toNat 0:Nat):Int)) aD,
     gW (((N:Int)-1-(x:Int))-1) aD]<|.e (ae [.o 5 (an (((N:Int)-1-(x:Int))-1) ((N:Int)-1-((x+1:Nat):Int)) aS)])) aG)
  (λhx=>by
    have hj:(((N:Int)-1-(k:Int))).toNat=N-1-k:= aD ;rw[<-hj]at hd;exact gX (ae [tT 13 (0<=((N:Int)-1-(k:Int))) aD,af [gO L,iP ((N:Int)-1-(k:Int))] (qm _ _ aE aD),af [gO M,iP ((N:Int)-1-(k:Int))] (qm _ _ aE aD),tT 22 (((L.getD ((N:Int)-1-(k:Int)).toNat 0:Nat):Int)<((M.getD ((N:Int)-1-(k:Int)).toNat 0:Nat):Int)) aD]) aG) aK:iF 2 f315 (TD L M N k 0) .ret ⟨30,true,[(4,.e (iP (-1)))],[]⟩) (ae [.o 5 (an ((N:Int)-1) ((N:Int)-1-((0:Nat):Int)) aS)])]<|rR (iP (-1)) (.iD rfl:E.le (iP (-1)) (iP (-1)))) 
def aeY(L M:List Nat)(N k:Nat)(hL:iw L)(hM:iw M)(hN:N=max L.length M.length)(hs:N<=1000000)(heq:∀ x,x<k->L.getD (N-1-x) 0=M.getD (N-1-x) 0)(hk:k<N)(hd:M.getD (N-1-k) 0<L.getD (N-1-k) 0):gJ 315 [gO L,gO M] (iP 1):=
 aj call315 func315 (ae [.o 10 (an (if(M.length:Int)>(L.length:Int)then(M.length:Int)else(L.length:Int)) N (by rw[hN];split<;>omega)),
  gW ((N:Int)-1) aD,.s (Sp.iG (TC L M N k) 0 k aD (λx hx jf=>by
    have hj:(((N:Int)-1-(x:Int))).toNat=N-1-x:= aD ;have he:=heq x aD;rw[<-hj]at he;exact gX (aa [tT 13 (0<=((N:Int)-1-(x:Int))) aD,af [gO L,iP ((N:Int)-1-(x:Int))] (qm _ _ aE aD),af [gO M,iP ((N:Int)-1-(x:Int))] (qm _ _ aE aD),tF 22 (((L.getD ((N:Int)-1-(x:Int)).toNat 0:Nat):Int)<((M.getD ((N:Int)-1-(x:Int)).toNat 0:Nat):Int)) aD,af [gO L,iP ((N:Int)-1-(x:Int))] (qm _ _ aE aD),af [gO M,iP ((N:Int)-1-(x:Int))] (qm _ _ aE aD),tF 29 (((M.getD ((N:Int)-1-(x:Int)).toNat 0:Nat):Int)<((L.getD ((N:Int)-1-(x:Int)).toNat 0:Nat):Int)) aD,
     gW (((N:Int)-1-(x:Int))-1) aD]<|.e (ae [.o 5 (an (((N:Int)-1-(x:Int))-1) ((N:Int)-1-((x+1:Nat):Int)) aS)])) aG)
  (λhx=>by
    have hj:(((N:Int)-1-(k:Int))).toNat=N-1-k:= aD ;rw[<-hj]at hd;exact gX (ae [tT 13 (0<=((N:Int)-1-(k:Int))) aD,af [gO L,iP ((N:Int)-1-(k:Int))] (qm _ _ aE aD),af [gO M,iP ((N:Int)-1-(k:Int))] (qm _ _ aE aD),tF 22 (((L.getD ((N:Int)-1-(k:Int)).toNat 0:Nat):Int)<((M.getD ((N:Int)-1-(k:Int)).toNat 0:Nat):Int)) aD,af [gO L,iP ((N:Int)-1-(k:Int))] (qm _ _ aE aD),af [gO M,iP ((N:Int)-1-(k:Int))] (qm _ _ aE aD),tT 29 (((M.getD ((N:Int)-1-(k:Int)).toNat 0:Nat):Int)<((L.getD ((N:Int)-1-(k:Int)).toNat 0:Nat):Int)) aD]) aG) aK:iF 2 f315 (TC L M N k 0) .ret ⟨30,true,[(4,.e (iP 1))],[]⟩) (ae [.o 5 (an ((N:Int)-1) ((N:Int)-1-((0:Nat):Int)) aS)])]) 
def TE(L M:List Nat)(hL:iw L)(hM:iw M)(h1:L.length<=1000000)(h2:M.length<=1000000):gJ 315 [gO L,gO M] (iP (kv (val L) (val M))):=by
 obtain⟨N,hN⟩:∃ N,N=max L.length M.length:=⟨_,rfl⟩
 have vL:val L<4294967296^N:=bN (lW hL) (bG aF aD);have vM:val M<4294967296^N:=bN (lW hM) (bG aF aD);by_cases h:∃ x,x<N/\(decide (L.getD (N-1-x) 0≠M.getD (N-1-x) 0))=true
 .obtain ⟨k,k1,k2,k3⟩:=pX h;have heq:∀ x,x<k->L.getD (N-1-x) 0=M.getD (N-1-x) 0:=λx hx=>by simpa using k3 x hx
  have kV:L.getD (N-1-k) 0≠M.getD (N-1-k) 0:=by simpa using k2
  have zU:∀ i,N-1-k<i->iq (val L) i=iq (val M) i:=λi hi=>by
   by_cases hiN:i<N
   .have:=heq (N-1-i) aD ;rw[(aD:N-1-(N-1-i)=i),oQ hL,oQ hM]at this;exact this
   .rw [tX vL aD,tX vM aD]
  rw[oQ hL,oQ hM]at kV;rcases Nat.lt_or_gt_of_ne kV with hd|hd
  .have:=Sa vL vM zU hd;refine(aeZ L M N k hL hM hN aD heq k1 (by rw[oQ hL,oQ hM];exact hd)).jQ (.iD ?_);unfold kv;rw[bj this]
  .have:=Sa vM vL (λi hi=>(zU i hi).symm) hd;refine(aeY L M N k hL hM hN aD heq k1 (by rw[oQ hL,oQ hM];exact hd)).jQ (.iD ?_);unfold kv;rw[bh aD,bj this]
 .have heq:∀ x,x<N->L.getD (N-1-x) 0=M.getD (N-1-x) 0:=λx hx=>by
   apply bY;intro q;exact h ⟨x,hx,by simpa using q⟩
  have zU:∀ i,iq (val L) i=iq (val M) i:=λi=>by
   by_cases hiN:i<N
   .have:=heq (N-1-i) aD ;rw[(aD:N-1-(N-1-i)=i),oQ hL,oQ hM]at this;exact this
   .rw [tX vL aD,tX vM aD]
  refine(aeX L M N N hL hM hN aD heq rfl).jQ (.iD ?_);rw[Pd vL vM λi _=>zU i];unfold kv;rw[bh (eu _),bh (eu _)]
def ae2(L M:List Nat)(hL:iw L)(hM:iw M)(h1:L.length<=1000000)(h2:M.length<=1000000):gJ 312 [gO L,gO M] (bP (decide (kv (val L) (val M)<0))):=
 aj call312 func312 (ae [af [gO L,gO M] (TE _ _ aE aE aD aD)]) 
def aeV(L:List Nat)(k:Nat)(hL:iw L)(hs:L.length<=1000000)(hz:∀ x,x<k->L.getD (L.length-1-x) 0=0)(hk:k=L.length):gJ 276 [gO L] (iP 0):=
 aj call276 func276 (ae [gW ((L.length:Int)-1) aD,.s (Sp.iG (Ty L k) 0 k aD (λx hx jf=>by
    have hj:(((L.length:Int)-1-(x:Int))).toNat=L.length-1-x:= aD ;have he:=hz x aD;rw[<-hj]at he;exact gX (aa [tT 10 (0<=((L.length:Int)-1-(x:Int))) aD,iX ((L.length:Int)-1-(x:Int)) (L.length) aD,ah 17 (((L.getD ((L.length:Int)-1-(x:Int)).toNat 0:Nat):Int) != 0) (yJ he),gW (((L.length:Int)-1-(x:Int))-1) aD]<|.e (ae [.o 3 (an (((L.length:Int)-1-(x:Int))-1) ((L.length:Int)-1-((x+1:Nat):Int)) aS)])) aG)
  (λhx=>by
    exact gX (ae [tF 10 (0<=((L.length:Int)-1-(k:Int))) aD]) aG) aK:iF 2 f276 (Ty L k 0) (.exit 0) ⟨31,true,[],[]⟩) (ae [.o 3 (an ((L.length:Int)-1) ((L.length:Int)-1-((0:Nat):Int)) aS)])]) 
def aeU(L:List Nat)(k:Nat)(hL:iw L)(hs:L.length<=1000000)(hz:∀ x,x<k->L.getD (L.length-1-x) 0=0)(hk:k<L.length)(hd:L.getD (L.length-1-k) 0≠0):gJ 276 [gO L] (iP ((32*((L.length:Int)-1-(k:Int)))+(gU (L.getD ((L.length:Int)-1-(k:Int)).toNat 0):Int))):=
 aj call276 func276 (ae [gW ((L.length:Int)-1) aD,.s (Sp.iG (Tx L k) 0 k aD (λx hx jf=>by
    have hj:(((L.length:Int)-1-(x:Int))).toNat=L.length-1-x:= aD ;have he:=hz x aD;rw[<-hj]at he;exact gX (aa [tT 10 (0<=((L.length:Int)-1-(x:Int))) aD,iX ((L.length:Int)-1-(x:Int)) (L.length) aD,ah 17 (((L.getD ((L.length:Int)-1-(x:Int)).toNat 0:Nat):Int) != 0) (yJ he),gW (((L.length:Int)-1-(x:Int))-1) aD]<|.e (ae [.o 3 (an (((L.length:Int)-1-(x:Int))-1) ((L.length:Int)-1-((x+1:Nat):Int)) aS)])) aG)
  (λhx=>by
    have hj:(((L.length:Int)-1-(k:Int))).toNat=L.length-1-k:= aD ;have iE:=hL.getD ((L.length:Int)-1-(k:Int)).toNat
    have mB:gU (L.getD ((L.length:Int)-1-(k:Int)).toNat 0)<=32:=kB.2 iE;rw[<-hj]at hd;exact gX (ae [tT 10 (0<=((L.length:Int)-1-(k:Int))) aD,iX ((L.length:Int)-1-(k:Int)) (L.length) aD,ag 17 (((L.getD ((L.length:Int)-1-(k:Int)).toNat 0:Nat):Int) != 0) (BO hd),gW (32*((L.length:Int)-1-(k:Int))) aD,
    iX ((L.length:Int)-1-(k:Int)) (L.length) aD,.s (Sp.iG (Tz L k) 0 (gU (L.getD ((L.length:Int)-1-(k:Int)).toNat 0)) aD (λy hy qf=>by
    have hp:0<(L.getD ((L.length:Int)-1-(k:Int)).toNat 0)/2^y:=fS (wh.1 aD) (bu aF);exact gX (aa [tT 25 (0<(((L.getD ((L.length:Int)-1-(k:Int)).toNat 0)/2^y:Nat):Int)) aD,gW (((32*((L.length:Int)-1-(k:Int)))+(y:Int))+1) aD,.a (aD:0<=(1:Int)/\(1:Int)<=((32:Nat):Int)),.o 27 (.int (xK _ _):ai (.v (.int .u32 ((((L.getD ((L.length:Int)-1-(k:Int)).toNat 0)/2^y:Nat):Int)/2^1))) (.v (.int .u32 ((((L.getD ((L.length:Int)-1-(k:Int)).toNat 0)/2^y)/2^1:Nat):Int))))]<|.e (ae [.o 5 (.int (by rw[cJ,<-bE]):ai (.v (.int .u32 ((((L.getD ((L.length:Int)-1-(k:Int)).toNat 0)/2^y)/2^1:Nat):Int))) (.v (.int .u32 (((L.getD ((L.length:Int)-1-(k:Int)).toNat 0)/2^(y+1):Nat):Int)))),.o 4 (an (((32*((L.length:Int)-1-(k:Int)))+(y:Int))+1) ((32*((L.length:Int)-1-(k:Int)))+((y+1:Nat):Int)) aS)])) aG)
  (λhy=>by
    have hp:(L.getD ((L.length:Int)-1-(k:Int)).toNat 0)/2^(gU (L.getD ((L.length:Int)-1-(k:Int)).toNat 0))=0:=ca (px _);exact gX (ae [tF 25 (0<(((L.getD ((L.length:Int)-1-(k:Int)).toNat 0)/2^(gU (L.getD ((L.length:Int)-1-(k:Int)).toNat 0)):Nat):Int)) aD]) aG) aK:iF 7 f276 (Tz L k 0) (.exit 2) ⟨31,true,[(4,.e (iP ((32*((L.length:Int)-1-(k:Int)))+(gU (L.getD ((L.length:Int)-1-(k:Int)).toNat 0):Int))))],[]⟩) (ae [.o 5 (.int (by rw[bV,dR]):ai (.v (.int .u32 ((L.getD ((L.length:Int)-1-(k:Int)).toNat 0:Nat):Int))) (.v (.int .u32 (((L.getD ((L.length:Int)-1-(k:Int)).toNat 0)/2^0:Nat):Int)))),.o 4 (an (32*((L.length:Int)-1-(k:Int))) ((32*((L.length:Int)-1-(k:Int)))+((0:Nat):Int)) aS)])]) aG) aK:iF 2 f276 (Tx L k 0) .ret ⟨31,true,[(2,.e (iP ((32*((L.length:Int)-1-(k:Int)))+(gU (L.getD ((L.length:Int)-1-(k:Int)).toNat 0):Int))))],[]⟩) (ae [.o 3 (an ((L.length:Int)-1) ((L.length:Int)-1-((0:Nat):Int)) aS)])]) 
def TA(L:List Nat)(hL:iw L)(h1:L.length<=1000000):gJ 276 [gO L] (iP (gU (val L))):=by
 by_cases h:∃ x,x<L.length/\(decide (L.getD (L.length-1-x) 0≠0))=true
 .obtain ⟨k,k1,k2,k3⟩:=pX h;have hz:∀ x,x<k->L.getD (L.length-1-x) 0=0:=λx hx=>by simpa using k3 x hx
  have kV:L.getD (L.length-1-k) 0≠0:=by simpa using k2
  refine(aeU L k hL h1 hz k1 kV).jQ (.iD ?_);have hj:(((L.length:Int)-1-(k:Int))).toNat=L.length-1-k:= aD ;rw[hj];have hb:=NA (n:=val L) (k:=L.length-1-k) (Ir hL λi hi=>by
   by_cases sX:i<L.length
   .have:=hz (L.length-1-i) aD ;rwa[(aD:L.length-1-(L.length-1-i)=i)]at this
   .rw [bn,bR aD];rfl) (by rw[<-oQ hL];exact kV)
  rw[hb,<-oQ hL];exact congrArg iP aD 
 .have hz:∀ x,x<L.length->L.getD (L.length-1-x) 0=0:=λx hx=>by
   apply bY;intro q;exact h ⟨x,hx,by simpa using q⟩
  refine(aeV L L.length hL h1 hz rfl).jQ (.iD ?_);have:val L<4294967296^0:=Ir hL λi _=>by
   by_cases sX:i<L.length
   .have:=hz (L.length-1-i) aD ;rwa[(aD:L.length-1-(L.length-1-i)=i)]at this
   .rw [bn,bR aD];rfl
  have h0:val L=0:=by rw[bV]at this;omega
  rw[h0];rfl
def Tw(L M:List Nat)(N:Nat)(x:Nat):PS:=⟨41,false,[(5,.own 5),(7,.e (iP x)),(6,.e (.v (.int .u64 (jt (val L) (val M) x:Int)))),(0,.e (gO L)),(1,.e (gO M))],[(5,.row false 150 x 1 (iW (iI (val L+val M) x)))]⟩
def TM(L M:List Nat)(x:Nat):PS:=⟨36,false,[(5,.own 5),(7,.e (iP x)),(6,.e (.v (.int .u64 (jt (val L-val M) (val M) x:Int)))),(0,.e (gO L)),(1,.e (gO M))],[(5,.row false 150 x 1 (iW (iI (val L-val M) x)))]⟩
def TK(L:List Nat)(n:Nat)(x:Nat):PS:=⟨36,false,[(5,.own 5),(6,.e (iP (((n/32)+x:Nat):Int))),(0,.e (gO L)),(1,.e (iP n))],[(5,.row false 150 x 1 (iW (iI (val L/2^n) x)))]⟩
def TL(L:List Nat)(n:Nat)(x:Nat):PS:=⟨36,false,[(5,.own 5),(6,.e (iP (((n/32)+x:Nat):Int))),(0,.e (gO L)),(1,.e (iP n))],[(5,.row false 150 x 1 (iW (iI 0 x)))]⟩
def aeT(L M:List Nat)(hL:iw L)(hM:iw M)(h1:L.length<=10000)(h2:M.length<=10000):gJ 316 [gO L,gO M] (gO (gK (val L+val M))):=by
 obtain⟨N,hN⟩:∃ N,N=max L.length M.length:=⟨_,rfl⟩
 have vL:val L<4294967296^N:=bN (lW hL) (bG aF aD);have vM:val M<4294967296^N:=bN (lW hM) (bG aF aD);have hcN:=si (val L) (val M) N;have hce:jt (val L) (val M) (N+jt (val L) (val M) N)=0:=by
  rcases dO 0 (jt (val L) (val M) N)with h|h
  .rw [(aD:jt (val L) (val M) N=1)];exact X7 vL vM
  .have h0:jt (val L) (val M) N=0:= aD ;rw[h0,bK];exact h0
 have nO:val L+val M<4294967296^(N+jt (val L) (val M) N):=by
  have h:=IP (val L) (val M) (N+jt (val L) (val M) N);have g1:val L<4294967296^(N+jt (val L) (val M) N):=bN vL (bG aF aD);have g2:val M<4294967296^(N+jt (val L) (val M) N):=bN vM (bG aF aD);rw[hce,ca g1,ca g2]at h;exact Nat.lt_of_div_eq_zero (pw _) h
 exact ak call316 func316 (aa [.y 5 5 false 150 1 (iW (iI (val L+val M) 0)),.s (Sp.iG (Tw L M N) 0 (N+(jt (val L) (val M) N)) aD (λx hx jf=>by
    have ha:=wQ (val L) (val M) x;rw[<-oQ hL,<-oQ hM]at ha;have b1:=hL.getD x;have b2:=hM.getD x;have b3:=si (val L) (val M) x;have b4:=oP (val L+val M) x;have hz:((((L.getD x 0+M.getD x 0)+(jt (val L) (val M) x))%4294967296%4294967296:Nat):Int)=(iq (val L+val M) x:Int):= aD ;have hq:((L.getD x 0+M.getD x 0)+(jt (val L) (val M) x))/4294967296=jt (val L) (val M) (x+1):= aD ;by_cases hx:x<N
    .exact gX (aa [.o 14 (an (if(M.length:Int)>(L.length:Int)then(M.length:Int)else(L.length:Int)) N (by rw[hN];split<;>omega)),tT 15 ((x:Int)<N) aD,af [gO L,iP x] (xF _ _ aE),af [gO M,iP x] (xF _ _ aE),
      oF ((L.getD x 0:Int)+(M.getD x 0:Int)) aD,oF ((((L.getD x 0)+(M.getD x 0):Nat):Int)+(jt (val L) (val M) x:Int)) aD,.o 33 (.int (Cw _ aD):ai (.v (.int .u64 (bits .and .u64 ((((L.getD x 0)+(M.getD x 0))+(jt (val L) (val M) x):Nat):Int) 4294967295))) (.v (.int .u64 (((((L.getD x 0)+(M.getD x 0))+(jt (val L) (val M) x))%4294967296:Nat):Int)))),.o 34 (.int (q9 _):ai (.v (.int .u32 (IntKind.u32.wrap (((((L.getD x 0)+(M.getD x 0))+(jt (val L) (val M) x))%4294967296:Nat):Int)))) (.v (.int .u32 ((((((L.getD x 0)+(M.getD x 0))+(jt (val L) (val M) x))%4294967296)%4294967296:Nat):Int)))),.a (aD:(x+1)*4<=140737488355328),.a (aD:0<=(32:Int)/\(32:Int)<=((64:Nat):Int)),.o 38 (.int (xJ _):ai (.v (.int .u64 (((((L.getD x 0)+(M.getD x 0))+(jt (val L) (val M) x):Nat):Int)/2^32))) (.v (.int .u64 (((((L.getD x 0)+(M.getD x 0))+(jt (val L) (val M) x))/4294967296:Nat):Int)))),
      gW ((x:Int)+1) aD]<|.e (ae [.o 6 (.int (by rw[hq]):ai (.v (.int .u64 (((((L.getD x 0)+(M.getD x 0))+(jt (val L) (val M) x))/4294967296:Nat):Int))) (.v (.int .u64 (jt (val L) (val M) (x+1):Int)))),.b 5 (yF rfl hz:Bx.le (.row false 150 (x+1) 1 (λi_ j_=>if i_<x then(iW (iI (val L+val M) x)) i_ j_ else(E.ke (.sl false 1 1 λi_ j_=>[.v (.int .u32 ((((((L.getD x 0)+(M.getD x 0))+(jt (val L) (val M) x))%4294967296)%4294967296:Nat):Int))].getD (i_*1+j_) (.v (.bool false)))) (i_-x) j_)) (.row false 150 (x+1) 1 (iW (iI (val L+val M) (x+1)))))])) aG 
    .have hcx:jt (val L) (val M) x=jt (val L) (val M) N:=by rw[(aD:x=N)]
     exact gX (aa [.o 14 (an (if(M.length:Int)>(L.length:Int)then(M.length:Int)else(L.length:Int)) N (by rw[hN];split<;>omega)),tF 15 ((x:Int)<N) aD,tT 18 (0<(jt (val L) (val M) x:Int)) aD,af [gO L,iP x] (xF _ _ aE),af [gO M,iP x] (xF _ _ aE),oF ((L.getD x 0:Int)+(M.getD x 0:Int)) aD,
      oF ((((L.getD x 0)+(M.getD x 0):Nat):Int)+(jt (val L) (val M) x:Int)) aD,.o 33 (.int (Cw _ aD):ai (.v (.int .u64 (bits .and .u64 ((((L.getD x 0)+(M.getD x 0))+(jt (val L) (val M) x):Nat):Int) 4294967295))) (.v (.int .u64 (((((L.getD x 0)+(M.getD x 0))+(jt (val L) (val M) x))%4294967296:Nat):Int)))),.o 34 (.int (q9 _):ai (.v (.int .u32 (IntKind.u32.wrap (((((L.getD x 0)+(M.getD x 0))+(jt (val L) (val M) x))%4294967296:Nat):Int)))) (.v (.int .u32 ((((((L.getD x 0)+(M.getD x 0))+(jt (val L) (val M) x))%4294967296)%4294967296:Nat):Int)))),.a (aD:(x+1)*4<=140737488355328),.a (aD:0<=(32:Int)/\(32:Int)<=((64:Nat):Int)),.o 38 (.int (xJ _):ai (.v (.int .u64 (((((L.getD x 0)+(M.getD x 0))+(jt (val L) (val M) x):Nat):Int)/2^32))) (.v (.int .u64 (((((L.getD x 0)+(M.getD x 0))+(jt (val L) (val M) x))/4294967296:Nat):Int)))),
      gW ((x:Int)+1) aD]<|.e (ae [.o 6 (.int (by rw[hq]):ai (.v (.int .u64 (((((L.getD x 0)+(M.getD x 0))+(jt (val L) (val M) x))/4294967296:Nat):Int))) (.v (.int .u64 (jt (val L) (val M) (x+1):Int)))),.b 5 (yF rfl hz:Bx.le (.row false 150 (x+1) 1 (λi_ j_=>if i_<x then(iW (iI (val L+val M) x)) i_ j_ else(E.ke (.sl false 1 1 λi_ j_=>[.v (.int .u32 ((((((L.getD x 0)+(M.getD x 0))+(jt (val L) (val M) x))%4294967296)%4294967296:Nat):Int))].getD (i_*1+j_) (.v (.bool false)))) (i_-x) j_)) (.row false 150 (x+1) 1 (iW (iI (val L+val M) (x+1)))))])) aG)
  (λhx=>by
    exact gX (aa [.o 14 (an (if(M.length:Int)>(L.length:Int)then(M.length:Int)else(L.length:Int)) N (by rw[hN];split<;>omega)),tF 15 (((N+(jt (val L) (val M) N):Nat):Int)<N) aD,tF 18 (0<(jt (val L) (val M) (N+(jt (val L) (val M) N)):Int)) aD,.z 5]<|.e (ae [.o 5 (.e (xL (mu _ _).symm):ai (.sl false (N+(jt (val L) (val M) N)) 1 (iW (iI (val L+val M) (N+(jt (val L) (val M) N))))) (gO (iI (val L+val M) (N+(jt (val L) (val M) N)))))])) aG) aK:iF 4 f316 (Tw L M N 0) (.exit 0) ⟨41,false,[(5,.e (gO (iI (val L+val M) (N+(jt (val L) (val M) N)))))],[]⟩) (ae [.o 6 (.int (by rw[Fa];rfl):ai (.v (.int .u64 0)) (.v (.int .u64 (jt (val L) (val M) 0:Int))))]),.cf (wI _ (sn _ _) aU:uN 311 [gO (iI (val L+val M) (N+(jt (val L) (val M) N)))] _)]<|rQ (gO (gT (iI (val L+val M) (N+(jt (val L) (val M) N))))) (gO (gK (val L+val M))) (by rw[AO nO])) 
def ae7(L M:List Nat)(hL:iw L)(hM:iw M)(h1:L.length<=10000)(hle:val M<=val L):gJ 359 [gO L,gO M] (gO (gK (val L-val M))):=by
 have nO:val L-val M<4294967296^L.length:=cC (dP _ _) (lW hL);exact ak call359 func359 (aa [.y 5 5 false 150 1 (iW (iI (val L-val M) 0)),.s (Sp.iG (TM L M) 0 L.length aD (λx hx jf=>by
    have ha:=V0 hle x;rw[<-oQ hL,<-oQ hM]at ha;have b1:=hL.getD x;have b2:=hM.getD x;have b3:=si (val L-val M) (val M) x;have b5:=si (val L-val M) (val M) (x+1);have b4:=oP (val L-val M) x;have hz:(((((L.getD x 0+4294967296)-M.getD x 0)-(jt (val L-val M) (val M) x))%4294967296%4294967296:Nat):Int)=(iq (val L-val M) x:Int):= aD ;have hq:1-(((L.getD x 0+4294967296)-M.getD x 0)-(jt (val L-val M) (val M) x))/4294967296=jt (val L-val M) (val M) (x+1):= aD ;exact gX (aa [tT 12 ((x:Int)<L.length) aD,af [gO L,iP x] (xF _ _ aE),oF ((L.getD x 0:Int)+4294967296) aD,af [gO M,iP x] (xF _ _ aE),oF ((((L.getD x 0)+4294967296:Nat):Int)-(M.getD x 0:Int)) aD,.o 22 (.int aD:ai (.v (.int .u64 ((((L.getD x 0)+4294967296:Nat):Int)-(M.getD x 0:Int)))) (.v (.int .u64 (((L.getD x 0+4294967296)-M.getD x 0:Nat):Int)))),
     oF ((((L.getD x 0+4294967296)-M.getD x 0:Nat):Int)-(jt (val L-val M) (val M) x:Int)) aD,.o 24 (.int aD:ai (.v (.int .u64 ((((L.getD x 0+4294967296)-M.getD x 0:Nat):Int)-(jt (val L-val M) (val M) x:Int)))) (.v (.int .u64 ((((L.getD x 0+4294967296)-M.getD x 0)-(jt (val L-val M) (val M) x):Nat):Int)))),.o 27 (.int (Cw _ aD):ai (.v (.int .u64 (bits .and .u64 ((((L.getD x 0+4294967296)-M.getD x 0)-(jt (val L-val M) (val M) x):Nat):Int) 4294967295))) (.v (.int .u64 (((((L.getD x 0+4294967296)-M.getD x 0)-(jt (val L-val M) (val M) x))%4294967296:Nat):Int)))),.o 28 (.int (q9 _):ai (.v (.int .u32 (IntKind.u32.wrap (((((L.getD x 0+4294967296)-M.getD x 0)-(jt (val L-val M) (val M) x))%4294967296:Nat):Int)))) (.v (.int .u32 ((((((L.getD x 0+4294967296)-M.getD x 0)-(jt (val L-val M) (val M) x))%4294967296)%4294967296:Nat):Int)))),.a (aD:(x+1)*4<=140737488355328),.a (aD:0<=(32:Int)/\(32:Int)<=((64:Nat):Int)),.o 32 (.int (xJ _):ai (.v (.int .u64 (((((L.getD x 0+4294967296)-M.getD x 0)-(jt (val L-val M) (val M) x):Nat):Int)/2^32))) (.v (.int .u64 (((((L.getD x 0+4294967296)-M.getD x 0)-(jt (val L-val M) (val M) x))/4294967296:Nat):Int)))),
     oF (1-(((((L.getD x 0+4294967296)-M.getD x 0)-(jt (val L-val M) (val M) x))/4294967296:Nat):Int)) aD,.o 33 (.int aD:ai (.v (.int .u64 (1-(((((L.getD x 0+4294967296)-M.getD x 0)-(jt (val L-val M) (val M) x))/4294967296:Nat):Int)))) (.v (.int .u64 ((1-((((L.getD x 0+4294967296)-M.getD x 0)-(jt (val L-val M) (val M) x))/4294967296):Nat):Int)))),
     gW ((x:Int)+1) aD]<|.e (ae [.o 6 (.int (by rw[hq]):ai (.v (.int .u64 ((1-((((L.getD x 0+4294967296)-M.getD x 0)-(jt (val L-val M) (val M) x))/4294967296):Nat):Int))) (.v (.int .u64 (jt (val L-val M) (val M) (x+1):Int)))),.b 5 (yF rfl hz:Bx.le (.row false 150 (x+1) 1 (λi_ j_=>if i_<x then(iW (iI (val L-val M) x)) i_ j_ else(E.ke (.sl false 1 1 λi_ j_=>[.v (.int .u32 ((((((L.getD x 0+4294967296)-M.getD x 0)-(jt (val L-val M) (val M) x))%4294967296)%4294967296:Nat):Int))].getD (i_*1+j_) (.v (.bool false)))) (i_-x) j_)) (.row false 150 (x+1) 1 (iW (iI (val L-val M) (x+1)))))])) aG)
  (λhx=>by
    exact gX (aa [tF 12 ((L.length:Int)<L.length) aD,.z 5]<|.e (ae [.o 5 (.e (xL (mu _ _).symm):ai (.sl false L.length 1 (iW (iI (val L-val M) L.length))) (gO (iI (val L-val M) L.length)))])) aG) aK:iF 4 f359 (TM L M 0) (.exit 0) ⟨36,false,[(5,.e (gO (iI (val L-val M) L.length)))],[]⟩) (ae [.o 6 (.int (by rw[Fa];rfl):ai (.v (.int .u64 0)) (.v (.int .u64 (jt (val L-val M) (val M) 0:Int))))]),.cf (wI _ (sn _ _) aU:uN 311 [gO (iI (val L-val M) L.length)] _)]<|rQ (gO (gT (iI (val L-val M) L.length))) (gO (gK (val L-val M))) (by rw[AO nO])) 
def ae5(L:List Nat)(n:Nat)(hL:iw L)(h1:L.length<=10000)(hn:n<=1000000):gJ 314 [gO L,iP n] (gO (gK (val L/2^n))):=by
 have nO:val L/2^n<4294967296^(L.length-n/32):=by
  rw[bZ (bu aF)];by_cases h:n/32<=L.length
  .refine bN (lW hL) ?_;rw[nB,nB,<-bq];exact bG aF aD 
  .rw [(aD:L.length-n/32=0),bV,bX];refine bN (lW hL) ?_;rw[nB];exact bG aF aD 
 by_cases jZ:n/32<=L.length
 .exact ak call314 func314 (aa [.a (aD:0<(32:Int)),gW (n:Int) aD,.y 5 5 false 150 1 (iW (iI (val L/2^n) 0)),.s (Sp.iG (TK L n) 0 (L.length-n/32) aD (λx hx jf=>by
    have b1:=hL.getD ((n/32)+x);have b2:=hL.getD (((n/32)+x)+1);have b3:(L.getD ((n/32)+x) 0+(L.getD (((n/32)+x)+1) 0*4294967296))/2^(n%32)<=(L.getD ((n/32)+x) 0+(L.getD (((n/32)+x)+1) 0*4294967296)):=cz _ _;have hz:(((L.getD ((n/32)+x) 0+(L.getD (((n/32)+x)+1) 0*4294967296))/2^(n%32)%4294967296%4294967296:Nat):Int)=(iq (val L/2^n) x:Int):=by
     rw[Nat.mod_mod,ahF,<-oQ hL,<-oQ hL,ej x,bB 4294967296]
    exact gX (aa [tT 13 ((((n/32)+x:Nat):Int)<L.length) aD,af [gO L,iP (((n/32)+x:Nat):Int)] (xF _ _ aE),gW ((((n/32)+x:Nat):Int)+1) aD,af [gO L,iP ((((n/32)+x)+1:Nat):Int)] (xF _ _ aE),.a (aD:0<=(32:Int)/\(32:Int)<=((64:Nat):Int)),.o 23 (.int (Cq _ aD):ai (.v (.int .u64 (IntKind.u64.wrap ((L.getD (((n/32)+x)+1) 0:Int)*2^32)))) (.v (.int .u64 ((L.getD (((n/32)+x)+1) 0*4294967296:Nat):Int)))),
     oF ((L.getD ((n/32)+x) 0:Int)+((L.getD (((n/32)+x)+1) 0*4294967296:Nat):Int)) aD,.a (aD:0<(32:Int)),.a (aD:0<=(((n%32:Nat):Int):Int)/\(((n%32:Nat):Int):Int)<=((64:Nat):Int)),.o 29 (.int (xK _ _):ai (.v (.int .u64 ((((L.getD ((n/32)+x) 0)+(L.getD (((n/32)+x)+1) 0*4294967296):Nat):Int)/2^(n%32)))) (.v (.int .u64 ((((L.getD ((n/32)+x) 0)+(L.getD (((n/32)+x)+1) 0*4294967296))/2^(n%32):Nat):Int)))),.o 30 (.int (Cw _ aD):ai (.v (.int .u64 (bits .and .u64 ((((L.getD ((n/32)+x) 0)+(L.getD (((n/32)+x)+1) 0*4294967296))/2^(n%32):Nat):Int) 4294967295))) (.v (.int .u64 (((((L.getD ((n/32)+x) 0)+(L.getD (((n/32)+x)+1) 0*4294967296))/2^(n%32))%4294967296:Nat):Int)))),.o 31 (.int (q9 _):ai (.v (.int .u32 (IntKind.u32.wrap (((((L.getD ((n/32)+x) 0)+(L.getD (((n/32)+x)+1) 0*4294967296))/2^(n%32))%4294967296:Nat):Int)))) (.v (.int .u32 ((((((L.getD ((n/32)+x) 0)+(L.getD (((n/32)+x)+1) 0*4294967296))/2^(n%32))%4294967296)%4294967296:Nat):Int)))),.a (aD:(x+1)*4<=140737488355328),gW ((((n/32)+x:Nat):Int)+1) aD]<|.e (ae [.o 6 (an ((((n/32)+x)+1:Nat):Int) (((n/32)+(x+1):Nat):Int) aS),.b 5 (yF rfl hz:Bx.le (.row false 150 (x+1) 1 (λi_ j_=>if i_<x then(iW (iI (val L/2^n) x)) i_ j_ else(E.ke (.sl false 1 1 λi_ j_=>[.v (.int .u32 ((((((L.getD ((n/32)+x) 0)+(L.getD (((n/32)+x)+1) 0*4294967296))/2^(n%32))%4294967296)%4294967296:Nat):Int))].getD (i_*1+j_) (.v (.bool false)))) (i_-x) j_)) (.row false 150 (x+1) 1 (iW (iI (val L/2^n) (x+1)))))])) aG)
  (λhx=>by
    exact gX (aa [tF 13 ((((n/32)+(L.length-n/32):Nat):Int)<L.length) aD,.z 5]<|.e (ae [.o 5 (.e (xL (mu _ _).symm):ai (.sl false (L.length-n/32) 1 (iW (iI (val L/2^n) (L.length-n/32)))) (gO (iI (val L/2^n) (L.length-n/32))))])) aG) aK:iF 3 f314 (TK L n 0) (.exit 0) ⟨36,false,[(5,.e (gO (iI (val L/2^n) (L.length-n/32))))],[]⟩) (ae [.o 6 (an ((n/32:Nat):Int) (((n/32)+0:Nat):Int) aS)]),.cf (wI _ (sn _ _) aU:uN 311 [gO (iI (val L/2^n) (L.length-n/32))] _)]<|rQ (gO (gT (iI (val L/2^n) (L.length-n/32)))) (gO (gK (val L/2^n))) (by rw[AO nO])) 
 .have h0:val L/2^n=0:=by rw[(aD:L.length-n/32=0),bV]at nO;exact dT.1 nO
  rw[h0];exact ak call314 func314 (aa [.a (aD:0<(32:Int)),gW (n:Int) aD,.y 5 5 false 150 1 (iW (iI 0 0)),.s (Sp.iG (TL L n) 0 0 aD (λx hx jf=>by
    omega)
  (λhx=>by
    exact gX (aa [tF 13 ((((n/32)+0:Nat):Int)<L.length) aD,.z 5]<|.e (ae [.o 5 (.e (xL (mu _ _).symm):ai (.sl false 0 1 (iW (iI 0 0))) (gO (iI 0 0)))])) aG) aK:iF 3 f314 (TL L n 0) (.exit 0) ⟨36,false,[(5,.e (gO (iI 0 0)))],[]⟩) (ae [.o 6 (an ((n/32:Nat):Int) (((n/32)+0:Nat):Int) aS)]),.cf (wI _ (sn _ _) aU:uN 311 [gO (iI 0 0)] _)]<|rQ (gO (gT (iI 0 0))) (gO (gK 0)) (by rw[AO aF])) 
end Go.Proofs.YtkjkcjhacddojaaGreatDoor
namespace Go.Proofs.YtkjkcjhacddojaaGreatDoor.Fp
def iK(a b n x:Nat):Nat:=a/2^(n-x)%b
def kz(a b n x:Nat):Nat:=a/2^(n-x)/b
def jb(a n x:Nat):Nat:=a/2^(n-1-x)%2
def Fq(a n x:Nat):jb a n x<=1:=by unfold jb;omega
def OL{a n x:Nat}(hx:x<n):a/2^(n-(x+1))=2*(a/2^(n-x))+jb a n x:=by
 unfold jb;rw[(aD:n-x=(n-1-x)+1),(aD:n-(x+1)=n-1-x),bE,<-cJ];omega
def OJ{a b n x:Nat}(hb:0<b)(hx:x<n)(h:2*iK a b n x+jb a n x<b):iK a b n (x+1)=2*iK a b n x+jb a n x/\kz a b n (x+1)=2*kz a b n x:=by
 have e:a/2^(n-(x+1))=b*(2*kz a b n x)+(2*iK a b n x+jb a n x):=by
  rw[OL hx];have:=ck (a/2^(n-x)) b;unfold kz iK;rw[cW];omega
 constructor
 .conv=>lhs;unfold iK
  rw[e,dG,bJ h]
 .conv=>lhs;unfold kz
  rw[e,dk hb,ca h,bK]
def OK{a b n x:Nat}(hb:0<b)(hx:x<n)(h:¬2*iK a b n x+jb a n x<b):iK a b n (x+1)=2*iK a b n x+jb a n x-b/\kz a b n (x+1)=2*kz a b n x+1:=by
 have hr:iK a b n x<b:=bA _ hb;have ss:=Fq a n x;have e:a/2^(n-(x+1))=b*(2*kz a b n x+1)+(2*iK a b n x+jb a n x-b):=by
  rw[OL hx];have:=ck (a/2^(n-x)) b;unfold kz iK at *
  rw[bH,cW,bW];omega
 constructor
 .conv=>lhs;unfold iK
  rw[e,dG,bJ aD]
 .conv=>lhs;unfold kz
  rw[e,dk hb,ca aD,bK]
def OM{a b n:Nat}(h:a<2^n):iK a b n 0=0/\kz a b n 0=0:=by
 unfold iK kz;rw[du,ca h];simp
def OI(a b n:Nat):iK a b n n=a%b/\kz a b n n=a/b:=by
 unfold iK kz;rw[cV,bV,dR];exact⟨rfl,rfl⟩
def Za(a b n x:Nat):kz a b n x*2^(n-x)<=a:=by
 unfold kz;exact bM (bL _ (cz _ _)) (dj _ _)
def NG{L:List Nat}(h:iw L):gU (val L)<=32*L.length:=kB.2 (by rw[<-nB];exact lW h)
def ahv{q i m:Nat}(hi:i/32<m)(hq:q*2^(i+1)<4294967296^m):
 (∃ t,iq (q*2^(i+1)) (i/32)=t*2^(i%32+1))/\iq (q*2^(i+1)) (i/32)+2^(i%32)<4294967296 /\
 (iI (q*2^(i+1)) m).set (i/32) (iq (q*2^(i+1)) (i/32)+2^(i%32))=iI ((2*q+1)*2^i) m:=by
 have hr:i%32<32:=bA _ aF;have e1:q*2^(i+1)/4294967296^(i/32)=q*2^(i%32+1):=by
  rw[(aD:i+1=(i%32+1)+32*(i/32)),bq,<-nB,<-bw,dD _ (pw _)]
 have h3:(4294967296:Nat)=2^(i%32+1)*2^(32-(i%32+1)):=by rw[<-bq,(aD:i%32+1+(32-(i%32+1))=32)]
 have e2:iq (q*2^(i+1)) (i/32)=(q%2^(32-(i%32+1)))*2^(i%32+1):=by
  unfold iq;rw[e1,bB]
  conv=>lhs;rhs;rw[h3]
  rw[gC,bB]
 have e3:(q%2^(32-(i%32+1)))*2^(i%32+1)+2^(i%32+1)<=4294967296:=by
  have:=bL (2^(i%32+1)) (show q%2^(32-(i%32+1))+1<=2^(32-(i%32+1))from bA _ (bu aF));rw[bT,bX]at this;refine bM this (gB ?_);rw[bB];exact h3.symm
 have e4:2^(i%32)<2^(i%32+1):=eH aF aD;have iE:iq (q*2^(i+1)) (i/32)+2^(i%32)<4294967296:=by rw[e2];omega
 refine⟨⟨_,e2⟩,iE,?_⟩;have hk:i/32<(iI (q*2^(i+1)) m).length:=by rw[mu];exact hi
 have hv:=wK (x:=iq (q*2^(i+1)) (i/32)+2^(i%32)) hk;rw[sk hi,vH,bJ hq,bH]at hv;refine(Fk ((sn _ _).set _ iE) (by rw[cI,mu]) ?_).symm;have e5:4294967296^(i/32)*2^(i%32)=2^i:=by rw[nB,<-bq];congr 1;omega
 rw[e5]at hv;have e6:2*q*2^i=q*2^(i+1):=by rw[bE,bB 2 q,bw,bB 2]
 rw[bT,bX,e6];omega
end Go.Proofs.YtkjkcjhacddojaaGreatDoor.Fp
namespace Go.Proofs.YtkjkcjhacddojaaGreatDoor
open Go.RowKit Fp Pu
def aem(s t:Nat)(hs:s<32)(iE:t*2^(s+1)+2^s<4294967296):bits .or .u32 ((t*2^(s+1):Nat):Int) (IntKind.u32.wrap (1*2^s))=((t*2^(s+1)+2^s:Nat):Int):=by
 have h2:2^s<2^(s+1):=eH aF aD;have e:IntKind.u32.wrap (1*2^s)=((2^s:Nat):Int):=by
  rw[IntKind.wrap_u32,Int.one_mul,show(2:Int)^s=((2^s:Nat):Int)by simp];omega
 rw[e,Ez _ _ aD aD,fL,yL _ t (s+1) h2,ej]
def aen(o r a:Nat)(hr:r<32)(ho:o<2^r):bits .or .u32 (o:Int) ((a*2^r%4294967296%4294967296:Nat):Int)=((o+a*2^r%4294967296:Nat):Int):=by
 have h3:(4294967296:Nat)=2^r*2^(32-r):=by rw[<-bq,(aD:r+(32-r)=32)]
 have wX:2^r<=2^31:=bG aF aD;have CZ:(2:Nat)^31=2147483648:= aF ;have e2:a*2^r%4294967296=(a%2^(32-r))*2^r:=by
  rw[bB]
  conv=>lhs;rhs;rw[h3]
  rw[gC,bB]
 rw[Nat.mod_mod,Ez _ _ aD (bA _ aF),e2,yL _ _ _ ho]
def ahB(a r:Nat)(ha:a<4294967296)(hr:r<32):IntKind.u64.wrap ((a:Int)*2^r)=((a*2^r:Nat):Int):=by
 have wX:2^r<=2^31:=bG aF aD;have CZ:(2:Nat)^31=2147483648:= aF ;have h2:a*2^r<=4294967295*2147483648:=di aD aD;have e:(a:Int)*2^r=((a*2^r:Nat):Int):= aJ ;rw[e];exact oH _ aD 
def ahA{a r:Nat}(ha:a<4294967296)(hr:r<32):a*2^r<=9223372034707292160:=by
 have wX:2^r<=2^31:=bG aF aD;have CZ:(2:Nat)^31=2147483648:= aF ;have h2:a*2^r<=4294967295*2147483648:=di aD aD;omega
def Mo(x:Nat):IntKind.u32.wrap ((x:Int)*2^1)=((2*x%4294967296:Nat):Int):=by rw[IntKind.wrap_u32];omega
def GZ(x c:Nat)(hc:c<=1):bits .or .u32 ((2*x%4294967296:Nat):Int) (c:Int)=((2*x%4294967296+c:Nat):Int):=by
 have h:2*x%4294967296=(2*x%4294967296/2)*2^1:= aD ;rw[Ez _ _ aD aD,fL,h,yL _ _ 1 aD,ej]
def ag4{T n n' p q:Nat}{L L':List Nat}{z y:Nat}(hn:n=n')(hp:p<L.length)(hq:q<L.length)(hs:(L.set p z).set q y=L'):
 Bx.le (.row false T n 1 λi' j'=>if i'=q/\0<=j'/\j'<0+1 then[.v (.int .u32 (y:Int))].getD (j'-0) .any else(λi' j'=>if i'=p/\0<=j'/\j'<0+1 then[.v (.int .u32 (z:Int))].getD (j'-0) .any else(iW L) i' j') i' j') (.row false T n' 1 (iW L')):=by
 subst hs;refine .row hn λi j _ hj=>?_
 obtain rfl:j=0:= aD ;refine⟨.iD ?_,rfl⟩;by_cases h1:i=q
 .subst h1;rw[bj ⟨rfl,aD,aD⟩];show E.v (.int .u32 (y:Int))=E.v (.int .u32 ((((L.set p z).set i y).getD i 0:Nat):Int));rw[Fp.JM (by rw[cI];exact hq)]
 .rw [bh (λk=>h1 k.1)];by_cases h:i=p
  .subst h;show(if i=i/\0<=0/\0<0+1 then _ else _)=E.v (.int .u32 ((((L.set i z).set q y).getD i 0:Nat):Int));rw[bj ⟨rfl,aD,aD⟩,Fp.ue (λk=>h1 k.symm),Fp.JM hp];rfl
  .show (if i=p/\0<=0/\0<0+1 then _ else E.v (.int .u32 (L.getD i 0:Int)))=E.v (.int .u32 ((((L.set p z).set q y).getD i 0:Nat):Int));rw[bh (λk=>h k.1),Fp.ue (λk=>h1 k.symm),Fp.ue (λk=>h k.symm)]
def TJ(L:List Nat)(n:Nat)(x:Nat):PS:=⟨60,false,[(6,.e (iP x)),(5,.own 16),(0,.e (gO (gT L))),(1,.e (iP n))],[(16,.row false 150 (n/32+(gT L).length+1) 1 (iW (iI ((val ((gT L).take x))*2^n) (n/32+(gT L).length+1))))]⟩
def ae3(L:List Nat)(n:Nat)(hL:iw L)(h1:L.length<=10000)(hn:n<=1000000):gJ 278 [gO L,iP n] (gO (gK (val L*2^n))):=by
 have tl:=n9 L;unfold lI at tl;have nO:val ((gT L).take (gT L).length)*2^n<4294967296^(n/32+(gT L).length+1):=by
  rw[fk,cP,bq,bB];have h1:=lW hL.gT;have h2:2^n<=4294967296^(n/32)*4294967296:=by
   rw[nB,show(4294967296:Nat)=2^32 by rfl,<-bq];exact bG aF aD 
  rw[bE,cW,bB];refine Nat.mul_lt_mul_of_lt_of_le h1 h2 (by exact eP (pw _) aF)
 exact ak call278 func278 (aa [.cf (wI _ aE aU:uN 311 [gO L] _),.a (aD:0<(32:Int)),gW (n:Int) aD,
  gW (((n/32:Nat):Int)+((gT L).length:Int)) aD,gW ((((n/32)+(gT L).length:Nat):Int)+1) aD,.a (aD:0<=(((((n/32)+(gT L).length)+1:Nat):Int):Int)/\(((((n/32)+(gT L).length)+1:Nat):Int):Int)<=(((((n/32)+(gT L).length)+1:Nat):Int):Int)),.a (aD:((4:Nat):Int)*((((n/32)+(gT L).length)+1:Nat):Int)<=281474976710656/\(((((n/32)+(gT L).length)+1:Nat):Int):Int)<=9223372036854775807),.s (Sp.iG (TJ L n) 0 ((gT L).length) aD (λx hx jf=>by
    have J4:=hL.gT.getD x;have hr:n%32<32:=bA _ aF;have iE:(val ((gT L).take x))<4294967296^x:=by
     have:=lW (hL.gT.take x);rw[cj,df aD]at this;exact this
    obtain⟨ho,tg⟩:=ahC (n:=n) J4 (O:=(iI ((val ((gT L).take x))*2^n) (n/32+(gT L).length+1))) rfl iE (m:=(n/32+(gT L).length+1)) aD;rw[<-tI]at tg;have hu:(((gT L).getD x 0)*2^(n%32))/4294967296<4294967296:=by
     have:=ahA J4 hr;omega
    rw[<-bJ hu]at tg;exact gX (aa [tT 20 ((x:Int)<((gT L).length:Int)) aD,iX (x:Int) ((gT L).length) aD,.o 27 (.int (oH _ aD):ai (.v (.int .u64 (IntKind.u64.wrap (((gT L).getD x 0:Nat):Int)))) (.v (.int .u64 (((gT L).getD x 0:Nat):Int)))),.a (aD:0<(32:Int)),.a (aD:0<=(((n%32:Nat):Int):Int)/\(((n%32:Nat):Int):Int)<=((64:Nat):Int)),.o 30 (.int (ahB _ _ J4 hr):ai (.v (.int .u64 (IntKind.u64.wrap ((((gT L).getD x 0:Nat):Int)*2^(n%32))))) (.v (.int .u64 ((((gT L).getD x 0)*2^(n%32):Nat):Int)))),.a (aD:0<(32:Int)),gW (n:Int) aD,gW ((x:Int)+((n/32:Nat):Int)) aD,.a (aD:0<(32:Int)),gW (n:Int) aD,
     gW ((x:Int)+((n/32:Nat):Int)) aD,iX ((x+(n/32):Nat):Int) (n/32+(gT L).length+1) aD,.a (aD:(x+(n/32))<(n/32+(gT L).length+1)),.o 44 (.int (Cw _ aD):ai (.v (.int .u64 (bits .and .u64 ((((gT L).getD x 0)*2^(n%32):Nat):Int) 4294967295))) (.v (.int .u64 (((((gT L).getD x 0)*2^(n%32))%4294967296:Nat):Int)))),.o 45 (.int (q9 _):ai (.v (.int .u32 (IntKind.u32.wrap (((((gT L).getD x 0)*2^(n%32))%4294967296:Nat):Int)))) (.v (.int .u32 ((((((gT L).getD x 0)*2^(n%32))%4294967296)%4294967296:Nat):Int)))),.o 46 (.int (aen _ _ _ hr ho):ai (.v (.int .u32 (bits .or .u32 (((iI ((val ((gT L).take x))*2^n) (n/32+(gT L).length+1)).getD (x+(n/32)) 0:Nat):Int) ((((((gT L).getD x 0)*2^(n%32))%4294967296)%4294967296:Nat):Int)))) (.v (.int .u32 ((((iI ((val ((gT L).take x))*2^n) (n/32+(gT L).length+1)).getD (x+(n/32)) 0)+((((gT L).getD x 0)*2^(n%32))%4294967296):Nat):Int)))),
     iX ((x+(n/32):Nat):Int) (n/32+(gT L).length+1) aD,.a (aD:(x+(n/32))<(n/32+(gT L).length+1)),.a (aD:0<(32:Int)),gW (n:Int) aD,
     gW ((x:Int)+((n/32:Nat):Int)) aD,gW (((x+(n/32):Nat):Int)+1) aD,.a (aD:0<=(32:Int)/\(32:Int)<=((64:Nat):Int)),.o 55 (.int (xJ _):ai (.v (.int .u64 (((((gT L).getD x 0)*2^(n%32):Nat):Int)/2^32))) (.v (.int .u64 (((((gT L).getD x 0)*2^(n%32))/4294967296:Nat):Int)))),.o 56 (.int (q9 _):ai (.v (.int .u32 (IntKind.u32.wrap (((((gT L).getD x 0)*2^(n%32))/4294967296:Nat):Int)))) (.v (.int .u32 ((((((gT L).getD x 0)*2^(n%32))/4294967296)%4294967296:Nat):Int)))),
     iX (((x+(n/32))+1:Nat):Int) (n/32+(gT L).length+1) aD,.a (aD:((x+(n/32))+1)<(n/32+(gT L).length+1)),gW ((x:Int)+1) aD]<|.e (ae [.b 16 (ag4 rfl (by rw[mu];omega) (by rw[mu];omega) tg:Bx.le (.row false 150 (n/32+(gT L).length+1) 1 (λi' j'=>if i'=((x+(n/32))+1)/\0<=j'/\j'<0+1 then[.v (.int .u32 ((((((gT L).getD x 0)*2^(n%32))/4294967296)%4294967296:Nat):Int))].getD (j'-0) .any else(λi' j'=>if i'=(x+(n/32))/\0<=j'/\j'<0+1 then[.v (.int .u32 ((((iI ((val ((gT L).take x))*2^n) (n/32+(gT L).length+1)).getD (x+(n/32)) 0)+((((gT L).getD x 0)*2^(n%32))%4294967296):Nat):Int))].getD (j'-0) .any else(iW (iI ((val ((gT L).take x))*2^n) (n/32+(gT L).length+1))) i' j') i' j')) (.row false 150 (n/32+(gT L).length+1) 1 (iW (iI ((val ((gT L).take (x+1)))*2^n) (n/32+(gT L).length+1)))))])) aG)
  (λhx=>by
    exact gX (aa [tF 20 (((gT L).length:Int)<((gT L).length:Int)) aD,.z 16]<|.e (ae [.o 5 (.e (xL (mu _ _).symm):ai (.sl false (n/32+(gT L).length+1) 1 (iW (iI ((val ((gT L).take (gT L).length))*2^n) (n/32+(gT L).length+1)))) (gO (iI ((val ((gT L).take (gT L).length))*2^n) (n/32+(gT L).length+1))))])) aG) aK:iF 4 f278 (TJ L n 0) (.exit 0) ⟨60,false,[(5,.e (gO (iI ((val ((gT L).take (gT L).length))*2^n) (n/32+(gT L).length+1))))],[]⟩) (ae [.b 16 (Eo aD (λi=>by rw[show val (List.take 0 (gT L))=0 from rfl,cB,Fj]):Bx.le (.row false 150 (((n/32)+(gT L).length)+1) 1 (λ_ j_=>[.v (.int .u32 0)].getD j_ .any)) (.row false 150 (n/32+(gT L).length+1) 1 (iW (iI ((val ((gT L).take 0))*2^n) (n/32+(gT L).length+1)))))]),.cf (wI _ (sn _ _) aU:uN 311 [gO (iI ((val ((gT L).take (gT L).length))*2^n) (n/32+(gT L).length+1))] _)]<|rQ (gO (gT (iI ((val ((gT L).take (gT L).length))*2^n) (n/32+(gT L).length+1)))) (gO (gK (val L*2^n))) (by rw[AO nO,fk,oc])) 
def TH(L M:List Nat)(n:Nat)(x:Nat):PS:=⟨106,false,[(8,.e (iP ((n:Int)-1-(x:Int)))),(7,.own 23),(6,.own 19),(1,.e (gO (gT M))),(0,.e (gO L))],[(23,.row false 150 ((gT M).length+1) 1 (iW (iI (iK (val L) (val M) n x) ((gT M).length+1)))),(19,.row false 150 L.length 1 (iW (iI ((kz (val L) (val M) n x)*2^(n-x)) L.length)))]⟩
def TF(L M:List Nat)(n x:Nat)(k:Nat):PS:=⟨106,false,[(10,.e (iP k)),(9,.e (.v (.int .u32 (lF (iK (val L) (val M) n x) (jb (val L) n x) k:Int)))),(8,.e (iP ((n:Int)-1-(x:Int)))),(7,.own 23),(6,.own 19),(1,.e (gO (gT M))),(0,.e (gO L))],[(23,.row false 150 ((gT M).length+1) 1 (iW (ky (2*(iK (val L) (val M) n x)+(jb (val L) n x)) (iK (val L) (val M) n x) k ((gT M).length+1)))),(19,.row false 150 L.length 1 (iW (iI ((kz (val L) (val M) n x)*2^(n-x)) L.length)))]⟩
def TG(L M:List Nat)(n x:Nat)(k:Nat):PS:=⟨106,false,[(13,.e (iP k)),(12,.e (.v (.int .u64 (jt ((2*(iK (val L) (val M) n x)+(jb (val L) n x))-val M) (val M) k:Int)))),(8,.e (iP ((n:Int)-1-(x:Int)))),(7,.own 23),(6,.own 19),(1,.e (gO (gT M))),(0,.e (gO L))],[(23,.row false 150 ((gT M).length+1) 1 (iW (ky ((2*(iK (val L) (val M) n x)+(jb (val L) n x))-val M) (2*(iK (val L) (val M) n x)+(jb (val L) n x)) k ((gT M).length+1)))),(19,.row false 150 L.length 1 (iW (iI ((kz (val L) (val M) n x)*2^(n-x)) L.length)))]⟩
def ae1(L M:List Nat)(n:Nat)(hL:iw L)(hM:iw M)(h1:L.length<=10000)(h2:M.length<=10000)(hB:0<val M)(hn:n=gU (val L)):gJ 277 [gO L,gO M] (.hH [gO (gK (val L/val M)),gO (gK (val L%val M))]):=by
 have tl:=n9 M;unfold lI at tl;have PR:=OM (a:=val L) (b:=val M) (n:=n) (by rw[hn];exact px _);have hbn:=NG hL;have he:=OI (val L) (val M) n;have f1:val L/val M*2^(n-n)<4294967296^L.length:=by
  rw[cV,bV,bW];exact cC (cz _ _) (lW hL)
 have f2:val L%val M<4294967296^((gT M).length+1):=by
  have h1:=lW hM.gT;rw[oc]at h1;refine fp (bA _ hB) (bN h1 (bG aF aD))
 exact ak call277 func277 (aa [.cf (wI _ aE aU:uN 311 [gO M] _),.a (aD:0<=((L.length:Int):Int)/\((L.length:Int):Int)<=((L.length:Int):Int)),.a (aD:((4:Nat):Int)*(L.length:Int)<=281474976710656/\((L.length:Int):Int)<=9223372036854775807),gW (((gT M).length:Int)+1) aD,.a (aD:0<=((((gT M).length+1:Nat):Int):Int)/\((((gT M).length+1:Nat):Int):Int)<=((((gT M).length+1:Nat):Int):Int)),.a (aD:((4:Nat):Int)*(((gT M).length+1:Nat):Int)<=281474976710656/\((((gT M).length+1:Nat):Int):Int)<=9223372036854775807),af [gO L] (TA _ aE aD),.o 25 (an (gU (val L):Int) n (by rw[hn])),gW ((n:Int)-1) aD,.s (Sp.iG (TH L M n) 0 n aD (λx hx jf=>by
    have F1:(n-1-x)/32<L.length:=by
     have:=NG hL;rw[<-hn]at this;omega
    have qA:=Fq (val L) n x;have ajt:=hL.getD ((n-1-x)/32);have zR:L.getD ((n-1-x)/32) 0/2^((n-1-x)%32)<=L.getD ((n-1-x)/32) 0:=cz _ _;have ss:bits .and .u32 ((L.getD ((n-1-x)/32) 0/2^((n-1-x)%32):Nat):Int) 1=(jb (val L) n x:Int):=by
     rw[Ii _ aD];have:=IT hL (n-1-x) F1;unfold jb;rw[this];simp[bn,F1]
    have hRl:(iK (val L) (val M) n x)<val M:=bA _ hB;have Q7:val (iI (2*(iK (val L) (val M) n x)+(jb (val L) n x)) ((gT M).length+1))=(2*(iK (val L) (val M) n x)+(jb (val L) n x)):=by
     rw[vH,bJ];have h1:=lW hM.gT;rw[oc]at h1;rw[bE];omega
    exact gX (aa [.o 27 (an ((n:Int)-1-(x:Int)) ((n-1-x:Nat):Int) aD),tT 28 (0<=((n-1-x:Nat):Int)) aD,.o 32 (an ((n:Int)-1-(x:Int)) ((n-1-x:Nat):Int) aD),.a (aD:0<(32:Int)),gW ((n-1-x:Nat):Int) aD,
     iX (((n-1-x)/32:Nat):Int) (L.length) aD,.o 36 (an ((n:Int)-1-(x:Int)) ((n-1-x:Nat):Int) aD),.a (aD:0<(32:Int)),.a (aD:0<=((((n-1-x)%32:Nat):Int):Int)/\((((n-1-x)%32:Nat):Int):Int)<=((32:Nat):Int)),.o 38 (.int (xK _ _):ai (.v (.int .u32 ((L.getD ((n-1-x)/32) 0:Int)/2^((n-1-x)%32)))) (.v (.int .u32 (((L.getD ((n-1-x)/32) 0)/2^((n-1-x)%32):Nat):Int)))),.o 39 (.int ss:ai (.v (.int .u32 (bits .and .u32 (((L.getD ((n-1-x)/32) 0)/2^((n-1-x)%32):Nat):Int) 1))) (.v (.int .u32 (jb (val L) n x:Int)))),.s (Sp.iG (TF L M n x) 0 ((gT M).length+1) aD (λk hk oJ=>by
    have qA:=Fq (val L) n x;have Qs:=Fi (r:=(iK (val L) (val M) n x)) qA k;have hdc:=Fh (r:=(iK (val L) (val M) n x)) qA k;have tg:(ky (2*(iK (val L) (val M) n x)+(jb (val L) n x)) (iK (val L) (val M) n x) k ((gT M).length+1)).set k (2*iq (iK (val L) (val M) n x) k%4294967296+lF (iK (val L) (val M) n x) (jb (val L) n x) k)=(ky (2*(iK (val L) (val M) n x)+(jb (val L) n x)) (iK (val L) (val M) n x) (k+1) ((gT M).length+1)):=by rw[<-Qs.1,GI]
    exact gX (aa [tT 43 ((k:Int)<(((gT M).length+1:Nat):Int)) aD,iX (k:Int) ((gT M).length+1) aD,.a (aD:k<((gT M).length+1)),.o 49 (.int (by rw[DO aD]):ai (.v (.int .u32 (((ky (2*(iK (val L) (val M) n x)+(jb (val L) n x)) (iK (val L) (val M) n x) k ((gT M).length+1)).getD k 0:Nat):Int))) (.v (.int .u32 (iq (iK (val L) (val M) n x) k:Int)))),.a (aD:0<=(1:Int)/\(1:Int)<=((32:Nat):Int)),.o 53 (.int (Mo _):ai (.v (.int .u32 (IntKind.u32.wrap ((iq (iK (val L) (val M) n x) k:Int)*2^1)))) (.v (.int .u32 ((2*iq (iK (val L) (val M) n x) k%4294967296:Nat):Int)))),.o 55 (.int (GZ _ _ hdc):ai (.v (.int .u32 (bits .or .u32 ((2*iq (iK (val L) (val M) n x) k%4294967296:Nat):Int) (lF (iK (val L) (val M) n x) (jb (val L) n x) k:Int)))) (.v (.int .u32 ((2*iq (iK (val L) (val M) n x) k%4294967296+lF (iK (val L) (val M) n x) (jb (val L) n x) k:Nat):Int)))),
     iX (k:Int) ((gT M).length+1) aD,.a (aD:k<((gT M).length+1)),.a (aD:0<=(31:Int)/\(31:Int)<=((32:Nat):Int)),.o 58 (.int (xK _ _):ai (.v (.int .u32 ((iq (iK (val L) (val M) n x) k:Int)/2^31))) (.v (.int .u32 (((iq (iK (val L) (val M) n x) k)/2^31:Nat):Int)))),gW ((k:Int)+1) aD]<|.e (ae [.o 9 (.int (by rw[Qs.2]):ai (.v (.int .u32 (((iq (iK (val L) (val M) n x) k)/2^31:Nat):Int))) (.v (.int .u32 (lF (iK (val L) (val M) n x) (jb (val L) n x) (k+1):Int)))),.b 23 (Ci rfl aZ tg:Bx.le (.row false 150 ((gT M).length+1) 1 (λi' j'=>if i'=k/\0<=j'/\j'<0+1 then[.v (.int .u32 ((2*iq (iK (val L) (val M) n x) k%4294967296+lF (iK (val L) (val M) n x) (jb (val L) n x) k:Nat):Int))].getD (j'-0) .any else(iW (ky (2*(iK (val L) (val M) n x)+(jb (val L) n x)) (iK (val L) (val M) n x) k ((gT M).length+1))) i' j')) (.row false 150 ((gT M).length+1) 1 (iW (ky (2*(iK (val L) (val M) n x)+(jb (val L) n x)) (iK (val L) (val M) n x) (k+1) ((gT M).length+1)))))])) aG)
  (λhk=>by
    exact gX (aa [tF 43 ((((gT M).length+1:Nat):Int)<(((gT M).length+1:Nat):Int)) aD]<|.e (ae [.b 23 (.iD (by rw[GH (bp _)]):Bx.le (.row false 150 ((gT M).length+1) 1 (iW (ky (2*(iK (val L) (val M) n x)+(jb (val L) n x)) (iK (val L) (val M) n x) ((gT M).length+1) ((gT M).length+1)))) (.row false 150 ((gT M).length+1) 1 (iW (iI (2*(iK (val L) (val M) n x)+(jb (val L) n x)) ((gT M).length+1)))))])) aG) aK:iF 9 f277 (TF L M n x 0) (.exit 2) ⟨106,false,[(8,.e (iP ((n:Int)-1-(x:Int)))),(7,.own 23),(6,.own 19),(1,.e (gO (gT M))),(0,.e (gO L))],[(23,.row false 150 ((gT M).length+1) 1 (iW (iI (2*(iK (val L) (val M) n x)+(jb (val L) n x)) ((gT M).length+1)))),(19,.row false 150 L.length 1 (iW (iI ((kz (val L) (val M) n x)*2^(n-x)) L.length)))]⟩) (ae [.o 9 (.int (by rw[Jc]):ai (.v (.int .u32 (jb (val L) n x:Int))) (.v (.int .u32 (lF (iK (val L) (val M) n x) (jb (val L) n x) 0:Int)))),.b 23 (.iD (by rw[DP]):Bx.le (.row false 150 ((gT M).length+1) 1 (iW (iI (iK (val L) (val M) n x) ((gT M).length+1)))) (.row false 150 ((gT M).length+1) 1 (iW (ky (2*(iK (val L) (val M) n x)+(jb (val L) n x)) (iK (val L) (val M) n x) 0 ((gT M).length+1)))))]),.c (by rw[y3 (show((gT M).length+1)=(iI (2*(iK (val L) (val M) n x)+(jb (val L) n x)) ((gT M).length+1)).length by first|omega|(simp only[mu,tq];omega)|simp only[mu,tq])];exact(ae2 _ _ (sn _ _) (iw.gT aE) (by first|omega|(simp only[mu,tq];omega)|simp only[mu,tq]) (by first|omega|(simp only[mu,tq];omega)|simp only[mu,tq])):gJ 312 [.sl false ((gT M).length+1) 1 (iW (iI (2*(iK (val L) (val M) n x)+(jb (val L) n x)) ((gT M).length+1))),gO (gT M)] (bP (decide ((kv (val (iI (2*(iK (val L) (val M) n x)+(jb (val L) n x)) ((gT M).length+1))) (val (gT M)))<0))))]<|.w ((2*(iK (val L) (val M) n x)+(jb (val L) n x))<val M)
     (λDb=>by
      have nE:kv (val (iI (2*(iK (val L) (val M) n x)+(jb (val L) n x)) ((gT M).length+1))) (val (gT M))<0:=by rw[Q7,oc];unfold kv;rw[bj Db];decide
      have mg:=OJ hB jf Db;have g1:=mg.1;have g2:=mg.2;have J5:iI (2*(iK (val L) (val M) n x)+(jb (val L) n x)) ((gT M).length+1)=iI (iK (val L) (val M) n (x+1)) ((gT M).length+1):=by rw[g1]
      have abw:(iI ((kz (val L) (val M) n x)*2^(n-x)) L.length)=(iI ((kz (val L) (val M) n (x+1))*2^(n-(x+1))) L.length):=by
       rw[g2];congr 1;rw[(aD:n-x=n-(x+1)+1),bE,bB 2,bw,bB 2]
      exact aa [tB 61 (bk nE),.o 29 (an ((n:Int)-1-(x:Int)) ((n-1-x:Nat):Int) aD),gW (((n-1-x:Nat):Int)-1) aD]<|.e (ae [.o 8 (an (((n-1-x:Nat):Int)-1) ((n:Int)-1-((x+1:Nat):Int)) aS),.b 23 (.iD (by rw[J5]):Bx.le (.row false 150 ((gT M).length+1) 1 (iW (iI (2*(iK (val L) (val M) n x)+(jb (val L) n x)) ((gT M).length+1)))) (.row false 150 ((gT M).length+1) 1 (iW (iI (iK (val L) (val M) n (x+1)) ((gT M).length+1))))),.b 19 (.iD (by rw[abw]):Bx.le (.row false 150 L.length 1 (iW (iI ((kz (val L) (val M) n x)*2^(n-x)) L.length))) (.row false 150 L.length 1 (iW (iI ((kz (val L) (val M) n (x+1))*2^(n-(x+1))) L.length))))]))
     (λDb=>by
      have nE:¬kv (val (iI (2*(iK (val L) (val M) n x)+(jb (val L) n x)) ((gT M).length+1))) (val (gT M))<0:=by rw[Q7,oc];unfold kv;rw[bh Db];split<;>decide
      have mg:=OK hB jf Db;have g1:=mg.1;have g2:=mg.2;have J5:iI ((2*(iK (val L) (val M) n x)+(jb (val L) n x))-val M) ((gT M).length+1)=iI (iK (val L) (val M) n (x+1)) ((gT M).length+1):=by rw[g1]
      have e3:n-x=(n-1-x)+1:= aD ;have e4:n-(x+1)=(n-1-x):= aD ;have hle:=Za (val L) (val M) n x;rw[e3]at hle;have Dj:=ahv (q:=(kz (val L) (val M) n x)) (i:=(n-1-x)) (m:=L.length) F1 (cC hle (lW hL));have s2:=Dj.2.1;have s3:=Dj.2.2;have abV:(iI ((kz (val L) (val M) n x)*2^(n-x)) L.length).set ((n-1-x)/32) (iq ((kz (val L) (val M) n x)*2^((n-1-x)+1)) ((n-1-x)/32)+2^((n-1-x)%32))=(iI ((kz (val L) (val M) n (x+1))*2^(n-(x+1))) L.length):=by rw[e3,s3,g2,e4]
      have iJ:(((iI ((kz (val L) (val M) n x)*2^(n-x)) L.length).getD ((n-1-x)/32) 0:Nat):Int)=(iq ((kz (val L) (val M) n x)*2^((n-1-x)+1)) ((n-1-x)/32):Int):=by rw[e3,sk F1]
      have sw:bits .or .u32 (iq ((kz (val L) (val M) n x)*2^((n-1-x)+1)) ((n-1-x)/32):Int) (IntKind.u32.wrap (1*2^((n-1-x)%32)))=((iq ((kz (val L) (val M) n x)*2^((n-1-x)+1)) ((n-1-x)/32)+2^((n-1-x)%32):Nat):Int):=by
       refine Exists.elim Dj.1 λt s1=>?_
       rw[s1]at s2 ⊢;exact aem _ _ (bA _ aF) s2
      exact aa [tB 61 (bl nE),.s (Sp.iG (TG L M n x) 0 ((gT M).length+1) aD (λk hk oJ=>by
    have ha:=V0 (aD:val M<=(2*(iK (val L) (val M) n x)+(jb (val L) n x))) k;have hMk:(gT M).getD k 0=iq (val M) k:=by rw[oQ hM.gT,oc]
    have abQ:=hM.gT;rw[<-hMk]at ha;have b1:=oP (2*(iK (val L) (val M) n x)+(jb (val L) n x)) k;have b2:=abQ.getD k;have b3:=si ((2*(iK (val L) (val M) n x)+(jb (val L) n x))-val M) (val M) k;have b5:=si ((2*(iK (val L) (val M) n x)+(jb (val L) n x))-val M) (val M) (k+1);have b4:=oP ((2*(iK (val L) (val M) n x)+(jb (val L) n x))-val M) k;have hzz:(((iq (2*(iK (val L) (val M) n x)+(jb (val L) n x)) k+4294967296)-(gT M).getD k 0)-(jt ((2*(iK (val L) (val M) n x)+(jb (val L) n x))-val M) (val M) k))%4294967296%4294967296=iq ((2*(iK (val L) (val M) n x)+(jb (val L) n x))-val M) k:= aD ;have hq:1-(((iq (2*(iK (val L) (val M) n x)+(jb (val L) n x)) k+4294967296)-(gT M).getD k 0)-(jt ((2*(iK (val L) (val M) n x)+(jb (val L) n x))-val M) (val M) k))/4294967296=(jt ((2*(iK (val L) (val M) n x)+(jb (val L) n x))-val M) (val M) (k+1)):= aD ;have tg:(ky ((2*(iK (val L) (val M) n x)+(jb (val L) n x))-val M) (2*(iK (val L) (val M) n x)+(jb (val L) n x)) k ((gT M).length+1)).set k ((((iq (2*(iK (val L) (val M) n x)+(jb (val L) n x)) k+4294967296)-(gT M).getD k 0)-(jt ((2*(iK (val L) (val M) n x)+(jb (val L) n x))-val M) (val M) k))%4294967296%4294967296)=(ky ((2*(iK (val L) (val M) n x)+(jb (val L) n x))-val M) (2*(iK (val L) (val M) n x)+(jb (val L) n x)) (k+1) ((gT M).length+1)):=by rw[hzz,GI]
    exact gX (aa [tT 65 ((k:Int)<(((gT M).length+1:Nat):Int)) aD,iX (k:Int) ((gT M).length+1) aD,.a (aD:k<((gT M).length+1)),.o 71 (.int (by rw[DO aD]):ai (.v (.int .u32 (((ky ((2*(iK (val L) (val M) n x)+(jb (val L) n x))-val M) (2*(iK (val L) (val M) n x)+(jb (val L) n x)) k ((gT M).length+1)).getD k 0:Nat):Int))) (.v (.int .u32 (iq (2*(iK (val L) (val M) n x)+(jb (val L) n x)) k:Int)))),.o 72 (.int (oH _ aD):ai (.v (.int .u64 (IntKind.u64.wrap (iq (2*(iK (val L) (val M) n x)+(jb (val L) n x)) k:Int)))) (.v (.int .u64 (iq (2*(iK (val L) (val M) n x)+(jb (val L) n x)) k:Int)))),
     oF ((iq (2*(iK (val L) (val M) n x)+(jb (val L) n x)) k:Int)+4294967296) aD,af [gO (gT M),iP k] (xF _ _ (iw.gT aE)),
     oF ((((iq (2*(iK (val L) (val M) n x)+(jb (val L) n x)) k)+4294967296:Nat):Int)-(((gT M).getD k 0:Nat):Int)) aD,.o 77 (.int aD:ai (.v (.int .u64 ((((iq (2*(iK (val L) (val M) n x)+(jb (val L) n x)) k)+4294967296:Nat):Int)-(((gT M).getD k 0:Nat):Int)))) (.v (.int .u64 (((iq (2*(iK (val L) (val M) n x)+(jb (val L) n x)) k+4294967296)-(gT M).getD k 0:Nat):Int)))),
     oF ((((iq (2*(iK (val L) (val M) n x)+(jb (val L) n x)) k+4294967296)-(gT M).getD k 0:Nat):Int)-(jt ((2*(iK (val L) (val M) n x)+(jb (val L) n x))-val M) (val M) k:Int)) aD,.o 79 (.int aD:ai (.v (.int .u64 ((((iq (2*(iK (val L) (val M) n x)+(jb (val L) n x)) k+4294967296)-(gT M).getD k 0:Nat):Int)-(jt ((2*(iK (val L) (val M) n x)+(jb (val L) n x))-val M) (val M) k:Int)))) (.v (.int .u64 ((((iq (2*(iK (val L) (val M) n x)+(jb (val L) n x)) k+4294967296)-(gT M).getD k 0)-(jt ((2*(iK (val L) (val M) n x)+(jb (val L) n x))-val M) (val M) k):Nat):Int)))),.o 83 (.int (Cw _ aD):ai (.v (.int .u64 (bits .and .u64 ((((iq (2*(iK (val L) (val M) n x)+(jb (val L) n x)) k+4294967296)-(gT M).getD k 0)-(jt ((2*(iK (val L) (val M) n x)+(jb (val L) n x))-val M) (val M) k):Nat):Int) 4294967295))) (.v (.int .u64 (((((iq (2*(iK (val L) (val M) n x)+(jb (val L) n x)) k+4294967296)-(gT M).getD k 0)-(jt ((2*(iK (val L) (val M) n x)+(jb (val L) n x))-val M) (val M) k))%4294967296:Nat):Int)))),.o 84 (.int (q9 _):ai (.v (.int .u32 (IntKind.u32.wrap (((((iq (2*(iK (val L) (val M) n x)+(jb (val L) n x)) k+4294967296)-(gT M).getD k 0)-(jt ((2*(iK (val L) (val M) n x)+(jb (val L) n x))-val M) (val M) k))%4294967296:Nat):Int)))) (.v (.int .u32 ((((((iq (2*(iK (val L) (val M) n x)+(jb (val L) n x)) k+4294967296)-(gT M).getD k 0)-(jt ((2*(iK (val L) (val M) n x)+(jb (val L) n x))-val M) (val M) k))%4294967296)%4294967296:Nat):Int)))),
     iX (k:Int) ((gT M).length+1) aD,.a (aD:k<((gT M).length+1)),.a (aD:0<=(32:Int)/\(32:Int)<=((64:Nat):Int)),.o 87 (.int (xJ _):ai (.v (.int .u64 (((((iq (2*(iK (val L) (val M) n x)+(jb (val L) n x)) k+4294967296)-(gT M).getD k 0)-(jt ((2*(iK (val L) (val M) n x)+(jb (val L) n x))-val M) (val M) k):Nat):Int)/2^32))) (.v (.int .u64 (((((iq (2*(iK (val L) (val M) n x)+(jb (val L) n x)) k+4294967296)-(gT M).getD k 0)-(jt ((2*(iK (val L) (val M) n x)+(jb (val L) n x))-val M) (val M) k))/4294967296:Nat):Int)))),
     oF (1-(((((iq (2*(iK (val L) (val M) n x)+(jb (val L) n x)) k+4294967296)-(gT M).getD k 0)-(jt ((2*(iK (val L) (val M) n x)+(jb (val L) n x))-val M) (val M) k))/4294967296:Nat):Int)) aD,.o 88 (.int aD:ai (.v (.int .u64 (1-(((((iq (2*(iK (val L) (val M) n x)+(jb (val L) n x)) k+4294967296)-(gT M).getD k 0)-(jt ((2*(iK (val L) (val M) n x)+(jb (val L) n x))-val M) (val M) k))/4294967296:Nat):Int)))) (.v (.int .u64 ((1-((((iq (2*(iK (val L) (val M) n x)+(jb (val L) n x)) k+4294967296)-(gT M).getD k 0)-(jt ((2*(iK (val L) (val M) n x)+(jb (val L) n x))-val M) (val M) k))/4294967296):Nat):Int)))),
     gW ((k:Int)+1) aD]<|.e (ae [.o 12 (.int (by rw[hq]):ai (.v (.int .u64 ((1-((((iq (2*(iK (val L) (val M) n x)+(jb (val L) n x)) k+4294967296)-(gT M).getD k 0)-(jt ((2*(iK (val L) (val M) n x)+(jb (val L) n x))-val M) (val M) k))/4294967296):Nat):Int))) (.v (.int .u64 (jt ((2*(iK (val L) (val M) n x)+(jb (val L) n x))-val M) (val M) (k+1):Int)))),.b 23 (Ci rfl aZ tg:Bx.le (.row false 150 ((gT M).length+1) 1 (λi' j'=>if i'=k/\0<=j'/\j'<0+1 then[.v (.int .u32 ((((((iq (2*(iK (val L) (val M) n x)+(jb (val L) n x)) k+4294967296)-(gT M).getD k 0)-(jt ((2*(iK (val L) (val M) n x)+(jb (val L) n x))-val M) (val M) k))%4294967296)%4294967296:Nat):Int))].getD (j'-0) .any else(iW (ky ((2*(iK (val L) (val M) n x)+(jb (val L) n x))-val M) (2*(iK (val L) (val M) n x)+(jb (val L) n x)) k ((gT M).length+1))) i' j')) (.row false 150 ((gT M).length+1) 1 (iW (ky ((2*(iK (val L) (val M) n x)+(jb (val L) n x))-val M) (2*(iK (val L) (val M) n x)+(jb (val L) n x)) (k+1) ((gT M).length+1)))))])) aG)
  (λhk=>by
    exact gX (aa [tF 65 ((((gT M).length+1:Nat):Int)<(((gT M).length+1:Nat):Int)) aD]<|.e (ae [.b 23 (.iD (by rw[GH (bp _)]):Bx.le (.row false 150 ((gT M).length+1) 1 (iW (ky ((2*(iK (val L) (val M) n x)+(jb (val L) n x))-val M) (2*(iK (val L) (val M) n x)+(jb (val L) n x)) ((gT M).length+1) ((gT M).length+1)))) (.row false 150 ((gT M).length+1) 1 (iW (iI ((2*(iK (val L) (val M) n x)+(jb (val L) n x))-val M) ((gT M).length+1)))))])) aG) aK:iF 17 f277 (TG L M n x 0) (.exit 4) ⟨106,false,[(8,.e (iP ((n:Int)-1-(x:Int)))),(7,.own 23),(6,.own 19),(1,.e (gO (gT M))),(0,.e (gO L))],[(23,.row false 150 ((gT M).length+1) 1 (iW (iI ((2*(iK (val L) (val M) n x)+(jb (val L) n x))-val M) ((gT M).length+1)))),(19,.row false 150 L.length 1 (iW (iI ((kz (val L) (val M) n x)*2^(n-x)) L.length)))]⟩) (ae [.o 12 (.int (by rw[Fa];rfl):ai (.v (.int .u64 0)) (.v (.int .u64 (jt ((2*(iK (val L) (val M) n x)+(jb (val L) n x))-val M) (val M) 0:Int)))),.b 23 (.iD (by rw[DP]):Bx.le (.row false 150 ((gT M).length+1) 1 (iW (iI (2*(iK (val L) (val M) n x)+(jb (val L) n x)) ((gT M).length+1)))) (.row false 150 ((gT M).length+1) 1 (iW (ky ((2*(iK (val L) (val M) n x)+(jb (val L) n x))-val M) (2*(iK (val L) (val M) n x)+(jb (val L) n x)) 0 ((gT M).length+1)))))]),.o 90 (an ((n:Int)-1-(x:Int)) ((n-1-x:Nat):Int) aD),.a (aD:0<(32:Int)),gW ((n-1-x:Nat):Int) aD,.o 93 (an ((n:Int)-1-(x:Int)) ((n-1-x:Nat):Int) aD),.a (aD:0<(32:Int)),gW ((n-1-x:Nat):Int) aD,
       iX (((n-1-x)/32:Nat):Int) (L.length) aD,.a (aD:((n-1-x)/32)<L.length),.o 96 (.int iJ:ai (.v (.int .u32 (((iI ((kz (val L) (val M) n x)*2^(n-x)) L.length).getD ((n-1-x)/32) 0:Nat):Int))) (.v (.int .u32 (iq ((kz (val L) (val M) n x)*2^((n-1-x)+1)) ((n-1-x)/32):Int)))),.o 97 (an ((n:Int)-1-(x:Int)) ((n-1-x:Nat):Int) aD),.a (aD:0<(32:Int)),.a (aD:0<=((((n-1-x)%32:Nat):Int):Int)/\((((n-1-x)%32:Nat):Int):Int)<=((32:Nat):Int)),.o 100 (.int sw:ai (.v (.int .u32 (bits .or .u32 (iq ((kz (val L) (val M) n x)*2^((n-1-x)+1)) ((n-1-x)/32):Int) (IntKind.u32.wrap (1*2^((n-1-x)%32)))))) (.v (.int .u32 ((iq ((kz (val L) (val M) n x)*2^((n-1-x)+1)) ((n-1-x)/32)+2^((n-1-x)%32):Nat):Int)))),
       iX (((n-1-x)/32:Nat):Int) (L.length) aD,.a (aD:((n-1-x)/32)<L.length),.o 29 (an ((n:Int)-1-(x:Int)) ((n-1-x:Nat):Int) aD),
       gW (((n-1-x:Nat):Int)-1) aD]<|.e (ae [.o 8 (an (((n-1-x:Nat):Int)-1) ((n:Int)-1-((x+1:Nat):Int)) aS),.b 23 (.iD (by rw[J5]):Bx.le (.row false 150 ((gT M).length+1) 1 (iW (iI ((2*(iK (val L) (val M) n x)+(jb (val L) n x))-val M) ((gT M).length+1)))) (.row false 150 ((gT M).length+1) 1 (iW (iI (iK (val L) (val M) n (x+1)) ((gT M).length+1))))),.b 19 (Ci rfl (by rw[mu];omega) abV:Bx.le (.row false 150 L.length 1 (λi' j'=>if i'=((n-1-x)/32)/\0<=j'/\j'<0+1 then[.v (.int .u32 ((iq ((kz (val L) (val M) n x)*2^((n-1-x)+1)) ((n-1-x)/32)+2^((n-1-x)%32):Nat):Int))].getD (j'-0) .any else(iW (iI ((kz (val L) (val M) n x)*2^(n-x)) L.length)) i' j')) (.row false 150 L.length 1 (iW (iI ((kz (val L) (val M) n (x+1))*2^(n-(x+1))) L.length))))]))) aG)
  (λhx=>by
    exact gX (aa [tF 28 (0<=((n:Int)-1-(n:Int))) aD,.z 19,.z 23]<|.e (ae [.o 7 (.e (xL (mu _ _).symm):ai (.sl false ((gT M).length+1) 1 (iW (iI (iK (val L) (val M) n n) ((gT M).length+1)))) (gO (iI (iK (val L) (val M) n n) ((gT M).length+1)))),.o 6 (.e (xL (mu _ _).symm):ai (.sl false L.length 1 (iW (iI ((kz (val L) (val M) n n)*2^(n-n)) L.length))) (gO (iI ((kz (val L) (val M) n n)*2^(n-n)) L.length)))])) aG) aK:iF 5 f277 (TH L M n 0) (.exit 0) ⟨106,false,[(7,.e (gO (iI (iK (val L) (val M) n n) ((gT M).length+1)))),(6,.e (gO (iI ((kz (val L) (val M) n n)*2^(n-n)) L.length)))],[]⟩) (ae [.o 8 (an ((n:Int)-1) ((n:Int)-1-((0:Nat):Int)) aS),.b 23 (Eo rfl (λi=>by rw[PR.1,Fj]):Bx.le (.row false 150 ((gT M).length+1) 1 (λ_ j_=>[.v (.int .u32 0)].getD j_ .any)) (.row false 150 ((gT M).length+1) 1 (iW (iI (iK (val L) (val M) n 0) ((gT M).length+1))))),.b 19 (Eo rfl (λi=>by rw[PR.2,cB,Fj]):Bx.le (.row false 150 L.length 1 (λ_ j_=>[.v (.int .u32 0)].getD j_ .any)) (.row false 150 L.length 1 (iW (iI ((kz (val L) (val M) n 0)*2^(n-0)) L.length))))]),.cf (wI _ (sn _ _) aU:uN 311 [gO (iI ((kz (val L) (val M) n n)*2^(n-n)) L.length)] _),.cf (wI _ (sn _ _) aU:uN 311 [gO (iI (iK (val L) (val M) n n) ((gT M).length+1))] _)]<|rQ (.hH [gO (gT (iI ((kz (val L) (val M) n n)*2^(n-n)) L.length)),gO (gT (iI (iK (val L) (val M) n n) ((gT M).length+1)))]) (.hH [gO (gK (val L/val M)),gO (gK (val L%val M))]) (by rw[he.1,he.2,AO f1,AO f2,cV,bV,bW])) 
def ae8(m:Nat)(h:(gK m).length<=10000):gJ 311 [gO (gK m)] (gO (gK m)):=by
 have:=(wI (gK m) (kO m) aD).pc;rwa[show gT (gK m)=gK m from uK m]at this
def B2(m:Nat)(h:(gK m).length<=10000):gJ 276 [gO (gK m)] (iP (gU m)):=by
 have:=TA (gK m) (kO m) aD;rwa[jR]at this
def aeW(m n:Nat)(h:(gK m).length<=10000)(k:(gK n).length<=10000):gJ 315 [gO (gK m),gO (gK n)] (iP (kv m n)):=by
 have:=TE (gK m) (gK n) (kO m) (kO n) aD aD;rwa[jR,jR]at this
def LU(m n:Nat)(h:(gK m).length<=10000)(k:(gK n).length<=10000):gJ 316 [gO (gK m),gO (gK n)] (gO (gK (m+n))):=by
 have:=aeT (gK m) (gK n) (kO m) (kO n) aD aD;rwa[jR,jR]at this
def ae6(m n:Nat)(h:(gK m).length<=10000)(k:n<=m):gJ 359 [gO (gK m),gO (gK n)] (gO (gK (m-n))):=by
 have:=ae7 (gK m) (gK n) (kO m) (kO n) aD (by rw[jR,jR];exact k);rwa[jR,jR]at this
def LV(m n:Nat)(h:(gK m).length<=10000)(k:n<=1000000):gJ 278 [gO (gK m),iP (n:Int)] (gO (gK (m*2^n))):=by
 have:=ae3 (gK m) n (kO m) aD aD;rwa[jR]at this
def ae4(m n:Nat)(h:(gK m).length<=10000)(k:n<=1000000):gJ 314 [gO (gK m),iP (n:Int)] (gO (gK (m/2^n))):=by
 have:=ae5 (gK m) n (kO m) aD aD;rwa[jR]at this
def ae0(m n:Nat)(h:(gK m).length<=10000)(k:(gK n).length<=10000)(h0:0<n):gJ 277 [gO (gK m),gO (gK n)] (.hH [gO (gK (m/n)),gO (gK (m%n))]):=by
 have:=ae1 (gK m) (gK n) _ (kO m) (kO n) aD aD (by rw[jR];exact h0) rfl;rwa[jR,jR]at this
def afz(neg:Bool)(p:Nat)(ie:8<=p)(gS:p<=512):gJ 317 [bP neg,iP p] (gM (canon neg (2^p-1) (16384-(p:Int)))):=by
 have g0:gU (1*2^p)=p+1:=by rw[bX];exact tR (bp _) (eH aF aD)
 have g1:(gK 1).length<=256:=nI aF;have g2:(gK (1*2^p)).length<=256:=nI aD;have g4:1<=1*2^p:=by rw[bX];exact bu aF 
 have g3:(gK ((1*2^p)-1)).length<=256:=nI (by have:=sg (dP (1*2^p) 1);omega);exact aj call317 func317 (aa [.o 6 (.e uC:ai (.sl false 1 1 λi_ j_=>[.v (.int .u32 1)].getD (i_*1+j_) (.v (.bool false))) (gO (gK 1))),af [gO (gK 1),iP p] (LV _ _ aD aD),.o 9 (.e uC:ai (.sl false 1 1 λi_ j_=>[.v (.int .u32 1)].getD (i_*1+j_) (.v (.bool false))) (gO (gK 1))),af [gO (gK (1*2^p)),gO (gK 1)] (ae6 _ _ aD aE),gW (16384-(p:Int)) aD,af [bP neg,gO (gK ((1*2^p)-1)),iP (16384-(p:Int))] (Cd _ _ _ aD aD aD)]<|rQ (gM (canon neg ((1*2^p)-1) (16384-(p:Int)))) (gM (canon neg (2^p-1) (16384-(p:Int)))) (by rw[bX])) 
noncomputable def yP(neg:Bool)(m:Nat)(e:Int)(more:Bool)(p:Nat)(up:Bool)(h1:(gK m).length<=2900)(lh:-200000<=e)(kF:e<=200000)(ie:8<=p)(gS:p<=512)(Q:Nat)(U:Bool)(hq:ks m e more p (neg != up)=Q)(hU:U=(neg != up))(hl:(gK Q).length<=2901):Tr prog Tb:=by
 have hb:=vQ h1;have kx:iO m e p<=1000000:=by unfold iO;omega
 have rp:(iO m e p:Int)<=max (gU m:Int) (-16384-e):=by unfold iO;omega
 have g4:=vQ hl;exact aa [af [gO (gK Q)] (B2 _ aD)]<|.w (0<(gU Q:Int))
  (λk1=>aa [tB 53 (bk k1),af [gO (gK Q)] (B2 _ aD),gW ((gU Q:Int)+e) aD,gW (((gU Q:Int)+e)+(iO m e p:Int)) aD]<|.w (16384<(((gU Q:Int)+e)+(iO m e p:Int)))
   (λk2=>aa [tB 61 (bk k2)]<|.w (U=true)
    (λk3=>aa [tB 63 k3,.o 64 (.e qM:ai (.agg aq) (gM ix))]<|rR (.hH [gM (jK neg m e more p up),iP (jD neg m e more p up)]) (by
      have h0:Q≠0:=by intro h;rw[h]at k1;exact absurd k1 aF 
      obtain⟨g1,g2⟩:=(Oj (e:=e) hq h0 aD).1 (by rw[<-hU];simp[k3]);exact .iD (by rw[g1,g2]):E.le (.hH [gM ix,iP 9]) (.hH [gM (jK neg m e more p up),iP (jD neg m e more p up)])))
    (λk3=>aa [tB 63 (bc k3),af [bP neg,iP p] (afz _ _ aD aD)]<|rR (.hH [gM (jK neg m e more p up),iP (jD neg m e more p up)]) (by
      have h0:Q≠0:=by intro h;rw[h]at k1;exact absurd k1 aF 
      obtain⟨g1,g2⟩:=(Oj (e:=e) hq h0 aD).2 (by rw[<-hU];simp[k3]);exact .iD (by rw[g1,g2]):E.le (.hH [gM (canon neg (2^p-1) (16384-(p:Int))),iP 0]) (.hH [gM (jK neg m e more p up),iP (jD neg m e more p up)]))))
   (λk2=>aa [tB 61 (bl k2),gW (e+(iO m e p:Int)) aD,af [bP neg,gO (gK Q),iP (e+(iO m e p:Int))] (Cd _ _ _ aD aD aD)]<|rR (.hH [gM (jK neg m e more p up),iP (jD neg m e more p up)]) (by
      obtain⟨g1,g2⟩:=Oh (e:=e) hq (.inr aD);exact .iD (by rw[g1,g2]):E.le (.hH [gM (canon neg Q (e+(iO m e p:Int))),iP 0]) (.hH [gM (jK neg m e more p up),iP (jD neg m e more p up)]))))
  (λk1=>aa [tB 53 (bl k1),gW (e+(iO m e p:Int)) aD,af [bP neg,gO (gK Q),iP (e+(iO m e p:Int))] (Cd _ _ _ aD aD aD)]<|rR (.hH [gM (jK neg m e more p up),iP (jD neg m e more p up)]) (by
      have h0:Q=0:=by
       apply bY;intro h;have:=mZ h;omega
      obtain⟨g1,g2⟩:=Oh (e:=e) hq (.inl h0);exact .iD (by rw[g1,g2]):E.le (.hH [gM (canon neg Q (e+(iO m e p:Int))),iP 0]) (.hH [gM (jK neg m e more p up),iP (jD neg m e more p up)])))
def TY(neg:Bool)(m:Nat)(e:Int)(more:Bool)(p:Nat)(up:Bool)(h1:(gK m).length<=2900)(lh:-200000<=e)(kF:e<=200000)(ie:8<=p)(gS:p<=512):gJ 279 [bP neg,gO (gK m),iP e,bP more,iP p,bP up] (.hH [gM (jK neg m e more p up),iP (jD neg m e more p up)]):=by
 have hb:=vQ h1;have kx:iO m e p<=1000000:=by unfold iO;omega
 have rp:(iO m e p:Int)<=max (gU m:Int) (-16384-e):=by unfold iO;omega
 have g1:=xw (cz m (2^iO m e p));have g2:=xw (dj m (2^iO m e p));have l1:(gK 1).length<=256:=nI aF;have g3:(gK ((m/2^iO m e p)+1)).length<=2901:=RY aD aD;have g5:=vQ (m:=m/2^iO m e p) (bM g1 h1);exact aj call279 func279 (aa [af [gO (gK m)] (ae8 _ aD),af [gO (gK m)] (B2 _ aD),gW ((gU m:Int)-p) aD,gW ((-16384)-e) aD,.o 27 (an (if 0>(if((-16384)-e)>((gU m:Int)-p)then((-16384)-e)else((gU m:Int)-p))then 0 else(if((-16384)-e)>((gU m:Int)-p)then((-16384)-e)else((gU m:Int)-p))) (iO m e p:Int) (by unfold iO;(repeat' split)<;>omega)),af [gO (gK m),iP (iO m e p:Int)] (ae4 _ _ aD aD)]<|.w (0<(iO m e p:Int))
  (λk1=>aa [tB 32 (bk k1),af [gO (gK (m/2^(iO m e p))),iP (iO m e p:Int)] (LV _ _ aD aD),af [gO (gK ((m/2^(iO m e p))*2^(iO m e p))),gO (gK m)] (aeW _ _ aD aD)]<|.w ((kv ((m/2^(iO m e p))*2^(iO m e p)) m)=0)
   (λk2=>by
    have iJ:m%2^(iO m e p)=0:=(R9 _ _).1 k2;exact aa [tB 39 (bd k2)]<|.w (more=true)
     (λk3=>.w (neg=up)
      (λk4=>aa [tB 43 (tU (a8 k4)),tB 44 k3]<|yP neg m e more p up h1 lh kF ie gS (m/2^(iO m e p)) false (by unfold ks;simp[k3,k4,iJ]) (by first|rfl|simp[k3,k4,iJ]) aD)
      (λk4=>aa [tB 43 (tS (a7 k4)),tB 44 k3,.o 49 (.e uC:ai (.sl false 1 1 λi_ j_=>[.v (.int .u32 1)].getD (i_*1+j_) (.v (.bool false))) (gO (gK 1))),af [gO (gK (m/2^(iO m e p))),gO (gK 1)] (LU _ _ aD aD)]<|yP neg m e more p up h1 lh kF ie gS ((m/2^(iO m e p))+1) true (by unfold ks;simp[k3,k4,iJ]) (by first|rfl|simp[k3,k4,iJ]) aD))
     (λk3=>aa [tB 44 (bc k3)]<|yP neg m e more p up h1 lh kF ie gS (m/2^(iO m e p)) (!(neg==up)) (by unfold ks;simp[k3,iJ]) (by first|rfl|simp[k3,iJ]) aD))
   (λk2=>by
    have iJ:m%2^(iO m e p)≠0:=λh=>k2 ((R9 _ _).2 h)
    exact aa [tB 39 (bg k2)]<|.w (neg=up)
     (λk3=>aa [tB 43 (tU (a8 k3))]<|yP neg m e more p up h1 lh kF ie gS (m/2^(iO m e p)) false (by unfold ks;simp[k3,iJ]) (by first|rfl|simp[k3,iJ]) aD)
     (λk3=>aa [tB 43 (tS (a7 k3)),.o 49 (.e uC:ai (.sl false 1 1 λi_ j_=>[.v (.int .u32 1)].getD (i_*1+j_) (.v (.bool false))) (gO (gK 1))),af [gO (gK (m/2^(iO m e p))),gO (gK 1)] (LU _ _ aD aD)]<|yP neg m e more p up h1 lh kF ie gS ((m/2^(iO m e p))+1) true (by unfold ks;simp[k3,iJ]) (by first|rfl|simp[k3,iJ]) aD)))
  (λk1=>by
   have iJ:m%2^(iO m e p)=0:=by rw[show(iO m e p)=0 by omega,bV,cT]
   exact aa [tB 32 (bl k1)]<|.w (more=true)
    (λk2=>.w (neg=up)
     (λk3=>aa [tB 43 (tU (a8 k3)),tB 44 k2]<|yP neg m e more p up h1 lh kF ie gS (m/2^(iO m e p)) false (by unfold ks;simp[k2,k3,iJ]) (by first|rfl|simp[k2,k3,iJ]) aD)
     (λk3=>aa [tB 43 (tS (a7 k3)),tB 44 k2,.o 49 (.e uC:ai (.sl false 1 1 λi_ j_=>[.v (.int .u32 1)].getD (i_*1+j_) (.v (.bool false))) (gO (gK 1))),af [gO (gK (m/2^(iO m e p))),gO (gK 1)] (LU _ _ aD aD)]<|yP neg m e more p up h1 lh kF ie gS ((m/2^(iO m e p))+1) true (by unfold ks;simp[k2,k3,iJ]) (by first|rfl|simp[k2,k3,iJ]) aD))
    (λk2=>aa [tB 44 (bc k2)]<|yP neg m e more p up h1 lh kF ie gS (m/2^(iO m e p)) (!(neg==up)) (by unfold ks;simp[k2,iJ]) (by first|rfl|simp[k2,iJ]) aD))) 
def N4{a b:Nat}:0<=kv a b↔b<=a:=by
 unfold kv;split
 .simp;omega
 .split<;>simp<;>omega
def TQ(m n:Nat)(hl:(gK m).length<=1000)(hn:n<=65536):gJ 246 [gO (gK m),iP (n:Int)] (gO (gK (m*2^n))):=
 G0 (kO m) call246 (λA c w h _=>agn A c (gK m) n w h hl hn) λA c B w e w' h hB r=>by rw[jR]at r;exact rl B w e w' hB r
def afo(m n:Nat)(hl:(gK m).length<=3000)(hn:(gK n).length<=3000):gJ 247 [gO (gK m),gO (gK n)] (gO (gK (m+n))):=
 Al (kO m) (kO n) call247 (λA c B d w h k _=>agq A B c d (gK m) (gK n) w h k hl hn) λB w e w' hB r=>by rw[jR,jR]at r;exact rl B w e w' hB r
def TR(m n:Nat)(hl:(gK m).length<=3000)(hn:n<=m):gJ 248 [gO (gK m),gO (gK n)] (gO (gK (m-n))):=
 Al (kO m) (kO n) call248 (λA c B d w h k _=>ago A B c d (gK m) (gK n) w h k hl (xw hn) (by rw[jR,jR];exact hn)) λB w e w' hB r=>by rw[jR,jR]at r;exact rl B w e w' hB r
def afn(m n:Nat)(hl:(gK m).length<=3000)(hn:(gK n).length<=3000):gJ 156 [gO (gK m),gO (gK n)] (iP (kv m n)):=by
 refine Al (kO m) (kO n) call156 (λA c B d w h k _=>U7 A B c d (gK m) (gK n) w h k (uK _) (uK _) aD aD) ?_;rw[jR,jR];exact rv
def U9(a b:Dy)(ha:tJ a)(hb:tJ b):gJ 172 [gM a,gM b] (gM (iM a b)):=by
 obtain⟨ha1,ha2,ha3⟩:=ha;obtain⟨kJ,mB,oY⟩:=hb;have ba:=vQ ha1;have bb:=vQ kJ;obtain⟨k,hk⟩:∃ k,min a.e b.e=k:=⟨_,rfl⟩
 exact aj call172 func172 (.w (((gK a.m).length:Int)=0)
  (λk1=>by
   have a0:a.m=0:=pY.1 aD;exact aa [tB 11 (a8 k1)]<|rQ (gM b) (gM (iM a b)) (by rw[show iM a b=b by unfold iM;rw[bj a0]]))
  (λk1=>by
   have a0:a.m≠0:=λh=>k1 (by rw[pY.2 h];rfl)
   exact aa [tB 11 (a7 k1)]<|.w (((gK b.m).length:Int)=0)
    (λk2=>by
     have b0:b.m=0:=pY.1 aD;exact aa [tB 16 (a8 k2)]<|rQ (gM a) (gM (iM a b)) (by rw[show iM a b=a by unfold iM;rw[bh a0,bj b0]]))
    (λk2=>by
     have b0:b.m≠0:=λh=>k2 (by rw[pY.2 h];rfl)
     have hX:(gK (a.m*2^((a.e-k).toNat))).length<=1400:=nI (by rw[qw a0];omega);have hY:(gK (b.m*2^((b.e-k).toNat))).length<=1400:=nI (by rw[qw b0];omega);have hP:=RY hX hY;have hM:(gK ((a.m*2^((a.e-k).toNat))-(b.m*2^((b.e-k).toNat)))).length<=1400:=bM (xw (dP _ _)) hX;have hN:(gK ((b.m*2^((b.e-k).toNat))-(a.m*2^((a.e-k).toNat)))).length<=1400:=bM (xw (dP _ _)) hY;exact aa [tB 16 (a7 k2),.o 22 (an (if b.e<a.e then b.e else a.e) k (by rw[<-hk];split<;>omega)),gW (a.e-k) aD,.o 28 (an (a.e-k) ((a.e-k).toNat:Int) aD),af [gO (gK a.m),iP ((a.e-k).toNat:Int)] (TQ _ _ aD aD),gW (b.e-k) aD,.o 35 (an (b.e-k) ((b.e-k).toNat:Int) aD),af [gO (gK b.m),iP ((b.e-k).toNat:Int)] (TQ _ _ aD aD)]<|.w (a.neg=b.neg)
      (λk3=>aa [tB 41 (a8 k3),af [gO (gK (a.m*2^((a.e-k).toNat))),gO (gK (b.m*2^((b.e-k).toNat)))] (afo _ _ aD aD),af [bP a.neg,gO (gK ((a.m*2^((a.e-k).toNat))+(b.m*2^((b.e-k).toNat)))),iP k] (Cd _ _ _ aD aD aD)]<|rQ (gM (canon a.neg ((a.m*2^((a.e-k).toNat))+(b.m*2^((b.e-k).toNat))) k)) (gM (iM a b)) (by have h:=ah6 (s:=a.neg) a0 b0 hk;rw[show(⟨a.neg,b.m,b.e⟩:Dy)=b by rw[k3]]at h;exact congrArg gM h.symm))
      (λk3=>aa [tB 41 (a7 k3),af [gO (gK (a.m*2^((a.e-k).toNat))),gO (gK (b.m*2^((b.e-k).toNat)))] (afn _ _ aD aD)]<|.w (0<=(kv (a.m*2^((a.e-k).toNat)) (b.m*2^((b.e-k).toNat))))
       (λk4=>by
        have hc:(b.m*2^((b.e-k).toNat))<=(a.m*2^((a.e-k).toNat)):=N4.1 k4;exact aa [tB 52 (bk k4),af [gO (gK (a.m*2^((a.e-k).toNat))),gO (gK (b.m*2^((b.e-k).toNat)))] (TR _ _ aD aD),af [bP a.neg,gO (gK ((a.m*2^((a.e-k).toNat))-(b.m*2^((b.e-k).toNat)))),iP k] (Cd _ _ _ aD aD aD)]<|rQ (gM (canon a.neg ((a.m*2^((a.e-k).toNat))-(b.m*2^((b.e-k).toNat))) k)) (gM (iM a b)) (congrArg gM (ah3 (s:=a.neg) (t:=b.neg) a0 b0 hk k3 hc).symm))
       (λk4=>by
        have hc:(a.m*2^((a.e-k).toNat))<(b.m*2^((b.e-k).toNat)):=gF λh=>k4 (N4.2 h)
        exact aa [tB 52 (bl k4),af [gO (gK (b.m*2^((b.e-k).toNat))),gO (gK (a.m*2^((a.e-k).toNat)))] (TR _ _ aD aD),af [bP b.neg,gO (gK ((b.m*2^((b.e-k).toNat))-(a.m*2^((a.e-k).toNat)))),iP k] (Cd _ _ _ aD aD aD)]<|rQ (gM (canon b.neg ((b.m*2^((b.e-k).toNat))-(a.m*2^((a.e-k).toNat))) k)) (gM (iM a b)) (congrArg gM (ah4 (s:=a.neg) (t:=b.neg) a0 b0 hk k3 hc).symm)))))) 
def r9(a b:Dy)(ha:tJ a)(hb:tJ b):gJ 97 [gM a,gM b] (iP (jh a b)):=by
 have hn:tJ (iB b):=⟨hb.len,hb.lo,hb.hi⟩
 exact aj call97 func97 (aa [af [gM a] (vC _),af [gM b] (vC _)]<|.w ((Dy.jc a)=(Dy.jc b))
  (λk1=>aa [tB 13 (bd k1)]<|.w ((Dy.jc a)=0)
   (λk2=>aa [tB 18 (a8 k2)]<|rQ (iP 0) (iP (jh a b)) (by rw[A6,bh (by simpa using k1),bj k2]))
   (λk2=>aa [tB 18 (a7 k2),af [gM a] (Hg _ ha),af [gM b] (Hg _ hb)]<|.w ((Dy.jj a)=(Dy.jj b))
    (λk3=>aa [tB 23 (bd k3),af [gM b] (qp _),af [gM a,gM (iB b)] (U9 _ _ ha hn),af [gM (iM a (iB b))] (vC _)]<|rQ (iP (Dy.jc (iM a (iB b)))) (iP (jh a b)) (by rw[A6,bh (by simpa using k1),bh k2,bh (by simpa using k3)]))
    (λk3=>aa [tB 23 (bg k3),af [gM a] (Hg _ ha),af [gM b] (Hg _ hb)]<|.w ((decide ((Dy.jj a)<(Dy.jj b)))=(decide (0<(Dy.jc a))))
     (λk4=>aa [tB 31 (a8 k4)]<|rQ (iP (-1)) (iP (jh a b)) (by rw[A6,bh (by simpa using k1),bh k2,bj k3,bj (by simpa using k4)]))
     (λk4=>aa [tB 31 (a7 k4)]<|rQ (iP 1) (iP (jh a b)) (by rw[A6,bh (by simpa using k1),bh k2,bj k3,bh (by simpa using k4)])))))
  (λk1=>aa [tB 13 (bg k1)]<|.w ((Dy.jc a)<(Dy.jc b))
   (λk2=>aa [tB 16 (bk k2)]<|rQ (iP (-1)) (iP (jh a b)) (by rw[A6,bj k1,bj k2]))
   (λk2=>aa [tB 16 (bl k2)]<|rQ (iP 1) (iP (jh a b)) (by rw[A6,bj k1,bh k2])))) 
def LW(d:Dy)(p:Nat)(up:Bool)(h1:(gK d.m).length<=2900)(lh:-200000<=d.e)(kF:d.e<=200000)(ie:8<=p)(gS:p<=512):gJ 230 [gM d,iP p,bP up] (.hH [gM (ji d p up),iP (jl d p up)]):=
 aj call230 func230 (ae [.c (TY d.neg d.m d.e false p up aD aD aD aD aD)]) 
def Ee(a b:Dy)(p:Nat)(ha:a.gQ)(hb:b.gQ)(ie:8<=p)(gS:p<=512):gJ 229 [gM a,gM b,iP p] (iP 0):=
 aj call229 func229 (ae [af [gM a] (yV _ aE),af [gM b] (yV _ aE),af [iP p] (rI _),ag 16 (jV (p:Int)) (mm.2 ⟨aD,aD⟩)]) 
def vz(a b:Dy)(p:Nat)(up:Bool)(ha:a.gQ)(hb:b.gQ)(ie:8<=p)(gS:p<=512):gJ 154 [gM a,gM b,iP p,bP up] (.hH [gM (ji (iM a b) p up),iP (jl (iM a b) p up)]):=by
 have hx:=ah7 ha hb;exact aj call154 func154 (ae [af [gM a,gM b,iP p] (Ee _ _ _ aE aE aD aD),ah 16 ((0:Int) != 0) aF,.c (U9 a b (Fp.Dy.gQ.ng aE) (Fp.Dy.gQ.ng aE)),af [gM (iM a b),iP p,bP up] (LW _ _ _ hx.1 hx.2.1 hx.2.2 aD aD)]) 
def uG(a b:Dy)(p:Nat)(up:Bool)(ha:a.gQ)(hb:b.gQ)(ie:8<=p)(gS:p<=512):gJ 194 [gM a,gM b,iP p,bP up] (.hH [gM (ji (kG a b) p up),iP (jl (kG a b) p up)]):=by
 have hx:=aeA ha hb;exact aj call194 func194 (ae [af [gM a,gM b,iP p] (Ee _ _ _ aE aE aD aD),ah 16 ((0:Int) != 0) aF,af [gM a,gM b] (agt _ _ (Fp.Dy.gQ.ng aE) (Fp.Dy.gQ.ng aE)),af [gM (kG a b),iP p,bP up] (LW _ _ _ hx.1 hx.2.1 hx.2.2 aD aD)]) 
def yQ(a b:Dy)(p:Nat)(up:Bool)(ha:a.gQ)(hb:b.gQ)(b0:b.m≠0)(ie:8<=p)(gS:p<=512):gJ 225 [gM a,gM b,iP p,bP up] (.hH [gM (jU a b p up),iP (mH a b p up)]):=by
 by_cases a0:a.m=0
 .have e1:jU a b p up=ix/\mH a b p up=0:=by unfold jU mH;rw[bj a0,bj a0];exact⟨rfl,rfl⟩
  exact aj call225 func225 (aa [af [gM a,gM b,iP p] (Ee _ _ _ aE aE aD aD),ah 19 ((0:Int) != 0) aF,ah 25 (((gK b.m).length:Int)==0) (mv (pv b0)),ag 30 (((gK a.m).length:Int)==0) (qk (pY.2 a0)),.o 31 (.e qM:ai (.agg aq) (gM ix))]<|rQ (.hH [gM ix,iP 0]) (.hH [gM (jU a b p up),iP (mH a b p up)]) (by rw[e1.1,e1.2])) 
 .have va:=ha.gK;have vb:=hb.gK;have xa:=ha.exp;have xb:=hb.exp;have ra:=ha.range.resolve_left a0;have rb:=hb.range.resolve_left b0;have pa:=mZ a0;have pb:=mZ b0;have hK:j8 a b p 2=p+2+gU b.m-gU a.m:=rfl;have bs:=qw a0 (j8 a b p 2);have z1:(gK (a.m*2^j8 a b p 2)).length<=2900:=nI aD;have z2:(gK (a.m*2^j8 a b p 2/b.m)).length<=2900:=nI (by have:=sg (cz (a.m*2^j8 a b p 2) b.m);omega);have z3:(gK (a.m*2^j8 a b p 2%b.m)).length<=2900:=nI (by have:=sg (dv (bA (a.m*2^j8 a b p 2) (ep b0)));omega);have om:decide (0<(gU (a.m*2^j8 a b p 2%b.m):Int))=decide (a.m*2^j8 a b p 2%b.m≠0):=by
   by_cases h:a.m*2^j8 a b p 2%b.m=0
   .rw [h,ri];rfl
   .have:=mZ h;rw[bk h,bk aD]
  exact aj call225 func225 (aa [af [gM a,gM b,iP p] (Ee _ _ _ aE aE aD aD),ah 19 ((0:Int) != 0) aF,ah 25 (((gK b.m).length:Int)==0) (mv (pv b0)),ah 30 (((gK a.m).length:Int)==0) (mv (pv a0)),gW ((p:Int)+2) aD,af [gO (gK b.m)] (B2 _ aD),gW (((p:Int)+2)+(gU b.m:Int)) aD,af [gO (gK a.m)] (B2 _ aD),
   gW ((((p:Int)+2)+(gU b.m:Int))-(gU a.m:Int)) aD,.o 42 (an (if((((p:Int)+2)+(gU b.m:Int))-(gU a.m:Int))>0 then((((p:Int)+2)+(gU b.m:Int))-(gU a.m:Int))else 0) (j8 a b p 2:Int) aQ),af [gO (gK a.m),iP (j8 a b p 2:Int)] (LV _ _ aD aD),af [gO (gK (a.m*2^(j8 a b p 2))),gO (gK b.m)] (ae0 _ _ aD aD aD),
   gW (a.e-b.e) aD,gW ((a.e-b.e)-(j8 a b p 2:Int)) aD,af [gO (gK ((a.m*2^(j8 a b p 2))%b.m))] (B2 _ aD),.c (TY (! (a.neg==b.neg)) ((a.m*2^(j8 a b p 2))/b.m) ((a.e-b.e)-(j8 a b p 2:Int)) (decide (0<(gU ((a.m*2^(j8 a b p 2))%b.m):Int))) p up aD aD aD aD aD)]<|rQ (.hH [gM (jK (!(a.neg==b.neg)) ((a.m*2^(j8 a b p 2))/b.m) ((a.e-b.e)-(j8 a b p 2:Int)) (decide (0<(gU ((a.m*2^(j8 a b p 2))%b.m):Int))) p up),iP (jD (!(a.neg==b.neg)) ((a.m*2^(j8 a b p 2))/b.m) ((a.e-b.e)-(j8 a b p 2:Int)) (decide (0<(gU ((a.m*2^(j8 a b p 2))%b.m):Int))) p up)]) (.hH [gM (jU a b p up),iP (mH a b p up)]) (by unfold jU mH;rw[bh a0,bh a0,<-om];rfl)) 
abbrev LQ(x:Iv)(y:Iv)(p):=iZ (ji (kG x.lo y.lo) p false) (ji (kG x.lo y.lo) p false)
abbrev LR(x:Iv)(y:Iv)(p):=iT (ji (kG x.lo y.lo) p true) (ji (kG x.lo y.lo) p true)
def AB(p:Int):gJ 152 [iP p] (bP (jV p)):=
 aj call152 func152 (.w (8<=p)
  (λk1=>aa [tB 4 (bk k1)]<|rQ (bP (decide (p<=512))) (bP (jV p)) (by simp[jV,k1]))
  (λk1=>aa [tB 4 (bl k1)]<|rQ (bP false) (bP (jV p)) (by simp[jV,k1]))) 
def n7 : gJ 153 [] (gR gL):=
 aj call153 func153 (ae [.o 1 (.e xR:ai (.agg [bP false,.v (.slice none 0 0),iP 0,bP false,.v (.slice none 0 0),iP 0,bP true]) (gR gL))]) 
def vA(d:Dy):gJ 84 [gM d] (gR (gZ d)):=
 aj call84 func84 (.nil) 
def T3 : gJ 95 [gM ix] (bP true):=
 aj call95 func95 (ae [ah 4 ix.neg rfl,ag 10 (((gK ix.m).length:Int)==0) (qk (pY.2 rfl)),ag 15 (ix.e==0) rfl]) 
def LY(x:Iv)(hx:x.gQ):gJ 49 [gR x] (bP true):=by
 by_cases kp:x.all=true
 .obtain ⟨h1,h2⟩:=KU hx kp;exact aj call49 func49 (ae [ag 4 x.all kp,.c (by rw[h1];exact T3:gJ 95 [gM x.lo] (bP true)),.c (by rw[h2];exact T3:gJ 95 [gM x.hi] (bP true))]) 
 .replace kp:x.all=false:=by simpa using kp
  obtain⟨h1,h2,h3⟩:=oB hx kp;exact aj call49 func49 (ae [ah 4 x.all kp,af [gM x.lo] (yV _ aE),af [gM x.hi] (yV _ aE),.c (r9 x.lo x.hi (Fp.Dy.gQ.ng aE) (Fp.Dy.gQ.ng aE)),tB 27 (bk h3)]) 
def tw(x:Iv)(hx:x.gQ):gJ 105 [gR x] (bP (!x.all)):=
 aj call105 func105 (ae [af [gR x] (LY _ aE)]) 
def xH(lo hi:Dy)(e f:Int):gJ 155 [gM lo,iP e,gM hi,iP f] (gR (mj lo e hi f)):=
 aj call155 func155 (.w (e=0)
  (λk1=>aa [tB 10 (bd k1)]<|.w (f=0)
   (λk2=>aa [tB 13 (bd k2)]<|rQ (gR (Iv.mk lo hi false)) (gR (mj lo e hi f)) (by unfold mj;simp[k1,k2];try rfl))
   (λk2=>aa [tB 13 (bg k2),af [] n7]<|rQ (gR gL) (gR (mj lo e hi f)) (by unfold mj;simp[k1,k2])))
  (λk1=>aa [tB 10 (bg k1),af [] n7]<|rQ (gR gL) (gR (mj lo e hi f)) (by unfold mj;simp[k1]))) 
def xG(x y:Iv)(p:Nat)(hx:x.gQ)(hy:y.gQ)(ie:8<=p)(gS:p<=512):gJ 79 [gR x,gR y,iP p] (gR (jx x y p)):=
 aj call79 func79 (aa [af [iP p] (AB _),ag 12 (jV (p:Int)) (mm.2 ⟨aD,aD⟩),af [gR x] (tw _ aE)]<|.w (x.all=true)
  (λk1=>aa [tB 16 (tU k1),af [] n7]<|rQ (gR gL) (gR (jx x y p)) (by unfold jx;simp[k1]))
  (λk1=>by
   have mg:=oB hx (bc k1);have v1:=mg.1;have v2:=mg.2.1;have v3:=mg.2.2;exact aa [tB 16 (tS (bc k1)),af [gR y] (tw _ aE)]<|.w (y.all=true)
    (λk2=>aa [tB 21 (tU k2),af [] n7]<|rQ (gR gL) (gR (jx x y p)) (by unfold jx;simp[k1,k2]))
    (λk2=>by
     have mg:=oB hy (bc k2);have v4:=mg.1;have v5:=mg.2.1;have v6:=mg.2.2;exact aa [tB 21 (tS (bc k2)),.c (vz x.lo y.lo p false aE aE aD aD),.c (vz x.hi y.hi p true aE aE aD aD),af [gM (ji (iM x.lo y.lo) p false),iP (jl (iM x.lo y.lo) p false),gM (ji (iM x.hi y.hi) p true),iP (jl (iM x.hi y.hi) p true)] (xH _ _ _ _)]<|rQ (gR (mj (ji (iM x.lo y.lo) p false) (jl (iM x.lo y.lo) p false) (ji (iM x.hi y.hi) p true) (jl (iM x.hi y.hi) p true))) (gR (jx x y p)) (by unfold jx;simp[k1,k2])))) 
def LX(x:Iv)(hx:x.gQ):gJ 227 [gR x] (gR (oC x)):=
 aj call227 func227 (aa [af [gR x] (tw _ aE)]<|.w (x.all=true)
  (λk1=>aa [tB 4 (tU k1),af [] n7]<|rQ (gR gL) (gR (oC x)) (by unfold oC;simp[k1]))
  (λk1=>by
   have mg:=oB hx (bc k1);have v1:=mg.1;have v2:=mg.2.1;have v3:=mg.2.2;exact aa [tB 4 (tS (bc k1)),af [gM x.hi] (qp _),af [gM x.lo] (qp _)]<|rQ (gR (Iv.mk (iB x.hi) (iB x.lo) false)) (gR (oC x)) (by unfold oC;simp[k1];try rfl))) 
def B6(x y:Iv)(p:Nat)(hx:x.gQ)(hy:y.gQ)(ie:8<=p)(gS:p<=512):gJ 145 [gR x,gR y,iP p] (gR (je x y p)):=
 aj call145 func145 (ae [af [gR y] (LX _ aE),af [gR x,gR (oC y),iP p] (xG _ _ _ aE (rZ aE) aD aD)]) 
def yR(a b:Dy)(ha:a.gQ)(hb:b.gQ):gJ 195 [gM a,gM b] (gM (iZ a b)):=by
 have hc:=wS a b;exact aj call195 func195 (aa [.c (r9 a b (Fp.Dy.gQ.ng aE) (Fp.Dy.gQ.ng aE))]<|.w ((jh a b)<=0)
  (λk1=>aa [tB 8 (bk k1)]<|rQ (gM a) (gM (iZ a b)) (by unfold iZ;rw[bh aD]))
  (λk1=>aa [tB 8 (bl k1)]<|rQ (gM b) (gM (iZ a b)) (by unfold iZ;rw[bj aD]))) 
def wF(a b:Dy)(ha:a.gQ)(hb:b.gQ):gJ 196 [gM a,gM b] (gM (iT a b)):=by
 have hc:=wS a b;exact aj call196 func196 (aa [.c (r9 a b (Fp.Dy.gQ.ng aE) (Fp.Dy.gQ.ng aE))]<|.w (0<=(jh a b))
  (λk1=>aa [tB 8 (bk k1)]<|rQ (gM a) (gM (iT a b)) (by unfold iT;rw[bh aD]))
  (λk1=>aa [tB 8 (bl k1)]<|rQ (gM b) (gM (iT a b)) (by unfold iT;rw[bj aD]))) 
def T2(x:Iv)(hx:x.gQ):gJ 54 [gR x] (iP (lR x)):=
 aj call54 func54 (aa [af [gR x] (tw _ aE)]<|.w (x.all=true)
  (λk1=>aa [tB 4 (tU k1)]<|rQ (iP 0) (iP (lR x)) (by unfold lR;simp[k1]))
  (λk1=>by
   have mg:=oB hx (bc k1);have v1:=mg.1;have v2:=mg.2.1;have v3:=mg.2.2;exact aa [tB 4 (tS (bc k1)),af [gM x.lo] (vC _)]<|.w (0<(Dy.jc x.lo))
    (λk2=>aa [tB 9 (bk k2)]<|rQ (iP 1) (iP (lR x)) (by unfold lR;simp[k1,k2]))
    (λk2=>aa [tB 9 (bl k2),af [gM x.hi] (vC _)]<|.w ((Dy.jc x.hi)<0)
     (λk3=>aa [tB 13 (bk k3)]<|rQ (iP (-1)) (iP (lR x)) (by unfold lR;simp[k1,k2,k3]))
     (λk3=>aa [tB 13 (bl k3)]<|rQ (iP 0) (iP (lR x)) (by unfold lR;simp[k1,k2,k3]))))) 
def wE(x:Iv)(hx:x.gQ)(kp:x.all=false):gJ 177 [gR x] (gM (ku x)):=by
 obtain⟨v1,v2,v3⟩:=oB hx kp;exact aj call177 func177 (aa [af [gM x.lo] (qp _),af [gM (iB x.lo),gM x.hi] (wF _ _ (pL aE) aE)]<|rQ (gM (iT (iB x.lo) x.hi)) (gM (ku x)) (by rw[ac7 v1 v2 v3])) 
def afA(x:Iv)(hx:x.gQ)(kp:x.all=false):gJ 226 [gR x] (gM (mW x)):=by
 obtain⟨v1,v2,v3⟩:=oB hx kp;have hm:=adi kp v1 v2 v3;exact aj call226 func226 (aa [af [gR x] (T2 _ aE)]<|.w ((lR x)=0)
  (λk1=>aa [tB 5 (a8 k1),.o 6 (.e qM:ai (.agg aq) (gM ix))]<|rQ (gM ix) (gM (mW x)) (by rw[hm,bj k1]))
  (λk1=>aa [tB 5 (a7 k1),af [gM x.hi] (qp _),af [gM x.lo,gM (iB x.hi)] (wF _ _ aE (pL aE))]<|rQ (gM (iT x.lo (iB x.hi))) (gM (mW x)) (by rw[hm,bh k1]))) 
def B5(x:Iv)(hx:x.gQ):gJ 144 [gR x] (gR (ib x)):=
 aj call144 func144 (aa [af [gR x] (tw _ aE)]<|.w (x.all=true)
  (λk1=>aa [tB 4 (tU k1),af [] n7]<|rQ (gR gL) (gR (ib x)) (by unfold ib;simp[k1]))
  (λk1=>by
   have mg:=oB hx (bc k1);have v1:=mg.1;have v2:=mg.2.1;have v3:=mg.2.2;exact aa [tB 4 (tS (bc k1)),af [gR x] (afA _ aE (bc aE)),af [gR x] (wE _ aE (bc aE))]<|rQ (gR (Iv.mk (mW x) (ku x) false)) (gR (ib x)) (by unfold ib;simp[k1];try rfl))) 
def TZ(x y:Iv):gJ 193 [gR x,gR y] (.sl true 4 6 λi_ j_=>(iy x.lo++iy y.lo++iy x.lo++iy y.hi++iy x.hi++iy y.lo++iy x.hi++iy y.hi).getD (i_*6+j_) (.v (.bool false))):=
 aj call193 func193 (.nil) 
def qH(x y:Iv)(p:Nat)(hx:x.gQ)(hy:y.gQ)(ie:8<=p)(gS:p<=512):gJ 119 [gR x,gR y,iP p] (gR (ia x y p)):=
 aj call119 func119 (aa [af [iP p] (AB _),ag 15 (jV (p:Int)) (mm.2 ⟨aD,aD⟩),af [gR x] (tw _ aE)]<|.w (x.all=true)
  (λk1=>aa [tB 19 (tU k1),af [] n7]<|rQ (gR gL) (gR (ia x y p)) (by unfold ia;simp[k1]))
  (λk1=>by
   have mg:=oB hx (bc k1);have v1:=mg.1;have v2:=mg.2.1;have v3:=mg.2.2;exact aa [tB 19 (tS (bc k1)),af [gR y] (tw _ aE)]<|.w (y.all=true)
    (λk2=>aa [tB 24 (tU k2),af [] n7]<|rQ (gR gL) (gR (ia x y p)) (by unfold ia;simp[k1,k2]))
    (λk2=>by
     have mg:=oB hy (bc k2);have v4:=mg.1;have v5:=mg.2.1;have v6:=mg.2.2;exact aa [tB 24 (tS (bc k2)),af [gR x,gR y] (TZ _ _),.u 70,ag 32 (decide ((0:Int)<4)) aF,iX 0 4 aD,iX 0 2 aD,iX 0 4 aD,
      iX 1 2 aD,.c (uG x.lo y.lo p false aE aE aD aD),iX 0 4 aD,iX 0 2 aD,iX 0 4 aD,iX 1 2 aD,.c (uG x.lo y.lo p true aE aE aD aD)]<|.w ((jl (kG x.lo y.lo) p false)=0)
      (λk3=>aa [tB 66 (bd k3)]<|.w ((jl (kG x.lo y.lo) p true)=0)
       (λk4=>aa [tB 69 (bd k4),ag 73 ((0:Int)==0) aF,af [gM (ji (kG x.lo y.lo) p false),gM (ji (kG x.lo y.lo) p false)] (yR _ _ (lY _ _ _ _ _ _ aD aD) (lY _ _ _ _ _ _ aD aD)),af [gM (ji (kG x.lo y.lo) p true),gM (ji (kG x.lo y.lo) p true)] (wF _ _ (lY _ _ _ _ _ _ aD aD) (lY _ _ _ _ _ _ aD aD)),gW (0+1) aD,.k [9,69,68,8,7,6,2] [8,6],ag 32 (decide (((0+1):Int)<4)) aF,iX (0+1) 4 aD,iX 0 2 aD,iX (0+1) 4 aD,iX 1 2 aD,.c (uG x.lo y.hi p false aE aE aD aD),iX (0+1) 4 aD,iX 0 2 aD,iX (0+1) 4 aD,iX 1 2 aD,.c (uG x.lo y.hi p true aE aE aD aD)]<|.w ((jl (kG x.lo y.hi) p false)=0)
        (λk5=>aa [tB 66 (bd k5)]<|.w ((jl (kG x.lo y.hi) p true)=0)
         (λk6=>aa [tB 69 (bd k6),ah 73 (((0+1):Int)==0) aF,af [gM (LQ x y p),gM (ji (kG x.lo y.hi) p false)] (yR _ _ (qj (lY _ _ _ _ _ _ aD aD) (lY _ _ _ _ _ _ aD aD)) (lY _ _ _ _ _ _ aD aD)),af [gM (LR x y p),gM (ji (kG x.lo y.hi) p true)] (wF _ _ (py (lY _ _ _ _ _ _ aD aD) (lY _ _ _ _ _ _ aD aD)) (lY _ _ _ _ _ _ aD aD)),
          gW ((0+1)+1) aD,.k [9,69,68,8,7,6,2] [8,6],ag 32 (decide ((((0+1)+1):Int)<4)) aF,iX ((0+1)+1) 4 aD,iX 0 2 aD,iX ((0+1)+1) 4 aD,
          iX 1 2 aD,.c (uG x.hi y.lo p false aE aE aD aD),iX ((0+1)+1) 4 aD,iX 0 2 aD,iX ((0+1)+1) 4 aD,iX 1 2 aD,.c (uG x.hi y.lo p true aE aE aD aD)]<|.w ((jl (kG x.hi y.lo) p false)=0)
          (λk7=>aa [tB 66 (bd k7)]<|.w ((jl (kG x.hi y.lo) p true)=0)
           (λk8=>aa [tB 69 (bd k8),ah 73 ((((0+1)+1):Int)==0) aF,af [gM (iZ (LQ x y p) (ji (kG x.lo y.hi) p false)),gM (ji (kG x.hi y.lo) p false)] (yR _ _ (qj (qj (lY _ _ _ _ _ _ aD aD) (lY _ _ _ _ _ _ aD aD)) (lY _ _ _ _ _ _ aD aD)) (lY _ _ _ _ _ _ aD aD)),af [gM (iT (LR x y p) (ji (kG x.lo y.hi) p true)),gM (ji (kG x.hi y.lo) p true)] (wF _ _ (py (py (lY _ _ _ _ _ _ aD aD) (lY _ _ _ _ _ _ aD aD)) (lY _ _ _ _ _ _ aD aD)) (lY _ _ _ _ _ _ aD aD)),
            gW (((0+1)+1)+1) aD,.k [9,69,68,8,7,6,2] [8,6],ag 32 (decide (((((0+1)+1)+1):Int)<4)) aF,iX (((0+1)+1)+1) 4 aD,iX 0 2 aD,
            iX (((0+1)+1)+1) 4 aD,iX 1 2 aD,.c (uG x.hi y.hi p false aE aE aD aD),iX (((0+1)+1)+1) 4 aD,iX 0 2 aD,
            iX (((0+1)+1)+1) 4 aD,iX 1 2 aD,.c (uG x.hi y.hi p true aE aE aD aD)]<|.w ((jl (kG x.hi y.hi) p false)=0)
            (λk9=>aa [tB 66 (bd k9)]<|.w ((jl (kG x.hi y.hi) p true)=0)
             (λk10=>aa [tB 69 (bd k10),ah 73 (((((0+1)+1)+1):Int)==0) aF,af [gM (iZ (iZ (LQ x y p) (ji (kG x.lo y.hi) p false)) (ji (kG x.hi y.lo) p false)),gM (ji (kG x.hi y.hi) p false)] (yR _ _ (qj (qj (qj (lY _ _ _ _ _ _ aD aD) (lY _ _ _ _ _ _ aD aD)) (lY _ _ _ _ _ _ aD aD)) (lY _ _ _ _ _ _ aD aD)) (lY _ _ _ _ _ _ aD aD)),af [gM (iT (iT (LR x y p) (ji (kG x.lo y.hi) p true)) (ji (kG x.hi y.lo) p true)),gM (ji (kG x.hi y.hi) p true)] (wF _ _ (py (py (py (lY _ _ _ _ _ _ aD aD) (lY _ _ _ _ _ _ aD aD)) (lY _ _ _ _ _ _ aD aD)) (lY _ _ _ _ _ _ aD aD)) (lY _ _ _ _ _ _ aD aD)),
              gW ((((0+1)+1)+1)+1) aD,.k [9,69,68,8,7,6,2] [8,6],ah 32 (decide ((((((0+1)+1)+1)+1):Int)<4)) aF]<|rR (gR (ia x y p)) (by
      exact .iD (by
       unfold ia;rw[bh (by simp[k1,k2])];rw[show lK _ _ x y=_ from bj ⟨⟨k3,k4⟩,⟨k5,k6⟩,⟨k7,k8⟩,⟨k9,k10⟩⟩];rw[Sv,Ss];try rfl):E.le (gR (Iv.mk (iZ (iZ (iZ (iZ (ji (kG x.lo y.lo) p false) (ji (kG x.lo y.lo) p false)) (ji (kG x.lo y.hi) p false)) (ji (kG x.hi y.lo) p false)) (ji (kG x.hi y.hi) p false)) (iT (iT (iT (iT (ji (kG x.lo y.lo) p true) (ji (kG x.lo y.lo) p true)) (ji (kG x.lo y.hi) p true)) (ji (kG x.hi y.lo) p true)) (ji (kG x.hi y.hi) p true)) false)) (gR (ia x y p))))
             (λk10=>aa [tB 69 (bg k10),af [] n7]<|rR (gR (ia x y p)) (by
      exact .iD (by
       unfold ia;rw[bh (by simp[k1,k2])];rw[show lK _ _ x y=_ from bh (by rintro⟨⟨_,_⟩,⟨_,_⟩,⟨_,_⟩,⟨_,q⟩⟩;exact k10 q)]):E.le (gR gL) (gR (ia x y p)))))
            (λk9=>aa [tB 66 (bg k9),af [] n7]<|rR (gR (ia x y p)) (by
      exact .iD (by
       unfold ia;rw[bh (by simp[k1,k2])];rw[show lK _ _ x y=_ from bh (by rintro⟨⟨_,_⟩,⟨_,_⟩,⟨_,_⟩,⟨q,_⟩⟩;exact k9 q)]):E.le (gR gL) (gR (ia x y p)))))
           (λk8=>aa [tB 69 (bg k8),af [] n7]<|rR (gR (ia x y p)) (by
      exact .iD (by
       unfold ia;rw[bh (by simp[k1,k2])];rw[show lK _ _ x y=_ from bh (by rintro⟨⟨_,_⟩,⟨_,_⟩,⟨_,q⟩,⟨_,_⟩⟩;exact k8 q)]):E.le (gR gL) (gR (ia x y p)))))
          (λk7=>aa [tB 66 (bg k7),af [] n7]<|rR (gR (ia x y p)) (by
      exact .iD (by
       unfold ia;rw[bh (by simp[k1,k2])];rw[show lK _ _ x y=_ from bh (by rintro⟨⟨_,_⟩,⟨_,_⟩,⟨q,_⟩,⟨_,_⟩⟩;exact k7 q)]):E.le (gR gL) (gR (ia x y p)))))
         (λk6=>aa [tB 69 (bg k6),af [] n7]<|rR (gR (ia x y p)) (by
      exact .iD (by
       unfold ia;rw[bh (by simp[k1,k2])];rw[show lK _ _ x y=_ from bh (by rintro⟨⟨_,_⟩,⟨_,q⟩,⟨_,_⟩,⟨_,_⟩⟩;exact k6 q)]):E.le (gR gL) (gR (ia x y p)))))
        (λk5=>aa [tB 66 (bg k5),af [] n7]<|rR (gR (ia x y p)) (by
      exact .iD (by
       unfold ia;rw[bh (by simp[k1,k2])];rw[show lK _ _ x y=_ from bh (by rintro⟨⟨_,_⟩,⟨q,_⟩,⟨_,_⟩,⟨_,_⟩⟩;exact k5 q)]):E.le (gR gL) (gR (ia x y p)))))
       (λk4=>aa [tB 69 (bg k4),af [] n7]<|rR (gR (ia x y p)) (by
      exact .iD (by
       unfold ia;rw[bh (by simp[k1,k2])];rw[show lK _ _ x y=_ from bh (by rintro⟨⟨_,q⟩,⟨_,_⟩,⟨_,_⟩,⟨_,_⟩⟩;exact k4 q)]):E.le (gR gL) (gR (ia x y p)))))
      (λk3=>aa [tB 66 (bg k3),af [] n7]<|rR (gR (ia x y p)) (by
      exact .iD (by
       unfold ia;rw[bh (by simp[k1,k2])];rw[show lK _ _ x y=_ from bh (by rintro⟨⟨q,_⟩,⟨_,_⟩,⟨_,_⟩,⟨_,_⟩⟩;exact k3 q)]):E.le (gR gL) (gR (ia x y p))))))) 
def qn(x y:Iv)(p:Nat)(hx:x.gQ)(hy:y.gQ)(ie:8<=p)(gS:p<=512):gJ 139 [gR x,gR y,iP p] (gR (ik x y p)):=
 aj call139 func139 (aa [af [iP p] (AB _),ag 15 (jV (p:Int)) (mm.2 ⟨aD,aD⟩),af [gR x] (tw _ aE)]<|.w (x.all=true)
  (λk1=>aa [tB 19 (tU k1),af [] n7]<|rQ (gR gL) (gR (ik x y p)) (by unfold ik;simp[k1]))
  (λk1=>by
   have mg:=oB hx (bc k1);have v1:=mg.1;have v2:=mg.2.1;have v3:=mg.2.2;exact aa [tB 19 (tS (bc k1)),af [gR y] (tw _ aE)]<|.w (y.all=true)
    (λk2=>aa [tB 24 (tU k2),af [] n7]<|rQ (gR gL) (gR (ik x y p)) (by unfold ik;simp[k1,k2]))
    (λk2=>by
     have mg:=oB hy (bc k2);have v4:=mg.1;have v5:=mg.2.1;have v6:=mg.2.2;exact aa [tB 24 (tS (bc k2)),af [gR y] (T2 _ aE)]<|.w ((lR y)=0)
      (λk3=>aa [tB 30 (a8 k3),af [] n7]<|rQ (gR gL) (gR (ik x y p)) (by unfold ik;simp[k1,k2,k3]))
      (λk3=>by
       have y0:=VI hy k3;exact aa [tB 30 (a7 k3),af [gR x,gR y] (TZ _ _),.u 70,ag 37 (decide ((0:Int)<4)) aF,iX 0 4 aD,iX 0 2 aD,iX 0 4 aD,iX 1 2 aD,.c (yQ x.lo y.lo p false aE aE y0.1 aD aD),iX 0 4 aD,iX 0 2 aD,iX 0 4 aD,iX 1 2 aD,.c (yQ x.lo y.lo p true aE aE y0.1 aD aD)]<|.w ((mH x.lo y.lo p false)=0)
        (λk4=>aa [tB 71 (bd k4)]<|.w ((mH x.lo y.lo p true)=0)
         (λk5=>aa [tB 74 (bd k5),ag 78 ((0:Int)==0) aF,af [gM (jU x.lo y.lo p false),gM (jU x.lo y.lo p false)] (yR _ _ (nZ aD aD) (nZ aD aD)),af [gM (jU x.lo y.lo p true),gM (jU x.lo y.lo p true)] (wF _ _ (nZ aD aD) (nZ aD aD)),gW (0+1) aD,.k [9,74,73,8,7,6,2] [8,6],ag 37 (decide (((0+1):Int)<4)) aF,iX (0+1) 4 aD,iX 0 2 aD,iX (0+1) 4 aD,iX 1 2 aD,.c (yQ x.lo y.hi p false aE aE y0.2 aD aD),iX (0+1) 4 aD,iX 0 2 aD,iX (0+1) 4 aD,iX 1 2 aD,.c (yQ x.lo y.hi p true aE aE y0.2 aD aD)]<|.w ((mH x.lo y.hi p false)=0)
          (λk6=>aa [tB 71 (bd k6)]<|.w ((mH x.lo y.hi p true)=0)
           (λk7=>aa [tB 74 (bd k7),ah 78 (((0+1):Int)==0) aF,af [gM (iZ (jU x.lo y.lo p false) (jU x.lo y.lo p false)),gM (jU x.lo y.hi p false)] (yR _ _ (qj (nZ aD aD) (nZ aD aD)) (nZ aD aD)),af [gM (iT (jU x.lo y.lo p true) (jU x.lo y.lo p true)),gM (jU x.lo y.hi p true)] (wF _ _ (py (nZ aD aD) (nZ aD aD)) (nZ aD aD)),
            gW ((0+1)+1) aD,.k [9,74,73,8,7,6,2] [8,6],ag 37 (decide ((((0+1)+1):Int)<4)) aF,iX ((0+1)+1) 4 aD,iX 0 2 aD,iX ((0+1)+1) 4 aD,
            iX 1 2 aD,.c (yQ x.hi y.lo p false aE aE y0.1 aD aD),iX ((0+1)+1) 4 aD,iX 0 2 aD,iX ((0+1)+1) 4 aD,iX 1 2 aD,.c (yQ x.hi y.lo p true aE aE y0.1 aD aD)]<|.w ((mH x.hi y.lo p false)=0)
            (λk8=>aa [tB 71 (bd k8)]<|.w ((mH x.hi y.lo p true)=0)
             (λk9=>aa [tB 74 (bd k9),ah 78 ((((0+1)+1):Int)==0) aF,af [gM (iZ (iZ (jU x.lo y.lo p false) (jU x.lo y.lo p false)) (jU x.lo y.hi p false)),gM (jU x.hi y.lo p false)] (yR _ _ (qj (qj (nZ aD aD) (nZ aD aD)) (nZ aD aD)) (nZ aD aD)),af [gM (iT (iT (jU x.lo y.lo p true) (jU x.lo y.lo p true)) (jU x.lo y.hi p true)),gM (jU x.hi y.lo p true)] (wF _ _ (py (py (nZ aD aD) (nZ aD aD)) (nZ aD aD)) (nZ aD aD)),
              gW (((0+1)+1)+1) aD,.k [9,74,73,8,7,6,2] [8,6],ag 37 (decide (((((0+1)+1)+1):Int)<4)) aF,iX (((0+1)+1)+1) 4 aD,iX 0 2 aD,
              iX (((0+1)+1)+1) 4 aD,iX 1 2 aD,.c (yQ x.hi y.hi p false aE aE y0.2 aD aD),iX (((0+1)+1)+1) 4 aD,iX 0 2 aD,
              iX (((0+1)+1)+1) 4 aD,iX 1 2 aD,.c (yQ x.hi y.hi p true aE aE y0.2 aD aD)]<|.w ((mH x.hi y.hi p false)=0)
              (λk10=>aa [tB 71 (bd k10)]<|.w ((mH x.hi y.hi p true)=0)
               (λk11=>aa [tB 74 (bd k11),ah 78 (((((0+1)+1)+1):Int)==0) aF,af [gM (iZ (iZ (iZ (jU x.lo y.lo p false) (jU x.lo y.lo p false)) (jU x.lo y.hi p false)) (jU x.hi y.lo p false)),gM (jU x.hi y.hi p false)] (yR _ _ (qj (qj (qj (nZ aD aD) (nZ aD aD)) (nZ aD aD)) (nZ aD aD)) (nZ aD aD)),af [gM (iT (iT (iT (jU x.lo y.lo p true) (jU x.lo y.lo p true)) (jU x.lo y.hi p true)) (jU x.hi y.lo p true)),gM (jU x.hi y.hi p true)] (wF _ _ (py (py (py (nZ aD aD) (nZ aD aD)) (nZ aD aD)) (nZ aD aD)) (nZ aD aD)),
                gW ((((0+1)+1)+1)+1) aD,.k [9,74,73,8,7,6,2] [8,6],ah 37 (decide ((((((0+1)+1)+1)+1):Int)<4)) aF]<|rR (gR (ik x y p)) (by
      exact .iD (by
       unfold ik;rw[bh (by simp[k1,k2,k3])];rw[show lK _ _ x y=_ from bj ⟨⟨k4,k5⟩,⟨k6,k7⟩,⟨k8,k9⟩,⟨k10,k11⟩⟩];rw[Sv,Ss];try rfl):E.le (gR (Iv.mk (iZ (iZ (iZ (iZ (jU x.lo y.lo p false) (jU x.lo y.lo p false)) (jU x.lo y.hi p false)) (jU x.hi y.lo p false)) (jU x.hi y.hi p false)) (iT (iT (iT (iT (jU x.lo y.lo p true) (jU x.lo y.lo p true)) (jU x.lo y.hi p true)) (jU x.hi y.lo p true)) (jU x.hi y.hi p true)) false)) (gR (ik x y p))))
               (λk11=>aa [tB 74 (bg k11),af [] n7]<|rR (gR (ik x y p)) (by
      exact .iD (by
       unfold ik;rw[bh (by simp[k1,k2,k3])];rw[show lK _ _ x y=_ from bh (by rintro⟨⟨_,_⟩,⟨_,_⟩,⟨_,_⟩,⟨_,q⟩⟩;exact k11 q)]):E.le (gR gL) (gR (ik x y p)))))
              (λk10=>aa [tB 71 (bg k10),af [] n7]<|rR (gR (ik x y p)) (by
      exact .iD (by
       unfold ik;rw[bh (by simp[k1,k2,k3])];rw[show lK _ _ x y=_ from bh (by rintro⟨⟨_,_⟩,⟨_,_⟩,⟨_,_⟩,⟨q,_⟩⟩;exact k10 q)]):E.le (gR gL) (gR (ik x y p)))))
             (λk9=>aa [tB 74 (bg k9),af [] n7]<|rR (gR (ik x y p)) (by
      exact .iD (by
       unfold ik;rw[bh (by simp[k1,k2,k3])];rw[show lK _ _ x y=_ from bh (by rintro⟨⟨_,_⟩,⟨_,_⟩,⟨_,q⟩,⟨_,_⟩⟩;exact k9 q)]):E.le (gR gL) (gR (ik x y p)))))
            (λk8=>aa [tB 71 (bg k8),af [] n7]<|rR (gR (ik x y p)) (by
      exact .iD (by
       unfold ik;rw[bh (by simp[k1,k2,k3])];rw[show lK _ _ x y=_ from bh (by rintro⟨⟨_,_⟩,⟨_,_⟩,⟨q,_⟩,⟨_,_⟩⟩;exact k8 q)]):E.le (gR gL) (gR (ik x y p)))))
           (λk7=>aa [tB 74 (bg k7),af [] n7]<|rR (gR (ik x y p)) (by
      exact .iD (by
       unfold ik;rw[bh (by simp[k1,k2,k3])];rw[show lK _ _ x y=_ from bh (by rintro⟨⟨_,_⟩,⟨_,q⟩,⟨_,_⟩,⟨_,_⟩⟩;exact k7 q)]):E.le (gR gL) (gR (ik x y p)))))
          (λk6=>aa [tB 71 (bg k6),af [] n7]<|rR (gR (ik x y p)) (by
      exact .iD (by
       unfold ik;rw[bh (by simp[k1,k2,k3])];rw[show lK _ _ x y=_ from bh (by rintro⟨⟨_,_⟩,⟨q,_⟩,⟨_,_⟩,⟨_,_⟩⟩;exact k6 q)]):E.le (gR gL) (gR (ik x y p)))))
         (λk5=>aa [tB 74 (bg k5),af [] n7]<|rR (gR (ik x y p)) (by
      exact .iD (by
       unfold ik;rw[bh (by simp[k1,k2,k3])];rw[show lK _ _ x y=_ from bh (by rintro⟨⟨_,q⟩,⟨_,_⟩,⟨_,_⟩,⟨_,_⟩⟩;exact k5 q)]):E.le (gR gL) (gR (ik x y p)))))
        (λk4=>aa [tB 71 (bg k4),af [] n7]<|rR (gR (ik x y p)) (by
      exact .iD (by
       unfold ik;rw[bh (by simp[k1,k2,k3])];rw[show lK _ _ x y=_ from bh (by rintro⟨⟨q,_⟩,⟨_,_⟩,⟨_,_⟩,⟨_,_⟩⟩;exact k4 q)]):E.le (gR gL) (gR (ik x y p)))))))) 
abbrev ja(xs:List Iv):Nat->Nat->E:=λi j=>(iA (xs.getD i gL)).getD j .any
abbrev lj(M:List (List Iv)):Nat->Nat->E:=λi _=>ic (M.getD i [])
abbrev iS(M:List (List Iv)):Nat->Nat:=λq=>(M.getD q []).length
abbrev jH(M:List (List Iv)):Nat->Nat->Nat->E:=λq i j=>(iA ((M.getD q []).getD i gL)).getD j .any
def yA(x:Iv)(j:Nat)(hj:j<7):((iA x).getD j .any).nr 2=true:=by
 rcases j with _|_|_|_|_|_|_|j
 all_goals first|rfl|omega
def acv(xs:List Iv):(ic xs).nr 2=true:=rfl
def KW{T n:Nat}{xs:List Iv}{y:Iv}(hn:n=xs.length):
 Bx.le (.row true T (n+[y].length) 7 λi j=>if i<n then ja xs i j else(E.ke (ic [y])) (i-n) j) (.row true T (xs++[y]).length 7 (ja (xs++[y]))):=by
 subst hn;refine .row aJ λi j hi hj=>⟨.iD ?_,yA _ _ hj⟩
 by_cases h:i<xs.length
 .rw [bj h];show(iA (xs.getD i gL)).getD j .any=(iA ((xs++[y]).getD i gL)).getD j .any;congr 2;simp[bn,en h]
 .have lL:i=xs.length:=by simp at hi;omega
  subst lL;rw[bh h,cV];show(iA y).getD j .any=(iA ((xs++[y]).getD xs.length gL)).getD j .any;congr 2;simp[bn]
def iL(n:Nat)(c:Nat->Nat)(F:Nat->Nat->Iv)(x k:Nat):List (List Iv):=(List.range n).map λq=>(List.range (if q<x then c q else if q=x then k else 0)).map (F q)
def mn(n:Nat)(c:Nat->Nat)(F:Nat->Nat->Iv):List (List Iv):=(List.range n).map λq=>(List.range (c q)).map (F q)
def E4(n:Nat)(c:Nat->Nat)(F:Nat->Nat->Iv)(x k:Nat):(iL n c F x k).length=n:=by simp[iL]
def CG{n:Nat}{c:Nat->Nat}{F:Nat->Nat->Iv}{x k q:Nat}(h:q<n):(iL n c F x k).getD q []=(List.range (if q<x then c q else if q=x then k else 0)).map (F q):=by
 simp[iL,bn,h]
def MK{n:Nat}{c:Nat->Nat}{F:Nat->Nat->Iv}{q:Nat}(h:q<n):(mn n c F).getD q []=(List.range (c q)).map (F q):=by
 simp[mn,bn,h]
def DJ{n x k:Nat}{c:Nat->Nat}{F:Nat->Nat->Iv}(h:x<n):iS (iL n c F x k) x=k:=by simp only[iS,CG h];simp
def nu{α:Type}(y:α):[y].length=1:=rfl
def tz{n i:Nat}{F:Nat->Iv}(h:i<n):((List.range n).map F).getD i gL=F i:=by
 simp[bn,h]
def Ep{T1 T0 n n':Nat}{c:Nat->Nat}{F:Nat->Nat->Iv}(hn:n=n'):Bx.le (.iH true T1 T0 n 7 (λ_=>0) (λ_ _ _=>.any) .none) (.iH true T1 T0 n' 7 (iS (iL n' c F 0 0)) (jH (iL n' c F 0 0)) .none):=by
 subst hn;refine .iH rfl (λk hk=>?_) (λk i j hk hi hj=>absurd hi (bC i));show 0=((iL n c F 0 0).getD k []).length;rw[CG hk];simp
def Ck{T1 T0 n n' m x k:Nat}{c:Nat->Nat}{F:Nat->Nat->Iv}{y:Iv}(hn:n=n')(hm:m=n)(hx:x<n)(hy:y=F x k):
 Bx.le (.iH true T1 T0 n 7 (λq=>if q=x then iS (iL m c F x k) q+[y].length else iS (iL m c F x k) q)
  (λq i j=>if q=x then(if i<iS (iL m c F x k) q then jH (iL m c F x k) q i j else(E.ke (ic [y])) (i-iS (iL m c F x k) q) j)else jH (iL m c F x k) q i j) .none)
  (.iH true T1 T0 n' 7 (iS (iL m c F x (k+1))) (jH (iL m c F x (k+1))) .none):=by
 subst hn hm hy;have hl:∀ q,q<m->(if q=x then iS (iL m c F x k) q+[F x k].length else iS (iL m c F x k) q)=iS (iL m c F x (k+1)) q:=by
  intro q hq;simp only[iS,CG hq,cr,dL,cN,fu];by_cases h1:q=x
  .subst h1;simp
  .simp [h1]
 refine .iH rfl hl (λq i j hq hi hj=>⟨.iD ?_,yA _ _ hj⟩);by_cases h1:q=x
 .subst h1;rw[bj rfl]at hi ⊢;simp only[iS,jH,CG hq,cr,dL,cN,fu,eu,bF,bI]at hi ⊢;by_cases h2:i<k
  .rw [bj h2,tz h2,tz aD]
  .have:i=k:= aD ;subst this;rw[bh h2,cV,tz aD];rfl
 .rw [bh h1]at hi ⊢;simp only[iS,jH,CG hq,cr,dL,h1,bF]at hi ⊢
def Er{T1 T0 n n' m x:Nat}{c:Nat->Nat}{F:Nat->Nat->Iv}(hn:n=n'):Bx.le (.iH true T1 T0 n 7 (iS (iL m c F x (c x))) (jH (iL m c F x (c x))) .none) (.iH true T1 T0 n' 7 (iS (iL m c F (x+1) 0)) (jH (iL m c F (x+1) 0)) .none):=by
 subst hn;have:iL m c F x (c x)=iL m c F (x+1) 0:=by
  unfold iL;congr 1;funext q;congr 2;by_cases h:q<x
  .rw [bj h,bj aD]
  .by_cases h2:q=x
   .subst h2;rw[bh h,bj rfl,bj aD]
   .rw [bh h,bh h2,bh aD];split<;>rfl
 rw[this];exact .refl _
def E3(n:Nat)(c:Nat->Nat)(F:Nat->Nat->Iv):iL n c F n 0=mn n c F:=by
 unfold iL mn;apply dh;intro q hq;rw[bj (bD.1 hq)]
def BL{n:Nat}{M:List (List Iv)}(hn:n=M.length):E.le (.sl true n 1 λk _=>.sl true (iS M k) 7 (jH M k)) (gV M):=by subst hn;exact .refl _
def Sm{n:Nat}{c:Nat->Nat}{F:Nat->Nat->Iv}:E.le (.sl true n 1 λk _=>.sl true (iS (iL n c F n 0) k) 7 (jH (iL n c F n 0) k)) (gV (mn n c F)):=
 E.le.trans (BL (E4 _ _ _ _ _).symm) (.iD (by rw[E3]))
end Go.Proofs.YtkjkcjhacddojaaGreatDoor
namespace Go.Proofs.YtkjkcjhacddojaaGreatDoor.Fp
section
variable {a b:Dy} {k:Int}
end
def abg{m gm p:Nat}{e ge K:Int}(hp:1<=p)(hg:gU gm<=p)(rV:-16384<=ge)(k1:K<=e)(k2:K<=ge)
 (h:gm*2^(ge-K).toNat<=m*2^(e-K).toNat):gm*2^(ge-K).toNat<=ks m e false p false*2^(e+iO m e p-K).toNat:=by
 have hq:ks m e false p false=m/2^iO m e p:=by unfold ks;simp
 rw[hq];have hm:=ck m (2^iO m e p);have hr:=bA m (bu (n:=iO m e p) (aF:0<2));obtain⟨k,hk⟩:∃ k,k=iO m e p:=⟨_,rfl⟩
 rw[<-hk]at hm hr ⊢;have e1:(e+(k:Int)-K).toNat=k+(e-K).toNat:= aD ;rw[e1,bq];generalize hE:2^(e-K).toNat=E at *
 have FN:0<E:=by rw[<-hE];exact bu aF 
 have hmE:m*E<(m/2^k+1)*(2^k*E):=by
  rw[<-bw];refine cO ?_ FN;rw[bT,bX,bB];omega
 by_cases hc:e+k<=ge
 .
  have e2:(ge-K).toNat=(ge-(e+k)).toNat+(k+(e-K).toNat):= aD ;rw[e2,bq,bq 2 k,hE]at h ⊢;rw[<-bw]at h ⊢;generalize gm*2^(ge-(e+k)).toNat=g at *
  have:g<m/2^k+1:=by
   apply bY;intro h';have:=bL (2^k*E) (aD:m/2^k+1<=g);omega
  exact bL _ aD 
 .by_cases qe:k=0
  .subst qe;rw[bV,dR,bX];exact h
  .
   have hb:(gU m:Int)-p=k:=by unfold iO at hk;omega
   have ru:m≠0:=by intro h0;rw[h0]at hb;simp[gU]at hb;omega
   have h1:=qK ru;have h2:2^(gU m-1-k)<=m/2^k:=by
    rw[de (bu aF),<-bq];exact bM (bG aF (by have:=mZ ru;omega)) h1
   have h3:gm<2^p:=kB.1 hg;refine bM (bL _ (dv h3)) (bM ?_ (bL _ h2));rw[<-hE,<-bq,<-bq,<-bq];exact bG aF aD 
def PQ{m gm p:Nat}{e ge K:Int}(hp:1<=p)(hg:gU gm<=p)(rV:-16384<=ge)(k1:K<=e)(k2:K<=ge)
 (h:m*2^(e-K).toNat<=gm*2^(ge-K).toNat):ks m e false p true*2^(e+iO m e p-K).toNat<=gm*2^(ge-K).toNat:=by
 have hq0:ks m e false p false=m/2^iO m e p:=by unfold ks;simp
 have By:ks m e false p true=m/2^iO m e p+if m%2^iO m e p≠0 then 1 else 0:=by unfold ks;simp
 have hm:=ck m (2^iO m e p);obtain⟨k,hk⟩:∃ k,k=iO m e p:=⟨_,rfl⟩
 rw[By];rw[<-hk]at hm ⊢;have e1:(e+(k:Int)-K).toNat=k+(e-K).toNat:= aD ;rw[e1,bq];generalize hE:2^(e-K).toNat=E at *
 have FN:0<E:=by rw[<-hE];exact bu aF 
 by_cases hr:m%2^k=0
 .rw [bh aD,bK,<-bw];refine bM (gB ?_) h;congr 1;rw[bB];omega
 .rw [bj hr];have qe:k≠0:=by intro h0;rw[h0,bV,cT]at hr;exact hr rfl
  have iE:m/2^k*(2^k*E)<gm*2^(ge-K).toNat:=by
   refine bN ?_ h;rw[<-bw];refine cO ?_ FN;rw[bB];omega
  by_cases hc:e+k<=ge
  .have e2:(ge-K).toNat=(ge-(e+k)).toNat+(k+(e-K).toNat):= aD ;have e3:gm*2^(ge-K).toNat=gm*2^(ge-(e+k)).toNat*(2^k*E):=by rw[e2,bq,bq 2 k,hE,bw]
   rw[e3]at iE ⊢;generalize gm*2^(ge-(e+k)).toNat=g at *
   have:m/2^k<g:=akt iE;exact bL _ this
  .
   exfalso;have hb:(gU m:Int)-p=k:=by unfold iO at hk;omega
   have ru:m≠0:=by intro h0;rw[h0]at hr;simp at hr
   have h1:=qK ru;have oo:=mZ ru;have h3:gm<2^p:=kB.1 hg;have h4:gm*2^(ge-K).toNat<=2^(gU m-1)*E:=by
    refine bM (bL _ (dv h3)) ?_;rw[<-hE,<-bq,<-bq];exact bG aF aD 
   have h5:2^(gU m-1-k)<=m/2^k:=by
    rw[de (bu aF),<-bq];exact bM (bG aF aD) h1
   have h6:2^(gU m-1)*E<=m/2^k*(2^k*E):=by
    rw[<-bw];refine bL _ ?_;have:=bL (2^k) h5;rw[<-bq]at this;exact bM (bG aF aD) this
   omega
def P2(k:Int):Rat:=(2:Rat)^k
def rM(k:Int):0<P2 k:=Rat.zpow_pos aF 
def y8(a b:Int):P2 (a+b)=P2 a*P2 b:=Rat.zpow_add aF a b
def y9(n:Nat):P2 (n:Int)=((2^n:Nat):Rat):=by unfold P2;rw[Rat.zpow_natCast];simp
def WS:P2 0=1:=by have:=y9 0;simpa using this
def EM{e k:Int}(h:k<=e):P2 e=((2^(e-k).toNat:Nat):Rat)*P2 k:=by
 rw[<-y9,<-y8];congr 1;omega
def GJ{x y:Rat}(k:Int):x*P2 k<=y*P2 k↔x<=y:=
 ⟨λh=>aku h (rM k),λh=>fT h (dp (rM k))⟩
def rE{m n:Nat}{e f K:Int}(h1:K<=e)(h2:K<=f):(m:Rat)*P2 e<=(n:Rat)*P2 f↔m*2^(e-K).toNat<=n*2^(f-K).toNat:=by
 rw[EM h1,EM h2,<-fU,<-fU,GJ,<-dM,<-dM,ake]
def Dy.q(d:Dy):Rat:=((d.num d.e:Int):Rat)*P2 d.e
def An{d:Dy}{k:Int}(h:mO d k):d.q=((d.num k:Int):Rat)*P2 k:=by
 unfold Dy.q;rcases h with h|h
 .rw [uB h,uB h];simp
 .rw [GU h (b8 _),EM h,<-fU,Rat.intCast_mul,akf]
def Aq(a b:Dy):jh a b<=0↔a.q<=b.q:=by
 obtain⟨k,ka,kb⟩:∃ k:Int,k<=a.e/\k<=b.e:=⟨min a.e b.e,aD,aD⟩
 rw[nH (.inr ka) (.inr kb),An (.inr ka),An (.inr kb),GJ,Rat.intCast_le_intCast]
def sF(a:Dy):(iB a).q = -a.q:=by
 rw[An (CD (.inr (b8 a.e))),D3,ado,ajH];rfl
def sE(s:Bool)(m:Nat)(e:Int):(canon s m e).q=if s then -((m:Rat)*P2 e)else(m:Rat)*P2 e:=by
 rw[An (xU (b8 e)),Ai (b8 e)];have:(e-e).toNat=0:= aD ;rw[this];cases s<;>simp[ado,ajH,akf]
def uE(a:Dy):a.q=if a.neg then -((a.m:Rat)*P2 a.e)else(a.m:Rat)*P2 a.e:=by
 unfold Dy.q Dy.num Dy.jP;have:(a.e-a.e).toNat=0:= aD ;rw[this];cases a.neg<;>simp[ado,ajH,akf]
def Tu(a b:Dy):(kG a b).q=a.q*b.q:=by
 unfold kG;rw[sE,uE a,uE b,y8,dM];cases a.neg<;>cases b.neg<;>simp<;>grind
def sG:ix.q=0:=by rw[uE];simp[ix]
def LO{a b:Dy}(ha:a.lA)(hb:b.lA)(h:a.q=b.q):a=b:=by
 obtain⟨k,ka,kb⟩:∃ k:Int,k<=a.e/\k<=b.e:=⟨min a.e b.e,aD,aD⟩
 refine Jl ha hb (.inr ka) (.inr kb) ?_;rw[An (.inr ka),An (.inr kb)]at h;have h1:=(GJ (x:=((a.num k:Int):Rat)) (y:=((b.num k:Int):Rat)) k).1 (by rw[h];exact dg);have h2:=(GJ (x:=((b.num k:Int):Rat)) (y:=((a.num k:Int):Rat)) k).1 (by rw[h];exact dg);rw[Rat.intCast_le_intCast]at h1 h2;omega
def LP(n:Int):(jI n).q=(n:Rat):=by
 unfold jI;rw[An (k:=0) (IJ (b8 0)),Lq (b8 0),WS];simp
def BV(d:Dy):0<=(lg d).q/\d.q<=(lg d).q /\ -d.q<=(lg d).q/\((lg d).q=d.q\/(lg d).q = -d.q):=by
 have h:(lg d).q=(d.m:Rat)*P2 d.e:=by rw[uE];rfl
 have h0:0<=(d.m:Rat)*P2 d.e:=dU eJ (dp (rM _));rw[h,uE d];cases d.neg<;>simp<;>grind
def wB(d:Dy):(0<d.jc↔0<d.q)/\(d.jc<0↔d.q<0):=by
 have h:=rM d.e;have hm:d.m≠0->0<(d.m:Rat)*P2 d.e:=λh0=>fv (ajI.2 aD) h
 rw[uE];unfold Dy.jc;by_cases h0:d.m=0
 .simp [h0]
 .have:=hm h0;rw[bh h0];cases d.neg<;>simp<;>grind
def aeK(a b:Dy):a.q<=(iT a b).q/\b.q<=(iT a b).q/\((iT a b).q=a.q\/(iT a b).q=b.q):=
 ⟨(Aq _ _).1 (BM a b),(Aq _ _).1 (adg a b),by unfold iT;split;exact .inr rfl;exact .inl rfl⟩
def Ts(a b:Dy):(iZ a b).q<=a.q/\(iZ a b).q<=b.q/\((iZ a b).q=a.q\/(iZ a b).q=b.q):=
 ⟨(Aq _ _).1 (DN a b),(Aq _ _).1 (Su a b),by unfold iZ;split;exact .inr rfl;exact .inl rfl⟩
def GM(p:Nat)(g:Rat):Prop:=∃ (m:Nat) (e:Int),gU m<=p /\ -16384<=e/\(gU m:Int)+e<=16384/\g=(m:Rat)*P2 e
def G(p:Nat)(g:Rat):Prop:=GM p g\/GM p (-g)
def GM.D0{p:Nat}{g:Rat}(h:GM p g):0<=g:=by
 obtain⟨m,e,_,_,_,rfl⟩:=h;exact dU eJ (dp (rM _))
def xT(p:Nat):GM p 0:=⟨0,0,by simp[ri],aD,by simp[ri],aJ⟩
def G.neg{p:Nat}{g:Rat}(h:G p g):G p (-g):=by
 rcases h with h|h
 .exact .inr (by rw[fw];exact h)
 .exact .inl h
def G.pos{p:Nat}{g:Rat}(h:G p g)(h0:0<=g):GM p g:=by
 rcases h with h|h
 .exact h
 .have:=h.D0;have:g=0:= aO ;rw[this];exact xT p
def NF(k:Nat):gU (2^k)=k+1:=tR (bp _) (eH aF aD)
def EZ:gU 1=1:=NF 0
section
variable {m p:Nat} {e:Int}
def Wm(hp:1<=p)(gS:p<=4096)(ho:lr m e false p false=true):
 GM p (((2^p-1:Nat):Rat)*P2 (16384-p))/\((2^p-1:Nat):Rat)*P2 (16384-p)<=(m:Rat)*P2 e/\∀ g,GM p g->g<=((2^p-1:Nat):Rat)*P2 (16384-p):=by
 have hpp:2<=2^p:=by
  have:=bG (n:=2) aF hp;omega
 have hb:gU (2^p-1)=p:=by
  obtain⟨j,rfl⟩:∃ j,p=j+1:=⟨p-1,aD⟩
  have h2:2^(j+1)=2^j*2:=bE _ _;have h3:=bu (n:=j) (aF:0<2);exact tR aD aD 
 refine⟨⟨_,_,gB hb,aD,aD,rfl⟩,?_,?_⟩
 .obtain ⟨c1,c2⟩:=Fg m e p;unfold lr at ho;simp only[bQ,cF]at ho;obtain⟨o1,o2⟩:=ho;have hq:=qK o1;have oo:=mZ o1;obtain⟨K,k1,k2⟩:∃ K:Int,K<=e/\K<=16384-p:=⟨min e (16384-p),aD,aD⟩
  rw[rE k2 k1];have h1:2^(gU (ks m e false p false)-1)*2^iO m e p<=m:=bM (bL _ hq) c1;have h2:=bL (2^(e-K).toNat) h1;rw[<-bq,<-bq]at h2;refine bM (bL _ (dP _ _)) (bM ?_ h2);rw[<-bq];exact bG aF aD 
 .rintro g ⟨gm,ge,b1,b2,b3,rfl⟩;by_cases hc:ge<=16384-p
  .have:gm<2^p:=kB.1 b1;rw[rE (K:=ge) (b8 _) hc];have e0:(ge-ge).toNat=0:= aD ;rw[e0,bV,bW];exact bM (aD:gm<=2^p-1) (fG _ (bu aF))
  .rw [rE (K:=16384-p) aD (b8 _)];have e0:((16384:Int)-p-(16384-p)).toNat=0:= aD ;rw[e0,bV,bW];have h1:gm<2^(16384-ge).toNat:=by
    by_cases h0:gm=0
    .rw [h0];exact bu aF 
    .exact kB.1 aD 
   have h2:=cO h1 (bu (n:=(ge-(16384-p)).toNat) (aF:0<2));by_cases hg:ge<=16384
   .rw [<-bq,show(16384-ge).toNat+(ge-(16384-(p:Int))).toNat=p by omega]at h2;omega
   .have:gm=0:=by
     rw[show(16384-ge).toNat=0 by omega]at h1;simpa using h1
    rw[this,cB];omega
def Wl(hp:1<=p)(ho:¬lr m e false p false=true):
 GM p (((ks m e false p false:Nat):Rat)*P2 (e+iO m e p))/\((ks m e false p false:Nat):Rat)*P2 (e+iO m e p)<=(m:Rat)*P2 e /\
 ∀ g,GM p g->g<=(m:Rat)*P2 e->g<=((ks m e false p false:Nat):Rat)*P2 (e+iO m e p):=by
 obtain⟨c1,c2⟩:=Fg m e p;have hk:-16384<=e+(iO m e p:Int):=by unfold iO;omega
 refine⟨?_,?_,?_⟩
 .by_cases h0:ks m e false p false=0
  .rw [h0];simpa using xT p
  .have hq:ks m e false p false<2^p:=by
    have:=OB m e p;unfold ks;simpa using this
   unfold lr at ho;simp only[cR,h0,eF,fN,er,cF]at ho;exact⟨_,_,kB.2 hq,hk,aD,rfl⟩
 .rw [rE (K:=e) aD (b8 _)];rw[show(e-e).toNat=0 by omega,show(e+(iO m e p:Int)-e).toNat=iO m e p by omega,bV,bW];exact c1
 .rintro g ⟨gm,ge,b1,b2,b3,rfl⟩ h;obtain⟨K,k1,k2⟩:∃ K:Int,K<=e/\K<=ge:=⟨min e ge,aD,aD⟩
  rw[rE k2 k1]at h;rw[rE (K:=K) k2 aD];exact abg hp b1 b2 k1 k2 h
def NR(hp:1<=p)(ho:lr m e false p true=true)(g:Rat)(hg:GM p g):¬(m:Rat)*P2 e<=g:=by
 obtain⟨gm,ge,b1,b2,b3,rfl⟩:=hg;intro h;obtain⟨K,k1,k2⟩:∃ K:Int,K<=e/\K<=ge:=⟨min e ge,aD,aD⟩
 rw[rE k1 k2]at h;have h:=PQ hp b1 b2 k1 k2 h;unfold lr at ho;simp only[bQ,cF]at ho;obtain⟨o1,o2⟩:=ho;have hq:=qK o1;have oo:=mZ o1;have h3:gm<2^gU gm:=px gm;have h4:=cO h3 (bu (n:=(ge-K).toNat) (aF:0<2));have h5:=bL (2^(e+(iO m e p:Int)-K).toNat) hq;rw[<-bq]at h4 h5;have h6:2^(gU gm+(ge-K).toNat)<=2^(gU (ks m e false p true)-1+(e+(iO m e p:Int)-K).toNat):=bG aF aD;omega
def NQ(hp:1<=p)(ho:¬lr m e false p true=true):
 GM p (((ks m e false p true:Nat):Rat)*P2 (e+iO m e p))/\(m:Rat)*P2 e<=((ks m e false p true:Nat):Rat)*P2 (e+iO m e p) /\
 ∀ g,GM p g->(m:Rat)*P2 e<=g->((ks m e false p true:Nat):Rat)*P2 (e+iO m e p)<=g:=by
 obtain⟨c1,c2⟩:=Fg m e p;have hk:-16384<=e+(iO m e p:Int):=by unfold iO;omega
 refine⟨?_,?_,?_⟩
 .by_cases h0:ks m e false p true=0
  .rw [h0];simpa using xT p
  .unfold lr at ho;simp only[cR,h0,eF,fN,er,cF]at ho;rcases Nat.lt_or_eq_of_le (Og m e false p true)with hq|hq
   .exact ⟨_,_,kB.2 hq,hk,aD,rfl⟩
   .rw [hq]at ho ⊢;rw[NF]at ho;refine⟨1,p+(e+iO m e p),by rw[EZ];exact hp,aD,by rw[EZ];omega,?_⟩;rw[y8 (p:Int),y9 p,show((1:Nat):Rat)=1 from rfl,ajJ]
 .rw [rE (K:=e) (b8 _) aD];rw[show(e-e).toNat=0 by omega,show(e+(iO m e p:Int)-e).toNat=iO m e p by omega,bV,bW];exact c2
 .rintro g ⟨gm,ge,b1,b2,b3,rfl⟩ h;obtain⟨K,k1,k2⟩:∃ K:Int,K<=e/\K<=ge:=⟨min e ge,aD,aD⟩
  rw[rE k1 k2]at h;rw[rE (K:=K) aD k2];exact PQ hp b1 b2 k1 k2 h
end
def Dn(p:Nat)(v:Rat)(D:Dy)(E:Int):Prop:=(E=0->G p D.q/\D.q<=v)/\∀ g,G p g->g<=v->E=0/\g<=D.q
def Up(p:Nat)(v:Rat)(D:Dy)(E:Int):Prop:=(E=0->G p D.q/\v<=D.q)/\∀ g,G p g->v<=g->E=0/\D.q<=g
def Dn.of{p:Nat}{v w:Rat}{D:Dy}{E:Int}(h:Dn p v D E)(k:∀ g,G p g->(g<=v↔g<=w)):Dn p w D E:=
 ⟨λe=>⟨(h.1 e).1,(k _ (h.1 e).1).1 (h.1 e).2⟩,λg hg hw=>h.2 g hg ((k g hg).2 hw)⟩
def Up.of{p:Nat}{v w:Rat}{D:Dy}{E:Int}(h:Up p v D E)(k:∀ g,G p g->(v<=g↔w<=g)):Up p w D E:=
 ⟨λe=>⟨(h.1 e).1,(k _ (h.1 e).1).1 (h.1 e).2⟩,λg hg hw=>h.2 g hg ((k g hg).2 hw)⟩
def Ja(neg:Bool)(m:Nat)(e:Int){p:Nat}(hp:1<=p)(gS:p<=4096):Dn p (canon neg m e).q (jK neg m e false p false) (jD neg m e false p false):=by
 have hv:0<=(m:Rat)*P2 e:=dU eJ (dp (rM _));rw[sE];cases neg
 .
  have hE:jD false m e false p false=0:=by unfold jD;simp
  rw[hE];unfold jK;simp only[bne_self_eq_false,b9,bF];by_cases ho:lr m e false p false=true
  .obtain ⟨t1,t2,t3⟩:=Wm hp gS ho;rw[bj ho];(first|unfold Dn|unfold Up);rw[sE];simp only[b9,bF];refine⟨λ_=>⟨.inl t1,t2⟩,λg hg hle=>⟨trivial,?_⟩⟩;by_cases h0:0<=g
   .exact t3 g (hg.pos h0)
   .have:=t1.D0;grind
  .obtain ⟨t1,t2,t3⟩:=Wl hp ho;rw[bh ho];(first|unfold Dn|unfold Up);rw[sE];simp only[b9,bF];refine⟨λ_=>⟨.inl t1,t2⟩,λg hg hle=>⟨trivial,?_⟩⟩;by_cases h0:0<=g
   .exact t3 g (hg.pos h0) hle
   .have:=t1.D0;grind
 .unfold jK jD;simp only[Bool.bne_false,Bool.and_true,bI];by_cases ho:lr m e false p true=true
  .rw [bj ho,bj ho];refine⟨λh=>by simp at h,λg hg hle=>?_⟩;exact absurd (show(m:Rat)*P2 e <= -g by grind) (NR hp ho _ (hg.neg.pos aO))
  .obtain ⟨t1,t2,t3⟩:=NQ hp ho;rw[bh ho,bh ho];(first|unfold Dn|unfold Up);rw[sE];simp only[bI];refine⟨λ_=>⟨.inr (by rw[fw];exact t1),aO⟩,λg hg hle=>⟨trivial,?_⟩⟩;have:=t3 (-g) (hg.neg.pos aO) aO 
   grind
def Jb(neg:Bool)(m:Nat)(e:Int){p:Nat}(hp:1<=p)(gS:p<=4096):Up p (canon neg m e).q (jK neg m e false p true) (jD neg m e false p true):=by
 have hv:0<=(m:Rat)*P2 e:=dU eJ (dp (rM _));rw[sE];cases neg
 .unfold jK jD;simp only[Bool.bne_true,eC,Bool.and_true,bI,b9,bF];by_cases ho:lr m e false p true=true
  .rw [bj ho,bj ho];refine⟨λh=>by simp at h,λg hg hle=>?_⟩;exact absurd hle (NR hp ho _ (hg.pos aO))
  .obtain ⟨t1,t2,t3⟩:=NQ hp ho;rw[bh ho,bh ho];(first|unfold Dn|unfold Up);rw[sE];simp only[b9,bF];exact⟨λ_=>⟨.inl t1,t2⟩,λg hg hle=>⟨trivial,t3 g (hg.pos aO) hle⟩⟩
 .have hE:jD true m e false p true=0:=by unfold jD;simp
  rw[hE];unfold jK;simp only[bne_self_eq_false,b9,bF,bI];by_cases ho:lr m e false p false=true
  .obtain ⟨t1,t2,t3⟩:=Wm hp gS ho;rw[bj ho];(first|unfold Dn|unfold Up);rw[sE];simp only[bI];refine⟨λ_=>⟨.inr (by rw[fw];exact t1),aO⟩,λg hg hle=>⟨trivial,?_⟩⟩;by_cases h0:0 <= -g
   .have:=t3 (-g) (hg.neg.pos h0);grind
   .have:=t1.D0;grind
  .obtain ⟨t1,t2,t3⟩:=Wl hp ho;rw[bh ho];(first|unfold Dn|unfold Up);rw[sE];simp only[bI];refine⟨λ_=>⟨.inr (by rw[fw];exact t1),aO⟩,λg hg hle=>⟨trivial,?_⟩⟩;by_cases h0:0 <= -g
   .have:=t3 (-g) (hg.neg.pos h0) aO;grind
   .have:=t1.D0;grind
def Vg{d:Dy}(hd:d.lA){p:Nat}(hp:1<=p)(gS:p<=4096):Dn p d.q (ji d p false) (jl d p false):=by
 have:=Ja d.neg d.m d.e hp gS;rwa[hd.E7]at this
def Vi{d:Dy}(hd:d.lA){p:Nat}(hp:1<=p)(gS:p<=4096):Up p d.q (ji d p true) (jl d p true):=by
 have:=Jb d.neg d.m d.e hp gS;rwa[hd.E7]at this
def gap{N p:Nat}{e:Int}(hb:p<gU N){g:Rat}(hg:GM p g):g<=(N:Rat)*P2 e\/((N+1:Nat):Rat)*P2 e<=g:=by
 obtain⟨gm,ge,b1,b2,b3,rfl⟩:=hg;by_cases hc:e<=ge
 .rw [rE (K:=e) hc (b8 _),rE (K:=e) (b8 _) hc,show(e-e).toNat=0 by omega];omega
 .left;rw[rE (K:=ge) (b8 _) aD,show(ge-ge).toNat=0 by omega,bV,bW];have h1:gm<2^p:=kB.1 b1;have h2:2^p<=N:=wh.1 hb;exact bM (dv (bN h1 h2)) (fG _ (bu aF))
def Nv{N p:Nat}{e:Int}(hb:p<gU N){x y:Rat}(x1:(N:Rat)*P2 e<x)(x2:x<((N+1:Nat):Rat)*P2 e)(y1:(N:Rat)*P2 e<y)(y2:y<((N+1:Nat):Rat)*P2 e){g:Rat}(hg:G p g):
 (g<=x↔g<=y)/\(x<=g↔y<=g)/\(g <= -x↔g <= -y)/\(-x<=g ↔ -y<=g):=by
 have hv:0<=(N:Rat)*P2 e:=dU eJ (dp (rM _));have hG:∀ g,G p g->g<=(N:Rat)*P2 e\/((N+1:Nat):Rat)*P2 e<=g:=by
  intro g hg;by_cases h0:0<=g
  .exact gap hb (hg.pos h0)
  .left;grind
 have h1:=hG g hg;have h2:=hG (-g) hg.neg;generalize (N:Rat)*P2 e=A at *
 generalize ((N+1:Nat):Rat)*P2 e=B at *
 refine⟨?_,?_,?_,?_⟩<;>constructor<;>intro h<;>grind
def Fe{N p:Nat}(E:Int)(hb:p<gU N)(neg up:Bool):jK neg N E true p up=jK neg (2*N+1) (E-1) false p up/\jD neg N E true p up=jD neg (2*N+1) (E-1) false p up:=by
 have h1:(2*N+1)/2^1=N:= aD ;have h:=Ff (N:=2*N+1) (E:=E-1) (more:=false) (d:=1) (p:=p) neg up (by rw[h1];exact hb);have h2:decide ((2*N+1)%2^1≠0)=true:= aJ ;rw[h1,h2,(aD:E-1+((1:Nat):Int)=E)]at h;exact h
def Oz{a b:Dy}(b0:b.m≠0){p:Nat}(hp:1<=p)(gS:p<=4096):Dn p (a.q/b.q) (jU a b p false) (mH a b p false)/\Up p (a.q/b.q) (jU a b p true) (mH a b p true):=by
 by_cases a0:a.m=0
 .have hq:a.q=0:=by rw[uE,a0];simp
  have h0:(0:Rat)/b.q=0:=by rw[ajK,Rat.zero_mul]
  unfold jU mH;rw[hq,h0,bj a0,bj a0,bj a0,bj a0];have hz:G p 0:=.inl (xT p);exact⟨⟨λ_=>⟨by rw[sG];exact hz,by rw[sG];exact dg⟩,λg _ h=>⟨rfl,by rw[sG];exact h⟩⟩,⟨λ_=>⟨by rw[sG];exact hz,by rw[sG];exact dg⟩,λg _ h=>⟨rfl,by rw[sG];exact h⟩⟩⟩
 .have hb:=Jf a0 b0 p 2 aF ;unfold jU mH;rw[bh a0,bh a0,bh a0,bh a0];generalize hk:j8 a b p 2=k at *
  generalize hs:(a.neg != b.neg)=s;generalize hE:a.e-b.e-(k:Int)=E0;have hB:(0:Rat)<(b.m:Rat):=ajI.2 aD;have P1:=rM b.e;have hP:=rM E0;obtain⟨w,hw⟩:∃ w:Rat,w=(a.m:Rat)*P2 a.e/((b.m:Rat)*P2 b.e):=⟨_,rfl⟩
  have Rb:w*((b.m:Rat)*P2 b.e)=(a.m:Rat)*P2 a.e:=by
   have:(b.m:Rat)*P2 b.e≠0:=by have:=fv hB P1;grind
   rw[hw];exact Rat.div_mul_cancel this
  have kR:a.q/b.q=if s then -w else w:=by
   have Bi:b.q≠0:=by
    have:=fv hB P1;rw[uE b];cases b.neg<;>simp<;>grind
   have hq:(if s then -w else w)*b.q=a.q:=by
    rw[uE a,uE b,<-hs,<-Rb];cases a.neg<;>cases b.neg<;>simp<;>grind
   rw[<-hq,akg Bi]
  have Ka:=ck (a.m*2^k) b.m;have hr:=bA (a.m*2^k) (aD:0<b.m);generalize hN:a.m*2^k/b.m=N at *
  generalize hR:a.m*2^k%b.m=R at *
  have abB:(b.m:Rat)*(N:Rat)+(R:Rat)=(a.m:Rat)*((2^k:Nat):Rat):=by rw[<-dM,<-dM,<-fV,Ka]
  have hae:P2 a.e=((2^k:Nat):Rat)*P2 b.e*P2 E0:=by rw[<-y9,<-y8,<-y8];congr 1;omega
  have Gr:w*(b.m:Rat)=((b.m:Rat)*(N:Rat)+(R:Rat))*P2 E0:=by
   have:w*(b.m:Rat)*P2 b.e=((b.m:Rat)*(N:Rat)+(R:Rat))*P2 E0*P2 b.e:=by
    rw[abB,fU,Rb,hae];grind
   have kV:P2 b.e≠0:= aO ;have h2:=congrArg (· / P2 b.e) this;simp only[akg kV]at h2;exact h2
  by_cases h0:R=0
  .have Gq:w=(N:Rat)*P2 E0:=by
    rw[h0]at Gr;have kV:(b.m:Rat)≠0:= aO ;have h2:w*(b.m:Rat)=((N:Rat)*P2 E0)*(b.m:Rat):=by rw[Gr];simp;grind
    have h3:=congrArg (· / (b.m:Rat)) h2;simp only[akg kV]at h3;exact h3
   have hc:a.q/b.q=(canon s N E0).q:=by rw[kR,sE,Gq]
   rw[hc,bl (by simpa using h0)];exact⟨Ja _ _ _ hp gS,Jb _ _ _ hp gS⟩
  .have ug:(0:Rat)<(R:Rat):=ajI.2 aD ;have hRb:(R:Rat)<(b.m:Rat):=Rat.natCast_lt_natCast.2 hr;have w1:(N:Rat)*P2 E0<w:=by
    apply akv (c:=(b.m:Rat)) _ (dp hB);rw[Gr];have:=fv ug hP
    grind
   have w2:w<((N+1:Nat):Rat)*P2 E0:=by
    apply akv (c:=(b.m:Rat)) _ (dp hB);rw[Gr,fV];have:=fv (show(0:Rat)<(b.m:Rat)-(R:Rat)by grind) hP;simp
    grind
   have hh:P2 E0=2*P2 (E0-1):=by
    rw[EM (aD:E0-1<=E0),show(E0-(E0-1)).toNat=1 by omega];simp
   have v1:(N:Rat)*P2 E0<((2*N+1:Nat):Rat)*P2 (E0-1):=by
    have:=rM (E0-1);rw[hh,fV,dM];simp;grind
   have v2:((2*N+1:Nat):Rat)*P2 (E0-1)<((N+1:Nat):Rat)*P2 E0:=by
    have:=rM (E0-1);rw[hh,fV,dM,fV];simp;grind
   rw[bk (by simpa using h0),(Fe E0 hb s false).1,(Fe E0 hb s false).2,(Fe E0 hb s true).1,(Fe E0 hb s true).2,kR];have A:=Ja s (2*N+1) (E0-1) hp gS;have B:=Jb s (2*N+1) (E0-1) hp gS;rw[sE]at A B;refine⟨A.of λg hg=>?_,B.of λg hg=>?_⟩
   .obtain ⟨k1,k2,k3,k4⟩:=Nv hb v1 v2 w1 w2 hg;cases s
    .exact k1
    .exact k3
   .obtain ⟨k1,k2,k3,k4⟩:=Nv hb v1 v2 w1 w2 hg;cases s
    .exact k2
    .exact k4
def Iv.sW(x:Iv)(r:Rat):Prop:=x.all=true\/(x.lo.q<=r/\r<=x.hi.q)
def Sub(x y:Iv):Prop:=y.all=true\/(x.all=false/\y.lo.q<=x.lo.q/\x.hi.q<=y.hi.q)
def Sub.sW{x y:Iv}(h:Sub x y){r:Rat}(k:x.sW r):y.sW r:=by
 rcases h with h|⟨h1,h2,h3⟩
 .exact .inl h
 .rcases k with k|⟨k1,k2⟩
  .rw [h1]at k;cases k
  .exact .inr ⟨aO,aO⟩
def Sub.RR{x y:Iv}(h:Sub x y)(k:y.all=false):x.all=false/\y.lo.q<=x.lo.q/\x.hi.q<=y.hi.q:=by
 rcases h with h|h
 .rw [h]at k;cases k
 .exact h
def Iv.gQ.q{x:Iv}(h:x.gQ):x.lo.q<=x.hi.q:=by
 rcases h with⟨_,h2,h3⟩|⟨_,_,_,h⟩
 .rw [h2,h3];exact dg
 .exact (Aq _ _).1 h
def Iv.gQ.X4{x:Iv}(h:x.gQ):x.lo.lA/\x.hi.lA:=by
 rcases h with⟨_,h2,h3⟩|⟨_,h2,h3,_⟩
 .rw [h2,h3];exact⟨re.canon,re.canon⟩
 .exact ⟨h2.canon,h3.canon⟩
def Iv.gQ.abt{x:Iv}(h:x.gQ):x.sW x.lo.q:=.inr ⟨dg,h.q⟩
def Iv.sW.kn{x:Iv}{r:Rat}(h:x.sW r)(k:x.all=false):x.lo.q<=r/\r<=x.hi.q:=by
 rcases h with h|h
 .rw [k]at h;cases h
 .exact h
def NM(a b:Dy):(kG a b).lA:=rj _ _ _
def ahN{y:Iv}(_hy:y.gQ)(h:lR y≠0):y.all=false/\(0<y.lo.q\/y.hi.q<0):=by
 unfold lR at h;cases ya:y.all
 .rw [ya]at h;simp only[b9,bF]at h;refine⟨rfl,?_⟩;split at h
  .rename_i h1;exact .inl ((wB _).1.1 h1)
  .split at h
   .rename_i h1;exact .inr ((wB _).2.1 h1)
   .exact absurd rfl h
 .rw [ya]at h;simp at h
def ahM{y:Iv}(ya:y.all=false)(h:0<y.lo.q\/y.hi.q<0):lR y≠0:=by
 unfold lR;rw[ya];simp only[b9,bF];rcases h with h|h
 .rw [bj ((wB _).1.2 h)];decide
 .split
  .decide
  .rw [bj ((wB _).2.2 h)];decide
def K8{x:Iv}(h:x.lo.q<=x.hi.q):x.hi.q<=(ku x).q /\ -x.lo.q<=(ku x).q/\((ku x).q=x.hi.q\/(ku x).q = -x.lo.q):=by
 obtain⟨a1,a2,a3,a4⟩:=BV x.lo;obtain⟨b1,b2,b3,b4⟩:=BV x.hi;obtain⟨c1,c2,c3⟩:=aeK (lg x.lo) (lg x.hi);unfold ku;generalize (iT (lg x.lo) (lg x.hi)).q=M at *
 refine⟨aO,aO,?_⟩;rcases c3 with c3|c3
 .rcases a4 with a4|a4
  .grind
  .grind
 .rcases b4 with b4|b4
  .grind
  .grind
def ac5{x x':Iv}(hx:x.gQ)(yp:x'.gQ)(h:Sub x x')(xa:x'.all=false):(ku x).q<=(ku x').q:=by
 obtain⟨h1,h2,h3⟩:=h.RR xa;obtain⟨a1,a2,a3⟩:=K8 hx.q;obtain⟨b1,b2,b3⟩:=K8 yp.q
 grind
def Lc{x:Iv}(hx:x.gQ)(xa:x.all=false):0<=(mW x).q/\(x.lo.q<=0->0<=x.hi.q->(mW x).q=0)/\(0<x.lo.q->(mW x).q=x.lo.q)/\(x.hi.q<0->(mW x).q = -x.hi.q):=by
 have hle:=hx.q;obtain⟨a1,a2,a3,a4⟩:=BV x.lo;obtain⟨b1,b2,b3,b4⟩:=BV x.hi;obtain⟨c1,c2,c3⟩:=Ts (lg x.lo) (lg x.hi);by_cases hs:lR x=0
 .have hn:¬(0<x.lo.q\/x.hi.q<0):=λh=>ahM xa h hs
  have:mW x=ix:=by unfold mW;rw[bj hs]
  rw[this,sG];refine⟨dg,λ_ _=>rfl,λh=>absurd (.inl h) hn,λh=>absurd (.inr h) hn⟩
 .obtain ⟨_,h0⟩:=ahN hx hs;have:mW x=iZ (lg x.lo) (lg x.hi):=by unfold mW;rw[bh hs]
  rw[this];generalize (iZ (lg x.lo) (lg x.hi)).q=M at *
  generalize (lg x.lo).q=u at *
  generalize (lg x.hi).q=v at *
  refine⟨aO,aO,aO,aO⟩
def ajk{x x':Iv}(hx:x.gQ)(yp:x'.gQ)(h:Sub x x'):Sub (ib x) (ib x'):=by
 cases xa:x'.all
 .obtain ⟨h1,h2,h3⟩:=h.RR xa;unfold ib;rw[h1,xa];refine .inr ⟨rfl,?_,ac5 hx yp h xa⟩;show(mW x').q<=(mW x).q;obtain⟨a1,a2,a3,a4⟩:=Lc hx h1;obtain⟨b1,b2,b3,b4⟩:=Lc yp xa;have:=hx.q;by_cases c1:0<x'.lo.q
  .rw [b3 c1,a3 aO];exact h2
  .by_cases c2:x'.hi.q<0
   .rw [b4 c2,a4 aO];grind
   .rw [b2 aO aO];exact a1
 .refine .inl ?_;unfold ib;rw[bj xa];rfl
def MV{x:Iv}(hx:x.gQ){r s:Rat}(h:x.sW r)(hs:s=r/\0<=r\/s = -r/\r<=0):(ib x).sW s:=by
 unfold ib;cases xa:x.all
 .obtain ⟨h1,h2⟩:=h.kn xa;obtain⟨a1,a2,a3⟩:=K8 hx.q;obtain⟨b1,b2,b3,b4⟩:=Lc hx xa;refine .inr ⟨?_,?_⟩
  .show (mW x).q<=s;by_cases c1:0<x.lo.q
   .rw [b3 c1];grind
   .by_cases c2:x.hi.q<0
    .rw [b4 c2];grind
    .rw [b2 aO aO];grind
  .show s<=(ku x).q
   grind
 .exact .inl rfl
end Go.Proofs.YtkjkcjhacddojaaGreatDoor.Fp
