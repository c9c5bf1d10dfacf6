/- Lemmas that the last file uses. -/
import Derived.Test.YtkjkcjhacddojaaGreatDoorM02
set_option linter.unusedSimpArgs false
set_option linter.unusedVariables false
set_option linter.defProp false
set_option maxHeartbeats 4000000
open Go.Proofs.Tryz
namespace Go.Proofs.YtkjkcjhacddojaaGreatDoor
open Go.RowKit Fp Pu
def Rd(a b:List Nat)(x:Nat):PS:=⟨67,false,[(20,.e (iP x)),(19,.e (iP a.length)),(18,.e (gW a)),(5,.own 17),(1,.e (gW b))],[(17,.row false 150 (a.length+b.length) 1 (oB (kA a b x)))]⟩
def Re(a b:List Nat)(x:Nat)(k:Nat):PS:=⟨67,false,[(27,.e (iP k)),(26,.e (iP b.length)),(25,.e (gW b)),(8,.e (.v (.int .u64 (((lX (a.getD x 0) x b (kA a b x) k).2:Nat):Int)))),(7,.e (.v (.int .u32 (a.getD x 0:Int)))),(6,.e (iP x)),(20,.e (iP x)),(19,.e (iP a.length)),(18,.e (gW a)),(5,.own 17),(1,.e (gW b))],[(17,.row false 150 (a.length+b.length) 1 (oB ((lX (a.getD x 0) x b (kA a b x) k).1)))]⟩
def ab6(a b:List Nat)(ha:iD a)(hb:iD b)(h1:a.length<=3000)(h2:b.length<=3000):gU 273 [gW a,gW b] (gW (kA a b a.length)):=
 an call273 func273 (ae [iu ((a.length:Int)+b.length) aC,.a (aC:0<=(((a.length:Int)+b.length):Int)/\(((a.length:Int)+b.length):Int)<=(((a.length:Int)+b.length):Int)),.a (aC:((4:Nat):Int)*((a.length:Int)+b.length)<=281474976710656/\(((a.length:Int)+b.length):Int)<=9223372036854775807),.s (Sp.kY (Rd a b) 0 a.length aC (λx hx mZ=>by
    have f1:=ha.getD x;have so:=DK ha hb x aC;have g1:=so.len;have g2:=(DJ f1 hb so.ok (i:=x) aC b.length aC).len;have g3:=(DJ f1 hb so.ok (i:=x) aC b.length aC).lt;exact jg (ae [tT 21 ((x:Int)<a.length) aC,iX (x:Int) (a.length) aC,.s (Sp.kY (Re a b x) 0 b.length aC (λk hk aan=>by
    have f2:=hb.getD k;have q:=DJ f1 hb so.ok (i:=x) aC k aC;have f3:=q.ok.getD (x+k);have f4:=q.lt;have f5:=q.len;have f6:=Rg f1 f2;exact jg (ae [tT 28 ((k:Int)<b.length) aC,iX (k:Int) (b.length) aC,.o 33 (.int (qK _ aC):aj (.v (.int .u64 (IntKind.u64.wrap (a.getD x 0:Int)))) (.v (.int .u64 (a.getD x 0:Int)))),.o 35 (.int (qK _ aC):aj (.v (.int .u64 (IntKind.u64.wrap (b.getD k 0:Int)))) (.v (.int .u64 (b.getD k 0:Int)))),
     AA ((a.getD x 0:Int)*(b.getD k 0:Int)) aC,iu ((x:Int)+k) aC,iX ((x+k:Nat):Int) (a.length+b.length) aC,.a (aC:(x+k)<(a.length+b.length)),.o 43 (.int (qK _ aC):aj (.v (.int .u64 (IntKind.u64.wrap ((((lX (a.getD x 0) x b (kA a b x) k).1).getD (x+k) 0:Nat):Int)))) (.v (.int .u64 ((((lX (a.getD x 0) x b (kA a b x) k).1).getD (x+k) 0:Nat):Int)))),
     AA ((((a.getD x 0)*(b.getD k 0):Nat):Int)+((((lX (a.getD x 0) x b (kA a b x) k).1).getD (x+k) 0:Nat):Int)) aC,
     AA (((((a.getD x 0)*(b.getD k 0))+(((lX (a.getD x 0) x b (kA a b x) k).1).getD (x+k) 0):Nat):Int)+(((lX (a.getD x 0) x b (kA a b x) k).2:Nat):Int)) aC,
     iu ((x:Int)+k) aC,.o 52 (.int (Cg _):aj (.v (.int .u32 (IntKind.u32.wrap (((((a.getD x 0)*(b.getD k 0))+(((lX (a.getD x 0) x b (kA a b x) k).1).getD (x+k) 0))+(lX (a.getD x 0) x b (kA a b x) k).2:Nat):Int)))) (.v (.int .u32 ((((((a.getD x 0)*(b.getD k 0))+(((lX (a.getD x 0) x b (kA a b x) k).1).getD (x+k) 0))+(lX (a.getD x 0) x b (kA a b x) k).2)%4294967296:Nat):Int)))),.a (aC:0<=(32:Int)/\(32:Int)<=((64:Nat):Int)),.o 54 (.int (S3 _):aj (.v (.int .u64 ((((((a.getD x 0)*(b.getD k 0))+(((lX (a.getD x 0) x b (kA a b x) k).1).getD (x+k) 0))+(lX (a.getD x 0) x b (kA a b x) k).2:Nat):Int)/2^32))) (.v (.int .u64 ((((((a.getD x 0)*(b.getD k 0))+(((lX (a.getD x 0) x b (kA a b x) k).1).getD (x+k) 0))+(lX (a.getD x 0) x b (kA a b x) k).2)/4294967296:Nat):Int)))),
     iX ((x+k:Nat):Int) (a.length+b.length) aC,.a (aC:(x+k)<(a.length+b.length)),iu ((k:Int)+1) aC]<|.e (af [.o 8 (.int aO:aj (.v (.int .u64 ((((((a.getD x 0)*(b.getD k 0))+(((lX (a.getD x 0) x b (kA a b x) k).1).getD (x+k) 0))+(lX (a.getD x 0) x b (kA a b x) k).2)/4294967296:Nat):Int))) (.v (.int .u64 (((lX (a.getD x 0) x b (kA a b x) (k+1)).2:Nat):Int)))),.b 17 (Lp rfl aC:Bx.le (.row false 150 (a.length+b.length) 1 (λi' j'=>if i'=(x+k)/\0<=j'/\j'<0+1 then[.v (.int .u32 ((((((a.getD x 0)*(b.getD k 0))+(((lX (a.getD x 0) x b (kA a b x) k).1).getD (x+k) 0))+(lX (a.getD x 0) x b (kA a b x) k).2)%4294967296:Nat):Int))].getD (j'-0) .any else(oB ((lX (a.getD x 0) x b (kA a b x) k).1)) i' j')) (.row false 150 (a.length+b.length) 1 (oB ((lX (a.getD x 0) x b (kA a b x) (k+1)).1))))])) aF)
  (λhk=>by
    exact jg (af [tF 28 ((b.length:Int)<b.length) aC]) aF) aI:kU 7 f273 (Re a b x 0) (.exit 2) ⟨67,false,[(8,.e (.v (.int .u64 (((lX (a.getD x 0) x b (kA a b x) b.length).2:Nat):Int)))),(6,.e (iP x)),(20,.e (iP x)),(19,.e (iP a.length)),(18,.e (gW a)),(5,.own 17),(1,.e (gW b))],[(17,.row false 150 (a.length+b.length) 1 (oB ((lX (a.getD x 0) x b (kA a b x) b.length).1)))]⟩) (af [.o 8 (.int aO:aj (.v (.int .u64 0)) (.v (.int .u64 (((lX (a.getD x 0) x b (kA a b x) 0).2:Nat):Int)))),.b 17 (.iH rfl:Bx.le (.row false 150 (a.length+b.length) 1 (oB (kA a b x))) (.row false 150 (a.length+b.length) 1 (oB ((lX (a.getD x 0) x b (kA a b x) 0).1))))]),
     iu ((x:Int)+b.length) aC,.o 63 (.int (Cg _):aj (.v (.int .u32 (IntKind.u32.wrap (((lX (a.getD x 0) x b (kA a b x) b.length).2:Nat):Int)))) (.v (.int .u32 (((lX (a.getD x 0) x b (kA a b x) b.length).2%4294967296:Nat):Int)))),
     iX ((x+b.length:Nat):Int) (a.length+b.length) aC,.a (aC:(x+b.length)<(a.length+b.length)),iu ((x:Int)+1) aC]<|.e (af [.b 17 (Lp rfl aC:Bx.le (.row false 150 (a.length+b.length) 1 (λi' j'=>if i'=(x+b.length)/\0<=j'/\j'<0+1 then[.v (.int .u32 (((lX (a.getD x 0) x b (kA a b x) b.length).2%4294967296:Nat):Int))].getD (j'-0) .any else(oB ((lX (a.getD x 0) x b (kA a b x) b.length).1)) i' j')) (.row false 150 (a.length+b.length) 1 (oB (kA a b (x+1)))))])) aF)
  (λhx=>by
    exact jg (af [tF 21 ((a.length:Int)<a.length) aC]) aF) aI:kU 3 f273 (Rd a b 0) (.exit 0) ⟨67,false,[(5,.own 17)],[(17,.row false 150 (a.length+b.length) 1 (oB (kA a b a.length)))]⟩) (af [.b 17 (SH rfl (λi=>by simp[kA,bc,fC];split<;>rfl):Bx.le (.row false 150 (a.length+b.length) 1 (λ_ j_=>[.v (.int .u32 0)].getD j_ .any)) (.row false 150 (a.length+b.length) 1 (oB (kA a b 0))))])]<|rR (gW (kA a b a.length)) (Ta (by rw[(DK ha hb a.length aC).len]):E.le (.sl false (a.length+b.length) 1 (oB (kA a b a.length))) (gW (kA a b a.length)))) 
def KC(L:List Nat)(h:L.length<=256):gU 310 [gW L] (bP false):=
 ak call310 func310 (af [tF 5 (256<(L.length:Int)) aC]) 
def ab5(L:List Nat)(h1:L.length<=256):gU 271 [(.sl true 1 1 λi_ j_=>[gW L].getD (i_*1+j_) (.v (.bool false)))] (bP false):=
 ak call271 func271 (af [.c (QS true 1 _ 310 [] (λ_=>false) (λi hi=>(match i,hi with|0,_=>KC _ h1|n+1,hi=>absurd hi aC)) aC (λ_ _=>rfl):gU 309 [(.sl true 1 1 λi_ j_=>[gW L].getD (i_*1+j_) (.v (.bool false))),.fn 310 []] _)]) 
def Rn(L:List Nat)(M:List Nat)(h1:L.length<=256)(h2:M.length<=256):gU 271 [(.sl true 2 1 λi_ j_=>[gW L,gW M].getD (i_*1+j_) (.v (.bool false)))] (bP false):=
 ak call271 func271 (af [.c (QS true 2 _ 310 [] (λ_=>false) (λi hi=>(match i,hi with|0,_=>KC _ h1|1,_=>KC _ h2|n+2,hi=>absurd hi aC)) aC (λ_ _=>rfl):gU 309 [(.sl true 2 1 λi_ j_=>[gW L,gW M].getD (i_*1+j_) (.v (.bool false))),.fn 310 []] _)]) 
def ab7(L M:List Nat)(hL:iD L)(hM:iD M)(h1:L.length<=256)(h2:M.length<=256)(hf:(gV (val L*val M)).length<=256):gU 218 [gW L,gW M] (.ik [gW (gV (val L*val M)),iP 0]):=by
 have ka:=hL.ix;have kb:=hM.ix;have ta:=nX L;have tb:=nX M;unfold lu at ta tb;have km:=(DK ka kb _ (bd _)).ok;have he:ix (kA (ix L) (ix M) (ix L).length)=gV (val L*val M):=by rw[pO km,age ka kb,oD,oD]
 have hd:(ix (kA (ix L) (ix M) (ix L).length)).length<=256:=by rw[he];exact hf
 exact ak call218 func218 (ae [.c (Rn L M aD aD),ag [gW L] (rO _ hL),ag [gW M] (rO _ hM),ag [gW (ix L),gW (ix M)] (ab6 _ _ ka kb aC aC),ag [gW (kA (ix L) (ix M) (ix L).length)] (Rk _ km hd)]<|rQ (.ik [gW (ix (kA (ix L) (ix M) (ix L).length)),iP 0]) (.ik [gW (gV (val L*val M)),iP 0]) (by rw[he])) 
def xj(m n:Nat)(h1:(gV m).length<=256)(h2:(gV n).length<=256)(hf:(gV (m*n)).length<=256):gU 218 [gW (gV m),gW (gV n)] (.ik [gW (gV (m*n)),iP 0]):=by
 have:=ab7 (gV m) (gV n) (kZ m) (kZ n) h1 h2 (by rw[jM,jM];exact hf);rwa[jM,jM]at this
def tS(m n:Nat)(h1:(gV m).length<=256)(h2:n<=65536)(h3:(gV (m*2^n)).length<=256):gU 308 [gW (gV m),iP n] (gW (gV (m*2^n))):=
 ak call308 func308 (af [ag [gW (gV m),iP n] (Rp _ _ aC aC aC)]) 
def K9(m n:Nat)(h1:(gV m).length<=256)(h2:n<=65536):gU 320 [gW (gV m),iP n] (.ik [gW (gV (m/2^n)),bP (decide (m%2^n≠0))]):=by
 have hb:=zg h1;have hq:(gV (m/2^n)).length<=256:=nA (by have:=ui (bU m (2^n));omega);have tu:(gV (m/2^n*2^n)).length<=256:=nA (by have:=ui (de m (2^n));omega);have hr:(gV (m/2^ib m)).length<=256:=nA (by have:=ui (bU m (2^ib m));omega);have mW:(gV (m/2^ib m*2^ib m)).length<=256:=nA (by have:=ui (de m (2^ib m));omega);by_cases hn:ib m<n
 .have q1:=NM (dq hn);have q2:=NM (bd (ib m));exact ak call320 func320 (ae [ag [gW (gV m)] (qT _ aC),tT 11 ((ib m:Int)<n) aC,ag [gW (gV m)] (qT _ aC),ag [gW (gV m),iP (ib m:Int)] (KD _ _ aC aC),.c (tS (m/2^(ib m)) (ib m) aC aC aC),ag [gW (gV ((m/2^(ib m))*2^(ib m))),gW (gV m)] (xh _ _ aC aC)]<|rQ (.ik [gW (gV (m/2^(ib m))),bP ((jZ ((m/2^(ib m))*2^(ib m)) m) != 0)]) (.ik [gW (gV (m/2^n)),bP (decide (m%2^n≠0))]) (by rw[QZ,q1.1,q1.2,q2.1,q2.2])) 
 .exact ak call320 func320 (ae [ag [gW (gV m)] (qT _ aC),tF 11 ((ib m:Int)<n) aC,ag [gW (gV m),iP n] (KD _ _ aC aC),.c (tS (m/2^n) n aC aC aC),ag [gW (gV ((m/2^n)*2^n)),gW (gV m)] (xh _ _ aC aC)]<|rQ (.ik [gW (gV (m/2^n)),bP ((jZ ((m/2^n)*2^n) m) != 0)]) (.ik [gW (gV (m/2^n)),bP (decide (m%2^n≠0))]) (by rw[QZ])) 
abbrev LR:E:=.sl false 1 1 λi_ j_=>[.v (.int .u32 1)].getD (i_*1+j_) (.v (.bool false))
abbrev Hb(p):=gW (gV (0*2^((0-(iO 0 0 p)).toNat)))
def mT(m:Nat)(e:Int)(p:Nat):Nat:=if iO m e p<=e then m*2^(e-iO m e p).toNat else m/2^(iO m e p-e).toNat
def qx(m:Nat)(e:Int)(more:Bool)(p:Nat):Bool:=if iO m e p<=e then more else(more||decide (m%2^(iO m e p-e).toNat≠0))
def WM(m:Nat)(e:Int)(more:Bool)(p:Nat):mC m e more p false=mT m e p:=by unfold mC mT;simp
def ID{m:Nat}{e:Int}{more:Bool}{p:Nat}(hm:more=true->p<ib m):mC m e more p true=mT m e p+if qx m e more p=true then 1 else 0:=by
 unfold mC mT qx;by_cases hU:iO m e p<=e
 .have hmo:more=false:=by
   cases JQ:more with
   |false=>rfl
   |true=>have:=hm JQ;unfold iO at hU;omega
  simp[hU,hmo]
 .simp [hU]
def adt(m:Nat)(e:Int)(more up:Bool)(p:Nat)(h1:(gV m).length<=256)(h0:m≠0)(ig:8<=p)(gY:p<=512)(lh:-45000<=e)(kx:e<=45000)(hm:more=true->p<ib m):gU 323 [.agg [gW (gV m),iP e,bP more],iP (p:Int),bP up] (.ik [gZ (jB false m e more p up),iP (ju false m e more p up)]):=by
 have PZ:=Np (e:=e) true h0 hm (aC:1<=p);have tw:=Np (e:=e) false h0 hm (aC:1<=p);have hb:=zg h1;have FF:=np h0;have hqb:=No (e:=e) (more:=more) (p:=p) (up:=true) h0;have hqa:=No (e:=e) (more:=more) (p:=p) (up:=false) h0;rw[WM]at tw hqa;have hu1:-16384<=(iO m e p):=by unfold iO;omega
 have hu2:(iO m e p)<=60000:=by unfold iO;omega
 have hu3:(iO m e p)<=max (e+8192) (-16384):=by unfold iO;omega
 have fa:(gV (mT m e p)).length<=256:=nA aC;have fb:(gV (mC m e more p true)).length<=256:=nA aC;have f1:(gV 1).length<=256:=nA aE;cases up with
 |true=>
  exact ak call323 func323 (ae [ag [gW (gV m)] (qT _ aC),iu (e+(ib m:Int)) aC,iu ((e+(ib m:Int))-(p:Int)) aC,.o 21 (aq (if(-16384)>((e+(ib m:Int))-(p:Int))then(-16384)else((e+(ib m:Int))-(p:Int))) (iO m e p) (by unfold iO;split<;>omega)),.j 58 ⟨84,true,[(9,.e (gW (gV (mT m e p)))),(10,.e (bP (qx m e more p))),(8,.e (iP (iO m e p))),(6,.box 6 0),(1,.e (iP p)),(2,.e (bP true))],[(6,.cells 39 ar)]⟩
   (.w ((iO m e p)<=e)
    (λm1=>by
     have fx:(gV (m*2^(e-(iO m e p)).toNat)).length<=256:=by have:=fa;rwa[show mT m e p=_ from aZ m1]at this
     exact ae [.v 29 (.bool (bh m1)),iu (e-(iO m e p)) aC,.o 35 (aq (e-(iO m e p)) ((e-(iO m e p)).toNat:Int) aC),.c (tS m ((e-(iO m e p)).toNat:Nat) aC aC aC)]<|.e (af [.o 9 (.e (.iH (by rw[show mT m e p=_ from aZ m1])):aj (gW (gV (m*2^((e-(iO m e p)).toNat)))) (gW (gV (mT m e p)))),tB 10 (by simp[qx,m1]:more=(qx m e more p))]))
    (λm1=>ae [.v 29 (.bool (bg m1)),iu ((iO m e p)-e) aC,.o 43 (aq ((iO m e p)-e) (((iO m e p)-e).toNat:Int) aC),.c (K9 m (((iO m e p)-e).toNat:Nat) aC aC)]<|.w (more=true)
     (λm2=>ae [tB 48 m2]<|.e (af [.o 9 (.e (.iH (by rw[show mT m e p=_ from aY m1])):aj (gW (gV (m/2^(((iO m e p)-e).toNat)))) (gW (gV (mT m e p)))),tB 10 (by simp[qx,m1,m2]:true=(qx m e more p))]))
     (λm2=>ae [tB 48 (aV m2)]<|.e (af [.o 9 (.e (.iH (by rw[show mT m e p=_ from aY m1])):aj (gW (gV (m/2^(((iO m e p)-e).toNat)))) (gW (gV (mT m e p)))),tB 10 (by simp[qx,m1,m2]:(decide (m%2^(((iO m e p)-e).toNat)≠0))=(qx m e more p))])))),.j 110 ⟨84,true,[(9,.e (gW (gV (mC m e more p true)))),(8,.e (iP (iO m e p))),(6,.box 6 0),(1,.e (iP p)),(2,.e (bP true))],[(6,.cells 39 ar)]⟩
   (.w (qx m e more p=true)
    (λm1=>by
     have fx:(gV (mT m e p+1)).length<=256:=by have:=fb;rwa[ID hm,aZ m1]at this
     exact ae [.v 55 (.bool m1),.o 58 (.e wa:aj LR (gW (gV 1))),ag [gW (gV (mT m e p)),gW (gV 1)] (Gh _ _ aC aC aC)]<|.e (af [.o 9 (.e (.iH (by rw[ID hm,aZ m1])):aj (gW (gV ((mT m e p)+1))) (gW (gV (mC m e more p true))))]))
    (λm1=>ae [.v 55 (.bool (aV m1))]<|.e (af [.o 9 (.e (.iH (by rw[ID hm,aY m1,bL])):aj (gW (gV (mT m e p))) (gW (gV (mC m e more p true))))]))),ag [gW (gV (mC m e more p true))] (qT _ aC),iu ((ib (mC m e more p true):Int)+(iO m e p)) aC]<|.w (16384<((ib (mC m e more p true):Int)+(iO m e p)))
   (λk1=>by
    have w1:=(PZ.resolve_left (λh=>absurd k1 aC)).2.resolve_right (λh=>absurd h.1 aE);exact ae [tB 66 (bh k1),.o 68 (.e vf:aj (.agg ar) (gZ jt))]<|rQ (.ik [gZ jt,iP 9]) (.ik [gZ (jB false m e more p true),iP (ju false m e more p true)]) (by rw[w1.2.1,w1.2.2]))
   (λk1=>by
    have w1:=PZ.resolve_right (λh=>k1 h.1);have hd:mN (canon false (mC m e more p true) (iO m e p)):=by rw[<-w1.2.1];exact(q6 false m e more p true aC aC).range
    exact ae [tB 66 (bg k1),ag [bP false,gW (gV (mC m e more p true)),iP (iO m e p)] (zp _ _ _ aC aC aC aD)]<|rQ (.ik [gZ (canon false (mC m e more p true) (iO m e p)),iP 0]) (.ik [gZ (jB false m e more p true),iP (ju false m e more p true)]) (by rw[w1.2.1,w1.2.2]))) 
 |false=>
  exact ak call323 func323 (ae [ag [gW (gV m)] (qT _ aC),iu (e+(ib m:Int)) aC,iu ((e+(ib m:Int))-(p:Int)) aC,.o 21 (aq (if(-16384)>((e+(ib m:Int))-(p:Int))then(-16384)else((e+(ib m:Int))-(p:Int))) (iO m e p) (by unfold iO;split<;>omega)),.j 58 ⟨84,true,[(9,.e (gW (gV (mT m e p)))),(10,.e (bP (qx m e more p))),(8,.e (iP (iO m e p))),(6,.box 6 0),(1,.e (iP p)),(2,.e (bP false))],[(6,.cells 39 ar)]⟩
   (.w ((iO m e p)<=e)
    (λm1=>by
     have fx:(gV (m*2^(e-(iO m e p)).toNat)).length<=256:=by have:=fa;rwa[show mT m e p=_ from aZ m1]at this
     exact ae [.v 29 (.bool (bh m1)),iu (e-(iO m e p)) aC,.o 35 (aq (e-(iO m e p)) ((e-(iO m e p)).toNat:Int) aC),.c (tS m ((e-(iO m e p)).toNat:Nat) aC aC aC)]<|.e (af [.o 9 (.e (.iH (by rw[show mT m e p=_ from aZ m1])):aj (gW (gV (m*2^((e-(iO m e p)).toNat)))) (gW (gV (mT m e p)))),tB 10 (by simp[qx,m1]:more=(qx m e more p))]))
    (λm1=>ae [.v 29 (.bool (bg m1)),iu ((iO m e p)-e) aC,.o 43 (aq ((iO m e p)-e) (((iO m e p)-e).toNat:Int) aC),.c (K9 m (((iO m e p)-e).toNat:Nat) aC aC)]<|.w (more=true)
     (λm2=>ae [tB 48 m2]<|.e (af [.o 9 (.e (.iH (by rw[show mT m e p=_ from aY m1])):aj (gW (gV (m/2^(((iO m e p)-e).toNat)))) (gW (gV (mT m e p)))),tB 10 (by simp[qx,m1,m2]:true=(qx m e more p))]))
     (λm2=>ae [tB 48 (aV m2)]<|.e (af [.o 9 (.e (.iH (by rw[show mT m e p=_ from aY m1])):aj (gW (gV (m/2^(((iO m e p)-e).toNat)))) (gW (gV (mT m e p)))),tB 10 (by simp[qx,m1,m2]:(decide (m%2^(((iO m e p)-e).toNat)≠0))=(qx m e more p))])))),ag [gW (gV (mT m e p))] (qT _ aC),iu ((ib (mT m e p):Int)+(iO m e p)) aC]<|.w (16384<((ib (mT m e p):Int)+(iO m e p)))
   (λk1=>by
    have w1:=(tw.resolve_left (λh=>absurd k1 aC)).2.resolve_left (λh=>absurd h.1 aE);have hd:mN (canon false ((1*2^p)-1) (16384-(p:Int))):=by rw[bT,<-w1.2.1];exact(q6 false m e more p false aC aC).range
    have g0:ib (1*2^p)=p+1:=by rw[bT];exact wH (bd _) (gh aE aC)
    have g1:(gV 1).length<=256:=nA aE;have g2:(gV (1*2^p)).length<=256:=nA aC;have g4:1<=1*2^p:=by rw[bT];exact bn aE 
    have g3:(gV ((1*2^p)-1)).length<=256:=nA (by have:=ui (eA (1*2^p) 1);omega);exact ae [tB 66 (bh k1),.o 70 (.e wa:aj LR (gW (gV 1))),.c (tS 1 p aC aC aC),.o 73 (.e wa:aj LR (gW (gV 1))),ag [gW (gV (1*2^p)),gW (gV 1)] (DN _ _ aC aC aC),iu (16384-(p:Int)) aC,ag [bP false,gW (gV ((1*2^p)-1)),iP (16384-(p:Int))] (zp _ _ _ aC aC aC aD)]<|rQ (.ik [gZ (canon false ((1*2^p)-1) (16384-(p:Int))),iP 0]) (.ik [gZ (jB false m e more p false),iP (ju false m e more p false)]) (by rw[w1.2.1,w1.2.2,bT]))
   (λk1=>by
    have w1:=tw.resolve_right (λh=>k1 h.1);have hd:mN (canon false (mT m e p) (iO m e p)):=by rw[<-w1.2.1];exact(q6 false m e more p false aC aC).range
    exact ae [tB 66 (bg k1),ag [bP false,gW (gV (mT m e p)),iP (iO m e p)] (zp _ _ _ aC aC aC aD)]<|rQ (.ik [gZ (canon false (mT m e p) (iO m e p)),iP 0]) (.ik [gZ (jB false m e more p false),iP (ju false m e more p false)]) (by rw[w1.2.1,w1.2.2]))) 
def adu(up:Bool)(p:Nat)(ig:8<=p)(gY:p<=512):gU 323 [.agg [gW (gV 0),iP 0,bP false],iP (p:Int),bP up] (.ik [gZ (jB false 0 0 false p up),iP (ju false 0 0 false p up)]):=by
 have hU:iO 0 0 p = -(p:Int):=by unfold iO;rw[qO];omega
 have hK:jr 0 0 p=0:=by unfold jr;rw[qO];omega
 have hQ:kp 0 0 false p up=0:=by unfold kp;rw[hK];simp
 have hO:lk 0 0 false p up=false:=by unfold lk;rw[hQ];simp
 have pn:(false != up)=up:=by cases up<;>rfl
 have k2:jB false 0 0 false p up=jt:=by unfold jB;rw[pn,hO,aY aE,hQ];rfl
 have k3:ju false 0 0 false p up=0:=by unfold ju;rw[pn,hO];rfl
 have lz:ib 0=0:=rfl;have l0:(gV 0).length<=256:=by rw[nI];decide
 have l1:(gV (0*2^(0-iO 0 0 p).toNat)).length<=256:=by rw[cH];exact l0
 have lb:ib (0*2^(0-iO 0 0 p).toNat)=0:=by rw[cH];rfl
 have hd:mN (canon false (0*2^(0-iO 0 0 p).toNat) (iO 0 0 p)):=by rw[cH];exact .inl rfl
 by_cases P6:up=true
 .exact ak call323 func323 (ae [ag [gW (gV 0)] (qT _ aC),iu (0+(ib 0:Int)) aC,iu ((0+(ib 0:Int))-(p:Int)) aC,.o 21 (aq (if(-16384)>((0+(ib 0:Int))-(p:Int))then(-16384)else((0+(ib 0:Int))-(p:Int))) (iO 0 0 p) (by unfold iO;rw[qO];split<;>omega)),tT 29 ((iO 0 0 p)<=0) aC,iu (0-(iO 0 0 p)) aC,.o 35 (aq (0-(iO 0 0 p)) ((0-(iO 0 0 p)).toNat:Int) aC),.c (tS 0 ((0-(iO 0 0 p)).toNat:Nat) aC aC aC),ah 52 up P6,ag [Hb p] (qT _ aC),
   iu ((ib (0*2^((0-(iO 0 0 p)).toNat)):Int)+(iO 0 0 p)) aC,tF 66 (16384<((ib (0*2^((0-(iO 0 0 p)).toNat)):Int)+(iO 0 0 p))) aC,ag [bP false,Hb p,iP (iO 0 0 p)] (zp _ _ _ aC aC aC aD)]<|rQ (.ik [gZ (canon false (0*2^((0-(iO 0 0 p)).toNat)) (iO 0 0 p)),iP 0]) (.ik [gZ (jB false 0 0 false p up),iP (ju false 0 0 false p up)]) (by rw[k2,k3,cH];rfl)) 
 .exact ak call323 func323 (ae [ag [gW (gV 0)] (qT _ aC),iu (0+(ib 0:Int)) aC,iu ((0+(ib 0:Int))-(p:Int)) aC,.o 21 (aq (if(-16384)>((0+(ib 0:Int))-(p:Int))then(-16384)else((0+(ib 0:Int))-(p:Int))) (iO 0 0 p) (by unfold iO;rw[qO];split<;>omega)),tT 29 ((iO 0 0 p)<=0) aC,iu (0-(iO 0 0 p)) aC,.o 35 (aq (0-(iO 0 0 p)) ((0-(iO 0 0 p)).toNat:Int) aC),.c (tS 0 ((0-(iO 0 0 p)).toNat:Nat) aC aC aC),ai 52 up (by simpa using P6),ag [Hb p] (qT _ aC),
   iu ((ib (0*2^((0-(iO 0 0 p)).toNat)):Int)+(iO 0 0 p)) aC,tF 66 (16384<((ib (0*2^((0-(iO 0 0 p)).toNat)):Int)+(iO 0 0 p))) aC,ag [bP false,Hb p,iP (iO 0 0 p)] (zp _ _ _ aC aC aC aD)]<|rQ (.ik [gZ (canon false (0*2^((0-(iO 0 0 p)).toNat)) (iO 0 0 p)),iP 0]) (.ik [gZ (jB false 0 0 false p up),iP (ju false 0 0 false p up)]) (by rw[k2,k3,cH];rfl)) 
def BZ(m:Nat)(e:Int)(more up:Bool)(p:Nat)(h1:(gV m).length<=256)(h0:m≠0\/m=0/\e=0/\more=false)(ig:8<=p)(gY:p<=512)(lh:-45000<=e)(kx:e<=45000)(hm:more=true->p<ib m):gU 323 [.agg [gW (gV m),iP e,bP more],iP (p:Int),bP up] (.ik [gZ (jB false m e more p up),iP (ju false m e more p up)]):=by
 rcases h0 with h0|⟨rfl,rfl,rfl⟩
 .exact adt m e more up p h1 h0 ig gY lh kx hm
 .exact adu up p ig gY
def lJ(p:Int):Bool:=decide (8<=p)&&decide (p<=512)
def qp{p:Int}:lJ p=true↔8<=p/\p<=512:=by simp[lJ]
def tD(p:Int):gU 147 [iP p] (bP (lJ p)):=by
 by_cases h:8<=p
 .exact ak call147 func147 (ae [tB 4 (bh h)]<|rQ (bP (decide (p<=512))) (bP (lJ p)) (by simp[lJ,h])) 
 .exact ak call147 func147 (ae [tB 4 (bg h)]<|rQ (bP false) (bP (lJ p)) (by simp[lJ,h])) 
def adw(p:Int):gU 318 [iP p] (bP (lJ p)):=by
 by_cases h:8<=p
 .exact ak call318 func318 (ae [tB 4 (bh h)]<|rQ (bP (decide (p<=512))) (bP (lJ p)) (by simp[lJ,h])) 
 .exact ak call318 func318 (ae [tB 4 (bg h)]<|rQ (bP false) (bP (lJ p)) (by simp[lJ,h])) 
def Sn(l:List Dy)(p:Nat)(i:Nat):PS:=⟨20,true,[(9,.e (iP i)),(8,.e (iP l.length)),(7,.e (ml l)),(0,.e (iP p))],[]⟩
def D7(neg:Bool)(m:Nat)(e:Int)(more up:Bool)(p:Nat)(h1:(gV m).length<=256)(h0:m≠0\/m=0/\e=0/\more=false)(ig:8<=p)(gY:p<=512)(lh:-45000<=e)(kx:e<=45000)(hm:more=true->p<ib m):gU 283 [bP neg,.agg [gW (gV m),iP e,bP more],iP p,bP up] (.ik [gZ (jB neg m e more p up),iP (ju neg m e more p up)]):=by
 cases neg with
 |true=>
  have hs:=Nt true m e more p up;change _/\(ju false m e more p (!(up==true))=0->_->jv (jB false m e more p (!(up==true)))=_)/\((ju false m e more p (!(up==true))≠0\/_)->jB false m e more p (!(up==true))=_)at hs;have hE:ju true m e more p up=ju false m e more p (!(up==true)):=hs.1;have hv:=q6 false m e more p (!(up==true)) (aC:1<=p) aC;by_cases hz:ju false m e more p (!(up==true))=0
  .exact ak call283 func283 (ae [ag [.agg [gW (gV m),iP e,bP more],iP p,bP (!(up==true))] (BZ _ _ _ _ _ aC aD aC aC aC aC aD),ah 22 ((ju false m e more p (!(up==true)))==0) (by rw[hz];rfl),ag [gZ (jB false m e more p (!(up==true)))] (vu _ aD)]<|rQ (.ik [gZ (jv (jB false m e more p (!(up==true)))),iP (ju false m e more p (!(up==true)))]) (.ik [gZ (jB true m e more p up),iP (ju true m e more p up)]) (by rw[hs.2.1 hz rfl,hE])) 
  .exact ak call283 func283 (ae [ag [.agg [gW (gV m),iP e,bP more],iP p,bP (!(up==true))] (BZ _ _ _ _ _ aC aD aC aC aC aC aD),ai 22 ((ju false m e more p (!(up==true)))==0) (by simpa using hz)]<|rQ (.ik [gZ (jB false m e more p (!(up==true))),iP (ju false m e more p (!(up==true)))]) (.ik [gZ (jB true m e more p up),iP (ju true m e more p up)]) (by rw[hs.2.2 (.inl hz),hE])) 
 |false=>
  have hs:=Nt false m e more p up;change _/\(ju false m e more p (!(up==false))=0->_->jv (jB false m e more p (!(up==false)))=_)/\((ju false m e more p (!(up==false))≠0\/_)->jB false m e more p (!(up==false))=_)at hs;have hE:ju false m e more p up=ju false m e more p (!(up==false)):=hs.1;have hv:=q6 false m e more p (!(up==false)) (aC:1<=p) aC;by_cases hz:ju false m e more p (!(up==false))=0
  .exact ak call283 func283 (ae [ag [.agg [gW (gV m),iP e,bP more],iP p,bP (!(up==false))] (BZ _ _ _ _ _ aC aD aC aC aC aC aD),ah 22 ((ju false m e more p (!(up==false)))==0) (by rw[hz];rfl)]<|rQ (.ik [gZ (jB false m e more p (!(up==false))),iP (ju false m e more p (!(up==false)))]) (.ik [gZ (jB false m e more p up),iP (ju false m e more p up)]) (by rw[hs.2.2 (.inr rfl),hE])) 
  .exact ak call283 func283 (ae [ag [.agg [gW (gV m),iP e,bP more],iP p,bP (!(up==false))] (BZ _ _ _ _ _ aC aD aC aC aC aC aD),ai 22 ((ju false m e more p (!(up==false)))==0) (by simpa using hz)]<|rQ (.ik [gZ (jB false m e more p (!(up==false))),iP (ju false m e more p (!(up==false)))]) (.ik [gZ (jB false m e more p up),iP (ju false m e more p up)]) (by rw[hs.2.2 (.inl hz),hE])) 
def adv(d:Dy):gU 319 [gZ d] (.agg [gW (gV d.m),iP d.e,bP false]):=
 ak call319 func319 (.nil) 
def So(p:Nat)(l:List Dy)(hl:l.length<=1000)(hv:∀ i,i<l.length->(l.getD i jt).gX)(ig:8<=p)(gY:p<=512):gU 280 [iP p,ml l] (iP 0):=
 ak call280 func280 (af [.s (Sp.kY (Sn l p) 0 l.length aC (λi hi rD=>by
    have P9:=hv i rD;exact jg (af [tT 10 ((i:Int)<l.length) aC,iX (i:Int) (l.length) aC,ag [gZ (l.getD i jt)] (uo _ aD),iu ((i:Int)+1) aC]) aF)
  (λhi=>by
    exact jg (af [tF 10 ((l.length:Int)<l.length) aC]) aF) aI:kU 2 f280 (Sn l p 0) (.exit 0) ⟨20,true,[(0,.e (iP p))],[]⟩) .nil,ag [iP p] (adw _),ah 18 (lJ (p:Int)) (qp.2 ⟨aC,aC⟩)]) 
def K8(p:Nat)(a:Dy)(ha:a.gX)(ig:8<=p)(gY:p<=512):gU 280 [iP (p:Int),ml [a]] (iP 0):=
 So p [a] aH (λi hi=>(match i,hi with
  | 0,_=>ha
  |n+1,hi=>absurd hi aH)) ig gY
def uX(p:Nat)(a b:Dy)(ha:a.gX)(hb:b.gX)(ig:8<=p)(gY:p<=512):gU 280 [iP (p:Int),ml [a,b]] (iP 0):=
 So p [a,b] aH (λi hi=>(match i,hi with
  | 0,_=>ha
  | 1,_=>hb
  |n+2,hi=>absurd hi aH)) ig gY
def GC(d:Dy)(p:Nat)(up:Bool)(hd:d.gX)(ig:8<=p)(gY:p<=512):gU 281 [gZ d,iP p,bP up] (.ik [gZ (jk d p up),iP (jf d p up)]):=by
 have hl:=hd.gV;have hz:d.m≠0\/d.m=0/\d.e=0/\false=false:=by
  by_cases h:d.m=0
  .rcases hd.canon with q|q
   .exact .inr ⟨h,q.2.2,rfl⟩
   .omega
  .exact .inl h
 have F2:-45000<=d.e:=by have:=hd.exp;omega
 have sG:d.e<=45000:=by have:=hd.exp;omega
 have hm:false=true->p<ib d.m:=λh=>by cases h
 exact ak call281 func281 (af [.o 11 (.e (IP _):aj (.sl true 1 3 λi_ j_=>(jA d).getD (i_*3+j_) (.v (.bool false))) (ml [d])),ag [iP p,ml [d]] (K8 _ _ aD aC aC),ai 14 ((0:Int) != 0) aE,.c (adv d),.c (D7 d.neg d.m d.e false up p aC aD aC aC aC aC aD)]) 
def A4{a b:Nat}:jZ a b<0↔a<b:=by
 unfold jZ;split
 .simp_all
 .split<;>simp_all
def GD(a b:Dy)(p:Nat)(ha:a.gX)(hb:b.gX)(a0:a.m≠0)(b0:b.m≠0)(ht:b.ij<=a.ij)(ig:8<=p)(gY:p<=512):gU 282 [gZ a,gZ b,iP p] (.ik [.agg [gW (gV (kT a b p)),iP (iS a b p),bP (me a b p)],bP (nV a b p)]):=by
 have sz:=G3 ha hb a0 b0 ht gY;have sp:=LG ha hb a0 b0 ht gY;obtain⟨l1,l2,l3,l4,l5,l6,l7,l8,l9⟩:=sz;obtain⟨l10,l11,l12⟩:=sp;obtain⟨r1,r2,r3⟩:=Lj a b p;have va:=ha.gV;have vb:=hb.gV;have xa:=ha.exp;have xb:=hb.exp;have ta:=Ek a0;have tb:=Ek b0;have ba:=zg va;have bb:=zg vb;have z1:(gV (a.m*2^((a.e-(iS a b p)).toNat))).length<=256:=nA (aC:ib (mG a b p)<=_);have zy:(gV (lL b (iS a b p))).length<=256:=nA aC;have z3:(gV (lK a b p)).length<=256:=nA aC;have zm:(gV (kT a b p)).length<=256:=nA aC;have z5:(gV 1).length<=256:=nA aE;exact ak call282 func282 (ae [ag [gZ a] (nx _ aD),iu ((Dy.ij a)-(p:Int)) aC,iu (((Dy.ij a)-(p:Int))-8) aC,ag [gZ a] (nx _ aD),ag [gZ b] (nx _ aD),iu ((Dy.ij a)-(Dy.ij b)) aC,.j 62 ⟨109,true,[(8,.e (iP (iS a b p))),(6,.box 6 0),(4,.box 4 0),(3,.box 3 0)],[(6,.cells 210 [.v (.slice none 0 0),iP 0,bP false]),(4,.cells 39 (jA b)),(3,.cells 39 (jA a))]⟩
   (.w (((Dy.ij a)-(Dy.ij b))<=2)
    (λm1=>ae [.v 31 (.bool (bh m1))]<|.e (af [.o 8 (aq (if b.e<(if(((Dy.ij a)-(p:Int))-8)<a.e then(((Dy.ij a)-(p:Int))-8)else a.e)then b.e else(if(((Dy.ij a)-(p:Int))-8)<a.e then(((Dy.ij a)-(p:Int))-8)else a.e)) (iS a b p) (by unfold iS;rw[aZ m1];split<;>split<;>omega))]))
    (λm1=>ae [.v 31 (.bool (bg m1))]<|.e (af [.o 8 (aq (if(((Dy.ij a)-(p:Int))-8)<a.e then(((Dy.ij a)-(p:Int))-8)else a.e) (iS a b p) (by unfold iS;rw[aY m1];split<;>omega))]))),
  iu (a.e-(iS a b p)) aC,.o 41 (aq (a.e-(iS a b p)) ((a.e-(iS a b p)).toNat:Int) aC),.c (tS a.m ((a.e-(iS a b p)).toNat) aC aC aC),.j 92 ⟨109,true,[(10,.e (gW (gV (lL b (iS a b p))))),(11,.e (bP (mu b (iS a b p)))),(9,.e (gW (gV (a.m*2^((a.e-(iS a b p)).toNat))))),(8,.e (iP (iS a b p))),(6,.box 6 0),(4,.box 4 0),(3,.box 3 0)],[(6,.cells 210 [.v (.slice none 0 0),iP 0,bP false]),(4,.cells 39 (jA b)),(3,.cells 39 (jA a))]⟩
   (.w ((iS a b p)<=b.e)
    (λm1=>by
     have z2:(gV (b.m*2^((b.e-(iS a b p)).toNat))).length<=256:=by have:=zy;rwa[show lL b (iS a b p)=_ from aZ m1]at this
     exact ae [.v 46 (.bool (bh m1)),iu (b.e-(iS a b p)) aC,.o 52 (aq (b.e-(iS a b p)) ((b.e-(iS a b p)).toNat:Int) aC),.c (tS b.m ((b.e-(iS a b p)).toNat) aC aC aC)]<|.e (af [.o 10 (.e (.iH (by rw[show lL b (iS a b p)=_ from aZ m1])):aj (gW (gV (b.m*2^((b.e-(iS a b p)).toNat)))) (gW (gV (lL b (iS a b p))))),tB 11 (by simp[mu,m1]:false=(mu b (iS a b p)))]))
    (λm1=>ae [.v 46 (.bool (bg m1)),iu ((iS a b p)-b.e) aC,.o 60 (aq ((iS a b p)-b.e) (((iS a b p)-b.e).toNat:Int) aC),.c (K9 b.m (((iS a b p)-b.e).toNat) aC aC)]<|.e (af [.o 10 (.e (.iH (by rw[show lL b (iS a b p)=_ from aY m1])):aj (gW (gV (b.m/2^(((iS a b p)-b.e).toNat)))) (gW (gV (lL b (iS a b p))))),tB 11 (by simp[mu,m1]:(decide (b.m%2^(((iS a b p)-b.e).toNat)≠0))=(mu b (iS a b p)))])))]<|.w (a.neg=b.neg)
  (λk1=>by
   have eT:nV a b p=false:=by unfold nV;simp[k1]
   have eY:lK a b p=lL b (iS a b p):=by unfold lK;simp[k1]
   have eM:kT a b p=mG a b p+lL b (iS a b p):=by unfold kT;rw[aZ k1,eY]
   have eS:me a b p=mu b (iS a b p):=by unfold me;rw[eT];simp
   have z4:(gV ((a.m*2^((a.e-(iS a b p)).toNat))+lL b (iS a b p))).length<=256:=by have:=zm;rwa[eM]at this
   exact ae [tB 68 (aU k1),ag [gW (gV (a.m*2^((a.e-(iS a b p)).toNat))),gW (gV (lL b (iS a b p)))] (Gh _ _ aC aC aC)]<|rQ (.ik [.agg [gW (gV ((a.m*2^((a.e-(iS a b p)).toNat))+(lL b (iS a b p)))),iP (iS a b p),bP (mu b (iS a b p))],bP false]) (.ik [.agg [gW (gV (kT a b p)),iP (iS a b p),bP (me a b p)],bP (nV a b p)]) (by rw[eM,eS,eT];rfl))
  (λk1=>ae [tB 68 (aT k1),.j 158 ⟨109,true,[(10,.e (gW (gV (lK a b p)))),(11,.e (bP (mu b (iS a b p)))),(9,.e (gW (gV (a.m*2^((a.e-(iS a b p)).toNat))))),(8,.e (iP (iS a b p))),(6,.box 6 0)],[(6,.cells 210 [.v (.slice none 0 0),iP 0,bP false])]⟩
   (.w (mu b (iS a b p)=true)
    (λm1=>by
     have z6:(gV ((lL b (iS a b p))+1)).length<=256:=nA (by rw[show(lL b (iS a b p))+1=lK a b p by(unfold lK;simp[k1,m1])];omega);exact ae [.v 79 (.bool m1),.o 82 (.e wa:aj (.sl false 1 1 λi_ j_=>[.v (.int .u32 1)].getD (i_*1+j_) (.v (.bool false))) (gW (gV 1))),ag [gW (gV (lL b (iS a b p))),gW (gV 1)] (Gh _ _ aC aC aC)]<|.e (af [.o 10 (.e (.iH (by unfold lK;simp[k1,m1])):aj (gW (gV ((lL b (iS a b p))+1))) (gW (gV (lK a b p))))]))
    (λm1=>ae [.v 79 (.bool (aV m1))]<|.e (af [.o 10 (.e (.iH (by unfold lK;simp[k1,m1])):aj (gW (gV (lL b (iS a b p)))) (gW (gV (lK a b p))))]))),ag [gW (gV (a.m*2^((a.e-(iS a b p)).toNat))),gW (gV (lK a b p))] (xh _ _ aC aC)]<|.w ((jZ (a.m*2^((a.e-(iS a b p)).toNat)) (lK a b p))<0)
   (λk2=>by
    have hc:mG a b p<lK a b p:=A4.1 k2;have eT:nV a b p=true:=by unfold nV;simp[k1,hc]
    have eM:kT a b p=lK a b p-mG a b p:=by unfold kT;rw[aY k1,aZ hc]
    have eS:me a b p=false:=by unfold me;rw[eT];simp
    have z4:(gV (lK a b p-(a.m*2^((a.e-(iS a b p)).toNat)))).length<=256:=by have:=zm;rwa[eM]at this
    have z7:(a.m*2^((a.e-(iS a b p)).toNat))<=lK a b p:=dq hc;exact ae [tB 89 (bh k2),ag [gW (gV (lK a b p)),gW (gV (a.m*2^((a.e-(iS a b p)).toNat)))] (DN _ _ aC aC aC)]<|rQ (.ik [.agg [gW (gV ((lK a b p)-(a.m*2^((a.e-(iS a b p)).toNat)))),iP (iS a b p),bP false],bP true]) (.ik [.agg [gW (gV (kT a b p)),iP (iS a b p),bP (me a b p)],bP (nV a b p)]) (by rw[eM,eS,eT];rfl))
   (λk2=>by
    have hc:¬mG a b p<lK a b p:=λh=>k2 (A4.2 h)
    have eT:nV a b p=false:=by unfold nV;simp[hc]
    have eM:kT a b p=mG a b p-lK a b p:=by unfold kT;rw[aY k1,aY hc]
    have eS:me a b p=mu b (iS a b p):=by unfold me;rw[eT];simp
    have z4:(gV ((a.m*2^((a.e-(iS a b p)).toNat))-lK a b p)).length<=256:=by have:=zm;rwa[eM]at this
    have z7:lK a b p<=(a.m*2^((a.e-(iS a b p)).toNat)):=Nat.le_of_not_lt hc;exact ae [tB 89 (bg k2),ag [gW (gV (a.m*2^((a.e-(iS a b p)).toNat))),gW (gV (lK a b p))] (DN _ _ aC aC aC)]<|rQ (.ik [.agg [gW (gV ((a.m*2^((a.e-(iS a b p)).toNat))-(lK a b p))),iP (iS a b p),bP (mu b (iS a b p))],bP false]) (.ik [.agg [gW (gV (kT a b p)),iP (iS a b p),bP (me a b p)],bP (nV a b p)]) (by rw[eM,eS,eT];rfl)))) 
def yQ(p:Nat)(up:Bool):jk jt p up=jt/\jf jt p up=0:=by
 have hK:jr 0 0 p=0:=by unfold jr;rw[qO];omega
 have hQ:∀ o,kp 0 0 false p o=0:=by intro o;unfold kp;rw[hK];simp
 have hO:∀ o,lk 0 0 false p o=false:=by intro o;unfold lk;rw[hQ];simp
 unfold jk jf jB ju;simp only[jt,hO,hQ];exact⟨rfl,rfl⟩
def Si(a b:Dy)(p:Nat)(up:Bool)(ha:a.gX)(hb:b.gX)(ig:8<=p)(gY:p<=512):gU 228 [gZ a,gZ b,iP p,bP up] (.ik [gZ (jk (iN a b) p up),iP (jf (iN a b) p up)]):=by
 by_cases a0:a.m=0
 .have e1:iN a b=b:=by unfold iN;rw[aZ a0]
  exact ak call228 func228 (ae [.o 16 (.e (uq _ _):aj (.sl true 2 3 λi_ j_=>(jA a++jA b).getD (i_*3+j_) (.v (.bool false))) (ml [a,b])),ag [iP p,ml [a,b]] (uX _ _ _ aD aD aC aC),ai 19 ((0:Int) != 0) aE,ah 26 (((gV a.m).length:Int)==0) (rP (rK.2 a0)),.c (GC b p up aD aC aC)]<|rQ (.ik [gZ (jk b p up),iP (jf b p up)]) (.ik [gZ (jk (iN a b) p up),iP (jf (iN a b) p up)]) (by rw[e1])) 
 .by_cases b0:b.m=0
  .have e1:iN a b=a:=by unfold iN;rw[aY a0,aZ b0]
   exact ak call228 func228 (ae [.o 16 (.e (uq _ _):aj (.sl true 2 3 λi_ j_=>(jA a++jA b).getD (i_*3+j_) (.v (.bool false))) (ml [a,b])),ag [iP p,ml [a,b]] (uX _ _ _ aD aD aC aC),ai 19 ((0:Int) != 0) aE,ai 26 (((gV a.m).length:Int)==0) (nk (pr a0)),ah 37 (((gV b.m).length:Int)==0) (rP (rK.2 b0)),.c (GC a p up aD aC aC)]<|rQ (.ik [gZ (jk a p up),iP (jf a p up)]) (.ik [gZ (jk (iN a b) p up),iP (jf (iN a b) p up)]) (by rw[e1])) 
  .by_cases ht:a.ij<b.ij
   .have qE:a.ij<=b.ij:= aC ;have law:=Tp (p:=p) hb ha b0 a0 up;have siz:=G3 hb ha b0 a0 qE gY;have prt:=LG hb ha b0 a0 qE gY;obtain⟨l1,l2,_,_,_,_,_,_,_⟩:=siz;have z1:(gV (kT b a p)).length<=256:=nA aC;have vL:=prt.2.2;have y1:-45000<=iS b a p:= aC ;have y2:iS b a p<=45000:= aC ;by_cases hz:kT b a p=0
    .by_cases hl:me b a p=true
     .have h0:kT b a p≠0:=by intro q;have:=vL hl;rw[q,qO]at this;omega
      exact absurd hz h0
     .replace hz:kT b a p=0/\me b a p=false:=⟨hz,by simpa using hl⟩
      have Bv:iN a b=jt:=by rw[Tn a0 b0];exact law.1 hz
      exact ak call228 func228 (ae [.o 16 (.e (uq _ _):aj (.sl true 2 3 λi_ j_=>(jA a++jA b).getD (i_*3+j_) (.v (.bool false))) (ml [a,b])),ag [iP p,ml [a,b]] (uX _ _ _ aD aD aC aC),ai 19 ((0:Int) != 0) aE,ai 26 (((gV a.m).length:Int)==0) (nk (pr a0)),ai 37 (((gV b.m).length:Int)==0) (nk (pr b0)),ag [gZ a] (nx _ aD),ag [gZ b] (nx _ aD),tB 48 (bh ht),.c (GD b a p aD aD aD aD aD aC aC),ah 61 (((gV (kT b a p)).length:Int)==0) (rP (rK.2 hz.1)),ai 64 (me b a p) hz.2,.o 67 (.e vf:aj (.agg ar) (gZ jt))]<|rQ (.ik [gZ jt,iP 0]) (.ik [gZ (jk (iN a b) p up),iP (jf (iN a b) p up)]) (by rw[Bv,(yQ p up).1,(yQ p up).2])) 
    .have h0:kT b a p≠0\/kT b a p=0/\iS b a p=0/\me b a p=false:=.inl hz;obtain⟨q1,q2⟩:=law.2 (λq=>hz q.1);rw[<-Tn a0 b0]at q1 q2;exact ak call228 func228 (ae [.o 16 (.e (uq _ _):aj (.sl true 2 3 λi_ j_=>(jA a++jA b).getD (i_*3+j_) (.v (.bool false))) (ml [a,b])),ag [iP p,ml [a,b]] (uX _ _ _ aD aD aC aC),ai 19 ((0:Int) != 0) aE,ai 26 (((gV a.m).length:Int)==0) (nk (pr a0)),ai 37 (((gV b.m).length:Int)==0) (nk (pr b0)),ag [gZ a] (nx _ aD),ag [gZ b] (nx _ aD),tB 48 (bh ht),.c (GD b a p aD aD aD aD aD aC aC),ai 61 (((gV (kT b a p)).length:Int)==0) (nk (pr hz)),.c (D7 (! (b.neg==(nV b a p))) (kT b a p) (iS b a p) (me b a p) up p aC aD aC aC aC aC aD)]<|rQ (.ik [gZ (jB (!(b.neg==(nV b a p))) (kT b a p) (iS b a p) (me b a p) p up),iP (ju (!(b.neg==(nV b a p))) (kT b a p) (iS b a p) (me b a p) p up)]) (.ik [gZ (jk (iN a b) p up),iP (jf (iN a b) p up)]) (by rw[<-q1,<-q2];rfl)) 
   .have qE:b.ij<=a.ij:= aC ;have law:=Tp (p:=p) ha hb a0 b0 up;have siz:=G3 ha hb a0 b0 qE gY;have prt:=LG ha hb a0 b0 qE gY;obtain⟨l1,l2,_,_,_,_,_,_,_⟩:=siz;have z1:(gV (kT a b p)).length<=256:=nA aC;have vL:=prt.2.2;have y1:-45000<=iS a b p:= aC ;have y2:iS a b p<=45000:= aC ;by_cases hz:kT a b p=0
    .by_cases hl:me a b p=true
     .have h0:kT a b p≠0:=by intro q;have:=vL hl;rw[q,qO]at this;omega
      exact absurd hz h0
     .replace hz:kT a b p=0/\me a b p=false:=⟨hz,by simpa using hl⟩
      have Bv:iN a b=jt:=by exact law.1 hz
      exact ak call228 func228 (ae [.o 16 (.e (uq _ _):aj (.sl true 2 3 λi_ j_=>(jA a++jA b).getD (i_*3+j_) (.v (.bool false))) (ml [a,b])),ag [iP p,ml [a,b]] (uX _ _ _ aD aD aC aC),ai 19 ((0:Int) != 0) aE,ai 26 (((gV a.m).length:Int)==0) (nk (pr a0)),ai 37 (((gV b.m).length:Int)==0) (nk (pr b0)),ag [gZ a] (nx _ aD),ag [gZ b] (nx _ aD),tB 48 (bg ht),.c (GD a b p aD aD aD aD aD aC aC),ah 61 (((gV (kT a b p)).length:Int)==0) (rP (rK.2 hz.1)),ai 64 (me a b p) hz.2,.o 67 (.e vf:aj (.agg ar) (gZ jt))]<|rQ (.ik [gZ jt,iP 0]) (.ik [gZ (jk (iN a b) p up),iP (jf (iN a b) p up)]) (by rw[Bv,(yQ p up).1,(yQ p up).2])) 
    .have h0:kT a b p≠0\/kT a b p=0/\iS a b p=0/\me a b p=false:=.inl hz;obtain⟨q1,q2⟩:=law.2 (λq=>hz q.1);exact ak call228 func228 (ae [.o 16 (.e (uq _ _):aj (.sl true 2 3 λi_ j_=>(jA a++jA b).getD (i_*3+j_) (.v (.bool false))) (ml [a,b])),ag [iP p,ml [a,b]] (uX _ _ _ aD aD aC aC),ai 19 ((0:Int) != 0) aE,ai 26 (((gV a.m).length:Int)==0) (nk (pr a0)),ai 37 (((gV b.m).length:Int)==0) (nk (pr b0)),ag [gZ a] (nx _ aD),ag [gZ b] (nx _ aD),tB 48 (bg ht),.c (GD a b p aD aD aD aD aD aC aC),ai 61 (((gV (kT a b p)).length:Int)==0) (nk (pr hz)),.c (D7 (! (a.neg==(nV a b p))) (kT a b p) (iS a b p) (me a b p) up p aC aD aC aC aC aC aD)]<|rQ (.ik [gZ (jB (!(a.neg==(nV a b p))) (kT a b p) (iS a b p) (me a b p) p up),iP (ju (!(a.neg==(nV a b p))) (kT a b p) (iS a b p) (me a b p) p up)]) (.ik [gZ (jk (iN a b) p up),iP (jf (iN a b) p up)]) (by rw[<-q1,<-q2];rfl)) 
def Ss(a b:Dy)(p:Nat)(up:Bool)(ha:a.gX)(hb:b.gX)(ig:8<=p)(gY:p<=512):gU 264 [gZ a,gZ b,iP p,bP up] (.ik [gZ (jk (lI a b) p up),iP (jf (lI a b) p up)]):=by
 by_cases a0:a.m=0
 .have e1:lI a b=jt:=by unfold lI;rw[a0,cH];rfl
  exact ak call264 func264 (ae [.o 16 (.e (uq _ _):aj (.sl true 2 3 λi_ j_=>(jA a++jA b).getD (i_*3+j_) (.v (.bool false))) (ml [a,b])),ag [iP p,ml [a,b]] (uX _ _ _ aD aD aC aC),ai 19 ((0:Int) != 0) aE,ah 25 (((gV a.m).length:Int)==0) (rP (rK.2 a0)),.o 32 (.e vf:aj (.agg ar) (gZ jt))]<|rQ (.ik [gZ jt,iP 0]) (.ik [gZ (jk (lI a b) p up),iP (jf (lI a b) p up)]) (by rw[e1,(yQ p up).1,(yQ p up).2])) 
 .by_cases b0:b.m=0
  .have e1:lI a b=jt:=by unfold lI;rw[b0,cA];rfl
   exact ak call264 func264 (ae [.o 16 (.e (uq _ _):aj (.sl true 2 3 λi_ j_=>(jA a++jA b).getD (i_*3+j_) (.v (.bool false))) (ml [a,b])),ag [iP p,ml [a,b]] (uX _ _ _ aD aD aC aC),ai 19 ((0:Int) != 0) aE,ai 25 (((gV a.m).length:Int)==0) (nk (pr a0)),ah 30 (((gV b.m).length:Int)==0) (rP (rK.2 b0)),.o 32 (.e vf:aj (.agg ar) (gZ jt))]<|rQ (.ik [gZ jt,iP 0]) (.ik [gZ (jk (lI a b) p up),iP (jf (lI a b) p up)]) (by rw[e1,(yQ p up).1,(yQ p up).2])) 
  .have va:=ha.gV;have vb:=hb.gV;have xa:=ha.exp;have xb:=hb.exp;have ra:=ha.range.resolve_left a0;have rb:=hb.range.resolve_left b0;have bm:=Vu a.m b.m;have z1:(gV (a.m*b.m)).length<=256:=nA aC;have m0:a.m*b.m≠0:=dB a0 b0;have h0:a.m*b.m≠0\/a.m*b.m=0/\a.e+b.e=0/\false=false:=.inl m0;have hm:false=true->p<ib (a.m*b.m):=λh=>by cases h
   obtain⟨q1,q2⟩:=SA (a.neg != b.neg) up (a.m*b.m) (a.e+b.e) p m0;change jk (lI a b) p up=_ at q1;change jf (lI a b) p up=_ at q2;exact ak call264 func264 (ae [.o 16 (.e (uq _ _):aj (.sl true 2 3 λi_ j_=>(jA a++jA b).getD (i_*3+j_) (.v (.bool false))) (ml [a,b])),ag [iP p,ml [a,b]] (uX _ _ _ aD aD aC aC),ai 19 ((0:Int) != 0) aE,ai 25 (((gV a.m).length:Int)==0) (nk (pr a0)),ai 30 (((gV b.m).length:Int)==0) (nk (pr b0)),ag [gW (gV a.m),gW (gV b.m)] (xj _ _ aC aC aC),iu (a.e+b.e) aC,.c (D7 (! (a.neg==b.neg)) (a.m*b.m) (a.e+b.e) false up p aC aD aC aC aC aC aD)]<|rQ (.ik [gZ (jB (!(a.neg==b.neg)) (a.m*b.m) (a.e+b.e) false p up),iP (ju (!(a.neg==b.neg)) (a.m*b.m) (a.e+b.e) false p up)]) (.ik [gZ (jk (lI a b) p up),iP (jf (lI a b) p up)]) (by rw[q1,q2];rfl)) 
def Sh(a b:Dy)(p:Nat)(ha:a.gX)(hb:b.gX)(ig:8<=p)(gY:p<=512):gU 149 [gZ a,gZ b,iP p] (.ik [gZ (jk (iN a b) p false),iP (jf (iN a b) p false)]):=
 ak call149 func149 (af [.c (Si a b p false aD aD aC aC)]) 
def BY(a b:Dy)(p:Nat)(ha:a.gX)(hb:b.gX)(ig:8<=p)(gY:p<=512):gU 150 [gZ a,gZ b,iP p] (.ik [gZ (jk (iN a b) p true),iP (jf (iN a b) p true)]):=
 ak call150 func150 (af [.c (Si a b p true aD aD aC aC)]) 
def GA(a b:Dy)(p:Nat)(ha:a.gX)(hb:b.gX)(ig:8<=p)(gY:p<=512):gU 189 [gZ a,gZ b,iP p] (.ik [gZ (jk (lI a b) p false),iP (jf (lI a b) p false)]):=
 ak call189 func189 (af [.c (Ss a b p false aD aD aC aC)]) 
def GB(a b:Dy)(p:Nat)(ha:a.gX)(hb:b.gX)(ig:8<=p)(gY:p<=512):gU 190 [gZ a,gZ b,iP p] (.ik [gZ (jk (lI a b) p true),iP (jf (lI a b) p true)]):=
 ak call190 func190 (af [.c (Ss a b p true aD aD aC aC)]) 
end Go.Proofs.YtkjkcjhacddojaaGreatDoor
namespace Go.Proofs.YtkjkcjhacddojaaGreatDoor.Fp
def aa7{U V P q:Nat}(hP:0<P)(hV:9223372036854775808<=V/P)(ZT:U<4294967296*V)(h1:q<=4294967295)(h2:q<=U/P/(V/P))(h3:q=4294967295\/U/P/(V/P)<=q):
 U/V<=q/\q<=U/V+1:=by
 have Js:0<V/P:= aC ;have ux:0<V:=by
  apply bN;intro h;have:V=0:= aC ;rw[this,Nat.zero_div]at Js;omega
 have hVm:=cC V P;have hVr:=bC V hP;have hUm:=cC U P;have hUr:=bC U hP;constructor
 .
  rcases h3 with h3|h3
  .have:U/V<4294967296:=by rw[cw ux];exact ZT
   omega
  .refine bj ?_ h3;rw[cY Js,cY hP,bu];have h4:V/P*P<=V:=de V P;exact bj (cF _ h4) (de U V)
 .
  have h4:q*(V/P)<=U/P:=(cY Js).1 h2;have h5:q*V<=q*(V/P)*P+q*P:=by
   have:V<=V/P*P+P:=by rw[bB];omega
   have:=cF q this;rw[bJ,<-bu]at this;exact this
  have h6:q*(V/P)*P<=U:=bj (bI P h4) (de U P);have h7:(q+1)*P<=V/P*P:=bI P aC;have h8:V/P*P<=V:=de V P;have h9:q*V<U+V:=by
   rw[bR,bT]at h7;omega
  apply bN;intro h;have sw:(U/V+2)*V<=q*V:=bI V aC;have tf:=cC U V;have h12:=bC U ux;rw[bR,bB (U/V)]at sw;omega
def WV{x v w third q rest:Nat}(hx:q*v+rest=x)(hq:q<=4294967295)(hw:w<4294967296)(hv:0<v)
 (h:4294967296<=rest\/q*w<=rest*4294967296+third):q<=(x*4294967296+third)/(v*4294967296+w):=by
 rw[cY aC,bJ,<-hx];have e:q*(v*4294967296)=q*v*4294967296:=by rw[bu]
 rw[e,bR];rcases h with h|h
 .have h1:q*w<=4294967295*4294967295:=cW hq aC ;omega
 .omega
def NB{x v w third q rest:Nat}(hx:q*v+rest=x)(hv:0<v)(h:rest*4294967296+third<q*w):
 (x*4294967296+third)/(v*4294967296+w)<=q-1/\0<q/\(q-1)*v+(rest+v)=x:=by
 have hq:0<q:=by
  apply bN;intro h';have:q=0:= aC ;subst this;rw[cH]at h;omega
 obtain⟨r,rfl⟩:∃ r,q=r+1:=⟨q-1,aC⟩
 refine⟨?_,hq,?_⟩
 .have e1:(r+1)*(v*4294967296+w)=(r+1)*v*4294967296+(r+1)*w:=by rw[bJ,<-bu]
  have e2:((r+1)*v+rest)*4294967296=(r+1)*v*4294967296+rest*4294967296:=bR _ _ _;have:(x*4294967296+third)/(v*4294967296+w)<r+1:=by
   have hd:0<v*4294967296+w:= aC ;have e4:x*4294967296=(r+1)*v*4294967296+rest*4294967296:=hx▸e2;refine(cw hd).2 ?_;rw[e1,e4];clear e1 e2 e4 hd hx hq;generalize (r+1)*v=a at *
   generalize (r+1)*w=z at *
   exact Nat.add_lt_add_left h _|>λh=>by rw[<-dj]at h;exact h
  omega
 .have e3:(r+1)*v=r*v+v:=gw r v;rw[eo];rw[e3]at hx;clear e3 h hq;generalize r*v=a at *
  omega
def WX{x v w third:Nat}(hv:0<v)(ht:third<4294967296):(x*4294967296+third)/(v*4294967296+w)<=x/v:=by
 have h1:(x*4294967296+third)/(v*4294967296+w)<=(x*4294967296+third)/(v*4294967296):=gy aC aC;refine bj h1 ?_;rw[bB v,<-dt];have:(x*4294967296+third)/4294967296=x:= aC ;rw[this];exact bd _
structure vo(O0:List Nat)(j q:Nat)(V:List Nat)(k:Nat)(O:List Nat)(c b:Nat):Prop where
 len:O.length=O0.length
 ok:iD O
 vl:val O+q*(4294967296^j*val (V.take k))=val O0+4294967296^(j+k)*(c+b)
 oP:∀ i,j+k<=i->O.getD i 0=O0.getD i 0
 MX:c<4294967296
 MI:b<=1
def vo.start{O0:List Nat}(h:iD O0)(j q:Nat)(V:List Nat):vo O0 j q V 0 O0 0 0:=
 ⟨rfl,h,by simp[val],λ_ _=>rfl,aE,aE⟩
def afG{q y c b u:Nat}(hq:q<=4294967295)(hy:y<4294967296)(hc:c<4294967296)(hb:b<=1)(hu:u<4294967296):
 q*y+c<18446744073709551616/\(q*y+c)/4294967296<4294967296 /\
 ((u+18446744073709551616-(q*y+c)%4294967296-b)%18446744073709551616)/9223372036854775808<=1 /\
 ((u+18446744073709551616-(q*y+c)%4294967296-b)%18446744073709551616)%4294967296+(q*y+c)%4294967296+b =
  u+4294967296*(((u+18446744073709551616-(q*y+c)%4294967296-b)%18446744073709551616)/9223372036854775808):=by
 have h1:q*y<=4294967295*4294967295:=cW hq aC;generalize q*y=z at *
 omega
def vo.step{O0 V O:List Nat}{j q k c b:Nat}(h:vo O0 j q V k O c b){u' b':Nat}(hk:k<V.length)(hj:j+V.length<O0.length)(hu:u'<4294967296)(hc:(q*V.getD k 0+c)/4294967296<4294967296)(hb:b'<=1)
 (hd:u'+(q*V.getD k 0+c)%4294967296+b=O.getD (j+k) 0+4294967296*b'):
 vo O0 j q V (k+1) (O.set (j+k) u') ((q*V.getD k 0+c)/4294967296) b':=by
 have oH:j+k<O.length:=by rw[h.len];omega
 refine⟨by rw[cX];exact h.len,h.ok.set _ hu,?_,λi hi=>?_,hc,hb⟩
 .have e:=dV (q*V.getD k 0+c) 4294967296;have h1:=AJ (x:=u') oH;have h2:=h.vl;have h3:u'+(q*V.getD k 0+c)+b=O.getD (j+k) 0+4294967296*((q*V.getD k 0+c)/4294967296+b'):= aC ;have h4:=congrArg (4294967296^(j+k) * ·) h3;simp only[bJ]at h4;rw[uc,bJ (4294967296^j),bJ q,<-bu (4294967296^j),<-bk,show q*(4294967296^(j+k)*V.getD k 0)=4294967296^(j+k)*(q*V.getD k 0)from dL _ _ _,
   show j+(k+1)=j+k+1 from rfl,bw,bu,bJ 4294967296,bJ (4294967296^(j+k))]
  rw[bJ]at h2;omega
 .rw [xV aC];exact h.oP i aC 
def vo.Km{O0 V O:List Nat}{j q c b:Nat}(h:vo O0 j q V V.length O c b)(hj:j+V.length<O0.length){t:Nat}
 (ht:t=(O.getD (j+V.length) 0+18446744073709551616-c-b)%18446744073709551616):
 (O.set (j+V.length) (t%4294967296)).length=O0.length/\iD (O.set (j+V.length) (t%4294967296))/\t/9223372036854775808<=1 /\
 val (O.set (j+V.length) (t%4294967296))+q*(4294967296^j*val V)=val O0+4294967296^(j+V.length+1)*(t/9223372036854775808) /\
 ∀ i,j+V.length<i->(O.set (j+V.length) (t%4294967296)).getD i 0=O0.getD i 0:=by
 have oH:j+V.length<O.length:=by rw[h.len];omega
 have hc:=h.MX;have hb:=h.MI;have hu:=h.ok.getD (j+V.length);have hd:t%4294967296+c+b=O.getD (j+V.length) 0+4294967296*(t/9223372036854775808):= aC ;refine⟨by rw[cX];exact h.len,h.ok.set _ (bC _ aE),aC,?_,λi hi=>by rw[xV aC];exact h.oP i aC⟩;have h1:=AJ (x:=t%4294967296) oH;have h2:=h.vl;rw[gl]at h2;have h4:=congrArg (4294967296^(j+V.length) * ·) hd;simp only[bJ]at h4;rw[bw,bu];rw[bJ]at h2;omega
structure vi(O0:List Nat)(j:Nat)(V:List Nat)(k:Nat)(O:List Nat)(c:Nat):Prop where
 len:O.length=O0.length
 ok:iD O
 vl:val O+4294967296^(j+k)*c=val O0+4294967296^j*val (V.take k)
 oP:∀ i,j+k<=i->O.getD i 0=O0.getD i 0
 Ip:c<=1
def vi.start{O0:List Nat}(h:iD O0)(j:Nat)(V:List Nat):vi O0 j V 0 O0 0:=
 ⟨rfl,h,by simp[val],λ_ _=>rfl,aE⟩
def vi.step{O0 V O:List Nat}{j k c:Nat}(h:vi O0 j V k O c)(hV:iD V)(hk:k<V.length)(hj:j+V.length<O0.length):
 vi O0 j V (k+1) (O.set (j+k) ((O.getD (j+k) 0+V.getD k 0+c)%4294967296)) ((O.getD (j+k) 0+V.getD k 0+c)/4294967296):=by
 have oH:j+k<O.length:=by rw[h.len];omega
 have hu:=h.ok.getD (j+k);have hy:=hV.getD k;have hc:=h.Ip;refine⟨by rw[cX];exact h.len,h.ok.set _ (bC _ aE),?_,λi hi=>by rw[xV aC];exact h.oP i aC,aC⟩;have h1:=AJ (x:=(O.getD (j+k) 0+V.getD k 0+c)%4294967296) oH;have h2:=h.vl;have h4:=congrArg (4294967296^(j+k) * ·) (dV (O.getD (j+k) 0+V.getD k 0+c) 4294967296);simp only[bJ]at h4;rw[uc,bJ (4294967296^j),<-bu (4294967296^j),<-bk,show j+(k+1)=j+k+1 from rfl,bw,bu];omega
def vi.Km{O0 V O:List Nat}{j c:Nat}(h:vi O0 j V V.length O c)(hj:j+V.length<O0.length):
 (O.set (j+V.length) ((O.getD (j+V.length) 0+c)%4294967296)).length=O0.length/\iD (O.set (j+V.length) ((O.getD (j+V.length) 0+c)%4294967296)) /\
 (∃ κ,κ<=1/\val (O.set (j+V.length) ((O.getD (j+V.length) 0+c)%4294967296))+4294967296^(j+V.length+1)*κ=val O0+4294967296^j*val V) /\
 ∀ i,j+V.length<i->(O.set (j+V.length) ((O.getD (j+V.length) 0+c)%4294967296)).getD i 0=O0.getD i 0:=by
 have oH:j+V.length<O.length:=by rw[h.len];omega
 have hu:=h.ok.getD (j+V.length);have hc:=h.Ip;refine⟨by rw[cX];exact h.len,h.ok.set _ (bC _ aE),⟨(O.getD (j+V.length) 0+c)/4294967296,aC,?_⟩,λi hi=>by rw[xV aC];exact h.oP i aC⟩;have h1:=AJ (x:=(O.getD (j+V.length) 0+c)%4294967296) oH;have h2:=h.vl;rw[gl]at h2;have h4:=congrArg (4294967296^(j+V.length) * ·) (dV (O.getD (j+V.length) 0+c) 4294967296);simp only[bJ]at h4;rw[bw,bu];omega
def TX{O:List Nat}(h:iD O){k:Nat}(hz:∀ i,k<=i->O.getD i 0=0):val O<4294967296^k:=by
 by_cases hk:O.length<=k
 .exact bM (mQ h) (bH aE hk)
 .rw [Ci O k aC];have:val (O.drop k)=0:=by
   rw[Er];intro x hx;obtain⟨i,hi⟩:=dv.1 hx;rw[er]at hi;have:=hz (k+i) aC;rw[bc,hi]at this;exact this
  rw[this,cA,bL];have h1:=mQ (h.take k);rw[cv,dh aC]at h1;exact h1
def afQ{O:List Nat}(h:iD O){k:Nat}(hv:val O<4294967296^k){i:Nat}(hi:k<=i):O.getD i 0=0:=by
 have h1:val (O.drop k)=0:=by rw[Ep h,cV hv]
 rw[Er]at h1;rw[bc];cases hg:O[i]? with
 |none=>rfl
 |some x=>exact h1 x (dv.2 ⟨i-k,by rw[er,(aC:k+(i-k)=i)];exact hg⟩)
def NC{u u' V P x:Nat}(hP:0<P)(hV:0<V)(h:u'+x*(P*V)=u)(hx:u/P/V<=x):x=u/P/V/\u'<V*P:=by
 have h1:x*V<=u/P:=by
  rw[cY hP,bu,bB V P];omega
 have h2:x<=u/P/V:=(cY hV).2 h1;have h3:x=u/P/V:= aC ;refine⟨h3,?_⟩;have e1:=cC u P;have e2:=bC u hP;have e3:=cC (u/P) V;have e4:=bC (u/P) hV;rw[<-h3]at e3;have e5:P*(u/P)=x*(P*V)+P*(u/P%V):=by
  rw[<-e3,bJ,e3,bB V x,dL]
 have e6:P*(u/P%V)+P<=V*P:=by
  rw[bB V P,<-Nat.mul_succ];exact cF P e4
 omega
def WW{u u' u'' V P R x κ:Nat}(hP:0<P)(hV:0<V)(h:u'+x*(P*V)=u+R)(h':u'<R)(hx:x<=u/P/V+1)
 (hk:κ<=1) (h2:u''+R*κ=u'+P*V) (h3:u''<R):0<x/\x-1=u/P/V/\u''+(x-1)*(P*V)=u/\u''<V*P:=by
 have ny:u/P<x*V:=by
  rw[cw hP,bu,bB V P];omega
 have F2:u/P/V<x:=by rw[cw hV];exact ny
 have sG:x=u/P/V+1:=Nat.le_antisymm hx F2;obtain⟨y,hy⟩:∃ y,y=u/P/V:=⟨_,rfl⟩
 rw[<-hy]at sG;subst sG;rw[eo];have e0:(y+1)*(P*V)=y*(P*V)+P*V:=gw _ _;have e1:y*(P*V)<=u:=by
  have:y*V<=u/P:=by rw[hy];exact de _ _
  have:=(cY hP).1 this;rw[bu,bB V P]at this;exact this
 have hκ:κ=1:=by
  apply bN;intro q;obtain rfl:κ=0:= aC ;omega
 subst hκ;have e2:u''+y*(P*V)=u:= aC ;exact⟨aC,hy,e2,(NC hP hV e2 aC).2⟩
def q7(q rest third v w x:Nat):Prop:=rest+x*v<4294967296/\(rest+x*v)*4294967296+third<(q-x)*w
def Nz{X q rest third v w:Nat}(hx:q*v+rest=X)(hq:q<=4294967295)(hv:2147483648<=v)(hw:w<4294967296):
 ∃ N,N<=2/\N<=q/\(∀ x,x<N->q7 q rest third v w x)/\¬q7 q rest third v w N/\q-N<=(X*4294967296+third)/(v*4294967296+w)/\(N=0\/(X*4294967296+third)/(v*4294967296+w)<=q-N):=by
 have stop:∀ {q' r':Nat},q'*v+r'=X->q'<=4294967295->¬(r'<4294967296/\r'*4294967296+third<q'*w)->q'<=(X*4294967296+third)/(v*4294967296+w):=fun {q' r'} h1 h2 h3=>
  WV h1 h2 hw aC (by
   by_cases hr:4294967296<=r'
   .exact .inl hr
   .refine .inr (Nat.le_of_not_lt λhn=>h3 ⟨Nat.lt_of_not_le hr,hn⟩))
 by_cases h0:q7 q rest third v w 0
 .have g0:=h0;unfold q7 at g0;rw[cH,bL,ey]at g0;obtain⟨k1,k2,k3⟩:=NB hx aC g0.2;by_cases h1:q7 q rest third v w 1
  .have g1:=h1;unfold q7 at g1;rw[bT]at g1;obtain⟨l1,l2,l3⟩:=NB k3 aC g1.2;have h2:¬q7 q rest third v w 2:=λh=>by unfold q7 at h;omega
   refine⟨2,bd _,aC,λx hx=>?_,h2,?_,.inr l1⟩
   .obtain rfl|rfl:x=0\/x=1:= aC 
    .exact h0
    .exact h1
   .refine stop (r':=rest+v+v) l3 aC λh=> aC 
  .refine ⟨1,aE,k2,λx hx=>?_,h1,?_,.inr k1⟩
   .obtain rfl:x=0:= aC ;exact h0
   .unfold q7 at h1;rw[bT]at h1;exact stop k3 aC h1
 .refine ⟨0,aE,bO _,λx hx=>absurd hx (bE x),h0,?_,.inl rfl⟩;unfold q7 at h0;rw[cH,bL,ey]at h0;exact stop hx hq h0
def Xd{a b s q r:Nat}(hb:0<b)(h:r+b*2^s*q=a*2^s)(hr:r<b*2^s):q=a/b/\r=a%b*2^s:=by
 have hp:0<2^s:=bn aE;have h1:r%2^s=0:=by
  have:=congrArg (· % 2^s) h;simp only[fP]at this;rw[bu,dL,dR]at this;exact this
 obtain⟨t,ht⟩:∃ t,r=t*2^s:=⟨r/2^s,by rw[Nat.div_mul_cancel (Nat.dvd_of_mod_eq_zero h1)]⟩
 subst ht;have h2:(t+b*q)*2^s=a*2^s:=by rw[bR,<-h,fN]
 have h3:=ahx hp h2;have h4:t<b:=ahy hr;constructor
 .rw [<-h3,eJ _ _ hb,cV h4,bW]
 .rw [<-h3,dR,bZ h4]
def TE{O:List Nat}(h:iD O){j n:Nat}(hn:2<=n)(hz:∀ i,j+n<i->O.getD i 0=0):
 val O/4294967296^j/4294967296^(n-2)=(O.getD (j+n) 0*4294967296+O.getD (j+n-1) 0)*4294967296+O.getD (j+n-2) 0:=by
 rw[dt,<-bk,<-Ep h];have e:∀ (l:List Nat),iD l->(∀ i,2<i->l.getD i 0=0)->val l=(l.getD 2 0*4294967296+l.getD 1 0)*4294967296+l.getD 0 0:=by
  intro l hl hz;rcases l with _|⟨a,_|⟨b,_|⟨c,l⟩⟩⟩
  .rfl
  .simp [val]
  .simp [val];omega
  .have:val l=0:=by
    rw[Er];intro x hx;obtain⟨i,hi⟩:=dv.1 hx;have:=hz (i+3) aC;rw[bc]at this;simp only[aho,hi]at this;exact this
   simp[val,this];omega
 have g:∀ i,(O.drop (j+(n-2))).getD i 0=O.getD (j+(n-2)+i) 0:=λi=>by
  rw[bc,er,bc]
 rw[e _ (h.drop _) (λi hi=>by rw[g];exact hz _ aC),g,g,g];rw[(aC:j+(n-2)+2=j+n),(aC:j+(n-2)+1=j+n-1),(aC:j+(n-2)+0=j+n-2)]
def afO{V:List Nat}(h:iD V){n:Nat}(hn:2<=n)(hl:V.length=n):val V/4294967296^(n-2)=V.getD (n-1) 0*4294967296+V.getD (n-2) 0:=by
 have:=TE (O:=V) h (j:=0) (n:=n) hn (λi hi=>by rw[bc,ct aC];rfl);rw[cB,fc,bW]at this;rw[this,show V.getD n 0=0 by rw[bc,ct aC];rfl];omega
end Go.Proofs.YtkjkcjhacddojaaGreatDoor.Fp
namespace Go.Proofs.YtkjkcjhacddojaaGreatDoor
open Go.RowKit Fp
def Rx(w:World)(b:Nat)(L:List Nat)(R:List Value):Prop:=w.heap[b]? = some (.cells (mX L++R).toArray 150 (0,0))
section
variable {w w':World} {b:Nat} {L:List Nat} {R:List Value}
def Rx.lt(h:Rx w b L R):b<w.heap.size:=(cS.1 h).1
def Rx.cell(h:Rx w b L R){i:Nat}(hi:i<L.length):w.cell? ⟨b,i,none⟩=some (.int .u32 (L.getD i 0:Int)):=by
 unfold Rx at h;simp only[World.cell?,h];simp[mX,hi,fp]
def Rx.frozen(h:Rx w b L R)(i:Nat):w.frozen? ⟨b,i,none⟩=false:=by
 unfold Rx at h;simp[World.frozen?,h]
def Rx.set(h:Rx w b L R){i:Nat}(hi:i<L.length)(x:Nat):Rx (w.setCell ⟨b,i,none⟩ (.int .u32 (x:Int))) b (L.set i x) R:=by
 unfold Rx at h ⊢;simp only[World.setCell,cO,h];simp[mX,List.map_set,List.set_append,hi]
def Rx.oP(h:Rx w b L R)(hb:w'.heap[b]? = w.heap[b]?):Rx w' b L R:=by unfold Rx at h ⊢;rw[hb];exact h
end
structure qY(b:Nat)(w w':World):Prop where
 below:Below b w w'
 size:w'.heap.size=w.heap.size
 oA:∀ x,x≠b->w'.heap[x]? = w.heap[x]?
def qY.refl(b:Nat)(w:World):qY b w w:=⟨Below.refl _ _,rfl,λ_ _=>rfl⟩
def qY.Ed{b:Nat}{w w':World}(h:qY b w w')(i:Nat)(v:Value):qY b w (w'.setCell ⟨b,i,none⟩ v):=
 ⟨h.below.setCell (p:=⟨b,i,none⟩) (bd _) v,by
  have:(w'.setCell ⟨b,i,none⟩ v).heap.size=w'.heap.size:=by simp[World.setCell]
  rw[this,h.size],λx hx=>by
  rw[<-h.oA x hx];simp only[World.setCell,cO];rw[aY (λe=>hx e.symm)]⟩
def L4(b:Nat)(A:Option Addr):Prop:=∀ b' o s,A=some ⟨b',o,s⟩->b'≠b
def Sl.oA{w w':World}{A:Option Addr}{c b:Nat}{L:List Nat}(h:Sl w A c L)(ha:L4 b A)(ho:qY b w w'):Sl w' A c L:=
 ⟨h.cap,h.pq,h.ok,h.vY,λi x hx=>by
  obtain⟨b',o,e,h1,h2⟩:=h.cell i x hx;refine⟨b',o,e,by rw[ho.size];exact h1,?_⟩;rw[<-h2];exact(World.cell?_of_block (w:=w) (w':=w') (ho.oA b' (ha _ _ _ e)))⟩
def T6{u m b:Nat}(hm:m<4294967296)(hb:b<=4294967296):
 IntKind.u64.wrap (IntKind.u64.wrap ((u:Int)-m)-(b:Int))=(((u+18446744073709551616-m-b)%18446744073709551616:Nat):Int):=by
 rw[IntKind.wrap_u64,IntKind.wrap_u64];omega
def afF(b j cu c q:Nat)(O V:List Nat)(R:List Value)(A:Option Addr)(w:World)(hu:Rx w b O R)(hv:Sl w A c V)(hA:L4 b A)(j8:iD O)(hj:j+V.length<O.length)(hq:q<=4294967295)(hl:O.length<=1000000):
 Calls prog 378 #[.slice (some ⟨b,j,none⟩) (V.length+1) cu,.slice A V.length c,.int .u64 q] w λe w'=>∃ (O':List Nat) (δ:Nat),e = .returned (.bool (decide (δ=1)))/\Rx w' b O' R/\O'.length=O.length/\iD O'/\δ<=1 /\
  val O'+q*(4294967296^j*val V)=val O+4294967296^(j+V.length+1)*δ/\(∀ i,j+V.length<i->O'.getD i 0=O.getD i 0)/\qY b w w':=by
 obtain⟨n,hn⟩:∃ n,n=V.length:=⟨_,rfl⟩
 rw[<-hn]at hj ⊢;have HN:=ahF hn;have HJ:=ahF hj;clear hn;have jE:n<=1000000:= aC ;have Bm:j<=1000000:= aC ;clear hj;have HT0:=ahF (vo.start j8 j q V);clear j8;have HO:=ahF (qY.refl b w);have HU:=ahF hu;clear hu;go_enter func378,ntmps378;go_wp2;go_loopw [7,8,9,10,11,12,16] (λcy bo _ _ _ _ i wr=>∃ (k c' b':Nat) (O':List Nat),k<=n/\i = .int .i64 k/\cy = .int .u64 c'/\bo = .int .u64 b'/\vo O j q V k O' c' b'/\Rx wr b O' R/\qY b w wr) (λ_ _ _ _ _ _ i _=>n-(intOf i).toNat)
 case atStart=>
  exact⟨0,0,0,O,bO _,rfl,rfl,rfl,HT0.out,HU.out,HO.out⟩
 case round=>
  obtain⟨k,c',b',O',hk,rfl,rfl,rfl,ht,hR,ho⟩:=hrel;clear HT0 HO HU;have HTk:=ahF ht;have jW:=ht.MI;have FG:=ht.MX;have HOl:=ahF ht.len;clear ht;have JZ:=hv.oA hA ho;by_cases iA:k<n
  .have wX:k<V.length:=by rw[<-HN.out];exact iA
   obtain⟨ab,ao,e1,_,c1⟩:=JZ.kD wX;have oK:V.getD k 0<4294967296:=hv.ok.getD k;have Qi:V[k]=V.getD k 0:=by simp[bc,wX]
   rw[Qi]at c1;have oH:j+k<O'.length:=by rw[HOl.out];have:=HJ.out;omega
   have c2:=hR.cell oH;have c3:=hR.frozen (j+k);have Dg:O'.getD (j+k) 0<4294967296:=HTk.out.ok.getD _;obtain⟨sF,jS,Dc,PX⟩:=afG hq oK FG jW Dg;have HST:=ahF (HTk.out.step (b':=((O'.getD (j+k) 0+18446744073709551616-(q*V.getD k 0+c')%4294967296-b')%18446744073709551616)/9223372036854775808) wX (by rw[<-HN.out];exact HJ.out) (bC _ aE) jS Dc PX);have HRS:=ahF (λx:Nat=>hR.set oH x);have HOS:=ahF (λ(v:Value)=>ho.Ed (j+k) v);clear hR ho HTk oH Qi wX PX HOl JZ;subst e1;have hm1:q*V.getD k 0<=4294967295*4294967295:=cW hq aC;have zY:IntKind.u64.wrap ((q:Int)*(V.getD k 0:Int))=((q*V.getD k 0:Nat):Int):=by rw[<-eB];exact qK _ aC 
   generalize V.getD k 0=y at *
   generalize q*y=z at *
   have J0:IntKind.u64.wrap ((z:Int)+c')=((z+c':Nat):Int):=by rw[<-fD];exact qK _ aC 
   generalize O'.getD (j+k) 0=u at *
   generalize z+c'=s at *
   have wY:bits .and .u64 (s:Int) 4294967295=((s%4294967296:Nat):Int):=by rw[wG s aC];omega
   have agW:s%4294967296<4294967296:=bC _ aE;have hd:(s:Int)/4294967296=((s/4294967296:Nat):Int):= aC ;generalize s%4294967296=m at *
   generalize s/4294967296=s2 at *
   have hsb:=T6 (u:=u) (m:=m) (b:=b') aC aC;generalize (u+18446744073709551616-m-b')%18446744073709551616=t at *
   have wU:(j:Int)+k=((j+k:Nat):Int):= aC ;go_wp2;go_roundw
   case rel=>
    have e1:((t:Int)%4294967296)=((t%4294967296:Nat):Int):= aC ;exact⟨k+1,s2,t/9223372036854775808,O'.set (j+k) (t%4294967296),aC,by go_num,by go_num,by go_num,HST.out,by rw[e1];exact HRS.out _,HOS.out _⟩
   case measure=>simp[intOf];omega
  .obtain rfl:k=n:= aC ;have JI:j+k<O.length:=HJ.out;have HTk':=ahF (show vo O j q V V.length O' c' b' by rw[<-HN.out];exact HTk.out);have HL:=HTk'.out.Km (t:=(O'.getD (j+k) 0+18446744073709551616-c'-b')%18446744073709551616) (by rw[<-HN.out];exact JI) (by rw[<-HN.out]);rw[<-HN.out]at HL;have HT:=ahF HL;clear HL;have oH:j+k<O'.length:=by rw[HOl.out];exact JI
   have c2:=hR.cell oH;have c3:=hR.frozen (j+k);have Dg:O'.getD (j+k) 0<4294967296:=HTk.out.ok.getD _;have HRS:=ahF (λx:Nat=>hR.set oH x);have HOS:=ahF (λ(v:Value)=>ho.Ed (j+k) v);clear hR ho HTk HTk' oH JI HOl JZ;generalize O'.getD (j+k) 0=u at *
   have hsb:=T6 (u:=u) (m:=c') (b:=b') FG aC;have htl:(u+18446744073709551616-c'-b')%18446744073709551616<18446744073709551616:=bC _ aE;generalize (u+18446744073709551616-c'-b')%18446744073709551616=t at *
   have wU:(j:Int)+k=((j+k:Nat):Int):= aC ;go_wp2;go_ret;have e1:((t:Int)%4294967296)=((t%4294967296:Nat):Int):= aC ;obtain⟨t1,t2,t3,t4,t5⟩:=HT.out;exact⟨O'.set (j+k) (t%4294967296),t/9223372036854775808,Sy (a:=(((t:Int)/9223372036854775808)==1)) (by rw[fe,beq_iff_eq,gi];omega),by rw[e1];exact HRS.out _,t1,t2,t3,t4,t5,HOS.out _⟩
def Rz(A:Option Addr)(c:Nat)(L:List Nat)(n:Nat)(w:World)(hs:Sl w A c L)(hlen:L.length<=100000000)(hn:n<=65536):
 Calls prog 275 #[.slice A L.length c,.int .i64 n] w (λe w'=>∃ T v,e = .returned v/\val T=val L*2^n/\T.length=n/32+(ix L).length+1/\Ow w' w.heap.size v T/\iz w w'):=by
 have hT:=ahF (sM A c L w hs);have jS:=hs.rY;have mL:=nX L;have hC:=jS.cap;have hL:=hs.pq;unfold lu at mL;have hv:=ahF (oD L);generalize ix L=M at *
 obtain⟨m,hm⟩:∃ m,m=M.length:=⟨_,rfl⟩
 rw[<-hm]at hT mL hC;have HM:=ahF hm;clear hm;have oq:=Kt (n/32) (n/32+m+1) aC aC;rw[show((n/32:Nat):Int)=n/32 by omega,show((n/32+m+1:Nat):Int)=n/32+m+1 by omega]at oq;have CS:=ahF (Ow.xf w w.heap.size (n/32) (n/32+m+1) (bd _) aC aC);go_enter func275,ntmps275;go_wp2_with fail;refine hT.out.mono ?_;rintro e w' ⟨rfl,rfl⟩;go_wp2;go_loopw [5,6,23] (λv cy i wr=>∃ (k q:Nat) (O:List Nat),k<=m/\i = .int .i64 k/\cy = .int .u64 q/\q<2^(n%32)/\O.length=n/32+k/\val O+4294967296^(n/32+k)*q=val (M.take k)*2^(n%32)*4294967296^(n/32)/\Ow wr w.heap.size v O/\iz w wr) (λ_ _ i _=>m-(intOf i).toNat)
 case atStart=>
  exact⟨0,0,List.replicate (n/32) 0,bO _,rfl,rfl,bn aE,aH,by simp[yZ],CS.out,iz.alloc _ _⟩
 case round=>
  obtain⟨k,q,O,hk,rfl,rfl,hq,hO,j9,ku,hb⟩:=hrel;have HV:=ahF j9;have HO:=ahF hO;have CR:O.length<=200000000:= aC ;have tu:=ahF hq;clear j9 hO hq;obtain⟨OA,Oc,rfl,zL⟩:=ku.sl;by_cases iA:k<m
  .have nP:k<M.length:=by have:=HM.out;omega
   obtain⟨ab,ao,rfl,_,c1⟩:=(jS.below hb).kD nP;have lN:M[k]<4294967296:=jS.ok.get nP;have HX:=ahF (Lz (c:=q) (s:=n%32) (n0:=n/32) nP HO.out HV.out);generalize M[k]=x at *
   obtain⟨hw,Dj,vQ⟩:=LA x q (n%32) lN (bC _ aE) tu.out;generalize x*2^(n%32)+q=z at *
   have Dk:=ahF vQ;clear vQ;have kQ:O.length+[z%4294967296].length<=10000000000:= aN ;go_wp2_with (at_builtin;go_must (refine qL aG _ _ aG w.heap.size _ O aG (ku.alloc _) _ _ _ [z%4294967296] aG aG (Sl.rU _ _ (z%4294967296) aC aC) kQ (qa hb.size _) ?_);intro v' w1 nh hg om)
   go_roundw
   case rel=>
    exact⟨k+1,z/4294967296,O++[z%4294967296],aC,by go_num,by go_num,Dk.out,by rw[bX,HO.out];rfl,HX.out,nh,(hb.trans (iz.alloc _ _)).own _ _ (ku.alloc _) hg⟩
   case measure=>simp[intOf];omega
  .obtain rfl:k=m:= aC ;have kQ:O.length+[q].length<=10000000000:= aN ;have FU:q<4294967296:=by
    have:=tu.out;have hp:2^(n%32)<=2^31:=bH aE aC;have e31:(2:Nat)^31=2147483648:= aE ;omega
   have PW:(q:Int)%4294967296=q:= aC ;go_wp2_with (at_builtin;go_must (refine qL aG _ _ aG w.heap.size _ O aG (ku.alloc _) _ _ _ [q] aG aG (Sl.rU _ _ q aC aC) kQ (qa hb.size _) ?_);intro v' w1 nh hg om)
   go_ret;refine⟨O++[q],v',rfl,?_,by rw[bX,HO.out,<-HM.out];rfl,nh,(hb.trans (iz.alloc _ _)).own _ _ (ku.alloc _) hg⟩;have h:=HV.out;rw[cG (by rw[HM.out];exact bd _)]at h;rw[sU,HO.out,pf,xx,cA,bL,h,<-hv.out,qV,bu,<-bk];congr 2;omega
end Go.Proofs.YtkjkcjhacddojaaGreatDoor
namespace Go.Proofs.YtkjkcjhacddojaaGreatDoor.Fp
def ns(n k:Nat):Nat:=n/4294967296^k%4294967296
def IG(n k:Nat):ns n k<4294967296:=bC _ aE 
def WU(k:Nat):ns 0 k=0:=by unfold ns;rw[Nat.zero_div]
def pw(k:Nat):0<4294967296^k:=bn aE 
def Fw{L:List Nat}(h:iD L)(k:Nat):L.getD k 0=ns (val L) k:=by
 unfold ns;rw[<-Ep h];by_cases hk:k<L.length
 .rw [eK hk,show val (L[k]::L.drop (k+1))=L[k]+4294967296*val (L.drop (k+1))from rfl,dR,bZ (h.get hk)];simp[bc,hk]
 .rw [dU aC,bc,ct aC];rfl
def mod_succ(n k:Nat):n%4294967296^(k+1)=n%4294967296^k+4294967296^k*ns n k:=by
 rw[bw,Nat.mod_mul];rfl
def nu(n m:Nat):List Nat:=(List.range m).map (ns n)
def xP(n m:Nat):(nu n m).length=m:=by simp[nu]
def CC(n m:Nat):iD (nu n m):=λx hx=>by
 obtain⟨k,_,rfl⟩:=dk.1 hx;exact IG n k
def WZ{n m k:Nat}(h:k<m):(nu n m).getD k 0=ns n k:=by
 simp[nu,bc,h]
def WY(m i:Nat):(nu 0 m).getD i 0=0:=by
 by_cases h:i<m
 .rw [WZ h,WU]
 .rw [bc,ct (by rw[xP];omega)];rfl
def W0(n m:Nat):nu n (m+1)=nu n m++[ns n m]:=by simp[nu,List.range_succ]
def Eo(n m:Nat):val (nu n m)=n%4294967296^m:=by
 induction m with
 |zero=>simp[nu,val];omega
 |succ m ih=>
  rw[W0,sU,ih,xP,mod_succ];rfl
def agc{L M:List Nat}(hL:iD L)(hM:iD M)(hl:L.length=M.length)(hv:val L=val M):L=M:=by
 apply ahk hl;intro i h1 h2;have e1:=Fw hL i;have e2:=Fw hM i;rw[hv,<-e2]at e1;simpa[bc,h1,h2]using e1
def W1{L:List Nat}(h:iD L):nu (val L) L.length=L:=
 agc (CC _ _) h (xP _ _) (by rw[Eo,bZ (mQ h)])
def IH{L:List Nat}{n m:Nat}(h:iD L)(hl:L.length=m)(hv:val L=n):nu n m=L:=by subst hl hv;exact W1 h
def nS(a b k m:Nat):List Nat:=(List.range m).map λj=>if j<k then ns a j else ns b j
def abU(a b k m:Nat):(nS a b k m).length=m:=by simp[nS]
def abW(a b m:Nat):nS a b 0 m=nu b m:=by simp[nS,nu]
def abT{a b k m:Nat}(h:m<=k):nS a b k m=nu a m:=by
 unfold nS nu;exact fB λj hj=>aZ (bM (cz.1 hj) h)
def ag0{a b k m:Nat}:(nS a b k m).set k (ns a k)=nS a b (k+1) m:=by
 apply ahk
 .simp [nS]
 .intro j h1 h2;have hj:j<m:=by simpa[nS]using h2
  rw[List.getElem_set];by_cases h:k=j
  .subst h;simp[nS]
  .rw [aY h];simp only[nS,List.getElem_map,List.getElem_range];by_cases q:j<k
   .rw [aZ q,aZ aC]
   .rw [aY q,aY aC]
def abV{a b k m:Nat}:(nS a b (k+1) m).set k (ns b k)=nS a b k m:=by
 apply ahk
 .simp [nS]
 .intro j h1 h2;have hj:j<m:=by simpa[nS]using h2
  rw[List.getElem_set];by_cases h:k=j
  .subst h;simp[nS]
  .rw [aY h];simp only[nS,List.getElem_map,List.getElem_range];by_cases q:j<k
   .rw [aZ q,aZ aC]
   .rw [aY q,aY aC]
def Xf(a k:Nat):a/4294967296^k=4294967296*(a/4294967296^(k+1))+ns a k:=by
 rw[bw,<-dt];unfold ns;omega
def aeS{a d k:Nat}(hd:0<d)(yd:d<4294967296):(a/4294967296^(k+1)%d*4294967296+ns a k)/d=ns (a/d) k/\(a/4294967296^(k+1)%d*4294967296+ns a k)%d=a/4294967296^k%d:=by
 have e1:=Xf a k;have e2:=cC (a/4294967296^(k+1)) d;have e3:=bC (a/4294967296^(k+1)) hd;have e4:=IG a k;have e5:a/4294967296^k=d*(4294967296*(a/4294967296^(k+1)/d))+(a/4294967296^(k+1)%d*4294967296+ns a k):=by
  rw[e1,dL];omega
 have e6:(a/4294967296^(k+1)%d*4294967296+ns a k)/d<4294967296:=by
  rw[cw hd];have:=bI 4294967296 (show a/4294967296^(k+1)%d+1<=d from e3);omega
 constructor
 .conv=>rhs;unfold ns
  rw[dt,bB d,<-dt,e5,gQ hd,fu,bZ e6]
 .rw [e5,fu]
structure qM(U0:Nat)(V:List Nat)(k m:Nat)(O Q:List Nat):Prop where
 QN:O.length=m
 Dw:Q.length=m-V.length
 xm:iD O
 Ao:iD Q
 eq:val O+val V*val Q=U0
 lt:val O<val V*4294967296^k
 qz:∀ i,i<k->Q.getD i 0=0
def qM.step{U0 k m x:Nat}{V O Q O2:List Nat}(h:qM U0 V (k+1) m O Q)(hk:k<m-V.length)(hl:O2.length=m)(j8:iD O2)(hx:x<4294967296)
 (he:val O2+x*(4294967296^k*val V)=val O) (iA:val O2<val V*4294967296^k):qM U0 V k m O2 (Q.set k x):=by
 have wW:k<Q.length:=by rw[h.Dw];exact hk
 have hv:=AJ (x:=x) wW;rw[h.qz k (Nat.lt_succ_self k),cA,bL]at hv;refine⟨hl,by rw[cX];exact h.Dw,j8,h.Ao.set _ hx,?_,iA,λi hi=>by rw[xV aC];exact h.qz i aC⟩;rw[hv,bJ,show val V*(4294967296^k*x)=x*(4294967296^k*val V)by simp only[bB,dL,bu]];have:=h.eq;omega
def qM.zero{U0 k m:Nat}{V O Q:List Nat}(h:qM U0 V (k+1) m O Q)(hV:iD V){i:Nat}(hi:k+V.length<i):O.getD i 0=0:=by
 refine afQ h.xm (k:=k+V.length+1) ?_ hi;refine fI h.lt ?_;have:=di (mQ hV) (pw (k+1));rw[<-bk,(aC:V.length+(k+1)=k+V.length+1)]at this;exact this
def qM.Zv{U0 k m:Nat}{V O Q:List Nat}(h:qM U0 V (k+1) m O Q)(hV:iD V)(hn:2<=V.length)(hN:2147483648<=V.getD (V.length-1) 0):
 O.getD (k+V.length) 0<=V.getD (V.length-1) 0/\∀ g,g<=4294967295 ->
  g<=((O.getD (k+V.length) 0*4294967296+O.getD (k+V.length-1) 0)*4294967296+O.getD (k+V.length-2) 0)/(V.getD (V.length-1) 0*4294967296+V.getD (V.length-2) 0) ->
  (g=4294967295\/((O.getD (k+V.length) 0*4294967296+O.getD (k+V.length-1) 0)*4294967296+O.getD (k+V.length-2) 0)/(V.getD (V.length-1) 0*4294967296+V.getD (V.length-2) 0)<=g) ->
  val O/4294967296^k/val V<=g/\g<=val O/4294967296^k/val V+1:=by
 have t3:=TE h.xm (j:=k) hn (λi hi=>h.zero hV hi);have t2:=afO hV hn rfl;have hU:val O/4294967296^k<4294967296*val V:=by
  rw[cw (pw k)];have:=h.lt;rw[bw]at this;rw[show 4294967296*val V*4294967296^k=val V*(4294967296^k*4294967296)by simp only[bB,dL,bu]];exact this
 have w1:=h.xm.getD (k+V.length-1);have w2:=h.xm.getD (k+V.length-2);have w3:=hV.getD (V.length-2);refine⟨?_,λg g1 g2 g3=>?_⟩
 .have hP:=pw (V.length-2);have h1:val V<(V.getD (V.length-1) 0*4294967296+V.getD (V.length-2) 0+1)*4294967296^(V.length-2):=by
   rw[<-t2,<-cw hP];omega
  have h2:val O/4294967296^k/4294967296^(V.length-2)<4294967296*(V.getD (V.length-1) 0*4294967296+V.getD (V.length-2) 0+1):=by
   rw[cw hP];refine bM hU ?_;rw[bu];exact cF _ (dq h1)
  rw[t3]at h2;omega
 .rw [<-t3,<-t2]at g2 g3;exact aa7 (pw _) (by rw[t2];omega) hU g1 g2 g3
def qM.R0{U0 k m x:Nat}{V O Q O':List Nat}(h:qM U0 V (k+1) m O Q)(hV:iD V)(j8:iD O')(hv:val O'+x*(4294967296^k*val V)=val O+4294967296^(k+V.length+1)*1)
 (hs:∀ i,k+V.length<i->O'.getD i 0=O.getD i 0):val O'<4294967296^(k+V.length+1)/\0<x:=by
 have h1:val O'<4294967296^(k+V.length+1):=TX j8 λi hi=>by rw[hs i aC];exact h.zero hV aC 
 refine⟨h1,?_⟩;rcases dY x with h0|h0
 .subst h0;rw[cH]at hv;omega
 .exact h0
def qM.Vk{U0 k m x κ:Nat}{V O Q O' O2:List Nat}(h:qM U0 V (k+1) m O Q)(hV:iD V)(hk:k<m-V.length)(j8:iD O')(hv:val O'+x*(4294967296^k*val V)=val O+4294967296^(k+V.length+1)*1)
 (hs:∀ i,k+V.length<i->O'.getD i 0=O.getD i 0) (hx:x<=4294967295) (sG:x<=val O/4294967296^k/val V+1) (ux:0<val V) (mL:O2.length=m) (PQ:iD O2) (hκ:κ<=1)
 (h2:val O2+4294967296^(k+V.length+1)*κ=val O'+4294967296^k*val V) (jS:∀ i,k+V.length<i->O2.getD i 0=O'.getD i 0):qM U0 V k m O2 (Q.set k (x-1)):=by
 obtain⟨h1,h0⟩:=h.R0 hV j8 hv hs;have h3:val O2<4294967296^(k+V.length+1):=TX PQ λi hi=>by rw[jS i aC,hs i aC];exact h.zero hV aC 
 rw[ch]at hv;obtain⟨_,_,e,l⟩:=WW (pw k) ux hv h1 sG hκ h2 h3;exact h.step (x:=x-1) hk mL PQ aC e l
def acr{L:List Nat}{x s l:Nat}(hk:iD L)(hl:L.length=l+1)(hx:L.getD l 0=x)(ny:x≠0)(hs:s=32-ib x):
 s<32/\(gV (val L*2^s)).length=l+1/\2147483648<=(gV (val L*2^s)).getD l 0/\4294967296^l*2147483648<=val L*2^s/\val L*2^s<4294967296^(l+1):=by
 have lN:x<4294967296:=by rw[<-hx];exact hk.getD l
 have jW:=np ny;have mh:ib x<=32:=kV.2 lN;have h1:=rZ ny;have h2:=qH x;have e1:2^(ib x-1)*2^s=2147483648:=by rw[<-bk,(aC:ib x-1+s=31)]
 have e2:2^ib x*2^s=4294967296:=by rw[<-bk,(aC:ib x+s=32)]
 have hp:0<2^s:=bn aE;have hv:val L=val (L.take l)+4294967296^l*x:=by
  have:=uc L l;rw[cG aC,hx]at this;exact this
 have Bo:val (L.take l)<4294967296^l:=by
  have:=mQ (hk.take l);rw[cv,dh aC]at this;exact this
 have g1:4294967296^l*2147483648<=val L*2^s:=by
  rw[<-e1,<-bu];refine bI _ ?_;rw[hv];exact bj (cF _ h1) (Nat.le_add_left _ _)
 have g2:val L*2^s<4294967296^(l+1):=by
  have e3:4294967296^(l+1)=4294967296^l*(2^ib x*2^s):=by rw[bw,e2]
  rw[e3,<-bu];refine di ?_ hp;rw[hv];have:=cF (4294967296^l) (show x+1<=2^ib x from h2);rw[bJ,ch]at this;omega
 have hlen:(gV (val L*2^s)).length=l+1:=by
  have u1:=tG g2;have u2:¬(gV (val L*2^s)).length<=l:=λh=>by
   have:=DC h;have:=pw l;omega
  omega
 refine⟨aC,hlen,?_,g1,g2⟩;rw[Fw (kZ _),jM];unfold ns;rw[bZ (by rw[cw (pw l),bB 4294967296,<-bw];exact g2),cY (pw l),bB];exact g1
def qM.start{A s:Nat}{V O:List Nat}(hO:iD O)(hv:val O=A*2^s){la:Nat}(hA:A<4294967296^la)(hl:O.length=la+1)(hs:s<32)(hn:1<=V.length)(jE:V.length<=la)(hV:4294967296^(V.length-1)*2147483648<=val V):
 qM (A*2^s) V (la+1-V.length) (la+1) O (List.replicate (la+1-V.length) 0):=by
 refine⟨hl,aH,hO,iD.B2 _,by rw[yZ,cA,bL,hv],?_,λi _=>?_⟩
 .rw [hv];have CQ:2^s<=2^31:=bH aE aC;have ZC:(2:Nat)^31=2147483648:= aE ;rw[ZC]at CQ;have h1:A*2^s<4294967296^la*2^s:=di hA (bn aE);have h2:=cF (4294967296^la) CQ;have h3:=bI (4294967296^(la+1-V.length)) hV;rw[fN,<-bk,(aC:V.length-1+(la+1-V.length)=la)]at h3;omega
 .rw [bc,fC];split<;>rfl
end Go.Proofs.YtkjkcjhacddojaaGreatDoor.Fp
namespace Go.Proofs.YtkjkcjhacddojaaGreatDoor
open Go.RowKit Fp Pu
def Ef(n:Nat)(h:n<4294967296):IntKind.u64.wrap ((n:Int)*2^32)=((n*4294967296:Nat):Int):=by rw[IntKind.wrap_u64];omega
def DY(a b:Nat)(ha:a<4294967296)(hb:b<4294967296):bits .or .u64 ((a*4294967296:Nat):Int) (b:Int)=((a*4294967296+b:Nat):Int):=by
 rw[G8 _ _ aC aC,Nat.or_comm,show a*4294967296=a*2^32 by rfl,Gt b a 32 (by simpa using hb),Nat.add_comm]
def aeo{T n n' p:Nat}{L L':List Nat}{z:Nat}(hn:n=n')(hp:p<L.length)(hs:L.set p z=L'):Bx.le (.row false T n 1 λi' j'=>if i'=p/\0<=j'/\j'<0+1 then[.v (.int .u32 (z:Int))].getD (j'-0) .any else(oB L) i' j') (.row false T n' 1 (oB L')):=hs▸Lp hn hp
def Ny(q rest third v w:Nat)(x:Nat):PS:=⟨32,true,[(0,.e (.v (.int .u64 ((q-x:Nat):Int)))),(1,.e (.v (.int .u64 ((rest+(x*v):Nat):Int)))),(2,.e (.v (.int .u32 (third:Int)))),(3,.e (.v (.int .u32 (v:Int)))),(4,.e (.v (.int .u32 (w:Int))))],[]⟩
def S1(L:List Nat)(d:Nat)(x:Nat):PS:=⟨34,false,[(8,.e (iP ((L.length:Int)-1-(x:Int)))),(7,.e (.v (.int .u32 ((val L/4294967296^(L.length-x)%d:Nat):Int)))),(6,.own 11),(0,.e (gW L)),(1,.e (.v (.int .u32 (d:Int))))],[(11,.row false 150 L.length 1 (oB (nS 0 (val L/d) (L.length-x) L.length)))]⟩
def W8(h l d:Nat)(h1:h<d)(h2:l<4294967296)(h3:d<4294967296):gU 399 [.v (.int .u32 (h:Int)),.v (.int .u32 (l:Int)),.v (.int .u32 (d:Int))] (.ik [.v (.int .u32 (((h*4294967296+l)/d:Nat):Int)),.v (.int .u32 (((h*4294967296+l)%d:Nat):Int))]):=by
 have e1:(h*4294967296+l)/d<4294967296:=by rw[cw aC];omega
 have e2:(h*4294967296+l)%d<4294967296:=fI (bC _ aC) h3;exact ak call399 func399 (ae [ah 10 ((d:Int) != 0) aN,tF 14 ((d:Int)<=h) aC,.o 18 (.int (qK _ aC):aj (.v (.int .u64 (IntKind.u64.wrap (h:Int)))) (.v (.int .u64 (h:Int)))),.a (aC:0<=(32:Int)/\(32:Int)<=((64:Nat):Int)),.o 19 (.int (Ef _ aC):aj (.v (.int .u64 (IntKind.u64.wrap ((h:Int)*2^32)))) (.v (.int .u64 ((h*4294967296:Nat):Int)))),.o 21 (.int (qK _ aC):aj (.v (.int .u64 (IntKind.u64.wrap (l:Int)))) (.v (.int .u64 (l:Int)))),.o 22 (.int (DY _ _ aC aC):aj (.v (.int .u64 (bits .or .u64 ((h*4294967296:Nat):Int) (l:Int)))) (.v (.int .u64 ((h*4294967296+l:Nat):Int)))),.o 25 (.int (qK _ aC):aj (.v (.int .u64 (IntKind.u64.wrap (d:Int)))) (.v (.int .u64 (d:Int)))),.a (aC:0<((d:Int):Int)),
  AA ((h*4294967296+l:Nat):Int) aC,.o 27 (.int (Cg _):aj (.v (.int .u32 (IntKind.u32.wrap (((h*4294967296+l)/d:Nat):Int)))) (.v (.int .u32 ((((h*4294967296+l)/d)%4294967296:Nat):Int)))),.o 30 (.int (qK _ aC):aj (.v (.int .u64 (IntKind.u64.wrap (d:Int)))) (.v (.int .u64 (d:Int)))),.a (aC:0<((d:Int):Int)),.o 32 (.int (Cg _):aj (.v (.int .u32 (IntKind.u32.wrap (((h*4294967296+l)%d:Nat):Int)))) (.v (.int .u32 ((((h*4294967296+l)%d)%4294967296:Nat):Int))))]<|rQ (.ik [.v (.int .u32 ((((h*4294967296+l)/d)%4294967296:Nat):Int)),.v (.int .u32 ((((h*4294967296+l)%d)%4294967296:Nat):Int))]) (.ik [.v (.int .u32 (((h*4294967296+l)/d:Nat):Int)),.v (.int .u32 (((h*4294967296+l)%d:Nat):Int))]) (by rw[bZ e1,bZ e2])) 
def ag1(q rest third v w N:Nat)(hq:q<=4294967295)(hr:rest<9223372036854775808)(ht:third<4294967296)(hv:v<4294967296)(hw:w<4294967296)(ZP:N<=q)(jK:∀ x,x<N->q7 q rest third v w x)(g1:¬rest+N*v<4294967296):gU 400 [.v (.int .u64 (q:Int)),.v (.int .u64 (rest:Int)),.v (.int .u32 (third:Int)),.v (.int .u32 (v:Int)),.v (.int .u32 (w:Int))] (.v (.int .u64 ((q-N:Nat):Int))):=
 ak call400 func400 (af [.s (Sp.kY (Ny q rest third v w) 0 N aC (λx hx mZ=>by
    obtain⟨g1,g2⟩:=jK x aC;have m1:(q-x)*w<=4294967295*4294967295:=cW aC aC;have g3:0<q-x:=by
     rcases dY (q-x)with h|h
     .rw [h,cH]at g2;omega
     .exact h
    exact jg (ae [tT 12 (((rest+(x*v):Nat):Int)<4294967296) aC,.o 16 (.int (qK _ aC):aj (.v (.int .u64 (IntKind.u64.wrap (w:Int)))) (.v (.int .u64 (w:Int)))),
     AA (((q-x:Nat):Int)*(w:Int)) aC,.a (aC:0<=(32:Int)/\(32:Int)<=((64:Nat):Int)),.o 19 (.int (Ef _ aC):aj (.v (.int .u64 (IntKind.u64.wrap (((rest+(x*v):Nat):Int)*2^32)))) (.v (.int .u64 (((rest+(x*v))*4294967296:Nat):Int)))),.o 21 (.int (qK _ aC):aj (.v (.int .u64 (IntKind.u64.wrap (third:Int)))) (.v (.int .u64 (third:Int)))),.o 22 (.int (DY _ _ aC aC):aj (.v (.int .u64 (bits .or .u64 (((rest+(x*v))*4294967296:Nat):Int) (third:Int)))) (.v (.int .u64 ((((rest+(x*v))*4294967296)+third:Nat):Int)))),tT 23 (((((rest+(x*v))*4294967296)+third:Nat):Int)<(((q-x)*w:Nat):Int)) (Int.ofNat_lt.2 g2),AA (((q-x:Nat):Int)-1) aC,.o 29 (.int (qK _ aC):aj (.v (.int .u64 (IntKind.u64.wrap (v:Int)))) (.v (.int .u64 (v:Int)))),AA (((rest+(x*v):Nat):Int)+v) aC]<|.e (af [.o 0 (.int aO:aj (.v (.int .u64 (((q-x:Nat):Int)-1))) (.v (.int .u64 ((q-(x+1):Nat):Int)))),.o 1 (.int aO:aj (.v (.int .u64 (((rest+(x*v))+v:Nat):Int))) (.v (.int .u64 ((rest+((x+1)*v):Nat):Int))))])) aF)
  (λhx=>by
    have m1:(q-N)*w<=4294967295*4294967295:=cW aC aC;exact jg (af [tF 12 (((rest+(N*v):Nat):Int)<4294967296) aC]) aF) aI:kU 1 f400 (Ny q rest third v w 0) (.exit 0) ⟨32,true,[(0,.e (.v (.int .u64 ((q-N:Nat):Int))))],[]⟩) (af [.o 0 (.int aO:aj (.v (.int .u64 (q:Int))) (.v (.int .u64 ((q-0:Nat):Int)))),.o 1 (.int aO:aj (.v (.int .u64 (rest:Int))) (.v (.int .u64 ((rest+(0*v):Nat):Int))))])]) 
def acd(L:List Nat)(d:Nat)(hk:iD L)(hl:L.length<=1000000)(yb:0<d)(yd:d<4294967296):gU 375 [gW L,.v (.int .u32 (d:Int))] (.ik [gW (nu (val L/d) L.length),.v (.int .u32 ((val L%d:Nat):Int))]):=
 an call375 func375 (ae [.a (aC:0<=((L.length:Int):Int)/\((L.length:Int):Int)<=((L.length:Int):Int)),.a (aC:((4:Nat):Int)*(L.length:Int)<=281474976710656/\((L.length:Int):Int)<=9223372036854775807),iu ((L.length:Int)-1) aC,.s (Sp.kY (S1 L d) 0 L.length aC (λx hx mZ=>by
    have PE:((L.length:Int)-1-(x:Int)).toNat=L.length-1-x:= aC ;have hld:((L.getD ((L.length:Int)-1-(x:Int)).toNat 0:Nat):Int)=(ns (val L) (L.length-1-x):Int):=by rw[PE,Fw hk]
    have tw:=aeS (a:=val L) (k:=L.length-1-x) yb yd;have rE:L.length-1-x+1=L.length-x:= aC ;have kz:L.length-(x+1)=L.length-1-x:= aC ;rw[rE]at tw;have FQ:=bC (val L/4294967296^(L.length-x)) yb;have FI:=IG (val L) (L.length-1-x);have Dd:(nS 0 (val L/d) (L.length-x) L.length).set ((L.length:Int)-1-(x:Int)).toNat ((val L/4294967296^(L.length-x)%d*4294967296+ns (val L) (L.length-1-x))/d)=nS 0 (val L/d) (L.length-(x+1)) L.length:=by
     rw[PE,tw.1,<-rE,abV,kz]
    exact jg (ae [tT 16 (0<=((L.length:Int)-1-(x:Int))) aC,iX ((L.length:Int)-1-(x:Int)) (L.length) aC,.o 26 (.int hld:aj (.v (.int .u32 ((L.getD ((L.length:Int)-1-(x:Int)).toNat 0:Nat):Int))) (.v (.int .u32 (ns (val L) (L.length-1-x):Int)))),.c (W8 (val L/4294967296^(L.length-x)%d) (ns (val L) (L.length-1-x)) d aC aC aC),iX ((L.length:Int)-1-(x:Int)) (L.length) aC,.a (aC:(((L.length:Int)-1-(x:Int))).toNat<L.length),iu (((L.length:Int)-1-(x:Int))-1) aC]<|.e (af [.o 8 (aq (((L.length:Int)-1-(x:Int))-1) ((L.length:Int)-1-((x+1:Nat):Int)) aO),.o 7 (.int (by rw[tw.2,kz]):aj (.v (.int .u32 ((((val L/4294967296^(L.length-x)%d)*4294967296+(ns (val L) (L.length-1-x)))%d:Nat):Int))) (.v (.int .u32 ((val L/4294967296^(L.length-(x+1))%d:Nat):Int)))),.b 11 (aeo rfl (by rw[abU];omega) Dd:Bx.le (.row false 150 L.length 1 (λi' j'=>if i'=(((L.length:Int)-1-(x:Int))).toNat/\0<=j'/\j'<0+1 then[.v (.int .u32 ((((val L/4294967296^(L.length-x)%d)*4294967296+(ns (val L) (L.length-1-x)))/d:Nat):Int))].getD (j'-0) .any else(oB (nS 0 (val L/d) (L.length-x) L.length)) i' j')) (.row false 150 L.length 1 (oB (nS 0 (val L/d) (L.length-(x+1)) L.length))))])) aF)
  (λhx=>by
    exact jg (af [tF 16 (0<=((L.length:Int)-1-(L.length:Int))) aC]) aF) aI:kU 4 f375 (S1 L d 0) (.exit 0) ⟨34,false,[(7,.e (.v (.int .u32 ((val L/4294967296^(L.length-L.length)%d:Nat):Int)))),(6,.own 11)],[(11,.row false 150 L.length 1 (oB (nS 0 (val L/d) (L.length-L.length) L.length)))]⟩) (af [.o 8 (aq ((L.length:Int)-1) ((L.length:Int)-1-((0:Nat):Int)) aO),.o 7 (.int (by rw[ey,cV (mQ hk),Nat.zero_mod];rfl):aj (.v (.int .u32 0)) (.v (.int .u32 ((val L/4294967296^(L.length-0)%d:Nat):Int)))),.b 11 (SH rfl (λi=>by rw[ey,abT (bd _),WY]):Bx.le (.row false 150 L.length 1 (λ_ j_=>[.v (.int .u32 0)].getD j_ .any)) (.row false 150 L.length 1 (oB (nS 0 (val L/d) (L.length-0) L.length))))])]<|rR (.ik [gW (nu (val L/d) L.length),.v (.int .u32 ((val L%d:Nat):Int))]) (.ik (.cons (by rw[dx,abW];exact Ta (xP _ _).symm) (.cons (.iH (by rw[dx,cB,fc])) .nil)):E.le (.ik [.sl false L.length 1 (oB (nS 0 (val L/d) (L.length-L.length) L.length)),.v (.int .u32 ((val L/4294967296^(L.length-L.length)%d:Nat):Int))]) (.ik [gW (nu (val L/d) L.length),.v (.int .u32 ((val L%d:Nat):Int))]))) 
def Uu(w:World)(T S:List Nat)(e:Ending)(w':World):Prop:=∃ A c B d,e = .returned (.tuple #[.slice A T.length c,.slice B S.length d])/\Sl w' A c T/\Sl w' B d S/\iz w w'
def Ow.rx{w:World}{base:Nat}{v:Value}{L:List Nat}(h:Ow w base v L)(hl:L≠[]):∃ g cap R,v = .slice (some ⟨g,0,none⟩) L.length cap/\base<=g/\g<w.heap.size/\Rx w g L R/\L.length<=cap/\cap<=maxLen:=by
 rcases h.row.2 with⟨_,h0⟩|⟨g,cap,cur,rfl,hb,hg,oI,nG,mJ,Df⟩
 .exact absurd (du h0) hl
 .refine ⟨g,cap,cur.toList.drop L.length,rfl,hb,(cS.1 hg).1,?_,oI,nG⟩;unfold Rx;rw[hg];rw[ch]at Df;rw[<-Df,gJ]
def Rx.sl{w:World}{b cap:Nat}{L:List Nat}{R:List Value}(h:Rx w b L R)(hk:iD L)(hc:L.length<=cap)(hm:cap<=maxLen)(n:Nat):Sl w (some ⟨b,0,none⟩) cap (L.take n):=
 ⟨by rw[cv];omega,by unfold maxLen at hm;omega,hk.take n,(λh=>by cases h),λi x hx=>by
  rw[dX]at hx;split at hx
  .obtain ⟨hi,yo⟩:=b9.1 hx;refine⟨_,_,rfl,h.lt,?_⟩;rw[bW,h.cell hi];simp[bc,hx]
  .cases hx⟩
def abC(x:Nat)(hx:x<4294967296)(w:World):
 Calls prog 376 #[.int .u32 x] w λe w'=>e = .returned (.int .i64 ((32-ib x:Nat):Int))/\w=w':=by
 have mh:ib x<=32:=kV.2 hx;have H:=ahF (λw=>QL x hx w);go_enter func376,ntmps376;go_wp2_with fail;refine(H.out _).mono ?_;rintro e w' ⟨rfl,rfl⟩;go_wp2;go_ret;exact⟨nd aC,rfl⟩
def NA(q rest third v w0 N:Nat)(w:World)(hq:q<=4294967295)(hr:rest<9223372036854775808)(ht:third<4294967296)(hv:v<4294967296)(hw:w0<4294967296)(ZP:N<=q)(jK:∀ x,x<N->q7 q rest third v w0 x)(hN:¬q7 q rest third v w0 N):
 Calls prog 400 #[.int .u64 q,.int .u64 rest,.int .u32 third,.int .u32 v,.int .u32 w0] w λe w'=>e = .returned (.int .u64 ((q-N:Nat):Int))/\w=w':=by
 have HLO:=ahF jK;have HNN:=ahF hN;clear jK hN;go_enter func400,ntmps400;go_wp2;go_loop [0,1] (λa b=>∃ k:Nat,k<=N/\a = .int .u64 ((q-k:Nat):Int)/\b = .int .u64 ((rest+k*v:Nat):Int)) (λa _=>(intOf a).toNat+0*N)
 case atStart=>exact⟨0,bO _,by go_num,by go_num⟩
 case round=>
  obtain⟨k,hk,rfl,rfl⟩:=hrel;have m1:(q-k)*w0<=4294967295*4294967295:=cW aC aC;have m2:(q-k)*w0=(q-k)*w0:=rfl;by_cases iA:k<N
  .have hc:=HLO.out k iA;have rG:0<q-k:= aC ;have PN:rest+(k+1)*v=rest+k*v+v:=by rw[bR,bT];omega
   have HX:=ahF PN;clear PN;unfold q7 at hc;have zY:IntKind.u64.wrap (((q-k:Nat):Int)*(w0:Int))=(((q-k)*w0:Nat):Int):=by rw[<-eB];exact qK _ aC 
   generalize rest+k*v=y at *
   generalize hz:(q-k)*w0=z at *
   have C9:q-k=q-(k+1)+1:= aC ;have HQ:=ahF C9;obtain⟨p,hp⟩:∃ p,p=q-k:=⟨_,rfl⟩
   rw[<-hp]at zY rG C9 HQ ⊢;have HP:=ahF hp;have zP:p<=4294967295:= aC ;clear hp hz C9;have De:=Ef y hc.1;have tp:=DY y third hc.1 ht;have g2:=hc.2;have g1:=hc.1;clear hc;rw[show((y*4294967296:Nat):Int)=y*4294967296 by omega]at tp De;have d1:decide ((y:Int)<4294967296)=true:=bh aC;have d2:decide ((y:Int)*4294967296+(third:Int)<z)=true:=bh aC;have hm1:IntKind.u64.wrap ((p:Int)-1)=((p-1:Nat):Int):=by rw[IntKind.wrap_u64];omega
   go_wp2;go_round
   case rel=>
    have e1:=HP.out;exact⟨k+1,aC,by go_num,by rw[HX.out];go_num⟩
   case measure=>simp[intOf];omega
  .obtain rfl:k=N:= aC ;have hn:=HNN.out;clear HNN HLO;unfold q7 at hn;have zY:IntKind.u64.wrap (((q-k:Nat):Int)*(w0:Int))=(((q-k)*w0:Nat):Int):=by rw[<-eB];exact qK _ aC 
   generalize rest+k*v=y at *
   generalize (q-k)*w0=z at *
   obtain⟨p,hp⟩:∃ p,p=q-k:=⟨_,rfl⟩
   rw[<-hp]at zY ⊢;have HP:=ahF hp;clear hp;by_cases g1:y<4294967296
   .have De:=Ef y g1;have tp:=DY y third g1 ht;rw[show((y*4294967296:Nat):Int)=y*4294967296 by omega]at tp De;have d1:decide ((y:Int)<4294967296)=true:=bh aC;have d2:decide ((y:Int)*4294967296+(third:Int)<z)=false:=bg aC;clear hn;go_wp2;go_ret;exact⟨nd (by rw[<-HP.out]),rfl⟩
   .have d1:decide ((y:Int)<4294967296)=false:=bg aC ;clear hn zY;go_wp2;go_ret;exact⟨nd (by rw[<-HP.out]),rfl⟩
def Zw(ij next third v w0:Nat)(hv:2147483648<=v)(tA:v<4294967296)(hn:next<4294967296)(ht:third<4294967296)(hw:w0<4294967296)(P5:ij<=v):
 ∃ g,g<=4294967295/\g<=((ij*4294967296+next)*4294967296+third)/(v*4294967296+w0)/\(g=4294967295\/((ij*4294967296+next)*4294967296+third)/(v*4294967296+w0)<=g) /\
  ∀ w,Calls prog 377 #[.int .u32 ij,.int .u32 next,.int .u32 third,.int .u32 v,.int .u32 w0] w λe w'=>e = .returned (.int .u64 (g:Int))/\∃ m,w'=w.drewN m:=by
 by_cases k1:v<=ij
 .obtain ⟨N,ZN,oF,vD,qP,g1,g2⟩:=Nz (X:=ij*4294967296+next) (q:=4294967295) (rest:=(ij-v)*4294967296+next+v) (third:=third) (v:=v) (w:=w0) aC (bd _) hv hw;refine⟨4294967295-N,aC,g1,g2.elim (λh=>.inl (by rw[h])) .inr,λw=>?_⟩;clear g1 g2;have H:=λw=>NA 4294967295 ((ij-v)*4294967296+next+v) third v w0 N w aC aC ht tA hw oF vD qP
  clear vD qP;obtain rfl:v=ij:= aC ;have tv:(v-v)*4294967296+next+v=next+v:= aC 
  rw[tv,fD]at H;have HD:=ahF H;clear H;have d1:decide ((v:Int)<=v)=true:=bh aC;go_enter func377,ntmps377;go_wp2_with fail;refine(HD.out _).mono ?_;rintro e w' ⟨rfl,rfl⟩;go_wp2;go_ret;exact⟨rfl,0,rfl⟩
 .have d1:=cC (ij*4294967296+next) v;have d2:=bC (ij*4294967296+next) (aC:0<v);have d3:(ij*4294967296+next)/v<4294967296:=by rw[cw aC];omega
  obtain⟨N,ZN,oF,vD,qP,g1,g2⟩:=Nz (X:=ij*4294967296+next) (q:=(ij*4294967296+next)/v) (rest:=(ij*4294967296+next)%v) (third:=third) (v:=v) (w:=w0) (by rw[bB];exact d1) aC hv hw;have g3:=WX (x:=ij*4294967296+next) (v:=v) (w:=w0) (third:=third) aC ht;refine⟨(ij*4294967296+next)/v-N,aC,g1,.inr ?_,λw=>?_⟩
  .rcases g2 with rfl|g2
   .exact g3
   .exact g2
  have H:=λw=>NA ((ij*4294967296+next)/v) ((ij*4294967296+next)%v) third v w0 N w (Nat.le_of_lt_succ d3) (fI d2 aC) ht tA hw oF vD qP
  rw[Int.natCast_ediv,Int.natCast_emod]at H;have HD:=ahF H;clear H g1 g2 g3 oF vD qP d1 d2 d3;have d1:decide ((v:Int)<=ij)=false:=bg aC;have De:=Ef ij aC;have tp:=DY ij next aC hn
  rw[show((ij*4294967296:Nat):Int)=ij*4294967296 by omega]at tp De;have ny:((ij*4294967296+next:Nat):Int)<18446744073709551616:= aC ;rw[show((ij*4294967296+next:Nat):Int)=ij*4294967296+(next:Int)by omega]at tp ny;have rh:((v:Int)==0)=false:= aN ;go_enter func377,ntmps377;go_wp2;go_quiet (exact Calls.quiet_of_same ((HD.out _).mono λ_ _ ⟨h1,h2⟩=>⟨h1,h2.symm⟩));go_wp2;go_ret;exact⟨rfl,_,rfl⟩
def Fp.iz.afU{w0 w w':World}{g n:Nat}(h:iz w0 w)(k:qY g (w.drewN n) w')(hg:w0.heap.size<=g):iz w0 w':=
 (below_drewN h n).trans (k.below.mono hg)
def Fp.iz.only{w0 w w':World}{g:Nat}(h:iz w0 w)(k:qY g w w')(hg:w0.heap.size<=g):iz w0 w':=
 Below.trans h (k.below.mono hg)
def Sl.Ol{w:World}{g cap:Nat}{L:List Nat}(h:Sl w (some ⟨g,0,none⟩) cap L){b:Nat}(hb:g≠b)(i:Nat)(v:Value):Sl (w.setCell ⟨b,i,none⟩ v) (some ⟨g,0,none⟩) cap L:=
 h.oA (λb' o _ e=>by cases e;exact hb) (qY.Ed (qY.refl b w) i v)
def Sl.drewN{w:World}{A:Option Addr}{c:Nat}{L:List Nat}(h:Sl w A c L)(n:Nat):Sl (w.drewN n) A c L:=h.below (below_drewN (Below.refl _ _) n)
def adn{P:Program}{f:FuncId}{args:Array Value}{w:World}{n:Nat}{v:Value}
 (h:Calls P f args (w.drewN n) λe w'=>e = .returned v/\∃ m,w'=(w.drewN n).drewN m):Calls P f args (w.drewN n) λe w''=>e = .returned v/\∃ m,w''=w.drewN m:=
 h.mono λ_ _ ⟨he,m,hm⟩=>⟨he,n+m,by rw[hm,World.drewN_drewN]⟩
set_option maxRecDepth 100000 in
set_option maxHeartbeats 8000000 in
def Xh(A B:Option Addr)(c d:Nat)(L M:List Nat)(w:World)(lx ly s:Nat)(FN:lx=(ix L).length)(FO:ly=(ix M).length)(tw:s=32-ib ((ix M).getD (ly-1) 0))(hs:Sl w A c L)(hr:Sl w B d M)(rB:Tb w)(h1:L.length<=100000)(h2:M.length<=100000)(qQ:val M<=val L)(hlen:2<=ly):
 Calls prog 357 #[.slice A L.length c,.slice B M.length d] w (Uu w (nu (val L/val M) (lx+1-ly)) (pe (s%32) ((gV (val L%val M*2^s)).drop (s/32)))):=by
 have H1:=sM A c L w hs;have H2:=sM B d M w hr;have OS:=nX L;unfold lu at OS;have th:=nX M;unfold lu at th;have eL:=oD L;have eM:=oD M;rw[<-eL,<-eM]at qQ ⊢;have jS:=hs.rY;have mW:=hr.rY;have Jk:=xv M;have O9:ix (ix L)=ix L:=xv L;have Pc:ix (ix M)=ix M:=xv M;have H3:=Gi A B c d (ix L) (ix M) w jS mW aC aC;generalize ix L=X at *
 generalize ix M=Y at *
 have qA:0<=jZ (val X) (val Y):=by unfold jZ;split<;>(try split)<;>omega
 generalize jZ (val X) (val Y)=cm at *
 have Pb:Y.length<=X.length:=by
  apply bN;intro h;have:=Hc jS.ok Jk (aC:X.length<Y.length);omega
 clear eL eM hs hr qQ;rw[<-FN]at Pb H1 H3 OS;rw[<-FO]at Pb H2 H3 th;have ny:Y.getD (ly-1) 0≠0:=by
  have:=(yY Y).1 Jk aC;have e:Y.getD (ly-1) 0=Y[Y.length-1]'(aC):=by
   rw[bc,(aC:ly-1=Y.length-1)];simp[(aC:Y.length-1<Y.length)]
  rw[e];exact this
 have HN:=acr mW.ok (l:=ly-1) aC rfl ny tw;rw[(aC:ly-1+1=ly)]at HN;obtain⟨x,hx⟩:∃ x,x=Y.getD (ly-1) 0:=⟨_,rfl⟩
 have lN:x<4294967296:=by rw[hx];exact mW.ok.getD _
 have H4:=ahF (λw=>abC x lN w);rw[<-hx]at tw;rw[<-tw]at H4;obtain⟨ab,ao,rfl,ZW,c1⟩:=mW.kD (i:=ly-1) aC;have F3:Y[ly-1]'(aC)=x:=by rw[hx];simp[bc,(aC:ly-1<Y.length)]
 rw[F3]at c1;have aat:s<32:=HN.1;have HNh:=ahF HN;have H5:=λw (h:Sl w A c X)=>Rz A c X s w h aC aC 
 have H6:=λw (h:Sl w (some ⟨ab,ao,none⟩) d Y)=>Rz (some ⟨ab,ao,none⟩) d Y s w h aC aC 
 rw[O9,<-FN,(aC:s/32+lx+1=lx+1)]at H5;rw[Pc,<-FO,(aC:s/32+ly+1=ly+1)]at H6;have H5h:=ahF H5;have H6h:=ahF H6;have HX:=ahF FN;have HY:=ahF FO;have HS2:=ahF jS;have HR2:=ahF mW;have H1h:=ahF H1;have H2h:=ahF H2;have H3h:=ahF H3;clear H1 H2 H3 H5 H6 O9 Pc HN FN FO hx F3 tw ny jS mW Jk;have zY:(ly:Int)-1=((ly-1:Nat):Int):= aC ;have d0:decide (cm<0)=false:=bg aC;have d2:decide ((lx:Int)+1<=(lx:Int))=false:=bg aC;have oq:=DE (lx+1-ly) aC;rw[show((lx+1-ly:Nat):Int)=lx+1-(ly:Int)by omega]at oq;have d1:((ly:Int)==1)=false:= aN ;go_enter func357,ntmps357;go_wp2_with fail;refine H1h.out.mono ?_;rintro e w' ⟨rfl,rfl⟩;go_wp2_with fail;refine H2h.out.mono ?_;rintro e w' ⟨rfl,rfl⟩;go_wp2_with fail;refine H3h.out.mono ?_;rintro e w1 ⟨rfl,jW⟩;have c2:=c1;rw[<-(jW.cell (p:=⟨ab,ao+(ly-1),none⟩) ZW)]at c2;go_wp2_with fail;refine(H4.out _).mono ?_;rintro e w2 ⟨rfl,rfl⟩;go_wp2_with fail;refine(H5h.out _ (HS2.out.below jW)).mono ?_;rintro e w2 ⟨T,v1,he,Bi,CT,ku,mh⟩;obtain⟨g,cap,R,JY,Pz,PA,OX,Bl,aab⟩:=ku.rx (by intro h;rw[h]at CT;simp at CT);have O4:=ahF ku.ok;rw[CT]at JY Bl;subst JY;subst he;clear ku;have HTv:=ahF Bi;have HTl:=ahF CT;clear Bi CT;go_wp2_with fail;refine(H6h.out _ ((HR2.out.below jW).below mh)).mono ?_;rintro e w3 ⟨S,v2,he,O3,zD,ku,pT⟩;have FD:=OX.oP (pT.block g PA);obtain⟨g',cap',R',tA,aah,agU,_,agT,_⟩:=ku.rx (by intro h;rw[h]at zD;simp at zD);obtain⟨_,_,e2,Jn⟩:=ku.sl;rw[tA]at e2;cases e2;have FJ:g'≠g:= aC 
 have H7:=sM (some ⟨g',0,none⟩) cap' S w3 Jn;have hV:ix S=gV (val Y*2^s):=by rw[pO ku.ok,O3]
 have wP:=Jn.rY;rw[hV]at H7 wP;rw[HNh.out.2.1,zD]at H7;rw[zD]at tA;have Z6:iz w w3:=(jW.trans mh).trans pT;subst tA;subst he;have H7h:=ahF H7;clear ku Jn hV O3 zD H7 OX mh pT;go_wp2_with fail;refine H7h.out.mono ?_;rintro e w4 ⟨rfl,rfl⟩;go_wp2;go_loop [9] (λu=>u = .slice (some ⟨g,0,none⟩) (lx+1) cap) (λ_=>0)
 case atStart=>rfl
 case round=>
  subst hrel;go_wp2;have vG:=Rw.xf w3 (lx+1-ly);have FR:=HNh.out.2.1;have vD:=HNh.out.2.2.1;have qP:=HNh.out.2.2.2.1;have O6:=kZ (val Y*2^s);have Jt:=jM (val Y*2^s);rw[<-Jt]at qP;generalize gV (val Y*2^s)=V at *
  have vC:=qM.start (A:=val X) (s:=s) (V:=V) (O:=T) O4.out HTv.out (la:=lx) (by rw[HX.out];exact mQ HS2.out.ok) HTl.out aat aC aC (by rw[FR];exact qP);have OZ:=wP.alloc (.cells (mX (List.replicate (lx+1-ly) 0)).toArray 150);have OY:Rx (w3.alloc (.cells (mX (List.replicate (lx+1-ly) 0)).toArray 150)) g T R:=FD.oP ((iz.alloc w3 _).block g (by have:=FD.lt;omega));rw[FR]at vC;have HD0:=ahF vC;have HR0:=ahF vG;have HRx:=ahF OY;have HSV:=ahF OZ;have HE0:=ahF (Z6.trans (iz.alloc w3 (.cells (mX (List.replicate (lx+1-ly) 0)).toArray 150)));have HnV:=ahF FR;have HVok:=ahF O6;have HVv:=ahF Jt;have HN1:=ahF vD;have hgq:g<w3.heap.size:=FD.lt;have PB:w.heap.size<=g:=bj jW.size Pz;clear vC vG OY OZ wP FD FR O6 Jt vD qP HTv HTl O4 H1h H2h H3h H4 H5h H6h H7h c1 c2 d2 oq jW Pz aah PA HNh HS2 HR2;go_loopw [13] (λj wr=>∃ (k:Nat) (O Q:List Nat),k<=lx+1-ly/\j = .int .i64 ((k:Int)-1)/\qM (val X*2^s) V k (lx+1) O Q/\Rx wr g O R/\Rw wr w3.heap.size Q/\Sl wr (some ⟨g',0,none⟩) cap' V/\iz w wr) (λj _=>(intOf j+1).toNat)
  case atStart=>
   exact⟨lx+1-ly,T,_,bd _,by go_num,HD0.out,HRx.out,HR0.out,HSV.out,HE0.out⟩
  case round=>
   clear HD0 HRx HR0 HSV HE0;obtain⟨k,O,Q,hk,rfl,hD,Bh,Jm,wP,Pk⟩:=hrel;have HE:=ahF Pk;have HSV:=ahF wP;have HRQ:=ahF Jm;have HRO:=ahF Bh;have HD:=ahF hD;clear hD Pk;rcases k with _|t
   .have hO:=HD.out.QN;have PY:=HRO.out.sl HD.out.xm (cap:=cap) aC aab ly;have HZ:=KE (some ⟨g,0,none⟩) cap (O.take ly) s wr PY aS aC;have e1:(O.take ly).length=ly:=by rw[cv];omega
    rw[e1]at HZ;have HZh:=ahF HZ;have HQs:=ahF (HRQ.out.sl HD.out.Ao (by rw[HD.out.Dw];omega));have ux:0<val V:=by
     have:=HD.out.lt;rcases dY (val V)with h|h
     .rw [h,cH]at this;omega
     .exact h
    have Pa:0<val Y:=by
     rw[HVv.out]at ux;exact Nat.pos_of_mul_pos_right ux
    have JC:=Xd (a:=val X) (b:=val Y) (s:=s) (q:=val Q) (r:=val O) Pa (by rw[<-HVv.out];exact HD.out.eq) (by rw[<-HVv.out];have:=HD.out.lt;rw[cB,ch]at this;exact this);have Bo:val (O.take ly)=val O:=by
     rw[agi HD.out.xm,bZ];have:=HD.out.lt;rw[cB,ch]at this;refine fI this ?_;have h:=mQ HVok.out;rw[HnV.out]at h;exact h
    have OT:ix (O.take ly)=gV (val X%val Y*2^s):=by rw[pO (HD.out.xm.take ly),Bo,JC.2]
    rw[OT]at HZh;have FB:=HD.out.Dw;rw[HnV.out]at FB;have OV:nu (val X/val Y) (lx+1-ly)=Q:=IH HD.out.Ao FB JC.1;have HQd:=ahF OV;generalize pe (s%32) ((gV (val X%val Y*2^s)).drop (s/32))=Z at *
    have HQl:=ahF FB;clear JC Bo OT OV PY HZ e1 FB hO ux Pa wP Bh Jm;go_wp2_with fail;refine HZh.out.mono ?_;rintro e w5 ⟨AZ,cZ,rfl,ZU,Pd⟩;go_wp2;go_ret2;have hq:=HQs.out.below Pd;rw[HQl.out]at hq;exact⟨_,_,_,_,by rw[xP];rfl,by rw[HQd.out];exact hq,ZU,HE.out.trans Pd⟩
   .have hO:=HD.out.QN;have c4:=Bh.cell (i:=t+ly) aC;have c5:=Bh.cell (i:=t+ly-1) aC;have c6:=Bh.cell (i:=t+ly-2) aC;obtain⟨_,_,e1,_,c7⟩:=wP.kD (i:=ly-1) (by rw[HnV.out];omega);obtain⟨_,_,e2,_,c8⟩:=wP.kD (i:=ly-2) (by rw[HnV.out];omega);cases e1;cases e2;rw[bW]at c7 c8;have v7:V[ly-1]'(by rw[HnV.out];omega)=V.getD (ly-1) 0:=by simp[bc,HnV.out,(aC:ly-1<ly)]
    have v8:V[ly-2]'(by rw[HnV.out];omega)=V.getD (ly-2) 0:=by simp[bc,HnV.out,(aC:ly-2<ly)]
    rw[v7]at c7;rw[v8]at c8;clear v7 v8;have j8:=HD.out.xm;have o4:=j8.getD (t+ly);have o5:=j8.getD (t+ly-1);have o6:=j8.getD (t+ly-2);have o7:=HVok.out.getD (ly-1);have o8:=HVok.out.getD (ly-2);have hG:=HD.out.Zv HVok.out (by rw[HnV.out];omega) (by rw[HnV.out];exact HN1.out);rw[HnV.out]at hG;obtain⟨gd,g1,g2,g3,g4⟩:=Zw (O.getD (t+ly) 0) (O.getD (t+ly-1) 0) (O.getD (t+ly-2) 0) (V.getD (ly-1) 0) (V.getD (ly-2) 0) HN1.out o7 o5 o6 o8 hG.1;have HGq:=ahF (hG.2 gd g1 g2 g3);have HG:=ahF g4;clear hG g2 g3 g4 j8 wP Bh Jm;generalize O.getD (t+ly) 0=x4 at *
    generalize O.getD (t+ly-1) 0=x5 at *
    generalize O.getD (t+ly-2) 0=x6 at *
    have HV1:=ahF (rfl:V.getD (ly-1) 0=V.getD (ly-1) 0);generalize hx7:V.getD (ly-1) 0=x7 at *
    generalize V.getD (ly-2) 0=x8 at *
    clear hx7 HV1;have i1:(((t+1:Nat):Int)-1)=(t:Int):= aC ;have i2:((t:Int)+ly).toNat=t+ly:= aC ;have i3:((t:Int)+ly-1).toNat=t+ly-1:= aC ;have i4:((t:Int)+ly-2).toNat=t+ly-2:= aC ;have i6:((ly:Int)-2)=((ly-2:Nat):Int):= aC ;have p1:IntKind.i64.wrap ((t:Int)+ly)=(t:Int)+ly:=i64_in _ aC aC;have p2:IntKind.i64.wrap ((t:Int)+ly-1)=(t:Int)+ly-1:=i64_in _ aC aC;have p3:IntKind.i64.wrap ((t:Int)+ly-2)=(t:Int)+ly-2:=i64_in _ aC aC;have p4:IntKind.i64.wrap ((ly-1:Nat):Int)=((ly-1:Nat):Int):=i64_in _ aC aC;have p5:IntKind.i64.wrap ((ly-2:Nat):Int)=((ly-2:Nat):Int):=i64_in _ aC aC;have j6:((ly-1:Nat):Int)<ly:= aC ;have j7:((ly-2:Nat):Int)<ly:= aC ;have j0:0<=(t:Int)+ly:= aC ;have j1:0<=(t:Int)+ly-1:= aC ;have j2:0<=(t:Int)+ly-2:= aC ;have j3:(t:Int)+ly<lx+1:= aC ;have j4:(t:Int)+ly-1<(lx:Int)+1:= aC ;have j5:(t:Int)+ly-2<(lx:Int)+1:= aC ;rw[i1];clear i1;go_wp2;go_quiet (exact adn (HG.out _));go_wp2_with fail;have HTk:=afF g t (cap-t) cap' gd O V R (some ⟨g',0,none⟩) (wr.drewN nq) (HRO.out.oP rfl) (HSV.out.drewN nq) (λb' o _ e=>by cases e;exact FJ) HD.out.xm (by rw[HnV.out];omega) g1 aC;rw[HnV.out,(aC:ly+1=t+ly+1-t)]at HTk;refine HTk.mono ?_;rintro e w5 ⟨O',δ,rfl,OW,pJ,Bs,hδ,j9,FX,Bt⟩;have HRO':=ahF OW;have HON:=ahF Bt;have HSV5:=ahF ((HSV.out.drewN nq).oA (λb' o _ e=>by cases e;exact FJ) Bt);have HRQ5:=ahF (show Rw w5 w3.heap.size Q from(Bt.oA _ aC).trans HRQ.out);have HE5:=ahF (show iz w w5 from Fp.iz.afU HE.out Bt PB);have ZR:=pw t;have O7:0<val V:=by
     have:=HD.out.lt;rcases dY (val V)with h|h
     .rw [h,cH]at this;omega
     .exact h
    have wg:IntKind.u32.wrap (gd:Int)=gd:=by rw[IntKind.wrap_u32];omega
    have htm:(t:Int)<lx+1-(ly:Int):= aC ;have P4:t<Q.length:=by rw[HD.out.Dw,HnV.out];omega
    have Jl:=bt P4;have cq:=HRQ5.out.cell Jl;have fq:=HRQ5.out.frozen t;generalize Q[t]=q0 at *
    have HQG:=ahF Jl;clear Jl P4 c4 c5 c6 c7 c8 HRO HRQ HSV HE HTk OW Bt;rcases fM δ 1 with Qn|hδ1
    .obtain rfl:δ=0:= aC ;have OR:=NC ZR O7 (by rw[j9,cA,bL]) HGq.out.1;have HDS:=ahF (HD.out.step (x:=gd) (by rw[HnV.out];omega) (by rw[pJ,hO]) Bs aC (by rw[j9,cA,bL]) OR.2);clear OR j9 FX Bs pJ HD HGq;have HRQ6:=ahF (λx:Nat=>HRQ5.out.set t x);have HRO6:=ahF (λv:Value=>HRO'.out.oP (w':=w5.setCell ⟨w3.heap.size,t,none⟩ v) (by simp only[World.setCell,cO];rw[aY aC]));have HSV6:=ahF (λv:Value=>HSV5.out.Ol (b:=w3.heap.size) aC t v);have HE6:=ahF (λv:Value=>HE5.out.setCell (p:=⟨w3.heap.size,t,none⟩) (by show w.heap.size<=w3.heap.size;omega) v);go_wp2;go_roundw
     case rel=>exact⟨t,O',Q.set t gd,aC,by go_num,HDS.out,HRO6.out _,HRQ6.out _,HSV6.out _,HE6.out _⟩
     case measure=>simp[intOf]
    .obtain rfl:δ=1:= aC ;have rF:=HD.out.R0 (x:=gd) HVok.out Bs (by rw[HnV.out];exact j9) (by rw[HnV.out];exact FX);have zG:=rF.2;have HB:=ahF (λ(κ:Nat) (O2:List Nat)=>HD.out.Vk (x:=gd) (κ:=κ) (O2:=O2) HVok.out (by rw[HnV.out];omega) Bs (by rw[HnV.out];exact j9) (by rw[HnV.out];exact FX) g1 HGq.out.2 O7);have HP0:=ahF (vi.start Bs t V);have PH:O'.length=lx+1:=by rw[pJ,hO]
     have HL':=ahF PH;have hxm:IntKind.u64.wrap ((gd:Int)-1)=((gd-1:Nat):Int):=by rw[IntKind.wrap_u64];omega
     have wg1:IntKind.u32.wrap ((gd-1:Nat):Int)=((gd-1:Nat):Int):=by rw[IntKind.wrap_u32];omega
     clear rF j9 FX Bs pJ PH HD HGq wg cq fq;go_wp2;go_loopw [15,125] (λcy i wr2=>∃ (k c':Nat) (O2:List Nat),k<=ly/\i = .int .i64 k/\cy = .int .u32 c'/\vi O' t V k O2 c'/\Rx wr2 g O2 R/\qY g w5 wr2) (λ_ i _=>ly-(intOf i).toNat)
     case atStart=>exact⟨0,0,O',bO _,rfl,rfl,HP0.out,HRO'.out,qY.refl _ _⟩
     case round=>
      clear HP0 HRO';obtain⟨k,c',O2,vJ,rfl,rfl,hP,xX,Br⟩:=hrel;have HP:=ahF hP;have FG:=hP.Ip;have mL:O2.length=lx+1:=by rw[hP.len];exact HL'.out
      have HL2:=ahF mL;clear hP;by_cases iA:k<ly
      .have wX:k<V.length:=by rw[HnV.out];exact iA
       obtain⟨_,_,e1,_,c1⟩:=(HSV5.out.oA (λb' o _ e=>by cases e;exact FJ) Br).kD wX;cases e1;rw[bW]at c1;have v7:V[k]=V.getD k 0:=by simp[bc,wX]
       rw[v7]at c1;have oH:t+k<O2.length:= aC ;have c2:=xX.cell oH;have c3:=xX.frozen (t+k);have oK:V.getD k 0<4294967296:=HVok.out.getD k;have Dg:O2.getD (t+k) 0<4294967296:=HP.out.ok.getD _;have HST:=ahF (HP.out.step HVok.out wX (by rw[HL'.out,HnV.out];omega));have HRS:=ahF (λx:Nat=>xX.set oH x);have HOS:=ahF (λ(v:Value)=>Br.Ed (t+k) v);have HA:=ahF (λw=>Co (O2.getD (t+k) 0) (V.getD k 0) c' w Dg oK FG);clear xX Br HP v7 wX oH mL HL2;generalize O2.getD (t+k) 0=u at *
       generalize V.getD k 0=y at *
       have wU:((t:Int)+k).toNat=t+k:= aC ;have oo:0<=(t:Int)+k:= aC ;have hi3:(t:Int)+k<lx+1:= aC ;go_wp2_with fail;refine(HA.out _).mono ?_;rintro e w6 ⟨rfl,rfl⟩;go_wp2;go_roundw
       case rel=>
        exact⟨k+1,(u+y+c')/4294967296,O2.set (t+k) ((u+y+c')%4294967296),aC,by go_num,rfl,HST.out,HRS.out _,HOS.out _⟩
       case measure=>simp[intOf];omega
      .obtain rfl:k=ly:= aC ;have FA:=(show vi O' t V V.length O2 c' by rw[HnV.out];exact HP.out).Km (by rw[HL'.out,HnV.out];omega);rw[HnV.out]at FA;obtain⟨q1,q2,⟨κ,q3,q4⟩,q5⟩:=FA;have oH:t+k<O2.length:= aC ;have c2:=xX.cell oH;have c3:=xX.frozen (t+k);have Dg:O2.getD (t+k) 0<4294967296:=HP.out.ok.getD _;have HDS:=ahF (HB.out κ _ (by rw[q1];exact HL'.out) q2 q3 (by rw[HnV.out];exact q4) (by rw[HnV.out];exact q5));have HRS:=ahF (λx:Nat=>xX.set oH x);have HOS:=ahF (λ(v:Value)=>Br.Ed (t+k) v);have FC:∀ v:Value,Rw (wr.setCell ⟨g,t+k,none⟩ v) w3.heap.size Q:=λv=>((HOS.out v).oA _ aC).trans HRQ5.out
       have hcq:∀ v:Value,(wr.setCell ⟨g,t+k,none⟩ v).cell? ⟨w3.heap.size,t,none⟩=some (.int .u32 (q0:Int)):=λv=>(FC v).cell HQG.out
       have hfq:∀ v:Value,(wr.setCell ⟨g,t+k,none⟩ v).frozen? ⟨w3.heap.size,t,none⟩=false:=λv=>(FC v).frozen t
       have HRQ8:=ahF (λ(v:Value) (x:Nat)=>(FC v).set t x);have HRO8:=ahF (λ(x:Nat) (v:Value)=>(HRS.out x).oP (w':=(wr.setCell ⟨g,t+k,none⟩ (.int .u32 (x:Int))).setCell ⟨w3.heap.size,t,none⟩ v) (by simp only[World.setCell,cO];rw[aY aC]));have HSV8:=ahF (λ(v v2:Value)=>(HSV5.out.oA (λb' o _ e=>by cases e;exact FJ) (HOS.out v)).Ol (b:=w3.heap.size) aC t v2);have HE8:=ahF (λ(v v2:Value)=>(Fp.iz.only HE5.out (HOS.out v) PB).setCell (p:=⟨w3.heap.size,t,none⟩) (by show w.heap.size<=w3.heap.size;omega) v2);clear FC HRS HOS xX Br HP q1 q2 q3 q4 q5 oH mL HL2;generalize O2.getD (t+k) 0=u at *
       have wU:((t:Int)+k).toNat=t+k:= aC ;have oo:0<=(t:Int)+k:= aC ;have hi3:(t:Int)+k<lx+1:= aC ;have hi4:IntKind.u32.wrap ((u:Int)+c')=(((u+c')%4294967296:Nat):Int):=by rw[IntKind.wrap_u32];omega
       generalize (u+c')%4294967296=uu at *
       go_wp2;go_roundw
       case rel=>exact⟨t,O2.set (t+k) uu,Q.set t (gd-1),aC,by go_num,HDS.out,HRO8.out _ _,HRQ8.out _ _,HSV8.out _ _,HE8.out _ _⟩
       case measure=>simp[intOf]
def ae4:E.le (.v (.slice none 0 0)) (gW []):=λbs br w v h=>by
 obtain rfl:=iB.jX h;exact .sl false 0 1 _ none 0 (λ_ _=>undef) (bd _) aE (λ_=>rfl) (λi j hi=>absurd hi (bE i)) (λi j hi=>absurd hi (bE i)) (λi j hi=>absurd hi (bE i)) (λi j hi=>absurd hi (bE i))
def ae5{x:Nat}:E.le (.sl false 1 1 λi_ j_=>[.v (.int .u32 (x:Int))].getD (i_*1+j_) (.v (.bool false))) (gW [x]):=.sl λi j hi hj=>by
 obtain rfl:i=0:= aC ;obtain rfl:j=0:= aC ;exact⟨.refl _,rfl⟩
def Nd(L:List Nat)(hk:iD L):gU 302 [gW L] (gW L):=DZ hk call302 (λA c w h _=>Iu A c L w h) λA c B w e w' h hB ⟨h1,h2⟩=>by
 subst h2;exact⟨_,h1,Below.refl _ _,yV hB (Below.refl _ _) ⟨bd _,h.len,h.ok,λhn=>by have:=h.vY hn;have:=h.cap;omega,h.cell⟩⟩
def Nf(L:List Nat)(hk:iD L)(hl:L.length<=1000000):gU 244 [gW L] (gW L):=DZ hk call244 (λA c w h _=>Iw A c L w h aC) λA c B w e w' h hB r=>rl B w e w' hB r
def ab2(L M:List Nat)(hL:iD L)(hM:iD M)(h1:L.length<=100000)(h2:M.length<=100000)(hc:jZ (val (ix L)) (val (ix M))<0):gU 357 [gW L,gW M] (.ik [gW [],gW (ix L)]):=by
 have ta:=nX L;have tb:=nX M;unfold lu at ta tb;exact ak call357 func357 (ae [ag [gW L] (rO _ aD),ag [gW M] (rO _ aD),ag [gW (ix L),gW (ix M)] (KA _ _ (iD.ix aD) (iD.ix aD) aC aC),tB 25 (bh hc),ag [gW (ix L)] (Nf _ (iD.ix aD) aC)]<|rR (.ik [gW [],gW (ix L)]) (.ik (.cons ae4 (.cons (.refl _) .nil)):E.le (.ik [.v (.slice none 0 0),gW (ix L)]) (.ik [gW [],gW (ix L)]))) 
def ab3(L M:List Nat)(hL:iD L)(hM:iD M)(h1:L.length<=100000)(h2:M.length<=100000)(hc:¬jZ (val (ix L)) (val (ix M))<0)(hl:(ix M).length=1)(yb:0<(ix M).getD 0 0)(yd:(ix M).getD 0 0<4294967296):gU 357 [gW L,gW M] (.ik [gW (nu (val (ix L)/(ix M).getD 0 0) (ix L).length),gW [val (ix L)%(ix M).getD 0 0]]):=by
 have ta:=nX L;have tb:=nX M;unfold lu at ta tb;exact ak call357 func357 (ae [ag [gW L] (rO _ aD),ag [gW M] (rO _ aD),ag [gW (ix L),gW (ix M)] (KA _ _ (iD.ix aD) (iD.ix aD) aC aC),tB 25 (bg hc),ah 30 (((ix M).length:Int)==1) (by rw[hl];rfl),iX 0 ((ix M).length) aC,.c (acd (ix L) ((ix M).getD 0 0) (iD.ix aD) aC yb yd)]<|rR (.ik [gW (nu (val (ix L)/(ix M).getD 0 0) (ix L).length),gW [val (ix L)%(ix M).getD 0 0]]) (.ik (.cons (.refl _) (.cons ae5 .nil)):E.le (.ik [gW (nu (val (ix L)/((ix M).getD 0 0)) (ix L).length),(.sl false 1 1 λi_ j_=>[.v (.int .u32 ((val (ix L)%((ix M).getD 0 0):Nat):Int))].getD (i_*1+j_) (.v (.bool false)))]) (.ik [gW (nu (val (ix L)/(ix M).getD 0 0) (ix L).length),gW [val (ix L)%(ix M).getD 0 0]]))) 
def KB(L M:List Nat)(hL:iD L)(hM:iD M)(h1:L.length<=100000)(h2:M.length<=100000)(h0:val M≠0):∃ T S:List Nat,gU 357 [gW L,gW M] (.ik [gW T,gW S])/\val T=val L/val M/\val S=val L%val M/\iD T/\iD S/\T.length<=L.length/\S.length<=L.length+1:=by
 have ta:=nX L;have tb:=nX M;unfold lu at ta tb;have e1:=oD L;have e2:=oD M;by_cases hc:jZ (val (ix L)) (val (ix M))<0
 .refine ⟨[],ix L,ab2 L M hL hM h1 h2 hc,?_,?_,iD.nil,hL.ix,bO _,aC⟩
  .rw [e1,e2]at hc;have:val L<val M:=by unfold jZ at hc;split at hc<;>(try split at hc)<;>omega
   rw[cV this];rfl
  .rw [e1,e2]at hc;have:val L<val M:=by unfold jZ at hc;split at hc<;>(try split at hc)<;>omega
   rw[bZ this,e1]
 .have qQ:val M<=val L:=by rw[e1,e2]at hc;unfold jZ at hc;split at hc<;>(try split at hc)<;>omega
  have kG:ix M≠[]:=by intro h;rw[h]at e2;exact h0 e2.symm
  have hlen:(ix M).length≠0:=by simpa using kG
  by_cases hl:(ix M).length=1
  .obtain ⟨x,hx⟩:=List.length_eq_one_iff.1 hl;have j8:=hM.ix;rw[hx]at j8;have Qg:x=val M:=by rw[<-e2,hx];simp[val]
   have hg:(ix M).getD 0 0=x:=by rw[hx];rfl
   have:=ab3 L M hL hM h1 h2 hc hl (by rw[hg];omega) (by rw[hg];exact j8.head);rw[hg]at this;refine⟨_,_,this,?_,?_,CC _ _,iD.cons (fI (bC _ aC) j8.head) iD.nil,by rw[xP];exact ta,aH⟩
   .rw [Eo,bZ,e1,Qg];exact cr (bU _ _) (mQ hL.ix)
   .simp [val,e1,Qg]
  .refine ⟨_,_,yJ hL hM call357 (λA c B d w h k hT=>Xh A B c d L M w _ _ _ rfl rfl rfl h k hT h1 h2 qQ aC) (λB w e w' hB ⟨A1,c1,B1,d1,q1,q2,q3,q4⟩=>⟨_,q1,q4,jJ.ik (.cons (yV hB q4 q2) (.cons (yV hB q4 q3) (.nil _ _ _)))⟩),?_,?_,CC _ _,yI _ _,?_,?_⟩
   .rw [Eo,bZ];rw[cw aC];have g1:=mQ hL.ix;rw[e1]at g1;refine bM g1 ?_;obtain⟨l,pJ⟩:∃ l,(ix M).length=l+1:=⟨(ix M).length-1,aC⟩
    have g2:4294967296^l<=val M:=by
     apply bN;intro q;have q2:(gV (val M)).length<=l:=tG aC;rw[<-pO hM]at q2;omega
    have g3:=cF (4294967296^((ix L).length+1-(ix M).length)) g2;rw[<-bk]at g3;refine bj ?_ g3;exact bH aE aC 
   .rw [Hd (kZ _),jM,dI _ (bn aE)]
   .rw [xP];omega
   .rw [GS,ev];have hb:32-ib ((ix M).getD ((ix M).length-1) 0)<33:= aC ;have:=abq (kZ (val L%val M)) (32-ib ((ix M).getD ((ix M).length-1) 0));rw[jM]at this;have h3:(gV (val L%val M)).length<=(gV (val L)).length:=lH (ek _ _);rw[<-pO hL]at h3;omega
def xi(m n:Nat)(h1:(gV m).length<=256)(h2:(gV n).length<=256)(h0:n≠0):gU 307 [gW (gV m),gW (gV n)] (.ik [gW (gV (m/n)),gW (gV (m%n)),iP 0]):=by
 obtain⟨T,S,CX,hT,hS,oT,oS,_,_⟩:=KB (gV m) (gV n) (kZ m) (kZ n) aC aC (by rw[jM];exact h0);rw[jM,jM]at hT hS;have hz:ix (gV n)=gV n:=vd n;have hl:=pr h0;have mL:(((ix (gV n)).length:Int)==0)=false:=by rw[hz];exact nk hl
 exact ak call307 func307 (ae [.c (Rn (gV m) (gV n) aD aD),ag [gW (gV n)] (rO _ (kZ _)),ai 18 (((ix (gV n)).length:Int)==0) mL,ag [gW (gV m),gW (gV n)] CX,ag [gW T] (rO _ aD),ag [gW (ix T)] (Nd _ (iD.ix aD)),ag [gW S] (rO _ aD),ag [gW (ix S)] (Nd _ (iD.ix aD))]<|rQ (.ik [gW (ix T),gW (ix S),iP 0]) (.ik [gW (gV (m/n)),gW (gV (m%n)),iP 0]) (by rw[pO oT,pO oS,hT,hS])) 
def Sm(a b:Dy)(p:Nat)(up:Bool)(ha:a.gX)(hb:b.gX)(b0:b.m≠0)(ig:8<=p)(gY:p<=512):gU 269 [gZ a,gZ b,iP p,bP up] (.ik [gZ (nM a b p up),iP (pj a b p up)]):=by
 by_cases a0:a.m=0
 .have e1:nM a b p up=jt/\pj a b p up=0:=by unfold nM pj;rw[aZ a0,aZ a0];exact⟨rfl,rfl⟩
  exact ak call269 func269 (ae [.o 18 (.e (uq _ _):aj (.sl true 2 3 λi_ j_=>(jA a++jA b).getD (i_*3+j_) (.v (.bool false))) (ml [a,b])),ag [iP p,ml [a,b]] (uX _ _ _ aD aD aC aC),ai 21 ((0:Int) != 0) aE,ai 28 (((gV b.m).length:Int)==0) (nk (pr b0)),ah 34 (((gV a.m).length:Int)==0) (rP (rK.2 a0)),.o 35 (.e vf:aj (.agg ar) (gZ jt))]<|rQ (.ik [gZ jt,iP 0]) (.ik [gZ (nM a b p up),iP (pj a b p up)]) (by rw[e1.1,e1.2])) 
 .have va:=ha.gV;have vb:=hb.gV;have xa:=ha.exp;have xb:=hb.exp;have ra:=ha.range.resolve_left a0;have rb:=hb.range.resolve_left b0;have pa:=np a0;have pb:=np b0;have hK:kr a b p 3=p+3+ib b.m-ib a.m:=rfl;have bs:=qh a0 (kr a b p 3);have z1:(gV (a.m*2^kr a b p 3)).length<=256:=nA aC;have hq:=IJ a0 b0 p 3 aE;have q0:a.m*2^kr a b p 3/b.m≠0:=by intro q;rw[q,qO]at hq;omega
  have z2:(gV (a.m*2^kr a b p 3/b.m)).length<=256:=nA (by have:=ui (bU (a.m*2^kr a b p 3) b.m);omega);have z3:(gV (a.m*2^kr a b p 3%b.m)).length<=256:=nA (by have:=ui (dq (bC (a.m*2^kr a b p 3) (dM b0)));omega);have oG:decide (0<(ib (a.m*2^kr a b p 3%b.m):Int))=decide (a.m*2^kr a b p 3%b.m≠0):=by
   by_cases h:a.m*2^kr a b p 3%b.m=0
   .rw [h,qO];rfl
   .have:=np h;rw[bh h,bh aC]
  obtain⟨d1,d2⟩:=Xe a0 b0 p up;have h0:a.m*2^kr a b p 3/b.m≠0\/a.m*2^kr a b p 3/b.m=0/\a.e-(kr a b p 3:Int)-b.e=0/\decide (0<(ib (a.m*2^kr a b p 3%b.m):Int))=false:=.inl q0;have hm:decide (0<(ib (a.m*2^kr a b p 3%b.m):Int))=true->p<ib (a.m*2^kr a b p 3/b.m):=λ_=>hq
  exact ak call269 func269 (ae [.o 18 (.e (uq _ _):aj (.sl true 2 3 λi_ j_=>(jA a++jA b).getD (i_*3+j_) (.v (.bool false))) (ml [a,b])),ag [iP p,ml [a,b]] (uX _ _ _ aD aD aC aC),ai 21 ((0:Int) != 0) aE,ai 28 (((gV b.m).length:Int)==0) (nk (pr b0)),ai 34 (((gV a.m).length:Int)==0) (nk (pr a0)),iu ((p:Int)+3) aC,ag [gZ b] (Fc _ aD),iu (((p:Int)+3)+(ib (Dy.m b):Int)) aC,ag [gZ a] (Fc _ aD),
   iu ((((p:Int)+3)+(ib (Dy.m b):Int))-(ib (Dy.m a):Int)) aC,.o 44 (aq (if((((p:Int)+3)+(ib (Dy.m b):Int))-(ib (Dy.m a):Int))>0 then((((p:Int)+3)+(ib (Dy.m b):Int))-(ib (Dy.m a):Int))else 0) (kr a b p 3:Int) aM),.c (tS a.m (kr a b p 3) aC aC aC),ag [gW (gV (a.m*2^(kr a b p 3))),gW (gV b.m)] (xi _ _ aC aC aD),
   iu (a.e-(kr a b p 3:Int)) aC,iu ((a.e-(kr a b p 3:Int))-b.e) aC,ag [gW (gV ((a.m*2^(kr a b p 3))%b.m))] (qT _ aC),.c (D7 (! (a.neg==b.neg)) ((a.m*2^(kr a b p 3))/b.m) ((a.e-(kr a b p 3:Int))-b.e) (decide (0<(ib ((a.m*2^(kr a b p 3))%b.m):Int))) up p aC aD aC aC aC aC aD)]<|rQ (.ik [gZ (jB (!(a.neg==b.neg)) ((a.m*2^(kr a b p 3))/b.m) ((a.e-(kr a b p 3:Int))-b.e) (decide (0<(ib ((a.m*2^(kr a b p 3))%b.m):Int))) p up),iP (ju (!(a.neg==b.neg)) ((a.m*2^(kr a b p 3))/b.m) ((a.e-(kr a b p 3:Int))-b.e) (decide (0<(ib ((a.m*2^(kr a b p 3))%b.m):Int))) p up)]) (.ik [gZ (nM a b p up),iP (pj a b p up)]) (by rw[<-d1,<-d2,<-oG];rfl)) 
def Sj(a b:Dy)(p:Nat)(ha:a.gX)(hb:b.gX)(b0:b.m≠0)(ig:8<=p)(gY:p<=512):gU 209 [gZ a,gZ b,iP p] (.ik [gZ (nM a b p false),iP (pj a b p false)]):=
 ak call209 func209 (af [.c (Sm a b p false aD aD aD aC aC)]) 
def Sk(a b:Dy)(p:Nat)(ha:a.gX)(hb:b.gX)(b0:b.m≠0)(ig:8<=p)(gY:p<=512):gU 210 [gZ a,gZ b,iP p] (.ik [gZ (nM a b p true),iP (pj a b p true)]):=
 ak call210 func210 (af [.c (Sm a b p true aD aD aD aC aC)]) 
def Qx(l:List Iv)(i:Nat):PS:=⟨19,true,[(7,.e (iP i)),(6,.e (iP l.length)),(5,.e (im l))],[]⟩
def Qw(l:List Iv)(N:Nat)(i:Nat):PS:=⟨19,true,[(7,.e (iP i)),(6,.e (iP l.length)),(5,.e (im l))],[]⟩
def lZ(a:Iv):E.le (.sl true 1 7 λi j=>(iG a).getD (i*7+j) (.v (.bool false))) (im [a]):=.sl λi j hi hj=>by
 obtain rfl:i=0:= aC ;rcases j with _|_|_|_|_|_|_|j
 all_goals first|exact⟨.refl _,rfl⟩|omega
def vS(a b:Iv):E.le (.sl true 2 7 λi j=>(iG a++iG b).getD (i*7+j) (.v (.bool false))) (im [a,b]):=.sl λi j hi hj=>by
 obtain rfl|rfl:i=0\/i=1:= aC 
 all_goals
  rcases j with _|_|_|_|_|_|_|j
  all_goals first|exact⟨.refl _,rfl⟩|omega
def rJ{x:Iv}(h:x.gX)(ha:x.all=false):x.lo.gX/\x.hi.gX/\jj x.lo x.hi<=0:=by
 rcases h with⟨h1,_⟩|⟨_,h⟩
 .rw [ha]at h1;cases h1
 .exact h
def Qz{x:Iv}(h:x.gX)(ha:x.all=true):x.lo=jt/\x.hi=jt:=by
 rcases h with⟨_,h⟩|⟨h1,_⟩
 .exact h
 .rw [ha]at h1;cases h1
def mq : gU 148 [] (ia ie):=
 ak call148 func148 (af [.o 1 (.e wj:aj (.agg [bP false,.v (.slice none 0 0),iP 0,bP false,.v (.slice none 0 0),iP 0,bP true]) (ia ie))]) 
def Ad(lo hi:Dy)(e f:Int):gU 151 [gZ lo,iP e,gZ hi,iP f] (ia (kI lo e hi f)):=by
 by_cases he:e=0
 .by_cases hf:f=0
  .exact ak call151 func151 (ae [ai 10 (e != 0) (by rw[he];rfl),ai 13 (f != 0) (by rw[hf];rfl)]<|rQ (ia (Iv.mk lo hi false)) (ia (kI lo e hi f)) (by rw[show kI lo e hi f=⟨lo,hi,false⟩by unfold kI;rw[aY (by simp[he,hf])]];try rfl)) 
  .exact ak call151 func151 (ae [ai 10 (e != 0) (by rw[he];rfl),ah 13 (f != 0) (by simpa using hf),.c mq]<|rQ (ia ie) (ia (kI lo e hi f)) (by rw[show kI lo e hi f=ie by unfold kI;rw[aZ (.inr hf)]])) 
 .exact ak call151 func151 (ae [ah 10 (e != 0) (by simpa using he),.c mq]<|rQ (ia ie) (ia (kI lo e hi f)) (by rw[show kI lo e hi f=ie by unfold kI;rw[aZ (.inl he)]])) 
def QB : gU 198 [gZ jt] (bP true):=
 ak call198 func198 (af [ai 4 jt.neg rfl,ah 10 (((gV jt.m).length:Int)==0) (rP (rK.2 rfl)),ah 15 (jt.e==0) rfl]) 
def qR(x:Iv)(hx:x.gX):gU 121 [ia x] (bP true):=by
 by_cases kf:x.all=true
 .obtain ⟨h1,h2⟩:=Qz hx kf;exact ak call121 func121 (af [ah 5 x.all kf,.c (by rw[h1];exact QB:gU 198 [gZ x.lo] (bP true)),.c (by rw[h2];exact QB:gU 198 [gZ x.hi] (bP true))]) 
 .replace kf:x.all=false:=by simpa using kf
  obtain⟨h1,h2,h3⟩:=rJ hx kf;exact ak call121 func121 (af [ai 5 x.all kf,ag [gZ x.lo] (uo _ aD),ag [gZ x.hi] (uo _ aD),ag [gZ x.lo,gZ x.hi] (nD _ _ aD aD),tB 30 (bh h3)]) 
def Qy(l:List Iv)(hl:l.length<=1000)(hv:∀ i,i<l.length->(l.getD i ie).gX)(ha:∀ i,i<l.length->(l.getD i ie).all=false):gU 93 [im l] (bP true):=
 ak call93 func93 (af [.s (Sp.kY (Qx l) 0 l.length aC (λi hi rD=>by
    have P9:=hv i aC;have Ju:=ha i aC;exact jg (af [tT 8 ((i:Int)<l.length) aC,iX (i:Int) (l.length) aC,ai 12 ((l.getD i ie).all) Ju,.c (qR (l.getD i ie) aD),
     iu ((i:Int)+1) aC]) aF)
  (λhi=>by
    exact jg (af [tF 8 ((l.length:Int)<l.length) aC]) aF) aI:kU 2 Tryz.f93 (Qx l 0) (.exit 0) ⟨19,true,[],[]⟩) .nil]) 
def Ke(l:List Iv)(hl:l.length<=1000)(hv:∀ i,i<l.length->(l.getD i ie).gX)(N:Nat)(hN:N<l.length)(ha:∀ i,i<N->(l.getD i ie).all=false)(qP:(l.getD N ie).all=true):gU 93 [im l] (bP false):=
 ak call93 func93 (af [.s (Sp.kY (Qw l N) 0 N aC (λi hi rD=>by
    have P9:=hv i aC;have Ju:=ha i aC;exact jg (af [tT 8 ((i:Int)<l.length) aC,iX (i:Int) (l.length) aC,ai 12 ((l.getD i ie).all) Ju,.c (qR (l.getD i ie) aD),
     iu ((i:Int)+1) aC]) aF)
  (λhi=>by
    exact jg (af [tT 8 ((N:Int)<l.length) aC,iX (N:Int) (l.length) aC,ah 12 ((l.getD N ie).all) qP]) aF) aI:kU 2 Tryz.f93 (Qw l N 0) .ret ⟨19,true,[(2,.e (bP false))],[]⟩) .nil]) 
def oz(x:Iv)(hx:x.gX):gU 93 [im [x]] (bP (!x.all)):=by
 have hv:∀ i,i<[x].length->([x].getD i ie).gX:=λi hi=>(match i,hi with
  | 0,_=>hx
  |n+1,hi=>absurd hi aH)
 cases kf:x.all with
 |true=>exact Ke [x] aH hv 0 aH (λi hi=>absurd hi (bE i)) kf
 |false=>exact Qy [x] aH hv (λi hi=>(match i,hi with
  | 0,_=>kf
  |n+1,hi=>absurd hi aH))
def w9(x y:Iv)(hx:x.gX)(hy:y.gX):gU 93 [im [x,y]] (bP (!(x.all||y.all))):=by
 have hv:∀ i,i<[x,y].length->([x,y].getD i ie).gX:=λi hi=>(match i,hi with
  | 0,_=>hx
  | 1,_=>hy
  |n+2,hi=>absurd hi aH)
 cases kf:x.all with
 |true=>exact Ke [x,y] aH hv 0 aH (λi hi=>absurd hi (bE i)) kf
 |false=>cases yr:y.all with
  |true=>exact Ke [x,y] aH hv 1 aH (λi hi=>(match i,hi with
   | 0,_=>kf
   |n+1,hi=>absurd hi aC)) yr
  |false=>exact Qy [x,y] aH hv (λi hi=>(match i,hi with
   | 0,_=>kf
   | 1,_=>yr
   |n+2,hi=>absurd hi aH))
def BE(x y:Iv)(p:Nat)(hx:x.gX)(hy:y.gX)(ig:8<=p)(gY:p<=512):gU 78 [ia x,ia y,iP p] (ia (jN x y p)):=by
 by_cases hk:(x.all||y.all)=true
 .exact ak call78 func78 (ae [.o 13 (.e (vS _ _):aj (.sl true 2 7 λi_ j_=>(iG x++iG y).getD (i_*7+j_) (.v (.bool false))) (im [x,y])),ag [im [x,y]] (w9 _ _ aD aD),ai 14 (!(x.all||y.all)) (by rw[hk];rfl),.c mq]<|rQ (ia ie) (ia (jN x y p)) (by rw[show jN x y p=ie by unfold jN;rw[aZ hk]])) 
 .replace hk:(x.all||y.all)=false:=by simpa using hk
  have kf:x.all=false:=by cases h:x.all;rfl;rw[h]at hk;simp at hk
  have yr:y.all=false:=by cases h:y.all;rfl;rw[h]at hk;simp at hk
  obtain⟨v1,v2,v3⟩:=rJ hx kf;obtain⟨v4,v5,v6⟩:=rJ hy yr;exact ak call78 func78 (ae [.o 13 (.e (vS _ _):aj (.sl true 2 7 λi_ j_=>(iG x++iG y).getD (i_*7+j_) (.v (.bool false))) (im [x,y])),ag [im [x,y]] (w9 _ _ aD aD),ah 14 (!(x.all||y.all)) (by rw[hk];rfl),ag [iP p] (tD _),ah 18 (lJ (p:Int)) (qp.2 ⟨aC,aC⟩),.c (Sh x.lo y.lo p aD aD aC aC),.c (BY x.hi y.hi p aD aD aC aC),.c (Ad (jk (iN x.lo y.lo) p false) (jk (iN x.hi y.hi) p true) (jf (iN x.lo y.lo) p false) (jf (iN x.hi y.hi) p true))]<|rQ (ia (kI (jk (iN x.lo y.lo) p false) (jf (iN x.lo y.lo) p false) (jk (iN x.hi y.hi) p true) (jf (iN x.hi y.hi) p true))) (ia (jN x y p)) (by rw[show jN x y p=_ by unfold jN;rw[aY (by rw[hk];decide)]])) 
def F9(x:Iv)(hx:x.gX):gU 268 [ia x] (ia (qn x)):=by
 by_cases kf:x.all=true
 .exact ak call268 func268 (ae [.o 4 (.e (lZ _):aj (.sl true 1 7 λi_ j_=>(iG x).getD (i_*7+j_) (.v (.bool false))) (im [x])),ag [im [x]] (oz _ aD),ai 5 (!x.all) (by rw[kf];rfl),.c mq]<|rQ (ia ie) (ia (qn x)) (by rw[show qn x=ie by unfold qn;rw[aZ kf]])) 
 .replace kf:x.all=false:=by simpa using kf
  obtain⟨v1,v2,v3⟩:=rJ hx kf;exact ak call268 func268 (ae [.o 4 (.e (lZ _):aj (.sl true 1 7 λi_ j_=>(iG x).getD (i_*7+j_) (.v (.bool false))) (im [x])),ag [im [x]] (oz _ aD),ah 5 (!x.all) (by rw[kf];rfl),ag [gZ x.hi] (vu _ aD),ag [gZ x.lo] (vu _ aD)]<|rQ (ia (Iv.mk (jv x.hi) (jv x.lo) false)) (ia (qn x)) (by rw[show qn x=⟨jv x.hi,jv x.lo,false⟩by unfold qn;rw[aY (by rw[kf];decide)]];try rfl)) 
def Kg(x y:Iv)(p:Nat)(hx:x.gX)(hy:y.gX)(ig:8<=p)(gY:p<=512):gU 203 [ia x,ia y,iP p] (ia (yW x y p)):=by
 have hn:=yH hy;exact ak call203 func203 (af [.c (F9 y aD),.c (BE x (qn y) p aD aD aC aC)]) 
def Ae(d:Dy)(hd:d.gX):gU 202 [gZ d] (ia (kK d)):=
 ak call202 func202 (af [ag [gZ d] (uo _ aD)]) 
def CF(d:Dy)(hd:d.gX):gU 243 [gZ d] (gZ (lg d)):=by
 have hl:=hd.gV;by_cases h0:d.m=0
 .have e1:lg d=jt:=by
   rcases hd.canon with q|q
   .unfold lg jt;rw[q.1,q.2.2]
   .omega
  exact ak call243 func243 (ae [ag [gZ d] (uo _ aD),ah 10 (((gV d.m).length:Int)==0) (rP (rK.2 h0)),.o 12 (.e vf:aj (.agg ar) (gZ jt))]<|rQ (gZ jt) (gZ (lg d)) (by rw[e1])) 
 .exact ak call243 func243 (af [ag [gZ d] (uo _ aD),ai 10 (((gV d.m).length:Int)==0) (nk (pr h0)),ag [gW (gV d.m)] (Nf _ (kZ _) aC)]) 
def F7(a b:Dy)(ha:a.gX)(hb:b.gX):gU 304 [gZ a,gZ b] (gZ (iT a b)):=by
 have hc:=Cu a b;by_cases h:(jj a b<=0)
 .exact ak call304 func304 (ae [ag [gZ a,gZ b] (nD _ _ aD aD),tB 8 (bh h)]<|rQ (gZ a) (gZ (iT a b)) (by unfold iT;rw[aY aC])) 
 .exact ak call304 func304 (ae [ag [gZ a,gZ b] (nD _ _ aD aD),tB 8 (bg h)]<|rQ (gZ b) (gZ (iT a b)) (by unfold iT;rw[aZ aC])) 
def F8(a b:Dy)(ha:a.gX)(hb:b.gX):gU 242 [gZ a,gZ b] (gZ (iQ a b)):=by
 have hc:=Cu a b;by_cases h:(0<=jj a b)
 .exact ak call242 func242 (ae [ag [gZ a,gZ b] (nD _ _ aD aD),tB 8 (bh h)]<|rQ (gZ a) (gZ (iQ a b)) (by unfold iQ;rw[aY aC])) 
 .exact ak call242 func242 (ae [ag [gZ a,gZ b] (nD _ _ aD aD),tB 8 (bg h)]<|rQ (gZ b) (gZ (iQ a b)) (by unfold iQ;rw[aZ aC])) 
def Ds(x:Iv)(hx:x.gX):gU 47 [ia x] (iP (lO x)):=by
 by_cases kf:x.all=true
 .exact ak call47 func47 (ae [.o 5 (.e (lZ _):aj (.sl true 1 7 λi_ j_=>(iG x).getD (i_*7+j_) (.v (.bool false))) (im [x])),ag [im [x]] (oz _ aD),ai 6 (!x.all) (by rw[kf];rfl)]<|rQ (iP 0) (iP (lO x)) (by rw[show lO x=0 by unfold lO;rw[aZ kf]])) 
 .replace kf:x.all=false:=by simpa using kf
  obtain⟨v1,v2,v3⟩:=rJ hx kf;by_cases h1:0<x.lo.iJ
  .exact ak call47 func47 (ae [.o 5 (.e (lZ _):aj (.sl true 1 7 λi_ j_=>(iG x).getD (i_*7+j_) (.v (.bool false))) (im [x])),ag [im [x]] (oz _ aD),ah 6 (!x.all) (by rw[kf];rfl),ag [gZ x.lo] (nE _ aD),tB 12 (bh h1)]<|rQ (iP 1) (iP (lO x)) (by rw[show lO x=1 by unfold lO;rw[aY (by rw[kf];decide)];simp[h1]])) 
  .by_cases h2:x.hi.iJ<0
   .exact ak call47 func47 (ae [.o 5 (.e (lZ _):aj (.sl true 1 7 λi_ j_=>(iG x).getD (i_*7+j_) (.v (.bool false))) (im [x])),ag [im [x]] (oz _ aD),ah 6 (!x.all) (by rw[kf];rfl),ag [gZ x.lo] (nE _ aD),tB 12 (bg h1),ag [gZ x.hi] (nE _ aD),tB 17 (bh h2)]<|rQ (iP (-1)) (iP (lO x)) (by rw[show lO x = -1 by unfold lO;rw[aY (by rw[kf];decide)];simp[h1,h2]])) 
   .exact ak call47 func47 (ae [.o 5 (.e (lZ _):aj (.sl true 1 7 λi_ j_=>(iG x).getD (i_*7+j_) (.v (.bool false))) (im [x])),ag [im [x]] (oz _ aD),ah 6 (!x.all) (by rw[kf];rfl),ag [gZ x.lo] (nE _ aD),tB 12 (bg h1),ag [gZ x.hi] (nE _ aD),tB 17 (bg h2)]<|rQ (iP 0) (iP (lO x)) (by rw[show lO x=0 by unfold lO;rw[aY (by rw[kf];decide)];simp[h1,h2]])) 
def BF(x:Iv)(hx:x.gX)(kf:x.all=false):gU 165 [ia x] (.ik [gZ (kg x),bP true]):=by
 obtain⟨v1,v2,v3⟩:=rJ hx kf;have w1:=wD v1;have w2:=wD v2;exact ak call165 func165 (af [.o 5 (.e (lZ _):aj (.sl true 1 7 λi_ j_=>(iG x).getD (i_*7+j_) (.v (.bool false))) (im [x])),ag [im [x]] (oz _ aD),ah 6 (!x.all) (by rw[kf];rfl),.c (CF x.lo aD),.c (CF x.hi aD),.c (F8 (lg x.lo) (lg x.hi) aD aD)]) 
def aaP(x:Iv)(hx:x.gX)(kf:x.all=false):gU 267 [ia x] (.ik [gZ (nj x),bP true]):=by
 obtain⟨v1,v2,v3⟩:=rJ hx kf;have w1:=wD v1;have w2:=wD v2;by_cases hs:lO x=0
 .exact ak call267 func267 (ae [.o 5 (.e (lZ _):aj (.sl true 1 7 λi_ j_=>(iG x).getD (i_*7+j_) (.v (.bool false))) (im [x])),ag [im [x]] (oz _ aD),ah 6 (!x.all) (by rw[kf];rfl),.c (Ds x aD),ah 11 ((lO x)==0) (by rw[hs];rfl),.o 12 (.e vf:aj (.agg ar) (gZ jt))]<|rQ (.ik [gZ jt,bP true]) (.ik [gZ (nj x),bP true]) (by rw[show nj x=jt by unfold nj;rw[aZ hs]])) 
 .exact ak call267 func267 (ae [.o 5 (.e (lZ _):aj (.sl true 1 7 λi_ j_=>(iG x).getD (i_*7+j_) (.v (.bool false))) (im [x])),ag [im [x]] (oz _ aD),ah 6 (!x.all) (by rw[kf];rfl),.c (Ds x aD),ai 11 ((lO x)==0) (by simpa using hs),.c (CF x.lo aD),.c (CF x.hi aD),.c (F7 (lg x.lo) (lg x.hi) aD aD)]<|rQ (.ik [gZ (iT (lg x.lo) (lg x.hi)),bP true]) (.ik [gZ (nj x),bP true]) (by rw[show nj x=iT (lg x.lo) (lg x.hi)by unfold nj;rw[aY hs]])) 
def Kd(x:Iv)(hx:x.gX):gU 201 [ia x] (ia (jx x)):=by
 by_cases kf:x.all=true
 .exact ak call201 func201 (ae [.o 8 (.e (lZ _):aj (.sl true 1 7 λi_ j_=>(iG x).getD (i_*7+j_) (.v (.bool false))) (im [x])),ag [im [x]] (oz _ aD),ai 9 (!x.all) (by rw[kf];rfl),.c mq]<|rQ (ia ie) (ia (jx x)) (by rw[show jx x=ie by unfold jx;rw[aZ kf]])) 
 .replace kf:x.all=false:=by simpa using kf
  obtain⟨v1,v2,v3⟩:=rJ hx kf;exact ak call201 func201 (ae [.o 8 (.e (lZ _):aj (.sl true 1 7 λi_ j_=>(iG x).getD (i_*7+j_) (.v (.bool false))) (im [x])),ag [im [x]] (oz _ aD),ah 9 (!x.all) (by rw[kf];rfl),.c (aaP x aD kf),.c (BF x aD kf)]<|rQ (ia (Iv.mk (nj x) (kg x) false)) (ia (jx x)) (by rw[show jx x=⟨nj x,kg x,false⟩by unfold jx;rw[aY (by rw[kf];decide)]];try rfl)) 
def aaL(x y:Iv)(p:Nat)(gd gu:FuncId)(DD:Dy->Dy->Bool->Dy)(EE:Dy->Dy->Bool->Int):PS:=⟨96,true,[(41,.e (iP 0)),(40,.e (.agg (iG (Iv.mk x.lo y.lo x.lo.neg)++[gW (gV x.lo.m),iP x.lo.e]++iG (Iv.mk y.hi x.hi y.lo.neg)++[gW (gV y.lo.m),iP y.lo.e]++jA x.hi++jA y.hi))),(12,.box 12 0),(10,.box 10 0),(2,.e (iP p)),(3,.e (.fn gd [])),(4,.e (.fn gu []))],[(12,.cells 46 (iG (Iv.mk (DD x.lo y.lo false) (DD x.lo y.lo true) false))),(10,.cells 46 au)]⟩
def aaM(x y:Iv)(p:Nat)(gd gu:FuncId)(DD:Dy->Dy->Bool->Dy)(EE:Dy->Dy->Bool->Int):PS:=⟨96,true,[(41,.e (iP (0+1))),(40,.e (.agg (iG (Iv.mk x.lo y.lo x.lo.neg)++[gW (gV x.lo.m),iP x.lo.e]++iG (Iv.mk y.hi x.hi y.lo.neg)++[gW (gV y.lo.m),iP y.lo.e]++jA x.hi++jA y.hi))),(12,.box 12 0),(10,.box 10 0),(2,.e (iP p)),(3,.e (.fn gd [])),(4,.e (.fn gu []))],[(12,.cells 46 (iG (Iv.mk (iT (DD x.lo y.lo false) (DD x.lo y.hi false)) (iQ (DD x.lo y.lo true) (DD x.lo y.hi true)) false))),(10,.cells 46 au)]⟩
def aaN(x y:Iv)(p:Nat)(gd gu:FuncId)(DD:Dy->Dy->Bool->Dy)(EE:Dy->Dy->Bool->Int):PS:=⟨96,true,[(41,.e (iP ((0+1)+1))),(40,.e (.agg (iG (Iv.mk x.lo y.lo x.lo.neg)++[gW (gV x.lo.m),iP x.lo.e]++iG (Iv.mk y.hi x.hi y.lo.neg)++[gW (gV y.lo.m),iP y.lo.e]++jA x.hi++jA y.hi))),(12,.box 12 0),(10,.box 10 0),(2,.e (iP p)),(3,.e (.fn gd [])),(4,.e (.fn gu []))],[(12,.cells 46 (iG (Iv.mk (iT (iT (DD x.lo y.lo false) (DD x.lo y.hi false)) (DD x.hi y.lo false)) (iQ (iQ (DD x.lo y.lo true) (DD x.lo y.hi true)) (DD x.hi y.lo true)) false))),(10,.cells 46 au)]⟩
def aaO(x y:Iv)(p:Nat)(gd gu:FuncId)(DD:Dy->Dy->Bool->Dy)(EE:Dy->Dy->Bool->Int):PS:=⟨96,true,[(41,.e (iP (((0+1)+1)+1))),(40,.e (.agg (iG (Iv.mk x.lo y.lo x.lo.neg)++[gW (gV x.lo.m),iP x.lo.e]++iG (Iv.mk y.hi x.hi y.lo.neg)++[gW (gV y.lo.m),iP y.lo.e]++jA x.hi++jA y.hi))),(12,.box 12 0),(10,.box 10 0),(2,.e (iP p)),(3,.e (.fn gd [])),(4,.e (.fn gu []))],[(12,.cells 46 (iG (Iv.mk (iT (iT (iT (DD x.lo y.lo false) (DD x.lo y.hi false)) (DD x.hi y.lo false)) (DD x.hi y.hi false)) (iQ (iQ (iQ (DD x.lo y.lo true) (DD x.lo y.hi true)) (DD x.hi y.lo true)) (DD x.hi y.hi true)) false))),(10,.cells 46 au)]⟩
def Qv(x y:Iv)(p:Nat)(gd gu:FuncId)(DD:Dy->Dy->Bool->Dy)(EE:Dy->Dy->Bool->Int)(hd:∀ a b,(a=x.lo\/a=x.hi)->(b=y.lo\/b=y.hi)->gU gd [gZ a,gZ b,iP (p:Int)] (.ik [gZ (DD a b false),iP (EE a b false)]))
  (hu:∀ a b,(a=x.lo\/a=x.hi)->(b=y.lo\/b=y.hi)->gU gu [gZ a,gZ b,iP (p:Int)] (.ik [gZ (DD a b true),iP (EE a b true)])) (hv:∀ a b up,(DD a b up).gX):gU 188 [ia x,ia y,iP p,.fn gd [],.fn gu []] (ia (nF DD EE x y)):=by
 exact ak call188 func188 (ae [.u 5,ah 42 (decide ((0:Int)<4)) aE]<|.w ((EE x.lo y.lo false)=0)
  (λk1=>.w ((EE x.lo y.lo true)=0)
   (λk2=>ae [.j 3 (aaL x y p gd gu DD EE)
   (af [iX 0 4 aC,iX 0 2 aC,iX 1 2 aC,.c (hd _ _ (.inl rfl) (.inl rfl):gU gd ((gZ x.lo)::(gZ y.lo)::(iP p)::[]) _),iX 0 2 aC,iX 1 2 aC,.c (hu _ _ (.inl rfl) (.inl rfl):gU gu ((gZ x.lo)::(gZ y.lo)::(iP p)::[]) _),tB 66 (aW k1),tB 69 (aW k2),ah 73 ((0:Int)==0) aE,ah 84 ((0:Int)==0) aE]),
    iu (0+1) aC,ah 42 (decide (((0+1):Int)<4)) aE]<|.w ((EE x.lo y.hi false)=0)
    (λk3=>.w ((EE x.lo y.hi true)=0)
     (λk4=>ae [.j 3 (aaM x y p gd gu DD EE)
   (ae [iX (0+1) 4 aC,iX 0 2 aC,iX 1 2 aC,.c (hd _ _ (.inl rfl) (.inr rfl):gU gd ((gZ x.lo)::(gZ y.hi)::(iP p)::[]) _),iX 0 2 aC,iX 1 2 aC,.c (hu _ _ (.inl rfl) (.inr rfl):gU gu ((gZ x.lo)::(gZ y.hi)::(iP p)::[]) _),tB 66 (aW k3),tB 69 (aW k4),ai 73 (((0+1):Int)==0) aE,ag [gZ (DD x.lo y.hi false),gZ (DD x.lo y.lo false)] (nD _ _ (hv _ _ _) (hv _ _ _))]<|.w ((jj (DD x.lo y.hi false) (DD x.lo y.lo false))<0)
    (λm1=>ae [tB 79 (bh m1),ai 84 (((0+1):Int)==0) aE,ag [gZ (DD x.lo y.hi true),gZ (DD x.lo y.lo true)] (nD _ _ (hv _ _ _) (hv _ _ _))]<|.w (0<(jj (DD x.lo y.hi true) (DD x.lo y.lo true)))
     (λm2=>ae [tB 90 (bh m2)]<|.e (af [.b 12 (.iH (by rw[show iT (DD x.lo y.lo false) (DD x.lo y.hi false)=(DD x.lo y.hi false)from aZ m1,show iQ (DD x.lo y.lo true) (DD x.lo y.hi true)=(DD x.lo y.hi true)from aZ m2]):Bx.le (.cells 46 (iG (Iv.mk (DD x.lo y.hi false) (DD x.lo y.hi true) false))) (.cells 46 (iG (Iv.mk (iT (DD x.lo y.lo false) (DD x.lo y.hi false)) (iQ (DD x.lo y.lo true) (DD x.lo y.hi true)) false))))]))
     (λm2=>ae [tB 90 (bg m2)]<|.e (af [.b 12 (.iH (by rw[show iT (DD x.lo y.lo false) (DD x.lo y.hi false)=(DD x.lo y.hi false)from aZ m1,show iQ (DD x.lo y.lo true) (DD x.lo y.hi true)=(DD x.lo y.lo true)from aY m2]):Bx.le (.cells 46 (iG (Iv.mk (DD x.lo y.hi false) (DD x.lo y.lo true) false))) (.cells 46 (iG (Iv.mk (iT (DD x.lo y.lo false) (DD x.lo y.hi false)) (iQ (DD x.lo y.lo true) (DD x.lo y.hi true)) false))))])))
    (λm1=>ae [tB 79 (bg m1),ai 84 (((0+1):Int)==0) aE,ag [gZ (DD x.lo y.hi true),gZ (DD x.lo y.lo true)] (nD _ _ (hv _ _ _) (hv _ _ _))]<|.w (0<(jj (DD x.lo y.hi true) (DD x.lo y.lo true)))
     (λm2=>ae [tB 90 (bh m2)]<|.e (af [.b 12 (.iH (by rw[show iT (DD x.lo y.lo false) (DD x.lo y.hi false)=(DD x.lo y.lo false)from aY m1,show iQ (DD x.lo y.lo true) (DD x.lo y.hi true)=(DD x.lo y.hi true)from aZ m2]):Bx.le (.cells 46 (iG (Iv.mk (DD x.lo y.lo false) (DD x.lo y.hi true) false))) (.cells 46 (iG (Iv.mk (iT (DD x.lo y.lo false) (DD x.lo y.hi false)) (iQ (DD x.lo y.lo true) (DD x.lo y.hi true)) false))))]))
     (λm2=>ae [tB 90 (bg m2)]<|.e (af [.b 12 (.iH (by rw[show iT (DD x.lo y.lo false) (DD x.lo y.hi false)=(DD x.lo y.lo false)from aY m1,show iQ (DD x.lo y.lo true) (DD x.lo y.hi true)=(DD x.lo y.lo true)from aY m2]):Bx.le (.cells 46 (iG (Iv.mk (DD x.lo y.lo false) (DD x.lo y.lo true) false))) (.cells 46 (iG (Iv.mk (iT (DD x.lo y.lo false) (DD x.lo y.hi false)) (iQ (DD x.lo y.lo true) (DD x.lo y.hi true)) false))))])))),
      iu ((0+1)+1) aC,ah 42 (decide ((((0+1)+1):Int)<4)) aE]<|.w ((EE x.hi y.lo false)=0)
      (λk5=>.w ((EE x.hi y.lo true)=0)
       (λk6=>ae [.j 3 (aaN x y p gd gu DD EE)
   (ae [iX ((0+1)+1) 4 aC,iX 0 2 aC,iX 1 2 aC,.c (hd _ _ (.inr rfl) (.inl rfl):gU gd ((gZ x.hi)::(gZ y.lo)::(iP p)::[]) _),iX 0 2 aC,iX 1 2 aC,.c (hu _ _ (.inr rfl) (.inl rfl):gU gu ((gZ x.hi)::(gZ y.lo)::(iP p)::[]) _),tB 66 (aW k5),tB 69 (aW k6),ai 73 ((((0+1)+1):Int)==0) aE,ag [gZ (DD x.hi y.lo false),gZ (iT (DD x.lo y.lo false) (DD x.lo y.hi false))] (nD _ _ (hv _ _ _) (uT (hv _ _ _) (hv _ _ _)))]<|.w ((jj (DD x.hi y.lo false) (iT (DD x.lo y.lo false) (DD x.lo y.hi false)))<0)
    (λm1=>ae [tB 79 (bh m1),ai 84 ((((0+1)+1):Int)==0) aE,ag [gZ (DD x.hi y.lo true),gZ (iQ (DD x.lo y.lo true) (DD x.lo y.hi true))] (nD _ _ (hv _ _ _) (rN (hv _ _ _) (hv _ _ _)))]<|.w (0<(jj (DD x.hi y.lo true) (iQ (DD x.lo y.lo true) (DD x.lo y.hi true))))
     (λm2=>ae [tB 90 (bh m2)]<|.e (af [.b 12 (.iH (by rw[show iT (iT (DD x.lo y.lo false) (DD x.lo y.hi false)) (DD x.hi y.lo false)=(DD x.hi y.lo false)from aZ m1,show iQ (iQ (DD x.lo y.lo true) (DD x.lo y.hi true)) (DD x.hi y.lo true)=(DD x.hi y.lo true)from aZ m2]):Bx.le (.cells 46 (iG (Iv.mk (DD x.hi y.lo false) (DD x.hi y.lo true) false))) (.cells 46 (iG (Iv.mk (iT (iT (DD x.lo y.lo false) (DD x.lo y.hi false)) (DD x.hi y.lo false)) (iQ (iQ (DD x.lo y.lo true) (DD x.lo y.hi true)) (DD x.hi y.lo true)) false))))]))
     (λm2=>ae [tB 90 (bg m2)]<|.e (af [.b 12 (.iH (by rw[show iT (iT (DD x.lo y.lo false) (DD x.lo y.hi false)) (DD x.hi y.lo false)=(DD x.hi y.lo false)from aZ m1,show iQ (iQ (DD x.lo y.lo true) (DD x.lo y.hi true)) (DD x.hi y.lo true)=(iQ (DD x.lo y.lo true) (DD x.lo y.hi true))from aY m2]):Bx.le (.cells 46 (iG (Iv.mk (DD x.hi y.lo false) (iQ (DD x.lo y.lo true) (DD x.lo y.hi true)) false))) (.cells 46 (iG (Iv.mk (iT (iT (DD x.lo y.lo false) (DD x.lo y.hi false)) (DD x.hi y.lo false)) (iQ (iQ (DD x.lo y.lo true) (DD x.lo y.hi true)) (DD x.hi y.lo true)) false))))])))
    (λm1=>ae [tB 79 (bg m1),ai 84 ((((0+1)+1):Int)==0) aE,ag [gZ (DD x.hi y.lo true),gZ (iQ (DD x.lo y.lo true) (DD x.lo y.hi true))] (nD _ _ (hv _ _ _) (rN (hv _ _ _) (hv _ _ _)))]<|.w (0<(jj (DD x.hi y.lo true) (iQ (DD x.lo y.lo true) (DD x.lo y.hi true))))
     (λm2=>ae [tB 90 (bh m2)]<|.e (af [.b 12 (.iH (by rw[show iT (iT (DD x.lo y.lo false) (DD x.lo y.hi false)) (DD x.hi y.lo false)=(iT (DD x.lo y.lo false) (DD x.lo y.hi false))from aY m1,show iQ (iQ (DD x.lo y.lo true) (DD x.lo y.hi true)) (DD x.hi y.lo true)=(DD x.hi y.lo true)from aZ m2]):Bx.le (.cells 46 (iG (Iv.mk (iT (DD x.lo y.lo false) (DD x.lo y.hi false)) (DD x.hi y.lo true) false))) (.cells 46 (iG (Iv.mk (iT (iT (DD x.lo y.lo false) (DD x.lo y.hi false)) (DD x.hi y.lo false)) (iQ (iQ (DD x.lo y.lo true) (DD x.lo y.hi true)) (DD x.hi y.lo true)) false))))]))
     (λm2=>ae [tB 90 (bg m2)]<|.e (af [.b 12 (.iH (by rw[show iT (iT (DD x.lo y.lo false) (DD x.lo y.hi false)) (DD x.hi y.lo false)=(iT (DD x.lo y.lo false) (DD x.lo y.hi false))from aY m1,show iQ (iQ (DD x.lo y.lo true) (DD x.lo y.hi true)) (DD x.hi y.lo true)=(iQ (DD x.lo y.lo true) (DD x.lo y.hi true))from aY m2]):Bx.le (.cells 46 (iG (Iv.mk (iT (DD x.lo y.lo false) (DD x.lo y.hi false)) (iQ (DD x.lo y.lo true) (DD x.lo y.hi true)) false))) (.cells 46 (iG (Iv.mk (iT (iT (DD x.lo y.lo false) (DD x.lo y.hi false)) (DD x.hi y.lo false)) (iQ (iQ (DD x.lo y.lo true) (DD x.lo y.hi true)) (DD x.hi y.lo true)) false))))])))),
        iu (((0+1)+1)+1) aC,ah 42 (decide (((((0+1)+1)+1):Int)<4)) aE]<|.w ((EE x.hi y.hi false)=0)
        (λk7=>.w ((EE x.hi y.hi true)=0)
         (λk8=>ae [.j 3 (aaO x y p gd gu DD EE)
   (ae [iX (((0+1)+1)+1) 4 aC,iX 0 2 aC,iX 1 2 aC,.c (hd _ _ (.inr rfl) (.inr rfl):gU gd ((gZ x.hi)::(gZ y.hi)::(iP p)::[]) _),iX 0 2 aC,iX 1 2 aC,.c (hu _ _ (.inr rfl) (.inr rfl):gU gu ((gZ x.hi)::(gZ y.hi)::(iP p)::[]) _),tB 66 (aW k7),tB 69 (aW k8),ai 73 (((((0+1)+1)+1):Int)==0) aE,ag [gZ (DD x.hi y.hi false),gZ (iT (iT (DD x.lo y.lo false) (DD x.lo y.hi false)) (DD x.hi y.lo false))] (nD _ _ (hv _ _ _) (uT (uT (hv _ _ _) (hv _ _ _)) (hv _ _ _)))]<|.w ((jj (DD x.hi y.hi false) (iT (iT (DD x.lo y.lo false) (DD x.lo y.hi false)) (DD x.hi y.lo false)))<0)
    (λm1=>ae [tB 79 (bh m1),ai 84 (((((0+1)+1)+1):Int)==0) aE,ag [gZ (DD x.hi y.hi true),gZ (iQ (iQ (DD x.lo y.lo true) (DD x.lo y.hi true)) (DD x.hi y.lo true))] (nD _ _ (hv _ _ _) (rN (rN (hv _ _ _) (hv _ _ _)) (hv _ _ _)))]<|.w (0<(jj (DD x.hi y.hi true) (iQ (iQ (DD x.lo y.lo true) (DD x.lo y.hi true)) (DD x.hi y.lo true))))
     (λm2=>ae [tB 90 (bh m2)]<|.e (af [.b 12 (.iH (by rw[show iT (iT (iT (DD x.lo y.lo false) (DD x.lo y.hi false)) (DD x.hi y.lo false)) (DD x.hi y.hi false)=(DD x.hi y.hi false)from aZ m1,show iQ (iQ (iQ (DD x.lo y.lo true) (DD x.lo y.hi true)) (DD x.hi y.lo true)) (DD x.hi y.hi true)=(DD x.hi y.hi true)from aZ m2]):Bx.le (.cells 46 (iG (Iv.mk (DD x.hi y.hi false) (DD x.hi y.hi true) false))) (.cells 46 (iG (Iv.mk (iT (iT (iT (DD x.lo y.lo false) (DD x.lo y.hi false)) (DD x.hi y.lo false)) (DD x.hi y.hi false)) (iQ (iQ (iQ (DD x.lo y.lo true) (DD x.lo y.hi true)) (DD x.hi y.lo true)) (DD x.hi y.hi true)) false))))]))
     (λm2=>ae [tB 90 (bg m2)]<|.e (af [.b 12 (.iH (by rw[show iT (iT (iT (DD x.lo y.lo false) (DD x.lo y.hi false)) (DD x.hi y.lo false)) (DD x.hi y.hi false)=(DD x.hi y.hi false)from aZ m1,show iQ (iQ (iQ (DD x.lo y.lo true) (DD x.lo y.hi true)) (DD x.hi y.lo true)) (DD x.hi y.hi true)=(iQ (iQ (DD x.lo y.lo true) (DD x.lo y.hi true)) (DD x.hi y.lo true))from aY m2]):Bx.le (.cells 46 (iG (Iv.mk (DD x.hi y.hi false) (iQ (iQ (DD x.lo y.lo true) (DD x.lo y.hi true)) (DD x.hi y.lo true)) false))) (.cells 46 (iG (Iv.mk (iT (iT (iT (DD x.lo y.lo false) (DD x.lo y.hi false)) (DD x.hi y.lo false)) (DD x.hi y.hi false)) (iQ (iQ (iQ (DD x.lo y.lo true) (DD x.lo y.hi true)) (DD x.hi y.lo true)) (DD x.hi y.hi true)) false))))])))
    (λm1=>ae [tB 79 (bg m1),ai 84 (((((0+1)+1)+1):Int)==0) aE,ag [gZ (DD x.hi y.hi true),gZ (iQ (iQ (DD x.lo y.lo true) (DD x.lo y.hi true)) (DD x.hi y.lo true))] (nD _ _ (hv _ _ _) (rN (rN (hv _ _ _) (hv _ _ _)) (hv _ _ _)))]<|.w (0<(jj (DD x.hi y.hi true) (iQ (iQ (DD x.lo y.lo true) (DD x.lo y.hi true)) (DD x.hi y.lo true))))
     (λm2=>ae [tB 90 (bh m2)]<|.e (af [.b 12 (.iH (by rw[show iT (iT (iT (DD x.lo y.lo false) (DD x.lo y.hi false)) (DD x.hi y.lo false)) (DD x.hi y.hi false)=(iT (iT (DD x.lo y.lo false) (DD x.lo y.hi false)) (DD x.hi y.lo false))from aY m1,show iQ (iQ (iQ (DD x.lo y.lo true) (DD x.lo y.hi true)) (DD x.hi y.lo true)) (DD x.hi y.hi true)=(DD x.hi y.hi true)from aZ m2]):Bx.le (.cells 46 (iG (Iv.mk (iT (iT (DD x.lo y.lo false) (DD x.lo y.hi false)) (DD x.hi y.lo false)) (DD x.hi y.hi true) false))) (.cells 46 (iG (Iv.mk (iT (iT (iT (DD x.lo y.lo false) (DD x.lo y.hi false)) (DD x.hi y.lo false)) (DD x.hi y.hi false)) (iQ (iQ (iQ (DD x.lo y.lo true) (DD x.lo y.hi true)) (DD x.hi y.lo true)) (DD x.hi y.hi true)) false))))]))
     (λm2=>ae [tB 90 (bg m2)]<|.e (af [.b 12 (.iH (by rw[show iT (iT (iT (DD x.lo y.lo false) (DD x.lo y.hi false)) (DD x.hi y.lo false)) (DD x.hi y.hi false)=(iT (iT (DD x.lo y.lo false) (DD x.lo y.hi false)) (DD x.hi y.lo false))from aY m1,show iQ (iQ (iQ (DD x.lo y.lo true) (DD x.lo y.hi true)) (DD x.hi y.lo true)) (DD x.hi y.hi true)=(iQ (iQ (DD x.lo y.lo true) (DD x.lo y.hi true)) (DD x.hi y.lo true))from aY m2]):Bx.le (.cells 46 (iG (Iv.mk (iT (iT (DD x.lo y.lo false) (DD x.lo y.hi false)) (DD x.hi y.lo false)) (iQ (iQ (DD x.lo y.lo true) (DD x.lo y.hi true)) (DD x.hi y.lo true)) false))) (.cells 46 (iG (Iv.mk (iT (iT (iT (DD x.lo y.lo false) (DD x.lo y.hi false)) (DD x.hi y.lo false)) (DD x.hi y.hi false)) (iQ (iQ (iQ (DD x.lo y.lo true) (DD x.lo y.hi true)) (DD x.hi y.lo true)) (DD x.hi y.hi true)) false))))])))),
          iu ((((0+1)+1)+1)+1) aC,ai 42 (decide ((((((0+1)+1)+1)+1):Int)<4)) aE]<|rQ (ia (Iv.mk (iT (iT (iT (DD x.lo y.lo false) (DD x.lo y.hi false)) (DD x.hi y.lo false)) (DD x.hi y.hi false)) (iQ (iQ (iQ (DD x.lo y.lo true) (DD x.lo y.hi true)) (DD x.hi y.lo true)) (DD x.hi y.hi true)) false)) (ia (nF DD EE x y)) (by rw[show nF DD EE x y=⟨iT (iT (iT (DD x.lo y.lo false) (DD x.lo y.hi false)) (DD x.hi y.lo false)) (DD x.hi y.hi false),iQ (iQ (iQ (DD x.lo y.lo true) (DD x.lo y.hi true)) (DD x.hi y.lo true)) (DD x.hi y.hi true),false⟩from aZ ⟨⟨k1,k2⟩,⟨k3,k4⟩,⟨k5,k6⟩,⟨k7,k8⟩⟩];try rfl))
         (λk8=>ae [iX (((0+1)+1)+1) 4 aC,iX 0 2 aC,iX 1 2 aC,.c (hd _ _ (.inr rfl) (.inr rfl):gU gd ((gZ x.hi)::(gZ y.hi)::(iP p)::[]) _),iX 0 2 aC,iX 1 2 aC,.c (hu _ _ (.inr rfl) (.inr rfl):gU gu ((gZ x.hi)::(gZ y.hi)::(iP p)::[]) _),tB 66 (aW k7),tB 69 (aX k8),.c mq]<|rQ (ia ie) (ia (nF DD EE x y)) (by rw[show nF DD EE x y=ie from aY (by rintro⟨⟨q0,r0⟩,⟨q1,r1⟩,⟨q2,r2⟩,⟨q3,r3⟩⟩;exact k8 r3)])))
        (λk7=>ae [iX (((0+1)+1)+1) 4 aC,iX 0 2 aC,iX 1 2 aC,.c (hd _ _ (.inr rfl) (.inr rfl):gU gd ((gZ x.hi)::(gZ y.hi)::(iP p)::[]) _),iX 0 2 aC,iX 1 2 aC,.c (hu _ _ (.inr rfl) (.inr rfl):gU gu ((gZ x.hi)::(gZ y.hi)::(iP p)::[]) _),tB 66 (aX k7),.c mq]<|rQ (ia ie) (ia (nF DD EE x y)) (by rw[show nF DD EE x y=ie from aY (by rintro⟨⟨q0,r0⟩,⟨q1,r1⟩,⟨q2,r2⟩,⟨q3,r3⟩⟩;exact k7 q3)])))
       (λk6=>ae [iX ((0+1)+1) 4 aC,iX 0 2 aC,iX 1 2 aC,.c (hd _ _ (.inr rfl) (.inl rfl):gU gd ((gZ x.hi)::(gZ y.lo)::(iP p)::[]) _),iX 0 2 aC,iX 1 2 aC,.c (hu _ _ (.inr rfl) (.inl rfl):gU gu ((gZ x.hi)::(gZ y.lo)::(iP p)::[]) _),tB 66 (aW k5),tB 69 (aX k6),.c mq]<|rQ (ia ie) (ia (nF DD EE x y)) (by rw[show nF DD EE x y=ie from aY (by rintro⟨⟨q0,r0⟩,⟨q1,r1⟩,⟨q2,r2⟩,⟨q3,r3⟩⟩;exact k6 r2)])))
      (λk5=>ae [iX ((0+1)+1) 4 aC,iX 0 2 aC,iX 1 2 aC,.c (hd _ _ (.inr rfl) (.inl rfl):gU gd ((gZ x.hi)::(gZ y.lo)::(iP p)::[]) _),iX 0 2 aC,iX 1 2 aC,.c (hu _ _ (.inr rfl) (.inl rfl):gU gu ((gZ x.hi)::(gZ y.lo)::(iP p)::[]) _),tB 66 (aX k5),.c mq]<|rQ (ia ie) (ia (nF DD EE x y)) (by rw[show nF DD EE x y=ie from aY (by rintro⟨⟨q0,r0⟩,⟨q1,r1⟩,⟨q2,r2⟩,⟨q3,r3⟩⟩;exact k5 q2)])))
     (λk4=>ae [iX (0+1) 4 aC,iX 0 2 aC,iX 1 2 aC,.c (hd _ _ (.inl rfl) (.inr rfl):gU gd ((gZ x.lo)::(gZ y.hi)::(iP p)::[]) _),iX 0 2 aC,iX 1 2 aC,.c (hu _ _ (.inl rfl) (.inr rfl):gU gu ((gZ x.lo)::(gZ y.hi)::(iP p)::[]) _),tB 66 (aW k3),tB 69 (aX k4),.c mq]<|rQ (ia ie) (ia (nF DD EE x y)) (by rw[show nF DD EE x y=ie from aY (by rintro⟨⟨q0,r0⟩,⟨q1,r1⟩,⟨q2,r2⟩,⟨q3,r3⟩⟩;exact k4 r1)])))
    (λk3=>ae [iX (0+1) 4 aC,iX 0 2 aC,iX 1 2 aC,.c (hd _ _ (.inl rfl) (.inr rfl):gU gd ((gZ x.lo)::(gZ y.hi)::(iP p)::[]) _),iX 0 2 aC,iX 1 2 aC,.c (hu _ _ (.inl rfl) (.inr rfl):gU gu ((gZ x.lo)::(gZ y.hi)::(iP p)::[]) _),tB 66 (aX k3),.c mq]<|rQ (ia ie) (ia (nF DD EE x y)) (by rw[show nF DD EE x y=ie from aY (by rintro⟨⟨q0,r0⟩,⟨q1,r1⟩,⟨q2,r2⟩,⟨q3,r3⟩⟩;exact k3 q1)])))
   (λk2=>ae [iX 0 4 aC,iX 0 2 aC,iX 1 2 aC,.c (hd _ _ (.inl rfl) (.inl rfl):gU gd ((gZ x.lo)::(gZ y.lo)::(iP p)::[]) _),iX 0 2 aC,iX 1 2 aC,.c (hu _ _ (.inl rfl) (.inl rfl):gU gu ((gZ x.lo)::(gZ y.lo)::(iP p)::[]) _),tB 66 (aW k1),tB 69 (aX k2),.c mq]<|rQ (ia ie) (ia (nF DD EE x y)) (by rw[show nF DD EE x y=ie from aY (by rintro⟨⟨q0,r0⟩,⟨q1,r1⟩,⟨q2,r2⟩,⟨q3,r3⟩⟩;exact k2 r0)])))
  (λk1=>ae [iX 0 4 aC,iX 0 2 aC,iX 1 2 aC,.c (hd _ _ (.inl rfl) (.inl rfl):gU gd ((gZ x.lo)::(gZ y.lo)::(iP p)::[]) _),iX 0 2 aC,iX 1 2 aC,.c (hu _ _ (.inl rfl) (.inl rfl):gU gu ((gZ x.lo)::(gZ y.lo)::(iP p)::[]) _),tB 66 (aX k1),.c mq]<|rQ (ia ie) (ia (nF DD EE x y)) (by rw[show nF DD EE x y=ie from aY (by rintro⟨⟨q0,r0⟩,⟨q1,r1⟩,⟨q2,r2⟩,⟨q3,r3⟩⟩;exact k1 q0)]))) 
def ae0{y:Iv}(hy:y.gX)(hs:lO y≠0):y.lo.m≠0/\y.hi.m≠0:=by
 unfold lO at hs;have ha:y.all=false:=by
  cases h:y.all with
  |false=>rfl
  |true=>rw[h]at hs;exact absurd rfl hs
 obtain⟨v1,v2,v3⟩:=rJ hy ha;rw[ha]at hs;simp only[bA,bq]at hs;have z:∀ d:Dy,d.m=0->d.iJ=0:=λd h=>by unfold Dy.iJ;rw[aZ h]
 have hc:=AY y.lo y.hi;rw[hc]at v3;constructor
 .intro h0;have:=z _ h0;rw[this]at hs v3;split at hs
  .omega
  .split at hs
   .split at v3<;>omega
   .exact hs rfl
 .intro h0;have:=z _ h0;rw[this]at hs v3;split at hs
  .split at v3<;>omega
  .split at hs
   .omega
   .exact hs rfl
def W9(a b:Dy){p:Nat}(up:Bool)(hp:1<=p)(gY:p<=4096):(nM a b p up).gX:=by
 unfold nM;split
 .exact qe
 .exact q6 _ _ _ _ _ _ hp gY
def uP(x y:Iv)(p:Nat)(hx:x.gX)(hy:y.gX)(ig:8<=p)(gY:p<=512):gU 115 [ia x,ia y,iP p] (ia (jm x y p)):=by
 by_cases hk:(x.all||y.all)=true
 .exact ak call115 func115 (ae [.o 9 (.e (vS _ _):aj (.sl true 2 7 λi_ j_=>(iG x++iG y).getD (i_*7+j_) (.v (.bool false))) (im [x,y])),ag [im [x,y]] (w9 _ _ aD aD),ai 10 (!(x.all||y.all)) (by rw[hk];rfl),.c mq]<|rQ (ia ie) (ia (jm x y p)) (by rw[show jm x y p=ie by unfold jm;rw[aZ hk]])) 
 .replace hk:(x.all||y.all)=false:=by simpa using hk
  have kf:x.all=false:=by cases h:x.all;rfl;rw[h]at hk;simp at hk
  have yr:y.all=false:=by cases h:y.all;rfl;rw[h]at hk;simp at hk
  obtain⟨v1,v2,v3⟩:=rJ hx kf;obtain⟨v4,v5,v6⟩:=rJ hy yr;exact ak call115 func115 (ae [.o 9 (.e (vS _ _):aj (.sl true 2 7 λi_ j_=>(iG x++iG y).getD (i_*7+j_) (.v (.bool false))) (im [x,y])),ag [im [x,y]] (w9 _ _ aD aD),ah 10 (!(x.all||y.all)) (by rw[hk];rfl),ag [iP p] (tD _),ah 14 (lJ (p:Int)) (qp.2 ⟨aC,aC⟩),.c (Qv x y p 189 190 (λa b up=>jk (lI a b) p up) (λa b up=>jf (lI a b) p up) (λa b ha hb=>GA a b p (by rcases ha with rfl|rfl;exact v1;exact v2) (by rcases hb with rfl|rfl;exact v4;exact v5) ig gY) (λa b ha hb=>GB a b p (by rcases ha with rfl|rfl;exact v1;exact v2) (by rcases hb with rfl|rfl;exact v4;exact v5) ig gY) (λa b up=>q6 _ _ _ _ _ _ aC aC))]<|rQ (ia (nF (λa b up=>jk (lI a b) p up) (λa b up=>jf (lI a b) p up) x y)) (ia (jm x y p)) (by rw[show jm x y p=_ by unfold jm;rw[aY (by rw[hk];decide)]];rfl)) 
def Dq(x y:Iv)(p:Nat)(hx:x.gX)(hy:y.gX)(ig:8<=p)(gY:p<=512):gU 128 [ia x,ia y,iP p] (ia (jT x y p)):=by
 by_cases hk:(x.all||y.all)=true
 .exact ak call128 func128 (ae [.o 9 (.e (vS _ _):aj (.sl true 2 7 λi_ j_=>(iG x++iG y).getD (i_*7+j_) (.v (.bool false))) (im [x,y])),ag [im [x,y]] (w9 _ _ aD aD),ai 10 (!(x.all||y.all)) (by rw[hk];rfl),.c mq]<|rQ (ia ie) (ia (jT x y p)) (by rw[show jT x y p=ie by unfold jT;rw[aZ (by rw[hk];rfl)]])) 
 .replace hk:(x.all||y.all)=false:=by simpa using hk
  have kf:x.all=false:=by cases h:x.all;rfl;rw[h]at hk;simp at hk
  have yr:y.all=false:=by cases h:y.all;rfl;rw[h]at hk;simp at hk
  obtain⟨v1,v2,v3⟩:=rJ hx kf;obtain⟨v4,v5,v6⟩:=rJ hy yr;by_cases hs:lO y=0
  .exact ak call128 func128 (ae [.o 9 (.e (vS _ _):aj (.sl true 2 7 λi_ j_=>(iG x++iG y).getD (i_*7+j_) (.v (.bool false))) (im [x,y])),ag [im [x,y]] (w9 _ _ aD aD),ah 10 (!(x.all||y.all)) (by rw[hk];rfl),ag [iP p] (tD _),ah 14 (lJ (p:Int)) (qp.2 ⟨aC,aC⟩),.c (Ds y aD),ah 20 ((lO y)==0) (by rw[hs];rfl),.c mq]<|rQ (ia ie) (ia (jT x y p)) (by rw[show jT x y p=ie by unfold jT;rw[aZ (by rw[hk,bh hs];rfl)]])) 
  .obtain ⟨n1,n2⟩:=ae0 hy hs;exact ak call128 func128 (ae [.o 9 (.e (vS _ _):aj (.sl true 2 7 λi_ j_=>(iG x++iG y).getD (i_*7+j_) (.v (.bool false))) (im [x,y])),ag [im [x,y]] (w9 _ _ aD aD),ah 10 (!(x.all||y.all)) (by rw[hk];rfl),ag [iP p] (tD _),ah 14 (lJ (p:Int)) (qp.2 ⟨aC,aC⟩),.c (Ds y aD),ai 20 ((lO y)==0) (by simpa using hs),.c (Qv x y p 209 210 (λa b up=>nM a b p up) (λa b up=>pj a b p up) (λa b ha hb=>Sj a b p (by rcases ha with rfl|rfl;exact v1;exact v2) (by rcases hb with rfl|rfl;exact v4;exact v5) (by rcases hb with rfl|rfl;exact n1;exact n2) ig gY) (λa b ha hb=>Sk a b p (by rcases ha with rfl|rfl;exact v1;exact v2) (by rcases hb with rfl|rfl;exact v4;exact v5) (by rcases hb with rfl|rfl;exact n1;exact n2) ig gY) (λa b up=>W9 a b up aC aC))]<|rQ (ia (nF (λa b up=>nM a b p up) (λa b up=>pj a b p up) x y)) (ia (jT x y p)) (by rw[show jT x y p=_ by unfold jT;rw[aY (by rw[hk,bg hs];decide)]])) 
def aaX(d:RD)(h:d.Zero):gU 198 [qJ d] (bP true):=by
 obtain⟨h1,h2,h3⟩:=h;exact ak call198 func198 (af [ai 4 d.neg h1,ah 10 ((d.L.length:Int)==0) (rP (by rw[h2];rfl)),ah 15 (d.e==0) (by rw[h3];rfl)]) 
def QA(d:RD)(h:¬d.Zero):gU 198 [qJ d] (bP false):=by
 by_cases h1:d.neg=true
 .exact ak call198 func198 (af [ah 4 d.neg h1]) 
 .replace h1:d.neg=false:=by simpa using h1
  by_cases h2:d.L=[]
  .have h3:¬d.e=0:=λq=>h ⟨h1,h2,q⟩
   exact ak call198 func198 (af [ai 4 d.neg h1,ah 10 ((d.L.length:Int)==0) (rP (by rw[h2];rfl)),ai 15 (d.e==0) (by simpa using h3)]) 
  .exact ak call198 func198 (af [ai 4 d.neg h1,ai 10 ((d.L.length:Int)==0) (nk (λq=>h2 (ahh.1 q)))]) 
def aaW(x:RI)(g:x.mz)(h:x.Ok):gU 121 [wh x] (bP true):=by
 have:=qR x.iv h.valid;rwa[<-Kf,h.eq g]at this
def aaU(x:RI)(g:x.mz)(h:¬x.Ok):gU 121 [wh x] (bP false):=by
 have ga:=g.lo;have gb:=g.hi;by_cases ha:x.all=true
 .by_cases h1:x.lo.Zero
  .have h2:¬x.hi.Zero:=λq=>h (.inl ⟨ha,h1,q⟩)
   exact ak call121 func121 (af [ah 5 x.all ha,.c (aaX x.lo h1),.c (QA x.hi h2)]) 
  .exact ak call121 func121 (af [ah 5 x.all ha,.c (QA x.lo h1)]) 
 .replace ha:x.all=false:=by simpa using ha
  by_cases h1:x.lo.Ok
  .by_cases h2:x.hi.Ok
   .have h3:¬jj x.lo.dy x.hi.dy<=0:=λq=>h (.inr ⟨ha,h1,h2,q⟩)
    have v1:=h1.valid;have v2:=h2.valid;have e1:wh x=ia x.iv:=by rw[<-Kf,show x.iv.raw=x by show RI.mk x.lo.dy.raw x.hi.dy.raw x.all=x;rw[h1.eq ga,h2.eq gb]]
    rw[e1];exact ak call121 func121 (af [ai 5 x.iv.all ha,ag [gZ x.iv.lo] (uo _ aD),ag [gZ x.iv.hi] (uo _ aD),ag [gZ x.iv.lo,gZ x.iv.hi] (nD _ _ aD aD),tB 30 (bg h3)]) 
   .exact ak call121 func121 (af [ai 5 x.all ha,ag [qJ x.lo] (IN _ aD true (by simp[h1])),ag [qJ x.hi] (IN _ aD false (by simp[h2]))]) 
  .exact ak call121 func121 (af [ai 5 x.all ha,ag [qJ x.lo] (IN _ aD false (by simp[h1]))]) 
def aaV(x:RI)(g:x.mz):gU 121 [wh x] (bP (nc x)):=by
 by_cases h:x.Ok
 .rw [tM.2 h];exact aaW x g h
 .rw [show nc x=false by simpa using λq=>h (tM.1 q)];exact aaU x g h
def abN(x:RI)(g:x.mz):gU 293 [wh x,(.jG 1 λj_=>[.fn 121 []].getD j_ .any)] (bP (!(nc x))):=
 ak call293 func293 (af [ag [wh x] (aaV _ aD)]) 
def abM(r:List RI)(m:List (List RI))(gr:∀ j,(r.getD j jR).mz)(hr:r.length<=1000000)(hm:0<m.length):gU 292 [pA r,(.jG 1 λj_=>[At m].getD j_ .any),(.jG 1 λj_=>[.fn 121 []].getD j_ .any)] (bP (decide (r.length≠(m.getD 0 []).length)||((List.range (r.length)).any λj=>!(nc (r.getD j jR))))):=by
 by_cases h:r.length=(m.getD 0 []).length
 .exact ak call292 func292 (ae [iX 0 (m.length) aC,ai 11 ((r.length:Int) != ((m.getD 0 []).length:Int)) (Ak h),.c (Ga true _ _ 293 _ (λj=>!(nc (r.getD j jR))) (λj hj=>abN _ (gr j)) aC:gU 40 [pA r,.fn 293 [(.jG 1 λj_=>[.fn 121 []].getD j_ .any)]] _)]<|rQ (bP ((List.range (r.length)).any λj=>!(nc (r.getD j jR)))) (bP (decide (r.length≠(m.getD 0 []).length)||((List.range (r.length)).any λj=>!(nc (r.getD j jR))))) (by rw[bg (ahl h)];rfl)) 
 .exact ak call292 func292 (ae [iX 0 (m.length) aC,ah 11 ((r.length:Int) != ((m.getD 0 []).length:Int)) (aca h)]<|rQ (bP true) (bP (decide (r.length≠(m.getD 0 []).length)||((List.range (r.length)).any λj=>!(nc (r.getD j jR))))) (by rw[bh h];rfl)) 
def abO(m:List (List RI))(g:Ck m)(hl:m.length<=1000000)(JV:∀ i,(m.getD i []).length<=1000000):gU 241 [At m,.fn 121 []] (bP (uS m)):=by
 by_cases h1:m.length<1
 .exact ak call241 func241 (ae [tT 7 ((m.length:Int)<1) aC]<|rQ (bP false) (bP (uS m)) (by rw[DF (λq=>by have:=q.n1;omega)])) 
 .by_cases h2:8<m.length
  .exact ak call241 func241 (ae [tF 7 ((m.length:Int)<1) aC,tT 11 (8<(m.length:Int)) aC]<|rQ (bP false) (bP (uS m)) (by rw[DF (λq=>by have:=q.n8;omega)])) 
  .by_cases h3:(m.getD 0 []).length<1
   .exact ak call241 func241 (ae [tF 7 ((m.length:Int)<1) aC,tF 11 (8<(m.length:Int)) aC,iX 0 (m.length) aC,tT 18 (((m.getD 0 []).length:Int)<1) aC]<|rQ (bP false) (bP (uS m)) (by rw[DF (λq=>by have:=q.k1;omega)])) 
   .by_cases h4:8<(m.getD 0 []).length
    .exact ak call241 func241 (ae [tF 7 ((m.length:Int)<1) aC,tF 11 (8<(m.length:Int)) aC,iX 0 (m.length) aC,tF 18 (((m.getD 0 []).length:Int)<1) aC,iX 0 (m.length) aC,tT 25 (8<((m.getD 0 []).length:Int)) aC]<|rQ (bP false) (bP (uS m)) (by rw[DF (λq=>by have:=q.k8;omega)])) 
    .have hb:uS m = !((List.range m.length).any λi=>decide ((m.getD i []).length≠(m.getD 0 []).length)||((List.range ((m.getD i []).length)).any λj=>!(nc ((m.getD i []).getD j jR)))):=by
      by_cases hk:Cm m
      .rw [Kv.2 hk];symm;rw[eV,dp];intro i hi;have hi:=cz.1 hi;have uN:decide ((m.getD i []).length≠(m.getD 0 []).length)=false:=bg (ahl (hk.row i hi));rw[uN,eD,gz,dp];intro j hj;rw[tM.2 (hk.ok i hi j (cz.1 hj))];decide
      .rw [DF hk];symm;rw[ahm];apply bN;intro hc;rw[gz,dp]at hc;refine hk ⟨aC,aC,aC,aC,λi hi=>?_,λi hi j hj=>?_⟩
       .have:=hc i (cz.2 hi);simp only[cP,decide_not,eW,not_or,gz,ahm,cI]at this;exact this.1
       .have:=hc i (cz.2 hi);simp only[cP,decide_not,eW,not_or,gz,ahm,cI]at this;have:=dp.1 this.2 j (cz.2 hj);exact tM.1 (by simpa using this)
     exact ak call241 func241 (ae [tF 7 ((m.length:Int)<1) aC,tF 11 (8<(m.length:Int)) aC,iX 0 (m.length) aC,tF 18 (((m.getD 0 []).length:Int)<1) aC,iX 0 (m.length) aC,tF 25 (8<((m.getD 0 []).length:Int)) aC,.c (Ln true _ _ 292 _ (λi=>decide ((m.getD i []).length≠(m.getD 0 []).length)||((List.range ((m.getD i []).length)).any λj=>!(nc ((m.getD i []).getD j jR)))) (λi hi=>abM _ _ (λj=>g.at i j) (JV i) aC) aC:gU 163 [At m,.fn 292 [(.jG 1 λj_=>[At m].getD j_ .any),(.jG 1 λj_=>[.fn 121 []].getD j_ .any)]] _)]<|rQ (bP (!((List.range m.length).any λi=>decide ((m.getD i []).length≠(m.getD 0 []).length)||((List.range ((m.getD i []).length)).any λj=>!(nc ((m.getD i []).getD j jR)))))) (bP (uS m)) (by rw[hb])) 
def abQ(m:List (List RI))(g:Ck m)(hl:m.length<=1000000)(JV:∀ i,(m.getD i []).length<=1000000):gU 164 [At m] (bP (uS m)):=
 ak call164 func164 (af [.c (abO m g aC JV)]) 
end Go.Proofs.YtkjkcjhacddojaaGreatDoor
namespace Go.Proofs.YtkjkcjhacddojaaGreatDoor.Fp
def iU(d:Dy)(p:Nat)(up:Bool):Nat->Dy×Int
 | 0=>(jk d p up,jf d p up)
 |k+1=>if(iU d p up k).2≠0 then iU d p up k else(jk (uW (iU d p up k).1 d) p up,jf (uW (iU d p up k).1 d) p up)
def ks(d:Dy)(n p:Nat)(up:Bool):Dy×Int:=if d.iJ<0 then(jv (iU (jv d) p (!up) (n-1)).1,(iU (jv d) p (!up) (n-1)).2)else iU d p up (n-1)
def rV(x:Iv)(n:Nat):Iv:=if n%2=0 then jx x else x
def oN(x:Iv)(n p:Nat):Iv:=
 if x.all then ie else if n=0 then kK ⟨false,1,0⟩
 else kI (ks (rV x n).lo n p false).1 (ks (rV x n).lo n p false).2 (ks (rV x n).hi n p true).1 (ks (rV x n).hi n p true).2
def my(r:Rat):Nat->Rat
 | 0=>1
 |n+1=>my r n*r
def Az{r:Rat}(h:0<=r):∀ n,0<=my r n
 | 0=>by show(0:Rat)<=1;decide
 |n+1=>bQ (Az h n) h
def Eb{a b:Rat}(h0:0<=a)(h:a<=b):∀ n,my a n<=my b n
 | 0=>bV
 |n+1=>by
  have ih:=Eb h0 h n;have m1:=cg ih h0;have m2:=cE h (Az (bF h0 h) n);exact bF m1 m2
def Aw(r:Rat):∀ n,my (-r) n=if n%2=0 then my r n else -my r n
 | 0=>rfl
 |n+1=>by
  have ih:=Aw r n;simp only[my,ih];have:n%2=0\/n%2=1:= aC ;rcases this with h|h
  .have h':(n+1)%2=1:= aC ;rw[h,h'];simp;grind
  .have h':(n+1)%2=0:= aC ;rw[h,h'];simp;grind
def Lq{a b:Rat}{n:Nat}(hn:n%2=1)(h:a<=b):my a n<=my b n:=by
 by_cases h0:0<=a
 .exact Eb h0 h n
 .have ea:=Aw (-a) n;rw[eG,hn]at ea;simp only[gE,bq]at ea;by_cases hb:0<=b
  .have h1:=Az (show 0 <= -a by grind) n;have h2:=Az hb n
   grind
  .have eb:=Aw (-b) n;rw[eG,hn]at eb;simp only[gE,bq]at eb;have:=Eb (show 0 <= -b by grind) (show -b <= -a by grind) n
   grind
def K2{d:Dy}(hd:d.mf)(h0:0<=d.q){p:Nat}(hp:1<=p)(gY:p<=4096):∀ k,(iU d p false k).2=0->0<=(iU d p false k).1.q/\(iU d p false k).1.q<=my d.q (k+1)
 | 0,he=>by
  have A:=tV hd hp gY;refine⟨(A.2 0 (.inl (wo p)) h0).2,?_⟩;have:=(A.1 he).2;simp only[my,eH];exact this
 |k+1,he=>by
  by_cases hk:(iU d p false k).2≠0
  .exfalso;simp only[iU,aZ hk]at he;exact hk he
  .have pI:(iU d p false k).2=0:= aC ;obtain⟨i1,i2⟩:=K2 hd h0 hp gY k pI;have A:=tV (xL (iU d p false k).1 d) hp gY;rw[BW]at A;simp only[iU,aY hk]at he ⊢;refine⟨(A.2 0 (.inl (wo p)) (bQ i1 h0)).2,?_⟩;have h1:=(A.1 he).2;have h2:=cg i2 h0;exact bF h1 h2
def K4{d:Dy}(hd:d.mf)(h0:0<=d.q){p:Nat}(hp:1<=p)(gY:p<=4096):∀ k,(iU d p true k).2=0->my d.q (k+1)<=(iU d p true k).1.q
 | 0,he=>by
  have A:=tW hd hp gY;have:=(A.1 he).2;simp only[my,eH];exact this
 |k+1,he=>by
  by_cases hk:(iU d p true k).2≠0
  .exfalso;simp only[iU,aZ hk]at he;exact hk he
  .have pI:(iU d p true k).2=0:= aC ;have i2:=K4 hd h0 hp gY k pI;have A:=tW (xL (iU d p true k).1 d) hp gY;rw[BW]at A;simp only[iU,aY hk]at he ⊢;have h1:=(A.1 he).2;have h2:=cg i2 h0;exact bF h2 h1
def XD{d:Dy}(hd:d.mf){n p:Nat}(hn:1<=n)(hs:0<=d.q\/n%2=1)(hp:1<=p)(gY:p<=4096)(he:(ks d n p false).2=0):(ks d n p false).1.q<=my d.q n:=by
 unfold ks at he ⊢;by_cases h:d.iJ<0
 .rw [aZ h]at he ⊢;have hq:=(rm d).2.1 h;have yj:=hs.resolve_left aK;have:=K4 (Gk hd) (by rw[px];grind) hp gY (n-1) he;rw[(aC:n-1+1=n),px,Aw,yj]at this;simp only[gE,bq]at this;show(jv _).q<=_;rw[px];simp only[eu]
  grind
 .rw [aY h]at he ⊢;have h0:0<=d.q:=by
   apply df.1;intro iA;exact h ((rm d).2.2 iA)
  have:=(K2 hd h0 hp gY (n-1) he).2;rwa[(aC:n-1+1=n)]at this
def XE{d:Dy}(hd:d.mf){n p:Nat}(hn:1<=n)(hs:0<=d.q\/n%2=1)(hp:1<=p)(gY:p<=4096)(he:(ks d n p true).2=0):my d.q n<=(ks d n p true).1.q:=by
 unfold ks at he ⊢;by_cases h:d.iJ<0
 .rw [aZ h]at he ⊢;have hq:=(rm d).2.1 h;have yj:=hs.resolve_left aK;have:=(K2 (Gk hd) (by rw[px];grind) hp gY (n-1) he).2;rw[(aC:n-1+1=n),px,Aw,yj]at this;simp only[gE,bq]at this;show _<=(jv _).q;rw[px];simp only[eN]
  grind
 .rw [aY h]at he ⊢;have h0:0<=d.q:=by
   apply df.1;intro iA;exact h ((rm d).2.2 iA)
  have:=K4 hd h0 hp gY (n-1) he;rwa[(aC:n-1+1=n)]at this
def adl{x:Iv}(hx:x.gX){n p:Nat}(hp:1<=p)(gY:p<=4096){r:Rat}(h:x.je r):(oN x n p).je (my r n):=by
 unfold oN;cases xa:x.all
 .simp only[bA,bq];by_cases hn:n=0
  .rw [aZ hn];subst hn;have e:(⟨false,1,0⟩:Dy).q=1:= aL ;refine .inr ⟨?_,?_⟩
   .show (⟨false,1,0⟩:Dy).q<=1;rw[e];exact bV
   .show 1<=(⟨false,1,0⟩:Dy).q;rw[e];exact bV
  .rw [aY hn];obtain⟨s,hs,tv,hsn⟩:∃ s,(rV x n).je s/\(n%2=0->0<=(rV x n).lo.q/\0<=s)/\my r n=my s n:=by
    unfold rV;by_cases oX:n%2=0
    .rw [aZ oX];have hl:0<=(jx x).lo.q:=by
      unfold jx;rw[xa];show 0<=(nj x).q;unfold nj;split
      .rw [tR];exact bV
      .obtain ⟨_,_,m⟩:=Ar (lg x.lo) (lg x.hi);rcases m with m|m<;>rw[m]
       .exact (xq x.lo).1
       .exact (xq x.hi).1
     by_cases hr:0<=r
     .exact ⟨r,EI hx h (.inl ⟨rfl,hr⟩),λ_=>⟨hl,hr⟩,rfl⟩
     .refine ⟨-r,EI hx h (.inr ⟨rfl,aK⟩),λ_=>⟨hl,aK⟩,?_⟩;rw[Aw,aZ oX]
    .rw [aY oX];exact⟨r,h,λq=>absurd q oX,rfl⟩
   have hyv:(rV x n).gX:=by unfold rV;split;exact EJ hx;exact hx
   have ya:(rV x n).all=false:=by
    unfold rV;split
    .unfold jx;rw[xa];rfl
    .exact xa
   rw[hsn];generalize rV x n=y at *
   obtain⟨s1,s2⟩:=hs.jC ya;obtain⟨c1,c2⟩:=hyv.xN;unfold kI;split
   .exact .inl rfl
   .rename_i he;have yj:¬n%2=0->n%2=1:=λq=> aC 
    refine .inr ⟨?_,?_⟩
    .refine bF (XD c1 aC ?_ hp gY aC) ?_
     .by_cases oX:n%2=0
      .exact .inl (tv oX).1
      .exact .inr (yj oX)
     .by_cases oX:n%2=0
      .exact Eb (tv oX).1 s1 n
      .exact Lq (yj oX) s1
    .refine bF ?_ (XE c2 aC ?_ hp gY aC)
     .by_cases oX:n%2=0
      .exact Eb (tv oX).2 s2 n
      .exact Lq (yj oX) s2
     .by_cases oX:n%2=0
      .exact .inl (bF (tv oX).2 s2)
      .exact .inr (yj oX)
 .rw [aZ rfl];exact .inl rfl
end Go.Proofs.YtkjkcjhacddojaaGreatDoor.Fp
namespace Go.Proofs.YtkjkcjhacddojaaGreatDoor
open Go.RowKit Fp Pu
structure iM where
 kind:Nat
 a:Nat
 b:Nat
 n:Nat
 cn:Int
 cd:Int
structure jI where
 iq:Nat
 ops:List iM
 iC:List Nat
structure lY where
 tape:jI
 jy:Nat
 params:List Iv
def iw:iM:=⟨0,0,0,0,0,0⟩
def xo(o:iM):List E:=[iP (o.kind:Int),iP (o.a:Int),iP (o.b:Int),iP (o.n:Int),iP o.cn,iP o.cd]
def oM(o:iM):E:=.agg (xo o)
def kB(l:List iM):E:=.sl true l.length 6 λi j=>(xo (l.getD i iw)).getD j .any
def kJ(l:List Nat):E:=.sl true l.length 1 λi _=>iP (l.getD i 0:Int)
def afJ(t:jI):List E:=[iP (t.iq:Int),kB t.ops,kJ t.iC]
def kn(t:jI):E:=.agg (afJ t)
def afv(s:lY):List E:=[iP (s.tape.iq:Int),kB s.tape.ops,kJ s.tape.iC,iP (s.jy:Int),im s.params]
def kX(s:lY):E:=.agg (afv s)
def oO(n d:Int):Bool:=decide (1<=d)&&(decide (d<=1073741824)&&(decide (-1073741824<=n)&&(decide (n<=1073741824)&&decide (Nat.gcd n.natAbs d.natAbs=1))))
def Gz{n d:Int}(h:oO n d=true):1<=d/\d<=1073741824 /\ -1073741824<=n/\n<=1073741824:=by
 unfold oO at h;simp only[bS,cI]at h;exact⟨h.1,h.2.1,h.2.2.1,h.2.2.2.1⟩
structure ng(o:iM)(m:Nat):Prop where
 k3:o.kind=1\/3<=o.kind
 Af:o.kind<=13
 a:if o.kind=1 then o.a=0 else o.a<m
 b:if 3<=o.kind/\o.kind<=6 then o.b<m else o.b=0
 n:if o.kind=8 then o.n<=16 else o.n=0
 c:if o.kind=1 then oO o.cn o.cd=true else o.cn=0/\o.cd=0
structure wC(t:jI):Prop where
 iq:t.iq<=8
 ops:t.ops.length<=200
 iC:t.iC.length<=200
 op:∀ i,i<t.ops.length->ng (t.ops.getD i iw) (t.iq+i)
 out:∀ i,i<t.iC.length->t.iC.getD i 0<t.iq+t.ops.length
def uf(l:List Iv):Prop:=∀ i,i<l.length->(l.getD i ie).gX/\(l.getD i ie).all=false
structure mR(s:lY):Prop where
 tape:wC s.tape
 s1:1<=s.jy
 s4:s.jy<=4
 iC:s.tape.iC.length=s.jy
 iq:s.tape.iq=s.jy+s.params.length
 p4:s.params.length<=4
 params:uf s.params
structure nJ(n:Nat)(b:List Iv):Prop where
 len:b.length=n
 ok:uf b
def pS(l:List Iv):Bool:=(List.range l.length).any λi=>(l.getD i ie).all
def rW(d:Dy){p:Nat}(hp:1<=p)(gY:p<=4096)(up:Bool):(jk d p up).gX:=q6 _ _ _ _ _ _ hp gY
def xp(d:Dy){p:Nat}(hp:1<=p)(gY:p<=4096)(up:Bool):∀ k,(iU d p up k).1.gX
 | 0=>rW _ hp gY _
 |k+1=>by
  unfold iU;split
  .exact xp d hp gY up k
  .exact rW _ hp gY _
def NY(d:Dy)(n:Nat){p:Nat}(hp:1<=p)(gY:p<=4096)(up:Bool):(ks d n p up).1.gX:=by
 unfold ks;split
 .exact yG (xp _ hp gY _ _)
 .exact xp _ hp gY _ _
def RS:canon false 1 0=⟨false,1,0⟩:=by
 have h1:(canon false 1 0).neg=false:= aL ;have h2:(canon false 1 0).m=1:= aL ;have h3:(canon false 1 0).e=0:= aL ;generalize canon false 1 0=d at *
 cases d;simp_all
def DW:(⟨false,1,0⟩:Dy).gX:=by
 have h2:mN (canon false 1 0):= aL ;rw[<-RS];exact⟨sf _ _ _,h2⟩
def Sa{x:Iv}(hx:x.gX)(n:Nat){p:Nat}(hp:1<=p)(gY:p<=4096):(oN x n p).gX:=by
 have hh:=adl hx (n:=n) hp gY hx.wQ;revert hh;unfold oN;split
 .intro _;exact kS
 .split
  .intro _;exact rk DW
  .unfold kI;split
   .intro _;exact kS
   .intro hh;obtain⟨h1,h2⟩:=hh.jC rfl;exact .inr ⟨rfl,NY _ _ hp gY _,NY _ _ hp gY _,(o9 _ _).2 (bF h1 h2)⟩
def oV(l:List Iv):Prop:=∀ i,(l.getD i ie).gX
def oV.push{l:List Iv}(h:oV l){y:Iv}(hy:y.gX):oV (l++[y]):=λi=>by
 rw[bc,fp];split
 .have:=h i;rwa[bc]at this
 .rcases i-l.length with _|j
  .exact hy
  .exact kS
def uf.TY{l:List Iv}(h:uf l):oV l:=λi=>by
 by_cases hi:i<l.length
 .exact (h i hi).1
 .rw [bc,ct aC];exact kS
def oV.append{l r:List Iv}(h:oV l)(k:oV r):oV (l++r):=λi=>by
 rw[bc,fp];split
 .have:=h i;rwa[bc]at this
 .have:=k (i-l.length);rwa[bc]at this
def Z4{l:List Iv}(h:pS l=false)(v:oV l):uf l:=λi hi=>⟨v i,by simpa using List.any_eq_false.1 h i (cz.2 hi)⟩
def By(x y:Iv):Iv:=if x.all||y.all then ie else⟨iT x.lo y.lo,iQ x.hi y.hi,false⟩
def r6(x:Iv)(p:Nat):Dy:=jk (iN x.hi (jv x.lo)) p true
def y5(x:Iv)(p:Nat):Int:=jf (iN x.hi (jv x.lo)) p true
def aaw{x y:Iv}(hx:x.gX)(hy:y.gX):(By x y).gX:=by
 unfold By;cases xa:x.all
 .cases ya:y.all
  .obtain ⟨x1,x2⟩:x.lo.gX/\x.hi.gX:=hx.jC;obtain⟨y1,y2⟩:y.lo.gX/\y.hi.gX:=hy.jC;refine .inr ⟨rfl,uT x1 y1,rN x2 y2,?_⟩;rw[o9];have hq:=hx.q;obtain⟨a1,a2,_⟩:=Ar x.lo y.lo;obtain⟨b1,b2,_⟩:=D4 x.hi y.hi
   grind
  .exact kS
 .exact kS
def MD(d:Dy)(n p:Nat)(x:Nat):PS:=⟨41,true,[(14,.e (iP ((x+1:Nat):Int))),(13,.e (iP ((iU d p false x).2))),(12,.box 12 0),(10,.box 10 0),(5,.box 5 0),(1,.e (iP n)),(2,.e (iP p)),(4,.e (.fn 189 []))],[(12,.cells 39 (jA ((iU d p false x).1))),(10,.cells 39 ar),(5,.cells 39 (jA d))]⟩
def ME(d:Dy)(n N p:Nat)(x:Nat):PS:=⟨41,true,[(14,.e (iP ((x+1:Nat):Int))),(13,.e (iP ((iU d p false x).2))),(12,.box 12 0),(10,.box 10 0),(5,.box 5 0),(1,.e (iP n)),(2,.e (iP p)),(4,.e (.fn 189 []))],[(12,.cells 39 (jA ((iU d p false x).1))),(10,.cells 39 ar),(5,.cells 39 (jA d))]⟩
def MF(d:Dy)(n p:Nat)(x:Nat):PS:=⟨41,true,[(14,.e (iP ((x+1:Nat):Int))),(13,.e (iP ((iU d p true x).2))),(12,.box 12 0),(10,.box 10 0),(5,.box 5 0),(1,.e (iP n)),(2,.e (iP p)),(4,.e (.fn 190 []))],[(12,.cells 39 (jA ((iU d p true x).1))),(10,.cells 39 ar),(5,.cells 39 (jA d))]⟩
def MG(d:Dy)(n N p:Nat)(x:Nat):PS:=⟨41,true,[(14,.e (iP ((x+1:Nat):Int))),(13,.e (iP ((iU d p true x).2))),(12,.box 12 0),(10,.box 10 0),(5,.box 5 0),(1,.e (iP n)),(2,.e (iP p)),(4,.e (.fn 190 []))],[(12,.cells 39 (jA ((iU d p true x).1))),(10,.cells 39 ar),(5,.cells 39 (jA d))]⟩
def UK(s:Bool)(m:Nat)(e:Int)(hl:(gV m).length<=256)(lh:-1000000<=e)(kx:e<=1000000):gU 255 [bP s,gW (gV m),iP e] (gZ (canon s m e)):=by
 refine⟨call255,λw B vs hK hB hr=>?_⟩;obtain⟨v1,vs,rfl,h1,hr⟩:=hr.lp;obtain⟨v2,vs,rfl,h2,hr⟩:=hr.lp;obtain⟨v3,vs,rfl,h3,hr⟩:=hr.lp;obtain rfl:=hr.o0;obtain rfl:=iB.jX h1;obtain rfl:=iB.jX h3;obtain⟨A,c,rfl,s1⟩:=uZ (kZ m) h2;exact(M1 s m e A c w s1 hl lh kx hK).mono λe w' h=>rd B w e w' hB h
def UL(d:Dy)(hl:(gV d.m).length<=100000000)(lh:-10000000<=d.e)(kx:d.e<=10000000):gU 254 [gZ d] (.ik [gZ (s5 d),iP (s6 d)]):=
 wb call254 (λA c w h _=>Wt d A c w h aC aC aC) La
def US(k:Int)(h1:-32768<=k)(h2:k<=32768):gU 253 [iP k] (bP true):=
 ak call253 func253 (af [tT 4 ((-32768)<=k) aC,tT 7 (k<=32768) aC]) 
def MH(d:Dy)(k:Int)(hv:d.gX)(h1:-32768<=k)(h2:k<=32768):gU 179 [gZ d,iP k] (.ik [gZ (s5 (canon d.neg d.m (d.e+k))),iP (s6 (canon d.neg d.m (d.e+k)))]):=by
 have hl:=hv.gV;have he:=hv.exp;have jW:=M0 (kZ d.m) hl d.neg (d.e+k);obtain⟨mh,pT⟩:=MZ (kZ d.m) hl d.neg (d.e+k) aC aC;rw[jM]at jW mh pT;exact ak call179 func179 (af [ag [gZ d] (uo _ aD),.c (US k aC aC),iu (d.e+k) aC,ag [bP d.neg,gW (gV d.m),iP (d.e+k)] (UK _ _ _ aC aC aC),ag [gZ (canon d.neg d.m (d.e+k))] (UL _ aC aC aC)]) 
def Ie(n:Nat)(h:n<4294967296):gU 180 [iP n] (gZ (iK (n:Int))):=by
 have ok2:iD [n%4294967296,n/4294967296%4294967296]:=iD.cons (bC _ aE) (iD.cons (bC _ aE) iD.nil);exact ak call180 func180 (ae [.o 5 (.int (qK _ aC):aj (.v (.int .u64 (IntKind.u64.wrap (n:Int)))) (.v (.int .u64 (n:Int)))),tF 7 ((n:Int)<0) aC,tF 11 ((n:Int)<0) aC,.o 13 (.int (Cg _):aj (.v (.int .u32 (IntKind.u32.wrap (n:Int)))) (.v (.int .u32 ((n%4294967296:Nat):Int)))),.a (aC:0<=(32:Int)/\(32:Int)<=((64:Nat):Int)),.o 15 (.int (S3 _):aj (.v (.int .u64 ((n:Int)/2^32))) (.v (.int .u64 ((n/4294967296:Nat):Int)))),.o 16 (.int (Cg _):aj (.v (.int .u32 (IntKind.u32.wrap ((n/4294967296:Nat):Int)))) (.v (.int .u32 (((n/4294967296)%4294967296:Nat):Int)))),.o 17 (.e (afW _ _):aj (.sl false 2 1 λi_ j_=>[.v (.int .u32 ((n%4294967296:Nat):Int)),.v (.int .u32 (((n/4294967296)%4294967296:Nat):Int))].getD (i_*1+j_) (.v (.bool false))) (gW [n%4294967296,(n/4294967296)%4294967296])),ag [bP false,gW [n%4294967296,(n/4294967296)%4294967296],iP 0] (Xl _ _ _ ok2 aH aE aE)]<|rQ (gZ (canon false (val [n%4294967296,(n/4294967296)%4294967296]) 0)) (gZ (iK (n:Int))) (by rw[agj,(aC:n%4294967296+4294967296*(n/4294967296%4294967296)=n),Aa])) 
def aaJ:iK 1=⟨false,1,0⟩:=by rw[show(1:Int)=((1:Nat):Int)from rfl,Aa];exact RS
def Ic:gU 180 [iP 1] (gZ ⟨false,1,0⟩):=by
 have:=Ie 1 aE;rwa[show((1:Nat):Int)=1 from rfl,aaJ]at this
def ES(d:Dy)(p:Nat)(hd:d.gX)(ig:8<=p)(gY:p<=512):gU 383 [gZ d,iP p] (.ik [gZ (jk d p false),iP (jf d p false)]):=
 ak call383 func383 (af [.c (GC d p false aD aC aC)]) 
def ET(d:Dy)(p:Nat)(hd:d.gX)(ig:8<=p)(gY:p<=512):gU 382 [gZ d,iP p] (.ik [gZ (jk d p true),iP (jf d p true)]):=
 ak call382 func382 (af [.c (GC d p true aD aC aC)]) 
def K3(d:Dy)(p:Nat)(up:Bool)(N:Nat)(h:(iU d p up N).2≠0):∀ k,iU d p up (N+k)=iU d p up N
 | 0=>rfl
 |k+1=>by
  have ih:=K3 d p up N h k;show(if(iU d p up (N+k)).2≠0 then iU d p up (N+k)else _)=_;rw[ih,aZ h]
def yL{d:Dy}{p:Nat}{up:Bool}{k:Nat}(h:(iU d p up k).2=0):iU d p up (k+1)=(jk (lI (iU d p up k).1 d) p up,jf (lI (iU d p up k).1 d) p up):=by
 show(if(iU d p up k).2≠0 then _ else _)=_;rw[aY (ahl h)];rfl
def U8(d:Dy)(n p:Nat)(hd:d.gX)(hn:1<=n)(kz:n<=16)(ig:8<=p)(gY:p<=512)(jK:∀ x,x<n-1->(iU d p false x).2=0):gU 381 [gZ d,iP n,iP p,.fn 383 [],.fn 189 []] (.ik [gZ (iU d p false (n-1)).1,iP (iU d p false (n-1)).2]):=
 ak call381 func381 (af [.c (ES d p aD aC aC),.s (Sp.kY (MD d n p) 0 (n-1) aC (λx hx mZ=>by
    have ny:=jK x aC;have hv:=xp d (aC:1<=p) (aC:p<=4096) false x;exact jg (ae [tT 24 (((x+1:Nat):Int)<n) aC,ah 27 (((iU d p false x).2)==0) (by rw[ny];rfl),.c (GA ((iU d p false x).1) d p aD aD aC aC),
     iu (((x+1:Nat):Int)+1) aC]<|.e (af [.o 13 (aq (jf (lI ((iU d p false x).1) d) p false) ((iU d p false (x+1)).2) (by rw[yL ny])),.b 12 (.iH (by rw[yL ny]):Bx.le (.cells 39 (jA (jk (lI ((iU d p false x).1) d) p false))) (.cells 39 (jA ((iU d p false (x+1)).1))))])) aF)
  (λhx=>by
    exact jg (af [tF 24 ((((n-1)+1:Nat):Int)<n) aC]) aF) aI:kU 3 f381 (MD d n p 0) (.exit 0) ⟨41,true,[(13,.e (iP ((iU d p false (n-1)).2))),(12,.box 12 0),(10,.box 10 0)],[(12,.cells 39 (jA ((iU d p false (n-1)).1))),(10,.cells 39 ar)]⟩) (af [.o 14 (aq 1 ((0+1:Nat):Int) rfl),.o 13 (aq (jf d p false) ((iU d p false 0).2) rfl),.b 12 (.iH rfl:Bx.le (.cells 39 (jA (jk d p false))) (.cells 39 (jA ((iU d p false 0).1))))])]) 
def U9(d:Dy)(n N p:Nat)(hd:d.gX)(hn:1<=n)(kz:n<=16)(ig:8<=p)(gY:p<=512)(oF:N<n-1)(jK:∀ x,x<N->(iU d p false x).2=0)(hN:(iU d p false N).2≠0):gU 381 [gZ d,iP n,iP p,.fn 383 [],.fn 189 []] (.ik [gZ (iU d p false N).1,iP (iU d p false N).2]):=
 ak call381 func381 (af [.c (ES d p aD aC aC),.s (Sp.kY (ME d n N p) 0 N aC (λx hx mZ=>by
    have ny:=jK x aC;have hv:=xp d (aC:1<=p) (aC:p<=4096) false x;exact jg (ae [tT 24 (((x+1:Nat):Int)<n) aC,ah 27 (((iU d p false x).2)==0) (by rw[ny];rfl),.c (GA ((iU d p false x).1) d p aD aD aC aC),
     iu (((x+1:Nat):Int)+1) aC]<|.e (af [.o 13 (aq (jf (lI ((iU d p false x).1) d) p false) ((iU d p false (x+1)).2) (by rw[yL ny])),.b 12 (.iH (by rw[yL ny]):Bx.le (.cells 39 (jA (jk (lI ((iU d p false x).1) d) p false))) (.cells 39 (jA ((iU d p false (x+1)).1))))])) aF)
  (λhx=>by
    exact jg (af [tT 24 (((N+1:Nat):Int)<n) aC,ai 27 (((iU d p false N).2)==0) (by simpa using hN)]) aF) aI:kU 3 f381 (ME d n N p 0) (.exit 0) ⟨41,true,[(13,.e (iP ((iU d p false N).2))),(12,.box 12 0),(10,.box 10 0)],[(12,.cells 39 (jA ((iU d p false N).1))),(10,.cells 39 ar)]⟩) (af [.o 14 (aq 1 ((0+1:Nat):Int) rfl),.o 13 (aq (jf d p false) ((iU d p false 0).2) rfl),.b 12 (.iH rfl:Bx.le (.cells 39 (jA (jk d p false))) (.cells 39 (jA ((iU d p false 0).1))))])]) 
def Va(d:Dy)(n p:Nat)(hd:d.gX)(hn:1<=n)(kz:n<=16)(ig:8<=p)(gY:p<=512):gU 381 [gZ d,iP n,iP p,.fn 383 [],.fn 189 []] (.ik [gZ (iU d p false (n-1)).1,iP (iU d p false (n-1)).2]):=by
 by_cases h:∃ x,x<n-1/\decide ((iU d p false x).2≠0)=true
 .obtain ⟨N,h1,h2,h3⟩:=vU h;have hN:(iU d p false N).2≠0:=cQ h2;have:=U9 d n N p hd hn kz ig gY h1 (λx hx=>by simpa using h3 x hx) hN;have e:=K3 d p false N hN (n-1-N);rw[(aC:N+(n-1-N)=n-1)]at e;rw[e];exact this
 .exact U8 d n p hd hn kz ig gY λx hx=>bN λq=>h ⟨x,hx,bh q⟩
def Vb(d:Dy)(n p:Nat)(hd:d.gX)(hn:1<=n)(kz:n<=16)(ig:8<=p)(gY:p<=512)(jK:∀ x,x<n-1->(iU d p true x).2=0):gU 381 [gZ d,iP n,iP p,.fn 382 [],.fn 190 []] (.ik [gZ (iU d p true (n-1)).1,iP (iU d p true (n-1)).2]):=
 ak call381 func381 (af [.c (ET d p aD aC aC),.s (Sp.kY (MF d n p) 0 (n-1) aC (λx hx mZ=>by
    have ny:=jK x aC;have hv:=xp d (aC:1<=p) (aC:p<=4096) true x;exact jg (ae [tT 24 (((x+1:Nat):Int)<n) aC,ah 27 (((iU d p true x).2)==0) (by rw[ny];rfl),.c (GB ((iU d p true x).1) d p aD aD aC aC),
     iu (((x+1:Nat):Int)+1) aC]<|.e (af [.o 13 (aq (jf (lI ((iU d p true x).1) d) p true) ((iU d p true (x+1)).2) (by rw[yL ny])),.b 12 (.iH (by rw[yL ny]):Bx.le (.cells 39 (jA (jk (lI ((iU d p true x).1) d) p true))) (.cells 39 (jA ((iU d p true (x+1)).1))))])) aF)
  (λhx=>by
    exact jg (af [tF 24 ((((n-1)+1:Nat):Int)<n) aC]) aF) aI:kU 3 f381 (MF d n p 0) (.exit 0) ⟨41,true,[(13,.e (iP ((iU d p true (n-1)).2))),(12,.box 12 0),(10,.box 10 0)],[(12,.cells 39 (jA ((iU d p true (n-1)).1))),(10,.cells 39 ar)]⟩) (af [.o 14 (aq 1 ((0+1:Nat):Int) rfl),.o 13 (aq (jf d p true) ((iU d p true 0).2) rfl),.b 12 (.iH rfl:Bx.le (.cells 39 (jA (jk d p true))) (.cells 39 (jA ((iU d p true 0).1))))])]) 
def Vc(d:Dy)(n N p:Nat)(hd:d.gX)(hn:1<=n)(kz:n<=16)(ig:8<=p)(gY:p<=512)(oF:N<n-1)(jK:∀ x,x<N->(iU d p true x).2=0)(hN:(iU d p true N).2≠0):gU 381 [gZ d,iP n,iP p,.fn 382 [],.fn 190 []] (.ik [gZ (iU d p true N).1,iP (iU d p true N).2]):=
 ak call381 func381 (af [.c (ET d p aD aC aC),.s (Sp.kY (MG d n N p) 0 N aC (λx hx mZ=>by
    have ny:=jK x aC;have hv:=xp d (aC:1<=p) (aC:p<=4096) true x;exact jg (ae [tT 24 (((x+1:Nat):Int)<n) aC,ah 27 (((iU d p true x).2)==0) (by rw[ny];rfl),.c (GB ((iU d p true x).1) d p aD aD aC aC),
     iu (((x+1:Nat):Int)+1) aC]<|.e (af [.o 13 (aq (jf (lI ((iU d p true x).1) d) p true) ((iU d p true (x+1)).2) (by rw[yL ny])),.b 12 (.iH (by rw[yL ny]):Bx.le (.cells 39 (jA (jk (lI ((iU d p true x).1) d) p true))) (.cells 39 (jA ((iU d p true (x+1)).1))))])) aF)
  (λhx=>by
    exact jg (af [tT 24 (((N+1:Nat):Int)<n) aC,ai 27 (((iU d p true N).2)==0) (by simpa using hN)]) aF) aI:kU 3 f381 (MG d n N p 0) (.exit 0) ⟨41,true,[(13,.e (iP ((iU d p true N).2))),(12,.box 12 0),(10,.box 10 0)],[(12,.cells 39 (jA ((iU d p true N).1))),(10,.cells 39 ar)]⟩) (af [.o 14 (aq 1 ((0+1:Nat):Int) rfl),.o 13 (aq (jf d p true) ((iU d p true 0).2) rfl),.b 12 (.iH rfl:Bx.le (.cells 39 (jA (jk d p true))) (.cells 39 (jA ((iU d p true 0).1))))])]) 
def Vd(d:Dy)(n p:Nat)(hd:d.gX)(hn:1<=n)(kz:n<=16)(ig:8<=p)(gY:p<=512):gU 381 [gZ d,iP n,iP p,.fn 382 [],.fn 190 []] (.ik [gZ (iU d p true (n-1)).1,iP (iU d p true (n-1)).2]):=by
 by_cases h:∃ x,x<n-1/\decide ((iU d p true x).2≠0)=true
 .obtain ⟨N,h1,h2,h3⟩:=vU h;have hN:(iU d p true N).2≠0:=cQ h2;have:=Vc d n N p hd hn kz ig gY h1 (λx hx=>by simpa using h3 x hx) hN;have e:=K3 d p true N hN (n-1-N);rw[(aC:N+(n-1-N)=n-1)]at e;rw[e];exact this
 .exact Vb d n p hd hn kz ig gY λx hx=>bN λq=>h ⟨x,hx,bh q⟩
def Mw(d:Dy)(n p:Nat)(hd:d.gX)(h0:¬d.iJ<0)(hn:1<=n)(kz:n<=16)(ig:8<=p)(gY:p<=512):gU 363 [gZ d,iP n,iP p,bP false] (.ik [gZ (ks d n p false).1,iP (ks d n p false).2]):=
 ak call363 func363 (ae [ag [gZ d] (nE _ aD),tB 14 (bg h0),.c (Va d n p aD aC aC aC aC)]<|rQ (.ik [gZ ((iU d p false (n-1)).1),iP ((iU d p false (n-1)).2)]) (.ik [gZ (ks d n p false).1,iP (ks d n p false).2]) (by unfold ks;rw[aY h0])) 
def Mx(d:Dy)(n p:Nat)(hd:d.gX)(h0:¬d.iJ<0)(hn:1<=n)(kz:n<=16)(ig:8<=p)(gY:p<=512):gU 363 [gZ d,iP n,iP p,bP true] (.ik [gZ (ks d n p true).1,iP (ks d n p true).2]):=
 ak call363 func363 (ae [ag [gZ d] (nE _ aD),tB 14 (bg h0),.c (Vd d n p aD aC aC aC aC)]<|rQ (.ik [gZ ((iU d p true (n-1)).1),iP ((iU d p true (n-1)).2)]) (.ik [gZ (ks d n p true).1,iP (ks d n p true).2]) (by unfold ks;rw[aY h0])) 
def S5{d:Dy}(h:d.iJ<0):¬(jv d).iJ<0:=by
 rw[(rm _).2,px];have:=(rm d).2.1 h
 grind
def UP(d:Dy)(n p:Nat)(hd:d.gX)(h0:¬d.iJ<0)(hn:1<=n)(kz:n<=16)(ig:8<=p)(gY:p<=512):gU 363 [gZ d,iP (n:Int),iP (p:Int),bP false] (.ik [gZ (iU d p false (n-1)).1,iP (iU d p false (n-1)).2]):=by
 have:=Mw d n p hd h0 hn kz ig gY;unfold ks at this;rwa[aY h0]at this
def UQ(d:Dy)(n p:Nat)(hd:d.gX)(h0:¬d.iJ<0)(hn:1<=n)(kz:n<=16)(ig:8<=p)(gY:p<=512):gU 363 [gZ d,iP (n:Int),iP (p:Int),bP true] (.ik [gZ (iU d p true (n-1)).1,iP (iU d p true (n-1)).2]):=by
 have:=Mx d n p hd h0 hn kz ig gY;unfold ks at this;rwa[aY h0]at this
def UN(d:Dy)(n p:Nat)(hd:d.gX)(h0:d.iJ<0)(hn:1<=n)(kz:n<=16)(ig:8<=p)(gY:p<=512):gU 363 [gZ d,iP n,iP p,bP false] (.ik [gZ (ks d n p false).1,iP (ks d n p false).2]):=by
 have C4:=yG hd;have h1:=S5 h0;have hv:=xp (jv d) (aC:1<=p) (aC:p<=4096) true (n-1);exact ak call363 func363 (ae [ag [gZ d] (nE _ aD),tB 14 (bh h0),ag [gZ d] (vu _ aD),ag [gZ (jv d),iP n,iP p,bP true] (UQ _ _ _ C4 h1 hn kz ig gY),ag [gZ ((iU (jv d) p true (n-1)).1)] (vu _ aD)]<|rQ (.ik [gZ (jv ((iU (jv d) p true (n-1)).1)),iP ((iU (jv d) p true (n-1)).2)]) (.ik [gZ (ks d n p false).1,iP (ks d n p false).2]) (by unfold ks;rw[aZ h0];rfl)) 
def My(d:Dy)(n p:Nat)(hd:d.gX)(hn:1<=n)(kz:n<=16)(ig:8<=p)(gY:p<=512):gU 363 [gZ d,iP (n:Int),iP (p:Int),bP false] (.ik [gZ (ks d n p false).1,iP (ks d n p false).2]):=by
 by_cases h0:d.iJ<0
 .exact UN d n p hd h0 hn kz ig gY
 .exact Mw d n p hd h0 hn kz ig gY
def UO(d:Dy)(n p:Nat)(hd:d.gX)(h0:d.iJ<0)(hn:1<=n)(kz:n<=16)(ig:8<=p)(gY:p<=512):gU 363 [gZ d,iP n,iP p,bP true] (.ik [gZ (ks d n p true).1,iP (ks d n p true).2]):=by
 have C4:=yG hd;have h1:=S5 h0;have hv:=xp (jv d) (aC:1<=p) (aC:p<=4096) false (n-1);exact ak call363 func363 (ae [ag [gZ d] (nE _ aD),tB 14 (bh h0),ag [gZ d] (vu _ aD),ag [gZ (jv d),iP n,iP p,bP false] (UP _ _ _ C4 h1 hn kz ig gY),ag [gZ ((iU (jv d) p false (n-1)).1)] (vu _ aD)]<|rQ (.ik [gZ (jv ((iU (jv d) p false (n-1)).1)),iP ((iU (jv d) p false (n-1)).2)]) (.ik [gZ (ks d n p true).1,iP (ks d n p true).2]) (by unfold ks;rw[aZ h0];rfl)) 
def Mz(d:Dy)(n p:Nat)(hd:d.gX)(hn:1<=n)(kz:n<=16)(ig:8<=p)(gY:p<=512):gU 363 [gZ d,iP (n:Int),iP (p:Int),bP true] (.ik [gZ (ks d n p true).1,iP (ks d n p true).2]):=by
 by_cases h0:d.iJ<0
 .exact UO d n p hd h0 hn kz ig gY
 .exact Mx d n p hd h0 hn kz ig gY
def Ve(x:Iv)(n p:Nat)(hx:x.gX)(ha:x.all=true)(hn:n<=16)(ig:8<=p)(gY:p<=512):gU 326 [ia x,iP n,iP p] (ia (oN x n p)):=
 ak call326 func326 (ae [.o 12 (.e (lZ _):aj (.sl true 1 7 λi_ j_=>(iG x).getD (i_*7+j_) (.v (.bool false))) (im [x])),ag [im [x]] (oz _ aD),ai 13 (!x.all) (by rw[ha];rfl),.c mq]<|rQ (ia ie) (ia (oN x n p)) (by unfold oN;rw[aZ ha])) 
def Vh(x:Iv)(n p:Nat)(hx:x.gX)(ha:x.all=false)(h0:n=0)(ig:8<=p)(gY:p<=512):gU 326 [ia x,iP n,iP p] (ia (oN x n p)):=by
 have v1:=DW;exact ak call326 func326 (ae [.o 12 (.e (lZ _):aj (.sl true 1 7 λi_ j_=>(iG x).getD (i_*7+j_) (.v (.bool false))) (im [x])),ag [im [x]] (oz _ aD),ah 13 (!x.all) (by rw[ha];rfl),ag [iP p] (tD _),ah 17 (lJ (p:Int)) (qp.2 ⟨aC,aC⟩),tF 22 ((n:Int)<0) aC,tF 26 (16<(n:Int)) aC,ah 30 ((n:Int)==0) (rP h0),ag [iP 1] Ic,.c (Ae (Dy.mk false 1 0) aD)]<|rQ (ia (kK (Dy.mk false 1 0))) (ia (oN x n p)) (by unfold oN;rw[aY (by rw[ha];decide),aZ h0])) 
def Vf(x:Iv)(n p:Nat)(hx:x.gX)(ha:x.all=false)(h0:n≠0)(hn:n<=16)(he:n%2=0)(ig:8<=p)(gY:p<=512):gU 326 [ia x,iP n,iP p] (ia (oN x n p)):=by
 have va:=EJ hx;obtain⟨w1,w2⟩:=va.jC;exact ak call326 func326 (ae [.o 12 (.e (lZ _):aj (.sl true 1 7 λi_ j_=>(iG x).getD (i_*7+j_) (.v (.bool false))) (im [x])),ag [im [x]] (oz _ aD),ah 13 (!x.all) (by rw[ha];rfl),ag [iP p] (tD _),ah 17 (lJ (p:Int)) (qp.2 ⟨aC,aC⟩),tF 22 ((n:Int)<0) aC,tF 26 (16<(n:Int)) aC,ai 30 ((n:Int)==0) (nk h0),.a (aC:0<(2:Int)),.o 34 (aq (Int.tmod (n:Int) 2) ((n%2:Nat):Int) (by rw[ahA aC];omega)),ah 35 (((n%2:Nat):Int)==0) (rP he),.c (Kd x aD),ag [gZ ((jx x).lo),iP n,iP p,bP false] (My _ _ _ aD aC aC aC aC),ag [gZ ((jx x).hi),iP n,iP p,bP true] (Mz _ _ _ aD aC aC aC aC),.c (Ad ((ks ((jx x).lo) n p false).1) ((ks ((jx x).hi) n p true).1) ((ks ((jx x).lo) n p false).2) ((ks ((jx x).hi) n p true).2))]<|rQ (ia (kI ((ks ((jx x).lo) n p false).1) ((ks ((jx x).lo) n p false).2) ((ks ((jx x).hi) n p true).1) ((ks ((jx x).hi) n p true).2))) (ia (oN x n p)) (by unfold oN rV;rw[aY (by rw[ha];decide),aY h0,aZ he])) 
def Vg(x:Iv)(n p:Nat)(hx:x.gX)(ha:x.all=false)(h0:n≠0)(hn:n<=16)(he:¬n%2=0)(ig:8<=p)(gY:p<=512):gU 326 [ia x,iP n,iP p] (ia (oN x n p)):=by
 have va:=hx;obtain⟨w1,w2⟩:=va.jC;exact ak call326 func326 (ae [.o 12 (.e (lZ _):aj (.sl true 1 7 λi_ j_=>(iG x).getD (i_*7+j_) (.v (.bool false))) (im [x])),ag [im [x]] (oz _ aD),ah 13 (!x.all) (by rw[ha];rfl),ag [iP p] (tD _),ah 17 (lJ (p:Int)) (qp.2 ⟨aC,aC⟩),tF 22 ((n:Int)<0) aC,tF 26 (16<(n:Int)) aC,ai 30 ((n:Int)==0) (nk h0),.a (aC:0<(2:Int)),.o 34 (aq (Int.tmod (n:Int) 2) ((n%2:Nat):Int) (by rw[ahA aC];omega)),ai 35 (((n%2:Nat):Int)==0) (nk he),ag [gZ x.lo,iP n,iP p,bP false] (My _ _ _ aD aC aC aC aC),ag [gZ x.hi,iP n,iP p,bP true] (Mz _ _ _ aD aC aC aC aC),.c (Ad ((ks x.lo n p false).1) ((ks x.hi n p true).1) ((ks x.lo n p false).2) ((ks x.hi n p true).2))]<|rQ (ia (kI ((ks x.lo n p false).1) ((ks x.lo n p false).2) ((ks x.hi n p true).1) ((ks x.hi n p true).2))) (ia (oN x n p)) (by unfold oN rV;rw[aY (by rw[ha];decide),aY h0,aY he])) 
def MC(x:Iv)(n p:Nat)(hx:x.gX)(hn:n<=16)(ig:8<=p)(gY:p<=512):gU 326 [ia x,iP (n:Int),iP (p:Int)] (ia (oN x n p)):=by
 cases ha:x.all with
 |true=>exact Ve x n p hx ha hn ig gY
 |false=>
  by_cases h0:n=0
  .exact Vh x n p hx ha h0 ig gY
  .by_cases he:n%2=0
   .exact Vf x n p hx ha h0 hn he ig gY
   .exact Vg x n p hx ha h0 hn he ig gY
def UW(x y:Iv)(hx:x.gX)(hy:y.gX)(xa:x.all=false)(ya:y.all=false):gU 258 [ia x,ia y] (ia (By x y)):=by
 obtain⟨v1,v2⟩:=hx.jC;obtain⟨v3,v4⟩:=hy.jC;exact ak call258 func258 (ae [.o 7 (.e (vS _ _):aj (.sl true 2 7 λi_ j_=>(iG x++iG y).getD (i_*7+j_) (.v (.bool false))) (im [x,y])),ag [im [x,y]] (w9 _ _ aD aD),ah 8 (!(x.all||y.all)) (by rw[xa,ya];rfl),.c (F7 x.lo y.lo aD aD),.c (F8 x.hi y.hi aD aD)]<|rQ (ia (Iv.mk (iT x.lo y.lo) (iQ x.hi y.hi) false)) (ia (By x y)) (by unfold By;rw[xa,ya];rfl)) 
def Vm(z:Int):(z==0)=decide (z=0):=by by_cases h:z=0<;>simp[h]
def Ig(x:Iv)(p:Nat)(hx:x.gX)(xa:x.all=false)(ig:8<=p)(gY:p<=512):gU 260 [ia x,iP p] (.ik [gZ (r6 x p),bP (decide (y5 x p=0))]):=by
 obtain⟨v1,v2⟩:=hx.jC;have v3:=yG v1;exact ak call260 func260 (ae [.o 9 (.e (lZ _):aj (.sl true 1 7 λi_ j_=>(iG x).getD (i_*7+j_) (.v (.bool false))) (im [x])),ag [im [x]] (oz _ aD),ah 10 (!x.all) (by rw[xa];rfl),ag [iP p] (tD _),ah 14 (lJ (p:Int)) (qp.2 ⟨aC,aC⟩),ag [gZ x.lo] (vu _ aD),.c (BY x.hi (jv x.lo) p aD aD aC aC)]<|rQ (.ik [gZ (jk (iN x.hi (jv x.lo)) p true),bP ((jf (iN x.hi (jv x.lo)) p true)==0)]) (.ik [gZ (r6 x p),bP (decide (y5 x p=0))]) (by rw[Vm];rfl)) 
def Xp(k:Nat)(w:World)(h0:0<k)(hn:k<4294967296)(rB:Tb w):
 Calls prog 180 #[.int .i64 (-(k:Int))] w (vj w (canon true k 0)):=by
 have hd:(k:Int)/4294967296=0:= aC ;have iA:(-(k:Int))<0:= aC ;have FI:decide ((-(k:Int))<0)=true:=bh iA;have hu:IntKind.u64.wrap (-(k:Int))=18446744073709551616-k:=by rw[IntKind.wrap_u64];omega
 have hs:IntKind.u64.wrap (-(18446744073709551616-(k:Int)))=k:=by rw[IntKind.wrap_u64];omega
 have Fy:IntKind.u32.wrap (k:Int)=k:=by rw[IntKind.wrap_u32];omega
 have ht:(ix [k,0]).length<=256:=by have:=nX [k,0];unfold lu at this;simp at this;omega
 have HC:=ahF (λ(A:Option Addr) c w (h:Sl w A c [k,0]) (hT:Tb w)=>Fe true A c [k,0] 0 w h aH ht aE aE hT);have hv:val [k,0]=k:= aH ;rw[hv]at HC;clear hv ht;generalize canon true k 0=d at *
 generalize hN:(-(k:Int))=N at *
 go_enter func180,ntmps180;go_wp2_with fail;refine(HC.out _ _ _ (Sl.G7 _ _ aH _ _ k 0 rfl rfl hn aE) (rB.below (by first|exact(iz.alloc _ _).trans (iz.alloc _ _)|exact iz.alloc _ _))).mono ?_;rintro r w1 ⟨A1,c1,rfl,sF,jW⟩;have oG:iz (w.alloc (.cells #[.bool false,.slice none 0 0,.int .i64 0] 39)) w1:=(iz.alloc _ _).trans jW;have bx:=(ji.new w false none 0 0 0).ext oG;have b0:=bx.c0;have b1:=bx.c1;have b2:=bx.c2;have f0:=bx.fr 0;have f1:=bx.fr 1;have f2:=bx.fr 2;go_wp2;exact sr rfl rfl rfl (bx.set _ _ _ _ _) rfl (bx.sP sF _ _ _ _ _) (ji.rX ((iz.alloc _ _).trans oG) (bd _) _ _ _ _ _)
def pF(n:Int)(h:n.natAbs<4294967296):gU 180 [iP n] (gZ (iK n)):=by
 by_cases h0:0<=n
 .obtain ⟨k,rfl⟩:=gj h0;exact Ie k aC 
 .obtain ⟨k,rfl⟩:∃ k:Nat,n = -(k:Int):=⟨n.natAbs,aC⟩
  rw[Qp k aC];refine⟨call180,λw B vs hK hB hr=>?_⟩;obtain⟨v1,vs,rfl,h1,hr⟩:=hr.lp;obtain rfl:=hr.o0;obtain rfl:=iB.jX h1;exact(Xp k w aC aC hK).mono λe w' h=>rd B w e w' hB h
def aeM(d:Dy)(k:Int):s5 (canon d.neg d.m (d.e+k))=rn d k:=by unfold s5 rn;split<;>simp_all
def aeN(d:Dy)(k:Int):s6 (canon d.neg d.m (d.e+k))=AF d k:=by unfold s6 AF;split<;>simp_all
def iE(f:Nat->Rat):Nat->Rat
 | 0=>0
 |n+1=>iE f n+f n
def oQ{f g:Nat->Rat}:∀ n,(∀ i,i<n->f i=g i)->iE f n=iE g n
 | 0,_=>rfl
 |n+1,h=>by rw[iE,iE,oQ n (λi hi=>h i aC),h n aC]
def AH{f g:Nat->Rat}:∀ n,(∀ i,i<n->f i<=g i)->iE f n<=iE g n
 | 0,_=>bV
 |n+1,h=>by
  have h1:=AH n (λi hi=>h i aC);have h2:=h n aC;rw[iE,iE];grind
def AI{f:Nat->Rat}(n:Nat)(h:∀ i,i<n->0<=f i):0<=iE f n:=by
 induction n with
 |zero=>exact bV
 |succ n ih=>
  have h1:=ih (λi hi=>h i aC);have h2:=h n aC;rw[iE];grind
def yX(f:Nat->Rat)(c:Rat):∀ n,iE (λi=>c*f i) n=c*iE f n
 | 0=>by simp[iE]
 |n+1=>by rw[iE,iE,yX f c n];grind
def Cc(f:Nat->Rat)(c:Rat):∀ n,iE (λi=>f i*c) n=iE f n*c
 | 0=>by simp[iE]
 |n+1=>by rw[iE,iE,Cc f c n];grind
def Eg(f g:Nat->Rat):∀ n,iE (λi=>f i+g i) n=iE f n+iE g n
 | 0=>by simp only[iE];grind
 |n+1=>by rw[iE,iE,iE,Eg f g n];grind
def Eh(f:Nat->Nat->Rat)(m:Nat):∀ n,iE (λi=>iE (λj=>f i j) m) n=iE (λj=>iE (λi=>f i j) n) m
 | 0=>by
  have:∀ m,iE (λ_=>(0:Rat)) m=0:=by
   intro m
   induction m with
   |zero=>rfl
   |succ m ih=>rw[iE,ih];grind
  exact(this m).symm
 |n+1=>by
  rw[iE,Eh f m n,<-Eg];rfl
def To(f:Nat->Rat):∀ n,iE f (n+1)=f 0+iE (λi=>f (i+1)) n
 | 0=>by simp only[iE];grind
 |n+1=>by rw[iE,To f n,iE];grind
def iL(x:Rat):Rat:=if 0<=x then x else -x
def lP(x:Rat):0<=iL x/\x<=iL x /\ -x<=iL x/\(iL x=x/\0<=x\/iL x = -x/\x<=0):=by unfold iL;split<;>grind
def wE{x b:Rat}(h1:x<=b)(h2:-x<=b):iL x<=b:=by unfold iL;split<;>grind
def Mh(x y:Rat):iL (x+y)<=iL x+iL y:=by
 obtain⟨a1,a2,a3,_⟩:=lP x;obtain⟨b1,b2,b3,_⟩:=lP y;exact wE aK aK 
def wF(x y:Rat):iL (x*y)=iL x*iL y:=by
 obtain⟨_,_,_,a⟩:=lP x;obtain⟨_,_,_,b⟩:=lP y;obtain⟨c1,_,_,c⟩:=lP (x*y);rcases a with⟨e1,h1⟩|⟨e1,h1⟩<;>rcases b with⟨e2,h2⟩|⟨e2,h2⟩<;>rw[e1,e2]
 .have:=bQ h1 h2;grind
 .have:=bQ h1 (show 0 <= -y by grind);grind
 .have:=bQ (show 0 <= -x by grind) h2;grind
 .have:=bQ (show 0 <= -x by grind) (show 0 <= -y by grind);grind
def AO(f:Nat->Rat):∀ n,iL (iE f n)<=iE (λi=>iL (f i)) n
 | 0=>by simp[iE,iL]
 |n+1=>by
  have h1:=AO f n;have h2:=Mh (iE f n) (f n);rw[iE,iE];grind
def Mi:iL 0=0:=rfl
abbrev QM:=Nat->Nat->Rat
def oZ(n:Nat)(A B:QM):QM:=λi j=>iE (λq=>A i q*B q j) n
def vZ:QM:=λi j=>if i=j then 1 else 0
def TQ(n:Nat)(M:QM)(t:Rat):Nat->QM
 | 0=>vZ
 |j+1=>λi l=>t/((j+1:Nat):Rat)*oZ n (TQ n M t j) M i l
def SQ(n:Nat)(M:QM)(t:Rat):Nat->QM
 | 0=>vZ
 |j+1=>λi l=>SQ n M t j i l+TQ n M t (j+1) i l
def RN(j:Nat):(iF (j:Int)).je ((j:Nat):Rat):=by have:=xk (j:Int);rwa[dN]at this
section
variable {m:List (List Iv)} {h:Iv} {M:QM} {t:Rat} {n p:Nat}
def xE(n:Nat)(A:QM)(b:Rat):Prop:=∀ i,i<n->iE (λl=>iL (A i l)) n<=b
def aem{A B:QM}{a b:Rat}(_h0:0<=a)(hb:0<=b)(h1:xE n A a)(h2:xE n B b):xE n (oZ n A B) (a*b):=by
 intro i hi;have e1:iE (λl=>iL (oZ n A B i l)) n<=iE (λl=>iE (λq=>iL (A i q)*iL (B q l)) n) n:=
  AH n λl _=>by
   have:=AO (λq=>A i q*B q l) n;rw[show(λq=>iL (A i q*B q l))=λq=>iL (A i q)*iL (B q l)from funext λq=>wF _ _]at this;exact this
 rw[Eh]at e1;have e2:iE (λq=>iE (λl=>iL (A i q)*iL (B q l)) n) n<=iE (λq=>iL (A i q)*b) n:=
  AH n λq hq=>by
   rw[yX];exact cE (h2 q hq) (lP _).1
 rw[Cc]at e2;exact bF e1 (bF e2 (cg (h1 i hi) hb))
def eQ(c:Rat):Nat->Rat
 | 0=>1
 |j+1=>eQ c j*(c/((j+1:Nat):Rat))
def yF(j:Nat):(0:Rat)<((j+1:Nat):Rat):=fG.2 aC 
def NL{a b:Rat}(h1:0<=a)(h2:0<b):0<=a/b:=by
 rw[cN];exact bQ h1 (bG (fh.2 h2))
def s7{c:Rat}(h:0<=c):∀ j,0<=eQ c j
 | 0=>by simp only[eQ];decide
 |j+1=>bQ (s7 h j) (NL h (yF j))
def afr(n i:Nat):iE (λl=>iL (vZ i l)) n<=1/\(n<=i->iE (λl=>iL (vZ i l)) n=0):=by
 induction n with
 |zero=>exact⟨by simp only[iE];grind,λ_=>rfl⟩
 |succ n ih=>
  have e1:iL 1=1:= aE ;simp only[iE,vZ]at ih ⊢;by_cases h:i=n
  .have:=ih.2 aC ;rw[this,aZ h,e1];exact⟨aK,λh'=>absurd h' aC⟩
  .rw [aY h,Mi,Rat.add_zero];exact⟨ih.1,λh'=>ih.2 aC⟩
def aei{A:QM}{b:Rat}(h:xE n A b){i l:Nat}(hi:i<n)(hl:l<n):iL (A i l)<=b:=by
 have h1:=h i hi;have:∀ m,l<m->iL (A i l)<=iE (λl=>iL (A i l)) m:=by
  intro m hm
  induction m with
  |zero=>omega
  |succ m ih=>
   rw[iE];have h0:=AI m (f:=λl=>iL (A i l)) λi _=>(lP _).1
   have h2:=(lP (A i m)).1;by_cases hq:l=m
   .subst hq;grind
   .have:=ih aC;grind
 exact bF (this n hl) h1
end
def GZ(g:Nat->Nat->Rat):∀ m,iE (λj=>iE (g j) (m-j)) m=iE (λs=>iE (λj=>g j (s-j)) (s+1)) m
 | 0=>rfl
 |m+1=>by
  have ih:=GZ g m;have e1:iE (λj=>iE (g j) (m+1-j)) m=iE (λj=>iE (g j) (m-j)+g j (m-j)) m:=
   oQ m λj hj=>by rw[(aC:m+1-j=m-j+1)];rfl
  have h1:iE (g m) (m+1-m)=g m 0:=by
   rw[(aC:m+1-m=0+1)];simp only[iE];grind
  have h2:iE (λj=>g j (m-j)) (m+1)=iE (λj=>g j (m-j)) m+g m (m-m):=rfl;show iE (λj=>iE (g j) (m+1-j)) m+iE (g m) (m+1-m)=iE (λs=>iE (λj=>g j (s-j)) (s+1)) m+iE (λj=>g j (m-j)) (m+1);rw[e1,Eg,h1,h2,ih,dx]
  grind
def Ei{f:Nat->Rat}(h:∀ i,0<=f i){m k:Nat}(hk:m<=k):iE f m<=iE f k:=by
 induction k with
 |zero=>
  have:m=0:= aC ;rw[this];exact bV
 |succ k ih=>
  by_cases hm:m=k+1
  .rw [hm];exact bV
  .have:=ih aC ;have:=h k;rw[iE];grind
def Cd(f:Nat->Rat)(m:Nat):∀ d,iE f (m+d)=iE f m+iE (λi=>f (m+i)) d
 | 0=>by simp only[iE,bL];grind
 |d+1=>by
  show iE f (m+d)+f (m+d)=_;rw[Cd f m d,iE];grind
def Fg(c:Rat)(j:Nat):eQ c (j+1)*((j+1:Nat):Rat)=c*eQ c j:=by
 have h:c/((j+1:Nat):Rat)*((j+1:Nat):Rat)=c:=dG (by have:=yF j;grind);simp only[eQ];grind
def EW(a b:Rat):∀ s,iE (λj=>eQ b j*eQ a (s-j)) (s+1)=eQ (a+b) s
 | 0=>by
  show 0+eQ b 0*eQ a 0=1;simp only[eQ];grind
 |s+1=>by
  have ih:=EW a b s;have hp:=yF s;have key:iE (λj=>eQ b j*eQ a (s+1-j)) (s+2)*((s+1:Nat):Rat)=(a+b)*eQ (a+b) s:=by
   have e0:iE (λj=>eQ b j*eQ a (s+1-j)) (s+2)*((s+1:Nat):Rat)=iE (λj=>(j:Rat)*(eQ b j*eQ a (s+1-j))+eQ b j*(((s+1-j:Nat):Rat)*eQ a (s+1-j))) (s+2):=by
    rw[<-Cc];refine oQ _ λj hj=>?_
    have:((s+1:Nat):Rat)=(j:Rat)+((s+1-j:Nat):Rat):=by rw[<-dO];congr 1;omega
    rw[this];grind
   rw[e0,Eg];have e1:iE (λj=>(j:Rat)*(eQ b j*eQ a (s+1-j))) (s+2)=b*eQ (a+b) s:=by
    rw[To,<-ih,<-yX];have z:(((0:Nat):Rat))=0:=rfl;rw[z,fH,gF];refine oQ _ λj hj=>?_
    have h1:=Fg b j;rw[(aC:s+1-(j+1)=s-j)]
    grind
   have e2:iE (λj=>eQ b j*(((s+1-j:Nat):Rat)*eQ a (s+1-j))) (s+2)=a*eQ (a+b) s:=by
    rw[(aC:s+2=(s+1)+1),iE,dx,<-ih,<-yX];have z:(((0:Nat):Rat))=0:=rfl;rw[z,fH,Rat.mul_zero,Rat.add_zero];refine oQ _ λj hj=>?_
    have h1:=Fg a (s-j);rw[(aC:s+1-j=s-j+1)]
    grind
   rw[e1,e2];grind
  have h2:=Fg (a+b) s;have h3:iE (λj=>eQ b j*eQ a (s+1-j)) (s+2)*((s+1:Nat):Rat)=eQ (a+b) (s+1)*((s+1:Nat):Rat):=by rw[key,h2]
  exact dg (ff (by rw[h3];exact bV) hp) (ff (by rw[h3];exact bV) hp)
def CG(c:Rat):∀ j,iL (eQ c j)=eQ (iL c) j
 | 0=>by simp only[eQ];decide
 |j+1=>by
  simp only[eQ];rw[wF,CG c j];congr 1;rw[cN,cN,wF];congr 1;have:=fh.2 (yF j);unfold iL;rw[aZ (bG this)]
def sN(v:Rat):Nat->Rat
 | 0=>1
 |j+1=>sN v j*v
def R5(v:Rat)(i:Nat):∀ j,sN v (i+j)=sN v i*sN v j
 | 0=>by simp only[sN,bL];grind
 |j+1=>by
  show sN v (i+j)*v=_;rw[R5 v i j,sN];grind
def R6{v:Rat}(h:0<=v):∀ j,0<=sN v j
 | 0=>by simp only[sN];decide
 |j+1=>bQ (R6 h j) h
def IQ(c v:Rat):∀ j,eQ (c*v) j=eQ c j*sN v j
 | 0=>by simp only[eQ,sN];grind
 |j+1=>by
  simp only[eQ,sN];rw[IQ c v j];simp only[cN];grind
def Mq(q:Rat):∃ n:Nat,q<=(n:Rat):=by
 refine⟨q.ceil.toNat,?_⟩;have h1:q<=(q.ceil:Rat):=Rat.le_ceil;have h2:((q.ceil:Int):Rat)<=((q.ceil.toNat:Nat):Rat):=by
  rw[<-dN,dc];omega
 exact bF h1 h2
def LJ{z:Rat}{J:Nat}(hz:0<=z)(hJ:z*2<=(J:Rat)){m:Nat}(hm:J<=m):eQ z (m+1)*2<=eQ z m:=by
 have h0:=s7 hz m;have h1:=Fg z m;have hp:=yF m;have Jj:z*2<=((m+1:Nat):Rat):=bF hJ (dr.2 aC);apply ff (c:=((m+1:Nat):Rat)) _ hp;have h2:=cE Jj h0
 grind
def LK{z:Rat}{J:Nat}(hz:0<=z)(hJ:z*2<=(J:Rat)){m:Nat}(hm:J<=m):∀ d,iE (λi=>eQ z (m+i)) d+eQ z (m+d)*2<=eQ z m*2
 | 0=>by simp only[iE,bL];grind
 |d+1=>by
  have ih:=LK hz hJ hm d;have h1:=LJ hz hJ (aC:J<=m+d);rw[iE,(aC:m+(d+1)=m+d+1)]
  grind
def Tw{z:Rat}{J:Nat}(hz:0<=z)(hJ:z*2<=(J:Rat)):∀ r:Nat,eQ z (J+r)*((2^r:Nat):Rat)<=eQ z J
 | 0=> aH 
 |r+1=>by
  have ih:=Tw hz hJ r;have h1:=LJ hz hJ (aC:J<=J+r);have hp:(0:Rat)<=((2^r:Nat):Rat):=cM;have h2:=cg h1 hp;rw[show(2^(r+1):Nat)=2^r*2 from bw _ _,c9,(aC:J+(r+1)=J+r+1)];have e:((2:Nat):Rat)=2:=rfl;rw[e];grind
def Tx{z ε:Rat}(hz:0<=z)(hε:0<ε):∃ m0,∀ m,m0<=m->∀ d,iE (λi=>eQ z (m+i)) d<=ε:=by
 obtain⟨J,hJ⟩:=Mq (z*2);obtain⟨r,hr⟩:=Mq (eQ z J*2/ε);refine⟨J+r,λm hm d=>?_⟩;obtain⟨t,rfl⟩:∃ t,m=J+t:=⟨m-J,aC⟩
 have h1:=LK hz hJ (aC:J<=J+t) d;have h2:=Tw hz hJ t;have h3:=s7 hz (J+t+d);have h4:=s7 hz (J+t);have rf:(r:Rat)<=((2^t:Nat):Rat):=dr.2 (dq (cr (aC:r<=t) Nat.lt_two_pow_self));have h5:eQ z J*2<=ε*((2^t:Nat):Rat):=by
  have h6:eQ z J*2/ε*ε=eQ z J*2:=dG aK;have h7:=cg (bF hr rf) (bG hε)
  grind
 have hp:(0:Rat)<((2^t:Nat):Rat):=fG.2 (bn aE);have h8:eQ z (J+t)*2<=ε:=by
  apply ff (c:=((2^t:Nat):Rat)) _ hp
  grind
 grind
def MP(n:Nat)(M:QM):Nat->QM
 | 0=>vZ
 |j+1=>oZ n (MP n M j) M
section
variable {n:Nat} {M:QM}
def Hy(t:Rat):∀ j i l,TQ n M t j i l=eQ t j*MP n M j i l
 | 0,i,l=>by simp only[TQ,eQ,MP];grind
 |j+1,i,l=>by
  show t/((j+1:Nat):Rat)*iE (λq=>TQ n M t j i q*M q l) n=eQ t j*(t/((j+1:Nat):Rat))*iE (λq=>MP n M j i q*M q l) n;rw[oQ n λq _=>show TQ n M t j i q*M q l=eQ t j*(MP n M j i q*M q l)by rw[Hy t j i q];grind,yX]
  grind
def Cn(t:Rat)(i l:Nat):∀ N,SQ n M t N i l=iE (λj=>eQ t j*MP n M j i l) (N+1)
 | 0=>by simp only[SQ,iE,eQ,MP];grind
 |N+1=>by
  show SQ n M t N i l+TQ n M t (N+1) i l=_;rw[Cn t i l N,Hy];rfl
def abZ(A:QM)(i:Nat){l:Nat}(hl:l<n):oZ n A vZ i l=A i l:=by
 have:∀ m,iE (λq=>A i q*vZ q l) m=if l<m then A i l else 0:=by
  intro m
  induction m with
  |zero=>simp[iE]
  |succ m ih=>
   rw[iE,ih];unfold vZ;by_cases h1:l<m
   .rw [aZ h1,aY (aC:¬m=l),aZ (aC:l<m+1)];grind
   .by_cases h2:m=l
    .subst h2;rw[aY h1,aZ rfl,aZ (aC:m<m+1)];grind
    .rw [aY h1,aY h2,aY (aC:¬l<m+1)];grind
 unfold oZ;rw[this,aZ hl]
def abY(A B C:QM)(i l:Nat):oZ n A (oZ n B C) i l=oZ n (oZ n A B) C i l:=by
 unfold oZ;have e1:∀ q,A i q*iE (λr=>B q r*C r l) n=iE (λr=>A i q*(B q r*C r l)) n:=λq=>(yX _ _ n).symm
 have e2:∀ r,iE (λq=>A i q*B q r) n*C r l=iE (λq=>A i q*B q r*C r l) n:=λr=>(Cc _ _ n).symm
 rw[oQ n λq _=>e1 q,oQ (f:=λq=>iE (λq_1=>A i q_1*B q_1 q) n*C q l) n λr _=>e2 r,Eh];exact oQ n λr _=>oQ n λq _=> aK 
def L8(j:Nat):∀ k i l,l<n->oZ n (MP n M j) (MP n M k) i l=MP n M (j+k) i l
 | 0,i,l,hl=>abZ _ i hl
 |k+1,i,l,hl=>by
  show oZ n (MP n M j) (oZ n (MP n M k) M) i l=oZ n (MP n M (j+k)) M i l;rw[abY];exact oQ n λq hq=>by rw[L8 j k i q hq]
def L9{v:Rat}(hv:0<=v)(h:xE n M v):∀ j,xE n (MP n M j) (sN v j)
 | 0=>λi _=>(afr n i).1
 |j+1=>aem (R6 hv j) hv (L9 hv h j) h
def aej(n:Nat)(M:QM):∃ v,0<=v/\xE n M v:=by
 refine⟨iE (λi=>iE (λl=>iL (M i l)) n) n,AI n λi _=>AI n λl _=>(lP _).1,λi hi=>?_⟩;have:∀ m,i<m->iE (λl=>iL (M i l)) n<=iE (λi=>iE (λl=>iL (M i l)) n) m:=by
  intro m hm
  induction m with
  |zero=>omega
  |succ m ih=>
   rw[iE];have h0:0<=iE (λl=>iL (M m l)) n:=AI n λl _=>(lP _).1
   have h1:0<=iE (λi=>iE (λl=>iL (M i l)) n) m:=AI m λi _=>AI n λl _=>(lP _).1
   by_cases hq:i=m
   .subst hq;grind
   .have:=ih aC;grind
 exact this n hi
def ada(a b:Rat)(N:Nat)(i:Nat){l:Nat}(hl:l<n):oZ n (SQ n M b N) (SQ n M a N) i l=iE (λj=>iE (λk=>eQ b j*eQ a k*MP n M (j+k) i l) (N+1)) (N+1):=by
 unfold oZ;have e1:∀ q,SQ n M b N i q*SQ n M a N q l=iE (λj=>iE (λk=>eQ b j*eQ a k*(MP n M j i q*MP n M k q l)) (N+1)) (N+1):=by
  intro q;rw[Cn,Cn,<-Cc];refine oQ _ λj _=>?_
  rw[<-yX];exact oQ _ λk _=> aK 
 rw[oQ n λq _=>e1 q,Eh];refine oQ _ λj _=>?_
 rw[Eh];refine oQ _ λk _=>?_
 rw[<-L8 j k i l hl,yX];rfl
def afV(a b:Rat)(N:Nat)(i l:Nat):iE (λj=>iE (λk=>eQ b j*eQ a k*MP n M (j+k) i l) (N+1-j)) (N+1)=SQ n M (a+b) N i l:=by
 rw[GZ (λj k=>eQ b j*eQ a k*MP n M (j+k) i l),Cn];refine oQ _ λs _=>?_
 rw[<-EW,<-Cc];exact oQ _ λj hj=>by rw[(aC:j+(s-j)=s)]
def Tf(g:Nat->Nat->Rat)(m:Nat):iE (λj=>iE (g j) m) m=iE (λj=>iE (g j) (m-j)) m+iE (λj=>iE (λk=>g j (m-j+k)) j) m:=by
 rw[<-Eg];refine oQ _ λj hj=>?_
 rw[<-Cd,(aC:m-j+j=m)]
def Zs{v:Rat}(hv:0<=v)(h:xE n M v)(a b:Rat)(N:Nat){i l:Nat}(hi:i<n)(hl:l<n):
 iL (oZ n (SQ n M b N) (SQ n M a N) i l-SQ n M (a+b) N i l)<=iE (λs=>eQ (iL a*v+iL b*v) (N+1+s)) (N+1):=by
 have hx:0<=iL a*v:=bQ (lP a).1 hv;have hy:0<=iL b*v:=bQ (lP b).1 hv;have e1:oZ n (SQ n M b N) (SQ n M a N) i l=SQ n M (a+b) N i l+iE (λj=>iE (λk=>eQ b j*eQ a (N+1-j+k)*MP n M (j+(N+1-j+k)) i l) j) (N+1):=by
  have:=Tf (λj k=>eQ b j*eQ a k*MP n M (j+k) i l) (N+1);rw[afV,<-ada a b N i hl]at this;exact this
 have e2:oZ n (SQ n M b N) (SQ n M a N) i l-SQ n M (a+b) N i l=iE (λj=>iE (λk=>eQ b j*eQ a (N+1-j+k)*MP n M (j+(N+1-j+k)) i l) j) (N+1):= aK ;rw[e2];have e3:iL (iE (λj=>iE (λk=>eQ b j*eQ a (N+1-j+k)*MP n M (j+(N+1-j+k)) i l) j) (N+1))<=iE (λj=>iE (λk=>eQ (iL b*v) j*eQ (iL a*v) (N+1-j+k)) j) (N+1):=by
  refine bF (AO _ _) (AH _ λj _=>bF (AO _ _) (AH _ λk _=>?_));rw[wF,wF,CG,CG,IQ,IQ];have hr:=aei (L9 hv h (j+(N+1-j+k))) hi hl;rw[R5]at hr;have h1:=s7 (lP b).1 j;have h2:=s7 (lP a).1 (N+1-j+k);have h3:=cE hr (bQ h1 h2)
  grind
 refine bF e3 ?_;have q1:iE (λj=>iE (λk=>eQ (iL b*v) j*eQ (iL a*v) k) (N+1)) (N+1)=iE (λj=>iE (λk=>eQ (iL b*v) j*eQ (iL a*v) k) (N+1-j)) (N+1)+iE (λj=>iE (λk=>eQ (iL b*v) j*eQ (iL a*v) (N+1-j+k)) j) (N+1):=
  Tf (λj k=>eQ (iL b*v) j*eQ (iL a*v) k) (N+1)
 have q2:iE (λj=>iE (λk=>eQ (iL b*v) j*eQ (iL a*v) k) (N+1-j)) (N+1)=iE (λs=>eQ (iL a*v+iL b*v) s) (N+1):=by
  rw[GZ (λj k=>eQ (iL b*v) j*eQ (iL a*v) k)];exact oQ _ λs _=>EW _ _ s
 have G0:∀ j k,0<=eQ (iL b*v) j*eQ (iL a*v) k:=λj k=>bQ (s7 hy j) (s7 hx k)
 have q3:iE (λj=>iE (λk=>eQ (iL b*v) j*eQ (iL a*v) k) (N+1)) (N+1)<=iE (λs=>eQ (iL a*v+iL b*v) s) (N+1+(N+1)):=by
  rw[<-oQ (f:=λs=>iE (λj=>eQ (iL b*v) j*eQ (iL a*v) (s-j)) (s+1)) _ λs _=>EW _ _ s,<-GZ (λj k=>eQ (iL b*v) j*eQ (iL a*v) k)];refine bF (AH _ λj hj=>Ei (λk=>G0 j k) (aC:N+1<=N+1+(N+1)-j)) ?_;exact Ei (λj=>AI _ λk _=>G0 j k) aC 
 rw[Cd (λs=>eQ (iL a*v+iL b*v) s) (N+1) (N+1),q1,q2]at q3;have cancel:∀ A B C:Rat,A+B<=A+C->B<=C:=by intro A B C h;grind
 exact cancel _ _ _ q3
def Zt(n:Nat)(M:QM)(a b:Rat){ε:Rat}(hε:0<ε):∃ N0,∀ N,N0<=N->∀ i l,i<n->l<n->iL (oZ n (SQ n M b N) (SQ n M a N) i l-SQ n M (a+b) N i l)<=ε:=by
 obtain⟨v,hv,h⟩:=aej n M;have hz:0<=iL a*v+iL b*v:=by
  have hx:0<=iL a*v:=bQ (lP a).1 hv;have hy:0<=iL b*v:=bQ (lP b).1 hv
  grind
 obtain⟨m0,h0⟩:=Tx hz hε;exact⟨m0,λN hN i l hi hl=>bF (Zs hv h a b N hi hl) (h0 (N+1) aC (N+1))⟩
def Uv(N:Nat)(i l:Nat):SQ n M 0 N i l=vZ i l:=by
 induction N with
 |zero=>rfl
 |succ N ih=>
  show SQ n M 0 N i l+TQ n M 0 (N+1) i l=_;rw[ih,Hy];simp only[eQ,cN];grind
end
def nY(f:Nat->Rat)(X:Iv):Prop:=∀ ε,0<ε->∃ N0,∀ N,N0<=N->∃ r,X.je r/\iL (f N-r)<=ε
def nY.KQ{f:Nat->Rat}{X:Iv}{k:Nat}(h:∀ N,k<=N->X.je (f N)):nY f X:=λε hε=>
 ⟨k,λN hN=>⟨f N,h N hN,by rw[Rat.sub_self,Mi];exact bG hε⟩⟩
def nY.all{f:Nat->Rat}{X:Iv}(h:X.all=true):nY f X:=nY.KQ (k:=0) λ_ _=>.inl h
def nY.shift{f g:Nat->Rat}{X:Iv}(h:nY f X)(k:∀ ε,0<ε->∃ N0,∀ N,N0<=N->iL (g N-f N)<=ε):nY g X:=λε hε=>by
 obtain⟨N1,h1⟩:=h (ε/2) aK;obtain⟨N2,h2⟩:=k (ε/2) aK;refine⟨max N1 N2,λN hN=>?_⟩;obtain⟨r,hr,hd⟩:=h1 N aC;have hg:=h2 N aC;refine⟨r,hr,?_⟩;have:=Mh (g N-f N) (f N-r);rw[show g N-f N+(f N-r)=g N-r by grind]at this
 grind
def EQ(c:Rat)(N:Nat):Rat:=iE (eQ c) (N+1)
def acN(j:Nat):MP 1 (λ_ _=>1) j 0 0=1:=by
 induction j with
 |zero=>rfl
 |succ j ih=>
  show iE (λq=>MP 1 (λ_ _=>1) j 0 q*1) 1=1;simp only[iE];rw[ih];grind
def EC(c:Rat)(N:Nat):SQ 1 (λ_ _=>1) c N 0 0=EQ c N:=by
 rw[Cn];exact oQ _ λj _=>by rw[acN];grind
def Hs(a b:Rat){ε:Rat}(hε:0<ε):∃ N0,∀ N,N0<=N->iL (EQ (a+b) N-EQ a N*EQ b N)<=ε:=by
 obtain⟨N0,h0⟩:=Zt 1 (λ_ _=>1) a b hε;refine⟨N0,λN hN=>?_⟩;have:=h0 N hN 0 0 aE aE;rw[show oZ 1 (SQ 1 (λ_ _=>1) b N) (SQ 1 (λ_ _=>1) a N) 0 0=EQ a N*EQ b N by
  show iE (λq=>SQ 1 (λ_ _=>1) b N 0 q*SQ 1 (λ_ _=>1) a N q 0) 1=_;simp only[iE];rw[EC,EC];grind,EC]at this
 obtain⟨_,a2,a3,_⟩:=lP (EQ a N*EQ b N-EQ (a+b) N);exact wE aK aK 
def Uj(N:Nat):EQ 0 N=1:=by
 rw[<-EC,Uv];rfl
def Mu{x:Iv}{r s:Rat}(hx:x.gX)(h:x.je r)(hs:iL s<=iL r):(pE x).je s:=by
 unfold pE;cases xa:x.all
 .obtain ⟨h1,h2⟩:=h.jC xa;obtain⟨m1,m2,_⟩:=yC hx.q;obtain⟨_,a2,a3,a4⟩:=lP r;obtain⟨_,b2,b3,_⟩:=lP s;have hr:iL r<=(kg x).q:= aK ;refine .inr ⟨?_,?_⟩
  .show (jv (kg x)).q<=s;rw[px];grind
  .show s<=(kg x).q
   grind
 .rw [aZ rfl];exact .inl xa
def y8{a b:Int}(h:a<=b):P2 a<=P2 b:=by
 rw[Cl h];have h1:(1:Rat)<=((2^(b-a).toNat:Nat):Rat):=by
  have:=dr.2 (Nat.one_le_two_pow (n:=(b-a).toNat));exact this
 have:=cg h1 (bG (lV a))
 grind
def G7{i:Nat}(h:i<2):i=0\/i=1:= aC 
def Uk:Dy:=⟨false,1014047155841371404857783918912611814895143950022408150448898879701903863171748812343190420115852101928445847465915947005,-398⟩
def Ul:Dy:=⟨false,2028094311682742809715567837825223629790287900044816300897797759403807726343497624686380840231704203856891694931831894109,-399⟩
def HF:Iv:=⟨Uk,Ul,false⟩
def after{N:Nat}(h:100<=N):∃ d,N=100+d:=⟨N-100,aC⟩
def zq(k:Int):Rat×Rat:=if k%4=0 then(1,0)else if k%4=1 then(0,1)else if k%4=2 then(-1,0)else(0,-1)
def kv(r:Iv)(p:Nat):Nat->Iv
 | 0=>iF 1
 |j+1=>jT (jm (kv r p j) r p) (iF ((j+1:Nat):Int)) p
def Lx(r:Iv)(p j:Nat):Iv:=if 2<=j%4 then qn (kv r p j)else kv r p j
def GR(r:Iv)(p:Nat):Nat->Iv
 | 0=>iF 0
 |j+1=>if(j+1)%2=1 then jN (GR r p j) (Lx r p (j+1)) p else GR r p j
def pv(n:Int):(oC n).q=P2 n:=by unfold oC;rw[qq];simp
def tY{r:Iv}{p:Nat}(_hr:r.gX)(ig:8<=p)(gY:p<=512):∀ j,(kv r p j).gX
 | 0=>Al 1 aE 
 |j+1=>rz _ _ aC aC 
def aeQ{r:Iv}{p:Nat}(hr:r.gX)(ig:8<=p)(gY:p<=512)(j:Nat):(Lx r p j).gX:=by
 unfold Lx;split
 .exact yH (tY hr ig gY j)
 .exact tY hr ig gY j
def SP{r:Iv}{p:Nat}(hr:r.gX)(ig:8<=p)(gY:p<=512):∀ j,(GR r p j).gX
 | 0=>Al 0 aE 
 |j+1=>by
  unfold GR;split
  .exact oW (SP hr ig gY j) (aeQ hr ig gY _) aC aC 
  .exact SP hr ig gY j
def Ly{r:Iv}{p:Nat}(hr:r.gX)(ig:8<=p)(gY:p<=512){ρ:Rat}(h:r.je ρ):∀ j,j<4294967296->(kv r p j).je (eQ ρ j)
 | 0,_=>xk 1
 |j+1,hj=>by
  have e:eQ ρ (j+1)=eQ ρ j*ρ/((j+1:Nat):Rat):=by simp only[eQ,cN];grind
  rw[e];exact Fb (nT _ _ aC aC) (KK (j+1) hj) aC aC (Ky (tY hr ig gY j) hr aC aC (Ly hr ig gY h j aC) h) (RN (j+1))
def SR{r:Iv}{p:Nat}:∀ {j d:Nat},(kv r p (j+d)).all=false->(kv r p j).all=false
 |_,0,h=>h
 |j,d+1,h=>by
  apply SR (d:=d);cases ha:(kv r p (j+d)).all
  .rfl
  .exfalso;have:kv r p (j+(d+1))=ie:=by
    show jT (jm (kv r p (j+d)) r p) _ p=_;rw[Gg p (.inl ha),CD p (.inl rfl)]
   rw[this]at h;cases h
def nZ(n:Int):Iv:=⟨jv (oC n),oC n,false⟩
def AW{n:Int}{r:Rat}:(nZ n).je r ↔ -P2 n<=r/\r<=P2 n:=by
 unfold Iv.je nZ;simp only[bA,false_or];rw[px,pv]
def xC{p:Nat}(hp:1<=p){n:Int}(h1:-1000<=n)(h2:n<=1000):G p (P2 n):=.inl ⟨1,n,by rw[xH];exact hp,aC,by rw[xH];omega,aH⟩
def Cr{p:Nat}{S:Rat->Prop}{X:Iv}(h:y6 p S X)(hp:1<=p){n:Int}(h1:-1000<=n)(h2:n<=1000)(hs:∀ r,S r -> -P2 n<=r/\r<=P2 n):Sub X (nZ n):=by
 obtain⟨a,b,c⟩:=h.tE _ _ (xC hp h1 h2).neg (xC hp h1 h2) hs;refine .inr ⟨a,?_,?_⟩
 .show (jv (oC n)).q<=_;rw[px,pv];exact b
 .show _<=(oC n).q;rw[pv];exact c
def Mj{a b u v:Rat}(h1:-u<=a)(h2:a<=u)(h3:-v<=b)(h4:b<=v):-(u*v)<=a*b/\a*b<=u*v:=by
 have ha:iL a<=u:=wE h2 aK;have hb:iL b<=v:=wE h4 aK;have hm:=wF a b;have h0:=(lP b).1;have hu:0<=u:=bF (lP a).1 ha;have m1:=cg ha h0;have m2:=cE hb hu;obtain⟨_,c2,c3,_⟩:=lP (a*b);constructor<;>grind
def Pe(j:Nat):P2 (-(j:Int))*P2 (-1)=P2 (-((j+1:Nat):Int)):=by
 rw[<-oE];congr 1;omega
def Xb{a u:Rat}{n:Nat}(h1:-u<=a)(h2:a<=u):-u<=a/((n+1:Nat):Rat)/\a/((n+1:Nat):Rat)<=u:=by
 have hp:=yF n;have OO:(1:Rat)<=((n+1:Nat):Rat):=by
  have:=dr (a:=1) (b:=n+1);exact this.2 aC 
 have e:=dG (a:=a) (b:=((n+1:Nat):Rat)) aK;have hu:0<=u:= aK ;generalize a/((n+1:Nat):Rat)=x at *
 generalize ((n+1:Nat):Rat)=c at *
 constructor
 .apply df.1;intro iA;have m:=dP iA hp;have m2:=cE OO hu
  grind
 .apply df.1;intro iA;have m:=dP iA hp;have m2:=cE OO hu
  grind
def SU{y:Iv}(hy:y.gX)(h:Sub y (nZ (-1))){p:Nat}(ig:8<=p)(gY:p<=512):∀ j,j<=900->Sub (kv y p j) (nZ (-(j:Int)))
 | 0,_=>by
  have e:(iF 1).lo.q=1/\(iF 1).hi.q=1/\(iF 1).all=false:=RM 1;refine .inr ⟨e.2.2,?_,?_⟩
  .show (jv (oC _)).q<=_;rw[px,pv,show(kv y p 0).lo.q=1 from e.1];decide +kernel
  .show _<=(oC _).q;rw[pv,show(kv y p 0).hi.q=1 from e.2.1];decide +kernel
 |j+1,hj=>by
  have ih:=SU hy h ig gY j aC;have vT:=tY hy ig gY j;obtain⟨ta,_⟩:=ih.uQ rfl;obtain⟨ya,_⟩:=h.uQ rfl;have B:=BP vT hy ta ya (aC:1<=p) aC;have s1:Sub (jm (kv y p j) y p) (nZ (-((j+1:Nat):Int))):=Cr B aC aC aC (by
   rintro r ⟨a,b,ha,hb,rfl⟩;obtain⟨a1,a2⟩:=AW.1 (ih.je ha);obtain⟨b1,b2⟩:=AW.1 (h.je hb);rw[<-Pe];exact Mj a1 a2 b1 b2)
  have vm:(jm (kv y p j) y p).gX:=nT _ _ aC aC;obtain⟨ma,_⟩:=s1.uQ rfl;have vn:=KK (j+1) aC;have hs:lO (iF ((j+1:Nat):Int))≠0:=by rw[acu aC];decide
  exact Cr (Fa vm vn ma hs (aC:1<=p) aC) aC aC aC (by
   rintro r ⟨a,b,ha,hb,rfl⟩;obtain⟨a1,a2⟩:=AW.1 (s1.je ha);obtain⟨b1,b2⟩:=hb.jC rfl;have e:=RM (j+1);rw[e.1]at b1;rw[e.2.1]at b2;rw[show b=((j+1:Nat):Rat)from dg b2 b1];exact Xb a1 a2)
def nm(x:Iv)(p:Nat):Bool:=x.all||(decide ((kg x).m=0)||decide ((kg x).ij <= -(p:Int)))
def TF{d:Dy}(hm:d.m≠0){n:Int}(h:iL d.q<=P2 n):d.ij<=n+1:=by
 apply bN;intro iA;have hT:d.ij=(ib d.m:Int)+d.e:=by unfold Dy.ij;rw[aY hm]
 have hb:0<ib d.m:=uR.2 (by rw[cB];omega);have h1:2^(ib d.m-1)<=d.m:=uR.1 aC;have h2:((2^(ib d.m-1):Nat):Rat)<=(d.m:Rat):=dr.2 h1;have h3:=cg h2 (bG (lV d.e));rw[<-vh,<-oE,show((ib d.m-1:Nat):Int)+d.e=d.ij-1 by rw[hT];omega]at h3;have h4:iL d.q=(d.m:Rat)*P2 d.e:=by
  have h0:0<=(d.m:Rat)*P2 d.e:=bQ cM (bG (lV _));rw[py];unfold iL;cases d.neg
  .simp only[bA,bq];rw[aZ h0]
  .simp only[bD];split<;>grind
 have h5:=y8 (aC:n+1<=d.ij-1);have h6:P2 (n+1)=P2 n*2:=by rw[oE];congr 1
 have:=lV n
 grind
def TD{x:Iv}(hx:x.gX){p:Nat}(h:Sub x (nZ (-((p+1:Nat):Int)))):nm x p=true:=by
 unfold nm;cases ha:x.all
 .by_cases hm:(kg x).m=0
  .rw [bh hm];rfl
  .obtain ⟨_,k1,k2⟩:=h.uQ rfl;obtain⟨m1,m2,m3⟩:=yC hx.q;replace k1:(jv (oC (-((p+1:Nat):Int)))).q<=x.lo.q:=k1;replace k2:x.hi.q<=(oC (-((p+1:Nat):Int))).q:=k2;rw[px,pv]at k1;rw[pv]at k2;have hq:=hx.q;have pK:=lV (-((p+1:Nat):Int));generalize hu:P2 (-((p+1:Nat):Int))=u at *
   have hle:iL (kg x).q<=u:=wE (by rcases m3 with m3|m3<;>grind) (by rcases m3 with m3|m3<;>grind);have:=TF hm (hu▸hle);rw[bh (show(kg x).ij <= -(p:Int)by omega)];simp
 .rfl
def SS{y:Iv}(h:y.all=true)(p:Nat):kv y p 1=ie:=by
 show jT (jm (iF 1) y p) _ p=_;rw[Gg p (.inr h),CD p (.inl rfl)]
def Yi{y:Iv}(hy:y.gX)(h:y.all=true\/Sub y (nZ (-1))){p:Nat}(ig:8<=p)(gY:p<=512):∃ N,1<=N/\N<=1000/\(∀ x,1<=x->x<N->nm (kv y p x) p=false)/\nm (kv y p N) p=true:=by
 have ex:∃ x,x<900/\decide (1<=x/\nm (kv y p x) p=true)=true:=by
  rcases h with h|h
  .exact ⟨1,aC,bh ⟨aC,by rw[SS h];rfl⟩⟩
  .exact ⟨p+1,aC,bh ⟨aC,TD (tY hy ig gY _) (SU hy h ig gY (p+1) aC)⟩⟩
 obtain⟨N,n1,n2,n3⟩:=vU (p:=λx=>decide (1<=x/\nm (kv y p x) p=true)) ex;have n2':=cQ n2;refine⟨N,n2'.1,aC,λx h1 h2=>?_,n2'.2⟩;have:=fi (n3 x h2);cases hc:nm (kv y p x) p
 .rfl
 .exact absurd ⟨h1,hc⟩ this
def rA(y:Iv)(p:Nat):Nat->Iv
 | 0=>iF 1
 |j+1=>jN (rA y p j) (kv y p (j+1)) p
def wL(y:Iv)(p N:Nat):Iv:=jN (rA y p N) (pE (kv y p N)) p
def A7{y:Iv}(hy:y.gX){p:Nat}(ig:8<=p)(gY:p<=512):∀ j,(rA y p j).gX
 | 0=>Al 1 aE 
 |j+1=>oW (A7 hy ig gY j) (tY hy ig gY _) aC aC 
def Yh{y:Iv}(hy:y.gX){p:Nat}(ig:8<=p)(gY:p<=512)(N:Nat):(wL y p N).gX:=oW (A7 hy ig gY N) (AT (tY hy ig gY N)) aC aC 
def kR(x:Iv)(p:Nat):Iv:=if x.all then ie else kI (jk x.lo p false) (jf x.lo p false) (jk x.hi p true) (jf x.hi p true)
def ss(a b:Iv):Iv:=if a.all||b.all then ie else⟨a.lo,b.hi,false⟩
def B5{x:Iv}(hx:x.gX){p:Nat}(hp:1<=p)(gY:p<=4096):(kR x p).gX:=by
 unfold kR;cases xa:x.all
 .obtain ⟨c1,c2⟩:=hx.xN;simp only[bA,bq];unfold kI;split
  .exact kS
  .rename_i he;have A:=tV c1 hp gY;have B:=tW c2 hp gY;refine .inr ⟨rfl,rW _ hp gY _,rW _ hp gY _,?_⟩;rw[o9];exact bF (A.1 aC).2 (bF hx.q (B.1 aC).2)
 .exact kS
def Ea{x:Iv}(hx:x.gX){p:Nat}(hp:1<=p)(gY:p<=4096){r:Rat}(h:x.je r):(kR x p).je r:=by
 unfold kR;cases xa:x.all
 .obtain ⟨c1,c2⟩:=hx.xN;obtain⟨h1,h2⟩:=h.jC xa;simp only[bA,bq];unfold kI;split
  .exact .inl rfl
  .rename_i he;have A:=tV c1 hp gY;have B:=tW c2 hp gY;exact .inr ⟨bF (A.1 aC).2 h1,bF h2 (B.1 aC).2⟩
 .exact .inl rfl
def aef{x:Iv}(hx:x.gX){p:Nat}(hp:1<=p)(gY:p<=4096){n:Int}(h1:-1000<=n)(h2:n<=1000)(h:Sub x (nZ n)):Sub (kR x p) (nZ n):=by
 obtain⟨xa,k1,k2⟩:=h.uQ rfl;replace k1:(jv (oC n)).q<=x.lo.q:=k1;replace k2:x.hi.q<=(oC n).q:=k2;rw[px,pv]at k1;rw[pv]at k2;obtain⟨c1,c2⟩:=hx.xN;have A:=(tV c1 hp gY).2 _ (xC hp h1 h2).neg k1;have B:=(tW c2 hp gY).2 _ (xC hp h1 h2) k2;unfold kR kI;rw[xa];simp only[bA,bq];rw[aY aC];refine .inr ⟨rfl,?_,?_⟩
 .show (jv (oC n)).q<=_;rw[px,pv];exact A.2
 .show _<=(oC n).q;rw[pv];exact B.2
def abl{f g:Nat->Rat}{A B:Iv}(hA:nY f A)(hB:nY g B)(h:∀ ε,0<ε->∃ N0,∀ N,N0<=N->f N<=g N+ε)(aa:A.all=false)(ba:B.all=false):A.lo.q<=B.hi.q:=by
 apply df.1;intro iA;obtain⟨ε,hε⟩:∃ ε,ε=(A.lo.q-B.hi.q)/4:=⟨_,rfl⟩
 have h0:0<ε:=by rw[hε];grind
 obtain⟨N1,h1⟩:=hA ε h0;obtain⟨N2,h2⟩:=hB ε h0;obtain⟨N3,h3⟩:=h ε h0;obtain⟨r,hr,hd⟩:=h1 (max N1 (max N2 N3)) aC;obtain⟨s,hs,he⟩:=h2 (max N1 (max N2 N3)) aC;have h4:=h3 (max N1 (max N2 N3)) aC;obtain⟨r1,r2⟩:=hr.jC aa;obtain⟨s1,s2⟩:=hs.jC ba;obtain⟨_,a2,a3,_⟩:=lP (f (max N1 (max N2 N3))-r);obtain⟨_,b2,b3,_⟩:=lP (g (max N1 (max N2 N3))-s)
 grind
def Ui{c:Rat}(h:0<=c)(N:Nat):1<=EQ c N:=by
 have:=Ei (f:=eQ c) (λi=>s7 h i) (aC:1<=N+1);have e:iE (eQ c) 1=1:=by show 0+1=1;grind
 unfold EQ;rw[e]at this;exact this
def Uh(c:Rat){ε:Rat}(hε:0<ε):∃ N0,∀ N,N0<=N -> -ε<=EQ c N:=by
 obtain⟨N0,h0⟩:=Hs (c/2) (c/2) hε;rw[show c/2+c/2=c by grind]at h0;refine⟨N0,λN hN=>?_⟩;have h:=h0 N hN;have hs:0<=EQ (c/2) N*EQ (c/2) N:=by
  by_cases k:0<=EQ (c/2) N
  .exact bQ k k
  .have:=bQ (show 0 <= -EQ (c/2) N by grind) (show 0 <= -EQ (c/2) N by grind)
   grind
 obtain⟨_,a2,a3,_⟩:=lP (EQ c N-EQ (c/2) N*EQ (c/2) N)
 grind
def Ue{c:Rat}(h:0<=c):∃ M:Rat,0<M/\∀ N,EQ c N<=M:=by
 obtain⟨m0,h0⟩:=Tx h (show(0:Rat)<1 by decide);have hs:0<=iE (eQ c) m0:=by
  have:=Ei (f:=eQ c) (λi=>s7 h i) (bO m0);exact this
 refine⟨iE (eQ c) m0+1,aK,λN=>?_⟩;unfold EQ;by_cases hN:m0<=N+1
 .obtain ⟨d,hd⟩:∃ d,N+1=m0+d:=⟨N+1-m0,aC⟩
  rw[hd,Cd];have:=h0 m0 (bd _) d
  grind
 .have:=Ei (f:=eQ c) (λi=>s7 h i) (aC:N+1<=m0)
  grind
def Ug{a b:Rat}(h:a<=b){ε:Rat}(hε:0<ε):∃ N0,∀ N,N0<=N->EQ a N<=EQ b N+ε:=by
 have hd:0<=b-a:= aK ;obtain⟨N1,h1⟩:=Hs a (b-a) (show 0<ε/2 by grind);rw[show a+(b-a)=b by grind]at h1;obtain⟨M,q9,hM⟩:∃ M:Rat,0<M/\∀ N,EQ (b-a) N<=M:=Ue hd;obtain⟨N2,h2⟩:=Uh a (show 0<ε/(2*M)by rw[cN];exact eh hε (fh.2 aK));refine⟨max N1 N2,λN hN=>?_⟩;have k1:=h1 N aC;have k2:=h2 N aC;have e:ε/(2*M)*M=ε/2:=by
  have:=dG (a:=ε) (b:=2*M) aK 
  grind
 have k3:=Ui hd N;have k4:=hM N;obtain⟨_,a2,a3,_⟩:=lP (EQ b N-EQ a N*EQ (b-a) N);generalize EQ a N=x at *
 generalize EQ (b-a) N=y at *
 generalize EQ b N=z at *
 generalize ε/(2*M)=δ at *
 have m1:=bQ (show 0<=x+δ by grind) (show 0<=y-1 by grind);have hδ:0<=δ:=by
  apply df.1;intro iA;have:=dP iA q9
  grind
 have m2:=cE (show y-1<=M by grind) hδ
 grind
def N9{y:Iv}{r:Rat}(hy:y.gX)(h:y.je r){p:Nat}(ig:8<=p)(gY:p<=512):∀ j,j<4294967296->(rA y p j).je (EQ r j)
 | 0,_=>by
  have:EQ r 0=1:=by unfold EQ;simp only[iE,eQ];grind
  rw[this];exact xk 1
 |j+1,hj=>ze (A7 hy ig gY j) (tY hy ig gY (j+1)) aC aC (N9 hy h ig gY j aC) (Ly hy ig gY h (j+1) hj)
def Ye{y:Iv}(h:y.all=true){p N:Nat}(hN:1<=N):(wL y p N).all=true:=by
 have ht:(kv y p N).all=true:=by
  cases hc:(kv y p N).all
  .obtain ⟨d,rfl⟩:∃ d,N=1+d:=⟨N-1,aC⟩
   have:=SR hc;rw[SS h]at this;cases this
  .rfl
 unfold wL;rw[EL p (.inr (by unfold pE;rw[ht];simpa using ht))];rfl
def Yf{y:Iv}{r:Rat}(hy:y.gX)(h:y.je r)(hr:iL r*2<=1){p:Nat}(ig:8<=p)(gY:p<=512){N:Nat}(hN:1<=N)(qP:N<=1000)(M:Nat)(hM:N<=M):(wL y p N).je (EQ r M):=by
 obtain⟨d,rfl⟩:∃ d,M=N+d:=⟨M-N,aC⟩
 have e1:EQ r (N+d)=EQ r N+iE (λi=>eQ r (N+1+i)) d:=by
  unfold EQ;rw[(aC:N+d+1=N+1+d),Cd]
 have hz:=(lP r).1;have t:=LK hz (J:=1) (by exact hr) (aC:1<=N+1) d;have p0:=s7 hz (N+1+d);have b1:iL (iE (λi=>eQ r (N+1+i)) d)<=iE (λi=>eQ (iL r) (N+1+i)) d:=by
  have:=AO (λi=>eQ r (N+1+i)) d;rwa[oQ d λi _=>CG r (N+1+i)]at this
 have e3:eQ (iL r) (N+1)*2<=eQ (iL r) N:=LJ hz (J:=1) (by exact hr) (aC:1<=N);rw[e1];refine ze (A7 hy ig gY N) (AT (tY hy ig gY N)) aC aC (N9 hy h ig gY N aC) (Mu (tY hy ig gY N) (Ly hy ig gY h N aC) ?_);rw[CG];grind
def Yg{y:Iv}{r:Rat}(hy:y.gX)(h:y.je r)(hb:y.all=true\/Sub y (nZ (-1))){p:Nat}(ig:8<=p)(gY:p<=512){N:Nat}(hN:1<=N)(qP:N<=1000):nY (EQ r) (wL y p N):=by
 rcases hb with hb|hb
 .exact nY.all (Ye hb hN)
 .refine nY.KQ (k:=N) λM hM=>Yf hy h ?_ ig gY hN qP M hM
  obtain⟨b1,b2⟩:=AW.1 (hb.je h);have e:P2 (-1)=1/2:= aL ;rw[e]at b1 b2;have:=wE (x:=r) (b:=1/2) aK aK 
  grind
def nf(x:Iv)(p:Nat):Iv:=if(jx x).all then ie else kI (jk (uW (jx x).lo (jx x).lo) p false) (jf (uW (jx x).lo (jx x).lo) p false) (jk (uW (jx x).hi (jx x).hi) p true) (jf (uW (jx x).hi (jx x).hi) p true)
def Mg{x:Iv}(xa:x.all=false):0<=(jx x).lo.q:=by
 unfold jx;rw[xa];show 0<=(nj x).q;unfold nj;split
 .rw [tR];exact bV
 .obtain ⟨_,_,m⟩:=Ar (lg x.lo) (lg x.hi);rcases m with m|m<;>rw[m]
  .exact (xq x.lo).1
  .exact (xq x.hi).1
def xG(x:Iv):(jx x).all=x.all:=by unfold jx;cases h:x.all<;>simp[h,ie]
def LD{x:Iv}(hx:x.gX){p:Nat}(hp:1<=p)(gY:p<=4096){r:Rat}(h:x.je r):(nf x p).je (r*r):=by
 unfold nf;rw[xG];cases xa:x.all
 .simp only[bA,bq];obtain⟨s,hs,h0,e⟩:∃ s,(jx x).je s/\0<=s/\r*r=s*s:=by
   by_cases hr:0<=r
   .exact ⟨r,EI hx h (.inl ⟨rfl,hr⟩),hr,rfl⟩
   .exact ⟨-r,EI hx h (.inr ⟨rfl,aK⟩),aK,aK⟩
  have hl:=Mg xa;have ya:(jx x).all=false:=by rw[xG];exact xa
  obtain⟨s1,s2⟩:=hs.jC ya;rw[e];unfold kI;split
  .exact .inl rfl
  .rename_i he;have A:=tV (xL (jx x).lo (jx x).lo) hp gY;have B:=tW (xL (jx x).hi (jx x).hi) hp gY;rw[BW]at A B;have a1:=(A.1 aC).2;have b1:=(B.1 aC).2;refine .inr ⟨?_,?_⟩
   .have m1:=cg s1 hl;have m2:=cE s1 h0;show _<=s*s;exact bF a1 (bF m1 (by rw[ej s];rw[ej (jx x).lo.q s];exact m2))
   .have m1:=cg s2 h0;have m2:=cE s2 (bF h0 s2);exact bF (bF m1 m2) b1
 .exact .inl rfl
def GW{x:Iv}(hx:x.gX){p:Nat}(hp:1<=p)(gY:p<=4096):(nf x p).gX:=by
 cases xa:x.all
 .have h1:=LD hx hp gY hx.wQ;unfold nf at h1 ⊢;rw[xG,xa]at h1 ⊢;simp only[bA,bq]at h1 ⊢;unfold kI at h1 ⊢;split
  .exact kS
  .rename_i he;rw[aY he]at h1;obtain⟨h2,h3⟩:=h1.jC rfl;refine .inr ⟨rfl,rW _ hp gY _,rW _ hp gY _,?_⟩;rw[o9];exact bF h2 h3
 .unfold nf;rw[xG,xa];exact kS
def nY.sqr{f:Nat->Rat}{X:Iv}(hx:X.gX)(h:nY f X){p:Nat}(hp:1<=p)(gY:p<=4096):nY (λN=>f N*f N) (nf X p):=by
 cases xa:X.all
 .intro ε hε;obtain⟨B,hB⟩:∃ B,B=iL X.lo.q+iL X.hi.q+1:=⟨_,rfl⟩
  have a0:=lP X.lo.q;have b0:=lP X.hi.q;have hB1:1<=B:= aK ;have Jh:0<2*B:= aK ;obtain⟨δ,hδ⟩:∃ δ,δ=min 1 (ε/(2*B)):=⟨_,rfl⟩
  have hεB:0<ε/(2*B):=by rw[cN];exact eh hε (fh.2 Jh)
  have Qn:0<δ:=by rw[hδ];grind
  have hδ1:δ<=1:=by rw[hδ];grind
  have hδ2:δ*(2*B)<=ε:=by
   have h1:δ<=ε/(2*B):=by rw[hδ];grind
   have h2:=cg h1 (bG Jh);rwa[dG aK]at h2
  obtain⟨N0,h0⟩:=h δ Qn;refine⟨N0,λN hN=>?_⟩;obtain⟨r,hr,hd⟩:=h0 N hN;refine⟨r*r,LD hx hp gY hr,?_⟩;obtain⟨r1,r2⟩:=hr.jC xa;rw[show f N*f N-r*r=(f N-r)*(f N+r)by grind,wF];have hs:iL (f N+r)<=2*B:=by
   obtain⟨_,c2,c3,_⟩:=lP (f N-r);exact wE aK aK 
  have h3:=cE hs (lP (f N-r)).1;have h4:=cg hd (bG Jh)
  grind
 .exact nY.all (by unfold nf;rw[xG,xa];rfl)
def Uf(r:Rat):∀ ε,0<ε->∃ N0,∀ N,N0<=N->iL (EQ r N-EQ (r*P2 (-1)) N*EQ (r*P2 (-1)) N)<=ε:=by
 intro ε hε;have e:r*P2 (-1)+r*P2 (-1)=r:=by
  have:P2 (-1)=1/2:= aL ;rw[this];grind
 have:=Hs (r*P2 (-1)) (r*P2 (-1)) hε;rwa[e]at this
def abk{r:Rat}{X:Iv}(hx:X.gX)(h:nY (EQ (r*P2 (-1))) X){p:Nat}(hp:1<=p)(gY:p<=4096):nY (EQ r) (nf X p):=(h.sqr hx hp gY).shift (Uf r)
def aeP{y:Iv}{n:Int}(h:Sub y (nZ n)):(lr y (-1)).all=true\/Sub (lr y (-1)) (nZ (n-1)):=by
 obtain⟨ya,k1,k2⟩:=h.uQ rfl;replace k1:(jv (oC n)).q<=y.lo.q:=k1;replace k2:y.hi.q<=(oC n).q:=k2;rw[px,pv]at k1;rw[pv]at k2;unfold lr kI;rw[ya];simp only[bA,bq];split
 .exact .inl rfl
 .rename_i he;have e:P2 (n-1)=P2 n*P2 (-1):=by rw[<-oE];congr 1
  refine .inr (.inr ⟨rfl,?_,?_⟩)
  .show (jv (oC (n-1))).q<=(rn y.lo (-1)).q;rw[px,pv,yR aC,e,<-gq,tJ];exact k1
  .show (rn y.hi (-1)).q<=(oC (n-1)).q;rw[pv,yR aC,e,tJ];exact k2
def ru(z:Rat)(k:Nat):Rat:=my z (2*k+1)/((2*k+1:Nat):Rat)
def AQ(z:Rat)(N:Nat):Rat:=iE (ru z) (N+1)
def mO(z:Iv)(p:Nat):Nat->Iv
 | 0=>z
 |k+1=>jm (mO z p k) (nf z p) p
def sK(z:Iv)(p:Nat):Nat->Iv
 | 0=>z
 |k+1=>jN (sK z p k) (jT (mO z p (k+1)) (iF ((2*k+3:Nat):Int)) p) p
noncomputable def BK(z:Iv)(p N:Nat):Iv:=lr (jN (sK z p N) (pE (mO z p N)) p) 1
def vV{z:Iv}(hz:z.gX){p:Nat}(ig:8<=p)(gY:p<=512):∀ k,(mO z p k).gX
 | 0=>hz
 |_+1=>nT _ _ aC aC 
def Ah{z:Iv}(hz:z.gX){p:Nat}(ig:8<=p)(gY:p<=512):∀ k,(sK z p k).gX
 | 0=>hz
 |k+1=>oW (Ah hz ig gY k) (rz _ _ aC aC) aC aC 
def abg{z:Iv}(hz:z.gX){p:Nat}(ig:8<=p)(gY:p<=512)(N:Nat):(BK z p N).gX:=Ec (oW (Ah hz ig gY N) (AT (vV hz ig gY N)) aC aC) 1
def Lr(r:Rat)(k:Nat):my r (2*(k+1)+1)=my r (2*k+1)*(r*r):=by
 show my r (2*k+1)*r*r=_
 grind
def Kn{z:Iv}{r:Rat}(hz:z.gX)(h:z.je r){p:Nat}(ig:8<=p)(gY:p<=512):∀ k,(mO z p k).je (my r (2*k+1))
 | 0=>by
  have e:my r (2*0+1)=r:=by show 1*r=r;grind
  rw[e];exact h
 |k+1=>by
  rw[Lr];exact Ky (vV hz ig gY k) (GW hz aC aC) aC aC (Kn hz h ig gY k) (LD hz aC aC h)
def QP{z:Iv}{r:Rat}(hz:z.gX)(h:z.je r){p:Nat}(ig:8<=p)(gY:p<=512):∀ k,k<1000000->(sK z p k).je (AQ r k)
 | 0,_=>by
  have e:AQ r 0=r:=by
   show 0+1*r/((2*0+1:Nat):Rat)=r;have:((2*0+1:Nat):Rat)=1:=rfl;rw[this,cN,show(1:Rat)⁻¹=1 by decide +kernel];grind
  rw[e];exact h
 |k+1,hk=>ze (Ah hz ig gY k) (rz _ _ aC aC) aC aC (QP hz h ig gY k aC)
  (Fb (vV hz ig gY (k+1)) (KK (2*k+3) aC) aC aC (Kn hz h ig gY (k+1)) (RN (2*k+3)))
def H8(r:Rat):∀ n,iL (my r n)=my (iL r) n
 | 0=>by show iL 1=1;decide +kernel
 |n+1=>by simp only[my];rw[wF,H8 r n]
def Uz(r:Rat)(k:Nat):iL (ru r k)<=my (iL r) (2*k+1):=by
 unfold ru;have hp:(0:Rat)<((2*k+1:Nat):Rat):=yF (2*k);have h1:(1:Rat)<=((2*k+1:Nat):Rat):=by
  have:=dr (a:=1) (b:=2*k+1);exact this.2 aC 
 have h0:=Az (lP r).1 (2*k+1);rw[cN,wF,H8];have hi:=fh.2 hp;have e:iL (((2*k+1:Nat):Rat)⁻¹)=((2*k+1:Nat):Rat)⁻¹:=by unfold iL;rw[aZ (bG hi)]
 rw[e,<-cN];have x0:=NL h0 hp;have xc:=dG (a:=my (iL r) (2*k+1)) (b:=((2*k+1:Nat):Rat)) aK;generalize my (iL r) (2*k+1)/((2*k+1:Nat):Rat)=x at *
 have:=cE h1 x0
 grind
def Mv{r:Rat}(hr:iL r*2<=1)(N:Nat):∀ d,iE (λi=>iL (ru r (N+1+i))) d+my (iL r) (2*(N+d)+1)<=my (iL r) (2*N+1)
 | 0=>by simp only[iE,bL];grind
 |d+1=>by
  have ih:=Mv hr N d;have h1:=Uz r (N+1+d);have e:2*(N+1+d)+1=2*(N+d+1)+1:= aC ;rw[e,Lr]at h1;have e2:2*(N+(d+1))+1=2*(N+d+1)+1:= aC ;rw[e2,Lr,iE];have h0:=Az (lP r).1 (2*(N+d)+1);have hz:=(lP r).1;have hs:iL r*iL r*4<=1:=by
   have m:=cE hr (show 0<=iL r*2 by grind)
   grind
  generalize my (iL r) (2*(N+d)+1)=u at *
  generalize iL r*iL r=v at *
  have m2:=cE hs h0
  grind
def abf{z:Iv}{r:Rat}(hz:z.gX)(h:z.je r)(hr:iL r*2<=1){p:Nat}(ig:8<=p)(gY:p<=512){N:Nat}(hN:N<=1000):∀ M,N<=M->(BK z p N).je (AQ r M*2):=by
 intro M hM;obtain⟨d,rfl⟩:∃ d,M=N+d:=⟨M-N,aC⟩
 have e1:AQ r (N+d)=AQ r N+iE (λi=>ru r (N+1+i)) d:=by
  unfold AQ;rw[(aC:N+d+1=N+1+d),Cd]
 have t:=Mv hr N d;have b1:=AO (λi=>ru r (N+1+i)) d;have p0:=Az (lP r).1 (2*(N+d)+1);have e2:P2 1=2:= aL ;rw[<-e2,e1];refine Lw (ze (Ah hz ig gY N) (AT (vV hz ig gY N)) aC aC (QP hz h ig gY N aC) (Mu (vV hz ig gY N) (Kn hz h ig gY N) ?_)) 1;rw[H8];grind
def afb{z:Iv}(hz:z.gX)(h:Sub z (nZ (-1))){p:Nat}(ig:8<=p)(gY:p<=512):Sub (nf z p) (nZ (-1)):=by
 obtain⟨za,k1,k2⟩:=h.uQ rfl;replace k1:(jv (oC (-1))).q<=z.lo.q:=k1;replace k2:z.hi.q<=(oC (-1)).q:=k2;have e:P2 (-1)=1/2:= aL ;rw[px,pv,e]at k1;rw[pv,e]at k2;have hl:=Mg za;have ha:(jx z).gX:=EJ hz;have hq:=ha.q;have hh:(jx z).hi.q<=1/2:=by
  unfold jx;rw[za];show(kg z).q<=1/2;obtain⟨_,_,m⟩:=yC hz.q;have:=hz.q;rcases m with m|m<;>grind
 have G1:=xC (p:=p) aC (n:=-1) aE aE;have A:=tV (xL (jx z).lo (jx z).lo) (p:=p) aC aC;have B:=tW (xL (jx z).hi (jx z).hi) (p:=p) aC aC;rw[BW]at A B;rw[e]at G1;have jK:0<=(jx z).lo.q*(jx z).lo.q:=bQ hl hl;have hhi:(jx z).hi.q*(jx z).hi.q<=1/2:=by
  have h0:0<=(jx z).hi.q:=bF hl hq;have m:=cE hh h0
  grind
 have a1:=A.2 (-(1/2)) G1.neg aK;have b1:=B.2 (1/2) G1 hhi;unfold nf kI;rw[xG,za];simp only[bA,bq];rw[aY aC];refine .inr ⟨rfl,?_,?_⟩
 .show (jv (oC (-1))).q<=_;rw[px,pv,e];exact a1.2
 .show _<=(oC (-1)).q;rw[pv,e];exact b1.2
def QO{z:Iv}(hz:z.gX)(h:Sub z (nZ (-1))){p:Nat}(ig:8<=p)(gY:p<=512):∀ k,k<=900->Sub (mO z p k) (nZ (-((k+1:Nat):Int)))
 | 0,_=>h
 |k+1,hk=>by
  have ih:=QO hz h ig gY k aC;have sq:=afb hz h ig gY;have vT:=vV hz ig gY k;obtain⟨ta,_⟩:=ih.uQ rfl;obtain⟨ya,_⟩:=sq.uQ rfl;exact Cr (BP vT (GW hz aC aC) ta ya (aC:1<=p) aC) aC aC aC (by
   rintro r ⟨a,b,ha,hb,rfl⟩;obtain⟨a1,a2⟩:=AW.1 (ih.je ha);obtain⟨b1,b2⟩:=AW.1 (sq.je hb);rw[<-Pe];exact Mj a1 a2 b1 b2)
def abh{z:Iv}(hz:z.gX)(h:z.all=true\/Sub z (nZ (-1))){p:Nat}(ig:8<=p)(gY:p<=512):∃ N,N<=1000/\(∀ x,x<N->nm (mO z p x) p=false)/\nm (mO z p N) p=true:=by
 have ex:∃ x,x<900/\nm (mO z p x) p=true:=by
  rcases h with h|h
  .exact ⟨0,aC,by show nm z p=true;unfold nm;rw[h];rfl⟩
  .exact ⟨p,aC,TD (vV hz ig gY _) (QO hz h ig gY p aC)⟩
 obtain⟨N,n1,n2,n3⟩:=vU ex;exact⟨N,aC,n3,n2⟩
def UJ{a b:Rat}(h:a<=b)(k:Nat):ru a k<=ru b k:=by
 unfold ru;rw[cN,cN];exact cg (Lq aC h) (bG (fh.2 (yF (2*k))))
def EA{a b:Rat}(h:a<=b)(N:Nat):AQ a N<=AQ b N:=AH _ λk _=>UJ h k
def D5{d:Dy}(h:d.m≠0):iL d.q<P2 d.ij:=by
 have hT:d.ij=(ib d.m:Int)+d.e:=by unfold Dy.ij;rw[aY h]
 have h1:(d.m:Rat)<((2^ib d.m:Nat):Rat):=Rat.natCast_lt_natCast.2 (qH d.m);have h2:=dP h1 (lV d.e);rw[<-vh,<-oE]at h2;have h0:0<=(d.m:Rat)*P2 d.e:=bQ cM (bG (lV _));have h4:iL d.q=(d.m:Rat)*P2 d.e:=by
  rw[py];unfold iL;cases d.neg
  .simp only[bA,bq];rw[aZ h0]
  .simp only[bD];split<;>grind
 rw[h4,hT];exact h2
def K5{d:Dy}(h:d.m≠0):P2 (d.ij-1)<=iL d.q:=by
 have hT:d.ij=(ib d.m:Int)+d.e:=by unfold Dy.ij;rw[aY h]
 have hb:0<ib d.m:=uR.2 (by rw[cB];omega);have h1:2^(ib d.m-1)<=d.m:=uR.1 aC;have h2:((2^(ib d.m-1):Nat):Rat)<=(d.m:Rat):=dr.2 h1;have h3:=cg h2 (bG (lV d.e));rw[<-vh,<-oE,show((ib d.m-1:Nat):Int)+d.e=d.ij-1 by rw[hT];omega]at h3;have h4:iL d.q=(d.m:Rat)*P2 d.e:=by
  have h0:0<=(d.m:Rat)*P2 d.e:=bQ cM (bG (lV _));rw[py];unfold iL;cases d.neg
  .simp only[bA,bq];rw[aZ h0]
  .simp only[bD];split<;>grind
 rw[h4];exact h3
def BV{d:Dy}(h:0<d.q):d.m≠0:=λe=>by
 have:d.q=0:=by rw[py,e];simp
 grind
def EK{r:Rat}(h:0<r):iL r=r:=by unfold iL;rw[aZ (bG h)]
def tI(d:Dy):Rat:=d.q*P2 (-d.ij)
def xB(d:Dy):Rat:=(tI d-1)/(tI d+1)
def Ma(k:Int):P2 k*P2 (-k)=1:=by rw[<-oE,(aC:k + -k=0),Hu]
def Rc{d:Dy}(h:0<d.q):1/2<=tI d/\tI d<1:=by
 have h1:=K5 (BV h);have h2:=D5 (BV h);rw[EK h]at h1 h2;have hp:=lV (-d.ij);have e1:=Ma d.ij;have e2:P2 (d.ij-1)*P2 (-d.ij)=1/2:=by
  rw[<-oE,(aC:d.ij-1 + -d.ij = -1)];decide +kernel
 have m1:=cg h1 (bG hp);have m2:=dP h2 hp;unfold tI;constructor<;>grind
def Ja{a b:Rat}(ha:0<=a)(h:a<=b):(a-1)/(a+1)<=(b-1)/(b+1):=by
 have h1:0<a+1:= aK ;have h2:0<b+1:= aK ;have e1:=dG (a:=a-1) (b:=a+1) aK;have e2:=dG (a:=b-1) (b:=b+1) aK;generalize (a-1)/(a+1)=x at *
 generalize (b-1)/(b+1)=y at *
 apply df.1;intro iA;have m1:=dP iA h1;have hy:y<1:=by
  apply Rat.not_le.1;intro hle;have:=cg hle (bG h2)
  grind
 have m2:=cE h (show 0<=1-y by grind)
 grind
def LZ{d:Dy}(h:0<d.q):-(1/3)<=xB d/\xB d<=0:=by
 obtain⟨h1,h2⟩:=Rc h;have a:=Ja (show(0:Rat)<=1/2 by decide +kernel) h1;have b:=Ja (show 0<=tI d by grind) (bG h2);have e1:((1:Rat)/2-1)/(1/2+1) = -(1/3):= aL ;have e2:((1:Rat)-1)/(1+1)=0:= aL ;rw[e1]at a;rw[e2]at b;exact⟨a,b⟩
def Hp(z:Rat)(N:Nat):AQ (-z) N = -AQ z N:=by
 have:∀ n,iE (ru (-z)) n = -iE (ru z) n:=by
  intro n
  induction n with
  |zero=>simp[iE]
  |succ n ih=>
   rw[iE,iE,ih];have:ru (-z) n = -ru z n:=by
    unfold ru;rw[Aw,aY aC];simp only[cN];grind
   rw[this];grind
 exact this _
def L3(N:Nat):AQ 0 N=0:=by
 have:=Hp 0 N;rw[show -(0:Rat)=0 by decide +kernel]at this
 grind
def Ud(N:Nat):0<=AQ (1/3) N:=by
 have:=EA (show(0:Rat)<=1/3 by decide +kernel) N;rwa[L3]at this
def LQ(d:Dy)(N:Nat):Rat:=AQ (xB d) N*2+(d.ij:Rat)*(AQ (1/3) N*2)
def afP{a b:Dy}(ha:0<a.q)(h:a.q<=b.q):a.ij<=b.ij:=by
 have hb:0<b.q:= aK ;have h1:=K5 (BV ha);have h2:=D5 (BV hb);rw[EK ha]at h1;rw[EK hb]at h2;apply bN;intro iA;have:=y8 (aC:b.ij<=a.ij-1)
 grind
def Uo{a b:Dy}(ha:0<a.q)(h:a.q<=b.q)(N:Nat):LQ a N<=LQ b N:=by
 have hb:0<b.q:= aK ;have ht:=afP ha h;obtain⟨a1,a2⟩:=LZ ha;obtain⟨b1,b2⟩:=LZ hb;have c0:=Ud N;unfold LQ;rcases Int.lt_or_eq_of_le ht with iA|heq
 .have k1:=EA a2 N;rw[L3]at k1;have k2:=EA b1 N;rw[Hp]at k2;have k3:(a.ij:Rat)+1<=(b.ij:Rat):=by
   have:=dc (a:=a.ij+1) (b:=b.ij);have:=this.2 aC;rwa[eF]at this
  have k4:=cg k3 (show 0<=AQ (1/3) N*2 by grind)
  grind
 .have hm:tI a<=tI b:=by
   unfold tI;rw[heq];exact cg h (bG (lV _))
  have hz:xB a<=xB b:=Ja (by have:=(Rc ha).1;grind) hm;have:=EA hz N;rw[heq]
  grind
def Ur(N:Nat):LQ ⟨false,1,0⟩ N=0:=by
 have e1:xB ⟨false,1,0⟩ = -(1/3):= aL ;have e2:((⟨false,1,0⟩:Dy).ij:Rat)=1:= aL ;unfold LQ;rw[e1,e2,Hp];grind
noncomputable def rL(d:Dy)(p:Nat):Iv:=lr (kR (kK d) p) (-d.ij)
noncomputable def BN(d:Dy)(p:Nat):Iv:=jT (jN (rL d p) (iF (-1)) p) (jN (rL d p) (iF 1) p) p
def TG{d:Dy}(hd:d.gX)(h:d.m≠0):-16384<=d.ij-1/\d.ij<=16384:=by
 have hT:d.ij=(ib d.m:Int)+d.e:=by unfold Dy.ij;rw[aY h]
 have hb:0<ib d.m:=uR.2 (by rw[cB];omega);have h1:=hd.range;unfold mN at h1;have h2:=hd.exp;constructor
 .omega
 .rw [hT]
  first|omega|(rcases h1 with h1|h1<;>first|omega|exact absurd h1 h)
def aeg{d:Dy}(hd:d.gX)(h:0<d.q){p:Nat}(ig:8<=p)(gY:p<=512)(ha:(kR (kK d) p).all=false):P2 (d.ij-1)<=(kR (kK d) p).lo.q/\(kR (kK d) p).hi.q<=P2 d.ij:=by
 have hm:=BV h;obtain⟨t1,t2⟩:=TG hd hm;have q1:=K5 hm;have q2:=D5 hm;rw[EK h]at q1 q2;have A:=tV hd.canon (p:=p) aC aC;have B:=tW hd.canon (p:=p) aC aC;have G1:G p (P2 (d.ij-1)):=.inl ⟨1,d.ij-1,by rw[xH];omega,t1,by rw[xH];omega,aH⟩;have he:¬(jf d p false≠0\/jf d p true≠0):=by
  intro hc;unfold kR kI at ha;rw[show(kK d).all=false from rfl]at ha;simp only[bA,bq]at ha;rw[aZ (show jf (kK d).lo p false≠0\/jf (kK d).hi p true≠0 from hc)]at ha;cases ha
 have e1:(kR (kK d) p).lo=jk d p false/\(kR (kK d) p).hi=jk d p true:=by
  unfold kR kI;rw[show(kK d).all=false from rfl];simp only[bA,bq];rw[aY (show ¬(jf (kK d).lo p false≠0\/jf (kK d).hi p true≠0)from he)];exact⟨rfl,rfl⟩
 rw[e1.1,e1.2];refine⟨(A.2 _ G1 q1).2,?_⟩;by_cases ht:d.ij<=16383
 .have G2:G p (P2 d.ij):=.inl ⟨1,d.ij,by rw[xH];omega,aC,by rw[xH];omega,aH⟩;exact(B.2 _ G2 (bG q2)).2
 .obtain ⟨g,_⟩:=B.1 aC ;have PU:0<=(jk d p true).q:=bF (bG h) (B.1 aC).2;obtain⟨m,e,hb,_,hr,hv⟩:=g.pos PU;rw[hv];have h1:(m:Rat)<=((2^ib m:Nat):Rat):=dr.2 (dq (qH m));have h2:=cg h1 (bG (lV e));rw[<-vh,<-oE]at h2;exact bF h2 (y8 aC)
def aby{d:Dy}(hd:d.gX){p:Nat}(ig:8<=p)(gY:p<=512):(rL d p).je (tI d):=Lw (Ea (rk hd) aC aC (K0 d)) _
def abA{d:Dy}(hd:d.gX){p:Nat}(ig:8<=p)(gY:p<=512):(rL d p).gX:=Ec (B5 (rk hd) aC aC) _
def abz{d:Dy}(hd:d.gX)(h:0<d.q){p:Nat}(ig:8<=p)(gY:p<=512)(ha:(rL d p).all=false):1/2<=(rL d p).lo.q/\(rL d p).hi.q<=1:=by
 unfold rL lr at ha ⊢;cases ra:(kR (kK d) p).all
 .rw [ra]at ha;obtain⟨h1,h2⟩:=aeg hd h ig gY ra;simp only[bA,bq]at ha ⊢;unfold kI at ha ⊢;split
  .rename_i he;rw[aZ he]at ha;cases ha
  .rename_i he;have e1:=Ma d.ij;have e2:P2 (d.ij-1)*P2 (-d.ij)=1/2:=by
    rw[<-oE,(aC:d.ij-1 + -d.ij = -1)];decide +kernel
   refine⟨?_,?_⟩
   .show 1/2<=(rn _ _).q;rw[yR aC,<-e2,tJ];exact h1
   .show (rn _ _).q<=1;rw[yR aC,<-e1,tJ];exact h2
 .rw [ra]at ha;cases ha
def ZZ{a b:Rat}(h1:-(1/2)<=a)(h2:a<=1/2)(hb:1<=b):-(1/2)<=a/b/\a/b<=1/2:=by
 have e:=dG (a:=a) (b:=b) aK;generalize a/b=x at *
 constructor
 .apply df.1;intro iA;have:=dP iA (show 0<b by grind)
  grind
 .apply df.1;intro iA;have:=dP iA (show 0<b by grind)
  grind
def abB{d:Dy}(hd:d.gX)(h:0<d.q){p:Nat}(ig:8<=p)(gY:p<=512):(BN d p).gX/\(BN d p).je (xB d)/\((BN d p).all=true\/Sub (BN d p) (nZ (-1))):=by
 have vM:=abA hd ig gY;have hM:=aby hd ig gY;have vn:(iF (-1)).gX:=tK aE;have v1:(iF 1).gX:=tK aE;have vA:(jN (rL d p) (iF (-1)) p).gX:=oW vM vn aC aC;have vB:(jN (rL d p) (iF 1) p).gX:=oW vM v1 aC aC;have e1:((-1:Int):Rat) = -1:= aL ;have e2:((1:Int):Rat)=1:= aL ;have hA:=ze vM vn (p:=p) aC aC hM (xk (-1));have hB:=ze vM v1 (p:=p) aC aC hM (xk 1);rw[e1,show tI d + -1=tI d-1 by grind]at hA;rw[e2]at hB;refine⟨rz _ _ aC aC,Fb vA vB aC aC hA hB,?_⟩;cases ma:(rL d p).all
 .right;obtain⟨m1,m2⟩:=abz hd h ig gY ma;have one:∀ (n:Int) r,(iF n).je r->r=(n:Rat):=λn r hr=>by
   obtain⟨r1,r2⟩:=hr.jC rfl;replace r1:(iK n).q<=r:=r1;replace r2:r<=(iK n).q:=r2;rw[tO]at r1 r2;exact dg r2 r1
  have g1:G p (1/2):=by have:=xC (p:=p) aC (n:=-1) aE aE;rwa[show P2 (-1)=1/2 by decide +kernel]at this
  have g2:G p 1:=by have:=xC (p:=p) aC (n:=0) aE aE;rwa[Hu]at this
  have g4:G p 2:=by have:=xC (p:=p) aC (n:=1) aE aE;rwa[show P2 1=2 by decide +kernel]at this
  obtain⟨aa,a1,a2⟩:=(Cp vM vn ma rfl (aC:1<=p) aC).tE (-(1/2)) (1/2) g1.neg g1 (by
   rintro r ⟨a,b,ha,hb,rfl⟩;obtain⟨b1,b2⟩:=ha.jC ma;rw[one _ b hb,e1];constructor<;>grind)
  obtain⟨ba,b1,b2⟩:=(Cp vM v1 ma rfl (aC:1<=p) aC).tE 1 2 g2 g4 (by
   rintro r ⟨a,b,ha,hb,rfl⟩;obtain⟨b1,b2⟩:=ha.jC ma;rw[one _ b hb,e2];constructor<;>grind)
  refine Cr (Fa vA vB aa (LB ba (.inl aK)) (aC:1<=p) aC) aC aE aE ?_;rintro r ⟨a,b,ha,hb,rfl⟩;obtain⟨x1,x2⟩:=ha.jC aa;obtain⟨y1,y2⟩:=hb.jC ba;rw[show P2 (-1)=1/2 by decide +kernel];exact ZZ aK aK aK 
 .left;show(jT (jN (rL d p) (iF (-1)) p) (jN (rL d p) (iF 1) p) p).all=true;rw[EL p (.inl ma),CD p (.inl rfl)];rfl
def Yd{d:Dy}(hd:d.gX)(h:d.m≠0){p:Nat}(ig:8<=p)(gY:p<=512){n:Int}(h1:d.ij<=n)(h2:-1000<=n)(h3:n<=1000):Sub (kR (kK d) p) (nZ n):=by
 refine aef (rk hd) aC aC h2 h3 (.inr ⟨rfl,?_,?_⟩)
 .show (jv (oC n)).q<=d.q;rw[px,pv];have:=D5 h;have hl:=y8 h1;obtain⟨_,a2,a3,_⟩:=lP d.q
  grind
 .show d.q<=(oC n).q;rw[pv];have:=D5 h;have hl:=y8 h1;obtain⟨_,a2,a3,_⟩:=lP d.q
  grind
def TZ(y:Iv)(p n:Nat)(x:Nat):PS:=⟨32,true,[(7,.e (iP ((x+1:Nat):Int))),(6,.box 6 0),(5,.box 5 0),(4,.box 4 0),(3,.box 3 0),(2,.box 2 0)],[(6,.cells 46 (iG (rA y p x))),(5,.cells 46 (iG (kv y p x))),(4,.cells 46 au),(3,.cells 46 (iG y)),(2,.cells 257 [iP p])]⟩
def abm{f:Nat->Rat}{X Y:Iv}(h:nY f X)(k:∀ r,X.je r->Y.je r):nY f Y:=λε hε=>by
 obtain⟨N0,h0⟩:=h ε hε;exact⟨N0,λN hN=>by obtain⟨r,h1,h2⟩:=h0 N hN;exact⟨r,k r h1,h2⟩⟩
def ivW{x:Iv}(hx:x.gX)(ha:x.all=true):x=ie:=by
 obtain⟨h1,h2⟩:=Qz hx ha;obtain⟨a,b,c⟩:=x;simp only at h1 h2 ha;rw[h1,h2,ha];rfl
def UZ(x:Iv)(hx:x.gX)(xa:x.all=true)(k:Int)(k1:-32768<=k)(k2:k<=32768):gU 344 [ia x,iP k] (ia (lr x k)):=
 ak call344 func344 (ae [.o 10 (.e (lZ _):aj (.sl true 1 7 λi_ j_=>(iG x).getD (i_*7+j_) (.v (.bool false))) (im [x])),ag [im [x]] (oz _ aD),ai 11 (!x.all) (by rw[xa];rfl),.c mq]<|rQ (ia ie) (ia (lr x k)) (by rw[show(lr x k)=ie by unfold lr;rw[aZ xa]])) 
def U1(x:Iv)(hx:x.gX)(xa:x.all=false)(k:Int)(k1:-32768<=k)(k2:k<=32768):gU 344 [ia x,iP k] (ia (lr x k)):=by
 obtain⟨v1,v2⟩:=hx.jC;exact ak call344 func344 (ae [.o 10 (.e (lZ _):aj (.sl true 1 7 λi_ j_=>(iG x).getD (i_*7+j_) (.v (.bool false))) (im [x])),ag [im [x]] (oz _ aD),ah 11 (!x.all) (by rw[xa];rfl),.c (MH x.lo k aD aC aC),.c (MH x.hi k aD aC aC),.c (Ad (s5 (canon x.lo.neg x.lo.m (x.lo.e+k))) (s5 (canon x.hi.neg x.hi.m (x.hi.e+k))) (s6 (canon x.lo.neg x.lo.m (x.lo.e+k))) (s6 (canon x.hi.neg x.hi.m (x.hi.e+k))))]<|rQ (ia (kI (s5 (canon x.lo.neg x.lo.m (x.lo.e+k))) (s6 (canon x.lo.neg x.lo.m (x.lo.e+k))) (s5 (canon x.hi.neg x.hi.m (x.hi.e+k))) (s6 (canon x.hi.neg x.hi.m (x.hi.e+k))))) (ia (lr x k)) (by unfold lr;rw[aY (by rw[xa];decide)];simp only[aeM,aeN])) 
def EP(x:Iv)(hx:x.gX)(k:Int)(k1:-32768<=k)(k2:k<=32768):gU 344 [ia x,iP k] (ia (lr x k)):=by
 cases xa:x.all with
 |true=>exact UZ x hx xa k k1 k2
 |false=>exact U1 x hx xa k k1 k2
def UX(x:Iv)(hx:x.gX)(xa:x.all=true)(p:Nat)(ig:8<=p)(gY:p<=512):gU 386 [ia x,iP p] (ia (kR x p)):=
 ak call386 func386 (ae [.o 10 (.e (lZ _):aj (.sl true 1 7 λi_ j_=>(iG x).getD (i_*7+j_) (.v (.bool false))) (im [x])),ag [im [x]] (oz _ aD),ai 11 (!x.all) (by rw[xa];rfl),.c mq]<|rQ (ia ie) (ia (kR x p)) (by rw[show(kR x p)=ie by unfold kR;rw[aZ xa]])) 
def UY(x:Iv)(hx:x.gX)(xa:x.all=false)(p:Nat)(ig:8<=p)(gY:p<=512):gU 386 [ia x,iP p] (ia (kR x p)):=by
 obtain⟨v1,v2⟩:=hx.jC;exact ak call386 func386 (ae [.o 10 (.e (lZ _):aj (.sl true 1 7 λi_ j_=>(iG x).getD (i_*7+j_) (.v (.bool false))) (im [x])),ag [im [x]] (oz _ aD),ah 11 (!x.all) (by rw[xa];rfl),ag [iP p] (tD _),ah 15 (lJ (p:Int)) (qp.2 ⟨aC,aC⟩),.c (ES x.lo p aD aC aC),.c (ET x.hi p aD aC aC),.c (Ad (jk x.lo p false) (jk x.hi p true) (jf x.lo p false) (jf x.hi p true))]<|rQ (ia (kI (jk x.lo p false) (jf x.lo p false) (jk x.hi p true) (jf x.hi p true))) (ia (kR x p)) (by unfold kR;rw[aY (by rw[xa];decide)])) 
def Cq(x:Iv)(hx:x.gX)(p:Nat)(ig:8<=p)(gY:p<=512):gU 386 [ia x,iP p] (ia (kR x p)):=by
 cases xa:x.all with
 |true=>exact UX x hx xa p ig gY
 |false=>exact UY x hx xa p ig gY
def U2(x:Iv)(hx:x.gX)(xa:x.all=true)(p:Nat)(ig:8<=p)(gY:p<=512):gU 402 [ia x,iP p] (ia (nf x p)):=by
 have ha:(jx x).all=true:=by rw[xG,xa]
 exact ak call402 func402 (ae [.c (Kd x aD),ah 13 ((jx x).all) ha,.c mq]<|rQ (ia ie) (ia (nf x p)) (by unfold nf;rw[aZ ha])) 
def U3(x:Iv)(hx:x.gX)(xa:x.all=false)(p:Nat)(ig:8<=p)(gY:p<=512):gU 402 [ia x,iP p] (ia (nf x p)):=by
 have ha:(jx x).all=false:=by rw[xG,xa]
 have hv:=EJ hx;obtain⟨v1,v2⟩:=hv.jC;exact ak call402 func402 (ae [.c (Kd x aD),ai 13 ((jx x).all) ha,ag [iP p] (tD _),ah 16 (lJ (p:Int)) (qp.2 ⟨aC,aC⟩),.c (GA ((jx x).lo) ((jx x).lo) p aD aD aC aC),.c (GB ((jx x).hi) ((jx x).hi) p aD aD aC aC),.c (Ad (jk (lI ((jx x).lo) ((jx x).lo)) p false) (jk (lI ((jx x).hi) ((jx x).hi)) p true) (jf (lI ((jx x).lo) ((jx x).lo)) p false) (jf (lI ((jx x).hi) ((jx x).hi)) p true))]<|rQ (ia (kI (jk (lI ((jx x).lo) ((jx x).lo)) p false) (jf (lI ((jx x).lo) ((jx x).lo)) p false) (jk (lI ((jx x).hi) ((jx x).hi)) p true) (jf (lI ((jx x).hi) ((jx x).hi)) p true))) (ia (nf x p)) (by unfold nf;rw[aY (by rw[ha];decide)];rfl)) 
def MA(x:Iv)(hx:x.gX)(p:Nat)(ig:8<=p)(gY:p<=512):gU 402 [ia x,iP (p:Int)] (ia (nf x p)):=by
 cases xa:x.all with
 |true=>exact U2 x hx xa p ig gY
 |false=>exact U3 x hx xa p ig gY
def MB(x:Iv)(hx:x.gX)(xa:x.all=true):gU 165 [ia x] (.ik [gZ jt,bP false]):=
 ak call165 func165 (af [.o 5 (.e (lZ _):aj (.sl true 1 7 λi_ j_=>(iG x).getD (i_*7+j_) (.v (.bool false))) (im [x])),ag [im [x]] (oz _ aD),ai 6 (!x.all) (by rw[xa];rfl),.o 8 (.e vf:aj (.agg ar) (gZ jt))]) 
def ve(n:Int)(h:n.natAbs<4294967296):gU 384 [iP n] (ia (iF n)):=by
 have hv:=ql h;exact ak call384 func384 (af [ag [iP n] (pF _ aC),.c (Ae (iK n) aD)]) 
def y4(p:Nat)(x y:Iv)(hx:x.gX)(hy:y.gX)(ig:8<=p)(gY:p<=512):gU 389 [.agg [iP p],ia x,ia y] (ia (jN x y p)):=
 ak call389 func389 (af [.c (BE x y p aD aD aC aC)]) 
def Hg(p:Nat)(x y:Iv)(hx:x.gX)(hy:y.gX)(ig:8<=p)(gY:p<=512):gU 391 [.agg [iP p],ia x,ia y] (ia (jm x y p)):=
 ak call391 func391 (af [.c (uP x y p aD aD aC aC)]) 
def Eu(p:Nat)(x y:Iv)(hx:x.gX)(hy:y.gX)(ig:8<=p)(gY:p<=512):gU 388 [.agg [iP p],ia x,ia y] (ia (jT x y p)):=
 ak call388 func388 (af [.c (Dq x y p aD aD aC aC)]) 
def ags(p:Nat)(x:Iv)(hx:x.gX)(xa:x.all=true)(ig:8<=p)(gY:p<=512):gU 403 [.agg [iP p],ia x] (bP (nm x p)):=
 ak call403 func403 (ae [.c (MB x hx xa)]<|rQ (bP true) (bP (nm x p)) (by unfold nm;rw[xa];rfl)) 
def TC{x:Iv}(xa:x.all=false)(p:Nat):nm x p=(((kg x).iJ==0)||decide ((kg x).ij<=0-(p:Int))):=by
 unfold nm;rw[xa,eD];congr 1
 .unfold Dy.iJ;by_cases h:(kg x).m=0
  .simp [h]
  .simp only[h,bq,decide_false];split<;>rfl
 .rw [show(0:Int)-p = -(p:Int)by omega]
def agt(p:Nat)(x:Iv)(hx:x.gX)(xa:x.all=false)(ig:8<=p)(gY:p<=512):gU 403 [.agg [iP p],ia x] (bP (nm x p)):=by
 have hm:=yD hx.jC.1 hx.jC.2;exact ak call403 func403 (ae [.c (BF x hx xa),ag [gZ (kg x)] (nE _ aD)]<|.w ((Dy.iJ (kg x))=0)
  (λk1=>ae [tB 17 (aU k1)]<|rQ (bP true) (bP (nm x p)) (by rw[TC xa];simp[k1]))
  (λk1=>ae [tB 17 (aT k1),ag [gZ (kg x)] (nx _ aD),iu (0-(p:Int)) aC]<|rQ (bP (decide ((Dy.ij (kg x))<=(0-(p:Int))))) (bP (nm x p)) (by rw[TC xa];simp[k1]))) 
def Hh(p:Nat)(x:Iv)(hx:x.gX)(ig:8<=p)(gY:p<=512):gU 403 [.agg [iP p],ia x] (bP (nm x p)):=by
 cases xa:x.all with
 |true=>exact ags p x hx xa ig gY
 |false=>exact agt p x hx xa ig gY
def agx(x:Iv)(hx:x.gX)(xa:x.all=true):gU 404 [ia x] (ia (pE x)):=
 ak call404 func404 (ae [.c (MB x hx xa),.c mq]<|rQ (ia ie) (ia (pE x)) (by rw[show pE x=ie by unfold pE;rw[aZ xa];exact ivW hx xa])) 
def agy(x:Iv)(hx:x.gX)(xa:x.all=false):gU 404 [ia x] (ia (pE x)):=by
 have hm:=yD hx.jC.1 hx.jC.2;exact ak call404 func404 (ae [.c (BF x hx xa),ag [gZ (kg x)] (vu _ aD)]<|rQ (ia (Iv.mk (jv (kg x)) (kg x) false)) (ia (pE x)) (by unfold pE;rw[aY (by rw[xa];decide)];try rfl)) 
def T7(x:Iv)(hx:x.gX):gU 404 [ia x] (ia (pE x)):=by
 cases xa:x.all with
 |true=>exact agx x hx xa
 |false=>exact agy x hx xa
def agn(y:Iv)(p n:Nat)(hy:y.gX)(ig:8<=p)(gY:p<=512)(h2:n<=1000)(jK:∀ x,x<n->nm (kv y p (x+1)) p=false)(hN:nm (kv y p (n+1)) p=true):gU 401 [.agg [iP p],ia y] (ia (wL y p (n+1))):=by
 have t0:=tY hy ig gY n;have s0:=A7 hy ig gY n;have t1:(jm (kv y p n) y p).gX:=nT _ _ aC aC;have n1:(iF ((n+1:Nat):Int)).gX:=Al _ aC;have t2:(jT (jm (kv y p n) y p) (iF ((n+1:Nat):Int)) p).gX:=rz _ _ aC aC;have a1:(jN (rA y p n) (jT (jm (kv y p n) y p) (iF ((n+1:Nat):Int)) p) p).gX:=oW s0 t2 aC aC;have r1:=AT t2;exact ak call401 func401 (ae [.c (ve 1 aC),.c (ve 1 aC),.s (Sp.kY (TZ y p n) 0 n aC (λx hx mZ=>by
    have t0:=tY hy ig gY x;have s0:=A7 hy ig gY x;have t1:(jm (kv y p x) y p).gX:=nT _ _ aC aC;have n1:(iF ((x+1:Nat):Int)).gX:=Al _ aC;have t2:(jT (jm (kv y p x) y p) (iF ((x+1:Nat):Int)) p).gX:=rz _ _ aC aC;exact jg (ae [.c (Hg p (kv y p x) y aD aD aC aC),.c (ve ((x+1:Nat):Int) aC),.c (Eu p (jm (kv y p x) y p) (iF ((x+1:Nat):Int)) aD aD aC aC),.c (y4 p (rA y p x) (jT (jm (kv y p x) y p) (iF ((x+1:Nat):Int)) p) aD aD aC aC),.c (Hh p (jT (jm (kv y p x) y p) (iF ((x+1:Nat):Int)) p) aD aC aC),ai 26 (nm (jT (jm (kv y p x) y p) (iF ((x+1:Nat):Int)) p) p) (jK x aC),
     iu (((x+1:Nat):Int)+1) aC]<|.e (af [.b 6 (.iH rfl:Bx.le (.cells 46 (iG (jN (rA y p x) (jT (jm (kv y p x) y p) (iF ((x+1:Nat):Int)) p) p))) (.cells 46 (iG (rA y p (x+1))))),.b 5 (.iH rfl:Bx.le (.cells 46 (iG (jT (jm (kv y p x) y p) (iF ((x+1:Nat):Int)) p))) (.cells 46 (iG (kv y p (x+1)))))])) aF)
  (λhx=>by
    exact jg (af [.c (Hg p (kv y p n) y aD aD aC aC),.c (ve ((n+1:Nat):Int) aC),.c (Eu p (jm (kv y p n) y p) (iF ((n+1:Nat):Int)) aD aD aC aC),.c (y4 p (rA y p n) (jT (jm (kv y p n) y p) (iF ((n+1:Nat):Int)) p) aD aD aC aC),.c (Hh p (jT (jm (kv y p n) y p) (iF ((n+1:Nat):Int)) p) aD aC aC),ah 26 (nm (jT (jm (kv y p n) y p) (iF ((n+1:Nat):Int)) p) p) hN]) aF) aI:kU 4 f401 (TZ y p n 0) (.exit 0) ⟨32,true,[(6,.box 6 0),(5,.box 5 0),(4,.box 4 0),(2,.box 2 0)],[(6,.cells 46 (iG (jN (rA y p n) (jT (jm (kv y p n) y p) (iF ((n+1:Nat):Int)) p) p))),(5,.cells 46 (iG (jT (jm (kv y p n) y p) (iF ((n+1:Nat):Int)) p))),(4,.cells 46 au),(2,.cells 257 [iP p])]⟩) (af [.o 7 (aq 1 ((0+1:Nat):Int) aO),.b 6 (.iH rfl:Bx.le (.cells 46 (iG (iF 1))) (.cells 46 (iG (rA y p 0)))),.b 5 (.iH rfl:Bx.le (.cells 46 (iG (iF 1))) (.cells 46 (iG (kv y p 0))))]),ag [ia (jT (jm (kv y p n) y p) (iF ((n+1:Nat):Int)) p)] (T7 _ aD),.c (y4 p (jN (rA y p n) (jT (jm (kv y p n) y p) (iF ((n+1:Nat):Int)) p) p) (pE (jT (jm (kv y p n) y p) (iF ((n+1:Nat):Int)) p)) aD aD aC aC)]<|rR (ia (wL y p (n+1))) (.iH rfl:E.le (ia (jN (jN (rA y p n) (jT (jm (kv y p n) y p) (iF ((n+1:Nat):Int)) p) p) (pE (jT (jm (kv y p n) y p) (iF ((n+1:Nat):Int)) p)) p)) (ia (wL y p (n+1))))) 
def ago{y:Iv}(hy:y.gX)(hb:y.all=true\/Sub y (nZ (-1))){p:Nat}(ig:8<=p)(gY:p<=512):∃ Z,Z.gX/\(∀ r,y.je r->nY (EQ r) Z)/\gU 401 [.agg [iP (p:Int)],ia y] (ia Z):=by
 obtain⟨N,h1,h2,h3,h4⟩:=Yi hy hb ig gY;obtain⟨n,rfl⟩:∃ n,N=n+1:=⟨N-1,aC⟩
 exact⟨wL y p (n+1),Yh hy ig gY _,λr hr=>Yg hy hr hb ig gY h1 h2,agn y p n hy ig gY aC (λx hx=>h3 (x+1) aC aC) h4⟩
def agq(y Z:Iv)(p:Nat)(ZK:gU 401 [.agg [iP (p:Int)],ia y] (ia Z)):gU 387 [.agg [iP p],ia y,iP 0] (ia Z):=
 ak call387 func387 (af [ah 8 ((0:Int)==0) aE,ag [.agg [iP p],ia y] ZK]) 
def agp(y Z:Iv)(p n:Nat)(hy:y.gX)(hZ:Z.gX)(hn:n<=1000)(hH:gU 387 [.agg [iP (p:Int)],ia (lr y (-1)),iP (n:Int)] (ia Z))(ig:8<=p)(gY:p<=512):gU 387 [.agg [iP p],ia y,iP ((n+1:Nat):Int)] (ia (nf Z p)):=
 ak call387 func387 (af [ai 8 (((n+1:Nat):Int)==0) (nk aC),.c (EP y aD (-1) aC aC),iu (((n+1:Nat):Int)-1) aC,.c (by rw[show(((n+1:Nat):Int)-1)=(n:Int)by omega];exact hH:gU 387 [.agg [iP p],ia (lr y (-1)),iP (((n+1:Nat):Int)-1)] (ia Z)),ag [ia Z,iP p] (MA _ aD _ aC aC)]) 
def T2{p:Nat}(ig:8<=p)(gY:p<=512):∀ (n:Nat) {y:Iv},n<=500->y.gX->(y.all=true\/Sub y (nZ ((n:Int)-1)))->∃ Z,Z.gX/\(∀ r,y.je r->nY (EQ r) Z)/\gU 387 [.agg [iP (p:Int)],ia y,iP (n:Int)] (ia Z)
 | 0,y,_,hy,hb=>by
  obtain⟨Z,h1,h2,h3⟩:=ago hy (by simpa using hb) ig gY;exact⟨Z,h1,h2,agq y Z p h3⟩
 |n+1,y,hn,hy,hb=>by
  have hs:=Ec hy (-1);have mo:(lr y (-1)).all=true\/Sub (lr y (-1)) (nZ ((n:Int)-1)):=by
   rcases hb with hb|hb
   .left;unfold lr;rw[aZ hb];rfl
   .have:=aeP hb;rwa[show(((n+1:Nat):Int)-1-1)=(n:Int)-1 by omega]at this
  obtain⟨Z,h1,h2,h3⟩:=T2 ig gY n aC hs mo;exact⟨nf Z p,GW h1 aC aC,λr hr=>abk h1 (h2 _ (Lw hr (-1))) aC aC,agp y Z p n hy h1 aC h3 ig gY⟩
def LW(p m:Nat)(h1:p<=512)(h2:m<=1000):gU 385 [iP p,iP m] (.agg [iP ((min (p+m) 512:Nat):Int)]):=
 ak call385 func385 (af [iu ((p:Int)+m) aC,.o 8 (aq (if 512<((p+m:Nat):Int)then 512 else((p+m:Nat):Int)) ((min (p+m) 512:Nat):Int) aM)]) 
def agN(d:Dy)(p:Nat)(hd:d.gX)(h0:d.iJ=0)(ig:8<=p)(gY:p<=512):gU 367 [gZ d,iP p] (ia (iF 1)):=
 ak call367 func367 (af [ag [gZ d] (nE _ aD),ah 9 ((Dy.iJ d)==0) (by rw[h0];rfl),.c (ve 1 aC)]) 
def Ej{d:Dy}(hd:d.gX):-100000<=d.ij:=by
 unfold Dy.ij;have:=hd.exp;split<;>omega
def afR{d:Dy}(h:d.m=0):d.ij=0:=by unfold Dy.ij;rw[aZ h]
def agM(d:Dy)(p:Nat)(Z:Iv)(hd:d.gX)(h0:d.iJ≠0)(ht:d.ij<=100)(hZ:Z.gX)(hH:gU 387 [.agg [iP (((min (p+(((d.ij+1).toNat)+24)) 512):Nat):Int)],ia (kR (kK d) (min (p+(((d.ij+1).toNat)+24)) 512)),iP ((((d.ij+1).toNat):Nat):Int)] (ia Z))(ig:8<=p)(gY:p<=512):gU 367 [gZ d,iP p] (ia (kR Z p)):=by
 have qE:-100000<=d.ij:=Ej hd;have vp:=rk hd;exact ak call367 func367 (af [ag [gZ d] (nE _ aD),ai 9 ((Dy.iJ d)==0) (by simpa using h0),ag [gZ d] (nx _ aD),iu ((Dy.ij d)+1) aC,.o 14 (aq (if 0>((Dy.ij d)+1)then 0 else((Dy.ij d)+1)) ((d.ij+1).toNat:Int) aM),iu (((d.ij+1).toNat:Int)+24) aC,.c (LW p (((d.ij+1).toNat)+24) aC aC),.c (Ae d aD),.c (Cq (kK d) aD (min (p+(((d.ij+1).toNat)+24)) 512) aC aC),ag [.agg [iP ((min (p+(((d.ij+1).toNat)+24)) 512:Nat):Int)],ia (kR (kK d) (min (p+(((d.ij+1).toNat)+24)) 512)),iP ((d.ij+1).toNat:Int)] hH,.c (Cq Z aD p aC aC)]) 
def ae1{d:Dy}(h:d.iJ≠0):d.m≠0:=λq=>h (by unfold Dy.iJ;rw[aZ q])
def Ua{d:Dy}(hd:d.gX)(ht:d.ij<=100){p:Nat}(ig:8<=p)(gY:p<=512):∃ Z,Z.gX/\nY (EQ d.q) Z/\gU 367 [gZ d,iP (p:Int)] (ia Z):=by
 by_cases h0:d.iJ=0
 .refine ⟨iF 1,tK aE,?_,agN d p hd h0 ig gY⟩;have hq:d.q=0:=by
   have h1:=rm d;rw[h0]at h1;have a:=h1.1.2;have b:=h1.2.2;have:¬0<d.q:=λq=>absurd (a q) aE 
   have:¬d.q<0:=λq=>absurd (b q) aE 
   grind
  rw[hq];exact nY.KQ (k:=0) λN _=>by rw[Uj];exact xk 1
 .have hm:=ae1 h0;obtain⟨P,hP⟩:∃ P,P=min (p+((d.ij+1).toNat+24)) 512:=⟨_,rfl⟩
  have hb:=Yd hd hm (p:=P) aC aC (n:=((d.ij+1).toNat:Int)-1) aC aC aC;obtain⟨Z,h1,h2,h3⟩:=T2 (p:=P) aC aC ((d.ij+1).toNat) aC (B5 (rk hd) aC aC) (.inr hb);subst hP;refine⟨kR Z p,B5 h1 aC aC,?_,agM d p Z hd h0 ht h1 h3 ig gY⟩;have hl:=h2 _ (Ea (rk hd) aC aC (K0 d));exact abm hl λr hr=>Ea h1 aC aC hr
def T8(a b:Iv)(ha:a.gX)(hb:b.gX):gU 366 [ia a,ia b] (ia (ss a b)):=
 ak call366 func366 (.w (a.all=true)
  (λk1=>ae [tB 6 k1,.c mq]<|rQ (ia ie) (ia (ss a b)) (by unfold ss;simp[k1]))
  (λk1=>ae [tB 6 (aV k1)]<|.w (b.all=true)
   (λk2=>ae [tB 9 k2,.c mq]<|rQ (ia ie) (ia (ss a b)) (by unfold ss;simp[k1,k2]))
   (λk2=>ae [tB 9 (aV k2)]<|rQ (ia (Iv.mk a.lo b.hi false)) (ia (ss a b)) (by unfold ss;simp[k1,k2])))) 
def rj(d:Dy):Bool:=decide (jj (lg d) (iK 1000)<=0)
def Ew(d:Dy)(hd:d.gX):gU 365 [gZ d] (bP (rj d)):=by
 have ha:=wD hd;have hi:(iK 1000).gX:=ql aE;exact ak call365 func365 (af [.c (CF d aD),ag [iP 1000] (pF _ aC),ag [gZ (lg d),gZ (iK 1000)] (nD _ _ aD aD)]) 
def AK(x:Iv)(p:Nat)(hx:x.gX)(ig:8<=p)(gY:p<=512):gU 364 [ia x,iP p] (bP (!x.all)):=
 ak call364 func364 (.w (x.all=true)
  (λk1=>ae [tB 6 k1]<|rQ (bP false) (bP (!x.all)) (by simp[k1]))
  (λk1=>ae [tB 6 (aV k1),.c (qR x aD),tT 14 (8<=(p:Int)) aC,tT 18 ((p:Int)<=512) aC]<|rQ (bP true) (bP (!x.all)) (by simp[k1]))) 
def agz(x:Iv)(p:Nat)(hx:x.gX)(ig:8<=p)(gY:p<=512)(xa:x.all=true):gU 327 [ia x,iP p] (ia ie):=
 ak call327 func327 (af [.c (AK x p aD aC aC),ai 7 (!x.all) (by rw[xa];rfl),.c mq]) 
def agD(x:Iv)(p:Nat)(hx:x.gX)(ig:8<=p)(gY:p<=512)(xa:x.all=false)(h1:rj x.lo=false):gU 327 [ia x,iP p] (ia ie):=by
 obtain⟨w1,w2⟩:=hx.jC;exact ak call327 func327 (af [.c (AK x p aD aC aC),ah 7 (!x.all) (by rw[xa];rfl),.c (Ew x.lo aD),ai 12 (rj x.lo) h1,.c mq]) 
def agB(x:Iv)(p:Nat)(hx:x.gX)(ig:8<=p)(gY:p<=512)(xa:x.all=false)(h1:rj x.lo=true)(h2:rj x.hi=false):gU 327 [ia x,iP p] (ia ie):=by
 obtain⟨w1,w2⟩:=hx.jC;exact ak call327 func327 (af [.c (AK x p aD aC aC),ah 7 (!x.all) (by rw[xa];rfl),.c (Ew x.lo aD),ah 12 (rj x.lo) h1,.c (Ew x.hi aD),ai 18 (rj x.hi) h2,.c mq]) 
def agC(x:Iv)(p:Nat)(hx:x.gX)(ig:8<=p)(gY:p<=512)(xa:x.all=false)(h1:rj x.lo=true)(h2:rj x.hi=true)(Z1 Z2:Iv)(z1:Z1.gX)(z2:Z2.gX)(k1:gU 367 [gZ x.lo,iP (p:Int)] (ia Z1))(k2:gU 367 [gZ x.hi,iP (p:Int)] (ia Z2)):gU 327 [ia x,iP p] (ia (ss Z1 Z2)):=by
 obtain⟨w1,w2⟩:=hx.jC;exact ak call327 func327 (af [.c (AK x p aD aC aC),ah 7 (!x.all) (by rw[xa];rfl),.c (Ew x.lo aD),ah 12 (rj x.lo) h1,.c (Ew x.hi aD),ah 18 (rj x.hi) h2,ag [gZ x.lo,iP p] k1,ag [gZ x.hi,iP p] k2,.c (T8 Z1 Z2 aD aD)]) 
def Ra{d:Dy}(hd:d.gX)(h:rj d=true):d.ij<=100:=by
 by_cases h0:d.m=0
 .rw [afR h0];decide
 .unfold rj at h;rw[cI,o9,tO]at h;have hq:=xq d;have ha:iL d.q<=P2 10:=by
   have:P2 10=1024:= aL ;rw[this];have Zz:((1000:Int):Rat)=1000:=rfl;rw[Zz]at h;exact wE aK aK 
  have:=TF h0 ha;omega
def N4{a b:Iv}(ha:a.gX)(hb:b.gX)(h:a.all=false->b.all=false->a.lo.q<=b.hi.q):(ss a b).gX:=by
 unfold ss;cases xa:a.all
 .cases xb:b.all
  .exact .inr ⟨rfl,ha.jC.1,hb.jC.2,(o9 _ _).2 (h xa xb)⟩
  .exact kS
 .exact kS
def agA{x:Iv}(hx:x.gX){p:Nat}(ig:8<=p)(gY:p<=512):∃ Z,Z.gX/\gU 327 [ia x,iP (p:Int)] (ia Z):=by
 cases xa:x.all with
 |true=>exact⟨ie,kS,agz x p hx ig gY xa⟩
 |false=>
  cases h1:rj x.lo with
  |false=>exact⟨ie,kS,agD x p hx ig gY xa h1⟩
  |true=>
   cases h2:rj x.hi with
   |false=>exact⟨ie,kS,agB x p hx ig gY xa h1 h2⟩
   |true=>
    obtain⟨w1,w2⟩:=hx.jC;obtain⟨Z1,z1,l1,k1⟩:=Ua w1 (Ra w1 h1) ig gY;obtain⟨Z2,z2,l2,k2⟩:=Ua w2 (Ra w2 h2) ig gY;exact⟨ss Z1 Z2,N4 z1 z2 λa b=>abl l1 l2 (λε hε=>Ug hx.q hε) a b,agC x p hx ig gY xa h1 h2 Z1 Z2 z1 z2 k1 k2⟩
def T3(z:Iv)(p N:Nat)(x:Nat):PS:=⟨39,true,[(8,.e (iP ((2*x+3:Nat):Int))),(7,.box 7 0),(6,.box 6 0),(5,.box 5 0),(4,.box 4 0),(2,.box 2 0)],[(7,.cells 46 (iG (sK z p x))),(6,.cells 46 (iG (mO z p x))),(5,.cells 46 (iG (nf z p))),(4,.cells 46 au),(2,.cells 257 [iP p])]⟩
def agr(z:Iv)(p N:Nat)(hz:z.gX)(ig:8<=p)(gY:p<=512)(h2:N<=1000)(jK:∀ x,x<N->nm (mO z p x) p=false)(hN:nm (mO z p N) p=true):gU 390 [.agg [iP p],ia z] (ia (BK z p N)):=by
 have hsq:=GW hz (aC:1<=p) (aC:p<=4096);have t0:=vV hz ig gY N;have s0:=Ah hz ig gY N;have r0:=AT t0;have a0:=oW s0 r0 (aC:1<=p) (aC:p<=4096);exact ak call390 func390 (ae [ag [ia z,iP p] (MA _ aD _ aC aC),.s (Sp.kY (T3 z p N) 0 N aC (λx hx mZ=>by
    have t0:=vV hz ig gY x;have s0:=Ah hz ig gY x;have q0:(jm (mO z p x) (nf z p) p).gX:=nT _ _ aC aC;have n1:(iF ((2*x+3:Nat):Int)).gX:=Al _ aC;have d1:(jT (jm (mO z p x) (nf z p) p) (iF ((2*x+3:Nat):Int)) p).gX:=rz _ _ aC aC;exact jg (ae [.c (Hh p (mO z p x) aD aC aC),ai 17 (nm (mO z p x) p) (jK x aC),.c (Hg p (mO z p x) (nf z p) aD aD aC aC),.c (ve ((2*x+3:Nat):Int) aC),.c (Eu p (jm (mO z p x) (nf z p) p) (iF ((2*x+3:Nat):Int)) aD aD aC aC),.c (y4 p (sK z p x) (jT (jm (mO z p x) (nf z p) p) (iF ((2*x+3:Nat):Int)) p) aD aD aC aC),iu (((2*x+3:Nat):Int)+2) aC]<|.e (af [.o 8 (aq (((2*x+3)+2:Nat):Int) ((2*(x+1)+3:Nat):Int) aO),.b 7 (.iH rfl:Bx.le (.cells 46 (iG (jN (sK z p x) (jT (jm (mO z p x) (nf z p) p) (iF ((2*x+3:Nat):Int)) p) p))) (.cells 46 (iG (sK z p (x+1))))),.b 6 (.iH rfl:Bx.le (.cells 46 (iG (jm (mO z p x) (nf z p) p))) (.cells 46 (iG (mO z p (x+1)))))])) aF)
  (λhx=>by
    have t0:=vV hz ig gY N;have s0:=Ah hz ig gY N;have q0:(jm (mO z p N) (nf z p) p).gX:=nT _ _ aC aC;have n1:(iF ((2*N+3:Nat):Int)).gX:=Al _ aC;have d1:(jT (jm (mO z p N) (nf z p) p) (iF ((2*N+3:Nat):Int)) p).gX:=rz _ _ aC aC;exact jg (af [.c (Hh p (mO z p N) aD aC aC),ah 17 (nm (mO z p N) p) hN]) aF) aI:kU 4 f390 (T3 z p N 0) (.exit 0) ⟨39,true,[(7,.box 7 0),(6,.box 6 0),(4,.box 4 0),(2,.box 2 0)],[(7,.cells 46 (iG (sK z p N))),(6,.cells 46 (iG (mO z p N))),(4,.cells 46 au),(2,.cells 257 [iP p])]⟩) (af [.o 8 (aq 3 ((2*0+3:Nat):Int) aO),.b 7 (.iH rfl:Bx.le (.cells 46 (iG z)) (.cells 46 (iG (sK z p 0)))),.b 6 (.iH rfl:Bx.le (.cells 46 (iG z)) (.cells 46 (iG (mO z p 0))))]),ag [ia (mO z p N)] (T7 _ aD),.c (y4 p (sK z p N) (pE (mO z p N)) aD aD aC aC),.c (EP (jN (sK z p N) (pE (mO z p N)) p) aD 1 aC aC)]<|rR (ia (BK z p N)) (.refl _:E.le (ia (lr (jN (sK z p N) (pE (mO z p N)) p) 1)) (ia (BK z p N)))) 
def AL(f:Nat->Rat)(X:Iv):Prop:=∃ N0,∀ M,N0<=M->X.je (f M)
def AL.mono{f:Nat->Rat}{X Y:Iv}(h:AL f X)(k:∀ r,X.je r->Y.je r):AL f Y:=h.imp λ_ h M hM=>k _ (h M hM)
def T4{z:Iv}(hz:z.gX)(hb:z.all=true\/Sub z (nZ (-1))){p:Nat}(ig:8<=p)(gY:p<=512):∃ Z,Z.gX/\(∀ r,z.je r->iL r*2<=1->AL (λM=>AQ r M*2) Z)/\gU 390 [.agg [iP p],ia z] (ia Z):=by
 obtain⟨N,h1,h2,h3⟩:=abh hz hb ig gY;exact⟨BK z p N,abg hz ig gY N,λr hr ha=>⟨N,λM hM=>abf hz hr ha ig gY h1 M hM⟩,agr z p N hz ig gY h1 h2 h3⟩
def afM{p:Nat}(ig:8<=p)(gY:p<=512):(jT (iF 1) (iF 3) p).gX/\(jT (iF 1) (iF 3) p).je (1/3)/\Sub (jT (iF 1) (iF 3) p) (nZ (-1)):=by
 have v1:(iF 1).gX:=tK aE;have v3:(iF 3).gX:=tK aE;have h1:=xk 1;have h3:=xk 3;refine⟨rz _ _ aC aC,?_,?_⟩
 .have:=Fb v1 v3 (p:=p) aC aC h1 h3;rwa[show((1:Int):Rat)/((3:Int):Rat)=1/3 from rfl]at this
 .have hs:lO (iF 3)≠0:=LB rfl (.inl (by show 0<(iK 3).q;rw[tO];decide));refine Cr (Fa v1 v3 rfl hs (p:=p) aC aC) aC aE aE ?_;rintro r ⟨a,b,ha,hb,rfl⟩;obtain⟨a1,a2⟩:=ha.jC rfl;obtain⟨b1,b2⟩:=hb.jC rfl;change (iK 1).q<=a at a1;change a<=(iK 1).q at a2;change (iK 3).q<=b at b1;change b<=(iK 3).q at b2;rw[tO]at a1 a2 b1 b2;have ea:a=1:=dg a2 a1;have eb:b=3:=dg b2 b1;subst ea eb;have:P2 (-1)=1/2:= aL ;rw[this];exact⟨aL,aL⟩
def agF(p:Nat)(Z:Iv)(hZ:Z.gX)(hL:gU 390 [.agg [iP (((min (p+16) 512):Nat):Int)],ia (jT (iF 1) (iF 3) (min (p+16) 512))] (ia Z))(ig:8<=p)(gY:p<=512):gU 392 [iP p] (ia (kR Z p)):=by
 have v1:(iF 1).gX:=tK aE;have v3:(iF 3).gX:=tK aE;exact ak call392 func392 (af [tF 5 ((p:Int)<8) aC,tF 8 (512<(p:Int)) aC,.c (LW p 16 aC aC),.c (ve 1 aC),.c (ve 3 aC),.c (Eu (min (p+16) 512) (iF 1) (iF 3) aD aD aC aC),ag [.agg [iP ((min (p+16) 512:Nat):Int)],ia (jT (iF 1) (iF 3) (min (p+16) 512))] hL,.c (Cq Z aD p aC aC)]) 
def agE{p:Nat}(ig:8<=p)(gY:p<=512):∃ Z,Z.gX/\AL (λM=>AQ (1/3) M*2) Z/\gU 392 [iP (p:Int)] (ia Z):=by
 obtain⟨t1,t2,t3⟩:=afM (p:=min (p+16) 512) aC aC;obtain⟨Z,h1,h2,h3⟩:=T4 t1 (.inr t3) (p:=min (p+16) 512) aC aC;refine⟨kR Z p,B5 h1 aC aC,(h2 _ t2 aL).mono λr hr=>Ea h1 aC aC hr,agF p Z h1 h3 ig gY⟩
def wm:Iv:=⟨jt,jt,false⟩
def Ub:E.le (.agg au) (ia wm):=
 .agg (.cons (.refl _) (.cons DO (.cons (.refl _) (.cons (.refl _) (.cons DO (.cons (.refl _) (.cons (.refl _) .nil)))))))
def agK(d:Dy)(p:Nat)(hd:d.gX)(h1:jj d ⟨false,1,0⟩=0)(ig:8<=p)(gY:p<=512):gU 368 [gZ d,iP p] (ia wm):=by
 have v1:=DW;exact ak call368 func368 (ae [ag [iP 1] Ic,ag [gZ d,gZ (Dy.mk false 1 0)] (nD _ _ aD aD),ah 12 ((jj d (Dy.mk false 1 0))==0) (by rw[h1];rfl)]<|rR (ia wm) (Ub:E.le (.agg au) (ia wm))) 
def agL(d:Dy)(p:Nat)(Z Y:Iv)(hd:d.gX)(h1:¬jj d ⟨false,1,0⟩=0)(P3:-20000<=d.ij)(qE:d.ij<=20000)(hZ:Z.gX)(hY:Y.gX)(hL:gU 390 [.agg [iP (((min (p+40) 512):Nat):Int)],ia (jT (jN (lr (kR (kK d) (min (p+40) 512)) (0-(Dy.ij d))) (iF (-1)) (min (p+40) 512)) (jN (lr (kR (kK d) (min (p+40) 512)) (0-(Dy.ij d))) (iF 1) (min (p+40) 512)) (min (p+40) 512))] (ia Z))(ZM:gU 392 [iP (((min (p+40) 512):Nat):Int)] (ia Y))(ig:8<=p)(gY:p<=512):gU 368 [gZ d,iP p] (ia (kR (jN Z (jm (iF d.ij) Y (min (p+40) 512)) (min (p+40) 512)) p)):=by
 have v1:=DW;have vp:=rk hd;have vr:(kR (kK d) (min (p+40) 512)).gX:=B5 vp aC aC;have vs:(lr (kR (kK d) (min (p+40) 512)) (0-(Dy.ij d))).gX:=Ec vr _;have n1:(iF 1).gX:=tK aE;have n2:(iF (-1)).gX:=tK aE;have a1:(jN (lr (kR (kK d) (min (p+40) 512)) (0-(Dy.ij d))) (iF (-1)) (min (p+40) 512)).gX:=oW vs n2 aC aC;have a2:(jN (lr (kR (kK d) (min (p+40) 512)) (0-(Dy.ij d))) (iF 1) (min (p+40) 512)).gX:=oW vs n1 aC aC;have a3:(jT (jN (lr (kR (kK d) (min (p+40) 512)) (0-(Dy.ij d))) (iF (-1)) (min (p+40) 512)) (jN (lr (kR (kK d) (min (p+40) 512)) (0-(Dy.ij d))) (iF 1) (min (p+40) 512)) (min (p+40) 512)).gX:=rz _ _ aC aC;have nt:(iF d.ij).gX:=tK aC;have m1:(jm (iF d.ij) Y (min (p+40) 512)).gX:=nT _ _ aC aC;have m2:(jN Z (jm (iF d.ij) Y (min (p+40) 512)) (min (p+40) 512)).gX:=oW hZ m1 aC aC;exact ak call368 func368 (af [ag [iP 1] Ic,ag [gZ d,gZ (Dy.mk false 1 0)] (nD _ _ aD aD),ai 12 ((jj d (Dy.mk false 1 0))==0) (by simpa using h1),.c (LW p 40 aC aC),ag [gZ d] (nx _ aD),.c (Ae d aD),.c (Cq (kK d) aD (min (p+40) 512) aC aC),
  iu (0-(Dy.ij d)) aC,.c (EP (kR (kK d) (min (p+40) 512)) aD (0-(Dy.ij d)) aC aC),.c (ve (-1) aC),.c (y4 (min (p+40) 512) (lr (kR (kK d) (min (p+40) 512)) (0-(Dy.ij d))) (iF (-1)) aD aD aC aC),.c (ve 1 aC),.c (y4 (min (p+40) 512) (lr (kR (kK d) (min (p+40) 512)) (0-(Dy.ij d))) (iF 1) aD aD aC aC),.c (Eu (min (p+40) 512) (jN (lr (kR (kK d) (min (p+40) 512)) (0-(Dy.ij d))) (iF (-1)) (min (p+40) 512)) (jN (lr (kR (kK d) (min (p+40) 512)) (0-(Dy.ij d))) (iF 1) (min (p+40) 512)) aD aD aC aC),ag [.agg [iP ((min (p+40) 512:Nat):Int)],ia (jT (jN (lr (kR (kK d) (min (p+40) 512)) (0-(Dy.ij d))) (iF (-1)) (min (p+40) 512)) (jN (lr (kR (kK d) (min (p+40) 512)) (0-(Dy.ij d))) (iF 1) (min (p+40) 512)) (min (p+40) 512))] hL,.c (ve (Dy.ij d) aC),ag [iP ((min (p+40) 512:Nat):Int)] ZM,.c (Hg (min (p+40) 512) (iF (Dy.ij d)) Y aD aD aC aC),.c (y4 (min (p+40) 512) Z (jm (iF (Dy.ij d)) Y (min (p+40) 512)) aD aD aC aC),.c (Cq (jN Z (jm (iF (Dy.ij d)) Y (min (p+40) 512)) (min (p+40) 512)) aD p aC aC)]) 
def T9{d:Dy}(hd:d.gX)(hq:0<d.q){p:Nat}(ig:8<=p)(gY:p<=512):∃ Z,Z.gX/\AL (LQ d) Z/\gU 368 [gZ d,iP (p:Int)] (ia Z):=by
 by_cases h1:jj d ⟨false,1,0⟩=0
 .refine ⟨wm,.inr ⟨rfl,qe,qe,Ag _⟩,⟨0,λM _=>?_⟩,agK d p hd h1 ig gY⟩;have e:d=⟨false,1,0⟩:=by
   refine adm hd.canon DW.canon (dg ((o9 _ _).1 aC) ((o9 _ _).1 ?_));rw[Cu];have:=Cu d ⟨false,1,0⟩;omega
  rw[e,Ur];exact .inr ⟨by show jt.q<=0;rw[tR];exact bV,by show 0<=jt.q;rw[tR];exact bV⟩
 .have hm:=BV hq;obtain⟨t1,t2⟩:=TG hd hm;obtain⟨P,hP⟩:∃ P,P=min (p+40) 512:=⟨_,rfl⟩
  have p1:8<=P:= aC ;have p2:P<=512:= aC ;obtain⟨z1,z2,z3⟩:=abB hd hq p1 p2;obtain⟨Z,a1,a2,a3⟩:=T4 z1 z3 p1 p2;obtain⟨Y,b1,b2,b3⟩:=agE p1 p2;have m1:(jm (iF d.ij) Y P).gX:=nT _ _ aC aC;have m2:=oW a1 m1 (p:=P) aC aC;refine⟨kR (jN Z (jm (iF d.ij) Y P) P) p,B5 m2 aC aC,?_,?_⟩
  .have hz:=LZ hq;have ha:iL (xB d)*2<=1:=by
    have:=wE (x:=xB d) (b:=1/3) aK aK 
    grind
   obtain⟨N1,c1⟩:=a2 _ z2 ha;obtain⟨N2,c2⟩:=b2;refine⟨max N1 N2,λM hM=>Ea m2 aC aC ?_⟩;exact ze a1 m1 aC aC (c1 M aC) (Ky (tK aC) b1 aC aC (xk d.ij) (c2 M aC))
  .subst hP;have e:BN d (min (p+40) 512)=jT (jN (lr (kR (kK d) (min (p+40) 512)) (0-(Dy.ij d))) (iF (-1)) (min (p+40) 512)) (jN (lr (kR (kK d) (min (p+40) 512)) (0-(Dy.ij d))) (iF 1) (min (p+40) 512)) (min (p+40) 512):=by unfold BN rL;rw[(aC:-d.ij=0-d.ij)]
   rw[e]at a3;exact agL d p Z Y hd h1 aC aC a1 b1 a3 b3 ig gY
def agG(x:Iv)(p:Nat)(hx:x.gX)(ig:8<=p)(gY:p<=512)(xa:x.all=true):gU 328 [ia x,iP p] (ia ie):=
 ak call328 func328 (af [.c (AK x p aD aC aC),ai 7 (!x.all) (by rw[xa];rfl),.c mq]) 
def agJ(x:Iv)(p:Nat)(hx:x.gX)(ig:8<=p)(gY:p<=512)(xa:x.all=false)(h1:x.lo.iJ<=0):gU 328 [ia x,iP p] (ia ie):=by
 obtain⟨w1,w2⟩:=hx.jC;exact ak call328 func328 (af [.c (AK x p aD aC aC),ah 7 (!x.all) (by rw[xa];rfl),ag [gZ x.lo] (nE _ aD),tB 13 (bh h1),.c mq]) 
def agI(x:Iv)(p:Nat)(hx:x.gX)(ig:8<=p)(gY:p<=512)(xa:x.all=false)(h1:¬x.lo.iJ<=0)(Z1 Z2:Iv)(z1:Z1.gX)(z2:Z2.gX)(k1:gU 368 [gZ x.lo,iP (p:Int)] (ia Z1))(k2:gU 368 [gZ x.hi,iP (p:Int)] (ia Z2)):gU 328 [ia x,iP p] (ia (ss Z1 Z2)):=by
 obtain⟨w1,w2⟩:=hx.jC;exact ak call328 func328 (af [.c (AK x p aD aC aC),ah 7 (!x.all) (by rw[xa];rfl),ag [gZ x.lo] (nE _ aD),tB 13 (bg h1),ag [gZ x.lo,iP p] k1,ag [gZ x.hi,iP p] k2,.c (T8 Z1 Z2 aD aD)]) 
def agH{x:Iv}(hx:x.gX){p:Nat}(ig:8<=p)(gY:p<=512):∃ Z,Z.gX/\gU 328 [ia x,iP (p:Int)] (ia Z):=by
 cases xa:x.all with
 |true=>exact⟨ie,kS,agG x p hx ig gY xa⟩
 |false=>
  by_cases h1:x.lo.iJ<=0
  .exact ⟨ie,kS,agJ x p hx ig gY xa h1⟩
  .obtain ⟨w1,w2⟩:=hx.jC;have q1:0<x.lo.q:=(rm _).1.1 aC;have q2:0<x.hi.q:=by have:=hx.q;grind
   obtain⟨Z1,z1,⟨N1,l1⟩,k1⟩:=T9 w1 q1 ig gY;obtain⟨Z2,z2,⟨N2,l2⟩,k2⟩:=T9 w2 q2 ig gY;refine⟨ss Z1 Z2,N4 z1 z2 λa b=>?_,agI x p hx ig gY xa h1 Z1 Z2 z1 z2 k1 k2⟩;have e1:=((l1 (max N1 N2) aC).jC a).1;have e2:=((l2 (max N1 N2) aC).jC b).2;have e3:=Uo q1 hx.q (max N1 N2);exact bF e1 (bF e3 e2)
def sI(a s:Nat):Prop:=s*s<=a/\a<(s+1)*(s+1)
def SC(a:Nat):∃ s,sI a s:=by
 induction a with
 |zero=>exact⟨0,aE,aE⟩
 |succ a ih=>
  obtain⟨s,h1,h2⟩:=ih;by_cases h:(s+1)*(s+1)<=a+1
  .refine ⟨s+1,h,?_⟩;have:(s+1+1)*(s+1+1)=(s+1)*(s+1)+2*(s+1)+1:=by
    simp only[bR,bJ,bT,ch];omega
   omega
  .exact ⟨s,aC,aC⟩
def aed{a s t:Nat}(h:sI a s)(ht:t*t<=a):t<=s:=by
 apply bN;intro iA;have:=cW (aC:s+1<=t) (aC:s+1<=t);have:=h.2;omega
def nU(a x:Nat):Nat:=(x+a/x)/2
def aco{a s x:Nat}(h:sI a s)(hx:0<x):s<=nU a x:=by
 unfold nU;apply bN;intro iA;have h1:x+a/x<2*s:=by generalize a/x=q at *;omega
 have h2:a<(a/x+1)*x:=by
  have:=cC a x;have:=bC a hx;rw[bR,bT,bB (a/x)];omega
 have hq:a/x+1<=2*s-x/\x<=2*s:=by
  generalize a/x=q at *
  omega
 have h3:(a/x+1)*x<=(2*s-x)*x:=bI x hq.1;have agX:=hq.2;have h4:(2*s-x)*x<=s*s:=by
  obtain⟨k,hk⟩:∃ k,2*s=x+k:=⟨2*s-x,by clear h1 h2 h3 iA hq;omega⟩
  rw[show 2*s-x=k by clear h1 h2 h3 iA hq;omega];clear h1 h2 h3 iA hq;rcases Nat.le_total x s with oJ|oJ
  .obtain ⟨e,rfl⟩:∃ e,s=x+e:=⟨s-x,aC⟩
   obtain rfl:k=x+2*e:= aC ;simp only[bR,bJ,bB x e,bu];have:0<=e*e:=bO _;have e1:e*(2*x)=2*(e*x):=dL e 2 x;omega
  .obtain ⟨e,rfl⟩:∃ e,x=s+e:=⟨x-s,aC⟩
   obtain⟨f,hf⟩:∃ f,s=k+f:=⟨s-k,aC⟩
   obtain rfl:f=e:= aC ;subst hf;simp only[bR,bJ,bB f k];have:0<=f*f:=bO _;omega
 have:=h.1;omega
def acn{a s x:Nat}(h:sI a s)(hx:0<x)(hs:s<=x)(hy:x<=nU a x):x=s:=by
 have h1:x<=a/x:=by unfold nU at hy;omega
 have h2:x*x<=a:=(cY hx).1 h1;have:=aed h h2;omega
def jP(a x:Nat):Nat->Nat
 | 0=>x
 |k+1=>nU a (jP a x k)
def aee(a:Nat){s:Nat}(h:sI a s):s<=2^((ib a+1)/2):=by
 apply bN;intro iA;have h1:(2^((ib a+1)/2))*(2^((ib a+1)/2))<=s*s:=cW aC aC;rw[<-bk]at h1;have h2:=qH a;have h3:2^ib a<=2^((ib a+1)/2+(ib a+1)/2):=bH aE aC;have:=h.1;omega
def aec{a x s:Nat}(h:sI a s)(ha:0<a)(hx:s<=x):∃ N,N<=x/\(∀ k,k<N->nU a (jP a x k)<jP a x k)/\jP a x N<=nU a (jP a x N)/\jP a x N=s/\∀ k,k<=N->s<=jP a x k/\jP a x k<=x:=by
 have hs:0<s:=by
  apply bN;intro h0;obtain rfl:s=0:= aC ;have:=h.2;omega
 have qQ:∀ k,s<=jP a x k:=λk=>by
  induction k with
  |zero=>exact hx
  |succ k ih=>exact aco h aC 
 have hex:∃ k,k<x+1/\decide (jP a x k<=nU a (jP a x k))=true:=by
  apply bN;intro hc;have hd:∀ k,k<x+1->nU a (jP a x k)<jP a x k:=λk hk=>by
   apply bN;intro q;exact hc ⟨k,hk,bh aC⟩
  have hb:∀ k,k<=x+1->jP a x k+k<=x:=by
   intro k hk
   induction k with
   |zero=>exact bd _
   |succ k ih=>
    have:=ih aC;have:=hd k aC;show nU a (jP a x k)+(k+1)<=x;omega
  have:=hb (x+1) (bd _);omega
 obtain⟨N,n1,n2,n3⟩:=vU hex;have n2':=cQ n2;have iA:∀ k,k<N->nU a (jP a x k)<jP a x k:=λk hk=>by
  have:=fi (n3 k hk);omega
 have hle:∀ k,k<=N->jP a x k<=x:=by
  intro k hk
  induction k with
  |zero=>exact bd _
  |succ k ih=>
   have:=ih aC;have:=iA k aC;show nU a (jP a x k)<=x;omega
 have e:=acn h (by have:=qQ N;omega) (qQ N) n2';exact⟨N,aC,iA,n2',e,λk hk=>⟨qQ k,hle k hk⟩⟩
def sQ(m s:Nat)(e:Int)(p:Nat)(up:Bool):Dy:=jB false s e (decide (s*s≠m)) p up
def xt(m s:Nat)(e:Int)(p:Nat)(up:Bool):Int:=ju false s e (decide (s*s≠m)) p up
def ae8{m s:Nat}{e:Int}{p:Nat}(h:sI m s)(hb:p<ib s)(hp:1<=p)(gY:p<=4096)(he:xt m s e p false=0):0<=(sQ m s e p false).q/\(sQ m s e p false).q<=(s:Rat)*P2 e:=by
 unfold sQ xt at *
 by_cases hx:s*s=m
 .rw [bg aC]at he ⊢;have A:=Cz false s e hp gY;rw[qq]at A;simp only[bA,bq]at A;exact⟨(A.2 0 (.inl (wo p)) (bQ cM (bG (lV e)))).2,(A.1 he).2⟩
 .rw [bh aC]at he ⊢;obtain⟨h1,h2⟩:=A5 e hb false false;rw[h1];rw[h2]at he;have A:=Cz false (2*s+1) (e-1) hp gY;rw[qq]at A;simp only[bA,bq]at A;have h0:=(A.2 0 (.inl (wo p)) (bQ cM (bG (lV (e-1))))).2;obtain⟨g,hl⟩:=A.1 he;refine⟨h0,?_⟩;rcases Jd (e:=e) hb (g.pos h0)with k|k
  .exact k
  .exfalso;have ee:P2 e=P2 (e-1)*2:=by
    have:=oE (e-1) 1;rw[(aC:e-1+1=e),show P2 1=2 by decide +kernel]at this;exact this
   have uJ:=lV (e-1);have c1:((2*s+1:Nat):Rat)=2*(s:Rat)+1:=by rw[dO,c9];rfl
   have c2:((s+1:Nat):Rat)=(s:Rat)+1:=by rw[dO];rfl
   rw[c1]at hl;rw[c2,ee]at k
   grind
def ae7{m s:Nat}{e:Int}{p:Nat}(h:sI m s)(hb:p<ib s)(hp:1<=p)(gY:p<=4096)(he:xt m s e p true=0):0<=(sQ m s e p true).q/\(m:Rat)*(P2 e*P2 e)<=(sQ m s e p true).q*(sQ m s e p true).q:=by
 have uJ:=lV e;have s0:(0:Rat)<=(s:Rat):=cM;have key:∀ D:Rat,(s:Rat)*P2 e<=D->(s*s≠m->((s+1:Nat):Rat)*P2 e<=D)->0<=D/\(m:Rat)*(P2 e*P2 e)<=D*D:=by
  intro D h1 h2;have d0:0<=D:=bF (bQ s0 (bG uJ)) h1;refine⟨d0,?_⟩;have sq:∀ t:Nat,m<=t*t->(t:Rat)*P2 e<=D->(m:Rat)*(P2 e*P2 e)<=D*D:=by
   intro t ht hD;have t0:(0:Rat)<=(t:Rat):=cM;have c:(m:Rat)<=(t:Rat)*(t:Rat):=by
    have:=dr.2 ht;rwa[c9]at this
   have m1:=cg c (bQ (bG uJ) (bG uJ));have m2:=cg hD (bQ t0 (bG uJ));have m3:=cE hD d0;generalize (t:Rat)=T at *
   generalize P2 e=P at *
   have e1:T*T*(P*P)=T*P*(T*P):= aK 
   grind
  by_cases hx:s*s=m
  .exact sq s aC h1
  .exact sq (s+1) (by have:=h.2;omega) (h2 hx)
 unfold sQ xt at *
 by_cases hx:s*s=m
 .rw [bg aC]at he ⊢;have A:=CA false s e hp gY;rw[qq]at A;simp only[bA,bq]at A;exact key _ (A.1 he).2 (λq=>absurd hx q)
 .rw [bh aC]at he ⊢;obtain⟨h1,h2⟩:=A5 e hb false true;rw[h1];rw[h2]at he;have A:=CA false (2*s+1) (e-1) hp gY;rw[qq]at A;simp only[bA,bq]at A;obtain⟨g,hl⟩:=A.1 he;have ee:P2 e=P2 (e-1)*2:=by
   have:=oE (e-1) 1;rw[(aC:e-1+1=e),show P2 1=2 by decide +kernel]at this;exact this
  have ig:=lV (e-1);have c1:((2*s+1:Nat):Rat)=2*(s:Rat)+1:=by rw[dO,c9];rfl
  rw[c1]at hl;have h0:0<=(jB false (2*s+1) (e-1) false p true).q:=bF (bQ aK (bG ig)) hl;have iA:(s:Rat)*P2 e<(jB false (2*s+1) (e-1) false p true).q:=by rw[ee];grind
  refine key _ (bG iA) λ_=>?_
  rcases Jd (e:=e) hb (g.pos h0)with k|k
  .exact absurd iA (df.2 k)
  .exact k
def ae9{a b:Rat}(ha:0<=a)(hb:0<=b)(h:a*a<=b*b):a<=b:=by
 apply df.1;intro iA;have m1:=cE (bG iA) hb;have m2:=dP iA (show 0<a by grind)
 grind
def afa{m s n t:Nat}{e f:Int}{p:Nat}(h:sI m s)(k:sI n t)(hb:p<ib s)(kb:p<ib t)(hp:1<=p)(gY:p<=4096)(hle:(m:Rat)*(P2 e*P2 e)<=(n:Rat)*(P2 f*P2 f)):
 (kI (sQ m s e p false) (xt m s e p false) (sQ n t f p true) (xt n t f p true)).gX:=by
 unfold kI;split
 .exact kS
 .rename_i he;obtain⟨a0,a1⟩:=ae8 (e:=e) h hb hp gY aC;obtain⟨b0,b1⟩:=ae7 (e:=f) k kb hp gY aC;refine .inr ⟨rfl,q6 _ _ _ _ _ _ hp gY,q6 _ _ _ _ _ _ hp gY,?_⟩;rw[o9];refine ae9 a0 b0 ?_;have s0:(0:Rat)<=(s:Rat):=cM;have uJ:=lV e;have m1:=cE a1 a0;have m2:=cg a1 (bQ s0 (bG uJ));have c:(s:Rat)*(s:Rat)<=(m:Rat):=by
   have:=dr.2 h.1;rwa[c9]at this
  have m3:=cg c (bQ (bG uJ) (bG uJ));generalize (sQ m s e p false).q=A at *
  generalize (s:Rat)=S at *
  generalize P2 e=P at *
  have e1:S*S*(P*P)=S*P*(S*P):= aK 
  grind
def Rs(m N:Nat)(x:Nat):PS:=⟨43,true,[(5,.e (gW (gV (jP m (2^((ib m+1)/2)) x)))),(0,.e (gW (gV m)))],[]⟩
def Ri(L M:List Nat)(hL:iD L)(hM:iD M)(h1:L.length<=3000)(h2:M.length<=3000):∃ S:List Nat,gU 360 [gW L,gW M] (gW S)/\val S=val L+val M/\iD S/\S.length=max L.length M.length+1:=by
 obtain⟨n,hn⟩:∃ n,n=max L.length M.length+1:=⟨_,rfl⟩
 have iA:val L+val M<4294967296^n:=by
  have a:=mQ hL;have b:=mQ hM;have e:4294967296^n=4294967296^max L.length M.length*4294967296:=by rw[hn,bw]
  have c:=bH (show 0<4294967296 by decide) (Nat.le_max_left L.length M.length);have d:=bH (show 0<4294967296 by decide) (Nat.le_max_right L.length M.length);omega
 refine⟨nu (val L+val M) n,?_,by rw[Eo,bZ iA],CC _ _,by rw[xP,hn]⟩;refine yJ hL hM call360 (λA c B d w h k _=>Ru A B c d L M w h k h1 h2) λB w e w' hB r=>?_
 obtain⟨S,v1,v2,v3,r⟩:=r;rw[IH v2 (by rw[v3,hn]) v1];exact rl B w e w' hB r
def acb(L:List Nat)(n:Nat)(hL:iD L)(h1:L.length<=3000)(hn:n<=65536):∃ S:List Nat,gU 275 [gW L,iP (n:Int)] (gW S)/\val S=val L*2^n/\iD S:=by
 obtain⟨m,hm⟩:∃ m,m=n/32+(ix L).length+1:=⟨_,rfl⟩
 have iA:val L*2^n<4294967296^m:=by
  have a:=mQ hL.ix;rw[oD]at a;have e:4294967296^m=4294967296^(ix L).length*2^(32*(n/32+1)):=by
   rw[hm,(aC:n/32+(ix L).length+1=(ix L).length+(n/32+1)),bk,Nat.pow_mul]
  rw[e];exact Nat.mul_lt_mul_of_lt_of_le a (bH aE aC) (bn aE)
 refine⟨nu (val L*2^n) m,?_,by rw[Eo,bZ iA],CC _ _⟩;refine D0 hL call275 (λA c w h _=>Ry A c L n w h aC hn) λA c B w e w' h hB r=>?_
 obtain⟨S,v1,v2,v3,r⟩:=r;rw[IH v2 (by rw[v3,hm]) v1];exact rl B w e w' hB r
def xr(L:List Nat):List Nat:=pe (1%32) ((ix L).drop (1/32))
def Rq(L:List Nat)(hL:iD L)(h1:L.length<=3000):gU 356 [gW L,iP 1] (gW (xr L)):=
 D0 (n:=((1:Nat):Int)) hL call356 (λA c w h _=>KE A c L 1 w h aC aE) λA c B w e w' h hB r=>rl B w e w' hB r
def S2{L:List Nat}(hL:iD L):ix (xr L)=gV (val L/2):=by
 unfold xr;rw[pO (yI _ _),Hd hL.ix,oD]
def RC(m x:Nat):nU m x<=max x (m/x):=by
 unfold nU;generalize m/x=q;omega
def QT(a b:Nat):(gV (max a b)).length<=max (gV a).length (gV b).length:=by
 rcases Nat.le_total a b with h|h
 .rw [Nat.max_eq_right h];omega
 .rw [Nat.max_eq_left h];omega
def ab4(m:Nat)(h:(gV m).length<=256):gU 272 [gW (gV m)] (.ik [gW (gV m),iP 0]):=by
 have:=Rk (gV m) (kZ m) (by rw[vd];exact h);rwa[vd]at this
def ace(m N:Nat)(h1:(gV m).length<=256)(h0:m≠0)(JG:∀ k,k<N->nU m (jP m (2^((ib m+1)/2)) k)<(jP m (2^((ib m+1)/2)) k))(pn:(jP m (2^((ib m+1)/2)) N)<=nU m (jP m (2^((ib m+1)/2)) N))(lj:∀ k,k<=N->0<(jP m (2^((ib m+1)/2)) k)/\(jP m (2^((ib m+1)/2)) k)<=(2^((ib m+1)/2))):gU 418 [gW (gV m)] (.ik [gW (gV (jP m (2^((ib m+1)/2)) N)),iP 0]):=by
 have bm:=np h0;have bl:=zg h1;have z0:(gV (2^((ib m+1)/2))).length<=256:=nA (by rw[show(2^((ib m+1)/2))=1*2^((ib m+1)/2)by omega,qh aE];show 1+_<=_;omega);have hlen:∀ k,k<=N->(gV (jP m (2^((ib m+1)/2)) k)).length<=256:=λk hk=>bj (lH (lj k hk).2) z0
 obtain⟨S0,zD,sv,oS0⟩:=acb (gV 1) ((ib m+1)/2) (kZ 1) aL aC;rw[jM,bT]at sv;have ZS:gU 274 [gW S0] (gW (gV (2^((ib m+1)/2)))):=by
  have:=rO S0 oS0;rwa[pO oS0,sv]at this
 have zN:=hlen N aC;exact ak call418 func418 (af [.c (ab5 (gV m) aD),ag [gW (gV m)] (qT _ aC),ai 15 ((ib m:Int)==0) (nk aC),.o 16 (.e wa:aj (.sl false 1 1 λi_ j_=>[.v (.int .u32 1)].getD (i_*1+j_) (.v (.bool false))) (gW (gV 1))),iu ((ib m:Int)+1) aC,.a (aC:0<(2:Int)),
  iu (((ib m)+1:Nat):Int) aC,ag [gW (gV 1),iP ((((ib m)+1)/2:Nat):Int)] zD,ag [gW S0] ZS,.s (Sp.kY (Rs m N) 0 N aC (λx hx mZ=>by
    obtain⟨xl,xu⟩:=lj x aC;obtain⟨Tq,Sq,CX,dT,dS,oT,oS,lT,lS⟩:=KB (gV m) (gV (jP m (2^((ib m+1)/2)) x)) (kZ m) (kZ _) aC (by have:=hlen x aC;omega) (by rw[jM];omega);rw[jM,jM]at dT;have zx:=hlen x aC;have Jr:gU 274 [gW Tq] (gW (gV (m/(jP m (2^((ib m+1)/2)) x)))):=by
     have:=rO Tq oT;rwa[pO oT,dT]at this
    have zt:(gV (m/(jP m (2^((ib m+1)/2)) x))).length<=257:=bj (lH (bU _ _)) aC;obtain⟨Uq,hU,uv,oU,lU⟩:=Ri (gV (jP m (2^((ib m+1)/2)) x)) (gV (m/(jP m (2^((ib m+1)/2)) x))) (kZ _) (kZ _) aC aC;rw[jM,jM]at uv;have hV:=Rq Uq oU aC;have Bi:gU 274 [gW (xr Uq)] (gW (gV (nU m (jP m (2^((ib m+1)/2)) x)))):=by
     have:=rO (xr Uq) (yI _ _);rwa[S2 oU,uv]at this
    have zn:(gV (nU m (jP m (2^((ib m+1)/2)) x))).length<=257:=bj (lH (RC m (jP m (2^((ib m+1)/2)) x))) (by have:=QT (jP m (2^((ib m+1)/2)) x) (m/(jP m (2^((ib m+1)/2)) x));omega);exact jg (ae [ag [gW (gV m),gW (gV (jP m (2^((ib m+1)/2)) x))] CX,ag [gW Tq] Jr,ag [gW (gV (jP m (2^((ib m+1)/2)) x)),gW (gV (m/(jP m (2^((ib m+1)/2)) x)))] hU,ag [gW Uq,iP 1] hV,ag [gW (xr Uq)] Bi,ag [gW (gV (nU m (jP m (2^((ib m+1)/2)) x))),gW (gV (jP m (2^((ib m+1)/2)) x))] (xh _ _ aC aC),tF 37 (0<=(jZ (nU m (jP m (2^((ib m+1)/2)) x)) (jP m (2^((ib m+1)/2)) x))) (by have:=JG x aC;have:=A4.2 this;omega)]<|.e (af [.o 5 (.e (.iH rfl):aj (gW (gV (nU m (jP m (2^((ib m+1)/2)) x)))) (gW (gV (jP m (2^((ib m+1)/2)) (x+1)))))])) aF)
  (λhx=>by
    obtain⟨xl,xu⟩:=lj N aC;obtain⟨Tq,Sq,CX,dT,dS,oT,oS,lT,lS⟩:=KB (gV m) (gV (jP m (2^((ib m+1)/2)) N)) (kZ m) (kZ _) aC (by have:=hlen N aC;omega) (by rw[jM];omega);rw[jM,jM]at dT;have zx:=hlen N aC;have Jr:gU 274 [gW Tq] (gW (gV (m/(jP m (2^((ib m+1)/2)) N)))):=by
     have:=rO Tq oT;rwa[pO oT,dT]at this
    have zt:(gV (m/(jP m (2^((ib m+1)/2)) N))).length<=257:=bj (lH (bU _ _)) aC;obtain⟨Uq,hU,uv,oU,lU⟩:=Ri (gV (jP m (2^((ib m+1)/2)) N)) (gV (m/(jP m (2^((ib m+1)/2)) N))) (kZ _) (kZ _) aC aC;rw[jM,jM]at uv;have hV:=Rq Uq oU aC;have Bi:gU 274 [gW (xr Uq)] (gW (gV (nU m (jP m (2^((ib m+1)/2)) N)))):=by
     have:=rO (xr Uq) (yI _ _);rwa[S2 oU,uv]at this
    have zn:(gV (nU m (jP m (2^((ib m+1)/2)) N))).length<=257:=bj (lH (RC m (jP m (2^((ib m+1)/2)) N))) (by have:=QT (jP m (2^((ib m+1)/2)) N) (m/(jP m (2^((ib m+1)/2)) N));omega);exact jg (af [ag [gW (gV m),gW (gV (jP m (2^((ib m+1)/2)) N))] CX,ag [gW Tq] Jr,ag [gW (gV (jP m (2^((ib m+1)/2)) N)),gW (gV (m/(jP m (2^((ib m+1)/2)) N)))] hU,ag [gW Uq,iP 1] hV,ag [gW (xr Uq)] Bi,ag [gW (gV (nU m (jP m (2^((ib m+1)/2)) N))),gW (gV (jP m (2^((ib m+1)/2)) N))] (xh _ _ aC aC),tT 37 (0<=(jZ (nU m (jP m (2^((ib m+1)/2)) N)) (jP m (2^((ib m+1)/2)) N))) (by have:=pn;have:¬jZ (nU m (jP m (2^((ib m+1)/2)) N)) (jP m (2^((ib m+1)/2)) N)<0:=λq=>absurd (A4.1 q) aC;omega),ag [gW (gV (jP m (2^((ib m+1)/2)) N))] (ab4 _ aC)]) aF) aI:kU 7 f418 (Rs m N 0) .ret ⟨43,true,[(3,.e (iP 0)),(2,.e (gW (gV (jP m (2^((ib m+1)/2)) N))))],[]⟩) (af [.o 5 (.e (.iH rfl):aj (gW (gV (2^((ib m+1)/2)))) (gW (gV (jP m (2^((ib m+1)/2)) 0))))])]) 
def Rt(m s:Nat)(h1:(gV m).length<=256)(h0:m≠0)(hr:sI m s):gU 418 [gW (gV m)] (.ik [gW (gV s),iP 0]):=by
 obtain⟨N,_,a,b,c,d⟩:=aec hr (dM h0) (aee m hr);have hs:0<s:=by
  apply bN;intro h;obtain rfl:s=0:= aC ;have:=hr.2;omega
 have:=ace m N h1 h0 a b λk hk=>⟨by have:=(d k hk).1;omega,(d k hk).2⟩
 rwa[c]at this
noncomputable def kN(m:Nat):Nat:=Classical.choose (SC m)
def Au(m:Nat):sI m (kN m):=cT (SC m)
def qX(d:Dy)(p:Nat):Nat:=if Int.tmod (d.e-((2*p+4-ib d.m:Nat):Int)) 2=0 then 2*p+4-ib d.m else 2*p+4-ib d.m+1
noncomputable def sS(d:Dy)(p:Nat)(up:Bool):Dy:=sQ (d.m*2^qX d p) (kN (d.m*2^qX d p)) ((d.e-(qX d p:Int))/2) p up
noncomputable def sR(d:Dy)(p:Nat)(up:Bool):Int:=xt (d.m*2^qX d p) (kN (d.m*2^qX d p)) ((d.e-(qX d p:Int))/2) p up
def GV(d:Dy)(p:Nat):d.e-(qX d p:Int)=2*((d.e-(qX d p:Int))/2):=by
 have key:∀ x:Int,Int.tmod x 2=0↔x%2=0:=λx=>by rw[<-Int.dvd_iff_tmod_eq_zero,<-Int.dvd_iff_emod_eq_zero]
 have:(d.e-(qX d p:Int))%2=0:=by
  unfold qX;split
  .rename_i h;exact(key _).1 h
  .rename_i h;have h2:¬(d.e-((2*p+4-ib d.m:Nat):Int))%2=0:=λq=>h ((key _).2 q)
   clear h;omega
 omega
def Te(s:Nat):s<=s*s:=by
 by_cases h:s=0
 .subst h;exact bO _
 .exact fL s (dM h)
def Tg{d:Dy}(hn:d.neg=false)(K:Nat){E:Int}(h:d.e-(K:Int)=2*E):((d.m*2^K:Nat):Rat)*(P2 E*P2 E)=d.q:=by
 rw[py,hn,aY aE,<-oE,c9,<-vh,eE,<-oE,show(K:Int)+(E+E)=d.e by omega]
def Lm{m s p:Nat}(h:sI m s)(hm:2*p+4<=ib m):p<ib s:=by
 apply bN;intro hb;have h1:s<2^ib s:=qH s;have h2:2^ib s<=2^p:=bH aE aC;have h3:=cW (aC:s+1<=2^p) (aC:s+1<=2^p);rw[<-bk]at h3;have h4:=h.2;have h5:ib m<=p+p:=kV.2 (bM h4 h3);omega
def SD(m s:Nat):((jZ (s*s) m) != 0)=decide (s*s≠m):=by
 unfold jZ;generalize s*s=q;rcases Nat.lt_trichotomy q m with h|h|h
 .rw [aZ h,bh aC];rfl
 .subst h;simp
 .rw [aY aC,aZ h,bh aC];rfl
def adz(d:Dy)(p:Nat)(up:Bool)(hd:d.gX)(hn:d.neg=false)(h0:d.m≠0)(ig:8<=p)(gY:p<=512)(oX:Int.tmod (d.e-((2*p+4-(ib d.m):Nat):Int)) 2=0):gU 398 [gZ d,iP p,bP up] (.ik [gZ (sS d p up),iP (sR d p up)]):=by
 have hl:=hd.gV;have hx:=hd.exp;have hr:=hd.range.resolve_left h0;have bp:=np h0;have hK:qX d p=(2*p+4-(ib d.m)):=by unfold qX;rw[aZ oX]
 have he:=GV d p;rw[hK]at he;have hb:=qh h0 (2*p+4-(ib d.m));have z1:(gV (d.m*2^(2*p+4-(ib d.m)))).length<=256:=nA aC;have q9:(d.m*2^(2*p+4-(ib d.m)))≠0:=dB h0 (dW (bn aE));have rf:=Au (d.m*2^(2*p+4-(ib d.m)));have zS:=Lm rf (p:=p) aC;have z2:(gV (kN (d.m*2^(2*p+4-(ib d.m)))*kN (d.m*2^(2*p+4-(ib d.m))))).length<=256:=bj (lH rf.1) z1;have z3:(gV (kN (d.m*2^(2*p+4-(ib d.m))))).length<=256:=bj (lH (bj (Te _) rf.1)) z1;have Zx:kN (d.m*2^(2*p+4-(ib d.m)))≠0\/kN (d.m*2^(2*p+4-(ib d.m)))=0/\(d.e-((2*p+4-(ib d.m):Nat):Int))/2=0/\((jZ (kN (d.m*2^(2*p+4-(ib d.m)))*kN (d.m*2^(2*p+4-(ib d.m)))) (d.m*2^(2*p+4-(ib d.m)))) != 0)=false:=.inl (λq=>by rw[q,qO]at zS;omega);have vL:((jZ (kN (d.m*2^(2*p+4-(ib d.m)))*kN (d.m*2^(2*p+4-(ib d.m)))) (d.m*2^(2*p+4-(ib d.m)))) != 0)=true->p<ib (kN (d.m*2^(2*p+4-(ib d.m)))):=λ_=>zS
 exact ak call398 func398 (ae [.o 17 (.e (IP _):aj (.sl true 1 3 λi_ j_=>(jA d).getD (i_*3+j_) (.v (.bool false))) (ml [d])),ag [iP p,ml [d]] (K8 _ _ aD aC aC),ah 20 ((0:Int)==0) aE,ai 23 d.neg hn,ai 26 ((0:Int) != 0) aE,ai 31 (((gV d.m).length:Int)==0) (nk (pr h0)),
  iu (2*(p:Int)) aC,iu (((2*p:Nat):Int)+4) aC,ag [gZ d] (Fc _ aD),iu ((((2*p)+4:Nat):Int)-(ib (Dy.m d):Int)) aC,.o 41 (aq (if((((2*p)+4:Nat):Int)-(ib (Dy.m d):Int))>0 then((((2*p)+4:Nat):Int)-(ib (Dy.m d):Int))else 0) ((2*p+4-(ib d.m):Nat):Int) aM),
  iu (d.e-((2*p+4-(ib d.m):Nat):Int)) aC,.a (aC:0<(2:Int)),ai 47 ((Int.tmod (d.e-((2*p+4-(ib d.m):Nat):Int)) 2) != 0) (by simpa using oX),.c (tS d.m (2*p+4-(ib d.m)) aC aC aC),ag [gW (gV (d.m*2^(2*p+4-(ib d.m))))] (Rt _ _ aC aD (Au _)),ag [gW (gV (kN (d.m*2^(2*p+4-(ib d.m))))),gW (gV (kN (d.m*2^(2*p+4-(ib d.m)))))] (xj _ _ aC aC aC),
  iu (d.e-((2*p+4-(ib d.m):Nat):Int)) aC,.a (aC:0<(2:Int)),iu (d.e-((2*p+4-(ib d.m):Nat):Int)) aC,.o 70 (aq (Int.tdiv (d.e-((2*p+4-(ib d.m):Nat):Int)) 2) ((d.e-((2*p+4-(ib d.m):Nat):Int))/2) (by generalize hy:(d.e-((2*p+4-(ib d.m):Nat):Int))/2=y at *;rw[he];exact ahB _ aE)),ag [gW (gV ((kN (d.m*2^(2*p+4-(ib d.m))))*(kN (d.m*2^(2*p+4-(ib d.m)))))),gW (gV (d.m*2^(2*p+4-(ib d.m))))] (xh _ _ aC aC),ag [.agg [gW (gV (kN (d.m*2^(2*p+4-(ib d.m))))),iP ((d.e-((2*p+4-(ib d.m):Nat):Int))/2),bP ((jZ ((kN (d.m*2^(2*p+4-(ib d.m))))*(kN (d.m*2^(2*p+4-(ib d.m))))) (d.m*2^(2*p+4-(ib d.m)))) != 0)],iP p,bP up] (BZ _ _ _ _ _ aC aD aC aC aC aC aD)]<|rQ (.ik [gZ (jB false (kN (d.m*2^(2*p+4-(ib d.m)))) ((d.e-((2*p+4-(ib d.m):Nat):Int))/2) ((jZ ((kN (d.m*2^(2*p+4-(ib d.m))))*(kN (d.m*2^(2*p+4-(ib d.m))))) (d.m*2^(2*p+4-(ib d.m)))) != 0) p up),iP (ju false (kN (d.m*2^(2*p+4-(ib d.m)))) ((d.e-((2*p+4-(ib d.m):Nat):Int))/2) ((jZ ((kN (d.m*2^(2*p+4-(ib d.m))))*(kN (d.m*2^(2*p+4-(ib d.m))))) (d.m*2^(2*p+4-(ib d.m)))) != 0) p up)]) (.ik [gZ (sS d p up),iP (sR d p up)]) (by unfold sS sR sQ xt;rw[hK,SD])) 
def adA(d:Dy)(p:Nat)(up:Bool)(hd:d.gX)(hn:d.neg=false)(h0:d.m≠0)(ig:8<=p)(gY:p<=512)(oX:¬Int.tmod (d.e-((2*p+4-(ib d.m):Nat):Int)) 2=0):gU 398 [gZ d,iP p,bP up] (.ik [gZ (sS d p up),iP (sR d p up)]):=by
 have hl:=hd.gV;have hx:=hd.exp;have hr:=hd.range.resolve_left h0;have bp:=np h0;have hK:qX d p=((2*p+4-(ib d.m))+1):=by unfold qX;rw[aY oX]
 have he:=GV d p;rw[hK]at he;have hb:=qh h0 ((2*p+4-(ib d.m))+1);have z1:(gV (d.m*2^((2*p+4-(ib d.m))+1))).length<=256:=nA aC;have q9:(d.m*2^((2*p+4-(ib d.m))+1))≠0:=dB h0 (dW (bn aE));have rf:=Au (d.m*2^((2*p+4-(ib d.m))+1));have zS:=Lm rf (p:=p) aC;have z2:(gV (kN (d.m*2^((2*p+4-(ib d.m))+1))*kN (d.m*2^((2*p+4-(ib d.m))+1)))).length<=256:=bj (lH rf.1) z1;have z3:(gV (kN (d.m*2^((2*p+4-(ib d.m))+1)))).length<=256:=bj (lH (bj (Te _) rf.1)) z1;have Zx:kN (d.m*2^((2*p+4-(ib d.m))+1))≠0\/kN (d.m*2^((2*p+4-(ib d.m))+1))=0/\(d.e-(((2*p+4-(ib d.m))+1:Nat):Int))/2=0/\((jZ (kN (d.m*2^((2*p+4-(ib d.m))+1))*kN (d.m*2^((2*p+4-(ib d.m))+1))) (d.m*2^((2*p+4-(ib d.m))+1))) != 0)=false:=.inl (λq=>by rw[q,qO]at zS;omega);have vL:((jZ (kN (d.m*2^((2*p+4-(ib d.m))+1))*kN (d.m*2^((2*p+4-(ib d.m))+1))) (d.m*2^((2*p+4-(ib d.m))+1))) != 0)=true->p<ib (kN (d.m*2^((2*p+4-(ib d.m))+1))):=λ_=>zS
 exact ak call398 func398 (ae [.o 17 (.e (IP _):aj (.sl true 1 3 λi_ j_=>(jA d).getD (i_*3+j_) (.v (.bool false))) (ml [d])),ag [iP p,ml [d]] (K8 _ _ aD aC aC),ah 20 ((0:Int)==0) aE,ai 23 d.neg hn,ai 26 ((0:Int) != 0) aE,ai 31 (((gV d.m).length:Int)==0) (nk (pr h0)),
  iu (2*(p:Int)) aC,iu (((2*p:Nat):Int)+4) aC,ag [gZ d] (Fc _ aD),iu ((((2*p)+4:Nat):Int)-(ib (Dy.m d):Int)) aC,.o 41 (aq (if((((2*p)+4:Nat):Int)-(ib (Dy.m d):Int))>0 then((((2*p)+4:Nat):Int)-(ib (Dy.m d):Int))else 0) ((2*p+4-(ib d.m):Nat):Int) aM),
  iu (d.e-((2*p+4-(ib d.m):Nat):Int)) aC,.a (aC:0<(2:Int)),ah 47 ((Int.tmod (d.e-((2*p+4-(ib d.m):Nat):Int)) 2) != 0) (by simpa using oX),
  iu (((2*p+4-(ib d.m):Nat):Int)+1) aC,.c (tS d.m ((2*p+4-(ib d.m))+1) aC aC aC),ag [gW (gV (d.m*2^((2*p+4-(ib d.m))+1)))] (Rt _ _ aC aD (Au _)),ag [gW (gV (kN (d.m*2^((2*p+4-(ib d.m))+1)))),gW (gV (kN (d.m*2^((2*p+4-(ib d.m))+1))))] (xj _ _ aC aC aC),
  iu (d.e-(((2*p+4-(ib d.m))+1:Nat):Int)) aC,.a (aC:0<(2:Int)),iu (d.e-(((2*p+4-(ib d.m))+1:Nat):Int)) aC,.o 70 (aq (Int.tdiv (d.e-(((2*p+4-(ib d.m))+1:Nat):Int)) 2) ((d.e-(((2*p+4-(ib d.m))+1:Nat):Int))/2) (by generalize hy:(d.e-(((2*p+4-(ib d.m))+1:Nat):Int))/2=y at *;rw[he];exact ahB _ aE)),ag [gW (gV ((kN (d.m*2^((2*p+4-(ib d.m))+1)))*(kN (d.m*2^((2*p+4-(ib d.m))+1))))),gW (gV (d.m*2^((2*p+4-(ib d.m))+1)))] (xh _ _ aC aC),ag [.agg [gW (gV (kN (d.m*2^((2*p+4-(ib d.m))+1)))),iP ((d.e-(((2*p+4-(ib d.m))+1:Nat):Int))/2),bP ((jZ ((kN (d.m*2^((2*p+4-(ib d.m))+1)))*(kN (d.m*2^((2*p+4-(ib d.m))+1)))) (d.m*2^((2*p+4-(ib d.m))+1))) != 0)],iP p,bP up] (BZ _ _ _ _ _ aC aD aC aC aC aC aD)]<|rQ (.ik [gZ (jB false (kN (d.m*2^((2*p+4-(ib d.m))+1))) ((d.e-(((2*p+4-(ib d.m))+1:Nat):Int))/2) ((jZ ((kN (d.m*2^((2*p+4-(ib d.m))+1)))*(kN (d.m*2^((2*p+4-(ib d.m))+1)))) (d.m*2^((2*p+4-(ib d.m))+1))) != 0) p up),iP (ju false (kN (d.m*2^((2*p+4-(ib d.m))+1))) ((d.e-(((2*p+4-(ib d.m))+1:Nat):Int))/2) ((jZ ((kN (d.m*2^((2*p+4-(ib d.m))+1)))*(kN (d.m*2^((2*p+4-(ib d.m))+1)))) (d.m*2^((2*p+4-(ib d.m))+1))) != 0) p up)]) (.ik [gZ (sS d p up),iP (sR d p up)]) (by unfold sS sR sQ xt;rw[hK,SD])) 
def St(d:Dy)(p:Nat)(up:Bool)(hd:d.gX)(hn:d.neg=false)(h0:d.m≠0)(ig:8<=p)(gY:p<=512):gU 398 [gZ d,iP p,bP up] (.ik [gZ (sS d p up),iP (sR d p up)]):=by
 by_cases h:Int.tmod (d.e-((2*p+4-(ib d.m):Nat):Int)) 2=0
 .exact adz d p up hd hn h0 ig gY h
 .exact adA d p up hd hn h0 ig gY h
def adx(d:Dy)(p:Nat)(hd:d.gX)(hn:d.neg=false)(h0:d.m≠0)(ig:8<=p)(gY:p<=512):gU 370 [gZ d,iP p] (.ik [gZ (sS d p false),iP (sR d p false)]):=
 ak call370 func370 (af [.c (St d p false aD aD aD aC aC)]) 
def ady(d:Dy)(p:Nat)(hd:d.gX)(hn:d.neg=false)(h0:d.m≠0)(ig:8<=p)(gY:p<=512):gU 371 [gZ d,iP p] (.ik [gZ (sS d p true),iP (sR d p true)]):=
 ak call371 func371 (af [.c (St d p true aD aD aD aC aC)]) 
def aaQ(x:Iv)(p:Nat)(hx:x.gX)(ig:8<=p)(gY:p<=512)(xa:x.all=true):gU 331 [ia x,iP p] (ia ie):=
 ak call331 func331 (af [.o 10 (.e (lZ _):aj (.sl true 1 7 λi_ j_=>(iG x).getD (i_*7+j_) (.v (.bool false))) (im [x])),ag [im [x]] (oz _ aD),ai 11 (!x.all) (by rw[xa];rfl),.c mq]) 
def aaS(x:Iv)(p:Nat)(hx:x.gX)(ig:8<=p)(gY:p<=512)(xa:x.all=false)(h1:x.lo.iJ<=0):gU 331 [ia x,iP p] (ia ie):=by
 obtain⟨w1,w2⟩:=hx.jC;exact ak call331 func331 (af [.o 10 (.e (lZ _):aj (.sl true 1 7 λi_ j_=>(iG x).getD (i_*7+j_) (.v (.bool false))) (im [x])),ag [im [x]] (oz _ aD),ah 11 (!x.all) (by rw[xa];rfl),ag [iP p] (tD _),ah 15 (lJ (p:Int)) (qp.2 ⟨aC,aC⟩),ag [gZ x.lo] (nE _ aD),tB 22 (bh h1),.c mq]) 
def aaT(x:Iv)(p:Nat)(hx:x.gX)(ig:8<=p)(gY:p<=512)(xa:x.all=false)(h1:¬x.lo.iJ<=0)(n1:x.lo.neg=false)(n2:x.hi.neg=false)(m1:x.lo.m≠0)(m2:x.hi.m≠0):gU 331 [ia x,iP p] (ia (kI (sS x.lo p false) (sR x.lo p false) (sS x.hi p true) (sR x.hi p true))):=by
 obtain⟨w1,w2⟩:=hx.jC;exact ak call331 func331 (af [.o 10 (.e (lZ _):aj (.sl true 1 7 λi_ j_=>(iG x).getD (i_*7+j_) (.v (.bool false))) (im [x])),ag [im [x]] (oz _ aD),ah 11 (!x.all) (by rw[xa];rfl),ag [iP p] (tD _),ah 15 (lJ (p:Int)) (qp.2 ⟨aC,aC⟩),ag [gZ x.lo] (nE _ aD),tB 22 (bg h1),.c (adx x.lo p aD aD aD aC aC),.c (ady x.hi p aD aD aD aC aC),.c (Ad (sS x.lo p false) (sS x.hi p true) (sR x.lo p false) (sR x.hi p true))]) 
def R4{d:Dy}(h:0<d.q):d.neg=false/\d.m≠0:=by
 have hm:d.m≠0:=λq=>by rw[py,q]at h;simp at h
 refine⟨?_,hm⟩;cases hn:d.neg
 .rfl
 .rw [py,hn,aZ rfl]at h;have:=bQ (show(0:Rat)<=(d.m:Rat)from cM) (bG (lV d.e))
  grind
def Td{d:Dy}{p:Nat}(ig:8<=p)(h0:d.m≠0):p<ib (kN (d.m*2^qX d p)):=by
 refine Lm (Au _) ?_;rw[qh h0];unfold qX;split<;>omega
def aaR{x:Iv}(hx:x.gX){p:Nat}(ig:8<=p)(gY:p<=512):∃ Z,Z.gX/\gU 331 [ia x,iP (p:Int)] (ia Z):=by
 cases xa:x.all with
 |true=>exact⟨ie,kS,aaQ x p hx ig gY xa⟩
 |false=>
  by_cases h1:x.lo.iJ<=0
  .exact ⟨ie,kS,aaS x p hx ig gY xa h1⟩
  .have q1:0<x.lo.q:=(rm _).1.1 aC ;have q2:0<x.hi.q:=by have:=hx.q;grind
   obtain⟨n1,m1⟩:=R4 q1;obtain⟨n2,m2⟩:=R4 q2;refine⟨_,?_,aaT x p hx ig gY xa h1 n1 n2 m1 m2⟩;refine afa (Au _) (Au _) (Td ig m1) (Td ig m2) aC aC ?_;rw[Tg n1 _ (GV _ _),Tg n2 _ (GV _ _)];exact hx.q
def jz(X b:Nat):Nat->Nat
 | 0=>2^b
 |k+1=>jz X b k*X/2^b/(k+1)
def Oz{X b:Nat}(h:X<=2^(b+1))(t:Nat):t*X/2^b<=2*t:=by
 have hp:0<2^b:=bn aE;have h1:t*X<=t*(2^b*2):=cF t (by rw[<-bw];exact h);have h2:t*X/2^b<=t*(2^b*2)/2^b:=Nat.div_le_div_right h1;have h3:t*(2^b*2)/2^b=2*t:=by
  rw[show t*(2^b*2)=2^b*(2*t)by rw[dL,bB t 2]];exact ahC _ hp
 omega
def CN{X b:Nat}(h:X<=2^(b+1)):∀ k,jz X b k<=2^(b+1)
 | 0=>by show 2^b<=2^(b+1);rw[bw];omega
 | 1=>by
  show 2^b*X/2^b/1<=_;rw[fc,ahC _ (bn aE)];exact h
 |k+2=>by
  have ih:=CN h (k+1);have h1:=Oz h (jz X b (k+1));show jz X b (k+1)*X/2^b/(k+2)<=_;have h2:jz X b (k+1)*X/2^b/(k+2)<=jz X b (k+1)*X/2^b/2:=gy aC aE;omega
def YI{X b:Nat}(h:X<=2^(b+1))(k:Nat)(hk:3<=k):jz X b (k+1)*2<=jz X b k:=by
 have h1:=Oz h (jz X b k);have h2:jz X b (k+1)<=jz X b k*X/2^b/4:=gy aC aE;omega
def Oy{X b:Nat}(h:X<=2^(b+1)):∀ j,jz X b (3+j)*2^j<=2^(b+1)
 | 0=>by rw[cB,ch];exact CN h 3
 |j+1=>by
  have ih:=Oy h j;have h1:=YI h (3+j) aC;have h2:=bI (2^j) h1;rw[bw,show jz X b (3+(j+1))*(2^j*2)=jz X b (3+j+1)*2*2^j by rw[bu,bB 2 (2^j)];rfl];omega
def YJ{X b:Nat}(h:X<=2^(b+1)):∃ N,1<=N/\N<=b+5/\(∀ k,k<N->jz X b k≠0)/\jz X b N=0:=by
 have hz:jz X b (3+(b+2))=0:=by
  have h1:=Oy h (b+2);apply bN;intro kG;have h2:2^(b+2)<=jz X b (3+(b+2))*2^(b+2):=fL _ (dM kG);have h3:2^(b+2)=2^(b+1)*2:=bw (n:=2) (m:=b+1);have h4:0<2^(b+1):=bn aE;omega
 obtain⟨N,n1,n2,n3⟩:=vU (p:=λk=>decide (jz X b k=0)) (n:=b+6) ⟨3+(b+2),aC,bh hz⟩;have n2':=cQ n2;refine⟨N,?_,aC,λk hk=>fi (n3 k hk),n2'⟩;rcases N with _|N
 .have:0<2^b:=bn aE ;have e:2^b=0:=n2';omega
 .omega
def Z0{f:Nat->Nat}{B:Nat}(h0:f 0<2^B)(h:∀ k,f (k+1)*2<=f k):∃ N,N<=B/\(∀ k,k<N->f k≠0)/\f N=0:=by
 have hp:∀ k,f k*2^k<=f 0:=by
  intro k
  induction k with
  |zero=>rw[cB,ch];exact bd _
  |succ k ih=>
   have:=bI (2^k) (h k);rw[bw,show f (k+1)*(2^k*2)=f (k+1)*2*2^k by rw[bu,bB 2 (2^k)]];omega
 have hz:f B=0:=by
  apply bN;intro kG;have h2:2^B<=f B*2^B:=fL _ (dM kG);have:=hp B;omega
 obtain⟨N,n1,n2,n3⟩:=vU (p:=λk=>decide (f k=0)) (n:=B+1) ⟨B,aC,bh hz⟩;exact⟨N,aC,λk hk=>fi (n3 k hk),cQ n2⟩
def jh(a b:Bool×Nat):Bool×Nat:=if a.1=b.1 then(a.1,a.2+b.2)else if a.2<b.2 then(b.1,b.2-a.2)else(a.1,a.2-b.2)
def nN(a:Bool×Nat):Int:=if a.1 then -(a.2:Int)else(a.2:Int)
def I4(a b:Bool×Nat):nN (jh a b)=nN a+nN b:=by
 obtain⟨s,m⟩:=a;obtain⟨t,n⟩:=b;unfold jh nN;cases s<;>cases t<;>simp<;>(try split)<;>(try simp)<;>omega
def vy(a b:Bool×Nat):(jh a b).2<=a.2+b.2:=by
 unfold jh;split
 .exact bd _
 .split
  .show b.2-a.2<=_;omega
  .show a.2-b.2<=_;omega
def xS(a:Bool×Nat)(b:Nat):Dy:=canon a.1 a.2 (-(b:Int))
def Ox(a:Bool×Nat)(b:Nat):(xS a b).q=(nN a:Rat)*P2 (-(b:Int)):=by
 unfold xS nN;rw[qq];cases a.1
 .simp only[bA,bq];rw[dN]
 .simp only[bD];rw[fg,dN];grind
def Fu(a:Bool×Nat):Bool×Nat:=jh a (true,16777216)
def Ft(a:Bool×Nat):Bool×Nat:=jh a (false,16777216)
def qU(a:Bool×Nat)(b p:Nat):Iv:=kI (jk (xS (Fu a) b) p false) (jf (xS (Fu a) b) p false) (jk (xS (Ft a) b) p true) (jf (xS (Ft a) b) p true)
def ack(a:Bool×Nat)(b:Nat){p:Nat}(hp:1<=p)(gY:p<=4096):(qU a b p).gX:=by
 unfold qU kI;split
 .exact kS
 .rename_i he;have c1:(xS (Fu a) b).mf:=sf _ _ _;have c2:(xS (Ft a) b).mf:=sf _ _ _;have A:=tV c1 hp gY;have B:=tW c2 hp gY;refine .inr ⟨rfl,rW _ hp gY _,rW _ hp gY _,?_⟩;rw[o9];refine bF (A.1 aC).2 (bF ?_ (B.1 aC).2);rw[Ox,Ox,tJ,dc];unfold Fu Ft;rw[I4,I4];simp[nN]
end Go.Proofs.YtkjkcjhacddojaaGreatDoor
