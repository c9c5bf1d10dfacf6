/- Lemmas that the last file uses. -/
import Derived.Test.YtgdahmmlddfimaaGreatDoorM03
import Derived.DeepKeys
set_option linter.unusedSimpArgs false
set_option linter.unusedVariables false
set_option linter.defProp false
set_option maxHeartbeats 4000000
open Go.Proofs.Tryz
namespace Go.Proofs.YtgdahmmlddfimaaGreatDoor
open Go.RowKit Fp Pu
def Q3(d:Dy)(n p:Nat)(x:Nat):PS:=⟨41,true,[(14,.e (iP ((x+1:Nat):Int))),(13,.e (iP ((jr d p false x).2))),(12,.box 12 0),(10,.box 10 0),(5,.box 5 0),(1,.e (iP n)),(2,.e (iP p)),(4,.e (.fn 254 []))],[(12,.cells 31 (jq ((jr d p false x).1))),(10,.cells 31 ar),(5,.cells 31 (jq d))]⟩
def Q4(d:Dy)(n N p:Nat)(x:Nat):PS:=⟨41,true,[(14,.e (iP ((x+1:Nat):Int))),(13,.e (iP ((jr d p false x).2))),(12,.box 12 0),(10,.box 10 0),(5,.box 5 0),(1,.e (iP n)),(2,.e (iP p)),(4,.e (.fn 254 []))],[(12,.cells 31 (jq ((jr d p false x).1))),(10,.cells 31 ar),(5,.cells 31 (jq d))]⟩
def Q5(d:Dy)(n p:Nat)(x:Nat):PS:=⟨41,true,[(14,.e (iP ((x+1:Nat):Int))),(13,.e (iP ((jr d p true x).2))),(12,.box 12 0),(10,.box 10 0),(5,.box 5 0),(1,.e (iP n)),(2,.e (iP p)),(4,.e (.fn 255 []))],[(12,.cells 31 (jq ((jr d p true x).1))),(10,.cells 31 ar),(5,.cells 31 (jq d))]⟩
def Q6(d:Dy)(n N p:Nat)(x:Nat):PS:=⟨41,true,[(14,.e (iP ((x+1:Nat):Int))),(13,.e (iP ((jr d p true x).2))),(12,.box 12 0),(10,.box 10 0),(5,.box 5 0),(1,.e (iP n)),(2,.e (iP p)),(4,.e (.fn 255 []))],[(12,.cells 31 (jq ((jr d p true x).1))),(10,.cells 31 ar),(5,.cells 31 (jq d))]⟩
def Dz(s:Bool)(m:Nat)(e:Int)(hl:(gY m).length<=256)(mB:-1000000<=e)(lF:e<=1000000):gW 219 [bP s,ic (gY m),iP e] (ie (canon s m e)):=by
 refine⟨call219,λw B vs hK hB hr=>?_⟩;obtain⟨v1,vs,rfl,h1,hr⟩:=hr.mG;obtain⟨v2,vs,rfl,h2,hr⟩:=hr.mG;obtain⟨v3,vs,rfl,h3,hr⟩:=hr.mG;obtain rfl:=hr.qU;obtain rfl:=iC.kC h1;obtain rfl:=iC.kC h3;obtain⟨A,c,rfl,s1⟩:=xx (mz m) h2;exact(RB s m e A c w s1 hl mB lF hK).mono λe w' h=>rd B w e w' hB h
def Iu(d:Dy)(hl:(gY d.m).length<=100000000)(mB:-10000000<=d.e)(lF:d.e<=10000000):gW 222 [ie d] (.ix [ie (kt d),iP (ml d)]):=
 yz call222 (λA c w h _=>acH d A c w h aC aC aC) OX
def Q7(m n:Nat)(hl:(gY m).length<=256)(hn:n<=65536)(hf:(gY (m*2^n)).length<=256):gW 220 [ic (gY m),iP n] (ic (gY (m*2^n))):=
 ak call220 func220 (af [ag [ic (gY m),iP n] (Ol _ _ hl hn hf)]) 
def QN{m n:Nat}:kE m n<0↔m<n:=by unfold kE;split<;>(try split)<;>omega
def QL{m n:Nat}:¬kE m n<0↔n<=m:=by unfold kE;split<;>(try split)<;>omega
noncomputable def Zm(a b:Dy)(ha:a.ij)(hb:b.ij)(a0:a.m≠0)(b0:b.m≠0)(k:Int)(hk:min a.e b.e=k)(la:(gY a.m).length<=256)(lb:(gY b.m).length<=256)(e1:-16384<=k)(e2:a.e<=16384)(e3:b.e<=16384)(fa:(gY (a.m*2^(a.e-k).toNat)).length<=256)(fb:(gY (b.m*2^(b.e-k).toNat)).length<=256)(fab:(gY ((a.m*2^(a.e-k).toNat)+(b.m*2^(b.e-k).toNat))).length<=256)(fx:(gY ((a.m*2^(a.e-k).toNat)-(b.m*2^(b.e-k).toNat))).length<=256)(fy:(gY ((b.m*2^(b.e-k).toNat)-(a.m*2^(a.e-k).toNat))).length<=256)(Jk:a.neg=b.neg->iL a b=canon a.neg ((a.m*2^(a.e-k).toNat)+(b.m*2^(b.e-k).toNat)) k)(Jl:a.neg≠b.neg->(b.m*2^(b.e-k).toNat)<=(a.m*2^(a.e-k).toNat)->iL a b=canon a.neg ((a.m*2^(a.e-k).toNat)-(b.m*2^(b.e-k).toNat)) k)(Jm:a.neg≠b.neg->(a.m*2^(a.e-k).toNat)<(b.m*2^(b.e-k).toNat)->iL a b=canon b.neg ((b.m*2^(b.e-k).toNat)-(a.m*2^(a.e-k).toNat)) k):Tr prog Tb:=
  ae [iz (a.e-k) aC,.o 70 (aq (a.e-k) ((a.e-k).toNat:Int) aC),ag [ic (gY a.m),iP ((a.e-k).toNat:Int)] (Q7 a.m (a.e-k).toNat la aC fa),iz (b.e-k) aC,.o 77 (aq (b.e-k) ((b.e-k).toNat:Int) aC),ag [ic (gY b.m),iP ((b.e-k).toNat:Int)] (Q7 b.m (b.e-k).toNat lb aC fb)]<|.w (a.neg=b.neg)
  (λk1=>ae [tB 83 (aV k1),ag [ic (gY (a.m*2^(a.e-k).toNat)),ic (gY (b.m*2^(b.e-k).toNat))] (GL (a.m*2^(a.e-k).toNat) (b.m*2^(b.e-k).toNat) fa fb fab),ag [bP a.neg,ic (gY ((a.m*2^(a.e-k).toNat)+(b.m*2^(b.e-k).toNat))),iP k] (Dz _ _ _ fab aC aC),ag [ie (canon a.neg ((a.m*2^(a.e-k).toNat)+(b.m*2^(b.e-k).toNat)) k)] (Iu _ (by have h:=yV a.neg ((a.m*2^(a.e-k).toNat)+(b.m*2^(b.e-k).toNat)) k fab;omega) (by have h:=yV a.neg ((a.m*2^(a.e-k).toNat)+(b.m*2^(b.e-k).toNat)) k fab;omega) (by have h:=yV a.neg ((a.m*2^(a.e-k).toNat)+(b.m*2^(b.e-k).toNat)) k fab;omega))]<|rQ (.ix [ie (kt (canon a.neg ((a.m*2^(a.e-k).toNat)+(b.m*2^(b.e-k).toNat)) k)),iP (ml (canon a.neg ((a.m*2^(a.e-k).toNat)+(b.m*2^(b.e-k).toNat)) k))]) (.ix [ie (kt (iL a b)),iP (ml (iL a b))]) (by rw[Jk k1]))
  (λk1=>ae [tB 83 (aU k1),ag [ic (gY (a.m*2^(a.e-k).toNat)),ic (gY (b.m*2^(b.e-k).toNat))] (yl (a.m*2^(a.e-k).toNat) (b.m*2^(b.e-k).toNat) aC aC)]<|.w ((kE (a.m*2^(a.e-k).toNat) (b.m*2^(b.e-k).toNat))<0)
   (λk2=>ae [tB 101 (a7 k2),ag [ic (gY (b.m*2^(b.e-k).toNat)),ic (gY (a.m*2^(a.e-k).toNat))] (CX (b.m*2^(b.e-k).toNat) (a.m*2^(a.e-k).toNat) fb fa (dq (QN.1 k2))),ag [bP b.neg,ic (gY ((b.m*2^(b.e-k).toNat)-(a.m*2^(a.e-k).toNat))),iP k] (Dz _ _ _ fy aC aC),ag [ie (canon b.neg ((b.m*2^(b.e-k).toNat)-(a.m*2^(a.e-k).toNat)) k)] (Iu _ (by have h:=yV b.neg ((b.m*2^(b.e-k).toNat)-(a.m*2^(a.e-k).toNat)) k fy;omega) (by have h:=yV b.neg ((b.m*2^(b.e-k).toNat)-(a.m*2^(a.e-k).toNat)) k fy;omega) (by have h:=yV b.neg ((b.m*2^(b.e-k).toNat)-(a.m*2^(a.e-k).toNat)) k fy;omega))]<|rQ (.ix [ie (kt (canon b.neg ((b.m*2^(b.e-k).toNat)-(a.m*2^(a.e-k).toNat)) k)),iP (ml (canon b.neg ((b.m*2^(b.e-k).toNat)-(a.m*2^(a.e-k).toNat)) k))]) (.ix [ie (kt (iL a b)),iP (ml (iL a b))]) (by rw[Jm k1 (QN.1 k2)]))
   (λk2=>ae [tB 101 (bc k2),ag [ic (gY (a.m*2^(a.e-k).toNat)),ic (gY (b.m*2^(b.e-k).toNat))] (CX (a.m*2^(a.e-k).toNat) (b.m*2^(b.e-k).toNat) fa fb (QL.1 k2)),ag [bP a.neg,ic (gY ((a.m*2^(a.e-k).toNat)-(b.m*2^(b.e-k).toNat))),iP k] (Dz _ _ _ fx aC aC),ag [ie (canon a.neg ((a.m*2^(a.e-k).toNat)-(b.m*2^(b.e-k).toNat)) k)] (Iu _ (by have h:=yV a.neg ((a.m*2^(a.e-k).toNat)-(b.m*2^(b.e-k).toNat)) k fx;omega) (by have h:=yV a.neg ((a.m*2^(a.e-k).toNat)-(b.m*2^(b.e-k).toNat)) k fx;omega) (by have h:=yV a.neg ((a.m*2^(a.e-k).toNat)-(b.m*2^(b.e-k).toNat)) k fx;omega))]<|rQ (.ix [ie (kt (canon a.neg ((a.m*2^(a.e-k).toNat)-(b.m*2^(b.e-k).toNat)) k)),iP (ml (canon a.neg ((a.m*2^(a.e-k).toNat)-(b.m*2^(b.e-k).toNat)) k))]) (.ix [ie (kt (iL a b)),iP (ml (iL a b))]) (by rw[Jl k1 (QL.1 k2)])))
def abh(a b:Dy)(ha:a.ij)(hb:b.ij)(a0:a.m≠0)(b0:b.m≠0)(k:Int)(hk:min a.e b.e=k)(la:(gY a.m).length<=256)(lb:(gY b.m).length<=256)(e1:-16384<=k)(e2:a.e<=16384)(e3:b.e<=16384)(fa:(gY (a.m*2^(a.e-k).toNat)).length<=256)(fb:(gY (b.m*2^(b.e-k).toNat)).length<=256)(fab:(gY ((a.m*2^(a.e-k).toNat)+(b.m*2^(b.e-k).toNat))).length<=256)(fx:(gY ((a.m*2^(a.e-k).toNat)-(b.m*2^(b.e-k).toNat))).length<=256)(fy:(gY ((b.m*2^(b.e-k).toNat)-(a.m*2^(a.e-k).toNat))).length<=256)(Jk:a.neg=b.neg->iL a b=canon a.neg ((a.m*2^(a.e-k).toNat)+(b.m*2^(b.e-k).toNat)) k)(Jl:a.neg≠b.neg->(b.m*2^(b.e-k).toNat)<=(a.m*2^(a.e-k).toNat)->iL a b=canon a.neg ((a.m*2^(a.e-k).toNat)-(b.m*2^(b.e-k).toNat)) k)(Jm:a.neg≠b.neg->(a.m*2^(a.e-k).toNat)<(b.m*2^(b.e-k).toNat)->iL a b=canon b.neg ((b.m*2^(b.e-k).toNat)-(a.m*2^(a.e-k).toNat)) k)(hn:¬(4097<max a.iw b.iw-k/\(1<a.iw-b.iw\/1<b.iw-a.iw))):gW 164 [ie a,ie b] (.ix [ie (kt (iL a b)),iP (ml (iL a b))]):=by
 have ta:-16384<=a.iw/\a.iw<=16384:=by
  unfold Dy.iw;rw[aZ a0];have:=ha.range.resolve_left a0;have:=ha.exp;omega
 have tb:-16384<=b.iw/\b.iw<=16384:=by
  unfold Dy.iw;rw[aZ b0];have:=hb.range.resolve_left b0;have:=hb.exp;omega
 exact ak call164 func164 (ae [ai 18 (((gY a.m).length:Int)==0) (nC (pJ a0)),ai 23 (((gY b.m).length:Int)==0) (nC (pJ b0)),.o 41 (aq (if b.e<a.e then b.e else a.e) k (by rw[<-hk];split<;>omega)),ag [ie a] (oo _ aD),ag [ie b] (oo _ aD),.o 48 (aq (if(Dy.iw b)>(Dy.iw a)then(Dy.iw b)else(Dy.iw a)) (max a.iw b.iw) aM),iz ((max a.iw b.iw)-k) aC]<|.w (4097<((max a.iw b.iw)-k))
  (λk1=>ae [tB 51 (a7 k1),iz ((Dy.iw a)-(Dy.iw b)) aC]<|.w (1<((Dy.iw a)-(Dy.iw b)))
   (λk2=>.x (by exact absurd ⟨k1,.inl k2⟩ hn))
   (λk2=>ae [tB 56 (bc k2),iz ((Dy.iw b)-(Dy.iw a)) aC]<|.w (1<((Dy.iw b)-(Dy.iw a)))
    (λk3=>.x (by exact absurd ⟨k1,.inr k3⟩ hn))
    (λk3=>ae [tB 61 (bc k3)]<|Zm a b ha hb a0 b0 k hk la lb e1 e2 e3 fa fb fab fx fy Jk Jl Jm)))
  (λk1=>ae [tB 51 (bc k1)]<|Zm a b ha hb a0 b0 k hk la lb e1 e2 e3 fa fb fab fx fy Jk Jl Jm)) 
def abg(a b:Dy)(ha:a.ij)(hb:b.ij)(a0:a.m≠0)(b0:b.m≠0)(k:Int)(hk:min a.e b.e=k)(e1:-16384<=k)(h1:4097<max a.iw b.iw-k)(h2:1<a.iw-b.iw\/1<b.iw-a.iw):gW 164 [ie a,ie b] (.ix [ie ju,iP 9]):=by
 have ta:-16384<=a.iw/\a.iw<=16384:=by
  unfold Dy.iw;rw[aZ a0];have:=ha.range.resolve_left a0;have:=ha.exp;omega
 have tb:-16384<=b.iw/\b.iw<=16384:=by
  unfold Dy.iw;rw[aZ b0];have:=hb.range.resolve_left b0;have:=hb.exp;omega
 exact ak call164 func164 (ae [ai 18 (((gY a.m).length:Int)==0) (nC (pJ a0)),ai 23 (((gY b.m).length:Int)==0) (nC (pJ b0)),.o 41 (aq (if b.e<a.e then b.e else a.e) k (by rw[<-hk];split<;>omega)),ag [ie a] (oo _ aD),ag [ie b] (oo _ aD),.o 48 (aq (if(Dy.iw b)>(Dy.iw a)then(Dy.iw b)else(Dy.iw a)) (max a.iw b.iw) aM),iz ((max a.iw b.iw)-k) aC,tB 51 (a7 h1),
  iz ((Dy.iw a)-(Dy.iw b)) aC]<|.w (1<((Dy.iw a)-(Dy.iw b)))
  (λk1=>af [tB 56 (a7 k1),.o 64 (.e sH:aj (.agg ar) (ie ju))])
  (λk1=>ae [tB 56 (bc k1),iz ((Dy.iw b)-(Dy.iw a)) aC]<|.w (1<((Dy.iw b)-(Dy.iw a)))
   (λk2=>af [tB 61 (a7 k2),.o 64 (.e sH:aj (.agg ar) (ie ju))])
   (λk2=>.x aC))) 
def abe(a b:Dy)(hb:b.ij)(a0:a.m=0):gW 164 [ie a,ie b] (.ix [ie b,iP 0]):=
 ak call164 func164 (af [ah 18 (((gY a.m).length:Int)==0) (s5 (sD.2 a0)),ah 28 (((gY a.m).length:Int)==0) (s5 (sD.2 a0)),.c (by have h:=Dz b.neg b.m b.e hb.gY (by have:=hb.exp;omega) (by have:=hb.exp;omega);rwa[hb.canon.B0]at h:gW 219 [bP b.neg,ic (gY b.m),iP b.e] (ie b))]) 
def abf(a b:Dy)(ha:a.ij)(a0:a.m≠0)(b0:b.m=0):gW 164 [ie a,ie b] (.ix [ie a,iP 0]):=
 ak call164 func164 (af [ai 18 (((gY a.m).length:Int)==0) (nC (pJ a0)),ah 23 (((gY b.m).length:Int)==0) (s5 (sD.2 b0)),ai 28 (((gY a.m).length:Int)==0) (nC (pJ a0)),.c (by have h:=Dz a.neg a.m a.e ha.gY (by have:=ha.exp;omega) (by have:=ha.exp;omega);rwa[ha.canon.B0]at h:gW 219 [bP a.neg,ic (gY a.m),iP a.e] (ie a))]) 
def Q8(a b:Dy)(ha:a.ij)(hb:b.ij):gW 164 [ie a,ie b] (.ix [ie (kt (iL a b)),iP (ml (iL a b))]):=by
 by_cases a0:a.m=0
 .rw [show iL a b=b by unfold iL;rw[a6 a0],yY hb.range,B2 hb.range];exact abe a b hb a0
 by_cases b0:b.m=0
 .rw [show iL a b=a by unfold iL;rw[aZ a0,a6 b0],yY ha.range,B2 ha.range];exact abf a b ha a0 b0
 obtain⟨k,hk⟩:∃ k,min a.e b.e=k:=⟨_,rfl⟩
 have xa:=ha.exp;have xb:=hb.exp;by_cases hn:4097<max a.iw b.iw-k/\(1<a.iw-b.iw\/1<b.iw-a.iw)
 .have kp:=amd ha hb a0 b0 hk hn.1 hn.2;rw[Fs kp,DF kp];exact abg a b ha hb a0 b0 k hk aC hn.1 hn.2
 .obtain ⟨f1,f2⟩:=amf ha hb a0 b0 hk hn;have len:∀ {m:Nat},iq m<=4098->(gY m).length<=256:=λh=>bk (NW (k:=129) (bk h aE)) aE 
  refine abh a b ha hb a0 b0 k hk ha.gY hb.gY aC aC aC (len aC) (len aC) (len (abq f1 f2)) (len (bk (uH (dP _ _)) aC)) (len (bk (uH (dP _ _)) aC)) (λh=>?_) (λh h'=>Zi a0 b0 hk h h') (λh h'=>Zj a0 b0 hk h h') hn;have:=Zk (s:=a.neg) a0 b0 hk;rw[<-this,show(⟨a.neg,b.m,b.e⟩:Dy)=b by rw[h]]
def Fl(a b:Dy)(ha:a.ij)(hb:b.ij):gW 241 [ie a,ie b] (.ix [ie (kt (iL a (jt b))),iP (ml (iL a (jt b)))]):=by
 have hn:=zZ hb;exact ak call241 func241 (af [ag [ie a] (oq _ aD),ag [ie b] (oq _ aD),ag [ie b] (xK _ aD),ag [ie a,ie (jt b)] (Q8 _ _ aD aD)]) 
def Dx(a b:Dy)(ha:a.ij)(hb:b.ij):gW 88 [ie a,ie b] (.ix [ie (kt (iL a b)),iP (ml (iL a b))]):=
 ak call88 func88 (af [ag [ie a] (oq _ aD),ag [ie b] (oq _ aD),ag [ie a,ie b] (Q8 _ _ aD aD)]) 
def aaQ(k:Int)(h1:-32768<=k)(h2:k<=32768):gW 233 [iP k] (bP true):=
 ak call233 func233 (af [tT 4 ((-32768)<=k) aC,tT 7 (k<=32768) aC]) 
def IB(d:Dy)(k:Int)(hv:d.ij)(h1:-32768<=k)(h2:k<=32768):gW 177 [ie d,iP k] (.ix [ie (kt (canon d.neg d.m (d.e+k))),iP (ml (canon d.neg d.m (d.e+k)))]):=by
 have hl:=hv.gY;have he:=hv.exp;have jK:=Rz (mz d.m) hl d.neg (d.e+k);obtain⟨kK,qj⟩:=Ry (mz d.m) hl d.neg (d.e+k) aC aC;rw[kr]at jK kK qj;exact ak call177 func177 (af [ag [ie d] (oq _ aD),.c (aaQ k aC aC),iz (d.e+k) aC,ag [bP d.neg,ic (gY d.m),iP (d.e+k)] (Dz _ _ _ aC aC aC),ag [ie (canon d.neg d.m (d.e+k))] (Iu _ aC aC aC)]) 
def Fi(n:Nat)(h:n<4294967296):gW 189 [iP n] (ie (iW (n:Int))):=by
 have ok2:iN [n%4294967296,n/4294967296%4294967296]:=iN.cons (bH _ aE) (iN.cons (bH _ aE) iN.nil);exact ak call189 func189 (ae [.o 5 (.int (sd _ aC):aj (.v (.int .u64 (IntKind.u64.wrap (n:Int)))) (.v (.int .u64 (n:Int)))),tF 7 ((n:Int)<0) aC,tF 11 ((n:Int)<0) aC,.o 13 (.int (E3 _):aj (.v (.int .u32 (IntKind.u32.wrap (n:Int)))) (.v (.int .u32 ((n%4294967296:Nat):Int)))),.a (aC:0<=(32:Int)/\(32:Int)<=((64:Nat):Int)),.o 15 (.int (YX _):aj (.v (.int .u64 ((n:Int)/2^32))) (.v (.int .u64 ((n/4294967296:Nat):Int)))),.o 16 (.int (E3 _):aj (.v (.int .u32 (IntKind.u32.wrap ((n/4294967296:Nat):Int)))) (.v (.int .u32 (((n/4294967296)%4294967296:Nat):Int)))),.o 17 (.e (amT _ _):aj (.sl false 2 1 λi_ j_=>[.v (.int .u32 ((n%4294967296:Nat):Int)),.v (.int .u32 (((n/4294967296)%4294967296:Nat):Int))].getD (i_*1+j_) (.v (.bool false))) (ic [n%4294967296,(n/4294967296)%4294967296])),ag [bP false,ic [n%4294967296,(n/4294967296)%4294967296],iP 0] (adn _ _ _ ok2 aH aE aE)]<|rQ (ie (canon false (val [n%4294967296,(n/4294967296)%4294967296]) 0)) (ie (iW (n:Int))) (by rw[ane,(aC:n%4294967296+4294967296*(n/4294967296%4294967296)=n),CI])) 
def agE:iW 1=⟨false,1,0⟩:=by rw[show(1:Int)=((1:Nat):Int)from rfl,CI];exact WX
def LD:gW 189 [iP 1] (ie ⟨false,1,0⟩):=by
 have:=Fi 1 aE;rwa[show((1:Nat):Int)=1 from rfl,agE]at this
def Iy(d:Dy)(p:Nat)(hd:d.ij)(il:8<=p)(ig:p<=512):gW 290 [ie d,iP p] (.ix [ie (kf d p false),iP (jS d p false)]):=
 ak call290 func290 (af [.c (Kv d p false aD aC aC)]) 
def Iz(d:Dy)(p:Nat)(hd:d.ij)(il:8<=p)(ig:p<=512):gW 289 [ie d,iP p] (.ix [ie (kf d p true),iP (jS d p true)]):=
 ak call289 func289 (af [.c (Kv d p true aD aC aC)]) 
def ON(d:Dy)(p:Nat)(up:Bool)(N:Nat)(h:(jr d p up N).2≠0):∀ k,jr d p up (N+k)=jr d p up N
 | 0=>rfl
 |k+1=>by
  have ih:=ON d p up N h k;show(if(jr d p up (N+k)).2≠0 then jr d p up (N+k)else _)=_;rw[ih,a6 h]
def Bv{d:Dy}{p:Nat}{up:Bool}{k:Nat}(h:(jr d p up k).2=0):jr d p up (k+1)=(kf (nc (jr d p up k).1 d) p up,jS (nc (jr d p up k).1 d) p up):=by
 show(if(jr d p up k).2≠0 then _ else _)=_;rw[aZ (not_not_intro h)];rfl
def aa3(d:Dy)(n p:Nat)(hd:d.ij)(hn:1<=n)(mK:n<=16)(il:8<=p)(ig:p<=512)(je:∀ x,x<n-1->(jr d p false x).2=0):gW 288 [ie d,iP n,iP p,.fn 290 [],.fn 254 []] (.ix [ie (jr d p false (n-1)).1,iP (jr d p false (n-1)).2]):=
 ak call288 func288 (af [.c (Iy d p aD aC aC),.s (Sp.jC (Q3 d n p) 0 (n-1) aC (λx hx k0=>by
    have oz:=je x aC;have hv:=Ad d (aC:1<=p) (aC:p<=4096) false x;exact iF (ae [tT 24 (((x+1:Nat):Int)<n) aC,ah 27 (((jr d p false x).2)==0) (by rw[oz];rfl),.c (Kt ((jr d p false x).1) d p aD aD aC aC),
     iz (((x+1:Nat):Int)+1) aC]<|.e (af [.o 13 (aq (jS (nc ((jr d p false x).1) d) p false) ((jr d p false (x+1)).2) (by rw[Bv oz])),.b 12 (.iT (by rw[Bv oz]):Bx.le (.cells 31 (jq (kf (nc ((jr d p false x).1) d) p false))) (.cells 31 (jq ((jr d p false (x+1)).1))))])) aF)
  (λhx=>by
    exact iF (af [tF 24 ((((n-1)+1:Nat):Int)<n) aC]) aF) aI:jA 3 f288 (Q3 d n p 0) (.exit 0) ⟨41,true,[(13,.e (iP ((jr d p false (n-1)).2))),(12,.box 12 0),(10,.box 10 0)],[(12,.cells 31 (jq ((jr d p false (n-1)).1))),(10,.cells 31 ar)]⟩) (af [.o 14 (aq 1 ((0+1:Nat):Int) rfl),.o 13 (aq (jS d p false) ((jr d p false 0).2) rfl),.b 12 (.iT rfl:Bx.le (.cells 31 (jq (kf d p false))) (.cells 31 (jq ((jr d p false 0).1))))])]) 
def aa4(d:Dy)(n N p:Nat)(hd:d.ij)(hn:1<=n)(mK:n<=16)(il:8<=p)(ig:p<=512)(mQ:N<n-1)(je:∀ x,x<N->(jr d p false x).2=0)(hN:(jr d p false N).2≠0):gW 288 [ie d,iP n,iP p,.fn 290 [],.fn 254 []] (.ix [ie (jr d p false N).1,iP (jr d p false N).2]):=
 ak call288 func288 (af [.c (Iy d p aD aC aC),.s (Sp.jC (Q4 d n N p) 0 N aC (λx hx k0=>by
    have oz:=je x aC;have hv:=Ad d (aC:1<=p) (aC:p<=4096) false x;exact iF (ae [tT 24 (((x+1:Nat):Int)<n) aC,ah 27 (((jr d p false x).2)==0) (by rw[oz];rfl),.c (Kt ((jr d p false x).1) d p aD aD aC aC),
     iz (((x+1:Nat):Int)+1) aC]<|.e (af [.o 13 (aq (jS (nc ((jr d p false x).1) d) p false) ((jr d p false (x+1)).2) (by rw[Bv oz])),.b 12 (.iT (by rw[Bv oz]):Bx.le (.cells 31 (jq (kf (nc ((jr d p false x).1) d) p false))) (.cells 31 (jq ((jr d p false (x+1)).1))))])) aF)
  (λhx=>by
    exact iF (af [tT 24 (((N+1:Nat):Int)<n) aC,ai 27 (((jr d p false N).2)==0) (by simpa using hN)]) aF) aI:jA 3 f288 (Q4 d n N p 0) (.exit 0) ⟨41,true,[(13,.e (iP ((jr d p false N).2))),(12,.box 12 0),(10,.box 10 0)],[(12,.cells 31 (jq ((jr d p false N).1))),(10,.cells 31 ar)]⟩) (af [.o 14 (aq 1 ((0+1:Nat):Int) rfl),.o 13 (aq (jS d p false) ((jr d p false 0).2) rfl),.b 12 (.iT rfl:Bx.le (.cells 31 (jq (kf d p false))) (.cells 31 (jq ((jr d p false 0).1))))])]) 
def aa5(d:Dy)(n p:Nat)(hd:d.ij)(hn:1<=n)(mK:n<=16)(il:8<=p)(ig:p<=512):gW 288 [ie d,iP n,iP p,.fn 290 [],.fn 254 []] (.ix [ie (jr d p false (n-1)).1,iP (jr d p false (n-1)).2]):=by
 by_cases h:∃ x,x<n-1/\decide ((jr d p false x).2≠0)=true
 .obtain ⟨N,h1,h2,h3⟩:=rh h;have hN:(jr d p false N).2≠0:=cB h2;have:=aa4 d n N p hd hn mK il ig h1 (λx hx=>by simpa using h3 x hx) hN;have e:=ON d p false N hN (n-1-N);rw[(aC:N+(n-1-N)=n-1)]at e;rw[e];exact this
 .exact aa3 d n p hd hn mK il ig λx hx=>bU λq=>h ⟨x,hx,a7 q⟩
def aa6(d:Dy)(n p:Nat)(hd:d.ij)(hn:1<=n)(mK:n<=16)(il:8<=p)(ig:p<=512)(je:∀ x,x<n-1->(jr d p true x).2=0):gW 288 [ie d,iP n,iP p,.fn 289 [],.fn 255 []] (.ix [ie (jr d p true (n-1)).1,iP (jr d p true (n-1)).2]):=
 ak call288 func288 (af [.c (Iz d p aD aC aC),.s (Sp.jC (Q5 d n p) 0 (n-1) aC (λx hx k0=>by
    have oz:=je x aC;have hv:=Ad d (aC:1<=p) (aC:p<=4096) true x;exact iF (ae [tT 24 (((x+1:Nat):Int)<n) aC,ah 27 (((jr d p true x).2)==0) (by rw[oz];rfl),.c (Ku ((jr d p true x).1) d p aD aD aC aC),
     iz (((x+1:Nat):Int)+1) aC]<|.e (af [.o 13 (aq (jS (nc ((jr d p true x).1) d) p true) ((jr d p true (x+1)).2) (by rw[Bv oz])),.b 12 (.iT (by rw[Bv oz]):Bx.le (.cells 31 (jq (kf (nc ((jr d p true x).1) d) p true))) (.cells 31 (jq ((jr d p true (x+1)).1))))])) aF)
  (λhx=>by
    exact iF (af [tF 24 ((((n-1)+1:Nat):Int)<n) aC]) aF) aI:jA 3 f288 (Q5 d n p 0) (.exit 0) ⟨41,true,[(13,.e (iP ((jr d p true (n-1)).2))),(12,.box 12 0),(10,.box 10 0)],[(12,.cells 31 (jq ((jr d p true (n-1)).1))),(10,.cells 31 ar)]⟩) (af [.o 14 (aq 1 ((0+1:Nat):Int) rfl),.o 13 (aq (jS d p true) ((jr d p true 0).2) rfl),.b 12 (.iT rfl:Bx.le (.cells 31 (jq (kf d p true))) (.cells 31 (jq ((jr d p true 0).1))))])]) 
def aa7(d:Dy)(n N p:Nat)(hd:d.ij)(hn:1<=n)(mK:n<=16)(il:8<=p)(ig:p<=512)(mQ:N<n-1)(je:∀ x,x<N->(jr d p true x).2=0)(hN:(jr d p true N).2≠0):gW 288 [ie d,iP n,iP p,.fn 289 [],.fn 255 []] (.ix [ie (jr d p true N).1,iP (jr d p true N).2]):=
 ak call288 func288 (af [.c (Iz d p aD aC aC),.s (Sp.jC (Q6 d n N p) 0 N aC (λx hx k0=>by
    have oz:=je x aC;have hv:=Ad d (aC:1<=p) (aC:p<=4096) true x;exact iF (ae [tT 24 (((x+1:Nat):Int)<n) aC,ah 27 (((jr d p true x).2)==0) (by rw[oz];rfl),.c (Ku ((jr d p true x).1) d p aD aD aC aC),
     iz (((x+1:Nat):Int)+1) aC]<|.e (af [.o 13 (aq (jS (nc ((jr d p true x).1) d) p true) ((jr d p true (x+1)).2) (by rw[Bv oz])),.b 12 (.iT (by rw[Bv oz]):Bx.le (.cells 31 (jq (kf (nc ((jr d p true x).1) d) p true))) (.cells 31 (jq ((jr d p true (x+1)).1))))])) aF)
  (λhx=>by
    exact iF (af [tT 24 (((N+1:Nat):Int)<n) aC,ai 27 (((jr d p true N).2)==0) (by simpa using hN)]) aF) aI:jA 3 f288 (Q6 d n N p 0) (.exit 0) ⟨41,true,[(13,.e (iP ((jr d p true N).2))),(12,.box 12 0),(10,.box 10 0)],[(12,.cells 31 (jq ((jr d p true N).1))),(10,.cells 31 ar)]⟩) (af [.o 14 (aq 1 ((0+1:Nat):Int) rfl),.o 13 (aq (jS d p true) ((jr d p true 0).2) rfl),.b 12 (.iT rfl:Bx.le (.cells 31 (jq (kf d p true))) (.cells 31 (jq ((jr d p true 0).1))))])]) 
def aa8(d:Dy)(n p:Nat)(hd:d.ij)(hn:1<=n)(mK:n<=16)(il:8<=p)(ig:p<=512):gW 288 [ie d,iP n,iP p,.fn 289 [],.fn 255 []] (.ix [ie (jr d p true (n-1)).1,iP (jr d p true (n-1)).2]):=by
 by_cases h:∃ x,x<n-1/\decide ((jr d p true x).2≠0)=true
 .obtain ⟨N,h1,h2,h3⟩:=rh h;have hN:(jr d p true N).2≠0:=cB h2;have:=aa7 d n N p hd hn mK il ig h1 (λx hx=>by simpa using h3 x hx) hN;have e:=ON d p true N hN (n-1-N);rw[(aC:N+(n-1-N)=n-1)]at e;rw[e];exact this
 .exact aa6 d n p hd hn mK il ig λx hx=>bU λq=>h ⟨x,hx,a7 q⟩
def QO(d:Dy)(n p:Nat)(hd:d.ij)(h0:¬d.iM<0)(hn:1<=n)(mK:n<=16)(il:8<=p)(ig:p<=512):gW 253 [ie d,iP n,iP p,bP false] (.ix [ie (lE d n p false).1,iP (lE d n p false).2]):=
 ak call253 func253 (ae [ag [ie d] (mT _ aD),tB 14 (bc h0),.c (aa5 d n p aD aC aC aC aC)]<|rQ (.ix [ie ((jr d p false (n-1)).1),iP ((jr d p false (n-1)).2)]) (.ix [ie (lE d n p false).1,iP (lE d n p false).2]) (by unfold lE;rw[aZ h0])) 
def QP(d:Dy)(n p:Nat)(hd:d.ij)(h0:¬d.iM<0)(hn:1<=n)(mK:n<=16)(il:8<=p)(ig:p<=512):gW 253 [ie d,iP n,iP p,bP true] (.ix [ie (lE d n p true).1,iP (lE d n p true).2]):=
 ak call253 func253 (ae [ag [ie d] (mT _ aD),tB 14 (bc h0),.c (aa8 d n p aD aC aC aC aC)]<|rQ (.ix [ie ((jr d p true (n-1)).1),iP ((jr d p true (n-1)).2)]) (.ix [ie (lE d n p true).1,iP (lE d n p true).2]) (by unfold lE;rw[aZ h0])) 
def YZ{d:Dy}(h:d.iM<0):¬(jt d).iM<0:=by
 rw[(sk _).2,rn];have:=(sk d).2.1 h
 grind
def aaL(d:Dy)(n p:Nat)(hd:d.ij)(h0:¬d.iM<0)(hn:1<=n)(mK:n<=16)(il:8<=p)(ig:p<=512):gW 253 [ie d,iP (n:Int),iP (p:Int),bP false] (.ix [ie (jr d p false (n-1)).1,iP (jr d p false (n-1)).2]):=by
 have:=QO d n p hd h0 hn mK il ig;unfold lE at this;rwa[aZ h0]at this
def aaM(d:Dy)(n p:Nat)(hd:d.ij)(h0:¬d.iM<0)(hn:1<=n)(mK:n<=16)(il:8<=p)(ig:p<=512):gW 253 [ie d,iP (n:Int),iP (p:Int),bP true] (.ix [ie (jr d p true (n-1)).1,iP (jr d p true (n-1)).2]):=by
 have:=QP d n p hd h0 hn mK il ig;unfold lE at this;rwa[aZ h0]at this
def aaJ(d:Dy)(n p:Nat)(hd:d.ij)(h0:d.iM<0)(hn:1<=n)(mK:n<=16)(il:8<=p)(ig:p<=512):gW 253 [ie d,iP n,iP p,bP false] (.ix [ie (lE d n p false).1,iP (lE d n p false).2]):=by
 have Ga:=zZ hd;have h1:=YZ h0;have hv:=Ad (jt d) (aC:1<=p) (aC:p<=4096) true (n-1);exact ak call253 func253 (ae [ag [ie d] (mT _ aD),tB 14 (a7 h0),ag [ie d] (xK _ aD),ag [ie (jt d),iP n,iP p,bP true] (aaM _ _ _ Ga h1 hn mK il ig),ag [ie ((jr (jt d) p true (n-1)).1)] (xK _ aD)]<|rQ (.ix [ie (jt ((jr (jt d) p true (n-1)).1)),iP ((jr (jt d) p true (n-1)).2)]) (.ix [ie (lE d n p false).1,iP (lE d n p false).2]) (by unfold lE;rw[a6 h0];rfl)) 
def QQ(d:Dy)(n p:Nat)(hd:d.ij)(hn:1<=n)(mK:n<=16)(il:8<=p)(ig:p<=512):gW 253 [ie d,iP (n:Int),iP (p:Int),bP false] (.ix [ie (lE d n p false).1,iP (lE d n p false).2]):=by
 by_cases h0:d.iM<0
 .exact aaJ d n p hd h0 hn mK il ig
 .exact QO d n p hd h0 hn mK il ig
def aaK(d:Dy)(n p:Nat)(hd:d.ij)(h0:d.iM<0)(hn:1<=n)(mK:n<=16)(il:8<=p)(ig:p<=512):gW 253 [ie d,iP n,iP p,bP true] (.ix [ie (lE d n p true).1,iP (lE d n p true).2]):=by
 have Ga:=zZ hd;have h1:=YZ h0;have hv:=Ad (jt d) (aC:1<=p) (aC:p<=4096) false (n-1);exact ak call253 func253 (ae [ag [ie d] (mT _ aD),tB 14 (a7 h0),ag [ie d] (xK _ aD),ag [ie (jt d),iP n,iP p,bP false] (aaL _ _ _ Ga h1 hn mK il ig),ag [ie ((jr (jt d) p false (n-1)).1)] (xK _ aD)]<|rQ (.ix [ie (jt ((jr (jt d) p false (n-1)).1)),iP ((jr (jt d) p false (n-1)).2)]) (.ix [ie (lE d n p true).1,iP (lE d n p true).2]) (by unfold lE;rw[a6 h0];rfl)) 
def QR(d:Dy)(n p:Nat)(hd:d.ij)(hn:1<=n)(mK:n<=16)(il:8<=p)(ig:p<=512):gW 253 [ie d,iP (n:Int),iP (p:Int),bP true] (.ix [ie (lE d n p true).1,iP (lE d n p true).2]):=by
 by_cases h0:d.iM<0
 .exact aaK d n p hd h0 hn mK il ig
 .exact QP d n p hd h0 hn mK il ig
def aa9(x:Iv)(n p:Nat)(hx:x.ij)(ha:x.all=true)(hn:n<=16)(il:8<=p)(ig:p<=512):gW 211 [ik x,iP n,iP p] (ik (kZ x n p)):=
 ak call211 func211 (ae [.o 12 (.e (lh _):aj (.sl true 1 7 λi_ j_=>(iJ x).getD (i_*7+j_) (.v (.bool false))) (ib [x])),ag [ib [x]] (qn _ aD),ai 13 (!x.all) (by rw[ha];rfl),.c nS]<|rQ (ik ia) (ik (kZ x n p)) (by unfold kZ;rw[a6 ha])) 
def abc(x:Iv)(n p:Nat)(hx:x.ij)(ha:x.all=false)(h0:n=0)(il:8<=p)(ig:p<=512):gW 211 [ik x,iP n,iP p] (ik (kZ x n p)):=by
 have v1:=EB;exact ak call211 func211 (ae [.o 12 (.e (lh _):aj (.sl true 1 7 λi_ j_=>(iJ x).getD (i_*7+j_) (.v (.bool false))) (ib [x])),ag [ib [x]] (qn _ aD),ah 13 (!x.all) (by rw[ha];rfl),ag [iP p] (wi _),ah 17 (lH (p:Int)) (sj.2 ⟨aC,aC⟩),tF 22 ((n:Int)<0) aC,tF 26 (16<(n:Int)) aC,ah 30 ((n:Int)==0) (s5 h0),ag [iP 1] LD,.c (ui (Dy.mk false 1 0) aD)]<|rQ (ik (j9 (Dy.mk false 1 0))) (ik (kZ x n p)) (by unfold kZ;rw[aZ (by rw[ha];decide),a6 h0])) 
def aba(x:Iv)(n p:Nat)(hx:x.ij)(ha:x.all=false)(h0:n≠0)(hn:n<=16)(he:n%2=0)(il:8<=p)(ig:p<=512):gW 211 [ik x,iP n,iP p] (ik (kZ x n p)):=by
 have va:=Il hx;obtain⟨w1,w2⟩:=va.jW;exact ak call211 func211 (ae [.o 12 (.e (lh _):aj (.sl true 1 7 λi_ j_=>(iJ x).getD (i_*7+j_) (.v (.bool false))) (ib [x])),ag [ib [x]] (qn _ aD),ah 13 (!x.all) (by rw[ha];rfl),ag [iP p] (wi _),ah 17 (lH (p:Int)) (sj.2 ⟨aC,aC⟩),tF 22 ((n:Int)<0) aC,tF 26 (16<(n:Int)) aC,ai 30 ((n:Int)==0) (nC h0),.a (aC:0<(2:Int)),.o 34 (aq (Int.tmod (n:Int) 2) ((n%2:Nat):Int) (by rw[aoS aC];omega)),ah 35 (((n%2:Nat):Int)==0) (s5 he),.c (NN x aD),ag [ie ((jV x).lo),iP n,iP p,bP false] (QQ _ _ _ aD aC aC aC aC),ag [ie ((jV x).hi),iP n,iP p,bP true] (QR _ _ _ aD aC aC aC aC),.c (CK ((lE ((jV x).lo) n p false).1) ((lE ((jV x).hi) n p true).1) ((lE ((jV x).lo) n p false).2) ((lE ((jV x).hi) n p true).2))]<|rQ (ik (mf ((lE ((jV x).lo) n p false).1) ((lE ((jV x).lo) n p false).2) ((lE ((jV x).hi) n p true).1) ((lE ((jV x).hi) n p true).2))) (ik (kZ x n p)) (by unfold kZ uy;rw[aZ (by rw[ha];decide),aZ h0,a6 he])) 
def abb(x:Iv)(n p:Nat)(hx:x.ij)(ha:x.all=false)(h0:n≠0)(hn:n<=16)(he:¬n%2=0)(il:8<=p)(ig:p<=512):gW 211 [ik x,iP n,iP p] (ik (kZ x n p)):=by
 have va:=hx;obtain⟨w1,w2⟩:=va.jW;exact ak call211 func211 (ae [.o 12 (.e (lh _):aj (.sl true 1 7 λi_ j_=>(iJ x).getD (i_*7+j_) (.v (.bool false))) (ib [x])),ag [ib [x]] (qn _ aD),ah 13 (!x.all) (by rw[ha];rfl),ag [iP p] (wi _),ah 17 (lH (p:Int)) (sj.2 ⟨aC,aC⟩),tF 22 ((n:Int)<0) aC,tF 26 (16<(n:Int)) aC,ai 30 ((n:Int)==0) (nC h0),.a (aC:0<(2:Int)),.o 34 (aq (Int.tmod (n:Int) 2) ((n%2:Nat):Int) (by rw[aoS aC];omega)),ai 35 (((n%2:Nat):Int)==0) (nC he),ag [ie x.lo,iP n,iP p,bP false] (QQ _ _ _ aD aC aC aC aC),ag [ie x.hi,iP n,iP p,bP true] (QR _ _ _ aD aC aC aC aC),.c (CK ((lE x.lo n p false).1) ((lE x.hi n p true).1) ((lE x.lo n p false).2) ((lE x.hi n p true).2))]<|rQ (ik (mf ((lE x.lo n p false).1) ((lE x.lo n p false).2) ((lE x.hi n p true).1) ((lE x.hi n p true).2))) (ik (kZ x n p)) (by unfold kZ uy;rw[aZ (by rw[ha];decide),aZ h0,aZ he])) 
def Fk(x:Iv)(n p:Nat)(hx:x.ij)(hn:n<=16)(il:8<=p)(ig:p<=512):gW 211 [ik x,iP (n:Int),iP (p:Int)] (ik (kZ x n p)):=by
 cases ha:x.all with
 |true=>exact aa9 x n p hx ha hn il ig
 |false=>
  by_cases h0:n=0
  .exact abc x n p hx ha h0 il ig
  .by_cases he:n%2=0
   .exact aba x n p hx ha h0 hn he il ig
   .exact abb x n p hx ha h0 hn he il ig
def QZ(x y:Iv)(hx:x.ij)(hy:y.ij)(xa:x.all=false)(ya:y.all=false):gW 242 [ik x,ik y] (ik (qC x y)):=by
 obtain⟨v1,v2⟩:=hx.jW;obtain⟨v3,v4⟩:=hy.jW;exact ak call242 func242 (ae [.o 7 (.e (zP _ _):aj (.sl true 2 7 λi_ j_=>(iJ x++iJ y).getD (i_*7+j_) (.v (.bool false))) (ib [x,y])),ag [ib [x,y]] (zO _ _ aD aD),ah 8 (!(x.all||y.all)) (by rw[xa,ya];rfl),.c (Ek x.lo y.lo aD aD),.c (El x.hi y.hi aD aD)]<|rQ (ik (Iv.mk (jd x.lo y.lo) (ja x.hi y.hi) false)) (ik (qC x y)) (by unfold qC;rw[xa,ya];rfl)) 
def Rg(z:Int):(z==0)=decide (z=0):=by by_cases h:z=0<;>simp[h]
def DB(x:Iv)(p:Nat)(hx:x.ij)(xa:x.all=false)(il:8<=p)(ig:p<=512):gW 244 [ik x,iP p] (.ix [ie (oW x p),bP (decide (vG x p=0))]):=by
 obtain⟨v1,v2⟩:=hx.jW;have v3:=zZ v1;exact ak call244 func244 (ae [.o 9 (.e (lh _):aj (.sl true 1 7 λi_ j_=>(iJ x).getD (i_*7+j_) (.v (.bool false))) (ib [x])),ag [ib [x]] (qn _ aD),ah 10 (!x.all) (by rw[xa];rfl),ag [iP p] (wi _),ah 14 (lH (p:Int)) (sj.2 ⟨aC,aC⟩),ag [ie x.lo] (xK _ aD),.c (Xp x.hi (jt x.lo) p aD aD aC aC)]<|rQ (.ix [ie (kf (iL x.hi (jt x.lo)) p true),bP ((jS (iL x.hi (jt x.lo)) p true)==0)]) (.ix [ie (oW x p),bP (decide (vG x p=0))]) (by rw[Rg];rfl)) 
def Iw(x y:Iv):zK x y=(y.all||(!x.all&&(decide (jj y.lo x.lo<=0)&&decide (jj x.hi y.hi<=0)))):=rfl
def Q0(x y:Iv)(hx:x.ij)(hy:y.ij):gW 82 [ik x,ik y] (bP (zK x y)):=by
 obtain⟨v1,v2⟩:=hx.jW;obtain⟨v3,v4⟩:=hy.jW;exact ak call82 func82 (ae [.c (qd x aD),.c (qd y aD)]<|.w (y.all=true)
  (λk1=>ae [tB 14 k1]<|rQ (bP true) (bP (zK x y)) (by rw[Iw];simp[k1]))
  (λk1=>ae [tB 14 (aW k1)]<|.w (x.all=true)
   (λk2=>ae [tB 17 k2]<|rQ (bP false) (bP (zK x y)) (by rw[Iw];simp[k1,k2]))
   (λk2=>ae [tB 17 (aW k2),ag [ie y.lo,ie x.lo] (nF _ _ aD aD)]<|.w ((jj y.lo x.lo)<=0)
    (λk3=>ae [tB 25 (a7 k3),ag [ie x.hi,ie y.hi] (nF _ _ aD aD)]<|rQ (bP (decide ((jj x.hi y.hi)<=0))) (bP (zK x y)) (by rw[Iw];simp[k1,k2,k3]))
    (λk3=>ae [tB 25 (bc k3)]<|rQ (bP false) (bP (zK x y)) (by rw[Iw];simp[k1,k2,k3]))))) 
def anO{α:Type}{l:List α}{i:Nat}{d:α}(h:i<l.length):l.getD i d=l[i]:=by
 rw[bh,bu h];rfl
def wj{T n n' k:Nat}{F:Nat->Iv}{y:Iv}(hn:n=k)(uW:n'=k+1)(hy:y=F k):
 Bx.le (.row true T (n+[y].length) 7 λi j=>if i<n then iK ((List.range k).map F) i j else(E.kG (ib [y])) (i-n) j) (.row true T n' 7 (iK ((List.range (k+1)).map F))):=by
 subst hn uW hy;refine .row rfl λi j hi hj=>⟨.iT ?_,tI _ _ hj⟩
 have hi:i<n+1:=hi;by_cases h:i<n
 .rw [a6 h];simp only[iK];rw[OS h,OS hi]
 .have mC:i=n:= aC ;subst mC;rw[aZ h,dp];simp only[iK];rw[OS hi];rfl
def V9{n:Nat}{M:List (List Iv)}(hn:n=M.length):E.le (.sl true n 1 (mE M)) (kN M):=by subst hn;exact .refl _
def xZ{n:Nat}{M:List Iv}(hn:n=M.length):E.le (.sl true n 7 (iK M)) (ib M):=by subst hn;exact .refl _
def C1(n:Nat)(h:n<4294967296):(jx (n:Int)).ij:=s8 (Ej n h)
def acw(m:Nat)(e:Int):(canon false m e).neg=false:=by unfold canon;split<;>rfl
def agy{c:Nat}(hc:0<c):(iW (c:Int)).m≠0:=by
 rw[CI];exact(BZ (s:=false) (e:=0) aC).2.2.1
def air{c:Nat}(hc:0<c):nM (jx (c:Int))=1:=by
 unfold nM jx j9;simp only[bE,bn];rw[a6];unfold Dy.iM;rw[aZ (agy hc),show(iW (c:Int)).neg=false by rw[CI];exact acw _ _];simp
section
variable {m m':List (List Iv)} {h h':Iv} {n p:Nat}
def Ot(j:Nat)(hj:j<4294967296):(jx (j:Int)).ij:=s8 (Ej j hj)
end
def WR(c:Nat):(jx (c:Int)).lo.q=(c:Rat)/\(jx (c:Int)).hi.q=(c:Rat)/\(jx (c:Int)).all=false:=by
 refine⟨?_,?_,rfl⟩
 .show (iW _).q=_;rw[Bw];exact dU c
 .show (iW _).q=_;rw[Bw];exact dU c
def O5(s:Bool)(m:Nat)(e:Int)(hl:(gY m).length<=3000)(mB:-1000000<=e)(lF:e<=1000000):gW 169 [bP s,ic (gY m),iP e] (ie (canon s m e)):=by
 refine⟨call169,λw B vs hK hB hr=>?_⟩;obtain⟨v1,vs,rfl,h1,hr⟩:=hr.mG;obtain⟨v2,vs,rfl,h2,hr⟩:=hr.mG;obtain⟨v3,vs,rfl,h3,hr⟩:=hr.mG;obtain rfl:=hr.qU;obtain rfl:=iC.kC h1;obtain rfl:=iC.kC h3;obtain⟨A,c,rfl,s1⟩:=xx (mz m) h2;have:=Ky s A c (gY m) e w s1 hl mB lF;rw[kr]at this;exact this.mono λe w' h=>rd B w e w' hB h
def BB(a:Dy)(ha:a.ij):gW 74 [ie a] (bP true):=yz call74 (λA c w h _=>aj4 a A c w h ha) rv
def O6(a:Dy):gW 157 [ie a] (iP a.iM):=yz call157 (λA c w h _=>aj1 a A c w h) rv
def ajV(a:Dy):gW 159 [ie a] (ie (jt a)):=
 yz call159 (λA c w h _=>by
  have:=ajU a.neg A c (gY a.m) a.e w h (vD _);rw[kr]at this;exact this) rd
def Kz(a:Dy)(ha:Av a):gW 158 [ie a] (iP a.iw):=yz call158 (λA c w h _=>aj3 a A c w h ha) rv
def ajR(n:Nat)(hn:n<4294967296):gW 126 [iP (n:Int)] (ie (canon false n 0)):=by
 refine⟨call126,λw B vs hK hB hr=>?_⟩;obtain⟨v1,vs,rfl,h1,hr⟩:=hr.mG;obtain rfl:=hr.qU;obtain rfl:=iC.kC h1;exact(ajQ n w hn).mono λe w' h=>rd B w e w' hB h
def Kx(a b:Dy)(r:Bool)(hr:r=true↔a=b)(ha:(gY a.m).length<=100000)(hb:(gY b.m).length<=100000):gW 34 [ie a,ie b] (bP r):=
 W9 call34 (λA c A' c' w h k _=>ajM a b A A' c c' w _ h k ha hb hr) rv
end Go.Proofs.YtgdahmmlddfimaaGreatDoor
namespace Go.Proofs.YtgdahmmlddfimaaGreatDoor.Fp
end Go.Proofs.YtgdahmmlddfimaaGreatDoor.Fp
namespace Go.Proofs.YtgdahmmlddfimaaGreatDoor
open Go.RowKit Fp Pu
def ajY(d:Dy)(k:Int)(hd:d.ij)(lP:-32768<=k)(wZ:k<=32768)(hr:mZ (canon d.neg d.m (d.e+k))):gW 125 [ie d,iP k] (.ix [ie (canon d.neg d.m (d.e+k)),iP 0]):=by
 refine⟨call125,λw B vs hK hB Gh=>?_⟩;obtain⟨v1,vs,rfl,h1,Gh⟩:=Gh.mG;obtain⟨v2,vs,rfl,h2,Gh⟩:=Gh.mG;obtain rfl:=Gh.qU;obtain⟨A,c,rfl,s1⟩:=IV h1;obtain rfl:=iC.kC h2;have:=ajZ d.neg A c (gY d.m) d.e k w s1 hd.vN lP wZ (by rw[kr];exact hr);rw[kr]at this;exact this.mono λe w' h=>OX B w e w' hB h
def Rv{n:Int}{e:Int}:canon (iW n).neg (iW n).m ((iW n).e+e)=j8 n e:=by
 unfold iW j8;by_cases h:n.natAbs=0
 .rw [h,DE,DE];show canon false 0 _=_;rw[DE]
 .have h1:=FD h;rw[show canon (decide (n<0)) n.natAbs 0=⟨decide (n<0),n.natAbs/2^jN n.natAbs,0+(jN n.natAbs:Int)⟩by unfold canon;rw[aZ h]];show canon (decide (n<0)) (n.natAbs/2^jN n.natAbs) (0+(jN n.natAbs:Int)+e)=_;rw[<-LN _ _ _ (jN n.natAbs),h1];congr 1;omega
def Fq{n e:Int}(h1:n.natAbs<4294967296)(h2:-1000<=e)(h3:e<=1000):(j8 n e).ij:=by
 refine⟨tl _ _ _,?_⟩;unfold j8;by_cases h0:n.natAbs=0
 .rw [h0,DE];exact .inl rfl
 .have:=BZ (s:=decide (n<0)) (e:=e) h0;have hb:iq n.natAbs<=32:=mj.2 h1;obtain⟨h4,h5,h6,_⟩:=this;have:=o0 h6;exact .inr ⟨aC,aC,aC,aC⟩
def sV{n:Int}(h1:n.natAbs<4294967296):(iW n).ij:=Fq h1 aE aE 
def ajO(k:Nat)(w:World)(h0:0<k)(hn:k<4294967296):
 Calls prog 126 #[.int .i64 (-(k:Int))] w (xD w (canon true k 0)):=by
 have hm:=yQ k aC;have w9:(k:Int)%4294967296=k:= aC ;rw[w9]at hm;have hd:(k:Int)/4294967296=0:= aC ;have iB:(-(k:Int))<0:= aC ;have MZ:decide ((-(k:Int))<0)=true:=a7 iB;have hu:IntKind.u64.wrap (-(k:Int))=18446744073709551616-k:=by rw[IntKind.wrap_u64];omega
 have hs:IntKind.u64.wrap (-(18446744073709551616-(k:Int)))=k:=by rw[IntKind.wrap_u64];omega
 have HC:=aoX (λ(A:Option Addr) c w (h:Sl w A c [k,0])=>Ky true A c [k,0] 0 w h aH aE aE);have hv:val [k,0]=k:= aH ;rw[hv]at HC;clear hv;generalize canon true k 0=d at *
 generalize hN:(-(k:Int))=N at *
 go_enter func126,ntmps126;go_wp2_with fail;refine(HC.out _ _ _ (Sl.K2 _ _ aH _ _ k 0 rfl rfl hn aE)).mono ?_;rintro r w1 ⟨A1,c1,rfl,uY,jK⟩;have lV:iI (w.alloc (.cells #[.bool false,.slice none 0 0,.int .i64 0] 31)) w1:=(iI.alloc _ _).trans jK;have bx:=(jI.new w false none 0 0 0).ext lV;have b0:=bx.c0;have b1:=bx.c1;have b2:=bx.c2;have f0:=bx.fr 0;have f1:=bx.fr 1;have f2:=bx.fr 2;go_wp2;exact uI rfl rfl rfl (bx.set _ _ _ _ _) rfl (bx.vv uY _ _ _ _ _) (jI.uA ((iI.alloc _ _).trans lV) (bg _) _ _ _ _ _)
def Vc(k:Nat)(h0:0<k):iW (-(k:Int))=canon true k 0:=by
 unfold iW j8;rw[a7 (show(-(k:Int))<0 by omega),fY,eB]
def ajP(n:Int)(h:n.natAbs<4294967296):gW 126 [iP n] (ie (iW n)):=by
 by_cases h0:0<=n
 .obtain ⟨k,rfl⟩:=eU h0;rw[CI];exact ajR k aC 
 .obtain ⟨k,rfl⟩:∃ k:Nat,n = -(k:Int):=⟨n.natAbs,aC⟩
  rw[Vc k aC];refine⟨call126,λw B vs hK hB hr=>?_⟩;obtain⟨v1,vs,rfl,h1,hr⟩:=hr.mG;obtain rfl:=hr.qU;obtain rfl:=iC.kC h1;exact(ajO k w aC aC).mono λe w' h=>rd B w e w' hB h
open Classical in
noncomputable def Fp.tS(d:Dy)(k:Int):Dy:=if mZ (canon d.neg d.m (d.e+k))then canon d.neg d.m (d.e+k)else ju
open Classical in
noncomputable def Fp.Dg(d:Dy)(k:Int):Int:=if mZ (canon d.neg d.m (d.e+k))then 0 else 9
def Ym(d:Dy)(k:Int):(tS d k).ij:=by
 unfold tS;split
 .rename_i h;exact⟨tl _ _ _,h⟩
 .exact rU
noncomputable def Fp.mh(x:Iv)(k:Int):Iv:=if x.all then ia else mf (tS x.lo k) (Dg x.lo k) (tS x.hi k) (Dg x.hi k)
def Fp.rB(x:Iv):Iv:=if x.all then x else⟨jt (nj x),nj x,false⟩
def Fp.qq(n:Int):Dy:=canon false 1 n
def wu{n:Int}(h:n.natAbs<4294967296):(jx n).ij:=s8 (sV h)
def Dw{x:Iv}(hx:x.ij):(rB x).ij:=by
 unfold rB;cases lg:x.all
 .have he:=hx.jW;have hm:=J6 he.1 he.2;simp only[bE,bn];refine .inr ⟨rfl,zZ hm,hm,?_⟩;show jj (jt (nj x)) (nj x)<=0;rw[pT,rn];obtain⟨a1,a2,_⟩:=CS hx.q;have:=hx.q
  grind
 .exact hx
def ak9{d:Dy}{k:Int}(h:Dg d k=0):tS d k=canon d.neg d.m (d.e+k):=by
 unfold Dg at h;unfold tS;split at h
 .rename_i h1;rw[a6 h1]
 .cases h
def BG{d:Dy}{k:Int}(h:Dg d k=0):(tS d k).q=d.q*P2 k:=by
 rw[ak9 h,r9,qV d,rA];cases d.neg<;>simp<;>grind
def Hg{x:Iv}(hx:x.ij)(k:Int):(mh x k).ij:=by
 unfold mh;split
 .exact mi
 .unfold mf;split
  .exact mi
  .rename_i h;refine .inr ⟨rfl,Ym _ _,Ym _ _,?_⟩;rw[pT,BG aC,BG aC,wq];exact hx.q
def Pp{x:Iv}{r:Rat}(h:x.jX r)(k:Int):(mh x k).jX (r*P2 k):=by
 unfold mh;split
 .exact .inl rfl
 .rename_i ha;unfold mf;split
  .exact .inl rfl
  .obtain ⟨h1,h2⟩:=h.jW (by simpa using ha);refine .inr ⟨?_,?_⟩
   .show (tS x.lo k).q<=_;rw[BG aC,wq];exact h1
   .show _<=(tS x.hi k).q;rw[BG aC,wq];exact h2
def ads(k:Nat)(w:World)(h0:0<k)(hn:k<4294967296)(ua:Tb w):
 Calls prog 189 #[.int .i64 (-(k:Int))] w (xD w (canon true k 0)):=by
 have hd:(k:Int)/4294967296=0:= aC ;have iB:(-(k:Int))<0:= aC ;have MZ:decide ((-(k:Int))<0)=true:=a7 iB;have hu:IntKind.u64.wrap (-(k:Int))=18446744073709551616-k:=by rw[IntKind.wrap_u64];omega
 have hs:IntKind.u64.wrap (-(18446744073709551616-(k:Int)))=k:=by rw[IntKind.wrap_u64];omega
 have Jd:IntKind.u32.wrap (k:Int)=k:=by rw[IntKind.wrap_u32];omega
 have ht:(iG [k,0]).length<=256:=by have:=pV [k,0];unfold mR at this;simp at this;omega
 have HC:=aoX (λ(A:Option Addr) c w (h:Sl w A c [k,0]) (hT:Tb w)=>IU true A c [k,0] 0 w h aH ht aE aE hT);have hv:val [k,0]=k:= aH ;rw[hv]at HC;clear hv ht;generalize canon true k 0=d at *
 generalize hN:(-(k:Int))=N at *
 go_enter func189,ntmps189;go_wp2_with fail;refine(HC.out _ _ _ (Sl.K2 _ _ aH _ _ k 0 rfl rfl hn aE) (ua.below (by first|exact(iI.alloc _ _).trans (iI.alloc _ _)|exact iI.alloc _ _))).mono ?_;rintro r w1 ⟨A1,c1,rfl,uY,jK⟩;have lV:iI (w.alloc (.cells #[.bool false,.slice none 0 0,.int .i64 0] 31)) w1:=(iI.alloc _ _).trans jK;have bx:=(jI.new w false none 0 0 0).ext lV;have b0:=bx.c0;have b1:=bx.c1;have b2:=bx.c2;have f0:=bx.fr 0;have f1:=bx.fr 1;have f2:=bx.fr 2;go_wp2;exact uI rfl rfl rfl (bx.set _ _ _ _ _) rfl (bx.vv uY _ _ _ _ _) (jI.uA ((iI.alloc _ _).trans lV) (bg _) _ _ _ _ _)
def rC(n:Int)(h:n.natAbs<4294967296):gW 189 [iP n] (ie (iW n)):=by
 by_cases h0:0<=n
 .obtain ⟨k,rfl⟩:=eU h0;exact Fi k aC 
 .obtain ⟨k,rfl⟩:∃ k:Nat,n = -(k:Int):=⟨n.natAbs,aC⟩
  rw[Vc k aC];refine⟨call189,λw B vs hK hB hr=>?_⟩;obtain⟨v1,vs,rfl,h1,hr⟩:=hr.mG;obtain rfl:=hr.qU;obtain rfl:=iC.kC h1;exact(ads k w aC aC hK).mono λe w' h=>rd B w e w' hB h
def ak7(d:Dy)(k:Int):kt (canon d.neg d.m (d.e+k))=tS d k:=by unfold kt tS;split<;>simp_all
def ak8(d:Dy)(k:Int):ml (canon d.neg d.m (d.e+k))=Dg d k:=by unfold ml Dg;split<;>simp_all
def my(a b:Nat):Nat->Nat×Nat
 | 0=>(a,b)
 |k+1=>((my a b k).2,(my a b k).1%(my a b k).2)
def Mb(a b:Nat):∀ k,my a b (k+1)=my b (a%b) k
 | 0=>rfl
 |k+1=>by
  show((my a b (k+1)).2,(my a b (k+1)).1%(my a b (k+1)).2)=_;rw[Mb a b k];rfl
def Ma(a b:Nat):∀ k,Nat.gcd (my a b k).1 (my a b k).2=Nat.gcd a b
 | 0=>rfl
 |k+1=>by
  show Nat.gcd (my a b k).2 ((my a b k).1%(my a b k).2)=_;rw[<-Ma a b k];exact(Nat.gcd_comm _ _).trans ((Nat.gcd_rec _ _).symm.trans (Nat.gcd_comm _ _))
def SJ:∀ (b a:Nat),∃ N,(∀ k,k<N->(my a b k).2≠0)/\(my a b N).2=0:=by
 intro b
 induction b using Nat.strongRecOn with
 |ind b ih=>
  intro a;by_cases h:b=0
  .exact ⟨0,λk hk=>absurd hk (bj k),h⟩
  .obtain ⟨N,h1,h2⟩:=ih (a%b) (bH a (dR h)) b;refine⟨N+1,λk hk=>?_,by rw[Mb];exact h2⟩;rcases k with _|k
   .exact h
   .rw [Mb];exact h1 k aC 
def rp(n d:Int)(p:Nat):Iv:=if nv n d then mf (pK (iW n) (iW d) p false) (q9 (iW n) (iW d) p false) (pK (iW n) (iW d) p true) (q9 (iW n) (iW d) p true)else ia
def Vb{d:Int}(h:d≠0):(iW d).m≠0:=by
 intro q;have hq:=Bw d;rw[qV,q]at hq;have e:(d:Rat)=0:=by
  rw[<-hq];split<;>simp
 rw[show(0:Rat)=((0:Int):Rat)from rfl,Rat.intCast_inj]at e;exact h e
def Sf{a b:Dy}(b0:b.m≠0){p:Nat}(hp:1<=p)(ig:p<=4096)(up:Bool):(pK a b p up).ij:=by
 unfold pK;split
 .exact rU
 .exact tp _ _ _ _ _ _ hp ig
def Pk(n d:Int){p:Nat}(hp:1<=p)(ig:p<=4096):(rp n d p).ij:=by
 unfold rp;split
 .rename_i h;obtain⟨r1,_⟩:=OT h;have d0:(iW d).m≠0:=Vb aC;unfold mf;split
  .exact mi
  .rename_i he;obtain⟨A,B⟩:=Sb (a:=iW n) d0 hp ig;refine .inr ⟨rfl,Sf d0 hp ig _,Sf d0 hp ig _,?_⟩;rw[pT];exact bN (A.1 aC).2 (B.1 aC).2
 .exact mi
def Tp(a b:Nat)(x:Nat):PS:=⟨12,true,[(0,.e (.v (.int .u64 (((my a b x).1:Nat):Int)))),(1,.e (.v (.int .u64 (((my a b x).2:Nat):Int))))],[]⟩
def aeF(a b N:Nat)(ha:a<18446744073709551616)(hb:b<18446744073709551616)(je:∀ k,k<N->(my a b k).2≠0)(hN:(my a b N).2=0):gW 215 [.v (.int .u64 (a:Int)),.v (.int .u64 (b:Int))] (.v (.int .u64 (((my a b N).1:Nat):Int))):=
 ak call215 func215 (af [.s (Sp.jC (Tp a b) 0 N aC (λx hx k0=>by
    have lV:=je x aC;exact iF (ae [ah 6 ((((my a b x).2:Nat):Int) != 0) (Ww (je x aC)),.a (aC:0<((((my a b x).2:Nat):Int):Int))]<|.e (af [.o 0 (.int aO:aj (.v (.int .u64 (((my a b x).2:Nat):Int))) (.v (.int .u64 (((my a b (x+1)).1:Nat):Int)))),.o 1 (.int aO:aj (.v (.int .u64 ((((my a b x).1)%((my a b x).2):Nat):Int))) (.v (.int .u64 (((my a b (x+1)).2:Nat):Int))))])) aF)
  (λhx=>by
    exact iF (af [ai 6 ((((my a b N).2:Nat):Int) != 0) (Wv hN)]) aF) aI:jA 1 f215 (Tp a b 0) (.exit 0) ⟨12,true,[(0,.e (.v (.int .u64 (((my a b N).1:Nat):Int))))],[]⟩) (af [.o 0 (.int aO:aj (.v (.int .u64 (a:Int))) (.v (.int .u64 (((my a b 0).1:Nat):Int)))),.o 1 (.int aO:aj (.v (.int .u64 (b:Int))) (.v (.int .u64 (((my a b 0).2:Nat):Int))))])]) 
def aeG(a b:Nat)(ha:a<18446744073709551616)(hb:b<18446744073709551616):gW 215 [.v (.int .u64 (a:Int)),.v (.int .u64 (b:Int))] (.v (.int .u64 (Nat.gcd a b:Int))):=by
 obtain⟨N,h1,h2⟩:=SJ b a;have hg:=Ma a b N;rw[h2,Nat.gcd_zero_right]at hg;rw[<-hg];exact aeF a b N ha hb h1 h2
def alO(m:Nat)(h:m<=1073741824):gW 216 [iP m] (.v (.int .u64 (m:Int))):=
 ak call216 func216 (af [tF 4 ((m:Int)<0) aC,.o 9 (.int (sd _ aC):aj (.v (.int .u64 (IntKind.u64.wrap (m:Int)))) (.v (.int .u64 (m:Int))))]) 
def alN(m:Nat)(h0:0<m)(h:m<=1073741824):gW 216 [iP (-(m:Int))] (.v (.int .u64 (m:Int))):=
 ak call216 func216 (af [tT 4 ((-(m:Int))<0) aC,iz (0-(-(m:Int))) aC,.o 6 (aq (0-(-(m:Int))) m aC),.o 7 (.int (sd _ aC):aj (.v (.int .u64 (IntKind.u64.wrap (m:Int)))) (.v (.int .u64 (m:Int))))]) 
def Y2(n:Int)(h1:-1073741824<=n)(h2:n<=1073741824):gW 216 [iP n] (.v (.int .u64 (n.natAbs:Int))):=by
 by_cases h:0<=n
 .obtain ⟨m,rfl⟩:=eU h;exact alO m aC 
 .obtain ⟨m,rfl⟩:∃ m:Nat,n = -(m:Int):=⟨n.natAbs,aC⟩
  rw[fY,eB];exact alN m aC aC 
def yr(g:Nat):((g:Int)==1)=decide (g=1):=by
 by_cases h:g=1
 .subst h;rfl
 .rw [bc h];exact aU aC 
def Ks(n d:Int):gW 153 [.agg [iP n,iP d]] (bP (nv n d)):=
 ak call153 func153 (.w (1<=d)
  (λk1=>ae [tB 5 (a7 k1)]<|.w (d<=1073741824)
   (λk2=>ae [tB 9 (a7 k2)]<|.w ((-1073741824)<=n)
    (λk3=>ae [tB 14 (a7 k3)]<|.w (n<=1073741824)
     (λk4=>ae [tB 19 (a7 k4),ag [iP n] (Y2 _ aC aC),ag [iP d] (Y2 _ aC aC),.c (aeG (Int.natAbs n) (Int.natAbs d) aC aC)]<|rQ (bP ((Nat.gcd (Int.natAbs n) (Int.natAbs d):Int)==1)) (bP (nv n d)) (by unfold nv;simp[yr,k1,k2,k3,k4]))
     (λk4=>ae [tB 19 (bc k4)]<|rQ (bP false) (bP (nv n d)) (by unfold nv;simp[yr,k1,k2,k3,k4])))
    (λk3=>ae [tB 14 (bc k3)]<|rQ (bP false) (bP (nv n d)) (by unfold nv;simp[yr,k1,k2,k3])))
   (λk2=>ae [tB 9 (bc k2)]<|rQ (bP false) (bP (nv n d)) (by unfold nv;simp[yr,k1,k2])))
  (λk1=>ae [tB 5 (bc k1)]<|rQ (bP false) (bP (nv n d)) (by unfold nv;simp[yr,k1]))) 
def V4{lo hi:Dy}{e f:Int}(h:e≠0\/f≠0):mf lo e hi f=ia:=a6 h
def ahJ{lo hi:Dy}{e f:Int}(h:e=0)(k:f=0):mf lo e hi f=⟨lo,hi,false⟩:=aZ (by rw[h,k];decide)
def Xn(n d:Int)(p:Nat)(h:nv n d=true)(il:8<=p)(ig:p<=512):gW 236 [.agg [iP n,iP d],iP p] (ik (rp n d p)):=by
 obtain⟨r1,r2,r3,r4⟩:=OT h;have v1:=sV (n:=n) aC;have v2:=sV (n:=d) aC;have d0:(iW d).m≠0:=Vb aC;exact ak call236 func236 (ae [.c (Ks n d),ai 11 (!(nv n d)) (by rw[h];rfl),ag [iP n] (rC _ aC),ag [iP d] (rC _ aC),.c (Xr (iW n) (iW d) p aD aD aD aC aC),ag [iP n] (rC _ aC),ag [iP d] (rC _ aC),.c (Xs (iW n) (iW d) p aD aD aD aC aC)]<|.w ((q9 (iW n) (iW d) p false)=0)
  (λk1=>ae [tB 36 (aX k1)]<|.w ((q9 (iW n) (iW d) p true)=0)
   (λk2=>ae [tB 39 (aX k2)]<|rQ (ik (Iv.mk (pK (iW n) (iW d) p false) (pK (iW n) (iW d) p true) false)) (ik (rp n d p)) (by unfold rp;rw[a6 h,ahJ k1 k2]))
   (λk2=>ae [tB 39 (aY k2),.o 41 (.e Lb:aj (.agg [bP false,.v (.slice none 0 0),iP 0,bP false,.v (.slice none 0 0),iP 0,bP true]) (ik ia))]<|rQ (ik ia) (ik (rp n d p)) (by unfold rp;rw[a6 h,V4 (.inr k2)])))
  (λk1=>ae [tB 36 (aY k1),.o 41 (.e Lb:aj (.agg [bP false,.v (.slice none 0 0),iP 0,bP false,.v (.slice none 0 0),iP 0,bP true]) (ik ia))]<|rQ (ik ia) (ik (rp n d p)) (by unfold rp;rw[a6 h,V4 (.inl k1)]))) 
noncomputable def uN(x:Iv)(p:Nat):Iv:=@dite Iv (∃ y:Iv,y.ij/\gW 312 [ik x,iP (p:Int)] (ik y)) (Classical.propDecidable _) Classical.choose (λ_=>ia)
def Mm(x:Iv)(p:Nat):(uN x p).ij:=by
 unfold uN;split
 .rename_i h;exact(cO h).1
 .exact mi
def SW(x:Iv)(hx:x.ij)(p:Nat)(il:8<=p)(ig:p<=512)(hF:uD):gW 312 [ik x,iP (p:Int)] (ik (uN x p)):=by
 have h:∃ y:Iv,y.ij/\gW 312 [ik x,iP (p:Int)] (ik y):=(hF x p hx il ig).1;unfold uN;rw[fK h];exact(cO h).2
noncomputable def uO(x:Iv)(p:Nat):Iv:=@dite Iv (∃ y:Iv,y.ij/\gW 314 [ik x,iP (p:Int)] (ik y)) (Classical.propDecidable _) Classical.choose (λ_=>ia)
def Mn(x:Iv)(p:Nat):(uO x p).ij:=by
 unfold uO;split
 .rename_i h;exact(cO h).1
 .exact mi
def SX(x:Iv)(hx:x.ij)(p:Nat)(il:8<=p)(ig:p<=512)(hF:uD):gW 314 [ik x,iP (p:Int)] (ik (uO x p)):=by
 have h:∃ y:Iv,y.ij/\gW 314 [ik x,iP (p:Int)] (ik y):=(hF x p hx il ig).2.1;unfold uO;rw[fK h];exact(cO h).2
noncomputable def uP(x:Iv)(p:Nat):Iv:=@dite Iv (∃ y:Iv,y.ij/\gW 315 [ik x,iP (p:Int)] (ik y)) (Classical.propDecidable _) Classical.choose (λ_=>ia)
def SZ(x:Iv)(p:Nat):(uP x p).ij:=by
 unfold uP;split
 .rename_i h;exact(cO h).1
 .exact mi
def SY(x:Iv)(hx:x.ij)(p:Nat)(il:8<=p)(ig:p<=512)(hF:uD):gW 315 [ik x,iP (p:Int)] (ik (uP x p)):=by
 have h:∃ y:Iv,y.ij/\gW 315 [ik x,iP (p:Int)] (ik y):=(hF x p hx il ig).2.2.1;unfold uP;rw[fK h];exact(cO h).2
noncomputable def uM(x:Iv)(p:Nat):Iv:=@dite Iv (∃ y:Iv,y.ij/\gW 316 [ik x,iP (p:Int)] (ik y)) (Classical.propDecidable _) Classical.choose (λ_=>ia)
def SV(x:Iv)(p:Nat):(uM x p).ij:=by
 unfold uM;split
 .rename_i h;exact(cO h).1
 .exact mi
def SU(x:Iv)(hx:x.ij)(p:Nat)(il:8<=p)(ig:p<=512)(hF:uD):gW 316 [ik x,iP (p:Int)] (ik (uM x p)):=by
 have h:∃ y:Iv,y.ij/\gW 316 [ik x,iP (p:Int)] (ik y):=(hF x p hx il ig).2.2.2.1;unfold uM;rw[fK h];exact(cO h).2
noncomputable def pL(x:Iv)(p:Nat):Iv:=@dite Iv (∃ y:Iv,y.ij/\gW 319 [ik x,iP (p:Int)] (ik y)) (Classical.propDecidable _) Classical.choose (λ_=>ia)
def FM(x:Iv)(p:Nat):(pL x p).ij:=by
 unfold pL;split
 .rename_i h;exact(cO h).1
 .exact mi
def S1(x:Iv)(hx:x.ij)(p:Nat)(il:8<=p)(ig:p<=512)(hF:uD):gW 319 [ik x,iP (p:Int)] (ik (pL x p)):=by
 have h:∃ y:Iv,y.ij/\gW 319 [ik x,iP (p:Int)] (ik y):=(hF x p hx il ig).2.2.2.2;unfold pL;rw[fK h];exact(cO h).2
def xG(o:ng):Bool:=decide (o.kind<=6)
noncomputable def mY(o:ng)(x y:Iv)(p:Nat):Iv:=
 if o.kind=3 then jf x y p else if o.kind=4 then rP x y p else if o.kind=5 then iD x y p else if o.kind=6 then jv x y p
 else if o.kind=7 then qe x else if o.kind=8 then kZ x o.n p else if o.kind=9 then uN x p else if o.kind=10 then uO x p
 else if o.kind=11 then uP x p else if o.kind=12 then uM x p else if o.kind=13 then pL x p else ia
noncomputable def xF(o:ng)(l:List Iv)(p:Nat):Iv:=if o.kind=1 then rp o.cn o.cd p else mY o (l.getD o.a ia) (if xG o then l.getD o.b ia else ia) p
noncomputable def jM(gZ:List ng)(xs:List Iv)(p:Nat):Nat->List Iv
 | 0=>xs
 |k+1=>jM gZ xs p k++[xF (gZ.getD k iE) (jM gZ xs p k) p]
noncomputable def ku(t:pX)(xs:List Iv)(p:Nat):List Iv:=t.iu.map λk=>(jM t.gZ xs p t.gZ.length).getD k ia
noncomputable def kS(s:jc)(x:List Iv)(h:Dy)(b:List Iv)(p:Nat):List Iv:=
 if nP (ku s.tape (b++s.params) p)then[]else if nP (zI x (ku s.tape (b++s.params) p) h p)then[]else zI x (ku s.tape (b++s.params) p) h p
noncomputable def rJ(s:jc)(x:List Iv)(h:Dy)(b:List Iv)(p:Nat):Bool:=!(kS s x h b p).isEmpty&&(ve x b&&ve (kS s x h b p) b)
def P0(gZ:List ng)(xs:List Iv)(p:Nat):∀ k,(jM gZ xs p k).length=xs.length+k
 | 0=>rfl
 |k+1=>by simp only[jM,cg,P0 gZ xs p k,cQ,aot];omega
def aaA(o:ng){x y:Iv}(hx:x.ij)(hy:y.ij){p:Nat}(hp:1<=p)(ig:p<=4096):(mY o x y p).ij:=by
 unfold mY;split
 .exact qG hx hy hp ig
 split
 .exact qG hx (CY hy) hp ig
 split
 .exact nV _ _ hp ig
 split
 .exact qI _ _ hp ig
 split
 .exact CY hx
 split
 .exact Kr hx _ hp ig
 split
 .exact Mm _ _
 split
 .exact Mn _ _
 split
 .exact SZ _ _
 split
 .exact SV _ _
 split
 .exact FM _ _
 .exact mi
def aaC(o:ng){l:List Iv}(hl:mu l){p:Nat}(hp:1<=p)(ig:p<=4096):(xF o l p).ij:=by
 unfold xF;split
 .exact Pk _ _ hp ig
 .exact aaA o (hl _) (by split;exact hl _;exact mi) hp ig
def K8(gZ:List ng){xs:List Iv}(h:mu xs){p:Nat}(hp:1<=p)(ig:p<=4096):∀ k,mu (jM gZ xs p k)
 | 0=>h
 |k+1=>(K8 gZ h hp ig k).push (aaC _ (K8 gZ h hp ig k) hp ig)
def S3(t:pX){xs:List Iv}(h:mu xs){p:Nat}(hp:1<=p)(ig:p<=4096):mu (ku t xs p):=λi=>by
 unfold ku;rw[bh,b6];cases t.iu[i]? with
 |none=>exact mi
 |some k=>exact K8 t.gZ h hp ig _ _
def I7(t:pX)(xs:List Iv)(p:Nat):(ku t xs p).length=t.iu.length:=by simp[ku]
def JT{s:jc}{x b:List Iv}{h:Dy}{p n:Nat}(hx:jh n x)(hp:1<=p)(ig:p<=4096)(jl:kS s x h b p≠[]):jh n (kS s x h b p):=by
 unfold kS at jl ⊢;split at jl
 .exact absurd rfl jl
 .rename_i h1;rw[aZ h1];split at jl
  .exact absurd rfl jl
  .rename_i h2;rw[aZ h2];exact⟨by rw[JV,hx.len],afJ (by simpa using h2) (agq hx.ok.PZ hp ig)⟩
def acX:jN 1=0:= aL 
def RA(e:Int):canon false 1 e=⟨false,1,e⟩:=by
 unfold canon;rw[aZ aE,acX];simp
def oj(k:Int):Dy:=⟨false,1,k⟩
def PU{k:Int}(h1:-100<=k)(h2:k<=100):mZ (oj k):=.inr ⟨by show iq 1<=4096;rw[xH];decide,by show -16384<=k;omega,by show k<=16384;omega,by show(iq 1:Int)+k<=16384;rw[xH];omega⟩
def Hv{k:Int}(h1:-100<=k)(h2:k<=100):(oj k).ij:=⟨by have:=tl false 1 k;rwa[RA]at this,PU h1 h2⟩
def Hu(k:Int):¬(oj k).iM<0:=by
 rw[(sk _).2,qV];show ¬(if false=true then _ else((1:Nat):Rat)*P2 k)<0;rw[aZ aE];have:=nN k
 grind
def KQ{d:Dy}(h:¬d.iM<0):0<=d.q:=by
 rw[(sk d).2]at h
 grind
noncomputable def qH(s:jc)(x:List Iv)(h:Dy)(p:Nat)(k:Int):Bool:=rV x (oj k)&&rJ s x h (qJ x (oj k)) p
def Ak(d:Dy):Dy:=kt (canon d.neg d.m (d.e + -3))
def Pq(d:Dy):Int:=ml (canon d.neg d.m (d.e + -3))
def ss(x:List Iv)(p:Nat):Dy:=if HW x p then nY x p x.length else ju
noncomputable def lO(s:jc)(x:List Iv)(h:Dy)(b:List Iv)(p:Nat):List Iv:=
 if kS s x h b p=[]then[]else
 if HW (ns x (kS s x h b p)) p=false\/(ss (ns x (kS s x h b p)) p).iM=0 then ns x (kS s x h b p)else
 if Pq (ss (ns x (kS s x h b p)) p)≠0 then ns x (kS s x h b p)else
 if rV (ns x (kS s x h b p)) (Ak (ss (ns x (kS s x h b p)) p))then qJ (ns x (kS s x h b p)) (Ak (ss (ns x (kS s x h b p)) p))else ns x (kS s x h b p)
noncomputable def lK(s:jc)(x:List Iv)(h:Dy)(p:Nat):Nat->List Iv
 | 0=>x
 |j+1=>lO s x h (lK s x h p j) p
def Yo(d:Dy):(Ak d).ij:=IL (tl _ _ _)
def Yn{d:Dy}(h:0<=d.q):0<=(Ak d).q:=by
 unfold Ak kt;split
 .rw [r9];rw[qV]at h;have p1:=nN d.e;have p2:=nN (d.e + -3);have m0:(0:Rat)<=(d.m:Rat):=by exact_mod_cast bV d.m
  split
  .rename_i hn;rw[a6 hn]at h;have hm:(d.m:Rat)*P2 d.e=0:=by
    have:=bW m0 (bJ p1)
    grind
   have Co:(d.m:Rat)=0:=by
    rcases Rat.mul_eq_zero.1 hm with q|q
    .exact q
    .grind
   rw[Co]
   grind
  .exact bW m0 (bJ p2)
 .rw [tN];exact cr
def ZZ(x:List Iv)(p:Nat):∀ k,0<=(nY x p k).q
 | 0=>by show 0<=ju.q;rw[tN];exact cr
 |k+1=>by
  have ih:=ZZ x p k;show 0<=(if 0<jj (oW (x.getD k ia) p) (nY x p k)then oW (x.getD k ia) p else nY x p k).q;split
  .rename_i h;have:¬jj (oW (x.getD k ia) p) (nY x p k)<=0:= aC ;rw[pT]at this
   grind
  .exact ih
def Z0(x:List Iv)(p:Nat):0<=(ss x p).q:=by
 unfold ss;split
 .exact ZZ x p _
 .rw [tN];exact cr
def aja{d:Dy}(h:0<=d.q):¬d.iM<0:=by
 rw[(sk d).2]
 grind
def Dl{s:jc}{x b:List Iv}{h:Dy}{p n:Nat}(hx:jh n x)(hp:1<=p)(ig:p<=4096)(jl:lO s x h b p≠[]):jh n (lO s x h b p):=by
 unfold lO at jl ⊢;split at jl
 .exact absurd rfl jl
 .rename_i h1;rw[aZ h1];have hh:=UJ hx (JT hx hp ig h1);split
  .exact hh
  .split
   .exact hh
   .split
    .rename_i hg;exact FV hh (Yo _) (Yn (Z0 _ _)) hg
    .exact hh
def QT(a b:List Iv)(g:FuncId)(cap:List E)(i:Nat):PS:=⟨32,false,[(17,.e (iP i)),(16,.e (iP a.length)),(15,.e (ib a)),(1,.e (ib b)),(2,.e (.fn g cap))],[]⟩
def QS(a b:List Iv)(g:FuncId)(cap:List E)(N:Nat)(i:Nat):PS:=⟨32,false,[(17,.e (iP i)),(16,.e (iP a.length)),(15,.e (ib a)),(1,.e (ib b)),(2,.e (.fn g cap))],[]⟩
def QX(x:List Iv)(d:Dy)(i:Nat):PS:=⟨60,true,[(6,.own 6),(28,.e (iP i)),(27,.e (iP x.length)),(26,.e (ib x)),(3,.box 3 0)],[(6,.row true 39 i 7 (iK ((List.range i).map (λj_=>re (x.getD j_ ia) d)))),(3,.cells 31 (jq d))]⟩
def QV(x:List Iv)(d:Dy)(N:Nat)(i:Nat):PS:=⟨60,true,[(6,.own 6),(28,.e (iP i)),(27,.e (iP x.length)),(26,.e (ib x)),(3,.box 3 0)],[(6,.row true 39 i 7 (iK ((List.range i).map (λj_=>re (x.getD j_ ia) d)))),(3,.cells 31 (jq d))]⟩
def QW(x:List Iv)(d:Dy)(N:Nat)(i:Nat):PS:=⟨60,true,[(6,.own 6),(28,.e (iP i)),(27,.e (iP x.length)),(26,.e (ib x)),(3,.box 3 0)],[(6,.row true 39 i 7 (iK ((List.range i).map (λj_=>re (x.getD j_ ia) d)))),(3,.cells 31 (jq d))]⟩
def QY(a b:List Iv)(i:Nat):PS:=⟨30,true,[(5,.own 5),(13,.e (iP i)),(12,.e (iP a.length)),(0,.e (ib a)),(1,.e (ib b))],[(5,.row true 39 i 7 (iK ((List.range i).map (λj_=>qC (a.getD j_ ia) (b.getD j_ ia)))))]⟩
def Ra(x:List Iv)(p:Nat)(i:Nat):PS:=⟨42,true,[(22,.e (iP i)),(21,.e (iP x.length)),(20,.e (ib x)),(6,.box 6 0),(4,.box 4 0),(1,.e (iP p))],[(6,.cells 31 (jq (nY x p i))),(4,.cells 31 ar)]⟩
def Q9(x:List Iv)(p:Nat)(N:Nat)(i:Nat):PS:=⟨42,true,[(22,.e (iP i)),(21,.e (iP x.length)),(20,.e (ib x)),(6,.box 6 0),(4,.box 4 0),(1,.e (iP p))],[(6,.cells 31 (jq (nY x p i))),(4,.cells 31 ar)]⟩
def abJ(x:Iv)(hx:x.ij)(xa:x.all=false):gW 181 [ik x] (bP false):=
 ak call181 func181 (af [ai 4 x.all xa,.c (qd x aD)]) 
def yS(b:List Iv)(h1:1<=b.length)(h8:b.length<=8)(hb:pq b):gW 106 [ib b] (bP true):=
 ak call106 func106 (af [tT 5 (1<=(b.length:Int)) aC,tT 9 ((b.length:Int)<=8) aC,.c (CL true _ _ 181 [] (λ_=>false) (λi hi=>abJ _ (hb i hi).1 (hb i hi).2) aC (λ_ _=>rfl):gW 53 [ib b,.fn 181 []] _)]) 
def IH(a b:List Iv)(a1:1<=a.length)(a8:a.length<=8)(hl:b.length=a.length)(ha:pq a)(hb:pq b):gW 151 [ib a,ib b] (bP true):=
 ak call151 func151 (af [.c (yS a aC aC aD),.c (yS b aC aC aD),ah 16 ((a.length:Int)==b.length) (Ka aC)]) 
def QU(a b:List Iv)(g:FuncId)(cap:List E)(f:Nat->Bool)(hl:b.length=a.length)(h8:a.length<=1000)(hp:∀ i,i<a.length->gW g ((ik (a.getD i ia))::(ik (b.getD i ia))::cap) (bP (f i)))(je:∀ i,i<a.length->f i=true):gW 98 [ib a,ib b,.fn g cap] (bP true):=
 an call98 func98 (af [ai 14 ((a.length:Int) != (b.length:Int)) (zY aC),.s (Sp.jC (QT a b g cap) 0 a.length aC (λi hi nQ=>by
    exact iF (af [tT 18 ((i:Int)<a.length) aC,iX (i:Int) (a.length) aC,iX (i:Int) (b.length) aC,.c (hp i aC:gW g ((ik (a.getD i ia))::(ik (b.getD i ia))::cap) _),ah 29 (f i) (je i aC),iz ((i:Int)+1) aC]) aF)
  (λhi=>by
    exact iF (af [tF 18 ((a.length:Int)<a.length) aC]) aF) aI:jA 4 Tryz.f98 (QT a b g cap 0) (.exit 0) ⟨32,false,[],[]⟩) .nil]) 
def aaN(a b:List Iv)(g:FuncId)(cap:List E)(f:Nat->Bool)(hl:b.length=a.length)(h8:a.length<=1000)(hp:∀ i,i<a.length->gW g ((ik (a.getD i ia))::(ik (b.getD i ia))::cap) (bP (f i)))(N:Nat)(mQ:N<a.length)(je:∀ i,i<N->f i=true)(hN:f N=false):gW 98 [ib a,ib b,.fn g cap] (bP false):=
 an call98 func98 (af [ai 14 ((a.length:Int) != (b.length:Int)) (zY aC),.s (Sp.jC (QS a b g cap N) 0 N aC (λi hi nQ=>by
    exact iF (af [tT 18 ((i:Int)<a.length) aC,iX (i:Int) (a.length) aC,iX (i:Int) (b.length) aC,.c (hp i aC:gW g ((ik (a.getD i ia))::(ik (b.getD i ia))::cap) _),ah 29 (f i) (je i aC),iz ((i:Int)+1) aC]) aF)
  (λhi=>by
    exact iF (af [tT 18 ((N:Int)<a.length) aC,iX (N:Int) (a.length) aC,iX (N:Int) (b.length) aC,.c (hp N aC:gW g ((ik (a.getD N ia))::(ik (b.getD N ia))::cap) _),ai 29 (f N) hN]) aF) aI:jA 4 Tryz.f98 (QS a b g cap N 0) .ret ⟨32,false,[(6,.e (bP false))],[]⟩) .nil]) 
def aaO(a b:List Iv)(g:FuncId)(cap:List E)(f:Nat->Bool)(hl:b.length=a.length)(h8:a.length<=1000)(hp:∀ i,i<a.length->gW g ((ik (a.getD i ia))::(ik (b.getD i ia))::cap) (bP (f i))):gW 98 [ib a,ib b,.fn g cap] (bP ((List.range a.length).all f)):=by
 by_cases h:∃ i,i<a.length/\(!(f i))=true
 .obtain ⟨N,h1,h2,h3⟩:=rh (p:=λi=>!(f i)) h;refine(aaN a b g cap f hl h8 hp N h1 (λi hi=>by simpa using h3 i hi) (by simpa using h2)).jQ (.iT ?_);rw[show(List.range a.length).all f=false from aok.2 ⟨N,bS.2 h1,by simpa using h2⟩]
 .have hh:∀ i,i<a.length->f i=true:=λi hi=>by
   cases hf:f i
   .exact absurd ⟨i,hi,by rw[hf];rfl⟩ h
   .rfl
  refine(QU a b g cap f hl h8 hp hh).jQ (.iT ?_);rw[show(List.range a.length).all f=true from bM.2 λi hi=>hh i (bS.1 hi)]
def Rl(a b:List Iv)(a1:1<=a.length)(a8:a.length<=8)(hl:b.length=a.length)(ha:pq a)(hb:pq b):gW 131 [ib a,ib b] (bP (ve a b)):=
 ak call131 func131 (af [.c (IH a b aC aC aC aD aD),.c (aaO a b 82 [] (λi=>zK (a.getD i ia) (b.getD i ia)) hl aC (λi hi=>Q0 _ _ (ha i hi).1 (hb i aC).1))]) 
def MA{x:Iv}{d:Dy}(h:vR x d=true):ml (iL x.lo (jt d))=0/\ml (iL x.hi d)=0:=by
 unfold vR at h;rwa[bF,cC,cC]at h
def abC(x:List Iv)(d:Dy)(x1:1<=x.length)(x8:x.length<=8)(hx:pq x)(hd:d.ij)(h0:¬d.iM<0)(je:∀ i,i<x.length->vR (x.getD i ia) d=true):gW 196 [ib x,ie d] (.ix [ib ((List.range x.length).map (λj_=>re (x.getD j_ ia) d)),iP 0]):=
 ak call196 func196 (af [.c (yS x aC aC aD),ag [ie d] (oq _ aD),ag [ie d] (mT _ aD),tB 24 (bc h0),.y 6 6 true 39 7 (iK ((List.range 0).map (λj_=>re (x.getD j_ ia) d))),.s (Sp.jC (QX x d) 0 x.length aC (λi hi nQ=>by
    obtain⟨w1,w2⟩:=(hx i aC).1.jW;obtain⟨g1,g2⟩:=MA (je i aC);have qy:=oP (Iv.mk (kt (iL (x.getD i ia).lo (jt d))) (kt (iL (x.getD i ia).hi d)) false);exact iF (ae [tT 29 ((i:Int)<x.length) aC,iX (i:Int) (x.length) aC,.c (Fl ((x.getD i ia).lo) d aD aD),.c (Dx ((x.getD i ia).hi) d aD aD),ai 47 ((ml (iL ((x.getD i ia).lo) (jt d))) != 0) (by rw[g1];rfl),ai 50 ((ml (iL ((x.getD i ia).hi) d)) != 0) (by rw[g2];rfl),.o 56 (.e (lh _):aj (.sl true 1 7 λi_ j_=>(iJ (Iv.mk (kt (iL ((x.getD i ia).lo) (jt d))) (kt (iL ((x.getD i ia).hi) d)) false)).getD (i_*7+j_) (.v (.bool false))) (ib [Iv.mk (kt (iL ((x.getD i ia).lo) (jt d))) (kt (iL ((x.getD i ia).hi) d)) false])),.a (aC:(i+[Iv.mk (kt (iL ((x.getD i ia).lo) (jt d))) (kt (iL ((x.getD i ia).hi) d)) false].length)*88<=140737488355328),iz ((i:Int)+1) aC]<|.e (af [.b 6 (wj rfl rfl rfl:Bx.le (.row true 39 (i+[Iv.mk (kt (iL ((x.getD i ia).lo) (jt d))) (kt (iL ((x.getD i ia).hi) d)) false].length) 7 (λi_ j_=>if i_<i then(iK ((List.range i).map (λj_=>re (x.getD j_ ia) d))) i_ j_ else(E.kG (ib [Iv.mk (kt (iL ((x.getD i ia).lo) (jt d))) (kt (iL ((x.getD i ia).hi) d)) false])) (i_-i) j_)) (.row true 39 (i+1) 7 (iK ((List.range (i+1)).map (λj_=>re (x.getD j_ ia) d)))))])) aF)
  (λhi=>by
    exact iF (ae [tF 29 ((x.length:Int)<x.length) aC,.z 6]<|.e (af [.o 6 (.e (xZ aH):aj (.sl true x.length 7 (iK ((List.range x.length).map (λj_=>re (x.getD j_ ia) d)))) (ib ((List.range x.length).map (λj_=>re (x.getD j_ ia) d))))])) aF) aI:jA 5 f196 (QX x d 0) (.exit 0) ⟨60,true,[(6,.e (ib ((List.range x.length).map (λj_=>re (x.getD j_ ia) d))))],[]⟩) .nil]) 
def abA(x:List Iv)(d:Dy)(x1:1<=x.length)(x8:x.length<=8)(hx:pq x)(hd:d.ij)(h0:¬d.iM<0)(N:Nat)(mQ:N<x.length)(je:∀ i,i<N->vR (x.getD i ia) d=true)(hN:ml (iL (x.getD N ia).lo (jt d))≠0):gW 196 [ib x,ie d] (.ix [.v (.slice none 0 0),iP 9]):=
 ak call196 func196 (af [.c (yS x aC aC aD),ag [ie d] (oq _ aD),ag [ie d] (mT _ aD),tB 24 (bc h0),.y 6 6 true 39 7 (iK ((List.range 0).map (λj_=>re (x.getD j_ ia) d))),.s (Sp.jC (QV x d N) 0 N aC (λi hi nQ=>by
    obtain⟨w1,w2⟩:=(hx i aC).1.jW;obtain⟨g1,g2⟩:=MA (je i aC);have qy:=oP (Iv.mk (kt (iL (x.getD i ia).lo (jt d))) (kt (iL (x.getD i ia).hi d)) false);exact iF (ae [tT 29 ((i:Int)<x.length) aC,iX (i:Int) (x.length) aC,.c (Fl ((x.getD i ia).lo) d aD aD),.c (Dx ((x.getD i ia).hi) d aD aD),ai 47 ((ml (iL ((x.getD i ia).lo) (jt d))) != 0) (by rw[g1];rfl),ai 50 ((ml (iL ((x.getD i ia).hi) d)) != 0) (by rw[g2];rfl),.o 56 (.e (lh _):aj (.sl true 1 7 λi_ j_=>(iJ (Iv.mk (kt (iL ((x.getD i ia).lo) (jt d))) (kt (iL ((x.getD i ia).hi) d)) false)).getD (i_*7+j_) (.v (.bool false))) (ib [Iv.mk (kt (iL ((x.getD i ia).lo) (jt d))) (kt (iL ((x.getD i ia).hi) d)) false])),.a (aC:(i+[Iv.mk (kt (iL ((x.getD i ia).lo) (jt d))) (kt (iL ((x.getD i ia).hi) d)) false].length)*88<=140737488355328),iz ((i:Int)+1) aC]<|.e (af [.b 6 (wj rfl rfl rfl:Bx.le (.row true 39 (i+[Iv.mk (kt (iL ((x.getD i ia).lo) (jt d))) (kt (iL ((x.getD i ia).hi) d)) false].length) 7 (λi_ j_=>if i_<i then(iK ((List.range i).map (λj_=>re (x.getD j_ ia) d))) i_ j_ else(E.kG (ib [Iv.mk (kt (iL ((x.getD i ia).lo) (jt d))) (kt (iL ((x.getD i ia).hi) d)) false])) (i_-i) j_)) (.row true 39 (i+1) 7 (iK ((List.range (i+1)).map (λj_=>re (x.getD j_ ia) d)))))])) aF)
  (λhi=>by
    obtain⟨w1,w2⟩:=(hx N aC).1.jW;exact iF (af [tT 29 ((N:Int)<x.length) aC,iX (N:Int) (x.length) aC,.c (Fl ((x.getD N ia).lo) d aD aD),.c (Dx ((x.getD N ia).hi) d aD aD),ah 47 ((ml (iL ((x.getD N ia).lo) (jt d))) != 0) (by simpa using hN)]) aF) aI:jA 5 f196 (QV x d N 0) .ret ⟨60,true,[(5,.e (iP 9)),(4,.e (.v (.slice none 0 0)))],[]⟩) .nil]) 
def abB(x:List Iv)(d:Dy)(x1:1<=x.length)(x8:x.length<=8)(hx:pq x)(hd:d.ij)(h0:¬d.iM<0)(N:Nat)(mQ:N<x.length)(je:∀ i,i<N->vR (x.getD i ia) d=true)(hM:ml (iL (x.getD N ia).lo (jt d))=0)(hN:ml (iL (x.getD N ia).hi d)≠0):gW 196 [ib x,ie d] (.ix [.v (.slice none 0 0),iP 9]):=
 ak call196 func196 (af [.c (yS x aC aC aD),ag [ie d] (oq _ aD),ag [ie d] (mT _ aD),tB 24 (bc h0),.y 6 6 true 39 7 (iK ((List.range 0).map (λj_=>re (x.getD j_ ia) d))),.s (Sp.jC (QW x d N) 0 N aC (λi hi nQ=>by
    obtain⟨w1,w2⟩:=(hx i aC).1.jW;obtain⟨g1,g2⟩:=MA (je i aC);have qy:=oP (Iv.mk (kt (iL (x.getD i ia).lo (jt d))) (kt (iL (x.getD i ia).hi d)) false);exact iF (ae [tT 29 ((i:Int)<x.length) aC,iX (i:Int) (x.length) aC,.c (Fl ((x.getD i ia).lo) d aD aD),.c (Dx ((x.getD i ia).hi) d aD aD),ai 47 ((ml (iL ((x.getD i ia).lo) (jt d))) != 0) (by rw[g1];rfl),ai 50 ((ml (iL ((x.getD i ia).hi) d)) != 0) (by rw[g2];rfl),.o 56 (.e (lh _):aj (.sl true 1 7 λi_ j_=>(iJ (Iv.mk (kt (iL ((x.getD i ia).lo) (jt d))) (kt (iL ((x.getD i ia).hi) d)) false)).getD (i_*7+j_) (.v (.bool false))) (ib [Iv.mk (kt (iL ((x.getD i ia).lo) (jt d))) (kt (iL ((x.getD i ia).hi) d)) false])),.a (aC:(i+[Iv.mk (kt (iL ((x.getD i ia).lo) (jt d))) (kt (iL ((x.getD i ia).hi) d)) false].length)*88<=140737488355328),iz ((i:Int)+1) aC]<|.e (af [.b 6 (wj rfl rfl rfl:Bx.le (.row true 39 (i+[Iv.mk (kt (iL ((x.getD i ia).lo) (jt d))) (kt (iL ((x.getD i ia).hi) d)) false].length) 7 (λi_ j_=>if i_<i then(iK ((List.range i).map (λj_=>re (x.getD j_ ia) d))) i_ j_ else(E.kG (ib [Iv.mk (kt (iL ((x.getD i ia).lo) (jt d))) (kt (iL ((x.getD i ia).hi) d)) false])) (i_-i) j_)) (.row true 39 (i+1) 7 (iK ((List.range (i+1)).map (λj_=>re (x.getD j_ ia) d)))))])) aF)
  (λhi=>by
    obtain⟨w1,w2⟩:=(hx N aC).1.jW;exact iF (af [tT 29 ((N:Int)<x.length) aC,iX (N:Int) (x.length) aC,.c (Fl ((x.getD N ia).lo) d aD aD),.c (Dx ((x.getD N ia).hi) d aD aD),ai 47 ((ml (iL ((x.getD N ia).lo) (jt d))) != 0) (by rw[hM];rfl),ah 50 ((ml (iL ((x.getD N ia).hi) d)) != 0) (by simpa using hN)]) aF) aI:jA 5 f196 (QW x d N 0) .ret ⟨60,true,[(5,.e (iP 9)),(4,.e (.v (.slice none 0 0)))],[]⟩) .nil]) 
def AY(x:List Iv)(d:Dy):Int:=if rV x d then 0 else 9
def Rk(x:List Iv)(d:Dy)(x1:1<=x.length)(x8:x.length<=8)(hx:pq x)(hd:d.ij)(h0:¬d.iM<0):gW 196 [ib x,ie d] (.ix [ib (qJ x d),iP (AY x d)]):=by
 unfold qJ AY;cases hg:rV x d with
 |true=>
  rw[a6 rfl,a6 rfl];exact abC x d x1 x8 hx hd h0 λi hi=>bM.1 hg i (bS.2 hi)
 |false=>
  rw[aZ aE,aZ aE];obtain⟨i,hi,hb⟩:=aok.1 hg;obtain⟨N,h1,h2,h3⟩:=rh (p:=λi=>!(vR (x.getD i ia) d)) ⟨i,bS.1 hi,by simpa using hb⟩;have je:∀ i,i<N->vR (x.getD i ia) d=true:=λi hi=>by simpa using h3 i hi
  have h2:vR (x.getD N ia) d=false:=by simpa using h2
  have key:gW 196 [ib x,ie d] (.ix [.v (.slice none 0 0),iP 9]):=by
   by_cases hM:ml (iL (x.getD N ia).lo (jt d))=0
   .exact abB x d x1 x8 hx hd h0 N h1 je hM λq=>by
     unfold vR at h2;rw[hM,q]at h2;exact absurd h2 aE 
   .exact abA x d x1 x8 hx hd h0 N h1 je hM
  exact key.jQ (.ix (.cons (.nil _ _ _) (.cons (.refl _) .nil)))
def abD(a b:List Iv)(a1:1<=a.length)(a8:a.length<=8)(hl:b.length=a.length)(ha:pq a)(hb:pq b):gW 197 [ib a,ib b] (ib (ns a b)):=
 ak call197 func197 (ae [.c (IH a b aC aC aC aD aD),.y 5 5 true 39 7 (iK ((List.range 0).map (λj_=>qC (a.getD j_ ia) (b.getD j_ ia)))),.s (Sp.jC (QY a b) 0 a.length aC (λi hi nQ=>by
    obtain⟨w1,w2⟩:=ha i aC;obtain⟨w3,w4⟩:=hb i aC;have qy:=oP (qC (a.getD i ia) (b.getD i ia));exact iF (ae [tT 14 ((i:Int)<a.length) aC,iX (i:Int) (a.length) aC,iX (i:Int) (b.length) aC,.c (QZ (a.getD i ia) (b.getD i ia) aD aD aD aD),.o 26 (.e (lh _):aj (.sl true 1 7 λi_ j_=>(iJ (qC (a.getD i ia) (b.getD i ia))).getD (i_*7+j_) (.v (.bool false))) (ib [qC (a.getD i ia) (b.getD i ia)])),.a (aC:(i+[qC (a.getD i ia) (b.getD i ia)].length)*88<=140737488355328),iz ((i:Int)+1) aC]<|.e (af [.b 5 (wj rfl rfl rfl:Bx.le (.row true 39 (i+[qC (a.getD i ia) (b.getD i ia)].length) 7 (λi_ j_=>if i_<i then(iK ((List.range i).map (λj_=>qC (a.getD j_ ia) (b.getD j_ ia)))) i_ j_ else(E.kG (ib [qC (a.getD i ia) (b.getD i ia)])) (i_-i) j_)) (.row true 39 (i+1) 7 (iK ((List.range (i+1)).map (λj_=>qC (a.getD j_ ia) (b.getD j_ ia))))))])) aF)
  (λhi=>by
    exact iF (ae [tF 14 ((a.length:Int)<a.length) aC,.z 5]<|.e (af [.o 5 (.e (xZ aH):aj (.sl true a.length 7 (iK ((List.range a.length).map (λj_=>qC (a.getD j_ ia) (b.getD j_ ia))))) (ib ((List.range a.length).map (λj_=>qC (a.getD j_ ia) (b.getD j_ ia)))))])) aF) aI:jA 5 f197 (QY a b 0) (.exit 0) ⟨30,true,[(5,.e (ib ((List.range a.length).map (λj_=>qC (a.getD j_ ia) (b.getD j_ ia)))))],[]⟩) .nil]<|rR (ib (ns a b)) (.refl _:E.le (ib ((List.range a.length).map (λj_=>qC (a.getD j_ ia) (b.getD j_ ia)))) (ib (ns a b)))) 
def Ro(p:Int):gW 243 [iP p] (bP (lH p)):=
 ak call243 func243 (.w (8<=p)
  (λk1=>ae [tB 4 (a7 k1)]<|rQ (bP (decide (p<=512))) (bP (lH p)) (by unfold lH;simp[k1]))
  (λk1=>ae [tB 4 (bc k1)]<|rQ (bP false) (bP (lH p)) (by unfold lH;simp[k1]))) 
def Rp:tf ar (jq ju):=.cons (.refl _) (.cons C0 (.cons (.refl _) .nil))
def Lc(x:List Iv)(p k:Nat):nY x p (k+1)=if 0<jj (oW (x.getD k ia) p) (nY x p k)then oW (x.getD k ia) p else nY x p k:=rfl
def P5(x:Iv){p:Nat}(hp:1<=p)(ig:p<=4096):(oW x p).ij:=wE _ hp ig _
def Ld(x:List Iv){p:Nat}(hp:1<=p)(ig:p<=4096):∀ k,(nY x p k).ij
 | 0=>rU
 |k+1=>by
  unfold nY;split
  .exact P5 _ hp ig
  .exact Ld x hp ig k
def abM(x:List Iv)(p:Nat)(x1:1<=x.length)(x8:x.length<=8)(hx:pq x)(il:8<=p)(ig:p<=512)(je:∀ i,i<x.length->vG (x.getD i ia) p=0):gW 198 [ib x,iP p] (.ix [ie (nY x p x.length),bP true]):=
 ak call198 func198 (af [.c (yS x aC aC aD),.c (Ro (p:Int)),ah 16 (lH (p:Int)) (sj.2 ⟨aC,aC⟩),.s (Sp.jC (Ra x p) 0 x.length aC (λi hi nQ=>by
    obtain⟨w1,w2⟩:=hx i aC;have Ng:=je i aC;have w3:=P5 (x.getD i ia) (aC:1<=p) (aC:p<=4096);have w4:=Ld x (aC:1<=p) (aC:p<=4096) i;exact iF (ae [tT 23 ((i:Int)<x.length) aC,iX (i:Int) (x.length) aC,.c (DB (x.getD i ia) p aD aD aC aC),tB 31 (a7 Ng),ag [ie (oW (x.getD i ia) p),ie (nY x p i)] (nF _ _ aD aD)]<|.w (0<jj (oW (x.getD i ia) p) (nY x p i))
     (λhc=>by
      have Cr:nY x p (i+1)=oW (x.getD i ia) p:=by rw[Lc,a6 hc]
      exact ae [tB 38 (a7 hc),iz ((i:Int)+1) aC]<|.e (af [.b 6 (.iT (by rw[Cr]):Bx.le (.cells 31 (jq (oW (x.getD i ia) p))) (.cells 31 (jq (nY x p (i+1)))))]))
     (λhc=>by
      have Cr:nY x p (i+1)=nY x p i:=by rw[Lc,aZ hc]
      exact ae [tB 38 (bc hc),iz ((i:Int)+1) aC]<|.e (af [.b 6 (.iT (by rw[Cr]):Bx.le (.cells 31 (jq (nY x p i))) (.cells 31 (jq (nY x p (i+1)))))]))) aF)
  (λhi=>by
    exact iF (af [tF 23 ((x.length:Int)<x.length) aC]) aF) aI:jA 5 f198 (Ra x p 0) (.exit 0) ⟨42,true,[(6,.box 6 0),(4,.box 4 0)],[(6,.cells 31 (jq (nY x p x.length))),(4,.cells 31 ar)]⟩) (af [.b 6 (.cells (λ_=>rfl) Rp:Bx.le (.cells 31 ar) (.cells 31 (jq (nY x p 0))))])]) 
def abK(x:List Iv)(p:Nat)(x1:1<=x.length)(x8:x.length<=8)(hx:pq x)(il:8<=p)(ig:p<=512)(N:Nat)(mQ:N<x.length)(je:∀ i,i<N->vG (x.getD i ia) p=0)(hN:vG (x.getD N ia) p≠0):gW 198 [ib x,iP p] (.ix [ie ju,bP false]):=
 ak call198 func198 (af [.c (yS x aC aC aD),.c (Ro (p:Int)),ah 16 (lH (p:Int)) (sj.2 ⟨aC,aC⟩),.s (Sp.jC (Q9 x p N) 0 N aC (λi hi nQ=>by
    obtain⟨w1,w2⟩:=hx i aC;have Ng:=je i aC;have w3:=P5 (x.getD i ia) (aC:1<=p) (aC:p<=4096);have w4:=Ld x (aC:1<=p) (aC:p<=4096) i;exact iF (ae [tT 23 ((i:Int)<x.length) aC,iX (i:Int) (x.length) aC,.c (DB (x.getD i ia) p aD aD aC aC),tB 31 (a7 Ng),ag [ie (oW (x.getD i ia) p),ie (nY x p i)] (nF _ _ aD aD)]<|.w (0<jj (oW (x.getD i ia) p) (nY x p i))
     (λhc=>by
      have Cr:nY x p (i+1)=oW (x.getD i ia) p:=by rw[Lc,a6 hc]
      exact ae [tB 38 (a7 hc),iz ((i:Int)+1) aC]<|.e (af [.b 6 (.iT (by rw[Cr]):Bx.le (.cells 31 (jq (oW (x.getD i ia) p))) (.cells 31 (jq (nY x p (i+1)))))]))
     (λhc=>by
      have Cr:nY x p (i+1)=nY x p i:=by rw[Lc,aZ hc]
      exact ae [tB 38 (bc hc),iz ((i:Int)+1) aC]<|.e (af [.b 6 (.iT (by rw[Cr]):Bx.le (.cells 31 (jq (nY x p i))) (.cells 31 (jq (nY x p (i+1)))))]))) aF)
  (λhi=>by
    obtain⟨w1,w2⟩:=hx N aC;exact iF (af [tT 23 ((N:Int)<x.length) aC,iX (N:Int) (x.length) aC,.c (DB (x.getD N ia) p aD aD aC aC),tB 31 (bc hN),.o 34 (.e sH:aj (.agg ar) (ie ju))]) aF) aI:jA 5 f198 (Q9 x p N 0) .ret ⟨42,true,[(5,.e (bP false)),(4,.box 4 0)],[(4,.cells 31 (jq ju))]⟩) (af [.b 6 (.cells (λ_=>rfl) Rp:Bx.le (.cells 31 ar) (.cells 31 (jq (nY x p 0))))])]) 
def anp(x:List Iv){p:Nat}(hp:1<=p)(ig:p<=4096):(ss x p).ij:=by
 unfold ss;split
 .exact Ld x hp ig _
 .exact rU
def abL(x:List Iv)(p:Nat)(x1:1<=x.length)(x8:x.length<=8)(hx:pq x)(il:8<=p)(ig:p<=512):gW 198 [ib x,iP (p:Int)] (.ix [ie (ss x p),bP (HW x p)]):=by
 unfold ss;cases hw:HW x p with
 |true=>
  rw[a6 rfl];exact abM x p x1 x8 hx il ig λi hi=>cB (bM.1 hw i (bS.2 hi))
 |false=>
  rw[aZ aE];obtain⟨i,hi,hb⟩:=aok.1 hw;obtain⟨N,h1,h2,h3⟩:=rh (p:=λi=>!(decide (vG (x.getD i ia) p=0))) ⟨i,bS.1 hi,by simpa using hb⟩;exact abK x p x1 x8 hx il ig N h1 (λi hi=>by simpa using h3 i hi) (by simpa using h2)
end Go.Proofs.YtgdahmmlddfimaaGreatDoor
namespace Go.Proofs.YtgdahmmlddfimaaGreatDoor.Pu
open Go.RowKit
def XT{bs br:Nat->Prop}{w:World}{xs:List Value}{a:Value}(h:iC bs br w (.agg (xs.map E.v)) a):a = .agg xs.toArray:=by
 generalize he:E.agg (xs.map E.v)=e at h;cases h with
 |agg l vs hl k=>
  cases he;rw[ck]at hl;have:vs=xs:=fV λi=>by
   cases hx:xs[i]? with
   |none=>rw[List.getElem?_eq_none_iff]at hx ⊢;omega
   |some x=>
    obtain⟨v,hv⟩:∃ v,vs[i]? = some v:=by
     have hi:i<xs.length:=(b7.1 hx).1;exact⟨vs[i]'(aC),bu aC⟩
    rw[hv,iC.kC (k i (.v x) v (by rw[b6,hx];rfl) hv)]
  rw[this]
 |_=>cases he
def OC{P:Program}{t:TypeId}{m D D':Nat}(hm:m<=10000)(hk:P.keyTypeAt m t=true)(hg:P.eqGuardType P.depth t=false){xs ys:List Value}{la lb:List Lit}
 (hx:P.keyLits D t xs=some la) (hy:P.keyLits D' t ys=some lb) (fx:(Value.agg xs.toArray).formed P t=true) (fy:(Value.agg ys.toArray).formed P t=true) {c:Bool} (hc:c=true↔la=lb):
 pB P .eql t (.agg (xs.map E.v)) (.agg (ys.map E.v)) (.bool c):=by
 intro bs br w a b ox oy ha hb;obtain rfl:=XT ha;obtain rfl:=XT hb;constructor
 .simp only[eqGuard,fk,bE,bn,Sem.run_bind,run_program,Result.andThen_ok,hg,ek,bB,Sem.run_pure]
 .obtain ⟨r,hr,afX⟩:=run_equalIn_deep (10000-m) m t hk w _ _ _ _ la lb fx fy (by simpa[Value.cells]using hx) (by simpa[Value.cells]using hy);rw[(aC:10000-m+m=10000)]at hr;have e:r=c:=by rw[dI,afX,hc]
  subst e;have:(Op.equal t (.agg xs.toArray) (.agg ys.toArray)).run P w = .ok r w:=hr;simp only[binOp,Sem.run_bind,this,Result.andThen_ok,Sem.run_pure]
end Go.Proofs.YtgdahmmlddfimaaGreatDoor.Pu
namespace Go.Proofs.YtgdahmmlddfimaaGreatDoor
open Go.RowKit Fp Pu
def W0{t:TypeId}{m:Nat}(hm:m<=10000)(hk:prog.keyTypeAt m t=true)(hg:prog.eqGuardType prog.depth t=false){xs:List Value}(hx:(prog.keyLits 10 t xs).isSome=true)
 (fx:(Value.agg xs.toArray).formed prog t=true):pB prog .eql t (.agg (xs.map E.v)) (.agg (xs.map E.v)) (.bool true):=by
 obtain⟨l,hl⟩:=gI.1 hx;exact OC hm hk hg hl hl fx fx aH 
def Ki{a b c d e f:Int}(h:a=0/\b=0/\c=0/\d=0/\e=0/\f=0):
 pB prog .eql 107 (.agg [iP a,iP b,iP c,iP d,iP e,iP f]) (.agg [iP 0,iP 0,iP 0,iP 0,iP 0,iP 0]) (.bool true):=by
 obtain⟨rfl,rfl,rfl,rfl,rfl,rfl⟩:=h;exact W0 (m:=10) (xs:=[.int .i64 0,.int .i64 0,.int .i64 0,.int .i64 0,.int .i64 0,.int .i64 0]) aE aF aF aF aF 
def OB{a b:Int}(h:a=0/\b=0):pB prog .eql 93 (.agg [iP a,iP b]) (.agg [iP 0,iP 0]) (.bool true):=by
 obtain⟨rfl,rfl⟩:=h;exact W0 (m:=10) (xs:=[.int .i64 0,.int .i64 0]) aE aF aF aF aF 
def Bj{d:Nat}{n:Int}(h:kA .i64 n):prog.keyLits (d+1) 3 [.int .i64 n]=some [.int .i64 n]:=by
 have hw:(Lit.int .i64 n).wf=true:=by
  unfold kA at h;simp[Lit.wf,IntKind.min,IntKind.max,IntKind.signed,IntKind.bits];omega
 unfold Program.keyLits;rw[underlying3];simp[hw]
def Xo{a b:Int}(ha:kA .i64 a)(hb:kA .i64 b):prog.keyLits 10 93 [.int .i64 a,.int .i64 b]=some [.int .i64 a,.int .i64 b]:=by
 have c1:prog.cellsOf 93=2:= aF ;have c2:prog.cellsOf 3=1:= aF ;unfold Program.keyLits;rw[underlying93];simp[c1,c2,fA,Bj ha,Bj hb]
def WZ{a b:Int}{r:Bool}(ha:kA .i64 a)(hb:kA .i64 b)(h:decide (a=0/\b=0)=r):pB prog .eql 93 (.agg [iP a,iP b]) (.agg [iP 0,iP 0]) (.bool r):=
 OC (m:=10) (xs:=[.int .i64 a,.int .i64 b]) (ys:=[.int .i64 0,.int .i64 0]) aE aF aF (Xo ha hb) (Xo aT aT) aF aF (by subst h;simp)
def aiv{a b c d e f a' b' c' d' e' f':Int}{r:Bool}(hx:prog.keyLits 10 107 [.int .i64 a,.int .i64 b,.int .i64 c,.int .i64 d,.int .i64 e,.int .i64 f]=some [.int .i64 a,.int .i64 b,.int .i64 c,.int .i64 d,.int .i64 e,.int .i64 f])(hy:prog.keyLits 10 107 [.int .i64 a',.int .i64 b',.int .i64 c',.int .i64 d',.int .i64 e',.int .i64 f']=some [.int .i64 a',.int .i64 b',.int .i64 c',.int .i64 d',.int .i64 e',.int .i64 f'])
 (fx:(Value.agg (List.toArray [.int .i64 a,.int .i64 b,.int .i64 c,.int .i64 d,.int .i64 e,.int .i64 f])).formed prog 107=true) (fy:(Value.agg (List.toArray [.int .i64 a',.int .i64 b',.int .i64 c',.int .i64 d',.int .i64 e',.int .i64 f'])).formed prog 107=true) (h:decide (a=a'/\b=b'/\c=c'/\d=d'/\e=e'/\f=f')=r):
 pB prog .eql 107 (.agg [iP a,iP b,iP c,iP d,iP e,iP f]) (.agg [iP a',iP b',iP c',iP d',iP e',iP f']) (.bool r):=
 OC (m:=10) (xs:=[.int .i64 a,.int .i64 b,.int .i64 c,.int .i64 d,.int .i64 e,.int .i64 f]) (ys:=[.int .i64 a',.int .i64 b',.int .i64 c',.int .i64 d',.int .i64 e',.int .i64 f']) aE aF aF hx hy fx fy (by subst h;simp)
def akH{P:Program}(w:World)(t tx ty e:TypeId)(i:TypeInfo)(z:Value)(ht:P.underlying t=some (.slice e))(hx:P.underlying tx=some (.int .i64))(hi:P.info? e=some i)(hz:i.zero=some z)
 (tH:i.size≠0) (n:Nat) (h0:0<n) (FW:n<=1000000) (TG:n*i.bytes<=281474976710656):
 (Builtin.append_ #[t,tx] ty #[.slice none 0 0,.int .i64 (n:Int)]).run P w =
  .ok (.slice (some ⟨w.heap.size,0,none⟩) n (grownCap w n 0 e)) (w.drew.alloc (.cells (Builtin.zeroCells z.cells n++Builtin.zeroCells z.cells (grownCap w n 0 e-n)) e)):=by
 have hn:n≠0:= aC ;have hns:n*i.size≠0:=dD hn tH;have afD:¬(9223372036854775807<(n:Int)):= aC ;have afB:¬(281474976710656<Builtin.nextslicecap n 0*i.bytes):=by rw[nextslicecap_zero h0];omega
 have hw:IntKind.i64.wrap (n:Int)=n:=i64_in _ aC aC;have Ga:¬((n:Int)<0):= aC ;have afC:¬(281474976710656<(n:Int)*(i.bytes:Int)):=by
  have:(n:Int)*(i.bytes:Int)=((n*i.bytes:Nat):Int):= aH ;rw[this];omega
 simp[Builtin.append_,run_underlying ht,run_underlying hx,sizeOf,typeInfo,zeroValue,hi,hz,asInt,asIntOf,hw,Ga,afC,hn,hns,afD,afB,Question.forced,run_firstCells_none,newRow,grownCap]
def Z3{P:Program}{w:World}{gZ:Array Oper}{rest:List Oper}{o:Oper}{a:Act}{Q:Exit->Act->World->Prop}(Ck:o.guard=none)(s x:Operand)(t tx:TypeId)
 (ho:o.op = .call { callee:=.builtin .append,args:=#[s,x],argTypes:=#[t,tx] })
 (e:TypeId) (i:TypeInfo) (z:Value) (ht:P.underlying t=some (.slice e)) (hx:P.underlying tx=some (.int .i64)) (hi:P.info? e=some i) (hz:i.zero=some z)
 (tH:i.size≠0) (n:Nat) (h0:0<n) (FW:n<=1000000) (TG:n*i.bytes<=281474976710656) (hs:a.eval s = .slice none 0 0) (hxx:a.eval x = .int .i64 (n:Int))
 (h:wpList P gZ Q rest (a.put o.dst (.slice (some ⟨w.heap.size,0,none⟩) n (grownCap w n 0 e))) (w.drew.alloc (.cells (Builtin.zeroCells z.cells n++Builtin.zeroCells z.cells (grownCap w n 0 e-n)) e))):wpList P gZ Q (o::rest) a w:=by
 refine wpList_plain Ck λK hK=>?_
 have kP:=akH (P:=P) w t tx o.type e i z ht hx hi hz tH n h0 FW TG;unfold Oper.wp;simp[execOp,ho,resolve,invoke,builtin,hs,hxx,kP,Result.andThen];exact hK _ _ h
def Qs(w:World)(o:Obj):Below w.heap.size w (w.alloc o).drew:=⟨rfl,rfl,rfl,by rw[show(w.alloc o).drew.heap=w.heap.push o from rfl,Array.size_push];omega,λx hx=>Below.heap_alloc w _ x hx⟩
def Qt(w:World)(o:Obj):w.heap.size<(w.alloc o).drew.heap.size:=by rw[show(w.alloc o).drew.heap=w.heap.push o from rfl,Array.size_push];omega
def agt:(prog.info? 39).map (λi=>(i.zero,i.size,i.bytes))=some (some (.agg #[.bool false,.slice none 0 0,.int .i64 0,.bool false,.slice none 0 0,.int .i64 0,.bool false]),7,88):= aF 
def aaa(n:Nat):∀ u,u ∈ Builtin.zeroCells (Value.cells (.agg #[.bool false,.slice none 0 0,.int .i64 0,.bool false,.slice none 0 0,.int .i64 0,.bool false])) n->pQ u=false:=by
 intro u hu;simp only[Builtin.zeroCells,fo,fp]at hu;obtain⟨q,hq,rfl⟩:=hu;have hc:Value.cells (.agg #[.bool false,.slice none 0 0,.int .i64 0,.bool false,.slice none 0 0,.int .i64 0,.bool false]) = #[.bool false,.slice none 0 0,.int .i64 0,.bool false,.slice none 0 0,.int .i64 0,.bool false]:=rfl;rw[hc]at hq ⊢;have hs:(#[Value.bool false,.slice none 0 0,.int .i64 0,.bool false,.slice none 0 0,.int .i64 0,.bool false]:Array Value).size=7:=rfl;rw[hs];have h7:q%7<7:=bH _ aE;generalize q%7=k at h7;rcases k with _|_|_|_|_|_|_|k
 all_goals first|rfl|omega
set_option maxRecDepth 100000 in
def aft(n:Nat)(hn:n<=1000000):tW prog Tb 326 [.v (.slice none 0 0),iP (n:Int)] true 39 0 7 (iK []):=by
 refine⟨call326,λw B vs hK hB hr=>?_⟩;obtain⟨v1,vs,rfl,h1,hr⟩:=hr.mG;obtain⟨v2,vs,rfl,h2,hr⟩:=hr.mG;obtain rfl:=hr.qU;obtain rfl:=iC.kC h1;obtain rfl:=iC.kC h2;show Calls _ _ #[.slice none 0 0,.int .i64 (n:Int)] w _;clear h1 h2 hr hB hK;by_cases h0:n=0
 .subst h0;go_enter func326,ntmps326;go_wp2;go_ret;exact⟨_,rfl,Below.refl _ _,λ_ _=>undef,.inl ⟨rfl,rfl⟩,λx hx=>by simp[Value.ownBlock]at hx,λi j hi=>absurd hi (bj _)⟩
 .obtain ⟨i,hi,hz,h1,h2⟩:=info_parts agt;have hw:IntKind.i64.wrap ((n:Int)-0)=n:=i64_in _ aC aC;have JP:IntKind.i64.wrap (n:Int)=n:=i64_in _ aC aC;have e2:decide ((n:Int)<0)=false:=bc aC;have e3:decide ((0:Int)<n)=true:=a7 aC;have Ci:n<=grownCap w n 0 39:=grownCap_ge w n 0 _;go_enter func326,ntmps326;go_wp2_with (at_builtin;go_must (refine Z3 aG _ _ _ _ aG _ i _ underlying26 underlying3 hi hz aC n aC aC (by rw[h2];omega) aG aG ?_))
  go_ret;have hz7:(#[Value.bool false,.slice none 0 0,.int .i64 0,.bool false,.slice none 0 0,.int .i64 0,.bool false]:Array Value).size=7:=rfl;refine⟨_,rfl,Qs w _,λ_ _=>undef,.inr ⟨w.heap.size,grownCap w n 0 39,_,rfl,heap_alloc_new w _,bV _,grownCap_le_maxLen w n 0 _ (by unfold maxLen;omega),?_,λi j hi=>absurd hi (bj _),λ_ u hu=>?_⟩,λx hx=>?_,λi j hi=>absurd hi (bj _)⟩
  .simp only[gy,size_zeroCells,hz7,<-bX];congr 1;omega
  .rcases eK.1 hu with hu|hu
   .exact aaa _ u hu
   .exact aaa _ u hu
  .simp [Value.ownBlock]at hx;subst hx;exact⟨bg _,Qt w _⟩
abbrev wL(f:FuncId)(args:List E)(nl:Bool)(T:TypeId)(n sz:Nat)(el:Nat->Nat->E):Prop:=tW prog Tb f args nl T n sz el
def ZH{f:FuncId}{fn:Func}{args:List E}{nl:Bool}{T0:TypeId}{n sz:Nat}{el:Nat->Nat->E}(wX:∀ (vs:Array Value) (w:World),(callFunc f vs).run prog w = .ok (.enter f vs) w)
 (hf:prog.funcs[f]? = some fn) (t:Tr prog Tb) (h:OY TT fn args (.row nl T0 n sz el) t=t.ex λ_=>.a (Bx.le (.row nl T0 n sz el) (.row nl T0 n sz el)) .nil):wL f args nl T0 n sz el:=
 tW.PR Lt mixed Ql wX hf t h
def Zu(t:pX)(x:Nat):PS:=⟨46,true,[(28,.e (iP x)),(27,.e (iP t.gZ.length)),(26,.e (kU t.gZ)),(1,.box 1 0)],[(1,.cells 25 [iP t.im,kU t.gZ,kT t.iu])]⟩
def Zp(s:jc)(x:Nat):PS:=⟨85,true,[(31,.e (iP x)),(30,.e (iP s.tape.gZ.length)),(29,.e (kU s.tape.gZ)),(3,.box 3 0),(1,.box 1 0)],[(3,.cells 25 [iP s.tape.im,kU s.tape.gZ,kT s.tape.iu]),(1,.cells 28 [iP s.tape.im,kU s.tape.gZ,kT s.tape.iu,iP s.iy,ib s.params])]⟩
noncomputable def Zt(t:pX)(xs:List Iv)(p:Nat)(x:Nat):PS:=⟨75,true,[(26,.e (iP x)),(25,.e (iP t.gZ.length)),(24,.e (kU t.gZ)),(7,.own 22),(2,.e (iP p))],[(22,.row true 39 ((jM t.gZ xs p x).length) 7 (iK (jM t.gZ xs p x)))]⟩
def W4(k:Nat)(h1:3<=k)(h2:k<=6):gW 152 [iP k] (iP 2):=
 ak call152 func152 (ae [ai 5 ((k:Int)==1) (aU aC)]<|.w ((k:Int)=3)
  (λk1=>af [tB 7 (aV k1)])
  (λk1=>ae [tB 7 (aU k1)]<|.w ((k:Int)=4)
   (λk2=>af [tB 8 (aV k2)])
   (λk2=>ae [tB 8 (aU k2)]<|.w ((k:Int)=5)
    (λk3=>af [tB 9 (aV k3)])
    (λk3=>ae [tB 9 (aU k3)]<|.w ((k:Int)=6)
     (λk4=>af [tB 10 (aV k4)])
     (λk4=>.x aC))))) 
def OF(k:Nat)(h1:7<=k)(h2:k<=13):gW 152 [iP k] (iP 1):=
 ak call152 func152 (ae [ai 5 ((k:Int)==1) (aU aC),ai 7 ((k:Int)==3) (aU aC),ai 8 ((k:Int)==4) (aU aC),ai 9 ((k:Int)==5) (aU aC),ai 10 ((k:Int)==6) (aU aC)]<|.w ((k:Int)=7)
  (λk1=>af [tB 12 (aV k1)])
  (λk1=>ae [tB 12 (aU k1)]<|.w ((k:Int)=8)
   (λk2=>af [tB 13 (aV k2)])
   (λk2=>ae [tB 13 (aU k2)]<|.w ((k:Int)=9)
    (λk3=>af [tB 14 (aV k3)])
    (λk3=>ae [tB 14 (aU k3)]<|.w ((k:Int)=10)
     (λk4=>af [tB 15 (aV k4)])
     (λk4=>ae [tB 15 (aU k4)]<|.w ((k:Int)=11)
      (λk5=>af [tB 16 (aV k5)])
      (λk5=>ae [tB 16 (aU k5)]<|.w ((k:Int)=12)
       (λk6=>af [tB 17 (aV k6)])
       (λk6=>ae [tB 17 (aU k6)]<|.w ((k:Int)=13)
        (λk7=>af [tB 18 (aV k7)])
        (λk7=>.x aC)))))))) 
def W3(k:Nat)(h1:k=1):gW 152 [iP k] (iP 0):=
 ak call152 func152 (af [ah 5 ((k:Int)==1) (aV aC)]) 
def aiw{a b:Int}(h:nv a b=true):pB prog .eql 93 (.agg [iP a,iP b]) (.agg [iP 0,iP 0]) (.bool false):=by
 obtain⟨h1,h2,h3,h4⟩:=OT h;exact WZ aT aT (bc aC)
def nZ.BW{o:ng}{m:Nat}(h:nZ o m)(lP:o.kind≠1)(hk:o.kind<=6):3<=o.kind/\o.a<m/\o.b<m/\o.n=0/\o.cn=0/\o.cd=0:=by
 have h3:=h.k3.resolve_left lP;have ha:=h.a;have hb:=h.b;have hn:=h.n;have hc:=h.c;rw[aZ lP]at ha hc;rw[a6 ⟨h3,hk⟩]at hb;rw[aZ aC]at hn;exact⟨h3,ha,hb,hn,hc.1,hc.2⟩
def nZ.pow{o:ng}{m:Nat}(h:nZ o m)(hk:o.kind=8):o.a<m/\o.b=0/\o.n<=16/\o.cn=0/\o.cd=0:=by
 have ha:=h.a;have hb:=h.b;have hn:=h.n;have hc:=h.c;rw[aZ aC]at ha hb hc;rw[a6 hk]at hn;exact⟨ha,hb,hn,hc.1,hc.2⟩
def nZ.un{o:ng}{m:Nat}(h:nZ o m)(hk:¬o.kind<=6)(vV:o.kind≠8):o.kind<=13/\o.a<m/\o.b=0/\o.n=0/\o.cn=0/\o.cd=0:=by
 have ha:=h.a;have hb:=h.b;have hn:=h.n;have hc:=h.c;rw[aZ aC]at ha hb hc;rw[aZ vV]at hn;exact⟨h.xm,ha,hb,hn,hc.1,hc.2⟩
def nZ.num{o:ng}{m:Nat}(h:nZ o m)(hk:o.kind=1):o.a=0/\o.b=0/\o.n=0/\nv o.cn o.cd=true:=by
 have ha:=h.a;have hb:=h.b;have hn:=h.n;have hc:=h.c;rw[a6 hk]at ha hc;rw[aZ aC]at hb hn;exact⟨ha,hb,hn,hc⟩
def nZ.Dr{o:ng}{m:Nat}(h:nZ o m)(hk:o.kind≠1):o.a<m:=by
 have ha:=h.a;rwa[aZ hk]at ha
def ai0(o:ng)(m:Nat)(h:nZ o m)(hk:o.kind=1):gW 66 [wB o,iP m] (bP true):=by
 obtain⟨h2,h3,h4,sS⟩:=h.num hk;exact ak call66 func66 (af [.c (W3 o.kind aC),ai 14 (decide ((0:Int)<0)) aE,ah 17 ((0:Int)==0) aE,.c (Ks o.cn o.cd),ah 20 (nv o.cn o.cd) sS,ai 26 ((o.kind:Int)==8) (aU aC),ai 37 (decide ((0:Int)<0)) aE,ai 49 (decide ((1:Int)<0)) aE,.g (Ki ⟨aC,aC,aC,aC,aC,aC⟩:pB prog .eql 107 (.agg [iP 0,iP o.a,iP o.b,iP o.n,iP 0,iP 0]) (.agg [iP 0,iP 0,iP 0,iP 0,iP 0,iP 0]) (.bool true))]) 
def aiZ(o:ng)(m:Nat)(h:nZ o m)(lP:o.kind≠1)(hk:o.kind<=6):gW 66 [wB o,iP m] (bP true):=by
 obtain⟨h1,h2,h3,h4,h5,h6⟩:=h.BW lP hk;exact ak call66 func66 (af [.c (W4 o.kind aC aC),ai 14 (decide ((2:Int)<0)) aE,ai 17 ((2:Int)==0) aE,ai 26 ((o.kind:Int)==8) (aU aC),ah 37 (decide ((0:Int)<2)) aE,tF 40 ((o.a:Int)<0) aC,tF 45 ((m:Int)<=o.a) aC,ah 49 (decide ((1:Int)<2)) aE,tF 52 ((o.b:Int)<0) aC,tF 57 ((m:Int)<=o.b) aC,.g (Ki ⟨aC,aC,aC,aC,aC,aC⟩:pB prog .eql 107 (.agg [iP 0,iP 0,iP 0,iP o.n,iP o.cn,iP o.cd]) (.agg [iP 0,iP 0,iP 0,iP 0,iP 0,iP 0]) (.bool true))]) 
def ai2(o:ng)(m:Nat)(h:nZ o m)(hk:o.kind=8):gW 66 [wB o,iP m] (bP true):=by
 obtain⟨h2,h3,h4,h5,h6⟩:=h.pow hk;exact ak call66 func66 (af [.c (OF o.kind aC aC),ai 14 (decide ((1:Int)<0)) aE,ai 17 ((1:Int)==0) aE,ah 26 ((o.kind:Int)==8) (aV aC),tF 29 ((o.n:Int)<0) aC,tF 33 (16<(o.n:Int)) aC,ah 37 (decide ((0:Int)<1)) aE,tF 40 ((o.a:Int)<0) aC,tF 45 ((m:Int)<=o.a) aC,ai 49 (decide ((1:Int)<1)) aE,.g (Ki ⟨aC,aC,aC,aC,aC,aC⟩:pB prog .eql 107 (.agg [iP 0,iP 0,iP o.b,iP 0,iP o.cn,iP o.cd]) (.agg [iP 0,iP 0,iP 0,iP 0,iP 0,iP 0]) (.bool true))]) 
def ai3(o:ng)(m:Nat)(h:nZ o m)(hk:¬o.kind<=6)(vV:o.kind≠8):gW 66 [wB o,iP m] (bP true):=by
 obtain⟨h1,h2,h3,h4,h5,h6⟩:=h.un hk vV;exact ak call66 func66 (af [.c (OF o.kind aC aC),ai 14 (decide ((1:Int)<0)) aE,ai 17 ((1:Int)==0) aE,ai 26 ((o.kind:Int)==8) (aU aC),ah 37 (decide ((0:Int)<1)) aE,tF 40 ((o.a:Int)<0) aC,tF 45 ((m:Int)<=o.a) aC,ai 49 (decide ((1:Int)<1)) aE,.g (Ki ⟨aC,aC,aC,aC,aC,aC⟩:pB prog .eql 107 (.agg [iP 0,iP 0,iP o.b,iP o.n,iP o.cn,iP o.cd]) (.agg [iP 0,iP 0,iP 0,iP 0,iP 0,iP 0]) (.bool true))]) 
def amk(o:ng)(m:Nat)(h:nZ o m)(hk:o.kind=1):gW 178 [wB o,iP m] (bP true):=by
 obtain⟨h2,h3,h4,sS⟩:=h.num hk;exact ak call178 func178 (af [tF 8 ((o.a:Int)<0) aC,tF 12 ((o.b:Int)<0) aC,.g (aiw sS:pB prog .eql 93 (.agg [iP o.cn,iP o.cd]) (.agg [iP 0,iP 0]) (.bool false)),ah 21 ((o.kind:Int)==1) (aV aC),.c (Ks o.cn o.cd),ah 24 (nv o.cn o.cd) sS,ah 28 ((o.a:Int)==0) (aV aC),ah 33 ((o.b:Int)==0) (aV aC),ah 38 ((o.n:Int)==0) (aV aC)]) 
def amj(o:ng)(m:Nat)(h:nZ o m)(lP:o.kind≠1)(hk:o.kind<=6):gW 178 [wB o,iP m] (bP true):=by
 obtain⟨h1,h2,h3,h4,h5,h6⟩:=h.BW lP hk;exact ak call178 func178 (ae [tF 8 ((o.a:Int)<0) aC,tF 12 ((o.b:Int)<0) aC,.g (OB ⟨aC,aC⟩:pB prog .eql 93 (.agg [iP o.cn,iP o.cd]) (.agg [iP 0,iP 0]) (.bool true)),ai 21 ((o.kind:Int)==1) (aU aC)]<|.w ((o.kind:Int)=3)
  (λk1=>af [tB 41 (aV k1),tT 50 ((o.a:Int)<m) aC,tT 56 ((o.b:Int)<m) aC,ah 61 ((o.n:Int)==0) (aV aC)])
  (λk1=>ae [tB 41 (aU k1)]<|.w ((o.kind:Int)=4)
   (λk2=>af [tB 42 (aV k2),tT 50 ((o.a:Int)<m) aC,tT 56 ((o.b:Int)<m) aC,ah 61 ((o.n:Int)==0) (aV aC)])
   (λk2=>ae [tB 42 (aU k2)]<|.w ((o.kind:Int)=5)
    (λk3=>af [tB 43 (aV k3),tT 50 ((o.a:Int)<m) aC,tT 56 ((o.b:Int)<m) aC,ah 61 ((o.n:Int)==0) (aV aC)])
    (λk3=>ae [tB 43 (aU k3)]<|.w ((o.kind:Int)=6)
     (λk4=>af [tB 44 (aV k4),tT 50 ((o.a:Int)<m) aC,tT 56 ((o.b:Int)<m) aC,ah 61 ((o.n:Int)==0) (aV aC)])
     (λk4=>.x aC))))) 
def amm(o:ng)(m:Nat)(h:nZ o m)(hk:o.kind=8):gW 178 [wB o,iP m] (bP true):=by
 obtain⟨h2,h3,h4,h5,h6⟩:=h.pow hk;exact ak call178 func178 (af [tF 8 ((o.a:Int)<0) aC,tF 12 ((o.b:Int)<0) aC,.g (OB ⟨aC,aC⟩:pB prog .eql 93 (.agg [iP o.cn,iP o.cd]) (.agg [iP 0,iP 0]) (.bool true)),ai 21 ((o.kind:Int)==1) (aU aC),ai 41 ((o.kind:Int)==3) (aU aC),ai 42 ((o.kind:Int)==4) (aU aC),ai 43 ((o.kind:Int)==5) (aU aC),ai 44 ((o.kind:Int)==6) (aU aC),ah 64 ((o.kind:Int)==8) (aV aC),tT 70 ((o.a:Int)<m) aC,ah 75 ((o.b:Int)==0) (aV aC),tT 80 (0<=(o.n:Int)) aC,tT 85 ((o.n:Int)<=16) aC]) 
def amn(o:ng)(m:Nat)(h:nZ o m)(hk:¬o.kind<=6)(vV:o.kind≠8):gW 178 [wB o,iP m] (bP true):=by
 obtain⟨h1,h2,h3,h4,h5,h6⟩:=h.un hk vV;exact ak call178 func178 (ae [tF 8 ((o.a:Int)<0) aC,tF 12 ((o.b:Int)<0) aC,.g (OB ⟨aC,aC⟩:pB prog .eql 93 (.agg [iP o.cn,iP o.cd]) (.agg [iP 0,iP 0]) (.bool true)),ai 21 ((o.kind:Int)==1) (aU aC),ai 41 ((o.kind:Int)==3) (aU aC),ai 42 ((o.kind:Int)==4) (aU aC),ai 43 ((o.kind:Int)==5) (aU aC),ai 44 ((o.kind:Int)==6) (aU aC),ai 64 ((o.kind:Int)==8) (aU aC)]<|.w ((o.kind:Int)=7)
  (λk1=>af [tB 88 (aV k1),tT 99 ((o.a:Int)<m) aC,ah 104 ((o.b:Int)==0) (aV aC),ah 109 ((o.n:Int)==0) (aV aC)])
  (λk1=>ae [tB 88 (aU k1)]<|.w ((o.kind:Int)=9)
   (λk2=>af [tB 89 (aV k2),tT 99 ((o.a:Int)<m) aC,ah 104 ((o.b:Int)==0) (aV aC),ah 109 ((o.n:Int)==0) (aV aC)])
   (λk2=>ae [tB 89 (aU k2)]<|.w ((o.kind:Int)=10)
    (λk3=>af [tB 90 (aV k3),tT 99 ((o.a:Int)<m) aC,ah 104 ((o.b:Int)==0) (aV aC),ah 109 ((o.n:Int)==0) (aV aC)])
    (λk3=>ae [tB 90 (aU k3)]<|.w ((o.kind:Int)=11)
     (λk4=>af [tB 91 (aV k4),tT 99 ((o.a:Int)<m) aC,ah 104 ((o.b:Int)==0) (aV aC),ah 109 ((o.n:Int)==0) (aV aC)])
     (λk4=>ae [tB 91 (aU k4)]<|.w ((o.kind:Int)=12)
      (λk5=>af [tB 92 (aV k5),tT 99 ((o.a:Int)<m) aC,ah 104 ((o.b:Int)==0) (aV aC),ah 109 ((o.n:Int)==0) (aV aC)])
      (λk5=>ae [tB 92 (aU k5)]<|.w ((o.kind:Int)=13)
       (λk6=>af [tB 93 (aV k6),tT 99 ((o.a:Int)<m) aC,ah 104 ((o.b:Int)==0) (aV aC),ah 109 ((o.n:Int)==0) (aV aC)])
       (λk6=>.x aC))))))) 
def ai1(o:ng)(m:Nat)(h:nZ o m):gW 66 [wB o,iP (m:Int)] (bP true):=by
 by_cases lP:o.kind=1
 .exact ai0 o m h lP
 by_cases hk:o.kind<=6
 .exact aiZ o m h lP hk
 .by_cases vV:o.kind=8
  .exact ai2 o m h vV
  .exact ai3 o m h hk vV
def aml(o:ng)(m:Nat)(h:nZ o m):gW 178 [wB o,iP (m:Int)] (bP true):=by
 by_cases lP:o.kind=1
 .exact amk o m h lP
 by_cases hk:o.kind<=6
 .exact amj o m h lP hk
 .by_cases vV:o.kind=8
  .exact amm o m h vV
  .exact amn o m h hk vV
def amG(t:pX)(k:Nat)(hk:k<t.im+t.gZ.length)(h8:t.im<=8)(afz:t.gZ.length<=200):gW 68 [iP k,(.iQ 3 λj_=>[iP t.im,kU t.gZ,kT t.iu].getD j_ .any)] (bP false):=
 ak call68 func68 (af [tF 5 ((k:Int)<0) aC,iz ((t.im:Int)+t.gZ.length) aC,tF 14 (((t.im+t.gZ.length:Nat):Int)<=k) aC]) 
def Zv(t:pX)(h:yM t):gW 12 [Hp t] (bP true):=by
 have h8:=h.im;have Ec:=h.gZ;have qA:=h.iu;exact ak call12 func12 (af [tF 7 ((t.im:Int)<0) aC,tF 11 (8<(t.im:Int)) aC,tF 17 (200<(t.gZ.length:Int)) aC,tF 23 (200<(t.iu.length:Int)) aC,.s (Sp.jC (Zu t) 0 t.gZ.length aC (λx hx k0=>by
    have iA:=h.op x aC;exact iF (af [tT 29 ((x:Int)<t.gZ.length) aC,iX (x:Int) (t.gZ.length) aC,iz ((t.im:Int)+x) aC,ag [wB (t.gZ.getD x iE),iP ((t.im+x:Nat):Int)] (ai1 _ _ iA),iz ((x:Int)+1) aC]) aF)
  (λhx=>by
    exact iF (af [tF 29 ((t.gZ.length:Int)<t.gZ.length) aC]) aF) aI:jA 4 Tryz.f12 (Zu t 0) (.exit 0) ⟨46,true,[(1,.box 1 0)],[(1,.cells 25 [iP t.im,kU t.gZ,kT t.iu])]⟩) .nil,.c (NK true _ _ 68 [(.iQ 3 λj_=>[iP t.im,kU t.gZ,kT t.iu].getD j_ .any)] (λ_=>false) (λi hi=>amG t _ (h.out i hi) h8 Ec) aC (λ_ _=>rfl):gW 67 [kT t.iu,.fn 68 [(.iQ 3 λj_=>[iP t.im,kU t.gZ,kT t.iu].getD j_ .any)]] _)]) 
def amp(t:pX)(k:Nat)(hk:k<t.im+t.gZ.length)(h8:t.im<=8)(afz:t.gZ.length<=200):gW 179 [iP k,(.iQ 3 λj_=>[iP t.im,kU t.gZ,kT t.iu].getD j_ .any)] (bP false):=
 ak call179 func179 (af [tF 5 ((k:Int)<0) aC,iz ((t.im:Int)+t.gZ.length) aC,tF 14 (((t.im+t.gZ.length:Nat):Int)<=k) aC]) 
def amr(x:Iv)(hx:x.ij)(xa:x.all=false):gW 180 [ik x] (bP false):=by
 obtain⟨w1,w2,w3⟩:=uh hx xa;exact ak call180 func180 (af [ai 4 x.all xa,ag [ie x.lo] (oq _ aD),ag [ie x.hi] (oq _ aD),ag [ie x.lo,ie x.hi] (nF _ _ aD aD),tF 23 (0<(jj x.lo x.hi)) aC]) 
def EX(s:jc)(h:kz s):gW 105 [iV s] (bP true):=by
 have h8:=h.tape.im;have Ec:=h.tape.gZ;have qA:=h.tape.iu;have s1:=h.s1;have s4:=h.s4;have ho:=h.iu;have hi:=h.im;have p4:=h.p4;exact ak call105 func105 (af [tF 10 ((s.tape.im:Int)<0) aC,tF 14 (8<(s.tape.im:Int)) aC,tF 20 (200<(s.tape.gZ.length:Int)) aC,tF 26 (200<(s.tape.iu.length:Int)) aC,.s (Sp.jC (Zp s) 0 s.tape.gZ.length aC (λx hx k0=>by
    have iA:=h.tape.op x aC;exact iF (af [tT 32 ((x:Int)<s.tape.gZ.length) aC,iX (x:Int) (s.tape.gZ.length) aC,iz ((s.tape.im:Int)+x) aC,ag [wB (s.tape.gZ.getD x iE),iP ((s.tape.im+x:Nat):Int)] (aml _ _ iA),iz ((x:Int)+1) aC]) aF)
  (λhx=>by
    exact iF (af [tF 32 ((s.tape.gZ.length:Int)<s.tape.gZ.length) aC]) aF) aI:jA 5 f105 (Zp s 0) (.exit 0) ⟨85,true,[(3,.box 3 0),(1,.box 1 0)],[(3,.cells 25 [iP s.tape.im,kU s.tape.gZ,kT s.tape.iu]),(1,.cells 28 [iP s.tape.im,kU s.tape.gZ,kT s.tape.iu,iP s.iy,ib s.params])]⟩) .nil,.c (NK true _ _ 179 [(.iQ 3 λj_=>[iP s.tape.im,kU s.tape.gZ,kT s.tape.iu].getD j_ .any)] (λ_=>false) (λi hi=>amp s.tape _ (h.tape.out i hi) h8 Ec) aC (λ_ _=>rfl):gW 67 [kT s.tape.iu,.fn 179 [(.iQ 3 λj_=>[iP s.tape.im,kU s.tape.gZ,kT s.tape.iu].getD j_ .any)]] _),tF 50 ((s.iy:Int)<1) aC,tF 54 (4<(s.iy:Int)) aC,ai 62 ((s.tape.iu.length:Int) != (s.iy:Int)) (zY aC),
  iz ((s.iy:Int)+s.params.length) aC,ai 73 ((s.tape.im:Int) != ((s.iy+s.params.length:Nat):Int)) (zY aC),tF 79 (4<(s.params.length:Int)) aC,.c (CL true _ _ 180 [] (λ_=>false) (λi hi=>amr _ (h.params i hi).1 (h.params i hi).2) aC (λ_ _=>rfl):gW 53 [ib s.params,.fn 180 []] _)]) 
def Qz(o:ng)(x y:Iv)(p:Nat)(hx:x.ij)(hy:y.ij)(r1:3<=o.kind)(r2:o.kind<=13)(r3:o.n<=16)(il:8<=p)(ig:p<=512)(hF:o.kind<=8\/uD):gW 280 [iP o.kind,iP o.n,ik x,ik y,iP p] (ik (mY o x y p)):=
 ak call280 func280 (.w ((o.kind:Int)=3)
  (λk1=>ae [tB 13 (aV k1),.c (wh x y p aD aD aC aC)]<|rQ (ik (jf x y p)) (ik (mY o x y p)) (by unfold mY;simp[(aC:o.kind=3)]))
  (λk1=>ae [tB 13 (aU k1)]<|.w ((o.kind:Int)=4)
   (λk2=>ae [tB 19 (aV k2),.c (JY x y p aD aD aC aC)]<|rQ (ik (rP x y p)) (ik (mY o x y p)) (by unfold mY;simp[(aC:¬o.kind=3),(aC:o.kind=4)]))
   (λk2=>ae [tB 19 (aU k2)]<|.w ((o.kind:Int)=5)
    (λk3=>ae [tB 25 (aV k3),.c (sC x y p aD aD aC aC)]<|rQ (ik (iD x y p)) (ik (mY o x y p)) (by unfold mY;simp[(aC:¬o.kind=3),(aC:¬o.kind=4),(aC:o.kind=5)]))
    (λk3=>ae [tB 25 (aU k3)]<|.w ((o.kind:Int)=6)
     (λk4=>ae [tB 31 (aV k4),.c (zL x y p aD aD aC aC)]<|rQ (ik (jv x y p)) (ik (mY o x y p)) (by unfold mY;simp[(aC:¬o.kind=3),(aC:¬o.kind=4),(aC:¬o.kind=5),(aC:o.kind=6)]))
     (λk4=>ae [tB 31 (aU k4)]<|.w ((o.kind:Int)=7)
      (λk5=>ae [tB 37 (aV k5),.c (JW x aD)]<|rQ (ik (qe x)) (ik (mY o x y p)) (by unfold mY;simp[(aC:¬o.kind=3),(aC:¬o.kind=4),(aC:¬o.kind=5),(aC:¬o.kind=6),(aC:o.kind=7)]))
      (λk5=>ae [tB 37 (aU k5)]<|.w ((o.kind:Int)=8)
       (λk6=>ae [tB 41 (aV k6),ag [ik x,iP o.n,iP p] (Fk _ _ _ aD aC aC aC)]<|rQ (ik (kZ x o.n p)) (ik (mY o x y p)) (by unfold mY;simp[(aC:¬o.kind=3),(aC:¬o.kind=4),(aC:¬o.kind=5),(aC:¬o.kind=6),(aC:¬o.kind=7),(aC:o.kind=8)]))
       (λk6=>ae [tB 41 (aU k6)]<|.w ((o.kind:Int)=9)
        (λk7=>ae [tB 47 (aV k7),ag [ik x,iP p] (SW _ aD _ aC aC (hF.resolve_left aC))]<|rQ (ik (uN x p)) (ik (mY o x y p)) (by unfold mY;simp[(aC:¬o.kind=3),(aC:¬o.kind=4),(aC:¬o.kind=5),(aC:¬o.kind=6),(aC:¬o.kind=7),(aC:¬o.kind=8),(aC:o.kind=9)]))
        (λk7=>ae [tB 47 (aU k7)]<|.w ((o.kind:Int)=10)
         (λk8=>ae [tB 52 (aV k8),ag [ik x,iP p] (SX _ aD _ aC aC (hF.resolve_left aC))]<|rQ (ik (uO x p)) (ik (mY o x y p)) (by unfold mY;simp[(aC:¬o.kind=3),(aC:¬o.kind=4),(aC:¬o.kind=5),(aC:¬o.kind=6),(aC:¬o.kind=7),(aC:¬o.kind=8),(aC:¬o.kind=9),(aC:o.kind=10)]))
         (λk8=>ae [tB 52 (aU k8)]<|.w ((o.kind:Int)=11)
          (λk9=>ae [tB 57 (aV k9),ag [ik x,iP p] (SY _ aD _ aC aC (hF.resolve_left aC))]<|rQ (ik (uP x p)) (ik (mY o x y p)) (by unfold mY;simp[(aC:¬o.kind=3),(aC:¬o.kind=4),(aC:¬o.kind=5),(aC:¬o.kind=6),(aC:¬o.kind=7),(aC:¬o.kind=8),(aC:¬o.kind=9),(aC:¬o.kind=10),(aC:o.kind=11)]))
          (λk9=>ae [tB 57 (aU k9)]<|.w ((o.kind:Int)=12)
           (λk10=>ae [tB 62 (aV k10),ag [ik x,iP p] (SU _ aD _ aC aC (hF.resolve_left aC))]<|rQ (ik (uM x p)) (ik (mY o x y p)) (by unfold mY;simp[(aC:¬o.kind=3),(aC:¬o.kind=4),(aC:¬o.kind=5),(aC:¬o.kind=6),(aC:¬o.kind=7),(aC:¬o.kind=8),(aC:¬o.kind=9),(aC:¬o.kind=10),(aC:¬o.kind=11),(aC:o.kind=12)]))
           (λk10=>ae [tB 62 (aU k10)]<|.w ((o.kind:Int)=13)
            (λk11=>ae [tB 67 (aV k11),ag [ik x,iP p] (S1 _ aD _ aC aC (hF.resolve_left aC))]<|rQ (ik (pL x p)) (ik (mY o x y p)) (by unfold mY;simp[(aC:¬o.kind=3),(aC:¬o.kind=4),(aC:¬o.kind=5),(aC:¬o.kind=6),(aC:¬o.kind=7),(aC:¬o.kind=8),(aC:¬o.kind=9),(aC:¬o.kind=10),(aC:¬o.kind=11),(aC:¬o.kind=12),(aC:o.kind=13)]))
            (λk11=>.x aC)))))))))))) 
def abN{nl:Bool}{T n n' sz:Nat}{f g h:Nat->Nat->E}(hn:n=n')(hh:∀ i j,i<n->j<sz->g i j=h i j/\(h i j).nr 2=true):Bx.le (.row nl T (0+n) sz λi j=>if i<0 then f i j else g (i-0) j) (.row nl T n' sz h):=
 .row aC λi j hi hj=>by
  have mC:i<n:= aC ;simp only[bj,bn,dx];exact⟨.iT (hh i j mC hj).1,(hh i j mC hj).2⟩
def Fh(r:List Iv)(h0:0<r.length)(hl:r.length<=1000):wL 63 [ib r] true 39 r.length 7 (iK r):=
 ZH call63 func63 (ae [.a (aC:0<r.length),.bo,.a (aC:(0+r.length)*88<=140737488355328)]<|.rb (abN rfl λi j hi hj=>⟨rfl,tI _ _ hj⟩:Bx.le (.row true 39 (0+r.length) 7 (λi_ j_=>if i_<0 then(λi_ j_=>([]:List E).getD (i_*7+j_) (.v (.bool false))) i_ j_ else(E.kG (ib r)) (i_-0) j_)) (.row true 39 r.length 7 (iK r)))) aF 
def P3{T n n' x:Nat}{t:pX}{xs:List Iv}{p:Nat}{y:Iv}(hn:n=(jM t.gZ xs p x).length)(uW:n'=(jM t.gZ xs p (x+1)).length)(hy:xF (t.gZ.getD x iE) (jM t.gZ xs p x) p=y):
 Bx.le (.row true T (n+[y].length) 7 λi j=>if i<n then iK (jM t.gZ xs p x) i j else(E.kG (ib [y])) (i-n) j) (.row true T n' 7 (iK (jM t.gZ xs p (x+1)))):=by
 subst uW hy;exact J0 hn
def EC{o:ng}{m:Nat}(h:nZ o m):o.n<=16:=by
 have:=h.n;split at this<;>omega
def amE(t:pX)(xs:List Iv)(p:Nat)(h:yM t)(h1:1<=xs.length)(hx:xs.length=t.im)(hv:mu xs)(il:8<=p)(ig:p<=512):gW 246 [Hp t,ib xs,iP p] (ib (jM t.gZ xs p t.gZ.length)):=by
 have h8:=h.im;have Ec:=h.gZ;exact ak call246 func246 (af [.c (Zv t aD),ai 19 ((xs.length:Int) != (t.im:Int)) (zY hx),.cn (Fh _ aC aC:wL 63 [ib xs] true 39 xs.length 7 (iK xs)),.s (Sp.jC (Zt t xs p) 0 t.gZ.length aC (λx hx k0=>by
    have iA:=h.op x aC;have xX:=K8 t.gZ hv (aC:1<=p) (aC:p<=4096) x;have JA:=P0 t.gZ xs p x;have w1:=xX (t.gZ.getD x iE).a;by_cases lP:((t.gZ.getD x iE)).kind=1
    .have og:((t.gZ.getD x iE)).kind=1:=lP;obtain⟨o1,o2,o3,sS⟩:=iA.num og;have lf:xF (t.gZ.getD x iE) (jM t.gZ xs p x) p=(rp (t.gZ.getD x iE).cn (t.gZ.getD x iE).cd p):=by unfold xF;rw[a6 og]
     have qy:=oP (rp (t.gZ.getD x iE).cn (t.gZ.getD x iE).cd p);exact iF (ae [tT 27 ((x:Int)<t.gZ.length) aC,iX (x:Int) (t.gZ.length) aC,.c (W3 ((t.gZ.getD x iE).kind:Nat) aC),ah 50 ((0:Int)==0) aE,.c (Xn ((t.gZ.getD x iE).cn) ((t.gZ.getD x iE).cd) p aD aC aC),.o 71 (.e (lh _):aj (.sl true 1 7 λi_ j_=>(iJ (rp ((t.gZ.getD x iE).cn) ((t.gZ.getD x iE).cd) p)).getD (i_*7+j_) (.v (.bool false))) (ib [rp ((t.gZ.getD x iE).cn) ((t.gZ.getD x iE).cd) p])),.a (aC:((jM t.gZ xs p x).length+[rp ((t.gZ.getD x iE).cn) ((t.gZ.getD x iE).cd) p].length)*88<=140737488355328),iz ((x:Int)+1) aC]<|.e (af [.b 22 (P3 rfl rfl lf:Bx.le (.row true 39 ((jM t.gZ xs p x).length+[rp ((t.gZ.getD x iE).cn) ((t.gZ.getD x iE).cd) p].length) 7 (λi_ j_=>if i_<(jM t.gZ xs p x).length then(iK (jM t.gZ xs p x)) i_ j_ else(E.kG (ib [rp ((t.gZ.getD x iE).cn) ((t.gZ.getD x iE).cd) p])) (i_-(jM t.gZ xs p x).length) j_)) (.row true 39 ((jM t.gZ xs p (x+1)).length) 7 (iK (jM t.gZ xs p (x+1)))))])) aF 
    .by_cases hk:((t.gZ.getD x iE)).kind<=6
     .have pe:((t.gZ.getD x iE)).kind≠1:=lP;have og:((t.gZ.getD x iE)).kind<=6:=hk;have lf:xF (t.gZ.getD x iE) (jM t.gZ xs p x) p=(mY (t.gZ.getD x iE) ((jM t.gZ xs p x).getD ((t.gZ.getD x iE).a) ia) ((jM t.gZ xs p x).getD ((t.gZ.getD x iE).b) ia) p):=by unfold xF xG;rw[aZ pe,a7 og];rfl
      obtain⟨o1,o2,o3,o4,o5,o6⟩:=iA.BW pe og;have w2:=xX (t.gZ.getD x iE).b;have o7:=iA.xm;have qy:=oP (mY (t.gZ.getD x iE) ((jM t.gZ xs p x).getD ((t.gZ.getD x iE).a) ia) ((jM t.gZ xs p x).getD ((t.gZ.getD x iE).b) ia) p);exact iF (ae [tT 27 ((x:Int)<t.gZ.length) aC,iX (x:Int) (t.gZ.length) aC,.c (W4 ((t.gZ.getD x iE).kind:Nat) aC aC),ai 50 ((2:Int)==0) aE,ai 56 ((2:Int)==1) aE,iX ((t.gZ.getD x iE).a:Int) ((jM t.gZ xs p x).length) aC,.a (aC:(t.gZ.getD x iE).a<(jM t.gZ xs p x).length),
       iX ((t.gZ.getD x iE).b:Int) ((jM t.gZ xs p x).length) aC,.a (aC:(t.gZ.getD x iE).b<(jM t.gZ xs p x).length),ag [iP ((t.gZ.getD x iE).kind:Int),iP ((t.gZ.getD x iE).n:Int),ik ((jM t.gZ xs p x).getD (t.gZ.getD x iE).a ia),ik ((jM t.gZ xs p x).getD (t.gZ.getD x iE).b ia),iP p] (Qz (t.gZ.getD x iE) _ _ _ aD aD aC aC aC aC aC iA.f),.o 71 (.e (lh _):aj (.sl true 1 7 λi_ j_=>(iJ (mY (t.gZ.getD x iE) ((jM t.gZ xs p x).getD (t.gZ.getD x iE).a ia) ((jM t.gZ xs p x).getD (t.gZ.getD x iE).b ia) p)).getD (i_*7+j_) (.v (.bool false))) (ib [mY (t.gZ.getD x iE) ((jM t.gZ xs p x).getD (t.gZ.getD x iE).a ia) ((jM t.gZ xs p x).getD (t.gZ.getD x iE).b ia) p])),.a (aC:((jM t.gZ xs p x).length+[mY (t.gZ.getD x iE) ((jM t.gZ xs p x).getD (t.gZ.getD x iE).a ia) ((jM t.gZ xs p x).getD (t.gZ.getD x iE).b ia) p].length)*88<=140737488355328),
       iz ((x:Int)+1) aC]<|.e (af [.b 22 (P3 rfl rfl lf:Bx.le (.row true 39 ((jM t.gZ xs p x).length+[mY (t.gZ.getD x iE) ((jM t.gZ xs p x).getD (t.gZ.getD x iE).a ia) ((jM t.gZ xs p x).getD (t.gZ.getD x iE).b ia) p].length) 7 (λi_ j_=>if i_<(jM t.gZ xs p x).length then(iK (jM t.gZ xs p x)) i_ j_ else(E.kG (ib [mY (t.gZ.getD x iE) ((jM t.gZ xs p x).getD (t.gZ.getD x iE).a ia) ((jM t.gZ xs p x).getD (t.gZ.getD x iE).b ia) p])) (i_-(jM t.gZ xs p x).length) j_)) (.row true 39 ((jM t.gZ xs p (x+1)).length) 7 (iK (jM t.gZ xs p (x+1)))))])) aF 
     .have pe:((t.gZ.getD x iE)).kind≠1:=lP;have og:¬((t.gZ.getD x iE)).kind<=6:=hk;have lf:xF (t.gZ.getD x iE) (jM t.gZ xs p x) p=(mY (t.gZ.getD x iE) ((jM t.gZ xs p x).getD ((t.gZ.getD x iE).a) ia) ia p):=by unfold xF xG;rw[aZ pe,bc og];rfl
      have w2:=mi;have o2:=iA.Dr pe;have o7:=iA.xm;have o8:=EC iA;have qy:=oP (mY (t.gZ.getD x iE) ((jM t.gZ xs p x).getD ((t.gZ.getD x iE).a) ia) ia p);exact iF (ae [tT 27 ((x:Int)<t.gZ.length) aC,iX (x:Int) (t.gZ.length) aC,.c (OF ((t.gZ.getD x iE).kind:Nat) aC aC),ai 50 ((1:Int)==0) aE,ah 56 ((1:Int)==1) aE,iX ((t.gZ.getD x iE).a:Int) ((jM t.gZ xs p x).length) aC,.a (aC:(t.gZ.getD x iE).a<(jM t.gZ xs p x).length),.o 66 (.e Lb:aj (.agg [bP false,.v (.slice none 0 0),iP 0,bP false,.v (.slice none 0 0),iP 0,bP true]) (ik ia)),ag [iP ((t.gZ.getD x iE).kind:Int),iP ((t.gZ.getD x iE).n:Int),ik ((jM t.gZ xs p x).getD (t.gZ.getD x iE).a ia),ik ia,iP p] (Qz (t.gZ.getD x iE) _ _ _ aD aD aC aC aC aC aC iA.f),.o 71 (.e (lh _):aj (.sl true 1 7 λi_ j_=>(iJ (mY (t.gZ.getD x iE) ((jM t.gZ xs p x).getD (t.gZ.getD x iE).a ia) ia p)).getD (i_*7+j_) (.v (.bool false))) (ib [mY (t.gZ.getD x iE) ((jM t.gZ xs p x).getD (t.gZ.getD x iE).a ia) ia p])),.a (aC:((jM t.gZ xs p x).length+[mY (t.gZ.getD x iE) ((jM t.gZ xs p x).getD (t.gZ.getD x iE).a ia) ia p].length)*88<=140737488355328),iz ((x:Int)+1) aC]<|.e (af [.b 22 (P3 rfl rfl lf:Bx.le (.row true 39 ((jM t.gZ xs p x).length+[mY (t.gZ.getD x iE) ((jM t.gZ xs p x).getD (t.gZ.getD x iE).a ia) ia p].length) 7 (λi_ j_=>if i_<(jM t.gZ xs p x).length then(iK (jM t.gZ xs p x)) i_ j_ else(E.kG (ib [mY (t.gZ.getD x iE) ((jM t.gZ xs p x).getD (t.gZ.getD x iE).a ia) ia p])) (i_-(jM t.gZ xs p x).length) j_)) (.row true 39 ((jM t.gZ xs p (x+1)).length) 7 (iK (jM t.gZ xs p (x+1)))))])) aF)
  (λhx=>by
    exact iF (ae [tF 27 ((t.gZ.length:Int)<t.gZ.length) aC,.z 22]<|.e (af [.o 7 (.e (xZ aH):aj (.sl true ((jM t.gZ xs p t.gZ.length).length) 7 (iK (jM t.gZ xs p t.gZ.length))) (ib (jM t.gZ xs p t.gZ.length)))])) aF) aI:jA 5 f246 (Zt t xs p 0) (.exit 0) ⟨75,true,[(7,.e (ib (jM t.gZ xs p t.gZ.length)))],[]⟩) (af [.b 22 (.iT rfl:Bx.le (.row true 39 xs.length 7 (iK xs)) (.row true 39 ((jM t.gZ xs p 0).length) 7 (iK (jM t.gZ xs p 0))))])]) 
def oC(m:List (List Iv)):Nat->List Iv
 | 0=>[]
 |k+1=>oC m k++m.getD k []
def LO(m:List (List Iv))(k:Nat):(oC m (k+1)).length=(oC m k).length+(m.getD k []).length:=by simp[oC]
def agZ{T n n':Nat}{xs r:List Iv}(hn:n=xs.length)(uW:n'=(xs++r).length):Bx.le (.row true T (n+r.length) 7 λi j=>if i<n then iK xs i j else(E.kG (ib r)) (i-n) j) (.row true T n' 7 (iK (xs++r))):=by
 subst hn uW;refine .row aH λi j hi hj=>⟨.iT ?_,tI _ _ hj⟩
 by_cases h:i<xs.length
 .rw [a6 h];show(iJ (xs.getD i ia)).getD j .any=(iJ ((xs++r).getD i ia)).getD j .any;congr 2;simp[bh,dN h]
 .rw [aZ h];show(iJ (r.getD (i-xs.length) ia)).getD j .any=(iJ ((xs++r).getD i ia)).getD j .any;congr 2;simp[bh,fW (aC:xs.length<=i)]
def Bm(a b:List Iv):E.le (.sl true 2 1 λi j=>[ib a,ib b].getD (i*1+j) (.v (.bool false))) (kN [a,b]):=.sl λi j hi hj=>by
 obtain rfl:j=0:= aC ;obtain rfl|rfl:i=0\/i=1:= aC 
 all_goals exact⟨.refl _,rfl⟩
def aky{n:Nat}:E.le (.sl true n 1 λk _=>.sl true ((λ_=>0) k) 7 ((λ_ _ _=>.any) k)) (kN (List.replicate n [])):=by
 have h:kN (List.replicate n []) = .sl true n 1 λi _=>ib ((List.replicate n []).getD i []):=by unfold kN;rw[List.length_replicate]
 rw[h];refine .sl λi j hi hj=>⟨?_,rfl⟩
 have e:(List.replicate n ([]:List Iv)).getD i []=[]:=by simp[bh,hi]
 rw[e];exact .sl λq _ hq _=>absurd hq (bj _)
def RF(m:List (List Iv))(x:Nat):PS:=⟨36,true,[(11,.e (iP x)),(10,.e (iP m.length)),(9,.e (kN m)),(3,.e (iP ((oC m x).length:Int))),(0,.e (kN m))],[]⟩
def RG(m:List (List Iv))(x:Nat):PS:=⟨36,true,[(27,.e (iP x)),(26,.e (iP m.length)),(25,.e (kN m)),(6,.own 24)],[(24,.row true 39 ((oC m x).length) 7 (iK (oC m x)))]⟩
noncomputable def Tl(t:pX)(xs:List Iv)(p:Nat)(x:Nat):PS:=⟨91,true,[(43,.e (iP x)),(42,.e (iP 0)),(11,.own 41),(10,.e (ib (jM t.gZ xs p t.gZ.length))),(4,.box 4 0),(3,.e (iP p))],[(41,.jH true 26 39 t.iu.length 7 (λ_=>0) (λ_ _ _=>.any) .none),(4,.cells 25 [iP t.im,kU t.gZ,kT t.iu])]⟩
noncomputable def Tk(t:pX)(xs:List Iv)(p:Nat)(x:Nat):PS:=⟨91,true,[(16,.own 16),(77,.e (iP x)),(76,.e (iP t.iu.length)),(75,.e (kT t.iu)),(11,.own 41),(10,.e (ib (jM t.gZ xs p t.gZ.length)))],[(16,.row true 39 x 7 (iK ((List.range x).map (λj_=>(jM t.gZ xs p t.gZ.length).getD (t.iu.getD j_ 0) ia)))),(41,.jH true 26 39 t.iu.length 7 (λ_=>0) (λ_ _ _=>.any) .none)]⟩
def acO(m:List (List Iv))(hl:m.length<=1000)(hb:∀ k,k<=m.length->(oC m k).length<=1000):gW 301 [kN m] (ib (oC m m.length)):=by
 have oF:=hb m.length (bg _);exact ak call301 func301 (af [.s (Sp.jC (RF m) 0 m.length aC (λx hx k0=>by
    have jK:=hb (x+1) aC;rw[LO]at jK;exact iF (ae [tT 12 ((x:Int)<m.length) aC,iX (x:Int) (m.length) aC,iz (((oC m x).length:Int)+((m.getD x []).length:Int)) aC,tF 20 ((((oC m x).length+(m.getD x []).length:Nat):Int)<0) aC,iz ((x:Int)+1) aC]<|.e (af [.o 3 (aq (((oC m x).length+(m.getD x []).length:Nat):Int) ((oC m (x+1)).length:Int) (by rw[LO]))])) aF)
  (λhx=>by
    exact iF (af [tF 12 ((m.length:Int)<m.length) aC]) aF) aI:jA 3 f301 (RF m 0) (.exit 0) ⟨36,true,[(3,.e (iP ((oC m m.length).length:Int))),(0,.e (kN m))],[]⟩) (af [.o 3 (aq 0 ((oC m 0).length:Int) rfl)]),.cn (aft _ aC:wL 326 [.v (.slice none 0 0),iP ((oC m m.length).length:Int)] true 39 0 7 (iK [])),.s (Sp.jC (RG m) 0 m.length aC (λx hx k0=>by
    have jK:=hb (x+1) aC;rw[LO]at jK;exact iF (ae [tT 28 ((x:Int)<m.length) aC,iX (x:Int) (m.length) aC,.a (aC:((oC m x).length+(m.getD x []).length)*88<=140737488355328),iz ((x:Int)+1) aC]<|.e (af [.b 24 (agZ rfl rfl:Bx.le (.row true 39 ((oC m x).length+(m.getD x []).length) 7 (λi_ j_=>if i_<(oC m x).length then(iK (oC m x)) i_ j_ else(E.kG (ib (m.getD x []))) (i_-(oC m x).length) j_)) (.row true 39 ((oC m (x+1)).length) 7 (iK (oC m (x+1)))))])) aF)
  (λhx=>by
    exact iF (ae [tF 28 ((m.length:Int)<m.length) aC,.z 24]<|.e (af [.o 6 (.e (xZ aH):aj (.sl true ((oC m m.length).length) 7 (iK (oC m m.length))) (ib (oC m m.length)))])) aF) aI:jA 11 f301 (RG m 0) (.exit 2) ⟨36,true,[(6,.e (ib (oC m m.length)))],[]⟩) (af [.b 24 (.iT rfl:Bx.le (.row true 39 0 7 (iK [])) (.row true 39 ((oC m 0).length) 7 (iK (oC m 0))))])]) 
def RW(a b:List Iv)(ha:a.length<=400)(hb:b.length<=400):gW 301 [kN [a,b]] (ib (a++b)):=by
 have e1:oC [a,b] 1=a:=rfl;have e2:oC [a,b] 2=a++b:=rfl;have:=acO [a,b] aH λk hk=>by
  have hk:k<=2:=hk;rcases k with _|_|_|k
  .exact bV _
  .rw [e1];omega
  .rw [e2,cg];omega
  .omega
 rwa[show[a,b].length=2 from rfl,e2]at this
def Mv(p:Int):gW 299 [iP p] (bP (lH p)):=
 ak call299 func299 (.w (8<=p)
  (λk1=>ae [tB 4 (a7 k1)]<|rQ (bP (decide (p<=512))) (bP (lH p)) (by unfold lH;simp[k1]))
  (λk1=>ae [tB 4 (bc k1)]<|rQ (bP false) (bP (lH p)) (by unfold lH;simp[k1]))) 
def aeA(x:Iv)(hx:x.ij):gW 339 [ik x] (bP false):=
 ak call339 func339 (af [.c (qd x aD)]) 
def aeB(t:pX)(xs:List Iv)(p:Nat)(h:yM t)(h1:1<=xs.length)(hx:xs.length=t.im)(hv:mu xs)(il:8<=p)(ig:p<=512):gW 324 [Hp t,ib xs,iP p] (bP true):=by
 have h8:=h.im;exact ak call324 func324 (af [.c (Zv t aD),ah 14 ((xs.length:Int)==t.im) (Ka hx),.c (Mv (p:Int)),ah 18 (lH (p:Int)) (sj.2 ⟨aC,aC⟩),.c (CL true _ _ 339 [] (λ_=>false) (λi hi=>aeA _ (hv i)) aC (λ_ _=>rfl):gW 53 [ib xs,.fn 339 []] _)]) 
def aem(t:pX)(xs:List Iv)(p:Nat):(List.range t.iu.length).map (λj=>(jM t.gZ xs p t.gZ.length).getD (t.iu.getD j 0) ia)=ku t xs p:=by
 unfold ku;apply fV;intro i;rw[b6,b6];by_cases hi:i<t.iu.length
 .rw [bu (by simpa using hi),bu hi];simp[bh,hi]
 .rw [cj (by simpa using hi),cj aC];rfl
def Tm(t:pX)(xs:List Iv)(p:Nat)(h:yM t)(h1:1<=xs.length)(hx:xs.length=t.im)(hv:mu xs)(il:8<=p)(ig:p<=512):gW 300 [Hp t,ib xs,iP 0,iP p] (.ix [ib (ku t xs p),kN (List.replicate t.iu.length [])]):=by
 have h8:=h.im;have Ec:=h.gZ;have qA:=h.iu;exact ak call300 func300 (ae [.c (aeB t xs p h h1 hx hv aC aC),ai 26 (decide ((0:Int)<0)) aE,tF 32 ((t.im:Int)<0) aC,.c (amE t xs p h h1 hx hv aC aC),.a (aC:0<=((t.iu.length:Int):Int)/\((t.iu.length:Int):Int)<=((t.iu.length:Int):Int)),.a (aC:((24:Nat):Int)*(t.iu.length:Int)<=281474976710656/\((t.iu.length:Int):Int)<=9223372036854775807),.s (Sp.jC (Tl t xs p) 0 0 aC (λx hx k0=>by
    exact absurd k0 (bj _))
  (λhx=>by
    exact iF (af [ai 44 (decide ((0:Int)<0)) aE]) aF) aI:jA 6 f300 (Tl t xs p 0) (.exit 0) ⟨91,true,[(11,.own 41),(10,.e (ib (jM t.gZ xs p t.gZ.length))),(4,.box 4 0)],[(41,.jH true 26 39 t.iu.length 7 (λ_=>0) (λ_ _ _=>.any) .none),(4,.cells 25 [iP t.im,kU t.gZ,kT t.iu])]⟩) .nil,.y 16 16 true 39 7 (iK ((List.range 0).map (λj_=>(jM t.gZ xs p t.gZ.length).getD (t.iu.getD j_ 0) ia))),.s (Sp.jC (Tk t xs p) 0 t.iu.length aC (λx hx k0=>by
    have hot:=h.out x aC;have JA:=P0 t.gZ xs p t.gZ.length;have qy:=oP ((jM t.gZ xs p t.gZ.length).getD (t.iu.getD x 0) ia);exact iF (ae [tT 78 ((x:Int)<t.iu.length) aC,iX (x:Int) (t.iu.length) aC,iX (t.iu.getD x 0:Int) ((jM t.gZ xs p t.gZ.length).length) aC,.o 86 (.e (lh _):aj (.sl true 1 7 λi_ j_=>(iJ ((jM t.gZ xs p t.gZ.length).getD (t.iu.getD x 0) ia)).getD (i_*7+j_) (.v (.bool false))) (ib [(jM t.gZ xs p t.gZ.length).getD (t.iu.getD x 0) ia])),.a (aC:(x+[(jM t.gZ xs p t.gZ.length).getD (t.iu.getD x 0) ia].length)*88<=140737488355328),iz ((x:Int)+1) aC]<|.e (af [.b 16 (wj rfl rfl rfl:Bx.le (.row true 39 (x+[(jM t.gZ xs p t.gZ.length).getD (t.iu.getD x 0) ia].length) 7 (λi_ j_=>if i_<x then(iK ((List.range x).map (λj_=>(jM t.gZ xs p t.gZ.length).getD (t.iu.getD j_ 0) ia))) i_ j_ else(E.kG (ib [(jM t.gZ xs p t.gZ.length).getD (t.iu.getD x 0) ia])) (i_-x) j_)) (.row true 39 (x+1) 7 (iK ((List.range (x+1)).map (λj_=>(jM t.gZ xs p t.gZ.length).getD (t.iu.getD j_ 0) ia)))))])) aF)
  (λhx=>by
    exact iF (ae [tF 78 ((t.iu.length:Int)<t.iu.length) aC,.z 16]<|.e (af [.o 16 (.e (xZ aH):aj (.sl true t.iu.length 7 (iK ((List.range t.iu.length).map (λj_=>(jM t.gZ xs p t.gZ.length).getD (t.iu.getD j_ 0) ia)))) (ib ((List.range t.iu.length).map (λj_=>(jM t.gZ xs p t.gZ.length).getD (t.iu.getD j_ 0) ia))))])) aF) aI:jA 17 f300 (Tk t xs p 0) (.exit 4) ⟨91,true,[(16,.e (ib ((List.range t.iu.length).map (λj_=>(jM t.gZ xs p t.gZ.length).getD (t.iu.getD j_ 0) ia)))),(11,.own 41)],[(41,.jH true 26 39 t.iu.length 7 (λ_=>0) (λ_ _ _=>.any) .none)]⟩) .nil]<|rR (.ix [ib (ku t xs p),kN (List.replicate t.iu.length [])]) (.ix (.cons (.iT (by rw[aem])) (.cons aky .nil)):E.le (.ix [ib ((List.range t.iu.length).map (λj_=>(jM t.gZ xs p t.gZ.length).getD (t.iu.getD j_ 0) ia)),(.sl true t.iu.length 1 λk_ _=>.sl true ((λ_=>0) k_) 7 ((λ_ _ _=>.any) k_))]) (.ix [ib (ku t xs p),kN (List.replicate t.iu.length [])]))) 
def aev(x:Iv):gW 323 [ik x] (bP x.all):=
 ak call323 func323 (.nil) 
def FQ(l:List Iv)(hl:l.length<=1000):gW 297 [ib l] (bP (nP l)):=
 ak call297 func297 (af [.c (JZ true _ _ 323 [] (λi=>(l.getD i ia).all) (λi hi=>aev _) aC:gW 53 [ib l,.fn 323 []] _)]) 
def Tg(x:Iv)(hx:x.ij):gW 298 [ik x] (bP false):=
 ak call298 func298 (af [.c (qd x aD)]) 
def aj9(n:Nat)(hn:n<=1000):gW 50 [kN (List.replicate n []),.fn 297 []] (bP false):=by
 have e:∀ i,i<n->(List.replicate n ([]:List Iv)).getD i []=[]:=λi hi=>by simp[bh,hi]
 refine KI true _ _ 297 [] (λ_=>false) (λi hi=>?_) (by simpa using by omega) (λ_ _=>rfl);have mC:i<n:=by simpa using hi
 show gW 297 [ib ((List.replicate n []).getD i [])] _;rw[e i mC];exact FQ [] aH 
def WQ{l:List Iv}(h:pq l):nP l=false:=by
 unfold nP;rw[cK];intro i hi;rw[(h i (bS.1 hi)).2];decide
def IG{s:jc}{b:List Iv}(h:kz s)(hb:jh s.iy b):yM s.tape/\1<=(b++s.params).length/\(b++s.params).length=s.tape.im/\mu (b++s.params):=by
 have h1:=h.s1;have h2:=h.im;have h3:=hb.len;refine⟨h.tape,?_,?_,hb.ok.PZ.append h.params.PZ⟩
 .rw [cg];omega
 .rw [cg];omega
def aew(s:jc)(b:List Iv)(p:Nat)(h:kz s)(hb:jh s.iy b)(il:8<=p)(ig:p<=512)(hn:nP (ku s.tape (b++s.params) p)=true):gW 266 [iV s,ib b,iP 0,iP p] (.ix [.v (.slice none 0 0),.v (.slice none 0 0),iP 11]):=by
 have s4:=h.s4;have p4:=h.p4;have Cn:=hb.len;have qA:=h.tape.iu;have Cp:=WQ hb.ok;have Bc:=I7 s.tape (b++s.params) p;obtain⟨f1,f2,f3,f4⟩:=IG h hb;exact ak call266 func266 (af [.c (EX s aD),ai 21 ((b.length:Int) != (s.iy:Int)) (zY hb.len),.c (FQ b aC),ai 25 (nP b) Cp,.c (CL true _ _ 298 [] (λ_=>false) (λi hi=>Tg _ (hb.ok i hi).1) aC (λ_ _=>rfl):gW 53 [ib b,.fn 298 []] _),.c (Mv (p:Int)),ah 32 (lH (p:Int)) (sj.2 ⟨aC,aC⟩),.o 40 (.e (Bm _ _):aj (.sl true 2 1 λi_ j_=>[ib b,ib s.params].getD (i_*1+j_) (.v (.bool false))) (kN [b,s.params])),ag [kN [b,s.params]] (RW b s.params aC aC),.c (Tm s.tape (b++s.params) p f1 f2 f3 f4 aC aC),.c (FQ (ku s.tape (b++s.params) p) aC),ah 48 (nP (ku s.tape (b++s.params) p)) hn]) 
def aex(s:jc)(b:List Iv)(p:Nat)(h:kz s)(hb:jh s.iy b)(il:8<=p)(ig:p<=512)(hn:nP (ku s.tape (b++s.params) p)=false):gW 266 [iV s,ib b,iP 0,iP p] (.ix [ib (ku s.tape (b++s.params) p),kN (List.replicate s.tape.iu.length []),iP 0]):=by
 have s4:=h.s4;have p4:=h.p4;have Cn:=hb.len;have qA:=h.tape.iu;have Cp:=WQ hb.ok;have Bc:=I7 s.tape (b++s.params) p;obtain⟨f1,f2,f3,f4⟩:=IG h hb;exact ak call266 func266 (af [.c (EX s aD),ai 21 ((b.length:Int) != (s.iy:Int)) (zY hb.len),.c (FQ b aC),ai 25 (nP b) Cp,.c (CL true _ _ 298 [] (λ_=>false) (λi hi=>Tg _ (hb.ok i hi).1) aC (λ_ _=>rfl):gW 53 [ib b,.fn 298 []] _),.c (Mv (p:Int)),ah 32 (lH (p:Int)) (sj.2 ⟨aC,aC⟩),.o 40 (.e (Bm _ _):aj (.sl true 2 1 λi_ j_=>[ib b,ib s.params].getD (i_*1+j_) (.v (.bool false))) (kN [b,s.params])),ag [kN [b,s.params]] (RW b s.params aC aC),.c (Tm s.tape (b++s.params) p f1 f2 f3 f4 aC aC),.c (FQ (ku s.tape (b++s.params) p) aC),ai 48 (nP (ku s.tape (b++s.params) p)) hn,ag [kN (List.replicate s.tape.iu.length []),.fn 297 []] (aj9 _ aC)]) 
def aez(s:jc)(b:List Iv)(p:Nat)(h:kz s)(hb:jh s.iy b)(il:8<=p)(ig:p<=512)(hn:nP (ku s.tape (b++s.params) p)=true):gW 226 [iV s,ib b,iP p] (.ix [.v (.slice none 0 0),iP 11]):=
 ak call226 func226 (af [.c (aew s b p h hb il ig hn)]) 
def Th(s:jc)(b:List Iv)(p:Nat)(h:kz s)(hb:jh s.iy b)(il:8<=p)(ig:p<=512)(hn:nP (ku s.tape (b++s.params) p)=false):gW 226 [iV s,ib b,iP p] (.ix [ib (ku s.tape (b++s.params) p),iP 0]):=
 ak call226 func226 (af [.c (aex s b p h hb il ig hn)]) 
noncomputable def U8(s:jc)(x:List Iv)(d:Dy)(b:List Iv)(p:Nat)(N:Nat)(i:Nat):PS:=⟨66,true,[(14,.own 14),(42,.e (iP i)),(41,.e (iP x.length)),(13,.box 13 0),(11,.e (ib (ku s.tape (b++s.params) p))),(1,.e (ib x)),(4,.e (iP p))],[(14,.row true 39 i 7 (iK ((List.range i).map (λj_=>(jf (x.getD j_ ia) (iD (mF d) ((ku s.tape (b++s.params) p).getD j_ ia) p) p))))),(13,.cells 39 (ar++jq d++[bP false]))]⟩
noncomputable def U9(s:jc)(x:List Iv)(d:Dy)(b:List Iv)(p:Nat)(i:Nat):PS:=⟨66,true,[(14,.own 14),(42,.e (iP i)),(41,.e (iP x.length)),(13,.box 13 0),(11,.e (ib (ku s.tape (b++s.params) p))),(1,.e (ib x)),(4,.e (iP p))],[(14,.row true 39 i 7 (iK ((List.range i).map (λj_=>(jf (x.getD j_ ia) (iD (mF d) ((ku s.tape (b++s.params) p).getD j_ ia) p) p))))),(13,.cells 39 (ar++jq d++[bP false]))]⟩
def Sv(s:jc)(x:List Iv)(d:Dy)(p:Nat)(N:Nat)(k:Nat):PS:=⟨55,true,[(22,.e (iP k)),(10,.pC 121 [.box 5,.box 4,.box 6,.box 7]),(7,.box 7 0),(6,.box 6 0),(5,.box 5 0),(4,.box 4 0)],[(7,.cells 3 [iP p]),(6,.cells 31 (jq d)),(5,.cells 26 [ib x]),(4,.cells 28 [iP s.tape.im,kU s.tape.gZ,kT s.tape.iu,iP s.iy,ib s.params])]⟩
def Sw(s:jc)(x:List Iv)(d:Dy)(p:Nat)(k:Nat):PS:=⟨55,true,[(22,.e (iP k)),(10,.pC 121 [.box 5,.box 4,.box 6,.box 7]),(7,.box 7 0),(6,.box 6 0),(5,.box 5 0),(4,.box 4 0)],[(7,.cells 3 [iP p]),(6,.cells 31 (jq d)),(5,.cells 26 [ib x]),(4,.cells 28 [iP s.tape.im,kU s.tape.gZ,kT s.tape.iu,iP s.iy,ib s.params])]⟩
noncomputable def Sz(s:jc)(x:List Iv)(d:Dy)(p:Nat)(N:Nat)(j:Nat):PS:=⟨55,true,[(36,.e (iP j)),(14,.e (ib (lK s x d p j))),(7,.box 7 0),(6,.box 6 0),(5,.box 5 0),(4,.box 4 0)],[(7,.cells 3 [iP p]),(6,.cells 31 (jq d)),(5,.cells 26 [ib x]),(4,.cells 28 [iP s.tape.im,kU s.tape.gZ,kT s.tape.iu,iP s.iy,ib s.params])]⟩
def Sx(s:jc)(x:List Iv)(d:Dy)(p:Nat)(k:Nat):PS:=⟨55,true,[(22,.e (iP k)),(10,.pC 121 [.box 5,.box 4,.box 6,.box 7]),(7,.box 7 0),(6,.box 6 0),(5,.box 5 0),(4,.box 4 0)],[(7,.cells 3 [iP p]),(6,.cells 31 (jq d)),(5,.cells 26 [ib x]),(4,.cells 28 [iP s.tape.im,kU s.tape.gZ,kT s.tape.iu,iP s.iy,ib s.params])]⟩
noncomputable def SA(s:jc)(x:List Iv)(d:Dy)(p:Nat)(j:Nat):PS:=⟨55,true,[(36,.e (iP j)),(14,.e (ib (lK s x d p j))),(7,.box 7 0),(6,.box 6 0),(5,.box 5 0),(4,.box 4 0)],[(7,.cells 3 [iP p]),(6,.cells 31 (jq d)),(5,.cells 26 [ib x]),(4,.cells 28 [iP s.tape.im,kU s.tape.gZ,kT s.tape.iu,iP s.iy,ib s.params])]⟩
def abk(x:Iv)(hx:x.ij)(xa:x.all=false):gW 240 [ik x] (bP false):=
 ak call240 func240 (af [.c (qd x aD),ai 8 x.all xa]) 
def ID(s:jc)(b:List Iv)(hb:jh s.iy b)(h4:s.iy<=4):gW 195 [iV s,ib b] (bP true):=by
 have Cn:=hb.len;exact ak call195 func195 (af [ah 9 ((b.length:Int)==s.iy) (Ka hb.len),.c (CL true _ _ 240 [] (λ_=>false) (λi hi=>abk _ (hb.ok i hi).1 (hb.ok i hi).2) aC (λ_ _=>rfl):gW 53 [ib b,.fn 240 []] _)]) 
def Cb(s:jc)(x:List Iv)(d:Dy)(p:Nat)(h:kz s)(hx:jh s.iy x)(hd:d.ij)(h0:0<d.iM)(il:8<=p)(ig:p<=512):gW 120 [iV s,ib x,ie d,iP p] (bP true):=by
 have s4:=h.s4;exact ak call120 func120 (af [.c (EX s aD),.c (ID s x hx aC),ag [ie d] (oq _ aD),ag [ie d] (mT _ aD),tB 23 (a7 h0),tT 27 (8<=(p:Int)) aC,tT 31 ((p:Int)<=512) aC]) 
def agm(s:jc)(x:List Iv)(d:Dy)(b:List Iv)(p:Nat)(h:kz s)(hx:jh s.iy x)(hd:d.ij)(h0:0<d.iM)(hb:jh s.iy b)(il:8<=p)(ig:p<=512)(hn:nP (ku s.tape (b++s.params) p)=true):gW 167 [iV s,ib x,ie d,ib b,iP p] (.v (.slice none 0 0)):=by
 have s4:=h.s4;exact ak call167 func167 (af [.c (Cb s x d p h hx hd h0 il ig),.c (ID s b hb s4),.c (aez s b p h hb il ig hn),ah 37 ((11:Int) != 0) aE]) 
def PH(d:Dy):E.le (.agg (ar++jq d++[bP false])) (ik (mF d)):=
 .agg (.cons (.refl _) (.cons C0 (.cons (.refl _) (.cons (.refl _) (.cons (.refl _) (.cons (.refl _) (.cons (.refl _) .nil)))))))
def agn(s:jc)(x:List Iv)(d:Dy)(b:List Iv)(p:Nat)(h:kz s)(hx:jh s.iy x)(hd:d.ij)(h0:0<d.iM)(hb:jh s.iy b)(il:8<=p)(ig:p<=512)(hn:nP (ku s.tape (b++s.params) p)=false)(N:Nat)(mQ:N<x.length)(je:∀ i,i<N->(jf (x.getD i ia) (iD (mF d) ((ku s.tape (b++s.params) p).getD i ia) p) p).all=false)(hN:(jf (x.getD N ia) (iD (mF d) ((ku s.tape (b++s.params) p).getD N ia) p) p).all=true):gW 167 [iV s,ib x,ie d,ib b,iP p] (.v (.slice none 0 0)):=by
 have s4:=h.s4;have zo:=hx.len;have qA:=h.iu;have Bc:=I7 s.tape (b++s.params) p;obtain⟨f1,f2,f3,f4⟩:=IG h hb;have fv:=S3 s.tape f4 (aC:1<=p) (aC:p<=4096);have hq:0<d.q:=(sk d).1.1 h0;have hst:=Zd hd (bJ hq);exact ak call167 func167 (af [.c (Cb s x d p h hx hd h0 il ig),.c (ID s b hb s4),.c (Th s b p h hb il ig hn),ai 37 ((0:Int) != 0) aE,.y 14 14 true 39 7 (iK ((List.range 0).map (λj_=>(jf (x.getD j_ ia) (iD (mF d) ((ku s.tape (b++s.params) p).getD j_ ia) p) p)))),.s (Sp.jC (U8 s x d b p N) 0 N aC (λi hi nQ=>by
    have w1:=(hx.ok i aC).1;have w2:=fv i;have w3:=nV (mF d) ((ku s.tape (b++s.params) p).getD i ia) (aC:1<=p) (aC:p<=4096);have qy:=oP (jf (x.getD i ia) (iD (mF d) ((ku s.tape (b++s.params) p).getD i ia) p) p);exact iF (ae [tT 43 ((i:Int)<x.length) aC,iX (i:Int) (x.length) aC,.o 49 (.e (PH d):aj (.agg (ar++jq d++[bP false])) (ik (mF d))),iX (i:Int) ((ku s.tape (b++s.params) p).length) aC,.c (sC (mF d) ((ku s.tape (b++s.params) p).getD i ia) p aD aD aC aC),.c (wh (x.getD i ia) (iD (mF d) ((ku s.tape (b++s.params) p).getD i ia) p) p aD aD aC aC),ai 59 ((jf (x.getD i ia) (iD (mF d) ((ku s.tape (b++s.params) p).getD i ia) p) p).all) (je i aC),.o 62 (.e (lh _):aj (.sl true 1 7 λi_ j_=>(iJ (jf (x.getD i ia) (iD (mF d) ((ku s.tape (b++s.params) p).getD i ia) p) p)).getD (i_*7+j_) (.v (.bool false))) (ib [jf (x.getD i ia) (iD (mF d) ((ku s.tape (b++s.params) p).getD i ia) p) p])),.a (aC:(i+[jf (x.getD i ia) (iD (mF d) ((ku s.tape (b++s.params) p).getD i ia) p) p].length)*88<=140737488355328),iz ((i:Int)+1) aC]<|.e (af [.b 14 (wj rfl rfl rfl:Bx.le (.row true 39 (i+[jf (x.getD i ia) (iD (mF d) ((ku s.tape (b++s.params) p).getD i ia) p) p].length) 7 (λi_ j_=>if i_<i then(iK ((List.range i).map (λj_=>(jf (x.getD j_ ia) (iD (mF d) ((ku s.tape (b++s.params) p).getD j_ ia) p) p)))) i_ j_ else(E.kG (ib [jf (x.getD i ia) (iD (mF d) ((ku s.tape (b++s.params) p).getD i ia) p) p])) (i_-i) j_)) (.row true 39 (i+1) 7 (iK ((List.range (i+1)).map (λj_=>(jf (x.getD j_ ia) (iD (mF d) ((ku s.tape (b++s.params) p).getD j_ ia) p) p))))))])) aF)
  (λhi=>by
    have w1:=(hx.ok N aC).1;have w2:=fv N;have w3:=nV (mF d) ((ku s.tape (b++s.params) p).getD N ia) (aC:1<=p) (aC:p<=4096);exact iF (af [tT 43 ((N:Int)<x.length) aC,iX (N:Int) (x.length) aC,.o 49 (.e (PH d):aj (.agg (ar++jq d++[bP false])) (ik (mF d))),iX (N:Int) ((ku s.tape (b++s.params) p).length) aC,.c (sC (mF d) ((ku s.tape (b++s.params) p).getD N ia) p aD aD aC aC),.c (wh (x.getD N ia) (iD (mF d) ((ku s.tape (b++s.params) p).getD N ia) p) p aD aD aC aC),ah 59 ((jf (x.getD N ia) (iD (mF d) ((ku s.tape (b++s.params) p).getD N ia) p) p).all) hN]) aF) aI:jA 9 f167 (U8 s x d b p N 0) .ret ⟨66,true,[(10,.e (.v (.slice none 0 0)))],[]⟩) .nil]) 
def ago(s:jc)(x:List Iv)(d:Dy)(b:List Iv)(p:Nat)(h:kz s)(hx:jh s.iy x)(hd:d.ij)(h0:0<d.iM)(hb:jh s.iy b)(il:8<=p)(ig:p<=512)(hn:nP (ku s.tape (b++s.params) p)=false)(je:∀ i,i<x.length->(jf (x.getD i ia) (iD (mF d) ((ku s.tape (b++s.params) p).getD i ia) p) p).all=false):gW 167 [iV s,ib x,ie d,ib b,iP p] (ib ((List.range x.length).map (λj_=>(jf (x.getD j_ ia) (iD (mF d) ((ku s.tape (b++s.params) p).getD j_ ia) p) p)))):=by
 have s4:=h.s4;have zo:=hx.len;have qA:=h.iu;have Bc:=I7 s.tape (b++s.params) p;obtain⟨f1,f2,f3,f4⟩:=IG h hb;have fv:=S3 s.tape f4 (aC:1<=p) (aC:p<=4096);have hq:0<d.q:=(sk d).1.1 h0;have hst:=Zd hd (bJ hq);exact ak call167 func167 (af [.c (Cb s x d p h hx hd h0 il ig),.c (ID s b hb s4),.c (Th s b p h hb il ig hn),ai 37 ((0:Int) != 0) aE,.y 14 14 true 39 7 (iK ((List.range 0).map (λj_=>(jf (x.getD j_ ia) (iD (mF d) ((ku s.tape (b++s.params) p).getD j_ ia) p) p)))),.s (Sp.jC (U9 s x d b p) 0 x.length aC (λi hi nQ=>by
    have w1:=(hx.ok i aC).1;have w2:=fv i;have w3:=nV (mF d) ((ku s.tape (b++s.params) p).getD i ia) (aC:1<=p) (aC:p<=4096);have qy:=oP (jf (x.getD i ia) (iD (mF d) ((ku s.tape (b++s.params) p).getD i ia) p) p);exact iF (ae [tT 43 ((i:Int)<x.length) aC,iX (i:Int) (x.length) aC,.o 49 (.e (PH d):aj (.agg (ar++jq d++[bP false])) (ik (mF d))),iX (i:Int) ((ku s.tape (b++s.params) p).length) aC,.c (sC (mF d) ((ku s.tape (b++s.params) p).getD i ia) p aD aD aC aC),.c (wh (x.getD i ia) (iD (mF d) ((ku s.tape (b++s.params) p).getD i ia) p) p aD aD aC aC),ai 59 ((jf (x.getD i ia) (iD (mF d) ((ku s.tape (b++s.params) p).getD i ia) p) p).all) (je i aC),.o 62 (.e (lh _):aj (.sl true 1 7 λi_ j_=>(iJ (jf (x.getD i ia) (iD (mF d) ((ku s.tape (b++s.params) p).getD i ia) p) p)).getD (i_*7+j_) (.v (.bool false))) (ib [jf (x.getD i ia) (iD (mF d) ((ku s.tape (b++s.params) p).getD i ia) p) p])),.a (aC:(i+[jf (x.getD i ia) (iD (mF d) ((ku s.tape (b++s.params) p).getD i ia) p) p].length)*88<=140737488355328),iz ((i:Int)+1) aC]<|.e (af [.b 14 (wj rfl rfl rfl:Bx.le (.row true 39 (i+[jf (x.getD i ia) (iD (mF d) ((ku s.tape (b++s.params) p).getD i ia) p) p].length) 7 (λi_ j_=>if i_<i then(iK ((List.range i).map (λj_=>(jf (x.getD j_ ia) (iD (mF d) ((ku s.tape (b++s.params) p).getD j_ ia) p) p)))) i_ j_ else(E.kG (ib [jf (x.getD i ia) (iD (mF d) ((ku s.tape (b++s.params) p).getD i ia) p) p])) (i_-i) j_)) (.row true 39 (i+1) 7 (iK ((List.range (i+1)).map (λj_=>(jf (x.getD j_ ia) (iD (mF d) ((ku s.tape (b++s.params) p).getD j_ ia) p) p))))))])) aF)
  (λhi=>by
    exact iF (ae [tF 43 ((x.length:Int)<x.length) aC,.z 14]<|.e (af [.o 14 (.e (xZ aH):aj (.sl true x.length 7 (iK ((List.range x.length).map (λj_=>(jf (x.getD j_ ia) (iD (mF d) ((ku s.tape (b++s.params) p).getD j_ ia) p) p))))) (ib ((List.range x.length).map (λj_=>(jf (x.getD j_ ia) (iD (mF d) ((ku s.tape (b++s.params) p).getD j_ ia) p) p)))))])) aF) aI:jA 9 f167 (U9 s x d b p 0) (.exit 0) ⟨66,true,[(14,.e (ib ((List.range x.length).map (λj_=>(jf (x.getD j_ ia) (iD (mF d) ((ku s.tape (b++s.params) p).getD j_ ia) p) p)))))],[]⟩) .nil]) 
def CG(s:jc)(x:List Iv)(d:Dy)(b:List Iv)(p:Nat)(h:kz s)(hx:jh s.iy x)(hd:d.ij)(h0:0<d.iM)(hb:jh s.iy b)(il:8<=p)(ig:p<=512):gW 167 [iV s,ib x,ie d,ib b,iP p] (ib (kS s x d b p)):=by
 unfold kS;cases hn:nP (ku s.tape (b++s.params) p)with
 |true=>rw[a6 rfl];exact(agm s x d b p h hx hd h0 hb il ig hn).jQ (.nil _ _ _)
 |false=>
  rw[aZ aE];cases ha:nP (zI x (ku s.tape (b++s.params) p) d p)with
  |true=>
   rw[a6 rfl];unfold nP at ha;rw[dz,JV]at ha;obtain⟨i,hi,kK⟩:=ha;obtain⟨N,h1,h2,h3⟩:=rh (p:=λi=>((zI x (ku s.tape (b++s.params) p) d p).getD i ia).all) ⟨i,bS.1 hi,kK⟩;refine(agn s x d b p h hx hd h0 hb il ig hn N h1 (λi hi=>?_) ?_).jQ (.nil _ _ _)
   .have:=h3 i hi;rw[JU (aC:i<x.length)]at this;exact this
   .rw [JU h1]at h2;exact h2
  |false=>
   rw[aZ aE];refine ago s x d b p h hx hd h0 hb il ig hn λi hi=>?_
   unfold nP at ha;rw[cK,JV]at ha;have:=ha i (bS.2 hi);rw[JU hi]at this;exact aW this
def aga(s:jc)(x:List Iv)(d:Dy)(b:List Iv)(p:Nat)(h:kz s)(hx:jh s.iy x)(hd:d.ij)(h0:0<d.iM)(hb:jh s.iy b)(il:8<=p)(ig:p<=512)(hi:(kS s x d b p)=[]):gW 123 [iV s,ib x,ie d,ib b,iP p] (bP false):=
 ak call123 func123 (af [.c (CG s x d b p h hx hd h0 hb il ig),ai 20 (decide (0<((kS s x d b p).length:Int))) (by rw[hi];rfl)]) 
def yT{n:Nat}{b:List Iv}(h:jh n b)(h1:1<=n)(h4:n<=4):1<=b.length/\b.length<=4/\pq b:=⟨by rw[h.len];exact h1,by rw[h.len];exact h4,h.ok⟩
def agb(s:jc)(x:List Iv)(d:Dy)(b:List Iv)(p:Nat)(h:kz s)(hx:jh s.iy x)(hd:d.ij)(h0:0<d.iM)(hb:jh s.iy b)(il:8<=p)(ig:p<=512)(hi:(kS s x d b p)≠[]):gW 123 [iV s,ib x,ie d,ib b,iP p] (bP (ve x b&&ve (kS s x d b p) b)):=by
 have s1:=h.s1;have s4:=h.s4;obtain⟨x1,x4,xo⟩:=yT hx s1 s4;obtain⟨b1,b4,bo⟩:=yT hb s1 s4;have zo:=hx.len;have Cn:=hb.len;have D1:=JT hx (aC:1<=p) (aC:p<=4096) hi;obtain⟨i1,i4,io⟩:=yT D1 s1 s4;have hli:=D1.len;exact ak call123 func123 (ae [.c (CG s x d b p h hx hd h0 hb il ig),tT 20 (0<((kS s x d b p).length:Int)) aC,.c (Rl x b aC aC aC aD aD)]<|.w (ve x b=true)
  (λk1=>ae [tB 24 k1,.c (Rl (kS s x d b p) b aC aC aC aD aD)]<|rQ (bP (ve (kS s x d b p) b)) (bP (ve x b&&ve (kS s x d b p) b)) (by simp[k1]))
  (λk1=>ae [tB 24 (aW k1)]<|rQ (bP false) (bP (ve x b&&ve (kS s x d b p) b)) (by simp[k1]))) 
def Cs(s:jc)(x:List Iv)(d:Dy)(b:List Iv)(p:Nat)(h:kz s)(hx:jh s.iy x)(hd:d.ij)(h0:0<d.iM)(hb:jh s.iy b)(il:8<=p)(ig:p<=512):gW 123 [iV s,ib x,ie d,ib b,iP p] (bP (rJ s x d b p)):=by
 unfold rJ;by_cases hi:(kS s x d b p)=[]
 .have:=aga s x d b p h hx hd h0 hb il ig hi;rwa[hi,show(!([]:List Iv).isEmpty&&(ve x b&&ve [] b))=false from rfl]
 .have:=agb s x d b p h hx hd h0 hb il ig hi;have e:((kS s x d b p)).isEmpty=false:=by
   cases q:(kS s x d b p)with
   |nil=>exact absurd q hi
   |cons _ _=>rfl
  rwa[e,ek,cY]
def amV(k:Int)(h1:-100<=k)(h2:k<=100):gW 177 [ie ⟨false,1,0⟩,iP k] (.ix [ie (oj k),iP 0]):=by
 have:=IB ⟨false,1,0⟩ k EB aC aC;have e:canon false 1 (0+k)=oj k:=by rw[Int.zero_add];exact RA k
 have e2:kt (canon false 1 (0+k))=oj k:=by rw[e];exact yY (PU h1 h2)
 have e3:ml (canon false 1 (0+k))=0:=by rw[e];exact B2 (PU h1 h2)
 change gW 177 [ie ⟨false,1,0⟩,iP k] (.ix [ie (kt (canon false 1 (0+k))),iP (ml (canon false 1 (0+k)))])at this;rwa[e2,e3]at this
def afo(x:List Iv)(d:Dy):(AY x d==0)=rV x d:=by
 unfold AY;cases rV x d<;>rfl
def TD(x:List Iv)(k:Int)(x1:1<=x.length)(x8:x.length<=8)(hx:pq x)(k1:-100<=k)(k2:k<=100):gW 122 [ib x,iP k] (.ix [ib (qJ x (oj k)),bP (rV x (oj k))]):=by
 have v:=Hv k1 k2;have sg:=Hu k;exact ak call122 func122 (ae [ag [iP 1] (rC _ aC),ag [ie (iW 1),iP k] (amV _ aC aC),ai 16 ((0:Int) != 0) aE,ag [ib x,ie (oj k)] (Rk _ _ aC aC aD aD aD)]<|rR (.ix [ib (qJ x (oj k)),bP (rV x (oj k))]) (.ix (.cons (.refl _) (.cons (.iT (by rw[afo])) .nil)):E.le (.ix [ib (qJ x (oj k)),bP ((AY x (oj k))==0)]) (.ix [ib (qJ x (oj k)),bP (rV x (oj k))]))) 
def aaH(s:jc)(x:List Iv)(d:Dy)(p:Nat)(h:kz s)(hx:jh s.iy x)(hd:d.ij)(h0:0<d.iM)(il:8<=p)(ig:p<=512)(k:Int)(k1:-100<=k)(k2:k<=100)(hg:(rV x (oj k))=false):gW 121 [iP k,(.iQ 1 λj_=>[ib x].getD j_ .any),(.iQ 5 λj_=>[iP s.tape.im,kU s.tape.gZ,kT s.tape.iu,iP s.iy,ib s.params].getD j_ .any),(.iQ 3 λj_=>[bP d.neg,ic (gY d.m),iP d.e].getD j_ .any),(.iQ 1 λj_=>[iP p].getD j_ .any)] (.ix [ib (qJ x (oj k)),bP false]):=by
 have s1:=h.s1;have s4:=h.s4;obtain⟨x1,x4,xo⟩:=yT hx s1 s4;exact ak call121 func121 (af [.c (TD x k aC aC xo aC aC),ai 15 (rV x (oj k)) hg]) 
def aaI(s:jc)(x:List Iv)(d:Dy)(p:Nat)(h:kz s)(hx:jh s.iy x)(hd:d.ij)(h0:0<d.iM)(il:8<=p)(ig:p<=512)(k:Int)(k1:-100<=k)(k2:k<=100)(hg:(rV x (oj k))=true):gW 121 [iP k,(.iQ 1 λj_=>[ib x].getD j_ .any),(.iQ 5 λj_=>[iP s.tape.im,kU s.tape.gZ,kT s.tape.iu,iP s.iy,ib s.params].getD j_ .any),(.iQ 3 λj_=>[bP d.neg,ic (gY d.m),iP d.e].getD j_ .any),(.iQ 1 λj_=>[iP p].getD j_ .any)] (.ix [ib (qJ x (oj k)),bP (rJ s x d (qJ x (oj k)) p)]):=by
 have s1:=h.s1;have s4:=h.s4;obtain⟨x1,x4,xo⟩:=yT hx s1 s4;have hb:=FV hx (Hv k1 k2) (KQ (Hu k)) hg;exact ak call121 func121 (af [.c (TD x k aC aC xo aC aC),ah 15 (rV x (oj k)) hg,.c (Cs s x d (qJ x (oj k)) p h hx hd h0 hb il ig)]) 
def Fg(s:jc)(x:List Iv)(d:Dy)(p:Nat)(h:kz s)(hx:jh s.iy x)(hd:d.ij)(h0:0<d.iM)(il:8<=p)(ig:p<=512)(k:Int)(k1:-100<=k)(k2:k<=100):gW 121 [iP k,(.iQ 1 λj_=>[ib x].getD j_ .any),(.iQ 5 λj_=>[iP s.tape.im,kU s.tape.gZ,kT s.tape.iu,iP s.iy,ib s.params].getD j_ .any),(.iQ 3 λj_=>[bP d.neg,ic (gY d.m),iP d.e].getD j_ .any),(.iQ 1 λj_=>[iP p].getD j_ .any)] (.ix [ib (qJ x (oj k)),bP (qH s x d p k)]):=by
 unfold qH;cases hg:rV x (oj k)with
 |false=>exact aaH s x d p h hx hd h0 il ig k k1 k2 hg
 |true=>exact aaI s x d p h hx hd h0 il ig k k1 k2 hg
def alb(d:Dy)(hd:d.ij):gW 177 [ie d,iP (-3)] (.ix [ie (Ak d),iP (Pq d)]):=IB d (-3) hd aE aE 
def Tw{x:List Iv}{d:Dy}:AY x d=0↔rV x d=true:=by
 unfold AY;cases rV x d<;>simp
def anq(s:jc)(x:List Iv)(d:Dy)(b:List Iv)(p:Nat)(h:kz s)(hx:jh s.iy x)(hd:d.ij)(h0:0<d.iM)(hb:jh s.iy b)(il:8<=p)(ig:p<=512)(hi:(kS s x d b p)=[]):gW 124 [iV s,ib x,ie d,ib b,iP p] (.v (.slice none 0 0)):=
 ak call124 func124 (af [.c (CG s x d b p h hx hd h0 hb il ig),ah 26 (((kS s x d b p).length:Int)==0) (by rw[hi];rfl)]) 
def yg{l:List Iv}(h:l≠[]):((l.length:Int)==0)=false:=nC λq=>h (gQ.1 q)
def anr(s:jc)(x:List Iv)(d:Dy)(b:List Iv)(p:Nat)(h:kz s)(hx:jh s.iy x)(hd:d.ij)(h0:0<d.iM)(hb:jh s.iy b)(il:8<=p)(ig:p<=512)(hi:(kS s x d b p)≠[]):gW 124 [iV s,ib x,ie d,ib b,iP p] (ib (lO s x d b p)):=by
 have s1:=h.s1;have s4:=h.s4;obtain⟨x1,x4,xo⟩:=yT hx s1 s4;obtain⟨b1,b4,bo⟩:=yT hb s1 s4;have zo:=hx.len;have Cn:=hb.len;have D1:=JT hx (aC:1<=p) (aC:p<=4096) hi;obtain⟨i1,i4,io⟩:=yT D1 s1 s4;have hli:=D1.len;have hho:=UJ hx D1;obtain⟨u1,u4,uo⟩:=yT hho s1 s4;have wv:=anp (ns x (kS s x d b p)) (aC:1<=p) (aC:p<=4096);have sv:=Yo (ss (ns x (kS s x d b p)) p);have sn:=aja (Yn (Z0 (ns x (kS s x d b p)) p));exact ak call124 func124 (ae [.c (CG s x d b p h hx hd h0 hb il ig),ai 26 (((kS s x d b p).length:Int)==0) (yg hi),.c (abD x (kS s x d b p) aC aC aC aD aD),ag [ib (ns x (kS s x d b p)),iP p] (abL _ _ aC aC aD aC aC)]<|.w (HW (ns x (kS s x d b p)) p=true)
  (λk1=>ae [tB 35 k1,ag [ie (ss (ns x (kS s x d b p)) p)] (mT _ aD)]<|.w ((Dy.iM (ss (ns x (kS s x d b p)) p))=0)
   (λk2=>ae [tB 41 (aV k2)]<|rQ (ib (ns x (kS s x d b p))) (ib (lO s x d b p)) (by unfold lO;rw[aZ hi];simp[k1,k2]))
   (λk2=>ae [tB 41 (aU k2),ag [ie (ss (ns x (kS s x d b p)) p),iP (-3)] (alb _ aD)]<|.w ((Pq (ss (ns x (kS s x d b p)) p))=0)
    (λk3=>ae [tB 50 (aX k3),ag [ib (ns x (kS s x d b p)),ie (Ak (ss (ns x (kS s x d b p)) p))] (Rk _ _ aC aC aD aD aD)]<|.w ((AY (ns x (kS s x d b p)) (Ak (ss (ns x (kS s x d b p)) p)))=0)
     (λk4=>ae [tB 59 (aV k4)]<|rQ (ib (qJ (ns x (kS s x d b p)) (Ak (ss (ns x (kS s x d b p)) p)))) (ib (lO s x d b p)) (by unfold lO;rw[aZ hi];simp[k1,k2,k3,Tw.1 k4]))
     (λk4=>ae [tB 59 (aU k4)]<|rQ (ib (ns x (kS s x d b p))) (ib (lO s x d b p)) (by unfold lO;rw[aZ hi];simp[k1,k2,k3,show ¬rV _ _=true from λq=>k4 (Tw.2 q)])))
    (λk3=>ae [tB 50 (aY k3)]<|rQ (ib (ns x (kS s x d b p))) (ib (lO s x d b p)) (by unfold lO;rw[aZ hi];simp[k1,k2,k3]))))
  (λk1=>ae [tB 35 (aW k1)]<|rQ (ib (ns x (kS s x d b p))) (ib (lO s x d b p)) (by unfold lO;rw[aZ hi];simp[k1]))) 
def H8(s:jc)(x:List Iv)(d:Dy)(b:List Iv)(p:Nat)(h:kz s)(hx:jh s.iy x)(hd:d.ij)(h0:0<d.iM)(hb:jh s.iy b)(il:8<=p)(ig:p<=512):gW 124 [iV s,ib x,ie d,ib b,iP p] (ib (lO s x d b p)):=by
 by_cases hi:(kS s x d b p)=[]
 .have:=anq s x d b p h hx hd h0 hb il ig hi;unfold lO;rw[a6 hi];exact this.jQ (.nil _ _ _)
 .exact anr s x d b p h hx hd h0 hb il ig hi
def SE(s:jc)(x:List Iv)(d:Dy)(p:Nat)(h:kz s)(hx:jh s.iy x)(hd:d.ij)(h0:0<d.iM)(il:8<=p)(ig:p<=512)(N:Nat)(mQ:N<24)(je:∀ k:Nat,k<N->qH s x d p ((k:Int)-20)=false)(hN:qH s x d p ((N:Int)-20)=true):gW 43 [iV s,ib x,ie d,iP p] (.ix [ib (qJ x (oj ((N:Int)-20))),iP 0]):=
 ak call43 func43 (af [.c (Cb s x d p h hx hd h0 il ig),.s (Sp.jC (Sv s x d p N) 0 N aC (λk hk D7=>by
    exact iF (af [tT 23 ((k:Int)<24) aC,iz ((k:Int)-20) aC,ag [iP ((k:Int)-20),(.iQ 1 λj_=>[ib x].getD j_ .any),(.iQ 5 λj_=>[iP s.tape.im,kU s.tape.gZ,kT s.tape.iu,iP s.iy,ib s.params].getD j_ .any),(.iQ 3 λj_=>[bP d.neg,ic (gY d.m),iP d.e].getD j_ .any),(.iQ 1 λj_=>[iP p].getD j_ .any)] (Fg _ _ _ _ h hx hd h0 il ig _ aC aC),ai 31 (qH s x d p ((k:Int)-20)) (je k aC),iz ((k:Int)+1) aC]) aF)
  (λhk=>by
    exact iF (af [tT 23 ((N:Int)<24) aC,iz ((N:Int)-20) aC,ag [iP ((N:Int)-20),(.iQ 1 λj_=>[ib x].getD j_ .any),(.iQ 5 λj_=>[iP s.tape.im,kU s.tape.gZ,kT s.tape.iu,iP s.iy,ib s.params].getD j_ .any),(.iQ 3 λj_=>[bP d.neg,ic (gY d.m),iP d.e].getD j_ .any),(.iQ 1 λj_=>[iP p].getD j_ .any)] (Fg _ _ _ _ h hx hd h0 il ig _ aC aC),ah 31 (qH s x d p ((N:Int)-20)) hN]) aF) aI:jA 5 Tryz.f43 (Sv s x d p N 0) .ret ⟨55,true,[(9,.e (iP 0)),(8,.e (ib (qJ x (oj ((N:Int)-20)))))],[]⟩) .nil]) 
def adI(s:jc)(x:List Iv)(d:Dy)(p:Nat)(h:kz s)(hx:jh s.iy x)(hd:d.ij)(h0:0<d.iM)(il:8<=p)(ig:p<=512)(je:∀ k:Nat,k<24->qH s x d p ((k:Int)-20)=false)(N:Nat)(mQ:N<10)(ub:∀ j,j<=N->jh s.iy (lK s x d p j))(hw:∀ j,j<N->lO s x d (lK s x d p j) p≠[]/\rJ s x d (lO s x d (lK s x d p j) p) p=false)(hN:lO s x d (lK s x d p N) p=[]):gW 43 [iV s,ib x,ie d,iP p] (.ix [.v (.slice none 0 0),iP 12]):=
 ak call43 func43 (af [.c (Cb s x d p h hx hd h0 il ig),.s (Sp.jC (Sw s x d p) 0 24 aC (λk hk D7=>by
    exact iF (af [tT 23 ((k:Int)<24) aC,iz ((k:Int)-20) aC,ag [iP ((k:Int)-20),(.iQ 1 λj_=>[ib x].getD j_ .any),(.iQ 5 λj_=>[iP s.tape.im,kU s.tape.gZ,kT s.tape.iu,iP s.iy,ib s.params].getD j_ .any),(.iQ 3 λj_=>[bP d.neg,ic (gY d.m),iP d.e].getD j_ .any),(.iQ 1 λj_=>[iP p].getD j_ .any)] (Fg _ _ _ _ h hx hd h0 il ig _ aC aC),ai 31 (qH s x d p ((k:Int)-20)) (je k aC),iz ((k:Int)+1) aC]) aF)
  (λhk=>by
    exact iF (af [ai 23 (decide ((24:Int)<24)) aE]) aF) aI:jA 5 Tryz.f43 (Sw s x d p 0) (.exit 0) ⟨55,true,[(7,.box 7 0),(6,.box 6 0),(5,.box 5 0),(4,.box 4 0)],[(7,.cells 3 [iP p]),(6,.cells 31 (jq d)),(5,.cells 26 [ib x]),(4,.cells 28 [iP s.tape.im,kU s.tape.gZ,kT s.tape.iu,iP s.iy,ib s.params])]⟩) .nil,.s (Sp.jC (Sz s x d p N) 0 N aC (λj hj Ur=>by
    have y6:=ub j aC;obtain⟨jl,Gb⟩:=hw j aC;have kK:=Dl hx (aC:1<=p) (aC:p<=4096) jl;exact iF (ae [tT 37 ((j:Int)<10) aC,.c (H8 s x d (lK s x d p j) p h hx hd h0 y6 il ig),ai 46 (((lO s x d (lK s x d p j) p).length:Int)==0) (yg jl),.c (Cs s x d (lO s x d (lK s x d p j) p) p h hx hd h0 kK il ig),ai 52 (rJ s x d (lO s x d (lK s x d p j) p) p) Gb,iz ((j:Int)+1) aC]<|.e (af [.o 14 (.e (.iT rfl):aj (ib (lO s x d (lK s x d p j) p)) (ib (lK s x d p (j+1))))])) aF)
  (λhj=>by
    have y6:=ub N (bg _);exact iF (af [tT 37 ((N:Int)<10) aC,.c (H8 s x d (lK s x d p N) p h hx hd h0 y6 il ig),ah 46 (((lO s x d (lK s x d p N) p).length:Int)==0) (by rw[hN];rfl)]) aF) aI:jA 13 Tryz.f43 (Sz s x d p N 0) (.exit 2) ⟨55,true,[],[]⟩) (af [.o 14 (.e (.iT rfl):aj (ib x) (ib (lK s x d p 0)))])]) 
def adG(s:jc)(x:List Iv)(d:Dy)(p:Nat)(h:kz s)(hx:jh s.iy x)(hd:d.ij)(h0:0<d.iM)(il:8<=p)(ig:p<=512)(je:∀ k:Nat,k<24->qH s x d p ((k:Int)-20)=false)(ub:∀ j,j<=10->jh s.iy (lK s x d p j))(hw:∀ j,j<10->lO s x d (lK s x d p j) p≠[]/\rJ s x d (lO s x d (lK s x d p j) p) p=false):gW 43 [iV s,ib x,ie d,iP p] (.ix [.v (.slice none 0 0),iP 12]):=
 ak call43 func43 (af [.c (Cb s x d p h hx hd h0 il ig),.s (Sp.jC (Sx s x d p) 0 24 aC (λk hk D7=>by
    exact iF (af [tT 23 ((k:Int)<24) aC,iz ((k:Int)-20) aC,ag [iP ((k:Int)-20),(.iQ 1 λj_=>[ib x].getD j_ .any),(.iQ 5 λj_=>[iP s.tape.im,kU s.tape.gZ,kT s.tape.iu,iP s.iy,ib s.params].getD j_ .any),(.iQ 3 λj_=>[bP d.neg,ic (gY d.m),iP d.e].getD j_ .any),(.iQ 1 λj_=>[iP p].getD j_ .any)] (Fg _ _ _ _ h hx hd h0 il ig _ aC aC),ai 31 (qH s x d p ((k:Int)-20)) (je k aC),iz ((k:Int)+1) aC]) aF)
  (λhk=>by
    exact iF (af [ai 23 (decide ((24:Int)<24)) aE]) aF) aI:jA 5 Tryz.f43 (Sx s x d p 0) (.exit 0) ⟨55,true,[(7,.box 7 0),(6,.box 6 0),(5,.box 5 0),(4,.box 4 0)],[(7,.cells 3 [iP p]),(6,.cells 31 (jq d)),(5,.cells 26 [ib x]),(4,.cells 28 [iP s.tape.im,kU s.tape.gZ,kT s.tape.iu,iP s.iy,ib s.params])]⟩) .nil,.s (Sp.jC (SA s x d p) 0 10 aC (λj hj Ur=>by
    have y6:=ub j aC;obtain⟨jl,Gb⟩:=hw j aC;have kK:=Dl hx (aC:1<=p) (aC:p<=4096) jl;exact iF (ae [tT 37 ((j:Int)<10) aC,.c (H8 s x d (lK s x d p j) p h hx hd h0 y6 il ig),ai 46 (((lO s x d (lK s x d p j) p).length:Int)==0) (yg jl),.c (Cs s x d (lO s x d (lK s x d p j) p) p h hx hd h0 kK il ig),ai 52 (rJ s x d (lO s x d (lK s x d p j) p) p) Gb,iz ((j:Int)+1) aC]<|.e (af [.o 14 (.e (.iT rfl):aj (ib (lO s x d (lK s x d p j) p)) (ib (lK s x d p (j+1))))])) aF)
  (λhj=>by
    exact iF (af [ai 37 (decide ((10:Int)<10)) aE]) aF) aI:jA 13 Tryz.f43 (SA s x d p 0) (.exit 2) ⟨55,true,[],[]⟩) (af [.o 14 (.e (.iT rfl):aj (ib x) (ib (lK s x d p 0)))])]) 
def Aj:Iv:=⟨ju,ju,false⟩
def Po:Aj.ij:=.inr ⟨rfl,rU,rU,aL⟩
abbrev jY(n:Nat):Iv:=j9 (iW (n:Int))
def mq(p:Nat)(T:Nat->Iv)(a:Nat):Nat->Iv
 | 0=>T a
 |n+1=>jf (mq p T a n) (T (a+n+1)) p
def pI(p:Nat)(s:Iv)(T:Nat->Iv)(a:Nat):Nat->Iv
 | 0=>s
 |n+1=>rP (pI p s T a n) (T (a+n)) p
def oc(x:Iv)(k:Nat):List Iv:=x::List.replicate k Aj
structure kI(n:Nat)(a:List Iv):Prop where
 len:a.length=n
 ok:mu a
def kR(f:Nat->Iv)(n:Nat):List Iv:=(List.range n).map f
def Dt(a b:List Iv)(p:Nat):List Iv:=kR (λi=>jf (a.getD i ia) (b.getD i ia) p) a.length
def EU(a b:List Iv)(p:Nat):List Iv:=kR (λi=>rP (a.getD i ia) (b.getD i ia) p) a.length
def Ew(a:List Iv):List Iv:=kR (λi=>qe (a.getD i ia)) a.length
def sY(a b:List Iv)(p:Nat):List Iv:=kR (λk=>mq p (λi=>iD (a.getD i ia) (b.getD (k-i) ia) p) 0 k) a.length
def jb(f:Nat->List Iv->Iv):Nat->List Iv
 | 0=>[]
 |k+1=>jb f k++[f k (jb f k)]
def rD(a b:List Iv)(p k:Nat)(out:List Iv):Iv:=jv (pI p (a.getD k ia) (λi=>iD (out.getD i ia) (b.getD (k-i) ia) p) 0 k) (b.getD 0 ia) p
def AO(a b:List Iv)(p:Nat):List Iv:=jb (rD a b p) a.length
def pz(a:List Iv)(p:Nat):Nat->List Iv
 | 0=>a
 |k+1=>sY (pz a p k) a p
def EH(a:List Iv)(n p:Nat):List Iv:=if n=0 then kR (λi=>iD (jY 0) (a.getD i ia) p) a.length else pz a p (n-1)
def s9(a:List Iv)(n p:Nat):List Iv:=(EH a n p).set 0 (kZ (a.getD 0 ia) n p)
noncomputable def qv(a:List Iv)(p k:Nat)(out:List Iv):Iv:=
 if k=0 then uN (a.getD 0 ia) p else jv (mq p (λi=>iD (iD (jY i) (a.getD i ia) p) (out.getD (k-i) ia) p) 1 (k-1)) (jY k) p
noncomputable def AS(a:List Iv)(p:Nat):List Iv:=jb (qv a p) a.length
def rL(a out:List Iv)(p k:Nat):Nat->Iv
 | 0=>jY 0
 |n+1=>jf (rL a out p k n) (iD (iD (jY (n+1)) (out.getD (n+1) ia) p) (a.getD (k-(n+1)) ia) p) p
noncomputable def na(a:List Iv)(p k:Nat)(out:List Iv):Iv:=
 if k=0 then uO (a.getD 0 ia) p else jv (rP (a.getD k ia) (jv (rL a out p k (k-1)) (jY k) p) p) (a.getD 0 ia) p
noncomputable def Ep(a:List Iv)(p:Nat):List Iv:=jb (na a p) a.length
def rk(a:List Iv)(p k:Nat)(f:List Iv):Iv:=jv (mq p (λi=>iD (iD (jY i) (a.getD i ia) p) (f.getD (k-i) ia) p) 1 (k-1)) (jY k) p
noncomputable def lZ(a:List Iv)(p:Nat):Nat->List Iv×List Iv
 | 0=>([uP (a.getD 0 ia) p],[uM (a.getD 0 ia) p])
 |k+1=>((lZ a p k).1++[rk a p (k+1) (lZ a p k).2],(lZ a p k).2++[qe (rk a p (k+1) (lZ a p k).1)])
noncomputable def oi(a:List Iv)(p k:Nat)(out:List Iv):Iv:=
 if k=0 then pL (a.getD 0 ia) p else jv (pI p (a.getD k ia) (λi=>iD (out.getD i ia) (out.getD (k-i) ia) p) 1 (k-1)) (mh (pL (a.getD 0 ia) p) 1) p
noncomputable def BL(a:List Iv)(p:Nat):List Iv:=jb (oi a p) a.length
noncomputable def nA(o:ng)(a b:List Iv)(p:Nat):List Iv:=
 if o.kind=3 then Dt a b p else if o.kind=4 then EU a b p else if o.kind=5 then sY a b p else if o.kind=6 then AO a b p
 else if o.kind=7 then Ew a else if o.kind=8 then s9 a o.n p else if o.kind=9 then AS a p else if o.kind=10 then Ep a p
 else if o.kind=11 then(lZ a p (a.length-1)).1 else if o.kind=12 then(lZ a p (a.length-1)).2 else if o.kind=13 then BL a p else[]
noncomputable def rj(o:ng)(l:List (List Iv))(k p:Nat):List Iv:=if o.kind=1 then oc (rp o.cn o.cd p) k else nA o (l.getD o.a []) (l.getD (if xG o then o.b else o.a) []) p
noncomputable def iR(gZ:List ng)(im:List (List Iv))(k p:Nat):Nat->List (List Iv)
 | 0=>im
 |i+1=>iR gZ im k p i++[rj (gZ.getD i iE) (iR gZ im k p i) k p]
noncomputable def rF(t:pX)(im:List (List Iv))(k p:Nat):List (List Iv):=t.iu.map λj=>(iR t.gZ im k p t.gZ.length).getD j []
def qR(s:jc)(x:List (List Iv))(k:Nat):List (List Iv):=x.map (λc=>c.take (k+1))++s.params.map λa=>oc a k
noncomputable def CZ(s:jc)(x:List (List Iv))(p n i:Nat):Iv:=jv (((rF s.tape (qR s x n) n p).getD i []).getD n ia) (jY (n+1)) p
noncomputable def iU(s:jc)(x:List Iv)(p:Nat):Nat->List (List Iv)
 | 0=>x.map λy=>[y]
 |n+1=>(List.range x.length).map λi=>(iU s x p n).getD i []++[CZ s (iU s x p n) p n i]
def mu.nil:mu []:=λ_=>mi
def getD_map{α:Type}{n i:Nat}{f:Nat->α}{d:α}(h:i<n):((List.range n).map f).getD i d=f i:=by simp[bh,h]
def DQ{f:Nat->Iv}{n i:Nat}(h:i<n):(kR f n).getD i ia=f i:=getD_map h
def wT(f:Nat->Iv)(n:Nat):(kR f n).length=n:=by simp[kR]
def FR{f:Nat->Iv}{n:Nat}(h:∀ i,i<n->(f i).ij):kI n (kR f n):=⟨wT _ _,λi=>by
 by_cases hi:i<n
 .rw [DQ hi];exact h i hi
 .rw [bh,cj (by rw[wT];omega)];exact mi⟩
def yB(f:Nat->List Iv->Iv):∀ n,(jb f n).length=n
 | 0=>rfl
 |n+1=>by simp[jb,yB f n]
def BA{f:Nat->List Iv->Iv}(n:Nat)(h:∀ k l,k<n->kI k l->(f k l).ij):kI n (jb f n):=by
 induction n with
 |zero=>exact⟨rfl,mu.nil⟩
 |succ n ih=>
  have:=ih λk l hk=>h k l aC 
  exact⟨yB _ _,this.ok.push (h n _ aC this)⟩
def anL(k:Nat):mu (List.replicate k Aj):=λi=>by
 rw[bh,eP];split
 .exact Po
 .exact mi
def RX{x:Iv}(hx:x.ij)(k:Nat):kI (k+1) (oc x k):=⟨by simp[oc],(mu.push mu.nil hx).append (anL k)⟩
def yF(n:Nat)(h:n<4294967296):(jY n).ij:=s8 (Ej n h)
section
variable {p:Nat} (hp:1<=p) (ig:p<=4096)
include hp ig
def PI{x y:Iv}(hx:x.ij)(hy:y.ij):(rP x y p).ij:=qG hx (CY hy) hp ig
def Ho{T:Nat->Iv}{a:Nat}:∀ n,(∀ i,a<=i->i<=a+n->(T i).ij)->(mq p T a n).ij
 | 0,h=>h a (bg _) (bg _)
 |n+1,h=>qG (Ho n λi h1 h2=>h i h1 aC) (h _ aC aC) hp ig
def J2{s:Iv}(hs:s.ij){T:Nat->Iv}{a:Nat}:∀ n,(∀ i,a<=i->i<a+n->(T i).ij)->(pI p s T a n).ij
 | 0,_=>hs
 |n+1,h=>PI hp ig (J2 hs n λi h1 h2=>h i h1 aC) (h _ aC aC)
def aav{n:Nat}{a b:List Iv}(ha:kI n a)(hb:kI n b):kI n (Dt a b p):=ha.len▸FR λi _=>qG (ha.ok i) (hb.ok i) hp ig
def al8{n:Nat}{a b:List Iv}(ha:kI n a)(hb:kI n b):kI n (EU a b p):=ha.len▸FR λi _=>PI hp ig (ha.ok i) (hb.ok i)
end
def aik{n:Nat}{a:List Iv}(ha:kI n a):kI n (Ew a):=ha.len▸FR λi _=>CY (ha.ok i)
section
variable {p:Nat} (hp:1<=p) (ig:p<=4096)
include hp ig
def Wn{n:Nat}{a:List Iv}(ha:kI n a)(b:List Iv):kI n (sY a b p):=ha.len▸FR λi _=>Ho hp ig _ λ_ _ _=>nV _ _ hp ig
def adb{n:Nat}{a:List Iv}(ha:kI n a)(b:List Iv):kI n (AO a b p):=ha.len▸BA _ λ_ _ _ _=>qI _ _ hp ig
def Of{n:Nat}{a:List Iv}(ha:kI n a):∀ k,kI n (pz a p k)
 | 0=>ha
 |k+1=>Wn hp ig (Of ha k) a
def ai6{n:Nat}{a:List Iv}(ha:kI n a)(k:Nat):kI n (EH a k p):=by
 unfold EH;split
 .exact ha.len▸FR λi _=>nV _ _ hp ig
 .exact Of hp ig ha _
end
def kI.set{n:Nat}{a:List Iv}(ha:kI n a)(i:Nat){x:Iv}(hx:x.ij):kI n (a.set i x):=⟨by simp[ha.len],λj=>by
 rw[bh,aoC];split
 .split
  .exact hx
  .exact mi
 .have:=ha.ok j;rwa[bh]at this⟩
section
variable {p:Nat} (hp:1<=p) (ig:p<=4096)
include hp ig
def ai7{n:Nat}{a:List Iv}(ha:kI n a)(k:Nat):kI n (s9 a k p):=(ai6 hp ig ha k).set 0 (Kr (ha.ok 0) k hp ig)
def adZ{n:Nat}{a:List Iv}(ha:kI n a):kI n (AS a p):=ha.len▸BA _ λk l _ _=>by
 unfold qv;split
 .exact Mm _ _
 .exact qI _ _ hp ig
def ahD{n:Nat}{a:List Iv}(ha:kI n a):kI n (Ep a p):=ha.len▸BA _ λk l _ _=>by
 unfold na;split
 .exact Mn _ _
 .exact qI _ _ hp ig
def alW{n:Nat}{a:List Iv}(ha:kI n a):kI n (BL a p):=ha.len▸BA _ λk l _ _=>by
 unfold oi;split
 .exact FM _ _
 .exact qI _ _ hp ig
def OJ(a f:List Iv)(k:Nat):(rk a p k f).ij:=qI _ _ hp ig
def Hf(a:List Iv):∀ k,kI (k+1) (lZ a p k).1/\kI (k+1) (lZ a p k).2
 | 0=>⟨⟨rfl,mu.push mu.nil (SZ _ _)⟩,⟨rfl,mu.push mu.nil (SV _ _)⟩⟩
 |k+1=>by
  obtain⟨h1,h2⟩:=Hf a k;exact⟨⟨by simp[lZ,h1.len],h1.ok.push (OJ hp ig _ _ _)⟩,⟨by simp[lZ,h2.len],h2.ok.push (CY (OJ hp ig _ _ _))⟩⟩
def aaB(o:ng){n:Nat}{a b:List Iv}(ha:kI (n+1) a)(hb:kI (n+1) b)(hk:3<=o.kind)(wZ:o.kind<=13):kI (n+1) (nA o a b p):=by
 have hl:a.length-1+1=n+1:=by rw[ha.len];rfl
 unfold nA;split
 .exact aav hp ig ha hb
 split
 .exact al8 hp ig ha hb
 split
 .exact Wn hp ig ha b
 split
 .exact adb hp ig ha b
 split
 .exact aik ha
 split
 .exact ai7 hp ig ha _
 split
 .exact adZ hp ig ha
 split
 .exact ahD hp ig ha
 split
 .exact hl▸(Hf hp ig a _).1
 split
 .exact hl▸(Hf hp ig a _).2
 split
 .exact alW hp ig ha
 .omega
def vI(n:Nat)(l:List (List Iv)):Prop:=∀ i,i<l.length->kI n (l.getD i [])
end
def vI.push{n:Nat}{l:List (List Iv)}(h:vI n l){y:List Iv}(hy:kI n y):vI n (l++[y]):=λi hi=>by
 rw[bh,dM];split
 .rename_i h1;have:=h i h1;rwa[bh]at this
 .obtain rfl:i=l.length:=by simp at hi;omega
  simpa using hy
section
variable {p:Nat} (hp:1<=p) (ig:p<=4096)
include hp ig
end
def Hd{p:Nat}(gZ:List ng)(im:List (List Iv))(k:Nat):∀ i,(iR gZ im k p i).length=im.length+i
 | 0=>rfl
 |i+1=>by simp only[iR,cg,Hd gZ im k i,cQ,aot];omega
section
variable {p:Nat} (hp:1<=p) (ig:p<=4096)
include hp ig
def aiy{o:ng}{m n:Nat}(h:nZ o m){l:List (List Iv)}(hl:vI (n+1) l)(hm:l.length=m):kI (n+1) (rj o l n p):=by
 have h3:=h.k3;have ha:=h.a;have hb:=h.b;unfold rj;split
 .exact RX (Pk _ _ hp ig) n
 .rename_i hk;rw[aZ hk]at ha;refine aaB hp ig o (hl _ aC) (hl _ ?_) (h3.resolve_left hk) h.xm;unfold xG;by_cases h6:o.kind<=6
  .rw [a6 ⟨h3.resolve_left hk,h6⟩]at hb;simp only[h6,fD,bB];omega
  .simp only[h6,gO,bE,bn];omega
def KJ{t:pX}(h:yM t){im:List (List Iv)}{n:Nat}(hi:vI (n+1) im)(hl:im.length=t.im):∀ i,i<=t.gZ.length->vI (n+1) (iR t.gZ im n p i)
 | 0,_=>hi
 |i+1,hle=>(KJ h hi hl i aC).push (aiy hp ig (h.op i aC) (KJ h hi hl i aC) (by rw[Hd,hl]))
def ael{t:pX}(h:yM t){im:List (List Iv)}{n:Nat}(hi:vI (n+1) im)(hl:im.length=t.im):vI (n+1) (rF t im n p):=λi iB=>by
 unfold rF at iB ⊢;have Nh:i<t.iu.length:=by simpa using iB
 have:=h.out i Nh;rw[bh,b6,bu Nh];rw[bh,bu Nh]at this;exact KJ hp ig h hi hl _ (bg _) _ (by rw[Hd,hl];exact this)
end
def QB(m:List (List Iv))(x:Nat):PS:=⟨29,true,[(7,.e (iP x)),(6,.e (iP m.length)),(5,.e (kN m)),(0,.e (kN m))],[]⟩
def YM(p:Nat)(z:Int)(g:FuncId)(cap:List E)(T:Nat->Iv)(A:Nat)(x:Nat):PS:=⟨28,true,[(10,.e (iP ((A+x+1:Nat):Int))),(9,.box 9 0),(8,.box 8 0),(1,.e (iP z)),(2,.e (iP p)),(3,.e (.fn g cap))],[(9,.cells 39 (iJ (mq p T A x))),(8,.cells 39 au)]⟩
def Yx(p:Nat)(z:Int)(g:FuncId)(cap:List E)(s:Iv)(T:Nat->Iv)(A:Nat)(x:Nat):PS:=⟨25,true,[(11,.e (iP ((A+x:Nat):Int))),(10,.box 10 0),(5,.box 5 0),(2,.e (iP z)),(3,.e (iP p)),(4,.e (.fn g cap))],[(10,.cells 39 au),(5,.cells 39 (iJ (pI p s T A x)))]⟩
def Ys(a b:List Iv)(g:FuncId)(cap:List E)(T:Nat->Iv)(x:Nat):PS:=⟨37,true,[(19,.e (iP x)),(18,.e (iP a.length)),(7,.own 16),(0,.e (ib a)),(1,.e (ib b)),(2,.e (.fn g cap))],[(16,.row true 39 x 7 (iK (kR T x)))]⟩
def YC(a b:List Iv)(p:Nat)(x:Nat):PS:=⟨31,true,[(19,.e (iP x)),(18,.e (iP a.length)),(7,.own 16),(5,.box 5 0),(4,.box 4 0),(3,.box 3 0)],[(16,.row true 39 x 7 (iK (kR (λk=>mq p (λi=>iD (a.getD i ia) (b.getD (k-i) ia) p) 0 k) x))),(5,.cells 3 [iP p]),(4,.cells 26 [ib b]),(3,.cells 26 [ib a])]⟩
def Yr(a b:List Iv)(p:Nat)(x:Nat):PS:=⟨43,true,[(20,.e (iP x)),(19,.e (iP a.length)),(7,.nm 7 1 0 0),(5,.box 5 0),(4,.box 4 0),(0,.e (ib a))],[(7,.jH true 26 39 1 7 (λ_=>x) (λ_=>iK (jb (rD a b p) x)) .none),(5,.cells 3 [iP p]),(4,.cells 26 [ib b])]⟩
def vJ(m:List (List Iv))(n:Nat)(tD:1<=n)(hn:n<=17)(hl:m.length<=100)(hm:∀ i,i<m.length->(m.getD i []).length=n):gW 213 [kN m] (bP true):=
 ak call213 func213 (af [.s (Sp.jC (QB m) 0 m.length aC (λx hx k0=>by
    have e1:=hm x aC;have e0:=hm 0 aC;exact iF (af [tT 8 ((x:Int)<m.length) aC,iX (x:Int) (m.length) aC,tF 13 (((m.getD x []).length:Int)<1) aC,tF 17 (17<((m.getD x []).length:Int)) aC,
     iX 0 (m.length) aC,ai 26 (((m.getD x []).length:Int) != ((m.getD 0 []).length:Int)) (zY aC),iz ((x:Int)+1) aC]) aF)
  (λhx=>by
    exact iF (af [tF 8 ((m.length:Int)<m.length) aC]) aF) aI:jA 2 f213 (QB m 0) (.exit 0) ⟨29,true,[],[]⟩) .nil]) 
def AB{a:List Iv}{n:Nat}(ha:a.length=n)(i:Nat)(hi:i<[a].length):([a].getD i []).length=n:=by
 obtain rfl:i=0:=by simp at hi;omega
 exact ha
def Is{a b:List Iv}{n:Nat}(ha:a.length=n)(hb:b.length=n)(i:Nat)(hi:i<[a,b].length):([a,b].getD i []).length=n:=by
 rcases i with _|_|i
 .exact ha
 .exact hb
 .simp at hi;omega
def Bn(a:List Iv):E.le (.sl true 1 1 λi j=>[ib a].getD (i*1+j) (.v (.bool false))) (kN [a]):=.sl λi j hi hj=>by
 obtain rfl:i=0:= aC ;obtain rfl:j=0:= aC ;exact⟨.iT rfl,rfl⟩
def Mx{T i n:Nat}{f:Nat->Iv}{y:Iv}(hn:n=i)(hy:y=f i):
 Bx.le (.row true T (n+[y].length) 7 λa j=>if a<n then iK (kR f i) a j else(E.kG (ib [y])) (a-n) j) (.row true T (i+1) 7 (iK (kR f (i+1)))):=by
 subst hy;have e:kR f (i+1)=kR f i++[f i]:=by simp[kR,List.range_succ]
 have h:=J0 (T:=T) (n:=n) (xs:=kR f i) (y:=f i) (by rw[wT];exact hn);rw[<-e]at h;have e2:(kR f (i+1)).length=i+1:=wT _ _;rw[e2]at h;exact h
def ajG{T i n:Nat}{f:Nat->List Iv->Iv}{y:Iv}(hn:n=i)(hy:y=f i (jb f i)):
 Bx.le (.row true T (n+[y].length) 7 λa j=>if a<n then iK (jb f i) a j else(E.kG (ib [y])) (a-n) j) (.row true T (i+1) 7 (iK (jb f (i+1)))):=by
 subst hy;have h:=J0 (T:=T) (n:=n) (xs:=jb f i) (y:=f i (jb f i)) (by rw[yB];exact hn);have e2:(jb f i++[f i (jb f i)]).length=i+1:=yB f (i+1);rw[e2]at h;exact h
def Pd{T:Nat}{el el':Nat->Nat->E}:Bx.le (.row true T 0 7 el) (.row true T 0 7 el'):=.row rfl λi j hi=>absurd hi (bj i)
def BE{n:Nat}{xs:List Iv}(h:n=xs.length):E.le (.sl true n 7 (iK xs)) (ib xs):=by subst h;exact .refl _
def ahs(L:List Nat):vH (ic L):=by
 intro bs bs' br w v h hv;cases hv with
 |sl _ _ _ _ A c f hc hm h0 hl hr cell k=>
  refine .sl _ _ _ _ A c f hc hm h0 hl hr (λi j hi hj=>?_) (λi j hi hj=>?_)
  .obtain ⟨b,o,e,hb,iB,ke⟩:=cell i j hi hj;refine⟨b,o,e,λhx=>?_,iB,ke⟩;rcases h b hx with q|q
   .exact hb q
   .have e:=iC.kC (k i j hi hj);rw[e]at ke;exact q _ _ ke
  .have e:=iC.kC (k i j hi hj);rw[e];exact .v _
def aht(x:Value):vH (.v x):=λbs bs' br w v _ hv=>(iC.kC hv) ▸ .v _
def VT(x:Iv)(j:Nat)(hj:j<7):vH ((iJ x).getD j .any):=by
 rcases j with _|_|_|_|_|_|_|j
 all_goals first|exact aht _|exact ahs _|omega
def GA(x:Iv):vH (ik x):=by
 intro bs bs' br w v h hv;obtain⟨vs,rfl,hr⟩:=hv.BV;refine ki.agg ⟨hr.len,λi p y hp hy=>?_⟩;have hi:i<7:=by
  rcases fQ i 7 with q|q
  .exact q
  .rw [cj (by exact q)]at hp;cases hp
 have hq:=VT x i hi bs bs' br w y h;rw[bh,hp]at hq;exact hq (hr.kH i p y hp hy)
def VU{n:Nat}(xs:List Iv):E9 n 7 (iK xs):=λi j _ hj=>VT _ j hj
def KO(A n p:Nat)(z:Int)(hz:z=((A+n:Nat):Int))(g:FuncId)(cap:List E)(T:Nat->Iv)(hA:A+n<=1000)(il:8<=p)(ig:p<=512)(hT:∀ i,A<=i->i<=A+n->(T i).ij/\gW g (iP (i:Int)::cap) (ik (T i))):gW 306 [iP A,iP z,iP p,.fn g cap] (ik (mq p T A n)):=by
 have v0:=(hT A aC aC).1;exact ak call306 func306 (af [.c ((hT A aC aC).2:gW g ((iP A)::cap) _),iz ((A:Int)+1) aC,.s (Sp.jC (YM p z g cap T A) 0 n aC (λx hx k0=>by
    have v1:=Ho (aC:1<=p) (aC:p<=4096) x λi h1 h2=>(hT i h1 aC).1
    have v2:=(hT (A+x+1) aC aC).1;exact iF (ae [tT 18 (((A+x+1:Nat):Int)<=z) aC,.c ((hT (A+x+1) aC aC).2:gW g ((iP ((A+x+1:Nat):Int))::cap) _),.c (wh (mq p T A x) (T (A+x+1)) p aD aD aC aC),iz (((A+x+1:Nat):Int)+1) aC]<|.e (af [.o 10 (aq (((A+x+1)+1:Nat):Int) ((A+(x+1)+1:Nat):Int) aO),.b 9 (.iT rfl:Bx.le (.cells 39 (iJ (jf (mq p T A x) (T (A+x+1)) p))) (.cells 39 (iJ (mq p T A (x+1)))))])) aF)
  (λhx=>by
    exact iF (af [tF 18 (((A+n+1:Nat):Int)<=z) aC]) aF) aI:jA 3 f306 (YM p z g cap T A 0) (.exit 0) ⟨28,true,[(9,.box 9 0),(8,.box 8 0)],[(9,.cells 39 (iJ (mq p T A n))),(8,.cells 39 au)]⟩) (af [.o 10 (aq ((A+1:Nat):Int) ((A+0+1:Nat):Int) aO),.b 9 (.iT rfl:Bx.le (.cells 39 (iJ (T A))) (.cells 39 (iJ (mq p T A 0))))])]) 
def Yy(s:Iv)(hs:s.ij)(A n p:Nat)(z:Int)(hz:z=((A+n:Nat):Int)-1)(g:FuncId)(cap:List E)(T:Nat->Iv)(hA:A+n<=1000)(il:8<=p)(ig:p<=512)(hT:∀ i,A<=i->i<A+n->(T i).ij/\gW g (iP (i:Int)::cap) (ik (T i))):gW 308 [ik s,iP A,iP z,iP p,.fn g cap] (ik (pI p s T A n)):=
 ak call308 func308 (af [.s (Sp.jC (Yx p z g cap s T A) 0 n aC (λx hx k0=>by
    have v1:=J2 (aC:1<=p) (aC:p<=4096) hs x λi h1 h2=>(hT i h1 aC).1
    have v2:=(hT (A+x) aC aC).1;exact iF (ae [tT 15 (((A+x:Nat):Int)<=z) aC,.c ((hT (A+x) aC aC).2:gW g ((iP ((A+x:Nat):Int))::cap) _),.c (JY (pI p s T A x) (T (A+x)) p aD aD aC aC),
     iz (((A+x:Nat):Int)+1) aC]<|.e (af [.o 11 (aq (((A+x)+1:Nat):Int) ((A+(x+1):Nat):Int) aO),.b 5 (.iT rfl:Bx.le (.cells 39 (iJ (rP (pI p s T A x) (T (A+x)) p))) (.cells 39 (iJ (pI p s T A (x+1)))))])) aF)
  (λhx=>by
    exact iF (af [tF 15 (((A+n:Nat):Int)<=z) aC]) aF) aI:jA 2 f308 (Yx p z g cap s T A 0) (.exit 0) ⟨25,true,[(10,.box 10 0),(5,.box 5 0)],[(10,.cells 39 au),(5,.cells 39 (iJ (pI p s T A n)))]⟩) (af [.o 11 (aq A ((A+0:Nat):Int) aO),.b 5 (.iT rfl:Bx.le (.cells 39 (iJ s)) (.cells 39 (iJ (pI p s T A 0))))])]) 
def BH(n:Nat)(hn:n<4294967296):gW 311 [iP n] (ik (jY n)):=
 ak call311 func311 (af [.c (Fi n aC),.c (ui (iW (n:Int)) (Ej _ aC))]) 
def acQ{x:Iv}{k:Nat}:E.le (.sl true (k+1) 7 λi' j'=>if i'=0/\0<=j'/\j'<0+7 then(iJ x).getD (j'-0) .any else au.getD j' .any) (ib (oc x k)):=by
 have hl:(oc x k).length=k+1:=by simp[oc]
 unfold ib;rw[hl];refine .sl λi j hi hj=>⟨?_,tI _ _ hj⟩
 by_cases h:i=0
 .subst h;rw[a6 ⟨rfl,bV _,aC⟩];exact .iT rfl
 .rw [aZ λq=>h q.1];obtain⟨m,rfl⟩:∃ m,i=m+1:=⟨i-1,aC⟩
  have e:(oc x k).getD (m+1) ia=Aj:=by
   simp only[oc,bh,aop,eP];rw[a6 aC];rfl
  rw[e];have e1:E.le (.v (.slice none 0 0)) (ic (gY 0)):=by rw[oB];exact .nil _ _ _
  rcases j with _|_|_|_|_|_|_|j
  all_goals first|exact e1|exact .refl _|omega
def Yq(x:Iv)(hx:x.ij)(k:Nat)(hk:k<=16):gW 235 [ik x,iP k] (ib (oc x k)):=
 ak call235 func235 (ae [tF 7 ((k:Int)<0) aC,tF 10 (16<(k:Int)) aC,iz ((k:Int)+1) aC,.a (aC:0<=(((k+1:Nat):Int):Int)/\(((k+1:Nat):Int):Int)<=(((k+1:Nat):Int):Int)),.a (aC:((88:Nat):Int)*((k+1:Nat):Int)<=281474976710656/\(((k+1:Nat):Int):Int)<=9223372036854775807),iX 0 (k+1) aC,.a (aC:0<(k+1))]<|rR (ib (oc x k)) (acQ:E.le (.sl true (k+1) 7 (λi' j'=>if i'=0/\0<=j'/\j'<0+7 then[bP x.lo.neg,ic (gY x.lo.m),iP x.lo.e,bP x.hi.neg,ic (gY x.hi.m),iP x.hi.e,bP x.all].getD (j'-0) .any else(λ_ j_=>au.getD j_ .any) i' j')) (ib (oc x k)))) 
def Pv(a b:List Iv)(n:Nat)(h1:1<=n)(nG:n<=17)(ha:a.length=n)(hb:b.length=n)(g:FuncId)(cap:List E)(T:Nat->Iv)(hf:∀ i,i<n->gW g (ik (a.getD i ia)::ik (b.getD i ia)::cap) (ik (T i))):gW 303 [ib a,ib b,.fn g cap] (ib (kR T a.length)):=
 ak call303 func303 (af [.o 11 (.e (Bm _ _):aj (.sl true 2 1 λi_ j_=>[ib a,ib b].getD (i_*1+j_) (.v (.bool false))) (kN [a,b])),.c (vJ [a,b] n aC aC aH (Is aD aD)),.a (aC:0<=(0:Int)/\(0:Int)<=((a.length:Int):Int)),.a (aC:((88:Nat):Int)*(a.length:Int)<=281474976710656/\((a.length:Int):Int)<=9223372036854775807),.s (Sp.jC (Ys a b g cap T) 0 a.length aC (λx hx k0=>by
    have qy:=oP (T x);exact iF (ae [tT 20 ((x:Int)<a.length) aC,iX (x:Int) (a.length) aC,iX (x:Int) (b.length) aC,.c (hf x aC:gW g ((ik (a.getD x ia))::(ik (b.getD x ia))::cap) _),.o 33 (.e (lh _):aj (.sl true 1 7 λi_ j_=>(iJ (T x)).getD (i_*7+j_) (.v (.bool false))) (ib [T x])),.a (aC:(x+[T x].length)*88<=140737488355328),iz ((x:Int)+1) aC]<|.e (af [.b 16 (Mx rfl rfl:Bx.le (.row true 39 (x+[T x].length) 7 (λi_ j_=>if i_<x then(iK (kR T x)) i_ j_ else(E.kG (ib [T x])) (i_-x) j_)) (.row true 39 (x+1) 7 (iK (kR T (x+1)))))])) aF)
  (λhx=>by
    exact iF (ae [tF 20 ((a.length:Int)<a.length) aC,.z 16]<|.e (af [.o 7 (.e (BE (wT _ _).symm):aj (.sl true a.length 7 (iK (kR T a.length))) (ib (kR T a.length)))])) aF) aI:jA 5 f303 (Ys a b g cap T 0) (.exit 0) ⟨37,true,[(7,.e (ib (kR T a.length)))],[]⟩) (af [.b 16 (Pd:Bx.le (.row true 39 0 7 (λ_ j_=>au.getD j_ .any)) (.row true 39 0 7 (iK (kR T 0))))])]) 
def ald(x y:Iv)(p:Nat)(hx:x.ij)(hy:y.ij)(il:8<=p)(ig:p<=512):gW 304 [ik x,ik y,(.iQ 1 λj_=>[iP p].getD j_ .any)] (ik (jf x y p)):=
 ak call304 func304 (af [.c (wh x y p aD aD aC aC)]) 
def ale(a b:List Iv)(n p:Nat)(h1:1<=n)(nG:n<=17)(ha:kI n a)(hb:kI n b)(il:8<=p)(ig:p<=512):gW 270 [ib a,ib b,iP p] (ib (Dt a b p)):=by
 have la:=ha.len;have lb:=hb.len;exact ak call270 func270 (ae [.c (Pv a b n h1 nG la lb _ _ (λi=>jf (a.getD i ia) (b.getD i ia) p) λi hi=>ald _ _ p (ha.ok i) (hb.ok i) il ig:gW 303 [ib a,ib b,.fn 304 [(.iQ 1 λj_=>[iP p].getD j_ .any)]] _)]<|rR (ib (Dt a b p)) (.iT rfl:E.le (ib (kR (λi=>jf (a.getD i ia) (b.getD i ia) p) a.length)) (ib (Dt a b p)))) 
def alw(x y:Iv)(p:Nat)(hx:x.ij)(hy:y.ij)(il:8<=p)(ig:p<=512):gW 305 [ik x,ik y,(.iQ 1 λj_=>[iP p].getD j_ .any)] (ik (rP x y p)):=
 ak call305 func305 (af [.c (JY x y p aD aD aC aC)]) 
def alx(a b:List Iv)(n p:Nat)(h1:1<=n)(nG:n<=17)(ha:kI n a)(hb:kI n b)(il:8<=p)(ig:p<=512):gW 271 [ib a,ib b,iP p] (ib (EU a b p)):=by
 have la:=ha.len;have lb:=hb.len;exact ak call271 func271 (ae [.c (Pv a b n h1 nG la lb _ _ (λi=>rP (a.getD i ia) (b.getD i ia) p) λi hi=>alw _ _ p (ha.ok i) (hb.ok i) il ig:gW 303 [ib a,ib b,.fn 305 [(.iQ 1 λj_=>[iP p].getD j_ .any)]] _)]<|rR (ib (EU a b p)) (.iT rfl:E.le (ib (kR (λi=>rP (a.getD i ia) (b.getD i ia) p) a.length)) (ib (EU a b p)))) 
def alm(x y:Iv)(hx:x.ij):gW 310 [ik x,ik y] (ik (qe x)):=
 ak call310 func310 (af [.c (JW x aD)]) 
def aln(a:List Iv)(n:Nat)(h1:1<=n)(nG:n<=17)(ha:kI n a):gW 274 [ib a] (ib (Ew a)):=by
 have la:=ha.len;exact ak call274 func274 (ae [.c (Pv a a n h1 nG la la _ _ (λi=>qe (a.getD i ia)) λi hi=>alm _ _ (ha.ok i):gW 303 [ib a,ib a,.fn 310 []] _)]<|rR (ib (Ew a)) (.iT rfl:E.le (ib (kR (λi=>qe (a.getD i ia)) a.length)) (ib (Ew a)))) 
def YB(a b:List Iv)(i k p:Nat)(hi:i<=k)(hk:k<a.length)(Nc:k<b.length)(l17:b.length<=17)(va:mu a)(vb:mu b)(il:8<=p)(ig:p<=512):gW 307 [iP i,(.iQ 1 λj_=>[ib a].getD j_ .any),(.iQ 1 λj_=>[ib b].getD j_ .any),(.iQ 1 λj_=>[iP k].getD j_ .any),(.iQ 1 λj_=>[iP p].getD j_ .any)] (ik (iD (a.getD i ia) (b.getD (k-i) ia) p)):=by
 have v1:=va i;have v2:=vb (k-i);exact ak call307 func307 (af [iX (i:Int) (a.length) aC,iz ((k:Int)-i) aC,.o 14 (aq ((k:Int)-i) ((k-i:Nat):Int) aC),
  iX ((k-i:Nat):Int) (b.length) aC,.c (sC (a.getD i ia) (b.getD (k-i) ia) p aD aD aC aC)]) 
def alk(a b:List Iv)(n p:Nat)(h1:1<=n)(nG:n<=17)(ha:kI n a)(hb:kI n b)(il:8<=p)(ig:p<=512):gW 272 [ib a,ib b,iP p] (ib (sY a b p)):=by
 have la:=ha.len;have lb:=hb.len;exact ak call272 func272 (ae [.o 11 (.e (Bm _ _):aj (.sl true 2 1 λi_ j_=>[ib a,ib b].getD (i_*1+j_) (.v (.bool false))) (kN [a,b])),.c (vJ [a,b] n aC aC aH (Is aD aD)),.a (aC:0<=(0:Int)/\(0:Int)<=((a.length:Int):Int)),.a (aC:((88:Nat):Int)*(a.length:Int)<=281474976710656/\((a.length:Int):Int)<=9223372036854775807),.s (Sp.jC (YC a b p) 0 a.length aC (λx hx k0=>by
    have qy:=oP (mq p (λi=>iD (a.getD i ia) (b.getD (x-i) ia) p) 0 x);exact iF (ae [tT 20 ((x:Int)<a.length) aC,.c (KO 0 x p _ aC _ _ (λi=>iD (a.getD i ia) (b.getD (x-i) ia) p) aC il ig λi h1 h2=>⟨nV _ _ aC aC,YB a b i x p aC aC aC aC ha.ok hb.ok il ig⟩:gW 306 [iP 0,iP x,iP p,.fn 307 [(.iQ 1 λj_=>[ib a].getD j_ .any),(.iQ 1 λj_=>[ib b].getD j_ .any),(.iQ 1 λj_=>[iP x].getD j_ .any),(.iQ 1 λj_=>[iP p].getD j_ .any)]] _),.o 27 (.e (lh _):aj (.sl true 1 7 λi_ j_=>(iJ (mq p (λi=>iD (a.getD i ia) (b.getD (x-i) ia) p) 0 x)).getD (i_*7+j_) (.v (.bool false))) (ib [mq p (λi=>iD (a.getD i ia) (b.getD (x-i) ia) p) 0 x])),.a (aC:(x+[mq p (λi=>iD (a.getD i ia) (b.getD (x-i) ia) p) 0 x].length)*88<=140737488355328),iz ((x:Int)+1) aC]<|.e (af [.b 16 (Mx rfl rfl:Bx.le (.row true 39 (x+[mq p (λi=>iD (a.getD i ia) (b.getD (x-i) ia) p) 0 x].length) 7 (λi_ j_=>if i_<x then(iK (kR (λk=>mq p (λi=>iD (a.getD i ia) (b.getD (k-i) ia) p) 0 k) x)) i_ j_ else(E.kG (ib [mq p (λi=>iD (a.getD i ia) (b.getD (x-i) ia) p) 0 x])) (i_-x) j_)) (.row true 39 (x+1) 7 (iK (kR (λk=>mq p (λi=>iD (a.getD i ia) (b.getD (k-i) ia) p) 0 k) (x+1)))))])) aF)
  (λhx=>by
    exact iF (ae [tF 20 ((a.length:Int)<a.length) aC,.z 16]<|.e (af [.o 7 (.e (BE (wT _ _).symm):aj (.sl true a.length 7 (iK (kR (λk=>mq p (λi=>iD (a.getD i ia) (b.getD (k-i) ia) p) 0 k) a.length))) (ib (kR (λk=>mq p (λi=>iD (a.getD i ia) (b.getD (k-i) ia) p) 0 k) a.length)))])) aF) aI:jA 5 f272 (YC a b p 0) (.exit 0) ⟨31,true,[(7,.e (ib (kR (λk=>mq p (λi=>iD (a.getD i ia) (b.getD (k-i) ia) p) 0 k) a.length)))],[]⟩) (af [.b 16 (Pd:Bx.le (.row true 39 0 7 (λ_ j_=>au.getD j_ .any)) (.row true 39 0 7 (iK (kR (λk=>mq p (λi=>iD (a.getD i ia) (b.getD (k-i) ia) p) 0 k) 0))))])]<|rR (ib (sY a b p)) (.iT rfl:E.le (ib (kR (λk=>mq p (λi=>iD (a.getD i ia) (b.getD (k-i) ia) p) 0 k) a.length)) (ib (sY a b p)))) 
def O4{T1 T0 x:Nat}{f:Nat->List Iv->Iv}{y:Iv}(hy:y=f x (jb f x)):Bx.le (.jH true T1 T0 1 7 (λq=>if q=0 then x+[y].length else x) (λq i j=>if q=0 then(if i<x then iK (jb f x) i j else(E.kG (ib [y])) (i-x) j)else iK (jb f x) i j) none)
 (.jH true T1 T0 1 7 (λ_=>x+1) (λ_=>iK (jb f (x+1))) none):=by
 subst hy;refine .jH rfl (λk hk=>?_) (λk i j hk hi hj=>?_)
 .obtain rfl:k=0:= aC ;rfl
 .obtain rfl:k=0:= aC ;refine⟨.iT ?_,tI _ _ hj⟩;rw[a6 rfl];have hi:i<x+1:=hi;by_cases h:i<x
  .rw [a6 h];show(iJ ((jb f x).getD i ia)).getD j .any=(iJ ((jb f x++[f x (jb f x)]).getD i ia)).getD j .any;congr 2;simp[bh,dN (show i<(jb f x).length by rw[yB];exact h)]
  .obtain rfl:i=x:= aC ;rw[aZ h,dp];show(iJ (f i (jb f i))).getD j .any=(iJ ((jb f i++[f i (jb f i)]).getD i ia)).getD j .any;congr 2;have e:=yB f i;simp[bh,e]
def ajE{T1 T0:Nat}{ln:Nat->Nat}{el el':Nat->Nat->Nat->E}(h:∀ k,k<1->ln k=0):Bx.le (.jH true T1 T0 1 7 ln el none) (.jH true T1 T0 1 7 (λ_=>0) el' none):=
 .jH rfl h λk i j hk hi=>by rw[h k hk]at hi;exact absurd hi (bj i)
def alf(out b:List Iv)(i k p m:Nat)(hi:i<m)(hik:i<=k)(Nc:k<b.length)(l17:b.length<=17)(vo:mu out)(vb:mu b)(il:8<=p)(ig:p<=512):gW 309 [iP i,(.iQ 1 λ_=>.sl true m 7 (iK out)),(.iQ 1 λj_=>[ib b].getD j_ .any),(.iQ 1 λj_=>[iP k].getD j_ .any),(.iQ 1 λj_=>[iP p].getD j_ .any)] (ik (iD (out.getD i ia) (b.getD (k-i) ia) p)):=by
 have v1:=vo i;have v2:=vb (k-i);exact ak call309 func309 (af [iX (i:Int) m aC,iz ((k:Int)-i) aC,.o 14 (aq ((k:Int)-i) ((k-i:Nat):Int) aC),
  iX ((k-i:Nat):Int) (b.length) aC,.c (sC (out.getD i ia) (b.getD (k-i) ia) p aD aD aC aC)]) 
def alg(a b:List Iv)(n p:Nat)(h1:1<=n)(nG:n<=17)(ha:kI n a)(hb:kI n b)(il:8<=p)(ig:p<=512):gW 273 [ib a,ib b,iP p] (ib (AO a b p)):=by
 have la:=ha.len;have lb:=hb.len;have vb0:=hb.ok 0;exact ak call273 func273 (ae [.o 12 (.e (Bm _ _):aj (.sl true 2 1 λi_ j_=>[ib a,ib b].getD (i_*1+j_) (.v (.bool false))) (kN [a,b])),.c (vJ [a,b] n aC aC aH (Is aD aD)),.a (aC:0<=(0:Int)/\(0:Int)<=((a.length:Int):Int)),.a (aC:((88:Nat):Int)*(a.length:Int)<=281474976710656/\((a.length:Int):Int)<=9223372036854775807),.s (Sp.jC (Yr a b p) 0 a.length aC (λx hx k0=>by
    have qb:kI x (jb (rD a b p) x):=BA x λk l _ _=>qI _ _ aC aC 
    have oz:(λ_:Nat=>x) 0=x:=rfl;have qy:=oP (jv (pI p (a.getD x ia) (λi=>iD ((jb (rD a b p) x).getD i ia) (b.getD (x-i) ia) p) 0 x) (b.getD 0 ia) p);have vls:=J2 (aC:1<=p) (aC:p<=4096) (ha.ok x) (T:=(λi=>iD ((jb (rD a b p) x).getD i ia) (b.getD (x-i) ia) p)) (a:=0) x λ_ _ _=>nV _ _ aC aC 
    exact iF (ae [tT 21 ((x:Int)<a.length) aC,iX (x:Int) (a.length) aC,iz ((x:Int)-1) aC,.c (Yy _ (ha.ok x) 0 x p _ aC _ _ (λi=>iD ((jb (rD a b p) x).getD i ia) (b.getD (x-i) ia) p) aC il ig λi h1 h2=>⟨nV _ _ aC aC,alf _ b i x p _ (aC:i<x) aC aC aC qb.ok hb.ok il ig⟩:gW 308 [ik (a.getD x ia),iP 0,iP ((x:Int)-1),iP p,.fn 309 [(.iQ 1 λ_=>(.sl true ((λ_=>x) 0) 7 ((λ_=>iK (jb (rD a b p) x)) 0))),(.iQ 1 λj_=>[ib b].getD j_ .any),(.iQ 1 λj_=>[iP x].getD j_ .any),(.iQ 1 λj_=>[iP p].getD j_ .any)]] _),.a (GA _:vH (ik (pI p (a.getD x ia) (λi=>iD ((jb (rD a b p) x).getD i ia) (b.getD (x-i) ia) p) 0 x))),.a (aC:0<1),iX 0 (b.length) aC,.c (zL (pI p (a.getD x ia) (λi=>iD ((jb (rD a b p) x).getD i ia) (b.getD (x-i) ia) p) 0 x) (b.getD 0 ia) p aD aD aC aC),.o 39 (.e (lh _):aj (.sl true 1 7 λi_ j_=>(iJ (jv (pI p (a.getD x ia) (λi=>iD ((jb (rD a b p) x).getD i ia) (b.getD (x-i) ia) p) 0 x) (b.getD 0 ia) p)).getD (i_*7+j_) (.v (.bool false))) (ib [jv (pI p (a.getD x ia) (λi=>iD ((jb (rD a b p) x).getD i ia) (b.getD (x-i) ia) p) 0 x) (b.getD 0 ia) p])),.a (aC:0<1),.a (aC:((λ_=>x) 0+[jv (pI p (a.getD x ia) (λi=>iD ((jb (rD a b p) x).getD i ia) (b.getD (x-i) ia) p) 0 x) (b.getD 0 ia) p].length)*88<=140737488355328),.a (rfl:0=0),.a (rfl:0=0),.a (aC:0<1),iz ((x:Int)+1) aC]<|.e (af [.b 7 (O4 rfl:Bx.le (.jH true 26 39 1 7 (λq=>if q=0 then(λ_=>x) q+[jv (pI p (a.getD x ia) (λi=>iD ((jb (rD a b p) x).getD i ia) (b.getD (x-i) ia) p) 0 x) (b.getD 0 ia) p].length else(λ_=>x) q) (λq i j=>if q=0 then(if i<(λ_=>x) q then(λ_=>iK (jb (rD a b p) x)) q i j else(E.kG (ib [jv (pI p (a.getD x ia) (λi=>iD ((jb (rD a b p) x).getD i ia) (b.getD (x-i) ia) p) 0 x) (b.getD 0 ia) p])) (i-(λ_=>x) q) j)else(λ_=>iK (jb (rD a b p) x)) q i j) .none) (.jH true 26 39 1 7 (λ_=>(x+1)) (λ_=>iK (jb (rD a b p) (x+1))) .none))])) aF)
  (λhx=>by
    exact iF (af [tF 21 ((a.length:Int)<a.length) aC]) aF) aI:jA 5 f273 (Yr a b p 0) (.exit 0) ⟨43,true,[(7,.nm 7 1 0 0)],[(7,.jH true 26 39 1 7 (λ_=>a.length) (λ_=>iK (jb (rD a b p) a.length)) .none)]⟩) (af [.b 7 (ajE (λ_ _=>rfl):Bx.le (.jH true 26 39 1 7 (λ_=>0) (λ_=>λ_ j_=>au.getD j_ .any) .none) (.jH true 26 39 1 7 (λ_=>0) (λ_=>iK (jb (rD a b p) 0)) .none))]),.a (aC:0<1)]<|rR (ib (AO a b p)) (BE (xs:=AO a b p) (by unfold AO;rw[yB]):E.le (.sl true ((λ_=>a.length) 0) 7 ((λ_=>iK (jb (rD a b p) a.length)) 0)) (ib (AO a b p)))) 
def YD(a b:List Iv)(p:Nat)(x:Nat):PS:=⟨31,true,[(19,.e (iP x)),(18,.e (iP a.length)),(7,.own 16),(5,.box 5 0),(4,.box 4 0),(3,.box 3 0)],[(16,.row true 39 x 7 (iK (kR (λk=>mq p (λi=>iD (a.getD i ia) (b.getD (k-i) ia) p) 0 k) x))),(5,.cells 3 [iP p]),(4,.cells 26 [ib b]),(3,.cells 26 [ib a])]⟩
def YG(a:List Iv)(p k:Nat)(x:Nat):PS:=⟨71,true,[(39,.e (iP x)),(38,.e (iP a.length)),(7,.own 15),(0,.e (ib a)),(1,.e (iP k)),(2,.e (iP p))],[(15,.row true 39 a.length 7 (iK (kR (λi=>if i<x then(λi=>iD (jY 0) (a.getD i ia) p) i else(λi=>a.getD i ia) i) a.length)))]⟩
def YH(a:List Iv)(p k:Nat)(x:Nat):PS:=⟨71,true,[(55,.e (iP x)),(7,.own 60),(54,.e (iP ((k:Int)-1))),(0,.e (ib a)),(1,.e (iP k)),(2,.e (iP p))],[(60,.row true 39 ((pz a p x).length) 7 (iK (pz a p x)))]⟩
noncomputable def Yv(a:List Iv)(p:Nat)(x:Nat):PS:=⟨43,true,[(6,.box 6 0),(5,.nm 5 1 0 0),(3,.box 3 0),(2,.box 2 0)],[(6,.cells 3 [iP x]),(5,.jH true 26 39 1 7 (λ_=>x) (λ_=>iK (jb (qv a p) x)) .none),(3,.cells 3 [iP p]),(2,.cells 26 [ib a])]⟩
def YE(a b:List Iv)(n p:Nat)(h1:1<=n)(nG:n<=17)(ha:kI n a)(hb:kI n b)(il:8<=p)(ig:p<=512):wL 272 [ib a,ib b,iP p] true 39 a.length 7 (iK (sY a b p)):=by
 have la:=ha.len;have lb:=hb.len;exact ZH call272 func272 (ae [.o 11 (.e (Bm _ _):aj (.sl true 2 1 λi_ j_=>[ib a,ib b].getD (i_*1+j_) (.v (.bool false))) (kN [a,b])),.c (vJ [a,b] n aC aC aH (Is aD aD)),.a (aC:0<=(0:Int)/\(0:Int)<=((a.length:Int):Int)),.a (aC:((88:Nat):Int)*(a.length:Int)<=281474976710656/\((a.length:Int):Int)<=9223372036854775807),.s (Sp.jC (YD a b p) 0 a.length aC (λx hx k0=>by
    have qy:=oP (mq p (λi=>iD (a.getD i ia) (b.getD (x-i) ia) p) 0 x);exact iF (ae [tT 20 ((x:Int)<a.length) aC,.c (KO 0 x p _ aC _ _ (λi=>iD (a.getD i ia) (b.getD (x-i) ia) p) aC il ig λi h1 h2=>⟨nV _ _ aC aC,YB a b i x p aC aC aC aC ha.ok hb.ok il ig⟩:gW 306 [iP 0,iP x,iP p,.fn 307 [(.iQ 1 λj_=>[ib a].getD j_ .any),(.iQ 1 λj_=>[ib b].getD j_ .any),(.iQ 1 λj_=>[iP x].getD j_ .any),(.iQ 1 λj_=>[iP p].getD j_ .any)]] _),.o 27 (.e (lh _):aj (.sl true 1 7 λi_ j_=>(iJ (mq p (λi=>iD (a.getD i ia) (b.getD (x-i) ia) p) 0 x)).getD (i_*7+j_) (.v (.bool false))) (ib [mq p (λi=>iD (a.getD i ia) (b.getD (x-i) ia) p) 0 x])),.a (aC:(x+[mq p (λi=>iD (a.getD i ia) (b.getD (x-i) ia) p) 0 x].length)*88<=140737488355328),iz ((x:Int)+1) aC]<|.e (af [.b 16 (Mx rfl rfl:Bx.le (.row true 39 (x+[mq p (λi=>iD (a.getD i ia) (b.getD (x-i) ia) p) 0 x].length) 7 (λi_ j_=>if i_<x then(iK (kR (λk=>mq p (λi=>iD (a.getD i ia) (b.getD (k-i) ia) p) 0 k) x)) i_ j_ else(E.kG (ib [mq p (λi=>iD (a.getD i ia) (b.getD (x-i) ia) p) 0 x])) (i_-x) j_)) (.row true 39 (x+1) 7 (iK (kR (λk=>mq p (λi=>iD (a.getD i ia) (b.getD (k-i) ia) p) 0 k) (x+1)))))])) aF)
  (λhx=>by
    exact iF (af [tF 20 ((a.length:Int)<a.length) aC]) aF) aI:jA 5 f272 (YD a b p 0) (.exit 0) ⟨31,true,[(7,.own 16)],[(16,.row true 39 a.length 7 (iK (kR (λk=>mq p (λi=>iD (a.getD i ia) (b.getD (k-i) ia) p) 0 k) a.length)))]⟩) (af [.b 16 (Pd:Bx.le (.row true 39 0 7 (λ_ j_=>au.getD j_ .any)) (.row true 39 0 7 (iK (kR (λk=>mq p (λi=>iD (a.getD i ia) (b.getD (k-i) ia) p) 0 k) 0))))])]<|.rb (.refl _:Bx.le (.row true 39 a.length 7 (iK (kR (λk=>mq p (λi=>iD (a.getD i ia) (b.getD (k-i) ia) p) 0 k) a.length))) (.row true 39 a.length 7 (iK (sY a b p))))) aF 
def Px{n:Nat}{xs:List Iv}{y:Iv}(h:n=xs.length):E.le (.sl true n 7 λi' j'=>if i'=0/\0<=j'/\j'<0+7 then(iJ y).getD (j'-0) .any else iK xs i' j') (ib (xs.set 0 y)):=by
 have hl:(xs.set 0 y).length=n:=by simp[h]
 unfold ib;rw[hl];refine .sl λi j hi hj=>⟨?_,tI _ _ hj⟩
 by_cases h0:i=0
 .subst h0;rw[a6 ⟨rfl,bV _,aC⟩];have e:(xs.set 0 y).getD 0 ia=y:=by
   cases xs with
   |nil=>simp at h;omega
   |cons x xs=>rfl
  rw[e];exact .refl _
 .rw [aZ λq=>h0 q.1];have e:(xs.set 0 y).getD i ia=xs.getD i ia:=by
   simp only[bh,aoC,aZ λq:0=i=>h0 q.symm]
  rw[e];exact .refl _
def aly{T n x:Nat}{f g:Nat->Iv}{y:Iv}(hy:y=f x):Bx.le (.row true T n 7 λi' j'=>if i'=x/\0<=j'/\j'<0+7 then(iJ y).getD (j'-0) .any else iK (kR (λi=>if i<x then f i else g i) n) i' j')
 (.row true T n 7 (iK (kR (λi=>if i<x+1 then f i else g i) n))):=.row rfl λi j hi hj=>⟨.iT (by
 subst hy;by_cases h:i=x
 .subst h;rw[a6 ⟨rfl,bV _,aC⟩];show _=(iJ ((kR _ n).getD i ia)).getD j .any;rw[DQ hi,a6 (ew _)];rfl
 .rw [aZ λq=>h q.1];show(iJ ((kR _ n).getD i ia)).getD j .any=(iJ ((kR _ n).getD i ia)).getD j .any;rw[DQ hi,DQ hi];by_cases q:i<x
  .rw [a6 q,a6 aC]
  .rw [aZ q,aZ aC]),tI _ _ hj⟩
def aeI(a:List Iv):kR (λi=>a.getD i ia) a.length=a:=by
 apply fZ (wT _ _);intro i h1 h2;simp[kR,bh,h2]
def aeH{f g:Nat->Iv}{n:Nat}(h:∀ i,i<n->f i=g i):kR f n=kR g n:=by
 unfold kR;exact eH λi hi=>h i (bS.1 hi)
def GI{a:List Iv}{p:Nat}:∀ k,(pz a p k).length=a.length
 | 0=>rfl
 |k+1=>by simp only[pz,sY,wT];exact GI k
def alp(a:List Iv)(n p k:Nat)(h1:1<=n)(nG:n<=17)(ha:kI n a)(il:8<=p)(ig:p<=512)(hk:k<=16)(h0:k=0):gW 275 [ib a,iP k,iP p] (ib (s9 a k p)):=by
 have la:=ha.len;have va0:=ha.ok 0;exact ak call275 func275 (ae [.o 11 (.e (Bn _):aj (.sl true 1 1 λi_ j_=>[ib a].getD (i_*1+j_) (.v (.bool false))) (kN [a])),.c (vJ [a] n aC aC aH (AB aD)),.cn (Fh _ aC aC:wL 63 [ib a] true 39 a.length 7 (iK a)),tF 18 ((k:Int)<0) aC,tF 21 (16<(k:Int)) aC,ah 36 ((k:Int)==0) (aV aC),.s (Sp.jC (YG a p k) 0 a.length aC (λx hx k0=>by
    have vx:=ha.ok x;have v0:=yF 0 aC;exact iF (ae [tT 40 ((x:Int)<a.length) aC,.c (BH 0 aC),iX (x:Int) (a.length) aC,.c (sC (jY 0) (a.getD x ia) p aD aD aC aC),
     iX (x:Int) (a.length) aC,.a (aC:x<a.length),iz ((x:Int)+1) aC]<|.e (af [.b 15 (aly rfl:Bx.le (.row true 39 a.length 7 (λi' j'=>if i'=x/\0<=j'/\j'<0+7 then[bP (((iD (jY 0) (a.getD x ia) p).lo).neg),ic (gY (((iD (jY 0) (a.getD x ia) p).lo).m)),iP (((iD (jY 0) (a.getD x ia) p).lo).e),bP (((iD (jY 0) (a.getD x ia) p).hi).neg),ic (gY (((iD (jY 0) (a.getD x ia) p).hi).m)),iP (((iD (jY 0) (a.getD x ia) p).hi).e),bP ((iD (jY 0) (a.getD x ia) p).all)].getD (j'-0) .any else(iK (kR (λi=>if i<x then(λi=>iD (jY 0) (a.getD i ia) p) i else(λi=>a.getD i ia) i) a.length)) i' j')) (.row true 39 a.length 7 (iK (kR (λi=>if i<(x+1)then(λi=>iD (jY 0) (a.getD i ia) p) i else(λi=>a.getD i ia) i) a.length))))])) aF)
  (λhx=>by
    exact iF (af [tF 40 ((a.length:Int)<a.length) aC]) aF) aI:jA 13 f275 (YG a p k 0) (.exit 3) ⟨71,true,[(7,.own 15),(0,.e (ib a)),(1,.e (iP k)),(2,.e (iP p))],[(15,.row true 39 a.length 7 (iK (kR (λi=>if i<a.length then(λi=>iD (jY 0) (a.getD i ia) p) i else(λi=>a.getD i ia) i) a.length)))]⟩) (af [.b 15 (.iT (by simp only[bj,bn,aeI]):Bx.le (.row true 39 a.length 7 (iK a)) (.row true 39 a.length 7 (iK (kR (λi=>if i<0 then(λi=>iD (jY 0) (a.getD i ia) p) i else(λi=>a.getD i ia) i) a.length))))]),
  iz ((k:Int)-1) aC,.u 2,tF 56 (0<((k:Int)-1)) aC,iX 0 (a.length) aC,ag [ik (a.getD 0 ia),iP k,iP p] (Fk _ _ _ aD aC aC aC),iX 0 (a.length) aC,.a (aC:0<a.length)]<|rR (ib (s9 a k p)) ((Px (wT _ _).symm).trans (.iT (by unfold s9 EH;rw[a6 h0,aeH λi hi=>a6 hi])):E.le (.sl true a.length 7 (λi' j'=>if i'=0/\0<=j'/\j'<0+7 then[bP (((kZ (a.getD 0 ia) k p).lo).neg),ic (gY (((kZ (a.getD 0 ia) k p).lo).m)),iP (((kZ (a.getD 0 ia) k p).lo).e),bP (((kZ (a.getD 0 ia) k p).hi).neg),ic (gY (((kZ (a.getD 0 ia) k p).hi).m)),iP (((kZ (a.getD 0 ia) k p).hi).e),bP ((kZ (a.getD 0 ia) k p).all)].getD (j'-0) .any else(iK (kR (λi=>if i<a.length then(λi=>iD (jY 0) (a.getD i ia) p) i else(λi=>a.getD i ia) i) a.length)) i' j')) (ib (s9 a k p)))) 
def alq(a:List Iv)(n p k:Nat)(h1:1<=n)(nG:n<=17)(ha:kI n a)(il:8<=p)(ig:p<=512)(hk:k<=16)(h0:k=1):gW 275 [ib a,iP k,iP p] (ib (s9 a k p)):=by
 have la:=ha.len;have va0:=ha.ok 0;exact ak call275 func275 (ae [.o 11 (.e (Bn _):aj (.sl true 1 1 λi_ j_=>[ib a].getD (i_*1+j_) (.v (.bool false))) (kN [a])),.c (vJ [a] n aC aC aH (AB aD)),.cn (Fh _ aC aC:wL 63 [ib a] true 39 a.length 7 (iK a)),tF 18 ((k:Int)<0) aC,tF 21 (16<(k:Int)) aC,ai 36 ((k:Int)==0) (aU aC),iz ((k:Int)-1) aC,.u 2,tF 56 (0<((k:Int)-1)) aC,iX 0 (a.length) aC,ag [ik (a.getD 0 ia),iP k,iP p] (Fk _ _ _ aD aC aC aC),iX 0 (a.length) aC,.a (aC:0<a.length)]<|rR (ib (s9 a k p)) ((Px rfl).trans (.iT (by unfold s9 EH;rw[aZ aC,h0];rfl)):E.le (.sl true a.length 7 (λi' j'=>if i'=0/\0<=j'/\j'<0+7 then[bP (((kZ (a.getD 0 ia) k p).lo).neg),ic (gY (((kZ (a.getD 0 ia) k p).lo).m)),iP (((kZ (a.getD 0 ia) k p).lo).e),bP (((kZ (a.getD 0 ia) k p).hi).neg),ic (gY (((kZ (a.getD 0 ia) k p).hi).m)),iP (((kZ (a.getD 0 ia) k p).hi).e),bP ((kZ (a.getD 0 ia) k p).all)].getD (j'-0) .any else(iK a) i' j')) (ib (s9 a k p)))) 
def X1{T n n':Nat}{xs:List Iv}(h:n=n'):Bx.le (.row true T n 7 (iK xs)) (.row true T n' 7 (iK xs)):=.row h λi j _ hj=>⟨.refl _,tI _ _ hj⟩
def alr(a:List Iv)(n p k:Nat)(h1:1<=n)(nG:n<=17)(ha:kI n a)(il:8<=p)(ig:p<=512)(hk:k<=16)(h0:2<=k):gW 275 [ib a,iP k,iP p] (ib (s9 a k p)):=by
 have la:=ha.len;have va0:=ha.ok 0;have D8:=GI (a:=a) (p:=p) (k-1);exact ak call275 func275 (ae [.o 11 (.e (Bn _):aj (.sl true 1 1 λi_ j_=>[ib a].getD (i_*1+j_) (.v (.bool false))) (kN [a])),.c (vJ [a] n aC aC aH (AB aD)),.cn (Fh _ aC aC:wL 63 [ib a] true 39 a.length 7 (iK a)),tF 18 ((k:Int)<0) aC,tF 21 (16<(k:Int)) aC,ai 36 ((k:Int)==0) (aU aC),iz ((k:Int)-1) aC,.u 2,tT 56 (0<((k:Int)-1)) aC,.cn (YE a a n p h1 nG ha ha il ig:wL 272 [.sl true a.length 7 (iK a),ib a,iP p] true 39 a.length 7 (iK (sY a a p))),.a (VU _:E9 a.length 7 (iK (sY a a p))),
  iz (0+1) aC,.k [55,7,54,0,1,2] [60],.s (Sp.jC (YH a p k) 1 (k-1) aC (λx hx k0=>by
    have D8:=GI (a:=a) (p:=p) x;exact iF (ae [tT 56 ((x:Int)<((k:Int)-1)) aC,.cn (YE (pz a p x) a n p h1 nG (Of aC aC ha x) ha il ig:wL 272 [.sl true ((pz a p x).length) 7 (iK (pz a p x)),ib a,iP p] true 39 ((pz a p x).length) 7 (iK (sY (pz a p x) a p))),.a (VU _:E9 ((pz a p x).length) 7 (iK (sY (pz a p x) a p))),iz ((x:Int)+1) aC]<|.e (af [.b 60 (X1 (xs:=(pz a p (x+1))) (by simp only[GI]):Bx.le (.row true 39 ((pz a p x).length) 7 (iK (sY (pz a p x) a p))) (.row true 39 ((pz a p (x+1)).length) 7 (iK (pz a p (x+1)))))])) aF)
  (λhx=>by
    exact iF (af [tF 56 (((k-1:Nat):Int)<((k:Int)-1)) aC]) aF) aI:jA 18 f275 (YH a p k 1) (.exit 5) ⟨71,true,[(7,.own 60),(0,.e (ib a)),(1,.e (iP k)),(2,.e (iP p))],[(60,.row true 39 ((pz a p (k-1)).length) 7 (iK (pz a p (k-1))))]⟩) (af [.o 55 (aq (0+1) 1 aO),.b 60 (X1 (xs:=(pz a p 1)) (by simp only[GI]):Bx.le (.row true 39 a.length 7 (iK (sY a a p))) (.row true 39 ((pz a p 1).length) 7 (iK (pz a p 1))))]),
  iX 0 (a.length) aC,ag [ik (a.getD 0 ia),iP k,iP p] (Fk _ _ _ aD aC aC aC),iX 0 ((pz a p (k-1)).length) aC,.a (aC:0<(pz a p (k-1)).length)]<|rR (ib (s9 a k p)) ((Px rfl).trans (.iT (by unfold s9 EH;rw[aZ aC])):E.le (.sl true ((pz a p (k-1)).length) 7 (λi' j'=>if i'=0/\0<=j'/\j'<0+7 then[bP (((kZ (a.getD 0 ia) k p).lo).neg),ic (gY (((kZ (a.getD 0 ia) k p).lo).m)),iP (((kZ (a.getD 0 ia) k p).lo).e),bP (((kZ (a.getD 0 ia) k p).hi).neg),ic (gY (((kZ (a.getD 0 ia) k p).hi).m)),iP (((kZ (a.getD 0 ia) k p).hi).e),bP ((kZ (a.getD 0 ia) k p).all)].getD (j'-0) .any else(iK (pz a p (k-1))) i' j')) (ib (s9 a k p)))) 
def als(a:List Iv)(n p k:Nat)(h1:1<=n)(nG:n<=17)(ha:kI n a)(il:8<=p)(ig:p<=512)(hk:k<=16):gW 275 [ib a,iP (k:Int),iP (p:Int)] (ib (s9 a k p)):=by
 by_cases h0:k=0
 .exact alp a n p k h1 nG ha il ig hk h0
 by_cases h2:k=1
 .exact alq a n p k h1 nG ha il ig hk h2
 .exact alr a n p k h1 nG ha il ig hk aC 
def Xy{T1 T0:Nat}{f:Nat->List Iv->Iv}{y:Iv}{e0 e1:Nat->Nat->Nat->E}(hy:y=f 0 []):Bx.le (.jH true T1 T0 1 7 (λq=>if q=0 then 0+[y].length else 0) (λq i j=>if q=0 then(if i<0 then e0 q i j else(E.kG (ib [y])) (i-0) j)else e1 q i j) none)
 (.jH true T1 T0 1 7 (λ_=>1) (λ_=>iK (jb f 1)) none):=by
 subst hy;refine .jH rfl (λk hk=>?_) (λk i j hk hi hj=>?_)
 .obtain rfl:k=0:= aC ;rfl
 .obtain rfl:k=0:= aC ;rw[a6 rfl]at hi;have hi:i<0+1:=hi;obtain rfl:i=0:= aC ;exact⟨.iT rfl,tI _ _ hj⟩
def ajF{T:Nat}{f:Nat->List Iv->Iv}{y:Iv}{e:Nat->Nat->E}(hy:y=f 0 []):Bx.le (.row true T (0+[y].length) 7 λa j=>if a<0 then e a j else(E.kG (ib [y])) (a-0) j) (.row true T 1 7 (iK (jb f 1))):=by
 subst hy;refine .row rfl λi j hi hj=>?_
 have hi:i<0+1:=hi;obtain rfl:i=0:= aC ;exact⟨.iT rfl,tI _ _ hj⟩
def alh(a out:List Iv)(i k p m:Nat)(Uj:1<=i)(hi:i<=k)(hk:k<a.length)(hm:k<=m)(l17:a.length<=17)(va:mu a)(vo:mu out)(il:8<=p)(ig:p<=512):gW 313 [iP i,(.iQ 1 λj_=>[ib a].getD j_ .any),(.iQ 1 λj_=>[iP p].getD j_ .any),(.iQ 1 λ_=>.sl true m 7 (iK out)),(.iQ 1 λj_=>[iP k].getD j_ .any)] (ik (iD (iD (jY i) (a.getD i ia) p) (out.getD (k-i) ia) p)):=by
 have v1:=va i;have v2:=vo (k-i);have v3:=yF i aC;have v4:(iD (jY i) (a.getD i ia) p).ij:=nV _ _ aC aC;exact ak call313 func313 (af [.c (BH i aC),iX (i:Int) (a.length) aC,.c (sC (jY i) (a.getD i ia) p aD aD aC aC),iz ((k:Int)-i) aC,.o 18 (aq ((k:Int)-i) ((k-i:Nat):Int) aC),iX ((k-i:Nat):Int) m aC,.c (sC (iD (jY i) (a.getD i ia) p) (out.getD (k-i) ia) p aD aD aC aC)]) 
def ali(a:List Iv)(n p:Nat)(h1:1<=n)(nG:n<=17)(ha:kI n a)(il:8<=p)(ig:p<=512)(hF:uD):gW 276 [ib a,iP p] (ib (AS a p)):=by
 have la:=ha.len;have va0:=ha.ok 0;have px:(λ_:Nat=>(0:Nat)) 0=0:=rfl;have Ux:=oP (uN (a.getD 0 ia) p);exact ak call276 func276 (ae [.o 9 (.e (Bn _):aj (.sl true 1 1 λi_ j_=>[ib a].getD (i_*1+j_) (.v (.bool false))) (kN [a])),.c (vJ [a] n aC aC aH (AB aD)),.a (aC:0<=(0:Int)/\(0:Int)<=((a.length:Int):Int)),.a (aC:((88:Nat):Int)*(a.length:Int)<=281474976710656/\((a.length:Int):Int)<=9223372036854775807),.a (aC:0<1),
  iX 0 (a.length) aC,ag [ik (a.getD 0 ia),iP p] (SW _ aD _ aC aC hF),.o 21 (.e (lh _):aj (.sl true 1 7 λi_ j_=>(iJ (uN (a.getD 0 ia) p)).getD (i_*7+j_) (.v (.bool false))) (ib [uN (a.getD 0 ia) p])),.a (aC:0<1),.a (aC:((λ_=>0) 0+[uN (a.getD 0 ia) p].length)*88<=140737488355328),.a (rfl:0=0),.a (rfl:0=0),.a (aC:0<1),.s (Sp.jC (Yv a p) 1 a.length aC (λx hx k0=>by
    have oz:(λ_:Nat=>x) 0=x:=rfl;have qb:kI x (jb (qv a p) x):=BA x λk l _ _=>by unfold qv;split<;>first|exact Mm _ _|exact qI _ _ aC aC 
    have vs:=Ho (aC:1<=p) (aC:p<=4096) (T:=(λi=>(iD (iD (jY i) (a.getD i ia) p) ((jb (qv a p) x).getD (x-i) ia) p))) (a:=1) (x-1) λ_ _ _=>nV _ _ aC aC 
    have vw:=yF x aC;have qy:=oP (jv (mq p (λi=>(iD (iD (jY i) (a.getD i ia) p) ((jb (qv a p) x).getD (x-i) ia) p)) 1 (x-1)) (jY x) p);exact iF (ae [tT 26 ((x:Int)<a.length) aC,.c (KO 1 (x-1) p _ aC _ _ (λi=>(iD (iD (jY i) (a.getD i ia) p) ((jb (qv a p) x).getD (x-i) ia) p)) aC il ig λi h1 h2=>⟨nV _ _ aC aC,alh a _ i x p _ h1 aC aC aC aC ha.ok qb.ok il ig⟩:gW 306 [iP 1,iP x,iP p,.fn 313 [(.iQ 1 λj_=>[ib a].getD j_ .any),(.iQ 1 λj_=>[iP p].getD j_ .any),(.iQ 1 λ_=>(.sl true ((λ_=>x) 0) 7 ((λ_=>iK (jb (qv a p) x)) 0))),(.iQ 1 λj_=>[iP x].getD j_ .any)]] _),.a (GA _:vH (ik (mq p (λi=>(iD (iD (jY i) (a.getD i ia) p) ((jb (qv a p) x).getD (x-i) ia) p)) 1 (x-1)))),.a (aC:0<1),.c (BH x aC),.c (zL (mq p (λi=>(iD (iD (jY i) (a.getD i ia) p) ((jb (qv a p) x).getD (x-i) ia) p)) 1 (x-1)) (jY x) p aD aD aC aC),.o 39 (.e (lh _):aj (.sl true 1 7 λi_ j_=>(iJ (jv (mq p (λi=>(iD (iD (jY i) (a.getD i ia) p) ((jb (qv a p) x).getD (x-i) ia) p)) 1 (x-1)) (jY x) p)).getD (i_*7+j_) (.v (.bool false))) (ib [jv (mq p (λi=>(iD (iD (jY i) (a.getD i ia) p) ((jb (qv a p) x).getD (x-i) ia) p)) 1 (x-1)) (jY x) p])),.a (aC:0<1),.a (aC:((λ_=>x) 0+[jv (mq p (λi=>(iD (iD (jY i) (a.getD i ia) p) ((jb (qv a p) x).getD (x-i) ia) p)) 1 (x-1)) (jY x) p].length)*88<=140737488355328),.a (rfl:0=0),.a (rfl:0=0),.a (aC:0<1),iz ((x:Int)+1) aC]<|.e (af [.b 5 (O4 (by unfold qv;rw[aZ aC]):Bx.le (.jH true 26 39 1 7 (λq=>if q=0 then(λ_=>x) q+[jv (mq p (λi=>(iD (iD (jY i) (a.getD i ia) p) ((jb (qv a p) x).getD (x-i) ia) p)) 1 (x-1)) (jY x) p].length else(λ_=>x) q) (λq i j=>if q=0 then(if i<(λ_=>x) q then(λ_=>iK (jb (qv a p) x)) q i j else(E.kG (ib [jv (mq p (λi=>(iD (iD (jY i) (a.getD i ia) p) ((jb (qv a p) x).getD (x-i) ia) p)) 1 (x-1)) (jY x) p])) (i-(λ_=>x) q) j)else(λ_=>iK (jb (qv a p) x)) q i j) .none) (.jH true 26 39 1 7 (λ_=>(x+1)) (λ_=>iK (jb (qv a p) (x+1))) .none))])) aF)
  (λhx=>by
    exact iF (af [tF 26 ((a.length:Int)<a.length) aC]) aF) aI:jA 6 f276 (Yv a p 1) (.exit 0) ⟨43,true,[(5,.nm 5 1 0 0)],[(5,.jH true 26 39 1 7 (λ_=>a.length) (λ_=>iK (jb (qv a p) a.length)) .none)]⟩) (af [.b 5 (Xy rfl:Bx.le (.jH true 26 39 1 7 (λq=>if q=0 then(λ_=>0) q+[uN (a.getD 0 ia) p].length else(λ_=>0) q) (λq i j=>if q=0 then(if i<(λ_=>0) q then(λ_=>λ_ j_=>au.getD j_ .any) q i j else(E.kG (ib [uN (a.getD 0 ia) p])) (i-(λ_=>0) q) j)else(λ_=>λ_ j_=>au.getD j_ .any) q i j) .none) (.jH true 26 39 1 7 (λ_=>1) (λ_=>iK (jb (qv a p) 1)) .none))]),.a (aC:0<1)]<|rR (ib (AS a p)) (BE (xs:=AS a p) (by unfold AS;rw[yB]):E.le (.sl true ((λ_=>a.length) 0) 7 ((λ_=>iK (jb (qv a p) a.length)) 0)) (ib (AS a p)))) 
def iO(f:Nat->Rat):Nat->Rat
 | 0=>0
 |n+1=>iO f n+f n
def qF{f g:Nat->Rat}:∀ n,(∀ i,i<n->f i=g i)->iO f n=iO g n
 | 0,_=>rfl
 |n+1,h=>by rw[iO,iO,qF n (λi hi=>h i aC),h n aC]
def Di{f g:Nat->Rat}:∀ n,(∀ i,i<n->f i<=g i)->iO f n<=iO g n
 | 0,_=>cr
 |n+1,h=>by
  have h1:=Di n (λi hi=>h i aC);have h2:=h n aC;rw[iO,iO];grind
def Dj{f:Nat->Rat}(n:Nat)(h:∀ i,i<n->0<=f i):0<=iO f n:=by
 induction n with
 |zero=>exact cr
 |succ n ih=>
  have h1:=ih (λi hi=>h i aC);have h2:=h n aC;rw[iO];grind
def BN(f:Nat->Rat)(c:Rat):∀ n,iO (λi=>c*f i) n=c*iO f n
 | 0=>by simp[iO]
 |n+1=>by rw[iO,iO,BN f c n];grind
def EV(f:Nat->Rat)(c:Rat):∀ n,iO (λi=>f i*c) n=iO f n*c
 | 0=>by simp[iO]
 |n+1=>by rw[iO,iO,EV f c n];grind
def Hl(f g:Nat->Rat):∀ n,iO (λi=>f i+g i) n=iO f n+iO g n
 | 0=>by simp only[iO];grind
 |n+1=>by rw[iO,iO,iO,Hl f g n];grind
def Hm(f:Nat->Nat->Rat)(m:Nat):∀ n,iO (λi=>iO (λj=>f i j) m) n=iO (λj=>iO (λi=>f i j) n) m
 | 0=>by
  have:∀ m,iO (λ_=>(0:Rat)) m=0:=by
   intro m
   induction m with
   |zero=>rfl
   |succ m ih=>rw[iO,ih];grind
  exact(this m).symm
 |n+1=>by
  rw[iO,Hm f m n,<-Hl];rfl
def Zl(f:Nat->Rat):∀ n,iO f (n+1)=f 0+iO (λi=>f (i+1)) n
 | 0=>by simp only[iO];grind
 |n+1=>by rw[iO,Zl f n,iO];grind
def iY(x:Rat):Rat:=if 0<=x then x else -x
def nk(x:Rat):0<=iY x/\x<=iY x /\ -x<=iY x/\(iY x=x/\0<=x\/iY x = -x/\x<=0):=by unfold iY;split<;>grind
def yO{x b:Rat}(h1:x<=b)(h2:-x<=b):iY x<=b:=by unfold iY;split<;>grind
def Qn(x y:Rat):iY (x+y)<=iY x+iY y:=by
 obtain⟨a1,a2,a3,_⟩:=nk x;obtain⟨b1,b2,b3,_⟩:=nk y;exact yO aK aK 
def yP(x y:Rat):iY (x*y)=iY x*iY y:=by
 obtain⟨_,_,_,a⟩:=nk x;obtain⟨_,_,_,b⟩:=nk y;obtain⟨c1,_,_,c⟩:=nk (x*y);rcases a with⟨e1,h1⟩|⟨e1,h1⟩<;>rcases b with⟨e2,h2⟩|⟨e2,h2⟩<;>rw[e1,e2]
 .have:=bW h1 h2;grind
 .have:=bW h1 (show 0 <= -y by grind);grind
 .have:=bW (show 0 <= -x by grind) h2;grind
 .have:=bW (show 0 <= -x by grind) (show 0 <= -y by grind);grind
def Ds(f:Nat->Rat):∀ n,iY (iO f n)<=iO (λi=>iY (f i)) n
 | 0=>by simp[iO,iY]
 |n+1=>by
  have h1:=Ds f n;have h2:=Qn (iO f n) (f n);rw[iO,iO];grind
def Qo:iY 0=0:=rfl
abbrev QM:=Nat->Nat->Rat
def qT(n:Nat)(A B:QM):QM:=λi j=>iO (λq=>A i q*B q j) n
def yp:QM:=λi j=>if i=j then 1 else 0
def TQ(n:Nat)(M:QM)(t:Rat):Nat->QM
 | 0=>yp
 |j+1=>λi l=>t/((j+1:Nat):Rat)*qT n (TQ n M t j) M i l
def SQ(n:Nat)(M:QM)(t:Rat):Nat->QM
 | 0=>yp
 |j+1=>λi l=>SQ n M t j i l+TQ n M t (j+1) i l
def WS(j:Nat):(jx (j:Int)).jX ((j:Nat):Rat):=by have:=Aa (j:Int);rwa[dU]at this
section
variable {m:List (List Iv)} {h:Iv} {M:QM} {t:Rat} {n p:Nat}
def Aw(n:Nat)(A:QM)(b:Rat):Prop:=∀ i,i<n->iO (λl=>iY (A i l)) n<=b
def akv{A B:QM}{a b:Rat}(_h0:0<=a)(hb:0<=b)(h1:Aw n A a)(h2:Aw n B b):Aw n (qT n A B) (a*b):=by
 intro i hi;have e1:iO (λl=>iY (qT n A B i l)) n<=iO (λl=>iO (λq=>iY (A i q)*iY (B q l)) n) n:=
  Di n λl _=>by
   have:=Ds (λq=>A i q*B q l) n;rw[show(λq=>iY (A i q*B q l))=λq=>iY (A i q)*iY (B q l)from funext λq=>yP _ _]at this;exact this
 rw[Hm]at e1;have e2:iO (λq=>iO (λl=>iY (A i q)*iY (B q l)) n) n<=iO (λq=>iY (A i q)*b) n:=
  Di n λq hq=>by
   rw[BN];exact cN (h2 q hq) (nk _).1
 rw[EV]at e2;exact bN e1 (bN e2 (cw (h1 i hi) hb))
def eQ(c:Rat):Nat->Rat
 | 0=>1
 |j+1=>eQ c j*(c/((j+1:Nat):Rat))
def Bp(j:Nat):(0:Rat)<((j+1:Nat):Rat):=gj.2 aC 
def Sd{a b:Rat}(h1:0<=a)(h2:0<b):0<=a/b:=by
 rw[cP];exact bW h1 (bJ (fL.2 h2))
def vO{c:Rat}(h:0<=c):∀ j,0<=eQ c j
 | 0=>by simp only[eQ];decide
 |j+1=>bW (vO h j) (Sd h (Bp j))
def amc(n i:Nat):iO (λl=>iY (yp i l)) n<=1/\(n<=i->iO (λl=>iY (yp i l)) n=0):=by
 induction n with
 |zero=>exact⟨by simp only[iO];grind,λ_=>rfl⟩
 |succ n ih=>
  have e1:iY 1=1:= aE ;simp only[iO,yp]at ih ⊢;by_cases h:i=n
  .have:=ih.2 aC ;rw[this,a6 h,e1];exact⟨aK,λh'=>absurd h' aC⟩
  .rw [aZ h,Qo,Rat.add_zero];exact⟨ih.1,λh'=>ih.2 aC⟩
def aks{A:QM}{b:Rat}(h:Aw n A b){i l:Nat}(hi:i<n)(hl:l<n):iY (A i l)<=b:=by
 have h1:=h i hi;have:∀ m,l<m->iY (A i l)<=iO (λl=>iY (A i l)) m:=by
  intro m hm
  induction m with
  |zero=>omega
  |succ m ih=>
   rw[iO];have h0:=Dj m (f:=λl=>iY (A i l)) λi _=>(nk _).1
   have h2:=(nk (A i m)).1;by_cases hq:l=m
   .subst hq;grind
   .have:=ih aC;grind
 exact bN (this n hl) h1
end
def KW(g:Nat->Nat->Rat):∀ m,iO (λj=>iO (g j) (m-j)) m=iO (λs=>iO (λj=>g j (s-j)) (s+1)) m
 | 0=>rfl
 |m+1=>by
  have ih:=KW g m;have e1:iO (λj=>iO (g j) (m+1-j)) m=iO (λj=>iO (g j) (m-j)+g j (m-j)) m:=
   qF m λj hj=>by rw[(aC:m+1-j=m-j+1)];rfl
  have h1:iO (g m) (m+1-m)=g m 0:=by
   rw[(aC:m+1-m=0+1)];simp only[iO];grind
  have h2:iO (λj=>g j (m-j)) (m+1)=iO (λj=>g j (m-j)) m+g m (m-m):=rfl;show iO (λj=>iO (g j) (m+1-j)) m+iO (g m) (m+1-m)=iO (λs=>iO (λj=>g j (s-j)) (s+1)) m+iO (λj=>g j (m-j)) (m+1);rw[e1,Hl,h1,h2,ih,dp]
  grind
def Hn{f:Nat->Rat}(h:∀ i,0<=f i){m k:Nat}(hk:m<=k):iO f m<=iO f k:=by
 induction k with
 |zero=>
  have:m=0:= aC ;rw[this];exact cr
 |succ k ih=>
  by_cases hm:m=k+1
  .rw [hm];exact cr
  .have:=ih aC ;have:=h k;rw[iO];grind
def EW(f:Nat->Rat)(m:Nat):∀ d,iO f (m+d)=iO f m+iO (λi=>f (m+i)) d
 | 0=>by simp only[iO,bR];grind
 |d+1=>by
  show iO f (m+d)+f (m+d)=_;rw[EW f m d,iO];grind
def IX(c:Rat)(j:Nat):eQ c (j+1)*((j+1:Nat):Rat)=c*eQ c j:=by
 have h:c/((j+1:Nat):Rat)*((j+1:Nat):Rat)=c:=dJ (by have:=Bp j;grind);simp only[eQ];grind
def IE(a b:Rat):∀ s,iO (λj=>eQ b j*eQ a (s-j)) (s+1)=eQ (a+b) s
 | 0=>by
  show 0+eQ b 0*eQ a 0=1;simp only[eQ];grind
 |s+1=>by
  have ih:=IE a b s;have hp:=Bp s;have key:iO (λj=>eQ b j*eQ a (s+1-j)) (s+2)*((s+1:Nat):Rat)=(a+b)*eQ (a+b) s:=by
   have e0:iO (λj=>eQ b j*eQ a (s+1-j)) (s+2)*((s+1:Nat):Rat)=iO (λj=>(j:Rat)*(eQ b j*eQ a (s+1-j))+eQ b j*(((s+1-j:Nat):Rat)*eQ a (s+1-j))) (s+2):=by
    rw[<-EV];refine qF _ λj hj=>?_
    have:((s+1:Nat):Rat)=(j:Rat)+((s+1-j:Nat):Rat):=by rw[<-dV];congr 1;omega
    rw[this];grind
   rw[e0,Hl];have e1:iO (λj=>(j:Rat)*(eQ b j*eQ a (s+1-j))) (s+2)=b*eQ (a+b) s:=by
    rw[Zl,<-ih,<-BN];have z:(((0:Nat):Rat))=0:=rfl;rw[z,Rat.zero_mul,Rat.zero_add];refine qF _ λj hj=>?_
    have h1:=IX b j;rw[(aC:s+1-(j+1)=s-j)]
    grind
   have e2:iO (λj=>eQ b j*(((s+1-j:Nat):Rat)*eQ a (s+1-j))) (s+2)=a*eQ (a+b) s:=by
    rw[(aC:s+2=(s+1)+1),iO,dp,<-ih,<-BN];have z:(((0:Nat):Rat))=0:=rfl;rw[z,Rat.zero_mul,Rat.mul_zero,Rat.add_zero];refine qF _ λj hj=>?_
    have h1:=IX a (s-j);rw[(aC:s+1-j=s-j+1)]
    grind
   rw[e1,e2];grind
  have h2:=IX (a+b) s;have h3:iO (λj=>eQ b j*eQ a (s+1-j)) (s+2)*((s+1:Nat):Rat)=eQ (a+b) (s+1)*((s+1:Nat):Rat):=by rw[key,h2]
  exact fM (fG (by rw[h3];exact cr) hp) (fG (by rw[h3];exact cr) hp)
def FF(c:Rat):∀ j,iY (eQ c j)=eQ (iY c) j
 | 0=>by simp only[eQ];decide
 |j+1=>by
  simp only[eQ];rw[yP,FF c j];congr 1;rw[cP,cP,yP];congr 1;have:=fL.2 (Bp j);unfold iY;rw[a6 (bJ this)]
def vq(v:Rat):Nat->Rat
 | 0=>1
 |j+1=>vq v j*v
def Xe(v:Rat)(i:Nat):∀ j,vq v (i+j)=vq v i*vq v j
 | 0=>by simp only[vq,bR];grind
 |j+1=>by
  show vq v (i+j)*v=_;rw[Xe v i j,vq];grind
def Xf{v:Rat}(h:0<=v):∀ j,0<=vq v j
 | 0=>by simp only[vq];decide
 |j+1=>bW (Xf h j) h
def L9(c v:Rat):∀ j,eQ (c*v) j=eQ c j*vq v j
 | 0=>by simp only[eQ,vq];grind
 |j+1=>by
  simp only[eQ,vq];rw[L9 c v j];simp only[cP];grind
def QA(q:Rat):∃ n:Nat,q<=(n:Rat):=by
 refine⟨q.ceil.toNat,?_⟩;have h1:q<=(q.ceil:Rat):=Rat.le_ceil;have h2:((q.ceil:Int):Rat)<=((q.ceil.toNat:Nat):Rat):=by
  rw[<-dU,gh];omega
 exact bN h1 h2
def PM{z:Rat}{J:Nat}(hz:0<=z)(hJ:z*2<=(J:Rat)){m:Nat}(hm:J<=m):eQ z (m+1)*2<=eQ z m:=by
 have h0:=vO hz m;have h1:=IX z m;have hp:=Bp m;have MF:z*2<=((m+1:Nat):Rat):=bN hJ (dB.2 aC);apply fG (c:=((m+1:Nat):Rat)) _ hp;have h2:=cN MF h0
 grind
def PN{z:Rat}{J:Nat}(hz:0<=z)(hJ:z*2<=(J:Rat)){m:Nat}(hm:J<=m):∀ d,iO (λi=>eQ z (m+i)) d+eQ z (m+d)*2<=eQ z m*2
 | 0=>by simp only[iO,bR];grind
 |d+1=>by
  have ih:=PN hz hJ hm d;have h1:=PM hz hJ (aC:J<=m+d);rw[iO,(aC:m+(d+1)=m+d+1)]
  grind
def Zr{z:Rat}{J:Nat}(hz:0<=z)(hJ:z*2<=(J:Rat)):∀ r:Nat,eQ z (J+r)*((2^r:Nat):Rat)<=eQ z J
 | 0=> aH 
 |r+1=>by
  have ih:=Zr hz hJ r;have h1:=PM hz hJ (aC:J<=J+r);have hp:(0:Rat)<=((2^r:Nat):Rat):=cS;have h2:=cw h1 hp;rw[show(2^(r+1):Nat)=2^r*2 from bD _ _,df,(aC:J+(r+1)=J+r+1)];have e:((2:Nat):Rat)=2:=rfl;rw[e];grind
def Zs{z ε:Rat}(hz:0<=z)(hε:0<ε):∃ m0,∀ m,m0<=m->∀ d,iO (λi=>eQ z (m+i)) d<=ε:=by
 obtain⟨J,hJ⟩:=QA (z*2);obtain⟨r,hr⟩:=QA (eQ z J*2/ε);refine⟨J+r,λm hm d=>?_⟩;obtain⟨t,rfl⟩:∃ t,m=J+t:=⟨m-J,aC⟩
 have h1:=PN hz hJ (aC:J<=J+t) d;have h2:=Zr hz hJ t;have h3:=vO hz (J+t+d);have h4:=vO hz (J+t);have sS:(r:Rat)<=((2^t:Nat):Rat):=dB.2 (dq (cz (aC:r<=t) Nat.lt_two_pow_self));have h5:eQ z J*2<=ε*((2^t:Nat):Rat):=by
  have h6:eQ z J*2/ε*ε=eQ z J*2:=dJ aK;have h7:=cw (bN hr sS) (bJ hε)
  grind
 have hp:(0:Rat)<((2^t:Nat):Rat):=gj.2 (bw aE);have h8:eQ z (J+t)*2<=ε:=by
  apply fG (c:=((2^t:Nat):Rat)) _ hp
  grind
 grind
def MP(n:Nat)(M:QM):Nat->QM
 | 0=>yp
 |j+1=>qT n (MP n M j) M
section
variable {n:Nat} {M:QM}
def Ls(t:Rat):∀ j i l,TQ n M t j i l=eQ t j*MP n M j i l
 | 0,i,l=>by simp only[TQ,eQ,MP];grind
 |j+1,i,l=>by
  show t/((j+1:Nat):Rat)*iO (λq=>TQ n M t j i q*M q l) n=eQ t j*(t/((j+1:Nat):Rat))*iO (λq=>MP n M j i q*M q l) n;rw[qF n λq _=>show TQ n M t j i q*M q l=eQ t j*(MP n M j i q*M q l)by rw[Ls t j i q];grind,BN]
  grind
def Fc(t:Rat)(i l:Nat):∀ N,SQ n M t N i l=iO (λj=>eQ t j*MP n M j i l) (N+1)
 | 0=>by simp only[SQ,iO,eQ,MP];grind
 |N+1=>by
  show SQ n M t N i l+TQ n M t (N+1) i l=_;rw[Fc t i l N,Ls];rfl
def ah1(A:QM)(i:Nat){l:Nat}(hl:l<n):qT n A yp i l=A i l:=by
 have:∀ m,iO (λq=>A i q*yp q l) m=if l<m then A i l else 0:=by
  intro m
  induction m with
  |zero=>simp[iO]
  |succ m ih=>
   rw[iO,ih];unfold yp;by_cases h1:l<m
   .rw [a6 h1,aZ (aC:¬m=l),a6 (aC:l<m+1)];grind
   .by_cases h2:m=l
    .subst h2;rw[aZ h1,a6 rfl,a6 (aC:m<m+1)];grind
    .rw [aZ h1,aZ h2,aZ (aC:¬l<m+1)];grind
 unfold qT;rw[this,a6 hl]
def ah0(A B C:QM)(i l:Nat):qT n A (qT n B C) i l=qT n (qT n A B) C i l:=by
 unfold qT;have e1:∀ q,A i q*iO (λr=>B q r*C r l) n=iO (λr=>A i q*(B q r*C r l)) n:=λq=>(BN _ _ n).symm
 have e2:∀ r,iO (λq=>A i q*B q r) n*C r l=iO (λq=>A i q*B q r*C r l) n:=λr=>(EV _ _ n).symm
 rw[qF n λq _=>e1 q,qF (f:=λq=>iO (λq_1=>A i q_1*B q_1 q) n*C q l) n λr _=>e2 r,Hm];exact qF n λr _=>qF n λq _=> aK 
def Qd(j:Nat):∀ k i l,l<n->qT n (MP n M j) (MP n M k) i l=MP n M (j+k) i l
 | 0,i,l,hl=>ah1 _ i hl
 |k+1,i,l,hl=>by
  show qT n (MP n M j) (qT n (MP n M k) M) i l=qT n (MP n M (j+k)) M i l;rw[ah0];exact qF n λq hq=>by rw[Qd j k i q hq]
def Qe{v:Rat}(hv:0<=v)(h:Aw n M v):∀ j,Aw n (MP n M j) (vq v j)
 | 0=>λi _=>(amc n i).1
 |j+1=>akv (Xf hv j) hv (Qe hv h j) h
def akt(n:Nat)(M:QM):∃ v,0<=v/\Aw n M v:=by
 refine⟨iO (λi=>iO (λl=>iY (M i l)) n) n,Dj n λi _=>Dj n λl _=>(nk _).1,λi hi=>?_⟩;have:∀ m,i<m->iO (λl=>iY (M i l)) n<=iO (λi=>iO (λl=>iY (M i l)) n) m:=by
  intro m hm
  induction m with
  |zero=>omega
  |succ m ih=>
   rw[iO];have h0:0<=iO (λl=>iY (M m l)) n:=Dj n λl _=>(nk _).1
   have h1:0<=iO (λi=>iO (λl=>iY (M i l)) n) m:=Dj m λi _=>Dj n λl _=>(nk _).1
   by_cases hq:i=m
   .subst hq;grind
   .have:=ih aC;grind
 exact this n hi
def aiY(a b:Rat)(N:Nat)(i:Nat){l:Nat}(hl:l<n):qT n (SQ n M b N) (SQ n M a N) i l=iO (λj=>iO (λk=>eQ b j*eQ a k*MP n M (j+k) i l) (N+1)) (N+1):=by
 unfold qT;have e1:∀ q,SQ n M b N i q*SQ n M a N q l=iO (λj=>iO (λk=>eQ b j*eQ a k*(MP n M j i q*MP n M k q l)) (N+1)) (N+1):=by
  intro q;rw[Fc,Fc,<-EV];refine qF _ λj _=>?_
  rw[<-BN];exact qF _ λk _=> aK 
 rw[qF n λq _=>e1 q,Hm];refine qF _ λj _=>?_
 rw[Hm];refine qF _ λk _=>?_
 rw[<-Qd j k i l hl,BN];rfl
def amS(a b:Rat)(N:Nat)(i l:Nat):iO (λj=>iO (λk=>eQ b j*eQ a k*MP n M (j+k) i l) (N+1-j)) (N+1)=SQ n M (a+b) N i l:=by
 rw[KW (λj k=>eQ b j*eQ a k*MP n M (j+k) i l),Fc];refine qF _ λs _=>?_
 rw[<-IE,<-EV];exact qF _ λj hj=>by rw[(aC:j+(s-j)=s)]
def Y8(g:Nat->Nat->Rat)(m:Nat):iO (λj=>iO (g j) m) m=iO (λj=>iO (g j) (m-j)) m+iO (λj=>iO (λk=>g j (m-j+k)) j) m:=by
 rw[<-Hl];refine qF _ λj hj=>?_
 rw[<-EW,(aC:m-j+j=m)]
def afm{v:Rat}(hv:0<=v)(h:Aw n M v)(a b:Rat)(N:Nat){i l:Nat}(hi:i<n)(hl:l<n):
 iY (qT n (SQ n M b N) (SQ n M a N) i l-SQ n M (a+b) N i l)<=iO (λs=>eQ (iY a*v+iY b*v) (N+1+s)) (N+1):=by
 have hx:0<=iY a*v:=bW (nk a).1 hv;have hy:0<=iY b*v:=bW (nk b).1 hv;have e1:qT n (SQ n M b N) (SQ n M a N) i l=SQ n M (a+b) N i l+iO (λj=>iO (λk=>eQ b j*eQ a (N+1-j+k)*MP n M (j+(N+1-j+k)) i l) j) (N+1):=by
  have:=Y8 (λj k=>eQ b j*eQ a k*MP n M (j+k) i l) (N+1);rw[amS,<-aiY a b N i hl]at this;exact this
 have e2:qT n (SQ n M b N) (SQ n M a N) i l-SQ n M (a+b) N i l=iO (λj=>iO (λk=>eQ b j*eQ a (N+1-j+k)*MP n M (j+(N+1-j+k)) i l) j) (N+1):= aK ;rw[e2];have e3:iY (iO (λj=>iO (λk=>eQ b j*eQ a (N+1-j+k)*MP n M (j+(N+1-j+k)) i l) j) (N+1))<=iO (λj=>iO (λk=>eQ (iY b*v) j*eQ (iY a*v) (N+1-j+k)) j) (N+1):=by
  refine bN (Ds _ _) (Di _ λj _=>bN (Ds _ _) (Di _ λk _=>?_));rw[yP,yP,FF,FF,L9,L9];have hr:=aks (Qe hv h (j+(N+1-j+k))) hi hl;rw[Xe]at hr;have h1:=vO (nk b).1 j;have h2:=vO (nk a).1 (N+1-j+k);have h3:=cN hr (bW h1 h2)
  grind
 refine bN e3 ?_;have q1:iO (λj=>iO (λk=>eQ (iY b*v) j*eQ (iY a*v) k) (N+1)) (N+1)=iO (λj=>iO (λk=>eQ (iY b*v) j*eQ (iY a*v) k) (N+1-j)) (N+1)+iO (λj=>iO (λk=>eQ (iY b*v) j*eQ (iY a*v) (N+1-j+k)) j) (N+1):=
  Y8 (λj k=>eQ (iY b*v) j*eQ (iY a*v) k) (N+1)
 have q2:iO (λj=>iO (λk=>eQ (iY b*v) j*eQ (iY a*v) k) (N+1-j)) (N+1)=iO (λs=>eQ (iY a*v+iY b*v) s) (N+1):=by
  rw[KW (λj k=>eQ (iY b*v) j*eQ (iY a*v) k)];exact qF _ λs _=>IE _ _ s
 have G0:∀ j k,0<=eQ (iY b*v) j*eQ (iY a*v) k:=λj k=>bW (vO hy j) (vO hx k)
 have q3:iO (λj=>iO (λk=>eQ (iY b*v) j*eQ (iY a*v) k) (N+1)) (N+1)<=iO (λs=>eQ (iY a*v+iY b*v) s) (N+1+(N+1)):=by
  rw[<-qF (f:=λs=>iO (λj=>eQ (iY b*v) j*eQ (iY a*v) (s-j)) (s+1)) _ λs _=>IE _ _ s,<-KW (λj k=>eQ (iY b*v) j*eQ (iY a*v) k)];refine bN (Di _ λj hj=>Hn (λk=>G0 j k) (aC:N+1<=N+1+(N+1)-j)) ?_;exact Hn (λj=>Dj _ λk _=>G0 j k) aC 
 rw[EW (λs=>eQ (iY a*v+iY b*v) s) (N+1) (N+1),q1,q2]at q3;have cancel:∀ A B C:Rat,A+B<=A+C->B<=C:=by intro A B C h;grind
 exact cancel _ _ _ q3
def afn(n:Nat)(M:QM)(a b:Rat){ε:Rat}(hε:0<ε):∃ N0,∀ N,N0<=N->∀ i l,i<n->l<n->iY (qT n (SQ n M b N) (SQ n M a N) i l-SQ n M (a+b) N i l)<=ε:=by
 obtain⟨v,hv,h⟩:=akt n M;have hz:0<=iY a*v+iY b*v:=by
  have hx:0<=iY a*v:=bW (nk a).1 hv;have hy:0<=iY b*v:=bW (nk b).1 hv
  grind
 obtain⟨m0,h0⟩:=Zs hz hε;exact⟨m0,λN hN i l hi hl=>bN (afm hv h a b N hi hl) (h0 (N+1) aC (N+1))⟩
def aap(N:Nat)(i l:Nat):SQ n M 0 N i l=yp i l:=by
 induction N with
 |zero=>rfl
 |succ N ih=>
  show SQ n M 0 N i l+TQ n M 0 (N+1) i l=_;rw[ih,Ls];simp only[eQ,cP];grind
end
def pW(f:Nat->Rat)(X:Iv):Prop:=∀ ε,0<ε->∃ N0,∀ N,N0<=N->∃ r,X.jX r/\iY (f N-r)<=ε
def pW.Oy{f:Nat->Rat}{X:Iv}{k:Nat}(h:∀ N,k<=N->X.jX (f N)):pW f X:=λε hε=>
 ⟨k,λN hN=>⟨f N,h N hN,by rw[Rat.sub_self,Qo];exact bJ hε⟩⟩
def pW.all{f:Nat->Rat}{X:Iv}(h:X.all=true):pW f X:=pW.Oy (k:=0) λ_ _=>.inl h
def pW.shift{f g:Nat->Rat}{X:Iv}(h:pW f X)(k:∀ ε,0<ε->∃ N0,∀ N,N0<=N->iY (g N-f N)<=ε):pW g X:=λε hε=>by
 obtain⟨N1,h1⟩:=h (ε/2) aK;obtain⟨N2,h2⟩:=k (ε/2) aK;refine⟨max N1 N2,λN hN=>?_⟩;obtain⟨r,hr,hd⟩:=h1 N aC;have hg:=h2 N aC;refine⟨r,hr,?_⟩;have:=Qn (g N-f N) (f N-r);rw[show g N-f N+(f N-r)=g N-r by grind]at this
 grind
def EQ(c:Rat)(N:Nat):Rat:=iO (eQ c) (N+1)
def aiu(j:Nat):MP 1 (λ_ _=>1) j 0 0=1:=by
 induction j with
 |zero=>rfl
 |succ j ih=>
  show iO (λq=>MP 1 (λ_ _=>1) j 0 q*1) 1=1;simp only[iO];rw[ih];grind
def Ig(c:Rat)(N:Nat):SQ 1 (λ_ _=>1) c N 0 0=EQ c N:=by
 rw[Fc];exact qF _ λj _=>by rw[aiu];grind
def Lj(a b:Rat){ε:Rat}(hε:0<ε):∃ N0,∀ N,N0<=N->iY (EQ (a+b) N-EQ a N*EQ b N)<=ε:=by
 obtain⟨N0,h0⟩:=afn 1 (λ_ _=>1) a b hε;refine⟨N0,λN hN=>?_⟩;have:=h0 N hN 0 0 aE aE;rw[show qT 1 (SQ 1 (λ_ _=>1) b N) (SQ 1 (λ_ _=>1) a N) 0 0=EQ a N*EQ b N by
  show iO (λq=>SQ 1 (λ_ _=>1) b N 0 q*SQ 1 (λ_ _=>1) a N q 0) 1=_;simp only[iO];rw[Ig,Ig];grind,Ig]at this
 obtain⟨_,a2,a3,_⟩:=nk (EQ a N*EQ b N-EQ (a+b) N);exact yO aK aK 
def aai(N:Nat):EQ 0 N=1:=by
 rw[<-Ig,aap];rfl
def QF{x:Iv}{r s:Rat}(hx:x.ij)(h:x.jX r)(hs:iY s<=iY r):(rB x).jX s:=by
 unfold rB;cases xa:x.all
 .obtain ⟨h1,h2⟩:=h.jW xa;obtain⟨m1,m2,_⟩:=CS hx.q;obtain⟨_,a2,a3,a4⟩:=nk r;obtain⟨_,b2,b3,_⟩:=nk s;have hr:iY r<=(nj x).q:= aK ;refine .inr ⟨?_,?_⟩
  .show (jt (nj x)).q<=s;rw[rn];grind
  .show s<=(nj x).q
   grind
 .rw [a6 rfl];exact .inl xa
def Fa{a b:Int}(h:a<=b):P2 a<=P2 b:=by
 rw[Fb h];have h1:(1:Rat)<=((2^(b-a).toNat:Nat):Rat):=by
  have:=dB.2 (Nat.one_le_two_pow (n:=(b-a).toNat));exact this
 have:=cw h1 (bJ (nN a))
 grind
def K2{i:Nat}(h:i<2):i=0\/i=1:= aC 
def HF1:Dy:=⟨false,1014047155841371404857783918912611814895143950022408150448898879701903863171748812343190420115852101928445847465915947005,-398⟩
def HF2:Dy:=⟨false,2028094311682742809715567837825223629790287900044816300897797759403807726343497624686380840231704203856891694931831894109,-399⟩
def HF:Iv:=⟨HF1,HF2,false⟩
def after{N:Nat}(h:100<=N):∃ d,N=100+d:=⟨N-100,aC⟩
def zq(k:Int):Rat×Rat:=if k%4=0 then(1,0)else if k%4=1 then(0,1)else if k%4=2 then(-1,0)else(0,-1)
def lJ(r:Iv)(p:Nat):Nat->Iv
 | 0=>jx 1
 |j+1=>jv (iD (lJ r p j) r p) (jx ((j+1:Nat):Int)) p
def Pt(r:Iv)(p j:Nat):Iv:=if 2<=j%4 then qe (lJ r p j)else lJ r p j
def KN(r:Iv)(p:Nat):Nat->Iv
 | 0=>jx 0
 |j+1=>if(j+1)%2=1 then jf (KN r p j) (Pt r p (j+1)) p else KN r p j
def rm(n:Int):(qq n).q=P2 n:=by unfold qq;rw[r9];simp
def wH{r:Iv}{p:Nat}(_hr:r.ij)(il:8<=p)(ig:p<=512):∀ j,(lJ r p j).ij
 | 0=>C1 1 aE 
 |j+1=>qI _ _ aC aC 
def alc{r:Iv}{p:Nat}(hr:r.ij)(il:8<=p)(ig:p<=512)(j:Nat):(Pt r p j).ij:=by
 unfold Pt;split
 .exact CY (wH hr il ig j)
 .exact wH hr il ig j
def YJ{r:Iv}{p:Nat}(hr:r.ij)(il:8<=p)(ig:p<=512):∀ j,(KN r p j).ij
 | 0=>C1 0 aE 
 |j+1=>by
  unfold KN;split
  .exact qG (YJ hr il ig j) (alc hr il ig _) aC aC 
  .exact YJ hr il ig j
def Pw{r:Iv}{p:Nat}(hr:r.ij)(il:8<=p)(ig:p<=512){ρ:Rat}(h:r.jX ρ):∀ j,j<4294967296->(lJ r p j).jX (eQ ρ j)
 | 0,_=>Aa 1
 |j+1,hj=>by
  have e:eQ ρ (j+1)=eQ ρ j*ρ/((j+1:Nat):Rat):=by simp only[eQ,cP];grind
  rw[e];exact IS (nV _ _ aC aC) (Ot (j+1) hj) aC aC (Oe (wH hr il ig j) hr aC aC (Pw hr il ig h j aC) h) (WS (j+1))
def YN{r:Iv}{p:Nat}:∀ {j d:Nat},(lJ r p (j+d)).all=false->(lJ r p j).all=false
 |_,0,h=>h
 |j,d+1,h=>by
  apply YN (d:=d);cases ha:(lJ r p (j+d)).all
  .rfl
  .exfalso;have:lJ r p (j+(d+1))=ia:=by
    show jv (iD (lJ r p (j+d)) r p) _ p=_;rw[J8 p (.inl ha),FC p (.inl rfl)]
   rw[this]at h;cases h
def pY(n:Int):Iv:=⟨jt (qq n),qq n,false⟩
def DC{n:Int}{r:Rat}:(pY n).jX r ↔ -P2 n<=r/\r<=P2 n:=by
 unfold Iv.jX pY;simp only[bE,false_or];rw[rn,rm]
def Au{p:Nat}(hp:1<=p){n:Int}(h1:-1000<=n)(h2:n<=1000):G p (P2 n):=.inl ⟨1,n,by rw[xH];exact hp,aC,by rw[xH];omega,aH⟩
def Fm{p:Nat}{S:Rat->Prop}{X:Iv}(h:E8 p S X)(hp:1<=p){n:Int}(h1:-1000<=n)(h2:n<=1000)(hs:∀ r,S r -> -P2 n<=r/\r<=P2 n):Sub X (pY n):=by
 obtain⟨a,b,c⟩:=h.yd _ _ (Au hp h1 h2).neg (Au hp h1 h2) hs;refine .inr ⟨a,?_,?_⟩
 .show (jt (qq n)).q<=_;rw[rn,rm];exact b
 .show _<=(qq n).q;rw[rm];exact c
def Qp{a b u v:Rat}(h1:-u<=a)(h2:a<=u)(h3:-v<=b)(h4:b<=v):-(u*v)<=a*b/\a*b<=u*v:=by
 have ha:iY a<=u:=yO h2 aK;have hb:iY b<=v:=yO h4 aK;have hm:=yP a b;have h0:=(nk b).1;have hu:0<=u:=bN (nk a).1 ha;have m1:=cw ha h0;have m2:=cN hb hu;obtain⟨_,c2,c3,_⟩:=nk (a*b);constructor<;>grind
def T7(j:Nat):P2 (-(j:Int))*P2 (-1)=P2 (-((j+1:Nat):Int)):=by
 rw[<-rA];congr 1;omega
def ade{a u:Rat}{n:Nat}(h1:-u<=a)(h2:a<=u):-u<=a/((n+1:Nat):Rat)/\a/((n+1:Nat):Rat)<=u:=by
 have hp:=Bp n;have TF:(1:Rat)<=((n+1:Nat):Rat):=by
  have:=dB (a:=1) (b:=n+1);exact this.2 aC 
 have e:=dJ (a:=a) (b:=((n+1:Nat):Rat)) aK;have hu:0<=u:= aK ;generalize a/((n+1:Nat):Rat)=x at *
 generalize ((n+1:Nat):Rat)=c at *
 constructor
 .apply dC.1;intro iB;have m:=dW iB hp;have m2:=cN TF hu
  grind
 .apply dC.1;intro iB;have m:=dW iB hp;have m2:=cN TF hu
  grind
def YP{y:Iv}(hy:y.ij)(h:Sub y (pY (-1))){p:Nat}(il:8<=p)(ig:p<=512):∀ j,j<=900->Sub (lJ y p j) (pY (-(j:Int)))
 | 0,_=>by
  have e:(jx 1).lo.q=1/\(jx 1).hi.q=1/\(jx 1).all=false:=WR 1;refine .inr ⟨e.2.2,?_,?_⟩
  .show (jt (qq _)).q<=_;rw[rn,rm,show(lJ y p 0).lo.q=1 from e.1];decide +kernel
  .show _<=(qq _).q;rw[rm,show(lJ y p 0).hi.q=1 from e.2.1];decide +kernel
 |j+1,hj=>by
  have ih:=YP hy h il ig j aC;have vT:=wH hy il ig j;obtain⟨ta,_⟩:=ih.xn rfl;obtain⟨ya,_⟩:=h.xn rfl;have B:=Od vT hy ta ya (aC:1<=p) aC;have s1:Sub (iD (lJ y p j) y p) (pY (-((j+1:Nat):Int))):=Fm B aC aC aC (by
   rintro r ⟨a,b,ha,hb,rfl⟩;obtain⟨a1,a2⟩:=DC.1 (ih.jX ha);obtain⟨b1,b2⟩:=DC.1 (h.jX hb);rw[<-T7];exact Qp a1 a2 b1 b2)
  have vm:(iD (lJ y p j) y p).ij:=nV _ _ aC aC;obtain⟨ma,_⟩:=s1.xn rfl;have vn:=Ot (j+1) aC;have hs:nM (jx ((j+1:Nat):Int))≠0:=by rw[air aC];decide
  exact Fm (IQ vm vn ma hs (aC:1<=p) aC) aC aC aC (by
   rintro r ⟨a,b,ha,hb,rfl⟩;obtain⟨a1,a2⟩:=DC.1 (s1.jX ha);obtain⟨b1,b2⟩:=hb.jW rfl;have e:=WR (j+1);rw[e.1]at b1;rw[e.2.1]at b2;rw[show b=((j+1:Nat):Rat)from fM b2 b1];exact ade a1 a2)
def po(x:Iv)(p:Nat):Bool:=x.all||(decide ((nj x).m=0)||decide ((nj x).iw <= -(p:Int)))
def ZC{d:Dy}(hm:d.m≠0){n:Int}(h:iY d.q<=P2 n):d.iw<=n+1:=by
 apply bU;intro iB;have hT:d.iw=(iq d.m:Int)+d.e:=by unfold Dy.iw;rw[aZ hm]
 have hb:0<iq d.m:=wm.2 (by rw[cE];omega);have h1:2^(iq d.m-1)<=d.m:=wm.1 aC;have h2:((2^(iq d.m-1):Nat):Rat)<=(d.m:Rat):=dB.2 h1;have h3:=cw h2 (bJ (nN d.e));rw[<-yK,<-rA,show((iq d.m-1:Nat):Int)+d.e=d.iw-1 by rw[hT];omega]at h3;have h4:iY d.q=(d.m:Rat)*P2 d.e:=by
  have h0:0<=(d.m:Rat)*P2 d.e:=bW cS (bJ (nN _));rw[qV];unfold iY;cases d.neg
  .simp only[bE,bn];rw[a6 h0]
  .simp only[bB];split<;>grind
 have h5:=Fa (aC:n+1<=d.iw-1);have h6:P2 (n+1)=P2 n*2:=by rw[rA];congr 1
 have:=nN n
 grind
def ZA{x:Iv}(hx:x.ij){p:Nat}(h:Sub x (pY (-((p+1:Nat):Int)))):po x p=true:=by
 unfold po;cases ha:x.all
 .by_cases hm:(nj x).m=0
  .rw [a7 hm];rfl
  .obtain ⟨_,k1,k2⟩:=h.xn rfl;obtain⟨m1,m2,m3⟩:=CS hx.q;replace k1:(jt (qq (-((p+1:Nat):Int)))).q<=x.lo.q:=k1;replace k2:x.hi.q<=(qq (-((p+1:Nat):Int))).q:=k2;rw[rn,rm]at k1;rw[rm]at k2;have hq:=hx.q;have qM:=nN (-((p+1:Nat):Int));generalize hu:P2 (-((p+1:Nat):Int))=u at *
   have hle:iY (nj x).q<=u:=yO (by rcases m3 with m3|m3<;>grind) (by rcases m3 with m3|m3<;>grind);have:=ZC hm (hu▸hle);rw[a7 (show(nj x).iw <= -(p:Int)by omega)];simp
 .rfl
def YO{y:Iv}(h:y.all=true)(p:Nat):lJ y p 1=ia:=by
 show jv (iD (jx 1) y p) _ p=_;rw[J8 p (.inr h),FC p (.inl rfl)]
def ad5{y:Iv}(hy:y.ij)(h:y.all=true\/Sub y (pY (-1))){p:Nat}(il:8<=p)(ig:p<=512):∃ N,1<=N/\N<=1000/\(∀ x,1<=x->x<N->po (lJ y p x) p=false)/\po (lJ y p N) p=true:=by
 have ex:∃ x,x<900/\decide (1<=x/\po (lJ y p x) p=true)=true:=by
  rcases h with h|h
  .exact ⟨1,aC,a7 ⟨aC,by rw[YO h];rfl⟩⟩
  .exact ⟨p+1,aC,a7 ⟨aC,ZA (wH hy il ig _) (YP hy h il ig (p+1) aC)⟩⟩
 obtain⟨N,n1,n2,n3⟩:=rh (p:=λx=>decide (1<=x/\po (lJ y p x) p=true)) ex;have n2':=cB n2;refine⟨N,n2'.1,aC,λx h1 h2=>?_,n2'.2⟩;have:=eE (n3 x h2);cases hc:po (lJ y p x) p
 .rfl
 .exact absurd ⟨h1,hc⟩ this
def tZ(y:Iv)(p:Nat):Nat->Iv
 | 0=>jx 1
 |j+1=>jf (tZ y p j) (lJ y p (j+1)) p
def y3(y:Iv)(p N:Nat):Iv:=jf (tZ y p N) (rB (lJ y p N)) p
def DO{y:Iv}(hy:y.ij){p:Nat}(il:8<=p)(ig:p<=512):∀ j,(tZ y p j).ij
 | 0=>C1 1 aE 
 |j+1=>qG (DO hy il ig j) (wH hy il ig _) aC aC 
def ad4{y:Iv}(hy:y.ij){p:Nat}(il:8<=p)(ig:p<=512)(N:Nat):(y3 y p N).ij:=qG (DO hy il ig N) (Dw (wH hy il ig N)) aC aC 
def mg(x:Iv)(p:Nat):Iv:=if x.all then ia else mf (kf x.lo p false) (jS x.lo p false) (kf x.hi p true) (jS x.hi p true)
def uJ(a b:Iv):Iv:=if a.all||b.all then ia else⟨a.lo,b.hi,false⟩
def EO{x:Iv}(hx:x.ij){p:Nat}(hp:1<=p)(ig:p<=4096):(mg x p).ij:=by
 unfold mg;cases xa:x.all
 .obtain ⟨c1,c2⟩:=hx.yX;simp only[bE,bn];unfold mf;split
  .exact mi
  .rename_i he;have A:=xv c1 hp ig;have B:=xw c2 hp ig;refine .inr ⟨rfl,wE _ hp ig _,wE _ hp ig _,?_⟩;rw[pT];exact bN (A.1 aC).2 (bN hx.q (B.1 aC).2)
 .exact mi
def Hb{x:Iv}(hx:x.ij){p:Nat}(hp:1<=p)(ig:p<=4096){r:Rat}(h:x.jX r):(mg x p).jX r:=by
 unfold mg;cases xa:x.all
 .obtain ⟨c1,c2⟩:=hx.yX;obtain⟨h1,h2⟩:=h.jW xa;simp only[bE,bn];unfold mf;split
  .exact .inl rfl
  .rename_i he;have A:=xv c1 hp ig;have B:=xw c2 hp ig;exact .inr ⟨bN (A.1 aC).2 h1,bN h2 (B.1 aC).2⟩
 .exact .inl rfl
def ako{x:Iv}(hx:x.ij){p:Nat}(hp:1<=p)(ig:p<=4096){n:Int}(h1:-1000<=n)(h2:n<=1000)(h:Sub x (pY n)):Sub (mg x p) (pY n):=by
 obtain⟨xa,k1,k2⟩:=h.xn rfl;replace k1:(jt (qq n)).q<=x.lo.q:=k1;replace k2:x.hi.q<=(qq n).q:=k2;rw[rn,rm]at k1;rw[rm]at k2;obtain⟨c1,c2⟩:=hx.yX;have A:=(xv c1 hp ig).2 _ (Au hp h1 h2).neg k1;have B:=(xw c2 hp ig).2 _ (Au hp h1 h2) k2;unfold mg mf;rw[xa];simp only[bE,bn];rw[aZ aC];refine .inr ⟨rfl,?_,?_⟩
 .show (jt (qq n)).q<=_;rw[rn,rm];exact A.2
 .show _<=(qq n).q;rw[rm];exact B.2
def ahl{f g:Nat->Rat}{A B:Iv}(hA:pW f A)(hB:pW g B)(h:∀ ε,0<ε->∃ N0,∀ N,N0<=N->f N<=g N+ε)(aa:A.all=false)(ba:B.all=false):A.lo.q<=B.hi.q:=by
 apply dC.1;intro iB;obtain⟨ε,hε⟩:∃ ε,ε=(A.lo.q-B.hi.q)/4:=⟨_,rfl⟩
 have h0:0<ε:=by rw[hε];grind
 obtain⟨N1,h1⟩:=hA ε h0;obtain⟨N2,h2⟩:=hB ε h0;obtain⟨N3,h3⟩:=h ε h0;obtain⟨r,hr,hd⟩:=h1 (max N1 (max N2 N3)) aC;obtain⟨s,hs,he⟩:=h2 (max N1 (max N2 N3)) aC;have h4:=h3 (max N1 (max N2 N3)) aC;obtain⟨r1,r2⟩:=hr.jW aa;obtain⟨s1,s2⟩:=hs.jW ba;obtain⟨_,a2,a3,_⟩:=nk (f (max N1 (max N2 N3))-r);obtain⟨_,b2,b3,_⟩:=nk (g (max N1 (max N2 N3))-s)
 grind
def aah{c:Rat}(h:0<=c)(N:Nat):1<=EQ c N:=by
 have:=Hn (f:=eQ c) (λi=>vO h i) (aC:1<=N+1);have e:iO (eQ c) 1=1:=by show 0+1=1;grind
 unfold EQ;rw[e]at this;exact this
def aag(c:Rat){ε:Rat}(hε:0<ε):∃ N0,∀ N,N0<=N -> -ε<=EQ c N:=by
 obtain⟨N0,h0⟩:=Lj (c/2) (c/2) hε;rw[show c/2+c/2=c by grind]at h0;refine⟨N0,λN hN=>?_⟩;have h:=h0 N hN;have hs:0<=EQ (c/2) N*EQ (c/2) N:=by
  by_cases k:0<=EQ (c/2) N
  .exact bW k k
  .have:=bW (show 0 <= -EQ (c/2) N by grind) (show 0 <= -EQ (c/2) N by grind)
   grind
 obtain⟨_,a2,a3,_⟩:=nk (EQ c N-EQ (c/2) N*EQ (c/2) N)
 grind
def aad{c:Rat}(h:0<=c):∃ M:Rat,0<M/\∀ N,EQ c N<=M:=by
 obtain⟨m0,h0⟩:=Zs h (show(0:Rat)<1 by decide);have hs:0<=iO (eQ c) m0:=by
  have:=Hn (f:=eQ c) (λi=>vO h i) (bV m0);exact this
 refine⟨iO (eQ c) m0+1,aK,λN=>?_⟩;unfold EQ;by_cases hN:m0<=N+1
 .obtain ⟨d,hd⟩:∃ d,N+1=m0+d:=⟨N+1-m0,aC⟩
  rw[hd,EW];have:=h0 m0 (bg _) d
  grind
 .have:=Hn (f:=eQ c) (λi=>vO h i) (aC:N+1<=m0)
  grind
def aaf{a b:Rat}(h:a<=b){ε:Rat}(hε:0<ε):∃ N0,∀ N,N0<=N->EQ a N<=EQ b N+ε:=by
 have hd:0<=b-a:= aK ;obtain⟨N1,h1⟩:=Lj a (b-a) (show 0<ε/2 by grind);rw[show a+(b-a)=b by grind]at h1;obtain⟨M,tw,hM⟩:∃ M:Rat,0<M/\∀ N,EQ (b-a) N<=M:=aad hd;obtain⟨N2,h2⟩:=aag a (show 0<ε/(2*M)by rw[cP];exact eD hε (fL.2 aK));refine⟨max N1 N2,λN hN=>?_⟩;have k1:=h1 N aC;have k2:=h2 N aC;have e:ε/(2*M)*M=ε/2:=by
  have:=dJ (a:=ε) (b:=2*M) aK 
  grind
 have k3:=aah hd N;have k4:=hM N;obtain⟨_,a2,a3,_⟩:=nk (EQ b N-EQ a N*EQ (b-a) N);generalize EQ a N=x at *
 generalize EQ (b-a) N=y at *
 generalize EQ b N=z at *
 generalize ε/(2*M)=δ at *
 have m1:=bW (show 0<=x+δ by grind) (show 0<=y-1 by grind);have hδ:0<=δ:=by
  apply dC.1;intro iB;have:=dW iB tw
  grind
 have m2:=cN (show y-1<=M by grind) hδ
 grind
def SO{y:Iv}{r:Rat}(hy:y.ij)(h:y.jX r){p:Nat}(il:8<=p)(ig:p<=512):∀ j,j<4294967296->(tZ y p j).jX (EQ r j)
 | 0,_=>by
  have:EQ r 0=1:=by unfold EQ;simp only[iO,eQ];grind
  rw[this];exact Aa 1
 |j+1,hj=>BT (DO hy il ig j) (wH hy il ig (j+1)) aC aC (SO hy h il ig j aC) (Pw hy il ig h (j+1) hj)
def ad1{y:Iv}(h:y.all=true){p N:Nat}(hN:1<=N):(y3 y p N).all=true:=by
 have ht:(lJ y p N).all=true:=by
  cases hc:(lJ y p N).all
  .obtain ⟨d,rfl⟩:∃ d,N=1+d:=⟨N-1,aC⟩
   have:=YN hc;rw[YO h]at this;cases this
  .rfl
 unfold y3;rw[Io p (.inr (by unfold rB;rw[ht];simpa using ht))];rfl
def ad2{y:Iv}{r:Rat}(hy:y.ij)(h:y.jX r)(hr:iY r*2<=1){p:Nat}(il:8<=p)(ig:p<=512){N:Nat}(hN:1<=N)(sN:N<=1000)(M:Nat)(hM:N<=M):(y3 y p N).jX (EQ r M):=by
 obtain⟨d,rfl⟩:∃ d,M=N+d:=⟨M-N,aC⟩
 have e1:EQ r (N+d)=EQ r N+iO (λi=>eQ r (N+1+i)) d:=by
  unfold EQ;rw[(aC:N+d+1=N+1+d),EW]
 have hz:=(nk r).1;have t:=PN hz (J:=1) (by exact hr) (aC:1<=N+1) d;have p0:=vO hz (N+1+d);have b1:iY (iO (λi=>eQ r (N+1+i)) d)<=iO (λi=>eQ (iY r) (N+1+i)) d:=by
  have:=Ds (λi=>eQ r (N+1+i)) d;rwa[qF d λi _=>FF r (N+1+i)]at this
 have e3:eQ (iY r) (N+1)*2<=eQ (iY r) N:=PM hz (J:=1) (by exact hr) (aC:1<=N);rw[e1];refine BT (DO hy il ig N) (Dw (wH hy il ig N)) aC aC (SO hy h il ig N aC) (QF (wH hy il ig N) (Pw hy il ig h N aC) ?_);rw[FF];grind
def ad3{y:Iv}{r:Rat}(hy:y.ij)(h:y.jX r)(hb:y.all=true\/Sub y (pY (-1))){p:Nat}(il:8<=p)(ig:p<=512){N:Nat}(hN:1<=N)(sN:N<=1000):pW (EQ r) (y3 y p N):=by
 rcases hb with hb|hb
 .exact pW.all (ad1 hb hN)
 .refine pW.Oy (k:=N) λM hM=>ad2 hy h ?_ il ig hN sN M hM
  obtain⟨b1,b2⟩:=DC.1 (hb.jX h);have e:P2 (-1)=1/2:= aL ;rw[e]at b1 b2;have:=yO (x:=r) (b:=1/2) aK aK 
  grind
def oR(x:Iv)(p:Nat):Iv:=if(jV x).all then ia else mf (kf (xr (jV x).lo (jV x).lo) p false) (jS (xr (jV x).lo (jV x).lo) p false) (kf (xr (jV x).hi (jV x).hi) p true) (jS (xr (jV x).hi (jV x).hi) p true)
def Qm{x:Iv}(xa:x.all=false):0<=(jV x).lo.q:=by
 unfold jV;rw[xa];show 0<=(pk x).q;unfold pk;split
 .rw [tN];exact cr
 .obtain ⟨_,_,m⟩:=C7 (mD x.lo) (mD x.hi);rcases m with m|m<;>rw[m]
  .exact (Ae x.lo).1
  .exact (Ae x.hi).1
def AA(x:Iv):(jV x).all=x.all:=by unfold jV;cases h:x.all<;>simp[h,ia]
def PD{x:Iv}(hx:x.ij){p:Nat}(hp:1<=p)(ig:p<=4096){r:Rat}(h:x.jX r):(oR x p).jX (r*r):=by
 unfold oR;rw[AA];cases xa:x.all
 .simp only[bE,bn];obtain⟨s,hs,h0,e⟩:∃ s,(jV x).jX s/\0<=s/\r*r=s*s:=by
   by_cases hr:0<=r
   .exact ⟨r,Ik hx h (.inl ⟨rfl,hr⟩),hr,rfl⟩
   .exact ⟨-r,Ik hx h (.inr ⟨rfl,aK⟩),aK,aK⟩
  have hl:=Qm xa;have ya:(jV x).all=false:=by rw[AA];exact xa
  obtain⟨s1,s2⟩:=hs.jW ya;rw[e];unfold mf;split
  .exact .inl rfl
  .rename_i he;have A:=xv (AJ (jV x).lo (jV x).lo) hp ig;have B:=xw (AJ (jV x).hi (jV x).hi) hp ig;rw[EI]at A B;have a1:=(A.1 aC).2;have b1:=(B.1 aC).2;refine .inr ⟨?_,?_⟩
   .have m1:=cw s1 hl;have m2:=cN s1 h0;show _<=s*s;exact bN a1 (bN m1 (by rw[fJ s];rw[fJ (jV x).lo.q s];exact m2))
   .have m1:=cw s2 h0;have m2:=cN s2 (bN h0 s2);exact bN (bN m1 m2) b1
 .exact .inl rfl
def KT{x:Iv}(hx:x.ij){p:Nat}(hp:1<=p)(ig:p<=4096):(oR x p).ij:=by
 cases xa:x.all
 .have h1:=PD hx hp ig hx.A7;unfold oR at h1 ⊢;rw[AA,xa]at h1 ⊢;simp only[bE,bn]at h1 ⊢;unfold mf at h1 ⊢;split
  .exact mi
  .rename_i he;rw[aZ he]at h1;obtain⟨h2,h3⟩:=h1.jW rfl;refine .inr ⟨rfl,wE _ hp ig _,wE _ hp ig _,?_⟩;rw[pT];exact bN h2 h3
 .unfold oR;rw[AA,xa];exact mi
def pW.sqr{f:Nat->Rat}{X:Iv}(hx:X.ij)(h:pW f X){p:Nat}(hp:1<=p)(ig:p<=4096):pW (λN=>f N*f N) (oR X p):=by
 cases xa:X.all
 .intro ε hε;obtain⟨B,hB⟩:∃ B,B=iY X.lo.q+iY X.hi.q+1:=⟨_,rfl⟩
  have a0:=nk X.lo.q;have b0:=nk X.hi.q;have hB1:1<=B:= aK ;have MD:0<2*B:= aK ;obtain⟨δ,hδ⟩:∃ δ,δ=min 1 (ε/(2*B)):=⟨_,rfl⟩
  have hεB:0<ε/(2*B):=by rw[cP];exact eD hε (fL.2 MD)
  have U6:0<δ:=by rw[hδ];grind
  have hδ1:δ<=1:=by rw[hδ];grind
  have hδ2:δ*(2*B)<=ε:=by
   have h1:δ<=ε/(2*B):=by rw[hδ];grind
   have h2:=cw h1 (bJ MD);rwa[dJ aK]at h2
  obtain⟨N0,h0⟩:=h δ U6;refine⟨N0,λN hN=>?_⟩;obtain⟨r,hr,hd⟩:=h0 N hN;refine⟨r*r,PD hx hp ig hr,?_⟩;obtain⟨r1,r2⟩:=hr.jW xa;rw[show f N*f N-r*r=(f N-r)*(f N+r)by grind,yP];have hs:iY (f N+r)<=2*B:=by
   obtain⟨_,c2,c3,_⟩:=nk (f N-r);exact yO aK aK 
  have h3:=cN hs (nk (f N-r)).1;have h4:=cw hd (bJ MD)
  grind
 .exact pW.all (by unfold oR;rw[AA,xa];rfl)
def aae(r:Rat):∀ ε,0<ε->∃ N0,∀ N,N0<=N->iY (EQ r N-EQ (r*P2 (-1)) N*EQ (r*P2 (-1)) N)<=ε:=by
 intro ε hε;have e:r*P2 (-1)+r*P2 (-1)=r:=by
  have:P2 (-1)=1/2:= aL ;rw[this];grind
 have:=Lj (r*P2 (-1)) (r*P2 (-1)) hε;rwa[e]at this
def ahk{r:Rat}{X:Iv}(hx:X.ij)(h:pW (EQ (r*P2 (-1))) X){p:Nat}(hp:1<=p)(ig:p<=4096):pW (EQ r) (oR X p):=(h.sqr hx hp ig).shift (aae r)
def ala{y:Iv}{n:Int}(h:Sub y (pY n)):(mh y (-1)).all=true\/Sub (mh y (-1)) (pY (n-1)):=by
 obtain⟨ya,k1,k2⟩:=h.xn rfl;replace k1:(jt (qq n)).q<=y.lo.q:=k1;replace k2:y.hi.q<=(qq n).q:=k2;rw[rn,rm]at k1;rw[rm]at k2;unfold mh mf;rw[ya];simp only[bE,bn];split
 .exact .inl rfl
 .rename_i he;have e:P2 (n-1)=P2 n*P2 (-1):=by rw[<-rA];congr 1
  refine .inr (.inr ⟨rfl,?_,?_⟩)
  .show (jt (qq (n-1))).q<=(tS y.lo (-1)).q;rw[rn,rm,BG aC,e,<-aoh,wq];exact k1
  .show (tS y.hi (-1)).q<=(qq (n-1)).q;rw[rm,BG aC,e,wq];exact k2
def tY(z:Rat)(k:Nat):Rat:=nX z (2*k+1)/((2*k+1:Nat):Rat)
def AQ(z:Rat)(N:Nat):Rat:=iO (tY z) (N+1)
def oA(z:Iv)(p:Nat):Nat->Iv
 | 0=>z
 |k+1=>iD (oA z p k) (oR z p) p
def vh(z:Iv)(p:Nat):Nat->Iv
 | 0=>z
 |k+1=>jf (vh z p k) (jv (oA z p (k+1)) (jx ((2*k+3:Nat):Int)) p) p
noncomputable def En(z:Iv)(p N:Nat):Iv:=mh (jf (vh z p N) (rB (oA z p N)) p) 1
def yh{z:Iv}(hz:z.ij){p:Nat}(il:8<=p)(ig:p<=512):∀ k,(oA z p k).ij
 | 0=>hz
 |_+1=>nV _ _ aC aC 
def CP{z:Iv}(hz:z.ij){p:Nat}(il:8<=p)(ig:p<=512):∀ k,(vh z p k).ij
 | 0=>hz
 |k+1=>qG (CP hz il ig k) (qI _ _ aC aC) aC aC 
def ahi{z:Iv}(hz:z.ij){p:Nat}(il:8<=p)(ig:p<=512)(N:Nat):(En z p N).ij:=Hg (qG (CP hz il ig N) (Dw (yh hz il ig N)) aC aC) 1
def Pg(r:Rat)(k:Nat):nX r (2*(k+1)+1)=nX r (2*k+1)*(r*r):=by
 show nX r (2*k+1)*r*r=_
 grind
def NV{z:Iv}{r:Rat}(hz:z.ij)(h:z.jX r){p:Nat}(il:8<=p)(ig:p<=512):∀ k,(oA z p k).jX (nX r (2*k+1))
 | 0=>by
  have e:nX r (2*0+1)=r:=by show 1*r=r;grind
  rw[e];exact h
 |k+1=>by
  rw[Pg];exact Oe (yh hz il ig k) (KT hz aC aC) aC aC (NV hz h il ig k) (PD hz aC aC h)
def VO{z:Iv}{r:Rat}(hz:z.ij)(h:z.jX r){p:Nat}(il:8<=p)(ig:p<=512):∀ k,k<1000000->(vh z p k).jX (AQ r k)
 | 0,_=>by
  have e:AQ r 0=r:=by
   show 0+1*r/((2*0+1:Nat):Rat)=r;have:((2*0+1:Nat):Rat)=1:=rfl;rw[this,cP,show(1:Rat)⁻¹=1 by decide +kernel];grind
  rw[e];exact h
 |k+1,hk=>BT (CP hz il ig k) (qI _ _ aC aC) aC aC (VO hz h il ig k aC)
  (IS (yh hz il ig (k+1)) (Ot (2*k+3) aC) aC aC (NV hz h il ig (k+1)) (WS (2*k+3)))
def Lw(r:Rat):∀ n,iY (nX r n)=nX (iY r) n
 | 0=>by show iY 1=1;decide +kernel
 |n+1=>by simp only[nX];rw[yP,Lw r n]
def aat(r:Rat)(k:Nat):iY (tY r k)<=nX (iY r) (2*k+1):=by
 unfold tY;have hp:(0:Rat)<((2*k+1:Nat):Rat):=Bp (2*k);have h1:(1:Rat)<=((2*k+1:Nat):Rat):=by
  have:=dB (a:=1) (b:=2*k+1);exact this.2 aC 
 have h0:=Dd (nk r).1 (2*k+1);rw[cP,yP,Lw];have hi:=fL.2 hp;have e:iY (((2*k+1:Nat):Rat)⁻¹)=((2*k+1:Nat):Rat)⁻¹:=by unfold iY;rw[a6 (bJ hi)]
 rw[e,<-cP];have x0:=Sd h0 hp;have xc:=dJ (a:=nX (iY r) (2*k+1)) (b:=((2*k+1:Nat):Rat)) aK;generalize nX (iY r) (2*k+1)/((2*k+1:Nat):Rat)=x at *
 have:=cN h1 x0
 grind
def QK{r:Rat}(hr:iY r*2<=1)(N:Nat):∀ d,iO (λi=>iY (tY r (N+1+i))) d+nX (iY r) (2*(N+d)+1)<=nX (iY r) (2*N+1)
 | 0=>by simp only[iO,bR];grind
 |d+1=>by
  have ih:=QK hr N d;have h1:=aat r (N+1+d);have e:2*(N+1+d)+1=2*(N+d+1)+1:= aC ;rw[e,Pg]at h1;have e2:2*(N+(d+1))+1=2*(N+d+1)+1:= aC ;rw[e2,Pg,iO];have h0:=Dd (nk r).1 (2*(N+d)+1);have hz:=(nk r).1;have hs:iY r*iY r*4<=1:=by
   have m:=cN hr (show 0<=iY r*2 by grind)
   grind
  generalize nX (iY r) (2*(N+d)+1)=u at *
  generalize iY r*iY r=v at *
  have m2:=cN hs h0
  grind
def ahh{z:Iv}{r:Rat}(hz:z.ij)(h:z.jX r)(hr:iY r*2<=1){p:Nat}(il:8<=p)(ig:p<=512){N:Nat}(hN:N<=1000):∀ M,N<=M->(En z p N).jX (AQ r M*2):=by
 intro M hM;obtain⟨d,rfl⟩:∃ d,M=N+d:=⟨M-N,aC⟩
 have e1:AQ r (N+d)=AQ r N+iO (λi=>tY r (N+1+i)) d:=by
  unfold AQ;rw[(aC:N+d+1=N+1+d),EW]
 have t:=QK hr N d;have b1:=Ds (λi=>tY r (N+1+i)) d;have p0:=Dd (nk r).1 (2*(N+d)+1);have e2:P2 1=2:= aL ;rw[<-e2,e1];refine Pp (BT (CP hz il ig N) (Dw (yh hz il ig N)) aC aC (VO hz h il ig N aC) (QF (yh hz il ig N) (NV hz h il ig N) ?_)) 1;rw[Lw];grind
def alV{z:Iv}(hz:z.ij)(h:Sub z (pY (-1))){p:Nat}(il:8<=p)(ig:p<=512):Sub (oR z p) (pY (-1)):=by
 obtain⟨za,k1,k2⟩:=h.xn rfl;replace k1:(jt (qq (-1))).q<=z.lo.q:=k1;replace k2:z.hi.q<=(qq (-1)).q:=k2;have e:P2 (-1)=1/2:= aL ;rw[rn,rm,e]at k1;rw[rm,e]at k2;have hl:=Qm za;have ha:(jV z).ij:=Il hz;have hq:=ha.q;have hh:(jV z).hi.q<=1/2:=by
  unfold jV;rw[za];show(nj z).q<=1/2;obtain⟨_,_,m⟩:=CS hz.q;have:=hz.q;rcases m with m|m<;>grind
 have G1:=Au (p:=p) aC (n:=-1) aE aE;have A:=xv (AJ (jV z).lo (jV z).lo) (p:=p) aC aC;have B:=xw (AJ (jV z).hi (jV z).hi) (p:=p) aC aC;rw[EI]at A B;rw[e]at G1;have je:0<=(jV z).lo.q*(jV z).lo.q:=bW hl hl;have hhi:(jV z).hi.q*(jV z).hi.q<=1/2:=by
  have h0:0<=(jV z).hi.q:=bN hl hq;have m:=cN hh h0
  grind
 have a1:=A.2 (-(1/2)) G1.neg aK;have b1:=B.2 (1/2) G1 hhi;unfold oR mf;rw[AA,za];simp only[bE,bn];rw[aZ aC];refine .inr ⟨rfl,?_,?_⟩
 .show (jt (qq (-1))).q<=_;rw[rn,rm,e];exact a1.2
 .show _<=(qq (-1)).q;rw[rm,e];exact b1.2
def VN{z:Iv}(hz:z.ij)(h:Sub z (pY (-1))){p:Nat}(il:8<=p)(ig:p<=512):∀ k,k<=900->Sub (oA z p k) (pY (-((k+1:Nat):Int)))
 | 0,_=>h
 |k+1,hk=>by
  have ih:=VN hz h il ig k aC;have sq:=alV hz h il ig;have vT:=yh hz il ig k;obtain⟨ta,_⟩:=ih.xn rfl;obtain⟨ya,_⟩:=sq.xn rfl;exact Fm (Od vT (KT hz aC aC) ta ya (aC:1<=p) aC) aC aC aC (by
   rintro r ⟨a,b,ha,hb,rfl⟩;obtain⟨a1,a2⟩:=DC.1 (ih.jX ha);obtain⟨b1,b2⟩:=DC.1 (sq.jX hb);rw[<-T7];exact Qp a1 a2 b1 b2)
def ahj{z:Iv}(hz:z.ij)(h:z.all=true\/Sub z (pY (-1))){p:Nat}(il:8<=p)(ig:p<=512):∃ N,N<=1000/\(∀ x,x<N->po (oA z p x) p=false)/\po (oA z p N) p=true:=by
 have ex:∃ x,x<900/\po (oA z p x) p=true:=by
  rcases h with h|h
  .exact ⟨0,aC,by show po z p=true;unfold po;rw[h];rfl⟩
  .exact ⟨p,aC,ZA (yh hz il ig _) (VN hz h il ig p aC)⟩
 obtain⟨N,n1,n2,n3⟩:=rh ex;exact⟨N,aC,n3,n2⟩
def aaG{a b:Rat}(h:a<=b)(k:Nat):tY a k<=tY b k:=by
 unfold tY;rw[cP,cP];exact cw (Pf aC h) (bJ (fL.2 (Bp (2*k))))
def Ic{a b:Rat}(h:a<=b)(N:Nat):AQ a N<=AQ b N:=Di _ λk _=>aaG h k
def G5{d:Dy}(h:d.m≠0):iY d.q<P2 d.iw:=by
 have hT:d.iw=(iq d.m:Int)+d.e:=by unfold Dy.iw;rw[aZ h]
 have h1:(d.m:Rat)<((2^iq d.m:Nat):Rat):=Rat.natCast_lt_natCast.2 (sf d.m);have h2:=dW h1 (nN d.e);rw[<-yK,<-rA]at h2;have h0:0<=(d.m:Rat)*P2 d.e:=bW cS (bJ (nN _));have h4:iY d.q=(d.m:Rat)*P2 d.e:=by
  rw[qV];unfold iY;cases d.neg
  .simp only[bE,bn];rw[a6 h0]
  .simp only[bB];split<;>grind
 rw[h4,hT];exact h2
def OQ{d:Dy}(h:d.m≠0):P2 (d.iw-1)<=iY d.q:=by
 have hT:d.iw=(iq d.m:Int)+d.e:=by unfold Dy.iw;rw[aZ h]
 have hb:0<iq d.m:=wm.2 (by rw[cE];omega);have h1:2^(iq d.m-1)<=d.m:=wm.1 aC;have h2:((2^(iq d.m-1):Nat):Rat)<=(d.m:Rat):=dB.2 h1;have h3:=cw h2 (bJ (nN d.e));rw[<-yK,<-rA,show((iq d.m-1:Nat):Int)+d.e=d.iw-1 by rw[hT];omega]at h3;have h4:iY d.q=(d.m:Rat)*P2 d.e:=by
  have h0:0<=(d.m:Rat)*P2 d.e:=bW cS (bJ (nN _));rw[qV];unfold iY;cases d.neg
  .simp only[bE,bn];rw[a6 h0]
  .simp only[bB];split<;>grind
 rw[h4];exact h3
def EG{d:Dy}(h:0<d.q):d.m≠0:=λe=>by
 have:d.q=0:=by rw[qV,e];simp
 grind
def Im{r:Rat}(h:0<r):iY r=r:=by unfold iY;rw[a6 (bJ h)]
def wo(d:Dy):Rat:=d.q*P2 (-d.iw)
def As(d:Dy):Rat:=(wo d-1)/(wo d+1)
def Qf(k:Int):P2 k*P2 (-k)=1:=by rw[<-rA,(aC:k + -k=0),Lp]
def Wk{d:Dy}(h:0<d.q):1/2<=wo d/\wo d<1:=by
 have h1:=OQ (EG h);have h2:=G5 (EG h);rw[Im h]at h1 h2;have hp:=nN (-d.iw);have e1:=Qf d.iw;have e2:P2 (d.iw-1)*P2 (-d.iw)=1/2:=by
  rw[<-rA,(aC:d.iw-1 + -d.iw = -1)];decide +kernel
 have m1:=cw h1 (bJ hp);have m2:=dW h2 hp;unfold wo;constructor<;>grind
def Mu{a b:Rat}(ha:0<=a)(h:a<=b):(a-1)/(a+1)<=(b-1)/(b+1):=by
 have h1:0<a+1:= aK ;have h2:0<b+1:= aK ;have e1:=dJ (a:=a-1) (b:=a+1) aK;have e2:=dJ (a:=b-1) (b:=b+1) aK;generalize (a-1)/(a+1)=x at *
 generalize (b-1)/(b+1)=y at *
 apply dC.1;intro iB;have m1:=dW iB h1;have hy:y<1:=by
  apply Rat.not_le.1;intro hle;have:=cw hle (bJ h2)
  grind
 have m2:=cN h (show 0<=1-y by grind)
 grind
def P9{d:Dy}(h:0<d.q):-(1/3)<=As d/\As d<=0:=by
 obtain⟨h1,h2⟩:=Wk h;have a:=Mu (show(0:Rat)<=1/2 by decide +kernel) h1;have b:=Mu (show 0<=wo d by grind) (bJ h2);have e1:((1:Rat)/2-1)/(1/2+1) = -(1/3):= aL ;have e2:((1:Rat)-1)/(1+1)=0:= aL ;rw[e1]at a;rw[e2]at b;exact⟨a,b⟩
def Lh(z:Rat)(N:Nat):AQ (-z) N = -AQ z N:=by
 have:∀ n,iO (tY (-z)) n = -iO (tY z) n:=by
  intro n
  induction n with
  |zero=>simp[iO]
  |succ n ih=>
   rw[iO,iO,ih];have:tY (-z) n = -tY z n:=by
    unfold tY;rw[Dc,aZ aC];simp only[cP];grind
   rw[this];grind
 exact this _
def Qa(N:Nat):AQ 0 N=0:=by
 have:=Lh 0 N;rw[show -(0:Rat)=0 by decide +kernel]at this
 grind
def aac(N:Nat):0<=AQ (1/3) N:=by
 have:=Ic (show(0:Rat)<=1/3 by decide +kernel) N;rwa[Qa]at this
def LQ(d:Dy)(N:Nat):Rat:=AQ (As d) N*2+(d.iw:Rat)*(AQ (1/3) N*2)
def amO{a b:Dy}(ha:0<a.q)(h:a.q<=b.q):a.iw<=b.iw:=by
 have hb:0<b.q:= aK ;have h1:=OQ (EG ha);have h2:=G5 (EG hb);rw[Im ha]at h1;rw[Im hb]at h2;apply bU;intro iB;have:=Fa (aC:b.iw<=a.iw-1)
 grind
def aak{a b:Dy}(ha:0<a.q)(h:a.q<=b.q)(N:Nat):LQ a N<=LQ b N:=by
 have hb:0<b.q:= aK ;have ht:=amO ha h;obtain⟨a1,a2⟩:=P9 ha;obtain⟨b1,b2⟩:=P9 hb;have c0:=aac N;unfold LQ;rcases Int.lt_or_eq_of_le ht with iB|heq
 .have k1:=Ic a2 N;rw[Qa]at k1;have k2:=Ic b1 N;rw[Lh]at k2;have k3:(a.iw:Rat)+1<=(b.iw:Rat):=by
   have:=gh (a:=a.iw+1) (b:=b.iw);have:=this.2 aC;rwa[Rat.intCast_add]at this
  have k4:=cw k3 (show 0<=AQ (1/3) N*2 by grind)
  grind
 .have hm:wo a<=wo b:=by
   unfold wo;rw[heq];exact cw h (bJ (nN _))
  have hz:As a<=As b:=Mu (by have:=(Wk ha).1;grind) hm;have:=Ic hz N;rw[heq]
  grind
def aal(N:Nat):LQ ⟨false,1,0⟩ N=0:=by
 have e1:As ⟨false,1,0⟩ = -(1/3):= aL ;have e2:((⟨false,1,0⟩:Dy).iw:Rat)=1:= aL ;unfold LQ;rw[e1,e2,Lh];grind
noncomputable def uk(d:Dy)(p:Nat):Iv:=mh (mg (j9 d) p) (-d.iw)
noncomputable def Er(d:Dy)(p:Nat):Iv:=jv (jf (uk d p) (jx (-1)) p) (jf (uk d p) (jx 1) p) p
def ZD{d:Dy}(hd:d.ij)(h:d.m≠0):-16384<=d.iw-1/\d.iw<=16384:=by
 have hT:d.iw=(iq d.m:Int)+d.e:=by unfold Dy.iw;rw[aZ h]
 have hb:0<iq d.m:=wm.2 (by rw[cE];omega);have h1:=hd.range;unfold mZ at h1;have h2:=hd.exp;constructor
 .omega
 .rw [hT]
  first|omega|(rcases h1 with h1|h1<;>first|omega|exact absurd h1 h)
def akp{d:Dy}(hd:d.ij)(h:0<d.q){p:Nat}(il:8<=p)(ig:p<=512)(ha:(mg (j9 d) p).all=false):P2 (d.iw-1)<=(mg (j9 d) p).lo.q/\(mg (j9 d) p).hi.q<=P2 d.iw:=by
 have hm:=EG h;obtain⟨t1,t2⟩:=ZD hd hm;have q1:=OQ hm;have q2:=G5 hm;rw[Im h]at q1 q2;have A:=xv hd.canon (p:=p) aC aC;have B:=xw hd.canon (p:=p) aC aC;have G1:G p (P2 (d.iw-1)):=.inl ⟨1,d.iw-1,by rw[xH];omega,t1,by rw[xH];omega,aH⟩;have he:¬(jS d p false≠0\/jS d p true≠0):=by
  intro hc;unfold mg mf at ha;rw[show(j9 d).all=false from rfl]at ha;simp only[bE,bn]at ha;rw[a6 (show jS (j9 d).lo p false≠0\/jS (j9 d).hi p true≠0 from hc)]at ha;cases ha
 have e1:(mg (j9 d) p).lo=kf d p false/\(mg (j9 d) p).hi=kf d p true:=by
  unfold mg mf;rw[show(j9 d).all=false from rfl];simp only[bE,bn];rw[aZ (show ¬(jS (j9 d).lo p false≠0\/jS (j9 d).hi p true≠0)from he)];exact⟨rfl,rfl⟩
 rw[e1.1,e1.2];refine⟨(A.2 _ G1 q1).2,?_⟩;by_cases ht:d.iw<=16383
 .have G2:G p (P2 d.iw):=.inl ⟨1,d.iw,by rw[xH];omega,aC,by rw[xH];omega,aH⟩;exact(B.2 _ G2 (bJ q2)).2
 .obtain ⟨g,_⟩:=B.1 aC ;have UA:0<=(kf d p true).q:=bN (bJ h) (B.1 aC).2;obtain⟨m,e,hb,_,hr,hv⟩:=g.pos UA;rw[hv];have h1:(m:Rat)<=((2^iq m:Nat):Rat):=dB.2 (dq (sf m));have h2:=cw h1 (bJ (nN e));rw[<-yK,<-rA]at h2;exact bN h2 (Fa aC)
def ahA{d:Dy}(hd:d.ij){p:Nat}(il:8<=p)(ig:p<=512):(uk d p).jX (wo d):=Pp (Hb (s8 hd) aC aC (OL d)) _
def ahC{d:Dy}(hd:d.ij){p:Nat}(il:8<=p)(ig:p<=512):(uk d p).ij:=Hg (EO (s8 hd) aC aC) _
def ahB{d:Dy}(hd:d.ij)(h:0<d.q){p:Nat}(il:8<=p)(ig:p<=512)(ha:(uk d p).all=false):1/2<=(uk d p).lo.q/\(uk d p).hi.q<=1:=by
 unfold uk mh at ha ⊢;cases ra:(mg (j9 d) p).all
 .rw [ra]at ha;obtain⟨h1,h2⟩:=akp hd h il ig ra;simp only[bE,bn]at ha ⊢;unfold mf at ha ⊢;split
  .rename_i he;rw[a6 he]at ha;cases ha
  .rename_i he;have e1:=Qf d.iw;have e2:P2 (d.iw-1)*P2 (-d.iw)=1/2:=by
    rw[<-rA,(aC:d.iw-1 + -d.iw = -1)];decide +kernel
   refine⟨?_,?_⟩
   .show 1/2<=(tS _ _).q;rw[BG aC,<-e2,wq];exact h1
   .show (tS _ _).q<=1;rw[BG aC,<-e1,wq];exact h2
 .rw [ra]at ha;cases ha
def afG{a b:Rat}(h1:-(1/2)<=a)(h2:a<=1/2)(hb:1<=b):-(1/2)<=a/b/\a/b<=1/2:=by
 have e:=dJ (a:=a) (b:=b) aK;generalize a/b=x at *
 constructor
 .apply dC.1;intro iB;have:=dW iB (show 0<b by grind)
  grind
 .apply dC.1;intro iB;have:=dW iB (show 0<b by grind)
  grind
def ahE{d:Dy}(hd:d.ij)(h:0<d.q){p:Nat}(il:8<=p)(ig:p<=512):(Er d p).ij/\(Er d p).jX (As d)/\((Er d p).all=true\/Sub (Er d p) (pY (-1))):=by
 have vM:=ahC hd il ig;have hM:=ahA hd il ig;have vn:(jx (-1)).ij:=wu aE;have v1:(jx 1).ij:=wu aE;have vA:(jf (uk d p) (jx (-1)) p).ij:=qG vM vn aC aC;have vB:(jf (uk d p) (jx 1) p).ij:=qG vM v1 aC aC;have e1:((-1:Int):Rat) = -1:= aL ;have e2:((1:Int):Rat)=1:= aL ;have hA:=BT vM vn (p:=p) aC aC hM (Aa (-1));have hB:=BT vM v1 (p:=p) aC aC hM (Aa 1);rw[e1,show wo d + -1=wo d-1 by grind]at hA;rw[e2]at hB;refine⟨qI _ _ aC aC,IS vA vB aC aC hA hB,?_⟩;cases ma:(uk d p).all
 .right;obtain⟨m1,m2⟩:=ahB hd h il ig ma;have one:∀ (n:Int) r,(jx n).jX r->r=(n:Rat):=λn r hr=>by
   obtain⟨r1,r2⟩:=hr.jW rfl;replace r1:(iW n).q<=r:=r1;replace r2:r<=(iW n).q:=r2;rw[Bw]at r1 r2;exact fM r2 r1
  have g1:G p (1/2):=by have:=Au (p:=p) aC (n:=-1) aE aE;rwa[show P2 (-1)=1/2 by decide +kernel]at this
  have g2:G p 1:=by have:=Au (p:=p) aC (n:=0) aE aE;rwa[Lp]at this
  have g4:G p 2:=by have:=Au (p:=p) aC (n:=1) aE aE;rwa[show P2 1=2 by decide +kernel]at this
  obtain⟨aa,a1,a2⟩:=(Lx vM vn ma rfl (aC:1<=p) aC).yd (-(1/2)) (1/2) g1.neg g1 (by
   rintro r ⟨a,b,ha,hb,rfl⟩;obtain⟨b1,b2⟩:=ha.jW ma;rw[one _ b hb,e1];constructor<;>grind)
  obtain⟨ba,b1,b2⟩:=(Lx vM v1 ma rfl (aC:1<=p) aC).yd 1 2 g2 g4 (by
   rintro r ⟨a,b,ha,hb,rfl⟩;obtain⟨b1,b2⟩:=ha.jW ma;rw[one _ b hb,e2];constructor<;>grind)
  refine Fm (IQ vA vB aa (PB ba (.inl aK)) (aC:1<=p) aC) aC aE aE ?_;rintro r ⟨a,b,ha,hb,rfl⟩;obtain⟨x1,x2⟩:=ha.jW aa;obtain⟨y1,y2⟩:=hb.jW ba;rw[show P2 (-1)=1/2 by decide +kernel];exact afG aK aK aK 
 .left;show(jv (jf (uk d p) (jx (-1)) p) (jf (uk d p) (jx 1) p) p).all=true;rw[Io p (.inl ma),FC p (.inl rfl)];rfl
def ad0{d:Dy}(hd:d.ij)(h:d.m≠0){p:Nat}(il:8<=p)(ig:p<=512){n:Int}(h1:d.iw<=n)(h2:-1000<=n)(h3:n<=1000):Sub (mg (j9 d) p) (pY n):=by
 refine ako (s8 hd) aC aC h2 h3 (.inr ⟨rfl,?_,?_⟩)
 .show (jt (qq n)).q<=d.q;rw[rn,rm];have:=G5 h;have hl:=Fa h1;obtain⟨_,a2,a3,_⟩:=nk d.q
  grind
 .show d.q<=(qq n).q;rw[rm];have:=G5 h;have hl:=Fa h1;obtain⟨_,a2,a3,_⟩:=nk d.q
  grind
def ZT(y:Iv)(p n:Nat)(x:Nat):PS:=⟨32,true,[(7,.e (iP ((x+1:Nat):Int))),(6,.box 6 0),(5,.box 5 0),(4,.box 4 0),(3,.box 3 0),(2,.box 2 0)],[(6,.cells 39 (iJ (tZ y p x))),(5,.cells 39 (iJ (lJ y p x))),(4,.cells 39 au),(3,.cells 39 (iJ y)),(2,.cells 272 [iP p])]⟩
def ahm{f:Nat->Rat}{X Y:Iv}(h:pW f X)(k:∀ r,X.jX r->Y.jX r):pW f Y:=λε hε=>by
 obtain⟨N0,h0⟩:=h ε hε;exact⟨N0,λN hN=>by obtain⟨r,h1,h2⟩:=h0 N hN;exact⟨r,k r h1,h2⟩⟩
def ivW{x:Iv}(hx:x.ij)(ha:x.all=true):x=ia:=by
 obtain⟨h1,h2⟩:=Vn hx ha;obtain⟨a,b,c⟩:=x;simp only at h1 h2 ha;rw[h1,h2,ha];rfl
def aaV(x:Iv)(hx:x.ij)(xa:x.all=true)(k:Int)(k1:-32768<=k)(k2:k<=32768):gW 320 [ik x,iP k] (ik (mh x k)):=
 ak call320 func320 (ae [.o 10 (.e (lh _):aj (.sl true 1 7 λi_ j_=>(iJ x).getD (i_*7+j_) (.v (.bool false))) (ib [x])),ag [ib [x]] (qn _ aD),ai 11 (!x.all) (by rw[xa];rfl),.c nS]<|rQ (ik ia) (ik (mh x k)) (by rw[show(mh x k)=ia by unfold mh;rw[a6 xa]])) 
def aaW(x:Iv)(hx:x.ij)(xa:x.all=false)(k:Int)(k1:-32768<=k)(k2:k<=32768):gW 320 [ik x,iP k] (ik (mh x k)):=by
 obtain⟨v1,v2⟩:=hx.jW;exact ak call320 func320 (ae [.o 10 (.e (lh _):aj (.sl true 1 7 λi_ j_=>(iJ x).getD (i_*7+j_) (.v (.bool false))) (ib [x])),ag [ib [x]] (qn _ aD),ah 11 (!x.all) (by rw[xa];rfl),.c (IB x.lo k aD aC aC),.c (IB x.hi k aD aC aC),.c (CK (kt (canon x.lo.neg x.lo.m (x.lo.e+k))) (kt (canon x.hi.neg x.hi.m (x.hi.e+k))) (ml (canon x.lo.neg x.lo.m (x.lo.e+k))) (ml (canon x.hi.neg x.hi.m (x.hi.e+k))))]<|rQ (ik (mf (kt (canon x.lo.neg x.lo.m (x.lo.e+k))) (ml (canon x.lo.neg x.lo.m (x.lo.e+k))) (kt (canon x.hi.neg x.hi.m (x.hi.e+k))) (ml (canon x.hi.neg x.hi.m (x.hi.e+k))))) (ik (mh x k)) (by unfold mh;rw[aZ (by rw[xa];decide)];simp only[ak7,ak8])) 
def Ix(x:Iv)(hx:x.ij)(k:Int)(k1:-32768<=k)(k2:k<=32768):gW 320 [ik x,iP k] (ik (mh x k)):=by
 cases xa:x.all with
 |true=>exact aaV x hx xa k k1 k2
 |false=>exact aaW x hx xa k k1 k2
def aaT(x:Iv)(hx:x.ij)(xa:x.all=true)(p:Nat)(il:8<=p)(ig:p<=512):gW 344 [ik x,iP p] (ik (mg x p)):=
 ak call344 func344 (ae [.o 10 (.e (lh _):aj (.sl true 1 7 λi_ j_=>(iJ x).getD (i_*7+j_) (.v (.bool false))) (ib [x])),ag [ib [x]] (qn _ aD),ai 11 (!x.all) (by rw[xa];rfl),.c nS]<|rQ (ik ia) (ik (mg x p)) (by rw[show(mg x p)=ia by unfold mg;rw[a6 xa]])) 
def aaU(x:Iv)(hx:x.ij)(xa:x.all=false)(p:Nat)(il:8<=p)(ig:p<=512):gW 344 [ik x,iP p] (ik (mg x p)):=by
 obtain⟨v1,v2⟩:=hx.jW;exact ak call344 func344 (ae [.o 10 (.e (lh _):aj (.sl true 1 7 λi_ j_=>(iJ x).getD (i_*7+j_) (.v (.bool false))) (ib [x])),ag [ib [x]] (qn _ aD),ah 11 (!x.all) (by rw[xa];rfl),ag [iP p] (wi _),ah 15 (lH (p:Int)) (sj.2 ⟨aC,aC⟩),.c (Iy x.lo p aD aC aC),.c (Iz x.hi p aD aC aC),.c (CK (kf x.lo p false) (kf x.hi p true) (jS x.lo p false) (jS x.hi p true))]<|rQ (ik (mf (kf x.lo p false) (jS x.lo p false) (kf x.hi p true) (jS x.hi p true))) (ik (mg x p)) (by unfold mg;rw[aZ (by rw[xa];decide)])) 
def Fj(x:Iv)(hx:x.ij)(p:Nat)(il:8<=p)(ig:p<=512):gW 344 [ik x,iP p] (ik (mg x p)):=by
 cases xa:x.all with
 |true=>exact aaT x hx xa p il ig
 |false=>exact aaU x hx xa p il ig
def aaX(x:Iv)(hx:x.ij)(xa:x.all=true)(p:Nat)(il:8<=p)(ig:p<=512):gW 371 [ik x,iP p] (ik (oR x p)):=by
 have ha:(jV x).all=true:=by rw[AA,xa]
 exact ak call371 func371 (ae [.c (NN x aD),ah 13 ((jV x).all) ha,.c nS]<|rQ (ik ia) (ik (oR x p)) (by unfold oR;rw[a6 ha])) 
def aaY(x:Iv)(hx:x.ij)(xa:x.all=false)(p:Nat)(il:8<=p)(ig:p<=512):gW 371 [ik x,iP p] (ik (oR x p)):=by
 have ha:(jV x).all=false:=by rw[AA,xa]
 have hv:=Il hx;obtain⟨v1,v2⟩:=hv.jW;exact ak call371 func371 (ae [.c (NN x aD),ai 13 ((jV x).all) ha,ag [iP p] (wi _),ah 16 (lH (p:Int)) (sj.2 ⟨aC,aC⟩),.c (Kt ((jV x).lo) ((jV x).lo) p aD aD aC aC),.c (Ku ((jV x).hi) ((jV x).hi) p aD aD aC aC),.c (CK (kf (nc ((jV x).lo) ((jV x).lo)) p false) (kf (nc ((jV x).hi) ((jV x).hi)) p true) (jS (nc ((jV x).lo) ((jV x).lo)) p false) (jS (nc ((jV x).hi) ((jV x).hi)) p true))]<|rQ (ik (mf (kf (nc ((jV x).lo) ((jV x).lo)) p false) (jS (nc ((jV x).lo) ((jV x).lo)) p false) (kf (nc ((jV x).hi) ((jV x).hi)) p true) (jS (nc ((jV x).hi) ((jV x).hi)) p true))) (ik (oR x p)) (by unfold oR;rw[aZ (by rw[ha];decide)];rfl)) 
def Q1(x:Iv)(hx:x.ij)(p:Nat)(il:8<=p)(ig:p<=512):gW 371 [ik x,iP (p:Int)] (ik (oR x p)):=by
 cases xa:x.all with
 |true=>exact aaX x hx xa p il ig
 |false=>exact aaY x hx xa p il ig
def Q2(x:Iv)(hx:x.ij)(xa:x.all=true):gW 182 [ik x] (.ix [ie ju,bP false]):=
 ak call182 func182 (af [.o 5 (.e (lh _):aj (.sl true 1 7 λi_ j_=>(iJ x).getD (i_*7+j_) (.v (.bool false))) (ib [x])),ag [ib [x]] (qn _ aD),ai 6 (!x.all) (by rw[xa];rfl),.o 8 (.e sH:aj (.agg ar) (ie ju))]) 
def xA(n:Int)(h:n.natAbs<4294967296):gW 342 [iP n] (ik (jx n)):=by
 have hv:=sV h;exact ak call342 func342 (af [ag [iP n] (rC _ aC),.c (ui (iW n) aD)]) 
def BR(p:Nat)(x y:Iv)(hx:x.ij)(hy:y.ij)(il:8<=p)(ig:p<=512):gW 347 [.agg [iP p],ik x,ik y] (ik (jf x y p)):=
 ak call347 func347 (af [.c (wh x y p aD aD aC aC)]) 
def K9(p:Nat)(x y:Iv)(hx:x.ij)(hy:y.ij)(il:8<=p)(ig:p<=512):gW 349 [.agg [iP p],ik x,ik y] (ik (iD x y p)):=
 ak call349 func349 (af [.c (sC x y p aD aD aC aC)]) 
def HI(p:Nat)(x y:Iv)(hx:x.ij)(hy:y.ij)(il:8<=p)(ig:p<=512):gW 346 [.agg [iP p],ik x,ik y] (ik (jv x y p)):=
 ak call346 func346 (af [.c (zL x y p aD aD aC aC)]) 
def anm(p:Nat)(x:Iv)(hx:x.ij)(xa:x.all=true)(il:8<=p)(ig:p<=512):gW 372 [.agg [iP p],ik x] (bP (po x p)):=
 ak call372 func372 (ae [.c (Q2 x hx xa)]<|rQ (bP true) (bP (po x p)) (by unfold po;rw[xa];rfl)) 
def Zz{x:Iv}(xa:x.all=false)(p:Nat):po x p=(((nj x).iM==0)||decide ((nj x).iw<=0-(p:Int))):=by
 unfold po;rw[xa,aoE];congr 1
 .unfold Dy.iM;by_cases h:(nj x).m=0
  .simp [h]
  .simp only[h,bn,gO];split<;>rfl
 .rw [show(0:Int)-p = -(p:Int)by omega]
def ann(p:Nat)(x:Iv)(hx:x.ij)(xa:x.all=false)(il:8<=p)(ig:p<=512):gW 372 [.agg [iP p],ik x] (bP (po x p)):=by
 have hm:=J6 hx.jW.1 hx.jW.2;exact ak call372 func372 (ae [.c (NP x hx xa),ag [ie (nj x)] (mT _ aD)]<|.w ((Dy.iM (nj x))=0)
  (λk1=>ae [tB 17 (aV k1)]<|rQ (bP true) (bP (po x p)) (by rw[Zz xa];simp[k1]))
  (λk1=>ae [tB 17 (aU k1),ag [ie (nj x)] (oo _ aD),iz (0-(p:Int)) aC]<|rQ (bP (decide ((Dy.iw (nj x))<=(0-(p:Int))))) (bP (po x p)) (by rw[Zz xa];simp[k1]))) 
def La(p:Nat)(x:Iv)(hx:x.ij)(il:8<=p)(ig:p<=512):gW 372 [.agg [iP p],ik x] (bP (po x p)):=by
 cases xa:x.all with
 |true=>exact anm p x hx xa il ig
 |false=>exact ann p x hx xa il ig
def ans(x:Iv)(hx:x.ij)(xa:x.all=true):gW 373 [ik x] (ik (rB x)):=
 ak call373 func373 (ae [.c (Q2 x hx xa),.c nS]<|rQ (ik ia) (ik (rB x)) (by rw[show rB x=ia by unfold rB;rw[a6 xa];exact ivW hx xa])) 
def ant(x:Iv)(hx:x.ij)(xa:x.all=false):gW 373 [ik x] (ik (rB x)):=by
 have hm:=J6 hx.jW.1 hx.jW.2;exact ak call373 func373 (ae [.c (NP x hx xa),ag [ie (nj x)] (xK _ aD)]<|rQ (ik (Iv.mk (jt (nj x)) (nj x) false)) (ik (rB x)) (by unfold rB;rw[aZ (by rw[xa];decide)];try rfl)) 
def Z5(x:Iv)(hx:x.ij):gW 373 [ik x] (ik (rB x)):=by
 cases xa:x.all with
 |true=>exact ans x hx xa
 |false=>exact ant x hx xa
def anh(y:Iv)(p n:Nat)(hy:y.ij)(il:8<=p)(ig:p<=512)(h2:n<=1000)(je:∀ x,x<n->po (lJ y p (x+1)) p=false)(hN:po (lJ y p (n+1)) p=true):gW 370 [.agg [iP p],ik y] (ik (y3 y p (n+1))):=by
 have t0:=wH hy il ig n;have s0:=DO hy il ig n;have t1:(iD (lJ y p n) y p).ij:=nV _ _ aC aC;have n1:(jx ((n+1:Nat):Int)).ij:=C1 _ aC;have t2:(jv (iD (lJ y p n) y p) (jx ((n+1:Nat):Int)) p).ij:=qI _ _ aC aC;have a1:(jf (tZ y p n) (jv (iD (lJ y p n) y p) (jx ((n+1:Nat):Int)) p) p).ij:=qG s0 t2 aC aC;have r1:=Dw t2;exact ak call370 func370 (ae [.c (xA 1 aC),.c (xA 1 aC),.s (Sp.jC (ZT y p n) 0 n aC (λx hx k0=>by
    have t0:=wH hy il ig x;have s0:=DO hy il ig x;have t1:(iD (lJ y p x) y p).ij:=nV _ _ aC aC;have n1:(jx ((x+1:Nat):Int)).ij:=C1 _ aC;have t2:(jv (iD (lJ y p x) y p) (jx ((x+1:Nat):Int)) p).ij:=qI _ _ aC aC;exact iF (ae [.c (K9 p (lJ y p x) y aD aD aC aC),.c (xA ((x+1:Nat):Int) aC),.c (HI p (iD (lJ y p x) y p) (jx ((x+1:Nat):Int)) aD aD aC aC),.c (BR p (tZ y p x) (jv (iD (lJ y p x) y p) (jx ((x+1:Nat):Int)) p) aD aD aC aC),.c (La p (jv (iD (lJ y p x) y p) (jx ((x+1:Nat):Int)) p) aD aC aC),ai 26 (po (jv (iD (lJ y p x) y p) (jx ((x+1:Nat):Int)) p) p) (je x aC),
     iz (((x+1:Nat):Int)+1) aC]<|.e (af [.b 6 (.iT rfl:Bx.le (.cells 39 (iJ (jf (tZ y p x) (jv (iD (lJ y p x) y p) (jx ((x+1:Nat):Int)) p) p))) (.cells 39 (iJ (tZ y p (x+1))))),.b 5 (.iT rfl:Bx.le (.cells 39 (iJ (jv (iD (lJ y p x) y p) (jx ((x+1:Nat):Int)) p))) (.cells 39 (iJ (lJ y p (x+1)))))])) aF)
  (λhx=>by
    exact iF (af [.c (K9 p (lJ y p n) y aD aD aC aC),.c (xA ((n+1:Nat):Int) aC),.c (HI p (iD (lJ y p n) y p) (jx ((n+1:Nat):Int)) aD aD aC aC),.c (BR p (tZ y p n) (jv (iD (lJ y p n) y p) (jx ((n+1:Nat):Int)) p) aD aD aC aC),.c (La p (jv (iD (lJ y p n) y p) (jx ((n+1:Nat):Int)) p) aD aC aC),ah 26 (po (jv (iD (lJ y p n) y p) (jx ((n+1:Nat):Int)) p) p) hN]) aF) aI:jA 4 f370 (ZT y p n 0) (.exit 0) ⟨32,true,[(6,.box 6 0),(5,.box 5 0),(4,.box 4 0),(2,.box 2 0)],[(6,.cells 39 (iJ (jf (tZ y p n) (jv (iD (lJ y p n) y p) (jx ((n+1:Nat):Int)) p) p))),(5,.cells 39 (iJ (jv (iD (lJ y p n) y p) (jx ((n+1:Nat):Int)) p))),(4,.cells 39 au),(2,.cells 272 [iP p])]⟩) (af [.o 7 (aq 1 ((0+1:Nat):Int) aO),.b 6 (.iT rfl:Bx.le (.cells 39 (iJ (jx 1))) (.cells 39 (iJ (tZ y p 0)))),.b 5 (.iT rfl:Bx.le (.cells 39 (iJ (jx 1))) (.cells 39 (iJ (lJ y p 0))))]),ag [ik (jv (iD (lJ y p n) y p) (jx ((n+1:Nat):Int)) p)] (Z5 _ aD),.c (BR p (jf (tZ y p n) (jv (iD (lJ y p n) y p) (jx ((n+1:Nat):Int)) p) p) (rB (jv (iD (lJ y p n) y p) (jx ((n+1:Nat):Int)) p)) aD aD aC aC)]<|rR (ik (y3 y p (n+1))) (.iT rfl:E.le (ik (jf (jf (tZ y p n) (jv (iD (lJ y p n) y p) (jx ((n+1:Nat):Int)) p) p) (rB (jv (iD (lJ y p n) y p) (jx ((n+1:Nat):Int)) p)) p)) (ik (y3 y p (n+1))))) 
def ani{y:Iv}(hy:y.ij)(hb:y.all=true\/Sub y (pY (-1))){p:Nat}(il:8<=p)(ig:p<=512):∃ Z,Z.ij/\(∀ r,y.jX r->pW (EQ r) Z)/\gW 370 [.agg [iP (p:Int)],ik y] (ik Z):=by
 obtain⟨N,h1,h2,h3,h4⟩:=ad5 hy hb il ig;obtain⟨n,rfl⟩:∃ n,N=n+1:=⟨N-1,aC⟩
 exact⟨y3 y p (n+1),ad4 hy il ig _,λr hr=>ad3 hy hr hb il ig h1 h2,anh y p n hy il ig aC (λx hx=>h3 (x+1) aC aC) h4⟩
def ank(y Z:Iv)(p:Nat)(afE:gW 370 [.agg [iP (p:Int)],ik y] (ik Z)):gW 345 [.agg [iP p],ik y,iP 0] (ik Z):=
 ak call345 func345 (af [ah 8 ((0:Int)==0) aE,ag [.agg [iP p],ik y] afE]) 
def anj(y Z:Iv)(p n:Nat)(hy:y.ij)(hZ:Z.ij)(hn:n<=1000)(hH:gW 345 [.agg [iP (p:Int)],ik (mh y (-1)),iP (n:Int)] (ik Z))(il:8<=p)(ig:p<=512):gW 345 [.agg [iP p],ik y,iP ((n+1:Nat):Int)] (ik (oR Z p)):=
 ak call345 func345 (af [ai 8 (((n+1:Nat):Int)==0) (nC aC),.c (Ix y aD (-1) aC aC),iz (((n+1:Nat):Int)-1) aC,.c (by rw[show(((n+1:Nat):Int)-1)=(n:Int)by omega];exact hH:gW 345 [.agg [iP p],ik (mh y (-1)),iP (((n+1:Nat):Int)-1)] (ik Z)),ag [ik Z,iP p] (Q1 _ aD _ aC aC)]) 
def ZU{p:Nat}(il:8<=p)(ig:p<=512):∀ (n:Nat) {y:Iv},n<=500->y.ij->(y.all=true\/Sub y (pY ((n:Int)-1)))->∃ Z,Z.ij/\(∀ r,y.jX r->pW (EQ r) Z)/\gW 345 [.agg [iP (p:Int)],ik y,iP (n:Int)] (ik Z)
 | 0,y,_,hy,hb=>by
  obtain⟨Z,h1,h2,h3⟩:=ani hy (by simpa using hb) il ig;exact⟨Z,h1,h2,ank y Z p h3⟩
 |n+1,y,hn,hy,hb=>by
  have hs:=Hg hy (-1);have mU:(mh y (-1)).all=true\/Sub (mh y (-1)) (pY ((n:Int)-1)):=by
   rcases hb with hb|hb
   .left;unfold mh;rw[a6 hb];rfl
   .have:=ala hb;rwa[show(((n+1:Nat):Int)-1-1)=(n:Int)-1 by omega]at this
  obtain⟨Z,h1,h2,h3⟩:=ZU il ig n aC hs mU;exact⟨oR Z p,KT h1 aC aC,λr hr=>ahk h1 (h2 _ (Pp hr (-1))) aC aC,anj y Z p n hy h1 aC h3 il ig⟩
def P6(p m:Nat)(h1:p<=512)(h2:m<=1000):gW 343 [iP p,iP m] (.agg [iP ((min (p+m) 512:Nat):Int)]):=
 ak call343 func343 (af [iz ((p:Int)+m) aC,.o 8 (aq (if 512<((p+m:Nat):Int)then 512 else((p+m:Nat):Int)) ((min (p+m) 512:Nat):Int) aM)]) 
def anJ(d:Dy)(p:Nat)(hd:d.ij)(h0:d.iM=0)(il:8<=p)(ig:p<=512):gW 330 [ie d,iP p] (ik (jx 1)):=
 ak call330 func330 (af [ag [ie d] (mT _ aD),ah 9 ((Dy.iM d)==0) (by rw[h0];rfl),.c (xA 1 aC)]) 
def Hs{d:Dy}(hd:d.ij):-100000<=d.iw:=by
 unfold Dy.iw;have:=hd.exp;split<;>omega
def amQ{d:Dy}(h:d.m=0):d.iw=0:=by unfold Dy.iw;rw[a6 h]
def anI(d:Dy)(p:Nat)(Z:Iv)(hd:d.ij)(h0:d.iM≠0)(ht:d.iw<=100)(hZ:Z.ij)(hH:gW 345 [.agg [iP (((min (p+(((d.iw+1).toNat)+24)) 512):Nat):Int)],ik (mg (j9 d) (min (p+(((d.iw+1).toNat)+24)) 512)),iP ((((d.iw+1).toNat):Nat):Int)] (ik Z))(il:8<=p)(ig:p<=512):gW 330 [ie d,iP p] (ik (mg Z p)):=by
 have sT:-100000<=d.iw:=Hs hd;have vp:=s8 hd;exact ak call330 func330 (af [ag [ie d] (mT _ aD),ai 9 ((Dy.iM d)==0) (by simpa using h0),ag [ie d] (oo _ aD),iz ((Dy.iw d)+1) aC,.o 14 (aq (if 0>((Dy.iw d)+1)then 0 else((Dy.iw d)+1)) ((d.iw+1).toNat:Int) aM),iz (((d.iw+1).toNat:Int)+24) aC,.c (P6 p (((d.iw+1).toNat)+24) aC aC),.c (ui d aD),.c (Fj (j9 d) aD (min (p+(((d.iw+1).toNat)+24)) 512) aC aC),ag [.agg [iP ((min (p+(((d.iw+1).toNat)+24)) 512:Nat):Int)],ik (mg (j9 d) (min (p+(((d.iw+1).toNat)+24)) 512)),iP ((d.iw+1).toNat:Int)] hH,.c (Fj Z aD p aC aC)]) 
def alJ{d:Dy}(h:d.iM≠0):d.m≠0:=λq=>h (by unfold Dy.iM;rw[a6 q])
def Z8{d:Dy}(hd:d.ij)(ht:d.iw<=100){p:Nat}(il:8<=p)(ig:p<=512):∃ Z,Z.ij/\pW (EQ d.q) Z/\gW 330 [ie d,iP (p:Int)] (ik Z):=by
 by_cases h0:d.iM=0
 .refine ⟨jx 1,wu aE,?_,anJ d p hd h0 il ig⟩;have hq:d.q=0:=by
   have h1:=sk d;rw[h0]at h1;have a:=h1.1.2;have b:=h1.2.2;have:¬0<d.q:=λq=>absurd (a q) aE 
   have:¬d.q<0:=λq=>absurd (b q) aE 
   grind
  rw[hq];exact pW.Oy (k:=0) λN _=>by rw[aai];exact Aa 1
 .have hm:=alJ h0;obtain⟨P,hP⟩:∃ P,P=min (p+((d.iw+1).toNat+24)) 512:=⟨_,rfl⟩
  have hb:=ad0 hd hm (p:=P) aC aC (n:=((d.iw+1).toNat:Int)-1) aC aC aC;obtain⟨Z,h1,h2,h3⟩:=ZU (p:=P) aC aC ((d.iw+1).toNat) aC (EO (s8 hd) aC aC) (.inr hb);subst hP;refine⟨mg Z p,EO h1 aC aC,?_,anI d p Z hd h0 ht h1 h3 il ig⟩;have hl:=h2 _ (Hb (s8 hd) aC aC (OL d));exact ahm hl λr hr=>Hb h1 aC aC hr
def Z6(a b:Iv)(ha:a.ij)(hb:b.ij):gW 329 [ik a,ik b] (ik (uJ a b)):=
 ak call329 func329 (.w (a.all=true)
  (λk1=>ae [tB 6 k1,.c nS]<|rQ (ik ia) (ik (uJ a b)) (by unfold uJ;simp[k1]))
  (λk1=>ae [tB 6 (aW k1)]<|.w (b.all=true)
   (λk2=>ae [tB 9 k2,.c nS]<|rQ (ik ia) (ik (uJ a b)) (by unfold uJ;simp[k1,k2]))
   (λk2=>ae [tB 9 (aW k2)]<|rQ (ik (Iv.mk a.lo b.hi false)) (ik (uJ a b)) (by unfold uJ;simp[k1,k2])))) 
def tK(d:Dy):Bool:=decide (jj (mD d) (iW 1000)<=0)
def Ia(d:Dy)(hd:d.ij):gW 328 [ie d] (bP (tK d)):=by
 have ha:=yN hd;have hi:(iW 1000).ij:=sV aE;exact ak call328 func328 (af [.c (FE d aD),ag [iP 1000] (rC _ aC),ag [ie (mD d),ie (iW 1000)] (nF _ _ aD aD)]) 
def Dm(x:Iv)(p:Nat)(hx:x.ij)(il:8<=p)(ig:p<=512):gW 327 [ik x,iP p] (bP (!x.all)):=
 ak call327 func327 (.w (x.all=true)
  (λk1=>ae [tB 6 k1]<|rQ (bP false) (bP (!x.all)) (by simp[k1]))
  (λk1=>ae [tB 6 (aW k1),.c (qd x aD),tT 14 (8<=(p:Int)) aC,tT 18 ((p:Int)<=512) aC]<|rQ (bP true) (bP (!x.all)) (by simp[k1]))) 
def anu(x:Iv)(p:Nat)(hx:x.ij)(il:8<=p)(ig:p<=512)(xa:x.all=true):gW 312 [ik x,iP p] (ik ia):=
 ak call312 func312 (af [.c (Dm x p aD aC aC),ai 7 (!x.all) (by rw[xa];rfl),.c nS]) 
def anz(x:Iv)(p:Nat)(hx:x.ij)(il:8<=p)(ig:p<=512)(xa:x.all=false)(h1:tK x.lo=false):gW 312 [ik x,iP p] (ik ia):=by
 obtain⟨w1,w2⟩:=hx.jW;exact ak call312 func312 (af [.c (Dm x p aD aC aC),ah 7 (!x.all) (by rw[xa];rfl),.c (Ia x.lo aD),ai 12 (tK x.lo) h1,.c nS]) 
def anw(x:Iv)(p:Nat)(hx:x.ij)(il:8<=p)(ig:p<=512)(xa:x.all=false)(h1:tK x.lo=true)(h2:tK x.hi=false):gW 312 [ik x,iP p] (ik ia):=by
 obtain⟨w1,w2⟩:=hx.jW;exact ak call312 func312 (af [.c (Dm x p aD aC aC),ah 7 (!x.all) (by rw[xa];rfl),.c (Ia x.lo aD),ah 12 (tK x.lo) h1,.c (Ia x.hi aD),ai 18 (tK x.hi) h2,.c nS]) 
def anx(x:Iv)(p:Nat)(hx:x.ij)(il:8<=p)(ig:p<=512)(xa:x.all=false)(h1:tK x.lo=true)(h2:tK x.hi=true)(Z1 Z2:Iv)(z1:Z1.ij)(z2:Z2.ij)(k1:gW 330 [ie x.lo,iP (p:Int)] (ik Z1))(k2:gW 330 [ie x.hi,iP (p:Int)] (ik Z2)):gW 312 [ik x,iP p] (ik (uJ Z1 Z2)):=by
 obtain⟨w1,w2⟩:=hx.jW;exact ak call312 func312 (af [.c (Dm x p aD aC aC),ah 7 (!x.all) (by rw[xa];rfl),.c (Ia x.lo aD),ah 12 (tK x.lo) h1,.c (Ia x.hi aD),ah 18 (tK x.hi) h2,ag [ie x.lo,iP p] k1,ag [ie x.hi,iP p] k2,.c (Z6 Z1 Z2 aD aD)]) 
def Wg{d:Dy}(hd:d.ij)(h:tK d=true):d.iw<=100:=by
 by_cases h0:d.m=0
 .rw [amQ h0];decide
 .unfold tK at h;rw[cC,pT,Bw]at h;have hq:=Ae d;have ha:iY d.q<=P2 10:=by
   have:P2 10=1024:= aL ;rw[this];have afy:((1000:Int):Rat)=1000:=rfl;rw[afy]at h;exact yO aK aK 
  have:=ZC h0 ha;omega
def SI{a b:Iv}(ha:a.ij)(hb:b.ij)(h:a.all=false->b.all=false->a.lo.q<=b.hi.q):(uJ a b).ij:=by
 unfold uJ;cases xa:a.all
 .cases xb:b.all
  .exact .inr ⟨rfl,ha.jW.1,hb.jW.2,(pT _ _).2 (h xa xb)⟩
  .exact mi
 .exact mi
def anv{x:Iv}(hx:x.ij){p:Nat}(il:8<=p)(ig:p<=512):∃ Z,Z.ij/\gW 312 [ik x,iP (p:Int)] (ik Z):=by
 cases xa:x.all with
 |true=>exact⟨ia,mi,anu x p hx il ig xa⟩
 |false=>
  cases h1:tK x.lo with
  |false=>exact⟨ia,mi,anz x p hx il ig xa h1⟩
  |true=>
   cases h2:tK x.hi with
   |false=>exact⟨ia,mi,anw x p hx il ig xa h1 h2⟩
   |true=>
    obtain⟨w1,w2⟩:=hx.jW;obtain⟨Z1,z1,l1,k1⟩:=Z8 w1 (Wg w1 h1) il ig;obtain⟨Z2,z2,l2,k2⟩:=Z8 w2 (Wg w2 h2) il ig;exact⟨uJ Z1 Z2,SI z1 z2 λa b=>ahl l1 l2 (λε hε=>aaf hx.q hε) a b,anx x p hx il ig xa h1 h2 Z1 Z2 z1 z2 k1 k2⟩
noncomputable def Yz(a:List Iv)(p:Nat)(x:Nat):PS:=⟨76,true,[(6,.e (iP x)),(5,.own 15),(0,.e (ib a)),(1,.e (iP p))],[(15,.row true 39 x 7 (iK (jb (na a p) x)))]⟩
noncomputable def YA(a:List Iv)(p x:Nat)(z:Nat):PS:=⟨76,true,[(8,.e (iP ((z+1:Nat):Int))),(7,.box 7 0),(6,.e (iP x)),(5,.own 15),(0,.e (ib a)),(1,.e (iP p))],[(7,.cells 39 (iJ (rL a (jb (na a p) x) p x z))),(15,.row true 39 x 7 (iK (jb (na a p) x)))]⟩
noncomputable def YK(a:List Iv)(p:Nat)(y:Nat):PS:=⟨59,true,[(6,.box 6 0),(5,.own 26),(4,.own 16),(3,.box 3 0),(2,.box 2 0)],[(6,.cells 3 [iP ((y+1:Nat):Int)]),(26,.row true 39 (y+1) 7 (iK (lZ a p y).2)),(16,.row true 39 (y+1) 7 (iK (lZ a p y).1)),(3,.cells 3 [iP p]),(2,.cells 26 [ib a])]⟩
noncomputable def YL(a:List Iv)(p:Nat)(x:Nat):PS:=⟨52,true,[(7,.box 7 0),(6,.box 6 0),(5,.nm 5 1 0 0),(3,.box 3 0),(0,.e (ib a))],[(7,.cells 3 [iP x]),(6,.cells 39 (iJ (mh (pL (a.getD 0 ia) p) 1))),(5,.jH true 26 39 1 7 (λ_=>x) (λ_=>iK (jb (oi a p) x)) .none),(3,.cells 3 [iP p])]⟩
def NY{a out:List Iv}{p k:Nat}(hp:1<=p)(ig:p<=4096):∀ n,(rL a out p k n).ij
 | 0=>yF 0 aE 
 |n+1=>qG (NY hp ig n) (nV _ _ hp ig) hp ig
def alj(a:List Iv)(n p:Nat)(h1:1<=n)(nG:n<=17)(ha:kI n a)(il:8<=p)(ig:p<=512)(hF:uD):gW 277 [ib a,iP p] (ib (Ep a p)):=by
 have la:=ha.len;have va0:=ha.ok 0;have px:(λ_:Nat=>(0:Nat)) 0=0:=rfl;have Ux:=oP (uO (a.getD 0 ia) p);exact ak call277 func277 (ae [.o 10 (.e (Bn _):aj (.sl true 1 1 λi_ j_=>[ib a].getD (i_*1+j_) (.v (.bool false))) (kN [a])),.c (vJ [a] n aC aC aH (AB aD)),.a (aC:0<=(0:Int)/\(0:Int)<=((a.length:Int):Int)),.a (aC:((88:Nat):Int)*(a.length:Int)<=281474976710656/\((a.length:Int):Int)<=9223372036854775807),
  iX 0 (a.length) aC,ag [ik (a.getD 0 ia),iP p] (SX _ aD _ aC aC hF),.o 22 (.e (lh _):aj (.sl true 1 7 λi_ j_=>(iJ (uO (a.getD 0 ia) p)).getD (i_*7+j_) (.v (.bool false))) (ib [uO (a.getD 0 ia) p])),.a (aC:(0+[uO (a.getD 0 ia) p].length)*88<=140737488355328),.s (Sp.jC (Yz a p) 1 a.length aC (λx hx k0=>by
    have oz:(λ_:Nat=>x) 0=x:=rfl;have qb:kI x (jb (na a p) x):=BA x λk l _ _=>by unfold na;split<;>first|exact Mn _ _|exact qI _ _ aC aC 
    have v0:=yF 0 aC;have vw:=yF x aC;have vx:=ha.ok x;have vg:=NY (a:=a) (out:=(jb (na a p) x)) (k:=x) (aC:1<=p) (aC:p<=4096) (x-1);have vd:(jv (rL a (jb (na a p) x) p x (x-1)) (jY x) p).ij:=qI _ _ aC aC;have vs:(rP (a.getD x ia) (jv (rL a (jb (na a p) x) p x (x-1)) (jY x) p) p).ij:=PI aC aC vx vd;have qy:=oP (jv (rP (a.getD x ia) (jv (rL a (jb (na a p) x) p x (x-1)) (jY x) p) p) (a.getD 0 ia) p);exact iF (ae [tT 27 ((x:Int)<a.length) aC,.c (BH 0 aC),.s (Sp.jC (YA a p x) 0 (x-1) aC (λz hz anZ=>by
    have v1:=NY (a:=a) (out:=(jb (na a p) x)) (k:=x) (aC:1<=p) (aC:p<=4096) z;have v2:=yF (z+1) aC;have v3:=qb.ok (z+1);have v4:=ha.ok (x-(z+1));have v5:(iD (jY (z+1)) ((jb (na a p) x).getD (z+1) ia) p).ij:=nV _ _ aC aC;have v6:(iD (iD (jY (z+1)) ((jb (na a p) x).getD (z+1) ia) p) (a.getD (x-(z+1)) ia) p).ij:=nV _ _ aC aC;exact iF (ae [tT 33 (((z+1:Nat):Int)<x) aC,.c (BH (z+1) aC),iX ((z+1:Nat):Int) x aC,.a (aC:(z+1)<x),.c (sC (jY (z+1)) ((jb (na a p) x).getD (z+1) ia) p aD aD aC aC),iz ((x:Int)-((z+1:Nat):Int)) aC,.o 48 (aq ((x:Int)-((z+1:Nat):Int)) ((x-(z+1):Nat):Int) aC),iX ((x-(z+1):Nat):Int) (a.length) aC,.c (sC (iD (jY (z+1)) ((jb (na a p) x).getD (z+1) ia) p) (a.getD (x-(z+1)) ia) p aD aD aC aC),.c (wh (rL a (jb (na a p) x) p x z) (iD (iD (jY (z+1)) ((jb (na a p) x).getD (z+1) ia) p) (a.getD (x-(z+1)) ia) p) p aD aD aC aC),
     iz (((z+1:Nat):Int)+1) aC]<|.e (af [.b 7 (.iT rfl:Bx.le (.cells 39 (iJ (jf (rL a (jb (na a p) x) p x z) (iD (iD (jY (z+1)) ((jb (na a p) x).getD (z+1) ia) p) (a.getD (x-(z+1)) ia) p) p))) (.cells 39 (iJ (rL a (jb (na a p) x) p x (z+1)))))])) aF)
  (λhz=>by
    exact iF (af [tF 33 ((((x-1)+1:Nat):Int)<x) aC]) aF) aI:jA 10 f277 (YA a p x 0) (.exit 2) ⟨76,true,[(7,.box 7 0),(6,.e (iP x)),(5,.own 15),(0,.e (ib a)),(1,.e (iP p))],[(7,.cells 39 (iJ (rL a (jb (na a p) x) p x (x-1)))),(15,.row true 39 x 7 (iK (jb (na a p) x)))]⟩) (af [.o 8 (aq 1 ((0+1:Nat):Int) aO),.b 7 (.iT rfl:Bx.le (.cells 39 (iJ (jY 0))) (.cells 39 (iJ (rL a (jb (na a p) x) p x 0))))]),
     iX (x:Int) (a.length) aC,.c (BH x aC),.c (zL (rL a (jb (na a p) x) p x (x-1)) (jY x) p aD aD aC aC),.c (JY (a.getD x ia) (jv (rL a (jb (na a p) x) p x (x-1)) (jY x) p) p aD aD aC aC),iX 0 (a.length) aC,.c (zL (rP (a.getD x ia) (jv (rL a (jb (na a p) x) p x (x-1)) (jY x) p) p) (a.getD 0 ia) p aD aD aC aC),.o 73 (.e (lh _):aj (.sl true 1 7 λi_ j_=>(iJ (jv (rP (a.getD x ia) (jv (rL a (jb (na a p) x) p x (x-1)) (jY x) p) p) (a.getD 0 ia) p)).getD (i_*7+j_) (.v (.bool false))) (ib [jv (rP (a.getD x ia) (jv (rL a (jb (na a p) x) p x (x-1)) (jY x) p) p) (a.getD 0 ia) p])),.a (aC:(x+[jv (rP (a.getD x ia) (jv (rL a (jb (na a p) x) p x (x-1)) (jY x) p) p) (a.getD 0 ia) p].length)*88<=140737488355328),iz ((x:Int)+1) aC]<|.e (af [.b 15 (ajG rfl (by unfold na;rw[aZ aC]):Bx.le (.row true 39 (x+[jv (rP (a.getD x ia) (jv (rL a (jb (na a p) x) p x (x-1)) (jY x) p) p) (a.getD 0 ia) p].length) 7 (λi_ j_=>if i_<x then(iK (jb (na a p) x)) i_ j_ else(E.kG (ib [jv (rP (a.getD x ia) (jv (rL a (jb (na a p) x) p x (x-1)) (jY x) p) p) (a.getD 0 ia) p])) (i_-x) j_)) (.row true 39 (x+1) 7 (iK (jb (na a p) (x+1)))))])) aF)
  (λhx=>by
    exact iF (ae [tF 27 ((a.length:Int)<a.length) aC,.z 15]<|.e (af [.o 5 (.e (BE (yB _ _).symm):aj (.sl true a.length 7 (iK (jb (na a p) a.length))) (ib (jb (na a p) a.length)))])) aF) aI:jA 6 f277 (Yz a p 1) (.exit 0) ⟨76,true,[(5,.e (ib (jb (na a p) a.length)))],[]⟩) (af [.b 15 (ajF rfl:Bx.le (.row true 39 (0+[uO (a.getD 0 ia) p].length) 7 (λi_ j_=>if i_<0 then(λ_ j_=>au.getD j_ .any) i_ j_ else(E.kG (ib [uO (a.getD 0 ia) p])) (i_-0) j_)) (.row true 39 1 7 (iK (jb (na a p) 1))))])]<|rR (ib (Ep a p)) (.iT rfl:E.le (ib (jb (na a p) a.length)) (ib (Ep a p)))) 
def alo(a out:List Iv)(i k p m:Nat)(Uj:1<=i)(hi:i<=k)(hk:k<a.length)(hm:k<=m)(l17:a.length<=17)(va:mu a)(vo:mu out)(il:8<=p)(ig:p<=512):gW 318 [iP i,(.iQ 1 λj_=>[ib a].getD j_ .any),(.iQ 1 λj_=>[iP p].getD j_ .any),(.iQ 1 λj_=>[.sl true m 7 (iK out)].getD j_ .any),(.iQ 1 λj_=>[iP k].getD j_ .any)] (ik (iD (iD (jY i) (a.getD i ia) p) (out.getD (k-i) ia) p)):=by
 have v1:=va i;have v2:=vo (k-i);have v3:=yF i aC;have v4:(iD (jY i) (a.getD i ia) p).ij:=nV _ _ aC aC;exact ak call318 func318 (af [.c (BH i aC),iX (i:Int) (a.length) aC,.c (sC (jY i) (a.getD i ia) p aD aD aC aC),iz ((k:Int)-i) aC,.o 18 (aq ((k:Int)-i) ((k-i:Nat):Int) aC),iX ((k-i:Nat):Int) m aC,.c (sC (iD (jY i) (a.getD i ia) p) (out.getD (k-i) ia) p aD aD aC aC)]) 
def YF(a out:List Iv)(k p m:Nat)(lP:1<=k)(hk:k<a.length)(hm:k<=m)(l17:a.length<=17)(va:mu a)(vo:mu out)(il:8<=p)(ig:p<=512):gW 317 [.sl true m 7 (iK out),(.iQ 1 λj_=>[iP k].getD j_ .any),(.iQ 1 λj_=>[iP p].getD j_ .any),(.iQ 1 λj_=>[ib a].getD j_ .any)] (ik (rk a p k out)):=by
 have vs:=Ho (aC:1<=p) (aC:p<=4096) (T:=(λi=>(iD (iD (jY i) (a.getD i ia) p) (out.getD (k-i) ia) p))) (a:=1) (k-1) λ_ _ _=>nV _ _ aC aC 
 have vw:=yF k aC;exact ak call317 func317 (ae [.c (KO 1 (k-1) p _ aC _ _ (λi=>(iD (iD (jY i) (a.getD i ia) p) (out.getD (k-i) ia) p)) aC il ig λi h1 h2=>⟨nV _ _ aC aC,alo a out i k p m h1 aC hk hm l17 va vo il ig⟩:gW 306 [iP 1,iP k,iP p,.fn 318 [(.iQ 1 λj_=>[ib a].getD j_ .any),(.iQ 1 λj_=>[iP p].getD j_ .any),(.iQ 1 λj_=>[.sl true m 7 (iK out)].getD j_ .any),(.iQ 1 λj_=>[iP k].getD j_ .any)]] _),.c (BH k aC),.c (zL (mq p (λi=>(iD (iD (jY i) (a.getD i ia) p) (out.getD (k-i) ia) p)) 1 (k-1)) (jY k) p aD aD aC aC)]<|rR (ik (rk a p k out)) (.iT rfl:E.le (ik (jv (mq p (λi=>(iD (iD (jY i) (a.getD i ia) p) (out.getD (k-i) ia) p)) 1 (k-1)) (jY k) p)) (ik (rk a p k out)))) 
def Yl{T y:Nat}{xs:List Iv}{v:Iv}(h:xs.length=y+1):Bx.le (.row true T ((y+1)+[v].length) 7 λi j=>if i<y+1 then iK xs i j else(E.kG (ib [v])) (i-(y+1)) j) (.row true T (y+1+1) 7 (iK (xs++[v]))):=by
 have e:=J0 (T:=T) (n:=y+1) (xs:=xs) (y:=v) h.symm;have e2:(xs++[v]).length=y+1+1:=by simp[h]
 rw[e2]at e;exact e
def Yk{T:Nat}{v:Iv}{e:Nat->Nat->E}:Bx.le (.row true T (0+[v].length) 7 λa j=>if a<0 then e a j else(E.kG (ib [v])) (a-0) j) (.row true T (0+1) 7 (iK [v])):=.row rfl λi j hi hj=>by
 have hi:i<0+1:=hi;obtain rfl:i=0:= aC ;exact⟨.iT rfl,tI _ _ hj⟩
def YI(a:List Iv)(n p:Nat)(h1:1<=n)(nG:n<=17)(ha:kI n a)(il:8<=p)(ig:p<=512)(hF:uD):gW 278 [ib a,iP p] (.ix [ib (lZ a p (a.length-1)).1,ib (lZ a p (a.length-1)).2]):=by
 have la:=ha.len;have va0:=ha.ok 0;have qb:=Hf (aC:1<=p) (aC:p<=4096) a (a.length-1);have af8:=oP (uP (a.getD 0 ia) p);have af9:=oP (uM (a.getD 0 ia) p);exact ak call278 func278 (ae [.o 11 (.e (Bn _):aj (.sl true 1 1 λi_ j_=>[ib a].getD (i_*1+j_) (.v (.bool false))) (kN [a])),.c (vJ [a] n aC aC aH (AB aD)),.a (aC:0<=(0:Int)/\(0:Int)<=((a.length:Int):Int)),.a (aC:((88:Nat):Int)*(a.length:Int)<=281474976710656/\((a.length:Int):Int)<=9223372036854775807),
  iX 0 (a.length) aC,ag [ik (a.getD 0 ia),iP p] (SY _ aD _ aC aC hF),.o 22 (.e (lh _):aj (.sl true 1 7 λi_ j_=>(iJ (uP (a.getD 0 ia) p)).getD (i_*7+j_) (.v (.bool false))) (ib [uP (a.getD 0 ia) p])),.a (aC:(0+[uP (a.getD 0 ia) p].length)*88<=140737488355328),.a (aC:0<=(0:Int)/\(0:Int)<=((a.length:Int):Int)),.a (aC:((88:Nat):Int)*(a.length:Int)<=281474976710656/\((a.length:Int):Int)<=9223372036854775807),iX 0 (a.length) aC,ag [ik (a.getD 0 ia),iP p] (SU _ aD _ aC aC hF),.o 32 (.e (lh _):aj (.sl true 1 7 λi_ j_=>(iJ (uM (a.getD 0 ia) p)).getD (i_*7+j_) (.v (.bool false))) (ib [uM (a.getD 0 ia) p])),.a (aC:(0+[uM (a.getD 0 ia) p].length)*88<=140737488355328),.s (Sp.jC (YK a p) 0 (a.length-1) aC (λy hy anY=>by
    have qb:=Hf (aC:1<=p) (aC:p<=4096) a y;have vp:=OJ (aC:1<=p) (aC:p<=4096) a (lZ a p y).1 (y+1);have af8:=oP (rk a p (y+1) (lZ a p y).2);have af9:=oP (qe (rk a p (y+1) (lZ a p y).1));exact iF (ae [tT 37 (((y+1:Nat):Int)<a.length) aC,ag [.sl true (y+1) 7 (iK (lZ a p y).2),(.iQ 1 λj_=>[iP ((y+1:Nat):Int)].getD j_ .any),(.iQ 1 λj_=>[iP p].getD j_ .any),(.iQ 1 λj_=>[ib a].getD j_ .any)] (YF a (lZ a p y).2 (y+1) p _ aC aC aC aC ha.ok qb.2.ok il ig),.a (GA _:vH (ik (rk a p (y+1) (lZ a p y).2))),ag [.sl true (y+1) 7 (iK (lZ a p y).1),(.iQ 1 λj_=>[iP ((y+1:Nat):Int)].getD j_ .any),(.iQ 1 λj_=>[iP p].getD j_ .any),(.iQ 1 λj_=>[ib a].getD j_ .any)] (YF a (lZ a p y).1 (y+1) p _ aC aC aC aC ha.ok qb.1.ok il ig),.a (GA _:vH (ik (rk a p (y+1) (lZ a p y).1))),.c (JW (rk a p (y+1) (lZ a p y).1) aD),.o 50 (.e (lh _):aj (.sl true 1 7 λi_ j_=>(iJ (rk a p (y+1) (lZ a p y).2)).getD (i_*7+j_) (.v (.bool false))) (ib [rk a p (y+1) (lZ a p y).2])),.a (aC:((y+1)+[rk a p (y+1) (lZ a p y).2].length)*88<=140737488355328),.o 54 (.e (lh _):aj (.sl true 1 7 λi_ j_=>(iJ (qe (rk a p (y+1) (lZ a p y).1))).getD (i_*7+j_) (.v (.bool false))) (ib [qe (rk a p (y+1) (lZ a p y).1)])),.a (aC:((y+1)+[qe (rk a p (y+1) (lZ a p y).1)].length)*88<=140737488355328),iz (((y+1:Nat):Int)+1) aC]<|.e (af [.b 26 (Yl qb.2.len:Bx.le (.row true 39 ((y+1)+[qe (rk a p (y+1) (lZ a p y).1)].length) 7 (λi_ j_=>if i_<(y+1)then(iK (lZ a p y).2) i_ j_ else(E.kG (ib [qe (rk a p (y+1) (lZ a p y).1)])) (i_-(y+1)) j_)) (.row true 39 ((y+1)+1) 7 (iK (lZ a p (y+1)).2))),.b 16 (Yl qb.1.len:Bx.le (.row true 39 ((y+1)+[rk a p (y+1) (lZ a p y).2].length) 7 (λi_ j_=>if i_<(y+1)then(iK (lZ a p y).1) i_ j_ else(E.kG (ib [rk a p (y+1) (lZ a p y).2])) (i_-(y+1)) j_)) (.row true 39 ((y+1)+1) 7 (iK (lZ a p (y+1)).1)))])) aF)
  (λhy=>by
    exact iF (af [tF 37 ((((a.length-1)+1:Nat):Int)<a.length) aC]) aF) aI:jA 6 f278 (YK a p 0) (.exit 0) ⟨59,true,[(5,.own 26),(4,.own 16)],[(26,.row true 39 ((a.length-1)+1) 7 (iK (lZ a p (a.length-1)).2)),(16,.row true 39 ((a.length-1)+1) 7 (iK (lZ a p (a.length-1)).1))]⟩) (af [.b 6 (.iT rfl:Bx.le (.cells 3 [iP 1]) (.cells 3 [iP ((0+1:Nat):Int)])),.b 26 (Yk:Bx.le (.row true 39 (0+[uM (a.getD 0 ia) p].length) 7 (λi_ j_=>if i_<0 then(λ_ j_=>au.getD j_ .any) i_ j_ else(E.kG (ib [uM (a.getD 0 ia) p])) (i_-0) j_)) (.row true 39 (0+1) 7 (iK (lZ a p 0).2))),.b 16 (Yk:Bx.le (.row true 39 (0+[uP (a.getD 0 ia) p].length) 7 (λi_ j_=>if i_<0 then(λ_ j_=>au.getD j_ .any) i_ j_ else(E.kG (ib [uP (a.getD 0 ia) p])) (i_-0) j_)) (.row true 39 (0+1) 7 (iK (lZ a p 0).1)))])]<|rR (.ix [ib (lZ a p (a.length-1)).1,ib (lZ a p (a.length-1)).2]) (.ix (.cons (BE (by rw[qb.1.len])) (.cons (BE (by rw[qb.2.len])) .nil)):E.le (.ix [.sl true ((a.length-1)+1) 7 (iK (lZ a p (a.length-1)).1),.sl true ((a.length-1)+1) 7 (iK (lZ a p (a.length-1)).2)]) (.ix [ib (lZ a p (a.length-1)).1,ib (lZ a p (a.length-1)).2]))) 
def alu(out:List Iv)(i k p m:Nat)(Uj:1<=i)(hi:i<k)(hm:k<=m)(k17:k<=17)(vo:mu out)(il:8<=p)(ig:p<=512):gW 321 [iP i,(.iQ 1 λ_=>.sl true m 7 (iK out)),(.iQ 1 λj_=>[iP k].getD j_ .any),(.iQ 1 λj_=>[iP p].getD j_ .any)] (ik (iD (out.getD i ia) (out.getD (k-i) ia) p)):=by
 have v1:=vo i;have v2:=vo (k-i);exact ak call321 func321 (af [iX (i:Int) m aC,iz ((k:Int)-i) aC,.o 13 (aq ((k:Int)-i) ((k-i:Nat):Int) aC),
  iX ((k-i:Nat):Int) m aC,.c (sC (out.getD i ia) (out.getD (k-i) ia) p aD aD aC aC)]) 
def alv(a:List Iv)(n p:Nat)(h1:1<=n)(nG:n<=17)(ha:kI n a)(il:8<=p)(ig:p<=512)(hF:uD):gW 279 [ib a,iP p] (ib (BL a p)):=by
 have la:=ha.len;have va0:=ha.ok 0;have px:(λ_:Nat=>(0:Nat)) 0=0:=rfl;have Ux:=oP (pL (a.getD 0 ia) p);exact ak call279 func279 (ae [.o 10 (.e (Bn _):aj (.sl true 1 1 λi_ j_=>[ib a].getD (i_*1+j_) (.v (.bool false))) (kN [a])),.c (vJ [a] n aC aC aH (AB aD)),.a (aC:0<=(0:Int)/\(0:Int)<=((a.length:Int):Int)),.a (aC:((88:Nat):Int)*(a.length:Int)<=281474976710656/\((a.length:Int):Int)<=9223372036854775807),.a (aC:0<1),
  iX 0 (a.length) aC,ag [ik (a.getD 0 ia),iP p] (S1 _ aD _ aC aC hF),.o 22 (.e (lh _):aj (.sl true 1 7 λi_ j_=>(iJ (pL (a.getD 0 ia) p)).getD (i_*7+j_) (.v (.bool false))) (ib [pL (a.getD 0 ia) p])),.a (aC:0<1),.a (aC:((λ_=>0) 0+[pL (a.getD 0 ia) p].length)*88<=140737488355328),.a (rfl:0=0),.a (rfl:0=0),.a (aC:0<1),.a (aC:0<1),.a (aC:0<1),.a (aH:0<=(0:Int)/\(0:Int)<(((λq=>if q=0 then(λ_=>0) q+[pL (a.getD 0 ia) p].length else(λ_=>0) q) 0:Nat):Int)),.a (aC:0<1),.a (aH:0<(λq=>if q=0 then(λ_=>0) q+[pL (a.getD 0 ia) p].length else(λ_=>0) q) 0),.c (Ix ([pL (a.getD 0 ia) p].getD 0 ia) (FM _ _) 1 aE aE),.s (Sp.jC (YL a p) 1 a.length aC (λx hx k0=>by
    have oz:(λ_:Nat=>x) 0=x:=rfl;have qb:kI x (jb (oi a p) x):=BA x λk l _ _=>by unfold oi;split<;>first|exact FM _ _|exact qI _ _ aC aC 
    have vls:=J2 (aC:1<=p) (aC:p<=4096) (ha.ok x) (T:=(λi=>iD ((jb (oi a p) x).getD i ia) ((jb (oi a p) x).getD (x-i) ia) p)) (a:=1) (x-1) λ_ _ _=>nV _ _ aC aC 
    have vx:=ha.ok x;have vsc:(mh (pL (a.getD 0 ia) p) 1).ij:=Hg (FM _ _) 1;have qy:=oP (jv (pI p (a.getD x ia) (λi=>iD ((jb (oi a p) x).getD i ia) ((jb (oi a p) x).getD (x-i) ia) p) 1 (x-1)) (mh (pL (a.getD 0 ia) p) 1) p);exact iF (ae [tT 31 ((x:Int)<a.length) aC,iX (x:Int) (a.length) aC,iz ((x:Int)-1) aC,.c (Yy _ (ha.ok x) 1 (x-1) p _ aC _ _ (λi=>iD ((jb (oi a p) x).getD i ia) ((jb (oi a p) x).getD (x-i) ia) p) aC il ig λi h1 h2=>⟨nV _ _ aC aC,alu _ i x p _ h1 aC aC aC qb.ok il ig⟩:gW 308 [ik (a.getD x ia),iP 1,iP ((x:Int)-1),iP p,.fn 321 [(.iQ 1 λ_=>(.sl true ((λ_=>x) 0) 7 ((λ_=>iK (jb (oi a p) x)) 0))),(.iQ 1 λj_=>[iP x].getD j_ .any),(.iQ 1 λj_=>[iP p].getD j_ .any)]] _),.a (GA _:vH (ik (pI p (a.getD x ia) (λi=>iD ((jb (oi a p) x).getD i ia) ((jb (oi a p) x).getD (x-i) ia) p) 1 (x-1)))),.a (aC:0<1),.c (zL (pI p (a.getD x ia) (λi=>iD ((jb (oi a p) x).getD i ia) ((jb (oi a p) x).getD (x-i) ia) p) 1 (x-1)) (mh (pL (a.getD 0 ia) p) 1) p aD aD aC aC),.o 48 (.e (lh _):aj (.sl true 1 7 λi_ j_=>(iJ (jv (pI p (a.getD x ia) (λi=>iD ((jb (oi a p) x).getD i ia) ((jb (oi a p) x).getD (x-i) ia) p) 1 (x-1)) (mh (pL (a.getD 0 ia) p) 1) p)).getD (i_*7+j_) (.v (.bool false))) (ib [jv (pI p (a.getD x ia) (λi=>iD ((jb (oi a p) x).getD i ia) ((jb (oi a p) x).getD (x-i) ia) p) 1 (x-1)) (mh (pL (a.getD 0 ia) p) 1) p])),.a (aC:0<1),.a (aC:((λ_=>x) 0+[jv (pI p (a.getD x ia) (λi=>iD ((jb (oi a p) x).getD i ia) ((jb (oi a p) x).getD (x-i) ia) p) 1 (x-1)) (mh (pL (a.getD 0 ia) p) 1) p].length)*88<=140737488355328),.a (rfl:0=0),.a (rfl:0=0),.a (aC:0<1),iz ((x:Int)+1) aC]<|.e (af [.b 5 (O4 (by unfold oi;rw[aZ aC]):Bx.le (.jH true 26 39 1 7 (λq=>if q=0 then(λ_=>x) q+[jv (pI p (a.getD x ia) (λi=>iD ((jb (oi a p) x).getD i ia) ((jb (oi a p) x).getD (x-i) ia) p) 1 (x-1)) (mh (pL (a.getD 0 ia) p) 1) p].length else(λ_=>x) q) (λq i j=>if q=0 then(if i<(λ_=>x) q then(λ_=>iK (jb (oi a p) x)) q i j else(E.kG (ib [jv (pI p (a.getD x ia) (λi=>iD ((jb (oi a p) x).getD i ia) ((jb (oi a p) x).getD (x-i) ia) p) 1 (x-1)) (mh (pL (a.getD 0 ia) p) 1) p])) (i-(λ_=>x) q) j)else(λ_=>iK (jb (oi a p) x)) q i j) .none) (.jH true 26 39 1 7 (λ_=>(x+1)) (λ_=>iK (jb (oi a p) (x+1))) .none))])) aF)
  (λhx=>by
    exact iF (af [tF 31 ((a.length:Int)<a.length) aC]) aF) aI:jA 7 f279 (YL a p 1) (.exit 0) ⟨52,true,[(5,.nm 5 1 0 0)],[(5,.jH true 26 39 1 7 (λ_=>a.length) (λ_=>iK (jb (oi a p) a.length)) .none)]⟩) (af [.b 5 (Xy rfl:Bx.le (.jH true 26 39 1 7 (λq=>if q=0 then(λ_=>0) q+[pL (a.getD 0 ia) p].length else(λ_=>0) q) (λq i j=>if q=0 then(if i<(λ_=>0) q then(λ_=>λ_ j_=>au.getD j_ .any) q i j else(E.kG (ib [pL (a.getD 0 ia) p])) (i-(λ_=>0) q) j)else(λ_=>λ_ j_=>au.getD j_ .any) q i j) .none) (.jH true 26 39 1 7 (λ_=>1) (λ_=>iK (jb (oi a p) 1)) .none))]),.a (aC:0<1)]<|rR (ib (BL a p)) (BE (xs:=BL a p) (by unfold BL;rw[yB]):E.le (.sl true ((λ_=>a.length) 0) 7 ((λ_=>iK (jb (oi a p) a.length)) 0)) (ib (BL a p)))) 
def vX(a:List Iv)(h:Iv)(p m:Nat):Nat->Iv
 | 0=>a.getD m ia
 |n+1=>jf (a.getD (m-(n+1)) ia) (iD (vX a h p m n) h p) p
def np(a:List Iv)(h:Iv)(p:Nat):Iv:=vX a h p (a.length-1) (a.length-1)
def Uy{a:List Iv}{h:Iv}{p m:Nat}(hp:1<=p)(ig:p<=4096)(va:mu a):∀ n,(vX a h p m n).ij
 | 0=>va m
 |n+1=>qG (va _) (nV _ _ hp ig) hp ig
def Hh(o:ng)(a b:List Iv)(n p:Nat)(h1:1<=n)(nG:n<=17)(ha:kI n a)(hb:kI n b)(il:8<=p)(ig:p<=512)(r1:3<=o.kind)(r2:o.kind<=13)(r3:o.n<=16)(hF:o.kind<=8\/uD):gW 237 [iP o.kind,iP o.n,ib a,ib b,iP p] (ib (nA o a b p)):=
 ak call237 func237 (.w ((o.kind:Int)=3)
  (λk1=>ae [tB 17 (aV k1),.c (ale a b n p h1 nG ha hb il ig)]<|rQ (ib (Dt a b p)) (ib (nA o a b p)) (by unfold nA;simp[(aC:o.kind=3)]))
  (λk1=>ae [tB 17 (aU k1)]<|.w ((o.kind:Int)=4)
   (λk2=>ae [tB 23 (aV k2),.c (alx a b n p h1 nG ha hb il ig)]<|rQ (ib (EU a b p)) (ib (nA o a b p)) (by unfold nA;simp[(aC:¬o.kind=3),(aC:o.kind=4)]))
   (λk2=>ae [tB 23 (aU k2)]<|.w ((o.kind:Int)=5)
    (λk3=>ae [tB 29 (aV k3),.c (alk a b n p h1 nG ha hb il ig)]<|rQ (ib (sY a b p)) (ib (nA o a b p)) (by unfold nA;simp[(aC:¬o.kind=3),(aC:¬o.kind=4),(aC:o.kind=5)]))
    (λk3=>ae [tB 29 (aU k3)]<|.w ((o.kind:Int)=6)
     (λk4=>ae [tB 35 (aV k4),.c (alg a b n p h1 nG ha hb il ig)]<|rQ (ib (AO a b p)) (ib (nA o a b p)) (by unfold nA;simp[(aC:¬o.kind=3),(aC:¬o.kind=4),(aC:¬o.kind=5),(aC:o.kind=6)]))
     (λk4=>ae [tB 35 (aU k4)]<|.w ((o.kind:Int)=7)
      (λk5=>ae [tB 41 (aV k5),.c (aln a n h1 nG ha)]<|rQ (ib (Ew a)) (ib (nA o a b p)) (by unfold nA;simp[(aC:¬o.kind=3),(aC:¬o.kind=4),(aC:¬o.kind=5),(aC:¬o.kind=6),(aC:o.kind=7)]))
      (λk5=>ae [tB 41 (aU k5)]<|.w ((o.kind:Int)=8)
       (λk6=>ae [tB 45 (aV k6),ag [ib a,iP o.n,iP p] (als a n p o.n h1 nG ha il ig r3)]<|rQ (ib (s9 a o.n p)) (ib (nA o a b p)) (by unfold nA;simp[(aC:¬o.kind=3),(aC:¬o.kind=4),(aC:¬o.kind=5),(aC:¬o.kind=6),(aC:¬o.kind=7),(aC:o.kind=8)]))
       (λk6=>ae [tB 45 (aU k6)]<|.w ((o.kind:Int)=9)
        (λk7=>ae [tB 51 (aV k7),.c (ali a n p h1 nG ha il ig (hF.resolve_left aC))]<|rQ (ib (AS a p)) (ib (nA o a b p)) (by unfold nA;simp[(aC:¬o.kind=3),(aC:¬o.kind=4),(aC:¬o.kind=5),(aC:¬o.kind=6),(aC:¬o.kind=7),(aC:¬o.kind=8),(aC:o.kind=9)]))
        (λk7=>ae [tB 51 (aU k7)]<|.w ((o.kind:Int)=10)
         (λk8=>ae [tB 56 (aV k8),.c (alj a n p h1 nG ha il ig (hF.resolve_left aC))]<|rQ (ib (Ep a p)) (ib (nA o a b p)) (by unfold nA;simp[(aC:¬o.kind=3),(aC:¬o.kind=4),(aC:¬o.kind=5),(aC:¬o.kind=6),(aC:¬o.kind=7),(aC:¬o.kind=8),(aC:¬o.kind=9),(aC:o.kind=10)]))
         (λk8=>ae [tB 56 (aU k8)]<|.w ((o.kind:Int)=11)
          (λk9=>ae [tB 61 (aV k9),.c (YI a n p h1 nG ha il ig (hF.resolve_left aC))]<|rQ (ib ((lZ a p (a.length-1)).1)) (ib (nA o a b p)) (by unfold nA;simp[(aC:¬o.kind=3),(aC:¬o.kind=4),(aC:¬o.kind=5),(aC:¬o.kind=6),(aC:¬o.kind=7),(aC:¬o.kind=8),(aC:¬o.kind=9),(aC:¬o.kind=10),(aC:o.kind=11)]))
          (λk9=>ae [tB 61 (aU k9)]<|.w ((o.kind:Int)=12)
           (λk10=>ae [tB 70 (aV k10),.c (YI a n p h1 nG ha il ig (hF.resolve_left aC))]<|rQ (ib ((lZ a p (a.length-1)).2)) (ib (nA o a b p)) (by unfold nA;simp[(aC:¬o.kind=3),(aC:¬o.kind=4),(aC:¬o.kind=5),(aC:¬o.kind=6),(aC:¬o.kind=7),(aC:¬o.kind=8),(aC:¬o.kind=9),(aC:¬o.kind=10),(aC:¬o.kind=11),(aC:o.kind=12)]))
           (λk10=>ae [tB 70 (aU k10)]<|.w ((o.kind:Int)=13)
            (λk11=>ae [tB 79 (aV k11),.c (alv a n p h1 nG ha il ig (hF.resolve_left aC))]<|rQ (ib (BL a p)) (ib (nA o a b p)) (by unfold nA;simp[(aC:¬o.kind=3),(aC:¬o.kind=4),(aC:¬o.kind=5),(aC:¬o.kind=6),(aC:¬o.kind=7),(aC:¬o.kind=8),(aC:¬o.kind=9),(aC:¬o.kind=10),(aC:¬o.kind=11),(aC:¬o.kind=12),(aC:o.kind=13)]))
            (λk11=>.x aC)))))))))))) 
end Go.Proofs.YtgdahmmlddfimaaGreatDoor
