/- Lemmas that the last file uses. -/
import Derived.Test.YtkjkcjhacddojaaGreatDoorM04
import Derived.MapKept
set_option linter.unusedSimpArgs false
set_option linter.unusedVariables false
set_option linter.defProp false
set_option maxHeartbeats 4000000
open Go.Proofs.Tryz
namespace Go.Proofs.YtkjkcjhacddojaaGreatDoor
open Go.RowKit Fp Pu
abbrev r8(h)(d:Dy)(p)(k):=jJ (ia (ib h) (gZ d) p) p (k+1)
abbrev r7(h)(d:Dy)(p)(k):=ik (ia (ib h) (gZ d) p) (gY ((k+2:Nat):Int)) p
abbrev lQ(m)(h)(p)(k)(d:Dy):=λi j=>jx (((iQ m h p k).getD i []).getD j gL) (Iv.mk (iB (ik (r8 h d p k) (je (gY 1) (r7 h d p k) p) p).hi) (ik (r8 h d p k) (je (gY 1) (r7 h d p k) p) p).hi false) p
abbrev Av(h)(d:Dy)(p)(k):=Iv.mk (iB ((ik (r8 h d p k) (je (gY 1) (r7 h d p k) p) p).hi)) ((ik (r8 h d p k) (je (gY 1) (r7 h d p k) p) p).hi) false
abbrev sI(m)(h)(p)(x):=gV (lM (kK (jX m h p x) m p) (ik h (gY ((x+1:Nat):Int)) p) p)
abbrev yO(m)(h)(p)(k)(x)(y)(d:Dy):=jx (((iQ m h p k).getD x []).getD y gL) (Av h d p k) p
abbrev B0(h)(d:Dy)(p)(x):=ik (ia (ib h) (gZ d) p) (gY ((x+1:Nat):Int)) p
abbrev Aw(h)(x)(p):=gR (ik h (gY ((x+1:Nat):Int)) p)
abbrev Az(h)(d:Dy)(p)(x):=jJ (ia (ib h) (gZ d) p) p x
def TX(m:List (List Iv))(x:Nat):PS:=⟨28,true,[(3,.e (iP x)),(0,.e (gV m))],[]⟩
def G6(m:List (List Iv))(x:Nat)(y:Nat):PS:=⟨28,true,[(4,.e (iP y)),(3,.e (iP x)),(0,.e (gV m))],[]⟩
def TW(m:List (List Iv))(N J:Nat)(x:Nat):PS:=⟨28,true,[(3,.e (iP x)),(0,.e (gV m))],[]⟩
def TV(m:List (List Iv))(N J:Nat)(y:Nat):PS:=⟨28,true,[(4,.e (iP y)),(3,.e (iP N)),(0,.e (gV m))],[]⟩
def TU(m:List (List Iv))(h:Iv)(k p J:Nat)(x:Nat):PS:=⟨177,true,[(12,.e (iP ((x+1:Nat):Int))),(11,.e (gV (iQ m h p x))),(10,.e (gV (jX m h p x))),(5,.box 5 0),(0,.e (gV m)),(2,.e (iP k)),(3,.e (iP p))],[(5,.cells 46 (iA h))]⟩
def uF(m:List (List Iv))(h:Iv)(k p:Nat)(x:Nat):PS:=⟨177,true,[(12,.e (iP ((x+1:Nat):Int))),(11,.e (gV (iQ m h p x))),(10,.e (gV (jX m h p x))),(5,.box 5 0),(0,.e (gV m)),(2,.e (iP k)),(3,.e (iP p))],[(5,.cells 46 (iA h))]⟩
def B4(m:List (List Iv))(h:Iv)(d:Dy)(k p:Nat)(x:Nat):PS:=⟨177,true,[(19,.e (iP ((x+1:Nat):Int))),(18,.box 18 0),(17,.box 17 0),(11,.e (gV (iQ m h p k))),(0,.e (gV m)),(2,.e (iP k)),(3,.e (iP p))],[(18,.cells 46 (iA (Az h d p x))),(17,.cells 46 (iA (ia (ib h) (gZ d) p)))]⟩
def G4(m:List (List Iv))(h:Iv)(d:Dy)(k p:Nat)(x:Nat):PS:=⟨177,true,[(23,.e (iP x)),(22,.own 141),(21,.box 21 0),(11,.e (gV (iQ m h p k))),(0,.e (gV m)),(3,.e (iP p))],[(141,.iH true 26 46 m.length 7 (iS (iL m.length (λ_=>m.length) (lQ m h p k d) x 0)) (jH (iL m.length (λ_=>m.length) (lQ m h p k d) x 0)) .none),(21,.cells 46 (iA (Av h d p k)))]⟩
def G5(m:List (List Iv))(h:Iv)(d:Dy)(k p:Nat)(x:Nat)(y:Nat):PS:=⟨177,true,[(24,.e (iP y)),(23,.e (iP x)),(22,.own 141),(21,.box 21 0),(11,.e (gV (iQ m h p k))),(0,.e (gV m)),(3,.e (iP p))],[(141,.iH true 26 46 m.length 7 (iS (iL m.length (λ_=>m.length) (lQ m h p k d) x y)) (jH (iL m.length (λ_=>m.length) (lQ m h p k d) x y)) .none),(21,.cells 46 (iA (Av h d p k)))]⟩
def Ej(n:Nat)(hn:n<4294967296):gJ 112 [iP (n:Int)] (gM (jI (n:Int))):=by
 rw[tm];exact Hf n hn
def lO(m:List (List Iv)):Bool:=m.any λr=>r.any λx=>x.all
def pZ(n:Nat)(h:n<4294967296):gJ 140 [iP n] (gR (gY (n:Int))):=
 aj call140 func140 (ae [af [iP n] (Ej n aD),.c (vA (jI (n:Int)))]) 
def afy(m:List (List Iv))(hl:m.length<=1000)(nP:∀ i,(m.getD i []).length<=1000)(kf:∀ i,i<m.length->∀ j,j<(m.getD i []).length->((m.getD i []).getD j gL).all=false):gJ 141 [gV m] (bP true):=
 aj call141 func141 (ae [.s (Sp.iG (TX m) 0 m.length aD (λx hx jf=>by
    have s6:=nP x;exact gX (ae [tT 8 ((x:Int)<m.length) aD,.s (Sp.iG (G6 m x) 0 ((m.getD x []).length) aD (λy hy qf=>by
    exact gX (ae [iX (x:Int) (m.length) aD,tT 17 ((y:Int)<((m.getD x []).length:Int)) aD,iX (x:Int) (m.length) aD,iX (y:Int) ((m.getD x []).length) aD,ah 27 (((m.getD x []).getD y gL).all) (kf x aD y aD),gW ((y:Int)+1) aD]) aG)
  (λhy=>by
    exact gX (ae [iX (x:Int) (m.length) aD,tF 17 (((m.getD x []).length:Int)<((m.getD x []).length:Int)) aD]) aG) aK:iF 5 f141 (G6 m x 0) (.exit 2) ⟨28,true,[(3,.e (iP x)),(0,.e (gV m))],[]⟩) .nil,
     gW ((x:Int)+1) aD]) aG)
  (λhx=>by
    exact gX (ae [tF 8 ((m.length:Int)<m.length) aD]) aG) aK:iF 2 f141 (TX m 0) (.exit 0) ⟨28,true,[],[]⟩) .nil]) 
def afx(m:List (List Iv))(hl:m.length<=1000)(nP:∀ i,(m.getD i []).length<=1000)(N:Nat)(hN:N<m.length)(kf:∀ i,i<N->∀ j,j<(m.getD i []).length->((m.getD i []).getD j gL).all=false)(J:Nat)(hJ:J<(m.getD N []).length)(Kv:∀ j,j<J->((m.getD N []).getD j gL).all=false)(mS:((m.getD N []).getD J gL).all=true):gJ 141 [gV m] (bP false):=
 aj call141 func141 (ae [.s (Sp.iG (TW m N J) 0 N aD (λx hx jf=>by
    have s6:=nP x;exact gX (ae [tT 8 ((x:Int)<m.length) aD,.s (Sp.iG (G6 m x) 0 ((m.getD x []).length) aD (λy hy qf=>by
    exact gX (ae [iX (x:Int) (m.length) aD,tT 17 ((y:Int)<((m.getD x []).length:Int)) aD,iX (x:Int) (m.length) aD,iX (y:Int) ((m.getD x []).length) aD,ah 27 (((m.getD x []).getD y gL).all) (kf x aD y aD),gW ((y:Int)+1) aD]) aG)
  (λhy=>by
    exact gX (ae [iX (x:Int) (m.length) aD,tF 17 (((m.getD x []).length:Int)<((m.getD x []).length:Int)) aD]) aG) aK:iF 5 f141 (G6 m x 0) (.exit 2) ⟨28,true,[(3,.e (iP x)),(0,.e (gV m))],[]⟩) .nil,
     gW ((x:Int)+1) aD]) aG)
  (λhx=>by
    have s6:=nP N;exact gX (ae [tT 8 ((N:Int)<m.length) aD,.s (Sp.iG (TV m N J) 0 J aD (λy hy qf=>by
    exact gX (ae [iX (N:Int) (m.length) aD,tT 17 ((y:Int)<((m.getD N []).length:Int)) aD,iX (N:Int) (m.length) aD,iX (y:Int) ((m.getD N []).length) aD,ah 27 (((m.getD N []).getD y gL).all) (Kv y aD),gW ((y:Int)+1) aD]) aG)
  (λhy=>by
    exact gX (ae [iX (N:Int) (m.length) aD,tT 17 ((J:Int)<((m.getD N []).length:Int)) aD,iX (N:Int) (m.length) aD,iX (J:Int) ((m.getD N []).length) aD,ag 27 (((m.getD N []).getD J gL).all) mS]) aG) aK:iF 5 f141 (TV m N J 0) .ret ⟨28,true,[(2,.e (bP false))],[]⟩) .nil]) aG) aK:iF 2 f141 (TW m N J 0) .ret ⟨28,true,[(2,.e (bP false))],[]⟩) .nil]) 
def wD(m:List (List Iv))(hl:m.length<=1000)(nP:∀ i,(m.getD i []).length<=1000):gJ 141 [gV m] (bP (!(lO m))):=by
 unfold lO;rw[<-L3];by_cases hb:∃ N,N<m.length/\((m.getD N []).any λx=>x.all)=true
 .obtain ⟨N,hN,mS,mJ⟩:=pX hb;have e:((List.range (m.length)).any λi_=>(m.getD i_ []).any λx=>x.all)=true:=cE.2 ⟨N,bD.2 hN,mS⟩;rw[e];have kf:∀ i,i<N->∀ j,j<(m.getD i []).length->((m.getD i []).getD j gL).all=false:=λi hi j hj=>by
   have:=mJ i hi;rw[<-Ca]at this;simpa using List.any_eq_false.1 this j (bD.2 hj)
  have hex:∃ j,j<(m.getD N []).length/\((m.getD N []).getD j gL).all=true:=by
   rw[<-Ca]at mS;obtain⟨j,hj,h⟩:=cE.1 mS;exact⟨j,bD.1 hj,h⟩
  obtain⟨J,hJ,J7,Kq⟩:=pX hex;exact afx m hl nP N hN kf J hJ Kq J7
 .have nU:∀ i,i<m.length->((m.getD i []).any λx=>x.all)=false:=λi hi=>by
   cases hq:(m.getD i []).any λx=>x.all with
   |false=>rfl
   |true=>exact absurd ⟨i,hi,hq⟩ hb
  have e:((List.range (m.length)).any λi_=>(m.getD i_ []).any λx=>x.all)=false:=c9.2 λi hi=>by rw[nU i (bD.1 hi)];decide
  rw[e];exact afy m hl nP λi hi j hj=>by
   have:=nU i hi;rw[<-Ca]at this;simpa using List.any_eq_false.1 this j (bD.2 hj)
def iY.pB{m:List (List Iv)}{n k:Nat}(h:iY m n k):m.length<=1000/\∀ i,(m.getD i []).length<=1000:=⟨by have:=h.iH;have:=h.n8;omega,λi=>by have:=h.yE i;omega⟩
noncomputable def sj(m:List (List RI))(h:RI):Bool:=qE m&&decide (m.length=(m.getD 0 []).length)&&ki h && !h.all
def afp(m:List (List RI))(h:RI)(g:vK m)(hl:m.length<=1000000)(nP:∀ i,(m.getD i []).length<=1000000)(gh:h.jo):gJ 134 [pR m,kH h] (bP (sj m h)):=by
 have tc:=nP 0;exact aj call134 func134 (aa [af [pR m] (Uk _ g hl nP)]<|.w (qE m=true)
  (λk1=>by
   have QN:=(Ad.1 k1).n1;exact aa [tB 6 k1,iX 0 (m.length) aD]<|.w ((m.length:Int)=((m.getD 0 []).length:Int))
    (λk2=>aa [tB 14 (a8 k2),.c (rH h (by first|assumption|exact g.at _ _))]<|.w (ki h=true)
     (λk3=>aa [tB 18 k3]<|rR (bP (sj m h)) (by
      have hd:decide (m.length=(m.getD 0 []).length)=true:=bk aD;exact .iD (by unfold sj;rw[hd];simp[k1,k3]):E.le (bP (!h.all)) (bP (sj m h))))
     (λk3=>aa [tB 18 (bc k3)]<|rR (bP (sj m h)) (by
      have hd:decide (m.length=(m.getD 0 []).length)=true:=bk aD;exact .iD (by unfold sj;rw[hd];simp[k1,k3]):E.le (bP false) (bP (sj m h)))))
    (λk2=>aa [tB 14 (a7 k2)]<|rR (bP (sj m h)) (by
      have hd:decide (m.length=(m.getD 0 []).length)=false:=bl aD;exact .iD (by unfold sj;rw[hd];simp[k1]):E.le (bP false) (bP (sj m h)))))
  (λk1=>aa [tB 6 (bc k1)]<|rQ (bP false) (bP (sj m h)) (by unfold sj;simp[k1]))) 
def AA(m:List (List Iv))(h:Iv)(n:Nat)(ga:iY m n n)(hh:h.gQ)(np:h.all=false):gJ 134 [gV m,gR h] (bP true):=by
 have hr:=ga.iH;have n8:=ga.n8;have n1:=ga.n1;have l0:=ga.kS (aD:0<n);have:=afp (qo m) h.raw ga.wW (by simp[qo,hr];omega) (λi=>by rw[Cc];have:=ga.yE i;simp only[sJ,cr];omega) hh.wW;rw[La,BH]at this;have e:sj (qo m) h.raw=true:=by
  unfold sj;rw[Ad.2 ga.Mg,pM.2 hh.BS,Cc];simp[qo,sJ,hr,<-List.getD_eq_getElem?_getD,l0,show h.raw.all=h.all from rfl,np]
 rwa[e]at this
def afq(m:List (List Iv))(h:Iv)(n k p:Nat)(ga:iY m n n)(hh:h.gQ)(np:h.all=false)(kx:1<=k)(hk:k<=16)(ie:8<=p)(gS:p<=512)(J:Nat)(hJ:J<k)(mJ:∀ x,x<J->lO (jX m h p (x+1))=false)(mS:lO (jX m h p (J+1))=true):gJ 77 [gV m,gR h,iP k,iP p] (.hH [.v (.slice none 0 0),iP 15]):=by
 have ra:=ga.iH;have n1:=ga.n1;have n8:=ga.n8;have rU:=AA m h n ga hh np;exact aj call77 func77 (ae [af [gV m,gR h] rU,af [iP p] (rI _),ag 30 (jV (p:Int)) (mm.2 ⟨aD,aD⟩),tF 34 ((k:Int)<1) aD,tF 38 (16<(k:Int)) aD,.c (AE m.length aD aD),.s (Sp.iG (TU m h k p J) 0 J aD (λx hx jf=>by
    have w1:=sd (h:=h) ga (aD:1<=p) aD x;have w2:=vv w1 ga (aD:1<=p) (aD:p<=4096);have w3:=oD (x+1) aD;have w4:=lT h (gY ((x+1:Nat):Int)) (aD:1<=p) (aD:p<=4096);have w5:=qa (h:=h) ga (aD:1<=p) aD x;have w6:iY (lM (kK (jX m h p x) m p) (ik h (gY ((x+1:Nat):Int)) p) p) n n:=vE w2 (aD:1<=p) aD;have w7:=w6.iH;exact gX (ae [tT 46 (((x+1:Nat):Int)<=k) aD,af [gV (jX m h p x),gV m,iP p] (yS _ _ _ _ _ _ aE aE aD aD),.c (pZ (x+1) aD),.c (qn h (gY ((x+1:Nat):Int)) p aE aE aD aD),af [gV (kK (jX m h p x) m p),Aw h x p,iP p] (yT _ _ _ _ _ aE (lT _ _ aD aD) aD aD),ah 66 ((((lM (kK (jX m h p x) m p) (ik h (gY ((x+1:Nat):Int)) p) p).length:Nat):Int)==0) (mv aD),af [sI m h p x] (wD _ (iY.pB aE).1 (iY.pB aE).2),ag 69 (!(lO (lM (kK (jX m h p x) m p) (ik h (gY ((x+1:Nat):Int)) p) p))) (by rw[show lO (lM (kK (jX m h p x) m p) (ik h (gY ((x+1:Nat):Int)) p) p)=false from mJ x aD];rfl),af [gV (iQ m h p x),sI m h p x,iP p,bP false] (AD _ _ _ _ _ aE aE aD aD),
     gW (((x+1:Nat):Int)+1) aD]) aG)
  (λhx=>by
    have w1:=sd (h:=h) ga (aD:1<=p) aD J;have w2:=vv w1 ga (aD:1<=p) (aD:p<=4096);have w3:=oD (J+1) aD;have w4:=lT h (gY ((J+1:Nat):Int)) (aD:1<=p) (aD:p<=4096);have w5:=qa (h:=h) ga (aD:1<=p) aD J;have w6:iY (lM (kK (jX m h p J) m p) (ik h (gY ((J+1:Nat):Int)) p) p) n n:=vE w2 (aD:1<=p) aD;have w7:=w6.iH;exact gX (ae [tT 46 (((J+1:Nat):Int)<=k) aD,af [gV (jX m h p J),gV m,iP p] (yS _ _ _ _ _ _ aE aE aD aD),.c (pZ (J+1) aD),.c (qn h (gY ((J+1:Nat):Int)) p aE aE aD aD),af [gV (kK (jX m h p J) m p),gR (ik h (gY ((J+1:Nat):Int)) p),iP p] (yT _ _ _ _ _ aE (lT _ _ aD aD) aD aD),ah 66 ((((lM (kK (jX m h p J) m p) (ik h (gY ((J+1:Nat):Int)) p) p).length:Nat):Int)==0) (mv aD),af [gV (lM (kK (jX m h p J) m p) (ik h (gY ((J+1:Nat):Int)) p) p)] (wD _ (iY.pB aE).1 (iY.pB aE).2),ah 69 (!(lO (lM (kK (jX m h p J) m p) (ik h (gY ((J+1:Nat):Int)) p) p))) (by rw[show lO (lM (kK (jX m h p J) m p) (ik h (gY ((J+1:Nat):Int)) p) p)=true from mS];rfl)]) aG) aK:iF 8 Tryz.f77 (TU m h k p J 0) .ret ⟨177,true,[(9,.e (iP 15)),(8,.e (.v (.slice none 0 0)))],[]⟩) (ae [.o 12 (an 1 ((0+1:Nat):Int) aS)])]) 
def afr(m:List (List Iv))(h:Iv)(n k p:Nat)(ga:iY m n n)(hh:h.gQ)(np:h.all=false)(kx:1<=k)(hk:k<=16)(ie:8<=p)(gS:p<=512)(mJ:∀ x,x<k->lO (jX m h p (x+1))=false)(hd:vy m p=none):gJ 77 [gV m,gR h,iP k,iP p] (.hH [.v (.slice none 0 0),iP 15]):=by
 have ra:=ga.iH;have n1:=ga.n1;have n8:=ga.n8;have rU:=AA m h n ga hh np;exact aj call77 func77 (ae [af [gV m,gR h] rU,af [iP p] (rI _),ag 30 (jV (p:Int)) (mm.2 ⟨aD,aD⟩),tF 34 ((k:Int)<1) aD,tF 38 (16<(k:Int)) aD,.c (AE m.length aD aD),.s (Sp.iG (uF m h k p) 0 k aD (λx hx jf=>by
    have w1:=sd (h:=h) ga (aD:1<=p) aD x;have w2:=vv w1 ga (aD:1<=p) (aD:p<=4096);have w3:=oD (x+1) aD;have w4:=lT h (gY ((x+1:Nat):Int)) (aD:1<=p) (aD:p<=4096);have w5:=qa (h:=h) ga (aD:1<=p) aD x;have w6:iY (lM (kK (jX m h p x) m p) (ik h (gY ((x+1:Nat):Int)) p) p) n n:=vE w2 (aD:1<=p) aD;have w7:=w6.iH;exact gX (ae [tT 46 (((x+1:Nat):Int)<=k) aD,af [gV (jX m h p x),gV m,iP p] (yS _ _ _ _ _ _ aE aE aD aD),.c (pZ (x+1) aD),.c (qn h (gY ((x+1:Nat):Int)) p aE aE aD aD),af [gV (kK (jX m h p x) m p),Aw h x p,iP p] (yT _ _ _ _ _ aE (lT _ _ aD aD) aD aD),ah 66 ((((lM (kK (jX m h p x) m p) (ik h (gY ((x+1:Nat):Int)) p) p).length:Nat):Int)==0) (mv aD),af [sI m h p x] (wD _ (iY.pB aE).1 (iY.pB aE).2),ag 69 (!(lO (lM (kK (jX m h p x) m p) (ik h (gY ((x+1:Nat):Int)) p) p))) (by rw[show lO (lM (kK (jX m h p x) m p) (ik h (gY ((x+1:Nat):Int)) p) p)=false from mJ x aD];rfl),af [gV (iQ m h p x),sI m h p x,iP p,bP false] (AD _ _ _ _ _ aE aE aD aD),
     gW (((x+1:Nat):Int)+1) aD]) aG)
  (λhx=>by
    exact gX (ae [tF 46 (((k+1:Nat):Int)<=k) aD]) aG) aK:iF 8 Tryz.f77 (uF m h k p 0) (.exit 0) ⟨177,true,[(11,.e (gV (iQ m h p k))),(5,.box 5 0),(0,.e (gV m)),(2,.e (iP k)),(3,.e (iP p))],[(5,.cells 46 (iA h))]⟩) (ae [.o 12 (an 1 ((0+1:Nat):Int) aS)]),af [gV m,iP p] (afI _ _ _ _ ga ie gS hd)]) 
def afs(m:List (List Iv))(h:Iv)(n k p:Nat)(ga:iY m n n)(hh:h.gQ)(np:h.all=false)(kx:1<=k)(hk:k<=16)(ie:8<=p)(gS:p<=512)(mJ:∀ x,x<k->lO (jX m h p (x+1))=false)(d:Dy)(hn:gJ 143 [gV m,iP (p:Int)] (.hH [gM d,bP true]))(hd:d.gQ)(hu:(ia (ib h) (gZ d) p).all=true):gJ 77 [gV m,gR h,iP k,iP p] (.hH [.v (.slice none 0 0),iP 15]):=by
 have ra:=ga.iH;have n1:=ga.n1;have n8:=ga.n8;have rU:=AA m h n ga hh np;have va:=qQ hh;have vp:=pO hd;have vu:=ml (ib h) (gZ d) (aD:1<=p) (aD:p<=4096);exact aj call77 func77 (ae [af [gV m,gR h] rU,af [iP p] (rI _),ag 30 (jV (p:Int)) (mm.2 ⟨aD,aD⟩),tF 34 ((k:Int)<1) aD,tF 38 (16<(k:Int)) aD,.c (AE m.length aD aD),.s (Sp.iG (uF m h k p) 0 k aD (λx hx jf=>by
    have w1:=sd (h:=h) ga (aD:1<=p) aD x;have w2:=vv w1 ga (aD:1<=p) (aD:p<=4096);have w3:=oD (x+1) aD;have w4:=lT h (gY ((x+1:Nat):Int)) (aD:1<=p) (aD:p<=4096);have w5:=qa (h:=h) ga (aD:1<=p) aD x;have w6:iY (lM (kK (jX m h p x) m p) (ik h (gY ((x+1:Nat):Int)) p) p) n n:=vE w2 (aD:1<=p) aD;have w7:=w6.iH;exact gX (ae [tT 46 (((x+1:Nat):Int)<=k) aD,af [gV (jX m h p x),gV m,iP p] (yS _ _ _ _ _ _ aE aE aD aD),.c (pZ (x+1) aD),.c (qn h (gY ((x+1:Nat):Int)) p aE aE aD aD),af [gV (kK (jX m h p x) m p),Aw h x p,iP p] (yT _ _ _ _ _ aE (lT _ _ aD aD) aD aD),ah 66 ((((lM (kK (jX m h p x) m p) (ik h (gY ((x+1:Nat):Int)) p) p).length:Nat):Int)==0) (mv aD),af [sI m h p x] (wD _ (iY.pB aE).1 (iY.pB aE).2),ag 69 (!(lO (lM (kK (jX m h p x) m p) (ik h (gY ((x+1:Nat):Int)) p) p))) (by rw[show lO (lM (kK (jX m h p x) m p) (ik h (gY ((x+1:Nat):Int)) p) p)=false from mJ x aD];rfl),af [gV (iQ m h p x),sI m h p x,iP p,bP false] (AD _ _ _ _ _ aE aE aD aD),
     gW (((x+1:Nat):Int)+1) aD]) aG)
  (λhx=>by
    exact gX (ae [tF 46 (((k+1:Nat):Int)<=k) aD]) aG) aK:iF 8 Tryz.f77 (uF m h k p 0) (.exit 0) ⟨177,true,[(11,.e (gV (iQ m h p k))),(5,.box 5 0),(0,.e (gV m)),(2,.e (iP k)),(3,.e (iP p))],[(5,.cells 46 (iA h))]⟩) (ae [.o 12 (an 1 ((0+1:Nat):Int) aS)]),af [gV m,iP p] hn,.c (B5 h aE),.c (vA d),.c (qH (ib h) (gZ d) p (qQ aE) (pO aE) aD aD),ag 94 ((ia (ib h) (gZ d) p).all) hu]) 
def aft(m:List (List Iv))(h:Iv)(n k p:Nat)(ga:iY m n n)(hh:h.gQ)(np:h.all=false)(kx:1<=k)(hk:k<=16)(ie:8<=p)(gS:p<=512)(mJ:∀ x,x<k->lO (jX m h p (x+1))=false)(d:Dy)(hn:gJ 143 [gV m,iP (p:Int)] (.hH [gM d,bP true]))(hd:d.gQ)(hu:(ia (ib h) (gZ d) p).all=false)(hc:0<=jh (ia (ib h) (gZ d) p).hi (jI ((k+2:Nat):Int))):gJ 77 [gV m,gR h,iP k,iP p] (.hH [.v (.slice none 0 0),iP 15]):=by
 have ra:=ga.iH;have n1:=ga.n1;have n8:=ga.n8;have rU:=AA m h n ga hh np;have va:=qQ hh;have vp:=pO hd;have vu:=ml (ib h) (gZ d) (aD:1<=p) (aD:p<=4096);have vk:=ux (k+2) aD;have ve:=vu.kn.2;exact aj call77 func77 (ae [af [gV m,gR h] rU,af [iP p] (rI _),ag 30 (jV (p:Int)) (mm.2 ⟨aD,aD⟩),tF 34 ((k:Int)<1) aD,tF 38 (16<(k:Int)) aD,.c (AE m.length aD aD),.s (Sp.iG (uF m h k p) 0 k aD (λx hx jf=>by
    have w1:=sd (h:=h) ga (aD:1<=p) aD x;have w2:=vv w1 ga (aD:1<=p) (aD:p<=4096);have w3:=oD (x+1) aD;have w4:=lT h (gY ((x+1:Nat):Int)) (aD:1<=p) (aD:p<=4096);have w5:=qa (h:=h) ga (aD:1<=p) aD x;have w6:iY (lM (kK (jX m h p x) m p) (ik h (gY ((x+1:Nat):Int)) p) p) n n:=vE w2 (aD:1<=p) aD;have w7:=w6.iH;exact gX (ae [tT 46 (((x+1:Nat):Int)<=k) aD,af [gV (jX m h p x),gV m,iP p] (yS _ _ _ _ _ _ aE aE aD aD),.c (pZ (x+1) aD),.c (qn h (gY ((x+1:Nat):Int)) p aE aE aD aD),af [gV (kK (jX m h p x) m p),Aw h x p,iP p] (yT _ _ _ _ _ aE (lT _ _ aD aD) aD aD),ah 66 ((((lM (kK (jX m h p x) m p) (ik h (gY ((x+1:Nat):Int)) p) p).length:Nat):Int)==0) (mv aD),af [sI m h p x] (wD _ (iY.pB aE).1 (iY.pB aE).2),ag 69 (!(lO (lM (kK (jX m h p x) m p) (ik h (gY ((x+1:Nat):Int)) p) p))) (by rw[show lO (lM (kK (jX m h p x) m p) (ik h (gY ((x+1:Nat):Int)) p) p)=false from mJ x aD];rfl),af [gV (iQ m h p x),sI m h p x,iP p,bP false] (AD _ _ _ _ _ aE aE aD aD),
     gW (((x+1:Nat):Int)+1) aD]) aG)
  (λhx=>by
    exact gX (ae [tF 46 (((k+1:Nat):Int)<=k) aD]) aG) aK:iF 8 Tryz.f77 (uF m h k p 0) (.exit 0) ⟨177,true,[(11,.e (gV (iQ m h p k))),(5,.box 5 0),(0,.e (gV m)),(2,.e (iP k)),(3,.e (iP p))],[(5,.cells 46 (iA h))]⟩) (ae [.o 12 (an 1 ((0+1:Nat):Int) aS)]),af [gV m,iP p] hn,.c (B5 h aE),.c (vA d),.c (qH (ib h) (gZ d) p (qQ aE) (pO aE) aD aD),ah 94 ((ia (ib h) (gZ d) p).all) hu,gW ((k:Int)+2) aD,af [iP ((k+2:Nat):Int)] (Ej (k+2) aD),.c (r9 ((ia (ib h) (gZ d) p).hi) (jI ((k+2:Nat):Int)) (Fp.Dy.gQ.ng aE) (Fp.Dy.gQ.ng aE)),tB 102 (bk hc)]) 
def afu(m:List (List Iv))(h:Iv)(n k p:Nat)(ga:iY m n n)(hh:h.gQ)(np:h.all=false)(kx:1<=k)(hk:k<=16)(ie:8<=p)(gS:p<=512)(mJ:∀ x,x<k->lO (jX m h p (x+1))=false)(d:Dy)(hn:gJ 143 [gV m,iP (p:Int)] (.hH [gM d,bP true]))(hd:d.gQ)(hu:(ia (ib h) (gZ d) p).all=false)(hc:¬0<=jh (ia (ib h) (gZ d) p).hi (jI ((k+2:Nat):Int)))(he:(ik (jJ (ia (ib h) (gZ d) p) p (k+1)) (je (gY 1) (ik (ia (ib h) (gZ d) p) (gY ((k+2:Nat):Int)) p) p) p).all=true):gJ 77 [gV m,gR h,iP k,iP p] (.hH [.v (.slice none 0 0),iP 15]):=by
 have ra:=ga.iH;have n1:=ga.n1;have n8:=ga.n8;have rU:=AA m h n ga hh np;have va:=qQ hh;have vp:=pO hd;have vu:=ml (ib h) (gZ d) (aD:1<=p) (aD:p<=4096);have vk:=ux (k+2) aD;have ve:=vu.kn.2;have w1:=wA (ia (ib h) (gZ d) p) (aD:1<=p) aD (k+1);have w2:=oD (k+2) aD;have w3:(gY 1).gQ:=oD 1 aF;have w4:=lT (ia (ib h) (gZ d) p) (gY ((k+2:Nat):Int)) (aD:1<=p) aD;have w5:(je (gY 1) (ik (ia (ib h) (gZ d) p) (gY ((k+2:Nat):Int)) p) p).gQ:=pU w3 (rZ w4) aD aD;have w6:=lT (jJ (ia (ib h) (gZ d) p) p (k+1)) (je (gY 1) (ik (ia (ib h) (gZ d) p) (gY ((k+2:Nat):Int)) p) p) (aD:1<=p) aD;have w7:=w6.kn.2;exact aj call77 func77 (ae [af [gV m,gR h] rU,af [iP p] (rI _),ag 30 (jV (p:Int)) (mm.2 ⟨aD,aD⟩),tF 34 ((k:Int)<1) aD,tF 38 (16<(k:Int)) aD,.c (AE m.length aD aD),.s (Sp.iG (uF m h k p) 0 k aD (λx hx jf=>by
    have w1:=sd (h:=h) ga (aD:1<=p) aD x;have w2:=vv w1 ga (aD:1<=p) (aD:p<=4096);have w3:=oD (x+1) aD;have w4:=lT h (gY ((x+1:Nat):Int)) (aD:1<=p) (aD:p<=4096);have w5:=qa (h:=h) ga (aD:1<=p) aD x;have w6:iY (lM (kK (jX m h p x) m p) (ik h (gY ((x+1:Nat):Int)) p) p) n n:=vE w2 (aD:1<=p) aD;have w7:=w6.iH;exact gX (ae [tT 46 (((x+1:Nat):Int)<=k) aD,af [gV (jX m h p x),gV m,iP p] (yS _ _ _ _ _ _ aE aE aD aD),.c (pZ (x+1) aD),.c (qn h (gY ((x+1:Nat):Int)) p aE aE aD aD),af [gV (kK (jX m h p x) m p),Aw h x p,iP p] (yT _ _ _ _ _ aE (lT _ _ aD aD) aD aD),ah 66 ((((lM (kK (jX m h p x) m p) (ik h (gY ((x+1:Nat):Int)) p) p).length:Nat):Int)==0) (mv aD),af [sI m h p x] (wD _ (iY.pB aE).1 (iY.pB aE).2),ag 69 (!(lO (lM (kK (jX m h p x) m p) (ik h (gY ((x+1:Nat):Int)) p) p))) (by rw[show lO (lM (kK (jX m h p x) m p) (ik h (gY ((x+1:Nat):Int)) p) p)=false from mJ x aD];rfl),af [gV (iQ m h p x),sI m h p x,iP p,bP false] (AD _ _ _ _ _ aE aE aD aD),
     gW (((x+1:Nat):Int)+1) aD]) aG)
  (λhx=>by
    exact gX (ae [tF 46 (((k+1:Nat):Int)<=k) aD]) aG) aK:iF 8 Tryz.f77 (uF m h k p 0) (.exit 0) ⟨177,true,[(11,.e (gV (iQ m h p k))),(5,.box 5 0),(0,.e (gV m)),(2,.e (iP k)),(3,.e (iP p))],[(5,.cells 46 (iA h))]⟩) (ae [.o 12 (an 1 ((0+1:Nat):Int) aS)]),af [gV m,iP p] hn,.c (B5 h aE),.c (vA d),.c (qH (ib h) (gZ d) p (qQ aE) (pO aE) aD aD),ah 94 ((ia (ib h) (gZ d) p).all) hu,gW ((k:Int)+2) aD,af [iP ((k+2:Nat):Int)] (Ej (k+2) aD),.c (r9 ((ia (ib h) (gZ d) p).hi) (jI ((k+2:Nat):Int)) (Fp.Dy.gQ.ng aE) (Fp.Dy.gQ.ng aE)),tB 102 (bl hc),.c (pZ 1 aD),.s (Sp.iG (B4 m h d k p) 0 (k+1) aD (λx hx jf=>by
    have w1:=wA (ia (ib h) (gZ d) p) (aD:1<=p) aD x;have w2:=oD (x+1) aD;have w3:=lT (ia (ib h) (gZ d) p) (gY ((x+1:Nat):Int)) (aD:1<=p) aD;exact gX (aa [gW ((k:Int)+1) aD,tT 108 (((x+1:Nat):Int)<=((k+1:Nat):Int)) aD,.c (pZ (x+1) aD),.c (qn (ia (ib h) (gZ d) p) (gY ((x+1:Nat):Int)) p (ml _ _ aD aD) aE aD aD),.c (qH (Az h d p x) (B0 h d p x) p aE (lT _ _ aD aD) aD aD),
     gW (((x+1:Nat):Int)+1) aD]<|.e (ae [.b 18 (.iD rfl:Bx.le (.cells 46 (iA (ia (Az h d p x) (B0 h d p x) p))) (.cells 46 (iA (jJ (ia (ib h) (gZ d) p) p (x+1)))))])) aG)
  (λhx=>by
    exact gX (ae [gW ((k:Int)+1) aD,tF 108 ((((k+1)+1:Nat):Int)<=((k+1:Nat):Int)) aD]) aG) aK:iF 23 Tryz.f77 (B4 m h d k p 0) (.exit 2) ⟨177,true,[(18,.box 18 0),(17,.box 17 0),(11,.e (gV (iQ m h p k))),(0,.e (gV m)),(2,.e (iP k)),(3,.e (iP p))],[(18,.cells 46 (iA (r8 h d p k))),(17,.cells 46 (iA (ia (ib h) (gZ d) p)))]⟩) (ae [.o 19 (an 1 ((0+1:Nat):Int) aS),.b 18 (.iD rfl:Bx.le (.cells 46 (iA (gY 1))) (.cells 46 (iA (jJ (ia (ib h) (gZ d) p) p 0))))]),.c (pZ 1 aD),gW ((k:Int)+2) aD,.c (pZ (k+2) aD),.c (qn (ia (ib h) (gZ d) p) (gY ((k+2:Nat):Int)) p (ml _ _ aD aD) aE aD aD),.c (B6 (gY 1) (r7 h d p k) p aE (lT _ _ aD aD) aD aD),.c (qn (r8 h d p k) (je (gY 1) (r7 h d p k) p) p aE aE aD aD),ag 132 ((ik (r8 h d p k) (je (gY 1) (r7 h d p k) p) p).all) he]) 
def afv(m:List (List Iv))(h:Iv)(n k p:Nat)(ga:iY m n n)(hh:h.gQ)(np:h.all=false)(kx:1<=k)(hk:k<=16)(ie:8<=p)(gS:p<=512)(mJ:∀ x,x<k->lO (jX m h p (x+1))=false)(d:Dy)(hn:gJ 143 [gV m,iP (p:Int)] (.hH [gM d,bP true]))(hd:d.gQ)(hu:(ia (ib h) (gZ d) p).all=false)(hc:¬0<=jh (ia (ib h) (gZ d) p).hi (jI ((k+2:Nat):Int)))(he:(ik (jJ (ia (ib h) (gZ d) p) p (k+1)) (je (gY 1) (ik (ia (ib h) (gZ d) p) (gY ((k+2:Nat):Int)) p) p) p).all=false)(hle:jh (iB (ik (jJ (ia (ib h) (gZ d) p) p (k+1)) (je (gY 1) (ik (ia (ib h) (gZ d) p) (gY ((k+2:Nat):Int)) p) p) p).hi) (ik (jJ (ia (ib h) (gZ d) p) p (k+1)) (je (gY 1) (ik (ia (ib h) (gZ d) p) (gY ((k+2:Nat):Int)) p) p) p).hi<=0)(nU:lO (mn m.length (λ_=>m.length) (λi j=>jx (((iQ m h p k).getD i []).getD j gL) (Iv.mk (iB (ik (jJ (ia (ib h) (gZ d) p) p (k+1)) (je (gY 1) (ik (ia (ib h) (gZ d) p) (gY ((k+2:Nat):Int)) p) p) p).hi) (ik (jJ (ia (ib h) (gZ d) p) p (k+1)) (je (gY 1) (ik (ia (ib h) (gZ d) p) (gY ((k+2:Nat):Int)) p) p) p).hi false) p))=true):gJ 77 [gV m,gR h,iP k,iP p] (.hH [.v (.slice none 0 0),iP 15]):=by
 have ra:=ga.iH;have n1:=ga.n1;have n8:=ga.n8;have rU:=AA m h n ga hh np;have va:=qQ hh;have vp:=pO hd;have vu:=ml (ib h) (gZ d) (aD:1<=p) (aD:p<=4096);have vk:=ux (k+2) aD;have ve:=vu.kn.2;have w1:=wA (ia (ib h) (gZ d) p) (aD:1<=p) aD (k+1);have w2:=oD (k+2) aD;have w3:(gY 1).gQ:=oD 1 aF;have w4:=lT (ia (ib h) (gZ d) p) (gY ((k+2:Nat):Int)) (aD:1<=p) aD;have w5:(je (gY 1) (ik (ia (ib h) (gZ d) p) (gY ((k+2:Nat):Int)) p) p).gQ:=pU w3 (rZ w4) aD aD;have w6:=lT (jJ (ia (ib h) (gZ d) p) p (k+1)) (je (gY 1) (ik (ia (ib h) (gZ d) p) (gY ((k+2:Nat):Int)) p) p) (aD:1<=p) aD;have w7:=w6.kn.2;have gs:=qa (h:=h) (p:=p) ga aD aD k;have rs:=gs.iH;have KC:(Iv.mk (iB (ik (jJ (ia (ib h) (gZ d) p) p (k+1)) (je (gY 1) (ik (ia (ib h) (gZ d) p) (gY ((k+2:Nat):Int)) p) p) p).hi) (ik (jJ (ia (ib h) (gZ d) p) p (k+1)) (je (gY 1) (ik (ia (ib h) (gZ d) p) (gY ((k+2:Nat):Int)) p) p) p).hi false).gQ:=.inr ⟨rfl,pL w7,w7,hle⟩;have hMW:iY (mn m.length (λ_=>m.length) (λi j=>jx (((iQ m h p k).getD i []).getD j gL) (Iv.mk (iB (ik (jJ (ia (ib h) (gZ d) p) p (k+1)) (je (gY 1) (ik (ia (ib h) (gZ d) p) (gY ((k+2:Nat):Int)) p) p) p).hi) (ik (jJ (ia (ib h) (gZ d) p) p (k+1)) (je (gY 1) (ik (ia (ib h) (gZ d) p) (gY ((k+2:Nat):Int)) p) p) p).hi false) p)) n n:=by
  rw[ra];refine MI ga.n1 ga.n8 ga.n1 ga.n8 λi j=>pU (Jo gs i j) KC aD aD 
 exact aj call77 func77 (ae [af [gV m,gR h] rU,af [iP p] (rI _),ag 30 (jV (p:Int)) (mm.2 ⟨aD,aD⟩),tF 34 ((k:Int)<1) aD,tF 38 (16<(k:Int)) aD,.c (AE m.length aD aD),.s (Sp.iG (uF m h k p) 0 k aD (λx hx jf=>by
    have w1:=sd (h:=h) ga (aD:1<=p) aD x;have w2:=vv w1 ga (aD:1<=p) (aD:p<=4096);have w3:=oD (x+1) aD;have w4:=lT h (gY ((x+1:Nat):Int)) (aD:1<=p) (aD:p<=4096);have w5:=qa (h:=h) ga (aD:1<=p) aD x;have w6:iY (lM (kK (jX m h p x) m p) (ik h (gY ((x+1:Nat):Int)) p) p) n n:=vE w2 (aD:1<=p) aD;have w7:=w6.iH;exact gX (ae [tT 46 (((x+1:Nat):Int)<=k) aD,af [gV (jX m h p x),gV m,iP p] (yS _ _ _ _ _ _ aE aE aD aD),.c (pZ (x+1) aD),.c (qn h (gY ((x+1:Nat):Int)) p aE aE aD aD),af [gV (kK (jX m h p x) m p),Aw h x p,iP p] (yT _ _ _ _ _ aE (lT _ _ aD aD) aD aD),ah 66 ((((lM (kK (jX m h p x) m p) (ik h (gY ((x+1:Nat):Int)) p) p).length:Nat):Int)==0) (mv aD),af [sI m h p x] (wD _ (iY.pB aE).1 (iY.pB aE).2),ag 69 (!(lO (lM (kK (jX m h p x) m p) (ik h (gY ((x+1:Nat):Int)) p) p))) (by rw[show lO (lM (kK (jX m h p x) m p) (ik h (gY ((x+1:Nat):Int)) p) p)=false from mJ x aD];rfl),af [gV (iQ m h p x),sI m h p x,iP p,bP false] (AD _ _ _ _ _ aE aE aD aD),
     gW (((x+1:Nat):Int)+1) aD]) aG)
  (λhx=>by
    exact gX (ae [tF 46 (((k+1:Nat):Int)<=k) aD]) aG) aK:iF 8 Tryz.f77 (uF m h k p 0) (.exit 0) ⟨177,true,[(11,.e (gV (iQ m h p k))),(5,.box 5 0),(0,.e (gV m)),(2,.e (iP k)),(3,.e (iP p))],[(5,.cells 46 (iA h))]⟩) (ae [.o 12 (an 1 ((0+1:Nat):Int) aS)]),af [gV m,iP p] hn,.c (B5 h aE),.c (vA d),.c (qH (ib h) (gZ d) p (qQ aE) (pO aE) aD aD),ah 94 ((ia (ib h) (gZ d) p).all) hu,gW ((k:Int)+2) aD,af [iP ((k+2:Nat):Int)] (Ej (k+2) aD),.c (r9 ((ia (ib h) (gZ d) p).hi) (jI ((k+2:Nat):Int)) (Fp.Dy.gQ.ng aE) (Fp.Dy.gQ.ng aE)),tB 102 (bl hc),.c (pZ 1 aD),.s (Sp.iG (B4 m h d k p) 0 (k+1) aD (λx hx jf=>by
    have w1:=wA (ia (ib h) (gZ d) p) (aD:1<=p) aD x;have w2:=oD (x+1) aD;have w3:=lT (ia (ib h) (gZ d) p) (gY ((x+1:Nat):Int)) (aD:1<=p) aD;exact gX (aa [gW ((k:Int)+1) aD,tT 108 (((x+1:Nat):Int)<=((k+1:Nat):Int)) aD,.c (pZ (x+1) aD),.c (qn (ia (ib h) (gZ d) p) (gY ((x+1:Nat):Int)) p (ml _ _ aD aD) aE aD aD),.c (qH (Az h d p x) (B0 h d p x) p aE (lT _ _ aD aD) aD aD),
     gW (((x+1:Nat):Int)+1) aD]<|.e (ae [.b 18 (.iD rfl:Bx.le (.cells 46 (iA (ia (Az h d p x) (B0 h d p x) p))) (.cells 46 (iA (jJ (ia (ib h) (gZ d) p) p (x+1)))))])) aG)
  (λhx=>by
    exact gX (ae [gW ((k:Int)+1) aD,tF 108 ((((k+1)+1:Nat):Int)<=((k+1:Nat):Int)) aD]) aG) aK:iF 23 Tryz.f77 (B4 m h d k p 0) (.exit 2) ⟨177,true,[(18,.box 18 0),(17,.box 17 0),(11,.e (gV (iQ m h p k))),(0,.e (gV m)),(2,.e (iP k)),(3,.e (iP p))],[(18,.cells 46 (iA (r8 h d p k))),(17,.cells 46 (iA (ia (ib h) (gZ d) p)))]⟩) (ae [.o 19 (an 1 ((0+1:Nat):Int) aS),.b 18 (.iD rfl:Bx.le (.cells 46 (iA (gY 1))) (.cells 46 (iA (jJ (ia (ib h) (gZ d) p) p 0))))]),.c (pZ 1 aD),gW ((k:Int)+2) aD,.c (pZ (k+2) aD),.c (qn (ia (ib h) (gZ d) p) (gY ((k+2:Nat):Int)) p (ml _ _ aD aD) aE aD aD),.c (B6 (gY 1) (r7 h d p k) p aE (lT _ _ aD aD) aD aD),.c (qn (r8 h d p k) (je (gY 1) (r7 h d p k) p) p aE aE aD aD),ah 132 ((ik (r8 h d p k) (je (gY 1) (r7 h d p k) p) p).all) he,af [gM ((ik (r8 h d p k) (je (gY 1) (r7 h d p k) p) p).hi)] (qp _),.a (aD:0<=((m.length:Int):Int)/\((m.length:Int):Int)<=((m.length:Int):Int)),.a (aD:((24:Nat):Int)*(m.length:Int)<=281474976710656/\((m.length:Int):Int)<=9223372036854775807),.s (Sp.iG (G4 m h d k p) 0 m.length aD (λx hx jf=>by
    exact gX (aa [tT 145 ((x:Int)<m.length) aD,.s (Sp.iG (G5 m h d k p x) 0 m.length aD (λy hy qf=>by
    have hle:iS (iL m.length (λ_=>m.length) (λi j=>jx (((iQ m h p k).getD i []).getD j gL) (Iv.mk (iB (ik (jJ (ia (ib h) (gZ d) p) p (k+1)) (je (gY 1) (ik (ia (ib h) (gZ d) p) (gY ((k+2:Nat):Int)) p) p) p).hi) (ik (jJ (ia (ib h) (gZ d) p) p (k+1)) (je (gY 1) (ik (ia (ib h) (gZ d) p) (gY ((k+2:Nat):Int)) p) p) p).hi false) p) x y) x=y:=DJ aD ;have w8:=gs.mF (aD:x<n) (aD:y<n);have lsx:=gs.kS (aD:x<n);have Bt:=nu (jx (((iQ m h p k).getD x []).getD y gL) (Iv.mk (iB (ik (jJ (ia (ib h) (gZ d) p) p (k+1)) (je (gY 1) (ik (ia (ib h) (gZ d) p) (gY ((k+2:Nat):Int)) p) p) p).hi) (ik (jJ (ia (ib h) (gZ d) p) p (k+1)) (je (gY 1) (ik (ia (ib h) (gZ d) p) (gY ((k+2:Nat):Int)) p) p) p).hi false) p);exact gX (aa [tT 151 ((y:Int)<m.length) aD,iX (x:Int) (m.length) aD,.a (aD:x<m.length),iX (x:Int) ((iQ m h p k).length) aD,
     iX (y:Int) (((iQ m h p k).getD x []).length) aD,.c (xG (((iQ m h p k).getD x []).getD y gL) (Av h d p k) p aE aE aD aD),.o 170 (.e (lD _):ai (.sl true 1 7 λi_ j_=>(iA (yO m h p k x y d)).getD (i_*7+j_) (.v (.bool false))) (ic [yO m h p k x y d])),.a (aD:x<m.length),.a (aD:((iS (iL m.length (λ_=>m.length) (λi j=>jx (((iQ m h p k).getD i []).getD j gL) (Iv.mk (iB (ik (jJ (ia (ib h) (gZ d) p) p (k+1)) (je (gY 1) (ik (ia (ib h) (gZ d) p) (gY ((k+2:Nat):Int)) p) p) p).hi) (ik (jJ (ia (ib h) (gZ d) p) p (k+1)) (je (gY 1) (ik (ia (ib h) (gZ d) p) (gY ((k+2:Nat):Int)) p) p) p).hi false) p) x y)) x+[jx (((iQ m h p k).getD x []).getD y gL) (Iv.mk (iB ((ik (jJ (ia (ib h) (gZ d) p) p (k+1)) (je (gY 1) (ik (ia (ib h) (gZ d) p) (gY ((k+2:Nat):Int)) p) p) p).hi)) ((ik (jJ (ia (ib h) (gZ d) p) p (k+1)) (je (gY 1) (ik (ia (ib h) (gZ d) p) (gY ((k+2:Nat):Int)) p) p) p).hi) false) p].length)*88<=140737488355328),
     iX (x:Int) (m.length) aD,.a (rfl:x=x),.a (rfl:x=x),.a (aD:x<m.length),gW ((y:Int)+1) aD]<|.e (ae [.b 141 (Ck rfl aD aD rfl:Bx.le (.iH true 26 46 m.length 7 (λq=>if q=x then(iS (iL m.length (λ_=>m.length) (lQ m h p k d) x y)) q+[yO m h p k x y d].length else(iS (iL m.length (λ_=>m.length) (lQ m h p k d) x y)) q) (λq i j=>if q=x then(if i<(iS (iL m.length (λ_=>m.length) (lQ m h p k d) x y)) q then(jH (iL m.length (λ_=>m.length) (lQ m h p k d) x y)) q i j else(E.ke (ic [yO m h p k x y d])) (i-(iS (iL m.length (λ_=>m.length) (lQ m h p k d) x y)) q) j)else(jH (iL m.length (λ_=>m.length) (lQ m h p k d) x y)) q i j) .none) (.iH true 26 46 m.length 7 (iS (iL m.length (λ_=>m.length) (lQ m h p k d) x (y+1))) (jH (iL m.length (λ_=>m.length) (lQ m h p k d) x (y+1))) .none))])) aG)
  (λhy=>by
    exact gX (ae [tF 151 ((m.length:Int)<m.length) aD]) aG) aK:iF 35 Tryz.f77 (G5 m h d k p x 0) (.exit 6) ⟨177,true,[(23,.e (iP x)),(22,.own 141),(21,.box 21 0),(11,.e (gV (iQ m h p k))),(0,.e (gV m)),(3,.e (iP p))],[(141,.iH true 26 46 m.length 7 (iS (iL m.length (λ_=>m.length) (lQ m h p k d) x m.length)) (jH (iL m.length (λ_=>m.length) (lQ m h p k d) x m.length)) .none),(21,.cells 46 (iA (Av h d p k)))]⟩) .nil,
     gW ((x:Int)+1) aD]<|.e (ae [.b 141 (Er rfl:Bx.le (.iH true 26 46 m.length 7 (iS (iL m.length (λ_=>m.length) (lQ m h p k d) x m.length)) (jH (iL m.length (λ_=>m.length) (lQ m h p k d) x m.length)) .none) (.iH true 26 46 m.length 7 (iS (iL m.length (λ_=>m.length) (lQ m h p k d) (x+1) 0)) (jH (iL m.length (λ_=>m.length) (lQ m h p k d) (x+1) 0)) .none))])) aG)
  (λhx=>by
    exact gX (aa [tF 145 ((m.length:Int)<m.length) aD,.z 141]<|.e (ae [.o 22 (.e Sm:ai (.sl true m.length 1 λk_ _=>.sl true ((iS (iL m.length (λ_=>m.length) (lQ m h p k d) m.length 0)) k_) 7 ((jH (iL m.length (λ_=>m.length) (lQ m h p k d) m.length 0)) k_)) (gV (mn m.length (λ_=>m.length) (lQ m h p k d))))])) aG) aK:iF 32 Tryz.f77 (G4 m h d k p 0) (.exit 4) ⟨177,true,[(22,.e (gV (mn m.length (λ_=>m.length) (lQ m h p k d))))],[]⟩) (ae [.b 141 (Ep rfl:Bx.le (.iH true 26 46 m.length 7 (λ_=>0) (λ_ _ _=>.any) .none) (.iH true 26 46 m.length 7 (iS (iL m.length (λ_=>m.length) (lQ m h p k d) 0 0)) (jH (iL m.length (λ_=>m.length) (lQ m h p k d) 0 0)) .none))]),af [gV (mn m.length (λ_=>m.length) (lQ m h p k d))] (wD _ (iY.pB aE).1 (iY.pB aE).2),ah 174 (!(lO (mn m.length (λ_=>m.length) (λi j=>jx (((iQ m h p k).getD i []).getD j gL) (Iv.mk (iB (ik (jJ (ia (ib h) (gZ d) p) p (k+1)) (je (gY 1) (ik (ia (ib h) (gZ d) p) (gY ((k+2:Nat):Int)) p) p) p).hi) (ik (jJ (ia (ib h) (gZ d) p) p (k+1)) (je (gY 1) (ik (ia (ib h) (gZ d) p) (gY ((k+2:Nat):Int)) p) p) p).hi false) p)))) (by rw[nU];rfl)]) 
def afw(m:List (List Iv))(h:Iv)(n k p:Nat)(ga:iY m n n)(hh:h.gQ)(np:h.all=false)(kx:1<=k)(hk:k<=16)(ie:8<=p)(gS:p<=512)(mJ:∀ x,x<k->lO (jX m h p (x+1))=false)(d:Dy)(hn:gJ 143 [gV m,iP (p:Int)] (.hH [gM d,bP true]))(hd:d.gQ)(hu:(ia (ib h) (gZ d) p).all=false)(hc:¬0<=jh (ia (ib h) (gZ d) p).hi (jI ((k+2:Nat):Int)))(he:(ik (jJ (ia (ib h) (gZ d) p) p (k+1)) (je (gY 1) (ik (ia (ib h) (gZ d) p) (gY ((k+2:Nat):Int)) p) p) p).all=false)(hle:jh (iB (ik (jJ (ia (ib h) (gZ d) p) p (k+1)) (je (gY 1) (ik (ia (ib h) (gZ d) p) (gY ((k+2:Nat):Int)) p) p) p).hi) (ik (jJ (ia (ib h) (gZ d) p) p (k+1)) (je (gY 1) (ik (ia (ib h) (gZ d) p) (gY ((k+2:Nat):Int)) p) p) p).hi<=0)(nU:lO (mn m.length (λ_=>m.length) (λi j=>jx (((iQ m h p k).getD i []).getD j gL) (Iv.mk (iB (ik (jJ (ia (ib h) (gZ d) p) p (k+1)) (je (gY 1) (ik (ia (ib h) (gZ d) p) (gY ((k+2:Nat):Int)) p) p) p).hi) (ik (jJ (ia (ib h) (gZ d) p) p (k+1)) (je (gY 1) (ik (ia (ib h) (gZ d) p) (gY ((k+2:Nat):Int)) p) p) p).hi false) p))=false):gJ 77 [gV m,gR h,iP k,iP p] (.hH [gV (mn m.length (λ_=>m.length) (λi j=>jx (((iQ m h p k).getD i []).getD j gL) (Iv.mk (iB (ik (jJ (ia (ib h) (gZ d) p) p (k+1)) (je (gY 1) (ik (ia (ib h) (gZ d) p) (gY ((k+2:Nat):Int)) p) p) p).hi) (ik (jJ (ia (ib h) (gZ d) p) p (k+1)) (je (gY 1) (ik (ia (ib h) (gZ d) p) (gY ((k+2:Nat):Int)) p) p) p).hi false) p)),iP 0]):=by
 have ra:=ga.iH;have n1:=ga.n1;have n8:=ga.n8;have rU:=AA m h n ga hh np;have va:=qQ hh;have vp:=pO hd;have vu:=ml (ib h) (gZ d) (aD:1<=p) (aD:p<=4096);have vk:=ux (k+2) aD;have ve:=vu.kn.2;have w1:=wA (ia (ib h) (gZ d) p) (aD:1<=p) aD (k+1);have w2:=oD (k+2) aD;have w3:(gY 1).gQ:=oD 1 aF;have w4:=lT (ia (ib h) (gZ d) p) (gY ((k+2:Nat):Int)) (aD:1<=p) aD;have w5:(je (gY 1) (ik (ia (ib h) (gZ d) p) (gY ((k+2:Nat):Int)) p) p).gQ:=pU w3 (rZ w4) aD aD;have w6:=lT (jJ (ia (ib h) (gZ d) p) p (k+1)) (je (gY 1) (ik (ia (ib h) (gZ d) p) (gY ((k+2:Nat):Int)) p) p) (aD:1<=p) aD;have w7:=w6.kn.2;have gs:=qa (h:=h) (p:=p) ga aD aD k;have rs:=gs.iH;have KC:(Iv.mk (iB (ik (jJ (ia (ib h) (gZ d) p) p (k+1)) (je (gY 1) (ik (ia (ib h) (gZ d) p) (gY ((k+2:Nat):Int)) p) p) p).hi) (ik (jJ (ia (ib h) (gZ d) p) p (k+1)) (je (gY 1) (ik (ia (ib h) (gZ d) p) (gY ((k+2:Nat):Int)) p) p) p).hi false).gQ:=.inr ⟨rfl,pL w7,w7,hle⟩;have hMW:iY (mn m.length (λ_=>m.length) (λi j=>jx (((iQ m h p k).getD i []).getD j gL) (Iv.mk (iB (ik (jJ (ia (ib h) (gZ d) p) p (k+1)) (je (gY 1) (ik (ia (ib h) (gZ d) p) (gY ((k+2:Nat):Int)) p) p) p).hi) (ik (jJ (ia (ib h) (gZ d) p) p (k+1)) (je (gY 1) (ik (ia (ib h) (gZ d) p) (gY ((k+2:Nat):Int)) p) p) p).hi false) p)) n n:=by
  rw[ra];refine MI ga.n1 ga.n8 ga.n1 ga.n8 λi j=>pU (Jo gs i j) KC aD aD 
 exact aj call77 func77 (ae [af [gV m,gR h] rU,af [iP p] (rI _),ag 30 (jV (p:Int)) (mm.2 ⟨aD,aD⟩),tF 34 ((k:Int)<1) aD,tF 38 (16<(k:Int)) aD,.c (AE m.length aD aD),.s (Sp.iG (uF m h k p) 0 k aD (λx hx jf=>by
    have w1:=sd (h:=h) ga (aD:1<=p) aD x;have w2:=vv w1 ga (aD:1<=p) (aD:p<=4096);have w3:=oD (x+1) aD;have w4:=lT h (gY ((x+1:Nat):Int)) (aD:1<=p) (aD:p<=4096);have w5:=qa (h:=h) ga (aD:1<=p) aD x;have w6:iY (lM (kK (jX m h p x) m p) (ik h (gY ((x+1:Nat):Int)) p) p) n n:=vE w2 (aD:1<=p) aD;have w7:=w6.iH;exact gX (ae [tT 46 (((x+1:Nat):Int)<=k) aD,af [gV (jX m h p x),gV m,iP p] (yS _ _ _ _ _ _ aE aE aD aD),.c (pZ (x+1) aD),.c (qn h (gY ((x+1:Nat):Int)) p aE aE aD aD),af [gV (kK (jX m h p x) m p),Aw h x p,iP p] (yT _ _ _ _ _ aE (lT _ _ aD aD) aD aD),ah 66 ((((lM (kK (jX m h p x) m p) (ik h (gY ((x+1:Nat):Int)) p) p).length:Nat):Int)==0) (mv aD),af [sI m h p x] (wD _ (iY.pB aE).1 (iY.pB aE).2),ag 69 (!(lO (lM (kK (jX m h p x) m p) (ik h (gY ((x+1:Nat):Int)) p) p))) (by rw[show lO (lM (kK (jX m h p x) m p) (ik h (gY ((x+1:Nat):Int)) p) p)=false from mJ x aD];rfl),af [gV (iQ m h p x),sI m h p x,iP p,bP false] (AD _ _ _ _ _ aE aE aD aD),
     gW (((x+1:Nat):Int)+1) aD]) aG)
  (λhx=>by
    exact gX (ae [tF 46 (((k+1:Nat):Int)<=k) aD]) aG) aK:iF 8 Tryz.f77 (uF m h k p 0) (.exit 0) ⟨177,true,[(11,.e (gV (iQ m h p k))),(5,.box 5 0),(0,.e (gV m)),(2,.e (iP k)),(3,.e (iP p))],[(5,.cells 46 (iA h))]⟩) (ae [.o 12 (an 1 ((0+1:Nat):Int) aS)]),af [gV m,iP p] hn,.c (B5 h aE),.c (vA d),.c (qH (ib h) (gZ d) p (qQ aE) (pO aE) aD aD),ah 94 ((ia (ib h) (gZ d) p).all) hu,gW ((k:Int)+2) aD,af [iP ((k+2:Nat):Int)] (Ej (k+2) aD),.c (r9 ((ia (ib h) (gZ d) p).hi) (jI ((k+2:Nat):Int)) (Fp.Dy.gQ.ng aE) (Fp.Dy.gQ.ng aE)),tB 102 (bl hc),.c (pZ 1 aD),.s (Sp.iG (B4 m h d k p) 0 (k+1) aD (λx hx jf=>by
    have w1:=wA (ia (ib h) (gZ d) p) (aD:1<=p) aD x;have w2:=oD (x+1) aD;have w3:=lT (ia (ib h) (gZ d) p) (gY ((x+1:Nat):Int)) (aD:1<=p) aD;exact gX (aa [gW ((k:Int)+1) aD,tT 108 (((x+1:Nat):Int)<=((k+1:Nat):Int)) aD,.c (pZ (x+1) aD),.c (qn (ia (ib h) (gZ d) p) (gY ((x+1:Nat):Int)) p (ml _ _ aD aD) aE aD aD),.c (qH (Az h d p x) (B0 h d p x) p aE (lT _ _ aD aD) aD aD),
     gW (((x+1:Nat):Int)+1) aD]<|.e (ae [.b 18 (.iD rfl:Bx.le (.cells 46 (iA (ia (Az h d p x) (B0 h d p x) p))) (.cells 46 (iA (jJ (ia (ib h) (gZ d) p) p (x+1)))))])) aG)
  (λhx=>by
    exact gX (ae [gW ((k:Int)+1) aD,tF 108 ((((k+1)+1:Nat):Int)<=((k+1:Nat):Int)) aD]) aG) aK:iF 23 Tryz.f77 (B4 m h d k p 0) (.exit 2) ⟨177,true,[(18,.box 18 0),(17,.box 17 0),(11,.e (gV (iQ m h p k))),(0,.e (gV m)),(2,.e (iP k)),(3,.e (iP p))],[(18,.cells 46 (iA (r8 h d p k))),(17,.cells 46 (iA (ia (ib h) (gZ d) p)))]⟩) (ae [.o 19 (an 1 ((0+1:Nat):Int) aS),.b 18 (.iD rfl:Bx.le (.cells 46 (iA (gY 1))) (.cells 46 (iA (jJ (ia (ib h) (gZ d) p) p 0))))]),.c (pZ 1 aD),gW ((k:Int)+2) aD,.c (pZ (k+2) aD),.c (qn (ia (ib h) (gZ d) p) (gY ((k+2:Nat):Int)) p (ml _ _ aD aD) aE aD aD),.c (B6 (gY 1) (r7 h d p k) p aE (lT _ _ aD aD) aD aD),.c (qn (r8 h d p k) (je (gY 1) (r7 h d p k) p) p aE aE aD aD),ah 132 ((ik (r8 h d p k) (je (gY 1) (r7 h d p k) p) p).all) he,af [gM ((ik (r8 h d p k) (je (gY 1) (r7 h d p k) p) p).hi)] (qp _),.a (aD:0<=((m.length:Int):Int)/\((m.length:Int):Int)<=((m.length:Int):Int)),.a (aD:((24:Nat):Int)*(m.length:Int)<=281474976710656/\((m.length:Int):Int)<=9223372036854775807),.s (Sp.iG (G4 m h d k p) 0 m.length aD (λx hx jf=>by
    exact gX (aa [tT 145 ((x:Int)<m.length) aD,.s (Sp.iG (G5 m h d k p x) 0 m.length aD (λy hy qf=>by
    have hle:iS (iL m.length (λ_=>m.length) (λi j=>jx (((iQ m h p k).getD i []).getD j gL) (Iv.mk (iB (ik (jJ (ia (ib h) (gZ d) p) p (k+1)) (je (gY 1) (ik (ia (ib h) (gZ d) p) (gY ((k+2:Nat):Int)) p) p) p).hi) (ik (jJ (ia (ib h) (gZ d) p) p (k+1)) (je (gY 1) (ik (ia (ib h) (gZ d) p) (gY ((k+2:Nat):Int)) p) p) p).hi false) p) x y) x=y:=DJ aD ;have w8:=gs.mF (aD:x<n) (aD:y<n);have lsx:=gs.kS (aD:x<n);have Bt:=nu (jx (((iQ m h p k).getD x []).getD y gL) (Iv.mk (iB (ik (jJ (ia (ib h) (gZ d) p) p (k+1)) (je (gY 1) (ik (ia (ib h) (gZ d) p) (gY ((k+2:Nat):Int)) p) p) p).hi) (ik (jJ (ia (ib h) (gZ d) p) p (k+1)) (je (gY 1) (ik (ia (ib h) (gZ d) p) (gY ((k+2:Nat):Int)) p) p) p).hi false) p);exact gX (aa [tT 151 ((y:Int)<m.length) aD,iX (x:Int) (m.length) aD,.a (aD:x<m.length),iX (x:Int) ((iQ m h p k).length) aD,
     iX (y:Int) (((iQ m h p k).getD x []).length) aD,.c (xG (((iQ m h p k).getD x []).getD y gL) (Av h d p k) p aE aE aD aD),.o 170 (.e (lD _):ai (.sl true 1 7 λi_ j_=>(iA (yO m h p k x y d)).getD (i_*7+j_) (.v (.bool false))) (ic [yO m h p k x y d])),.a (aD:x<m.length),.a (aD:((iS (iL m.length (λ_=>m.length) (λi j=>jx (((iQ m h p k).getD i []).getD j gL) (Iv.mk (iB (ik (jJ (ia (ib h) (gZ d) p) p (k+1)) (je (gY 1) (ik (ia (ib h) (gZ d) p) (gY ((k+2:Nat):Int)) p) p) p).hi) (ik (jJ (ia (ib h) (gZ d) p) p (k+1)) (je (gY 1) (ik (ia (ib h) (gZ d) p) (gY ((k+2:Nat):Int)) p) p) p).hi false) p) x y)) x+[jx (((iQ m h p k).getD x []).getD y gL) (Iv.mk (iB ((ik (jJ (ia (ib h) (gZ d) p) p (k+1)) (je (gY 1) (ik (ia (ib h) (gZ d) p) (gY ((k+2:Nat):Int)) p) p) p).hi)) ((ik (jJ (ia (ib h) (gZ d) p) p (k+1)) (je (gY 1) (ik (ia (ib h) (gZ d) p) (gY ((k+2:Nat):Int)) p) p) p).hi) false) p].length)*88<=140737488355328),
     iX (x:Int) (m.length) aD,.a (rfl:x=x),.a (rfl:x=x),.a (aD:x<m.length),gW ((y:Int)+1) aD]<|.e (ae [.b 141 (Ck rfl aD aD rfl:Bx.le (.iH true 26 46 m.length 7 (λq=>if q=x then(iS (iL m.length (λ_=>m.length) (lQ m h p k d) x y)) q+[yO m h p k x y d].length else(iS (iL m.length (λ_=>m.length) (lQ m h p k d) x y)) q) (λq i j=>if q=x then(if i<(iS (iL m.length (λ_=>m.length) (lQ m h p k d) x y)) q then(jH (iL m.length (λ_=>m.length) (lQ m h p k d) x y)) q i j else(E.ke (ic [yO m h p k x y d])) (i-(iS (iL m.length (λ_=>m.length) (lQ m h p k d) x y)) q) j)else(jH (iL m.length (λ_=>m.length) (lQ m h p k d) x y)) q i j) .none) (.iH true 26 46 m.length 7 (iS (iL m.length (λ_=>m.length) (lQ m h p k d) x (y+1))) (jH (iL m.length (λ_=>m.length) (lQ m h p k d) x (y+1))) .none))])) aG)
  (λhy=>by
    exact gX (ae [tF 151 ((m.length:Int)<m.length) aD]) aG) aK:iF 35 Tryz.f77 (G5 m h d k p x 0) (.exit 6) ⟨177,true,[(23,.e (iP x)),(22,.own 141),(21,.box 21 0),(11,.e (gV (iQ m h p k))),(0,.e (gV m)),(3,.e (iP p))],[(141,.iH true 26 46 m.length 7 (iS (iL m.length (λ_=>m.length) (lQ m h p k d) x m.length)) (jH (iL m.length (λ_=>m.length) (lQ m h p k d) x m.length)) .none),(21,.cells 46 (iA (Av h d p k)))]⟩) .nil,
     gW ((x:Int)+1) aD]<|.e (ae [.b 141 (Er rfl:Bx.le (.iH true 26 46 m.length 7 (iS (iL m.length (λ_=>m.length) (lQ m h p k d) x m.length)) (jH (iL m.length (λ_=>m.length) (lQ m h p k d) x m.length)) .none) (.iH true 26 46 m.length 7 (iS (iL m.length (λ_=>m.length) (lQ m h p k d) (x+1) 0)) (jH (iL m.length (λ_=>m.length) (lQ m h p k d) (x+1) 0)) .none))])) aG)
  (λhx=>by
    exact gX (aa [tF 145 ((m.length:Int)<m.length) aD,.z 141]<|.e (ae [.o 22 (.e Sm:ai (.sl true m.length 1 λk_ _=>.sl true ((iS (iL m.length (λ_=>m.length) (lQ m h p k d) m.length 0)) k_) 7 ((jH (iL m.length (λ_=>m.length) (lQ m h p k d) m.length 0)) k_)) (gV (mn m.length (λ_=>m.length) (lQ m h p k d))))])) aG) aK:iF 32 Tryz.f77 (G4 m h d k p 0) (.exit 4) ⟨177,true,[(22,.e (gV (mn m.length (λ_=>m.length) (lQ m h p k d))))],[]⟩) (ae [.b 141 (Ep rfl:Bx.le (.iH true 26 46 m.length 7 (λ_=>0) (λ_ _ _=>.any) .none) (.iH true 26 46 m.length 7 (iS (iL m.length (λ_=>m.length) (lQ m h p k d) 0 0)) (jH (iL m.length (λ_=>m.length) (lQ m h p k d) 0 0)) .none))]),af [gV (mn m.length (λ_=>m.length) (lQ m h p k d))] (wD _ (iY.pB aE).1 (iY.pB aE).2),ag 174 (!(lO (mn m.length (λ_=>m.length) (λi j=>jx (((iQ m h p k).getD i []).getD j gL) (Iv.mk (iB (ik (jJ (ia (ib h) (gZ d) p) p (k+1)) (je (gY 1) (ik (ia (ib h) (gZ d) p) (gY ((k+2:Nat):Int)) p) p) p).hi) (ik (jJ (ia (ib h) (gZ d) p) p (k+1)) (je (gY 1) (ik (ia (ib h) (gZ d) p) (gY ((k+2:Nat):Int)) p) p) p).hi false) p)))) (by rw[nU];rfl)]) 
abbrev vI(m:List (List Iv))(h:Iv)(p)(k)(e:Iv):=λi_=>(List.range (((iQ m h p k).getD i_ []).length)).map (λj_=>jx (((iQ m h p k).getD i_ []).getD j_ gL) e p)
abbrev y5(m:List (List Iv))(h:Iv)(p)(k)(x)(e:Iv):=λj_=>jx (((iQ m h p k).getD x []).getD j_ gL) e p
abbrev Cz(m:List (List Iv))(h:Iv)(p)(k)(e:Iv):=(List.range ((iQ m h p k).length)).map (vI m h p k e)
abbrev y6(m:List (List Iv))(h:Iv)(p)(k)(x)(y)(e:Iv):=jx (((iQ m h p k).getD x []).getD y gL) e p
abbrev Iu(m:List (List Iv))(h:Iv)(p)(k)(x)(e:Iv):=ic ((List.range (((iQ m h p k).getD x []).length)).map (y5 m h p k x e))
def FC(m:List (List Iv))(h e:Iv)(k p:Nat)(x:Nat):PS:=⟨122,true,[(14,.e (iP ((x+1:Nat):Int))),(13,.e (gV (iQ m h p x))),(12,.e (gV (jX m h p x))),(10,.box 10 0),(5,.box 5 0),(0,.e (gV m)),(2,.e (iP k)),(3,.e (iP p))],[(10,.cells 46 (iA e)),(5,.cells 46 (iA h))]⟩
def FD(m:List (List Iv))(h e:Iv)(k p:Nat)(x:Nat):PS:=⟨122,true,[(17,.own 17),(96,.e (iP x)),(95,.e (iP ((iQ m h p k).length:Int))),(94,.e (gV (iQ m h p k))),(10,.box 10 0),(3,.e (iP p))],[(17,.row true 26 x 1 (lj ((List.range x).map (vI m h p k e)))),(10,.cells 46 (iA e))]⟩
def FE(m:List (List Iv))(h e:Iv)(k p x:Nat)(y:Nat):PS:=⟨122,true,[(20,.own 20),(102,.e (iP y)),(101,.e (iP (((iQ m h p k).getD x []).length:Int))),(100,.e (ic ((iQ m h p k).getD x []))),(17,.own 17),(96,.e (iP x)),(95,.e (iP ((iQ m h p k).length:Int))),(94,.e (gV (iQ m h p k))),(10,.box 10 0),(3,.e (iP p))],[(20,.row true 46 y 7 (ja ((List.range y).map (y5 m h p k x e)))),(17,.row true 26 x 1 (lj ((List.range x).map (vI m h p k e)))),(10,.cells 46 (iA e))]⟩
def Z6(m:List (List Iv))(h:Iv)(n k p:Nat)(ga:iY m n n)(hh:h.gQ)(np:h.all=false)(kx:1<=k)(hk:k<=16)(ie:8<=p)(gS:p<=512)(hr:q8 m h k p=none):gJ 72 [gV m,gR h,iP k,iP p] (.hH [.v (.slice none 0 0),iP 15]):=by
 have ra:=ga.iH;have n1:=ga.n1;have n8:=ga.n8;obtain⟨x0,lP⟩:=(Em m h n n k p ga hh aD ie gS).2 hr;exact aj call72 func72 (ae [af [gV m] (Ev _ _ _ ga),tT 24 (n=n) rfl,.c (vq h aE),ah 33 h.all np,tF 36 ((p:Int)<8) aD,tF 39 (512<(p:Int)) aD,tF 43 ((k:Int)<1) aD,tF 47 (16<(k:Int)) aD,af [gV m,gR h,iP k,iP p] lP]) 
def Z7(m:List (List Iv))(h:Iv)(n k p:Nat)(ga:iY m n n)(hh:h.gQ)(np:h.all=false)(kx:1<=k)(hk:k<=16)(ie:8<=p)(gS:p<=512)(e:Iv)(hr:q8 m h k p=some e)(nU:(((List.range ((iQ m h p k).length)).map (λi_=>(List.range (((iQ m h p k).getD i_ []).length)).map (λj_=>jx (((iQ m h p k).getD i_ []).getD j_ gL) e p))).any λr=>r.any λx=>x.all)=true):gJ 72 [gV m,gR h,iP k,iP p] (.hH [.v (.slice none 0 0),iP 15]):=by
 have ra:=ga.iH;have n1:=ga.n1;have n8:=ga.n8;obtain⟨KB,pq,hea⟩:=(Em m h n n k p ga hh aD ie gS).1 e hr;have gs:=qa (h:=h) (p:=p) ga aD aD k;have rs:=gs.iH;have nP:∀ i,(((List.range ((iQ m h p k).length)).map (λi_=>(List.range (((iQ m h p k).getD i_ []).length)).map (λj_=>jx (((iQ m h p k).getD i_ []).getD j_ gL) e p))).getD i []).length<=1000:=by
  intro i;by_cases hi:i<(iQ m h p k).length
  .rw [Cj hi];have:=gs.yE i;simp only[cr,dL];omega
  .rw [bn,bR (by simpa using hi)];exact b6 _
 exact aj call72 func72 (ae [af [gV m] (Ev _ _ _ ga),tT 24 (n=n) rfl,.c (vq h aE),ah 33 h.all np,tF 36 ((p:Int)<8) aD,tF 39 (512<(p:Int)) aD,tF 43 ((k:Int)<1) aD,tF 47 (16<(k:Int)) aD,af [gV m,gR h,iP k,iP p] KB,.c (So m.length aD aD),.s (Sp.iG (FC m h e k p) 0 k aD (λx hx jf=>by
    have w1:=sd (h:=h) ga (aD:1<=p) aD x;have w2:=vv w1 ga (aD:1<=p) (aD:p<=4096);have w3:=oD (x+1) aD;have w4:=lT h (gY ((x+1:Nat):Int)) (aD:1<=p) (aD:p<=4096);have w5:=qa (h:=h) ga (aD:1<=p) aD x;have w6:iY (lM (kK (jX m h p x) m p) (ik h (gY ((x+1:Nat):Int)) p) p) n n:=vE w2 (aD:1<=p) aD;exact gX (ae [tT 65 (((x+1:Nat):Int)<=k) aD,af [gV (jX m h p x),gV m,iP p] (Sq _ _ _ _ _ _ aE aE aD aD),ah 76 ((0:Int) != 0) aF,.c (wu (x+1) aD),.c (wb h (gY ((x+1:Nat):Int)) p aE aE aD aD),af [gV (kK (jX m h p x) m p),gR (ik h (gY ((x+1:Nat):Int)) p),iP p] (Sr _ _ _ _ _ aE aE aD aD),af [gV (iQ m h p x),gV (lM (kK (jX m h p x) m p) (ik h (gY ((x+1:Nat):Int)) p) p),iP p] (Sk _ _ _ _ _ aE aE aD aD),ah 93 ((0:Int) != 0) aF,gW (((x+1:Nat):Int)+1) aD]) aG)
  (λhx=>by
    exact gX (ae [tF 65 (((k+1:Nat):Int)<=k) aD]) aG) aK:iF 11 Tryz.f72 (FC m h e k p 0) (.exit 0) ⟨122,true,[(13,.e (gV (iQ m h p k))),(10,.box 10 0),(3,.e (iP p))],[(10,.cells 46 (iA e))]⟩) (ae [.o 14 (an 1 ((0+1:Nat):Int) aS)]),.y 17 17 true 26 1 (lj ((List.range 0).map (vI m h p k e))),.s (Sp.iG (FD m h e k p) 0 ((iQ m h p k).length) aD (λx hx jf=>by
    have lx:=gs.kS (aD:x<n);exact gX (aa [tT 97 ((x:Int)<((iQ m h p k).length:Int)) aD,iX (x:Int) ((iQ m h p k).length) aD,.y 20 20 true 46 7 (ja ((List.range 0).map (y5 m h p k x e))),.s (Sp.iG (FE m h e k p x) 0 (((iQ m h p k).getD x []).length) aD (λy hy qf=>by
    have w1:=gs.mF (aD:x<n) (aD:y<n);have h1:=nu (jx (((iQ m h p k).getD x []).getD y gL) e p);exact gX (aa [tT 103 ((y:Int)<(((iQ m h p k).getD x []).length:Int)) aD,iX (y:Int) (((iQ m h p k).getD x []).length) aD,.c (xr (((iQ m h p k).getD x []).getD y gL) e p aE aE aD aD),.o 111 (.e (lD _):ai (.sl true 1 7 λi_ j_=>(iA (y6 m h p k x y e)).getD (i_*7+j_) (.v (.bool false))) (ic [y6 m h p k x y e])),.a (aD:(y+[jx (((iQ m h p k).getD x []).getD y gL) e p].length)*88<=140737488355328),gW ((y:Int)+1) aD]<|.e (ae [.b 20 (we rfl rfl rfl:Bx.le (.row true 46 (y+[y6 m h p k x y e].length) 7 (λi_ j_=>if i_<y then(ja ((List.range y).map (y5 m h p k x e))) i_ j_ else(E.ke (ic [y6 m h p k x y e])) (i_-y) j_)) (.row true 46 (y+1) 7 (ja ((List.range (y+1)).map (y5 m h p k x e)))))])) aG)
  (λhy=>by
    exact gX (aa [tF 103 ((((iQ m h p k).getD x []).length:Int)<(((iQ m h p k).getD x []).length:Int)) aD,.z 20]<|.e (ae [.o 20 (.e (sC aJ):ai (.sl true (((iQ m h p k).getD x []).length) 7 (ja ((List.range (((iQ m h p k).getD x []).length)).map (λj_=>jx (((iQ m h p k).getD x []).getD j_ gL) e p)))) (ic ((List.range (((iQ m h p k).getD x []).length)).map (λj_=>jx (((iQ m h p k).getD x []).getD j_ gL) e p))))])) aG) aK:iF 26 Tryz.f72 (FE m h e k p x 0) (.exit 4) ⟨122,true,[(20,.e (Iu m h p k x e)),(17,.own 17),(96,.e (iP x)),(95,.e (iP ((iQ m h p k).length:Int))),(94,.e (gV (iQ m h p k))),(10,.box 10 0),(3,.e (iP p))],[(17,.row true 26 x 1 (lj ((List.range x).map (vI m h p k e)))),(10,.cells 46 (iA e))]⟩) .nil,.a (aD:(x+1)*24<=140737488355328),gW ((x:Int)+1) aD]<|.e (ae [.b 17 (Af rfl rfl rfl (λj hj=>by cases dT.1 hj;rfl):Bx.le (.row true 26 (x+1) 1 (λi_ j_=>if i_<x then(lj ((List.range x).map (vI m h p k e))) i_ j_ else(E.ke (.sl true 1 1 λi_ j_=>[Iu m h p k x e].getD (i_*1+j_) (.v (.bool false)))) (i_-x) j_)) (.row true 26 (x+1) 1 (lj ((List.range (x+1)).map (vI m h p k e)))))])) aG)
  (λhx=>by
    exact gX (aa [tF 97 (((iQ m h p k).length:Int)<((iQ m h p k).length:Int)) aD,.z 17]<|.e (ae [.o 17 (.e (Ae aJ):ai (.sl true ((iQ m h p k).length) 1 (lj ((List.range ((iQ m h p k).length)).map (λi_=>(List.range (((iQ m h p k).getD i_ []).length)).map (λj_=>jx (((iQ m h p k).getD i_ []).getD j_ gL) e p))))) (gV ((List.range ((iQ m h p k).length)).map (λi_=>(List.range (((iQ m h p k).getD i_ []).length)).map (λj_=>jx (((iQ m h p k).getD i_ []).getD j_ gL) e p)))))])) aG) aK:iF 22 Tryz.f72 (FD m h e k p 0) (.exit 2) ⟨122,true,[(17,.e (gV (Cz m h p k e)))],[]⟩) .nil,.c (M3 (Cz m h p k e) aR nP),ag 120 ((Cz m h p k e).any λr=>r.any λx=>x.all) nU]) 
def Z9(m:List (List Iv))(h:Iv)(n k p:Nat)(ga:iY m n n)(hh:h.gQ)(np:h.all=false)(kx:1<=k)(hk:k<=16)(ie:8<=p)(gS:p<=512)(e:Iv)(hr:q8 m h k p=some e)(nU:(((List.range ((iQ m h p k).length)).map (λi_=>(List.range (((iQ m h p k).getD i_ []).length)).map (λj_=>jx (((iQ m h p k).getD i_ []).getD j_ gL) e p))).any λr=>r.any λx=>x.all)=false):gJ 72 [gV m,gR h,iP k,iP p] (.hH [gV ((List.range ((iQ m h p k).length)).map (λi_=>(List.range (((iQ m h p k).getD i_ []).length)).map (λj_=>jx (((iQ m h p k).getD i_ []).getD j_ gL) e p))),iP 0]):=by
 have ra:=ga.iH;have n1:=ga.n1;have n8:=ga.n8;obtain⟨KB,pq,hea⟩:=(Em m h n n k p ga hh aD ie gS).1 e hr;have gs:=qa (h:=h) (p:=p) ga aD aD k;have rs:=gs.iH;have nP:∀ i,(((List.range ((iQ m h p k).length)).map (λi_=>(List.range (((iQ m h p k).getD i_ []).length)).map (λj_=>jx (((iQ m h p k).getD i_ []).getD j_ gL) e p))).getD i []).length<=1000:=by
  intro i;by_cases hi:i<(iQ m h p k).length
  .rw [Cj hi];have:=gs.yE i;simp only[cr,dL];omega
  .rw [bn,bR (by simpa using hi)];exact b6 _
 exact aj call72 func72 (ae [af [gV m] (Ev _ _ _ ga),tT 24 (n=n) rfl,.c (vq h aE),ah 33 h.all np,tF 36 ((p:Int)<8) aD,tF 39 (512<(p:Int)) aD,tF 43 ((k:Int)<1) aD,tF 47 (16<(k:Int)) aD,af [gV m,gR h,iP k,iP p] KB,.c (So m.length aD aD),.s (Sp.iG (FC m h e k p) 0 k aD (λx hx jf=>by
    have w1:=sd (h:=h) ga (aD:1<=p) aD x;have w2:=vv w1 ga (aD:1<=p) (aD:p<=4096);have w3:=oD (x+1) aD;have w4:=lT h (gY ((x+1:Nat):Int)) (aD:1<=p) (aD:p<=4096);have w5:=qa (h:=h) ga (aD:1<=p) aD x;have w6:iY (lM (kK (jX m h p x) m p) (ik h (gY ((x+1:Nat):Int)) p) p) n n:=vE w2 (aD:1<=p) aD;exact gX (ae [tT 65 (((x+1:Nat):Int)<=k) aD,af [gV (jX m h p x),gV m,iP p] (Sq _ _ _ _ _ _ aE aE aD aD),ah 76 ((0:Int) != 0) aF,.c (wu (x+1) aD),.c (wb h (gY ((x+1:Nat):Int)) p aE aE aD aD),af [gV (kK (jX m h p x) m p),gR (ik h (gY ((x+1:Nat):Int)) p),iP p] (Sr _ _ _ _ _ aE aE aD aD),af [gV (iQ m h p x),gV (lM (kK (jX m h p x) m p) (ik h (gY ((x+1:Nat):Int)) p) p),iP p] (Sk _ _ _ _ _ aE aE aD aD),ah 93 ((0:Int) != 0) aF,gW (((x+1:Nat):Int)+1) aD]) aG)
  (λhx=>by
    exact gX (ae [tF 65 (((k+1:Nat):Int)<=k) aD]) aG) aK:iF 11 Tryz.f72 (FC m h e k p 0) (.exit 0) ⟨122,true,[(13,.e (gV (iQ m h p k))),(10,.box 10 0),(3,.e (iP p))],[(10,.cells 46 (iA e))]⟩) (ae [.o 14 (an 1 ((0+1:Nat):Int) aS)]),.y 17 17 true 26 1 (lj ((List.range 0).map (vI m h p k e))),.s (Sp.iG (FD m h e k p) 0 ((iQ m h p k).length) aD (λx hx jf=>by
    have lx:=gs.kS (aD:x<n);exact gX (aa [tT 97 ((x:Int)<((iQ m h p k).length:Int)) aD,iX (x:Int) ((iQ m h p k).length) aD,.y 20 20 true 46 7 (ja ((List.range 0).map (y5 m h p k x e))),.s (Sp.iG (FE m h e k p x) 0 (((iQ m h p k).getD x []).length) aD (λy hy qf=>by
    have w1:=gs.mF (aD:x<n) (aD:y<n);have h1:=nu (jx (((iQ m h p k).getD x []).getD y gL) e p);exact gX (aa [tT 103 ((y:Int)<(((iQ m h p k).getD x []).length:Int)) aD,iX (y:Int) (((iQ m h p k).getD x []).length) aD,.c (xr (((iQ m h p k).getD x []).getD y gL) e p aE aE aD aD),.o 111 (.e (lD _):ai (.sl true 1 7 λi_ j_=>(iA (y6 m h p k x y e)).getD (i_*7+j_) (.v (.bool false))) (ic [y6 m h p k x y e])),.a (aD:(y+[jx (((iQ m h p k).getD x []).getD y gL) e p].length)*88<=140737488355328),gW ((y:Int)+1) aD]<|.e (ae [.b 20 (we rfl rfl rfl:Bx.le (.row true 46 (y+[y6 m h p k x y e].length) 7 (λi_ j_=>if i_<y then(ja ((List.range y).map (y5 m h p k x e))) i_ j_ else(E.ke (ic [y6 m h p k x y e])) (i_-y) j_)) (.row true 46 (y+1) 7 (ja ((List.range (y+1)).map (y5 m h p k x e)))))])) aG)
  (λhy=>by
    exact gX (aa [tF 103 ((((iQ m h p k).getD x []).length:Int)<(((iQ m h p k).getD x []).length:Int)) aD,.z 20]<|.e (ae [.o 20 (.e (sC aJ):ai (.sl true (((iQ m h p k).getD x []).length) 7 (ja ((List.range (((iQ m h p k).getD x []).length)).map (λj_=>jx (((iQ m h p k).getD x []).getD j_ gL) e p)))) (ic ((List.range (((iQ m h p k).getD x []).length)).map (λj_=>jx (((iQ m h p k).getD x []).getD j_ gL) e p))))])) aG) aK:iF 26 Tryz.f72 (FE m h e k p x 0) (.exit 4) ⟨122,true,[(20,.e (Iu m h p k x e)),(17,.own 17),(96,.e (iP x)),(95,.e (iP ((iQ m h p k).length:Int))),(94,.e (gV (iQ m h p k))),(10,.box 10 0),(3,.e (iP p))],[(17,.row true 26 x 1 (lj ((List.range x).map (vI m h p k e)))),(10,.cells 46 (iA e))]⟩) .nil,.a (aD:(x+1)*24<=140737488355328),gW ((x:Int)+1) aD]<|.e (ae [.b 17 (Af rfl rfl rfl (λj hj=>by cases dT.1 hj;rfl):Bx.le (.row true 26 (x+1) 1 (λi_ j_=>if i_<x then(lj ((List.range x).map (vI m h p k e))) i_ j_ else(E.ke (.sl true 1 1 λi_ j_=>[Iu m h p k x e].getD (i_*1+j_) (.v (.bool false)))) (i_-x) j_)) (.row true 26 (x+1) 1 (lj ((List.range (x+1)).map (vI m h p k e)))))])) aG)
  (λhx=>by
    exact gX (aa [tF 97 (((iQ m h p k).length:Int)<((iQ m h p k).length:Int)) aD,.z 17]<|.e (ae [.o 17 (.e (Ae aJ):ai (.sl true ((iQ m h p k).length) 1 (lj ((List.range ((iQ m h p k).length)).map (λi_=>(List.range (((iQ m h p k).getD i_ []).length)).map (λj_=>jx (((iQ m h p k).getD i_ []).getD j_ gL) e p))))) (gV ((List.range ((iQ m h p k).length)).map (λi_=>(List.range (((iQ m h p k).getD i_ []).length)).map (λj_=>jx (((iQ m h p k).getD i_ []).getD j_ gL) e p)))))])) aG) aK:iF 22 Tryz.f72 (FD m h e k p 0) (.exit 2) ⟨122,true,[(17,.e (gV (Cz m h p k e)))],[]⟩) .nil,.c (M3 (Cz m h p k e) aR nP),ah 120 ((Cz m h p k e).any λr=>r.any λx=>x.all) nU]) 
def G8{s:List (List Iv)}{e:Iv}{p:Nat}:((List.range (s.length)).map (λi_=>(List.range ((s.getD i_ []).length)).map (λj_=>jx ((s.getD i_ []).getD j_ gL) e p)))=s.map λr=>r.map λx=>jx x e p:=by
 apply dw
 .simp
 .intro i h1 h2;have hi:i<s.length:=by simpa using h2
  simp only[dx,dK];rw[sT hi];apply dw
  .simp
  .intro j h3 h4;have hj:j<s[i].length:=by simpa using h4
   simp only[dx,dK];rw[sT hj]
def JB(m:List (List Iv))(h:Iv)(n k p:Nat)(ga:iY m n n)(hh:h.gQ)(np:h.all=false)(kx:1<=k)(hk:k<=16)(ie:8<=p)(gS:p<=512):
 (∀ x,oX m h k p=some x->gJ 72 [gV m,gR h,iP (k:Int),iP (p:Int)] (.hH [gV x,iP 0])) /\
 (oX m h k p=none->gJ 72 [gV m,gR h,iP (k:Int),iP (p:Int)] (.hH [.v (.slice none 0 0),iP 15])):=by
 unfold oX;cases hr:q8 m h k p with
 |none=>exact⟨λx hx=>(by cases hx),λ_=>Z6 m h n k p ga hh np kx hk ie gS hr⟩
 |some e=>
  rw[cS];simp only;cases nU:((iQ m h p k).map λr=>r.map λx=>jx x e p).any λr=>r.any λx=>x.all with
  |true=>
   rw[bj rfl];exact⟨λx hx=>(by cases hx),λ_=>Z7 m h n k p ga hh np kx hk ie gS e hr (by rw[G8];exact nU)⟩
  |false=>
   rw[bh aF];refine⟨λx hx=>?_,λhx=>(by cases hx)⟩;cases hx;have:=Z9 m h n k p ga hh np kx hk ie gS e hr (by rw[G8];exact nU);rwa[G8]at this
def ER{m:List (List Iv)}:lO m=true↔∃ i,i<m.length/\∃ j,j<(m.getD i []).length/\((m.getD i []).getD j gL).all=true:=by
 unfold lO;rw[<-L3,cE];constructor
 .rintro ⟨i,hi,h⟩;rw[<-Ca,cE]at h;obtain⟨j,hj,h⟩:=h;exact⟨i,bD.1 hi,j,bD.1 hj,h⟩
 .rintro ⟨i,hi,j,hj,h⟩;refine⟨i,bD.2 hi,?_⟩;rw[<-Ca,cE];exact⟨j,bD.2 hj,h⟩
def MZ{a b:List (List Iv)}{n k p i j:Nat}(ga:iY a n k)(gb:iY b n k)(hi:i<n)(hj:j<k):((tN a b p).getD i []).getD j gL=jx ((a.getD i []).getD j gL) ((b.getD i []).getD j gL) p:=by
 rw[<-MH ga gb,MK (by rw[ga.iH];exact hi),tz (by rw[ga.kS hi];exact hj)]
def IL{x y:Iv}{p:Nat}(h:x.all=true\/y.all=true):(jx x y p).all=true:=by
 unfold jx;rw[bj (by rcases h with h|h<;>simp[h])];rfl
def V5{m:List (List Iv)}{h:Iv}{n p J:Nat}(ga:iY m n n)(ie:1<=p)(gS:p<=4096){i j:Nat}(hi:i<n)(hj:j<n)(hb:(((jX m h p (J+1)).getD i []).getD j gL).all=true):
 ∀ d,(((iQ m h p (J+1+d)).getD i []).getD j gL).all=true
 | 0=>by
  show(((tN (iQ m h p J) (jX m h p (J+1)) p).getD i []).getD j gL).all=true;rw[MZ (qa ga ie gS J) (sd ga ie gS (J+1)) hi hj];exact IL (.inr hb)
 |d+1=>by
  show(((tN (iQ m h p (J+1+d)) (jX m h p (J+1+d+1)) p).getD i []).getD j gL).all=true;rw[MZ (qa ga ie gS _) (sd ga ie gS _) hi hj];exact IL (.inl (V5 ga ie gS hi hj hb d))
def MJ{s:List (List Iv)}{e:Iv}{n p:Nat}(gs:iY s n n):mn n (λ_=>n) (λi j=>jx ((s.getD i []).getD j gL) e p)=s.map λr=>r.map λx=>jx x e p:=by
 have h:=G8 (s:=s) (e:=e) (p:=p);rw[<-h,gs.iH];unfold mn;apply dh;intro i hi;rw[gs.kS (bD.1 hi)]
def aep{s:List (List Iv)}{e:Iv}{n p:Nat}(gs:iY s n n)(h:lO s=true):lO (s.map λr=>r.map λx=>jx x e p)=true:=by
 obtain⟨i,hi,j,hj,h⟩:=ER.1 h;have lL:i<n:=by rw[<-gs.iH];exact hi
 have oI:j<n:=by rw[<-gs.kS lL];exact hj
 refine ER.2 ⟨i,by simpa using hi,j,?_,?_⟩
 .rw [<-MJ gs,MK lL];simpa using oI
 .rw [<-MJ gs,MK lL,tz oI];exact IL (.inl h)
def Z8{m:List (List Iv)}{h:Iv}{n k p J:Nat}(ga:iY m n n)(ie:1<=p)(gS:p<=4096)(hJ:J<k)(hb:lO (jX m h p (J+1))=true):oX m h k p=none:=by
 unfold oX;cases hr:q8 m h k p with
 |none=>rfl
 |some e=>
  rw[cS];simp only;have gt:=sd (h:=h) ga ie gS (J+1);obtain⟨i,hi,j,hj,hb⟩:=ER.1 hb;have lL:i<n:=by rw[<-gt.iH];exact hi
  have oI:j<n:=by rw[<-gt.kS lL];exact hj
  have gs:=qa (h:=h) ga ie gS k;have hs:lO (iQ m h p k)=true:=by
   refine ER.2 ⟨i,by rw[gs.iH];exact lL,j,by rw[gs.kS lL];exact oI,?_⟩;have:=V5 ga ie gS lL oI hb (k-(J+1));rwa[(aD:J+1+(k-(J+1))=k)]at this
  have hx:=aep (e:=e) (p:=p) gs hs;unfold lO at hx;rw[bj hx]
def TS(m:List (List Iv))(h:Iv)(n k p:Nat)(ga:iY m n n)(hh:h.gQ)(np:h.all=false)(kx:1<=k)(hk:k<=16)(ie:8<=p)(gS:p<=512):
 (∀ x,oX m h k p=some x->gJ 77 [gV m,gR h,iP (k:Int),iP (p:Int)] (.hH [gV x,iP 0])) /\
 (oX m h k p=none->gJ 77 [gV m,gR h,iP (k:Int),iP (p:Int)] (.hH [.v (.slice none 0 0),iP 15])):=by
 by_cases Q4:∃ J,J<k/\lO (jX m h p (J+1))=true
 .obtain ⟨J,hJ,hb,mJ⟩:=pX (p:=λJ=>lO (jX m h p (J+1))) Q4;have hn:=Z8 ga (aD:1<=p) aD hJ hb;exact⟨λx hx=>(by rw[hn]at hx;cases hx),λ_=>afq m h n k p ga hh np kx hk ie gS J hJ mJ hb⟩
 .have mJ:∀ x,x<k->lO (jX m h p (x+1))=false:=λx hx=>by
   cases hq:lO (jX m h p (x+1))with
   |false=>rfl
   |true=>exact absurd ⟨x,hx,hq⟩ Q4
  have gs:=qa (h:=h) (p:=p) ga aD aD k;cases hn:vy m p with
  |none=>
   have he:oX m h k p=none:=by unfold oX q8;rw[hn];rfl
   exact⟨λx hx=>(by rw[he]at hx;cases hx),λ_=>afr m h n k p ga hh np kx hk ie gS mJ hn⟩
  |some d=>
   obtain⟨Dd,hd⟩:=afK m n n p ga ie gS d hn;by_cases hu:(ia (ib h) (gZ d) p).all=true
   .have he:oX m h k p=none:=by unfold oX q8;rw[hn,cS];simp only;rw[bj (by rw[hu];rfl)];rfl
    exact⟨λx hx=>(by rw[he]at hx;cases hx),λ_=>afs m h n k p ga hh np kx hk ie gS mJ d Dd hd hu⟩
   .replace hu:(ia (ib h) (gZ d) p).all=false:=by simpa using hu
    by_cases hc:0<=jh (ia (ib h) (gZ d) p).hi (jI ((k+2:Nat):Int))
    .have he:oX m h k p=none:=by unfold oX q8;rw[hn,cS];simp only;rw[bj (by rw[hu,bk hc];rfl)];rfl
     exact⟨λx hx=>(by rw[he]at hx;cases hx),λ_=>aft m h n k p ga hh np kx hk ie gS mJ d Dd hd hu hc⟩
    .by_cases hE:(ik (jJ (ia (ib h) (gZ d) p) p (k+1)) (je (gY 1) (ik (ia (ib h) (gZ d) p) (gY ((k+2:Nat):Int)) p) p) p).all=true
     .have he:oX m h k p=none:=by
       unfold oX q8;rw[hn,cS];simp only;rw[bh (by rw[hu,bl hc];decide),bj hE];rfl
      exact⟨λx hx=>(by rw[he]at hx;cases hx),λ_=>afu m h n k p ga hh np kx hk ie gS mJ d Dd hd hu hc hE⟩
     .replace hE:(ik (jJ (ia (ib h) (gZ d) p) p (k+1)) (je (gY 1) (ik (ia (ib h) (gZ d) p) (gY ((k+2:Nat):Int)) p) p) p).all=false:=by simpa using hE
      have hr:q8 m h k p=some (Iv.mk (iB (ik (jJ (ia (ib h) (gZ d) p) p (k+1)) (je (gY 1) (ik (ia (ib h) (gZ d) p) (gY ((k+2:Nat):Int)) p) p) p).hi) (ik (jJ (ia (ib h) (gZ d) p) p (k+1)) (je (gY 1) (ik (ia (ib h) (gZ d) p) (gY ((k+2:Nat):Int)) p) p) p).hi false):=by
       unfold q8;rw[hn,cS];simp only;rw[bh (by rw[hu,bl hc];decide),bh (by rw[hE];decide)]
      have hle:jh (iB (ik (jJ (ia (ib h) (gZ d) p) p (k+1)) (je (gY 1) (ik (ia (ib h) (gZ d) p) (gY ((k+2:Nat):Int)) p) p) p).hi) (ik (jJ (ia (ib h) (gZ d) p) p (k+1)) (je (gY 1) (ik (ia (ib h) (gZ d) p) (gY ((k+2:Nat):Int)) p) p) p).hi<=0:=by
       obtain⟨_,hv,_⟩:=(Em m h n n k p ga hh aD ie gS).1 _ hr;rcases hv with⟨q,_⟩|⟨_,_,_,q⟩
       .cases q
       .exact q
      have hW:(mn m.length (λ_=>m.length) (λi j=>jx (((iQ m h p k).getD i []).getD j gL) (Iv.mk (iB (ik (jJ (ia (ib h) (gZ d) p) p (k+1)) (je (gY 1) (ik (ia (ib h) (gZ d) p) (gY ((k+2:Nat):Int)) p) p) p).hi) (ik (jJ (ia (ib h) (gZ d) p) p (k+1)) (je (gY 1) (ik (ia (ib h) (gZ d) p) (gY ((k+2:Nat):Int)) p) p) p).hi false) p))=(iQ m h p k).map λr=>r.map λx=>jx x (Iv.mk (iB (ik (jJ (ia (ib h) (gZ d) p) p (k+1)) (je (gY 1) (ik (ia (ib h) (gZ d) p) (gY ((k+2:Nat):Int)) p) p) p).hi) (ik (jJ (ia (ib h) (gZ d) p) p (k+1)) (je (gY 1) (ik (ia (ib h) (gZ d) p) (gY ((k+2:Nat):Int)) p) p) p).hi false) p:=by rw[ga.iH];exact MJ gs
      cases nU:lO (mn m.length (λ_=>m.length) (λi j=>jx (((iQ m h p k).getD i []).getD j gL) (Iv.mk (iB (ik (jJ (ia (ib h) (gZ d) p) p (k+1)) (je (gY 1) (ik (ia (ib h) (gZ d) p) (gY ((k+2:Nat):Int)) p) p) p).hi) (ik (jJ (ia (ib h) (gZ d) p) p (k+1)) (je (gY 1) (ik (ia (ib h) (gZ d) p) (gY ((k+2:Nat):Int)) p) p) p).hi false) p))with
      |true=>
       have he:oX m h k p=none:=by
        unfold oX;rw[hr,cS];simp only;have hx:lO ((iQ m h p k).map λr=>r.map λx=>jx x (Iv.mk (iB (ik (jJ (ia (ib h) (gZ d) p) p (k+1)) (je (gY 1) (ik (ia (ib h) (gZ d) p) (gY ((k+2:Nat):Int)) p) p) p).hi) (ik (jJ (ia (ib h) (gZ d) p) p (k+1)) (je (gY 1) (ik (ia (ib h) (gZ d) p) (gY ((k+2:Nat):Int)) p) p) p).hi false) p)=true:=by rw[<-hW];exact nU
        unfold lO at hx;rw[bj hx]
       exact⟨λx hx=>(by rw[he]at hx;cases hx),λ_=>afv m h n k p ga hh np kx hk ie gS mJ d Dd hd hu hc hE hle nU⟩
      |false=>
       have he:oX m h k p=some (mn m.length (λ_=>m.length) (λi j=>jx (((iQ m h p k).getD i []).getD j gL) (Iv.mk (iB (ik (jJ (ia (ib h) (gZ d) p) p (k+1)) (je (gY 1) (ik (ia (ib h) (gZ d) p) (gY ((k+2:Nat):Int)) p) p) p).hi) (ik (jJ (ia (ib h) (gZ d) p) p (k+1)) (je (gY 1) (ik (ia (ib h) (gZ d) p) (gY ((k+2:Nat):Int)) p) p) p).hi false) p)):=by
        unfold oX;rw[hr,cS];simp only;have hx:¬lO ((iQ m h p k).map λr=>r.map λx=>jx x (Iv.mk (iB (ik (jJ (ia (ib h) (gZ d) p) p (k+1)) (je (gY 1) (ik (ia (ib h) (gZ d) p) (gY ((k+2:Nat):Int)) p) p) p).hi) (ik (jJ (ia (ib h) (gZ d) p) p (k+1)) (je (gY 1) (ik (ia (ib h) (gZ d) p) (gY ((k+2:Nat):Int)) p) p) p).hi false) p)=true:=by rw[<-hW,nU];decide
        unfold lO at hx;rw[bh hx,hW]
       refine⟨λx hx=>?_,λhx=>(by rw[he]at hx;cases hx)⟩;rw[he]at hx;cases hx;exact afw m h n k p ga hh np kx hk ie gS mJ d Dd hd hu hc hE hle nU
noncomputable def nY(o:kq)(v a b da db:Iv)(p:Nat):Iv:=
 if o.kind=1 then gY 0 else if o.kind=3 then jx da db p else if o.kind=4 then je da db p else if o.kind=5 then jx (ia da b p) (ia a db p) p
 else if o.kind=6 then ik (je da (ia v db p) p) b p else if o.kind=7 then oC da
 else if o.kind=8 then(if o.n=0 then ia (gY 0) da p else ia (ia (gY (o.n:Int)) (lp a (o.n-1) p) p) da p)
 else if o.kind=9 then ia v da p else if o.kind=10 then ik da a p
 else if o.kind=11 then ia (FG a p) da p else if o.kind=12 then oC (ia (FH a p) da p)else if o.kind=13 then ik da (ahr v 1) p else gL
noncomputable def rk(o:kq)(v:Iv)(l c:List Iv)(p:Nat):Iv:=
 if v.all then gL else nY o v (l.getD o.a gL) (l.getD o.b gL) (c.getD o.a gL) (c.getD o.b gL) p
def kX(n i:Nat):Nat->List Iv
 | 0=>[]
 |k+1=>kX n i k++[if k=i then gY 1 else gY 0]
noncomputable def iV(t:lS)(l:List Iv)(i p:Nat):Nat->List Iv
 | 0=>kX t.gP i t.gP
 |k+1=>iV t l i p k++[rk (t.gI.getD k ig) (l.getD (t.gP+k) gL) l (iV t l i p k) p]
noncomputable def kN(t:lS)(xs:List Iv)(p q i:Nat):Iv:=(iV t (iC t.gI xs p t.gI.length) i p t.gI.length).getD (t.gN.getD q 0) gL
def jT(n:Nat)(F:Nat->Nat->Iv)(i k:Nat):List (List Iv):=(List.range n).map λq=>(List.range (if q<k then i+1 else i)).map (F q)
noncomputable def lG(t:lS)(xs:List Iv)(p m:Nat):List (List Iv):=jT t.gN.length (kN t xs p) m 0
def GQ{n:Nat}(h:n<4294967296):(gY (n:Int)).gQ:=pO (ux n h)
def D2:(gY 0).gQ:=GQ (n:=0) aF 
def ad2:(gY 1).gQ:=GQ (n:=1) aF 
def tn{c:Prop}[Decidable c]{x y:Iv}(hx:x.gQ)(hy:y.gQ):(if c then x else y).gQ:=by
 by_cases h:c
 .rwa [bj h]
 .rwa [bh h]
def YF(o:kq){v a b da db:Iv}(hv:v.gQ)(hd:da.gQ)(he:db.gQ){p:Nat}(hp:1<=p)(gS:p<=4096):(nY o v a b da db p).gQ:=by
 unfold nY;exact tn D2<|tn (pU hd he hp gS)<|tn (pU hd (rZ he) hp gS)<|tn (pU (ml _ _ hp gS) (ml _ _ hp gS) hp gS) <|
  tn (lT _ _ hp gS)<|tn (rZ hd)<|tn (tn (ml _ _ hp gS) (ml _ _ hp gS))<|tn (ml _ _ hp gS)<|tn (lT _ _ hp gS) <|
  tn (ml _ _ hp gS)<|tn (rZ (ml _ _ hp gS))<|tn (lT _ _ hp gS) nj
def Ik(n i:Nat):∀ k,(kX n i k).length=k
 | 0=>rfl
 |k+1=>by simp only[kX,cv,Ik n i k,cN,fu]
def Wr(n i:Nat):∀ k,oO (kX n i k)
 | 0=>λ_=>nj
 |k+1=>(Wr n i k).push (by split;exact ad2;exact D2)
def CI(t:lS)(l:List Iv)(i p:Nat):∀ k,(iV t l i p k).length=t.gP+k
 | 0=>Ik _ _ _
 |k+1=>by simp only[iV,cv,CI t l i p k,cN,fu];omega
def YH(o:kq){v:Iv}(hv:v.gQ){l c:List Iv}(hc:oO c){p:Nat}(hp:1<=p)(gS:p<=4096):(rk o v l c p).gQ:=by
 unfold rk;split
 .exact nj
 .exact YF o hv (hc _) (hc _) hp gS
def CJ(t:lS){l:List Iv}(hl:oO l)(i:Nat){p:Nat}(hp:1<=p)(gS:p<=4096):∀ k,oO (iV t l i p k)
 | 0=>Wr _ _ _
 |k+1=>(CJ t hl i hp gS k).push (YH _ (hl _) (CJ t hl i hp gS k) hp gS)
def acA(t:lS){xs:List Iv}(h:oO xs){p:Nat}(hp:1<=p)(gS:p<=4096)(q i:Nat):(kN t xs p q i).gQ:=CJ t (AP t.gI h hp gS _) i hp gS _ _
def Mv(n:Nat)(F:Nat->Nat->Iv)(i k:Nat):(jT n F i k).length=n:=by simp[jT]
def Ct{n:Nat}{F:Nat->Nat->Iv}{i k q:Nat}(h:q<n):(jT n F i k).getD q []=(List.range (if q<k then i+1 else i)).map (F q):=by
 simp[jT,bn,h]
def ahZ(n:Nat)(F:Nat->Nat->Iv)(i:Nat):jT n F i n=jT n F (i+1) 0:=by
 unfold jT;apply dh;intro q hq;rw[bj (bD.1 hq),bh (bC _)]
def VW{T1 T0 n n':Nat}{F:Nat->Nat->Iv}(hn:n=n'):Bx.le (.iH true T1 T0 n 7 (λ_=>0) (λ_ _ _=>.any) .none) (.iH true T1 T0 n' 7 (iS (jT n' F 0 0)) (jH (jT n' F 0 0)) .none):=by
 subst hn;refine .iH rfl (λk hk=>?_) (λk i j hk hi hj=>absurd hi (bC i));show 0=((jT n F 0 0).getD k []).length;rw[Ct hk];simp
def VY{T1 T0 n n' m x k:Nat}{F:Nat->Nat->Iv}{y:Iv}(hn:n=n')(hm:m=n)(hx:k<n)(hy:y=F k x):
 Bx.le (.iH true T1 T0 n 7 (λq=>if q=k then iS (jT m F x k) q+[y].length else iS (jT m F x k) q)
  (λq i j=>if q=k then(if i<iS (jT m F x k) q then jH (jT m F x k) q i j else(E.ke (ic [y])) (i-iS (jT m F x k) q) j)else jH (jT m F x k) q i j) .none)
  (.iH true T1 T0 n' 7 (iS (jT m F x (k+1))) (jH (jT m F x (k+1))) .none):=by
 subst hn hm hy;have hl:∀ q,q<m->(if q=k then iS (jT m F x k) q+[F k x].length else iS (jT m F x k) q)=iS (jT m F x (k+1)) q:=by
  intro q hq;simp only[iS,Ct hq,cr,dL,cN,fu];by_cases h1:q=k
  .subst h1;simp
  .rw [bh h1];by_cases h2:q<k
   .rw [bj h2,bj aD]
   .rw [bh h2,bh aD]
 refine .iH rfl hl (λq i j hq hi hj=>⟨.iD ?_,yA _ _ hj⟩);have lL:=hi;rw[hl q hq]at lL;simp only[iS,Ct hq,cr,dL]at lL;simp only[iS,jH,Ct hq,cr,dL];rw[tz lL];by_cases h1:q=k
 .subst h1;rw[bj rfl,bh (eu q)];rw[bj (gE q)]at lL;by_cases h2:i<x
  .rw [bj h2,tz h2]
  .have:i=x:= aD ;subst this;rw[bh h2,cV];rfl
 .rw [bh h1];have e:(if q<k then x+1 else x)=if q<k+1 then x+1 else x:=by
   by_cases h2:q<k
   .rw [bj h2,bj aD]
   .rw [bh h2,bh aD]
  rw[e,tz lL]
def VX{T1 T0 n n' m x:Nat}{F:Nat->Nat->Iv}(hn:n=n'):Bx.le (.iH true T1 T0 n 7 (iS (jT m F x m)) (jH (jT m F x m)) .none) (.iH true T1 T0 n' 7 (iS (jT m F (x+1) 0)) (jH (jT m F (x+1) 0)) .none):=by
 subst hn;rw[ahZ];exact .refl _
def LZ(r:List Iv)(i p:Nat):Nat->Dy
 | 0=>ix
 |k+1=>if k=i then LZ r i p k else ji (iM (LZ r i p k) (ku (r.getD k gL))) p true
def BS(r:List Iv)(i p k:Nat):Bool:=decide (k=i)||decide (jl (iM (LZ r i p k) (ku (r.getD k gL))) p true=0)
def rK(m:List (List Iv))(p:Nat):Nat->Iv
 | 0=>(m.getD 0 []).getD 0 gL
 |k+1=>jx (rK m p k) ((m.getD (k+1) []).getD (k+1) gL) p
def zi(m:List (List Iv)):Bool:=(List.range m.length).any λi=>mI (m.getD i [])
def AM:List (Int×FuncId×List FuncId):=[(1,332,[]),(3,333,[78]),(4,334,[203]),
 (7,335,[]),(5,336,[78,115]),(6,337,[128,203,115]),
 (8,338,[115]),(9,339,[115]),(10,340,[128]),
 (11,341,[115]),(12,342,[115]),(13,343,[128])]
def ql(w:World)(b:Nat)(l:List MapEntry):World:={ w with heap:=w.heap.setIfInBounds b (.map l.toArray l.length) }
def Tp{w:World}{b:Nat}(h:b<w.heap.size)(l:List MapEntry):(ql w b l).heap[b]? = some (.map l.toArray l.length):=by simp[ql,h]
def Tq{w:World}{b x:Nat}(h:x≠b)(l:List MapEntry):(ql w b l).heap[x]? = w.heap[x]?:=by simp[ql,Ne.symm h]
def LK(w:World)(b:Nat)(l:List MapEntry):(ql w b l).heap.size=w.heap.size:=by simp[ql]
def ajf{P:Program}{w:World}{gI:Array Oper}{rest:List Oper}{o:Oper}{a:Act}{Q:Exit->Act->World->Prop}(hg:o.guard=none)(t:TypeId)(im:o.op = .makeMap t none)
 (h:wpList P gI Q rest (a.put o.dst (.map (some w.heap.size))) (ql (w.alloc (.map #[] 0)) w.heap.size [])):wpList P gI Q (o::rest) a w:=by
 refine wpList_plain hg λK hK=>?_
 have e:ql (w.alloc (.map #[] 0)) w.heap.size []=w.alloc (.map #[] 0):=by
  unfold ql;have:(w.alloc (.map #[] 0)).heap.setIfInBounds w.heap.size (.map ([]:List MapEntry).toArray ([]:List MapEntry).length)=(w.alloc (.map #[] 0)).heap:=by
   apply Array.ext_getElem?;intro i;rw[akk];split
   .rename_i hi;subst hi;rw[heap_alloc_new];simp
   .rfl
  rw[this]
 rw[e]at h;have hr:(Instr.makeMap t none).run P w = .ok (.map (some w.heap.size)) (w.alloc (.map #[] 0)):=by simp[Instr.makeMap]
 unfold Oper.wp;simp[execOp,im,hr,Result.andThen];exact hK _ _ h
def uL{w:World}{gI:Array Oper}{rest:List Oper}{o:Oper}{a:Act}{Q:Exit->Act->World->Prop}(hg:o.guard=none)(t:TypeId)(m k x:Operand)(im:o.op = .insert t m k x)
 (ti tk:TI) (kt et:TypeId) (oA:mc TT t=some ti) (hd:ti.d = .map kt et) (htk:mc TT kt=some tk) (hdk:tk.d = .int .i64) (b:Nat) (l:List MapEntry) (z:Int) (v:Value) (hb:b<w.heap.size)
 (hm:a.eval m = .map (some b)) (hz:a.eval k = .int .i64 z) (hv:a.eval x=v) (hn:Instr.findNow (.int .i64) (.int .i64 z) l 0=some none)
 (h:wpList prog gI Q rest (a.put o.dst undef) (ql w b (l++[⟨.int .i64 z,v,l.length⟩]))):wpList prog gI Q (o::rest) a (ql w b l):=by
 have hu:prog.underlying t=some (.map kt et):=by rw[zg.pT oA,hd]
 have hk:prog.underlying kt=some (.int .i64):=by rw[zg.pT htk,hdk]
 refine wpList_plain hg λK hK=>?_
 have hh:=Tp hb l;have h1:(Instr.mapUpdate t (.map (some b)) (.int .i64 z) v).run prog (ql w b l) = .ok () (ql w b (l++[⟨.int .i64 z,v,l.length⟩])):=by
  have e2:{ ql w b l with heap:=(ql w b l).heap.setIfInBounds b (.map (l.toArray.push ⟨.int .i64 z,v,l.length⟩) (l.length+1)) }=ql w b (l++[⟨.int .i64 z,v,l.length⟩]):=by
   simp[ql]
  rw[<-e2];simp[Instr.mapUpdate,run_underlying hu,MapKept.run_getObj_map hh,MapKept.run_checkKey hk (k:=.int .i64 z) (by simp[MapKept.IsKey]) false 9999,MapKept.run_findKey hk hn,MapKept.run_setObj_map _ hh,Result.andThen]
 unfold Oper.wp;simp[execOp,im,hm,hz,hv,h1,Result.andThen];exact hK _ _ h
def aeH(cs:Array Value):Obj->Obj
 | .cells _ elem frozen=>.cells cs elem frozen
 |o=>o
def nF(w:World)(o:Obj):(w.alloc o).heap=w.heap.push o:=rfl
def vV(w:World)(g:Nat)(cs:Array Value):(w.setRow g cs).heap=w.heap.modify g (aeH cs):=by
 unfold World.setRow;congr 1
def nh(a:Act)(v:Value):a.put none v=a:=rfl
def mY(a:Act)(d:Option Tmp)(v:Value):(a.put d v).tmps.size=a.tmps.size:=by cases d<;>simp[Act.put]
def aeI(a:Act)(d:Option Tmp)(v:Value):(a.put d v).defers=a.defers:=by cases d<;>rfl
def mR{a:Act}{d:Tmp}{v:Value}(h:d<a.tmps.size):(a.put (some d) v).eval (.tmp d)=v:=by
 show(a.tmps.setIfInBounds d v).getD d undef=v;simp[h]
def nc{a:Act}{d t:Tmp}{v:Value}(h:¬d=t):(a.put (some d) v).eval (.tmp t)=a.eval (.tmp t):=by
 show(a.tmps.setIfInBounds d v).getD t undef=a.tmps.getD t undef;simp[ajU h]
def IE(bs:Nat->Prop)(w:World)(g:FuncId)(v:Value):Prop:=∃ b,v = .pointer (some ⟨b,0,none⟩)/\¬bs b/\b<w.heap.size/\w.cell? ⟨b,0,none⟩=some (.func (.func g) #[] #[])
def IF(bs:Nat->Prop)(w:World)(gs:List FuncId)(vs:List Value):Prop:=∀ (i:Nat) (g:FuncId) (v:Value),gs[i]? = some g->vs[i]? = some v->IE bs w g v
def tV{bs:Nat->Prop}{w:World}{vs:List Value}:IF bs w [] vs:=λi g v h=>by simp at h
def sQ{bs:Nat->Prop}{w:World}{g:FuncId}{v:Value}{gs:List FuncId}{vs:List Value}(h:IE bs w g v)(k:IF bs w gs vs):IF bs w (g::gs) (v::vs):=λi g' v' hg hv=>by
 cases i with
 |zero=>simp at hg hv;subst hg hv;exact h
 |succ i=>exact k i g' v' (by simpa using hg) (by simpa using hv)
def Iz{w:World}{gI:Array Oper}{rest:List Oper}{o:Oper}{a:Act}{Q:Exit->Act->World->Prop}(hg:o.guard=none)(t:TypeId)(x y:Operand)(im:o.op = .store t x y)(ti:TI)(oA:mc TT t=some ti)(h1:ti.i.size=1)
 (b:Nat) (v c:Value) (E:TypeId) (hx:a.eval x = .pointer (some ⟨b,0,none⟩)) (hy:a.eval y=v) (hv:v.cells = #[v]) (ho:v.oneCell'=true) (hb:w.heap[b]? = some (.cells #[c] E (0,0)))
 (h:wpList prog gI Q rest (a.put o.dst undef) (w.setRow b #[v])):wpList prog gI Q (o::rest) a w:=by
 refine wpList_plain hg λK hK=>?_
 have hr:=Ht zg w oA b 0 E #[c] hb v (by rw[hv,h1];rfl) (by rw[hv];exact bp _) (by rw[hv];intro u hu;simp at hu;subst hu;exact ho);rw[hv]at hr;have e:((#[c]:Array Value).toList.take 0++(#[v]:Array Value).toList++(#[c]:Array Value).toList.drop (0+(#[v]:Array Value).toList.length)).toArray = #[v]:=rfl;rw[e]at hr;unfold Oper.wp;simp[execOp,im,hx,hy,Instr.storeAt,Instr.sureAddr,hr,Result.andThen];exact hK _ _ h
def Iy{w:World}{gI:Array Oper}{rest:List Oper}{o:Oper}{a:Act}{Q:Exit->Act->World->Prop}(hg:o.guard=none)(t:TypeId)(im:o.op = .alloc t)(ti:TI)(oA:mc TT t=some ti)(z:Value)(hz:ti.i.zero=some z)(cs:Array Value)(hc:z.cells=cs)
 (h:wpList prog gI Q rest (a.put o.dst (.pointer (some ⟨w.heap.size,0,none⟩))) (w.alloc (.cells cs t))):wpList prog gI Q (o::rest) a w:=by
 refine wpList_plain hg λK hK=>?_
 subst hc;have hr:=Mn zg w oA hz;unfold Oper.wp;simp[execOp,im,Instr.alloc,hr,newRow,run_newObj_alloc,Result.andThen];exact hK _ _ h
def wp_move{P:Program}{w:World}{gI:Array Oper}{rest:List Oper}{o:Oper}{a:Act}{Q:Exit->Act->World->Prop}(hg:o.guard=none)(x:Operand)(im:o.op = .move x\/o.op = .assign x)(v:Value)(hx:a.eval x=v)
 (h:wpList P gI Q rest (a.put o.dst v) w):wpList P gI Q (o::rest) a w:=by
 refine wpList_plain hg λK hK=>?_
 unfold Oper.wp;rcases im with im|im
 .simp [execOp,im,hx,Result.andThen];exact hK _ _ h
 .simp [execOp,im,hx,Result.andThen];exact hK _ _ h
def wN{P:Program}{w:World}{gI:Array Oper}{rest:List Oper}{o:Oper}{a:Act}{Q:Exit->Act->World->Prop}(hg:o.guard=none)(f:FuncId)(cs:Array Operand)(im:o.op = .makeFunc (.func f) #[] cs)(vs:Array Value)(hv:cs.map a.eval=vs)
 (h:wpList P gI Q rest (a.put o.dst (.func (.func f) #[] vs)) w):wpList P gI Q (o::rest) a w:=by
 refine wpList_plain hg λK hK=>?_
 unfold Oper.wp;simp[execOp,im,Instr.makeFunc,hv,Result.andThen];exact hK _ _ h
set_option maxRecDepth 100000 in
def ahl:gJ 290 [] (.mp AM):=by
 refine⟨call290,λw B vs hK hB hr=>?_⟩;obtain rfl:=hr.ph;show Calls _ _ #[] w _;clear hr hK;go_enter func290,ntmps290;refine wp_seq (wp_region_list ?_);refine wp_move aI _ (.inr aI) _ aI (wpList_nil ?_);refine wp_seq (wp_region_list ?_);refine Iy aI _ aI _ aI _ aI #[.nilFunc] aI ?_;refine Iy aI _ aI _ aI _ aI #[.nilFunc] aI ?_;refine Iy aI _ aI _ aI _ aI #[.nilFunc] aI ?_;refine Iy aI _ aI _ aI _ aI #[.nilFunc] aI ?_;refine Iz aI _ _ _ aI _ aI aI _ (.func (.func 115) #[] #[]) .nilFunc 96 aI aI aI aI (by(simp only[nF,vV,dz,dW,cY,dA];repeat (first|rw[bj trivial]|rw[bj aD]|rw[bh aD]))) ?_;refine Iz aI _ _ _ aI _ aI aI _ (.func (.func 128) #[] #[]) .nilFunc 96 aI aI aI aI (by(simp only[nF,vV,dz,dW,cY,dA];repeat (first|rw[bj trivial]|rw[bj aD]|rw[bh aD]))) ?_;refine Iz aI _ _ _ aI _ aI aI _ (.func (.func 78) #[] #[]) .nilFunc 96 aI aI aI aI (by(simp only[nF,vV,dz,dW,cY,dA];repeat (first|rw[bj trivial]|rw[bj aD]|rw[bh aD]))) ?_;refine Iz aI _ _ _ aI _ aI aI _ (.func (.func 203) #[] #[]) .nilFunc 96 aI aI aI aI (by(simp only[nF,vV,dz,dW,cY,dA];repeat (first|rw[bj trivial]|rw[bj aD]|rw[bh aD]))) ?_;refine wpList_nil ?_;generalize hW:World.setRow _ _ _=W;have s0:W.heap.size=w.heap.size+4:=by rw[<-hW];simp[nF,vV]
 have so:W.os=w.os:=by rw[<-hW];rfl
 have st:W.tape=w.tape:=by rw[<-hW];rfl
 have sp:W.output=w.output:=by rw[<-hW];rfl
 have s1:∀ x,x<w.heap.size->W.heap[x]? = w.heap[x]?:=λx hx=>by
  rw[<-hW];simp only[nF,vV,dz,dW,cY,dA]
  repeat (first|rw[bj trivial]|rw[bj aD]|rw[bh aD])
 generalize ha:Act.put _ _ _=a;have e1:a.eval (.tmp 1) = .pointer (some ⟨w.heap.size,0,none⟩):=by rw[<-ha];rfl
 have e2:a.eval (.tmp 2) = .pointer (some ⟨w.heap.size+1,0,none⟩):=by rw[<-ha,show w.heap.size+1=(w.alloc (.cells #[.nilFunc] 96)).heap.size by simp[nF]];rfl
 have e3:a.eval (.tmp 3) = .pointer (some ⟨w.heap.size+2,0,none⟩):=by rw[<-ha,show w.heap.size+2=((w.alloc (.cells #[.nilFunc] 96)).alloc (.cells #[.nilFunc] 96)).heap.size by simp[nF]];rfl
 have e4:a.eval (.tmp 4) = .pointer (some ⟨w.heap.size+3,0,none⟩):=by rw[<-ha,show w.heap.size+3=(((w.alloc (.cells #[.nilFunc] 96)).alloc (.cells #[.nilFunc] 96)).alloc (.cells #[.nilFunc] 96)).heap.size by simp[nF]];rfl
 have sz:a.tmps.size=17:=by rw[<-ha];rfl
 have hd:a.defers=[]:=by rw[<-ha];rfl
 have c1:W.heap[w.heap.size]? = some (.cells #[.func (.func 115) #[] #[]] 96 (0,0)):=by
  rw[<-hW];simp only[nF,vV,dz,dW,cY,dA]
  repeat (first|rw[bj trivial]|rw[bj aD]|rw[bh aD])
  rfl
 have c2:W.heap[w.heap.size+1]? = some (.cells #[.func (.func 128) #[] #[]] 96 (0,0)):=by
  rw[<-hW];simp only[nF,vV,dz,dW,cY,dA]
  repeat (first|rw[bj trivial]|rw[bj aD]|rw[bh aD])
  rfl
 have c3:W.heap[w.heap.size+2]? = some (.cells #[.func (.func 78) #[] #[]] 96 (0,0)):=by
  rw[<-hW];simp only[nF,vV,dz,dW,cY,dA]
  repeat (first|rw[bj trivial]|rw[bj aD]|rw[bh aD])
  rfl
 have c4:W.heap[w.heap.size+3]? = some (.cells #[.func (.func 203) #[] #[]] 96 (0,0)):=by
  rw[<-hW];simp only[nF,vV,dz,dW,cY,dA]
  repeat (first|rw[bj trivial]|rw[bj aD]|rw[bh aD])
  rfl
 clear hW ha;refine wp_seq (wp_region_list ?_);refine ajf aI _ aI ?_;refine uL aI _ _ _ _ aI _ _ _ _ aI aI aI aI _ _ _ (.func (.func 332) #[] #[]) (by simp[nF]) (by simp[nh,mY,mR,nc,e1,e2,e3,e4,sz]) aI aI aI ?_;refine wN aI _ _ aI #[.pointer (some ⟨w.heap.size+2,0,none⟩)] (by simp[nh,mY,mR,nc,e1,e2,e3,e4,sz]) ?_;refine uL aI _ _ _ _ aI _ _ _ _ aI aI aI aI _ _ _ (.func (.func 333) #[] #[.pointer (some ⟨w.heap.size+2,0,none⟩)]) (by simp[nF]) (by simp[nh,mY,mR,nc,e1,e2,e3,e4,sz]) aI (by simp[nh,mY,mR,nc,e1,e2,e3,e4,sz]) aI ?_;refine wN aI _ _ aI #[.pointer (some ⟨w.heap.size+3,0,none⟩)] (by simp[nh,mY,mR,nc,e1,e2,e3,e4,sz]) ?_;refine uL aI _ _ _ _ aI _ _ _ _ aI aI aI aI _ _ _ (.func (.func 334) #[] #[.pointer (some ⟨w.heap.size+3,0,none⟩)]) (by simp[nF]) (by simp[nh,mY,mR,nc,e1,e2,e3,e4,sz]) aI (by simp[nh,mY,mR,nc,e1,e2,e3,e4,sz]) aI ?_;refine uL aI _ _ _ _ aI _ _ _ _ aI aI aI aI _ _ _ (.func (.func 335) #[] #[]) (by simp[nF]) (by simp[nh,mY,mR,nc,e1,e2,e3,e4,sz]) aI aI aI ?_
 refine wN aI _ _ aI #[.pointer (some ⟨w.heap.size+2,0,none⟩),.pointer (some ⟨w.heap.size,0,none⟩)] (by simp[nh,mY,mR,nc,e1,e2,e3,e4,sz]) ?_;refine uL aI _ _ _ _ aI _ _ _ _ aI aI aI aI _ _ _ (.func (.func 336) #[] #[.pointer (some ⟨w.heap.size+2,0,none⟩),.pointer (some ⟨w.heap.size,0,none⟩)]) (by simp[nF]) (by simp[nh,mY,mR,nc,e1,e2,e3,e4,sz]) aI (by simp[nh,mY,mR,nc,e1,e2,e3,e4,sz]) aI ?_;refine wN aI _ _ aI #[.pointer (some ⟨w.heap.size+1,0,none⟩),.pointer (some ⟨w.heap.size+3,0,none⟩),.pointer (some ⟨w.heap.size,0,none⟩)] (by simp[nh,mY,mR,nc,e1,e2,e3,e4,sz]) ?_;refine uL aI _ _ _ _ aI _ _ _ _ aI aI aI aI _ _ _ (.func (.func 337) #[] #[.pointer (some ⟨w.heap.size+1,0,none⟩),.pointer (some ⟨w.heap.size+3,0,none⟩),.pointer (some ⟨w.heap.size,0,none⟩)]) (by simp[nF]) (by simp[nh,mY,mR,nc,e1,e2,e3,e4,sz]) aI (by simp[nh,mY,mR,nc,e1,e2,e3,e4,sz]) aI ?_;refine wN aI _ _ aI #[.pointer (some ⟨w.heap.size,0,none⟩)] (by simp[nh,mY,mR,nc,e1,e2,e3,e4,sz]) ?_
 refine uL aI _ _ _ _ aI _ _ _ _ aI aI aI aI _ _ _ (.func (.func 338) #[] #[.pointer (some ⟨w.heap.size,0,none⟩)]) (by simp[nF]) (by simp[nh,mY,mR,nc,e1,e2,e3,e4,sz]) aI (by simp[nh,mY,mR,nc,e1,e2,e3,e4,sz]) aI ?_;refine wN aI _ _ aI #[.pointer (some ⟨w.heap.size,0,none⟩)] (by simp[nh,mY,mR,nc,e1,e2,e3,e4,sz]) ?_;refine uL aI _ _ _ _ aI _ _ _ _ aI aI aI aI _ _ _ (.func (.func 339) #[] #[.pointer (some ⟨w.heap.size,0,none⟩)]) (by simp[nF]) (by simp[nh,mY,mR,nc,e1,e2,e3,e4,sz]) aI (by simp[nh,mY,mR,nc,e1,e2,e3,e4,sz]) aI ?_;refine wN aI _ _ aI #[.pointer (some ⟨w.heap.size+1,0,none⟩)] (by simp[nh,mY,mR,nc,e1,e2,e3,e4,sz]) ?_;refine uL aI _ _ _ _ aI _ _ _ _ aI aI aI aI _ _ _ (.func (.func 340) #[] #[.pointer (some ⟨w.heap.size+1,0,none⟩)]) (by simp[nF]) (by simp[nh,mY,mR,nc,e1,e2,e3,e4,sz]) aI (by simp[nh,mY,mR,nc,e1,e2,e3,e4,sz]) aI ?_;refine wN aI _ _ aI #[.pointer (some ⟨w.heap.size,0,none⟩)] (by simp[nh,mY,mR,nc,e1,e2,e3,e4,sz]) ?_
 refine uL aI _ _ _ _ aI _ _ _ _ aI aI aI aI _ _ _ (.func (.func 341) #[] #[.pointer (some ⟨w.heap.size,0,none⟩)]) (by simp[nF]) (by simp[nh,mY,mR,nc,e1,e2,e3,e4,sz]) aI (by simp[nh,mY,mR,nc,e1,e2,e3,e4,sz]) aI ?_;refine wN aI _ _ aI #[.pointer (some ⟨w.heap.size,0,none⟩)] (by simp[nh,mY,mR,nc,e1,e2,e3,e4,sz]) ?_;refine uL aI _ _ _ _ aI _ _ _ _ aI aI aI aI _ _ _ (.func (.func 342) #[] #[.pointer (some ⟨w.heap.size,0,none⟩)]) (by simp[nF]) (by simp[nh,mY,mR,nc,e1,e2,e3,e4,sz]) aI (by simp[nh,mY,mR,nc,e1,e2,e3,e4,sz]) aI ?_;refine wN aI _ _ aI #[.pointer (some ⟨w.heap.size+1,0,none⟩)] (by simp[nh,mY,mR,nc,e1,e2,e3,e4,sz]) ?_;refine uL aI _ _ _ _ aI _ _ _ _ aI aI aI aI _ _ _ (.func (.func 343) #[] #[.pointer (some ⟨w.heap.size+1,0,none⟩)]) (by simp[nF]) (by simp[nh,mY,mR,nc,e1,e2,e3,e4,sz]) aI (by simp[nh,mY,mR,nc,e1,e2,e3,e4,sz]) aI ?_;refine wp_move aI _ (.inl aI) (.map (some W.heap.size)) (by simp[nh,mY,mR,nc,sz]) ?_;refine wp_move aI _ (.inr aI) (.map (some W.heap.size)) (by simp[nh,mY,mR,nc,sz]) (wpList_nil ?_);refine wp_ret ?_;generalize hz:Act.put _ _ _=z;have z0:z.eval (.tmp 0) = .map (some W.heap.size):=by rw[<-hz];exact mR (by simp[mY,sz])
 have zd:z.defers=[]:=by rw[<-hz];simp only[aeI,hd]
 clear hz;refine⟨zd,.map (some W.heap.size),?_,_,rfl,?_,?_⟩
 .rw [<-z0];unfold results;rw[show f290.results = #[.tmp 0]from rfl];simp;show _=z.tmps.getD 0 undef;simp
 .refine ⟨so,st,sp,by simp[LK,nF];omega,λx hx=>?_⟩;rw[Tq aD,nF,dA,bh aD,s1 x hx]
 .have bx:∀ (k:Nat) (g:FuncId),k<4->W.heap[w.heap.size+k]? = some (.cells #[.func (.func g) #[] #[]] 96 (0,0))->∀ L,IE B (ql (W.alloc (.map #[] 0)) W.heap.size L) g (.pointer (some ⟨w.heap.size+k,0,none⟩)):=λk g hk hc L=>by
   refine⟨_,rfl,λh=>?_,?_,?_⟩
   .have:=(hB _ h).1;omega
   .simp [LK,nF];omega
   .have e:(ql (W.alloc (.map #[] 0)) W.heap.size L).heap[w.heap.size+k]? = some (.cells #[.func (.func g) #[] #[]] 96 (0,0)):=by
     rw[Tq aD,nF,dA,bh aD,hc]
    simp[World.cell?,e]
  have b1:=bx 0 _ aF c1;have b2:=bx 1 _ aF c2;have b3:=bx 2 _ aF c3;have b4:=bx 3 _ aF c4;refine .mp _ _ _ _ (λh=>?_) (by simp[LK,nF]) (Tp (by simp[nF]) _) ?_
  .have:=(hB _ h).1;omega
  .exact ⟨⟨rfl,_,rfl,rfl,tV⟩,⟨⟨rfl,_,rfl,rfl,sQ (b3 _) tV⟩,⟨⟨rfl,_,rfl,rfl,sQ (b4 _) tV⟩,⟨⟨rfl,_,rfl,rfl,tV⟩,⟨⟨rfl,_,rfl,rfl,sQ (b3 _) (sQ (b1 _) tV)⟩,⟨⟨rfl,_,rfl,rfl,sQ (b2 _) (sQ (b4 _) (sQ (b1 _) tV))⟩,⟨⟨rfl,_,rfl,rfl,sQ (b1 _) tV⟩,⟨⟨rfl,_,rfl,rfl,sQ (b1 _) tV⟩,⟨⟨rfl,_,rfl,rfl,sQ (b2 _) tV⟩,⟨⟨rfl,_,rfl,rfl,sQ (b1 _) tV⟩,⟨⟨rfl,_,rfl,rfl,sQ (b1 _) tV⟩,⟨⟨rfl,_,rfl,rfl,sQ (b2 _) tV⟩,trivial⟩⟩⟩⟩⟩⟩⟩⟩⟩⟩⟩⟩
def CW(n:Int)(h:n.natAbs<4294967296):gJ 291 [iP n] (gR (gY n)):=by
 have hv:=Gy h;exact aj call291 func291 (ae [af [iP n] (CF _ aD),.c (xt (jI n) aE)]) 
def adV(o:kq)(v a b da db:Iv)(p:Nat):List E:=BT o++iA v++iA a++iA b++iA da++iA db++[iP (p:Int)]
def Ll(o:kq)(v:Iv)(p:Nat):E:=.agg (BT o++iA v++ar++ar++ar++ar++[iP (p:Int)])
def xB(o:kq)(v a b da db:Iv)(p:Nat):E:=.agg (adV o v a b da db p)
def ahb(o:kq)(v:Iv)(p:Nat):gJ 332 [Ll o v p] (gR (gY 0)):=
 aj call332 func332 (ae [.c (CW 0 aD)]) 
def ahc(o:kq)(v a b da db:Iv)(p:Nat)(hv:v.gQ)(ha:a.gQ)(hb:b.gQ)(hd:da.gQ)(he:db.gQ)(ie:8<=p)(gS:p<=512):gJ 333 [xB o v a b da db p,(.jN 1 λ_=>.fn 78 [])] (gR (jx da db p)):=by
 have q1:1<=p:= aD ;have q2:p<=4096:= aD ;exact aj call333 func333 (ae [.c (xr da db p aE aE aD aD)]) 
def ahd(o:kq)(v a b da db:Iv)(p:Nat)(hv:v.gQ)(ha:a.gQ)(hb:b.gQ)(hd:da.gQ)(he:db.gQ)(ie:8<=p)(gS:p<=512):gJ 334 [xB o v a b da db p,(.jN 1 λ_=>.fn 203 [])] (gR (je da db p)):=by
 have q1:1<=p:= aD ;have q2:p<=4096:= aD ;exact aj call334 func334 (ae [.c (Dw da db p aE aE aD aD)]) 
def ahg(o:kq)(v a b da db:Iv)(p:Nat)(hv:v.gQ)(ha:a.gQ)(hb:b.gQ)(hd:da.gQ)(he:db.gQ)(ie:8<=p)(gS:p<=512):gJ 335 [xB o v a b da db p] (gR (oC da)):=by
 have q1:1<=p:= aD ;have q2:p<=4096:= aD ;exact aj call335 func335 (ae [.c (KT da aE)]) 
def ahe(o:kq)(v a b da db:Iv)(p:Nat)(hv:v.gQ)(ha:a.gQ)(hb:b.gQ)(hd:da.gQ)(he:db.gQ)(ie:8<=p)(gS:p<=512):gJ 336 [xB o v a b da db p,(.jN 1 λ_=>.fn 78 []),(.jN 1 λ_=>.fn 115 [])] (gR (jx (ia da b p) (ia a db p) p)):=by
 have q1:1<=p:= aD ;have q2:p<=4096:= aD ;exact aj call336 func336 (ae [.c (rC da b p aE aE aD aD),.c (rC a db p aE aE aD aD),.c (xr (ia da b p) (ia a db p) p (ml _ _ q1 q2) (ml _ _ q1 q2) aD aD)]) 
def ahf(o:kq)(v a b da db:Iv)(p:Nat)(hv:v.gQ)(ha:a.gQ)(hb:b.gQ)(hd:da.gQ)(he:db.gQ)(ie:8<=p)(gS:p<=512):gJ 337 [xB o v a b da db p,(.jN 1 λ_=>.fn 128 []),(.jN 1 λ_=>.fn 203 []),(.jN 1 λ_=>.fn 115 [])] (gR (ik (je da (ia v db p) p) b p)):=by
 have q1:1<=p:= aD ;have q2:p<=4096:= aD ;exact aj call337 func337 (ae [.c (rC v db p aE aE aD aD),.c (Dw da (ia v db p) p aE (ml _ _ q1 q2) aD aD),.c (wb (je da (ia v db p) p) b p (pU hd (rZ (ml _ _ q1 q2)) q1 q2) aE aD aD)]) 
def ahh(o:kq)(v a b da db:Iv)(p:Nat)(hv:v.gQ)(ha:a.gQ)(hb:b.gQ)(hd:da.gQ)(he:db.gQ)(ie:8<=p)(gS:p<=512)(h0:o.n=0):gJ 338 [xB o v a b da db p,(.jN 1 λ_=>.fn 115 [])] (gR (ia (gY 0) da p)):=by
 have q1:1<=p:= aD ;have q2:p<=4096:= aD ;have um:=D2;exact aj call338 func338 (ae [ag 7 ((o.n:Int)==0) (qk h0),.c (CW 0 aD),.c (rC (gY 0) da p um aE aD aD)]) 
def ahi(o:kq)(v a b da db:Iv)(p:Nat)(hv:v.gQ)(ha:a.gQ)(hb:b.gQ)(hd:da.gQ)(he:db.gQ)(ie:8<=p)(gS:p<=512)(h0:o.n≠0)(hn:o.n<=16):gJ 338 [xB o v a b da db p,(.jN 1 λ_=>.fn 115 [])] (gR (ia (ia (gY (o.n:Int)) (lp a (o.n-1) p) p) da p)):=by
 have q1:1<=p:= aD ;have q2:p<=4096:= aD ;have um:=GQ (aD:o.n<4294967296);have Kz:=LN ha (o.n-1) q1 q2;exact aj call338 func338 (ae [ah 7 ((o.n:Int)==0) (mv h0),.c (CW (o.n:Int) aD),gW ((o.n:Int)-1) aD,.o 26 (an ((o.n:Int)-1) ((o.n-1:Nat):Int) aD),af [gR a,iP ((o.n-1:Nat):Int),iP p] (Nk _ _ _ aE aD aD aD),.c (rC (gY (o.n:Int)) (lp a (o.n-1) p) p um Kz aD aD),.c (rC (ia (gY (o.n:Int)) (lp a (o.n-1) p) p) da p (ml _ _ q1 q2) aE aD aD)]) 
def AL(k:Nat):FuncId:=if k=1 then 332 else if k=3 then 333 else if k=4 then 334 else if k=7 then 335 else if k=5 then 336 else if k=6 then 337 else if k=8 then 338 else if k=9 then 339 else if k=10 then 340 else if k=11 then 341 else if k=12 then 342 else if k=13 then 343 else 0
def AK(k:Nat):List E:=if k=1 then[]else if k=3 then[.jN 1 λ_=>.fn 78 []]else if k=4 then[.jN 1 λ_=>.fn 203 []]else if k=7 then[]else if k=5 then[.jN 1 λ_=>.fn 78 [],.jN 1 λ_=>.fn 115 []]else if k=6 then[.jN 1 λ_=>.fn 128 [],.jN 1 λ_=>.fn 203 [],.jN 1 λ_=>.fn 115 []]else if k=8 then[.jN 1 λ_=>.fn 115 []]else if k=9 then[.jN 1 λ_=>.fn 115 []]else if k=10 then[.jN 1 λ_=>.fn 128 []]else if k=11 then[.jN 1 λ_=>.fn 115 []]else if k=12 then[.jN 1 λ_=>.fn 115 []]else if k=13 then[.jN 1 λ_=>.fn 128 []]else[]
def Vw{k:Nat}(h:k=1\/3<=k)(h2:k<=13):wq AM (k:Int)=some (.fn (AL k) (AK k)):=by
 have:k=1\/k=3\/k=4\/k=5\/k=6\/k=7\/k=8\/k=9\/k=10\/k=11\/k=12\/k=13:= aD ;rcases this with h|h|h|h|h|h|h|h|h|h|h|h<;>subst h<;>rfl
def ahk(k:Nat)(hk:k=1)(o:kq)(v:Iv)(p:Nat):gJ (AL k) (Ll o v p::AK k) (gR (gY 0)):=by
 subst hk;exact ahb o v p
def LB{o:kq}{m:Nat}(h:mP o m)(hm:1<=m):o.b<m:=by
 have:=h.b;split at this<;>omega
def Il{T n n' m i x:Nat}{y:Iv}(hn:n=(kX m i x).length)(qX:n'=(kX m i (x+1)).length)(hy:(if x=i then gY 1 else gY 0)=y):
 Bx.le (.row true T (n+[y].length) 7 λi_ j=>if i_<n then ja (kX m i x) i_ j else(E.ke (ic [y])) (i_-n) j) (.row true T n' 7 (ja (kX m i (x+1)))):=by
 subst qX hy;exact KW hn
def A7{T n n' i x p:Nat}{t:lS}{l:List Iv}{y:Iv}(hn:n=(iV t l i p x).length)(qX:n'=(iV t l i p (x+1)).length)(hy:rk (t.gI.getD x ig) (l.getD (t.gP+x) gL) l (iV t l i p x) p=y):
 Bx.le (.row true T (n+[y].length) 7 λi_ j=>if i_<n then ja (iV t l i p x) i_ j else(E.ke (ic [y])) (i_-n) j) (.row true T n' 7 (ja (iV t l i p (x+1)))):=by
 subst qX hy;exact KW hn
def VV{n x k:Nat}{F:Nat->Nat->Iv}(h:k<n):iS (jT n F x k) k=x:=by simp only[iS,Ct h];simp
def yC(t:lS)(xs:List Iv)(p m:Nat):(lG t xs p m).length=t.gN.length:=Mv _ _ _ _
def KX{t:lS}{xs:List Iv}{p m q:Nat}(h:q<t.gN.length):(lG t xs p m).getD q []=(List.range m).map (kN t xs p q):=by
 unfold lG;rw[Ct h,bh (bC _)]
def DB{t:lS}{xs:List Iv}{p m:Nat}(hm:m<=1000)(q:Nat):((lG t xs p m).getD q []).length<=1000:=by
 by_cases h:q<t.gN.length
 .rw [KX h];simpa using hm
 .rw [bn,bR (by rw[yC];omega)];simp
noncomputable def tp(s:lX)(b:List Iv)(p:Nat):Bool:=mI (nn s.tape (b++s.params) p)||zi (lG s.tape (b++s.params) p s.ij)
noncomputable def lU(s:lX)(b:List Iv)(p:Nat):List (List Iv):=(lG s.tape (b++s.params) p s.ij)
def Dx{s:lX}(h:og s)(b:List Iv)(p:Nat):(lU s b p).length=s.ij:=by unfold lU;rw[yC,h.gN]
def Dz{s:lX}(h:og s)(b:List Iv)(p:Nat){i:Nat}(hi:i<s.ij):((lU s b p).getD i []).length=s.ij:=by
 unfold lU;rw[KX (by rw[h.gN];exact hi)];simp
def DA{s:lX}(h:og s){b:List Iv}(hb:oM s.ij b){p:Nat}(hp:1<=p)(gS:p<=4096)(i j:Nat):(((lU s b p).getD i []).getD j gL).gQ:=by
 obtain⟨f1,f2,f3,f4⟩:=zn h hb;by_cases hi:i<s.tape.gN.length
 .unfold lU;rw[KX hi];by_cases hj:j<s.ij
  .rw [tz hj];exact acA _ f4 hp gS _ _
  .rw [bn,bR (by simpa using hj)];exact nj
 .rw [bn (l:=lU s b p),bR (by rw[Dx h];rw[h.gN]at hi;omega)];exact nj
def Ig{s:lX}(h:og s){b:List Iv}(hb:oM s.ij b){p:Nat}(hp:1<=p)(gS:p<=4096):∀ k,(rK (lU s b p) p k).gQ
 | 0=>DA h hb hp gS 0 0
 |k+1=>pU (Ig h hb hp gS k) (DA h hb hp gS _ _) hp gS
def acB{s:lX}(h:og s){b:List Iv}(hb:oM s.ij b){p:Nat}(hp:1<=p)(gS:p<=4096):iY (lU s b p) s.ij s.ij:=by
 have s1:=h.s1;have s4:=h.s4;have k0:∀ {α:Type} {l:List α} {x:α} (d:α),x ∈ l->∃ i,i<l.length/\l.getD i d=x:=λd hx=>by
  obtain⟨i,hi,e⟩:=ajS hx;exact⟨i,hi,by rw[bn,bt hi];exact e⟩
 refine⟨Dx h b p,λr hr=>?_,λr hr x hx=>?_,aD,aD,aD,aD⟩
 .obtain ⟨i,hi,rfl⟩:=k0 [] hr;rw[Dx h]at hi;exact Dz h b p hi
 .obtain ⟨i,hi,rfl⟩:=k0 [] hr;obtain⟨j,hj,rfl⟩:=k0 gL hx;exact DA h hb hp gS i j
def nA(d:RD):Bool:=decide (20<d.L.length)||(decide (300<d.e)||decide (d.e < -300))
def rD(x:RI):Bool:=nA x.lo||nA x.hi
def qt(l:List RI):Bool:=decide (l.length<=8) && !((List.range l.length).any λi=>rD (l.getD i iR))
def Hy{l:List RI}(h:qt l=true):l.length<=8:=by
 unfold qt at h;rw[bQ,cF]at h;exact h.1
end Go.Proofs.YtkjkcjhacddojaaGreatDoor
namespace Go.Proofs.YtkjkcjhacddojaaGreatDoor.Fp
end Go.Proofs.YtkjkcjhacddojaaGreatDoor.Fp
namespace Go.Proofs.YtkjkcjhacddojaaGreatDoor
open Go.RowKit Fp Pu
def po(t:lS):Prop:=∀ i,(t.gI.getD i ig).kind<=8
section
variable {s:lX} {x x' b b':List Iv} {h h':Dy} {p n:Nat}
end
def vF(s:jq):Bool:=decide (0<=s.gP/\s.gP<=8/\s.gI.length<=200/\s.gN.length<=200)&&(En s&&uI s)
def Bc(o:mQ):Bool:=decide (9<=o.kind/\o.kind<=13)
def tA(s:jq):Bool:=((List.range s.gI.length).all λi=>!Bc (s.gI.getD i iU))&&vF s
def af5{s:jq}(h:tA s=true)(hv:og s.v):po s.v.tape:=by
 unfold tA at h;rw[bQ]at h;intro i;by_cases hi:i<s.gI.length
 .have h1:=bS.1 h.1 i (bD.2 hi);have e:s.v.tape.gI.getD i ig=(s.gI.getD i iU).v:=by
   show(s.gI.map mQ.v).getD i ig=_;simp[bn,hi]
  have h2:=(hv.tape.op i (by show i<(s.gI.map mQ.v).length;rw[cr];exact hi)).BI;rw[e]at h2 ⊢;change (s.gI.getD i iU).kind.toNat<=13 at h2;show(s.gI.getD i iU).kind.toNat<=8;unfold Bc at h1;simp only[fh,decide_eq_false_iff_not]at h1;omega
 .have e:s.v.tape.gI.getD i ig=ig:=by
   show(s.gI.map mQ.v).getD i ig=_;rw[bn,bR aY];rfl
  rw[e];decide
def XD{n:Int}{b:List RI}(gb:∀ i,(b.getD i iR).jo)(h:vP n b=true):oM n.toNat (b.map RI.iv)/\jk b=ic (b.map RI.iv):=by
 unfold vP at h;rw[bQ,cF]at h;obtain⟨b1,b2⟩:=h;have pa:∀ i,i<b.length->(b.getD i iR).Ok/\(b.getD i iR).all=false:=λi hi=>by
  have:=bS.1 b2 i (bD.2 hi);unfold n6 at this;rw[bQ]at this;exact⟨pM.1 this.1,by simpa using this.2⟩
 have k0:∀ i,i<b.length->(b.map RI.iv).getD i gL=(b.getD i iR).iv:=λi hi=>by simp[bn,hi]
 refine⟨⟨by rw[cr];omega,λi hi=>?_⟩,?_⟩
 .have hi:i<b.length:=by simpa using hi
  rw[k0 i hi];exact⟨(pa i hi).1.valid,(pa i hi).2⟩
 .rw [<-KV];congr 1;apply fF;intro i;unfold sJ;rw[cD,cD];by_cases hi:i<b.length
  .have h1:=(pa i hi).1;have g1:=gb i;rw[bt hi];rw[bn,bt hi]at h1 g1;exact congrArg some (RI.Ok.eq (x:=b[i]) h1 g1).symm
  .rw [bR aD];rfl
def Ww(s:jq)(N:Nat)(x:Nat):PS:=⟨70,true,[(3,.e (iP x)),(1,.box 1 0)],[(1,.cells 25 [iP s.gP,jC s.gI,jG s.gN])]⟩
def Wt(s:jq)(x:Nat):PS:=⟨70,true,[(3,.e (iP x)),(1,.box 1 0)],[(1,.cells 25 [iP s.gP,jC s.gI,jG s.gN])]⟩
def Wx(s:jq)(N:Nat)(x:Nat):PS:=⟨70,true,[(4,.e (iP x)),(1,.box 1 0)],[(1,.cells 25 [iP s.gP,jC s.gI,jG s.gN])]⟩
def Wu(s:jq)(x:Nat):PS:=⟨70,true,[(3,.e (iP x)),(1,.box 1 0)],[(1,.cells 25 [iP s.gP,jC s.gI,jG s.gN])]⟩
def Wy(s:jq)(N:Nat)(x:Nat):PS:=⟨70,true,[(4,.e (iP x)),(1,.box 1 0)],[(1,.cells 25 [iP s.gP,jC s.gI,jG s.gN])]⟩
def Wv(s:jq)(x:Nat):PS:=⟨70,true,[(3,.e (iP x)),(1,.box 1 0)],[(1,.cells 25 [iP s.gP,jC s.gI,jG s.gN])]⟩
def Wz(s:jq)(x:Nat):PS:=⟨70,true,[(4,.e (iP x)),(1,.box 1 0)],[(1,.cells 25 [iP s.gP,jC s.gI,jG s.gN])]⟩
def UA(s:jq)(N:Nat)(x:Nat):PS:=⟨38,true,[(3,.e (iP x)),(1,.box 1 0)],[(1,.cells 25 [iP s.gP,jC s.gI,jG s.gN])]⟩
def Uw(s:jq)(N:Nat)(x:Nat):PS:=⟨38,true,[(3,.e (iP x)),(1,.box 1 0)],[(1,.cells 25 [iP s.gP,jC s.gI,jG s.gN])]⟩
def Ux(s:jq)(N:Nat)(x:Nat):PS:=⟨38,true,[(3,.e (iP x)),(1,.box 1 0)],[(1,.cells 25 [iP s.gP,jC s.gI,jG s.gN])]⟩
def Uy(s:jq)(N:Nat)(x:Nat):PS:=⟨38,true,[(3,.e (iP x)),(1,.box 1 0)],[(1,.cells 25 [iP s.gP,jC s.gI,jG s.gN])]⟩
def Uz(s:jq)(N:Nat)(x:Nat):PS:=⟨38,true,[(3,.e (iP x)),(1,.box 1 0)],[(1,.cells 25 [iP s.gP,jC s.gI,jG s.gN])]⟩
def UB(s:jq)(x:Nat):PS:=⟨38,true,[(3,.e (iP x)),(1,.box 1 0)],[(1,.cells 25 [iP s.gP,jC s.gI,jG s.gN])]⟩
def abf{x:List RI}(gx0:∀ y,y ∈ x->y.jo):∀ i,(x.getD i iR).jo:=λi=>by
 by_cases hi:i<x.length
 .rw [bn,bt hi];exact gx0 _ (ch hi)
 .rw [bn,bR aD];exact Hu
def IV(n d:Int):gJ 173 [.agg [iP n,iP d]] (bP (decide (n=0/\d=0))):=
 aj call173 func173 (.w (n=0)
  (λk1=>aa [tB 5 (a8 k1)]<|rQ (bP (d==0)) (bP (decide (n=0/\d=0))) (qS (by rw[dn];simp[k1])))
  (λk1=>aa [tB 5 (a7 k1)]<|rQ (bP false) (bP (decide (n=0/\d=0))) (qS (by rw[dn];simp[k1])))) 
noncomputable def GV(o:mQ)(m:Int)(g:o.jo)(A B:Bool)(hA:A=(decide (0<=o.a/\o.a<m)))(hB:B=(decide (0<=o.b/\o.b<m))):Tr prog Tb:=
  .w (o.kind=1)
  (λk1=>aa [tB 28 (a8 k1)]<|.w (o.a=0)
   (λk2=>aa [tB 31 (a8 k2)]<|.w (o.b=0)
    (λk3=>aa [tB 35 (a8 k3)]<|.w (o.n=0)
     (λk4=>aa [tB 40 (a8 k4),.c (Eh o.cn o.cd)]<|rQ (bP (lv o.cn o.cd)) (bP (jz o m)) kP)
     (λk4=>aa [tB 40 (a7 k4)]<|rQ (bP false) (bP (jz o m)) kP))
    (λk3=>aa [tB 35 (a7 k3)]<|rQ (bP false) (bP (jz o m)) kP))
   (λk2=>aa [tB 31 (a7 k2)]<|rQ (bP false) (bP (jz o m)) kP))
  (λk1=>aa [tB 28 (a7 k1),.j 94 ⟨112,true,[(47,.e (bP (decide (3<=o.kind/\o.kind<=6)))),(26,.e (iP o.kind)),(6,.e (bP B)),(5,.e (bP A)),(2,.box 2 0)],[(2,.cells 74 [iP o.kind,iP o.a,iP o.b,iP o.n,iP o.cn,iP o.cd])]⟩
   (.w (o.kind=3)
    (λm1=>aa [.v 47 (.bool (a8 m1))]<|.e (ae [tB 47 (nQ aM:true=(decide (3<=o.kind/\o.kind<=6)))]))
    (λm1=>aa [.v 47 (.bool (a7 m1))]<|.w (o.kind=4)
     (λm2=>aa [tB 49 (a8 m2)]<|.e (ae [tB 47 (nQ aM:true=(decide (3<=o.kind/\o.kind<=6)))]))
     (λm2=>aa [tB 49 (a7 m2)]<|.w (o.kind=5)
      (λm3=>aa [tB 50 (a8 m3)]<|.e (ae [tB 47 (nQ aM:true=(decide (3<=o.kind/\o.kind<=6)))]))
      (λm3=>aa [tB 50 (a7 m3)]<|.e (ae [tB 47 (nQ aM:(o.kind==6)=(decide (3<=o.kind/\o.kind<=6)))])))))]<|.w (3<=o.kind/\o.kind<=6)
   (λk2=>aa [.v 47 (.bool (bk k2))]<|.w (A=true)
    (λk3=>aa [tB 52 k3]<|.w (B=true)
     (λk4=>aa [tB 54 k4]<|.w (o.n=0)
      (λk5=>aa [tB 59 (a8 k5),af [.agg [iP o.cn,iP o.cd]] (IV _ _)]<|rQ (bP (decide (o.cn=0/\o.cd=0))) (bP (jz o m)) kP)
      (λk5=>aa [tB 59 (a7 k5)]<|rQ (bP false) (bP (jz o m)) kP))
     (λk4=>aa [tB 54 (bc k4)]<|rQ (bP false) (bP (jz o m)) kP))
    (λk3=>aa [tB 52 (bc k3)]<|rQ (bP false) (bP (jz o m)) kP))
   (λk2=>aa [.v 47 (.bool (bl k2)),.j 132 ⟨112,true,[(66,.e (bP (decide (o.kind=7\/9<=o.kind/\o.kind<=13)))),(26,.e (iP o.kind)),(5,.e (bP A)),(2,.box 2 0)],[(2,.cells 74 [iP o.kind,iP o.a,iP o.b,iP o.n,iP o.cn,iP o.cd])]⟩
   (.w (o.kind=7)
    (λm1=>aa [.v 66 (.bool (a8 m1))]<|.e (ae [tB 66 (nQ aM:true=(decide (o.kind=7\/9<=o.kind/\o.kind<=13)))]))
    (λm1=>aa [.v 66 (.bool (a7 m1))]<|.w (o.kind=9)
     (λm2=>aa [tB 68 (a8 m2)]<|.e (ae [tB 66 (nQ aM:true=(decide (o.kind=7\/9<=o.kind/\o.kind<=13)))]))
     (λm2=>aa [tB 68 (a7 m2)]<|.w (o.kind=10)
      (λm3=>aa [tB 69 (a8 m3)]<|.e (ae [tB 66 (nQ aM:true=(decide (o.kind=7\/9<=o.kind/\o.kind<=13)))]))
      (λm3=>aa [tB 69 (a7 m3)]<|.w (o.kind=11)
       (λm4=>aa [tB 70 (a8 m4)]<|.e (ae [tB 66 (nQ aM:true=(decide (o.kind=7\/9<=o.kind/\o.kind<=13)))]))
       (λm4=>aa [tB 70 (a7 m4)]<|.w (o.kind=12)
        (λm5=>aa [tB 71 (a8 m5)]<|.e (ae [tB 66 (nQ aM:true=(decide (o.kind=7\/9<=o.kind/\o.kind<=13)))]))
        (λm5=>aa [tB 71 (a7 m5)]<|.e (ae [tB 66 (nQ aM:(o.kind==13)=(decide (o.kind=7\/9<=o.kind/\o.kind<=13)))])))))))]<|.w (o.kind=7\/9<=o.kind/\o.kind<=13)
    (λk3=>aa [.v 66 (.bool (bk k3))]<|.w (A=true)
     (λk4=>aa [tB 73 k4]<|.w (o.b=0)
      (λk5=>aa [tB 77 (a8 k5)]<|.w (o.n=0)
       (λk6=>aa [tB 82 (a8 k6),af [.agg [iP o.cn,iP o.cd]] (IV _ _)]<|rQ (bP (decide (o.cn=0/\o.cd=0))) (bP (jz o m)) kP)
       (λk6=>aa [tB 82 (a7 k6)]<|rQ (bP false) (bP (jz o m)) kP))
      (λk5=>aa [tB 77 (a7 k5)]<|rQ (bP false) (bP (jz o m)) kP))
     (λk4=>aa [tB 73 (bc k4)]<|rQ (bP false) (bP (jz o m)) kP))
    (λk3=>aa [.v 66 (.bool (bl k3))]<|.w (o.kind=8)
     (λk4=>aa [tB 90 (a8 k4)]<|.w (A=true)
      (λk5=>aa [tB 91 k5]<|.w (o.b=0)
       (λk6=>aa [tB 95 (a8 k6)]<|.w (0<=o.n)
        (λk7=>aa [tB 100 (bk k7)]<|.w (o.n<=16)
         (λk8=>aa [tB 105 (bk k8),af [.agg [iP o.cn,iP o.cd]] (IV _ _)]<|rQ (bP (decide (o.cn=0/\o.cd=0))) (bP (jz o m)) kP)
         (λk8=>aa [tB 105 (bl k8)]<|rQ (bP false) (bP (jz o m)) kP))
        (λk7=>aa [tB 100 (bl k7)]<|rQ (bP false) (bP (jz o m)) kP))
       (λk6=>aa [tB 95 (a7 k6)]<|rQ (bP false) (bP (jz o m)) kP))
      (λk5=>aa [tB 91 (bc k5)]<|rQ (bP false) (bP (jz o m)) kP))
     (λk4=>aa [tB 90 (a7 k4)]<|rQ (bP false) (bP (jz o m)) kP))))
def D5(o:mQ)(m:Int)(g:o.jo):gJ 98 [qq o,iP m] (bP (jz o m)):=
 aj call98 func98 (.w (0<=o.a)
  (λk1=>aa [tB 9 (bk k1)]<|.w (0<=o.b)
   (λk2=>aa [tB 18 (bk k2)]<|GV o m g (decide (o.a<m)) (decide (o.b<m)) (by simp[k1]) (by simp[k2]))
   (λk2=>aa [tB 18 (bl k2)]<|GV o m g (decide (o.a<m)) false (by simp[k1]) (by simp[k2])))
  (λk1=>aa [tB 9 (bl k1)]<|.w (0<=o.b)
   (λk2=>aa [tB 18 (bk k2)]<|GV o m g false (decide (o.b<m)) (by simp[k1]) (by simp[k2]))
   (λk2=>aa [tB 18 (bl k2)]<|GV o m g false false (by simp[k1]) (by simp[k2])))) 
def aiR(s:jq)(g:s.jo)(sm:s.mo)(hc:¬(0<=s.gP/\s.gP<=8/\s.gI.length<=200/\s.gN.length<=200)):gJ 50 [.agg [iP s.gP,jC s.gI,jG s.gN]] (bP false):=by
 have sp:=sm.params;have so:=sm.gN;have sq:=sm.gI;exact aj call50 func50 (.w (s.gP<0)
  (λk1=>ae [tB 7 (bk k1)])
  (λk1=>aa [tB 7 (bl k1)]<|.w (8<s.gP)
   (λk2=>ae [tB 11 (bk k2)])
   (λk2=>aa [tB 11 (bl k2)]<|.w (200<(s.gI.length:Int))
    (λk3=>ae [tB 17 (bk k3)])
    (λk3=>aa [tB 17 (bl k3)]<|.w (200<(s.gN.length:Int))
     (λk4=>ae [tB 23 (bk k4)])
     (λk4=>.x aD))))) 
def aiS(s:jq)(g:s.jo)(sm:s.mo)(i0:0<=s.gP)(i8:s.gP<=8)(l1:s.gI.length<=200)(l2:s.gN.length<=200)(N:Nat)(mA:N<s.gI.length)(iJ:∀ k,k<N->(jz (s.gI.getD k iU) (s.gP+(k:Int)))=true)(hN:(jz (s.gI.getD N iU) (s.gP+(N:Int)))=false):gJ 50 [.agg [iP s.gP,jC s.gI,jG s.gN]] (bP false):=by
 have sp:=sm.params;have so:=sm.gN;have sq:=sm.gI;exact aj call50 func50 (ae [tF 7 (s.gP<0) aD,tF 11 (8<s.gP) aD,tF 17 (200<(s.gI.length:Int)) aD,tF 23 (200<(s.gN.length:Int)) aD,.s (Sp.iG (Ww s N) 0 N aD (λx hx jf=>by
    have mT:=g.gI x;exact gX (ae [tT 29 ((x:Int)<s.gI.length) aD,iX (x:Int) (s.gI.length) aD,gW (s.gP+(x:Int)) aD,af [qq (s.gI.getD x iU),iP (s.gP+(x:Int))] (D5 _ _ mT),ah 42 (!(jz (s.gI.getD x iU) (s.gP+(x:Int)))) (by rw[iJ x aD];rfl),
     gW ((x:Int)+1) aD]) aG)
  (λhx=>by
    have mT:=g.gI N;exact gX (ae [tT 29 ((N:Int)<s.gI.length) aD,iX (N:Int) (s.gI.length) aD,gW (s.gP+(N:Int)) aD,af [qq (s.gI.getD N iU),iP (s.gP+(N:Int))] (D5 _ _ mT),ag 42 (!(jz (s.gI.getD N iU) (s.gP+(N:Int)))) (by rw[hN];rfl)]) aG) aK:iF 4 Tryz.f50 (Ww s N 0) .ret ⟨70,true,[(2,.e (bP false))],[]⟩) .nil]) 
def aiT(s:jq)(g:s.jo)(sm:s.mo)(i0:0<=s.gP)(i8:s.gP<=8)(l1:s.gI.length<=200)(l2:s.gN.length<=200)(iJ:∀ k,k<s.gI.length->(jz (s.gI.getD k iU) (s.gP+(k:Int)))=true)(N:Nat)(mA:N<s.gN.length)(mU:∀ k,k<N->0<=(s.gN.getD k 0)/\(s.gN.getD k 0)<s.gP+(s.gI.length:Int))(hN:(s.gN.getD N 0)<0):gJ 50 [.agg [iP s.gP,jC s.gI,jG s.gN]] (bP false):=by
 have sp:=sm.params;have so:=sm.gN;have sq:=sm.gI;exact aj call50 func50 (ae [tF 7 (s.gP<0) aD,tF 11 (8<s.gP) aD,tF 17 (200<(s.gI.length:Int)) aD,tF 23 (200<(s.gN.length:Int)) aD,.s (Sp.iG (Wt s) 0 s.gI.length aD (λx hx jf=>by
    have mT:=g.gI x;exact gX (ae [tT 29 ((x:Int)<s.gI.length) aD,iX (x:Int) (s.gI.length) aD,gW (s.gP+(x:Int)) aD,af [qq (s.gI.getD x iU),iP (s.gP+(x:Int))] (D5 _ _ mT),ah 42 (!(jz (s.gI.getD x iU) (s.gP+(x:Int)))) (by rw[iJ x aD];rfl),
     gW ((x:Int)+1) aD]) aG)
  (λhx=>by
    exact gX (ae [tF 29 ((s.gI.length:Int)<s.gI.length) aD]) aG) aK:iF 4 Tryz.f50 (Wt s 0) (.exit 0) ⟨70,true,[(1,.box 1 0)],[(1,.cells 25 [iP s.gP,jC s.gI,jG s.gN])]⟩) .nil,.s (Sp.iG (Wx s N) 0 N aD (λx hx jf=>by
    have zN:=mU x aD;exact gX (ae [tT 47 ((x:Int)<s.gN.length) aD,iX (x:Int) (s.gN.length) aD,tF 55 ((s.gN.getD x 0)<0) aD,iX (x:Int) (s.gN.length) aD,
     gW (s.gP+(s.gI.length:Int)) aD,tF 68 ((s.gP+(s.gI.length:Int))<=(s.gN.getD x 0)) aD,gW ((x:Int)+1) aD]) aG)
  (λhx=>by
    exact gX (ae [tT 47 ((N:Int)<s.gN.length) aD,iX (N:Int) (s.gN.length) aD,tB 55 (bk hN)]) aG) aK:iF 9 Tryz.f50 (Wx s N 0) .ret ⟨70,true,[(2,.e (bP false))],[]⟩) .nil]) 
def aiU(s:jq)(g:s.jo)(sm:s.mo)(i0:0<=s.gP)(i8:s.gP<=8)(l1:s.gI.length<=200)(l2:s.gN.length<=200)(iJ:∀ k,k<s.gI.length->(jz (s.gI.getD k iU) (s.gP+(k:Int)))=true)(N:Nat)(mA:N<s.gN.length)(mU:∀ k,k<N->0<=(s.gN.getD k 0)/\(s.gN.getD k 0)<s.gP+(s.gI.length:Int))(hN:0<=(s.gN.getD N 0))(hM:s.gP+(s.gI.length:Int)<=(s.gN.getD N 0)):gJ 50 [.agg [iP s.gP,jC s.gI,jG s.gN]] (bP false):=by
 have sp:=sm.params;have so:=sm.gN;have sq:=sm.gI;exact aj call50 func50 (ae [tF 7 (s.gP<0) aD,tF 11 (8<s.gP) aD,tF 17 (200<(s.gI.length:Int)) aD,tF 23 (200<(s.gN.length:Int)) aD,.s (Sp.iG (Wu s) 0 s.gI.length aD (λx hx jf=>by
    have mT:=g.gI x;exact gX (ae [tT 29 ((x:Int)<s.gI.length) aD,iX (x:Int) (s.gI.length) aD,gW (s.gP+(x:Int)) aD,af [qq (s.gI.getD x iU),iP (s.gP+(x:Int))] (D5 _ _ mT),ah 42 (!(jz (s.gI.getD x iU) (s.gP+(x:Int)))) (by rw[iJ x aD];rfl),
     gW ((x:Int)+1) aD]) aG)
  (λhx=>by
    exact gX (ae [tF 29 ((s.gI.length:Int)<s.gI.length) aD]) aG) aK:iF 4 Tryz.f50 (Wu s 0) (.exit 0) ⟨70,true,[(1,.box 1 0)],[(1,.cells 25 [iP s.gP,jC s.gI,jG s.gN])]⟩) .nil,.s (Sp.iG (Wy s N) 0 N aD (λx hx jf=>by
    have zN:=mU x aD;exact gX (ae [tT 47 ((x:Int)<s.gN.length) aD,iX (x:Int) (s.gN.length) aD,tF 55 ((s.gN.getD x 0)<0) aD,iX (x:Int) (s.gN.length) aD,
     gW (s.gP+(s.gI.length:Int)) aD,tF 68 ((s.gP+(s.gI.length:Int))<=(s.gN.getD x 0)) aD,gW ((x:Int)+1) aD]) aG)
  (λhx=>by
    exact gX (ae [tT 47 ((N:Int)<s.gN.length) aD,iX (N:Int) (s.gN.length) aD,tF 55 ((s.gN.getD N 0)<0) aD,iX (N:Int) (s.gN.length) aD,
    gW (s.gP+(s.gI.length:Int)) aD,tB 68 (bk hM)]) aG) aK:iF 9 Tryz.f50 (Wy s N 0) .ret ⟨70,true,[(2,.e (bP false))],[]⟩) .nil]) 
def aiV(s:jq)(g:s.jo)(sm:s.mo)(i0:0<=s.gP)(i8:s.gP<=8)(l1:s.gI.length<=200)(l2:s.gN.length<=200)(iJ:∀ k,k<s.gI.length->(jz (s.gI.getD k iU) (s.gP+(k:Int)))=true)(mU:∀ k,k<s.gN.length->0<=(s.gN.getD k 0)/\(s.gN.getD k 0)<s.gP+(s.gI.length:Int)):gJ 50 [.agg [iP s.gP,jC s.gI,jG s.gN]] (bP true):=by
 have sp:=sm.params;have so:=sm.gN;have sq:=sm.gI;exact aj call50 func50 (ae [tF 7 (s.gP<0) aD,tF 11 (8<s.gP) aD,tF 17 (200<(s.gI.length:Int)) aD,tF 23 (200<(s.gN.length:Int)) aD,.s (Sp.iG (Wv s) 0 s.gI.length aD (λx hx jf=>by
    have mT:=g.gI x;exact gX (ae [tT 29 ((x:Int)<s.gI.length) aD,iX (x:Int) (s.gI.length) aD,gW (s.gP+(x:Int)) aD,af [qq (s.gI.getD x iU),iP (s.gP+(x:Int))] (D5 _ _ mT),ah 42 (!(jz (s.gI.getD x iU) (s.gP+(x:Int)))) (by rw[iJ x aD];rfl),
     gW ((x:Int)+1) aD]) aG)
  (λhx=>by
    exact gX (ae [tF 29 ((s.gI.length:Int)<s.gI.length) aD]) aG) aK:iF 4 Tryz.f50 (Wv s 0) (.exit 0) ⟨70,true,[(1,.box 1 0)],[(1,.cells 25 [iP s.gP,jC s.gI,jG s.gN])]⟩) .nil,.s (Sp.iG (Wz s) 0 s.gN.length aD (λx hx jf=>by
    have zN:=mU x aD;exact gX (ae [tT 47 ((x:Int)<s.gN.length) aD,iX (x:Int) (s.gN.length) aD,tF 55 ((s.gN.getD x 0)<0) aD,iX (x:Int) (s.gN.length) aD,
     gW (s.gP+(s.gI.length:Int)) aD,tF 68 ((s.gP+(s.gI.length:Int))<=(s.gN.getD x 0)) aD,gW ((x:Int)+1) aD]) aG)
  (λhx=>by
    exact gX (ae [tF 47 ((s.gN.length:Int)<s.gN.length) aD]) aG) aK:iF 9 Tryz.f50 (Wz s 0) (.exit 2) ⟨70,true,[],[]⟩) .nil]) 
def aiW(s:jq)(g:s.jo)(sm:s.mo):gJ 50 [.agg [iP s.gP,jC s.gI,jG s.gN]] (bP (vF s)):=by
 by_cases c1:0<=s.gP/\s.gP<=8/\s.gI.length<=200/\s.gN.length<=200
 rotate_left
 .rw [show vF s=false by unfold vF;rw[bl c1];rfl];exact aiR s g sm c1
 obtain⟨i0,i8,l1,l2⟩:=c1;by_cases c2:En s=true
 rotate_left
 .rw [show vF s=false by unfold vF;rw[bc c2];simp];obtain⟨N,n1,n2,n3⟩:=xV c2;exact aiS s g sm i0 i8 l1 l2 N n1 (λk hk=>by simpa using n3 k hk) (by simpa using n2)
 have iJ:∀ k,k<s.gI.length->jz (s.gI.getD k iU) (s.gP+(k:Int))=true:=λk hk=>bS.1 c2 k (bD.2 hk)
 by_cases c3:uI s=true
 .rw [show vF s=true by unfold vF;rw[bk (⟨i0,i8,l1,l2⟩:_/\_),c2,c3];rfl];exact aiV s g sm i0 i8 l1 l2 iJ λk hk=>cK (bS.1 c3 k (bD.2 hk))
 .rw [show vF s=false by unfold vF;rw[bc c3];simp];obtain⟨N,n1,n2,n3⟩:=xV c3;have mU:∀ k,k<N->0<=s.gN.getD k 0/\s.gN.getD k 0<s.gP+(s.gI.length:Int):=λk hk=>by simpa[uD]using n3 k hk
  have hN:¬(0<=s.gN.getD N 0/\s.gN.getD N 0<s.gP+(s.gI.length:Int)):=λq=>by
   rw[show uD s (s.gN.getD N 0)=true from bk q]at n2;cases n2
  by_cases h0:s.gN.getD N 0<0
  .exact aiT s g sm i0 i8 l1 l2 iJ N n1 mU h0
  .exact aiU s g sm i0 i8 l1 l2 iJ N n1 mU aD aD 
def afX(s:jq)(g:s.jo)(sm:s.mo)(N:Nat)(mA:N<s.gI.length)(iJ:∀ k,k<N->¬(9<=(s.gI.getD k iU).kind/\(s.gI.getD k iU).kind<=13))(hN:(s.gI.getD N iU).kind=9):gJ 13 [.agg [iP s.gP,jC s.gI,jG s.gN]] (bP false):=by
 have sp:=sm.params;have so:=sm.gN;have sq:=sm.gI;exact aj call13 func13 (ae [.s (Sp.iG (UA s N) 0 N aD (λx hx jf=>by
    have hk:=iJ x aD;exact gX (ae [tT 9 ((x:Int)<s.gI.length) aD,iX (x:Int) (s.gI.length) aD,ah 19 ((s.gI.getD x iU).kind==9) (a7 aD),ah 22 ((s.gI.getD x iU).kind==10) (a7 aD),ah 26 ((s.gI.getD x iU).kind==11) (a7 aD),ah 30 ((s.gI.getD x iU).kind==12) (a7 aD),ah 34 ((s.gI.getD x iU).kind==13) (a7 aD),gW ((x:Int)+1) aD]) aG)
  (λhx=>by
    exact gX (ae [tT 9 ((N:Int)<s.gI.length) aD,iX (N:Int) (s.gI.length) aD,tB 19 (a8 hN)]) aG) aK:iF 2 Tryz.f13 (UA s N 0) .ret ⟨38,true,[(2,.e (bP false))],[]⟩) .nil]) 
def afT(s:jq)(g:s.jo)(sm:s.mo)(N:Nat)(mA:N<s.gI.length)(iJ:∀ k,k<N->¬(9<=(s.gI.getD k iU).kind/\(s.gI.getD k iU).kind<=13))(hN:(s.gI.getD N iU).kind=10):gJ 13 [.agg [iP s.gP,jC s.gI,jG s.gN]] (bP false):=by
 have sp:=sm.params;have so:=sm.gN;have sq:=sm.gI;exact aj call13 func13 (ae [.s (Sp.iG (Uw s N) 0 N aD (λx hx jf=>by
    have hk:=iJ x aD;exact gX (ae [tT 9 ((x:Int)<s.gI.length) aD,iX (x:Int) (s.gI.length) aD,ah 19 ((s.gI.getD x iU).kind==9) (a7 aD),ah 22 ((s.gI.getD x iU).kind==10) (a7 aD),ah 26 ((s.gI.getD x iU).kind==11) (a7 aD),ah 30 ((s.gI.getD x iU).kind==12) (a7 aD),ah 34 ((s.gI.getD x iU).kind==13) (a7 aD),gW ((x:Int)+1) aD]) aG)
  (λhx=>by
    exact gX (ae [tT 9 ((N:Int)<s.gI.length) aD,iX (N:Int) (s.gI.length) aD,ah 19 ((s.gI.getD N iU).kind==9) (a7 aD),tB 22 (a8 hN)]) aG) aK:iF 2 Tryz.f13 (Uw s N 0) .ret ⟨38,true,[(2,.e (bP false))],[]⟩) .nil]) 
def afU(s:jq)(g:s.jo)(sm:s.mo)(N:Nat)(mA:N<s.gI.length)(iJ:∀ k,k<N->¬(9<=(s.gI.getD k iU).kind/\(s.gI.getD k iU).kind<=13))(hN:(s.gI.getD N iU).kind=11):gJ 13 [.agg [iP s.gP,jC s.gI,jG s.gN]] (bP false):=by
 have sp:=sm.params;have so:=sm.gN;have sq:=sm.gI;exact aj call13 func13 (ae [.s (Sp.iG (Ux s N) 0 N aD (λx hx jf=>by
    have hk:=iJ x aD;exact gX (ae [tT 9 ((x:Int)<s.gI.length) aD,iX (x:Int) (s.gI.length) aD,ah 19 ((s.gI.getD x iU).kind==9) (a7 aD),ah 22 ((s.gI.getD x iU).kind==10) (a7 aD),ah 26 ((s.gI.getD x iU).kind==11) (a7 aD),ah 30 ((s.gI.getD x iU).kind==12) (a7 aD),ah 34 ((s.gI.getD x iU).kind==13) (a7 aD),gW ((x:Int)+1) aD]) aG)
  (λhx=>by
    exact gX (ae [tT 9 ((N:Int)<s.gI.length) aD,iX (N:Int) (s.gI.length) aD,ah 19 ((s.gI.getD N iU).kind==9) (a7 aD),ah 22 ((s.gI.getD N iU).kind==10) (a7 aD),tB 26 (a8 hN)]) aG) aK:iF 2 Tryz.f13 (Ux s N 0) .ret ⟨38,true,[(2,.e (bP false))],[]⟩) .nil]) 
def afV(s:jq)(g:s.jo)(sm:s.mo)(N:Nat)(mA:N<s.gI.length)(iJ:∀ k,k<N->¬(9<=(s.gI.getD k iU).kind/\(s.gI.getD k iU).kind<=13))(hN:(s.gI.getD N iU).kind=12):gJ 13 [.agg [iP s.gP,jC s.gI,jG s.gN]] (bP false):=by
 have sp:=sm.params;have so:=sm.gN;have sq:=sm.gI;exact aj call13 func13 (ae [.s (Sp.iG (Uy s N) 0 N aD (λx hx jf=>by
    have hk:=iJ x aD;exact gX (ae [tT 9 ((x:Int)<s.gI.length) aD,iX (x:Int) (s.gI.length) aD,ah 19 ((s.gI.getD x iU).kind==9) (a7 aD),ah 22 ((s.gI.getD x iU).kind==10) (a7 aD),ah 26 ((s.gI.getD x iU).kind==11) (a7 aD),ah 30 ((s.gI.getD x iU).kind==12) (a7 aD),ah 34 ((s.gI.getD x iU).kind==13) (a7 aD),gW ((x:Int)+1) aD]) aG)
  (λhx=>by
    exact gX (ae [tT 9 ((N:Int)<s.gI.length) aD,iX (N:Int) (s.gI.length) aD,ah 19 ((s.gI.getD N iU).kind==9) (a7 aD),ah 22 ((s.gI.getD N iU).kind==10) (a7 aD),ah 26 ((s.gI.getD N iU).kind==11) (a7 aD),tB 30 (a8 hN)]) aG) aK:iF 2 Tryz.f13 (Uy s N 0) .ret ⟨38,true,[(2,.e (bP false))],[]⟩) .nil]) 
def afW(s:jq)(g:s.jo)(sm:s.mo)(N:Nat)(mA:N<s.gI.length)(iJ:∀ k,k<N->¬(9<=(s.gI.getD k iU).kind/\(s.gI.getD k iU).kind<=13))(hN:(s.gI.getD N iU).kind=13):gJ 13 [.agg [iP s.gP,jC s.gI,jG s.gN]] (bP false):=by
 have sp:=sm.params;have so:=sm.gN;have sq:=sm.gI;exact aj call13 func13 (ae [.s (Sp.iG (Uz s N) 0 N aD (λx hx jf=>by
    have hk:=iJ x aD;exact gX (ae [tT 9 ((x:Int)<s.gI.length) aD,iX (x:Int) (s.gI.length) aD,ah 19 ((s.gI.getD x iU).kind==9) (a7 aD),ah 22 ((s.gI.getD x iU).kind==10) (a7 aD),ah 26 ((s.gI.getD x iU).kind==11) (a7 aD),ah 30 ((s.gI.getD x iU).kind==12) (a7 aD),ah 34 ((s.gI.getD x iU).kind==13) (a7 aD),gW ((x:Int)+1) aD]) aG)
  (λhx=>by
    exact gX (ae [tT 9 ((N:Int)<s.gI.length) aD,iX (N:Int) (s.gI.length) aD,ah 19 ((s.gI.getD N iU).kind==9) (a7 aD),ah 22 ((s.gI.getD N iU).kind==10) (a7 aD),ah 26 ((s.gI.getD N iU).kind==11) (a7 aD),ah 30 ((s.gI.getD N iU).kind==12) (a7 aD),tB 34 (a8 hN)]) aG) aK:iF 2 Tryz.f13 (Uz s N 0) .ret ⟨38,true,[(2,.e (bP false))],[]⟩) .nil]) 
def afY(s:jq)(g:s.jo)(sm:s.mo)(iJ:∀ k,k<s.gI.length->¬(9<=(s.gI.getD k iU).kind/\(s.gI.getD k iU).kind<=13)):gJ 13 [.agg [iP s.gP,jC s.gI,jG s.gN]] (bP (vF s)):=by
 have sp:=sm.params;have so:=sm.gN;have sq:=sm.gI;exact aj call13 func13 (ae [.s (Sp.iG (UB s) 0 s.gI.length aD (λx hx jf=>by
    have hk:=iJ x aD;exact gX (ae [tT 9 ((x:Int)<s.gI.length) aD,iX (x:Int) (s.gI.length) aD,ah 19 ((s.gI.getD x iU).kind==9) (a7 aD),ah 22 ((s.gI.getD x iU).kind==10) (a7 aD),ah 26 ((s.gI.getD x iU).kind==11) (a7 aD),ah 30 ((s.gI.getD x iU).kind==12) (a7 aD),ah 34 ((s.gI.getD x iU).kind==13) (a7 aD),gW ((x:Int)+1) aD]) aG)
  (λhx=>by
    exact gX (ae [tF 9 ((s.gI.length:Int)<s.gI.length) aD]) aG) aK:iF 2 Tryz.f13 (UB s 0) (.exit 0) ⟨38,true,[(1,.box 1 0)],[(1,.cells 25 [iP s.gP,jC s.gI,jG s.gN])]⟩) .nil,af [.agg [iP s.gP,jC s.gI,jG s.gN]] (aiW s g sm)]) 
def G9(s:jq)(g:s.jo)(sm:s.mo):gJ 13 [.agg [iP s.gP,jC s.gI,jG s.gN]] (bP (tA s)):=by
 unfold tA;by_cases c:((List.range s.gI.length).all λi=>!Bc (s.gI.getD i iU))=true
 .rw [c,er];exact afY s g sm λi hi q=>by
   have h:=bS.1 c i (bD.2 hi);rw[show Bc (s.gI.getD i iU)=true from bk q]at h;cases h
 .rw [bc c,Bool.false_and];obtain⟨N,n1,n2,n3⟩:=xV c;have iJ:∀ k,k<N->¬(9<=(s.gI.getD k iU).kind/\(s.gI.getD k iU).kind<=13):=λk hk=>by simpa[Bc]using n3 k hk
  have hN:9<=(s.gI.getD N iU).kind/\(s.gI.getD N iU).kind<=13:=by simpa[Bc]using n2
  rcases(show(s.gI.getD N iU).kind=9\/(s.gI.getD N iU).kind=10\/(s.gI.getD N iU).kind=11\/(s.gI.getD N iU).kind=12\/(s.gI.getD N iU).kind=13 by omega)with h|h|h|h|h
  .exact afX s g sm N n1 iJ h
  .exact afT s g sm N n1 iJ h
  .exact afU s g sm N n1 iJ h
  .exact afV s g sm N n1 iJ h
  .exact afW s g sm N n1 iJ h
end Go.Proofs.YtkjkcjhacddojaaGreatDoor
namespace Go.Proofs.YtkjkcjhacddojaaGreatDoor.Fp
def PO{T p:Nat}{E:Int}(hT:gU T=p)(hp:1<=p){g:Rat}(hg:GM p g):g<=(T:Rat)*P2 E\/((T+1:Nat):Rat)*P2 E<=g:=by
 obtain⟨gm,ge,b1,b2,b3,rfl⟩:=hg;by_cases hc:E<=ge
 .rw [rE (K:=E) hc (b8 _),rE (K:=E) (b8 _) hc,show(E-E).toNat=0 by omega];omega
 .left;rw[rE (K:=ge) (b8 _) aD,show(ge-ge).toNat=0 by omega,bV,bW];have h1:gm<2^p:=kB.1 b1;have h2:2^(p-1)<=T:=wh.1 aD;have h3:2^1<=2^(E-ge).toNat:=bG aF aD;have h4:=di h2 h3;rw[<-bq,(aD:p-1+1=p)]at h4;omega
def adP{T p:Nat}{E:Int}(hT:gU T=p)(hp:1<=p)(h1:-16384<=E)(h2:(p:Int)+E<=16384){v:Rat}(uv:(T:Rat)*P2 E<=v)(qh:v<((T+1:Nat):Rat)*P2 E):Dn p v (canon false T E) 0:=by
 have e:(canon false T E).q=(T:Rat)*P2 E:=by rw[sE];simp
 have h0:0<=(T:Rat)*P2 E:=dU eJ (dp (rM E));refine⟨λ_=>⟨by rw[e];exact .inl ⟨T,E,aD,h1,aD,rfl⟩,by rw[e];exact uv⟩,λg hg Kl=>⟨rfl,?_⟩⟩;rw[e];by_cases C8:0<=g
 .rcases PO (E:=E) hT hp (hg.pos C8)with k|k
  .exact k
  .exfalso;grind
 .grind
def adR{T p:Nat}{E:Int}(hT:gU T=p)(hp:1<=p)(h1:-16384<=E)(h2:(p:Int)+E+1<=16384){v:Rat}(uv:(T:Rat)*P2 E<v)(qh:v<=((T+1:Nat):Rat)*P2 E):Up p v (canon false (T+1) E) 0:=by
 have e:(canon false (T+1) E).q=((T+1:Nat):Rat)*P2 E:=by rw[sE];simp
 have h0:0<=(T:Rat)*P2 E:=dU eJ (dp (rM E));refine⟨λ_=>⟨?_,by rw[e];exact qh⟩,λg hg Kl=>⟨rfl,?_⟩⟩
 .rw [e];have iE:T<2^p:=kB.1 aD;by_cases hb:T+1<2^p
  .exact .inl ⟨T+1,E,kB.2 hb,h1,by have:=kB.2 hb;omega,rfl⟩
  .refine .inl ⟨1,(p:Int)+E,by rw[EZ];exact hp,aD,by rw[EZ];omega,?_⟩;rw[(aD:T+1=2^p),y8,y9,show((1:Nat):Rat)=1 from rfl,ajJ]
 .rw [e];have C8:0<=g:= aO ;rcases PO (E:=E) hT hp (hg.pos C8)with k|k
  .exfalso;grind
  .exact k
def Z0{T p:Nat}{E:Int}(hT:gU T=p)(h1:-16384<=E)(h2:(p:Int)+E<=16384){v:Rat}(hv:v=(T:Rat)*P2 E):Up p v (canon false T E) 0:=by
 have e:(canon false T E).q=(T:Rat)*P2 E:=by rw[sE];simp
 exact⟨λ_=>⟨by rw[e];exact .inl ⟨T,E,aD,h1,aD,rfl⟩,by rw[e,hv];exact dg⟩,λg _ hg=>⟨rfl,by rw[e,<-hv];exact hg⟩⟩
def Y5{p:Nat}{v:Rat}{D D':Dy}{E':Int}(h:Dn p v D 0)(k:Dn p v D' E')(hc:D.lA)(w9:D'.lA):E'=0/\D'=D:=by
 obtain⟨g,hl⟩:=h.1 rfl;obtain⟨he,hle⟩:=k.2 _ g hl;obtain⟨g',oR⟩:=k.1 he;obtain⟨_,Bo⟩:=h.2 _ g' oR;exact⟨he,LO w9 hc (akh Bo hle)⟩
def aiQ{p:Nat}{v:Rat}{D D':Dy}{E':Int}(h:Up p v D 0)(k:Up p v D' E')(hc:D.lA)(w9:D'.lA):E'=0/\D'=D:=by
 obtain⟨g,hl⟩:=h.1 rfl;obtain⟨he,hle⟩:=k.2 _ g hl;obtain⟨g',oR⟩:=k.1 he;obtain⟨_,Bo⟩:=h.2 _ g' oR;exact⟨he,LO w9 hc (akh hle Bo)⟩
end Go.Proofs.YtkjkcjhacddojaaGreatDoor.Fp
namespace Go.Proofs.YtkjkcjhacddojaaGreatDoor
open Go.RowKit Fp Pu
def R0{n k:Nat}(h1:4294967296^k<=n)(h2:n<4294967296^(k+1)):(gK n).length=k+1:=by
 have a:=qi h2;have b:¬(gK n).length<=k:=λq=>absurd (uy q) aD 
 omega
def Ac(v:Nat):v<4294967296^(gK v).length:=uy (bp _)
def DI{v l:Nat}(h:(gK v).length=l):iI v l=gK v:=h▸Jd v
def yG(v k:Nat):(gK v).getD k 0=iq v k:=by rw[oQ (kO v),jR]
def YD{v:Nat}(h:lF v 0 (gK v).length=0):iI (2*v) (gK v).length=gK (2*v):=by
 have h1:=Ac v;unfold lF at h;rw[bJ h1,bK]at h;have h2:2*v<4294967296^(gK v).length:=by
  rcases dO (2*v) (4294967296^(gK v).length)with q|q
  .exact q
  .have:=fS q (pw _);omega
 have a:=qi h2;have b:=xw (aD:v<=2*v);exact DI aD 
def YE{v:Nat}(h:lF v 0 (gK v).length≠0):iI (2*v) ((gK v).length+1)=gK (2*v)/\iq (2*v) (gK v).length=lF v 0 (gK v).length:=by
 have h1:=Ac v;have e:=(Fi (r:=v) (b:=0) aF (gK v).length)
 have h0:iq v (gK v).length=0:=tX h1 (bp _);refine⟨DI (R0 ?_ ?_),by have:=e.1;rw[bK,h0]at this;simpa using this⟩
 .unfold lF at h;rw[bJ h1,bK]at h;exact fo λq=>h (ca q)
 .rw [bE];omega
def ahw{v:Nat}(h0:v≠0)(he:v%2=0):(gK v).set 0 (iq v 0+1)=gK (v+1):=by
 rw[xx h0,xx (aD:v+1≠0),ajY];unfold iq;rw[bV,dR,show(v+1)%4294967296=v%4294967296+1 by omega,show(v+1)/4294967296=v/4294967296 by omega]
def aeo(a:Nat)(h:a<4294967296)(he:a%2=0):bits .or .u32 (a:Int) 1=((a+1:Nat):Int):=by
 have:=GZ (a/2) 1 aF;rwa[(aD:2*(a/2)%4294967296=a)]at this
def Gw{v N:Nat}(iJ:∀ k,k<N->iq v k=4294967295):∀ k,k<=N->iq 1 k+jt v 1 k=1
 | 0,_=>by rw[Fa];decide
 |k+1,h=>by
  have a:=wQ v 1 k;have b:=Gw iJ k aD;have c:=iJ k aD;have d:=oP (v+1) k;have e:=si v 1 (k+1);have f:iq 1 (k+1)=0:=tX (k:=1) aF aD;omega
def Rr{v N:Nat}(iJ:∀ k,k<N->iq v k=4294967295){k:Nat}(h:k<N):iq (v+1) k=0:=by
 have a:=wQ v 1 k;have b:=Gw iJ k aD;have c:=iJ k h;have d:=oP (v+1) k;have e:=si v 1 (k+1);omega
def ab2{v N:Nat}(iJ:∀ k,k<N->iq v k=4294967295)(hd:iq v N≠4294967295):iq (v+1) N=iq v N+1/\jt v 1 (N+1)=0:=by
 have a:=wQ v 1 N;have b:=Gw iJ N (bp _);have c:=oP v N;have d:=oP (v+1) N;have e:=si v 1 (N+1);omega
def Rq{v N:Nat}(hc:jt v 1 (N+1)=0):∀ j,jt v 1 (N+1+j)=0/\iq (v+1) (N+1+j)=iq v (N+1+j)
 | 0=>by
  have a:=wQ v 1 (N+1);have f:iq 1 (N+1)=0:=tX (k:=1) aF aD;have c:=oP v (N+1);have e:=si v 1 (N+1+1);have d:=oP (v+1) (N+1);rw[bK];omega
 |j+1=>by
  obtain⟨h1,h2⟩:=Rq hc j;have a:=wQ v 1 (N+1+j);have f:iq 1 (N+1+j)=0:=tX (k:=1) aF aD;have h3:jt v 1 (N+1+(j+1))=0:=by
   rw[(aD:N+1+(j+1)=N+1+j+1)];have d:=oP (v+1) (N+1+j);omega
  have a:=wQ v 1 (N+1+(j+1));have f:iq 1 (N+1+(j+1))=0:=tX (k:=1) aF aD;have c:=oP v (N+1+(j+1));have d:=oP (v+1) (N+1+(j+1));have e:=si v 1 (N+1+(j+1)+1);omega
def adQ{v N:Nat}(hN:N<(gK v).length)(iJ:∀ k,k<N->iq v k=4294967295)(hd:iq v N≠4294967295):(ky 0 v N (gK v).length).set N (iq v N+1)=gK (v+1):=by
 obtain⟨h1,h2⟩:=ab2 iJ hd;have ht:=Ac v;have iE:v+1<4294967296^(gK v).length:=by
  rcases dO (v+1) (4294967296^(gK v).length)with q|q
  .exact q
  .exfalso;have e:v+1=4294967296^(gK v).length:= aD ;have h3:iq (v+1) N=0:=by
    rw[e];unfold iq;obtain⟨j,hj⟩:∃ j,(gK v).length=N+(j+1):=⟨(gK v).length-N-1,aD⟩
    rw[hj,bq,Nat.mul_div_cancel_left _ (pw N),bE,fC]
   omega
 have hl:(gK (v+1)).length=(gK v).length:=Nat.le_antisymm (qi iE) (xw (Nat.le_succ v));rw[<-DI hl];unfold ky iI;apply dw aJ;intro i i1 i2;have i3:i<(gK v).length:=by simpa using i2
 rw[akb,dx,dx,dK];by_cases hi:N=i
 .subst hi;rw[bj rfl,h1]
 .rw [bh hi];by_cases sX:i<N
  .rw [bj sX,zw,Rr iJ sX]
  .rw [bh sX];have:=(Rq h2 (i-(N+1))).2;rw[(aD:N+1+(i-(N+1))=i)]at this;exact this.symm
def adO{v:Nat}(iJ:∀ k,k<(gK v).length->iq v k=4294967295):iI (v+1) (gK v).length=iI 0 (gK v).length/\iq (v+1) (gK v).length=1/\iI (v+1) ((gK v).length+1)=gK (v+1):=by
 have e:iI (v+1) (gK v).length=iI 0 (gK v).length:=by
  unfold iI;apply dh;intro k hk;rw[Rr iJ (bD.1 hk),zw]
 have ht:=Ac v;have hv:=vH (v+1) (gK v).length;rw[e,vH,Nat.zero_mod]at hv;have rV:4294967296^(gK v).length<=v+1:=fo λq=>by rw[bJ q]at hv;omega
 refine⟨e,?_,DI (R0 rV (by rw[bE];have:=pw (gK v).length;omega))⟩;have a:=wQ v 1 (gK v).length;have b:=Gw iJ _ (bp _);have c:iq v (gK v).length=0:=tX ht (bp _);have d:=oP (v+1) (gK v).length;have f:=si v 1 ((gK v).length+1);omega
def Wf{v l:Nat}(hl:(gK v).length=l+1):iq v l≠0/\gU v=32*l+gU (iq v l):=by
 have h1:=Ac v;rw[hl]at h1;have h2:4294967296^l<=v:=fo λq=>by have:=qi q;omega
 have h3:iq v l≠0:=by
  unfold iq;have a:=fS h2 (pw l);have b:v/4294967296^l<4294967296:=by rw[bZ (pw l),bB,<-bE];exact h1
  rw[bJ b];omega
 exact⟨h3,NA h1 h3⟩
def XR{v l:Nat}(_:(gK v).length=l+1):gU (iq v l)<=32:=kB.2 (oP v l)
def XH{t x:Nat}(h:x<32-gU t):t/2^(31-x)%2=0:=by
 have h1:=px t;have h2:=bG (show 0<2 by decide) (aD:gU t<=31-x);rw[ca aD]
def XJ{t x:Nat}(h0:t≠0)(h:x=32-gU t)(hb:gU t<=32):t/2^(31-x)%2=1:=by
 have h1:=px t;have h2:=qK h0;have h3:=mZ h0;have e:31-x=gU t-1:= aD ;rw[e];have h4:2^gU t=2*2^(gU t-1):=by
  obtain⟨k,hk⟩:∃ k,gU t=k+1:=⟨gU t-1,aD⟩
  rw[hk,dB,bE,bB]
 have h5:t/2^(gU t-1)<2:=by rw[bZ (bu aF)];omega
 have h6:=fS h2 (bu (n:=gU t-1) (show 0<2 by decide));omega
def Ny{v i:Nat}:iq v (i/32)/2^(i%32)%2=v/2^i%2:=by
 by_cases h:i/32<(gK v).length
 .have:=IT (kO v) i h;rw[jR]at this;rw[this,<-yG,bn,bt h];rfl
 .have h1:=Ac v;have h2:=bG (show 0<4294967296 by decide) (fo h);have h3:v<4294967296^(i/32):= aD ;rw[tX h3 (bp _),fm];have h4:4294967296^(i/32)<=2^i:=by rw[nB];exact bG aF aD 
  rw[ca aD]
def XI{v i:Nat}(h:32*(gK v).length<=i):v/2^i%2=0:=by
 have h1:=Ac v;rw[nB]at h1;have h2:=bG (show 0<2 by decide) h;rw[ca aD]
def GC(w k:Nat):w%2^(k+1)=w%2^k+w/2^k%2*2^k:=by
 rw[bE,fP,bB (2^k)]
def LF{w k:Nat}(hk:k<32)(hw:w<4294967296):bits .or .u32 ((w%2^k:Nat):Int) ((w/2^k%2*2^k:Nat):Int)=((w%2^(k+1):Nat):Int):=by
 have a:=bA w (bu (n:=k) (show 0<2 by decide));have b:=bA (w/2^k) (show 0<2 by decide);have c:=GC w k;have d:=fR w (2^(k+1));have e:=fR w (2^k);rw[Ez _ _ aD aD,yL _ _ _ a,c]
def Mp{b k:Nat}(hk:k<32)(hb:b<=1):IntKind.u32.wrap ((b:Int)*2^k)=((b*2^k:Nat):Int):=by
 have h1:b*2^k<=1*2^31:=di hb (bG aF aD);rw[IntKind.wrap_u32];have e:((b:Int)*2^k)=((b*2^k:Nat):Int):=by
  rw[dQ,Int.natCast_pow];rfl
 rw[e];omega
def Oo{w y k:Nat}(hk:k<32):iq w y/2^k%2=w/2^(32*y+k)%2:=by
 have:=Ny (v:=w) (i:=32*y+k);rwa[show(32*y+k)/32=y by omega,show(32*y+k)%32=k by omega]at this
def DH{w y:Nat}:y<(gK w).length↔32*y<gU w:=by
 constructor
 .intro h;obtain⟨l,hl⟩:∃ l,(gK w).length=l+1:=⟨(gK w).length-1,aD⟩
  obtain⟨a,b⟩:=Wf hl;have:=mZ a;omega
 .intro h;apply gF;intro q;have h1:=uy q;rw[nB]at h1;have:=kB.2 h1;omega
def NB{v s:Nat}(h:s<=gU v):gU (v/2^s)=gU v-s:=by
 by_cases h0:v/2^s=0
 .rw [h0,ri];have h1:v<2^s:=by
   rcases dO v (2^s)with q|q
   .exact q
   .have:=fS q (bu aF);omega
  have:=kB.2 h1;omega
 .have h2:v≠0:=λq=>h0 (by rw[q,fm])
  have a:=px v;have b:=qK h2;have hs:s<gU v:=by
   rcases dO s (gU v)with q|q
   .exact q
   .exfalso;apply h0;apply ca;exact bN a (bG aF q)
  obtain⟨k,hk⟩:∃ k,gU v=s+(k+1):=⟨gU v-s-1,aD⟩
  rw[hk]at a b;rw[hk,Nat.add_sub_cancel_left];refine tR ?_ ?_
  .rw [de (bu aF),<-bq];rw[(aD:s+(k+1)-1=k+s)]at b;exact b
  .rw [bZ (bu aF),<-bq,ej (k+1)];exact a
def Yz{v:Nat}(h:v≠0):jY v<gU v:=by
 have:=G1 h;exact wh.2 this
def Nz(v l N:Nat)(x:Nat):PS:=⟨29,true,[(4,.e (iP ((31-x:Nat):Int))),(3,.e (iP l)),(0,.e (gO (gK v)))],[]⟩
def Hw(v:Nat)(x:Nat):PS:=⟨38,false,[(5,.own 5),(7,.e (iP x)),(6,.e (.v (.int .u32 (lF v 0 x:Int)))),(0,.e (gO (gK v)))],[(5,.row false 150 x 1 (iW (iI (2*v) x)))]⟩
def XL(v l N:Nat)(hl:(gK v).length=l+1)(hs:l<=1000000)(h0:((gK v).getD l 0)≠0)(hN:N=32-gU ((gK v).getD l 0))(J6:gU ((gK v).getD l 0)<=32)(kJ:1<=gU ((gK v).getD l 0))(hv:gU v=32*l+gU ((gK v).getD l 0)):gJ 348 [gO (gK v)] (iP (gU v)):=
 aj call348 func348 (aa [gW (((gK v).length:Int)-1) aD,.o 7 (an (((gK v).length:Int)-1) l aD),.u 70,tT 9 (0<=(l:Int)) aD,.s (Sp.iG (Nz v l N) 0 N aD (λx hx jf=>by
    have hX:=(kO v).getD l;have hd:=cz ((gK v).getD l 0) (2^(31-x));have hb:=XH (t:=((gK v).getD l 0)) (x:=x) aD;exact gX (aa [tT 13 (0<=((31-x:Nat):Int)) aD,iX (l:Int) ((gK v).length) aD,.a (aD:0<=(((31-x:Nat):Int):Int)/\(((31-x:Nat):Int):Int)<=((32:Nat):Int)),.o 21 (.int (xK _ _):ai (.v (.int .u32 ((((gK v).getD l 0:Nat):Int)/2^(31-x)))) (.v (.int .u32 ((((gK v).getD l 0)/2^(31-x):Nat):Int)))),.o 22 (.int (Ii _ aD):ai (.v (.int .u32 (bits .and .u32 ((((gK v).getD l 0)/2^(31-x):Nat):Int) 1))) (.v (.int .u32 (((((gK v).getD l 0)/2^(31-x))%2:Nat):Int)))),ah 23 ((((((gK v).getD l 0)/2^(31-x))%2:Nat):Int)==1) (a7 aD),gW (((31-x:Nat):Int)-1) aD]<|.e (ae [.o 4 (an (((31-x:Nat):Int)-1) ((31-(x+1):Nat):Int) aD)])) aG)
  (λhx=>by
    have hX:=(kO v).getD l;have hd:=cz ((gK v).getD l 0) (2^(31-N));have hb:=XJ (t:=((gK v).getD l 0)) (x:=N) h0 hN J6;exact gX (ae [tT 13 (0<=((31-N:Nat):Int)) aD,iX (l:Int) ((gK v).length) aD,.a (aD:0<=(((31-N:Nat):Int):Int)/\(((31-N:Nat):Int):Int)<=((32:Nat):Int)),.o 21 (.int (xK _ _):ai (.v (.int .u32 ((((gK v).getD l 0:Nat):Int)/2^(31-N)))) (.v (.int .u32 ((((gK v).getD l 0)/2^(31-N):Nat):Int)))),.o 22 (.int (Ii _ aD):ai (.v (.int .u32 (bits .and .u32 ((((gK v).getD l 0)/2^(31-N):Nat):Int) 1))) (.v (.int .u32 (((((gK v).getD l 0)/2^(31-N))%2:Nat):Int)))),ag 23 ((((((gK v).getD l 0)/2^(31-N))%2:Nat):Int)==1) (a8 aD),gW (32*(l:Int)) aD,gW (((32*l:Nat):Int)+((31-N:Nat):Int)) aD,
    gW ((((32*l)+(31-N):Nat):Int)+1) aD]) aG) aK:iF 5 f348 (Nz v l N 0) .ret ⟨29,true,[(2,.e (iP ((((32*l)+(31-N))+1:Nat):Int)))],[]⟩) (ae [.o 4 (an 31 ((31-0:Nat):Int) aD)])]<|rQ (iP ((((32*l)+(31-N))+1:Nat):Int)) (iP (gU v)) (congrArg iP aD)) 
def XM : gJ 348 [gO (gK 0)] (iP 0):=by
 have z:(gK 0).length=0:=by rw[nt];rfl
 exact aj call348 func348 (ae [gW (((gK 0).length:Int)-1) aD,.u 70,tF 9 (0<=(((gK 0).length:Int)-1)) (by rw[nt];decide)]) 
def EY(v:Nat)(h:(gK v).length<=1000000):gJ 348 [gO (gK v)] (iP (gU v)):=by
 rcases hl:(gK v).length with _|l
 .obtain rfl:=pY.1 hl;exact XM
 .obtain ⟨a,b⟩:=Wf hl;have c:=XR hl;have d:=mZ a;rw[<-yG]at a b c d;exact XL v l _ hl aD a rfl c d b
def EX(v i:Nat)(h:(gK v).length<=1000000)(hi:i<=1000000000):gJ 349 [gO (gK v),iP i] (iP ((v/2^i%2:Nat):Int)):=by
 have hX:=(kO v).getD (i/32);have hd:=cz ((gK v).getD (i/32) 0) (2^(i%32));exact aj call349 func349 (aa [tF 6 ((i:Int)<0) aD,gW (32*((gK v).length:Int)) aD]<|.w (((32*(gK v).length:Nat):Int)<=i)
  (λk1=>aa [tB 12 (bk k1)]<|rQ (iP 0) (iP ((v/2^i%2:Nat):Int)) (congrArg (λx:Nat=>iP (x:Int)) (XI aD).symm))
  (λk1=>aa [tB 12 (bl k1),.a (aD:0<(32:Int)),gW (i:Int) aD,iX ((i/32:Nat):Int) ((gK v).length) aD,.a (aD:0<(32:Int)),.a (aD:0<=(((i%32:Nat):Int):Int)/\(((i%32:Nat):Int):Int)<=((32:Nat):Int)),.o 21 (.int (xK _ _):ai (.v (.int .u32 ((((gK v).getD (i/32) 0:Nat):Int)/2^(i%32)))) (.v (.int .u32 ((((gK v).getD (i/32) 0)/2^(i%32):Nat):Int)))),.o 22 (.int (Ii _ aD):ai (.v (.int .u32 (bits .and .u32 ((((gK v).getD (i/32) 0)/2^(i%32):Nat):Int) 1))) (.v (.int .u32 (((((gK v).getD (i/32) 0)/2^(i%32))%2:Nat):Int)))),.o 23 (an (IntKind.i64.wrap (((((gK v).getD (i/32) 0)/2^(i%32))%2:Nat):Int)) (((((gK v).getD (i/32) 0)/2^(i%32))%2:Nat):Int) (abZ _ aD))]<|rQ (iP (((((gK v).getD (i/32) 0)/2^(i%32))%2:Nat):Int)) (iP ((v/2^i%2:Nat):Int)) (by rw[yG,Ny]))) 
def ahx(v:Nat)(h:(gK v).length<=1000000)(n5:(lF v 0 (gK v).length)=0):gJ 346 [gO (gK v),.v (.int .u64 0)] (gO (gK (2*v))):=
 ak call346 func346 (aa [.o 9 (.int aF:ai (.v (.int .u32 (IntKind.u32.wrap 0))) (.v (.int .u32 0))),.y 5 5 false 150 1 (iW (iI (2*v) 0)),.s (Sp.iG (Hw v) 0 ((gK v).length) aD (λx hx jf=>by
    have he:=Fi (r:=v) (b:=0) aF x;rw[bK,<-yG v x]at he;have hc:=Fh (r:=v) (b:=0) aF x;have hX:=(kO v).getD x;have hz:(((2*((gK v).getD x 0)%4294967296)+(lF v 0 x):Nat):Int)=(iq (2*v) x:Int):=by rw[he.1]
    have hq:((gK v).getD x 0)/2^31=lF v 0 (x+1):=by rw[he.2]
    exact gX (aa [tT 13 ((x:Int)<((gK v).length:Int)) aD,iX (x:Int) ((gK v).length) aD,.a (aD:0<=(1:Int)/\(1:Int)<=((32:Nat):Int)),.o 21 (.int (Mo _):ai (.v (.int .u32 (IntKind.u32.wrap ((((gK v).getD x 0:Nat):Int)*2^1)))) (.v (.int .u32 ((2*((gK v).getD x 0)%4294967296:Nat):Int)))),.o 23 (.int (GZ _ _ hc):ai (.v (.int .u32 (bits .or .u32 ((2*((gK v).getD x 0)%4294967296:Nat):Int) (lF v 0 x:Int)))) (.v (.int .u32 (((2*((gK v).getD x 0)%4294967296)+(lF v 0 x):Nat):Int)))),.a (aD:(x+1)*4<=140737488355328),iX (x:Int) ((gK v).length) aD,.a (aD:0<=(31:Int)/\(31:Int)<=((32:Nat):Int)),.o 30 (.int (xK _ _):ai (.v (.int .u32 ((((gK v).getD x 0:Nat):Int)/2^31))) (.v (.int .u32 ((((gK v).getD x 0)/2^31:Nat):Int)))),gW ((x:Int)+1) aD]<|.e (ae [.o 6 (.int (by rw[hq]):ai (.v (.int .u32 ((((gK v).getD x 0)/2^31:Nat):Int))) (.v (.int .u32 (lF v 0 (x+1):Int)))),.b 5 (yF rfl hz:Bx.le (.row false 150 (x+1) 1 (λi_ j_=>if i_<x then(iW (iI (2*v) x)) i_ j_ else(E.ke (.sl false 1 1 λi_ j_=>[.v (.int .u32 (((2*((gK v).getD x 0)%4294967296)+(lF v 0 x):Nat):Int))].getD (i_*1+j_) (.v (.bool false)))) (i_-x) j_)) (.row false 150 (x+1) 1 (iW (iI (2*v) (x+1)))))])) aG)
  (λhx=>by
    exact gX (ae [tF 13 (((gK v).length:Int)<((gK v).length:Int)) aD]) aG) aK:iF 4 f346 (Hw v 0) (.exit 0) ⟨38,false,[(5,.own 5),(6,.e (.v (.int .u32 ((lF v 0 (gK v).length:Nat):Int))))],[(5,.row false 150 ((gK v).length) 1 (iW (iI (2*v) ((gK v).length))))]⟩) (ae [.o 6 (.int (by rw[Jc];rfl):ai (.v (.int .u32 0)) (.v (.int .u32 (lF v 0 0:Int))))]),ah 32 (((lF v 0 (gK v).length:Nat):Int) != 0) (yJ n5)]<|rQ (.sl false ((gK v).length) 1 (iW (iI (2*v) ((gK v).length)))) (gO (gK (2*v))) (by rw[y3 (mu _ _).symm,YD n5])) 
def acL{N l c:Nat}{L:List Nat}(h1:iI N (l+1)=L)(h2:iq N l=c):E.le (.sl false (l+1) 1 λi_ j_=>if i_<l then iW (iI N l) i_ j_ else(E.ke (.sl false 1 1 λi_ j_=>[.v (.int .u32 (c:Int))].getD (i_*1+j_) (.v (.bool false)))) (i_-l) j_) (gO L):=by
 subst h1 h2;rw[<-y3 (mu N (l+1)).symm];refine .sl λi j hi hj=>?_
 obtain rfl:j=0:= aD ;by_cases h:i<l
 .simp only[h,bI];exact⟨.iD (by unfold iW;rw[sk h,sk aD]),rfl⟩
 .obtain rfl:i=l:= aD ;simp only[eu,bF,cV];exact⟨.iD (by unfold iW;rw[sk aD];rfl),rfl⟩
def ahy(v:Nat)(h:(gK v).length<=1000000)(n5:(lF v 0 (gK v).length)≠0):gJ 346 [gO (gK v),.v (.int .u64 0)] (gO (gK (2*v))):=by
 obtain⟨h1,h2⟩:=YE n5;exact ak call346 func346 (aa [.o 9 (.int aF:ai (.v (.int .u32 (IntKind.u32.wrap 0))) (.v (.int .u32 0))),.y 5 5 false 150 1 (iW (iI (2*v) 0)),.s (Sp.iG (Hw v) 0 ((gK v).length) aD (λx hx jf=>by
    have he:=Fi (r:=v) (b:=0) aF x;rw[bK,<-yG v x]at he;have hc:=Fh (r:=v) (b:=0) aF x;have hX:=(kO v).getD x;have hz:(((2*((gK v).getD x 0)%4294967296)+(lF v 0 x):Nat):Int)=(iq (2*v) x:Int):=by rw[he.1]
    have hq:((gK v).getD x 0)/2^31=lF v 0 (x+1):=by rw[he.2]
    exact gX (aa [tT 13 ((x:Int)<((gK v).length:Int)) aD,iX (x:Int) ((gK v).length) aD,.a (aD:0<=(1:Int)/\(1:Int)<=((32:Nat):Int)),.o 21 (.int (Mo _):ai (.v (.int .u32 (IntKind.u32.wrap ((((gK v).getD x 0:Nat):Int)*2^1)))) (.v (.int .u32 ((2*((gK v).getD x 0)%4294967296:Nat):Int)))),.o 23 (.int (GZ _ _ hc):ai (.v (.int .u32 (bits .or .u32 ((2*((gK v).getD x 0)%4294967296:Nat):Int) (lF v 0 x:Int)))) (.v (.int .u32 (((2*((gK v).getD x 0)%4294967296)+(lF v 0 x):Nat):Int)))),.a (aD:(x+1)*4<=140737488355328),iX (x:Int) ((gK v).length) aD,.a (aD:0<=(31:Int)/\(31:Int)<=((32:Nat):Int)),.o 30 (.int (xK _ _):ai (.v (.int .u32 ((((gK v).getD x 0:Nat):Int)/2^31))) (.v (.int .u32 ((((gK v).getD x 0)/2^31:Nat):Int)))),gW ((x:Int)+1) aD]<|.e (ae [.o 6 (.int (by rw[hq]):ai (.v (.int .u32 ((((gK v).getD x 0)/2^31:Nat):Int))) (.v (.int .u32 (lF v 0 (x+1):Int)))),.b 5 (yF rfl hz:Bx.le (.row false 150 (x+1) 1 (λi_ j_=>if i_<x then(iW (iI (2*v) x)) i_ j_ else(E.ke (.sl false 1 1 λi_ j_=>[.v (.int .u32 (((2*((gK v).getD x 0)%4294967296)+(lF v 0 x):Nat):Int))].getD (i_*1+j_) (.v (.bool false)))) (i_-x) j_)) (.row false 150 (x+1) 1 (iW (iI (2*v) (x+1)))))])) aG)
  (λhx=>by
    exact gX (ae [tF 13 (((gK v).length:Int)<((gK v).length:Int)) aD]) aG) aK:iF 4 f346 (Hw v 0) (.exit 0) ⟨38,false,[(5,.own 5),(6,.e (.v (.int .u32 ((lF v 0 (gK v).length:Nat):Int))))],[(5,.row false 150 ((gK v).length) 1 (iW (iI (2*v) ((gK v).length))))]⟩) (ae [.o 6 (.int (by rw[Jc];rfl):ai (.v (.int .u32 0)) (.v (.int .u32 (lF v 0 0:Int))))]),ag 32 (((lF v 0 (gK v).length:Nat):Int) != 0) (BO n5),.a (aD:((gK v).length+1)*4<=140737488355328)]<|rR (gO (gK (2*v))) (acL h1 h2:E.le (.sl false ((gK v).length+1) 1 (λi_ j_=>if i_<(gK v).length then(iW (iI (2*v) ((gK v).length))) i_ j_ else(E.ke (.sl false 1 1 λi_ j_=>[.v (.int .u32 ((lF v 0 (gK v).length:Nat):Int))].getD (i_*1+j_) (.v (.bool false)))) (i_-(gK v).length) j_)) (gO (gK (2*v))))) 
def VE(v:Nat)(h:(gK v).length<=1000000):gJ 346 [gO (gK v),.v (.int .u64 0)] (gO (gK (2*v))):=by
 by_cases hc:(lF v 0 (gK v).length)=0
 .exact ahx v h hc
 .exact ahy v h hc
def acO{L M:List Nat}{n z:Nat}(hn:n=0+L.length)(hs:L.set 0 z=M):E.le (.sl false n 1 λi' j'=>if i'=0/\0<=j'/\j'<0+1 then[.v (.int .u32 (z:Int))].getD (j'-0) .any else(λi_ j_=>if i_<0 then(λi_ j_=>([]:List E).getD (i_*1+j_) (.v (.bool false))) i_ j_ else(E.ke (gO L)) (i_-0) j_) i' j') (gO M):=by
 subst hs;have e:n=(L.set 0 z).length:=by rw[cI];omega
 rw[<-y3 e];refine .sl λi j hi hj=>?_
 obtain rfl:j=0:= aD ;have lL:i<L.length:= aD ;by_cases h:i=0
 .subst h;simp only[true_and,bp,aj7,bI,bU];exact⟨.iD (by show _=E.v (.int .u32 (((L.set 0 z).getD 0 0:Nat):Int));rw[bn (l:=L.set 0 z),List.getElem?_set_self lL];rfl),rfl⟩
 .simp only[h,false_and,bF,bC,du];exact⟨.iD (by show E.v (.int .u32 (L.getD i 0:Int))=_;unfold iW;rw[bn,bn,gA (λq=>h q.symm)]),rfl⟩
def ahu : gJ 347 [gO (gK 0)] (gO (gK (0+1))):=
 aj call347 func347 (ae [ag 6 (((gK 0).length:Int)==0) (by rw[nt];rfl),.o 7 (.e uC:ai (.sl false 1 1 λi_ j_=>[.v (.int .u32 1)].getD (i_*1+j_) (.v (.bool false))) (gO (gK 1)))]) 
def aht(v:Nat)(hl:1<=(gK v).length)(hs:(gK v).length<=1000000)(he:v%2=0):gJ 347 [gO (gK v)] (gO (gK (v+1))):=by
 have hX:=(kO v).getD 0;have pq:((gK v).getD 0 0)%2=0:=by rw[yG];unfold iq;rw[bV,dR];omega
 have h0:v≠0:=λq=>by subst q;rw[nt]at hl;exact absurd hl aF 
 exact ak call347 func347 (aa [ah 6 (((gK v).length:Int)==0) (a7 aD),.bo,.a (aD:(0+(gK v).length)*4<=140737488355328),iX 0 (0+(gK v).length) aD,.a (aD:0<(0+(gK v).length)),.o 15 (.int (aeo _ hX pq):ai (.v (.int .u32 (bits .or .u32 (((gK v).getD 0 0:Nat):Int) 1))) (.v (.int .u32 ((((gK v).getD 0 0)+1:Nat):Int)))),
  iX 0 (0+(gK v).length) aD,.a (aD:0<(0+(gK v).length))]<|rR (gO (gK (v+1))) (acO aD (by rw[yG];exact ahw h0 he):E.le (.sl false (0+(gK v).length) 1 (λi' j'=>if i'=0/\0<=j'/\j'<0+1 then[.v (.int .u32 ((((gK v).getD 0 0)+1:Nat):Int))].getD (j'-0) .any else(λi_ j_=>if i_<0 then(λi_ j_=>([]:List E).getD (i_*1+j_) (.v (.bool false))) i_ j_ else(E.ke (gO (gK v))) (i_-0) j_) i' j')) (gO (gK (v+1))))) 
def VD(v:Nat)(hs:(gK v).length<=1000000)(he:v%2=0):gJ 347 [gO (gK v)] (gO (gK (v+1))):=by
 by_cases h:(gK v).length=0
 .obtain rfl:=pY.1 h;exact ahu
 .exact aht v aD hs he
def XK(v:Nat)(A:Option Addr)(c:Nat)(w:World)(hs:Sl w A c (gK v))(hT:Tb w)(h:(gK v).length<=1000000):
 Calls prog 348 #[.slice A (gK v).length c] w (λe w'=>e = .returned (.int .i64 (gU v:Int))/\iu w w'):=by
 refine((EY v h).run w (λ_=>False) [_] hT (λ_ h=>h.elim) (.cons (wJ (λ_ h=>h.elim) (iu.refl w) hs) (.nil _ _ _))).mono ?_;rintro e w' ⟨x,rfl,hb,hr⟩;obtain rfl:=iz.kE hr;exact⟨rfl,hb⟩
def XF(v i:Nat)(A:Option Addr)(c:Nat)(w:World)(hs:Sl w A c (gK v))(hT:Tb w)(h:(gK v).length<=1000000)(hi:i<=1000000000):
 Calls prog 349 #[.slice A (gK v).length c,.int .i64 (i:Int)] w (λe w'=>e = .returned (.int .i64 ((v/2^i%2:Nat):Int))/\iu w w'):=by
 refine((EX v i h hi).run w (λ_=>False) [_,_] hT (λ_ h=>h.elim) (.cons (wJ (λ_ h=>h.elim) (iu.refl w) hs) (.cons (.v _) (.nil _ _ _)))).mono ?_;rintro e w' ⟨x,rfl,hb,hr⟩;obtain rfl:=iz.kE hr;exact⟨rfl,hb⟩
def Ow.wU{w:World}{base:Nat}{v:Value}{L:List Nat}(h:Ow w base v L){g:Nat}(hg:g<base)(i:Nat)(u:Value):Ow (w.setCell ⟨g,i,none⟩ u) base v L:=
 ⟨ownsRow_setCell_below h.row hg u,h.ok⟩
def Ow.ext{w w':World}{base:Nat}{v:Value}{L:List Nat}(h:Ow w base v L)(hb:iu w w'):Ow w' base v L:=by
 refine⟨⟨h.row.1,?_⟩,h.ok⟩;rcases h.row.2 with q|⟨g,cap,cur,e1,e2,e3,r⟩
 .exact .inl q
 .exact .inr ⟨g,cap,cur,e1,e2,by rw[hb.block g (cX.1 e3).1];exact e3,r⟩
def Ow.mono{w:World}{base base':Nat}{v:Value}{L:List Nat}(h:Ow w base v L)(hb:base'<=base):Ow w base' v L:=by
 refine⟨⟨h.row.1,?_⟩,h.ok⟩;rcases h.row.2 with q|⟨g,cap,cur,e1,e2,r⟩
 .exact .inl q
 .exact .inr ⟨g,cap,cur,e1,bM hb e2,r⟩
def ju.ahs{w:World}{g n c:Nat}{s:Bool}{A:Option Addr}{e:Int}(h:ju w g s A n c e)(A':Option Addr)(n' c':Nat):ju (w.setCell ⟨g,1,none⟩ (.slice A' n' c')) g s A' n' c' e:=heap_setCell_same w g 1 _ _ (.slice A' n' c') h
def ju.grown{w w':World}{g n c base:Nat}{s:Bool}{A:Option Addr}{e:Int}{v:Value}{L:List Nat}(h:ju w g s A n c e)(ho:Ow w base v L)(hg:w.grownBy w' v.ownBlock)(hb:g<base):ju w' g s A n c e:=
 (hg.block g h.lt (λq=>by have:=(ho.row.lt g q.symm).1;omega)).trans h
def ac3(v:Nat)(e:Int)(A:Option Addr)(c:Nat)(w:World)(h0:v≠0)(hs:Sl w A c (gK v))(hT:Tb w)(hl:(gK v).length<=1000)(lh:-100000<=e)(kF:e<=100000):
 Calls prog 350 #[.bool false,.slice A (gK v).length c,.int .i64 e] w (sO w (canon false v e)):=by
 have n5:=akw (show canon false v e=⟨false,v/2^jY v,e+jY v⟩by unfold canon;rw[bh h0]);have hZ:=Yz h0;have hB:gU v<=32*1000:=by
  have:=uy (bp (gK v).length);rw[nB]at this;have:=kB.2 this;omega
 have rW:(((gU v:Int)==0))=false:=a7 aD;have yh:=akw (λA c w (hs:Sl w A c (gK v)) hT=>XK v A c w hs hT aD);have ss:=akw (λi A c w (hs:Sl w A c (gK v)) hT hi=>XF v i A c w hs hT aD hi);obtain⟨m,hm⟩:∃ m,m=(gK v).length:=⟨_,rfl⟩
 rw[<-hm]at yh ss ⊢;have HM:=akw hm;clear hm;obtain⟨n,hn⟩:∃ n,n=gU v:=⟨_,rfl⟩
 rw[<-hn]at yh hZ hB rW;have HN:=akw hn;clear hn;obtain⟨Z,JZ⟩:∃ Z,Z=jY v:=⟨_,rfl⟩
 rw[<-JZ]at hZ n5;have HZ:=akw JZ;clear JZ;go_enter func350,ntmps350;go_wp2_with fail;refine(yh.out A c _ (hs.alloc _) (hT.alloc _)).mono ?_;rintro e' w1 ⟨rfl,kJ⟩;go_wp2;have xq:∀ k,k<Z->v/2^k%2=0:=λk hk=>by rw[HZ.out]at hk;exact Nx h0 hk
 have sB:v/2^Z%2=1:=by rw[HZ.out];exact Nw h0
 have HZ1:=akw xq;clear xq;have HZ2:=akw sB;clear sB;have rY:=hs.below ((iu.alloc w _).trans kJ);have hT1:=hT.below ((iu.alloc w _).trans kJ);have BF:=(iu.alloc w _).trans kJ;go_loopw [8] (λi wr=>∃ k:Nat,k<=Z/\i = .int .i64 (k:Int)/\iu w1 wr) (λi _=>Z-(intOf i).toNat)
 case atStart=>exact⟨0,b6 _,rfl,iu.refl _⟩
 case round=>
  obtain⟨k,hk,rfl,mB⟩:=hrel;have kr:=rY.below mB;have uW:=hT1.below mB;have vn:=BF.trans mB;go_wp2_with fail;refine(ss.out k A c _ kr uW aD).mono ?_;rintro e'' w3 ⟨rfl,oY⟩;by_cases hkZ:k<Z
  .rw [HZ1.out k hkZ];have xp:IntKind.i64.wrap ((k:Int)+1)=((k+1:Nat):Int):=by rw[IntKind.wrap_i64];omega
   go_wp2;go_roundw
   case rel=>exact⟨k+1,aD,by go_num,mB.trans oY⟩
   case measure=>simp[intOf];omega
  .obtain rfl:k=Z:= aD ;rw[HZ2.out];have hx3:=vn.trans oY;have BA:=kr.below oY;have hT3:=uW.below oY;have Gq:IntKind.i64.wrap (e+(k:Int))=e+(k:Int):=by rw[IntKind.wrap_i64];omega
   go_wp2;have E5:=ju.new w3 false none 0 0 (e+(k:Int));have Re:=kJ.trans (mB.trans oY);have hg:=Re.size;have Rd:=Re.trans (iu.alloc w3 (.cells #[.bool false,.slice none 0 0,.int .i64 (e+(k:Int))] 39));obtain⟨g9,QD⟩:∃ g,g=w3.heap.size:=⟨_,rfl⟩
   rw[<-QD]at E5 hg ⊢;generalize w3.alloc (.cells #[.bool false,.slice none 0 0,.int .i64 (e+(k:Int))] 39)=w5 at *
   clear QD;have tf:=hs.alloc (.cells #[.bool false,.slice none 0 0,.int .i64 0] 39);have hTW:=hT.alloc (.cells #[.bool false,.slice none 0 0,.int .i64 0] 39);have XZ:=ju.new w false none 0 0 0;generalize hW:w.alloc (.cells #[.bool false,.slice none 0 0,.int .i64 0] 39)=W at *
   have hwW:iu w W:=hW▸iu.alloc w _;have FX:g9<w5.heap.size:=E5.lt;obtain⟨V,hV⟩:∃ V,V=v/2^k:=⟨_,rfl⟩
   have HV:=akw hV;rw[<-hV]at n5;have hVb:gU V+k=n:=by rw[hV,NB (by rw[<-HN.out];omega),<-HN.out];omega
   have Ql:∀ i,i<1000000->v/2^(k+i)%2=V/2^i%2:=λi _=>by rw[hV,cJ,<-bq]
   have HBV:=akw Ql;clear Ql hV;have Qg:∀ y,y<(gK V).length↔32*y<gU V:=λy=>DH
   have HYB:=akw Qg;clear Qg;obtain⟨Y,hY⟩:∃ Y,Y=(gK V).length:=⟨_,rfl⟩
   rw[<-hY]at HYB;have HY:=akw hY;clear hY;obtain⟨E9,PW⟩:∃ E9,E9=e+(k:Int):=⟨_,rfl⟩
   rw[<-PW]at n5 E5;clear PW;go_loopw [10] (λi wr=>∃ (y:Nat) (O:List Nat) (OA:Option Addr) (Oc:Nat),y<=Y/\i = .int .i64 ((k+32*y:Nat):Int)/\O=(gK V).take y/\Ow wr w5.heap.size (.slice OA O.length Oc) O/\ju wr g9 false OA O.length Oc E9/\iu W wr/\w5.heap.size<=wr.heap.size) (λi _=>k+32*Y-(intOf i).toNat)
   case atStart=>exact⟨0,[],none,0,b6 _,by go_num,aJ,Ow.nil _ _,E5,Rd,bp _⟩
   case round=>
    obtain⟨y,O,OA,Oc,hy,rfl,hO,kW,iN,Dq,lf⟩:=hrel;have hsr:=tf.below Dq;have FV:=hTW.below Dq;obtain⟨I,hI⟩:∃ I,I=k+32*y:=⟨_,rfl⟩
    rw[<-hI];by_cases iE:y<Y
    .have h1:=(HYB.out y).1 iE;have ht:decide ((I:Int)<n)=true:=bk aD;have yo:I<n:= aD ;have ht3:decide (I<n)=true:=bk yo;have hIb:I<=40000:= aD ;have hD:iq V y<4294967296:=oP V y;have Qk:∀ j,j<32->v/2^(I+j)%2=iq V y/2^j%2:=λj hj=>by
      rw[hI,cP,HBV.out _ aD,Oo hj]
     have HBD:=akw Qk;clear Qk;have HI:=akw hI;clear hI;go_wp2;go_loopw [11,12] (λx q wj=>∃ j:Nat,j<=32/\x = .int .u32 ((iq V y%2^j:Nat):Int)/\q = .int .i64 (j:Int)/\iu wr wj) (λ_ q _=>32-(intOf q).toNat)
     case atStart=>exact⟨0,b6 _,by simp[cT],rfl,iu.refl _⟩
     case round=>
      obtain⟨j,hj,rfl,rfl,zD⟩:=hrel;by_cases ui:j<32
      .have BC:decide ((j:Int)<32)=true:=bk aD ;have xp:IntKind.i64.wrap ((I:Int)+j)=((I+j:Nat):Int):=by rw[IntKind.wrap_i64];omega
       go_wp2_with fail;refine(ss.out (I+j) A c _ (hsr.below zD) (FV.below zD) aD).mono ?_;rintro e3 w6 ⟨rfl,hb6⟩;rw[HBD.out j ui];have abu:iq V y/2^j%2<=1:= aD ;have ho:=LF ui hD;generalize iq V y/2^j%2=b at *
       have Gf:bits .or .u32 ((iq V y:Int)%2^j) ((b:Int)*2^j)=((iq V y%2^(j+1):Nat):Int):=by rw[<-ho];congr 1<;>simp
       have HO:=akw Gf;clear ho Gf;have Bk:IntKind.u32.wrap (b:Int)=b:=by rw[IntKind.wrap_u32];omega
       have zR:=Mp ui abu;have hw4:IntKind.i64.wrap ((j:Int)+1)=((j+1:Nat):Int):=by rw[IntKind.wrap_i64];omega
       go_wp2;go_roundw
       case rel=>exact⟨j+1,aD,congrArg (Value.int .u32) HO.out,by go_num,zD.trans hb6⟩
       case measure=>simp[intOf];omega
      .obtain rfl:j=32:= aD ;have Qr:iq V y%2^32=iq V y:=bJ (by simpa using hD);rw[Qr];have J8:=iN.ext zD;have Kx:=kW.ext zD;have b1:=J8.c1;have f1:=J8.fr 1;have P0:O++[iq V y]=(gK V).take (y+1):=by
        have yl:y<(gK V).length:=by rw[<-HY.out];exact iE
        have:=yG V y;rw[bn,bt yl]at this;rw[aj5,bt yl,hO,<-this];rfl
       have HON:=akw P0;clear P0;clear hO HBD Qr;generalize iq V y=z at *
       have hO4:O.length<=3000:=by
        have:=HON.out▸(show(O++[z]).length=O.length+1 by simp);rw[cj]at this;omega
       have Q2:O.length+[z].length<=10000000000:= aR ;have abJ:w5.heap.size<=wr.heap.size:=bM lf zD.size;have Gt:=Dq.trans zD;have hw5:IntKind.i64.wrap ((I:Int)+32)=((I+32:Nat):Int):=by rw[IntKind.wrap_i64];omega
       have abo:W.heap.size<=w5.heap.size:=Rd.size;go_wp2_with (at_builtin;go_must (refine qb aI _ _ aI w5.heap.size _ O aI (Kx.alloc _) _ _ _ [z] aI aI (Sl.r6 _ _ z aD aD) Q2 (pf abJ _) ?_);intro v' w7 QR Kk ajn;obtain⟨OA7,Oc7,rfl,aju⟩:=QR.sl;have IY:=(J8.alloc _).grown (Kx.alloc _) Kk FX;have b7:=IY.c1;have f7:=IY.fr 1)
       go_roundw
       case rel=>
        refine⟨y+1,O++[z],OA7,Oc7,aD,congrArg (Value.int .i64) (by have:=HI.out;omega),HON.out,QR.wU FX 1 _,(by rw[cv];exact IY.ahs _ _ _),((Gt.trans (iu.alloc _ _)).own _ _ ((Kx.alloc _).mono abo) Kk).setCell hg _,?_⟩;have:=Kk.size;simp[World.setCell]at this ⊢;omega
       case measure=>have:=HI.out;simp[intOf];omega
    .have hyY:y=Y:= aD ;have yo:¬I<n:=by
      intro q;have:=(HYB.out y).2 aD;omega
     have ht:decide ((I:Int)<n)=false:=bl aD;have ht3:decide (I<n)=false:=bl yo;have hOV:O=gK V:=by rw[hO,cG (by rw[<-HY.out];omega)]
     obtain⟨OA',Oc',heq,xl⟩:=kW.sl;cases heq;have b0:=iN.c0;have b1:=iN.c1;have b2:=iN.c2;have xY:=XZ.ext Dq;have c0:=xY.c0;have c1:=xY.c1;have c2:=xY.c2;have f0:=xY.fr 0;have f1:=xY.fr 1;have f2:=xY.fr 2;clear hI hO HYB;go_wp2;rw[n5.out];subst hOV;exact rT rfl rfl rfl (xY.set _ _ _ _ _) rfl (xY.sM xl _ _ _ _ _) (ju.sc (hwW.trans Dq) (bp _) _ _ _ _ _)
def Se(v:Nat)(e:Int)(h0:v≠0)(hl:(gK v).length<=1000)(lh:-100000<=e)(kF:e<=100000):gJ 350 [bP false,gO (gK v),iP e] (gM (canon false v e)):=by
 refine⟨call350,λw B vs hK hB hr=>?_⟩;obtain⟨v1,vs,rfl,h1,hr⟩:=hr.lV;obtain⟨v2,vs,rfl,h2,hr⟩:=hr.lV;obtain⟨v3,vs,rfl,h3,hr⟩:=hr.lV;obtain rfl:=hr.ph;obtain rfl:=iz.kE h1;obtain rfl:=iz.kE h3;obtain⟨A,c,rfl,s1⟩:=uJ (kO v) h2;exact(ac3 v e A c w h0 s1 hK hl lh kF).mono λe w' h=>rd B w e w' hB h
def jE(n d y:Nat):Nat:=n*2^y/d
def kQ(n d y:Nat):Nat:=n*2^y%d
def Jm(n d y:Nat):n*2^(y+1)=d*(2*jE n d y)+2*kQ n d y:=by
 have:=ck (n*2^y) d;unfold jE kQ;rw[bE,<-bw,cW];omega
def Zt{n d y:Nat}(hd:0<d)(h:2*kQ n d y<d):kQ n d (y+1)=2*kQ n d y/\jE n d (y+1)=2*jE n d y:=by
 constructor
 .conv=>lhs;unfold kQ
  rw[Jm n d y,dG,bJ h]
 .conv=>lhs;unfold jE
  rw[Jm n d y,dk hd,ca h,bK]
def Zu{n d y:Nat}(hd:0<d)(h:¬2*kQ n d y<d):kQ n d (y+1)=2*kQ n d y-d/\jE n d (y+1)=2*jE n d y+1:=by
 have hr:kQ n d y<d:=bA _ hd;have e:n*2^(y+1)=d*(2*jE n d y+1)+(2*kQ n d y-d):=by
  rw[Jm n d y,bH,bW];omega
 constructor
 .conv=>lhs;unfold kQ
  rw[e,dG,bJ aD]
 .conv=>lhs;unfold jE
  rw[e,dk hd,ca aD,bK]
def Fw{n d:Nat}(hn:1<=n)(hd:1<=d)(rn:d<=1073741824)(p:Nat):∃ K,K<p+31/\(∀ y,y<K->gU (jE n d y)<p)/\p<=gU (jE n d K):=by
 have hx:p<=gU (jE n d (p+30)):=by
  refine dv (wh.2 ?_);unfold jE;rw[de hd,bq];have h1:2^p*d<=2^p*2^30:=cA _ aD;have h2:=bL (2^p*2^30) hn;rw[bX]at h2;exact bM h1 h2
 obtain⟨K,h1,h2,h3⟩:=pX (n:=p+31) (p:=λy=>decide (p<=gU (jE n d y))) ⟨p+30,aD,bk hx⟩;exact⟨K,h1,λy hy=>by have:=of_decide_eq_false (h3 y hy);omega,cK h2⟩
def oh(r m x:Nat):Bool:=decide (r=0)&&decide (m%2^x=0)
def Ba{r m x:Nat}:oh r m x=true↔r=0/\m%2^x=0:=by
 unfold oh;rw[bQ,cF,cF]
def Zq(r m:Nat):((r:Int)==0)=oh r m 0:=by
 rw[dn,Ba,bV,cT,gz];omega
def Zo{r m x:Nat}(h:oh r m x=false):oh r m (x+1)=false:=by
 refine bc λq=>?_
 rw[Ba]at q;have h2:=GC m x;have h3:m%2^x=0:= aD ;rw[Ba.2 ⟨q.1,h3⟩]at h;cases h
def Zp{r m x:Nat}(h:oh r m x=true)(hb:m/2^x%2=0):oh r m (x+1)=true:=by
 rw[Ba]at h ⊢;refine⟨h.1,?_⟩;rw[GC,hb,h.2,cB]
def Zn{r m x:Nat}(hb:¬m/2^x%2=0):oh r m (x+1)=false:=by
 refine bc λq=>?_
 rw[Ba]at q;have h2:=GC m x;have h3:m/2^x%2*2^x=0:= aD ;rcases gD.1 h3 with k|k
 .exact hb k
 .exact absurd k (ef (bu aF))
def kU(n d p K:Nat):Nat:=gU (jE n d K)-p
def jL(n d p K:Nat):Nat:=jE n d K/2^kU n d p K
def nm(n d p K:Nat):Int:=(0-(K:Int))+(kU n d p K:Int)
def VC{x y c:Rat}(hc:0<c):x<=y↔x*c<=y*c:=
 ⟨λh=>fT h (dp hc),λh=>aku h hc⟩
section
variable {a n d l K:Nat}
def Tv(hd:1<=d):0<(d:Rat)*P2 (K:Int)/\(n:Rat)/(d:Rat)*((d:Rat)*P2 (K:Int))=((n*2^K:Nat):Rat):=by
 have h0:(0:Rat)<(d:Rat):=ajI.2 aD;refine⟨fv h0 (rM _),?_⟩;rw[<-fU,Rat.div_mul_cancel aO,y9,<-dM]
def S4:(a:Rat)*P2 ((0-(K:Int))+(l:Int))*((d:Rat)*P2 (K:Int))=((a*2^l*d:Nat):Rat):=by
 have e:P2 ((0-(K:Int))+(l:Int))*P2 (K:Int)=((2^l:Nat):Rat):=by
  rw[<-y8,(aD:0-(K:Int)+l+K=(l:Int)),y9]
 rw[dM,dM,<-e]
 grind
def Lr(hd:1<=d):(a:Rat)*P2 ((0-(K:Int))+(l:Int))<=(n:Rat)/(d:Rat)↔a*2^l*d<=n*2^K:=by
 obtain⟨h1,h2⟩:=Tv (n:=n) (K:=K) hd;rw[VC h1,h2,S4,ake]
def LS(hd:1<=d):(n:Rat)/(d:Rat)<=(a:Rat)*P2 ((0-(K:Int))+(l:Int))↔n*2^K<=a*2^l*d:=by
 obtain⟨h1,h2⟩:=Tv (n:=n) (K:=K) hd;rw[VC h1,h2,S4,ake]
end
section
variable {n d p K:Nat}
def Fv(hb:p<=gU (jE n d K)):gU (jL n d p K)=p:=by
 unfold jL kU;rw[NB aD];omega
def Jn(hd:1<=d)(jO:n<=1073741824)(hb:p<=gU (jE n d K))(hp:1<=p):kU n d p K<=31+K:=by
 unfold kU;have h1:jE n d K<=n*2^K:=cz _ _;have h2:n*2^K<2^(31+K):=by
  rw[bq];exact cO aD (bu aF)
 have:=kB.2 (cC h1 h2);omega
def OT(hd:1<=d):jL n d p K*2^kU n d p K*d<=n*2^K/\n*2^K<(jL n d p K+1)*2^kU n d p K*d/\(oh (kQ n d K) (jE n d K) (kU n d p K)=true↔n*2^K=jL n d p K*2^kU n d p K*d):=by
 have h1:=ck (n*2^K) d;have h2:=bA (n*2^K) (aD:0<d);change d*jE n d K+kQ n d K=n*2^K at h1;change kQ n d K<d at h2;have h3:=ck (jE n d K) (2^kU n d p K);have h4:=bA (jE n d K) (bu (n:=kU n d p K) (show 0<2 by decide));change 2^kU n d p K*jL n d p K+jE n d K%2^kU n d p K=jE n d K at h3;rw[Ba,<-h1];generalize jE n d K=M at *
 generalize kQ n d K=R at *
 generalize jL n d p K=T at *
 generalize 2^kU n d p K=q at *
 generalize M%q=s at *
 subst h3;have e1:T*q*d=d*(q*T):=by rw[bB,bB T]
 have e2:(T+1)*q*d=d*(q*T)+d*q:=by rw[bT,bX,bT,e1,bB q d]
 have e3:d*(q*T+s)=d*(q*T)+d*s:=bH _ _ _;have e4:d*s+d<=d*q:=by
  have:=cA d h4;rw[Nat.succ_eq_add_one,bH,bW]at this;exact this
 rw[e1,e2,e3];refine⟨aD,aD,?_⟩;constructor
 .rintro ⟨rfl,rfl⟩;simp
 .intro h;have e5:d*s=0:= aD ;refine⟨aD,?_⟩;rcases gD.1 e5 with k|k
  .omega
  .exact k
variable (hn:1<=n) (jO:n<=1073741824) (hd:1<=d) (hp:8<=p) (gS:p<=512) (hK:K<p+31) (hb:p<=gU (jE n d K))
include jO hd hp gS hK hb
def O9:Dn p ((n:Rat)/(d:Rat)) (canon false (jL n d p K) (nm n d p K)) 0:=by
 have hl:=Jn hd jO hb aD;obtain⟨b1,b2,_⟩:=OT (n:=n) (d:=d) (p:=p) (K:=K) hd;refine adP (Fv hb) aD aV aV ((Lr hd).2 b1) ?_;apply Rat.not_le.1;intro q;have:=(Lr hd).1 q;omega
def Pa:Up p ((n:Rat)/(d:Rat)) (if oh (kQ n d K) (jE n d K) (kU n d p K)=true then canon false (jL n d p K) (nm n d p K)else canon false (jL n d p K+1) (nm n d p K)) 0:=by
 have hl:=Jn hd jO hb aD;obtain⟨b1,b2,b3⟩:=OT (n:=n) (d:=d) (p:=p) (K:=K) hd;split
 .rename_i h;have h:=b3.1 h;exact Z0 (Fv hb) aV aV (akh ((LS hd).2 aD) ((Lr hd).2 aD))
 .rename_i h;have h:¬n*2^K=jL n d p K*2^kU n d p K*d:=λq=>h (b3.2 q)
  refine adR (Fv hb) aD aV aV ?_ ((LS hd).2 aD);apply Rat.not_le.1;intro q;have:=(LS hd).1 q;omega
end
def aiP{p:Nat}{v:Rat}{D:Dy}{E:Int}(h:Up p v D E):Dn p (-v) (iB D) E:=
 ⟨λhe=>⟨by rw[sF];exact(h.1 he).1.neg,by rw[sF];have:=(h.1 he).2;grind⟩,λg hg Kl=>by
  obtain⟨a,b⟩:=h.2 (-g) hg.neg aO;exact⟨a,by rw[sF];grind⟩⟩
def Y4{p:Nat}{v:Rat}{D:Dy}{E:Int}(h:Dn p v D E):Up p (-v) (iB D) E:=
 ⟨λhe=>⟨by rw[sF];exact(h.1 he).1.neg,by rw[sF];have:=(h.1 he).2;grind⟩,λg hg Kl=>by
  obtain⟨a,b⟩:=h.2 (-g) hg.neg aO;exact⟨a,by rw[sF];grind⟩⟩
def Ml{n d:Int}{p:Nat}(hp:8<=p)(gS:p<=512)(hr:lv n d=true){lo hi:Dy}(h1:Dn p ((n:Rat)/(d:Rat)) lo 0)(h2:Up p ((n:Rat)/(d:Rat)) hi 0)(c1:lo.lA)(c2:hi.lA):ni n d p=⟨lo,hi,false⟩:=by
 obtain⟨r1,_⟩:=Cb hr;have d0:(jI d).m≠0:=KP aD;obtain⟨A,B⟩:=Oz (a:=jI n) (b:=jI d) d0 (p:=p) aD aD;rw[LP,LP]at A B;obtain⟨e1,e2⟩:=Y5 h1 A c1 (Fm d0 aD aD _).canon;obtain⟨e3,e4⟩:=aiQ h2 B c2 (Fm d0 aD aD _).canon;unfold ni;rw[bj hr,e1,e2,e3,e4];rfl
def Vv{d:Int}{p:Nat}(hp:8<=p)(gS:p<=512)(hr:lv 0 d=true):ni 0 d p=⟨ix,ix,false⟩:=by
 have hz:((0:Int):Rat)/(d:Rat)=0:=by rw[ajK,show((0:Int):Rat)=0 from rfl,Rat.zero_mul]
 refine Ml hp gS hr ?_ ?_ re.canon re.canon
 .rw [hz];exact⟨λ_=>⟨by rw[sG];exact .inl (xT p),by rw[sG];exact dg⟩,λg _ h=>⟨rfl,by rw[sG];exact h⟩⟩
 .rw [hz];exact⟨λ_=>⟨by rw[sG];exact .inl (xT p),by rw[sG];exact dg⟩,λg _ h=>⟨rfl,by rw[sG];exact h⟩⟩
section
variable {n d p K:Nat}
def Vu(jO:n<=1073741824)(hd:1<=d)(hp:8<=p)(gS:p<=512)(hK:K<p+31)(hb:p<=gU (jE n d K))(hr:lv (n:Int) (d:Int)=true):
 ni (n:Int) (d:Int) p=⟨canon false (jL n d p K) (nm n d p K),if oh (kQ n d K) (jE n d K) (kU n d p K)=true then canon false (jL n d p K) (nm n d p K)else canon false (jL n d p K+1) (nm n d p K),false⟩:=by
 refine Ml hp gS hr (O9 jO hd hp gS hK hb) (Pa jO hd hp gS hK hb) (rj _ _ _) ?_;split<;>exact rj _ _ _
def Vt(jO:n<=1073741824)(hd:1<=d)(hp:8<=p)(gS:p<=512)(hK:K<p+31)(hb:p<=gU (jE n d K))(hr:lv (-(n:Int)) (d:Int)=true):
 ni (-(n:Int)) (d:Int) p=⟨iB (if oh (kQ n d K) (jE n d K) (kU n d p K)=true then canon false (jL n d p K) (nm n d p K)else canon false (jL n d p K+1) (nm n d p K)),iB (canon false (jL n d p K) (nm n d p K)),false⟩:=by
 have e:((-(n:Int):Int):Rat)/((d:Int):Rat) = -((n:Rat)/(d:Rat)):=by
  rw[ado,ajK,ajK,ajH];rfl
 refine Ml hp gS hr ?_ ?_ (Ah ?_) (Ah (rj _ _ _))
 .rw [e];exact aiP (Pa jO hd hp gS hK hb)
 .rw [e];exact Y4 (O9 jO hd hp gS hK hb)
 .split<;>exact rj _ _ _
end
def S5(v:Nat)(N:Nat)(x:Nat):PS:=⟨29,false,[(4,.e (iP x)),(3,.own 5)],[(5,.row false 150 ((gK v).length) 1 (iW (ky 0 v x (gK v).length)))]⟩
def S6(v:Nat)(x:Nat):PS:=⟨29,false,[(4,.e (iP x)),(3,.own 5)],[(5,.row false 150 ((gK v).length) 1 (iW (ky 0 v x (gK v).length)))]⟩
def OX(n d p:Nat)(x:Nat):PS:=⟨130,true,[(11,.e (iP (63-(x:Int)))),(10,.e (iP 0)),(9,.e (.v (.int .u64 (iK n d 64 x:Int)))),(8,.e (gO (gK (kz n d 64 x)))),(7,.box 7 0),(6,.box 6 0),(0,.e (.v (.int .u64 (n:Int)))),(1,.e (.v (.int .u64 (d:Int)))),(2,.e (iP p))],[(7,.cells 39 aq),(6,.cells 39 aq)]⟩
def OY(n d p:Nat)(y:Nat):PS:=⟨130,true,[(10,.e (iP (0-(y:Int)))),(9,.e (.v (.int .u64 (kQ n d y:Int)))),(8,.e (gO (gK (jE n d y)))),(7,.box 7 0),(6,.box 6 0),(1,.e (.v (.int .u64 (d:Int)))),(2,.e (iP p))],[(7,.cells 39 aq),(6,.cells 39 aq)]⟩
def OZ(n d p K:Nat)(y:Nat):PS:=⟨130,false,[(15,.own 15),(16,.e (iP ((32*y:Nat):Int))),(14,.e (bP ((kQ n d K:Int)==0))),(13,.e (iP (kU n d p K:Int))),(10,.e (iP (0-(K:Int)))),(8,.e (gO (gK (jE n d K)))),(7,.box 7 0),(6,.box 6 0),(2,.e (iP p))],[(15,.row false 150 y 1 (iW (iI (jL n d p K) y))),(7,.cells 39 aq),(6,.cells 39 aq)]⟩
def O3(n d p K y:Nat)(k:Nat):PS:=⟨130,false,[(18,.e (iP k)),(17,.e (.v (.int .u32 (((iq (jL n d p K) y)%2^k:Nat):Int)))),(15,.own 15),(16,.e (iP ((32*y:Nat):Int))),(14,.e (bP ((kQ n d K:Int)==0))),(13,.e (iP (kU n d p K:Int))),(10,.e (iP (0-(K:Int)))),(8,.e (gO (gK (jE n d K)))),(7,.box 7 0),(6,.box 6 0),(2,.e (iP p))],[(15,.row false 150 y 1 (iW (iI (jL n d p K) y))),(7,.cells 39 aq),(6,.cells 39 aq)]⟩
def O4(n d p K y:Nat)(k:Nat):PS:=⟨130,false,[(18,.e (iP k)),(17,.e (.v (.int .u32 (((iq (jL n d p K) y)%2^k:Nat):Int)))),(15,.own 15),(16,.e (iP ((32*y:Nat):Int))),(14,.e (bP ((kQ n d K:Int)==0))),(13,.e (iP (kU n d p K:Int))),(10,.e (iP (0-(K:Int)))),(8,.e (gO (gK (jE n d K)))),(7,.box 7 0),(6,.box 6 0),(2,.e (iP p))],[(15,.row false 150 y 1 (iW (iI (jL n d p K) y))),(7,.cells 39 aq),(6,.cells 39 aq)]⟩
def O5(n d p K:Nat)(x:Nat):PS:=⟨130,true,[(19,.e (iP x)),(15,.e (gO (gK (jL n d p K)))),(14,.e (bP (oh (kQ n d K) (jE n d K) x))),(13,.e (iP (kU n d p K:Int))),(10,.e (iP (0-(K:Int)))),(8,.e (gO (gK (jE n d K)))),(7,.box 7 0),(6,.box 6 0)],[(7,.cells 39 aq),(6,.cells 39 aq)]⟩
def Vn{T n n':Nat}{L L':List Nat}(hn:n=0+L.length)(qX:n'=L.length)(h:L'=L):Bx.le (.row false T n 1 λi_ j_=>if i_<0 then(λi_ j_=>([]:List E).getD (i_*1+j_) (.v (.bool false))) i_ j_ else(E.ke (gO L)) (i_-0) j_) (.row false T n' 1 (iW L')):=by
 subst h;refine .row aD λi j hi hj=>?_
 simp only[bC,bF,du];exact⟨.iD rfl,rfl⟩
def Xc{L:List Nat}{n:Nat}(hn:n=0+L.length):E.le (.sl false n 1 λi_ j_=>if i_<0 then(λi_ j_=>([]:List E).getD (i_*1+j_) (.v (.bool false))) i_ j_ else(E.ke (gO L)) (i_-0) j_) (gO L):=by
 rw[<-y3 (aD:n=L.length)];refine .sl λi j hi hj=>?_
 simp only[bC,bF,du];exact⟨.iD rfl,rfl⟩
def adS{f:Nat->Nat->E}{v:Nat}(h:v=0):E.le (.sl true 0 1 f) (gO (gK v)):=by
 subst h;rw[nt];intro bs br w v k;cases k with
 |sl _ _ _ _ A c g h1 h2 h3 h4 h5 h6 h7=>exact .sl false 0 1 _ A c g h1 h2 h3 (λi j hi=>absurd hi (bC i)) (λi j hi=>absurd hi (bC i)) (λi j hi=>absurd hi (bC i)) (λi j hi=>absurd hi (bC i))
def acP{L M:List Nat}{n p z:Nat}(hn:n=L.length)(hp:p<L.length)(hs:L.set p z=M):E.le (.sl false n 1 λi' j'=>if i'=p/\0<=j'/\j'<0+1 then[.v (.int .u32 (z:Int))].getD (j'-0) .any else(iW L) i' j') (gO M):=by
 subst hs;have e:n=(L.set p z).length:=by rw[cI];omega
 rw[<-y3 e];refine .sl λi j hi hj=>?_
 obtain rfl:j=0:= aD ;by_cases h:i=p
 .subst h;simp only[true_and,bp,aj7,bI,bU];exact⟨.iD (by show _=E.v (.int .u32 (((L.set i z).getD i 0:Nat):Int));rw[bn (l:=L.set i z),List.getElem?_set_self hp];rfl),rfl⟩
 .simp only[h,false_and,bF];exact⟨.iD (by show E.v (.int .u32 (L.getD i 0:Int))=E.v (.int .u32 (((L.set p z).getD i 0:Nat):Int));rw[bn,bn,gA (λq=>h q.symm)]),rfl⟩
def acM{N l n:Nat}{L:List Nat}(hn:n=l+1)(h1:iI N (l+1)=L)(h2:iq N l=1):E.le (.sl false n 1 λi_ j_=>if i_<l then(iW (iI N l)) i_ j_ else(E.ke (gO (gK 1))) (i_-l) j_) (gO L):=by
 subst hn h1;rw[<-y3 (mu N (l+1)).symm];refine .sl λi j hi hj=>?_
 obtain rfl:j=0:= aD ;by_cases h:i<l
 .simp only[h,bI];exact⟨.iD (by unfold iW;rw[sk h,sk aD]),rfl⟩
 .obtain rfl:i=l:= aD ;simp only[eu,bF,cV];exact⟨.iD (by show E.v (.int .u32 (((gK 1).getD 0 0:Nat):Int))=_;unfold iW;rw[sk aD,h2,R1];rfl),rfl⟩
def adN(v:Nat)(hs:(gK v).length<=1000000)(N:Nat)(hN:N<(gK v).length)(iJ:∀ k,k<N->iq v k=4294967295)(hd:iq v N≠4294967295):gJ 351 [gO (gK v)] (gO (gK (v+1))):=by
 have iE:=oP v N;exact ak call351 func351 (aa [.bo,.a (aD:(0+(gK v).length)*4<=140737488355328),.s (Sp.iG (S5 v N) 0 N aD (λx hx jf=>by
    have uh:=iJ x aD;exact gX (aa [tT 11 ((x:Int)<((gK v).length:Int)) aD,iX (x:Int) ((gK v).length) aD,.a (aD:x<(gK v).length),.o 17 (.int (by rw[DO aD]):ai (.v (.int .u32 (((ky 0 v x (gK v).length).getD x 0:Nat):Int))) (.v (.int .u32 (iq v x:Int)))),.o 18 (.int (by rw[uh,zw];rfl):ai (.v (.int .u32 (IntKind.u32.wrap ((iq v x:Int)+1)))) (.v (.int .u32 (iq 0 x:Int)))),iX (x:Int) ((gK v).length) aD,.a (aD:x<(gK v).length),iX (x:Int) ((gK v).length) aD,.a (aD:x<(gK v).length),.o 23 (.e (.iD aJ):ai ((λi' j'=>if i'=x/\0<=j'/\j'<0+1 then[.v (.int .u32 (iq 0 x:Int))].getD (j'-0) .any else(iW (ky 0 v x (gK v).length)) i' j') x 0) (.v (.int .u32 (iq 0 x:Int)))),ah 24 ((iq 0 x:Int) != 0) (yJ (zw x)),gW ((x:Int)+1) aD]<|.e (ae [.b 5 (Ci rfl aZ GI:Bx.le (.row false 150 ((gK v).length) 1 (λi' j'=>if i'=x/\0<=j'/\j'<0+1 then[.v (.int .u32 (iq 0 x:Int))].getD (j'-0) .any else(iW (ky 0 v x (gK v).length)) i' j')) (.row false 150 ((gK v).length) 1 (iW (ky 0 v (x+1) (gK v).length))))])) aG)
  (λhx=>by
    exact gX (ae [tT 11 ((N:Int)<((gK v).length:Int)) aD,iX (N:Int) ((gK v).length) aD,.a (aD:N<(gK v).length),.o 17 (.int (by rw[DO aD]):ai (.v (.int .u32 (((ky 0 v N (gK v).length).getD N 0:Nat):Int))) (.v (.int .u32 (iq v N:Int)))),.o 18 (.int aX:ai (.v (.int .u32 (IntKind.u32.wrap ((iq v N:Int)+1)))) (.v (.int .u32 ((iq v N+1:Nat):Int)))),iX (N:Int) ((gK v).length) aD,.a (aD:N<(gK v).length),iX (N:Int) ((gK v).length) aD,.a (aD:N<(gK v).length),.o 23 (.e (.iD aJ):ai ((λi' j'=>if i'=N/\0<=j'/\j'<0+1 then[.v (.int .u32 ((iq v N+1:Nat):Int))].getD (j'-0) .any else(iW (ky 0 v N (gK v).length)) i' j') N 0) (.v (.int .u32 ((iq v N+1:Nat):Int)))),ag 24 (((iq v N+1:Nat):Int) != 0) (BO aD)]) aG) aK:iF 3 f351 (S5 v N 0) .ret ⟨29,false,[(2,.own 5)],[(5,.row false 150 ((gK v).length) 1 (λi' j'=>if i'=N/\0<=j'/\j'<0+1 then[.v (.int .u32 ((iq v N+1:Nat):Int))].getD (j'-0) .any else(iW (ky 0 v N (gK v).length)) i' j'))]⟩) (ae [.b 5 (Vn rfl rfl (by rw[DP,Jd]):Bx.le (.row false 150 (0+(gK v).length) 1 (λi_ j_=>if i_<0 then(λi_ j_=>([]:List E).getD (i_*1+j_) (.v (.bool false))) i_ j_ else(E.ke (gO (gK v))) (i_-0) j_)) (.row false 150 ((gK v).length) 1 (iW (ky 0 v 0 (gK v).length))))])]<|rR (gO (gK (v+1))) (acP (by rw[tq]) (by rw[tq];exact hN) (adQ hN iJ hd):E.le (.sl false ((gK v).length) 1 (λi' j'=>if i'=N/\0<=j'/\j'<0+1 then[.v (.int .u32 ((iq v N+1:Nat):Int))].getD (j'-0) .any else(iW (ky 0 v N (gK v).length)) i' j')) (gO (gK (v+1))))) 
def adL(v:Nat)(hs:(gK v).length<=1000000)(iJ:∀ k,k<(gK v).length->iq v k=4294967295):gJ 351 [gO (gK v)] (gO (gK (v+1))):=by
 obtain⟨h1,h2,h3⟩:=adO iJ;have nU:(ky 0 v ((gK v).length) (gK v).length)=iI (v+1) (gK v).length:=by rw[GH (bp _),h1]
 have vj:(gK 1).length=1:=by rw[R1];rfl
 exact ak call351 func351 (aa [.bo,.a (aD:(0+(gK v).length)*4<=140737488355328),.s (Sp.iG (S6 v) 0 ((gK v).length) aD (λx hx jf=>by
    have uh:=iJ x aD;exact gX (aa [tT 11 ((x:Int)<((gK v).length:Int)) aD,iX (x:Int) ((gK v).length) aD,.a (aD:x<(gK v).length),.o 17 (.int (by rw[DO aD]):ai (.v (.int .u32 (((ky 0 v x (gK v).length).getD x 0:Nat):Int))) (.v (.int .u32 (iq v x:Int)))),.o 18 (.int (by rw[uh,zw];rfl):ai (.v (.int .u32 (IntKind.u32.wrap ((iq v x:Int)+1)))) (.v (.int .u32 (iq 0 x:Int)))),iX (x:Int) ((gK v).length) aD,.a (aD:x<(gK v).length),iX (x:Int) ((gK v).length) aD,.a (aD:x<(gK v).length),.o 23 (.e (.iD aJ):ai ((λi' j'=>if i'=x/\0<=j'/\j'<0+1 then[.v (.int .u32 (iq 0 x:Int))].getD (j'-0) .any else(iW (ky 0 v x (gK v).length)) i' j') x 0) (.v (.int .u32 (iq 0 x:Int)))),ah 24 ((iq 0 x:Int) != 0) (yJ (zw x)),gW ((x:Int)+1) aD]<|.e (ae [.b 5 (Ci rfl aZ GI:Bx.le (.row false 150 ((gK v).length) 1 (λi' j'=>if i'=x/\0<=j'/\j'<0+1 then[.v (.int .u32 (iq 0 x:Int))].getD (j'-0) .any else(iW (ky 0 v x (gK v).length)) i' j')) (.row false 150 ((gK v).length) 1 (iW (ky 0 v (x+1) (gK v).length))))])) aG)
  (λhx=>by
    exact gX (aa [tF 11 (((gK v).length:Int)<((gK v).length:Int)) aD]<|.e (ae [.b 5 (.iD (by rw[nU]):Bx.le (.row false 150 ((gK v).length) 1 (iW (ky 0 v ((gK v).length) (gK v).length))) (.row false 150 ((gK v).length) 1 (iW (iI (v+1) (gK v).length))))])) aG) aK:iF 3 f351 (S6 v 0) (.exit 0) ⟨29,false,[(3,.own 5)],[(5,.row false 150 ((gK v).length) 1 (iW (iI (v+1) (gK v).length)))]⟩) (ae [.b 5 (Vn rfl rfl (by rw[DP,Jd]):Bx.le (.row false 150 (0+(gK v).length) 1 (λi_ j_=>if i_<0 then(λi_ j_=>([]:List E).getD (i_*1+j_) (.v (.bool false))) i_ j_ else(E.ke (gO (gK v))) (i_-0) j_)) (.row false 150 ((gK v).length) 1 (iW (ky 0 v 0 (gK v).length))))]),.o 27 (.e uC:ai (.sl false 1 1 λi_ j_=>[.v (.int .u32 1)].getD (i_*1+j_) (.v (.bool false))) (gO (gK 1))),.a (aD:((gK v).length+(gK 1).length)*4<=140737488355328)]<|rR (gO (gK (v+1))) (acM aD h3 h2:E.le (.sl false ((gK v).length+(gK 1).length) 1 (λi_ j_=>if i_<(gK v).length then(iW (iI (v+1) (gK v).length)) i_ j_ else(E.ke (gO (gK 1))) (i_-(gK v).length) j_)) (gO (gK (v+1))))) 
def adM(v:Nat)(hs:(gK v).length<=1000000):gJ 351 [gO (gK v)] (gO (gK (v+1))):=by
 by_cases h:∃ k,k<(gK v).length/\decide (iq v k≠4294967295)=true
 .obtain ⟨N,h1,h2,h3⟩:=pX h;exact adN v hs N h1 (λk hk=>bY λq=>by have:=of_decide_eq_false (h3 k hk);exact this q) (cK h2)
 .exact adL v hs λk hk=>bY λq=>h ⟨k,hk,bk q⟩
def adF(d:Dy)(h:d.m≠0):(Dy.mk (!d.neg) d.m d.e)=iB d:=by unfold iB;simp[h]
def adG(d:Dy)(hd:d.lA)(h:d.m=0):d=iB d:=by
 have:=hd;obtain⟨s,m,e⟩:=d;simp only at h;subst h;have hz:=LO hd (Ah hd) (by rw[sF,uE];simp);exact hz
def adI(d:Dy)(h:d.m≠0):gJ 296 [gM d] (gM (iB d)):=
 aj call296 func296 (aa [tT 6 (0<((gK d.m).length:Int)) (by have:¬(gK d.m).length=0:=λq=>h (pY.1 q);omega)]<|rQ (gM (Dy.mk (!d.neg) d.m d.e)) (gM (iB d)) (by rw[adF d h])) 
def adH(d:Dy)(hd:d.lA)(h:d.m=0):gJ 296 [gM d] (gM (iB d)):=
 aj call296 func296 (aa [tF 6 (0<((gK d.m).length:Int)) (by have:=pY.2 h;omega)]<|rQ (gM d) (gM (iB d)) (by rw[<-adG d hd h])) 
def SQ(d:Dy)(hd:d.lA):gJ 296 [gM d] (gM (iB d)):=by
 by_cases h:d.m=0
 .exact adH d hd h
 .exact adI d h
def Zr{n x:Nat}(hn:n<18446744073709551616)(hx:x<64):bits .and .u64 ((n:Int)/2^(63-(x:Int)).toNat) 1=(jb n 64 x:Int):=by
 have e:(63-(x:Int)).toNat=64-1-x:= aD ;have e2:(n:Int)/2^(64-1-x)=((n/2^(64-1-x):Nat):Int):= aJ ;rw[e,e2,show(1:Int)=((1:Nat):Int)from rfl,MC _ _ (cC (cz _ _) hn) aF,gv];rfl
def OS{n d y:Nat}(hn:n<=1073741824):gU (jE n d y)<=31+y/\gU (2*jE n d y)<=32+y:=by
 have h:=cz (n*2^y) d;constructor
 .refine kB.2 (cC h ?_);rw[bq];exact cO aD (bu aF)
 .have h3:2*jE n d y<=2*n*2^y:=by unfold jE;rw[bw];omega
  refine kB.2 (cC h3 ?_);rw[bq];exact cO aD (bu aF)
def CQ{n d y:Nat}(hn:n<=1073741824)(hy:y<=1000):(gK (jE n d y)).length<=100:=by
 have h1:=(OS (d:=d) (y:=y) hn).1;have h2:=DH (w:=jE n d y) (y:=100);omega
def Zs{n d y:Nat}(hn:n<=1073741824)(hy:y<=999):(gK (2*jE n d y)).length<=100:=by
 have h1:=(OS (d:=d) (y:=y) hn).2;have h2:=DH (w:=2*jE n d y) (y:=100);omega
def VR{v:Nat}(h:v<18446744073709551616):(gK v).length<=2:=qi h
def Zv{T p y:Nat}(hT:gU T=p)(h:p-32*y<32):iq T y<2^(p-32*y):=by
 have h1:=px T;rw[hT]at h1;unfold iq;refine cC (fR _ _) ?_;rw[bZ (pw y),nB,<-bq];exact bN h1 (bG aF aD)
def Zw{T p Y:Nat}(hT:gU T=p)(hp:1<=p)(hY:Y=(p+31)/32):iI T Y=gK T:=by
 apply DI;have h1:∀ y,y<(gK T).length↔32*y<gU T:=λy=>DH
 have h2:=h1 Y;have h3:=h1 (Y-1);rw[hT]at h2 h3;omega
def OU{n d p K y k:Nat}(hk:k<32):jE n d K/2^((kU n d p K+32*y)+k)%2=iq (jL n d p K) y/2^k%2:=by
 rw[Oo hk];unfold jL;rw[cJ,<-bq,cP]
def ZF(n d p K:Nat)(hn:1<=n)(jO:n<=1073741824)(hd:1<=d)(rn:d<=1073741824)(hp:8<=p)(gS:p<=512)(hK:K<p+31)(iJ:∀ y,y<K->gU (jE n d y)<p)(hb:p<=gU (jE n d K))(Y:Nat)(hY:Y=(p+31)/32):gJ 295 [.v (.int .u64 (n:Int)),.v (.int .u64 (d:Int)),iP p] (.hH [gM (canon false (jL n d p K) (nm n d p K)),gM (if(oh (kQ n d K) (jE n d K) (kU n d p K))=true then canon false (jL n d p K) (nm n d p K)else canon false ((jL n d p K)+1) (nm n d p K))]):=by
 have h0:=OM (a:=n) (b:=d) (n:=64) aD;have h1:kz n d 64 64=jE n d 0/\iK n d 64 64=kQ n d 0:=by
  obtain⟨a,b⟩:=OI n d 64;rw[a,b];unfold jE kQ;rw[bV,bW];exact⟨rfl,rfl⟩
 have qy:=Fv hb;have hTY:=Zw qy aD hY;have hLo:=Jn hd jO hb aD;have hlK:=CQ (d:=d) (y:=K) jO aD;have hT0:(jL n d p K)≠0:=λq=>by rw[q,ri]at qy;omega
 have zC:(gK (jL n d p K)).length<=100:=by
  have:=DH (w:=(jL n d p K)) (y:=100);omega
 have ajm:(gK ((jL n d p K)+1)).length<=101:=by
  have h2:=uy zC;refine qi ?_;rw[bE];omega
 have hL4:kU n d p K=gU (jE n d K)-p:=rfl;exact aj call295 func295 (aa [.s (Sp.iG (OX n d p) 0 64 aD (λx hx jf=>by
    have hr:(iK n d 64 x)<d:=bA _ aD;have qA:=Fq n 64 x;have uo:(kz n d 64 x)<=n:=bM (cz _ _) (cz _ _);have vX:=VR (show(kz n d 64 x)<18446744073709551616 by omega);have nd:=VR (aD:2*(kz n d 64 x)<18446744073709551616);exact gX (aa [tT 23 (0<=(63-(x:Int))) aD,oF (2*(iK n d 64 x:Int)) aD,.a (aD:0<=((63-(x:Int)):Int)/\((63-(x:Int)):Int)<=((64:Nat):Int)),.o 31 (.int (Zr aD aD):ai (.v (.int .u64 (bits .and .u64 ((n:Int)/2^((63-(x:Int))).toNat) 1))) (.v (.int .u64 (jb n 64 x:Int)))),
     oF (((2*(iK n d 64 x):Nat):Int)+(jb n 64 x:Int)) aD,.a (aD:0<((d:Int):Int)),oF (((2*(iK n d 64 x))+(jb n 64 x):Nat):Int) aD,.a (aD:0<((d:Int):Int)),.bo,.bo,.a (aD:(0+(gK (kz n d 64 x)).length)*4<=140737488355328),.o 41 (.e (Xc rfl):ai (.sl false (0+(gK (kz n d 64 x)).length) 1 (λi_ j_=>if i_<0 then(λi_ j_=>([]:List E).getD (i_*1+j_) (.v (.bool false))) i_ j_ else(E.ke (gO (gK (kz n d 64 x)))) (i_-0) j_)) (gO (gK (kz n d 64 x)))),af [gO (gK (kz n d 64 x)),.v (.int .u64 0)] (VE _ aD)]<|.w (((2*(iK n d 64 x))+(jb n 64 x))<d)
     (λhq=>by
      have hm:((2*(iK n d 64 x))+(jb n 64 x))%d=((2*(iK n d 64 x))+(jb n 64 x)):=by rw[bJ hq]
      have hqd:((2*(iK n d 64 x))+(jb n 64 x))/d=0:=ca hq;have hs:=OJ (a:=n) (b:=d) (n:=64) (x:=x) aD aD hq;exact aa [ah 44 (((((2*(iK n d 64 x))+(jb n 64 x))/d:Nat):Int)==1) (a7 aD),gW ((63-(x:Int))-1) aD]<|.e (ae [.o 11 (an ((63-(x:Int))-1) (63-((x+1:Nat):Int)) aD),.o 9 (.int (by rw[hs.1,hm]):ai (.v (.int .u64 ((((2*(iK n d 64 x))+(jb n 64 x))%d:Nat):Int))) (.v (.int .u64 (iK n d 64 (x+1):Int)))),.o 8 (.e (.iD (by rw[hs.2])):ai (gO (gK (2*(kz n d 64 x)))) (gO (gK (kz n d 64 (x+1)))))]))
     (λhq=>by
      have hm:((2*(iK n d 64 x))+(jb n 64 x))%d=((2*(iK n d 64 x))+(jb n 64 x))-d:=by rw[Nat.mod_eq_sub_mod aD,bJ aD]
      have hqd:((2*(iK n d 64 x))+(jb n 64 x))/d=1:=by rw[Nat.div_eq_sub_div aD aD,ca aD]
      have hs:=OK (a:=n) (b:=d) (n:=64) (x:=x) aD aD hq;exact aa [ag 44 (((((2*(iK n d 64 x))+(jb n 64 x))/d:Nat):Int)==1) (a8 aD),af [gO (gK (2*(kz n d 64 x)))] (VD _ aD aD),
       gW ((63-(x:Int))-1) aD]<|.e (ae [.o 11 (an ((63-(x:Int))-1) (63-((x+1:Nat):Int)) aD),.o 9 (.int (by rw[hs.1,hm]):ai (.v (.int .u64 ((((2*(iK n d 64 x))+(jb n 64 x))%d:Nat):Int))) (.v (.int .u64 (iK n d 64 (x+1):Int)))),.o 8 (.e (.iD (by rw[hs.2])):ai (gO (gK ((2*(kz n d 64 x))+1))) (gO (gK (kz n d 64 (x+1)))))]))) aG)
  (λhx=>by
    exact gX (ae [tF 23 (0<=(63-((64:Nat):Int))) aD]) aG) aK:iF 5 f295 (OX n d p 0) (.exit 0) ⟨130,true,[(10,.e (iP 0)),(9,.e (.v (.int .u64 (iK n d 64 64:Int)))),(8,.e (gO (gK (kz n d 64 64)))),(7,.box 7 0),(6,.box 6 0),(1,.e (.v (.int .u64 (d:Int)))),(2,.e (iP p))],[(7,.cells 39 aq),(6,.cells 39 aq)]⟩) (ae [.o 11 (an 63 (63-((0:Nat):Int)) aD),.o 9 (.int (by rw[h0.1];rfl):ai (.v (.int .u64 0)) (.v (.int .u64 (iK n d 64 0:Int)))),.o 8 (.e (adS h0.2):ai (.sl true 0 1 λi_ j_=>[].getD (i_*1+j_) (.v (.bool false))) (gO (gK (kz n d 64 0))))]),.s (Sp.iG (OY n d p) 0 K aD (λy hy qf=>by
    have vX:=CQ (d:=d) (y:=y) jO aD;have nd:=Zs (d:=d) (y:=y) jO aD;have hbn:=iJ y aD;have Gi:(kQ n d y)<d:=bA _ aD;exact gX (aa [af [gO (gK (jE n d y))] (EY _ aD),tT 50 ((gU (jE n d y):Int)<p) aD,oF (2*(kQ n d y:Int)) aD,af [gO (gK (jE n d y)),.v (.int .u64 0)] (VE _ aD)]<|.w (2*kQ n d y<d)
     (λhq=>by
      have hs:=Zt (n:=n) (d:=d) (y:=y) aD hq;exact aa [tF 57 ((d:Int)<=((2*(kQ n d y):Nat):Int)) aD,gW ((0-(y:Int))-1) aD]<|.e (ae [.o 10 (an ((0-(y:Int))-1) (0-((y+1:Nat):Int)) aD),.o 9 (.int (by rw[hs.1]):ai (.v (.int .u64 ((2*(kQ n d y):Nat):Int))) (.v (.int .u64 (kQ n d (y+1):Int)))),.o 8 (.e (.iD (by rw[hs.2])):ai (gO (gK (2*(jE n d y)))) (gO (gK (jE n d (y+1)))))]))
     (λhq=>by
      have hs:=Zu (n:=n) (d:=d) (y:=y) aD hq;exact aa [tT 57 ((d:Int)<=((2*(kQ n d y):Nat):Int)) aD,oF (((2*(kQ n d y):Nat):Int)-d) aD,.o 60 (.int aD:ai (.v (.int .u64 (((2*(kQ n d y):Nat):Int)-d))) (.v (.int .u64 ((2*kQ n d y-d:Nat):Int)))),af [gO (gK (2*(jE n d y)))] (VD _ aD aD),gW ((0-(y:Int))-1) aD]<|.e (ae [.o 10 (an ((0-(y:Int))-1) (0-((y+1:Nat):Int)) aD),.o 9 (.int (by rw[hs.1]):ai (.v (.int .u64 ((2*kQ n d y-d:Nat):Int))) (.v (.int .u64 (kQ n d (y+1):Int)))),.o 8 (.e (.iD (by rw[hs.2])):ai (gO (gK ((2*(jE n d y))+1))) (gO (gK (jE n d (y+1)))))]))) aG)
  (λhy=>by
    have vX:=CQ (d:=d) (y:=K) jO aD;exact gX (ae [af [gO (gK (jE n d K))] (EY _ aD),tF 50 ((gU (jE n d K):Int)<p) aD]) aG) aK:iF 13 f295 (OY n d p 0) (.exit 2) ⟨130,false,[(10,.e (iP (0-(K:Int)))),(9,.e (.v (.int .u64 (kQ n d K:Int)))),(8,.e (gO (gK (jE n d K)))),(7,.box 7 0),(6,.box 6 0),(2,.e (iP p))],[(7,.cells 39 aq),(6,.cells 39 aq)]⟩) (ae [.o 10 (an 0 (0-((0:Nat):Int)) aD),.o 9 (.int (by rw[h1.2]):ai (.v (.int .u64 (iK n d 64 64:Int))) (.v (.int .u64 (kQ n d 0:Int)))),.o 8 (.e (.iD (by rw[h1.1])):ai (gO (gK (kz n d 64 64))) (gO (gK (jE n d 0))))]),af [gO (gK (jE n d K))] (EY _ aD),gW ((gU (jE n d K):Int)-p) aD,.o 68 (an ((gU (jE n d K):Int)-p) (kU n d p K:Int) aD),.y 15 15 false 150 1 (iW (iI (jL n d p K) 0)),.s (Sp.iG (OZ n d p K) 0 Y aD (λy hy qf=>by
    have hD:=oP (jL n d p K) y;have vX:=CQ (d:=d) (y:=K) jO aD;exact gX (aa [tT 73 (((32*y:Nat):Int)<p) aD]<|.w (32<=p-32*y)
     (λhf=>by
      have hz:(((iq (jL n d p K) y)%2^32:Nat):Int)=(iq (jL n d p K) y:Int):=by rw[bJ hD]
      exact aa [.s (Sp.iG (O3 n d p K y) 0 32 aD (λk hk oJ=>by
    exact gX (ae [tT 77 ((k:Int)<32) aD,gW (((32*y:Nat):Int)+k) aD,tT 83 ((((32*y)+k:Nat):Int)<p) aD,
     gW ((kU n d p K:Int)+((32*y:Nat):Int)) aD,gW ((((kU n d p K)+(32*y):Nat):Int)+k) aD,.c (EX (jE n d K) (((kU n d p K)+(32*y))+k) aD aD),.o 94 (an (((jE n d K)/2^(((kU n d p K)+(32*y))+k)%2:Nat):Int) (((iq (jL n d p K) y)/2^k%2:Nat):Int) (by rw[OU aD])),.o 95 (.int aX:ai (.v (.int .u32 (IntKind.u32.wrap (((iq (jL n d p K) y)/2^k%2:Nat):Int)))) (.v (.int .u32 (((iq (jL n d p K) y)/2^k%2:Nat):Int)))),.a (aD:0<=((k:Int):Int)/\((k:Int):Int)<=((32:Nat):Int)),.o 97 (.int (Mp aD aD):ai (.v (.int .u32 (IntKind.u32.wrap ((((iq (jL n d p K) y)/2^k%2:Nat):Int)*2^k)))) (.v (.int .u32 ((((iq (jL n d p K) y)/2^k%2)*2^k:Nat):Int)))),.o 98 (.int (LF aD hD):ai (.v (.int .u32 (bits .or .u32 (((iq (jL n d p K) y)%2^k:Nat):Int) ((((iq (jL n d p K) y)/2^k%2)*2^k:Nat):Int)))) (.v (.int .u32 (((iq (jL n d p K) y)%2^(k+1):Nat):Int)))),
     gW ((k:Int)+1) aD]) aG)
  (λhk=>by
    exact gX (ae [ah 77 (decide ((32:Int)<32)) aF]) aG) aK:iF 28 f295 (O3 n d p K y 0) (.exit 6) ⟨130,false,[(83,.e (.v (.tuple #[]))),(82,.e (.v (.tuple #[]))),(81,.e (.v (.tuple #[]))),(80,.e (.v (.tuple #[]))),(79,.e (.v (.tuple #[]))),(17,.e (.v (.int .u32 (((iq (jL n d p K) y)%2^32:Nat):Int)))),(15,.own 15),(16,.e (iP ((32*y:Nat):Int))),(14,.e (bP ((kQ n d K:Int)==0))),(13,.e (iP (kU n d p K:Int))),(10,.e (iP (0-(K:Int)))),(8,.e (gO (gK (jE n d K)))),(7,.box 7 0),(6,.box 6 0),(2,.e (iP p))],[(15,.row false 150 y 1 (iW (iI (jL n d p K) y))),(7,.cells 39 aq),(6,.cells 39 aq)]⟩) (ae [.o 17 (.int (by rw[bV,cT];rfl):ai (.v (.int .u32 0)) (.v (.int .u32 (((iq (jL n d p K) y)%2^0:Nat):Int))))]),.a (aD:(y+1)*4<=140737488355328),gW (((32*y:Nat):Int)+32) aD]<|.e (ae [.o 16 (an (((32*y)+32:Nat):Int) ((32*(y+1):Nat):Int) aS),.b 15 (yF rfl hz:Bx.le (.row false 150 (y+1) 1 (λi_ j_=>if i_<y then(iW (iI (jL n d p K) y)) i_ j_ else(E.ke (.sl false 1 1 λi_ j_=>[.v (.int .u32 (((iq (jL n d p K) y)%2^32:Nat):Int))].getD (i_*1+j_) (.v (.bool false)))) (i_-y) j_)) (.row false 150 (y+1) 1 (iW (iI (jL n d p K) (y+1)))))]))
     (λhf=>by
      have hz:(((iq (jL n d p K) y)%2^(p-32*y):Nat):Int)=(iq (jL n d p K) y:Int):=by rw[bJ (Zv qy aD)]
      exact aa [.s (Sp.iG (O4 n d p K y) 0 (p-32*y) aD (λk hk oJ=>by
    exact gX (ae [tT 77 ((k:Int)<32) aD,gW (((32*y:Nat):Int)+k) aD,tT 83 ((((32*y)+k:Nat):Int)<p) aD,
     gW ((kU n d p K:Int)+((32*y:Nat):Int)) aD,gW ((((kU n d p K)+(32*y):Nat):Int)+k) aD,.c (EX (jE n d K) (((kU n d p K)+(32*y))+k) aD aD),.o 94 (an (((jE n d K)/2^(((kU n d p K)+(32*y))+k)%2:Nat):Int) (((iq (jL n d p K) y)/2^k%2:Nat):Int) (by rw[OU aD])),.o 95 (.int aX:ai (.v (.int .u32 (IntKind.u32.wrap (((iq (jL n d p K) y)/2^k%2:Nat):Int)))) (.v (.int .u32 (((iq (jL n d p K) y)/2^k%2:Nat):Int)))),.a (aD:0<=((k:Int):Int)/\((k:Int):Int)<=((32:Nat):Int)),.o 97 (.int (Mp aD aD):ai (.v (.int .u32 (IntKind.u32.wrap ((((iq (jL n d p K) y)/2^k%2:Nat):Int)*2^k)))) (.v (.int .u32 ((((iq (jL n d p K) y)/2^k%2)*2^k:Nat):Int)))),.o 98 (.int (LF aD hD):ai (.v (.int .u32 (bits .or .u32 (((iq (jL n d p K) y)%2^k:Nat):Int) ((((iq (jL n d p K) y)/2^k%2)*2^k:Nat):Int)))) (.v (.int .u32 (((iq (jL n d p K) y)%2^(k+1):Nat):Int)))),
     gW ((k:Int)+1) aD]) aG)
  (λhk=>by
    exact gX (ae [tT 77 (((p-32*y:Nat):Int)<32) aD,gW (((32*y:Nat):Int)+((p-32*y:Nat):Int)) aD,tF 83 ((((32*y)+(p-32*y):Nat):Int)<p) aD]) aG) aK:iF 28 f295 (O4 n d p K y 0) (.exit 6) ⟨130,false,[(83,.e (bP false)),(82,.e (iP p)),(81,.e (iP (((32*y)+(p-32*y):Nat):Int))),(80,.e (iP ((p-32*y:Nat):Int))),(79,.e (iP ((32*y:Nat):Int))),(17,.e (.v (.int .u32 (((iq (jL n d p K) y)%2^(p-32*y):Nat):Int)))),(15,.own 15),(16,.e (iP ((32*y:Nat):Int))),(14,.e (bP ((kQ n d K:Int)==0))),(13,.e (iP (kU n d p K:Int))),(10,.e (iP (0-(K:Int)))),(8,.e (gO (gK (jE n d K)))),(7,.box 7 0),(6,.box 6 0),(2,.e (iP p))],[(15,.row false 150 y 1 (iW (iI (jL n d p K) y))),(7,.cells 39 aq),(6,.cells 39 aq)]⟩) (ae [.o 17 (.int (by rw[bV,cT];rfl):ai (.v (.int .u32 0)) (.v (.int .u32 (((iq (jL n d p K) y)%2^0:Nat):Int))))]),.a (aD:(y+1)*4<=140737488355328),gW (((32*y:Nat):Int)+32) aD]<|.e (ae [.o 16 (an (((32*y)+32:Nat):Int) ((32*(y+1):Nat):Int) aS),.b 15 (yF rfl hz:Bx.le (.row false 150 (y+1) 1 (λi_ j_=>if i_<y then(iW (iI (jL n d p K) y)) i_ j_ else(E.ke (.sl false 1 1 λi_ j_=>[.v (.int .u32 (((iq (jL n d p K) y)%2^(p-32*y):Nat):Int))].getD (i_*1+j_) (.v (.bool false)))) (i_-y) j_)) (.row false 150 (y+1) 1 (iW (iI (jL n d p K) (y+1)))))]))) aG)
  (λhy=>by
    exact gX (aa [tF 73 (((32*Y:Nat):Int)<p) aD,.z 15]<|.e (ae [.o 15 (.e (.iD (by rw[y3 (mu _ _).symm,hTY])):ai (.sl false Y 1 (iW (iI (jL n d p K) Y))) (gO (gK (jL n d p K))))])) aG) aK:iF 24 f295 (OZ n d p K 0) (.exit 4) ⟨130,true,[(15,.e (gO (gK (jL n d p K)))),(14,.e (bP ((kQ n d K:Int)==0))),(13,.e (iP (kU n d p K:Int))),(10,.e (iP (0-(K:Int)))),(8,.e (gO (gK (jE n d K)))),(7,.box 7 0),(6,.box 6 0)],[(7,.cells 39 aq),(6,.cells 39 aq)]⟩) (ae [.o 16 (an 0 ((32*0:Nat):Int) aS)]),.s (Sp.iG (O5 n d p K) 0 (kU n d p K) aD (λx hx jf=>by
    have vX:=CQ (d:=d) (y:=K) jO aD;exact gX (aa [tT 105 ((x:Int)<(kU n d p K:Int)) aD]<|.w ((oh (kQ n d K) (jE n d K) x)=true)
     (λhq=>aa [ag 108 (oh (kQ n d K) (jE n d K) x) hq,.c (EX (jE n d K) x aD aD)]<|.w ((jE n d K)/2^x%2=0)
      (λFY=>aa [ag 113 ((((jE n d K)/2^x%2:Nat):Int)==0) (a8 aD),gW ((x:Int)+1) aD]<|.e (ae [.o 14 (.bool (Zp hq FY).symm:ai (bP true) (bP (oh (kQ n d K) (jE n d K) (x+1))))]))
      (λFY=>aa [ah 113 ((((jE n d K)/2^x%2:Nat):Int)==0) (a7 aD),gW ((x:Int)+1) aD]<|.e (ae [.o 14 (.bool (Zn FY).symm:ai (bP false) (bP (oh (kQ n d K) (jE n d K) (x+1))))])))
     (λhq=>aa [tB 108 (bc hq),gW ((x:Int)+1) aD]<|.e (ae [.o 14 (.bool (Zo (bc hq)).symm:ai (bP false) (bP (oh (kQ n d K) (jE n d K) (x+1))))]))) aG)
  (λhx=>by
    exact gX (ae [tF 105 ((kU n d p K:Int)<(kU n d p K:Int)) aD]) aG) aK:iF 33 f295 (O5 n d p K 0) (.exit 8) ⟨130,true,[(15,.e (gO (gK (jL n d p K)))),(14,.e (bP (oh (kQ n d K) (jE n d K) (kU n d p K)))),(13,.e (iP (kU n d p K:Int))),(10,.e (iP (0-(K:Int)))),(7,.box 7 0),(6,.box 6 0)],[(7,.cells 39 aq),(6,.cells 39 aq)]⟩) (ae [.o 14 (.bool (Zq _ _):ai (bP ((kQ n d K:Int)==0)) (bP (oh (kQ n d K) (jE n d K) 0)))]),
  gW ((0-(K:Int))+(kU n d p K:Int)) aD,af [bP false,gO (gK (jL n d p K)),iP ((0-(K:Int))+(kU n d p K:Int))] (Se _ _ aD aD aD aD)]<|.w (oh (kQ n d K) (jE n d K) (kU n d p K)=true)
  (λk1=>aa [tB 120 k1]<|rQ (.hH [gM (canon false (jL n d p K) ((0-(K:Int))+(kU n d p K:Int))),gM (canon false (jL n d p K) ((0-(K:Int))+(kU n d p K:Int)))]) (.hH [gM (canon false (jL n d p K) (nm n d p K)),gM (if(oh (kQ n d K) (jE n d K) (kU n d p K))=true then canon false (jL n d p K) (nm n d p K)else canon false ((jL n d p K)+1) (nm n d p K))]) (by(rw[bj k1])<;>rfl))
  (λk1=>aa [tB 120 (bc k1),af [gO (gK (jL n d p K))] (adM _ aD),gW ((0-(K:Int))+(kU n d p K:Int)) aD,af [bP false,gO (gK ((jL n d p K)+1)),iP ((0-(K:Int))+(kU n d p K:Int))] (Se _ _ aD aD aD aD)]<|rQ (.hH [gM (canon false (jL n d p K) ((0-(K:Int))+(kU n d p K:Int))),gM (canon false ((jL n d p K)+1) ((0-(K:Int))+(kU n d p K:Int)))]) (.hH [gM (canon false (jL n d p K) (nm n d p K)),gM (if(oh (kQ n d K) (jE n d K) (kU n d p K))=true then canon false (jL n d p K) (nm n d p K)else canon false ((jL n d p K)+1) (nm n d p K))]) (by(rw[bh k1])<;>rfl))) 
def O8(n d p K:Nat)(hn:1<=n)(jO:n<=1073741824)(hd:1<=d)(rn:d<=1073741824)(hp:8<=p)(gS:p<=512)(hK:K<p+31)(iJ:∀ y,y<K->gU (jE n d y)<p)(hb:p<=gU (jE n d K)):
 gJ 295 [.v (.int .u64 (n:Int)),.v (.int .u64 (d:Int)),iP p] (.hH [gM (canon false (jL n d p K) (nm n d p K)),gM (if(oh (kQ n d K) (jE n d K) (kU n d p K))=true then canon false (jL n d p K) (nm n d p K)else canon false ((jL n d p K)+1) (nm n d p K))]):=by
 exact ZF n d p K hn jO hd rn hp gS hK iJ hb _ rfl
def ajh:E.le (.agg ar) (gR ⟨ix,ix,false⟩):=
 .agg (.cons (.refl _) (.cons xz (.cons (.refl _) (.cons (.refl _) (.cons xz (.cons (.refl _) (.cons (.refl _) .nil)))))))
def ZB(d:Int)(p:Nat)(hr:lv 0 d=true)(hp:8<=p)(gS:p<=512):gJ 249 [.agg [iP 0,iP d],iP p] (gR (ni 0 d p)):=by
 rw[Vv hp gS hr];exact aj call249 func249 (aa [.c (Eh 0 d),ah 9 (!(lv 0 d)) (by rw[hr];rfl),tF 12 ((p:Int)<8) aD,tF 16 (512<(p:Int)) aD,ag 21 ((0:Int)==0) aF]<|rR (gR (Iv.mk ix ix false)) (ajh:E.le (.agg ar) (gR (Iv.mk ix ix false)))) 
def ZA(n d p K:Nat)(hn:1<=n)(jO:n<=1073741824)(hd:1<=d)(rn:d<=1073741824)(hp:8<=p)(gS:p<=512)(hK:K<p+31)(iJ:∀ y,y<K->gU (jE n d y)<p)(hb:p<=gU (jE n d K))(hr:lv (n:Int) (d:Int)=true):gJ 249 [.agg [iP n,iP d],iP p] (gR (ni (n:Int) (d:Int) p)):=by
 rw[Vu jO hd hp gS hK hb hr];exact aj call249 func249 (ae [.c (Eh (n:Int) (d:Int)),ah 9 (!(lv (n:Int) (d:Int))) (by rw[hr];rfl),tF 12 ((p:Int)<8) aD,tF 16 (512<(p:Int)) aD,ah 21 ((n:Int)==0) (a7 aD),af [iP n] (Ms _ aD aD),.o 26 (.int aD:ai (.v (.int .u64 (Int.natAbs (n:Int):Int))) (.v (.int .u64 (n:Int)))),.o 29 (.int (oH _ aD):ai (.v (.int .u64 (IntKind.u64.wrap (d:Int)))) (.v (.int .u64 (d:Int)))),af [.v (.int .u64 (n:Int)),.v (.int .u64 (d:Int)),iP p] (O8 _ _ _ K hn jO hd rn hp gS hK iJ hb),tF 36 ((n:Int)<0) aD]) 
def Zy(n d p K:Nat)(hn:1<=n)(jO:n<=1073741824)(hd:1<=d)(rn:d<=1073741824)(hp:8<=p)(gS:p<=512)(hK:K<p+31)(iJ:∀ y,y<K->gU (jE n d y)<p)(hb:p<=gU (jE n d K))(hr:lv (-(n:Int)) (d:Int)=true):gJ 249 [.agg [iP (-(n:Int)),iP d],iP p] (gR (ni (-(n:Int)) (d:Int) p)):=by
 have C6:(canon false (jL n d p K) (nm n d p K)).lA:=rj _ _ _;have hc2:(if(oh (kQ n d K) (jE n d K) (kU n d p K))=true then canon false (jL n d p K) (nm n d p K)else canon false ((jL n d p K)+1) (nm n d p K)).lA:=by split<;>exact rj _ _ _
 rw[Vt jO hd hp gS hK hb hr];exact aj call249 func249 (ae [.c (Eh (- (n:Int)) (d:Int)),ah 9 (!(lv (-(n:Int)) (d:Int))) (by rw[hr];rfl),tF 12 ((p:Int)<8) aD,tF 16 (512<(p:Int)) aD,ah 21 ((-(n:Int))==0) (a7 aD),af [iP (-(n:Int))] (Ms _ aD aD),.o 26 (.int aD:ai (.v (.int .u64 (Int.natAbs (-(n:Int)):Int))) (.v (.int .u64 (n:Int)))),.o 29 (.int (oH _ aD):ai (.v (.int .u64 (IntKind.u64.wrap (d:Int)))) (.v (.int .u64 (d:Int)))),af [.v (.int .u64 (n:Int)),.v (.int .u64 (d:Int)),iP p] (O8 _ _ _ K hn jO hd rn hp gS hK iJ hb),tT 36 ((-(n:Int))<0) aD,af [gM (if(oh (kQ n d K) (jE n d K) (kU n d p K))=true then canon false (jL n d p K) (nm n d p K)else canon false ((jL n d p K)+1) (nm n d p K))] (SQ _ aE),af [gM (canon false (jL n d p K) (nm n d p K))] (SQ _ aE)]) 
def Zz(n d:Int)(p:Nat)(hr:lv n d=true)(hp:8<=p)(gS:p<=512):gJ 249 [.agg [iP n,iP d],iP (p:Int)] (gR (ni n d p)):=by
 obtain⟨r1,r2,r3,r4⟩:=Cb hr;obtain⟨d,rfl⟩:=dm (aD:0<=d);by_cases h0:n=0
 .subst h0;exact ZB d p hr hp gS
 by_cases h1:0<=n
 .obtain ⟨n,rfl⟩:=dm h1;obtain⟨K,k1,k2,k3⟩:=Fw (n:=n) (d:=d) aD aD aD p;exact ZA n d p K aD aD aD aD hp gS k1 k2 k3 hr
 .obtain ⟨m,rfl⟩:∃ m:Nat,n = -(m:Int):=⟨n.natAbs,aD⟩
  obtain⟨K,k1,k2,k3⟩:=Fw (n:=m) (d:=d) aD aD aD p;exact Zy m d p K aD aD aD aD hp gS k1 k2 k3 hr
def Us(d:Dy)(n p:Nat)(x:Nat):PS:=⟨35,true,[(10,.e (iP ((x+1:Nat):Int))),(9,.e (iP ((il d p false x).2))),(8,.box 8 0),(6,.box 6 0),(3,.box 3 0),(1,.e (iP n)),(2,.e (iP p))],[(8,.cells 39 (iy ((il d p false x).1))),(6,.cells 39 aq),(3,.cells 39 (iy d))]⟩
def Ut(d:Dy)(n N p:Nat)(x:Nat):PS:=⟨35,true,[(10,.e (iP ((x+1:Nat):Int))),(9,.e (iP ((il d p false x).2))),(8,.box 8 0),(6,.box 6 0),(3,.box 3 0),(1,.e (iP n)),(2,.e (iP p))],[(8,.cells 39 (iy ((il d p false x).1))),(6,.cells 39 aq),(3,.cells 39 (iy d))]⟩
def Uu(d:Dy)(n p:Nat)(x:Nat):PS:=⟨35,true,[(10,.e (iP ((x+1:Nat):Int))),(9,.e (iP ((il d p true x).2))),(8,.box 8 0),(6,.box 6 0),(3,.box 3 0),(1,.e (iP n)),(2,.e (iP p))],[(8,.cells 39 (iy ((il d p true x).1))),(6,.cells 39 aq),(3,.cells 39 (iy d))]⟩
def Uv(d:Dy)(n N p:Nat)(x:Nat):PS:=⟨35,true,[(10,.e (iP ((x+1:Nat):Int))),(9,.e (iP ((il d p true x).2))),(8,.box 8 0),(6,.box 6 0),(3,.box 3 0),(1,.e (iP n)),(2,.e (iP p))],[(8,.cells 39 (iy ((il d p true x).1))),(6,.cells 39 aq),(3,.cells 39 (iy d))]⟩
noncomputable def M1(t:lS)(xs:List Iv)(p:Nat)(x:Nat):PS:=⟨55,true,[(8,.e (iP x)),(7,.own 10),(3,.box 3 0),(2,.e (iP p))],[(10,.row true 46 ((iC t.gI xs p x).length) 7 (ja (iC t.gI xs p x))),(3,.cells 25 [iP t.gP,mM t.gI,mL t.gN])]⟩
def VT(l:List Iv)(N:Nat)(i:Nat):PS:=⟨15,true,[(3,.e (iP i)),(0,.e (ic l))],[]⟩
def VS(l:List Iv)(i:Nat):PS:=⟨15,true,[(3,.e (iP i)),(0,.e (ic l))],[]⟩
def G7(d:Dy)(p:Nat)(up:Bool)(hd:d.gQ)(ie:8<=p)(gS:p<=512):gJ 372 [gM d,iP p,bP up] (.hH [gM (ji d p up),iP (jl d p up)]):=by
 have hl:=hd.gK;have he:=hd.exp;have hx:(gK d.m).length<=2900 /\ -200000<=d.e/\d.e<=200000:=⟨aD,aD,aD⟩
 exact aj call372 func372 (ae [.c (Ee d d p aE aE aD aD),ah 14 ((0:Int) != 0) aF,.c (LW d p up hx.1 hx.2.1 hx.2.2 aD aD)]) 
def afL(d:Dy)(n p:Nat)(hd:d.gQ)(hn:1<=n)(jO:n<=16)(ie:8<=p)(gS:p<=512)(iJ:∀ x,x<n-1->(il d p false x).2=0):gJ 352 [gM d,iP n,iP p] (.hH [gM (il d p false (n-1)).1,iP (il d p false (n-1)).2]):=
 aj call352 func352 (ae [af [gM d,iP p,bP false] (G7 _ _ _ aE aD aD),.s (Sp.iG (Us d n p) 0 (n-1) aD (λx hx jf=>by
    have lP:=iJ x aD;have hv:=tv d (aD:1<=p) (aD:p<=4096) false x;exact gX (aa [tT 19 (((x+1:Nat):Int)<n) aD,ag 22 (((il d p false x).2)==0) (by rw[lP];rfl),.c (uG ((il d p false x).1) d p false aE aE aD aD),
     gW (((x+1:Nat):Int)+1) aD]<|.e (ae [.o 9 (an (jl (kG ((il d p false x).1) d) p false) ((il d p false (x+1)).2) (by rw[rG lP];rfl)),.b 8 (.iD (by rw[rG lP];rfl):Bx.le (.cells 39 (iy (ji (kG ((il d p false x).1) d) p false))) (.cells 39 (iy ((il d p false (x+1)).1))))])) aG)
  (λhx=>by
    exact gX (ae [tF 19 ((((n-1)+1:Nat):Int)<n) aD]) aG) aK:iF 3 f352 (Us d n p 0) (.exit 0) ⟨35,true,[(9,.e (iP ((il d p false (n-1)).2))),(8,.box 8 0),(6,.box 6 0)],[(8,.cells 39 (iy ((il d p false (n-1)).1))),(6,.cells 39 aq)]⟩) (ae [.o 10 (an 1 ((0+1:Nat):Int) rfl),.o 9 (an (jl d p false) ((il d p false 0).2) rfl),.b 8 (.iD rfl:Bx.le (.cells 39 (iy (ji d p false))) (.cells 39 (iy ((il d p false 0).1))))])]) 
def afM(d:Dy)(n N p:Nat)(hd:d.gQ)(hn:1<=n)(jO:n<=16)(ie:8<=p)(gS:p<=512)(mA:N<n-1)(iJ:∀ x,x<N->(il d p false x).2=0)(hN:(il d p false N).2≠0):gJ 352 [gM d,iP n,iP p] (.hH [gM (il d p false N).1,iP (il d p false N).2]):=
 aj call352 func352 (ae [af [gM d,iP p,bP false] (G7 _ _ _ aE aD aD),.s (Sp.iG (Ut d n N p) 0 N aD (λx hx jf=>by
    have lP:=iJ x aD;have hv:=tv d (aD:1<=p) (aD:p<=4096) false x;exact gX (aa [tT 19 (((x+1:Nat):Int)<n) aD,ag 22 (((il d p false x).2)==0) (by rw[lP];rfl),.c (uG ((il d p false x).1) d p false aE aE aD aD),
     gW (((x+1:Nat):Int)+1) aD]<|.e (ae [.o 9 (an (jl (kG ((il d p false x).1) d) p false) ((il d p false (x+1)).2) (by rw[rG lP];rfl)),.b 8 (.iD (by rw[rG lP];rfl):Bx.le (.cells 39 (iy (ji (kG ((il d p false x).1) d) p false))) (.cells 39 (iy ((il d p false (x+1)).1))))])) aG)
  (λhx=>by
    exact gX (ae [tT 19 (((N+1:Nat):Int)<n) aD,ah 22 (((il d p false N).2)==0) (by simpa using hN)]) aG) aK:iF 3 f352 (Ut d n N p 0) (.exit 0) ⟨35,true,[(9,.e (iP ((il d p false N).2))),(8,.box 8 0),(6,.box 6 0)],[(8,.cells 39 (iy ((il d p false N).1))),(6,.cells 39 aq)]⟩) (ae [.o 10 (an 1 ((0+1:Nat):Int) rfl),.o 9 (an (jl d p false) ((il d p false 0).2) rfl),.b 8 (.iD rfl:Bx.le (.cells 39 (iy (ji d p false))) (.cells 39 (iy ((il d p false 0).1))))])]) 
def B8(d:Dy)(n p:Nat)(hd:d.gQ)(hn:1<=n)(jO:n<=16)(ie:8<=p)(gS:p<=512):gJ 352 [gM d,iP n,iP p] (.hH [gM (il d p false (n-1)).1,iP (il d p false (n-1)).2]):=by
 by_cases h:∃ x,x<n-1/\decide ((il d p false x).2≠0)=true
 .obtain ⟨N,h1,h2,h3⟩:=pX h;have hN:(il d p false N).2≠0:=cK h2;have:=afM d n N p hd hn jO ie gS h1 (λx hx=>by simpa using h3 x hx) hN;have e:=Ec d p false N hN (n-1-N);rw[(aD:N+(n-1-N)=n-1)]at e;rw[e];exact this
 .exact afL d n p hd hn jO ie gS λx hx=>bY λq=>h ⟨x,hx,bk q⟩
def afN(d:Dy)(n p:Nat)(hd:d.gQ)(hn:1<=n)(jO:n<=16)(ie:8<=p)(gS:p<=512)(iJ:∀ x,x<n-1->(il d p true x).2=0):gJ 353 [gM d,iP n,iP p] (.hH [gM (il d p true (n-1)).1,iP (il d p true (n-1)).2]):=
 aj call353 func353 (ae [af [gM d,iP p,bP true] (G7 _ _ _ aE aD aD),.s (Sp.iG (Uu d n p) 0 (n-1) aD (λx hx jf=>by
    have lP:=iJ x aD;have hv:=tv d (aD:1<=p) (aD:p<=4096) true x;exact gX (aa [tT 19 (((x+1:Nat):Int)<n) aD,ag 22 (((il d p true x).2)==0) (by rw[lP];rfl),.c (uG ((il d p true x).1) d p true aE aE aD aD),
     gW (((x+1:Nat):Int)+1) aD]<|.e (ae [.o 9 (an (jl (kG ((il d p true x).1) d) p true) ((il d p true (x+1)).2) (by rw[rG lP];rfl)),.b 8 (.iD (by rw[rG lP];rfl):Bx.le (.cells 39 (iy (ji (kG ((il d p true x).1) d) p true))) (.cells 39 (iy ((il d p true (x+1)).1))))])) aG)
  (λhx=>by
    exact gX (ae [tF 19 ((((n-1)+1:Nat):Int)<n) aD]) aG) aK:iF 3 f353 (Uu d n p 0) (.exit 0) ⟨35,true,[(9,.e (iP ((il d p true (n-1)).2))),(8,.box 8 0),(6,.box 6 0)],[(8,.cells 39 (iy ((il d p true (n-1)).1))),(6,.cells 39 aq)]⟩) (ae [.o 10 (an 1 ((0+1:Nat):Int) rfl),.o 9 (an (jl d p true) ((il d p true 0).2) rfl),.b 8 (.iD rfl:Bx.le (.cells 39 (iy (ji d p true))) (.cells 39 (iy ((il d p true 0).1))))])]) 
def afO(d:Dy)(n N p:Nat)(hd:d.gQ)(hn:1<=n)(jO:n<=16)(ie:8<=p)(gS:p<=512)(mA:N<n-1)(iJ:∀ x,x<N->(il d p true x).2=0)(hN:(il d p true N).2≠0):gJ 353 [gM d,iP n,iP p] (.hH [gM (il d p true N).1,iP (il d p true N).2]):=
 aj call353 func353 (ae [af [gM d,iP p,bP true] (G7 _ _ _ aE aD aD),.s (Sp.iG (Uv d n N p) 0 N aD (λx hx jf=>by
    have lP:=iJ x aD;have hv:=tv d (aD:1<=p) (aD:p<=4096) true x;exact gX (aa [tT 19 (((x+1:Nat):Int)<n) aD,ag 22 (((il d p true x).2)==0) (by rw[lP];rfl),.c (uG ((il d p true x).1) d p true aE aE aD aD),
     gW (((x+1:Nat):Int)+1) aD]<|.e (ae [.o 9 (an (jl (kG ((il d p true x).1) d) p true) ((il d p true (x+1)).2) (by rw[rG lP];rfl)),.b 8 (.iD (by rw[rG lP];rfl):Bx.le (.cells 39 (iy (ji (kG ((il d p true x).1) d) p true))) (.cells 39 (iy ((il d p true (x+1)).1))))])) aG)
  (λhx=>by
    exact gX (ae [tT 19 (((N+1:Nat):Int)<n) aD,ah 22 (((il d p true N).2)==0) (by simpa using hN)]) aG) aK:iF 3 f353 (Uv d n N p 0) (.exit 0) ⟨35,true,[(9,.e (iP ((il d p true N).2))),(8,.box 8 0),(6,.box 6 0)],[(8,.cells 39 (iy ((il d p true N).1))),(6,.cells 39 aq)]⟩) (ae [.o 10 (an 1 ((0+1:Nat):Int) rfl),.o 9 (an (jl d p true) ((il d p true 0).2) rfl),.b 8 (.iD rfl:Bx.le (.cells 39 (iy (ji d p true))) (.cells 39 (iy ((il d p true 0).1))))])]) 
def B9(d:Dy)(n p:Nat)(hd:d.gQ)(hn:1<=n)(jO:n<=16)(ie:8<=p)(gS:p<=512):gJ 353 [gM d,iP n,iP p] (.hH [gM (il d p true (n-1)).1,iP (il d p true (n-1)).2]):=by
 by_cases h:∃ x,x<n-1/\decide ((il d p true x).2≠0)=true
 .obtain ⟨N,h1,h2,h3⟩:=pX h;have hN:(il d p true N).2≠0:=cK h2;have:=afO d n N p hd hn jO ie gS h1 (λx hx=>by simpa using h3 x hx) hN;have e:=Ec d p true N hN (n-1-N);rw[(aD:N+(n-1-N)=n-1)]at e;rw[e];exact this
 .exact afN d n p hd hn jO ie gS λx hx=>bY λq=>h ⟨x,hx,bk q⟩
def afP(x:Iv)(n p:Nat)(hx:x.gQ)(ha:x.all=true)(hn:n<=16)(ie:8<=p)(gS:p<=512):gJ 297 [gR x,iP n,iP p] (gR (lp x n p)):=
 aj call297 func297 (aa [.c (AB (p:Int)),ag 13 (jV (p:Int)) (mm.2 ⟨aD,aD⟩),.c (tw x aE),ah 17 (!x.all) (by rw[ha];rfl),.c n7]<|rQ (gR gL) (gR (lp x n p)) (by unfold lp;rw[bj ha])) 
def afS(x:Iv)(n p:Nat)(hx:x.gQ)(ha:x.all=false)(h0:n=0)(ie:8<=p)(gS:p<=512):gJ 297 [gR x,iP n,iP p] (gR (lp x n p)):=
 aj call297 func297 (aa [.c (AB (p:Int)),ag 13 (jV (p:Int)) (mm.2 ⟨aD,aD⟩),.c (tw x aE),ag 17 (!x.all) (by rw[ha];rfl),tF 22 ((n:Int)<0) aD,tF 26 (16<(n:Int)) aD,ag 30 ((n:Int)==0) (qk h0),af [iP 1] (Hf _ aF),.c (vA (canon false 1 0))]<|rQ (gR (gZ (canon false 1 0))) (gR (lp x n p)) (by unfold lp;rw[bh (by rw[ha];decide),bj h0,Lx])) 
def afQ(x:Iv)(n p:Nat)(hx:x.gQ)(ha:x.all=false)(h0:n≠0)(hn:n<=16)(he:n%2=0)(ie:8<=p)(gS:p<=512):gJ 297 [gR x,iP n,iP p] (gR (lp x n p)):=by
 have va:=qQ hx;obtain⟨w1,w2⟩:=va.kn;exact aj call297 func297 (aa [.c (AB (p:Int)),ag 13 (jV (p:Int)) (mm.2 ⟨aD,aD⟩),.c (tw x aE),ag 17 (!x.all) (by rw[ha];rfl),tF 22 ((n:Int)<0) aD,tF 26 (16<(n:Int)) aD,ah 30 ((n:Int)==0) (mv h0),.a (aD:0<(2:Int)),.o 35 (an (Int.tmod (n:Int) 2) ((n%2:Nat):Int) (by rw[ajM aD];omega)),ag 36 (((n%2:Nat):Int)==0) (qk he),.c (B5 x aE),af [gM ((ib x).lo),iP n,iP p] (B8 _ _ _ aE aD aD aD aD),af [gM ((ib x).lo)] (vC _)]<|.w ((Dy.jc ((ib x).lo))<0)
  (λk1=>aa [tB 50 (bk k1),af [gM ((ib x).lo)] (qp _),af [gM (iB ((ib x).lo)),iP n,iP p] (B9 _ _ _ (pL aE) aD aD aD aD),af [gM ((il (iB ((ib x).lo)) p true (n-1)).1)] (qp _),af [gM ((ib x).hi),iP n,iP p] (B9 _ _ _ aE aD aD aD aD),af [gM ((ib x).hi)] (vC _)]<|.w ((Dy.jc ((ib x).hi))<0)
   (λk2=>aa [tB 73 (bk k2),af [gM ((ib x).hi)] (qp _),af [gM (iB ((ib x).hi)),iP n,iP p] (B8 _ _ _ (pL aE) aD aD aD aD),af [gM ((il (iB ((ib x).hi)) p false (n-1)).1)] (qp _),.c (xH (iB ((il (iB ((ib x).lo)) p true (n-1)).1)) (iB ((il (iB ((ib x).hi)) p false (n-1)).1)) ((il (iB ((ib x).lo)) p true (n-1)).2) ((il (iB ((ib x).hi)) p false (n-1)).2))]<|rQ (gR (mj (iB ((il (iB ((ib x).lo)) p true (n-1)).1)) ((il (iB ((ib x).lo)) p true (n-1)).2) (iB ((il (iB ((ib x).hi)) p false (n-1)).1)) ((il (iB ((ib x).hi)) p false (n-1)).2))) (gR (lp x n p)) (by unfold lp pz;rw[bh (by rw[ha];decide),bh h0];rw[bj he];unfold kD;(rw[bj k1,bj k2])<;>rfl))
   (λk2=>aa [tB 73 (bl k2),.c (xH (iB ((il (iB ((ib x).lo)) p true (n-1)).1)) ((il ((ib x).hi) p true (n-1)).1) ((il (iB ((ib x).lo)) p true (n-1)).2) ((il ((ib x).hi) p true (n-1)).2))]<|rQ (gR (mj (iB ((il (iB ((ib x).lo)) p true (n-1)).1)) ((il (iB ((ib x).lo)) p true (n-1)).2) ((il ((ib x).hi) p true (n-1)).1) ((il ((ib x).hi) p true (n-1)).2))) (gR (lp x n p)) (by unfold lp pz;rw[bh (by rw[ha];decide),bh h0];rw[bj he];unfold kD;(rw[bj k1,bh k2])<;>rfl)))
  (λk1=>aa [tB 50 (bl k1),af [gM ((ib x).hi),iP n,iP p] (B9 _ _ _ aE aD aD aD aD),af [gM ((ib x).hi)] (vC _)]<|.w ((Dy.jc ((ib x).hi))<0)
   (λk2=>aa [tB 73 (bk k2),af [gM ((ib x).hi)] (qp _),af [gM (iB ((ib x).hi)),iP n,iP p] (B8 _ _ _ (pL aE) aD aD aD aD),af [gM ((il (iB ((ib x).hi)) p false (n-1)).1)] (qp _),.c (xH ((il ((ib x).lo) p false (n-1)).1) (iB ((il (iB ((ib x).hi)) p false (n-1)).1)) ((il ((ib x).lo) p false (n-1)).2) ((il (iB ((ib x).hi)) p false (n-1)).2))]<|rQ (gR (mj ((il ((ib x).lo) p false (n-1)).1) ((il ((ib x).lo) p false (n-1)).2) (iB ((il (iB ((ib x).hi)) p false (n-1)).1)) ((il (iB ((ib x).hi)) p false (n-1)).2))) (gR (lp x n p)) (by unfold lp pz;rw[bh (by rw[ha];decide),bh h0];rw[bj he];unfold kD;(rw[bh k1,bj k2])<;>rfl))
   (λk2=>aa [tB 73 (bl k2),.c (xH ((il ((ib x).lo) p false (n-1)).1) ((il ((ib x).hi) p true (n-1)).1) ((il ((ib x).lo) p false (n-1)).2) ((il ((ib x).hi) p true (n-1)).2))]<|rQ (gR (mj ((il ((ib x).lo) p false (n-1)).1) ((il ((ib x).lo) p false (n-1)).2) ((il ((ib x).hi) p true (n-1)).1) ((il ((ib x).hi) p true (n-1)).2))) (gR (lp x n p)) (by unfold lp pz;rw[bh (by rw[ha];decide),bh h0];rw[bj he];unfold kD;(rw[bh k1,bh k2])<;>rfl)))) 
def afR(x:Iv)(n p:Nat)(hx:x.gQ)(ha:x.all=false)(h0:n≠0)(hn:n<=16)(he:¬n%2=0)(ie:8<=p)(gS:p<=512):gJ 297 [gR x,iP n,iP p] (gR (lp x n p)):=by
 have va:=hx;obtain⟨w1,w2⟩:=va.kn;exact aj call297 func297 (aa [.c (AB (p:Int)),ag 13 (jV (p:Int)) (mm.2 ⟨aD,aD⟩),.c (tw x aE),ag 17 (!x.all) (by rw[ha];rfl),tF 22 ((n:Int)<0) aD,tF 26 (16<(n:Int)) aD,ah 30 ((n:Int)==0) (mv h0),.a (aD:0<(2:Int)),.o 35 (an (Int.tmod (n:Int) 2) ((n%2:Nat):Int) (by rw[ajM aD];omega)),ah 36 (((n%2:Nat):Int)==0) (mv he),af [gM x.lo,iP n,iP p] (B8 _ _ _ aE aD aD aD aD),af [gM x.lo] (vC _)]<|.w ((Dy.jc x.lo)<0)
  (λk1=>aa [tB 50 (bk k1),af [gM x.lo] (qp _),af [gM (iB x.lo),iP n,iP p] (B9 _ _ _ (pL aE) aD aD aD aD),af [gM ((il (iB x.lo) p true (n-1)).1)] (qp _),af [gM x.hi,iP n,iP p] (B9 _ _ _ aE aD aD aD aD),af [gM x.hi] (vC _)]<|.w ((Dy.jc x.hi)<0)
   (λk2=>aa [tB 73 (bk k2),af [gM x.hi] (qp _),af [gM (iB x.hi),iP n,iP p] (B8 _ _ _ (pL aE) aD aD aD aD),af [gM ((il (iB x.hi) p false (n-1)).1)] (qp _),.c (xH (iB ((il (iB x.lo) p true (n-1)).1)) (iB ((il (iB x.hi) p false (n-1)).1)) ((il (iB x.lo) p true (n-1)).2) ((il (iB x.hi) p false (n-1)).2))]<|rQ (gR (mj (iB ((il (iB x.lo) p true (n-1)).1)) ((il (iB x.lo) p true (n-1)).2) (iB ((il (iB x.hi) p false (n-1)).1)) ((il (iB x.hi) p false (n-1)).2))) (gR (lp x n p)) (by unfold lp pz;rw[bh (by rw[ha];decide),bh h0];rw[bh he];unfold kD;(rw[bj k1,bj k2])<;>rfl))
   (λk2=>aa [tB 73 (bl k2),.c (xH (iB ((il (iB x.lo) p true (n-1)).1)) ((il x.hi p true (n-1)).1) ((il (iB x.lo) p true (n-1)).2) ((il x.hi p true (n-1)).2))]<|rQ (gR (mj (iB ((il (iB x.lo) p true (n-1)).1)) ((il (iB x.lo) p true (n-1)).2) ((il x.hi p true (n-1)).1) ((il x.hi p true (n-1)).2))) (gR (lp x n p)) (by unfold lp pz;rw[bh (by rw[ha];decide),bh h0];rw[bh he];unfold kD;(rw[bj k1,bh k2])<;>rfl)))
  (λk1=>aa [tB 50 (bl k1),af [gM x.hi,iP n,iP p] (B9 _ _ _ aE aD aD aD aD),af [gM x.hi] (vC _)]<|.w ((Dy.jc x.hi)<0)
   (λk2=>aa [tB 73 (bk k2),af [gM x.hi] (qp _),af [gM (iB x.hi),iP n,iP p] (B8 _ _ _ (pL aE) aD aD aD aD),af [gM ((il (iB x.hi) p false (n-1)).1)] (qp _),.c (xH ((il x.lo p false (n-1)).1) (iB ((il (iB x.hi) p false (n-1)).1)) ((il x.lo p false (n-1)).2) ((il (iB x.hi) p false (n-1)).2))]<|rQ (gR (mj ((il x.lo p false (n-1)).1) ((il x.lo p false (n-1)).2) (iB ((il (iB x.hi) p false (n-1)).1)) ((il (iB x.hi) p false (n-1)).2))) (gR (lp x n p)) (by unfold lp pz;rw[bh (by rw[ha];decide),bh h0];rw[bh he];unfold kD;(rw[bh k1,bj k2])<;>rfl))
   (λk2=>aa [tB 73 (bl k2),.c (xH ((il x.lo p false (n-1)).1) ((il x.hi p true (n-1)).1) ((il x.lo p false (n-1)).2) ((il x.hi p true (n-1)).2))]<|rQ (gR (mj ((il x.lo p false (n-1)).1) ((il x.lo p false (n-1)).2) ((il x.hi p true (n-1)).1) ((il x.hi p true (n-1)).2))) (gR (lp x n p)) (by unfold lp pz;rw[bh (by rw[ha];decide),bh h0];rw[bh he];unfold kD;(rw[bh k1,bh k2])<;>rfl)))) 
def Ur(x:Iv)(n p:Nat)(hx:x.gQ)(hn:n<=16)(ie:8<=p)(gS:p<=512):gJ 297 [gR x,iP (n:Int),iP (p:Int)] (gR (lp x n p)):=by
 cases ha:x.all with
 |true=>exact afP x n p hx ha hn ie gS
 |false=>
  by_cases h0:n=0
  .exact afS x n p hx ha h0 ie gS
  .by_cases he:n%2=0
   .exact afQ x n p hx ha h0 hn he ie gS
   .exact afR x n p hx ha h0 hn he ie gS
def Xe(o:kq)(x y:Iv)(p:Nat)(hx:x.gQ)(hy:y.gQ)(r1:3<=o.kind)(r2:o.kind<=8)(r3:o.n<=16)(ie:8<=p)(gS:p<=512):gJ 250 [iP o.kind,iP o.n,gR x,gR y,iP p] (gR (ld o x y p)):=
 aj call250 func250 (.w ((o.kind:Int)=3)
  (λk1=>aa [tB 13 (a8 k1),.c (xG x y p aE aE aD aD)]<|rQ (gR (jx x y p)) (gR (ld o x y p)) (by unfold ld;simp[(aD:o.kind=3)]))
  (λk1=>aa [tB 13 (a7 k1)]<|.w ((o.kind:Int)=4)
   (λk2=>aa [tB 19 (a8 k2),.c (B6 x y p aE aE aD aD)]<|rQ (gR (je x y p)) (gR (ld o x y p)) (by unfold ld;simp[(aD:¬o.kind=3),(aD:o.kind=4)]))
   (λk2=>aa [tB 19 (a7 k2)]<|.w ((o.kind:Int)=5)
    (λk3=>aa [tB 25 (a8 k3),.c (qH x y p aE aE aD aD)]<|rQ (gR (ia x y p)) (gR (ld o x y p)) (by unfold ld;simp[(aD:¬o.kind=3),(aD:¬o.kind=4),(aD:o.kind=5)]))
    (λk3=>aa [tB 25 (a7 k3)]<|.w ((o.kind:Int)=6)
     (λk4=>aa [tB 31 (a8 k4),.c (qn x y p aE aE aD aD)]<|rQ (gR (ik x y p)) (gR (ld o x y p)) (by unfold ld;simp[(aD:¬o.kind=3),(aD:¬o.kind=4),(aD:¬o.kind=5),(aD:o.kind=6)]))
     (λk4=>aa [tB 31 (a7 k4)]<|.w ((o.kind:Int)=7)
      (λk5=>aa [tB 37 (a8 k5),.c (LX x aE)]<|rQ (gR (oC x)) (gR (ld o x y p)) (by unfold ld;simp[(aD:¬o.kind=3),(aD:¬o.kind=4),(aD:¬o.kind=5),(aD:¬o.kind=6),(aD:o.kind=7)]))
      (λk5=>aa [tB 37 (a7 k5)]<|.w ((o.kind:Int)=8)
       (λk6=>aa [tB 41 (a8 k6),af [gR x,iP o.n,iP p] (Ur _ _ _ aE aD aD aD)]<|rQ (gR (lp x o.n p)) (gR (ld o x y p)) (by unfold ld;simp[(aD:¬o.kind=3),(aD:¬o.kind=4),(aD:¬o.kind=5),(aD:¬o.kind=6),(aD:¬o.kind=7),(aD:o.kind=8)]))
       (λk6=>.x aD))))))) 
def W8{o:kq}(h:¬o.kind<=6)(x y z:Iv)(p:Nat):ld o x y p=ld o x z p:=by
 unfold ld;have h3:¬o.kind=3:= aD ;have h4:¬o.kind=4:= aD ;have h5:¬o.kind=5:= aD ;have h6:¬o.kind=6:= aD ;rw[bh h3,bh h4,bh h5,bh h6,bh h3,bh h4,bh h5,bh h6]
def Xa{o:kq}(h:o.kind≠1)(l:List Iv)(p:Nat):qv o l p=ld o (l.getD o.a gL) (l.getD o.b gL) p:=by
 unfold qv EW;rw[bh h];by_cases h6:o.kind<=6
 .rw [bk h6];rfl
 .rw [bl h6];exact W8 h6 _ _ _ _
def mP.XB{o:kq}{m:Nat}(h:mP o m)(hm:1<=m):o.b<m:=by
 have:=h.b;split at this<;>omega
def ab6{a q:List Iv}:E.le (.sl true (0+a.length+q.length) 7 λi j=>if i<0+a.length then(λi_ j_=>if i_<0 then(λi_ j_=>([]:List E).getD (i_*7+j_) (.v (.bool false))) i_ j_ else(E.ke (ic a)) (i_-0) j_) i j else(E.ke (ic q)) (i-(0+a.length)) j) (ic (a++q)):=by
 have e:ic (a++q) = .sl true (0+a.length+q.length) 7 (ja (a++q)):=by unfold ic;rw[cv,bU]
 rw[e];refine .sl λi j hi hj=>⟨.iD ?_,yA _ _ hj⟩
 rw[bU];by_cases h:i<a.length
 .rw [bj h];show(iA (a.getD i gL)).getD j .any=(iA ((a++q).getD i gL)).getD j .any;congr 2;simp[bn,en h]
 .rw [bh h];show(iA (q.getD (i-a.length) gL)).getD j .any=(iA ((a++q).getD i gL)).getD j .any;congr 2;simp[bn,eD (aD:a.length<=i)]
def W4(t:lS)(xs:List Iv)(p:Nat)(h:uQ t)(hr:po t)(h1:1<=xs.length)(hx:xs.length=t.gP)(hv:oO xs)(ie:8<=p)(gS:p<=512):gJ 174 [tE t,ic xs,iP p] (ic (iC t.gI xs p t.gI.length)):=by
 have h8:=h.gP;have xk:=h.gI;exact aj call174 func174 (ae [.bo,.a (aD:(0+xs.length)*88<=140737488355328),.s (Sp.iG (M1 t xs p) 0 t.gI.length aD (λx hx jf=>by
    have im:=h.op x aD;have th:=AP t.gI hv (aD:1<=p) (aD:p<=4096) x;have zL:=wM t.gI xs p x;have w1:=th (t.gI.getD x ig).a;by_cases kx:((t.gI.getD x ig)).kind=1
    .have qe:((t.gI.getD x ig)).kind=1:=kx;obtain⟨o1,o2,o3,Bz⟩:=im.num qe;have nG:qv (t.gI.getD x ig) (iC t.gI xs p x) p=(ni (t.gI.getD x ig).cn (t.gI.getD x ig).cd p):=by unfold qv;rw[bj qe]
     have qC:=nu (ni (t.gI.getD x ig).cn (t.gI.getD x ig).cd p);exact gX (aa [tT 17 ((x:Int)<t.gI.length) aD,iX (x:Int) (t.gI.length) aD,ag 27 (((t.gI.getD x ig).kind:Int)==1) (a8 aD),af [.agg [iP ((t.gI.getD x ig).cn),iP ((t.gI.getD x ig).cd)],iP p] (Zz _ _ _ aE aD aD),.o 33 (.e (lD _):ai (.sl true 1 7 λi_ j_=>(iA (ni ((t.gI.getD x ig).cn) ((t.gI.getD x ig).cd) p)).getD (i_*7+j_) (.v (.bool false))) (ic [ni ((t.gI.getD x ig).cn) ((t.gI.getD x ig).cd) p])),.a (aD:((iC t.gI xs p x).length+[ni ((t.gI.getD x ig).cn) ((t.gI.getD x ig).cd) p].length)*88<=140737488355328),gW ((x:Int)+1) aD]<|.e (ae [.b 10 (ED rfl rfl nG:Bx.le (.row true 46 ((iC t.gI xs p x).length+[ni ((t.gI.getD x ig).cn) ((t.gI.getD x ig).cd) p].length) 7 (λi_ j_=>if i_<(iC t.gI xs p x).length then(ja (iC t.gI xs p x)) i_ j_ else(E.ke (ic [ni ((t.gI.getD x ig).cn) ((t.gI.getD x ig).cd) p])) (i_-(iC t.gI xs p x).length) j_)) (.row true 46 ((iC t.gI xs p (x+1)).length) 7 (ja (iC t.gI xs p (x+1)))))])) aG 
    .have xg:((t.gI.getD x ig)).kind≠1:=kx;have nG:qv (t.gI.getD x ig) (iC t.gI xs p x) p=(ld (t.gI.getD x ig) ((iC t.gI xs p x).getD ((t.gI.getD x ig).a) gL) ((iC t.gI xs p x).getD ((t.gI.getD x ig).b) gL) p):=Xa xg _ _;have hk3:=im.k3.resolve_left xg;have sY:=hr x;have oa:=im.CC xg;have ob:=im.XB aD;have w2:=th (t.gI.getD x ig).b;have o8:=GY im;have qC:=nu (ld (t.gI.getD x ig) ((iC t.gI xs p x).getD ((t.gI.getD x ig).a) gL) ((iC t.gI xs p x).getD ((t.gI.getD x ig).b) gL) p);exact gX (aa [tT 17 ((x:Int)<t.gI.length) aD,iX (x:Int) (t.gI.length) aD,ah 27 (((t.gI.getD x ig).kind:Int)==1) (a7 aD),
      iX ((t.gI.getD x ig).a:Int) ((iC t.gI xs p x).length) aD,.a (aD:(t.gI.getD x ig).a<(iC t.gI xs p x).length),iX ((t.gI.getD x ig).b:Int) ((iC t.gI xs p x).length) aD,.a (aD:(t.gI.getD x ig).b<(iC t.gI xs p x).length),af [iP ((t.gI.getD x ig).kind:Int),iP ((t.gI.getD x ig).n:Int),gR ((iC t.gI xs p x).getD (t.gI.getD x ig).a gL),gR ((iC t.gI xs p x).getD (t.gI.getD x ig).b gL),iP p] (Xe (t.gI.getD x ig) _ _ _ w1 w2 aD aD aD aD aD),.o 52 (.e (lD _):ai (.sl true 1 7 λi_ j_=>(iA (ld (t.gI.getD x ig) ((iC t.gI xs p x).getD (t.gI.getD x ig).a gL) ((iC t.gI xs p x).getD (t.gI.getD x ig).b gL) p)).getD (i_*7+j_) (.v (.bool false))) (ic [ld (t.gI.getD x ig) ((iC t.gI xs p x).getD (t.gI.getD x ig).a gL) ((iC t.gI xs p x).getD (t.gI.getD x ig).b gL) p])),.a (aD:((iC t.gI xs p x).length+[ld (t.gI.getD x ig) ((iC t.gI xs p x).getD (t.gI.getD x ig).a gL) ((iC t.gI xs p x).getD (t.gI.getD x ig).b gL) p].length)*88<=140737488355328),
      gW ((x:Int)+1) aD]<|.e (ae [.b 10 (ED rfl rfl nG:Bx.le (.row true 46 ((iC t.gI xs p x).length+[ld (t.gI.getD x ig) ((iC t.gI xs p x).getD (t.gI.getD x ig).a gL) ((iC t.gI xs p x).getD (t.gI.getD x ig).b gL) p].length) 7 (λi_ j_=>if i_<(iC t.gI xs p x).length then(ja (iC t.gI xs p x)) i_ j_ else(E.ke (ic [ld (t.gI.getD x ig) ((iC t.gI xs p x).getD (t.gI.getD x ig).a gL) ((iC t.gI xs p x).getD (t.gI.getD x ig).b gL) p])) (i_-(iC t.gI xs p x).length) j_)) (.row true 46 ((iC t.gI xs p (x+1)).length) 7 (ja (iC t.gI xs p (x+1)))))])) aG)
  (λhx=>by
    exact gX (aa [tF 17 ((t.gI.length:Int)<t.gI.length) aD,.z 10]<|.e (ae [.o 7 (.e (sC aJ):ai (.sl true ((iC t.gI xs p t.gI.length).length) 7 (ja (iC t.gI xs p t.gI.length))) (ic (iC t.gI xs p t.gI.length)))])) aG) aK:iF 3 f174 (M1 t xs p 0) (.exit 0) ⟨55,true,[(7,.e (ic (iC t.gI xs p t.gI.length)))],[]⟩) (ae [.b 10 (NI rfl λi j hi hj=>⟨rfl,yA _ _ hj⟩:Bx.le (.row true 46 (0+xs.length) 7 (λi_ j_=>if i_<0 then(λi_ j_=>([]:List E).getD (i_*7+j_) (.v (.bool false))) i_ j_ else(E.ke (ic xs)) (i_-0) j_)) (.row true 46 ((iC t.gI xs p 0).length) 7 (ja (iC t.gI xs p 0))))])]) 
def KO(s:lX)(b:List Iv)(h1:b.length<=400)(h2:s.params.length<=400):gJ 101 [lq s,ic b] (ic (b++s.params)):=
 aj call101 func101 (aa [.bo,.a (aD:(0+b.length)*88<=140737488355328),.a (aD:((0+b.length)+s.params.length)*88<=140737488355328)]<|rR (ic (b++s.params)) (ab6:E.le (.sl true ((0+b.length)+s.params.length) 7 (λi_ j_=>if i_<(0+b.length)then(λi_ j_=>if i_<0 then(λi_ j_=>([]:List E).getD (i_*7+j_) (.v (.bool false))) i_ j_ else(E.ke (ic b)) (i_-0) j_) i_ j_ else(E.ke (ic s.params)) (i_-(0+b.length)) j_)) (ic (b++s.params)))) 
def ahX(l:List Iv)(hl:l.length<=1000)(N:Nat)(mA:N<l.length)(iJ:∀ i,i<N->(l.getD i gL).all=false)(hN:(l.getD N gL).all=true):gJ 102 [ic l] (bP true):=
 aj call102 func102 (ae [.s (Sp.iG (VT l N) 0 N aD (λi hi rq=>by
    exact gX (ae [tT 7 ((i:Int)<l.length) aD,iX (i:Int) (l.length) aD,ah 14 ((l.getD i gL).all) (iJ i aD),gW ((i:Int)+1) aD]) aG)
  (λhi=>by
    exact gX (ae [tT 7 ((N:Int)<l.length) aD,iX (N:Int) (l.length) aD,ag 14 ((l.getD N gL).all) hN]) aG) aK:iF 2 f102 (VT l N 0) .ret ⟨15,true,[(2,.e (bP true))],[]⟩) .nil]) 
def ahW(l:List Iv)(hl:l.length<=1000)(iJ:∀ i,i<l.length->(l.getD i gL).all=false):gJ 102 [ic l] (bP false):=
 aj call102 func102 (ae [.s (Sp.iG (VS l) 0 l.length aD (λi hi rq=>by
    exact gX (ae [tT 7 ((i:Int)<l.length) aD,iX (i:Int) (l.length) aD,ah 14 ((l.getD i gL).all) (iJ i aD),gW ((i:Int)+1) aD]) aG)
  (λhi=>by
    exact gX (ae [tF 7 ((l.length:Int)<l.length) aD]) aG) aK:iF 2 f102 (VS l 0) (.exit 0) ⟨15,true,[],[]⟩) .nil]) 
def Cr(l:List Iv)(hl:l.length<=1000):gJ 102 [ic l] (bP (mI l)):=by
 cases h:mI l with
 |false=>exact ahW l hl λi hi=>by simpa using List.any_eq_false.1 h i (bD.2 hi)
 |true=>
  unfold mI at h;rw[cE]at h;obtain⟨i,hi,hb⟩:=h;obtain⟨N,h1,h2,h3⟩:=pX (p:=λi=>(l.getD i gL).all) ⟨i,bD.1 hi,hb⟩;exact ahX l hl N h1 h3 h2
def JG(s:lX)(b:List Iv)(p:Nat)(iN:gJ 31 [lq s,ic b] (bP true))(ie:8<=p)(gS:p<=512):gJ 99 [lq s,ic b,iP p] (iP 0):=
 aj call99 func99 (ae [af [lq s,ic b] iN,af [iP p] (rI _),ag 12 (jV (p:Int)) (mm.2 ⟨aD,aD⟩)]) 
def N9(t:lS)(l:List Iv)(i p:Nat)(x:Nat):PS:=⟨83,true,[(9,.own 9),(10,.e (iP x)),(4,.box 4 0),(1,.e (ic l)),(2,.e (iP i)),(3,.e (iP p))],[(9,.row true 46 ((kX t.gP i x).length) 7 (ja (kX t.gP i x))),(4,.cells 25 [iP t.gP,mM t.gI,mL t.gN])]⟩
noncomputable def Oa(t:lS)(l:List Iv)(i p:Nat)(x:Nat):PS:=⟨83,true,[(11,.e (iP x)),(9,.own 9),(4,.box 4 0),(1,.e (ic l)),(3,.e (iP p))],[(9,.row true 46 ((iV t l i p x).length) 7 (ja (iV t l i p x))),(4,.cells 25 [iP t.gP,mM t.gI,mL t.gN])]⟩
noncomputable def Wa(t:lS)(xs:List Iv)(p m:Nat)(x:Nat):PS:=⟨79,true,[(11,.own 11),(13,.e (iP x)),(12,.own 24),(10,.e (ic (iC t.gI xs p t.gI.length))),(4,.box 4 0),(2,.e (iP m)),(3,.e (iP p))],[(11,.row true 46 x 7 (ja ((List.range x).map (λj_=>(iC t.gI xs p t.gI.length).getD (t.gN.getD j_ 0) gL)))),(24,.iH true 26 46 t.gN.length 7 (λ_=>0) (λ_ _ _=>.any) .none),(4,.cells 25 [iP t.gP,mM t.gI,mL t.gN])]⟩
noncomputable def V8(t:lS)(xs:List Iv)(p m:Nat)(x:Nat):PS:=⟨79,true,[(14,.e (iP x)),(11,.e (ic ((List.range t.gN.length).map (λj_=>(iC t.gI xs p t.gI.length).getD (t.gN.getD j_ 0) gL)))),(12,.own 24),(10,.e (ic (iC t.gI xs p t.gI.length))),(4,.box 4 0),(2,.e (iP m)),(3,.e (iP p))],[(24,.iH true 26 46 t.gN.length 7 (iS (jT t.gN.length (kN t xs p) x 0)) (jH (jT t.gN.length (kN t xs p) x 0)) .none),(4,.cells 25 [iP t.gP,mM t.gI,mL t.gN])]⟩
noncomputable def V9(t:lS)(xs:List Iv)(p m x:Nat)(k:Nat):PS:=⟨79,true,[(16,.e (iP k)),(15,.e (ic (iV t (iC t.gI xs p t.gI.length) x p t.gI.length))),(14,.e (iP x)),(11,.e (ic ((List.range t.gN.length).map (λj_=>(iC t.gI xs p t.gI.length).getD (t.gN.getD j_ 0) gL)))),(12,.own 24),(10,.e (ic (iC t.gI xs p t.gI.length))),(4,.box 4 0),(2,.e (iP m)),(3,.e (iP p))],[(24,.iH true 26 46 t.gN.length 7 (iS (jT t.gN.length (kN t xs p) x k)) (jH (jT t.gN.length (kN t xs p) x k)) .none),(4,.cells 25 [iP t.gP,mM t.gI,mL t.gN])]⟩
noncomputable def RH(s:lX)(b:List Iv)(p:Nat)(N:Nat)(i:Nat):PS:=⟨45,true,[(11,.e (iP i)),(10,.e (gV (lG s.tape (b++s.params) p s.ij)))],[]⟩
noncomputable def RL(s:lX)(b:List Iv)(p:Nat)(i:Nat):PS:=⟨45,true,[(11,.e (iP i)),(10,.e (gV (lG s.tape (b++s.params) p s.ij)))],[]⟩
def Sc(m:List (List Iv))(x:Nat):PS:=⟨61,true,[(3,.e (iP x)),(0,.e (gV m))],[]⟩
def Sb(m:List (List Iv))(x:Nat)(y:Nat):PS:=⟨61,true,[(4,.e (iP y)),(3,.e (iP x)),(0,.e (gV m))],[]⟩
noncomputable def Ox(s:lX)(b:List Iv)(p:Nat)(x:Nat):PS:=⟨45,true,[(11,.e (iP ((x+1:Nat):Int))),(10,.box 10 0),(8,.e (gV (lU s b p))),(6,.box 6 0),(2,.e (iP p))],[(10,.cells 46 (iA (rK (lU s b p) p x))),(6,.cells 46 ar)]⟩
def EG(n:Nat)(h:n<4294967296):gJ 251 [iP n] (gR (gY (n:Int))):=
 aj call251 func251 (aa [af [iP n] (Hf _ aD),.c (vA (canon false n 0))]<|rQ (gR (gZ (canon false n 0))) (gR (gY (n:Int))) (by unfold gY;rw[tm])) 
def afl(o:kq)(v a b da db:Iv)(p:Nat)(hv:v.gQ)(ha:a.gQ)(hb:b.gQ)(hd:da.gQ)(he:db.gQ)(ie:8<=p)(gS:p<=512)(mC:v.all=true):gJ 252 [pN o,gR v,gR a,gR b,gR da,gR db,iP p] (gR gL):=
 aj call252 func252 (aa [ag 16 v.all mC]<|rQ (gR v) (gR gL) (by rw[ivW hv mC])) 
def afe(o:kq)(v a b da db:Iv)(p:Nat)(hv:v.gQ)(ha:a.gQ)(hb:b.gQ)(hd:da.gQ)(he:db.gQ)(ie:8<=p)(gS:p<=512)(mC:v.all=false)(hk:o.kind=3):gJ 252 [pN o,gR v,gR a,gR b,gR da,gR db,iP p] (gR (jx da db p)):=by
 have q1:1<=p:= aD ;have q2:p<=4096:= aD ;exact aj call252 func252 (ae [ah 16 v.all mC,ag 21 ((o.kind:Int)==3) (a8 aD),.c (xG da db p aE aE aD aD)]) 
def aff(o:kq)(v a b da db:Iv)(p:Nat)(hv:v.gQ)(ha:a.gQ)(hb:b.gQ)(hd:da.gQ)(he:db.gQ)(ie:8<=p)(gS:p<=512)(mC:v.all=false)(hk:o.kind=4):gJ 252 [pN o,gR v,gR a,gR b,gR da,gR db,iP p] (gR (je da db p)):=by
 have q1:1<=p:= aD ;have q2:p<=4096:= aD ;exact aj call252 func252 (ae [ah 16 v.all mC,ah 21 ((o.kind:Int)==3) (a7 aD),ag 27 ((o.kind:Int)==4) (a8 aD),.c (B6 da db p aE aE aD aD)]) 
def afi(o:kq)(v a b da db:Iv)(p:Nat)(hv:v.gQ)(ha:a.gQ)(hb:b.gQ)(hd:da.gQ)(he:db.gQ)(ie:8<=p)(gS:p<=512)(mC:v.all=false)(hk:o.kind=7):gJ 252 [pN o,gR v,gR a,gR b,gR da,gR db,iP p] (gR (oC da)):=by
 have q1:1<=p:= aD ;have q2:p<=4096:= aD ;exact aj call252 func252 (ae [ah 16 v.all mC,ah 21 ((o.kind:Int)==3) (a7 aD),ah 27 ((o.kind:Int)==4) (a7 aD),ag 33 ((o.kind:Int)==7) (a8 aD),.c (LX da aE)]) 
def afg(o:kq)(v a b da db:Iv)(p:Nat)(hv:v.gQ)(ha:a.gQ)(hb:b.gQ)(hd:da.gQ)(he:db.gQ)(ie:8<=p)(gS:p<=512)(mC:v.all=false)(hk:o.kind=5):gJ 252 [pN o,gR v,gR a,gR b,gR da,gR db,iP p] (gR (jx (ia da b p) (ia a db p) p)):=by
 have q1:1<=p:= aD ;have q2:p<=4096:= aD ;exact aj call252 func252 (ae [ah 16 v.all mC,ah 21 ((o.kind:Int)==3) (a7 aD),ah 27 ((o.kind:Int)==4) (a7 aD),ah 33 ((o.kind:Int)==7) (a7 aD),ag 37 ((o.kind:Int)==5) (a8 aD),.c (qH da b p aE aE aD aD),.c (qH a db p aE aE aD aD),.c (xG (ia da b p) (ia a db p) p (ml _ _ q1 q2) (ml _ _ q1 q2) aD aD)]) 
def afh(o:kq)(v a b da db:Iv)(p:Nat)(hv:v.gQ)(ha:a.gQ)(hb:b.gQ)(hd:da.gQ)(he:db.gQ)(ie:8<=p)(gS:p<=512)(mC:v.all=false)(hk:o.kind=6):gJ 252 [pN o,gR v,gR a,gR b,gR da,gR db,iP p] (gR (ik (je da (ia v db p) p) b p)):=by
 have q1:1<=p:= aD ;have q2:p<=4096:= aD ;exact aj call252 func252 (ae [ah 16 v.all mC,ah 21 ((o.kind:Int)==3) (a7 aD),ah 27 ((o.kind:Int)==4) (a7 aD),ah 33 ((o.kind:Int)==7) (a7 aD),ah 37 ((o.kind:Int)==5) (a7 aD),ag 49 ((o.kind:Int)==6) (a8 aD),.c (qH v db p aE aE aD aD),.c (B6 da (ia v db p) p aE (ml _ _ q1 q2) aD aD),.c (qn (je da (ia v db p) p) b p (pU hd (rZ (ml _ _ q1 q2)) q1 q2) aE aD aD)]) 
def afj(o:kq)(v a b da db:Iv)(p:Nat)(hv:v.gQ)(ha:a.gQ)(hb:b.gQ)(hd:da.gQ)(he:db.gQ)(ie:8<=p)(gS:p<=512)(mC:v.all=false)(hk:o.kind=8)(h0:o.n=0):gJ 252 [pN o,gR v,gR a,gR b,gR da,gR db,iP p] (gR (ia (gY 0) da p)):=by
 have q1:1<=p:= aD ;have q2:p<=4096:= aD ;have um:=D2;exact aj call252 func252 (ae [ah 16 v.all mC,ah 21 ((o.kind:Int)==3) (a7 aD),ah 27 ((o.kind:Int)==4) (a7 aD),ah 33 ((o.kind:Int)==7) (a7 aD),ah 37 ((o.kind:Int)==5) (a7 aD),ah 49 ((o.kind:Int)==6) (a7 aD),ag 61 ((o.kind:Int)==8) (a8 aD),ag 64 ((o.n:Int)==0) (qk h0),.c (EG 0 aD),.c (qH (gY 0) da p um aE aD aD)]) 
def afk(o:kq)(v a b da db:Iv)(p:Nat)(hv:v.gQ)(ha:a.gQ)(hb:b.gQ)(hd:da.gQ)(he:db.gQ)(ie:8<=p)(gS:p<=512)(mC:v.all=false)(hk:o.kind=8)(h0:o.n≠0)(hn:o.n<=16):gJ 252 [pN o,gR v,gR a,gR b,gR da,gR db,iP p] (gR (ia (ia (gY (o.n:Int)) (lp a (o.n-1) p) p) da p)):=by
 have q1:1<=p:= aD ;have q2:p<=4096:= aD ;have um:=GQ (aD:o.n<4294967296);have Kz:=LN ha (o.n-1) q1 q2;exact aj call252 func252 (ae [ah 16 v.all mC,ah 21 ((o.kind:Int)==3) (a7 aD),ah 27 ((o.kind:Int)==4) (a7 aD),ah 33 ((o.kind:Int)==7) (a7 aD),ah 37 ((o.kind:Int)==5) (a7 aD),ah 49 ((o.kind:Int)==6) (a7 aD),ag 61 ((o.kind:Int)==8) (a8 aD),ah 64 ((o.n:Int)==0) (mv h0),.c (EG o.n aD),gW ((o.n:Int)-1) aD,.o 75 (an ((o.n:Int)-1) ((o.n-1:Nat):Int) aD),af [gR a,iP ((o.n-1:Nat):Int),iP p] (Ur _ _ _ aE aD aD aD),.c (qH (gY (o.n:Int)) (lp a (o.n-1) p) p um Kz aD aD),.c (qH (ia (gY (o.n:Int)) (lp a (o.n-1) p) p) da p (ml _ _ q1 q2) aE aD aD)]) 
def afm(o:kq)(v a b da db:Iv)(p:Nat)(hv:v.gQ)(ha:a.gQ)(hb:b.gQ)(hd:da.gQ)(he:db.gQ)(ie:8<=p)(gS:p<=512)(hn:o.n<=16)(h1:3<=o.kind)(h2:o.kind<=8):gJ 252 [pN o,gR v,gR a,gR b,gR da,gR db,iP p] (gR (if v.all then gL else nY o v a b da db p)):=by
 cases mC:v.all with
 |true=>exact afl o v a b da db p hv ha hb hd he ie gS mC
 |false=>
  rw[bh aF];have:o.kind=3\/o.kind=4\/o.kind=5\/o.kind=6\/o.kind=7\/o.kind=8:= aD ;unfold nY;rcases this with h|h|h|h|h|h
  .rw [bh aD,bj h];exact afe o v a b da db p hv ha hb hd he ie gS mC h
  .rw [bh aD,bh aD,bj h];exact aff o v a b da db p hv ha hb hd he ie gS mC h
  .rw [bh aD,bh aD,bh aD,bj h];exact afg o v a b da db p hv ha hb hd he ie gS mC h
  .rw [bh aD,bh aD,bh aD,bh aD,bj h];exact afh o v a b da db p hv ha hb hd he ie gS mC h
  .rw [bh aD,bh aD,bh aD,bh aD,bh aD,bj h];exact afi o v a b da db p hv ha hb hd he ie gS mC h
  .rw [bh aD,bh aD,bh aD,bh aD,bh aD,bh aD,bj h];by_cases h0:o.n=0
   .rw [bj h0];exact afj o v a b da db p hv ha hb hd he ie gS mC h h0
   .rw [bh h0];exact afk o v a b da db p hv ha hb hd he ie gS mC h h0 hn
def YG{o:kq}{v:Iv}(hv:v.all=false)(hk:o.kind=1)(l c:List Iv)(p:Nat):rk o v l c p=gY 0:=by
 unfold rk;rw[bh (by rw[hv];decide)];unfold nY;rw[bj hk]
def Yp(t:lS)(l:List Iv)(i p:Nat)(h:uQ t)(hr:po t)(h1:1<=t.gP)(hl:l.length=t.gP+t.gI.length)(hv:oO l)(rz:∀ k,k<t.gI.length->(t.gI.getD k ig).kind=1->(l.getD (t.gP+k) gL).all=false)(ie:8<=p)(gS:p<=512):gJ 175 [tE t,ic l,iP i,iP p] (ic (iV t l i p t.gI.length)):=by
 have h8:=h.gP;have xk:=h.gI;exact aj call175 func175 (ae [.y 9 9 true 46 7 (ja (kX t.gP i 0)),.s (Sp.iG (N9 t l i p) 0 t.gP aD (λx hx jf=>by
    have zL:=Ik t.gP i x;exact gX (aa [tT 16 ((x:Int)<t.gP) aD]<|.w (x=i)
     (λzK=>by
      have nG:(if x=i then gY 1 else gY 0)=gY 1:=by rw[bj zK]
      have qC:=nu (gY 1);exact aa [ag 21 ((x:Int)==i) (a8 aD),.c (EG 1 aD),.o 24 (.e (lD _):ai (.sl true 1 7 λi_ j_=>(iA (gY 1)).getD (i_*7+j_) (.v (.bool false))) (ic [gY 1])),.a (aD:((kX t.gP i x).length+[gY 1].length)*88<=140737488355328),
       gW ((x:Int)+1) aD]<|.e (ae [.b 9 (Il rfl rfl nG:Bx.le (.row true 46 ((kX t.gP i x).length+[gY 1].length) 7 (λi_ j_=>if i_<(kX t.gP i x).length then(ja (kX t.gP i x)) i_ j_ else(E.ke (ic [gY 1])) (i_-(kX t.gP i x).length) j_)) (.row true 46 ((kX t.gP i (x+1)).length) 7 (ja (kX t.gP i (x+1)))))]))
     (λzK=>by
      have nG:(if x=i then gY 1 else gY 0)=gY 0:=by rw[bh zK]
      have qC:=nu (gY 0);exact aa [ah 21 ((x:Int)==i) (a7 aD),.c (EG 0 aD),.o 28 (.e (lD _):ai (.sl true 1 7 λi_ j_=>(iA (gY 0)).getD (i_*7+j_) (.v (.bool false))) (ic [gY 0])),.a (aD:((kX t.gP i x).length+[gY 0].length)*88<=140737488355328),
       gW ((x:Int)+1) aD]<|.e (ae [.b 9 (Il rfl rfl nG:Bx.le (.row true 46 ((kX t.gP i x).length+[gY 0].length) 7 (λi_ j_=>if i_<(kX t.gP i x).length then(ja (kX t.gP i x)) i_ j_ else(E.ke (ic [gY 0])) (i_-(kX t.gP i x).length) j_)) (.row true 46 ((kX t.gP i (x+1)).length) 7 (ja (kX t.gP i (x+1)))))]))) aG)
  (λhx=>by
    exact gX (ae [tF 16 ((t.gP:Int)<t.gP) aD]) aG) aK:iF 3 f175 (N9 t l i p 0) (.exit 0) ⟨83,true,[(9,.own 9),(4,.box 4 0),(1,.e (ic l)),(3,.e (iP p))],[(9,.row true 46 ((kX t.gP i t.gP).length) 7 (ja (kX t.gP i t.gP))),(4,.cells 25 [iP t.gP,mM t.gI,mL t.gN])]⟩) (ae [.b 9 (.iD rfl:Bx.le (.row true 46 0 7 (ja (kX t.gP i 0))) (.row true 46 ((kX t.gP i 0).length) 7 (ja (kX t.gP i 0))))]),.s (Sp.iG (Oa t l i p) 0 t.gI.length aD (λx hx jf=>by
    have im:=h.op x aD;have zL:=CI t l i p x;have Bk:=CJ t hv i (aD:1<=p) (aD:p<=4096) x;by_cases kx:(t.gI.getD x ig).kind=1
    .have nG:rk (t.gI.getD x ig) (l.getD (t.gP+x) gL) l (iV t l i p x) p=gY 0:=YG (rz x aD kx) kx _ _ _;have qC:=nu (gY 0);exact gX (aa [tT 34 ((x:Int)<t.gI.length) aD,iX (x:Int) (t.gI.length) aD,ag 44 (((t.gI.getD x ig).kind:Int)==1) (a8 aD),.c (EG 0 aD),.o 47 (.e (lD _):ai (.sl true 1 7 λi_ j_=>(iA (gY 0)).getD (i_*7+j_) (.v (.bool false))) (ic [gY 0])),.a (aD:((iV t l i p x).length+[gY 0].length)*88<=140737488355328),
      gW ((x:Int)+1) aD]<|.e (ae [.b 9 (A7 rfl rfl nG:Bx.le (.row true 46 ((iV t l i p x).length+[gY 0].length) 7 (λi_ j_=>if i_<(iV t l i p x).length then(ja (iV t l i p x)) i_ j_ else(E.ke (ic [gY 0])) (i_-(iV t l i p x).length) j_)) (.row true 46 ((iV t l i p (x+1)).length) 7 (ja (iV t l i p (x+1)))))])) aG 
    .have h3:=im.k3.resolve_left kx;have oa:=im.CC kx;have ob:=LB im aD;have nG:rk (t.gI.getD x ig) (l.getD (t.gP+x) gL) l (iV t l i p x) p=if(l.getD (t.gP+x) gL).all then gL else nY (t.gI.getD x ig) (l.getD (t.gP+x) gL) (l.getD ((t.gI.getD x ig).a) gL) (l.getD ((t.gI.getD x ig).b) gL) ((iV t l i p x).getD ((t.gI.getD x ig).a) gL) ((iV t l i p x).getD ((t.gI.getD x ig).b) gL) p:=rfl
     have qC:=nu (if(l.getD (t.gP+x) gL).all then gL else nY (t.gI.getD x ig) (l.getD (t.gP+x) gL) (l.getD ((t.gI.getD x ig).a) gL) (l.getD ((t.gI.getD x ig).b) gL) ((iV t l i p x).getD ((t.gI.getD x ig).a) gL) ((iV t l i p x).getD ((t.gI.getD x ig).b) gL) p);exact gX (aa [tT 34 ((x:Int)<t.gI.length) aD,iX (x:Int) (t.gI.length) aD,ah 44 (((t.gI.getD x ig).kind:Int)==1) (a7 aD),
      gW ((t.gP:Int)+x) aD,iX ((t.gP+x:Nat):Int) (l.length) aD,iX ((t.gI.getD x ig).a:Int) (l.length) aD,
      iX ((t.gI.getD x ig).b:Int) (l.length) aD,iX ((t.gI.getD x ig).a:Int) ((iV t l i p x).length) aD,.a (aD:(t.gI.getD x ig).a<(iV t l i p x).length),
      iX ((t.gI.getD x ig).b:Int) ((iV t l i p x).length) aD,.a (aD:(t.gI.getD x ig).b<(iV t l i p x).length),.c (afm (t.gI.getD x ig) (l.getD (t.gP+x) gL) (l.getD (t.gI.getD x ig).a gL) (l.getD (t.gI.getD x ig).b gL) ((iV t l i p x).getD (t.gI.getD x ig).a gL) ((iV t l i p x).getD (t.gI.getD x ig).b gL) p (hv _) (hv _) (hv _) (Bk _) (Bk _) ie gS (GY im) h3 (hr x)),.o 80 (.e (lD _):ai (.sl true 1 7 λi_ j_=>(iA (if(l.getD (t.gP+x) gL).all then gL else nY (t.gI.getD x ig) (l.getD (t.gP+x) gL) (l.getD ((t.gI.getD x ig).a) gL) (l.getD ((t.gI.getD x ig).b) gL) ((iV t l i p x).getD ((t.gI.getD x ig).a) gL) ((iV t l i p x).getD ((t.gI.getD x ig).b) gL) p)).getD (i_*7+j_) (.v (.bool false))) (ic [if(l.getD (t.gP+x) gL).all then gL else nY (t.gI.getD x ig) (l.getD (t.gP+x) gL) (l.getD ((t.gI.getD x ig).a) gL) (l.getD ((t.gI.getD x ig).b) gL) ((iV t l i p x).getD ((t.gI.getD x ig).a) gL) ((iV t l i p x).getD ((t.gI.getD x ig).b) gL) p])),.a (aD:((iV t l i p x).length+[if(l.getD (t.gP+x) gL).all then gL else nY (t.gI.getD x ig) (l.getD (t.gP+x) gL) (l.getD ((t.gI.getD x ig).a) gL) (l.getD ((t.gI.getD x ig).b) gL) ((iV t l i p x).getD ((t.gI.getD x ig).a) gL) ((iV t l i p x).getD ((t.gI.getD x ig).b) gL) p].length)*88<=140737488355328),
      gW ((x:Int)+1) aD]<|.e (ae [.b 9 (A7 rfl rfl nG:Bx.le (.row true 46 ((iV t l i p x).length+[if(l.getD (t.gP+x) gL).all then gL else nY (t.gI.getD x ig) (l.getD (t.gP+x) gL) (l.getD ((t.gI.getD x ig).a) gL) (l.getD ((t.gI.getD x ig).b) gL) ((iV t l i p x).getD ((t.gI.getD x ig).a) gL) ((iV t l i p x).getD ((t.gI.getD x ig).b) gL) p].length) 7 (λi_ j_=>if i_<(iV t l i p x).length then(ja (iV t l i p x)) i_ j_ else(E.ke (ic [if(l.getD (t.gP+x) gL).all then gL else nY (t.gI.getD x ig) (l.getD (t.gP+x) gL) (l.getD ((t.gI.getD x ig).a) gL) (l.getD ((t.gI.getD x ig).b) gL) ((iV t l i p x).getD ((t.gI.getD x ig).a) gL) ((iV t l i p x).getD ((t.gI.getD x ig).b) gL) p])) (i_-(iV t l i p x).length) j_)) (.row true 46 ((iV t l i p (x+1)).length) 7 (ja (iV t l i p (x+1)))))])) aG)
  (λhx=>by
    exact gX (aa [tF 34 ((t.gI.length:Int)<t.gI.length) aD,.z 9]<|.e (ae [.o 9 (.e (sC aJ):ai (.sl true ((iV t l i p t.gI.length).length) 7 (ja (iV t l i p t.gI.length))) (ic (iV t l i p t.gI.length)))])) aG) aK:iF 9 f175 (Oa t l i p 0) (.exit 2) ⟨83,true,[(9,.e (ic (iV t l i p t.gI.length)))],[]⟩) (ae [.b 9 (.iD rfl:Bx.le (.row true 46 ((kX t.gP i t.gP).length) 7 (ja (kX t.gP i t.gP))) (.row true 46 ((iV t l i p 0).length) 7 (ja (iV t l i p 0))))])]) 
def aha{n d:Int}{p:Nat}(hr:lv n d=true)(hp:8<=p)(gS:p<=512):(ni n d p).all=false:=by
 obtain⟨r1,r2,r3,r4⟩:=Cb hr;obtain⟨e,rfl⟩:=dm (aD:0<=d);by_cases h0:n=0
 .subst h0;rw[Vv hp gS hr]
 by_cases h1:0<n
 .obtain ⟨k,rfl⟩:=dm (aD:0<=n);obtain⟨K,k1,_,k2⟩:=Fw (n:=k) (d:=e) aD aD aD p;rw[Vu aD aD hp gS k1 k2 hr]
 .obtain ⟨k,rfl⟩:∃ k:Nat,n = -(k:Int):=⟨n.natAbs,aD⟩
  obtain⟨K,k1,_,k2⟩:=Fw (n:=k) (d:=e) aD aD aD p;rw[Vt aD aD hp gS k1 k2 hr]
def WC(gI:List kq)(xs:List Iv)(p k:Nat):∀ m,∀ i,i<xs.length+k->(iC gI xs p (k+m)).getD i gL=(iC gI xs p k).getD i gL
 | 0,_,_=>rfl
 |m+1,i,hi=>by
  rw[<-WC gI xs p k m i hi];show(iC gI xs p (k+m)++[_]).getD i gL=_;rw[bn,en (by rw[wM];omega),<-bn]
def ai3{t:lS}(h:uQ t){xs:List Iv}(hx:xs.length=t.gP){p:Nat}(hp:8<=p)(gS:p<=512){k:Nat}(hk:k<t.gI.length)(h1:(t.gI.getD k ig).kind=1):((iC t.gI xs p t.gI.length).getD (t.gP+k) gL).all=false:=by
 obtain⟨m,e⟩:∃ m,t.gI.length=(k+1)+m:=⟨t.gI.length-(k+1),aD⟩
 rw[e,WC t.gI xs p (k+1) m (t.gP+k) aD];show((iC t.gI xs p k++[qv (t.gI.getD k ig) (iC t.gI xs p k) p]).getD (t.gP+k) gL).all=false;rw[bn,eD (by rw[wM,hx];exact bp _),wM,hx,cV];show(qv (t.gI.getD k ig) (iC t.gI xs p k) p).all=false;unfold qv;rw[bj h1];have hc:=(h.op k hk).c;rw[bj h1]at hc;exact aha hc hp gS
def Mz(t:lS)(xs:List Iv)(p m:Nat)(h:uQ t)(hr:po t)(h0:1<=xs.length)(hx:xs.length=t.gP)(hv:oO xs)(hm:m<=t.gP)(ie:8<=p)(gS:p<=512):gJ 100 [tE t,ic xs,iP m,iP p] (.hH [ic (nn t xs p),gV (lG t xs p m)]):=by
 have h8:=h.gP;have xk:=h.gI;have mU:=h.gN;have h1:1<=t.gP:= aD ;have xo:(iC t.gI xs p t.gI.length).length=t.gP+t.gI.length:=by rw[wM,hx]
 have Gp:=AP t.gI hv (aD:1<=p) (aD:p<=4096) t.gI.length;have hvn:=λk hk h1=>ai3 (xs:=xs) h hx ie gS (k:=k) hk h1
 exact aj call100 func100 (aa [.c (W4 t xs p h hr h0 hx hv aD aD),.a (aD:0<=((t.gN.length:Int):Int)/\((t.gN.length:Int):Int)<=((t.gN.length:Int):Int)),.a (aD:((24:Nat):Int)*(t.gN.length:Int)<=281474976710656/\((t.gN.length:Int):Int)<=9223372036854775807),.y 11 11 true 46 7 (ja ((List.range 0).map (λj_=>(iC t.gI xs p t.gI.length).getD (t.gN.getD j_ 0) gL))),.s (Sp.iG (Wa t xs p m) 0 t.gN.length aD (λx hx jf=>by
    have Kw:=h.out x aD;have zL:=wM t.gI xs p t.gI.length;have qC:=nu ((iC t.gI xs p t.gI.length).getD (t.gN.getD x 0) gL);exact gX (aa [tT 29 ((x:Int)<t.gN.length) aD,iX (x:Int) (t.gN.length) aD,iX (t.gN.getD x 0:Int) ((iC t.gI xs p t.gI.length).length) aD,.o 41 (.e (lD _):ai (.sl true 1 7 λi_ j_=>(iA ((iC t.gI xs p t.gI.length).getD (t.gN.getD x 0) gL)).getD (i_*7+j_) (.v (.bool false))) (ic [(iC t.gI xs p t.gI.length).getD (t.gN.getD x 0) gL])),.a (aD:(x+[(iC t.gI xs p t.gI.length).getD (t.gN.getD x 0) gL].length)*88<=140737488355328),gW ((x:Int)+1) aD]<|.e (ae [.b 11 (we rfl rfl rfl:Bx.le (.row true 46 (x+[(iC t.gI xs p t.gI.length).getD (t.gN.getD x 0) gL].length) 7 (λi_ j_=>if i_<x then(ja ((List.range x).map (λj_=>(iC t.gI xs p t.gI.length).getD (t.gN.getD j_ 0) gL))) i_ j_ else(E.ke (ic [(iC t.gI xs p t.gI.length).getD (t.gN.getD x 0) gL])) (i_-x) j_)) (.row true 46 (x+1) 7 (ja ((List.range (x+1)).map (λj_=>(iC t.gI xs p t.gI.length).getD (t.gN.getD j_ 0) gL)))))])) aG)
  (λhx=>by
    exact gX (aa [tF 29 ((t.gN.length:Int)<t.gN.length) aD,.z 11]<|.e (ae [.o 11 (.e (sC aJ):ai (.sl true t.gN.length 7 (ja ((List.range t.gN.length).map (λj_=>(iC t.gI xs p t.gI.length).getD (t.gN.getD j_ 0) gL)))) (ic ((List.range t.gN.length).map (λj_=>(iC t.gI xs p t.gI.length).getD (t.gN.getD j_ 0) gL))))])) aG) aK:iF 5 f100 (Wa t xs p m 0) (.exit 0) ⟨79,true,[(11,.e (ic ((List.range t.gN.length).map (λj_=>(iC t.gI xs p t.gI.length).getD (t.gN.getD j_ 0) gL)))),(12,.own 24),(10,.e (ic (iC t.gI xs p t.gI.length))),(4,.box 4 0),(2,.e (iP m)),(3,.e (iP p))],[(24,.iH true 26 46 t.gN.length 7 (λ_=>0) (λ_ _ _=>.any) .none),(4,.cells 25 [iP t.gP,mM t.gI,mL t.gN])]⟩) .nil,.s (Sp.iG (V8 t xs p m) 0 m aD (λx hx jf=>by
    exact gX (aa [tT 45 ((x:Int)<m) aD,.c (Yp t (iC t.gI xs p t.gI.length) x p h hr h1 xo Gp hvn ie gS),.s (Sp.iG (V9 t xs p m x) 0 t.gN.length aD (λk hk oJ=>by
    have Kw:=h.out k aD;have hle:iS (jT t.gN.length (kN t xs p) x k) k=x:=VV aD ;have J9:=CI t (iC t.gI xs p t.gI.length) x p t.gI.length;have qC:=nu ((iV t (iC t.gI xs p t.gI.length) x p t.gI.length).getD (t.gN.getD k 0) gL);exact gX (aa [tT 57 ((k:Int)<t.gN.length) aD,iX (k:Int) (t.gN.length) aD,.a (aD:k<t.gN.length),iX (k:Int) (t.gN.length) aD,
     iX (t.gN.getD k 0:Int) ((iV t (iC t.gI xs p t.gI.length) x p t.gI.length).length) aD,.o 74 (.e (lD _):ai (.sl true 1 7 λi_ j_=>(iA ((iV t (iC t.gI xs p t.gI.length) x p t.gI.length).getD (t.gN.getD k 0) gL)).getD (i_*7+j_) (.v (.bool false))) (ic [(iV t (iC t.gI xs p t.gI.length) x p t.gI.length).getD (t.gN.getD k 0) gL])),.a (aD:k<t.gN.length),.a (aD:((iS (jT t.gN.length (kN t xs p) x k)) k+[(iV t (iC t.gI xs p t.gI.length) x p t.gI.length).getD (t.gN.getD k 0) gL].length)*88<=140737488355328),
     iX (k:Int) (t.gN.length) aD,.a (rfl:k=k),.a (rfl:k=k),.a (aD:k<t.gN.length),gW ((k:Int)+1) aD]<|.e (ae [.b 24 (VY rfl rfl aD rfl:Bx.le (.iH true 26 46 t.gN.length 7 (λq=>if q=k then(iS (jT t.gN.length (kN t xs p) x k)) q+[(iV t (iC t.gI xs p t.gI.length) x p t.gI.length).getD (t.gN.getD k 0) gL].length else(iS (jT t.gN.length (kN t xs p) x k)) q) (λq i j=>if q=k then(if i<(iS (jT t.gN.length (kN t xs p) x k)) q then(jH (jT t.gN.length (kN t xs p) x k)) q i j else(E.ke (ic [(iV t (iC t.gI xs p t.gI.length) x p t.gI.length).getD (t.gN.getD k 0) gL])) (i-(iS (jT t.gN.length (kN t xs p) x k)) q) j)else(jH (jT t.gN.length (kN t xs p) x k)) q i j) .none) (.iH true 26 46 t.gN.length 7 (iS (jT t.gN.length (kN t xs p) x (k+1))) (jH (jT t.gN.length (kN t xs p) x (k+1))) .none))])) aG)
  (λhk=>by
    exact gX (ae [tF 57 ((t.gN.length:Int)<t.gN.length) aD]) aG) aK:iF 13 f100 (V9 t xs p m x 0) (.exit 4) ⟨79,true,[(14,.e (iP x)),(11,.e (ic ((List.range t.gN.length).map (λj_=>(iC t.gI xs p t.gI.length).getD (t.gN.getD j_ 0) gL)))),(12,.own 24),(10,.e (ic (iC t.gI xs p t.gI.length))),(4,.box 4 0),(2,.e (iP m)),(3,.e (iP p))],[(24,.iH true 26 46 t.gN.length 7 (iS (jT t.gN.length (kN t xs p) x t.gN.length)) (jH (jT t.gN.length (kN t xs p) x t.gN.length)) .none),(4,.cells 25 [iP t.gP,mM t.gI,mL t.gN])]⟩) .nil,
     gW ((x:Int)+1) aD]<|.e (ae [.b 24 (VX rfl:Bx.le (.iH true 26 46 t.gN.length 7 (iS (jT t.gN.length (kN t xs p) x t.gN.length)) (jH (jT t.gN.length (kN t xs p) x t.gN.length)) .none) (.iH true 26 46 t.gN.length 7 (iS (jT t.gN.length (kN t xs p) (x+1) 0)) (jH (jT t.gN.length (kN t xs p) (x+1) 0)) .none))])) aG)
  (λhx=>by
    exact gX (ae [tF 45 ((m:Int)<m) aD]) aG) aK:iF 9 f100 (V8 t xs p m 0) (.exit 2) ⟨79,true,[(11,.e (ic ((List.range t.gN.length).map (λj_=>(iC t.gI xs p t.gI.length).getD (t.gN.getD j_ 0) gL)))),(12,.own 24)],[(24,.iH true 26 46 t.gN.length 7 (iS (jT t.gN.length (kN t xs p) m 0)) (jH (jT t.gN.length (kN t xs p) m 0)) .none)]⟩) (ae [.b 24 (VW rfl:Bx.le (.iH true 26 46 t.gN.length 7 (λ_=>0) (λ_ _ _=>.any) .none) (.iH true 26 46 t.gN.length 7 (iS (jT t.gN.length (kN t xs p) 0 0)) (jH (jT t.gN.length (kN t xs p) 0 0)) .none))])]<|rR (.hH [ic (nn t xs p),gV (lG t xs p m)]) (.hH (.cons (.iD (by rw[Pq])) (.cons (BL (Mv _ _ _ _).symm) .nil)):E.le (.hH [ic ((List.range t.gN.length).map (λj_=>(iC t.gI xs p t.gI.length).getD (t.gN.getD j_ 0) gL)),(.sl true t.gN.length 1 λk_ _=>.sl true ((iS (jT t.gN.length (kN t xs p) m 0)) k_) 7 ((jH (jT t.gN.length (kN t xs p) m 0)) k_))]) (.hH [ic (nn t xs p),gV (lG t xs p m)]))) 
def acx(s:lX)(b:List Iv)(p:Nat)(h:og s)(hr:po s.tape)(hb:oM s.ij b)(iN:gJ 31 [lq s,ic b] (bP true))(ie:8<=p)(gS:p<=512)(hn:mI (nn s.tape (b++s.params) p)=true):gJ 51 [lq s,ic b,iP p] (.hH [.v (.slice none 0 0),iP 11]):=by
 have s4:=h.s4;have p4:=h.p4;have Bn:=hb.len;have mU:=h.tape.gN;have yi:=Bb s.tape (b++s.params) p;obtain⟨f1,f2,f3,f4⟩:=zn h hb;have ui:=yC s.tape (b++s.params) p s.ij;have zS:=h.gN;have Dk:=h.gP;have ru:s.ij<=1000:= aD ;exact aj call51 func51 (ae [af [lq s,ic b,iP p] (JG _ _ _ iN aD aD),ah 17 ((0:Int) != 0) aF,.c (KO s b aD aD),.c (Mz s.tape (b++s.params) p s.ij f1 hr f2 f3 f4 aD aD aD),af [ic (nn s.tape (b++s.params) p)] (Cr _ aD),ag 32 (mI (nn s.tape (b++s.params) p)) hn]) 
def acy(s:lX)(b:List Iv)(p:Nat)(h:og s)(hr:po s.tape)(hb:oM s.ij b)(iN:gJ 31 [lq s,ic b] (bP true))(ie:8<=p)(gS:p<=512)(hn:mI (nn s.tape (b++s.params) p)=false)(N:Nat)(mA:N<(lG s.tape (b++s.params) p s.ij).length)(iJ:∀ i,i<N->(mI ((lG s.tape (b++s.params) p s.ij).getD i []))=false)(hN:(mI ((lG s.tape (b++s.params) p s.ij).getD N []))=true):gJ 51 [lq s,ic b,iP p] (.hH [.v (.slice none 0 0),iP 11]):=by
 have s4:=h.s4;have p4:=h.p4;have Bn:=hb.len;have mU:=h.tape.gN;have yi:=Bb s.tape (b++s.params) p;obtain⟨f1,f2,f3,f4⟩:=zn h hb;have ui:=yC s.tape (b++s.params) p s.ij;have zS:=h.gN;have Dk:=h.gP;have ru:s.ij<=1000:= aD ;exact aj call51 func51 (ae [af [lq s,ic b,iP p] (JG _ _ _ iN aD aD),ah 17 ((0:Int) != 0) aF,.c (KO s b aD aD),.c (Mz s.tape (b++s.params) p s.ij f1 hr f2 f3 f4 aD aD aD),af [ic (nn s.tape (b++s.params) p)] (Cr _ aD),ah 32 (mI (nn s.tape (b++s.params) p)) hn,.s (Sp.iG (RH s b p N) 0 N aD (λi hi rq=>by
    exact gX (ae [tT 36 ((i:Int)<((lG s.tape (b++s.params) p s.ij).length:Int)) aD,iX (i:Int) ((lG s.tape (b++s.params) p s.ij).length) aD,af [ic ((lG s.tape (b++s.params) p s.ij).getD i [])] (Cr _ (DB ru _)),ah 43 (mI ((lG s.tape (b++s.params) p s.ij).getD i [])) (iJ i aD),
     gW ((i:Int)+1) aD]) aG)
  (λhi=>by
    exact gX (ae [tT 36 ((N:Int)<((lG s.tape (b++s.params) p s.ij).length:Int)) aD,iX (N:Int) ((lG s.tape (b++s.params) p s.ij).length) aD,af [ic ((lG s.tape (b++s.params) p s.ij).getD N [])] (Cr _ (DB ru _)),ag 43 (mI ((lG s.tape (b++s.params) p s.ij).getD N [])) hN]) aG) aK:iF 8 Tryz.f51 (RH s b p N 0) .ret ⟨45,true,[(7,.e (iP 11)),(6,.e (.v (.slice none 0 0)))],[]⟩) .nil]) 
def acz(s:lX)(b:List Iv)(p:Nat)(h:og s)(hr:po s.tape)(hb:oM s.ij b)(iN:gJ 31 [lq s,ic b] (bP true))(ie:8<=p)(gS:p<=512)(hn:mI (nn s.tape (b++s.params) p)=false)(iJ:∀ i,i<(lG s.tape (b++s.params) p s.ij).length->(mI ((lG s.tape (b++s.params) p s.ij).getD i []))=false):gJ 51 [lq s,ic b,iP p] (.hH [gV (lG s.tape (b++s.params) p s.ij),iP 0]):=by
 have s4:=h.s4;have p4:=h.p4;have Bn:=hb.len;have mU:=h.tape.gN;have yi:=Bb s.tape (b++s.params) p;obtain⟨f1,f2,f3,f4⟩:=zn h hb;have ui:=yC s.tape (b++s.params) p s.ij;have zS:=h.gN;have Dk:=h.gP;have ru:s.ij<=1000:= aD ;exact aj call51 func51 (ae [af [lq s,ic b,iP p] (JG _ _ _ iN aD aD),ah 17 ((0:Int) != 0) aF,.c (KO s b aD aD),.c (Mz s.tape (b++s.params) p s.ij f1 hr f2 f3 f4 aD aD aD),af [ic (nn s.tape (b++s.params) p)] (Cr _ aD),ah 32 (mI (nn s.tape (b++s.params) p)) hn,.s (Sp.iG (RL s b p) 0 ((lG s.tape (b++s.params) p s.ij).length) aD (λi hi rq=>by
    exact gX (ae [tT 36 ((i:Int)<((lG s.tape (b++s.params) p s.ij).length:Int)) aD,iX (i:Int) ((lG s.tape (b++s.params) p s.ij).length) aD,af [ic ((lG s.tape (b++s.params) p s.ij).getD i [])] (Cr _ (DB ru _)),ah 43 (mI ((lG s.tape (b++s.params) p s.ij).getD i [])) (iJ i aD),
     gW ((i:Int)+1) aD]) aG)
  (λhi=>by
    exact gX (ae [tF 36 (((lG s.tape (b++s.params) p s.ij).length:Int)<((lG s.tape (b++s.params) p s.ij).length:Int)) aD]) aG) aK:iF 8 Tryz.f51 (RL s b p 0) (.exit 0) ⟨45,true,[(10,.e (gV (lG s.tape (b++s.params) p s.ij)))],[]⟩) .nil]) 
def RM(s:lX)(b:List Iv)(p:Nat)(h:og s)(hr:po s.tape)(hb:oM s.ij b)(iN:gJ 31 [lq s,ic b] (bP true))(ie:8<=p)(gS:p<=512)(hn:tp s b p=true):gJ 51 [lq s,ic b,iP p] (.hH [.v (.slice none 0 0),iP 11]):=by
 unfold tp at hn;cases h1:mI (nn s.tape (b++s.params) p)with
 |true=>exact acx s b p h hr hb iN ie gS h1
 |false=>
  rw[h1,fQ]at hn;unfold zi at hn;rw[cE]at hn;obtain⟨i,hi,mB⟩:=hn;obtain⟨N,n1,n2,n3⟩:=pX (p:=λi=>mI ((lG s.tape (b++s.params) p s.ij).getD i [])) ⟨i,bD.1 hi,mB⟩;exact acy s b p h hr hb iN ie gS h1 N n1 n3 n2
def RN(s:lX)(b:List Iv)(p:Nat)(h:og s)(hr:po s.tape)(hb:oM s.ij b)(iN:gJ 31 [lq s,ic b] (bP true))(ie:8<=p)(gS:p<=512)(hn:tp s b p=false):gJ 51 [lq s,ic b,iP p] (.hH [gV (lU s b p),iP 0]):=by
 unfold tp at hn;rw[fK]at hn;exact acz s b p h hr hb iN ie gS hn.1 λi hi=>by simpa using List.any_eq_false.1 hn.2 i (bD.2 hi)
def Sd(m:List (List Iv))(n:Nat)(hm:iY m n n):gJ 221 [gV m] (bP true):=by
 have m1:=hm.iH;have m2:=hm.n1;have m8:=hm.n8;have m3:=hm.kS (aD:0<n);exact aj call221 func221 (ae [tF 7 ((m.length:Int)<1) aD,tF 11 (8<(m.length:Int)) aD,iX 0 (m.length) aD,tF 18 (((m.getD 0 []).length:Int)<1) aD,iX 0 (m.length) aD,tF 25 (8<((m.getD 0 []).length:Int)) aD,.s (Sp.iG (Sc m) 0 m.length aD (λx hx jf=>by
    have s6:=hm.kS (aD:x<n);exact gX (ae [tT 30 ((x:Int)<m.length) aD,iX (x:Int) (m.length) aD,iX 0 (m.length) aD,ah 42 (((m.getD x []).length:Int) != ((m.getD 0 []).length:Int)) (pK aD),.s (Sp.iG (Sb m x) 0 ((m.getD x []).length) aD (λy hy qf=>by
    exact gX (ae [iX (x:Int) (m.length) aD,tT 49 ((y:Int)<((m.getD x []).length:Int)) aD,iX (x:Int) (m.length) aD,iX (y:Int) ((m.getD x []).length) aD,.c (LY ((m.getD x []).getD y gL) (hm.mF aD aD)),gW ((y:Int)+1) aD]) aG)
  (λhy=>by
    exact gX (ae [iX (x:Int) (m.length) aD,tF 49 (((m.getD x []).length:Int)<((m.getD x []).length:Int)) aD]) aG) aK:iF 9 f221 (Sb m x 0) (.exit 2) ⟨61,true,[(3,.e (iP x)),(0,.e (gV m))],[]⟩) .nil,
     gW ((x:Int)+1) aD]) aG)
  (λhx=>by
    exact gX (ae [tF 30 ((m.length:Int)<m.length) aD]) aG) aK:iF 4 f221 (Sc m 0) (.exit 0) ⟨61,true,[],[]⟩) .nil]) 
def YP(s:lX)(b:List Iv)(p:Nat)(h:og s)(hr:po s.tape)(hb:oM s.ij b)(iN:gJ 31 [lq s,ic b] (bP true))(ie:8<=p)(gS:p<=512)(hn:tp s b p=true):gJ 35 [lq s,ic b,iP p] (.hH [.agg ar,iP 11]):=
 aj call35 func35 (ae [af [lq s,ic b,iP p] (RM _ _ _ h hr hb iN ie gS hn),ag 20 ((11:Int) != 0) aF]) 
def YR(s:lX)(b:List Iv)(p:Nat)(h:og s)(hr:po s.tape)(hb:oM s.ij b)(iN:gJ 31 [lq s,ic b] (bP true))(ie:8<=p)(gS:p<=512)(hn:tp s b p=false):gJ 35 [lq s,ic b,iP p] (.hH [gR (rK (lU s b p) p (s.ij-1)),iP 0]):=by
 have p1:1<=p:= aD ;have p2:p<=4096:= aD ;have s1:=h.s1;have s4:=h.s4;have ui:=Dx h b p;have tc:=Dz h b p (aD:0<s.ij);exact aj call35 func35 (ae [af [lq s,ic b,iP p] (RN _ _ _ h hr hb iN ie gS hn),ah 20 ((0:Int) != 0) aF,iX 0 ((lU s b p).length) aD,
  iX 0 (((lU s b p).getD 0 []).length) aD,.s (Sp.iG (Ox s b p) 0 (s.ij-1) aD (λx hx jf=>by
    have mV:=Dz h b p (aD:x+1<s.ij);have uv:=DA h hb p1 p2 (x+1) (x+1);have qh:=Ig h hb p1 p2 x;exact gX (aa [tT 31 (((x+1:Nat):Int)<((lU s b p).length:Int)) aD,iX ((x+1:Nat):Int) ((lU s b p).length) aD,iX ((x+1:Nat):Int) (((lU s b p).getD (x+1) []).length) aD,.c (xG (rK (lU s b p) p x) (((lU s b p).getD (x+1) []).getD (x+1) gL) p aE aE aD aD),gW (((x+1:Nat):Int)+1) aD]<|.e (ae [.b 10 (.iD rfl:Bx.le (.cells 46 (iA (jx (rK (lU s b p) p x) (((lU s b p).getD (x+1) []).getD (x+1) gL) p))) (.cells 46 (iA (rK (lU s b p) p (x+1)))))])) aG)
  (λhx=>by
    exact gX (ae [tF 31 ((((s.ij-1)+1:Nat):Int)<((lU s b p).length:Int)) aD]) aG) aK:iF 6 Tryz.f35 (Ox s b p 0) (.exit 0) ⟨45,true,[(10,.box 10 0),(6,.box 6 0)],[(10,.cells 46 (iA (rK (lU s b p) p (s.ij-1)))),(6,.cells 46 ar)]⟩) (ae [.o 11 (an 1 ((0+1:Nat):Int) aS),.b 10 (.iD rfl:Bx.le (.cells 46 (iA (((lU s b p).getD 0 []).getD 0 gL))) (.cells 46 (iA (rK (lU s b p) p 0))))])]) 
def opB(q o:kq):Bool:=decide ((q.kind:Int)=o.kind/\(q.a:Int)=o.a/\(q.b:Int)=o.b/\(q.n:Int)=o.n/\q.cn=o.cn/\q.cd=o.cd)
def Pv(l:List kq)(o:kq):Nat->Option Nat
 | 0=>none
 |k+1=>match Pv l o k with
  |some i=>some i
  |none=>if opB (l.getD k ig) o then some k else none
def IM(t:lS)(o:kq):lS×Nat:=match Pv t.gI o t.gI.length with
 |some i=>(t,t.gP+i)
 |none=>({ t with gI:=t.gI++[o] },t.gP+t.gI.length)
def RU(d:RD):gJ 42 [pA d] (bP (nA d)):=
 aj call42 func42 (.w (20<(d.L.length:Int))
  (λk1=>aa [tB 6 (bk k1)]<|rR (bP (nA d)) (by
      exact .iD (by
       have:nA d=true:=by unfold nA;simp[(aD:20<d.L.length)]
       rw[this]):E.le (bP true) (bP (nA d))))
  (λk1=>aa [tB 6 (bl k1)]<|.w (300<d.e)
   (λk2=>aa [tB 10 (bk k2)]<|rR (bP (nA d)) (by
      exact .iD (by
       have:nA d=true:=by unfold nA;simp[(aD:¬20<d.L.length),k2]
       rw[this]):E.le (bP true) (bP (nA d))))
   (λk2=>aa [tB 10 (bl k2)]<|rR (bP (nA d)) (by
      exact .iD (by
       have:nA d=(decide (d.e<(-300))):=by unfold nA;simp[(aD:¬20<d.L.length),k2]
       rw[this]):E.le (bP (decide (d.e<(-300)))) (bP (nA d)))))) 
def acH(x:RI):gJ 41 [kH x] (bP (rD x)):=
 aj call41 func41 (aa [.c (RU x.lo)]<|.w (nA x.lo=true)
  (λk1=>aa [tB 5 k1]<|rQ (bP true) (bP (rD x)) (qS (by simp_all[rD])))
  (λk1=>aa [tB 5 (bc k1),.c (RU x.hi)]<|rQ (bP (nA x.hi)) (bP (rD x)) (qS (by simp_all[rD])))) 
def ajy(l:List RI)(hl:l.length<=1000):gJ 40 [jk l,.fn 41 []] (bP ((List.range l.length).any λi=>rD (l.getD i iR))):=
 yB true l.length (λi j=>(sK (l.getD i iR)).getD j .any) 41 [] (λi=>rD (l.getD i iR)) (λi _=>acH _) aD 
def aav(x:RI):gJ 235 [kH x] (bP x.all):=
 aj call235 func235 (.nil) 
def aax(l:List RI)(hl:l.length<=1000):gJ 158 [jk l] (bP ((List.range l.length).any λi=>(l.getD i iR).all)):=
 aj call158 func158 (ae [.c (yB true l.length (λi j=>(sK (l.getD i iR)).getD j .any) 235 [] (λi=>(l.getD i iR).all) (λi _=>aav _) aD:gJ 40 [jk l,.fn 235 []] _)]) 
def aay(x:RI)(g:x.jo):gJ 159 [kH x] (bP (!ki x)):=
 aj call159 func159 (ae [af [kH x] (GA _ g)]) 
def XX{s:jq}{x:List RI}(h1:my s=true)(h2:(x.length:Int)=s.ij)(h3:((List.range x.length).any λi=>(x.getD i iR).all)=false)(h4:((List.range x.length).any λi=>!ki (x.getD i iR))=false):pV s x=true:=by
 unfold pV vP;rw[h1,bk h2,er,er,bS];intro i hi;have a:=c9.1 h3 i hi;have b:=c9.1 h4 i hi;unfold n6;have a:(x.getD i iR).all=false:=by simpa using a
 have b:ki (x.getD i iR)=true:=by simpa using b
 rw[b,a];rfl
def XV(s:jq)(g:s.jo)(sm:s.mo)(x:List RI)(gx:∀ i,(x.getD i iR).jo)(lC:x.length<=1000)(p:Int)(hb:pV s x=false):gJ 88 [jW s,jk x,iP s.ij,iP p] (.hH [.v (.slice none 0 0),.v (.slice none 0 0),iP 1]):=
 aj call88 func88 (aa [af [jW s] (aiq _ g sm)]<|.w (my s=true)
  (λk1=>aa [tB 14 k1]<|.w ((x.length:Int)=s.ij)
   (λk2=>aa [tB 21 (bd k2),.c (aax x lC)]<|.w (((List.range x.length).any λi=>(x.getD i iR).all)=true)
    (λk3=>ae [tB 25 k3])
    (λk3=>aa [tB 25 (bc k3),.c (yB true x.length (λi j=>(sK (x.getD i iR)).getD j .any) 159 [] (λi=>!ki (x.getD i iR)) (λi _=>aay _ (gx i)) aD:gJ 40 [jk x,.fn 159 []] _)]<|.w (((List.range x.length).any λi=>!ki (x.getD i iR))=true)
     (λk4=>ae [tB 29 k4])
     (λk4=>.x (by exact absurd (XX aE aE (bc aE) (bc aE)) (by rw[hb];decide)))))
   (λk2=>ae [tB 21 (bg k2)]))
  (λk1=>ae [tB 14 (bc k1)])) 
def RO(s:jq)(g:s.jo)(sm:s.mo)(x:List RI)(gx:∀ i,(x.getD i iR).jo)(lC:x.length<=1000)(p:Int)(hb:pV s x=false):gJ 43 [jW s,jk x,iP p] (.hH [.v (.slice none 0 0),iP 1]):=
 aj call43 func43 (ae [.c (XV s g sm x gx lC p hb)]) 
def YX(s:jq)(g:s.jo)(sm:s.mo)(x:List RI)(gx:∀ i,(x.getD i iR).jo)(lC:x.length<=1000)(p:Int)(hb:pV s x=false):gJ 34 [jW s,jk x,iP p] (.hH [.agg ar,iP 1]):=
 aj call34 func34 (ae [.c (RO s g sm x gx lC p hb),ag 20 ((1:Int) != 0) aF]) 
def XW(s:lX)(x:List Iv)(p:Int)(h:og s)(hb:oM s.ij x)(hp:jV p=false):gJ 88 [lq s,ic x,iP s.ij,iP p] (.hH [.v (.slice none 0 0),.v (.slice none 0 0),iP 2]):=by
 have s4:=h.s4;have Bn:=hb.len;have vh:=GL hb.ok;exact aj call88 func88 (ae [.c (H9 s aE),ah 21 ((x.length:Int) != (s.ij:Int)) (pK hb.len),.c (wV x aD),ah 25 (mI x) vh,.c (Ab true _ _ 159 [] (λ_=>false) (λi hi=>FK _ (hb.ok i hi).1) aD (λ_ _=>rfl):gJ 40 [ic x,.fn 159 []] _),.c (CX p),ag 33 (!(jV p)) (by rw[hp];rfl)]) 
def RP(s:lX)(x:List Iv)(p:Int)(h:og s)(hb:oM s.ij x)(hp:jV p=false):gJ 43 [lq s,ic x,iP p] (.hH [.v (.slice none 0 0),iP 2]):=
 aj call43 func43 (ae [af [lq s,ic x,iP s.ij,iP p] (XW s x p h hb hp)]) 
def YY(s:lX)(x:List Iv)(p:Int)(h:og s)(hb:oM s.ij x)(hp:jV p=false):gJ 34 [lq s,ic x,iP p] (.hH [.agg ar,iP 2]):=
 aj call34 func34 (ae [.c (RP s x p h hb hp),ag 20 ((2:Int) != 0) aF]) 
def aaj(s:jq)(g:s.jo)(sm:s.mo)(x:List RI)(gx:∀ i,(x.getD i iR).jo)(lC:x.length<=1000)(p:Int)(hb:pV s x=false):gJ 99 [jW s,jk x,iP p] (iP 1):=
 aj call99 func99 (ae [af [jW s,jk x] (B3 _ g sm _ gx lC),ag 10 (!(pV s x)) (by rw[hb];rfl)]) 
def RJ(s:jq)(g:s.jo)(sm:s.mo)(x:List RI)(gx:∀ i,(x.getD i iR).jo)(lC:x.length<=1000)(p:Int)(hb:pV s x=false):gJ 51 [jW s,jk x,iP p] (.hH [.v (.slice none 0 0),iP 1]):=
 aj call51 func51 (ae [.c (aaj s g sm x gx lC p hb),ag 17 ((1:Int) != 0) aF]) 
def YN(s:jq)(g:s.jo)(sm:s.mo)(x:List RI)(gx:∀ i,(x.getD i iR).jo)(lC:x.length<=1000)(p:Int)(hb:pV s x=false):gJ 35 [jW s,jk x,iP p] (.hH [.agg ar,iP 1]):=
 aj call35 func35 (ae [.c (RJ s g sm x gx lC p hb),ag 20 ((1:Int) != 0) aF]) 
def aak(s:lX)(x:List Iv)(p:Int)(hp:jV p=false)(iN:gJ 31 [lq s,ic x] (bP true)):gJ 99 [lq s,ic x,iP p] (iP 2):=
 aj call99 func99 (ae [af [lq s,ic x] iN,af [iP p] (rI _),ag 13 (!(jV p)) (by rw[hp];rfl)]) 
def RK(s:lX)(x:List Iv)(p:Int)(hp:jV p=false)(iN:gJ 31 [lq s,ic x] (bP true)):gJ 51 [lq s,ic x,iP p] (.hH [.v (.slice none 0 0),iP 2]):=
 aj call51 func51 (ae [af [lq s,ic x,iP p] (aak s x p hp iN),ag 17 ((2:Int) != 0) aF]) 
def YO(s:lX)(x:List Iv)(p:Int)(hp:jV p=false)(iN:gJ 31 [lq s,ic x] (bP true)):gJ 35 [lq s,ic x,iP p] (.hH [.agg ar,iP 2]):=
 aj call35 func35 (ae [af [lq s,ic x,iP p] (RK s x p hp iN),ag 20 ((2:Int) != 0) aF]) 
def Pb(r:List Iv)(g:FuncId)(cap:List E)(i:Nat):PS:=⟨32,false,[(17,.e (iP i)),(16,.e (iP r.length)),(15,.e (ic r)),(1,.e (ic r)),(2,.e (.fn g cap))],[]⟩
def Pc(m:List (List Iv))(g:FuncId)(cap:List E)(i:Nat):PS:=⟨32,false,[(17,.e (iP i)),(16,.e (iP m.length)),(15,.e (gV m)),(1,.e (gV m)),(2,.e (.fn g cap))],[]⟩
def K1(n e:Int)(h1:n.natAbs<4294967296)(h2:-1000<=e)(h3:e<=1000):gJ 74 [iP n,iP e] (gM (lE n e)):=by
 have hrg:pe (canon (Dy.neg (jI n)) (Dy.m (jI n)) ((Dy.e (jI n))+e)):=by rw[NK];exact(zp h1 h2 h3).range
 exact aj call74 func74 (aa [af [iP n] (agl _ aD),af [gM (jI n),iP e] (agv _ _ (Gy aD) aD aD hrg)]<|rQ (gM (canon (Dy.neg (jI n)) (Dy.m (jI n)) ((Dy.e (jI n))+e))) (gM (lE n e)) (by rw[NK])) 
def DF(n e:Int)(h1:n.natAbs<4294967296)(h2:-1000<=e)(h3:e<=1000):gJ 71 [iP n,iP e] (gR (gZ (lE n e))):=by
 have hv:=zp h1 h2 h3;exact aj call71 func71 (ae [af [iP n,iP e] (K1 _ _ aD aD aD),.c (vA (lE n e))]) 
def RT(d:RD):gJ 76 [.agg [bP d.neg,gO d.L,iP d.e]] (bP (nA d)):=
 aj call76 func76 (.w (20<(d.L.length:Int))
  (λk1=>aa [tB 6 (bk k1)]<|rR (bP (nA d)) (by
      exact .iD (by
       have:nA d=true:=by unfold nA;simp[(aD:20<d.L.length)]
       rw[this]):E.le (bP true) (bP (nA d))))
  (λk1=>aa [tB 6 (bl k1)]<|.w (300<d.e)
   (λk2=>aa [tB 10 (bk k2)]<|rR (bP (nA d)) (by
      exact .iD (by
       have:nA d=true:=by unfold nA;simp[(aD:¬20<d.L.length),k2]
       rw[this]):E.le (bP true) (bP (nA d))))
   (λk2=>aa [tB 10 (bl k2)]<|rR (bP (nA d)) (by
      exact .iD (by
       have:nA d=(decide (d.e<(-300))):=by unfold nA;simp[(aD:¬20<d.L.length),k2]
       rw[this]):E.le (bP (decide (d.e<(-300)))) (bP (nA d)))))) 
def acG(x:RI):gJ 75 [kH x] (bP (rD x)):=
 aj call75 func75 (aa [af [pA x.lo] (RT x.lo)]<|.w (nA x.lo=true)
  (λk1=>aa [tB 5 k1]<|rQ (bP true) (bP (rD x)) (qS (by simp_all[rD])))
  (λk1=>aa [tB 5 (bc k1),af [pA x.hi] (RT x.hi)]<|rQ (bP (nA x.hi)) (bP (rD x)) (qS (by simp_all[rD])))) 
def acF(l:List RI)(hl:l.length<=1000):gJ 40 [jk l,.fn 75 []] (bP ((List.range l.length).any λi=>rD (l.getD i iR))):=
 yB true l.length (λi j=>(sK (l.getD i iR)).getD j .any) 75 [] (λi=>rD (l.getD i iR)) (λi _=>acG _) aD 
def DC(l:List RI):gJ 30 [jk l] (bP (qt l)):=
 aj call30 func30 (.w ((l.length:Int)<=8)
  (λk1=>aa [tB 5 (bk k1),af [jk l,.fn 75 []] (acF l aD)]<|rQ (bP (!((List.range l.length).any λi=>rD (l.getD i iR)))) (bP (qt l)) (qS (by unfold qt;simp[(aD:l.length<=8)])))
  (λk1=>aa [tB 5 (bl k1)]<|rQ (bP false) (bP (qt l)) (qS (by unfold qt;simp[(aD:¬l.length<=8)])))) 
def sr(s:jq):Bool:=decide (s.gI.length<=60)&&(decide (s.gN.length<=8)&&qt s.params)
def JH{s:jq}(h:sr s=true):s.mo:=by
 unfold sr at h;rw[bQ,bQ,cF,cF]at h;have:=Hy h.2.2;exact⟨aD,aD,aD⟩
def RS(s:jq):gJ 29 [jW s] (bP (sr s)):=
 aj call29 func29 (.w ((s.gI.length:Int)<=60)
  (λk1=>aa [tB 7 (bk k1)]<|.w ((s.gN.length:Int)<=8)
   (λk2=>aa [tB 13 (bk k2),af [jk s.params] (DC _)]<|rQ (bP (qt s.params)) (bP (sr s)) (qS (by unfold sr;simp[(aD:s.gI.length<=60),(aD:s.gN.length<=8)])))
   (λk2=>aa [tB 13 (bl k2)]<|rQ (bP false) (bP (sr s)) (qS (by unfold sr;simp[(aD:s.gI.length<=60),(aD:¬s.gN.length<=8)]))))
  (λk1=>aa [tB 7 (bl k1)]<|rQ (bP false) (bP (sr s)) (qS (by unfold sr;simp[(aD:¬s.gI.length<=60)])))) 
def ZI(r:List Iv)(g:FuncId)(cap:List E)(hl:r.length<=1000000)(hp:∀ i,i<r.length->gJ g ((gR (r.getD i gL))::(gR (r.getD i gL))::cap) (bP true)):gJ 65 [ic r,ic r,.fn g cap] (bP true):=
 ak call65 func65 (ae [ah 14 ((r.length:Int) != (r.length:Int)) (pK rfl),.s (Sp.iG (Pb r g cap) 0 r.length aD (λi hi rq=>by
    exact gX (ae [tT 18 ((i:Int)<r.length) aD,iX (i:Int) (r.length) aD,iX (i:Int) (r.length) aD,.c (hp i aD:gJ g ((gR (r.getD i gL))::(gR (r.getD i gL))::cap) _),gW ((i:Int)+1) aD]) aG)
  (λhi=>by
    exact gX (ae [tF 18 ((r.length:Int)<r.length) aD]) aG) aK:iF 4 Tryz.f65 (Pb r g cap 0) (.exit 0) ⟨32,false,[],[]⟩) .nil]) 
def ZJ(m:List (List Iv))(g:FuncId)(cap:List E)(hl:m.length<=1000000)(hp:∀ i,i<m.length->gJ g ((ic (m.getD i []))::(ic (m.getD i []))::cap) (bP true)):gJ 80 [gV m,gV m,.fn g cap] (bP true):=
 ak call80 func80 (ae [ah 14 ((m.length:Int) != (m.length:Int)) (pK rfl),.s (Sp.iG (Pc m g cap) 0 m.length aD (λi hi rq=>by
    exact gX (ae [tT 18 ((i:Int)<m.length) aD,iX (i:Int) (m.length) aD,iX (i:Int) (m.length) aD,.c (hp i aD:gJ g ((ic (m.getD i []))::(ic (m.getD i []))::cap) _),gW ((i:Int)+1) aD]) aG)
  (λhi=>by
    exact gX (ae [tF 18 ((m.length:Int)<m.length) aD]) aG) aK:iF 4 Tryz.f80 (Pc m g cap 0) (.exit 0) ⟨32,false,[],[]⟩) .nil]) 
def Ef(x:Iv)(hx:x.gQ):gJ 37 [gR x,gR x] (bP true):=by
 have l1:=hx.kn.1.gK;have l2:=hx.kn.2.gK;exact aj call37 func37 (ae [ag 9 (x.all==x.all) (dX _),af [gM x.lo,gM x.lo] (U8 _ _ true (iff_of_true rfl rfl) aD aD),af [gM x.hi,gM x.hi] (U8 _ _ true (iff_of_true rfl rfl) aD aD)]) 
def ZK(x:Iv)(hx:x.gQ):gJ 82 [gR x,gR x] (bP true):=
 aj call82 func82 (.w (x.all=true)
  (λk1=>ae [tB 6 k1,tB 9 k1])
  (λk1=>ae [tB 6 (bc k1),af [gR x,gR x] (Ef _ aE)])) 
def ZL(r:List Iv)(hl:r.length<=1000)(hv:∀ j,j<r.length->(r.getD j gL).gQ):gJ 81 [ic r,ic r] (bP true):=
 aj call81 func81 (ae [.c (ZI r 82 [] aD (λj hj=>ZK _ (hv j hj)):gJ 65 [ic r,ic r,.fn 82 []] _)]) 
def Jq(m:List (List Iv))(hl:m.length<=1000)(hr:∀ i,i<m.length->(m.getD i []).length<=1000)(hv:∀ i,i<m.length->∀ j,j<(m.getD i []).length->((m.getD i []).getD j gL).gQ):gJ 36 [gV m,gV m] (bP true):=
 aj call36 func36 (ae [.c (ZJ m 81 [] aD (λi hi=>ZL _ (hr i hi) (hv i hi)):gJ 80 [gV m,gV m,.fn 81 []] _)]) 
def Pm{m x:List (List Iv)}{h:Iv}{n k p:Nat}(ga:iY m n n)(hh:h.gQ)(hk:k<=1000)(ie:8<=p)(gS:p<=512)(hx:oX m h k p=some x):iY x n n:=by
 unfold oX at hx;cases hr:q8 m h k p with
 |none=>rw[hr]at hx;cases hx
 |some e=>
  rw[hr,cS]at hx;simp only at hx;obtain⟨_,pq,_⟩:=(Em m h n n k p ga hh hk ie gS).1 e hr;have gs:=qa (h:=h) (p:=p) ga aD aD k;split at hx
  .cases hx
  .cases hx;refine⟨by rw[cr];exact gs.iH,λr hr=>?_,λr hr y hy=>?_,gs.n1,gs.n8,gs.k1,gs.k8⟩
   .obtain ⟨r',h1,rfl⟩:=cw.1 hr;rw[cr];exact gs.row r' h1
   .obtain ⟨r',h1,rfl⟩:=cw.1 hr;obtain⟨y',h2,rfl⟩:=cw.1 hy;exact pU (gs.ok r' h1 y' h2) pq aD aD 
def Sw{m:List (List Iv)}{n k:Nat}(g:iY m n k)(i j:Nat):((m.getD i []).getD j gL).gQ:=by
 by_cases hi:i<m.length
 .rw [sT (d:=[]) hi];by_cases hj:j<m[i].length
  .rw [sT hj];exact g.ok _ (ch hi) _ (ch hj)
  .rw [bn,bR aD];exact nj
 .rw [bn (l:=m),bR aD];exact nj
def xW:List (List Iv):=[[gZ (lE 0 0),gZ (lE 1 0)],[gZ (lE 0 0),gZ (lE 0 0)]]
def ET:Iv:=(gZ (lE 1 (-1)))
def qR:List (List Iv):=[[⟨⟨false,562735496296199119,-59⟩,⟨false,590186008310647857,-59⟩,false⟩,⟨⟨false,274505120144487375,-59⟩,⟨false,301955632158936113,-59⟩,false⟩],[⟨⟨true,439208192231179801,-64⟩,⟨false,439208192231179801,-64⟩,false⟩,⟨⟨false,562735496296199119,-59⟩,⟨false,590186008310647857,-59⟩,false⟩]]
def Na:iY xW 2 2 where
 iH:=rfl
 row:=by intro r hr;simp only[xW,cM,ajN,fO]at hr;rcases hr with rfl|rfl<;>rfl
 ok:=by
  intro r hr x hx;simp only[xW,cM,ajN,fO]at hr;rcases hr with rfl|rfl<;>simp only[cM,ajN,fO]at hx<;>rcases hx with rfl|rfl<;>exact pO (zp aF aF aF)
 n1:= aF 
 n8:= aF 
 k1:= aF 
 k8:= aF 
def M9:ET.gQ:=pO (zp aF aF aF)
def Nb:oX xW ET 2 60=some qR:= aG 
def Xg:gJ 72 [gV xW,gR ET,iP 2,iP 60] (.hH [gV qR,iP 0]):=
 (JB xW ET 2 2 60 Na M9 rfl aF aF aF aF).1 qR Nb
def Xh:iY qR 2 2:=Pm Na M9 aF aF aF Nb
def AY:Iv:=(qR.getD 0 []).getD 1 gL
def Nc:AY.gQ:=Sw Xh 0 1
def Xf:gJ 73 [.agg [iP 11,iP 21],gM AY.hi] (.hH [iP (mw 11 21 AY.hi),iP 0]):=
 afZ 11 21 AY.hi Nc.kn.2 aF aF aF aF aF 
def ace:(Iv.mk (lE 120 (-8)) (lE 135 (-8)) false).gQ:=.inr ⟨rfl,zp (n:=120) (e:=-8) aF aF aF,zp (n:=135) (e:=-8) aF aF aF,aP⟩
def ab7:yy AY (Iv.mk (lE 120 (-8)) (lE 135 (-8)) false)=true:= aG 
def Nd : gJ 28 [] (bP true):=by
 have l1:qR.length=2:=rfl;have l2:(qR.getD 0 []).length=2:=rfl;exact aj call28 func28 (aa [.c (DF 0 0 aD aD aD),.c (DF 1 0 aD aD aD),.o 8 (.e (xu _ _):ai (.sl true 2 7 λi_ j_=>(iA (gZ (lE 0 0))++iA (gZ (lE 1 0))).getD (i_*7+j_) (.v (.bool false))) (ic [gZ (lE 0 0),gZ (lE 1 0)])),.c (DF 0 0 aD aD aD),.c (DF 0 0 aD aD aD),.o 11 (.e (xu _ _):ai (.sl true 2 7 λi_ j_=>(iA (gZ (lE 0 0))++iA (gZ (lE 0 0))).getD (i_*7+j_) (.v (.bool false))) (ic [gZ (lE 0 0),gZ (lE 0 0)])),.o 12 (.e (GD _ _):ai (.sl true 2 1 λi_ j_=>[ic [gZ (lE 0 0),gZ (lE 1 0)],ic [gZ (lE 0 0),gZ (lE 0 0)]].getD (i_*1+j_) (.v (.bool false))) (gV xW)),.c (DF 1 (-1) aD aD aD),af [gV xW,gR (gZ (lE 1 (-1))),iP 2,iP 60] Xg,ah 20 ((0:Int) != 0) aF,ah 24 ((qR.length:Int) != 2) aG,iX 0 (qR.length) aD,ah 31 (((qR.getD 0 []).length:Int) != 2) aG,iX 0 (qR.length) aD,
  iX 1 ((qR.getD 0 []).length) aD,af [.agg [iP 11,iP 21],gM (((qR.getD 0 []).getD 1 gL).hi)] Xf,ag 45 ((0:Int)==0) aF,ag 48 (decide ((mw 11 21 AY.hi)<=0)) aG,iX 0 (qR.length) aD,iX 1 ((qR.getD 0 []).length) aD,.c (K1 120 (-8) aD aD aD),.c (K1 135 (-8) aD aD aD),.c (Xo ((qR.getD 0 []).getD 1 gL) (Iv.mk (lE 120 (-8)) (lE 135 (-8)) false) Nc ace)]<|rQ (bP (yy ((qR.getD 0 []).getD 1 gL) (Iv.mk (lE 120 (-8)) (lE 135 (-8)) false))) (bP true) (congrArg bP ab7)) 
end Go.Proofs.YtkjkcjhacddojaaGreatDoor
