/- A step that is chosen is nice, at most the greatest step, and has a tube for which Picard's inclusion holds. -/
import Derived.Test.YtkdddbdjilcofaaGreatDoorM04
set_option linter.unusedSimpArgs false
set_option linter.unusedVariables false
set_option linter.defProp false
set_option maxHeartbeats 4000000
open Go.Proofs.Tryz
namespace Go.Proofs.YtkdddbdjilcofaaGreatDoor
open Go.RowKit Fp Pu
def SE(l:List Dy)(d:Dy)(k t:Nat)(x:Nat):PS:=⟨57,true,[(17,.e (iP x)),(16,.e (iP l.length)),(15,.e (jZ l)),(5,.box 5 0),(2,.e (iP k)),(3,.e (iP t))],[(5,.cells 31 (iq d))]⟩
def Sw(l:List Dy)(d:Dy)(k t x:Nat)(i:Nat):PS:=⟨57,true,[(22,.e (iP i)),(21,.e (iP k)),(11,.e (bP false)),(10,.box 10 0),(17,.e (iP x)),(16,.e (iP l.length)),(15,.e (jZ l)),(5,.box 5 0),(2,.e (iP k)),(3,.e (iP t))],[(10,.cells 31 (iq (jv d i (l.getD x il)))),(5,.cells 31 (iq d))]⟩
def SA(l:List Dy)(d:Dy)(k t x:Nat)(N:Nat)(i:Nat):PS:=⟨57,true,[(22,.e (iP i)),(21,.e (iP k)),(11,.e (bP false)),(10,.box 10 0),(17,.e (iP x)),(16,.e (iP l.length)),(15,.e (jZ l)),(5,.box 5 0),(2,.e (iP k)),(3,.e (iP t))],[(10,.cells 31 (iq (jv d i (l.getD x il)))),(5,.cells 31 (iq d))]⟩
def SG(l:List Dy)(d:Dy)(k t:Nat)(x:Nat):PS:=⟨57,true,[(17,.e (iP x)),(16,.e (iP l.length)),(15,.e (jZ l)),(5,.box 5 0),(2,.e (iP k)),(3,.e (iP t))],[(5,.cells 31 (iq d))]⟩
def Sx(l:List Dy)(d:Dy)(k t x:Nat)(i:Nat):PS:=⟨57,true,[(22,.e (iP i)),(21,.e (iP k)),(11,.e (bP false)),(10,.box 10 0),(17,.e (iP x)),(16,.e (iP l.length)),(15,.e (jZ l)),(5,.box 5 0),(2,.e (iP k)),(3,.e (iP t))],[(10,.cells 31 (iq (jv d i (l.getD x il)))),(5,.cells 31 (iq d))]⟩
def SB(l:List Dy)(d:Dy)(k t x:Nat)(N:Nat)(i:Nat):PS:=⟨57,true,[(22,.e (iP i)),(21,.e (iP k)),(11,.e (bP false)),(10,.box 10 0),(17,.e (iP x)),(16,.e (iP l.length)),(15,.e (jZ l)),(5,.box 5 0),(2,.e (iP k)),(3,.e (iP t))],[(10,.cells 31 (iq (jv d i (l.getD x il)))),(5,.cells 31 (iq d))]⟩
def Sy(l:List Dy)(d:Dy)(k t M:Nat)(i:Nat):PS:=⟨57,true,[(22,.e (iP i)),(21,.e (iP k)),(11,.e (bP false)),(10,.box 10 0),(17,.e (iP M)),(16,.e (iP l.length)),(15,.e (jZ l)),(5,.box 5 0),(2,.e (iP k)),(3,.e (iP t))],[(10,.cells 31 (iq (jv d i (l.getD M il)))),(5,.cells 31 (iq d))]⟩
def SH(l:List Dy)(d:Dy)(k t:Nat)(x:Nat):PS:=⟨57,true,[(17,.e (iP x)),(16,.e (iP l.length)),(15,.e (jZ l)),(5,.box 5 0),(2,.e (iP k)),(3,.e (iP t))],[(5,.cells 31 (iq d))]⟩
def Sz(l:List Dy)(d:Dy)(k t x:Nat)(i:Nat):PS:=⟨57,true,[(22,.e (iP i)),(21,.e (iP k)),(11,.e (bP false)),(10,.box 10 0),(17,.e (iP x)),(16,.e (iP l.length)),(15,.e (jZ l)),(5,.box 5 0),(2,.e (iP k)),(3,.e (iP t))],[(10,.cells 31 (iq (jv d i (l.getD x il)))),(5,.cells 31 (iq d))]⟩
def SC(l:List Dy)(d:Dy)(k t x:Nat)(N:Nat)(i:Nat):PS:=⟨57,true,[(22,.e (iP i)),(21,.e (iP k)),(11,.e (bP false)),(10,.box 10 0),(17,.e (iP x)),(16,.e (iP l.length)),(15,.e (jZ l)),(5,.box 5 0),(2,.e (iP k)),(3,.e (iP t))],[(10,.cells 31 (iq (jv d i (l.getD x il)))),(5,.cells 31 (iq d))]⟩
def SD(l:List Dy)(d:Dy)(k t M:Nat)(N:Nat)(i:Nat):PS:=⟨57,true,[(22,.e (iP i)),(21,.e (iP k)),(11,.e (bP false)),(10,.box 10 0),(17,.e (iP M)),(16,.e (iP l.length)),(15,.e (jZ l)),(5,.box 5 0),(2,.e (iP k)),(3,.e (iP t))],[(10,.cells 31 (iq (jv d i (l.getD M il)))),(5,.cells 31 (iq d))]⟩
def QY(s:jz)(x:List Iv)(d:Dy)(mth ord mst:Int)(p t k:Nat)(l:List Dy)(j0:Int)(n:Nat):PS:=⟨108,true,[(11,.e (bP true)),(12,.box 12 0),(10,.e (jZ l)),(8,.e (iP k)),(6,.box 6 0),(5,.box 5 0),(3,.box 3 0),(1,.e (gY x))],[(12,.cells 31 (iq (nD (j0-(n:Int))))),(6,.cells 31 ar),(5,.cells 33 ([iP mth,iP ord,iP p]++iq d++[iP t,iP mst])),(3,.cells 28 [iP s.tape.ic,kD s.tape.gS,kC s.tape.iu,iP s.iH,gY s.params])]⟩
def Q2(s:jz)(x:List Iv)(d:Dy)(mth ord mst:Int)(p t k:Nat)(l:List Dy)(j0:Int)(n1:Nat)(m:Nat):PS:=⟨108,true,[(79,.e (iP m)),(11,.e (bP true)),(12,.box 12 0),(6,.box 6 0),(5,.box 5 0),(3,.box 3 0),(1,.e (gY x))],[(12,.cells 31 (iq (nD (j0-(n1:Int)-m)))),(6,.cells 31 ar),(5,.cells 33 ([iP mth,iP ord,iP p]++iq d++[iP t,iP mst])),(3,.cells 28 [iP s.tape.ic,kD s.tape.gS,kC s.tape.iu,iP s.iH,gY s.params])]⟩
def QZ(s:jz)(x:List Iv)(d:Dy)(mth ord mst:Int)(p t k:Nat)(l:List Dy)(j0:Int)(n:Nat):PS:=⟨108,true,[(11,.e (bP true)),(12,.box 12 0),(10,.e (jZ l)),(8,.e (iP k)),(6,.box 6 0),(5,.box 5 0),(3,.box 3 0),(1,.e (gY x))],[(12,.cells 31 (iq (nD (j0-(n:Int))))),(6,.cells 31 ar),(5,.cells 33 ([iP mth,iP ord,iP p]++iq d++[iP t,iP mst])),(3,.cells 28 [iP s.tape.ic,kD s.tape.gS,kC s.tape.iu,iP s.iH,gY s.params])]⟩
def Q3(s:jz)(x:List Iv)(d:Dy)(mth ord mst:Int)(p t k:Nat)(l:List Dy)(j0:Int)(n1:Nat)(m:Nat):PS:=⟨108,true,[(79,.e (iP m)),(11,.e (bP true)),(12,.box 12 0),(6,.box 6 0),(5,.box 5 0),(3,.box 3 0),(1,.e (gY x))],[(12,.cells 31 (iq (nD (j0-(n1:Int)-m)))),(6,.cells 31 ar),(5,.cells 33 ([iP mth,iP ord,iP p]++iq d++[iP t,iP mst])),(3,.cells 28 [iP s.tape.ic,kD s.tape.gS,kC s.tape.iu,iP s.iH,gY s.params])]⟩
def Q0(s:jz)(x:List Iv)(d:Dy)(mth ord mst:Int)(p t k:Nat)(l:List Dy)(j0:Int)(n:Nat):PS:=⟨108,true,[(11,.e (bP true)),(12,.box 12 0),(10,.e (jZ l)),(8,.e (iP k)),(6,.box 6 0),(5,.box 5 0),(3,.box 3 0),(1,.e (gY x))],[(12,.cells 31 (iq (nD (j0-(n:Int))))),(6,.cells 31 ar),(5,.cells 33 ([iP mth,iP ord,iP p]++iq d++[iP t,iP mst])),(3,.cells 28 [iP s.tape.ic,kD s.tape.gS,kC s.tape.iu,iP s.iH,gY s.params])]⟩
def Q4(s:jz)(x:List Iv)(d:Dy)(mth ord mst:Int)(p t k:Nat)(l:List Dy)(j0:Int)(n1:Nat)(m:Nat):PS:=⟨108,true,[(79,.e (iP m)),(11,.e (bP true)),(12,.box 12 0),(6,.box 6 0),(5,.box 5 0),(3,.box 3 0),(1,.e (gY x))],[(12,.cells 31 (iq (nD (j0-(n1:Int)-m)))),(6,.cells 31 ar),(5,.cells 33 ([iP mth,iP ord,iP p]++iq d++[iP t,iP mst])),(3,.cells 28 [iP s.tape.ic,kD s.tape.gS,kC s.tape.iu,iP s.iH,gY s.params])]⟩
def Q1(s:jz)(x:List Iv)(d:Dy)(mth ord mst:Int)(p t k:Nat)(l:List Dy)(j0:Int)(n:Nat):PS:=⟨108,true,[(11,.e (bP true)),(12,.box 12 0),(10,.e (jZ l)),(8,.e (iP k)),(6,.box 6 0),(5,.box 5 0),(3,.box 3 0),(1,.e (gY x))],[(12,.cells 31 (iq (nD (j0-(n:Int))))),(6,.cells 31 ar),(5,.cells 33 ([iP mth,iP ord,iP p]++iq d++[iP t,iP mst])),(3,.cells 28 [iP s.tape.ic,kD s.tape.gS,kC s.tape.iu,iP s.iH,gY s.params])]⟩
def Q5(s:jz)(x:List Iv)(d:Dy)(mth ord mst:Int)(p t k:Nat)(l:List Dy)(j0:Int)(n1:Nat)(m:Nat):PS:=⟨108,true,[(79,.e (iP m)),(11,.e (bP true)),(12,.box 12 0),(6,.box 6 0),(5,.box 5 0),(3,.box 3 0),(1,.e (gY x))],[(12,.cells 31 (iq (nD (j0-(n1:Int)-m)))),(6,.cells 31 ar),(5,.cells 33 ([iP mth,iP ord,iP p]++iq d++[iP t,iP mst])),(3,.cells 28 [iP s.tape.ic,kD s.tape.gS,kC s.tape.iu,iP s.iH,gY s.params])]⟩
def AJ{d m:Dy}{i:Nat}(h:qx d i m=true):(kg (jq (jv d i m) d) != 0)=false:=by
 unfold qx at h;rw[fP]at h;rw[h];rfl
def JJ{d m:Dy}{i:Nat}(h:qx d i m=false):(kg (jq (jv d i m) d) != 0)=true:=by
 unfold qx at h;rw[beq_eq_false_iff_ne]at h;exact aX h
def zY{d:Dy}(h:d.gX):-16384<=d.ig/\d.ig<=16384:=by
 unfold Dy.ig;split
 .omega
 .rename_i h0;have:=h.range.resolve_left h0;have hb:=nM h0;omega
def Kl{a b:Int}(h1:0<=a)(h2:a<=16)(h3:-16384<=b)(h4:b<=16384):-262144<=a*b/\a*b<=262144:=by
 have e:a=0\/a=1\/a=2\/a=3\/a=4\/a=5\/a=6\/a=7\/a=8\/a=9\/a=10\/a=11\/a=12\/a=13\/a=14\/a=15\/a=16:= aC ;rcases e with rfl|rfl|rfl|rfl|rfl|rfl|rfl|rfl|rfl|rfl|rfl|rfl|rfl|rfl|rfl|rfl|rfl<;>omega
def Ko(t:Nat)(h:t<=1000):(jy (0-(t:Int))).gX:=by
 have e:=Ck (0-(t:Int));rw[<-e];exact uR aC aC 
def aaZ(l:List Dy)(d:Dy)(k t:Nat)(rY:l.length<=100)(hl:∀ i,(l.getD i il).gX)(hd:d.gX)(hk:k<=16)(ht:t<=1000)(hf:∀ x,x<l.length->sj d (t:Int) k (l.getD x il)=true):gQ 28 [jZ l,gU d,iP k,iP t] (bP true):=
 ak call28 func28 (af [.s (Sp.jE (SE l d k t) 0 l.length aC (λx hx mn=>by
    have wF:=hf x aC;have qT:(jy (0-(t:Int))).gX:=Ko t ht;have s9:=hl x;by_cases tO:∀ i,i<k->qx d i (l.getD x il)=true
    .have MU:=sH (h:=d) (hl x) k;exact iA (af [tT 18 ((x:Int)<l.length) aC,iX (x:Int) (l.length) aC,.s (Sp.jE (Sw l d k t x) 0 k aC (λi hi oM=>by
    have px:=sH (h:=d) (hl x) i;exact iA (ae [tT 23 ((i:Int)<k) aC,ag [gU (jv d i (l.getD x il)),gU d] (vj _ _ aD aD),ai 32 ((kg (jq (jv d i (l.getD x il)) d)) != 0) (AJ (tO i aC)),ij ((i:Int)+1) aC]<|.e (af [.b 10 (.iL rfl:Bx.le (.cells 31 (iq (jm (jq (jv d i (l.getD x il)) d)))) (.cells 31 (iq (jv d (i+1) (l.getD x il)))))])) aF)
  (λhi=>by
    exact iA (af [tF 23 ((k:Int)<k) aC]) aF) aI:jB 6 Tryz.f28 (Sw l d k t x 0) (.exit 2) ⟨57,true,[(11,.e (bP false)),(10,.box 10 0),(17,.e (iP x)),(16,.e (iP l.length)),(15,.e (jZ l)),(5,.box 5 0),(2,.e (iP k)),(3,.e (iP t))],[(10,.cells 31 (iq (jv d k (l.getD x il)))),(5,.cells 31 (iq d))]⟩) (af [.b 10 (.iL rfl:Bx.le (.cells 31 (iq (l.getD x il))) (.cells 31 (iq (jv d 0 (l.getD x il)))))]),
      ij (0-(t:Int)) aC,.c (pW (0-(t:Int))),ag [gU (jv d k (l.getD x il)),gU (jy (0-(t:Int)))] (kH _ _ aD aD),tF 55 (0<(iN (jv d k (l.getD x il)) (jy (0-(t:Int))))) (by rw[Ir tO,b9]at wF;omega),ij ((x:Int)+1) aC]) aF 
    .obtain ⟨N,Bz,wJ,wI⟩:=(JK d (l.getD x il) k).resolve_left tO;exact iA (af [tT 18 ((x:Int)<l.length) aC,iX (x:Int) (l.length) aC,.s (Sp.jE (SA l d k t x N) 0 N aC (λi hi oM=>by
    have px:=sH (h:=d) (hl x) i;exact iA (ae [tT 23 ((i:Int)<k) aC,ag [gU (jv d i (l.getD x il)),gU d] (vj _ _ aD aD),ai 32 ((kg (jq (jv d i (l.getD x il)) d)) != 0) (AJ (wJ i aC)),ij ((i:Int)+1) aC]<|.e (af [.b 10 (.iL rfl:Bx.le (.cells 31 (iq (jm (jq (jv d i (l.getD x il)) d)))) (.cells 31 (iq (jv d (i+1) (l.getD x il)))))])) aF)
  (λhi=>by
    have px:=sH (h:=d) (hl x) N;have tm:=zY px;have td:=zY hd;obtain⟨T,hT⟩:∃ T,T=((k:Int)-N)*(Dy.ig d):=⟨_,rfl⟩
    have vD:=Kl (a:=(k:Int)-N) (b:=Dy.ig d) aC aC td.1 td.2;exact iA (af [tT 23 ((N:Int)<k) aC,ag [gU (jv d N (l.getD x il)),gU d] (vj _ _ aD aD),ah 32 ((kg (jq (jv d N (l.getD x il)) d)) != 0) (JJ wI),ag [gU (jv d N (l.getD x il))] (mK _ aD),ij ((k:Int)-N) aC,ag [gU d] (mK _ aD),ij (((k:Int)-N)*(Dy.ig d)) aC,ij ((Dy.ig (jv d N (l.getD x il)))+(((k:Int)-N)*(Dy.ig d))) aC,
    ij (0-(t:Int)) aC,ah 44 (decide (((Dy.ig (jv d N (l.getD x il)))+(((k:Int)-N)*(Dy.ig d)))<=(0-(t:Int)))) (by rw[Is Bz wJ wI]at wF;exact wF)]) aF) aI:jB 6 Tryz.f28 (SA l d k t x N 0) (.exit 2) ⟨57,true,[(11,.e (bP true)),(10,.box 10 0),(17,.e (iP x)),(16,.e (iP l.length)),(15,.e (jZ l)),(5,.box 5 0),(2,.e (iP k)),(3,.e (iP t))],[(10,.cells 31 (iq (jv d N (l.getD x il)))),(5,.cells 31 (iq d))]⟩) (af [.b 10 (.iL rfl:Bx.le (.cells 31 (iq (l.getD x il))) (.cells 31 (iq (jv d 0 (l.getD x il)))))]),
      ij ((x:Int)+1) aC]) aF)
  (λhx=>by
    exact iA (af [tF 18 ((l.length:Int)<l.length) aC]) aF) aI:jB 2 Tryz.f28 (SE l d k t 0) (.exit 0) ⟨57,true,[],[]⟩) .nil]) 
def aaX(l:List Dy)(d:Dy)(k t:Nat)(rY:l.length<=100)(hl:∀ i,(l.getD i il).gX)(hd:d.gX)(hk:k<=16)(ht:t<=1000)(M:Nat)(hM:M<l.length)(hf:∀ x,x<M->sj d (t:Int) k (l.getD x il)=true)(BE:sj d (t:Int) k (l.getD M il)=false)(tO:∀ i,i<k->qx d i (l.getD M il)=true):gQ 28 [jZ l,gU d,iP k,iP t] (bP false):=
 ak call28 func28 (af [.s (Sp.jE (SG l d k t) 0 M aC (λx hx mn=>by
    have wF:=hf x aC;have qT:(jy (0-(t:Int))).gX:=Ko t ht;have s9:=hl x;by_cases tO:∀ i,i<k->qx d i (l.getD x il)=true
    .have MU:=sH (h:=d) (hl x) k;exact iA (af [tT 18 ((x:Int)<l.length) aC,iX (x:Int) (l.length) aC,.s (Sp.jE (Sx l d k t x) 0 k aC (λi hi oM=>by
    have px:=sH (h:=d) (hl x) i;exact iA (ae [tT 23 ((i:Int)<k) aC,ag [gU (jv d i (l.getD x il)),gU d] (vj _ _ aD aD),ai 32 ((kg (jq (jv d i (l.getD x il)) d)) != 0) (AJ (tO i aC)),ij ((i:Int)+1) aC]<|.e (af [.b 10 (.iL rfl:Bx.le (.cells 31 (iq (jm (jq (jv d i (l.getD x il)) d)))) (.cells 31 (iq (jv d (i+1) (l.getD x il)))))])) aF)
  (λhi=>by
    exact iA (af [tF 23 ((k:Int)<k) aC]) aF) aI:jB 6 Tryz.f28 (Sx l d k t x 0) (.exit 2) ⟨57,true,[(11,.e (bP false)),(10,.box 10 0),(17,.e (iP x)),(16,.e (iP l.length)),(15,.e (jZ l)),(5,.box 5 0),(2,.e (iP k)),(3,.e (iP t))],[(10,.cells 31 (iq (jv d k (l.getD x il)))),(5,.cells 31 (iq d))]⟩) (af [.b 10 (.iL rfl:Bx.le (.cells 31 (iq (l.getD x il))) (.cells 31 (iq (jv d 0 (l.getD x il)))))]),
      ij (0-(t:Int)) aC,.c (pW (0-(t:Int))),ag [gU (jv d k (l.getD x il)),gU (jy (0-(t:Int)))] (kH _ _ aD aD),tF 55 (0<(iN (jv d k (l.getD x il)) (jy (0-(t:Int))))) (by rw[Ir tO,b9]at wF;omega),ij ((x:Int)+1) aC]) aF 
    .obtain ⟨N,Bz,wJ,wI⟩:=(JK d (l.getD x il) k).resolve_left tO;exact iA (af [tT 18 ((x:Int)<l.length) aC,iX (x:Int) (l.length) aC,.s (Sp.jE (SB l d k t x N) 0 N aC (λi hi oM=>by
    have px:=sH (h:=d) (hl x) i;exact iA (ae [tT 23 ((i:Int)<k) aC,ag [gU (jv d i (l.getD x il)),gU d] (vj _ _ aD aD),ai 32 ((kg (jq (jv d i (l.getD x il)) d)) != 0) (AJ (wJ i aC)),ij ((i:Int)+1) aC]<|.e (af [.b 10 (.iL rfl:Bx.le (.cells 31 (iq (jm (jq (jv d i (l.getD x il)) d)))) (.cells 31 (iq (jv d (i+1) (l.getD x il)))))])) aF)
  (λhi=>by
    have px:=sH (h:=d) (hl x) N;have tm:=zY px;have td:=zY hd;obtain⟨T,hT⟩:∃ T,T=((k:Int)-N)*(Dy.ig d):=⟨_,rfl⟩
    have vD:=Kl (a:=(k:Int)-N) (b:=Dy.ig d) aC aC td.1 td.2;exact iA (af [tT 23 ((N:Int)<k) aC,ag [gU (jv d N (l.getD x il)),gU d] (vj _ _ aD aD),ah 32 ((kg (jq (jv d N (l.getD x il)) d)) != 0) (JJ wI),ag [gU (jv d N (l.getD x il))] (mK _ aD),ij ((k:Int)-N) aC,ag [gU d] (mK _ aD),ij (((k:Int)-N)*(Dy.ig d)) aC,ij ((Dy.ig (jv d N (l.getD x il)))+(((k:Int)-N)*(Dy.ig d))) aC,
    ij (0-(t:Int)) aC,ah 44 (decide (((Dy.ig (jv d N (l.getD x il)))+(((k:Int)-N)*(Dy.ig d)))<=(0-(t:Int)))) (by rw[Is Bz wJ wI]at wF;exact wF)]) aF) aI:jB 6 Tryz.f28 (SB l d k t x N 0) (.exit 2) ⟨57,true,[(11,.e (bP true)),(10,.box 10 0),(17,.e (iP x)),(16,.e (iP l.length)),(15,.e (jZ l)),(5,.box 5 0),(2,.e (iP k)),(3,.e (iP t))],[(10,.cells 31 (iq (jv d N (l.getD x il)))),(5,.cells 31 (iq d))]⟩) (af [.b 10 (.iL rfl:Bx.le (.cells 31 (iq (l.getD x il))) (.cells 31 (iq (jv d 0 (l.getD x il)))))]),
      ij ((x:Int)+1) aC]) aF)
  (λhx=>by
    have MU:=sH (h:=d) (hl M) k;have qT:(jy (0-(t:Int))).gX:=Ko t ht;have s9:=hl M;exact iA (af [tT 18 ((M:Int)<l.length) aC,iX (M:Int) (l.length) aC,.s (Sp.jE (Sy l d k t M) 0 k aC (λi hi oM=>by
    have px:=sH (h:=d) (hl M) i;exact iA (ae [tT 23 ((i:Int)<k) aC,ag [gU (jv d i (l.getD M il)),gU d] (vj _ _ aD aD),ai 32 ((kg (jq (jv d i (l.getD M il)) d)) != 0) (AJ (tO i aC)),ij ((i:Int)+1) aC]<|.e (af [.b 10 (.iL rfl:Bx.le (.cells 31 (iq (jm (jq (jv d i (l.getD M il)) d)))) (.cells 31 (iq (jv d (i+1) (l.getD M il)))))])) aF)
  (λhi=>by
    exact iA (af [tF 23 ((k:Int)<k) aC]) aF) aI:jB 6 Tryz.f28 (Sy l d k t M 0) (.exit 2) ⟨57,true,[(11,.e (bP false)),(10,.box 10 0),(17,.e (iP M)),(16,.e (iP l.length)),(15,.e (jZ l)),(5,.box 5 0),(2,.e (iP k)),(3,.e (iP t))],[(10,.cells 31 (iq (jv d k (l.getD M il)))),(5,.cells 31 (iq d))]⟩) (af [.b 10 (.iL rfl:Bx.le (.cells 31 (iq (l.getD M il))) (.cells 31 (iq (jv d 0 (l.getD M il)))))]),
    ij (0-(t:Int)) aC,.c (pW (0-(t:Int))),ag [gU (jv d k (l.getD M il)),gU (jy (0-(t:Int)))] (kH _ _ aD aD),tT 55 (0<(iN (jv d k (l.getD M il)) (jy (0-(t:Int))))) (by rw[Ir tO,amR]at BE;omega)]) aF) aI:jB 2 Tryz.f28 (SG l d k t 0) .ret ⟨57,true,[(8,.e (bP false))],[]⟩) .nil]) 
def aaY(l:List Dy)(d:Dy)(k t:Nat)(rY:l.length<=100)(hl:∀ i,(l.getD i il).gX)(hd:d.gX)(hk:k<=16)(ht:t<=1000)(M:Nat)(hM:M<l.length)(hf:∀ x,x<M->sj d (t:Int) k (l.getD x il)=true)(BE:sj d (t:Int) k (l.getD M il)=false)(N:Nat)(Bz:N<k)(wJ:∀ i,i<N->qx d i (l.getD M il)=true)(wI:qx d N (l.getD M il)=false):gQ 28 [jZ l,gU d,iP k,iP t] (bP false):=
 ak call28 func28 (af [.s (Sp.jE (SH l d k t) 0 M aC (λx hx mn=>by
    have wF:=hf x aC;have qT:(jy (0-(t:Int))).gX:=Ko t ht;have s9:=hl x;by_cases tO:∀ i,i<k->qx d i (l.getD x il)=true
    .have MU:=sH (h:=d) (hl x) k;exact iA (af [tT 18 ((x:Int)<l.length) aC,iX (x:Int) (l.length) aC,.s (Sp.jE (Sz l d k t x) 0 k aC (λi hi oM=>by
    have px:=sH (h:=d) (hl x) i;exact iA (ae [tT 23 ((i:Int)<k) aC,ag [gU (jv d i (l.getD x il)),gU d] (vj _ _ aD aD),ai 32 ((kg (jq (jv d i (l.getD x il)) d)) != 0) (AJ (tO i aC)),ij ((i:Int)+1) aC]<|.e (af [.b 10 (.iL rfl:Bx.le (.cells 31 (iq (jm (jq (jv d i (l.getD x il)) d)))) (.cells 31 (iq (jv d (i+1) (l.getD x il)))))])) aF)
  (λhi=>by
    exact iA (af [tF 23 ((k:Int)<k) aC]) aF) aI:jB 6 Tryz.f28 (Sz l d k t x 0) (.exit 2) ⟨57,true,[(11,.e (bP false)),(10,.box 10 0),(17,.e (iP x)),(16,.e (iP l.length)),(15,.e (jZ l)),(5,.box 5 0),(2,.e (iP k)),(3,.e (iP t))],[(10,.cells 31 (iq (jv d k (l.getD x il)))),(5,.cells 31 (iq d))]⟩) (af [.b 10 (.iL rfl:Bx.le (.cells 31 (iq (l.getD x il))) (.cells 31 (iq (jv d 0 (l.getD x il)))))]),
      ij (0-(t:Int)) aC,.c (pW (0-(t:Int))),ag [gU (jv d k (l.getD x il)),gU (jy (0-(t:Int)))] (kH _ _ aD aD),tF 55 (0<(iN (jv d k (l.getD x il)) (jy (0-(t:Int))))) (by rw[Ir tO,b9]at wF;omega),ij ((x:Int)+1) aC]) aF 
    .obtain ⟨N,Bz,wJ,wI⟩:=(JK d (l.getD x il) k).resolve_left tO;exact iA (af [tT 18 ((x:Int)<l.length) aC,iX (x:Int) (l.length) aC,.s (Sp.jE (SC l d k t x N) 0 N aC (λi hi oM=>by
    have px:=sH (h:=d) (hl x) i;exact iA (ae [tT 23 ((i:Int)<k) aC,ag [gU (jv d i (l.getD x il)),gU d] (vj _ _ aD aD),ai 32 ((kg (jq (jv d i (l.getD x il)) d)) != 0) (AJ (wJ i aC)),ij ((i:Int)+1) aC]<|.e (af [.b 10 (.iL rfl:Bx.le (.cells 31 (iq (jm (jq (jv d i (l.getD x il)) d)))) (.cells 31 (iq (jv d (i+1) (l.getD x il)))))])) aF)
  (λhi=>by
    have px:=sH (h:=d) (hl x) N;have tm:=zY px;have td:=zY hd;obtain⟨T,hT⟩:∃ T,T=((k:Int)-N)*(Dy.ig d):=⟨_,rfl⟩
    have vD:=Kl (a:=(k:Int)-N) (b:=Dy.ig d) aC aC td.1 td.2;exact iA (af [tT 23 ((N:Int)<k) aC,ag [gU (jv d N (l.getD x il)),gU d] (vj _ _ aD aD),ah 32 ((kg (jq (jv d N (l.getD x il)) d)) != 0) (JJ wI),ag [gU (jv d N (l.getD x il))] (mK _ aD),ij ((k:Int)-N) aC,ag [gU d] (mK _ aD),ij (((k:Int)-N)*(Dy.ig d)) aC,ij ((Dy.ig (jv d N (l.getD x il)))+(((k:Int)-N)*(Dy.ig d))) aC,
    ij (0-(t:Int)) aC,ah 44 (decide (((Dy.ig (jv d N (l.getD x il)))+(((k:Int)-N)*(Dy.ig d)))<=(0-(t:Int)))) (by rw[Is Bz wJ wI]at wF;exact wF)]) aF) aI:jB 6 Tryz.f28 (SC l d k t x N 0) (.exit 2) ⟨57,true,[(11,.e (bP true)),(10,.box 10 0),(17,.e (iP x)),(16,.e (iP l.length)),(15,.e (jZ l)),(5,.box 5 0),(2,.e (iP k)),(3,.e (iP t))],[(10,.cells 31 (iq (jv d N (l.getD x il)))),(5,.cells 31 (iq d))]⟩) (af [.b 10 (.iL rfl:Bx.le (.cells 31 (iq (l.getD x il))) (.cells 31 (iq (jv d 0 (l.getD x il)))))]),
      ij ((x:Int)+1) aC]) aF)
  (λhx=>by
    have s9:=hl M;exact iA (af [tT 18 ((M:Int)<l.length) aC,iX (M:Int) (l.length) aC,.s (Sp.jE (SD l d k t M N) 0 N aC (λi hi oM=>by
    have px:=sH (h:=d) (hl M) i;exact iA (ae [tT 23 ((i:Int)<k) aC,ag [gU (jv d i (l.getD M il)),gU d] (vj _ _ aD aD),ai 32 ((kg (jq (jv d i (l.getD M il)) d)) != 0) (AJ (wJ i aC)),ij ((i:Int)+1) aC]<|.e (af [.b 10 (.iL rfl:Bx.le (.cells 31 (iq (jm (jq (jv d i (l.getD M il)) d)))) (.cells 31 (iq (jv d (i+1) (l.getD M il)))))])) aF)
  (λhi=>by
    have px:=sH (h:=d) (hl M) N;have tm:=zY px;have td:=zY hd;obtain⟨T,hT⟩:∃ T,T=((k:Int)-N)*(Dy.ig d):=⟨_,rfl⟩
    have vD:=Kl (a:=(k:Int)-N) (b:=Dy.ig d) aC aC td.1 td.2;exact iA (af [tT 23 ((N:Int)<k) aC,ag [gU (jv d N (l.getD M il)),gU d] (vj _ _ aD aD),ah 32 ((kg (jq (jv d N (l.getD M il)) d)) != 0) (JJ wI),ag [gU (jv d N (l.getD M il))] (mK _ aD),ij ((k:Int)-N) aC,ag [gU d] (mK _ aD),ij (((k:Int)-N)*(Dy.ig d)) aC,ij ((Dy.ig (jv d N (l.getD M il)))+(((k:Int)-N)*(Dy.ig d))) aC,
    ij (0-(t:Int)) aC,ai 44 (decide (((Dy.ig (jv d N (l.getD M il)))+(((k:Int)-N)*(Dy.ig d)))<=(0-(t:Int)))) (by rw[Is Bz wJ wI]at BE;exact BE)]) aF) aI:jB 6 Tryz.f28 (SD l d k t M N 0) .ret ⟨57,true,[(8,.e (bP false))],[]⟩) (af [.b 10 (.iL rfl:Bx.le (.cells 31 (iq (l.getD M il))) (.cells 31 (iq (jv d 0 (l.getD M il)))))])]) aF) aI:jB 2 Tryz.f28 (SH l d k t 0) .ret ⟨57,true,[(8,.e (bP false))],[]⟩) .nil]) 
def Bk(l:List Dy)(d:Dy)(k t:Nat)(rY:l.length<=100)(hl:∀ i,(l.getD i il).gX)(hd:d.gX)(hk:k<=16)(ht:t<=1000):gQ 28 [jZ l,gU d,iP k,iP t] (bP (qO l d k (t:Int))):=by
 by_cases hb:qO l d k (t:Int)=true
 .rw [hb];exact aaZ l d k t rY hl hd hk ht λx hx=>bN.1 hb x (bW.2 hx)
 .rw [aV hb];obtain⟨M,n1,n2,n3⟩:=PU hb;have hf:∀ x,x<M->sj d (t:Int) k (l.getD x il)=true:=λx hx=>by simpa using n3 x hx
  have BE:sj d (t:Int) k (l.getD M il)=false:=by simpa using n2
  rcases JK d (l.getD M il) k with ho|⟨N,h1,h2,h3⟩
  .exact aaX l d k t rY hl hd hk ht M n1 hf BE ho
  .exact aaY l d k t rY hl hd hk ht M n1 hf BE N h1 h2 h3
noncomputable def sX(s:jz)(x:List Iv)(d:Dy)(p:Nat):Option (List Iv):=@dite (Option (List Iv)) (lH s/\kf s.iH x/\d.gX/\0<d.iJ/\8<=p/\p<=512) (Classical.propDecidable _) (λh=>Classical.choose (R4 s x d p h.1 h.2.1 h.2.2.1 h.2.2.2.1 h.2.2.2.2.1 h.2.2.2.2.2)) (λ_=>none)
def Lu(s:jz)(x:List Iv)(d:Dy)(p:Nat)(h:lH s)(hx:kf s.iH x)(hd:d.gX)(h0:0<d.iJ)(ib:8<=p)(gW:p<=512):gQ 13 [kQ s,gY x,gU d,iP (p:Int)] (R3 (sX s x d p))/\(∀ b,sX s x d p=some b->kf s.iH b/\rZ s x d b p=true):=by
 have hh:lH s/\kf s.iH x/\d.gX/\0<d.iJ/\8<=p/\p<=512:=⟨h,hx,hd,h0,ib,gW⟩
 unfold sX;rw[fo hh];have:=cK (R4 s x d p h hx hd h0 ib gW);exact⟨this.1,this.2.1⟩
def Ii(s:jz)(x:List Iv)(d:Dy)(p:Nat)(h:lH s)(hx:kf s.iH x)(hd:d.gX)(h0:0<d.iJ)(ib:8<=p)(gW:p<=512)(hn:sX s x d p=none):gQ 13 [kQ s,gY x,gU d,iP (p:Int)] (.ie [.v (.slice none 0 0),iP 12]):=by
 have:=(Lu s x d p h hx hd h0 ib gW).1;rwa[hn]at this
def RU(s:jz)(x:List Iv)(d:Dy)(p:Nat)(h:lH s)(hx:kf s.iH x)(hd:d.gX)(h0:0<d.iJ)(ib:8<=p)(gW:p<=512){b:List Iv}(hn:sX s x d p=some b):gQ 13 [kQ s,gY x,gU d,iP (p:Int)] (.ie [gY b,iP 0]):=by
 have:=(Lu s x d p h hx hd h0 ib gW).1;rwa[hn]at this
def Bp{j:Int}(h:-248<=j):decide (0<=iN (nD j) (jy (-60)))=true:=by
 have e:=Ck (-60);rw[<-e];refine a6 ?_;have:¬iN (nD j) (nD (4*(-60-2)))<0:=λq=>absurd (Jz.1 q) aC 
 omega
def ab3{j:Int}(h:j < -248):decide (0<=iN (nD j) (jy (-60)))=false:=by
 have e:=Ck (-60);rw[<-e];refine a7 ?_;have:=(Jz (i:=j) (j:=4*(-60-2))).2 aC;omega
def EB{j:Int}(h:-248<=j):decide (iN (nD j) (jy (-60))<0)=false:=by
 have e:=Ck (-60);rw[<-e];exact a7 λq=>absurd (Jz.1 q) aC 
def Rc{j:Int}(h:j < -248):decide (iN (nD j) (jy (-60))<0)=true:=by
 have e:=Ck (-60);rw[<-e];exact a6 ((Jz (i:=j) (j:=4*(-60-2))).2 aC)
def tz:(jy (-60)).gX:=GI aE aE 
def sJ{a b:Int}(h:a=b):Bx.le (.cells 31 [bP (nD a).neg,gV (gR (nD a).m),iP (nD a).e]) (.cells 31 [bP (nD b).neg,gV (gR (nD b).m),iP (nD b).e]):=by subst h;exact .iL rfl
def aaQ(s:jz)(x:List Iv)(d:Dy)(mth ord mst:Int)(p t k:Nat)(h:lH s)(hx:kf s.iH x)(hd:d.gX)(h0:0<d.iJ)(hk:k<=16)(ht:t<=200)(ib:8<=p)(gW:p<=512)(hO:gQ 18 [.agg ([iP mth,iP ord,iP p]++iq d++[iP t,iP mst])] (.ie [iP (k:Int),iP 0]))(hM:gQ 26 [kQ s,gY x,iP (k:Int),iP (p:Int)] (.ie [.v (.slice none 0 0),bP false])):gQ 8 [kQ s,gY x,.agg ([iP mth,iP ord,iP p]++iq d++[iP t,iP mst])] (.ie [gU il,iP 12]):=by
 have s1:=h.s1;have s4:=h.s4;have lx:=hx.len;exact ak call8 func8 (af [ag [.agg ([iP mth,iP ord,iP p]++iq d++[iP t,iP mst])] hO,ai 21 ((0:Int) != 0) aE,.c (zw s aD),.c (ug x aC aC hx.ok),ai 37 ((x.length:Int) != (s.iH:Int)) (uS aC),ag [kQ s,gY x,iP k,iP p] hM,.o 51 (.e qH:aj (.agg ar) (gU il))]) 
def aaP(s:jz)(x:List Iv)(d:Dy)(mth ord mst:Int)(p t k:Nat)(h:lH s)(hx:kf s.iH x)(hd:d.gX)(h0:0<d.iJ)(hk:k<=16)(ht:t<=200)(ib:8<=p)(gW:p<=512)(hO:gQ 18 [.agg ([iP mth,iP ord,iP p]++iq d++[iP t,iP mst])] (.ie [iP (k:Int),iP 0]))(l:List Dy)(rY:l.length<=4)(hl:∀ i,(l.getD i il).gX)(hM:gQ 26 [kQ s,gY x,iP (k:Int),iP (p:Int)] (.ie [jZ l,bP true]))(j0:Int)(hN:gQ 15 [gU d] (.ie [gU (nD j0),bP true]))(hj:j0<=72)(n1 n2:Nat)(kF:∀ n,n<=n1->(nD (j0-(n:Int))).gX)(hA:∀ n:Nat,n<n1 -> -248<=j0-(n:Int)/\(qO l (nD (j0-(n:Int))) k (t:Int))=false)(hB:j0-(n1:Int) < -248)(h2:n2=0)(hD:∀ m:Nat,m<n2 -> -248<=j0-(n1:Int)-m/\(sX s x (nD (j0-(n1:Int)-m)) p)=none):gQ 8 [kQ s,gY x,.agg ([iP mth,iP ord,iP p]++iq d++[iP t,iP mst])] (.ie [gU il,iP 12]):=by
 have s1:=h.s1;have s4:=h.s4;have lx:=hx.len;exact ak call8 func8 (af [ag [.agg ([iP mth,iP ord,iP p]++iq d++[iP t,iP mst])] hO,ai 21 ((0:Int) != 0) aE,.c (zw s aD),.c (ug x aC aC hx.ok),ai 37 ((x.length:Int) != (s.iH:Int)) (uS aC),ag [kQ s,gY x,iP k,iP p] hM,ag [gU d] hN,.s (Sp.jE (QY s x d mth ord mst p t k l j0) 0 n1 aC (λn hn ME=>by
    obtain⟨sk,yr⟩:=hA n aC;have BZ:(nD (j0-(n:Int))).gX:=kF n aC;have tU:=tz;exact iA (ae [.c (pW (-60)),ag [gU (nD (j0-(n:Int))),gU (jy (-60))] (kH _ _ aD aD),ah 63 (decide (0<=(iN (nD (j0-(n:Int))) (jy (-60))))) (Bp sk),.c (Bk l (nD (j0-(n:Int))) k t aC hl aD hk aC),ah 72 (!(qO l (nD (j0-(n:Int))) k (t:Int))) (by rw[yr];rfl),ag [gU (nD (j0-(n:Int)))] (zO _ aC aC)]<|.e (af [.b 12 (sJ aC:Bx.le (.cells 31 (iq (nD (j0-(n:Int)-1)))) (.cells 31 (iq (nD (j0-((n+1:Nat):Int))))))])) aF)
  (λhn=>by
    have BZ:(nD (j0-(n1:Int))).gX:=kF n1 (bc _);have tU:=tz;exact iA (af [.c (pW (-60)),ag [gU (nD (j0-(n1:Int))),gU (jy (-60))] (kH _ _ aD aD),ai 63 (decide (0<=(iN (nD (j0-(n1:Int))) (jy (-60))))) (ab3 hB)]) aF) aI:jB 8 Tryz.f8 (QY s x d mth ord mst p t k l j0 0) (.exit 0) ⟨108,true,[(11,.e (bP true)),(12,.box 12 0),(6,.box 6 0),(5,.box 5 0),(3,.box 3 0),(1,.e (gY x))],[(12,.cells 31 (iq (nD (j0-(n1:Int))))),(6,.cells 31 ar),(5,.cells 33 ([iP mth,iP ord,iP p]++iq d++[iP t,iP mst])),(3,.cells 28 [iP s.tape.ic,kD s.tape.gS,kC s.tape.iu,iP s.iH,gY s.params])]⟩) (af [.b 12 (sJ aC:Bx.le (.cells 31 (iq (nD j0))) (.cells 31 (iq (nD (j0-((0:Nat):Int))))))]),.s (Sp.jE (Q2 s x d mth ord mst p t k l j0 n1) 0 n2 aC (λm hm I1=>by
    obtain⟨tI,hE⟩:=hD m aC;have px:(nD (j0-(n1:Int)-m)).gX:=uR aC aC;have tU:=tz;exact iA (ae [tT 80 ((m:Int)<40) aC,.c (pW (-60)),ag [gU (nD (j0-(n1:Int)-m)),gU (jy (-60))] (kH _ _ aD aD),ai 87 (decide ((iN (nD (j0-(n1:Int)-m)) (jy (-60)))<0)) (EB tI),ag [kQ s,gY x,gU (nD (j0-(n1:Int)-m)),iP p] (Ii s x _ p h hx aD (yW _) ib gW hE),ai 99 ((12:Int)==0) aE,ag [gU (nD (j0-(n1:Int)-m))] (zO _ aC aC),ij ((m:Int)+1) aC]<|.e (af [.b 12 (sJ aC:Bx.le (.cells 31 (iq (nD (j0-(n1:Int)-m-1)))) (.cells 31 (iq (nD (j0-(n1:Int)-((m+1:Nat):Int))))))])) aF)
  (λhm=>by
    have px:(nD (j0-(n1:Int)-n2)).gX:=by
     have:=kF n1 (bc _);rwa[(aC:j0-(n1:Int)-n2=j0-(n1:Int))]
    have tU:=tz;exact iA (af [tT 80 ((n2:Int)<40) aC,.c (pW (-60)),ag [gU (nD (j0-(n1:Int)-n2)),gU (jy (-60))] (kH _ _ aD aD),ah 87 (decide ((iN (nD (j0-(n1:Int)-n2)) (jy (-60)))<0)) (Rc aC)]) aF) aI:jB 11 Tryz.f8 (Q2 s x d mth ord mst p t k l j0 n1 0) (.exit 2) ⟨108,true,[(6,.box 6 0)],[(6,.cells 31 ar)]⟩) (af [.b 12 (sJ aC:Bx.le (.cells 31 (iq (nD (j0-(n1:Int))))) (.cells 31 (iq (nD (j0-(n1:Int)-((0:Nat):Int))))))]),.o 107 (.e qH:aj (.agg ar) (gU il))]) 
def aaM(s:jz)(x:List Iv)(d:Dy)(mth ord mst:Int)(p t k:Nat)(h:lH s)(hx:kf s.iH x)(hd:d.gX)(h0:0<d.iJ)(hk:k<=16)(ht:t<=200)(ib:8<=p)(gW:p<=512)(hO:gQ 18 [.agg ([iP mth,iP ord,iP p]++iq d++[iP t,iP mst])] (.ie [iP (k:Int),iP 0]))(l:List Dy)(rY:l.length<=4)(hl:∀ i,(l.getD i il).gX)(hM:gQ 26 [kQ s,gY x,iP (k:Int),iP (p:Int)] (.ie [jZ l,bP true]))(j0:Int)(hN:gQ 15 [gU d] (.ie [gU (nD j0),bP true]))(hj:j0<=72)(n1 n2:Nat)(kF:∀ n,n<=n1->(nD (j0-(n:Int))).gX)(hA:∀ n:Nat,n<n1 -> -248<=j0-(n:Int)/\(qO l (nD (j0-(n:Int))) k (t:Int))=false)(vy:-248<=j0-(n1:Int))(wC:(qO l (nD (j0-(n1:Int))) k (t:Int))=true)(h2:n2=40)(hD:∀ m:Nat,m<n2 -> -248<=j0-(n1:Int)-m/\(sX s x (nD (j0-(n1:Int)-m)) p)=none):gQ 8 [kQ s,gY x,.agg ([iP mth,iP ord,iP p]++iq d++[iP t,iP mst])] (.ie [gU il,iP 12]):=by
 have s1:=h.s1;have s4:=h.s4;have lx:=hx.len;exact ak call8 func8 (af [ag [.agg ([iP mth,iP ord,iP p]++iq d++[iP t,iP mst])] hO,ai 21 ((0:Int) != 0) aE,.c (zw s aD),.c (ug x aC aC hx.ok),ai 37 ((x.length:Int) != (s.iH:Int)) (uS aC),ag [kQ s,gY x,iP k,iP p] hM,ag [gU d] hN,.s (Sp.jE (QZ s x d mth ord mst p t k l j0) 0 n1 aC (λn hn ME=>by
    obtain⟨sk,yr⟩:=hA n aC;have BZ:(nD (j0-(n:Int))).gX:=kF n aC;have tU:=tz;exact iA (ae [.c (pW (-60)),ag [gU (nD (j0-(n:Int))),gU (jy (-60))] (kH _ _ aD aD),ah 63 (decide (0<=(iN (nD (j0-(n:Int))) (jy (-60))))) (Bp sk),.c (Bk l (nD (j0-(n:Int))) k t aC hl aD hk aC),ah 72 (!(qO l (nD (j0-(n:Int))) k (t:Int))) (by rw[yr];rfl),ag [gU (nD (j0-(n:Int)))] (zO _ aC aC)]<|.e (af [.b 12 (sJ aC:Bx.le (.cells 31 (iq (nD (j0-(n:Int)-1)))) (.cells 31 (iq (nD (j0-((n+1:Nat):Int))))))])) aF)
  (λhn=>by
    have BZ:(nD (j0-(n1:Int))).gX:=kF n1 (bc _);have tU:=tz;exact iA (af [.c (pW (-60)),ag [gU (nD (j0-(n1:Int))),gU (jy (-60))] (kH _ _ aD aD),ah 63 (decide (0<=(iN (nD (j0-(n1:Int))) (jy (-60))))) (Bp vy),.c (Bk l (nD (j0-(n1:Int))) k t aC hl aD hk aC),ai 72 (!(qO l (nD (j0-(n1:Int))) k (t:Int))) (by rw[wC];rfl)]) aF) aI:jB 8 Tryz.f8 (QZ s x d mth ord mst p t k l j0 0) (.exit 0) ⟨108,true,[(11,.e (bP true)),(12,.box 12 0),(6,.box 6 0),(5,.box 5 0),(3,.box 3 0),(1,.e (gY x))],[(12,.cells 31 (iq (nD (j0-(n1:Int))))),(6,.cells 31 ar),(5,.cells 33 ([iP mth,iP ord,iP p]++iq d++[iP t,iP mst])),(3,.cells 28 [iP s.tape.ic,kD s.tape.gS,kC s.tape.iu,iP s.iH,gY s.params])]⟩) (af [.b 12 (sJ aC:Bx.le (.cells 31 (iq (nD j0))) (.cells 31 (iq (nD (j0-((0:Nat):Int))))))]),.s (Sp.jE (Q3 s x d mth ord mst p t k l j0 n1) 0 n2 aC (λm hm I1=>by
    obtain⟨tI,hE⟩:=hD m aC;have px:(nD (j0-(n1:Int)-m)).gX:=uR aC aC;have tU:=tz;exact iA (ae [tT 80 ((m:Int)<40) aC,.c (pW (-60)),ag [gU (nD (j0-(n1:Int)-m)),gU (jy (-60))] (kH _ _ aD aD),ai 87 (decide ((iN (nD (j0-(n1:Int)-m)) (jy (-60)))<0)) (EB tI),ag [kQ s,gY x,gU (nD (j0-(n1:Int)-m)),iP p] (Ii s x _ p h hx aD (yW _) ib gW hE),ai 99 ((12:Int)==0) aE,ag [gU (nD (j0-(n1:Int)-m))] (zO _ aC aC),ij ((m:Int)+1) aC]<|.e (af [.b 12 (sJ aC:Bx.le (.cells 31 (iq (nD (j0-(n1:Int)-m-1)))) (.cells 31 (iq (nD (j0-(n1:Int)-((m+1:Nat):Int))))))])) aF)
  (λhm=>by
    exact iA (af [tF 80 ((n2:Int)<40) aC]) aF) aI:jB 11 Tryz.f8 (Q3 s x d mth ord mst p t k l j0 n1 0) (.exit 2) ⟨108,true,[(6,.box 6 0)],[(6,.cells 31 ar)]⟩) (af [.b 12 (sJ aC:Bx.le (.cells 31 (iq (nD (j0-(n1:Int))))) (.cells 31 (iq (nD (j0-(n1:Int)-((0:Nat):Int))))))]),.o 107 (.e qH:aj (.agg ar) (gU il))]) 
def aaR(s:jz)(x:List Iv)(d:Dy)(mth ord mst:Int)(p t k:Nat)(h:lH s)(hx:kf s.iH x)(hd:d.gX)(h0:0<d.iJ)(hk:k<=16)(ht:t<=200)(ib:8<=p)(gW:p<=512)(hO:gQ 18 [.agg ([iP mth,iP ord,iP p]++iq d++[iP t,iP mst])] (.ie [iP (k:Int),iP 0]))(l:List Dy)(rY:l.length<=4)(hl:∀ i,(l.getD i il).gX)(hM:gQ 26 [kQ s,gY x,iP (k:Int),iP (p:Int)] (.ie [jZ l,bP true]))(j0:Int)(hN:gQ 15 [gU d] (.ie [gU (nD j0),bP true]))(hj:j0<=72)(n1 n2:Nat)(kF:∀ n,n<=n1->(nD (j0-(n:Int))).gX)(hA:∀ n:Nat,n<n1 -> -248<=j0-(n:Int)/\(qO l (nD (j0-(n:Int))) k (t:Int))=false)(vy:-248<=j0-(n1:Int))(wC:(qO l (nD (j0-(n1:Int))) k (t:Int))=true)(h2:n2<40)(hS:j0-(n1:Int)-n2 < -248)(Ti:-249<=j0-(n1:Int)-n2)(hD:∀ m:Nat,m<n2 -> -248<=j0-(n1:Int)-m/\(sX s x (nD (j0-(n1:Int)-m)) p)=none):gQ 8 [kQ s,gY x,.agg ([iP mth,iP ord,iP p]++iq d++[iP t,iP mst])] (.ie [gU il,iP 12]):=by
 have s1:=h.s1;have s4:=h.s4;have lx:=hx.len;exact ak call8 func8 (af [ag [.agg ([iP mth,iP ord,iP p]++iq d++[iP t,iP mst])] hO,ai 21 ((0:Int) != 0) aE,.c (zw s aD),.c (ug x aC aC hx.ok),ai 37 ((x.length:Int) != (s.iH:Int)) (uS aC),ag [kQ s,gY x,iP k,iP p] hM,ag [gU d] hN,.s (Sp.jE (Q0 s x d mth ord mst p t k l j0) 0 n1 aC (λn hn ME=>by
    obtain⟨sk,yr⟩:=hA n aC;have BZ:(nD (j0-(n:Int))).gX:=kF n aC;have tU:=tz;exact iA (ae [.c (pW (-60)),ag [gU (nD (j0-(n:Int))),gU (jy (-60))] (kH _ _ aD aD),ah 63 (decide (0<=(iN (nD (j0-(n:Int))) (jy (-60))))) (Bp sk),.c (Bk l (nD (j0-(n:Int))) k t aC hl aD hk aC),ah 72 (!(qO l (nD (j0-(n:Int))) k (t:Int))) (by rw[yr];rfl),ag [gU (nD (j0-(n:Int)))] (zO _ aC aC)]<|.e (af [.b 12 (sJ aC:Bx.le (.cells 31 (iq (nD (j0-(n:Int)-1)))) (.cells 31 (iq (nD (j0-((n+1:Nat):Int))))))])) aF)
  (λhn=>by
    have BZ:(nD (j0-(n1:Int))).gX:=kF n1 (bc _);have tU:=tz;exact iA (af [.c (pW (-60)),ag [gU (nD (j0-(n1:Int))),gU (jy (-60))] (kH _ _ aD aD),ah 63 (decide (0<=(iN (nD (j0-(n1:Int))) (jy (-60))))) (Bp vy),.c (Bk l (nD (j0-(n1:Int))) k t aC hl aD hk aC),ai 72 (!(qO l (nD (j0-(n1:Int))) k (t:Int))) (by rw[wC];rfl)]) aF) aI:jB 8 Tryz.f8 (Q0 s x d mth ord mst p t k l j0 0) (.exit 0) ⟨108,true,[(11,.e (bP true)),(12,.box 12 0),(6,.box 6 0),(5,.box 5 0),(3,.box 3 0),(1,.e (gY x))],[(12,.cells 31 (iq (nD (j0-(n1:Int))))),(6,.cells 31 ar),(5,.cells 33 ([iP mth,iP ord,iP p]++iq d++[iP t,iP mst])),(3,.cells 28 [iP s.tape.ic,kD s.tape.gS,kC s.tape.iu,iP s.iH,gY s.params])]⟩) (af [.b 12 (sJ aC:Bx.le (.cells 31 (iq (nD j0))) (.cells 31 (iq (nD (j0-((0:Nat):Int))))))]),.s (Sp.jE (Q4 s x d mth ord mst p t k l j0 n1) 0 n2 aC (λm hm I1=>by
    obtain⟨tI,hE⟩:=hD m aC;have px:(nD (j0-(n1:Int)-m)).gX:=uR aC aC;have tU:=tz;exact iA (ae [tT 80 ((m:Int)<40) aC,.c (pW (-60)),ag [gU (nD (j0-(n1:Int)-m)),gU (jy (-60))] (kH _ _ aD aD),ai 87 (decide ((iN (nD (j0-(n1:Int)-m)) (jy (-60)))<0)) (EB tI),ag [kQ s,gY x,gU (nD (j0-(n1:Int)-m)),iP p] (Ii s x _ p h hx aD (yW _) ib gW hE),ai 99 ((12:Int)==0) aE,ag [gU (nD (j0-(n1:Int)-m))] (zO _ aC aC),ij ((m:Int)+1) aC]<|.e (af [.b 12 (sJ aC:Bx.le (.cells 31 (iq (nD (j0-(n1:Int)-m-1)))) (.cells 31 (iq (nD (j0-(n1:Int)-((m+1:Nat):Int))))))])) aF)
  (λhm=>by
    have px:(nD (j0-(n1:Int)-n2)).gX:=uR aC aC;have tU:=tz;exact iA (af [tT 80 ((n2:Int)<40) aC,.c (pW (-60)),ag [gU (nD (j0-(n1:Int)-n2)),gU (jy (-60))] (kH _ _ aD aD),ah 87 (decide ((iN (nD (j0-(n1:Int)-n2)) (jy (-60)))<0)) (Rc hS)]) aF) aI:jB 11 Tryz.f8 (Q4 s x d mth ord mst p t k l j0 n1 0) (.exit 2) ⟨108,true,[(6,.box 6 0)],[(6,.cells 31 ar)]⟩) (af [.b 12 (sJ aC:Bx.le (.cells 31 (iq (nD (j0-(n1:Int))))) (.cells 31 (iq (nD (j0-(n1:Int)-((0:Nat):Int))))))]),.o 107 (.e qH:aj (.agg ar) (gU il))]) 
def aaO(s:jz)(x:List Iv)(d:Dy)(mth ord mst:Int)(p t k:Nat)(h:lH s)(hx:kf s.iH x)(hd:d.gX)(h0:0<d.iJ)(hk:k<=16)(ht:t<=200)(ib:8<=p)(gW:p<=512)(hO:gQ 18 [.agg ([iP mth,iP ord,iP p]++iq d++[iP t,iP mst])] (.ie [iP (k:Int),iP 0]))(l:List Dy)(rY:l.length<=4)(hl:∀ i,(l.getD i il).gX)(hM:gQ 26 [kQ s,gY x,iP (k:Int),iP (p:Int)] (.ie [jZ l,bP true]))(j0:Int)(hN:gQ 15 [gU d] (.ie [gU (nD j0),bP true]))(hj:j0<=72)(n1 n2:Nat)(kF:∀ n,n<=n1->(nD (j0-(n:Int))).gX)(hA:∀ n:Nat,n<n1 -> -248<=j0-(n:Int)/\(qO l (nD (j0-(n:Int))) k (t:Int))=false)(vy:-248<=j0-(n1:Int))(wC:(qO l (nD (j0-(n1:Int))) k (t:Int))=true)(h2:n2<40)(hS:-248<=j0-(n1:Int)-n2)(bx:List Iv)(hE:(sX s x (nD (j0-(n1:Int)-n2)) p)=some bx)(hD:∀ m:Nat,m<n2 -> -248<=j0-(n1:Int)-m/\(sX s x (nD (j0-(n1:Int)-m)) p)=none):gQ 8 [kQ s,gY x,.agg ([iP mth,iP ord,iP p]++iq d++[iP t,iP mst])] (.ie [gU (nD (j0-(n1:Int)-n2)),iP 0]):=by
 have s1:=h.s1;have s4:=h.s4;have lx:=hx.len;exact ak call8 func8 (af [ag [.agg ([iP mth,iP ord,iP p]++iq d++[iP t,iP mst])] hO,ai 21 ((0:Int) != 0) aE,.c (zw s aD),.c (ug x aC aC hx.ok),ai 37 ((x.length:Int) != (s.iH:Int)) (uS aC),ag [kQ s,gY x,iP k,iP p] hM,ag [gU d] hN,.s (Sp.jE (Q1 s x d mth ord mst p t k l j0) 0 n1 aC (λn hn ME=>by
    obtain⟨sk,yr⟩:=hA n aC;have BZ:(nD (j0-(n:Int))).gX:=kF n aC;have tU:=tz;exact iA (ae [.c (pW (-60)),ag [gU (nD (j0-(n:Int))),gU (jy (-60))] (kH _ _ aD aD),ah 63 (decide (0<=(iN (nD (j0-(n:Int))) (jy (-60))))) (Bp sk),.c (Bk l (nD (j0-(n:Int))) k t aC hl aD hk aC),ah 72 (!(qO l (nD (j0-(n:Int))) k (t:Int))) (by rw[yr];rfl),ag [gU (nD (j0-(n:Int)))] (zO _ aC aC)]<|.e (af [.b 12 (sJ aC:Bx.le (.cells 31 (iq (nD (j0-(n:Int)-1)))) (.cells 31 (iq (nD (j0-((n+1:Nat):Int))))))])) aF)
  (λhn=>by
    have BZ:(nD (j0-(n1:Int))).gX:=kF n1 (bc _);have tU:=tz;exact iA (af [.c (pW (-60)),ag [gU (nD (j0-(n1:Int))),gU (jy (-60))] (kH _ _ aD aD),ah 63 (decide (0<=(iN (nD (j0-(n1:Int))) (jy (-60))))) (Bp vy),.c (Bk l (nD (j0-(n1:Int))) k t aC hl aD hk aC),ai 72 (!(qO l (nD (j0-(n1:Int))) k (t:Int))) (by rw[wC];rfl)]) aF) aI:jB 8 Tryz.f8 (Q1 s x d mth ord mst p t k l j0 0) (.exit 0) ⟨108,true,[(11,.e (bP true)),(12,.box 12 0),(6,.box 6 0),(5,.box 5 0),(3,.box 3 0),(1,.e (gY x))],[(12,.cells 31 (iq (nD (j0-(n1:Int))))),(6,.cells 31 ar),(5,.cells 33 ([iP mth,iP ord,iP p]++iq d++[iP t,iP mst])),(3,.cells 28 [iP s.tape.ic,kD s.tape.gS,kC s.tape.iu,iP s.iH,gY s.params])]⟩) (af [.b 12 (sJ aC:Bx.le (.cells 31 (iq (nD j0))) (.cells 31 (iq (nD (j0-((0:Nat):Int))))))]),.s (Sp.jE (Q5 s x d mth ord mst p t k l j0 n1) 0 n2 aC (λm hm I1=>by
    obtain⟨tI,hE⟩:=hD m aC;have px:(nD (j0-(n1:Int)-m)).gX:=uR aC aC;have tU:=tz;exact iA (ae [tT 80 ((m:Int)<40) aC,.c (pW (-60)),ag [gU (nD (j0-(n1:Int)-m)),gU (jy (-60))] (kH _ _ aD aD),ai 87 (decide ((iN (nD (j0-(n1:Int)-m)) (jy (-60)))<0)) (EB tI),ag [kQ s,gY x,gU (nD (j0-(n1:Int)-m)),iP p] (Ii s x _ p h hx aD (yW _) ib gW hE),ai 99 ((12:Int)==0) aE,ag [gU (nD (j0-(n1:Int)-m))] (zO _ aC aC),ij ((m:Int)+1) aC]<|.e (af [.b 12 (sJ aC:Bx.le (.cells 31 (iq (nD (j0-(n1:Int)-m-1)))) (.cells 31 (iq (nD (j0-(n1:Int)-((m+1:Nat):Int))))))])) aF)
  (λhm=>by
    have px:(nD (j0-(n1:Int)-n2)).gX:=uR aC aC;have tU:=tz;exact iA (af [tT 80 ((n2:Int)<40) aC,.c (pW (-60)),ag [gU (nD (j0-(n1:Int)-n2)),gU (jy (-60))] (kH _ _ aD aD),ai 87 (decide ((iN (nD (j0-(n1:Int)-n2)) (jy (-60)))<0)) (EB hS),ag [kQ s,gY x,gU (nD (j0-(n1:Int)-n2)),iP p] (RU s x _ p h hx aD (yW _) ib gW hE),ah 99 ((0:Int)==0) aE]) aF) aI:jB 11 Tryz.f8 (Q5 s x d mth ord mst p t k l j0 n1 0) .ret ⟨108,true,[(7,.e (iP 0)),(6,.box 6 0)],[(6,.cells 31 (iq (nD (j0-(n1:Int)-n2))))]⟩) (af [.b 12 (sJ aC:Bx.le (.cells 31 (iq (nD (j0-(n1:Int))))) (.cells 31 (iq (nD (j0-(n1:Int)-((0:Nat):Int))))))])]) 
def j72{j0:Int}{d:Dy}(hq:(nD j0).q<=d.q)(hc:iN d (jy 20)<=0):j0<=72:=by
 have e:=Ck 20;rw[<-e,oO]at hc;apply bM;intro q;have:=NG (aC:4*(20-2)<j0);exact absurd (bI hq hc) (gJ.2 this)
def Q7:Option Int->E
 |some j=>.ie [gU (nD j),iP 0]
 |none=>.ie [gU il,iP 12]
def aaN(s:jz)(x:List Iv)(d:Dy)(mth ord mst:Int)(p t k:Nat)(h:lH s)(hx:kf s.iH x)(hd:d.gX)(h0:0<d.iJ)(hk:k<=16)(ht:t<=200)(ib:8<=p)(gW:p<=512)(hO:gQ 18 [.agg ([iP mth,iP ord,iP p]++iq d++[iP t,iP mst])] (.ie [iP (k:Int),iP 0]))(hc:iN d (jy 20)<=0):∃ (o:Option Int) (j0:Int) (n1 n2:Nat),gQ 8 [kQ s,gY x,.agg ([iP mth,iP ord,iP p]++iq d++[iP t,iP mst])] (Q7 o)/\rA d.m d.e=nD j0/\(nD j0).q<=d.q/\j0<=72 /\
 KI (λj=>qO (vR s x k p) (nD j) k (t:Int)) (λj=>(sX s x (nD j) p).isSome) j0 n1 n2 /\
 (∀ j,o=some j->AF s x k p=true/\GZ j0 n1 n2/\j=j0-n1-n2)/\(o=none->AF s x k p=true->¬GZ j0 n1 n2):=by
 obtain⟨j0,yC,Mw,Df⟩:=NS hd h0;have hj:=j72 Df hc;obtain⟨n1,n2,hL⟩:=agM (λj=>qO (vR s x k p) (nD j) k (t:Int)) (λj=>(sX s x (nD j) p).isSome) j0;have hM:=aa7 s x k p h hx hk ib gW;by_cases hb:AF s x k p=true
 .rw [aZ hb]at hM;have hN:=K3 d hd h0;rw[yC]at hN;obtain⟨rY,hl⟩:=agU h hx hk ib gW hb;have kF:∀ n,n<=n1->(nD (j0-(n:Int))).gX:=λn hn=>by
   rcases n with _|n
   .rwa [(aC:j0-((0:Nat):Int)=j0)]
   .have:=(hL.a n aC).1;exact uR aC aC 
  have hA:∀ n:Nat,n<n1 -> -248<=j0-(n:Int)/\qO (vR s x k p) (nD (j0-(n:Int))) k (t:Int)=false:=λn hn=>hL.a n hn
  have hD:∀ m:Nat,m<n2 -> -248<=j0-(n1:Int)-m/\sX s x (nD (j0-(n1:Int)-m)) p=none:=λm hm=>by
   obtain⟨d1,d2⟩:=hL.d m hm;refine⟨d1,?_⟩;cases he:sX s x (nD (j0-(n1:Int)-m)) p with
   |none=>rfl
   |some b=>simp only[he]at d2;cases d2
  by_cases hB:j0-(n1:Int) < -248
  .have h2:n2=0:=by
    apply bM;intro q;have:=(hL.d 0 aC).1;omega
   exact⟨none,j0,n1,n2,aaP s x d mth ord mst p t k h hx hd h0 hk ht ib gW hO _ rY hl hM j0 hN hj n1 n2 kF hA hB h2 hD,yC,Df,hj,hL,nofun,λ_ _ q=>by have:=q.2;omega⟩
  .have vy:-248<=j0-(n1:Int):= aC ;have wC:=hL.b.resolve_left hB;have alT:=hL.c;by_cases S4:n2=40
   .exact ⟨none,j0,n1,n2,aaM s x d mth ord mst p t k h hx hd h0 hk ht ib gW hO _ rY hl hM j0 hN hj n1 n2 kF hA vy wC S4 hD,yC,Df,hj,hL,nofun,λ_ _ q=>by have:=q.1;omega⟩
   by_cases hS:j0-(n1:Int)-n2 < -248
   .have Ti:-249<=j0-(n1:Int)-n2:=by
     by_cases q:n2=0
     .omega
     .have:=(hL.d (n2-1) aC).1;omega
    exact⟨none,j0,n1,n2,aaR s x d mth ord mst p t k h hx hd h0 hk ht ib gW hO _ rY hl hM j0 hN hj n1 n2 kF hA vy wC aC hS Ti hD,yC,Df,hj,hL,nofun,λ_ _ q=>by have:=q.2;omega⟩
   .have hE:=(hL.e.resolve_left S4).resolve_left hS;obtain⟨bx,iU⟩:=fc.1 hE;refine⟨some (j0-n1-n2),j0,n1,n2,aaO s x d mth ord mst p t k h hx hd h0 hk ht ib gW hO _ rY hl hM j0 hN hj n1 n2 kF hA vy wC aC aC bx iU hD,yC,Df,hj,hL,λj hjj=>?_,nofun⟩;cases hjj;exact⟨hb,⟨aC,aC⟩,rfl⟩
 .rw [aY hb]at hM;exact⟨none,j0,n1,n2,aaQ s x d mth ord mst p t k h hx hd h0 hk ht ib gW hO hM,yC,Df,hj,hL,nofun,λ_ q=>absurd q hb⟩
def YN(z:Iv)(p N:Nat)(x:Nat):PS:=⟨39,true,[(8,.e (iP ((2*x+3:Nat):Int))),(7,.box 7 0),(6,.box 6 0),(5,.box 5 0),(4,.box 4 0),(2,.box 2 0)],[(7,.cells 44 (iE (uN z p x))),(6,.cells 44 (iE (nO z p x))),(5,.cells 44 (iE (om z p))),(4,.cells 44 au),(2,.cells 203 [iP p])]⟩
def aln(z:Iv)(p N:Nat)(hz:z.gX)(ib:8<=p)(gW:p<=512)(h2:N<=1000)(jG:∀ x,x<N->oH (nO z p x) p=false)(hN:oH (nO z p N) p=true):gQ 258 [.agg [iP p],ia z] (ia (DE z p N)):=by
 have hsq:=Kf hz (aC:1<=p) (aC:p<=4096);have t0:=xI hz ib gW N;have s0:=Ce hz ib gW N;have r0:=CS t0;have a0:=qJ s0 r0 (aC:1<=p) (aC:p<=4096);exact ak call258 func258 (ae [ag [ia z,iP p] (Qo _ aD _ aC aC),.s (Sp.jE (YN z p N) 0 N aC (λx hx mn=>by
    have t0:=xI hz ib gW x;have s0:=Ce hz ib gW x;have q0:(iy (nO z p x) (om z p) p).gX:=nY _ _ aC aC;have n1:(ji ((2*x+3:Nat):Int)).gX:=Co _ aC;have d1:(jh (iy (nO z p x) (om z p) p) (ji ((2*x+3:Nat):Int)) p).gX:=pX _ _ aC aC;exact iA (ae [.c (Kz p (nO z p x) aD aC aC),ai 17 (oH (nO z p x) p) (jG x aC),.c (Ky p (nO z p x) (om z p) aD aD aC aC),.c (w8 ((2*x+3:Nat):Int) aC),.c (GN p (iy (nO z p x) (om z p) p) (ji ((2*x+3:Nat):Int)) aD aD aC aC),.c (Bb p (uN z p x) (jh (iy (nO z p x) (om z p) p) (ji ((2*x+3:Nat):Int)) p) aD aD aC aC),ij (((2*x+3:Nat):Int)+2) aC]<|.e (af [.o 8 (aq (((2*x+3)+2:Nat):Int) ((2*(x+1)+3:Nat):Int) aO),.b 7 (.iL rfl:Bx.le (.cells 44 (iE (jC (uN z p x) (jh (iy (nO z p x) (om z p) p) (ji ((2*x+3:Nat):Int)) p) p))) (.cells 44 (iE (uN z p (x+1))))),.b 6 (.iL rfl:Bx.le (.cells 44 (iE (iy (nO z p x) (om z p) p))) (.cells 44 (iE (nO z p (x+1)))))])) aF)
  (λhx=>by
    have t0:=xI hz ib gW N;have s0:=Ce hz ib gW N;have q0:(iy (nO z p N) (om z p) p).gX:=nY _ _ aC aC;have n1:(ji ((2*N+3:Nat):Int)).gX:=Co _ aC;have d1:(jh (iy (nO z p N) (om z p) p) (ji ((2*N+3:Nat):Int)) p).gX:=pX _ _ aC aC;exact iA (af [.c (Kz p (nO z p N) aD aC aC),ah 17 (oH (nO z p N) p) hN]) aF) aI:jB 4 f258 (YN z p N 0) (.exit 0) ⟨39,true,[(7,.box 7 0),(6,.box 6 0),(4,.box 4 0),(2,.box 2 0)],[(7,.cells 44 (iE (uN z p N))),(6,.cells 44 (iE (nO z p N))),(4,.cells 44 au),(2,.cells 203 [iP p])]⟩) (af [.o 8 (aq 3 ((2*0+3:Nat):Int) aO),.b 7 (.iL rfl:Bx.le (.cells 44 (iE z)) (.cells 44 (iE (uN z p 0)))),.b 6 (.iL rfl:Bx.le (.cells 44 (iE z)) (.cells 44 (iE (nO z p 0))))]),ag [ia (nO z p N)] (YU _ aD),.c (Bb p (uN z p N) (qK (nO z p N)) aD aD aC aC),.c (Hg (jC (uN z p N) (qK (nO z p N)) p) aD 1 aC aC)]<|rR (ia (DE z p N)) (.refl _:E.le (ia (lF (jC (uN z p N) (qK (nO z p N)) p) 1)) (ia (DE z p N)))) 
def CK(f:Nat->Rat)(X:Iv):Prop:=∃ N0,∀ M,N0<=M->X.jO (f M)
def CK.mono{f:Nat->Rat}{X Y:Iv}(h:CK f X)(k:∀ r,X.jO r->Y.jO r):CK f Y:=h.imp λ_ h M hM=>k _ (h M hM)
def YO{z:Iv}(hz:z.gX)(hb:z.all=true\/Sub z (po (-1))){p:Nat}(ib:8<=p)(gW:p<=512):∃ Z,Z.gX/\(∀ r,z.jO r->iQ r*2<=1->CK (λM=>AQ r M*2) Z)/\gQ 258 [.agg [iP p],ia z] (ia Z):=by
 obtain⟨N,h1,h2,h3⟩:=agr hz hb ib gW;exact⟨DE z p N,agq hz ib gW N,λr hr ha=>⟨N,λM hM=>agp hz hr ha ib gW h1 M hM⟩,aln z p N hz ib gW h1 h2 h3⟩
def akN{p:Nat}(ib:8<=p)(gW:p<=512):(jh (ji 1) (ji 3) p).gX/\(jh (ji 1) (ji 3) p).jO (1/3)/\Sub (jh (ji 1) (ji 3) p) (po (-1)):=by
 have v1:(ji 1).gX:=vU aE;have v3:(ji 3).gX:=vU aE;have h1:=y4 1;have h3:=y4 3;refine⟨pX _ _ aC aC,?_,?_⟩
 .have:=Ia v1 v3 (p:=p) aC aC h1 h3;rwa[show((1:Int):Rat)/((3:Int):Rat)=1/3 from rfl]at this
 .have hs:nh (ji 3)≠0:=O4 rfl (.inl (by show 0<(iR 3).q;rw[AO];decide));refine Et (H9 v1 v3 rfl hs (p:=p) aC aC) aC aE aE ?_;rintro r ⟨a,b,ha,hb,rfl⟩;obtain⟨a1,a2⟩:=ha.jW rfl;obtain⟨b1,b2⟩:=hb.jW rfl;change (iR 1).q<=a at a1;change a<=(iR 1).q at a2;change (iR 3).q<=b at b1;change b<=(iR 3).q at b2;rw[AO]at a1 a2 b1 b2;have ea:a=1:=fu a2 a1;have eb:b=3:=fu b2 b1;subst ea eb;have:P2 (-1)=1/2:= aL ;rw[this];exact⟨aL,aL⟩
def alE(p:Nat)(Z:Iv)(hZ:Z.gX)(hL:gQ 258 [.agg [iP (((min (p+16) 512):Nat):Int)],ia (jh (ji 1) (ji 3) (min (p+16) 512))] (ia Z))(ib:8<=p)(gW:p<=512):gQ 260 [iP p] (ia (lE Z p)):=by
 have v1:(ji 1).gX:=vU aE;have v3:(ji 3).gX:=vU aE;exact ak call260 func260 (af [tF 5 ((p:Int)<8) aC,tF 8 (512<(p:Int)) aC,.c (Ps p 16 aC aC),.c (w8 1 aC),.c (w8 3 aC),.c (GN (min (p+16) 512) (ji 1) (ji 3) aD aD aC aC),ag [.agg [iP ((min (p+16) 512:Nat):Int)],ia (jh (ji 1) (ji 3) (min (p+16) 512))] hL,.c (Er Z aD p aC aC)]) 
def alD{p:Nat}(ib:8<=p)(gW:p<=512):∃ Z,Z.gX/\CK (λM=>AQ (1/3) M*2) Z/\gQ 260 [iP (p:Int)] (ia Z):=by
 obtain⟨t1,t2,t3⟩:=akN (p:=min (p+16) 512) aC aC;obtain⟨Z,h1,h2,h3⟩:=YO t1 (.inr t3) (p:=min (p+16) 512) aC aC;refine⟨lE Z p,D0 h1 aC aC,(h2 _ t2 aL).mono λr hr=>Gq h1 aC aC hr,alE p Z h1 h3 ib gW⟩
def xS:Iv:=⟨il,il,false⟩
def YY:E.le (.agg au) (ia xS):=
 .agg (.cons (.refl _) (.cons Cn (.cons (.refl _) (.cons (.refl _) (.cons Cn (.cons (.refl _) (.cons (.refl _) .nil)))))))
def alJ(d:Dy)(p:Nat)(hd:d.gX)(h1:iN d ⟨false,1,0⟩=0)(ib:8<=p)(gW:p<=512):gQ 231 [gU d,iP p] (ia xS):=by
 have v1:=DO;exact ak call231 func231 (ae [ag [iP 1] KW,ag [gU d,gU (Dy.mk false 1 0)] (kH _ _ aD aD),ah 12 ((iN d (Dy.mk false 1 0))==0) (by rw[h1];rfl)]<|rR (ia xS) (YY:E.le (.agg au) (ia xS))) 
def alK(d:Dy)(p:Nat)(Z Y:Iv)(hd:d.gX)(h1:¬iN d ⟨false,1,0⟩=0)(Ud:-20000<=d.ig)(sC:d.ig<=20000)(hZ:Z.gX)(hY:Y.gX)(hL:gQ 258 [.agg [iP (((min (p+40) 512):Nat):Int)],ia (jh (jC (lF (lE (mg d) (min (p+40) 512)) (0-(Dy.ig d))) (ji (-1)) (min (p+40) 512)) (jC (lF (lE (mg d) (min (p+40) 512)) (0-(Dy.ig d))) (ji 1) (min (p+40) 512)) (min (p+40) 512))] (ia Z))(hL2:gQ 260 [iP (((min (p+40) 512):Nat):Int)] (ia Y))(ib:8<=p)(gW:p<=512):gQ 231 [gU d,iP p] (ia (lE (jC Z (iy (ji d.ig) Y (min (p+40) 512)) (min (p+40) 512)) p)):=by
 have v1:=DO;have vp:=uV hd;have vr:(lE (mg d) (min (p+40) 512)).gX:=D0 vp aC aC;have vs:(lF (lE (mg d) (min (p+40) 512)) (0-(Dy.ig d))).gX:=Gv vr _;have n1:(ji 1).gX:=vU aE;have n2:(ji (-1)).gX:=vU aE;have a1:(jC (lF (lE (mg d) (min (p+40) 512)) (0-(Dy.ig d))) (ji (-1)) (min (p+40) 512)).gX:=qJ vs n2 aC aC;have a2:(jC (lF (lE (mg d) (min (p+40) 512)) (0-(Dy.ig d))) (ji 1) (min (p+40) 512)).gX:=qJ vs n1 aC aC;have a3:(jh (jC (lF (lE (mg d) (min (p+40) 512)) (0-(Dy.ig d))) (ji (-1)) (min (p+40) 512)) (jC (lF (lE (mg d) (min (p+40) 512)) (0-(Dy.ig d))) (ji 1) (min (p+40) 512)) (min (p+40) 512)).gX:=pX _ _ aC aC;have nt:(ji d.ig).gX:=vU aC;have m1:(iy (ji d.ig) Y (min (p+40) 512)).gX:=nY _ _ aC aC;have m2:(jC Z (iy (ji d.ig) Y (min (p+40) 512)) (min (p+40) 512)).gX:=qJ hZ m1 aC aC;exact ak call231 func231 (af [ag [iP 1] KW,ag [gU d,gU (Dy.mk false 1 0)] (kH _ _ aD aD),ai 12 ((iN d (Dy.mk false 1 0))==0) (by simpa using h1),.c (Ps p 40 aC aC),ag [gU d] (mK _ aD),.c (AA d aD),.c (Er (mg d) aD (min (p+40) 512) aC aC),
  ij (0-(Dy.ig d)) aC,.c (Hg (lE (mg d) (min (p+40) 512)) aD (0-(Dy.ig d)) aC aC),.c (w8 (-1) aC),.c (Bb (min (p+40) 512) (lF (lE (mg d) (min (p+40) 512)) (0-(Dy.ig d))) (ji (-1)) aD aD aC aC),.c (w8 1 aC),.c (Bb (min (p+40) 512) (lF (lE (mg d) (min (p+40) 512)) (0-(Dy.ig d))) (ji 1) aD aD aC aC),.c (GN (min (p+40) 512) (jC (lF (lE (mg d) (min (p+40) 512)) (0-(Dy.ig d))) (ji (-1)) (min (p+40) 512)) (jC (lF (lE (mg d) (min (p+40) 512)) (0-(Dy.ig d))) (ji 1) (min (p+40) 512)) aD aD aC aC),ag [.agg [iP ((min (p+40) 512:Nat):Int)],ia (jh (jC (lF (lE (mg d) (min (p+40) 512)) (0-(Dy.ig d))) (ji (-1)) (min (p+40) 512)) (jC (lF (lE (mg d) (min (p+40) 512)) (0-(Dy.ig d))) (ji 1) (min (p+40) 512)) (min (p+40) 512))] hL,.c (w8 (Dy.ig d) aC),ag [iP ((min (p+40) 512:Nat):Int)] hL2,.c (Ky (min (p+40) 512) (ji (Dy.ig d)) Y aD aD aC aC),.c (Bb (min (p+40) 512) Z (iy (ji (Dy.ig d)) Y (min (p+40) 512)) aD aD aC aC),.c (Er (jC Z (iy (ji (Dy.ig d)) Y (min (p+40) 512)) (min (p+40) 512)) aD p aC aC)]) 
def YW{d:Dy}(hd:d.gX)(hq:0<d.q){p:Nat}(ib:8<=p)(gW:p<=512):∃ Z,Z.gX/\CK (LQ d) Z/\gQ 231 [gU d,iP (p:Int)] (ia Z):=by
 by_cases h1:iN d ⟨false,1,0⟩=0
 .refine ⟨xS,.inr ⟨rfl,rf,rf,Cd _⟩,⟨0,λM _=>?_⟩,alJ d p hd h1 ib gW⟩;have e:d=⟨false,1,0⟩:=by
   refine aih hd.canon DO.canon (fu ((oO _ _).1 aC) ((oO _ _).1 ?_));rw[C1];have:=C1 d ⟨false,1,0⟩;omega
  rw[e,Zc];exact .inr ⟨by show il.q<=0;rw[tp];exact b6,by show 0<=il.q;rw[tp];exact b6⟩
 .have hm:=DT hq;obtain⟨t1,t2⟩:=Yw hd hm;obtain⟨P,hP⟩:∃ P,P=min (p+40) 512:=⟨_,rfl⟩
  have p1:8<=P:= aC ;have p2:P<=512:= aC ;obtain⟨z1,z2,z3⟩:=agL hd hq p1 p2;obtain⟨Z,a1,a2,a3⟩:=YO z1 z3 p1 p2;obtain⟨Y,b1,b2,b3⟩:=alD p1 p2;have m1:(iy (ji d.ig) Y P).gX:=nY _ _ aC aC;have m2:=qJ a1 m1 (p:=P) aC aC;refine⟨lE (jC Z (iy (ji d.ig) Y P) P) p,D0 m2 aC aC,?_,?_⟩
  .have hz:=Pv hq;have ha:iQ (zE d)*2<=1:=by
    have:=xi (x:=zE d) (b:=1/3) aK aK 
    grind
   obtain⟨N1,c1⟩:=a2 _ z2 ha;obtain⟨N2,c2⟩:=b2;refine⟨max N1 N2,λM hM=>Gq m2 aC aC ?_⟩;exact Bd a1 m1 aC aC (c1 M aC) (NC (vU aC) b1 aC aC (y4 d.ig) (c2 M aC))
  .subst hP;have e:DG d (min (p+40) 512)=jh (jC (lF (lE (mg d) (min (p+40) 512)) (0-(Dy.ig d))) (ji (-1)) (min (p+40) 512)) (jC (lF (lE (mg d) (min (p+40) 512)) (0-(Dy.ig d))) (ji 1) (min (p+40) 512)) (min (p+40) 512):=by unfold DG tX;rw[(aC:-d.ig=0-d.ig)]
   rw[e]at a3;exact alK d p Z Y hd h1 aC aC a1 b1 a3 b3 ib gW
def alF(x:Iv)(p:Nat)(hx:x.gX)(ib:8<=p)(gW:p<=512)(xa:x.all=true):gQ 203 [ia x,iP p] (ia gT):=
 ak call203 func203 (af [.c (CJ x p aD aC aC),ai 7 (!x.all) (by rw[xa];rfl),.c nm]) 
def alI(x:Iv)(p:Nat)(hx:x.gX)(ib:8<=p)(gW:p<=512)(xa:x.all=false)(h1:x.lo.iJ<=0):gQ 203 [ia x,iP p] (ia gT):=by
 obtain⟨w1,w2⟩:=hx.jW;exact ak call203 func203 (af [.c (CJ x p aD aC aC),ah 7 (!x.all) (by rw[xa];rfl),ag [gU x.lo] (mJ _ aD),tB 13 (a6 h1),.c nm]) 
def alH(x:Iv)(p:Nat)(hx:x.gX)(ib:8<=p)(gW:p<=512)(xa:x.all=false)(h1:¬x.lo.iJ<=0)(Z1 Z2:Iv)(z1:Z1.gX)(z2:Z2.gX)(k1:gQ 231 [gU x.lo,iP (p:Int)] (ia Z1))(k2:gQ 231 [gU x.hi,iP (p:Int)] (ia Z2)):gQ 203 [ia x,iP p] (ia (uh Z1 Z2)):=by
 obtain⟨w1,w2⟩:=hx.jW;exact ak call203 func203 (af [.c (CJ x p aD aC aC),ah 7 (!x.all) (by rw[xa];rfl),ag [gU x.lo] (mJ _ aD),tB 13 (a7 h1),ag [gU x.lo,iP p] k1,ag [gU x.hi,iP p] k2,.c (YV Z1 Z2 aD aD)]) 
def alG{x:Iv}(hx:x.gX){p:Nat}(ib:8<=p)(gW:p<=512):∃ Z,Z.gX/\gQ 203 [ia x,iP (p:Int)] (ia Z):=by
 cases xa:x.all with
 |true=>exact⟨gT,lG,alF x p hx ib gW xa⟩
 |false=>
  by_cases h1:x.lo.iJ<=0
  .exact ⟨gT,lG,alI x p hx ib gW xa h1⟩
  .obtain ⟨w1,w2⟩:=hx.jW;have q1:0<x.lo.q:=(rB _).1.1 aC;have q2:0<x.hi.q:=by have:=hx.q;grind
   obtain⟨Z1,z1,⟨N1,l1⟩,k1⟩:=YW w1 q1 ib gW;obtain⟨Z2,z2,⟨N2,l2⟩,k2⟩:=YW w2 q2 ib gW;refine⟨uh Z1 Z2,R7 z1 z2 λa b=>?_,alH x p hx ib gW xa h1 Z1 Z2 z1 z2 k1 k2⟩;have e1:=((l1 (max N1 N2) aC).jW a).1;have e2:=((l2 (max N1 N2) aC).jW b).2;have e3:=Zb q1 hx.q (max N1 N2);exact bI e1 (bI e3 e2)
def uL(a s:Nat):Prop:=s*s<=a/\a<(s+1)*(s+1)
def W9(a:Nat):∃ s,uL a s:=by
 induction a with
 |zero=>exact⟨0,aE,aE⟩
 |succ a ih=>
  obtain⟨s,h1,h2⟩:=ih;by_cases h:(s+1)*(s+1)<=a+1
  .refine ⟨s+1,h,?_⟩;have:(s+1+1)*(s+1+1)=(s+1)*(s+1)+2*(s+1)+1:=by
    simp only[bS,bO,bU,bZ];omega
   omega
  .exact ⟨s,aC,aC⟩
def ai1{a s t:Nat}(h:uL a s)(ht:t*t<=a):t<=s:=by
 apply bM;intro im;have:=dj (aC:s+1<=t) (aC:s+1<=t);have:=h.2;omega
def pf(a x:Nat):Nat:=(x+a/x)/2
def ahw{a s x:Nat}(h:uL a s)(hx:0<x):s<=pf a x:=by
 unfold pf;apply bM;intro im;have h1:x+a/x<2*s:=by generalize a/x=q at *;omega
 have h2:a<(a/x+1)*x:=by
  have:=cB a x;have:=bF a hx;rw[bS,bU,bD (a/x)];omega
 have hq:a/x+1<=2*s-x/\x<=2*s:=by
  generalize a/x=q at *
  omega
 have h3:(a/x+1)*x<=(2*s-x)*x:=bK x hq.1;have ame:=hq.2;have h4:(2*s-x)*x<=s*s:=by
  obtain⟨k,hk⟩:∃ k,2*s=x+k:=⟨2*s-x,by clear h1 h2 h3 im hq;omega⟩
  rw[show 2*s-x=k by clear h1 h2 h3 im hq;omega];clear h1 h2 h3 im hq;rcases Nat.le_total x s with py|py
  .obtain ⟨e,rfl⟩:∃ e,s=x+e:=⟨s-x,aC⟩
   obtain rfl:k=x+2*e:= aC ;simp only[bS,bO,bD x e,bA];have:0<=e*e:=bV _;have e1:e*(2*x)=2*(e*x):=dK e 2 x;omega
  .obtain ⟨e,rfl⟩:∃ e,x=s+e:=⟨x-s,aC⟩
   obtain⟨f,hf⟩:∃ f,s=k+f:=⟨s-k,aC⟩
   obtain rfl:f=e:= aC ;subst hf;simp only[bS,bO,bD f k];have:0<=f*f:=bV _;omega
 have:=h.1;omega
def ahv{a s x:Nat}(h:uL a s)(hx:0<x)(hs:s<=x)(hy:x<=pf a x):x=s:=by
 have h1:x<=a/x:=by unfold pf at hy;omega
 have h2:x*x<=a:=(cT hx).1 h1;have:=ai1 h h2;omega
def kn(a x:Nat):Nat->Nat
 | 0=>x
 |k+1=>pf a (kn a x k)
def ai2(a:Nat){s:Nat}(h:uL a s):s<=2^((gZ a+1)/2):=by
 apply bM;intro im;have h1:(2^((gZ a+1)/2))*(2^((gZ a+1)/2))<=s*s:=dj aC aC;rw[<-bh]at h1;have h2:=qw a;have h3:2^gZ a<=2^((gZ a+1)/2+(gZ a+1)/2):=bH aE aC;have:=h.1;omega
def ai0{a x s:Nat}(h:uL a s)(ha:0<a)(hx:s<=x):∃ N,N<=x/\(∀ k,k<N->pf a (kn a x k)<kn a x k)/\kn a x N<=pf a (kn a x N)/\kn a x N=s/\∀ k,k<=N->s<=kn a x k/\kn a x k<=x:=by
 have hs:0<s:=by
  apply bM;intro h0;obtain rfl:s=0:= aC ;have:=h.2;omega
 have qS:∀ k,s<=kn a x k:=λk=>by
  induction k with
  |zero=>exact hx
  |succ k ih=>exact ahw h aC 
 have hex:∃ k,k<x+1/\decide (kn a x k<=pf a (kn a x k))=true:=by
  apply bM;intro hc;have hd:∀ k,k<x+1->pf a (kn a x k)<kn a x k:=λk hk=>by
   apply bM;intro q;exact hc ⟨k,hk,a6 aC⟩
  have hb:∀ k,k<=x+1->kn a x k+k<=x:=by
   intro k hk
   induction k with
   |zero=>exact bc _
   |succ k ih=>
    have:=ih aC;have:=hd k aC;show pf a (kn a x k)+(k+1)<=x;omega
  have:=hb (x+1) (bc _);omega
 obtain⟨N,n1,n2,n3⟩:=sG hex;have n2':=cJ n2;have im:∀ k,k<N->pf a (kn a x k)<kn a x k:=λk hk=>by
  have:=fU (n3 k hk);omega
 have hle:∀ k,k<=N->kn a x k<=x:=by
  intro k hk
  induction k with
  |zero=>exact bc _
  |succ k ih=>
   have:=ih aC;have:=im k aC;show pf a (kn a x k)<=x;omega
 have e:=ahv h (by have:=qS N;omega) (qS N) n2';exact⟨N,aC,im,n2',e,λk hk=>⟨qS k,hle k hk⟩⟩
def uX(m s:Nat)(e:Int)(p:Nat)(up:Bool):Dy:=jU false s e (decide (s*s≠m)) p up
def zp(m s:Nat)(e:Int)(p:Nat)(up:Bool):Int:=jJ false s e (decide (s*s≠m)) p up
def aj6{m s:Nat}{e:Int}{p:Nat}(h:uL m s)(hb:p<gZ s)(hp:1<=p)(gW:p<=4096)(he:zp m s e p false=0):0<=(uX m s e p false).q/\(uX m s e p false).q<=(s:Rat)*P2 e:=by
 unfold uX zp at *
 by_cases hx:s*s=m
 .rw [a7 aC]at he ⊢;have A:=EH false s e hp gW;rw[qC]at A;simp only[bB,bj]at A;exact⟨(A.2 0 (.inl (zF p)) (bQ cP (bG (mW e)))).2,(A.1 he).2⟩
 .rw [a6 aC]at he ⊢;obtain⟨h1,h2⟩:=C3 e hb false false;rw[h1];rw[h2]at he;have A:=EH false (2*s+1) (e-1) hp gW;rw[qC]at A;simp only[bB,bj]at A;have h0:=(A.2 0 (.inl (zF p)) (bQ cP (bG (mW (e-1))))).2;obtain⟨g,hl⟩:=A.1 he;refine⟨h0,?_⟩;rcases LP (e:=e) hb (g.pos h0)with k|k
  .exact k
  .exfalso;have ee:P2 e=P2 (e-1)*2:=by
    have:=pV (e-1) 1;rw[(aC:e-1+1=e),show P2 1=2 by decide +kernel]at this;exact this
   have wL:=mW (e-1);have c1:((2*s+1:Nat):Rat)=2*(s:Rat)+1:=by rw[dO,c9];rfl
   have c2:((s+1:Nat):Rat)=(s:Rat)+1:=by rw[dO];rfl
   rw[c1]at hl;rw[c2,ee]at k
   grind
def aj5{m s:Nat}{e:Int}{p:Nat}(h:uL m s)(hb:p<gZ s)(hp:1<=p)(gW:p<=4096)(he:zp m s e p true=0):0<=(uX m s e p true).q/\(m:Rat)*(P2 e*P2 e)<=(uX m s e p true).q*(uX m s e p true).q:=by
 have wL:=mW e;have s0:(0:Rat)<=(s:Rat):=cP;have key:∀ D:Rat,(s:Rat)*P2 e<=D->(s*s≠m->((s+1:Nat):Rat)*P2 e<=D)->0<=D/\(m:Rat)*(P2 e*P2 e)<=D*D:=by
  intro D h1 h2;have d0:0<=D:=bI (bQ s0 (bG wL)) h1;refine⟨d0,?_⟩;have sq:∀ t:Nat,m<=t*t->(t:Rat)*P2 e<=D->(m:Rat)*(P2 e*P2 e)<=D*D:=by
   intro t ht hD;have t0:(0:Rat)<=(t:Rat):=cP;have c:(m:Rat)<=(t:Rat)*(t:Rat):=by
    have:=du.2 ht;rwa[c9]at this
   have m1:=cj c (bQ (bG wL) (bG wL));have m2:=cj hD (bQ t0 (bG wL));have m3:=cF hD d0;generalize (t:Rat)=T at *
   generalize P2 e=P at *
   have e1:T*T*(P*P)=T*P*(T*P):= aK 
   grind
  by_cases hx:s*s=m
  .exact sq s aC h1
  .exact sq (s+1) (by have:=h.2;omega) (h2 hx)
 unfold uX zp at *
 by_cases hx:s*s=m
 .rw [a7 aC]at he ⊢;have A:=EI false s e hp gW;rw[qC]at A;simp only[bB,bj]at A;exact key _ (A.1 he).2 (λq=>absurd hx q)
 .rw [a6 aC]at he ⊢;obtain⟨h1,h2⟩:=C3 e hb false true;rw[h1];rw[h2]at he;have A:=EI false (2*s+1) (e-1) hp gW;rw[qC]at A;simp only[bB,bj]at A;obtain⟨g,hl⟩:=A.1 he;have ee:P2 e=P2 (e-1)*2:=by
   have:=pV (e-1) 1;rw[(aC:e-1+1=e),show P2 1=2 by decide +kernel]at this;exact this
  have ib:=mW (e-1);have c1:((2*s+1:Nat):Rat)=2*(s:Rat)+1:=by rw[dO,c9];rfl
  rw[c1]at hl;have h0:0<=(jU false (2*s+1) (e-1) false p true).q:=bI (bQ aK (bG ib)) hl;have im:(s:Rat)*P2 e<(jU false (2*s+1) (e-1) false p true).q:=by rw[ee];grind
  refine key _ (bG im) λ_=>?_
  rcases LP (e:=e) hb (g.pos h0)with k|k
  .exact absurd im (dk.2 k)
  .exact k
def aj7{a b:Rat}(ha:0<=a)(hb:0<=b)(h:a*a<=b*b):a<=b:=by
 apply dk.1;intro im;have m1:=cF (bG im) hb;have m2:=dv im (show 0<a by grind)
 grind
def aj8{m s n t:Nat}{e f:Int}{p:Nat}(h:uL m s)(k:uL n t)(hb:p<gZ s)(kb:p<gZ t)(hp:1<=p)(gW:p<=4096)(hle:(m:Rat)*(P2 e*P2 e)<=(n:Rat)*(P2 f*P2 f)):
 (lr (uX m s e p false) (zp m s e p false) (uX n t f p true) (zp n t f p true)).gX:=by
 unfold lr;split
 .exact lG
 .rename_i he;obtain⟨a0,a1⟩:=aj6 (e:=e) h hb hp gW aC;obtain⟨b0,b1⟩:=aj5 (e:=f) k kb hp gW aC;refine .inr ⟨rfl,sV _ _ _ _ _ _ hp gW,sV _ _ _ _ _ _ hp gW,?_⟩;rw[oO];refine aj7 a0 b0 ?_;have s0:(0:Rat)<=(s:Rat):=cP;have wL:=mW e;have m1:=cF a1 a0;have m2:=cj a1 (bQ s0 (bG wL));have c:(s:Rat)*(s:Rat)<=(m:Rat):=by
   have:=du.2 h.1;rwa[c9]at this
  have m3:=cj c (bQ (bG wL) (bG wL));generalize (uX m s e p false).q=A at *
  generalize (s:Rat)=S at *
  generalize P2 e=P at *
  have e1:S*S*(P*P)=S*P*(S*P):= aK 
  grind
def Wc(m N:Nat)(x:Nat):PS:=⟨43,true,[(5,.e (gV (gR (kn m (2^((gZ m+1)/2)) x)))),(0,.e (gV (gR m)))],[]⟩
def V3(L M:List Nat)(hL:iD L)(hM:iD M)(h1:L.length<=3000)(h2:M.length<=3000):∃ S:List Nat,gQ 238 [gV L,gV M] (gV S)/\val S=val L+val M/\iD S/\S.length=max L.length M.length+1:=by
 obtain⟨n,hn⟩:∃ n,n=max L.length M.length+1:=⟨_,rfl⟩
 have im:val L+val M<4294967296^n:=by
  have a:=oo hL;have b:=oo hM;have e:4294967296^n=4294967296^max L.length M.length*4294967296:=by rw[hn,bC]
  have c:=bH (show 0<4294967296 by decide) (Nat.le_max_left L.length M.length);have d:=bH (show 0<4294967296 by decide) (Nat.le_max_right L.length M.length);omega
 refine⟨oL (val L+val M) n,?_,by rw[GJ,bX im],EK _ _,by rw[zV,hn]⟩;refine Ge hL hM call238 (λA c B d w h k _=>We A B c d L M w h k h1 h2) λB w e w' hB r=>?_
 obtain⟨S,v1,v2,v3,r⟩:=r;rw[Lm v2 (by rw[v3,hn]) v1];exact rl B w e w' hB r
def ahl(L:List Nat)(n:Nat)(hL:iD L)(h1:L.length<=3000)(hn:n<=65536):∃ S:List Nat,gQ 178 [gV L,iP (n:Int)] (gV S)/\val S=val L*2^n/\iD S:=by
 obtain⟨m,hm⟩:∃ m,m=n/32+(iz L).length+1:=⟨_,rfl⟩
 have im:val L*2^n<4294967296^m:=by
  have a:=oo hL.iz;rw[pJ]at a;have e:4294967296^m=4294967296^(iz L).length*2^(32*(n/32+1)):=by
   rw[hm,(aC:n/32+(iz L).length+1=(iz L).length+(n/32+1)),bh,Nat.pow_mul]
  rw[e];exact Nat.mul_lt_mul_of_lt_of_le a (bH aE aC) (bn aE)
 refine⟨oL (val L*2^n) m,?_,by rw[GJ,bX im],EK _ _⟩;refine JQ hL call178 (λA c w h _=>Wf A c L n w h aC hn) λA c B w e w' h hB r=>?_
 obtain⟨S,v1,v2,v3,r⟩:=r;rw[Lm v2 (by rw[v3,hm]) v1];exact rl B w e w' hB r
def zj(L:List Nat):List Nat:=qh (1%32) ((iz L).drop (1/32))
def Wa(L:List Nat)(hL:iD L)(h1:L.length<=3000):gQ 95 [gV L,iP 1] (gV (zj L)):=
 JQ (n:=((1:Nat):Int)) hL call95 (λA c w h _=>NQ A c L 1 w h aC aE) λA c B w e w' h hB r=>rl B w e w' hB r
def XY{L:List Nat}(hL:iD L):iz (zj L)=gR (val L/2):=by
 unfold zj;rw[sc (AK _ _),Kv hL.iz,pJ]
def Wo(m x:Nat):pf m x<=max x (m/x):=by
 unfold pf;generalize m/x=q;omega
def Vk(a b:Nat):(gR (max a b)).length<=max (gR a).length (gR b).length:=by
 rcases Nat.le_total a b with h|h
 .rw [Nat.max_eq_right h];omega
 .rw [Nat.max_eq_left h];omega
def ahf(m:Nat)(h:(gR m).length<=256):gQ 94 [gV (gR m)] (.ie [gV (gR m),iP 0]):=by
 have:=V6 (gR m) (mB m) (by rw[A8];exact h);rwa[A8]at this
def ahn(m N:Nat)(h1:(gR m).length<=256)(h0:m≠0)(uD:∀ k,k<N->pf m (kn m (2^((gZ m+1)/2)) k)<(kn m (2^((gZ m+1)/2)) k))(pr:(kn m (2^((gZ m+1)/2)) N)<=pf m (kn m (2^((gZ m+1)/2)) N))(kY:∀ k,k<=N->0<(kn m (2^((gZ m+1)/2)) k)/\(kn m (2^((gZ m+1)/2)) k)<=(2^((gZ m+1)/2))):gQ 304 [gV (gR m)] (.ie [gV (gR (kn m (2^((gZ m+1)/2)) N)),iP 0]):=by
 have bm:=nM h0;have bl:=Eu h1;have z0:(gR (2^((gZ m+1)/2))).length<=256:=pd (by rw[show(2^((gZ m+1)/2))=1*2^((gZ m+1)/2)by omega,rG aE];show 1+_<=_;omega);have hlen:∀ k,k<=N->(gR (kn m (2^((gZ m+1)/2)) k)).length<=256:=λk hk=>bg (mw (kY k hk).2) z0
 obtain⟨S0,BA,sv,oS0⟩:=ahl (gR 1) ((gZ m+1)/2) (mB 1) aL aC;rw[jY,bU]at sv;have hS0:gQ 145 [gV S0] (gV (gR (2^((gZ m+1)/2)))):=by
  have:=ua S0 oS0;rwa[sc oS0,sv]at this
 have zN:=hlen N aC;exact ak call304 func304 (af [.c (ahg (gR m) aD),ag [gV (gR m)] (r8 _ aC),ai 15 ((gZ m:Int)==0) (ns aC),.o 16 (.e wU:aj (.sl false 1 1 λi_ j_=>[.v (.int .u32 1)].getD (i_*1+j_) (.v (.bool false))) (gV (gR 1))),ij ((gZ m:Int)+1) aC,.a (aC:0<(2:Int)),
  ij (((gZ m)+1:Nat):Int) aC,ag [gV (gR 1),iP ((((gZ m)+1)/2:Nat):Int)] BA,ag [gV S0] hS0,.s (Sp.jE (Wc m N) 0 N aC (λx hx mn=>by
    obtain⟨xl,xu⟩:=kY x aC;obtain⟨Tq,Sq,Fb,dT,dS,oT,oS,lT,lS⟩:=NM (gR m) (gR (kn m (2^((gZ m+1)/2)) x)) (mB m) (mB _) aC (by have:=hlen x aC;omega) (by rw[jY];omega);rw[jY,jY]at dT;have zx:=hlen x aC;have Me:gQ 145 [gV Tq] (gV (gR (m/(kn m (2^((gZ m+1)/2)) x)))):=by
     have:=ua Tq oT;rwa[sc oT,dT]at this
    have zt:(gR (m/(kn m (2^((gZ m+1)/2)) x))).length<=257:=bg (mw (bT _ _)) aC;obtain⟨Uq,hU,uv,oU,lU⟩:=V3 (gR (kn m (2^((gZ m+1)/2)) x)) (gR (m/(kn m (2^((gZ m+1)/2)) x))) (mB _) (mB _) aC aC;rw[jY,jY]at uv;have hV:=Wa Uq oU aC;have Da:gQ 145 [gV (zj Uq)] (gV (gR (pf m (kn m (2^((gZ m+1)/2)) x)))):=by
     have:=ua (zj Uq) (AK _ _);rwa[XY oU,uv]at this
    have zn:(gR (pf m (kn m (2^((gZ m+1)/2)) x))).length<=257:=bg (mw (Wo m (kn m (2^((gZ m+1)/2)) x))) (by have:=Vk (kn m (2^((gZ m+1)/2)) x) (m/(kn m (2^((gZ m+1)/2)) x));omega);exact iA (ae [ag [gV (gR m),gV (gR (kn m (2^((gZ m+1)/2)) x))] Fb,ag [gV Tq] Me,ag [gV (gR (kn m (2^((gZ m+1)/2)) x)),gV (gR (m/(kn m (2^((gZ m+1)/2)) x)))] hU,ag [gV Uq,iP 1] hV,ag [gV (zj Uq)] Da,ag [gV (gR (pf m (kn m (2^((gZ m+1)/2)) x))),gV (gR (kn m (2^((gZ m+1)/2)) x))] (yX _ _ aC aC),tF 37 (0<=(kq (pf m (kn m (2^((gZ m+1)/2)) x)) (kn m (2^((gZ m+1)/2)) x))) (by have:=uD x aC;have:=C2.2 this;omega)]<|.e (af [.o 5 (.e (.iL rfl):aj (gV (gR (pf m (kn m (2^((gZ m+1)/2)) x)))) (gV (gR (kn m (2^((gZ m+1)/2)) (x+1)))))])) aF)
  (λhx=>by
    obtain⟨xl,xu⟩:=kY N aC;obtain⟨Tq,Sq,Fb,dT,dS,oT,oS,lT,lS⟩:=NM (gR m) (gR (kn m (2^((gZ m+1)/2)) N)) (mB m) (mB _) aC (by have:=hlen N aC;omega) (by rw[jY];omega);rw[jY,jY]at dT;have zx:=hlen N aC;have Me:gQ 145 [gV Tq] (gV (gR (m/(kn m (2^((gZ m+1)/2)) N)))):=by
     have:=ua Tq oT;rwa[sc oT,dT]at this
    have zt:(gR (m/(kn m (2^((gZ m+1)/2)) N))).length<=257:=bg (mw (bT _ _)) aC;obtain⟨Uq,hU,uv,oU,lU⟩:=V3 (gR (kn m (2^((gZ m+1)/2)) N)) (gR (m/(kn m (2^((gZ m+1)/2)) N))) (mB _) (mB _) aC aC;rw[jY,jY]at uv;have hV:=Wa Uq oU aC;have Da:gQ 145 [gV (zj Uq)] (gV (gR (pf m (kn m (2^((gZ m+1)/2)) N)))):=by
     have:=ua (zj Uq) (AK _ _);rwa[XY oU,uv]at this
    have zn:(gR (pf m (kn m (2^((gZ m+1)/2)) N))).length<=257:=bg (mw (Wo m (kn m (2^((gZ m+1)/2)) N))) (by have:=Vk (kn m (2^((gZ m+1)/2)) N) (m/(kn m (2^((gZ m+1)/2)) N));omega);exact iA (af [ag [gV (gR m),gV (gR (kn m (2^((gZ m+1)/2)) N))] Fb,ag [gV Tq] Me,ag [gV (gR (kn m (2^((gZ m+1)/2)) N)),gV (gR (m/(kn m (2^((gZ m+1)/2)) N)))] hU,ag [gV Uq,iP 1] hV,ag [gV (zj Uq)] Da,ag [gV (gR (pf m (kn m (2^((gZ m+1)/2)) N))),gV (gR (kn m (2^((gZ m+1)/2)) N))] (yX _ _ aC aC),tT 37 (0<=(kq (pf m (kn m (2^((gZ m+1)/2)) N)) (kn m (2^((gZ m+1)/2)) N))) (by have:=pr;have:¬kq (pf m (kn m (2^((gZ m+1)/2)) N)) (kn m (2^((gZ m+1)/2)) N)<0:=λq=>absurd (C2.1 q) aC;omega),ag [gV (gR (kn m (2^((gZ m+1)/2)) N))] (ahf _ aC)]) aF) aI:jB 7 f304 (Wc m N 0) .ret ⟨43,true,[(3,.e (iP 0)),(2,.e (gV (gR (kn m (2^((gZ m+1)/2)) N))))],[]⟩) (af [.o 5 (.e (.iL rfl):aj (gV (gR (2^((gZ m+1)/2)))) (gV (gR (kn m (2^((gZ m+1)/2)) 0))))])]) 
def Wd(m s:Nat)(h1:(gR m).length<=256)(h0:m≠0)(hr:uL m s):gQ 304 [gV (gR m)] (.ie [gV (gR s),iP 0]):=by
 obtain⟨N,_,a,b,c,d⟩:=ai0 hr (dL h0) (ai2 m hr);have hs:0<s:=by
  apply bM;intro h;obtain rfl:s=0:= aC ;have:=hr.2;omega
 have:=ahn m N h1 h0 a b λk hk=>⟨by have:=(d k hk).1;omega,(d k hk).2⟩
 rwa[c]at this
noncomputable def lj(m:Nat):Nat:=Classical.choose (W9 m)
def Cw(m:Nat):uL m (lj m):=cK (W9 m)
def sO(d:Dy)(p:Nat):Nat:=if Int.tmod (d.e-((2*p+4-gZ d.m:Nat):Int)) 2=0 then 2*p+4-gZ d.m else 2*p+4-gZ d.m+1
noncomputable def uZ(d:Dy)(p:Nat)(up:Bool):Dy:=uX (d.m*2^sO d p) (lj (d.m*2^sO d p)) ((d.e-(sO d p:Int))/2) p up
noncomputable def uY(d:Dy)(p:Nat)(up:Bool):Int:=zp (d.m*2^sO d p) (lj (d.m*2^sO d p)) ((d.e-(sO d p:Int))/2) p up
def Ke(d:Dy)(p:Nat):d.e-(sO d p:Int)=2*((d.e-(sO d p:Int))/2):=by
 have key:∀ x:Int,Int.tmod x 2=0↔x%2=0:=λx=>by rw[<-Int.dvd_iff_tmod_eq_zero,<-Int.dvd_iff_emod_eq_zero]
 have:(d.e-(sO d p:Int))%2=0:=by
  unfold sO;split
  .rename_i h;exact(key _).1 h
  .rename_i h;have h2:¬(d.e-((2*p+4-gZ d.m:Nat):Int))%2=0:=λq=>h ((key _).2 q)
   clear h;omega
 omega
def Ya(s:Nat):s<=s*s:=by
 by_cases h:s=0
 .subst h;exact bV _
 .exact fW s (dL h)
def Yc{d:Dy}(hn:d.neg=false)(K:Nat){E:Int}(h:d.e-(K:Int)=2*E):((d.m*2^K:Nat):Rat)*(P2 E*P2 E)=d.q:=by
 rw[pQ,hn,aY aE,<-pV,c9,<-we,en,<-pV,show(K:Int)+(E+E)=d.e by omega]
def OL{m s p:Nat}(h:uL m s)(hm:2*p+4<=gZ m):p<gZ s:=by
 apply bM;intro hb;have h1:s<2^gZ s:=qw s;have h2:2^gZ s<=2^p:=bH aE aC;have h3:=dj (aC:s+1<=2^p) (aC:s+1<=2^p);rw[<-bh]at h3;have h4:=h.2;have h5:gZ m<=p+p:=lR.2 (bJ h4 h3);omega
def Xa(m s:Nat):((kq (s*s) m) != 0)=decide (s*s≠m):=by
 unfold kq;generalize s*s=q;rcases Nat.lt_trichotomy q m with h|h|h
 .rw [aZ h,a6 aC];rfl
 .subst h;simp
 .rw [aY aC,aZ h,a6 aC];rfl
def ais(d:Dy)(p:Nat)(up:Bool)(hd:d.gX)(hn:d.neg=false)(h0:d.m≠0)(ib:8<=p)(gW:p<=512)(pY:Int.tmod (d.e-((2*p+4-(gZ d.m):Nat):Int)) 2=0):gQ 266 [gU d,iP p,bP up] (.ie [gU (uZ d p up),iP (uY d p up)]):=by
 have hl:=hd.gR;have hx:=hd.exp;have hr:=hd.range.resolve_left h0;have bp:=nM h0;have hK:sO d p=(2*p+4-(gZ d.m)):=by unfold sO;rw[aZ pY]
 have he:=Ke d p;rw[hK]at he;have hb:=rG h0 (2*p+4-(gZ d.m));have z1:(gR (d.m*2^(2*p+4-(gZ d.m)))).length<=256:=pd aC;have sZ:(d.m*2^(2*p+4-(gZ d.m)))≠0:=df h0 (dU (bn aE));have sB:=Cw (d.m*2^(2*p+4-(gZ d.m)));have BV:=OL sB (p:=p) aC;have z2:(gR (lj (d.m*2^(2*p+4-(gZ d.m)))*lj (d.m*2^(2*p+4-(gZ d.m))))).length<=256:=bg (mw sB.1) z1;have z3:(gR (lj (d.m*2^(2*p+4-(gZ d.m))))).length<=256:=bg (mw (bg (Ya _) sB.1)) z1;have h00:lj (d.m*2^(2*p+4-(gZ d.m)))≠0\/lj (d.m*2^(2*p+4-(gZ d.m)))=0/\(d.e-((2*p+4-(gZ d.m):Nat):Int))/2=0/\((kq (lj (d.m*2^(2*p+4-(gZ d.m)))*lj (d.m*2^(2*p+4-(gZ d.m)))) (d.m*2^(2*p+4-(gZ d.m)))) != 0)=false:=.inl (λq=>by rw[q,rH]at BV;omega);have sx:((kq (lj (d.m*2^(2*p+4-(gZ d.m)))*lj (d.m*2^(2*p+4-(gZ d.m)))) (d.m*2^(2*p+4-(gZ d.m)))) != 0)=true->p<gZ (lj (d.m*2^(2*p+4-(gZ d.m)))):=λ_=>BV
 exact ak call266 func266 (ae [.o 17 (.e (EN _):aj (.sl true 1 3 λi_ j_=>(iq d).getD (i_*3+j_) (.v (.bool false))) (jZ [d])),ag [iP p,jZ [d]] (Ox _ _ aD aC aC),ah 20 ((0:Int)==0) aE,ai 23 d.neg hn,ai 26 ((0:Int) != 0) aE,ai 31 (((gR d.m).length:Int)==0) (ns (o9 h0)),
  ij (2*(p:Int)) aC,ij (((2*p:Nat):Int)+4) aC,ag [gU d] (C5 _ aD),ij ((((2*p)+4:Nat):Int)-(gZ (Dy.m d):Int)) aC,.o 41 (aq (if((((2*p)+4:Nat):Int)-(gZ (Dy.m d):Int))>0 then((((2*p)+4:Nat):Int)-(gZ (Dy.m d):Int))else 0) ((2*p+4-(gZ d.m):Nat):Int) aM),
  ij (d.e-((2*p+4-(gZ d.m):Nat):Int)) aC,.a (aC:0<(2:Int)),ai 47 ((Int.tmod (d.e-((2*p+4-(gZ d.m):Nat):Int)) 2) != 0) (by simpa using pY),.c (vX d.m (2*p+4-(gZ d.m)) aC aC aC),ag [gV (gR (d.m*2^(2*p+4-(gZ d.m))))] (Wd _ _ aC aD (Cw _)),ag [gV (gR (lj (d.m*2^(2*p+4-(gZ d.m))))),gV (gR (lj (d.m*2^(2*p+4-(gZ d.m)))))] (xK _ _ aC aC aC),
  ij (d.e-((2*p+4-(gZ d.m):Nat):Int)) aC,.a (aC:0<(2:Int)),ij (d.e-((2*p+4-(gZ d.m):Nat):Int)) aC,.o 70 (aq (Int.tdiv (d.e-((2*p+4-(gZ d.m):Nat):Int)) 2) ((d.e-((2*p+4-(gZ d.m):Nat):Int))/2) (by generalize hy:(d.e-((2*p+4-(gZ d.m):Nat):Int))/2=y at *;rw[he];exact amS _ aE)),ag [gV (gR ((lj (d.m*2^(2*p+4-(gZ d.m))))*(lj (d.m*2^(2*p+4-(gZ d.m)))))),gV (gR (d.m*2^(2*p+4-(gZ d.m))))] (yX _ _ aC aC),ag [.agg [gV (gR (lj (d.m*2^(2*p+4-(gZ d.m))))),iP ((d.e-((2*p+4-(gZ d.m):Nat):Int))/2),bP ((kq ((lj (d.m*2^(2*p+4-(gZ d.m))))*(lj (d.m*2^(2*p+4-(gZ d.m))))) (d.m*2^(2*p+4-(gZ d.m)))) != 0)],iP p,bP up] (DX _ _ _ _ _ aC aD aC aC aC aC aD)]<|rQ (.ie [gU (jU false (lj (d.m*2^(2*p+4-(gZ d.m)))) ((d.e-((2*p+4-(gZ d.m):Nat):Int))/2) ((kq ((lj (d.m*2^(2*p+4-(gZ d.m))))*(lj (d.m*2^(2*p+4-(gZ d.m))))) (d.m*2^(2*p+4-(gZ d.m)))) != 0) p up),iP (jJ false (lj (d.m*2^(2*p+4-(gZ d.m)))) ((d.e-((2*p+4-(gZ d.m):Nat):Int))/2) ((kq ((lj (d.m*2^(2*p+4-(gZ d.m))))*(lj (d.m*2^(2*p+4-(gZ d.m))))) (d.m*2^(2*p+4-(gZ d.m)))) != 0) p up)]) (.ie [gU (uZ d p up),iP (uY d p up)]) (by unfold uZ uY uX zp;rw[hK,Xa])) 
def ait(d:Dy)(p:Nat)(up:Bool)(hd:d.gX)(hn:d.neg=false)(h0:d.m≠0)(ib:8<=p)(gW:p<=512)(pY:¬Int.tmod (d.e-((2*p+4-(gZ d.m):Nat):Int)) 2=0):gQ 266 [gU d,iP p,bP up] (.ie [gU (uZ d p up),iP (uY d p up)]):=by
 have hl:=hd.gR;have hx:=hd.exp;have hr:=hd.range.resolve_left h0;have bp:=nM h0;have hK:sO d p=((2*p+4-(gZ d.m))+1):=by unfold sO;rw[aY pY]
 have he:=Ke d p;rw[hK]at he;have hb:=rG h0 ((2*p+4-(gZ d.m))+1);have z1:(gR (d.m*2^((2*p+4-(gZ d.m))+1))).length<=256:=pd aC;have sZ:(d.m*2^((2*p+4-(gZ d.m))+1))≠0:=df h0 (dU (bn aE));have sB:=Cw (d.m*2^((2*p+4-(gZ d.m))+1));have BV:=OL sB (p:=p) aC;have z2:(gR (lj (d.m*2^((2*p+4-(gZ d.m))+1))*lj (d.m*2^((2*p+4-(gZ d.m))+1)))).length<=256:=bg (mw sB.1) z1;have z3:(gR (lj (d.m*2^((2*p+4-(gZ d.m))+1)))).length<=256:=bg (mw (bg (Ya _) sB.1)) z1;have h00:lj (d.m*2^((2*p+4-(gZ d.m))+1))≠0\/lj (d.m*2^((2*p+4-(gZ d.m))+1))=0/\(d.e-(((2*p+4-(gZ d.m))+1:Nat):Int))/2=0/\((kq (lj (d.m*2^((2*p+4-(gZ d.m))+1))*lj (d.m*2^((2*p+4-(gZ d.m))+1))) (d.m*2^((2*p+4-(gZ d.m))+1))) != 0)=false:=.inl (λq=>by rw[q,rH]at BV;omega);have sx:((kq (lj (d.m*2^((2*p+4-(gZ d.m))+1))*lj (d.m*2^((2*p+4-(gZ d.m))+1))) (d.m*2^((2*p+4-(gZ d.m))+1))) != 0)=true->p<gZ (lj (d.m*2^((2*p+4-(gZ d.m))+1))):=λ_=>BV
 exact ak call266 func266 (ae [.o 17 (.e (EN _):aj (.sl true 1 3 λi_ j_=>(iq d).getD (i_*3+j_) (.v (.bool false))) (jZ [d])),ag [iP p,jZ [d]] (Ox _ _ aD aC aC),ah 20 ((0:Int)==0) aE,ai 23 d.neg hn,ai 26 ((0:Int) != 0) aE,ai 31 (((gR d.m).length:Int)==0) (ns (o9 h0)),
  ij (2*(p:Int)) aC,ij (((2*p:Nat):Int)+4) aC,ag [gU d] (C5 _ aD),ij ((((2*p)+4:Nat):Int)-(gZ (Dy.m d):Int)) aC,.o 41 (aq (if((((2*p)+4:Nat):Int)-(gZ (Dy.m d):Int))>0 then((((2*p)+4:Nat):Int)-(gZ (Dy.m d):Int))else 0) ((2*p+4-(gZ d.m):Nat):Int) aM),
  ij (d.e-((2*p+4-(gZ d.m):Nat):Int)) aC,.a (aC:0<(2:Int)),ah 47 ((Int.tmod (d.e-((2*p+4-(gZ d.m):Nat):Int)) 2) != 0) (by simpa using pY),
  ij (((2*p+4-(gZ d.m):Nat):Int)+1) aC,.c (vX d.m ((2*p+4-(gZ d.m))+1) aC aC aC),ag [gV (gR (d.m*2^((2*p+4-(gZ d.m))+1)))] (Wd _ _ aC aD (Cw _)),ag [gV (gR (lj (d.m*2^((2*p+4-(gZ d.m))+1)))),gV (gR (lj (d.m*2^((2*p+4-(gZ d.m))+1))))] (xK _ _ aC aC aC),
  ij (d.e-(((2*p+4-(gZ d.m))+1:Nat):Int)) aC,.a (aC:0<(2:Int)),ij (d.e-(((2*p+4-(gZ d.m))+1:Nat):Int)) aC,.o 70 (aq (Int.tdiv (d.e-(((2*p+4-(gZ d.m))+1:Nat):Int)) 2) ((d.e-(((2*p+4-(gZ d.m))+1:Nat):Int))/2) (by generalize hy:(d.e-(((2*p+4-(gZ d.m))+1:Nat):Int))/2=y at *;rw[he];exact amS _ aE)),ag [gV (gR ((lj (d.m*2^((2*p+4-(gZ d.m))+1)))*(lj (d.m*2^((2*p+4-(gZ d.m))+1))))),gV (gR (d.m*2^((2*p+4-(gZ d.m))+1)))] (yX _ _ aC aC),ag [.agg [gV (gR (lj (d.m*2^((2*p+4-(gZ d.m))+1)))),iP ((d.e-(((2*p+4-(gZ d.m))+1:Nat):Int))/2),bP ((kq ((lj (d.m*2^((2*p+4-(gZ d.m))+1)))*(lj (d.m*2^((2*p+4-(gZ d.m))+1)))) (d.m*2^((2*p+4-(gZ d.m))+1))) != 0)],iP p,bP up] (DX _ _ _ _ _ aC aD aC aC aC aC aD)]<|rQ (.ie [gU (jU false (lj (d.m*2^((2*p+4-(gZ d.m))+1))) ((d.e-(((2*p+4-(gZ d.m))+1:Nat):Int))/2) ((kq ((lj (d.m*2^((2*p+4-(gZ d.m))+1)))*(lj (d.m*2^((2*p+4-(gZ d.m))+1)))) (d.m*2^((2*p+4-(gZ d.m))+1))) != 0) p up),iP (jJ false (lj (d.m*2^((2*p+4-(gZ d.m))+1))) ((d.e-(((2*p+4-(gZ d.m))+1:Nat):Int))/2) ((kq ((lj (d.m*2^((2*p+4-(gZ d.m))+1)))*(lj (d.m*2^((2*p+4-(gZ d.m))+1)))) (d.m*2^((2*p+4-(gZ d.m))+1))) != 0) p up)]) (.ie [gU (uZ d p up),iP (uY d p up)]) (by unfold uZ uY uX zp;rw[hK,Xa])) 
def WZ(d:Dy)(p:Nat)(up:Bool)(hd:d.gX)(hn:d.neg=false)(h0:d.m≠0)(ib:8<=p)(gW:p<=512):gQ 266 [gU d,iP p,bP up] (.ie [gU (uZ d p up),iP (uY d p up)]):=by
 by_cases h:Int.tmod (d.e-((2*p+4-(gZ d.m):Nat):Int)) 2=0
 .exact ais d p up hd hn h0 ib gW h
 .exact ait d p up hd hn h0 ib gW h
def aiq(d:Dy)(p:Nat)(hd:d.gX)(hn:d.neg=false)(h0:d.m≠0)(ib:8<=p)(gW:p<=512):gQ 233 [gU d,iP p] (.ie [gU (uZ d p false),iP (uY d p false)]):=
 ak call233 func233 (af [.c (WZ d p false aD aD aD aC aC)]) 
def air(d:Dy)(p:Nat)(hd:d.gX)(hn:d.neg=false)(h0:d.m≠0)(ib:8<=p)(gW:p<=512):gQ 234 [gU d,iP p] (.ie [gU (uZ d p true),iP (uY d p true)]):=
 ak call234 func234 (af [.c (WZ d p true aD aD aD aC aC)]) 
def afT(x:Iv)(p:Nat)(hx:x.gX)(ib:8<=p)(gW:p<=512)(xa:x.all=true):gQ 208 [ia x,iP p] (ia gT):=
 ak call208 func208 (af [.o 10 (.e (lq _):aj (.sl true 1 7 λi_ j_=>(iE x).getD (i_*7+j_) (.v (.bool false))) (gY [x])),ag [gY [x]] (pF _ aD),ai 11 (!x.all) (by rw[xa];rfl),.c nm]) 
def afV(x:Iv)(p:Nat)(hx:x.gX)(ib:8<=p)(gW:p<=512)(xa:x.all=false)(h1:x.lo.iJ<=0):gQ 208 [ia x,iP p] (ia gT):=by
 obtain⟨w1,w2⟩:=hx.jW;exact ak call208 func208 (af [.o 10 (.e (lq _):aj (.sl true 1 7 λi_ j_=>(iE x).getD (i_*7+j_) (.v (.bool false))) (gY [x])),ag [gY [x]] (pF _ aD),ah 11 (!x.all) (by rw[xa];rfl),ag [iP p] (vP _),ah 15 (mC (p:Int)) (rO.2 ⟨aC,aC⟩),ag [gU x.lo] (mJ _ aD),tB 22 (a6 h1),.c nm]) 
def afW(x:Iv)(p:Nat)(hx:x.gX)(ib:8<=p)(gW:p<=512)(xa:x.all=false)(h1:¬x.lo.iJ<=0)(n1:x.lo.neg=false)(n2:x.hi.neg=false)(m1:x.lo.m≠0)(m2:x.hi.m≠0):gQ 208 [ia x,iP p] (ia (lr (uZ x.lo p false) (uY x.lo p false) (uZ x.hi p true) (uY x.hi p true))):=by
 obtain⟨w1,w2⟩:=hx.jW;exact ak call208 func208 (af [.o 10 (.e (lq _):aj (.sl true 1 7 λi_ j_=>(iE x).getD (i_*7+j_) (.v (.bool false))) (gY [x])),ag [gY [x]] (pF _ aD),ah 11 (!x.all) (by rw[xa];rfl),ag [iP p] (vP _),ah 15 (mC (p:Int)) (rO.2 ⟨aC,aC⟩),ag [gU x.lo] (mJ _ aD),tB 22 (a7 h1),.c (aiq x.lo p aD aD aD aC aC),.c (air x.hi p aD aD aD aC aC),.c (Ca (uZ x.lo p false) (uZ x.hi p true) (uY x.lo p false) (uY x.hi p true))]) 
def WH{d:Dy}(h:0<d.q):d.neg=false/\d.m≠0:=by
 have hm:d.m≠0:=λq=>by rw[pQ,q]at h;simp at h
 refine⟨?_,hm⟩;cases hn:d.neg
 .rfl
 .rw [pQ,hn,aZ rfl]at h;have:=bQ (show(0:Rat)<=(d.m:Rat)from cP) (bG (mW d.e))
  grind
def X9{d:Dy}{p:Nat}(ib:8<=p)(h0:d.m≠0):p<gZ (lj (d.m*2^sO d p)):=by
 refine OL (Cw _) ?_;rw[rG h0];unfold sO;split<;>omega
def afU{x:Iv}(hx:x.gX){p:Nat}(ib:8<=p)(gW:p<=512):∃ Z,Z.gX/\gQ 208 [ia x,iP (p:Int)] (ia Z):=by
 cases xa:x.all with
 |true=>exact⟨gT,lG,afT x p hx ib gW xa⟩
 |false=>
  by_cases h1:x.lo.iJ<=0
  .exact ⟨gT,lG,afV x p hx ib gW xa h1⟩
  .have q1:0<x.lo.q:=(rB _).1.1 aC ;have q2:0<x.hi.q:=by have:=hx.q;grind
   obtain⟨n1,m1⟩:=WH q1;obtain⟨n2,m2⟩:=WH q2;refine⟨_,?_,afW x p hx ib gW xa h1 n1 n2 m1 m2⟩;refine aj8 (Cw _) (Cw _) (X9 ib m1) (X9 ib m2) aC aC ?_;rw[Yc n1 _ (Ke _ _),Yc n2 _ (Ke _ _)];exact hx.q
def jR(X b:Nat):Nat->Nat
 | 0=>2^b
 |k+1=>jR X b k*X/2^b/(k+1)
def SO{X b:Nat}(h:X<=2^(b+1))(t:Nat):t*X/2^b<=2*t:=by
 have hp:0<2^b:=bn aE;have h1:t*X<=t*(2^b*2):=cD t (by rw[<-bC];exact h);have h2:t*X/2^b<=t*(2^b*2)/2^b:=Nat.div_le_div_right h1;have h3:t*(2^b*2)/2^b=2*t:=by
  rw[show t*(2^b*2)=2^b*(2*t)by rw[dK,bD t 2]];exact amT _ hp
 omega
def EZ{X b:Nat}(h:X<=2^(b+1)):∀ k,jR X b k<=2^(b+1)
 | 0=>by show 2^b<=2^(b+1);rw[bC];omega
 | 1=>by
  show 2^b*X/2^b/1<=_;rw[eI,amT _ (bn aE)];exact h
 |k+2=>by
  have ih:=EZ h (k+1);have h1:=SO h (jR X b (k+1));show jR X b (k+1)*X/2^b/(k+2)<=_;have h2:jR X b (k+1)*X/2^b/(k+2)<=jR X b (k+1)*X/2^b/2:=gI aC aE;omega
def adO{X b:Nat}(h:X<=2^(b+1))(k:Nat)(hk:3<=k):jR X b (k+1)*2<=jR X b k:=by
 have h1:=SO h (jR X b k);have h2:jR X b (k+1)<=jR X b k*X/2^b/4:=gI aC aE;omega
def SN{X b:Nat}(h:X<=2^(b+1)):∀ j,jR X b (3+j)*2^j<=2^(b+1)
 | 0=>by rw[cw,bZ];exact EZ h 3
 |j+1=>by
  have ih:=SN h j;have h1:=adO h (3+j) aC;have h2:=bK (2^j) h1;rw[bC,show jR X b (3+(j+1))*(2^j*2)=jR X b (3+j+1)*2*2^j by rw[bA,bD 2 (2^j)];rfl];omega
def adP{X b:Nat}(h:X<=2^(b+1)):∃ N,1<=N/\N<=b+5/\(∀ k,k<N->jR X b k≠0)/\jR X b N=0:=by
 have hz:jR X b (3+(b+2))=0:=by
  have h1:=SN h (b+2);apply bM;intro jf;have h2:2^(b+2)<=jR X b (3+(b+2))*2^(b+2):=fW _ (dL jf);have h3:2^(b+2)=2^(b+1)*2:=bC (n:=2) (m:=b+1);have h4:0<2^(b+1):=bn aE;omega
 obtain⟨N,n1,n2,n3⟩:=sG (p:=λk=>decide (jR X b k=0)) (n:=b+6) ⟨3+(b+2),aC,a6 hz⟩;have n2':=cJ n2;refine⟨N,?_,aC,λk hk=>fU (n3 k hk),n2'⟩;rcases N with _|N
 .have:0<2^b:=bn aE ;have e:2^b=0:=n2';omega
 .omega
def aeT{f:Nat->Nat}{B:Nat}(h0:f 0<2^B)(h:∀ k,f (k+1)*2<=f k):∃ N,N<=B/\(∀ k,k<N->f k≠0)/\f N=0:=by
 have hp:∀ k,f k*2^k<=f 0:=by
  intro k
  induction k with
  |zero=>rw[cw,bZ];exact bc _
  |succ k ih=>
   have:=bK (2^k) (h k);rw[bC,show f (k+1)*(2^k*2)=f (k+1)*2*2^k by rw[bA,bD 2 (2^k)]];omega
 have hz:f B=0:=by
  apply bM;intro jf;have h2:2^B<=f B*2^B:=fW _ (dL jf);have:=hp B;omega
 obtain⟨N,n1,n2,n3⟩:=sG (p:=λk=>decide (f k=0)) (n:=B+1) ⟨B,aC,a6 hz⟩;exact⟨N,aC,λk hk=>fU (n3 k hk),cJ n2⟩
def jr(a b:Bool×Nat):Bool×Nat:=if a.1=b.1 then(a.1,a.2+b.2)else if a.2<b.2 then(b.1,b.2-a.2)else(a.1,a.2-b.2)
def oY(a:Bool×Nat):Int:=if a.1 then -(a.2:Int)else(a.2:Int)
def LJ(a b:Bool×Nat):oY (jr a b)=oY a+oY b:=by
 obtain⟨s,m⟩:=a;obtain⟨t,n⟩:=b;unfold jr oY;cases s<;>cases t<;>simp<;>(try split)<;>(try simp)<;>omega
def xt(a b:Bool×Nat):(jr a b).2<=a.2+b.2:=by
 unfold jr;split
 .exact bc _
 .split
  .show b.2-a.2<=_;omega
  .show a.2-b.2<=_;omega
def Ab(a:Bool×Nat)(b:Nat):Dy:=canon a.1 a.2 (-(b:Int))
def SM(a:Bool×Nat)(b:Nat):(Ab a b).q=(oY a:Rat)*P2 (-(b:Int)):=by
 unfold Ab oY;rw[qC];cases a.1
 .simp only[bB,bj];rw[dM]
 .simp only[bw];rw[gK,dM];grind
def Iw(a:Bool×Nat):Bool×Nat:=jr a (true,16777216)
def Iu(a:Bool×Nat):Bool×Nat:=jr a (false,16777216)
def sK(a:Bool×Nat)(b p:Nat):Iv:=lr (jV (Ab (Iw a) b) p false) (jL (Ab (Iw a) b) p false) (jV (Ab (Iu a) b) p true) (jL (Ab (Iu a) b) p true)
def ahs(a:Bool×Nat)(b:Nat){p:Nat}(hp:1<=p)(gW:p<=4096):(sK a b p).gX:=by
 unfold sK lr;split
 .exact lG
 .rename_i he;have c1:(Ab (Iw a) b).mV:=ri _ _ _;have c2:(Ab (Iu a) b).mV:=ri _ _ _;have A:=wY c1 hp gW;have B:=wZ c2 hp gW;refine .inr ⟨rfl,vY _ hp gW _,vY _ hp gW _,?_⟩;rw[oO];refine bI (A.1 aC).2 (bI ?_ (B.1 aC).2);rw[SM,SM,uQ,fS];unfold Iw Iu;rw[LJ,LJ];simp[oY]
def zP(m n:Nat)(h1:(gR m).length<=256)(h2:n<=65536)(h3:(gR (m*2^n)).length<=256):gQ 296 [gV (gR m),iP n] (gV (gR (m*2^n))):=
 ak call296 func296 (af [ag [gV (gR m),iP n] (V9 _ _ aD aC aD)]) 
def wo(m n:Nat)(h1:(gR m).length<=256)(h2:n<=65536):gQ 297 [gV (gR m),iP n] (gV (gR (m/2^n))):=
 ak call297 func297 (af [ag [gV (gR m),iP n] (JC _ _ aD aC)]) 
def K2(m:Nat)(z:Int)(h1:(gR m).length<=256)(h2:0<=z)(h3:z<=65536)(h4:(gR (m*2^z.toNat)).length<=256):gQ 296 [gV (gR m),iP z] (gV (gR (m*2^z.toNat))):=by
 have:=zP m z.toNat h1 aC h4;rwa[show(z.toNat:Int)=z by omega]at this
def abx(m:Nat)(z:Int)(h1:(gR m).length<=256)(h2:0<=z)(h3:z<=65536):gQ 297 [gV (gR m),iP z] (gV (gR (m/2^z.toNat))):=by
 have:=wo m z.toNat h1 aC;rwa[show(z.toNat:Int)=z by omega]at this
def lg{m k:Nat}(h:m<2^k)(hk:k<=8192):(gR m).length<=256:=pd (bg (lR.2 h) hk)
def th{n:Nat}(h:n<4294967296):(gR n).length<=256:=lg (k:=32) h aE 
def afD(n:Nat):(iR n).neg=false/\0<=(iR n).e/\(iR n).m*2^(iR n).e.toNat=n/\(iR n).m<=n:=by
 by_cases h:n=0
 .subst h;decide
 .have e1:(iR (n:Int))=canon false n 0:=B7 n;have e2:canon false n 0=⟨false,n/2^jj n,(jj n:Int)⟩:=by unfold canon;rw[aY h];simp
  rw[e1,e2];refine⟨rfl,Int.natCast_nonneg _,?_,bT _ _⟩;show n/2^jj n*2^(jj n:Int).toNat=n;rw[fF];exact EM h
def K5(n:Nat)(h:n<4294967296):gQ 298 [iP n] (.agg [bP false,gV (gR n)]):=by
 obtain⟨p1,p2,p3,p4⟩:=afD n;have hv:=DA n h;have he:=hv.exp;have z1:=hv.gR;have z2:(gR ((iR n).m*2^(Int.toNat (iR n).e))).length<=256:=by rw[p3];exact th h
 exact ak call298 func298 (ae [.c (Ep n aC),ag [gV (gR ((iR (n:Int)).m)),iP ((iR (n:Int)).e)] (K2 _ _ aD aC aC aD)]<|rQ (.agg [bP ((iR (n:Int)).neg),gV (gR (((iR (n:Int)).m)*2^(Int.toNat ((iR (n:Int)).e))))]) (.agg [bP false,gV (gR n)]) (by rw[p1,p3])) 
def aaq(m:Nat):((gZ m:Int)==0)=decide (m=0):=by
 by_cases h:m=0
 .subst h;rw[rH];rfl
 .have:=nM h;rw[a7 h];exact ns aC 
def C7(a:Bool×Nat)(ha:(gR a.2).length<=256):gQ 303 [.agg [bP a.1,gV (gR a.2)]] (bP (decide (a.2=0))):=
 ak call303 func303 (ae [ag [gV (gR a.2)] (r8 _ aC)]<|rQ (bP ((gZ a.2:Int)==0)) (bP (decide (a.2=0))) (by rw[aaq])) 
def wB(a:Bool×Nat):gQ 293 [.agg [bP a.1,gV (gR a.2)]] (.agg [bP (!a.1),gV (gR a.2)]):=
 ak call293 func293 (.nil) 
def adx(a:Bool×Nat)(ha:(gR a.2).length<=256)(b:Bool×Nat)(hb:(gR b.2).length<=256)(h:a.1=b.1)(hs:(gR (a.2+b.2)).length<=256):gQ 302 [.agg [bP a.1,gV (gR a.2)],.agg [bP b.1,gV (gR b.2)]] (.agg [bP a.1,gV (gR (a.2+b.2))]):=
 ak call302 func302 (af [ah 13 (a.1==b.1) (by rw[h];simp),ag [gV (gR a.2),gV (gR b.2)] (JB _ _ aD aD aD)]) 
def adv(a:Bool×Nat)(ha:(gR a.2).length<=256)(b:Bool×Nat)(hb:(gR b.2).length<=256)(h:¬a.1=b.1)(h2:a.2<b.2):gQ 302 [.agg [bP a.1,gV (gR a.2)],.agg [bP b.1,gV (gR b.2)]] (.agg [bP b.1,gV (gR (b.2-a.2))]):=
 ak call302 func302 (af [ai 13 (a.1==b.1) (by simpa using h),ag [gV (gR a.2),gV (gR b.2)] (yX _ _ aC aC),tT 31 ((kq a.2 b.2)<0) (C2.2 h2),ag [gV (gR b.2),gV (gR a.2)] (F4 _ _ aD aD aC)]) 
def adw(a:Bool×Nat)(ha:(gR a.2).length<=256)(b:Bool×Nat)(hb:(gR b.2).length<=256)(h:¬a.1=b.1)(h2:¬a.2<b.2):gQ 302 [.agg [bP a.1,gV (gR a.2)],.agg [bP b.1,gV (gR b.2)]] (.agg [bP a.1,gV (gR (a.2-b.2))]):=
 ak call302 func302 (af [ai 13 (a.1==b.1) (by simpa using h),ag [gV (gR a.2),gV (gR b.2)] (yX _ _ aC aC),tF 31 ((kq a.2 b.2)<0) λq=>h2 (C2.1 q),ag [gV (gR a.2),gV (gR b.2)] (F4 _ _ aD aD aC)]) 
def sY(a:Bool×Nat)(ha:(gR a.2).length<=256)(b:Bool×Nat)(hb:(gR b.2).length<=256)(hs:(gR (a.2+b.2)).length<=256):gQ 302 [.agg [bP a.1,gV (gR a.2)],.agg [bP b.1,gV (gR b.2)]] (.agg [bP ((jr a b).1),gV (gR ((jr a b).2))]):=by
 unfold jr;split
 .rename_i h;exact adx a ha b hb h hs
 .rename_i h;split
  .rename_i h2;exact adv a ha b hb h h2
  .rename_i h2;exact adw a ha b hb h h2
def LI(a:Bool×Nat)(ha:(gR a.2).length<=256)(c:Bool×Nat)(hc:(gR c.2).length<=256)(b:Nat)(hb:b<=65536)(hm:(gR (a.2*c.2)).length<=256):gQ 299 [.agg [bP a.1,gV (gR a.2)],.agg [bP c.1,gV (gR c.2)],iP b] (.agg [bP (a.1 != c.1),gV (gR (a.2*c.2/2^b))]):=
 ak call299 func299 (af [ag [gV (gR a.2),gV (gR c.2)] (xK _ _ aD aD aD),.c (wo (a.2*c.2) b aD aC)]) 
def EV(a:Bool×Nat)(ha:(gR a.2).length<=256)(n:Nat)(h0:n≠0)(hn:n<4294967296):gQ 307 [.agg [bP a.1,gV (gR a.2)],iP n] (.agg [bP a.1,gV (gR (a.2/n))]):=by
 have zn:(gR n).length<=256:=th hn;exact ak call307 func307 (af [.c (K5 n aC),ag [gV (gR a.2),gV (gR n)] (yY _ _ aC aC aD)]) 
def qZ(d:Dy)(b:Nat):Bool×Nat:=(d.neg,if d.e+(b:Int)<0 then d.m/2^(0-(d.e+(b:Int))).toNat else d.m*2^(d.e+(b:Int)).toNat)
def abf(d:Dy)(hd:d.gX)(b:Nat)(hb:b<=30000)(h:d.e+(b:Int)<0):gQ 301 [gU d,iP b] (.agg [bP ((qZ d b).1),gV (gR ((qZ d b).2))]):=by
 have hx:=hd.exp;have z1:=hd.gR;exact ak call301 func301 (ae [ij (d.e+(b:Int)) aC,tB 11 (a6 h),ij (0-(d.e+(b:Int))) aC,ag [gV (gR d.m),iP (0-(d.e+(b:Int)))] (abx _ _ aD aC aC)]<|rQ (.agg [bP d.neg,gV (gR (d.m/2^(Int.toNat (0-(d.e+(b:Int))))))]) (.agg [bP ((qZ d b).1),gV (gR ((qZ d b).2))]) (by unfold qZ;rw[aZ h])) 
def abe(d:Dy)(hd:d.gX)(b:Nat)(hb:b<=30000)(h:¬d.e+(b:Int)<0)(hs:(gR (d.m*2^(Int.toNat (d.e+(b:Int))))).length<=256):gQ 301 [gU d,iP b] (.agg [bP ((qZ d b).1),gV (gR ((qZ d b).2))]):=by
 have hx:=hd.exp;have z1:=hd.gR;exact ak call301 func301 (ae [ij (d.e+(b:Int)) aC,tB 11 (a7 h),ij (d.e+(b:Int)) aC,ag [gV (gR d.m),iP (d.e+(b:Int))] (K2 _ _ aD aC aC aD)]<|rQ (.agg [bP d.neg,gV (gR (d.m*2^(Int.toNat (d.e+(b:Int)))))]) (.agg [bP ((qZ d b).1),gV (gR ((qZ d b).2))]) (by unfold qZ;rw[aY h])) 
def JI{d:Dy}{b K:Nat}(h:d.ig+(b:Int)<=K):(qZ d b).2<2^K:=by
 by_cases h0:d.m=0
 .have:(qZ d b).2=0:=by unfold qZ;simp only[h0];split<;>simp
  rw[this];exact bn aE 
 .rw [GH h0]at h;have hm:=qw d.m;unfold qZ;simp only;split
  .rename_i hc;obtain⟨k,hk⟩:∃ k,k=(0-(d.e+(b:Int))).toNat:=⟨_,rfl⟩
   rw[<-hk];by_cases hb:gZ d.m<=k
   .rw [cO (bJ hm (bH aE hb))];exact bn aE 
   .refine (cv (bn aE)).2 (bJ hm ?_);rw[<-bh];exact bH aE aC 
  .rename_i hc;obtain⟨k,hk⟩:∃ k,k=(d.e+(b:Int)).toNat:=⟨_,rfl⟩
   rw[<-hk];have:=de hm (bn (n:=k) (show 0<2 by decide));rw[<-bh]at this;exact bJ this (bH aE aC)
def K4(d:Dy)(hd:d.gX)(b K:Nat)(hb:b<=30000)(hK:K<=8192)(h:d.ig+(b:Int)<=K):gQ 301 [gU d,iP (b:Int)] (.agg [bP ((qZ d b).1),gV (gR ((qZ d b).2))]):=by
 by_cases hc:d.e+(b:Int)<0
 .exact abf d hd b hb hc
 .refine abe d hd b hb hc ?_;have:=JI h;unfold qZ at this;rw[aY hc]at this;exact lg this hK
def ml(f:Nat->Nat):Nat->Bool×Nat
 | 0=>(false,f 0)
 |k+1=>jr (ml f k) (decide ((k+1)%2=1),f (k+1)/(2*(k+1)+1))
def PX{f:Nat->Nat}(hf:∀ k,f (k+1)<=f k):∀ n,(n%2=0->oY (ml f n)<=f 0/\(f 0:Int)-(f 1/3:Nat)<=oY (ml f n)-(f (n+1)/(2*(n+1)+1):Nat))/\(n%2=1->(f 0:Int)-(f 1/3:Nat)<=oY (ml f n)/\oY (ml f n)+(f (n+1)/(2*(n+1)+1):Nat)<=f 0)
 | 0=>⟨λ_=>⟨by simp[ml,oY],by simp[ml,oY]⟩,λh=> aC⟩
 |n+1=>by
  obtain⟨e,o⟩:=PX hf n;have hq:f (n+1+1)/(2*(n+1+1)+1)<=f (n+1)/(2*(n+1)+1):=Nat.div_le_div (hf (n+1)) aC aC;have hv:oY (ml f (n+1))=oY (ml f n)+oY (decide ((n+1)%2=1),f (n+1)/(2*(n+1)+1)):=LJ _ _;generalize f (n+1)/(2*(n+1)+1)=q1 at *
  generalize f (n+1+1)/(2*(n+1+1)+1)=q2 at *
  generalize f 1/3=q0 at *
  rcases amU n with h|h
  .obtain ⟨e1,e2⟩:=e h;rw[show decide ((n+1)%2=1)=true from a6 aC]at hv;simp only[oY,bw]at hv;exact⟨λq=> aC,λ_=>⟨by unfold oY at *;omega,by unfold oY at *;omega⟩⟩
  .obtain ⟨e1,e2⟩:=o h;rw[show decide ((n+1)%2=1)=false from a7 aC]at hv;simp only[oY,bB,bj]at hv;exact⟨λ_=>⟨by unfold oY at *;omega,by unfold oY at *;omega⟩,λq=> aC⟩
def KU{f:Nat->Nat}(hf:∀ k,f (k+1)<=f k)(n:Nat):(ml f n).2<=f 0/\f 0<=(ml f n).2+f 1/3:=by
 have ht:=PX hf n;have h1:f 1/3<=f 0:=bg (bT _ _) (hf 0);have hb:(f 0:Int)-(f 1/3:Nat)<=oY (ml f n)/\oY (ml f n)<=f 0:=by
  rcases amU n with h|h
  .have:=ht.1 h;generalize f (n+1)/(2*(n+1)+1)=q at *
   omega
  .have:=ht.2 h;generalize f (n+1)/(2*(n+1)+1)=q at *
   omega
 generalize ml f n=s at *
 generalize f 1/3=q at *
 obtain⟨b,m⟩:=s;cases b
 .simp only[oY,bB,bj]at hb ⊢;omega
 .simp only[oY,bw]at hb ⊢;omega
def Ha{f:Nat->Nat}(hf:∀ k,f (k+1)<=f k):∀ k,f k<=f 0
 | 0=>bc _
 |k+1=>bg (hf k) (Ha hf k)
def CR{f:Nat->Nat}(hf:∀ k,f (k+1)<=f k){B:Nat}(hB:B<=8191)(hz:f 0<2^B)(k:Nat):(gR (f k)).length<=256:=lg (ck (Ha hf k) hz) aC 
def Hb{f:Nat->Nat}(hf:∀ k,f (k+1)<=f k){B:Nat}(hB:B<=8191)(hz:f 0<2^B)(k:Nat):(gR (ml f k).2).length<=256/\(gR (f (k+1)/(2*(k+1)+1))).length<=256:=⟨lg (ck (KU hf k).1 hz) aC,lg (ck (bg (bT _ _) (Ha hf (k+1))) hz) aC⟩
def PY{f:Nat->Nat}(hf:∀ k,f (k+1)<=f k){B:Nat}(hB:B<=8191)(hz:f 0<2^B)(k:Nat):(gR ((ml f k).2+f (k+1)/(2*(k+1)+1))).length<=256:=by
 have h1:=(KU hf k).1;have h2:=bg (bT (f (k+1)) (2*(k+1)+1)) (Ha hf (k+1));refine lg (k:=B+1) ?_ aC;rw[bC];omega
def r7(n b:Nat):Nat->Nat
 | 0=>1*2^b/n
 |k+1=>r7 n b k/(n*n)
def UI{n b:Nat}(hn:2<=n)(k:Nat):r7 n b (k+1)*2<=r7 n b k:=by
 show r7 n b k/(n*n)*2<=_;have h1:r7 n b k/(n*n)<=r7 n b k/2:=gI (by have:=dj hn hn;omega) aE;omega
def Nd(n b:Nat):r7 n b 0<2^(b+1):=by
 show 1*2^b/n<_;rw[bU,bC];have:=bT (2^b) n;have:0<2^b:=bn aE;omega
def afL{n b:Nat}(hn:2<=n):∃ N,N<=b+1/\(∀ k,k<N->r7 n b (k+1)≠0)/\r7 n b (N+1)=0:=by
 obtain⟨N,h1,h2,h3⟩:=aeT (Nd n b) (UI hn);rcases N with _|N
 .refine ⟨0,aC,λk hk=>absurd hk (bk _),?_⟩;have:=UI (b:=b) hn 0;omega
 .exact ⟨N,aC,λk hk=>h2 (k+1) aC,h3⟩
def ah4{T x y f g:Nat}(hT:65536<=T)(hf:f=T/5)(As:x<=f)(tc:f<=x+f/(5*5)/3)(hy:y<=T/239)(hg:g=(jr (false,x*2^4) (true,y*2^2)).2):2<=g/\g<=T*4/\g/2<=T*2:=by
 have h16:(2:Nat)^4=16:=rfl;have h4:(2:Nat)^2=4:=rfl;have e:g=x*16-y*4:=by
  rw[hg,h16,h4];unfold jr;rw[aY (show ¬false=true from Bool.false_ne_true),aY (by show ¬x*16<y*4;omega)]
 omega
def PW(f:Nat->Nat)(g:FuncId)(cap:List E)(N:Nat)(x:Nat):PS:=⟨30,true,[(6,.e (iP ((x+1:Nat):Int))),(5,.box 5 0),(4,.box 4 0),(2,.box 2 0),(1,.e (.fn g cap))],[(5,.cells 216 [bP ((ml f x).1),gV (gR ((ml f x).2))]),(4,.cells 216 [bP false,.v (.slice none 0 0)]),(2,.cells 216 [bP false,gV (gR (f x))])]⟩
def aaF(f:Nat->Nat)(g:FuncId)(cap:List E)(N:Nat)(hp:∀ k,k<=N->gQ g ((.agg [bP false,gV (gR (f k))])::cap) (.agg [bP false,gV (gR (f (k+1)))]))(hf:∀ k,f (k+1)<=f k)(B:Nat)(hB:B<=8191)(hz:f 0<2^B)(h0:∀ k,k<N->f (k+1)≠0)(hN:f (N+1)=0)(sr:N<=100000):gQ 309 [.agg [bP false,gV (gR (f 0))],.fn g cap] (.agg [bP ((ml f N).1),gV (gR ((ml f N).2))]):=by
 have z00:=CR hf hB hz 0;exact ak call309 func309 (af [.s (Sp.jE (PW f g cap N) 0 N aC (λx hx mn=>by
    have z1:=CR hf hB hz (x+1);have z0:=CR hf hB hz x;have zs:=(Hb hf hB hz x).1;have zt:=(Hb hf hB hz x).2;have zu:=PY hf hB hz x;exact iA (ae [.c (hp x aC:gQ g ((.agg [bP false,gV (gR (f x))])::cap) _),ag [.agg [bP false,gV (gR (f (x+1)))]] (C7 (false,(f (x+1))) aD),tF 15 ((f (x+1))=0) (h0 x aC),
     ij (2*((x+1:Nat):Int)) aC,ij (((2*(x+1):Nat):Int)+1) aC,ag [.agg [bP false,gV (gR (f (x+1)))],iP (((2*(x+1))+1:Nat):Int)] (EV (false,(f (x+1))) aD ((2*(x+1))+1) aC aC),.a (aC:0<(2:Int))]<|.w ((x+1)%2=1)
     (λho=>ae [ah 24 ((((x+1)%2:Nat):Int)==1) (by rw[ho];rfl),ag [.agg [bP false,gV (gR ((f (x+1))/((2*(x+1))+1)))]] (wB (false,((f (x+1))/((2*(x+1))+1)))),ag [.agg [bP ((ml f x).1),gV (gR ((ml f x).2))],.agg [bP (!false),gV (gR ((f (x+1))/((2*(x+1))+1)))]] (sY (ml f x) aD ((!false),((f (x+1))/((2*(x+1))+1))) aD aD),
      ij (((x+1:Nat):Int)+1) aC]<|.e (af [.b 5 (.iL (by first|rfl|simp[ml,ho]):Bx.le (.cells 216 [bP ((jr (ml f x) ((!false),((f (x+1))/((2*(x+1))+1)))).1),gV (gR ((jr (ml f x) ((!false),((f (x+1))/((2*(x+1))+1)))).2))]) (.cells 216 [bP ((ml f (x+1)).1),gV (gR ((ml f (x+1)).2))]))]))
     (λho=>ae [ai 24 ((((x+1)%2:Nat):Int)==1) aN,ag [.agg [bP ((ml f x).1),gV (gR ((ml f x).2))],.agg [bP false,gV (gR ((f (x+1))/((2*(x+1))+1)))]] (sY (ml f x) aD (false,((f (x+1))/((2*(x+1))+1))) aD aD),
      ij (((x+1:Nat):Int)+1) aC]<|.e (af [.b 5 (.iL (by first|rfl|simp[ml,ho]):Bx.le (.cells 216 [bP ((jr (ml f x) (false,((f (x+1))/((2*(x+1))+1)))).1),gV (gR ((jr (ml f x) (false,((f (x+1))/((2*(x+1))+1)))).2))]) (.cells 216 [bP ((ml f (x+1)).1),gV (gR ((ml f (x+1)).2))]))]))) aF)
  (λhx=>by
    have z1:=CR hf hB hz (N+1);have z0:=CR hf hB hz N;have zs:=(Hb hf hB hz N).1;have zt:=(Hb hf hB hz N).2;have zu:=PY hf hB hz N;exact iA (af [.c (hp N aC:gQ g ((.agg [bP false,gV (gR (f N))])::cap) _),ag [.agg [bP false,gV (gR (f (N+1)))]] (C7 (false,(f (N+1))) aD),tB 15 (a6 hN)]) aF) aI:jB 4 f309 (PW f g cap N 0) .ret ⟨30,true,[(4,.box 4 0)],[(4,.cells 216 [bP ((ml f N).1),gV (gR ((ml f N).2))])]⟩) (af [.o 6 (aq 1 ((0+1:Nat):Int) aO),.b 5 (.iL (by first|rfl|simp[ml,ho]):Bx.le (.cells 216 [bP false,gV (gR (f 0))]) (.cells 216 [bP ((ml f 0).1),gV (gR ((ml f 0).2))]))])]) 
def aa4(m n:Nat)(hm:(gR m).length<=256)(qq:n≠0)(hn:n<60000):gQ 310 [.agg [bP false,gV (gR m)],(.iM 1 λj_=>[iP n].getD j_ .any)] (.agg [bP false,gV (gR (m/(n*n)))]):=by
 have hnn:n*n<3600000000:=amV hn hn;have hnz:n*n≠0:=df qq qq;exact ak call310 func310 (af [ij ((n:Int)*(n:Int)) aC,ag [.agg [bP false,gV (gR m)],iP ((n*n:Nat):Int)] (EV (false,m) aD (n*n) aC aC)]) 
def aa5(n b:Nat)(S:Bool×Nat)(qq:n≠0)(hn:n<60000)(hb:b<=8000)(hS:gQ 309 [.agg [bP false,gV (gR (1*2^b/n))],.fn 310 [(.iM 1 λj_=>[iP n].getD j_ .any)]] (.agg [bP S.1,gV (gR S.2)])):gQ 308 [iP n,iP b] (.agg [bP S.1,gV (gR S.2)]):=by
 have z0:(gR 1).length<=256:=th aE;have z1:(gR (1*2^b)).length<=256:=lg (k:=b+1) (by rw[bC,bU];have:0<2^b:=bn aE;omega) aC;exact ak call308 func308 (af [.o 6 (.e wU:aj (.sl false 1 1 λi_ j_=>[.v (.int .u32 1)].getD (i_*1+j_) (.v (.bool false))) (gV (gR 1))),.c (zP 1 b aD aC aD),ag [.agg [bP false,gV (gR (1*2^b))],iP n] (EV (false,(1*2^b)) aD n aC aC),ag [.agg [bP false,gV (gR ((1*2^b)/n))],.fn 310 [(.iM 1 λj_=>[iP n].getD j_ .any)]] hS]) 
def QI(n b:Nat)(qq:2<=n)(hn:n<60000)(hb:b<=8000):∃ S:Bool×Nat,S.2<=2^b/n/\2^b/n<=S.2+2^b/n/(n*n)/3/\gQ 308 [iP (n:Int),iP (b:Int)] (.agg [bP S.1,gV (gR S.2)]):=by
 obtain⟨N,h1,h2,h3⟩:=afL (b:=b) qq;have hf:∀ k,r7 n b (k+1)<=r7 n b k:=λk=>bT _ _
 obtain⟨r1,r2⟩:=KU hf N;have e0:r7 n b 0=2^b/n:=by show 1*2^b/n=_;rw[bU]
 have e1:r7 n b 1=2^b/n/(n*n):=by show r7 n b 0/(n*n)=_;rw[e0]
 refine⟨ml (r7 n b) N,by rw[<-e0];exact r1,by rw[<-e1,<-e0];exact r2,?_⟩;exact aa5 n b _ aC hn hb (aaF (r7 n b) 310 _ N (λk _=>aa4 (r7 n b k) n (CR hf (aC:b+1<=8191) (Nd n b) k) aC hn) hf (b+1) aC (Nd n b) h2 h3 aC)
def abg(b:Nat)(x y:Bool×Nat)(zx:x.2<2^b)(zy:y.2<2^b)(hb:b<=8000)(hx:gQ 308 [iP ((5:Nat):Int),iP (b:Int)] (.agg [bP x.1,gV (gR x.2)]))(hy:gQ 308 [iP ((239:Nat):Int),iP (b:Int)] (.agg [bP y.1,gV (gR y.2)])):gQ 295 [iP b] (.agg [bP ((jr (false,x.2*2^4) (true,y.2*2^2)).1),gV (gR ((jr (false,x.2*2^4) (true,y.2*2^2)).2))]):=by
 have z1:(gR x.2).length<=256:=lg zx aC;have z2:(gR y.2).length<=256:=lg zy aC;have e5:2^(b+5)=2^b*32:=by rw[bh]
 have z3:(gR (x.2*2^4)).length<=256:=lg (k:=b+5) aC aC;have z4:(gR (y.2*2^2)).length<=256:=lg (k:=b+5) aC aC;have z5:(gR (x.2*2^4+y.2*2^2)).length<=256:=lg (k:=b+5) aC aC;exact ak call295 func295 (af [ag [iP 5,iP b] hx,ag [iP 239,iP b] hy,.c (zP x.2 4 aD aC aD),.c (zP y.2 2 aD aC aD),ag [.agg [bP false,gV (gR (x.2*2^4))],.agg [bP true,gV (gR (y.2*2^2))]] (sY (false,(x.2*2^4)) aD (true,(y.2*2^2)) aD aD)]) 
def QJ(b:Nat)(iO:16<=b)(hb:b<=8000):∃ c:Bool×Nat,2<=c.2/\c.2<=2^b*4/\c.2/2<=2^b*2/\gQ 295 [iP (b:Int)] (.agg [bP c.1,gV (gR c.2)]):=by
 obtain⟨x,x1,x2,hx⟩:=QI 5 b aE aE hb;obtain⟨y,y1,y2,hy⟩:=QI 239 b aE aE hb;have hT:65536<=2^b:=by have:=bH (show 0<2 by decide) iO;omega
 obtain⟨g1,g2,g3⟩:=ah4 hT rfl x1 x2 y1 rfl;exact⟨_,g1,g2,g3,abg b x y aC aC hb hx hy⟩
def YF(n:Nat)(h:n<4294967296):bits .and .u32 (n:Int) 3=((n%4:Nat):Int):=by
 have:=bits_and_u32_nat n 3 h aE;rw[show((3:Int))=((3:Nat):Int)from rfl,this];exact congrArg _ (amM n 2)
def afr(k:Nat)(h:k<=3):bits .and .i64 (4-(k:Int)) 3=(((4-k)%4:Nat):Int):=by
 rcases(aC:k=0\/k=1\/k=2\/k=3)with rfl|rfl|rfl|rfl<;>decide
def ady{x:Bool×Nat}{m:Nat}(h:m<=x.2):jr x (!x.1,m)=(x.1,x.2-m):=by
 unfold jr;rw[aY (by show ¬x.1 = !x.1;cases x.1<;>decide),aY (by show ¬x.2<m;omega)]
def aiz(n:Nat):n%4<=3:= aC 
def aiy(n:Nat):(4-n)%4<=3:= aC 
def aiA{x:Bool×Nat}{H b t:Nat}(h0:1<=H)(hH:H<=2^(b+t+40)*2):(jr x (!x.1,x.2/H*H)).2/2^(t+40)<=2^(b+1):=by
 rw[ady (cU _ _)];show(x.2-x.2/H*H)/_<=_;have h1:x.2-x.2/H*H=x.2%H:=by
  have:=cB x.2 H;rw[bD H]at this;omega
 have h2:=bF x.2 (aC:0<H);rw[h1];refine Nat.div_le_of_le_mul (bg (dt h2) (bg hH (gF ?_)));rw[<-bh,(aC:t+40+(b+1)=b+t+40+1)];exact(bC 2 (b+t+40)).symm
def kN(x:Bool×Nat):Nat->Bool
 | 0=>false
 |k+1=>(kN x k != x.1)
def jD(x:Bool×Nat)(b:Nat):Nat->(Bool×Nat)×(Bool×Nat)
 | 0=>((false,0),(false,1*2^b))
 |k+1=>if(k+1)%2=1 then(jr (jD x b k).1 ((if 2<=(k+1)%4 then !(kN x (k+1))else kN x (k+1)),jR x.2 b (k+1)),(jD x b k).2)
  else((jD x b k).1,jr (jD x b k).2 ((if 2<=(k+1)%4 then !(kN x (k+1))else kN x (k+1)),jR x.2 b (k+1)))
def XS{x:Bool×Nat}{b:Nat}(h:x.2<=2^(b+1)):∀ k,(jD x b k).1.2<=(k+1)*2^(b+1)/\(jD x b k).2.2<=(k+1)*2^(b+1)
 | 0=>⟨bV _,by show 1*2^b<=_;have:=bC (n:=2) (m:=b);omega⟩
 |k+1=>by
  obtain⟨h1,h2⟩:=XS h k;have h3:=EZ h (k+1);have h4:(k+1+1)*2^(b+1)=(k+1)*2^(b+1)+2^(b+1):=gH _ _;unfold jD;split
  .refine ⟨bg (xt _ _) ?_,by rw[h4];exact bg h2 (Nat.le_add_right _ _)⟩;rw[h4];exact Nat.add_le_add h1 h3
  .refine ⟨by rw[h4];exact bg h1 (Nat.le_add_right _ _),bg (xt _ _) ?_⟩;rw[h4];exact Nat.add_le_add h2 h3
def XT{x:Bool×Nat}{b:Nat}(h:x.2<=2^(b+1))(hb:b<=3000){k:Nat}(hk:k<=b+5):(jD x b k).1.2<2^(b+14)/\(jD x b k).2.2<2^(b+14):=by
 obtain⟨h1,h2⟩:=XS h k;have h3:(k+1)*2^(b+1)<2^(b+14):=by
  rw[(aC:b+14=13+(b+1)),bh 2 13];exact de aC (bn aE)
 exact⟨ck h1 h3,ck h2 h3⟩
def adN{T:TypeId}:Bx.le (.cells T [bP false,.v (.slice none 0 0)]) (.cells T [bP false,gV (gR 0)]):=
 .cells (λ_=>rfl) (.cons (.refl _) (.cons Cn .nil))
structure Zh(x:Bool×Nat)(b k:Nat):Prop where
 t0:(gR (jR x.2 b k)).length<=256
 t1:(gR (jR x.2 b (k+1))).length<=256
 tm:(gR (jR x.2 b k*x.2)).length<=256
 tq:(gR (jR x.2 b k*x.2/2^b)).length<=256
 s0:(gR (jD x b k).1.2).length<=256
 c0:(gR (jD x b k).2.2).length<=256
 s1:(gR ((jD x b k).1.2+jR x.2 b (k+1))).length<=256
 c1:(gR ((jD x b k).2.2+jR x.2 b (k+1))).length<=256
def XR{x:Bool×Nat}{b:Nat}(h:x.2<=2^(b+1))(hb:b<=3000){k:Nat}(hk:k<=b+5):Zh x b k:=by
 have hp:(2:Nat)^(b+2)=2^(b+1)*2:=bC _ _;have hq:(0:Nat)<2^(b+1):=bn aE;have t0:=EZ h k;have t1:=EZ h (k+1);obtain⟨s,c⟩:=XT h hb hk;have hm:jR x.2 b k*x.2<2^(b+2+(b+2)):=by
  rw[bh];exact amV aC aC 
 have e14:(2:Nat)^(b+15)=2^(b+14)*2:=bC _ _;have e13:(2:Nat)^(b+1)<=2^(b+14):=bH aE aC;exact⟨lg (k:=b+2) aC aC,lg (k:=b+2) aC aC,lg hm aC,lg (ck (bT _ _) hm) aC,
  lg s aC,lg c aC,lg (k:=b+15) aC aC,lg (k:=b+15) aC aC⟩
def VJ{s:Bool}{m b:Nat}(h:m<2^4000)(hb:b<=8000):mv (canon s m (-(b:Int))):=by
 by_cases h0:m=0
 .subst h0;exact .inl rfl
 .have e:canon s m (-(b:Int))=⟨s,m/2^jj m,-(b:Int)+jj m⟩:=by unfold canon;rw[aY h0]
  have h1:gZ m<=4000:=lR.2 h;have h2:=wm (bT m (2^jj m));have h3:jj m<=4000:=by
   have:=Gh h0;apply bM;intro hc;have:=bH (show 0<2 by decide) (aC:4000<=jj m);omega
  rw[e];exact .inr ⟨by show gZ (m/2^jj m)<=4096;omega,by show -16384 <= -(b:Int)+jj m;omega,by show -(b:Int)+jj m<=16384;omega,by show(gZ (m/2^jj m):Int)+(-(b:Int)+jj m)<=16384;omega⟩
def JT{a b i j n:Nat}(ha:a<2^i)(hb:b<2^j)(hi:i<=n)(hj:j<=n):a+b<2^(n+1):=by
 have h1:=bH (show 0<2 by decide) hi;have h2:=bH (show 0<2 by decide) hj;have e:2^(n+1)=2^n*2:=bC _ _;omega
def adz{a b:Bool×Nat}{i j n:Nat}(ha:a.2<2^i)(hb:b.2<2^j)(hi:i<=n)(hj:j<=n):(jr a b).2<2^(n+1):=ck (xt _ _) (JT ha hb hi hj)
def VK{s:Bool}{m:Nat}{e:Int}(h:mv (canon s m e)):(canon s m e).gX:=⟨ri _ _ _,h⟩
def Gi{m i k:Nat}(h:m<2^i)(hk:i<=k):m<2^k:=bJ h (bH aE hk)
def pq(a c:Bool×Nat):Bool×Nat:=if a.1=true/\a.2%c.2≠0 then jr (a.1,a.2/c.2) (true,1)else(a.1,a.2/c.2)
def SI(a c:Bool×Nat):(pq a c).2<=a.2/c.2+1:=by
 unfold pq;split
 .exact xt _ _
 .exact Nat.le_succ _
def adI(a c:Bool×Nat):(pq a c).2*c.2<=a.2+c.2:=by
 refine bg (bK c.2 (SI a c)) ?_;rw[gH];exact Nat.add_le_add_right (cU _ _) _
def Vw{lo hi:Dy}{e f:Int}(h:e≠0\/f≠0):lr lo e hi f=gT:=aZ h
def agP{lo hi:Dy}{e f:Int}(h:e=0)(k:f=0):lr lo e hi f=⟨lo,hi,false⟩:=aY (by rw[h,k];decide)
def Xx(x:Bool×Nat)(b N:Nat)(i:Nat):PS:=⟨43,true,[(8,.e (iP ((i+1:Nat):Int))),(7,.box 7 0),(5,.box 5 0),(4,.box 4 0),(2,.box 2 0),(1,.e (iP b))],[(5,.cells 216 [bP (((jD x b i).2).1),gV (gR (((jD x b i).2).2))]),(7,.cells 216 [bP (kN x i),gV (gR (jR x.2 b i))]),(4,.cells 216 [bP (((jD x b i).1).1),gV (gR (((jD x b i).1).2))]),(2,.cells 216 [bP x.1,gV (gR x.2)])]⟩
def Js(n i:Nat):(gR n).getD i 0<4294967296:=by
 by_cases h:i<(gR n).length
 .rw [bd,bt h];exact mB n _ (cz h)
 .rw [bd,b7 aC];decide
def abv(d:Dy)(b t m:Nat)(cp:Bool×Nat)(hd:d.gX)(ht:t=d.ig.toNat)(iO:16<=b)(lL:b<=2000)(sC:t<=2000)(K:Nat)(hK:K<=6000)(zx:m<2^K)(zc:2<=cp.2)(zd:(gR cp.2).length<=256)(rn:gQ 295 [iP (((b+t)+40:Nat):Int)] (.agg [bP cp.1,gV (gR cp.2)]))(uA:gQ 301 [gU d,iP (((b+t)+40:Nat):Int)] (.agg [bP true,gV (gR m)]))(hn:0<(gR (m/(cp.2/2^1))).length):gQ 291 [gU d,iP b] (.ie [.agg [bP ((jr (true,m) (false,((m/(cp.2/2^1))*(cp.2/2^1)))).1),gV (gR ((jr (true,m) (false,((m/(cp.2/2^1))*(cp.2/2^1)))).2/2^(t+40)))],iP (((4-((gR (m/(cp.2/2^1))).getD 0 0%4))%4:Nat):Int)]):=by
 have MR:=GG hd;have zX:(gR m).length<=256:=lg zx aC;have zH:(gR (cp.2/2^1)).length<=256:=bg (mw (bT _ _)) zd;have nH:(cp.2/2^1)≠0:= aC ;have mM:((m/(cp.2/2^1))*(cp.2/2^1))<=m:=cU _ _;have zN:(gR (m/(cp.2/2^1))).length<=256:=bg (mw (bT _ _)) zX;have zM:(gR ((m/(cp.2/2^1))*(cp.2/2^1))).length<=256:=bg (mw mM) zX;have zA:(gR (m+((m/(cp.2/2^1))*(cp.2/2^1)))).length<=256:=lg (k:=K+1) (by have:=bC 2 K;omega) aC;have zR:(gR (jr (true,m) (false,((m/(cp.2/2^1))*(cp.2/2^1)))).2).length<=256:=bg (mw (xt _ _)) zA;have zm:(gR (m%(cp.2/2^1))).length<=256:=bg (mw (ek _ _)) zX;have hg:(gR (m/(cp.2/2^1))).getD 0 0<4294967296:=Js _ 0;have h4:(gR (m/(cp.2/2^1))).getD 0 0%4<=3:= aC ;exact ak call291 func291 (af [ag [gU d] (mK _ aD),.o 19 (aq (if 0>(Dy.ig d)then 0 else(Dy.ig d)) t aM),ij ((b:Int)+t) aC,
  ij (((b+t:Nat):Int)+40) aC,ag [iP (((b+t)+40:Nat):Int)] rn,.c (wo cp.2 1 aD aC),ag [gU d,iP (((b+t)+40:Nat):Int)] uA,ag [gV (gR m),gV (gR (cp.2/2^1))] (yY _ _ aC aC aD),ag [gV (gR (m/(cp.2/2^1))),gV (gR (cp.2/2^1))] (xK _ _ aD aD aD),ag [.agg [bP true,gV (gR m)],.agg [bP false,gV (gR ((m/(cp.2/2^1))*(cp.2/2^1)))]] (sY (true,m) aD (false,((m/(cp.2/2^1))*(cp.2/2^1))) aD aD),tT 61 (0<((gR (m/(cp.2/2^1))).length:Int)) aC,iX 0 ((gR (m/(cp.2/2^1))).length) aC,.o 65 (.int (YF _ aC):aj (.v (.int .u32 (bits .and .u32 (((gR (m/(cp.2/2^1))).getD 0 0:Nat):Int) 3))) (.v (.int .u32 ((((gR (m/(cp.2/2^1))).getD 0 0)%4:Nat):Int)))),.o 66 (aq (IntKind.i64.wrap ((((gR (m/(cp.2/2^1))).getD 0 0)%4:Nat):Int)) ((((gR (m/(cp.2/2^1))).getD 0 0)%4:Nat):Int) (Jf _ aC)),
  ij (4-((((gR (m/(cp.2/2^1))).getD 0 0)%4:Nat):Int)) aC,.o 71 (aq (bits .and .i64 (4-((((gR (m/(cp.2/2^1))).getD 0 0)%4:Nat):Int)) 3) (((4-((gR (m/(cp.2/2^1))).getD 0 0%4))%4:Nat):Int) (afr _ aC)),
  ij ((t:Int)+40) aC,.c (wo ((jr (true,m) (false,((m/(cp.2/2^1))*(cp.2/2^1)))).2) (t+40) aD aC)]) 
def abt(d:Dy)(b t m:Nat)(cp:Bool×Nat)(hd:d.gX)(ht:t=d.ig.toNat)(iO:16<=b)(lL:b<=2000)(sC:t<=2000)(K:Nat)(hK:K<=6000)(zx:m<2^K)(zc:2<=cp.2)(zd:(gR cp.2).length<=256)(rn:gQ 295 [iP (((b+t)+40:Nat):Int)] (.agg [bP cp.1,gV (gR cp.2)]))(uA:gQ 301 [gU d,iP (((b+t)+40:Nat):Int)] (.agg [bP true,gV (gR m)]))(hn:¬0<(gR (m/(cp.2/2^1))).length):gQ 291 [gU d,iP b] (.ie [.agg [bP ((jr (true,m) (false,((m/(cp.2/2^1))*(cp.2/2^1)))).1),gV (gR ((jr (true,m) (false,((m/(cp.2/2^1))*(cp.2/2^1)))).2/2^(t+40)))],iP 0]):=by
 have MR:=GG hd;have zX:(gR m).length<=256:=lg zx aC;have zH:(gR (cp.2/2^1)).length<=256:=bg (mw (bT _ _)) zd;have nH:(cp.2/2^1)≠0:= aC ;have mM:((m/(cp.2/2^1))*(cp.2/2^1))<=m:=cU _ _;have zN:(gR (m/(cp.2/2^1))).length<=256:=bg (mw (bT _ _)) zX;have zM:(gR ((m/(cp.2/2^1))*(cp.2/2^1))).length<=256:=bg (mw mM) zX;have zA:(gR (m+((m/(cp.2/2^1))*(cp.2/2^1)))).length<=256:=lg (k:=K+1) (by have:=bC 2 K;omega) aC;have zR:(gR (jr (true,m) (false,((m/(cp.2/2^1))*(cp.2/2^1)))).2).length<=256:=bg (mw (xt _ _)) zA;have zm:(gR (m%(cp.2/2^1))).length<=256:=bg (mw (ek _ _)) zX;have hg:(gR (m/(cp.2/2^1))).getD 0 0<4294967296:=Js _ 0;have h4:(gR (m/(cp.2/2^1))).getD 0 0%4<=3:= aC ;exact ak call291 func291 (af [ag [gU d] (mK _ aD),.o 19 (aq (if 0>(Dy.ig d)then 0 else(Dy.ig d)) t aM),ij ((b:Int)+t) aC,
  ij (((b+t:Nat):Int)+40) aC,ag [iP (((b+t)+40:Nat):Int)] rn,.c (wo cp.2 1 aD aC),ag [gU d,iP (((b+t)+40:Nat):Int)] uA,ag [gV (gR m),gV (gR (cp.2/2^1))] (yY _ _ aC aC aD),ag [gV (gR (m/(cp.2/2^1))),gV (gR (cp.2/2^1))] (xK _ _ aD aD aD),ag [.agg [bP true,gV (gR m)],.agg [bP false,gV (gR ((m/(cp.2/2^1))*(cp.2/2^1)))]] (sY (true,m) aD (false,((m/(cp.2/2^1))*(cp.2/2^1))) aD aD),tF 61 (0<((gR (m/(cp.2/2^1))).length:Int)) aC,ij (4-0) aC,.o 71 (aq (bits .and .i64 (4-0) 3) 0 aE),ij ((t:Int)+40) aC,.c (wo ((jr (true,m) (false,((m/(cp.2/2^1))*(cp.2/2^1)))).2) (t+40) aD aC)]) 
def abw(d:Dy)(b t m:Nat)(cp:Bool×Nat)(hd:d.gX)(ht:t=d.ig.toNat)(iO:16<=b)(lL:b<=2000)(sC:t<=2000)(K:Nat)(hK:K<=6000)(zx:m<2^K)(zc:2<=cp.2)(zd:(gR cp.2).length<=256)(rn:gQ 295 [iP (((b+t)+40:Nat):Int)] (.agg [bP cp.1,gV (gR cp.2)]))(uA:gQ 301 [gU d,iP (((b+t)+40:Nat):Int)] (.agg [bP false,gV (gR m)]))(hn:0<(gR (m/(cp.2/2^1))).length):gQ 291 [gU d,iP b] (.ie [.agg [bP ((jr (false,m) (true,((m/(cp.2/2^1))*(cp.2/2^1)))).1),gV (gR ((jr (false,m) (true,((m/(cp.2/2^1))*(cp.2/2^1)))).2/2^(t+40)))],iP (((gR (m/(cp.2/2^1))).getD 0 0%4:Nat):Int)]):=by
 have MR:=GG hd;have zX:(gR m).length<=256:=lg zx aC;have zH:(gR (cp.2/2^1)).length<=256:=bg (mw (bT _ _)) zd;have nH:(cp.2/2^1)≠0:= aC ;have mM:((m/(cp.2/2^1))*(cp.2/2^1))<=m:=cU _ _;have zN:(gR (m/(cp.2/2^1))).length<=256:=bg (mw (bT _ _)) zX;have zM:(gR ((m/(cp.2/2^1))*(cp.2/2^1))).length<=256:=bg (mw mM) zX;have zA:(gR (m+((m/(cp.2/2^1))*(cp.2/2^1)))).length<=256:=lg (k:=K+1) (by have:=bC 2 K;omega) aC;have zR:(gR (jr (false,m) (true,((m/(cp.2/2^1))*(cp.2/2^1)))).2).length<=256:=bg (mw (xt _ _)) zA;have zm:(gR (m%(cp.2/2^1))).length<=256:=bg (mw (ek _ _)) zX;have hg:(gR (m/(cp.2/2^1))).getD 0 0<4294967296:=Js _ 0;have h4:(gR (m/(cp.2/2^1))).getD 0 0%4<=3:= aC ;exact ak call291 func291 (af [ag [gU d] (mK _ aD),.o 19 (aq (if 0>(Dy.ig d)then 0 else(Dy.ig d)) t aM),ij ((b:Int)+t) aC,
  ij (((b+t:Nat):Int)+40) aC,ag [iP (((b+t)+40:Nat):Int)] rn,.c (wo cp.2 1 aD aC),ag [gU d,iP (((b+t)+40:Nat):Int)] uA,ag [gV (gR m),gV (gR (cp.2/2^1))] (yY _ _ aC aC aD),ag [gV (gR (m/(cp.2/2^1))),gV (gR (cp.2/2^1))] (xK _ _ aD aD aD),ag [.agg [bP false,gV (gR m)],.agg [bP true,gV (gR ((m/(cp.2/2^1))*(cp.2/2^1)))]] (sY (false,m) aD (true,((m/(cp.2/2^1))*(cp.2/2^1))) aD aD),tT 61 (0<((gR (m/(cp.2/2^1))).length:Int)) aC,iX 0 ((gR (m/(cp.2/2^1))).length) aC,.o 65 (.int (YF _ aC):aj (.v (.int .u32 (bits .and .u32 (((gR (m/(cp.2/2^1))).getD 0 0:Nat):Int) 3))) (.v (.int .u32 ((((gR (m/(cp.2/2^1))).getD 0 0)%4:Nat):Int)))),.o 66 (aq (IntKind.i64.wrap ((((gR (m/(cp.2/2^1))).getD 0 0)%4:Nat):Int)) ((((gR (m/(cp.2/2^1))).getD 0 0)%4:Nat):Int) (Jf _ aC)),
  ij ((t:Int)+40) aC,.c (wo ((jr (false,m) (true,((m/(cp.2/2^1))*(cp.2/2^1)))).2) (t+40) aD aC)]) 
def abu(d:Dy)(b t m:Nat)(cp:Bool×Nat)(hd:d.gX)(ht:t=d.ig.toNat)(iO:16<=b)(lL:b<=2000)(sC:t<=2000)(K:Nat)(hK:K<=6000)(zx:m<2^K)(zc:2<=cp.2)(zd:(gR cp.2).length<=256)(rn:gQ 295 [iP (((b+t)+40:Nat):Int)] (.agg [bP cp.1,gV (gR cp.2)]))(uA:gQ 301 [gU d,iP (((b+t)+40:Nat):Int)] (.agg [bP false,gV (gR m)]))(hn:¬0<(gR (m/(cp.2/2^1))).length):gQ 291 [gU d,iP b] (.ie [.agg [bP ((jr (false,m) (true,((m/(cp.2/2^1))*(cp.2/2^1)))).1),gV (gR ((jr (false,m) (true,((m/(cp.2/2^1))*(cp.2/2^1)))).2/2^(t+40)))],iP 0]):=by
 have MR:=GG hd;have zX:(gR m).length<=256:=lg zx aC;have zH:(gR (cp.2/2^1)).length<=256:=bg (mw (bT _ _)) zd;have nH:(cp.2/2^1)≠0:= aC ;have mM:((m/(cp.2/2^1))*(cp.2/2^1))<=m:=cU _ _;have zN:(gR (m/(cp.2/2^1))).length<=256:=bg (mw (bT _ _)) zX;have zM:(gR ((m/(cp.2/2^1))*(cp.2/2^1))).length<=256:=bg (mw mM) zX;have zA:(gR (m+((m/(cp.2/2^1))*(cp.2/2^1)))).length<=256:=lg (k:=K+1) (by have:=bC 2 K;omega) aC;have zR:(gR (jr (false,m) (true,((m/(cp.2/2^1))*(cp.2/2^1)))).2).length<=256:=bg (mw (xt _ _)) zA;have zm:(gR (m%(cp.2/2^1))).length<=256:=bg (mw (ek _ _)) zX;have hg:(gR (m/(cp.2/2^1))).getD 0 0<4294967296:=Js _ 0;have h4:(gR (m/(cp.2/2^1))).getD 0 0%4<=3:= aC ;exact ak call291 func291 (af [ag [gU d] (mK _ aD),.o 19 (aq (if 0>(Dy.ig d)then 0 else(Dy.ig d)) t aM),ij ((b:Int)+t) aC,
  ij (((b+t:Nat):Int)+40) aC,ag [iP (((b+t)+40:Nat):Int)] rn,.c (wo cp.2 1 aD aC),ag [gU d,iP (((b+t)+40:Nat):Int)] uA,ag [gV (gR m),gV (gR (cp.2/2^1))] (yY _ _ aC aC aD),ag [gV (gR (m/(cp.2/2^1))),gV (gR (cp.2/2^1))] (xK _ _ aD aD aD),ag [.agg [bP false,gV (gR m)],.agg [bP true,gV (gR ((m/(cp.2/2^1))*(cp.2/2^1)))]] (sY (false,m) aD (true,((m/(cp.2/2^1))*(cp.2/2^1))) aD aD),tF 61 (0<((gR (m/(cp.2/2^1))).length:Int)) aC,ij ((t:Int)+40) aC,.c (wo ((jr (false,m) (true,((m/(cp.2/2^1))*(cp.2/2^1)))).2) (t+40) aD aC)]) 
def abr(d:Dy)(b:Nat)(hd:d.gX)(iO:16<=b)(lL:b<=1000)(ht:d.ig<=100):∃ (r:Bool×Nat) (k:Nat),r.2<=2^(b+1)/\k<=3/\gQ 291 [gU d,iP (b:Int)] (.ie [.agg [bP r.1,gV (gR r.2)],iP (k:Int)]):=by
 obtain⟨t,sC⟩:∃ t,t=d.ig.toNat:=⟨_,rfl⟩
 obtain⟨cp,c1,c2,c3,rn⟩:=QJ (b+t+40) aC aC;have uA:=K4 d hd (b+t+40) 6000 aC aE aC;have im:=JI (d:=d) (b:=b+t+40) (K:=6000) aC;generalize qZ d (b+t+40)=x at uA im;have hp:(2:Nat)^(b+t+40+3)=2^(b+t+40)*8:=by rw[bh]
 have zd:(gR cp.2).length<=256:=lg (k:=b+t+40+3) (by have:0<2^(b+t+40):=bn aE;omega) aC;obtain⟨sg,m⟩:=x;have hle:=aiA (x:=(sg,m)) (H:=cp.2/2^1) (b:=b) (t:=t) aC c3;by_cases hn:0<(gR (m/(cp.2/2^1))).length
 .cases sg with
  |false=>exact⟨((jr (false,m) (true,m/(cp.2/2^1)*(cp.2/2^1))).1,(jr (false,m) (true,m/(cp.2/2^1)*(cp.2/2^1))).2/2^(t+40)),_,hle,aiz _,abw d b t m cp hd sC iO aC aC 6000 aE im c1 zd rn uA hn⟩
  |true=>exact⟨((jr (true,m) (false,m/(cp.2/2^1)*(cp.2/2^1))).1,(jr (true,m) (false,m/(cp.2/2^1)*(cp.2/2^1))).2/2^(t+40)),_,hle,aiy _,abv d b t m cp hd sC iO aC aC 6000 aE im c1 zd rn uA hn⟩
 .cases sg with
  |false=>exact⟨((jr (false,m) (true,m/(cp.2/2^1)*(cp.2/2^1))).1,(jr (false,m) (true,m/(cp.2/2^1)*(cp.2/2^1))).2/2^(t+40)),_,hle,bV 3,abu d b t m cp hd sC iO aC aC 6000 aE im c1 zd rn uA hn⟩
  |true=>exact⟨((jr (true,m) (false,m/(cp.2/2^1)*(cp.2/2^1))).1,(jr (true,m) (false,m/(cp.2/2^1)*(cp.2/2^1))).2/2^(t+40)),_,hle,bV 3,abt d b t m cp hd sC iO aC aC 6000 aE im c1 zd rn uA hn⟩
def aby(x:Bool×Nat)(b N:Nat)(tc:x.2<=2^(b+1))(hb:b<=3000)(sr:N<=b+4)(h0:∀ k,k<N+1->jR x.2 b k≠0)(hN:jR x.2 b (N+1)=0):gQ 292 [.agg [bP x.1,gV (gR x.2)],iP b] (.ie [.agg [bP (((jD x b N).1).1),gV (gR (((jD x b N).1).2))],.agg [bP (((jD x b N).2).1),gV (gR (((jD x b N).2).2))]]):=by
 have zx:(gR x.2).length<=256:=lg (k:=b+2) (by have e:2^(b+2)=2^(b+1)*2:=bC _ _;have:0<2^(b+1):=bn aE;omega) aC;have z0:(gR 1).length<=256:=th aE;have z1:(gR (1*2^b)).length<=256:=lg (k:=b+1) (by rw[bC,bU];have:0<2^b:=bn aE;omega) aC;exact ak call292 func292 (af [.o 10 (.e wU:aj (.sl false 1 1 λi_ j_=>[.v (.int .u32 1)].getD (i_*1+j_) (.v (.bool false))) (gV (gR 1))),.c (zP 1 b aD aC aD),.s (Sp.jE (Xx x b N) 0 N aC (λi hi oM=>by
    have SF:=XR tc hb (k:=i) aC;obtain⟨f0,f1,f2,f3,f4,f5,f6,f7⟩:=SF;exact iA (ae [ag [.agg [bP (kN x i),gV (gR (jR x.2 b i))],.agg [bP x.1,gV (gR x.2)],iP b] (LI ((kN x i),(jR x.2 b i)) aD x aD _ aC aD),ag [.agg [bP ((kN x i) != x.1),gV (gR ((jR x.2 b i)*x.2/2^b))],iP ((i+1:Nat):Int)] (EV (((kN x i) != x.1),((jR x.2 b i)*x.2/2^b)) aD (i+1) aC aC),ag [.agg [bP (kN x (i+1)),gV (gR (jR x.2 b (i+1)))]] (C7 ((kN x (i+1)),(jR x.2 b (i+1))) aD),tF 25 ((jR x.2 b (i+1))=0) (h0 (i+1) aC),.a (aC:0<(4:Int))]<|.w (2<=(i+1)%4)
     (λh4=>ae [tT 31 (2<=(((i+1)%4:Nat):Int)) aC,ag [.agg [bP (kN x (i+1)),gV (gR (jR x.2 b (i+1)))]] (wB ((kN x (i+1)),(jR x.2 b (i+1)))),.a (aC:0<(2:Int))]<|.w ((i+1)%2=1)
      (λho=>ae [ah 36 ((((i+1)%2:Nat):Int)==1) (by rw[ho];rfl),ag [.agg [bP (((jD x b i).1).1),gV (gR (((jD x b i).1).2))],.agg [bP (!(kN x (i+1))),gV (gR (jR x.2 b (i+1)))]] (sY ((jD x b i).1) aD ((!(kN x (i+1))),(jR x.2 b (i+1))) aD aD),
       ij (((i+1:Nat):Int)+1) aC]<|.e (af [.b 5 (.iL (by first|rfl|simp[jD,kN,jR,ho,h4]|simp[jD,kN,jR]):Bx.le (.cells 216 [bP (((jD x b i).2).1),gV (gR (((jD x b i).2).2))]) (.cells 216 [bP (((jD x b (i+1)).2).1),gV (gR (((jD x b (i+1)).2).2))])),.b 4 (.iL (by first|rfl|simp[jD,kN,jR,ho,h4]|simp[jD,kN,jR]):Bx.le (.cells 216 [bP ((jr ((jD x b i).1) ((!(kN x (i+1))),(jR x.2 b (i+1)))).1),gV (gR ((jr ((jD x b i).1) ((!(kN x (i+1))),(jR x.2 b (i+1)))).2))]) (.cells 216 [bP (((jD x b (i+1)).1).1),gV (gR (((jD x b (i+1)).1).2))]))]))
      (λho=>ae [ai 36 ((((i+1)%2:Nat):Int)==1) aN,ag [.agg [bP (((jD x b i).2).1),gV (gR (((jD x b i).2).2))],.agg [bP (!(kN x (i+1))),gV (gR (jR x.2 b (i+1)))]] (sY ((jD x b i).2) aD ((!(kN x (i+1))),(jR x.2 b (i+1))) aD aD),
       ij (((i+1:Nat):Int)+1) aC]<|.e (af [.b 5 (.iL (by first|rfl|simp[jD,kN,jR,ho,h4]|simp[jD,kN,jR]):Bx.le (.cells 216 [bP ((jr ((jD x b i).2) ((!(kN x (i+1))),(jR x.2 b (i+1)))).1),gV (gR ((jr ((jD x b i).2) ((!(kN x (i+1))),(jR x.2 b (i+1)))).2))]) (.cells 216 [bP (((jD x b (i+1)).2).1),gV (gR (((jD x b (i+1)).2).2))])),.b 4 (.iL (by first|rfl|simp[jD,kN,jR,ho,h4]|simp[jD,kN,jR]):Bx.le (.cells 216 [bP (((jD x b i).1).1),gV (gR (((jD x b i).1).2))]) (.cells 216 [bP (((jD x b (i+1)).1).1),gV (gR (((jD x b (i+1)).1).2))]))])))
     (λh4=>ae [tF 31 (2<=(((i+1)%4:Nat):Int)) aC,.a (aC:0<(2:Int))]<|.w ((i+1)%2=1)
      (λho=>ae [ah 36 ((((i+1)%2:Nat):Int)==1) (by rw[ho];rfl),ag [.agg [bP (((jD x b i).1).1),gV (gR (((jD x b i).1).2))],.agg [bP (kN x (i+1)),gV (gR (jR x.2 b (i+1)))]] (sY ((jD x b i).1) aD ((kN x (i+1)),(jR x.2 b (i+1))) aD aD),
       ij (((i+1:Nat):Int)+1) aC]<|.e (af [.b 5 (.iL (by first|rfl|simp[jD,kN,jR,ho,h4]|simp[jD,kN,jR]):Bx.le (.cells 216 [bP (((jD x b i).2).1),gV (gR (((jD x b i).2).2))]) (.cells 216 [bP (((jD x b (i+1)).2).1),gV (gR (((jD x b (i+1)).2).2))])),.b 4 (.iL (by first|rfl|simp[jD,kN,jR,ho,h4]|simp[jD,kN,jR]):Bx.le (.cells 216 [bP ((jr ((jD x b i).1) ((kN x (i+1)),(jR x.2 b (i+1)))).1),gV (gR ((jr ((jD x b i).1) ((kN x (i+1)),(jR x.2 b (i+1)))).2))]) (.cells 216 [bP (((jD x b (i+1)).1).1),gV (gR (((jD x b (i+1)).1).2))]))]))
      (λho=>ae [ai 36 ((((i+1)%2:Nat):Int)==1) aN,ag [.agg [bP (((jD x b i).2).1),gV (gR (((jD x b i).2).2))],.agg [bP (kN x (i+1)),gV (gR (jR x.2 b (i+1)))]] (sY ((jD x b i).2) aD ((kN x (i+1)),(jR x.2 b (i+1))) aD aD),
       ij (((i+1:Nat):Int)+1) aC]<|.e (af [.b 5 (.iL (by first|rfl|simp[jD,kN,jR,ho,h4]|simp[jD,kN,jR]):Bx.le (.cells 216 [bP ((jr ((jD x b i).2) ((kN x (i+1)),(jR x.2 b (i+1)))).1),gV (gR ((jr ((jD x b i).2) ((kN x (i+1)),(jR x.2 b (i+1)))).2))]) (.cells 216 [bP (((jD x b (i+1)).2).1),gV (gR (((jD x b (i+1)).2).2))])),.b 4 (.iL (by first|rfl|simp[jD,kN,jR,ho,h4]|simp[jD,kN,jR]):Bx.le (.cells 216 [bP (((jD x b i).1).1),gV (gR (((jD x b i).1).2))]) (.cells 216 [bP (((jD x b (i+1)).1).1),gV (gR (((jD x b (i+1)).1).2))]))])))) aF)
  (λhi=>by
    have SF:=XR tc hb (k:=N) aC;obtain⟨f0,f1,f2,f3,f4,f5,f6,f7⟩:=SF;exact iA (af [ag [.agg [bP (kN x N),gV (gR (jR x.2 b N))],.agg [bP x.1,gV (gR x.2)],iP b] (LI ((kN x N),(jR x.2 b N)) aD x aD _ aC aD),ag [.agg [bP ((kN x N) != x.1),gV (gR ((jR x.2 b N)*x.2/2^b))],iP ((N+1:Nat):Int)] (EV (((kN x N) != x.1),((jR x.2 b N)*x.2/2^b)) aD (N+1) aC aC),ag [.agg [bP (kN x (N+1)),gV (gR (jR x.2 b (N+1)))]] (C7 ((kN x (N+1)),(jR x.2 b (N+1))) aD),tB 25 (a6 hN)]) aF) aI:jB 6 f292 (Xx x b N 0) .ret ⟨43,true,[(5,.box 5 0),(4,.box 4 0)],[(5,.cells 216 [bP (((jD x b N).2).1),gV (gR (((jD x b N).2).2))]),(4,.cells 216 [bP (((jD x b N).1).1),gV (gR (((jD x b N).1).2))])]⟩) (af [.o 8 (aq 1 ((0+1:Nat):Int) aO),.b 5 (.iL (by first|rfl|simp[jD,kN,jR,ho,h4]|simp[jD,kN,jR]):Bx.le (.cells 216 [bP false,gV (gR (1*2^b))]) (.cells 216 [bP (((jD x b 0).2).1),gV (gR (((jD x b 0).2).2))])),.b 7 (.iL (by first|rfl|simp[jD,kN,jR,ho,h4]|simp[jD,kN,jR]):Bx.le (.cells 216 [bP false,gV (gR (1*2^b))]) (.cells 216 [bP (kN x 0),gV (gR (jR x.2 b 0))])),.b 4 (adN:Bx.le (.cells 216 [bP false,.v (.slice none 0 0)]) (.cells 216 [bP (((jD x b 0).1).1),gV (gR (((jD x b 0).1).2))]))])]) 
def abz(x:Bool×Nat)(b:Nat)(tc:x.2<=2^(b+1))(hb:b<=3000):∃ s c:Bool×Nat,s.2<2^(b+14)/\c.2<2^(b+14)/\gQ 292 [.agg [bP x.1,gV (gR x.2)],iP (b:Int)] (.ie [.agg [bP s.1,gV (gR s.2)],.agg [bP c.1,gV (gR c.2)]]):=by
 obtain⟨N,n1,n2,n3,n4⟩:=adP tc;obtain⟨M,rfl⟩:∃ M,N=M+1:=⟨N-1,aC⟩
 obtain⟨a1,a2⟩:=XT tc hb (k:=M) aC;exact⟨_,_,a1,a2,aby x b M tc hb aC n3 n4⟩
def zQ(a:Bool×Nat)(b p:Nat)(ha:a.2<2^3000)(hb:b<=8000)(ib:8<=p)(gW:p<=512):gQ 294 [.agg [bP a.1,gV (gR a.2)],iP b,iP p] (ia (sK a b p)):=by
 have z1:(gR 1).length<=256:=th aE;have z2:(gR (1*2^24)).length<=256:=th aE;have z3:(gR a.2).length<=256:=lg ha aE;have hs:=JT (n:=3000) ha (show 1*2^24<2^25 by decide) aE aE;have z4:(gR (a.2+1*2^24)).length<=256:=lg hs aE;have l1:=ck (show(jr a ((!false),(1*2^24))).2<=_ from xt _ _) hs;have l2:=ck (show(jr a (false,(1*2^24))).2<=_ from xt _ _) hs;have z5:(gR (jr a ((!false),(1*2^24))).2).length<=256:=lg l1 aE;have z6:(gR (jr a (false,(1*2^24))).2).length<=256:=lg l2 aE;have e3:(0-(b:Int)) = -(b:Int):=Int.zero_sub _;have r1:mv (canon (jr a ((!false),(1*2^24))).1 (jr a ((!false),(1*2^24))).2 (0-(b:Int))):=by rw[e3];exact VJ (Gi (k:=4000) l1 aE) hb
 have r2:mv (canon (jr a (false,(1*2^24))).1 (jr a (false,(1*2^24))).2 (0-(b:Int))):=by rw[e3];exact VJ (Gi (k:=4000) l2 aE) hb
 have v1:(canon (jr a ((!false),(1*2^24))).1 (jr a ((!false),(1*2^24))).2 (0-(b:Int))).gX:=VK r1;have v2:(canon (jr a (false,(1*2^24))).1 (jr a (false,(1*2^24))).2 (0-(b:Int))).gX:=VK r2;have hN:sK a b p=lr (jV (canon (jr a ((!false),(1*2^24))).1 (jr a ((!false),(1*2^24))).2 (0-(b:Int))) p false) (jL (canon (jr a ((!false),(1*2^24))).1 (jr a ((!false),(1*2^24))).2 (0-(b:Int))) p false) (jV (canon (jr a (false,(1*2^24))).1 (jr a (false,(1*2^24))).2 (0-(b:Int))) p true) (jL (canon (jr a (false,(1*2^24))).1 (jr a (false,(1*2^24))).2 (0-(b:Int))) p true):=by rw[e3];rfl
 exact ak call294 func294 (ae [.o 14 (.e wU:aj (.sl false 1 1 λi_ j_=>[.v (.int .u32 1)].getD (i_*1+j_) (.v (.bool false))) (gV (gR 1))),.c (zP 1 24 aD aC aD),ag [.agg [bP false,gV (gR (1*2^24))]] (wB (false,(1*2^24))),ag [.agg [bP a.1,gV (gR a.2)],.agg [bP (!false),gV (gR (1*2^24))]] (sY a aD ((!false),(1*2^24)) aD aD),ag [.agg [bP a.1,gV (gR a.2)],.agg [bP false,gV (gR (1*2^24))]] (sY a aD (false,(1*2^24)) aD aD),ij (0-(b:Int)) aC,ag [bP ((jr a ((!false),(1*2^24))).1),gV (gR ((jr a ((!false),(1*2^24))).2)),iP (0-(b:Int))] (xr _ _ _ aD aC aC aD),
  ij (0-(b:Int)) aC,ag [bP ((jr a (false,(1*2^24))).1),gV (gR ((jr a (false,(1*2^24))).2)),iP (0-(b:Int))] (xr _ _ _ aD aC aC aD),ai 45 ((0:Int) != 0) aE,ai 48 ((0:Int) != 0) aE,.c (Hj (canon ((jr a (!false,(1*2^24))).1) ((jr a (!false,(1*2^24))).2) (0-(b:Int))) p aD aC aC),.c (Hk (canon ((jr a (false,(1*2^24))).1) ((jr a (false,(1*2^24))).2) (0-(b:Int))) p aD aC aC)]<|.w ((jL (canon ((jr a ((!false),(1*2^24))).1) ((jr a ((!false),(1*2^24))).2) (0-(b:Int))) p false)=0)
  (λk1=>ae [tB 64 (aW k1)]<|.w ((jL (canon ((jr a (false,(1*2^24))).1) ((jr a (false,(1*2^24))).2) (0-(b:Int))) p true)=0)
   (λk2=>ae [tB 67 (aW k2)]<|rQ (ia (Iv.mk (jV (canon ((jr a ((!false),(1*2^24))).1) ((jr a ((!false),(1*2^24))).2) (0-(b:Int))) p false) (jV (canon ((jr a (false,(1*2^24))).1) ((jr a (false,(1*2^24))).2) (0-(b:Int))) p true) false)) (ia (sK a b p)) (by rw[hN,agP k1 k2]))
   (λk2=>ae [tB 67 (aX k2),.c nm]<|rQ (ia gT) (ia (sK a b p)) (by rw[hN,Vw (.inr k2)])))
  (λk1=>ae [tB 64 (aX k1),.c nm]<|rQ (ia gT) (ia (sK a b p)) (by rw[hN,Vw (.inl k1)]))) 
def abp(d:Dy)(p:Nat)(hd:d.gX)(h0:d.iJ=0)(ib:8<=p)(gW:p<=512):gQ 264 [gU d,bP true,iP p] (ia (ji 1)):=by
 have hv:=sE (n:=1) aE;exact ak call264 func264 (af [ag [gU d] (mJ _ aD),ah 14 ((Dy.iJ d)==0) (by rw[h0];rfl),ag [iP 1] (qL _ aC),.c (AA (iR 1) aD)]) 
def abh(d:Dy)(p:Nat)(r s c:Bool×Nat)(hd:d.gX)(h0:d.iJ≠0)(pC:gQ 291 [gU d,iP ((p+64:Nat):Int)] (.ie [.agg [bP r.1,gV (gR r.2)],iP 0]))(pD:gQ 292 [.agg [bP r.1,gV (gR r.2)],iP ((p+64:Nat):Int)] (.ie [.agg [bP s.1,gV (gR s.2)],.agg [bP c.1,gV (gR c.2)]]))(zs:s.2<2^3000)(zc:c.2<2^3000)(ib:8<=p)(gW:p<=512):gQ 264 [gU d,bP true,iP p] (ia (sK c (p+64) p)):=by
 have zk:c.2<2^3000:=zc;exact ak call264 func264 (af [ag [gU d] (mJ _ aD),ai 14 ((Dy.iJ d)==0) (by simpa using h0),ij ((p:Int)+64) aC,ag [gU d,iP ((p+64:Nat):Int)] pC,ag [.agg [bP r.1,gV (gR r.2)],iP ((p+64:Nat):Int)] pD,ij (0+1) aC,.a (aC:0<(4:Int)),.o 38 (aq (Int.tmod (0+1) 4) 1 aE),ah 40 ((1:Int)==1) aE,ag [.agg [bP c.1,gV (gR c.2)],iP ((p+64:Nat):Int),iP p] (zQ c _ _ aD aC aC aC)]) 
def abi(d:Dy)(p:Nat)(r s c:Bool×Nat)(hd:d.gX)(h0:d.iJ≠0)(pC:gQ 291 [gU d,iP ((p+64:Nat):Int)] (.ie [.agg [bP r.1,gV (gR r.2)],iP 1]))(pD:gQ 292 [.agg [bP r.1,gV (gR r.2)],iP ((p+64:Nat):Int)] (.ie [.agg [bP s.1,gV (gR s.2)],.agg [bP c.1,gV (gR c.2)]]))(zs:s.2<2^3000)(zc:c.2<2^3000)(ib:8<=p)(gW:p<=512):gQ 264 [gU d,bP true,iP p] (ia (sK ((!s.1),s.2) (p+64) p)):=by
 have zk:((!s.1),s.2).2<2^3000:=zs;exact ak call264 func264 (af [ag [gU d] (mJ _ aD),ai 14 ((Dy.iJ d)==0) (by simpa using h0),ij ((p:Int)+64) aC,ag [gU d,iP ((p+64:Nat):Int)] pC,ag [.agg [bP r.1,gV (gR r.2)],iP ((p+64:Nat):Int)] pD,ij (1+1) aC,.a (aC:0<(4:Int)),.o 38 (aq (Int.tmod (1+1) 4) 2 aE),ai 40 ((2:Int)==1) aE,ah 43 ((2:Int)==2) aE,ag [.agg [bP s.1,gV (gR s.2)]] (wB (s.1,s.2)),ag [.agg [bP (!s.1),gV (gR s.2)],iP ((p+64:Nat):Int),iP p] (zQ ((!s.1),s.2) _ _ aD aC aC aC)]) 
def abj(d:Dy)(p:Nat)(r s c:Bool×Nat)(hd:d.gX)(h0:d.iJ≠0)(pC:gQ 291 [gU d,iP ((p+64:Nat):Int)] (.ie [.agg [bP r.1,gV (gR r.2)],iP 2]))(pD:gQ 292 [.agg [bP r.1,gV (gR r.2)],iP ((p+64:Nat):Int)] (.ie [.agg [bP s.1,gV (gR s.2)],.agg [bP c.1,gV (gR c.2)]]))(zs:s.2<2^3000)(zc:c.2<2^3000)(ib:8<=p)(gW:p<=512):gQ 264 [gU d,bP true,iP p] (ia (sK ((!c.1),c.2) (p+64) p)):=by
 have zk:((!c.1),c.2).2<2^3000:=zc;exact ak call264 func264 (af [ag [gU d] (mJ _ aD),ai 14 ((Dy.iJ d)==0) (by simpa using h0),ij ((p:Int)+64) aC,ag [gU d,iP ((p+64:Nat):Int)] pC,ag [.agg [bP r.1,gV (gR r.2)],iP ((p+64:Nat):Int)] pD,ij (2+1) aC,.a (aC:0<(4:Int)),.o 38 (aq (Int.tmod (2+1) 4) 3 aE),ai 40 ((3:Int)==1) aE,ai 43 ((3:Int)==2) aE,ah 47 ((3:Int)==3) aE,ag [.agg [bP c.1,gV (gR c.2)]] (wB (c.1,c.2)),ag [.agg [bP (!c.1),gV (gR c.2)],iP ((p+64:Nat):Int),iP p] (zQ ((!c.1),c.2) _ _ aD aC aC aC)]) 
def abk(d:Dy)(p:Nat)(r s c:Bool×Nat)(hd:d.gX)(h0:d.iJ≠0)(pC:gQ 291 [gU d,iP ((p+64:Nat):Int)] (.ie [.agg [bP r.1,gV (gR r.2)],iP 3]))(pD:gQ 292 [.agg [bP r.1,gV (gR r.2)],iP ((p+64:Nat):Int)] (.ie [.agg [bP s.1,gV (gR s.2)],.agg [bP c.1,gV (gR c.2)]]))(zs:s.2<2^3000)(zc:c.2<2^3000)(ib:8<=p)(gW:p<=512):gQ 264 [gU d,bP true,iP p] (ia (sK s (p+64) p)):=by
 have zk:s.2<2^3000:=zs;exact ak call264 func264 (af [ag [gU d] (mJ _ aD),ai 14 ((Dy.iJ d)==0) (by simpa using h0),ij ((p:Int)+64) aC,ag [gU d,iP ((p+64:Nat):Int)] pC,ag [.agg [bP r.1,gV (gR r.2)],iP ((p+64:Nat):Int)] pD,ij (3+1) aC,.a (aC:0<(4:Int)),.o 38 (aq (Int.tmod (3+1) 4) 0 aE),ai 40 ((0:Int)==1) aE,ai 43 ((0:Int)==2) aE,ai 47 ((0:Int)==3) aE,ag [.agg [bP s.1,gV (gR s.2)],iP ((p+64:Nat):Int),iP p] (zQ s _ _ aD aC aC aC)]) 
def abq(d:Dy)(p:Nat)(hd:d.gX)(h0:d.iJ=0)(ib:8<=p)(gW:p<=512):gQ 264 [gU d,bP false,iP p] (ia (mg d)):=
 ak call264 func264 (af [ag [gU d] (mJ _ aD),ah 14 ((Dy.iJ d)==0) (by rw[h0];rfl),.c (AA d aD)]) 
def abl(d:Dy)(p:Nat)(r s c:Bool×Nat)(hd:d.gX)(h0:d.iJ≠0)(pC:gQ 291 [gU d,iP ((p+64:Nat):Int)] (.ie [.agg [bP r.1,gV (gR r.2)],iP 0]))(pD:gQ 292 [.agg [bP r.1,gV (gR r.2)],iP ((p+64:Nat):Int)] (.ie [.agg [bP s.1,gV (gR s.2)],.agg [bP c.1,gV (gR c.2)]]))(zs:s.2<2^3000)(zc:c.2<2^3000)(ib:8<=p)(gW:p<=512):gQ 264 [gU d,bP false,iP p] (ia (sK s (p+64) p)):=by
 have zk:s.2<2^3000:=zs;exact ak call264 func264 (af [ag [gU d] (mJ _ aD),ai 14 ((Dy.iJ d)==0) (by simpa using h0),ij ((p:Int)+64) aC,ag [gU d,iP ((p+64:Nat):Int)] pC,ag [.agg [bP r.1,gV (gR r.2)],iP ((p+64:Nat):Int)] pD,.a (aC:0<(4:Int)),.o 38 (aq (Int.tmod 0 4) 0 aE),ai 40 ((0:Int)==1) aE,ai 43 ((0:Int)==2) aE,ai 47 ((0:Int)==3) aE,ag [.agg [bP s.1,gV (gR s.2)],iP ((p+64:Nat):Int),iP p] (zQ s _ _ aD aC aC aC)]) 
def abm(d:Dy)(p:Nat)(r s c:Bool×Nat)(hd:d.gX)(h0:d.iJ≠0)(pC:gQ 291 [gU d,iP ((p+64:Nat):Int)] (.ie [.agg [bP r.1,gV (gR r.2)],iP 1]))(pD:gQ 292 [.agg [bP r.1,gV (gR r.2)],iP ((p+64:Nat):Int)] (.ie [.agg [bP s.1,gV (gR s.2)],.agg [bP c.1,gV (gR c.2)]]))(zs:s.2<2^3000)(zc:c.2<2^3000)(ib:8<=p)(gW:p<=512):gQ 264 [gU d,bP false,iP p] (ia (sK c (p+64) p)):=by
 have zk:c.2<2^3000:=zc;exact ak call264 func264 (af [ag [gU d] (mJ _ aD),ai 14 ((Dy.iJ d)==0) (by simpa using h0),ij ((p:Int)+64) aC,ag [gU d,iP ((p+64:Nat):Int)] pC,ag [.agg [bP r.1,gV (gR r.2)],iP ((p+64:Nat):Int)] pD,.a (aC:0<(4:Int)),.o 38 (aq (Int.tmod 1 4) 1 aE),ah 40 ((1:Int)==1) aE,ag [.agg [bP c.1,gV (gR c.2)],iP ((p+64:Nat):Int),iP p] (zQ c _ _ aD aC aC aC)]) 
def abn(d:Dy)(p:Nat)(r s c:Bool×Nat)(hd:d.gX)(h0:d.iJ≠0)(pC:gQ 291 [gU d,iP ((p+64:Nat):Int)] (.ie [.agg [bP r.1,gV (gR r.2)],iP 2]))(pD:gQ 292 [.agg [bP r.1,gV (gR r.2)],iP ((p+64:Nat):Int)] (.ie [.agg [bP s.1,gV (gR s.2)],.agg [bP c.1,gV (gR c.2)]]))(zs:s.2<2^3000)(zc:c.2<2^3000)(ib:8<=p)(gW:p<=512):gQ 264 [gU d,bP false,iP p] (ia (sK ((!s.1),s.2) (p+64) p)):=by
 have zk:((!s.1),s.2).2<2^3000:=zs;exact ak call264 func264 (af [ag [gU d] (mJ _ aD),ai 14 ((Dy.iJ d)==0) (by simpa using h0),ij ((p:Int)+64) aC,ag [gU d,iP ((p+64:Nat):Int)] pC,ag [.agg [bP r.1,gV (gR r.2)],iP ((p+64:Nat):Int)] pD,.a (aC:0<(4:Int)),.o 38 (aq (Int.tmod 2 4) 2 aE),ai 40 ((2:Int)==1) aE,ah 43 ((2:Int)==2) aE,ag [.agg [bP s.1,gV (gR s.2)]] (wB (s.1,s.2)),ag [.agg [bP (!s.1),gV (gR s.2)],iP ((p+64:Nat):Int),iP p] (zQ ((!s.1),s.2) _ _ aD aC aC aC)]) 
def abo(d:Dy)(p:Nat)(r s c:Bool×Nat)(hd:d.gX)(h0:d.iJ≠0)(pC:gQ 291 [gU d,iP ((p+64:Nat):Int)] (.ie [.agg [bP r.1,gV (gR r.2)],iP 3]))(pD:gQ 292 [.agg [bP r.1,gV (gR r.2)],iP ((p+64:Nat):Int)] (.ie [.agg [bP s.1,gV (gR s.2)],.agg [bP c.1,gV (gR c.2)]]))(zs:s.2<2^3000)(zc:c.2<2^3000)(ib:8<=p)(gW:p<=512):gQ 264 [gU d,bP false,iP p] (ia (sK ((!c.1),c.2) (p+64) p)):=by
 have zk:((!c.1),c.2).2<2^3000:=zc;exact ak call264 func264 (af [ag [gU d] (mJ _ aD),ai 14 ((Dy.iJ d)==0) (by simpa using h0),ij ((p:Int)+64) aC,ag [gU d,iP ((p+64:Nat):Int)] pC,ag [.agg [bP r.1,gV (gR r.2)],iP ((p+64:Nat):Int)] pD,.a (aC:0<(4:Int)),.o 38 (aq (Int.tmod 3 4) 3 aE),ai 40 ((3:Int)==1) aE,ai 43 ((3:Int)==2) aE,ah 47 ((3:Int)==3) aE,ag [.agg [bP c.1,gV (gR c.2)]] (wB (c.1,c.2)),ag [.agg [bP (!c.1),gV (gR c.2)],iP ((p+64:Nat):Int),iP p] (zQ ((!c.1),c.2) _ _ aD aC aC aC)]) 
def QK{d:Dy}(hd:d.gX)(ht:d.ig<=100)(cs:Bool){p:Nat}(ib:8<=p)(gW:p<=512):∃ Z,Z.gX/\gQ 264 [gU d,bP cs,iP (p:Int)] (ia Z):=by
 by_cases h0:d.iJ=0
 .cases cs with
  |true=>exact⟨_,vU aE,abp d p hd h0 ib gW⟩
  |false=>exact⟨_,uV hd,abq d p hd h0 ib gW⟩
 .obtain ⟨r,k,hr,hk,pC⟩:=abr d (p+64) hd aC aC ht;obtain⟨s,c,zs,zc,pD⟩:=abz r (p+64) hr aC;have zs:=Gi zs (k:=3000) aC;have zc:=Gi zc (k:=3000) aC;have hv:∀ a:Bool×Nat,(sK a (p+64) p).gX:=λa=>ahs a _ aC aC 
  rcases(aC:k=0\/k=1\/k=2\/k=3)with rfl|rfl|rfl|rfl
  .cases cs with
   |true=>exact⟨_,hv _,abh d p r s c hd h0 pC pD zs zc ib gW⟩
   |false=>exact⟨_,hv _,abl d p r s c hd h0 pC pD zs zc ib gW⟩
  .cases cs with
   |true=>exact⟨_,hv _,abi d p r s c hd h0 pC pD zs zc ib gW⟩
   |false=>exact⟨_,hv _,abm d p r s c hd h0 pC pD zs zc ib gW⟩
  .cases cs with
   |true=>exact⟨_,hv _,abj d p r s c hd h0 pC pD zs zc ib gW⟩
   |false=>exact⟨_,hv _,abn d p r s c hd h0 pC pD zs zc ib gW⟩
  .cases cs with
   |true=>exact⟨_,hv _,abk d p r s c hd h0 pC pD zs zc ib gW⟩
   |false=>exact⟨_,hv _,abo d p r s c hd h0 pC pD zs zc ib gW⟩
def afF:(iR (-1)).neg=true/\(iR (-1)).m=1/\(iR (-1)).e=0:= aL 
def abC : gQ 298 [iP (-1)] (.agg [bP true,gV (gR 1)]):=by
 obtain⟨q1,q2,q3⟩:=afF;have z1:(gR (iR (-1)).m).length<=256:=by rw[q2];exact th aE 
 have z2:(gR ((iR (-1)).m*2^(Int.toNat (iR (-1)).e))).length<=256:=by rw[q2,q3];exact th aE 
 exact ak call298 func298 (ae [ag [iP (-1)] (qL _ aC),ag [gV (gR ((iR (-1)).m)),iP ((iR (-1)).e)] (K2 _ _ aD aC aC aD)]<|rQ (.agg [bP ((iR (-1)).neg),gV (gR (((iR (-1)).m)*2^(Int.toNat ((iR (-1)).e))))]) (.agg [bP true,gV (gR 1)]) (by rw[q1,q2,q3];rfl)) 
def aa3(a c:Bool×Nat)(za:(gR a.2).length<=256)(zc:(gR c.2).length<=256)(c0:c.2≠0)(zs:(gR (a.2/c.2+1)).length<=256)(h1:a.1=false):gQ 300 [.agg [bP a.1,gV (gR a.2)],.agg [bP c.1,gV (gR c.2)]] (.agg [bP ((pq a c).1),gV (gR ((pq a c).2))]):=by
 have zq:(gR (a.2/c.2)).length<=256:=bg (mw (bT _ _)) za;have zr:(gR (a.2%c.2)).length<=256:=bg (mw (ek _ _)) za;have z1:(gR 1).length<=256:=th aE;have e:pq a c=(a.1,a.2/c.2):=by unfold pq;rw[aY (by rw[h1];exact λq=>Bool.noConfusion q.1)]
 exact ak call300 func300 (ae [ag [gV (gR a.2),gV (gR c.2)] (yY _ _ aC aC aD),ai 19 a.1 h1,ai 23 a.1 h1]<|rQ (.agg [bP false,gV (gR (a.2/c.2))]) (.agg [bP ((pq a c).1),gV (gR ((pq a c).2))]) (by rw[e,h1])) 
def aa0(a c:Bool×Nat)(za:(gR a.2).length<=256)(zc:(gR c.2).length<=256)(c0:c.2≠0)(zs:(gR (a.2/c.2+1)).length<=256)(h1:a.1=true)(h2:a.2%c.2=0):gQ 300 [.agg [bP a.1,gV (gR a.2)],.agg [bP c.1,gV (gR c.2)]] (.agg [bP ((pq a c).1),gV (gR ((pq a c).2))]):=by
 have zq:(gR (a.2/c.2)).length<=256:=bg (mw (bT _ _)) za;have zr:(gR (a.2%c.2)).length<=256:=bg (mw (ek _ _)) za;have z1:(gR 1).length<=256:=th aE;have e:pq a c=(a.1,a.2/c.2):=by unfold pq;rw[aY (λq=>q.2 h2)]
 exact ak call300 func300 (ae [ag [gV (gR a.2),gV (gR c.2)] (yY _ _ aC aC aD),ah 19 a.1 h1,ah 23 a.1 h1,ag [gV (gR (a.2%c.2))] (r8 _ aC),tF 27 (0<(gZ (a.2%c.2):Int)) (by rw[h2,rH];decide)]<|rQ (.agg [bP true,gV (gR (a.2/c.2))]) (.agg [bP ((pq a c).1),gV (gR ((pq a c).2))]) (by rw[e,h1])) 
def aa1(a c:Bool×Nat)(za:(gR a.2).length<=256)(zc:(gR c.2).length<=256)(c0:c.2≠0)(zs:(gR (a.2/c.2+1)).length<=256)(h1:a.1=true)(h2:a.2%c.2≠0):gQ 300 [.agg [bP a.1,gV (gR a.2)],.agg [bP c.1,gV (gR c.2)]] (.agg [bP ((pq a c).1),gV (gR ((pq a c).2))]):=by
 have zq:(gR (a.2/c.2)).length<=256:=bg (mw (bT _ _)) za;have zr:(gR (a.2%c.2)).length<=256:=bg (mw (ek _ _)) za;have z1:(gR 1).length<=256:=th aE;have e:pq a c=jr (a.1,a.2/c.2) (true,1):=by unfold pq;rw[aZ ⟨h1,h2⟩]
 exact ak call300 func300 (ae [ag [gV (gR a.2),gV (gR c.2)] (yY _ _ aC aC aD),ah 19 a.1 h1,ah 23 a.1 h1,ag [gV (gR (a.2%c.2))] (r8 _ aC),tT 27 (0<(gZ (a.2%c.2):Int)) (by have:=nM h2;omega),.c abC,ag [.agg [bP true,gV (gR (a.2/c.2))],.agg [bP true,gV (gR 1)]] (sY (true,(a.2/c.2)) aD (true,1) aD aD)]<|rQ (.agg [bP ((jr (true,(a.2/c.2)) (true,1)).1),gV (gR ((jr (true,(a.2/c.2)) (true,1)).2))]) (.agg [bP ((pq a c).1),gV (gR ((pq a c).2))]) (by rw[e,h1])) 
def aa2(a c:Bool×Nat)(za:(gR a.2).length<=256)(zc:(gR c.2).length<=256)(c0:c.2≠0)(zs:(gR (a.2/c.2+1)).length<=256):gQ 300 [.agg [bP a.1,gV (gR a.2)],.agg [bP c.1,gV (gR c.2)]] (.agg [bP ((pq a c).1),gV (gR ((pq a c).2))]):=by
 cases h1:a.1 with
 |false=>rw[<-h1];exact aa3 a c za zc c0 zs h1
 |true=>
  rw[<-h1];by_cases h2:a.2%c.2=0
  .exact aa0 a c za zc c0 zs h1 h2
  .exact aa1 a c za zc c0 zs h1 h2
def abb(x:Iv)(n p t w2 sg eg mm:Nat)(cp u v c1 a0 a1 k l0 d0 d1:Bool×Nat)(hx:x.gX)(xa:x.all=false)(hn:n<=3)(gW:p<=2000)(ht:(t:Int)=max (max x.lo.ig x.hi.ig) 0)(t2:t<=2000)(zd:(gR d1.2).length<=256)(rn:gQ 295 [iP (((p+t)+40:Nat):Int)] (.agg [bP cp.1,gV (gR cp.2)]))(hU:gQ 301 [gU x.hi,iP (((p+t)+40:Nat):Int)] (.agg [bP u.1,gV (gR u.2)]))(hV:gQ 301 [gU x.lo,iP (((p+t)+40:Nat):Int)] (.agg [bP v.1,gV (gR v.2)]))(hW:gQ 296 [gV (gR cp.2),iP ((1:Nat):Int)] (gV (gR w2)))(C8:gQ 299 [.agg [bP false,gV (gR n)],.agg [bP cp.1,gV (gR cp.2)],iP ((0:Nat):Int)] (.agg [bP c1.1,gV (gR c1.2)]))(hS:gQ 297 [gV (gR c1.2),iP ((1:Nat):Int)] (gV (gR sg)))(hE:gQ 296 [gV (gR 1),iP (((t+24)+4:Nat):Int)] (gV (gR eg)))(ux:gQ 302 [.agg [bP u.1,gV (gR u.2)],.agg [bP (!false),gV (gR sg)]] (.agg [bP a0.1,gV (gR a0.2)]))(sk:gQ 302 [.agg [bP a0.1,gV (gR a0.2)],.agg [bP false,gV (gR eg)]] (.agg [bP a1.1,gV (gR a1.2)]))(hK:gQ 300 [.agg [bP a1.1,gV (gR a1.2)],.agg [bP false,gV (gR w2)]] (.agg [bP k.1,gV (gR k.2)]))(hM:gQ 115 [gV (gR k.2),gV (gR w2)] (.ie [gV (gR mm),iP 0]))(vz:gQ 302 [.agg [bP k.1,gV (gR mm)],.agg [bP false,gV (gR sg)]] (.agg [bP l0.1,gV (gR l0.2)]))(xx:gQ 302 [.agg [bP l0.1,gV (gR l0.2)],.agg [bP (!v.1),gV (gR v.2)]] (.agg [bP d0.1,gV (gR d0.2)]))(tI:gQ 302 [.agg [bP d0.1,gV (gR d0.2)],.agg [bP false,gV (gR eg)]] (.agg [bP d1.1,gV (gR d1.2)]))(hz:d1.2=0):gQ 265 [ia x,iP n,iP p] (bP true):=by
 obtain⟨w1,w2'⟩:=hx.jW;have z1:(gR 1).length<=256:=th aE;exact ak call265 func265 (af [ag [gU x.lo] (mK _ aD),ag [gU x.hi] (mK _ aD),.o 24 (aq (if 0>(if(Dy.ig x.hi)>(Dy.ig x.lo)then(Dy.ig x.hi)else(Dy.ig x.lo))then 0 else(if(Dy.ig x.hi)>(Dy.ig x.lo)then(Dy.ig x.hi)else(Dy.ig x.lo))) t (by(repeat' split)<;>omega)),
  ij ((p:Int)+t) aC,ij (((p+t:Nat):Int)+40) aC,ag [iP (((p+t)+40:Nat):Int)] rn,ag [gV (gR cp.2),iP 1] hW,.c (K5 n aC),ag [.agg [bP false,gV (gR n)],.agg [bP cp.1,gV (gR cp.2)],iP 0] C8,ag [gV (gR c1.2),iP 1] hS,.o 42 (.e wU:aj (.sl false 1 1 λi_ j_=>[.v (.int .u32 1)].getD (i_*1+j_) (.v (.bool false))) (gV (gR 1))),ij ((t:Int)+24) aC,ij (((t+24:Nat):Int)+4) aC,ag [gV (gR 1),iP (((t+24)+4:Nat):Int)] hE,ag [gU x.hi,iP (((p+t)+40:Nat):Int)] hU,ag [.agg [bP false,gV (gR sg)]] (wB (false,sg)),ag [.agg [bP u.1,gV (gR u.2)],.agg [bP (!false),gV (gR sg)]] ux,ag [.agg [bP a0.1,gV (gR a0.2)],.agg [bP false,gV (gR eg)]] sk,ag [.agg [bP a1.1,gV (gR a1.2)],.agg [bP false,gV (gR w2)]] hK,ag [gV (gR k.2),gV (gR w2)] hM,ag [.agg [bP k.1,gV (gR mm)],.agg [bP false,gV (gR sg)]] vz,ag [gU x.lo,iP (((p+t)+40:Nat):Int)] hV,ag [.agg [bP v.1,gV (gR v.2)]] (wB (v.1,v.2)),ag [.agg [bP l0.1,gV (gR l0.2)],.agg [bP (!v.1),gV (gR v.2)]] xx,ag [.agg [bP d0.1,gV (gR d0.2)],.agg [bP false,gV (gR eg)]] tI,ag [.agg [bP d1.1,gV (gR d1.2)]] (C7 (d1.1,d1.2) aD),tB 83 (a6 hz)]) 
def aba(x:Iv)(n p t w2 sg eg mm:Nat)(cp u v c1 a0 a1 k l0 d0 d1:Bool×Nat)(hx:x.gX)(xa:x.all=false)(hn:n<=3)(gW:p<=2000)(ht:(t:Int)=max (max x.lo.ig x.hi.ig) 0)(t2:t<=2000)(zd:(gR d1.2).length<=256)(rn:gQ 295 [iP (((p+t)+40:Nat):Int)] (.agg [bP cp.1,gV (gR cp.2)]))(hU:gQ 301 [gU x.hi,iP (((p+t)+40:Nat):Int)] (.agg [bP u.1,gV (gR u.2)]))(hV:gQ 301 [gU x.lo,iP (((p+t)+40:Nat):Int)] (.agg [bP v.1,gV (gR v.2)]))(hW:gQ 296 [gV (gR cp.2),iP ((1:Nat):Int)] (gV (gR w2)))(C8:gQ 299 [.agg [bP false,gV (gR n)],.agg [bP cp.1,gV (gR cp.2)],iP ((0:Nat):Int)] (.agg [bP c1.1,gV (gR c1.2)]))(hS:gQ 297 [gV (gR c1.2),iP ((1:Nat):Int)] (gV (gR sg)))(hE:gQ 296 [gV (gR 1),iP (((t+24)+4:Nat):Int)] (gV (gR eg)))(ux:gQ 302 [.agg [bP u.1,gV (gR u.2)],.agg [bP (!false),gV (gR sg)]] (.agg [bP a0.1,gV (gR a0.2)]))(sk:gQ 302 [.agg [bP a0.1,gV (gR a0.2)],.agg [bP false,gV (gR eg)]] (.agg [bP a1.1,gV (gR a1.2)]))(hK:gQ 300 [.agg [bP a1.1,gV (gR a1.2)],.agg [bP false,gV (gR w2)]] (.agg [bP k.1,gV (gR k.2)]))(hM:gQ 115 [gV (gR k.2),gV (gR w2)] (.ie [gV (gR mm),iP 0]))(vz:gQ 302 [.agg [bP k.1,gV (gR mm)],.agg [bP false,gV (gR sg)]] (.agg [bP l0.1,gV (gR l0.2)]))(xx:gQ 302 [.agg [bP l0.1,gV (gR l0.2)],.agg [bP (!v.1),gV (gR v.2)]] (.agg [bP d0.1,gV (gR d0.2)]))(tI:gQ 302 [.agg [bP d0.1,gV (gR d0.2)],.agg [bP false,gV (gR eg)]] (.agg [bP d1.1,gV (gR d1.2)]))(hz:¬d1.2=0):gQ 265 [ia x,iP n,iP p] (bP (!d1.1)):=by
 obtain⟨w1,w2'⟩:=hx.jW;have z1:(gR 1).length<=256:=th aE;exact ak call265 func265 (af [ag [gU x.lo] (mK _ aD),ag [gU x.hi] (mK _ aD),.o 24 (aq (if 0>(if(Dy.ig x.hi)>(Dy.ig x.lo)then(Dy.ig x.hi)else(Dy.ig x.lo))then 0 else(if(Dy.ig x.hi)>(Dy.ig x.lo)then(Dy.ig x.hi)else(Dy.ig x.lo))) t (by(repeat' split)<;>omega)),
  ij ((p:Int)+t) aC,ij (((p+t:Nat):Int)+40) aC,ag [iP (((p+t)+40:Nat):Int)] rn,ag [gV (gR cp.2),iP 1] hW,.c (K5 n aC),ag [.agg [bP false,gV (gR n)],.agg [bP cp.1,gV (gR cp.2)],iP 0] C8,ag [gV (gR c1.2),iP 1] hS,.o 42 (.e wU:aj (.sl false 1 1 λi_ j_=>[.v (.int .u32 1)].getD (i_*1+j_) (.v (.bool false))) (gV (gR 1))),ij ((t:Int)+24) aC,ij (((t+24:Nat):Int)+4) aC,ag [gV (gR 1),iP (((t+24)+4:Nat):Int)] hE,ag [gU x.hi,iP (((p+t)+40:Nat):Int)] hU,ag [.agg [bP false,gV (gR sg)]] (wB (false,sg)),ag [.agg [bP u.1,gV (gR u.2)],.agg [bP (!false),gV (gR sg)]] ux,ag [.agg [bP a0.1,gV (gR a0.2)],.agg [bP false,gV (gR eg)]] sk,ag [.agg [bP a1.1,gV (gR a1.2)],.agg [bP false,gV (gR w2)]] hK,ag [gV (gR k.2),gV (gR w2)] hM,ag [.agg [bP k.1,gV (gR mm)],.agg [bP false,gV (gR sg)]] vz,ag [gU x.lo,iP (((p+t)+40:Nat):Int)] hV,ag [.agg [bP v.1,gV (gR v.2)]] (wB (v.1,v.2)),ag [.agg [bP l0.1,gV (gR l0.2)],.agg [bP (!v.1),gV (gR v.2)]] xx,ag [.agg [bP d0.1,gV (gR d0.2)],.agg [bP false,gV (gR eg)]] tI,ag [.agg [bP d1.1,gV (gR d1.2)]] (C7 (d1.1,d1.2) aD),tB 83 (a7 hz)]) 
def EU{a b:Bool×Nat}{i j n:Nat}(ha:a.2<2^i)(hb:b.2<2^j)(hi:i<=n)(hj:j<=n)(hn:n<=8000):∃ r:Bool×Nat,r.2<2^(n+1)/\gQ 302 [.agg [bP a.1,gV (gR a.2)],.agg [bP b.1,gV (gR b.2)]] (.agg [bP r.1,gV (gR r.2)]):=
 ⟨jr a b,adz ha hb hi hj,sY a (lg ha aC) b (lg hb aC) (lg (JT ha hb hi hj) aC)⟩
def aa9{x:Iv}(hx:x.gX)(xa:x.all=false)(n:Nat)(hn:n<=3)(p:Nat)(gW:p<=1000)(h1:x.lo.ig<=100)(h2:x.hi.ig<=100):∃ r:Bool,gQ 265 [ia x,iP (n:Int),iP (p:Int)] (bP r):=by
 obtain⟨w1,w2⟩:=hx.jW;obtain⟨t,ht⟩:∃ t:Nat,(t:Int)=max (max x.lo.ig x.hi.ig) 0:=⟨(max (max x.lo.ig x.hi.ig) 0).toNat,aC⟩
 obtain⟨cp,c1,c2,c3,rn⟩:=QJ (p+t+40) aC aC;have hU:=K4 x.hi w2 (p+t+40) 6000 aC aE aC;have hV:=K4 x.lo w1 (p+t+40) 6000 aC aE aC;have yu:=JI (d:=x.hi) (b:=p+t+40) (K:=6000) aC;have yv:=JI (d:=x.lo) (b:=p+t+40) (K:=6000) aC;have yc:=Gi (m:=cp.2) (i:=p+t+40+3) (k:=2000) (by have e:(2:Nat)^(p+t+40+3)=2^(p+t+40)*8:=bh 2 _ 3;have:0<2^(p+t+40):=bn aE;omega) aC;generalize qZ x.hi (p+t+40)=u at hU yu;generalize qZ x.lo (p+t+40)=v at hV yv;obtain⟨K,hK⟩:∃ K,K=6000:=⟨_,rfl⟩
 rw[<-hK]at yu yv;obtain⟨J,hJ⟩:∃ J,J=2000:=⟨_,rfl⟩
 rw[<-hJ]at yc;have zc:(gR cp.2).length<=256:=lg yc aC;have yw:cp.2*2^1<2^(J+1):=by have e:2^(J+1)=2^J*2:=bC _ _;omega
 have hW:=zP cp.2 1 zc aE (lg yw aC);have w0:cp.2*2^1≠0:= aC ;generalize cp.2*2^1=w at hW yw w0;have yn:n*cp.2<2^(J+2):=by have e:2^(J+2)=2^J*4:=bh 2 J 2;have:=bK cp.2 hn;omega
 have C8:=LI (false,n) (th (by show n<_;omega)) cp zc 0 aE (lg yn aC);have y1:n*cp.2/2^0<2^(J+2):=ck (bT _ _) yn;obtain⟨q,hq⟩:∃ q:Bool×Nat,q=(false != cp.1,n*cp.2/2^0):=⟨_,rfl⟩
 have yq:q.2<2^(J+2):=by rw[hq];exact y1
 have S6:gQ 299 [.agg [bP false,gV (gR n)],.agg [bP cp.1,gV (gR cp.2)],iP ((0:Nat):Int)] (.agg [bP q.1,gV (gR q.2)]):=by rw[hq];exact C8
 clear C8 hq;have hS:=wo q.2 1 (lg yq aC) aE;have ys:q.2/2^1<2^(J+2):=ck (bT _ _) yq;generalize q.2/2^1=sg at hS ys;have ye:1*2^(t+24+4)<2^K:=by rw[bU];exact gy aE aC 
 have hE:=zP 1 (t+24+4) (th aE) aC (lg ye aC);generalize 1*2^(t+24+4)=eg at hE ye;obtain⟨a0,x0,ux⟩:=EU (b:=(!false,sg)) yu ys (n:=K) aC aC aC;obtain⟨a1,x1,sk⟩:=EU (b:=(false,eg)) x0 ye (n:=K+1) aC aC aC;have yf:a1.2/w+1<2^(K+3):=by
  have e:2^(K+3)=2^(K+1+1)*2:=bC _ _;have:=bT a1.2 w;have:0<2^(K+1+1):=bn aE;omega
 have hF:=aa2 a1 (false,w) (lg x1 aC) (lg yw aC) w0 (lg yf aC);have yk:=ck (SI a1 (false,w)) yf;have ym:(pq a1 (false,w)).2*w<2^(K+3):=ck (adI a1 (false,w)) (JT (n:=K+2) x1 yw aC aC);generalize pq a1 (false,w)=k at hF yk ym;have hM:=xK k.2 w (lg yk aC) (lg yw aC) (lg ym aC);generalize k.2*w=mm at hM ym;obtain⟨l0,x2,vz⟩:=EU (a:=(k.1,mm)) (b:=(false,sg)) ym ys (n:=K+3) aC aC aC;obtain⟨d0,x3,xx⟩:=EU (b:=(!v.1,v.2)) x2 yv (n:=K+4) aC aC aC;obtain⟨d1,x4,tI⟩:=EU (b:=(false,eg)) x3 ye (n:=K+5) aC aC aC;by_cases hz:d1.2=0
 .exact ⟨_,abb x n p t w sg eg mm cp u v q a0 a1 k l0 d0 d1 hx xa hn aC ht aC (lg x4 aC) rn hU hV hW S6 hS hE ux sk hF hM vz xx tI hz⟩
 .exact ⟨_,aba x n p t w sg eg mm cp u v q a0 a1 k l0 d0 d1 hx xa hn aC ht aC (lg x4 aC) rn hU hV hW S6 hS hE ux sk hF hM vz xx tI hz⟩
def kX:Iv:=⟨iR (-1),iR 1,false⟩
def zB:kX.gX:=.inr ⟨rfl,show(iR (-1)).gX from sE aE,show(iR 1).gX from sE aE,aL⟩
def yd : gQ 262 [] (ia kX):=by
 have h1:(iR (-1)).gX:=sE aE;have h2:(iR 1).gX:=sE aE;exact ak call262 func262 (ae [ag [iP (-1)] (qL _ aC),ag [iP 1] (qL _ aC)]<|rR (ia kX) (.iL rfl:E.le (ia (Iv.mk (iR (-1)) (iR 1) false)) (ia kX))) 
def ZJ(x y:Iv)(hx:x.gX)(hy:y.gX)(xa:(x.all||y.all)=true):gQ 139 [ia x,ia y] (ia gT):=
 ak call139 func139 (af [.o 7 (.e (yS _ _):aj (.sl true 2 7 λi_ j_=>(iE x++iE y).getD (i_*7+j_) (.v (.bool false))) (gY [x,y])),ag [gY [x,y]] (yR _ _ aD aD),ai 8 (!(x.all||y.all)) (by rw[xa];rfl),.c nm]) 
def ZK{x y:Iv}(hx:x.gX)(hy:y.gX):∃ Z,Z.gX/\gQ 139 [ia x,ia y] (ia Z):=by
 cases h:(x.all||y.all)with
 |true=>exact⟨gT,lG,ZJ x y hx hy h⟩
 |false=>
  obtain⟨h1,h2⟩:=eC.1 h;exact⟨pP x y,Ug hx hy,Qn x y hx hy h1 h2⟩
def ZS(x:Iv)(hx:x.gX)(xa:x.all=true):gQ 263 [ia x,ia kX] (.ie [ia kX,bP true]):=by
 have hu:=zB;exact ak call263 func263 (af [.c (qV x aD),.c (qV kX aD),ah 19 x.all xa]) 
def ZU(x:Iv)(hx:x.gX)(xa:x.all=false)(h:0<iN (iW x.lo kX.lo) (ja x.hi kX.hi)):gQ 263 [ia x,ia kX] (.ie [ia xS,bP false]):=by
 have hu:=zB;obtain⟨v1,v2⟩:=hx.jW;obtain⟨v3,v4⟩:=hu.jW;have m1:=tZ v1 v3;have m2:=wT v2 v4;exact ak call263 func263 (ae [.c (qV x aD),.c (qV kX aD),ai 19 x.all xa,ai 23 kX.all rfl,.c (Jk x.lo kX.lo aD aD),.c (Jj x.hi kX.hi aD aD),ag [gU (iW x.lo kX.lo),gU (ja x.hi kX.hi)] (kH _ _ aD aD),tB 41 (a6 h)]<|rR (.ie [ia xS,bP false]) (.ie (.cons YY (.cons (.refl _) .nil)):E.le (.ie [.agg au,bP false]) (.ie [ia xS,bP false]))) 
def ZV(x:Iv)(hx:x.gX)(xa:x.all=false)(h:¬0<iN (iW x.lo kX.lo) (ja x.hi kX.hi)):gQ 263 [ia x,ia kX] (.ie [ia (Iv.mk (iW x.lo kX.lo) (ja x.hi kX.hi) false),bP true]):=by
 have hu:=zB;obtain⟨v1,v2⟩:=hx.jW;obtain⟨v3,v4⟩:=hu.jW;have m1:=tZ v1 v3;have m2:=wT v2 v4;exact ak call263 func263 (af [.c (qV x aD),.c (qV kX aD),ai 19 x.all xa,ai 23 kX.all rfl,.c (Jk x.lo kX.lo aD aD),.c (Jj x.hi kX.hi aD aD),ag [gU (iW x.lo kX.lo),gU (ja x.hi kX.hi)] (kH _ _ aD aD),tB 41 (a7 h)]) 
structure xT(Y:Iv):Prop where
 v:Y.gX
 f:Y.all=false
 l:iN kX.lo Y.lo<=0
 h:iN Y.hi kX.hi<=0
def ak8:xT kX:=⟨zB,rfl,aL,aL⟩
def ZT{x:Iv}(hx:x.gX):(∃ Y,xT Y/\gQ 263 [ia x,ia kX] (.ie [ia Y,bP true]))\/gQ 263 [ia x,ia kX] (.ie [ia xS,bP false]):=by
 cases xa:x.all with
 |true=>exact .inl ⟨kX,ak8,ZS x hx xa⟩
 |false=>
  by_cases h:0<iN (iW x.lo kX.lo) (ja x.hi kX.hi)
  .exact .inr (ZU x hx xa h)
  .have v1:(iW x.lo kX.lo).gX:=tZ hx.jW.1 zB.jW.1;have v2:(ja x.hi kX.hi).gX:=wT hx.jW.2 zB.jW.2;have h1:iN kX.lo (iW x.lo kX.lo)<=0:=VF _ _;have h2:iN (ja x.hi kX.hi) kX.hi<=0:=VG _ _;have hq:=ZV x hx xa h;have h3:iN (iW x.lo kX.lo) (ja x.hi kX.hi)<=0:= aC ;generalize iW x.lo kX.lo=a at *
   generalize ja x.hi kX.hi=b at *
   exact .inl ⟨⟨a,b,false⟩,⟨.inr ⟨rfl,v1,v2,h3⟩,rfl,h1,h2⟩,hq⟩
def xT.up{Y:Iv}(h:xT Y):xT ⟨Y.lo,iR 1,false⟩:=by
 have e:=h.v.jW;refine⟨.inr ⟨rfl,e.1,sE (n:=1) aE,?_⟩,rfl,h.l,show iN (iR 1) (iR 1)<=0 by decide +kernel⟩;have:=h.v.q;rw[oO];exact bI this ((oO _ _).1 h.h)
def xT.dn{Y:Iv}(h:xT Y):xT ⟨iR (-1),Y.hi,false⟩:=by
 have e:=h.v.jW;refine⟨.inr ⟨rfl,sE (n:=-1) aE,e.2,?_⟩,rfl,show iN (iR (-1)) (iR (-1))<=0 by decide +kernel,h.h⟩;have:=h.v.q;rw[oO];exact bI ((oO _ _).1 h.l) this
def Hr(p:Nat)(ib:8<=p)(gW:p<=512):gQ 261 [iP p] (bP true):=
 ak call261 func261 (af [tT 4 (8<=(p:Int)) aC,tT 7 ((p:Int)<=512) aC]) 
def aaI(x:Iv)(cs:Bool)(p:Nat)(hx:x.gX)(xa:x.all=true)(ib:8<=p)(gW:p<=512):gQ 232 [ia x,bP cs,iP p] (ia gT):=
 ak call232 func232 (af [.c (Hr p aC aC),.c (qV x aD),ah 22 x.all xa,.c nm]) 
def aaL(x:Iv)(cs:Bool)(p:Nat)(hx:x.gX)(xa:x.all=false)(ib:8<=p)(gW:p<=512)(hu:100<x.lo.ig\/100<x.hi.ig\/¬ve x 64=0\/0<=iN (oq x 64) (iR 7)):gQ 232 [ia x,bP cs,iP p] (ia kX):=by
 obtain⟨w1,w2⟩:=hx.jW;have h7:(iR 7).gX:=sE aE;have wv:(oq x 64).gX:=vY _ aE aE _;exact ak call232 func232 (ae [.c (Hr p aC aC),.c (qV x aD),ai 22 x.all xa,ag [gU x.lo] (mK _ aD)]<|.w (100<(Dy.ig x.lo))
  (λk1=>af [tB 28 (a6 k1),.c yd])
  (λk1=>ae [tB 28 (a7 k1),ag [gU x.hi] (mK _ aD)]<|.w (100<(Dy.ig x.hi))
   (λk2=>af [tB 33 (a6 k2),.c yd])
   (λk2=>ae [tB 33 (a7 k2),.c (CW x 64 aD aD aC aC)]<|.w (ve x 64=0)
    (λk3=>ae [tB 40 (a6 k3),ag [iP 7] (qL _ aC),ag [gU (oq x 64),gU (iR 7)] (kH _ _ aD aD)]<|.w (0<=(iN (oq x 64) (iR 7)))
     (λk4=>af [tB 47 (a6 k4),.c yd])
     (λk4=>.x (by rcases hu with q|q|q|q<;>contradiction)))
    (λk3=>af [tB 40 (a7 k3),.c yd])))) 
def aaK(x:Iv)(cs:Bool)(p:Nat)(hx:x.gX)(xa:x.all=false)(ib:8<=p)(gW:p<=512)(h1:¬100<x.lo.ig)(h2:¬100<x.hi.ig)(h3:ve x 64=0)(h4:¬0<=iN (oq x 64) (iR 7))(P1 P2 H:Iv)(xz:∀ c,c=cs->gQ 264 [gU x.lo,bP c,iP (p:Int)] (ia P1))(xA:∀ c,c=cs->gQ 264 [gU x.hi,bP c,iP (p:Int)] (ia P2))(hH:gQ 139 [ia P1,ia P2] (ia H))(vC:gQ 263 [ia H,ia kX] (.ie [ia xS,bP false])):gQ 232 [ia x,bP cs,iP p] (ia kX):=by
 obtain⟨w1,w2⟩:=hx.jW;have h7:(iR 7).gX:=sE aE;have wv:(oq x 64).gX:=vY _ aE aE _;exact ak call232 func232 (af [.c (Hr p aC aC),.c (qV x aD),ai 22 x.all xa,ag [gU x.lo] (mK _ aD),tB 28 (a7 h1),ag [gU x.hi] (mK _ aD),tB 33 (a7 h2),.c (CW x 64 aD aD aC aC),tB 40 (a6 h3),ag [iP 7] (qL _ aC),ag [gU (oq x 64),gU (iR 7)] (kH _ _ aD aD),tB 47 (a7 h4),ag [gU x.lo,bP cs,iP p] (xz cs aH),ag [gU x.hi,bP cs,iP p] (xA cs aH),ag [ia P1,ia P2] hH,.c yd,ag [ia H,ia kX] vC,.c yd]) 
def qm(cs:Bool)(R:Nat->Bool)(x Y:Iv):Iv:=if iN x.lo x.hi=0 then Y else⟨if R (if cs=true then 2 else 3)=true then iR (-1)else Y.lo,if R (if cs=true then 0 else 1)=true then iR 1 else Y.hi,Y.all⟩
def aaJ(x:Iv)(cs:Bool)(p:Nat)(hx:x.gX)(xa:x.all=false)(ib:8<=p)(gW:p<=512)(h1:¬100<x.lo.ig)(h2:¬100<x.hi.ig)(h3:ve x 64=0)(h4:¬0<=iN (oq x 64) (iR 7))(P1 P2 H Y:Iv)(hY:xT Y)(xz:∀ c,c=cs->gQ 264 [gU x.lo,bP c,iP (p:Int)] (ia P1))(xA:∀ c,c=cs->gQ 264 [gU x.hi,bP c,iP (p:Int)] (ia P2))(hH:gQ 139 [ia P1,ia P2] (ia H))(vC:gQ 263 [ia H,ia kX] (.ie [ia Y,bP true]))(R:Nat->Bool)(hM:∀ s:Nat,s<=3->gQ 265 [ia x,iP (s:Int),iP ((p+64:Nat):Int)] (bP (R s))):gQ 232 [ia x,bP cs,iP p] (ia (qm cs R x Y)):=by
 obtain⟨w1,w2⟩:=hx.jW;have h7:(iR 7).gX:=sE aE;have wv:(oq x 64).gX:=vY _ aE aE _;exact ak call232 func232 (ae [.c (Hr p aC aC),.c (qV x aD),ai 22 x.all xa,ag [gU x.lo] (mK _ aD),tB 28 (a7 h1),ag [gU x.hi] (mK _ aD),tB 33 (a7 h2),.c (CW x 64 aD aD aC aC),tB 40 (a6 h3),ag [iP 7] (qL _ aC),ag [gU (oq x 64),gU (iR 7)] (kH _ _ aD aD),tB 47 (a7 h4)]<|.w ((iN x.lo x.hi)=0)
  (λk1=>ae [ag [gU x.lo,bP cs,iP p] (xz cs aH),ag [gU x.hi,bP cs,iP p] (xA cs aH),ag [ia P1,ia P2] hH,.c yd,ag [ia H,ia kX] vC,ag [gU x.lo,gU x.hi] (kH _ _ aD aD),tB 74 (aU k1)]<|rQ (ia Y) (ia (qm cs R x Y)) (by unfold qm;simp[k1]))
  (λk1=>.w (cs=true)
   (λk2=>ae [tB 53 k2,ag [gU x.lo,bP true,iP p] (xz true (by simp[k2])),tB 58 k2,ag [gU x.hi,bP true,iP p] (xA true (by simp[k2])),ag [ia P1,ia P2] hH,.c yd,ag [ia H,ia kX] vC,ag [gU x.lo,gU x.hi] (kH _ _ aD aD),tB 74 (aT k1),tB 76 k2,
    ij ((p:Int)+64) aC,ag [ia x,iP 0,iP ((p+64:Nat):Int)] (hM 0 aE)]<|.w (R 0=true)
    (λk3=>ae [tB 81 k3,ag [iP 1] (qL _ aC),ij ((p:Int)+64) aC,ag [ia x,iP 2,iP ((p+64:Nat):Int)] (hM 2 aE)]<|.w (R 2=true)
     (λk4=>ae [tB 88 k4,ag [iP (-1)] (qL _ aC)]<|rQ (ia (Iv.mk (iR (-1)) (iR 1) Y.all)) (ia (qm cs R x Y)) (by unfold qm;simp[k1,k2,k3,k4]))
     (λk4=>ae [tB 88 (aV k4)]<|rQ (ia (Iv.mk Y.lo (iR 1) Y.all)) (ia (qm cs R x Y)) (by unfold qm;simp[k1,k2,k3,k4])))
    (λk3=>ae [tB 81 (aV k3),ij ((p:Int)+64) aC,ag [ia x,iP 2,iP ((p+64:Nat):Int)] (hM 2 aE)]<|.w (R 2=true)
     (λk4=>ae [tB 88 k4,ag [iP (-1)] (qL _ aC)]<|rQ (ia (Iv.mk (iR (-1)) Y.hi Y.all)) (ia (qm cs R x Y)) (by unfold qm;simp[k1,k2,k3,k4]))
     (λk4=>ae [tB 88 (aV k4)]<|rQ (ia Y) (ia (qm cs R x Y)) (by unfold qm;simp[k1,k2,k3,k4]))))
   (λk2=>ae [tB 53 (aV k2),ag [gU x.lo,bP false,iP p] (xz false (by simp[k2])),tB 58 (aV k2),ag [gU x.hi,bP false,iP p] (xA false (by simp[k2])),ag [ia P1,ia P2] hH,.c yd,ag [ia H,ia kX] vC,ag [gU x.lo,gU x.hi] (kH _ _ aD aD),tB 74 (aT k1),tB 76 (aV k2),ij ((p:Int)+64) aC,ag [ia x,iP 1,iP ((p+64:Nat):Int)] (hM 1 aE)]<|.w (R 1=true)
    (λk3=>ae [tB 81 k3,ag [iP 1] (qL _ aC),ij ((p:Int)+64) aC,ag [ia x,iP 3,iP ((p+64:Nat):Int)] (hM 3 aE)]<|.w (R 3=true)
     (λk4=>ae [tB 88 k4,ag [iP (-1)] (qL _ aC)]<|rQ (ia (Iv.mk (iR (-1)) (iR 1) Y.all)) (ia (qm cs R x Y)) (by unfold qm;simp[k1,k2,k3,k4]))
     (λk4=>ae [tB 88 (aV k4)]<|rQ (ia (Iv.mk Y.lo (iR 1) Y.all)) (ia (qm cs R x Y)) (by unfold qm;simp[k1,k2,k3,k4])))
    (λk3=>ae [tB 81 (aV k3),ij ((p:Int)+64) aC,ag [ia x,iP 3,iP ((p+64:Nat):Int)] (hM 3 aE)]<|.w (R 3=true)
     (λk4=>ae [tB 88 k4,ag [iP (-1)] (qL _ aC)]<|rQ (ia (Iv.mk (iR (-1)) Y.hi Y.all)) (ia (qm cs R x Y)) (by unfold qm;simp[k1,k2,k3,k4]))
     (λk4=>ae [tB 88 (aV k4)]<|rQ (ia Y) (ia (qm cs R x Y)) (by unfold qm;simp[k1,k2,k3,k4])))))) 
def QH{x:Iv}(hx:x.gX)(cs:Bool){p:Nat}(ib:8<=p)(gW:p<=512):∃ Z,Z.gX/\gQ 232 [ia x,bP cs,iP (p:Int)] (ia Z):=by
 cases xa:x.all with
 |true=>exact⟨_,lG,aaI x cs p hx xa ib gW⟩
 |false=>
  by_cases hu:100<x.lo.ig\/100<x.hi.ig\/¬ve x 64=0\/0<=iN (oq x 64) (iR 7)
  .exact ⟨_,zB,aaL x cs p hx xa ib gW hu⟩
  have h1:¬100<x.lo.ig:=λq=>hu (.inl q)
  have h2:¬100<x.hi.ig:=λq=>hu (.inr (.inl q))
  have h3:ve x 64=0:=bM λq=>hu (.inr (.inr (.inl q)))
  have h4:¬0<=iN (oq x 64) (iR 7):=λq=>hu (.inr (.inr (.inr q)))
  obtain⟨w1,w2⟩:=hx.jW;obtain⟨P1,g1,xz⟩:=QK w1 aC cs ib gW;obtain⟨P2,g2,xA⟩:=QK w2 aC cs ib gW;replace xz:∀ c,c=cs->gQ 264 [gU x.lo,bP c,iP (p:Int)] (ia P1):=λc h=>h▸xz
  replace xA:∀ c,c=cs->gQ 264 [gU x.hi,bP c,iP (p:Int)] (ia P2):=λc h=>h▸xA
  obtain⟨H,g3,hH⟩:=ZK g1 g2;rcases ZT g3 with⟨Y,hY,vC⟩|vC
  rotate_left
  .exact ⟨_,zB,aaK x cs p hx xa ib gW h1 h2 h3 h4 P1 P2 H xz xA hH vC⟩
  have ya:=hY.f;have v0:=hY.v;have v1:(Iv.mk (iR (-1)) (iR 1) Y.all).gX:=by rw[ya];exact zB
  have v2:(Iv.mk Y.lo (iR 1) Y.all).gX:=by rw[ya];exact hY.up.v
  have v3:(Iv.mk (iR (-1)) Y.hi Y.all).gX:=by rw[ya];exact hY.dn.v
  have v4:(Iv.mk Y.lo Y.hi Y.all).gX:=hY.v;have hm:∀ s:Nat,∃ r,s<=3->gQ 265 [ia x,iP (s:Int),iP ((p+64:Nat):Int)] (bP r):=λs=>by
   by_cases hs:s<=3
   .obtain ⟨r,m⟩:=aa9 hx xa s aC (p+64) aC aC aC ;exact⟨r,λ_=>m⟩
   .exact ⟨true,λh=>absurd h hs⟩
  refine⟨qm cs (λs=>Classical.choose (hm s)) x Y,?_,aaJ x cs p hx xa ib gW h1 h2 h3 h4 P1 P2 H Y hY xz xA hH vC (λs=>Classical.choose (hm s)) λs hs=>cK (hm s) hs⟩;generalize (λs=>Classical.choose (hm s))=R;unfold qm;by_cases q1:iN x.lo x.hi=0
  .rw [aZ q1];exact v0
  rw[aY q1];by_cases q2:R (if cs=true then 2 else 3)=true<;>by_cases q3:R (if cs=true then 0 else 1)=true<;>simp only[q2,q3,bw,bj,bB]<;>assumption
def abB(x Z:Iv)(p:Nat)(hZ:gQ 232 [ia x,bP false,iP (p:Int)] (ia Z)):gQ 204 [ia x,iP p] (ia Z):=
 ak call204 func204 (af [ag [ia x,bP false,iP p] hZ]) 
def abA{x:Iv}(hx:x.gX){p:Nat}(ib:8<=p)(gW:p<=512):∃ Z,Z.gX/\gQ 204 [ia x,iP (p:Int)] (ia Z):=by
 obtain⟨Z,h1,h2⟩:=QH hx false ib gW;exact⟨Z,h1,abB x Z p h2⟩
def aaT(x Z:Iv)(p:Nat)(hZ:gQ 232 [ia x,bP true,iP (p:Int)] (ia Z)):gQ 205 [ia x,iP p] (ia Z):=
 ak call205 func205 (af [ag [ia x,bP true,iP p] hZ]) 
def aaS{x:Iv}(hx:x.gX){p:Nat}(ib:8<=p)(gW:p<=512):∃ Z,Z.gX/\gQ 205 [ia x,iP (p:Int)] (ia Z):=by
 obtain⟨Z,h1,h2⟩:=QH hx true ib gW;exact⟨Z,h1,aaT x Z p h2⟩
def adM:ue:=λ_ _ hx ib gW=>⟨alz hx ib gW,alG hx ib gW,abA hx ib gW,aaS hx ib gW,afU hx ib gW⟩
structure oJ where
 kind:Int
 a:Int
 b:Int
 n:Int
 cn:Int
 cd:Int
structure lP where
 ic:Int
 gS:List oJ
 iu:List Int
 iH:Int
 params:List RI
def nQ:oJ:=⟨0,0,0,0,0,0⟩
def zf(o:oJ):List E:=[iP o.kind,iP o.a,iP o.b,iP o.n,iP o.cn,iP o.cd]
def ai7(o:oJ):E:=.agg (zf o)
def nZ(l:List oJ):E:=.sl true l.length 6 λi j=>(zf (l.getD i nQ)).getD j .any
def oG(l:List Int):E:=.sl true l.length 1 λi _=>iP (l.getD i 0)
def OR(s:lP):List E:=[iP s.ic,nZ s.gS,oG s.iu,iP s.iH,mq s.params]
def od(s:lP):E:=.agg (OR s)
structure oJ.ko(o:oJ):Prop where
 kind:kP .i64 o.kind
 a:kP .i64 o.a
 b:kP .i64 o.b
 n:kP .i64 o.n
 cn:kP .i64 o.cn
 cd:kP .i64 o.cd
structure lP.ko(s:lP):Prop where
 ic:kP .i64 s.ic
 gS:∀ i,(s.gS.getD i nQ).ko
 iu:∀ i,kP .i64 (s.iu.getD i 0)
 iH:kP .i64 s.iH
 params:∀ i,(s.params.getD i nK).ko
structure lP.wj(s:lP):Prop where
 gS:s.gS.length<=1000
 params:s.params.length<=1000
def mQ(o:oJ)(m:Int):Bool:=
 if o.kind=1 then pB o.cn o.cd&&decide (o.a=0/\o.b=0/\o.n=0)
 else if 3<=o.kind/\o.kind<=6 then decide (o.cn=0/\o.cd=0/\0<=o.a/\o.a<m/\0<=o.b/\o.b<m/\o.n=0)
 else if o.kind=8 then decide (o.cn=0/\o.cd=0/\0<=o.a/\o.a<m/\o.b=0/\0<=o.n/\o.n<=16)
 else if o.kind=7\/9<=o.kind/\o.kind<=13 then decide (o.cn=0/\o.cd=0/\0<=o.a/\o.a<m/\o.b=0/\o.n=0)
 else false
def Xb(s:lP):Bool:=(List.range s.gS.length).all λi=>mQ (s.gS.getD i nQ) (s.ic+(i:Int))
def Cr(s:lP)(k:Int):Bool:=decide (0<=k/\k<s.ic+(s.gS.length:Int))
def zg(s:lP):Bool:=(List.range s.iu.length).all λi=>Cr s (s.iu.getD i 0)
noncomputable def pH(x:RI):Bool:=y5 x && !x.all
noncomputable def Gr(s:lP):Bool:=(List.range s.params.length).all λi=>pH (s.params.getD i nK)
noncomputable def rC(s:lP):Bool:=decide (0<=s.ic/\s.ic<=8/\s.gS.length<=200/\s.iu.length<=200)&&Xb s&&zg s
 && decide (1<=s.iH/\s.iH<=4/\(s.iu.length:Int)=s.iH/\s.ic=s.iH+(s.params.length:Int)/\s.params.length<=4)&&Gr s
def Zo{n:Nat}{f:Nat->Bool}(h:¬(List.range n).all f=true):∃ N,N<n/\(!f N)=true/\∀ k,k<N->(!f k)=false:=by
 refine sG ?_;apply bM;intro q;apply h;refine bN.2 λi hi=>?_
 cases hf:f i with
 |true=>rfl
 |false=>exact absurd ⟨i,bW.1 hi,by rw[hf];rfl⟩ q
def P0{n:Nat}{f:Nat->Bool}:((List.range n).any λi=>!f i) = !((List.range n).all f):=by
 rw[dz];simp
def oJ.v(o:oJ):mF:=⟨o.kind.toNat,o.a.toNat,o.b.toNat,o.n.toNat,o.cn,o.cd⟩
def lP.v(s:lP):jz:=⟨⟨s.ic.toNat,s.gS.map oJ.v,s.iu.map Int.toNat⟩,s.iH.toNat,s.params.map RI.iv⟩
def nx.of{k a b n m:Nat}{cn cd:Int}(k3:k=1\/3<=k)(wQ:k<=13)(ha:k=1->a=0)(IG:¬k=1->a<m)(hb:3<=k/\k<=6->b<m)(nF:¬(3<=k/\k<=6)->b=0)
 (hn:k=8->n<=16) (uF:¬k=8->n=0) (hc:k=1->pB cn cd=true) (E9:¬k=1->cn=0/\cd=0):nx ⟨k,a,b,n,cn,cd⟩ m:=by
 refine⟨k3,wQ,?_,?_,?_,?_,.inr adM⟩
 .show if k=1 then a=0 else a<m
  split<;>simp_all
 .show if 3<=k/\k<=6 then b<m else b=0
  split
  .rename_i h;exact hb h
  .rename_i h;exact nF h
 .show if k=8 then n<=16 else n=0
  split
  .rename_i h;exact hn h
  .rename_i h;exact uF h
 .show if k=1 then pB cn cd=true else cn=0/\cd=0
  split
  .rename_i h;exact hc h
  .rename_i h;exact E9 h
def ai4{o:oJ}{m:Nat}(h:mQ o (m:Int)=true):nx o.v m/\0<=o.kind/\0<=o.a/\0<=o.b/\0<=o.n:=by
 obtain⟨k,a,b,n,cn,cd⟩:=o;unfold mQ at h;simp only at h;show nx ⟨k.toNat,a.toNat,b.toNat,n.toNat,cn,cd⟩ m/\0<=k/\0<=a/\0<=b/\0<=n;split at h
 .rename_i hk;rw[bE,b9]at h;obtain⟨hr,h1,h2,h3⟩:=h;exact⟨nx.of aC aC aC aC aC aC aC aC (λ_=>hr) aC,aC,aC,aC,aC⟩
 .rename_i nX;split at h
  .rename_i hk;have h:=cJ h;exact⟨nx.of aC aC aC aC aC aC aC aC aC aC,aC,aC,aC,aC⟩
  .split at h
   .rename_i hk;have h:=cJ h;exact⟨nx.of aC aC aC aC aC aC aC aC aC aC,aC,aC,aC,aC⟩
   .split at h
    .rename_i vF hk;have h:=cJ h;exact⟨nx.of aC aC aC aC aC aC aC aC aC aC,aC,aC,aC,aC⟩
    .cases h
def ai6{o:oJ}(h1:0<=o.kind)(h2:0<=o.a)(h3:0<=o.b)(h4:0<=o.n):JN o.v=zf o:=by
 obtain⟨k,a,b,n,cn,cd⟩:=o;simp only[JN,zf,oJ.v]at *
 rw[eJ h1,eJ h2,eJ h3,eJ h4]
def ajm{s:lP}(g:s.ko)(h:rC s=true):lH s.v/\od s=kQ s.v:=by
 unfold rC at h;simp only[bE,b9]at h;obtain⟨⟨⟨⟨⟨i0,i8,l1,l2⟩,ho⟩,hu⟩,s1,s4,e1,e2,p4⟩,hp⟩:=h;have ho:=bN.1 ho;have hu:=bN.1 hu;have hp:=bN.1 hp;have opAt:∀ i,i<s.gS.length->(s.gS.map oJ.v).getD i iw=(s.gS.getD i nQ).v:=λi hi=>by simp[bd,hi]
 have ouAt:∀ i,i<s.iu.length->(s.iu.map Int.toNat).getD i 0=(s.iu.getD i 0).toNat:=λi hi=>by simp[bd,hi]
 have paAt:∀ i,i<s.params.length->(s.params.map RI.iv).getD i gT=(s.params.getD i nK).iv:=λi hi=>by simp[bd,hi]
 have op:∀ i,i<s.gS.length->nx (s.gS.getD i nQ).v (s.ic.toNat+i)/\0<=(s.gS.getD i nQ).kind/\0<=(s.gS.getD i nQ).a/\0<=(s.gS.getD i nQ).b/\0<=(s.gS.getD i nQ).n:=λi hi=>by
  have:=ho i (bW.2 hi);exact ai4 (by rwa[show((s.ic.toNat+i:Nat):Int)=s.ic+(i:Int)by omega])
 have ou:∀ i,i<s.iu.length->0<=s.iu.getD i 0/\s.iu.getD i 0<s.ic+(s.gS.length:Int):=λi hi=>cJ (hu i (bW.2 hi))
 have pa:∀ i,i<s.params.length->(s.params.getD i nK).Ok/\(s.params.getD i nK).all=false:=λi hi=>by
  have:=hp i (bW.2 hi);unfold pH at this;rw[bE]at this;exact⟨AI.1 this.1,by simpa using this.2⟩
 refine⟨⟨⟨?_,?_,?_,?_,?_⟩,?_,?_,?_,?_,?_,?_⟩,?_⟩
 .show s.ic.toNat<=8;omega
 .show (s.gS.map oJ.v).length<=200;rw[ca];exact l1
 .show (s.iu.map Int.toNat).length<=200;rw[ca];exact l2
 .intro i hi;have hi:i<s.gS.length:=by simpa[lP.v]using hi
  show nx ((s.gS.map oJ.v).getD i iw) (s.ic.toNat+i);rw[opAt i hi];exact(op i hi).1
 .intro i hi;have hi:i<s.iu.length:=by simpa[lP.v]using hi
  show(s.iu.map Int.toNat).getD i 0<s.ic.toNat+(s.gS.map oJ.v).length;rw[ouAt i hi,ca];have:=ou i hi;omega
 .show 1<=s.iH.toNat;omega
 .show s.iH.toNat<=4;omega
 .show (s.iu.map Int.toNat).length=s.iH.toNat;rw[ca];omega
 .show s.ic.toNat=s.iH.toNat+(s.params.map RI.iv).length;rw[ca];omega
 .show (s.params.map RI.iv).length<=4;rw[ca];exact p4
 .intro i hi;have hi:i<s.params.length:=by simpa[lP.v]using hi
  show((s.params.map RI.iv).getD i gT).gX/\((s.params.map RI.iv).getD i gT).all=false;rw[paAt i hi];exact⟨(pa i hi).1.valid,(pa i hi).2⟩
 .have e1:iP s.ic=iP (s.ic.toNat:Int):=by rw[eJ i0]
  have e2:iP s.iH=iP (s.iH.toNat:Int):=by rw[eJ (aC:0<=s.iH)]
  have e3:nZ s.gS=kD (s.gS.map oJ.v):=by
   unfold nZ kD;rw[ca];congr 1;funext i j;by_cases hi:i<s.gS.length
   .rw [opAt i hi];obtain⟨_,h1,h2,h3,h4⟩:=op i hi;rw[ai6 h1 h2 h3 h4]
   .have a1:s.gS.getD i nQ=nQ:=by rw[bd,b7 aC];rfl
    have a2:(s.gS.map oJ.v).getD i iw=iw:=by rw[bd,b7 (by rw[ca];omega)];rfl
    rw[a1,a2];rfl
  have e4:oG s.iu=kC (s.iu.map Int.toNat):=by
   unfold oG kC;rw[ca];congr 1;funext i j;by_cases hi:i<s.iu.length
   .rw [ouAt i hi,eJ (ou i hi).1]
   .rw [bd,b7 aC,bd (l:=s.iu.map Int.toNat),b7 (by rw[ca];omega)];rfl
  have e5:mq s.params=gY (s.params.map RI.iv):=by
   rw[<-UU];congr 1;apply fI;intro i;unfold Cu;rw[cr,cr];by_cases hi:i<s.params.length
   .have h1:=(pa i hi).1;have g1:=g.params i;rw[bt hi];rw[bd,bt hi]at h1 g1;exact congrArg some (RI.Ok.eq (x:=s.params[i]) h1 g1).symm
   .rw [b7 aC];rfl
  show E.agg [iP s.ic,nZ s.gS,oG s.iu,iP s.iH,mq s.params]=_;rw[e1,e2,e3,e4,e5];rfl
def Xf(s:lP)(N:Nat)(x:Nat):PS:=⟨85,true,[(31,.e (iP x)),(30,.e (iP s.gS.length)),(29,.e (nZ s.gS)),(3,.box 3 0),(1,.box 1 0)],[(3,.cells 25 [iP s.ic,nZ s.gS,oG s.iu]),(1,.cells 28 [iP s.ic,nZ s.gS,oG s.iu,iP s.iH,mq s.params])]⟩
def Xg(s:lP)(x:Nat):PS:=⟨85,true,[(31,.e (iP x)),(30,.e (iP s.gS.length)),(29,.e (nZ s.gS)),(3,.box 3 0),(1,.box 1 0)],[(3,.cells 25 [iP s.ic,nZ s.gS,oG s.iu]),(1,.cells 28 [iP s.ic,nZ s.gS,oG s.iu,iP s.iH,mq s.params])]⟩
def Xh(s:lP)(x:Nat):PS:=⟨85,true,[(31,.e (iP x)),(30,.e (iP s.gS.length)),(29,.e (nZ s.gS)),(3,.box 3 0),(1,.box 1 0)],[(3,.cells 25 [iP s.ic,nZ s.gS,oG s.iu]),(1,.cells 28 [iP s.ic,nZ s.gS,oG s.iu,iP s.iH,mq s.params])]⟩
def Xi(s:lP)(x:Nat):PS:=⟨85,true,[(31,.e (iP x)),(30,.e (iP s.gS.length)),(29,.e (nZ s.gS)),(3,.box 3 0),(1,.box 1 0)],[(3,.cells 25 [iP s.ic,nZ s.gS,oG s.iu]),(1,.cells 28 [iP s.ic,nZ s.gS,oG s.iu,iP s.iH,mq s.params])]⟩
def xG{a b:Bool}(h:a=true↔b=true):a=b:=dz.2 h
def jT{a b:Bool}(h:a=b):bP a=bP b:=h▸rfl
def q9{o:oJ}{m:Int}{b:Bool}(h:b=mQ o m:=by simp_all[mQ,Qx]<;>(repeat' split)<;>intros<;>omega):bP b=bP (mQ o m):=jT h
noncomputable def ahI(o:oJ)(m:Int)(g:o.ko)(C:Bool)(hC:C=decide (o.cn=0/\o.cd=0))(q1:¬o.a<0)(q2:¬o.b<0):Tr prog Tb:=
  .w (o.kind=1)
  (λk1=>ae [tB 21 (aU k1),.c (JU o.cn o.cd)]<|.w (pB o.cn o.cd=true)
   (λk2=>ae [tB 24 k2]<|.w (o.a=0)
    (λk3=>ae [tB 28 (aU k3)]<|.w (o.b=0)
     (λk4=>ae [tB 33 (aU k4)]<|rQ (bP (o.n==0)) (bP (mQ o m)) q9)
     (λk4=>ae [tB 33 (aT k4)]<|rQ (bP false) (bP (mQ o m)) q9))
    (λk3=>ae [tB 28 (aT k3)]<|rQ (bP false) (bP (mQ o m)) q9))
   (λk2=>ae [tB 24 (aV k2)]<|rQ (bP false) (bP (mQ o m)) q9))
  (λk1=>ae [tB 21 (aT k1),.j 80 ⟨111,true,[(40,.e (bP (decide (3<=o.kind/\o.kind<=6)))),(19,.e (iP o.kind)),(5,.e (bP C)),(2,.box 2 0),(1,.e (iP m))],[(2,.cells 91 [iP o.kind,iP o.a,iP o.b,iP o.n,iP o.cn,iP o.cd])]⟩
   (.w (o.kind=3)
    (λm1=>ae [.v 40 (.bool (aU m1))]<|.e (af [tB 40 (xG aJ:true=(decide (3<=o.kind/\o.kind<=6)))]))
    (λm1=>ae [.v 40 (.bool (aT m1))]<|.w (o.kind=4)
     (λm2=>ae [tB 42 (aU m2)]<|.e (af [tB 40 (xG aJ:true=(decide (3<=o.kind/\o.kind<=6)))]))
     (λm2=>ae [tB 42 (aT m2)]<|.w (o.kind=5)
      (λm3=>ae [tB 43 (aU m3)]<|.e (af [tB 40 (xG aJ:true=(decide (3<=o.kind/\o.kind<=6)))]))
      (λm3=>ae [tB 43 (aT m3)]<|.e (af [tB 40 (xG aJ:(o.kind==6)=(decide (3<=o.kind/\o.kind<=6)))])))))]<|.w (3<=o.kind/\o.kind<=6)
   (λk2=>ae [.v 40 (.bool (a6 k2))]<|.w (C=true)
    (λk3=>ae [tB 45 k3]<|.w (o.a<m)
     (λk4=>ae [tB 50 (a6 k4)]<|.w (o.b<m)
      (λk5=>ae [tB 56 (a6 k5)]<|rQ (bP (o.n==0)) (bP (mQ o m)) q9)
      (λk5=>ae [tB 56 (a7 k5)]<|rQ (bP false) (bP (mQ o m)) q9))
     (λk4=>ae [tB 50 (a7 k4)]<|rQ (bP false) (bP (mQ o m)) q9))
    (λk3=>ae [tB 45 (aV k3)]<|rQ (bP false) (bP (mQ o m)) q9))
   (λk2=>ae [.v 40 (.bool (a7 k2))]<|.w (o.kind=8)
    (λk3=>ae [tB 64 (aU k3)]<|.w (C=true)
     (λk4=>ae [tB 65 k4]<|.w (o.a<m)
      (λk5=>ae [tB 70 (a6 k5)]<|.w (o.b=0)
       (λk6=>ae [tB 75 (aU k6)]<|.w (0<=o.n)
        (λk7=>ae [tB 80 (a6 k7)]<|rQ (bP (decide (o.n<=16))) (bP (mQ o m)) q9)
        (λk7=>ae [tB 80 (a7 k7)]<|rQ (bP false) (bP (mQ o m)) q9))
       (λk6=>ae [tB 75 (aT k6)]<|rQ (bP false) (bP (mQ o m)) q9))
      (λk5=>ae [tB 70 (a7 k5)]<|rQ (bP false) (bP (mQ o m)) q9))
     (λk4=>ae [tB 65 (aV k4)]<|rQ (bP false) (bP (mQ o m)) q9))
    (λk3=>ae [tB 64 (aT k3),.j 174 ⟨111,true,[(87,.e (bP (decide (o.kind=7\/9<=o.kind/\o.kind<=13)))),(5,.e (bP C)),(2,.box 2 0),(1,.e (iP m))],[(2,.cells 91 [iP o.kind,iP o.a,iP o.b,iP o.n,iP o.cn,iP o.cd])]⟩
   (.w (o.kind=7)
    (λm1=>ae [.v 87 (.bool (aU m1))]<|.e (af [tB 87 (xG aJ:true=(decide (o.kind=7\/9<=o.kind/\o.kind<=13)))]))
    (λm1=>ae [.v 87 (.bool (aT m1))]<|.w (o.kind=9)
     (λm2=>ae [tB 89 (aU m2)]<|.e (af [tB 87 (xG aJ:true=(decide (o.kind=7\/9<=o.kind/\o.kind<=13)))]))
     (λm2=>ae [tB 89 (aT m2)]<|.w (o.kind=10)
      (λm3=>ae [tB 90 (aU m3)]<|.e (af [tB 87 (xG aJ:true=(decide (o.kind=7\/9<=o.kind/\o.kind<=13)))]))
      (λm3=>ae [tB 90 (aT m3)]<|.w (o.kind=11)
       (λm4=>ae [tB 91 (aU m4)]<|.e (af [tB 87 (xG aJ:true=(decide (o.kind=7\/9<=o.kind/\o.kind<=13)))]))
       (λm4=>ae [tB 91 (aT m4)]<|.w (o.kind=12)
        (λm5=>ae [tB 92 (aU m5)]<|.e (af [tB 87 (xG aJ:true=(decide (o.kind=7\/9<=o.kind/\o.kind<=13)))]))
        (λm5=>ae [tB 92 (aT m5)]<|.e (af [tB 87 (xG aJ:(o.kind==13)=(decide (o.kind=7\/9<=o.kind/\o.kind<=13)))])))))))]<|.w (o.kind=7\/9<=o.kind/\o.kind<=13)
     (λk4=>ae [.v 87 (.bool (a6 k4))]<|.w (C=true)
      (λk5=>ae [tB 94 k5]<|.w (o.a<m)
       (λk6=>ae [tB 99 (a6 k6)]<|.w (o.b=0)
        (λk7=>ae [tB 104 (aU k7)]<|rQ (bP (o.n==0)) (bP (mQ o m)) q9)
        (λk7=>ae [tB 104 (aT k7)]<|rQ (bP false) (bP (mQ o m)) q9))
       (λk6=>ae [tB 99 (a7 k6)]<|rQ (bP false) (bP (mQ o m)) q9))
      (λk5=>ae [tB 94 (aV k5)]<|rQ (bP false) (bP (mQ o m)) q9))
     (λk4=>ae [.v 87 (.bool (a7 k4))]<|rQ (bP false) (bP (mQ o m)) q9))))
def F9(o:oJ)(m:Int)(g:o.ko):gQ 59 [ai7 o,iP m] (bP (mQ o m)):=
 ak call59 func59 (.w (o.a<0)
  (λk1=>ae [tB 8 (a6 k1)]<|rQ (bP false) (bP (mQ o m)) q9)
  (λk1=>ae [tB 8 (a7 k1)]<|.w (o.b<0)
   (λk2=>ae [tB 12 (a6 k2)]<|rQ (bP false) (bP (mQ o m)) q9)
   (λk2=>ae [tB 12 (a7 k2),.g (Wv g.cn g.cd rfl:qk prog .eql 89 (.agg [iP o.cn,iP o.cd]) (.agg [iP 0,iP 0]) (.bool (decide (o.cn=0/\o.cd=0))))]<|ahI o m g (decide (o.cn=0/\o.cd=0)) rfl k1 k2))) 
def akt(s:lP)(g:s.ko)(k:Int)(h0:0<=s.ic)(h8:s.ic<=8)(l2:s.gS.length<=200):gQ 61 [iP k,(.iM 3 λj_=>[iP s.ic,nZ s.gS,oG s.iu].getD j_ .any)] (bP (!Cr s k)):=
 ak call61 func61 (.w (k<0)
  (λk1=>ae [tB 5 (a6 k1)]<|rQ (bP true) (bP (!Cr s k)) (jT (by unfold Cr;rw[dz];simp_all)))
  (λk1=>ae [tB 5 (a7 k1),ij (s.ic+(s.gS.length:Int)) aC]<|rQ (bP (decide ((s.ic+(s.gS.length:Int))<=k))) (bP (!Cr s k)) (jT (by unfold Cr;rw[dz];simp_all)))) 
def akv(x:RI)(g:x.ko):gQ 62 [wX x] (bP (!pH x)):=by
 have ga:=g.lo;have gb:=g.hi;by_cases ha:x.all=true
 .have e:pH x=false:=by unfold pH;rw[ha];simp
  rw[e];exact ak call62 func62 (af [ah 4 x.all ha]) 
 .replace ha:x.all=false:=by simpa using ha
  by_cases h1:x.lo.Ok
  .by_cases h2:x.hi.Ok
   .have v1:=h1.valid;have v2:=h2.valid;have e1:wX x=ia x.iv:=by rw[<-Nh,show x.iv.raw=x by show RI.mk x.lo.dy.raw x.hi.dy.raw x.all=x;rw[h1.eq ga,h2.eq gb]]
    rw[e1];by_cases h3:iN x.lo.dy x.hi.dy<=0
    .have e:pH x=true:=by unfold pH;rw[AI.2 (.inr ⟨ha,h1,h2,h3⟩),ha];rfl
     rw[e];exact ak call62 func62 (af [ai 4 x.iv.all ha,ag [gU x.iv.lo] (mZ _ aD),ag [gU x.iv.hi] (mZ _ aD),ag [gU x.iv.lo,gU x.iv.hi] (kH _ _ aD aD),tF 23 (0<(iN x.iv.lo x.iv.hi)) (by show ¬0<iN x.lo.dy x.hi.dy;omega)]) 
    .have e:pH x=false:=by unfold pH;rw[show y5 x=false by simpa using λq=>(AI.1 q).elim (λq=>by rw[ha]at q;exact Bool.noConfusion q.1) λq=>h3 q.2.2.2];rfl
     rw[e];exact ak call62 func62 (af [ai 4 x.iv.all ha,ag [gU x.iv.lo] (mZ _ aD),ag [gU x.iv.hi] (mZ _ aD),ag [gU x.iv.lo,gU x.iv.hi] (kH _ _ aD aD),tT 23 (0<(iN x.iv.lo x.iv.hi)) (by show 0<iN x.lo.dy x.hi.dy;omega)]) 
   .have e:pH x=false:=by unfold pH;rw[show y5 x=false by simpa using λq=>(AI.1 q).elim (λq=>by rw[ha]at q;exact Bool.noConfusion q.1) λq=>h2 q.2.2.1];rfl
    rw[e];exact ak call62 func62 (af [ai 4 x.all ha,ag [sM x.lo] (yj _ aD true (by simp[h1])),ag [sM x.hi] (yj _ aD false (by simp[h2]))]) 
  .have e:pH x=false:=by unfold pH;rw[show y5 x=false by simpa using λq=>(AI.1 q).elim (λq=>by rw[ha]at q;exact Bool.noConfusion q.1) λq=>h1 q.2.1];rfl
   rw[e];exact ak call62 func62 (af [ai 4 x.all ha,ag [sM x.lo] (yj _ aD false (by simp[h1]))]) 
def Oe(s:lP)(h0:0<=s.ic)(h8:s.ic<=8)(l2:s.gS.length<=200)(lu:s.iu.length<=200)(g:s.ko):gQ 60 [oG s.iu,.fn 61 [(.iM 3 λj_=>[iP s.ic,nZ s.gS,oG s.iu].getD j_ .any)]] (bP (!zg s)):=by
 have:=afG true s.iu.length (λi _=>iP (s.iu.getD i 0)) 61 [(.iM 3 λj_=>[iP s.ic,nZ s.gS,oG s.iu].getD j_ .any)] (λi=>!Cr s (s.iu.getD i 0)) (λi _=>akt s g _ h0 h8 l2) (aC:s.iu.length<=1000000);rwa[P0]at this
def WD(f:FuncId)(l:List RI)(hf:∀ i,gQ f [wX (l.getD i nK)] (bP (!pH (l.getD i nK))))(hl:l.length<=1000):gQ 22 [mq l,.fn f []] (bP (!((List.range l.length).all λi=>pH (l.getD i nK)))):=by
 have:=Ni true l.length (λi j=>(ze (l.getD i nK)).getD j .any) f [] (λi=>!pH (l.getD i nK)) (λi _=>hf i) (aC:l.length<=1000000);rwa[P0]at this
def akx(s:lP)(g:s.ko)(sm:s.wj)(hc:¬(0<=s.ic/\s.ic<=8/\s.gS.length<=200/\s.iu.length<=200)):gQ 24 [od s] (bP false):=
 ak call24 func24 (.w (s.ic<0)
  (λk1=>af [tB 10 (a6 k1)])
  (λk1=>ae [tB 10 (a7 k1)]<|.w (8<s.ic)
   (λk2=>af [tB 14 (a6 k2)])
   (λk2=>ae [tB 14 (a7 k2)]<|.w (200<(s.gS.length:Int))
    (λk3=>af [tB 20 (a6 k3)])
    (λk3=>ae [tB 20 (a7 k3)]<|.w (200<(s.iu.length:Int))
     (λk4=>af [tB 26 (a6 k4)])
     (λk4=>.x aC))))) 
def aky(s:lP)(g:s.ko)(sm:s.wj)(i0:0<=s.ic)(i8:s.ic<=8)(l1:s.gS.length<=200)(l2:s.iu.length<=200)(N:Nat)(pN:N<s.gS.length)(jG:∀ k,k<N->(mQ (s.gS.getD k nQ) (s.ic+(k:Int)))=true)(hN:(mQ (s.gS.getD N nQ) (s.ic+(N:Int)))=false):gQ 24 [od s] (bP false):=
 ak call24 func24 (af [tF 10 (s.ic<0) aC,tF 14 (8<s.ic) aC,tF 20 (200<(s.gS.length:Int)) aC,tF 26 (200<(s.iu.length:Int)) aC,.s (Sp.jE (Xf s N) 0 N aC (λx hx mn=>by
    have uD:=g.gS x;exact iA (af [tT 32 ((x:Int)<s.gS.length) aC,iX (x:Int) (s.gS.length) aC,ij (s.ic+(x:Int)) aC,.c (F9 (s.gS.getD x nQ) (s.ic+(x:Int)) uD),ai 42 (!(mQ (s.gS.getD x nQ) (s.ic+(x:Int)))) (by rw[jG x aC];rfl),ij ((x:Int)+1) aC]) aF)
  (λhx=>by
    have uD:=g.gS N;exact iA (af [tT 32 ((N:Int)<s.gS.length) aC,iX (N:Int) (s.gS.length) aC,ij (s.ic+(N:Int)) aC,.c (F9 (s.gS.getD N nQ) (s.ic+(N:Int)) uD),ah 42 (!(mQ (s.gS.getD N nQ) (s.ic+(N:Int)))) (by rw[hN];rfl)]) aF) aI:jB 5 Tryz.f24 (Xf s N 0) .ret ⟨85,true,[(2,.e (bP false))],[]⟩) .nil]) 
def akz(s:lP)(g:s.ko)(sm:s.wj)(i0:0<=s.ic)(i8:s.ic<=8)(l1:s.gS.length<=200)(l2:s.iu.length<=200)(jG:∀ k,k<s.gS.length->(mQ (s.gS.getD k nQ) (s.ic+(k:Int)))=true)(hu:zg s=false):gQ 24 [od s] (bP false):=
 ak call24 func24 (af [tF 10 (s.ic<0) aC,tF 14 (8<s.ic) aC,tF 20 (200<(s.gS.length:Int)) aC,tF 26 (200<(s.iu.length:Int)) aC,.s (Sp.jE (Xg s) 0 s.gS.length aC (λx hx mn=>by
    have uD:=g.gS x;exact iA (af [tT 32 ((x:Int)<s.gS.length) aC,iX (x:Int) (s.gS.length) aC,ij (s.ic+(x:Int)) aC,.c (F9 (s.gS.getD x nQ) (s.ic+(x:Int)) uD),ai 42 (!(mQ (s.gS.getD x nQ) (s.ic+(x:Int)))) (by rw[jG x aC];rfl),ij ((x:Int)+1) aC]) aF)
  (λhx=>by
    exact iA (af [tF 32 ((s.gS.length:Int)<s.gS.length) aC]) aF) aI:jB 5 Tryz.f24 (Xg s 0) (.exit 0) ⟨85,true,[(3,.box 3 0),(1,.box 1 0)],[(3,.cells 25 [iP s.ic,nZ s.gS,oG s.iu]),(1,.cells 28 [iP s.ic,nZ s.gS,oG s.iu,iP s.iH,mq s.params])]⟩) .nil,ag [oG s.iu,.fn 61 [(.iM 3 λj_=>[iP s.ic,nZ s.gS,oG s.iu].getD j_ .any)]] (Oe s aC aC aC aC g),ah 47 (!(zg s)) (by rw[hu];rfl)]) 
def akA(s:lP)(g:s.ko)(sm:s.wj)(i0:0<=s.ic)(i8:s.ic<=8)(l1:s.gS.length<=200)(l2:s.iu.length<=200)(jG:∀ k,k<s.gS.length->(mQ (s.gS.getD k nQ) (s.ic+(k:Int)))=true)(hu:zg s=true)(hc:¬(1<=s.iH/\s.iH<=4/\(s.iu.length:Int)=s.iH/\s.ic=s.iH+(s.params.length:Int)/\s.params.length<=4)):gQ 24 [od s] (bP false):=by
 have sp:=sm.params;exact ak call24 func24 (ae [tF 10 (s.ic<0) aC,tF 14 (8<s.ic) aC,tF 20 (200<(s.gS.length:Int)) aC,tF 26 (200<(s.iu.length:Int)) aC,.s (Sp.jE (Xh s) 0 s.gS.length aC (λx hx mn=>by
    have uD:=g.gS x;exact iA (af [tT 32 ((x:Int)<s.gS.length) aC,iX (x:Int) (s.gS.length) aC,ij (s.ic+(x:Int)) aC,.c (F9 (s.gS.getD x nQ) (s.ic+(x:Int)) uD),ai 42 (!(mQ (s.gS.getD x nQ) (s.ic+(x:Int)))) (by rw[jG x aC];rfl),ij ((x:Int)+1) aC]) aF)
  (λhx=>by
    exact iA (af [tF 32 ((s.gS.length:Int)<s.gS.length) aC]) aF) aI:jB 5 Tryz.f24 (Xh s 0) (.exit 0) ⟨85,true,[(3,.box 3 0),(1,.box 1 0)],[(3,.cells 25 [iP s.ic,nZ s.gS,oG s.iu]),(1,.cells 28 [iP s.ic,nZ s.gS,oG s.iu,iP s.iH,mq s.params])]⟩) .nil,ag [oG s.iu,.fn 61 [(.iM 3 λj_=>[iP s.ic,nZ s.gS,oG s.iu].getD j_ .any)]] (Oe s aC aC aC aC g),ai 47 (!(zg s)) (by rw[hu];rfl)]<|.w (s.iH<1)
  (λk1=>af [tB 50 (a6 k1)])
  (λk1=>ae [tB 50 (a7 k1)]<|.w (4<s.iH)
   (λk2=>af [tB 54 (a6 k2)])
   (λk2=>ae [tB 54 (a7 k2)]<|.w ((s.iu.length:Int)=s.iH)
    (λk3=>ae [tB 62 (aW k3),ij (s.iH+(s.params.length:Int)) aC]<|.w (s.ic=(s.iH+(s.params.length:Int)))
     (λk4=>ae [tB 73 (aW k4)]<|.w (4<(s.params.length:Int))
      (λk5=>af [tB 79 (a6 k5)])
      (λk5=>.x aC))
     (λk4=>af [tB 73 (aX k4)]))
    (λk3=>af [tB 62 (aX k3)])))) 
def akB(s:lP)(g:s.ko)(sm:s.wj)(i0:0<=s.ic)(i8:s.ic<=8)(l1:s.gS.length<=200)(l2:s.iu.length<=200)(jG:∀ k,k<s.gS.length->(mQ (s.gS.getD k nQ) (s.ic+(k:Int)))=true)(hu:zg s=true)(s1:1<=s.iH)(s4:s.iH<=4)(e1:(s.iu.length:Int)=s.iH)(e2:s.ic=s.iH+(s.params.length:Int))(p4:s.params.length<=4):gQ 24 [od s] (bP (Gr s)):=by
 have sp:=sm.params;exact ak call24 func24 (ae [tF 10 (s.ic<0) aC,tF 14 (8<s.ic) aC,tF 20 (200<(s.gS.length:Int)) aC,tF 26 (200<(s.iu.length:Int)) aC,.s (Sp.jE (Xi s) 0 s.gS.length aC (λx hx mn=>by
    have uD:=g.gS x;exact iA (af [tT 32 ((x:Int)<s.gS.length) aC,iX (x:Int) (s.gS.length) aC,ij (s.ic+(x:Int)) aC,.c (F9 (s.gS.getD x nQ) (s.ic+(x:Int)) uD),ai 42 (!(mQ (s.gS.getD x nQ) (s.ic+(x:Int)))) (by rw[jG x aC];rfl),ij ((x:Int)+1) aC]) aF)
  (λhx=>by
    exact iA (af [tF 32 ((s.gS.length:Int)<s.gS.length) aC]) aF) aI:jB 5 Tryz.f24 (Xi s 0) (.exit 0) ⟨85,true,[(3,.box 3 0),(1,.box 1 0)],[(3,.cells 25 [iP s.ic,nZ s.gS,oG s.iu]),(1,.cells 28 [iP s.ic,nZ s.gS,oG s.iu,iP s.iH,mq s.params])]⟩) .nil,ag [oG s.iu,.fn 61 [(.iM 3 λj_=>[iP s.ic,nZ s.gS,oG s.iu].getD j_ .any)]] (Oe s aC aC aC aC g),ai 47 (!(zg s)) (by rw[hu];rfl),tF 50 (s.iH<1) aC,tF 54 (4<s.iH) aC,ai 62 ((s.iu.length:Int) != s.iH) (by simp[e1]),ij (s.iH+(s.params.length:Int)) aC,ai 73 (s.ic != (s.iH+(s.params.length:Int))) (by simp[e2]),tF 79 (4<(s.params.length:Int)) aC,.c (WD 62 s.params (λi=>akv _ (g.params i)) aC:gQ 22 [mq s.params,.fn 62 []] _)]<|rQ (bP (!(!(Gr s)))) (bP (Gr s)) (jT aH)) 
def akC(s:lP)(g:s.ko)(sm:s.wj):gQ 24 [od s] (bP (rC s)):=by
 by_cases c1:0<=s.ic/\s.ic<=8/\s.gS.length<=200/\s.iu.length<=200
 rotate_left
 .rw [show rC s=false by unfold rC;rw[a7 c1];rfl];exact akx s g sm c1
 obtain⟨i0,i8,l1,l2⟩:=c1;by_cases c2:Xb s=true
 rotate_left
 .rw [show rC s=false by unfold rC;rw[aV c2];simp];obtain⟨N,n1,n2,n3⟩:=Zo c2;exact aky s g sm i0 i8 l1 l2 N n1 (λk hk=>by simpa using n3 k hk) (by simpa using n2)
 have jG:∀ k,k<s.gS.length->mQ (s.gS.getD k nQ) (s.ic+(k:Int))=true:=λk hk=>bN.1 c2 k (bW.2 hk)
 cases hu:zg s with
 |false=>
  rw[show rC s=false by unfold rC;rw[hu];simp];exact akz s g sm i0 i8 l1 l2 jG hu
 |true=>
  by_cases c3:1<=s.iH/\s.iH<=4/\(s.iu.length:Int)=s.iH/\s.ic=s.iH+(s.params.length:Int)/\s.params.length<=4
  .rw [show rC s=Gr s by unfold rC;rw[a6 (⟨i0,i8,l1,l2⟩:_/\_),c2,hu,a6 c3];simp];obtain⟨s1,s4,e1,e2,p4⟩:=c3;exact akB s g sm i0 i8 l1 l2 jG hu s1 s4 e1 e2 p4
  .rw [show rC s=false by unfold rC;rw[a7 c3];simp];exact akA s g sm i0 i8 l1 l2 jG hu c3
structure nd where
 method:Int
 order:Int
 kO:Int
 step:RD
 j9:Int
 lW:Int
structure nd.ko(c:nd):Prop where
 method:kP .i64 c.method
 order:kP .i64 c.order
 kO:kP .i64 c.kO
 step:c.step.ko
 j9:kP .i64 c.j9
 lW:kP .i64 c.lW
def Ov(c:nd):List E:=[iP c.method,iP c.order,iP c.kO,bP c.step.neg,gV c.step.L,iP c.step.e,iP c.j9,iP c.lW]
def y9(c:nd):E:=.agg (Ov c)
def WO{c:nd}(h:c.step.Ok)(g:c.step.ko):y9 c = .agg [iP c.method,iP c.order,iP c.kO,bP c.step.dy.neg,gV (gR c.step.dy.m),iP c.step.dy.e,iP c.j9,iP c.lW]:=by
 have e:gR c.step.dy.m=c.step.L:=congrArg RD.L (h.eq g);rw[e];rfl
noncomputable def N6(d:RD):Bool:=@decide d.Ok (Classical.propDecidable _)
def N7{d:RD}:N6 d=true↔d.Ok:=@gz _ (Classical.propDecidable _)
noncomputable def jK(c:nd):Bool:=decide (1<=c.method/\c.method<=3)&&decide (1<=c.order/\c.order<=15/\8<=c.kO/\c.kO<=256/\0<=c.j9/\c.j9<=200/\1<=c.lW/\c.lW<=1000)
 && (N6 c.step&&decide (0<c.step.dy.iJ)&&decide (iN c.step.dy (jy 20)<=0))
def akV:(jy 20).gX:=GI aE aE 
def QX{c:nd}(h:¬(1<=c.method/\c.method<=3)):jK c=false:=by unfold jK;rw[a7 h];rfl
def lJ{c:nd}(h:¬(1<=c.order/\c.order<=15/\8<=c.kO/\c.kO<=256/\0<=c.j9/\c.j9<=200/\1<=c.lW/\c.lW<=1000)):jK c=false:=by unfold jK;rw[a7 h,Bool.and_false];rfl
def Le{c:nd}(h:¬c.step.Ok):jK c=false:=by
 have:N6 c.step=false:=aV λq=>h (N7.1 q)
 unfold jK;rw[this];simp
def Bo{c:nd}(h1:1<=c.method/\c.method<=3)(h2:1<=c.order/\c.order<=15/\8<=c.kO/\c.kO<=256/\0<=c.j9/\c.j9<=200/\1<=c.lW/\c.lW<=1000)(h3:c.step.Ok):jK c=(decide (0<c.step.dy.iJ)&&decide (iN c.step.dy (jy 20)<=0)):=by
 unfold jK;rw[a6 h1,a6 h2,N7.2 h3];rfl
def Hu{c:nd}(h:jK c=true):(1<=c.method/\c.method<=3)/\(1<=c.order/\c.order<=15/\8<=c.kO/\c.kO<=256/\0<=c.j9/\c.j9<=200/\1<=c.lW/\c.lW<=1000)/\c.step.Ok/\0<c.step.dy.iJ/\iN c.step.dy (jy 20)<=0:=by
 unfold jK at h;simp only[bE,b9,N7]at h;exact⟨h.1.1,h.1.2,h.2.1.1,h.2.1.2,h.2.2⟩
def abU(c:nd)(g:c.ko)(hd:¬c.step.Ok):gQ 54 [.agg [iP c.method,iP c.order,iP c.kO,bP c.step.neg,gV c.step.L,iP c.step.e,iP c.j9,iP c.lW]] (bP (jK c)):=by
 have gs:=g.step;exact ak call54 func54 (.w (c.method=1)
  (λk1=>ae [tB 5 (aW k1)]<|.w (c.order<1)
   (λk2=>ae [tB 18 (a6 k2)]<|rQ (bP false) (bP (jK c)) (jT (lJ aC).symm))
   (λk2=>ae [tB 18 (a7 k2)]<|.w (15<c.order)
    (λk3=>ae [tB 22 (a6 k3)]<|rQ (bP false) (bP (jK c)) (jT (lJ aC).symm))
    (λk3=>ae [tB 22 (a7 k3)]<|.w (c.kO<8)
     (λk4=>ae [tB 27 (a6 k4)]<|rQ (bP false) (bP (jK c)) (jT (lJ aC).symm))
     (λk4=>ae [tB 27 (a7 k4)]<|.w (256<c.kO)
      (λk5=>ae [tB 32 (a6 k5)]<|rQ (bP false) (bP (jK c)) (jT (lJ aC).symm))
      (λk5=>ae [tB 32 (a7 k5)]<|.w (c.j9<0)
       (λk6=>ae [tB 37 (a6 k6)]<|rQ (bP false) (bP (jK c)) (jT (lJ aC).symm))
       (λk6=>ae [tB 37 (a7 k6)]<|.w (200<c.j9)
        (λk7=>ae [tB 42 (a6 k7)]<|rQ (bP false) (bP (jK c)) (jT (lJ aC).symm))
        (λk7=>ae [tB 42 (a7 k7)]<|.w (c.lW<1)
         (λk8=>ae [tB 47 (a6 k8)]<|rQ (bP false) (bP (jK c)) (jT (lJ aC).symm))
         (λk8=>ae [tB 47 (a7 k8)]<|.w (1000<c.lW)
          (λk9=>ae [tB 52 (a6 k9)]<|rQ (bP false) (bP (jK c)) (jT (lJ aC).symm))
          (λk9=>ae [tB 52 (a7 k9),ag [sM c.step] (yj _ gs false (by simp[hd]))]<|rQ (bP false) (bP (jK c)) (jT (Le hd).symm))))))))))
  (λk1=>ae [tB 5 (aX k1)]<|.w (c.method=2)
   (λk2=>ae [tB 9 (aW k2)]<|.w (c.order<1)
    (λk3=>ae [tB 18 (a6 k3)]<|rQ (bP false) (bP (jK c)) (jT (lJ aC).symm))
    (λk3=>ae [tB 18 (a7 k3)]<|.w (15<c.order)
     (λk4=>ae [tB 22 (a6 k4)]<|rQ (bP false) (bP (jK c)) (jT (lJ aC).symm))
     (λk4=>ae [tB 22 (a7 k4)]<|.w (c.kO<8)
      (λk5=>ae [tB 27 (a6 k5)]<|rQ (bP false) (bP (jK c)) (jT (lJ aC).symm))
      (λk5=>ae [tB 27 (a7 k5)]<|.w (256<c.kO)
       (λk6=>ae [tB 32 (a6 k6)]<|rQ (bP false) (bP (jK c)) (jT (lJ aC).symm))
       (λk6=>ae [tB 32 (a7 k6)]<|.w (c.j9<0)
        (λk7=>ae [tB 37 (a6 k7)]<|rQ (bP false) (bP (jK c)) (jT (lJ aC).symm))
        (λk7=>ae [tB 37 (a7 k7)]<|.w (200<c.j9)
         (λk8=>ae [tB 42 (a6 k8)]<|rQ (bP false) (bP (jK c)) (jT (lJ aC).symm))
         (λk8=>ae [tB 42 (a7 k8)]<|.w (c.lW<1)
          (λk9=>ae [tB 47 (a6 k9)]<|rQ (bP false) (bP (jK c)) (jT (lJ aC).symm))
          (λk9=>ae [tB 47 (a7 k9)]<|.w (1000<c.lW)
           (λk10=>ae [tB 52 (a6 k10)]<|rQ (bP false) (bP (jK c)) (jT (lJ aC).symm))
           (λk10=>ae [tB 52 (a7 k10),ag [sM c.step] (yj _ gs false (by simp[hd]))]<|rQ (bP false) (bP (jK c)) (jT (Le hd).symm))))))))))
   (λk2=>ae [tB 9 (aX k2)]<|.w (c.method=3)
    (λk3=>ae [tB 14 (aW k3)]<|.w (c.order<1)
     (λk4=>ae [tB 18 (a6 k4)]<|rQ (bP false) (bP (jK c)) (jT (lJ aC).symm))
     (λk4=>ae [tB 18 (a7 k4)]<|.w (15<c.order)
      (λk5=>ae [tB 22 (a6 k5)]<|rQ (bP false) (bP (jK c)) (jT (lJ aC).symm))
      (λk5=>ae [tB 22 (a7 k5)]<|.w (c.kO<8)
       (λk6=>ae [tB 27 (a6 k6)]<|rQ (bP false) (bP (jK c)) (jT (lJ aC).symm))
       (λk6=>ae [tB 27 (a7 k6)]<|.w (256<c.kO)
        (λk7=>ae [tB 32 (a6 k7)]<|rQ (bP false) (bP (jK c)) (jT (lJ aC).symm))
        (λk7=>ae [tB 32 (a7 k7)]<|.w (c.j9<0)
         (λk8=>ae [tB 37 (a6 k8)]<|rQ (bP false) (bP (jK c)) (jT (lJ aC).symm))
         (λk8=>ae [tB 37 (a7 k8)]<|.w (200<c.j9)
          (λk9=>ae [tB 42 (a6 k9)]<|rQ (bP false) (bP (jK c)) (jT (lJ aC).symm))
          (λk9=>ae [tB 42 (a7 k9)]<|.w (c.lW<1)
           (λk10=>ae [tB 47 (a6 k10)]<|rQ (bP false) (bP (jK c)) (jT (lJ aC).symm))
           (λk10=>ae [tB 47 (a7 k10)]<|.w (1000<c.lW)
            (λk11=>ae [tB 52 (a6 k11)]<|rQ (bP false) (bP (jK c)) (jT (lJ aC).symm))
            (λk11=>ae [tB 52 (a7 k11),ag [sM c.step] (yj _ gs false (by simp[hd]))]<|rQ (bP false) (bP (jK c)) (jT (Le hd).symm))))))))))
    (λk3=>ae [tB 14 (aX k3)]<|rQ (bP false) (bP (jK c)) (jT (QX aC).symm))))) 
def abV(c:nd)(hd:c.step.Ok):gQ 54 [.agg ([iP c.method,iP c.order,iP c.kO]++iq c.step.dy++[iP c.j9,iP c.lW])] (bP (jK c)):=by
 have hv:=hd.valid;have h20:=akV;exact ak call54 func54 (.w (c.method=1)
  (λk1=>ae [tB 5 (aW k1)]<|.w (c.order<1)
   (λk2=>ae [tB 18 (a6 k2)]<|rQ (bP false) (bP (jK c)) (jT (lJ aC).symm))
   (λk2=>ae [tB 18 (a7 k2)]<|.w (15<c.order)
    (λk3=>ae [tB 22 (a6 k3)]<|rQ (bP false) (bP (jK c)) (jT (lJ aC).symm))
    (λk3=>ae [tB 22 (a7 k3)]<|.w (c.kO<8)
     (λk4=>ae [tB 27 (a6 k4)]<|rQ (bP false) (bP (jK c)) (jT (lJ aC).symm))
     (λk4=>ae [tB 27 (a7 k4)]<|.w (256<c.kO)
      (λk5=>ae [tB 32 (a6 k5)]<|rQ (bP false) (bP (jK c)) (jT (lJ aC).symm))
      (λk5=>ae [tB 32 (a7 k5)]<|.w (c.j9<0)
       (λk6=>ae [tB 37 (a6 k6)]<|rQ (bP false) (bP (jK c)) (jT (lJ aC).symm))
       (λk6=>ae [tB 37 (a7 k6)]<|.w (200<c.j9)
        (λk7=>ae [tB 42 (a6 k7)]<|rQ (bP false) (bP (jK c)) (jT (lJ aC).symm))
        (λk7=>ae [tB 42 (a7 k7)]<|.w (c.lW<1)
         (λk8=>ae [tB 47 (a6 k8)]<|rQ (bP false) (bP (jK c)) (jT (lJ aC).symm))
         (λk8=>ae [tB 47 (a7 k8)]<|.w (1000<c.lW)
          (λk9=>ae [tB 52 (a6 k9)]<|rQ (bP false) (bP (jK c)) (jT (lJ aC).symm))
          (λk9=>ae [tB 52 (a7 k9),ag [gU c.step.dy] (mZ _ aD),ag [gU c.step.dy] (mJ _ aD)]<|.w (0<(Dy.iJ c.step.dy))
           (λk10=>ae [tB 61 (a6 k10),.c (pW 20),ag [gU c.step.dy,gU (jy 20)] (kH _ _ aD aD)]<|rQ (bP (decide ((iN c.step.dy (jy 20))<=0))) (bP (jK c)) (jT (by rw[Bo ⟨aC,aC⟩ ⟨aC,aC,aC,aC,aC,aC,aC,aC⟩ hd];simp[k10])))
           (λk10=>ae [tB 61 (a7 k10)]<|rQ (bP false) (bP (jK c)) (jT (by rw[Bo ⟨aC,aC⟩ ⟨aC,aC,aC,aC,aC,aC,aC,aC⟩ hd];simp[k10]))))))))))))
  (λk1=>ae [tB 5 (aX k1)]<|.w (c.method=2)
   (λk2=>ae [tB 9 (aW k2)]<|.w (c.order<1)
    (λk3=>ae [tB 18 (a6 k3)]<|rQ (bP false) (bP (jK c)) (jT (lJ aC).symm))
    (λk3=>ae [tB 18 (a7 k3)]<|.w (15<c.order)
     (λk4=>ae [tB 22 (a6 k4)]<|rQ (bP false) (bP (jK c)) (jT (lJ aC).symm))
     (λk4=>ae [tB 22 (a7 k4)]<|.w (c.kO<8)
      (λk5=>ae [tB 27 (a6 k5)]<|rQ (bP false) (bP (jK c)) (jT (lJ aC).symm))
      (λk5=>ae [tB 27 (a7 k5)]<|.w (256<c.kO)
       (λk6=>ae [tB 32 (a6 k6)]<|rQ (bP false) (bP (jK c)) (jT (lJ aC).symm))
       (λk6=>ae [tB 32 (a7 k6)]<|.w (c.j9<0)
        (λk7=>ae [tB 37 (a6 k7)]<|rQ (bP false) (bP (jK c)) (jT (lJ aC).symm))
        (λk7=>ae [tB 37 (a7 k7)]<|.w (200<c.j9)
         (λk8=>ae [tB 42 (a6 k8)]<|rQ (bP false) (bP (jK c)) (jT (lJ aC).symm))
         (λk8=>ae [tB 42 (a7 k8)]<|.w (c.lW<1)
          (λk9=>ae [tB 47 (a6 k9)]<|rQ (bP false) (bP (jK c)) (jT (lJ aC).symm))
          (λk9=>ae [tB 47 (a7 k9)]<|.w (1000<c.lW)
           (λk10=>ae [tB 52 (a6 k10)]<|rQ (bP false) (bP (jK c)) (jT (lJ aC).symm))
           (λk10=>ae [tB 52 (a7 k10),ag [gU c.step.dy] (mZ _ aD),ag [gU c.step.dy] (mJ _ aD)]<|.w (0<(Dy.iJ c.step.dy))
            (λk11=>ae [tB 61 (a6 k11),.c (pW 20),ag [gU c.step.dy,gU (jy 20)] (kH _ _ aD aD)]<|rQ (bP (decide ((iN c.step.dy (jy 20))<=0))) (bP (jK c)) (jT (by rw[Bo ⟨aC,aC⟩ ⟨aC,aC,aC,aC,aC,aC,aC,aC⟩ hd];simp[k11])))
            (λk11=>ae [tB 61 (a7 k11)]<|rQ (bP false) (bP (jK c)) (jT (by rw[Bo ⟨aC,aC⟩ ⟨aC,aC,aC,aC,aC,aC,aC,aC⟩ hd];simp[k11]))))))))))))
   (λk2=>ae [tB 9 (aX k2)]<|.w (c.method=3)
    (λk3=>ae [tB 14 (aW k3)]<|.w (c.order<1)
     (λk4=>ae [tB 18 (a6 k4)]<|rQ (bP false) (bP (jK c)) (jT (lJ aC).symm))
     (λk4=>ae [tB 18 (a7 k4)]<|.w (15<c.order)
      (λk5=>ae [tB 22 (a6 k5)]<|rQ (bP false) (bP (jK c)) (jT (lJ aC).symm))
      (λk5=>ae [tB 22 (a7 k5)]<|.w (c.kO<8)
       (λk6=>ae [tB 27 (a6 k6)]<|rQ (bP false) (bP (jK c)) (jT (lJ aC).symm))
       (λk6=>ae [tB 27 (a7 k6)]<|.w (256<c.kO)
        (λk7=>ae [tB 32 (a6 k7)]<|rQ (bP false) (bP (jK c)) (jT (lJ aC).symm))
        (λk7=>ae [tB 32 (a7 k7)]<|.w (c.j9<0)
         (λk8=>ae [tB 37 (a6 k8)]<|rQ (bP false) (bP (jK c)) (jT (lJ aC).symm))
         (λk8=>ae [tB 37 (a7 k8)]<|.w (200<c.j9)
          (λk9=>ae [tB 42 (a6 k9)]<|rQ (bP false) (bP (jK c)) (jT (lJ aC).symm))
          (λk9=>ae [tB 42 (a7 k9)]<|.w (c.lW<1)
           (λk10=>ae [tB 47 (a6 k10)]<|rQ (bP false) (bP (jK c)) (jT (lJ aC).symm))
           (λk10=>ae [tB 47 (a7 k10)]<|.w (1000<c.lW)
            (λk11=>ae [tB 52 (a6 k11)]<|rQ (bP false) (bP (jK c)) (jT (lJ aC).symm))
            (λk11=>ae [tB 52 (a7 k11),ag [gU c.step.dy] (mZ _ aD),ag [gU c.step.dy] (mJ _ aD)]<|.w (0<(Dy.iJ c.step.dy))
             (λk12=>ae [tB 61 (a6 k12),.c (pW 20),ag [gU c.step.dy,gU (jy 20)] (kH _ _ aD aD)]<|rQ (bP (decide ((iN c.step.dy (jy 20))<=0))) (bP (jK c)) (jT (by rw[Bo ⟨aC,aC⟩ ⟨aC,aC,aC,aC,aC,aC,aC,aC⟩ hd];simp[k12])))
             (λk12=>ae [tB 61 (a7 k12)]<|rQ (bP false) (bP (jK c)) (jT (by rw[Bo ⟨aC,aC⟩ ⟨aC,aC,aC,aC,aC,aC,aC,aC⟩ hd];simp[k12]))))))))))))
    (λk3=>ae [tB 14 (aX k3)]<|rQ (bP false) (bP (jK c)) (jT (QX aC).symm))))) 
def QW(c:nd)(g:c.ko):gQ 54 [y9 c] (bP (jK c)):=by
 by_cases hd:c.step.Ok
 .rw [WO hd g.step];exact abV c hd
 .exact abU c g hd
def xN(c:nd):Int:=if 2+Int.tdiv c.j9 4<c.order then 2+Int.tdiv c.j9 4 else c.order
def WB{c:nd}(h:jK c=true):1<=xN c/\xN c<=15/\xN c<=c.order:=by
 obtain⟨_,⟨q1,q2,q3,q4,q5,q6,_⟩,_⟩:=Hu h;have qt:Int.tdiv c.j9 4=c.j9/4:=gn q5;unfold xN;rw[qt];split<;>omega
def QV(c:nd)(g:c.ko)(hb:jK c=false):gQ 18 [.agg [iP c.method,iP c.order,iP c.kO,bP c.step.neg,gV c.step.L,iP c.step.e,iP c.j9,iP c.lW]] (.ie [iP 0,iP 1]):=
 ak call18 func18 (af [ag [.agg [iP c.method,iP c.order,iP c.kO,bP c.step.neg,gV c.step.L,iP c.step.e,iP c.j9,iP c.lW]] (QW c g),ah 6 (!(jK c)) (by rw[hb];rfl)]) 
def Ld(c:nd)(g:c.ko)(hb:jK c=true):gQ 18 [.agg [iP c.method,iP c.order,iP c.kO,bP c.step.neg,gV c.step.L,iP c.step.e,iP c.j9,iP c.lW]] (.ie [iP (xN c),iP 0]):=by
 obtain⟨_,⟨q1,q2,q3,q4,q5,q6,_⟩,_⟩:=Hu hb;have qt:Int.tdiv c.j9 4=c.j9/4:=gn q5;exact ak call18 func18 (ae [ag [.agg [iP c.method,iP c.order,iP c.kO,bP c.step.neg,gV c.step.L,iP c.step.e,iP c.j9,iP c.lW]] (QW c g),ai 6 (!(jK c)) (by rw[hb];rfl),.a (aC:0<(4:Int)),
  ij (c.j9) aC,ij (2+(Int.tdiv c.j9 4)) aC]<|rR (.ie [iP (xN c),iP 0]) (.iL rfl:E.le (.ie [iP (if(2+(Int.tdiv c.j9 4))<c.order then(2+(Int.tdiv c.j9 4))else c.order),iP 0]) (.ie [iP (xN c),iP 0]))) 
def abT(c:nd)(g:c.ko):gQ 18 [y9 c] (if jK c=true then .ie [iP (xN c),iP 0]else .ie [iP 0,iP 1]):=by
 by_cases hb:jK c=true
 .rw [aZ hb];exact Ld c g hb
 .rw [aY hb];exact QV c g (aV hb)
def aay(x:RI)(g:x.ko):gQ 63 [wX x] (bP (!pH x)):=
 ak call63 func63 (.w (x.all=true)
  (λk1=>ae [tB 4 k1]<|rQ (bP true) (bP (!pH x)) (jT (by unfold pH;simp_all)))
  (λk1=>ae [tB 4 (aV k1),ag [wX x] (afY _ g)]<|rQ (bP (!(y5 x))) (bP (!pH x)) (jT (by unfold pH;simp_all)))) 
noncomputable def tG(b:List RI):Bool:=decide (1<=b.length/\b.length<=8)&&(List.range b.length).all λi=>pH (b.getD i nK)
def aaz(b:List RI)(gb:∀ i,(b.getD i nK).ko)(Ai:b.length<=1000):gQ 25 [mq b] (bP (tG b)):=
 ak call25 func25 (.w (1<=(b.length:Int))
  (λk1=>ae [tB 5 (a6 k1)]<|.w ((b.length:Int)<=8)
   (λk2=>ae [tB 9 (a6 k2),.c (WD 63 b (λi=>aay _ (gb i)) Ai:gQ 22 [mq b,.fn 63 []] _)]<|rQ (bP (!(!((List.range b.length).all λi=>pH (b.getD i nK))))) (bP (tG b)) (jT aR))
   (λk2=>ae [tB 9 (a7 k2)]<|rQ (bP false) (bP (tG b)) (jT aR)))
  (λk1=>ae [tB 5 (a7 k1)]<|rQ (bP false) (bP (tG b)) (jT aR))) 
def DC(n e:Int)(h1:n.natAbs<4294967296)(h2:-1000<=e)(h3:e<=1000):gQ 19 [iP n,iP e] (gU (jS n e)):=by
 have hrg:mv (canon (Dy.neg (iR n)) (Dy.m (iR n)) ((Dy.e (iR n))+e)):=by rw[QN];exact(Bl h1 h2 h3).range
 exact ak call19 func19 (ae [ag [iP n] (aiI _ aC),ag [gU (iR n),iP e] (aiM _ _ (sE aC) aC aC hrg)]<|rQ (gU (canon (Dy.neg (iR n)) (Dy.m (iR n)) ((Dy.e (iR n))+e))) (gU (jS n e)) (by rw[QN])) 
def RM{a b:Dy}(h1:a.neg=b.neg)(h2:a.m=b.m)(h3:a.e=b.e):a=b:=by
 cases a;cases b;simp_all
def Nl:(jS 1 0).gX:=Bl aE aE aE 
def agk:(jS 13 (-1)).gX:=Bl aE aE aE 
def kz3:(jS 3 (-1)).gX:=Bl aE aE aE 
def Va:(jS 6 0).gX:=Bl aE aE aE 
def U9:(jS 3 (-2)).gX:=Bl aE aE aE 
def K1:nd:=⟨1,15,53,(jS 1 0).raw,30,9⟩
def aaU:K1.ko:=⟨⟨aE,aE⟩,⟨aE,aE⟩,⟨aE,aE⟩,Nl.Iz,⟨aE,aE⟩,⟨aE,aE⟩⟩
def aaW:jK K1=true:=by
 rw[Bo ⟨aE,aE⟩ ⟨aE,aE,aE,aE,aE,aE,aE,aE⟩ Nl.JL];show(decide (0<(jS 1 0).raw.dy.iJ)&&decide (iN (jS 1 0).raw.dy (jy 20)<=0))=true;rw[Dy.Ou];decide +kernel
def aaV:gQ 18 [.agg [iP 1,iP 15,iP 53,bP (jS 1 0).neg,gV (gR (jS 1 0).m),iP (jS 1 0).e,iP 30,iP 9]] (.ie [iP 9,iP 0]):=by
 have:=abT K1 aaU;rw[aZ aaW]at this;exact this
def agf:gQ 15 [gU (jS 13 (-1))] (.ie [gU (jS 6 0),bP true]):=by
 have:=K3 (jS 13 (-1)) agk aL;rwa[show rA (jS 13 (-1)).m (jS 13 (-1)).e=jS 6 0 from RM aL aL aL]at this
def age : gQ 20 [gU (jS 1 0),gU (jS 3 (-1))] (.ie [gU (jS 3 (-2)),iP 0]):=by
 have v1:=Nl;have v3:=kz3;have vs:(jm (canon (jS 1 0).neg (jS 1 0).m ((jS 1 0).e+1))).gX:=EA (ri _ _ _);exact ak call20 func20 (ae [ag [gU (jS 1 0)] (mZ _ aD),ag [gU (jS 3 (-1))] (mZ _ aD),ag [gU (jS 1 0)] (mJ _ aD),ai 21 (decide ((Dy.iJ (jS 1 0))<=0)) aL,ag [gU (jS 3 (-1))] (mJ _ aD),ai 26 (decide ((Dy.iJ (jS 3 (-1)))<=0)) aL,ag [gU (jS 3 (-1)),gU (jS 1 0)] (kH _ _ aD aD),ai 32 (decide ((iN (jS 3 (-1)) (jS 1 0))<=0)) aL,.c (CU (jS 1 0) 1 aD aC aC),ah 41 ((kg (canon (jS 1 0).neg (jS 1 0).m ((jS 1 0).e+1)))==0) aL,ag [gU (jS 3 (-1)),gU (jm (canon (jS 1 0).neg (jS 1 0).m ((jS 1 0).e+1)))] (kH _ _ aD aD),ai 46 (decide (0<=(iN (jS 3 (-1)) (jm (canon (jS 1 0).neg (jS 1 0).m ((jS 1 0).e+1)))))) aL,.c (CU (jS 3 (-1)) (-1) aD aC aC),ai 56 ((kg (canon (jS 3 (-1)).neg (jS 3 (-1)).m ((jS 3 (-1)).e+(-1)))) != 0) aL]<|rQ (.ie [gU (jm (canon (jS 3 (-1)).neg (jS 3 (-1)).m ((jS 3 (-1)).e+(-1)))),iP 0]) (.ie [gU (jS 3 (-2)),iP 0]) (by rw[show jm (canon (jS 3 (-1)).neg (jS 3 (-1)).m ((jS 3 (-1)).e+(-1)))=jS 3 (-2)from RM aL aL aL])) 
def FK : gQ 6 [] (bP true):=
 ak call6 func6 (af [.c (DC 1 0 aE aE aE),ag [.agg ([iP 1,iP 15,iP 53]++iq (jS 1 0)++[iP 30,iP 9])] aaV,.c (DC 13 (-1) aE aE aE),ag [gU (jS 13 (-1))] agf,.c (DC 1 0 aE aE aE),.c (DC 3 (-1) aE aE aE),.c age,ah 25 ((9:Int)==9) aE,ah 28 ((0:Int)==0) aE,.c (DC 6 0 aE aE aE),.c (OE _ _ true ⟨λ_=>rfl,λ_=>rfl⟩ (by have:=Va.gR;omega) (by have:=Va.gR;omega):gQ 14 [gU (jS 6 0),gU (jS 6 0)] _),ah 40 ((0:Int)==0) aE,.c (DC 3 (-2) aE aE aE),.c (OE _ _ true ⟨λ_=>rfl,λ_=>rfl⟩ (by have:=U9.gR;omega) (by have:=U9.gR;omega):gQ 14 [gU (jS 3 (-2)),gU (jS 3 (-2))] _)]) 
def FP(d:RD):Bool:=decide (300<d.L.length)
def CH(x:RI):Bool:=decide (10<x.lo.L.length)||decide (10<x.hi.L.length)
def Em(l:List RI):Bool:=(List.range l.length).any λi=>CH (l.getD i nK)
def oj(s:lP)(x:List RI)(c:nd):Bool:=decide (x.length<=4)&&(decide (s.gS.length<=60)&&(decide (s.params.length<=4)&&(!Em x&&(!Em s.params&&(!FP c.step&&(decide (24<=c.kO)&&(decide (c.kO<=64)&&decide (c.step.L.length<=4))))))))
def aj4{s:lP}{x:List RI}{c:nd}(h:oj s x c=true):x.length<=4/\s.wj/\24<=c.kO/\c.kO<=64/\c.step.L.length<=4:=by
 unfold oj at h;simp only[bE,b9]at h;exact⟨h.1,⟨aC,aC⟩,h.2.2.2.2.2.2.1,h.2.2.2.2.2.2.2.1,h.2.2.2.2.2.2.2.2⟩
def agc(d:RD):gQ 23 [sM d] (bP (FP d)):=
 ak call23 func23 (rQ (bP (decide (300<(d.L.length:Int)))) (bP (FP d)) (jT (by unfold FP;rw[dz,b9,b9];omega))) 
def agd(x:RI):gQ 21 [wX x] (bP (CH x)):=
 ak call21 func21 (.w (10<(x.lo.L.length:Int))
  (λk1=>ae [tB 7 (a6 k1)]<|rQ (bP true) (bP (CH x)) (jT (by unfold CH;rw[dz];simp;omega)))
  (λk1=>ae [tB 7 (a7 k1)]<|rQ (bP (decide (10<(x.hi.L.length:Int)))) (bP (CH x)) (jT (by unfold CH;rw[dz];simp;omega)))) 
def U8(l:List RI)(hl:l.length<=1000):gQ 22 [mq l,.fn 21 []] (bP (Em l)):=
 Ni true l.length (λi j=>(ze (l.getD i nK)).getD j .any) 21 [] (λi=>CH (l.getD i nK)) (λi _=>agd _) aC 
def Jq(s:lP)(x:List RI)(c:nd):gQ 7 [od s,mq x,.agg [iP c.method,iP c.order,iP c.kO,bP c.step.neg,gV c.step.L,iP c.step.e,iP c.j9,iP c.lW]] (bP (oj s x c)):=
 ak call7 func7 (.w ((x.length:Int)<=4)
  (λk1=>ae [tB 10 (a6 k1)]<|.w ((s.gS.length:Int)<=60)
   (λk2=>ae [tB 16 (a6 k2)]<|.w ((s.params.length:Int)<=4)
    (λk3=>ae [tB 22 (a6 k3),ag [mq x,.fn 21 []] (U8 _ aC)]<|.w (Em x=true)
     (λk4=>ae [tB 27 k4]<|rQ (bP false) (bP (oj s x c)) (jT (by unfold oj;simp[(aC:x.length<=4),(aC:s.gS.length<=60),(aC:s.params.length<=4),k4]<;>omega)))
     (λk4=>ae [tB 27 (aV k4),ag [mq s.params,.fn 21 []] (U8 _ aC)]<|.w (Em s.params=true)
      (λk5=>ae [tB 34 k5]<|rQ (bP false) (bP (oj s x c)) (jT (by unfold oj;simp[(aC:x.length<=4),(aC:s.gS.length<=60),(aC:s.params.length<=4),k4,k5]<;>omega)))
      (λk5=>ae [tB 34 (aV k5),.c (agc c.step)]<|.w (FP c.step=true)
       (λk6=>ae [tB 40 k6]<|rQ (bP false) (bP (oj s x c)) (jT (by unfold oj;simp[(aC:x.length<=4),(aC:s.gS.length<=60),(aC:s.params.length<=4),k4,k5,k6]<;>omega)))
       (λk6=>ae [tB 40 (aV k6)]<|.w (24<=c.kO)
        (λk7=>ae [tB 46 (a6 k7)]<|.w (c.kO<=64)
         (λk8=>ae [tB 51 (a6 k8)]<|rQ (bP (decide ((c.step.L.length:Int)<=4))) (bP (oj s x c)) (jT (by unfold oj;simp[(aC:x.length<=4),(aC:s.gS.length<=60),(aC:s.params.length<=4),k4,k5,k6,k7,k8]<;>omega)))
         (λk8=>ae [tB 51 (a7 k8)]<|rQ (bP false) (bP (oj s x c)) (jT (by unfold oj;simp[(aC:x.length<=4),(aC:s.gS.length<=60),(aC:s.params.length<=4),k4,k5,k6,k7,k8]<;>omega))))
        (λk7=>ae [tB 46 (a7 k7)]<|rQ (bP false) (bP (oj s x c)) (jT (by unfold oj;simp[(aC:x.length<=4),(aC:s.gS.length<=60),(aC:s.params.length<=4),k4,k5,k6,k7]<;>omega)))))))
    (λk3=>ae [tB 22 (a7 k3)]<|rQ (bP false) (bP (oj s x c)) (jT (by unfold oj;simp[(aC:x.length<=4),(aC:s.gS.length<=60),(aC:¬s.params.length<=4)]<;>omega))))
   (λk2=>ae [tB 16 (a7 k2)]<|rQ (bP false) (bP (oj s x c)) (jT (by unfold oj;simp[(aC:x.length<=4),(aC:¬s.gS.length<=60)]<;>omega))))
  (λk1=>ae [tB 10 (a7 k1)]<|rQ (bP false) (bP (oj s x c)) (jT (by unfold oj;simp[(aC:¬x.length<=4)]<;>omega)))) 
def abX(s:lP)(g:s.ko)(sm:s.wj)(x:List RI)(gx:∀ i,(x.getD i nK).ko)(mN:x.length<=1000)(c:nd)(gc:c.ko)(hb:jK c=false):gQ 8 [od s,mq x,.agg [iP c.method,iP c.order,iP c.kO,bP c.step.neg,gV c.step.L,iP c.step.e,iP c.j9,iP c.lW]] (.ie [gU il,iP 1]):=
 ak call8 func8 (af [.c (QV c gc hb),ah 21 ((1:Int) != 0) aE,.o 39 (.e qH:aj (.agg ar) (gU il))]) 
def abY(s:lP)(g:s.ko)(sm:s.wj)(x:List RI)(gx:∀ i,(x.getD i nK).ko)(mN:x.length<=1000)(c:nd)(gc:c.ko)(hb:jK c=true)(hn:¬(rC s=true/\tG x=true/\(x.length:Int)=s.iH)):gQ 8 [od s,mq x,.agg [iP c.method,iP c.order,iP c.kO,bP c.step.neg,gV c.step.L,iP c.step.e,iP c.j9,iP c.lW]] (.ie [gU il,iP 1]):=
 ak call8 func8 (ae [.c (Ld c gc hb),ai 21 ((0:Int) != 0) aE,ag [od s] (akC _ g sm)]<|.w (rC s=true)
  (λk1=>ae [tB 24 k1,.c (aaz x gx mN)]<|.w (tG x=true)
   (λk2=>ae [tB 29 k2]<|.w ((x.length:Int)=s.iH)
    (λk3=>.x (by exact absurd ⟨aD,aD,aD⟩ hn))
    (λk3=>af [tB 37 (aX k3),.o 39 (.e qH:aj (.agg ar) (gU il))]))
   (λk2=>af [tB 29 (aV k2),.o 39 (.e qH:aj (.agg ar) (gU il))]))
  (λk1=>af [tB 24 (aV k1),.o 39 (.e qH:aj (.agg ar) (gU il))])) 
def Rl{s:lP}(g:s.ko)(h1:rC s=true){x:List RI}(gx:∀ i,(x.getD i nK).ko)(h2:tG x=true)(h3:(x.length:Int)=s.iH):lH s.v/\kf s.v.iH (x.map RI.iv)/\od s=kQ s.v/\mq x=gY (x.map RI.iv):=by
 obtain⟨o1,o2⟩:=ajm g h1;unfold tG at h2;rw[bE,b9]at h2;obtain⟨_,b2⟩:=h2;have pa:∀ i,i<x.length->(x.getD i nK).Ok/\(x.getD i nK).all=false:=λi hi=>by
  have:=bN.1 b2 i (bW.2 hi);unfold pH at this;rw[bE]at this;exact⟨AI.1 this.1,by simpa using this.2⟩
 have mu:∀ i,i<x.length->(x.map RI.iv).getD i gT=(x.getD i nK).iv:=λi hi=>by simp[bd,hi]
 have s1:=o1.s1;refine⟨o1,⟨by rw[ca];show x.length=s.iH.toNat;omega,λi hi=>?_⟩,o2,?_⟩
 .have hi:i<x.length:=by simpa using hi
  rw[mu i hi];exact⟨(pa i hi).1.valid,(pa i hi).2⟩
 .rw [<-UU];congr 1;apply fI;intro i;unfold Cu;rw[cr,cr];by_cases hi:i<x.length
  .have h1:=(pa i hi).1;have g1:=gx i;rw[bt hi];rw[bd,bt hi]at h1 g1;exact congrArg some (RI.Ok.eq (x:=x[i]) h1 g1).symm
  .rw [b7 aC];rfl
def Py(s:lP)(x:List RI)(c:nd)(d:Dy)(p k t:Nat):Prop:=
 ∃ (o:Option Int) (j0:Int) (n1 n2:Nat),gQ 8 [od s,mq x,y9 c] (Q7 o)/\rA d.m d.e=nD j0/\(nD j0).q<=d.q/\j0<=72 /\
  KI (λj=>qO (vR s.v (x.map RI.iv) k p) (nD j) k (t:Int)) (λj=>(sX s.v (x.map RI.iv) (nD j) p).isSome) j0 n1 n2 /\
  (∀ j,o=some j->AF s.v (x.map RI.iv) k p=true/\GZ j0 n1 n2/\j=j0-n1-n2)/\(o=none->AF s.v (x.map RI.iv) k p=true->¬GZ j0 n1 n2)
def ab1(s:lP)(g:s.ko)(sm:s.wj)(x:List RI)(gx:∀ i,(x.getD i nK).ko)(mN:x.length<=1000)(c:nd)(gc:c.ko)(hn:¬(jK c=true/\rC s=true/\tG x=true/\(x.length:Int)=s.iH)):gQ 8 [od s,mq x,y9 c] (.ie [gU il,iP 1]):=by
 by_cases hb:jK c=true
 .exact abY s g sm x gx mN c gc hb λq=>hn ⟨hb,q⟩
 .exact abX s g sm x gx mN c gc (aV hb)
def ab2(s:lP)(g:s.ko)(sm:s.wj)(x:List RI)(gx:∀ i,(x.getD i nK).ko)(mN:x.length<=1000)(c:nd)(gc:c.ko)(hb:jK c=true)(h1:rC s=true)(h2:tG x=true)(h3:(x.length:Int)=s.iH){p k t:Nat}(hp:c.kO=(p:Int))(hk:xN c=(k:Int))(ht:c.j9=(t:Int)):
 Py s x c c.step.dy p k t:=by
 obtain⟨_,⟨q1,q2,q3,q4,q5,q6,q7,q8⟩,hd,hs,hc⟩:=Hu hb;obtain⟨k1,k2,_⟩:=WB hb;obtain⟨o1,o2,o3,o4⟩:=Rl g h1 gx h2 h3;have hO:=Ld c gc hb;have e:=WO hd gc.step;rw[show E.agg [iP c.method,iP c.order,iP c.kO,bP c.step.neg,gV c.step.L,iP c.step.e,iP c.j9,iP c.lW]=y9 c from rfl,e,hk,hp,ht]at hO;unfold Py;rw[o3,o4,e,hp,ht];exact aaN s.v (x.map RI.iv) c.step.dy c.method c.order c.lW p t k o1 o2 hd.valid hs aC aC aC aC hO hc
def adA(s:lP)(x:List RI)(c:nd)(hS:oj s x c=false):gQ 4 [od s,mq x,.agg [iP c.method,iP c.order,iP c.kO,bP c.step.neg,gV c.step.L,iP c.step.e,iP c.j9,iP c.lW]] (bP true):=
 ak call4 func4 (af [.c FK,.c (Jq s x c),ah 20 (!(oj s x c)) (by rw[hS];rfl),.c FK]) 
def adB(s:lP)(x:List RI)(c:nd)(hS:oj s x c=true)(hC:gQ 8 [od s,mq x,.agg [iP c.method,iP c.order,iP c.kO,bP c.step.neg,gV c.step.L,iP c.step.e,iP c.j9,iP c.lW]] (.ie [gU il,iP 1])):gQ 4 [od s,mq x,.agg [iP c.method,iP c.order,iP c.kO,bP c.step.neg,gV c.step.L,iP c.step.e,iP c.j9,iP c.lW]] (bP true):=
 ak call4 func4 (af [.c FK,.c (Jq s x c),ai 20 (!(oj s x c)) (by rw[hS];rfl),ag [od s,mq x,.agg [iP c.method,iP c.order,iP c.kO,bP c.step.neg,gV c.step.L,iP c.step.e,iP c.j9,iP c.lW]] hC,ah 31 ((1:Int) != 0) aE,ah 35 (((gR il.m).length:Int)==0) (r9 (tW.2 rfl)),ai 38 ((1:Int)==12) aE,ah 41 ((1:Int)==1) aE]) 
def adC(s:lP)(x:List RI)(c:nd)(hS:oj s x c=true)(hC:gQ 8 [od s,mq x,.agg [iP c.method,iP c.order,iP c.kO,bP c.step.neg,gV c.step.L,iP c.step.e,iP c.j9,iP c.lW]] (.ie [gU il,iP 12])):gQ 4 [od s,mq x,.agg [iP c.method,iP c.order,iP c.kO,bP c.step.neg,gV c.step.L,iP c.step.e,iP c.j9,iP c.lW]] (bP true):=
 ak call4 func4 (af [.c FK,.c (Jq s x c),ai 20 (!(oj s x c)) (by rw[hS];rfl),ag [od s,mq x,.agg [iP c.method,iP c.order,iP c.kO,bP c.step.neg,gV c.step.L,iP c.step.e,iP c.j9,iP c.lW]] hC,ah 31 ((12:Int) != 0) aE,ah 35 (((gR il.m).length:Int)==0) (r9 (tW.2 rfl)),ah 38 ((12:Int)==12) aE]) 
def adD(s:lP)(x:List RI)(c:nd)(hS:oj s x c=true)(j z:Int)(bx:List Iv)(hC:gQ 8 [od s,mq x,.agg [iP c.method,iP c.order,iP c.kO,bP c.step.neg,gV c.step.L,iP c.step.e,iP c.j9,iP c.lW]] (.ie [gU (nD j),iP 0]))(hv:(nD j).gX)(hN:gQ 15 [gU (nD j)] (.ie [gU (nD j),bP true]))(hE:gQ 13 [od s,mq x,gU (nD j),iP c.kO] (.ie [gY bx,iP 0]))(hK:gQ 16 [gU (nD j),sM c.step] (iP z))(hz:z<=0)(hH:gQ 17 [od s,mq x,gU (nD j),gY bx,iP c.kO] (bP true)):gQ 4 [od s,mq x,.agg [iP c.method,iP c.order,iP c.kO,bP c.step.neg,gV c.step.L,iP c.step.e,iP c.j9,iP c.lW]] (bP true):=
 ak call4 func4 (af [.c FK,.c (Jq s x c),ai 20 (!(oj s x c)) (by rw[hS];rfl),ag [od s,mq x,.agg [iP c.method,iP c.order,iP c.kO,bP c.step.neg,gV c.step.L,iP c.step.e,iP c.j9,iP c.lW]] hC,ai 31 ((0:Int) != 0) aE,ag [gU (nD j)] hN,ag [od s,mq x,gU (nD j),iP c.kO] hE,.c (OE _ _ true ⟨λ_=>rfl,λ_=>rfl⟩ (by have:=hv.gR;omega) (by have:=hv.gR;omega):gQ 14 [gU (nD j),gU (nD j)] _),ag [gU (nD j),sM c.step] hK,tT 69 (z<=0) aC,ah 73 ((0:Int)==0) aE,ag [od s,mq x,gU (nD j),gY bx,iP c.kO] hH]) 
def aeA{x:List RI}(gx0:∀ y,y ∈ x->y.ko)(i:Nat):(x.getD i nK).ko:=by
 rw[bd];by_cases h:i<x.length
 .rw [bt h];exact gx0 _ (cz h)
 .rw [b7 aC];exact Xl
def agl(s:lP)(x:List RI)(c:nd)(g:s.ko)(gx0:∀ y,y ∈ x->y.ko)(gc:c.ko):gQ 4 [od s,mq x,y9 c] (bP true):=by
 have gx:=aeA gx0;by_cases hS:oj s x c=true
 rotate_left
 .exact adA s x c (aV hS)
 obtain⟨mN,sm,r1,r2,_⟩:=aj4 hS;have mN:x.length<=1000:= aC ;by_cases hn:jK c=true/\rC s=true/\tG x=true/\(x.length:Int)=s.iH
 rotate_left
 .exact adB s x c hS (ab1 s g sm x gx mN c gc hn)
 obtain⟨hb,h1,h2,h3⟩:=hn;obtain⟨_,⟨q1,q2,q3,q4,q5,q6,q7,q8⟩,hd,hs,hc⟩:=Hu hb;obtain⟨k1,k2,_⟩:=WB hb;obtain⟨p,hp⟩:=eF (aC:0<=c.kO);obtain⟨k,hk⟩:=eF (aC:0<=xN c);obtain⟨t,ht⟩:=eF q5;obtain⟨o,j0,n1,n2,hC,e1,e2,e3,hL,hF,hG⟩:=ab2 s g sm x gx mN c gc hb h1 h2 h3 hp hk ht;obtain⟨o1,o2,o3,o4⟩:=Rl g h1 gx h2 h3;cases o with
 |none=>exact adC s x c hS hC
 |some j=>
  obtain⟨_,⟨f1,f2⟩,f3⟩:=hF j rfl;have hv:(nD j).gX:=uR aC aC;have hE:=(hL.e.resolve_left aC).resolve_left aC;rw[<-f3]at hE;obtain⟨bx,iU⟩:=fc.1 hE;have hN:=K3 (nD j) hv (yW j);rw[ahx]at hN;have TC:=RU s.v (x.map RI.iv) (nD j) p o1 o2 hv (yW j) aC aC iU;obtain⟨vy,wC⟩:=(Lu s.v (x.map RI.iv) (nD j) p o1 o2 hv (yW j) aC aC).2 bx iU;have hH:=Dp s.v (x.map RI.iv) (nD j) bx p o1 o2 hv (yW j) vy aC aC;rw[wC,<-o3,<-o4,<-hp]at hH;rw[<-o3,<-o4,<-hp]at TC;have hK:=kH (nD j) c.step.dy hv hd.valid;rw[<-acP c.step.dy,hd.eq gc.step]at hK;refine adD s x c hS j _ bx hC hv hN TC hK ?_ hH;rw[oO];exact bI (VY aC) e2
open Go.ChangeShapes Go.WideShapes Go.ChangeAt
def KH(W:World)(o:oJ)(cs:List Value):Prop:=o.ko/\cs.length=6/\∀ j,j<6->∃ v,cs[j]? = some v/\ix mI mI W ((zf o).getD j .any) v
def agB{α:Type}{l:List α}(h:l.length=2):∃ a b,l=[a,b]:=by
 rcases l with _|⟨a,_|⟨b,_|⟨c,l⟩⟩⟩<;>simp at h
 exact⟨a,b,rfl⟩
def agC{α:Type}{l:List α}(h:l.length=5):∃ a b c d e,l=[a,b,c,d,e]:=by
 rcases l with _|⟨a,_|⟨b,_|⟨c,_|⟨d,_|⟨e,_|⟨f,l⟩⟩⟩⟩⟩⟩<;>simp at h
 exact⟨a,b,c,d,e,rfl⟩
def agD{α:Type}{l:List α}(h:l.length=6):∃ a b c d e f,l=[a,b,c,d,e,f]:=by
 rcases l with _|⟨a,_|⟨b,_|⟨c,_|⟨d,_|⟨e,_|⟨f,_|⟨g,l⟩⟩⟩⟩⟩⟩⟩<;>simp at h
 exact⟨a,b,c,d,e,f,rfl⟩
section
variable {H:Type} {enc:TypeId×Value->H} {W:World} {fuel:Nat} {cs:List Value} {x:DataW H×List MemPlace}
def uU(h:DataW.trod enc prog W 0 (λ_=>true) true fuel 3 cs=some x):∃ z,cs=[.int .i64 z]/\kP .i64 z:=by
 obtain⟨z,hz,_,hw⟩:=DataW.trod_int underlying3 h;exact⟨z,hz,YQ hw⟩
def ahQ(h:DataW.trod enc prog W 0 (λ_=>true) true fuel 89 cs=some x):∃ n d,cs=[.int .i64 n,.int .i64 d]/\kP .i64 n/\kP .i64 d:=by
 obtain⟨xs,n,rfl,rfl,hl,mN,hf⟩:=DataW.trod_struct underlying89 h;have hC:prog.cellsOf 89=2:= aF ;have hI:prog.cellsOf 3=1:= aF ;rw[hC]at hl;obtain⟨c0,c1,rfl⟩:=agB hl;have h0:=hf 0 _ rfl;have h1:=hf 1 _ rfl;simp only[et,eu,dC]at h0 h1;simp only[hI,ev,ew,dR,ey]at h0 h1;rw[bt (by rw[mN];decide)]at h0 h1;obtain⟨z0,e0,w0⟩:=uU h0;obtain⟨z1,e1,w1⟩:=uU h1;simp at e0 e1;subst e0 e1;exact⟨z0,z1,rfl,w0,w1⟩
def ahS(h:DataW.trod enc prog W 0 (λ_=>true) true fuel 91 cs=some x):∃ o,KH W o cs:=by
 obtain⟨xs,n,rfl,rfl,hl,mN,hf⟩:=DataW.trod_struct underlying91 h;have hC:prog.cellsOf 91=6:= aF ;have hR:prog.cellsOf 89=2:= aF ;have hI:prog.cellsOf 3=1:= aF ;rw[hC]at hl;obtain⟨c0,c1,c2,c3,c4,c5,rfl⟩:=agD hl;have h0:=hf 0 _ rfl;have h1:=hf 1 _ rfl;have h2:=hf 2 _ rfl;have h3:=hf 3 _ rfl;have h4:=hf 4 _ rfl;simp only[et,eu,dC]at h0 h1 h2 h3 h4;simp only[hI,hR,ev,ew,dR,ey]at h0 h1 h2 h3 h4;rw[bt (by rw[mN];decide)]at h0 h1 h2 h3 h4;obtain⟨z0,e0,w0⟩:=uU h0;obtain⟨z1,e1,w1⟩:=uU h1;obtain⟨z2,e2,w2⟩:=uU h2;obtain⟨z3,e3,w3⟩:=uU h3;obtain⟨z4,z5,e4,w4,w5⟩:=ahQ h4;simp at e0 e1 e2 e3 e4;obtain⟨e4,e5⟩:=e4;subst e0 e1 e2 e3 e4 e5;refine⟨⟨z0,z1,z2,z3,z4,z5⟩,⟨w0,w1,w2,w3,w4,w5⟩,rfl,λj hj=>?_⟩;rcases j with _|_|_|_|_|_|j
 all_goals first|exact⟨_,rfl,.v _⟩|omega
def ai5(o:oJ)(j:Nat)(hj:j<6):((zf o).getD j .any).one=true/\(((zf o).getD j .any).mO=true)/\((zf o).getD j .any).nr 2=true:=by
 rcases j with _|_|_|_|_|_|j
 all_goals first|exact⟨rfl,rfl,rfl⟩|omega
def ahT(h:DataW.trod enc prog W 0 (λ_=>true) true fuel 22 cs=some x):
  ∃ l v,cs=[v]/\(∀ y,y ∈ l->y.ko)/\ix mI mI W (nZ l) v:=by
 have hC:prog.cellsOf 91=6:= aF ;rcases Deep.open_slice underlying22 h with⟨rfl,_⟩|⟨a,len,cap,m,n,D,Pl,rfl,hb,hl,hm,sx,rfl,hx⟩
 .exact ⟨[],_,rfl,(λy hy=>by cases hy),.sl true 0 6 _ none 0 (λ_ _=>.bool false) (bc _) aE (λ_=>rfl) (λi j hi=>absurd hi (bk i)) (λi j hi=>absurd hi (bk i)) (λi j hi=>absurd hi (bk i)) (λi j hi=>absurd hi (bk i))⟩
 .simp only[bw]at sx;subst sx;have ex:∀ i,∃ y:oJ,i<len->∃ cs',W.cells? 0 (a.add (i*6)) 6=some cs'/\KH W y cs':=by
   intro i;by_cases hi:i<len
   .obtain ⟨cs',h1,h2⟩:=hx i aC ;rw[hC]at h1;obtain⟨y,hy⟩:=ahS h2;exact⟨y,λ_=>⟨cs',h1,hy⟩⟩
   .exact ⟨nQ,λh=>absurd h hi⟩
  let X:Nat->oJ:=λi=>Classical.choose (ex i)
  have hX:∀ i,i<len->∃ cs',W.cells? 0 (a.add (i*6)) 6=some cs'/\KH W (X i) cs':=λi=>cK (ex i)
  have hlen:((List.range len).map X).length=len:= aH ;refine⟨(List.range len).map X,_,rfl,?_,?_⟩
  .intro y hy;obtain⟨i,hi,rfl⟩:=dg.1 hy;obtain⟨cs',_,h2⟩:=hX i (bW.1 hi);exact h2.1
  .have BG:∀ i,i<len->((List.range len).map X).getD i nQ=X i:=by
    intro i hi;rw[bd,cr,amB hi];rfl
   have:=OH (W:=W) (a:=a) (len:=len) (cap:=m) (nl:=true) (λi j=>(zf (((List.range len).map X).getD i nQ)).getD j .any) hl hm (show 0<6 by decide)
    (λi j _ hj=>let⟨h1,h2,h3⟩:=ai5 (((List.range len).map X).getD i nQ) j hj;⟨h1,λ_=>h2,h3⟩)
    (λi hi=>by
     obtain⟨cs',h1,h2,_,h3⟩:=hX i hi;exact⟨cs',h1,λj hj=>by rw[BG i hi];exact h3 j hj⟩)
   unfold nZ;rw[hlen];exact this
def ai3:nQ.ko:=by constructor<;>(show kP .i64 0;unfold kP;decide)
def LS{α:Type}{P:α->Prop}{l:List α}{d:α}(h:∀ y,y ∈ l->P y)(hd:P d)(i:Nat):P (l.getD i d):=by
 by_cases hi:i<l.length
 .rw [bd,bt hi];exact h _ (cz hi)
 .rw [bd,b7 aC];exact hd
def PA(W:World)(s:lP)(cs:List Value):Prop:=s.ko/\cs.length=5/\∀ j,j<5->∃ v,cs[j]? = some v/\ix mI mI W ((OR s).getD j .any) v
def ahV(h:DataW.trod enc prog W 0 (λ_=>true) true fuel 25 cs=some x):
 ∃ (n:Int) (gS:List oJ) (iu:List Int) (v w:Value),cs=[.int .i64 n,v,w]/\kP .i64 n/\(∀ y,y ∈ gS->y.ko)/\(∀ z,z ∈ iu->kP .i64 z)/\ix mI mI W (nZ gS) v/\ix mI mI W (oG iu) w:=by
 obtain⟨xs,n,rfl,rfl,hl,mN,hf⟩:=DataW.trod_struct underlying25 h;have hC:prog.cellsOf 25=3:= aF ;have hI:prog.cellsOf 3=1:= aF ;have hO:prog.cellsOf 22=1:= aF ;have hU:prog.cellsOf 23=1:= aF ;rw[hC]at hl;obtain⟨c0,c1,c2,rfl⟩:=Vn hl;have h0:=hf 0 _ rfl;have h1:=hf 1 _ rfl;have h2:=hf 2 _ rfl;simp only[et,eu,dC]at h0 h1 h2;simp only[hI,hO,hU,ev,ew,dR,ey]at h0 h1 h2;rw[bt (by rw[mN];decide)]at h0 h1 h2;obtain⟨z0,e0,w0⟩:=uU h0;obtain⟨gS,v,e1,g1,r1⟩:=ahT h1;obtain⟨iu,w,e2,g2,r2⟩:=ahO (k:=.i64) (λ_=>rfl) underlying23 underlying3 hI h2;simp at e0 e1 e2;subst e0 e1 e2;exact⟨z0,gS,iu,_,_,rfl,w0,g1,g2,r1,r2⟩
def ahU(h:DataW.trod enc prog W 0 (λ_=>true) true fuel 28 cs=some x)(im:∀ p ∈ x.2,p.block<W.heap.size):∃ s,PA W s cs:=by
 obtain⟨xs,n,rfl,rfl,hl,mN,hf⟩:=DataW.trod_struct underlying28 h;have hC:prog.cellsOf 28=5:= aF ;have hT:prog.cellsOf 25=3:= aF ;have hI:prog.cellsOf 3=1:= aF ;have hP:prog.cellsOf 26=1:= aF ;rw[hC]at hl;obtain⟨c0,c1,c2,c3,c4,rfl⟩:=agC hl;have h0:=hf 0 _ rfl;have h1:=hf 1 _ rfl;have h2:=hf 2 _ rfl;simp only[et,eu,dC]at h0 h1 h2;simp only[hT,hI,hP,ev,ew,dR,ey]at h0 h1 h2;rw[bt (by rw[mN];decide)]at h0 h1 h2;obtain⟨z0,gS,iu,v,w,e0,w0,g1,g2,r1,r2⟩:=ahV h0;obtain⟨z1,e1,w1⟩:=uU h1;obtain⟨ps,u,e2,g3,r3⟩:=Wy h2 (λp hp=>im p (dG.2 ⟨_,cz _,hp⟩));simp at e0 e1 e2;obtain⟨e0,e0b,e0c⟩:=e0;subst e0 e0b e0c e1 e2;refine⟨⟨z0,gS,iu,z1,ps⟩,⟨w0,LS g1 ai3,LS g2 (by unfold kP;decide),w1,LS g3 Xl⟩,rfl,λj hj=>?_⟩;rcases j with _|_|_|_|_|j
 .exact ⟨_,rfl,.v _⟩
 .exact ⟨_,rfl,r1⟩
 .exact ⟨_,rfl,r2⟩
 .exact ⟨_,rfl,.v _⟩
 .exact ⟨_,rfl,r3⟩
 .omega
end
def akD{W:World}{x:lP}{cs:Array Value}(h:PA W x cs.toList):ix mI mI W (od x) (.agg cs):=by
 obtain⟨_,hl,h⟩:=h;have:=ix.agg (bs:=mI) (br:=mI) (w:=W) (OR x) cs.toList (by rw[hl];rfl) (λi p v h1 h2=>by
  have hi:i<5:=by have:=(b5.1 h2).1;omega
  obtain⟨v',h3,h4⟩:=h i hi;rw[h2]at h3;cases h3;rw[bd,h1]at h4;exact h4)
 unfold od;exact this
def agF{α:Type}{l:List α}(h:l.length=8):∃ a b c d e f g i,l=[a,b,c,d,e,f,g,i]:=by
 rcases l with _|⟨a,_|⟨b,_|⟨c,_|⟨d,_|⟨e,_|⟨f,_|⟨g,_|⟨i,_|⟨j,l⟩⟩⟩⟩⟩⟩⟩⟩⟩<;>simp at h
 exact⟨a,b,c,d,e,f,g,i,rfl⟩
def Pz(W:World)(c:nd)(cs:List Value):Prop:=c.ko/\cs.length=8/\∀ j,j<8->∃ v,cs[j]? = some v/\ix mI mI W ((Ov c).getD j .any) v
def ahM{H:Type}{enc:TypeId×Value->H}{W:World}{fuel:Nat}{cs:List Value}{x:DataW H×List MemPlace}(h:DataW.trod enc prog W 0 (λ_=>true) true fuel 33 cs=some x)(im:∀ p ∈ x.2,p.block<W.heap.size):∃ c,Pz W c cs:=by
 obtain⟨xs,n,rfl,rfl,hl,mN,hf⟩:=DataW.trod_struct underlying33 h;have hC:prog.cellsOf 33=8:= aF ;have hT:prog.cellsOf 31=3:= aF ;have hI:prog.cellsOf 3=1:= aF ;rw[hC]at hl;obtain⟨c0,c1,c2,c3,c4,c5,c6,c7,rfl⟩:=agF hl;have h0:=hf 0 _ rfl;have h1:=hf 1 _ rfl;have h2:=hf 2 _ rfl;have h3:=hf 3 _ rfl;have h4:=hf 4 _ rfl;have h5:=hf 5 _ rfl;simp only[et,eu,dC]at h0 h1 h2 h3 h4 h5;simp only[hT,hI,ev,ew,dR,ey]at h0 h1 h2 h3 h4 h5;rw[bt (by rw[mN];decide)]at h0 h1 h2 h3 h4 h5;obtain⟨z0,e0,w0⟩:=uU h0;obtain⟨z1,e1,w1⟩:=uU h1;obtain⟨z2,e2,w2⟩:=uU h2;obtain⟨d,gd,ld,hd⟩:=Oa h3 (λp hp=>im p (dG.2 ⟨_,cz _,hp⟩));obtain⟨z4,e4,w4⟩:=uU h4;obtain⟨z5,e5,w5⟩:=uU h5;simp at e0 e1 e2 e4 e5;subst e0 e1 e2 e4 e5;refine⟨⟨z0,z1,z2,d,z4,z5⟩,⟨w0,w1,w2,gd,w4,w5⟩,rfl,λj hj=>?_⟩;rcases j with _|_|_|_|_|_|_|_|j
 .exact ⟨_,rfl,.v _⟩
 .exact ⟨_,rfl,.v _⟩
 .exact ⟨_,rfl,.v _⟩
 .exact hd 0 aE 
 .exact hd 1 aE 
 .exact hd 2 aE 
 .exact ⟨_,rfl,.v _⟩
 .exact ⟨_,rfl,.v _⟩
 .omega
def abW{W:World}{x:nd}{cs:Array Value}(h:Pz W x cs.toList):ix mI mI W (y9 x) (.agg cs):=by
 obtain⟨_,hl,h⟩:=h;have:=ix.agg (bs:=mI) (br:=mI) (w:=W) (Ov x) cs.toList (by rw[hl];rfl) (λi p v h1 h2=>by
  have hi:i<8:=by have:=(b5.1 h2).1;omega
  obtain⟨v',h3,h4⟩:=h i hi;rw[h2]at h3;cases h3;rw[bd,h1]at h4;exact h4)
 unfold y9;exact this
def adi:Value:=.agg #[.int .i64 0,.int .i64 0,.int .i64 0,.bool false,.slice none 0 0,.int .i64 0,.int .i64 0,.int .i64 0]
def adj{H:Type}:DataW H:=.agg [.lit (.int .i64 0),.lit (.int .i64 0),.lit (.int .i64 0),.agg [.lit (.bool false),.nil,.lit (.int .i64 0)],.lit (.int .i64 0),.lit (.int .i64 0)]
def adk:Value:=.agg #[.int .i64 0,.slice none 0 0,.slice none 0 0,.int .i64 0,.slice none 0 0]
def adl{H:Type}:DataW H:=.agg [.agg [.lit (.int .i64 0),.nil,.nil],.lit (.int .i64 0),.nil]
def Bn:Array Value:=#[adk,.slice none 0 0,adi]
set_option maxRecDepth 100000 in
def abM(H:Type)(enc:TypeId×Value->H)(W:World)(base:Nat)(args:Array Value)(ds gs:List (DataW H))(before:List MemPlace)
 (kF:∀ (j:Nat) t v,Tryz.f4.params[j]? = some t->args[j]? = some v->Value.okWide prog W .any base t v)
 (hW:DataW.Whole enc prog Tryz.f4.params.toList Rows.controlFairSpec.vars false W args.toList ds gs before) (hL:laidMetH prog Rows.controlFairRow.laid W):
 Calls prog 4 args W λe W'=>∃ v,e = .returned v/\Rows.controlFairSpec.post enc prog Tryz.f4 false true false false W args v W':=by
 have IF:=hW;obtain⟨p,q,ux,hV,rfl,hfz,hnd⟩:=hW;have hA:DataW.TrodAll enc prog W 0 (λ_=>true) true Tryz.f4.params.toList args.toList ds p:=ux;rw[Tryz.params4]at hA kF;obtain⟨v0,vs0,d0,ds0,p0,q0,Dv,rfl,rfl,h0,ux⟩:=trodAll_cons hA;obtain⟨v1,vs1,d1,ds1,p1,q1,rfl,rfl,rfl,h1,sk⟩:=trodAll_cons ux;obtain⟨v2,vs2,d2,ds2,p2,q2,rfl,rfl,rfl,h2,yr⟩:=trodAll_cons sk;obtain⟨rfl,rfl,rfl⟩:=trodAll_nil yr;obtain rfl:args = #[v0,v1,v2]:=by cases args;simp_all
 obtain⟨rfl,rfl⟩:=trodVars_none hV;obtain⟨cs0,rfl,al8⟩:=okWide_struct underlying28 (kF 0 28 v0 rfl rfl);obtain⟨a1,len1,cap1,rfl⟩:=okWide_slice underlying26 (kF 1 26 v1 rfl rfl);obtain⟨cs2,rfl,al9⟩:=okWide_struct underlying33 (kF 2 33 v2 rfl rfl);have h0k:=h0;obtain⟨fuel0,hf0⟩:=h0;have h1k:=h1;obtain⟨fuel1,Mr⟩:=h1;have h2k:=h2;obtain⟨fuel2,Ms⟩:=h2;clear ux;have Dj:∀ x ∈ p0,x.block<W.heap.size:=λx hx=>IF.lt x (by simp[hx])
 have BJ:∀ x ∈ p1,x.block<W.heap.size:=λx hx=>IF.lt x (by simp[hx])
 have IZ:∀ x ∈ p2,x.block<W.heap.size:=λx hx=>IF.lt x (by simp[hx])
 obtain⟨x0,g0⟩:=ahU hf0 Dj;obtain⟨x1,w1,Fz,g1,r1⟩:=Wy Mr BJ;obtain rfl:Value.slice a1 len1 cap1=w1:=by
  have:(Value.slice a1 len1 cap1).cells.toList=[Value.slice a1 len1 cap1]:=rfl;rw[this]at Fz;simpa using Fz
 obtain⟨x2,g2⟩:=ahM Ms IZ;have ky:=(agl x0 x1 x2 g0.1 g1 g2.1).run W mI [.agg cs0,.slice a1 len1 cap1,.agg cs2] (akM rfl hL) (λ_ h=>h.elim) (.cons (akD (cs:=cs0) g0) (.cons r1 (.cons (abW (cs:=cs2) g2) (.nil _ _ _))));refine ky.mono λr W' ⟨v,hr,hb,ru⟩=>?_
 obtain rfl:=ix.ku ru;subst hr;refine⟨_,rfl,_,_,_,[],p0++(p1++(p2)),[],IF,?_,?_,rfl,hb.frame _,λh=>by cases h⟩
 .exact trodAll_mk1 (shut_bool underlying4 _)
 .exact ⟨p0,_,Below.trod Nn aF (cJ aF) h0k hb Dj,⟨p1,_,Below.trod Nn aF (cJ aF) h1k hb BJ,trodAll_mk1 (Below.trod Nn aF (cJ aF) h2k hb IZ),rfl⟩,rfl⟩
def abP(os:Os):laidMet prog Rows.controlFairRow.laid ((No os Bn).forCall (λ_ _=>0) ⟨#[],Bn,[]⟩).memory:=
 laidMet_of_run' 8 aF aF 
def abR(os:Os){H:Type}(enc:TypeId×Value->H):∃ places,DataW.whole enc prog ((No os Bn).forCall (λ_ _=>0) ⟨#[],Bn,[]⟩).memory Tryz.f4.params.toList Rows.controlFairSpec.vars false Bn.toList 8=some ([adl,.nil,adj],[],places):=
 ⟨[],aF⟩
set_option maxRecDepth 100000 in
def abO(os:Os)(started:os.Started)(H:Type)(enc:TypeId×Value->H)(F:Stop.Interp):
  ReturnsInHanded {} Tryz.checked os 4 .any ((OpenSpec.ofChange Rows.controlFairSpec).preRow enc prog Tryz.f4 Rows.controlFairRow.domain false Rows.controlFairRow.laid) (((OpenSpec.ofChange Rows.controlFairSpec).at F).post enc prog Tryz.f4 false true false false):=by
 obtain⟨places,hx⟩:=abR os enc;refine returnsInHanded_of_row (C:=Tryz.checked) (s:=OpenSpec.ofChange Rows.controlFairSpec) own started aF func4
  (witness_row_at (enc:=enc) (C:=Tryz.checked) false (No os Bn) Bn rfl aF aF aF 
   (OpenSpec.preRow_of_cond 8 hx aF (λk hk=>by cases hk) aF (abP os))) ?_
 intro W base args ds gs before kF hW _ _ _ hL _ _;exact abM H enc W base args ds gs before kF hW hL
set_option maxHeartbeats 100000000 in
def abN:joinedFacts prog 4 Tryz.f4 (OpenSpec.ofChange Rows.controlFairSpec).bare Rows.controlFairRow=true:=by
 unfold joinedFacts;simp only[bE]
 and_intros<;>decide +kernel
def abS:Rows.ControlFairSaid:=
 OpenClaim.holds_of_cond 4 Tryz.f4 rfl rfl rfl rfl rfl rfl rfl ⟨rfl,rfl,rfl,rfl,rfl⟩ rfl rfl rfl rfl rfl aF func4 abN
  (cJ aF) (by unfold Func.isWrapper;first|(rw[aZ aL];kernel_rfl)|(rw[aY aL];exact⟨rfl,rfl⟩))
  (λos started H enc _ F=>by rw[OpenClaim.pre_eq_preRow];exact abO os started H enc F)
def abQ (f:FuncId) (fn:Func) (hf:Tryz.pinned.checked.prog.funcNamed "flowpipe/flowpipelaw30.ControlFair" = some f) (hfn:Tryz.pinned.checked.prog.funcs[f]? = some fn):
 false=Tryz.pinned.checked.prog.looks []/\∀ (j:Nat) t,fn.params[j]? = some t->Tryz.pinned.checked.prog.wantsStandIn t=false:=by
 obtain rfl:f=4:=ams ((show prog.funcNamed "flowpipe/flowpipelaw30.ControlFair" = some 4 by kernel_rfl).symm.trans hf) |>.symm
 obtain rfl:fn=Tryz.f4:=(ams (func4.symm.trans hfn)).symm;refine⟨aF,λj t ht=>?_⟩;rw[Tryz.params4]at ht;have:t=28\/t=26\/t=33:=by
  have:=dH ht;simp only[gl,cV,List.not_mem_nil,or_false]at this;rcases this with h|h|h<;>subst h<;>simp
 rcases this with rfl|rfl|rfl
 .exact (show prog.wantsStandIn 28=false by kernel_rfl)
 .exact (show prog.wantsStandIn 26=false by kernel_rfl)
 .exact (show prog.wantsStandIn 33=false by kernel_rfl)
theorem cfair_card:Rows.ControlFairCardSaid:=
 Claim7.holds_tied_plain_at .later [] _ _ _ _ abS (λ_ h=>by cases h) aF (λ_ h=>by cases h) controlFair_row_tie rfl ⟨rfl,rfl⟩ aF rfl abQ (aez adL rfl)
end Go.Proofs.YtkdddbdjilcofaaGreatDoor
