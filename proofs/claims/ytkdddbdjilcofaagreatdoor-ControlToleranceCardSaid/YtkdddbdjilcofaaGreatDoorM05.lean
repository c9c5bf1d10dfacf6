/- With a smaller tolerance, or a smaller greatest step, and the same order, the step is not greater. -/
import Derived.Test.YtkdddbdjilcofaaGreatDoorM04
set_option linter.unusedSimpArgs false
set_option linter.unusedVariables false
set_option linter.defProp false
set_option maxHeartbeats 4000000
open Go.Proofs.Tryz
namespace Go.Proofs.YtkdddbdjilcofaaGreatDoor
open Go.RowKit Fp Pu
def Sf(s:jB)(x:List Iv)(d:Dy)(p:Nat)(k:Nat):PS:=⟨55,true,[(22,.e (iP k)),(10,.oW 41 [.box 5,.box 4,.box 6,.box 7]),(7,.box 7 0),(6,.box 6 0),(5,.box 5 0),(4,.box 4 0)],[(7,.cells 3 [iP p]),(6,.cells 31 (iu d)),(5,.cells 26 [gZ x]),(4,.cells 28 [iP s.tape.ie,kH s.tape.gT,kG s.tape.iw,iP s.iI,gZ s.params])]⟩
noncomputable def Si(s:jB)(x:List Iv)(d:Dy)(p:Nat)(N:Nat)(j:Nat):PS:=⟨55,true,[(36,.e (iP j)),(14,.e (gZ (k0 s x d p j))),(7,.box 7 0),(6,.box 6 0),(5,.box 5 0),(4,.box 4 0)],[(7,.cells 3 [iP p]),(6,.cells 31 (iu d)),(5,.cells 26 [gZ x]),(4,.cells 28 [iP s.tape.ie,kH s.tape.gT,kG s.tape.iw,iP s.iI,gZ s.params])]⟩
def adi(s:jB)(x:List Iv)(d:Dy)(p:Nat)(h:lM s)(hx:ko s.iI x)(hd:d.gY)(h0:0<d.iK)(ic:8<=p)(gX:p<=512)(jJ:∀ k:Nat,k<24->rM s x d p ((k:Int)-20)=false)(N:Nat)(pU:N<10)(tU:∀ j,j<=N->ko s.iI (k0 s x d p j))(hw:∀ j,j<N->lj s x d (k0 s x d p j) p≠[]/\se s x d (lj s x d (k0 s x d p j) p) p=false)(jh:lj s x d (k0 s x d p N) p≠[])(hN:se s x d (lj s x d (k0 s x d p N) p) p=true):gR 13 [kU s,gZ x,gV d,iP p] (.ig [gZ (lj s x d (k0 s x d p N) p),iP 0]):=by
 have hbN:=tU N (bc _);have lQ:=CU hx (aC:1<=p) (aC:p<=4096) jh;exact ak call13 func13 (af [.c (BI s x d p h hx hd h0 ic gX),.s (Sp.jH (Sf s x d p) 0 24 aC (λk hk Jf=>by
    exact iB (af [tT 23 ((k:Int)<24) aC,ik ((k:Int)-20) aC,ag [iP ((k:Int)-20),(.iN 1 λj_=>[gZ x].getD j_ .any),(.iN 5 λj_=>[iP s.tape.ie,kH s.tape.gT,kG s.tape.iw,iP s.iI,gZ s.params].getD j_ .any),(.iN 3 λj_=>[bP d.neg,gW (gS d.m),iP d.e].getD j_ .any),(.iN 1 λj_=>[iP p].getD j_ .any)] (EB _ _ _ _ h hx hd h0 ic gX _ aC aC),ai 31 (rM s x d p ((k:Int)-20)) (jJ k aC),ik ((k:Int)+1) aC]) aF)
  (λhk=>by
    exact iB (af [ai 23 (decide ((24:Int)<24)) aE]) aF) aI:jD 5 Tryz.f13 (Sf s x d p 0) (.exit 0) ⟨55,true,[(7,.box 7 0),(6,.box 6 0),(5,.box 5 0),(4,.box 4 0)],[(7,.cells 3 [iP p]),(6,.cells 31 (iu d)),(5,.cells 26 [gZ x]),(4,.cells 28 [iP s.tape.ie,kH s.tape.gT,kG s.tape.iw,iP s.iI,gZ s.params])]⟩) .nil,.s (Sp.jH (Si s x d p N) 0 N aC (λj hj Ue=>by
    have yI:=tU j aC;obtain⟨jh,FD⟩:=hw j aC;have lQ:=CU hx (aC:1<=p) (aC:p<=4096) jh;exact iB (ae [tT 37 ((j:Int)<10) aC,.c (G9 s x d (k0 s x d p j) p h hx hd h0 yI ic gX),ai 46 (((lj s x d (k0 s x d p j) p).length:Int)==0) (F1 jh),.c (FF s x d (lj s x d (k0 s x d p j) p) p h hx hd h0 lQ ic gX),ai 52 (se s x d (lj s x d (k0 s x d p j) p) p) FD,ik ((j:Int)+1) aC]<|.e (af [.o 14 (.e (.iM rfl):aj (gZ (lj s x d (k0 s x d p j) p)) (gZ (k0 s x d p (j+1))))])) aF)
  (λhj=>by
    have yI:=tU N (bc _);have lQ:=CU hx (aC:1<=p) (aC:p<=4096) jh;exact iB (af [tT 37 ((N:Int)<10) aC,.c (G9 s x d (k0 s x d p N) p h hx hd h0 yI ic gX),ai 46 (((lj s x d (k0 s x d p N) p).length:Int)==0) (F1 jh),.c (FF s x d (lj s x d (k0 s x d p N) p) p h hx hd h0 lQ ic gX),ah 52 (se s x d (lj s x d (k0 s x d p N) p) p) hN]) aF) aI:jD 13 Tryz.f13 (Si s x d p N 0) .ret ⟨55,true,[(9,.e (iP 0)),(8,.e (gZ (lj s x d (k0 s x d p N) p)))],[]⟩) (af [.o 14 (.e (.iM rfl):aj (gZ x) (gZ (k0 s x d p 0)))])]) 
def Sj:Option (List Iv)->E
 |some b=>.ig [gZ b,iP 0]
 |none=>.ig [.v (.slice none 0 0),iP 12]
def Sk(s:jB)(x:List Iv)(d:Dy)(p:Nat)(h:lM s)(hx:ko s.iI x)(hd:d.gY)(h0:0<d.iK)(ic:8<=p)(gX:p<=512):∃ o,gR 13 [kU s,gZ x,gV d,iP p] (Sj o)/\(∀ b,o=some b->ko s.iI b/\se s x d b p=true)/\(o=none->∀ k:Nat,k<24->rM s x d p ((k:Int)-20)=false):=by
 have p1:1<=p:= aC ;have p2:p<=4096:= aC ;by_cases ha:∃ N:Nat,N<24/\rM s x d p ((N:Int)-20)=true
 .obtain ⟨N,n1,n2,n3⟩:=sL (p:=λN=>rM s x d p ((N:Int)-20)) ha;refine⟨some _,adh s x d p h hx hd h0 ic gX N n1 (λk hk=>n3 k hk) n2,λb hb=>?_,λq=>by cases q⟩;cases hb;have n4:=n2;unfold rM at n4;rw[bF]at n4;exact⟨Mc hx (G3 (k:=(N:Int)-20) aC aC) (Yh (Py _)) n4.1,n4.2⟩
 .have jJ:∀ k:Nat,k<24->rM s x d p ((k:Int)-20)=false:=λk hk=>by
   cases hc:rM s x d p ((k:Int)-20)with
   |false=>rfl
   |true=>exact absurd ⟨k,hk,hc⟩ ha
  have tU:∀ N,(∀ j,j<N->lj s x d (k0 s x d p j) p≠[])->∀ j,j<=N->ko s.iI (k0 s x d p j):=λN jh j hj=>by
   rcases j with _|j
   .exact hx
   .exact CU hx p1 p2 (jh j aC)
  by_cases pT:∃ N:Nat,N<10/\decide (lj s x d (k0 s x d p N) p=[]\/se s x d (lj s x d (k0 s x d p N) p) p=true)=true
  .obtain ⟨N,n1,n2,n3⟩:=sL pT;have hw:∀ j,j<N->lj s x d (k0 s x d p j) p≠[]/\se s x d (lj s x d (k0 s x d p j) p) p=false:=λj hj=>by
    have:=fU (n3 j hj);exact⟨λq=>this (.inl q),aV λq=>this (.inr q)⟩
   have hb:=tU N λj hj=>(hw j hj).1
   by_cases he:lj s x d (k0 s x d p N) p=[]
   .exact ⟨none,adj s x d p h hx hd h0 ic gX jJ N n1 hb hw he,(λb q=>by cases q),λ_=>jJ⟩
   .have hN:=(cC n2).resolve_left he;refine⟨some _,adi s x d p h hx hd h0 ic gX jJ N n1 hb hw he hN,λb q=>?_,λq=>by cases q⟩;cases q;exact⟨CU hx p1 p2 he,hN⟩
  .have hw:∀ j,j<10->lj s x d (k0 s x d p j) p≠[]/\se s x d (lj s x d (k0 s x d p j) p) p=false:=λj hj=>
    ⟨λq=>pT ⟨j,hj,a6 (.inl q)⟩,aV λq=>pT ⟨j,hj,a6 (.inr q)⟩⟩
   exact⟨none,adg s x d p h hx hd h0 ic gX jJ (tU 10 λj hj=>(hw j hj).1) hw,(λb q=>by cases q),λ_=>jJ⟩
def SY(l:List Dy)(d:Dy)(k t:Nat)(x:Nat):PS:=⟨57,true,[(17,.e (iP x)),(16,.e (iP l.length)),(15,.e (kg l)),(5,.box 5 0),(2,.e (iP k)),(3,.e (iP t))],[(5,.cells 31 (iu d))]⟩
def SN(l:List Dy)(d:Dy)(k t x:Nat)(i:Nat):PS:=⟨57,true,[(22,.e (iP i)),(21,.e (iP k)),(11,.e (bP false)),(10,.box 10 0),(17,.e (iP x)),(16,.e (iP l.length)),(15,.e (kg l)),(5,.box 5 0),(2,.e (iP k)),(3,.e (iP t))],[(10,.cells 31 (iu (jy d i (l.getD x iq)))),(5,.cells 31 (iu d))]⟩
def SS(l:List Dy)(d:Dy)(k t x:Nat)(N:Nat)(i:Nat):PS:=⟨57,true,[(22,.e (iP i)),(21,.e (iP k)),(11,.e (bP false)),(10,.box 10 0),(17,.e (iP x)),(16,.e (iP l.length)),(15,.e (kg l)),(5,.box 5 0),(2,.e (iP k)),(3,.e (iP t))],[(10,.cells 31 (iu (jy d i (l.getD x iq)))),(5,.cells 31 (iu d))]⟩
def SZ(l:List Dy)(d:Dy)(k t:Nat)(x:Nat):PS:=⟨57,true,[(17,.e (iP x)),(16,.e (iP l.length)),(15,.e (kg l)),(5,.box 5 0),(2,.e (iP k)),(3,.e (iP t))],[(5,.cells 31 (iu d))]⟩
def SO(l:List Dy)(d:Dy)(k t x:Nat)(i:Nat):PS:=⟨57,true,[(22,.e (iP i)),(21,.e (iP k)),(11,.e (bP false)),(10,.box 10 0),(17,.e (iP x)),(16,.e (iP l.length)),(15,.e (kg l)),(5,.box 5 0),(2,.e (iP k)),(3,.e (iP t))],[(10,.cells 31 (iu (jy d i (l.getD x iq)))),(5,.cells 31 (iu d))]⟩
def SU(l:List Dy)(d:Dy)(k t x:Nat)(N:Nat)(i:Nat):PS:=⟨57,true,[(22,.e (iP i)),(21,.e (iP k)),(11,.e (bP false)),(10,.box 10 0),(17,.e (iP x)),(16,.e (iP l.length)),(15,.e (kg l)),(5,.box 5 0),(2,.e (iP k)),(3,.e (iP t))],[(10,.cells 31 (iu (jy d i (l.getD x iq)))),(5,.cells 31 (iu d))]⟩
def SP(l:List Dy)(d:Dy)(k t M:Nat)(i:Nat):PS:=⟨57,true,[(22,.e (iP i)),(21,.e (iP k)),(11,.e (bP false)),(10,.box 10 0),(17,.e (iP M)),(16,.e (iP l.length)),(15,.e (kg l)),(5,.box 5 0),(2,.e (iP k)),(3,.e (iP t))],[(10,.cells 31 (iu (jy d i (l.getD M iq)))),(5,.cells 31 (iu d))]⟩
def S1(l:List Dy)(d:Dy)(k t:Nat)(x:Nat):PS:=⟨57,true,[(17,.e (iP x)),(16,.e (iP l.length)),(15,.e (kg l)),(5,.box 5 0),(2,.e (iP k)),(3,.e (iP t))],[(5,.cells 31 (iu d))]⟩
def SR(l:List Dy)(d:Dy)(k t x:Nat)(i:Nat):PS:=⟨57,true,[(22,.e (iP i)),(21,.e (iP k)),(11,.e (bP false)),(10,.box 10 0),(17,.e (iP x)),(16,.e (iP l.length)),(15,.e (kg l)),(5,.box 5 0),(2,.e (iP k)),(3,.e (iP t))],[(10,.cells 31 (iu (jy d i (l.getD x iq)))),(5,.cells 31 (iu d))]⟩
def SV(l:List Dy)(d:Dy)(k t x:Nat)(N:Nat)(i:Nat):PS:=⟨57,true,[(22,.e (iP i)),(21,.e (iP k)),(11,.e (bP false)),(10,.box 10 0),(17,.e (iP x)),(16,.e (iP l.length)),(15,.e (kg l)),(5,.box 5 0),(2,.e (iP k)),(3,.e (iP t))],[(10,.cells 31 (iu (jy d i (l.getD x iq)))),(5,.cells 31 (iu d))]⟩
def SW(l:List Dy)(d:Dy)(k t M:Nat)(N:Nat)(i:Nat):PS:=⟨57,true,[(22,.e (iP i)),(21,.e (iP k)),(11,.e (bP false)),(10,.box 10 0),(17,.e (iP M)),(16,.e (iP l.length)),(15,.e (kg l)),(5,.box 5 0),(2,.e (iP k)),(3,.e (iP t))],[(10,.cells 31 (iu (jy d i (l.getD M iq)))),(5,.cells 31 (iu d))]⟩
def Rd(s:jB)(x:List Iv)(d:Dy)(mth ord mst:Int)(p t k:Nat)(l:List Dy)(j0:Int)(n:Nat):PS:=⟨108,true,[(11,.e (bP true)),(12,.box 12 0),(10,.e (kg l)),(8,.e (iP k)),(6,.box 6 0),(5,.box 5 0),(3,.box 3 0),(1,.e (gZ x))],[(12,.cells 31 (iu (nD (j0-(n:Int))))),(6,.cells 31 ar),(5,.cells 33 ([iP mth,iP ord,iP p]++iu d++[iP t,iP mst])),(3,.cells 28 [iP s.tape.ie,kH s.tape.gT,kG s.tape.iw,iP s.iI,gZ s.params])]⟩
def Rh(s:jB)(x:List Iv)(d:Dy)(mth ord mst:Int)(p t k:Nat)(l:List Dy)(j0:Int)(n1:Nat)(m:Nat):PS:=⟨108,true,[(79,.e (iP m)),(11,.e (bP true)),(12,.box 12 0),(6,.box 6 0),(5,.box 5 0),(3,.box 3 0),(1,.e (gZ x))],[(12,.cells 31 (iu (nD (j0-(n1:Int)-m)))),(6,.cells 31 ar),(5,.cells 33 ([iP mth,iP ord,iP p]++iu d++[iP t,iP mst])),(3,.cells 28 [iP s.tape.ie,kH s.tape.gT,kG s.tape.iw,iP s.iI,gZ s.params])]⟩
def Re(s:jB)(x:List Iv)(d:Dy)(mth ord mst:Int)(p t k:Nat)(l:List Dy)(j0:Int)(n:Nat):PS:=⟨108,true,[(11,.e (bP true)),(12,.box 12 0),(10,.e (kg l)),(8,.e (iP k)),(6,.box 6 0),(5,.box 5 0),(3,.box 3 0),(1,.e (gZ x))],[(12,.cells 31 (iu (nD (j0-(n:Int))))),(6,.cells 31 ar),(5,.cells 33 ([iP mth,iP ord,iP p]++iu d++[iP t,iP mst])),(3,.cells 28 [iP s.tape.ie,kH s.tape.gT,kG s.tape.iw,iP s.iI,gZ s.params])]⟩
def Ri(s:jB)(x:List Iv)(d:Dy)(mth ord mst:Int)(p t k:Nat)(l:List Dy)(j0:Int)(n1:Nat)(m:Nat):PS:=⟨108,true,[(79,.e (iP m)),(11,.e (bP true)),(12,.box 12 0),(6,.box 6 0),(5,.box 5 0),(3,.box 3 0),(1,.e (gZ x))],[(12,.cells 31 (iu (nD (j0-(n1:Int)-m)))),(6,.cells 31 ar),(5,.cells 33 ([iP mth,iP ord,iP p]++iu d++[iP t,iP mst])),(3,.cells 28 [iP s.tape.ie,kH s.tape.gT,kG s.tape.iw,iP s.iI,gZ s.params])]⟩
def Rf(s:jB)(x:List Iv)(d:Dy)(mth ord mst:Int)(p t k:Nat)(l:List Dy)(j0:Int)(n:Nat):PS:=⟨108,true,[(11,.e (bP true)),(12,.box 12 0),(10,.e (kg l)),(8,.e (iP k)),(6,.box 6 0),(5,.box 5 0),(3,.box 3 0),(1,.e (gZ x))],[(12,.cells 31 (iu (nD (j0-(n:Int))))),(6,.cells 31 ar),(5,.cells 33 ([iP mth,iP ord,iP p]++iu d++[iP t,iP mst])),(3,.cells 28 [iP s.tape.ie,kH s.tape.gT,kG s.tape.iw,iP s.iI,gZ s.params])]⟩
def Rj(s:jB)(x:List Iv)(d:Dy)(mth ord mst:Int)(p t k:Nat)(l:List Dy)(j0:Int)(n1:Nat)(m:Nat):PS:=⟨108,true,[(79,.e (iP m)),(11,.e (bP true)),(12,.box 12 0),(6,.box 6 0),(5,.box 5 0),(3,.box 3 0),(1,.e (gZ x))],[(12,.cells 31 (iu (nD (j0-(n1:Int)-m)))),(6,.cells 31 ar),(5,.cells 33 ([iP mth,iP ord,iP p]++iu d++[iP t,iP mst])),(3,.cells 28 [iP s.tape.ie,kH s.tape.gT,kG s.tape.iw,iP s.iI,gZ s.params])]⟩
def Rg(s:jB)(x:List Iv)(d:Dy)(mth ord mst:Int)(p t k:Nat)(l:List Dy)(j0:Int)(n:Nat):PS:=⟨108,true,[(11,.e (bP true)),(12,.box 12 0),(10,.e (kg l)),(8,.e (iP k)),(6,.box 6 0),(5,.box 5 0),(3,.box 3 0),(1,.e (gZ x))],[(12,.cells 31 (iu (nD (j0-(n:Int))))),(6,.cells 31 ar),(5,.cells 33 ([iP mth,iP ord,iP p]++iu d++[iP t,iP mst])),(3,.cells 28 [iP s.tape.ie,kH s.tape.gT,kG s.tape.iw,iP s.iI,gZ s.params])]⟩
def Rk(s:jB)(x:List Iv)(d:Dy)(mth ord mst:Int)(p t k:Nat)(l:List Dy)(j0:Int)(n1:Nat)(m:Nat):PS:=⟨108,true,[(79,.e (iP m)),(11,.e (bP true)),(12,.box 12 0),(6,.box 6 0),(5,.box 5 0),(3,.box 3 0),(1,.e (gZ x))],[(12,.cells 31 (iu (nD (j0-(n1:Int)-m)))),(6,.cells 31 ar),(5,.cells 33 ([iP mth,iP ord,iP p]++iu d++[iP t,iP mst])),(3,.cells 28 [iP s.tape.ie,kH s.tape.gT,kG s.tape.iw,iP s.iI,gZ s.params])]⟩
def AV{d m:Dy}{i:Nat}(h:qE d i m=true):(kp (jt (jy d i m) d) != 0)=false:=by
 unfold qE at h;rw[fP]at h;rw[h];rfl
def JW{d m:Dy}{i:Nat}(h:qE d i m=false):(kp (jt (jy d i m) d) != 0)=true:=by
 unfold qE at h;rw[beq_eq_false_iff_ne]at h;exact aX h
def Af{d:Dy}(h:d.gY):-16384<=d.ij/\d.ij<=16384:=by
 unfold Dy.ij;split
 .omega
 .rename_i h0;have:=h.range.resolve_left h0;have hb:=nR h0;omega
def Kz{a b:Int}(h1:0<=a)(h2:a<=16)(h3:-16384<=b)(h4:b<=16384):-262144<=a*b/\a*b<=262144:=by
 have e:a=0\/a=1\/a=2\/a=3\/a=4\/a=5\/a=6\/a=7\/a=8\/a=9\/a=10\/a=11\/a=12\/a=13\/a=14\/a=15\/a=16:= aC ;rcases e with rfl|rfl|rfl|rfl|rfl|rfl|rfl|rfl|rfl|rfl|rfl|rfl|rfl|rfl|rfl|rfl|rfl<;>omega
def KC(t:Nat)(h:t<=1000):(jz (0-(t:Int))).gY:=by
 have e:=Cv (0-(t:Int));rw[<-e];exact uh aC aC 
def abc(l:List Dy)(d:Dy)(k t:Nat)(sd:l.length<=100)(hl:∀ i,(l.getD i iq).gY)(hd:d.gY)(hk:k<=16)(ht:t<=1000)(hf:∀ x,x<l.length->rA d (t:Int) k (l.getD x iq)=true):gR 28 [kg l,gV d,iP k,iP t] (bP true):=
 ak call28 func28 (af [.s (Sp.jH (SY l d k t) 0 l.length aC (λx hx mw=>by
    have wN:=hf x aC;have qZ:(jz (0-(t:Int))).gY:=KC t ht;have th:=hl x;by_cases tY:∀ i,i<k->qE d i (l.getD x iq)=true
    .have M9:=sM (h:=d) (hl x) k;exact iB (af [tT 18 ((x:Int)<l.length) aC,iX (x:Int) (l.length) aC,.s (Sp.jH (SN l d k t x) 0 k aC (λi hi oR=>by
    have pB:=sM (h:=d) (hl x) i;exact iB (ae [tT 23 ((i:Int)<k) aC,ag [gV (jy d i (l.getD x iq)),gV d] (vD _ _ aD aD),ai 32 ((kp (jt (jy d i (l.getD x iq)) d)) != 0) (AV (tY i aC)),ik ((i:Int)+1) aC]<|.e (af [.b 10 (.iM rfl:Bx.le (.cells 31 (iu (jq (jt (jy d i (l.getD x iq)) d)))) (.cells 31 (iu (jy d (i+1) (l.getD x iq)))))])) aF)
  (λhi=>by
    exact iB (af [tF 23 ((k:Int)<k) aC]) aF) aI:jD 6 Tryz.f28 (SN l d k t x 0) (.exit 2) ⟨57,true,[(11,.e (bP false)),(10,.box 10 0),(17,.e (iP x)),(16,.e (iP l.length)),(15,.e (kg l)),(5,.box 5 0),(2,.e (iP k)),(3,.e (iP t))],[(10,.cells 31 (iu (jy d k (l.getD x iq)))),(5,.cells 31 (iu d))]⟩) (af [.b 10 (.iM rfl:Bx.le (.cells 31 (iu (l.getD x iq))) (.cells 31 (iu (jy d 0 (l.getD x iq)))))]),
      ik (0-(t:Int)) aC,.c (qb (0-(t:Int))),ag [gV (jy d k (l.getD x iq)),gV (jz (0-(t:Int)))] (kI _ _ aD aD),tF 55 (0<(iO (jy d k (l.getD x iq)) (jz (0-(t:Int))))) (by rw[II tY,b9]at wN;omega),ik ((x:Int)+1) aC]) aF 
    .obtain ⟨N,BK,wR,wQ⟩:=(JX d (l.getD x iq) k).resolve_left tY;exact iB (af [tT 18 ((x:Int)<l.length) aC,iX (x:Int) (l.length) aC,.s (Sp.jH (SS l d k t x N) 0 N aC (λi hi oR=>by
    have pB:=sM (h:=d) (hl x) i;exact iB (ae [tT 23 ((i:Int)<k) aC,ag [gV (jy d i (l.getD x iq)),gV d] (vD _ _ aD aD),ai 32 ((kp (jt (jy d i (l.getD x iq)) d)) != 0) (AV (wR i aC)),ik ((i:Int)+1) aC]<|.e (af [.b 10 (.iM rfl:Bx.le (.cells 31 (iu (jq (jt (jy d i (l.getD x iq)) d)))) (.cells 31 (iu (jy d (i+1) (l.getD x iq)))))])) aF)
  (λhi=>by
    have pB:=sM (h:=d) (hl x) N;have tm:=Af pB;have td:=Af hd;obtain⟨T,hT⟩:∃ T,T=((k:Int)-N)*(Dy.ij d):=⟨_,rfl⟩
    have vN:=Kz (a:=(k:Int)-N) (b:=Dy.ij d) aC aC td.1 td.2;exact iB (af [tT 23 ((N:Int)<k) aC,ag [gV (jy d N (l.getD x iq)),gV d] (vD _ _ aD aD),ah 32 ((kp (jt (jy d N (l.getD x iq)) d)) != 0) (JW wQ),ag [gV (jy d N (l.getD x iq))] (mQ _ aD),ik ((k:Int)-N) aC,ag [gV d] (mQ _ aD),ik (((k:Int)-N)*(Dy.ij d)) aC,ik ((Dy.ij (jy d N (l.getD x iq)))+(((k:Int)-N)*(Dy.ij d))) aC,
    ik (0-(t:Int)) aC,ah 44 (decide (((Dy.ij (jy d N (l.getD x iq)))+(((k:Int)-N)*(Dy.ij d)))<=(0-(t:Int)))) (by rw[IJ BK wR wQ]at wN;exact wN)]) aF) aI:jD 6 Tryz.f28 (SS l d k t x N 0) (.exit 2) ⟨57,true,[(11,.e (bP true)),(10,.box 10 0),(17,.e (iP x)),(16,.e (iP l.length)),(15,.e (kg l)),(5,.box 5 0),(2,.e (iP k)),(3,.e (iP t))],[(10,.cells 31 (iu (jy d N (l.getD x iq)))),(5,.cells 31 (iu d))]⟩) (af [.b 10 (.iM rfl:Bx.le (.cells 31 (iu (l.getD x iq))) (.cells 31 (iu (jy d 0 (l.getD x iq)))))]),
      ik ((x:Int)+1) aC]) aF)
  (λhx=>by
    exact iB (af [tF 18 ((l.length:Int)<l.length) aC]) aF) aI:jD 2 Tryz.f28 (SY l d k t 0) (.exit 0) ⟨57,true,[],[]⟩) .nil]) 
def aba(l:List Dy)(d:Dy)(k t:Nat)(sd:l.length<=100)(hl:∀ i,(l.getD i iq).gY)(hd:d.gY)(hk:k<=16)(ht:t<=1000)(M:Nat)(hM:M<l.length)(hf:∀ x,x<M->rA d (t:Int) k (l.getD x iq)=true)(BP:rA d (t:Int) k (l.getD M iq)=false)(tY:∀ i,i<k->qE d i (l.getD M iq)=true):gR 28 [kg l,gV d,iP k,iP t] (bP false):=
 ak call28 func28 (af [.s (Sp.jH (SZ l d k t) 0 M aC (λx hx mw=>by
    have wN:=hf x aC;have qZ:(jz (0-(t:Int))).gY:=KC t ht;have th:=hl x;by_cases tY:∀ i,i<k->qE d i (l.getD x iq)=true
    .have M9:=sM (h:=d) (hl x) k;exact iB (af [tT 18 ((x:Int)<l.length) aC,iX (x:Int) (l.length) aC,.s (Sp.jH (SO l d k t x) 0 k aC (λi hi oR=>by
    have pB:=sM (h:=d) (hl x) i;exact iB (ae [tT 23 ((i:Int)<k) aC,ag [gV (jy d i (l.getD x iq)),gV d] (vD _ _ aD aD),ai 32 ((kp (jt (jy d i (l.getD x iq)) d)) != 0) (AV (tY i aC)),ik ((i:Int)+1) aC]<|.e (af [.b 10 (.iM rfl:Bx.le (.cells 31 (iu (jq (jt (jy d i (l.getD x iq)) d)))) (.cells 31 (iu (jy d (i+1) (l.getD x iq)))))])) aF)
  (λhi=>by
    exact iB (af [tF 23 ((k:Int)<k) aC]) aF) aI:jD 6 Tryz.f28 (SO l d k t x 0) (.exit 2) ⟨57,true,[(11,.e (bP false)),(10,.box 10 0),(17,.e (iP x)),(16,.e (iP l.length)),(15,.e (kg l)),(5,.box 5 0),(2,.e (iP k)),(3,.e (iP t))],[(10,.cells 31 (iu (jy d k (l.getD x iq)))),(5,.cells 31 (iu d))]⟩) (af [.b 10 (.iM rfl:Bx.le (.cells 31 (iu (l.getD x iq))) (.cells 31 (iu (jy d 0 (l.getD x iq)))))]),
      ik (0-(t:Int)) aC,.c (qb (0-(t:Int))),ag [gV (jy d k (l.getD x iq)),gV (jz (0-(t:Int)))] (kI _ _ aD aD),tF 55 (0<(iO (jy d k (l.getD x iq)) (jz (0-(t:Int))))) (by rw[II tY,b9]at wN;omega),ik ((x:Int)+1) aC]) aF 
    .obtain ⟨N,BK,wR,wQ⟩:=(JX d (l.getD x iq) k).resolve_left tY;exact iB (af [tT 18 ((x:Int)<l.length) aC,iX (x:Int) (l.length) aC,.s (Sp.jH (SU l d k t x N) 0 N aC (λi hi oR=>by
    have pB:=sM (h:=d) (hl x) i;exact iB (ae [tT 23 ((i:Int)<k) aC,ag [gV (jy d i (l.getD x iq)),gV d] (vD _ _ aD aD),ai 32 ((kp (jt (jy d i (l.getD x iq)) d)) != 0) (AV (wR i aC)),ik ((i:Int)+1) aC]<|.e (af [.b 10 (.iM rfl:Bx.le (.cells 31 (iu (jq (jt (jy d i (l.getD x iq)) d)))) (.cells 31 (iu (jy d (i+1) (l.getD x iq)))))])) aF)
  (λhi=>by
    have pB:=sM (h:=d) (hl x) N;have tm:=Af pB;have td:=Af hd;obtain⟨T,hT⟩:∃ T,T=((k:Int)-N)*(Dy.ij d):=⟨_,rfl⟩
    have vN:=Kz (a:=(k:Int)-N) (b:=Dy.ij d) aC aC td.1 td.2;exact iB (af [tT 23 ((N:Int)<k) aC,ag [gV (jy d N (l.getD x iq)),gV d] (vD _ _ aD aD),ah 32 ((kp (jt (jy d N (l.getD x iq)) d)) != 0) (JW wQ),ag [gV (jy d N (l.getD x iq))] (mQ _ aD),ik ((k:Int)-N) aC,ag [gV d] (mQ _ aD),ik (((k:Int)-N)*(Dy.ij d)) aC,ik ((Dy.ij (jy d N (l.getD x iq)))+(((k:Int)-N)*(Dy.ij d))) aC,
    ik (0-(t:Int)) aC,ah 44 (decide (((Dy.ij (jy d N (l.getD x iq)))+(((k:Int)-N)*(Dy.ij d)))<=(0-(t:Int)))) (by rw[IJ BK wR wQ]at wN;exact wN)]) aF) aI:jD 6 Tryz.f28 (SU l d k t x N 0) (.exit 2) ⟨57,true,[(11,.e (bP true)),(10,.box 10 0),(17,.e (iP x)),(16,.e (iP l.length)),(15,.e (kg l)),(5,.box 5 0),(2,.e (iP k)),(3,.e (iP t))],[(10,.cells 31 (iu (jy d N (l.getD x iq)))),(5,.cells 31 (iu d))]⟩) (af [.b 10 (.iM rfl:Bx.le (.cells 31 (iu (l.getD x iq))) (.cells 31 (iu (jy d 0 (l.getD x iq)))))]),
      ik ((x:Int)+1) aC]) aF)
  (λhx=>by
    have M9:=sM (h:=d) (hl M) k;have qZ:(jz (0-(t:Int))).gY:=KC t ht;have th:=hl M;exact iB (af [tT 18 ((M:Int)<l.length) aC,iX (M:Int) (l.length) aC,.s (Sp.jH (SP l d k t M) 0 k aC (λi hi oR=>by
    have pB:=sM (h:=d) (hl M) i;exact iB (ae [tT 23 ((i:Int)<k) aC,ag [gV (jy d i (l.getD M iq)),gV d] (vD _ _ aD aD),ai 32 ((kp (jt (jy d i (l.getD M iq)) d)) != 0) (AV (tY i aC)),ik ((i:Int)+1) aC]<|.e (af [.b 10 (.iM rfl:Bx.le (.cells 31 (iu (jq (jt (jy d i (l.getD M iq)) d)))) (.cells 31 (iu (jy d (i+1) (l.getD M iq)))))])) aF)
  (λhi=>by
    exact iB (af [tF 23 ((k:Int)<k) aC]) aF) aI:jD 6 Tryz.f28 (SP l d k t M 0) (.exit 2) ⟨57,true,[(11,.e (bP false)),(10,.box 10 0),(17,.e (iP M)),(16,.e (iP l.length)),(15,.e (kg l)),(5,.box 5 0),(2,.e (iP k)),(3,.e (iP t))],[(10,.cells 31 (iu (jy d k (l.getD M iq)))),(5,.cells 31 (iu d))]⟩) (af [.b 10 (.iM rfl:Bx.le (.cells 31 (iu (l.getD M iq))) (.cells 31 (iu (jy d 0 (l.getD M iq)))))]),
    ik (0-(t:Int)) aC,.c (qb (0-(t:Int))),ag [gV (jy d k (l.getD M iq)),gV (jz (0-(t:Int)))] (kI _ _ aD aD),tT 55 (0<(iO (jy d k (l.getD M iq)) (jz (0-(t:Int))))) (by rw[II tY,anl]at BP;omega)]) aF) aI:jD 2 Tryz.f28 (SZ l d k t 0) .ret ⟨57,true,[(8,.e (bP false))],[]⟩) .nil]) 
def abb(l:List Dy)(d:Dy)(k t:Nat)(sd:l.length<=100)(hl:∀ i,(l.getD i iq).gY)(hd:d.gY)(hk:k<=16)(ht:t<=1000)(M:Nat)(hM:M<l.length)(hf:∀ x,x<M->rA d (t:Int) k (l.getD x iq)=true)(BP:rA d (t:Int) k (l.getD M iq)=false)(N:Nat)(BK:N<k)(wR:∀ i,i<N->qE d i (l.getD M iq)=true)(wQ:qE d N (l.getD M iq)=false):gR 28 [kg l,gV d,iP k,iP t] (bP false):=
 ak call28 func28 (af [.s (Sp.jH (S1 l d k t) 0 M aC (λx hx mw=>by
    have wN:=hf x aC;have qZ:(jz (0-(t:Int))).gY:=KC t ht;have th:=hl x;by_cases tY:∀ i,i<k->qE d i (l.getD x iq)=true
    .have M9:=sM (h:=d) (hl x) k;exact iB (af [tT 18 ((x:Int)<l.length) aC,iX (x:Int) (l.length) aC,.s (Sp.jH (SR l d k t x) 0 k aC (λi hi oR=>by
    have pB:=sM (h:=d) (hl x) i;exact iB (ae [tT 23 ((i:Int)<k) aC,ag [gV (jy d i (l.getD x iq)),gV d] (vD _ _ aD aD),ai 32 ((kp (jt (jy d i (l.getD x iq)) d)) != 0) (AV (tY i aC)),ik ((i:Int)+1) aC]<|.e (af [.b 10 (.iM rfl:Bx.le (.cells 31 (iu (jq (jt (jy d i (l.getD x iq)) d)))) (.cells 31 (iu (jy d (i+1) (l.getD x iq)))))])) aF)
  (λhi=>by
    exact iB (af [tF 23 ((k:Int)<k) aC]) aF) aI:jD 6 Tryz.f28 (SR l d k t x 0) (.exit 2) ⟨57,true,[(11,.e (bP false)),(10,.box 10 0),(17,.e (iP x)),(16,.e (iP l.length)),(15,.e (kg l)),(5,.box 5 0),(2,.e (iP k)),(3,.e (iP t))],[(10,.cells 31 (iu (jy d k (l.getD x iq)))),(5,.cells 31 (iu d))]⟩) (af [.b 10 (.iM rfl:Bx.le (.cells 31 (iu (l.getD x iq))) (.cells 31 (iu (jy d 0 (l.getD x iq)))))]),
      ik (0-(t:Int)) aC,.c (qb (0-(t:Int))),ag [gV (jy d k (l.getD x iq)),gV (jz (0-(t:Int)))] (kI _ _ aD aD),tF 55 (0<(iO (jy d k (l.getD x iq)) (jz (0-(t:Int))))) (by rw[II tY,b9]at wN;omega),ik ((x:Int)+1) aC]) aF 
    .obtain ⟨N,BK,wR,wQ⟩:=(JX d (l.getD x iq) k).resolve_left tY;exact iB (af [tT 18 ((x:Int)<l.length) aC,iX (x:Int) (l.length) aC,.s (Sp.jH (SV l d k t x N) 0 N aC (λi hi oR=>by
    have pB:=sM (h:=d) (hl x) i;exact iB (ae [tT 23 ((i:Int)<k) aC,ag [gV (jy d i (l.getD x iq)),gV d] (vD _ _ aD aD),ai 32 ((kp (jt (jy d i (l.getD x iq)) d)) != 0) (AV (wR i aC)),ik ((i:Int)+1) aC]<|.e (af [.b 10 (.iM rfl:Bx.le (.cells 31 (iu (jq (jt (jy d i (l.getD x iq)) d)))) (.cells 31 (iu (jy d (i+1) (l.getD x iq)))))])) aF)
  (λhi=>by
    have pB:=sM (h:=d) (hl x) N;have tm:=Af pB;have td:=Af hd;obtain⟨T,hT⟩:∃ T,T=((k:Int)-N)*(Dy.ij d):=⟨_,rfl⟩
    have vN:=Kz (a:=(k:Int)-N) (b:=Dy.ij d) aC aC td.1 td.2;exact iB (af [tT 23 ((N:Int)<k) aC,ag [gV (jy d N (l.getD x iq)),gV d] (vD _ _ aD aD),ah 32 ((kp (jt (jy d N (l.getD x iq)) d)) != 0) (JW wQ),ag [gV (jy d N (l.getD x iq))] (mQ _ aD),ik ((k:Int)-N) aC,ag [gV d] (mQ _ aD),ik (((k:Int)-N)*(Dy.ij d)) aC,ik ((Dy.ij (jy d N (l.getD x iq)))+(((k:Int)-N)*(Dy.ij d))) aC,
    ik (0-(t:Int)) aC,ah 44 (decide (((Dy.ij (jy d N (l.getD x iq)))+(((k:Int)-N)*(Dy.ij d)))<=(0-(t:Int)))) (by rw[IJ BK wR wQ]at wN;exact wN)]) aF) aI:jD 6 Tryz.f28 (SV l d k t x N 0) (.exit 2) ⟨57,true,[(11,.e (bP true)),(10,.box 10 0),(17,.e (iP x)),(16,.e (iP l.length)),(15,.e (kg l)),(5,.box 5 0),(2,.e (iP k)),(3,.e (iP t))],[(10,.cells 31 (iu (jy d N (l.getD x iq)))),(5,.cells 31 (iu d))]⟩) (af [.b 10 (.iM rfl:Bx.le (.cells 31 (iu (l.getD x iq))) (.cells 31 (iu (jy d 0 (l.getD x iq)))))]),
      ik ((x:Int)+1) aC]) aF)
  (λhx=>by
    have th:=hl M;exact iB (af [tT 18 ((M:Int)<l.length) aC,iX (M:Int) (l.length) aC,.s (Sp.jH (SW l d k t M N) 0 N aC (λi hi oR=>by
    have pB:=sM (h:=d) (hl M) i;exact iB (ae [tT 23 ((i:Int)<k) aC,ag [gV (jy d i (l.getD M iq)),gV d] (vD _ _ aD aD),ai 32 ((kp (jt (jy d i (l.getD M iq)) d)) != 0) (AV (wR i aC)),ik ((i:Int)+1) aC]<|.e (af [.b 10 (.iM rfl:Bx.le (.cells 31 (iu (jq (jt (jy d i (l.getD M iq)) d)))) (.cells 31 (iu (jy d (i+1) (l.getD M iq)))))])) aF)
  (λhi=>by
    have pB:=sM (h:=d) (hl M) N;have tm:=Af pB;have td:=Af hd;obtain⟨T,hT⟩:∃ T,T=((k:Int)-N)*(Dy.ij d):=⟨_,rfl⟩
    have vN:=Kz (a:=(k:Int)-N) (b:=Dy.ij d) aC aC td.1 td.2;exact iB (af [tT 23 ((N:Int)<k) aC,ag [gV (jy d N (l.getD M iq)),gV d] (vD _ _ aD aD),ah 32 ((kp (jt (jy d N (l.getD M iq)) d)) != 0) (JW wQ),ag [gV (jy d N (l.getD M iq))] (mQ _ aD),ik ((k:Int)-N) aC,ag [gV d] (mQ _ aD),ik (((k:Int)-N)*(Dy.ij d)) aC,ik ((Dy.ij (jy d N (l.getD M iq)))+(((k:Int)-N)*(Dy.ij d))) aC,
    ik (0-(t:Int)) aC,ai 44 (decide (((Dy.ij (jy d N (l.getD M iq)))+(((k:Int)-N)*(Dy.ij d)))<=(0-(t:Int)))) (by rw[IJ BK wR wQ]at BP;exact BP)]) aF) aI:jD 6 Tryz.f28 (SW l d k t M N 0) .ret ⟨57,true,[(8,.e (bP false))],[]⟩) (af [.b 10 (.iM rfl:Bx.le (.cells 31 (iu (l.getD M iq))) (.cells 31 (iu (jy d 0 (l.getD M iq)))))])]) aF) aI:jD 2 Tryz.f28 (S1 l d k t 0) .ret ⟨57,true,[(8,.e (bP false))],[]⟩) .nil]) 
def Bv(l:List Dy)(d:Dy)(k t:Nat)(sd:l.length<=100)(hl:∀ i,(l.getD i iq).gY)(hd:d.gY)(hk:k<=16)(ht:t<=1000):gR 28 [kg l,gV d,iP k,iP t] (bP (qd l d k (t:Int))):=by
 by_cases hb:qd l d k (t:Int)=true
 .rw [hb];exact abc l d k t sd hl hd hk ht λx hx=>bN.1 hb x (bW.2 hx)
 .rw [aV hb];obtain⟨M,n1,n2,n3⟩:=Qb hb;have hf:∀ x,x<M->rA d (t:Int) k (l.getD x iq)=true:=λx hx=>by simpa using n3 x hx
  have BP:rA d (t:Int) k (l.getD M iq)=false:=by simpa using n2
  rcases JX d (l.getD M iq) k with ho|⟨N,h1,h2,h3⟩
  .exact aba l d k t sd hl hd hk ht M n1 hf BP ho
  .exact abb l d k t sd hl hd hk ht M n1 hf BP N h1 h2 h3
noncomputable def s6(s:jB)(x:List Iv)(d:Dy)(p:Nat):Option (List Iv):=@dite (Option (List Iv)) (lM s/\ko s.iI x/\d.gY/\0<d.iK/\8<=p/\p<=512) (Classical.propDecidable _) (λh=>Classical.choose (Sk s x d p h.1 h.2.1 h.2.2.1 h.2.2.2.1 h.2.2.2.2.1 h.2.2.2.2.2)) (λ_=>none)
def Sa(s:jB)(x:List Iv)(d:Dy)(p:Nat)(h:lM s)(hx:ko s.iI x)(hd:d.gY)(h0:0<d.iK)(ic:8<=p)(gX:p<=512):gR 13 [kU s,gZ x,gV d,iP (p:Int)] (Sj (s6 s x d p))/\(∀ b,s6 s x d p=some b->ko s.iI b/\se s x d b p=true):=by
 have hh:lM s/\ko s.iI x/\d.gY/\0<d.iK/\8<=p/\p<=512:=⟨h,hx,hd,h0,ic,gX⟩
 unfold s6;rw[fm hh];have:=cK (Sk s x d p h hx hd h0 ic gX);exact⟨this.1,this.2.1⟩
def IA(s:jB)(x:List Iv)(d:Dy)(p:Nat)(h:lM s)(hx:ko s.iI x)(hd:d.gY)(h0:0<d.iK)(ic:8<=p)(gX:p<=512)(hn:s6 s x d p=none):gR 13 [kU s,gZ x,gV d,iP (p:Int)] (.ig [.v (.slice none 0 0),iP 12]):=by
 have:=(Sa s x d p h hx hd h0 ic gX).1;rwa[hn]at this
def ade(s:jB)(x:List Iv)(d:Dy)(p:Nat)(h:lM s)(hx:ko s.iI x)(hd:d.gY)(h0:0<d.iK)(ic:8<=p)(gX:p<=512){b:List Iv}(hn:s6 s x d p=some b):gR 13 [kU s,gZ x,gV d,iP (p:Int)] (.ig [gZ b,iP 0]):=by
 have:=(Sa s x d p h hx hd h0 ic gX).1;rwa[hn]at this
def BA{j:Int}(h:-248<=j):decide (0<=iO (nD j) (jz (-60)))=true:=by
 have e:=Cv (-60);rw[<-e];refine a6 ?_;have:¬iO (nD j) (nD (4*(-60-2)))<0:=λq=>absurd (JL.1 q) aC 
 omega
def ab7{j:Int}(h:j < -248):decide (0<=iO (nD j) (jz (-60)))=false:=by
 have e:=Cv (-60);rw[<-e];refine a7 ?_;have:=(JL (i:=j) (j:=4*(-60-2))).2 aC;omega
def EP{j:Int}(h:-248<=j):decide (iO (nD j) (jz (-60))<0)=false:=by
 have e:=Cv (-60);rw[<-e];exact a7 λq=>absurd (JL.1 q) aC 
def Rs{j:Int}(h:j < -248):decide (iO (nD j) (jz (-60))<0)=true:=by
 have e:=Cv (-60);rw[<-e];exact a6 ((JL (i:=j) (j:=4*(-60-2))).2 aC)
def tG:(jz (-60)).gY:=G3 aE aE 
def sO{a b:Int}(h:a=b):Bx.le (.cells 31 [bP (nD a).neg,gW (gS (nD a).m),iP (nD a).e]) (.cells 31 [bP (nD b).neg,gW (gS (nD b).m),iP (nD b).e]):=by subst h;exact .iM rfl
def aa3(s:jB)(x:List Iv)(d:Dy)(mth ord mst:Int)(p t k:Nat)(h:lM s)(hx:ko s.iI x)(hd:d.gY)(h0:0<d.iK)(hk:k<=16)(ht:t<=200)(ic:8<=p)(gX:p<=512)(hO:gR 18 [.agg ([iP mth,iP ord,iP p]++iu d++[iP t,iP mst])] (.ig [iP (k:Int),iP 0]))(hM:gR 26 [kU s,gZ x,iP (k:Int),iP (p:Int)] (.ig [.v (.slice none 0 0),bP false])):gR 8 [kU s,gZ x,.agg ([iP mth,iP ord,iP p]++iu d++[iP t,iP mst])] (.ig [gV iq,iP 12]):=by
 have s1:=h.s1;have s4:=h.s4;have lx:=hx.len;exact ak call8 func8 (af [ag [.agg ([iP mth,iP ord,iP p]++iu d++[iP t,iP mst])] hO,ai 21 ((0:Int) != 0) aE,.c (zI s aD),.c (ux x aC aC hx.ok),ai 37 ((x.length:Int) != (s.iI:Int)) (vc aC),ag [kU s,gZ x,iP k,iP p] hM,.o 51 (.e qN:aj (.agg ar) (gV iq))]) 
def aa2(s:jB)(x:List Iv)(d:Dy)(mth ord mst:Int)(p t k:Nat)(h:lM s)(hx:ko s.iI x)(hd:d.gY)(h0:0<d.iK)(hk:k<=16)(ht:t<=200)(ic:8<=p)(gX:p<=512)(hO:gR 18 [.agg ([iP mth,iP ord,iP p]++iu d++[iP t,iP mst])] (.ig [iP (k:Int),iP 0]))(l:List Dy)(sd:l.length<=4)(hl:∀ i,(l.getD i iq).gY)(hM:gR 26 [kU s,gZ x,iP (k:Int),iP (p:Int)] (.ig [kg l,bP true]))(j0:Int)(hN:gR 15 [gV d] (.ig [gV (nD j0),bP true]))(hj:j0<=72)(n1 n2:Nat)(kE:∀ n,n<=n1->(nD (j0-(n:Int))).gY)(hA:∀ n:Nat,n<n1 -> -248<=j0-(n:Int)/\(qd l (nD (j0-(n:Int))) k (t:Int))=false)(hB:j0-(n1:Int) < -248)(h2:n2=0)(hD:∀ m:Nat,m<n2 -> -248<=j0-(n1:Int)-m/\(s6 s x (nD (j0-(n1:Int)-m)) p)=none):gR 8 [kU s,gZ x,.agg ([iP mth,iP ord,iP p]++iu d++[iP t,iP mst])] (.ig [gV iq,iP 12]):=by
 have s1:=h.s1;have s4:=h.s4;have lx:=hx.len;exact ak call8 func8 (af [ag [.agg ([iP mth,iP ord,iP p]++iu d++[iP t,iP mst])] hO,ai 21 ((0:Int) != 0) aE,.c (zI s aD),.c (ux x aC aC hx.ok),ai 37 ((x.length:Int) != (s.iI:Int)) (vc aC),ag [kU s,gZ x,iP k,iP p] hM,ag [gV d] hN,.s (Sp.jH (Rd s x d mth ord mst p t k l j0) 0 n1 aC (λn hn MS=>by
    obtain⟨sy,yF⟩:=hA n aC;have Cb:(nD (j0-(n:Int))).gY:=kE n aC;have uc:=tG;exact iB (ae [.c (qb (-60)),ag [gV (nD (j0-(n:Int))),gV (jz (-60))] (kI _ _ aD aD),ah 63 (decide (0<=(iO (nD (j0-(n:Int))) (jz (-60))))) (BA sy),.c (Bv l (nD (j0-(n:Int))) k t aC hl aD hk aC),ah 72 (!(qd l (nD (j0-(n:Int))) k (t:Int))) (by rw[yF];rfl),ag [gV (nD (j0-(n:Int)))] (zY _ aC aC)]<|.e (af [.b 12 (sO aC:Bx.le (.cells 31 (iu (nD (j0-(n:Int)-1)))) (.cells 31 (iu (nD (j0-((n+1:Nat):Int))))))])) aF)
  (λhn=>by
    have Cb:(nD (j0-(n1:Int))).gY:=kE n1 (bc _);have uc:=tG;exact iB (af [.c (qb (-60)),ag [gV (nD (j0-(n1:Int))),gV (jz (-60))] (kI _ _ aD aD),ai 63 (decide (0<=(iO (nD (j0-(n1:Int))) (jz (-60))))) (ab7 hB)]) aF) aI:jD 8 Tryz.f8 (Rd s x d mth ord mst p t k l j0 0) (.exit 0) ⟨108,true,[(11,.e (bP true)),(12,.box 12 0),(6,.box 6 0),(5,.box 5 0),(3,.box 3 0),(1,.e (gZ x))],[(12,.cells 31 (iu (nD (j0-(n1:Int))))),(6,.cells 31 ar),(5,.cells 33 ([iP mth,iP ord,iP p]++iu d++[iP t,iP mst])),(3,.cells 28 [iP s.tape.ie,kH s.tape.gT,kG s.tape.iw,iP s.iI,gZ s.params])]⟩) (af [.b 12 (sO aC:Bx.le (.cells 31 (iu (nD j0))) (.cells 31 (iu (nD (j0-((0:Nat):Int))))))]),.s (Sp.jH (Rh s x d mth ord mst p t k l j0 n1) 0 n2 aC (λm hm Jg=>by
    obtain⟨tS,hE⟩:=hD m aC;have pB:(nD (j0-(n1:Int)-m)).gY:=uh aC aC;have uc:=tG;exact iB (ae [tT 80 ((m:Int)<40) aC,.c (qb (-60)),ag [gV (nD (j0-(n1:Int)-m)),gV (jz (-60))] (kI _ _ aD aD),ai 87 (decide ((iO (nD (j0-(n1:Int)-m)) (jz (-60)))<0)) (EP tS),ag [kU s,gZ x,gV (nD (j0-(n1:Int)-m)),iP p] (IA s x _ p h hx aD (Gg _) ic gX hE),ai 99 ((12:Int)==0) aE,ag [gV (nD (j0-(n1:Int)-m))] (zY _ aC aC),ik ((m:Int)+1) aC]<|.e (af [.b 12 (sO aC:Bx.le (.cells 31 (iu (nD (j0-(n1:Int)-m-1)))) (.cells 31 (iu (nD (j0-(n1:Int)-((m+1:Nat):Int))))))])) aF)
  (λhm=>by
    have pB:(nD (j0-(n1:Int)-n2)).gY:=by
     have:=kE n1 (bc _);rwa[(aC:j0-(n1:Int)-n2=j0-(n1:Int))]
    have uc:=tG;exact iB (af [tT 80 ((n2:Int)<40) aC,.c (qb (-60)),ag [gV (nD (j0-(n1:Int)-n2)),gV (jz (-60))] (kI _ _ aD aD),ah 87 (decide ((iO (nD (j0-(n1:Int)-n2)) (jz (-60)))<0)) (Rs aC)]) aF) aI:jD 11 Tryz.f8 (Rh s x d mth ord mst p t k l j0 n1 0) (.exit 2) ⟨108,true,[(6,.box 6 0)],[(6,.cells 31 ar)]⟩) (af [.b 12 (sO aC:Bx.le (.cells 31 (iu (nD (j0-(n1:Int))))) (.cells 31 (iu (nD (j0-(n1:Int)-((0:Nat):Int))))))]),.o 107 (.e qN:aj (.agg ar) (gV iq))]) 
def aaZ(s:jB)(x:List Iv)(d:Dy)(mth ord mst:Int)(p t k:Nat)(h:lM s)(hx:ko s.iI x)(hd:d.gY)(h0:0<d.iK)(hk:k<=16)(ht:t<=200)(ic:8<=p)(gX:p<=512)(hO:gR 18 [.agg ([iP mth,iP ord,iP p]++iu d++[iP t,iP mst])] (.ig [iP (k:Int),iP 0]))(l:List Dy)(sd:l.length<=4)(hl:∀ i,(l.getD i iq).gY)(hM:gR 26 [kU s,gZ x,iP (k:Int),iP (p:Int)] (.ig [kg l,bP true]))(j0:Int)(hN:gR 15 [gV d] (.ig [gV (nD j0),bP true]))(hj:j0<=72)(n1 n2:Nat)(kE:∀ n,n<=n1->(nD (j0-(n:Int))).gY)(hA:∀ n:Nat,n<n1 -> -248<=j0-(n:Int)/\(qd l (nD (j0-(n:Int))) k (t:Int))=false)(xE:-248<=j0-(n1:Int))(yG:(qd l (nD (j0-(n1:Int))) k (t:Int))=true)(h2:n2=40)(hD:∀ m:Nat,m<n2 -> -248<=j0-(n1:Int)-m/\(s6 s x (nD (j0-(n1:Int)-m)) p)=none):gR 8 [kU s,gZ x,.agg ([iP mth,iP ord,iP p]++iu d++[iP t,iP mst])] (.ig [gV iq,iP 12]):=by
 have s1:=h.s1;have s4:=h.s4;have lx:=hx.len;exact ak call8 func8 (af [ag [.agg ([iP mth,iP ord,iP p]++iu d++[iP t,iP mst])] hO,ai 21 ((0:Int) != 0) aE,.c (zI s aD),.c (ux x aC aC hx.ok),ai 37 ((x.length:Int) != (s.iI:Int)) (vc aC),ag [kU s,gZ x,iP k,iP p] hM,ag [gV d] hN,.s (Sp.jH (Re s x d mth ord mst p t k l j0) 0 n1 aC (λn hn MS=>by
    obtain⟨sy,yF⟩:=hA n aC;have Cb:(nD (j0-(n:Int))).gY:=kE n aC;have uc:=tG;exact iB (ae [.c (qb (-60)),ag [gV (nD (j0-(n:Int))),gV (jz (-60))] (kI _ _ aD aD),ah 63 (decide (0<=(iO (nD (j0-(n:Int))) (jz (-60))))) (BA sy),.c (Bv l (nD (j0-(n:Int))) k t aC hl aD hk aC),ah 72 (!(qd l (nD (j0-(n:Int))) k (t:Int))) (by rw[yF];rfl),ag [gV (nD (j0-(n:Int)))] (zY _ aC aC)]<|.e (af [.b 12 (sO aC:Bx.le (.cells 31 (iu (nD (j0-(n:Int)-1)))) (.cells 31 (iu (nD (j0-((n+1:Nat):Int))))))])) aF)
  (λhn=>by
    have Cb:(nD (j0-(n1:Int))).gY:=kE n1 (bc _);have uc:=tG;exact iB (af [.c (qb (-60)),ag [gV (nD (j0-(n1:Int))),gV (jz (-60))] (kI _ _ aD aD),ah 63 (decide (0<=(iO (nD (j0-(n1:Int))) (jz (-60))))) (BA xE),.c (Bv l (nD (j0-(n1:Int))) k t aC hl aD hk aC),ai 72 (!(qd l (nD (j0-(n1:Int))) k (t:Int))) (by rw[yG];rfl)]) aF) aI:jD 8 Tryz.f8 (Re s x d mth ord mst p t k l j0 0) (.exit 0) ⟨108,true,[(11,.e (bP true)),(12,.box 12 0),(6,.box 6 0),(5,.box 5 0),(3,.box 3 0),(1,.e (gZ x))],[(12,.cells 31 (iu (nD (j0-(n1:Int))))),(6,.cells 31 ar),(5,.cells 33 ([iP mth,iP ord,iP p]++iu d++[iP t,iP mst])),(3,.cells 28 [iP s.tape.ie,kH s.tape.gT,kG s.tape.iw,iP s.iI,gZ s.params])]⟩) (af [.b 12 (sO aC:Bx.le (.cells 31 (iu (nD j0))) (.cells 31 (iu (nD (j0-((0:Nat):Int))))))]),.s (Sp.jH (Ri s x d mth ord mst p t k l j0 n1) 0 n2 aC (λm hm Jg=>by
    obtain⟨tS,hE⟩:=hD m aC;have pB:(nD (j0-(n1:Int)-m)).gY:=uh aC aC;have uc:=tG;exact iB (ae [tT 80 ((m:Int)<40) aC,.c (qb (-60)),ag [gV (nD (j0-(n1:Int)-m)),gV (jz (-60))] (kI _ _ aD aD),ai 87 (decide ((iO (nD (j0-(n1:Int)-m)) (jz (-60)))<0)) (EP tS),ag [kU s,gZ x,gV (nD (j0-(n1:Int)-m)),iP p] (IA s x _ p h hx aD (Gg _) ic gX hE),ai 99 ((12:Int)==0) aE,ag [gV (nD (j0-(n1:Int)-m))] (zY _ aC aC),ik ((m:Int)+1) aC]<|.e (af [.b 12 (sO aC:Bx.le (.cells 31 (iu (nD (j0-(n1:Int)-m-1)))) (.cells 31 (iu (nD (j0-(n1:Int)-((m+1:Nat):Int))))))])) aF)
  (λhm=>by
    exact iB (af [tF 80 ((n2:Int)<40) aC]) aF) aI:jD 11 Tryz.f8 (Ri s x d mth ord mst p t k l j0 n1 0) (.exit 2) ⟨108,true,[(6,.box 6 0)],[(6,.cells 31 ar)]⟩) (af [.b 12 (sO aC:Bx.le (.cells 31 (iu (nD (j0-(n1:Int))))) (.cells 31 (iu (nD (j0-(n1:Int)-((0:Nat):Int))))))]),.o 107 (.e qN:aj (.agg ar) (gV iq))]) 
def aa4(s:jB)(x:List Iv)(d:Dy)(mth ord mst:Int)(p t k:Nat)(h:lM s)(hx:ko s.iI x)(hd:d.gY)(h0:0<d.iK)(hk:k<=16)(ht:t<=200)(ic:8<=p)(gX:p<=512)(hO:gR 18 [.agg ([iP mth,iP ord,iP p]++iu d++[iP t,iP mst])] (.ig [iP (k:Int),iP 0]))(l:List Dy)(sd:l.length<=4)(hl:∀ i,(l.getD i iq).gY)(hM:gR 26 [kU s,gZ x,iP (k:Int),iP (p:Int)] (.ig [kg l,bP true]))(j0:Int)(hN:gR 15 [gV d] (.ig [gV (nD j0),bP true]))(hj:j0<=72)(n1 n2:Nat)(kE:∀ n,n<=n1->(nD (j0-(n:Int))).gY)(hA:∀ n:Nat,n<n1 -> -248<=j0-(n:Int)/\(qd l (nD (j0-(n:Int))) k (t:Int))=false)(xE:-248<=j0-(n1:Int))(yG:(qd l (nD (j0-(n1:Int))) k (t:Int))=true)(h2:n2<40)(hS:j0-(n1:Int)-n2 < -248)(TA:-249<=j0-(n1:Int)-n2)(hD:∀ m:Nat,m<n2 -> -248<=j0-(n1:Int)-m/\(s6 s x (nD (j0-(n1:Int)-m)) p)=none):gR 8 [kU s,gZ x,.agg ([iP mth,iP ord,iP p]++iu d++[iP t,iP mst])] (.ig [gV iq,iP 12]):=by
 have s1:=h.s1;have s4:=h.s4;have lx:=hx.len;exact ak call8 func8 (af [ag [.agg ([iP mth,iP ord,iP p]++iu d++[iP t,iP mst])] hO,ai 21 ((0:Int) != 0) aE,.c (zI s aD),.c (ux x aC aC hx.ok),ai 37 ((x.length:Int) != (s.iI:Int)) (vc aC),ag [kU s,gZ x,iP k,iP p] hM,ag [gV d] hN,.s (Sp.jH (Rf s x d mth ord mst p t k l j0) 0 n1 aC (λn hn MS=>by
    obtain⟨sy,yF⟩:=hA n aC;have Cb:(nD (j0-(n:Int))).gY:=kE n aC;have uc:=tG;exact iB (ae [.c (qb (-60)),ag [gV (nD (j0-(n:Int))),gV (jz (-60))] (kI _ _ aD aD),ah 63 (decide (0<=(iO (nD (j0-(n:Int))) (jz (-60))))) (BA sy),.c (Bv l (nD (j0-(n:Int))) k t aC hl aD hk aC),ah 72 (!(qd l (nD (j0-(n:Int))) k (t:Int))) (by rw[yF];rfl),ag [gV (nD (j0-(n:Int)))] (zY _ aC aC)]<|.e (af [.b 12 (sO aC:Bx.le (.cells 31 (iu (nD (j0-(n:Int)-1)))) (.cells 31 (iu (nD (j0-((n+1:Nat):Int))))))])) aF)
  (λhn=>by
    have Cb:(nD (j0-(n1:Int))).gY:=kE n1 (bc _);have uc:=tG;exact iB (af [.c (qb (-60)),ag [gV (nD (j0-(n1:Int))),gV (jz (-60))] (kI _ _ aD aD),ah 63 (decide (0<=(iO (nD (j0-(n1:Int))) (jz (-60))))) (BA xE),.c (Bv l (nD (j0-(n1:Int))) k t aC hl aD hk aC),ai 72 (!(qd l (nD (j0-(n1:Int))) k (t:Int))) (by rw[yG];rfl)]) aF) aI:jD 8 Tryz.f8 (Rf s x d mth ord mst p t k l j0 0) (.exit 0) ⟨108,true,[(11,.e (bP true)),(12,.box 12 0),(6,.box 6 0),(5,.box 5 0),(3,.box 3 0),(1,.e (gZ x))],[(12,.cells 31 (iu (nD (j0-(n1:Int))))),(6,.cells 31 ar),(5,.cells 33 ([iP mth,iP ord,iP p]++iu d++[iP t,iP mst])),(3,.cells 28 [iP s.tape.ie,kH s.tape.gT,kG s.tape.iw,iP s.iI,gZ s.params])]⟩) (af [.b 12 (sO aC:Bx.le (.cells 31 (iu (nD j0))) (.cells 31 (iu (nD (j0-((0:Nat):Int))))))]),.s (Sp.jH (Rj s x d mth ord mst p t k l j0 n1) 0 n2 aC (λm hm Jg=>by
    obtain⟨tS,hE⟩:=hD m aC;have pB:(nD (j0-(n1:Int)-m)).gY:=uh aC aC;have uc:=tG;exact iB (ae [tT 80 ((m:Int)<40) aC,.c (qb (-60)),ag [gV (nD (j0-(n1:Int)-m)),gV (jz (-60))] (kI _ _ aD aD),ai 87 (decide ((iO (nD (j0-(n1:Int)-m)) (jz (-60)))<0)) (EP tS),ag [kU s,gZ x,gV (nD (j0-(n1:Int)-m)),iP p] (IA s x _ p h hx aD (Gg _) ic gX hE),ai 99 ((12:Int)==0) aE,ag [gV (nD (j0-(n1:Int)-m))] (zY _ aC aC),ik ((m:Int)+1) aC]<|.e (af [.b 12 (sO aC:Bx.le (.cells 31 (iu (nD (j0-(n1:Int)-m-1)))) (.cells 31 (iu (nD (j0-(n1:Int)-((m+1:Nat):Int))))))])) aF)
  (λhm=>by
    have pB:(nD (j0-(n1:Int)-n2)).gY:=uh aC aC;have uc:=tG;exact iB (af [tT 80 ((n2:Int)<40) aC,.c (qb (-60)),ag [gV (nD (j0-(n1:Int)-n2)),gV (jz (-60))] (kI _ _ aD aD),ah 87 (decide ((iO (nD (j0-(n1:Int)-n2)) (jz (-60)))<0)) (Rs hS)]) aF) aI:jD 11 Tryz.f8 (Rj s x d mth ord mst p t k l j0 n1 0) (.exit 2) ⟨108,true,[(6,.box 6 0)],[(6,.cells 31 ar)]⟩) (af [.b 12 (sO aC:Bx.le (.cells 31 (iu (nD (j0-(n1:Int))))) (.cells 31 (iu (nD (j0-(n1:Int)-((0:Nat):Int))))))]),.o 107 (.e qN:aj (.agg ar) (gV iq))]) 
def aa1(s:jB)(x:List Iv)(d:Dy)(mth ord mst:Int)(p t k:Nat)(h:lM s)(hx:ko s.iI x)(hd:d.gY)(h0:0<d.iK)(hk:k<=16)(ht:t<=200)(ic:8<=p)(gX:p<=512)(hO:gR 18 [.agg ([iP mth,iP ord,iP p]++iu d++[iP t,iP mst])] (.ig [iP (k:Int),iP 0]))(l:List Dy)(sd:l.length<=4)(hl:∀ i,(l.getD i iq).gY)(hM:gR 26 [kU s,gZ x,iP (k:Int),iP (p:Int)] (.ig [kg l,bP true]))(j0:Int)(hN:gR 15 [gV d] (.ig [gV (nD j0),bP true]))(hj:j0<=72)(n1 n2:Nat)(kE:∀ n,n<=n1->(nD (j0-(n:Int))).gY)(hA:∀ n:Nat,n<n1 -> -248<=j0-(n:Int)/\(qd l (nD (j0-(n:Int))) k (t:Int))=false)(xE:-248<=j0-(n1:Int))(yG:(qd l (nD (j0-(n1:Int))) k (t:Int))=true)(h2:n2<40)(hS:-248<=j0-(n1:Int)-n2)(bx:List Iv)(hE:(s6 s x (nD (j0-(n1:Int)-n2)) p)=some bx)(hD:∀ m:Nat,m<n2 -> -248<=j0-(n1:Int)-m/\(s6 s x (nD (j0-(n1:Int)-m)) p)=none):gR 8 [kU s,gZ x,.agg ([iP mth,iP ord,iP p]++iu d++[iP t,iP mst])] (.ig [gV (nD (j0-(n1:Int)-n2)),iP 0]):=by
 have s1:=h.s1;have s4:=h.s4;have lx:=hx.len;exact ak call8 func8 (af [ag [.agg ([iP mth,iP ord,iP p]++iu d++[iP t,iP mst])] hO,ai 21 ((0:Int) != 0) aE,.c (zI s aD),.c (ux x aC aC hx.ok),ai 37 ((x.length:Int) != (s.iI:Int)) (vc aC),ag [kU s,gZ x,iP k,iP p] hM,ag [gV d] hN,.s (Sp.jH (Rg s x d mth ord mst p t k l j0) 0 n1 aC (λn hn MS=>by
    obtain⟨sy,yF⟩:=hA n aC;have Cb:(nD (j0-(n:Int))).gY:=kE n aC;have uc:=tG;exact iB (ae [.c (qb (-60)),ag [gV (nD (j0-(n:Int))),gV (jz (-60))] (kI _ _ aD aD),ah 63 (decide (0<=(iO (nD (j0-(n:Int))) (jz (-60))))) (BA sy),.c (Bv l (nD (j0-(n:Int))) k t aC hl aD hk aC),ah 72 (!(qd l (nD (j0-(n:Int))) k (t:Int))) (by rw[yF];rfl),ag [gV (nD (j0-(n:Int)))] (zY _ aC aC)]<|.e (af [.b 12 (sO aC:Bx.le (.cells 31 (iu (nD (j0-(n:Int)-1)))) (.cells 31 (iu (nD (j0-((n+1:Nat):Int))))))])) aF)
  (λhn=>by
    have Cb:(nD (j0-(n1:Int))).gY:=kE n1 (bc _);have uc:=tG;exact iB (af [.c (qb (-60)),ag [gV (nD (j0-(n1:Int))),gV (jz (-60))] (kI _ _ aD aD),ah 63 (decide (0<=(iO (nD (j0-(n1:Int))) (jz (-60))))) (BA xE),.c (Bv l (nD (j0-(n1:Int))) k t aC hl aD hk aC),ai 72 (!(qd l (nD (j0-(n1:Int))) k (t:Int))) (by rw[yG];rfl)]) aF) aI:jD 8 Tryz.f8 (Rg s x d mth ord mst p t k l j0 0) (.exit 0) ⟨108,true,[(11,.e (bP true)),(12,.box 12 0),(6,.box 6 0),(5,.box 5 0),(3,.box 3 0),(1,.e (gZ x))],[(12,.cells 31 (iu (nD (j0-(n1:Int))))),(6,.cells 31 ar),(5,.cells 33 ([iP mth,iP ord,iP p]++iu d++[iP t,iP mst])),(3,.cells 28 [iP s.tape.ie,kH s.tape.gT,kG s.tape.iw,iP s.iI,gZ s.params])]⟩) (af [.b 12 (sO aC:Bx.le (.cells 31 (iu (nD j0))) (.cells 31 (iu (nD (j0-((0:Nat):Int))))))]),.s (Sp.jH (Rk s x d mth ord mst p t k l j0 n1) 0 n2 aC (λm hm Jg=>by
    obtain⟨tS,hE⟩:=hD m aC;have pB:(nD (j0-(n1:Int)-m)).gY:=uh aC aC;have uc:=tG;exact iB (ae [tT 80 ((m:Int)<40) aC,.c (qb (-60)),ag [gV (nD (j0-(n1:Int)-m)),gV (jz (-60))] (kI _ _ aD aD),ai 87 (decide ((iO (nD (j0-(n1:Int)-m)) (jz (-60)))<0)) (EP tS),ag [kU s,gZ x,gV (nD (j0-(n1:Int)-m)),iP p] (IA s x _ p h hx aD (Gg _) ic gX hE),ai 99 ((12:Int)==0) aE,ag [gV (nD (j0-(n1:Int)-m))] (zY _ aC aC),ik ((m:Int)+1) aC]<|.e (af [.b 12 (sO aC:Bx.le (.cells 31 (iu (nD (j0-(n1:Int)-m-1)))) (.cells 31 (iu (nD (j0-(n1:Int)-((m+1:Nat):Int))))))])) aF)
  (λhm=>by
    have pB:(nD (j0-(n1:Int)-n2)).gY:=uh aC aC;have uc:=tG;exact iB (af [tT 80 ((n2:Int)<40) aC,.c (qb (-60)),ag [gV (nD (j0-(n1:Int)-n2)),gV (jz (-60))] (kI _ _ aD aD),ai 87 (decide ((iO (nD (j0-(n1:Int)-n2)) (jz (-60)))<0)) (EP hS),ag [kU s,gZ x,gV (nD (j0-(n1:Int)-n2)),iP p] (ade s x _ p h hx aD (Gg _) ic gX hE),ah 99 ((0:Int)==0) aE]) aF) aI:jD 11 Tryz.f8 (Rk s x d mth ord mst p t k l j0 n1 0) .ret ⟨108,true,[(7,.e (iP 0)),(6,.box 6 0)],[(6,.cells 31 (iu (nD (j0-(n1:Int)-n2))))]⟩) (af [.b 12 (sO aC:Bx.le (.cells 31 (iu (nD (j0-(n1:Int))))) (.cells 31 (iu (nD (j0-(n1:Int)-((0:Nat):Int))))))])]) 
def j72{j0:Int}{d:Dy}(hq:(nD j0).q<=d.q)(hc:iO d (jz 20)<=0):j0<=72:=by
 have e:=Cv 20;rw[<-e,oJ]at hc;apply bL;intro q;have:=AS (aC:4*(20-2)<j0);exact absurd (bH hq hc) (gK.2 this)
def Im:Option Int->E
 |some j=>.ig [gV (nD j),iP 0]
 |none=>.ig [gV iq,iP 12]
def aa0(s:jB)(x:List Iv)(d:Dy)(mth ord mst:Int)(p t k:Nat)(h:lM s)(hx:ko s.iI x)(hd:d.gY)(h0:0<d.iK)(hk:k<=16)(ht:t<=200)(ic:8<=p)(gX:p<=512)(hO:gR 18 [.agg ([iP mth,iP ord,iP p]++iu d++[iP t,iP mst])] (.ig [iP (k:Int),iP 0]))(hc:iO d (jz 20)<=0):∃ (o:Option Int) (j0:Int) (n1 n2:Nat),gR 8 [kU s,gZ x,.agg ([iP mth,iP ord,iP p]++iu d++[iP t,iP mst])] (Im o)/\qn d.m d.e=nD j0/\(nD j0).q<=d.q/\j0<=72 /\
 Eu (λj=>qd (we s x k p) (nD j) k (t:Int)) (λj=>(s6 s x (nD j) p).isSome) j0 n1 n2 /\
 (∀ j,o=some j->AP s x k p=true/\CY j0 n1 n2/\j=j0-n1-n2)/\(o=none->AP s x k p=true->¬CY j0 n1 n2):=by
 obtain⟨j0,yM,MI,Dv⟩:=Ob hd h0;have hj:=j72 Dv hc;obtain⟨n1,n2,hL⟩:=ag0 (λj=>qd (we s x k p) (nD j) k (t:Int)) (λj=>(s6 s x (nD j) p).isSome) j0;have hM:=abk s x k p h hx hk ic gX;by_cases hb:AP s x k p=true
 .rw [aZ hb]at hM;have hN:=QY d hd h0;rw[yM]at hN;obtain⟨sd,hl⟩:=ag9 h hx hk ic gX hb;have kE:∀ n,n<=n1->(nD (j0-(n:Int))).gY:=λn hn=>by
   rcases n with _|n
   .rwa [(aC:j0-((0:Nat):Int)=j0)]
   .have:=(hL.a n aC).1;exact uh aC aC 
  have hA:∀ n:Nat,n<n1 -> -248<=j0-(n:Int)/\qd (we s x k p) (nD (j0-(n:Int))) k (t:Int)=false:=λn hn=>hL.a n hn
  have hD:∀ m:Nat,m<n2 -> -248<=j0-(n1:Int)-m/\s6 s x (nD (j0-(n1:Int)-m)) p=none:=λm hm=>by
   obtain⟨d1,d2⟩:=hL.d m hm;refine⟨d1,?_⟩;cases he:s6 s x (nD (j0-(n1:Int)-m)) p with
   |none=>rfl
   |some b=>simp only[he]at d2;cases d2
  by_cases hB:j0-(n1:Int) < -248
  .have h2:n2=0:=by
    apply bL;intro q;have:=(hL.d 0 aC).1;omega
   exact⟨none,j0,n1,n2,aa2 s x d mth ord mst p t k h hx hd h0 hk ht ic gX hO _ sd hl hM j0 hN hj n1 n2 kE hA hB h2 hD,yM,Dv,hj,hL,nofun,λ_ _ q=>by have:=q.2;omega⟩
  .have xE:-248<=j0-(n1:Int):= aC ;have yG:=hL.b.resolve_left hB;have amk:=hL.c;by_cases Tm:n2=40
   .exact ⟨none,j0,n1,n2,aaZ s x d mth ord mst p t k h hx hd h0 hk ht ic gX hO _ sd hl hM j0 hN hj n1 n2 kE hA xE yG Tm hD,yM,Dv,hj,hL,nofun,λ_ _ q=>by have:=q.1;omega⟩
   by_cases hS:j0-(n1:Int)-n2 < -248
   .have TA:-249<=j0-(n1:Int)-n2:=by
     by_cases q:n2=0
     .omega
     .have:=(hL.d (n2-1) aC).1;omega
    exact⟨none,j0,n1,n2,aa4 s x d mth ord mst p t k h hx hd h0 hk ht ic gX hO _ sd hl hM j0 hN hj n1 n2 kE hA xE yG aC hS TA hD,yM,Dv,hj,hL,nofun,λ_ _ q=>by have:=q.2;omega⟩
   .have hE:=(hL.e.resolve_left Tm).resolve_left hS;obtain⟨bx,iW⟩:=fN.1 hE;refine⟨some (j0-n1-n2),j0,n1,n2,aa1 s x d mth ord mst p t k h hx hd h0 hk ht ic gX hO _ sd hl hM j0 hN hj n1 n2 kE hA xE yG aC aC bx iW hD,yM,Dv,hj,hL,λj MJ=>?_,nofun⟩;cases MJ;exact⟨hb,⟨aC,aC⟩,rfl⟩
 .rw [aY hb]at hM;exact⟨none,j0,n1,n2,aa3 s x d mth ord mst p t k h hx hd h0 hk ht ic gX hO hM,yM,Dv,hj,hL,nofun,λ_ q=>absurd q hb⟩
def Y2(z:Iv)(p N:Nat)(x:Nat):PS:=⟨39,true,[(8,.e (iP ((2*x+3:Nat):Int))),(7,.box 7 0),(6,.box 6 0),(5,.box 5 0),(4,.box 4 0),(2,.box 2 0)],[(7,.cells 44 (iF (uW z p x))),(6,.cells 44 (iF (nT z p x))),(5,.cells 44 (iF (oz z p))),(4,.cells 44 au),(2,.cells 203 [iP p])]⟩
def alP(z:Iv)(p N:Nat)(hz:z.gY)(ic:8<=p)(gX:p<=512)(h2:N<=1000)(jJ:∀ x,x<N->oL (nT z p x) p=false)(hN:oL (nT z p N) p=true):gR 258 [.agg [iP p],ib z] (ib (DS z p N)):=by
 have hsq:=Kt hz (aC:1<=p) (aC:p<=4096);have t0:=xT hz ic gX N;have s0:=Cp hz ic gX N;have r0:=C8 t0;have a0:=qP s0 r0 (aC:1<=p) (aC:p<=4096);exact ak call258 func258 (ae [ag [ib z,iP p] (QC _ aD _ aC aC),.s (Sp.jH (Y2 z p N) 0 N aC (λx hx mw=>by
    have t0:=xT hz ic gX x;have s0:=Cp hz ic gX x;have q0:(iz (nT z p x) (oz z p) p).gY:=og _ _ aC aC;have n1:(jk ((2*x+3:Nat):Int)).gY:=Cz _ aC;have d1:(jj (iz (nT z p x) (oz z p) p) (jk ((2*x+3:Nat):Int)) p).gY:=qc _ _ aC aC;exact iB (ae [.c (KN p (nT z p x) aD aC aC),ai 17 (oL (nT z p x) p) (jJ x aC),.c (KM p (nT z p x) (oz z p) aD aD aC aC),.c (xj ((2*x+3:Nat):Int) aC),.c (G7 p (iz (nT z p x) (oz z p) p) (jk ((2*x+3:Nat):Int)) aD aD aC aC),.c (Bm p (uW z p x) (jj (iz (nT z p x) (oz z p) p) (jk ((2*x+3:Nat):Int)) p) aD aD aC aC),ik (((2*x+3:Nat):Int)+2) aC]<|.e (af [.o 8 (aq (((2*x+3)+2:Nat):Int) ((2*(x+1)+3:Nat):Int) aO),.b 7 (.iM rfl:Bx.le (.cells 44 (iF (jE (uW z p x) (jj (iz (nT z p x) (oz z p) p) (jk ((2*x+3:Nat):Int)) p) p))) (.cells 44 (iF (uW z p (x+1))))),.b 6 (.iM rfl:Bx.le (.cells 44 (iF (iz (nT z p x) (oz z p) p))) (.cells 44 (iF (nT z p (x+1)))))])) aF)
  (λhx=>by
    have t0:=xT hz ic gX N;have s0:=Cp hz ic gX N;have q0:(iz (nT z p N) (oz z p) p).gY:=og _ _ aC aC;have n1:(jk ((2*N+3:Nat):Int)).gY:=Cz _ aC;have d1:(jj (iz (nT z p N) (oz z p) p) (jk ((2*N+3:Nat):Int)) p).gY:=qc _ _ aC aC;exact iB (af [.c (KN p (nT z p N) aD aC aC),ah 17 (oL (nT z p N) p) hN]) aF) aI:jD 4 f258 (Y2 z p N 0) (.exit 0) ⟨39,true,[(7,.box 7 0),(6,.box 6 0),(4,.box 4 0),(2,.box 2 0)],[(7,.cells 44 (iF (uW z p N))),(6,.cells 44 (iF (nT z p N))),(4,.cells 44 au),(2,.cells 203 [iP p])]⟩) (af [.o 8 (aq 3 ((2*0+3:Nat):Int) aO),.b 7 (.iM rfl:Bx.le (.cells 44 (iF z)) (.cells 44 (iF (uW z p 0)))),.b 6 (.iM rfl:Bx.le (.cells 44 (iF z)) (.cells 44 (iF (nT z p 0))))]),ag [ib (nT z p N)] (Y8 _ aD),.c (Bm p (uW z p N) (qQ (nT z p N)) aD aD aC aC),.c (Hy (jE (uW z p N) (qQ (nT z p N)) p) aD 1 aC aC)]<|rR (ib (DS z p N)) (.refl _:E.le (ib (lK (jE (uW z p N) (qQ (nT z p N)) p) 1)) (ib (DS z p N)))) 
def CX(f:Nat->Rat)(X:Iv):Prop:=∃ N0,∀ M,N0<=M->X.jR (f M)
def CX.mono{f:Nat->Rat}{X Y:Iv}(h:CX f X)(k:∀ r,X.jR r->Y.jR r):CX f Y:=h.imp λ_ h M hM=>k _ (h M hM)
def Y3{z:Iv}(hz:z.gY)(hb:z.all=true\/Sub z (pv (-1))){p:Nat}(ic:8<=p)(gX:p<=512):∃ Z,Z.gY/\(∀ r,z.jR r->iR r*2<=1->CX (λM=>AQ r M*2) Z)/\gR 258 [.agg [iP p],ib z] (ib Z):=by
 obtain⟨N,h1,h2,h3⟩:=agF hz hb ic gX;exact⟨DS z p N,agE hz ic gX N,λr hr ha=>⟨N,λM hM=>agD hz hr ha ic gX h1 M hM⟩,alP z p N hz ic gX h1 h2 h3⟩
def ak4{p:Nat}(ic:8<=p)(gX:p<=512):(jj (jk 1) (jk 3) p).gY/\(jj (jk 1) (jk 3) p).jR (1/3)/\Sub (jj (jk 1) (jk 3) p) (pv (-1)):=by
 have v1:(jk 1).gY:=wi aE;have v3:(jk 3).gY:=wi aE;have h1:=zh 1;have h3:=zh 3;refine⟨qc _ _ aC aC,?_,?_⟩
 .have:=It v1 v3 (p:=p) aC aC h1 h3;rwa[show((1:Int):Rat)/((3:Int):Rat)=1/3 from rfl]at this
 .have hs:nn (jk 3)≠0:=Ph rfl (.inl (by show 0<(iS 3).q;rw[A5];decide));refine EH (Is v1 v3 rfl hs (p:=p) aC aC) aC aE aE ?_;rintro r ⟨a,b,ha,hb,rfl⟩;obtain⟨a1,a2⟩:=ha.j8 rfl;obtain⟨b1,b2⟩:=hb.j8 rfl;change (iS 1).q<=a at a1;change a<=(iS 1).q at a2;change (iS 3).q<=b at b1;change b<=(iS 3).q at b2;rw[A5]at a1 a2 b1 b2;have ea:a=1:=fp a2 a1;have eb:b=3:=fp b2 b1;subst ea eb;have:P2 (-1)=1/2:= aL ;rw[this];exact⟨aL,aL⟩
def al5(p:Nat)(Z:Iv)(hZ:Z.gY)(hL:gR 258 [.agg [iP (((min (p+16) 512):Nat):Int)],ib (jj (jk 1) (jk 3) (min (p+16) 512))] (ib Z))(ic:8<=p)(gX:p<=512):gR 260 [iP p] (ib (lJ Z p)):=by
 have v1:(jk 1).gY:=wi aE;have v3:(jk 3).gY:=wi aE;exact ak call260 func260 (af [tF 5 ((p:Int)<8) aC,tF 8 (512<(p:Int)) aC,.c (PI p 16 aC aC),.c (xj 1 aC),.c (xj 3 aC),.c (G7 (min (p+16) 512) (jk 1) (jk 3) aD aD aC aC),ag [.agg [iP ((min (p+16) 512:Nat):Int)],ib (jj (jk 1) (jk 3) (min (p+16) 512))] hL,.c (EF Z aD p aC aC)]) 
def al4{p:Nat}(ic:8<=p)(gX:p<=512):∃ Z,Z.gY/\CX (λM=>AQ (1/3) M*2) Z/\gR 260 [iP (p:Int)] (ib Z):=by
 obtain⟨t1,t2,t3⟩:=ak4 (p:=min (p+16) 512) aC aC;obtain⟨Z,h1,h2,h3⟩:=Y3 t1 (.inr t3) (p:=min (p+16) 512) aC aC;refine⟨lJ Z p,Ed h1 aC aC,(h2 _ t2 aL).mono λr hr=>GH h1 aC aC hr,al5 p Z h1 h3 ic gX⟩
def yg:Iv:=⟨iq,iq,false⟩
def Zc:E.le (.agg au) (ib yg):=
 .agg (.cons (.refl _) (.cons Cy (.cons (.refl _) (.cons (.refl _) (.cons Cy (.cons (.refl _) (.cons (.refl _) .nil)))))))
def ama(d:Dy)(p:Nat)(hd:d.gY)(h1:iO d ⟨false,1,0⟩=0)(ic:8<=p)(gX:p<=512):gR 231 [gV d,iP p] (ib yg):=by
 have v1:=D2;exact ak call231 func231 (ae [ag [iP 1] K9,ag [gV d,gV (Dy.mk false 1 0)] (kI _ _ aD aD),ah 12 ((iO d (Dy.mk false 1 0))==0) (by rw[h1];rfl)]<|rR (ib yg) (Zc:E.le (.agg au) (ib yg))) 
def amb(d:Dy)(p:Nat)(Z Y:Iv)(hd:d.gY)(h1:¬iO d ⟨false,1,0⟩=0)(Uu:-20000<=d.ij)(sH:d.ij<=20000)(hZ:Z.gY)(hY:Y.gY)(hL:gR 258 [.agg [iP (((min (p+40) 512):Nat):Int)],ib (jj (jE (lK (lJ (ml d) (min (p+40) 512)) (0-(Dy.ij d))) (jk (-1)) (min (p+40) 512)) (jE (lK (lJ (ml d) (min (p+40) 512)) (0-(Dy.ij d))) (jk 1) (min (p+40) 512)) (min (p+40) 512))] (ib Z))(hL2:gR 260 [iP (((min (p+40) 512):Nat):Int)] (ib Y))(ic:8<=p)(gX:p<=512):gR 231 [gV d,iP p] (ib (lJ (jE Z (iz (jk d.ij) Y (min (p+40) 512)) (min (p+40) 512)) p)):=by
 have v1:=D2;have vp:=vi hd;have vr:(lJ (ml d) (min (p+40) 512)).gY:=Ed vp aC aC;have vs:(lK (lJ (ml d) (min (p+40) 512)) (0-(Dy.ij d))).gY:=GN vr _;have n1:(jk 1).gY:=wi aE;have n2:(jk (-1)).gY:=wi aE;have a1:(jE (lK (lJ (ml d) (min (p+40) 512)) (0-(Dy.ij d))) (jk (-1)) (min (p+40) 512)).gY:=qP vs n2 aC aC;have a2:(jE (lK (lJ (ml d) (min (p+40) 512)) (0-(Dy.ij d))) (jk 1) (min (p+40) 512)).gY:=qP vs n1 aC aC;have a3:(jj (jE (lK (lJ (ml d) (min (p+40) 512)) (0-(Dy.ij d))) (jk (-1)) (min (p+40) 512)) (jE (lK (lJ (ml d) (min (p+40) 512)) (0-(Dy.ij d))) (jk 1) (min (p+40) 512)) (min (p+40) 512)).gY:=qc _ _ aC aC;have nt:(jk d.ij).gY:=wi aC;have m1:(iz (jk d.ij) Y (min (p+40) 512)).gY:=og _ _ aC aC;have m2:(jE Z (iz (jk d.ij) Y (min (p+40) 512)) (min (p+40) 512)).gY:=qP hZ m1 aC aC;exact ak call231 func231 (af [ag [iP 1] K9,ag [gV d,gV (Dy.mk false 1 0)] (kI _ _ aD aD),ai 12 ((iO d (Dy.mk false 1 0))==0) (by simpa using h1),.c (PI p 40 aC aC),ag [gV d] (mQ _ aD),.c (AK d aD),.c (EF (ml d) aD (min (p+40) 512) aC aC),
  ik (0-(Dy.ij d)) aC,.c (Hy (lJ (ml d) (min (p+40) 512)) aD (0-(Dy.ij d)) aC aC),.c (xj (-1) aC),.c (Bm (min (p+40) 512) (lK (lJ (ml d) (min (p+40) 512)) (0-(Dy.ij d))) (jk (-1)) aD aD aC aC),.c (xj 1 aC),.c (Bm (min (p+40) 512) (lK (lJ (ml d) (min (p+40) 512)) (0-(Dy.ij d))) (jk 1) aD aD aC aC),.c (G7 (min (p+40) 512) (jE (lK (lJ (ml d) (min (p+40) 512)) (0-(Dy.ij d))) (jk (-1)) (min (p+40) 512)) (jE (lK (lJ (ml d) (min (p+40) 512)) (0-(Dy.ij d))) (jk 1) (min (p+40) 512)) aD aD aC aC),ag [.agg [iP ((min (p+40) 512:Nat):Int)],ib (jj (jE (lK (lJ (ml d) (min (p+40) 512)) (0-(Dy.ij d))) (jk (-1)) (min (p+40) 512)) (jE (lK (lJ (ml d) (min (p+40) 512)) (0-(Dy.ij d))) (jk 1) (min (p+40) 512)) (min (p+40) 512))] hL,.c (xj (Dy.ij d) aC),ag [iP ((min (p+40) 512:Nat):Int)] hL2,.c (KM (min (p+40) 512) (jk (Dy.ij d)) Y aD aD aC aC),.c (Bm (min (p+40) 512) Z (iz (jk (Dy.ij d)) Y (min (p+40) 512)) aD aD aC aC),.c (EF (jE Z (iz (jk (Dy.ij d)) Y (min (p+40) 512)) (min (p+40) 512)) aD p aC aC)]) 
def Za{d:Dy}(hd:d.gY)(hq:0<d.q){p:Nat}(ic:8<=p)(gX:p<=512):∃ Z,Z.gY/\CX (LQ d) Z/\gR 231 [gV d,iP (p:Int)] (ib Z):=by
 by_cases h1:iO d ⟨false,1,0⟩=0
 .refine ⟨yg,.inr ⟨rfl,rn,rn,Co _⟩,⟨0,λM _=>?_⟩,ama d p hd h1 ic gX⟩;have e:d=⟨false,1,0⟩:=by
   refine aiy hd.canon D2.canon (fp ((oJ _ _).1 aC) ((oJ _ _).1 ?_));rw[Dg];have:=Dg d ⟨false,1,0⟩;omega
  rw[e,Zp];exact .inr ⟨by show iq.q<=0;rw[tA];exact b6,by show 0<=iq.q;rw[tA];exact b6⟩
 .have hm:=D7 hq;obtain⟨t1,t2⟩:=YL hd hm;obtain⟨P,hP⟩:∃ P,P=min (p+40) 512:=⟨_,rfl⟩
  have p1:8<=P:= aC ;have p2:P<=512:= aC ;obtain⟨z1,z2,z3⟩:=agZ hd hq p1 p2;obtain⟨Z,a1,a2,a3⟩:=Y3 z1 z3 p1 p2;obtain⟨Y,b1,b2,b3⟩:=al4 p1 p2;have m1:(iz (jk d.ij) Y P).gY:=og _ _ aC aC;have m2:=qP a1 m1 (p:=P) aC aC;refine⟨lJ (jE Z (iz (jk d.ij) Y P) P) p,Ed m2 aC aC,?_,?_⟩
  .have hz:=PK hq;have ha:iR (zP d)*2<=1:=by
    have:=xr (x:=zP d) (b:=1/3) aK aK 
    grind
   obtain⟨N1,c1⟩:=a2 _ z2 ha;obtain⟨N2,c2⟩:=b2;refine⟨max N1 N2,λM hM=>GH m2 aC aC ?_⟩;exact Bo a1 m1 aC aC (c1 M aC) (NQ (wi aC) b1 aC aC (zh d.ij) (c2 M aC))
  .subst hP;have e:DU d (min (p+40) 512)=jj (jE (lK (lJ (ml d) (min (p+40) 512)) (0-(Dy.ij d))) (jk (-1)) (min (p+40) 512)) (jE (lK (lJ (ml d) (min (p+40) 512)) (0-(Dy.ij d))) (jk 1) (min (p+40) 512)) (min (p+40) 512):=by unfold DU ue;rw[(aC:-d.ij=0-d.ij)]
   rw[e]at a3;exact amb d p Z Y hd h1 aC aC a1 b1 a3 b3 ic gX
def al6(x:Iv)(p:Nat)(hx:x.gY)(ic:8<=p)(gX:p<=512)(xa:x.all=true):gR 203 [ib x,iP p] (ib gU):=
 ak call203 func203 (af [.c (CW x p aD aC aC),ai 7 (!x.all) (by rw[xa];rfl),.c nv]) 
def al9(x:Iv)(p:Nat)(hx:x.gY)(ic:8<=p)(gX:p<=512)(xa:x.all=false)(h1:x.lo.iK<=0):gR 203 [ib x,iP p] (ib gU):=by
 obtain⟨w1,w2⟩:=hx.j8;exact ak call203 func203 (af [.c (CW x p aD aC aC),ah 7 (!x.all) (by rw[xa];rfl),ag [gV x.lo] (mP _ aD),tB 13 (a6 h1),.c nv]) 
def al8(x:Iv)(p:Nat)(hx:x.gY)(ic:8<=p)(gX:p<=512)(xa:x.all=false)(h1:¬x.lo.iK<=0)(Z1 Z2:Iv)(z1:Z1.gY)(z2:Z2.gY)(k1:gR 231 [gV x.lo,iP (p:Int)] (ib Z1))(k2:gR 231 [gV x.hi,iP (p:Int)] (ib Z2)):gR 203 [ib x,iP p] (ib (uy Z1 Z2)):=by
 obtain⟨w1,w2⟩:=hx.j8;exact ak call203 func203 (af [.c (CW x p aD aC aC),ah 7 (!x.all) (by rw[xa];rfl),ag [gV x.lo] (mP _ aD),tB 13 (a7 h1),ag [gV x.lo,iP p] k1,ag [gV x.hi,iP p] k2,.c (Y9 Z1 Z2 aD aD)]) 
def al7{x:Iv}(hx:x.gY){p:Nat}(ic:8<=p)(gX:p<=512):∃ Z,Z.gY/\gR 203 [ib x,iP (p:Int)] (ib Z):=by
 cases xa:x.all with
 |true=>exact⟨gU,lL,al6 x p hx ic gX xa⟩
 |false=>
  by_cases h1:x.lo.iK<=0
  .exact ⟨gU,lL,al9 x p hx ic gX xa h1⟩
  .obtain ⟨w1,w2⟩:=hx.j8;have q1:0<x.lo.q:=(rH _).1.1 aC;have q2:0<x.hi.q:=by have:=hx.q;grind
   obtain⟨Z1,z1,⟨N1,l1⟩,k1⟩:=Za w1 q1 ic gX;obtain⟨Z2,z2,⟨N2,l2⟩,k2⟩:=Za w2 q2 ic gX;refine⟨uy Z1 Z2,So z1 z2 λa b=>?_,al8 x p hx ic gX xa h1 Z1 Z2 z1 z2 k1 k2⟩;have e1:=((l1 (max N1 N2) aC).j8 a).1;have e2:=((l2 (max N1 N2) aC).j8 b).2;have e3:=Zo q1 hx.q (max N1 N2);exact bH e1 (bH e3 e2)
def uU(a s:Nat):Prop:=s*s<=a/\a<(s+1)*(s+1)
def Xo(a:Nat):∃ s,uU a s:=by
 induction a with
 |zero=>exact⟨0,aE,aE⟩
 |succ a ih=>
  obtain⟨s,h1,h2⟩:=ih;by_cases h:(s+1)*(s+1)<=a+1
  .refine ⟨s+1,h,?_⟩;have:(s+1+1)*(s+1+1)=(s+1)*(s+1)+2*(s+1)+1:=by
    simp only[bR,bO,bU,b5];omega
   omega
  .exact ⟨s,aC,aC⟩
def aji{a s t:Nat}(h:uU a s)(ht:t*t<=a):t<=s:=by
 apply bL;intro im;have:=dk (aC:s+1<=t) (aC:s+1<=t);have:=h.2;omega
def pk(a x:Nat):Nat:=(x+a/x)/2
def ahM{a s x:Nat}(h:uU a s)(hx:0<x):s<=pk a x:=by
 unfold pk;apply bL;intro im;have h1:x+a/x<2*s:=by generalize a/x=q at *;omega
 have h2:a<(a/x+1)*x:=by
  have:=cB a x;have:=bE a hx;rw[bR,bU,bD (a/x)];omega
 have hq:a/x+1<=2*s-x/\x<=2*s:=by
  generalize a/x=q at *
  omega
 have h3:(a/x+1)*x<=(2*s-x)*x:=bK x hq.1;have amG:=hq.2;have h4:(2*s-x)*x<=s*s:=by
  obtain⟨k,hk⟩:∃ k,2*s=x+k:=⟨2*s-x,by clear h1 h2 h3 im hq;omega⟩
  rw[show 2*s-x=k by clear h1 h2 h3 im hq;omega];clear h1 h2 h3 im hq;rcases Nat.le_total x s with pC|pC
  .obtain ⟨e,rfl⟩:∃ e,s=x+e:=⟨s-x,aC⟩
   obtain rfl:k=x+2*e:= aC ;simp only[bR,bO,bD x e,bA];have:0<=e*e:=bV _;have e1:e*(2*x)=2*(e*x):=dK e 2 x;omega
  .obtain ⟨e,rfl⟩:∃ e,x=s+e:=⟨x-s,aC⟩
   obtain⟨f,hf⟩:∃ f,s=k+f:=⟨s-k,aC⟩
   obtain rfl:f=e:= aC ;subst hf;simp only[bR,bO,bD f k];have:0<=f*f:=bV _;omega
 have:=h.1;omega
def ahL{a s x:Nat}(h:uU a s)(hx:0<x)(hs:s<=x)(hy:x<=pk a x):x=s:=by
 have h1:x<=a/x:=by unfold pk at hy;omega
 have h2:x*x<=a:=(cP hx).1 h1;have:=aji h h2;omega
def kt(a x:Nat):Nat->Nat
 | 0=>x
 |k+1=>pk a (kt a x k)
def ajj(a:Nat){s:Nat}(h:uU a s):s<=2^((ia a+1)/2):=by
 apply bL;intro im;have h1:(2^((ia a+1)/2))*(2^((ia a+1)/2))<=s*s:=dk aC aC;rw[<-bh]at h1;have h2:=ql a;have h3:2^ia a<=2^((ia a+1)/2+(ia a+1)/2):=bI aE aC;have:=h.1;omega
def ajh{a x s:Nat}(h:uU a s)(ha:0<a)(hx:s<=x):∃ N,N<=x/\(∀ k,k<N->pk a (kt a x k)<kt a x k)/\kt a x N<=pk a (kt a x N)/\kt a x N=s/\∀ k,k<=N->s<=kt a x k/\kt a x k<=x:=by
 have hs:0<s:=by
  apply bL;intro h0;obtain rfl:s=0:= aC ;have:=h.2;omega
 have qX:∀ k,s<=kt a x k:=λk=>by
  induction k with
  |zero=>exact hx
  |succ k ih=>exact ahM h aC 
 have hex:∃ k,k<x+1/\decide (kt a x k<=pk a (kt a x k))=true:=by
  apply bL;intro hc;have hd:∀ k,k<x+1->pk a (kt a x k)<kt a x k:=λk hk=>by
   apply bL;intro q;exact hc ⟨k,hk,a6 aC⟩
  have hb:∀ k,k<=x+1->kt a x k+k<=x:=by
   intro k hk
   induction k with
   |zero=>exact bc _
   |succ k ih=>
    have:=ih aC;have:=hd k aC;show pk a (kt a x k)+(k+1)<=x;omega
  have:=hb (x+1) (bc _);omega
 obtain⟨N,n1,n2,n3⟩:=sL hex;have n2':=cC n2;have im:∀ k,k<N->pk a (kt a x k)<kt a x k:=λk hk=>by
  have:=fU (n3 k hk);omega
 have hle:∀ k,k<=N->kt a x k<=x:=by
  intro k hk
  induction k with
  |zero=>exact bc _
  |succ k ih=>
   have:=ih aC;have:=im k aC;show pk a (kt a x k)<=x;omega
 have e:=ahL h (by have:=qX N;omega) (qX N) n2';exact⟨N,aC,im,n2',e,λk hk=>⟨qX k,hle k hk⟩⟩
def vk(m s:Nat)(e:Int)(p:Nat)(up:Bool):Dy:=jY false s e (decide (s*s≠m)) p up
def zG(m s:Nat)(e:Int)(p:Nat)(up:Bool):Int:=jN false s e (decide (s*s≠m)) p up
def akn{m s:Nat}{e:Int}{p:Nat}(h:uU m s)(hb:p<ia s)(hp:1<=p)(gX:p<=4096)(he:zG m s e p false=0):0<=(vk m s e p false).q/\(vk m s e p false).q<=(s:Rat)*P2 e:=by
 unfold vk zG at *
 by_cases hx:s*s=m
 .rw [a7 aC]at he ⊢;have A:=EV false s e hp gX;rw[qI]at A;simp only[bB,bk]at A;exact⟨(A.2 0 (.inl (zQ p)) (bQ cQ (bG (mX e)))).2,(A.1 he).2⟩
 .rw [a6 aC]at he ⊢;obtain⟨h1,h2⟩:=Di e hb false false;rw[h1];rw[h2]at he;have A:=EV false (2*s+1) (e-1) hp gX;rw[qI]at A;simp only[bB,bk]at A;have h0:=(A.2 0 (.inl (zQ p)) (bQ cQ (bG (mX (e-1))))).2;obtain⟨g,hl⟩:=A.1 he;refine⟨h0,?_⟩;rcases L6 (e:=e) hb (g.pos h0)with k|k
  .exact k
  .exfalso;have ee:P2 e=P2 (e-1)*2:=by
    have:=pH (e-1) 1;rw[(aC:e-1+1=e),show P2 1=2 by decide +kernel]at this;exact this
   have wT:=mX (e-1);have c1:((2*s+1:Nat):Rat)=2*(s:Rat)+1:=by rw[dP,c9];rfl
   have c2:((s+1:Nat):Rat)=(s:Rat)+1:=by rw[dP];rfl
   rw[c1]at hl;rw[c2,ee]at k
   grind
def akm{m s:Nat}{e:Int}{p:Nat}(h:uU m s)(hb:p<ia s)(hp:1<=p)(gX:p<=4096)(he:zG m s e p true=0):0<=(vk m s e p true).q/\(m:Rat)*(P2 e*P2 e)<=(vk m s e p true).q*(vk m s e p true).q:=by
 have wT:=mX e;have s0:(0:Rat)<=(s:Rat):=cQ;have key:∀ D:Rat,(s:Rat)*P2 e<=D->(s*s≠m->((s+1:Nat):Rat)*P2 e<=D)->0<=D/\(m:Rat)*(P2 e*P2 e)<=D*D:=by
  intro D h1 h2;have d0:0<=D:=bH (bQ s0 (bG wT)) h1;refine⟨d0,?_⟩;have sq:∀ t:Nat,m<=t*t->(t:Rat)*P2 e<=D->(m:Rat)*(P2 e*P2 e)<=D*D:=by
   intro t ht hD;have t0:(0:Rat)<=(t:Rat):=cQ;have c:(m:Rat)<=(t:Rat)*(t:Rat):=by
    have:=dv.2 ht;rwa[c9]at this
   have m1:=cj c (bQ (bG wT) (bG wT));have m2:=cj hD (bQ t0 (bG wT));have m3:=cG hD d0;generalize (t:Rat)=T at *
   generalize P2 e=P at *
   have e1:T*T*(P*P)=T*P*(T*P):= aK 
   grind
  by_cases hx:s*s=m
  .exact sq s aC h1
  .exact sq (s+1) (by have:=h.2;omega) (h2 hx)
 unfold vk zG at *
 by_cases hx:s*s=m
 .rw [a7 aC]at he ⊢;have A:=EW false s e hp gX;rw[qI]at A;simp only[bB,bk]at A;exact key _ (A.1 he).2 (λq=>absurd hx q)
 .rw [a6 aC]at he ⊢;obtain⟨h1,h2⟩:=Di e hb false true;rw[h1];rw[h2]at he;have A:=EW false (2*s+1) (e-1) hp gX;rw[qI]at A;simp only[bB,bk]at A;obtain⟨g,hl⟩:=A.1 he;have ee:P2 e=P2 (e-1)*2:=by
   have:=pH (e-1) 1;rw[(aC:e-1+1=e),show P2 1=2 by decide +kernel]at this;exact this
  have ic:=mX (e-1);have c1:((2*s+1:Nat):Rat)=2*(s:Rat)+1:=by rw[dP,c9];rfl
  rw[c1]at hl;have h0:0<=(jY false (2*s+1) (e-1) false p true).q:=bH (bQ aK (bG ic)) hl;have im:(s:Rat)*P2 e<(jY false (2*s+1) (e-1) false p true).q:=by rw[ee];grind
  refine key _ (bG im) λ_=>?_
  rcases L6 (e:=e) hb (g.pos h0)with k|k
  .exact absurd im (dc.2 k)
  .exact k
def ako{a b:Rat}(ha:0<=a)(hb:0<=b)(h:a*a<=b*b):a<=b:=by
 apply dc.1;intro im;have m1:=cG (bG im) hb;have m2:=dm im (show 0<a by grind)
 grind
def akp{m s n t:Nat}{e f:Int}{p:Nat}(h:uU m s)(k:uU n t)(hb:p<ia s)(kb:p<ia t)(hp:1<=p)(gX:p<=4096)(hle:(m:Rat)*(P2 e*P2 e)<=(n:Rat)*(P2 f*P2 f)):
 (lH (vk m s e p false) (zG m s e p false) (vk n t f p true) (zG n t f p true)).gY:=by
 unfold lH;split
 .exact lL
 .rename_i he;obtain⟨a0,a1⟩:=akn (e:=e) h hb hp gX aC;obtain⟨b0,b1⟩:=akm (e:=f) k kb hp gX aC;refine .inr ⟨rfl,sZ _ _ _ _ _ _ hp gX,sZ _ _ _ _ _ _ hp gX,?_⟩;rw[oJ];refine ako a0 b0 ?_;have s0:(0:Rat)<=(s:Rat):=cQ;have wT:=mX e;have m1:=cG a1 a0;have m2:=cj a1 (bQ s0 (bG wT));have c:(s:Rat)*(s:Rat)<=(m:Rat):=by
   have:=dv.2 h.1;rwa[c9]at this
  have m3:=cj c (bQ (bG wT) (bG wT));generalize (vk m s e p false).q=A at *
  generalize (s:Rat)=S at *
  generalize P2 e=P at *
  have e1:S*S*(P*P)=S*P*(S*P):= aK 
  grind
def Wq(m N:Nat)(x:Nat):PS:=⟨43,true,[(5,.e (gW (gS (kt m (2^((ia m+1)/2)) x)))),(0,.e (gW (gS m)))],[]⟩
def Wh(L M:List Nat)(hL:iE L)(hM:iE M)(h1:L.length<=3000)(h2:M.length<=3000):∃ S:List Nat,gR 238 [gW L,gW M] (gW S)/\val S=val L+val M/\iE S/\S.length=max L.length M.length+1:=by
 obtain⟨n,hn⟩:∃ n,n=max L.length M.length+1:=⟨_,rfl⟩
 have im:val L+val M<4294967296^n:=by
  have a:=oA hL;have b:=oA hM;have e:4294967296^n=4294967296^max L.length M.length*4294967296:=by rw[hn,bC]
  have c:=bI (show 0<4294967296 by decide) (Nat.le_max_left L.length M.length);have d:=bI (show 0<4294967296 by decide) (Nat.le_max_right L.length M.length);omega
 refine⟨oQ (val L+val M) n,?_,by rw[G4,bX im],EY _ _,by rw[Ad,hn]⟩;refine Gv hL hM call238 (λA c B d w h k _=>Ws A B c d L M w h k h1 h2) λB w e w' hB r=>?_
 obtain⟨S,v1,v2,v3,r⟩:=r;rw[LA v2 (by rw[v3,hn]) v1];exact rl B w e w' hB r
def ahB(L:List Nat)(n:Nat)(hL:iE L)(h1:L.length<=3000)(hn:n<=65536):∃ S:List Nat,gR 178 [gW L,iP (n:Int)] (gW S)/\val S=val L*2^n/\iE S:=by
 obtain⟨m,hm⟩:∃ m,m=n/32+(iA L).length+1:=⟨_,rfl⟩
 have im:val L*2^n<4294967296^m:=by
  have a:=oA hL.iA;rw[pQ]at a;have e:4294967296^m=4294967296^(iA L).length*2^(32*(n/32+1)):=by
   rw[hm,(aC:n/32+(iA L).length+1=(iA L).length+(n/32+1)),bh,Nat.pow_mul]
  rw[e];exact Nat.mul_lt_mul_of_lt_of_le a (bI aE aC) (bj aE)
 refine⟨oQ (val L*2^n) m,?_,by rw[G4,bX im],EY _ _⟩;refine J4 hL call178 (λA c w h _=>Wt A c L n w h aC hn) λA c B w e w' h hB r=>?_
 obtain⟨S,v1,v2,v3,r⟩:=r;rw[LA v2 (by rw[v3,hm]) v1];exact rl B w e w' hB r
def zE(L:List Nat):List Nat:=qo (1%32) ((iA L).drop (1/32))
def Wo(L:List Nat)(hL:iE L)(h1:L.length<=3000):gR 95 [gW L,iP 1] (gW (zE L)):=
 J4 (n:=((1:Nat):Int)) hL call95 (λA c w h _=>N9 A c L 1 w h aC aE) λA c B w e w' h hB r=>rl B w e w' hB r
def Yd{L:List Nat}(hL:iE L):iA (zE L)=gS (val L/2):=by
 unfold zE;rw[sr (AW _ _),KJ hL.iA,pQ]
def WC(m x:Nat):pk m x<=max x (m/x):=by
 unfold pk;generalize m/x=q;omega
def Vz(a b:Nat):(gS (max a b)).length<=max (gS a).length (gS b).length:=by
 rcases Nat.le_total a b with h|h
 .rw [Nat.max_eq_right h];omega
 .rw [Nat.max_eq_left h];omega
def ahv(m:Nat)(h:(gS m).length<=256):gR 94 [gW (gS m)] (.ig [gW (gS m),iP 0]):=by
 have:=Wk (gS m) (mH m) (by rw[Bj];exact h);rwa[Bj]at this
def ahD(m N:Nat)(h1:(gS m).length<=256)(h0:m≠0)(uM:∀ k,k<N->pk m (kt m (2^((ia m+1)/2)) k)<(kt m (2^((ia m+1)/2)) k))(py:(kt m (2^((ia m+1)/2)) N)<=pk m (kt m (2^((ia m+1)/2)) N))(lg:∀ k,k<=N->0<(kt m (2^((ia m+1)/2)) k)/\(kt m (2^((ia m+1)/2)) k)<=(2^((ia m+1)/2))):gR 304 [gW (gS m)] (.ig [gW (gS (kt m (2^((ia m+1)/2)) N)),iP 0]):=by
 have bm:=nR h0;have bl:=EI h1;have z0:(gS (2^((ia m+1)/2))).length<=256:=ph (by rw[show(2^((ia m+1)/2))=1*2^((ia m+1)/2)by omega,rN aE];show 1+_<=_;omega);have hlen:∀ k,k<=N->(gS (kt m (2^((ia m+1)/2)) k)).length<=256:=λk hk=>bg (mC (lg k hk).2) z0
 obtain⟨S0,BL,sv,oS0⟩:=ahB (gS 1) ((ia m+1)/2) (mH 1) aL aC;rw[kf,bU]at sv;have hS0:gR 145 [gW S0] (gW (gS (2^((ia m+1)/2)))):=by
  have:=ui S0 oS0;rwa[sr oS0,sv]at this
 have zN:=hlen N aC;exact ak call304 func304 (af [.c (ahw (gS m) aD),ag [gW (gS m)] (sj _ aC),ai 15 ((ia m:Int)==0) (nA aC),.o 16 (.e w8:aj (.sl false 1 1 λi_ j_=>[.v (.int .u32 1)].getD (i_*1+j_) (.v (.bool false))) (gW (gS 1))),ik ((ia m:Int)+1) aC,.a (aC:0<(2:Int)),
  ik (((ia m)+1:Nat):Int) aC,ag [gW (gS 1),iP ((((ia m)+1)/2:Nat):Int)] BL,ag [gW S0] hS0,.s (Sp.jH (Wq m N) 0 N aC (λx hx mw=>by
    obtain⟨xl,xu⟩:=lg x aC;obtain⟨Tq,Sq,Fs,dT,dS,oT,oS,lT,lS⟩:=N5 (gS m) (gS (kt m (2^((ia m+1)/2)) x)) (mH m) (mH _) aC (by have:=hlen x aC;omega) (by rw[kf];omega);rw[kf,kf]at dT;have zx:=hlen x aC;have Mq:gR 145 [gW Tq] (gW (gS (m/(kt m (2^((ia m+1)/2)) x)))):=by
     have:=ui Tq oT;rwa[sr oT,dT]at this
    have zt:(gS (m/(kt m (2^((ia m+1)/2)) x))).length<=257:=bg (mC (bT _ _)) aC;obtain⟨Uq,hU,uv,oU,lU⟩:=Wh (gS (kt m (2^((ia m+1)/2)) x)) (gS (m/(kt m (2^((ia m+1)/2)) x))) (mH _) (mH _) aC aC;rw[kf,kf]at uv;have hV:=Wo Uq oU aC;have Dq:gR 145 [gW (zE Uq)] (gW (gS (pk m (kt m (2^((ia m+1)/2)) x)))):=by
     have:=ui (zE Uq) (AW _ _);rwa[Yd oU,uv]at this
    have zn:(gS (pk m (kt m (2^((ia m+1)/2)) x))).length<=257:=bg (mC (WC m (kt m (2^((ia m+1)/2)) x))) (by have:=Vz (kt m (2^((ia m+1)/2)) x) (m/(kt m (2^((ia m+1)/2)) x));omega);exact iB (ae [ag [gW (gS m),gW (gS (kt m (2^((ia m+1)/2)) x))] Fs,ag [gW Tq] Mq,ag [gW (gS (kt m (2^((ia m+1)/2)) x)),gW (gS (m/(kt m (2^((ia m+1)/2)) x)))] hU,ag [gW Uq,iP 1] hV,ag [gW (zE Uq)] Dq,ag [gW (gS (pk m (kt m (2^((ia m+1)/2)) x))),gW (gS (kt m (2^((ia m+1)/2)) x))] (y9 _ _ aC aC),tF 37 (0<=(ky (pk m (kt m (2^((ia m+1)/2)) x)) (kt m (2^((ia m+1)/2)) x))) (by have:=uM x aC;have:=Dh.2 this;omega)]<|.e (af [.o 5 (.e (.iM rfl):aj (gW (gS (pk m (kt m (2^((ia m+1)/2)) x)))) (gW (gS (kt m (2^((ia m+1)/2)) (x+1)))))])) aF)
  (λhx=>by
    obtain⟨xl,xu⟩:=lg N aC;obtain⟨Tq,Sq,Fs,dT,dS,oT,oS,lT,lS⟩:=N5 (gS m) (gS (kt m (2^((ia m+1)/2)) N)) (mH m) (mH _) aC (by have:=hlen N aC;omega) (by rw[kf];omega);rw[kf,kf]at dT;have zx:=hlen N aC;have Mq:gR 145 [gW Tq] (gW (gS (m/(kt m (2^((ia m+1)/2)) N)))):=by
     have:=ui Tq oT;rwa[sr oT,dT]at this
    have zt:(gS (m/(kt m (2^((ia m+1)/2)) N))).length<=257:=bg (mC (bT _ _)) aC;obtain⟨Uq,hU,uv,oU,lU⟩:=Wh (gS (kt m (2^((ia m+1)/2)) N)) (gS (m/(kt m (2^((ia m+1)/2)) N))) (mH _) (mH _) aC aC;rw[kf,kf]at uv;have hV:=Wo Uq oU aC;have Dq:gR 145 [gW (zE Uq)] (gW (gS (pk m (kt m (2^((ia m+1)/2)) N)))):=by
     have:=ui (zE Uq) (AW _ _);rwa[Yd oU,uv]at this
    have zn:(gS (pk m (kt m (2^((ia m+1)/2)) N))).length<=257:=bg (mC (WC m (kt m (2^((ia m+1)/2)) N))) (by have:=Vz (kt m (2^((ia m+1)/2)) N) (m/(kt m (2^((ia m+1)/2)) N));omega);exact iB (af [ag [gW (gS m),gW (gS (kt m (2^((ia m+1)/2)) N))] Fs,ag [gW Tq] Mq,ag [gW (gS (kt m (2^((ia m+1)/2)) N)),gW (gS (m/(kt m (2^((ia m+1)/2)) N)))] hU,ag [gW Uq,iP 1] hV,ag [gW (zE Uq)] Dq,ag [gW (gS (pk m (kt m (2^((ia m+1)/2)) N))),gW (gS (kt m (2^((ia m+1)/2)) N))] (y9 _ _ aC aC),tT 37 (0<=(ky (pk m (kt m (2^((ia m+1)/2)) N)) (kt m (2^((ia m+1)/2)) N))) (by have:=py;have:¬ky (pk m (kt m (2^((ia m+1)/2)) N)) (kt m (2^((ia m+1)/2)) N)<0:=λq=>absurd (Dh.1 q) aC;omega),ag [gW (gS (kt m (2^((ia m+1)/2)) N))] (ahv _ aC)]) aF) aI:jD 7 f304 (Wq m N 0) .ret ⟨43,true,[(3,.e (iP 0)),(2,.e (gW (gS (kt m (2^((ia m+1)/2)) N))))],[]⟩) (af [.o 5 (.e (.iM rfl):aj (gW (gS (2^((ia m+1)/2)))) (gW (gS (kt m (2^((ia m+1)/2)) 0))))])]) 
def Wr(m s:Nat)(h1:(gS m).length<=256)(h0:m≠0)(hr:uU m s):gR 304 [gW (gS m)] (.ig [gW (gS s),iP 0]):=by
 obtain⟨N,_,a,b,c,d⟩:=ajh hr (dL h0) (ajj m hr);have hs:0<s:=by
  apply bL;intro h;obtain rfl:s=0:= aC ;have:=hr.2;omega
 have:=ahD m N h1 h0 a b λk hk=>⟨by have:=(d k hk).1;omega,(d k hk).2⟩
 rwa[c]at this
noncomputable def lv(m:Nat):Nat:=Classical.choose (Xo m)
def CH(m:Nat):uU m (lv m):=cK (Xo m)
def sS(d:Dy)(p:Nat):Nat:=if Int.tmod (d.e-((2*p+4-ia d.m:Nat):Int)) 2=0 then 2*p+4-ia d.m else 2*p+4-ia d.m+1
noncomputable def vt(d:Dy)(p:Nat)(up:Bool):Dy:=vk (d.m*2^sS d p) (lv (d.m*2^sS d p)) ((d.e-(sS d p:Int))/2) p up
noncomputable def vq(d:Dy)(p:Nat)(up:Bool):Int:=zG (d.m*2^sS d p) (lv (d.m*2^sS d p)) ((d.e-(sS d p:Int))/2) p up
def Ks(d:Dy)(p:Nat):d.e-(sS d p:Int)=2*((d.e-(sS d p:Int))/2):=by
 have key:∀ x:Int,Int.tmod x 2=0↔x%2=0:=λx=>by rw[<-Int.dvd_iff_tmod_eq_zero,<-Int.dvd_iff_emod_eq_zero]
 have:(d.e-(sS d p:Int))%2=0:=by
  unfold sS;split
  .rename_i h;exact(key _).1 h
  .rename_i h;have h2:¬(d.e-((2*p+4-ia d.m:Nat):Int))%2=0:=λq=>h ((key _).2 q)
   clear h;omega
 omega
def Yp(s:Nat):s<=s*s:=by
 by_cases h:s=0
 .subst h;exact bV _
 .exact fW s (dL h)
def Yr{d:Dy}(hn:d.neg=false)(K:Nat){E:Int}(h:d.e-(K:Int)=2*E):((d.m*2^K:Nat):Rat)*(P2 E*P2 E)=d.q:=by
 rw[pF,hn,aY aE,<-pH,c9,<-ur,dM,<-pH,show(K:Int)+(E+E)=d.e by omega]
def OY{m s p:Nat}(h:uU m s)(hm:2*p+4<=ia m):p<ia s:=by
 apply bL;intro hb;have h1:s<2^ia s:=ql s;have h2:2^ia s<=2^p:=bI aE aC;have h3:=dk (aC:s+1<=2^p) (aC:s+1<=2^p);rw[<-bh]at h3;have h4:=h.2;have h5:ia m<=p+p:=lZ.2 (bJ h4 h3);omega
def Xp(m s:Nat):((ky (s*s) m) != 0)=decide (s*s≠m):=by
 unfold ky;generalize s*s=q;rcases Nat.lt_trichotomy q m with h|h|h
 .rw [aZ h,a6 aC];rfl
 .subst h;simp
 .rw [aY aC,aZ h,a6 aC];rfl
def aiI(d:Dy)(p:Nat)(up:Bool)(hd:d.gY)(hn:d.neg=false)(h0:d.m≠0)(ic:8<=p)(gX:p<=512)(qe:Int.tmod (d.e-((2*p+4-(ia d.m):Nat):Int)) 2=0):gR 266 [gV d,iP p,bP up] (.ig [gV (vt d p up),iP (vq d p up)]):=by
 have hl:=hd.gS;have hx:=hd.exp;have hr:=hd.range.resolve_left h0;have bp:=nR h0;have hK:sS d p=(2*p+4-(ia d.m)):=by unfold sS;rw[aZ qe]
 have he:=Ks d p;rw[hK]at he;have hb:=rN h0 (2*p+4-(ia d.m));have z1:(gS (d.m*2^(2*p+4-(ia d.m)))).length<=256:=ph aC;have s8:(d.m*2^(2*p+4-(ia d.m)))≠0:=dg h0 (dV (bj aE));have sG:=CH (d.m*2^(2*p+4-(ia d.m)));have B7:=OY sG (p:=p) aC;have z2:(gS (lv (d.m*2^(2*p+4-(ia d.m)))*lv (d.m*2^(2*p+4-(ia d.m))))).length<=256:=bg (mC sG.1) z1;have z3:(gS (lv (d.m*2^(2*p+4-(ia d.m))))).length<=256:=bg (mC (bg (Yp _) sG.1)) z1;have h00:lv (d.m*2^(2*p+4-(ia d.m)))≠0\/lv (d.m*2^(2*p+4-(ia d.m)))=0/\(d.e-((2*p+4-(ia d.m):Nat):Int))/2=0/\((ky (lv (d.m*2^(2*p+4-(ia d.m)))*lv (d.m*2^(2*p+4-(ia d.m)))) (d.m*2^(2*p+4-(ia d.m)))) != 0)=false:=.inl (λq=>by rw[q,rO]at B7;omega);have sD:((ky (lv (d.m*2^(2*p+4-(ia d.m)))*lv (d.m*2^(2*p+4-(ia d.m)))) (d.m*2^(2*p+4-(ia d.m)))) != 0)=true->p<ia (lv (d.m*2^(2*p+4-(ia d.m)))):=λ_=>B7
 exact ak call266 func266 (ae [.o 17 (.e (E4 _):aj (.sl true 1 3 λi_ j_=>(iu d).getD (i_*3+j_) (.v (.bool false))) (kg [d])),ag [iP p,kg [d]] (OL _ _ aD aC aC),ah 20 ((0:Int)==0) aE,ai 23 d.neg hn,ai 26 ((0:Int) != 0) aE,ai 31 (((gS d.m).length:Int)==0) (nA (pg h0)),
  ik (2*(p:Int)) aC,ik (((2*p:Nat):Int)+4) aC,ag [gV d] (Dk _ aD),ik ((((2*p)+4:Nat):Int)-(ia (Dy.m d):Int)) aC,.o 41 (aq (if((((2*p)+4:Nat):Int)-(ia (Dy.m d):Int))>0 then((((2*p)+4:Nat):Int)-(ia (Dy.m d):Int))else 0) ((2*p+4-(ia d.m):Nat):Int) aM),
  ik (d.e-((2*p+4-(ia d.m):Nat):Int)) aC,.a (aC:0<(2:Int)),ai 47 ((Int.tmod (d.e-((2*p+4-(ia d.m):Nat):Int)) 2) != 0) (by simpa using qe),.c (wm d.m (2*p+4-(ia d.m)) aC aC aC),ag [gW (gS (d.m*2^(2*p+4-(ia d.m))))] (Wr _ _ aC aD (CH _)),ag [gW (gS (lv (d.m*2^(2*p+4-(ia d.m))))),gW (gS (lv (d.m*2^(2*p+4-(ia d.m)))))] (xV _ _ aC aC aC),
  ik (d.e-((2*p+4-(ia d.m):Nat):Int)) aC,.a (aC:0<(2:Int)),ik (d.e-((2*p+4-(ia d.m):Nat):Int)) aC,.o 70 (aq (Int.tdiv (d.e-((2*p+4-(ia d.m):Nat):Int)) 2) ((d.e-((2*p+4-(ia d.m):Nat):Int))/2) (by generalize hy:(d.e-((2*p+4-(ia d.m):Nat):Int))/2=y at *;rw[he];exact anm _ aE)),ag [gW (gS ((lv (d.m*2^(2*p+4-(ia d.m))))*(lv (d.m*2^(2*p+4-(ia d.m)))))),gW (gS (d.m*2^(2*p+4-(ia d.m))))] (y9 _ _ aC aC),ag [.agg [gW (gS (lv (d.m*2^(2*p+4-(ia d.m))))),iP ((d.e-((2*p+4-(ia d.m):Nat):Int))/2),bP ((ky ((lv (d.m*2^(2*p+4-(ia d.m))))*(lv (d.m*2^(2*p+4-(ia d.m))))) (d.m*2^(2*p+4-(ia d.m)))) != 0)],iP p,bP up] (Ea _ _ _ _ _ aC aD aC aC aC aC aD)]<|rQ (.ig [gV (jY false (lv (d.m*2^(2*p+4-(ia d.m)))) ((d.e-((2*p+4-(ia d.m):Nat):Int))/2) ((ky ((lv (d.m*2^(2*p+4-(ia d.m))))*(lv (d.m*2^(2*p+4-(ia d.m))))) (d.m*2^(2*p+4-(ia d.m)))) != 0) p up),iP (jN false (lv (d.m*2^(2*p+4-(ia d.m)))) ((d.e-((2*p+4-(ia d.m):Nat):Int))/2) ((ky ((lv (d.m*2^(2*p+4-(ia d.m))))*(lv (d.m*2^(2*p+4-(ia d.m))))) (d.m*2^(2*p+4-(ia d.m)))) != 0) p up)]) (.ig [gV (vt d p up),iP (vq d p up)]) (by unfold vt vq vk zG;rw[hK,Xp])) 
def aiJ(d:Dy)(p:Nat)(up:Bool)(hd:d.gY)(hn:d.neg=false)(h0:d.m≠0)(ic:8<=p)(gX:p<=512)(qe:¬Int.tmod (d.e-((2*p+4-(ia d.m):Nat):Int)) 2=0):gR 266 [gV d,iP p,bP up] (.ig [gV (vt d p up),iP (vq d p up)]):=by
 have hl:=hd.gS;have hx:=hd.exp;have hr:=hd.range.resolve_left h0;have bp:=nR h0;have hK:sS d p=((2*p+4-(ia d.m))+1):=by unfold sS;rw[aY qe]
 have he:=Ks d p;rw[hK]at he;have hb:=rN h0 ((2*p+4-(ia d.m))+1);have z1:(gS (d.m*2^((2*p+4-(ia d.m))+1))).length<=256:=ph aC;have s8:(d.m*2^((2*p+4-(ia d.m))+1))≠0:=dg h0 (dV (bj aE));have sG:=CH (d.m*2^((2*p+4-(ia d.m))+1));have B7:=OY sG (p:=p) aC;have z2:(gS (lv (d.m*2^((2*p+4-(ia d.m))+1))*lv (d.m*2^((2*p+4-(ia d.m))+1)))).length<=256:=bg (mC sG.1) z1;have z3:(gS (lv (d.m*2^((2*p+4-(ia d.m))+1)))).length<=256:=bg (mC (bg (Yp _) sG.1)) z1;have h00:lv (d.m*2^((2*p+4-(ia d.m))+1))≠0\/lv (d.m*2^((2*p+4-(ia d.m))+1))=0/\(d.e-(((2*p+4-(ia d.m))+1:Nat):Int))/2=0/\((ky (lv (d.m*2^((2*p+4-(ia d.m))+1))*lv (d.m*2^((2*p+4-(ia d.m))+1))) (d.m*2^((2*p+4-(ia d.m))+1))) != 0)=false:=.inl (λq=>by rw[q,rO]at B7;omega);have sD:((ky (lv (d.m*2^((2*p+4-(ia d.m))+1))*lv (d.m*2^((2*p+4-(ia d.m))+1))) (d.m*2^((2*p+4-(ia d.m))+1))) != 0)=true->p<ia (lv (d.m*2^((2*p+4-(ia d.m))+1))):=λ_=>B7
 exact ak call266 func266 (ae [.o 17 (.e (E4 _):aj (.sl true 1 3 λi_ j_=>(iu d).getD (i_*3+j_) (.v (.bool false))) (kg [d])),ag [iP p,kg [d]] (OL _ _ aD aC aC),ah 20 ((0:Int)==0) aE,ai 23 d.neg hn,ai 26 ((0:Int) != 0) aE,ai 31 (((gS d.m).length:Int)==0) (nA (pg h0)),
  ik (2*(p:Int)) aC,ik (((2*p:Nat):Int)+4) aC,ag [gV d] (Dk _ aD),ik ((((2*p)+4:Nat):Int)-(ia (Dy.m d):Int)) aC,.o 41 (aq (if((((2*p)+4:Nat):Int)-(ia (Dy.m d):Int))>0 then((((2*p)+4:Nat):Int)-(ia (Dy.m d):Int))else 0) ((2*p+4-(ia d.m):Nat):Int) aM),
  ik (d.e-((2*p+4-(ia d.m):Nat):Int)) aC,.a (aC:0<(2:Int)),ah 47 ((Int.tmod (d.e-((2*p+4-(ia d.m):Nat):Int)) 2) != 0) (by simpa using qe),
  ik (((2*p+4-(ia d.m):Nat):Int)+1) aC,.c (wm d.m ((2*p+4-(ia d.m))+1) aC aC aC),ag [gW (gS (d.m*2^((2*p+4-(ia d.m))+1)))] (Wr _ _ aC aD (CH _)),ag [gW (gS (lv (d.m*2^((2*p+4-(ia d.m))+1)))),gW (gS (lv (d.m*2^((2*p+4-(ia d.m))+1))))] (xV _ _ aC aC aC),
  ik (d.e-(((2*p+4-(ia d.m))+1:Nat):Int)) aC,.a (aC:0<(2:Int)),ik (d.e-(((2*p+4-(ia d.m))+1:Nat):Int)) aC,.o 70 (aq (Int.tdiv (d.e-(((2*p+4-(ia d.m))+1:Nat):Int)) 2) ((d.e-(((2*p+4-(ia d.m))+1:Nat):Int))/2) (by generalize hy:(d.e-(((2*p+4-(ia d.m))+1:Nat):Int))/2=y at *;rw[he];exact anm _ aE)),ag [gW (gS ((lv (d.m*2^((2*p+4-(ia d.m))+1)))*(lv (d.m*2^((2*p+4-(ia d.m))+1))))),gW (gS (d.m*2^((2*p+4-(ia d.m))+1)))] (y9 _ _ aC aC),ag [.agg [gW (gS (lv (d.m*2^((2*p+4-(ia d.m))+1)))),iP ((d.e-(((2*p+4-(ia d.m))+1:Nat):Int))/2),bP ((ky ((lv (d.m*2^((2*p+4-(ia d.m))+1)))*(lv (d.m*2^((2*p+4-(ia d.m))+1)))) (d.m*2^((2*p+4-(ia d.m))+1))) != 0)],iP p,bP up] (Ea _ _ _ _ _ aC aD aC aC aC aC aD)]<|rQ (.ig [gV (jY false (lv (d.m*2^((2*p+4-(ia d.m))+1))) ((d.e-(((2*p+4-(ia d.m))+1:Nat):Int))/2) ((ky ((lv (d.m*2^((2*p+4-(ia d.m))+1)))*(lv (d.m*2^((2*p+4-(ia d.m))+1)))) (d.m*2^((2*p+4-(ia d.m))+1))) != 0) p up),iP (jN false (lv (d.m*2^((2*p+4-(ia d.m))+1))) ((d.e-(((2*p+4-(ia d.m))+1:Nat):Int))/2) ((ky ((lv (d.m*2^((2*p+4-(ia d.m))+1)))*(lv (d.m*2^((2*p+4-(ia d.m))+1)))) (d.m*2^((2*p+4-(ia d.m))+1))) != 0) p up)]) (.ig [gV (vt d p up),iP (vq d p up)]) (by unfold vt vq vk zG;rw[hK,Xp])) 
def Xe(d:Dy)(p:Nat)(up:Bool)(hd:d.gY)(hn:d.neg=false)(h0:d.m≠0)(ic:8<=p)(gX:p<=512):gR 266 [gV d,iP p,bP up] (.ig [gV (vt d p up),iP (vq d p up)]):=by
 by_cases h:Int.tmod (d.e-((2*p+4-(ia d.m):Nat):Int)) 2=0
 .exact aiI d p up hd hn h0 ic gX h
 .exact aiJ d p up hd hn h0 ic gX h
def aiG(d:Dy)(p:Nat)(hd:d.gY)(hn:d.neg=false)(h0:d.m≠0)(ic:8<=p)(gX:p<=512):gR 233 [gV d,iP p] (.ig [gV (vt d p false),iP (vq d p false)]):=
 ak call233 func233 (af [.c (Xe d p false aD aD aD aC aC)]) 
def aiH(d:Dy)(p:Nat)(hd:d.gY)(hn:d.neg=false)(h0:d.m≠0)(ic:8<=p)(gX:p<=512):gR 234 [gV d,iP p] (.ig [gV (vt d p true),iP (vq d p true)]):=
 ak call234 func234 (af [.c (Xe d p true aD aD aD aC aC)]) 
def af7(x:Iv)(p:Nat)(hx:x.gY)(ic:8<=p)(gX:p<=512)(xa:x.all=true):gR 208 [ib x,iP p] (ib gU):=
 ak call208 func208 (af [.o 10 (.e (lG _):aj (.sl true 1 7 λi_ j_=>(iF x).getD (i_*7+j_) (.v (.bool false))) (gZ [x])),ag [gZ [x]] (pM _ aD),ai 11 (!x.all) (by rw[xa];rfl),.c nv]) 
def af9(x:Iv)(p:Nat)(hx:x.gY)(ic:8<=p)(gX:p<=512)(xa:x.all=false)(h1:x.lo.iK<=0):gR 208 [ib x,iP p] (ib gU):=by
 obtain⟨w1,w2⟩:=hx.j8;exact ak call208 func208 (af [.o 10 (.e (lG _):aj (.sl true 1 7 λi_ j_=>(iF x).getD (i_*7+j_) (.v (.bool false))) (gZ [x])),ag [gZ [x]] (pM _ aD),ah 11 (!x.all) (by rw[xa];rfl),ag [iP p] (vZ _),ah 15 (mI (p:Int)) (rY.2 ⟨aC,aC⟩),ag [gV x.lo] (mP _ aD),tB 22 (a6 h1),.c nv]) 
def aga(x:Iv)(p:Nat)(hx:x.gY)(ic:8<=p)(gX:p<=512)(xa:x.all=false)(h1:¬x.lo.iK<=0)(n1:x.lo.neg=false)(n2:x.hi.neg=false)(m1:x.lo.m≠0)(m2:x.hi.m≠0):gR 208 [ib x,iP p] (ib (lH (vt x.lo p false) (vq x.lo p false) (vt x.hi p true) (vq x.hi p true))):=by
 obtain⟨w1,w2⟩:=hx.j8;exact ak call208 func208 (af [.o 10 (.e (lG _):aj (.sl true 1 7 λi_ j_=>(iF x).getD (i_*7+j_) (.v (.bool false))) (gZ [x])),ag [gZ [x]] (pM _ aD),ah 11 (!x.all) (by rw[xa];rfl),ag [iP p] (vZ _),ah 15 (mI (p:Int)) (rY.2 ⟨aC,aC⟩),ag [gV x.lo] (mP _ aD),tB 22 (a7 h1),.c (aiG x.lo p aD aD aD aC aC),.c (aiH x.hi p aD aD aD aC aC),.c (Cl (vt x.lo p false) (vt x.hi p true) (vq x.lo p false) (vq x.hi p true))]) 
def WW{d:Dy}(h:0<d.q):d.neg=false/\d.m≠0:=by
 have hm:d.m≠0:=λq=>by rw[pF,q]at h;simp at h
 refine⟨?_,hm⟩;cases hn:d.neg
 .rfl
 .rw [pF,hn,aZ rfl]at h;have:=bQ (show(0:Rat)<=(d.m:Rat)from cQ) (bG (mX d.e))
  grind
def Yo{d:Dy}{p:Nat}(ic:8<=p)(h0:d.m≠0):p<ia (lv (d.m*2^sS d p)):=by
 refine OY (CH _) ?_;rw[rN h0];unfold sS;split<;>omega
def af8{x:Iv}(hx:x.gY){p:Nat}(ic:8<=p)(gX:p<=512):∃ Z,Z.gY/\gR 208 [ib x,iP (p:Int)] (ib Z):=by
 cases xa:x.all with
 |true=>exact⟨gU,lL,af7 x p hx ic gX xa⟩
 |false=>
  by_cases h1:x.lo.iK<=0
  .exact ⟨gU,lL,af9 x p hx ic gX xa h1⟩
  .have q1:0<x.lo.q:=(rH _).1.1 aC ;have q2:0<x.hi.q:=by have:=hx.q;grind
   obtain⟨n1,m1⟩:=WW q1;obtain⟨n2,m2⟩:=WW q2;refine⟨_,?_,aga x p hx ic gX xa h1 n1 n2 m1 m2⟩;refine akp (CH _) (CH _) (Yo ic m1) (Yo ic m2) aC aC ?_;rw[Yr n1 _ (Ks _ _),Yr n2 _ (Ks _ _)];exact hx.q
def jV(X b:Nat):Nat->Nat
 | 0=>2^b
 |k+1=>jV X b k*X/2^b/(k+1)
def S8{X b:Nat}(h:X<=2^(b+1))(t:Nat):t*X/2^b<=2*t:=by
 have hp:0<2^b:=bj aE;have h1:t*X<=t*(2^b*2):=cE t (by rw[<-bC];exact h);have h2:t*X/2^b<=t*(2^b*2)/2^b:=Nat.div_le_div_right h1;have h3:t*(2^b*2)/2^b=2*t:=by
  rw[show t*(2^b*2)=2^b*(2*t)by rw[dK,bD t 2]];exact ann _ hp
 omega
def Fg{X b:Nat}(h:X<=2^(b+1)):∀ k,jV X b k<=2^(b+1)
 | 0=>by show 2^b<=2^(b+1);rw[bC];omega
 | 1=>by
  show 2^b*X/2^b/1<=_;rw[eI,ann _ (bj aE)];exact h
 |k+2=>by
  have ih:=Fg h (k+1);have h1:=S8 h (jV X b (k+1));show jV X b (k+1)*X/2^b/(k+2)<=_;have h2:jV X b (k+1)*X/2^b/(k+2)<=jV X b (k+1)*X/2^b/2:=gJ aC aE;omega
def ad2{X b:Nat}(h:X<=2^(b+1))(k:Nat)(hk:3<=k):jV X b (k+1)*2<=jV X b k:=by
 have h1:=S8 h (jV X b k);have h2:jV X b (k+1)<=jV X b k*X/2^b/4:=gJ aC aE;omega
def S7{X b:Nat}(h:X<=2^(b+1)):∀ j,jV X b (3+j)*2^j<=2^(b+1)
 | 0=>by rw[cw,b5];exact Fg h 3
 |j+1=>by
  have ih:=S7 h j;have h1:=ad2 h (3+j) aC;have h2:=bK (2^j) h1;rw[bC,show jV X b (3+(j+1))*(2^j*2)=jV X b (3+j+1)*2*2^j by rw[bA,bD 2 (2^j)];rfl];omega
def ad3{X b:Nat}(h:X<=2^(b+1)):∃ N,1<=N/\N<=b+5/\(∀ k,k<N->jV X b k≠0)/\jV X b N=0:=by
 have hz:jV X b (3+(b+2))=0:=by
  have h1:=S7 h (b+2);apply bL;intro jh;have h2:2^(b+2)<=jV X b (3+(b+2))*2^(b+2):=fW _ (dL jh);have h3:2^(b+2)=2^(b+1)*2:=bC (n:=2) (m:=b+1);have h4:0<2^(b+1):=bj aE;omega
 obtain⟨N,n1,n2,n3⟩:=sL (p:=λk=>decide (jV X b k=0)) (n:=b+6) ⟨3+(b+2),aC,a6 hz⟩;have n2':=cC n2;refine⟨N,?_,aC,λk hk=>fU (n3 k hk),n2'⟩;rcases N with _|N
 .have:0<2^b:=bj aE ;have e:2^b=0:=n2';omega
 .omega
def ae7{f:Nat->Nat}{B:Nat}(h0:f 0<2^B)(h:∀ k,f (k+1)*2<=f k):∃ N,N<=B/\(∀ k,k<N->f k≠0)/\f N=0:=by
 have hp:∀ k,f k*2^k<=f 0:=by
  intro k
  induction k with
  |zero=>rw[cw,b5];exact bc _
  |succ k ih=>
   have:=bK (2^k) (h k);rw[bC,show f (k+1)*(2^k*2)=f (k+1)*2*2^k by rw[bA,bD 2 (2^k)]];omega
 have hz:f B=0:=by
  apply bL;intro jh;have h2:2^B<=f B*2^B:=fW _ (dL jh);have:=hp B;omega
 obtain⟨N,n1,n2,n3⟩:=sL (p:=λk=>decide (f k=0)) (n:=B+1) ⟨B,aC,a6 hz⟩;exact⟨N,aC,λk hk=>fU (n3 k hk),cC n2⟩
def ju(a b:Bool×Nat):Bool×Nat:=if a.1=b.1 then(a.1,a.2+b.2)else if a.2<b.2 then(b.1,b.2-a.2)else(a.1,a.2-b.2)
def pd(a:Bool×Nat):Int:=if a.1 then -(a.2:Int)else(a.2:Int)
def LX(a b:Bool×Nat):pd (ju a b)=pd a+pd b:=by
 obtain⟨s,m⟩:=a;obtain⟨t,n⟩:=b;unfold ju pd;cases s<;>cases t<;>simp<;>(try split)<;>(try simp)<;>omega
def xB(a b:Bool×Nat):(ju a b).2<=a.2+b.2:=by
 unfold ju;split
 .exact bc _
 .split
  .show b.2-a.2<=_;omega
  .show a.2-b.2<=_;omega
def Aj(a:Bool×Nat)(b:Nat):Dy:=canon a.1 a.2 (-(b:Int))
def S6(a:Bool×Nat)(b:Nat):(Aj a b).q=(pd a:Rat)*P2 (-(b:Int)):=by
 unfold Aj pd;rw[qI];cases a.1
 .simp only[bB,bk];rw[dN]
 .simp only[bw];rw[gL,dN];grind
def IM(a:Bool×Nat):Bool×Nat:=ju a (true,16777216)
def IL(a:Bool×Nat):Bool×Nat:=ju a (false,16777216)
def sP(a:Bool×Nat)(b p:Nat):Iv:=lH (jZ (Aj (IM a) b) p false) (jO (Aj (IM a) b) p false) (jZ (Aj (IL a) b) p true) (jO (Aj (IL a) b) p true)
def ahI(a:Bool×Nat)(b:Nat){p:Nat}(hp:1<=p)(gX:p<=4096):(sP a b p).gY:=by
 unfold sP lH;split
 .exact lL
 .rename_i he;have c1:(Aj (IM a) b).nc:=rq _ _ _;have c2:(Aj (IL a) b).nc:=rq _ _ _;have A:=xg c1 hp gX;have B:=xh c2 hp gX;refine .inr ⟨rfl,wo _ hp gX _,wo _ hp gX _,?_⟩;rw[oJ];refine bH (A.1 aC).2 (bH ?_ (B.1 aC).2);rw[S6,S6,uZ,fS];unfold IM IL;rw[LX,LX];simp[pd]
def zZ(m n:Nat)(h1:(gS m).length<=256)(h2:n<=65536)(h3:(gS (m*2^n)).length<=256):gR 296 [gW (gS m),iP n] (gW (gS (m*2^n))):=
 ak call296 func296 (af [ag [gW (gS m),iP n] (Wn _ _ aD aC aD)]) 
def wG(m n:Nat)(h1:(gS m).length<=256)(h2:n<=65536):gR 297 [gW (gS m),iP n] (gW (gS (m/2^n))):=
 ak call297 func297 (af [ag [gW (gS m),iP n] (JP _ _ aD aC)]) 
def Lf(m:Nat)(z:Int)(h1:(gS m).length<=256)(h2:0<=z)(h3:z<=65536)(h4:(gS (m*2^z.toNat)).length<=256):gR 296 [gW (gS m),iP z] (gW (gS (m*2^z.toNat))):=by
 have:=zZ m z.toNat h1 aC h4;rwa[show(z.toNat:Int)=z by omega]at this
def abK(m:Nat)(z:Int)(h1:(gS m).length<=256)(h2:0<=z)(h3:z<=65536):gR 297 [gW (gS m),iP z] (gW (gS (m/2^z.toNat))):=by
 have:=wG m z.toNat h1 aC;rwa[show(z.toNat:Int)=z by omega]at this
def lp{m k:Nat}(h:m<2^k)(hk:k<=8192):(gS m).length<=256:=ph (bg (lZ.2 h) hk)
def tu{n:Nat}(h:n<4294967296):(gS n).length<=256:=lp (k:=32) h aE 
def afR(n:Nat):(iS n).neg=false/\0<=(iS n).e/\(iS n).m*2^(iS n).e.toNat=n/\(iS n).m<=n:=by
 by_cases h:n=0
 .subst h;decide
 .have e1:(iS (n:Int))=canon false n 0:=Ci n;have e2:canon false n 0=⟨false,n/2^jl n,(jl n:Int)⟩:=by unfold canon;rw[aY h];simp
  rw[e1,e2];refine⟨rfl,Int.natCast_nonneg _,?_,bT _ _⟩;show n/2^jl n*2^(jl n:Int).toNat=n;rw[fE];exact E3 h
def Lh(n:Nat)(h:n<4294967296):gR 298 [iP n] (.agg [bP false,gW (gS n)]):=by
 obtain⟨p1,p2,p3,p4⟩:=afR n;have hv:=DP n h;have he:=hv.exp;have z1:=hv.gS;have z2:(gS ((iS n).m*2^(Int.toNat (iS n).e))).length<=256:=by rw[p3];exact tu h
 exact ak call298 func298 (ae [.c (ED n aC),ag [gW (gS ((iS (n:Int)).m)),iP ((iS (n:Int)).e)] (Lf _ _ aD aC aC aD)]<|rQ (.agg [bP ((iS (n:Int)).neg),gW (gS (((iS (n:Int)).m)*2^(Int.toNat ((iS (n:Int)).e))))]) (.agg [bP false,gW (gS n)]) (by rw[p1,p3])) 
def aaD(m:Nat):((ia m:Int)==0)=decide (m=0):=by
 by_cases h:m=0
 .subst h;rw[rO];rfl
 .have:=nR h;rw[a7 h];exact nA aC 
def Dm(a:Bool×Nat)(ha:(gS a.2).length<=256):gR 303 [.agg [bP a.1,gW (gS a.2)]] (bP (decide (a.2=0))):=
 ak call303 func303 (ae [ag [gW (gS a.2)] (sj _ aC)]<|rQ (bP ((ia a.2:Int)==0)) (bP (decide (a.2=0))) (by rw[aaD])) 
def wK(a:Bool×Nat):gR 293 [.agg [bP a.1,gW (gS a.2)]] (.agg [bP (!a.1),gW (gS a.2)]):=
 ak call293 func293 (.nil) 
def adO(a:Bool×Nat)(ha:(gS a.2).length<=256)(b:Bool×Nat)(hb:(gS b.2).length<=256)(h:a.1=b.1)(hs:(gS (a.2+b.2)).length<=256):gR 302 [.agg [bP a.1,gW (gS a.2)],.agg [bP b.1,gW (gS b.2)]] (.agg [bP a.1,gW (gS (a.2+b.2))]):=
 ak call302 func302 (af [ah 13 (a.1==b.1) (by rw[h];simp),ag [gW (gS a.2),gW (gS b.2)] (JO _ _ aD aD aD)]) 
def adM(a:Bool×Nat)(ha:(gS a.2).length<=256)(b:Bool×Nat)(hb:(gS b.2).length<=256)(h:¬a.1=b.1)(h2:a.2<b.2):gR 302 [.agg [bP a.1,gW (gS a.2)],.agg [bP b.1,gW (gS b.2)]] (.agg [bP b.1,gW (gS (b.2-a.2))]):=
 ak call302 func302 (af [ai 13 (a.1==b.1) (by simpa using h),ag [gW (gS a.2),gW (gS b.2)] (y9 _ _ aC aC),tT 31 ((ky a.2 b.2)<0) (Dh.2 h2),ag [gW (gS b.2),gW (gS a.2)] (Gl _ _ aD aD aC)]) 
def adN(a:Bool×Nat)(ha:(gS a.2).length<=256)(b:Bool×Nat)(hb:(gS b.2).length<=256)(h:¬a.1=b.1)(h2:¬a.2<b.2):gR 302 [.agg [bP a.1,gW (gS a.2)],.agg [bP b.1,gW (gS b.2)]] (.agg [bP a.1,gW (gS (a.2-b.2))]):=
 ak call302 func302 (af [ai 13 (a.1==b.1) (by simpa using h),ag [gW (gS a.2),gW (gS b.2)] (y9 _ _ aC aC),tF 31 ((ky a.2 b.2)<0) λq=>h2 (Dh.1 q),ag [gW (gS a.2),gW (gS b.2)] (Gl _ _ aD aD aC)]) 
def s7(a:Bool×Nat)(ha:(gS a.2).length<=256)(b:Bool×Nat)(hb:(gS b.2).length<=256)(hs:(gS (a.2+b.2)).length<=256):gR 302 [.agg [bP a.1,gW (gS a.2)],.agg [bP b.1,gW (gS b.2)]] (.agg [bP ((ju a b).1),gW (gS ((ju a b).2))]):=by
 unfold ju;split
 .rename_i h;exact adO a ha b hb h hs
 .rename_i h;split
  .rename_i h2;exact adM a ha b hb h h2
  .rename_i h2;exact adN a ha b hb h h2
def LW(a:Bool×Nat)(ha:(gS a.2).length<=256)(c:Bool×Nat)(hc:(gS c.2).length<=256)(b:Nat)(hb:b<=65536)(hm:(gS (a.2*c.2)).length<=256):gR 299 [.agg [bP a.1,gW (gS a.2)],.agg [bP c.1,gW (gS c.2)],iP b] (.agg [bP (a.1 != c.1),gW (gS (a.2*c.2/2^b))]):=
 ak call299 func299 (af [ag [gW (gS a.2),gW (gS c.2)] (xV _ _ aD aD aD),.c (wG (a.2*c.2) b aD aC)]) 
def Fb(a:Bool×Nat)(ha:(gS a.2).length<=256)(n:Nat)(h0:n≠0)(hn:n<4294967296):gR 307 [.agg [bP a.1,gW (gS a.2)],iP n] (.agg [bP a.1,gW (gS (a.2/n))]):=by
 have zn:(gS n).length<=256:=tu hn;exact ak call307 func307 (af [.c (Lh n aC),ag [gW (gS a.2),gW (gS n)] (ze _ _ aC aC aD)]) 
def rj(d:Dy)(b:Nat):Bool×Nat:=(d.neg,if d.e+(b:Int)<0 then d.m/2^(0-(d.e+(b:Int))).toNat else d.m*2^(d.e+(b:Int)).toNat)
def abt(d:Dy)(hd:d.gY)(b:Nat)(hb:b<=30000)(h:d.e+(b:Int)<0):gR 301 [gV d,iP b] (.agg [bP ((rj d b).1),gW (gS ((rj d b).2))]):=by
 have hx:=hd.exp;have z1:=hd.gS;exact ak call301 func301 (ae [ik (d.e+(b:Int)) aC,tB 11 (a6 h),ik (0-(d.e+(b:Int))) aC,ag [gW (gS d.m),iP (0-(d.e+(b:Int)))] (abK _ _ aD aC aC)]<|rQ (.agg [bP d.neg,gW (gS (d.m/2^(Int.toNat (0-(d.e+(b:Int))))))]) (.agg [bP ((rj d b).1),gW (gS ((rj d b).2))]) (by unfold rj;rw[aZ h])) 
def abr(d:Dy)(hd:d.gY)(b:Nat)(hb:b<=30000)(h:¬d.e+(b:Int)<0)(hs:(gS (d.m*2^(Int.toNat (d.e+(b:Int))))).length<=256):gR 301 [gV d,iP b] (.agg [bP ((rj d b).1),gW (gS ((rj d b).2))]):=by
 have hx:=hd.exp;have z1:=hd.gS;exact ak call301 func301 (ae [ik (d.e+(b:Int)) aC,tB 11 (a7 h),ik (d.e+(b:Int)) aC,ag [gW (gS d.m),iP (d.e+(b:Int))] (Lf _ _ aD aC aC aD)]<|rQ (.agg [bP d.neg,gW (gS (d.m*2^(Int.toNat (d.e+(b:Int)))))]) (.agg [bP ((rj d b).1),gW (gS ((rj d b).2))]) (by unfold rj;rw[aY h])) 
def JV{d:Dy}{b K:Nat}(h:d.ij+(b:Int)<=K):(rj d b).2<2^K:=by
 by_cases h0:d.m=0
 .have:(rj d b).2=0:=by unfold rj;simp only[h0];split<;>simp
  rw[this];exact bj aE 
 .rw [GZ h0]at h;have hm:=ql d.m;unfold rj;simp only;split
  .rename_i hc;obtain⟨k,hk⟩:∃ k,k=(0-(d.e+(b:Int))).toNat:=⟨_,rfl⟩
   rw[<-hk];by_cases hb:ia d.m<=k
   .rw [cO (bJ hm (bI aE hb))];exact bj aE 
   .refine (ct (bj aE)).2 (bJ hm ?_);rw[<-bh];exact bI aE aC 
  .rename_i hc;obtain⟨k,hk⟩:∃ k,k=(d.e+(b:Int)).toNat:=⟨_,rfl⟩
   rw[<-hk];have:=df hm (bj (n:=k) (show 0<2 by decide));rw[<-bh]at this;exact bJ this (bI aE aC)
def Lg(d:Dy)(hd:d.gY)(b K:Nat)(hb:b<=30000)(hK:K<=8192)(h:d.ij+(b:Int)<=K):gR 301 [gV d,iP (b:Int)] (.agg [bP ((rj d b).1),gW (gS ((rj d b).2))]):=by
 by_cases hc:d.e+(b:Int)<0
 .exact abt d hd b hb hc
 .refine abr d hd b hb hc ?_;have:=JV h;unfold rj at this;rw[aY hc]at this;exact lp this hK
def mv(f:Nat->Nat):Nat->Bool×Nat
 | 0=>(false,f 0)
 |k+1=>ju (mv f k) (decide ((k+1)%2=1),f (k+1)/(2*(k+1)+1))
def Qd{f:Nat->Nat}(hf:∀ k,f (k+1)<=f k):∀ n,(n%2=0->pd (mv f n)<=f 0/\(f 0:Int)-(f 1/3:Nat)<=pd (mv f n)-(f (n+1)/(2*(n+1)+1):Nat))/\(n%2=1->(f 0:Int)-(f 1/3:Nat)<=pd (mv f n)/\pd (mv f n)+(f (n+1)/(2*(n+1)+1):Nat)<=f 0)
 | 0=>⟨λ_=>⟨by simp[mv,pd],by simp[mv,pd]⟩,λh=> aC⟩
 |n+1=>by
  obtain⟨e,o⟩:=Qd hf n;have hq:f (n+1+1)/(2*(n+1+1)+1)<=f (n+1)/(2*(n+1)+1):=Nat.div_le_div (hf (n+1)) aC aC;have hv:pd (mv f (n+1))=pd (mv f n)+pd (decide ((n+1)%2=1),f (n+1)/(2*(n+1)+1)):=LX _ _;generalize f (n+1)/(2*(n+1)+1)=q1 at *
  generalize f (n+1+1)/(2*(n+1+1)+1)=q2 at *
  generalize f 1/3=q0 at *
  rcases ano n with h|h
  .obtain ⟨e1,e2⟩:=e h;rw[show decide ((n+1)%2=1)=true from a6 aC]at hv;simp only[pd,bw]at hv;exact⟨λq=> aC,λ_=>⟨by unfold pd at *;omega,by unfold pd at *;omega⟩⟩
  .obtain ⟨e1,e2⟩:=o h;rw[show decide ((n+1)%2=1)=false from a7 aC]at hv;simp only[pd,bB,bk]at hv;exact⟨λ_=>⟨by unfold pd at *;omega,by unfold pd at *;omega⟩,λq=> aC⟩
def K7{f:Nat->Nat}(hf:∀ k,f (k+1)<=f k)(n:Nat):(mv f n).2<=f 0/\f 0<=(mv f n).2+f 1/3:=by
 have ht:=Qd hf n;have h1:f 1/3<=f 0:=bg (bT _ _) (hf 0);have hb:(f 0:Int)-(f 1/3:Nat)<=pd (mv f n)/\pd (mv f n)<=f 0:=by
  rcases ano n with h|h
  .have:=ht.1 h;generalize f (n+1)/(2*(n+1)+1)=q at *
   omega
  .have:=ht.2 h;generalize f (n+1)/(2*(n+1)+1)=q at *
   omega
 generalize mv f n=s at *
 generalize f 1/3=q at *
 obtain⟨b,m⟩:=s;cases b
 .simp only[pd,bB,bk]at hb ⊢;omega
 .simp only[pd,bw]at hb ⊢;omega
def Hr{f:Nat->Nat}(hf:∀ k,f (k+1)<=f k):∀ k,f k<=f 0
 | 0=>bc _
 |k+1=>bg (hf k) (Hr hf k)
def C7{f:Nat->Nat}(hf:∀ k,f (k+1)<=f k){B:Nat}(hB:B<=8191)(hz:f 0<2^B)(k:Nat):(gS (f k)).length<=256:=lp (ck (Hr hf k) hz) aC 
def Hs{f:Nat->Nat}(hf:∀ k,f (k+1)<=f k){B:Nat}(hB:B<=8191)(hz:f 0<2^B)(k:Nat):(gS (mv f k).2).length<=256/\(gS (f (k+1)/(2*(k+1)+1))).length<=256:=⟨lp (ck (K7 hf k).1 hz) aC,lp (ck (bg (bT _ _) (Hr hf (k+1))) hz) aC⟩
def Qe{f:Nat->Nat}(hf:∀ k,f (k+1)<=f k){B:Nat}(hB:B<=8191)(hz:f 0<2^B)(k:Nat):(gS ((mv f k).2+f (k+1)/(2*(k+1)+1))).length<=256:=by
 have h1:=(K7 hf k).1;have h2:=bg (bT (f (k+1)) (2*(k+1)+1)) (Hr hf (k+1));refine lp (k:=B+1) ?_ aC;rw[bC];omega
def si(n b:Nat):Nat->Nat
 | 0=>1*2^b/n
 |k+1=>si n b k/(n*n)
def UY{n b:Nat}(hn:2<=n)(k:Nat):si n b (k+1)*2<=si n b k:=by
 show si n b k/(n*n)*2<=_;have h1:si n b k/(n*n)<=si n b k/2:=gJ (by have:=dk hn hn;omega) aE;omega
def Nt(n b:Nat):si n b 0<2^(b+1):=by
 show 1*2^b/n<_;rw[bU,bC];have:=bT (2^b) n;have:0<2^b:=bj aE;omega
def afZ{n b:Nat}(hn:2<=n):∃ N,N<=b+1/\(∀ k,k<N->si n b (k+1)≠0)/\si n b (N+1)=0:=by
 obtain⟨N,h1,h2,h3⟩:=ae7 (Nt n b) (UY hn);rcases N with _|N
 .refine ⟨0,aC,λk hk=>absurd hk (bn _),?_⟩;have:=UY (b:=b) hn 0;omega
 .exact ⟨N,aC,λk hk=>h2 (k+1) aC,h3⟩
def aim{T x y f g:Nat}(hT:65536<=T)(hf:f=T/5)(AE:x<=f)(tl:f<=x+f/(5*5)/3)(hy:y<=T/239)(hg:g=(ju (false,x*2^4) (true,y*2^2)).2):2<=g/\g<=T*4/\g/2<=T*2:=by
 have h16:(2:Nat)^4=16:=rfl;have h4:(2:Nat)^2=4:=rfl;have e:g=x*16-y*4:=by
  rw[hg,h16,h4];unfold ju;rw[aY (show ¬false=true from Bool.false_ne_true),aY (by show ¬x*16<y*4;omega)]
 omega
def Qc(f:Nat->Nat)(g:FuncId)(cap:List E)(N:Nat)(x:Nat):PS:=⟨30,true,[(6,.e (iP ((x+1:Nat):Int))),(5,.box 5 0),(4,.box 4 0),(2,.box 2 0),(1,.e (.fn g cap))],[(5,.cells 216 [bP ((mv f x).1),gW (gS ((mv f x).2))]),(4,.cells 216 [bP false,.v (.slice none 0 0)]),(2,.cells 216 [bP false,gW (gS (f x))])]⟩
def aaS(f:Nat->Nat)(g:FuncId)(cap:List E)(N:Nat)(hp:∀ k,k<=N->gR g ((.agg [bP false,gW (gS (f k))])::cap) (.agg [bP false,gW (gS (f (k+1)))]))(hf:∀ k,f (k+1)<=f k)(B:Nat)(hB:B<=8191)(hz:f 0<2^B)(h0:∀ k,k<N->f (k+1)≠0)(hN:f (N+1)=0)(sA:N<=100000):gR 309 [.agg [bP false,gW (gS (f 0))],.fn g cap] (.agg [bP ((mv f N).1),gW (gS ((mv f N).2))]):=by
 have z00:=C7 hf hB hz 0;exact ak call309 func309 (af [.s (Sp.jH (Qc f g cap N) 0 N aC (λx hx mw=>by
    have z1:=C7 hf hB hz (x+1);have z0:=C7 hf hB hz x;have zs:=(Hs hf hB hz x).1;have zt:=(Hs hf hB hz x).2;have zu:=Qe hf hB hz x;exact iB (ae [.c (hp x aC:gR g ((.agg [bP false,gW (gS (f x))])::cap) _),ag [.agg [bP false,gW (gS (f (x+1)))]] (Dm (false,(f (x+1))) aD),tF 15 ((f (x+1))=0) (h0 x aC),
     ik (2*((x+1:Nat):Int)) aC,ik (((2*(x+1):Nat):Int)+1) aC,ag [.agg [bP false,gW (gS (f (x+1)))],iP (((2*(x+1))+1:Nat):Int)] (Fb (false,(f (x+1))) aD ((2*(x+1))+1) aC aC),.a (aC:0<(2:Int))]<|.w ((x+1)%2=1)
     (λho=>ae [ah 24 ((((x+1)%2:Nat):Int)==1) (by rw[ho];rfl),ag [.agg [bP false,gW (gS ((f (x+1))/((2*(x+1))+1)))]] (wK (false,((f (x+1))/((2*(x+1))+1)))),ag [.agg [bP ((mv f x).1),gW (gS ((mv f x).2))],.agg [bP (!false),gW (gS ((f (x+1))/((2*(x+1))+1)))]] (s7 (mv f x) aD ((!false),((f (x+1))/((2*(x+1))+1))) aD aD),
      ik (((x+1:Nat):Int)+1) aC]<|.e (af [.b 5 (.iM (by first|rfl|simp[mv,ho]):Bx.le (.cells 216 [bP ((ju (mv f x) ((!false),((f (x+1))/((2*(x+1))+1)))).1),gW (gS ((ju (mv f x) ((!false),((f (x+1))/((2*(x+1))+1)))).2))]) (.cells 216 [bP ((mv f (x+1)).1),gW (gS ((mv f (x+1)).2))]))]))
     (λho=>ae [ai 24 ((((x+1)%2:Nat):Int)==1) aN,ag [.agg [bP ((mv f x).1),gW (gS ((mv f x).2))],.agg [bP false,gW (gS ((f (x+1))/((2*(x+1))+1)))]] (s7 (mv f x) aD (false,((f (x+1))/((2*(x+1))+1))) aD aD),
      ik (((x+1:Nat):Int)+1) aC]<|.e (af [.b 5 (.iM (by first|rfl|simp[mv,ho]):Bx.le (.cells 216 [bP ((ju (mv f x) (false,((f (x+1))/((2*(x+1))+1)))).1),gW (gS ((ju (mv f x) (false,((f (x+1))/((2*(x+1))+1)))).2))]) (.cells 216 [bP ((mv f (x+1)).1),gW (gS ((mv f (x+1)).2))]))]))) aF)
  (λhx=>by
    have z1:=C7 hf hB hz (N+1);have z0:=C7 hf hB hz N;have zs:=(Hs hf hB hz N).1;have zt:=(Hs hf hB hz N).2;have zu:=Qe hf hB hz N;exact iB (af [.c (hp N aC:gR g ((.agg [bP false,gW (gS (f N))])::cap) _),ag [.agg [bP false,gW (gS (f (N+1)))]] (Dm (false,(f (N+1))) aD),tB 15 (a6 hN)]) aF) aI:jD 4 f309 (Qc f g cap N 0) .ret ⟨30,true,[(4,.box 4 0)],[(4,.cells 216 [bP ((mv f N).1),gW (gS ((mv f N).2))])]⟩) (af [.o 6 (aq 1 ((0+1:Nat):Int) aO),.b 5 (.iM (by first|rfl|simp[mv,ho]):Bx.le (.cells 216 [bP false,gW (gS (f 0))]) (.cells 216 [bP ((mv f 0).1),gW (gS ((mv f 0).2))]))])]) 
def abh(m n:Nat)(hm:(gS m).length<=256)(qA:n≠0)(hn:n<60000):gR 310 [.agg [bP false,gW (gS m)],(.iN 1 λj_=>[iP n].getD j_ .any)] (.agg [bP false,gW (gS (m/(n*n)))]):=by
 have hnn:n*n<3600000000:=anp hn hn;have hnz:n*n≠0:=dg qA qA;exact ak call310 func310 (af [ik ((n:Int)*(n:Int)) aC,ag [.agg [bP false,gW (gS m)],iP ((n*n:Nat):Int)] (Fb (false,m) aD (n*n) aC aC)]) 
def abi(n b:Nat)(S:Bool×Nat)(qA:n≠0)(hn:n<60000)(hb:b<=8000)(hS:gR 309 [.agg [bP false,gW (gS (1*2^b/n))],.fn 310 [(.iN 1 λj_=>[iP n].getD j_ .any)]] (.agg [bP S.1,gW (gS S.2)])):gR 308 [iP n,iP b] (.agg [bP S.1,gW (gS S.2)]):=by
 have z0:(gS 1).length<=256:=tu aE;have z1:(gS (1*2^b)).length<=256:=lp (k:=b+1) (by rw[bC,bU];have:0<2^b:=bj aE;omega) aC;exact ak call308 func308 (af [.o 6 (.e w8:aj (.sl false 1 1 λi_ j_=>[.v (.int .u32 1)].getD (i_*1+j_) (.v (.bool false))) (gW (gS 1))),.c (zZ 1 b aD aC aD),ag [.agg [bP false,gW (gS (1*2^b))],iP n] (Fb (false,(1*2^b)) aD n aC aC),ag [.agg [bP false,gW (gS ((1*2^b)/n))],.fn 310 [(.iN 1 λj_=>[iP n].getD j_ .any)]] hS]) 
def QX(n b:Nat)(qA:2<=n)(hn:n<60000)(hb:b<=8000):∃ S:Bool×Nat,S.2<=2^b/n/\2^b/n<=S.2+2^b/n/(n*n)/3/\gR 308 [iP (n:Int),iP (b:Int)] (.agg [bP S.1,gW (gS S.2)]):=by
 obtain⟨N,h1,h2,h3⟩:=afZ (b:=b) qA;have hf:∀ k,si n b (k+1)<=si n b k:=λk=>bT _ _
 obtain⟨r1,r2⟩:=K7 hf N;have e0:si n b 0=2^b/n:=by show 1*2^b/n=_;rw[bU]
 have e1:si n b 1=2^b/n/(n*n):=by show si n b 0/(n*n)=_;rw[e0]
 refine⟨mv (si n b) N,by rw[<-e0];exact r1,by rw[<-e1,<-e0];exact r2,?_⟩;exact abi n b _ aC hn hb (aaS (si n b) 310 _ N (λk _=>abh (si n b k) n (C7 hf (aC:b+1<=8191) (Nt n b) k) aC hn) hf (b+1) aC (Nt n b) h2 h3 aC)
def abu(b:Nat)(x y:Bool×Nat)(zx:x.2<2^b)(zy:y.2<2^b)(hb:b<=8000)(hx:gR 308 [iP ((5:Nat):Int),iP (b:Int)] (.agg [bP x.1,gW (gS x.2)]))(hy:gR 308 [iP ((239:Nat):Int),iP (b:Int)] (.agg [bP y.1,gW (gS y.2)])):gR 295 [iP b] (.agg [bP ((ju (false,x.2*2^4) (true,y.2*2^2)).1),gW (gS ((ju (false,x.2*2^4) (true,y.2*2^2)).2))]):=by
 have z1:(gS x.2).length<=256:=lp zx aC;have z2:(gS y.2).length<=256:=lp zy aC;have e5:2^(b+5)=2^b*32:=by rw[bh]
 have z3:(gS (x.2*2^4)).length<=256:=lp (k:=b+5) aC aC;have z4:(gS (y.2*2^2)).length<=256:=lp (k:=b+5) aC aC;have z5:(gS (x.2*2^4+y.2*2^2)).length<=256:=lp (k:=b+5) aC aC;exact ak call295 func295 (af [ag [iP 5,iP b] hx,ag [iP 239,iP b] hy,.c (zZ x.2 4 aD aC aD),.c (zZ y.2 2 aD aC aD),ag [.agg [bP false,gW (gS (x.2*2^4))],.agg [bP true,gW (gS (y.2*2^2))]] (s7 (false,(x.2*2^4)) aD (true,(y.2*2^2)) aD aD)]) 
def QZ(b:Nat)(iQ:16<=b)(hb:b<=8000):∃ c:Bool×Nat,2<=c.2/\c.2<=2^b*4/\c.2/2<=2^b*2/\gR 295 [iP (b:Int)] (.agg [bP c.1,gW (gS c.2)]):=by
 obtain⟨x,x1,x2,hx⟩:=QX 5 b aE aE hb;obtain⟨y,y1,y2,hy⟩:=QX 239 b aE aE hb;have hT:65536<=2^b:=by have:=bI (show 0<2 by decide) iQ;omega
 obtain⟨g1,g2,g3⟩:=aim hT rfl x1 x2 y1 rfl;exact⟨_,g1,g2,g3,abu b x y aC aC hb hx hy⟩
def YU(n:Nat)(h:n<4294967296):bits .and .u32 (n:Int) 3=((n%4:Nat):Int):=by
 have:=bits_and_u32_nat n 3 h aE;rw[show((3:Int))=((3:Nat):Int)from rfl,this];exact congrArg _ (anh n 2)
def afF(k:Nat)(h:k<=3):bits .and .i64 (4-(k:Int)) 3=(((4-k)%4:Nat):Int):=by
 rcases(aC:k=0\/k=1\/k=2\/k=3)with rfl|rfl|rfl|rfl<;>decide
def adP{x:Bool×Nat}{m:Nat}(h:m<=x.2):ju x (!x.1,m)=(x.1,x.2-m):=by
 unfold ju;rw[aY (by show ¬x.1 = !x.1;cases x.1<;>decide),aY (by show ¬x.2<m;omega)]
def aiQ(n:Nat):n%4<=3:= aC 
def aiP(n:Nat):(4-n)%4<=3:= aC 
def aiR{x:Bool×Nat}{H b t:Nat}(h0:1<=H)(hH:H<=2^(b+t+40)*2):(ju x (!x.1,x.2/H*H)).2/2^(t+40)<=2^(b+1):=by
 rw[adP (cU _ _)];show(x.2-x.2/H*H)/_<=_;have h1:x.2-x.2/H*H=x.2%H:=by
  have:=cB x.2 H;rw[bD H]at this;omega
 have h2:=bE x.2 (aC:0<H);rw[h1];refine Nat.div_le_of_le_mul (bg (du h2) (bg hH (gG ?_)));rw[<-bh,(aC:t+40+(b+1)=b+t+40+1)];exact(bC 2 (b+t+40)).symm
def kT(x:Bool×Nat):Nat->Bool
 | 0=>false
 |k+1=>(kT x k != x.1)
def jG(x:Bool×Nat)(b:Nat):Nat->(Bool×Nat)×(Bool×Nat)
 | 0=>((false,0),(false,1*2^b))
 |k+1=>if(k+1)%2=1 then(ju (jG x b k).1 ((if 2<=(k+1)%4 then !(kT x (k+1))else kT x (k+1)),jV x.2 b (k+1)),(jG x b k).2)
  else((jG x b k).1,ju (jG x b k).2 ((if 2<=(k+1)%4 then !(kT x (k+1))else kT x (k+1)),jV x.2 b (k+1)))
def X7{x:Bool×Nat}{b:Nat}(h:x.2<=2^(b+1)):∀ k,(jG x b k).1.2<=(k+1)*2^(b+1)/\(jG x b k).2.2<=(k+1)*2^(b+1)
 | 0=>⟨bV _,by show 1*2^b<=_;have:=bC (n:=2) (m:=b);omega⟩
 |k+1=>by
  obtain⟨h1,h2⟩:=X7 h k;have h3:=Fg h (k+1);have h4:(k+1+1)*2^(b+1)=(k+1)*2^(b+1)+2^(b+1):=gI _ _;unfold jG;split
  .refine ⟨bg (xB _ _) ?_,by rw[h4];exact bg h2 (Nat.le_add_right _ _)⟩;rw[h4];exact Nat.add_le_add h1 h3
  .refine ⟨by rw[h4];exact bg h1 (Nat.le_add_right _ _),bg (xB _ _) ?_⟩;rw[h4];exact Nat.add_le_add h2 h3
def X8{x:Bool×Nat}{b:Nat}(h:x.2<=2^(b+1))(hb:b<=3000){k:Nat}(hk:k<=b+5):(jG x b k).1.2<2^(b+14)/\(jG x b k).2.2<2^(b+14):=by
 obtain⟨h1,h2⟩:=X7 h k;have h3:(k+1)*2^(b+1)<2^(b+14):=by
  rw[(aC:b+14=13+(b+1)),bh 2 13];exact df aC (bj aE)
 exact⟨ck h1 h3,ck h2 h3⟩
def ad1{T:TypeId}:Bx.le (.cells T [bP false,.v (.slice none 0 0)]) (.cells T [bP false,gW (gS 0)]):=
 .cells (λ_=>rfl) (.cons (.refl _) (.cons Cy .nil))
structure Zu(x:Bool×Nat)(b k:Nat):Prop where
 t0:(gS (jV x.2 b k)).length<=256
 t1:(gS (jV x.2 b (k+1))).length<=256
 tm:(gS (jV x.2 b k*x.2)).length<=256
 tq:(gS (jV x.2 b k*x.2/2^b)).length<=256
 s0:(gS (jG x b k).1.2).length<=256
 c0:(gS (jG x b k).2.2).length<=256
 s1:(gS ((jG x b k).1.2+jV x.2 b (k+1))).length<=256
 c1:(gS ((jG x b k).2.2+jV x.2 b (k+1))).length<=256
def X6{x:Bool×Nat}{b:Nat}(h:x.2<=2^(b+1))(hb:b<=3000){k:Nat}(hk:k<=b+5):Zu x b k:=by
 have hp:(2:Nat)^(b+2)=2^(b+1)*2:=bC _ _;have hq:(0:Nat)<2^(b+1):=bj aE;have t0:=Fg h k;have t1:=Fg h (k+1);obtain⟨s,c⟩:=X8 h hb hk;have hm:jV x.2 b k*x.2<2^(b+2+(b+2)):=by
  rw[bh];exact anp aC aC 
 have e14:(2:Nat)^(b+15)=2^(b+14)*2:=bC _ _;have e13:(2:Nat)^(b+1)<=2^(b+14):=bI aE aC;exact⟨lp (k:=b+2) aC aC,lp (k:=b+2) aC aC,lp hm aC,lp (ck (bT _ _) hm) aC,
  lp s aC,lp c aC,lp (k:=b+15) aC aC,lp (k:=b+15) aC aC⟩
def VY{s:Bool}{m b:Nat}(h:m<2^4000)(hb:b<=8000):mB (canon s m (-(b:Int))):=by
 by_cases h0:m=0
 .subst h0;exact .inl rfl
 .have e:canon s m (-(b:Int))=⟨s,m/2^jl m,-(b:Int)+jl m⟩:=by unfold canon;rw[aY h0]
  have h1:ia m<=4000:=lZ.2 h;have h2:=wF (bT m (2^jl m));have h3:jl m<=4000:=by
   have:=Gy h0;apply bL;intro hc;have:=bI (show 0<2 by decide) (aC:4000<=jl m);omega
  rw[e];exact .inr ⟨by show ia (m/2^jl m)<=4096;omega,by show -16384 <= -(b:Int)+jl m;omega,by show -(b:Int)+jl m<=16384;omega,by show(ia (m/2^jl m):Int)+(-(b:Int)+jl m)<=16384;omega⟩
def J7{a b i j n:Nat}(ha:a<2^i)(hb:b<2^j)(hi:i<=n)(hj:j<=n):a+b<2^(n+1):=by
 have h1:=bI (show 0<2 by decide) hi;have h2:=bI (show 0<2 by decide) hj;have e:2^(n+1)=2^n*2:=bC _ _;omega
def adQ{a b:Bool×Nat}{i j n:Nat}(ha:a.2<2^i)(hb:b.2<2^j)(hi:i<=n)(hj:j<=n):(ju a b).2<2^(n+1):=ck (xB _ _) (J7 ha hb hi hj)
def VZ{s:Bool}{m:Nat}{e:Int}(h:mB (canon s m e)):(canon s m e).gY:=⟨rq _ _ _,h⟩
def Gz{m i k:Nat}(h:m<2^i)(hk:i<=k):m<2^k:=bJ h (bI aE hk)
def px(a c:Bool×Nat):Bool×Nat:=if a.1=true/\a.2%c.2≠0 then ju (a.1,a.2/c.2) (true,1)else(a.1,a.2/c.2)
def S2(a c:Bool×Nat):(px a c).2<=a.2/c.2+1:=by
 unfold px;split
 .exact xB _ _
 .exact Nat.le_succ _
def adW(a c:Bool×Nat):(px a c).2*c.2<=a.2+c.2:=by
 refine bg (bK c.2 (S2 a c)) ?_;rw[gI];exact Nat.add_le_add_right (cU _ _) _
def VL{lo hi:Dy}{e f:Int}(h:e≠0\/f≠0):lH lo e hi f=gU:=aZ h
def ag4{lo hi:Dy}{e f:Int}(h:e=0)(k:f=0):lH lo e hi f=⟨lo,hi,false⟩:=aY (by rw[h,k];decide)
def XM(x:Bool×Nat)(b N:Nat)(i:Nat):PS:=⟨43,true,[(8,.e (iP ((i+1:Nat):Int))),(7,.box 7 0),(5,.box 5 0),(4,.box 4 0),(2,.box 2 0),(1,.e (iP b))],[(5,.cells 216 [bP (((jG x b i).2).1),gW (gS (((jG x b i).2).2))]),(7,.cells 216 [bP (kT x i),gW (gS (jV x.2 b i))]),(4,.cells 216 [bP (((jG x b i).1).1),gW (gS (((jG x b i).1).2))]),(2,.cells 216 [bP x.1,gW (gS x.2)])]⟩
def JF(n i:Nat):(gS n).getD i 0<4294967296:=by
 by_cases h:i<(gS n).length
 .rw [bd,bt h];exact mH n _ (cz h)
 .rw [bd,b7 aC];decide
def abI(d:Dy)(b t m:Nat)(cp:Bool×Nat)(hd:d.gY)(ht:t=d.ij.toNat)(iQ:16<=b)(lQ:b<=2000)(sH:t<=2000)(K:Nat)(hK:K<=6000)(zx:m<2^K)(zc:2<=cp.2)(zd:(gS cp.2).length<=256)(rC:gR 295 [iP (((b+t)+40:Nat):Int)] (.agg [bP cp.1,gW (gS cp.2)]))(uJ:gR 301 [gV d,iP (((b+t)+40:Nat):Int)] (.agg [bP true,gW (gS m)]))(hn:0<(gS (m/(cp.2/2^1))).length):gR 291 [gV d,iP b] (.ig [.agg [bP ((ju (true,m) (false,((m/(cp.2/2^1))*(cp.2/2^1)))).1),gW (gS ((ju (true,m) (false,((m/(cp.2/2^1))*(cp.2/2^1)))).2/2^(t+40)))],iP (((4-((gS (m/(cp.2/2^1))).getD 0 0%4))%4:Nat):Int)]):=by
 have M5:=GY hd;have zX:(gS m).length<=256:=lp zx aC;have zH:(gS (cp.2/2^1)).length<=256:=bg (mC (bT _ _)) zd;have nH:(cp.2/2^1)≠0:= aC ;have mM:((m/(cp.2/2^1))*(cp.2/2^1))<=m:=cU _ _;have zN:(gS (m/(cp.2/2^1))).length<=256:=bg (mC (bT _ _)) zX;have zM:(gS ((m/(cp.2/2^1))*(cp.2/2^1))).length<=256:=bg (mC mM) zX;have zA:(gS (m+((m/(cp.2/2^1))*(cp.2/2^1)))).length<=256:=lp (k:=K+1) (by have:=bC 2 K;omega) aC;have zR:(gS (ju (true,m) (false,((m/(cp.2/2^1))*(cp.2/2^1)))).2).length<=256:=bg (mC (xB _ _)) zA;have zm:(gS (m%(cp.2/2^1))).length<=256:=bg (mC (eo _ _)) zX;have hg:(gS (m/(cp.2/2^1))).getD 0 0<4294967296:=JF _ 0;have h4:(gS (m/(cp.2/2^1))).getD 0 0%4<=3:= aC ;exact ak call291 func291 (af [ag [gV d] (mQ _ aD),.o 19 (aq (if 0>(Dy.ij d)then 0 else(Dy.ij d)) t aM),ik ((b:Int)+t) aC,
  ik (((b+t:Nat):Int)+40) aC,ag [iP (((b+t)+40:Nat):Int)] rC,.c (wG cp.2 1 aD aC),ag [gV d,iP (((b+t)+40:Nat):Int)] uJ,ag [gW (gS m),gW (gS (cp.2/2^1))] (ze _ _ aC aC aD),ag [gW (gS (m/(cp.2/2^1))),gW (gS (cp.2/2^1))] (xV _ _ aD aD aD),ag [.agg [bP true,gW (gS m)],.agg [bP false,gW (gS ((m/(cp.2/2^1))*(cp.2/2^1)))]] (s7 (true,m) aD (false,((m/(cp.2/2^1))*(cp.2/2^1))) aD aD),tT 61 (0<((gS (m/(cp.2/2^1))).length:Int)) aC,iX 0 ((gS (m/(cp.2/2^1))).length) aC,.o 65 (.int (YU _ aC):aj (.v (.int .u32 (bits .and .u32 (((gS (m/(cp.2/2^1))).getD 0 0:Nat):Int) 3))) (.v (.int .u32 ((((gS (m/(cp.2/2^1))).getD 0 0)%4:Nat):Int)))),.o 66 (aq (IntKind.i64.wrap ((((gS (m/(cp.2/2^1))).getD 0 0)%4:Nat):Int)) ((((gS (m/(cp.2/2^1))).getD 0 0)%4:Nat):Int) (Jt _ aC)),
  ik (4-((((gS (m/(cp.2/2^1))).getD 0 0)%4:Nat):Int)) aC,.o 71 (aq (bits .and .i64 (4-((((gS (m/(cp.2/2^1))).getD 0 0)%4:Nat):Int)) 3) (((4-((gS (m/(cp.2/2^1))).getD 0 0%4))%4:Nat):Int) (afF _ aC)),
  ik ((t:Int)+40) aC,.c (wG ((ju (true,m) (false,((m/(cp.2/2^1))*(cp.2/2^1)))).2) (t+40) aD aC)]) 
def abG(d:Dy)(b t m:Nat)(cp:Bool×Nat)(hd:d.gY)(ht:t=d.ij.toNat)(iQ:16<=b)(lQ:b<=2000)(sH:t<=2000)(K:Nat)(hK:K<=6000)(zx:m<2^K)(zc:2<=cp.2)(zd:(gS cp.2).length<=256)(rC:gR 295 [iP (((b+t)+40:Nat):Int)] (.agg [bP cp.1,gW (gS cp.2)]))(uJ:gR 301 [gV d,iP (((b+t)+40:Nat):Int)] (.agg [bP true,gW (gS m)]))(hn:¬0<(gS (m/(cp.2/2^1))).length):gR 291 [gV d,iP b] (.ig [.agg [bP ((ju (true,m) (false,((m/(cp.2/2^1))*(cp.2/2^1)))).1),gW (gS ((ju (true,m) (false,((m/(cp.2/2^1))*(cp.2/2^1)))).2/2^(t+40)))],iP 0]):=by
 have M5:=GY hd;have zX:(gS m).length<=256:=lp zx aC;have zH:(gS (cp.2/2^1)).length<=256:=bg (mC (bT _ _)) zd;have nH:(cp.2/2^1)≠0:= aC ;have mM:((m/(cp.2/2^1))*(cp.2/2^1))<=m:=cU _ _;have zN:(gS (m/(cp.2/2^1))).length<=256:=bg (mC (bT _ _)) zX;have zM:(gS ((m/(cp.2/2^1))*(cp.2/2^1))).length<=256:=bg (mC mM) zX;have zA:(gS (m+((m/(cp.2/2^1))*(cp.2/2^1)))).length<=256:=lp (k:=K+1) (by have:=bC 2 K;omega) aC;have zR:(gS (ju (true,m) (false,((m/(cp.2/2^1))*(cp.2/2^1)))).2).length<=256:=bg (mC (xB _ _)) zA;have zm:(gS (m%(cp.2/2^1))).length<=256:=bg (mC (eo _ _)) zX;have hg:(gS (m/(cp.2/2^1))).getD 0 0<4294967296:=JF _ 0;have h4:(gS (m/(cp.2/2^1))).getD 0 0%4<=3:= aC ;exact ak call291 func291 (af [ag [gV d] (mQ _ aD),.o 19 (aq (if 0>(Dy.ij d)then 0 else(Dy.ij d)) t aM),ik ((b:Int)+t) aC,
  ik (((b+t:Nat):Int)+40) aC,ag [iP (((b+t)+40:Nat):Int)] rC,.c (wG cp.2 1 aD aC),ag [gV d,iP (((b+t)+40:Nat):Int)] uJ,ag [gW (gS m),gW (gS (cp.2/2^1))] (ze _ _ aC aC aD),ag [gW (gS (m/(cp.2/2^1))),gW (gS (cp.2/2^1))] (xV _ _ aD aD aD),ag [.agg [bP true,gW (gS m)],.agg [bP false,gW (gS ((m/(cp.2/2^1))*(cp.2/2^1)))]] (s7 (true,m) aD (false,((m/(cp.2/2^1))*(cp.2/2^1))) aD aD),tF 61 (0<((gS (m/(cp.2/2^1))).length:Int)) aC,ik (4-0) aC,.o 71 (aq (bits .and .i64 (4-0) 3) 0 aE),ik ((t:Int)+40) aC,.c (wG ((ju (true,m) (false,((m/(cp.2/2^1))*(cp.2/2^1)))).2) (t+40) aD aC)]) 
def abJ(d:Dy)(b t m:Nat)(cp:Bool×Nat)(hd:d.gY)(ht:t=d.ij.toNat)(iQ:16<=b)(lQ:b<=2000)(sH:t<=2000)(K:Nat)(hK:K<=6000)(zx:m<2^K)(zc:2<=cp.2)(zd:(gS cp.2).length<=256)(rC:gR 295 [iP (((b+t)+40:Nat):Int)] (.agg [bP cp.1,gW (gS cp.2)]))(uJ:gR 301 [gV d,iP (((b+t)+40:Nat):Int)] (.agg [bP false,gW (gS m)]))(hn:0<(gS (m/(cp.2/2^1))).length):gR 291 [gV d,iP b] (.ig [.agg [bP ((ju (false,m) (true,((m/(cp.2/2^1))*(cp.2/2^1)))).1),gW (gS ((ju (false,m) (true,((m/(cp.2/2^1))*(cp.2/2^1)))).2/2^(t+40)))],iP (((gS (m/(cp.2/2^1))).getD 0 0%4:Nat):Int)]):=by
 have M5:=GY hd;have zX:(gS m).length<=256:=lp zx aC;have zH:(gS (cp.2/2^1)).length<=256:=bg (mC (bT _ _)) zd;have nH:(cp.2/2^1)≠0:= aC ;have mM:((m/(cp.2/2^1))*(cp.2/2^1))<=m:=cU _ _;have zN:(gS (m/(cp.2/2^1))).length<=256:=bg (mC (bT _ _)) zX;have zM:(gS ((m/(cp.2/2^1))*(cp.2/2^1))).length<=256:=bg (mC mM) zX;have zA:(gS (m+((m/(cp.2/2^1))*(cp.2/2^1)))).length<=256:=lp (k:=K+1) (by have:=bC 2 K;omega) aC;have zR:(gS (ju (false,m) (true,((m/(cp.2/2^1))*(cp.2/2^1)))).2).length<=256:=bg (mC (xB _ _)) zA;have zm:(gS (m%(cp.2/2^1))).length<=256:=bg (mC (eo _ _)) zX;have hg:(gS (m/(cp.2/2^1))).getD 0 0<4294967296:=JF _ 0;have h4:(gS (m/(cp.2/2^1))).getD 0 0%4<=3:= aC ;exact ak call291 func291 (af [ag [gV d] (mQ _ aD),.o 19 (aq (if 0>(Dy.ij d)then 0 else(Dy.ij d)) t aM),ik ((b:Int)+t) aC,
  ik (((b+t:Nat):Int)+40) aC,ag [iP (((b+t)+40:Nat):Int)] rC,.c (wG cp.2 1 aD aC),ag [gV d,iP (((b+t)+40:Nat):Int)] uJ,ag [gW (gS m),gW (gS (cp.2/2^1))] (ze _ _ aC aC aD),ag [gW (gS (m/(cp.2/2^1))),gW (gS (cp.2/2^1))] (xV _ _ aD aD aD),ag [.agg [bP false,gW (gS m)],.agg [bP true,gW (gS ((m/(cp.2/2^1))*(cp.2/2^1)))]] (s7 (false,m) aD (true,((m/(cp.2/2^1))*(cp.2/2^1))) aD aD),tT 61 (0<((gS (m/(cp.2/2^1))).length:Int)) aC,iX 0 ((gS (m/(cp.2/2^1))).length) aC,.o 65 (.int (YU _ aC):aj (.v (.int .u32 (bits .and .u32 (((gS (m/(cp.2/2^1))).getD 0 0:Nat):Int) 3))) (.v (.int .u32 ((((gS (m/(cp.2/2^1))).getD 0 0)%4:Nat):Int)))),.o 66 (aq (IntKind.i64.wrap ((((gS (m/(cp.2/2^1))).getD 0 0)%4:Nat):Int)) ((((gS (m/(cp.2/2^1))).getD 0 0)%4:Nat):Int) (Jt _ aC)),
  ik ((t:Int)+40) aC,.c (wG ((ju (false,m) (true,((m/(cp.2/2^1))*(cp.2/2^1)))).2) (t+40) aD aC)]) 
def abH(d:Dy)(b t m:Nat)(cp:Bool×Nat)(hd:d.gY)(ht:t=d.ij.toNat)(iQ:16<=b)(lQ:b<=2000)(sH:t<=2000)(K:Nat)(hK:K<=6000)(zx:m<2^K)(zc:2<=cp.2)(zd:(gS cp.2).length<=256)(rC:gR 295 [iP (((b+t)+40:Nat):Int)] (.agg [bP cp.1,gW (gS cp.2)]))(uJ:gR 301 [gV d,iP (((b+t)+40:Nat):Int)] (.agg [bP false,gW (gS m)]))(hn:¬0<(gS (m/(cp.2/2^1))).length):gR 291 [gV d,iP b] (.ig [.agg [bP ((ju (false,m) (true,((m/(cp.2/2^1))*(cp.2/2^1)))).1),gW (gS ((ju (false,m) (true,((m/(cp.2/2^1))*(cp.2/2^1)))).2/2^(t+40)))],iP 0]):=by
 have M5:=GY hd;have zX:(gS m).length<=256:=lp zx aC;have zH:(gS (cp.2/2^1)).length<=256:=bg (mC (bT _ _)) zd;have nH:(cp.2/2^1)≠0:= aC ;have mM:((m/(cp.2/2^1))*(cp.2/2^1))<=m:=cU _ _;have zN:(gS (m/(cp.2/2^1))).length<=256:=bg (mC (bT _ _)) zX;have zM:(gS ((m/(cp.2/2^1))*(cp.2/2^1))).length<=256:=bg (mC mM) zX;have zA:(gS (m+((m/(cp.2/2^1))*(cp.2/2^1)))).length<=256:=lp (k:=K+1) (by have:=bC 2 K;omega) aC;have zR:(gS (ju (false,m) (true,((m/(cp.2/2^1))*(cp.2/2^1)))).2).length<=256:=bg (mC (xB _ _)) zA;have zm:(gS (m%(cp.2/2^1))).length<=256:=bg (mC (eo _ _)) zX;have hg:(gS (m/(cp.2/2^1))).getD 0 0<4294967296:=JF _ 0;have h4:(gS (m/(cp.2/2^1))).getD 0 0%4<=3:= aC ;exact ak call291 func291 (af [ag [gV d] (mQ _ aD),.o 19 (aq (if 0>(Dy.ij d)then 0 else(Dy.ij d)) t aM),ik ((b:Int)+t) aC,
  ik (((b+t:Nat):Int)+40) aC,ag [iP (((b+t)+40:Nat):Int)] rC,.c (wG cp.2 1 aD aC),ag [gV d,iP (((b+t)+40:Nat):Int)] uJ,ag [gW (gS m),gW (gS (cp.2/2^1))] (ze _ _ aC aC aD),ag [gW (gS (m/(cp.2/2^1))),gW (gS (cp.2/2^1))] (xV _ _ aD aD aD),ag [.agg [bP false,gW (gS m)],.agg [bP true,gW (gS ((m/(cp.2/2^1))*(cp.2/2^1)))]] (s7 (false,m) aD (true,((m/(cp.2/2^1))*(cp.2/2^1))) aD aD),tF 61 (0<((gS (m/(cp.2/2^1))).length:Int)) aC,ik ((t:Int)+40) aC,.c (wG ((ju (false,m) (true,((m/(cp.2/2^1))*(cp.2/2^1)))).2) (t+40) aD aC)]) 
def abF(d:Dy)(b:Nat)(hd:d.gY)(iQ:16<=b)(lQ:b<=1000)(ht:d.ij<=100):∃ (r:Bool×Nat) (k:Nat),r.2<=2^(b+1)/\k<=3/\gR 291 [gV d,iP (b:Int)] (.ig [.agg [bP r.1,gW (gS r.2)],iP (k:Int)]):=by
 obtain⟨t,sH⟩:∃ t,t=d.ij.toNat:=⟨_,rfl⟩
 obtain⟨cp,c1,c2,c3,rC⟩:=QZ (b+t+40) aC aC;have uJ:=Lg d hd (b+t+40) 6000 aC aE aC;have im:=JV (d:=d) (b:=b+t+40) (K:=6000) aC;generalize rj d (b+t+40)=x at uJ im;have hp:(2:Nat)^(b+t+40+3)=2^(b+t+40)*8:=by rw[bh]
 have zd:(gS cp.2).length<=256:=lp (k:=b+t+40+3) (by have:0<2^(b+t+40):=bj aE;omega) aC;obtain⟨sg,m⟩:=x;have hle:=aiR (x:=(sg,m)) (H:=cp.2/2^1) (b:=b) (t:=t) aC c3;by_cases hn:0<(gS (m/(cp.2/2^1))).length
 .cases sg with
  |false=>exact⟨((ju (false,m) (true,m/(cp.2/2^1)*(cp.2/2^1))).1,(ju (false,m) (true,m/(cp.2/2^1)*(cp.2/2^1))).2/2^(t+40)),_,hle,aiQ _,abJ d b t m cp hd sH iQ aC aC 6000 aE im c1 zd rC uJ hn⟩
  |true=>exact⟨((ju (true,m) (false,m/(cp.2/2^1)*(cp.2/2^1))).1,(ju (true,m) (false,m/(cp.2/2^1)*(cp.2/2^1))).2/2^(t+40)),_,hle,aiP _,abI d b t m cp hd sH iQ aC aC 6000 aE im c1 zd rC uJ hn⟩
 .cases sg with
  |false=>exact⟨((ju (false,m) (true,m/(cp.2/2^1)*(cp.2/2^1))).1,(ju (false,m) (true,m/(cp.2/2^1)*(cp.2/2^1))).2/2^(t+40)),_,hle,bV 3,abH d b t m cp hd sH iQ aC aC 6000 aE im c1 zd rC uJ hn⟩
  |true=>exact⟨((ju (true,m) (false,m/(cp.2/2^1)*(cp.2/2^1))).1,(ju (true,m) (false,m/(cp.2/2^1)*(cp.2/2^1))).2/2^(t+40)),_,hle,bV 3,abG d b t m cp hd sH iQ aC aC 6000 aE im c1 zd rC uJ hn⟩
def abL(x:Bool×Nat)(b N:Nat)(tl:x.2<=2^(b+1))(hb:b<=3000)(sA:N<=b+4)(h0:∀ k,k<N+1->jV x.2 b k≠0)(hN:jV x.2 b (N+1)=0):gR 292 [.agg [bP x.1,gW (gS x.2)],iP b] (.ig [.agg [bP (((jG x b N).1).1),gW (gS (((jG x b N).1).2))],.agg [bP (((jG x b N).2).1),gW (gS (((jG x b N).2).2))]]):=by
 have zx:(gS x.2).length<=256:=lp (k:=b+2) (by have e:2^(b+2)=2^(b+1)*2:=bC _ _;have:0<2^(b+1):=bj aE;omega) aC;have z0:(gS 1).length<=256:=tu aE;have z1:(gS (1*2^b)).length<=256:=lp (k:=b+1) (by rw[bC,bU];have:0<2^b:=bj aE;omega) aC;exact ak call292 func292 (af [.o 10 (.e w8:aj (.sl false 1 1 λi_ j_=>[.v (.int .u32 1)].getD (i_*1+j_) (.v (.bool false))) (gW (gS 1))),.c (zZ 1 b aD aC aD),.s (Sp.jH (XM x b N) 0 N aC (λi hi oR=>by
    have SF:=X6 tl hb (k:=i) aC;obtain⟨f0,f1,f2,f3,f4,f5,f6,f7⟩:=SF;exact iB (ae [ag [.agg [bP (kT x i),gW (gS (jV x.2 b i))],.agg [bP x.1,gW (gS x.2)],iP b] (LW ((kT x i),(jV x.2 b i)) aD x aD _ aC aD),ag [.agg [bP ((kT x i) != x.1),gW (gS ((jV x.2 b i)*x.2/2^b))],iP ((i+1:Nat):Int)] (Fb (((kT x i) != x.1),((jV x.2 b i)*x.2/2^b)) aD (i+1) aC aC),ag [.agg [bP (kT x (i+1)),gW (gS (jV x.2 b (i+1)))]] (Dm ((kT x (i+1)),(jV x.2 b (i+1))) aD),tF 25 ((jV x.2 b (i+1))=0) (h0 (i+1) aC),.a (aC:0<(4:Int))]<|.w (2<=(i+1)%4)
     (λh4=>ae [tT 31 (2<=(((i+1)%4:Nat):Int)) aC,ag [.agg [bP (kT x (i+1)),gW (gS (jV x.2 b (i+1)))]] (wK ((kT x (i+1)),(jV x.2 b (i+1)))),.a (aC:0<(2:Int))]<|.w ((i+1)%2=1)
      (λho=>ae [ah 36 ((((i+1)%2:Nat):Int)==1) (by rw[ho];rfl),ag [.agg [bP (((jG x b i).1).1),gW (gS (((jG x b i).1).2))],.agg [bP (!(kT x (i+1))),gW (gS (jV x.2 b (i+1)))]] (s7 ((jG x b i).1) aD ((!(kT x (i+1))),(jV x.2 b (i+1))) aD aD),
       ik (((i+1:Nat):Int)+1) aC]<|.e (af [.b 5 (.iM (by first|rfl|simp[jG,kT,jV,ho,h4]|simp[jG,kT,jV]):Bx.le (.cells 216 [bP (((jG x b i).2).1),gW (gS (((jG x b i).2).2))]) (.cells 216 [bP (((jG x b (i+1)).2).1),gW (gS (((jG x b (i+1)).2).2))])),.b 4 (.iM (by first|rfl|simp[jG,kT,jV,ho,h4]|simp[jG,kT,jV]):Bx.le (.cells 216 [bP ((ju ((jG x b i).1) ((!(kT x (i+1))),(jV x.2 b (i+1)))).1),gW (gS ((ju ((jG x b i).1) ((!(kT x (i+1))),(jV x.2 b (i+1)))).2))]) (.cells 216 [bP (((jG x b (i+1)).1).1),gW (gS (((jG x b (i+1)).1).2))]))]))
      (λho=>ae [ai 36 ((((i+1)%2:Nat):Int)==1) aN,ag [.agg [bP (((jG x b i).2).1),gW (gS (((jG x b i).2).2))],.agg [bP (!(kT x (i+1))),gW (gS (jV x.2 b (i+1)))]] (s7 ((jG x b i).2) aD ((!(kT x (i+1))),(jV x.2 b (i+1))) aD aD),
       ik (((i+1:Nat):Int)+1) aC]<|.e (af [.b 5 (.iM (by first|rfl|simp[jG,kT,jV,ho,h4]|simp[jG,kT,jV]):Bx.le (.cells 216 [bP ((ju ((jG x b i).2) ((!(kT x (i+1))),(jV x.2 b (i+1)))).1),gW (gS ((ju ((jG x b i).2) ((!(kT x (i+1))),(jV x.2 b (i+1)))).2))]) (.cells 216 [bP (((jG x b (i+1)).2).1),gW (gS (((jG x b (i+1)).2).2))])),.b 4 (.iM (by first|rfl|simp[jG,kT,jV,ho,h4]|simp[jG,kT,jV]):Bx.le (.cells 216 [bP (((jG x b i).1).1),gW (gS (((jG x b i).1).2))]) (.cells 216 [bP (((jG x b (i+1)).1).1),gW (gS (((jG x b (i+1)).1).2))]))])))
     (λh4=>ae [tF 31 (2<=(((i+1)%4:Nat):Int)) aC,.a (aC:0<(2:Int))]<|.w ((i+1)%2=1)
      (λho=>ae [ah 36 ((((i+1)%2:Nat):Int)==1) (by rw[ho];rfl),ag [.agg [bP (((jG x b i).1).1),gW (gS (((jG x b i).1).2))],.agg [bP (kT x (i+1)),gW (gS (jV x.2 b (i+1)))]] (s7 ((jG x b i).1) aD ((kT x (i+1)),(jV x.2 b (i+1))) aD aD),
       ik (((i+1:Nat):Int)+1) aC]<|.e (af [.b 5 (.iM (by first|rfl|simp[jG,kT,jV,ho,h4]|simp[jG,kT,jV]):Bx.le (.cells 216 [bP (((jG x b i).2).1),gW (gS (((jG x b i).2).2))]) (.cells 216 [bP (((jG x b (i+1)).2).1),gW (gS (((jG x b (i+1)).2).2))])),.b 4 (.iM (by first|rfl|simp[jG,kT,jV,ho,h4]|simp[jG,kT,jV]):Bx.le (.cells 216 [bP ((ju ((jG x b i).1) ((kT x (i+1)),(jV x.2 b (i+1)))).1),gW (gS ((ju ((jG x b i).1) ((kT x (i+1)),(jV x.2 b (i+1)))).2))]) (.cells 216 [bP (((jG x b (i+1)).1).1),gW (gS (((jG x b (i+1)).1).2))]))]))
      (λho=>ae [ai 36 ((((i+1)%2:Nat):Int)==1) aN,ag [.agg [bP (((jG x b i).2).1),gW (gS (((jG x b i).2).2))],.agg [bP (kT x (i+1)),gW (gS (jV x.2 b (i+1)))]] (s7 ((jG x b i).2) aD ((kT x (i+1)),(jV x.2 b (i+1))) aD aD),
       ik (((i+1:Nat):Int)+1) aC]<|.e (af [.b 5 (.iM (by first|rfl|simp[jG,kT,jV,ho,h4]|simp[jG,kT,jV]):Bx.le (.cells 216 [bP ((ju ((jG x b i).2) ((kT x (i+1)),(jV x.2 b (i+1)))).1),gW (gS ((ju ((jG x b i).2) ((kT x (i+1)),(jV x.2 b (i+1)))).2))]) (.cells 216 [bP (((jG x b (i+1)).2).1),gW (gS (((jG x b (i+1)).2).2))])),.b 4 (.iM (by first|rfl|simp[jG,kT,jV,ho,h4]|simp[jG,kT,jV]):Bx.le (.cells 216 [bP (((jG x b i).1).1),gW (gS (((jG x b i).1).2))]) (.cells 216 [bP (((jG x b (i+1)).1).1),gW (gS (((jG x b (i+1)).1).2))]))])))) aF)
  (λhi=>by
    have SF:=X6 tl hb (k:=N) aC;obtain⟨f0,f1,f2,f3,f4,f5,f6,f7⟩:=SF;exact iB (af [ag [.agg [bP (kT x N),gW (gS (jV x.2 b N))],.agg [bP x.1,gW (gS x.2)],iP b] (LW ((kT x N),(jV x.2 b N)) aD x aD _ aC aD),ag [.agg [bP ((kT x N) != x.1),gW (gS ((jV x.2 b N)*x.2/2^b))],iP ((N+1:Nat):Int)] (Fb (((kT x N) != x.1),((jV x.2 b N)*x.2/2^b)) aD (N+1) aC aC),ag [.agg [bP (kT x (N+1)),gW (gS (jV x.2 b (N+1)))]] (Dm ((kT x (N+1)),(jV x.2 b (N+1))) aD),tB 25 (a6 hN)]) aF) aI:jD 6 f292 (XM x b N 0) .ret ⟨43,true,[(5,.box 5 0),(4,.box 4 0)],[(5,.cells 216 [bP (((jG x b N).2).1),gW (gS (((jG x b N).2).2))]),(4,.cells 216 [bP (((jG x b N).1).1),gW (gS (((jG x b N).1).2))])]⟩) (af [.o 8 (aq 1 ((0+1:Nat):Int) aO),.b 5 (.iM (by first|rfl|simp[jG,kT,jV,ho,h4]|simp[jG,kT,jV]):Bx.le (.cells 216 [bP false,gW (gS (1*2^b))]) (.cells 216 [bP (((jG x b 0).2).1),gW (gS (((jG x b 0).2).2))])),.b 7 (.iM (by first|rfl|simp[jG,kT,jV,ho,h4]|simp[jG,kT,jV]):Bx.le (.cells 216 [bP false,gW (gS (1*2^b))]) (.cells 216 [bP (kT x 0),gW (gS (jV x.2 b 0))])),.b 4 (ad1:Bx.le (.cells 216 [bP false,.v (.slice none 0 0)]) (.cells 216 [bP (((jG x b 0).1).1),gW (gS (((jG x b 0).1).2))]))])]) 
def abM(x:Bool×Nat)(b:Nat)(tl:x.2<=2^(b+1))(hb:b<=3000):∃ s c:Bool×Nat,s.2<2^(b+14)/\c.2<2^(b+14)/\gR 292 [.agg [bP x.1,gW (gS x.2)],iP (b:Int)] (.ig [.agg [bP s.1,gW (gS s.2)],.agg [bP c.1,gW (gS c.2)]]):=by
 obtain⟨N,n1,n2,n3,n4⟩:=ad3 tl;obtain⟨M,rfl⟩:∃ M,N=M+1:=⟨N-1,aC⟩
 obtain⟨a1,a2⟩:=X8 tl hb (k:=M) aC;exact⟨_,_,a1,a2,abL x b M tl hb aC n3 n4⟩
def z8(a:Bool×Nat)(b p:Nat)(ha:a.2<2^3000)(hb:b<=8000)(ic:8<=p)(gX:p<=512):gR 294 [.agg [bP a.1,gW (gS a.2)],iP b,iP p] (ib (sP a b p)):=by
 have z1:(gS 1).length<=256:=tu aE;have z2:(gS (1*2^24)).length<=256:=tu aE;have z3:(gS a.2).length<=256:=lp ha aE;have hs:=J7 (n:=3000) ha (show 1*2^24<2^25 by decide) aE aE;have z4:(gS (a.2+1*2^24)).length<=256:=lp hs aE;have l1:=ck (show(ju a ((!false),(1*2^24))).2<=_ from xB _ _) hs;have l2:=ck (show(ju a (false,(1*2^24))).2<=_ from xB _ _) hs;have z5:(gS (ju a ((!false),(1*2^24))).2).length<=256:=lp l1 aE;have z6:(gS (ju a (false,(1*2^24))).2).length<=256:=lp l2 aE;have e3:(0-(b:Int)) = -(b:Int):=Int.zero_sub _;have r1:mB (canon (ju a ((!false),(1*2^24))).1 (ju a ((!false),(1*2^24))).2 (0-(b:Int))):=by rw[e3];exact VY (Gz (k:=4000) l1 aE) hb
 have r2:mB (canon (ju a (false,(1*2^24))).1 (ju a (false,(1*2^24))).2 (0-(b:Int))):=by rw[e3];exact VY (Gz (k:=4000) l2 aE) hb
 have v1:(canon (ju a ((!false),(1*2^24))).1 (ju a ((!false),(1*2^24))).2 (0-(b:Int))).gY:=VZ r1;have v2:(canon (ju a (false,(1*2^24))).1 (ju a (false,(1*2^24))).2 (0-(b:Int))).gY:=VZ r2;have hN:sP a b p=lH (jZ (canon (ju a ((!false),(1*2^24))).1 (ju a ((!false),(1*2^24))).2 (0-(b:Int))) p false) (jO (canon (ju a ((!false),(1*2^24))).1 (ju a ((!false),(1*2^24))).2 (0-(b:Int))) p false) (jZ (canon (ju a (false,(1*2^24))).1 (ju a (false,(1*2^24))).2 (0-(b:Int))) p true) (jO (canon (ju a (false,(1*2^24))).1 (ju a (false,(1*2^24))).2 (0-(b:Int))) p true):=by rw[e3];rfl
 exact ak call294 func294 (ae [.o 14 (.e w8:aj (.sl false 1 1 λi_ j_=>[.v (.int .u32 1)].getD (i_*1+j_) (.v (.bool false))) (gW (gS 1))),.c (zZ 1 24 aD aC aD),ag [.agg [bP false,gW (gS (1*2^24))]] (wK (false,(1*2^24))),ag [.agg [bP a.1,gW (gS a.2)],.agg [bP (!false),gW (gS (1*2^24))]] (s7 a aD ((!false),(1*2^24)) aD aD),ag [.agg [bP a.1,gW (gS a.2)],.agg [bP false,gW (gS (1*2^24))]] (s7 a aD (false,(1*2^24)) aD aD),ik (0-(b:Int)) aC,ag [bP ((ju a ((!false),(1*2^24))).1),gW (gS ((ju a ((!false),(1*2^24))).2)),iP (0-(b:Int))] (xA _ _ _ aD aC aC aD),
  ik (0-(b:Int)) aC,ag [bP ((ju a (false,(1*2^24))).1),gW (gS ((ju a (false,(1*2^24))).2)),iP (0-(b:Int))] (xA _ _ _ aD aC aC aD),ai 45 ((0:Int) != 0) aE,ai 48 ((0:Int) != 0) aE,.c (HI (canon ((ju a (!false,(1*2^24))).1) ((ju a (!false,(1*2^24))).2) (0-(b:Int))) p aD aC aC),.c (HW (canon ((ju a (false,(1*2^24))).1) ((ju a (false,(1*2^24))).2) (0-(b:Int))) p aD aC aC)]<|.w ((jO (canon ((ju a ((!false),(1*2^24))).1) ((ju a ((!false),(1*2^24))).2) (0-(b:Int))) p false)=0)
  (λk1=>ae [tB 64 (aW k1)]<|.w ((jO (canon ((ju a (false,(1*2^24))).1) ((ju a (false,(1*2^24))).2) (0-(b:Int))) p true)=0)
   (λk2=>ae [tB 67 (aW k2)]<|rQ (ib (Iv.mk (jZ (canon ((ju a ((!false),(1*2^24))).1) ((ju a ((!false),(1*2^24))).2) (0-(b:Int))) p false) (jZ (canon ((ju a (false,(1*2^24))).1) ((ju a (false,(1*2^24))).2) (0-(b:Int))) p true) false)) (ib (sP a b p)) (by rw[hN,ag4 k1 k2]))
   (λk2=>ae [tB 67 (aX k2),.c nv]<|rQ (ib gU) (ib (sP a b p)) (by rw[hN,VL (.inr k2)])))
  (λk1=>ae [tB 64 (aX k1),.c nv]<|rQ (ib gU) (ib (sP a b p)) (by rw[hN,VL (.inl k1)]))) 
def abD(d:Dy)(p:Nat)(hd:d.gY)(h0:d.iK=0)(ic:8<=p)(gX:p<=512):gR 264 [gV d,bP true,iP p] (ib (jk 1)):=by
 have hv:=sJ (n:=1) aE;exact ak call264 func264 (af [ag [gV d] (mP _ aD),ah 14 ((Dy.iK d)==0) (by rw[h0];rfl),ag [iP 1] (qR _ aC),.c (AK (iS 1) aD)]) 
def abv(d:Dy)(p:Nat)(r s c:Bool×Nat)(hd:d.gY)(h0:d.iK≠0)(pI:gR 291 [gV d,iP ((p+64:Nat):Int)] (.ig [.agg [bP r.1,gW (gS r.2)],iP 0]))(pJ:gR 292 [.agg [bP r.1,gW (gS r.2)],iP ((p+64:Nat):Int)] (.ig [.agg [bP s.1,gW (gS s.2)],.agg [bP c.1,gW (gS c.2)]]))(zs:s.2<2^3000)(zc:c.2<2^3000)(ic:8<=p)(gX:p<=512):gR 264 [gV d,bP true,iP p] (ib (sP c (p+64) p)):=by
 have zk:c.2<2^3000:=zc;exact ak call264 func264 (af [ag [gV d] (mP _ aD),ai 14 ((Dy.iK d)==0) (by simpa using h0),ik ((p:Int)+64) aC,ag [gV d,iP ((p+64:Nat):Int)] pI,ag [.agg [bP r.1,gW (gS r.2)],iP ((p+64:Nat):Int)] pJ,ik (0+1) aC,.a (aC:0<(4:Int)),.o 38 (aq (Int.tmod (0+1) 4) 1 aE),ah 40 ((1:Int)==1) aE,ag [.agg [bP c.1,gW (gS c.2)],iP ((p+64:Nat):Int),iP p] (z8 c _ _ aD aC aC aC)]) 
def abw(d:Dy)(p:Nat)(r s c:Bool×Nat)(hd:d.gY)(h0:d.iK≠0)(pI:gR 291 [gV d,iP ((p+64:Nat):Int)] (.ig [.agg [bP r.1,gW (gS r.2)],iP 1]))(pJ:gR 292 [.agg [bP r.1,gW (gS r.2)],iP ((p+64:Nat):Int)] (.ig [.agg [bP s.1,gW (gS s.2)],.agg [bP c.1,gW (gS c.2)]]))(zs:s.2<2^3000)(zc:c.2<2^3000)(ic:8<=p)(gX:p<=512):gR 264 [gV d,bP true,iP p] (ib (sP ((!s.1),s.2) (p+64) p)):=by
 have zk:((!s.1),s.2).2<2^3000:=zs;exact ak call264 func264 (af [ag [gV d] (mP _ aD),ai 14 ((Dy.iK d)==0) (by simpa using h0),ik ((p:Int)+64) aC,ag [gV d,iP ((p+64:Nat):Int)] pI,ag [.agg [bP r.1,gW (gS r.2)],iP ((p+64:Nat):Int)] pJ,ik (1+1) aC,.a (aC:0<(4:Int)),.o 38 (aq (Int.tmod (1+1) 4) 2 aE),ai 40 ((2:Int)==1) aE,ah 43 ((2:Int)==2) aE,ag [.agg [bP s.1,gW (gS s.2)]] (wK (s.1,s.2)),ag [.agg [bP (!s.1),gW (gS s.2)],iP ((p+64:Nat):Int),iP p] (z8 ((!s.1),s.2) _ _ aD aC aC aC)]) 
def abx(d:Dy)(p:Nat)(r s c:Bool×Nat)(hd:d.gY)(h0:d.iK≠0)(pI:gR 291 [gV d,iP ((p+64:Nat):Int)] (.ig [.agg [bP r.1,gW (gS r.2)],iP 2]))(pJ:gR 292 [.agg [bP r.1,gW (gS r.2)],iP ((p+64:Nat):Int)] (.ig [.agg [bP s.1,gW (gS s.2)],.agg [bP c.1,gW (gS c.2)]]))(zs:s.2<2^3000)(zc:c.2<2^3000)(ic:8<=p)(gX:p<=512):gR 264 [gV d,bP true,iP p] (ib (sP ((!c.1),c.2) (p+64) p)):=by
 have zk:((!c.1),c.2).2<2^3000:=zc;exact ak call264 func264 (af [ag [gV d] (mP _ aD),ai 14 ((Dy.iK d)==0) (by simpa using h0),ik ((p:Int)+64) aC,ag [gV d,iP ((p+64:Nat):Int)] pI,ag [.agg [bP r.1,gW (gS r.2)],iP ((p+64:Nat):Int)] pJ,ik (2+1) aC,.a (aC:0<(4:Int)),.o 38 (aq (Int.tmod (2+1) 4) 3 aE),ai 40 ((3:Int)==1) aE,ai 43 ((3:Int)==2) aE,ah 47 ((3:Int)==3) aE,ag [.agg [bP c.1,gW (gS c.2)]] (wK (c.1,c.2)),ag [.agg [bP (!c.1),gW (gS c.2)],iP ((p+64:Nat):Int),iP p] (z8 ((!c.1),c.2) _ _ aD aC aC aC)]) 
def aby(d:Dy)(p:Nat)(r s c:Bool×Nat)(hd:d.gY)(h0:d.iK≠0)(pI:gR 291 [gV d,iP ((p+64:Nat):Int)] (.ig [.agg [bP r.1,gW (gS r.2)],iP 3]))(pJ:gR 292 [.agg [bP r.1,gW (gS r.2)],iP ((p+64:Nat):Int)] (.ig [.agg [bP s.1,gW (gS s.2)],.agg [bP c.1,gW (gS c.2)]]))(zs:s.2<2^3000)(zc:c.2<2^3000)(ic:8<=p)(gX:p<=512):gR 264 [gV d,bP true,iP p] (ib (sP s (p+64) p)):=by
 have zk:s.2<2^3000:=zs;exact ak call264 func264 (af [ag [gV d] (mP _ aD),ai 14 ((Dy.iK d)==0) (by simpa using h0),ik ((p:Int)+64) aC,ag [gV d,iP ((p+64:Nat):Int)] pI,ag [.agg [bP r.1,gW (gS r.2)],iP ((p+64:Nat):Int)] pJ,ik (3+1) aC,.a (aC:0<(4:Int)),.o 38 (aq (Int.tmod (3+1) 4) 0 aE),ai 40 ((0:Int)==1) aE,ai 43 ((0:Int)==2) aE,ai 47 ((0:Int)==3) aE,ag [.agg [bP s.1,gW (gS s.2)],iP ((p+64:Nat):Int),iP p] (z8 s _ _ aD aC aC aC)]) 
def abE(d:Dy)(p:Nat)(hd:d.gY)(h0:d.iK=0)(ic:8<=p)(gX:p<=512):gR 264 [gV d,bP false,iP p] (ib (ml d)):=
 ak call264 func264 (af [ag [gV d] (mP _ aD),ah 14 ((Dy.iK d)==0) (by rw[h0];rfl),.c (AK d aD)]) 
def abz(d:Dy)(p:Nat)(r s c:Bool×Nat)(hd:d.gY)(h0:d.iK≠0)(pI:gR 291 [gV d,iP ((p+64:Nat):Int)] (.ig [.agg [bP r.1,gW (gS r.2)],iP 0]))(pJ:gR 292 [.agg [bP r.1,gW (gS r.2)],iP ((p+64:Nat):Int)] (.ig [.agg [bP s.1,gW (gS s.2)],.agg [bP c.1,gW (gS c.2)]]))(zs:s.2<2^3000)(zc:c.2<2^3000)(ic:8<=p)(gX:p<=512):gR 264 [gV d,bP false,iP p] (ib (sP s (p+64) p)):=by
 have zk:s.2<2^3000:=zs;exact ak call264 func264 (af [ag [gV d] (mP _ aD),ai 14 ((Dy.iK d)==0) (by simpa using h0),ik ((p:Int)+64) aC,ag [gV d,iP ((p+64:Nat):Int)] pI,ag [.agg [bP r.1,gW (gS r.2)],iP ((p+64:Nat):Int)] pJ,.a (aC:0<(4:Int)),.o 38 (aq (Int.tmod 0 4) 0 aE),ai 40 ((0:Int)==1) aE,ai 43 ((0:Int)==2) aE,ai 47 ((0:Int)==3) aE,ag [.agg [bP s.1,gW (gS s.2)],iP ((p+64:Nat):Int),iP p] (z8 s _ _ aD aC aC aC)]) 
def abA(d:Dy)(p:Nat)(r s c:Bool×Nat)(hd:d.gY)(h0:d.iK≠0)(pI:gR 291 [gV d,iP ((p+64:Nat):Int)] (.ig [.agg [bP r.1,gW (gS r.2)],iP 1]))(pJ:gR 292 [.agg [bP r.1,gW (gS r.2)],iP ((p+64:Nat):Int)] (.ig [.agg [bP s.1,gW (gS s.2)],.agg [bP c.1,gW (gS c.2)]]))(zs:s.2<2^3000)(zc:c.2<2^3000)(ic:8<=p)(gX:p<=512):gR 264 [gV d,bP false,iP p] (ib (sP c (p+64) p)):=by
 have zk:c.2<2^3000:=zc;exact ak call264 func264 (af [ag [gV d] (mP _ aD),ai 14 ((Dy.iK d)==0) (by simpa using h0),ik ((p:Int)+64) aC,ag [gV d,iP ((p+64:Nat):Int)] pI,ag [.agg [bP r.1,gW (gS r.2)],iP ((p+64:Nat):Int)] pJ,.a (aC:0<(4:Int)),.o 38 (aq (Int.tmod 1 4) 1 aE),ah 40 ((1:Int)==1) aE,ag [.agg [bP c.1,gW (gS c.2)],iP ((p+64:Nat):Int),iP p] (z8 c _ _ aD aC aC aC)]) 
def abB(d:Dy)(p:Nat)(r s c:Bool×Nat)(hd:d.gY)(h0:d.iK≠0)(pI:gR 291 [gV d,iP ((p+64:Nat):Int)] (.ig [.agg [bP r.1,gW (gS r.2)],iP 2]))(pJ:gR 292 [.agg [bP r.1,gW (gS r.2)],iP ((p+64:Nat):Int)] (.ig [.agg [bP s.1,gW (gS s.2)],.agg [bP c.1,gW (gS c.2)]]))(zs:s.2<2^3000)(zc:c.2<2^3000)(ic:8<=p)(gX:p<=512):gR 264 [gV d,bP false,iP p] (ib (sP ((!s.1),s.2) (p+64) p)):=by
 have zk:((!s.1),s.2).2<2^3000:=zs;exact ak call264 func264 (af [ag [gV d] (mP _ aD),ai 14 ((Dy.iK d)==0) (by simpa using h0),ik ((p:Int)+64) aC,ag [gV d,iP ((p+64:Nat):Int)] pI,ag [.agg [bP r.1,gW (gS r.2)],iP ((p+64:Nat):Int)] pJ,.a (aC:0<(4:Int)),.o 38 (aq (Int.tmod 2 4) 2 aE),ai 40 ((2:Int)==1) aE,ah 43 ((2:Int)==2) aE,ag [.agg [bP s.1,gW (gS s.2)]] (wK (s.1,s.2)),ag [.agg [bP (!s.1),gW (gS s.2)],iP ((p+64:Nat):Int),iP p] (z8 ((!s.1),s.2) _ _ aD aC aC aC)]) 
def abC(d:Dy)(p:Nat)(r s c:Bool×Nat)(hd:d.gY)(h0:d.iK≠0)(pI:gR 291 [gV d,iP ((p+64:Nat):Int)] (.ig [.agg [bP r.1,gW (gS r.2)],iP 3]))(pJ:gR 292 [.agg [bP r.1,gW (gS r.2)],iP ((p+64:Nat):Int)] (.ig [.agg [bP s.1,gW (gS s.2)],.agg [bP c.1,gW (gS c.2)]]))(zs:s.2<2^3000)(zc:c.2<2^3000)(ic:8<=p)(gX:p<=512):gR 264 [gV d,bP false,iP p] (ib (sP ((!c.1),c.2) (p+64) p)):=by
 have zk:((!c.1),c.2).2<2^3000:=zc;exact ak call264 func264 (af [ag [gV d] (mP _ aD),ai 14 ((Dy.iK d)==0) (by simpa using h0),ik ((p:Int)+64) aC,ag [gV d,iP ((p+64:Nat):Int)] pI,ag [.agg [bP r.1,gW (gS r.2)],iP ((p+64:Nat):Int)] pJ,.a (aC:0<(4:Int)),.o 38 (aq (Int.tmod 3 4) 3 aE),ai 40 ((3:Int)==1) aE,ai 43 ((3:Int)==2) aE,ah 47 ((3:Int)==3) aE,ag [.agg [bP c.1,gW (gS c.2)]] (wK (c.1,c.2)),ag [.agg [bP (!c.1),gW (gS c.2)],iP ((p+64:Nat):Int),iP p] (z8 ((!c.1),c.2) _ _ aD aC aC aC)]) 
def Q0{d:Dy}(hd:d.gY)(ht:d.ij<=100)(cs:Bool){p:Nat}(ic:8<=p)(gX:p<=512):∃ Z,Z.gY/\gR 264 [gV d,bP cs,iP (p:Int)] (ib Z):=by
 by_cases h0:d.iK=0
 .cases cs with
  |true=>exact⟨_,wi aE,abD d p hd h0 ic gX⟩
  |false=>exact⟨_,vi hd,abE d p hd h0 ic gX⟩
 .obtain ⟨r,k,hr,hk,pI⟩:=abF d (p+64) hd aC aC ht;obtain⟨s,c,zs,zc,pJ⟩:=abM r (p+64) hr aC;have zs:=Gz zs (k:=3000) aC;have zc:=Gz zc (k:=3000) aC;have hv:∀ a:Bool×Nat,(sP a (p+64) p).gY:=λa=>ahI a _ aC aC 
  rcases(aC:k=0\/k=1\/k=2\/k=3)with rfl|rfl|rfl|rfl
  .cases cs with
   |true=>exact⟨_,hv _,abv d p r s c hd h0 pI pJ zs zc ic gX⟩
   |false=>exact⟨_,hv _,abz d p r s c hd h0 pI pJ zs zc ic gX⟩
  .cases cs with
   |true=>exact⟨_,hv _,abw d p r s c hd h0 pI pJ zs zc ic gX⟩
   |false=>exact⟨_,hv _,abA d p r s c hd h0 pI pJ zs zc ic gX⟩
  .cases cs with
   |true=>exact⟨_,hv _,abx d p r s c hd h0 pI pJ zs zc ic gX⟩
   |false=>exact⟨_,hv _,abB d p r s c hd h0 pI pJ zs zc ic gX⟩
  .cases cs with
   |true=>exact⟨_,hv _,aby d p r s c hd h0 pI pJ zs zc ic gX⟩
   |false=>exact⟨_,hv _,abC d p r s c hd h0 pI pJ zs zc ic gX⟩
def afT:(iS (-1)).neg=true/\(iS (-1)).m=1/\(iS (-1)).e=0:= aL 
def abP : gR 298 [iP (-1)] (.agg [bP true,gW (gS 1)]):=by
 obtain⟨q1,q2,q3⟩:=afT;have z1:(gS (iS (-1)).m).length<=256:=by rw[q2];exact tu aE 
 have z2:(gS ((iS (-1)).m*2^(Int.toNat (iS (-1)).e))).length<=256:=by rw[q2,q3];exact tu aE 
 exact ak call298 func298 (ae [ag [iP (-1)] (qR _ aC),ag [gW (gS ((iS (-1)).m)),iP ((iS (-1)).e)] (Lf _ _ aD aC aC aD)]<|rQ (.agg [bP ((iS (-1)).neg),gW (gS (((iS (-1)).m)*2^(Int.toNat ((iS (-1)).e))))]) (.agg [bP true,gW (gS 1)]) (by rw[q1,q2,q3];rfl)) 
def abg(a c:Bool×Nat)(za:(gS a.2).length<=256)(zc:(gS c.2).length<=256)(c0:c.2≠0)(zs:(gS (a.2/c.2+1)).length<=256)(h1:a.1=false):gR 300 [.agg [bP a.1,gW (gS a.2)],.agg [bP c.1,gW (gS c.2)]] (.agg [bP ((px a c).1),gW (gS ((px a c).2))]):=by
 have zq:(gS (a.2/c.2)).length<=256:=bg (mC (bT _ _)) za;have zr:(gS (a.2%c.2)).length<=256:=bg (mC (eo _ _)) za;have z1:(gS 1).length<=256:=tu aE;have e:px a c=(a.1,a.2/c.2):=by unfold px;rw[aY (by rw[h1];exact λq=>Bool.noConfusion q.1)]
 exact ak call300 func300 (ae [ag [gW (gS a.2),gW (gS c.2)] (ze _ _ aC aC aD),ai 19 a.1 h1,ai 23 a.1 h1]<|rQ (.agg [bP false,gW (gS (a.2/c.2))]) (.agg [bP ((px a c).1),gW (gS ((px a c).2))]) (by rw[e,h1])) 
def abd(a c:Bool×Nat)(za:(gS a.2).length<=256)(zc:(gS c.2).length<=256)(c0:c.2≠0)(zs:(gS (a.2/c.2+1)).length<=256)(h1:a.1=true)(h2:a.2%c.2=0):gR 300 [.agg [bP a.1,gW (gS a.2)],.agg [bP c.1,gW (gS c.2)]] (.agg [bP ((px a c).1),gW (gS ((px a c).2))]):=by
 have zq:(gS (a.2/c.2)).length<=256:=bg (mC (bT _ _)) za;have zr:(gS (a.2%c.2)).length<=256:=bg (mC (eo _ _)) za;have z1:(gS 1).length<=256:=tu aE;have e:px a c=(a.1,a.2/c.2):=by unfold px;rw[aY (λq=>q.2 h2)]
 exact ak call300 func300 (ae [ag [gW (gS a.2),gW (gS c.2)] (ze _ _ aC aC aD),ah 19 a.1 h1,ah 23 a.1 h1,ag [gW (gS (a.2%c.2))] (sj _ aC),tF 27 (0<(ia (a.2%c.2):Int)) (by rw[h2,rO];decide)]<|rQ (.agg [bP true,gW (gS (a.2/c.2))]) (.agg [bP ((px a c).1),gW (gS ((px a c).2))]) (by rw[e,h1])) 
def abe(a c:Bool×Nat)(za:(gS a.2).length<=256)(zc:(gS c.2).length<=256)(c0:c.2≠0)(zs:(gS (a.2/c.2+1)).length<=256)(h1:a.1=true)(h2:a.2%c.2≠0):gR 300 [.agg [bP a.1,gW (gS a.2)],.agg [bP c.1,gW (gS c.2)]] (.agg [bP ((px a c).1),gW (gS ((px a c).2))]):=by
 have zq:(gS (a.2/c.2)).length<=256:=bg (mC (bT _ _)) za;have zr:(gS (a.2%c.2)).length<=256:=bg (mC (eo _ _)) za;have z1:(gS 1).length<=256:=tu aE;have e:px a c=ju (a.1,a.2/c.2) (true,1):=by unfold px;rw[aZ ⟨h1,h2⟩]
 exact ak call300 func300 (ae [ag [gW (gS a.2),gW (gS c.2)] (ze _ _ aC aC aD),ah 19 a.1 h1,ah 23 a.1 h1,ag [gW (gS (a.2%c.2))] (sj _ aC),tT 27 (0<(ia (a.2%c.2):Int)) (by have:=nR h2;omega),.c abP,ag [.agg [bP true,gW (gS (a.2/c.2))],.agg [bP true,gW (gS 1)]] (s7 (true,(a.2/c.2)) aD (true,1) aD aD)]<|rQ (.agg [bP ((ju (true,(a.2/c.2)) (true,1)).1),gW (gS ((ju (true,(a.2/c.2)) (true,1)).2))]) (.agg [bP ((px a c).1),gW (gS ((px a c).2))]) (by rw[e,h1])) 
def abf(a c:Bool×Nat)(za:(gS a.2).length<=256)(zc:(gS c.2).length<=256)(c0:c.2≠0)(zs:(gS (a.2/c.2+1)).length<=256):gR 300 [.agg [bP a.1,gW (gS a.2)],.agg [bP c.1,gW (gS c.2)]] (.agg [bP ((px a c).1),gW (gS ((px a c).2))]):=by
 cases h1:a.1 with
 |false=>rw[<-h1];exact abg a c za zc c0 zs h1
 |true=>
  rw[<-h1];by_cases h2:a.2%c.2=0
  .exact abd a c za zc c0 zs h1 h2
  .exact abe a c za zc c0 zs h1 h2
def abo(x:Iv)(n p t w2 sg eg mm:Nat)(cp u v c1 a0 a1 k l0 d0 d1:Bool×Nat)(hx:x.gY)(xa:x.all=false)(hn:n<=3)(gX:p<=2000)(ht:(t:Int)=max (max x.lo.ij x.hi.ij) 0)(t2:t<=2000)(zd:(gS d1.2).length<=256)(rC:gR 295 [iP (((p+t)+40:Nat):Int)] (.agg [bP cp.1,gW (gS cp.2)]))(hU:gR 301 [gV x.hi,iP (((p+t)+40:Nat):Int)] (.agg [bP u.1,gW (gS u.2)]))(hV:gR 301 [gV x.lo,iP (((p+t)+40:Nat):Int)] (.agg [bP v.1,gW (gS v.2)]))(hW:gR 296 [gW (gS cp.2),iP ((1:Nat):Int)] (gW (gS w2)))(tR:gR 299 [.agg [bP false,gW (gS n)],.agg [bP cp.1,gW (gS cp.2)],iP ((0:Nat):Int)] (.agg [bP c1.1,gW (gS c1.2)]))(hS:gR 297 [gW (gS c1.2),iP ((1:Nat):Int)] (gW (gS sg)))(hE:gR 296 [gW (gS 1),iP (((t+24)+4:Nat):Int)] (gW (gS eg)))(uH:gR 302 [.agg [bP u.1,gW (gS u.2)],.agg [bP (!false),gW (gS sg)]] (.agg [bP a0.1,gW (gS a0.2)]))(sy:gR 302 [.agg [bP a0.1,gW (gS a0.2)],.agg [bP false,gW (gS eg)]] (.agg [bP a1.1,gW (gS a1.2)]))(hK:gR 300 [.agg [bP a1.1,gW (gS a1.2)],.agg [bP false,gW (gS w2)]] (.agg [bP k.1,gW (gS k.2)]))(hM:gR 115 [gW (gS k.2),gW (gS w2)] (.ig [gW (gS mm),iP 0]))(vK:gR 302 [.agg [bP k.1,gW (gS mm)],.agg [bP false,gW (gS sg)]] (.agg [bP l0.1,gW (gS l0.2)]))(xG:gR 302 [.agg [bP l0.1,gW (gS l0.2)],.agg [bP (!v.1),gW (gS v.2)]] (.agg [bP d0.1,gW (gS d0.2)]))(tS:gR 302 [.agg [bP d0.1,gW (gS d0.2)],.agg [bP false,gW (gS eg)]] (.agg [bP d1.1,gW (gS d1.2)]))(hz:d1.2=0):gR 265 [ib x,iP n,iP p] (bP true):=by
 obtain⟨w1,w2'⟩:=hx.j8;have z1:(gS 1).length<=256:=tu aE;exact ak call265 func265 (af [ag [gV x.lo] (mQ _ aD),ag [gV x.hi] (mQ _ aD),.o 24 (aq (if 0>(if(Dy.ij x.hi)>(Dy.ij x.lo)then(Dy.ij x.hi)else(Dy.ij x.lo))then 0 else(if(Dy.ij x.hi)>(Dy.ij x.lo)then(Dy.ij x.hi)else(Dy.ij x.lo))) t (by(repeat' split)<;>omega)),
  ik ((p:Int)+t) aC,ik (((p+t:Nat):Int)+40) aC,ag [iP (((p+t)+40:Nat):Int)] rC,ag [gW (gS cp.2),iP 1] hW,.c (Lh n aC),ag [.agg [bP false,gW (gS n)],.agg [bP cp.1,gW (gS cp.2)],iP 0] tR,ag [gW (gS c1.2),iP 1] hS,.o 42 (.e w8:aj (.sl false 1 1 λi_ j_=>[.v (.int .u32 1)].getD (i_*1+j_) (.v (.bool false))) (gW (gS 1))),ik ((t:Int)+24) aC,ik (((t+24:Nat):Int)+4) aC,ag [gW (gS 1),iP (((t+24)+4:Nat):Int)] hE,ag [gV x.hi,iP (((p+t)+40:Nat):Int)] hU,ag [.agg [bP false,gW (gS sg)]] (wK (false,sg)),ag [.agg [bP u.1,gW (gS u.2)],.agg [bP (!false),gW (gS sg)]] uH,ag [.agg [bP a0.1,gW (gS a0.2)],.agg [bP false,gW (gS eg)]] sy,ag [.agg [bP a1.1,gW (gS a1.2)],.agg [bP false,gW (gS w2)]] hK,ag [gW (gS k.2),gW (gS w2)] hM,ag [.agg [bP k.1,gW (gS mm)],.agg [bP false,gW (gS sg)]] vK,ag [gV x.lo,iP (((p+t)+40:Nat):Int)] hV,ag [.agg [bP v.1,gW (gS v.2)]] (wK (v.1,v.2)),ag [.agg [bP l0.1,gW (gS l0.2)],.agg [bP (!v.1),gW (gS v.2)]] xG,ag [.agg [bP d0.1,gW (gS d0.2)],.agg [bP false,gW (gS eg)]] tS,ag [.agg [bP d1.1,gW (gS d1.2)]] (Dm (d1.1,d1.2) aD),tB 83 (a6 hz)]) 
def abn(x:Iv)(n p t w2 sg eg mm:Nat)(cp u v c1 a0 a1 k l0 d0 d1:Bool×Nat)(hx:x.gY)(xa:x.all=false)(hn:n<=3)(gX:p<=2000)(ht:(t:Int)=max (max x.lo.ij x.hi.ij) 0)(t2:t<=2000)(zd:(gS d1.2).length<=256)(rC:gR 295 [iP (((p+t)+40:Nat):Int)] (.agg [bP cp.1,gW (gS cp.2)]))(hU:gR 301 [gV x.hi,iP (((p+t)+40:Nat):Int)] (.agg [bP u.1,gW (gS u.2)]))(hV:gR 301 [gV x.lo,iP (((p+t)+40:Nat):Int)] (.agg [bP v.1,gW (gS v.2)]))(hW:gR 296 [gW (gS cp.2),iP ((1:Nat):Int)] (gW (gS w2)))(tR:gR 299 [.agg [bP false,gW (gS n)],.agg [bP cp.1,gW (gS cp.2)],iP ((0:Nat):Int)] (.agg [bP c1.1,gW (gS c1.2)]))(hS:gR 297 [gW (gS c1.2),iP ((1:Nat):Int)] (gW (gS sg)))(hE:gR 296 [gW (gS 1),iP (((t+24)+4:Nat):Int)] (gW (gS eg)))(uH:gR 302 [.agg [bP u.1,gW (gS u.2)],.agg [bP (!false),gW (gS sg)]] (.agg [bP a0.1,gW (gS a0.2)]))(sy:gR 302 [.agg [bP a0.1,gW (gS a0.2)],.agg [bP false,gW (gS eg)]] (.agg [bP a1.1,gW (gS a1.2)]))(hK:gR 300 [.agg [bP a1.1,gW (gS a1.2)],.agg [bP false,gW (gS w2)]] (.agg [bP k.1,gW (gS k.2)]))(hM:gR 115 [gW (gS k.2),gW (gS w2)] (.ig [gW (gS mm),iP 0]))(vK:gR 302 [.agg [bP k.1,gW (gS mm)],.agg [bP false,gW (gS sg)]] (.agg [bP l0.1,gW (gS l0.2)]))(xG:gR 302 [.agg [bP l0.1,gW (gS l0.2)],.agg [bP (!v.1),gW (gS v.2)]] (.agg [bP d0.1,gW (gS d0.2)]))(tS:gR 302 [.agg [bP d0.1,gW (gS d0.2)],.agg [bP false,gW (gS eg)]] (.agg [bP d1.1,gW (gS d1.2)]))(hz:¬d1.2=0):gR 265 [ib x,iP n,iP p] (bP (!d1.1)):=by
 obtain⟨w1,w2'⟩:=hx.j8;have z1:(gS 1).length<=256:=tu aE;exact ak call265 func265 (af [ag [gV x.lo] (mQ _ aD),ag [gV x.hi] (mQ _ aD),.o 24 (aq (if 0>(if(Dy.ij x.hi)>(Dy.ij x.lo)then(Dy.ij x.hi)else(Dy.ij x.lo))then 0 else(if(Dy.ij x.hi)>(Dy.ij x.lo)then(Dy.ij x.hi)else(Dy.ij x.lo))) t (by(repeat' split)<;>omega)),
  ik ((p:Int)+t) aC,ik (((p+t:Nat):Int)+40) aC,ag [iP (((p+t)+40:Nat):Int)] rC,ag [gW (gS cp.2),iP 1] hW,.c (Lh n aC),ag [.agg [bP false,gW (gS n)],.agg [bP cp.1,gW (gS cp.2)],iP 0] tR,ag [gW (gS c1.2),iP 1] hS,.o 42 (.e w8:aj (.sl false 1 1 λi_ j_=>[.v (.int .u32 1)].getD (i_*1+j_) (.v (.bool false))) (gW (gS 1))),ik ((t:Int)+24) aC,ik (((t+24:Nat):Int)+4) aC,ag [gW (gS 1),iP (((t+24)+4:Nat):Int)] hE,ag [gV x.hi,iP (((p+t)+40:Nat):Int)] hU,ag [.agg [bP false,gW (gS sg)]] (wK (false,sg)),ag [.agg [bP u.1,gW (gS u.2)],.agg [bP (!false),gW (gS sg)]] uH,ag [.agg [bP a0.1,gW (gS a0.2)],.agg [bP false,gW (gS eg)]] sy,ag [.agg [bP a1.1,gW (gS a1.2)],.agg [bP false,gW (gS w2)]] hK,ag [gW (gS k.2),gW (gS w2)] hM,ag [.agg [bP k.1,gW (gS mm)],.agg [bP false,gW (gS sg)]] vK,ag [gV x.lo,iP (((p+t)+40:Nat):Int)] hV,ag [.agg [bP v.1,gW (gS v.2)]] (wK (v.1,v.2)),ag [.agg [bP l0.1,gW (gS l0.2)],.agg [bP (!v.1),gW (gS v.2)]] xG,ag [.agg [bP d0.1,gW (gS d0.2)],.agg [bP false,gW (gS eg)]] tS,ag [.agg [bP d1.1,gW (gS d1.2)]] (Dm (d1.1,d1.2) aD),tB 83 (a7 hz)]) 
def Fa{a b:Bool×Nat}{i j n:Nat}(ha:a.2<2^i)(hb:b.2<2^j)(hi:i<=n)(hj:j<=n)(hn:n<=8000):∃ r:Bool×Nat,r.2<2^(n+1)/\gR 302 [.agg [bP a.1,gW (gS a.2)],.agg [bP b.1,gW (gS b.2)]] (.agg [bP r.1,gW (gS r.2)]):=
 ⟨ju a b,adQ ha hb hi hj,s7 a (lp ha aC) b (lp hb aC) (lp (J7 ha hb hi hj) aC)⟩
def abm{x:Iv}(hx:x.gY)(xa:x.all=false)(n:Nat)(hn:n<=3)(p:Nat)(gX:p<=1000)(h1:x.lo.ij<=100)(h2:x.hi.ij<=100):∃ r:Bool,gR 265 [ib x,iP (n:Int),iP (p:Int)] (bP r):=by
 obtain⟨w1,w2⟩:=hx.j8;obtain⟨t,ht⟩:∃ t:Nat,(t:Int)=max (max x.lo.ij x.hi.ij) 0:=⟨(max (max x.lo.ij x.hi.ij) 0).toNat,aC⟩
 obtain⟨cp,c1,c2,c3,rC⟩:=QZ (p+t+40) aC aC;have hU:=Lg x.hi w2 (p+t+40) 6000 aC aE aC;have hV:=Lg x.lo w1 (p+t+40) 6000 aC aE aC;have yu:=JV (d:=x.hi) (b:=p+t+40) (K:=6000) aC;have yv:=JV (d:=x.lo) (b:=p+t+40) (K:=6000) aC;have yc:=Gz (m:=cp.2) (i:=p+t+40+3) (k:=2000) (by have e:(2:Nat)^(p+t+40+3)=2^(p+t+40)*8:=bh 2 _ 3;have:0<2^(p+t+40):=bj aE;omega) aC;generalize rj x.hi (p+t+40)=u at hU yu;generalize rj x.lo (p+t+40)=v at hV yv;obtain⟨K,hK⟩:∃ K,K=6000:=⟨_,rfl⟩
 rw[<-hK]at yu yv;obtain⟨J,hJ⟩:∃ J,J=2000:=⟨_,rfl⟩
 rw[<-hJ]at yc;have zc:(gS cp.2).length<=256:=lp yc aC;have yw:cp.2*2^1<2^(J+1):=by have e:2^(J+1)=2^J*2:=bC _ _;omega
 have hW:=zZ cp.2 1 zc aE (lp yw aC);have w0:cp.2*2^1≠0:= aC ;generalize cp.2*2^1=w at hW yw w0;have yn:n*cp.2<2^(J+2):=by have e:2^(J+2)=2^J*4:=bh 2 J 2;have:=bK cp.2 hn;omega
 have tR:=LW (false,n) (tu (by show n<_;omega)) cp zc 0 aE (lp yn aC);have y1:n*cp.2/2^0<2^(J+2):=ck (bT _ _) yn;obtain⟨q,hq⟩:∃ q:Bool×Nat,q=(false != cp.1,n*cp.2/2^0):=⟨_,rfl⟩
 have yq:q.2<2^(J+2):=by rw[hq];exact y1
 have xF:gR 299 [.agg [bP false,gW (gS n)],.agg [bP cp.1,gW (gS cp.2)],iP ((0:Nat):Int)] (.agg [bP q.1,gW (gS q.2)]):=by rw[hq];exact tR
 clear tR hq;have hS:=wG q.2 1 (lp yq aC) aE;have ys:q.2/2^1<2^(J+2):=ck (bT _ _) yq;generalize q.2/2^1=sg at hS ys;have ye:1*2^(t+24+4)<2^K:=by rw[bU];exact gz aE aC 
 have hE:=zZ 1 (t+24+4) (tu aE) aC (lp ye aC);generalize 1*2^(t+24+4)=eg at hE ye;obtain⟨a0,x0,uH⟩:=Fa (b:=(!false,sg)) yu ys (n:=K) aC aC aC;obtain⟨a1,x1,sy⟩:=Fa (b:=(false,eg)) x0 ye (n:=K+1) aC aC aC;have yf:a1.2/w+1<2^(K+3):=by
  have e:2^(K+3)=2^(K+1+1)*2:=bC _ _;have:=bT a1.2 w;have:0<2^(K+1+1):=bj aE;omega
 have hF:=abf a1 (false,w) (lp x1 aC) (lp yw aC) w0 (lp yf aC);have yk:=ck (S2 a1 (false,w)) yf;have ym:(px a1 (false,w)).2*w<2^(K+3):=ck (adW a1 (false,w)) (J7 (n:=K+2) x1 yw aC aC);generalize px a1 (false,w)=k at hF yk ym;have hM:=xV k.2 w (lp yk aC) (lp yw aC) (lp ym aC);generalize k.2*w=mm at hM ym;obtain⟨l0,x2,vK⟩:=Fa (a:=(k.1,mm)) (b:=(false,sg)) ym ys (n:=K+3) aC aC aC;obtain⟨d0,x3,xG⟩:=Fa (b:=(!v.1,v.2)) x2 yv (n:=K+4) aC aC aC;obtain⟨d1,x4,tS⟩:=Fa (b:=(false,eg)) x3 ye (n:=K+5) aC aC aC;by_cases hz:d1.2=0
 .exact ⟨_,abo x n p t w sg eg mm cp u v q a0 a1 k l0 d0 d1 hx xa hn aC ht aC (lp x4 aC) rC hU hV hW xF hS hE uH sy hF hM vK xG tS hz⟩
 .exact ⟨_,abn x n p t w sg eg mm cp u v q a0 a1 k l0 d0 d1 hx xa hn aC ht aC (lp x4 aC) rC hU hV hW xF hS hE uH sy hF hM vK xG tS hz⟩
def lf:Iv:=⟨iS (-1),iS 1,false⟩
def zK:lf.gY:=.inr ⟨rfl,show(iS (-1)).gY from sJ aE,show(iS 1).gY from sJ aE,aL⟩
def yy : gR 262 [] (ib lf):=by
 have h1:(iS (-1)).gY:=sJ aE;have h2:(iS 1).gY:=sJ aE;exact ak call262 func262 (ae [ag [iP (-1)] (qR _ aC),ag [iP 1] (qR _ aC)]<|rR (ib lf) (.iM rfl:E.le (ib (Iv.mk (iS (-1)) (iS 1) false)) (ib lf))) 
def ZW(x y:Iv)(hx:x.gY)(hy:y.gY)(xa:(x.all||y.all)=true):gR 139 [ib x,ib y] (ib gU):=
 ak call139 func139 (af [.o 7 (.e (y5 _ _):aj (.sl true 2 7 λi_ j_=>(iF x++iF y).getD (i_*7+j_) (.v (.bool false))) (gZ [x,y])),ag [gZ [x,y]] (y4 _ _ aD aD),ai 8 (!(x.all||y.all)) (by rw[xa];rfl),.c nv]) 
def ZX{x y:Iv}(hx:x.gY)(hy:y.gY):∃ Z,Z.gY/\gR 139 [ib x,ib y] (ib Z):=by
 cases h:(x.all||y.all)with
 |true=>exact⟨gU,lL,ZW x y hx hy h⟩
 |false=>
  obtain⟨h1,h2⟩:=eD.1 h;exact⟨pW x y,Ux hx hy,QB x y hx hy h1 h2⟩
def Z7(x:Iv)(hx:x.gY)(xa:x.all=true):gR 263 [ib x,ib lf] (.ig [ib lf,bP true]):=by
 have hu:=zK;exact ak call263 func263 (af [.c (re x aD),.c (re lf aD),ah 19 x.all xa]) 
def Z9(x:Iv)(hx:x.gY)(xa:x.all=false)(h:0<iO (iZ x.lo lf.lo) (jc x.hi lf.hi)):gR 263 [ib x,ib lf] (.ig [ib yg,bP false]):=by
 have hu:=zK;obtain⟨v1,v2⟩:=hx.j8;obtain⟨v3,v4⟩:=hu.j8;have m1:=ug v1 v3;have m2:=w7 v2 v4;exact ak call263 func263 (ae [.c (re x aD),.c (re lf aD),ai 19 x.all xa,ai 23 lf.all rfl,.c (Jy x.lo lf.lo aD aD),.c (Jx x.hi lf.hi aD aD),ag [gV (iZ x.lo lf.lo),gV (jc x.hi lf.hi)] (kI _ _ aD aD),tB 41 (a6 h)]<|rR (.ig [ib yg,bP false]) (.ig (.cons Zc (.cons (.refl _) .nil)):E.le (.ig [.agg au,bP false]) (.ig [ib yg,bP false]))) 
def aaa(x:Iv)(hx:x.gY)(xa:x.all=false)(h:¬0<iO (iZ x.lo lf.lo) (jc x.hi lf.hi)):gR 263 [ib x,ib lf] (.ig [ib (Iv.mk (iZ x.lo lf.lo) (jc x.hi lf.hi) false),bP true]):=by
 have hu:=zK;obtain⟨v1,v2⟩:=hx.j8;obtain⟨v3,v4⟩:=hu.j8;have m1:=ug v1 v3;have m2:=w7 v2 v4;exact ak call263 func263 (af [.c (re x aD),.c (re lf aD),ai 19 x.all xa,ai 23 lf.all rfl,.c (Jy x.lo lf.lo aD aD),.c (Jx x.hi lf.hi aD aD),ag [gV (iZ x.lo lf.lo),gV (jc x.hi lf.hi)] (kI _ _ aD aD),tB 41 (a7 h)]) 
structure yh(Y:Iv):Prop where
 v:Y.gY
 f:Y.all=false
 l:iO lf.lo Y.lo<=0
 h:iO Y.hi lf.hi<=0
def alB:yh lf:=⟨zK,rfl,aL,aL⟩
def Z8{x:Iv}(hx:x.gY):(∃ Y,yh Y/\gR 263 [ib x,ib lf] (.ig [ib Y,bP true]))\/gR 263 [ib x,ib lf] (.ig [ib yg,bP false]):=by
 cases xa:x.all with
 |true=>exact .inl ⟨lf,alB,Z7 x hx xa⟩
 |false=>
  by_cases h:0<iO (iZ x.lo lf.lo) (jc x.hi lf.hi)
  .exact .inr (Z9 x hx xa h)
  .have v1:(iZ x.lo lf.lo).gY:=ug hx.j8.1 zK.j8.1;have v2:(jc x.hi lf.hi).gY:=w7 hx.j8.2 zK.j8.2;have h1:iO lf.lo (iZ x.lo lf.lo)<=0:=VU _ _;have h2:iO (jc x.hi lf.hi) lf.hi<=0:=VV _ _;have hq:=aaa x hx xa h;have h3:iO (iZ x.lo lf.lo) (jc x.hi lf.hi)<=0:= aC ;generalize iZ x.lo lf.lo=a at *
   generalize jc x.hi lf.hi=b at *
   exact .inl ⟨⟨a,b,false⟩,⟨.inr ⟨rfl,v1,v2,h3⟩,rfl,h1,h2⟩,hq⟩
def yh.up{Y:Iv}(h:yh Y):yh ⟨Y.lo,iS 1,false⟩:=by
 have e:=h.v.j8;refine⟨.inr ⟨rfl,e.1,sJ (n:=1) aE,?_⟩,rfl,h.l,show iO (iS 1) (iS 1)<=0 by decide +kernel⟩;have:=h.v.q;rw[oJ];exact bH this ((oJ _ _).1 h.h)
def yh.dn{Y:Iv}(h:yh Y):yh ⟨iS (-1),Y.hi,false⟩:=by
 have e:=h.v.j8;refine⟨.inr ⟨rfl,sJ (n:=-1) aE,e.2,?_⟩,rfl,show iO (iS (-1)) (iS (-1))<=0 by decide +kernel,h.h⟩;have:=h.v.q;rw[oJ];exact bH ((oJ _ _).1 h.l) this
def Ig(p:Nat)(ic:8<=p)(gX:p<=512):gR 261 [iP p] (bP true):=
 ak call261 func261 (af [tT 4 (8<=(p:Int)) aC,tT 7 ((p:Int)<=512) aC]) 
def aaV(x:Iv)(cs:Bool)(p:Nat)(hx:x.gY)(xa:x.all=true)(ic:8<=p)(gX:p<=512):gR 232 [ib x,bP cs,iP p] (ib gU):=
 ak call232 func232 (af [.c (Ig p aC aC),.c (re x aD),ah 22 x.all xa,.c nv]) 
def aaY(x:Iv)(cs:Bool)(p:Nat)(hx:x.gY)(xa:x.all=false)(ic:8<=p)(gX:p<=512)(hu:100<x.lo.ij\/100<x.hi.ij\/¬vv x 64=0\/0<=iO (oB x 64) (iS 7)):gR 232 [ib x,bP cs,iP p] (ib lf):=by
 obtain⟨w1,w2⟩:=hx.j8;have h7:(iS 7).gY:=sJ aE;have wv:(oB x 64).gY:=wo _ aE aE _;exact ak call232 func232 (ae [.c (Ig p aC aC),.c (re x aD),ai 22 x.all xa,ag [gV x.lo] (mQ _ aD)]<|.w (100<(Dy.ij x.lo))
  (λk1=>af [tB 28 (a6 k1),.c yy])
  (λk1=>ae [tB 28 (a7 k1),ag [gV x.hi] (mQ _ aD)]<|.w (100<(Dy.ij x.hi))
   (λk2=>af [tB 33 (a6 k2),.c yy])
   (λk2=>ae [tB 33 (a7 k2),.c (Db x 64 aD aD aC aC)]<|.w (vv x 64=0)
    (λk3=>ae [tB 40 (a6 k3),ag [iP 7] (qR _ aC),ag [gV (oB x 64),gV (iS 7)] (kI _ _ aD aD)]<|.w (0<=(iO (oB x 64) (iS 7)))
     (λk4=>af [tB 47 (a6 k4),.c yy])
     (λk4=>.x (by rcases hu with q|q|q|q<;>contradiction)))
    (λk3=>af [tB 40 (a7 k3),.c yy])))) 
def aaX(x:Iv)(cs:Bool)(p:Nat)(hx:x.gY)(xa:x.all=false)(ic:8<=p)(gX:p<=512)(h1:¬100<x.lo.ij)(h2:¬100<x.hi.ij)(h3:vv x 64=0)(h4:¬0<=iO (oB x 64) (iS 7))(P1 P2 H:Iv)(xI:∀ c,c=cs->gR 264 [gV x.lo,bP c,iP (p:Int)] (ib P1))(xJ:∀ c,c=cs->gR 264 [gV x.hi,bP c,iP (p:Int)] (ib P2))(hH:gR 139 [ib P1,ib P2] (ib H))(vL:gR 263 [ib H,ib lf] (.ig [ib yg,bP false])):gR 232 [ib x,bP cs,iP p] (ib lf):=by
 obtain⟨w1,w2⟩:=hx.j8;have h7:(iS 7).gY:=sJ aE;have wv:(oB x 64).gY:=wo _ aE aE _;exact ak call232 func232 (af [.c (Ig p aC aC),.c (re x aD),ai 22 x.all xa,ag [gV x.lo] (mQ _ aD),tB 28 (a7 h1),ag [gV x.hi] (mQ _ aD),tB 33 (a7 h2),.c (Db x 64 aD aD aC aC),tB 40 (a6 h3),ag [iP 7] (qR _ aC),ag [gV (oB x 64),gV (iS 7)] (kI _ _ aD aD),tB 47 (a7 h4),ag [gV x.lo,bP cs,iP p] (xI cs aH),ag [gV x.hi,bP cs,iP p] (xJ cs aH),ag [ib P1,ib P2] hH,.c yy,ag [ib H,ib lf] vL,.c yy]) 
def qu(cs:Bool)(R:Nat->Bool)(x Y:Iv):Iv:=if iO x.lo x.hi=0 then Y else⟨if R (if cs=true then 2 else 3)=true then iS (-1)else Y.lo,if R (if cs=true then 0 else 1)=true then iS 1 else Y.hi,Y.all⟩
def aaW(x:Iv)(cs:Bool)(p:Nat)(hx:x.gY)(xa:x.all=false)(ic:8<=p)(gX:p<=512)(h1:¬100<x.lo.ij)(h2:¬100<x.hi.ij)(h3:vv x 64=0)(h4:¬0<=iO (oB x 64) (iS 7))(P1 P2 H Y:Iv)(hY:yh Y)(xI:∀ c,c=cs->gR 264 [gV x.lo,bP c,iP (p:Int)] (ib P1))(xJ:∀ c,c=cs->gR 264 [gV x.hi,bP c,iP (p:Int)] (ib P2))(hH:gR 139 [ib P1,ib P2] (ib H))(vL:gR 263 [ib H,ib lf] (.ig [ib Y,bP true]))(R:Nat->Bool)(hM:∀ s:Nat,s<=3->gR 265 [ib x,iP (s:Int),iP ((p+64:Nat):Int)] (bP (R s))):gR 232 [ib x,bP cs,iP p] (ib (qu cs R x Y)):=by
 obtain⟨w1,w2⟩:=hx.j8;have h7:(iS 7).gY:=sJ aE;have wv:(oB x 64).gY:=wo _ aE aE _;exact ak call232 func232 (ae [.c (Ig p aC aC),.c (re x aD),ai 22 x.all xa,ag [gV x.lo] (mQ _ aD),tB 28 (a7 h1),ag [gV x.hi] (mQ _ aD),tB 33 (a7 h2),.c (Db x 64 aD aD aC aC),tB 40 (a6 h3),ag [iP 7] (qR _ aC),ag [gV (oB x 64),gV (iS 7)] (kI _ _ aD aD),tB 47 (a7 h4)]<|.w ((iO x.lo x.hi)=0)
  (λk1=>ae [ag [gV x.lo,bP cs,iP p] (xI cs aH),ag [gV x.hi,bP cs,iP p] (xJ cs aH),ag [ib P1,ib P2] hH,.c yy,ag [ib H,ib lf] vL,ag [gV x.lo,gV x.hi] (kI _ _ aD aD),tB 74 (aU k1)]<|rQ (ib Y) (ib (qu cs R x Y)) (by unfold qu;simp[k1]))
  (λk1=>.w (cs=true)
   (λk2=>ae [tB 53 k2,ag [gV x.lo,bP true,iP p] (xI true (by simp[k2])),tB 58 k2,ag [gV x.hi,bP true,iP p] (xJ true (by simp[k2])),ag [ib P1,ib P2] hH,.c yy,ag [ib H,ib lf] vL,ag [gV x.lo,gV x.hi] (kI _ _ aD aD),tB 74 (aT k1),tB 76 k2,
    ik ((p:Int)+64) aC,ag [ib x,iP 0,iP ((p+64:Nat):Int)] (hM 0 aE)]<|.w (R 0=true)
    (λk3=>ae [tB 81 k3,ag [iP 1] (qR _ aC),ik ((p:Int)+64) aC,ag [ib x,iP 2,iP ((p+64:Nat):Int)] (hM 2 aE)]<|.w (R 2=true)
     (λk4=>ae [tB 88 k4,ag [iP (-1)] (qR _ aC)]<|rQ (ib (Iv.mk (iS (-1)) (iS 1) Y.all)) (ib (qu cs R x Y)) (by unfold qu;simp[k1,k2,k3,k4]))
     (λk4=>ae [tB 88 (aV k4)]<|rQ (ib (Iv.mk Y.lo (iS 1) Y.all)) (ib (qu cs R x Y)) (by unfold qu;simp[k1,k2,k3,k4])))
    (λk3=>ae [tB 81 (aV k3),ik ((p:Int)+64) aC,ag [ib x,iP 2,iP ((p+64:Nat):Int)] (hM 2 aE)]<|.w (R 2=true)
     (λk4=>ae [tB 88 k4,ag [iP (-1)] (qR _ aC)]<|rQ (ib (Iv.mk (iS (-1)) Y.hi Y.all)) (ib (qu cs R x Y)) (by unfold qu;simp[k1,k2,k3,k4]))
     (λk4=>ae [tB 88 (aV k4)]<|rQ (ib Y) (ib (qu cs R x Y)) (by unfold qu;simp[k1,k2,k3,k4]))))
   (λk2=>ae [tB 53 (aV k2),ag [gV x.lo,bP false,iP p] (xI false (by simp[k2])),tB 58 (aV k2),ag [gV x.hi,bP false,iP p] (xJ false (by simp[k2])),ag [ib P1,ib P2] hH,.c yy,ag [ib H,ib lf] vL,ag [gV x.lo,gV x.hi] (kI _ _ aD aD),tB 74 (aT k1),tB 76 (aV k2),ik ((p:Int)+64) aC,ag [ib x,iP 1,iP ((p+64:Nat):Int)] (hM 1 aE)]<|.w (R 1=true)
    (λk3=>ae [tB 81 k3,ag [iP 1] (qR _ aC),ik ((p:Int)+64) aC,ag [ib x,iP 3,iP ((p+64:Nat):Int)] (hM 3 aE)]<|.w (R 3=true)
     (λk4=>ae [tB 88 k4,ag [iP (-1)] (qR _ aC)]<|rQ (ib (Iv.mk (iS (-1)) (iS 1) Y.all)) (ib (qu cs R x Y)) (by unfold qu;simp[k1,k2,k3,k4]))
     (λk4=>ae [tB 88 (aV k4)]<|rQ (ib (Iv.mk Y.lo (iS 1) Y.all)) (ib (qu cs R x Y)) (by unfold qu;simp[k1,k2,k3,k4])))
    (λk3=>ae [tB 81 (aV k3),ik ((p:Int)+64) aC,ag [ib x,iP 3,iP ((p+64:Nat):Int)] (hM 3 aE)]<|.w (R 3=true)
     (λk4=>ae [tB 88 k4,ag [iP (-1)] (qR _ aC)]<|rQ (ib (Iv.mk (iS (-1)) Y.hi Y.all)) (ib (qu cs R x Y)) (by unfold qu;simp[k1,k2,k3,k4]))
     (λk4=>ae [tB 88 (aV k4)]<|rQ (ib Y) (ib (qu cs R x Y)) (by unfold qu;simp[k1,k2,k3,k4])))))) 
def QW{x:Iv}(hx:x.gY)(cs:Bool){p:Nat}(ic:8<=p)(gX:p<=512):∃ Z,Z.gY/\gR 232 [ib x,bP cs,iP (p:Int)] (ib Z):=by
 cases xa:x.all with
 |true=>exact⟨_,lL,aaV x cs p hx xa ic gX⟩
 |false=>
  by_cases hu:100<x.lo.ij\/100<x.hi.ij\/¬vv x 64=0\/0<=iO (oB x 64) (iS 7)
  .exact ⟨_,zK,aaY x cs p hx xa ic gX hu⟩
  have h1:¬100<x.lo.ij:=λq=>hu (.inl q)
  have h2:¬100<x.hi.ij:=λq=>hu (.inr (.inl q))
  have h3:vv x 64=0:=bL λq=>hu (.inr (.inr (.inl q)))
  have h4:¬0<=iO (oB x 64) (iS 7):=λq=>hu (.inr (.inr (.inr q)))
  obtain⟨w1,w2⟩:=hx.j8;obtain⟨P1,g1,xI⟩:=Q0 w1 aC cs ic gX;obtain⟨P2,g2,xJ⟩:=Q0 w2 aC cs ic gX;replace xI:∀ c,c=cs->gR 264 [gV x.lo,bP c,iP (p:Int)] (ib P1):=λc h=>h▸xI
  replace xJ:∀ c,c=cs->gR 264 [gV x.hi,bP c,iP (p:Int)] (ib P2):=λc h=>h▸xJ
  obtain⟨H,g3,hH⟩:=ZX g1 g2;rcases Z8 g3 with⟨Y,hY,vL⟩|vL
  rotate_left
  .exact ⟨_,zK,aaX x cs p hx xa ic gX h1 h2 h3 h4 P1 P2 H xI xJ hH vL⟩
  have ya:=hY.f;have v0:=hY.v;have v1:(Iv.mk (iS (-1)) (iS 1) Y.all).gY:=by rw[ya];exact zK
  have v2:(Iv.mk Y.lo (iS 1) Y.all).gY:=by rw[ya];exact hY.up.v
  have v3:(Iv.mk (iS (-1)) Y.hi Y.all).gY:=by rw[ya];exact hY.dn.v
  have v4:(Iv.mk Y.lo Y.hi Y.all).gY:=hY.v;have hm:∀ s:Nat,∃ r,s<=3->gR 265 [ib x,iP (s:Int),iP ((p+64:Nat):Int)] (bP r):=λs=>by
   by_cases hs:s<=3
   .obtain ⟨r,m⟩:=abm hx xa s aC (p+64) aC aC aC ;exact⟨r,λ_=>m⟩
   .exact ⟨true,λh=>absurd h hs⟩
  refine⟨qu cs (λs=>Classical.choose (hm s)) x Y,?_,aaW x cs p hx xa ic gX h1 h2 h3 h4 P1 P2 H Y hY xI xJ hH vL (λs=>Classical.choose (hm s)) λs hs=>cK (hm s) hs⟩;generalize (λs=>Classical.choose (hm s))=R;unfold qu;by_cases q1:iO x.lo x.hi=0
  .rw [aZ q1];exact v0
  rw[aY q1];by_cases q2:R (if cs=true then 2 else 3)=true<;>by_cases q3:R (if cs=true then 0 else 1)=true<;>simp only[q2,q3,bw,bk,bB]<;>assumption
def abO(x Z:Iv)(p:Nat)(hZ:gR 232 [ib x,bP false,iP (p:Int)] (ib Z)):gR 204 [ib x,iP p] (ib Z):=
 ak call204 func204 (af [ag [ib x,bP false,iP p] hZ]) 
def abN{x:Iv}(hx:x.gY){p:Nat}(ic:8<=p)(gX:p<=512):∃ Z,Z.gY/\gR 204 [ib x,iP (p:Int)] (ib Z):=by
 obtain⟨Z,h1,h2⟩:=QW hx false ic gX;exact⟨Z,h1,abO x Z p h2⟩
def aa6(x Z:Iv)(p:Nat)(hZ:gR 232 [ib x,bP true,iP (p:Int)] (ib Z)):gR 205 [ib x,iP p] (ib Z):=
 ak call205 func205 (af [ag [ib x,bP true,iP p] hZ]) 
def aa5{x:Iv}(hx:x.gY){p:Nat}(ic:8<=p)(gX:p<=512):∃ Z,Z.gY/\gR 205 [ib x,iP (p:Int)] (ib Z):=by
 obtain⟨Z,h1,h2⟩:=QW hx true ic gX;exact⟨Z,h1,aa6 x Z p h2⟩
def ad0:uq:=λ_ _ hx ic gX=>⟨al0 hx ic gX,al7 hx ic gX,abN hx ic gX,aa5 hx ic gX,af8 hx ic gX⟩
structure oO where
 kind:Int
 a:Int
 b:Int
 n:Int
 cn:Int
 cd:Int
structure lq where
 ie:Int
 gT:List oO
 iw:List Int
 iI:Int
 params:List RI
def nV:oO:=⟨0,0,0,0,0,0⟩
def zz(o:oO):List E:=[iP o.kind,iP o.a,iP o.b,iP o.n,iP o.cn,iP o.cd]
def ajo(o:oO):E:=.agg (zz o)
def oh(l:List oO):E:=.sl true l.length 6 λi j=>(zz (l.getD i nV)).getD j .any
def oK(l:List Int):E:=.sl true l.length 1 λi _=>iP (l.getD i 0)
def O7(s:lq):List E:=[iP s.ie,oh s.gT,oK s.iw,iP s.iI,kO s.params]
def lX(s:lq):E:=.agg (O7 s)
structure oO.ke(o:oO):Prop where
 kind:kP .i64 o.kind
 a:kP .i64 o.a
 b:kP .i64 o.b
 n:kP .i64 o.n
 cn:kP .i64 o.cn
 cd:kP .i64 o.cd
structure lq.ke(s:lq):Prop where
 ie:kP .i64 s.ie
 gT:∀ i,(s.gT.getD i nV).ke
 iw:∀ i,kP .i64 (s.iw.getD i 0)
 iI:kP .i64 s.iI
 params:∀ i,(s.params.getD i nP).ke
structure lq.wD(s:lq):Prop where
 gT:s.gT.length<=1000
 params:s.params.length<=1000
def mU(o:oO)(m:Int):Bool:=
 if o.kind=1 then pG o.cn o.cd&&decide (o.a=0/\o.b=0/\o.n=0)
 else if 3<=o.kind/\o.kind<=6 then decide (o.cn=0/\o.cd=0/\0<=o.a/\o.a<m/\0<=o.b/\o.b<m/\o.n=0)
 else if o.kind=8 then decide (o.cn=0/\o.cd=0/\0<=o.a/\o.a<m/\o.b=0/\0<=o.n/\o.n<=16)
 else if o.kind=7\/9<=o.kind/\o.kind<=13 then decide (o.cn=0/\o.cd=0/\0<=o.a/\o.a<m/\o.b=0/\o.n=0)
 else false
def Xq(s:lq):Bool:=(List.range s.gT.length).all λi=>mU (s.gT.getD i nV) (s.ie+(i:Int))
def CC(s:lq)(k:Int):Bool:=decide (0<=k/\k<s.ie+(s.gT.length:Int))
def zB(s:lq):Bool:=(List.range s.iw.length).all λi=>CC s (s.iw.getD i 0)
noncomputable def pO(x:RI):Bool:=zi x && !x.all
noncomputable def GI(s:lq):Bool:=(List.range s.params.length).all λi=>pO (s.params.getD i nP)
noncomputable def rI(s:lq):Bool:=decide (0<=s.ie/\s.ie<=8/\s.gT.length<=200/\s.iw.length<=200)&&Xq s&&zB s
 && decide (1<=s.iI/\s.iI<=4/\(s.iw.length:Int)=s.iI/\s.ie=s.iI+(s.params.length:Int)/\s.params.length<=4)&&GI s
def ZB{n:Nat}{f:Nat->Bool}(h:¬(List.range n).all f=true):∃ N,N<n/\(!f N)=true/\∀ k,k<N->(!f k)=false:=by
 refine sL ?_;apply bL;intro q;apply h;refine bN.2 λi hi=>?_
 cases hf:f i with
 |true=>rfl
 |false=>exact absurd ⟨i,bW.1 hi,by rw[hf];rfl⟩ q
def Qg{n:Nat}{f:Nat->Bool}:((List.range n).any λi=>!f i) = !((List.range n).all f):=by
 rw[dz];simp
def oO.v(o:oO):mL:=⟨o.kind.toNat,o.a.toNat,o.b.toNat,o.n.toNat,o.cn,o.cd⟩
def lq.v(s:lq):jB:=⟨⟨s.ie.toNat,s.gT.map oO.v,s.iw.map Int.toNat⟩,s.iI.toNat,s.params.map RI.iv⟩
def nF.of{k a b n m:Nat}{cn cd:Int}(k3:k=1\/3<=k)(wX:k<=13)(ha:k=1->a=0)(IX:¬k=1->a<m)(hb:3<=k/\k<=6->b<m)(nh:¬(3<=k/\k<=6)->b=0)
 (hn:k=8->n<=16) (tX:¬k=8->n=0) (hc:k=1->pG cn cd=true) (Fq:¬k=1->cn=0/\cd=0):nF ⟨k,a,b,n,cn,cd⟩ m:=by
 refine⟨k3,wX,?_,?_,?_,?_,.inr ad0⟩
 .show if k=1 then a=0 else a<m
  split<;>simp_all
 .show if 3<=k/\k<=6 then b<m else b=0
  split
  .rename_i h;exact hb h
  .rename_i h;exact nh h
 .show if k=8 then n<=16 else n=0
  split
  .rename_i h;exact hn h
  .rename_i h;exact tX h
 .show if k=1 then pG cn cd=true else cn=0/\cd=0
  split
  .rename_i h;exact hc h
  .rename_i h;exact Fq h
def ajl{o:oO}{m:Nat}(h:mU o (m:Int)=true):nF o.v m/\0<=o.kind/\0<=o.a/\0<=o.b/\0<=o.n:=by
 obtain⟨k,a,b,n,cn,cd⟩:=o;unfold mU at h;simp only at h;show nF ⟨k.toNat,a.toNat,b.toNat,n.toNat,cn,cd⟩ m/\0<=k/\0<=a/\0<=b/\0<=n;split at h
 .rename_i hk;rw[bF,b9]at h;obtain⟨hr,h1,h2,h3⟩:=h;exact⟨nF.of aC aC aC aC aC aC aC aC (λ_=>hr) aC,aC,aC,aC,aC⟩
 .rename_i oe;split at h
  .rename_i hk;have h:=cC h;exact⟨nF.of aC aC aC aC aC aC aC aC aC aC,aC,aC,aC,aC⟩
  .split at h
   .rename_i hk;have h:=cC h;exact⟨nF.of aC aC aC aC aC aC aC aC aC aC,aC,aC,aC,aC⟩
   .split at h
    .rename_i vP hk;have h:=cC h;exact⟨nF.of aC aC aC aC aC aC aC aC aC aC,aC,aC,aC,aC⟩
    .cases h
def ajn{o:oO}(h1:0<=o.kind)(h2:0<=o.a)(h3:0<=o.b)(h4:0<=o.n):J0 o.v=zz o:=by
 obtain⟨k,a,b,n,cn,cd⟩:=o;simp only[J0,zz,oO.v]at *
 rw[eJ h1,eJ h2,eJ h3,eJ h4]
def ajD{s:lq}(g:s.ke)(h:rI s=true):lM s.v/\lX s=kU s.v:=by
 unfold rI at h;simp only[bF,b9]at h;obtain⟨⟨⟨⟨⟨i0,i8,l1,l2⟩,ho⟩,hu⟩,s1,s4,e1,e2,p4⟩,hp⟩:=h;have ho:=bN.1 ho;have hu:=bN.1 hu;have hp:=bN.1 hp;have opAt:∀ i,i<s.gT.length->(s.gT.map oO.v).getD i iy=(s.gT.getD i nV).v:=λi hi=>by simp[bd,hi]
 have ouAt:∀ i,i<s.iw.length->(s.iw.map Int.toNat).getD i 0=(s.iw.getD i 0).toNat:=λi hi=>by simp[bd,hi]
 have paAt:∀ i,i<s.params.length->(s.params.map RI.iv).getD i gU=(s.params.getD i nP).iv:=λi hi=>by simp[bd,hi]
 have op:∀ i,i<s.gT.length->nF (s.gT.getD i nV).v (s.ie.toNat+i)/\0<=(s.gT.getD i nV).kind/\0<=(s.gT.getD i nV).a/\0<=(s.gT.getD i nV).b/\0<=(s.gT.getD i nV).n:=λi hi=>by
  have:=ho i (bW.2 hi);exact ajl (by rwa[show((s.ie.toNat+i:Nat):Int)=s.ie+(i:Int)by omega])
 have ou:∀ i,i<s.iw.length->0<=s.iw.getD i 0/\s.iw.getD i 0<s.ie+(s.gT.length:Int):=λi hi=>cC (hu i (bW.2 hi))
 have pa:∀ i,i<s.params.length->(s.params.getD i nP).Ok/\(s.params.getD i nP).all=false:=λi hi=>by
  have:=hp i (bW.2 hi);unfold pO at this;rw[bF]at this;exact⟨AU.1 this.1,by simpa using this.2⟩
 refine⟨⟨⟨?_,?_,?_,?_,?_⟩,?_,?_,?_,?_,?_,?_⟩,?_⟩
 .show s.ie.toNat<=8;omega
 .show (s.gT.map oO.v).length<=200;rw[ca];exact l1
 .show (s.iw.map Int.toNat).length<=200;rw[ca];exact l2
 .intro i hi;have hi:i<s.gT.length:=by simpa[lq.v]using hi
  show nF ((s.gT.map oO.v).getD i iy) (s.ie.toNat+i);rw[opAt i hi];exact(op i hi).1
 .intro i hi;have hi:i<s.iw.length:=by simpa[lq.v]using hi
  show(s.iw.map Int.toNat).getD i 0<s.ie.toNat+(s.gT.map oO.v).length;rw[ouAt i hi,ca];have:=ou i hi;omega
 .show 1<=s.iI.toNat;omega
 .show s.iI.toNat<=4;omega
 .show (s.iw.map Int.toNat).length=s.iI.toNat;rw[ca];omega
 .show s.ie.toNat=s.iI.toNat+(s.params.map RI.iv).length;rw[ca];omega
 .show (s.params.map RI.iv).length<=4;rw[ca];exact p4
 .intro i hi;have hi:i<s.params.length:=by simpa[lq.v]using hi
  show((s.params.map RI.iv).getD i gU).gY/\((s.params.map RI.iv).getD i gU).all=false;rw[paAt i hi];exact⟨(pa i hi).1.valid,(pa i hi).2⟩
 .have e1:iP s.ie=iP (s.ie.toNat:Int):=by rw[eJ i0]
  have e2:iP s.iI=iP (s.iI.toNat:Int):=by rw[eJ (aC:0<=s.iI)]
  have e3:oh s.gT=kH (s.gT.map oO.v):=by
   unfold oh kH;rw[ca];congr 1;funext i j;by_cases hi:i<s.gT.length
   .rw [opAt i hi];obtain⟨_,h1,h2,h3,h4⟩:=op i hi;rw[ajn h1 h2 h3 h4]
   .have a1:s.gT.getD i nV=nV:=by rw[bd,b7 aC];rfl
    have a2:(s.gT.map oO.v).getD i iy=iy:=by rw[bd,b7 (by rw[ca];omega)];rfl
    rw[a1,a2];rfl
  have e4:oK s.iw=kG (s.iw.map Int.toNat):=by
   unfold oK kG;rw[ca];congr 1;funext i j;by_cases hi:i<s.iw.length
   .rw [ouAt i hi,eJ (ou i hi).1]
   .rw [bd,b7 aC,bd (l:=s.iw.map Int.toNat),b7 (by rw[ca];omega)];rfl
  have e5:kO s.params=gZ (s.params.map RI.iv):=by
   rw[<-Vb];congr 1;apply fH;intro i;unfold CF;rw[cr,cr];by_cases hi:i<s.params.length
   .have h1:=(pa i hi).1;have g1:=g.params i;rw[bt hi];rw[bd,bt hi]at h1 g1;exact congrArg some (RI.Ok.eq (x:=s.params[i]) h1 g1).symm
   .rw [b7 aC];rfl
  show E.agg [iP s.ie,oh s.gT,oK s.iw,iP s.iI,kO s.params]=_;rw[e1,e2,e3,e4,e5];rfl
def Xu(s:lq)(N:Nat)(x:Nat):PS:=⟨85,true,[(31,.e (iP x)),(30,.e (iP s.gT.length)),(29,.e (oh s.gT)),(3,.box 3 0),(1,.box 1 0)],[(3,.cells 25 [iP s.ie,oh s.gT,oK s.iw]),(1,.cells 28 [iP s.ie,oh s.gT,oK s.iw,iP s.iI,kO s.params])]⟩
def Xv(s:lq)(x:Nat):PS:=⟨85,true,[(31,.e (iP x)),(30,.e (iP s.gT.length)),(29,.e (oh s.gT)),(3,.box 3 0),(1,.box 1 0)],[(3,.cells 25 [iP s.ie,oh s.gT,oK s.iw]),(1,.cells 28 [iP s.ie,oh s.gT,oK s.iw,iP s.iI,kO s.params])]⟩
def Xw(s:lq)(x:Nat):PS:=⟨85,true,[(31,.e (iP x)),(30,.e (iP s.gT.length)),(29,.e (oh s.gT)),(3,.box 3 0),(1,.box 1 0)],[(3,.cells 25 [iP s.ie,oh s.gT,oK s.iw]),(1,.cells 28 [iP s.ie,oh s.gT,oK s.iw,iP s.iI,kO s.params])]⟩
def Xx(s:lq)(x:Nat):PS:=⟨85,true,[(31,.e (iP x)),(30,.e (iP s.gT.length)),(29,.e (oh s.gT)),(3,.box 3 0),(1,.box 1 0)],[(3,.cells 25 [iP s.ie,oh s.gT,oK s.iw]),(1,.cells 28 [iP s.ie,oh s.gT,oK s.iw,iP s.iI,kO s.params])]⟩
def xR{a b:Bool}(h:a=true↔b=true):a=b:=dz.2 h
def jX{a b:Bool}(h:a=b):bP a=bP b:=h▸rfl
def rk{o:oO}{m:Int}{b:Bool}(h:b=mU o m:=by simp_all[mU,QL]<;>(repeat' split)<;>intros<;>omega):bP b=bP (mU o m):=jX h
noncomputable def ahZ(o:oO)(m:Int)(g:o.ke)(C:Bool)(hC:C=decide (o.cn=0/\o.cd=0))(q1:¬o.a<0)(q2:¬o.b<0):Tr prog Tb:=
  .w (o.kind=1)
  (λk1=>ae [tB 21 (aU k1),.c (J8 o.cn o.cd)]<|.w (pG o.cn o.cd=true)
   (λk2=>ae [tB 24 k2]<|.w (o.a=0)
    (λk3=>ae [tB 28 (aU k3)]<|.w (o.b=0)
     (λk4=>ae [tB 33 (aU k4)]<|rQ (bP (o.n==0)) (bP (mU o m)) rk)
     (λk4=>ae [tB 33 (aT k4)]<|rQ (bP false) (bP (mU o m)) rk))
    (λk3=>ae [tB 28 (aT k3)]<|rQ (bP false) (bP (mU o m)) rk))
   (λk2=>ae [tB 24 (aV k2)]<|rQ (bP false) (bP (mU o m)) rk))
  (λk1=>ae [tB 21 (aT k1),.j 80 ⟨111,true,[(40,.e (bP (decide (3<=o.kind/\o.kind<=6)))),(19,.e (iP o.kind)),(5,.e (bP C)),(2,.box 2 0),(1,.e (iP m))],[(2,.cells 91 [iP o.kind,iP o.a,iP o.b,iP o.n,iP o.cn,iP o.cd])]⟩
   (.w (o.kind=3)
    (λm1=>ae [.v 40 (.bool (aU m1))]<|.e (af [tB 40 (xR aJ:true=(decide (3<=o.kind/\o.kind<=6)))]))
    (λm1=>ae [.v 40 (.bool (aT m1))]<|.w (o.kind=4)
     (λm2=>ae [tB 42 (aU m2)]<|.e (af [tB 40 (xR aJ:true=(decide (3<=o.kind/\o.kind<=6)))]))
     (λm2=>ae [tB 42 (aT m2)]<|.w (o.kind=5)
      (λm3=>ae [tB 43 (aU m3)]<|.e (af [tB 40 (xR aJ:true=(decide (3<=o.kind/\o.kind<=6)))]))
      (λm3=>ae [tB 43 (aT m3)]<|.e (af [tB 40 (xR aJ:(o.kind==6)=(decide (3<=o.kind/\o.kind<=6)))])))))]<|.w (3<=o.kind/\o.kind<=6)
   (λk2=>ae [.v 40 (.bool (a6 k2))]<|.w (C=true)
    (λk3=>ae [tB 45 k3]<|.w (o.a<m)
     (λk4=>ae [tB 50 (a6 k4)]<|.w (o.b<m)
      (λk5=>ae [tB 56 (a6 k5)]<|rQ (bP (o.n==0)) (bP (mU o m)) rk)
      (λk5=>ae [tB 56 (a7 k5)]<|rQ (bP false) (bP (mU o m)) rk))
     (λk4=>ae [tB 50 (a7 k4)]<|rQ (bP false) (bP (mU o m)) rk))
    (λk3=>ae [tB 45 (aV k3)]<|rQ (bP false) (bP (mU o m)) rk))
   (λk2=>ae [.v 40 (.bool (a7 k2))]<|.w (o.kind=8)
    (λk3=>ae [tB 64 (aU k3)]<|.w (C=true)
     (λk4=>ae [tB 65 k4]<|.w (o.a<m)
      (λk5=>ae [tB 70 (a6 k5)]<|.w (o.b=0)
       (λk6=>ae [tB 75 (aU k6)]<|.w (0<=o.n)
        (λk7=>ae [tB 80 (a6 k7)]<|rQ (bP (decide (o.n<=16))) (bP (mU o m)) rk)
        (λk7=>ae [tB 80 (a7 k7)]<|rQ (bP false) (bP (mU o m)) rk))
       (λk6=>ae [tB 75 (aT k6)]<|rQ (bP false) (bP (mU o m)) rk))
      (λk5=>ae [tB 70 (a7 k5)]<|rQ (bP false) (bP (mU o m)) rk))
     (λk4=>ae [tB 65 (aV k4)]<|rQ (bP false) (bP (mU o m)) rk))
    (λk3=>ae [tB 64 (aT k3),.j 174 ⟨111,true,[(87,.e (bP (decide (o.kind=7\/9<=o.kind/\o.kind<=13)))),(5,.e (bP C)),(2,.box 2 0),(1,.e (iP m))],[(2,.cells 91 [iP o.kind,iP o.a,iP o.b,iP o.n,iP o.cn,iP o.cd])]⟩
   (.w (o.kind=7)
    (λm1=>ae [.v 87 (.bool (aU m1))]<|.e (af [tB 87 (xR aJ:true=(decide (o.kind=7\/9<=o.kind/\o.kind<=13)))]))
    (λm1=>ae [.v 87 (.bool (aT m1))]<|.w (o.kind=9)
     (λm2=>ae [tB 89 (aU m2)]<|.e (af [tB 87 (xR aJ:true=(decide (o.kind=7\/9<=o.kind/\o.kind<=13)))]))
     (λm2=>ae [tB 89 (aT m2)]<|.w (o.kind=10)
      (λm3=>ae [tB 90 (aU m3)]<|.e (af [tB 87 (xR aJ:true=(decide (o.kind=7\/9<=o.kind/\o.kind<=13)))]))
      (λm3=>ae [tB 90 (aT m3)]<|.w (o.kind=11)
       (λm4=>ae [tB 91 (aU m4)]<|.e (af [tB 87 (xR aJ:true=(decide (o.kind=7\/9<=o.kind/\o.kind<=13)))]))
       (λm4=>ae [tB 91 (aT m4)]<|.w (o.kind=12)
        (λm5=>ae [tB 92 (aU m5)]<|.e (af [tB 87 (xR aJ:true=(decide (o.kind=7\/9<=o.kind/\o.kind<=13)))]))
        (λm5=>ae [tB 92 (aT m5)]<|.e (af [tB 87 (xR aJ:(o.kind==13)=(decide (o.kind=7\/9<=o.kind/\o.kind<=13)))])))))))]<|.w (o.kind=7\/9<=o.kind/\o.kind<=13)
     (λk4=>ae [.v 87 (.bool (a6 k4))]<|.w (C=true)
      (λk5=>ae [tB 94 k5]<|.w (o.a<m)
       (λk6=>ae [tB 99 (a6 k6)]<|.w (o.b=0)
        (λk7=>ae [tB 104 (aU k7)]<|rQ (bP (o.n==0)) (bP (mU o m)) rk)
        (λk7=>ae [tB 104 (aT k7)]<|rQ (bP false) (bP (mU o m)) rk))
       (λk6=>ae [tB 99 (a7 k6)]<|rQ (bP false) (bP (mU o m)) rk))
      (λk5=>ae [tB 94 (aV k5)]<|rQ (bP false) (bP (mU o m)) rk))
     (λk4=>ae [.v 87 (.bool (a7 k4))]<|rQ (bP false) (bP (mU o m)) rk))))
def Gr(o:oO)(m:Int)(g:o.ke):gR 59 [ajo o,iP m] (bP (mU o m)):=
 ak call59 func59 (.w (o.a<0)
  (λk1=>ae [tB 8 (a6 k1)]<|rQ (bP false) (bP (mU o m)) rk)
  (λk1=>ae [tB 8 (a7 k1)]<|.w (o.b<0)
   (λk2=>ae [tB 12 (a6 k2)]<|rQ (bP false) (bP (mU o m)) rk)
   (λk2=>ae [tB 12 (a7 k2),.g (WK g.cn g.cd rfl:oN prog .eql 89 (.agg [iP o.cn,iP o.cd]) (.agg [iP 0,iP 0]) (.bool (decide (o.cn=0/\o.cd=0))))]<|ahZ o m g (decide (o.cn=0/\o.cd=0)) rfl k1 k2))) 
def akK(s:lq)(g:s.ke)(k:Int)(h0:0<=s.ie)(h8:s.ie<=8)(l2:s.gT.length<=200):gR 61 [iP k,(.iN 3 λj_=>[iP s.ie,oh s.gT,oK s.iw].getD j_ .any)] (bP (!CC s k)):=
 ak call61 func61 (.w (k<0)
  (λk1=>ae [tB 5 (a6 k1)]<|rQ (bP true) (bP (!CC s k)) (jX (by unfold CC;rw[dz];simp_all)))
  (λk1=>ae [tB 5 (a7 k1),ik (s.ie+(s.gT.length:Int)) aC]<|rQ (bP (decide ((s.ie+(s.gT.length:Int))<=k))) (bP (!CC s k)) (jX (by unfold CC;rw[dz];simp_all)))) 
def akM(x:RI)(g:x.ke):gR 62 [xf x] (bP (!pO x)):=by
 have ga:=g.lo;have gb:=g.hi;by_cases ha:x.all=true
 .have e:pO x=false:=by unfold pO;rw[ha];simp
  rw[e];exact ak call62 func62 (af [ah 4 x.all ha]) 
 .replace ha:x.all=false:=by simpa using ha
  by_cases h1:x.lo.Ok
  .by_cases h2:x.hi.Ok
   .have v1:=h1.valid;have v2:=h2.valid;have e1:xf x=ib x.iv:=by rw[<-Nw,show x.iv.raw=x by show RI.mk x.lo.dy.raw x.hi.dy.raw x.all=x;rw[h1.eq ga,h2.eq gb]]
    rw[e1];by_cases h3:iO x.lo.dy x.hi.dy<=0
    .have e:pO x=true:=by unfold pO;rw[AU.2 (.inr ⟨ha,h1,h2,h3⟩),ha];rfl
     rw[e];exact ak call62 func62 (af [ai 4 x.iv.all ha,ag [gV x.iv.lo] (ng _ aD),ag [gV x.iv.hi] (ng _ aD),ag [gV x.iv.lo,gV x.iv.hi] (kI _ _ aD aD),tF 23 (0<(iO x.iv.lo x.iv.hi)) (by show ¬0<iO x.lo.dy x.hi.dy;omega)]) 
    .have e:pO x=false:=by unfold pO;rw[show zi x=false by simpa using λq=>(AU.1 q).elim (λq=>by rw[ha]at q;exact Bool.noConfusion q.1) λq=>h3 q.2.2.2];rfl
     rw[e];exact ak call62 func62 (af [ai 4 x.iv.all ha,ag [gV x.iv.lo] (ng _ aD),ag [gV x.iv.hi] (ng _ aD),ag [gV x.iv.lo,gV x.iv.hi] (kI _ _ aD aD),tT 23 (0<(iO x.iv.lo x.iv.hi)) (by show 0<iO x.lo.dy x.hi.dy;omega)]) 
   .have e:pO x=false:=by unfold pO;rw[show zi x=false by simpa using λq=>(AU.1 q).elim (λq=>by rw[ha]at q;exact Bool.noConfusion q.1) λq=>h2 q.2.2.1];rfl
    rw[e];exact ak call62 func62 (af [ai 4 x.all ha,ag [kN x.lo] (vE _ aD true (by simp[h1])),ag [kN x.hi] (vE _ aD false (by simp[h2]))]) 
  .have e:pO x=false:=by unfold pO;rw[show zi x=false by simpa using λq=>(AU.1 q).elim (λq=>by rw[ha]at q;exact Bool.noConfusion q.1) λq=>h1 q.2.1];rfl
   rw[e];exact ak call62 func62 (af [ai 4 x.all ha,ag [kN x.lo] (vE _ aD false (by simp[h1]))]) 
def Ov(s:lq)(h0:0<=s.ie)(h8:s.ie<=8)(l2:s.gT.length<=200)(lu:s.iw.length<=200)(g:s.ke):gR 60 [oK s.iw,.fn 61 [(.iN 3 λj_=>[iP s.ie,oh s.gT,oK s.iw].getD j_ .any)]] (bP (!zB s)):=by
 have:=afU true s.iw.length (λi _=>iP (s.iw.getD i 0)) 61 [(.iN 3 λj_=>[iP s.ie,oh s.gT,oK s.iw].getD j_ .any)] (λi=>!CC s (s.iw.getD i 0)) (λi _=>akK s g _ h0 h8 l2) (aC:s.iw.length<=1000000);rwa[Qg]at this
def WT(f:FuncId)(l:List RI)(hf:∀ i,gR f [xf (l.getD i nP)] (bP (!pO (l.getD i nP))))(hl:l.length<=1000):gR 22 [kO l,.fn f []] (bP (!((List.range l.length).all λi=>pO (l.getD i nP)))):=by
 have:=Nx true l.length (λi j=>(zw (l.getD i nP)).getD j .any) f [] (λi=>!pO (l.getD i nP)) (λi _=>hf i) (aC:l.length<=1000000);rwa[Qg]at this
def akO(s:lq)(g:s.ke)(sm:s.wD)(hc:¬(0<=s.ie/\s.ie<=8/\s.gT.length<=200/\s.iw.length<=200)):gR 24 [lX s] (bP false):=
 ak call24 func24 (.w (s.ie<0)
  (λk1=>af [tB 10 (a6 k1)])
  (λk1=>ae [tB 10 (a7 k1)]<|.w (8<s.ie)
   (λk2=>af [tB 14 (a6 k2)])
   (λk2=>ae [tB 14 (a7 k2)]<|.w (200<(s.gT.length:Int))
    (λk3=>af [tB 20 (a6 k3)])
    (λk3=>ae [tB 20 (a7 k3)]<|.w (200<(s.iw.length:Int))
     (λk4=>af [tB 26 (a6 k4)])
     (λk4=>.x aC))))) 
def akP(s:lq)(g:s.ke)(sm:s.wD)(i0:0<=s.ie)(i8:s.ie<=8)(l1:s.gT.length<=200)(l2:s.iw.length<=200)(N:Nat)(pU:N<s.gT.length)(jJ:∀ k,k<N->(mU (s.gT.getD k nV) (s.ie+(k:Int)))=true)(hN:(mU (s.gT.getD N nV) (s.ie+(N:Int)))=false):gR 24 [lX s] (bP false):=
 ak call24 func24 (af [tF 10 (s.ie<0) aC,tF 14 (8<s.ie) aC,tF 20 (200<(s.gT.length:Int)) aC,tF 26 (200<(s.iw.length:Int)) aC,.s (Sp.jH (Xu s N) 0 N aC (λx hx mw=>by
    have uM:=g.gT x;exact iB (af [tT 32 ((x:Int)<s.gT.length) aC,iX (x:Int) (s.gT.length) aC,ik (s.ie+(x:Int)) aC,.c (Gr (s.gT.getD x nV) (s.ie+(x:Int)) uM),ai 42 (!(mU (s.gT.getD x nV) (s.ie+(x:Int)))) (by rw[jJ x aC];rfl),ik ((x:Int)+1) aC]) aF)
  (λhx=>by
    have uM:=g.gT N;exact iB (af [tT 32 ((N:Int)<s.gT.length) aC,iX (N:Int) (s.gT.length) aC,ik (s.ie+(N:Int)) aC,.c (Gr (s.gT.getD N nV) (s.ie+(N:Int)) uM),ah 42 (!(mU (s.gT.getD N nV) (s.ie+(N:Int)))) (by rw[hN];rfl)]) aF) aI:jD 5 Tryz.f24 (Xu s N 0) .ret ⟨85,true,[(2,.e (bP false))],[]⟩) .nil]) 
def akQ(s:lq)(g:s.ke)(sm:s.wD)(i0:0<=s.ie)(i8:s.ie<=8)(l1:s.gT.length<=200)(l2:s.iw.length<=200)(jJ:∀ k,k<s.gT.length->(mU (s.gT.getD k nV) (s.ie+(k:Int)))=true)(hu:zB s=false):gR 24 [lX s] (bP false):=
 ak call24 func24 (af [tF 10 (s.ie<0) aC,tF 14 (8<s.ie) aC,tF 20 (200<(s.gT.length:Int)) aC,tF 26 (200<(s.iw.length:Int)) aC,.s (Sp.jH (Xv s) 0 s.gT.length aC (λx hx mw=>by
    have uM:=g.gT x;exact iB (af [tT 32 ((x:Int)<s.gT.length) aC,iX (x:Int) (s.gT.length) aC,ik (s.ie+(x:Int)) aC,.c (Gr (s.gT.getD x nV) (s.ie+(x:Int)) uM),ai 42 (!(mU (s.gT.getD x nV) (s.ie+(x:Int)))) (by rw[jJ x aC];rfl),ik ((x:Int)+1) aC]) aF)
  (λhx=>by
    exact iB (af [tF 32 ((s.gT.length:Int)<s.gT.length) aC]) aF) aI:jD 5 Tryz.f24 (Xv s 0) (.exit 0) ⟨85,true,[(3,.box 3 0),(1,.box 1 0)],[(3,.cells 25 [iP s.ie,oh s.gT,oK s.iw]),(1,.cells 28 [iP s.ie,oh s.gT,oK s.iw,iP s.iI,kO s.params])]⟩) .nil,ag [oK s.iw,.fn 61 [(.iN 3 λj_=>[iP s.ie,oh s.gT,oK s.iw].getD j_ .any)]] (Ov s aC aC aC aC g),ah 47 (!(zB s)) (by rw[hu];rfl)]) 
def akR(s:lq)(g:s.ke)(sm:s.wD)(i0:0<=s.ie)(i8:s.ie<=8)(l1:s.gT.length<=200)(l2:s.iw.length<=200)(jJ:∀ k,k<s.gT.length->(mU (s.gT.getD k nV) (s.ie+(k:Int)))=true)(hu:zB s=true)(hc:¬(1<=s.iI/\s.iI<=4/\(s.iw.length:Int)=s.iI/\s.ie=s.iI+(s.params.length:Int)/\s.params.length<=4)):gR 24 [lX s] (bP false):=by
 have sp:=sm.params;exact ak call24 func24 (ae [tF 10 (s.ie<0) aC,tF 14 (8<s.ie) aC,tF 20 (200<(s.gT.length:Int)) aC,tF 26 (200<(s.iw.length:Int)) aC,.s (Sp.jH (Xw s) 0 s.gT.length aC (λx hx mw=>by
    have uM:=g.gT x;exact iB (af [tT 32 ((x:Int)<s.gT.length) aC,iX (x:Int) (s.gT.length) aC,ik (s.ie+(x:Int)) aC,.c (Gr (s.gT.getD x nV) (s.ie+(x:Int)) uM),ai 42 (!(mU (s.gT.getD x nV) (s.ie+(x:Int)))) (by rw[jJ x aC];rfl),ik ((x:Int)+1) aC]) aF)
  (λhx=>by
    exact iB (af [tF 32 ((s.gT.length:Int)<s.gT.length) aC]) aF) aI:jD 5 Tryz.f24 (Xw s 0) (.exit 0) ⟨85,true,[(3,.box 3 0),(1,.box 1 0)],[(3,.cells 25 [iP s.ie,oh s.gT,oK s.iw]),(1,.cells 28 [iP s.ie,oh s.gT,oK s.iw,iP s.iI,kO s.params])]⟩) .nil,ag [oK s.iw,.fn 61 [(.iN 3 λj_=>[iP s.ie,oh s.gT,oK s.iw].getD j_ .any)]] (Ov s aC aC aC aC g),ai 47 (!(zB s)) (by rw[hu];rfl)]<|.w (s.iI<1)
  (λk1=>af [tB 50 (a6 k1)])
  (λk1=>ae [tB 50 (a7 k1)]<|.w (4<s.iI)
   (λk2=>af [tB 54 (a6 k2)])
   (λk2=>ae [tB 54 (a7 k2)]<|.w ((s.iw.length:Int)=s.iI)
    (λk3=>ae [tB 62 (aW k3),ik (s.iI+(s.params.length:Int)) aC]<|.w (s.ie=(s.iI+(s.params.length:Int)))
     (λk4=>ae [tB 73 (aW k4)]<|.w (4<(s.params.length:Int))
      (λk5=>af [tB 79 (a6 k5)])
      (λk5=>.x aC))
     (λk4=>af [tB 73 (aX k4)]))
    (λk3=>af [tB 62 (aX k3)])))) 
def akS(s:lq)(g:s.ke)(sm:s.wD)(i0:0<=s.ie)(i8:s.ie<=8)(l1:s.gT.length<=200)(l2:s.iw.length<=200)(jJ:∀ k,k<s.gT.length->(mU (s.gT.getD k nV) (s.ie+(k:Int)))=true)(hu:zB s=true)(s1:1<=s.iI)(s4:s.iI<=4)(e1:(s.iw.length:Int)=s.iI)(e2:s.ie=s.iI+(s.params.length:Int))(p4:s.params.length<=4):gR 24 [lX s] (bP (GI s)):=by
 have sp:=sm.params;exact ak call24 func24 (ae [tF 10 (s.ie<0) aC,tF 14 (8<s.ie) aC,tF 20 (200<(s.gT.length:Int)) aC,tF 26 (200<(s.iw.length:Int)) aC,.s (Sp.jH (Xx s) 0 s.gT.length aC (λx hx mw=>by
    have uM:=g.gT x;exact iB (af [tT 32 ((x:Int)<s.gT.length) aC,iX (x:Int) (s.gT.length) aC,ik (s.ie+(x:Int)) aC,.c (Gr (s.gT.getD x nV) (s.ie+(x:Int)) uM),ai 42 (!(mU (s.gT.getD x nV) (s.ie+(x:Int)))) (by rw[jJ x aC];rfl),ik ((x:Int)+1) aC]) aF)
  (λhx=>by
    exact iB (af [tF 32 ((s.gT.length:Int)<s.gT.length) aC]) aF) aI:jD 5 Tryz.f24 (Xx s 0) (.exit 0) ⟨85,true,[(3,.box 3 0),(1,.box 1 0)],[(3,.cells 25 [iP s.ie,oh s.gT,oK s.iw]),(1,.cells 28 [iP s.ie,oh s.gT,oK s.iw,iP s.iI,kO s.params])]⟩) .nil,ag [oK s.iw,.fn 61 [(.iN 3 λj_=>[iP s.ie,oh s.gT,oK s.iw].getD j_ .any)]] (Ov s aC aC aC aC g),ai 47 (!(zB s)) (by rw[hu];rfl),tF 50 (s.iI<1) aC,tF 54 (4<s.iI) aC,ai 62 ((s.iw.length:Int) != s.iI) (by simp[e1]),ik (s.iI+(s.params.length:Int)) aC,ai 73 (s.ie != (s.iI+(s.params.length:Int))) (by simp[e2]),tF 79 (4<(s.params.length:Int)) aC,.c (WT 62 s.params (λi=>akM _ (g.params i)) aC:gR 22 [kO s.params,.fn 62 []] _)]<|rQ (bP (!(!(GI s)))) (bP (GI s)) (jX aH)) 
def akT(s:lq)(g:s.ke)(sm:s.wD):gR 24 [lX s] (bP (rI s)):=by
 by_cases c1:0<=s.ie/\s.ie<=8/\s.gT.length<=200/\s.iw.length<=200
 rotate_left
 .rw [show rI s=false by unfold rI;rw[a7 c1];rfl];exact akO s g sm c1
 obtain⟨i0,i8,l1,l2⟩:=c1;by_cases c2:Xq s=true
 rotate_left
 .rw [show rI s=false by unfold rI;rw[aV c2];simp];obtain⟨N,n1,n2,n3⟩:=ZB c2;exact akP s g sm i0 i8 l1 l2 N n1 (λk hk=>by simpa using n3 k hk) (by simpa using n2)
 have jJ:∀ k,k<s.gT.length->mU (s.gT.getD k nV) (s.ie+(k:Int))=true:=λk hk=>bN.1 c2 k (bW.2 hk)
 cases hu:zB s with
 |false=>
  rw[show rI s=false by unfold rI;rw[hu];simp];exact akQ s g sm i0 i8 l1 l2 jJ hu
 |true=>
  by_cases c3:1<=s.iI/\s.iI<=4/\(s.iw.length:Int)=s.iI/\s.ie=s.iI+(s.params.length:Int)/\s.params.length<=4
  .rw [show rI s=GI s by unfold rI;rw[a6 (⟨i0,i8,l1,l2⟩:_/\_),c2,hu,a6 c3];simp];obtain⟨s1,s4,e1,e2,p4⟩:=c3;exact akS s g sm i0 i8 l1 l2 jJ hu s1 s4 e1 e2 p4
  .rw [show rI s=false by unfold rI;rw[a7 c3];simp];exact akR s g sm i0 i8 l1 l2 jJ hu c3
structure mu where
 method:Int
 order:Int
 jF:Int
 step:RD
 iV:Int
 jS:Int
structure mu.ke(c:mu):Prop where
 method:kP .i64 c.method
 order:kP .i64 c.order
 jF:kP .i64 c.jF
 step:c.step.ke
 iV:kP .i64 c.iV
 jS:kP .i64 c.jS
def OK(c:mu):List E:=[iP c.method,iP c.order,iP c.jF,bP c.step.neg,gW c.step.L,iP c.step.e,iP c.iV,iP c.jS]
def sk(c:mu):E:=.agg (OK c)
def W5{c:mu}(h:c.step.Ok)(g:c.step.ke):sk c = .agg [iP c.method,iP c.order,iP c.jF,bP c.step.dy.neg,gW (gS c.step.dy.m),iP c.step.dy.e,iP c.iV,iP c.jS]:=by
 have e:gS c.step.dy.m=c.step.L:=congrArg RD.L (h.eq g);rw[e];rfl
noncomputable def Om(d:RD):Bool:=@decide d.Ok (Classical.propDecidable _)
def On{d:RD}:Om d=true↔d.Ok:=@gE _ (Classical.propDecidable _)
noncomputable def jM(c:mu):Bool:=decide (1<=c.method/\c.method<=3)&&decide (1<=c.order/\c.order<=15/\8<=c.jF/\c.jF<=256/\0<=c.iV/\c.iV<=200/\1<=c.jS/\c.jS<=1000)
 && (Om c.step&&decide (0<c.step.dy.iK)&&decide (iO c.step.dy (jz 20)<=0))
def aln:(jz 20).gY:=G3 aE aE 
def Rc{c:mu}(h:¬(1<=c.method/\c.method<=3)):jM c=false:=by unfold jM;rw[a7 h];rfl
def lO{c:mu}(h:¬(1<=c.order/\c.order<=15/\8<=c.jF/\c.jF<=256/\0<=c.iV/\c.iV<=200/\1<=c.jS/\c.jS<=1000)):jM c=false:=by unfold jM;rw[a7 h,Bool.and_false];rfl
def Lt{c:mu}(h:¬c.step.Ok):jM c=false:=by
 have:Om c.step=false:=aV λq=>h (On.1 q)
 unfold jM;rw[this];simp
def Bz{c:mu}(h1:1<=c.method/\c.method<=3)(h2:1<=c.order/\c.order<=15/\8<=c.jF/\c.jF<=256/\0<=c.iV/\c.iV<=200/\1<=c.jS/\c.jS<=1000)(h3:c.step.Ok):jM c=(decide (0<c.step.dy.iK)&&decide (iO c.step.dy (jz 20)<=0)):=by
 unfold jM;rw[a6 h1,a6 h2,On.2 h3];rfl
def EL{c:mu}(h:jM c=true):(1<=c.method/\c.method<=3)/\(1<=c.order/\c.order<=15/\8<=c.jF/\c.jF<=256/\0<=c.iV/\c.iV<=200/\1<=c.jS/\c.jS<=1000)/\c.step.Ok/\0<c.step.dy.iK/\iO c.step.dy (jz 20)<=0:=by
 unfold jM at h;simp only[bF,b9,On]at h;exact⟨h.1.1,h.1.2,h.2.1.1,h.2.1.2,h.2.2⟩
def ab0(c:mu)(g:c.ke)(hd:¬c.step.Ok):gR 54 [.agg [iP c.method,iP c.order,iP c.jF,bP c.step.neg,gW c.step.L,iP c.step.e,iP c.iV,iP c.jS]] (bP (jM c)):=by
 have gs:=g.step;exact ak call54 func54 (.w (c.method=1)
  (λk1=>ae [tB 5 (aW k1)]<|.w (c.order<1)
   (λk2=>ae [tB 18 (a6 k2)]<|rQ (bP false) (bP (jM c)) (jX (lO aC).symm))
   (λk2=>ae [tB 18 (a7 k2)]<|.w (15<c.order)
    (λk3=>ae [tB 22 (a6 k3)]<|rQ (bP false) (bP (jM c)) (jX (lO aC).symm))
    (λk3=>ae [tB 22 (a7 k3)]<|.w (c.jF<8)
     (λk4=>ae [tB 27 (a6 k4)]<|rQ (bP false) (bP (jM c)) (jX (lO aC).symm))
     (λk4=>ae [tB 27 (a7 k4)]<|.w (256<c.jF)
      (λk5=>ae [tB 32 (a6 k5)]<|rQ (bP false) (bP (jM c)) (jX (lO aC).symm))
      (λk5=>ae [tB 32 (a7 k5)]<|.w (c.iV<0)
       (λk6=>ae [tB 37 (a6 k6)]<|rQ (bP false) (bP (jM c)) (jX (lO aC).symm))
       (λk6=>ae [tB 37 (a7 k6)]<|.w (200<c.iV)
        (λk7=>ae [tB 42 (a6 k7)]<|rQ (bP false) (bP (jM c)) (jX (lO aC).symm))
        (λk7=>ae [tB 42 (a7 k7)]<|.w (c.jS<1)
         (λk8=>ae [tB 47 (a6 k8)]<|rQ (bP false) (bP (jM c)) (jX (lO aC).symm))
         (λk8=>ae [tB 47 (a7 k8)]<|.w (1000<c.jS)
          (λk9=>ae [tB 52 (a6 k9)]<|rQ (bP false) (bP (jM c)) (jX (lO aC).symm))
          (λk9=>ae [tB 52 (a7 k9),ag [kN c.step] (vE _ gs false (by simp[hd]))]<|rQ (bP false) (bP (jM c)) (jX (Lt hd).symm))))))))))
  (λk1=>ae [tB 5 (aX k1)]<|.w (c.method=2)
   (λk2=>ae [tB 9 (aW k2)]<|.w (c.order<1)
    (λk3=>ae [tB 18 (a6 k3)]<|rQ (bP false) (bP (jM c)) (jX (lO aC).symm))
    (λk3=>ae [tB 18 (a7 k3)]<|.w (15<c.order)
     (λk4=>ae [tB 22 (a6 k4)]<|rQ (bP false) (bP (jM c)) (jX (lO aC).symm))
     (λk4=>ae [tB 22 (a7 k4)]<|.w (c.jF<8)
      (λk5=>ae [tB 27 (a6 k5)]<|rQ (bP false) (bP (jM c)) (jX (lO aC).symm))
      (λk5=>ae [tB 27 (a7 k5)]<|.w (256<c.jF)
       (λk6=>ae [tB 32 (a6 k6)]<|rQ (bP false) (bP (jM c)) (jX (lO aC).symm))
       (λk6=>ae [tB 32 (a7 k6)]<|.w (c.iV<0)
        (λk7=>ae [tB 37 (a6 k7)]<|rQ (bP false) (bP (jM c)) (jX (lO aC).symm))
        (λk7=>ae [tB 37 (a7 k7)]<|.w (200<c.iV)
         (λk8=>ae [tB 42 (a6 k8)]<|rQ (bP false) (bP (jM c)) (jX (lO aC).symm))
         (λk8=>ae [tB 42 (a7 k8)]<|.w (c.jS<1)
          (λk9=>ae [tB 47 (a6 k9)]<|rQ (bP false) (bP (jM c)) (jX (lO aC).symm))
          (λk9=>ae [tB 47 (a7 k9)]<|.w (1000<c.jS)
           (λk10=>ae [tB 52 (a6 k10)]<|rQ (bP false) (bP (jM c)) (jX (lO aC).symm))
           (λk10=>ae [tB 52 (a7 k10),ag [kN c.step] (vE _ gs false (by simp[hd]))]<|rQ (bP false) (bP (jM c)) (jX (Lt hd).symm))))))))))
   (λk2=>ae [tB 9 (aX k2)]<|.w (c.method=3)
    (λk3=>ae [tB 14 (aW k3)]<|.w (c.order<1)
     (λk4=>ae [tB 18 (a6 k4)]<|rQ (bP false) (bP (jM c)) (jX (lO aC).symm))
     (λk4=>ae [tB 18 (a7 k4)]<|.w (15<c.order)
      (λk5=>ae [tB 22 (a6 k5)]<|rQ (bP false) (bP (jM c)) (jX (lO aC).symm))
      (λk5=>ae [tB 22 (a7 k5)]<|.w (c.jF<8)
       (λk6=>ae [tB 27 (a6 k6)]<|rQ (bP false) (bP (jM c)) (jX (lO aC).symm))
       (λk6=>ae [tB 27 (a7 k6)]<|.w (256<c.jF)
        (λk7=>ae [tB 32 (a6 k7)]<|rQ (bP false) (bP (jM c)) (jX (lO aC).symm))
        (λk7=>ae [tB 32 (a7 k7)]<|.w (c.iV<0)
         (λk8=>ae [tB 37 (a6 k8)]<|rQ (bP false) (bP (jM c)) (jX (lO aC).symm))
         (λk8=>ae [tB 37 (a7 k8)]<|.w (200<c.iV)
          (λk9=>ae [tB 42 (a6 k9)]<|rQ (bP false) (bP (jM c)) (jX (lO aC).symm))
          (λk9=>ae [tB 42 (a7 k9)]<|.w (c.jS<1)
           (λk10=>ae [tB 47 (a6 k10)]<|rQ (bP false) (bP (jM c)) (jX (lO aC).symm))
           (λk10=>ae [tB 47 (a7 k10)]<|.w (1000<c.jS)
            (λk11=>ae [tB 52 (a6 k11)]<|rQ (bP false) (bP (jM c)) (jX (lO aC).symm))
            (λk11=>ae [tB 52 (a7 k11),ag [kN c.step] (vE _ gs false (by simp[hd]))]<|rQ (bP false) (bP (jM c)) (jX (Lt hd).symm))))))))))
    (λk3=>ae [tB 14 (aX k3)]<|rQ (bP false) (bP (jM c)) (jX (Rc aC).symm))))) 
def ab1(c:mu)(hd:c.step.Ok):gR 54 [.agg ([iP c.method,iP c.order,iP c.jF]++iu c.step.dy++[iP c.iV,iP c.jS])] (bP (jM c)):=by
 have hv:=hd.valid;have h20:=aln;exact ak call54 func54 (.w (c.method=1)
  (λk1=>ae [tB 5 (aW k1)]<|.w (c.order<1)
   (λk2=>ae [tB 18 (a6 k2)]<|rQ (bP false) (bP (jM c)) (jX (lO aC).symm))
   (λk2=>ae [tB 18 (a7 k2)]<|.w (15<c.order)
    (λk3=>ae [tB 22 (a6 k3)]<|rQ (bP false) (bP (jM c)) (jX (lO aC).symm))
    (λk3=>ae [tB 22 (a7 k3)]<|.w (c.jF<8)
     (λk4=>ae [tB 27 (a6 k4)]<|rQ (bP false) (bP (jM c)) (jX (lO aC).symm))
     (λk4=>ae [tB 27 (a7 k4)]<|.w (256<c.jF)
      (λk5=>ae [tB 32 (a6 k5)]<|rQ (bP false) (bP (jM c)) (jX (lO aC).symm))
      (λk5=>ae [tB 32 (a7 k5)]<|.w (c.iV<0)
       (λk6=>ae [tB 37 (a6 k6)]<|rQ (bP false) (bP (jM c)) (jX (lO aC).symm))
       (λk6=>ae [tB 37 (a7 k6)]<|.w (200<c.iV)
        (λk7=>ae [tB 42 (a6 k7)]<|rQ (bP false) (bP (jM c)) (jX (lO aC).symm))
        (λk7=>ae [tB 42 (a7 k7)]<|.w (c.jS<1)
         (λk8=>ae [tB 47 (a6 k8)]<|rQ (bP false) (bP (jM c)) (jX (lO aC).symm))
         (λk8=>ae [tB 47 (a7 k8)]<|.w (1000<c.jS)
          (λk9=>ae [tB 52 (a6 k9)]<|rQ (bP false) (bP (jM c)) (jX (lO aC).symm))
          (λk9=>ae [tB 52 (a7 k9),ag [gV c.step.dy] (ng _ aD),ag [gV c.step.dy] (mP _ aD)]<|.w (0<(Dy.iK c.step.dy))
           (λk10=>ae [tB 61 (a6 k10),.c (qb 20),ag [gV c.step.dy,gV (jz 20)] (kI _ _ aD aD)]<|rQ (bP (decide ((iO c.step.dy (jz 20))<=0))) (bP (jM c)) (jX (by rw[Bz ⟨aC,aC⟩ ⟨aC,aC,aC,aC,aC,aC,aC,aC⟩ hd];simp[k10])))
           (λk10=>ae [tB 61 (a7 k10)]<|rQ (bP false) (bP (jM c)) (jX (by rw[Bz ⟨aC,aC⟩ ⟨aC,aC,aC,aC,aC,aC,aC,aC⟩ hd];simp[k10]))))))))))))
  (λk1=>ae [tB 5 (aX k1)]<|.w (c.method=2)
   (λk2=>ae [tB 9 (aW k2)]<|.w (c.order<1)
    (λk3=>ae [tB 18 (a6 k3)]<|rQ (bP false) (bP (jM c)) (jX (lO aC).symm))
    (λk3=>ae [tB 18 (a7 k3)]<|.w (15<c.order)
     (λk4=>ae [tB 22 (a6 k4)]<|rQ (bP false) (bP (jM c)) (jX (lO aC).symm))
     (λk4=>ae [tB 22 (a7 k4)]<|.w (c.jF<8)
      (λk5=>ae [tB 27 (a6 k5)]<|rQ (bP false) (bP (jM c)) (jX (lO aC).symm))
      (λk5=>ae [tB 27 (a7 k5)]<|.w (256<c.jF)
       (λk6=>ae [tB 32 (a6 k6)]<|rQ (bP false) (bP (jM c)) (jX (lO aC).symm))
       (λk6=>ae [tB 32 (a7 k6)]<|.w (c.iV<0)
        (λk7=>ae [tB 37 (a6 k7)]<|rQ (bP false) (bP (jM c)) (jX (lO aC).symm))
        (λk7=>ae [tB 37 (a7 k7)]<|.w (200<c.iV)
         (λk8=>ae [tB 42 (a6 k8)]<|rQ (bP false) (bP (jM c)) (jX (lO aC).symm))
         (λk8=>ae [tB 42 (a7 k8)]<|.w (c.jS<1)
          (λk9=>ae [tB 47 (a6 k9)]<|rQ (bP false) (bP (jM c)) (jX (lO aC).symm))
          (λk9=>ae [tB 47 (a7 k9)]<|.w (1000<c.jS)
           (λk10=>ae [tB 52 (a6 k10)]<|rQ (bP false) (bP (jM c)) (jX (lO aC).symm))
           (λk10=>ae [tB 52 (a7 k10),ag [gV c.step.dy] (ng _ aD),ag [gV c.step.dy] (mP _ aD)]<|.w (0<(Dy.iK c.step.dy))
            (λk11=>ae [tB 61 (a6 k11),.c (qb 20),ag [gV c.step.dy,gV (jz 20)] (kI _ _ aD aD)]<|rQ (bP (decide ((iO c.step.dy (jz 20))<=0))) (bP (jM c)) (jX (by rw[Bz ⟨aC,aC⟩ ⟨aC,aC,aC,aC,aC,aC,aC,aC⟩ hd];simp[k11])))
            (λk11=>ae [tB 61 (a7 k11)]<|rQ (bP false) (bP (jM c)) (jX (by rw[Bz ⟨aC,aC⟩ ⟨aC,aC,aC,aC,aC,aC,aC,aC⟩ hd];simp[k11]))))))))))))
   (λk2=>ae [tB 9 (aX k2)]<|.w (c.method=3)
    (λk3=>ae [tB 14 (aW k3)]<|.w (c.order<1)
     (λk4=>ae [tB 18 (a6 k4)]<|rQ (bP false) (bP (jM c)) (jX (lO aC).symm))
     (λk4=>ae [tB 18 (a7 k4)]<|.w (15<c.order)
      (λk5=>ae [tB 22 (a6 k5)]<|rQ (bP false) (bP (jM c)) (jX (lO aC).symm))
      (λk5=>ae [tB 22 (a7 k5)]<|.w (c.jF<8)
       (λk6=>ae [tB 27 (a6 k6)]<|rQ (bP false) (bP (jM c)) (jX (lO aC).symm))
       (λk6=>ae [tB 27 (a7 k6)]<|.w (256<c.jF)
        (λk7=>ae [tB 32 (a6 k7)]<|rQ (bP false) (bP (jM c)) (jX (lO aC).symm))
        (λk7=>ae [tB 32 (a7 k7)]<|.w (c.iV<0)
         (λk8=>ae [tB 37 (a6 k8)]<|rQ (bP false) (bP (jM c)) (jX (lO aC).symm))
         (λk8=>ae [tB 37 (a7 k8)]<|.w (200<c.iV)
          (λk9=>ae [tB 42 (a6 k9)]<|rQ (bP false) (bP (jM c)) (jX (lO aC).symm))
          (λk9=>ae [tB 42 (a7 k9)]<|.w (c.jS<1)
           (λk10=>ae [tB 47 (a6 k10)]<|rQ (bP false) (bP (jM c)) (jX (lO aC).symm))
           (λk10=>ae [tB 47 (a7 k10)]<|.w (1000<c.jS)
            (λk11=>ae [tB 52 (a6 k11)]<|rQ (bP false) (bP (jM c)) (jX (lO aC).symm))
            (λk11=>ae [tB 52 (a7 k11),ag [gV c.step.dy] (ng _ aD),ag [gV c.step.dy] (mP _ aD)]<|.w (0<(Dy.iK c.step.dy))
             (λk12=>ae [tB 61 (a6 k12),.c (qb 20),ag [gV c.step.dy,gV (jz 20)] (kI _ _ aD aD)]<|rQ (bP (decide ((iO c.step.dy (jz 20))<=0))) (bP (jM c)) (jX (by rw[Bz ⟨aC,aC⟩ ⟨aC,aC,aC,aC,aC,aC,aC,aC⟩ hd];simp[k12])))
             (λk12=>ae [tB 61 (a7 k12)]<|rQ (bP false) (bP (jM c)) (jX (by rw[Bz ⟨aC,aC⟩ ⟨aC,aC,aC,aC,aC,aC,aC,aC⟩ hd];simp[k12]))))))))))))
    (λk3=>ae [tB 14 (aX k3)]<|rQ (bP false) (bP (jM c)) (jX (Rc aC).symm))))) 
def Rb(c:mu)(g:c.ke):gR 54 [sk c] (bP (jM c)):=by
 by_cases hd:c.step.Ok
 .rw [W5 hd g.step];exact ab1 c hd
 .exact ab0 c g hd
def vh(c:mu):Int:=if 2+Int.tdiv c.iV 4<c.order then 2+Int.tdiv c.iV 4 else c.order
def WR{c:mu}(h:jM c=true):1<=vh c/\vh c<=15/\vh c<=c.order:=by
 obtain⟨_,⟨q1,q2,q3,q4,q5,q6,_⟩,_⟩:=EL h;have qt:Int.tdiv c.iV 4=c.iV/4:=gn q5;unfold vh;rw[qt];split<;>omega
def Ra(c:mu)(g:c.ke)(hb:jM c=false):gR 18 [.agg [iP c.method,iP c.order,iP c.jF,bP c.step.neg,gW c.step.L,iP c.step.e,iP c.iV,iP c.jS]] (.ig [iP 0,iP 1]):=
 ak call18 func18 (af [ag [.agg [iP c.method,iP c.order,iP c.jF,bP c.step.neg,gW c.step.L,iP c.step.e,iP c.iV,iP c.jS]] (Rb c g),ah 6 (!(jM c)) (by rw[hb];rfl)]) 
def Ls(c:mu)(g:c.ke)(hb:jM c=true):gR 18 [.agg [iP c.method,iP c.order,iP c.jF,bP c.step.neg,gW c.step.L,iP c.step.e,iP c.iV,iP c.jS]] (.ig [iP (vh c),iP 0]):=by
 obtain⟨_,⟨q1,q2,q3,q4,q5,q6,_⟩,_⟩:=EL hb;have qt:Int.tdiv c.iV 4=c.iV/4:=gn q5;exact ak call18 func18 (ae [ag [.agg [iP c.method,iP c.order,iP c.jF,bP c.step.neg,gW c.step.L,iP c.step.e,iP c.iV,iP c.jS]] (Rb c g),ai 6 (!(jM c)) (by rw[hb];rfl),.a (aC:0<(4:Int)),
  ik (c.iV) aC,ik (2+(Int.tdiv c.iV 4)) aC]<|rR (.ig [iP (vh c),iP 0]) (.iM rfl:E.le (.ig [iP (if(2+(Int.tdiv c.iV 4))<c.order then(2+(Int.tdiv c.iV 4))else c.order),iP 0]) (.ig [iP (vh c),iP 0]))) 
def Lr(c:mu)(g:c.ke):gR 18 [sk c] (if jM c=true then .ig [iP (vh c),iP 0]else .ig [iP 0,iP 1]):=by
 by_cases hb:jM c=true
 .rw [aZ hb];exact Ls c g hb
 .rw [aY hb];exact Ra c g (aV hb)
def aaL(x:RI)(g:x.ke):gR 63 [xf x] (bP (!pO x)):=
 ak call63 func63 (.w (x.all=true)
  (λk1=>ae [tB 4 k1]<|rQ (bP true) (bP (!pO x)) (jX (by unfold pO;simp_all)))
  (λk1=>ae [tB 4 (aV k1),ag [xf x] (agc _ g)]<|rQ (bP (!(zi x))) (bP (!pO x)) (jX (by unfold pO;simp_all)))) 
noncomputable def tN(b:List RI):Bool:=decide (1<=b.length/\b.length<=8)&&(List.range b.length).all λi=>pO (b.getD i nP)
def aaM(b:List RI)(gb:∀ i,(b.getD i nP).ke)(Aq:b.length<=1000):gR 25 [kO b] (bP (tN b)):=
 ak call25 func25 (.w (1<=(b.length:Int))
  (λk1=>ae [tB 5 (a6 k1)]<|.w ((b.length:Int)<=8)
   (λk2=>ae [tB 9 (a6 k2),.c (WT 63 b (λi=>aaL _ (gb i)) Aq:gR 22 [kO b,.fn 63 []] _)]<|rQ (bP (!(!((List.range b.length).all λi=>pO (b.getD i nP))))) (bP (tN b)) (jX aR))
   (λk2=>ae [tB 9 (a7 k2)]<|rQ (bP false) (bP (tN b)) (jX aR)))
  (λk1=>ae [tB 5 (a7 k1)]<|rQ (bP false) (bP (tN b)) (jX aR))) 
def DR(n e:Int)(h1:n.natAbs<4294967296)(h2:-1000<=e)(h3:e<=1000):gR 19 [iP n,iP e] (gV (jW n e)):=by
 have hrg:mB (canon (Dy.neg (iS n)) (Dy.m (iS n)) ((Dy.e (iS n))+e)):=by rw[Q2];exact(Bw h1 h2 h3).range
 exact ak call19 func19 (ae [ag [iP n] (aiZ _ aC),ag [gV (iS n),iP e] (ai3 _ _ (sJ aC) aC aC hrg)]<|rQ (gV (canon (Dy.neg (iS n)) (Dy.m (iS n)) ((Dy.e (iS n))+e))) (gV (jW n e)) (by rw[Q2])) 
def R1{a b:Dy}(h1:a.neg=b.neg)(h2:a.m=b.m)(h3:a.e=b.e):a=b:=by
 cases a;cases b;simp_all
def NA:(jW 1 0).gY:=Bw aE aE aE 
def agy:(jW 13 (-1)).gY:=Bw aE aE aE 
def kz3:(jW 3 (-1)).gY:=Bw aE aE aE 
def Vp:(jW 6 0).gY:=Bw aE aE aE 
def Vo:(jW 3 (-2)).gY:=Bw aE aE aE 
def Le:mu:=⟨1,15,53,(jW 1 0).raw,30,9⟩
def aa7:Le.ke:=⟨⟨aE,aE⟩,⟨aE,aE⟩,⟨aE,aE⟩,NA.IQ,⟨aE,aE⟩,⟨aE,aE⟩⟩
def aa9:jM Le=true:=by
 rw[Bz ⟨aE,aE⟩ ⟨aE,aE,aE,aE,aE,aE,aE,aE⟩ NA.JY];show(decide (0<(jW 1 0).raw.dy.iK)&&decide (iO (jW 1 0).raw.dy (jz 20)<=0))=true;rw[Dy.OJ];decide +kernel
def aa8:gR 18 [.agg [iP 1,iP 15,iP 53,bP (jW 1 0).neg,gW (gS (jW 1 0).m),iP (jW 1 0).e,iP 30,iP 9]] (.ig [iP 9,iP 0]):=by
 have:=Lr Le aa7;rw[aZ aa9]at this;exact this
def agu:gR 15 [gV (jW 13 (-1))] (.ig [gV (jW 6 0),bP true]):=by
 have:=QY (jW 13 (-1)) agy aL;rwa[show qn (jW 13 (-1)).m (jW 13 (-1)).e=jW 6 0 from R1 aL aL aL]at this
def agt : gR 20 [gV (jW 1 0),gV (jW 3 (-1))] (.ig [gV (jW 3 (-2)),iP 0]):=by
 have v1:=NA;have v3:=kz3;have vs:(jq (canon (jW 1 0).neg (jW 1 0).m ((jW 1 0).e+1))).gY:=EO (rq _ _ _);exact ak call20 func20 (ae [ag [gV (jW 1 0)] (ng _ aD),ag [gV (jW 3 (-1))] (ng _ aD),ag [gV (jW 1 0)] (mP _ aD),ai 21 (decide ((Dy.iK (jW 1 0))<=0)) aL,ag [gV (jW 3 (-1))] (mP _ aD),ai 26 (decide ((Dy.iK (jW 3 (-1)))<=0)) aL,ag [gV (jW 3 (-1)),gV (jW 1 0)] (kI _ _ aD aD),ai 32 (decide ((iO (jW 3 (-1)) (jW 1 0))<=0)) aL,.c (Da (jW 1 0) 1 aD aC aC),ah 41 ((kp (canon (jW 1 0).neg (jW 1 0).m ((jW 1 0).e+1)))==0) aL,ag [gV (jW 3 (-1)),gV (jq (canon (jW 1 0).neg (jW 1 0).m ((jW 1 0).e+1)))] (kI _ _ aD aD),ai 46 (decide (0<=(iO (jW 3 (-1)) (jq (canon (jW 1 0).neg (jW 1 0).m ((jW 1 0).e+1)))))) aL,.c (Da (jW 3 (-1)) (-1) aD aC aC),ai 56 ((kp (canon (jW 3 (-1)).neg (jW 3 (-1)).m ((jW 3 (-1)).e+(-1)))) != 0) aL]<|rQ (.ig [gV (jq (canon (jW 3 (-1)).neg (jW 3 (-1)).m ((jW 3 (-1)).e+(-1)))),iP 0]) (.ig [gV (jW 3 (-2)),iP 0]) (by rw[show jq (canon (jW 3 (-1)).neg (jW 3 (-1)).m ((jW 3 (-1)).e+(-1)))=jW 3 (-2)from R1 aL aL aL])) 
def xQ : gR 6 [] (bP true):=
 ak call6 func6 (af [.c (DR 1 0 aE aE aE),ag [.agg ([iP 1,iP 15,iP 53]++iu (jW 1 0)++[iP 30,iP 9])] aa8,.c (DR 13 (-1) aE aE aE),ag [gV (jW 13 (-1))] agu,.c (DR 1 0 aE aE aE),.c (DR 3 (-1) aE aE aE),.c agt,ah 25 ((9:Int)==9) aE,ah 28 ((0:Int)==0) aE,.c (DR 6 0 aE aE aE),.c (Xg _ _ true ⟨λ_=>rfl,λ_=>rfl⟩ (by have:=Vp.gS;omega) (by have:=Vp.gS;omega):gR 14 [gV (jW 6 0),gV (jW 6 0)] _),ah 40 ((0:Int)==0) aE,.c (DR 3 (-2) aE aE aE),.c (Xg _ _ true ⟨λ_=>rfl,λ_=>rfl⟩ (by have:=Vo.gS;omega) (by have:=Vo.gS;omega):gR 14 [gV (jW 3 (-2)),gV (jW 3 (-2))] _)]) 
def F4(d:RD):Bool:=decide (300<d.L.length)
def CT(x:RI):Bool:=decide (10<x.lo.L.length)||decide (10<x.hi.L.length)
def EA(l:List RI):Bool:=(List.range l.length).any λi=>CT (l.getD i nP)
def mV(s:lq)(x:List RI)(c:mu):Bool:=decide (x.length<=4)&&(decide (s.gT.length<=60)&&(decide (s.params.length<=4)&&(!EA x&&(!EA s.params&&(!F4 c.step&&(decide (24<=c.jF)&&(decide (c.jF<=64)&&decide (c.step.L.length<=4))))))))
def akl{s:lq}{x:List RI}{c:mu}(h:mV s x c=true):x.length<=4/\s.wD/\24<=c.jF/\c.jF<=64/\c.step.L.length<=4:=by
 unfold mV at h;simp only[bF,b9]at h;exact⟨h.1,⟨aC,aC⟩,h.2.2.2.2.2.2.1,h.2.2.2.2.2.2.2.1,h.2.2.2.2.2.2.2.2⟩
def agr(d:RD):gR 23 [kN d] (bP (F4 d)):=
 ak call23 func23 (rQ (bP (decide (300<(d.L.length:Int)))) (bP (F4 d)) (jX (by unfold F4;rw[dz,b9,b9];omega))) 
def ags(x:RI):gR 21 [xf x] (bP (CT x)):=
 ak call21 func21 (.w (10<(x.lo.L.length:Int))
  (λk1=>ae [tB 7 (a6 k1)]<|rQ (bP true) (bP (CT x)) (jX (by unfold CT;rw[dz];simp;omega)))
  (λk1=>ae [tB 7 (a7 k1)]<|rQ (bP (decide (10<(x.hi.L.length:Int)))) (bP (CT x)) (jX (by unfold CT;rw[dz];simp;omega)))) 
def Vn(l:List RI)(hl:l.length<=1000):gR 22 [kO l,.fn 21 []] (bP (EA l)):=
 Nx true l.length (λi j=>(zw (l.getD i nP)).getD j .any) 21 [] (λi=>CT (l.getD i nP)) (λi _=>ags _) aC 
def AL(s:lq)(x:List RI)(c:mu):gR 7 [lX s,kO x,.agg [iP c.method,iP c.order,iP c.jF,bP c.step.neg,gW c.step.L,iP c.step.e,iP c.iV,iP c.jS]] (bP (mV s x c)):=
 ak call7 func7 (.w ((x.length:Int)<=4)
  (λk1=>ae [tB 10 (a6 k1)]<|.w ((s.gT.length:Int)<=60)
   (λk2=>ae [tB 16 (a6 k2)]<|.w ((s.params.length:Int)<=4)
    (λk3=>ae [tB 22 (a6 k3),ag [kO x,.fn 21 []] (Vn _ aC)]<|.w (EA x=true)
     (λk4=>ae [tB 27 k4]<|rQ (bP false) (bP (mV s x c)) (jX (by unfold mV;simp[(aC:x.length<=4),(aC:s.gT.length<=60),(aC:s.params.length<=4),k4]<;>omega)))
     (λk4=>ae [tB 27 (aV k4),ag [kO s.params,.fn 21 []] (Vn _ aC)]<|.w (EA s.params=true)
      (λk5=>ae [tB 34 k5]<|rQ (bP false) (bP (mV s x c)) (jX (by unfold mV;simp[(aC:x.length<=4),(aC:s.gT.length<=60),(aC:s.params.length<=4),k4,k5]<;>omega)))
      (λk5=>ae [tB 34 (aV k5),.c (agr c.step)]<|.w (F4 c.step=true)
       (λk6=>ae [tB 40 k6]<|rQ (bP false) (bP (mV s x c)) (jX (by unfold mV;simp[(aC:x.length<=4),(aC:s.gT.length<=60),(aC:s.params.length<=4),k4,k5,k6]<;>omega)))
       (λk6=>ae [tB 40 (aV k6)]<|.w (24<=c.jF)
        (λk7=>ae [tB 46 (a6 k7)]<|.w (c.jF<=64)
         (λk8=>ae [tB 51 (a6 k8)]<|rQ (bP (decide ((c.step.L.length:Int)<=4))) (bP (mV s x c)) (jX (by unfold mV;simp[(aC:x.length<=4),(aC:s.gT.length<=60),(aC:s.params.length<=4),k4,k5,k6,k7,k8]<;>omega)))
         (λk8=>ae [tB 51 (a7 k8)]<|rQ (bP false) (bP (mV s x c)) (jX (by unfold mV;simp[(aC:x.length<=4),(aC:s.gT.length<=60),(aC:s.params.length<=4),k4,k5,k6,k7,k8]<;>omega))))
        (λk7=>ae [tB 46 (a7 k7)]<|rQ (bP false) (bP (mV s x c)) (jX (by unfold mV;simp[(aC:x.length<=4),(aC:s.gT.length<=60),(aC:s.params.length<=4),k4,k5,k6,k7]<;>omega)))))))
    (λk3=>ae [tB 22 (a7 k3)]<|rQ (bP false) (bP (mV s x c)) (jX (by unfold mV;simp[(aC:x.length<=4),(aC:s.gT.length<=60),(aC:¬s.params.length<=4)]<;>omega))))
   (λk2=>ae [tB 16 (a7 k2)]<|rQ (bP false) (bP (mV s x c)) (jX (by unfold mV;simp[(aC:x.length<=4),(aC:¬s.gT.length<=60)]<;>omega))))
  (λk1=>ae [tB 10 (a7 k1)]<|rQ (bP false) (bP (mV s x c)) (jX (by unfold mV;simp[(aC:¬x.length<=4)]<;>omega)))) 
def ab3(s:lq)(g:s.ke)(sm:s.wD)(x:List RI)(gx:∀ i,(x.getD i nP).ke)(mF:x.length<=1000)(c:mu)(gc:c.ke)(hb:jM c=false):gR 8 [lX s,kO x,.agg [iP c.method,iP c.order,iP c.jF,bP c.step.neg,gW c.step.L,iP c.step.e,iP c.iV,iP c.jS]] (.ig [gV iq,iP 1]):=
 ak call8 func8 (af [.c (Ra c gc hb),ah 21 ((1:Int) != 0) aE,.o 39 (.e qN:aj (.agg ar) (gV iq))]) 
def ab4(s:lq)(g:s.ke)(sm:s.wD)(x:List RI)(gx:∀ i,(x.getD i nP).ke)(mF:x.length<=1000)(c:mu)(gc:c.ke)(hb:jM c=true)(hn:¬(rI s=true/\tN x=true/\(x.length:Int)=s.iI)):gR 8 [lX s,kO x,.agg [iP c.method,iP c.order,iP c.jF,bP c.step.neg,gW c.step.L,iP c.step.e,iP c.iV,iP c.jS]] (.ig [gV iq,iP 1]):=
 ak call8 func8 (ae [.c (Ls c gc hb),ai 21 ((0:Int) != 0) aE,ag [lX s] (akT _ g sm)]<|.w (rI s=true)
  (λk1=>ae [tB 24 k1,.c (aaM x gx mF)]<|.w (tN x=true)
   (λk2=>ae [tB 29 k2]<|.w ((x.length:Int)=s.iI)
    (λk3=>.x (by exact absurd ⟨aD,aD,aD⟩ hn))
    (λk3=>af [tB 37 (aX k3),.o 39 (.e qN:aj (.agg ar) (gV iq))]))
   (λk2=>af [tB 29 (aV k2),.o 39 (.e qN:aj (.agg ar) (gV iq))]))
  (λk1=>af [tB 24 (aV k1),.o 39 (.e qN:aj (.agg ar) (gV iq))])) 
def acm{s:lq}(g:s.ke)(h1:rI s=true){x:List RI}(gx:∀ i,(x.getD i nP).ke)(h2:tN x=true)(h3:(x.length:Int)=s.iI):lM s.v/\ko s.v.iI (x.map RI.iv)/\lX s=kU s.v/\kO x=gZ (x.map RI.iv):=by
 obtain⟨o1,o2⟩:=ajD g h1;unfold tN at h2;rw[bF,b9]at h2;obtain⟨_,b2⟩:=h2;have pa:∀ i,i<x.length->(x.getD i nP).Ok/\(x.getD i nP).all=false:=λi hi=>by
  have:=bN.1 b2 i (bW.2 hi);unfold pO at this;rw[bF]at this;exact⟨AU.1 this.1,by simpa using this.2⟩
 have mA:∀ i,i<x.length->(x.map RI.iv).getD i gU=(x.getD i nP).iv:=λi hi=>by simp[bd,hi]
 have s1:=o1.s1;refine⟨o1,⟨by rw[ca];show x.length=s.iI.toNat;omega,λi hi=>?_⟩,o2,?_⟩
 .have hi:i<x.length:=by simpa using hi
  rw[mA i hi];exact⟨(pa i hi).1.valid,(pa i hi).2⟩
 .rw [<-Vb];congr 1;apply fH;intro i;unfold CF;rw[cr,cr];by_cases hi:i<x.length
  .have h1:=(pa i hi).1;have g1:=gx i;rw[bt hi];rw[bd,bt hi]at h1 g1;exact congrArg some (RI.Ok.eq (x:=x[i]) h1 g1).symm
  .rw [b7 aC];rfl
def Hg(s:lq)(x:List RI)(c:mu)(d:Dy)(p k t:Nat):Prop:=
 ∃ (o:Option Int) (j0:Int) (n1 n2:Nat),gR 8 [lX s,kO x,sk c] (Im o)/\qn d.m d.e=nD j0/\(nD j0).q<=d.q/\j0<=72 /\
  Eu (λj=>qd (we s.v (x.map RI.iv) k p) (nD j) k (t:Int)) (λj=>(s6 s.v (x.map RI.iv) (nD j) p).isSome) j0 n1 n2 /\
  (∀ j,o=some j->AP s.v (x.map RI.iv) k p=true/\CY j0 n1 n2/\j=j0-n1-n2)/\(o=none->AP s.v (x.map RI.iv) k p=true->¬CY j0 n1 n2)
def Rm(s:lq)(g:s.ke)(sm:s.wD)(x:List RI)(gx:∀ i,(x.getD i nP).ke)(mF:x.length<=1000)(c:mu)(gc:c.ke)(hn:¬(jM c=true/\rI s=true/\tN x=true/\(x.length:Int)=s.iI)):gR 8 [lX s,kO x,sk c] (.ig [gV iq,iP 1]):=by
 by_cases hb:jM c=true
 .exact ab4 s g sm x gx mF c gc hb λq=>hn ⟨hb,q⟩
 .exact ab3 s g sm x gx mF c gc (aV hb)
def Rn(s:lq)(g:s.ke)(sm:s.wD)(x:List RI)(gx:∀ i,(x.getD i nP).ke)(mF:x.length<=1000)(c:mu)(gc:c.ke)(hb:jM c=true)(h1:rI s=true)(h2:tN x=true)(h3:(x.length:Int)=s.iI){p k t:Nat}(hp:c.jF=(p:Int))(hk:vh c=(k:Int))(ht:c.iV=(t:Int)):
 Hg s x c c.step.dy p k t:=by
 obtain⟨_,⟨q1,q2,q3,q4,q5,q6,q7,q8⟩,hd,hs,hc⟩:=EL hb;obtain⟨k1,k2,_⟩:=WR hb;obtain⟨o1,o2,o3,o4⟩:=acm g h1 gx h2 h3;have hO:=Ls c gc hb;have e:=W5 hd gc.step;rw[show E.agg [iP c.method,iP c.order,iP c.jF,bP c.step.neg,gW c.step.L,iP c.step.e,iP c.iV,iP c.jS]=sk c from rfl,e,hk,hp,ht]at hO;unfold Hg;rw[o3,o4,e,hp,ht];exact aa0 s.v (x.map RI.iv) c.step.dy c.method c.order c.jS p t k o1 o2 hd.valid hs aC aC aC aC hO hc
def aeO{x:List RI}(gx0:∀ y,y ∈ x->y.ke)(i:Nat):(x.getD i nP).ke:=by
 rw[bd];by_cases h:i<x.length
 .rw [bt h];exact gx0 _ (cz h)
 .rw [b7 aC];exact XA
def acd(a b:RD)(ga:a.ke)(gb:b.ke)(ha:¬a.Ok):gR 16 [kN a,kN b] (iP 0):=
 ak call16 func16 (af [ag [kN a] (vE _ ga false (by simp[ha]))]) 
def ace(a b:RD)(ga:a.ke)(gb:b.ke)(ha:a.Ok)(hb:¬b.Ok):gR 16 [kN a,kN b] (iP 0):=
 ak call16 func16 (af [ag [kN a] (vE _ ga true (by simp[ha])),ag [kN b] (vE _ gb false (by simp[hb]))]) 
def acf(a b:RD)(ga:a.ke)(gb:b.ke):∃ z:Int,gR 16 [kN a,kN b] (iP z)/\(a.Ok->b.Ok->z=iO a.dy b.dy):=by
 by_cases ha:a.Ok
 .by_cases hb:b.Ok
  .have:=kI a.dy b.dy ha.valid hb.valid;rw[<-R3 a.dy,<-R3 b.dy,ha.eq ga,hb.eq gb]at this;exact⟨_,this,λ_ _=>rfl⟩
  .exact ⟨0,ace a b ga gb ha hb,λ_ q=>absurd q hb⟩
 .exact ⟨0,acd a b ga gb ha,λq=>absurd q ha⟩
def aho(j:Int):(nD (j+1)).q=((kj j+1:Nat):Rat)*P2 (j/4):=by
 rw[JN];by_cases h:j%4=3
 .rw [show kj (j+1)=4 by unfold kj;omega,show kj j=7 by unfold kj;omega,show(j+1)/4=j/4+1 by omega,pH,show P2 1=2 by have:=ur 1;simpa using this];show((4:Nat):Rat)*(P2 (j/4)*2)=((8:Nat):Rat)*P2 (j/4);rw[show((8:Nat):Rat)=8 from rfl,show((4:Nat):Rat)=4 from rfl]
  grind
 .rw [show kj (j+1)=kj j+1 by unfold kj;omega,show(j+1)/4=j/4 by omega]
def ahP{d:Dy}(hd:d.gY)(hs:0<d.iK){j:Int}(hj:qn d.m d.e=nD j):d.q<(nD (j+1)).q:=by
 have hm:d.m≠0/\d.neg=false:=by
  rcases CN d with⟨_,h⟩|⟨_,_,h⟩|⟨h0,hn,_⟩
  .omega
  .omega
  .exact ⟨h0,hn⟩
 obtain⟨h0,hn⟩:=hm;obtain⟨neg,m,e⟩:=d;simp only at h0 hn hj;subst hn;by_cases hb:ia m<=3
 .unfold qn at hj;rw[aZ hb]at hj;rw[hj];exact NX j
 .obtain ⟨k,hk⟩:∃ k,ia m=k+3:=⟨ia m-3,aC⟩
  have xN:4<=m/2^k:=by
   have:=rK h0;rw[hk,(aC:k+3-1=2+k),bh]at this;rw[cP (bj aE)];exact this
  have ua:m/2^k<8:=by
   have:=ql m;rw[hk,(aC:k+3=3+k),bh]at this;rw[ct (bj aE)];exact this
  have im:m<(m/2^k+1)*2^k:=by
   have h1:=cB m (2^k);have h2:=bE m (bj (n:=k) (show 0<2 by decide));rw[bR,bU,bD (m/2^k)];omega
  have MJ:qn m e=nD (4*(e+(k:Int))+((m/2^k:Nat):Int)-4):=by
   unfold qn;rw[aY hb,(aC:ia m-3=k)];generalize m/2^k=q at xN ua;unfold nD;rw[show kj (4*(e+(k:Int))+(q:Int)-4)=q by unfold kj;omega,show(4*(e+(k:Int))+(q:Int)-4)/4=e+(k:Int)by omega]
  have hji:j=4*(e+(k:Int))+((m/2^k:Nat):Int)-4:=by
   rw[MJ]at hj;apply bL;intro q;rcases Int.lt_or_gt_of_ne q with q|q
   .have:=AS q;rw[hj]at this;exact absurd this gP
   .have:=AS q;rw[hj]at this;exact absurd this gP
  rw[aho,hji];generalize m/2^k=q at xN ua im;rw[show kj (4*(e+(k:Int))+(q:Int)-4)=q by unfold kj;omega,show(4*(e+(k:Int))+(q:Int)-4)/4=e+(k:Int)by omega,pF];show(m:Rat)*P2 e<((q+1:Nat):Rat)*P2 (e+(k:Int));rw[Int.add_comm,pH,ur,<-dM];refine dm ?_ (mX e)
  exact_mod_cast im
def ahn{i j:Int}(h:nD i=nD j):i=j:=by
 apply bL;intro q;rcases Int.lt_or_gt_of_ne q with q|q
 .have:=AS q;rw[h]at this;exact absurd this gP
 .have:=AS q;rw[h]at this;exact absurd this gP
def ahO{d d':Dy}(hd:d.gY)(hs:0<d.iK){j j':Int}(hj:qn d.m d.e=nD j)(qY:(nD j').q<=d'.q)(hl:d'.q<d.q):j'<=j:=by
 have h1:=ahP hd hs hj;apply bL;intro q;have h2:=NU (aC:j+1<=j');have h3:=bH h2 qY
 grind
def C4(P:Program)(t:TypeId)(a b:Int):oN P .add t (.v (.int .i64 a)) (.v (.int .i64 b)) (.int .i64 (IntKind.i64.wrap (a+b))):=λbs br w x y ox oy hx hy=>by
 obtain rfl:=ix.kz hx;obtain rfl:=ix.kz hy;refine⟨by simp only[eqGuard_at_int,Sem.run_pure],?_⟩;rw[binOp_add];simp[Op.intArith]
def nC(t more:Int):Int:=IntKind.i64.wrap (t+Int.tmod more 60)
def abZ(c:mu)(d:RD)(more:Int):mu:=⟨c.method,c.order,c.jF,d,nC c.iV more,c.jS⟩
def ak7(s:lq)(x:List RI)(c:mu)(more:Int)(e:RD)(hS:mV s x c=false):gR 5 [lX s,kO x,.agg [iP c.method,iP c.order,iP c.jF,bP c.step.neg,gW c.step.L,iP c.step.e,iP c.iV,iP c.jS],.v (.int .u8 more),kN e] (bP true):=
 ak call5 func5 (af [.c xQ,.c (AL s x c),ah 27 (!(mV s x c)) (by rw[hS];rfl),.c xQ]) 
def ak9(s:lq)(x:List RI)(c:mu)(more:Int)(e:RD)(hm:0<=more/\more<=255)(hS:mV s x c=true)(hl:e.L.length<=4)(z n m f i:Int)(hK:gR 16 [kN e,kN c.step] (iP z))(hz:z<0)(rT:gR 18 [.agg [iP c.method,iP c.order,iP c.jF,bP c.step.neg,gW c.step.L,iP c.step.e,iP c.iV,iP c.jS]] (.ig [iP n,iP f]))(qx:gR 18 [.agg [iP c.method,iP c.order,iP c.jF,bP e.neg,gW e.L,iP e.e,iP (nC c.iV more),iP c.jS]] (.ig [iP m,iP i]))(hn:¬(f=0/\i=0/\n=m)):gR 5 [lX s,kO x,.agg [iP c.method,iP c.order,iP c.jF,bP c.step.neg,gW c.step.L,iP c.step.e,iP c.iV,iP c.jS],.v (.int .u8 more),kN e] (bP true):=
 ak call5 func5 (ae [.c xQ,.c (AL s x c),ai 27 (!(mV s x c)) (by rw[hS];rfl),tF 33 (4<(e.L.length:Int)) aC,.o 40 (aq (IntKind.i64.wrap more) more (i64_in _ aC aC)),.a (aC:0<(60:Int)),.gi (C4 _ _ _ _:oN prog .add 3 (iP c.iV) (iP (Int.tmod more 60)) (.int .i64 (nC c.iV more))),ag [kN e,kN c.step] hK,tT 48 (z<0) aC,ag [.agg [iP c.method,iP c.order,iP c.jF,bP c.step.neg,gW c.step.L,iP c.step.e,iP c.iV,iP c.jS]] rT,ag [.agg [iP c.method,iP c.order,iP c.jF,bP e.neg,gW e.L,iP e.e,iP (nC c.iV more),iP c.jS]] qx]<|.w (f=0)
  (λk1=>ae [tB 62 (aW k1)]<|.w (i=0)
   (λk2=>ae [tB 65 (aW k2)]<|.w (n=m)
    (λk3=>.x (by exact absurd ⟨aC,aC,aC⟩ hn))
    (λk3=>af [tB 70 (aX k3)]))
   (λk2=>af [tB 65 (aX k2)]))
  (λk1=>af [tB 62 (aX k1)])) 
def alb(s:lq)(x:List RI)(c:mu)(more:Int)(e:RD)(hm:0<=more/\more<=255)(hS:mV s x c=true)(hl:e.L.length<=4)(z n m f i:Int)(hK:gR 16 [kN e,kN c.step] (iP z))(hz:z<0)(rT:gR 18 [.agg [iP c.method,iP c.order,iP c.jF,bP c.step.neg,gW c.step.L,iP c.step.e,iP c.iV,iP c.jS]] (.ig [iP n,iP f]))(qx:gR 18 [.agg [iP c.method,iP c.order,iP c.jF,bP e.neg,gW e.L,iP e.e,iP (nC c.iV more),iP c.jS]] (.ig [iP m,iP i]))(hf:f=0)(hi:i=0)(BY:n=m)(a b:Dy)(u v:Int)(tR:gR 8 [lX s,kO x,.agg [iP c.method,iP c.order,iP c.jF,bP c.step.neg,gW c.step.L,iP c.step.e,iP c.iV,iP c.jS]] (.ig [gV a,iP u]))(xF:gR 8 [lX s,kO x,.agg [iP c.method,iP c.order,iP c.jF,bP e.neg,gW e.L,iP e.e,iP (nC c.iV more),iP c.jS]] (.ig [gV b,iP v]))(hn:¬(u=0/\v=0)):gR 5 [lX s,kO x,.agg [iP c.method,iP c.order,iP c.jF,bP c.step.neg,gW c.step.L,iP c.step.e,iP c.iV,iP c.jS],.v (.int .u8 more),kN e] (bP true):=
 ak call5 func5 (ae [.c xQ,.c (AL s x c),ai 27 (!(mV s x c)) (by rw[hS];rfl),tF 33 (4<(e.L.length:Int)) aC,.o 40 (aq (IntKind.i64.wrap more) more (i64_in _ aC aC)),.a (aC:0<(60:Int)),.gi (C4 _ _ _ _:oN prog .add 3 (iP c.iV) (iP (Int.tmod more 60)) (.int .i64 (nC c.iV more))),ag [kN e,kN c.step] hK,tT 48 (z<0) aC,ag [.agg [iP c.method,iP c.order,iP c.jF,bP c.step.neg,gW c.step.L,iP c.step.e,iP c.iV,iP c.jS]] rT,ag [.agg [iP c.method,iP c.order,iP c.jF,bP e.neg,gW e.L,iP e.e,iP (nC c.iV more),iP c.jS]] qx,ai 62 (f != 0) (by simp[hf]),ai 65 (i != 0) (by simp[hi]),ai 70 (n != m) (by simp[BY]),ag [lX s,kO x,.agg [iP c.method,iP c.order,iP c.jF,bP c.step.neg,gW c.step.L,iP c.step.e,iP c.iV,iP c.jS]] tR,ag [lX s,kO x,.agg [iP c.method,iP c.order,iP c.jF,bP e.neg,gW e.L,iP e.e,iP (nC c.iV more),iP c.jS]] xF]<|.w (u=0)
  (λk1=>ae [tB 87 (aW k1)]<|.w (v=0)
   (λk2=>.x (by exact absurd ⟨aC,aC⟩ hn))
   (λk2=>af [tB 90 (aX k2)]))
  (λk1=>af [tB 87 (aX k1)])) 
def ald(s:lq)(x:List RI)(c:mu)(more:Int)(e:RD)(hm:0<=more/\more<=255)(hS:mV s x c=true)(hl:e.L.length<=4)(z n m f i:Int)(hK:gR 16 [kN e,kN c.step] (iP z))(hz:z<0)(rT:gR 18 [.agg [iP c.method,iP c.order,iP c.jF,bP c.step.neg,gW c.step.L,iP c.step.e,iP c.iV,iP c.jS]] (.ig [iP n,iP f]))(qx:gR 18 [.agg [iP c.method,iP c.order,iP c.jF,bP e.neg,gW e.L,iP e.e,iP (nC c.iV more),iP c.jS]] (.ig [iP m,iP i]))(hf:f=0)(hi:i=0)(BY:n=m)(a b:Dy)(tR:gR 8 [lX s,kO x,.agg [iP c.method,iP c.order,iP c.jF,bP c.step.neg,gW c.step.L,iP c.step.e,iP c.iV,iP c.jS]] (.ig [gV a,iP 0]))(xF:gR 8 [lX s,kO x,.agg [iP c.method,iP c.order,iP c.jF,bP e.neg,gW e.L,iP e.e,iP (nC c.iV more),iP c.jS]] (.ig [gV b,iP 0]))(y:Int)(hY:gR 16 [gV b,gV a] (iP y))(hy:y<=0):gR 5 [lX s,kO x,.agg [iP c.method,iP c.order,iP c.jF,bP c.step.neg,gW c.step.L,iP c.step.e,iP c.iV,iP c.jS],.v (.int .u8 more),kN e] (bP true):=
 ak call5 func5 (af [.c xQ,.c (AL s x c),ai 27 (!(mV s x c)) (by rw[hS];rfl),tF 33 (4<(e.L.length:Int)) aC,.o 40 (aq (IntKind.i64.wrap more) more (i64_in _ aC aC)),.a (aC:0<(60:Int)),.gi (C4 _ _ _ _:oN prog .add 3 (iP c.iV) (iP (Int.tmod more 60)) (.int .i64 (nC c.iV more))),ag [kN e,kN c.step] hK,tT 48 (z<0) aC,ag [.agg [iP c.method,iP c.order,iP c.jF,bP c.step.neg,gW c.step.L,iP c.step.e,iP c.iV,iP c.jS]] rT,ag [.agg [iP c.method,iP c.order,iP c.jF,bP e.neg,gW e.L,iP e.e,iP (nC c.iV more),iP c.jS]] qx,ai 62 (f != 0) (by simp[hf]),ai 65 (i != 0) (by simp[hi]),ai 70 (n != m) (by simp[BY]),ag [lX s,kO x,.agg [iP c.method,iP c.order,iP c.jF,bP c.step.neg,gW c.step.L,iP c.step.e,iP c.iV,iP c.jS]] tR,ag [lX s,kO x,.agg [iP c.method,iP c.order,iP c.jF,bP e.neg,gW e.L,iP e.e,iP (nC c.iV more),iP c.jS]] xF,ai 87 ((0:Int) != 0) aE,ai 90 ((0:Int) != 0) aE,ag [gV b,gV a] hY,tT 96 (y<=0) aC]) 
def ak8(s:lq)(x:List RI)(c:mu)(more:Int)(e:RD)(hm:0<=more/\more<=255)(hS:mV s x c=true)(hl:e.L.length<=4)(z n m f i:Int)(hK:gR 16 [kN e,kN c.step] (iP z))(hz:¬z<0)(rT:gR 18 [.agg [iP c.method,iP c.order,iP c.jF,bP c.step.neg,gW c.step.L,iP c.step.e,iP c.iV,iP c.jS]] (.ig [iP n,iP f]))(qx:gR 18 [.agg [iP c.method,iP c.order,iP c.jF,bP c.step.neg,gW c.step.L,iP c.step.e,iP (nC c.iV more),iP c.jS]] (.ig [iP m,iP i]))(hn:¬(f=0/\i=0/\n=m)):gR 5 [lX s,kO x,.agg [iP c.method,iP c.order,iP c.jF,bP c.step.neg,gW c.step.L,iP c.step.e,iP c.iV,iP c.jS],.v (.int .u8 more),kN e] (bP true):=
 ak call5 func5 (ae [.c xQ,.c (AL s x c),ai 27 (!(mV s x c)) (by rw[hS];rfl),tF 33 (4<(e.L.length:Int)) aC,.o 40 (aq (IntKind.i64.wrap more) more (i64_in _ aC aC)),.a (aC:0<(60:Int)),.gi (C4 _ _ _ _:oN prog .add 3 (iP c.iV) (iP (Int.tmod more 60)) (.int .i64 (nC c.iV more))),ag [kN e,kN c.step] hK,tF 48 (z<0) aC,ag [.agg [iP c.method,iP c.order,iP c.jF,bP c.step.neg,gW c.step.L,iP c.step.e,iP c.iV,iP c.jS]] rT,ag [.agg [iP c.method,iP c.order,iP c.jF,bP c.step.neg,gW c.step.L,iP c.step.e,iP (nC c.iV more),iP c.jS]] qx]<|.w (f=0)
  (λk1=>ae [tB 62 (aW k1)]<|.w (i=0)
   (λk2=>ae [tB 65 (aW k2)]<|.w (n=m)
    (λk3=>.x (by exact absurd ⟨aC,aC,aC⟩ hn))
    (λk3=>af [tB 70 (aX k3)]))
   (λk2=>af [tB 65 (aX k2)]))
  (λk1=>af [tB 62 (aX k1)])) 
def ala(s:lq)(x:List RI)(c:mu)(more:Int)(e:RD)(hm:0<=more/\more<=255)(hS:mV s x c=true)(hl:e.L.length<=4)(z n m f i:Int)(hK:gR 16 [kN e,kN c.step] (iP z))(hz:¬z<0)(rT:gR 18 [.agg [iP c.method,iP c.order,iP c.jF,bP c.step.neg,gW c.step.L,iP c.step.e,iP c.iV,iP c.jS]] (.ig [iP n,iP f]))(qx:gR 18 [.agg [iP c.method,iP c.order,iP c.jF,bP c.step.neg,gW c.step.L,iP c.step.e,iP (nC c.iV more),iP c.jS]] (.ig [iP m,iP i]))(hf:f=0)(hi:i=0)(BY:n=m)(a b:Dy)(u v:Int)(tR:gR 8 [lX s,kO x,.agg [iP c.method,iP c.order,iP c.jF,bP c.step.neg,gW c.step.L,iP c.step.e,iP c.iV,iP c.jS]] (.ig [gV a,iP u]))(xF:gR 8 [lX s,kO x,.agg [iP c.method,iP c.order,iP c.jF,bP c.step.neg,gW c.step.L,iP c.step.e,iP (nC c.iV more),iP c.jS]] (.ig [gV b,iP v]))(hn:¬(u=0/\v=0)):gR 5 [lX s,kO x,.agg [iP c.method,iP c.order,iP c.jF,bP c.step.neg,gW c.step.L,iP c.step.e,iP c.iV,iP c.jS],.v (.int .u8 more),kN e] (bP true):=
 ak call5 func5 (ae [.c xQ,.c (AL s x c),ai 27 (!(mV s x c)) (by rw[hS];rfl),tF 33 (4<(e.L.length:Int)) aC,.o 40 (aq (IntKind.i64.wrap more) more (i64_in _ aC aC)),.a (aC:0<(60:Int)),.gi (C4 _ _ _ _:oN prog .add 3 (iP c.iV) (iP (Int.tmod more 60)) (.int .i64 (nC c.iV more))),ag [kN e,kN c.step] hK,tF 48 (z<0) aC,ag [.agg [iP c.method,iP c.order,iP c.jF,bP c.step.neg,gW c.step.L,iP c.step.e,iP c.iV,iP c.jS]] rT,ag [.agg [iP c.method,iP c.order,iP c.jF,bP c.step.neg,gW c.step.L,iP c.step.e,iP (nC c.iV more),iP c.jS]] qx,ai 62 (f != 0) (by simp[hf]),ai 65 (i != 0) (by simp[hi]),ai 70 (n != m) (by simp[BY]),ag [lX s,kO x,.agg [iP c.method,iP c.order,iP c.jF,bP c.step.neg,gW c.step.L,iP c.step.e,iP c.iV,iP c.jS]] tR,ag [lX s,kO x,.agg [iP c.method,iP c.order,iP c.jF,bP c.step.neg,gW c.step.L,iP c.step.e,iP (nC c.iV more),iP c.jS]] xF]<|.w (u=0)
  (λk1=>ae [tB 87 (aW k1)]<|.w (v=0)
   (λk2=>.x (by exact absurd ⟨aC,aC⟩ hn))
   (λk2=>af [tB 90 (aX k2)]))
  (λk1=>af [tB 87 (aX k1)])) 
def alc(s:lq)(x:List RI)(c:mu)(more:Int)(e:RD)(hm:0<=more/\more<=255)(hS:mV s x c=true)(hl:e.L.length<=4)(z n m f i:Int)(hK:gR 16 [kN e,kN c.step] (iP z))(hz:¬z<0)(rT:gR 18 [.agg [iP c.method,iP c.order,iP c.jF,bP c.step.neg,gW c.step.L,iP c.step.e,iP c.iV,iP c.jS]] (.ig [iP n,iP f]))(qx:gR 18 [.agg [iP c.method,iP c.order,iP c.jF,bP c.step.neg,gW c.step.L,iP c.step.e,iP (nC c.iV more),iP c.jS]] (.ig [iP m,iP i]))(hf:f=0)(hi:i=0)(BY:n=m)(a b:Dy)(tR:gR 8 [lX s,kO x,.agg [iP c.method,iP c.order,iP c.jF,bP c.step.neg,gW c.step.L,iP c.step.e,iP c.iV,iP c.jS]] (.ig [gV a,iP 0]))(xF:gR 8 [lX s,kO x,.agg [iP c.method,iP c.order,iP c.jF,bP c.step.neg,gW c.step.L,iP c.step.e,iP (nC c.iV more),iP c.jS]] (.ig [gV b,iP 0]))(y:Int)(hY:gR 16 [gV b,gV a] (iP y))(hy:y<=0):gR 5 [lX s,kO x,.agg [iP c.method,iP c.order,iP c.jF,bP c.step.neg,gW c.step.L,iP c.step.e,iP c.iV,iP c.jS],.v (.int .u8 more),kN e] (bP true):=
 ak call5 func5 (af [.c xQ,.c (AL s x c),ai 27 (!(mV s x c)) (by rw[hS];rfl),tF 33 (4<(e.L.length:Int)) aC,.o 40 (aq (IntKind.i64.wrap more) more (i64_in _ aC aC)),.a (aC:0<(60:Int)),.gi (C4 _ _ _ _:oN prog .add 3 (iP c.iV) (iP (Int.tmod more 60)) (.int .i64 (nC c.iV more))),ag [kN e,kN c.step] hK,tF 48 (z<0) aC,ag [.agg [iP c.method,iP c.order,iP c.jF,bP c.step.neg,gW c.step.L,iP c.step.e,iP c.iV,iP c.jS]] rT,ag [.agg [iP c.method,iP c.order,iP c.jF,bP c.step.neg,gW c.step.L,iP c.step.e,iP (nC c.iV more),iP c.jS]] qx,ai 62 (f != 0) (by simp[hf]),ai 65 (i != 0) (by simp[hi]),ai 70 (n != m) (by simp[BY]),ag [lX s,kO x,.agg [iP c.method,iP c.order,iP c.jF,bP c.step.neg,gW c.step.L,iP c.step.e,iP c.iV,iP c.jS]] tR,ag [lX s,kO x,.agg [iP c.method,iP c.order,iP c.jF,bP c.step.neg,gW c.step.L,iP c.step.e,iP (nC c.iV more),iP c.jS]] xF,ai 87 ((0:Int) != 0) aE,ai 90 ((0:Int) != 0) aE,ag [gV b,gV a] hY,tT 96 (y<=0) aC]) 
def ale(s:lq)(x:List RI)(c:mu)(more:Int)(e:RD)(hS:mV s x c=true)(hl:¬e.L.length<=4):gR 5 [lX s,kO x,.agg [iP c.method,iP c.order,iP c.jF,bP c.step.neg,gW c.step.L,iP c.step.e,iP c.iV,iP c.jS],.v (.int .u8 more),kN e] (bP true):=
 ak call5 func5 (af [.c xQ,.c (AL s x c),ai 27 (!(mV s x c)) (by rw[hS];rfl),tT 33 (4<(e.L.length:Int)) aC,.c xQ]) 
def ak6{t more:Int}(h0:0<=t)(h2:t<=200)(hm:0<=more/\more<=255):t<=nC t more:=by
 have e:Int.tmod more 60=more%60:=am7 hm.1;unfold nC;rw[e,i64_in _ aC aC];omega
def alf{s:lq}{x:List RI}{c D:mu}{p k t t':Nat}(ht:t<=t')(hc:c.step.dy.gY)(hs:0<c.step.dy.iK)(hd:D.step=c.step\/D.step.dy.q<c.step.dy.q)
 (h1:Hg s x c c.step.dy p k t) (h2:Hg s x D D.step.dy p k t'):∃ o o',gR 8 [lX s,kO x,sk c] (Im o)/\gR 8 [lX s,kO x,sk D] (Im o')/\∀ j j',o=some j->o'=some j'->j'<=j/\(nD j).gY/\(nD j').gY:=by
 obtain⟨o,j0,n1,n2,hC,e1,e2,e3,hL,hF,_⟩:=h1;obtain⟨o',j0',m1,m2,hC',e1',e2',e3',hL',hF',_⟩:=h2;refine⟨o,o',hC,hC',λj j' hj qY=>?_⟩;obtain⟨_,f,rfl⟩:=hF j hj;obtain⟨_,f',rfl⟩:=hF' j' qY;have hle:j0'<=j0:=by
  rcases hd with h|h
  .rw [h]at e1';have:=ahn (e1.symm.trans e1');omega
  .exact ahO hc hs e1 e2' h
 refine⟨ag1 hL hL' hle (λj hf=>adV aC hf) f f',uh (by have:=f.2;omega) aC,uh (by have:=f'.2;omega) aC⟩
def agz(s:lq)(x:List RI)(c:mu)(more:Int)(e:RD)(g:s.ke)(gx0:∀ y,y ∈ x->y.ke)(gc:c.ke)(hm:kP .u8 more)(ge:e.ke):gR 5 [lX s,kO x,sk c,.v (.int .u8 more),kN e] (bP true):=by
 have gx:=aeO gx0;have hm:0<=more/\more<=255:=hm;by_cases hS:mV s x c=true
 rotate_left
 .exact ak7 s x c more e (aV hS)
 by_cases hl:e.L.length<=4
 rotate_left
 .exact ale s x c more e hS hl
 obtain⟨mF,sm,r1,r2,_⟩:=akl hS;have mF:x.length<=1000:= aC ;obtain⟨z,hK,hz⟩:=acf e c.step ge gc.step;have gw:kP .i64 (nC c.iV more):=by
  show -9223372036854775808<=nC c.iV more/\nC c.iV more<=9223372036854775807;unfold nC;rw[IntKind.wrap_i64];omega
 obtain⟨D,hD⟩:∃ D,D=abZ c (if z<0 then e else c.step) more:=⟨_,rfl⟩
 have gD:D.ke:=by
  rw[hD];exact⟨gc.method,gc.order,gc.jF,by show RD.ke (if z<0 then e else c.step);split;exact ge;exact gc.step,gw,gc.jS⟩
 obtain⟨n,f,rT,hOc⟩:∃ n f:Int,gR 18 [sk c] (.ig [iP n,iP f])/\(f=0->jM c=true/\n=vh c):=by
  have:=Lr c gc;by_cases hb:jM c=true
  .rw [aZ hb]at this;exact⟨_,_,this,λ_=>⟨hb,rfl⟩⟩
  .rw [aY hb]at this;exact⟨_,_,this,λq=>by cases q⟩
 obtain⟨m,i,qx,hOd⟩:∃ m i:Int,gR 18 [sk D] (.ig [iP m,iP i])/\(i=0->jM D=true/\m=vh D):=by
  have:=Lr D gD;by_cases hb:jM D=true
  .rw [aZ hb]at this;exact⟨_,_,this,λ_=>⟨hb,rfl⟩⟩
  .rw [aY hb]at this;exact⟨_,_,this,λq=>by cases q⟩
 have key:f=0/\i=0/\n=m->(∃ (a b:Dy) (u v:Int),¬(u=0/\v=0)/\gR 8 [lX s,kO x,sk c] (.ig [gV a,iP u])/\gR 8 [lX s,kO x,sk D] (.ig [gV b,iP v])) \/
  ∃ j j':Int,j'<=j/\(nD j).gY/\(nD j').gY/\gR 8 [lX s,kO x,sk c] (.ig [gV (nD j),iP 0])/\gR 8 [lX s,kO x,sk D] (.ig [gV (nD j'),iP 0]):=λ⟨q1,q2,q3⟩=>by
  obtain⟨hb,hn⟩:=hOc q1;obtain⟨nh,tX⟩:=hOd q2;by_cases hv:rI s=true/\tN x=true/\(x.length:Int)=s.iI
  rotate_left
  .exact .inl ⟨_,_,_,_,aE,Rm s g sm x gx mF c gc (λq=>hv q.2),Rm s g sm x gx mF D gD (λq=>hv q.2)⟩
  obtain⟨h1,h2,h3⟩:=hv;obtain⟨_,⟨_,_,p1,p2,t1,t2,_,_⟩,hd,hs,hc⟩:=EL hb;obtain⟨_,⟨_,_,_,_,t1',_,_,_⟩,As,ot,_⟩:=EL nh;obtain⟨k1,k2,_⟩:=WR hb;obtain⟨p,hp⟩:=en (aC:0<=c.jF);obtain⟨k,hk⟩:=en (aC:0<=vh c);obtain⟨t,ht⟩:=en t1;obtain⟨t',DI⟩:=en t1';have c1:=Rn s g sm x gx mF c gc hb h1 h2 h3 hp hk ht;have c2:=Rn s g sm x gx mF D gD nh h1 h2 h3 (show D.jF=(p:Int)by rw[hD];exact hp) (aC:vh D=(k:Int)) DI;have pL:t<=t':=by
   have:=ak6 t1 t2 hm;have e:D.iV=nC c.iV more:=by rw[hD];rfl
   omega
  have hdd:D.step=c.step\/D.step.dy.q<c.step.dy.q:=by
   by_cases uR:z<0
   .have e:D.step=e:=by rw[hD];exact aZ uR
    rw[e]at As ⊢;have:=hz As hd;rw[this,W2]at uR;exact .inr uR
   .exact .inl (by rw[hD];exact aY uR)
  obtain⟨o,o',w1,w2,w3⟩:=alf pL hd.valid hs hdd c1 c2;cases o with
  |none=>
   cases o' with
   |none=>exact .inl ⟨_,_,_,_,aE,w1,w2⟩
   |some j'=>exact .inl ⟨_,_,_,_,aE,w1,w2⟩
  |some j=>
   cases o' with
   |none=>exact .inl ⟨_,_,_,_,aE,w1,w2⟩
   |some j'=>
    obtain⟨v1,v2,v3⟩:=w3 j j' rfl rfl;exact .inr ⟨j,j',v1,v2,v3,w1,w2⟩
 by_cases uR:z<0
 .rw [aZ uR]at hD;subst hD;by_cases hn:f=0/\i=0/\n=m
  .rcases key hn with⟨a,b,u,v,M8,y1,y2⟩|⟨j,j',hj,v1,v2,y1,y2⟩
   .exact alb s x c more e hm hS hl z n m f i hK uR rT qx hn.1 hn.2.1 hn.2.2 a b u v y1 y2 M8
   .exact ald s x c more e hm hS hl z n m f i hK uR rT qx hn.1 hn.2.1 hn.2.2 _ _ y1 y2 _ (kI _ _ v2 v1) (Wd.2 hj)
  .exact ak9 s x c more e hm hS hl z n m f i hK uR rT qx hn
 .rw [aY uR]at hD;subst hD;by_cases hn:f=0/\i=0/\n=m
  .rcases key hn with⟨a,b,u,v,M8,y1,y2⟩|⟨j,j',hj,v1,v2,y1,y2⟩
   .exact ala s x c more e hm hS hl z n m f i hK uR rT qx hn.1 hn.2.1 hn.2.2 a b u v y1 y2 M8
   .exact alc s x c more e hm hS hl z n m f i hK uR rT qx hn.1 hn.2.1 hn.2.2 _ _ y1 y2 _ (kI _ _ v2 v1) (Wd.2 hj)
  .exact ak8 s x c more e hm hS hl z n m f i hK uR rT qx hn
open Go.ChangeShapes Go.WideShapes Go.ChangeAt
def aiK{W:World}{x:RD}{cs:Array Value}(h:PO W x cs.toList):ix mq mq W (kN x) (.agg cs):=by
 obtain⟨_,hl,h⟩:=h;have:=ix.agg (bs:=mq) (br:=mq) (w:=W) (OM x) cs.toList (by rw[hl];rfl) (λi p v h1 h2=>by
  have hi:i<3:=by have:=(bY.1 h2).1;omega
  obtain⟨v',h3,h4⟩:=h i hi;rw[h2]at h3;cases h3;rw[bd,h1]at h4;exact h4)
 unfold kN;exact this
def KV(W:World)(o:oO)(cs:List Value):Prop:=o.ke/\cs.length=6/\∀ j,j<6->∃ v,cs[j]? = some v/\ix mq mq W ((zz o).getD j .any) v
def agP{α:Type}{l:List α}(h:l.length=2):∃ a b,l=[a,b]:=by
 rcases l with _|⟨a,_|⟨b,_|⟨c,l⟩⟩⟩<;>simp at h
 exact⟨a,b,rfl⟩
def agQ{α:Type}{l:List α}(h:l.length=5):∃ a b c d e,l=[a,b,c,d,e]:=by
 rcases l with _|⟨a,_|⟨b,_|⟨c,_|⟨d,_|⟨e,_|⟨f,l⟩⟩⟩⟩⟩⟩<;>simp at h
 exact⟨a,b,c,d,e,rfl⟩
def agR{α:Type}{l:List α}(h:l.length=6):∃ a b c d e f,l=[a,b,c,d,e,f]:=by
 rcases l with _|⟨a,_|⟨b,_|⟨c,_|⟨d,_|⟨e,_|⟨f,_|⟨g,l⟩⟩⟩⟩⟩⟩⟩<;>simp at h
 exact⟨a,b,c,d,e,f,rfl⟩
section
variable {H:Type} {enc:TypeId×Value->H} {W:World} {fuel:Nat} {cs:List Value} {x:DataW H×List MemPlace}
def vf(h:DataW.trod enc prog W 0 (λ_=>true) true fuel 3 cs=some x):∃ z,cs=[.int .i64 z]/\kP .i64 z:=by
 obtain⟨z,hz,_,hw⟩:=DataW.trod_int underlying3 h;exact⟨z,hz,PG hw⟩
def ah7(h:DataW.trod enc prog W 0 (λ_=>true) true fuel 89 cs=some x):∃ n d,cs=[.int .i64 n,.int .i64 d]/\kP .i64 n/\kP .i64 d:=by
 obtain⟨xs,n,rfl,rfl,hl,mF,hf⟩:=DataW.trod_struct underlying89 h;have hC:prog.cellsOf 89=2:= aF ;have hI:prog.cellsOf 3=1:= aF ;rw[hC]at hl;obtain⟨c0,c1,rfl⟩:=agP hl;have h0:=hf 0 _ rfl;have h1:=hf 1 _ rfl;simp only[eu,ev,dC]at h0 h1;simp only[hI,ew,ey,dU,ez]at h0 h1;rw[bt (by rw[mF];decide)]at h0 h1;obtain⟨z0,e0,w0⟩:=vf h0;obtain⟨z1,e1,w1⟩:=vf h1;simp at e0 e1;subst e0 e1;exact⟨z0,z1,rfl,w0,w1⟩
def ah9(h:DataW.trod enc prog W 0 (λ_=>true) true fuel 91 cs=some x):∃ o,KV W o cs:=by
 obtain⟨xs,n,rfl,rfl,hl,mF,hf⟩:=DataW.trod_struct underlying91 h;have hC:prog.cellsOf 91=6:= aF ;have hR:prog.cellsOf 89=2:= aF ;have hI:prog.cellsOf 3=1:= aF ;rw[hC]at hl;obtain⟨c0,c1,c2,c3,c4,c5,rfl⟩:=agR hl;have h0:=hf 0 _ rfl;have h1:=hf 1 _ rfl;have h2:=hf 2 _ rfl;have h3:=hf 3 _ rfl;have h4:=hf 4 _ rfl;simp only[eu,ev,dC]at h0 h1 h2 h3 h4;simp only[hI,hR,ew,ey,dU,ez]at h0 h1 h2 h3 h4;rw[bt (by rw[mF];decide)]at h0 h1 h2 h3 h4;obtain⟨z0,e0,w0⟩:=vf h0;obtain⟨z1,e1,w1⟩:=vf h1;obtain⟨z2,e2,w2⟩:=vf h2;obtain⟨z3,e3,w3⟩:=vf h3;obtain⟨z4,z5,e4,w4,w5⟩:=ah7 h4;simp at e0 e1 e2 e3 e4;obtain⟨e4,e5⟩:=e4;subst e0 e1 e2 e3 e4 e5;refine⟨⟨z0,z1,z2,z3,z4,z5⟩,⟨w0,w1,w2,w3,w4,w5⟩,rfl,λj hj=>?_⟩;rcases j with _|_|_|_|_|_|j
 all_goals first|exact⟨_,rfl,.v _⟩|omega
def ajm(o:oO)(j:Nat)(hj:j<6):((zz o).getD j .any).one=true/\(((zz o).getD j .any).mS=true)/\((zz o).getD j .any).nr 2=true:=by
 rcases j with _|_|_|_|_|_|j
 all_goals first|exact⟨rfl,rfl,rfl⟩|omega
def aia(h:DataW.trod enc prog W 0 (λ_=>true) true fuel 22 cs=some x):
  ∃ l v,cs=[v]/\(∀ y,y ∈ l->y.ke)/\ix mq mq W (oh l) v:=by
 have hC:prog.cellsOf 91=6:= aF ;rcases Deep.open_slice underlying22 h with⟨rfl,_⟩|⟨a,len,cap,m,n,D,Pl,rfl,hb,hl,hm,sD,rfl,hx⟩
 .exact ⟨[],_,rfl,(λy hy=>by cases hy),.sl true 0 6 _ none 0 (λ_ _=>.bool false) (bc _) aE (λ_=>rfl) (λi j hi=>absurd hi (bn i)) (λi j hi=>absurd hi (bn i)) (λi j hi=>absurd hi (bn i)) (λi j hi=>absurd hi (bn i))⟩
 .simp only[bw]at sD;subst sD;have ex:∀ i,∃ y:oO,i<len->∃ cs',W.cells? 0 (a.add (i*6)) 6=some cs'/\KV W y cs':=by
   intro i;by_cases hi:i<len
   .obtain ⟨cs',h1,h2⟩:=hx i aC ;rw[hC]at h1;obtain⟨y,hy⟩:=ah9 h2;exact⟨y,λ_=>⟨cs',h1,hy⟩⟩
   .exact ⟨nV,λh=>absurd h hi⟩
  let X:Nat->oO:=λi=>Classical.choose (ex i)
  have hX:∀ i,i<len->∃ cs',W.cells? 0 (a.add (i*6)) 6=some cs'/\KV W (X i) cs':=λi=>cK (ex i)
  have hlen:((List.range len).map X).length=len:= aH ;refine⟨(List.range len).map X,_,rfl,?_,?_⟩
  .intro y hy;obtain⟨i,hi,rfl⟩:=dh.1 hy;obtain⟨cs',_,h2⟩:=hX i (bW.1 hi);exact h2.1
  .have BR:∀ i,i<len->((List.range len).map X).getD i nV=X i:=by
    intro i hi;rw[bd,cr,am4 hi];rfl
   have:=OU (W:=W) (a:=a) (len:=len) (cap:=m) (nl:=true) (λi j=>(zz (((List.range len).map X).getD i nV)).getD j .any) hl hm (show 0<6 by decide)
    (λi j _ hj=>let⟨h1,h2,h3⟩:=ajm (((List.range len).map X).getD i nV) j hj;⟨h1,λ_=>h2,h3⟩)
    (λi hi=>by
     obtain⟨cs',h1,h2,_,h3⟩:=hX i hi;exact⟨cs',h1,λj hj=>by rw[BR i hi];exact h3 j hj⟩)
   unfold oh;rw[hlen];exact this
def ajk:nV.ke:=by constructor<;>(show kP .i64 0;unfold kP;decide)
def L8{α:Type}{P:α->Prop}{l:List α}{d:α}(h:∀ y,y ∈ l->P y)(hd:P d)(i:Nat):P (l.getD i d):=by
 by_cases hi:i<l.length
 .rw [bd,bt hi];exact h _ (cz hi)
 .rw [bd,b7 aC];exact hd
def PQ(W:World)(s:lq)(cs:List Value):Prop:=s.ke/\cs.length=5/\∀ j,j<5->∃ v,cs[j]? = some v/\ix mq mq W ((O7 s).getD j .any) v
def aic(h:DataW.trod enc prog W 0 (λ_=>true) true fuel 25 cs=some x):
 ∃ (n:Int) (gT:List oO) (iw:List Int) (v w:Value),cs=[.int .i64 n,v,w]/\kP .i64 n/\(∀ y,y ∈ gT->y.ke)/\(∀ z,z ∈ iw->kP .i64 z)/\ix mq mq W (oh gT) v/\ix mq mq W (oK iw) w:=by
 obtain⟨xs,n,rfl,rfl,hl,mF,hf⟩:=DataW.trod_struct underlying25 h;have hC:prog.cellsOf 25=3:= aF ;have hI:prog.cellsOf 3=1:= aF ;have hO:prog.cellsOf 22=1:= aF ;have hU:prog.cellsOf 23=1:= aF ;rw[hC]at hl;obtain⟨c0,c1,c2,rfl⟩:=VC hl;have h0:=hf 0 _ rfl;have h1:=hf 1 _ rfl;have h2:=hf 2 _ rfl;simp only[eu,ev,dC]at h0 h1 h2;simp only[hI,hO,hU,ew,ey,dU,ez]at h0 h1 h2;rw[bt (by rw[mF];decide)]at h0 h1 h2;obtain⟨z0,e0,w0⟩:=vf h0;obtain⟨gT,v,e1,g1,r1⟩:=aia h1;obtain⟨iw,w,e2,g2,r2⟩:=ah5 (k:=.i64) (λ_=>rfl) underlying23 underlying3 hI h2;simp at e0 e1 e2;subst e0 e1 e2;exact⟨z0,gT,iw,_,_,rfl,w0,g1,g2,r1,r2⟩
def aib(h:DataW.trod enc prog W 0 (λ_=>true) true fuel 28 cs=some x)(im:∀ p ∈ x.2,p.block<W.heap.size):∃ s,PQ W s cs:=by
 obtain⟨xs,n,rfl,rfl,hl,mF,hf⟩:=DataW.trod_struct underlying28 h;have hC:prog.cellsOf 28=5:= aF ;have hT:prog.cellsOf 25=3:= aF ;have hI:prog.cellsOf 3=1:= aF ;have hP:prog.cellsOf 26=1:= aF ;rw[hC]at hl;obtain⟨c0,c1,c2,c3,c4,rfl⟩:=agQ hl;have h0:=hf 0 _ rfl;have h1:=hf 1 _ rfl;have h2:=hf 2 _ rfl;simp only[eu,ev,dC]at h0 h1 h2;simp only[hT,hI,hP,ew,ey,dU,ez]at h0 h1 h2;rw[bt (by rw[mF];decide)]at h0 h1 h2;obtain⟨z0,gT,iw,v,w,e0,w0,g1,g2,r1,r2⟩:=aic h0;obtain⟨z1,e1,w1⟩:=vf h1;obtain⟨ps,u,e2,g3,r3⟩:=WN h2 (λp hp=>im p (dG.2 ⟨_,cz _,hp⟩));simp at e0 e1 e2;obtain⟨e0,e0b,e0c⟩:=e0;subst e0 e0b e0c e1 e2;refine⟨⟨z0,gT,iw,z1,ps⟩,⟨w0,L8 g1 ajk,L8 g2 (by unfold kP;decide),w1,L8 g3 XA⟩,rfl,λj hj=>?_⟩;rcases j with _|_|_|_|_|j
 .exact ⟨_,rfl,.v _⟩
 .exact ⟨_,rfl,r1⟩
 .exact ⟨_,rfl,r2⟩
 .exact ⟨_,rfl,.v _⟩
 .exact ⟨_,rfl,r3⟩
 .omega
end
def akU{W:World}{x:lq}{cs:Array Value}(h:PQ W x cs.toList):ix mq mq W (lX x) (.agg cs):=by
 obtain⟨_,hl,h⟩:=h;have:=ix.agg (bs:=mq) (br:=mq) (w:=W) (O7 x) cs.toList (by rw[hl];rfl) (λi p v h1 h2=>by
  have hi:i<5:=by have:=(bY.1 h2).1;omega
  obtain⟨v',h3,h4⟩:=h i hi;rw[h2]at h3;cases h3;rw[bd,h1]at h4;exact h4)
 unfold lX;exact this
def agT{α:Type}{l:List α}(h:l.length=8):∃ a b c d e f g i,l=[a,b,c,d,e,f,g,i]:=by
 rcases l with _|⟨a,_|⟨b,_|⟨c,_|⟨d,_|⟨e,_|⟨f,_|⟨g,_|⟨i,_|⟨j,l⟩⟩⟩⟩⟩⟩⟩⟩⟩<;>simp at h
 exact⟨a,b,c,d,e,f,g,i,rfl⟩
def PN(W:World)(c:mu)(cs:List Value):Prop:=c.ke/\cs.length=8/\∀ j,j<8->∃ v,cs[j]? = some v/\ix mq mq W ((OK c).getD j .any) v
def ah3{H:Type}{enc:TypeId×Value->H}{W:World}{fuel:Nat}{cs:List Value}{x:DataW H×List MemPlace}(h:DataW.trod enc prog W 0 (λ_=>true) true fuel 33 cs=some x)(im:∀ p ∈ x.2,p.block<W.heap.size):∃ c,PN W c cs:=by
 obtain⟨xs,n,rfl,rfl,hl,mF,hf⟩:=DataW.trod_struct underlying33 h;have hC:prog.cellsOf 33=8:= aF ;have hT:prog.cellsOf 31=3:= aF ;have hI:prog.cellsOf 3=1:= aF ;rw[hC]at hl;obtain⟨c0,c1,c2,c3,c4,c5,c6,c7,rfl⟩:=agT hl;have h0:=hf 0 _ rfl;have h1:=hf 1 _ rfl;have h2:=hf 2 _ rfl;have h3:=hf 3 _ rfl;have h4:=hf 4 _ rfl;have h5:=hf 5 _ rfl;simp only[eu,ev,dC]at h0 h1 h2 h3 h4 h5;simp only[hT,hI,ew,ey,dU,ez]at h0 h1 h2 h3 h4 h5;rw[bt (by rw[mF];decide)]at h0 h1 h2 h3 h4 h5;obtain⟨z0,e0,w0⟩:=vf h0;obtain⟨z1,e1,w1⟩:=vf h1;obtain⟨z2,e2,w2⟩:=vf h2;obtain⟨d,gd,ld,hd⟩:=J1 h3 (λp hp=>im p (dG.2 ⟨_,cz _,hp⟩));obtain⟨z4,e4,w4⟩:=vf h4;obtain⟨z5,e5,w5⟩:=vf h5;simp at e0 e1 e2 e4 e5;subst e0 e1 e2 e4 e5;refine⟨⟨z0,z1,z2,d,z4,z5⟩,⟨w0,w1,w2,gd,w4,w5⟩,rfl,λj hj=>?_⟩;rcases j with _|_|_|_|_|_|_|_|j
 .exact ⟨_,rfl,.v _⟩
 .exact ⟨_,rfl,.v _⟩
 .exact ⟨_,rfl,.v _⟩
 .exact hd 0 aE 
 .exact hd 1 aE 
 .exact hd 2 aE 
 .exact ⟨_,rfl,.v _⟩
 .exact ⟨_,rfl,.v _⟩
 .omega
def ab2{W:World}{x:mu}{cs:Array Value}(h:PN W x cs.toList):ix mq mq W (sk x) (.agg cs):=by
 obtain⟨_,hl,h⟩:=h;have:=ix.agg (bs:=mq) (br:=mq) (w:=W) (OK x) cs.toList (by rw[hl];rfl) (λi p v h1 h2=>by
  have hi:i<8:=by have:=(bY.1 h2).1;omega
  obtain⟨v',h3,h4⟩:=h i hi;rw[h2]at h3;cases h3;rw[bd,h1]at h4;exact h4)
 unfold sk;exact this
def adA:Value:=.agg #[.bool false,.slice none 0 0,.int .i64 0]
def adB{H:Type}:DataW H:=.agg [.lit (.bool false),.nil,.lit (.int .i64 0)]
def ady:Value:=.agg #[.int .i64 0,.int .i64 0,.int .i64 0,.bool false,.slice none 0 0,.int .i64 0,.int .i64 0,.int .i64 0]
def adz{H:Type}:DataW H:=.agg [.lit (.int .i64 0),.lit (.int .i64 0),.lit (.int .i64 0),.agg [.lit (.bool false),.nil,.lit (.int .i64 0)],.lit (.int .i64 0),.lit (.int .i64 0)]
def adC:Value:=.agg #[.int .i64 0,.slice none 0 0,.slice none 0 0,.int .i64 0,.slice none 0 0]
def adD{H:Type}:DataW H:=.agg [.agg [.lit (.int .i64 0),.nil,.nil],.lit (.int .i64 0),.nil]
def BB:Array Value:=#[adC,.slice none 0 0,ady,.int .u8 0,adA]
set_option maxRecDepth 100000 in
def acn(H:Type)(enc:TypeId×Value->H)(W:World)(base:Nat)(args:Array Value)(ds gs:List (DataW H))(before:List MemPlace)
 (kE:∀ (j:Nat) t v,Tryz.f5.params[j]? = some t->args[j]? = some v->Value.okWide prog W .any base t v)
 (hW:DataW.Whole enc prog Tryz.f5.params.toList Rows.controlToleranceSpec.vars false W args.toList ds gs before) (hL:laidMetH prog Rows.controlToleranceRow.laid W):
 Calls prog 5 args W λe W'=>∃ v,e = .returned v/\Rows.controlToleranceSpec.post enc prog Tryz.f5 false true false false W args v W':=by
 have Fo:=hW;obtain⟨p,q,uH,hV,rfl,hfz,hnd⟩:=hW;have hA:DataW.TrodAll enc prog W 0 (λ_=>true) true Tryz.f5.params.toList args.toList ds p:=uH;rw[Tryz.params5]at hA kE;obtain⟨v0,vs0,d0,ds0,p0,q0,DL,rfl,rfl,h0,uH⟩:=trodAll_cons hA;obtain⟨v1,vs1,d1,ds1,p1,q1,rfl,rfl,rfl,h1,sy⟩:=trodAll_cons uH;obtain⟨v2,vs2,d2,ds2,p2,q2,rfl,rfl,rfl,h2,yF⟩:=trodAll_cons sy;obtain⟨v3,vs3,d3,ds3,p3,q3,rfl,rfl,rfl,h3,hA3⟩:=trodAll_cons yF;obtain⟨v4,vs4,d4,ds4,p4,q4,rfl,rfl,rfl,h4,hA4⟩:=trodAll_cons hA3;obtain⟨rfl,rfl,rfl⟩:=trodAll_nil hA4;obtain rfl:args = #[v0,v1,v2,v3,v4]:=by cases args;simp_all
 obtain⟨rfl,rfl⟩:=trodVars_none hV;obtain⟨cs0,rfl,amz⟩:=okWide_struct underlying28 (kE 0 28 v0 rfl rfl);obtain⟨a1,len1,cap1,rfl⟩:=okWide_slice underlying26 (kE 1 26 v1 rfl rfl);obtain⟨cs2,rfl,amA⟩:=okWide_struct underlying33 (kE 2 33 v2 rfl rfl);obtain⟨x3,rfl,rfl,rfl,b3⟩:=open_int underlying5 (kE 3 5 v3 rfl rfl) h3;obtain⟨cs4,rfl,amB⟩:=okWide_struct underlying31 (kE 4 31 v4 rfl rfl);have h0k:=h0;obtain⟨fuel0,hf0⟩:=h0;have h1k:=h1;obtain⟨fuel1,MD⟩:=h1;have h2k:=h2;obtain⟨fuel2,ME⟩:=h2;have h4k:=h4;obtain⟨fuel4,hf4⟩:=h4;clear uH;have DA:∀ x ∈ p0,x.block<W.heap.size:=λx hx=>Fo.lt x (by simp[hx])
 have BU:∀ x ∈ p1,x.block<W.heap.size:=λx hx=>Fo.lt x (by simp[hx])
 have Je:∀ x ∈ p2,x.block<W.heap.size:=λx hx=>Fo.lt x (by simp[hx])
 have Ud:∀ x ∈ p4,x.block<W.heap.size:=λx hx=>Fo.lt x (by simp[hx])
 obtain⟨x0,g0⟩:=aib hf0 DA;obtain⟨x1,w1,FN,g1,r1⟩:=WN MD BU;obtain rfl:Value.slice a1 len1 cap1=w1:=by
  have:(Value.slice a1 len1 cap1).cells.toList=[Value.slice a1 len1 cap1]:=rfl;rw[this]at FN;simpa using FN
 obtain⟨x2,g2⟩:=ah3 ME Je;obtain⟨x4,g4⟩:=J1 hf4 Ud;have kC:=(agz x0 x1 x2 x3 x4 g0.1 g1 g2.1 (PG b3) g4.1).run W mq [.agg cs0,.slice a1 len1 cap1,.agg cs2,.int .u8 x3,.agg cs4] (ak3 rfl hL) (λ_ h=>h.elim) (.cons (akU (cs:=cs0) g0) (.cons r1 (.cons (ab2 (cs:=cs2) g2) (.cons (.v _) (.cons (aiK (cs:=cs4) g4) (.nil _ _ _))))));refine kC.mono λr W' ⟨v,hr,hb,rF⟩=>?_
 obtain rfl:=ix.kz rF;subst hr;refine⟨_,rfl,_,_,_,[],p0++(p1++(p2++([]++(p4)))),[],Fo,?_,?_,rfl,hb.frame _,λh=>by cases h⟩
 .exact trodAll_mk1 (shut_bool underlying4 _)
 .exact ⟨p0,_,Below.trod FZ aF (cC aF) h0k hb DA,⟨p1,_,Below.trod FZ aF (cC aF) h1k hb BU,⟨p2,_,Below.trod FZ aF (cC aF) h2k hb Je,⟨[],_,Below.trod FZ aF (cC aF) h3 hb (λ_ h=>by cases h),trodAll_mk1 (Below.trod FZ aF (cC aF) h4k hb Ud),rfl⟩,rfl⟩,rfl⟩,rfl⟩
def acq(os:Os):laidMet prog Rows.controlToleranceRow.laid ((NB os BB).forCall (λ_ _=>0) ⟨#[],BB,[]⟩).memory:=
 laidMet_of_run' 8 aF aF 
def acs(os:Os){H:Type}(enc:TypeId×Value->H):∃ places,DataW.whole enc prog ((NB os BB).forCall (λ_ _=>0) ⟨#[],BB,[]⟩).memory Tryz.f5.params.toList Rows.controlToleranceSpec.vars false BB.toList 8=some ([adD,.nil,adz,.lit (.int .u8 0),adB],[],places):=
 ⟨[],aF⟩
set_option maxRecDepth 100000 in
def acp(os:Os)(started:os.Started)(H:Type)(enc:TypeId×Value->H)(F:Stop.Interp):
  ReturnsInHanded {} Tryz.checked os 5 .any ((OpenSpec.ofChange Rows.controlToleranceSpec).preRow enc prog Tryz.f5 Rows.controlToleranceRow.domain false Rows.controlToleranceRow.laid) (((OpenSpec.ofChange Rows.controlToleranceSpec).at F).post enc prog Tryz.f5 false true false false):=by
 obtain⟨places,hx⟩:=acs os enc;refine returnsInHanded_of_row (C:=Tryz.checked) (s:=OpenSpec.ofChange Rows.controlToleranceSpec) own started aF func5
  (witness_row_at (enc:=enc) (C:=Tryz.checked) false (NB os BB) BB rfl aF aF aF 
   (OpenSpec.preRow_of_cond 8 hx aF (λk hk=>by cases hk) aF (acq os))) ?_
 intro W base args ds gs before kE hW _ _ _ hL _ _;exact acn H enc W base args ds gs before kE hW hL
set_option maxHeartbeats 100000000 in
def aco:joinedFacts prog 5 Tryz.f5 (OpenSpec.ofChange Rows.controlToleranceSpec).bare Rows.controlToleranceRow=true:=by
 unfold joinedFacts;simp only[bF]
 and_intros<;>decide +kernel
def acu:Rows.ControlToleranceSaid:=
 OpenClaim.holds_of_cond 5 Tryz.f5 rfl rfl rfl rfl rfl rfl rfl ⟨rfl,rfl,rfl,rfl,rfl⟩ rfl rfl rfl rfl rfl aF func5 aco
  (cC aF) (by unfold Func.isWrapper;first|(rw[aZ aL];kernel_rfl)|(rw[aY aL];exact⟨rfl,rfl⟩))
  (λos started H enc _ F=>by rw[OpenClaim.pre_eq_preRow];exact acp os started H enc F)
def acr (f:FuncId) (fn:Func) (hf:Tryz.pinned.checked.prog.funcNamed "flowpipe/flowpipelaw30.ControlTolerance" = some f) (hfn:Tryz.pinned.checked.prog.funcs[f]? = some fn):
 false=Tryz.pinned.checked.prog.looks []/\∀ (j:Nat) t,fn.params[j]? = some t->Tryz.pinned.checked.prog.wantsStandIn t=false:=by
 obtain rfl:f=5:=amV ((show prog.funcNamed "flowpipe/flowpipelaw30.ControlTolerance" = some 5 by kernel_rfl).symm.trans hf) |>.symm
 obtain rfl:fn=Tryz.f5:=(amV (func5.symm.trans hfn)).symm;refine⟨aF,λj t ht=>?_⟩;rw[Tryz.params5]at ht;have:t=28\/t=26\/t=33\/t=5\/t=31:=by
  have:=dH ht;simp only[gl,cV,List.not_mem_nil,or_false]at this;rcases this with h|h|h|h|h<;>subst h<;>simp
 rcases this with rfl|rfl|rfl|rfl|rfl
 .exact (show prog.wantsStandIn 28=false by kernel_rfl)
 .exact (show prog.wantsStandIn 26=false by kernel_rfl)
 .exact (show prog.wantsStandIn 33=false by kernel_rfl)
 .exact (show prog.wantsStandIn 5=false by kernel_rfl)
 .exact (show prog.wantsStandIn 31=false by kernel_rfl)
theorem ctol_card:Rows.ControlToleranceCardSaid:=
 Claim7.holds_tied_plain_at .later [] _ _ _ _ acu (λ_ h=>by cases h) aF (λ_ h=>by cases h) controlTolerance_row_tie rfl ⟨rfl,rfl⟩ aF rfl acr (aeN adZ rfl)
end Go.Proofs.YtkdddbdjilcofaaGreatDoor
