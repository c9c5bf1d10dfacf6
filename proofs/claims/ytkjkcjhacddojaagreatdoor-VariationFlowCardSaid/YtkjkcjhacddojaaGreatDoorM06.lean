/- The law VariationFlow is true for all arguments: Flow and Divergence return the specified results of a rational system, or the specified errors. -/
import Derived.Test.YtkjkcjhacddojaaGreatDoorM05
set_option linter.unusedSimpArgs false
set_option linter.unusedVariables false
set_option linter.defProp false
set_option maxHeartbeats 4000000
open Go.Proofs.Tryz
namespace Go.Proofs.YtkjkcjhacddojaaGreatDoor
open Go.RowKit Fp Pu
noncomputable def Wb(t:lS)(xs:List Iv)(p:Nat)(x:Nat):PS:=⟨75,true,[(26,.e (iP x)),(25,.e (iP t.gI.length)),(24,.e (mM t.gI)),(7,.own 22),(2,.e (iP p))],[(22,.row true 46 ((iC t.gI xs p x).length) 7 (ja (iC t.gI xs p x)))]⟩
def PB(t:lS)(l:List Iv)(i p:Nat)(x:Nat):PS:=⟨95,true,[(10,.own 10),(20,.e (iP x)),(19,.e (iP t.gP)),(9,.e (.mp AM)),(4,.box 4 0),(1,.e (ic l)),(2,.e (iP i)),(3,.e (iP p))],[(10,.row true 46 ((kX t.gP i x).length) 7 (ja (kX t.gP i x))),(4,.cells 25 [iP t.gP,mM t.gI,mL t.gN])]⟩
noncomputable def PD(t:lS)(l:List Iv)(i p:Nat)(x:Nat):PS:=⟨95,true,[(36,.e (iP x)),(35,.e (iP t.gI.length)),(34,.e (mM t.gI)),(10,.own 10),(9,.e (.mp AM)),(4,.box 4 0),(1,.e (ic l)),(3,.e (iP p))],[(10,.row true 46 ((iV t l i p x).length) 7 (ja (iV t l i p x))),(4,.cells 25 [iP t.gP,mM t.gI,mL t.gN])]⟩
noncomputable def PH(t:lS)(xs:List Iv)(p m:Nat)(x:Nat):PS:=⟨91,true,[(43,.e (iP x)),(42,.e (iP m)),(11,.own 41),(10,.e (ic (iC t.gI xs p t.gI.length))),(4,.box 4 0),(3,.e (iP p))],[(41,.iH true 26 46 t.gN.length 7 (iS (jT t.gN.length (kN t xs p) x 0)) (jH (jT t.gN.length (kN t xs p) x 0)) .none),(4,.cells 25 [iP t.gP,mM t.gI,mL t.gN])]⟩
noncomputable def PI(t:lS)(xs:List Iv)(p m x:Nat)(k:Nat):PS:=⟨91,true,[(54,.e (iP k)),(53,.e (iP t.gN.length)),(52,.e (mL t.gN)),(13,.e (ic (iV t (iC t.gI xs p t.gI.length) x p t.gI.length))),(43,.e (iP x)),(42,.e (iP m)),(11,.own 41),(10,.e (ic (iC t.gI xs p t.gI.length))),(4,.box 4 0),(3,.e (iP p))],[(41,.iH true 26 46 t.gN.length 7 (iS (jT t.gN.length (kN t xs p) x k)) (jH (jT t.gN.length (kN t xs p) x k)) .none),(4,.cells 25 [iP t.gP,mM t.gI,mL t.gN])]⟩
noncomputable def PJ(t:lS)(xs:List Iv)(p m:Nat)(x:Nat):PS:=⟨91,true,[(16,.own 16),(77,.e (iP x)),(76,.e (iP t.gN.length)),(75,.e (mL t.gN)),(11,.own 41),(10,.e (ic (iC t.gI xs p t.gI.length)))],[(16,.row true 46 x 7 (ja ((List.range x).map (λj_=>(iC t.gI xs p t.gI.length).getD (t.gN.getD j_ 0) gL)))),(41,.iH true 26 46 t.gN.length 7 (iS (jT t.gN.length (kN t xs p) m 0)) (jH (jT t.gN.length (kN t xs p) m 0)) .none)]⟩
noncomputable def Oy(s:lX)(b:List Iv)(p:Nat)(x:Nat):PS:=⟨45,true,[(11,.e (iP ((x+1:Nat):Int))),(10,.box 10 0),(8,.e (gV (lU s b p))),(6,.box 6 0),(2,.e (iP p))],[(10,.cells 46 (iA (rK (lU s b p) p x))),(6,.cells 46 ar)]⟩
def M5(o:kq)(x y:Iv)(p:Nat)(hx:x.gQ)(hy:y.gQ)(r1:3<=o.kind)(r2:o.kind<=8)(r3:o.n<=16)(ie:8<=p)(gS:p<=512):gJ 289 [iP o.kind,iP o.n,gR x,gR y,iP p] (gR (ld o x y p)):=
 aj call289 func289 (.w ((o.kind:Int)=3)
  (λk1=>aa [tB 13 (a8 k1),.c (xr x y p aE aE aD aD)]<|rQ (gR (jx x y p)) (gR (ld o x y p)) (by unfold ld;simp[(aD:o.kind=3)]))
  (λk1=>aa [tB 13 (a7 k1)]<|.w ((o.kind:Int)=4)
   (λk2=>aa [tB 19 (a8 k2),.c (Dw x y p aE aE aD aD)]<|rQ (gR (je x y p)) (gR (ld o x y p)) (by unfold ld;simp[(aD:¬o.kind=3),(aD:o.kind=4)]))
   (λk2=>aa [tB 19 (a7 k2)]<|.w ((o.kind:Int)=5)
    (λk3=>aa [tB 25 (a8 k3),.c (rC x y p aE aE aD aD)]<|rQ (gR (ia x y p)) (gR (ld o x y p)) (by unfold ld;simp[(aD:¬o.kind=3),(aD:¬o.kind=4),(aD:o.kind=5)]))
    (λk3=>aa [tB 25 (a7 k3)]<|.w ((o.kind:Int)=6)
     (λk4=>aa [tB 31 (a8 k4),.c (wb x y p aE aE aD aD)]<|rQ (gR (ik x y p)) (gR (ld o x y p)) (by unfold ld;simp[(aD:¬o.kind=3),(aD:¬o.kind=4),(aD:¬o.kind=5),(aD:o.kind=6)]))
     (λk4=>aa [tB 31 (a7 k4)]<|.w ((o.kind:Int)=7)
      (λk5=>aa [tB 37 (a8 k5),.c (KT x aE)]<|rQ (gR (oC x)) (gR (ld o x y p)) (by unfold ld;simp[(aD:¬o.kind=3),(aD:¬o.kind=4),(aD:¬o.kind=5),(aD:¬o.kind=6),(aD:o.kind=7)]))
      (λk5=>aa [tB 37 (a7 k5)]<|.w ((o.kind:Int)=8)
       (λk6=>aa [tB 41 (a8 k6),af [gR x,iP o.n,iP p] (Nk _ _ _ aE aD aD aD)]<|rQ (gR (lp x o.n p)) (gR (ld o x y p)) (by unfold ld;simp[(aD:¬o.kind=3),(aD:¬o.kind=4),(aD:¬o.kind=5),(aD:¬o.kind=6),(aD:¬o.kind=7),(aD:o.kind=8)]))
       (λk6=>.x aD))))))) 
def aiw(t:lS)(xs:List Iv)(p:Nat)(h:uQ t)(h1:1<=xs.length)(hx:xs.length=t.gP)(hv:oO xs)(hr:po t)(ie:8<=p)(gS:p<=512):gJ 237 [tE t,ic xs,iP p] (ic (iC t.gI xs p t.gI.length)):=by
 have h8:=h.gP;have xk:=h.gI;exact aj call237 func237 (ae [.c (Wd t aE),ah 19 ((xs.length:Int) != (t.gP:Int)) (pK hx),.cn (Xi _ aD aD:EN 63 [ic xs] true 46 xs.length 7 (ja xs)),.s (Sp.iG (Wb t xs p) 0 t.gI.length aD (λx hx jf=>by
    have im:=h.op x aD;have th:=AP t.gI hv (aD:1<=p) (aD:p<=4096) x;have zL:=wM t.gI xs p x;have w1:=th (t.gI.getD x ig).a;by_cases kx:((t.gI.getD x ig)).kind=1
    .have qe:((t.gI.getD x ig)).kind=1:=kx;obtain⟨o1,o2,o3,Bz⟩:=im.num qe;have nG:qv (t.gI.getD x ig) (iC t.gI xs p x) p=(ni (t.gI.getD x ig).cn (t.gI.getD x ig).cd p):=by unfold qv;rw[bj qe]
     have qC:=nu (ni (t.gI.getD x ig).cn (t.gI.getD x ig).cd p);exact gX (aa [tT 27 ((x:Int)<t.gI.length) aD,iX (x:Int) (t.gI.length) aD,.c (Tg ((t.gI.getD x ig).kind:Nat) aD),ag 50 ((0:Int)==0) aF,.c (af0 ((t.gI.getD x ig).cn) ((t.gI.getD x ig).cd) p aE aD aD),.o 71 (.e (lD _):ai (.sl true 1 7 λi_ j_=>(iA (ni ((t.gI.getD x ig).cn) ((t.gI.getD x ig).cd) p)).getD (i_*7+j_) (.v (.bool false))) (ic [ni ((t.gI.getD x ig).cn) ((t.gI.getD x ig).cd) p])),.a (aD:((iC t.gI xs p x).length+[ni ((t.gI.getD x ig).cn) ((t.gI.getD x ig).cd) p].length)*88<=140737488355328),gW ((x:Int)+1) aD]<|.e (ae [.b 22 (ED rfl rfl nG:Bx.le (.row true 46 ((iC t.gI xs p x).length+[ni ((t.gI.getD x ig).cn) ((t.gI.getD x ig).cd) p].length) 7 (λi_ j_=>if i_<(iC t.gI xs p x).length then(ja (iC t.gI xs p x)) i_ j_ else(E.ke (ic [ni ((t.gI.getD x ig).cn) ((t.gI.getD x ig).cd) p])) (i_-(iC t.gI xs p x).length) j_)) (.row true 46 ((iC t.gI xs p (x+1)).length) 7 (ja (iC t.gI xs p (x+1)))))])) aG 
    .by_cases hk:((t.gI.getD x ig)).kind<=6
     .have xg:((t.gI.getD x ig)).kind≠1:=kx;have qe:((t.gI.getD x ig)).kind<=6:=hk;have nG:qv (t.gI.getD x ig) (iC t.gI xs p x) p=(ld (t.gI.getD x ig) ((iC t.gI xs p x).getD ((t.gI.getD x ig).a) gL) ((iC t.gI xs p x).getD ((t.gI.getD x ig).b) gL) p):=by unfold qv EW;rw[bh xg,bk qe];rfl
      obtain⟨o1,o2,o3,o4,o5,o6⟩:=im.IS xg qe;have w2:=th (t.gI.getD x ig).b;have o7:=hr x;have qC:=nu (ld (t.gI.getD x ig) ((iC t.gI xs p x).getD ((t.gI.getD x ig).a) gL) ((iC t.gI xs p x).getD ((t.gI.getD x ig).b) gL) p);exact gX (aa [tT 27 ((x:Int)<t.gI.length) aD,iX (x:Int) (t.gI.length) aD,.c (Th ((t.gI.getD x ig).kind:Nat) aD aD),ah 50 ((2:Int)==0) aF,ah 56 ((2:Int)==1) aF,iX ((t.gI.getD x ig).a:Int) ((iC t.gI xs p x).length) aD,.a (aD:(t.gI.getD x ig).a<(iC t.gI xs p x).length),
       iX ((t.gI.getD x ig).b:Int) ((iC t.gI xs p x).length) aD,.a (aD:(t.gI.getD x ig).b<(iC t.gI xs p x).length),af [iP ((t.gI.getD x ig).kind:Int),iP ((t.gI.getD x ig).n:Int),gR ((iC t.gI xs p x).getD (t.gI.getD x ig).a gL),gR ((iC t.gI xs p x).getD (t.gI.getD x ig).b gL),iP p] (M5 (t.gI.getD x ig) _ _ _ aE aE aD aD aD aD aD),.o 71 (.e (lD _):ai (.sl true 1 7 λi_ j_=>(iA (ld (t.gI.getD x ig) ((iC t.gI xs p x).getD (t.gI.getD x ig).a gL) ((iC t.gI xs p x).getD (t.gI.getD x ig).b gL) p)).getD (i_*7+j_) (.v (.bool false))) (ic [ld (t.gI.getD x ig) ((iC t.gI xs p x).getD (t.gI.getD x ig).a gL) ((iC t.gI xs p x).getD (t.gI.getD x ig).b gL) p])),.a (aD:((iC t.gI xs p x).length+[ld (t.gI.getD x ig) ((iC t.gI xs p x).getD (t.gI.getD x ig).a gL) ((iC t.gI xs p x).getD (t.gI.getD x ig).b gL) p].length)*88<=140737488355328),
       gW ((x:Int)+1) aD]<|.e (ae [.b 22 (ED rfl rfl nG:Bx.le (.row true 46 ((iC t.gI xs p x).length+[ld (t.gI.getD x ig) ((iC t.gI xs p x).getD (t.gI.getD x ig).a gL) ((iC t.gI xs p x).getD (t.gI.getD x ig).b gL) p].length) 7 (λi_ j_=>if i_<(iC t.gI xs p x).length then(ja (iC t.gI xs p x)) i_ j_ else(E.ke (ic [ld (t.gI.getD x ig) ((iC t.gI xs p x).getD (t.gI.getD x ig).a gL) ((iC t.gI xs p x).getD (t.gI.getD x ig).b gL) p])) (i_-(iC t.gI xs p x).length) j_)) (.row true 46 ((iC t.gI xs p (x+1)).length) 7 (ja (iC t.gI xs p (x+1)))))])) aG 
     .have xg:((t.gI.getD x ig)).kind≠1:=kx;have qe:¬((t.gI.getD x ig)).kind<=6:=hk;have nG:qv (t.gI.getD x ig) (iC t.gI xs p x) p=(ld (t.gI.getD x ig) ((iC t.gI xs p x).getD ((t.gI.getD x ig).a) gL) gL p):=by unfold qv EW;rw[bh xg,bl qe];rfl
      have w2:=nj;have o2:=im.CC xg;have o7:=hr x;have o8:=GY im;have qC:=nu (ld (t.gI.getD x ig) ((iC t.gI xs p x).getD ((t.gI.getD x ig).a) gL) gL p);exact gX (aa [tT 27 ((x:Int)<t.gI.length) aD,iX (x:Int) (t.gI.length) aD,.c (LC ((t.gI.getD x ig).kind:Nat) aD aD),ah 50 ((1:Int)==0) aF,ag 56 ((1:Int)==1) aF,iX ((t.gI.getD x ig).a:Int) ((iC t.gI xs p x).length) aD,.a (aD:(t.gI.getD x ig).a<(iC t.gI xs p x).length),.o 66 (.e xR:ai (.agg [bP false,.v (.slice none 0 0),iP 0,bP false,.v (.slice none 0 0),iP 0,bP true]) (gR gL)),af [iP ((t.gI.getD x ig).kind:Int),iP ((t.gI.getD x ig).n:Int),gR ((iC t.gI xs p x).getD (t.gI.getD x ig).a gL),gR gL,iP p] (M5 (t.gI.getD x ig) _ _ _ aE aE aD aD aD aD aD),.o 71 (.e (lD _):ai (.sl true 1 7 λi_ j_=>(iA (ld (t.gI.getD x ig) ((iC t.gI xs p x).getD (t.gI.getD x ig).a gL) gL p)).getD (i_*7+j_) (.v (.bool false))) (ic [ld (t.gI.getD x ig) ((iC t.gI xs p x).getD (t.gI.getD x ig).a gL) gL p])),.a (aD:((iC t.gI xs p x).length+[ld (t.gI.getD x ig) ((iC t.gI xs p x).getD (t.gI.getD x ig).a gL) gL p].length)*88<=140737488355328),gW ((x:Int)+1) aD]<|.e (ae [.b 22 (ED rfl rfl nG:Bx.le (.row true 46 ((iC t.gI xs p x).length+[ld (t.gI.getD x ig) ((iC t.gI xs p x).getD (t.gI.getD x ig).a gL) gL p].length) 7 (λi_ j_=>if i_<(iC t.gI xs p x).length then(ja (iC t.gI xs p x)) i_ j_ else(E.ke (ic [ld (t.gI.getD x ig) ((iC t.gI xs p x).getD (t.gI.getD x ig).a gL) gL p])) (i_-(iC t.gI xs p x).length) j_)) (.row true 46 ((iC t.gI xs p (x+1)).length) 7 (ja (iC t.gI xs p (x+1)))))])) aG)
  (λhx=>by
    exact gX (aa [tF 27 ((t.gI.length:Int)<t.gI.length) aD,.z 22]<|.e (ae [.o 7 (.e (sC aJ):ai (.sl true ((iC t.gI xs p t.gI.length).length) 7 (ja (iC t.gI xs p t.gI.length))) (ic (iC t.gI xs p t.gI.length)))])) aG) aK:iF 5 f237 (Wb t xs p 0) (.exit 0) ⟨75,true,[(7,.e (ic (iC t.gI xs p t.gI.length)))],[]⟩) (ae [.b 22 (.iD rfl:Bx.le (.row true 46 xs.length 7 (ja xs)) (.row true 46 ((iC t.gI xs p 0).length) 7 (ja (iC t.gI xs p 0))))])]) 
def ahj(o:kq)(v a b da db:Iv)(p:Nat)(hv:v.gQ)(ha:a.gQ)(hb:b.gQ)(hd:da.gQ)(he:db.gQ)(ie:8<=p)(gS:p<=512)(hn:o.n<=16)(h1:3<=o.kind)(h2:o.kind<=8):gJ (AL o.kind) (xB o v a b da db p::AK o.kind) (gR (nY o v a b da db p)):=by
 have:o.kind=3\/o.kind=4\/o.kind=5\/o.kind=6\/o.kind=7\/o.kind=8:= aD ;rcases this with h|h|h|h|h|h
 .rw [h];unfold nY;rw[bh aD,bj h];exact ahc o v a b da db p hv ha hb hd he ie gS
 .rw [h];unfold nY;rw[bh aD,bh aD,bj h];exact ahd o v a b da db p hv ha hb hd he ie gS
 .rw [h];unfold nY;rw[bh aD,bh aD,bh aD,bj h];exact ahe o v a b da db p hv ha hb hd he ie gS
 .rw [h];unfold nY;rw[bh aD,bh aD,bh aD,bh aD,bj h];exact ahf o v a b da db p hv ha hb hd he ie gS
 .rw [h];unfold nY;rw[bh aD,bh aD,bh aD,bh aD,bh aD,bj h];exact ahg o v a b da db p hv ha hb hd he ie gS
 .rw [h];unfold nY;rw[bh aD,bh aD,bh aD,bh aD,bh aD,bh aD,bj h];by_cases h0:o.n=0
  .rw [bj h0];exact ahh o v a b da db p hv ha hb hd he ie gS h0
  .rw [bh h0];exact ahi o v a b da db p hv ha hb hd he ie gS h0 hn
def Yq(t:lS)(l:List Iv)(i p:Nat)(h:uQ t)(hr:po t)(h1:1<=t.gP)(hl:l.length=t.gP+t.gI.length)(hv:oO l)(ie:8<=p)(gS:p<=512):gJ 238 [tE t,ic l,iP i,iP p] (ic (iV t l i p t.gI.length)):=by
 have h8:=h.gP;have xk:=h.gI;exact aj call238 func238 (ae [af [] ahl,.y 10 10 true 46 7 (ja (kX t.gP i 0)),.s (Sp.iG (PB t l i p) 0 t.gP aD (λx hx jf=>by
    have zL:=Ik t.gP i x;exact gX (aa [tT 21 ((x:Int)<t.gP) aD,.c (CW 0 aD)]<|.w (x=i)
     (λzK=>by
      have nG:(if x=i then gY 1 else gY 0)=gY 1:=by rw[bj zK]
      have qC:=nu (gY 1);exact aa [ag 26 ((x:Int)==i) (a8 aD),.c (CW 1 aD),.o 30 (.e (lD _):ai (.sl true 1 7 λi_ j_=>(iA (gY 1)).getD (i_*7+j_) (.v (.bool false))) (ic [gY 1])),.a (aD:((kX t.gP i x).length+[gY 1].length)*88<=140737488355328),
       gW ((x:Int)+1) aD]<|.e (ae [.b 10 (Il rfl rfl nG:Bx.le (.row true 46 ((kX t.gP i x).length+[gY 1].length) 7 (λi_ j_=>if i_<(kX t.gP i x).length then(ja (kX t.gP i x)) i_ j_ else(E.ke (ic [gY 1])) (i_-(kX t.gP i x).length) j_)) (.row true 46 ((kX t.gP i (x+1)).length) 7 (ja (kX t.gP i (x+1)))))]))
     (λzK=>by
      have nG:(if x=i then gY 1 else gY 0)=gY 0:=by rw[bh zK]
      have qC:=nu (gY 0);exact aa [ah 26 ((x:Int)==i) (a7 aD),.o 30 (.e (lD _):ai (.sl true 1 7 λi_ j_=>(iA (gY 0)).getD (i_*7+j_) (.v (.bool false))) (ic [gY 0])),.a (aD:((kX t.gP i x).length+[gY 0].length)*88<=140737488355328),gW ((x:Int)+1) aD]<|.e (ae [.b 10 (Il rfl rfl nG:Bx.le (.row true 46 ((kX t.gP i x).length+[gY 0].length) 7 (λi_ j_=>if i_<(kX t.gP i x).length then(ja (kX t.gP i x)) i_ j_ else(E.ke (ic [gY 0])) (i_-(kX t.gP i x).length) j_)) (.row true 46 ((kX t.gP i (x+1)).length) 7 (ja (kX t.gP i (x+1)))))]))) aG)
  (λhx=>by
    exact gX (ae [tF 21 ((t.gP:Int)<t.gP) aD]) aG) aK:iF 4 f238 (PB t l i p 0) (.exit 0) ⟨95,true,[(10,.own 10),(9,.e (.mp AM)),(4,.box 4 0),(1,.e (ic l)),(3,.e (iP p))],[(10,.row true 46 ((kX t.gP i t.gP).length) 7 (ja (kX t.gP i t.gP))),(4,.cells 25 [iP t.gP,mM t.gI,mL t.gN])]⟩) (ae [.b 10 (.iD rfl:Bx.le (.row true 46 0 7 (ja (kX t.gP i 0))) (.row true 46 ((kX t.gP i 0).length) 7 (ja (kX t.gP i 0))))]),.s (Sp.iG (PD t l i p) 0 t.gI.length aD (λx hx jf=>by
    have im:=h.op x aD;have zL:=CI t l i p x;have Bk:=CJ t hv i (aD:1<=p) (aD:p<=4096) x;have QI:=im.k3;by_cases kx:(t.gI.getD x ig).kind=1
    .by_cases Dp:(l.getD (t.gP+x) gL).all=true
     .have mC:=Dp;have nG:rk (t.gI.getD x ig) (l.getD (t.gP+x) gL) l (iV t l i p x) p=gL:=by unfold rk;rw[bj mC]
      have qC:=nu gL;exact gX (aa [tT 37 ((x:Int)<t.gI.length) aD,iX (x:Int) (t.gI.length) aD,gW ((t.gP:Int)+x) aD,iX ((t.gP+x:Nat):Int) (l.length) aD,ah 53 (((t.gI.getD x ig).kind:Int) != 1) (bd aD),.o 78 (.e xR:ai (.agg [bP false,.v (.slice none 0 0),iP 0,bP false,.v (.slice none 0 0),iP 0,bP true]) (gR gL)),ag 81 ((l.getD (t.gP+x) gL).all) mC,.o 91 (.e (lD _):ai (.sl true 1 7 λi_ j_=>(iA gL).getD (i_*7+j_) (.v (.bool false))) (ic [gL])),.a (aD:((iV t l i p x).length+[gL].length)*88<=140737488355328),
       gW ((x:Int)+1) aD]<|.e (ae [.b 10 (A7 rfl rfl nG:Bx.le (.row true 46 ((iV t l i p x).length+[gL].length) 7 (λi_ j_=>if i_<(iV t l i p x).length then(ja (iV t l i p x)) i_ j_ else(E.ke (ic [gL])) (i_-(iV t l i p x).length) j_)) (.row true 46 ((iV t l i p (x+1)).length) 7 (ja (iV t l i p (x+1)))))])) aG 
     .have mC:(l.getD (t.gP+x) gL).all=false:=bc Dp;have nG:rk (t.gI.getD x ig) (l.getD (t.gP+x) gL) l (iV t l i p x) p=gY 0:=by unfold rk;rw[bh (by rw[mC];decide)];unfold nY;rw[bj kx]
      have qC:=nu (gY 0);exact gX (aa [tT 37 ((x:Int)<t.gI.length) aD,iX (x:Int) (t.gI.length) aD,gW ((t.gP:Int)+x) aD,iX ((t.gP+x:Nat):Int) (l.length) aD,ah 53 (((t.gI.getD x ig).kind:Int) != 1) (bd aD),.o 78 (.e xR:ai (.agg [bP false,.v (.slice none 0 0),iP 0,bP false,.v (.slice none 0 0),iP 0,bP true]) (gR gL)),ah 81 ((l.getD (t.gP+x) gL).all) mC,.m (Vw QI im.BI:wq AM ((t.gI.getD x ig).kind:Int)=some (.fn (AL (t.gI.getD x ig).kind) (AK (t.gI.getD x ig).kind))),.c (ahk _ kx _ _ _:gJ (AL (t.gI.getD x ig).kind) ((Ll (t.gI.getD x ig) (l.getD (t.gP+x) gL) p)::(AK (t.gI.getD x ig).kind)) _),.o 91 (.e (lD _):ai (.sl true 1 7 λi_ j_=>(iA (gY 0)).getD (i_*7+j_) (.v (.bool false))) (ic [gY 0])),.a (aD:((iV t l i p x).length+[gY 0].length)*88<=140737488355328),
       gW ((x:Int)+1) aD]<|.e (ae [.b 10 (A7 rfl rfl nG:Bx.le (.row true 46 ((iV t l i p x).length+[gY 0].length) 7 (λi_ j_=>if i_<(iV t l i p x).length then(ja (iV t l i p x)) i_ j_ else(E.ke (ic [gY 0])) (i_-(iV t l i p x).length) j_)) (.row true 46 ((iV t l i p (x+1)).length) 7 (ja (iV t l i p (x+1)))))])) aG 
    .by_cases Dp:(l.getD (t.gP+x) gL).all=true
     .have mC:=Dp;have h3:=im.k3.resolve_left kx;have oa:=im.CC kx;have ob:=LB im aD;have nG:rk (t.gI.getD x ig) (l.getD (t.gP+x) gL) l (iV t l i p x) p=gL:=by unfold rk;rw[bj mC]
      have qC:=nu gL;exact gX (aa [tT 37 ((x:Int)<t.gI.length) aD,iX (x:Int) (t.gI.length) aD,gW ((t.gP:Int)+x) aD,iX ((t.gP+x:Nat):Int) (l.length) aD,ag 53 (((t.gI.getD x ig).kind:Int) != 1) (bg aD),iX ((t.gI.getD x ig).a:Int) (l.length) aD,iX ((t.gI.getD x ig).b:Int) (l.length) aD,
       iX ((t.gI.getD x ig).a:Int) ((iV t l i p x).length) aD,.a (aD:(t.gI.getD x ig).a<(iV t l i p x).length),iX ((t.gI.getD x ig).b:Int) ((iV t l i p x).length) aD,.a (aD:(t.gI.getD x ig).b<(iV t l i p x).length),.o 78 (.e xR:ai (.agg [bP false,.v (.slice none 0 0),iP 0,bP false,.v (.slice none 0 0),iP 0,bP true]) (gR gL)),ag 81 ((l.getD (t.gP+x) gL).all) mC,.o 91 (.e (lD _):ai (.sl true 1 7 λi_ j_=>(iA gL).getD (i_*7+j_) (.v (.bool false))) (ic [gL])),.a (aD:((iV t l i p x).length+[gL].length)*88<=140737488355328),gW ((x:Int)+1) aD]<|.e (ae [.b 10 (A7 rfl rfl nG:Bx.le (.row true 46 ((iV t l i p x).length+[gL].length) 7 (λi_ j_=>if i_<(iV t l i p x).length then(ja (iV t l i p x)) i_ j_ else(E.ke (ic [gL])) (i_-(iV t l i p x).length) j_)) (.row true 46 ((iV t l i p (x+1)).length) 7 (ja (iV t l i p (x+1)))))])) aG 
     .have mC:(l.getD (t.gP+x) gL).all=false:=bc Dp;have h3:=im.k3.resolve_left kx;have oa:=im.CC kx;have ob:=LB im aD;have nG:rk (t.gI.getD x ig) (l.getD (t.gP+x) gL) l (iV t l i p x) p=nY (t.gI.getD x ig) (l.getD (t.gP+x) gL) (l.getD ((t.gI.getD x ig).a) gL) (l.getD ((t.gI.getD x ig).b) gL) ((iV t l i p x).getD ((t.gI.getD x ig).a) gL) ((iV t l i p x).getD ((t.gI.getD x ig).b) gL) p:=by unfold rk;rw[bh (by rw[mC];decide)]
      have qC:=nu (nY (t.gI.getD x ig) (l.getD (t.gP+x) gL) (l.getD ((t.gI.getD x ig).a) gL) (l.getD ((t.gI.getD x ig).b) gL) ((iV t l i p x).getD ((t.gI.getD x ig).a) gL) ((iV t l i p x).getD ((t.gI.getD x ig).b) gL) p);exact gX (aa [tT 37 ((x:Int)<t.gI.length) aD,iX (x:Int) (t.gI.length) aD,gW ((t.gP:Int)+x) aD,iX ((t.gP+x:Nat):Int) (l.length) aD,ag 53 (((t.gI.getD x ig).kind:Int) != 1) (bg aD),iX ((t.gI.getD x ig).a:Int) (l.length) aD,iX ((t.gI.getD x ig).b:Int) (l.length) aD,
       iX ((t.gI.getD x ig).a:Int) ((iV t l i p x).length) aD,.a (aD:(t.gI.getD x ig).a<(iV t l i p x).length),iX ((t.gI.getD x ig).b:Int) ((iV t l i p x).length) aD,.a (aD:(t.gI.getD x ig).b<(iV t l i p x).length),.o 78 (.e xR:ai (.agg [bP false,.v (.slice none 0 0),iP 0,bP false,.v (.slice none 0 0),iP 0,bP true]) (gR gL)),ah 81 ((l.getD (t.gP+x) gL).all) mC,.m (Vw QI im.BI:wq AM ((t.gI.getD x ig).kind:Int)=some (.fn (AL (t.gI.getD x ig).kind) (AK (t.gI.getD x ig).kind))),.c (ahj _ _ _ _ _ _ _ (hv _) (hv _) (hv _) (Bk _) (Bk _) ie gS (GY im) h3 (hr x):gJ (AL (t.gI.getD x ig).kind) ((xB (t.gI.getD x ig) (l.getD (t.gP+x) gL) (l.getD (t.gI.getD x ig).a gL) (l.getD (t.gI.getD x ig).b gL) ((iV t l i p x).getD (t.gI.getD x ig).a gL) ((iV t l i p x).getD (t.gI.getD x ig).b gL) p)::(AK (t.gI.getD x ig).kind)) _),.o 91 (.e (lD _):ai (.sl true 1 7 λi_ j_=>(iA (nY (t.gI.getD x ig) (l.getD (t.gP+x) gL) (l.getD ((t.gI.getD x ig).a) gL) (l.getD ((t.gI.getD x ig).b) gL) ((iV t l i p x).getD ((t.gI.getD x ig).a) gL) ((iV t l i p x).getD ((t.gI.getD x ig).b) gL) p)).getD (i_*7+j_) (.v (.bool false))) (ic [nY (t.gI.getD x ig) (l.getD (t.gP+x) gL) (l.getD ((t.gI.getD x ig).a) gL) (l.getD ((t.gI.getD x ig).b) gL) ((iV t l i p x).getD ((t.gI.getD x ig).a) gL) ((iV t l i p x).getD ((t.gI.getD x ig).b) gL) p])),.a (aD:((iV t l i p x).length+[nY (t.gI.getD x ig) (l.getD (t.gP+x) gL) (l.getD ((t.gI.getD x ig).a) gL) (l.getD ((t.gI.getD x ig).b) gL) ((iV t l i p x).getD ((t.gI.getD x ig).a) gL) ((iV t l i p x).getD ((t.gI.getD x ig).b) gL) p].length)*88<=140737488355328),
       gW ((x:Int)+1) aD]<|.e (ae [.b 10 (A7 rfl rfl nG:Bx.le (.row true 46 ((iV t l i p x).length+[nY (t.gI.getD x ig) (l.getD (t.gP+x) gL) (l.getD ((t.gI.getD x ig).a) gL) (l.getD ((t.gI.getD x ig).b) gL) ((iV t l i p x).getD ((t.gI.getD x ig).a) gL) ((iV t l i p x).getD ((t.gI.getD x ig).b) gL) p].length) 7 (λi_ j_=>if i_<(iV t l i p x).length then(ja (iV t l i p x)) i_ j_ else(E.ke (ic [nY (t.gI.getD x ig) (l.getD (t.gP+x) gL) (l.getD ((t.gI.getD x ig).a) gL) (l.getD ((t.gI.getD x ig).b) gL) ((iV t l i p x).getD ((t.gI.getD x ig).a) gL) ((iV t l i p x).getD ((t.gI.getD x ig).b) gL) p])) (i_-(iV t l i p x).length) j_)) (.row true 46 ((iV t l i p (x+1)).length) 7 (ja (iV t l i p (x+1)))))])) aG)
  (λhx=>by
    exact gX (aa [tF 37 ((t.gI.length:Int)<t.gI.length) aD,.z 10]<|.e (ae [.o 10 (.e (sC aJ):ai (.sl true ((iV t l i p t.gI.length).length) 7 (ja (iV t l i p t.gI.length))) (ic (iV t l i p t.gI.length)))])) aG) aK:iF 12 f238 (PD t l i p 0) (.exit 2) ⟨95,true,[(10,.e (ic (iV t l i p t.gI.length)))],[]⟩) (ae [.b 10 (.iD rfl:Bx.le (.row true 46 ((kX t.gP i t.gP).length) 7 (ja (kX t.gP i t.gP))) (.row true 46 ((iV t l i p 0).length) 7 (ja (iV t l i p 0))))])]) 
def JK(t:lS)(xs:List Iv)(p m:Nat)(h:uQ t)(h0:1<=xs.length)(hx:xs.length=t.gP)(hv:oO xs)(hr:po t)(hm:m<=t.gP)(ie:8<=p)(gS:p<=512):gJ 161 [tE t,ic xs,iP m,iP p] (.hH [ic (nn t xs p),gV (lG t xs p m)]):=by
 have h8:=h.gP;have xk:=h.gI;have mU:=h.gN;have h1:1<=t.gP:= aD ;have xo:(iC t.gI xs p t.gI.length).length=t.gP+t.gI.length:=by rw[wM,hx]
 have Gp:=AP t.gI hv (aD:1<=p) (aD:p<=4096) t.gI.length;exact aj call161 func161 (aa [.c (aaD t xs p h h0 hx hv aD aD),tF 26 ((m:Int)<0) aD,tF 32 ((t.gP:Int)<m) aD,af [tE t,ic xs,iP p] (aiw _ _ _ h h0 hx hv hr aD aD),.a (aD:0<=((t.gN.length:Int):Int)/\((t.gN.length:Int):Int)<=((t.gN.length:Int):Int)),.a (aD:((24:Nat):Int)*(t.gN.length:Int)<=281474976710656/\((t.gN.length:Int):Int)<=9223372036854775807),.s (Sp.iG (PH t xs p m) 0 m aD (λx hx jf=>by
    exact gX (aa [tT 44 ((x:Int)<m) aD,af [tE t,ic (iC t.gI xs p t.gI.length),iP x,iP p] (Yq _ _ _ _ h hr h1 xo Gp ie gS),.s (Sp.iG (PI t xs p m x) 0 t.gN.length aD (λk hk oJ=>by
    have Kw:=h.out k aD;have hle:iS (jT t.gN.length (kN t xs p) x k) k=x:=VV aD ;have J9:=CI t (iC t.gI xs p t.gI.length) x p t.gI.length;have qC:=nu ((iV t (iC t.gI xs p t.gI.length) x p t.gI.length).getD (t.gN.getD k 0) gL);exact gX (aa [tT 55 ((k:Int)<t.gN.length) aD,iX (k:Int) (t.gN.length) aD,iX (k:Int) (t.gN.length) aD,.a (aD:k<t.gN.length),
     iX (t.gN.getD k 0:Int) ((iV t (iC t.gI xs p t.gI.length) x p t.gI.length).length) aD,.o 69 (.e (lD _):ai (.sl true 1 7 λi_ j_=>(iA ((iV t (iC t.gI xs p t.gI.length) x p t.gI.length).getD (t.gN.getD k 0) gL)).getD (i_*7+j_) (.v (.bool false))) (ic [(iV t (iC t.gI xs p t.gI.length) x p t.gI.length).getD (t.gN.getD k 0) gL])),.a (aD:k<t.gN.length),.a (aD:((iS (jT t.gN.length (kN t xs p) x k)) k+[(iV t (iC t.gI xs p t.gI.length) x p t.gI.length).getD (t.gN.getD k 0) gL].length)*88<=140737488355328),
     iX (k:Int) (t.gN.length) aD,.a (rfl:k=k),.a (rfl:k=k),.a (aD:k<t.gN.length),gW ((k:Int)+1) aD]<|.e (ae [.b 41 (VY rfl rfl aD rfl:Bx.le (.iH true 26 46 t.gN.length 7 (λq=>if q=k then(iS (jT t.gN.length (kN t xs p) x k)) q+[(iV t (iC t.gI xs p t.gI.length) x p t.gI.length).getD (t.gN.getD k 0) gL].length else(iS (jT t.gN.length (kN t xs p) x k)) q) (λq i j=>if q=k then(if i<(iS (jT t.gN.length (kN t xs p) x k)) q then(jH (jT t.gN.length (kN t xs p) x k)) q i j else(E.ke (ic [(iV t (iC t.gI xs p t.gI.length) x p t.gI.length).getD (t.gN.getD k 0) gL])) (i-(iS (jT t.gN.length (kN t xs p) x k)) q) j)else(jH (jT t.gN.length (kN t xs p) x k)) q i j) .none) (.iH true 26 46 t.gN.length 7 (iS (jT t.gN.length (kN t xs p) x (k+1))) (jH (jT t.gN.length (kN t xs p) x (k+1))) .none))])) aG)
  (λhk=>by
    exact gX (ae [tF 55 ((t.gN.length:Int)<t.gN.length) aD]) aG) aK:iF 10 f161 (PI t xs p m x 0) (.exit 2) ⟨91,true,[(43,.e (iP x)),(42,.e (iP m)),(11,.own 41),(10,.e (ic (iC t.gI xs p t.gI.length))),(4,.box 4 0),(3,.e (iP p))],[(41,.iH true 26 46 t.gN.length 7 (iS (jT t.gN.length (kN t xs p) x t.gN.length)) (jH (jT t.gN.length (kN t xs p) x t.gN.length)) .none),(4,.cells 25 [iP t.gP,mM t.gI,mL t.gN])]⟩) .nil,
     gW ((x:Int)+1) aD]<|.e (ae [.b 41 (VX rfl:Bx.le (.iH true 26 46 t.gN.length 7 (iS (jT t.gN.length (kN t xs p) x t.gN.length)) (jH (jT t.gN.length (kN t xs p) x t.gN.length)) .none) (.iH true 26 46 t.gN.length 7 (iS (jT t.gN.length (kN t xs p) (x+1) 0)) (jH (jT t.gN.length (kN t xs p) (x+1) 0)) .none))])) aG)
  (λhx=>by
    exact gX (ae [tF 44 ((m:Int)<m) aD]) aG) aK:iF 6 f161 (PH t xs p m 0) (.exit 0) ⟨91,true,[(11,.own 41),(10,.e (ic (iC t.gI xs p t.gI.length))),(4,.box 4 0)],[(41,.iH true 26 46 t.gN.length 7 (iS (jT t.gN.length (kN t xs p) m 0)) (jH (jT t.gN.length (kN t xs p) m 0)) .none),(4,.cells 25 [iP t.gP,mM t.gI,mL t.gN])]⟩) (ae [.b 41 (VW rfl:Bx.le (.iH true 26 46 t.gN.length 7 (λ_=>0) (λ_ _ _=>.any) .none) (.iH true 26 46 t.gN.length 7 (iS (jT t.gN.length (kN t xs p) 0 0)) (jH (jT t.gN.length (kN t xs p) 0 0)) .none))]),.y 16 16 true 46 7 (ja ((List.range 0).map (λj_=>(iC t.gI xs p t.gI.length).getD (t.gN.getD j_ 0) gL))),.s (Sp.iG (PJ t xs p m) 0 t.gN.length aD (λx hx jf=>by
    have Kw:=h.out x aD;have zL:=wM t.gI xs p t.gI.length;have qC:=nu ((iC t.gI xs p t.gI.length).getD (t.gN.getD x 0) gL);exact gX (aa [tT 78 ((x:Int)<t.gN.length) aD,iX (x:Int) (t.gN.length) aD,iX (t.gN.getD x 0:Int) ((iC t.gI xs p t.gI.length).length) aD,.o 86 (.e (lD _):ai (.sl true 1 7 λi_ j_=>(iA ((iC t.gI xs p t.gI.length).getD (t.gN.getD x 0) gL)).getD (i_*7+j_) (.v (.bool false))) (ic [(iC t.gI xs p t.gI.length).getD (t.gN.getD x 0) gL])),.a (aD:(x+[(iC t.gI xs p t.gI.length).getD (t.gN.getD x 0) gL].length)*88<=140737488355328),gW ((x:Int)+1) aD]<|.e (ae [.b 16 (we rfl rfl rfl:Bx.le (.row true 46 (x+[(iC t.gI xs p t.gI.length).getD (t.gN.getD x 0) gL].length) 7 (λi_ j_=>if i_<x then(ja ((List.range x).map (λj_=>(iC t.gI xs p t.gI.length).getD (t.gN.getD j_ 0) gL))) i_ j_ else(E.ke (ic [(iC t.gI xs p t.gI.length).getD (t.gN.getD x 0) gL])) (i_-x) j_)) (.row true 46 (x+1) 7 (ja ((List.range (x+1)).map (λj_=>(iC t.gI xs p t.gI.length).getD (t.gN.getD j_ 0) gL)))))])) aG)
  (λhx=>by
    exact gX (aa [tF 78 ((t.gN.length:Int)<t.gN.length) aD,.z 16]<|.e (ae [.o 16 (.e (sC aJ):ai (.sl true t.gN.length 7 (ja ((List.range t.gN.length).map (λj_=>(iC t.gI xs p t.gI.length).getD (t.gN.getD j_ 0) gL)))) (ic ((List.range t.gN.length).map (λj_=>(iC t.gI xs p t.gI.length).getD (t.gN.getD j_ 0) gL))))])) aG) aK:iF 17 f161 (PJ t xs p m 0) (.exit 4) ⟨91,true,[(16,.e (ic ((List.range t.gN.length).map (λj_=>(iC t.gI xs p t.gI.length).getD (t.gN.getD j_ 0) gL)))),(11,.own 41)],[(41,.iH true 26 46 t.gN.length 7 (iS (jT t.gN.length (kN t xs p) m 0)) (jH (jT t.gN.length (kN t xs p) m 0)) .none)]⟩) .nil]<|rR (.hH [ic (nn t xs p),gV (lG t xs p m)]) (.hH (.cons (.iD (by rw[Pq])) (.cons (BL (Mv _ _ _ _).symm) .nil)):E.le (.hH [ic ((List.range t.gN.length).map (λj_=>(iC t.gI xs p t.gI.length).getD (t.gN.getD j_ 0) gL)),(.sl true t.gN.length 1 λk_ _=>.sl true ((iS (jT t.gN.length (kN t xs p) m 0)) k_) 7 ((jH (jT t.gN.length (kN t xs p) m 0)) k_))]) (.hH [ic (nn t xs p),gV (lG t xs p m)]))) 
def aaz(s:lX)(b:List Iv)(p:Nat)(h:og s)(hb:oM s.ij b)(hr:po s.tape)(ie:8<=p)(gS:p<=512)(hn:mI (nn s.tape (b++s.params) p)=true):gJ 88 [lq s,ic b,iP s.ij,iP p] (.hH [.v (.slice none 0 0),.v (.slice none 0 0),iP 11]):=by
 have s4:=h.s4;have p4:=h.p4;have Bn:=hb.len;have mU:=h.tape.gN;have vh:=GL hb.ok;have yi:=Bb s.tape (b++s.params) p;obtain⟨f1,f2,f3,f4⟩:=zn h hb;have ui:=yC s.tape (b++s.params) p s.ij;have zS:=h.gN;have Dk:=h.gP;have ru:s.ij<=1000:= aD ;exact aj call88 func88 (ae [.c (H9 s aE),ah 21 ((b.length:Int) != (s.ij:Int)) (pK hb.len),.c (wV b aD),ah 25 (mI b) vh,.c (Ab true _ _ 159 [] (λ_=>false) (λi hi=>FK _ (hb.ok i hi).1) aD (λ_ _=>rfl):gJ 40 [ic b,.fn 159 []] _),.c (CX (p:Int)),ag 32 (jV (p:Int)) (mm.2 ⟨aD,aD⟩),.o 40 (.e (GD _ _):ai (.sl true 2 1 λi_ j_=>[ic b,ic s.params].getD (i_*1+j_) (.v (.bool false))) (gV [b,s.params])),af [gV [b,s.params]] (I5 b s.params aD aD),af [tE s.tape,ic (b++s.params),iP s.ij,iP p] (JK _ _ _ _ f1 f2 f3 f4 hr aD aD aD),.c (wV (nn s.tape (b++s.params) p) aD),ag 48 (mI (nn s.tape (b++s.params) p)) hn]) 
def aaA(s:lX)(b:List Iv)(p:Nat)(h:og s)(hb:oM s.ij b)(hr:po s.tape)(ie:8<=p)(gS:p<=512)(hn:mI (nn s.tape (b++s.params) p)=false)(jO:zi (lG s.tape (b++s.params) p s.ij)=true):gJ 88 [lq s,ic b,iP s.ij,iP p] (.hH [.v (.slice none 0 0),.v (.slice none 0 0),iP 11]):=by
 have s4:=h.s4;have p4:=h.p4;have Bn:=hb.len;have mU:=h.tape.gN;have vh:=GL hb.ok;have yi:=Bb s.tape (b++s.params) p;obtain⟨f1,f2,f3,f4⟩:=zn h hb;have ui:=yC s.tape (b++s.params) p s.ij;have zS:=h.gN;have Dk:=h.gP;have ru:s.ij<=1000:= aD ;exact aj call88 func88 (ae [.c (H9 s aE),ah 21 ((b.length:Int) != (s.ij:Int)) (pK hb.len),.c (wV b aD),ah 25 (mI b) vh,.c (Ab true _ _ 159 [] (λ_=>false) (λi hi=>FK _ (hb.ok i hi).1) aD (λ_ _=>rfl):gJ 40 [ic b,.fn 159 []] _),.c (CX (p:Int)),ag 32 (jV (p:Int)) (mm.2 ⟨aD,aD⟩),.o 40 (.e (GD _ _):ai (.sl true 2 1 λi_ j_=>[ic b,ic s.params].getD (i_*1+j_) (.v (.bool false))) (gV [b,s.params])),af [gV [b,s.params]] (I5 b s.params aD aD),af [tE s.tape,ic (b++s.params),iP s.ij,iP p] (JK _ _ _ _ f1 f2 f3 f4 hr aD aD aD),.c (wV (nn s.tape (b++s.params) p) aD),ah 48 (mI (nn s.tape (b++s.params) p)) hn,.c (Hq true _ _ 158 [] (λi=>mI ((lG s.tape (b++s.params) p s.ij).getD i [])) (λi hi=>wV _ (DB ru i)) aD:gJ 163 [gV (lG s.tape (b++s.params) p s.ij),.fn 158 []] _),ag 51 (zi (lG s.tape (b++s.params) p s.ij)) jO]) 
def aaB(s:lX)(b:List Iv)(p:Nat)(h:og s)(hb:oM s.ij b)(hr:po s.tape)(ie:8<=p)(gS:p<=512)(hn:mI (nn s.tape (b++s.params) p)=false)(jO:zi (lG s.tape (b++s.params) p s.ij)=false):gJ 88 [lq s,ic b,iP s.ij,iP p] (.hH [ic (nn s.tape (b++s.params) p),gV (lG s.tape (b++s.params) p s.ij),iP 0]):=by
 have s4:=h.s4;have p4:=h.p4;have Bn:=hb.len;have mU:=h.tape.gN;have vh:=GL hb.ok;have yi:=Bb s.tape (b++s.params) p;obtain⟨f1,f2,f3,f4⟩:=zn h hb;have ui:=yC s.tape (b++s.params) p s.ij;have zS:=h.gN;have Dk:=h.gP;have ru:s.ij<=1000:= aD ;exact aj call88 func88 (ae [.c (H9 s aE),ah 21 ((b.length:Int) != (s.ij:Int)) (pK hb.len),.c (wV b aD),ah 25 (mI b) vh,.c (Ab true _ _ 159 [] (λ_=>false) (λi hi=>FK _ (hb.ok i hi).1) aD (λ_ _=>rfl):gJ 40 [ic b,.fn 159 []] _),.c (CX (p:Int)),ag 32 (jV (p:Int)) (mm.2 ⟨aD,aD⟩),.o 40 (.e (GD _ _):ai (.sl true 2 1 λi_ j_=>[ic b,ic s.params].getD (i_*1+j_) (.v (.bool false))) (gV [b,s.params])),af [gV [b,s.params]] (I5 b s.params aD aD),af [tE s.tape,ic (b++s.params),iP s.ij,iP p] (JK _ _ _ _ f1 f2 f3 f4 hr aD aD aD),.c (wV (nn s.tape (b++s.params) p) aD),ah 48 (mI (nn s.tape (b++s.params) p)) hn,.c (Hq true _ _ 158 [] (λi=>mI ((lG s.tape (b++s.params) p s.ij).getD i [])) (λi hi=>wV _ (DB ru i)) aD:gJ 163 [gV (lG s.tape (b++s.params) p s.ij),.fn 158 []] _),ah 51 (zi (lG s.tape (b++s.params) p s.ij)) jO]) 
def aaE(s:lX)(b:List Iv)(p:Nat)(jS:gJ 88 [lq s,ic b,iP (s.ij:Int),iP (p:Int)] (.hH [.v (.slice none 0 0),.v (.slice none 0 0),iP 11])):gJ 43 [lq s,ic b,iP p] (.hH [.v (.slice none 0 0),iP 11]):=
 aj call43 func43 (ae [af [lq s,ic b,iP s.ij,iP p] jS]) 
def aaF(s:lX)(b:List Iv)(p:Nat)(h:og s)(hb:oM s.ij b)(hr:po s.tape)(ie:8<=p)(gS:p<=512)(hn:mI (nn s.tape (b++s.params) p)=false)(jO:zi (lG s.tape (b++s.params) p s.ij)=false):gJ 43 [lq s,ic b,iP p] (.hH [gV (lG s.tape (b++s.params) p s.ij),iP 0]):=
 aj call43 func43 (ae [af [lq s,ic b,iP s.ij,iP p] (aaB _ _ _ h hb hr ie gS hn jO)]) 
def PE(s:lX)(b:List Iv)(p:Nat)(h:og s)(hb:oM s.ij b)(hr:po s.tape)(ie:8<=p)(gS:p<=512)(hn:tp s b p=true):gJ 43 [lq s,ic b,iP (p:Int)] (.hH [.v (.slice none 0 0),iP 11]):=by
 unfold tp at hn;refine aaE s b p ?_;cases h1:mI (nn s.tape (b++s.params) p)with
 |true=>exact aaz s b p h hb hr ie gS h1
 |false=>
  rw[h1,fQ]at hn;exact aaA s b p h hb hr ie gS h1 hn
def PF(s:lX)(b:List Iv)(p:Nat)(h:og s)(hb:oM s.ij b)(hr:po s.tape)(ie:8<=p)(gS:p<=512)(hn:tp s b p=false):gJ 43 [lq s,ic b,iP (p:Int)] (.hH [gV (lU s b p),iP 0]):=by
 unfold tp at hn;rw[fK]at hn;exact aaF s b p h hb hr ie gS hn.1 hn.2
def YV(s:lX)(b:List Iv)(p:Nat)(h:og s)(hb:oM s.ij b)(hr:po s.tape)(ie:8<=p)(gS:p<=512)(hn:tp s b p=true):gJ 34 [lq s,ic b,iP p] (.hH [.agg ar,iP 11]):=
 aj call34 func34 (ae [af [lq s,ic b,iP p] (PE _ _ _ h hb hr ie gS hn),ag 20 ((11:Int) != 0) aF]) 
def YW(s:lX)(b:List Iv)(p:Nat)(h:og s)(hb:oM s.ij b)(hr:po s.tape)(ie:8<=p)(gS:p<=512)(hn:tp s b p=false):gJ 34 [lq s,ic b,iP p] (.hH [gR (rK (lU s b p) p (s.ij-1)),iP 0]):=by
 have p1:1<=p:= aD ;have p2:p<=4096:= aD ;have s1:=h.s1;have s4:=h.s4;have ui:=Dx h b p;have tc:=Dz h b p (aD:0<s.ij);exact aj call34 func34 (ae [af [lq s,ic b,iP p] (PF _ _ _ h hb hr ie gS hn),ah 20 ((0:Int) != 0) aF,iX 0 ((lU s b p).length) aD,iX 0 (((lU s b p).getD 0 []).length) aD,.s (Sp.iG (Oy s b p) 0 (s.ij-1) aD (λx hx jf=>by
    have hr:=Dz h b p (aD:x+1<s.ij);have uv:=DA h hb p1 p2 (x+1) (x+1);have qh:=Ig h hb p1 p2 x;exact gX (aa [tT 31 (((x+1:Nat):Int)<((lU s b p).length:Int)) aD,iX ((x+1:Nat):Int) ((lU s b p).length) aD,iX ((x+1:Nat):Int) (((lU s b p).getD (x+1) []).length) aD,.c (xr (rK (lU s b p) p x) (((lU s b p).getD (x+1) []).getD (x+1) gL) p aE aE aD aD),gW (((x+1:Nat):Int)+1) aD]<|.e (ae [.b 10 (.iD rfl:Bx.le (.cells 46 (iA (jx (rK (lU s b p) p x) (((lU s b p).getD (x+1) []).getD (x+1) gL) p))) (.cells 46 (iA (rK (lU s b p) p (x+1)))))])) aG)
  (λhx=>by
    exact gX (ae [tF 31 ((((s.ij-1)+1:Nat):Int)<((lU s b p).length:Int)) aD]) aG) aK:iF 6 Tryz.f34 (Oy s b p 0) (.exit 0) ⟨45,true,[(10,.box 10 0),(6,.box 6 0)],[(10,.cells 46 (iA (rK (lU s b p) p (s.ij-1)))),(6,.cells 46 ar)]⟩) (ae [.o 11 (an 1 ((0+1:Nat):Int) aS),.b 10 (.iD rfl:Bx.le (.cells 46 (iA (((lU s b p).getD 0 []).getD 0 gL))) (.cells 46 (iA (rK (lU s b p) p 0))))])]) 
def Z4(m:List (List Iv))(h:RI)(gh:h.jo)(n:Nat)(k:Int)(p:Nat)(ga:iY m n n)(ie:8<=p)(gS:p<=512)(hc:¬(ki h=true/\h.all=false)):gJ 72 [gV m,kH h,iP k,iP p] (.hH [.v (.slice none 0 0),iP 1]):=
 aj call72 func72 (aa [af [gV m] (Ev _ _ _ ga),tT 24 (n=n) rfl,af [kH h] (GA _ gh)]<|.w (ki h=true)
  (λk1=>aa [tB 28 k1]<|.w (h.all=true)
   (λk2=>ae [tB 33 k2])
   (λk2=>.x (by exact absurd ⟨aE,bc aE⟩ hc)))
  (λk1=>ae [tB 28 (bc k1)])) 
def Z5(m:List (List Iv))(h:RI)(gh:h.jo)(n:Nat)(k:Int)(p:Nat)(ga:iY m n n)(ie:8<=p)(gS:p<=512)(c2:ki h=true)(c3:h.all=false)(hk:¬(1<=k/\k<=16)):gJ 72 [gV m,kH h,iP k,iP p] (.hH [.v (.slice none 0 0),iP 2]):=
 aj call72 func72 (aa [af [gV m] (Ev _ _ _ ga),tT 24 (n=n) rfl,af [kH h] (GA _ gh),ag 28 (ki h) c2,ah 33 h.all c3,tF 36 ((p:Int)<8) aD,tF 39 (512<(p:Int)) aD]<|.w (k<1)
  (λk1=>ae [tB 43 (bk k1)])
  (λk1=>aa [tB 43 (bl k1)]<|.w (16<k)
   (λk2=>ae [tB 47 (bk k2)])
   (λk2=>.x (by exact absurd (aD:1<=k/\k<=16) hk)))) 
def X9(m:List (List Iv))(h:RI)(gh:h.jo)(n:Nat)(ga:iY m n n)(hc:¬(ki h=true/\h.all=false)):gJ 134 [gV m,kH h] (bP false):=by
 have m1:=ga.iH;have m2:=ga.n1;have m3:=ga.kS (aD:0<n);exact aj call134 func134 (aa [af [gV m] (Sd _ _ ga),iX 0 (m.length) aD,ag 14 ((m.length:Int)==((m.getD 0 []).length:Int)) (DY aD),.c (rH h gh)]<|.w (ki h=true)
  (λk1=>aa [tB 18 k1]<|rQ (bP (!h.all)) (bP false) (qS (by simp_all)))
  (λk1=>aa [tB 18 (bc k1)]<|rQ (bP false) (bP false) (qS (by simp_all)))) 
def Ya(m:List (List Iv))(h:RI)(gh:h.jo)(n:Nat)(ga:iY m n n)(c2:ki h=true)(c3:h.all=false):gJ 134 [gV m,kH h] (bP true):=by
 have m1:=ga.iH;have m2:=ga.n1;have m3:=ga.kS (aD:0<n);exact aj call134 func134 (ae [af [gV m] (Sd _ _ ga),iX 0 (m.length) aD,ag 14 ((m.length:Int)==((m.getD 0 []).length:Int)) (DY aD),.c (rH h gh),ag 18 (ki h) c2,ah 22 h.all c3]) 
def Z1(m:List (List Iv))(h:RI)(gh:h.jo)(n:Nat)(k:Int)(p:Nat)(ga:iY m n n)(ie:8<=p)(gS:p<=512)(hc:¬(ki h=true/\h.all=false)):gJ 77 [gV m,kH h,iP k,iP p] (.hH [.v (.slice none 0 0),iP 1]):=
 aj call77 func77 (ae [.c (X9 m h gh n ga hc)]) 
def Z2(m:List (List Iv))(h:RI)(gh:h.jo)(n:Nat)(k:Int)(p:Nat)(ga:iY m n n)(ie:8<=p)(gS:p<=512)(c2:ki h=true)(c3:h.all=false)(hk:¬(1<=k/\k<=16)):gJ 77 [gV m,kH h,iP k,iP p] (.hH [.v (.slice none 0 0),iP 2]):=
 aj call77 func77 (aa [.c (Ya m h gh n ga c2 c3),af [iP p] (rI _),ag 30 (jV (p:Int)) (mm.2 ⟨aD,aD⟩)]<|.w (k<1)
  (λk1=>ae [tB 34 (bk k1)])
  (λk1=>aa [tB 34 (bl k1)]<|.w (16<k)
   (λk2=>ae [tB 38 (bk k2)])
   (λk2=>.x (by exact absurd (aD:1<=k/\k<=16) hk)))) 
def aap(s:jq)(x:List RI)(h:RI)(k p c:Int)(hc:c≠0)(hJ:gJ 43 [jW s,jk x,iP p] (.hH [.v (.slice none 0 0),iP c])):gJ 32 [jW s,jk x,kH h,iP k,iP p] (.hH [.v (.slice none 0 0),iP c]):=
 aj call32 func32 (ae [af [jW s,jk x,iP p] hJ,tB 22 (bg hc)]) 
def aaq(s:jq)(x:List RI)(h:RI)(k p c:Int)(m X:List (List Iv))(hJ:gJ 43 [jW s,jk x,iP p] (.hH [gV m,iP 0]))(hX:gJ 72 [gV m,kH h,iP k,iP p] (.hH [gV X,iP c])):gJ 32 [jW s,jk x,kH h,iP k,iP p] (.hH [gV X,iP c]):=
 aj call32 func32 (ae [af [jW s,jk x,iP p] hJ,ah 22 ((0:Int) != 0) aF,af [gV m,kH h,iP k,iP p] hX]) 
def aam(s:jq)(x:List RI)(h:RI)(k p c:Int)(hc:c≠0)(hJ:gJ 51 [jW s,jk x,iP p] (.hH [.v (.slice none 0 0),iP c])):gJ 33 [jW s,jk x,kH h,iP k,iP p] (.hH [.v (.slice none 0 0),iP c]):=
 aj call33 func33 (ae [af [jW s,jk x,iP p] hJ,tB 22 (bg hc)]) 
def aan(s:jq)(x:List RI)(h:RI)(k p c:Int)(m X:List (List Iv))(hJ:gJ 51 [jW s,jk x,iP p] (.hH [gV m,iP 0]))(hX:gJ 77 [gV m,kH h,iP k,iP p] (.hH [gV X,iP c])):gJ 33 [jW s,jk x,kH h,iP k,iP p] (.hH [gV X,iP c]):=
 aj call33 func33 (ae [af [jW s,jk x,iP p] hJ,ah 22 ((0:Int) != 0) aF,af [gV m,kH h,iP k,iP p] hX]) 
def aao(s:jq)(x:List RI)(h:RI)(k p:Int)(g:s.jo)(gx:∀ i,(x.getD i iR).jo)(hE:¬(sr s=true/\qt x=true/\qt [h]=true/\¬(128<p/\p<=512)/\¬(pV s x=true/\tA s=false))):gJ 6 [jW s,jk x,kH h,iP k,iP p] (bP true):=
 aj call6 func6 (aa [.c Nd,.c (RS s)]<|.w (sr s=true)
  (λk1=>by
   have sm:=JH aE;exact aa [tB 22 k1,.c (DC x)]<|.w (qt x=true)
    (λk2=>by
     have lC:x.length<=1000:=by have:=Hy aE;omega
     exact aa [tB 26 k2,.o 31 (.e (Ve _):ai (.sl true 1 7 λi_ j_=>[bP h.lo.neg,gO h.lo.L,iP h.lo.e,bP h.hi.neg,gO h.hi.L,iP h.hi.e,bP h.all].getD (i_*7+j_) (.v (.bool false))) (jk [h])),.c (DC [h])]<|.w (qt [h]=true)
      (λk3=>aa [tB 32 k3]<|.w (128<p)
       (λk4=>aa [tB 37 (bk k4)]<|.w (p<=512)
        (λk5=>ae [tB 40 (bk k5)])
        (λk5=>aa [tB 40 (bl k5),af [jW s,jk x] (B3 _ g sm _ gx lC)]<|.w (pV s x=true)
         (λk6=>aa [tB 46 k6,.c (G9 s g sm)]<|.w (tA s=true)
          (λk7=>.x (by exact absurd ⟨aE,aE,aE,aD,λq=>by simp_all⟩ hE))
          (λk7=>ae [tB 50 (bc k7)]))
         (λk6=>.x (by exact absurd ⟨aE,aE,aE,aD,λq=>by simp_all⟩ hE))))
       (λk4=>aa [tB 37 (bl k4),af [jW s,jk x] (B3 _ g sm _ gx lC)]<|.w (pV s x=true)
        (λk5=>aa [tB 46 k5,.c (G9 s g sm)]<|.w (tA s=true)
         (λk6=>.x (by exact absurd ⟨aE,aE,aE,aD,λq=>by simp_all⟩ hE))
         (λk6=>ae [tB 50 (bc k6)]))
        (λk5=>.x (by exact absurd ⟨aE,aE,aE,aD,λq=>by simp_all⟩ hE))))
      (λk3=>ae [tB 32 (bc k3)]))
    (λk2=>ae [tB 26 (bc k2)]))
  (λk1=>ae [tB 22 (bc k1)])) 
def Pw(s:jq)(x:List RI)(h:RI)(k p:Int)(g:s.jo)(gx:∀ i,(x.getD i iR).jo)(hL:(sr s=true/\qt x=true/\qt [h]=true/\¬(128<p/\p<=512)/\¬(pV s x=true/\tA s=false)))(X:List (List Iv))(v:Iv)(c d:Int)(hv:v.gQ)(hF:gJ 32 [jW s,jk x,kH h,iP k,iP p] (.hH [gV X,iP c]))(hG:gJ 33 [jW s,jk x,kH h,iP k,iP p] (.hH [gV X,iP c]))(hD:gJ 34 [jW s,jk x,iP p] (.hH [gR v,iP d]))(hE:gJ 35 [jW s,jk x,iP p] (.hH [gR v,iP d]))(FP:gJ 36 [gV X,gV X] (bP true)):gJ 6 [jW s,jk x,kH h,iP k,iP p] (bP true):=by
 obtain⟨l1,l2,l3,l4,l5⟩:=hL;have sm:=JH l1;have lC:x.length<=1000:=by have:=Hy l2;omega
 exact aj call6 func6 (aa [.c Nd,.c (RS s),ag 22 (sr s) l1,.c (DC x),ag 26 (qt x) l2,.o 31 (.e (Ve _):ai (.sl true 1 7 λi_ j_=>[bP h.lo.neg,gO h.lo.L,iP h.lo.e,bP h.hi.neg,gO h.hi.L,iP h.hi.e,bP h.all].getD (i_*7+j_) (.v (.bool false))) (jk [h])),.c (DC [h]),ag 32 (qt [h]) l3]<|.w (128<p)
  (λk1=>aa [tB 37 (bk k1)]<|.w (p<=512)
   (λk2=>.x (by exact absurd ⟨aD,aD⟩ l4))
   (λk2=>aa [tB 40 (bl k2),af [jW s,jk x] (B3 _ g sm _ gx lC)]<|.w (pV s x=true)
    (λk3=>aa [tB 46 k3,.c (G9 s g sm)]<|.w (tA s=true)
     (λk4=>aa [tB 50 k4,af [jW s,jk x,kH h,iP k,iP p] hF,af [jW s,jk x,kH h,iP k,iP p] hG,af [jW s,jk x,iP p] hD,af [jW s,jk x,iP p] hE,ag 88 (c==c) (dX _),af [gV X,gV X] FP,ag 97 (d==d) (dX _)]<|.w (v.all=true)
      (λk5=>ae [tB 101 k5,tB 104 k5])
      (λk5=>ae [tB 101 (bc k5),.c (Ef v hv)]))
     (λk4=>.x (by exact absurd ⟨aE,bc aE⟩ l5)))
    (λk3=>aa [tB 46 (bc k3),af [jW s,jk x,kH h,iP k,iP p] hF,af [jW s,jk x,kH h,iP k,iP p] hG,af [jW s,jk x,iP p] hD,af [jW s,jk x,iP p] hE,ag 88 (c==c) (dX _),af [gV X,gV X] FP,ag 97 (d==d) (dX _)]<|.w (v.all=true)
     (λk4=>ae [tB 101 k4,tB 104 k4])
     (λk4=>ae [tB 101 (bc k4),.c (Ef v hv)]))))
  (λk1=>aa [tB 37 (bl k1),af [jW s,jk x] (B3 _ g sm _ gx lC)]<|.w (pV s x=true)
   (λk2=>aa [tB 46 k2,.c (G9 s g sm)]<|.w (tA s=true)
    (λk3=>aa [tB 50 k3,af [jW s,jk x,kH h,iP k,iP p] hF,af [jW s,jk x,kH h,iP k,iP p] hG,af [jW s,jk x,iP p] hD,af [jW s,jk x,iP p] hE,ag 88 (c==c) (dX _),af [gV X,gV X] FP,ag 97 (d==d) (dX _)]<|.w (v.all=true)
     (λk4=>ae [tB 101 k4,tB 104 k4])
     (λk4=>ae [tB 101 (bc k4),.c (Ef v hv)]))
    (λk3=>.x (by exact absurd ⟨aE,bc aE⟩ l5)))
   (λk2=>aa [tB 46 (bc k2),af [jW s,jk x,kH h,iP k,iP p] hF,af [jW s,jk x,kH h,iP k,iP p] hG,af [jW s,jk x,iP p] hD,af [jW s,jk x,iP p] hE,ag 88 (c==c) (dX _),af [gV X,gV X] FP,ag 97 (d==d) (dX _)]<|.w (v.all=true)
    (λk3=>ae [tB 101 k3,tB 104 k3])
    (λk3=>ae [tB 101 (bc k3),.c (Ef v hv)])))) 
def WJ(c:Int):E.le (.hH [.agg ar,iP c]) (.hH [gR ID,iP c]):=.hH (.cons aji (.cons (.refl _) .nil))
def ajj:ID.gQ:=D2
def yI(c:Int):E.le (.hH [.v (.slice none 0 0),iP c]) (.hH [gV [],iP c]):=.hH (.cons (.nil _ _ _) (.cons (.refl _) .nil))
def nX{f:FuncId}{l:List E}{r r':E}(h:gJ f l r)(hr:E.le r r'):gJ f l r':=PC.le h (.refl _) hr
def Z3(m:List (List Iv))(h:RI)(gh:h.jo)(n:Nat)(k:Int)(p:Nat)(ga:iY m n n)(ie:8<=p)(gS:p<=512):
 ∃ X c,gJ 72 [gV m,kH h,iP k,iP p] (.hH [gV X,iP c])/\gJ 77 [gV m,kH h,iP k,iP p] (.hH [gV X,iP c])/\gJ 36 [gV X,gV X] (bP true):=by
 have e0:gJ 36 [gV [],gV []] (bP true):=Jq [] aF (λi hi=>absurd hi (bC i)) (λi hi=>absurd hi (bC i));by_cases hc:ki h=true/\h.all=false
 .obtain ⟨c2,c3⟩:=hc;by_cases hk:1<=k/\k<=16
  .obtain ⟨k',rfl⟩:=dm (aD:0<=k);have ho:=pM.1 c2;have eh:kH h=gR h.iv:=by rw[<-BH,ho.eq gh]
   rw[eh];cases hx:oX m h.iv k' p with
   |some x=>
    have gx:=Pm ga ho.valid aD ie gS hx;exact⟨x,0,(JB m h.iv n k' p ga ho.valid c3 aD aD ie gS).1 x hx,(TS m h.iv n k' p ga ho.valid c3 aD aD ie gS).1 x hx,Jq x (iY.pB gx).1 (λi _=>(iY.pB gx).2 i) (λi _ j _=>Sw gx i j)⟩
   |none=>exact⟨[],15,nX ((JB m h.iv n k' p ga ho.valid c3 aD aD ie gS).2 hx) (yI _),nX ((TS m h.iv n k' p ga ho.valid c3 aD aD ie gS).2 hx) (yI _),e0⟩
  .exact ⟨[],2,nX (Z5 m h gh n k p ga ie gS c2 c3 hk) (yI _),nX (Z2 m h gh n k p ga ie gS c2 c3 hk) (yI _),e0⟩
 .exact ⟨[],1,nX (Z4 m h gh n k p ga ie gS hc) (yI _),nX (Z1 m h gh n k p ga ie gS hc) (yI _),e0⟩
def acI(s:jq)(x:List RI)(h:RI)(k p:Int)(g:s.jo)(gx0:∀ y,y ∈ x->y.jo)(gh:h.jo):gJ 6 [jW s,jk x,kH h,iP k,iP p] (bP true):=by
 have gx:=abf gx0;by_cases hL:(sr s=true/\qt x=true/\qt [h]=true/\¬(128<p/\p<=512)/\¬(pV s x=true/\tA s=false))
 case neg=>exact aao s x h k p g gx hL
 obtain⟨l1,l2,l3,l4,l5⟩:=hL;have sm:=JH l1;have lC:x.length<=1000:=by have:=Hy l2;omega
 have e0:gJ 36 [gV [],gV []] (bP true):=Jq [] aF (λi hi=>absurd hi (bC i)) (λi hi=>absurd hi (bC i));have no:∀ c:Int,c≠0->gJ 43 [jW s,jk x,iP p] (.hH [.v (.slice none 0 0),iP c])->gJ 51 [jW s,jk x,iP p] (.hH [.v (.slice none 0 0),iP c])->gJ 34 [jW s,jk x,iP p] (.hH [.agg ar,iP c])->gJ 35 [jW s,jk x,iP p] (.hH [.agg ar,iP c])->gJ 6 [jW s,jk x,kH h,iP k,iP p] (bP true):=λc hc j1 j2 j3 j4=>
  Pw s x h k p g gx ⟨l1,l2,l3,l4,l5⟩ [] ID c c ajj (nX (aap s x h k p c hc j1) (yI _)) (nX (aam s x h k p c hc j2) (yI _)) (nX j3 (WJ _)) (nX j4 (WJ _)) e0
 cases iN:pV s x with
 |false=>exact no 1 aF (RO s g sm x gx lC p iN) (RJ s g sm x gx lC p iN) (YX s g sm x gx lC p iN) (YN s g sm x gx lC p iN)
 |true=>
  have Bi:=iN;unfold pV at Bi;rw[bQ]at Bi;obtain⟨o1,e1⟩:=ag8 g Bi.1;obtain⟨o5,e4⟩:=XD gx Bi.2;have o5:oM s.v.ij (x.map RI.iv):=o5;have c5:=B3 s g sm x gx lC;rw[iN,e1,e4]at c5;have hr:tA s=true:=by
   cases hq:tA s with
   |true=>rfl
   |false=>exact absurd ⟨iN,hq⟩ l5
  rw[e1,e4]at no ⊢;cases hp:jV p with
  |false=>exact no 2 aF (RP s.v _ p o1 o5 hp) (RK s.v _ p hp c5) (YY s.v _ p o1 o5 hp) (YO s.v _ p hp c5)
  |true=>
   obtain⟨p1,p2⟩:=mm.1 hp;obtain⟨q,rfl⟩:=dm (aD:0<=p);have q1:8<=q:= aD ;have q2:q<=512:= aD ;have rt:=af5 hr o1;cases hn:tp s.v (x.map RI.iv) q with
   |true=>exact no 11 aF (PE s.v _ q o1 o5 rt q1 q2 hn) (RM s.v _ q o1 rt o5 c5 q1 q2 hn) (YV s.v _ q o1 o5 rt q1 q2 hn) (YP s.v _ q o1 rt o5 c5 q1 q2 hn)
   |false=>
    have ga:=acB o1 o5 (aD:1<=q) (aD:q<=4096);obtain⟨X,c,x1,x2,x3⟩:=Z3 _ h gh _ k q ga q1 q2;have f1:=aaq s x h k q c _ X (by rw[e1,e4];exact PF s.v _ q o1 o5 rt q1 q2 hn) x1;have f2:=aan s x h k q c _ X (by rw[e1,e4];exact RN s.v _ q o1 rt o5 c5 q1 q2 hn) x2;have d1:=YW s.v _ q o1 o5 rt q1 q2 hn;have d2:=YR s.v _ q o1 rt o5 c5 q1 q2 hn;rw[<-e1,<-e4]at d1 d2 ⊢;exact Pw s x h k q g gx ⟨l1,l2,l3,l4,l5⟩ X _ c 0 (Ig o1 o5 (aD:1<=q) (aD:q<=4096) _) f1 f2 d1 d2 x3
open Go.ChangeShapes Go.WideShapes Go.ChangeAt
def IG(W:World)(o:mQ)(cs:List Value):Prop:=o.jo/\cs.length=6/\∀ j,j<6->∃ v,cs[j]? = some v/\iz mE mE W ((xI o).getD j .any) v
def acX{α:Type}{l:List α}(h:l.length=2):∃ a b,l=[a,b]:=by
 rcases l with _|⟨a,_|⟨b,_|⟨c,l⟩⟩⟩<;>simp at h
 exact⟨a,b,rfl⟩
def acY{α:Type}{l:List α}(h:l.length=5):∃ a b c d e,l=[a,b,c,d,e]:=by
 rcases l with _|⟨a,_|⟨b,_|⟨c,_|⟨d,_|⟨e,_|⟨f,l⟩⟩⟩⟩⟩⟩<;>simp at h
 exact⟨a,b,c,d,e,rfl⟩
def acZ{α:Type}{l:List α}(h:l.length=6):∃ a b c d e f,l=[a,b,c,d,e,f]:=by
 rcases l with _|⟨a,_|⟨b,_|⟨c,_|⟨d,_|⟨e,_|⟨f,_|⟨g,l⟩⟩⟩⟩⟩⟩⟩<;>simp at h
 exact⟨a,b,c,d,e,f,rfl⟩
section
variable {H:Type} {enc:TypeId×Value->H} {W:World} {fuel:Nat} {cs:List Value} {x:DataW H×List MemPlace}
def yK(h:DataW.trod enc prog W 0 (λ_=>true) true fuel 3 cs=some x):∃ z,cs=[.int .i64 z]/\ko .i64 z:=by
 obtain⟨z,hz,_,hw⟩:=DataW.trod_int underlying3 h;exact⟨z,hz,WE hw⟩
def aeg(h:DataW.trod enc prog W 0 (λ_=>true) true fuel 72 cs=some x):∃ n d,cs=[.int .i64 n,.int .i64 d]/\ko .i64 n/\ko .i64 d:=by
 obtain⟨xs,n,rfl,rfl,hl,lC,hf⟩:=DataW.trod_struct underlying72 h;have hC:prog.cellsOf 72=2:= aG ;have hI:prog.cellsOf 3=1:= aG ;rw[hC]at hl;obtain⟨c0,c1,rfl⟩:=acX hl;have h0:=hf 0 _ rfl;have h1:=hf 1 _ rfl;simp only[eU,eV,ee]at h0 h1;simp only[hI,eW,eX,ey,eZ]at h0 h1;rw[bt (by rw[lC];decide)]at h0 h1;obtain⟨z0,e0,w0⟩:=yK h0;obtain⟨z1,e1,w1⟩:=yK h1;simp at e0 e1;subst e0 e1;exact⟨z0,z1,rfl,w0,w1⟩
def aeh(h:DataW.trod enc prog W 0 (λ_=>true) true fuel 74 cs=some x):∃ o,IG W o cs:=by
 obtain⟨xs,n,rfl,rfl,hl,lC,hf⟩:=DataW.trod_struct underlying74 h;have hC:prog.cellsOf 74=6:= aG ;have hR:prog.cellsOf 72=2:= aG ;have hI:prog.cellsOf 3=1:= aG ;rw[hC]at hl;obtain⟨c0,c1,c2,c3,c4,c5,rfl⟩:=acZ hl;have h0:=hf 0 _ rfl;have h1:=hf 1 _ rfl;have h2:=hf 2 _ rfl;have h3:=hf 3 _ rfl;have h4:=hf 4 _ rfl;simp only[eU,eV,ee]at h0 h1 h2 h3 h4;simp only[hI,hR,eW,eX,ey,eZ]at h0 h1 h2 h3 h4;rw[bt (by rw[lC];decide)]at h0 h1 h2 h3 h4;obtain⟨z0,e0,w0⟩:=yK h0;obtain⟨z1,e1,w1⟩:=yK h1;obtain⟨z2,e2,w2⟩:=yK h2;obtain⟨z3,e3,w3⟩:=yK h3;obtain⟨z4,z5,e4,w4,w5⟩:=aeg h4;simp at e0 e1 e2 e3 e4;obtain⟨e4,e5⟩:=e4;subst e0 e1 e2 e3 e4 e5;refine⟨⟨z0,z1,z2,z3,z4,z5⟩,⟨w0,w1,w2,w3,w4,w5⟩,rfl,λj hj=>?_⟩;rcases j with _|_|_|_|_|_|j
 all_goals first|exact⟨_,rfl,.v _⟩|omega
def agX(o:mQ)(j:Nat)(hj:j<6):((xI o).getD j .any).one=true/\(((xI o).getD j .any).mX=true)/\((xI o).getD j .any).nr 2=true:=by
 rcases j with _|_|_|_|_|_|j
 all_goals first|exact⟨rfl,rfl,rfl⟩|omega
def aei(h:DataW.trod enc prog W 0 (λ_=>true) true fuel 22 cs=some x):
  ∃ l v,cs=[v]/\(∀ y,y ∈ l->y.jo)/\iz mE mE W (jC l) v:=by
 have hC:prog.cellsOf 74=6:= aG ;rcases Deep.open_slice underlying22 h with⟨rfl,_⟩|⟨a,len,cap,m,n,D,Pl,rfl,hb,hl,hm,sv,rfl,hx⟩
 .exact ⟨[],_,rfl,(λy hy=>by cases hy),.sl true 0 6 _ none 0 (λ_ _=>.bool false) (bp _) aF (λ_=>rfl) (λi j hi=>absurd hi (bC i)) (λi j hi=>absurd hi (bC i)) (λi j hi=>absurd hi (bC i)) (λi j hi=>absurd hi (bC i))⟩
 .simp only[bI]at sv;subst sv;have ex:∀ i,∃ y:mQ,i<len->∃ cs',W.cells? 0 (a.add (i*6)) 6=some cs'/\IG W y cs':=by
   intro i;by_cases hi:i<len
   .obtain ⟨cs',h1,h2⟩:=hx i aD ;rw[hC]at h1;obtain⟨y,hy⟩:=aeh h2;exact⟨y,λ_=>⟨cs',h1,hy⟩⟩
   .exact ⟨iU,λh=>absurd h hi⟩
  let X:Nat->mQ:=λi=>Classical.choose (ex i)
  have hX:∀ i,i<len->∃ cs',W.cells? 0 (a.add (i*6)) 6=some cs'/\IG W (X i) cs':=λi=>dS (ex i)
  have hlen:((List.range len).map X).length=len:= aJ ;refine⟨(List.range len).map X,_,rfl,?_,?_⟩
  .intro y hy;obtain⟨i,hi,rfl⟩:=cw.1 hy;obtain⟨cs',_,h2⟩:=hX i (bD.1 hi);exact h2.1
  .have zI:∀ i,i<len->((List.range len).map X).getD i iU=X i:=by
    intro i hi;rw[bn,cD,aka hi];rfl
   have:=Mb (W:=W) (a:=a) (len:=len) (cap:=m) (nl:=true) (λi j=>(xI (((List.range len).map X).getD i iU)).getD j .any) hl hm (show 0<6 by decide)
    (λi j _ hj=>let⟨h1,h2,h3⟩:=agX (((List.range len).map X).getD i iU) j hj;⟨h1,λ_=>h2,h3⟩)
    (λi hi=>by
     obtain⟨cs',h1,h2,_,h3⟩:=hX i hi;exact⟨cs',h1,λj hj=>by rw[zI i hi];exact h3 j hj⟩)
   unfold jC;rw[hlen];exact this
def agV:iU.jo:=by constructor<;>(show ko .i64 0;unfold ko;decide)
def JL{α:Type}{P:α->Prop}{l:List α}{d:α}(h:∀ y,y ∈ l->P y)(hd:P d)(i:Nat):P (l.getD i d):=by
 by_cases hi:i<l.length
 .rw [bn,bt hi];exact h _ (ch hi)
 .rw [bn,bR aD];exact hd
def MP(W:World)(s:jq)(cs:List Value):Prop:=s.jo/\cs.length=5/\∀ j,j<5->∃ v,cs[j]? = some v/\iz mE mE W ((Mk s).getD j .any) v
def aek(h:DataW.trod enc prog W 0 (λ_=>true) true fuel 25 cs=some x):
 ∃ (n:Int) (gI:List mQ) (gN:List Int) (v w:Value),cs=[.int .i64 n,v,w]/\ko .i64 n/\(∀ y,y ∈ gI->y.jo)/\(∀ z,z ∈ gN->ko .i64 z)/\iz mE mE W (jC gI) v/\iz mE mE W (jG gN) w:=by
 obtain⟨xs,n,rfl,rfl,hl,lC,hf⟩:=DataW.trod_struct underlying25 h;have hC:prog.cellsOf 25=3:= aG ;have hI:prog.cellsOf 3=1:= aG ;have hO:prog.cellsOf 22=1:= aG ;have hU:prog.cellsOf 23=1:= aG ;rw[hC]at hl;obtain⟨c0,c1,c2,rfl⟩:=R2 hl;have h0:=hf 0 _ rfl;have h1:=hf 1 _ rfl;have h2:=hf 2 _ rfl;simp only[eU,eV,ee]at h0 h1 h2;simp only[hI,hO,hU,eW,eX,ey,eZ]at h0 h1 h2;rw[bt (by rw[lC];decide)]at h0 h1 h2;obtain⟨z0,e0,w0⟩:=yK h0;obtain⟨gI,v,e1,g1,r1⟩:=aei h1;obtain⟨gN,w,e2,g2,r2⟩:=aee (k:=.i64) (λ_=>rfl) underlying23 underlying3 hI h2;simp at e0 e1 e2;subst e0 e1 e2;exact⟨z0,gI,gN,_,_,rfl,w0,g1,g2,r1,r2⟩
def aej(h:DataW.trod enc prog W 0 (λ_=>true) true fuel 28 cs=some x)(iE:∀ p ∈ x.2,p.block<W.heap.size):∃ s,MP W s cs:=by
 obtain⟨xs,n,rfl,rfl,hl,lC,hf⟩:=DataW.trod_struct underlying28 h;have hC:prog.cellsOf 28=5:= aG ;have hT:prog.cellsOf 25=3:= aG ;have hI:prog.cellsOf 3=1:= aG ;have hP:prog.cellsOf 26=1:= aG ;rw[hC]at hl;obtain⟨c0,c1,c2,c3,c4,rfl⟩:=acY hl;have h0:=hf 0 _ rfl;have h1:=hf 1 _ rfl;have h2:=hf 2 _ rfl;simp only[eU,eV,ee]at h0 h1 h2;simp only[hT,hI,hP,eW,eX,ey,eZ]at h0 h1 h2;rw[bt (by rw[lC];decide)]at h0 h1 h2;obtain⟨z0,gI,gN,v,w,e0,w0,g1,g2,r1,r2⟩:=aek h0;obtain⟨z1,e1,w1⟩:=yK h1;obtain⟨ps,u,e2,g3,r3⟩:=Tf h2 (λp hp=>iE p (e7.2 ⟨_,ch _,hp⟩));simp at e0 e1 e2;obtain⟨e0,e0b,e0c⟩:=e0;subst e0 e0b e0c e1 e2;refine⟨⟨z0,gI,gN,z1,ps⟩,⟨w0,JL g1 agV,JL g2 (by unfold ko;decide),w1,JL g3 Hu⟩,rfl,λj hj=>?_⟩;rcases j with _|_|_|_|_|j
 .exact ⟨_,rfl,.v _⟩
 .exact ⟨_,rfl,r1⟩
 .exact ⟨_,rfl,r2⟩
 .exact ⟨_,rfl,.v _⟩
 .exact ⟨_,rfl,r3⟩
 .omega
end
def air{W:World}{x:jq}{cs:Array Value}(h:MP W x cs.toList):iz mE mE W (jW x) (.agg cs):=by
 obtain⟨_,hl,h⟩:=h;have:=iz.agg (bs:=mE) (br:=mE) (w:=W) (Mk x) cs.toList (by rw[hl];rfl) (λi p v h1 h2=>by
  have hi:i<5:=by have:=(cg.1 h2).1;omega
  obtain⟨v',h3,h4⟩:=h i hi;rw[h2]at h3;cases h3;rw[bn,h1]at h4;exact h4)
 unfold jW;exact this
def ZW:Value:=.agg #[.bool false,.slice none 0 0,.int .i64 0,.bool false,.slice none 0 0,.int .i64 0,.bool false]
def ZX{H:Type}:DataW H:=.agg [.agg [.lit (.bool false),.nil,.lit (.int .i64 0)],.agg [.lit (.bool false),.nil,.lit (.int .i64 0)],.lit (.bool false)]
def ZY:Value:=.agg #[.int .i64 0,.slice none 0 0,.slice none 0 0,.int .i64 0,.slice none 0 0]
def ZZ{H:Type}:DataW H:=.agg [.agg [.lit (.int .i64 0),.nil,.nil],.lit (.int .i64 0),.nil]
def AR:Array Value:=#[ZY,.slice none 0 0,ZW,.int .i64 0,.int .i64 0]
set_option maxRecDepth 100000 in
def ai4(H:Type)(enc:TypeId×Value->H)(W:World)(base:Nat)(args:Array Value)(ds gs:List (DataW H))(before:List MemPlace)
 (kR:∀ (j:Nat) t v,Tryz.f6.params[j]? = some t->args[j]? = some v->Value.okWide prog W .any base t v)
 (hW:DataW.Whole enc prog Tryz.f6.params.toList Rows.variationFlowSpec.vars false W args.toList ds gs before) (hL:laidMetH prog Rows.variationFlowRow.laid W):
 Calls prog 6 args W λe W'=>∃ v,e = .returned v/\Rows.variationFlowSpec.post enc prog Tryz.f6 false true false false W args v W':=by
 have FW:=hW;obtain⟨p,q,Be,hV,rfl,hfz,hnd⟩:=hW;have hA:DataW.TrodAll enc prog W 0 (λ_=>true) true Tryz.f6.params.toList args.toList ds p:=Be;rw[Tryz.params6]at hA kR;obtain⟨v0,vs0,d0,ds0,p0,q0,BE,rfl,rfl,h0,Be⟩:=trodAll_cons hA;obtain⟨v1,vs1,d1,ds1,p1,q1,rfl,rfl,rfl,h1,hA1⟩:=trodAll_cons Be;obtain⟨v2,vs2,d2,ds2,p2,q2,rfl,rfl,rfl,h2,hA2⟩:=trodAll_cons hA1;obtain⟨v3,vs3,d3,ds3,p3,q3,rfl,rfl,rfl,h3,hA3⟩:=trodAll_cons hA2;obtain⟨v4,vs4,d4,ds4,p4,q4,rfl,rfl,rfl,h4,hA4⟩:=trodAll_cons hA3;obtain⟨rfl,rfl,rfl⟩:=trodAll_nil hA4;obtain rfl:args = #[v0,v1,v2,v3,v4]:=by cases args;simp_all
 obtain⟨rfl,rfl⟩:=trodVars_none hV;obtain⟨cs0,rfl,ajw⟩:=okWide_struct underlying28 (kR 0 28 v0 rfl rfl);obtain⟨a1,len1,cap1,rfl⟩:=okWide_slice underlying26 (kR 1 26 v1 rfl rfl);obtain⟨cs2,rfl,Q2⟩:=okWide_struct underlying46 (kR 2 46 v2 rfl rfl);obtain⟨x3,rfl,rfl,rfl,b3⟩:=open_int underlying3 (kR 3 3 v3 rfl rfl) h3;obtain⟨x4,rfl,rfl,rfl,b4⟩:=open_int underlying3 (kR 4 3 v4 rfl rfl) h4;have h0k:=h0;obtain⟨fuel0,hf0⟩:=h0;have h1k:=h1;obtain⟨fuel1,Ke⟩:=h1;have h2k:=h2;obtain⟨fuel2,Kf⟩:=h2;clear Be;have Bq:∀ x ∈ p0,x.block<W.heap.size:=λx hx=>FW.lt x (by simp[hx])
 have Br:∀ x ∈ p1,x.block<W.heap.size:=λx hx=>FW.lt x (by simp[hx])
 have yl:∀ x ∈ p2,x.block<W.heap.size:=λx hx=>FW.lt x (by simp[hx])
 obtain⟨x0,g0⟩:=aej hf0 Bq;obtain⟨x1,w1,uv,g1,r1⟩:=Tf Ke Br;obtain rfl:Value.slice a1 len1 cap1=w1:=by
  have:(Value.slice a1 len1 cap1).cells.toList=[Value.slice a1 len1 cap1]:=rfl;rw[this]at uv;simpa using uv
 obtain⟨x2,g2⟩:=Te Kf yl;have lB:=(acI x0 x1 x2 x3 x4 g0.1 g1 g2.1).run W mE [.agg cs0,.slice a1 len1 cap1,.agg cs2,.int .i64 x3,.int .i64 x4] (aiz rfl hL) (λ_ h=>h.elim) (.cons (air (cs:=cs0) g0) (.cons r1 (.cons (agT (cs:=cs2) g2) (.cons (.v _) (.cons (.v _) (.nil _ _ _))))));refine lB.mono λr W' ⟨v,hr,hb,qZ⟩=>?_
 obtain rfl:=iz.kE qZ;subst hr;refine⟨_,rfl,_,_,_,[],p0++(p1++(p2++([]++([])))),[],FW,?_,?_,rfl,hb.frame _,λh=>by cases h⟩
 .exact trodAll_mk1 (shut_bool underlying4 _)
 .exact ⟨p0,_,Below.trod DE aG (cK aG) h0k hb Bq,⟨p1,_,Below.trod DE aG (cK aG) h1k hb Br,⟨p2,_,Below.trod DE aG (cK aG) h2k hb yl,⟨[],_,Below.trod DE aG (cK aG) h3 hb (λ_ h=>by cases h),trodAll_mk1 (Below.trod DE aG (cK aG) h4 hb (λ_ h=>by cases h)),rfl⟩,rfl⟩,rfl⟩,rfl⟩
def ai7(os:Os):laidMet prog Rows.variationFlowRow.laid ((KZ os AR).forCall (λ_ _=>0) ⟨#[],AR,[]⟩).memory:=
 laidMet_of_run' 8 aG aG 
def ai9(os:Os){H:Type}(enc:TypeId×Value->H):∃ places,DataW.whole enc prog ((KZ os AR).forCall (λ_ _=>0) ⟨#[],AR,[]⟩).memory Tryz.f6.params.toList Rows.variationFlowSpec.vars false AR.toList 8=some ([ZZ,.nil,ZX,.lit (.int .i64 0),.lit (.int .i64 0)],[],places):=
 ⟨[],aG⟩
set_option maxRecDepth 100000 in
def ai6(os:Os)(started:os.Started)(H:Type)(enc:TypeId×Value->H)(F:Stop.Interp):
  ReturnsInHanded {} Tryz.checked os 6 .any ((OpenSpec.ofChange Rows.variationFlowSpec).preRow enc prog Tryz.f6 Rows.variationFlowRow.domain false Rows.variationFlowRow.laid) (((OpenSpec.ofChange Rows.variationFlowSpec).at F).post enc prog Tryz.f6 false true false false):=by
 obtain⟨places,hx⟩:=ai9 os enc;refine returnsInHanded_of_row (C:=Tryz.checked) (s:=OpenSpec.ofChange Rows.variationFlowSpec) own started aG func6
  (witness_row_at (enc:=enc) (C:=Tryz.checked) false (KZ os AR) AR rfl aG aG aG 
   (OpenSpec.preRow_of_cond 8 hx aG (λk hk=>by cases hk) aG (ai7 os))) ?_
 intro W base args ds gs before kR hW _ _ _ hL _ _;exact ai4 H enc W base args ds gs before kR hW hL
set_option maxHeartbeats 100000000 in
def ai5:joinedFacts prog 6 Tryz.f6 (OpenSpec.ofChange Rows.variationFlowSpec).bare Rows.variationFlowRow=true:=by
 unfold joinedFacts;simp only[bQ]
 and_intros<;>decide +kernel
def aja:Rows.VariationFlowSaid:=
 OpenClaim.holds_of_cond 6 Tryz.f6 rfl rfl rfl rfl rfl rfl rfl ⟨rfl,rfl,rfl,rfl,rfl⟩ rfl rfl rfl rfl rfl aG func6 ai5
  (cK aG) (by unfold Func.isWrapper;first|(rw[bj aP];kernel_rfl)|(rw[bh aP];exact⟨rfl,rfl⟩))
  (λos started H enc _ F=>by rw[OpenClaim.pre_eq_preRow];exact ai6 os started H enc F)
def ai8 (f:FuncId) (fn:Func) (hf:Tryz.pinned.checked.prog.funcNamed "flowpipe/flowpipelaw32.VariationFlow" = some f) (hfn:Tryz.pinned.checked.prog.funcs[f]? = some fn):
 false=Tryz.pinned.checked.prog.looks []/\∀ (j:Nat) t,fn.params[j]? = some t->Tryz.pinned.checked.prog.wantsStandIn t=false:=by
 obtain rfl:f=6:=aj2 ((show prog.funcNamed "flowpipe/flowpipelaw32.VariationFlow" = some 6 by kernel_rfl).symm.trans hf) |>.symm
 obtain rfl:fn=Tryz.f6:=(aj2 (func6.symm.trans hfn)).symm;refine⟨aG,λj t ht=>?_⟩;rw[Tryz.params6]at ht;have:t=28\/t=26\/t=46\/t=3:=by
  have:=dI ht;simp only[gi,cM,ajN,fO]at this;rcases this with h|h|h|h|h<;>subst h<;>simp
 rcases this with rfl|rfl|rfl|rfl
 .exact (show prog.wantsStandIn 28=false by kernel_rfl)
 .exact (show prog.wantsStandIn 26=false by kernel_rfl)
 .exact (show prog.wantsStandIn 46=false by kernel_rfl)
 .exact (show prog.wantsStandIn 3=false by kernel_rfl)
theorem vflow_card:Rows.VariationFlowCardSaid:=
 Claim7.holds_tied_plain_at .later [] _ _ _ _ aja (λ_ h=>by cases h) aG (λ_ h=>by cases h) variationFlow_row_tie rfl ⟨rfl,rfl⟩ aG rfl ai8 (abe aau rfl)
end Go.Proofs.YtkjkcjhacddojaaGreatDoor
