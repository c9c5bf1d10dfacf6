/- Rest returns the boxes of all roots, if they are all sure, and fails otherwise. -/
import Derived.Test.YtjkmahljfblobaaGreatDoorM05
set_option linter.unusedSimpArgs false
set_option linter.unusedVariables false
set_option linter.defProp false
set_option maxHeartbeats 4000000
open Go.Proofs.Tryz
namespace Go.Proofs.YtjkmahljfblobaaGreatDoor
open Go.RowKit Fp Pu
section
variable(t:je)
def aaV(n:Int)(N:Nat)(x:Nat):PS:=⟨88,true,[(12,.e<|iP x),(8,.box 8 0),(6,.box 6 0),(3,.box 3 0)],[(8,.cells 153 [iP 1,iP 0,iP 0,iP 0,iP n,iP 1]),(6,.cells 29 [iP 0,.v<|.slice none 0 0,.v<|.slice none 0 0]),(3,.cells 29 [iP t.iI,lG t.iq,lL t.iz])]⟩
def aaU(n:Int)(x:Nat):PS:=⟨88,true,[(12,.e<|iP x),(8,.box 8 0),(6,.box 6 0),(3,.box 3 0)],[(8,.cells 153 [iP 1,iP 0,iP 0,iP 0,iP n,iP 1]),(6,.cells 29 [iP 0,.v<|.slice none 0 0,.v<|.slice none 0 0]),(3,.cells 29 [iP t.iI,lG t.iq,lL t.iz])]⟩
def aaX(k n:Nat)(e:mL)(N:Nat)(x:Nat):PS:=⟨88,true,[(12,.e<|iP x),(8,.box 8 0),(6,.box 6 0),(3,.box 3 0)],[(8,.cells 153 [iP k,iP (((iF t e).2:Nat):Int),iP 0,iP n,iP 0,iP 0]),(3,.cells 29 [iP (((iF t e).1).iI:Int),lG<|((iF t e).1).iq,lL<|((iF t e).1).iz]),(6,.cells 29 [iP 0,.v<|.slice none 0 0,.v<|.slice none 0 0])]⟩
def aaW(k n:Nat)(e:mL)(x:Nat):PS:=⟨88,true,[(12,.e<|iP x),(8,.box 8 0),(6,.box 6 0),(3,.box 3 0)],[(8,.cells 153 [iP k,iP (((iF t e).2:Nat):Int),iP 0,iP n,iP 0,iP 0]),(3,.cells 29 [iP (((iF t e).1).iI:Int),lG<|((iF t e).1).iq,lL<|((iF t e).1).iz]),(6,.cells 29 [iP 0,.v<|.slice none 0 0,.v<|.slice none 0 0])]⟩
def aaT(k:Nat)(a b:mL)(N:Nat)(x:Nat):PS:=⟨88,true,[(12,.e<|iP x),(8,.box 8 0),(6,.box 6 0),(3,.box 3 0)],[(8,.cells 153 [iP k,iP (((iF t a).2:Nat):Int),iP (((iF (iF t a).1 b).2:Nat):Int),iP 0,iP 0,iP 0]),(3,.cells 29 [iP (((iF (iF t a).1 b).1).iI:Int),lG<|((iF (iF t a).1 b).1).iq,lL<|((iF (iF t a).1 b).1).iz]),(6,.cells 29 [iP 0,.v<|.slice none 0 0,.v<|.slice none 0 0])]⟩
def aaS(k:Nat)(a b:mL)(x:Nat):PS:=⟨88,true,[(12,.e<|iP x),(8,.box 8 0),(6,.box 6 0),(3,.box 3 0)],[(8,.cells 153 [iP k,iP (((iF t a).2:Nat):Int),iP (((iF (iF t a).1 b).2:Nat):Int),iP 0,iP 0,iP 0]),(3,.cells 29 [iP (((iF (iF t a).1 b).1).iI:Int),lG<|((iF (iF t a).1 b).1).iq,lL<|((iF (iF t a).1 b).1).iz]),(6,.cells 29 [iP 0,.v<|.slice none 0 0,.v<|.slice none 0 0])]⟩
end
def aq7:((⟨#[120]⟩:ByteArray).toList==(⟨#[121]⟩:ByteArray).toList)=false:= aL 
def aor : il 154 [nP,.v<|.string ⟨#[120]⟩]<|iP 0:=
 iE (af [.u 4,ah 9 (decide ((0:Int)<2)) aE,iX 0 2,.g (Nd<|atu _:mP prog .eql 9 (.v<|.string ⟨#[120]⟩) (.v<|.string ⟨#[120]⟩)<|.bool true)])
def aos : il 154 [nP,.v<|.string ⟨#[121]⟩]<|iP 1:=
 iE (af [.u 4,ah 9 (decide ((0:Int)<2)) aE,iX 0 2,.g (Nd aq7:mP prog .eql 9 (.v<|.string ⟨#[120]⟩) (.v<|.string ⟨#[121]⟩)<|.bool false),iL<|0+1,ah 9 (decide (((0+1):Int)<2)) aE,iX (0+1) 2,.g (Nd<|atu _:mP prog .eql 9 (.v<|.string ⟨#[121]⟩) (.v<|.string ⟨#[121]⟩)<|.bool true)])
abbrev PY(e:mL):E:=.sl true 1 6 λi j=>(jB e).getD (i*6+j)<|.v<|.bool false
abbrev tH(a b:mL):E:=.sl true 2 6 λi j=>(jB a++jB b).getD (i*6+j)<|.v<|.bool false
def L3(e:mL):(jB e).length=6:=by
 cases e with
 |var y=>cases y<;>rfl
 |_=>rfl
def NU{l:List E}(h:l.length=6):∃ a b c d e f,l=[a,b,c,d,e,f]:=by
 rcases l with _|⟨a,_|⟨b,_|⟨c,_|⟨d,_|⟨e,_|⟨f,_|⟨g,l⟩⟩⟩⟩⟩⟩⟩<;>first|exact⟨_,_,_,_,_,_,rfl⟩|(simp at h;done)|(simp at h;omega)
def Wo(e:mL):E.agg [(jB e).getD (0*6+0)<|.v<|.bool false,(jB e).getD (0*6+1)<|.v<|.bool false,(jB e).getD (0*6+2)<|.v<|.bool false,(jB e).getD (0*6+3)<|.v<|.bool false,(jB e).getD (0*6+4)<|.v<|.bool false,(jB e).getD (0*6+5)<|.v<|.bool false]=jo e:=by
 unfold jo;obtain⟨a,b,c,d,e,f,h⟩:=NU<|L3 e;rw[h];rfl
def PZ(a b:mL):E.agg [(jB a++jB b).getD (0*6+0)<|.v<|.bool false,(jB a++jB b).getD (0*6+1)<|.v<|.bool false,(jB a++jB b).getD (0*6+2)<|.v<|.bool false,(jB a++jB b).getD (0*6+3)<|.v<|.bool false,(jB a++jB b).getD (0*6+4)<|.v<|.bool false,(jB a++jB b).getD (0*6+5)<|.v<|.bool false]=jo a:=by
 unfold jo;obtain⟨a,b,c,d,e,f,h⟩:=NU<|L3 a;rw[h];rfl
def P0(a b:mL):E.agg [(jB a++jB b).getD (1*6+0)<|.v<|.bool false,(jB a++jB b).getD (1*6+1)<|.v<|.bool false,(jB a++jB b).getD (1*6+2)<|.v<|.bool false,(jB a++jB b).getD (1*6+3)<|.v<|.bool false,(jB a++jB b).getD (1*6+4)<|.v<|.bool false,(jB a++jB b).getD (1*6+5)<|.v<|.bool false]=jo b:=by
 unfold jo;obtain⟨a',b',c',d',e',f',h'⟩:=NU<|L3 b;obtain⟨a,b,c,d,e,f,h⟩:=NU<|L3 a;rw[h,h'];rfl
section
variable(t:je)
def anL(ht:qw t):il 90 [jT t,jo<|.var true,nP]<|.iH [jT t,iP 1]:=
 iE (af [ah 15 ((2:Int)==2) aE,ag [nP,.v<|.string ⟨#[121]⟩] aos])
def anK(ht:qw t):il 90 [jT t,jo<|.var false,nP]<|.iH [jT t,iP 0]:=
 iE (af [ah 15 ((2:Int)==2) aE,ag [nP,.v<|.string ⟨#[120]⟩] aor])
def anH(ht:qw t)(n:Int)(he:(mL.num n).Ok)(hu:qw t)(hl:t.iq.length<=800)(qD:xF<|jv.mk 1 0 0 0 n 1)(N:Nat)(qd:N<t.iq.length)(ji:∀ i,i<N->om (t.iq.getD i iU) (jv.mk 1 0 0 0 n 1)=false)(hN:om (t.iq.getD N iU) (jv.mk 1 0 0 0 n 1)=true):il 90 [jT t,jo<|.num n,nP]<|.iH [jT t,iP ((t.iI+N:Nat):Int)]:=by
 have vV:=hu.sm aC;have Jo:=hu.iI;exact iE (af [ai 15 ((1:Int)==2) aE,.u 4,ai 32 (decide ((0:Int)<0)) aE,.s (Sp.jP (aaV t n N) 0 N aC (λx hx mX=>by
    have sH:=vV x aC;exact iS (af [tT 57 ((x:Int)<t.iq.length) aC,iX (x:Int)<|t.iq.length,.g (Cd _ (jv.mk 1 0 0 0 n 1) sH qD:mP prog .eql 153 (rD<|t.iq.getD x iU) (.agg [iP 1,iP 0,iP 0,iP 0,iP n,iP 1])<|.bool<|om (t.iq.getD x iU)<|jv.mk 1 0 0 0 n 1),ai 66 (om (t.iq.getD x iU)<|jv.mk 1 0 0 0 n 1)<|ji x aC,iL<|(x:Int)+1]) aF)
  (λhx=>by
    have sH:=vV N aC;exact iS (af [tT 57 ((N:Int)<t.iq.length) aC,iX (N:Int)<|t.iq.length,.g (Cd _ (jv.mk 1 0 0 0 n 1) sH qD:mP prog .eql 153 (rD<|t.iq.getD N iU) (.agg [iP 1,iP 0,iP 0,iP 0,iP n,iP 1])<|.bool<|om (t.iq.getD N iU)<|jv.mk 1 0 0 0 n 1),ah 66 (om (t.iq.getD N iU)<|jv.mk 1 0 0 0 n 1) hN,iL<|(t.iI:Int)+N]) aF) aI:jM 13 Tryz.f90 (aaV t n N 0) .ret ⟨88,true,[(7,.e<|iP ((t.iI+N:Nat):Int)),(6,.box 6 0)],[(6,.cells 29 [iP t.iI,lG t.iq,lL t.iz])]⟩) .nil])
def anG(ht:qw t)(n:Int)(he:(mL.num n).Ok)(hu:qw t)(hl:t.iq.length<=800)(qD:xF<|jv.mk 1 0 0 0 n 1)(ji:∀ i,i<t.iq.length->om (t.iq.getD i iU) (jv.mk 1 0 0 0 n 1)=false):il 90 [jT t,jo<|.num n,nP]<|.iH [jT { t with iq:=t.iq++[jv.mk 1 0 0 0 n 1] },iP ((t.iI+t.iq.length:Nat):Int)]:=by
 have vV:=hu.sm aC;have Jo:=hu.iI;have mj:(t.iq++[jv.mk 1 0 0 0 n 1]).length=t.iq.length+1:=by rw[cz];rfl
 exact iE (af [ai 15 ((1:Int)==2) aE,.u 4,ai 32 (decide ((0:Int)<0)) aE,.s (Sp.jP (aaU t n) 0 t.iq.length aC (λx hx mX=>by
    have sH:=vV x aC;exact iS (af [tT 57 ((x:Int)<t.iq.length) aC,iX (x:Int)<|t.iq.length,.g (Cd _ (jv.mk 1 0 0 0 n 1) sH qD:mP prog .eql 153 (rD<|t.iq.getD x iU) (.agg [iP 1,iP 0,iP 0,iP 0,iP n,iP 1])<|.bool<|om (t.iq.getD x iU)<|jv.mk 1 0 0 0 n 1),ai 66 (om (t.iq.getD x iU)<|jv.mk 1 0 0 0 n 1)<|ji x aC,iL<|(x:Int)+1]) aF)
  (λhx=>by
    exact iS (af [tF 57 ((t.iq.length:Int)<t.iq.length) aC]) aF) aI:jM 13 Tryz.f90 (aaU t n 0) (.exit 2) ⟨88,true,[(8,.box 8 0),(6,.box 6 0),(3,.box 3 0)],[(8,.cells 153 [iP 1,iP 0,iP 0,iP 0,iP n,iP 1]),(6,.cells 29 [iP 0,.v<|.slice none 0 0,.v<|.slice none 0 0]),(3,.cells 29 [iP t.iI,lG t.iq,lL t.iz])]⟩) .nil,
  .bo,.a (aC:(0+t.iq.length)*48<=140737488355328),.o 77 (.refl _:aj (.sl true 1 6 λi_ j_=>[iP 1,iP 0,iP 0,iP 0,iP n,iP 1].getD (i_*6+j_)<|.v<|.bool false)<|.sl true 1 6 λi_ j_=>[iP 1,iP 0,iP 0,iP 0,iP n,iP 1].getD (i_*6+j_)<|.v<|.bool false),
  .bo,.a (aC:((0+t.iq.length)+1)*48<=140737488355328),.o 78 (.e (Sx λj hj=>by rcases j with _|_|_|_|_|_|j<;>first|rfl|omega):aj (.sl true ((0+t.iq.length)+1) 6 λi_ j_=>if i_<(0+t.iq.length)then(λi_ j_=>if i_<0 then(λi_ j_=>([]:List E).getD (i_*6+j_)<|.v<|.bool false) i_ j_ else(E.ky<|lG t.iq) (i_-0) j_) i_ j_ else(E.ky<|.sl true 1 6 λi_ j_=>[iP 1,iP 0,iP 0,iP 0,iP n,iP 1].getD (i_*6+j_)<|.v<|.bool false) (i_-(0+t.iq.length)) j_)<|lG<|t.iq++[jv.mk 1 0 0 0 n 1]),
  iL ((t.iI:Int)+((t.iq++[jv.mk 1 0 0 0 n 1]).length:Int)),iL<|((t.iI+(t.iq++[jv.mk 1 0 0 0 n 1]).length:Nat):Int)-1,.o 87<|aq (((t.iI+(t.iq++[jv.mk 1 0 0 0 n 1]).length:Nat):Int)-1) ((t.iI+t.iq.length:Nat):Int) aR])
def anJ(ht:qw t)(k n:Nat)(e:mL)(he:(mL.un k n e).Ok)(ih:il 90 [jT t,jo e,nP]<|.iH [jT (iF t e).1,iP (((iF t e).2:Nat):Int)])(hu:qw<|(iF t e).1)(hl:((iF t e).1).iq.length<=800)(qD:xF<|jv.mk k (iF t e).2 0 n 0 0)(N:Nat)(qd:N<((iF t e).1).iq.length)(ji:∀ i,i<N->om (((iF t e).1).iq.getD i iU) (jv.mk k (iF t e).2 0 n 0 0)=false)(hN:om (((iF t e).1).iq.getD N iU) (jv.mk k (iF t e).2 0 n 0 0)=true):il 90 [jT t,jo<|.un k n e,nP]<|.iH [jT<|(iF t e).1,iP ((((iF t e).1).iI+N:Nat):Int)]:=by
 have vV:=hu.sm aC;have Jo:=hu.iI;have sG:=he.1;have oP:=he.2.1;exact iE (af [ai 15 ((k:Int)==2)<|aY aC,.u 4,ah 32 (decide ((0:Int)<1)) aE,iX 0 1,.o 41 (.e<|.jq<|Wo e:aj (.agg [(jB e).getD (0*6+0)<|.v<|.bool false,(jB e).getD (0*6+1)<|.v<|.bool false,(jB e).getD (0*6+2)<|.v<|.bool false,(jB e).getD (0*6+3)<|.v<|.bool false,(jB e).getD (0*6+4)<|.v<|.bool false,(jB e).getD (0*6+5)<|.v<|.bool false])<|jo e),ag [jT t,jo e,nP] ih,ah 48 ((0:Int)==0) aE,iL<|0+1,.k [9,8,6,4,3,2] [8,3,6,4],ai 32 (decide (((0+1):Int)<1)) aE,.s (Sp.jP (aaX t k n e N) 0 N aC (λx hx mX=>by
    have sH:=vV x aC;exact iS (af [tT 57 ((x:Int)<((((iF t e).1).iq).length:Int)) aC,iX (x:Int)<|(((iF t e).1).iq).length,.g (Cd _ (jv.mk k (iF t e).2 0 n 0 0) sH qD:mP prog .eql 153 (rD<|(((iF t e).1).iq).getD x iU) (.agg [iP k,iP (((iF t e).2:Nat):Int),iP 0,iP n,iP 0,iP 0])<|.bool<|om ((((iF t e).1).iq).getD x iU)<|jv.mk k (iF t e).2 0 n 0 0),ai 66 (om ((((iF t e).1).iq).getD x iU)<|jv.mk k (iF t e).2 0 n 0 0)<|ji x aC,iL<|(x:Int)+1]) aF)
  (λhx=>by
    have sH:=vV N aC;exact iS (af [tT 57 ((N:Int)<((((iF t e).1).iq).length:Int)) aC,iX (N:Int)<|(((iF t e).1).iq).length,.g (Cd _ (jv.mk k (iF t e).2 0 n 0 0) sH qD:mP prog .eql 153 (rD<|(((iF t e).1).iq).getD N iU) (.agg [iP k,iP (((iF t e).2:Nat):Int),iP 0,iP n,iP 0,iP 0])<|.bool<|om ((((iF t e).1).iq).getD N iU)<|jv.mk k (iF t e).2 0 n 0 0),ah 66 (om ((((iF t e).1).iq).getD N iU)<|jv.mk k (iF t e).2 0 n 0 0) hN,iL<|(((iF t e).1).iI:Int)+N]) aF) aI:jM 13 Tryz.f90 (aaX t k n e N 0) .ret ⟨88,true,[(7,.e<|iP ((((iF t e).1).iI+N:Nat):Int)),(6,.box 6 0)],[(6,.cells 29 [iP (((iF t e).1).iI:Int),lG<|((iF t e).1).iq,lL<|((iF t e).1).iz])]⟩) .nil])
def anI(ht:qw t)(k n:Nat)(e:mL)(he:(mL.un k n e).Ok)(ih:il 90 [jT t,jo e,nP]<|.iH [jT (iF t e).1,iP (((iF t e).2:Nat):Int)])(hu:qw<|(iF t e).1)(hl:((iF t e).1).iq.length<=800)(qD:xF<|jv.mk k (iF t e).2 0 n 0 0)(ji:∀ i,i<((iF t e).1).iq.length->om (((iF t e).1).iq.getD i iU) (jv.mk k (iF t e).2 0 n 0 0)=false):il 90 [jT t,jo<|.un k n e,nP]<|.iH [jT { (iF t e).1 with iq:=((iF t e).1).iq++[jv.mk k (iF t e).2 0 n 0 0] },iP ((((iF t e).1).iI+((iF t e).1).iq.length:Nat):Int)]:=by
 have vV:=hu.sm aC;have Jo:=hu.iI;have sG:=he.1;have oP:=he.2.1;have mj:(((iF t e).1).iq++[jv.mk k (iF t e).2 0 n 0 0]).length=((iF t e).1).iq.length+1:=by rw[cz];rfl
 exact iE (af [ai 15 ((k:Int)==2)<|aY aC,.u 4,ah 32 (decide ((0:Int)<1)) aE,iX 0 1,.o 41 (.e<|.jq<|Wo e:aj (.agg [(jB e).getD (0*6+0)<|.v<|.bool false,(jB e).getD (0*6+1)<|.v<|.bool false,(jB e).getD (0*6+2)<|.v<|.bool false,(jB e).getD (0*6+3)<|.v<|.bool false,(jB e).getD (0*6+4)<|.v<|.bool false,(jB e).getD (0*6+5)<|.v<|.bool false])<|jo e),ag [jT t,jo e,nP] ih,ah 48 ((0:Int)==0) aE,iL<|0+1,.k [9,8,6,4,3,2] [8,3,6,4],ai 32 (decide (((0+1):Int)<1)) aE,.s (Sp.jP (aaW t k n e) 0 (((iF t e).1).iq.length) aC (λx hx mX=>by
    have sH:=vV x aC;exact iS (af [tT 57 ((x:Int)<((((iF t e).1).iq).length:Int)) aC,iX (x:Int)<|(((iF t e).1).iq).length,.g (Cd _ (jv.mk k (iF t e).2 0 n 0 0) sH qD:mP prog .eql 153 (rD<|(((iF t e).1).iq).getD x iU) (.agg [iP k,iP (((iF t e).2:Nat):Int),iP 0,iP n,iP 0,iP 0])<|.bool<|om ((((iF t e).1).iq).getD x iU)<|jv.mk k (iF t e).2 0 n 0 0),ai 66 (om ((((iF t e).1).iq).getD x iU)<|jv.mk k (iF t e).2 0 n 0 0)<|ji x aC,iL<|(x:Int)+1]) aF)
  (λhx=>by
    exact iS (af [tF 57 ((((iF t e).1).iq.length:Int)<((((iF t e).1).iq).length:Int)) aC]) aF) aI:jM 13 Tryz.f90 (aaW t k n e 0) (.exit 2) ⟨88,true,[(8,.box 8 0),(6,.box 6 0),(3,.box 3 0)],[(8,.cells 153 [iP k,iP (((iF t e).2:Nat):Int),iP 0,iP n,iP 0,iP 0]),(3,.cells 29 [iP (((iF t e).1).iI:Int),lG<|((iF t e).1).iq,lL<|((iF t e).1).iz]),(6,.cells 29 [iP 0,.v<|.slice none 0 0,.v<|.slice none 0 0])]⟩) .nil,
  .bo,.a (aC:(0+(((iF t e).1).iq).length)*48<=140737488355328),.o 77 (.refl _:aj (.sl true 1 6 λi_ j_=>[iP k,iP (((iF t e).2:Nat):Int),iP 0,iP n,iP 0,iP 0].getD (i_*6+j_)<|.v<|.bool false)<|.sl true 1 6 λi_ j_=>[iP k,iP (((iF t e).2:Nat):Int),iP 0,iP n,iP 0,iP 0].getD (i_*6+j_)<|.v<|.bool false),
  .bo,.a (aC:((0+(((iF t e).1).iq).length)+1)*48<=140737488355328),.o 78 (.e (Sx λj hj=>by rcases j with _|_|_|_|_|_|j<;>first|rfl|omega):aj (.sl true ((0+(((iF t e).1).iq).length)+1) 6 λi_ j_=>if i_<(0+(((iF t e).1).iq).length)then(λi_ j_=>if i_<0 then(λi_ j_=>([]:List E).getD (i_*6+j_)<|.v<|.bool false) i_ j_ else(E.ky<|lG<|((iF t e).1).iq) (i_-0) j_) i_ j_ else(E.ky<|.sl true 1 6 λi_ j_=>[iP k,iP (((iF t e).2:Nat):Int),iP 0,iP n,iP 0,iP 0].getD (i_*6+j_)<|.v<|.bool false) (i_-(0+(((iF t e).1).iq).length)) j_)<|lG<|((iF t e).1).iq++[jv.mk k (iF t e).2 0 n 0 0]),
  iL ((((iF t e).1).iI:Int)+((((iF t e).1).iq++[jv.mk k (iF t e).2 0 n 0 0]).length:Int)),
  iL (((((iF t e).1).iI+(((iF t e).1).iq++[jv.mk k (iF t e).2 0 n 0 0]).length:Nat):Int)-1),.o 87<|aq (((((iF t e).1).iI+(((iF t e).1).iq++[jv.mk k (iF t e).2 0 n 0 0]).length:Nat):Int)-1) ((((iF t e).1).iI+((iF t e).1).iq.length:Nat):Int) aR])
def anF(ht:qw t)(k:Nat)(a b:mL)(he:(mL.iV k a b).Ok)(Gx:il 90 [jT t,jo a,nP]<|.iH [jT (iF t a).1,iP (((iF t a).2:Nat):Int)])(Gy:il 90 [jT<|(iF t a).1,jo b,nP]<|.iH [jT (iF ((iF t a).1) b).1,iP (((iF ((iF t a).1) b).2:Nat):Int)])(hu:qw<|(iF (iF t a).1 b).1)(hl:((iF (iF t a).1 b).1).iq.length<=800)(qD:xF<|jv.mk k (iF t a).2 (iF (iF t a).1 b).2 0 0 0)(N:Nat)(qd:N<((iF (iF t a).1 b).1).iq.length)(ji:∀ i,i<N->om (((iF (iF t a).1 b).1).iq.getD i iU) (jv.mk k (iF t a).2 (iF (iF t a).1 b).2 0 0 0)=false)(hN:om (((iF (iF t a).1 b).1).iq.getD N iU) (jv.mk k (iF t a).2 (iF (iF t a).1 b).2 0 0 0)=true):il 90 [jT t,jo<|.iV k a b,nP]<|.iH [jT<|(iF (iF t a).1 b).1,iP ((((iF (iF t a).1 b).1).iI+N:Nat):Int)]:=by
 have vV:=hu.sm aC;have Jo:=hu.iI;have sG:=he.1;have oP:=he.2.1;exact iE (af [ai 15 ((k:Int)==2)<|aY aC,.u 4,ah 32 (decide ((0:Int)<2)) aE,iX 0 2,.o 41 (.e<|.jq<|PZ a b:aj (.agg [(jB a++jB b).getD (0*6+0)<|.v<|.bool false,(jB a++jB b).getD (0*6+1)<|.v<|.bool false,(jB a++jB b).getD (0*6+2)<|.v<|.bool false,(jB a++jB b).getD (0*6+3)<|.v<|.bool false,(jB a++jB b).getD (0*6+4)<|.v<|.bool false,(jB a++jB b).getD (0*6+5)<|.v<|.bool false])<|jo a),ag [jT t,jo a,nP] Gx,ah 48 ((0:Int)==0) aE,iL<|0+1,.k [9,8,6,4,3,2] [8,3,6,4],ah 32 (decide (((0+1):Int)<2)) aE,
  iX (0+1) 2,.o 41 (.e<|.jq<|P0 a b:aj (.agg [(jB a++jB b).getD (1*6+0)<|.v<|.bool false,(jB a++jB b).getD (1*6+1)<|.v<|.bool false,(jB a++jB b).getD (1*6+2)<|.v<|.bool false,(jB a++jB b).getD (1*6+3)<|.v<|.bool false,(jB a++jB b).getD (1*6+4)<|.v<|.bool false,(jB a++jB b).getD (1*6+5)<|.v<|.bool false])<|jo b),ag [jT<|(iF t a).1,jo b,nP] Gy,ai 48 (((0+1):Int)==0) aE,iL<|(0+1)+1,.k [9,8,6,4,3,2] [8,3,6,4],ai 32 (decide ((((0+1)+1):Int)<2)) aE,.s (Sp.jP (aaT t k a b N) 0 N aC (λx hx mX=>by
    have sH:=vV x aC;exact iS (af [tT 57 ((x:Int)<(((((iF (iF t a).1 b).1).iq).length:Nat):Int)) aC,iX (x:Int)<|(((iF (iF t a).1 b).1).iq).length,.g (Cd _ (jv.mk k (iF t a).2 (iF (iF t a).1 b).2 0 0 0) sH qD:mP prog .eql 153 (rD<|(((iF (iF t a).1 b).1).iq).getD x iU) (.agg [iP k,iP (((iF t a).2:Nat):Int),iP (((iF (iF t a).1 b).2:Nat):Int),iP 0,iP 0,iP 0])<|.bool<|om ((((iF (iF t a).1 b).1).iq).getD x iU)<|jv.mk k (iF t a).2 (iF (iF t a).1 b).2 0 0 0),ai 66 (om ((((iF (iF t a).1 b).1).iq).getD x iU)<|jv.mk k (iF t a).2 (iF (iF t a).1 b).2 0 0 0)<|ji x aC,iL<|(x:Int)+1]) aF)
  (λhx=>by
    have sH:=vV N aC;exact iS (af [tT 57 ((N:Int)<(((((iF (iF t a).1 b).1).iq).length:Nat):Int)) aC,iX (N:Int)<|(((iF (iF t a).1 b).1).iq).length,.g (Cd _ (jv.mk k (iF t a).2 (iF (iF t a).1 b).2 0 0 0) sH qD:mP prog .eql 153 (rD<|(((iF (iF t a).1 b).1).iq).getD N iU) (.agg [iP k,iP (((iF t a).2:Nat):Int),iP (((iF (iF t a).1 b).2:Nat):Int),iP 0,iP 0,iP 0])<|.bool<|om ((((iF (iF t a).1 b).1).iq).getD N iU)<|jv.mk k (iF t a).2 (iF (iF t a).1 b).2 0 0 0),ah 66 (om ((((iF (iF t a).1 b).1).iq).getD N iU)<|jv.mk k (iF t a).2 (iF (iF t a).1 b).2 0 0 0) hN,iL<|(((iF (iF t a).1 b).1).iI:Int)+N]) aF) aI:jM 13 Tryz.f90 (aaT t k a b N 0) .ret ⟨88,true,[(7,.e<|iP ((((iF (iF t a).1 b).1).iI+N:Nat):Int)),(6,.box 6 0)],[(6,.cells 29 [iP (((iF (iF t a).1 b).1).iI:Int),lG<|((iF (iF t a).1 b).1).iq,lL<|((iF (iF t a).1 b).1).iz])]⟩) .nil])
def anE(ht:qw t)(k:Nat)(a b:mL)(he:(mL.iV k a b).Ok)(Gx:il 90 [jT t,jo a,nP]<|.iH [jT (iF t a).1,iP (((iF t a).2:Nat):Int)])(Gy:il 90 [jT<|(iF t a).1,jo b,nP]<|.iH [jT (iF ((iF t a).1) b).1,iP (((iF ((iF t a).1) b).2:Nat):Int)])(hu:qw<|(iF (iF t a).1 b).1)(hl:((iF (iF t a).1 b).1).iq.length<=800)(qD:xF<|jv.mk k (iF t a).2 (iF (iF t a).1 b).2 0 0 0)(ji:∀ i,i<((iF (iF t a).1 b).1).iq.length->om (((iF (iF t a).1 b).1).iq.getD i iU) (jv.mk k (iF t a).2 (iF (iF t a).1 b).2 0 0 0)=false):il 90 [jT t,jo<|.iV k a b,nP]<|.iH [jT { (iF (iF t a).1 b).1 with iq:=((iF (iF t a).1 b).1).iq++[jv.mk k (iF t a).2 (iF (iF t a).1 b).2 0 0 0] },iP ((((iF (iF t a).1 b).1).iI+((iF (iF t a).1 b).1).iq.length:Nat):Int)]:=by
 have vV:=hu.sm aC;have Jo:=hu.iI;have sG:=he.1;have oP:=he.2.1;have mj:(((iF (iF t a).1 b).1).iq++[jv.mk k (iF t a).2 (iF (iF t a).1 b).2 0 0 0]).length=((iF (iF t a).1 b).1).iq.length+1:=by rw[cz];rfl
 exact iE (af [ai 15 ((k:Int)==2)<|aY aC,.u 4,ah 32 (decide ((0:Int)<2)) aE,iX 0 2,.o 41 (.e<|.jq<|PZ a b:aj (.agg [(jB a++jB b).getD (0*6+0)<|.v<|.bool false,(jB a++jB b).getD (0*6+1)<|.v<|.bool false,(jB a++jB b).getD (0*6+2)<|.v<|.bool false,(jB a++jB b).getD (0*6+3)<|.v<|.bool false,(jB a++jB b).getD (0*6+4)<|.v<|.bool false,(jB a++jB b).getD (0*6+5)<|.v<|.bool false])<|jo a),ag [jT t,jo a,nP] Gx,ah 48 ((0:Int)==0) aE,iL<|0+1,.k [9,8,6,4,3,2] [8,3,6,4],ah 32 (decide (((0+1):Int)<2)) aE,
  iX (0+1) 2,.o 41 (.e<|.jq<|P0 a b:aj (.agg [(jB a++jB b).getD (1*6+0)<|.v<|.bool false,(jB a++jB b).getD (1*6+1)<|.v<|.bool false,(jB a++jB b).getD (1*6+2)<|.v<|.bool false,(jB a++jB b).getD (1*6+3)<|.v<|.bool false,(jB a++jB b).getD (1*6+4)<|.v<|.bool false,(jB a++jB b).getD (1*6+5)<|.v<|.bool false])<|jo b),ag [jT<|(iF t a).1,jo b,nP] Gy,ai 48 (((0+1):Int)==0) aE,iL<|(0+1)+1,.k [9,8,6,4,3,2] [8,3,6,4],ai 32 (decide ((((0+1)+1):Int)<2)) aE,.s (Sp.jP (aaS t k a b) 0 (((iF (iF t a).1 b).1).iq.length) aC (λx hx mX=>by
    have sH:=vV x aC;exact iS (af [tT 57 ((x:Int)<(((((iF (iF t a).1 b).1).iq).length:Nat):Int)) aC,iX (x:Int)<|(((iF (iF t a).1 b).1).iq).length,.g (Cd _ (jv.mk k (iF t a).2 (iF (iF t a).1 b).2 0 0 0) sH qD:mP prog .eql 153 (rD<|(((iF (iF t a).1 b).1).iq).getD x iU) (.agg [iP k,iP (((iF t a).2:Nat):Int),iP (((iF (iF t a).1 b).2:Nat):Int),iP 0,iP 0,iP 0])<|.bool<|om ((((iF (iF t a).1 b).1).iq).getD x iU)<|jv.mk k (iF t a).2 (iF (iF t a).1 b).2 0 0 0),ai 66 (om ((((iF (iF t a).1 b).1).iq).getD x iU)<|jv.mk k (iF t a).2 (iF (iF t a).1 b).2 0 0 0)<|ji x aC,iL<|(x:Int)+1]) aF)
  (λhx=>by
    exact iS (af [tF 57 ((((iF (iF t a).1 b).1).iq.length:Int)<(((((iF (iF t a).1 b).1).iq).length:Nat):Int)) aC]) aF) aI:jM 13 Tryz.f90 (aaS t k a b 0) (.exit 2) ⟨88,true,[(8,.box 8 0),(6,.box 6 0),(3,.box 3 0)],[(8,.cells 153 [iP k,iP (((iF t a).2:Nat):Int),iP (((iF (iF t a).1 b).2:Nat):Int),iP 0,iP 0,iP 0]),(3,.cells 29 [iP (((iF (iF t a).1 b).1).iI:Int),lG<|((iF (iF t a).1 b).1).iq,lL<|((iF (iF t a).1 b).1).iz]),(6,.cells 29 [iP 0,.v<|.slice none 0 0,.v<|.slice none 0 0])]⟩) .nil,
  .bo,.a (aC:(0+(((iF (iF t a).1 b).1).iq).length)*48<=140737488355328),.o 77 (.refl _:aj (.sl true 1 6 λi_ j_=>[iP k,iP (((iF t a).2:Nat):Int),iP (((iF (iF t a).1 b).2:Nat):Int),iP 0,iP 0,iP 0].getD (i_*6+j_)<|.v<|.bool false)<|.sl true 1 6 λi_ j_=>[iP k,iP (((iF t a).2:Nat):Int),iP (((iF (iF t a).1 b).2:Nat):Int),iP 0,iP 0,iP 0].getD (i_*6+j_)<|.v<|.bool false),
  .bo,.a (aC:((0+(((iF (iF t a).1 b).1).iq).length)+1)*48<=140737488355328),.o 78 (.e (Sx λj hj=>by rcases j with _|_|_|_|_|_|j<;>first|rfl|omega):aj (.sl true ((0+(((iF (iF t a).1 b).1).iq).length)+1) 6 λi_ j_=>if i_<(0+(((iF (iF t a).1 b).1).iq).length)then(λi_ j_=>if i_<0 then(λi_ j_=>([]:List E).getD (i_*6+j_)<|.v<|.bool false) i_ j_ else(E.ky<|lG<|((iF (iF t a).1 b).1).iq) (i_-0) j_) i_ j_ else(E.ky<|.sl true 1 6 λi_ j_=>[iP k,iP (((iF t a).2:Nat):Int),iP (((iF (iF t a).1 b).2:Nat):Int),iP 0,iP 0,iP 0].getD (i_*6+j_)<|.v<|.bool false) (i_-(0+(((iF (iF t a).1 b).1).iq).length)) j_)<|lG<|((iF (iF t a).1 b).1).iq++[jv.mk k (iF t a).2 (iF (iF t a).1 b).2 0 0 0]),
  iL ((((iF (iF t a).1 b).1).iI:Int)+(((((iF (iF t a).1 b).1).iq++[jv.mk k (iF t a).2 (iF (iF t a).1 b).2 0 0 0]).length:Nat):Int)),
  iL (((((iF (iF t a).1 b).1).iI+(((iF (iF t a).1 b).1).iq++[jv.mk k (iF t a).2 (iF (iF t a).1 b).2 0 0 0]).length:Nat):Int)-1),.o 87<|aq (((((iF (iF t a).1 b).1).iI+(((iF (iF t a).1 b).1).iq++[jv.mk k (iF t a).2 (iF (iF t a).1 b).2 0 0 0]).length:Nat):Int)-1) ((((iF (iF t a).1 b).1).iI+((iF (iF t a).1 b).1).iq.length:Nat):Int) aR])
end
def Sk{t u:je}{o:jv}{v:mL}{F:FuncId}(h1:∀ N,N<u.iq.length->(∀ i,i<N->om (u.iq.getD i iU) o=false)->om (u.iq.getD N iU) o=true->il F [jT t,jo v,nP] (.iH [jT u,iP ((u.iI+N:Nat):Int)]))
 (h2:(∀ i,i<u.iq.length->om (u.iq.getD i iU) o=false)->il F [jT t,jo v,nP] (.iH [jT { u with iq:=u.iq++[o] },iP ((u.iI+u.iq.length:Nat):Int)])):
 il F [jT t,jo v,nP] (.iH [jT (rK u o).1,iP (((rK u o).2:Nat):Int)]):=by
 unfold rK;split
 .rename_i i hi;obtain⟨a,b,c⟩:=Qa hi;exact h1 i a c b
 .rename_i hi;exact h2<|P9 hi
def J4:∀ (e:mL) (t:je),e.Ok->qw t->t.iq.length+e.sz<=800->il 90 [jT t,jo e,nP] (.iH [jT (iF t e).1,iP (((iF t e).2:Nat):Int)])
 | .var true,t,_,ht,_=>anL t ht
 | .var false,t,_,ht,_=>anK t ht
 | .num n,t,he,ht,hl=>by
  have hs:t.iq.length+1<=800:=hl;have qD:xF ⟨1,0,0,0,n,1⟩:=⟨by show 1<=1000;decide,ck _,ck _,ck _,by have:=he.1;show -1099511627776<=n;omega,by have:=he.2;show n<=1099511627776;omega,by show -1099511627776<=1;decide,by show 1<=1099511627776;decide⟩
  exact Sk (λN a c b=>anH t ht n he ht aC qD N a c b) λh=>anG t ht n he ht aC qD h
 | .un k n e,t,he,ht,hl=>by
  have hs:t.iq.length+(e.sz+1)<=800:=hl;obtain⟨h7,h8,hn,h⟩:=he;obtain⟨k1,k2,k3,k4,k5⟩:=zD e h ht;have ih:=J4 e t h ht aC;have e1:=k1.iI;have qD:xF ⟨k,(iF t e).2,0,n,0,0⟩:=⟨by show k<=1000;omega,by show(iF t e).2<=1000;omega,ck _,by show n<=1000;split at hn<;>omega,by show -1099511627776<=(0:Int);decide,by show(0:Int)<=1099511627776;decide,by show -1099511627776<=(0:Int);decide,by show(0:Int)<=1099511627776;decide⟩
  exact Sk (λN a c b=>anJ t ht k n e ⟨h7,h8,hn,h⟩ ih k1 aC qD N a c b) λq=>anI t ht k n e ⟨h7,h8,hn,h⟩ ih k1 aC qD q
 | .iV k a b,t,he,ht,hl=>by
  have hs:t.iq.length+(a.sz+b.sz+1)<=800:=hl;obtain⟨h3,h6,ha,hb⟩:=he;obtain⟨k1,k2,k3,k4,k5⟩:=zD a ha ht;obtain⟨l1,l2,l3,l4,l5⟩:=zD b hb k1;have Gx:=J4 a t ha ht aC;have Gy:=J4 b _ hb k1 aC;have e1:=k1.iI;have e2:=l1.iI;have qD:xF ⟨k,(iF t a).2,(iF (iF t a).1 b).2,0,0,0⟩:=⟨by show k<=1000;omega,by show(iF t a).2<=1000;omega,by show(iF (iF t a).1 b).2<=1000;omega,ck _,by show -1099511627776<=(0:Int);decide,by show(0:Int)<=1099511627776;decide,by show -1099511627776<=(0:Int);decide,by show(0:Int)<=1099511627776;decide⟩
  exact Sk (λN x c y=>anF t ht k a b ⟨h3,h6,ha,hb⟩ Gx Gy l1 aC qD N x c y) λq=>anE t ht k a b ⟨h3,h6,ha,hb⟩ Gx Gy l1 aC qD q
def arK:E.le (.agg [iP 2,.v<|.slice none 0 0,.v<|.slice none 0 0])<|jT lI:=.agg<|.cons (.refl _)<|.cons (.nil _ _ _)<|.cons (.nil _ _ _) .nil
def M8(l:List Nat):∀ (e:mL) (t:je),iF { t with iz:=l } e=({ (iF t e).1 with iz:=l },(iF t e).2)
 | .var _,_=>rfl
 | .num n,t=>by
  unfold iF rK;dsimp only;cases Bu t.iq ⟨1,0,0,0,n,1⟩ t.iq.length<;>rfl
 | .un k n e,t=>by
  unfold iF;rw[M8 l e t];unfold rK;dsimp only;cases Bu (iF t e).1.iq ⟨k,(iF t e).2,0,n,0,0⟩ (iF t e).1.iq.length<;>rfl
 | .iV k a b,t=>by
  unfold iF;rw[M8 l a t];dsimp only;rw[M8 l b (iF t a).1];unfold rK;dsimp only;cases Bu (iF (iF t a).1 b).1.iq ⟨k,(iF t a).2,(iF (iF t a).1 b).2,0,0,0⟩ (iF (iF t a).1 b).1.iq.length<;>rfl
def yE(a:mL):je:=⟨2,(iF lI a).1.iq,[]⟩
def KM(a:mL):je:=⟨2,(iF lI a).1.iq,[(iF lI a).2]⟩
def yF(a b:mL):je:=⟨2,(iF (iF lI a).1 b).1.iq,[(iF lI a).2]⟩
def arW{a:mL}(ha:a.Ok)(hs:a.sz<=400):il 90 [jT lI,jo a,nP]<|.iH [jT<|yE a,iP (((iF lI a).2:Nat):Int)]:=by
 have k:qw lI:=⟨rfl,λi hi=>absurd hi<|bC i⟩
 obtain⟨k1,k2,k3,k4,k5⟩:=zD a ha k;have:=J4 a lI ha k (by show 0+a.sz<=800;omega);rwa[show(iF lI a).1=yE a from by
  have e1:=k1.iI;have e2:(iF lI a).1.iz=[]:=k5;unfold yE;generalize (iF lI a).1=q at e1 e2 ⊢;obtain⟨i,o,u⟩:=q;simp only at e1 e2;subst e1 e2;rfl]at this
def arX{a b:mL}(ha:a.Ok)(hb:b.Ok)(hs:a.sz+b.sz<=400):il 90 [jT<|KM a,jo b,nP]<|.iH [jT<|yF a b,iP (((iF (iF lI a).1 b).2:Nat):Int)]:=by
 have k:qw lI:=⟨rfl,λi hi=>absurd hi<|bC i⟩
 obtain⟨k1,k2,k3,k4,k5⟩:=zD a ha k;obtain⟨l1,l2,l3,l4,l5⟩:=zD b hb k1;have e1:=k1.iI;have k3':(iF lI a).1.iq.length<=0+a.sz:=k3;have hq:KM a=⟨(iF lI a).1.iI,(iF lI a).1.iq,[(iF lI a).2]⟩:=by unfold KM;rw[e1]
 have ho:qw<|KM a:=⟨rfl,λi hi=>by have:=k1.op i hi;rw[e1]at this;exact this⟩
 have:=J4 b (KM a) hb ho (by show(iF lI a).1.iq.length+b.sz<=800;omega);have e2:=l1.iI;have e:(⟨(iF (iF lI a).1 b).1.iI,(iF (iF lI a).1 b).1.iq,[(iF lI a).2]⟩:je)=yF a b:=by unfold yF;rw[e2]
 have h3:iF ⟨(iF lI a).1.iI,(iF lI a).1.iq,[(iF lI a).2]⟩ b=(⟨(iF (iF lI a).1 b).1.iI,(iF (iF lI a).1 b).1.iq,[(iF lI a).2]⟩,(iF (iF lI a).1 b).2):=M8 [(iF lI a).2] b (iF lI a).1;rw[<-hq,e]at h3;rwa[h3]at this
def aaF{l:List Nat}{k:Nat}{p:E}(hp:∀ j,j<1->p.ky 0 j=iP (k:Int)):E.le (.sl true (0+l.length+1) 1 λi j=>if i<0+l.length then(λi_ j_=>if i_<0 then(λi_ j_=>([]:List E).getD (i_*1+j_)<|.v<|.bool false) i_ j_ else(E.ky<|lL l) (i_-0) j_) i j else(E.ky p) (i-(0+l.length)) j)<|lL<|l++[k]:=by
 have e:lL (l++[k]) = .sl true (0+l.length+1) 1 λi _=>iP (((l++[k]).getD i 0:Nat):Int):=by unfold lL;rw[cz,cw];rfl
 rw[e];refine .sl λi j hi hj=>⟨.jq ?_,rfl⟩
 rw[cw]at *
 by_cases h:i<l.length
 .rw [bk h];show iP (l.getD i 0:Int)=iP (((l++[k]).getD i 0:Nat):Int);congr 2;simp[bt,dh h]
 .have lg:i=l.length:= aC ;subst lg;rw[bj h,dg,hp j hj];congr 2;simp[bt]
def ac2(a b:mL)(ha:a.Ok)(hb:b.Ok)(hs:a.sz+b.sz<=200):il 46 [tH a b,nP]<|jT (uO a b).tape:=by
 have ho1:(yE a).iz.length=0:=rfl;have Gl:(yF a b).iz.length=1:=rfl;exact iE (ae [.u 4,ah 15 (decide ((0:Int)<2)) aE,.o 19 (.e arK:aj (.agg [iP 2,.v<|.slice none 0 0,.v<|.slice none 0 0])<|jT lI),iX 0 2,.o 23 (.e<|.jq<|PZ a b:aj (.agg [(jB a++jB b).getD (0*6+0)<|.v<|.bool false,(jB a++jB b).getD (0*6+1)<|.v<|.bool false,(jB a++jB b).getD (0*6+2)<|.v<|.bool false,(jB a++jB b).getD (0*6+3)<|.v<|.bool false,(jB a++jB b).getD (0*6+4)<|.v<|.bool false,(jB a++jB b).getD (0*6+5)<|.v<|.bool false])<|jo a),ag [jT lI,jo a,nP]<|arW ha aC,.bo,.a (aC:(0+((yE a).iz).length)*8<=140737488355328),.o 34 (.refl _:aj (.sl true 1 1 λi_ j_=>[iP (((iF lI a).2:Nat):Int)].getD (i_*1+j_)<|.v<|.bool false)<|.sl true 1 1 λi_ j_=>[iP (((iF lI a).2:Nat):Int)].getD (i_*1+j_)<|.v<|.bool false),
  .bo,.a (aC:((0+((yE a).iz).length)+1)*8<=140737488355328),.o 35 (.e (aaF (l:=[]) λj hj=>by obtain rfl:=Nat.lt_one_iff.1 hj;rfl):aj (.sl true ((0+((yE a).iz).length)+1) 1 λi_ j_=>if i_<(0+((yE a).iz).length)then(λi_ j_=>if i_<0 then(λi_ j_=>([]:List E).getD (i_*1+j_)<|.v<|.bool false) i_ j_ else(E.ky<|lL<|(yE a).iz) (i_-0) j_) i_ j_ else(E.ky<|.sl true 1 1 λi_ j_=>[iP (((iF lI a).2:Nat):Int)].getD (i_*1+j_)<|.v<|.bool false) (i_-(0+((yE a).iz).length)) j_)<|lL [(iF lI a).2]),
  iL (0+1),.k [6,5,4,0,1] [5,4],ah 15 (decide (((0+1):Int)<2)) aE,iX (0+1) 2,.o 23 (.e<|.jq<|P0 a b:aj (.agg [(jB a++jB b).getD (1*6+0)<|.v<|.bool false,(jB a++jB b).getD (1*6+1)<|.v<|.bool false,(jB a++jB b).getD (1*6+2)<|.v<|.bool false,(jB a++jB b).getD (1*6+3)<|.v<|.bool false,(jB a++jB b).getD (1*6+4)<|.v<|.bool false,(jB a++jB b).getD (1*6+5)<|.v<|.bool false])<|jo b),ag [.agg [iP ((yE a).iI:Int),lG<|(yE a).iq,lL [(iF lI a).2]],jo b,nP]<|arX ha hb aC,.bo,.a (aC:(0+((yF a b).iz).length)*8<=140737488355328),.o 34 (.refl _:aj (.sl true 1 1 λi_ j_=>[iP (((iF (iF lI a).1 b).2:Nat):Int)].getD (i_*1+j_)<|.v<|.bool false)<|.sl true 1 1 λi_ j_=>[iP (((iF (iF lI a).1 b).2:Nat):Int)].getD (i_*1+j_)<|.v<|.bool false),
  .bo,.a (aC:((0+((yF a b).iz).length)+1)*8<=140737488355328),.o 35 (.e (aaF (l:=[(iF lI a).2]) λj hj=>by obtain rfl:=Nat.lt_one_iff.1 hj;rfl):aj (.sl true ((0+((yF a b).iz).length)+1) 1 λi_ j_=>if i_<(0+((yF a b).iz).length)then(λi_ j_=>if i_<0 then(λi_ j_=>([]:List E).getD (i_*1+j_)<|.v<|.bool false) i_ j_ else(E.ky<|lL<|(yF a b).iz) (i_-0) j_) i_ j_ else(E.ky<|.sl true 1 1 λi_ j_=>[iP (((iF (iF lI a).1 b).2:Nat):Int)].getD (i_*1+j_)<|.v<|.bool false) (i_-(0+((yF a b).iz).length)) j_)<|lL [(iF lI a).2,(iF (iF lI a).1 b).2]),
  iL ((0+1)+1),.k [6,5,4,0,1] [5,4],ai 15 (decide ((((0+1)+1):Int)<2)) aE]<|rR (jT (uO a b).tape) (.refl _:E.le (.agg [iP ((yF a b).iI:Int),lG<|(yF a b).iq,lL [(iF lI a).2,(iF (iF lI a).1 b).2]])<|jT (uO a b).tape))
def acZ(a b:mL):E.le (.agg [iP ((uO a b).tape.iI:Int),lG (uO a b).tape.iq,lL (uO a b).tape.iz,iP 2,.v<|.slice none 0 0])<|kS<|uO a b:=.agg<|.cons (.refl _)<|.cons (.refl _)<|.cons (.refl _)<|.cons (.refl _)<|.cons (.nil _ _ _) .nil
abbrev Pz:mL:=.iV 3 (.un 7 0<|.var true)<|.iV 5 (.var false)<|.iV 4 (.iV 4 (.num 1)<|.un 8 2<|.var false)<|.un 8 2<|.var true
abbrev PA:mL:=.iV 3 (.var false)<|.iV 5 (.var true)<|.iV 4 (.iV 4 (.num 1)<|.un 8 2<|.var false)<|.un 8 2<|.var true
abbrev JK(p0 q0:Int):mL:=.iV 3 (.iV 5 (.num p0)<|.var false)<|.iV 5 (.num q0)<|.var true
def wJ:lY:=uO Pz PA
def AN(p0 q0 r0 t0:Int):lY:=uO (JK p0 q0)<|JK r0 t0
def Ab(n:Int):Prop:=-1073741824<=n/\n<=1073741824
def VA:Pz.Ok:=by simp[mL.Ok]
def VB:PA.Ok:=by simp[mL.Ok]
def MR{p0 q0:Int}(h1:Ab p0)(h2:Ab q0):(JK p0 q0).Ok:=⟨aE,aE,⟨aE,aE,h1,trivial⟩,⟨aE,aE,h2,trivial⟩⟩
def Vz:nK wJ:=acW VA VB aE 
def al9{p0 q0 r0 t0:Int}(h1:Ab p0)(h2:Ab q0)(h3:Ab r0)(h4:Ab t0):nK<|AN p0 q0 r0 t0:=acW (MR h1 h2) (MR h3 h4)<|by show 7+7<=200;decide
def Ws : il 43 [.v<|.string ⟨#[120]⟩]<|jo<|.var false:=
 iE (af [.o 4<|.refl<|.e<|jo<|.var false])
def Wt : il 43 [.v<|.string ⟨#[121]⟩]<|jo<|.var true:=
 iE (af [.o 4<|.refl<|.e<|jo<|.var true])
def ah8 : il 45 [iP 1]<|jo<|.num 1:=
 iE (af [.o 5<|.refl<|.e<|jo<|.num 1])
def aix : il 86 [jo<|.var false]<|jo<|.un 8 2<|.var false:=
 iE (af [.o 4<|.refl<|.e<|PY<|.var false,.o 5<|.refl<|.e<|jo<|.un 8 2<|.var false])
def aid : il 44 [iP 4,jo<|.num 1,jo<|.un 8 2<|.var false]<|jo<|.iV 4 (.num 1)<|.un 8 2<|.var false:=
 iE (af [.o 10<|.refl<|.e<|tH (.num 1)<|.un 8 2<|.var false,.o 11<|.refl<|.e<|jo<|.iV 4 (.num 1)<|.un 8 2<|.var false])
def aiy : il 86 [jo<|.var true]<|jo<|.un 8 2<|.var true:=
 iE (af [.o 4<|.refl<|.e<|PY<|.var true,.o 5<|.refl<|.e<|jo<|.un 8 2<|.var true])
def aie : il 44 [iP 4,jo<|.iV 4 (.num 1)<|.un 8 2<|.var false,jo<|.un 8 2<|.var true]<|jo<|.iV 4 (.iV 4 (.num 1)<|.un 8 2<|.var false)<|.un 8 2<|.var true:=
 iE (af [.o 10<|.refl<|.e<|tH (.iV 4 (.num 1)<|.un 8 2<|.var false)<|.un 8 2<|.var true,.o 11<|.refl<|.e<|jo<|.iV 4 (.iV 4 (.num 1)<|.un 8 2<|.var false)<|.un 8 2<|.var true])
def aii : il 44 [iP 5,jo<|.var false,jo<|.iV 4 (.iV 4 (.num 1)<|.un 8 2<|.var false)<|.un 8 2<|.var true]<|jo<|.iV 5 (.var false)<|.iV 4 (.iV 4 (.num 1)<|.un 8 2<|.var false)<|.un 8 2<|.var true:=
 iE (af [.o 10<|.refl<|.e<|tH (.var false)<|.iV 4 (.iV 4 (.num 1)<|.un 8 2<|.var false)<|.un 8 2<|.var true,.o 11<|.refl<|.e<|jo<|.iV 5 (.var false)<|.iV 4 (.iV 4 (.num 1)<|.un 8 2<|.var false)<|.un 8 2<|.var true])
def aij : il 44 [iP 3,jo<|.un 7 0<|.var true,jo<|.iV 5 (.var false)<|.iV 4 (.iV 4 (.num 1)<|.un 8 2<|.var false)<|.un 8 2<|.var true]<|jo<|.iV 3 (.un 7 0<|.var true)<|.iV 5 (.var false)<|.iV 4 (.iV 4 (.num 1)<|.un 8 2<|.var false)<|.un 8 2<|.var true:=
 iE (af [.o 10<|.refl<|.e<|tH (.un 7 0<|.var true)<|.iV 5 (.var false)<|.iV 4 (.iV 4 (.num 1)<|.un 8 2<|.var false)<|.un 8 2<|.var true,.o 11<|.refl<|.e<|jo<|.iV 3 (.un 7 0<|.var true)<|.iV 5 (.var false)<|.iV 4 (.iV 4 (.num 1)<|.un 8 2<|.var false)<|.un 8 2<|.var true])
def aik : il 44 [iP 5,jo<|.var true,jo<|.iV 4 (.iV 4 (.num 1)<|.un 8 2<|.var false)<|.un 8 2<|.var true]<|jo<|.iV 5 (.var true)<|.iV 4 (.iV 4 (.num 1)<|.un 8 2<|.var false)<|.un 8 2<|.var true:=
 iE (af [.o 10<|.refl<|.e<|tH (.var true)<|.iV 4 (.iV 4 (.num 1)<|.un 8 2<|.var false)<|.un 8 2<|.var true,.o 11<|.refl<|.e<|jo<|.iV 5 (.var true)<|.iV 4 (.iV 4 (.num 1)<|.un 8 2<|.var false)<|.un 8 2<|.var true])
def ail : il 44 [iP 3,jo<|.var false,jo<|.iV 5 (.var true)<|.iV 4 (.iV 4 (.num 1)<|.un 8 2<|.var false)<|.un 8 2<|.var true]<|jo<|.iV 3 (.var false)<|.iV 5 (.var true)<|.iV 4 (.iV 4 (.num 1)<|.un 8 2<|.var false)<|.un 8 2<|.var true:=
 iE (af [.o 10<|.refl<|.e<|tH (.var false)<|.iV 5 (.var true)<|.iV 4 (.iV 4 (.num 1)<|.un 8 2<|.var false)<|.un 8 2<|.var true,.o 11<|.refl<|.e<|jo<|.iV 3 (.var false)<|.iV 5 (.var true)<|.iV 4 (.iV 4 (.num 1)<|.un 8 2<|.var false)<|.un 8 2<|.var true])
def VC : il 38 []<|kS wJ:=by
 have ha:=VA;have hb:=VB;have hs:Pz.sz+PA.sz<=200:= aE ;exact iE (ae [ag [.v<|.string ⟨#[120]⟩] Ws,ag [.v<|.string ⟨#[121]⟩] Wt,ag [iP 1] ah8,ag [jo<|.var false] aix,ag [iP 4,jo<|.num 1,jo<|.un 8 2<|.var false] aid,ag [jo<|.var true] aiy,ag [iP 4,jo<|.iV 4 (.num 1)<|.un 8 2<|.var false,jo<|.un 8 2<|.var true] aie,.o 16<|.refl<|.e<|PY<|.var true,.o 17<|.refl<|.e<|jo<|.un 7 0<|.var true,ag [iP 5,jo<|.var false,jo<|.iV 4 (.iV 4 (.num 1)<|.un 8 2<|.var false)<|.un 8 2<|.var true] aii,ag [iP 3,jo<|.un 7 0<|.var true,jo<|.iV 5 (.var false)<|.iV 4 (.iV 4 (.num 1)<|.un 8 2<|.var false)<|.un 8 2<|.var true] aij,ag [iP 5,jo<|.var true,jo<|.iV 4 (.iV 4 (.num 1)<|.un 8 2<|.var false)<|.un 8 2<|.var true] aik,ag [iP 3,jo<|.var false,jo<|.iV 5 (.var true)<|.iV 4 (.iV 4 (.num 1)<|.un 8 2<|.var false)<|.un 8 2<|.var true] ail,.o 28<|.refl<|.e<|tH (.iV 3 (.un 7 0<|.var true)<|.iV 5 (.var false)<|.iV 4 (.iV 4 (.num 1)<|.un 8 2<|.var false)<|.un 8 2<|.var true)<|.iV 3 (.var false)<|.iV 5 (.var true)<|.iV 4 (.iV 4 (.num 1)<|.un 8 2<|.var false)<|.un 8 2<|.var true,.o 30<|.refl<|.e nP,ag [tH (.iV 3 (.un 7 0<|.var true)<|.iV 5 (.var false)<|.iV 4 (.iV 4 (.num 1)<|.un 8 2<|.var false)<|.un 8 2<|.var true)<|.iV 3 (.var false)<|.iV 5 (.var true)<|.iV 4 (.iV 4 (.num 1)<|.un 8 2<|.var false)<|.un 8 2<|.var true,nP]<|ac2 _ _ ha hb hs]<|rR (kS wJ) (by
  unfold wJ;exact acZ _ _:E.le (.agg [iP ((((uO (.iV 3 (.un 7 0<|.var true)<|.iV 5 (.var false)<|.iV 4 (.iV 4 (.num 1)<|.un 8 2<|.var false)<|.un 8 2<|.var true)<|.iV 3 (.var false)<|.iV 5 (.var true)<|.iV 4 (.iV 4 (.num 1)<|.un 8 2<|.var false)<|.un 8 2<|.var true).tape).iI:Nat):Int),lG<|((uO (.iV 3 (.un 7 0<|.var true)<|.iV 5 (.var false)<|.iV 4 (.iV 4 (.num 1)<|.un 8 2<|.var false)<|.un 8 2<|.var true)<|.iV 3 (.var false)<|.iV 5 (.var true)<|.iV 4 (.iV 4 (.num 1)<|.un 8 2<|.var false)<|.un 8 2<|.var true).tape).iq,lL<|((uO (.iV 3 (.un 7 0<|.var true)<|.iV 5 (.var false)<|.iV 4 (.iV 4 (.num 1)<|.un 8 2<|.var false)<|.un 8 2<|.var true)<|.iV 3 (.var false)<|.iV 5 (.var true)<|.iV 4 (.iV 4 (.num 1)<|.un 8 2<|.var false)<|.un 8 2<|.var true).tape).iz,iP 2,.v<|.slice none 0 0])<|kS wJ))
def ah9(p0:Int) : il 45 [iP p0]<|jo<|.num p0:=
 iE (af [.o 5<|.refl<|.e<|jo<|.num p0])
def aim(p0:Int) : il 44 [iP 5,jo<|.num p0,jo<|.var false]<|jo<|.iV 5 (.num p0)<|.var false:=
 iE (af [.o 10<|.refl<|.e<|tH (.num p0)<|.var false,.o 11<|.refl<|.e<|jo<|.iV 5 (.num p0)<|.var false])
def aia(q0:Int) : il 45 [iP q0]<|jo<|.num q0:=
 iE (af [.o 5<|.refl<|.e<|jo<|.num q0])
def ain(q0:Int) : il 44 [iP 5,jo<|.num q0,jo<|.var true]<|jo<|.iV 5 (.num q0)<|.var true:=
 iE (af [.o 10<|.refl<|.e<|tH (.num q0)<|.var true,.o 11<|.refl<|.e<|jo<|.iV 5 (.num q0)<|.var true])
def aio(p0:Int)(q0:Int) : il 44 [iP 3,jo<|.iV 5 (.num p0)<|.var false,jo<|.iV 5 (.num q0)<|.var true]<|jo<|.iV 3 (.iV 5 (.num p0)<|.var false)<|.iV 5 (.num q0)<|.var true:=
 iE (af [.o 10<|.refl<|.e<|tH (.iV 5 (.num p0)<|.var false)<|.iV 5 (.num q0)<|.var true,.o 11<|.refl<|.e<|jo<|.iV 3 (.iV 5 (.num p0)<|.var false)<|.iV 5 (.num q0)<|.var true])
def aib(r0:Int) : il 45 [iP r0]<|jo<|.num r0:=
 iE (af [.o 5<|.refl<|.e<|jo<|.num r0])
def aip(r0:Int) : il 44 [iP 5,jo<|.num r0,jo<|.var false]<|jo<|.iV 5 (.num r0)<|.var false:=
 iE (af [.o 10<|.refl<|.e<|tH (.num r0)<|.var false,.o 11<|.refl<|.e<|jo<|.iV 5 (.num r0)<|.var false])
def aic(t0:Int) : il 45 [iP t0]<|jo<|.num t0:=
 iE (af [.o 5<|.refl<|.e<|jo<|.num t0])
def aif(t0:Int) : il 44 [iP 5,jo<|.num t0,jo<|.var true]<|jo<|.iV 5 (.num t0)<|.var true:=
 iE (af [.o 10<|.refl<|.e<|tH (.num t0)<|.var true,.o 11<|.refl<|.e<|jo<|.iV 5 (.num t0)<|.var true])
def aih(r0:Int)(t0:Int) : il 44 [iP 3,jo<|.iV 5 (.num r0)<|.var false,jo<|.iV 5 (.num t0)<|.var true]<|jo<|.iV 3 (.iV 5 (.num r0)<|.var false)<|.iV 5 (.num t0)<|.var true:=
 iE (af [.o 10<|.refl<|.e<|tH (.iV 5 (.num r0)<|.var false)<|.iV 5 (.num t0)<|.var true,.o 11<|.refl<|.e<|jo<|.iV 3 (.iV 5 (.num r0)<|.var false)<|.iV 5 (.num t0)<|.var true])
def ama(p0 q0 r0 t0:Int)(h1:Ab p0)(h2:Ab q0)(h3:Ab r0)(h4:Ab t0):il 10 [iP p0,iP q0,iP r0,iP t0]<|kS<|AN p0 q0 r0 t0:=by
 have ha:=MR h1 h2;have hb:=MR h3 h4;have hs:(JK p0 q0).sz+(JK r0 t0).sz<=200:=by show 7+7<=200;decide
 exact iE (ae [ag [.v<|.string ⟨#[120]⟩] Ws,ag [.v<|.string ⟨#[121]⟩] Wt,ag [iP p0]<|ah9 p0,ag [iP 5,jo<|.num p0,jo<|.var false]<|aim p0,ag [iP q0]<|aia q0,ag [iP 5,jo<|.num q0,jo<|.var true]<|ain q0,ag [iP 3,jo<|.iV 5 (.num p0)<|.var false,jo<|.iV 5 (.num q0)<|.var true]<|aio p0 q0,ag [iP r0]<|aib r0,ag [iP 5,jo<|.num r0,jo<|.var false]<|aip r0,ag [iP t0]<|aic t0,ag [iP 5,jo<|.num t0,jo<|.var true]<|aif t0,ag [iP 3,jo<|.iV 5 (.num r0)<|.var false,jo<|.iV 5 (.num t0)<|.var true]<|aih r0 t0,.o 32<|.refl<|.e<|tH (.iV 3 (.iV 5 (.num p0)<|.var false)<|.iV 5 (.num q0)<|.var true)<|.iV 3 (.iV 5 (.num r0)<|.var false)<|.iV 5 (.num t0)<|.var true,.o 34<|.refl<|.e nP,ag [tH (.iV 3 (.iV 5 (.num p0)<|.var false)<|.iV 5 (.num q0)<|.var true)<|.iV 3 (.iV 5 (.num r0)<|.var false)<|.iV 5 (.num t0)<|.var true,nP]<|ac2 _ _ ha hb hs]<|rR (kS<|AN p0 q0 r0 t0) (by
  unfold AN;exact acZ _ _:E.le (.agg [iP ((((uO (.iV 3 (.iV 5 (.num p0)<|.var false)<|.iV 5 (.num q0)<|.var true)<|.iV 3 (.iV 5 (.num r0)<|.var false)<|.iV 5 (.num t0)<|.var true).tape).iI:Nat):Int),lG<|((uO (.iV 3 (.iV 5 (.num p0)<|.var false)<|.iV 5 (.num q0)<|.var true)<|.iV 3 (.iV 5 (.num r0)<|.var false)<|.iV 5 (.num t0)<|.var true).tape).iq,lL<|((uO (.iV 3 (.iV 5 (.num p0)<|.var false)<|.iV 5 (.num q0)<|.var true)<|.iV 3 (.iV 5 (.num r0)<|.var false)<|.iV 5 (.num t0)<|.var true).tape).iz,iP 2,.v<|.slice none 0 0])<|kS<|AN p0 q0 r0 t0))
abbrev wB:List Iv:=[jx<|qQ 0 0,jx<|qQ 0 0]
def TJ:lN 2 wB:=⟨rfl,λi hi=>by
 have hi:i<2:=hi;have hv:(jx<|qQ 0 0).ix:=tz<|Ph aE aE aE;obtain rfl|rfl:i=0\/i=1:= aC 
 all_goals exact⟨hv,rfl⟩⟩
def ah7:Tz wJ wB 60=true:= aL 
def ah6:N4 wJ wB 60=false:= aL 
def ah5:N4 (AN (-3) 1 1 (-2)) wB 60=true:= aL 
def alQ(n e:Int)(h1:n.natAbs<4294967296)(h2:-1000<=e)(h3:e<=1000):il 35 [iP n,iP e]<|iB<|qQ n e:=by
 have hrg:oi<|canon (Dy.neg<|jm n) (Dy.m<|jm n)<|(Dy.e<|jm n)+e:=by rw[UZ];exact(Ph h1 h2 h3).range
 exact iE<|ae [.c<|ao8 n aC,.c<|apc (jm n) e (tU aC) aC aC hrg]<|rQ (iB<|canon (Dy.neg<|jm n) (Dy.m<|jm n)<|(Dy.e<|jm n)+e) (iB<|qQ n e)<|by rw[UZ]
def alT(d:Dy):il 85 [iB d]<|iA<|jx d:=
 iE (rR (iA<|jx d) (.jq rfl:E.le (iA<|Iv.mk d d false)<|iA<|jx d))
def Zi(n e:Int)(h1:n.natAbs<4294967296)(h2:-1000<=e)(h3:e<=1000):il 36 [iP n,iP e]<|iA<|jx<|qQ n e:=
 iE (af [ag [iP n,iP e]<|alQ _ _ aC aC aC,ag [iB<|qQ n e]<|alT _])
def ah4:il 12 [kS wJ,iG wB,iP 60]<|bP true:=by
 have:=ash wJ wB 60 Vz TJ aE aE;rwa[ah7]at this
def ah1:il 11 [kS wJ,iG wB,iP 60]<|bP false:=by
 have:=acI wJ wB 60 Vz TJ aE aE;rwa[ah6]at this
def ahZ:il 11 [kS<|AN (-3) 1 1 (-2),iG wB,iP 60]<|bP true:=by
 have:=acI (AN (-3) 1 1 (-2)) wB 60 (al9 ⟨aE,aE⟩ ⟨aE,aE⟩ ⟨aE,aE⟩ ⟨aE,aE⟩) TJ aE aE;rwa[ah5]at this
def ah0:il 10 [iP (-3),iP 1,iP 1,iP (-2)]<|kS<|AN (-3) 1 1 (-2):=ama _ _ _ _ ⟨aE,aE⟩ ⟨aE,aE⟩ ⟨aE,aE⟩ ⟨aE,aE⟩
def AK : il 7 []<|bP true:=
 iE (af [ag [iP 0,iP 0]<|Zi _ _ aE aE aE,ag [iP 0,iP 0]<|Zi _ _ aE aE aE,.o 4 (.e<|AH _ _:aj (.sl true 2 7 λi_ j_=>(jS (jx<|qQ 0 0)++jS (jx<|qQ 0 0)).getD (i_*7+j_)<|.v<|.bool false)<|iG wB),.c VC,ag [kS wJ,iG wB,iP 60] ah4,.c VC,ag [kS wJ,iG wB,iP 60] ah1,ag [iP (-3),iP 1,iP 1,iP (-2)] ah0,ag [kS<|AN (-3) 1 1 (-2),iG wB,iP 60] ahZ])
abbrev zO(xs:List RI):Nat->Nat->E:=λi j=>(wk<|xs.getD i lE).getD j .any
def apJ(x:RI)(j:Nat)(hj:j<7):((wk x).getD j .any).nr 2=true:=by
 rcases j with _|_|_|_|_|_|_|j
 all_goals first|rfl|omega
def po(m:List<|List RI):Nat->List RI
 | 0=>[]
 |k+1=>po m k++m.getD k []
def Pn(m:List<|List RI)(k:Nat):(po m<|k+1).length=(po m k).length+(m.getD k []).length:=by simp[po]
def apL{T n n':Nat}{xs r:List RI}(hn:n=xs.length)(sU:n'=(xs++r).length):Bx.le (.row true T (n+r.length) 7 λi j=>if i<n then zO xs i j else(E.ky<|lj r) (i-n) j)<|.row true T n' 7<|zO<|xs++r:=by
 subst hn sU;refine .row aH λi j hi hj=>⟨.jq ?_,apJ _ _ hj⟩
 by_cases h:i<xs.length
 .rw [bk h];show(wk<|xs.getD i lE).getD j .any=(wk<|(xs++r).getD i lE).getD j .any;congr 2;simp[bt,dh h]
 .rw [bj h];show(wk<|r.getD (i-xs.length) lE).getD j .any=(wk<|(xs++r).getD i lE).getD j .any;congr 2;simp[bt,dL (aC:xs.length<=i)]
def apM{T:Nat}{e:Nat->Nat->E}:Bx.le (.row true T 0 7 e)<|.row true T 0 7<|zO []:=.row rfl λi j hi=>absurd hi<|bC i
def apK{n:Nat}{M:List RI}(hn:n=M.length):E.le (.sl true n 7<|zO M)<|lj M:=by subst hn;exact .refl _
def apN(a:List RI)(b:List Iv):E.le (.sl true 2 1 λi j=>[lj a,iG b].getD (i*1+j)<|.v<|.bool false)<|ud [a,r7 b]:=.sl λi j hi hj=>by
 obtain rfl:j=0:= aC ;obtain rfl|rfl:i=0\/i=1:= aC 
 .exact ⟨.refl _,rfl⟩
 .exact ⟨.jq (MK b).symm,rfl⟩
noncomputable def Ag(y:List RI):Bool:=(List.range y.length).any λi=>!qX (y.getD i lE)
section
variable(m:List<|List RI)(x:Nat)
def U7:PS:=⟨36,true,[(11,.e<|iP x),(10,.e<|iP m.length),(9,.e<|ud m),(3,.e<|iP ((po m x).length:Int)),(0,.e<|ud m)],[]⟩
def U8:PS:=⟨36,true,[(27,.e<|iP x),(26,.e<|iP m.length),(25,.e<|ud m),(6,.own 24)],[(24,.row true 41 ((po m x).length) 7<|zO<|po m x)]⟩
end
def aoN(l:List Iv):(r7 l).length=l.length:=by simp[r7]
def af7{x y:List RI}(h:Ag x=true):Ag (x++y)=true:=by
 obtain⟨i,hi,h⟩:=dE.1 h;have hi:=bN.1 hi;refine dE.2 ⟨i,bN.2<|by rw[cz];omega,?_⟩;have e:(x++y).getD i lE=x.getD i lE:=by simp only[bt];rw[dh hi]
 rw[e];exact h
def af8{s:lY}(h:nK s){x:List RI}(gx:∀ i,(x.getD i lE).lp):∀ i,((x++r7 s.params).getD i lE).lp:=λi=>by
 by_cases hi:i<x.length
 .have e:(x++r7 s.params).getD i lE=x.getD i lE:=by simp only[bt];rw[dh hi]
  rw[e];exact gx i
 .have e:(x++r7 s.params).getD i lE=(r7 s.params).getD (i-x.length) lE:=by simp only[bt];rw[dL aC]
  rw[e,Qi];exact(h.params.sc _).Ec
def ags(m:List<|List RI)(hl:m.length<=1000)(hb:∀ k,k<=m.length->(po m k).length<=1000):il 79 [ud m]<|lj<|po m m.length:=by
 have rO:=hb m.length<|bw _;exact iE (af [.s (Sp.jP (U7 m) 0 m.length aC (λx hx mX=>by
    have kI:=hb (x+1) aC;rw[Pn]at kI;exact iS (ae [tT 12 ((x:Int)<m.length) aC,iX (x:Int)<|m.length,iL<|((po m x).length:Int)+((m.getD x []).length:Int),tF 20 ((((po m x).length+(m.getD x []).length:Nat):Int)<0) aC,iL<|(x:Int)+1]<|.e<|af [.o 3<|aq (((po m x).length+(m.getD x []).length:Nat):Int) ((po m<|x+1).length:Int)<|by rw[Pn]]) aF)
  (λhx=>by
    exact iS (af [tF 12 ((m.length:Int)<m.length) aC]) aF) aI:jM 3 Tryz.f79 (U7 m 0) (.exit 0) ⟨36,true,[(3,.e<|iP ((po m m.length).length:Int)),(0,.e<|ud m)],[]⟩)<|af [.o 3<|aq 0 ((po m 0).length:Int) rfl],.cn (W8 _ aC:zZ 140 [.v<|.slice none 0 0,iP ((po m m.length).length:Int)] true 41 0 7<|jC []),.s (Sp.jP (U8 m) 0 m.length aC (λx hx mX=>by
    have kI:=hb (x+1) aC;rw[Pn]at kI;exact iS (ae [tT 28 ((x:Int)<m.length) aC,iX (x:Int)<|m.length,.a (aC:((po m x).length+(m.getD x []).length)*88<=140737488355328),iL<|(x:Int)+1]<|.e<|af [.b 24 (apL rfl rfl:Bx.le (.row true 41 ((po m x).length+(m.getD x []).length) 7 λi_ j_=>if i_<(po m x).length then(zO<|po m x) i_ j_ else(E.ky<|lj<|m.getD x []) (i_-(po m x).length) j_)<|.row true 41 ((po m<|x+1).length) 7<|zO<|po m<|x+1)]) aF)
  (λhx=>by
    exact iS (ae [tF 28 ((m.length:Int)<m.length) aC,.z 24]<|.e<|af [.o 6 (.e<|apK rfl:aj (.sl true ((po m m.length).length) 7<|zO<|po m m.length)<|lj<|po m m.length)]) aF) aI:jM 11 Tryz.f79 (U8 m 0) (.exit 2) ⟨36,true,[(6,.e<|lj<|po m m.length)],[]⟩)<|af [.b 24 (apM:Bx.le (.row true 41 0 7<|jC [])<|.row true 41 ((po m 0).length) 7<|zO<|po m 0)]])
def agr(a b:List RI)(ha:a.length<=400)(hb:b.length<=400):il 79 [ud [a,b]]<|lj<|a++b:=by
 have e1:po [a,b] 1=a:=rfl;have e2:po [a,b] 2=a++b:=rfl;have:=ags [a,b] aH λk hk=>by
  have hk:k<=2:=hk;rcases k with _|_|_|k
  .exact ck _
  .rw [e1];omega
  .rw [e2,cz];omega
  .omega
 rwa[show[a,b].length=2 from rfl,e2]at this
def alo(x:RI)(g:x.lp):il 209 [yC x]<|bP<|!qX x:=
 iE (ae [.c<|YZ x g]<|.w (tw x=true)
  (λk1=>ae [tB 4 k1]<|rQ (bP x.all) (bP<|!qX x)<|sw<|by unfold qX;simp_all)
  (λk1=>ae [tB 4<|bc k1]<|rQ (bP true) (bP<|!qX x)<|sw<|by unfold qX;simp_all))
section
variable(t:je)(h:wF t)(k1:1<=t.iz.length)(k2:t.iz.length<=t.iI)(y:List RI)(gy:∀ i,(y.getD i lE).lp)(hl:y.length=t.iI)(pQ:Ag y=true)
def alq:il 133 [jT t,lj y]<|bP false:=by
 have h8:=h.iI;exact iE<|af [.c<|KH t aD,tT 13 (1<=(t.iz.length:Int)) aC,tT 19 ((t.iz.length:Int)<=t.iI) aC,ah 26 ((y.length:Int)==t.iI)<|GO hl,.c (Dd true y.length (zO y) 209 [] (λi=>!qX (y.getD i lE)) λi _=>alo _<|gy i:il 39 [lj y,.fn 209 []] _),ah 30 (Ag y) pQ]
def alF(most p:Int):il 78 [jT t,lj y,iP most,iP p]<|.iH [.v<|.slice none 0 0,iP 1]:=
 iE (af [ag [jT t,lj y]<|alq t h k1 k2 y gy hl pQ])
end
def alI(t:je)(x:List Iv)(hk:mB t x)(most p:Int)(hq:kA p=false\/most<1\/10000<most):il 78 [jT t,iG x,iP most,iP p]<|.iH [.v<|.slice none 0 0,iP 2]:=by
 cases hp:kA p with
 |false=>
  exact iE<|af [.c<|Df t x hk,.c<|Dg p,ah 28 (!(kA p))<|by rw[hp];rfl]
 |true=>
  by_cases h1:most<1
  .exact iE<|af [.c<|Df t x hk,.c<|Dg p,ai 28 (!(kA p))<|by rw[hp];rfl,tT 31 (most<1) aC]
  .have h2:10000<most:=by rcases hq with q|q|q<;>first|omega|(rw[hp]at q;cases q)
   exact iE<|af [.c<|Df t x hk,.c<|Dg p,ai 28 (!(kA p))<|by rw[hp];rfl,tF 31 (most<1) aC,tT 35 (10000<most) aC]
section
variable(s:mR)(x:List RI)(most p:Int)(g:s.lp)(sm:s.wE)
def II(hv:r8 s=false):il 27 [pW s,lj x,iP most,iP p]<|.iH [.v<|.slice none 0 0,iP 1]:=
 iE (af [.c<|acX s g sm,ah 12 (!(r8 s))<|by rw[hv];rfl])
def NA(hv:r8 s=false):il 26 [pW s,lj x,iP most,iP p]<|.iH [.v<|.slice none 0 0,iP 1]:=
 iE (af [ag [pW s,lj x,iP most,iP p]<|II s x most p g sm hv,ah 24 ((1:Int) != 0) aE])
section
variable(hv:r8 s=true)(hn:(x.length:Int)≠s.jg)
def IJ:il 27 [pW s,lj x,iP most,iP p]<|.iH [.v<|.slice none 0 0,iP 1]:=
 iE (af [.c<|acX s g sm,ai 12 (!(r8 s))<|by rw[hv];rfl,tB 18<|bh hn])
def NB:il 26 [pW s,lj x,iP most,iP p]<|.iH [.v<|.slice none 0 0,iP 1]:=
 iE (af [ag [pW s,lj x,iP most,iP p]<|IJ s x most p g sm hv hn,ah 24 ((1:Int) != 0) aE])
end
end
section
variable(s:lY)(x:List RI)(most p:Int)(h:nK s)(gx:∀ i,(x.getD i lE).lp)(hl:x.length=s.jg)(hb:Ag x=true)
def IK:il 27 [kS s,lj x,iP most,iP p]<|.iH [.v<|.slice none 0 0,iP 1]:=by
 have s1:=h.s1;have s4:=h.s4;have p4:=h.p4;have ho:=h.iz;have hi:=h.iI;have Rb:=aoN s.params;exact iE<|af [.c<|Hm s h,ai 18 ((x.length:Int) != (s.jg:Int))<|s5 hl,.o 25 (.e<|apN _ _:aj (.sl true 2 1 λi_ j_=>[lj x,iG s.params].getD (i_*1+j_)<|.v<|.bool false)<|ud [x,r7 s.params]),ag [ud [x,r7 s.params]]<|agr _ _ aC<|by rw[Rb];omega,ag [jT s.tape,lj<|x++r7 s.params,iP most,iP p]<|alF s.tape h.tape aC aC (x++r7 s.params) (af8 h gx) (by rw[cz,Rb];omega) (af7 hb) most p]
def NC:il 26 [kS s,lj x,iP most,iP p]<|.iH [.v<|.slice none 0 0,iP 1]:=
 iE (af [ag [kS s,lj x,iP most,iP p]<|IK s x most p h gx hl hb,ah 24 ((1:Int) != 0) aE])
end
section
variable(s:lY)(x:List Iv)(most p:Int)(h:nK s)(hx:lN s.jg x)(hq:kA p=false\/most<1\/10000<most)
def IL:il 27 [kS s,iG x,iP most,iP p]<|.iH [.v<|.slice none 0 0,iP 2]:=by
 have s1:=h.s1;have s4:=h.s4;have p4:=h.p4;have hl:=hx.len;exact iE<|af [.c<|Hm s h,ai 18 ((x.length:Int) != (s.jg:Int))<|s5 hl,.o 25<|.e<|B6 x s.params,.c<|CH x s.params,ag [jT s.tape,iG<|x++s.params,iP most,iP p]<|alI s.tape _ (Tl h hx) most p hq]
def ND:il 26 [kS s,iG x,iP most,iP p]<|.iH [.v<|.slice none 0 0,iP 2]:=
 iE (af [ag [kS s,iG x,iP most,iP p]<|IL s x most p h hx hq,ah 24 ((2:Int) != 0) aE])
end
def tY(d:RD):Bool:=decide (20<d.L.length)||(decide (300<d.e)||decide (d.e < -300))
def B5(x:RI):Bool:=tY x.lo||tY x.hi
def sR(l:List RI):Bool:=decide (l.length<=8) && !((List.range l.length).any λi=>B5<|l.getD i lE)
def rN(s:mR):Bool:=decide (s.iq.length<=25)&&(decide (s.iz.length<=8)&&sR s.params)
def acu{l:List RI}(h:sR l=true):l.length<=8:=by
 unfold sR at h;rw[bK,c9]at h;exact h.1
def aiM{s:mR}(h:rN s=true):s.wE:=by
 unfold rN at h;rw[bK,bK,c9,c9]at h;have:=acu h.2.2;exact⟨aC,aC⟩
def arl{t:je}{x:List Iv}(hk:mB t x){most:Int}{p i:Nat}(iC:8<=p)(iu:p<=512){s:Ac}(hs:∀ b,b ∈ s.q->lN t.iz.length b)(h0:s.q.length≠0)(hr:∀ e,e ∈ s.r->lN t.iz.length e.1):∀ e,e ∈ (qM t x most p i s).r->lN t.iz.length e.1:=by
 have hb:=hk.next<|hs _<|wj h0
 intro e;unfold qM;split
 .exact hr e
 .rename_i n1;have hm:=RS hb iC iu n1;split
  .intro h;rcases di.1 h with h|h
   .exact hr e h
   .obtain rfl:=eu.1 h;exact hm
  .split
   .intro h;rcases di.1 h with h|h
    .exact hr e h
    .obtain rfl:=eu.1 h;exact hm
   .split
    .intro h;rcases di.1 h with h|h
     .exact hr e h
     .obtain rfl:=eu.1 h;exact hm
    .exact hr e
def acR{t:je}{x:List Iv}(hk:mB t x){most:Int}{p:Nat}(iC:8<=p)(iu:p<=512):∀ i,(∀ j,j<i->(iR t x most p j).q.length≠0)->∀ e,e ∈ (iR t x most p i).r->lN t.iz.length e.1
 | 0,_=>λe he=>by cases he
 |i+1,h=>arl hk iC iu (Ti hk iC iu i λj hj=>h j aC) (h i aC)<|acR hk iC iu i λj hj=>h j aC
def ahI{s:lY}{x:List Iv}(h:nK s)(hx:lN s.jg x){most:Int}{p:Nat}(iC:8<=p)(iu:p<=512){i:Nat}(hi:i<(yV s x most p).length):lN s.jg ((yV s x most p).getD i ([],false)).1:=by
 obtain⟨_,_,h3⟩:=(N9 s.tape (x++s.params) most p).choose_spec;have hm:(yV s x most p).getD i ([],false) ∈ yV s x most p:=by
  rw[bt,bD hi];exact cB hi
 have:=acR (Tl h hx) iC iu _ h3 _ hm;rwa[h.iz]at this
def Ol{d:Dy}(h:d.ix):(im d.m).length<=100000:=by
 rcases h.range with h|⟨h,_⟩
 .rw [h,px];simp
 .exact bA (JJ (k:=128) aC) aE 
def abS(M:List<|List Iv)(R:List<|List Iv×Bool)(g:FuncId)(cap:List E)(i:Nat):PS:=⟨32,false,[(17,.e<|iP i),(16,.e<|iP M.length),(15,.e<|j9 M),(1,.e<|sP R),(2,.e<|.fn g cap)],[]⟩
def afo{b:List RI}(gb:∀ i,(b.getD i lE).lp)(h:Ag b=false):lN b.length (b.map RI.iv)/\lj b=iG (b.map RI.iv):=by
 have pa:∀ i,i<b.length->(b.getD i lE).Ok/\(b.getD i lE).all=false:=λi hi=>by
  have:=cI.1 h i<|bN.2 hi;have this:qX (b.getD i lE)=true:=by simpa using this
  unfold qX at this;rw[bK]at this;exact⟨AX.1 this.1,by simpa using this.2⟩
 have mT:∀ i,i<b.length->(b.map RI.iv).getD i iw=(b.getD i lE).iv:=λi hi=>by simp[bt,hi]
 refine⟨⟨by rw[cG],λi hi=>?_⟩,?_⟩
 .have hi:i<b.length:=by simpa using hi
  rw[mT i hi];exact⟨(pa i hi).1.valid,(pa i hi).2⟩
 .rw [<-MK];congr 1;apply att;intro i;unfold r7;rw[cC,cC];by_cases hi:i<b.length
  .have h1:=(pa i hi).1;have g1:=gb i;rw[bD hi];rw[bt,bD hi]at h1 g1;exact congrArg some (RI.Ok.eq (x:=b[i]) h1 g1).symm
  .rw [bW aC];rfl
def Ud{R:List<|List Iv×Bool}:((List.range R.length).any λi=>!(R.getD i ([],false)).2) = !KG R:=by
 unfold KG;rw[List.not_all_eq_any_not]
def ajF{x:List RI}(gx0:∀ y,y ∈ x->y.lp):∀ i,(x.getD i lE).lp:=λi=>by
 rw[bt];cases h:x[i]? with
 |none=>exact NQ
 |some y=>exact gx0 y<|dC h
def Zh(d:RD):il 41 [Cg d]<|bP<|tY d:=
 iE (.w (20<(d.L.length:Int))
  (λk1=>ae [tB 6<|bu k1]<|rR (bP<|tY d) (by
      exact .jq (by
       have:tY d=true:=by unfold tY;simp[(aC:20<d.L.length)]
       rw[this]):E.le (bP true)<|bP<|tY d))
  (λk1=>ae [tB 6<|bn k1]<|.w (300<d.e)
   (λk2=>ae [tB 10<|bu k2]<|rR (bP<|tY d) (by
      exact .jq (by
       have:tY d=true:=by unfold tY;simp[(aC:¬20<d.L.length),k2]
       rw[this]):E.le (bP true)<|bP<|tY d))
   (λk2=>ae [tB 10<|bn k2]<|rR (bP<|tY d) (by
      exact .jq (by
       have:tY d=(decide (d.e<(-300))):=by unfold tY;simp[(aC:¬20<d.L.length),k2]
       rw[this]):E.le (bP<|decide (d.e<(-300)))<|bP<|tY d))))
def alR(x:RI):il 40 [yC x]<|bP<|B5 x:=
 iE (ae [ag [Cg x.lo]<|Zh x.lo]<|.w (tY x.lo=true)
  (λk1=>ae [tB 5 k1]<|rQ (bP true) (bP<|B5 x)<|sw<|by simp_all[B5])
  (λk1=>ae [tB 5<|bc k1,ag [Cg x.hi]<|Zh x.hi]<|rQ (bP<|tY x.hi) (bP<|B5 x)<|sw<|by simp_all[B5]))
def alP(l:List RI)(hl:l.length<=1000):il 39 [lj l,.fn 40 []]<|bP<|(List.range l.length).any λi=>B5<|l.getD i lE:=
 Dd true l.length (zO l) 40 [] (λi=>B5<|l.getD i lE) (λi _=>alR _) 
def ES(l:List RI):il 8 [lj l]<|bP<|sR l:=
 iE (.w ((l.length:Int)<=8)
  (λk1=>ae [tB 5<|bu k1,ag [lj l,.fn 40 []]<|alP l aC]<|rQ (bP<|!((List.range l.length).any λi=>B5<|l.getD i lE)) (bP<|sR l)<|sw<|by unfold sR;simp[(aC:l.length<=8)])
  (λk1=>ae [tB 5<|bn k1]<|rQ (bP false) (bP<|sR l)<|sw<|by unfold sR;simp[(aC:¬l.length<=8)]))
def ER(s:mR):il 25 [pW s]<|bP<|rN s:=
 iE (.w ((s.iq.length:Int)<=25)
  (λk1=>ae [tB 7<|bu k1]<|.w ((s.iz.length:Int)<=8)
   (λk2=>ae [tB 13<|bu k2,ag [lj s.params]<|ES _]<|rQ (bP<|sR s.params) (bP<|rN s)<|sw<|by unfold rN;simp[(aC:s.iq.length<=25),(aC:s.iz.length<=8)])
   (λk2=>ae [tB 13<|bn k2]<|rQ (bP false) (bP<|rN s)<|sw<|by unfold rN;simp[(aC:s.iq.length<=25),(aC:¬s.iz.length<=8)]))
  (λk1=>ae [tB 7<|bn k1]<|rQ (bP false) (bP<|rN s)<|sw<|by unfold rN;simp[(aC:¬s.iq.length<=25)]))
def alS(x:Iv)(hx:x.ix):il 33 [iA x,iA x]<|bP true:=by
 obtain⟨w1,w2⟩:=hx.jX;exact iE<|af [ah 9 (x.all==x.all)<|atu _,.c<|abC x.lo x.lo true aH (Ol aD)<|Ol aD,.c<|abC x.hi x.hi true aH (Ol aD)<|Ol aD]
def abJ(b:List Iv)(s:Bool):il 29 [.agg [iG b,bP s]]<|bP<|!s:=
 iE (.nil)
def aqA{n:Nat}{b:List Iv}(hb:lN n b)(h8:n<=8:=by(omega)):il 32 [iG b,iG b,.fn 33 []]<|bP true:=by
 have hl:=hb.len;have:=OY b b 33 [] (λ_=>true) rfl aC λi hi=>alS _ (hb.ok i hi).1
 rwa[show(List.range b.length).all (λ_=>true)=true from bO.2 λ_ _=>rfl]at this
def apt(b:List Iv)(s:Bool)(n:Nat)(h8:n<=8)(hb:lN n b):il 31 [iG b,.agg [iG b,bP s]]<|bP true:=
 iE (af [ag [iG b,iG b,.fn 33 []]<|aqA hb])
def apT(M:List<|List Iv)(R:List<|List Iv×Bool)(g:FuncId)(cap:List E)(hl:R.length=M.length)(h8:M.length<=8001)(hp:∀ i,i<M.length->il g (iG (M.getD i []) :: .agg [iG (R.getD i ([],false)).1,bP (R.getD i ([],false)).2]::cap) (bP true)):il 30 [j9 M,sP R,.fn g cap]<|bP true:=
 pA (af [ai 14 ((M.length:Int) != (R.length:Int))<|s5,.s (Sp.jP (abS M R g cap) 0 M.length aC (λi hi mW=>by
    exact iS (af [tT 18 ((i:Int)<M.length) aC,iX (i:Int)<|M.length,iX (i:Int)<|R.length,.c (hp i aC:il g ((iG<|M.getD i [])::(.agg [iG<|(R.getD i ([],false)).1,bP<|(R.getD i ([],false)).2])::cap) _),iL<|(i:Int)+1]) aF)
  (λhi=>by
    exact iS (af [tF 18 ((M.length:Int)<M.length) aC]) aF) aI:jM 4 Tryz.f30 (abS M R g cap 0) (.exit 0) ⟨32,false,[],[]⟩) .nil])
section
variable(s:mR)(x:List RI)(most p:Int)
def apy(h1:rN s=false):il 5 [pW s,lj x,iP most,iP p]<|bP true:=
 iE (af [.c AK,ag [pW s]<|ER s,ah 17 (!(rN s))<|by rw[h1];rfl])
def apz(h1:rN s=true)(h2:sR x=false):il 5 [pW s,lj x,iP most,iP p]<|bP true:=
 iE (af [.c AK,ag [pW s]<|ER s,ai 17 (!(rN s))<|by rw[h1];rfl,ag [lj x]<|ES x,ah 21 (!(sR x))<|by rw[h2];rfl])
section
variable(h1:rN s=true)(h2:sR x=true)
def apA(h3:60<most)(h5:most<=10000):il 5 [pW s,lj x,iP most,iP p]<|bP true:=
 iE (af [.c AK,ag [pW s]<|ER s,ai 17 (!(rN s))<|by rw[h1];rfl,ag [lj x]<|ES x,ai 21 (!(sR x))<|by rw[h2];rfl,tT 25 (60<most) aC,tT 28 (most<=10000) aC])
def apB(h3:¬(60<most/\most<=10000))(h4:100<p)(h5:p<=512):il 5 [pW s,lj x,iP most,iP p]<|bP true:=
 iE (ae [.c AK,ag [pW s]<|ER s,ai 17 (!(rN s))<|by rw[h1];rfl,ag [lj x]<|ES x,ai 21 (!(sR x))<|by rw[h2];rfl]<|.w (60<most)
  (λk1=>ae [tB 25<|bu k1]<|.w (most<=10000)
   (λk2=>.x aC)
   (λk2=>af [tB 28<|bn k2,tT 33 (100<p) aC,tT 36 (p<=512) aC]))
  (λk1=>af [tB 25<|bn k1,tT 33 (100<p) aC,tT 36 (p<=512) aC]))
def apu(g:s.lp)(sm:s.wE)(hv:r8 s=false)(h3:¬(60<most/\most<=10000))(h4:¬(100<p/\p<=512)):il 5 [pW s,lj x,iP most,iP p]<|bP true:=
 iE (ae [.c AK,ag [pW s]<|ER s,ai 17 (!(rN s))<|by rw[h1];rfl,ag [lj x]<|ES x,ai 21 (!(sR x))<|by rw[h2];rfl]<|.w (60<most)
  (λk1=>ae [tB 25<|bu k1]<|.w (most<=10000)
   (λk2=>.x aC)
   (λk2=>ae [tB 28<|bn k2]<|.w (100<p)
    (λk3=>ae [tB 33<|bu k3]<|.w (p<=512)
     (λk4=>.x aC)
     (λk4=>af [tB 36<|bn k4,.c<|NA s x most p g sm hv,.c<|II s x most p g sm hv,ah 56 ((1:Int) != 0) aE,ah 59 ((1:Int)==1) aE,ah 63 ((0:Int)==0) aE]))
    (λk3=>af [tB 33<|bn k3,.c<|NA s x most p g sm hv,.c<|II s x most p g sm hv,ah 56 ((1:Int) != 0) aE,ah 59 ((1:Int)==1) aE,ah 63 ((0:Int)==0) aE])))
  (λk1=>ae [tB 25<|bn k1]<|.w (100<p)
   (λk2=>ae [tB 33<|bu k2]<|.w (p<=512)
    (λk3=>.x aC)
    (λk3=>af [tB 36<|bn k3,.c<|NA s x most p g sm hv,.c<|II s x most p g sm hv,ah 56 ((1:Int) != 0) aE,ah 59 ((1:Int)==1) aE,ah 63 ((0:Int)==0) aE]))
   (λk2=>af [tB 33<|bn k2,.c<|NA s x most p g sm hv,.c<|II s x most p g sm hv,ah 56 ((1:Int) != 0) aE,ah 59 ((1:Int)==1) aE,ah 63 ((0:Int)==0) aE])))
def apv(g:s.lp)(sm:s.wE)(hv:r8 s=true)(hn:(x.length:Int)≠s.jg)(h3:¬(60<most/\most<=10000))(h4:¬(100<p/\p<=512)):il 5 [pW s,lj x,iP most,iP p]<|bP true:=
 iE (ae [.c AK,ag [pW s]<|ER s,ai 17 (!(rN s))<|by rw[h1];rfl,ag [lj x]<|ES x,ai 21 (!(sR x))<|by rw[h2];rfl]<|.w (60<most)
  (λk1=>ae [tB 25<|bu k1]<|.w (most<=10000)
   (λk2=>.x aC)
   (λk2=>ae [tB 28<|bn k2]<|.w (100<p)
    (λk3=>ae [tB 33<|bu k3]<|.w (p<=512)
     (λk4=>.x aC)
     (λk4=>af [tB 36<|bn k4,.c<|NB s x most p g sm hv hn,.c<|IJ s x most p g sm hv hn,ah 56 ((1:Int) != 0) aE,ah 59 ((1:Int)==1) aE,ah 63 ((0:Int)==0) aE]))
    (λk3=>af [tB 33<|bn k3,.c<|NB s x most p g sm hv hn,.c<|IJ s x most p g sm hv hn,ah 56 ((1:Int) != 0) aE,ah 59 ((1:Int)==1) aE,ah 63 ((0:Int)==0) aE])))
  (λk1=>ae [tB 25<|bn k1]<|.w (100<p)
   (λk2=>ae [tB 33<|bu k2]<|.w (p<=512)
    (λk3=>.x aC)
    (λk3=>af [tB 36<|bn k3,.c<|NB s x most p g sm hv hn,.c<|IJ s x most p g sm hv hn,ah 56 ((1:Int) != 0) aE,ah 59 ((1:Int)==1) aE,ah 63 ((0:Int)==0) aE]))
   (λk2=>af [tB 33<|bn k2,.c<|NB s x most p g sm hv hn,.c<|IJ s x most p g sm hv hn,ah 56 ((1:Int) != 0) aE,ah 59 ((1:Int)==1) aE,ah 63 ((0:Int)==0) aE])))
end
end
def apw(s:lY)(x:List RI)(most p:Int)(h:nK s)(gx:∀ i,(x.getD i lE).lp)(hl:x.length=s.jg)(hb:Ag x=true)(Ej:il 25 [kS s]<|bP true)(Ez:il 8 [lj x]<|bP true)(h3:¬(60<most/\most<=10000))(h4:¬(100<p/\p<=512)):il 5 [kS s,lj x,iP most,iP p]<|bP true:=
 iE (ae [.c AK,ag [kS s] Ej,ag [lj x] Ez]<|.w (60<most)
  (λk1=>ae [tB 25<|bu k1]<|.w (most<=10000)
   (λk2=>.x aC)
   (λk2=>ae [tB 28<|bn k2]<|.w (100<p)
    (λk3=>ae [tB 33<|bu k3]<|.w (p<=512)
     (λk4=>.x aC)
     (λk4=>af [tB 36<|bn k4,.c<|NC s x most p h gx hl hb,.c<|IK s x most p h gx hl hb,ah 56 ((1:Int) != 0) aE,ah 59 ((1:Int)==1) aE,ah 63 ((0:Int)==0) aE]))
    (λk3=>af [tB 33<|bn k3,.c<|NC s x most p h gx hl hb,.c<|IK s x most p h gx hl hb,ah 56 ((1:Int) != 0) aE,ah 59 ((1:Int)==1) aE,ah 63 ((0:Int)==0) aE])))
  (λk1=>ae [tB 25<|bn k1]<|.w (100<p)
   (λk2=>ae [tB 33<|bu k2]<|.w (p<=512)
    (λk3=>.x aC)
    (λk3=>af [tB 36<|bn k3,.c<|NC s x most p h gx hl hb,.c<|IK s x most p h gx hl hb,ah 56 ((1:Int) != 0) aE,ah 59 ((1:Int)==1) aE,ah 63 ((0:Int)==0) aE]))
   (λk2=>af [tB 33<|bn k2,.c<|NC s x most p h gx hl hb,.c<|IK s x most p h gx hl hb,ah 56 ((1:Int) != 0) aE,ah 59 ((1:Int)==1) aE,ah 63 ((0:Int)==0) aE])))
def apx(s:lY)(x:List Iv)(most p:Int)(h:nK s)(hx:lN s.jg x)(hq:kA p=false\/most<1\/10000<most)(Ej:il 25 [kS s]<|bP true)(Ez:il 8 [iG x]<|bP true)(h3:¬(60<most/\most<=10000))(h4:¬(100<p/\p<=512)):il 5 [kS s,iG x,iP most,iP p]<|bP true:=
 iE (ae [.c AK,ag [kS s] Ej,ag [iG x] Ez]<|.w (60<most)
  (λk1=>ae [tB 25<|bu k1]<|.w (most<=10000)
   (λk2=>.x aC)
   (λk2=>ae [tB 28<|bn k2]<|.w (100<p)
    (λk3=>ae [tB 33<|bu k3]<|.w (p<=512)
     (λk4=>.x aC)
     (λk4=>af [tB 36<|bn k4,.c<|ND s x most p h hx hq,.c<|IL s x most p h hx hq,ah 56 ((2:Int) != 0) aE,ah 59 ((2:Int)==2) aE,ah 63 ((0:Int)==0) aE]))
    (λk3=>af [tB 33<|bn k3,.c<|ND s x most p h hx hq,.c<|IL s x most p h hx hq,ah 56 ((2:Int) != 0) aE,ah 59 ((2:Int)==2) aE,ah 63 ((0:Int)==0) aE])))
  (λk1=>ae [tB 25<|bn k1]<|.w (100<p)
   (λk2=>ae [tB 33<|bu k2]<|.w (p<=512)
    (λk3=>.x aC)
    (λk3=>af [tB 36<|bn k3,.c<|ND s x most p h hx hq,.c<|IL s x most p h hx hq,ah 56 ((2:Int) != 0) aE,ah 59 ((2:Int)==2) aE,ah 63 ((0:Int)==0) aE]))
   (λk2=>af [tB 33<|bn k2,.c<|ND s x most p h hx hq,.c<|IL s x most p h hx hq,ah 56 ((2:Int) != 0) aE,ah 59 ((2:Int)==2) aE,ah 63 ((0:Int)==0) aE])))
section
variable(s:lY)(x:List Iv)(most:Int)(p:Nat)(R:List<|List Iv×Bool)(hl:R.length<=8001)(m2:most<=60)(p2:p<=100)(hE:il 27 [kS s,iG x,iP most,iP (p:Int)]<|.iH [sP R,iP 0])(Ej:il 25 [kS s]<|bP true)(Ez:il 8 [iG x]<|bP true)
def apD(hR:il 26 [kS s,iG x,iP most,iP (p:Int)]<|.iH [.v<|.slice none 0 0,iP 15])(ha:((List.range R.length).any λi=>!(R.getD i ([],false)).2)=true):il 5 [kS s,iG x,iP most,iP p]<|bP true:=
 iE (af [.c AK,ag [kS s] Ej,ag [iG x] Ez,tF 25 (60<most) aC,tF 33 (100<(p:Int)) aC,ag [kS s,iG x,iP most,iP p] hR,ag [kS s,iG x,iP most,iP p] hE,ai 56 ((0:Int) != 0) aE,.c (abW true R.length (pV R) 29 [] (λi=>!(R.getD i ([],false)).2) (λi _=>abJ _ _) aC:il 28 [sP R,.fn 29 []] _),ah 66 ((List.range R.length).any λi=>!(R.getD i ([],false)).2) ha,ah 68 ((15:Int)==15) aE,ah 72 ((0:Int)==0) aE])
def apC(hR:il 26 [kS s,iG x,iP most,iP (p:Int)]<|.iH [j9<|zL R,iP 0])(ha:((List.range R.length).any λi=>!(R.getD i ([],false)).2)=false)(n:Nat)(h8:n<=8)(ju:∀ i,i<R.length->lN n (R.getD i ([],false)).1):il 5 [kS s,iG x,iP most,iP p]<|bP true:=
 iE (af [.c AK,ag [kS s] Ej,ag [iG x] Ez,tF 25 (60<most) aC,tF 33 (100<(p:Int)) aC,ag [kS s,iG x,iP most,iP p] hR,ag [kS s,iG x,iP most,iP p] hE,ai 56 ((0:Int) != 0) aE,.c (abW true R.length (pV R) 29 [] (λi=>!(R.getD i ([],false)).2) (λi _=>abJ _ _) aC:il 28 [sP R,.fn 29 []] _),ai 66 ((List.range R.length).any λi=>!(R.getD i ([],false)).2) ha,ah 75 ((0:Int)==0) aE,.c (apT (zL R) R 31 [] (by rw[SV]) (by rw[SV];exact hl) (λi hi=>by rw[SV]at hi;rw[apn hi];exact apt _ _ n h8<|ju i hi):il 30 [j9<|zL R,sP R,.fn 31 []] _)])
end
def alU(s:mR)(x:List RI)(most p:Int)(g:s.lp)(gx0:∀ y,y ∈ x->y.lp):il 5 [pW s,lj x,iP most,iP p]<|bP true:=by
 have gx:=ajF gx0;cases h1:rN s with
 |false=>exact apy s x most p h1
 |true=>
 cases h2:sR x with
 |false=>exact apz s x most p h1 h2
 |true=>
 by_cases h3:60<most/\most<=10000
 .exact apA s x most p h1 h2 h3.1 h3.2
 by_cases h4:100<p/\p<=512
 .exact apB s x most p h1 h2 h3 h4.1 h4.2
 have sm:=aiM h1;have qE:=acu h2;cases hv:r8 s with
 |false=>exact apu s x most p h1 h2 g sm hv h3 h4
 |true=>
 by_cases hn:(x.length:Int)=s.jg
 .obtain ⟨o1,e1⟩:=aqe g hv;have c1:=ER s;have c2:=ES x;rw[h1,e1]at c1;rw[h2]at c2;rw[e1];have y9:x.length=s.v.jg:=by
   show x.length=s.jg.toNat
   omega
  cases hb:Ag x with
  |true=>exact apw s.v x most p o1 gx y9 hb c1 c2 h3 h4
  |false=>
   obtain⟨o5,e5⟩:=afo gx hb;rw[y9]at o5;rw[e5]at c2 ⊢;by_cases hq:kA p=false\/most<1\/10000<most
   .exact apx s.v (x.map RI.iv) most p o1 o5 hq c1 c2 h3 h4
   .have hp:kA p=true:=by
     cases q:kA p with
     |true=>rfl
     |false=>exact absurd (.inl q) hq
    obtain⟨p1,p2⟩:=oo.1 hp;obtain⟨q,rfl⟩:=gP (aC:0<=p);have m1:1<=most:=Int.not_lt.1 λq=>hq<|.inr<|.inl q
    have m2:most<=10000:=Int.not_lt.1 λq=>hq<|.inr<|.inr q
    have hE:=Y7 s.v (x.map RI.iv) o1 o5 most q aC aC m1 m2;have hR:=apo s.v (x.map RI.iv) o1 o5 most q aC aC m1 m2;have hl:(yV s.v (x.map RI.iv) most q).length<=8001:=acS s.v.tape (x.map RI.iv++s.v.params) most q;unfold Nz at hR;cases hs:KG (yV s.v (x.map RI.iv) most q)with
    |true=>
     rw[hs,bk rfl]at hR;exact apC s.v (x.map RI.iv) most q _ hl aC aC hE c1 c2 hR (by rw[Ud,hs];rfl) _ (by have:=o1.s4;omega) λi hi=>ahI o1 o5 aC aC hi
    |false=>
     rw[hs,bj aE]at hR;exact apD s.v (x.map RI.iv) most q _ hl aC aC hE c1 c2 hR<|by rw[Ud,hs];rfl
 .exact apv s x most p h1 h2 g sm hv hn h3 h4
open Go.ChangeShapes Go.WideShapes Go.ChangeAt
def OE(W:World)(o:pZ)(cs:List Value):Prop:=o.lp/\cs.length=6/\∀ j,j<6->∃ v,cs[j]? = some v/\iO oQ oQ W ((Ch o).getD j .any) v
def amb{α:Type}{l:List α}(h:l.length=2):∃ a b,l=[a,b]:=by
 rcases l with _|⟨a,_|⟨b,_|⟨c,l⟩⟩⟩<;>simp at h
 exact⟨a,b,rfl⟩
def amc{α:Type}{l:List α}(h:l.length=5):∃ a b c d e,l=[a,b,c,d,e]:=by
 rcases l with _|⟨a,_|⟨b,_|⟨c,_|⟨d,_|⟨e,_|⟨f,l⟩⟩⟩⟩⟩⟩<;>simp at h
 exact⟨a,b,c,d,e,rfl⟩
def amd{α:Type}{l:List α}(h:l.length=6):∃ a b c d e f,l=[a,b,c,d,e,f]:=by
 rcases l with _|⟨a,_|⟨b,_|⟨c,_|⟨d,_|⟨e,_|⟨f,_|⟨g,l⟩⟩⟩⟩⟩⟩⟩<;>simp at h
 exact⟨a,b,c,d,e,f,rfl⟩
section
variable {H:Type} {enc:TypeId×Value->H} {W:World} {fuel:Nat} {cs:List Value} {x:DataW H×List MemPlace}
def Dt(h:DataW.trod enc prog W 0 (λ_=>true) true fuel 3 cs=some x):∃ z,cs=[.int .i64 z]/\kC .i64 z:=by
 obtain⟨z,hz,_,hw⟩:=DataW.trod_int underlying3 h;exact⟨z,hz,adF hw⟩
def an2(h:DataW.trod enc prog W 0 (λ_=>true) true fuel 78 cs=some x):∃ n d,cs=[.int .i64 n,.int .i64 d]/\kC .i64 n/\kC .i64 d:=by
 obtain⟨xs,n,rfl,rfl,hl,qE,hf⟩:=DataW.trod_struct underlying78 h;have hC:prog.cellsOf 78=2:= aF ;have hI:prog.cellsOf 3=1:= aF ;rw[hC]at hl;obtain⟨c0,c1,rfl⟩:=amb hl;have h0:=hf 0 _ rfl;have h1:=hf 1 _ rfl;simp only[fD,fE,eO]at h0 h1;simp only[hI,fF,fG,fc,fH]at h0 h1;rw[bD<|by rw[qE];decide]at h0 h1;obtain⟨z0,e0,w0⟩:=Dt h0;obtain⟨z1,e1,w1⟩:=Dt h1;simp at e0 e1;subst e0 e1;exact⟨z0,z1,rfl,w0,w1⟩
def an4(h:DataW.trod enc prog W 0 (λ_=>true) true fuel 153 cs=some x):∃ o,OE W o cs:=by
 obtain⟨xs,n,rfl,rfl,hl,qE,hf⟩:=DataW.trod_struct underlying153 h;have hC:prog.cellsOf 153=6:= aF ;have hR:prog.cellsOf 78=2:= aF ;have hI:prog.cellsOf 3=1:= aF ;rw[hC]at hl;obtain⟨c0,c1,c2,c3,c4,c5,rfl⟩:=amd hl;have h0:=hf 0 _ rfl;have h1:=hf 1 _ rfl;have h2:=hf 2 _ rfl;have h3:=hf 3 _ rfl;have h4:=hf 4 _ rfl;simp only[fD,fE,eO]at h0 h1 h2 h3 h4;simp only[hI,hR,fF,fG,fc,fH]at h0 h1 h2 h3 h4;rw[bD<|by rw[qE];decide]at h0 h1 h2 h3 h4;obtain⟨z0,e0,w0⟩:=Dt h0;obtain⟨z1,e1,w1⟩:=Dt h1;obtain⟨z2,e2,w2⟩:=Dt h2;obtain⟨z3,e3,w3⟩:=Dt h3;obtain⟨z4,z5,e4,w4,w5⟩:=an2 h4;simp at e0 e1 e2 e3 e4;obtain⟨e4,e5⟩:=e4;subst e0 e1 e2 e3 e4 e5;refine⟨⟨z0,z1,z2,z3,z4,z5⟩,⟨w0,w1,w2,w3,w4,w5⟩,rfl,λj hj=>?_⟩;rcases j with _|_|_|_|_|_|j
 all_goals first|exact⟨_,rfl,.v _⟩|omega
def apX(o:pZ)(j:Nat)(hj:j<6):((Ch o).getD j .any).one=true/\(((Ch o).getD j .any).mf=true)/\((Ch o).getD j .any).nr 2=true:=by
 rcases j with _|_|_|_|_|_|j
 all_goals first|exact⟨rfl,rfl,rfl⟩|omega
def an5(h:DataW.trod enc prog W 0 (λ_=>true) true fuel 26 cs=some x):
  ∃ l v,cs=[v]/\(∀ y,y ∈ l->y.lp)/\iO oQ oQ W (pz l) v:=by
 have hC:prog.cellsOf 153=6:= aF ;rcases Deep.open_slice underlying26 h with⟨rfl,_⟩|⟨a,len,cap,m,n,D,Pl,rfl,hb,hl,hm,rT,rfl,hx⟩
 .exact ⟨[],_,rfl,(λy hy=>by cases hy),.sl true 0 6 _ none 0 (λ_ _=>.bool false) (bw _) aE (λ_=>rfl) (λi j hi=>absurd hi<|bC i) (λi j hi=>absurd hi<|bC i) (λi j hi=>absurd hi<|bC i) λi j hi=>absurd hi<|bC i⟩
 .simp only[bH]at rT;subst rT;have ex:∀ i,∃ y:pZ,i<len->∃ cs',W.cells? 0 (a.add<|i*6) 6=some cs'/\OE W y cs':=by
   intro i;by_cases hi:i<len
   .obtain ⟨cs',h1,h2⟩:=hx i aC ;rw[hC]at h1;obtain⟨y,hy⟩:=an4 h2;exact⟨y,λ_=>⟨cs',h1,hy⟩⟩
   .exact ⟨pe,λh=>absurd h hi⟩
  let X:Nat->pZ:=λi=>Classical.choose<|ex i
  have hX:∀ i,i<len->∃ cs',W.cells? 0 (a.add<|i*6) 6=some cs'/\OE W (X i) cs':=λi=>dk<|ex i
  have hlen:((List.range len).map X).length=len:= aH ;refine⟨(List.range len).map X,_,rfl,?_,?_⟩
  .intro y hy;obtain⟨i,hi,rfl⟩:=cP.1 hy;obtain⟨cs',_,h2⟩:=hX i<|bN.1 hi;exact h2.1
  .have Em:∀ i,i<len->((List.range len).map X).getD i pe=X i:=by
    intro i hi;rw[bt,cC,fT hi];rfl
   have:=SU (W:=W) (a:=a) (len:=len) (cap:=m) (nl:=true) (λi j=>(Ch<|((List.range len).map X).getD i pe).getD j .any) hl hm (show 0<6 by decide)
    (λi j _ hj=>let⟨h1,h2,h3⟩:=apX (((List.range len).map X).getD i pe) j hj;⟨h1,λ_=>h2,h3⟩)
    (λi hi=>by
     obtain⟨cs',h1,h2,_,h3⟩:=hX i hi;exact⟨cs',h1,λj hj=>by rw[Em i hi];exact h3 j hj⟩)
   unfold pz;rw[hlen];exact this
def apU:pe.lp:=by constructor<;>(show kC .i64 0;unfold kC;decide)
def Qh{α:Type}{P:α->Prop}{l:List α}{d:α}(h:∀ y,y ∈ l->P y)(hd:P d)(i:Nat):P<|l.getD i d:=by
 by_cases hi:i<l.length
 .rw [bt,bD hi];exact h _<|cB hi
 .rw [bt,bW aC];exact hd
def TO(W:World)(s:mR)(cs:List Value):Prop:=s.lp/\cs.length=5/\∀ j,j<5->∃ v,cs[j]? = some v/\iO oQ oQ W ((S3 s).getD j .any) v
def an7(h:DataW.trod enc prog W 0 (λ_=>true) true fuel 29 cs=some x):
 ∃ (n:Int) (iq:List pZ) (iz:List Int) (v w:Value),cs=[.int .i64 n,v,w]/\kC .i64 n/\(∀ y,y ∈ iq->y.lp)/\(∀ z,z ∈ iz->kC .i64 z)/\iO oQ oQ W (pz iq) v/\iO oQ oQ W (pU iz) w:=by
 obtain⟨xs,n,rfl,rfl,hl,qE,hf⟩:=DataW.trod_struct underlying29 h;have hC:prog.cellsOf 29=3:= aF ;have hI:prog.cellsOf 3=1:= aF ;have hO:prog.cellsOf 26=1:= aF ;have hU:prog.cellsOf 27=1:= aF ;rw[hC]at hl;obtain⟨c0,c1,c2,rfl⟩:=Zr hl;have h0:=hf 0 _ rfl;have h1:=hf 1 _ rfl;have h2:=hf 2 _ rfl;simp only[fD,fE,eO]at h0 h1 h2;simp only[hI,hO,hU,fF,fG,fc,fH]at h0 h1 h2;rw[bD<|by rw[qE];decide]at h0 h1 h2;obtain⟨z0,e0,w0⟩:=Dt h0;obtain⟨iq,v,e1,g1,r1⟩:=an5 h1;obtain⟨iz,w,e2,g2,r2⟩:=an0 (k:=.i64) (λ_=>rfl) underlying27 underlying3 hI h2;simp at e0 e1 e2;subst e0 e1 e2;exact⟨z0,iq,iz,_,_,rfl,w0,g1,g2,r1,r2⟩
def an6(h:DataW.trod enc prog W 0 (λ_=>true) true fuel 31 cs=some x)(iN:∀ p ∈ x.2,p.block<W.heap.size):∃ s,TO W s cs:=by
 obtain⟨xs,n,rfl,rfl,hl,qE,hf⟩:=DataW.trod_struct underlying31 h;have hC:prog.cellsOf 31=5:= aF ;have hT:prog.cellsOf 29=3:= aF ;have hI:prog.cellsOf 3=1:= aF ;have hP:prog.cellsOf 23=1:= aF ;rw[hC]at hl;obtain⟨c0,c1,c2,c3,c4,rfl⟩:=amc hl;have h0:=hf 0 _ rfl;have h1:=hf 1 _ rfl;have h2:=hf 2 _ rfl;simp only[fD,fE,eO]at h0 h1 h2;simp only[hT,hI,hP,fF,fG,fc,fH]at h0 h1 h2;rw[bD<|by rw[qE];decide]at h0 h1 h2;obtain⟨z0,iq,iz,v,w,e0,w0,g1,g2,r1,r2⟩:=an7 h0;obtain⟨z1,e1,w1⟩:=Dt h1;obtain⟨ps,u,e2,g3,r3⟩:=abc h2 λp hp=>iN p<|dP.2 ⟨_,cB _,hp⟩;simp at e0 e1 e2;obtain⟨e0,e0b,e0c⟩:=e0;subst e0 e0b e0c e1 e2;refine⟨⟨z0,iq,iz,z1,ps⟩,⟨w0,Qh g1 apU,Qh g2<|by unfold kC;decide,w1,Qh g3 NQ⟩,rfl,λj hj=>?_⟩;rcases j with _|_|_|_|_|j
 .exact ⟨_,rfl,.v _⟩
 .exact ⟨_,rfl,r1⟩
 .exact ⟨_,rfl,r2⟩
 .exact ⟨_,rfl,.v _⟩
 .exact ⟨_,rfl,r3⟩
 .omega
end
def arF{W:World}{x:mR}{cs:Array Value}(h:TO W x cs.toList):iO oQ oQ W (pW x)<|.agg cs:=by
 obtain⟨_,hl,h⟩:=h;have:=iO.agg (bs:=oQ) (br:=oQ) (w:=W) (S3 x) cs.toList (by rw[hl];rfl) (λi p v h1 h2=>by
  have hi:i<5:=by have:=(cD.1 h2).1;omega
  obtain⟨v',h3,h4⟩:=h i hi;rw[h2]at h3;cases h3;rw[bt,h1]at h4;exact h4)
 unfold pW;exact this
def ah2:Value:=.agg #[.int .i64 0,.slice none 0 0,.slice none 0 0,.int .i64 0,.slice none 0 0]
def ah3{H:Type}:DataW H:=.agg [.agg [.lit<|.int .i64 0,.nil,.nil],.lit<|.int .i64 0,.nil]
def Fa:Array Value:=#[ah2,.slice none 0 0,.int .i64 0,.int .i64 0]
set_option maxRecDepth 100000 in
def aoa(H:Type)(enc:TypeId×Value->H)(W:World)(base:Nat)(args:Array Value)(ds gs:List<|DataW H)(before:List MemPlace)
 (mY:∀ (j:Nat) t v,Tryz.f5.params[j]? = some t->args[j]? = some v->Value.okWide prog W .any base t v)
 (hW:DataW.Whole enc prog Tryz.f5.params.toList Rows.orbitRestsSpec.vars false W args.toList ds gs before) (hL:laidMetH prog Rows.orbitRestsRow.laid W):
 Calls prog 5 args W λe W'=>∃ v,e = .returned v/\Rows.orbitRestsSpec.post enc prog Tryz.f5 false true false false W args v W':=by
 have QD:=hW;obtain⟨p,q,wR,hV,rfl,hfz,hnd⟩:=hW;have hA:DataW.TrodAll enc prog W 0 (λ_=>true) true Tryz.f5.params.toList args.toList ds p:=wR;rw[Tryz.params5]at hA mY;obtain⟨v0,vs0,d0,ds0,p0,q0,Gt,rfl,rfl,h0,wR⟩:=trodAll_cons hA;obtain⟨v1,vs1,d1,ds1,p1,q1,rfl,rfl,rfl,h1,CS⟩:=trodAll_cons wR;obtain⟨v2,vs2,d2,ds2,p2,q2,rfl,rfl,rfl,h2,hA2⟩:=trodAll_cons CS;obtain⟨v3,vs3,d3,ds3,p3,q3,rfl,rfl,rfl,h3,hA3⟩:=trodAll_cons hA2;obtain⟨rfl,rfl,rfl⟩:=trodAll_nil hA3;obtain rfl:args = #[v0,v1,v2,v3]:=by cases args;simp_all
 obtain⟨rfl,rfl⟩:=trodVars_none hV;obtain⟨cs0,rfl,as8⟩:=okWide_struct underlying31<|mY 0 31 v0 rfl rfl;obtain⟨a1,len1,cap1,rfl⟩:=okWide_slice underlying23<|mY 1 23 v1 rfl rfl;obtain⟨x2,rfl,rfl,rfl,b2⟩:=open_int underlying3 (mY 2 3 v2 rfl rfl) h2;obtain⟨x3,rfl,rfl,rfl,b3⟩:=open_int underlying3 (mY 3 3 v3 rfl rfl) h3;have h0k:=h0;obtain⟨fuel0,hf0⟩:=h0;have h1k:=h1;obtain⟨fuel1,QQ⟩:=h1;clear wR;have Gi:∀ x ∈ p0,x.block<W.heap.size:=λx hx=>QD.lt x<|by simp[hx]
 have Gj:∀ x ∈ p1,x.block<W.heap.size:=λx hx=>QD.lt x<|by simp[hx]
 obtain⟨x0,g0⟩:=an6 hf0 Gi;obtain⟨x1,w1,Gs,g1,r1⟩:=abc QQ Gj;obtain rfl:Value.slice a1 len1 cap1=w1:=by
  have:(Value.slice a1 len1 cap1).cells.toList=[Value.slice a1 len1 cap1]:=rfl;rw[this]at Gs;simpa using Gs
 have kr:=(alU x0 x1 x2 x3 g0.1 g1).run W oQ [.agg cs0,.slice a1 len1 cap1,.int .i64 x2,.int .i64 x3] (arN rfl hL) (λ_ h=>h.elim)<|.cons (arF (cs:=cs0) g0)<|.cons r1<|.cons (.v _)<|.cons (.v _)<|.nil _ _ _;refine kr.mono λr W' ⟨v,hr,hb,sW⟩=>?_
 obtain rfl:=iO.kW sW;subst hr;refine⟨_,rfl,_,_,_,[],p0++(p1++([]++([]))),[],QD,?_,?_,rfl,hb.frame _,λh=>by cases h⟩
 .exact trodAll_mk1<|shut_bool underlying4 _
 .exact ⟨p0,_,Below.trod MN aF (cL aF) h0k hb Gi,⟨p1,_,Below.trod MN aF (cL aF) h1k hb Gj,⟨[],_,Below.trod MN aF (cL aF) h2 hb (λ_ h=>by cases h),trodAll_mk1 (Below.trod MN aF (cL aF) h3 hb λ_ h=>by cases h),rfl⟩,rfl⟩,rfl⟩
def aod(os:Os):laidMet prog Rows.orbitRestsRow.laid ((RM os Fa).forCall (λ_ _=>0) ⟨#[],Fa,[]⟩).memory:=
 laidMet_of_run' 8 aF aF 
def aof(os:Os){H:Type}(enc:TypeId×Value->H):∃ places,DataW.whole enc prog ((RM os Fa).forCall (λ_ _=>0) ⟨#[],Fa,[]⟩).memory Tryz.f5.params.toList Rows.orbitRestsSpec.vars false Fa.toList 8=some ([ah3,.nil,.lit<|.int .i64 0,.lit<|.int .i64 0],[],places):=
 ⟨[],aF⟩
set_option maxRecDepth 100000 in
def aoc(os:Os)(started:os.Started)(H:Type)(enc:TypeId×Value->H)(F:Stop.Interp):
  ReturnsInHanded {} Tryz.checked os 5 .any ((OpenSpec.ofChange Rows.orbitRestsSpec).preRow enc prog Tryz.f5 Rows.orbitRestsRow.domain false Rows.orbitRestsRow.laid) (((OpenSpec.ofChange Rows.orbitRestsSpec).at F).post enc prog Tryz.f5 false true false false):=by
 obtain⟨places,hx⟩:=aof os enc;refine returnsInHanded_of_row (C:=Tryz.checked) (s:=OpenSpec.ofChange Rows.orbitRestsSpec) own started aF func5
  (witness_row_at (enc:=enc) (C:=Tryz.checked) false (RM os Fa) Fa rfl aF aF aF 
   (OpenSpec.preRow_of_cond 8 hx aF (λk hk=>by cases hk) aF<|aod os)) ?_
 intro W base args ds gs before mY hW _ _ _ hL _ _;exact aoa H enc W base args ds gs before mY hW hL
set_option maxHeartbeats 100000000 in
def aob:joinedFacts prog 5 Tryz.f5 (OpenSpec.ofChange Rows.orbitRestsSpec).bare Rows.orbitRestsRow=true:=by
 unfold joinedFacts;simp only[bK]
 and_intros<;>decide +kernel
def aog:Rows.OrbitRestsSaid:=
 OpenClaim.holds_of_cond 5 Tryz.f5 rfl rfl rfl rfl rfl rfl rfl ⟨rfl,rfl,rfl,rfl,rfl⟩ rfl rfl rfl rfl rfl aF func5 aob
  (cL aF) (by unfold Func.isWrapper;first|(rw[bk aL];kernel_rfl)|(rw[bj aL];exact⟨rfl,rfl⟩))
  (λos started H enc _ F=>by rw[OpenClaim.pre_eq_preRow];exact aoc os started H enc F)
def aoe (f:FuncId) (fn:Func) (hf:Tryz.pinned.checked.prog.funcNamed "flowpipe/flowpipelaw44.OrbitRests" = some f) (hfn:Tryz.pinned.checked.prog.funcs[f]? = some fn):
 false=Tryz.pinned.checked.prog.looks []/\∀ (j:Nat) t,fn.params[j]? = some t->Tryz.pinned.checked.prog.wantsStandIn t=false:=by
 obtain rfl:f=5:=atJ ((show prog.funcNamed "flowpipe/flowpipelaw44.OrbitRests" = some 5 by kernel_rfl).symm.trans hf) |>.symm
 obtain rfl:fn=Tryz.f5:=(atJ<|func5.symm.trans hfn).symm;refine⟨aF,λj t ht=>?_⟩;rw[Tryz.params5]at ht;have:t=31\/t=23\/t=3:=by
  have:=ek ht;simp only[ia,dw,List.not_mem_nil,or_false]at this;rcases this with h|h|h|h<;>subst h<;>simp
 rcases this with rfl|rfl|rfl
 .exact (show prog.wantsStandIn 31=false by kernel_rfl)
 .exact (show prog.wantsStandIn 23=false by kernel_rfl)
 .exact (show prog.wantsStandIn 3=false by kernel_rfl)
theorem orests_card:Rows.OrbitRestsCardSaid:=
 Claim7.holds_tied_plain_at .later [] _ _ _ _ aog (λ_ h=>by cases h) aF (λ_ h=>by cases h) orbitRests_row_tie rfl ⟨rfl,rfl⟩ aF rfl aoe (ajE aiQ rfl)
end Go.Proofs.YtjkmahljfblobaaGreatDoor
