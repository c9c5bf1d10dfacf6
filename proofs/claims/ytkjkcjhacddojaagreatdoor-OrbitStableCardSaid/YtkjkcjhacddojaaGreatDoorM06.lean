/- The law OrbitStable is true for all arguments: Stable and Unstable report what is specified. -/
import Derived.Test.YtkjkcjhacddojaaGreatDoorM05
set_option linter.unusedSimpArgs false
set_option linter.unusedVariables false
set_option linter.defProp false
set_option maxHeartbeats 4000000
open Go.Proofs.Tryz
namespace Go.Proofs.YtkjkcjhacddojaaGreatDoor
open Go.RowKit Fp Pu
def WC(t:kF)(n:Int)(N:Nat)(x:Nat):PS:=⟨88,true,[(12,.e (iP x)),(8,.box 8 0),(6,.box 6 0),(3,.box 3 0)],[(8,.cells 74 [iP 1,iP 0,iP 0,iP 0,iP n,iP 1]),(6,.cells 25 [iP 0,.v (.slice none 0 0),.v (.slice none 0 0)]),(3,.cells 25 [iP t.im,lf t.ib,lp t.il])]⟩
def WB(t:kF)(n:Int)(x:Nat):PS:=⟨88,true,[(12,.e (iP x)),(8,.box 8 0),(6,.box 6 0),(3,.box 3 0)],[(8,.cells 74 [iP 1,iP 0,iP 0,iP 0,iP n,iP 1]),(6,.cells 25 [iP 0,.v (.slice none 0 0),.v (.slice none 0 0)]),(3,.cells 25 [iP t.im,lf t.ib,lp t.il])]⟩
def WE(t:kF)(k n:Nat)(e:mG)(N:Nat)(x:Nat):PS:=⟨88,true,[(12,.e (iP x)),(8,.box 8 0),(6,.box 6 0),(3,.box 3 0)],[(8,.cells 74 [iP k,iP (((iy t e).2:Nat):Int),iP 0,iP n,iP 0,iP 0]),(3,.cells 25 [iP (((iy t e).1).im:Int),lf (((iy t e).1).ib),lp (((iy t e).1).il)]),(6,.cells 25 [iP 0,.v (.slice none 0 0),.v (.slice none 0 0)])]⟩
def WD(t:kF)(k n:Nat)(e:mG)(x:Nat):PS:=⟨88,true,[(12,.e (iP x)),(8,.box 8 0),(6,.box 6 0),(3,.box 3 0)],[(8,.cells 74 [iP k,iP (((iy t e).2:Nat):Int),iP 0,iP n,iP 0,iP 0]),(3,.cells 25 [iP (((iy t e).1).im:Int),lf (((iy t e).1).ib),lp (((iy t e).1).il)]),(6,.cells 25 [iP 0,.v (.slice none 0 0),.v (.slice none 0 0)])]⟩
def WA(t:kF)(k:Nat)(a b:mG)(N:Nat)(x:Nat):PS:=⟨88,true,[(12,.e (iP x)),(8,.box 8 0),(6,.box 6 0),(3,.box 3 0)],[(8,.cells 74 [iP k,iP (((iy t a).2:Nat):Int),iP (((iy (iy t a).1 b).2:Nat):Int),iP 0,iP 0,iP 0]),(3,.cells 25 [iP (((iy (iy t a).1 b).1).im:Int),lf (((iy (iy t a).1 b).1).ib),lp (((iy (iy t a).1 b).1).il)]),(6,.cells 25 [iP 0,.v (.slice none 0 0),.v (.slice none 0 0)])]⟩
def Wz(t:kF)(k:Nat)(a b:mG)(x:Nat):PS:=⟨88,true,[(12,.e (iP x)),(8,.box 8 0),(6,.box 6 0),(3,.box 3 0)],[(8,.cells 74 [iP k,iP (((iy t a).2:Nat):Int),iP (((iy (iy t a).1 b).2:Nat):Int),iP 0,iP 0,iP 0]),(3,.cells 25 [iP (((iy (iy t a).1 b).1).im:Int),lf (((iy (iy t a).1 b).1).ib),lp (((iy (iy t a).1 b).1).il)]),(6,.cells 25 [iP 0,.v (.slice none 0 0),.v (.slice none 0 0)])]⟩
def ann:((⟨#[120]⟩:ByteArray).toList==(⟨#[121]⟩:ByteArray).toList)=false:= aQ 
def ajH : gZ 178 [oj,.v (.string ⟨#[120]⟩)] (iP 0):=
 ak call178 func178 (af [.u 4,ah 9 (decide ((0:Int)<2)) aG,iX 0 2 aE,.g (OL (apQ _):nn prog .eql 9 (.v (.string ⟨#[120]⟩)) (.v (.string ⟨#[120]⟩)) (.bool true))]) 
def ajI : gZ 178 [oj,.v (.string ⟨#[121]⟩)] (iP 1):=
 ak call178 func178 (af [.u 4,ah 9 (decide ((0:Int)<2)) aG,iX 0 2 aE,.g (OL ann:nn prog .eql 9 (.v (.string ⟨#[120]⟩)) (.v (.string ⟨#[121]⟩)) (.bool false)),iz (0+1) aE,ah 9 (decide (((0+1):Int)<2)) aG,iX (0+1) 2 aE,.g (OL (apQ _):nn prog .eql 9 (.v (.string ⟨#[121]⟩)) (.v (.string ⟨#[121]⟩)) (.bool true))]) 
abbrev ze(e:mG):E:=.sl true 1 6 λi j=>(jB e).getD (i*6+j) (.v (.bool false))
abbrev ng(a b:mG):E:=.sl true 2 6 λi j=>(jB a++jB b).getD (i*6+j) (.v (.bool false))
def IT(e:mG):(jB e).length=6:=by
 cases e with
 |var y=>cases y<;>rfl
 |_=>rfl
def KB{l:List E}(h:l.length=6):∃ a b c d e f,l=[a,b,c,d,e,f]:=by
 rcases l with _|⟨a,_|⟨b,_|⟨c,_|⟨d,_|⟨e,_|⟨f,_|⟨g,l⟩⟩⟩⟩⟩⟩⟩<;>first|exact⟨_,_,_,_,_,_,rfl⟩|(simp at h;done)|(simp at h;omega)
def SW(e:mG):E.agg [(jB e).getD (0*6+0) (.v (.bool false)),(jB e).getD (0*6+1) (.v (.bool false)),(jB e).getD (0*6+2) (.v (.bool false)),(jB e).getD (0*6+3) (.v (.bool false)),(jB e).getD (0*6+4) (.v (.bool false)),(jB e).getD (0*6+5) (.v (.bool false))]=jG e:=by
 unfold jG;obtain⟨a,b,c,d,e,f,h⟩:=KB (IT e);rw[h];rfl
def Mn(a b:mG):E.agg [(jB a++jB b).getD (0*6+0) (.v (.bool false)),(jB a++jB b).getD (0*6+1) (.v (.bool false)),(jB a++jB b).getD (0*6+2) (.v (.bool false)),(jB a++jB b).getD (0*6+3) (.v (.bool false)),(jB a++jB b).getD (0*6+4) (.v (.bool false)),(jB a++jB b).getD (0*6+5) (.v (.bool false))]=jG a:=by
 unfold jG;obtain⟨a,b,c,d,e,f,h⟩:=KB (IT a);rw[h];rfl
def Mo(a b:mG):E.agg [(jB a++jB b).getD (1*6+0) (.v (.bool false)),(jB a++jB b).getD (1*6+1) (.v (.bool false)),(jB a++jB b).getD (1*6+2) (.v (.bool false)),(jB a++jB b).getD (1*6+3) (.v (.bool false)),(jB a++jB b).getD (1*6+4) (.v (.bool false)),(jB a++jB b).getD (1*6+5) (.v (.bool false))]=jG b:=by
 unfold jG;obtain⟨a',b',c',d',e',f',h'⟩:=KB (IT b);obtain⟨a,b,c,d,e,f,h⟩:=KB (IT a);rw[h,h'];rfl
def ai7(t:kF)(ht:pA t):gZ 106 [kK t,jG (.var true),oj] (.iC [kK t,iP 1]):=
 ak call106 func106 (af [ah 15 ((2:Int)==2) aG,.c ajI]) 
def ai6(t:kF)(ht:pA t):gZ 106 [kK t,jG (.var false),oj] (.iC [kK t,iP 0]):=
 ak call106 func106 (af [ah 15 ((2:Int)==2) aG,.c ajH]) 
def ai3(t:kF)(ht:pA t)(n:Int)(he:(mG.num n).Ok)(hu:pA t)(hl:t.ib.length<=800)(oK:vu (je.mk 1 0 0 0 n 1))(N:Nat)(mS:N<t.ib.length)(iQ:∀ i,i<N->nM (t.ib.getD i iB) (je.mk 1 0 0 0 n 1)=false)(hN:nM (t.ib.getD N iB) (je.mk 1 0 0 0 n 1)=true):gZ 106 [kK t,jG (.num n),oj] (.iC [kK t,iP ((t.im+N:Nat):Int)]):=by
 have uf:=hu.sm aE;have F0:=hu.im;exact ak call106 func106 (af [ai 15 ((1:Int)==2) aG,.u 4,ai 32 (decide ((0:Int)<0)) aG,.s (Sp.jv (WC t n N) 0 N aE (λx hx jU=>by
    have ri:=uf x aE;exact iG (af [tT 57 ((x:Int)<t.ib.length) aE,iX (x:Int) (t.ib.length) aE,.g (Aj _ (je.mk 1 0 0 0 n 1) ri oK:nn prog .eql 74 (oD (t.ib.getD x iB)) (.agg [iP 1,iP 0,iP 0,iP 0,iP n,iP 1]) (.bool (nM (t.ib.getD x iB) (je.mk 1 0 0 0 n 1)))),ai 66 (nM (t.ib.getD x iB) (je.mk 1 0 0 0 n 1)) (iQ x aE),iz ((x:Int)+1) aE]) aI)
  (λhx=>by
    have ri:=uf N aE;exact iG (af [tT 57 ((N:Int)<t.ib.length) aE,iX (N:Int) (t.ib.length) aE,.g (Aj _ (je.mk 1 0 0 0 n 1) ri oK:nn prog .eql 74 (oD (t.ib.getD N iB)) (.agg [iP 1,iP 0,iP 0,iP 0,iP n,iP 1]) (.bool (nM (t.ib.getD N iB) (je.mk 1 0 0 0 n 1)))),ah 66 (nM (t.ib.getD N iB) (je.mk 1 0 0 0 n 1)) hN,iz ((t.im:Int)+N) aE]) aI) aM:ju 13 f106 (WC t n N 0) .ret ⟨88,true,[(7,.e (iP ((t.im+N:Nat):Int))),(6,.box 6 0)],[(6,.cells 25 [iP t.im,lf t.ib,lp t.il])]⟩) .nil]) 
def ai2(t:kF)(ht:pA t)(n:Int)(he:(mG.num n).Ok)(hu:pA t)(hl:t.ib.length<=800)(oK:vu (je.mk 1 0 0 0 n 1))(iQ:∀ i,i<t.ib.length->nM (t.ib.getD i iB) (je.mk 1 0 0 0 n 1)=false):gZ 106 [kK t,jG (.num n),oj] (.iC [kK { t with ib:=t.ib++[je.mk 1 0 0 0 n 1] },iP ((t.im+t.ib.length:Nat):Int)]):=by
 have uf:=hu.sm aE;have F0:=hu.im;have oh:(t.ib++[je.mk 1 0 0 0 n 1]).length=t.ib.length+1:=by rw[cE];rfl
 exact ak call106 func106 (af [ai 15 ((1:Int)==2) aG,.u 4,ai 32 (decide ((0:Int)<0)) aG,.s (Sp.jv (WB t n) 0 t.ib.length aE (λx hx jU=>by
    have ri:=uf x aE;exact iG (af [tT 57 ((x:Int)<t.ib.length) aE,iX (x:Int) (t.ib.length) aE,.g (Aj _ (je.mk 1 0 0 0 n 1) ri oK:nn prog .eql 74 (oD (t.ib.getD x iB)) (.agg [iP 1,iP 0,iP 0,iP 0,iP n,iP 1]) (.bool (nM (t.ib.getD x iB) (je.mk 1 0 0 0 n 1)))),ai 66 (nM (t.ib.getD x iB) (je.mk 1 0 0 0 n 1)) (iQ x aE),iz ((x:Int)+1) aE]) aI)
  (λhx=>by
    exact iG (af [tF 57 ((t.ib.length:Int)<t.ib.length) aE]) aI) aM:ju 13 f106 (WB t n 0) (.exit 2) ⟨88,true,[(8,.box 8 0),(6,.box 6 0),(3,.box 3 0)],[(8,.cells 74 [iP 1,iP 0,iP 0,iP 0,iP n,iP 1]),(6,.cells 25 [iP 0,.v (.slice none 0 0),.v (.slice none 0 0)]),(3,.cells 25 [iP t.im,lf t.ib,lp t.il])]⟩) .nil,
  .bo,.a (aE:(0+t.ib.length)*48<=140737488355328),.o 77 (.refl _:aj (.sl true 1 6 λi_ j_=>[iP 1,iP 0,iP 0,iP 0,iP n,iP 1].getD (i_*6+j_) (.v (.bool false))) (.sl true 1 6 λi_ j_=>[iP 1,iP 0,iP 0,iP 0,iP n,iP 1].getD (i_*6+j_) (.v (.bool false)))),
  .bo,.a (aE:((0+t.ib.length)+1)*48<=140737488355328),.o 78 (.e (OR λj hj=>by rcases j with _|_|_|_|_|_|j<;>first|rfl|omega):aj (.sl true ((0+t.ib.length)+1) 6 (λi_ j_=>if i_<(0+t.ib.length)then(λi_ j_=>if i_<0 then(λi_ j_=>([]:List E).getD (i_*6+j_) (.v (.bool false))) i_ j_ else(E.kH (lf t.ib)) (i_-0) j_) i_ j_ else(E.kH (.sl true 1 6 λi_ j_=>[iP 1,iP 0,iP 0,iP 0,iP n,iP 1].getD (i_*6+j_) (.v (.bool false)))) (i_-(0+t.ib.length)) j_)) (lf (t.ib++[je.mk 1 0 0 0 n 1]))),
  iz ((t.im:Int)+((t.ib++[je.mk 1 0 0 0 n 1]).length:Int)) aE,iz (((t.im+(t.ib++[je.mk 1 0 0 0 n 1]).length:Nat):Int)-1) aE,.o 87 (aq (((t.im+(t.ib++[je.mk 1 0 0 0 n 1]).length:Nat):Int)-1) ((t.im+t.ib.length:Nat):Int) aX)]) 
def ai5(t:kF)(ht:pA t)(k n:Nat)(e:mG)(he:(mG.un k n e).Ok)(ih:gZ 106 [kK t,jG e,oj] (.iC [kK (iy t e).1,iP (((iy t e).2:Nat):Int)]))(hu:pA ((iy t e).1))(hl:((iy t e).1).ib.length<=800)(oK:vu (je.mk k (iy t e).2 0 n 0 0))(N:Nat)(mS:N<((iy t e).1).ib.length)(iQ:∀ i,i<N->nM (((iy t e).1).ib.getD i iB) (je.mk k (iy t e).2 0 n 0 0)=false)(hN:nM (((iy t e).1).ib.getD N iB) (je.mk k (iy t e).2 0 n 0 0)=true):gZ 106 [kK t,jG (.un k n e),oj] (.iC [kK ((iy t e).1),iP ((((iy t e).1).im+N:Nat):Int)]):=by
 have uf:=hu.sm aE;have F0:=hu.im;have qp:=he.1;have mO:=he.2.1;exact ak call106 func106 (af [ai 15 ((k:Int)==2) (bj aE),.u 4,ah 32 (decide ((0:Int)<1)) aG,iX 0 1 aE,.o 41 (.e (.iM (SW e)):aj (.agg [(jB e).getD (0*6+0) (.v (.bool false)),(jB e).getD (0*6+1) (.v (.bool false)),(jB e).getD (0*6+2) (.v (.bool false)),(jB e).getD (0*6+3) (.v (.bool false)),(jB e).getD (0*6+4) (.v (.bool false)),(jB e).getD (0*6+5) (.v (.bool false))]) (jG e)),ag [kK t,jG e,oj] ih,ah 48 ((0:Int)==0) aG,iz (0+1) aE,.k [9,8,6,4,3,2] [8,3,6,4],ai 32 (decide (((0+1):Int)<1)) aG,.s (Sp.jv (WE t k n e N) 0 N aE (λx hx jU=>by
    have ri:=uf x aE;exact iG (af [tT 57 ((x:Int)<((((iy t e).1).ib).length:Int)) aE,iX (x:Int) ((((iy t e).1).ib).length) aE,.g (Aj _ (je.mk k (iy t e).2 0 n 0 0) ri oK:nn prog .eql 74 (oD ((((iy t e).1).ib).getD x iB)) (.agg [iP k,iP (((iy t e).2:Nat):Int),iP 0,iP n,iP 0,iP 0]) (.bool (nM ((((iy t e).1).ib).getD x iB) (je.mk k (iy t e).2 0 n 0 0)))),ai 66 (nM ((((iy t e).1).ib).getD x iB) (je.mk k (iy t e).2 0 n 0 0)) (iQ x aE),iz ((x:Int)+1) aE]) aI)
  (λhx=>by
    have ri:=uf N aE;exact iG (af [tT 57 ((N:Int)<((((iy t e).1).ib).length:Int)) aE,iX (N:Int) ((((iy t e).1).ib).length) aE,.g (Aj _ (je.mk k (iy t e).2 0 n 0 0) ri oK:nn prog .eql 74 (oD ((((iy t e).1).ib).getD N iB)) (.agg [iP k,iP (((iy t e).2:Nat):Int),iP 0,iP n,iP 0,iP 0]) (.bool (nM ((((iy t e).1).ib).getD N iB) (je.mk k (iy t e).2 0 n 0 0)))),ah 66 (nM ((((iy t e).1).ib).getD N iB) (je.mk k (iy t e).2 0 n 0 0)) hN,iz ((((iy t e).1).im:Int)+N) aE]) aI) aM:ju 13 f106 (WE t k n e N 0) .ret ⟨88,true,[(7,.e (iP ((((iy t e).1).im+N:Nat):Int))),(6,.box 6 0)],[(6,.cells 25 [iP (((iy t e).1).im:Int),lf (((iy t e).1).ib),lp (((iy t e).1).il)])]⟩) .nil]) 
def ai4(t:kF)(ht:pA t)(k n:Nat)(e:mG)(he:(mG.un k n e).Ok)(ih:gZ 106 [kK t,jG e,oj] (.iC [kK (iy t e).1,iP (((iy t e).2:Nat):Int)]))(hu:pA ((iy t e).1))(hl:((iy t e).1).ib.length<=800)(oK:vu (je.mk k (iy t e).2 0 n 0 0))(iQ:∀ i,i<((iy t e).1).ib.length->nM (((iy t e).1).ib.getD i iB) (je.mk k (iy t e).2 0 n 0 0)=false):gZ 106 [kK t,jG (.un k n e),oj] (.iC [kK { (iy t e).1 with ib:=((iy t e).1).ib++[je.mk k (iy t e).2 0 n 0 0] },iP ((((iy t e).1).im+((iy t e).1).ib.length:Nat):Int)]):=by
 have uf:=hu.sm aE;have F0:=hu.im;have qp:=he.1;have mO:=he.2.1;have oh:(((iy t e).1).ib++[je.mk k (iy t e).2 0 n 0 0]).length=((iy t e).1).ib.length+1:=by rw[cE];rfl
 exact ak call106 func106 (af [ai 15 ((k:Int)==2) (bj aE),.u 4,ah 32 (decide ((0:Int)<1)) aG,iX 0 1 aE,.o 41 (.e (.iM (SW e)):aj (.agg [(jB e).getD (0*6+0) (.v (.bool false)),(jB e).getD (0*6+1) (.v (.bool false)),(jB e).getD (0*6+2) (.v (.bool false)),(jB e).getD (0*6+3) (.v (.bool false)),(jB e).getD (0*6+4) (.v (.bool false)),(jB e).getD (0*6+5) (.v (.bool false))]) (jG e)),ag [kK t,jG e,oj] ih,ah 48 ((0:Int)==0) aG,iz (0+1) aE,.k [9,8,6,4,3,2] [8,3,6,4],ai 32 (decide (((0+1):Int)<1)) aG,.s (Sp.jv (WD t k n e) 0 (((iy t e).1).ib.length) aE (λx hx jU=>by
    have ri:=uf x aE;exact iG (af [tT 57 ((x:Int)<((((iy t e).1).ib).length:Int)) aE,iX (x:Int) ((((iy t e).1).ib).length) aE,.g (Aj _ (je.mk k (iy t e).2 0 n 0 0) ri oK:nn prog .eql 74 (oD ((((iy t e).1).ib).getD x iB)) (.agg [iP k,iP (((iy t e).2:Nat):Int),iP 0,iP n,iP 0,iP 0]) (.bool (nM ((((iy t e).1).ib).getD x iB) (je.mk k (iy t e).2 0 n 0 0)))),ai 66 (nM ((((iy t e).1).ib).getD x iB) (je.mk k (iy t e).2 0 n 0 0)) (iQ x aE),iz ((x:Int)+1) aE]) aI)
  (λhx=>by
    exact iG (af [tF 57 ((((iy t e).1).ib.length:Int)<((((iy t e).1).ib).length:Int)) aE]) aI) aM:ju 13 f106 (WD t k n e 0) (.exit 2) ⟨88,true,[(8,.box 8 0),(6,.box 6 0),(3,.box 3 0)],[(8,.cells 74 [iP k,iP (((iy t e).2:Nat):Int),iP 0,iP n,iP 0,iP 0]),(3,.cells 25 [iP (((iy t e).1).im:Int),lf (((iy t e).1).ib),lp (((iy t e).1).il)]),(6,.cells 25 [iP 0,.v (.slice none 0 0),.v (.slice none 0 0)])]⟩) .nil,
  .bo,.a (aE:(0+(((iy t e).1).ib).length)*48<=140737488355328),.o 77 (.refl _:aj (.sl true 1 6 λi_ j_=>[iP k,iP (((iy t e).2:Nat):Int),iP 0,iP n,iP 0,iP 0].getD (i_*6+j_) (.v (.bool false))) (.sl true 1 6 λi_ j_=>[iP k,iP (((iy t e).2:Nat):Int),iP 0,iP n,iP 0,iP 0].getD (i_*6+j_) (.v (.bool false)))),
  .bo,.a (aE:((0+(((iy t e).1).ib).length)+1)*48<=140737488355328),.o 78 (.e (OR λj hj=>by rcases j with _|_|_|_|_|_|j<;>first|rfl|omega):aj (.sl true ((0+(((iy t e).1).ib).length)+1) 6 (λi_ j_=>if i_<(0+(((iy t e).1).ib).length)then(λi_ j_=>if i_<0 then(λi_ j_=>([]:List E).getD (i_*6+j_) (.v (.bool false))) i_ j_ else(E.kH (lf (((iy t e).1).ib))) (i_-0) j_) i_ j_ else(E.kH (.sl true 1 6 λi_ j_=>[iP k,iP (((iy t e).2:Nat):Int),iP 0,iP n,iP 0,iP 0].getD (i_*6+j_) (.v (.bool false)))) (i_-(0+(((iy t e).1).ib).length)) j_)) (lf (((iy t e).1).ib++[je.mk k (iy t e).2 0 n 0 0]))),
  iz ((((iy t e).1).im:Int)+((((iy t e).1).ib++[je.mk k (iy t e).2 0 n 0 0]).length:Int)) aE,
  iz (((((iy t e).1).im+(((iy t e).1).ib++[je.mk k (iy t e).2 0 n 0 0]).length:Nat):Int)-1) aE,.o 87 (aq (((((iy t e).1).im+(((iy t e).1).ib++[je.mk k (iy t e).2 0 n 0 0]).length:Nat):Int)-1) ((((iy t e).1).im+((iy t e).1).ib.length:Nat):Int) aX)]) 
def ai1(t:kF)(ht:pA t)(k:Nat)(a b:mG)(he:(mG.iO k a b).Ok)(Ea:gZ 106 [kK t,jG a,oj] (.iC [kK (iy t a).1,iP (((iy t a).2:Nat):Int)]))(Eb:gZ 106 [kK ((iy t a).1),jG b,oj] (.iC [kK (iy ((iy t a).1) b).1,iP (((iy ((iy t a).1) b).2:Nat):Int)]))(hu:pA ((iy (iy t a).1 b).1))(hl:((iy (iy t a).1 b).1).ib.length<=800)(oK:vu (je.mk k (iy t a).2 (iy (iy t a).1 b).2 0 0 0))(N:Nat)(mS:N<((iy (iy t a).1 b).1).ib.length)(iQ:∀ i,i<N->nM (((iy (iy t a).1 b).1).ib.getD i iB) (je.mk k (iy t a).2 (iy (iy t a).1 b).2 0 0 0)=false)(hN:nM (((iy (iy t a).1 b).1).ib.getD N iB) (je.mk k (iy t a).2 (iy (iy t a).1 b).2 0 0 0)=true):gZ 106 [kK t,jG (.iO k a b),oj] (.iC [kK ((iy (iy t a).1 b).1),iP ((((iy (iy t a).1 b).1).im+N:Nat):Int)]):=by
 have uf:=hu.sm aE;have F0:=hu.im;have qp:=he.1;have mO:=he.2.1;exact ak call106 func106 (af [ai 15 ((k:Int)==2) (bj aE),.u 4,ah 32 (decide ((0:Int)<2)) aG,iX 0 2 aE,.o 41 (.e (.iM (Mn a b)):aj (.agg [(jB a++jB b).getD (0*6+0) (.v (.bool false)),(jB a++jB b).getD (0*6+1) (.v (.bool false)),(jB a++jB b).getD (0*6+2) (.v (.bool false)),(jB a++jB b).getD (0*6+3) (.v (.bool false)),(jB a++jB b).getD (0*6+4) (.v (.bool false)),(jB a++jB b).getD (0*6+5) (.v (.bool false))]) (jG a)),ag [kK t,jG a,oj] Ea,ah 48 ((0:Int)==0) aG,iz (0+1) aE,.k [9,8,6,4,3,2] [8,3,6,4],ah 32 (decide (((0+1):Int)<2)) aG,
  iX (0+1) 2 aE,.o 41 (.e (.iM (Mo a b)):aj (.agg [(jB a++jB b).getD (1*6+0) (.v (.bool false)),(jB a++jB b).getD (1*6+1) (.v (.bool false)),(jB a++jB b).getD (1*6+2) (.v (.bool false)),(jB a++jB b).getD (1*6+3) (.v (.bool false)),(jB a++jB b).getD (1*6+4) (.v (.bool false)),(jB a++jB b).getD (1*6+5) (.v (.bool false))]) (jG b)),ag [kK ((iy t a).1),jG b,oj] Eb,ai 48 (((0+1):Int)==0) aG,iz ((0+1)+1) aE,.k [9,8,6,4,3,2] [8,3,6,4],ai 32 (decide ((((0+1)+1):Int)<2)) aG,.s (Sp.jv (WA t k a b N) 0 N aE (λx hx jU=>by
    have ri:=uf x aE;exact iG (af [tT 57 ((x:Int)<(((((iy (iy t a).1 b).1).ib).length:Nat):Int)) aE,iX (x:Int) ((((iy (iy t a).1 b).1).ib).length) aE,.g (Aj _ (je.mk k (iy t a).2 (iy (iy t a).1 b).2 0 0 0) ri oK:nn prog .eql 74 (oD ((((iy (iy t a).1 b).1).ib).getD x iB)) (.agg [iP k,iP (((iy t a).2:Nat):Int),iP (((iy (iy t a).1 b).2:Nat):Int),iP 0,iP 0,iP 0]) (.bool (nM ((((iy (iy t a).1 b).1).ib).getD x iB) (je.mk k (iy t a).2 (iy (iy t a).1 b).2 0 0 0)))),ai 66 (nM ((((iy (iy t a).1 b).1).ib).getD x iB) (je.mk k (iy t a).2 (iy (iy t a).1 b).2 0 0 0)) (iQ x aE),iz ((x:Int)+1) aE]) aI)
  (λhx=>by
    have ri:=uf N aE;exact iG (af [tT 57 ((N:Int)<(((((iy (iy t a).1 b).1).ib).length:Nat):Int)) aE,iX (N:Int) ((((iy (iy t a).1 b).1).ib).length) aE,.g (Aj _ (je.mk k (iy t a).2 (iy (iy t a).1 b).2 0 0 0) ri oK:nn prog .eql 74 (oD ((((iy (iy t a).1 b).1).ib).getD N iB)) (.agg [iP k,iP (((iy t a).2:Nat):Int),iP (((iy (iy t a).1 b).2:Nat):Int),iP 0,iP 0,iP 0]) (.bool (nM ((((iy (iy t a).1 b).1).ib).getD N iB) (je.mk k (iy t a).2 (iy (iy t a).1 b).2 0 0 0)))),ah 66 (nM ((((iy (iy t a).1 b).1).ib).getD N iB) (je.mk k (iy t a).2 (iy (iy t a).1 b).2 0 0 0)) hN,iz ((((iy (iy t a).1 b).1).im:Int)+N) aE]) aI) aM:ju 13 f106 (WA t k a b N 0) .ret ⟨88,true,[(7,.e (iP ((((iy (iy t a).1 b).1).im+N:Nat):Int))),(6,.box 6 0)],[(6,.cells 25 [iP (((iy (iy t a).1 b).1).im:Int),lf (((iy (iy t a).1 b).1).ib),lp (((iy (iy t a).1 b).1).il)])]⟩) .nil]) 
def ai0(t:kF)(ht:pA t)(k:Nat)(a b:mG)(he:(mG.iO k a b).Ok)(Ea:gZ 106 [kK t,jG a,oj] (.iC [kK (iy t a).1,iP (((iy t a).2:Nat):Int)]))(Eb:gZ 106 [kK ((iy t a).1),jG b,oj] (.iC [kK (iy ((iy t a).1) b).1,iP (((iy ((iy t a).1) b).2:Nat):Int)]))(hu:pA ((iy (iy t a).1 b).1))(hl:((iy (iy t a).1 b).1).ib.length<=800)(oK:vu (je.mk k (iy t a).2 (iy (iy t a).1 b).2 0 0 0))(iQ:∀ i,i<((iy (iy t a).1 b).1).ib.length->nM (((iy (iy t a).1 b).1).ib.getD i iB) (je.mk k (iy t a).2 (iy (iy t a).1 b).2 0 0 0)=false):gZ 106 [kK t,jG (.iO k a b),oj] (.iC [kK { (iy (iy t a).1 b).1 with ib:=((iy (iy t a).1 b).1).ib++[je.mk k (iy t a).2 (iy (iy t a).1 b).2 0 0 0] },iP ((((iy (iy t a).1 b).1).im+((iy (iy t a).1 b).1).ib.length:Nat):Int)]):=by
 have uf:=hu.sm aE;have F0:=hu.im;have qp:=he.1;have mO:=he.2.1;have oh:(((iy (iy t a).1 b).1).ib++[je.mk k (iy t a).2 (iy (iy t a).1 b).2 0 0 0]).length=((iy (iy t a).1 b).1).ib.length+1:=by rw[cE];rfl
 exact ak call106 func106 (af [ai 15 ((k:Int)==2) (bj aE),.u 4,ah 32 (decide ((0:Int)<2)) aG,iX 0 2 aE,.o 41 (.e (.iM (Mn a b)):aj (.agg [(jB a++jB b).getD (0*6+0) (.v (.bool false)),(jB a++jB b).getD (0*6+1) (.v (.bool false)),(jB a++jB b).getD (0*6+2) (.v (.bool false)),(jB a++jB b).getD (0*6+3) (.v (.bool false)),(jB a++jB b).getD (0*6+4) (.v (.bool false)),(jB a++jB b).getD (0*6+5) (.v (.bool false))]) (jG a)),ag [kK t,jG a,oj] Ea,ah 48 ((0:Int)==0) aG,iz (0+1) aE,.k [9,8,6,4,3,2] [8,3,6,4],ah 32 (decide (((0+1):Int)<2)) aG,
  iX (0+1) 2 aE,.o 41 (.e (.iM (Mo a b)):aj (.agg [(jB a++jB b).getD (1*6+0) (.v (.bool false)),(jB a++jB b).getD (1*6+1) (.v (.bool false)),(jB a++jB b).getD (1*6+2) (.v (.bool false)),(jB a++jB b).getD (1*6+3) (.v (.bool false)),(jB a++jB b).getD (1*6+4) (.v (.bool false)),(jB a++jB b).getD (1*6+5) (.v (.bool false))]) (jG b)),ag [kK ((iy t a).1),jG b,oj] Eb,ai 48 (((0+1):Int)==0) aG,iz ((0+1)+1) aE,.k [9,8,6,4,3,2] [8,3,6,4],ai 32 (decide ((((0+1)+1):Int)<2)) aG,.s (Sp.jv (Wz t k a b) 0 (((iy (iy t a).1 b).1).ib.length) aE (λx hx jU=>by
    have ri:=uf x aE;exact iG (af [tT 57 ((x:Int)<(((((iy (iy t a).1 b).1).ib).length:Nat):Int)) aE,iX (x:Int) ((((iy (iy t a).1 b).1).ib).length) aE,.g (Aj _ (je.mk k (iy t a).2 (iy (iy t a).1 b).2 0 0 0) ri oK:nn prog .eql 74 (oD ((((iy (iy t a).1 b).1).ib).getD x iB)) (.agg [iP k,iP (((iy t a).2:Nat):Int),iP (((iy (iy t a).1 b).2:Nat):Int),iP 0,iP 0,iP 0]) (.bool (nM ((((iy (iy t a).1 b).1).ib).getD x iB) (je.mk k (iy t a).2 (iy (iy t a).1 b).2 0 0 0)))),ai 66 (nM ((((iy (iy t a).1 b).1).ib).getD x iB) (je.mk k (iy t a).2 (iy (iy t a).1 b).2 0 0 0)) (iQ x aE),iz ((x:Int)+1) aE]) aI)
  (λhx=>by
    exact iG (af [tF 57 ((((iy (iy t a).1 b).1).ib.length:Int)<(((((iy (iy t a).1 b).1).ib).length:Nat):Int)) aE]) aI) aM:ju 13 f106 (Wz t k a b 0) (.exit 2) ⟨88,true,[(8,.box 8 0),(6,.box 6 0),(3,.box 3 0)],[(8,.cells 74 [iP k,iP (((iy t a).2:Nat):Int),iP (((iy (iy t a).1 b).2:Nat):Int),iP 0,iP 0,iP 0]),(3,.cells 25 [iP (((iy (iy t a).1 b).1).im:Int),lf (((iy (iy t a).1 b).1).ib),lp (((iy (iy t a).1 b).1).il)]),(6,.cells 25 [iP 0,.v (.slice none 0 0),.v (.slice none 0 0)])]⟩) .nil,
  .bo,.a (aE:(0+(((iy (iy t a).1 b).1).ib).length)*48<=140737488355328),.o 77 (.refl _:aj (.sl true 1 6 λi_ j_=>[iP k,iP (((iy t a).2:Nat):Int),iP (((iy (iy t a).1 b).2:Nat):Int),iP 0,iP 0,iP 0].getD (i_*6+j_) (.v (.bool false))) (.sl true 1 6 λi_ j_=>[iP k,iP (((iy t a).2:Nat):Int),iP (((iy (iy t a).1 b).2:Nat):Int),iP 0,iP 0,iP 0].getD (i_*6+j_) (.v (.bool false)))),
  .bo,.a (aE:((0+(((iy (iy t a).1 b).1).ib).length)+1)*48<=140737488355328),.o 78 (.e (OR λj hj=>by rcases j with _|_|_|_|_|_|j<;>first|rfl|omega):aj (.sl true ((0+(((iy (iy t a).1 b).1).ib).length)+1) 6 (λi_ j_=>if i_<(0+(((iy (iy t a).1 b).1).ib).length)then(λi_ j_=>if i_<0 then(λi_ j_=>([]:List E).getD (i_*6+j_) (.v (.bool false))) i_ j_ else(E.kH (lf (((iy (iy t a).1 b).1).ib))) (i_-0) j_) i_ j_ else(E.kH (.sl true 1 6 λi_ j_=>[iP k,iP (((iy t a).2:Nat):Int),iP (((iy (iy t a).1 b).2:Nat):Int),iP 0,iP 0,iP 0].getD (i_*6+j_) (.v (.bool false)))) (i_-(0+(((iy (iy t a).1 b).1).ib).length)) j_)) (lf (((iy (iy t a).1 b).1).ib++[je.mk k (iy t a).2 (iy (iy t a).1 b).2 0 0 0]))),
  iz ((((iy (iy t a).1 b).1).im:Int)+(((((iy (iy t a).1 b).1).ib++[je.mk k (iy t a).2 (iy (iy t a).1 b).2 0 0 0]).length:Nat):Int)) aE,
  iz (((((iy (iy t a).1 b).1).im+(((iy (iy t a).1 b).1).ib++[je.mk k (iy t a).2 (iy (iy t a).1 b).2 0 0 0]).length:Nat):Int)-1) aE,.o 87 (aq (((((iy (iy t a).1 b).1).im+(((iy (iy t a).1 b).1).ib++[je.mk k (iy t a).2 (iy (iy t a).1 b).2 0 0 0]).length:Nat):Int)-1) ((((iy (iy t a).1 b).1).im+((iy (iy t a).1 b).1).ib.length:Nat):Int) aX)]) 
def OF{t u:kF}{o:je}{v:mG}{F:FuncId}(h1:∀ N,N<u.ib.length->(∀ i,i<N->nM (u.ib.getD i iB) o=false)->nM (u.ib.getD N iB) o=true->gZ F [kK t,jG v,oj] (.iC [kK u,iP ((u.im+N:Nat):Int)]))
 (h2:(∀ i,i<u.ib.length->nM (u.ib.getD i iB) o=false)->gZ F [kK t,jG v,oj] (.iC [kK { u with ib:=u.ib++[o] },iP ((u.im+u.ib.length:Nat):Int)])):
 gZ F [kK t,jG v,oj] (.iC [kK (qH u o).1,iP (((qH u o).2:Nat):Int)]):=by
 unfold qH;split
 .rename_i i hi;obtain⟨a,b,c⟩:=Mv hi;exact h1 i a c b
 .rename_i hi;exact h2 (Mu hi)
def Gy:∀ (e:mG) (t:kF),e.Ok->pA t->t.ib.length+e.sz<=800->gZ 106 [kK t,jG e,oj] (.iC [kK (iy t e).1,iP (((iy t e).2:Nat):Int)])
 | .var true,t,_,ht,_=>ai7 t ht
 | .var false,t,_,ht,_=>ai6 t ht
 | .num n,t,he,ht,hl=>by
  have hs:t.ib.length+1<=800:=hl;have oK:vu ⟨1,0,0,0,n,1⟩:=⟨by show 1<=1000;decide,cj _,cj _,cj _,by have:=he.1;show -1099511627776<=n;omega,by have:=he.2;show n<=1099511627776;omega,by show -1099511627776<=1;decide,by show 1<=1099511627776;decide⟩
  exact OF (λN a c b=>ai3 t ht n he ht aE oK N a c b) (λh=>ai2 t ht n he ht aE oK h)
 | .un k n e,t,he,ht,hl=>by
  have hs:t.ib.length+(e.sz+1)<=800:=hl;obtain⟨h7,h8,hn,h⟩:=he;obtain⟨k1,k2,k3,k4,k5⟩:=xx e h ht;have ih:=Gy e t h ht aE;have e1:=k1.im;have oK:vu ⟨k,(iy t e).2,0,n,0,0⟩:=⟨by show k<=1000;omega,by show(iy t e).2<=1000;omega,cj _,by show n<=1000;split at hn<;>omega,by show -1099511627776<=(0:Int);decide,by show(0:Int)<=1099511627776;decide,by show -1099511627776<=(0:Int);decide,by show(0:Int)<=1099511627776;decide⟩
  exact OF (λN a c b=>ai5 t ht k n e ⟨h7,h8,hn,h⟩ ih k1 aE oK N a c b) (λq=>ai4 t ht k n e ⟨h7,h8,hn,h⟩ ih k1 aE oK q)
 | .iO k a b,t,he,ht,hl=>by
  have hs:t.ib.length+(a.sz+b.sz+1)<=800:=hl;obtain⟨h3,h6,ha,hb⟩:=he;obtain⟨k1,k2,k3,k4,k5⟩:=xx a ha ht;obtain⟨l1,l2,l3,l4,l5⟩:=xx b hb k1;have Ea:=Gy a t ha ht aE;have Eb:=Gy b _ hb k1 aE;have e1:=k1.im;have e2:=l1.im;have oK:vu ⟨k,(iy t a).2,(iy (iy t a).1 b).2,0,0,0⟩:=⟨by show k<=1000;omega,by show(iy t a).2<=1000;omega,by show(iy (iy t a).1 b).2<=1000;omega,cj _,by show -1099511627776<=(0:Int);decide,by show(0:Int)<=1099511627776;decide,by show -1099511627776<=(0:Int);decide,by show(0:Int)<=1099511627776;decide⟩
  exact OF (λN x c y=>ai1 t ht k a b ⟨h3,h6,ha,hb⟩ Ea Eb l1 aE oK N x c y) (λq=>ai0 t ht k a b ⟨h3,h6,ha,hb⟩ Ea Eb l1 aE oK q)
def anU:E.le (.agg [iP 2,.v (.slice none 0 0),.v (.slice none 0 0)]) (kK lJ):=.agg (.cons (.refl _) (.cons (.nil _ _ _) (.cons (.nil _ _ _) .nil)))
def J3(l:List Nat):∀ (e:mG) (t:kF),iy { t with il:=l } e=({ (iy t e).1 with il:=l },(iy t e).2)
 | .var _,_=>rfl
 | .num n,t=>by
  unfold iy qH;dsimp only;cases zh t.ib ⟨1,0,0,0,n,1⟩ t.ib.length<;>rfl
 | .un k n e,t=>by
  unfold iy;rw[J3 l e t];unfold qH;dsimp only;cases zh (iy t e).1.ib ⟨k,(iy t e).2,0,n,0,0⟩ (iy t e).1.ib.length<;>rfl
 | .iO k a b,t=>by
  unfold iy;rw[J3 l a t];dsimp only;rw[J3 l b (iy t a).1];unfold qH;dsimp only;cases zh (iy (iy t a).1 b).1.ib ⟨k,(iy t a).2,(iy (iy t a).1 b).2,0,0,0⟩ (iy (iy t a).1 b).1.ib.length<;>rfl
def wH(a:mG):kF:=⟨2,(iy lJ a).1.ib,[]⟩
def Hf(a:mG):kF:=⟨2,(iy lJ a).1.ib,[(iy lJ a).2]⟩
def wI(a b:mG):kF:=⟨2,(iy (iy lJ a).1 b).1.ib,[(iy lJ a).2]⟩
def an6{a:mG}(ha:a.Ok)(hs:a.sz<=400):gZ 106 [kK lJ,jG a,oj] (.iC [kK (wH a),iP (((iy lJ a).2:Nat):Int)]):=by
 have k:pA lJ:=⟨rfl,λi hi=>absurd hi (bO i)⟩
 obtain⟨k1,k2,k3,k4,k5⟩:=xx a ha k;have:=Gy a lJ ha k (by show 0+a.sz<=800;omega);rwa[show(iy lJ a).1=wH a from by
  have e1:=k1.im;have e2:(iy lJ a).1.il=[]:=k5;unfold wH;generalize (iy lJ a).1=q at e1 e2 ⊢;obtain⟨i,o,u⟩:=q;simp only at e1 e2;subst e1 e2;rfl]at this
def an7{a b:mG}(ha:a.Ok)(hb:b.Ok)(hs:a.sz+b.sz<=400):gZ 106 [kK (Hf a),jG b,oj] (.iC [kK (wI a b),iP (((iy (iy lJ a).1 b).2:Nat):Int)]):=by
 have k:pA lJ:=⟨rfl,λi hi=>absurd hi (bO i)⟩
 obtain⟨k1,k2,k3,k4,k5⟩:=xx a ha k;obtain⟨l1,l2,l3,l4,l5⟩:=xx b hb k1;have e1:=k1.im;have k3':(iy lJ a).1.ib.length<=0+a.sz:=k3;have hq:Hf a=⟨(iy lJ a).1.im,(iy lJ a).1.ib,[(iy lJ a).2]⟩:=by unfold Hf;rw[e1]
 have ho:pA (Hf a):=⟨rfl,λi hi=>by have:=k1.op i hi;rw[e1]at this;exact this⟩
 have:=Gy b (Hf a) hb ho (by show(iy lJ a).1.ib.length+b.sz<=800;omega);have e2:=l1.im;have e:(⟨(iy (iy lJ a).1 b).1.im,(iy (iy lJ a).1 b).1.ib,[(iy lJ a).2]⟩:kF)=wI a b:=by unfold wI;rw[e2]
 have h3:iy ⟨(iy lJ a).1.im,(iy lJ a).1.ib,[(iy lJ a).2]⟩ b=(⟨(iy (iy lJ a).1 b).1.im,(iy (iy lJ a).1 b).1.ib,[(iy lJ a).2]⟩,(iy (iy lJ a).1 b).2):=J3 [(iy lJ a).2] b (iy lJ a).1;rw[<-hq,e]at h3;rwa[h3]at this
def Wr{l:List Nat}{k:Nat}{p:E}(hp:∀ j,j<1->p.kH 0 j=iP (k:Int)):E.le (.sl true (0+l.length+1) 1 λi j=>if i<0+l.length then(λi_ j_=>if i_<0 then(λi_ j_=>([]:List E).getD (i_*1+j_) (.v (.bool false))) i_ j_ else(E.kH (lp l)) (i_-0) j_) i j else(E.kH p) (i-(0+l.length)) j) (lp (l++[k])):=by
 have e:lp (l++[k]) = .sl true (0+l.length+1) 1 λi _=>iP (((l++[k]).getD i 0:Nat):Int):=by unfold lp;rw[cE,cD];rfl
 rw[e];refine .sl λi j hi hj=>⟨.iM ?_,rfl⟩
 rw[cD]at *
 by_cases h:i<l.length
 .rw [bw h];show iP (l.getD i 0:Int)=iP (((l++[k]).getD i 0:Nat):Int);congr 2;simp[bD,dK h]
 .have nh:i=l.length:= aE ;subst nh;rw[bu h,dc,hp j hj];congr 2;simp[bD]
def Zr(a b:mG)(ha:a.Ok)(hb:b.Ok)(hs:a.sz+b.sz<=200):gZ 58 [ng a b,oj] (kK (s6 a b).tape):=by
 have ho1:(wH a).il.length=0:=rfl;have D1:(wI a b).il.length=1:=rfl;exact ak call58 func58 (ae [.u 4,ah 15 (decide ((0:Int)<2)) aG,.o 19 (.e anU:aj (.agg [iP 2,.v (.slice none 0 0),.v (.slice none 0 0)]) (kK lJ)),iX 0 2 aE,.o 23 (.e (.iM (Mn a b)):aj (.agg [(jB a++jB b).getD (0*6+0) (.v (.bool false)),(jB a++jB b).getD (0*6+1) (.v (.bool false)),(jB a++jB b).getD (0*6+2) (.v (.bool false)),(jB a++jB b).getD (0*6+3) (.v (.bool false)),(jB a++jB b).getD (0*6+4) (.v (.bool false)),(jB a++jB b).getD (0*6+5) (.v (.bool false))]) (jG a)),ag [kK lJ,jG a,oj] (an6 ha aE),.bo,.a (aE:(0+((wH a).il).length)*8<=140737488355328),.o 34 (.refl _:aj (.sl true 1 1 λi_ j_=>[iP (((iy lJ a).2:Nat):Int)].getD (i_*1+j_) (.v (.bool false))) (.sl true 1 1 λi_ j_=>[iP (((iy lJ a).2:Nat):Int)].getD (i_*1+j_) (.v (.bool false)))),
  .bo,.a (aE:((0+((wH a).il).length)+1)*8<=140737488355328),.o 35 (.e (Wr (l:=[]) λj hj=>by obtain rfl:=aqp.1 hj;rfl):aj (.sl true ((0+((wH a).il).length)+1) 1 (λi_ j_=>if i_<(0+((wH a).il).length)then(λi_ j_=>if i_<0 then(λi_ j_=>([]:List E).getD (i_*1+j_) (.v (.bool false))) i_ j_ else(E.kH (lp ((wH a).il))) (i_-0) j_) i_ j_ else(E.kH (.sl true 1 1 λi_ j_=>[iP (((iy lJ a).2:Nat):Int)].getD (i_*1+j_) (.v (.bool false)))) (i_-(0+((wH a).il).length)) j_)) (lp [(iy lJ a).2])),
  iz (0+1) aE,.k [6,5,4,0,1] [5,4],ah 15 (decide (((0+1):Int)<2)) aG,iX (0+1) 2 aE,.o 23 (.e (.iM (Mo a b)):aj (.agg [(jB a++jB b).getD (1*6+0) (.v (.bool false)),(jB a++jB b).getD (1*6+1) (.v (.bool false)),(jB a++jB b).getD (1*6+2) (.v (.bool false)),(jB a++jB b).getD (1*6+3) (.v (.bool false)),(jB a++jB b).getD (1*6+4) (.v (.bool false)),(jB a++jB b).getD (1*6+5) (.v (.bool false))]) (jG b)),ag [.agg [iP ((wH a).im:Int),lf ((wH a).ib),lp [(iy lJ a).2]],jG b,oj] (an7 ha hb aE),.bo,.a (aE:(0+((wI a b).il).length)*8<=140737488355328),.o 34 (.refl _:aj (.sl true 1 1 λi_ j_=>[iP (((iy (iy lJ a).1 b).2:Nat):Int)].getD (i_*1+j_) (.v (.bool false))) (.sl true 1 1 λi_ j_=>[iP (((iy (iy lJ a).1 b).2:Nat):Int)].getD (i_*1+j_) (.v (.bool false)))),
  .bo,.a (aE:((0+((wI a b).il).length)+1)*8<=140737488355328),.o 35 (.e (Wr (l:=[(iy lJ a).2]) λj hj=>by obtain rfl:=aqp.1 hj;rfl):aj (.sl true ((0+((wI a b).il).length)+1) 1 (λi_ j_=>if i_<(0+((wI a b).il).length)then(λi_ j_=>if i_<0 then(λi_ j_=>([]:List E).getD (i_*1+j_) (.v (.bool false))) i_ j_ else(E.kH (lp ((wI a b).il))) (i_-0) j_) i_ j_ else(E.kH (.sl true 1 1 λi_ j_=>[iP (((iy (iy lJ a).1 b).2:Nat):Int)].getD (i_*1+j_) (.v (.bool false)))) (i_-(0+((wI a b).il).length)) j_)) (lp [(iy lJ a).2,(iy (iy lJ a).1 b).2])),
  iz ((0+1)+1) aE,.k [6,5,4,0,1] [5,4],ai 15 (decide ((((0+1)+1):Int)<2)) aG]<|rR (kK (s6 a b).tape) (.refl _:E.le (.agg [iP ((wI a b).im:Int),lf ((wI a b).ib),lp [(iy lJ a).2,(iy (iy lJ a).1 b).2]]) (kK (s6 a b).tape))) 
def Zo(a b:mG):E.le (.agg [iP ((s6 a b).tape.im:Int),lf (s6 a b).tape.ib,lp (s6 a b).tape.il,iP 2,.v (.slice none 0 0)]) (ji (s6 a b)):=.agg (.cons (.refl _) (.cons (.refl _) (.cons (.refl _) (.cons (.refl _) (.cons (.nil _ _ _) .nil)))))
abbrev LU:mG:=.iO 3 (.un 7 0 (.var true)) (.iO 5 (.var false) (.iO 4 (.iO 4 (.num 1) (.un 8 2 (.var false))) (.un 8 2 (.var true))))
abbrev LV:mG:=.iO 3 (.var false) (.iO 5 (.var true) (.iO 4 (.iO 4 (.num 1) (.un 8 2 (.var false))) (.un 8 2 (.var true))))
abbrev Gf(p0 q0:Int):mG:=.iO 3 (.iO 5 (.num p0) (.var false)) (.iO 5 (.num q0) (.var true))
def uE:kB:=s6 LU LV
def yC(p0 q0 r0 t0:Int):kB:=s6 (Gf p0 q0) (Gf r0 t0)
def xN(n:Int):Prop:=-1073741824<=n/\n<=1073741824
def RZ:LU.Ok:=by simp[mG.Ok]
def R0:LV.Ok:=by simp[mG.Ok]
def JP{p0 q0:Int}(h1:xN p0)(h2:xN q0):(Gf p0 q0).Ok:=⟨aG,aG,⟨aG,aG,h1,trivial⟩,⟨aG,aG,h2,trivial⟩⟩
def RY:me uE:=Zm RZ R0 aG 
def ahN{p0 q0 r0 t0:Int}(h1:xN p0)(h2:xN q0)(h3:xN r0)(h4:xN t0):me (yC p0 q0 r0 t0):=Zm (JP h1 h2) (JP h3 h4) (by show 7+7<=200;decide)
def SZ : gZ 55 [.v (.string ⟨#[120]⟩)] (jG (.var false)):=
 ak call55 func55 (af [.o 4 (.e (.iM rfl):aj (.agg [iP 2,iP 0,iP 0,.v (.string ⟨#[120]⟩),iP 0,.v (.slice none 0 0)]) (jG (.var false)))]) 
def S1 : gZ 55 [.v (.string ⟨#[121]⟩)] (jG (.var true)):=
 ak call55 func55 (af [.o 4 (.e (.iM rfl):aj (.agg [iP 2,iP 0,iP 0,.v (.string ⟨#[121]⟩),iP 0,.v (.slice none 0 0)]) (jG (.var true)))]) 
def aer : gZ 57 [iP 1] (jG (.num 1)):=
 ak call57 func57 (af [.o 5 (.e (.iM rfl):aj (.agg [iP 1,iP 1,iP 1,.v (.string ⟨#[]⟩),iP 0,.v (.slice none 0 0)]) (jG (.num 1)))]) 
def aeP : gZ 86 [jG (.var false)] (jG (.un 8 2 (.var false))):=
 ak call86 func86 (af [.o 4 (.e (.iM rfl):aj (.sl true 1 6 λi_ j_=>[iP 2,iP 0,iP 0,.v (.string ⟨#[120]⟩),iP 0,.v (.slice none 0 0)].getD (i_*6+j_) (.v (.bool false))) (ze (.var false))),.o 5 (.e (.iM rfl):aj (.agg [iP 8,iP 0,iP 0,.v (.string ⟨#[]⟩),iP 2,ze (.var false)]) (jG (.un 8 2 (.var false))))]) 
def aew : gZ 56 [iP 4,jG (.num 1),jG (.un 8 2 (.var false))] (jG (.iO 4 (.num 1) (.un 8 2 (.var false)))):=
 ak call56 func56 (af [.o 10 (.e (.iM rfl):aj (.sl true 2 6 λi_ j_=>[iP 1,iP 1,iP 1,.v (.string ⟨#[]⟩),iP 0,.v (.slice none 0 0),iP 8,iP 0,iP 0,.v (.string ⟨#[]⟩),iP 2,ze (.var false)].getD (i_*6+j_) (.v (.bool false))) (ng (.num 1) (.un 8 2 (.var false)))),.o 11 (.e (.iM rfl):aj (.agg [iP 4,iP 0,iP 0,.v (.string ⟨#[]⟩),iP 0,ng (.num 1) (.un 8 2 (.var false))]) (jG (.iO 4 (.num 1) (.un 8 2 (.var false)))))]) 
def aeQ : gZ 86 [jG (.var true)] (jG (.un 8 2 (.var true))):=
 ak call86 func86 (af [.o 4 (.e (.iM rfl):aj (.sl true 1 6 λi_ j_=>[iP 2,iP 0,iP 0,.v (.string ⟨#[121]⟩),iP 0,.v (.slice none 0 0)].getD (i_*6+j_) (.v (.bool false))) (ze (.var true))),.o 5 (.e (.iM rfl):aj (.agg [iP 8,iP 0,iP 0,.v (.string ⟨#[]⟩),iP 2,ze (.var true)]) (jG (.un 8 2 (.var true))))]) 
def aex : gZ 56 [iP 4,jG (.iO 4 (.num 1) (.un 8 2 (.var false))),jG (.un 8 2 (.var true))] (jG (.iO 4 (.iO 4 (.num 1) (.un 8 2 (.var false))) (.un 8 2 (.var true)))):=
 ak call56 func56 (af [.o 10 (.e (.iM rfl):aj (.sl true 2 6 λi_ j_=>[iP 4,iP 0,iP 0,.v (.string ⟨#[]⟩),iP 0,ng (.num 1) (.un 8 2 (.var false)),iP 8,iP 0,iP 0,.v (.string ⟨#[]⟩),iP 2,ze (.var true)].getD (i_*6+j_) (.v (.bool false))) (ng (.iO 4 (.num 1) (.un 8 2 (.var false))) (.un 8 2 (.var true)))),.o 11 (.e (.iM rfl):aj (.agg [iP 4,iP 0,iP 0,.v (.string ⟨#[]⟩),iP 0,ng (.iO 4 (.num 1) (.un 8 2 (.var false))) (.un 8 2 (.var true))]) (jG (.iO 4 (.iO 4 (.num 1) (.un 8 2 (.var false))) (.un 8 2 (.var true)))))]) 
def aeA : gZ 56 [iP 5,jG (.var false),jG (.iO 4 (.iO 4 (.num 1) (.un 8 2 (.var false))) (.un 8 2 (.var true)))] (jG (.iO 5 (.var false) (.iO 4 (.iO 4 (.num 1) (.un 8 2 (.var false))) (.un 8 2 (.var true))))):=
 ak call56 func56 (af [.o 10 (.e (.iM rfl):aj (.sl true 2 6 λi_ j_=>[iP 2,iP 0,iP 0,.v (.string ⟨#[120]⟩),iP 0,.v (.slice none 0 0),iP 4,iP 0,iP 0,.v (.string ⟨#[]⟩),iP 0,ng (.iO 4 (.num 1) (.un 8 2 (.var false))) (.un 8 2 (.var true))].getD (i_*6+j_) (.v (.bool false))) (ng (.var false) (.iO 4 (.iO 4 (.num 1) (.un 8 2 (.var false))) (.un 8 2 (.var true))))),.o 11 (.e (.iM rfl):aj (.agg [iP 5,iP 0,iP 0,.v (.string ⟨#[]⟩),iP 0,ng (.var false) (.iO 4 (.iO 4 (.num 1) (.un 8 2 (.var false))) (.un 8 2 (.var true)))]) (jG (.iO 5 (.var false) (.iO 4 (.iO 4 (.num 1) (.un 8 2 (.var false))) (.un 8 2 (.var true))))))]) 
def aeB : gZ 56 [iP 3,jG (.un 7 0 (.var true)),jG (.iO 5 (.var false) (.iO 4 (.iO 4 (.num 1) (.un 8 2 (.var false))) (.un 8 2 (.var true))))] (jG (.iO 3 (.un 7 0 (.var true)) (.iO 5 (.var false) (.iO 4 (.iO 4 (.num 1) (.un 8 2 (.var false))) (.un 8 2 (.var true)))))):=
 ak call56 func56 (af [.o 10 (.e (.iM rfl):aj (.sl true 2 6 λi_ j_=>[iP 7,iP 0,iP 0,.v (.string ⟨#[]⟩),iP 0,ze (.var true),iP 5,iP 0,iP 0,.v (.string ⟨#[]⟩),iP 0,ng (.var false) (.iO 4 (.iO 4 (.num 1) (.un 8 2 (.var false))) (.un 8 2 (.var true)))].getD (i_*6+j_) (.v (.bool false))) (ng (.un 7 0 (.var true)) (.iO 5 (.var false) (.iO 4 (.iO 4 (.num 1) (.un 8 2 (.var false))) (.un 8 2 (.var true)))))),.o 11 (.e (.iM rfl):aj (.agg [iP 3,iP 0,iP 0,.v (.string ⟨#[]⟩),iP 0,ng (.un 7 0 (.var true)) (.iO 5 (.var false) (.iO 4 (.iO 4 (.num 1) (.un 8 2 (.var false))) (.un 8 2 (.var true))))]) (jG (.iO 3 (.un 7 0 (.var true)) (.iO 5 (.var false) (.iO 4 (.iO 4 (.num 1) (.un 8 2 (.var false))) (.un 8 2 (.var true)))))))]) 
def aeC : gZ 56 [iP 5,jG (.var true),jG (.iO 4 (.iO 4 (.num 1) (.un 8 2 (.var false))) (.un 8 2 (.var true)))] (jG (.iO 5 (.var true) (.iO 4 (.iO 4 (.num 1) (.un 8 2 (.var false))) (.un 8 2 (.var true))))):=
 ak call56 func56 (af [.o 10 (.e (.iM rfl):aj (.sl true 2 6 λi_ j_=>[iP 2,iP 0,iP 0,.v (.string ⟨#[121]⟩),iP 0,.v (.slice none 0 0),iP 4,iP 0,iP 0,.v (.string ⟨#[]⟩),iP 0,ng (.iO 4 (.num 1) (.un 8 2 (.var false))) (.un 8 2 (.var true))].getD (i_*6+j_) (.v (.bool false))) (ng (.var true) (.iO 4 (.iO 4 (.num 1) (.un 8 2 (.var false))) (.un 8 2 (.var true))))),.o 11 (.e (.iM rfl):aj (.agg [iP 5,iP 0,iP 0,.v (.string ⟨#[]⟩),iP 0,ng (.var true) (.iO 4 (.iO 4 (.num 1) (.un 8 2 (.var false))) (.un 8 2 (.var true)))]) (jG (.iO 5 (.var true) (.iO 4 (.iO 4 (.num 1) (.un 8 2 (.var false))) (.un 8 2 (.var true))))))]) 
def aeD : gZ 56 [iP 3,jG (.var false),jG (.iO 5 (.var true) (.iO 4 (.iO 4 (.num 1) (.un 8 2 (.var false))) (.un 8 2 (.var true))))] (jG (.iO 3 (.var false) (.iO 5 (.var true) (.iO 4 (.iO 4 (.num 1) (.un 8 2 (.var false))) (.un 8 2 (.var true)))))):=
 ak call56 func56 (af [.o 10 (.e (.iM rfl):aj (.sl true 2 6 λi_ j_=>[iP 2,iP 0,iP 0,.v (.string ⟨#[120]⟩),iP 0,.v (.slice none 0 0),iP 5,iP 0,iP 0,.v (.string ⟨#[]⟩),iP 0,ng (.var true) (.iO 4 (.iO 4 (.num 1) (.un 8 2 (.var false))) (.un 8 2 (.var true)))].getD (i_*6+j_) (.v (.bool false))) (ng (.var false) (.iO 5 (.var true) (.iO 4 (.iO 4 (.num 1) (.un 8 2 (.var false))) (.un 8 2 (.var true)))))),.o 11 (.e (.iM rfl):aj (.agg [iP 3,iP 0,iP 0,.v (.string ⟨#[]⟩),iP 0,ng (.var false) (.iO 5 (.var true) (.iO 4 (.iO 4 (.num 1) (.un 8 2 (.var false))) (.un 8 2 (.var true))))]) (jG (.iO 3 (.var false) (.iO 5 (.var true) (.iO 4 (.iO 4 (.num 1) (.un 8 2 (.var false))) (.un 8 2 (.var true)))))))]) 
def R1 : gZ 39 [] (ji uE):=by
 have ha:=RZ;have hb:=R0;have hs:LU.sz+LV.sz<=200:= aG ;exact ak call39 func39 (ae [.c SZ,.c S1,.c aer,.c aeP,.c aew,.c aeQ,.c aex,.o 16 (.e (.iM rfl):aj (.sl true 1 6 λi_ j_=>[iP 2,iP 0,iP 0,.v (.string ⟨#[121]⟩),iP 0,.v (.slice none 0 0)].getD (i_*6+j_) (.v (.bool false))) (ze (.var true))),.o 17 (.e (.iM rfl):aj (.agg [iP 7,iP 0,iP 0,.v (.string ⟨#[]⟩),iP 0,ze (.var true)]) (jG (.un 7 0 (.var true)))),.c aeA,.c aeB,.c aeC,.c aeD,.o 28 (.e (.iM rfl):aj (.sl true 2 6 λi_ j_=>[iP 3,iP 0,iP 0,.v (.string ⟨#[]⟩),iP 0,ng (.un 7 0 (.var true)) (.iO 5 (.var false) (.iO 4 (.iO 4 (.num 1) (.un 8 2 (.var false))) (.un 8 2 (.var true)))),iP 3,iP 0,iP 0,.v (.string ⟨#[]⟩),iP 0,ng (.var false) (.iO 5 (.var true) (.iO 4 (.iO 4 (.num 1) (.un 8 2 (.var false))) (.un 8 2 (.var true))))].getD (i_*6+j_) (.v (.bool false))) (ng (.iO 3 (.un 7 0 (.var true)) (.iO 5 (.var false) (.iO 4 (.iO 4 (.num 1) (.un 8 2 (.var false))) (.un 8 2 (.var true))))) (.iO 3 (.var false) (.iO 5 (.var true) (.iO 4 (.iO 4 (.num 1) (.un 8 2 (.var false))) (.un 8 2 (.var true))))))),.o 30 (.e (.iM rfl):aj (.sl true 2 1 λi_ j_=>[.v (.string ⟨#[120]⟩),.v (.string ⟨#[121]⟩)].getD (i_*1+j_) (.v (.bool false))) oj),.c (Zr (.iO 3 (.un 7 0 (.var true)) (.iO 5 (.var false) (.iO 4 (.iO 4 (.num 1) (.un 8 2 (.var false))) (.un 8 2 (.var true))))) (.iO 3 (.var false) (.iO 5 (.var true) (.iO 4 (.iO 4 (.num 1) (.un 8 2 (.var false))) (.un 8 2 (.var true))))) ha hb hs)]<|rR (ji uE) (by
  unfold uE;exact Zo _ _:E.le (.agg [iP ((((s6 (.iO 3 (.un 7 0 (.var true)) (.iO 5 (.var false) (.iO 4 (.iO 4 (.num 1) (.un 8 2 (.var false))) (.un 8 2 (.var true))))) (.iO 3 (.var false) (.iO 5 (.var true) (.iO 4 (.iO 4 (.num 1) (.un 8 2 (.var false))) (.un 8 2 (.var true)))))).tape).im:Nat):Int),lf (((s6 (.iO 3 (.un 7 0 (.var true)) (.iO 5 (.var false) (.iO 4 (.iO 4 (.num 1) (.un 8 2 (.var false))) (.un 8 2 (.var true))))) (.iO 3 (.var false) (.iO 5 (.var true) (.iO 4 (.iO 4 (.num 1) (.un 8 2 (.var false))) (.un 8 2 (.var true)))))).tape).ib),lp (((s6 (.iO 3 (.un 7 0 (.var true)) (.iO 5 (.var false) (.iO 4 (.iO 4 (.num 1) (.un 8 2 (.var false))) (.un 8 2 (.var true))))) (.iO 3 (.var false) (.iO 5 (.var true) (.iO 4 (.iO 4 (.num 1) (.un 8 2 (.var false))) (.un 8 2 (.var true)))))).tape).il),iP 2,.v (.slice none 0 0)]) (ji uE))) 
def aes(p0:Int) : gZ 57 [iP p0] (jG (.num p0)):=
 ak call57 func57 (af [.o 5 (.e (.iM rfl):aj (.agg [iP 1,iP p0,iP 1,.v (.string ⟨#[]⟩),iP 0,.v (.slice none 0 0)]) (jG (.num p0)))]) 
def aeE(p0:Int) : gZ 56 [iP 5,jG (.num p0),jG (.var false)] (jG (.iO 5 (.num p0) (.var false))):=
 ak call56 func56 (af [.o 10 (.e (.iM rfl):aj (.sl true 2 6 λi_ j_=>[iP 1,iP p0,iP 1,.v (.string ⟨#[]⟩),iP 0,.v (.slice none 0 0),iP 2,iP 0,iP 0,.v (.string ⟨#[120]⟩),iP 0,.v (.slice none 0 0)].getD (i_*6+j_) (.v (.bool false))) (ng (.num p0) (.var false))),.o 11 (.e (.iM rfl):aj (.agg [iP 5,iP 0,iP 0,.v (.string ⟨#[]⟩),iP 0,ng (.num p0) (.var false)]) (jG (.iO 5 (.num p0) (.var false))))]) 
def aet(q0:Int) : gZ 57 [iP q0] (jG (.num q0)):=
 ak call57 func57 (af [.o 5 (.e (.iM rfl):aj (.agg [iP 1,iP q0,iP 1,.v (.string ⟨#[]⟩),iP 0,.v (.slice none 0 0)]) (jG (.num q0)))]) 
def aeF(q0:Int) : gZ 56 [iP 5,jG (.num q0),jG (.var true)] (jG (.iO 5 (.num q0) (.var true))):=
 ak call56 func56 (af [.o 10 (.e (.iM rfl):aj (.sl true 2 6 λi_ j_=>[iP 1,iP q0,iP 1,.v (.string ⟨#[]⟩),iP 0,.v (.slice none 0 0),iP 2,iP 0,iP 0,.v (.string ⟨#[121]⟩),iP 0,.v (.slice none 0 0)].getD (i_*6+j_) (.v (.bool false))) (ng (.num q0) (.var true))),.o 11 (.e (.iM rfl):aj (.agg [iP 5,iP 0,iP 0,.v (.string ⟨#[]⟩),iP 0,ng (.num q0) (.var true)]) (jG (.iO 5 (.num q0) (.var true))))]) 
def aeG(p0:Int)(q0:Int) : gZ 56 [iP 3,jG (.iO 5 (.num p0) (.var false)),jG (.iO 5 (.num q0) (.var true))] (jG (.iO 3 (.iO 5 (.num p0) (.var false)) (.iO 5 (.num q0) (.var true)))):=
 ak call56 func56 (af [.o 10 (.e (.iM rfl):aj (.sl true 2 6 λi_ j_=>[iP 5,iP 0,iP 0,.v (.string ⟨#[]⟩),iP 0,ng (.num p0) (.var false),iP 5,iP 0,iP 0,.v (.string ⟨#[]⟩),iP 0,ng (.num q0) (.var true)].getD (i_*6+j_) (.v (.bool false))) (ng (.iO 5 (.num p0) (.var false)) (.iO 5 (.num q0) (.var true)))),.o 11 (.e (.iM rfl):aj (.agg [iP 3,iP 0,iP 0,.v (.string ⟨#[]⟩),iP 0,ng (.iO 5 (.num p0) (.var false)) (.iO 5 (.num q0) (.var true))]) (jG (.iO 3 (.iO 5 (.num p0) (.var false)) (.iO 5 (.num q0) (.var true)))))]) 
def aeu(r0:Int) : gZ 57 [iP r0] (jG (.num r0)):=
 ak call57 func57 (af [.o 5 (.e (.iM rfl):aj (.agg [iP 1,iP r0,iP 1,.v (.string ⟨#[]⟩),iP 0,.v (.slice none 0 0)]) (jG (.num r0)))]) 
def aeH(r0:Int) : gZ 56 [iP 5,jG (.num r0),jG (.var false)] (jG (.iO 5 (.num r0) (.var false))):=
 ak call56 func56 (af [.o 10 (.e (.iM rfl):aj (.sl true 2 6 λi_ j_=>[iP 1,iP r0,iP 1,.v (.string ⟨#[]⟩),iP 0,.v (.slice none 0 0),iP 2,iP 0,iP 0,.v (.string ⟨#[120]⟩),iP 0,.v (.slice none 0 0)].getD (i_*6+j_) (.v (.bool false))) (ng (.num r0) (.var false))),.o 11 (.e (.iM rfl):aj (.agg [iP 5,iP 0,iP 0,.v (.string ⟨#[]⟩),iP 0,ng (.num r0) (.var false)]) (jG (.iO 5 (.num r0) (.var false))))]) 
def aev(t0:Int) : gZ 57 [iP t0] (jG (.num t0)):=
 ak call57 func57 (af [.o 5 (.e (.iM rfl):aj (.agg [iP 1,iP t0,iP 1,.v (.string ⟨#[]⟩),iP 0,.v (.slice none 0 0)]) (jG (.num t0)))]) 
def aey(t0:Int) : gZ 56 [iP 5,jG (.num t0),jG (.var true)] (jG (.iO 5 (.num t0) (.var true))):=
 ak call56 func56 (af [.o 10 (.e (.iM rfl):aj (.sl true 2 6 λi_ j_=>[iP 1,iP t0,iP 1,.v (.string ⟨#[]⟩),iP 0,.v (.slice none 0 0),iP 2,iP 0,iP 0,.v (.string ⟨#[121]⟩),iP 0,.v (.slice none 0 0)].getD (i_*6+j_) (.v (.bool false))) (ng (.num t0) (.var true))),.o 11 (.e (.iM rfl):aj (.agg [iP 5,iP 0,iP 0,.v (.string ⟨#[]⟩),iP 0,ng (.num t0) (.var true)]) (jG (.iO 5 (.num t0) (.var true))))]) 
def aez(r0:Int)(t0:Int) : gZ 56 [iP 3,jG (.iO 5 (.num r0) (.var false)),jG (.iO 5 (.num t0) (.var true))] (jG (.iO 3 (.iO 5 (.num r0) (.var false)) (.iO 5 (.num t0) (.var true)))):=
 ak call56 func56 (af [.o 10 (.e (.iM rfl):aj (.sl true 2 6 λi_ j_=>[iP 5,iP 0,iP 0,.v (.string ⟨#[]⟩),iP 0,ng (.num r0) (.var false),iP 5,iP 0,iP 0,.v (.string ⟨#[]⟩),iP 0,ng (.num t0) (.var true)].getD (i_*6+j_) (.v (.bool false))) (ng (.iO 5 (.num r0) (.var false)) (.iO 5 (.num t0) (.var true)))),.o 11 (.e (.iM rfl):aj (.agg [iP 3,iP 0,iP 0,.v (.string ⟨#[]⟩),iP 0,ng (.iO 5 (.num r0) (.var false)) (.iO 5 (.num t0) (.var true))]) (jG (.iO 3 (.iO 5 (.num r0) (.var false)) (.iO 5 (.num t0) (.var true)))))]) 
def ahO(p0 q0 r0 t0:Int)(h1:xN p0)(h2:xN q0)(h3:xN r0)(h4:xN t0):gZ 17 [iP p0,iP q0,iP r0,iP t0] (ji (yC p0 q0 r0 t0)):=by
 have ha:=JP h1 h2;have hb:=JP h3 h4;have hs:(Gf p0 q0).sz+(Gf r0 t0).sz<=200:=by show 7+7<=200;decide
 exact ak call17 func17 (ae [.c SZ,.c S1,.c (aes p0),.c (aeE p0),.c (aet q0),.c (aeF q0),.c (aeG p0 q0),.c (aeu r0),.c (aeH r0),.c (aev t0),.c (aey t0),.c (aez r0 t0),.o 32 (.e (.iM rfl):aj (.sl true 2 6 λi_ j_=>[iP 3,iP 0,iP 0,.v (.string ⟨#[]⟩),iP 0,ng (.iO 5 (.num p0) (.var false)) (.iO 5 (.num q0) (.var true)),iP 3,iP 0,iP 0,.v (.string ⟨#[]⟩),iP 0,ng (.iO 5 (.num r0) (.var false)) (.iO 5 (.num t0) (.var true))].getD (i_*6+j_) (.v (.bool false))) (ng (.iO 3 (.iO 5 (.num p0) (.var false)) (.iO 5 (.num q0) (.var true))) (.iO 3 (.iO 5 (.num r0) (.var false)) (.iO 5 (.num t0) (.var true))))),.o 34 (.e (.iM rfl):aj (.sl true 2 1 λi_ j_=>[.v (.string ⟨#[120]⟩),.v (.string ⟨#[121]⟩)].getD (i_*1+j_) (.v (.bool false))) oj),.c (Zr (.iO 3 (.iO 5 (.num p0) (.var false)) (.iO 5 (.num q0) (.var true))) (.iO 3 (.iO 5 (.num r0) (.var false)) (.iO 5 (.num t0) (.var true))) ha hb hs)]<|rR (ji (yC p0 q0 r0 t0)) (by
  unfold yC;exact Zo _ _:E.le (.agg [iP ((((s6 (.iO 3 (.iO 5 (.num p0) (.var false)) (.iO 5 (.num q0) (.var true))) (.iO 3 (.iO 5 (.num r0) (.var false)) (.iO 5 (.num t0) (.var true)))).tape).im:Nat):Int),lf (((s6 (.iO 3 (.iO 5 (.num p0) (.var false)) (.iO 5 (.num q0) (.var true))) (.iO 3 (.iO 5 (.num r0) (.var false)) (.iO 5 (.num t0) (.var true)))).tape).ib),lp (((s6 (.iO 3 (.iO 5 (.num p0) (.var false)) (.iO 5 (.num q0) (.var true))) (.iO 3 (.iO 5 (.num r0) (.var false)) (.iO 5 (.num t0) (.var true)))).tape).il),iP 2,.v (.slice none 0 0)]) (ji (yC p0 q0 r0 t0)))) 
def ah6(x:Iv):0<=(kS x).q:=by
 obtain⟨h1,h2,_⟩:=Er (lF x.lo) (lF x.hi);have:=(yJ x.lo).1;exact b9 this h1
def XE{r:List Iv}{i p:Nat}(hv:∀ k,(r.getD k iu).ik)(hp:1<=p)(ij:p<=4096):∀ k,(∀ j,j<k->rG r i p j=true)->0<=(kj r i p k).q
 | 0,_=>by show 0<=jD.q;rw[r8];exact cM
 |k+1,h=>by
  have ih:=XE (i:=i) hv hp ij k λj hj=>h j aE 
  rw[An];by_cases hk:k=i
  .rw [bw hk];exact ih
  .rw [bu hk];have he:=Gz (h k aE) hk;obtain⟨v1,v2⟩:=(hv k).kp;have:=((u9 (BW (xz r i hp ij k).canon (xq v1 v2).canon) hp ij).1 he).2;rw[O4]at this;have hm:=ah6 (r.getD k iu)
   grind
def adg{r:List Iv}{i p:Nat}(hr:sI r)(hi:i<r.length)(hp:1<=p)(ij:p<=4096)(h:rJ (lY r i p)=false):(r.getD i iu).hi.q<0:=by
 have hv:=hr.Qb;unfold rJ at h;rw[fg]at h;obtain⟨ha,hs⟩:=h;have hs:=fu hs;unfold lY at ha hs;by_cases hb:Ew r i p=true
 .rw [bw hb]at ha hs;by_cases he:jx (jc (r.getD i iu).lo (iU (kj r i p r.length))) p false=0/\jx (jc (r.getD i iu).hi (kj r i p r.length)) p true=0
  .rw [bw he]at ha hs;obtain⟨v1,v2⟩:=(hv i).kp;have hq:=((u9 (BW v2.canon (xz r i hp ij r.length).canon) hp ij).1 he.2).2;rw[O4]at hq;have hn:=XE (i:=i) hv hp ij r.length λj hj=>cr.1 hb j (bY.2 hj)
   have hl:(jf (jc (r.getD i iu).hi (kj r i p r.length)) p true).q<0:=(tH _).2.1 (by
    have:¬0<=(jf (jc (r.getD i iu).hi (kj r i p r.length)) p true).jb:=hs;omega)
   grind
  .rw [bu he]at ha;cases ha
 .rw [bu hb]at ha;cases ha
def ZE{m:List (List Iv)}{p:Nat}(hv:∀ i j,((m.getD i []).getD j iu).ik)(hp:1<=p)(ij:p<=4096):∀ k,(∀ i,i<=k->((m.getD i []).getD i iu).hi.q<0)->(pR m p k).ik/\∃ r:Rat,r<0/\(pR m p k).ki r
 | 0,h=>⟨hv 0 0,_,h 0 (bC 0),(hv 0 0).A4⟩
 |k+1,h=>by
  obtain⟨v,r,r1,r2⟩:=ZE hv hp ij k λi hi=>h i aE 
  have hk:=h (k+1) (bC _);refine⟨qG v (hv _ _) hp ij,r+((m.getD (k+1) []).getD (k+1) iu).hi.q,aP,AK v (hv _ _) hp ij r2 (hv _ _).A4⟩
def ank{s:kB}{b:List Iv}{p:Nat}(h:me s)(hb:mE s.iD b)(hp:1<=p)(ij:p<=4096)(h1:xF s b p=true)(h2:yP s b p=true):False:=by
 unfold xF at h1;unfold yP at h2;rw[ch]at h1 h2;have hn:oM s b p=false:=by simpa using h1.1
 have hl:=wk h b p;have s1:=h.s1;have A0:∀ i,i<s.iD->(((jy s b p).getD i []).getD i iu).hi.q<0:=λi hi=>by
  have h3:=h1.2;rw[fi,dx]at h3;have h4:=h3 i (bY.2 (by rw[y8,hl];exact hi));rw[Fk (by rw[hl];exact hi)]at h4;exact adg (F9 h hb hp ij hn i hi) (by rw[Ee h b p hi];exact hi) hp ij (by simpa using h4)
 obtain⟨v,r,r1,r2⟩:=ZE (m:=jy s b p) (λi j=>Cz h hb hp ij i j) hp ij (s.iD-1) λi hi=>A0 i aE 
 have h5:=cR h2.2;unfold lZ at h5;by_cases ha:(pR (jy s b p) p (s.iD-1)).all=true
 .rw [bw ha]at h5;omega
 .rw [bu ha]at h5;have ha:(pR (jy s b p) p (s.iD-1)).all=false:=bn ha;obtain⟨q1,q2⟩:=r2.kp ha;by_cases hs:0<(pR (jy s b p) p (s.iD-1)).lo.jb
  .have:=(tH _).1.1 hs
   grind
  .rw [bu hs]at h5;split at h5<;>omega
abbrev ux:List Iv:=[mi (pB 0 0),mi (pB 0 0)]
def Qf:mE 2 ux:=⟨rfl,λi hi=>by
 have hi:i<2:=hi;have hv:(mi (pB 0 0)).ik:=uo (LG aG aG aG);obtain rfl|rfl:i=0\/i=1:= aE 
 all_goals exact⟨hv,rfl⟩⟩
def aep:yP uE ux 60=true:= aQ 
def aeo:xF uE ux 60=false:= aQ 
def aen:xF (yC (-3) 1 1 (-2)) ux 60=true:= aQ 
def ahr(n e:Int)(h1:n.natAbs<4294967296)(h2:-1000<=e)(h3:e<=1000):gZ 85 [iP n,iP e] (ie (pB n e)):=by
 have hrg:oB (canon (Dy.neg (jo n)) (Dy.m (jo n)) ((Dy.e (jo n))+e)):=by rw[Rl];exact(LG h1 h2 h3).range
 exact ak call85 func85 (ae [ag [iP n] (alb _ aE),ag [ie (jo n),iP e] (alm _ _ (sA aE) aE aE hrg)]<|rQ (ie (canon (Dy.neg (jo n)) (Dy.m (jo n)) ((Dy.e (jo n))+e))) (ie (pB n e)) (by rw[Rl])) 
def Vw(n e:Int)(h1:n.natAbs<4294967296)(h2:-1000<=e)(h3:e<=1000):gZ 38 [iP n,iP e] (ig (mi (pB n e))):=
 ak call38 func38 (af [.c (ahr n e aE aE aE),.c (Pd (pB n e))]) 
def aem:gZ 11 [ji uE,iA ux,iP 60] (bP true):=by
 have:=KV uE ux 60 RY Qf aG aG;rwa[aep]at this
def aej:gZ 10 [ji uE,iA ux,iP 60] (bP false):=by
 have:=KF uE ux 60 RY Qf aG aG;rwa[aeo]at this
def aeh:gZ 10 [ji (yC (-3) 1 1 (-2)),iA ux,iP 60] (bP true):=by
 have:=KF (yC (-3) 1 1 (-2)) ux 60 (ahN ⟨aG,aG⟩ ⟨aG,aG⟩ ⟨aG,aG⟩ ⟨aG,aG⟩) Qf aG aG;rwa[aen]at this
def aei:gZ 17 [iP (-3),iP 1,iP 1,iP (-2)] (ji (yC (-3) 1 1 (-2))):=ahO _ _ _ _ ⟨aG,aG⟩ ⟨aG,aG⟩ ⟨aG,aG⟩ ⟨aG,aG⟩
def Ef : gZ 7 [] (bP true):=
 ak call7 func7 (af [.c (Vw 0 0 aG aG aG),.c (Vw 0 0 aG aG aG),.o 4 (.e (yy _ _):aj (.sl true 2 7 λi_ j_=>(iZ (mi (pB 0 0))++iZ (mi (pB 0 0))).getD (i_*7+j_) (.v (.bool false))) (iA ux)),.c R1,ag [ji uE,iA ux,iP 60] aem,.c R1,ag [ji uE,iA ux,iP 60] aej,ag [iP (-3),iP 1,iP 1,iP (-2)] aei,ag [ji (yC (-3) 1 1 (-2)),iA ux,iP 60] aeh]) 
def Vv(d:RD):gZ 42 [rn d] (bP (sC d)):=
 ak call42 func42 (.w (20<(d.L.length:Int))
  (λk1=>ae [tB 6 (bA k1)]<|rR (bP (sC d)) (by
      exact .iM (by
       have:sC d=true:=by unfold sC;simp[(aE:20<d.L.length)]
       rw[this]):E.le (bP true) (bP (sC d))))
  (λk1=>ae [tB 6 (bB k1)]<|.w (300<d.e)
   (λk2=>ae [tB 10 (bA k2)]<|rR (bP (sC d)) (by
      exact .iM (by
       have:sC d=true:=by unfold sC;simp[(aE:¬20<d.L.length),k2]
       rw[this]):E.le (bP true) (bP (sC d))))
   (λk2=>ae [tB 10 (bB k2)]<|rR (bP (sC d)) (by
      exact .iM (by
       have:sC d=(decide (d.e<(-300))):=by unfold sC;simp[(aE:¬20<d.L.length),k2]
       rw[this]):E.le (bP (decide (d.e<(-300)))) (bP (sC d)))))) 
def ahs(x:RI):gZ 41 [qo x] (bP (Ac x)):=
 ak call41 func41 (ae [.c (Vv x.lo)]<|.w (sC x.lo=true)
  (λk1=>ae [tB 5 k1]<|rQ (bP true) (bP (Ac x)) (uB (by simp_all[Ac])))
  (λk1=>ae [tB 5 (bn k1),.c (Vv x.hi)]<|rQ (bP (sC x.hi)) (bP (Ac x)) (uB (by simp_all[Ac])))) 
def ahq(l:List RI)(hl:l.length<=1000):gZ 40 [kJ l,.fn 41 []] (bP ((List.range l.length).any λi=>Ac (l.getD i jz))):=
 Cx true l.length (λi j=>(xC (l.getD i jz)).getD j .any) 41 [] (λi=>Ac (l.getD i jz)) (λi _=>ahs _) aE 
def JN(l:List RI):gZ 9 [kJ l] (bP (tL l)):=
 ak call9 func9 (.w ((l.length:Int)<=8)
  (λk1=>ae [tB 5 (bA k1),ag [kJ l,.fn 41 []] (ahq l aE)]<|rQ (bP (!((List.range l.length).any λi=>Ac (l.getD i jz)))) (bP (tL l)) (uB (by unfold tL;simp[(aE:l.length<=8)])))
  (λk1=>ae [tB 5 (bB k1)]<|rQ (bP false) (bP (tL l)) (uB (by unfold tL;simp[(aE:¬l.length<=8)])))) 
def tn(s:jF):Bool:=decide (s.ib.length<=25)&&(decide (s.il.length<=8)&&tL s.params)
def S7{s:jF}(h:tn s=true):s.mQ:=by
 unfold tn at h;rw[ch,ch,cS,cS]at h;have:=PQ h.2.2;exact⟨aE,aE,aE⟩
def NX(s:jF):gZ 8 [mB s] (bP (tn s)):=
 ak call8 func8 (.w ((s.ib.length:Int)<=25)
  (λk1=>ae [tB 7 (bA k1)]<|.w ((s.il.length:Int)<=8)
   (λk2=>ae [tB 13 (bA k2),.c (JN s.params)]<|rQ (bP (tL s.params)) (bP (tn s)) (uB (by unfold tn;simp[(aE:s.ib.length<=25),(aE:s.il.length<=8)])))
   (λk2=>ae [tB 13 (bB k2)]<|rQ (bP false) (bP (tn s)) (uB (by unfold tn;simp[(aE:s.ib.length<=25),(aE:¬s.il.length<=8)]))))
  (λk1=>ae [tB 7 (bB k1)]<|rQ (bP false) (bP (tn s)) (uB (by unfold tn;simp[(aE:¬s.ib.length<=25)])))) 
def aff(x:RI):gZ 235 [qo x] (bP x.all):=
 ak call235 func235 (.nil) 
def afh(l:List RI)(hl:l.length<=1000):gZ 158 [kJ l] (bP ((List.range l.length).any λi=>(l.getD i jz).all)):=
 ak call158 func158 (af [.c (Cx true l.length (λi j=>(xC (l.getD i jz)).getD j .any) 235 [] (λi=>(l.getD i jz).all) (λi _=>aff _) aE:gZ 40 [kJ l,.fn 235 []] _)]) 
def afi(x:RI)(g:x.jH):gZ 159 [qo x] (bP (!mz x)):=
 ak call159 func159 (af [ag [qo x] (Vh _ g)]) 
def abK{s:jF}{x:List RI}(h1:nj s=true)(h2:(x.length:Int)=s.iD)(h3:((List.range x.length).any λi=>(x.getD i jz).all)=false)(h4:((List.range x.length).any λi=>!mz (x.getD i jz))=false):rP s x=true:=by
 unfold rP xQ;rw[h1,bA h2,eA,eA,cr];intro i hi;have a:=dx.1 h3 i hi;have b:=dx.1 h4 i hi;unfold po;have a:(x.getD i jz).all=false:=by simpa using a
 have b:mz (x.getD i jz)=true:=by simpa using b
 rw[b,a];rfl
def abI(s:jF)(g:s.jH)(sm:s.mQ)(x:List RI)(gx:∀ i,(x.getD i jz).jH)(mg:x.length<=1000)(p:Int)(hb:rP s x=false):gZ 88 [mB s,kJ x,iP s.iD,iP p] (.iC [.v (.slice none 0 0),.v (.slice none 0 0),iP 1]):=
 ak call88 func88 (ae [ag [mB s] (anO _ g sm)]<|.w (nj s=true)
  (λk1=>ae [tB 14 k1]<|.w ((x.length:Int)=s.iD)
   (λk2=>ae [tB 21 (bq k2),.c (afh x mg)]<|.w (((List.range x.length).any λi=>(x.getD i jz).all)=true)
    (λk3=>af [tB 25 k3])
    (λk3=>ae [tB 25 (bn k3),.c (Cx true x.length (λi j=>(xC (x.getD i jz)).getD j .any) 159 [] (λi=>!mz (x.getD i jz)) (λi _=>afi _ (gx i)) aE:gZ 40 [kJ x,.fn 159 []] _)]<|.w (((List.range x.length).any λi=>!mz (x.getD i jz))=true)
     (λk4=>af [tB 29 k4])
     (λk4=>.x (by exact absurd (abK aF aF (bn aF) (bn aF)) (by rw[hb];decide)))))
   (λk2=>af [tB 21 (bt k2)]))
  (λk1=>af [tB 14 (bn k1)])) 
def Vs(s:jF)(g:s.jH)(sm:s.mQ)(x:List RI)(gx:∀ i,(x.getD i jz).jH)(mg:x.length<=1000)(p:Int)(hb:rP s x=false):gZ 43 [mB s,kJ x,iP p] (.iC [.v (.slice none 0 0),iP 1]):=
 ak call43 func43 (af [.c (abI s g sm x gx mg p hb)]) 
def ani(s:jF)(g:s.jH)(sm:s.mQ)(x:List RI)(gx:∀ i,(x.getD i jz).jH)(mg:x.length<=1000)(p:Int)(hb:rP s x=false):gZ 10 [mB s,kJ x,iP p] (bP false):=
 ak call10 func10 (af [.c (Vs s g sm x gx mg p hb),ah 18 ((1:Int) != 0) aG]) 
def adr(s:jF)(g:s.jH)(sm:s.mQ)(x:List RI)(gx:∀ i,(x.getD i jz).jH)(mg:x.length<=1000)(p:Int)(hb:rP s x=false):gZ 34 [mB s,kJ x,iP p] (.iC [.agg au,iP 1]):=
 ak call34 func34 (af [.c (Vs s g sm x gx mg p hb),ah 20 ((1:Int) != 0) aG]) 
def aos(s:jF)(g:s.jH)(sm:s.mQ)(x:List RI)(gx:∀ i,(x.getD i jz).jH)(mg:x.length<=1000)(p:Int)(hb:rP s x=false):gZ 11 [mB s,kJ x,iP p] (bP false):=
 ak call11 func11 (af [.c (adr s g sm x gx mg p hb),ai 17 ((1:Int)==0) aG]) 
def abJ(s:kB)(x:List Iv)(p:Int)(h:me s)(hb:mE s.iD x)(hp:kC p=false):gZ 88 [ji s,iA x,iP s.iD,iP p] (.iC [.v (.slice none 0 0),.v (.slice none 0 0),iP 2]):=by
 have s4:=h.s4;have DT:=hb.len;have tv:=JY hb.ok;exact ak call88 func88 (af [.c (KJ s aF),ai 21 ((x.length:Int) != (s.iD:Int)) (Ag hb.len),.c (zi x aE),ai 25 (nx x) tv,.c (Cy true _ _ 159 [] (λ_=>false) (λi hi=>IY _ (hb.ok i hi).1) aE (λ_ _=>rfl):gZ 40 [iA x,.fn 159 []] _),.c (FB p),ah 33 (!(kC p)) (by rw[hp];rfl)]) 
def Vt(s:kB)(x:List Iv)(p:Int)(h:me s)(hb:mE s.iD x)(hp:kC p=false):gZ 43 [ji s,iA x,iP p] (.iC [.v (.slice none 0 0),iP 2]):=
 ak call43 func43 (af [ag [ji s,iA x,iP s.iD,iP p] (abJ s x p h hb hp)]) 
def Y9(s:kB)(x:List Iv)(p:Int)(h:me s)(hb:mE s.iD x)(hp:kC p=false):gZ 10 [ji s,iA x,iP p] (bP false):=
 ak call10 func10 (af [.c (Vt s x p h hb hp),ah 18 ((2:Int) != 0) aG]) 
def ads(s:kB)(x:List Iv)(p:Int)(h:me s)(hb:mE s.iD x)(hp:kC p=false):gZ 34 [ji s,iA x,iP p] (.iC [.agg au,iP 2]):=
 ak call34 func34 (af [.c (Vt s x p h hb hp),ah 20 ((2:Int) != 0) aG]) 
def ZQ(s:kB)(x:List Iv)(p:Int)(h:me s)(hb:mE s.iD x)(hp:kC p=false):gZ 11 [ji s,iA x,iP p] (bP false):=
 ak call11 func11 (af [.c (ads s x p h hb hp),ai 17 ((2:Int)==0) aG]) 
def ae5(s:jF)(g:s.jH)(sm:s.mQ)(x:List RI)(gx:∀ i,(x.getD i jz).jH)(mg:x.length<=1000)(p:Int)(hb:rP s x=false):gZ 99 [mB s,kJ x,iP p] (iP 1):=
 ak call99 func99 (af [ag [mB s,kJ x] (Xr _ g sm _ gx mg),ah 10 (!(rP s x)) (by rw[hb];rfl)]) 
def Vo(s:jF)(g:s.jH)(sm:s.mQ)(x:List RI)(gx:∀ i,(x.getD i jz).jH)(mg:x.length<=1000)(p:Int)(hb:rP s x=false):gZ 51 [mB s,kJ x,iP p] (.iC [.v (.slice none 0 0),iP 1]):=
 ak call51 func51 (af [.c (ae5 s g sm x gx mg p hb),ah 17 ((1:Int) != 0) aG]) 
def am4(s:jF)(g:s.jH)(sm:s.mQ)(x:List RI)(gx:∀ i,(x.getD i jz).jH)(mg:x.length<=1000)(p:Int)(hb:rP s x=false):gZ 14 [mB s,kJ x,iP p] (bP false):=
 ak call14 func14 (af [.c (Vo s g sm x gx mg p hb),ah 20 ((1:Int) != 0) aG]) 
def adk(s:jF)(g:s.jH)(sm:s.mQ)(x:List RI)(gx:∀ i,(x.getD i jz).jH)(mg:x.length<=1000)(p:Int)(hb:rP s x=false):gZ 35 [mB s,kJ x,iP p] (.iC [.agg au,iP 1]):=
 ak call35 func35 (af [.c (Vo s g sm x gx mg p hb),ah 20 ((1:Int) != 0) aG]) 
def aon(s:jF)(g:s.jH)(sm:s.mQ)(x:List RI)(gx:∀ i,(x.getD i jz).jH)(mg:x.length<=1000)(p:Int)(hb:rP s x=false):gZ 15 [mB s,kJ x,iP p] (bP false):=
 ak call15 func15 (af [.c (adk s g sm x gx mg p hb),ai 17 ((1:Int)==0) aG]) 
def ae6(s:kB)(x:List Iv)(p:Int)(hp:kC p=false)(iV:gZ 31 [ji s,iA x] (bP true)):gZ 99 [ji s,iA x,iP p] (iP 2):=
 ak call99 func99 (af [ag [ji s,iA x] iV,ag [iP p] (Km _),ah 13 (!(kC p)) (by rw[hp];rfl)]) 
def Vp(s:kB)(x:List Iv)(p:Int)(hp:kC p=false)(iV:gZ 31 [ji s,iA x] (bP true)):gZ 51 [ji s,iA x,iP p] (.iC [.v (.slice none 0 0),iP 2]):=
 ak call51 func51 (af [ag [ji s,iA x,iP p] (ae6 s x p hp iV),ah 17 ((2:Int) != 0) aG]) 
def am5(s:kB)(x:List Iv)(p:Int)(hp:kC p=false)(iV:gZ 31 [ji s,iA x] (bP true)):gZ 14 [ji s,iA x,iP p] (bP false):=
 ak call14 func14 (af [ag [ji s,iA x,iP p] (Vp s x p hp iV),ah 20 ((2:Int) != 0) aG]) 
def adl(s:kB)(x:List Iv)(p:Int)(hp:kC p=false)(iV:gZ 31 [ji s,iA x] (bP true)):gZ 35 [ji s,iA x,iP p] (.iC [.agg au,iP 2]):=
 ak call35 func35 (af [ag [ji s,iA x,iP p] (Vp s x p hp iV),ah 20 ((2:Int) != 0) aG]) 
def aoo(s:kB)(x:List Iv)(p:Int)(hp:kC p=false)(iV:gZ 31 [ji s,iA x] (bP true)):gZ 15 [ji s,iA x,iP p] (bP false):=
 ak call15 func15 (af [ag [ji s,iA x,iP p] (adl s x p hp iV),ai 17 ((2:Int)==0) aG]) 
def anb(s:jF)(x:List RI)(p:Int)(g:s.jH)(gx:∀ i,(x.getD i jz).jH)(hE:(¬tn s=true\/¬tL x=true\/200<p)):gZ 3 [mB s,kJ x,iP p] (bP true):=
 ak call3 func3 (ae [.c Ef,.c (NX s)]<|.w (tn s=true)
  (λk1=>ae [tB 12 k1,.c (JN x)]<|.w (tL x=true)
   (λk2=>ae [tB 16 k2]<|.w (200<p)
    (λk3=>af [tB 21 (bA k3)])
    (λk3=>.x (by rcases hE with q|q|q<;>first|contradiction|omega)))
   (λk2=>af [tB 16 (bn k2)]))
  (λk1=>af [tB 12 (bn k1)])) 
def ane(s:jF)(x:List RI)(p:Int)(g:s.jH)(gx:∀ i,(x.getD i jz).jH)(h1:tn s=true)(h2:tL x=true)(h4:p<=200)(hb:rP s x=false):gZ 3 [mB s,kJ x,iP p] (bP true):=by
 have sm:=S7 h1;have mg:x.length<=1000:=by have:=PQ h2;omega
 exact ak call3 func3 (ae [.c Ef,.c (NX s),ai 13 (!(tn s)) (by rw[h1];rfl),.c (JN x),ai 17 (!(tL x)) (by rw[h2];rfl),tF 21 (200<p) aE,.c (ani s g sm x gx mg p hb),.c (aos s g sm x gx mg p hb),ag [mB s] (Ak _ g sm)]<|.w (nj s=true)
  (λk1=>ae [tB 32 k1,.c (XL s g sm)]<|.w (CR s=true)
   (λk2=>af [tB 37 k2,.c (am4 s g sm x gx mg p hb),ah 62 (false==false) rfl,.c (aon s g sm x gx mg p hb),ah 69 (false==false) rfl])
   (λk2=>af [tB 37 (bn k2),ag [mB s] (Ak _ g sm),tB 47 k1]))
  (λk1=>af [tB 32 (bn k1),ag [mB s] (Ak _ g sm),tB 47 (bn k1)])) 
def anf(s:kB)(x:List Iv)(p:Int)(h:me s)(hb:mE s.iD x)(hp:kC p=false)(h4:p<=200)(Ca:gZ 8 [ji s] (bP true))(Cl:gZ 9 [iA x] (bP true))(r6:gZ 12 [ji s] (bP true))(Bb:gZ 13 [kK s.tape] (bP false)):gZ 3 [ji s,iA x,iP p] (bP true):=
 ak call3 func3 (af [.c Ef,ag [ji s] Ca,ag [iA x] Cl,tF 21 (200<p) aE,.c (Y9 s x p h hb hp),.c (ZQ s x p h hb hp),ag [ji s] r6,ag [kK s.tape] Bb,ag [ji s] r6]) 
def ang(s:kB)(x:List Iv)(p:Int)(h:me s)(hb:mE s.iD x)(hp:kC p=false)(h4:p<=200)(Ca:gZ 8 [ji s] (bP true))(Cl:gZ 9 [iA x] (bP true))(r6:gZ 12 [ji s] (bP true))(Bb:gZ 13 [kK s.tape] (bP true))(iV:gZ 31 [ji s,iA x] (bP true)):gZ 3 [ji s,iA x,iP p] (bP true):=
 ak call3 func3 (af [.c Ef,ag [ji s] Ca,ag [iA x] Cl,tF 21 (200<p) aE,.c (Y9 s x p h hb hp),.c (ZQ s x p h hb hp),ag [ji s] r6,ag [kK s.tape] Bb,ag [ji s,iA x,iP p] (am5 s x p hp iV),ah 62 (false==false) rfl,ag [ji s,iA x,iP p] (aoo s x p hp iV),ah 69 (false==false) rfl]) 
def anc(s:kB)(x:List Iv)(p:Nat)(h:me s)(hb:mE s.iD x)(iw:8<=p)(ij:p<=512)(h4:p<=200)(Ca:gZ 8 [ji s] (bP true))(Cl:gZ 9 [iA x] (bP true))(r6:gZ 12 [ji s] (bP true))(Bb:gZ 13 [kK s.tape] (bP false)):gZ 3 [ji s,iA x,iP p] (bP true):=
 ak call3 func3 (ae [.c Ef,ag [ji s] Ca,ag [iA x] Cl,tF 21 (200<(p:Int)) aE,ag [ji s,iA x,iP p] (KF s x p h hb iw ij)]<|.w (xF s x p=true)
  (λk1=>ae [tB 26 k1,ag [ji s,iA x,iP p] (KV s x p h hb iw ij)]<|.w (yP s x p=true)
   (λk2=>.x (by exact(ank (p:=p) h hb aE aE aF aF).elim))
   (λk2=>af [tB 30 (bn k2),ag [ji s] r6,ag [kK s.tape] Bb,ag [ji s] r6]))
  (λk1=>af [tB 26 (bn k1),ag [ji s,iA x,iP p] (KV s x p h hb iw ij),ag [ji s] r6,ag [kK s.tape] Bb,ag [ji s] r6])) 
def anh(s:kB)(x:List Iv)(p:Nat)(h:me s)(hb:mE s.iD x)(iw:8<=p)(ij:p<=512)(h4:p<=200)(Ca:gZ 8 [ji s] (bP true))(Cl:gZ 9 [iA x] (bP true))(r6:gZ 12 [ji s] (bP true))(Bb:gZ 13 [kK s.tape] (bP true))(hr:q7 s.tape)(iV:gZ 31 [ji s,iA x] (bP true)):gZ 3 [ji s,iA x,iP p] (bP true):=
 ak call3 func3 (af [.c Ef,ag [ji s] Ca,ag [iA x] Cl,tF 21 (200<(p:Int)) aE,ag [ji s,iA x,iP p] (KF s x p h hb iw ij),ag [ji s,iA x,iP p] (KV s x p h hb iw ij),ag [ji s] r6,ag [kK s.tape] Bb,ag [ji s,iA x,iP p] (am9 s x p h hr hb iV iw ij),ah 62 ((xF s x p)==(xF s x p)) (apQ _),ag [ji s,iA x,iP p] (aoq s x p h hr hb iV iw ij),ah 69 ((yP s x p)==(yP s x p)) (apQ _)]) 
def anY{s:jF}(e:mB s=ji s.v):E.agg [iP s.im,jS s.ib,jV s.il]=kK s.v.tape:=by
 have:=E.agg.inj e;exact congrArg (λl=>E.agg (l.take 3)) this
def aht(s:jF)(x:List RI)(p:Int)(g:s.jH)(gx0:∀ y,y ∈ x->y.jH):gZ 3 [mB s,kJ x,iP p] (bP true):=by
 have gx:=afZ gx0;by_cases hE:(¬tn s=true\/¬tL x=true\/200<p)
 .exact anb s x p g gx hE
 have h1:tn s=true:=ca λq=>hE (.inl q)
 have h2:tL x=true:=ca λq=>hE (.inr (.inl q))
 have h4:p<=200:=Int.not_lt.1 λq=>hE (.inr (.inr q))
 have sm:=S7 h1;have mg:x.length<=1000:=by have:=PQ h2;omega
 cases iV:rP s x with
 |false=>exact ane s x p g gx h1 h2 h4 iV
 |true=>
  have B7:=iV;unfold rP at B7;rw[ch]at B7;obtain⟨o1,e1⟩:=al0 g B7.1;obtain⟨o5,e4⟩:=abn gx B7.2;have o5:mE s.v.iD (x.map RI.iv):=o5;have c1:=NX s;have c2:=JN x;have c3:=Ak s g sm;have c4:=XL s g sm;have c5:=Xr s g sm x gx mg;rw[h1,e1]at c1;rw[h2,e4]at c2;rw[B7.1,e1]at c3;rw[anY e1]at c4;rw[iV,e1,e4]at c5;rw[e1,e4];cases hp:kC p with
  |false=>
   cases hr:CR s with
   |true=>rw[hr]at c4;exact ang s.v (x.map RI.iv) p o1 o5 hp h4 c1 c2 c3 c4 c5
   |false=>rw[hr]at c4;exact anf s.v (x.map RI.iv) p o1 o5 hp h4 c1 c2 c3 c4
  |true=>
   obtain⟨p1,p2⟩:=pe.1 hp;obtain⟨q,rfl⟩:=ek (aE:0<=p);cases hr:CR s with
   |true=>rw[hr]at c4;exact anh s.v (x.map RI.iv) q o1 o5 aE aE aE c1 c2 c3 c4 (akT hr o1) c5
   |false=>rw[hr]at c4;exact anc s.v (x.map RI.iv) q o1 o5 aE aE aE c1 c2 c3 c4
open Go.ChangeShapes Go.WideShapes Go.ChangeAt
def Ld(W:World)(o:nE)(cs:List Value):Prop:=o.jH/\cs.length=6/\∀ j,j<6->∃ v,cs[j]? = some v/\iN om om W ((Aq o).getD j .any) v
def ahP{α:Type}{l:List α}(h:l.length=2):∃ a b,l=[a,b]:=by
 rcases l with _|⟨a,_|⟨b,_|⟨c,l⟩⟩⟩<;>simp at h
 exact⟨a,b,rfl⟩
def ahQ{α:Type}{l:List α}(h:l.length=5):∃ a b c d e,l=[a,b,c,d,e]:=by
 rcases l with _|⟨a,_|⟨b,_|⟨c,_|⟨d,_|⟨e,_|⟨f,l⟩⟩⟩⟩⟩⟩<;>simp at h
 exact⟨a,b,c,d,e,rfl⟩
def ahR{α:Type}{l:List α}(h:l.length=6):∃ a b c d e f,l=[a,b,c,d,e,f]:=by
 rcases l with _|⟨a,_|⟨b,_|⟨c,_|⟨d,_|⟨e,_|⟨f,_|⟨g,l⟩⟩⟩⟩⟩⟩⟩<;>simp at h
 exact⟨a,b,c,d,e,f,rfl⟩
section
variable {H:Type} {enc:TypeId×Value->H} {W:World} {fuel:Nat} {cs:List Value} {x:DataW H×List MemPlace}
def Bq(h:DataW.trod enc prog W 0 (λ_=>true) true fuel 3 cs=some x):∃ z,cs=[.int .i64 z]/\ku .i64 z:=by
 obtain⟨z,hz,_,hw⟩:=DataW.trod_int underlying3 h;exact⟨z,hz,Z7 hw⟩
def aji(h:DataW.trod enc prog W 0 (λ_=>true) true fuel 72 cs=some x):∃ n d,cs=[.int .i64 n,.int .i64 d]/\ku .i64 n/\ku .i64 d:=by
 obtain⟨xs,n,rfl,rfl,hl,mg,hf⟩:=DataW.trod_struct underlying72 h;have hC:prog.cellsOf 72=2:= aI ;have hI:prog.cellsOf 3=1:= aI ;rw[hC]at hl;obtain⟨c0,c1,rfl⟩:=ahP hl;have h0:=hf 0 _ rfl;have h1:=hf 1 _ rfl;simp only[fD,fE,eJ]at h0 h1;simp only[hI,fF,fG,eX,fH]at h0 h1;rw[bI (by rw[mg];decide)]at h0 h1;obtain⟨z0,e0,w0⟩:=Bq h0;obtain⟨z1,e1,w1⟩:=Bq h1;simp at e0 e1;subst e0 e1;exact⟨z0,z1,rfl,w0,w1⟩
def ajk(h:DataW.trod enc prog W 0 (λ_=>true) true fuel 74 cs=some x):∃ o,Ld W o cs:=by
 obtain⟨xs,n,rfl,rfl,hl,mg,hf⟩:=DataW.trod_struct underlying74 h;have hC:prog.cellsOf 74=6:= aI ;have hR:prog.cellsOf 72=2:= aI ;have hI:prog.cellsOf 3=1:= aI ;rw[hC]at hl;obtain⟨c0,c1,c2,c3,c4,c5,rfl⟩:=ahR hl;have h0:=hf 0 _ rfl;have h1:=hf 1 _ rfl;have h2:=hf 2 _ rfl;have h3:=hf 3 _ rfl;have h4:=hf 4 _ rfl;simp only[fD,fE,eJ]at h0 h1 h2 h3 h4;simp only[hI,hR,fF,fG,eX,fH]at h0 h1 h2 h3 h4;rw[bI (by rw[mg];decide)]at h0 h1 h2 h3 h4;obtain⟨z0,e0,w0⟩:=Bq h0;obtain⟨z1,e1,w1⟩:=Bq h1;obtain⟨z2,e2,w2⟩:=Bq h2;obtain⟨z3,e3,w3⟩:=Bq h3;obtain⟨z4,z5,e4,w4,w5⟩:=aji h4;simp at e0 e1 e2 e3 e4;obtain⟨e4,e5⟩:=e4;subst e0 e1 e2 e3 e4 e5;refine⟨⟨z0,z1,z2,z3,z4,z5⟩,⟨w0,w1,w2,w3,w4,w5⟩,rfl,λj hj=>?_⟩;rcases j with _|_|_|_|_|_|j
 all_goals first|exact⟨_,rfl,.v _⟩|omega
def alL(o:nE)(j:Nat)(hj:j<6):((Aq o).getD j .any).one=true/\(((Aq o).getD j .any).nL=true)/\((Aq o).getD j .any).nr 2=true:=by
 rcases j with _|_|_|_|_|_|j
 all_goals first|exact⟨rfl,rfl,rfl⟩|omega
def ajl(h:DataW.trod enc prog W 0 (λ_=>true) true fuel 22 cs=some x):
  ∃ l v,cs=[v]/\(∀ y,y ∈ l->y.jH)/\iN om om W (jS l) v:=by
 have hC:prog.cellsOf 74=6:= aI ;rcases Deep.open_slice underlying22 h with⟨rfl,_⟩|⟨a,len,cap,m,n,D,Pl,rfl,hb,hl,hm,sO,rfl,hx⟩
 .exact ⟨[],_,rfl,(λy hy=>by cases hy),.sl true 0 6 _ none 0 (λ_ _=>.bool false) (bC _) aG (λ_=>rfl) (λi j hi=>absurd hi (bO i)) (λi j hi=>absurd hi (bO i)) (λi j hi=>absurd hi (bO i)) (λi j hi=>absurd hi (bO i))⟩
 .simp only[bQ]at sO;subst sO;have ex:∀ i,∃ y:nE,i<len->∃ cs',W.cells? 0 (a.add (i*6)) 6=some cs'/\Ld W y cs':=by
   intro i;by_cases hi:i<len
   .obtain ⟨cs',h1,h2⟩:=hx i aE ;rw[hC]at h1;obtain⟨y,hy⟩:=ajk h2;exact⟨y,λ_=>⟨cs',h1,hy⟩⟩
   .exact ⟨jg,λh=>absurd h hi⟩
  let X:Nat->nE:=λi=>Classical.choose (ex i)
  have hX:∀ i,i<len->∃ cs',W.cells? 0 (a.add (i*6)) 6=some cs'/\Ld W (X i) cs':=λi=>dr (ex i)
  have hlen:((List.range len).map X).length=len:= aK ;refine⟨(List.range len).map X,_,rfl,?_,?_⟩
  .intro y hy;obtain⟨i,hi,rfl⟩:=dC.1 hy;obtain⟨cs',_,h2⟩:=hX i (bY.1 hi);exact h2.1
  .have Cc:∀ i,i<len->((List.range len).map X).getD i jg=X i:=by
    intro i hi;rw[bD,cQ,aqg hi];rfl
   have:=Pr (W:=W) (a:=a) (len:=len) (cap:=m) (nl:=true) (λi j=>(Aq (((List.range len).map X).getD i jg)).getD j .any) hl hm (show 0<6 by decide)
    (λi j _ hj=>let⟨h1,h2,h3⟩:=alL (((List.range len).map X).getD i jg) j hj;⟨h1,λ_=>h2,h3⟩)
    (λi hi=>by
     obtain⟨cs',h1,h2,_,h3⟩:=hX i hi;exact⟨cs',h1,λj hj=>by rw[Cc i hi];exact h3 j hj⟩)
   unfold jS;rw[hlen];exact this
def alJ:jg.jH:=by constructor<;>(show ku .i64 0;unfold ku;decide)
def MA{α:Type}{P:α->Prop}{l:List α}{d:α}(h:∀ y,y ∈ l->P y)(hd:P d)(i:Nat):P (l.getD i d):=by
 by_cases hi:i<l.length
 .rw [bD,bI hi];exact h _ (cN hi)
 .rw [bD,cC aE];exact hd
def Ql(W:World)(s:jF)(cs:List Value):Prop:=s.jH/\cs.length=5/\∀ j,j<5->∃ v,cs[j]? = some v/\iN om om W ((PE s).getD j .any) v
def ajn(h:DataW.trod enc prog W 0 (λ_=>true) true fuel 25 cs=some x):
 ∃ (n:Int) (ib:List nE) (il:List Int) (v w:Value),cs=[.int .i64 n,v,w]/\ku .i64 n/\(∀ y,y ∈ ib->y.jH)/\(∀ z,z ∈ il->ku .i64 z)/\iN om om W (jS ib) v/\iN om om W (jV il) w:=by
 obtain⟨xs,n,rfl,rfl,hl,mg,hf⟩:=DataW.trod_struct underlying25 h;have hC:prog.cellsOf 25=3:= aI ;have hI:prog.cellsOf 3=1:= aI ;have hO:prog.cellsOf 22=1:= aI ;have hU:prog.cellsOf 23=1:= aI ;rw[hC]at hl;obtain⟨c0,c1,c2,rfl⟩:=VJ hl;have h0:=hf 0 _ rfl;have h1:=hf 1 _ rfl;have h2:=hf 2 _ rfl;simp only[fD,fE,eJ]at h0 h1 h2;simp only[hI,hO,hU,fF,fG,eX,fH]at h0 h1 h2;rw[bI (by rw[mg];decide)]at h0 h1 h2;obtain⟨z0,e0,w0⟩:=Bq h0;obtain⟨ib,v,e1,g1,r1⟩:=ajl h1;obtain⟨il,w,e2,g2,r2⟩:=ajg (k:=.i64) (λ_=>rfl) underlying23 underlying3 hI h2;simp at e0 e1 e2;subst e0 e1 e2;exact⟨z0,ib,il,_,_,rfl,w0,g1,g2,r1,r2⟩
def ajm(h:DataW.trod enc prog W 0 (λ_=>true) true fuel 28 cs=some x)(iL:∀ p ∈ x.2,p.block<W.heap.size):∃ s,Ql W s cs:=by
 obtain⟨xs,n,rfl,rfl,hl,mg,hf⟩:=DataW.trod_struct underlying28 h;have hC:prog.cellsOf 28=5:= aI ;have hT:prog.cellsOf 25=3:= aI ;have hI:prog.cellsOf 3=1:= aI ;have hP:prog.cellsOf 26=1:= aI ;rw[hC]at hl;obtain⟨c0,c1,c2,c3,c4,rfl⟩:=ahQ hl;have h0:=hf 0 _ rfl;have h1:=hf 1 _ rfl;have h2:=hf 2 _ rfl;simp only[fD,fE,eJ]at h0 h1 h2;simp only[hT,hI,hP,fF,fG,eX,fH]at h0 h1 h2;rw[bI (by rw[mg];decide)]at h0 h1 h2;obtain⟨z0,ib,il,v,w,e0,w0,g1,g2,r1,r2⟩:=ajn h0;obtain⟨z1,e1,w1⟩:=Bq h1;obtain⟨ps,u,e2,g3,r3⟩:=WT h2 (λp hp=>iL p (fI.2 ⟨_,cN _,hp⟩));simp at e0 e1 e2;obtain⟨e0,e0b,e0c⟩:=e0;subst e0 e0b e0c e1 e2;refine⟨⟨z0,ib,il,z1,ps⟩,⟨w0,MA g1 alJ,MA g2 (by unfold ku;decide),w1,MA g3 Kw⟩,rfl,λj hj=>?_⟩;rcases j with _|_|_|_|_|j
 .exact ⟨_,rfl,.v _⟩
 .exact ⟨_,rfl,r1⟩
 .exact ⟨_,rfl,r2⟩
 .exact ⟨_,rfl,.v _⟩
 .exact ⟨_,rfl,r3⟩
 .omega
end
def anP{W:World}{x:jF}{cs:Array Value}(h:Ql W x cs.toList):iN om om W (mB x) (.agg cs):=by
 obtain⟨_,hl,h⟩:=h;have:=iN.agg (bs:=om) (br:=om) (w:=W) (PE x) cs.toList (by rw[hl];rfl) (λi p v h1 h2=>by
  have hi:i<5:=by have:=(cH.1 h2).1;omega
  obtain⟨v',h3,h4⟩:=h i hi;rw[h2]at h3;cases h3;rw[bD,h1]at h4;exact h4)
 unfold mB;exact this
def aek:Value:=.agg #[.int .i64 0,.slice none 0 0,.slice none 0 0,.int .i64 0,.slice none 0 0]
def ael{H:Type}:DataW H:=.agg [.agg [.lit (.int .i64 0),.nil,.nil],.lit (.int .i64 0),.nil]
def CK:Array Value:=#[aek,.slice none 0 0,.int .i64 0]
set_option maxRecDepth 100000 in
def ajs(H:Type)(enc:TypeId×Value->H)(W:World)(base:Nat)(args:Array Value)(ds gs:List (DataW H))(before:List MemPlace)
 (lP:∀ (j:Nat) t v,Tryz.f3.params[j]? = some t->args[j]? = some v->Value.okWide prog W .any base t v)
 (hW:DataW.Whole enc prog Tryz.f3.params.toList Rows.orbitStableSpec.vars false W args.toList ds gs before) (hL:laidMetH prog Rows.orbitStableRow.laid W):
 Calls prog 3 args W λe W'=>∃ v,e = .returned v/\Rows.orbitStableSpec.post enc prog Tryz.f3 false true false false W args v W':=by
 have MT:=hW;obtain⟨p,q,uI,hV,rfl,hfz,hnd⟩:=hW;have hA:DataW.TrodAll enc prog W 0 (λ_=>true) true Tryz.f3.params.toList args.toList ds p:=uI;rw[Tryz.params3]at hA lP;obtain⟨v0,vs0,d0,ds0,p0,q0,r6,rfl,rfl,h0,uI⟩:=trodAll_cons hA;obtain⟨v1,vs1,d1,ds1,p1,q1,rfl,rfl,rfl,h1,AX⟩:=trodAll_cons uI;obtain⟨v2,vs2,d2,ds2,p2,q2,rfl,rfl,rfl,h2,hA2⟩:=trodAll_cons AX;obtain⟨rfl,rfl,rfl⟩:=trodAll_nil hA2;obtain rfl:args = #[v0,v1,v2]:=by cases args;simp_all
 obtain⟨rfl,rfl⟩:=trodVars_none hV;obtain⟨cs0,rfl,aps⟩:=okWide_struct underlying28 (lP 0 28 v0 rfl rfl);obtain⟨a1,len1,cap1,rfl⟩:=okWide_slice underlying26 (lP 1 26 v1 rfl rfl);obtain⟨x2,rfl,rfl,rfl,b2⟩:=open_int underlying3 (lP 2 3 v2 rfl rfl) h2;have h0k:=h0;obtain⟨fuel0,hf0⟩:=h0;have h1k:=h1;obtain⟨fuel1,M8⟩:=h1;clear uI;have DX:∀ x ∈ p0,x.block<W.heap.size:=λx hx=>MT.lt x (by simp[hx])
 have DY:∀ x ∈ p1,x.block<W.heap.size:=λx hx=>MT.lt x (by simp[hx])
 obtain⟨x0,g0⟩:=ajm hf0 DX;obtain⟨x1,w1,we,g1,r1⟩:=WT M8 DY;obtain rfl:Value.slice a1 len1 cap1=w1:=by
  have:(Value.slice a1 len1 cap1).cells.toList=[Value.slice a1 len1 cap1]:=rfl;rw[this]at we;simpa using we
 have mq:=(aht x0 x1 x2 g0.1 g1).run W om [.agg cs0,.slice a1 len1 cap1,.int .i64 x2] (anZ rfl hL) (λ_ h=>h.elim) (.cons (anP (cs:=cs0) g0) (.cons r1 (.cons (.v _) (.nil _ _ _))));refine mq.mono λr W' ⟨v,hr,hb,su⟩=>?_
 obtain rfl:=iN.kW su;subst hr;refine⟨_,rfl,_,_,_,[],p0++(p1++([])),[],MT,?_,?_,rfl,hb.frame _,λh=>by cases h⟩
 .exact trodAll_mk1 (shut_bool underlying4 _)
 .exact ⟨p0,_,Below.trod NY aI (cR aI) h0k hb DX,⟨p1,_,Below.trod NY aI (cR aI) h1k hb DY,trodAll_mk1 (Below.trod NY aI (cR aI) h2 hb (λ_ h=>by cases h)),rfl⟩,rfl⟩
def ajv(os:Os):laidMet prog Rows.orbitStableRow.laid ((N4 os CK).forCall (λ_ _=>0) ⟨#[],CK,[]⟩).memory:=
 laidMet_of_run' 8 aI aI 
def ajx(os:Os){H:Type}(enc:TypeId×Value->H):∃ places,DataW.whole enc prog ((N4 os CK).forCall (λ_ _=>0) ⟨#[],CK,[]⟩).memory Tryz.f3.params.toList Rows.orbitStableSpec.vars false CK.toList 8=some ([ael,.nil,.lit (.int .i64 0)],[],places):=
 ⟨[],aI⟩
set_option maxRecDepth 100000 in
def aju(os:Os)(started:os.Started)(H:Type)(enc:TypeId×Value->H)(F:Stop.Interp):
  ReturnsInHanded {} Tryz.checked os 3 .any ((OpenSpec.ofChange Rows.orbitStableSpec).preRow enc prog Tryz.f3 Rows.orbitStableRow.domain false Rows.orbitStableRow.laid) (((OpenSpec.ofChange Rows.orbitStableSpec).at F).post enc prog Tryz.f3 false true false false):=by
 obtain⟨places,hx⟩:=ajx os enc;refine returnsInHanded_of_row (C:=Tryz.checked) (s:=OpenSpec.ofChange Rows.orbitStableSpec) own started aI func3
  (witness_row_at (enc:=enc) (C:=Tryz.checked) false (N4 os CK) CK rfl aI aI aI 
   (OpenSpec.preRow_of_cond 8 hx aI (λk hk=>by cases hk) aI (ajv os))) ?_
 intro W base args ds gs before lP hW _ _ _ hL _ _;exact ajs H enc W base args ds gs before lP hW hL
set_option maxHeartbeats 100000000 in
def ajt:joinedFacts prog 3 Tryz.f3 (OpenSpec.ofChange Rows.orbitStableSpec).bare Rows.orbitStableRow=true:=by
 unfold joinedFacts;simp only[ch]
 and_intros<;>decide +kernel
def ajy:Rows.OrbitStableSaid:=
 OpenClaim.holds_of_cond 3 Tryz.f3 rfl rfl rfl rfl rfl rfl rfl ⟨rfl,rfl,rfl,rfl,rfl⟩ rfl rfl rfl rfl rfl aI func3 ajt
  (cR aI) (by unfold Func.isWrapper;first|(rw[bw aQ];kernel_rfl)|(rw[bu aQ];exact⟨rfl,rfl⟩))
  (λos started H enc _ F=>by rw[OpenClaim.pre_eq_preRow];exact aju os started H enc F)
def ajw (f:FuncId) (fn:Func) (hf:Tryz.pinned.checked.prog.funcNamed "flowpipe/flowpipelaw44.OrbitStable" = some f) (hfn:Tryz.pinned.checked.prog.funcs[f]? = some fn):
 false=Tryz.pinned.checked.prog.looks []/\∀ (j:Nat) t,fn.params[j]? = some t->Tryz.pinned.checked.prog.wantsStandIn t=false:=by
 obtain rfl:f=3:=ap6 ((show prog.funcNamed "flowpipe/flowpipelaw44.OrbitStable" = some 3 by kernel_rfl).symm.trans hf) |>.symm
 obtain rfl:fn=Tryz.f3:=(ap6 (func3.symm.trans hfn)).symm;refine⟨aI,λj t ht=>?_⟩;rw[Tryz.params3]at ht;have:t=28\/t=26\/t=3:=by
  have:=eh ht;simp only[gR,dD,List.not_mem_nil,or_false]at this;rcases this with h|h|h<;>subst h<;>simp
 rcases this with rfl|rfl|rfl
 .exact (show prog.wantsStandIn 28=false by kernel_rfl)
 .exact (show prog.wantsStandIn 26=false by kernel_rfl)
 .exact (show prog.wantsStandIn 3=false by kernel_rfl)
theorem ostable_card:Rows.OrbitStableCardSaid:=
 Claim7.holds_tied_plain_at .later [] _ _ _ _ ajy (λ_ h=>by cases h) aI (λ_ h=>by cases h) orbitStable_row_tie rfl ⟨rfl,rfl⟩ aI rfl ajw (afY afb rfl)
end Go.Proofs.YtkjkcjhacddojaaGreatDoor
