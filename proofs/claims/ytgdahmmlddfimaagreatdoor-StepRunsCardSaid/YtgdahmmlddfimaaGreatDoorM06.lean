/- Run returns the pipe of the steps, one after the other, or the specified errors. -/
import Derived.Test.YtgdahmmlddfimaaGreatDoorM05
set_option linter.unusedSimpArgs false
set_option linter.unusedVariables false
set_option linter.defProp false
set_option maxHeartbeats 4000000
open Go.Proofs.Tryz
namespace Go.Proofs.YtgdahmmlddfimaaGreatDoor
open Go.RowKit Fp Pu
def So(nl:Bool)(n N:Nat)(el:Nat->Nat->E)(g:FuncId)(cap:List E)(i:Nat):PS:=⟨19,false,[(8,.e (iP i)),(7,.e (iP n)),(0,.e (.sl nl n 3 el)),(1,.e (.fn g cap))],[]⟩
def Sn(nl:Bool)(n:Nat)(el:Nat->Nat->E)(g:FuncId)(cap:List E)(i:Nat):PS:=⟨19,false,[(8,.e (iP i)),(7,.e (iP n)),(0,.e (.sl nl n 3 el)),(1,.e (.fn g cap))],[]⟩
def abH(x:RI)(g:x.jE):gW 181 [vt x] (bP (!nW x)):=
 ak call181 func181 (.w (x.all=true)
  (λk1=>ae [tB 4 k1]<|rQ (bP true) (bP (!nW x)) (mS (by unfold nW;simp_all)))
  (λk1=>ae [tB 4 (aW k1),ag [vt x] (agT _ g)]<|rQ (bP (!(nL x))) (bP (!nW x)) (mS (by unfold nW;simp_all)))) 
noncomputable def sK(b:List RI):Bool:=decide (1<=b.length/\b.length<=8)&&(List.range b.length).all λi=>nW (b.getD i jF)
def abI(b:List RI)(gb:∀ i,(b.getD i jF).jE)(oF:b.length<=1000):gW 106 [jz b] (bP (sK b)):=
 ak call106 func106 (.w (1<=(b.length:Int))
  (λk1=>ae [tB 5 (a7 k1)]<|.w ((b.length:Int)<=8)
   (λk2=>ae [tB 9 (a7 k2),.c (W7 181 b (λi=>abH _ (gb i)) oF:gW 53 [jz b,.fn 181 []] _)]<|rQ (bP (!(!((List.range b.length).all λi=>nW (b.getD i jF))))) (bP (sK b)) (mS aS))
   (λk2=>ae [tB 9 (bc k2)]<|rQ (bP false) (bP (sK b)) (mS aS)))
  (λk1=>ae [tB 5 (bc k1)]<|rQ (bP false) (bP (sK b)) (mS aS))) 
def abj(s:jU)(x:List RI)(gx:∀ i,(x.getD i jF).jE)(lW:x.length<=1000):gW 163 [jz x,(.iQ 5 λj_=>[iP s.im,ky s.gZ,kD s.iu,iP s.iy,jz s.params].getD j_ .any)] (bP (!(sK x&&decide ((x.length:Int)=s.iy)))):=
 ak call163 func163 (ae [.c (abI x gx lW)]<|.w (sK x=true)
  (λk1=>ae [tB 5 k1]<|rQ (bP ((x.length:Int) != s.iy)) (bP (!(sK x&&decide ((x.length:Int)=s.iy)))) (mS (by first|(simp_all;done)|(simp_all;rfl))))
  (λk1=>ae [tB 5 (aW k1)]<|rQ (bP true) (bP (!(sK x&&decide ((x.length:Int)=s.iy)))) (mS (by first|(simp_all;done)|(simp_all;rfl))))) 
noncomputable def sw(s:jU)(x:List RI):Bool:=lY s&&(sK x&&decide ((x.length:Int)=s.iy))
def Rf(s:jU)(g:s.jE)(sm:s.oZ)(x:List RI)(gx:∀ i,(x.getD i jF).jE)(lW:x.length<=1000):gW 86 [lr s,(.sl true 1 1 λi_ j_=>[jz x].getD (i_*1+j_) (.v (.bool false)))] (bP (sw s x)):=
 ak call86 func86 (ae [ag [lr s] (amx _ g sm)]<|.w (lY s=true)
  (λk1=>ae [tB 6 k1,.c (X4 true 1 _ 163 [(.iQ 5 λj_=>[iP s.im,ky s.gZ,kD s.iu,iP s.iy,jz s.params].getD j_ .any)] (λ_=>!(sK x&&decide ((x.length:Int)=s.iy))) (λi hi=>by obtain rfl:i=0:= aC;exact abj s x gx lW) aC:gW 50 [(.sl true 1 1 λi_ j_=>[jz x].getD (i_*1+j_) (.v (.bool false))),.fn 163 [(.iQ 5 λj_=>[iP s.im,ky s.gZ,kD s.iu,iP s.iy,jz s.params].getD j_ .any)]] _)]<|rQ (bP (!((List.range 1).any λ_=>!(sK x&&decide ((x.length:Int)=s.iy))))) (bP (sw s x)) (mS (by unfold sw;simp_all)))
  (λk1=>ae [tB 6 (aW k1)]<|rQ (bP false) (bP (sw s x)) (mS (by unfold sw;simp_all)))) 
def akJ(s:jU)(g:s.jE)(sm:s.oZ)(x:List RI)(gx:∀ i,(x.getD i jF).jE)(lW:x.length<=1000)(ds:List RD)(k p:Int)(hn:(sw s x&&lH p)=false):gW 30 [lr s,jz x,mW ds,iP k,iP p] (.ix [.agg [.v (.slice none 0 0),.v (.slice none 0 0)],iP 1]):=by
 by_cases hc:sw s x=true
 .have hp:(decide (8<=p)&&decide (p<=512))=false:=by rw[hc,cY]at hn;exact hn
  exact ak call30 func30 (af [.c (Rf s g sm x gx lW),ah 24 (sw s x) hc,.c (Xb p),ai 28 (decide (8<=p)&&decide (p<=512)) hp]) 
 .have hc:sw s x=false:=aW hc;exact ak call30 func30 (af [.c (Rf s g sm x gx lW),ai 24 (sw s x) hc]) 
def AT(x:RI):Bool:=decide (20<x.lo.L.length)||decide (20<x.hi.L.length)
def pv(l:List RI):Bool:=decide (10<l.length)||(List.range l.length).any λi=>AT (l.getD i jF)
def xM(d:RD):Bool:=decide (20<d.L.length)
def q6(s:jU)(k p:Int):Bool:=(decide (3<s.iy)&&decide (s.iy<=4))||(decide (2<s.params.length)||(decide (40<s.gZ.length)||((decide (8<k)&&decide (k<16))||(decide (64<p)&&decide (p<=512)))))
def lR(s:jU)(k p:Int)(x:List RI):Bool:=q6 s k p||(pv x||pv s.params)
def afk(x:RI):gW 84 [vt x] (bP (AT x)):=
 ak call84 func84 (.w (20<(x.lo.L.length:Int))
  (λk1=>ae [tB 7 (a7 k1)]<|rQ (bP true) (bP (AT x)) (mS (by unfold AT;rw[dI];simp;omega)))
  (λk1=>ae [tB 7 (bc k1)]<|rQ (bP (decide (20<(x.hi.L.length:Int)))) (bP (AT x)) (mS (by unfold AT;rw[dI];simp;omega)))) 
def Tu(l:List RI):gW 83 [jz l] (bP (pv l)):=
 ak call83 func83 (.w (10<(l.length:Int))
  (λk1=>ae [tB 5 (a7 k1)]<|rQ (bP true) (bP (pv l)) (mS (by unfold pv;simp[(aC:10<l.length)])))
  (λk1=>ae [tB 5 (bc k1),.c (JZ true l.length (λi j=>(Ah (l.getD i jF)).getD j .any) 84 [] (λi=>AT (l.getD i jF)) (λi _=>afk _) aC:gW 53 [jz l,.fn 84 []] _)]<|rQ (bP ((List.range l.length).any λi=>AT (l.getD i jF))) (bP (pv l)) (mS (by unfold pv;simp[(aC:¬10<l.length)])))) 
def AK(x y:List RI):gW 51 [(.sl true 2 1 λi_ j_=>[(.sl true 1 1 λi_ j_=>[jz x].getD (i_*1+j_) (.v (.bool false))),(.sl true 1 1 λi_ j_=>[jz y].getD (i_*1+j_) (.v (.bool false)))].getD (i_*1+j_) (.v (.bool false)))] (.sl true 2 1 λi_ j_=>[jz x,jz y].getD (i_*1+j_) (.v (.bool false))):=
 ak call51 func51 (ae [.u 70,ah 12 (decide ((0:Int)<2)) aE,iX 0 2 aC,iz (0+1) aC,ai 20 (decide (((0+1):Int)<0)) aE,iz (0+1) aC,ah 12 (decide (((0+1):Int)<2)) aE,iX (0+1) 2 aC,iz ((0+1)+1) aC,ai 20 (decide ((((0+1)+1):Int)<0)) aE,iz ((0+1)+1) aC,ai 12 (decide ((((0+1)+1):Int)<2)) aE,.cn (afp _ (by first|omega|decide):wL 129 [.v (.slice none 0 0),iP ((0+1)+1)] true 26 0 1 (λ_ _=>.any)),.u 70,ah 28 (decide ((0:Int)<2)) aE,iX 0 2 aC,.a (aC:(0+1)*24<=140737488355328),iz (0+1) aC,ah 28 (decide (((0+1):Int)<2)) aE,iX (0+1) 2 aC,.a (aC:(1+1)*24<=140737488355328),iz ((0+1)+1) aC,ai 28 (decide ((((0+1)+1):Int)<2)) aE,.z 24]<|rR (.sl true 2 1 λi_ j_=>[jz x,jz y].getD (i_*1+j_) (.v (.bool false))) (.sl λi j hi hj=>by obtain rfl:j=0:= aC;obtain rfl|rfl:i=0\/i=1:= aC <;>exact⟨.iT rfl,rfl⟩:E.le (.sl true 2 1 (λi_ j_=>if i_<1 then(λi_ j_=>if i_<0 then(λ_ _=>.any) i_ j_ else(E.kG (.sl true 1 1 λi_ j_=>[jz x].getD (i_*1+j_) (.v (.bool false)))) (i_-0) j_) i_ j_ else(E.kG (.sl true 1 1 λi_ j_=>[jz y].getD (i_*1+j_) (.v (.bool false)))) (i_-1) j_)) (.sl true 2 1 λi_ j_=>[jz x,jz y].getD (i_*1+j_) (.v (.bool false))))) 
def AX(s:jU)(x:List RI):gW 50 [(.sl true 2 1 λi_ j_=>[jz x,jz s.params].getD (i_*1+j_) (.v (.bool false))),.fn 83 []] (bP (pv x||pv s.params)):=by
 have:=X4 true 2 (λi_ j_=>[jz x,jz s.params].getD (i_*1+j_) (.v (.bool false))) 83 [] (λi=>if i=0 then pv x else pv s.params) (λi hi=>by
  obtain rfl|rfl:i=0\/i=1:= aC 
  .exact Tu x
  .exact Tu s.params) aC 
 exact this.jQ (.iT (by rw[show List.range 2=[0,1]from rfl];simp))
def FU(s:jU)(k p:Int)(x:List RI):gW 27 [lr s,iP k,iP p,(.sl true 1 1 λi_ j_=>[jz x].getD (i_*1+j_) (.v (.bool false)))] (bP (lR s k p x)):=
 ak call27 func27 (.w (3<s.iy)
  (λk1=>ae [tB 11 (a7 k1)]<|.w (s.iy<=4)
   (λk2=>ae [tB 15 (a7 k2)]<|rQ (bP true) (bP (lR s k p x)) (mS (by unfold lR q6;simp[k1,k2]<;>omega)))
   (λk2=>ae [tB 15 (bc k2)]<|.w (2<(s.params.length:Int))
    (λk3=>ae [tB 21 (a7 k3)]<|rQ (bP true) (bP (lR s k p x)) (mS (by unfold lR q6;simp[k1,k2,k3]<;>omega)))
    (λk3=>ae [tB 21 (bc k3)]<|.w (40<(s.gZ.length:Int))
     (λk4=>ae [tB 28 (a7 k4)]<|rQ (bP true) (bP (lR s k p x)) (mS (by unfold lR q6;simp[k1,k2,k3,k4]<;>omega)))
     (λk4=>ae [tB 28 (bc k4)]<|.w (8<k)
      (λk5=>ae [tB 32 (a7 k5)]<|.w (k<16)
       (λk6=>ae [tB 35 (a7 k6)]<|rQ (bP true) (bP (lR s k p x)) (mS (by unfold lR q6;simp[k1,k2,k3,k4,k5,k6]<;>omega)))
       (λk6=>ae [tB 35 (bc k6)]<|.w (64<p)
        (λk7=>ae [tB 40 (a7 k7)]<|.w (p<=512)
         (λk8=>ae [tB 43 (a7 k8)]<|rQ (bP true) (bP (lR s k p x)) (mS (by unfold lR q6;simp[k1,k2,k3,k4,k5,k6,k7,k8]<;>omega)))
         (λk8=>ae [tB 43 (bc k8),.c (AK x s.params),ag [(.sl true 2 1 λi_ j_=>[jz x,jz s.params].getD (i_*1+j_) (.v (.bool false))),.fn 83 []] (AX s x)]<|rQ (bP (pv x||pv s.params)) (bP (lR s k p x)) (mS (by unfold lR q6;simp[k1,k2,k3,k4,k5,k6,k7,k8]<;>omega))))
        (λk7=>ae [tB 40 (bc k7),.c (AK x s.params),ag [(.sl true 2 1 λi_ j_=>[jz x,jz s.params].getD (i_*1+j_) (.v (.bool false))),.fn 83 []] (AX s x)]<|rQ (bP (pv x||pv s.params)) (bP (lR s k p x)) (mS (by unfold lR q6;simp[k1,k2,k3,k4,k5,k6,k7]<;>omega)))))
      (λk5=>ae [tB 32 (bc k5)]<|.w (64<p)
       (λk6=>ae [tB 40 (a7 k6)]<|.w (p<=512)
        (λk7=>ae [tB 43 (a7 k7)]<|rQ (bP true) (bP (lR s k p x)) (mS (by unfold lR q6;simp[k1,k2,k3,k4,k5,k6,k7]<;>omega)))
        (λk7=>ae [tB 43 (bc k7),.c (AK x s.params),ag [(.sl true 2 1 λi_ j_=>[jz x,jz s.params].getD (i_*1+j_) (.v (.bool false))),.fn 83 []] (AX s x)]<|rQ (bP (pv x||pv s.params)) (bP (lR s k p x)) (mS (by unfold lR q6;simp[k1,k2,k3,k4,k5,k6,k7]<;>omega))))
       (λk6=>ae [tB 40 (bc k6),.c (AK x s.params),ag [(.sl true 2 1 λi_ j_=>[jz x,jz s.params].getD (i_*1+j_) (.v (.bool false))),.fn 83 []] (AX s x)]<|rQ (bP (pv x||pv s.params)) (bP (lR s k p x)) (mS (by unfold lR q6;simp[k1,k2,k3,k4,k5,k6]<;>omega))))))))
  (λk1=>ae [tB 11 (bc k1)]<|.w (2<(s.params.length:Int))
   (λk2=>ae [tB 21 (a7 k2)]<|rQ (bP true) (bP (lR s k p x)) (mS (by unfold lR q6;simp[k1,k2]<;>omega)))
   (λk2=>ae [tB 21 (bc k2)]<|.w (40<(s.gZ.length:Int))
    (λk3=>ae [tB 28 (a7 k3)]<|rQ (bP true) (bP (lR s k p x)) (mS (by unfold lR q6;simp[k1,k2,k3]<;>omega)))
    (λk3=>ae [tB 28 (bc k3)]<|.w (8<k)
     (λk4=>ae [tB 32 (a7 k4)]<|.w (k<16)
      (λk5=>ae [tB 35 (a7 k5)]<|rQ (bP true) (bP (lR s k p x)) (mS (by unfold lR q6;simp[k1,k2,k3,k4,k5]<;>omega)))
      (λk5=>ae [tB 35 (bc k5)]<|.w (64<p)
       (λk6=>ae [tB 40 (a7 k6)]<|.w (p<=512)
        (λk7=>ae [tB 43 (a7 k7)]<|rQ (bP true) (bP (lR s k p x)) (mS (by unfold lR q6;simp[k1,k2,k3,k4,k5,k6,k7]<;>omega)))
        (λk7=>ae [tB 43 (bc k7),.c (AK x s.params),ag [(.sl true 2 1 λi_ j_=>[jz x,jz s.params].getD (i_*1+j_) (.v (.bool false))),.fn 83 []] (AX s x)]<|rQ (bP (pv x||pv s.params)) (bP (lR s k p x)) (mS (by unfold lR q6;simp[k1,k2,k3,k4,k5,k6,k7]<;>omega))))
       (λk6=>ae [tB 40 (bc k6),.c (AK x s.params),ag [(.sl true 2 1 λi_ j_=>[jz x,jz s.params].getD (i_*1+j_) (.v (.bool false))),.fn 83 []] (AX s x)]<|rQ (bP (pv x||pv s.params)) (bP (lR s k p x)) (mS (by unfold lR q6;simp[k1,k2,k3,k4,k5,k6]<;>omega)))))
     (λk4=>ae [tB 32 (bc k4)]<|.w (64<p)
      (λk5=>ae [tB 40 (a7 k5)]<|.w (p<=512)
       (λk6=>ae [tB 43 (a7 k6)]<|rQ (bP true) (bP (lR s k p x)) (mS (by unfold lR q6;simp[k1,k2,k3,k4,k5,k6]<;>omega)))
       (λk6=>ae [tB 43 (bc k6),.c (AK x s.params),ag [(.sl true 2 1 λi_ j_=>[jz x,jz s.params].getD (i_*1+j_) (.v (.bool false))),.fn 83 []] (AX s x)]<|rQ (bP (pv x||pv s.params)) (bP (lR s k p x)) (mS (by unfold lR q6;simp[k1,k2,k3,k4,k5,k6]<;>omega))))
      (λk5=>ae [tB 40 (bc k5),.c (AK x s.params),ag [(.sl true 2 1 λi_ j_=>[jz x,jz s.params].getD (i_*1+j_) (.v (.bool false))),.fn 83 []] (AX s x)]<|rQ (bP (pv x||pv s.params)) (bP (lR s k p x)) (mS (by unfold lR q6;simp[k1,k2,k3,k4,k5]<;>omega)))))))) 
def aee(d:RD):gW 29 [kX d] (bP (xM d)):=
 ak call29 func29 (rQ (bP (decide (20<(d.L.length:Int)))) (bP (xM d)) (mS (by unfold xM;rw[dI,cC,cC];omega))) 
def adw(nl:Bool)(n:Nat)(el:Nat->Nat->E)(g:FuncId)(cap:List E)(p:Nat->Bool)(hp:∀ i,i<n->gW g ((.agg [el i 0,el i 1,el i 2])::cap) (bP (p i)))(N:Nat)(hl:n<=1000000)(mQ:N<n)(je:∀ i,i<N->p i=false)(hN:p N=true):gW 85 [.sl nl n 3 el,.fn g cap] (iP N):=
 an call85 func85 (af [.s (Sp.jC (So nl n N el g cap) 0 N aC (λi hi nQ=>by
    exact iF (af [tT 9 ((i:Int)<n) aC,iX (i:Int) n aC,.c (hp i aC:gW g ((.agg [el i 0,el i 1,el i 2])::cap) _),ai 16 (p i) (je i aC),
     iz ((i:Int)+1) aC]) aF)
  (λhi=>by
    exact iF (af [tT 9 ((N:Int)<n) aC,iX (N:Int) n aC,.c (hp N aC:gW g ((.agg [el N 0,el N 1,el N 2])::cap) _),ah 16 (p N) hN]) aF) aI:jA 2 Tryz.f85 (So nl n N el g cap 0) .ret ⟨19,false,[(4,.e (iP N))],[]⟩) .nil]) 
def adz(nl:Bool)(n:Nat)(el:Nat->Nat->E)(g:FuncId)(cap:List E)(p:Nat->Bool)(hp:∀ i,i<n->gW g ((.agg [el i 0,el i 1,el i 2])::cap) (bP (p i)))(hl:n<=1000000)(je:∀ i,i<n->p i=false):gW 85 [.sl nl n 3 el,.fn g cap] (iP (-1)):=
 an call85 func85 (af [.s (Sp.jC (Sn nl n el g cap) 0 n aC (λi hi nQ=>by
    exact iF (af [tT 9 ((i:Int)<n) aC,iX (i:Int) n aC,.c (hp i aC:gW g ((.agg [el i 0,el i 1,el i 2])::cap) _),ai 16 (p i) (je i aC),
     iz ((i:Int)+1) aC]) aF)
  (λhi=>by
    exact iF (af [tF 9 ((n:Int)<n) aC]) aF) aI:jA 2 Tryz.f85 (Sn nl n el g cap 0) (.exit 0) ⟨19,false,[],[]⟩) .nil]) 
def adx(nl:Bool)(n:Nat)(el:Nat->Nat->E)(g:FuncId)(cap:List E)(p:Nat->Bool)(hp:∀ i,i<n->gW g ((.agg [el i 0,el i 1,el i 2])::cap) (bP (p i)))(N:Nat)(hl:n<=1000000)(mQ:N<n)(je:∀ i,i<N->p i=false)(hN:p N=true):gW 28 [.sl nl n 3 el,.fn g cap] (bP true):=
 an call28 func28 (af [ag [.sl nl n 3 el,.fn g cap] (adw nl n el g cap p hp N hl mQ je hN),tT 8 (0<=(N:Int)) aC]) 
def ady(nl:Bool)(n:Nat)(el:Nat->Nat->E)(g:FuncId)(cap:List E)(p:Nat->Bool)(hp:∀ i,i<n->gW g ((.agg [el i 0,el i 1,el i 2])::cap) (bP (p i)))(hl:n<=1000000)(je:∀ i,i<n->p i=false):gW 28 [.sl nl n 3 el,.fn g cap] (bP false):=
 an call28 func28 (af [ag [.sl nl n 3 el,.fn g cap] (adz nl n el g cap p hp hl je),ai 8 (decide ((0:Int)<=(-1))) aE]) 
def adv(nl:Bool)(n:Nat)(el:Nat->Nat->E)(g:FuncId)(cap:List E)(p:Nat->Bool)(hp:∀ i,i<n->gW g ((.agg [el i 0,el i 1,el i 2])::cap) (bP (p i)))(hl:n<=1000000):gW 28 [.sl nl n 3 el,.fn g cap] (bP ((List.range n).any p)):=by
 by_cases h:∃ i,i<n/\p i=true
 .obtain ⟨N,h1,h2,h3⟩:∃ N,N<n/\p N=true/\∀ i,i<N->p i=false:=rh h;refine(adx nl n el g cap p hp N hl h1 h3 h2).jQ (.iT ?_);rw[dz.2 ⟨N,bS.2 h1,h2⟩]
 .refine (ady nl n el g cap p hp hl λi hi=>by simpa using λq=>h ⟨i,hi,q⟩).jQ (.iT ?_);rw[cK.2 λi hi q=>h ⟨i,bS.1 hi,q⟩]
def Mr(ds:List RD)(hl:ds.length<=1000000):gW 28 [mW ds,.fn 29 []] (bP ((List.range ds.length).any λi=>xM (ds.getD i ko))):=
 adv true ds.length (λi j=>(By (ds.getD i ko)).getD j .any) 29 [] (λi=>xM (ds.getD i ko)) (λi _=>aee _) hl
def Yi(p:Int):gW 23 [iP p] (bP (lH p)):=
 ak call23 func23 (.w (8<=p)
  (λk1=>ae [tB 4 (a7 k1)]<|rQ (bP (decide (p<=512))) (bP (lH p)) (by simp[lH,k1]))
  (λk1=>ae [tB 4 (bc k1)]<|rQ (bP false) (bP (lH p)) (by simp[lH,k1]))) 
def ajq:gW 90 [.agg au] (bP true):=by
 have h:=Ag (Iv.raw Aj) Po.Jc;rw[Gv,s7.2 Po.Kh]at h;exact h.le (.cons (.agg Zq) .nil) (.refl _)
def aef(s:jU)(g:s.jE)(sm:s.oZ)(x:List RI)(gx:∀ i,(x.getD i jF).jE)(lW:x.length<=1000)(p:Int)(h1:lY s=false):gW 31 [lr s,(.sl true 1 1 λi_ j_=>[jz x].getD (i_*1+j_) (.v (.bool false))),.agg au,iP 1,iP p] (iP 1):=
 ak call31 func31 (af [ag [lr s] (Af _ g sm),ai 13 (lY s) h1]) 
def aeg(s:jU)(g:s.jE)(sm:s.oZ)(x:List RI)(gx:∀ i,(x.getD i jF).jE)(lW:x.length<=1000)(p:Int)(h1:lY s=true)(h2:vL s x=false):gW 31 [lr s,(.sl true 1 1 λi_ j_=>[jz x].getD (i_*1+j_) (.v (.bool false))),.agg au,iP 1,iP p] (iP 1):=
 ak call31 func31 (af [ag [lr s] (Af _ g sm),ah 13 (lY s) h1,.u 70,ah 18 (decide ((0:Int)<1)) aE,iX 0 1 aC,ag [lr s,jz x] (OR s g sm x gx lW),ai 26 (vL s x) h2]) 
def aeh(s:jU)(g:s.jE)(sm:s.oZ)(x:List RI)(gx:∀ i,(x.getD i jF).jE)(lW:x.length<=1000)(p:Int)(h1:lY s=true)(h2:vL s x=true)(h3:lH p=false):gW 31 [lr s,(.sl true 1 1 λi_ j_=>[jz x].getD (i_*1+j_) (.v (.bool false))),.agg au,iP 1,iP p] (iP 2):=
 ak call31 func31 (af [ag [lr s] (Af _ g sm),ah 13 (lY s) h1,.u 70,ah 18 (decide ((0:Int)<1)) aE,iX 0 1 aC,ag [lr s,jz x] (OR s g sm x gx lW),ah 26 (vL s x) h2,iz (0+1) aC,ai 18 (decide (((0+1):Int)<1)) aE,.c (Yi p),ai 29 (lH p) h3]) 
def aei(s:jU)(g:s.jE)(sm:s.oZ)(x:List RI)(gx:∀ i,(x.getD i jF).jE)(lW:x.length<=1000)(p:Int)(h1:lY s=true)(h2:vL s x=true)(h3:lH p=true):gW 31 [lr s,(.sl true 1 1 λi_ j_=>[jz x].getD (i_*1+j_) (.v (.bool false))),.agg au,iP 1,iP p] (iP 0):=
 ak call31 func31 (af [ag [lr s] (Af _ g sm),ah 13 (lY s) h1,.u 70,ah 18 (decide ((0:Int)<1)) aE,iX 0 1 aC,ag [lr s,jz x] (OR s g sm x gx lW),ah 26 (vL s x) h2,iz (0+1) aC,ai 18 (decide (((0+1):Int)<1)) aE,.c (Yi p),ah 29 (lH p) h3,ai 33 (decide ((1:Int)<1)) aE,ai 37 (decide ((15:Int)<1)) aE,ag [.agg au] ajq]) 
def RE{s:jU}(g:s.jE){x:List RI}:sw s x=vL s x:=by
 unfold sw vL;cases h1:lY s with
 |false=>rfl
 |true=>
  rw[cY,cY];obtain⟨o1,_⟩:=Ya g h1;have s1:=o1.s1;have s4:=o1.s4;have e1:(s.v.iy:Int)=s.iy:=by
   show(s.iy.toNat:Int)=s.iy;have:1<=s.iy.toNat:=s1;omega
  unfold sK AD;by_cases hl:(x.length:Int)=s.iy
  .rw [a7 hl,a7 (aC:1<=x.length/\x.length<=8)];simp
  .rw [bc hl];simp
def aek(s:jU)(g:s.jE)(sm:s.oZ)(x:List RI)(gx:∀ i,(x.getD i jF).jE)(lW:x.length<=1000)(p:Int)(hn:(sw s x&&lH p)=false):∃ e:Int,e≠0/\gW 31 [lr s,(.sl true 1 1 λi_ j_=>[jz x].getD (i_*1+j_) (.v (.bool false))),.agg au,iP 1,iP p] (iP e):=by
 rw[RE g]at hn;cases h1:lY s with
 |false=>exact⟨1,aE,aef s g sm x gx lW p h1⟩
 |true=>
  cases h2:vL s x with
  |false=>exact⟨1,aE,aeg s g sm x gx lW p h1 h2⟩
  |true=>exact⟨2,aE,aeh s g sm x gx lW p h1 h2 (by rw[h2,cY]at hn;exact hn)⟩
def aej(s:jU)(g:s.jE)(sm:s.oZ)(x:List RI)(gx:∀ i,(x.getD i jF).jE)(lW:x.length<=1000)(p:Int)(hn:(sw s x&&lH p)=true):gW 31 [lr s,(.sl true 1 1 λi_ j_=>[jz x].getD (i_*1+j_) (.v (.bool false))),.agg au,iP 1,iP p] (iP 0):=by
 rw[RE g,bF]at hn;have h1:lY s=true:=by have:=hn.1;unfold vL at this;rw[bF]at this;exact this.1
 exact aei s g sm x gx lW p h1 hn.1 hn.2
def ak3(d:Dy)(hv:d.ij):gW 95 [ie d] (.ix [ie d,iP 0]):=
 ak call95 func95 (af [ag [ie d] (BB _ hv)]) 
def ak4(d:Dy)(hd:¬d.ij)(h1:-10000000<=d.e)(h2:d.e<=10000000):gW 74 [ie d] (bP false):=by
 rw[<-IW];exact G8 d.raw ⟨mz _,by show -9223372036854775808<=d.e;omega,by show d.e<=9223372036854775807;omega⟩ false ⟨λh=>absurd h aE,λh=>absurd (show d.ij by have:=RD.Ok.valid h;rwa[Dy.OU]at this) hd⟩
def ak1(d:Dy)(hv:¬d.ij)(h1:-10000000<=d.e)(h2:d.e<=10000000):gW 95 [ie d] (.ix [ie ju,iP 9]):=
 ak call95 func95 (af [ag [ie d] (ak4 _ hv h1 h2),.o 7 (.e sH:aj (.agg ar) (ie ju))]) 
def ak2(d:Dy)(hc:d.nn)(h1:-10000000<=d.e)(h2:d.e<=10000000):gW 95 [ie d] (.ix [ie (kt d),iP (ml d)]):=by
 by_cases h:mZ d
 .rw [yY h,B2 h];exact ak3 d ⟨hc,h⟩
 .rw [Fs h,DF h];exact ak1 d (λq=>h q.range) h1 h2
def ak0(a b:Dy)(ha:a.ij)(hb:b.ij):gW 33 [ie a,ie b] (.ix [ie (kt (iL a b)),iP (ml (iL a b))]):=by
 obtain⟨_,f1,f2⟩:=ame ha hb;have hc:=yW ha.canon hb.canon;exact ak call33 func33 (af [ag [ie a] (BB _ aD),ag [ie b] (BB _ aD),.c (XQ a b ha.Ev hb.Ev),ag [ie (iL a b)] (ak2 _ hc aC aC)]) 
def akZ(a:Dy)(ha:a.ij)(d:RD)(gd:d.jE)(hd:BD d=false):gW 33 [ie a,kX d] (.ix [ie ju,iP 1]):=
 ak call33 func33 (af [ag [ie a] (BB _ aD),.c (by have h_:=G8 d gd _ (wF (d:=d));rwa[hd]at h_:gW 74 [kX d] (bP false)),.o 14 (.e sH:aj (.agg ar) (ie ju))]) 
def He(a:Dy)(ha:a.ij)(d:RD)(gd:d.jE)(hd:d.Ok):gW 33 [ie a,kX d] (.ix [ie (kt (iL a d.dy)),iP (ml (iL a d.dy))]):=by
 rw[show kX d=ie d.dy by rw[<-IW,hd.eq gd]];exact ak0 a d.dy ha hd.valid
def ak5(x:Iv)(hx:x.ij):gW 69 [ik x,ik x] (bP true):=by
 obtain⟨w1,w2⟩:=hx.jW;exact ak call69 func69 (af [ah 9 (x.all==x.all) aH,.c (Kx _ _ true ⟨λ_=>rfl,λ_=>rfl⟩ (by have:=w1.gY;omega) (by have:=w1.gY;omega):gW 34 [ie x.lo,ie x.lo] _),.c (Kx _ _ true ⟨λ_=>rfl,λ_=>rfl⟩ (by have:=w2.gY;omega) (by have:=w2.gY;omega):gW 34 [ie x.hi,ie x.hi] _)]) 
def KM(b:List Iv)(hb:∀ i,i<b.length->(b.getD i ia).ij)(hl:b.length<=1000):gW 35 [ib b,ib b] (bP true):=
 ak call35 func35 (af [.c (QU b b 69 [] (λ_=>true) rfl hl (λi hi=>ak5 _ (hb i hi)) (λ_ _=>rfl))]) 
noncomputable def VH(s:jc)(x:List Iv)(ds:List RD)(k:Int)(p:Nat)(i:Nat):PS:=⟨171,true,[(78,.e (iP i)),(77,.e (iP ds.length)),(76,.e (mW ds)),(15,.e (ib (mA s x ds k p i))),(16,.box 16 0),(13,.e (bP false)),(12,.e (iP 0)),(11,.box 11 0),(5,.box 5 0),(1,.e (ib x)),(2,.e (mW ds)),(3,.e (iP k)),(4,.e (iP p))],[(16,.cells 31 (jq (kB ds i))),(11,.cells 50 [ib x,.sl true ds.length 8 (rO s x ds k p)]),(5,.cells 28 [iP s.tape.im,kU s.tape.gZ,kT s.tape.iu,iP s.iy,ib s.params])]⟩
noncomputable def VI(s:jc)(x:List Iv)(ds:List RD)(k:Int)(p:Nat)(N:Nat)(e:Int)(i:Nat):PS:=⟨171,true,[(78,.e (iP i)),(77,.e (iP ds.length)),(76,.e (mW ds)),(15,.e (ib (mA s x ds k p i))),(16,.box 16 0),(13,.e (bP true)),(12,.e (iP e)),(11,.box 11 0),(5,.box 5 0),(1,.e (ib x)),(2,.e (mW ds)),(3,.e (iP k)),(4,.e (iP p))],[(16,.cells 31 (jq (kB ds i))),(11,.cells 50 [.v (.slice none 0 0),.v (.slice none 0 0)]),(5,.cells 28 [iP s.tape.im,kU s.tape.gZ,kT s.tape.iu,iP s.iy,ib s.params])]⟩
noncomputable def VJ(s:jc)(x:List Iv)(ds:List RD)(k:Int)(p:Nat)(N:Nat)(i:Nat):PS:=⟨171,true,[(78,.e (iP i)),(77,.e (iP ds.length)),(76,.e (mW ds)),(15,.e (ib (mA s x ds k p i))),(16,.box 16 0),(13,.e (bP true)),(12,.e (iP 9)),(11,.box 11 0),(5,.box 5 0),(1,.e (ib x)),(2,.e (mW ds)),(3,.e (iP k)),(4,.e (iP p))],[(16,.cells 31 (jq (kB ds i))),(11,.cells 50 [.v (.slice none 0 0),.v (.slice none 0 0)]),(5,.cells 28 [iP s.tape.im,kU s.tape.gZ,kT s.tape.iu,iP s.iy,ib s.params])]⟩
def NR(n e:Int)(h1:n.natAbs<4294967296)(h2:-1000<=e)(h3:e<=1000):gW 81 [iP n,iP e] (ie (j8 n e)):=by
 have hrg:mZ (canon (Dy.neg (iW n)) (Dy.m (iW n)) ((Dy.e (iW n))+e)):=by rw[Rv];exact(Fq h1 h2 h3).range
 exact ak call81 func81 (ae [ag [iP n] (ajP _ aC),ag [ie (iW n),iP e] (ajY _ _ (sV aC) aC aC hrg)]<|rQ (ie (canon (Dy.neg (iW n)) (Dy.m (iW n)) ((Dy.e (iW n))+e))) (ie (j8 n e)) (by rw[Rv])) 
def Gx(m n e:Int)(h0:m.natAbs<4294967296)(h1:n.natAbs<4294967296)(h2:-1000<=e)(h3:e<=1000):gW 79 [iP m,iP n,iP e] (ik ⟨j8 m e,j8 n e,false⟩):=
 ak call79 func79 (ae [.c (NR m e aQ aQ aQ),.c (NR n e aQ aQ aQ)]<|rR (ik ⟨j8 m e,j8 n e,false⟩) (.iT rfl:E.le (ik (Iv.mk (j8 m e) (j8 n e) false)) (ik ⟨j8 m e,j8 n e,false⟩))) 
def VF : gW 80 [] (iV oJ):=
 ak call80 func80 (rR (iV oJ) (by
  exact .agg (.cons (.refl _) (.cons (.nil _ _ _) (.cons (.sl λi j hi hj=>by
   obtain rfl:j=0:= aC ;obtain rfl:i=0:= aC ;exact⟨.iT rfl,rfl⟩) (.cons (.refl _) (.cons (.nil _ _ _) .nil))))):E.le (.agg [iP 1,.v (.slice none 0 0),(.sl true 1 1 λi_ j_=>[iP 0].getD (i_*1+j_) (.v (.bool false))),iP 1,.v (.slice none 0 0)]) (iV oJ))) 
def KY:kz oJ:=by
 refine⟨⟨aE,aE,aE,λi hi=>absurd hi (bj i),λi hi=>?_⟩,aE,aE,rfl,rfl,aE,λi hi=>absurd hi (bj i)⟩;have hi:i<1:=hi;obtain rfl:i=0:= aC ;decide
def WY{B:Iv}(v:B.ij)(a:B.all=false):jh 1 [B]:=⟨rfl,λi hi=>by
 have hi:i<1:=hi;obtain rfl:i=0:= aC ;exact⟨v,a⟩⟩
def GQ{m n e:Int}(h0:m.natAbs<4294967296)(h1:n.natAbs<4294967296)(h2:-1000<=e)(h3:e<=1000)(h:jj (j8 m e) (j8 n e)<=0):(⟨j8 m e,j8 n e,false⟩:Iv).ij:=
 .inr ⟨rfl,Fq h0 h2 h3,Fq h1 h2 h3,h⟩
def Cd:jh oJ.iy gX:=WY (GQ aE aE aE aE aL) rfl
def Ti:gH.ij:=Fq aE aE aE 
def TC:qf oJ gX gH (qJ gX (oj (-5))) 53=gT:=by
 unfold qf;rw[a6 λk hk q=>by have:=TB (k+1) aC;rw[q]at this;cases this]
def Tx:nP (om oJ gX gT (j9 gH) 4 53)=false:= aL 
def TA:Eu (om oJ gX gT (j9 gH) 4 53) gT=true:= aL 
def Tz:(si (om oJ gX gT (j9 gH) 4 53) gT).length=1:= aL 
def afr:zK ((si (om oJ gX gT (j9 gH) 4 53) gT).getD 0 ia) ⟨j8 64 (-6),j8 67 (-6),false⟩=true:= aL 
def afu:gW 32 [iV oJ,ib gX,ie gH,iP 4,iP 53] (.ix [ib gT,ib (si (om oJ gX gT (j9 gH) 4 53) gT),iP 0]):=by
 have n4:=MB;unfold qH at n4;rw[bF]at n4;have hb:=FV Cd (Hv (k:=-5) aE aE) (KQ (Hu _)) n4.1;have h0:0<gH.iM:= aL ;have hE:=SE oJ gX gH 53 KY Cd Ti h0 aE aE 15 aE afs MB;have:=Zb oJ gX KY Cd 53 aE aE 4 gH Ti h0 aE aE _ hb n4.2 hE;rw[show BM oJ gX gH (qJ gX (oj (-5))) 4 53 = .inr (gT,si (om oJ gX gT (j9 gH) 4 53) gT)by
  unfold BM;rw[TC,Tx,TA];rfl]at this
 exact this
def afq:gW 64 [iV oJ,ib gX,ib [⟨j8 2 (-1),j8 3 (-1),false⟩],ik ⟨j8 1 (-2),j8 1 (-2),false⟩,iP 1,iP 24] (.ix [ib [⟨j8 82 (-6),j8 83 (-6),false⟩],iP 0]):=by
 have:=QJ oJ gX [⟨j8 2 (-1),j8 3 (-1),false⟩] ⟨j8 1 (-2),j8 1 (-2),false⟩ 1 24 KY Cd (WY (GQ aE aE aE aE aL) rfl)
  (GQ aE aE aE aE aL) rfl aL aE aE aE aE (by rw[Ty];decide +kernel)
 rw[Ty]at this;exact this
def aey:((si (om oJ gX gT (j9 gH) 4 53) gT).getD 0 ia).ij:=by
 have n4:=MB;unfold qH at n4;rw[bF]at n4;have hb:=FV Cd (Hv (k:=-5) aE aE) (KQ (Hu _)) n4.1;have hT:jh oJ.iy gT:=by
  have:=PT (d:=gH) (p:=53) Cd aE aE hb;rwa[TC]at this
 have hA:=LC (t:=j9 gH) (k:=4) (p:=53) KY Cd hT aE aE aE Tx;have hM:=Wi hA hT TA;exact(hM.ok 0 (by rw[Tz];decide)).1
def CM : gW 26 [] (bP true):=by
 have e1:gT.length=1:=TB 4 (bg _);have e2:=Tz;exact ak call26 func26 (af [.c (Gx 1 1 0 aE aE aE aE),.o 8 (.e (lh _):aj (.sl true 1 7 λi_ j_=>(iJ (⟨j8 1 0,j8 1 0,false⟩:Iv)).getD (i_*7+j_) (.v (.bool false))) (ib [(⟨j8 1 0,j8 1 0,false⟩:Iv)])),.c VF,.c (Gx 2 3 (-1) aE aE aE aE),.o 13 (.e (lh _):aj (.sl true 1 7 λi_ j_=>(iJ (⟨j8 2 (-1),j8 3 (-1),false⟩:Iv)).getD (i_*7+j_) (.v (.bool false))) (ib [(⟨j8 2 (-1),j8 3 (-1),false⟩:Iv)])),.c (Gx 1 1 (-2) aE aE aE aE),ag [iV oJ,ib [(⟨j8 1 0,j8 1 0,false⟩:Iv)],ib [(⟨j8 2 (-1),j8 3 (-1),false⟩:Iv)],ik (⟨j8 1 (-2),j8 1 (-2),false⟩:Iv),iP 1,iP 24] afq,.c VF,.c (NR 1 (-6) aQ aQ aQ),ag [iV oJ,ib [(⟨j8 1 0,j8 1 0,false⟩:Iv)],ie (j8 1 (-6)),iP 4,iP 53] afu,ah 27 ((0:Int)==0) aE,.c (Gx 82 83 (-6) aE aE aE aE),.o 31 (.e (lh _):aj (.sl true 1 7 λi_ j_=>(iJ (⟨j8 82 (-6),j8 83 (-6),false⟩:Iv)).getD (i_*7+j_) (.v (.bool false))) (ib [(⟨j8 82 (-6),j8 83 (-6),false⟩:Iv)])),.c (KM [(⟨j8 82 (-6),j8 83 (-6),false⟩:Iv)] (λi hi=>by have hi:i<1:=hi;obtain rfl:i=0:= aC;exact GQ aE aE aE aE aL) aE),ah 36 ((0:Int)==0) aE,ah 41 ((gT.length:Int)==1) (by rw[e1];rfl),ah 46 (((si (om oJ gX gT (j9 gH) 4 53) gT).length:Int)==1) (by rw[e2];rfl),
  iX 0 ((si (om oJ gX gT (j9 gH) 4 53) gT).length) aC,.c (Gx 64 67 (-6) aE aE aE aE),.c (by have:=Q0 ((si (om oJ gX gT (j9 gH) 4 53) gT).getD 0 ia) (⟨j8 64 (-6),j8 67 (-6),false⟩:Iv) aey (GQ aE aE aE aE aL);rwa[afr]at this:gW 82 [ik ((si (om oJ gX gT (j9 gH) 4 53) gT).getD 0 ia),ik (⟨j8 64 (-6),j8 67 (-6),false⟩:Iv)] (bP true))]) 
def akL(s:jU)(x:List RI)(ds:List RD)(k p:Int)(h1:lR s k p x=true):gW 5 [lr s,jz x,mW ds,iP k,iP p] (bP true):=
 ak call5 func5 (af [.c CM,.c (FU s k p x),ah 32 (lR s k p x) h1]) 
def akM(s:jU)(x:List RI)(ds:List RD)(k p:Int)(h1:lR s k p x=false)(h2:10<ds.length):gW 5 [lr s,jz x,mW ds,iP k,iP p] (bP true):=
 ak call5 func5 (af [.c CM,.c (FU s k p x),ai 32 (lR s k p x) h1,tT 36 (10<(ds.length:Int)) aC]) 
def akN(s:jU)(x:List RI)(ds:List RD)(k p:Int)(h1:lR s k p x=false)(h2:ds.length<=10)(h3:((List.range ds.length).any λi=>xM (ds.getD i ko))=true):gW 5 [lr s,jz x,mW ds,iP k,iP p] (bP true):=
 ak call5 func5 (af [.c CM,.c (FU s k p x),ai 32 (lR s k p x) h1,tF 36 (10<(ds.length:Int)) aC,ag [mW ds,.fn 29 []] (Mr ds aC),ah 40 ((List.range ds.length).any λi=>xM (ds.getD i ko)) h3]) 
def akP(s:jU)(x:List RI)(ds:List RD)(k p:Int)(h1:lR s k p x=false)(h2:ds.length<=10)(h3:((List.range ds.length).any λi=>xM (ds.getD i ko))=false)(hR:gW 30 [lr s,jz x,mW ds,iP k,iP p] (.ix [.agg [.v (.slice none 0 0),.v (.slice none 0 0)],iP 1]))(e:Int)(he:e≠0)(hF:gW 31 [lr s,(.sl true 1 1 λi_ j_=>[jz x].getD (i_*1+j_) (.v (.bool false))),.agg au,iP 1,iP p] (iP e)):gW 5 [lr s,jz x,mW ds,iP k,iP p] (bP true):=
 ak call5 func5 (af [.c CM,.c (FU s k p x),ai 32 (lR s k p x) h1,tF 36 (10<(ds.length:Int)) aC,ag [mW ds,.fn 29 []] (Mr ds aC),ai 40 ((List.range ds.length).any λi=>xM (ds.getD i ko)) h3,ag [lr s,jz x,mW ds,iP k,iP p] hR,ah 54 ((0:Int)==0) aE,ah 59 ((0:Int)==0) aE,ag [lr s,(.sl true 1 1 λi_ j_=>[jz x].getD (i_*1+j_) (.v (.bool false))),.agg au,iP 1,iP p] hF,tB 68 (aY he),ah 72 ((1:Int)==1) aE]) 
def akO(s:jc)(x:List Iv)(ds:List RD)(k:Int)(p:Nat)(h:kz s)(hx:jh s.iy x)(gd:∀ i,(ds.getD i ko).jE)(h2:ds.length<=10)(il:8<=p)(ig:p<=512)(hG:gW 27 [iV s,iP k,iP p,(.sl true 1 1 λi_ j_=>[ib x].getD (i_*1+j_) (.v (.bool false)))] (bP false))(hD:gW 28 [mW ds,.fn 29 []] (bP false))(hF:gW 31 [iV s,(.sl true 1 1 λi_ j_=>[ib x].getD (i_*1+j_) (.v (.bool false))),.agg au,iP 1,iP p] (iP 0))(kj:∀ i,i<ds.length->wU s x ds k p i)(hR:gW 30 [iV s,ib x,mW ds,iP k,iP (p:Int)] (.ix [.agg [ib x,.sl true ds.length 8 (rO s x ds k p)],iP 0])):gW 5 [iV s,ib x,mW ds,iP k,iP p] (bP true):=by
 have s1:=h.s1;have s4:=h.s4;have lx:=hx.len;exact ak call5 func5 (af [.c CM,ag [iV s,iP k,iP p,(.sl true 1 1 λi_ j_=>[ib x].getD (i_*1+j_) (.v (.bool false)))] hG,tF 36 (10<(ds.length:Int)) aC,ag [mW ds,.fn 29 []] hD,ag [iV s,ib x,mW ds,iP k,iP p] hR,ai 54 ((x.length:Int)==0) (nC aC),ag [iV s,(.sl true 1 1 λi_ j_=>[ib x].getD (i_*1+j_) (.v (.bool false))),.agg au,iP 1,iP p] hF,ai 68 ((0:Int) != 0) aE,.o 75 (.e sH:aj (.agg ar) (ie ju)),.s (Sp.jC (VH s x ds k p) 0 ds.length aC (λi hi nQ=>by
    obtain⟨jK,kK⟩:=tO h hx il ig i λj hj=>kj j aC 
    have oF:=jK.len;have lf:=De h hx il ig gd jK (kj i aC).1;have rf:=lf.2.2.2.len;have qj:=(tO h hx il ig (i+1) λj hj=>kj j aC).2;have wW:gW 33 [ie (kB ds i),kX (ds.getD i ko)] (.ix [ie (kB ds (i+1)),iP 0]):=by
     have:=He (kB ds i) kK _ (gd i) lf.2.1;rwa[(kj i aC).2]at this
    exact iF (af [tT 79 ((i:Int)<ds.length) aC,iX (i:Int) (ds.length) aC,ag [iV s,ib (mA s x ds k p i),kX (ds.getD i ko),iP k,iP p] lf.1,ag [ie (kB ds i),kX (ds.getD i ko)] wW,ai 100 ((0:Int) != 0) aE,ai 108 ((0:Int) != 0) aE,ah 115 ((0:Int)==0) aE,tF 120 ((ds.length:Int)<=i) aC,iX (i:Int) (ds.length) aC,.c (Kx _ _ true ⟨λ_=>rfl,λ_=>rfl⟩ (by have:=kK.gY;omega) (by have:=kK.gY;omega):gW 34 [ie (kB ds i),ie (kB ds i)] _),.c (Kx _ _ true ⟨λ_=>rfl,λ_=>rfl⟩ (by have:=qj.gY;omega) (by have:=qj.gY;omega):gW 34 [ie (kB ds (i+1)),ie (kB ds (i+1))] _),.c (KM (xz s x ds k p i) (λi hi=>(lf.2.2.1.ok i hi).1) (by have:=lf.2.2.1.len;omega)),.c (KM (mA s x ds k p (i+1)) (λi hi=>(lf.2.2.2.ok i hi).1) (by have:=lf.2.2.2.len;omega)),
     iz ((i:Int)+1) aC]) aF)
  (λhi=>by
    exact iF (af [tF 79 ((ds.length:Int)<ds.length) aC]) aF) aI:jA 12 Tryz.f5 (VH s x ds k p 0) (.exit 0) ⟨171,true,[(12,.e (iP 0)),(11,.box 11 0),(1,.e (ib x)),(2,.e (mW ds))],[(11,.cells 50 [ib x,.sl true ds.length 8 (rO s x ds k p)])]⟩) (af [.b 16 (.iT rfl:Bx.le (.cells 31 (jq ju)) (.cells 31 (jq (kB ds 0))))]),ah 156 ((0:Int)==0) aE,ah 163 ((ds.length:Int)==ds.length) (Ka rfl),.c (KM x (λi hi=>(hx.ok i hi).1) (by have:=hx.len;omega))]) 
def Yg(s:jc)(x:List Iv)(ds:List RD)(k:Int)(p:Nat)(h:kz s)(hx:jh s.iy x)(gd:∀ i,(ds.getD i ko).jE)(h2:ds.length<=10)(il:8<=p)(ig:p<=512)(hG:gW 27 [iV s,iP k,iP p,(.sl true 1 1 λi_ j_=>[ib x].getD (i_*1+j_) (.v (.bool false)))] (bP false))(hD:gW 28 [mW ds,.fn 29 []] (bP false))(hF:gW 31 [iV s,(.sl true 1 1 λi_ j_=>[ib x].getD (i_*1+j_) (.v (.bool false))),.agg au,iP 1,iP p] (iP 0))(N:Nat)(mQ:N<ds.length)(kj:∀ i,i<N->wU s x ds k p i)(e:Int)(he:e≠0)(hR:gW 30 [iV s,ib x,mW ds,iP k,iP (p:Int)] (.ix [.agg [.v (.slice none 0 0),.v (.slice none 0 0)],iP e]))(hS:gW 32 [iV s,ib (mA s x ds k p N),kX (ds.getD N ko),iP k,iP (p:Int)] (.ix [.v (.slice none 0 0),.v (.slice none 0 0),iP e]))(D:Dy)(g:Int)(hA:gW 33 [ie (kB ds N),kX (ds.getD N ko)] (.ix [ie D,iP g])):gW 5 [iV s,ib x,mW ds,iP k,iP p] (bP true):=by
 have s1:=h.s1;have s4:=h.s4;have lx:=hx.len;exact ak call5 func5 (af [.c CM,ag [iV s,iP k,iP p,(.sl true 1 1 λi_ j_=>[ib x].getD (i_*1+j_) (.v (.bool false)))] hG,tF 36 (10<(ds.length:Int)) aC,ag [mW ds,.fn 29 []] hD,ag [iV s,ib x,mW ds,iP k,iP p] hR,ah 54 ((0:Int)==0) aE,ah 59 ((0:Int)==0) aE,ag [iV s,(.sl true 1 1 λi_ j_=>[ib x].getD (i_*1+j_) (.v (.bool false))),.agg au,iP 1,iP p] hF,ai 68 ((0:Int) != 0) aE,.o 75 (.e sH:aj (.agg ar) (ie ju)),.s (Sp.jC (VI s x ds k p N e) 0 N aC (λi hi nQ=>by
    obtain⟨jK,kK⟩:=tO h hx il ig i λj hj=>kj j aC 
    have oF:=jK.len;have lf:=De h hx il ig gd jK (kj i aC).1;have rf:=lf.2.2.2.len;have qj:=(tO h hx il ig (i+1) λj hj=>kj j aC).2;have wW:gW 33 [ie (kB ds i),kX (ds.getD i ko)] (.ix [ie (kB ds (i+1)),iP 0]):=by
     have:=He (kB ds i) kK _ (gd i) lf.2.1;rwa[(kj i aC).2]at this
    exact iF (af [tT 79 ((i:Int)<ds.length) aC,iX (i:Int) (ds.length) aC,ag [iV s,ib (mA s x ds k p i),kX (ds.getD i ko),iP k,iP p] lf.1,ag [ie (kB ds i),kX (ds.getD i ko)] wW,ai 100 ((0:Int) != 0) aE,ai 108 ((0:Int) != 0) aE,tB 115 (aU he),iz ((i:Int)+1) aC]) aF)
  (λhi=>by
    obtain⟨jK,kK⟩:=tO h hx il ig N λj hj=>kj j aC 
    have oF:=jK.len;exact iF (af [tT 79 ((N:Int)<ds.length) aC,iX (N:Int) (ds.length) aC,ag [iV s,ib (mA s x ds k p N),kX (ds.getD N ko),iP k,iP p] hS,ag [ie (kB ds N),kX (ds.getD N ko)] hA,tB 100 (aY he),ah 105 (e==e) (beq_self_eq_true e)]) aF) aI:jA 12 Tryz.f5 (VI s x ds k p N e 0) .ret ⟨171,true,[(10,.e (bP true))],[]⟩) (af [.b 16 (.iT rfl:Bx.le (.cells 31 (jq ju)) (.cells 31 (jq (kB ds 0))))])]) 
def akS(s:jc)(x:List Iv)(ds:List RD)(k:Int)(p:Nat)(h:kz s)(hx:jh s.iy x)(gd:∀ i,(ds.getD i ko).jE)(h2:ds.length<=10)(il:8<=p)(ig:p<=512)(hG:gW 27 [iV s,iP k,iP p,(.sl true 1 1 λi_ j_=>[ib x].getD (i_*1+j_) (.v (.bool false)))] (bP false))(hD:gW 28 [mW ds,.fn 29 []] (bP false))(hF:gW 31 [iV s,(.sl true 1 1 λi_ j_=>[ib x].getD (i_*1+j_) (.v (.bool false))),.agg au,iP 1,iP p] (iP 0))(N:Nat)(mQ:N<ds.length)(kj:∀ i,i<N->wU s x ds k p i)(hR:gW 30 [iV s,ib x,mW ds,iP k,iP (p:Int)] (.ix [.agg [.v (.slice none 0 0),.v (.slice none 0 0)],iP 9]))(lf:gW 32 [iV s,ib (mA s x ds k p N),kX (ds.getD N ko),iP k,iP (p:Int)] (.ix [ib (xz s x ds k p N),ib (mA s x ds k p (N+1)),iP 0])/\True)(D:Dy)(hA:gW 33 [ie (kB ds N),kX (ds.getD N ko)] (.ix [ie D,iP 9])):gW 5 [iV s,ib x,mW ds,iP k,iP p] (bP true):=by
 have s1:=h.s1;have s4:=h.s4;have lx:=hx.len;exact ak call5 func5 (af [.c CM,ag [iV s,iP k,iP p,(.sl true 1 1 λi_ j_=>[ib x].getD (i_*1+j_) (.v (.bool false)))] hG,tF 36 (10<(ds.length:Int)) aC,ag [mW ds,.fn 29 []] hD,ag [iV s,ib x,mW ds,iP k,iP p] hR,ah 54 ((0:Int)==0) aE,ah 59 ((0:Int)==0) aE,ag [iV s,(.sl true 1 1 λi_ j_=>[ib x].getD (i_*1+j_) (.v (.bool false))),.agg au,iP 1,iP p] hF,ai 68 ((0:Int) != 0) aE,.o 75 (.e sH:aj (.agg ar) (ie ju)),.s (Sp.jC (VJ s x ds k p N) 0 N aC (λi hi nQ=>by
    obtain⟨jK,kK⟩:=tO h hx il ig i λj hj=>kj j aC 
    have oF:=jK.len;have lf:=De h hx il ig gd jK (kj i aC).1;have rf:=lf.2.2.2.len;have qj:=(tO h hx il ig (i+1) λj hj=>kj j aC).2;have wW:gW 33 [ie (kB ds i),kX (ds.getD i ko)] (.ix [ie (kB ds (i+1)),iP 0]):=by
     have:=He (kB ds i) kK _ (gd i) lf.2.1;rwa[(kj i aC).2]at this
    exact iF (af [tT 79 ((i:Int)<ds.length) aC,iX (i:Int) (ds.length) aC,ag [iV s,ib (mA s x ds k p i),kX (ds.getD i ko),iP k,iP p] lf.1,ag [ie (kB ds i),kX (ds.getD i ko)] wW,ai 100 ((0:Int) != 0) aE,ai 108 ((0:Int) != 0) aE,ai 115 ((9:Int)==0) aE,
     iz ((i:Int)+1) aC]) aF)
  (λhi=>by
    obtain⟨jK,kK⟩:=tO h hx il ig N λj hj=>kj j aC 
    have oF:=jK.len;exact iF (af [tT 79 ((N:Int)<ds.length) aC,iX (N:Int) (ds.length) aC,ag [iV s,ib (mA s x ds k p N),kX (ds.getD N ko),iP k,iP p] lf.1,ag [ie (kB ds N),kX (ds.getD N ko)] hA,ai 100 ((0:Int) != 0) aE,ah 108 ((9:Int) != 0) aE,ah 112 ((9:Int)==9) aE]) aF) aI:jA 12 Tryz.f5 (VJ s x ds k p N 0) .ret ⟨171,true,[(10,.e (bP true))],[]⟩) (af [.b 16 (.iT rfl:Bx.le (.cells 31 (jq ju)) (.cells 31 (jq (kB ds 0))))])]) 
def akF{s:jU}{k p:Int}{x:List RI}(h:lR s k p x=false):s.oZ/\x.length<=10:=by
 unfold lR q6 pv at h;simp only[eO,decide_eq_false_iff_not]at h;exact⟨⟨aC,aC⟩,aC⟩
def afi{x:List RI}(gx0:∀ y,y ∈ x->y.jE)(i:Nat):(x.getD i jF).jE:=by
 rw[bh];by_cases h:i<x.length
 .rw [bu h];exact gx0 _ (cA h)
 .rw [cj aC];exact Yh
def afj{x:List RD}(gx0:∀ y,y ∈ x->y.jE)(i:Nat):(x.getD i ko).jE:=by
 rw[bh];by_cases h:i<x.length
 .rw [bu h];exact gx0 _ (cA h)
 .rw [cj aC];exact Pn
def acz{s:jU}(g:s.jE){x:List RI}(gx:∀ i,(x.getD i jF).jE)(hc:sw s x=true):kz s.v/\jh s.v.iy (x.map RI.iv)/\lr s=iV s.v/\jz x=ib (x.map RI.iv):=by
 unfold sw at hc;rw[bF,bF,cC]at hc;obtain⟨h1,h2,h3⟩:=hc;obtain⟨o1,o2⟩:=Ya g h1;unfold sK at h2;rw[bF,cC]at h2;obtain⟨_,b2⟩:=h2;have pa:∀ i,i<x.length->(x.getD i jF).Ok/\(x.getD i jF).all=false:=λi hi=>by
  have:=bM.1 b2 i (bS.2 hi);unfold nW at this;rw[bF]at this;exact⟨s7.1 this.1,by simpa using this.2⟩
 have mv:∀ i,i<x.length->(x.map RI.iv).getD i ia=(x.getD i jF).iv:=λi hi=>by simp[bh,hi]
 have s1:=o1.s1;refine⟨o1,⟨by rw[ck];show x.length=s.iy.toNat;omega,λi hi=>?_⟩,o2,?_⟩
 .have hi:i<x.length:=by simpa using hi
  rw[mv i hi];exact⟨(pa i hi).1.valid,(pa i hi).2⟩
 .rw [<-Vt];congr 1;apply fV;intro i;unfold C8;rw[b6,b6];by_cases hi:i<x.length
  .have h1:=(pa i hi).1;have g1:=gx i;rw[bu hi];rw[bh,bu hi]at h1 g1;exact congrArg some (RI.Ok.eq (x:=x[i]) h1 g1).symm
  .rw [cj aC];rfl
def ahd(s:jU)(x:List RI)(ds:List RD)(k p:Int)(g:s.jE)(gx0:∀ y,y ∈ x->y.jE)(gd0:∀ y,y ∈ ds->y.jE):gW 5 [lr s,jz x,mW ds,iP k,iP p] (bP true):=by
 have gx:=afi gx0;have gd:=afj gd0;cases h1:lR s k p x with
 |true=>exact akL s x ds k p h1
 |false=>
 by_cases h2:10<ds.length
 .exact akM s x ds k p h1 h2
 have h2:ds.length<=10:= aC ;cases h3:((List.range ds.length).any λi=>xM (ds.getD i ko))with
 |true=>exact akN s x ds k p h1 h2 h3
 |false=>
 obtain⟨sm,lW⟩:=akF h1;have lW:x.length<=1000:= aC ;cases hc:(sw s x&&lH p)with
 |false=>
  obtain⟨e,he,hF⟩:=aek s g sm x gx lW p hc;exact akP s x ds k p h1 h2 h3 (akJ s g sm x gx lW ds k p hc) e he hF
 |true=>
  have hF:=aej s g sm x gx lW p hc;have hG:=FU s k p x;have hD:=Mr ds aC;rw[h1]at hG;rw[h3]at hD;rw[bF]at hc;obtain⟨hc,hp⟩:=hc;obtain⟨o1,o2,o3,o4⟩:=acz g gx hc;have zz:8<=p/\p<=512:=by unfold lH at hp;simpa using hp
  obtain⟨p,rfl⟩:=eU (aC:0<=p);rw[o3,o4]at hF hG ⊢;have il:8<=p:= aC ;have ig:p<=512:= aC ;have DZ:ds.length<=1000:= aC ;generalize s.v=S at *
  generalize x.map RI.iv=X at *
  by_cases ha:∀ i,i<ds.length->wU S X ds k p i
  .exact akO S X ds k p o1 o2 gd h2 il ig hG hD hF ha (akG S X ds k p o1 o2 gd DZ il ig ha)
  .obtain ⟨N,n1,n2,n3⟩:∃ N,N<ds.length/\¬wU S X ds k p N/\∀ i,i<N->wU S X ds k p i:=by
    have hex:∃ i,i<ds.length/\@decide (¬wU S X ds k p i) (Classical.propDecidable _)=true:=by
     apply bU;intro q;refine ha λi hi=>?_
     apply bU;intro q2;exact q ⟨i,hi,@a7 _ (Classical.propDecidable _) q2⟩
    obtain⟨N,n1,n2,n3⟩:=rh hex;refine⟨N,n1,@cB _ (Classical.propDecidable _) n2,λi hi=>?_⟩;apply bU;intro q;exact @eE _ (Classical.propDecidable _) (n3 i hi) q
   obtain⟨b1,b2⟩:=tO o1 o2 il ig N n3;have hS:=Zc S _ o1 b1 p il ig k (ds.getD N ko) (gd N);cases hq:wI S (mA S X ds k p N) (ds.getD N ko) k p with
   |inl e=>
    rw[hq]at hS;have he:=((PF o1 b1 il ig).1 e hq).1;have he:e≠0:= aC ;have hR:=akK S X ds k p o1 o2 gd DZ il ig N n1 n3 e he hS;cases hd:BD (ds.getD N ko)with
    |false=>exact Yg S X ds k p o1 o2 gd h2 il ig hG hD hF N n1 n3 e he hR hS _ _ (akZ _ b2 _ (gd N) hd)
    |true=>exact Yg S X ds k p o1 o2 gd h2 il ig hG hD hF N n1 n3 e he hR hS _ _ (He _ b2 _ (gd N) (wF.1 hd))
   |inr q=>
    obtain⟨t1,t2,t3,t4⟩:=De o1 o2 il ig gd b1 ⟨q,hq⟩;have hE:ml (iL (kB ds N) (ds.getD N ko).dy)≠0:=λe=>n2 ⟨⟨q,hq⟩,e⟩
    have kp:¬mZ (iL (kB ds N) (ds.getD N ko).dy):=λq=>hE (B2 q)
    have hA:=Ip _ b2 _ (gd N) t2;have Je:=He _ b2 _ (gd N) t2;rw[Fs kp,DF kp]at hA Je;exact akS S X ds k p o1 o2 gd h2 il ig hG hD hF N n1 n3 (akI S X ds k p o1 o2 gd DZ il ig N n1 n3 ⟨t1,trivial⟩ 9 aE hA) ⟨t1,trivial⟩ _ Je
open Go.ChangeShapes Go.WideShapes Go.ChangeAt
def Ln(W:World)(o:oY)(cs:List Value):Prop:=o.jE/\cs.length=6/\∀ j,j<6->∃ v,cs[j]? = some v/\iC nK nK W ((Ai o).getD j .any) v
def ahu{α:Type}{l:List α}(h:l.length=2):∃ a b,l=[a,b]:=by
 rcases l with _|⟨a,_|⟨b,_|⟨c,l⟩⟩⟩<;>simp at h
 exact⟨a,b,rfl⟩
def ahv{α:Type}{l:List α}(h:l.length=5):∃ a b c d e,l=[a,b,c,d,e]:=by
 rcases l with _|⟨a,_|⟨b,_|⟨c,_|⟨d,_|⟨e,_|⟨f,l⟩⟩⟩⟩⟩⟩<;>simp at h
 exact⟨a,b,c,d,e,rfl⟩
def ahw{α:Type}{l:List α}(h:l.length=6):∃ a b c d e f,l=[a,b,c,d,e,f]:=by
 rcases l with _|⟨a,_|⟨b,_|⟨c,_|⟨d,_|⟨e,_|⟨f,_|⟨g,l⟩⟩⟩⟩⟩⟩⟩<;>simp at h
 exact⟨a,b,c,d,e,f,rfl⟩
section
variable {H:Type} {enc:TypeId×Value->H} {W:World} {fuel:Nat} {cs:List Value} {x:DataW H×List MemPlace}
def Br(h:DataW.trod enc prog W 0 (λ_=>true) true fuel 3 cs=some x):∃ z,cs=[.int .i64 z]/\kA .i64 z:=by
 obtain⟨z,hz,_,hw⟩:=DataW.trod_int underlying3 h;exact⟨z,hz,ZY hw⟩
def aiE(h:DataW.trod enc prog W 0 (λ_=>true) true fuel 93 cs=some x):∃ n d,cs=[.int .i64 n,.int .i64 d]/\kA .i64 n/\kA .i64 d:=by
 obtain⟨xs,n,rfl,rfl,hl,lW,hf⟩:=DataW.trod_struct underlying93 h;have hC:prog.cellsOf 93=2:= aF ;have hI:prog.cellsOf 3=1:= aF ;rw[hC]at hl;obtain⟨c0,c1,rfl⟩:=ahu hl;have h0:=hf 0 _ rfl;have h1:=hf 1 _ rfl;simp only[ff,fg,eh]at h0 h1;simp only[hI,fh,fi,eF,fj]at h0 h1;rw[bu (by rw[lW];decide)]at h0 h1;obtain⟨z0,e0,w0⟩:=Br h0;obtain⟨z1,e1,w1⟩:=Br h1;simp at e0 e1;subst e0 e1;exact⟨z0,z1,rfl,w0,w1⟩
def aiH(h:DataW.trod enc prog W 0 (λ_=>true) true fuel 107 cs=some x):∃ o,Ln W o cs:=by
 obtain⟨xs,n,rfl,rfl,hl,lW,hf⟩:=DataW.trod_struct underlying107 h;have hC:prog.cellsOf 107=6:= aF ;have hR:prog.cellsOf 93=2:= aF ;have hI:prog.cellsOf 3=1:= aF ;rw[hC]at hl;obtain⟨c0,c1,c2,c3,c4,c5,rfl⟩:=ahw hl;have h0:=hf 0 _ rfl;have h1:=hf 1 _ rfl;have h2:=hf 2 _ rfl;have h3:=hf 3 _ rfl;have h4:=hf 4 _ rfl;simp only[ff,fg,eh]at h0 h1 h2 h3 h4;simp only[hI,hR,fh,fi,eF,fj]at h0 h1 h2 h3 h4;rw[bu (by rw[lW];decide)]at h0 h1 h2 h3 h4;obtain⟨z0,e0,w0⟩:=Br h0;obtain⟨z1,e1,w1⟩:=Br h1;obtain⟨z2,e2,w2⟩:=Br h2;obtain⟨z3,e3,w3⟩:=Br h3;obtain⟨z4,z5,e4,w4,w5⟩:=aiE h4;simp at e0 e1 e2 e3 e4;obtain⟨e4,e5⟩:=e4;subst e0 e1 e2 e3 e4 e5;refine⟨⟨z0,z1,z2,z3,z4,z5⟩,⟨w0,w1,w2,w3,w4,w5⟩,rfl,λj hj=>?_⟩;rcases j with _|_|_|_|_|_|j
 all_goals first|exact⟨_,rfl,.v _⟩|omega
def akm(o:oY)(j:Nat)(hj:j<6):((Ai o).getD j .any).one=true/\(((Ai o).getD j .any).mN=true)/\((Ai o).getD j .any).nr 2=true:=by
 rcases j with _|_|_|_|_|_|j
 all_goals first|exact⟨rfl,rfl,rfl⟩|omega
def aiI(h:DataW.trod enc prog W 0 (λ_=>true) true fuel 22 cs=some x):
  ∃ l v,cs=[v]/\(∀ y,y ∈ l->y.jE)/\iC nK nK W (ky l) v:=by
 have hC:prog.cellsOf 107=6:= aF ;rcases Deep.open_slice underlying22 h with⟨rfl,_⟩|⟨a,len,cap,m,n,D,Pl,rfl,hb,hl,hm,rY,rfl,hx⟩
 .exact ⟨[],_,rfl,(λy hy=>by cases hy),.sl true 0 6 _ none 0 (λ_ _=>.bool false) (bg _) aE (λ_=>rfl) (λi j hi=>absurd hi (bj i)) (λi j hi=>absurd hi (bj i)) (λi j hi=>absurd hi (bj i)) (λi j hi=>absurd hi (bj i))⟩
 .simp only[bB]at rY;subst rY;have ex:∀ i,∃ y:oY,i<len->∃ cs',W.cells? 0 (a.add (i*6)) 6=some cs'/\Ln W y cs':=by
   intro i;by_cases hi:i<len
   .obtain ⟨cs',h1,h2⟩:=hx i aC ;rw[hC]at h1;obtain⟨y,hy⟩:=aiH h2;exact⟨y,λ_=>⟨cs',h1,hy⟩⟩
   .exact ⟨lI,λh=>absurd h hi⟩
  let X:Nat->oY:=λi=>Classical.choose (ex i)
  have hX:∀ i,i<len->∃ cs',W.cells? 0 (a.add (i*6)) 6=some cs'/\Ln W (X i) cs':=λi=>cO (ex i)
  have hlen:((List.range len).map X).length=len:= aH ;refine⟨(List.range len).map X,_,rfl,?_,?_⟩
  .intro y hy;obtain⟨i,hi,rfl⟩:=cX.1 hy;obtain⟨cs',_,h2⟩:=hX i (bS.1 hi);exact h2.1
  .have y9:∀ i,i<len->((List.range len).map X).getD i lI=X i:=by
    intro i hi;rw[bh,b6,gS hi];rfl
   have:=KB (W:=W) (a:=a) (len:=len) (cap:=m) (nl:=true) (λi j=>(Ai (((List.range len).map X).getD i lI)).getD j .any) hl hm (show 0<6 by decide)
    (λi j _ hj=>let⟨h1,h2,h3⟩:=akm (((List.range len).map X).getD i lI) j hj;⟨h1,λ_=>h2,h3⟩)
    (λi hi=>by
     obtain⟨cs',h1,h2,_,h3⟩:=hX i hi;exact⟨cs',h1,λj hj=>by rw[y9 i hi];exact h3 j hj⟩)
   unfold ky;rw[hlen];exact this
def akk:lI.jE:=by constructor<;>(show kA .i64 0;unfold kA;decide)
def My{α:Type}{P:α->Prop}{l:List α}{d:α}(h:∀ y,y ∈ l->P y)(hd:P d)(i:Nat):P (l.getD i d):=by
 by_cases hi:i<l.length
 .rw [bh,bu hi];exact h _ (cA hi)
 .rw [bh,cj aC];exact hd
def Qc(W:World)(s:jU)(cs:List Value):Prop:=s.jE/\cs.length=5/\∀ j,j<5->∃ v,cs[j]? = some v/\iC nK nK W ((Pj s).getD j .any) v
def aiK(h:DataW.trod enc prog W 0 (λ_=>true) true fuel 25 cs=some x):
 ∃ (n:Int) (gZ:List oY) (iu:List Int) (v w:Value),cs=[.int .i64 n,v,w]/\kA .i64 n/\(∀ y,y ∈ gZ->y.jE)/\(∀ z,z ∈ iu->kA .i64 z)/\iC nK nK W (ky gZ) v/\iC nK nK W (kD iu) w:=by
 obtain⟨xs,n,rfl,rfl,hl,lW,hf⟩:=DataW.trod_struct underlying25 h;have hC:prog.cellsOf 25=3:= aF ;have hI:prog.cellsOf 3=1:= aF ;have hO:prog.cellsOf 22=1:= aF ;have hU:prog.cellsOf 23=1:= aF ;rw[hC]at hl;obtain⟨c0,c1,c2,rfl⟩:=VV hl;have h0:=hf 0 _ rfl;have h1:=hf 1 _ rfl;have h2:=hf 2 _ rfl;simp only[ff,fg,eh]at h0 h1 h2;simp only[hI,hO,hU,fh,fi,eF,fj]at h0 h1 h2;rw[bu (by rw[lW];decide)]at h0 h1 h2;obtain⟨z0,e0,w0⟩:=Br h0;obtain⟨gZ,v,e1,g1,r1⟩:=aiI h1;obtain⟨iu,w,e2,g2,r2⟩:=aiC (k:=.i64) (λ_=>rfl) underlying23 underlying3 hI h2;simp at e0 e1 e2;subst e0 e1 e2;exact⟨z0,gZ,iu,_,_,rfl,w0,g1,g2,r1,r2⟩
def aiJ(h:DataW.trod enc prog W 0 (λ_=>true) true fuel 28 cs=some x)(iB:∀ p ∈ x.2,p.block<W.heap.size):∃ s,Qc W s cs:=by
 obtain⟨xs,n,rfl,rfl,hl,lW,hf⟩:=DataW.trod_struct underlying28 h;have hC:prog.cellsOf 28=5:= aF ;have hT:prog.cellsOf 25=3:= aF ;have hI:prog.cellsOf 3=1:= aF ;have hP:prog.cellsOf 26=1:= aF ;rw[hC]at hl;obtain⟨c0,c1,c2,c3,c4,rfl⟩:=ahv hl;have h0:=hf 0 _ rfl;have h1:=hf 1 _ rfl;have h2:=hf 2 _ rfl;simp only[ff,fg,eh]at h0 h1 h2;simp only[hT,hI,hP,fh,fi,eF,fj]at h0 h1 h2;rw[bu (by rw[lW];decide)]at h0 h1 h2;obtain⟨z0,gZ,iu,v,w,e0,w0,g1,g2,r1,r2⟩:=aiK h0;obtain⟨z1,e1,w1⟩:=Br h1;obtain⟨ps,u,e2,g3,r3⟩:=W2 h2 (λp hp=>iB p (dj.2 ⟨_,cA _,hp⟩));simp at e0 e1 e2;obtain⟨e0,e0b,e0c⟩:=e0;subst e0 e0b e0c e1 e2;refine⟨⟨z0,gZ,iu,z1,ps⟩,⟨w0,My g1 akk,My g2 (by unfold kA;decide),w1,My g3 Yh⟩,rfl,λj hj=>?_⟩;rcases j with _|_|_|_|_|j
 .exact ⟨_,rfl,.v _⟩
 .exact ⟨_,rfl,r1⟩
 .exact ⟨_,rfl,r2⟩
 .exact ⟨_,rfl,.v _⟩
 .exact ⟨_,rfl,r3⟩
 .omega
end
def amy{W:World}{x:jU}{cs:Array Value}(h:Qc W x cs.toList):iC nK nK W (lr x) (.agg cs):=by
 obtain⟨_,hl,h⟩:=h;have:=iC.agg (bs:=nK) (br:=nK) (w:=W) (Pj x) cs.toList (by rw[hl];rfl) (λi p v h1 h2=>by
  have hi:i<5:=by have:=(b7.1 h2).1;omega
  obtain⟨v',h3,h4⟩:=h i hi;rw[h2]at h3;cases h3;rw[bh,h1]at h4;exact h4)
 unfold lr;exact this
section
variable {H:Type} {enc:TypeId×Value->H} {W:World} {fuel:Nat} {cs:List Value} {x:DataW H×List MemPlace}
def ajv(o:RD)(j:Nat)(hj:j<3):((By o).getD j .any).one=true/\(((By o).getD j .any).mN=true)/\((By o).getD j .any).nr 2=true:=by
 rcases j with _|_|_|j
 all_goals first|exact⟨rfl,rfl,rfl⟩|omega
def aiF(h:DataW.trod enc prog W 0 (λ_=>true) true fuel 66 cs=some x)(iB:∀ p ∈ x.2,p.block<W.heap.size):
  ∃ l v,cs=[v]/\(∀ y,y ∈ l->y.jE)/\iC nK nK W (mW l) v:=by
 have hC:prog.cellsOf 31=3:= aF ;rcases Deep.open_slice underlying66 h with⟨rfl,_⟩|⟨a,len,cap,m,n,D,Pl,rfl,hb,hl,hm,rY,rfl,hx⟩
 .exact ⟨[],_,rfl,(λy hy=>by cases hy),.sl true 0 3 _ none 0 (λ_ _=>.bool false) (bg _) aE (λ_=>rfl) (λi j hi=>absurd hi (bj i)) (λi j hi=>absurd hi (bj i)) (λi j hi=>absurd hi (bj i)) (λi j hi=>absurd hi (bj i))⟩
 .simp only[bB]at rY;subst rY;have ex:∀ i,∃ y:RD,i<len->∃ cs',W.cells? 0 (a.add (i*3)) 3=some cs'/\Ll W y cs':=by
   intro i;by_cases hi:i<len
   .obtain ⟨cs',h1,h2⟩:=hx i aC ;rw[hC]at h1;obtain⟨y,hy⟩:=OE h2 (λp hp=>iB p (List.mem_append_right _ (dj.2 ⟨i,bS.2 aC,hp⟩)));exact⟨y,λ_=>⟨cs',h1,hy⟩⟩
   .exact ⟨ko,λh=>absurd h hi⟩
  let X:Nat->RD:=λi=>Classical.choose (ex i)
  have hX:∀ i,i<len->∃ cs',W.cells? 0 (a.add (i*3)) 3=some cs'/\Ll W (X i) cs':=λi=>cO (ex i)
  have hlen:((List.range len).map X).length=len:= aH ;refine⟨(List.range len).map X,_,rfl,?_,?_⟩
  .intro y hy;obtain⟨i,hi,rfl⟩:=cX.1 hy;obtain⟨cs',_,h2⟩:=hX i (bS.1 hi);exact h2.1
  .have y9:∀ i,i<len->((List.range len).map X).getD i ko=X i:=by
    intro i hi;rw[bh,b6,gS hi];rfl
   have:=KB (W:=W) (a:=a) (len:=len) (cap:=m) (nl:=true) (λi j=>(By (((List.range len).map X).getD i ko)).getD j .any) hl hm (show 0<3 by decide)
    (λi j _ hj=>let⟨h1,h2,h3⟩:=ajv (((List.range len).map X).getD i ko) j hj;⟨h1,λ_=>h2,h3⟩)
    (λi hi=>by
     obtain⟨cs',h1,h2,_,h3⟩:=hX i hi;exact⟨cs',h1,λj hj=>by rw[y9 i hi];exact h3 j hj⟩)
   unfold mW;rw[hlen];exact this
end
def adX:Value:=.agg #[.int .i64 0,.slice none 0 0,.slice none 0 0,.int .i64 0,.slice none 0 0]
def adY{H:Type}:DataW H:=.agg [.agg [.lit (.int .i64 0),.nil,.nil],.lit (.int .i64 0),.nil]
def Df:Array Value:=#[adX,.slice none 0 0,.slice none 0 0,.int .i64 0,.int .i64 0]
set_option maxRecDepth 100000 in
def akQ(H:Type)(enc:TypeId×Value->H)(W:World)(base:Nat)(args:Array Value)(ds gs:List (DataW H))(before:List MemPlace)
 (lq:∀ (j:Nat) t v,Tryz.f5.params[j]? = some t->args[j]? = some v->Value.okWide prog W .any base t v)
 (hW:DataW.Whole enc prog Tryz.f5.params.toList Rows.stepRunsSpec.vars false W args.toList ds gs before) (hL:laidMetH prog Rows.stepRunsRow.laid W):
 Calls prog 5 args W λe W'=>∃ v,e = .returned v/\Rows.stepRunsSpec.post enc prog Tryz.f5 false true false false W args v W':=by
 have Jn:=hW;obtain⟨p,q,uR,hV,rfl,hfz,hnd⟩:=hW;have hA:DataW.TrodAll enc prog W 0 (λ_=>true) true Tryz.f5.params.toList args.toList ds p:=uR;rw[Tryz.params5]at hA lq;obtain⟨v0,vs0,d0,ds0,p0,q0,Ef,rfl,rfl,h0,uR⟩:=trodAll_cons hA;obtain⟨v1,vs1,d1,ds1,p1,q1,rfl,rfl,rfl,h1,A0⟩:=trodAll_cons uR;obtain⟨v2,vs2,d2,ds2,p2,q2,rfl,rfl,rfl,h2,Je⟩:=trodAll_cons A0;obtain⟨v3,vs3,d3,ds3,p3,q3,rfl,rfl,rfl,h3,hA3⟩:=trodAll_cons Je;obtain⟨v4,vs4,d4,ds4,p4,q4,rfl,rfl,rfl,h4,hA4⟩:=trodAll_cons hA3;obtain⟨rfl,rfl,rfl⟩:=trodAll_nil hA4;obtain rfl:args = #[v0,v1,v2,v3,v4]:=by cases args;simp_all
 obtain⟨rfl,rfl⟩:=trodVars_none hV;obtain⟨cs0,rfl,an5⟩:=okWide_struct underlying28 (lq 0 28 v0 rfl rfl);obtain⟨a1,len1,cap1,rfl⟩:=okWide_slice underlying26 (lq 1 26 v1 rfl rfl);obtain⟨a2,len2,cap2,rfl⟩:=okWide_slice underlying66 (lq 2 66 v2 rfl rfl);obtain⟨x3,rfl,rfl,rfl,b3⟩:=open_int underlying3 (lq 3 3 v3 rfl rfl) h3;obtain⟨x4,rfl,rfl,rfl,b4⟩:=open_int underlying3 (lq 4 3 v4 rfl rfl) h4;have h0k:=h0;obtain⟨fuel0,hf0⟩:=h0;have h1k:=h1;obtain⟨fuel1,M5⟩:=h1;have h2k:=h2;obtain⟨fuel2,M6⟩:=h2;clear uR;have D5:∀ x ∈ p0,x.block<W.heap.size:=λx hx=>Jn.lt x (by simp[hx])
 have D6:∀ x ∈ p1,x.block<W.heap.size:=λx hx=>Jn.lt x (by simp[hx])
 have JB:∀ x ∈ p2,x.block<W.heap.size:=λx hx=>Jn.lt x (by simp[hx])
 obtain⟨x0,g0⟩:=aiJ hf0 D5;obtain⟨x1,w1,Gn,g1,r1⟩:=W2 M5 D6;obtain rfl:Value.slice a1 len1 cap1=w1:=by
  have:(Value.slice a1 len1 cap1).cells.toList=[Value.slice a1 len1 cap1]:=rfl;rw[this]at Gn;simpa using Gn
 obtain⟨x2,w2,r7,g2,r2⟩:=aiF M6 JB;obtain rfl:Value.slice a2 len2 cap2=w2:=by
  have:(Value.slice a2 len2 cap2).cells.toList=[Value.slice a2 len2 cap2]:=rfl;rw[this]at r7;simpa using r7
 have kP:=(ahd x0 x1 x2 x3 x4 g0.1 g1 g2).run W nK [.agg cs0,.slice a1 len1 cap1,.slice a2 len2 cap2,.int .i64 x3,.int .i64 x4] (amH rfl hL) (λ_ h=>h.elim) (.cons (amy (cs:=cs0) g0) (.cons r1 (.cons r2 (.cons (.v _) (.cons (.v _) (.nil _ _ _))))));refine kP.mono λr W' ⟨v,hr,hb,rZ⟩=>?_
 obtain rfl:=iC.kC rZ;subst hr;refine⟨_,rfl,_,_,_,[],p0++(p1++(p2++([]++([])))),[],Jn,?_,?_,rfl,hb.frame _,λh=>by cases h⟩
 .exact trodAll_mk1 (shut_bool underlying4 _)
 .exact ⟨p0,_,Below.trod Gy aF (cB aF) h0k hb D5,⟨p1,_,Below.trod Gy aF (cB aF) h1k hb D6,⟨p2,_,Below.trod Gy aF (cB aF) h2k hb JB,⟨[],_,Below.trod Gy aF (cB aF) h3 hb (λ_ h=>by cases h),trodAll_mk1 (Below.trod Gy aF (cB aF) h4 hb (λ_ h=>by cases h)),rfl⟩,rfl⟩,rfl⟩,rfl⟩
def akU(os:Os):laidMet prog Rows.stepRunsRow.laid ((NT os Df).forCall (λ_ _=>0) ⟨#[],Df,[]⟩).memory:=
 laidMet_of_run' 8 aF aF 
def akW(os:Os){H:Type}(enc:TypeId×Value->H):∃ places,DataW.whole enc prog ((NT os Df).forCall (λ_ _=>0) ⟨#[],Df,[]⟩).memory Tryz.f5.params.toList Rows.stepRunsSpec.vars false Df.toList 8=some ([adY,.nil,.nil,.lit (.int .i64 0),.lit (.int .i64 0)],[],places):=
 ⟨[],aF⟩
set_option maxRecDepth 100000 in
def akT(os:Os)(started:os.Started)(H:Type)(enc:TypeId×Value->H)(F:Stop.Interp):
  ReturnsInHanded {} Tryz.checked os 5 .any ((OpenSpec.ofChange Rows.stepRunsSpec).preRow enc prog Tryz.f5 Rows.stepRunsRow.domain false Rows.stepRunsRow.laid) (((OpenSpec.ofChange Rows.stepRunsSpec).at F).post enc prog Tryz.f5 false true false false):=by
 obtain⟨places,hx⟩:=akW os enc;refine returnsInHanded_of_row (C:=Tryz.checked) (s:=OpenSpec.ofChange Rows.stepRunsSpec) own started aF func5
  (witness_row_at (enc:=enc) (C:=Tryz.checked) false (NT os Df) Df rfl aF aF aF 
   (OpenSpec.preRow_of_cond 8 hx aF (λk hk=>by cases hk) aF (akU os))) ?_
 intro W base args ds gs before lq hW _ _ _ hL _ _;exact akQ H enc W base args ds gs before lq hW hL
set_option maxHeartbeats 100000000 in
def akR:joinedFacts prog 5 Tryz.f5 (OpenSpec.ofChange Rows.stepRunsSpec).bare Rows.stepRunsRow=true:=by
 unfold joinedFacts;simp only[bF]
 and_intros<;>decide +kernel
def akX:Rows.StepRunsSaid:=
 OpenClaim.holds_of_cond 5 Tryz.f5 rfl rfl rfl rfl rfl rfl rfl ⟨rfl,rfl,rfl,rfl,rfl⟩ rfl rfl rfl rfl rfl aF func5 akR
  (cB aF) (by unfold Func.isWrapper;first|(rw[a6 aL];kernel_rfl)|(rw[aZ aL];exact⟨rfl,rfl⟩))
  (λos started H enc _ F=>by rw[OpenClaim.pre_eq_preRow];exact akT os started H enc F)
def akV (f:FuncId) (fn:Func) (hf:Tryz.pinned.checked.prog.funcNamed "flowpipe/flowpipelaw29.StepRuns" = some f) (hfn:Tryz.pinned.checked.prog.funcs[f]? = some fn):
 false=Tryz.pinned.checked.prog.looks []/\∀ (j:Nat) t,fn.params[j]? = some t->Tryz.pinned.checked.prog.wantsStandIn t=false:=by
 obtain rfl:f=5:=aox ((show prog.funcNamed "flowpipe/flowpipelaw29.StepRuns" = some 5 by kernel_rfl).symm.trans hf) |>.symm
 obtain rfl:fn=Tryz.f5:=(aox (func5.symm.trans hfn)).symm;refine⟨aF,λj t ht=>?_⟩;rw[Tryz.params5]at ht;have:t=28\/t=26\/t=66\/t=3:=by
  have:=dG ht;simp only[gF,cV,List.not_mem_nil,or_false]at this;rcases this with h|h|h|h|h<;>subst h<;>simp
 rcases this with rfl|rfl|rfl|rfl
 .exact (show prog.wantsStandIn 28=false by kernel_rfl)
 .exact (show prog.wantsStandIn 26=false by kernel_rfl)
 .exact (show prog.wantsStandIn 66=false by kernel_rfl)
 .exact (show prog.wantsStandIn 3=false by kernel_rfl)
theorem runs_card:Rows.StepRunsCardSaid:=
 Claim7.holds_tied_plain_at .later [] _ _ _ _ akX (λ_ h=>by cases h) aF (λ_ h=>by cases h) stepRuns_row_tie rfl ⟨rfl,rfl⟩ aF rfl akV (afh aeq rfl)
end Go.Proofs.YtgdahmmlddfimaaGreatDoor
