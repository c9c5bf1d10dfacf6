/- Lemmas that the last file uses. -/
import Derived.Test.YtkjkcjhacddojaaGreatDoorM02
set_option linter.unusedSimpArgs false
set_option linter.unusedVariables false
set_option linter.defProp false
set_option maxHeartbeats 4000000
open Go.Proofs.Tryz
namespace Go.Proofs.YtkjkcjhacddojaaGreatDoor
open Go.RowKit Fp Pu
open Classical in
noncomputable def Fp.tJ(d:Dy)(k:Int):Dy:=if oB (canon d.neg d.m (d.e+k))then canon d.neg d.m (d.e+k)else jD
open Classical in
noncomputable def Fp.C4(d:Dy)(k:Int):Int:=if oB (canon d.neg d.m (d.e+k))then 0 else 9
def YA(d:Dy)(k:Int):(tJ d k).ik:=by
 unfold tJ;split
 .rename_i h;exact⟨ru _ _ _,h⟩
 .exact q6
noncomputable def Fp.mX(x:Iv)(k:Int):Iv:=if x.all then iu else kX (tJ x.lo k) (C4 x.lo k) (tJ x.hi k) (C4 x.hi k)
def Fp.q8(x:Iv):Iv:=if x.all then x else⟨iU (kS x),kS x,false⟩
def Fp.qn(n:Int):Dy:=canon false 1 n
def wA{n:Int}(h:n.natAbs<4294967296):(iS n).ik:=uo (sA h)
def Di{x:Iv}(hx:x.ik):(q8 x).ik:=by
 unfold q8;cases kN:x.all
 .have he:=hx.kp;have hm:=xq he.1 he.2;simp only[bS,bJ];refine .inr ⟨rfl,qA hm,hm,?_⟩;show jK (iU (kS x)) (kS x)<=0;rw[qL,pz];obtain⟨a1,a2,_⟩:=CC hx.q;have:=hx.q
  grind
 .exact hx
def amp{d:Dy}{k:Int}(h:C4 d k=0):tJ d k=canon d.neg d.m (d.e+k):=by
 unfold C4 at h;unfold tJ;split at h
 .rename_i h1;rw[bw h1]
 .cases h
def BD{d:Dy}{k:Int}(h:C4 d k=0):(tJ d k).q=d.q*P2 k:=by
 rw[amp h,qW,qX d,qF];cases d.neg<;>simp<;>grind
def G7{x:Iv}(hx:x.ik)(k:Int):(mX x k).ik:=by
 unfold mX;split
 .exact mD
 .unfold kX;split
  .exact mD
  .rename_i h;refine .inr ⟨rfl,YA _ _,YA _ _,?_⟩;rw[qL,BD aE,BD aE,wu];exact hx.q
def PI{x:Iv}{r:Rat}(h:x.ki r)(k:Int):(mX x k).ki (r*P2 k):=by
 unfold mX;split
 .exact .inl rfl
 .rename_i ha;unfold kX;split
  .exact .inl rfl
  .obtain ⟨h1,h2⟩:=h.kp (by simpa using ha);refine .inr ⟨?_,?_⟩
   .show (tJ x.lo k).q<=_;rw[BD aE,wu];exact h1
   .show _<=(tJ x.hi k).q;rw[BD aE,wu];exact h2
def U9(nl:Bool)(n N:Nat)(el:Nat->Nat->E)(g:FuncId)(cap:List E)(i:Nat):PS:=⟨19,false,[(8,.e (iP i)),(7,.e (iP n)),(0,.e (.sl nl n 1 el)),(1,.e (.fn g cap))],[]⟩
def U8(nl:Bool)(n:Nat)(el:Nat->Nat->E)(g:FuncId)(cap:List E)(i:Nat):PS:=⟨19,false,[(8,.e (iP i)),(7,.e (iP n)),(0,.e (.sl nl n 1 el)),(1,.e (.fn g cap))],[]⟩
def VB(nl:Bool)(n:Nat)(el:Nat->Nat->E)(g:FuncId)(cap:List E)(i:Nat):PS:=⟨19,false,[(8,.e (iP i)),(7,.e (iP n)),(0,.e (.sl nl n 1 el)),(1,.e (.fn g cap))],[]⟩
def Vm(nl:Bool)(n N:Nat)(el:Nat->Nat->E)(g:FuncId)(cap:List E)(i:Nat):PS:=⟨19,false,[(8,.e (iP i)),(7,.e (iP n)),(0,.e (.sl nl n 7 el)),(1,.e (.fn g cap))],[]⟩
def Vl(nl:Bool)(n:Nat)(el:Nat->Nat->E)(g:FuncId)(cap:List E)(i:Nat):PS:=⟨19,false,[(8,.e (iP i)),(7,.e (iP n)),(0,.e (.sl nl n 7 el)),(1,.e (.fn g cap))],[]⟩
def Yn(nl:Bool)(n N:Nat)(el:Nat->Nat->E)(g:FuncId)(cap:List E)(i:Nat):PS:=⟨19,false,[(8,.e (iP i)),(7,.e (iP n)),(0,.e (.sl nl n 1 el)),(1,.e (.fn g cap))],[]⟩
def Ym(nl:Bool)(n:Nat)(el:Nat->Nat->E)(g:FuncId)(cap:List E)(i:Nat):PS:=⟨19,false,[(8,.e (iP i)),(7,.e (iP n)),(0,.e (.sl nl n 1 el)),(1,.e (.fn g cap))],[]⟩
def rj{p:Nat->Bool}{n:Nat}(h:∃ i,i<n/\p i=true):∃ N,N<n/\p N=true/\∀ i,i<N->p i=false:=by
 induction n with
 |zero=>obtain⟨i,h1,_⟩:=h;omega
 |succ n ih=>
  by_cases hn:∃ i,i<n/\p i=true
  .obtain ⟨N,h1,h2,h3⟩:=ih hn;exact⟨N,aE,h2,h3⟩
  .obtain ⟨i,h1,h2⟩:=h;have:i=n:=by
    by_cases q:i=n
    .exact q
    .exact absurd ⟨i,aE,h2⟩ hn
   subst this;exact⟨i,h1,h2,λj hj=>by simpa using λq=>hn ⟨j,hj,q⟩⟩
def agZ(nl:Bool)(n:Nat)(el:Nat->Nat->E)(g:FuncId)(cap:List E)(p:Nat->Bool)(hp:∀ i,i<n->gZ g ((el i 0)::cap) (bP (p i)))(N:Nat)(hl:n<=1000000)(mS:N<n)(iQ:∀ i,i<N->p i=false)(hN:p N=true):gZ 284 [.sl nl n 1 el,.fn g cap] (iP N):=
 an call284 func284 (af [.s (Sp.jv (U9 nl n N el g cap) 0 N aE (λi hi rX=>by
    exact iG (af [tT 9 ((i:Int)<n) aE,iX (i:Int) n aE,.c (hp i aE:gZ g ((el i 0)::cap) _),ai 16 (p i) (iQ i aE),iz ((i:Int)+1) aE]) aI)
  (λhi=>by
    exact iG (af [tT 9 ((N:Int)<n) aE,iX (N:Int) n aE,.c (hp N aE:gZ g ((el N 0)::cap) _),ah 16 (p N) hN]) aI) aM:ju 2 f284 (U9 nl n N el g cap 0) .ret ⟨19,false,[(4,.e (iP N))],[]⟩) .nil]) 
def ag1(nl:Bool)(n:Nat)(el:Nat->Nat->E)(g:FuncId)(cap:List E)(p:Nat->Bool)(hp:∀ i,i<n->gZ g ((el i 0)::cap) (bP (p i)))(hl:n<=1000000)(iQ:∀ i,i<n->p i=false):gZ 284 [.sl nl n 1 el,.fn g cap] (iP (-1)):=
 an call284 func284 (af [.s (Sp.jv (U8 nl n el g cap) 0 n aE (λi hi rX=>by
    exact iG (af [tT 9 ((i:Int)<n) aE,iX (i:Int) n aE,.c (hp i aE:gZ g ((el i 0)::cap) _),ai 16 (p i) (iQ i aE),iz ((i:Int)+1) aE]) aI)
  (λhi=>by
    exact iG (af [tF 9 ((n:Int)<n) aE]) aI) aM:ju 2 f284 (U8 nl n el g cap 0) (.exit 0) ⟨19,false,[],[]⟩) .nil]) 
def ag0(nl:Bool)(n:Nat)(el:Nat->Nat->E)(g:FuncId)(cap:List E)(p:Nat->Bool)(hp:∀ i,i<n->gZ g ((el i 0)::cap) (bP (p i)))(N:Nat)(hl:n<=1000000)(mS:N<n)(iQ:∀ i,i<N->p i=false)(hN:p N=true):gZ 232 [.sl nl n 1 el,.fn g cap] (bP true):=
 an call232 func232 (af [ag [.sl nl n 1 el,.fn g cap] (agZ nl n el g cap p hp N hl mS iQ hN),tT 8 (0<=(N:Int)) aE]) 
def NL(nl:Bool)(n:Nat)(el:Nat->Nat->E)(g:FuncId)(cap:List E)(p:Nat->Bool)(hp:∀ i,i<n->gZ g ((el i 0)::cap) (bP (p i)))(hl:n<=1000000)(iQ:∀ i,i<n->p i=false):gZ 232 [.sl nl n 1 el,.fn g cap] (bP false):=
 an call232 func232 (af [ag [.sl nl n 1 el,.fn g cap] (ag1 nl n el g cap p hp hl iQ),ai 8 (decide ((0:Int)<=(-1))) aG]) 
def agY(nl:Bool)(n:Nat)(el:Nat->Nat->E)(g:FuncId)(cap:List E)(p:Nat->Bool)(hp:∀ i,i<n->gZ g ((el i 0)::cap) (bP (p i)))(hl:n<=1000000):gZ 232 [.sl nl n 1 el,.fn g cap] (bP ((List.range n).any p)):=by
 by_cases h:∃ i,i<n/\p i=true
 .obtain ⟨N,h1,h2,h3⟩:∃ N,N<n/\p N=true/\∀ i,i<N->p i=false:=rj h;refine(ag0 nl n el g cap p hp N hl h1 h3 h2).ko (.iM ?_);rw[dH.2 ⟨N,bY.2 h1,h2⟩]
 .refine (NL nl n el g cap p hp hl λi hi=>by simpa using λq=>h ⟨i,hi,q⟩).ko (.iM ?_);rw[dx.2 λi hi q=>h ⟨i,bY.1 hi,q⟩]
def ahM(nl:Bool)(n:Nat)(el:Nat->Nat->E)(g:FuncId)(cap:List E)(p:Nat->Bool)(hp:∀ i,i<n->gZ g ((el i 0)::cap) (bP (p i)))(hl:n<=1000000)(iQ:∀ i,i<n->p i=false):gZ 358 [.sl nl n 1 el,.fn g cap] (iP (-1)):=
 an call358 func358 (af [.s (Sp.jv (VB nl n el g cap) 0 n aE (λi hi rX=>by
    exact iG (af [tT 9 ((i:Int)<n) aE,iX (i:Int) n aE,.c (hp i aE:gZ g ((el i 0)::cap) _),ai 16 (p i) (iQ i aE),iz ((i:Int)+1) aE]) aI)
  (λhi=>by
    exact iG (af [tF 9 ((n:Int)<n) aE]) aI) aM:ju 2 f358 (VB nl n el g cap 0) (.exit 0) ⟨19,false,[],[]⟩) .nil]) 
def VE(nl:Bool)(n:Nat)(el:Nat->Nat->E)(g:FuncId)(cap:List E)(p:Nat->Bool)(hp:∀ i,i<n->gZ g ((el i 0)::cap) (bP (p i)))(hl:n<=1000000)(iQ:∀ i,i<n->p i=false):gZ 309 [.sl nl n 1 el,.fn g cap] (bP false):=
 an call309 func309 (af [ag [.sl nl n 1 el,.fn g cap] (ahM nl n el g cap p hp hl iQ),ai 8 (decide ((0:Int)<=(-1))) aG]) 
def ahf(nl:Bool)(n:Nat)(el:Nat->Nat->E)(g:FuncId)(cap:List E)(p:Nat->Bool)(hp:∀ i,i<n->gZ g ((.agg [el i 0,el i 1,el i 2,el i 3,el i 4,el i 5,el i 6])::cap) (bP (p i)))(N:Nat)(hl:n<=1000000)(mS:N<n)(iQ:∀ i,i<N->p i=false)(hN:p N=true):gZ 87 [.sl nl n 7 el,.fn g cap] (iP N):=
 an call87 func87 (af [.s (Sp.jv (Vm nl n N el g cap) 0 N aE (λi hi rX=>by
    exact iG (af [tT 9 ((i:Int)<n) aE,iX (i:Int) n aE,.c (hp i aE:gZ g ((.agg [el i 0,el i 1,el i 2,el i 3,el i 4,el i 5,el i 6])::cap) _),ai 16 (p i) (iQ i aE),iz ((i:Int)+1) aE]) aI)
  (λhi=>by
    exact iG (af [tT 9 ((N:Int)<n) aE,iX (N:Int) n aE,.c (hp N aE:gZ g ((.agg [el N 0,el N 1,el N 2,el N 3,el N 4,el N 5,el N 6])::cap) _),ah 16 (p N) hN]) aI) aM:ju 2 Tryz.f87 (Vm nl n N el g cap 0) .ret ⟨19,false,[(4,.e (iP N))],[]⟩) .nil]) 
def ahh(nl:Bool)(n:Nat)(el:Nat->Nat->E)(g:FuncId)(cap:List E)(p:Nat->Bool)(hp:∀ i,i<n->gZ g ((.agg [el i 0,el i 1,el i 2,el i 3,el i 4,el i 5,el i 6])::cap) (bP (p i)))(hl:n<=1000000)(iQ:∀ i,i<n->p i=false):gZ 87 [.sl nl n 7 el,.fn g cap] (iP (-1)):=
 an call87 func87 (af [.s (Sp.jv (Vl nl n el g cap) 0 n aE (λi hi rX=>by
    exact iG (af [tT 9 ((i:Int)<n) aE,iX (i:Int) n aE,.c (hp i aE:gZ g ((.agg [el i 0,el i 1,el i 2,el i 3,el i 4,el i 5,el i 6])::cap) _),ai 16 (p i) (iQ i aE),iz ((i:Int)+1) aE]) aI)
  (λhi=>by
    exact iG (af [tF 9 ((n:Int)<n) aE]) aI) aM:ju 2 Tryz.f87 (Vl nl n el g cap 0) (.exit 0) ⟨19,false,[],[]⟩) .nil]) 
def ahg(nl:Bool)(n:Nat)(el:Nat->Nat->E)(g:FuncId)(cap:List E)(p:Nat->Bool)(hp:∀ i,i<n->gZ g ((.agg [el i 0,el i 1,el i 2,el i 3,el i 4,el i 5,el i 6])::cap) (bP (p i)))(N:Nat)(hl:n<=1000000)(mS:N<n)(iQ:∀ i,i<N->p i=false)(hN:p N=true):gZ 40 [.sl nl n 7 el,.fn g cap] (bP true):=
 an call40 func40 (af [ag [.sl nl n 7 el,.fn g cap] (ahf nl n el g cap p hp N hl mS iQ hN),tT 8 (0<=(N:Int)) aE]) 
def Cy(nl:Bool)(n:Nat)(el:Nat->Nat->E)(g:FuncId)(cap:List E)(p:Nat->Bool)(hp:∀ i,i<n->gZ g ((.agg [el i 0,el i 1,el i 2,el i 3,el i 4,el i 5,el i 6])::cap) (bP (p i)))(hl:n<=1000000)(iQ:∀ i,i<n->p i=false):gZ 40 [.sl nl n 7 el,.fn g cap] (bP false):=
 an call40 func40 (af [ag [.sl nl n 7 el,.fn g cap] (ahh nl n el g cap p hp hl iQ),ai 8 (decide ((0:Int)<=(-1))) aG]) 
def Cx(nl:Bool)(n:Nat)(el:Nat->Nat->E)(g:FuncId)(cap:List E)(p:Nat->Bool)(hp:∀ i,i<n->gZ g ((.agg [el i 0,el i 1,el i 2,el i 3,el i 4,el i 5,el i 6])::cap) (bP (p i)))(hl:n<=1000000):gZ 40 [.sl nl n 7 el,.fn g cap] (bP ((List.range n).any p)):=by
 by_cases h:∃ i,i<n/\p i=true
 .obtain ⟨N,h1,h2,h3⟩:∃ N,N<n/\p N=true/\∀ i,i<N->p i=false:=rj h;refine(ahg nl n el g cap p hp N hl h1 h3 h2).ko (.iM ?_);rw[dH.2 ⟨N,bY.2 h1,h2⟩]
 .refine (Cy nl n el g cap p hp hl λi hi=>by simpa using λq=>h ⟨i,hi,q⟩).ko (.iM ?_);rw[dx.2 λi hi q=>h ⟨i,bY.1 hi,q⟩]
def alP(nl:Bool)(n:Nat)(el:Nat->Nat->E)(g:FuncId)(cap:List E)(p:Nat->Bool)(hp:∀ i,i<n->gZ g ((el i 0)::cap) (bP (p i)))(N:Nat)(hl:n<=1000000)(mS:N<n)(iQ:∀ i,i<N->p i=false)(hN:p N=true):gZ 240 [.sl nl n 1 el,.fn g cap] (iP N):=
 an call240 func240 (af [.s (Sp.jv (Yn nl n N el g cap) 0 N aE (λi hi rX=>by
    exact iG (af [tT 9 ((i:Int)<n) aE,iX (i:Int) n aE,.c (hp i aE:gZ g ((el i 0)::cap) _),ai 16 (p i) (iQ i aE),iz ((i:Int)+1) aE]) aI)
  (λhi=>by
    exact iG (af [tT 9 ((N:Int)<n) aE,iX (N:Int) n aE,.c (hp N aE:gZ g ((el N 0)::cap) _),ah 16 (p N) hN]) aI) aM:ju 2 f240 (Yn nl n N el g cap 0) .ret ⟨19,false,[(4,.e (iP N))],[]⟩) .nil]) 
def alV(nl:Bool)(n:Nat)(el:Nat->Nat->E)(g:FuncId)(cap:List E)(p:Nat->Bool)(hp:∀ i,i<n->gZ g ((el i 0)::cap) (bP (p i)))(hl:n<=1000000)(iQ:∀ i,i<n->p i=false):gZ 240 [.sl nl n 1 el,.fn g cap] (iP (-1)):=
 an call240 func240 (af [.s (Sp.jv (Ym nl n el g cap) 0 n aE (λi hi rX=>by
    exact iG (af [tT 9 ((i:Int)<n) aE,iX (i:Int) n aE,.c (hp i aE:gZ g ((el i 0)::cap) _),ai 16 (p i) (iQ i aE),iz ((i:Int)+1) aE]) aI)
  (λhi=>by
    exact iG (af [tF 9 ((n:Int)<n) aE]) aI) aM:ju 2 f240 (Ym nl n el g cap 0) (.exit 0) ⟨19,false,[],[]⟩) .nil]) 
def alS(nl:Bool)(n:Nat)(el:Nat->Nat->E)(g:FuncId)(cap:List E)(p:Nat->Bool)(hp:∀ i,i<n->gZ g ((el i 0)::cap) (bP (p i)))(N:Nat)(hl:n<=1000000)(mS:N<n)(iQ:∀ i,i<N->p i=false)(hN:p N=true):gZ 163 [.sl nl n 1 el,.fn g cap] (bP true):=
 an call163 func163 (af [ag [.sl nl n 1 el,.fn g cap] (alP nl n el g cap p hp N hl mS iQ hN),tT 8 (0<=(N:Int)) aE]) 
def alT(nl:Bool)(n:Nat)(el:Nat->Nat->E)(g:FuncId)(cap:List E)(p:Nat->Bool)(hp:∀ i,i<n->gZ g ((el i 0)::cap) (bP (p i)))(hl:n<=1000000)(iQ:∀ i,i<n->p i=false):gZ 163 [.sl nl n 1 el,.fn g cap] (bP false):=
 an call163 func163 (af [ag [.sl nl n 1 el,.fn g cap] (alV nl n el g cap p hp hl iQ),ai 8 (decide ((0:Int)<=(-1))) aG]) 
def Py(nl:Bool)(n:Nat)(el:Nat->Nat->E)(g:FuncId)(cap:List E)(p:Nat->Bool)(hp:∀ i,i<n->gZ g ((el i 0)::cap) (bP (p i)))(hl:n<=1000000):gZ 163 [.sl nl n 1 el,.fn g cap] (bP ((List.range n).any p)):=by
 by_cases h:∃ i,i<n/\p i=true
 .obtain ⟨N,h1,h2,h3⟩:∃ N,N<n/\p N=true/\∀ i,i<N->p i=false:=rj h;refine(alS nl n el g cap p hp N hl h1 h3 h2).ko (.iM ?_);rw[dH.2 ⟨N,bY.2 h1,h2⟩]
 .refine (alT nl n el g cap p hp hl λi hi=>by simpa using λq=>h ⟨i,hi,q⟩).ko (.iM ?_);rw[dx.2 λi hi q=>h ⟨i,bY.1 hi,q⟩]
def Wc(a b:List Nat)(x:Nat):PS:=⟨67,false,[(20,.e (iP x)),(19,.e (iP a.length)),(18,.e (ic a)),(5,.own 17),(1,.e (ic b))],[(17,.row false 150 (a.length+b.length) 1 (jl (mh a b x)))]⟩
def Wd(a b:List Nat)(x:Nat)(k:Nat):PS:=⟨67,false,[(27,.e (iP k)),(26,.e (iP b.length)),(25,.e (ic b)),(8,.e (.v (.int .u64 (((nB (a.getD x 0) x b (mh a b x) k).2:Nat):Int)))),(7,.e (.v (.int .u32 (a.getD x 0:Int)))),(6,.e (iP x)),(20,.e (iP x)),(19,.e (iP a.length)),(18,.e (ic a)),(5,.own 17),(1,.e (ic b))],[(17,.row false 150 (a.length+b.length) 1 (jl ((nB (a.getD x 0) x b (mh a b x) k).1)))]⟩
def ait(a b:List Nat)(ha:iK a)(hb:iK b)(h1:a.length<=3000)(h2:b.length<=3000):gZ 273 [ic a,ic b] (ic (mh a b a.length)):=
 an call273 func273 (ae [iz ((a.length:Int)+b.length) aE,.a (aE:0<=(((a.length:Int)+b.length):Int)/\(((a.length:Int)+b.length):Int)<=(((a.length:Int)+b.length):Int)),.a (aE:((4:Nat):Int)*((a.length:Int)+b.length)<=281474976710656/\(((a.length:Int)+b.length):Int)<=9223372036854775807),.s (Sp.jv (Wc a b) 0 a.length aE (λx hx jU=>by
    have f1:=ha.getD x;have so:=Gq ha hb x aE;have g1:=so.len;have g2:=(Gp f1 hb so.ok (i:=x) aE b.length aE).len;have g3:=(Gp f1 hb so.ok (i:=x) aE b.length aE).lt;exact iG (ae [tT 21 ((x:Int)<a.length) aE,iX (x:Int) (a.length) aE,.s (Sp.jv (Wd a b x) 0 b.length aE (λk hk DZ=>by
    have f2:=hb.getD k;have q:=Gp f1 hb so.ok (i:=x) aE k aE;have f3:=q.ok.getD (x+k);have f4:=q.lt;have f5:=q.len;have f6:=We f1 f2;exact iG (ae [tT 28 ((k:Int)<b.length) aE,iX (k:Int) (b.length) aE,.o 33 (.int (pZ _ aE):aj (.v (.int .u64 (IntKind.u64.wrap (a.getD x 0:Int)))) (.v (.int .u64 (a.getD x 0:Int)))),.o 35 (.int (pZ _ aE):aj (.v (.int .u64 (IntKind.u64.wrap (b.getD k 0:Int)))) (.v (.int .u64 (b.getD k 0:Int)))),
     pP ((a.getD x 0:Int)*(b.getD k 0:Int)) aE,iz ((x:Int)+k) aE,iX ((x+k:Nat):Int) (a.length+b.length) aE,.a (aE:(x+k)<(a.length+b.length)),.o 43 (.int (pZ _ aE):aj (.v (.int .u64 (IntKind.u64.wrap ((((nB (a.getD x 0) x b (mh a b x) k).1).getD (x+k) 0:Nat):Int)))) (.v (.int .u64 ((((nB (a.getD x 0) x b (mh a b x) k).1).getD (x+k) 0:Nat):Int)))),
     pP ((((a.getD x 0)*(b.getD k 0):Nat):Int)+((((nB (a.getD x 0) x b (mh a b x) k).1).getD (x+k) 0:Nat):Int)) aE,
     pP (((((a.getD x 0)*(b.getD k 0))+(((nB (a.getD x 0) x b (mh a b x) k).1).getD (x+k) 0):Nat):Int)+(((nB (a.getD x 0) x b (mh a b x) k).2:Nat):Int)) aE,
     iz ((x:Int)+k) aE,.o 52 (.int (vi _):aj (.v (.int .u32 (IntKind.u32.wrap (((((a.getD x 0)*(b.getD k 0))+(((nB (a.getD x 0) x b (mh a b x) k).1).getD (x+k) 0))+(nB (a.getD x 0) x b (mh a b x) k).2:Nat):Int)))) (.v (.int .u32 ((((((a.getD x 0)*(b.getD k 0))+(((nB (a.getD x 0) x b (mh a b x) k).1).getD (x+k) 0))+(nB (a.getD x 0) x b (mh a b x) k).2)%4294967296:Nat):Int)))),.a (aE:0<=(32:Int)/\(32:Int)<=((64:Nat):Int)),.o 54 (.int (C5 _):aj (.v (.int .u64 ((((((a.getD x 0)*(b.getD k 0))+(((nB (a.getD x 0) x b (mh a b x) k).1).getD (x+k) 0))+(nB (a.getD x 0) x b (mh a b x) k).2:Nat):Int)/2^32))) (.v (.int .u64 ((((((a.getD x 0)*(b.getD k 0))+(((nB (a.getD x 0) x b (mh a b x) k).1).getD (x+k) 0))+(nB (a.getD x 0) x b (mh a b x) k).2)/4294967296:Nat):Int)))),
     iX ((x+k:Nat):Int) (a.length+b.length) aE,.a (aE:(x+k)<(a.length+b.length)),iz ((k:Int)+1) aE]<|.e (af [.o 8 (.int aT:aj (.v (.int .u64 ((((((a.getD x 0)*(b.getD k 0))+(((nB (a.getD x 0) x b (mh a b x) k).1).getD (x+k) 0))+(nB (a.getD x 0) x b (mh a b x) k).2)/4294967296:Nat):Int))) (.v (.int .u64 (((nB (a.getD x 0) x b (mh a b x) (k+1)).2:Nat):Int)))),.b 17 (Pz rfl aE:Bx.le (.row false 150 (a.length+b.length) 1 (λi' j'=>if i'=(x+k)/\0<=j'/\j'<0+1 then[.v (.int .u32 ((((((a.getD x 0)*(b.getD k 0))+(((nB (a.getD x 0) x b (mh a b x) k).1).getD (x+k) 0))+(nB (a.getD x 0) x b (mh a b x) k).2)%4294967296:Nat):Int))].getD (j'-0) .any else(jl ((nB (a.getD x 0) x b (mh a b x) k).1)) i' j')) (.row false 150 (a.length+b.length) 1 (jl ((nB (a.getD x 0) x b (mh a b x) (k+1)).1))))])) aI)
  (λhk=>by
    exact iG (af [tF 28 ((b.length:Int)<b.length) aE]) aI) aM:ju 7 f273 (Wd a b x 0) (.exit 2) ⟨67,false,[(8,.e (.v (.int .u64 (((nB (a.getD x 0) x b (mh a b x) b.length).2:Nat):Int)))),(6,.e (iP x)),(20,.e (iP x)),(19,.e (iP a.length)),(18,.e (ic a)),(5,.own 17),(1,.e (ic b))],[(17,.row false 150 (a.length+b.length) 1 (jl ((nB (a.getD x 0) x b (mh a b x) b.length).1)))]⟩) (af [.o 8 (.int aT:aj (.v (.int .u64 0)) (.v (.int .u64 (((nB (a.getD x 0) x b (mh a b x) 0).2:Nat):Int)))),.b 17 (.iM rfl:Bx.le (.row false 150 (a.length+b.length) 1 (jl (mh a b x))) (.row false 150 (a.length+b.length) 1 (jl ((nB (a.getD x 0) x b (mh a b x) 0).1))))]),
     iz ((x:Int)+b.length) aE,.o 63 (.int (vi _):aj (.v (.int .u32 (IntKind.u32.wrap (((nB (a.getD x 0) x b (mh a b x) b.length).2:Nat):Int)))) (.v (.int .u32 (((nB (a.getD x 0) x b (mh a b x) b.length).2%4294967296:Nat):Int)))),
     iX ((x+b.length:Nat):Int) (a.length+b.length) aE,.a (aE:(x+b.length)<(a.length+b.length)),iz ((x:Int)+1) aE]<|.e (af [.b 17 (Pz rfl aE:Bx.le (.row false 150 (a.length+b.length) 1 (λi' j'=>if i'=(x+b.length)/\0<=j'/\j'<0+1 then[.v (.int .u32 (((nB (a.getD x 0) x b (mh a b x) b.length).2%4294967296:Nat):Int))].getD (j'-0) .any else(jl ((nB (a.getD x 0) x b (mh a b x) b.length).1)) i' j')) (.row false 150 (a.length+b.length) 1 (jl (mh a b (x+1)))))])) aI)
  (λhx=>by
    exact iG (af [tF 21 ((a.length:Int)<a.length) aE]) aI) aM:ju 3 f273 (Wc a b 0) (.exit 0) ⟨67,false,[(5,.own 17)],[(17,.row false 150 (a.length+b.length) 1 (jl (mh a b a.length)))]⟩) (af [.b 17 (G5 rfl (λi=>by simp[mh,bD,gz];split<;>rfl):Bx.le (.row false 150 (a.length+b.length) 1 (λ_ j_=>[.v (.int .u32 0)].getD j_ .any)) (.row false 150 (a.length+b.length) 1 (jl (mh a b 0))))])]<|rR (ic (mh a b a.length)) (At (by rw[(Gq ha hb a.length aE).len]):E.le (.sl false (a.length+b.length) 1 (jl (mh a b a.length))) (ic (mh a b a.length)))) 
def Ou(L:List Nat)(h:L.length<=256):gZ 310 [ic L] (bP false):=
 ak call310 func310 (af [tF 5 (256<(L.length:Int)) aE]) 
def ais(L:List Nat)(h1:L.length<=256):gZ 271 [(.sl true 1 1 λi_ j_=>[ic L].getD (i_*1+j_) (.v (.bool false)))] (bP false):=
 ak call271 func271 (af [.c (VE true 1 _ 310 [] (λ_=>false) (λi hi=>(match i,hi with|0,_=>Ou _ h1|n+1,hi=>absurd hi aE)) aE (λ_ _=>rfl):gZ 309 [(.sl true 1 1 λi_ j_=>[ic L].getD (i_*1+j_) (.v (.bool false))),.fn 310 []] _)]) 
def Wj(L:List Nat)(M:List Nat)(h1:L.length<=256)(h2:M.length<=256):gZ 271 [(.sl true 2 1 λi_ j_=>[ic L,ic M].getD (i_*1+j_) (.v (.bool false)))] (bP false):=
 ak call271 func271 (af [.c (VE true 2 _ 310 [] (λ_=>false) (λi hi=>(match i,hi with|0,_=>Ou _ h1|1,_=>Ou _ h2|n+2,hi=>absurd hi aE)) aE (λ_ _=>rfl):gZ 309 [(.sl true 2 1 λi_ j_=>[ic L,ic M].getD (i_*1+j_) (.v (.bool false))),.fn 310 []] _)]) 
def aiu(L M:List Nat)(hL:iK L)(hM:iK M)(h1:L.length<=256)(h2:M.length<=256)(hf:(ia (val L*val M)).length<=256):gZ 218 [ic L,ic M] (.iC [ic (ia (val L*val M)),iP 0]):=by
 have ka:=hL.ix;have kb:=hM.ix;have ta:=pq L;have tb:=pq M;unfold mC at ta tb;have km:=(Gq ka kb _ (bC _)).ok;have he:ix (mh (ix L) (ix M) (ix L).length)=ia (val L*val M):=by rw[qN km,aoF ka kb,oZ,oZ]
 have hd:(ix (mh (ix L) (ix M) (ix L).length)).length<=256:=by rw[he];exact hf
 exact ak call218 func218 (ae [.c (Wj L M aF aF),ag [ic L] (uj _ hL),ag [ic M] (uj _ hM),ag [ic (ix L),ic (ix M)] (ait _ _ ka kb aE aE),ag [ic (mh (ix L) (ix M) (ix L).length)] (Wh _ km hd)]<|rQ (.iC [ic (ix (mh (ix L) (ix M) (ix L).length)),iP 0]) (.iC [ic (ia (val L*val M)),iP 0]) (by rw[he])) 
def Af(m n:Nat)(h1:(ia m).length<=256)(h2:(ia n).length<=256)(hf:(ia (m*n)).length<=256):gZ 218 [ic (ia m),ic (ia n)] (.iC [ic (ia (m*n)),iP 0]):=by
 have:=aiu (ia m) (ia n) (kR m) (kR n) h1 h2 (by rw[kf,kf];exact hf);rwa[kf,kf]at this
def wE(m n:Nat)(h1:(ia m).length<=256)(h2:n<=65536)(h3:(ia (m*2^n)).length<=256):gZ 308 [ic (ia m),iP n] (ic (ia (m*2^n))):=
 ak call308 func308 (af [ag [ic (ia m),iP n] (Wl _ _ aE aE aE)]) 
def Pj(m n:Nat)(h1:(ia m).length<=256)(h2:n<=65536):gZ 320 [ic (ia m),iP n] (.iC [ic (ia (m/2^n)),bP (decide (m%2^n≠0))]):=by
 have hb:=wR h1;have hq:(ia (m/2^n)).length<=256:=nJ (by have:=tR (bV m (2^n));omega);have uQ:(ia (m/2^n*2^n)).length<=256:=nJ (by have:=tR (du m (2^n));omega);have hr:(ia (m/2^iq m)).length<=256:=nJ (by have:=tR (bV m (2^iq m));omega);have oA:(ia (m/2^iq m*2^iq m)).length<=256:=nJ (by have:=tR (du m (2^iq m));omega);by_cases hn:iq m<n
 .have q1:=Si (dE hn);have q2:=Si (bC (iq m));exact ak call320 func320 (ae [ag [ic (ia m)] (sU _ aE),tT 11 ((iq m:Int)<n) aE,ag [ic (ia m)] (sU _ aE),ag [ic (ia m),iP (iq m:Int)] (Ov _ _ aE aE),.c (wE (m/2^(iq m)) (iq m) aE aE aE),ag [ic (ia ((m/2^(iq m))*2^(iq m))),ic (ia m)] (Ad _ _ aE aE)]<|rQ (.iC [ic (ia (m/2^(iq m))),bP ((kE ((m/2^(iq m))*2^(iq m)) m) != 0)]) (.iC [ic (ia (m/2^n)),bP (decide (m%2^n≠0))]) (by rw[VP,q1.1,q1.2,q2.1,q2.2])) 
 .exact ak call320 func320 (ae [ag [ic (ia m)] (sU _ aE),tF 11 ((iq m:Int)<n) aE,ag [ic (ia m),iP n] (Ov _ _ aE aE),.c (wE (m/2^n) n aE aE aE),ag [ic (ia ((m/2^n)*2^n)),ic (ia m)] (Ad _ _ aE aE)]<|rQ (.iC [ic (ia (m/2^n)),bP ((kE ((m/2^n)*2^n) m) != 0)]) (.iC [ic (ia (m/2^n)),bP (decide (m%2^n≠0))]) (by rw[VP])) 
abbrev P9:E:=.sl false 1 1 λi_ j_=>[.v (.int .u32 1)].getD (i_*1+j_) (.v (.bool false))
abbrev KW(p):=ic (ia (0*2^((0-(jA 0 0 p)).toNat)))
def oH(m:Nat)(e:Int)(p:Nat):Nat:=if jA m e p<=e then m*2^(e-jA m e p).toNat else m/2^(jA m e p-e).toNat
def sk(m:Nat)(e:Int)(more:Bool)(p:Nat):Bool:=if jA m e p<=e then more else(more||decide (m%2^(jA m e p-e).toNat≠0))
def acX(m:Nat)(e:Int)(more:Bool)(p:Nat):nZ m e more p false=oH m e p:=by unfold nZ oH;simp
def LS{m:Nat}{e:Int}{more:Bool}{p:Nat}(hm:more=true->p<iq m):nZ m e more p true=oH m e p+if sk m e more p=true then 1 else 0:=by
 unfold nZ oH sk;by_cases hU:jA m e p<=e
 .have hmo:more=false:=by
   cases Nn:more with
   |false=>rfl
   |true=>have:=hm Nn;unfold jA at hU;omega
  simp[hU,hmo]
 .simp [hU]
def akU(m:Nat)(e:Int)(more up:Bool)(p:Nat)(h1:(ia m).length<=256)(h0:m≠0)(iw:8<=p)(ij:p<=512)(lv:-45000<=e)(kQ:e<=45000)(hm:more=true->p<iq m):gZ 323 [.agg [ic (ia m),iP e,bP more],iP (p:Int),bP up] (.iC [ie (jY false m e more p up),iP (jP false m e more p up)]):=by
 have UI:=RR (e:=e) true h0 hm (aE:1<=p);have wc:=RR (e:=e) false h0 hm (aE:1<=p);have hb:=wR h1;have pX:=nv h0;have hqb:=RQ (e:=e) (more:=more) (p:=p) (up:=true) h0;have hqa:=RQ (e:=e) (more:=more) (p:=p) (up:=false) h0;rw[acX]at wc hqa;have hu1:-16384<=(jA m e p):=by unfold jA;omega
 have hu2:(jA m e p)<=60000:=by unfold jA;omega
 have hu3:(jA m e p)<=max (e+8192) (-16384):=by unfold jA;omega
 have fa:(ia (oH m e p)).length<=256:=nJ aE;have fb:(ia (nZ m e more p true)).length<=256:=nJ aE;have f1:(ia 1).length<=256:=nJ aG;cases up with
 |true=>
  exact ak call323 func323 (ae [ag [ic (ia m)] (sU _ aE),iz (e+(iq m:Int)) aE,iz ((e+(iq m:Int))-(p:Int)) aE,.o 21 (aq (if(-16384)>((e+(iq m:Int))-(p:Int))then(-16384)else((e+(iq m:Int))-(p:Int))) (jA m e p) (by unfold jA;split<;>omega)),.j 58 ⟨84,true,[(9,.e (ic (ia (oH m e p)))),(10,.e (bP (sk m e more p))),(8,.e (iP (jA m e p))),(6,.box 6 0),(1,.e (iP p)),(2,.e (bP true))],[(6,.cells 39 ar)]⟩
   (.w ((jA m e p)<=e)
    (λm1=>by
     have fx:(ia (m*2^(e-(jA m e p)).toNat)).length<=256:=by have:=fa;rwa[show oH m e p=_ from bw m1]at this
     exact ae [.v 29 (.bool (bA m1)),iz (e-(jA m e p)) aE,.o 35 (aq (e-(jA m e p)) ((e-(jA m e p)).toNat:Int) aE),.c (wE m ((e-(jA m e p)).toNat:Nat) aE aE aE)]<|.e (af [.o 9 (.e (.iM (by rw[show oH m e p=_ from bw m1])):aj (ic (ia (m*2^((e-(jA m e p)).toNat)))) (ic (ia (oH m e p)))),tB 10 (by simp[sk,m1]:more=(sk m e more p))]))
    (λm1=>ae [.v 29 (.bool (bB m1)),iz ((jA m e p)-e) aE,.o 43 (aq ((jA m e p)-e) (((jA m e p)-e).toNat:Int) aE),.c (Pj m (((jA m e p)-e).toNat:Nat) aE aE)]<|.w (more=true)
     (λm2=>ae [tB 48 m2]<|.e (af [.o 9 (.e (.iM (by rw[show oH m e p=_ from bu m1])):aj (ic (ia (m/2^(((jA m e p)-e).toNat)))) (ic (ia (oH m e p)))),tB 10 (by simp[sk,m1,m2]:true=(sk m e more p))]))
     (λm2=>ae [tB 48 (bn m2)]<|.e (af [.o 9 (.e (.iM (by rw[show oH m e p=_ from bu m1])):aj (ic (ia (m/2^(((jA m e p)-e).toNat)))) (ic (ia (oH m e p)))),tB 10 (by simp[sk,m1,m2]:(decide (m%2^(((jA m e p)-e).toNat)≠0))=(sk m e more p))])))),.j 110 ⟨84,true,[(9,.e (ic (ia (nZ m e more p true)))),(8,.e (iP (jA m e p))),(6,.box 6 0),(1,.e (iP p)),(2,.e (bP true))],[(6,.cells 39 ar)]⟩
   (.w (sk m e more p=true)
    (λm1=>by
     have fx:(ia (oH m e p+1)).length<=256:=by have:=fb;rwa[LS hm,bw m1]at this
     exact ae [.v 55 (.bool m1),.o 58 (.e sE:aj P9 (ic (ia 1))),ag [ic (ia (oH m e p)),ic (ia 1)] (JW _ _ aE aE aE)]<|.e (af [.o 9 (.e (.iM (by rw[LS hm,bw m1])):aj (ic (ia ((oH m e p)+1))) (ic (ia (nZ m e more p true))))]))
    (λm1=>ae [.v 55 (.bool (bn m1))]<|.e (af [.o 9 (.e (.iM (by rw[LS hm,bu m1,bT])):aj (ic (ia (oH m e p))) (ic (ia (nZ m e more p true))))]))),ag [ic (ia (nZ m e more p true))] (sU _ aE),iz ((iq (nZ m e more p true):Int)+(jA m e p)) aE]<|.w (16384<((iq (nZ m e more p true):Int)+(jA m e p)))
   (λk1=>by
    have w1:=(UI.resolve_left (λh=>absurd k1 aE)).2.resolve_right (λh=>absurd h.1 aG);exact ae [tB 66 (bA k1),.o 68 (.e s7:aj (.agg ar) (ie jD))]<|rQ (.iC [ie jD,iP 9]) (.iC [ie (jY false m e more p true),iP (jP false m e more p true)]) (by rw[w1.2.1,w1.2.2]))
   (λk1=>by
    have w1:=UI.resolve_right (λh=>k1 h.1);have hd:oB (canon false (nZ m e more p true) (jA m e p)):=by rw[<-w1.2.1];exact(mR false m e more p true aE aE).range
    exact ae [tB 66 (bB k1),ag [bP false,ic (ia (nZ m e more p true)),iP (jA m e p)] (BZ _ _ _ aE aE aE aF)]<|rQ (.iC [ie (canon false (nZ m e more p true) (jA m e p)),iP 0]) (.iC [ie (jY false m e more p true),iP (jP false m e more p true)]) (by rw[w1.2.1,w1.2.2]))) 
 |false=>
  exact ak call323 func323 (ae [ag [ic (ia m)] (sU _ aE),iz (e+(iq m:Int)) aE,iz ((e+(iq m:Int))-(p:Int)) aE,.o 21 (aq (if(-16384)>((e+(iq m:Int))-(p:Int))then(-16384)else((e+(iq m:Int))-(p:Int))) (jA m e p) (by unfold jA;split<;>omega)),.j 58 ⟨84,true,[(9,.e (ic (ia (oH m e p)))),(10,.e (bP (sk m e more p))),(8,.e (iP (jA m e p))),(6,.box 6 0),(1,.e (iP p)),(2,.e (bP false))],[(6,.cells 39 ar)]⟩
   (.w ((jA m e p)<=e)
    (λm1=>by
     have fx:(ia (m*2^(e-(jA m e p)).toNat)).length<=256:=by have:=fa;rwa[show oH m e p=_ from bw m1]at this
     exact ae [.v 29 (.bool (bA m1)),iz (e-(jA m e p)) aE,.o 35 (aq (e-(jA m e p)) ((e-(jA m e p)).toNat:Int) aE),.c (wE m ((e-(jA m e p)).toNat:Nat) aE aE aE)]<|.e (af [.o 9 (.e (.iM (by rw[show oH m e p=_ from bw m1])):aj (ic (ia (m*2^((e-(jA m e p)).toNat)))) (ic (ia (oH m e p)))),tB 10 (by simp[sk,m1]:more=(sk m e more p))]))
    (λm1=>ae [.v 29 (.bool (bB m1)),iz ((jA m e p)-e) aE,.o 43 (aq ((jA m e p)-e) (((jA m e p)-e).toNat:Int) aE),.c (Pj m (((jA m e p)-e).toNat:Nat) aE aE)]<|.w (more=true)
     (λm2=>ae [tB 48 m2]<|.e (af [.o 9 (.e (.iM (by rw[show oH m e p=_ from bu m1])):aj (ic (ia (m/2^(((jA m e p)-e).toNat)))) (ic (ia (oH m e p)))),tB 10 (by simp[sk,m1,m2]:true=(sk m e more p))]))
     (λm2=>ae [tB 48 (bn m2)]<|.e (af [.o 9 (.e (.iM (by rw[show oH m e p=_ from bu m1])):aj (ic (ia (m/2^(((jA m e p)-e).toNat)))) (ic (ia (oH m e p)))),tB 10 (by simp[sk,m1,m2]:(decide (m%2^(((jA m e p)-e).toNat)≠0))=(sk m e more p))])))),ag [ic (ia (oH m e p))] (sU _ aE),iz ((iq (oH m e p):Int)+(jA m e p)) aE]<|.w (16384<((iq (oH m e p):Int)+(jA m e p)))
   (λk1=>by
    have w1:=(wc.resolve_left (λh=>absurd k1 aE)).2.resolve_left (λh=>absurd h.1 aG);have hd:oB (canon false ((1*2^p)-1) (16384-(p:Int))):=by rw[ck,<-w1.2.1];exact(mR false m e more p false aE aE).range
    have g0:iq (1*2^p)=p+1:=by rw[ck];exact vz (bC _) (fk aG aE)
    have g1:(ia 1).length<=256:=nJ aG;have g2:(ia (1*2^p)).length<=256:=nJ aE;have g4:1<=1*2^p:=by rw[ck];exact bF aG 
    have g3:(ia ((1*2^p)-1)).length<=256:=nJ (by have:=tR (ey (1*2^p) 1);omega);exact ae [tB 66 (bA k1),.o 70 (.e sE:aj P9 (ic (ia 1))),.c (wE 1 p aE aE aE),.o 73 (.e sE:aj P9 (ic (ia 1))),ag [ic (ia (1*2^p)),ic (ia 1)] (Gu _ _ aE aE aE),iz (16384-(p:Int)) aE,ag [bP false,ic (ia ((1*2^p)-1)),iP (16384-(p:Int))] (BZ _ _ _ aE aE aE aF)]<|rQ (.iC [ie (canon false ((1*2^p)-1) (16384-(p:Int))),iP 0]) (.iC [ie (jY false m e more p false),iP (jP false m e more p false)]) (by rw[w1.2.1,w1.2.2,ck]))
   (λk1=>by
    have w1:=wc.resolve_right (λh=>k1 h.1);have hd:oB (canon false (oH m e p) (jA m e p)):=by rw[<-w1.2.1];exact(mR false m e more p false aE aE).range
    exact ae [tB 66 (bB k1),ag [bP false,ic (ia (oH m e p)),iP (jA m e p)] (BZ _ _ _ aE aE aE aF)]<|rQ (.iC [ie (canon false (oH m e p) (jA m e p)),iP 0]) (.iC [ie (jY false m e more p false),iP (jP false m e more p false)]) (by rw[w1.2.1,w1.2.2]))) 
def akV(up:Bool)(p:Nat)(iw:8<=p)(ij:p<=512):gZ 323 [.agg [ic (ia 0),iP 0,bP false],iP (p:Int),bP up] (.iC [ie (jY false 0 0 false p up),iP (jP false 0 0 false p up)]):=by
 have hU:jA 0 0 p = -(p:Int):=by unfold jA;rw[rq];omega
 have hK:jj 0 0 p=0:=by unfold jj;rw[rq];omega
 have hQ:kT 0 0 false p up=0:=by unfold kT;rw[hK];simp
 have hO:mv 0 0 false p up=false:=by unfold mv;rw[hQ];simp
 have qS:(false != up)=up:=by cases up<;>rfl
 have k2:jY false 0 0 false p up=jD:=by unfold jY;rw[qS,hO,bu aG,hQ];rfl
 have k3:jP false 0 0 false p up=0:=by unfold jP;rw[qS,hO];rfl
 have lz:iq 0=0:=rfl;have l0:(ia 0).length<=256:=by rw[nT];decide
 have l1:(ia (0*2^(0-jA 0 0 p).toNat)).length<=256:=by rw[cP];exact l0
 have lb:iq (0*2^(0-jA 0 0 p).toNat)=0:=by rw[cP];rfl
 have hd:oB (canon false (0*2^(0-jA 0 0 p).toNat) (jA 0 0 p)):=by rw[cP];exact .inl rfl
 by_cases Cn:up=true
 .exact ak call323 func323 (ae [ag [ic (ia 0)] (sU _ aE),iz (0+(iq 0:Int)) aE,iz ((0+(iq 0:Int))-(p:Int)) aE,.o 21 (aq (if(-16384)>((0+(iq 0:Int))-(p:Int))then(-16384)else((0+(iq 0:Int))-(p:Int))) (jA 0 0 p) (by unfold jA;rw[rq];split<;>omega)),tT 29 ((jA 0 0 p)<=0) aE,iz (0-(jA 0 0 p)) aE,.o 35 (aq (0-(jA 0 0 p)) ((0-(jA 0 0 p)).toNat:Int) aE),.c (wE 0 ((0-(jA 0 0 p)).toNat:Nat) aE aE aE),ah 52 up Cn,ag [KW p] (sU _ aE),
   iz ((iq (0*2^((0-(jA 0 0 p)).toNat)):Int)+(jA 0 0 p)) aE,tF 66 (16384<((iq (0*2^((0-(jA 0 0 p)).toNat)):Int)+(jA 0 0 p))) aE,ag [bP false,KW p,iP (jA 0 0 p)] (BZ _ _ _ aE aE aE aF)]<|rQ (.iC [ie (canon false (0*2^((0-(jA 0 0 p)).toNat)) (jA 0 0 p)),iP 0]) (.iC [ie (jY false 0 0 false p up),iP (jP false 0 0 false p up)]) (by rw[k2,k3,cP];rfl)) 
 .exact ak call323 func323 (ae [ag [ic (ia 0)] (sU _ aE),iz (0+(iq 0:Int)) aE,iz ((0+(iq 0:Int))-(p:Int)) aE,.o 21 (aq (if(-16384)>((0+(iq 0:Int))-(p:Int))then(-16384)else((0+(iq 0:Int))-(p:Int))) (jA 0 0 p) (by unfold jA;rw[rq];split<;>omega)),tT 29 ((jA 0 0 p)<=0) aE,iz (0-(jA 0 0 p)) aE,.o 35 (aq (0-(jA 0 0 p)) ((0-(jA 0 0 p)).toNat:Int) aE),.c (wE 0 ((0-(jA 0 0 p)).toNat:Nat) aE aE aE),ai 52 up (by simpa using Cn),ag [KW p] (sU _ aE),
   iz ((iq (0*2^((0-(jA 0 0 p)).toNat)):Int)+(jA 0 0 p)) aE,tF 66 (16384<((iq (0*2^((0-(jA 0 0 p)).toNat)):Int)+(jA 0 0 p))) aE,ag [bP false,KW p,iP (jA 0 0 p)] (BZ _ _ _ aE aE aE aF)]<|rQ (.iC [ie (canon false (0*2^((0-(jA 0 0 p)).toNat)) (jA 0 0 p)),iP 0]) (.iC [ie (jY false 0 0 false p up),iP (jP false 0 0 false p up)]) (by rw[k2,k3,cP];rfl)) 
def Ez(m:Nat)(e:Int)(more up:Bool)(p:Nat)(h1:(ia m).length<=256)(h0:m≠0\/m=0/\e=0/\more=false)(iw:8<=p)(ij:p<=512)(lv:-45000<=e)(kQ:e<=45000)(hm:more=true->p<iq m):gZ 323 [.agg [ic (ia m),iP e,bP more],iP (p:Int),bP up] (.iC [ie (jY false m e more p up),iP (jP false m e more p up)]):=by
 rcases h0 with h0|⟨rfl,rfl,rfl⟩
 .exact akU m e more up p h1 h0 iw ij lv kQ hm
 .exact akV up p iw ij
def kC(p:Int):Bool:=decide (8<=p)&&decide (p<=512)
def pe{p:Int}:kC p=true↔8<=p/\p<=512:=by simp[kC]
def wi(p:Int):gZ 147 [iP p] (bP (kC p)):=by
 by_cases h:8<=p
 .exact ak call147 func147 (ae [tB 4 (bA h)]<|rQ (bP (decide (p<=512))) (bP (kC p)) (by simp[kC,h])) 
 .exact ak call147 func147 (ae [tB 4 (bB h)]<|rQ (bP false) (bP (kC p)) (by simp[kC,h])) 
def Km(p:Int):gZ 135 [iP p] (bP (kC p)):=by
 by_cases h:8<=p
 .exact ak call135 func135 (ae [tB 4 (bA h)]<|rQ (bP (decide (p<=512))) (bP (kC p)) (by simp[kC,h])) 
 .exact ak call135 func135 (ae [tB 4 (bB h)]<|rQ (bP false) (bP (kC p)) (by simp[kC,h])) 
def akX(p:Int):gZ 318 [iP p] (bP (kC p)):=by
 by_cases h:8<=p
 .exact ak call318 func318 (ae [tB 4 (bA h)]<|rQ (bP (decide (p<=512))) (bP (kC p)) (by simp[kC,h])) 
 .exact ak call318 func318 (ae [tB 4 (bB h)]<|rQ (bP false) (bP (kC p)) (by simp[kC,h])) 
def XT(l:List Dy)(p:Nat)(i:Nat):PS:=⟨20,true,[(9,.e (iP i)),(8,.e (iP l.length)),(7,.e (nP l)),(0,.e (iP p))],[]⟩
def GV(neg:Bool)(m:Nat)(e:Int)(more up:Bool)(p:Nat)(h1:(ia m).length<=256)(h0:m≠0\/m=0/\e=0/\more=false)(iw:8<=p)(ij:p<=512)(lv:-45000<=e)(kQ:e<=45000)(hm:more=true->p<iq m):gZ 283 [bP neg,.agg [ic (ia m),iP e,bP more],iP p,bP up] (.iC [ie (jY neg m e more p up),iP (jP neg m e more p up)]):=by
 cases neg with
 |true=>
  have hs:=RX true m e more p up;change _/\(jP false m e more p (!(up==true))=0->_->iU (jY false m e more p (!(up==true)))=_)/\((jP false m e more p (!(up==true))≠0\/_)->jY false m e more p (!(up==true))=_)at hs;have hE:jP true m e more p up=jP false m e more p (!(up==true)):=hs.1;have hv:=mR false m e more p (!(up==true)) (aE:1<=p) aE;by_cases hz:jP false m e more p (!(up==true))=0
  .exact ak call283 func283 (ae [ag [.agg [ic (ia m),iP e,bP more],iP p,bP (!(up==true))] (Ez _ _ _ _ _ aE aF aE aE aE aE aF),ah 22 ((jP false m e more p (!(up==true)))==0) (by rw[hz];rfl),ag [ie (jY false m e more p (!(up==true)))] (xU _ aF)]<|rQ (.iC [ie (iU (jY false m e more p (!(up==true)))),iP (jP false m e more p (!(up==true)))]) (.iC [ie (jY true m e more p up),iP (jP true m e more p up)]) (by rw[hs.2.1 hz rfl,hE])) 
  .exact ak call283 func283 (ae [ag [.agg [ic (ia m),iP e,bP more],iP p,bP (!(up==true))] (Ez _ _ _ _ _ aE aF aE aE aE aE aF),ai 22 ((jP false m e more p (!(up==true)))==0) (by simpa using hz)]<|rQ (.iC [ie (jY false m e more p (!(up==true))),iP (jP false m e more p (!(up==true)))]) (.iC [ie (jY true m e more p up),iP (jP true m e more p up)]) (by rw[hs.2.2 (.inl hz),hE])) 
 |false=>
  have hs:=RX false m e more p up;change _/\(jP false m e more p (!(up==false))=0->_->iU (jY false m e more p (!(up==false)))=_)/\((jP false m e more p (!(up==false))≠0\/_)->jY false m e more p (!(up==false))=_)at hs;have hE:jP false m e more p up=jP false m e more p (!(up==false)):=hs.1;have hv:=mR false m e more p (!(up==false)) (aE:1<=p) aE;by_cases hz:jP false m e more p (!(up==false))=0
  .exact ak call283 func283 (ae [ag [.agg [ic (ia m),iP e,bP more],iP p,bP (!(up==false))] (Ez _ _ _ _ _ aE aF aE aE aE aE aF),ah 22 ((jP false m e more p (!(up==false)))==0) (by rw[hz];rfl)]<|rQ (.iC [ie (jY false m e more p (!(up==false))),iP (jP false m e more p (!(up==false)))]) (.iC [ie (jY false m e more p up),iP (jP false m e more p up)]) (by rw[hs.2.2 (.inr rfl),hE])) 
  .exact ak call283 func283 (ae [ag [.agg [ic (ia m),iP e,bP more],iP p,bP (!(up==false))] (Ez _ _ _ _ _ aE aF aE aE aE aE aF),ai 22 ((jP false m e more p (!(up==false)))==0) (by simpa using hz)]<|rQ (.iC [ie (jY false m e more p (!(up==false))),iP (jP false m e more p (!(up==false)))]) (.iC [ie (jY false m e more p up),iP (jP false m e more p up)]) (by rw[hs.2.2 (.inl hz),hE])) 
def akW(d:Dy):gZ 319 [ie d] (.agg [ic (ia d.m),iP d.e,bP false]):=
 ak call319 func319 (.nil) 
def XU(p:Nat)(l:List Dy)(hl:l.length<=1000)(hv:∀ i,i<l.length->(l.getD i jD).ik)(iw:8<=p)(ij:p<=512):gZ 280 [iP p,nP l] (iP 0):=
 ak call280 func280 (af [.s (Sp.jv (XT l p) 0 l.length aE (λi hi rX=>by
    have UO:=hv i rX;exact iG (af [tT 10 ((i:Int)<l.length) aE,iX (i:Int) (l.length) aE,ag [ie (l.getD i jD)] (tf _ aF),iz ((i:Int)+1) aE]) aI)
  (λhi=>by
    exact iG (af [tF 10 ((l.length:Int)<l.length) aE]) aI) aM:ju 2 f280 (XT l p 0) (.exit 0) ⟨20,true,[(0,.e (iP p))],[]⟩) .nil,ag [iP p] (akX _),ah 18 (kC (p:Int)) (pe.2 ⟨aE,aE⟩)]) 
def Ph(p:Nat)(a:Dy)(ha:a.ik)(iw:8<=p)(ij:p<=512):gZ 280 [iP (p:Int),nP [a]] (iP 0):=
 XU p [a] aK (λi hi=>(match i,hi with
  | 0,_=>ha
  |n+1,hi=>absurd hi aK)) iw ij
def xB(p:Nat)(a b:Dy)(ha:a.ik)(hb:b.ik)(iw:8<=p)(ij:p<=512):gZ 280 [iP (p:Int),nP [a,b]] (iP 0):=
 XU p [a,b] aK (λi hi=>(match i,hi with
  | 0,_=>ha
  | 1,_=>hb
  |n+2,hi=>absurd hi aK)) iw ij
def Kk(d:Dy)(p:Nat)(up:Bool)(hd:d.ik)(iw:8<=p)(ij:p<=512):gZ 281 [ie d,iP p,bP up] (.iC [ie (jf d p up),iP (jx d p up)]):=by
 have hl:=hd.ia;have hz:d.m≠0\/d.m=0/\d.e=0/\false=false:=by
  by_cases h:d.m=0
  .rcases hd.canon with q|q
   .exact .inr ⟨h,q.2.2,rfl⟩
   .omega
  .exact .inl h
 have Cp:-45000<=d.e:=by have:=hd.exp;omega
 have sy:d.e<=45000:=by have:=hd.exp;omega
 have hm:false=true->p<iq d.m:=λh=>by cases h
 exact ak call281 func281 (af [.o 11 (.e (L9 _):aj (.sl true 1 3 λi_ j_=>(jq d).getD (i_*3+j_) (.v (.bool false))) (nP [d])),ag [iP p,nP [d]] (Ph _ _ aF aE aE),ai 14 ((0:Int) != 0) aG,.c (akW d),.c (GV d.neg d.m d.e false up p aE aF aE aE aE aE aF)]) 
def Dr{a b:Nat}:kE a b<0↔a<b:=by
 unfold kE;split
 .simp_all
 .split<;>simp_all
def Kl(a b:Dy)(p:Nat)(ha:a.ik)(hb:b.ik)(a0:a.m≠0)(b0:b.m≠0)(ht:b.iE<=a.iE)(iw:8<=p)(ij:p<=512):gZ 282 [ie a,ie b,iP p] (.iC [.agg [ic (ia (mA a b p)),iP (jC a b p),bP (nD a b p)],bP (pO a b p)]):=by
 have sz:=KI ha hb a0 b0 ht ij;have sp:=PZ ha hb a0 b0 ht ij;obtain⟨l1,l2,l3,l4,l5,l6,l7,l8,l9⟩:=sz;obtain⟨l10,l11,l12⟩:=sp;obtain⟨r1,r2,r3⟩:=Pw a b p;have va:=ha.ia;have vb:=hb.ia;have xa:=ha.exp;have xb:=hb.exp;have ta:=He a0;have tb:=He b0;have ba:=wR va;have bb:=wR vb;have z1:(ia (a.m*2^((a.e-(jC a b p)).toNat))).length<=256:=nJ (aE:iq (oo a b p)<=_);have zy:(ia (nk b (jC a b p))).length<=256:=nJ aE;have z3:(ia (ni a b p)).length<=256:=nJ aE;have zm:(ia (mA a b p)).length<=256:=nJ aE;have z5:(ia 1).length<=256:=nJ aG;exact ak call282 func282 (ae [ag [ie a] (pj _ aF),iz ((Dy.iE a)-(p:Int)) aE,iz (((Dy.iE a)-(p:Int))-8) aE,ag [ie a] (pj _ aF),ag [ie b] (pj _ aF),iz ((Dy.iE a)-(Dy.iE b)) aE,.j 62 ⟨109,true,[(8,.e (iP (jC a b p))),(6,.box 6 0),(4,.box 4 0),(3,.box 3 0)],[(6,.cells 210 [.v (.slice none 0 0),iP 0,bP false]),(4,.cells 39 (jq b)),(3,.cells 39 (jq a))]⟩
   (.w (((Dy.iE a)-(Dy.iE b))<=2)
    (λm1=>ae [.v 31 (.bool (bA m1))]<|.e (af [.o 8 (aq (if b.e<(if(((Dy.iE a)-(p:Int))-8)<a.e then(((Dy.iE a)-(p:Int))-8)else a.e)then b.e else(if(((Dy.iE a)-(p:Int))-8)<a.e then(((Dy.iE a)-(p:Int))-8)else a.e)) (jC a b p) (by unfold jC;rw[bw m1];split<;>split<;>omega))]))
    (λm1=>ae [.v 31 (.bool (bB m1))]<|.e (af [.o 8 (aq (if(((Dy.iE a)-(p:Int))-8)<a.e then(((Dy.iE a)-(p:Int))-8)else a.e) (jC a b p) (by unfold jC;rw[bu m1];split<;>omega))]))),
  iz (a.e-(jC a b p)) aE,.o 41 (aq (a.e-(jC a b p)) ((a.e-(jC a b p)).toNat:Int) aE),.c (wE a.m ((a.e-(jC a b p)).toNat) aE aE aE),.j 92 ⟨109,true,[(10,.e (ic (ia (nk b (jC a b p))))),(11,.e (bP (nU b (jC a b p)))),(9,.e (ic (ia (a.m*2^((a.e-(jC a b p)).toNat))))),(8,.e (iP (jC a b p))),(6,.box 6 0),(4,.box 4 0),(3,.box 3 0)],[(6,.cells 210 [.v (.slice none 0 0),iP 0,bP false]),(4,.cells 39 (jq b)),(3,.cells 39 (jq a))]⟩
   (.w ((jC a b p)<=b.e)
    (λm1=>by
     have z2:(ia (b.m*2^((b.e-(jC a b p)).toNat))).length<=256:=by have:=zy;rwa[show nk b (jC a b p)=_ from bw m1]at this
     exact ae [.v 46 (.bool (bA m1)),iz (b.e-(jC a b p)) aE,.o 52 (aq (b.e-(jC a b p)) ((b.e-(jC a b p)).toNat:Int) aE),.c (wE b.m ((b.e-(jC a b p)).toNat) aE aE aE)]<|.e (af [.o 10 (.e (.iM (by rw[show nk b (jC a b p)=_ from bw m1])):aj (ic (ia (b.m*2^((b.e-(jC a b p)).toNat)))) (ic (ia (nk b (jC a b p))))),tB 11 (by simp[nU,m1]:false=(nU b (jC a b p)))]))
    (λm1=>ae [.v 46 (.bool (bB m1)),iz ((jC a b p)-b.e) aE,.o 60 (aq ((jC a b p)-b.e) (((jC a b p)-b.e).toNat:Int) aE),.c (Pj b.m (((jC a b p)-b.e).toNat) aE aE)]<|.e (af [.o 10 (.e (.iM (by rw[show nk b (jC a b p)=_ from bu m1])):aj (ic (ia (b.m/2^(((jC a b p)-b.e).toNat)))) (ic (ia (nk b (jC a b p))))),tB 11 (by simp[nU,m1]:(decide (b.m%2^(((jC a b p)-b.e).toNat)≠0))=(nU b (jC a b p)))])))]<|.w (a.neg=b.neg)
  (λk1=>by
   have eT:pO a b p=false:=by unfold pO;simp[k1]
   have eY:ni a b p=nk b (jC a b p):=by unfold ni;simp[k1]
   have eM:mA a b p=oo a b p+nk b (jC a b p):=by unfold mA;rw[bw k1,eY]
   have eS:nD a b p=nU b (jC a b p):=by unfold nD;rw[eT];simp
   have z4:(ia ((a.m*2^((a.e-(jC a b p)).toNat))+nk b (jC a b p))).length<=256:=by have:=zm;rwa[eM]at this
   exact ae [tB 68 (bk k1),ag [ic (ia (a.m*2^((a.e-(jC a b p)).toNat))),ic (ia (nk b (jC a b p)))] (JW _ _ aE aE aE)]<|rQ (.iC [.agg [ic (ia ((a.m*2^((a.e-(jC a b p)).toNat))+(nk b (jC a b p)))),iP (jC a b p),bP (nU b (jC a b p))],bP false]) (.iC [.agg [ic (ia (mA a b p)),iP (jC a b p),bP (nD a b p)],bP (pO a b p)]) (by rw[eM,eS,eT];rfl))
  (λk1=>ae [tB 68 (bj k1),.j 158 ⟨109,true,[(10,.e (ic (ia (ni a b p)))),(11,.e (bP (nU b (jC a b p)))),(9,.e (ic (ia (a.m*2^((a.e-(jC a b p)).toNat))))),(8,.e (iP (jC a b p))),(6,.box 6 0)],[(6,.cells 210 [.v (.slice none 0 0),iP 0,bP false])]⟩
   (.w (nU b (jC a b p)=true)
    (λm1=>by
     have z6:(ia ((nk b (jC a b p))+1)).length<=256:=nJ (by rw[show(nk b (jC a b p))+1=ni a b p by(unfold ni;simp[k1,m1])];omega);exact ae [.v 79 (.bool m1),.o 82 (.e sE:aj (.sl false 1 1 λi_ j_=>[.v (.int .u32 1)].getD (i_*1+j_) (.v (.bool false))) (ic (ia 1))),ag [ic (ia (nk b (jC a b p))),ic (ia 1)] (JW _ _ aE aE aE)]<|.e (af [.o 10 (.e (.iM (by unfold ni;simp[k1,m1])):aj (ic (ia ((nk b (jC a b p))+1))) (ic (ia (ni a b p))))]))
    (λm1=>ae [.v 79 (.bool (bn m1))]<|.e (af [.o 10 (.e (.iM (by unfold ni;simp[k1,m1])):aj (ic (ia (nk b (jC a b p)))) (ic (ia (ni a b p))))]))),ag [ic (ia (a.m*2^((a.e-(jC a b p)).toNat))),ic (ia (ni a b p))] (Ad _ _ aE aE)]<|.w ((kE (a.m*2^((a.e-(jC a b p)).toNat)) (ni a b p))<0)
   (λk2=>by
    have hc:oo a b p<ni a b p:=Dr.1 k2;have eT:pO a b p=true:=by unfold pO;simp[k1,hc]
    have eM:mA a b p=ni a b p-oo a b p:=by unfold mA;rw[bu k1,bw hc]
    have eS:nD a b p=false:=by unfold nD;rw[eT];simp
    have z4:(ia (ni a b p-(a.m*2^((a.e-(jC a b p)).toNat)))).length<=256:=by have:=zm;rwa[eM]at this
    have z7:(a.m*2^((a.e-(jC a b p)).toNat))<=ni a b p:=dE hc;exact ae [tB 89 (bA k2),ag [ic (ia (ni a b p)),ic (ia (a.m*2^((a.e-(jC a b p)).toNat)))] (Gu _ _ aE aE aE)]<|rQ (.iC [.agg [ic (ia ((ni a b p)-(a.m*2^((a.e-(jC a b p)).toNat)))),iP (jC a b p),bP false],bP true]) (.iC [.agg [ic (ia (mA a b p)),iP (jC a b p),bP (nD a b p)],bP (pO a b p)]) (by rw[eM,eS,eT];rfl))
   (λk2=>by
    have hc:¬oo a b p<ni a b p:=λh=>k2 (Dr.2 h)
    have eT:pO a b p=false:=by unfold pO;simp[hc]
    have eM:mA a b p=oo a b p-ni a b p:=by unfold mA;rw[bu k1,bu hc]
    have eS:nD a b p=nU b (jC a b p):=by unfold nD;rw[eT];simp
    have z4:(ia ((a.m*2^((a.e-(jC a b p)).toNat))-ni a b p)).length<=256:=by have:=zm;rwa[eM]at this
    have z7:ni a b p<=(a.m*2^((a.e-(jC a b p)).toNat)):=fW hc;exact ae [tB 89 (bB k2),ag [ic (ia (a.m*2^((a.e-(jC a b p)).toNat))),ic (ia (ni a b p))] (Gu _ _ aE aE aE)]<|rQ (.iC [.agg [ic (ia ((a.m*2^((a.e-(jC a b p)).toNat))-(ni a b p))),iP (jC a b p),bP (nU b (jC a b p))],bP false]) (.iC [.agg [ic (ia (mA a b p)),iP (jC a b p),bP (nD a b p)],bP (pO a b p)]) (by rw[eM,eS,eT];rfl)))) 
def BC(p:Nat)(up:Bool):jf jD p up=jD/\jx jD p up=0:=by
 have hK:jj 0 0 p=0:=by unfold jj;rw[rq];omega
 have hQ:∀ o,kT 0 0 false p o=0:=by intro o;unfold kT;rw[hK];simp
 have hO:∀ o,mv 0 0 false p o=false:=by intro o;unfold mv;rw[hQ];simp
 unfold jf jx jY jP;simp only[jD,hO,hQ];exact⟨rfl,rfl⟩
def XP(a b:Dy)(p:Nat)(up:Bool)(ha:a.ik)(hb:b.ik)(iw:8<=p)(ij:p<=512):gZ 228 [ie a,ie b,iP p,bP up] (.iC [ie (jf (jc a b) p up),iP (jx (jc a b) p up)]):=by
 by_cases a0:a.m=0
 .have e1:jc a b=b:=by unfold jc;rw[bw a0]
  exact ak call228 func228 (ae [.o 16 (.e (wV _ _):aj (.sl true 2 3 λi_ j_=>(jq a++jq b).getD (i_*3+j_) (.v (.bool false))) (nP [a,b])),ag [iP p,nP [a,b]] (xB _ _ _ aF aF aE aE),ai 19 ((0:Int) != 0) aG,ah 26 (((ia a.m).length:Int)==0) (rF (rk.2 a0)),.c (Kk b p up aF aE aE)]<|rQ (.iC [ie (jf b p up),iP (jx b p up)]) (.iC [ie (jf (jc a b) p up),iP (jx (jc a b) p up)]) (by rw[e1])) 
 .by_cases b0:b.m=0
  .have e1:jc a b=a:=by unfold jc;rw[bu a0,bw b0]
   exact ak call228 func228 (ae [.o 16 (.e (wV _ _):aj (.sl true 2 3 λi_ j_=>(jq a++jq b).getD (i_*3+j_) (.v (.bool false))) (nP [a,b])),ag [iP p,nP [a,b]] (xB _ _ _ aF aF aE aE),ai 19 ((0:Int) != 0) aG,ai 26 (((ia a.m).length:Int)==0) (nC (ql a0)),ah 37 (((ia b.m).length:Int)==0) (rF (rk.2 b0)),.c (Kk a p up aF aE aE)]<|rQ (.iC [ie (jf a p up),iP (jx a p up)]) (.iC [ie (jf (jc a b) p up),iP (jx (jc a b) p up)]) (by rw[e1])) 
  .by_cases ht:a.iE<b.iE
   .have sw:a.iE<=b.iE:= aE ;have law:=Zl (p:=p) hb ha b0 a0 up;have siz:=KI hb ha b0 a0 sw ij;have prt:=PZ hb ha b0 a0 sw ij;obtain⟨l1,l2,_,_,_,_,_,_,_⟩:=siz;have z1:(ia (mA b a p)).length<=256:=nJ aE;have sO:=prt.2.2;have y1:-45000<=jC b a p:= aE ;have y2:jC b a p<=45000:= aE ;by_cases hz:mA b a p=0
    .by_cases hl:nD b a p=true
     .have h0:mA b a p≠0:=by intro q;have:=sO hl;rw[q,rq]at this;omega
      exact absurd hz h0
     .replace hz:mA b a p=0/\nD b a p=false:=⟨hz,by simpa using hl⟩
      have D6:jc a b=jD:=by rw[Zj a0 b0];exact law.1 hz
      exact ak call228 func228 (ae [.o 16 (.e (wV _ _):aj (.sl true 2 3 λi_ j_=>(jq a++jq b).getD (i_*3+j_) (.v (.bool false))) (nP [a,b])),ag [iP p,nP [a,b]] (xB _ _ _ aF aF aE aE),ai 19 ((0:Int) != 0) aG,ai 26 (((ia a.m).length:Int)==0) (nC (ql a0)),ai 37 (((ia b.m).length:Int)==0) (nC (ql b0)),ag [ie a] (pj _ aF),ag [ie b] (pj _ aF),tB 48 (bA ht),.c (Kl b a p aF aF aF aF aF aE aE),ah 61 (((ia (mA b a p)).length:Int)==0) (rF (rk.2 hz.1)),ai 64 (nD b a p) hz.2,.o 67 (.e s7:aj (.agg ar) (ie jD))]<|rQ (.iC [ie jD,iP 0]) (.iC [ie (jf (jc a b) p up),iP (jx (jc a b) p up)]) (by rw[D6,(BC p up).1,(BC p up).2])) 
    .have h0:mA b a p≠0\/mA b a p=0/\jC b a p=0/\nD b a p=false:=.inl hz;obtain⟨q1,q2⟩:=law.2 (λq=>hz q.1);rw[<-Zj a0 b0]at q1 q2;exact ak call228 func228 (ae [.o 16 (.e (wV _ _):aj (.sl true 2 3 λi_ j_=>(jq a++jq b).getD (i_*3+j_) (.v (.bool false))) (nP [a,b])),ag [iP p,nP [a,b]] (xB _ _ _ aF aF aE aE),ai 19 ((0:Int) != 0) aG,ai 26 (((ia a.m).length:Int)==0) (nC (ql a0)),ai 37 (((ia b.m).length:Int)==0) (nC (ql b0)),ag [ie a] (pj _ aF),ag [ie b] (pj _ aF),tB 48 (bA ht),.c (Kl b a p aF aF aF aF aF aE aE),ai 61 (((ia (mA b a p)).length:Int)==0) (nC (ql hz)),.c (GV (! (b.neg==(pO b a p))) (mA b a p) (jC b a p) (nD b a p) up p aE aF aE aE aE aE aF)]<|rQ (.iC [ie (jY (!(b.neg==(pO b a p))) (mA b a p) (jC b a p) (nD b a p) p up),iP (jP (!(b.neg==(pO b a p))) (mA b a p) (jC b a p) (nD b a p) p up)]) (.iC [ie (jf (jc a b) p up),iP (jx (jc a b) p up)]) (by rw[<-q1,<-q2];rfl)) 
   .have sw:b.iE<=a.iE:= aE ;have law:=Zl (p:=p) ha hb a0 b0 up;have siz:=KI ha hb a0 b0 sw ij;have prt:=PZ ha hb a0 b0 sw ij;obtain⟨l1,l2,_,_,_,_,_,_,_⟩:=siz;have z1:(ia (mA a b p)).length<=256:=nJ aE;have sO:=prt.2.2;have y1:-45000<=jC a b p:= aE ;have y2:jC a b p<=45000:= aE ;by_cases hz:mA a b p=0
    .by_cases hl:nD a b p=true
     .have h0:mA a b p≠0:=by intro q;have:=sO hl;rw[q,rq]at this;omega
      exact absurd hz h0
     .replace hz:mA a b p=0/\nD a b p=false:=⟨hz,by simpa using hl⟩
      have D6:jc a b=jD:=by exact law.1 hz
      exact ak call228 func228 (ae [.o 16 (.e (wV _ _):aj (.sl true 2 3 λi_ j_=>(jq a++jq b).getD (i_*3+j_) (.v (.bool false))) (nP [a,b])),ag [iP p,nP [a,b]] (xB _ _ _ aF aF aE aE),ai 19 ((0:Int) != 0) aG,ai 26 (((ia a.m).length:Int)==0) (nC (ql a0)),ai 37 (((ia b.m).length:Int)==0) (nC (ql b0)),ag [ie a] (pj _ aF),ag [ie b] (pj _ aF),tB 48 (bB ht),.c (Kl a b p aF aF aF aF aF aE aE),ah 61 (((ia (mA a b p)).length:Int)==0) (rF (rk.2 hz.1)),ai 64 (nD a b p) hz.2,.o 67 (.e s7:aj (.agg ar) (ie jD))]<|rQ (.iC [ie jD,iP 0]) (.iC [ie (jf (jc a b) p up),iP (jx (jc a b) p up)]) (by rw[D6,(BC p up).1,(BC p up).2])) 
    .have h0:mA a b p≠0\/mA a b p=0/\jC a b p=0/\nD a b p=false:=.inl hz;obtain⟨q1,q2⟩:=law.2 (λq=>hz q.1);exact ak call228 func228 (ae [.o 16 (.e (wV _ _):aj (.sl true 2 3 λi_ j_=>(jq a++jq b).getD (i_*3+j_) (.v (.bool false))) (nP [a,b])),ag [iP p,nP [a,b]] (xB _ _ _ aF aF aE aE),ai 19 ((0:Int) != 0) aG,ai 26 (((ia a.m).length:Int)==0) (nC (ql a0)),ai 37 (((ia b.m).length:Int)==0) (nC (ql b0)),ag [ie a] (pj _ aF),ag [ie b] (pj _ aF),tB 48 (bB ht),.c (Kl a b p aF aF aF aF aF aE aE),ai 61 (((ia (mA a b p)).length:Int)==0) (nC (ql hz)),.c (GV (! (a.neg==(pO a b p))) (mA a b p) (jC a b p) (nD a b p) up p aE aF aE aE aE aE aF)]<|rQ (.iC [ie (jY (!(a.neg==(pO a b p))) (mA a b p) (jC a b p) (nD a b p) p up),iP (jP (!(a.neg==(pO a b p))) (mA a b p) (jC a b p) (nD a b p) p up)]) (.iC [ie (jf (jc a b) p up),iP (jx (jc a b) p up)]) (by rw[<-q1,<-q2];rfl)) 
def XW(a b:Dy)(p:Nat)(up:Bool)(ha:a.ik)(hb:b.ik)(iw:8<=p)(ij:p<=512):gZ 264 [ie a,ie b,iP p,bP up] (.iC [ie (jf (mV a b) p up),iP (jx (mV a b) p up)]):=by
 by_cases a0:a.m=0
 .have e1:mV a b=jD:=by unfold mV;rw[a0,cP];rfl
  exact ak call264 func264 (ae [.o 16 (.e (wV _ _):aj (.sl true 2 3 λi_ j_=>(jq a++jq b).getD (i_*3+j_) (.v (.bool false))) (nP [a,b])),ag [iP p,nP [a,b]] (xB _ _ _ aF aF aE aE),ai 19 ((0:Int) != 0) aG,ah 25 (((ia a.m).length:Int)==0) (rF (rk.2 a0)),.o 32 (.e s7:aj (.agg ar) (ie jD))]<|rQ (.iC [ie jD,iP 0]) (.iC [ie (jf (mV a b) p up),iP (jx (mV a b) p up)]) (by rw[e1,(BC p up).1,(BC p up).2])) 
 .by_cases b0:b.m=0
  .have e1:mV a b=jD:=by unfold mV;rw[b0,cU];rfl
   exact ak call264 func264 (ae [.o 16 (.e (wV _ _):aj (.sl true 2 3 λi_ j_=>(jq a++jq b).getD (i_*3+j_) (.v (.bool false))) (nP [a,b])),ag [iP p,nP [a,b]] (xB _ _ _ aF aF aE aE),ai 19 ((0:Int) != 0) aG,ai 25 (((ia a.m).length:Int)==0) (nC (ql a0)),ah 30 (((ia b.m).length:Int)==0) (rF (rk.2 b0)),.o 32 (.e s7:aj (.agg ar) (ie jD))]<|rQ (.iC [ie jD,iP 0]) (.iC [ie (jf (mV a b) p up),iP (jx (mV a b) p up)]) (by rw[e1,(BC p up).1,(BC p up).2])) 
  .have va:=ha.ia;have vb:=hb.ia;have xa:=ha.exp;have xb:=hb.exp;have ra:=ha.range.resolve_left a0;have rb:=hb.range.resolve_left b0;have bm:=abA a.m b.m;have z1:(ia (a.m*b.m)).length<=256:=nJ aE;have m0:a.m*b.m≠0:=dV a0 b0;have h0:a.m*b.m≠0\/a.m*b.m=0/\a.e+b.e=0/\false=false:=.inl m0;have hm:false=true->p<iq (a.m*b.m):=λh=>by cases h
   obtain⟨q1,q2⟩:=Yi (a.neg != b.neg) up (a.m*b.m) (a.e+b.e) p m0;change jf (mV a b) p up=_ at q1;change jx (mV a b) p up=_ at q2;exact ak call264 func264 (ae [.o 16 (.e (wV _ _):aj (.sl true 2 3 λi_ j_=>(jq a++jq b).getD (i_*3+j_) (.v (.bool false))) (nP [a,b])),ag [iP p,nP [a,b]] (xB _ _ _ aF aF aE aE),ai 19 ((0:Int) != 0) aG,ai 25 (((ia a.m).length:Int)==0) (nC (ql a0)),ai 30 (((ia b.m).length:Int)==0) (nC (ql b0)),ag [ic (ia a.m),ic (ia b.m)] (Af _ _ aE aE aE),iz (a.e+b.e) aE,.c (GV (! (a.neg==b.neg)) (a.m*b.m) (a.e+b.e) false up p aE aF aE aE aE aE aF)]<|rQ (.iC [ie (jY (!(a.neg==b.neg)) (a.m*b.m) (a.e+b.e) false p up),iP (jP (!(a.neg==b.neg)) (a.m*b.m) (a.e+b.e) false p up)]) (.iC [ie (jf (mV a b) p up),iP (jx (mV a b) p up)]) (by rw[q1,q2];rfl)) 
def XO(a b:Dy)(p:Nat)(ha:a.ik)(hb:b.ik)(iw:8<=p)(ij:p<=512):gZ 149 [ie a,ie b,iP p] (.iC [ie (jf (jc a b) p false),iP (jx (jc a b) p false)]):=
 ak call149 func149 (af [.c (XP a b p false aF aF aE aE)]) 
def Ey(a b:Dy)(p:Nat)(ha:a.ik)(hb:b.ik)(iw:8<=p)(ij:p<=512):gZ 150 [ie a,ie b,iP p] (.iC [ie (jf (jc a b) p true),iP (jx (jc a b) p true)]):=
 ak call150 func150 (af [.c (XP a b p true aF aF aE aE)]) 
def Ki(a b:Dy)(p:Nat)(ha:a.ik)(hb:b.ik)(iw:8<=p)(ij:p<=512):gZ 189 [ie a,ie b,iP p] (.iC [ie (jf (mV a b) p false),iP (jx (mV a b) p false)]):=
 ak call189 func189 (af [.c (XW a b p false aF aF aE aE)]) 
def Kj(a b:Dy)(p:Nat)(ha:a.ik)(hb:b.ik)(iw:8<=p)(ij:p<=512):gZ 190 [ie a,ie b,iP p] (.iC [ie (jf (mV a b) p true),iP (jx (mV a b) p true)]):=
 ak call190 func190 (af [.c (XW a b p true aF aF aE aE)]) 
end Go.Proofs.YtkjkcjhacddojaaGreatDoor
namespace Go.Proofs.YtkjkcjhacddojaaGreatDoor.Fp
def ahp{U V P q:Nat}(hP:0<P)(hV:9223372036854775808<=V/P)(hUV:U<4294967296*V)(h1:q<=4294967295)(h2:q<=U/P/(V/P))(h3:q=4294967295\/U/P/(V/P)<=q):
 U/V<=q/\q<=U/V+1:=by
 have MR:0<V/P:= aE ;have wZ:0<V:=by
  apply ca;intro h;have:V=0:= aE ;rw[this,gH]at MR;omega
 have hVm:=cG V P;have hVr:=bM V hP;have hUm:=cG U P;have hUr:=bM U hP;constructor
 .
  rcases h3 with h3|h3
  .have:U/V<4294967296:=by rw[cA wZ];exact hUV
   omega
  .refine bG ?_ h3;rw[dq MR,dq hP,bL];have h4:V/P*P<=V:=du V P;exact bG (cO _ h4) (du U V)
 .
  have h4:q*(V/P)<=U/P:=(dq MR).1 h2;have h5:q*V<=q*(V/P)*P+q*P:=by
   have:V<=V/P*P+P:=by rw[bK];omega
   have:=cO q this;rw[bR,<-bL]at this;exact this
  have h6:q*(V/P)*P<=U:=bG (bX P h4) (du U P);have h7:(q+1)*P<=V/P*P:=bX P aE;have h8:V/P*P<=V:=du V P;have h9:q*V<U+V:=by
   rw[ct,ck]at h7;omega
  apply ca;intro h;have uH:(U/V+2)*V<=q*V:=bX V aE;have vQ:=cG U V;have h12:=bM U wZ;rw[ct,bK (U/V)]at uH;omega
def ac5{x v w third q rest:Nat}(hx:q*v+rest=x)(hq:q<=4294967295)(hw:w<4294967296)(hv:0<v)
 (h:4294967296<=rest\/q*w<=rest*4294967296+third):q<=(x*4294967296+third)/(v*4294967296+w):=by
 rw[dq aE,bR,<-hx];have e:q*(v*4294967296)=q*v*4294967296:=by rw[bL]
 rw[e,ct];rcases h with h|h
 .have h1:q*w<=4294967295*4294967295:=dp hq aE ;omega
 .omega
def R6{x v w third q rest:Nat}(hx:q*v+rest=x)(hv:0<v)(h:rest*4294967296+third<q*w):
 (x*4294967296+third)/(v*4294967296+w)<=q-1/\0<q/\(q-1)*v+(rest+v)=x:=by
 have hq:0<q:=by
  apply ca;intro h';have:q=0:= aE ;subst this;rw[cP]at h;omega
 obtain⟨r,rfl⟩:∃ r,q=r+1:=⟨q-1,aE⟩
 refine⟨?_,hq,?_⟩
 .have e1:(r+1)*(v*4294967296+w)=(r+1)*v*4294967296+(r+1)*w:=by rw[bR,<-bL]
  have e2:((r+1)*v+rest)*4294967296=(r+1)*v*4294967296+rest*4294967296:=ct _ _ _;have:(x*4294967296+third)/(v*4294967296+w)<r+1:=by
   have hd:0<v*4294967296+w:= aE ;have e4:x*4294967296=(r+1)*v*4294967296+rest*4294967296:=hx▸e2;refine(cA hd).2 ?_;rw[e1,e4];clear e1 e2 e4 hd hx hq;generalize (r+1)*v=a at *
   generalize (r+1)*w=z at *
   exact Nat.add_lt_add_left h _|>λh=>by rw[<-df]at h;exact h
  omega
 .have e3:(r+1)*v=r*v+v:=apH r v;rw[eu];rw[e3]at hx;clear e3 h hq;generalize r*v=a at *
  omega
def ac7{x v w third:Nat}(hv:0<v)(ht:third<4294967296):(x*4294967296+third)/(v*4294967296+w)<=x/v:=by
 have h1:(x*4294967296+third)/(v*4294967296+w)<=(x*4294967296+third)/(v*4294967296):=apI aE aE;refine bG h1 ?_;rw[bK v,<-cW];have:(x*4294967296+third)/4294967296=x:= aE ;rw[this];exact bC _
structure xO(O0:List Nat)(j q:Nat)(V:List Nat)(k:Nat)(O:List Nat)(c b:Nat):Prop where
 len:O.length=O0.length
 ok:iK O
 vl:val O+q*(4294967296^j*val (V.take k))=val O0+4294967296^(j+k)*(c+b)
 qC:∀ i,j+k<=i->O.getD i 0=O0.getD i 0
 Rk:c<4294967296
 Q1:b<=1
def xO.start{O0:List Nat}(h:iK O0)(j q:Nat)(V:List Nat):xO O0 j q V 0 O0 0 0:=
 ⟨rfl,h,by simp[val],λ_ _=>rfl,aG,aG⟩
def anT{q y c b u:Nat}(hq:q<=4294967295)(hy:y<4294967296)(hc:c<4294967296)(hb:b<=1)(hu:u<4294967296):
 q*y+c<18446744073709551616/\(q*y+c)/4294967296<4294967296 /\
 ((u+18446744073709551616-(q*y+c)%4294967296-b)%18446744073709551616)/9223372036854775808<=1 /\
 ((u+18446744073709551616-(q*y+c)%4294967296-b)%18446744073709551616)%4294967296+(q*y+c)%4294967296+b =
  u+4294967296*(((u+18446744073709551616-(q*y+c)%4294967296-b)%18446744073709551616)/9223372036854775808):=by
 have h1:q*y<=4294967295*4294967295:=dp hq aE;generalize q*y=z at *
 omega
def xO.step{O0 V O:List Nat}{j q k c b:Nat}(h:xO O0 j q V k O c b){u' b':Nat}(hk:k<V.length)(hj:j+V.length<O0.length)(hu:u'<4294967296)(hc:(q*V.getD k 0+c)/4294967296<4294967296)(hb:b'<=1)
 (hd:u'+(q*V.getD k 0+c)%4294967296+b=O.getD (j+k) 0+4294967296*b'):
 xO O0 j q V (k+1) (O.set (j+k) u') ((q*V.getD k 0+c)/4294967296) b':=by
 have qq:j+k<O.length:=by rw[h.len];omega
 refine⟨by rw[cV];exact h.len,h.ok.set _ hu,?_,λi hi=>?_,hc,hb⟩
 .have e:=dU (q*V.getD k 0+c) 4294967296;have h1:=yQ (x:=u') qq;have h2:=h.vl;have h3:u'+(q*V.getD k 0+c)+b=O.getD (j+k) 0+4294967296*((q*V.getD k 0+c)/4294967296+b'):= aE ;have h4:=congrArg (4294967296^(j+k) * ·) h3;simp only[bR]at h4;rw[vq,bR (4294967296^j),bR q,<-bL (4294967296^j),<-bE,show q*(4294967296^(j+k)*V.getD k 0)=4294967296^(j+k)*(q*V.getD k 0)from de _ _ _,
   show j+(k+1)=j+k+1 from rfl,bH,bL,bR 4294967296,bR (4294967296^(j+k))]
  rw[bR]at h2;omega
 .rw [vP aE];exact h.qC i aE 
def xO.N5{O0 V O:List Nat}{j q c b:Nat}(h:xO O0 j q V V.length O c b)(hj:j+V.length<O0.length){t:Nat}
 (ht:t=(O.getD (j+V.length) 0+18446744073709551616-c-b)%18446744073709551616):
 (O.set (j+V.length) (t%4294967296)).length=O0.length/\iK (O.set (j+V.length) (t%4294967296))/\t/9223372036854775808<=1 /\
 val (O.set (j+V.length) (t%4294967296))+q*(4294967296^j*val V)=val O0+4294967296^(j+V.length+1)*(t/9223372036854775808) /\
 ∀ i,j+V.length<i->(O.set (j+V.length) (t%4294967296)).getD i 0=O0.getD i 0:=by
 have qq:j+V.length<O.length:=by rw[h.len];omega
 have hc:=h.Rk;have hb:=h.Q1;have hu:=h.ok.getD (j+V.length);have hd:t%4294967296+c+b=O.getD (j+V.length) 0+4294967296*(t/9223372036854775808):= aE ;refine⟨by rw[cV];exact h.len,h.ok.set _ (bM _ aG),aE,?_,λi hi=>by rw[vP aE];exact h.qC i aE⟩;have h1:=yQ (x:=t%4294967296) qq;have h2:=h.vl;rw[fR]at h2;have h4:=congrArg (4294967296^(j+V.length) * ·) hd;simp only[bR]at h4;rw[bH,bL];rw[bR]at h2;omega
structure xM(O0:List Nat)(j:Nat)(V:List Nat)(k:Nat)(O:List Nat)(c:Nat):Prop where
 len:O.length=O0.length
 ok:iK O
 vl:val O+4294967296^(j+k)*c=val O0+4294967296^j*val (V.take k)
 qC:∀ i,j+k<=i->O.getD i 0=O0.getD i 0
 LF:c<=1
def xM.start{O0:List Nat}(h:iK O0)(j:Nat)(V:List Nat):xM O0 j V 0 O0 0:=
 ⟨rfl,h,by simp[val],λ_ _=>rfl,aG⟩
def xM.step{O0 V O:List Nat}{j k c:Nat}(h:xM O0 j V k O c)(hV:iK V)(hk:k<V.length)(hj:j+V.length<O0.length):
 xM O0 j V (k+1) (O.set (j+k) ((O.getD (j+k) 0+V.getD k 0+c)%4294967296)) ((O.getD (j+k) 0+V.getD k 0+c)/4294967296):=by
 have qq:j+k<O.length:=by rw[h.len];omega
 have hu:=h.ok.getD (j+k);have hy:=hV.getD k;have hc:=h.LF;refine⟨by rw[cV];exact h.len,h.ok.set _ (bM _ aG),?_,λi hi=>by rw[vP aE];exact h.qC i aE,aE⟩;have h1:=yQ (x:=(O.getD (j+k) 0+V.getD k 0+c)%4294967296) qq;have h2:=h.vl;have h4:=congrArg (4294967296^(j+k) * ·) (dU (O.getD (j+k) 0+V.getD k 0+c) 4294967296);simp only[bR]at h4;rw[vq,bR (4294967296^j),<-bL (4294967296^j),<-bE,show j+(k+1)=j+k+1 from rfl,bH,bL];omega
def xM.N5{O0 V O:List Nat}{j c:Nat}(h:xM O0 j V V.length O c)(hj:j+V.length<O0.length):
 (O.set (j+V.length) ((O.getD (j+V.length) 0+c)%4294967296)).length=O0.length/\iK (O.set (j+V.length) ((O.getD (j+V.length) 0+c)%4294967296)) /\
 (∃ κ,κ<=1/\val (O.set (j+V.length) ((O.getD (j+V.length) 0+c)%4294967296))+4294967296^(j+V.length+1)*κ=val O0+4294967296^j*val V) /\
 ∀ i,j+V.length<i->(O.set (j+V.length) ((O.getD (j+V.length) 0+c)%4294967296)).getD i 0=O0.getD i 0:=by
 have qq:j+V.length<O.length:=by rw[h.len];omega
 have hu:=h.ok.getD (j+V.length);have hc:=h.LF;refine⟨by rw[cV];exact h.len,h.ok.set _ (bM _ aG),⟨(O.getD (j+V.length) 0+c)/4294967296,aE,?_⟩,λi hi=>by rw[vP aE];exact h.qC i aE⟩;have h1:=yQ (x:=(O.getD (j+V.length) 0+c)%4294967296) qq;have h2:=h.vl;rw[fR]at h2;have h4:=congrArg (4294967296^(j+V.length) * ·) (dU (O.getD (j+V.length) 0+c) 4294967296);simp only[bR]at h4;rw[bH,bL];omega
def KY{O:List Nat}(h:iK O){k:Nat}(hz:∀ i,k<=i->O.getD i 0=0):val O<4294967296^k:=by
 by_cases hk:O.length<=k
 .exact bW (mJ h) (bN aG hk)
 .rw [EU O k aE];have:val (O.drop k)=0:=by
   rw[Hl];intro x hx;obtain⟨i,hi⟩:=dJ.1 hx;rw[e9]at hi;have:=hz (k+i) aE;rw[bD,hi]at this;exact this
  rw[this,cU,bT];have h1:=mJ (h.take k);rw[cJ,dB aE]at h1;exact h1
def an4{O:List Nat}(h:iK O){k:Nat}(hv:val O<4294967296^k){i:Nat}(hi:k<=i):O.getD i 0=0:=by
 have h1:val (O.drop k)=0:=by rw[Hk h,cF hv]
 rw[Hl]at h1;rw[bD];cases hg:O[i]? with
 |none=>rfl
 |some x=>exact h1 x (dJ.2 ⟨i-k,by rw[e9,(aE:k+(i-k)=i)];exact hg⟩)
def R7{u u' V P x:Nat}(hP:0<P)(hV:0<V)(h:u'+x*(P*V)=u)(hx:u/P/V<=x):x=u/P/V/\u'<V*P:=by
 have h1:x*V<=u/P:=by
  rw[dq hP,bL,bK V P];omega
 have h2:x<=u/P/V:=(dq hV).2 h1;have h3:x=u/P/V:= aE ;refine⟨h3,?_⟩;have e1:=cG u P;have e2:=bM u hP;have e3:=cG (u/P) V;have e4:=bM (u/P) hV;rw[<-h3]at e3;have e5:P*(u/P)=x*(P*V)+P*(u/P%V):=by
  rw[<-e3,bR,e3,bK V x,de]
 have e6:P*(u/P%V)+P<=V*P:=by
  rw[bK V P,<-Nat.mul_succ];exact cO P e4
 omega
def ac6{u u' u'' V P R x κ:Nat}(hP:0<P)(hV:0<V)(h:u'+x*(P*V)=u+R)(h':u'<R)(hx:x<=u/P/V+1)
 (hk:κ<=1) (h2:u''+R*κ=u'+P*V) (h3:u''<R):0<x/\x-1=u/P/V/\u''+(x-1)*(P*V)=u/\u''<V*P:=by
 have mT:u/P<x*V:=by
  rw[cA hP,bL,bK V P];omega
 have Cp:u/P/V<x:=by rw[cA hV];exact mT
 have sy:x=u/P/V+1:=Nat.le_antisymm hx Cp;obtain⟨y,hy⟩:∃ y,y=u/P/V:=⟨_,rfl⟩
 rw[<-hy]at sy;subst sy;rw[eu];have e0:(y+1)*(P*V)=y*(P*V)+P*V:=apH _ _;have e1:y*(P*V)<=u:=by
  have:y*V<=u/P:=by rw[hy];exact du _ _
  have:=(dq hP).1 this;rw[bL,bK V P]at this;exact this
 have hκ:κ=1:=by
  apply ca;intro q;obtain rfl:κ=0:= aE ;omega
 subst hκ;have e2:u''+y*(P*V)=u:= aE ;exact⟨aE,hy,e2,(R7 hP hV e2 aE).2⟩
def tc(q rest third v w x:Nat):Prop:=rest+x*v<4294967296/\(rest+x*v)*4294967296+third<(q-x)*w
def R4{X q rest third v w:Nat}(hx:q*v+rest=X)(hq:q<=4294967295)(hv:2147483648<=v)(hw:w<4294967296):
 ∃ N,N<=2/\N<=q/\(∀ x,x<N->tc q rest third v w x)/\¬tc q rest third v w N/\q-N<=(X*4294967296+third)/(v*4294967296+w)/\(N=0\/(X*4294967296+third)/(v*4294967296+w)<=q-N):=by
 have stop:∀ {q' r':Nat},q'*v+r'=X->q'<=4294967295->¬(r'<4294967296/\r'*4294967296+third<q'*w)->q'<=(X*4294967296+third)/(v*4294967296+w):=fun {q' r'} h1 h2 h3=>
  ac5 h1 h2 hw aE (by
   by_cases hr:4294967296<=r'
   .exact .inl hr
   .refine .inr (fW λhn=>h3 ⟨apJ hr,hn⟩))
 by_cases h0:tc q rest third v w 0
 .have g0:=h0;unfold tc at g0;rw[cP,bT,dM]at g0;obtain⟨k1,k2,k3⟩:=R6 hx aE g0.2;by_cases h1:tc q rest third v w 1
  .have g1:=h1;unfold tc at g1;rw[ck]at g1;obtain⟨l1,l2,l3⟩:=R6 k3 aE g1.2;have h2:¬tc q rest third v w 2:=λh=>by unfold tc at h;omega
   refine⟨2,bC _,aE,λx hx=>?_,h2,?_,.inr l1⟩
   .obtain rfl|rfl:x=0\/x=1:= aE 
    .exact h0
    .exact h1
   .refine stop (r':=rest+v+v) l3 aE λh=> aE 
  .refine ⟨1,aG,k2,λx hx=>?_,h1,?_,.inr k1⟩
   .obtain rfl:x=0:= aE ;exact h0
   .unfold tc at h1;rw[ck]at h1;exact stop k3 aE h1
 .refine ⟨0,aG,cj _,λx hx=>absurd hx (bO x),h0,?_,.inl rfl⟩;unfold tc at h0;rw[cP,bT,dM]at h0;exact stop hx hq h0
def adw{a b s q r:Nat}(hb:0<b)(h:r+b*2^s*q=a*2^s)(hr:r<b*2^s):q=a/b/\r=a%b*2^s:=by
 have hp:0<2^s:=bF aG;have h1:r%2^s=0:=by
  have:=congrArg (· % 2^s) h;simp only[gj]at this;rw[bL,de,eH]at this;exact this
 obtain⟨t,ht⟩:∃ t,r=t*2^s:=⟨r/2^s,by rw[Nat.div_mul_cancel (Nat.dvd_of_mod_eq_zero h1)]⟩
 subst ht;have h2:(t+b*q)*2^s=a*2^s:=by rw[ct,<-h,gi]
 have h3:=aqz hp h2;have h4:t<b:=aqA hr;constructor
 .rw [<-h3,fz _ _ hb,cF h4,cD]
 .rw [<-h3,eH,bU h4]
def ZA{O:List Nat}(h:iK O){j n:Nat}(hn:2<=n)(hz:∀ i,j+n<i->O.getD i 0=0):
 val O/4294967296^j/4294967296^(n-2)=(O.getD (j+n) 0*4294967296+O.getD (j+n-1) 0)*4294967296+O.getD (j+n-2) 0:=by
 rw[cW,<-bE,<-Hk h];have e:∀ (l:List Nat),iK l->(∀ i,2<i->l.getD i 0=0)->val l=(l.getD 2 0*4294967296+l.getD 1 0)*4294967296+l.getD 0 0:=by
  intro l hl hz;rcases l with _|⟨a,_|⟨b,_|⟨c,l⟩⟩⟩
  .rfl
  .simp [val]
  .simp [val];omega
  .have:val l=0:=by
    rw[Hl];intro x hx;obtain⟨i,hi⟩:=dJ.1 hx;have:=hz (i+3) aE;rw[bD]at this;simp only[aqq,hi]at this;exact this
   simp[val,this];omega
 have g:∀ i,(O.drop (j+(n-2))).getD i 0=O.getD (j+(n-2)+i) 0:=λi=>by
  rw[bD,e9,bD]
 rw[e _ (h.drop _) (λi hi=>by rw[g];exact hz _ aE),g,g,g];rw[(aE:j+(n-2)+2=j+n),(aE:j+(n-2)+1=j+n-1),(aE:j+(n-2)+0=j+n-2)]
def an2{V:List Nat}(h:iK V){n:Nat}(hn:2<=n)(hl:V.length=n):val V/4294967296^(n-2)=V.getD (n-1) 0*4294967296+V.getD (n-2) 0:=by
 have:=ZA (O:=V) h (j:=0) (n:=n) hn (λi hi=>by rw[bD,cC aE];rfl);rw[cw,eo,cD]at this;rw[this,show V.getD n 0=0 by rw[bD,cC aE];rfl];omega
end Go.Proofs.YtkjkcjhacddojaaGreatDoor.Fp
namespace Go.Proofs.YtkjkcjhacddojaaGreatDoor
open Go.RowKit Fp
def Rx(w:World)(b:Nat)(L:List Nat)(R:List Value):Prop:=w.heap[b]? = some (.cells (oO L++R).toArray 150 (0,0))
section
variable {w w':World} {b:Nat} {L:List Nat} {R:List Value}
def Rx.lt(h:Rx w b L R):b<w.heap.size:=(dv.1 h).1
def Rx.cell(h:Rx w b L R){i:Nat}(hi:i<L.length):w.cell? ⟨b,i,none⟩=some (.int .u32 (L.getD i 0:Int)):=by
 unfold Rx at h;simp only[World.cell?,h];simp[oO,hi,gn]
def Rx.frozen(h:Rx w b L R)(i:Nat):w.frozen? ⟨b,i,none⟩=false:=by
 unfold Rx at h;simp[World.frozen?,h]
def Rx.set(h:Rx w b L R){i:Nat}(hi:i<L.length)(x:Nat):Rx (w.setCell ⟨b,i,none⟩ (.int .u32 (x:Int))) b (L.set i x) R:=by
 unfold Rx at h ⊢;simp only[World.setCell,dw,h];simp[oO,List.map_set,List.set_append,hi]
def Rx.qC(h:Rx w b L R)(hb:w'.heap[b]? = w.heap[b]?):Rx w' b L R:=by unfold Rx at h ⊢;rw[hb];exact h
end
structure s8(b:Nat)(w w':World):Prop where
 below:Below b w w'
 size:w'.heap.size=w.heap.size
 qk:∀ x,x≠b->w'.heap[x]? = w.heap[x]?
def s8.refl(b:Nat)(w:World):s8 b w w:=⟨Below.refl _ _,rfl,λ_ _=>rfl⟩
def s8.G8{b:Nat}{w w':World}(h:s8 b w w')(i:Nat)(v:Value):s8 b w (w'.setCell ⟨b,i,none⟩ v):=
 ⟨h.below.setCell (p:=⟨b,i,none⟩) (bC _) v,by
  have:(w'.setCell ⟨b,i,none⟩ v).heap.size=w'.heap.size:=by simp[World.setCell]
  rw[this,h.size],λx hx=>by
  rw[<-h.qk x hx];simp only[World.setCell,dw];rw[bu (λe=>hx e.symm)]⟩
def Qj(b:Nat)(A:Option Addr):Prop:=∀ b' o s,A=some ⟨b',o,s⟩->b'≠b
def Sl.qk{w w':World}{A:Option Addr}{c b:Nat}{L:List Nat}(h:Sl w A c L)(ha:Qj b A)(ho:s8 b w w'):Sl w' A c L:=
 ⟨h.cap,h.qx,h.ok,h.xw,λi x hx=>by
  obtain⟨b',o,e,h1,h2⟩:=h.cell i x hx;refine⟨b',o,e,by rw[ho.size];exact h1,?_⟩;rw[<-h2];exact(World.cell?_of_block (w:=w) (w':=w') (ho.qk b' (ha _ _ _ e)))⟩
def Z8{u m b:Nat}(hm:m<4294967296)(hb:b<=4294967296):
 IntKind.u64.wrap (IntKind.u64.wrap ((u:Int)-m)-(b:Int))=(((u+18446744073709551616-m-b)%18446744073709551616:Nat):Int):=by
 rw[IntKind.wrap_u64,IntKind.wrap_u64];omega
def anS(b j cu c q:Nat)(O V:List Nat)(R:List Value)(A:Option Addr)(w:World)(hu:Rx w b O R)(hv:Sl w A c V)(hA:Qj b A)(lE:iK O)(hj:j+V.length<O.length)(hq:q<=4294967295)(hl:O.length<=1000000):
 Calls prog 378 #[.slice (some ⟨b,j,none⟩) (V.length+1) cu,.slice A V.length c,.int .u64 q] w λe w'=>∃ (O':List Nat) (δ:Nat),e = .returned (.bool (decide (δ=1)))/\Rx w' b O' R/\O'.length=O.length/\iK O'/\δ<=1 /\
  val O'+q*(4294967296^j*val V)=val O+4294967296^(j+V.length+1)*δ/\(∀ i,j+V.length<i->O'.getD i 0=O.getD i 0)/\s8 b w w':=by
 obtain⟨n,hn⟩:∃ n,n=V.length:=⟨_,rfl⟩
 rw[<-hn]at hj ⊢;have HN:=aqG hn;have HJ:=aqG hj;clear hn;have kx:n<=1000000:= aE ;have rW:j<=1000000:= aE ;clear hj;have HT0:=aqG (xO.start lE j q V);clear lE;have HO:=aqG (s8.refl b w);have HU:=aqG hu;clear hu;go_enter func378,ntmps378;go_wp2;go_loopw [7,8,9,10,11,12,16] (λcy bo _ _ _ _ i wr=>∃ (k c' b':Nat) (O':List Nat),k<=n/\i = .int .i64 k/\cy = .int .u64 c'/\bo = .int .u64 b'/\xO O j q V k O' c' b'/\Rx wr b O' R/\s8 b w wr) (λ_ _ _ _ _ _ i _=>n-(intOf i).toNat)
 case atStart=>
  exact⟨0,0,0,O,cj _,rfl,rfl,rfl,HT0.out,HU.out,HO.out⟩
 case round=>
  obtain⟨k,c',b',O',hk,rfl,rfl,rfl,ht,hR,ho⟩:=hrel;clear HT0 HO HU;have HTk:=aqG ht;have kP:=ht.Q1;have FH:=ht.Rk;have HOl:=aqG ht.len;clear ht;have Ny:=hv.qk hA ho;by_cases iL:k<n
  .have zJ:k<V.length:=by rw[<-HN.out];exact iL
   obtain⟨ab,ao,e1,_,c1⟩:=Ny.lR zJ;have pY:V.getD k 0<4294967296:=hv.ok.getD k;have UY:V[k]=V.getD k 0:=by simp[bD,zJ]
   rw[UY]at c1;have qq:j+k<O'.length:=by rw[HOl.out];have:=HJ.out;omega
   have c2:=hR.cell qq;have c3:=hR.frozen (j+k);have FZ:O'.getD (j+k) 0<4294967296:=HTk.out.ok.getD _;obtain⟨tA,kV,D5,UG⟩:=anT hq pY FH kP FZ;have HST:=aqG (HTk.out.step (b':=((O'.getD (j+k) 0+18446744073709551616-(q*V.getD k 0+c')%4294967296-b')%18446744073709551616)/9223372036854775808) zJ (by rw[<-HN.out];exact HJ.out) (bM _ aG) kV D5 UG);have HRS:=aqG (λx:Nat=>hR.set qq x);have HOS:=aqG (λ(v:Value)=>ho.G8 (j+k) v);clear hR ho HTk qq UY zJ UG HOl Ny;subst e1;have hm1:q*V.getD k 0<=4294967295*4294967295:=dp hq aE;have zT:IntKind.u64.wrap ((q:Int)*(V.getD k 0:Int))=((q*V.getD k 0:Nat):Int):=by rw[<-ez];exact pZ _ aE 
   generalize V.getD k 0=y at *
   generalize q*y=z at *
   have Jy:IntKind.u64.wrap ((z:Int)+c')=((z+c':Nat):Int):=by rw[<-fj];exact pZ _ aE 
   generalize O'.getD (j+k) 0=u at *
   generalize z+c'=s at *
   have uO:bits .and .u64 (s:Int) 4294967295=((s%4294967296:Nat):Int):=by rw[wQ s aE];omega
   have apo:s%4294967296<4294967296:=bM _ aG;have hd:(s:Int)/4294967296=((s/4294967296:Nat):Int):= aE ;generalize s%4294967296=m at *
   generalize s/4294967296=s2 at *
   have FV:=Z8 (u:=u) (m:=m) (b:=b') aE aE;generalize (u+18446744073709551616-m-b')%18446744073709551616=t at *
   have yl:(j:Int)+k=((j+k:Nat):Int):= aE ;go_wp2;go_roundw
   case rel=>
    have e1:((t:Int)%4294967296)=((t%4294967296:Nat):Int):= aE ;exact⟨k+1,s2,t/9223372036854775808,O'.set (j+k) (t%4294967296),aE,by go_num,by go_num,by go_num,HST.out,by rw[e1];exact HRS.out _,HOS.out _⟩
   case measure=>simp[intOf];omega
  .obtain rfl:k=n:= aE ;have Ng:j+k<O.length:=HJ.out;have HTk':=aqG (show xO O j q V V.length O' c' b' by rw[<-HN.out];exact HTk.out);have HL:=HTk'.out.N5 (t:=(O'.getD (j+k) 0+18446744073709551616-c'-b')%18446744073709551616) (by rw[<-HN.out];exact Ng) (by rw[<-HN.out]);rw[<-HN.out]at HL;have HT:=aqG HL;clear HL;have qq:j+k<O'.length:=by rw[HOl.out];exact Ng
   have c2:=hR.cell qq;have c3:=hR.frozen (j+k);have FZ:O'.getD (j+k) 0<4294967296:=HTk.out.ok.getD _;have HRS:=aqG (λx:Nat=>hR.set qq x);have HOS:=aqG (λ(v:Value)=>ho.G8 (j+k) v);clear hR ho HTk HTk' qq Ng HOl Ny;generalize O'.getD (j+k) 0=u at *
   have FV:=Z8 (u:=u) (m:=c') (b:=b') FH aE;have htl:(u+18446744073709551616-c'-b')%18446744073709551616<18446744073709551616:=bM _ aG;generalize (u+18446744073709551616-c'-b')%18446744073709551616=t at *
   have yl:(j:Int)+k=((j+k:Nat):Int):= aE ;go_wp2;go_ret;have e1:((t:Int)%4294967296)=((t%4294967296:Nat):Int):= aE ;obtain⟨t1,t2,t3,t4,t5⟩:=HT.out;exact⟨O'.set (j+k) (t%4294967296),t/9223372036854775808,Yg (a:=(((t:Int)/9223372036854775808)==1)) (by rw[ep,beq_iff_eq,gY];omega),by rw[e1];exact HRS.out _,t1,t2,t3,t4,t5,HOS.out _⟩
def Wt(A:Option Addr)(c:Nat)(L:List Nat)(n:Nat)(w:World)(hs:Sl w A c L)(hlen:L.length<=100000000)(hn:n<=65536):
 Calls prog 275 #[.slice A L.length c,.int .i64 n] w (λe w'=>∃ T v,e = .returned v/\val T=val L*2^n/\T.length=n/32+(ix L).length+1/\Ow w' w.heap.size v T/\iJ w w'):=by
 have hT:=aqG (uZ A c L w hs);have kV:=hs.ur;have nR:=pq L;have hC:=kV.cap;have hL:=hs.qx;unfold mC at nR;have hv:=aqG (oZ L);generalize ix L=M at *
 obtain⟨m,hm⟩:∃ m,m=M.length:=⟨_,rfl⟩
 rw[<-hm]at hT nR hC;have HM:=aqG hm;clear hm;have pH:=Oe (n/32) (n/32+m+1) aE aE;rw[show((n/32:Nat):Int)=n/32 by omega,show((n/32+m+1:Nat):Int)=n/32+m+1 by omega]at pH;have FF:=aqG (Ow.yD w w.heap.size (n/32) (n/32+m+1) (bC _) aE aE);go_enter func275,ntmps275;go_wp2_with fail;refine hT.out.mono ?_;rintro e w' ⟨rfl,rfl⟩;go_wp2;go_loopw [5,6,23] (λv cy i wr=>∃ (k q:Nat) (O:List Nat),k<=m/\i = .int .i64 k/\cy = .int .u64 q/\q<2^(n%32)/\O.length=n/32+k/\val O+4294967296^(n/32+k)*q=val (M.take k)*2^(n%32)*4294967296^(n/32)/\Ow wr w.heap.size v O/\iJ w wr) (λ_ _ i _=>m-(intOf i).toNat)
 case atStart=>
  exact⟨0,0,List.replicate (n/32) 0,cj _,rfl,rfl,bF aG,aK,by simp[AB],FF.out,iJ.alloc _ _⟩
 case round=>
  obtain⟨k,q,O,hk,rfl,rfl,hq,hO,lP,lM,hb⟩:=hrel;have HV:=aqG lP;have HO:=aqG hO;have FE:O.length<=200000000:= aE ;have uQ:=aqG hq;clear lP hO hq;obtain⟨OA,Oc,rfl,zO⟩:=lM.sl;by_cases iL:k<m
  .have pG:k<M.length:=by have:=HM.out;omega
   obtain⟨ab,ao,rfl,_,c1⟩:=(kV.below hb).lR pG;have nd:M[k]<4294967296:=kV.ok.get pG;have HX:=aqG (PN (c:=q) (s:=n%32) (n0:=n/32) pG HO.out HV.out);generalize M[k]=x at *
   obtain⟨hw,zU,ug⟩:=PO x q (n%32) nd (bM _ aG) uQ.out;generalize x*2^(n%32)+q=z at *
   have F3:=aqG ug;clear ug;have lW:O.length+[z%4294967296].length<=10000000000:= aS ;go_wp2_with (at_builtin;go_must (refine rp aJ _ _ aJ w.heap.size _ O aJ (lM.alloc _) _ _ _ [z%4294967296] aJ aJ (Sl.tG _ _ (z%4294967296) aE aE) lW (qw hb.size _) ?_);intro v' w1 o9 hg pD)
   go_roundw
   case rel=>
    exact⟨k+1,z/4294967296,O++[z%4294967296],aE,by go_num,by go_num,F3.out,by rw[cE,HO.out];rfl,HX.out,o9,(hb.trans (iJ.alloc _ _)).own _ _ (lM.alloc _) hg⟩
   case measure=>simp[intOf];omega
  .obtain rfl:k=m:= aE ;have lW:O.length+[q].length<=10000000000:= aS ;have Jp:q<4294967296:=by
    have:=uQ.out;have hp:2^(n%32)<=2^31:=bN aG aE;have e31:(2:Nat)^31=2147483648:= aG ;omega
   have UF:(q:Int)%4294967296=q:= aE ;go_wp2_with (at_builtin;go_must (refine rp aJ _ _ aJ w.heap.size _ O aJ (lM.alloc _) _ _ _ [q] aJ aJ (Sl.tG _ _ q aE aE) lW (qw hb.size _) ?_);intro v' w1 o9 hg pD)
   go_ret;refine⟨O++[q],v',rfl,?_,by rw[cE,HO.out,<-HM.out];rfl,o9,(hb.trans (iJ.alloc _ _)).own _ _ (lM.alloc _) hg⟩;have h:=HV.out;rw[cT (by rw[HM.out];exact bC _)]at h;rw[vk,HO.out,qO,Az,cU,bT,h,<-hv.out,oE,bL,<-bE];congr 2;omega
end Go.Proofs.YtkjkcjhacddojaaGreatDoor
namespace Go.Proofs.YtkjkcjhacddojaaGreatDoor.Fp
def iI(n k:Nat):Nat:=n/4294967296^k%4294967296
def qb(n k:Nat):iI n k<4294967296:=bM _ aG 
def BY(k:Nat):iI 0 k=0:=by unfold iI;rw[gH]
def pw(k:Nat):0<4294967296^k:=bF aG 
def qc{L:List Nat}(h:iK L)(k:Nat):L.getD k 0=iI (val L) k:=by
 unfold iI;rw[<-Hk h];by_cases hk:k<L.length
 .rw [fC hk,show val (L[k]::L.drop (k+1))=L[k]+4294967296*val (L.drop (k+1))from rfl,eH,bU (h.get hk)];simp[bD,hk]
 .rw [eI aE,bD,cC aE];rfl
def mod_succ(n k:Nat):n%4294967296^(k+1)=n%4294967296^k+4294967296^k*iI n k:=by
 rw[bH,gG];rfl
def vH{n k:Nat}(h:n<4294967296^k){j:Nat}(hj:k<=j):iI n j=0:=by
 unfold iI;rw[cF (bW h (bN aG hj))]
def iT(n m:Nat):List Nat:=(List.range m).map (iI n)
def nf(n m:Nat):(iT n m).length=m:=by simp[iT]
def sK(n m:Nat):iK (iT n m):=λx hx=>by
 obtain⟨k,_,rfl⟩:=dC.1 hx;exact qb n k
def tU{n m k:Nat}(h:k<m):(iT n m).getD k 0=iI n k:=by
 simp[iT,bD,h]
def IA(m i:Nat):(iT 0 m).getD i 0=0:=by
 by_cases h:i<m
 .rw [tU h,BY]
 .rw [bD,cC (by rw[nf];omega)];rfl
def ac8(n m:Nat):iT n (m+1)=iT n m++[iI n m]:=by simp[iT,List.range_succ]
def vo(n m:Nat):val (iT n m)=n%4294967296^m:=by
 induction m with
 |zero=>simp[iT,val];omega
 |succ m ih=>
  rw[ac8,vk,ih,nf,mod_succ];rfl
def aoD{L M:List Nat}(hL:iK L)(hM:iK M)(hl:L.length=M.length)(hv:val L=val M):L=M:=by
 apply apK hl;intro i h1 h2;have e1:=qc hL i;have e2:=qc hM i;rw[hv,<-e2]at e1;simpa[bD,h1,h2]using e1
def ac9{L:List Nat}(h:iK L):iT (val L) L.length=L:=
 aoD (sK _ _) h (nf _ _) (by rw[vo,bU (mJ h)])
def Du{L:List Nat}{n m:Nat}(h:iK L)(hl:L.length=m)(hv:val L=n):iT n m=L:=by subst hl hv;exact ac9 h
def C9{n m:Nat}(h:n<4294967296^m):ix (iT n m)=ia n:=by
 rw[qN (sK n m),vo,bU h]
def LX(n:Nat):iT n (ia n).length=ia n:=Du (kR n) rfl (kf n)
def kY(a b k m:Nat):List Nat:=(List.range m).map λj=>if j<k then iI a j else iI b j
def uY(a b k m:Nat):(kY a b k m).length=m:=by simp[kY]
def aij{a b k m j:Nat}(h:j<m):(kY a b k m).getD j 0=if j<k then iI a j else iI b j:=by
 simp[kY,bD,h]
def Gk{a b k m:Nat}(h:k<m):(kY a b k m).getD k 0=iI b k:=by rw[aij h,bu (fp k)]
def Gl(a b m:Nat):kY a b 0 m=iT b m:=by simp[kY,iT]
def JT{a b k m:Nat}(h:m<=k):kY a b k m=iT a m:=by
 unfold kY iT;exact fh λj hj=>bw (bW (bY.1 hj) h)
def JU{a b k m:Nat}:(kY a b k m).set k (iI a k)=kY a b (k+1) m:=by
 apply apK
 .simp [kY]
 .intro j h1 h2;have hj:j<m:=by simpa[kY]using h2
  rw[aqi];by_cases h:k=j
  .subst h;simp[kY]
  .rw [bu h];simp only[kY,apL,aqj];by_cases q:j<k
   .rw [bw q,bw aE]
   .rw [bu q,bu aE]
def aik{a b k m:Nat}:(kY a b (k+1) m).set k (iI b k)=kY a b k m:=by
 apply apK
 .simp [kY]
 .intro j h1 h2;have hj:j<m:=by simpa[kY]using h2
  rw[aqi];by_cases h:k=j
  .subst h;simp[kY]
  .rw [bu h];simp only[kY,apL,aqj];by_cases q:j<k
   .rw [bw q,bw aE]
   .rw [bu q,bu aE]
def L4(a k:Nat):a/4294967296^k=4294967296*(a/4294967296^(k+1))+iI a k:=by
 rw[bH,<-cW];unfold iI;omega
def amD{a d k:Nat}(hd:0<d)(sM:d<4294967296):(a/4294967296^(k+1)%d*4294967296+iI a k)/d=iI (a/d) k/\(a/4294967296^(k+1)%d*4294967296+iI a k)%d=a/4294967296^k%d:=by
 have e1:=L4 a k;have e2:=cG (a/4294967296^(k+1)) d;have e3:=bM (a/4294967296^(k+1)) hd;have e4:=qb a k;have e5:a/4294967296^k=d*(4294967296*(a/4294967296^(k+1)/d))+(a/4294967296^(k+1)%d*4294967296+iI a k):=by
  rw[e1,de];omega
 have e6:(a/4294967296^(k+1)%d*4294967296+iI a k)/d<4294967296:=by
  rw[cA hd];have:=bX 4294967296 (show a/4294967296^(k+1)%d+1<=d from e3);omega
 constructor
 .conv=>rhs;unfold iI
  rw[cW,bK d,<-cW,e5,dG hd,dZ,bU e6]
 .rw [e5,dZ]
def SO{a b N:Nat}(ha:a<4294967296^N)(hb:b<4294967296^N)(h:∀ i,i<N->iI a i=iI b i):a=b:=by
 have e1:val (iT a N)=a:=by rw[vo,bU ha]
 have e2:val (iT b N)=b:=by rw[vo,bU hb]
 rw[<-e1,<-e2];congr 1;exact fh λj hj=>h j (bY.1 hj)
def ady{a b N j:Nat}(ha:a<4294967296^N)(hb:b<4294967296^N)(h:∀ i,j<=i->iI a i=iI b i):a/4294967296^j=b/4294967296^j:=by
 have e:∀ (n i:Nat),iI (n/4294967296^j) i=iI n (j+i):=λn i=>by unfold iI;rw[cW,<-bE]
 refine SO (N:=N) (cB (bV _ _) ha) (cB (bV _ _) hb) λi _=>?_
 rw[e,e];exact h _ aE 
def VR{a b N j:Nat}(ha:a<4294967296^N)(hb:b<4294967296^N)(h:∀ i,j<i->iI a i=iI b i)(hd:iI a j<iI b j):a<b:=by
 have e:=ady (j:=j+1) ha hb λi hi=>h i hi
 have e1:=L4 a j;have e2:=L4 b j;have:a/4294967296^j<b/4294967296^j:= aE ;exact apJ λhle=>by
  have:=Nat.div_le_div_right (c:=4294967296^j) hle;omega
def Q9{n k:Nat}(h:n<4294967296^(k+1))(hd:iI n k≠0):iq n=32*k+iq (iI n k):=by
 have e1:iI n k=n/4294967296^k:=by
  unfold iI;rw[bU];rw[cA (pw k),bK 4294967296,<-bH];exact h
 have h1:=sF hd;have h2:=pK (iI n k);have h3:=nv hd;obtain⟨m,hm⟩:∃ m,iq (iI n k)=m+1:=⟨iq (iI n k)-1,aE⟩
 rw[hm]at h1 h2 ⊢;rw[eu]at h1;rw[<-df];have hp:(4294967296:Nat)^k=2^(32*k):=oE k;refine vz ?_ ?_
 .rw [e1,dq (pw k),hp,<-bE,eN]at h1;exact h1
 .rw [e1,cA (pw k),hp,<-bE,(aE:m+1+32*k=32*k+m+1)]at h2;exact h2
def jJ(a b k:Nat):Nat:=(a%4294967296^k+b%4294967296^k)/4294967296^k
def It(a b:Nat):jJ a b 0=0:=by unfold jJ;simp[dj]
def tS(a b k:Nat):jJ a b k<=1:=by
 unfold jJ;have h1:=bM a (pw k);have h2:=bM b (pw k);have:(a%4294967296^k+b%4294967296^k)/4294967296^k<2:=by rw[cA (pw k)];omega
 omega
def Ln(a b k:Nat):(a+b)/4294967296^k=a/4294967296^k+b/4294967296^k+jJ a b k:=by
 unfold jJ;have h1:=cG a (4294967296^k);have h2:=cG b (4294967296^k);have h3:=dG (pw k) (a/4294967296^k+b/4294967296^k) (a%4294967296^k+b%4294967296^k);rw[<-h3];congr 1;rw[bR];omega
def y4(a b k:Nat):iI a k+iI b k+jJ a b k=iI (a+b) k+4294967296*jJ a b (k+1):=by
 have h1:jJ a b (k+1)=(iI a k+iI b k+jJ a b k)/4294967296:=by
  conv=>lhs;unfold jJ
  rw[mod_succ,mod_succ,bH,<-cW];congr 1;have h3:=dG (pw k) (iI a k+iI b k) (a%4294967296^k+b%4294967296^k);unfold jJ;rw[<-h3];congr 1;rw[bR];omega
 have h2:iI (a+b) k=(iI a k+iI b k+jJ a b k)%4294967296:=by
  conv=>lhs;unfold iI
  rw[Ln];unfold iI;omega
 rw[h1,h2];exact(dU _ _).symm
def acs{a b k:Nat}(h:a+b<4294967296^k):jJ a b k=0:=by
 have h0:=Ln a b k;rw[cF h]at h0;exact(Nat.add_eq_zero_iff.1 h0.symm).2
def acu{a b k:Nat}(ha:a<4294967296^k)(hb:b<4294967296^k):jJ a b (k+1)=0:=by
 apply acs;rw[bH];omega
def Zf{a b:Nat}(h:b<=a)(k:Nat):iI a k+4294967296-iI b k-jJ (a-b) b k=iI (a-b) k+4294967296*(1-jJ (a-b) b (k+1)):=by
 have h1:=y4 (a-b) b k;rw[fB h]at h1;have h2:=tS (a-b) b (k+1);have h3:=qb b k;have h4:=tS (a-b) b k;have h5:=qb (a-b) k;omega
def amF(n s k:Nat):iI (n/2^s) k=((iI n (k+s/32)+4294967296*iI n (k+s/32+1))/2^(s%32))%4294967296:=by
 have e:2^s*4294967296^k=4294967296^(k+s/32)*2^(s%32):=by
  rw[oE,oE,<-bE,<-bE];congr 1;omega
 unfold iI;rw[cW,e,<-cW,bH,<-cW];generalize n/4294967296^(k+s/32)=N;have hr:s%32<32:=bM _ aG;generalize s%32=r at *
 have h1:N%4294967296+4294967296*(N/4294967296%4294967296)=N%(4294967296*4294967296):=(gG).symm;rw[h1];have h2:N=4294967296*(N/(4294967296*4294967296))*4294967296+N%(4294967296*4294967296):=by
  have:=cG N (4294967296*4294967296);omega
 have h3:(4294967296:Nat)=2^r*2^(32-r):=by rw[<-bE,(aE:r+(32-r)=32)]
 generalize N%(4294967296*4294967296)=u at *
 generalize N/(4294967296*4294967296)=t at *
 have h4:N/2^r=4294967296*(t*2^(32-r))+u/2^r:=by
  rw[h2];have e2:4294967296*t*4294967296=2^r*(4294967296*(t*2^(32-r))):=by
   conv=>lhs;rw[bK]
   conv=>lhs;lhs;rw[h3]
   rw[bL,de (2^(32-r)),bK (2^(32-r)) t]
  rw[e2,dG (bF aG)]
 rw[h4,dZ]
def amC{O:List Nat}{P x n k m:Nat}(hx:x<4294967296)(hO:O=iT (P*2^n) m)(hP:P<4294967296^k)(hm:k+n/32+1<m):
 (O.getD (k+n/32) 0)<2^(n%32)/\((O.set (k+n/32) (O.getD (k+n/32) 0+x*2^(n%32)%4294967296)).set (k+n/32+1) (x*2^(n%32)/4294967296))=iT ((P+4294967296^k*x)*2^n) m:=by
 have hr:n%32<32:=bM _ aG;have hq:(2:Nat)^n=2^(n%32)*4294967296^(n/32):=by rw[oE,<-bE];congr 1;omega
 have zj:2^(n%32)<=2^31:=bN aG aE;have FD:(2:Nat)^31=2147483648:= aG ;have qt:0<2^(n%32):=bF aG;have lE:iK O:=by rw[hO];exact sK _ _
 have hlen:O.length=m:=by rw[hO,nf]
 have hN:P*2^n<4294967296^(k+n/32)*2^(n%32):=by
  have h1:P*2^(n%32)<4294967296^k*2^(n%32):=c9 hP qt;have h2:=c9 h1 (pw (n/32));rw[hq,<-bL,bE,gi (4294967296^k)];exact h2
 have tX:P*2^n<4294967296^(k+n/32+1):=by
  rw[bH];exact bW hN (cO _ aE)
 have o1:O.getD (k+n/32) 0=P*2^n/4294967296^(k+n/32):=by
  rw[hO,tU aE];unfold iI;rw[bU];rw[cA (pw _),bK 4294967296,<-bH];exact tX
 have o2:O.getD (k+n/32+1) 0=0:=by rw[hO,tU hm];exact vH tX (bC _)
 have o3:O.getD (k+n/32) 0<2^(n%32):=by
  rw[o1,cA (pw _),bK (2^(n%32))];exact hN
 refine⟨o3,?_⟩;have sy:x*2^(n%32)<4294967296*2^(n%32):=c9 hx qt;have A9:O.getD (k+n/32) 0+x*2^(n%32)%4294967296<4294967296:=by
  have h3:(4294967296:Nat)=2^(n%32)*2^(32-n%32):=by rw[<-bE,(aE:n%32+(32-n%32)=32)]
  have h4:x*2^(n%32)%4294967296=2^(n%32)*(x%2^(32-n%32)):=by
   conv=>lhs;rw[bK];rhs;rw[h3]
   exact apD _ _ _
  have h5:x%2^(32-n%32)<2^(32-n%32):=bM _ (bF aG);have h6:=cO (2^(n%32)) (show x%2^(32-n%32)+1<=2^(32-n%32)from h5);rw[<-h3,bR,cz]at h6;omega
 have mO:k+n/32<O.length:= aE ;have we:=yQ (x:=O.getD (k+n/32) 0+x*2^(n%32)%4294967296) mO;have tZ:k+n/32+1<(O.set (k+n/32) (O.getD (k+n/32) 0+x*2^(n%32)%4294967296)).length:=by rw[cV];omega
 have rD:=yQ (x:=x*2^(n%32)/4294967296) tZ;rw[vP aE,o2,cU,bT]at rD;refine(Du ((lE.set _ A9).set _ ?_) (by rw[cV,cV,hlen]) ?_).symm
 .rw [cA aG];exact bW sy (cO _ aE)
 .have sx:val O=P*2^n:=by
   rw[hO,vo,bU];exact bW tX (bN aG aE)
  rw[rD];rw[sx,bR]at we;have e1:=dU (x*2^(n%32)) 4294967296;have e2:=congrArg (4294967296^(k+n/32) * ·) e1;simp only[bR]at e2;have e3:4294967296^(k+n/32)*(x*2^(n%32))=4294967296^k*x*2^n:=by
   rw[hq,bE];simp only[bL,bK,de]
  rw[bH,bL,ct];rw[e3]at e2;omega
def mw(r b k:Nat):Nat:=(2*(r%4294967296^k)+b)/4294967296^k
def LW(r b:Nat):mw r b 0=b:=by unfold mw;simp[dj]
def Iy{r b:Nat}(hb:b<=1)(k:Nat):mw r b k<=1:=by
 unfold mw;have h1:=bM r (pw k);have:(2*(r%4294967296^k)+b)/4294967296^k<2:=by rw[cA (pw k)];omega
 omega
def Iz{r b:Nat}(hb:b<=1)(k:Nat):iI (2*r+b) k=2*iI r k%4294967296+mw r b k/\mw r b (k+1)=iI r k/2147483648:=by
 have h1:(2*r+b)/4294967296^k=2*(r/4294967296^k)+mw r b k:=by
  unfold mw;have h1:=cG r (4294967296^k);have h3:=dG (pw k) (2*(r/4294967296^k)) (2*(r%4294967296^k)+b);rw[<-h3];congr 1;rw[de];omega
 have h2:=Iy (r:=r) hb k;have h3:mw r b (k+1)=(2*iI r k+mw r b k)/4294967296:=by
  conv=>lhs;unfold mw
  rw[mod_succ,bH,<-cW];congr 1;have h3:=dG (pw k) (2*iI r k) (2*(r%4294967296^k)+b);unfold mw;rw[<-h3];congr 1;rw[de];omega
 have h4:iI (2*r+b) k=(2*iI r k+mw r b k)%4294967296:=by
  conv=>lhs;unfold iI
  rw[h1];unfold iI;omega
 have h5:=qb r k;constructor
 .rw [h4];omega
 .rw [h3];omega
structure sG(U0:Nat)(V:List Nat)(k m:Nat)(O Q:List Nat):Prop where
 Vy:O.length=m
 Gb:Q.length=m-V.length
 Ai:iK O
 CI:iK Q
 eq:val O+val V*val Q=U0
 lt:val O<val V*4294967296^k
 qz:∀ i,i<k->Q.getD i 0=0
def sG.step{U0 k m x:Nat}{V O Q O2:List Nat}(h:sG U0 V (k+1) m O Q)(hk:k<m-V.length)(hl:O2.length=m)(lE:iK O2)(hx:x<4294967296)
 (he:val O2+x*(4294967296^k*val V)=val O) (iL:val O2<val V*4294967296^k):sG U0 V k m O2 (Q.set k x):=by
 have zI:k<Q.length:=by rw[h.Gb];exact hk
 have hv:=yQ (x:=x) zI;rw[h.qz k (aqk k),cU,bT]at hv;refine⟨hl,by rw[cV];exact h.Gb,lE,h.CI.set _ hx,?_,iL,λi hi=>by rw[vP aE];exact h.qz i aE⟩;rw[hv,bR,show val V*(4294967296^k*x)=x*(4294967296^k*val V)by simp only[bK,de,bL]];have:=h.eq;omega
def sG.zero{U0 k m:Nat}{V O Q:List Nat}(h:sG U0 V (k+1) m O Q)(hV:iK V){i:Nat}(hi:k+V.length<i):O.getD i 0=0:=by
 refine an4 h.Ai (k:=k+V.length+1) ?_ hi;refine fX h.lt ?_;have:=c9 (mJ hV) (pw (k+1));rw[<-bE,(aE:V.length+(k+1)=k+V.length+1)]at this;exact this
def sG.af4{U0 k m:Nat}{V O Q:List Nat}(h:sG U0 V (k+1) m O Q)(hV:iK V)(hn:2<=V.length)(hN:2147483648<=V.getD (V.length-1) 0):
 O.getD (k+V.length) 0<=V.getD (V.length-1) 0/\∀ g,g<=4294967295 ->
  g<=((O.getD (k+V.length) 0*4294967296+O.getD (k+V.length-1) 0)*4294967296+O.getD (k+V.length-2) 0)/(V.getD (V.length-1) 0*4294967296+V.getD (V.length-2) 0) ->
  (g=4294967295\/((O.getD (k+V.length) 0*4294967296+O.getD (k+V.length-1) 0)*4294967296+O.getD (k+V.length-2) 0)/(V.getD (V.length-1) 0*4294967296+V.getD (V.length-2) 0)<=g) ->
  val O/4294967296^k/val V<=g/\g<=val O/4294967296^k/val V+1:=by
 have t3:=ZA h.Ai (j:=k) hn (λi hi=>h.zero hV hi);have t2:=an2 hV hn rfl;have hU:val O/4294967296^k<4294967296*val V:=by
  rw[cA (pw k)];have:=h.lt;rw[bH]at this;rw[show 4294967296*val V*4294967296^k=val V*(4294967296^k*4294967296)by simp only[bK,de,bL]];exact this
 have w1:=h.Ai.getD (k+V.length-1);have w2:=h.Ai.getD (k+V.length-2);have w3:=hV.getD (V.length-2);refine⟨?_,λg g1 g2 g3=>?_⟩
 .have hP:=pw (V.length-2);have h1:val V<(V.getD (V.length-1) 0*4294967296+V.getD (V.length-2) 0+1)*4294967296^(V.length-2):=by
   rw[<-t2,<-cA hP];omega
  have h2:val O/4294967296^k/4294967296^(V.length-2)<4294967296*(V.getD (V.length-1) 0*4294967296+V.getD (V.length-2) 0+1):=by
   rw[cA hP];refine bW hU ?_;rw[bL];exact cO _ (dE h1)
  rw[t3]at h2;omega
 .rw [<-t3,<-t2]at g2 g3;exact ahp (pw _) (by rw[t2];omega) hU g1 g2 g3
def sG.WW{U0 k m x:Nat}{V O Q O':List Nat}(h:sG U0 V (k+1) m O Q)(hV:iK V)(lE:iK O')(hv:val O'+x*(4294967296^k*val V)=val O+4294967296^(k+V.length+1)*1)
 (hs:∀ i,k+V.length<i->O'.getD i 0=O.getD i 0):val O'<4294967296^(k+V.length+1)/\0<x:=by
 have h1:val O'<4294967296^(k+V.length+1):=KY lE λi hi=>by rw[hs i aE];exact h.zero hV aE 
 refine⟨h1,?_⟩;rcases eP x with h0|h0
 .subst h0;rw[cP]at hv;omega
 .exact h0
def sG.abm{U0 k m x κ:Nat}{V O Q O' O2:List Nat}(h:sG U0 V (k+1) m O Q)(hV:iK V)(hk:k<m-V.length)(lE:iK O')(hv:val O'+x*(4294967296^k*val V)=val O+4294967296^(k+V.length+1)*1)
 (hs:∀ i,k+V.length<i->O'.getD i 0=O.getD i 0) (hx:x<=4294967295) (sy:x<=val O/4294967296^k/val V+1) (wZ:0<val V) (nR:O2.length=m) (Jo:iK O2) (hκ:κ<=1)
 (h2:val O2+4294967296^(k+V.length+1)*κ=val O'+4294967296^k*val V) (kV:∀ i,k+V.length<i->O2.getD i 0=O'.getD i 0):sG U0 V k m O2 (Q.set k (x-1)):=by
 obtain⟨h1,h0⟩:=h.WW hV lE hv hs;have h3:val O2<4294967296^(k+V.length+1):=KY Jo λi hi=>by rw[kV i aE,hs i aE];exact h.zero hV aE 
 rw[cz]at hv;obtain⟨_,_,e,l⟩:=ac6 (pw k) wZ hv h1 sy hκ h2 h3;exact h.step (x:=x-1) hk nR Jo aE e l
def aiW{L:List Nat}{x s l:Nat}(hk:iK L)(hl:L.length=l+1)(hx:L.getD l 0=x)(mT:x≠0)(hs:s=32-iq x):
 s<32/\(ia (val L*2^s)).length=l+1/\2147483648<=(ia (val L*2^s)).getD l 0/\4294967296^l*2147483648<=val L*2^s/\val L*2^s<4294967296^(l+1):=by
 have nd:x<4294967296:=by rw[<-hx];exact hk.getD l
 have kP:=nv mT;have mK:iq x<=32:=ln.2 nd;have h1:=sF mT;have h2:=pK x;have e1:2^(iq x-1)*2^s=2147483648:=by rw[<-bE,(aE:iq x-1+s=31)]
 have e2:2^iq x*2^s=4294967296:=by rw[<-bE,(aE:iq x+s=32)]
 have hp:0<2^s:=bF aG;have hv:val L=val (L.take l)+4294967296^l*x:=by
  have:=vq L l;rw[cT aE,hx]at this;exact this
 have A9:val (L.take l)<4294967296^l:=by
  have:=mJ (hk.take l);rw[cJ,dB aE]at this;exact this
 have g1:4294967296^l*2147483648<=val L*2^s:=by
  rw[<-e1,<-bL];refine bX _ ?_;rw[hv];exact bG (cO _ h1) (Nat.le_add_left _ _)
 have g2:val L*2^s<4294967296^(l+1):=by
  have e3:4294967296^(l+1)=4294967296^l*(2^iq x*2^s):=by rw[bH,e2]
  rw[e3,<-bL];refine c9 ?_ hp;rw[hv];have:=cO (4294967296^l) (show x+1<=2^iq x from h2);rw[bR,cz]at this;omega
 have hlen:(ia (val L*2^s)).length=l+1:=by
  have u1:=rE g2;have u2:¬(ia (val L*2^s)).length<=l:=λh=>by
   have:=wm h;have:=pw l;omega
  omega
 refine⟨aE,hlen,?_,g1,g2⟩;rw[qc (kR _),kf];unfold iI;rw[bU (by rw[cA (pw l),bK 4294967296,<-bH];exact g2),dq (pw l),bK];exact g1
def sG.start{A s:Nat}{V O:List Nat}(hO:iK O)(hv:val O=A*2^s){la:Nat}(hA:A<4294967296^la)(hl:O.length=la+1)(hs:s<32)(hn:1<=V.length)(kx:V.length<=la)(hV:4294967296^(V.length-1)*2147483648<=val V):
 sG (A*2^s) V (la+1-V.length) (la+1) O (List.replicate (la+1-V.length) 0):=by
 refine⟨hl,aK,hO,iK.CT _,by rw[AB,cU,bT,hv],?_,λi _=>?_⟩
 .rw [hv];have zj:2^s<=2^31:=bN aG aE;have FD:(2:Nat)^31=2147483648:= aG ;rw[FD]at zj;have h1:A*2^s<4294967296^la*2^s:=c9 hA (bF aG);have h2:=cO (4294967296^la) zj;have h3:=bX (4294967296^(la+1-V.length)) hV;rw[gi,<-bE,(aE:V.length-1+(la+1-V.length)=la)]at h3;omega
 .rw [bD,gz];split<;>rfl
end Go.Proofs.YtkjkcjhacddojaaGreatDoor.Fp
namespace Go.Proofs.YtkjkcjhacddojaaGreatDoor
open Go.RowKit Fp Pu
def BH{n:Nat}{L:List Nat}(h:n=L.length):(E.sl false n 1 (jl L))=ic L:=by subst h;rfl
def ET(n:Nat)(h:n<18446744073709551616):bits .and .u64 (n:Int) 4294967295=((n%4294967296:Nat):Int):=by
 have:=P8 n 4294967295 h aG;rw[show((4294967295:Int))=((4294967295:Nat):Int)from rfl,this];exact congrArg _ (ap9 n 32)
def KP(n:Nat)(h:n<4294967296):bits .and .u32 (n:Int) 1=((n%2:Nat):Int):=by
 have:=bits_and_u32_nat n 1 h aG;rw[show((1:Int))=((1:Nat):Int)from rfl,this];exact congrArg _ (gW n)
def EK(n:Nat)(h:n<4294967296):IntKind.u64.wrap ((n:Int)*2^32)=((n*4294967296:Nat):Int):=by rw[IntKind.wrap_u64];omega
def GG(a b:Nat)(ha:a<4294967296)(hb:b<4294967296):bits .or .u64 ((a*4294967296:Nat):Int) (b:Int)=((a*4294967296+b:Nat):Int):=by
 rw[KQ _ _ aE aE,gy,show a*4294967296=a*2^32 by rfl,Br b a 32 (by simpa using hb),eN]
def EF{T n n' p:Nat}{L L':List Nat}{z:Nat}(hn:n=n')(hp:p<L.length)(hs:L.set p z=L'):Bx.le (.row false T n 1 λi' j'=>if i'=p/\0<=j'/\j'<0+1 then[.v (.int .u32 (z:Int))].getD (j'-0) .any else(jl L) i' j') (.row false T n' 1 (jl L')):=hs▸Pz hn hp
def Bl{T n n':Nat}{N:Nat}{z:Int}(hn:n'=n+1)(hz:z=(iI N n:Int)):
 Bx.le (.row false T (n+1) 1 λi_ j_=>if i_<n then(jl (iT N n)) i_ j_ else(E.kH (.sl false 1 1 λi_ j_=>[.v (.int .u32 z)].getD (i_*1+j_) (.v (.bool false)))) (i_-n) j_) (.row false T n' 1 (jl (iT N n'))):=by
 subst hn hz;refine .row rfl λi j hi hj=>?_
 obtain rfl:j=0:= aE ;refine⟨.iM ?_,rfl⟩;by_cases h:i<n
 .rw [bw h];show E.v (.int .u32 (((iT N n).getD i 0:Nat):Int))=E.v (.int .u32 (((iT N (n+1)).getD i 0:Nat):Int));rw[tU h,tU hi]
 .obtain rfl:i=n:= aE ;rw[bu (fp i)];show E.kH _ (i-i) 0=E.v (.int .u32 (((iT N (i+1)).getD i 0:Nat):Int));rw[tU (aqk i),dc];rfl
def R2(q rest third v w:Nat)(x:Nat):PS:=⟨32,true,[(0,.e (.v (.int .u64 ((q-x:Nat):Int)))),(1,.e (.v (.int .u64 ((rest+(x*v):Nat):Int)))),(2,.e (.v (.int .u32 (third:Int)))),(3,.e (.v (.int .u32 (v:Int)))),(4,.e (.v (.int .u32 (w:Int))))],[]⟩
def YN(L:List Nat)(d:Nat)(x:Nat):PS:=⟨34,false,[(8,.e (iP ((L.length:Int)-1-(x:Int)))),(7,.e (.v (.int .u32 ((val L/4294967296^(L.length-x)%d:Nat):Int)))),(6,.own 11),(0,.e (ic L)),(1,.e (.v (.int .u32 (d:Int))))],[(11,.row false 150 L.length 1 (jl (kY 0 (val L/d) (L.length-x) L.length)))]⟩
def adn(h l d:Nat)(h1:h<d)(h2:l<4294967296)(h3:d<4294967296):gZ 399 [.v (.int .u32 (h:Int)),.v (.int .u32 (l:Int)),.v (.int .u32 (d:Int))] (.iC [.v (.int .u32 (((h*4294967296+l)/d:Nat):Int)),.v (.int .u32 (((h*4294967296+l)%d:Nat):Int))]):=by
 have e1:(h*4294967296+l)/d<4294967296:=by rw[cA aE];omega
 have e2:(h*4294967296+l)%d<4294967296:=fX (bM _ aE) h3;exact ak call399 func399 (ae [ah 10 ((d:Int) != 0) aS,tF 14 ((d:Int)<=h) aE,.o 18 (.int (pZ _ aE):aj (.v (.int .u64 (IntKind.u64.wrap (h:Int)))) (.v (.int .u64 (h:Int)))),.a (aE:0<=(32:Int)/\(32:Int)<=((64:Nat):Int)),.o 19 (.int (EK _ aE):aj (.v (.int .u64 (IntKind.u64.wrap ((h:Int)*2^32)))) (.v (.int .u64 ((h*4294967296:Nat):Int)))),.o 21 (.int (pZ _ aE):aj (.v (.int .u64 (IntKind.u64.wrap (l:Int)))) (.v (.int .u64 (l:Int)))),.o 22 (.int (GG _ _ aE aE):aj (.v (.int .u64 (bits .or .u64 ((h*4294967296:Nat):Int) (l:Int)))) (.v (.int .u64 ((h*4294967296+l:Nat):Int)))),.o 25 (.int (pZ _ aE):aj (.v (.int .u64 (IntKind.u64.wrap (d:Int)))) (.v (.int .u64 (d:Int)))),.a (aE:0<((d:Int):Int)),
  pP ((h*4294967296+l:Nat):Int) aE,.o 27 (.int (vi _):aj (.v (.int .u32 (IntKind.u32.wrap (((h*4294967296+l)/d:Nat):Int)))) (.v (.int .u32 ((((h*4294967296+l)/d)%4294967296:Nat):Int)))),.o 30 (.int (pZ _ aE):aj (.v (.int .u64 (IntKind.u64.wrap (d:Int)))) (.v (.int .u64 (d:Int)))),.a (aE:0<((d:Int):Int)),.o 32 (.int (vi _):aj (.v (.int .u32 (IntKind.u32.wrap (((h*4294967296+l)%d:Nat):Int)))) (.v (.int .u32 ((((h*4294967296+l)%d)%4294967296:Nat):Int))))]<|rQ (.iC [.v (.int .u32 ((((h*4294967296+l)/d)%4294967296:Nat):Int)),.v (.int .u32 ((((h*4294967296+l)%d)%4294967296:Nat):Int))]) (.iC [.v (.int .u32 (((h*4294967296+l)/d:Nat):Int)),.v (.int .u32 (((h*4294967296+l)%d:Nat):Int))]) (by rw[bU e1,bU e2])) 
def apv(q rest third v w N:Nat)(hq:q<=4294967295)(hr:rest<9223372036854775808)(ht:third<4294967296)(hv:v<4294967296)(hw:w<4294967296)(hNq:N<=q)(iQ:∀ x,x<N->tc q rest third v w x)(g1:¬rest+N*v<4294967296):gZ 400 [.v (.int .u64 (q:Int)),.v (.int .u64 (rest:Int)),.v (.int .u32 (third:Int)),.v (.int .u32 (v:Int)),.v (.int .u32 (w:Int))] (.v (.int .u64 ((q-N:Nat):Int))):=
 ak call400 func400 (af [.s (Sp.jv (R2 q rest third v w) 0 N aE (λx hx jU=>by
    obtain⟨g1,g2⟩:=iQ x aE;have m1:(q-x)*w<=4294967295*4294967295:=dp aE aE;have g3:0<q-x:=by
     rcases eP (q-x)with h|h
     .rw [h,cP]at g2;omega
     .exact h
    exact iG (ae [tT 12 (((rest+(x*v):Nat):Int)<4294967296) aE,.o 16 (.int (pZ _ aE):aj (.v (.int .u64 (IntKind.u64.wrap (w:Int)))) (.v (.int .u64 (w:Int)))),
     pP (((q-x:Nat):Int)*(w:Int)) aE,.a (aE:0<=(32:Int)/\(32:Int)<=((64:Nat):Int)),.o 19 (.int (EK _ aE):aj (.v (.int .u64 (IntKind.u64.wrap (((rest+(x*v):Nat):Int)*2^32)))) (.v (.int .u64 (((rest+(x*v))*4294967296:Nat):Int)))),.o 21 (.int (pZ _ aE):aj (.v (.int .u64 (IntKind.u64.wrap (third:Int)))) (.v (.int .u64 (third:Int)))),.o 22 (.int (GG _ _ aE aE):aj (.v (.int .u64 (bits .or .u64 (((rest+(x*v))*4294967296:Nat):Int) (third:Int)))) (.v (.int .u64 ((((rest+(x*v))*4294967296)+third:Nat):Int)))),tT 23 (((((rest+(x*v))*4294967296)+third:Nat):Int)<(((q-x)*w:Nat):Int)) (Int.ofNat_lt.2 g2),pP (((q-x:Nat):Int)-1) aE,.o 29 (.int (pZ _ aE):aj (.v (.int .u64 (IntKind.u64.wrap (v:Int)))) (.v (.int .u64 (v:Int)))),pP (((rest+(x*v):Nat):Int)+v) aE]<|.e (af [.o 0 (.int aT:aj (.v (.int .u64 (((q-x:Nat):Int)-1))) (.v (.int .u64 ((q-(x+1):Nat):Int)))),.o 1 (.int aT:aj (.v (.int .u64 (((rest+(x*v))+v:Nat):Int))) (.v (.int .u64 ((rest+((x+1)*v):Nat):Int))))])) aI)
  (λhx=>by
    have m1:(q-N)*w<=4294967295*4294967295:=dp aE aE;exact iG (af [tF 12 (((rest+(N*v):Nat):Int)<4294967296) aE]) aI) aM:ju 1 f400 (R2 q rest third v w 0) (.exit 0) ⟨32,true,[(0,.e (.v (.int .u64 ((q-N:Nat):Int))))],[]⟩) (af [.o 0 (.int aT:aj (.v (.int .u64 (q:Int))) (.v (.int .u64 ((q-0:Nat):Int)))),.o 1 (.int aT:aj (.v (.int .u64 (rest:Int))) (.v (.int .u64 ((rest+(0*v):Nat):Int))))])]) 
def aix(L:List Nat)(d:Nat)(hk:iK L)(hl:L.length<=1000000)(vV:0<d)(sM:d<4294967296):gZ 375 [ic L,.v (.int .u32 (d:Int))] (.iC [ic (iT (val L/d) L.length),.v (.int .u32 ((val L%d:Nat):Int))]):=
 an call375 func375 (ae [.a (aE:0<=((L.length:Int):Int)/\((L.length:Int):Int)<=((L.length:Int):Int)),.a (aE:((4:Nat):Int)*(L.length:Int)<=281474976710656/\((L.length:Int):Int)<=9223372036854775807),iz ((L.length:Int)-1) aE,.s (Sp.jv (YN L d) 0 L.length aE (λx hx jU=>by
    have Ut:((L.length:Int)-1-(x:Int)).toNat=L.length-1-x:= aE ;have hld:((L.getD ((L.length:Int)-1-(x:Int)).toNat 0:Nat):Int)=(iI (val L) (L.length-1-x):Int):=by rw[Ut,qc hk]
    have wc:=amD (a:=val L) (k:=L.length-1-x) vV sM;have sP:L.length-1-x+1=L.length-x:= aE ;have kg:L.length-(x+1)=L.length-1-x:= aE ;rw[sP]at wc;have Jk:=bM (val L/4294967296^(L.length-x)) vV;have B9:=qb (val L) (L.length-1-x);have uS:(kY 0 (val L/d) (L.length-x) L.length).set ((L.length:Int)-1-(x:Int)).toNat ((val L/4294967296^(L.length-x)%d*4294967296+iI (val L) (L.length-1-x))/d)=kY 0 (val L/d) (L.length-(x+1)) L.length:=by
     rw[Ut,wc.1,<-sP,aik,kg]
    exact iG (ae [tT 16 (0<=((L.length:Int)-1-(x:Int))) aE,iX ((L.length:Int)-1-(x:Int)) (L.length) aE,.o 26 (.int hld:aj (.v (.int .u32 ((L.getD ((L.length:Int)-1-(x:Int)).toNat 0:Nat):Int))) (.v (.int .u32 (iI (val L) (L.length-1-x):Int)))),.c (adn (val L/4294967296^(L.length-x)%d) (iI (val L) (L.length-1-x)) d aE aE aE),iX ((L.length:Int)-1-(x:Int)) (L.length) aE,.a (aE:(((L.length:Int)-1-(x:Int))).toNat<L.length),iz (((L.length:Int)-1-(x:Int))-1) aE]<|.e (af [.o 8 (aq (((L.length:Int)-1-(x:Int))-1) ((L.length:Int)-1-((x+1:Nat):Int)) aT),.o 7 (.int (by rw[wc.2,kg]):aj (.v (.int .u32 ((((val L/4294967296^(L.length-x)%d)*4294967296+(iI (val L) (L.length-1-x)))%d:Nat):Int))) (.v (.int .u32 ((val L/4294967296^(L.length-(x+1))%d:Nat):Int)))),.b 11 (EF rfl bg uS:Bx.le (.row false 150 L.length 1 (λi' j'=>if i'=(((L.length:Int)-1-(x:Int))).toNat/\0<=j'/\j'<0+1 then[.v (.int .u32 ((((val L/4294967296^(L.length-x)%d)*4294967296+(iI (val L) (L.length-1-x)))/d:Nat):Int))].getD (j'-0) .any else(jl (kY 0 (val L/d) (L.length-x) L.length)) i' j')) (.row false 150 L.length 1 (jl (kY 0 (val L/d) (L.length-(x+1)) L.length))))])) aI)
  (λhx=>by
    exact iG (af [tF 16 (0<=((L.length:Int)-1-(L.length:Int))) aE]) aI) aM:ju 4 f375 (YN L d 0) (.exit 0) ⟨34,false,[(7,.e (.v (.int .u32 ((val L/4294967296^(L.length-L.length)%d:Nat):Int)))),(6,.own 11)],[(11,.row false 150 L.length 1 (jl (kY 0 (val L/d) (L.length-L.length) L.length)))]⟩) (af [.o 8 (aq ((L.length:Int)-1) ((L.length:Int)-1-((0:Nat):Int)) aT),.o 7 (.int (by rw[dM,cF (mJ hk),Nat.zero_mod];rfl):aj (.v (.int .u32 0)) (.v (.int .u32 ((val L/4294967296^(L.length-0)%d:Nat):Int)))),.b 11 (G5 rfl (λi=>by rw[dM,JT (bC _),IA]):Bx.le (.row false 150 L.length 1 (λ_ j_=>[.v (.int .u32 0)].getD j_ .any)) (.row false 150 L.length 1 (jl (kY 0 (val L/d) (L.length-0) L.length))))])]<|rR (.iC [ic (iT (val L/d) L.length),.v (.int .u32 ((val L%d:Nat):Int))]) (.iC (.cons (by rw[dc,Gl];exact At (nf _ _).symm) (.cons (.iM (by rw[dc,cw,eo])) .nil)):E.le (.iC [.sl false L.length 1 (jl (kY 0 (val L/d) (L.length-L.length) L.length)),.v (.int .u32 ((val L/4294967296^(L.length-L.length)%d:Nat):Int))]) (.iC [ic (iT (val L/d) L.length),.v (.int .u32 ((val L%d:Nat):Int))]))) 
def aas(w:World)(T S:List Nat)(e:Ending)(w':World):Prop:=∃ A c B d,e = .returned (.tuple #[.slice A T.length c,.slice B S.length d])/\Sl w' A c T/\Sl w' B d S/\iJ w w'
def Ow.rx{w:World}{base:Nat}{v:Value}{L:List Nat}(h:Ow w base v L)(hl:L≠[]):∃ g cap R,v = .slice (some ⟨g,0,none⟩) L.length cap/\base<=g/\g<w.heap.size/\Rx w g L R/\L.length<=cap/\cap<=maxLen:=by
 rcases h.row.2 with⟨_,h0⟩|⟨g,cap,cur,rfl,hb,hg,qs,oI,oz,FY⟩
 .exact absurd (dI h0) hl
 .refine ⟨g,cap,cur.toList.drop L.length,rfl,hb,(dv.1 hg).1,?_,qs,oI⟩;unfold Rx;rw[hg];rw[cz]at FY;rw[<-FY,apS]
def Rx.sl{w:World}{b cap:Nat}{L:List Nat}{R:List Value}(h:Rx w b L R)(hk:iK L)(hc:L.length<=cap)(hm:cap<=maxLen)(n:Nat):Sl w (some ⟨b,0,none⟩) cap (L.take n):=
 ⟨by rw[cJ];omega,by unfold maxLen at hm;omega,hk.take n,(λh=>by cases h),λi x hx=>by
  rw[eK]at hx;split at hx
  .obtain ⟨hi,Bd⟩:=cH.1 hx;refine⟨_,_,rfl,h.lt,?_⟩;rw[cD,h.cell hi];simp[bD,hx]
  .cases hx⟩
def ahY(x:Nat)(hx:x<4294967296)(w:World):
 Calls prog 376 #[.int .u32 x] w λe w'=>e = .returned (.int .i64 ((32-iq x:Nat):Int))/\w=w':=by
 have mK:iq x<=32:=ln.2 hx;have H:=aqG (λw=>Vx x hx w);go_enter func376,ntmps376;go_wp2_with fail;refine(H.out _).mono ?_;rintro e w' ⟨rfl,rfl⟩;go_wp2;go_ret;exact⟨oX aE,rfl⟩
def R5(q rest third v w0 N:Nat)(w:World)(hq:q<=4294967295)(hr:rest<9223372036854775808)(ht:third<4294967296)(hv:v<4294967296)(hw:w0<4294967296)(hNq:N<=q)(iQ:∀ x,x<N->tc q rest third v w0 x)(hN:¬tc q rest third v w0 N):
 Calls prog 400 #[.int .u64 q,.int .u64 rest,.int .u32 third,.int .u32 v,.int .u32 w0] w λe w'=>e = .returned (.int .u64 ((q-N:Nat):Int))/\w=w':=by
 have HLO:=aqG iQ;have HNN:=aqG hN;clear iQ hN;go_enter func400,ntmps400;go_wp2;go_loop [0,1] (λa b=>∃ k:Nat,k<=N/\a = .int .u64 ((q-k:Nat):Int)/\b = .int .u64 ((rest+k*v:Nat):Int)) (λa _=>(intOf a).toNat+0*N)
 case atStart=>exact⟨0,cj _,by go_num,by go_num⟩
 case round=>
  obtain⟨k,hk,rfl,rfl⟩:=hrel;have m1:(q-k)*w0<=4294967295*4294967295:=dp aE aE;have m2:(q-k)*w0=(q-k)*w0:=rfl;by_cases iL:k<N
  .have hc:=HLO.out k iL;have ud:0<q-k:= aE ;have Uz:rest+(k+1)*v=rest+k*v+v:=by rw[ct,ck];omega
   have HX:=aqG Uz;clear Uz;unfold tc at hc;have zT:IntKind.u64.wrap (((q-k:Nat):Int)*(w0:Int))=(((q-k)*w0:Nat):Int):=by rw[<-ez];exact pZ _ aE 
   generalize rest+k*v=y at *
   generalize hz:(q-k)*w0=z at *
   have D4:q-k=q-(k+1)+1:= aE ;have HQ:=aqG D4;obtain⟨p,hp⟩:∃ p,p=q-k:=⟨_,rfl⟩
   rw[<-hp]at zT ud D4 HQ ⊢;have HP:=aqG hp;have Ci:p<=4294967295:= aE ;clear hp hz D4;have Ck:=EK y hc.1;have ub:=GG y third hc.1 ht;have g2:=hc.2;have g1:=hc.1;clear hc;rw[show((y*4294967296:Nat):Int)=y*4294967296 by omega]at ub Ck;have d1:decide ((y:Int)<4294967296)=true:=bA aE;have d2:decide ((y:Int)*4294967296+(third:Int)<z)=true:=bA aE;have hm1:IntKind.u64.wrap ((p:Int)-1)=((p-1:Nat):Int):=by rw[IntKind.wrap_u64];omega
   go_wp2;go_round
   case rel=>
    have e1:=HP.out;exact⟨k+1,aE,by go_num,by rw[HX.out];go_num⟩
   case measure=>simp[intOf];omega
  .obtain rfl:k=N:= aE ;have hn:=HNN.out;clear HNN HLO;unfold tc at hn;have zT:IntKind.u64.wrap (((q-k:Nat):Int)*(w0:Int))=(((q-k)*w0:Nat):Int):=by rw[<-ez];exact pZ _ aE 
   generalize rest+k*v=y at *
   generalize (q-k)*w0=z at *
   obtain⟨p,hp⟩:∃ p,p=q-k:=⟨_,rfl⟩
   rw[<-hp]at zT ⊢;have HP:=aqG hp;clear hp;by_cases g1:y<4294967296
   .have Ck:=EK y g1;have ub:=GG y third g1 ht;rw[show((y*4294967296:Nat):Int)=y*4294967296 by omega]at ub Ck;have d1:decide ((y:Int)<4294967296)=true:=bA aE;have d2:decide ((y:Int)*4294967296+(third:Int)<z)=false:=bB aE;clear hn;go_wp2;go_ret;exact⟨oX (by rw[<-HP.out]),rfl⟩
   .have d1:decide ((y:Int)<4294967296)=false:=bB aE ;clear hn zT;go_wp2;go_ret;exact⟨oX (by rw[<-HP.out]),rfl⟩
def af5(iE next third v w0:Nat)(hv:2147483648<=v)(rD:v<4294967296)(hn:next<4294967296)(ht:third<4294967296)(hw:w0<4294967296)(Jw:iE<=v):
 ∃ g,g<=4294967295/\g<=((iE*4294967296+next)*4294967296+third)/(v*4294967296+w0)/\(g=4294967295\/((iE*4294967296+next)*4294967296+third)/(v*4294967296+w0)<=g) /\
  ∀ w,Calls prog 377 #[.int .u32 iE,.int .u32 next,.int .u32 third,.int .u32 v,.int .u32 w0] w λe w'=>e = .returned (.int .u64 (g:Int))/\∃ m,w'=w.drewN m:=by
 by_cases k1:v<=iE
 .obtain ⟨N,hN3,mS,tX,rT,g1,g2⟩:=R4 (X:=iE*4294967296+next) (q:=4294967295) (rest:=(iE-v)*4294967296+next+v) (third:=third) (v:=v) (w:=w0) aE (bC _) hv hw;refine⟨4294967295-N,aE,g1,g2.elim (λh=>.inl (by rw[h])) .inr,λw=>?_⟩;clear g1 g2;have H:=λw=>R5 4294967295 ((iE-v)*4294967296+next+v) third v w0 N w aE aE ht rD hw mS tX rT
  clear tX rT;obtain rfl:v=iE:= aE ;have wb:(v-v)*4294967296+next+v=next+v:= aE 
  rw[wb,fj]at H;have HD:=aqG H;clear H;have d1:decide ((v:Int)<=v)=true:=bA aE;go_enter func377,ntmps377;go_wp2_with fail;refine(HD.out _).mono ?_;rintro e w' ⟨rfl,rfl⟩;go_wp2;go_ret;exact⟨rfl,0,rfl⟩
 .have d1:=cG (iE*4294967296+next) v;have d2:=bM (iE*4294967296+next) (aE:0<v);have d3:(iE*4294967296+next)/v<4294967296:=by rw[cA aE];omega
  obtain⟨N,hN3,mS,tX,rT,g1,g2⟩:=R4 (X:=iE*4294967296+next) (q:=(iE*4294967296+next)/v) (rest:=(iE*4294967296+next)%v) (third:=third) (v:=v) (w:=w0) (by rw[bK];exact d1) aE hv hw;have g3:=ac7 (x:=iE*4294967296+next) (v:=v) (w:=w0) (third:=third) aE ht;refine⟨(iE*4294967296+next)/v-N,aE,g1,.inr ?_,λw=>?_⟩
  .rcases g2 with rfl|g2
   .exact g3
   .exact g2
  have H:=λw=>R5 ((iE*4294967296+next)/v) ((iE*4294967296+next)%v) third v w0 N w (Nat.le_of_lt_succ d3) (fX d2 aE) ht rD hw mS tX rT
  rw[Int.natCast_ediv,Int.natCast_emod]at H;have HD:=aqG H;clear H g1 g2 g3 mS tX rT d1 d2 d3;have d1:decide ((v:Int)<=iE)=false:=bB aE;have Ck:=EK iE aE;have ub:=GG iE next aE hn
  rw[show((iE*4294967296:Nat):Int)=iE*4294967296 by omega]at ub Ck;have mT:((iE*4294967296+next:Nat):Int)<18446744073709551616:= aE ;rw[show((iE*4294967296+next:Nat):Int)=iE*4294967296+(next:Int)by omega]at ub mT;have sx:((v:Int)==0)=false:= aS ;go_enter func377,ntmps377;go_wp2;go_quiet (exact Calls.quiet_of_same ((HD.out _).mono λ_ _ ⟨h1,h2⟩=>⟨h1,h2.symm⟩));go_wp2;go_ret;exact⟨rfl,_,rfl⟩
def Fp.iJ.an8{w0 w w':World}{g n:Nat}(h:iJ w0 w)(k:s8 g (w.drewN n) w')(hg:w0.heap.size<=g):iJ w0 w':=
 (below_drewN h n).trans (k.below.mono hg)
def Fp.iJ.only{w0 w w':World}{g:Nat}(h:iJ w0 w)(k:s8 g w w')(hg:w0.heap.size<=g):iJ w0 w':=
 Below.trans h (k.below.mono hg)
def Sl.S6{w:World}{g cap:Nat}{L:List Nat}(h:Sl w (some ⟨g,0,none⟩) cap L){b:Nat}(hb:g≠b)(i:Nat)(v:Value):Sl (w.setCell ⟨b,i,none⟩ v) (some ⟨g,0,none⟩) cap L:=
 h.qk (λb' o _ e=>by cases e;exact hb) (s8.G8 (s8.refl b w) i v)
def Sl.drewN{w:World}{A:Option Addr}{c:Nat}{L:List Nat}(h:Sl w A c L)(n:Nat):Sl (w.drewN n) A c L:=h.below (below_drewN (Below.refl _ _) n)
def ajW{P:Program}{f:FuncId}{args:Array Value}{w:World}{n:Nat}{v:Value}
 (h:Calls P f args (w.drewN n) λe w'=>e = .returned v/\∃ m,w'=(w.drewN n).drewN m):Calls P f args (w.drewN n) λe w''=>e = .returned v/\∃ m,w''=w.drewN m:=
 h.mono λ_ _ ⟨he,m,hm⟩=>⟨he,n+m,by rw[hm,World.drewN_drewN]⟩
set_option maxRecDepth 100000 in
set_option maxHeartbeats 8000000 in
def adA(A B:Option Addr)(c d:Nat)(L M:List Nat)(w:World)(lx ly s:Nat)(FN:lx=(ix L).length)(Ji:ly=(ix M).length)(wc:s=32-iq ((ix M).getD (ly-1) 0))(hs:Sl w A c L)(hr:Sl w B d M)(rU:Tb w)(h1:L.length<=100000)(h2:M.length<=100000)(rB:val M<=val L)(hlen:2<=ly):
 Calls prog 357 #[.slice A L.length c,.slice B M.length d] w (aas w (iT (val L/val M) (lx+1-ly)) (qM (s%32) ((ia (val L%val M*2^s)).drop (s/32)))):=by
 have H1:=uZ A c L w hs;have H2:=uZ B d M w hr;have TG:=pq L;unfold mC at TG;have vS:=pq M;unfold mC at vS;have eL:=oZ L;have eM:=oZ M;rw[<-eL,<-eM]at rB ⊢;have kV:=hs.ur;have oA:=hr.ur;have MH:=Av M;have TW:ix (ix L)=ix L:=Av L;have T2:ix (ix M)=ix M:=Av M;have H3:=JX A B c d (ix L) (ix M) w kV oA aE aE;generalize ix L=X at *
 generalize ix M=Y at *
 have pk:0<=kE (val X) (val Y):=by unfold kE;split<;>(try split)<;>omega
 generalize kE (val X) (val Y)=cm at *
 have TY:Y.length<=X.length:=by
  apply ca;intro h;have:=KX kV.ok MH (aE:X.length<Y.length);omega
 clear eL eM hs hr rB;rw[<-FN]at TY H1 H3 TG;rw[<-Ji]at TY H2 H3 vS;have mT:Y.getD (ly-1) 0≠0:=by
  have:=(BJ Y).1 MH aE;have e:Y.getD (ly-1) 0=Y[Y.length-1]'(aE):=by
   rw[bD,(aE:ly-1=Y.length-1)];simp[(aE:Y.length-1<Y.length)]
  rw[e];exact this
 have HN:=aiW oA.ok (l:=ly-1) aE rfl mT wc;rw[(aE:ly-1+1=ly)]at HN;obtain⟨x,hx⟩:∃ x,x=Y.getD (ly-1) 0:=⟨_,rfl⟩
 have nd:x<4294967296:=by rw[hx];exact oA.ok.getD _
 have H4:=aqG (λw=>ahY x nd w);rw[<-hx]at wc;rw[<-wc]at H4;obtain⟨ab,ao,rfl,hab,c1⟩:=oA.lR (i:=ly-1) aE;have JA:Y[ly-1]'(aE)=x:=by rw[hx];simp[bD,(aE:ly-1<Y.length)]
 rw[JA]at c1;have agG:s<32:=HN.1;have HNh:=aqG HN;have H5:=λw (h:Sl w A c X)=>Wt A c X s w h aE aE 
 have H6:=λw (h:Sl w (some ⟨ab,ao,none⟩) d Y)=>Wt (some ⟨ab,ao,none⟩) d Y s w h aE aE 
 rw[TW,<-FN,(aE:s/32+lx+1=lx+1)]at H5;rw[T2,<-Ji,(aE:s/32+ly+1=ly+1)]at H6;have H5h:=aqG H5;have H6h:=aqG H6;have HX:=aqG FN;have HY:=aqG Ji;have HS2:=aqG kV;have HR2:=aqG oA;have H1h:=aqG H1;have H2h:=aqG H2;have H3h:=aqG H3;clear H1 H2 H3 H5 H6 TW T2 HN FN Ji hx JA wc mT kV oA MH;have zT:(ly:Int)-1=((ly-1:Nat):Int):= aE ;have d0:decide (cm<0)=false:=bB aE;have d2:decide ((lx:Int)+1<=(lx:Int))=false:=bB aE;have pH:=Ei (lx+1-ly) aE;rw[show((lx+1-ly:Nat):Int)=lx+1-(ly:Int)by omega]at pH;have d1:((ly:Int)==1)=false:= aS ;go_enter func357,ntmps357;go_wp2_with fail;refine H1h.out.mono ?_;rintro e w' ⟨rfl,rfl⟩;go_wp2_with fail;refine H2h.out.mono ?_;rintro e w' ⟨rfl,rfl⟩;go_wp2_with fail;refine H3h.out.mono ?_;rintro e w1 ⟨rfl,kP⟩;have c2:=c1;rw[<-(kP.cell (p:=⟨ab,ao+(ly-1),none⟩) hab)]at c2;go_wp2_with fail;refine(H4.out _).mono ?_;rintro e w2 ⟨rfl,rfl⟩;go_wp2_with fail;refine(H5h.out _ (HS2.out.below kP)).mono ?_;rintro e w2 ⟨T,v1,he,DM,B4,lM,mK⟩;obtain⟨g,cap,R,we,Ul,Um,TN,DP,agn⟩:=lM.rx (by intro h;rw[h]at B4;simp at B4);have TS:=aqG lM.ok;rw[B4]at we DP;subst we;subst he;clear lM;have HTv:=aqG DM;have HTl:=aqG B4;clear DM B4;go_wp2_with fail;refine(H6h.out _ ((HR2.out.below kP).below mK)).mono ?_;rintro e w3 ⟨S,v2,he,TR,B3,lM,pW⟩;have I6:=TN.qC (pW.block g Um);obtain⟨g',cap',R',rD,agt,apm,_,apl,_⟩:=lM.rx (by intro h;rw[h]at B3;simp at B3);obtain⟨_,_,e2,ML⟩:=lM.sl;rw[rD]at e2;cases e2;have Jb:g'≠g:= aE 
 have H7:=uZ (some ⟨g',0,none⟩) cap' S w3 ML;have hV:ix S=ia (val Y*2^s):=by rw[qN lM.ok,TR]
 have zo:=ML.ur;rw[hV]at H7 zo;rw[HNh.out.2.1,B3]at H7;rw[B3]at rD;have agk:iJ w w3:=(kP.trans mK).trans pW;subst rD;subst he;have H7h:=aqG H7;clear lM ML hV TR B3 H7 TN mK pW;go_wp2_with fail;refine H7h.out.mono ?_;rintro e w4 ⟨rfl,rfl⟩;go_wp2;go_loop [9] (λu=>u = .slice (some ⟨g,0,none⟩) (lx+1) cap) (λ_=>0)
 case atStart=>rfl
 case round=>
  subst hrel;go_wp2;have vU:=Rw.yD w3 (lx+1-ly);have Jl:=HNh.out.2.1;have tX:=HNh.out.2.2.1;have rT:=HNh.out.2.2.2.1;have TU:=kR (val Y*2^s);have MS:=kf (val Y*2^s);rw[<-MS]at rT;generalize ia (val Y*2^s)=V at *
  have xZ:=sG.start (A:=val X) (s:=s) (V:=V) (O:=T) TS.out HTv.out (la:=lx) (by rw[HX.out];exact mJ HS2.out.ok) HTl.out agG aE aE (by rw[Jl];exact rT);have TP:=zo.alloc (.cells (oO (List.replicate (lx+1-ly) 0)).toArray 150);have TO:Rx (w3.alloc (.cells (oO (List.replicate (lx+1-ly) 0)).toArray 150)) g T R:=I6.qC ((iJ.alloc w3 _).block g (by have:=I6.lt;omega));rw[Jl]at xZ;have HD0:=aqG xZ;have HR0:=aqG vU;have HRx:=aqG TO;have HSV:=aqG TP;have HE0:=aqG (agk.trans (iJ.alloc w3 (.cells (oO (List.replicate (lx+1-ly) 0)).toArray 150)));have HnV:=aqG Jl;have HVok:=aqG TU;have HVv:=aqG MS;have HN1:=aqG tX;have hgq:g<w3.heap.size:=I6.lt;have Uo:w.heap.size<=g:=bG kP.size Ul;clear xZ vU TO TP zo I6 Jl TU MS tX rT HTv HTl TS H1h H2h H3h H4 H5h H6h H7h c1 c2 d2 pH kP Ul agt Um HNh HS2 HR2;go_loopw [13] (λj wr=>∃ (k:Nat) (O Q:List Nat),k<=lx+1-ly/\j = .int .i64 ((k:Int)-1)/\sG (val X*2^s) V k (lx+1) O Q/\Rx wr g O R/\Rw wr w3.heap.size Q/\Sl wr (some ⟨g',0,none⟩) cap' V/\iJ w wr) (λj _=>(intOf j+1).toNat)
  case atStart=>
   exact⟨lx+1-ly,T,_,bC _,by go_num,HD0.out,HRx.out,HR0.out,HSV.out,HE0.out⟩
  case round=>
   clear HD0 HRx HR0 HSV HE0;obtain⟨k,O,Q,hk,rfl,hD,DL,MK,zo,Ua⟩:=hrel;have HE:=aqG Ua;have HSV:=aqG zo;have HRQ:=aqG MK;have HRO:=aqG DL;have HD:=aqG hD;clear hD Ua;rcases k with _|t
   .have hO:=HD.out.Vy;have UH:=HRO.out.sl HD.out.Ai (cap:=cap) aE agn ly;have HZ:=Ox (some ⟨g,0,none⟩) cap (O.take ly) s wr UH aZ aE;have e1:(O.take ly).length=ly:=by rw[cJ];omega
    rw[e1]at HZ;have HZh:=aqG HZ;have HQs:=aqG (HRQ.out.sl HD.out.CI (by rw[HD.out.Gb];omega));have wZ:0<val V:=by
     have:=HD.out.lt;rcases eP (val V)with h|h
     .rw [h,cP]at this;omega
     .exact h
    have TX:0<val Y:=by
     rw[HVv.out]at wZ;exact Nat.pos_of_mul_pos_right wZ
    have M7:=adw (a:=val X) (b:=val Y) (s:=s) (q:=val Q) (r:=val O) TX (by rw[<-HVv.out];exact HD.out.eq) (by rw[<-HVv.out];have:=HD.out.lt;rw[cw,cz]at this;exact this);have A9:val (O.take ly)=val O:=by
     rw[aoI HD.out.Ai,bU];have:=HD.out.lt;rw[cw,cz]at this;refine fX this ?_;have h:=mJ HVok.out;rw[HnV.out]at h;exact h
    have TH:ix (O.take ly)=ia (val X%val Y*2^s):=by rw[qN (HD.out.Ai.take ly),A9,M7.2]
    rw[TH]at HZh;have I4:=HD.out.Gb;rw[HnV.out]at I4;have TL:iT (val X/val Y) (lx+1-ly)=Q:=Du HD.out.CI I4 M7.1;have HQd:=aqG TL;generalize qM (s%32) ((ia (val X%val Y*2^s)).drop (s/32))=Z at *
    have HQl:=aqG I4;clear M7 A9 TH TL UH HZ e1 I4 hO wZ TX zo DL MK;go_wp2_with fail;refine HZh.out.mono ?_;rintro e w5 ⟨AZ,cZ,rfl,hZs,T3⟩;go_wp2;go_ret2;have hq:=HQs.out.below T3;rw[HQl.out]at hq;exact⟨_,_,_,_,by rw[nf];rfl,by rw[HQd.out];exact hq,hZs,HE.out.trans T3⟩
   .have hO:=HD.out.Vy;have c4:=DL.cell (i:=t+ly) aE;have c5:=DL.cell (i:=t+ly-1) aE;have c6:=DL.cell (i:=t+ly-2) aE;obtain⟨_,_,e1,_,c7⟩:=zo.lR (i:=ly-1) (by rw[HnV.out];omega);obtain⟨_,_,e2,_,c8⟩:=zo.lR (i:=ly-2) (by rw[HnV.out];omega);cases e1;cases e2;rw[cD]at c7 c8;have v7:V[ly-1]'(by rw[HnV.out];omega)=V.getD (ly-1) 0:=by simp[bD,HnV.out,(aE:ly-1<ly)]
    have v8:V[ly-2]'(by rw[HnV.out];omega)=V.getD (ly-2) 0:=by simp[bD,HnV.out,(aE:ly-2<ly)]
    rw[v7]at c7;rw[v8]at c8;clear v7 v8;have lE:=HD.out.Ai;have o4:=lE.getD (t+ly);have o5:=lE.getD (t+ly-1);have o6:=lE.getD (t+ly-2);have o7:=HVok.out.getD (ly-1);have o8:=HVok.out.getD (ly-2);have hG:=HD.out.af4 HVok.out (by rw[HnV.out];omega) (by rw[HnV.out];exact HN1.out);rw[HnV.out]at hG;obtain⟨gd,g1,g2,g3,g4⟩:=af5 (O.getD (t+ly) 0) (O.getD (t+ly-1) 0) (O.getD (t+ly-2) 0) (V.getD (ly-1) 0) (V.getD (ly-2) 0) HN1.out o7 o5 o6 o8 hG.1;have HGq:=aqG (hG.2 gd g1 g2 g3);have HG:=aqG g4;clear hG g2 g3 g4 lE zo DL MK;generalize O.getD (t+ly) 0=x4 at *
    generalize O.getD (t+ly-1) 0=x5 at *
    generalize O.getD (t+ly-2) 0=x6 at *
    have HV1:=aqG (rfl:V.getD (ly-1) 0=V.getD (ly-1) 0);generalize hx7:V.getD (ly-1) 0=x7 at *
    generalize V.getD (ly-2) 0=x8 at *
    clear hx7 HV1;have i1:(((t+1:Nat):Int)-1)=(t:Int):= aE ;have i2:((t:Int)+ly).toNat=t+ly:= aE ;have i3:((t:Int)+ly-1).toNat=t+ly-1:= aE ;have i4:((t:Int)+ly-2).toNat=t+ly-2:= aE ;have i6:((ly:Int)-2)=((ly-2:Nat):Int):= aE ;have p1:IntKind.i64.wrap ((t:Int)+ly)=(t:Int)+ly:=i64_in _ aE aE;have p2:IntKind.i64.wrap ((t:Int)+ly-1)=(t:Int)+ly-1:=i64_in _ aE aE;have p3:IntKind.i64.wrap ((t:Int)+ly-2)=(t:Int)+ly-2:=i64_in _ aE aE;have p4:IntKind.i64.wrap ((ly-1:Nat):Int)=((ly-1:Nat):Int):=i64_in _ aE aE;have p5:IntKind.i64.wrap ((ly-2:Nat):Int)=((ly-2:Nat):Int):=i64_in _ aE aE;have j6:((ly-1:Nat):Int)<ly:= aE ;have j7:((ly-2:Nat):Int)<ly:= aE ;have j0:0<=(t:Int)+ly:= aE ;have j1:0<=(t:Int)+ly-1:= aE ;have j2:0<=(t:Int)+ly-2:= aE ;have j3:(t:Int)+ly<lx+1:= aE ;have j4:(t:Int)+ly-1<(lx:Int)+1:= aE ;have j5:(t:Int)+ly-2<(lx:Int)+1:= aE ;rw[i1];clear i1;go_wp2;go_quiet (exact ajW (HG.out _));go_wp2_with fail;have HTk:=anS g t (cap-t) cap' gd O V R (some ⟨g',0,none⟩) (wr.drewN nq) (HRO.out.qC rfl) (HSV.out.drewN nq) (λb' o _ e=>by cases e;exact Jb) HD.out.Ai (by rw[HnV.out];omega) g1 aE;rw[HnV.out,(aE:ly+1=t+ly+1-t)]at HTk;refine HTk.mono ?_;rintro e w5 ⟨O',δ,rfl,TM,qg,D2,hδ,lP,Jt,D3⟩;have HRO':=aqG TM;have HON:=aqG D3;have HSV5:=aqG ((HSV.out.drewN nq).qk (λb' o _ e=>by cases e;exact Jb) D3);have HRQ5:=aqG (show Rw w5 w3.heap.size Q from(D3.qk _ aE).trans HRQ.out);have HE5:=aqG (show iJ w w5 from Fp.iJ.an8 HE.out D3 Uo);have hPt:=pw t;have TV:0<val V:=by
     have:=HD.out.lt;rcases eP (val V)with h|h
     .rw [h,cP]at this;omega
     .exact h
    have wg:IntKind.u32.wrap (gd:Int)=gd:=by rw[IntKind.wrap_u32];omega
    have htm:(t:Int)<lx+1-(ly:Int):= aE ;have UL:t<Q.length:=by rw[HD.out.Gb,HnV.out];omega
    have MJ:=bI UL;have cq:=HRQ5.out.cell MJ;have fq:=HRQ5.out.frozen t;generalize Q[t]=q0 at *
    have HQG:=aqG MJ;clear MJ UL c4 c5 c6 c7 c8 HRO HRQ HSV HE HTk TM D3;rcases ew δ 1 with U4|hδ1
    .obtain rfl:δ=0:= aE ;have TE:=R7 hPt TV (by rw[lP,cU,bT]) HGq.out.1;have HDS:=aqG (HD.out.step (x:=gd) (by rw[HnV.out];omega) (by rw[qg,hO]) D2 aE (by rw[lP,cU,bT]) TE.2);clear TE lP Jt D2 qg HD HGq;have HRQ6:=aqG (λx:Nat=>HRQ5.out.set t x);have HRO6:=aqG (λv:Value=>HRO'.out.qC (w':=w5.setCell ⟨w3.heap.size,t,none⟩ v) (by simp only[World.setCell,dw];rw[bu aE]));have HSV6:=aqG (λv:Value=>HSV5.out.S6 (b:=w3.heap.size) aE t v);have HE6:=aqG (λv:Value=>HE5.out.setCell (p:=⟨w3.heap.size,t,none⟩) (by show w.heap.size<=w3.heap.size;omega) v);go_wp2;go_roundw
     case rel=>exact⟨t,O',Q.set t gd,aE,by go_num,HDS.out,HRO6.out _,HRQ6.out _,HSV6.out _,HE6.out _⟩
     case measure=>simp[intOf]
    .obtain rfl:δ=1:= aE ;have uc:=HD.out.WW (x:=gd) HVok.out D2 (by rw[HnV.out];exact lP) (by rw[HnV.out];exact Jt);have Cb:=uc.2;have HB:=aqG (λ(κ:Nat) (O2:List Nat)=>HD.out.abm (x:=gd) (κ:=κ) (O2:=O2) HVok.out (by rw[HnV.out];omega) D2 (by rw[HnV.out];exact lP) (by rw[HnV.out];exact Jt) g1 HGq.out.2 TV);have HP0:=aqG (xM.start D2 t V);have Uw:O'.length=lx+1:=by rw[qg,hO]
     have HL':=aqG Uw;have hxm:IntKind.u64.wrap ((gd:Int)-1)=((gd-1:Nat):Int):=by rw[IntKind.wrap_u64];omega
     have wg1:IntKind.u32.wrap ((gd-1:Nat):Int)=((gd-1:Nat):Int):=by rw[IntKind.wrap_u32];omega
     clear uc lP Jt D2 qg Uw HD HGq wg cq fq;go_wp2;go_loopw [15,125] (λcy i wr2=>∃ (k c':Nat) (O2:List Nat),k<=ly/\i = .int .i64 k/\cy = .int .u32 c'/\xM O' t V k O2 c'/\Rx wr2 g O2 R/\s8 g w5 wr2) (λ_ i _=>ly-(intOf i).toNat)
     case atStart=>exact⟨0,0,O',cj _,rfl,rfl,HP0.out,HRO'.out,s8.refl _ _⟩
     case round=>
      clear HP0 HRO';obtain⟨k,c',O2,tZ,rfl,rfl,hP,AY,D1⟩:=hrel;have HP:=aqG hP;have FH:=hP.LF;have nR:O2.length=lx+1:=by rw[hP.len];exact HL'.out
      have HL2:=aqG nR;clear hP;by_cases iL:k<ly
      .have zJ:k<V.length:=by rw[HnV.out];exact iL
       obtain⟨_,_,e1,_,c1⟩:=(HSV5.out.qk (λb' o _ e=>by cases e;exact Jb) D1).lR zJ;cases e1;rw[cD]at c1;have v7:V[k]=V.getD k 0:=by simp[bD,zJ]
       rw[v7]at c1;have qq:t+k<O2.length:= aE ;have c2:=AY.cell qq;have c3:=AY.frozen (t+k);have pY:V.getD k 0<4294967296:=HVok.out.getD k;have FZ:O2.getD (t+k) 0<4294967296:=HP.out.ok.getD _;have HST:=aqG (HP.out.step HVok.out zJ (by rw[HL'.out,HnV.out];omega));have HRS:=aqG (λx:Nat=>AY.set qq x);have HOS:=aqG (λ(v:Value)=>D1.G8 (t+k) v);have HA:=aqG (λw=>E7 (O2.getD (t+k) 0) (V.getD k 0) c' w FZ pY FH);clear AY D1 HP v7 zJ qq nR HL2;generalize O2.getD (t+k) 0=u at *
       generalize V.getD k 0=y at *
       have yl:((t:Int)+k).toNat=t+k:= aE ;have xg:0<=(t:Int)+k:= aE ;have Us:(t:Int)+k<lx+1:= aE ;go_wp2_with fail;refine(HA.out _).mono ?_;rintro e w6 ⟨rfl,rfl⟩;go_wp2;go_roundw
       case rel=>
        exact⟨k+1,(u+y+c')/4294967296,O2.set (t+k) ((u+y+c')%4294967296),aE,by go_num,rfl,HST.out,HRS.out _,HOS.out _⟩
       case measure=>simp[intOf];omega
      .obtain rfl:k=ly:= aE ;have I3:=(show xM O' t V V.length O2 c' by rw[HnV.out];exact HP.out).N5 (by rw[HL'.out,HnV.out];omega);rw[HnV.out]at I3;obtain⟨q1,q2,⟨κ,q3,q4⟩,q5⟩:=I3;have qq:t+k<O2.length:= aE ;have c2:=AY.cell qq;have c3:=AY.frozen (t+k);have FZ:O2.getD (t+k) 0<4294967296:=HP.out.ok.getD _;have HDS:=aqG (HB.out κ _ (by rw[q1];exact HL'.out) q2 q3 (by rw[HnV.out];exact q4) (by rw[HnV.out];exact q5));have HRS:=aqG (λx:Nat=>AY.set qq x);have HOS:=aqG (λ(v:Value)=>D1.G8 (t+k) v);have I5:∀ v:Value,Rw (wr.setCell ⟨g,t+k,none⟩ v) w3.heap.size Q:=λv=>((HOS.out v).qk _ aE).trans HRQ5.out
       have hcq:∀ v:Value,(wr.setCell ⟨g,t+k,none⟩ v).cell? ⟨w3.heap.size,t,none⟩=some (.int .u32 (q0:Int)):=λv=>(I5 v).cell HQG.out
       have hfq:∀ v:Value,(wr.setCell ⟨g,t+k,none⟩ v).frozen? ⟨w3.heap.size,t,none⟩=false:=λv=>(I5 v).frozen t
       have HRQ8:=aqG (λ(v:Value) (x:Nat)=>(I5 v).set t x);have HRO8:=aqG (λ(x:Nat) (v:Value)=>(HRS.out x).qC (w':=(wr.setCell ⟨g,t+k,none⟩ (.int .u32 (x:Int))).setCell ⟨w3.heap.size,t,none⟩ v) (by simp only[World.setCell,dw];rw[bu aE]));have HSV8:=aqG (λ(v v2:Value)=>(HSV5.out.qk (λb' o _ e=>by cases e;exact Jb) (HOS.out v)).S6 (b:=w3.heap.size) aE t v2);have HE8:=aqG (λ(v v2:Value)=>(Fp.iJ.only HE5.out (HOS.out v) Uo).setCell (p:=⟨w3.heap.size,t,none⟩) (by show w.heap.size<=w3.heap.size;omega) v2);clear I5 HRS HOS AY D1 HP q1 q2 q3 q4 q5 qq nR HL2;generalize O2.getD (t+k) 0=u at *
       have yl:((t:Int)+k).toNat=t+k:= aE ;have xg:0<=(t:Int)+k:= aE ;have Us:(t:Int)+k<lx+1:= aE ;have hi4:IntKind.u32.wrap ((u:Int)+c')=(((u+c')%4294967296:Nat):Int):=by rw[IntKind.wrap_u32];omega
       generalize (u+c')%4294967296=uu at *
       go_wp2;go_roundw
       case rel=>exact⟨t,O2.set (t+k) uu,Q.set t (gd-1),aE,by go_num,HDS.out,HRO8.out _ _,HRQ8.out _ _,HSV8.out _ _,HE8.out _ _⟩
       case measure=>simp[intOf]
def amR:E.le (.v (.slice none 0 0)) (ic []):=λbs br w v h=>by
 obtain rfl:=iN.kW h;exact .sl false 0 1 _ none 0 (λ_ _=>undef) (bC _) aG (λ_=>rfl) (λi j hi=>absurd hi (bO i)) (λi j hi=>absurd hi (bO i)) (λi j hi=>absurd hi (bO i)) (λi j hi=>absurd hi (bO i))
def amS{x:Nat}:E.le (.sl false 1 1 λi_ j_=>[.v (.int .u32 (x:Int))].getD (i_*1+j_) (.v (.bool false))) (ic [x]):=.sl λi j hi hj=>by
 obtain rfl:i=0:= aE ;obtain rfl:j=0:= aE ;exact⟨.refl _,rfl⟩
def RB(L:List Nat)(hk:iK L):gZ 302 [ic L] (ic L):=GH hk call302 (λA c w h _=>LL A c L w h) λA c B w e w' h hB ⟨h1,h2⟩=>by
 subst h2;exact⟨_,h1,Below.refl _ _,yO hB (Below.refl _ _) ⟨bC _,h.len,h.ok,λhn=>by have:=h.xw hn;have:=h.cap;omega,h.cell⟩⟩
def RC(L:List Nat)(hk:iK L)(hl:L.length<=1000000):gZ 244 [ic L] (ic L):=GH hk call244 (λA c w h _=>LM A c L w h aE) λA c B w e w' h hB r=>rl B w e w' hB r
def aip(L M:List Nat)(hL:iK L)(hM:iK M)(h1:L.length<=100000)(h2:M.length<=100000)(hc:kE (val (ix L)) (val (ix M))<0):gZ 357 [ic L,ic M] (.iC [ic [],ic (ix L)]):=by
 have ta:=pq L;have tb:=pq M;unfold mC at ta tb;exact ak call357 func357 (ae [ag [ic L] (uj _ aF),ag [ic M] (uj _ aF),ag [ic (ix L),ic (ix M)] (Oo _ _ (iK.ix aF) (iK.ix aF) aE aE),tB 25 (bA hc),ag [ic (ix L)] (RC _ (iK.ix aF) aE)]<|rR (.iC [ic [],ic (ix L)]) (.iC (.cons amR (.cons (.refl _) .nil)):E.le (.iC [.v (.slice none 0 0),ic (ix L)]) (.iC [ic [],ic (ix L)]))) 
def aiq(L M:List Nat)(hL:iK L)(hM:iK M)(h1:L.length<=100000)(h2:M.length<=100000)(hc:¬kE (val (ix L)) (val (ix M))<0)(hl:(ix M).length=1)(vV:0<(ix M).getD 0 0)(sM:(ix M).getD 0 0<4294967296):gZ 357 [ic L,ic M] (.iC [ic (iT (val (ix L)/(ix M).getD 0 0) (ix L).length),ic [val (ix L)%(ix M).getD 0 0]]):=by
 have ta:=pq L;have tb:=pq M;unfold mC at ta tb;exact ak call357 func357 (ae [ag [ic L] (uj _ aF),ag [ic M] (uj _ aF),ag [ic (ix L),ic (ix M)] (Oo _ _ (iK.ix aF) (iK.ix aF) aE aE),tB 25 (bB hc),ah 30 (((ix M).length:Int)==1) (by rw[hl];rfl),iX 0 ((ix M).length) aE,.c (aix (ix L) ((ix M).getD 0 0) (iK.ix aF) aE vV sM)]<|rR (.iC [ic (iT (val (ix L)/(ix M).getD 0 0) (ix L).length),ic [val (ix L)%(ix M).getD 0 0]]) (.iC (.cons (.refl _) (.cons amS .nil)):E.le (.iC [ic (iT (val (ix L)/((ix M).getD 0 0)) (ix L).length),(.sl false 1 1 λi_ j_=>[.v (.int .u32 ((val (ix L)%((ix M).getD 0 0):Nat):Int))].getD (i_*1+j_) (.v (.bool false)))]) (.iC [ic (iT (val (ix L)/(ix M).getD 0 0) (ix L).length),ic [val (ix L)%(ix M).getD 0 0]]))) 
def Oq(L M:List Nat)(hL:iK L)(hM:iK M)(h1:L.length<=100000)(h2:M.length<=100000)(h0:val M≠0):∃ T S:List Nat,gZ 357 [ic L,ic M] (.iC [ic T,ic S])/\val T=val L/val M/\val S=val L%val M/\iK T/\iK S/\T.length<=L.length/\S.length<=L.length+1:=by
 have ta:=pq L;have tb:=pq M;unfold mC at ta tb;have e1:=oZ L;have e2:=oZ M;by_cases hc:kE (val (ix L)) (val (ix M))<0
 .refine ⟨[],ix L,aip L M hL hM h1 h2 hc,?_,?_,iK.nil,hL.ix,cj _,aE⟩
  .rw [e1,e2]at hc;have:val L<val M:=by unfold kE at hc;split at hc<;>(try split at hc)<;>omega
   rw[cF this];rfl
  .rw [e1,e2]at hc;have:val L<val M:=by unfold kE at hc;split at hc<;>(try split at hc)<;>omega
   rw[bU this,e1]
 .have rB:val M<=val L:=by rw[e1,e2]at hc;unfold kE at hc;split at hc<;>(try split at hc)<;>omega
  have lL:ix M≠[]:=by intro h;rw[h]at e2;exact h0 e2.symm
  have hlen:(ix M).length≠0:=by simpa using lL
  by_cases hl:(ix M).length=1
  .obtain ⟨x,hx⟩:=List.length_eq_one_iff.1 hl;have lE:=hM.ix;rw[hx]at lE;have UW:x=val M:=by rw[<-e2,hx];simp[val]
   have hg:(ix M).getD 0 0=x:=by rw[hx];rfl
   have:=aiq L M hL hM h1 h2 hc hl (by rw[hg];omega) (by rw[hg];exact lE.head);rw[hg]at this;refine⟨_,_,this,?_,?_,sK _ _,iK.cons (fX (bM _ aE) lE.head) iK.nil,by rw[nf];exact ta,aK⟩
   .rw [vo,bU,e1,UW];exact cB (bV _ _) (mJ hL.ix)
   .simp [val,e1,UW]
  .refine ⟨_,_,Bs hL hM call357 (λA c B d w h k hT=>adA A B c d L M w _ _ _ rfl rfl rfl h k hT h1 h2 rB aE) (λB w e w' hB ⟨A1,c1,B1,d1,q1,q2,q3,q4⟩=>⟨_,q1,q4,kD.iC (.cons (yO hB q4 q2) (.cons (yO hB q4 q3) (.nil _ _ _)))⟩),?_,?_,sK _ _,Bp _ _,?_,?_⟩
   .rw [vo,bU];rw[cA aE];have g1:=mJ hL.ix;rw[e1]at g1;refine bW g1 ?_;obtain⟨l,qg⟩:∃ l,(ix M).length=l+1:=⟨(ix M).length-1,aE⟩
    have g2:4294967296^l<=val M:=by
     apply ca;intro q;have q2:(ia (val M)).length<=l:=rE aE;rw[<-qN hM]at q2;omega
    have g3:=cO (4294967296^((ix L).length+1-(ix M).length)) g2;rw[<-bE]at g3;refine bG ?_ g3;exact bN aG aE 
   .rw [KZ (kR _),kf,dW _ (bF aG)]
   .rw [nf];omega
   .rw [KA,fe];have hb:32-iq ((ix M).getD ((ix M).length-1) 0)<33:= aE ;have:=ahL (kR (val L%val M)) (32-iq ((ix M).getD ((ix M).length-1) 0));rw[kf]at this;have h3:(ia (val L%val M)).length<=(ia (val L)).length:=mU (dO _ _);rw[<-qN hL]at h3;omega
def Ae(m n:Nat)(h1:(ia m).length<=256)(h2:(ia n).length<=256)(h0:n≠0):gZ 307 [ic (ia m),ic (ia n)] (.iC [ic (ia (m/n)),ic (ia (m%n)),iP 0]):=by
 obtain⟨T,S,yi,hT,hS,oT,oS,_,_⟩:=Oq (ia m) (ia n) (kR m) (kR n) aE aE (by rw[kf];exact h0);rw[kf,kf]at hT hS;have hz:ix (ia n)=ia n:=wJ n;have hl:=ql h0;have nR:(((ix (ia n)).length:Int)==0)=false:=by rw[hz];exact nC hl
 exact ak call307 func307 (ae [.c (Wj (ia m) (ia n) aF aF),ag [ic (ia n)] (uj _ (kR _)),ai 18 (((ix (ia n)).length:Int)==0) nR,ag [ic (ia m),ic (ia n)] yi,ag [ic T] (uj _ aF),ag [ic (ix T)] (RB _ (iK.ix aF)),ag [ic S] (uj _ aF),ag [ic (ix S)] (RB _ (iK.ix aF))]<|rQ (.iC [ic (ix T),ic (ix S),iP 0]) (.iC [ic (ia (m/n)),ic (ia (m%n)),iP 0]) (by rw[qN oT,qN oS,hT,hS])) 
def XS(a b:Dy)(p:Nat)(up:Bool)(ha:a.ik)(hb:b.ik)(b0:b.m≠0)(iw:8<=p)(ij:p<=512):gZ 269 [ie a,ie b,iP p,bP up] (.iC [ie (kG a b p up),iP (nF a b p up)]):=by
 by_cases a0:a.m=0
 .have e1:kG a b p up=jD/\nF a b p up=0:=by unfold kG nF;rw[bw a0,bw a0];exact⟨rfl,rfl⟩
  exact ak call269 func269 (ae [.o 18 (.e (wV _ _):aj (.sl true 2 3 λi_ j_=>(jq a++jq b).getD (i_*3+j_) (.v (.bool false))) (nP [a,b])),ag [iP p,nP [a,b]] (xB _ _ _ aF aF aE aE),ai 21 ((0:Int) != 0) aG,ai 28 (((ia b.m).length:Int)==0) (nC (ql b0)),ah 34 (((ia a.m).length:Int)==0) (rF (rk.2 a0)),.o 35 (.e s7:aj (.agg ar) (ie jD))]<|rQ (.iC [ie jD,iP 0]) (.iC [ie (kG a b p up),iP (nF a b p up)]) (by rw[e1.1,e1.2])) 
 .have va:=ha.ia;have vb:=hb.ia;have xa:=ha.exp;have xb:=hb.exp;have ra:=ha.range.resolve_left a0;have rb:=hb.range.resolve_left b0;have pa:=nv a0;have pb:=nv b0;have hK:kz a b p 3=p+3+iq b.m-iq a.m:=rfl;have bs:=re a0 (kz a b p 3);have z1:(ia (a.m*2^kz a b p 3)).length<=256:=nJ aE;have hq:=L3 a0 b0 p 3 aG;have q0:a.m*2^kz a b p 3/b.m≠0:=by intro q;rw[q,rq]at hq;omega
  have z2:(ia (a.m*2^kz a b p 3/b.m)).length<=256:=nJ (by have:=tR (bV (a.m*2^kz a b p 3) b.m);omega);have z3:(ia (a.m*2^kz a b p 3%b.m)).length<=256:=nJ (by have:=tR (dE (bM (a.m*2^kz a b p 3) (en b0)));omega);have pE:decide (0<(iq (a.m*2^kz a b p 3%b.m):Int))=decide (a.m*2^kz a b p 3%b.m≠0):=by
   by_cases h:a.m*2^kz a b p 3%b.m=0
   .rw [h,rq];rfl
   .have:=nv h;rw[bA h,bA aE]
  obtain⟨d1,d2⟩:=adx a0 b0 p up;have h0:a.m*2^kz a b p 3/b.m≠0\/a.m*2^kz a b p 3/b.m=0/\a.e-(kz a b p 3:Int)-b.e=0/\decide (0<(iq (a.m*2^kz a b p 3%b.m):Int))=false:=.inl q0;have hm:decide (0<(iq (a.m*2^kz a b p 3%b.m):Int))=true->p<iq (a.m*2^kz a b p 3/b.m):=λ_=>hq
  exact ak call269 func269 (ae [.o 18 (.e (wV _ _):aj (.sl true 2 3 λi_ j_=>(jq a++jq b).getD (i_*3+j_) (.v (.bool false))) (nP [a,b])),ag [iP p,nP [a,b]] (xB _ _ _ aF aF aE aE),ai 21 ((0:Int) != 0) aG,ai 28 (((ia b.m).length:Int)==0) (nC (ql b0)),ai 34 (((ia a.m).length:Int)==0) (nC (ql a0)),iz ((p:Int)+3) aE,ag [ie b] (IG _ aF),iz (((p:Int)+3)+(iq (Dy.m b):Int)) aE,ag [ie a] (IG _ aF),
   iz ((((p:Int)+3)+(iq (Dy.m b):Int))-(iq (Dy.m a):Int)) aE,.o 44 (aq (if((((p:Int)+3)+(iq (Dy.m b):Int))-(iq (Dy.m a):Int))>0 then((((p:Int)+3)+(iq (Dy.m b):Int))-(iq (Dy.m a):Int))else 0) (kz a b p 3:Int) aR),.c (wE a.m (kz a b p 3) aE aE aE),ag [ic (ia (a.m*2^(kz a b p 3))),ic (ia b.m)] (Ae _ _ aE aE aF),
   iz (a.e-(kz a b p 3:Int)) aE,iz ((a.e-(kz a b p 3:Int))-b.e) aE,ag [ic (ia ((a.m*2^(kz a b p 3))%b.m))] (sU _ aE),.c (GV (! (a.neg==b.neg)) ((a.m*2^(kz a b p 3))/b.m) ((a.e-(kz a b p 3:Int))-b.e) (decide (0<(iq ((a.m*2^(kz a b p 3))%b.m):Int))) up p aE aF aE aE aE aE aF)]<|rQ (.iC [ie (jY (!(a.neg==b.neg)) ((a.m*2^(kz a b p 3))/b.m) ((a.e-(kz a b p 3:Int))-b.e) (decide (0<(iq ((a.m*2^(kz a b p 3))%b.m):Int))) p up),iP (jP (!(a.neg==b.neg)) ((a.m*2^(kz a b p 3))/b.m) ((a.e-(kz a b p 3:Int))-b.e) (decide (0<(iq ((a.m*2^(kz a b p 3))%b.m):Int))) p up)]) (.iC [ie (kG a b p up),iP (nF a b p up)]) (by rw[<-d1,<-d2,<-pE];rfl)) 
def XQ(a b:Dy)(p:Nat)(ha:a.ik)(hb:b.ik)(b0:b.m≠0)(iw:8<=p)(ij:p<=512):gZ 209 [ie a,ie b,iP p] (.iC [ie (kG a b p false),iP (nF a b p false)]):=
 ak call209 func209 (af [.c (XS a b p false aF aF aF aE aE)]) 
def XR(a b:Dy)(p:Nat)(ha:a.ik)(hb:b.ik)(b0:b.m≠0)(iw:8<=p)(ij:p<=512):gZ 210 [ie a,ie b,iP p] (.iC [ie (kG a b p true),iP (nF a b p true)]):=
 ak call210 func210 (af [.c (XS a b p true aF aF aF aE aE)]) 
def Vf(l:List Iv)(i:Nat):PS:=⟨19,true,[(7,.e (iP i)),(6,.e (iP l.length)),(5,.e (iA l))],[]⟩
def Ve(l:List Iv)(N:Nat)(i:Nat):PS:=⟨19,true,[(7,.e (iP i)),(6,.e (iP l.length)),(5,.e (iA l))],[]⟩
def mP(a:Iv):E.le (.sl true 1 7 λi j=>(iZ a).getD (i*7+j) (.v (.bool false))) (iA [a]):=.sl λi j hi hj=>by
 obtain rfl:i=0:= aE ;rcases j with _|_|_|_|_|_|_|j
 all_goals first|exact⟨.refl _,rfl⟩|omega
def yy(a b:Iv):E.le (.sl true 2 7 λi j=>(iZ a++iZ b).getD (i*7+j) (.v (.bool false))) (iA [a,b]):=.sl λi j hi hj=>by
 obtain rfl|rfl:i=0\/i=1:= aE 
 all_goals
  rcases j with _|_|_|_|_|_|_|j
  all_goals first|exact⟨.refl _,rfl⟩|omega
def pJ{x:Iv}(h:x.ik)(ha:x.all=false):x.lo.ik/\x.hi.ik/\jK x.lo x.hi<=0:=by
 rcases h with⟨h1,_⟩|⟨_,h⟩
 .rw [ha]at h1;cases h1
 .exact h
def NQ{x:Iv}(h:x.ik)(ha:x.all=true):x.lo=jD/\x.hi=jD:=by
 rcases h with⟨_,h⟩|⟨h1,_⟩
 .exact h
 .rw [ha]at h1;cases h1
def nS : gZ 148 [] (ig iu):=
 ak call148 func148 (af [.o 1 (.e xI:aj (.agg [bP false,.v (.slice none 0 0),iP 0,bP false,.v (.slice none 0 0),iP 0,bP true]) (ig iu))]) 
def Cv(lo hi:Dy)(e f:Int):gZ 151 [ie lo,iP e,ie hi,iP f] (ig (kX lo e hi f)):=by
 by_cases he:e=0
 .by_cases hf:f=0
  .exact ak call151 func151 (ae [ai 10 (e != 0) (by rw[he];rfl),ai 13 (f != 0) (by rw[hf];rfl)]<|rQ (ig (Iv.mk lo hi false)) (ig (kX lo e hi f)) (by rw[show kX lo e hi f=⟨lo,hi,false⟩by unfold kX;rw[bu (by simp[he,hf])]];try rfl)) 
  .exact ak call151 func151 (ae [ai 10 (e != 0) (by rw[he];rfl),ah 13 (f != 0) (by simpa using hf),.c nS]<|rQ (ig iu) (ig (kX lo e hi f)) (by rw[show kX lo e hi f=iu by unfold kX;rw[bw (.inr hf)]])) 
 .exact ak call151 func151 (ae [ah 10 (e != 0) (by simpa using he),.c nS]<|rQ (ig iu) (ig (kX lo e hi f)) (by rw[show kX lo e hi f=iu by unfold kX;rw[bw (.inl he)]])) 
def Vk : gZ 198 [ie jD] (bP true):=
 ak call198 func198 (af [ai 4 jD.neg rfl,ah 10 (((ia jD.m).length:Int)==0) (rF (rk.2 rfl)),ah 15 (jD.e==0) rfl]) 
def sS(x:Iv)(hx:x.ik):gZ 121 [ig x] (bP true):=by
 by_cases kN:x.all=true
 .obtain ⟨h1,h2⟩:=NQ hx kN;exact ak call121 func121 (af [ah 5 x.all kN,.c (by rw[h1];exact Vk:gZ 198 [ie x.lo] (bP true)),.c (by rw[h2];exact Vk:gZ 198 [ie x.hi] (bP true))]) 
 .replace kN:x.all=false:=by simpa using kN
  obtain⟨h1,h2,h3⟩:=pJ hx kN;exact ak call121 func121 (af [ai 5 x.all kN,ag [ie x.lo] (tf _ aF),ag [ie x.hi] (tf _ aF),ag [ie x.lo,ie x.hi] (o0 _ _ aF aF),tB 30 (bA h3)]) 
def Vg(l:List Iv)(hl:l.length<=1000)(hv:∀ i,i<l.length->(l.getD i iu).ik)(ha:∀ i,i<l.length->(l.getD i iu).all=false):gZ 93 [iA l] (bP true):=
 ak call93 func93 (af [.s (Sp.jv (Vf l) 0 l.length aE (λi hi rX=>by
    have UO:=hv i aE;have MV:=ha i aE;exact iG (af [tT 8 ((i:Int)<l.length) aE,iX (i:Int) (l.length) aE,ai 12 ((l.getD i iu).all) MV,.c (sS (l.getD i iu) aF),
     iz ((i:Int)+1) aE]) aI)
  (λhi=>by
    exact iG (af [tF 8 ((l.length:Int)<l.length) aE]) aI) aM:ju 2 Tryz.f93 (Vf l 0) (.exit 0) ⟨19,true,[],[]⟩) .nil]) 
def NP(l:List Iv)(hl:l.length<=1000)(hv:∀ i,i<l.length->(l.getD i iu).ik)(N:Nat)(hN:N<l.length)(ha:∀ i,i<N->(l.getD i iu).all=false)(rT:(l.getD N iu).all=true):gZ 93 [iA l] (bP false):=
 ak call93 func93 (af [.s (Sp.jv (Ve l N) 0 N aE (λi hi rX=>by
    have UO:=hv i aE;have MV:=ha i aE;exact iG (af [tT 8 ((i:Int)<l.length) aE,iX (i:Int) (l.length) aE,ai 12 ((l.getD i iu).all) MV,.c (sS (l.getD i iu) aF),
     iz ((i:Int)+1) aE]) aI)
  (λhi=>by
    exact iG (af [tT 8 ((N:Int)<l.length) aE,iX (N:Int) (l.length) aE,ah 12 ((l.getD N iu).all) rT]) aI) aM:ju 2 Tryz.f93 (Ve l N 0) .ret ⟨19,true,[(2,.e (bP false))],[]⟩) .nil]) 
def qj(x:Iv)(hx:x.ik):gZ 93 [iA [x]] (bP (!x.all)):=by
 have hv:∀ i,i<[x].length->([x].getD i iu).ik:=λi hi=>(match i,hi with
  | 0,_=>hx
  |n+1,hi=>absurd hi aK)
 cases kN:x.all with
 |true=>exact NP [x] aK hv 0 aK (λi hi=>absurd hi (bO i)) kN
 |false=>exact Vg [x] aK hv (λi hi=>(match i,hi with
  | 0,_=>kN
  |n+1,hi=>absurd hi aK))
def zV(x y:Iv)(hx:x.ik)(hy:y.ik):gZ 93 [iA [x,y]] (bP (!(x.all||y.all))):=by
 have hv:∀ i,i<[x,y].length->([x,y].getD i iu).ik:=λi hi=>(match i,hi with
  | 0,_=>hx
  | 1,_=>hy
  |n+2,hi=>absurd hi aK)
 cases kN:x.all with
 |true=>exact NP [x,y] aK hv 0 aK (λi hi=>absurd hi (bO i)) kN
 |false=>cases Bf:y.all with
  |true=>exact NP [x,y] aK hv 1 aK (λi hi=>(match i,hi with
   | 0,_=>kN
   |n+1,hi=>absurd hi aE)) Bf
  |false=>exact Vg [x,y] aK hv (λi hi=>(match i,hi with
   | 0,_=>kN
   | 1,_=>Bf
   |n+2,hi=>absurd hi aK))
def Ec(x y:Iv)(p:Nat)(hx:x.ik)(hy:y.ik)(iw:8<=p)(ij:p<=512):gZ 78 [ig x,ig y,iP p] (ig (kI x y p)):=by
 by_cases hk:(x.all||y.all)=true
 .exact ak call78 func78 (ae [.o 13 (.e (yy _ _):aj (.sl true 2 7 λi_ j_=>(iZ x++iZ y).getD (i_*7+j_) (.v (.bool false))) (iA [x,y])),ag [iA [x,y]] (zV _ _ aF aF),ai 14 (!(x.all||y.all)) (by rw[hk];rfl),.c nS]<|rQ (ig iu) (ig (kI x y p)) (by rw[show kI x y p=iu by unfold kI;rw[bw hk]])) 
 .replace hk:(x.all||y.all)=false:=by simpa using hk
  have kN:x.all=false:=by cases h:x.all;rfl;rw[h]at hk;simp at hk
  have Bf:y.all=false:=by cases h:y.all;rfl;rw[h]at hk;simp at hk
  obtain⟨v1,v2,v3⟩:=pJ hx kN;obtain⟨v4,v5,v6⟩:=pJ hy Bf;exact ak call78 func78 (ae [.o 13 (.e (yy _ _):aj (.sl true 2 7 λi_ j_=>(iZ x++iZ y).getD (i_*7+j_) (.v (.bool false))) (iA [x,y])),ag [iA [x,y]] (zV _ _ aF aF),ah 14 (!(x.all||y.all)) (by rw[hk];rfl),ag [iP p] (wi _),ah 18 (kC (p:Int)) (pe.2 ⟨aE,aE⟩),.c (XO x.lo y.lo p aF aF aE aE),.c (Ey x.hi y.hi p aF aF aE aE),.c (Cv (jf (jc x.lo y.lo) p false) (jf (jc x.hi y.hi) p true) (jx (jc x.lo y.lo) p false) (jx (jc x.hi y.hi) p true))]<|rQ (ig (kX (jf (jc x.lo y.lo) p false) (jx (jc x.lo y.lo) p false) (jf (jc x.hi y.hi) p true) (jx (jc x.hi y.hi) p true))) (ig (kI x y p)) (by rw[show kI x y p=_ by unfold kI;rw[bu (by rw[hk];decide)]])) 
def JI(x:Iv)(hx:x.ik):gZ 268 [ig x] (ig (pM x)):=by
 by_cases kN:x.all=true
 .exact ak call268 func268 (ae [.o 4 (.e (mP _):aj (.sl true 1 7 λi_ j_=>(iZ x).getD (i_*7+j_) (.v (.bool false))) (iA [x])),ag [iA [x]] (qj _ aF),ai 5 (!x.all) (by rw[kN];rfl),.c nS]<|rQ (ig iu) (ig (pM x)) (by rw[show pM x=iu by unfold pM;rw[bw kN]])) 
 .replace kN:x.all=false:=by simpa using kN
  obtain⟨v1,v2,v3⟩:=pJ hx kN;exact ak call268 func268 (ae [.o 4 (.e (mP _):aj (.sl true 1 7 λi_ j_=>(iZ x).getD (i_*7+j_) (.v (.bool false))) (iA [x])),ag [iA [x]] (qj _ aF),ah 5 (!x.all) (by rw[kN];rfl),ag [ie x.hi] (xU _ aF),ag [ie x.lo] (xU _ aF)]<|rQ (ig (Iv.mk (iU x.hi) (iU x.lo) false)) (ig (pM x)) (by rw[show pM x=⟨iU x.hi,iU x.lo,false⟩by unfold pM;rw[bu (by rw[kN];decide)]];try rfl)) 
def NS(x y:Iv)(p:Nat)(hx:x.ik)(hy:y.ik)(iw:8<=p)(ij:p<=512):gZ 203 [ig x,ig y,iP p] (ig (vh x y p)):=by
 have hn:=yF hy;exact ak call203 func203 (af [.c (JI y aF),.c (Ec x (pM y) p aF aF aE aE)]) 
def Cw(d:Dy)(hd:d.ik):gZ 202 [ie d] (ig (mi d)):=
 ak call202 func202 (af [ag [ie d] (tf _ aF)]) 
def Fo(d:Dy)(hd:d.ik):gZ 243 [ie d] (ie (lF d)):=by
 have hl:=hd.ia;by_cases h0:d.m=0
 .have e1:lF d=jD:=by
   rcases hd.canon with q|q
   .unfold lF jD;rw[q.1,q.2.2]
   .omega
  exact ak call243 func243 (ae [ag [ie d] (tf _ aF),ah 10 (((ia d.m).length:Int)==0) (rF (rk.2 h0)),.o 12 (.e s7:aj (.agg ar) (ie jD))]<|rQ (ie jD) (ie (lF d)) (by rw[e1])) 
 .exact ak call243 func243 (af [ag [ie d] (tf _ aF),ai 10 (((ia d.m).length:Int)==0) (nC (ql h0)),ag [ic (ia d.m)] (RC _ (kR _) aE)]) 
def JG(a b:Dy)(ha:a.ik)(hb:b.ik):gZ 304 [ie a,ie b] (ie (jd a b)):=by
 have hc:=xS a b;by_cases h:(jK a b<=0)
 .exact ak call304 func304 (ae [ag [ie a,ie b] (o0 _ _ aF aF),tB 8 (bA h)]<|rQ (ie a) (ie (jd a b)) (by unfold jd;rw[bu aE])) 
 .exact ak call304 func304 (ae [ag [ie a,ie b] (o0 _ _ aF aF),tB 8 (bB h)]<|rQ (ie b) (ie (jd a b)) (by unfold jd;rw[bw aE])) 
def JH(a b:Dy)(ha:a.ik)(hb:b.ik):gZ 242 [ie a,ie b] (ie (ja a b)):=by
 have hc:=xS a b;by_cases h:(0<=jK a b)
 .exact ak call242 func242 (ae [ag [ie a,ie b] (o0 _ _ aF aF),tB 8 (bA h)]<|rQ (ie a) (ie (ja a b)) (by unfold ja;rw[bu aE])) 
 .exact ak call242 func242 (ae [ag [ie a,ie b] (o0 _ _ aF aF),tB 8 (bB h)]<|rQ (ie b) (ie (ja a b)) (by unfold ja;rw[bw aE])) 
def F8(x:Iv)(hx:x.ik):gZ 47 [ig x] (iP (lZ x)):=by
 by_cases kN:x.all=true
 .exact ak call47 func47 (ae [.o 5 (.e (mP _):aj (.sl true 1 7 λi_ j_=>(iZ x).getD (i_*7+j_) (.v (.bool false))) (iA [x])),ag [iA [x]] (qj _ aF),ai 6 (!x.all) (by rw[kN];rfl)]<|rQ (iP 0) (iP (lZ x)) (by rw[show lZ x=0 by unfold lZ;rw[bw kN]])) 
 .replace kN:x.all=false:=by simpa using kN
  obtain⟨v1,v2,v3⟩:=pJ hx kN;by_cases h1:0<x.lo.jb
  .exact ak call47 func47 (ae [.o 5 (.e (mP _):aj (.sl true 1 7 λi_ j_=>(iZ x).getD (i_*7+j_) (.v (.bool false))) (iA [x])),ag [iA [x]] (qj _ aF),ah 6 (!x.all) (by rw[kN];rfl),ag [ie x.lo] (pv _ aF),tB 12 (bA h1)]<|rQ (iP 1) (iP (lZ x)) (by rw[show lZ x=1 by unfold lZ;rw[bu (by rw[kN];decide)];simp[h1]])) 
  .by_cases h2:x.hi.jb<0
   .exact ak call47 func47 (ae [.o 5 (.e (mP _):aj (.sl true 1 7 λi_ j_=>(iZ x).getD (i_*7+j_) (.v (.bool false))) (iA [x])),ag [iA [x]] (qj _ aF),ah 6 (!x.all) (by rw[kN];rfl),ag [ie x.lo] (pv _ aF),tB 12 (bB h1),ag [ie x.hi] (pv _ aF),tB 17 (bA h2)]<|rQ (iP (-1)) (iP (lZ x)) (by rw[show lZ x = -1 by unfold lZ;rw[bu (by rw[kN];decide)];simp[h1,h2]])) 
   .exact ak call47 func47 (ae [.o 5 (.e (mP _):aj (.sl true 1 7 λi_ j_=>(iZ x).getD (i_*7+j_) (.v (.bool false))) (iA [x])),ag [iA [x]] (qj _ aF),ah 6 (!x.all) (by rw[kN];rfl),ag [ie x.lo] (pv _ aF),tB 12 (bB h1),ag [ie x.hi] (pv _ aF),tB 17 (bB h2)]<|rQ (iP 0) (iP (lZ x)) (by rw[show lZ x=0 by unfold lZ;rw[bu (by rw[kN];decide)];simp[h1,h2]])) 
def Ed(x:Iv)(hx:x.ik)(kN:x.all=false):gZ 165 [ig x] (.iC [ie (kS x),bP true]):=by
 obtain⟨v1,v2,v3⟩:=pJ hx kN;have w1:=sj v1;have w2:=sj v2;exact ak call165 func165 (af [.o 5 (.e (mP _):aj (.sl true 1 7 λi_ j_=>(iZ x).getD (i_*7+j_) (.v (.bool false))) (iA [x])),ag [iA [x]] (qj _ aF),ah 6 (!x.all) (by rw[kN];rfl),.c (Fo x.lo aF),.c (Fo x.hi aF),.c (JH (lF x.lo) (lF x.hi) aF aF)]) 
def ag8(x:Iv)(hx:x.ik)(kN:x.all=false):gZ 267 [ig x] (.iC [ie (nK x),bP true]):=by
 obtain⟨v1,v2,v3⟩:=pJ hx kN;have w1:=sj v1;have w2:=sj v2;by_cases hs:lZ x=0
 .exact ak call267 func267 (ae [.o 5 (.e (mP _):aj (.sl true 1 7 λi_ j_=>(iZ x).getD (i_*7+j_) (.v (.bool false))) (iA [x])),ag [iA [x]] (qj _ aF),ah 6 (!x.all) (by rw[kN];rfl),.c (F8 x aF),ah 11 ((lZ x)==0) (by rw[hs];rfl),.o 12 (.e s7:aj (.agg ar) (ie jD))]<|rQ (.iC [ie jD,bP true]) (.iC [ie (nK x),bP true]) (by rw[show nK x=jD by unfold nK;rw[bw hs]])) 
 .exact ak call267 func267 (ae [.o 5 (.e (mP _):aj (.sl true 1 7 λi_ j_=>(iZ x).getD (i_*7+j_) (.v (.bool false))) (iA [x])),ag [iA [x]] (qj _ aF),ah 6 (!x.all) (by rw[kN];rfl),.c (F8 x aF),ai 11 ((lZ x)==0) (by simpa using hs),.c (Fo x.lo aF),.c (Fo x.hi aF),.c (JG (lF x.lo) (lF x.hi) aF aF)]<|rQ (.iC [ie (jd (lF x.lo) (lF x.hi)),bP true]) (.iC [ie (nK x),bP true]) (by rw[show nK x=jd (lF x.lo) (lF x.hi)by unfold nK;rw[bu hs]])) 
def NO(x:Iv)(hx:x.ik):gZ 201 [ig x] (ig (jh x)):=by
 by_cases kN:x.all=true
 .exact ak call201 func201 (ae [.o 8 (.e (mP _):aj (.sl true 1 7 λi_ j_=>(iZ x).getD (i_*7+j_) (.v (.bool false))) (iA [x])),ag [iA [x]] (qj _ aF),ai 9 (!x.all) (by rw[kN];rfl),.c nS]<|rQ (ig iu) (ig (jh x)) (by rw[show jh x=iu by unfold jh;rw[bw kN]])) 
 .replace kN:x.all=false:=by simpa using kN
  obtain⟨v1,v2,v3⟩:=pJ hx kN;exact ak call201 func201 (ae [.o 8 (.e (mP _):aj (.sl true 1 7 λi_ j_=>(iZ x).getD (i_*7+j_) (.v (.bool false))) (iA [x])),ag [iA [x]] (qj _ aF),ah 9 (!x.all) (by rw[kN];rfl),.c (ag8 x aF kN),.c (Ed x aF kN)]<|rQ (ig (Iv.mk (nK x) (kS x) false)) (ig (jh x)) (by rw[show jh x=⟨nK x,kS x,false⟩by unfold jh;rw[bu (by rw[kN];decide)]];try rfl)) 
def ag4(x y:Iv)(p:Nat)(gd gu:FuncId)(DD:Dy->Dy->Bool->Dy)(EE:Dy->Dy->Bool->Int):PS:=⟨96,true,[(41,.e (iP 0)),(40,.e (.agg (iZ (Iv.mk x.lo y.lo x.lo.neg)++[ic (ia x.lo.m),iP x.lo.e]++iZ (Iv.mk y.hi x.hi y.lo.neg)++[ic (ia y.lo.m),iP y.lo.e]++jq x.hi++jq y.hi))),(12,.box 12 0),(10,.box 10 0),(2,.e (iP p)),(3,.e (.fn gd [])),(4,.e (.fn gu []))],[(12,.cells 46 (iZ (Iv.mk (DD x.lo y.lo false) (DD x.lo y.lo true) false))),(10,.cells 46 au)]⟩
def ag5(x y:Iv)(p:Nat)(gd gu:FuncId)(DD:Dy->Dy->Bool->Dy)(EE:Dy->Dy->Bool->Int):PS:=⟨96,true,[(41,.e (iP (0+1))),(40,.e (.agg (iZ (Iv.mk x.lo y.lo x.lo.neg)++[ic (ia x.lo.m),iP x.lo.e]++iZ (Iv.mk y.hi x.hi y.lo.neg)++[ic (ia y.lo.m),iP y.lo.e]++jq x.hi++jq y.hi))),(12,.box 12 0),(10,.box 10 0),(2,.e (iP p)),(3,.e (.fn gd [])),(4,.e (.fn gu []))],[(12,.cells 46 (iZ (Iv.mk (jd (DD x.lo y.lo false) (DD x.lo y.hi false)) (ja (DD x.lo y.lo true) (DD x.lo y.hi true)) false))),(10,.cells 46 au)]⟩
def ag6(x y:Iv)(p:Nat)(gd gu:FuncId)(DD:Dy->Dy->Bool->Dy)(EE:Dy->Dy->Bool->Int):PS:=⟨96,true,[(41,.e (iP ((0+1)+1))),(40,.e (.agg (iZ (Iv.mk x.lo y.lo x.lo.neg)++[ic (ia x.lo.m),iP x.lo.e]++iZ (Iv.mk y.hi x.hi y.lo.neg)++[ic (ia y.lo.m),iP y.lo.e]++jq x.hi++jq y.hi))),(12,.box 12 0),(10,.box 10 0),(2,.e (iP p)),(3,.e (.fn gd [])),(4,.e (.fn gu []))],[(12,.cells 46 (iZ (Iv.mk (jd (jd (DD x.lo y.lo false) (DD x.lo y.hi false)) (DD x.hi y.lo false)) (ja (ja (DD x.lo y.lo true) (DD x.lo y.hi true)) (DD x.hi y.lo true)) false))),(10,.cells 46 au)]⟩
def ag7(x y:Iv)(p:Nat)(gd gu:FuncId)(DD:Dy->Dy->Bool->Dy)(EE:Dy->Dy->Bool->Int):PS:=⟨96,true,[(41,.e (iP (((0+1)+1)+1))),(40,.e (.agg (iZ (Iv.mk x.lo y.lo x.lo.neg)++[ic (ia x.lo.m),iP x.lo.e]++iZ (Iv.mk y.hi x.hi y.lo.neg)++[ic (ia y.lo.m),iP y.lo.e]++jq x.hi++jq y.hi))),(12,.box 12 0),(10,.box 10 0),(2,.e (iP p)),(3,.e (.fn gd [])),(4,.e (.fn gu []))],[(12,.cells 46 (iZ (Iv.mk (jd (jd (jd (DD x.lo y.lo false) (DD x.lo y.hi false)) (DD x.hi y.lo false)) (DD x.hi y.hi false)) (ja (ja (ja (DD x.lo y.lo true) (DD x.lo y.hi true)) (DD x.hi y.lo true)) (DD x.hi y.hi true)) false))),(10,.cells 46 au)]⟩
def Vd(x y:Iv)(p:Nat)(gd gu:FuncId)(DD:Dy->Dy->Bool->Dy)(EE:Dy->Dy->Bool->Int)(hd:∀ a b,(a=x.lo\/a=x.hi)->(b=y.lo\/b=y.hi)->gZ gd [ie a,ie b,iP (p:Int)] (.iC [ie (DD a b false),iP (EE a b false)]))
  (hu:∀ a b,(a=x.lo\/a=x.hi)->(b=y.lo\/b=y.hi)->gZ gu [ie a,ie b,iP (p:Int)] (.iC [ie (DD a b true),iP (EE a b true)])) (hv:∀ a b up,(DD a b up).ik):gZ 188 [ig x,ig y,iP p,.fn gd [],.fn gu []] (ig (mL DD EE x y)):=by
 exact ak call188 func188 (ae [.u 5,ah 42 (decide ((0:Int)<4)) aG]<|.w ((EE x.lo y.lo false)=0)
  (λk1=>.w ((EE x.lo y.lo true)=0)
   (λk2=>ae [.j 3 (ag4 x y p gd gu DD EE)
   (af [iX 0 4 aE,iX 0 2 aE,iX 1 2 aE,.c (hd _ _ (.inl rfl) (.inl rfl):gZ gd ((ie x.lo)::(ie y.lo)::(iP p)::[]) _),iX 0 2 aE,iX 1 2 aE,.c (hu _ _ (.inl rfl) (.inl rfl):gZ gu ((ie x.lo)::(ie y.lo)::(iP p)::[]) _),tB 66 (bq k1),tB 69 (bq k2),ah 73 ((0:Int)==0) aG,ah 84 ((0:Int)==0) aG]),
    iz (0+1) aE,ah 42 (decide (((0+1):Int)<4)) aG]<|.w ((EE x.lo y.hi false)=0)
    (λk3=>.w ((EE x.lo y.hi true)=0)
     (λk4=>ae [.j 3 (ag5 x y p gd gu DD EE)
   (ae [iX (0+1) 4 aE,iX 0 2 aE,iX 1 2 aE,.c (hd _ _ (.inl rfl) (.inr rfl):gZ gd ((ie x.lo)::(ie y.hi)::(iP p)::[]) _),iX 0 2 aE,iX 1 2 aE,.c (hu _ _ (.inl rfl) (.inr rfl):gZ gu ((ie x.lo)::(ie y.hi)::(iP p)::[]) _),tB 66 (bq k3),tB 69 (bq k4),ai 73 (((0+1):Int)==0) aG,ag [ie (DD x.lo y.hi false),ie (DD x.lo y.lo false)] (o0 _ _ (hv _ _ _) (hv _ _ _))]<|.w ((jK (DD x.lo y.hi false) (DD x.lo y.lo false))<0)
    (λm1=>ae [tB 79 (bA m1),ai 84 (((0+1):Int)==0) aG,ag [ie (DD x.lo y.hi true),ie (DD x.lo y.lo true)] (o0 _ _ (hv _ _ _) (hv _ _ _))]<|.w (0<(jK (DD x.lo y.hi true) (DD x.lo y.lo true)))
     (λm2=>ae [tB 90 (bA m2)]<|.e (af [.b 12 (.iM (by rw[show jd (DD x.lo y.lo false) (DD x.lo y.hi false)=(DD x.lo y.hi false)from bw m1,show ja (DD x.lo y.lo true) (DD x.lo y.hi true)=(DD x.lo y.hi true)from bw m2]):Bx.le (.cells 46 (iZ (Iv.mk (DD x.lo y.hi false) (DD x.lo y.hi true) false))) (.cells 46 (iZ (Iv.mk (jd (DD x.lo y.lo false) (DD x.lo y.hi false)) (ja (DD x.lo y.lo true) (DD x.lo y.hi true)) false))))]))
     (λm2=>ae [tB 90 (bB m2)]<|.e (af [.b 12 (.iM (by rw[show jd (DD x.lo y.lo false) (DD x.lo y.hi false)=(DD x.lo y.hi false)from bw m1,show ja (DD x.lo y.lo true) (DD x.lo y.hi true)=(DD x.lo y.lo true)from bu m2]):Bx.le (.cells 46 (iZ (Iv.mk (DD x.lo y.hi false) (DD x.lo y.lo true) false))) (.cells 46 (iZ (Iv.mk (jd (DD x.lo y.lo false) (DD x.lo y.hi false)) (ja (DD x.lo y.lo true) (DD x.lo y.hi true)) false))))])))
    (λm1=>ae [tB 79 (bB m1),ai 84 (((0+1):Int)==0) aG,ag [ie (DD x.lo y.hi true),ie (DD x.lo y.lo true)] (o0 _ _ (hv _ _ _) (hv _ _ _))]<|.w (0<(jK (DD x.lo y.hi true) (DD x.lo y.lo true)))
     (λm2=>ae [tB 90 (bA m2)]<|.e (af [.b 12 (.iM (by rw[show jd (DD x.lo y.lo false) (DD x.lo y.hi false)=(DD x.lo y.lo false)from bu m1,show ja (DD x.lo y.lo true) (DD x.lo y.hi true)=(DD x.lo y.hi true)from bw m2]):Bx.le (.cells 46 (iZ (Iv.mk (DD x.lo y.lo false) (DD x.lo y.hi true) false))) (.cells 46 (iZ (Iv.mk (jd (DD x.lo y.lo false) (DD x.lo y.hi false)) (ja (DD x.lo y.lo true) (DD x.lo y.hi true)) false))))]))
     (λm2=>ae [tB 90 (bB m2)]<|.e (af [.b 12 (.iM (by rw[show jd (DD x.lo y.lo false) (DD x.lo y.hi false)=(DD x.lo y.lo false)from bu m1,show ja (DD x.lo y.lo true) (DD x.lo y.hi true)=(DD x.lo y.lo true)from bu m2]):Bx.le (.cells 46 (iZ (Iv.mk (DD x.lo y.lo false) (DD x.lo y.lo true) false))) (.cells 46 (iZ (Iv.mk (jd (DD x.lo y.lo false) (DD x.lo y.hi false)) (ja (DD x.lo y.lo true) (DD x.lo y.hi true)) false))))])))),
      iz ((0+1)+1) aE,ah 42 (decide ((((0+1)+1):Int)<4)) aG]<|.w ((EE x.hi y.lo false)=0)
      (λk5=>.w ((EE x.hi y.lo true)=0)
       (λk6=>ae [.j 3 (ag6 x y p gd gu DD EE)
   (ae [iX ((0+1)+1) 4 aE,iX 0 2 aE,iX 1 2 aE,.c (hd _ _ (.inr rfl) (.inl rfl):gZ gd ((ie x.hi)::(ie y.lo)::(iP p)::[]) _),iX 0 2 aE,iX 1 2 aE,.c (hu _ _ (.inr rfl) (.inl rfl):gZ gu ((ie x.hi)::(ie y.lo)::(iP p)::[]) _),tB 66 (bq k5),tB 69 (bq k6),ai 73 ((((0+1)+1):Int)==0) aG,ag [ie (DD x.hi y.lo false),ie (jd (DD x.lo y.lo false) (DD x.lo y.hi false))] (o0 _ _ (hv _ _ _) (qy (hv _ _ _) (hv _ _ _)))]<|.w ((jK (DD x.hi y.lo false) (jd (DD x.lo y.lo false) (DD x.lo y.hi false)))<0)
    (λm1=>ae [tB 79 (bA m1),ai 84 ((((0+1)+1):Int)==0) aG,ag [ie (DD x.hi y.lo true),ie (ja (DD x.lo y.lo true) (DD x.lo y.hi true))] (o0 _ _ (hv _ _ _) (pL (hv _ _ _) (hv _ _ _)))]<|.w (0<(jK (DD x.hi y.lo true) (ja (DD x.lo y.lo true) (DD x.lo y.hi true))))
     (λm2=>ae [tB 90 (bA m2)]<|.e (af [.b 12 (.iM (by rw[show jd (jd (DD x.lo y.lo false) (DD x.lo y.hi false)) (DD x.hi y.lo false)=(DD x.hi y.lo false)from bw m1,show ja (ja (DD x.lo y.lo true) (DD x.lo y.hi true)) (DD x.hi y.lo true)=(DD x.hi y.lo true)from bw m2]):Bx.le (.cells 46 (iZ (Iv.mk (DD x.hi y.lo false) (DD x.hi y.lo true) false))) (.cells 46 (iZ (Iv.mk (jd (jd (DD x.lo y.lo false) (DD x.lo y.hi false)) (DD x.hi y.lo false)) (ja (ja (DD x.lo y.lo true) (DD x.lo y.hi true)) (DD x.hi y.lo true)) false))))]))
     (λm2=>ae [tB 90 (bB m2)]<|.e (af [.b 12 (.iM (by rw[show jd (jd (DD x.lo y.lo false) (DD x.lo y.hi false)) (DD x.hi y.lo false)=(DD x.hi y.lo false)from bw m1,show ja (ja (DD x.lo y.lo true) (DD x.lo y.hi true)) (DD x.hi y.lo true)=(ja (DD x.lo y.lo true) (DD x.lo y.hi true))from bu m2]):Bx.le (.cells 46 (iZ (Iv.mk (DD x.hi y.lo false) (ja (DD x.lo y.lo true) (DD x.lo y.hi true)) false))) (.cells 46 (iZ (Iv.mk (jd (jd (DD x.lo y.lo false) (DD x.lo y.hi false)) (DD x.hi y.lo false)) (ja (ja (DD x.lo y.lo true) (DD x.lo y.hi true)) (DD x.hi y.lo true)) false))))])))
    (λm1=>ae [tB 79 (bB m1),ai 84 ((((0+1)+1):Int)==0) aG,ag [ie (DD x.hi y.lo true),ie (ja (DD x.lo y.lo true) (DD x.lo y.hi true))] (o0 _ _ (hv _ _ _) (pL (hv _ _ _) (hv _ _ _)))]<|.w (0<(jK (DD x.hi y.lo true) (ja (DD x.lo y.lo true) (DD x.lo y.hi true))))
     (λm2=>ae [tB 90 (bA m2)]<|.e (af [.b 12 (.iM (by rw[show jd (jd (DD x.lo y.lo false) (DD x.lo y.hi false)) (DD x.hi y.lo false)=(jd (DD x.lo y.lo false) (DD x.lo y.hi false))from bu m1,show ja (ja (DD x.lo y.lo true) (DD x.lo y.hi true)) (DD x.hi y.lo true)=(DD x.hi y.lo true)from bw m2]):Bx.le (.cells 46 (iZ (Iv.mk (jd (DD x.lo y.lo false) (DD x.lo y.hi false)) (DD x.hi y.lo true) false))) (.cells 46 (iZ (Iv.mk (jd (jd (DD x.lo y.lo false) (DD x.lo y.hi false)) (DD x.hi y.lo false)) (ja (ja (DD x.lo y.lo true) (DD x.lo y.hi true)) (DD x.hi y.lo true)) false))))]))
     (λm2=>ae [tB 90 (bB m2)]<|.e (af [.b 12 (.iM (by rw[show jd (jd (DD x.lo y.lo false) (DD x.lo y.hi false)) (DD x.hi y.lo false)=(jd (DD x.lo y.lo false) (DD x.lo y.hi false))from bu m1,show ja (ja (DD x.lo y.lo true) (DD x.lo y.hi true)) (DD x.hi y.lo true)=(ja (DD x.lo y.lo true) (DD x.lo y.hi true))from bu m2]):Bx.le (.cells 46 (iZ (Iv.mk (jd (DD x.lo y.lo false) (DD x.lo y.hi false)) (ja (DD x.lo y.lo true) (DD x.lo y.hi true)) false))) (.cells 46 (iZ (Iv.mk (jd (jd (DD x.lo y.lo false) (DD x.lo y.hi false)) (DD x.hi y.lo false)) (ja (ja (DD x.lo y.lo true) (DD x.lo y.hi true)) (DD x.hi y.lo true)) false))))])))),
        iz (((0+1)+1)+1) aE,ah 42 (decide (((((0+1)+1)+1):Int)<4)) aG]<|.w ((EE x.hi y.hi false)=0)
        (λk7=>.w ((EE x.hi y.hi true)=0)
         (λk8=>ae [.j 3 (ag7 x y p gd gu DD EE)
   (ae [iX (((0+1)+1)+1) 4 aE,iX 0 2 aE,iX 1 2 aE,.c (hd _ _ (.inr rfl) (.inr rfl):gZ gd ((ie x.hi)::(ie y.hi)::(iP p)::[]) _),iX 0 2 aE,iX 1 2 aE,.c (hu _ _ (.inr rfl) (.inr rfl):gZ gu ((ie x.hi)::(ie y.hi)::(iP p)::[]) _),tB 66 (bq k7),tB 69 (bq k8),ai 73 (((((0+1)+1)+1):Int)==0) aG,ag [ie (DD x.hi y.hi false),ie (jd (jd (DD x.lo y.lo false) (DD x.lo y.hi false)) (DD x.hi y.lo false))] (o0 _ _ (hv _ _ _) (qy (qy (hv _ _ _) (hv _ _ _)) (hv _ _ _)))]<|.w ((jK (DD x.hi y.hi false) (jd (jd (DD x.lo y.lo false) (DD x.lo y.hi false)) (DD x.hi y.lo false)))<0)
    (λm1=>ae [tB 79 (bA m1),ai 84 (((((0+1)+1)+1):Int)==0) aG,ag [ie (DD x.hi y.hi true),ie (ja (ja (DD x.lo y.lo true) (DD x.lo y.hi true)) (DD x.hi y.lo true))] (o0 _ _ (hv _ _ _) (pL (pL (hv _ _ _) (hv _ _ _)) (hv _ _ _)))]<|.w (0<(jK (DD x.hi y.hi true) (ja (ja (DD x.lo y.lo true) (DD x.lo y.hi true)) (DD x.hi y.lo true))))
     (λm2=>ae [tB 90 (bA m2)]<|.e (af [.b 12 (.iM (by rw[show jd (jd (jd (DD x.lo y.lo false) (DD x.lo y.hi false)) (DD x.hi y.lo false)) (DD x.hi y.hi false)=(DD x.hi y.hi false)from bw m1,show ja (ja (ja (DD x.lo y.lo true) (DD x.lo y.hi true)) (DD x.hi y.lo true)) (DD x.hi y.hi true)=(DD x.hi y.hi true)from bw m2]):Bx.le (.cells 46 (iZ (Iv.mk (DD x.hi y.hi false) (DD x.hi y.hi true) false))) (.cells 46 (iZ (Iv.mk (jd (jd (jd (DD x.lo y.lo false) (DD x.lo y.hi false)) (DD x.hi y.lo false)) (DD x.hi y.hi false)) (ja (ja (ja (DD x.lo y.lo true) (DD x.lo y.hi true)) (DD x.hi y.lo true)) (DD x.hi y.hi true)) false))))]))
     (λm2=>ae [tB 90 (bB m2)]<|.e (af [.b 12 (.iM (by rw[show jd (jd (jd (DD x.lo y.lo false) (DD x.lo y.hi false)) (DD x.hi y.lo false)) (DD x.hi y.hi false)=(DD x.hi y.hi false)from bw m1,show ja (ja (ja (DD x.lo y.lo true) (DD x.lo y.hi true)) (DD x.hi y.lo true)) (DD x.hi y.hi true)=(ja (ja (DD x.lo y.lo true) (DD x.lo y.hi true)) (DD x.hi y.lo true))from bu m2]):Bx.le (.cells 46 (iZ (Iv.mk (DD x.hi y.hi false) (ja (ja (DD x.lo y.lo true) (DD x.lo y.hi true)) (DD x.hi y.lo true)) false))) (.cells 46 (iZ (Iv.mk (jd (jd (jd (DD x.lo y.lo false) (DD x.lo y.hi false)) (DD x.hi y.lo false)) (DD x.hi y.hi false)) (ja (ja (ja (DD x.lo y.lo true) (DD x.lo y.hi true)) (DD x.hi y.lo true)) (DD x.hi y.hi true)) false))))])))
    (λm1=>ae [tB 79 (bB m1),ai 84 (((((0+1)+1)+1):Int)==0) aG,ag [ie (DD x.hi y.hi true),ie (ja (ja (DD x.lo y.lo true) (DD x.lo y.hi true)) (DD x.hi y.lo true))] (o0 _ _ (hv _ _ _) (pL (pL (hv _ _ _) (hv _ _ _)) (hv _ _ _)))]<|.w (0<(jK (DD x.hi y.hi true) (ja (ja (DD x.lo y.lo true) (DD x.lo y.hi true)) (DD x.hi y.lo true))))
     (λm2=>ae [tB 90 (bA m2)]<|.e (af [.b 12 (.iM (by rw[show jd (jd (jd (DD x.lo y.lo false) (DD x.lo y.hi false)) (DD x.hi y.lo false)) (DD x.hi y.hi false)=(jd (jd (DD x.lo y.lo false) (DD x.lo y.hi false)) (DD x.hi y.lo false))from bu m1,show ja (ja (ja (DD x.lo y.lo true) (DD x.lo y.hi true)) (DD x.hi y.lo true)) (DD x.hi y.hi true)=(DD x.hi y.hi true)from bw m2]):Bx.le (.cells 46 (iZ (Iv.mk (jd (jd (DD x.lo y.lo false) (DD x.lo y.hi false)) (DD x.hi y.lo false)) (DD x.hi y.hi true) false))) (.cells 46 (iZ (Iv.mk (jd (jd (jd (DD x.lo y.lo false) (DD x.lo y.hi false)) (DD x.hi y.lo false)) (DD x.hi y.hi false)) (ja (ja (ja (DD x.lo y.lo true) (DD x.lo y.hi true)) (DD x.hi y.lo true)) (DD x.hi y.hi true)) false))))]))
     (λm2=>ae [tB 90 (bB m2)]<|.e (af [.b 12 (.iM (by rw[show jd (jd (jd (DD x.lo y.lo false) (DD x.lo y.hi false)) (DD x.hi y.lo false)) (DD x.hi y.hi false)=(jd (jd (DD x.lo y.lo false) (DD x.lo y.hi false)) (DD x.hi y.lo false))from bu m1,show ja (ja (ja (DD x.lo y.lo true) (DD x.lo y.hi true)) (DD x.hi y.lo true)) (DD x.hi y.hi true)=(ja (ja (DD x.lo y.lo true) (DD x.lo y.hi true)) (DD x.hi y.lo true))from bu m2]):Bx.le (.cells 46 (iZ (Iv.mk (jd (jd (DD x.lo y.lo false) (DD x.lo y.hi false)) (DD x.hi y.lo false)) (ja (ja (DD x.lo y.lo true) (DD x.lo y.hi true)) (DD x.hi y.lo true)) false))) (.cells 46 (iZ (Iv.mk (jd (jd (jd (DD x.lo y.lo false) (DD x.lo y.hi false)) (DD x.hi y.lo false)) (DD x.hi y.hi false)) (ja (ja (ja (DD x.lo y.lo true) (DD x.lo y.hi true)) (DD x.hi y.lo true)) (DD x.hi y.hi true)) false))))])))),
          iz ((((0+1)+1)+1)+1) aE,ai 42 (decide ((((((0+1)+1)+1)+1):Int)<4)) aG]<|rQ (ig (Iv.mk (jd (jd (jd (DD x.lo y.lo false) (DD x.lo y.hi false)) (DD x.hi y.lo false)) (DD x.hi y.hi false)) (ja (ja (ja (DD x.lo y.lo true) (DD x.lo y.hi true)) (DD x.hi y.lo true)) (DD x.hi y.hi true)) false)) (ig (mL DD EE x y)) (by rw[show mL DD EE x y=⟨jd (jd (jd (DD x.lo y.lo false) (DD x.lo y.hi false)) (DD x.hi y.lo false)) (DD x.hi y.hi false),ja (ja (ja (DD x.lo y.lo true) (DD x.lo y.hi true)) (DD x.hi y.lo true)) (DD x.hi y.hi true),false⟩from bw ⟨⟨k1,k2⟩,⟨k3,k4⟩,⟨k5,k6⟩,⟨k7,k8⟩⟩];try rfl))
         (λk8=>ae [iX (((0+1)+1)+1) 4 aE,iX 0 2 aE,iX 1 2 aE,.c (hd _ _ (.inr rfl) (.inr rfl):gZ gd ((ie x.hi)::(ie y.hi)::(iP p)::[]) _),iX 0 2 aE,iX 1 2 aE,.c (hu _ _ (.inr rfl) (.inr rfl):gZ gu ((ie x.hi)::(ie y.hi)::(iP p)::[]) _),tB 66 (bq k7),tB 69 (bt k8),.c nS]<|rQ (ig iu) (ig (mL DD EE x y)) (by rw[show mL DD EE x y=iu from bu (by rintro⟨⟨q0,r0⟩,⟨q1,r1⟩,⟨q2,r2⟩,⟨q3,r3⟩⟩;exact k8 r3)])))
        (λk7=>ae [iX (((0+1)+1)+1) 4 aE,iX 0 2 aE,iX 1 2 aE,.c (hd _ _ (.inr rfl) (.inr rfl):gZ gd ((ie x.hi)::(ie y.hi)::(iP p)::[]) _),iX 0 2 aE,iX 1 2 aE,.c (hu _ _ (.inr rfl) (.inr rfl):gZ gu ((ie x.hi)::(ie y.hi)::(iP p)::[]) _),tB 66 (bt k7),.c nS]<|rQ (ig iu) (ig (mL DD EE x y)) (by rw[show mL DD EE x y=iu from bu (by rintro⟨⟨q0,r0⟩,⟨q1,r1⟩,⟨q2,r2⟩,⟨q3,r3⟩⟩;exact k7 q3)])))
       (λk6=>ae [iX ((0+1)+1) 4 aE,iX 0 2 aE,iX 1 2 aE,.c (hd _ _ (.inr rfl) (.inl rfl):gZ gd ((ie x.hi)::(ie y.lo)::(iP p)::[]) _),iX 0 2 aE,iX 1 2 aE,.c (hu _ _ (.inr rfl) (.inl rfl):gZ gu ((ie x.hi)::(ie y.lo)::(iP p)::[]) _),tB 66 (bq k5),tB 69 (bt k6),.c nS]<|rQ (ig iu) (ig (mL DD EE x y)) (by rw[show mL DD EE x y=iu from bu (by rintro⟨⟨q0,r0⟩,⟨q1,r1⟩,⟨q2,r2⟩,⟨q3,r3⟩⟩;exact k6 r2)])))
      (λk5=>ae [iX ((0+1)+1) 4 aE,iX 0 2 aE,iX 1 2 aE,.c (hd _ _ (.inr rfl) (.inl rfl):gZ gd ((ie x.hi)::(ie y.lo)::(iP p)::[]) _),iX 0 2 aE,iX 1 2 aE,.c (hu _ _ (.inr rfl) (.inl rfl):gZ gu ((ie x.hi)::(ie y.lo)::(iP p)::[]) _),tB 66 (bt k5),.c nS]<|rQ (ig iu) (ig (mL DD EE x y)) (by rw[show mL DD EE x y=iu from bu (by rintro⟨⟨q0,r0⟩,⟨q1,r1⟩,⟨q2,r2⟩,⟨q3,r3⟩⟩;exact k5 q2)])))
     (λk4=>ae [iX (0+1) 4 aE,iX 0 2 aE,iX 1 2 aE,.c (hd _ _ (.inl rfl) (.inr rfl):gZ gd ((ie x.lo)::(ie y.hi)::(iP p)::[]) _),iX 0 2 aE,iX 1 2 aE,.c (hu _ _ (.inl rfl) (.inr rfl):gZ gu ((ie x.lo)::(ie y.hi)::(iP p)::[]) _),tB 66 (bq k3),tB 69 (bt k4),.c nS]<|rQ (ig iu) (ig (mL DD EE x y)) (by rw[show mL DD EE x y=iu from bu (by rintro⟨⟨q0,r0⟩,⟨q1,r1⟩,⟨q2,r2⟩,⟨q3,r3⟩⟩;exact k4 r1)])))
    (λk3=>ae [iX (0+1) 4 aE,iX 0 2 aE,iX 1 2 aE,.c (hd _ _ (.inl rfl) (.inr rfl):gZ gd ((ie x.lo)::(ie y.hi)::(iP p)::[]) _),iX 0 2 aE,iX 1 2 aE,.c (hu _ _ (.inl rfl) (.inr rfl):gZ gu ((ie x.lo)::(ie y.hi)::(iP p)::[]) _),tB 66 (bt k3),.c nS]<|rQ (ig iu) (ig (mL DD EE x y)) (by rw[show mL DD EE x y=iu from bu (by rintro⟨⟨q0,r0⟩,⟨q1,r1⟩,⟨q2,r2⟩,⟨q3,r3⟩⟩;exact k3 q1)])))
   (λk2=>ae [iX 0 4 aE,iX 0 2 aE,iX 1 2 aE,.c (hd _ _ (.inl rfl) (.inl rfl):gZ gd ((ie x.lo)::(ie y.lo)::(iP p)::[]) _),iX 0 2 aE,iX 1 2 aE,.c (hu _ _ (.inl rfl) (.inl rfl):gZ gu ((ie x.lo)::(ie y.lo)::(iP p)::[]) _),tB 66 (bq k1),tB 69 (bt k2),.c nS]<|rQ (ig iu) (ig (mL DD EE x y)) (by rw[show mL DD EE x y=iu from bu (by rintro⟨⟨q0,r0⟩,⟨q1,r1⟩,⟨q2,r2⟩,⟨q3,r3⟩⟩;exact k2 r0)])))
  (λk1=>ae [iX 0 4 aE,iX 0 2 aE,iX 1 2 aE,.c (hd _ _ (.inl rfl) (.inl rfl):gZ gd ((ie x.lo)::(ie y.lo)::(iP p)::[]) _),iX 0 2 aE,iX 1 2 aE,.c (hu _ _ (.inl rfl) (.inl rfl):gZ gu ((ie x.lo)::(ie y.lo)::(iP p)::[]) _),tB 66 (bt k1),.c nS]<|rQ (ig iu) (ig (mL DD EE x y)) (by rw[show mL DD EE x y=iu from bu (by rintro⟨⟨q0,r0⟩,⟨q1,r1⟩,⟨q2,r2⟩,⟨q3,r3⟩⟩;exact k1 q0)]))) 
def YQ{y:Iv}(hy:y.ik)(hs:lZ y≠0):y.lo.m≠0/\y.hi.m≠0:=by
 unfold lZ at hs;have ha:y.all=false:=by
  cases h:y.all with
  |false=>rfl
  |true=>rw[h]at hs;exact absurd rfl hs
 obtain⟨v1,v2,v3⟩:=pJ hy ha;rw[ha]at hs;simp only[bS,bJ]at hs;have z:∀ d:Dy,d.m=0->d.jb=0:=λd h=>by unfold Dy.jb;rw[bw h]
 have hc:=Dp y.lo y.hi;rw[hc]at v3;constructor
 .intro h0;have:=z _ h0;rw[this]at hs v3;split at hs
  .omega
  .split at hs
   .split at v3<;>omega
   .exact hs rfl
 .intro h0;have:=z _ h0;rw[this]at hs v3;split at hs
  .split at v3<;>omega
  .split at hs
   .omega
   .exact hs rfl
def adq(a b:Dy){p:Nat}(up:Bool)(hp:1<=p)(ij:p<=4096):(kG a b p up).ik:=by
 unfold kG;split
 .exact q6
 .exact mR _ _ _ _ _ _ hp ij
def xo(x y:Iv)(p:Nat)(hx:x.ik)(hy:y.ik)(iw:8<=p)(ij:p<=512):gZ 115 [ig x,ig y,iP p] (ig (jt x y p)):=by
 by_cases hk:(x.all||y.all)=true
 .exact ak call115 func115 (ae [.o 9 (.e (yy _ _):aj (.sl true 2 7 λi_ j_=>(iZ x++iZ y).getD (i_*7+j_) (.v (.bool false))) (iA [x,y])),ag [iA [x,y]] (zV _ _ aF aF),ai 10 (!(x.all||y.all)) (by rw[hk];rfl),.c nS]<|rQ (ig iu) (ig (jt x y p)) (by rw[show jt x y p=iu by unfold jt;rw[bw hk]])) 
 .replace hk:(x.all||y.all)=false:=by simpa using hk
  have kN:x.all=false:=by cases h:x.all;rfl;rw[h]at hk;simp at hk
  have Bf:y.all=false:=by cases h:y.all;rfl;rw[h]at hk;simp at hk
  obtain⟨v1,v2,v3⟩:=pJ hx kN;obtain⟨v4,v5,v6⟩:=pJ hy Bf;exact ak call115 func115 (ae [.o 9 (.e (yy _ _):aj (.sl true 2 7 λi_ j_=>(iZ x++iZ y).getD (i_*7+j_) (.v (.bool false))) (iA [x,y])),ag [iA [x,y]] (zV _ _ aF aF),ah 10 (!(x.all||y.all)) (by rw[hk];rfl),ag [iP p] (wi _),ah 14 (kC (p:Int)) (pe.2 ⟨aE,aE⟩),.c (Vd x y p 189 190 (λa b up=>jf (mV a b) p up) (λa b up=>jx (mV a b) p up) (λa b ha hb=>Ki a b p (by rcases ha with rfl|rfl;exact v1;exact v2) (by rcases hb with rfl|rfl;exact v4;exact v5) iw ij) (λa b ha hb=>Kj a b p (by rcases ha with rfl|rfl;exact v1;exact v2) (by rcases hb with rfl|rfl;exact v4;exact v5) iw ij) (λa b up=>mR _ _ _ _ _ _ aE aE))]<|rQ (ig (mL (λa b up=>jf (mV a b) p up) (λa b up=>jx (mV a b) p up) x y)) (ig (jt x y p)) (by rw[show jt x y p=_ by unfold jt;rw[bu (by rw[hk];decide)]];rfl)) 
def F7(x y:Iv)(p:Nat)(hx:x.ik)(hy:y.ik)(iw:8<=p)(ij:p<=512):gZ 128 [ig x,ig y,iP p] (ig (jT x y p)):=by
 by_cases hk:(x.all||y.all)=true
 .exact ak call128 func128 (ae [.o 9 (.e (yy _ _):aj (.sl true 2 7 λi_ j_=>(iZ x++iZ y).getD (i_*7+j_) (.v (.bool false))) (iA [x,y])),ag [iA [x,y]] (zV _ _ aF aF),ai 10 (!(x.all||y.all)) (by rw[hk];rfl),.c nS]<|rQ (ig iu) (ig (jT x y p)) (by rw[show jT x y p=iu by unfold jT;rw[bw (by rw[hk];rfl)]])) 
 .replace hk:(x.all||y.all)=false:=by simpa using hk
  have kN:x.all=false:=by cases h:x.all;rfl;rw[h]at hk;simp at hk
  have Bf:y.all=false:=by cases h:y.all;rfl;rw[h]at hk;simp at hk
  obtain⟨v1,v2,v3⟩:=pJ hx kN;obtain⟨v4,v5,v6⟩:=pJ hy Bf;by_cases hs:lZ y=0
  .exact ak call128 func128 (ae [.o 9 (.e (yy _ _):aj (.sl true 2 7 λi_ j_=>(iZ x++iZ y).getD (i_*7+j_) (.v (.bool false))) (iA [x,y])),ag [iA [x,y]] (zV _ _ aF aF),ah 10 (!(x.all||y.all)) (by rw[hk];rfl),ag [iP p] (wi _),ah 14 (kC (p:Int)) (pe.2 ⟨aE,aE⟩),.c (F8 y aF),ah 20 ((lZ y)==0) (by rw[hs];rfl),.c nS]<|rQ (ig iu) (ig (jT x y p)) (by rw[show jT x y p=iu by unfold jT;rw[bw (by rw[hk,bA hs];rfl)]])) 
  .obtain ⟨n1,n2⟩:=YQ hy hs;exact ak call128 func128 (ae [.o 9 (.e (yy _ _):aj (.sl true 2 7 λi_ j_=>(iZ x++iZ y).getD (i_*7+j_) (.v (.bool false))) (iA [x,y])),ag [iA [x,y]] (zV _ _ aF aF),ah 10 (!(x.all||y.all)) (by rw[hk];rfl),ag [iP p] (wi _),ah 14 (kC (p:Int)) (pe.2 ⟨aE,aE⟩),.c (F8 y aF),ai 20 ((lZ y)==0) (by simpa using hs),.c (Vd x y p 209 210 (λa b up=>kG a b p up) (λa b up=>nF a b p up) (λa b ha hb=>XQ a b p (by rcases ha with rfl|rfl;exact v1;exact v2) (by rcases hb with rfl|rfl;exact v4;exact v5) (by rcases hb with rfl|rfl;exact n1;exact n2) iw ij) (λa b ha hb=>XR a b p (by rcases ha with rfl|rfl;exact v1;exact v2) (by rcases hb with rfl|rfl;exact v4;exact v5) (by rcases hb with rfl|rfl;exact n1;exact n2) iw ij) (λa b up=>adq a b up aE aE))]<|rQ (ig (mL (λa b up=>kG a b p up) (λa b up=>nF a b p up) x y)) (ig (jT x y p)) (by rw[show jT x y p=_ by unfold jT;rw[bu (by rw[hk,bB hs];decide)]])) 
def ahe(d:RD)(h:d.Zero):gZ 198 [rn d] (bP true):=by
 obtain⟨h1,h2,h3⟩:=h;exact ak call198 func198 (af [ai 4 d.neg h1,ah 10 ((d.L.length:Int)==0) (rF (by rw[h2];rfl)),ah 15 (d.e==0) (by rw[h3];rfl)]) 
def Vj(d:RD)(h:¬d.Zero):gZ 198 [rn d] (bP false):=by
 by_cases h1:d.neg=true
 .exact ak call198 func198 (af [ah 4 d.neg h1]) 
 .replace h1:d.neg=false:=by simpa using h1
  by_cases h2:d.L=[]
  .have h3:¬d.e=0:=λq=>h ⟨h1,h2,q⟩
   exact ak call198 func198 (af [ai 4 d.neg h1,ah 10 ((d.L.length:Int)==0) (rF (by rw[h2];rfl)),ai 15 (d.e==0) (by simpa using h3)]) 
  .exact ak call198 func198 (af [ai 4 d.neg h1,ai 10 ((d.L.length:Int)==0) (nC (λq=>h2 (aqf.1 q)))]) 
def ahd(x:RI)(g:x.jH)(h:x.Ok):gZ 121 [qo x] (bP true):=by
 have:=sS x.iv h.valid;rwa[<-JJ,h.eq g]at this
def ahc(x:RI)(g:x.jH)(h:¬x.Ok):gZ 121 [qo x] (bP false):=by
 have ga:=g.lo;have gb:=g.hi;by_cases ha:x.all=true
 .by_cases h1:x.lo.Zero
  .have h2:¬x.hi.Zero:=λq=>h (.inl ⟨ha,h1,q⟩)
   exact ak call121 func121 (af [ah 5 x.all ha,.c (ahe x.lo h1),.c (Vj x.hi h2)]) 
  .exact ak call121 func121 (af [ah 5 x.all ha,.c (Vj x.lo h1)]) 
 .replace ha:x.all=false:=by simpa using ha
  by_cases h1:x.lo.Ok
  .by_cases h2:x.hi.Ok
   .have h3:¬jK x.lo.dy x.hi.dy<=0:=λq=>h (.inr ⟨ha,h1,h2,q⟩)
    have v1:=h1.valid;have v2:=h2.valid;have e1:qo x=ig x.iv:=by rw[<-JJ,show x.iv.raw=x by show RI.mk x.lo.dy.raw x.hi.dy.raw x.all=x;rw[h1.eq ga,h2.eq gb]]
    rw[e1];exact ak call121 func121 (af [ai 5 x.iv.all ha,ag [ie x.iv.lo] (tf _ aF),ag [ie x.iv.hi] (tf _ aF),ag [ie x.iv.lo,ie x.iv.hi] (o0 _ _ aF aF),tB 30 (bB h3)]) 
   .exact ak call121 func121 (af [ai 5 x.all ha,ag [rn x.lo] (Dv _ aF true (by simp[h1])),ag [rn x.hi] (Dv _ aF false (by simp[h2]))]) 
  .exact ak call121 func121 (af [ai 5 x.all ha,ag [rn x.lo] (Dv _ aF false (by simp[h1]))]) 
def Vh(x:RI)(g:x.jH):gZ 121 [qo x] (bP (mz x)):=by
 by_cases h:x.Ok
 .rw [sD.2 h];exact ahd x g h
 .rw [show mz x=false by simpa using λq=>h (sD.1 q)];exact ahc x g h
def aic(x:RI)(g:x.jH):gZ 293 [qo x,(.kn 1 λj_=>[.fn 121 []].getD j_ .any)] (bP (!(mz x))):=
 ak call293 func293 (af [ag [qo x] (Vh _ aF)]) 
def aib(r:List RI)(m:List (List RI))(gr:∀ j,(r.getD j jz).jH)(hr:r.length<=1000000)(hm:0<m.length):gZ 292 [kJ r,(.kn 1 λj_=>[CW m].getD j_ .any),(.kn 1 λj_=>[.fn 121 []].getD j_ .any)] (bP (decide (r.length≠(m.getD 0 []).length)||((List.range (r.length)).any λj=>!(mz (r.getD j jz))))):=by
 by_cases h:r.length=(m.getD 0 []).length
 .exact ak call292 func292 (ae [iX 0 (m.length) aE,ai 11 ((r.length:Int) != ((m.getD 0 []).length:Int)) (Ag h),.c (Cx true _ _ 293 _ (λj=>!(mz (r.getD j jz))) (λj hj=>aic _ (gr j)) aE:gZ 40 [kJ r,.fn 293 [(.kn 1 λj_=>[.fn 121 []].getD j_ .any)]] _)]<|rQ (bP ((List.range (r.length)).any λj=>!(mz (r.getD j jz)))) (bP (decide (r.length≠(m.getD 0 []).length)||((List.range (r.length)).any λj=>!(mz (r.getD j jz))))) (by rw[bB (aql h)];rfl)) 
 .exact ak call292 func292 (ae [iX 0 (m.length) aE,ah 11 ((r.length:Int) != ((m.getD 0 []).length:Int)) (aiv h)]<|rQ (bP true) (bP (decide (r.length≠(m.getD 0 []).length)||((List.range (r.length)).any λj=>!(mz (r.getD j jz))))) (by rw[bA h];rfl)) 
def aid(m:List (List RI))(g:EW m)(hl:m.length<=1000000)(Nv:∀ i,(m.getD i []).length<=1000000):gZ 241 [CW m,.fn 121 []] (bP (xt m)):=by
 by_cases h1:m.length<1
 .exact ak call241 func241 (ae [tT 7 ((m.length:Int)<1) aE]<|rQ (bP false) (bP (xt m)) (by rw[Gi (λq=>by have:=q.n1;omega)])) 
 .by_cases h2:8<m.length
  .exact ak call241 func241 (ae [tF 7 ((m.length:Int)<1) aE,tT 11 (8<(m.length:Int)) aE]<|rQ (bP false) (bP (xt m)) (by rw[Gi (λq=>by have:=q.n8;omega)])) 
  .by_cases h3:(m.getD 0 []).length<1
   .exact ak call241 func241 (ae [tF 7 ((m.length:Int)<1) aE,tF 11 (8<(m.length:Int)) aE,iX 0 (m.length) aE,tT 18 (((m.getD 0 []).length:Int)<1) aE]<|rQ (bP false) (bP (xt m)) (by rw[Gi (λq=>by have:=q.k1;omega)])) 
   .by_cases h4:8<(m.getD 0 []).length
    .exact ak call241 func241 (ae [tF 7 ((m.length:Int)<1) aE,tF 11 (8<(m.length:Int)) aE,iX 0 (m.length) aE,tF 18 (((m.getD 0 []).length:Int)<1) aE,iX 0 (m.length) aE,tT 25 (8<((m.getD 0 []).length:Int)) aE]<|rQ (bP false) (bP (xt m)) (by rw[Gi (λq=>by have:=q.k8;omega)])) 
    .have hb:xt m = !((List.range m.length).any λi=>decide ((m.getD i []).length≠(m.getD 0 []).length)||((List.range ((m.getD i []).length)).any λj=>!(mz ((m.getD i []).getD j jz)))):=by
      by_cases hk:EZ m
      .rw [Og.2 hk];symm;rw[fi,dx];intro i hi;have hi:=bY.1 hi;have xn:decide ((m.getD i []).length≠(m.getD 0 []).length)=false:=bB (aql (hk.row i hi));rw[xn,eU,apM,dx];intro j hj;rw[sD.2 (hk.ok i hi j (bY.1 hj))];decide
      .rw [Gi hk];symm;rw[aqm];apply ca;intro hc;rw[apM,dx]at hc;refine hk ⟨aE,aE,aE,aE,λi hi=>?_,λi hi j hj=>?_⟩
       .have:=hc i (bY.2 hi);simp only[dz,decide_not,fO,not_or,apM,aqm,cS]at this;exact this.1
       .have:=hc i (bY.2 hi);simp only[dz,decide_not,fO,not_or,apM,aqm,cS]at this;have:=dx.1 this.2 j (bY.2 hj);exact sD.1 (by simpa using this)
     exact ak call241 func241 (ae [tF 7 ((m.length:Int)<1) aE,tF 11 (8<(m.length:Int)) aE,iX 0 (m.length) aE,tF 18 (((m.getD 0 []).length:Int)<1) aE,iX 0 (m.length) aE,tF 25 (8<((m.getD 0 []).length:Int)) aE,.c (Py true _ _ 292 _ (λi=>decide ((m.getD i []).length≠(m.getD 0 []).length)||((List.range ((m.getD i []).length)).any λj=>!(mz ((m.getD i []).getD j jz)))) (λi hi=>aib _ _ (λj=>g.at i j) (Nv i) aE) aE:gZ 163 [CW m,.fn 292 [(.kn 1 λj_=>[CW m].getD j_ .any),(.kn 1 λj_=>[.fn 121 []].getD j_ .any)]] _)]<|rQ (bP (!((List.range m.length).any λi=>decide ((m.getD i []).length≠(m.getD 0 []).length)||((List.range ((m.getD i []).length)).any λj=>!(mz ((m.getD i []).getD j jz)))))) (bP (xt m)) (by rw[hb])) 
def aie(m:List (List RI))(g:EW m)(hl:m.length<=1000000)(Nv:∀ i,(m.getD i []).length<=1000000):gZ 164 [CW m] (bP (xt m)):=
 ak call164 func164 (af [.c (aid m g aE Nv)]) 
end Go.Proofs.YtkjkcjhacddojaaGreatDoor
namespace Go.Proofs.YtkjkcjhacddojaaGreatDoor.Fp
def iF(d:Dy)(p:Nat)(up:Bool):Nat->Dy×Int
 | 0=>(jf d p up,jx d p up)
 |k+1=>if(iF d p up k).2≠0 then iF d p up k else(jf (lg (iF d p up k).1 d) p up,jx (lg (iF d p up k).1 d) p up)
def lk(d:Dy)(n p:Nat)(up:Bool):Dy×Int:=if d.jb<0 then(iU (iF (iU d) p (!up) (n-1)).1,(iF (iU d) p (!up) (n-1)).2)else iF d p up (n-1)
def qK(x:Iv)(n:Nat):Iv:=if n%2=0 then jh x else x
def mj(x:Iv)(n p:Nat):Iv:=
 if x.all then iu else if n=0 then mi ⟨false,1,0⟩
 else kX (lk (qK x n).lo n p false).1 (lk (qK x n).lo n p false).2 (lk (qK x n).hi n p true).1 (lk (qK x n).hi n p true).2
def nW(r:Rat):Nat->Rat
 | 0=>1
 |n+1=>nW r n*r
def C0{r:Rat}(h:0<=r):∀ n,0<=nW r n
 | 0=>by show(0:Rat)<=1;decide
 |n+1=>cv (C0 h n) h
def G6{a b:Rat}(h0:0<=a)(h:a<=b):∀ n,nW a n<=nW b n
 | 0=>cM
 |n+1=>by
  have ih:=G6 h0 h n;have m1:=cL ih h0;have m2:=cY h (C0 (b9 h0 h) n);exact b9 m1 m2
def CZ(r:Rat):∀ n,nW (-r) n=if n%2=0 then nW r n else -nW r n
 | 0=>rfl
 |n+1=>by
  have ih:=CZ r n;simp only[nW,ih];have:n%2=0\/n%2=1:= aE ;rcases this with h|h
  .have h':(n+1)%2=1:= aE ;rw[h,h'];simp;grind
  .have h':(n+1)%2=0:= aE ;rw[h,h'];simp;grind
def PA{a b:Rat}{n:Nat}(hn:n%2=1)(h:a<=b):nW a n<=nW b n:=by
 by_cases h0:0<=a
 .exact G6 h0 h n
 .have ea:=CZ (-a) n;rw[fU,hn]at ea;simp only[apN,bJ]at ea;by_cases hb:0<=b
  .have h1:=C0 (show 0 <= -a by grind) n;have h2:=C0 hb n
   grind
  .have eb:=CZ (-b) n;rw[fU,hn]at eb;simp only[apN,bJ]at eb;have:=G6 (show 0 <= -b by grind) (show -b <= -a by grind) n
   grind
def OY{d:Dy}(hd:d.mF)(h0:0<=d.q){p:Nat}(hp:1<=p)(ij:p<=4096):∀ k,(iF d p false k).2=0->0<=(iF d p false k).1.q/\(iF d p false k).1.q<=nW d.q (k+1)
 | 0,he=>by
  have A:=xD hd hp ij;refine⟨(A.2 0 (.inl (xK p)) h0).2,?_⟩;have:=(A.1 he).2;simp only[nW,fo];exact this
 |k+1,he=>by
  by_cases hk:(iF d p false k).2≠0
  .exfalso;simp only[iF,bw hk]at he;exact hk he
  .have qp:(iF d p false k).2=0:= aE ;obtain⟨i1,i2⟩:=OY hd h0 hp ij k qp;have A:=xD (AP (iF d p false k).1 d) hp ij;rw[Es]at A;simp only[iF,bu hk]at he ⊢;refine⟨(A.2 0 (.inl (xK p)) (cv i1 h0)).2,?_⟩;have h1:=(A.1 he).2;have h2:=cL i2 h0;exact b9 h1 h2
def OZ{d:Dy}(hd:d.mF)(h0:0<=d.q){p:Nat}(hp:1<=p)(ij:p<=4096):∀ k,(iF d p true k).2=0->nW d.q (k+1)<=(iF d p true k).1.q
 | 0,he=>by
  have A:=u9 hd hp ij;have:=(A.1 he).2;simp only[nW,fo];exact this
 |k+1,he=>by
  by_cases hk:(iF d p true k).2≠0
  .exfalso;simp only[iF,bw hk]at he;exact hk he
  .have qp:(iF d p true k).2=0:= aE ;have i2:=OZ hd h0 hp ij k qp;have A:=u9 (AP (iF d p true k).1 d) hp ij;rw[Es]at A;simp only[iF,bu hk]at he ⊢;have h1:=(A.1 he).2;have h2:=cL i2 h0;exact b9 h2 h1
def ad6{d:Dy}(hd:d.mF){n p:Nat}(hn:1<=n)(hs:0<=d.q\/n%2=1)(hp:1<=p)(ij:p<=4096)(he:(lk d n p false).2=0):(lk d n p false).1.q<=nW d.q n:=by
 unfold lk at he ⊢;by_cases h:d.jb<0
 .rw [bw h]at he ⊢;have hq:=(tH d).2.1 h;have Ba:=hs.resolve_left aP;have:=OZ (Ek hd) (by rw[pz];grind) hp ij (n-1) he;rw[(aE:n-1+1=n),pz,CZ,Ba]at this;simp only[apN,bJ]at this;show(iU _).q<=_;rw[pz];simp only[eO]
  grind
 .rw [bu h]at he ⊢;have h0:0<=d.q:=by
   apply dP.1;intro iL;exact h ((tH d).2.2 iL)
  have:=(OY hd h0 hp ij (n-1) he).2;rwa[(aE:n-1+1=n)]at this
def ad7{d:Dy}(hd:d.mF){n p:Nat}(hn:1<=n)(hs:0<=d.q\/n%2=1)(hp:1<=p)(ij:p<=4096)(he:(lk d n p true).2=0):nW d.q n<=(lk d n p true).1.q:=by
 unfold lk at he ⊢;by_cases h:d.jb<0
 .rw [bw h]at he ⊢;have hq:=(tH d).2.1 h;have Ba:=hs.resolve_left aP;have:=(OY (Ek hd) (by rw[pz];grind) hp ij (n-1) he).2;rw[(aE:n-1+1=n),pz,CZ,Ba]at this;simp only[apN,bJ]at this;show _<=(iU _).q;rw[pz];simp only[fJ]
  grind
 .rw [bu h]at he ⊢;have h0:0<=d.q:=by
   apply dP.1;intro iL;exact h ((tH d).2.2 iL)
  have:=OZ hd h0 hp ij (n-1) he;rwa[(aE:n-1+1=n)]at this
def ajV{x:Iv}(hx:x.ik){n p:Nat}(hp:1<=p)(ij:p<=4096){r:Rat}(h:x.ki r):(mj x n p).ki (nW r n):=by
 unfold mj;cases xa:x.all
 .simp only[bS,bJ];by_cases hn:n=0
  .rw [bw hn];subst hn;have e:(⟨false,1,0⟩:Dy).q=1:= aQ ;refine .inr ⟨?_,?_⟩
   .show (⟨false,1,0⟩:Dy).q<=1;rw[e];exact cM
   .show 1<=(⟨false,1,0⟩:Dy).q;rw[e];exact cM
  .rw [bu hn];obtain⟨s,hs,wb,hsn⟩:∃ s,(qK x n).ki s/\(n%2=0->0<=(qK x n).lo.q/\0<=s)/\nW r n=nW s n:=by
    unfold qK;by_cases qf:n%2=0
    .rw [bw qf];have hl:0<=(jh x).lo.q:=by
      unfold jh;rw[xa];show 0<=(nK x).q;unfold nK;split
      .rw [r8];exact cM
      .obtain ⟨_,_,m⟩:=CM (lF x.lo) (lF x.hi);rcases m with m|m<;>rw[m]
       .exact (yJ x.lo).1
       .exact (yJ x.hi).1
     by_cases hr:0<=r
     .exact ⟨r,H8 hx h (.inl ⟨rfl,hr⟩),λ_=>⟨hl,hr⟩,rfl⟩
     .refine ⟨-r,H8 hx h (.inr ⟨rfl,aP⟩),λ_=>⟨hl,aP⟩,?_⟩;rw[CZ,bw qf]
    .rw [bu qf];exact⟨r,h,λq=>absurd q qf,rfl⟩
   have hyv:(qK x n).ik:=by unfold qK;split;exact E6 hx;exact hx
   have ya:(qK x n).all=false:=by
    unfold qK;split
    .unfold jh;rw[xa];rfl
    .exact xa
   rw[hsn];generalize qK x n=y at *
   obtain⟨s1,s2⟩:=hs.kp ya;obtain⟨c1,c2⟩:=hyv.AR;unfold kX;split
   .exact .inl rfl
   .rename_i he;have Ba:¬n%2=0->n%2=1:=λq=> aE 
    refine .inr ⟨?_,?_⟩
    .refine b9 (ad6 c1 aE ?_ hp ij aE) ?_
     .by_cases qf:n%2=0
      .exact .inl (wb qf).1
      .exact .inr (Ba qf)
     .by_cases qf:n%2=0
      .exact G6 (wb qf).1 s1 n
      .exact PA (Ba qf) s1
    .refine b9 ?_ (ad7 c2 aE ?_ hp ij aE)
     .by_cases qf:n%2=0
      .exact G6 (wb qf).2 s2 n
      .exact PA (Ba qf) s2
     .by_cases qf:n%2=0
      .exact .inl (b9 (wb qf).2 s2)
      .exact .inr (Ba qf)
 .rw [bw rfl];exact .inl rfl
end Go.Proofs.YtkjkcjhacddojaaGreatDoor.Fp
namespace Go.Proofs.YtkjkcjhacddojaaGreatDoor
open Go.RowKit Fp Pu
structure je where
 kind:Nat
 a:Nat
 b:Nat
 n:Nat
 cn:Int
 cd:Int
structure kF where
 im:Nat
 ib:List je
 il:List Nat
structure kB where
 tape:kF
 iD:Nat
 params:List Iv
def iB:je:=⟨0,0,0,0,0,0⟩
def xy(o:je):List E:=[iP (o.kind:Int),iP (o.a:Int),iP (o.b:Int),iP (o.n:Int),iP o.cn,iP o.cd]
def oD(o:je):E:=.agg (xy o)
def lf(l:List je):E:=.sl true l.length 6 λi j=>(xy (l.getD i iB)).getD j .any
def lp(l:List Nat):E:=.sl true l.length 1 λi _=>iP (l.getD i 0:Int)
def anW(t:kF):List E:=[iP (t.im:Int),lf t.ib,lp t.il]
def kK(t:kF):E:=.agg (anW t)
def anz(s:kB):List E:=[iP (s.tape.im:Int),lf s.tape.ib,lp s.tape.il,iP (s.iD:Int),iA s.params]
def ji(s:kB):E:=.agg (anz s)
def ml(n d:Int):Bool:=decide (1<=d)&&(decide (d<=1073741824)&&(decide (-1073741824<=n)&&(decide (n<=1073741824)&&decide (Nat.gcd n.natAbs d.natAbs=1))))
def CQ{n d:Int}(h:ml n d=true):1<=d/\d<=1073741824 /\ -1073741824<=n/\n<=1073741824:=by
 unfold ml at h;simp only[ch,cS]at h;exact⟨h.1,h.2.1,h.2.2.1,h.2.2.2.1⟩
structure mZ(o:je)(m:Nat):Prop where
 k3:o.kind=1\/3<=o.kind
 yz:o.kind<=13
 a:if o.kind=1 then o.a=0 else o.a<m
 b:if 3<=o.kind/\o.kind<=6 then o.b<m else o.b=0
 n:if o.kind=8 then o.n<=16 else o.n=0
 c:if o.kind=1 then ml o.cn o.cd=true else o.cn=0/\o.cd=0
structure wP(t:kF):Prop where
 im:t.im<=8
 ib:t.ib.length<=200
 il:t.il.length<=200
 op:∀ i,i<t.ib.length->mZ (t.ib.getD i iB) (t.im+i)
 out:∀ i,i<t.il.length->t.il.getD i 0<t.im+t.ib.length
def sI(l:List Iv):Prop:=∀ i,i<l.length->(l.getD i iu).ik/\(l.getD i iu).all=false
structure me(s:kB):Prop where
 tape:wP s.tape
 s1:1<=s.iD
 s4:s.iD<=4
 il:s.tape.il.length=s.iD
 im:s.tape.im=s.iD+s.params.length
 p4:s.params.length<=4
 params:sI s.params
structure mE(n:Nat)(b:List Iv):Prop where
 len:b.length=n
 ok:sI b
def nx(l:List Iv):Bool:=(List.range l.length).any λi=>(l.getD i iu).all
def uq(d:Dy){p:Nat}(hp:1<=p)(ij:p<=4096)(up:Bool):(jf d p up).ik:=mR _ _ _ _ _ _ hp ij
def u5(d:Dy){p:Nat}(hp:1<=p)(ij:p<=4096)(up:Bool):∀ k,(iF d p up k).1.ik
 | 0=>uq _ hp ij _
 |k+1=>by
  unfold iF;split
  .exact u5 d hp ij up k
  .exact uq _ hp ij _
def SJ(d:Dy)(n:Nat){p:Nat}(hp:1<=p)(ij:p<=4096)(up:Bool):(lk d n p up).1.ik:=by
 unfold lk;split
 .exact qA (u5 _ hp ij _ _)
 .exact u5 _ hp ij _ _
def OJ:canon false 1 0=⟨false,1,0⟩:=by
 have h1:(canon false 1 0).neg=false:= aQ ;have h2:(canon false 1 0).m=1:= aQ ;have h3:(canon false 1 0).e=0:= aQ ;generalize canon false 1 0=d at *
 cases d;simp_all
def GA:(⟨false,1,0⟩:Dy).ik:=by
 have h2:oB (canon false 1 0):= aQ ;rw[<-OJ];exact⟨ru _ _ _,h2⟩
def O3{x:Iv}(hx:x.ik)(n:Nat){p:Nat}(hp:1<=p)(ij:p<=4096):(mj x n p).ik:=by
 have hh:=ajV hx (n:=n) hp ij hx.A5;revert hh;unfold mj;split
 .intro _;exact mD
 .split
  .intro _;exact uo GA
  .unfold kX;split
   .intro _;exact mD
   .intro hh;obtain⟨h1,h2⟩:=hh.kp rfl;exact .inr ⟨rfl,SJ _ _ hp ij _,SJ _ _ hp ij _,(qL _ _).2 (b9 h1 h2)⟩
def pT(l:List Iv):Prop:=∀ i,(l.getD i iu).ik
def pT.push{l:List Iv}(h:pT l){y:Iv}(hy:y.ik):pT (l++[y]):=λi=>by
 rw[bD,gn];split
 .have:=h i;rwa[bD]at this
 .rcases i-l.length with _|j
  .exact hy
  .exact mD
def sI.Qb{l:List Iv}(h:sI l):pT l:=λi=>by
 by_cases hi:i<l.length
 .exact (h i hi).1
 .rw [bD,cC aE];exact mD
def pT.append{l r:List Iv}(h:pT l)(k:pT r):pT (l++r):=λi=>by
 rw[bD,gn];split
 .have:=h i;rwa[bD]at this
 .have:=k (i-l.length);rwa[bD]at this
def agh{l:List Iv}(h:nx l=false)(v:pT l):sI l:=λi hi=>⟨v i,by simpa using List.any_eq_false.1 h i (bY.2 hi)⟩
def D8(x y:Iv):Iv:=if x.all||y.all then iu else⟨jd x.lo y.lo,ja x.hi y.hi,false⟩
def uw(x:Iv)(p:Nat):Dy:=jf (jc x.hi (iU x.lo)) p true
def BL(x:Iv)(p:Nat):Int:=jx (jc x.hi (iU x.lo)) p true
def agL{x y:Iv}(hx:x.ik)(hy:y.ik):(D8 x y).ik:=by
 unfold D8;cases xa:x.all
 .cases ya:y.all
  .obtain ⟨x1,x2⟩:x.lo.ik/\x.hi.ik:=hx.kp;obtain⟨y1,y2⟩:y.lo.ik/\y.hi.ik:=hy.kp;refine .inr ⟨rfl,qy x1 y1,pL x2 y2,?_⟩;rw[qL];have hq:=hx.q;obtain⟨a1,a2,_⟩:=CM x.lo y.lo;obtain⟨b1,b2,_⟩:=Er x.hi y.hi
   grind
  .exact mD
 .exact mD
def QW(d:Dy)(n p:Nat)(x:Nat):PS:=⟨41,true,[(14,.e (iP ((x+1:Nat):Int))),(13,.e (iP ((iF d p false x).2))),(12,.box 12 0),(10,.box 10 0),(5,.box 5 0),(1,.e (iP n)),(2,.e (iP p)),(4,.e (.fn 189 []))],[(12,.cells 39 (jq ((iF d p false x).1))),(10,.cells 39 ar),(5,.cells 39 (jq d))]⟩
def QX(d:Dy)(n N p:Nat)(x:Nat):PS:=⟨41,true,[(14,.e (iP ((x+1:Nat):Int))),(13,.e (iP ((iF d p false x).2))),(12,.box 12 0),(10,.box 10 0),(5,.box 5 0),(1,.e (iP n)),(2,.e (iP p)),(4,.e (.fn 189 []))],[(12,.cells 39 (jq ((iF d p false x).1))),(10,.cells 39 ar),(5,.cells 39 (jq d))]⟩
def QY(d:Dy)(n p:Nat)(x:Nat):PS:=⟨41,true,[(14,.e (iP ((x+1:Nat):Int))),(13,.e (iP ((iF d p true x).2))),(12,.box 12 0),(10,.box 10 0),(5,.box 5 0),(1,.e (iP n)),(2,.e (iP p)),(4,.e (.fn 190 []))],[(12,.cells 39 (jq ((iF d p true x).1))),(10,.cells 39 ar),(5,.cells 39 (jq d))]⟩
def QZ(d:Dy)(n N p:Nat)(x:Nat):PS:=⟨41,true,[(14,.e (iP ((x+1:Nat):Int))),(13,.e (iP ((iF d p true x).2))),(12,.box 12 0),(10,.box 10 0),(5,.box 5 0),(1,.e (iP n)),(2,.e (iP p)),(4,.e (.fn 190 []))],[(12,.cells 39 (jq ((iF d p true x).1))),(10,.cells 39 ar),(5,.cells 39 (jq d))]⟩
def aaN(s:Bool)(m:Nat)(e:Int)(hl:(ia m).length<=256)(lv:-1000000<=e)(kQ:e<=1000000):gZ 255 [bP s,ic (ia m),iP e] (ie (canon s m e)):=by
 refine⟨call255,λw B vs hK hB hr=>?_⟩;obtain⟨v1,vs,rfl,h1,hr⟩:=hr.mI;obtain⟨v2,vs,rfl,h2,hr⟩:=hr.mI;obtain⟨v3,vs,rfl,h3,hr⟩:=hr.mI;obtain rfl:=hr.qm;obtain rfl:=iN.kW h1;obtain rfl:=iN.kW h3;obtain⟨A,c,rfl,s1⟩:=vd (kR m) h2;exact(Rp s m e A c w s1 hl lv kQ hK).mono λe w' h=>rd B w e w' hB h
def aaO(d:Dy)(hl:(ia d.m).length<=100000000)(lv:-10000000<=d.e)(kQ:d.e<=10000000):gZ 254 [ie d] (.iC [ie (vF d),iP (vG d)]):=
 yI call254 (λA c w h _=>acE d A c w h aE aE aE) Pk
def aaV(k:Int)(h1:-32768<=k)(h2:k<=32768):gZ 253 [iP k] (bP true):=
 ak call253 func253 (af [tT 4 ((-32768)<=k) aE,tT 7 (k<=32768) aE]) 
def Q0(d:Dy)(k:Int)(hv:d.ik)(h1:-32768<=k)(h2:k<=32768):gZ 179 [ie d,iP k] (.iC [ie (vF (canon d.neg d.m (d.e+k))),iP (vG (canon d.neg d.m (d.e+k)))]):=by
 have hl:=hv.ia;have he:=hv.exp;have kP:=Ro (kR d.m) hl d.neg (d.e+k);obtain⟨mK,pW⟩:=Rm (kR d.m) hl d.neg (d.e+k) aE aE;rw[kf]at kP mK pW;exact ak call179 func179 (af [ag [ie d] (tf _ aF),.c (aaV k aE aE),iz (d.e+k) aE,ag [bP d.neg,ic (ia d.m),iP (d.e+k)] (aaN _ _ _ aE aE aE),ag [ie (canon d.neg d.m (d.e+k))] (aaO _ aE aE aE)]) 
def Lr(n:Nat)(h:n<4294967296):gZ 180 [iP n] (ie (jo (n:Int))):=by
 have ok2:iK [n%4294967296,n/4294967296%4294967296]:=iK.cons (bM _ aG) (iK.cons (bM _ aG) iK.nil);exact ak call180 func180 (ae [.o 5 (.int (pZ _ aE):aj (.v (.int .u64 (IntKind.u64.wrap (n:Int)))) (.v (.int .u64 (n:Int)))),tF 7 ((n:Int)<0) aE,tF 11 ((n:Int)<0) aE,.o 13 (.int (vi _):aj (.v (.int .u32 (IntKind.u32.wrap (n:Int)))) (.v (.int .u32 ((n%4294967296:Nat):Int)))),.a (aE:0<=(32:Int)/\(32:Int)<=((64:Nat):Int)),.o 15 (.int (C5 _):aj (.v (.int .u64 ((n:Int)/2^32))) (.v (.int .u64 ((n/4294967296:Nat):Int)))),.o 16 (.int (vi _):aj (.v (.int .u32 (IntKind.u32.wrap ((n/4294967296:Nat):Int)))) (.v (.int .u32 (((n/4294967296)%4294967296:Nat):Int)))),.o 17 (.e (aoa _ _):aj (.sl false 2 1 λi_ j_=>[.v (.int .u32 ((n%4294967296:Nat):Int)),.v (.int .u32 (((n/4294967296)%4294967296:Nat):Int))].getD (i_*1+j_) (.v (.bool false))) (ic [n%4294967296,(n/4294967296)%4294967296])),ag [bP false,ic [n%4294967296,(n/4294967296)%4294967296],iP 0] (adH _ _ _ ok2 aK aG aG)]<|rQ (ie (canon false (val [n%4294967296,(n/4294967296)%4294967296]) 0)) (ie (jo (n:Int))) (by rw[aoJ,(aE:n%4294967296+4294967296*(n/4294967296%4294967296)=n),Bj])) 
def ag2:jo 1=⟨false,1,0⟩:=by rw[show(1:Int)=((1:Nat):Int)from rfl,Bj];exact OJ
def Lq:gZ 180 [iP 1] (ie ⟨false,1,0⟩):=by
 have:=Lr 1 aG;rwa[show((1:Nat):Int)=1 from rfl,ag2]at this
def Ih(d:Dy)(p:Nat)(hd:d.ik)(iw:8<=p)(ij:p<=512):gZ 383 [ie d,iP p] (.iC [ie (jf d p false),iP (jx d p false)]):=
 ak call383 func383 (af [.c (Kk d p false aF aE aE)]) 
def Ii(d:Dy)(p:Nat)(hd:d.ik)(iw:8<=p)(ij:p<=512):gZ 382 [ie d,iP p] (.iC [ie (jf d p true),iP (jx d p true)]):=
 ak call382 func382 (af [.c (Kk d p true aF aE aE)]) 
def GO(d:Dy)(p:Nat)(up:Bool)(N:Nat)(h:(iF d p up N).2≠0):∀ k,iF d p up (N+k)=iF d p up N
 | 0=>rfl
 |k+1=>by
  have ih:=GO d p up N h k;show(if(iF d p up (N+k)).2≠0 then iF d p up (N+k)else _)=_;rw[ih,bw h]
def sX{d:Dy}{p:Nat}{up:Bool}{k:Nat}(h:(iF d p up k).2=0):iF d p up (k+1)=(jf (mV (iF d p up k).1 d) p up,jx (mV (iF d p up k).1 d) p up):=by
 show(if(iF d p up k).2≠0 then _ else _)=_;rw[bu (aql h)];rfl
def aa9(d:Dy)(n p:Nat)(hd:d.ik)(hn:1<=n)(kg:n<=16)(iw:8<=p)(ij:p<=512)(iQ:∀ x,x<n-1->(iF d p false x).2=0):gZ 381 [ie d,iP n,iP p,.fn 383 [],.fn 189 []] (.iC [ie (iF d p false (n-1)).1,iP (iF d p false (n-1)).2]):=
 ak call381 func381 (af [.c (Ih d p aF aE aE),.s (Sp.jv (QW d n p) 0 (n-1) aE (λx hx jU=>by
    have mT:=iQ x aE;have hv:=u5 d (aE:1<=p) (aE:p<=4096) false x;exact iG (ae [tT 24 (((x+1:Nat):Int)<n) aE,ah 27 (((iF d p false x).2)==0) (by rw[mT];rfl),.c (Ki ((iF d p false x).1) d p aF aF aE aE),
     iz (((x+1:Nat):Int)+1) aE]<|.e (af [.o 13 (aq (jx (mV ((iF d p false x).1) d) p false) ((iF d p false (x+1)).2) (by rw[sX mT])),.b 12 (.iM (by rw[sX mT]):Bx.le (.cells 39 (jq (jf (mV ((iF d p false x).1) d) p false))) (.cells 39 (jq ((iF d p false (x+1)).1))))])) aI)
  (λhx=>by
    exact iG (af [tF 24 ((((n-1)+1:Nat):Int)<n) aE]) aI) aM:ju 3 f381 (QW d n p 0) (.exit 0) ⟨41,true,[(13,.e (iP ((iF d p false (n-1)).2))),(12,.box 12 0),(10,.box 10 0)],[(12,.cells 39 (jq ((iF d p false (n-1)).1))),(10,.cells 39 ar)]⟩) (af [.o 14 (aq 1 ((0+1:Nat):Int) rfl),.o 13 (aq (jx d p false) ((iF d p false 0).2) rfl),.b 12 (.iM rfl:Bx.le (.cells 39 (jq (jf d p false))) (.cells 39 (jq ((iF d p false 0).1))))])]) 
def aba(d:Dy)(n N p:Nat)(hd:d.ik)(hn:1<=n)(kg:n<=16)(iw:8<=p)(ij:p<=512)(mS:N<n-1)(iQ:∀ x,x<N->(iF d p false x).2=0)(hN:(iF d p false N).2≠0):gZ 381 [ie d,iP n,iP p,.fn 383 [],.fn 189 []] (.iC [ie (iF d p false N).1,iP (iF d p false N).2]):=
 ak call381 func381 (af [.c (Ih d p aF aE aE),.s (Sp.jv (QX d n N p) 0 N aE (λx hx jU=>by
    have mT:=iQ x aE;have hv:=u5 d (aE:1<=p) (aE:p<=4096) false x;exact iG (ae [tT 24 (((x+1:Nat):Int)<n) aE,ah 27 (((iF d p false x).2)==0) (by rw[mT];rfl),.c (Ki ((iF d p false x).1) d p aF aF aE aE),
     iz (((x+1:Nat):Int)+1) aE]<|.e (af [.o 13 (aq (jx (mV ((iF d p false x).1) d) p false) ((iF d p false (x+1)).2) (by rw[sX mT])),.b 12 (.iM (by rw[sX mT]):Bx.le (.cells 39 (jq (jf (mV ((iF d p false x).1) d) p false))) (.cells 39 (jq ((iF d p false (x+1)).1))))])) aI)
  (λhx=>by
    exact iG (af [tT 24 (((N+1:Nat):Int)<n) aE,ai 27 (((iF d p false N).2)==0) (by simpa using hN)]) aI) aM:ju 3 f381 (QX d n N p 0) (.exit 0) ⟨41,true,[(13,.e (iP ((iF d p false N).2))),(12,.box 12 0),(10,.box 10 0)],[(12,.cells 39 (jq ((iF d p false N).1))),(10,.cells 39 ar)]⟩) (af [.o 14 (aq 1 ((0+1:Nat):Int) rfl),.o 13 (aq (jx d p false) ((iF d p false 0).2) rfl),.b 12 (.iM rfl:Bx.le (.cells 39 (jq (jf d p false))) (.cells 39 (jq ((iF d p false 0).1))))])]) 
def abb(d:Dy)(n p:Nat)(hd:d.ik)(hn:1<=n)(kg:n<=16)(iw:8<=p)(ij:p<=512):gZ 381 [ie d,iP n,iP p,.fn 383 [],.fn 189 []] (.iC [ie (iF d p false (n-1)).1,iP (iF d p false (n-1)).2]):=by
 by_cases h:∃ x,x<n-1/\decide ((iF d p false x).2≠0)=true
 .obtain ⟨N,h1,h2,h3⟩:=rj h;have hN:(iF d p false N).2≠0:=cR h2;have:=aba d n N p hd hn kg iw ij h1 (λx hx=>by simpa using h3 x hx) hN;have e:=GO d p false N hN (n-1-N);rw[(aE:N+(n-1-N)=n-1)]at e;rw[e];exact this
 .exact aa9 d n p hd hn kg iw ij λx hx=>ca λq=>h ⟨x,hx,bA q⟩
def abc(d:Dy)(n p:Nat)(hd:d.ik)(hn:1<=n)(kg:n<=16)(iw:8<=p)(ij:p<=512)(iQ:∀ x,x<n-1->(iF d p true x).2=0):gZ 381 [ie d,iP n,iP p,.fn 382 [],.fn 190 []] (.iC [ie (iF d p true (n-1)).1,iP (iF d p true (n-1)).2]):=
 ak call381 func381 (af [.c (Ii d p aF aE aE),.s (Sp.jv (QY d n p) 0 (n-1) aE (λx hx jU=>by
    have mT:=iQ x aE;have hv:=u5 d (aE:1<=p) (aE:p<=4096) true x;exact iG (ae [tT 24 (((x+1:Nat):Int)<n) aE,ah 27 (((iF d p true x).2)==0) (by rw[mT];rfl),.c (Kj ((iF d p true x).1) d p aF aF aE aE),
     iz (((x+1:Nat):Int)+1) aE]<|.e (af [.o 13 (aq (jx (mV ((iF d p true x).1) d) p true) ((iF d p true (x+1)).2) (by rw[sX mT])),.b 12 (.iM (by rw[sX mT]):Bx.le (.cells 39 (jq (jf (mV ((iF d p true x).1) d) p true))) (.cells 39 (jq ((iF d p true (x+1)).1))))])) aI)
  (λhx=>by
    exact iG (af [tF 24 ((((n-1)+1:Nat):Int)<n) aE]) aI) aM:ju 3 f381 (QY d n p 0) (.exit 0) ⟨41,true,[(13,.e (iP ((iF d p true (n-1)).2))),(12,.box 12 0),(10,.box 10 0)],[(12,.cells 39 (jq ((iF d p true (n-1)).1))),(10,.cells 39 ar)]⟩) (af [.o 14 (aq 1 ((0+1:Nat):Int) rfl),.o 13 (aq (jx d p true) ((iF d p true 0).2) rfl),.b 12 (.iM rfl:Bx.le (.cells 39 (jq (jf d p true))) (.cells 39 (jq ((iF d p true 0).1))))])]) 
def abd(d:Dy)(n N p:Nat)(hd:d.ik)(hn:1<=n)(kg:n<=16)(iw:8<=p)(ij:p<=512)(mS:N<n-1)(iQ:∀ x,x<N->(iF d p true x).2=0)(hN:(iF d p true N).2≠0):gZ 381 [ie d,iP n,iP p,.fn 382 [],.fn 190 []] (.iC [ie (iF d p true N).1,iP (iF d p true N).2]):=
 ak call381 func381 (af [.c (Ii d p aF aE aE),.s (Sp.jv (QZ d n N p) 0 N aE (λx hx jU=>by
    have mT:=iQ x aE;have hv:=u5 d (aE:1<=p) (aE:p<=4096) true x;exact iG (ae [tT 24 (((x+1:Nat):Int)<n) aE,ah 27 (((iF d p true x).2)==0) (by rw[mT];rfl),.c (Kj ((iF d p true x).1) d p aF aF aE aE),
     iz (((x+1:Nat):Int)+1) aE]<|.e (af [.o 13 (aq (jx (mV ((iF d p true x).1) d) p true) ((iF d p true (x+1)).2) (by rw[sX mT])),.b 12 (.iM (by rw[sX mT]):Bx.le (.cells 39 (jq (jf (mV ((iF d p true x).1) d) p true))) (.cells 39 (jq ((iF d p true (x+1)).1))))])) aI)
  (λhx=>by
    exact iG (af [tT 24 (((N+1:Nat):Int)<n) aE,ai 27 (((iF d p true N).2)==0) (by simpa using hN)]) aI) aM:ju 3 f381 (QZ d n N p 0) (.exit 0) ⟨41,true,[(13,.e (iP ((iF d p true N).2))),(12,.box 12 0),(10,.box 10 0)],[(12,.cells 39 (jq ((iF d p true N).1))),(10,.cells 39 ar)]⟩) (af [.o 14 (aq 1 ((0+1:Nat):Int) rfl),.o 13 (aq (jx d p true) ((iF d p true 0).2) rfl),.b 12 (.iM rfl:Bx.le (.cells 39 (jq (jf d p true))) (.cells 39 (jq ((iF d p true 0).1))))])]) 
def abe(d:Dy)(n p:Nat)(hd:d.ik)(hn:1<=n)(kg:n<=16)(iw:8<=p)(ij:p<=512):gZ 381 [ie d,iP n,iP p,.fn 382 [],.fn 190 []] (.iC [ie (iF d p true (n-1)).1,iP (iF d p true (n-1)).2]):=by
 by_cases h:∃ x,x<n-1/\decide ((iF d p true x).2≠0)=true
 .obtain ⟨N,h1,h2,h3⟩:=rj h;have hN:(iF d p true N).2≠0:=cR h2;have:=abd d n N p hd hn kg iw ij h1 (λx hx=>by simpa using h3 x hx) hN;have e:=GO d p true N hN (n-1-N);rw[(aE:N+(n-1-N)=n-1)]at e;rw[e];exact this
 .exact abc d n p hd hn kg iw ij λx hx=>ca λq=>h ⟨x,hx,bA q⟩
def QP(d:Dy)(n p:Nat)(hd:d.ik)(h0:¬d.jb<0)(hn:1<=n)(kg:n<=16)(iw:8<=p)(ij:p<=512):gZ 363 [ie d,iP n,iP p,bP false] (.iC [ie (lk d n p false).1,iP (lk d n p false).2]):=
 ak call363 func363 (ae [ag [ie d] (pv _ aF),tB 14 (bB h0),.c (abb d n p aF aE aE aE aE)]<|rQ (.iC [ie ((iF d p false (n-1)).1),iP ((iF d p false (n-1)).2)]) (.iC [ie (lk d n p false).1,iP (lk d n p false).2]) (by unfold lk;rw[bu h0])) 
def QQ(d:Dy)(n p:Nat)(hd:d.ik)(h0:¬d.jb<0)(hn:1<=n)(kg:n<=16)(iw:8<=p)(ij:p<=512):gZ 363 [ie d,iP n,iP p,bP true] (.iC [ie (lk d n p true).1,iP (lk d n p true).2]):=
 ak call363 func363 (ae [ag [ie d] (pv _ aF),tB 14 (bB h0),.c (abe d n p aF aE aE aE aE)]<|rQ (.iC [ie ((iF d p true (n-1)).1),iP ((iF d p true (n-1)).2)]) (.iC [ie (lk d n p true).1,iP (lk d n p true).2]) (by unfold lk;rw[bu h0])) 
def YR{d:Dy}(h:d.jb<0):¬(iU d).jb<0:=by
 rw[(tH _).2,pz];have:=(tH d).2.1 h
 grind
def aaS(d:Dy)(n p:Nat)(hd:d.ik)(h0:¬d.jb<0)(hn:1<=n)(kg:n<=16)(iw:8<=p)(ij:p<=512):gZ 363 [ie d,iP (n:Int),iP (p:Int),bP false] (.iC [ie (iF d p false (n-1)).1,iP (iF d p false (n-1)).2]):=by
 have:=QP d n p hd h0 hn kg iw ij;unfold lk at this;rwa[bu h0]at this
def aaT(d:Dy)(n p:Nat)(hd:d.ik)(h0:¬d.jb<0)(hn:1<=n)(kg:n<=16)(iw:8<=p)(ij:p<=512):gZ 363 [ie d,iP (n:Int),iP (p:Int),bP true] (.iC [ie (iF d p true (n-1)).1,iP (iF d p true (n-1)).2]):=by
 have:=QQ d n p hd h0 hn kg iw ij;unfold lk at this;rwa[bu h0]at this
def aaQ(d:Dy)(n p:Nat)(hd:d.ik)(h0:d.jb<0)(hn:1<=n)(kg:n<=16)(iw:8<=p)(ij:p<=512):gZ 363 [ie d,iP n,iP p,bP false] (.iC [ie (lk d n p false).1,iP (lk d n p false).2]):=by
 have FO:=qA hd;have h1:=YR h0;have hv:=u5 (iU d) (aE:1<=p) (aE:p<=4096) true (n-1);exact ak call363 func363 (ae [ag [ie d] (pv _ aF),tB 14 (bA h0),ag [ie d] (xU _ aF),ag [ie (iU d),iP n,iP p,bP true] (aaT _ _ _ FO h1 hn kg iw ij),ag [ie ((iF (iU d) p true (n-1)).1)] (xU _ aF)]<|rQ (.iC [ie (iU ((iF (iU d) p true (n-1)).1)),iP ((iF (iU d) p true (n-1)).2)]) (.iC [ie (lk d n p false).1,iP (lk d n p false).2]) (by unfold lk;rw[bw h0];rfl)) 
def QR(d:Dy)(n p:Nat)(hd:d.ik)(hn:1<=n)(kg:n<=16)(iw:8<=p)(ij:p<=512):gZ 363 [ie d,iP (n:Int),iP (p:Int),bP false] (.iC [ie (lk d n p false).1,iP (lk d n p false).2]):=by
 by_cases h0:d.jb<0
 .exact aaQ d n p hd h0 hn kg iw ij
 .exact QP d n p hd h0 hn kg iw ij
def aaR(d:Dy)(n p:Nat)(hd:d.ik)(h0:d.jb<0)(hn:1<=n)(kg:n<=16)(iw:8<=p)(ij:p<=512):gZ 363 [ie d,iP n,iP p,bP true] (.iC [ie (lk d n p true).1,iP (lk d n p true).2]):=by
 have FO:=qA hd;have h1:=YR h0;have hv:=u5 (iU d) (aE:1<=p) (aE:p<=4096) false (n-1);exact ak call363 func363 (ae [ag [ie d] (pv _ aF),tB 14 (bA h0),ag [ie d] (xU _ aF),ag [ie (iU d),iP n,iP p,bP false] (aaS _ _ _ FO h1 hn kg iw ij),ag [ie ((iF (iU d) p false (n-1)).1)] (xU _ aF)]<|rQ (.iC [ie (iU ((iF (iU d) p false (n-1)).1)),iP ((iF (iU d) p false (n-1)).2)]) (.iC [ie (lk d n p true).1,iP (lk d n p true).2]) (by unfold lk;rw[bw h0];rfl)) 
def QS(d:Dy)(n p:Nat)(hd:d.ik)(hn:1<=n)(kg:n<=16)(iw:8<=p)(ij:p<=512):gZ 363 [ie d,iP (n:Int),iP (p:Int),bP true] (.iC [ie (lk d n p true).1,iP (lk d n p true).2]):=by
 by_cases h0:d.jb<0
 .exact aaR d n p hd h0 hn kg iw ij
 .exact QQ d n p hd h0 hn kg iw ij
def abf(x:Iv)(n p:Nat)(hx:x.ik)(ha:x.all=true)(hn:n<=16)(iw:8<=p)(ij:p<=512):gZ 326 [ig x,iP n,iP p] (ig (mj x n p)):=
 ak call326 func326 (ae [.o 12 (.e (mP _):aj (.sl true 1 7 λi_ j_=>(iZ x).getD (i_*7+j_) (.v (.bool false))) (iA [x])),ag [iA [x]] (qj _ aF),ai 13 (!x.all) (by rw[ha];rfl),.c nS]<|rQ (ig iu) (ig (mj x n p)) (by unfold mj;rw[bw ha])) 
def abi(x:Iv)(n p:Nat)(hx:x.ik)(ha:x.all=false)(h0:n=0)(iw:8<=p)(ij:p<=512):gZ 326 [ig x,iP n,iP p] (ig (mj x n p)):=by
 have v1:=GA;exact ak call326 func326 (ae [.o 12 (.e (mP _):aj (.sl true 1 7 λi_ j_=>(iZ x).getD (i_*7+j_) (.v (.bool false))) (iA [x])),ag [iA [x]] (qj _ aF),ah 13 (!x.all) (by rw[ha];rfl),ag [iP p] (wi _),ah 17 (kC (p:Int)) (pe.2 ⟨aE,aE⟩),tF 22 ((n:Int)<0) aE,tF 26 (16<(n:Int)) aE,ah 30 ((n:Int)==0) (rF h0),ag [iP 1] Lq,.c (Cw (Dy.mk false 1 0) aF)]<|rQ (ig (mi (Dy.mk false 1 0))) (ig (mj x n p)) (by unfold mj;rw[bu (by rw[ha];decide),bw h0])) 
def abg(x:Iv)(n p:Nat)(hx:x.ik)(ha:x.all=false)(h0:n≠0)(hn:n<=16)(he:n%2=0)(iw:8<=p)(ij:p<=512):gZ 326 [ig x,iP n,iP p] (ig (mj x n p)):=by
 have va:=E6 hx;obtain⟨w1,w2⟩:=va.kp;exact ak call326 func326 (ae [.o 12 (.e (mP _):aj (.sl true 1 7 λi_ j_=>(iZ x).getD (i_*7+j_) (.v (.bool false))) (iA [x])),ag [iA [x]] (qj _ aF),ah 13 (!x.all) (by rw[ha];rfl),ag [iP p] (wi _),ah 17 (kC (p:Int)) (pe.2 ⟨aE,aE⟩),tF 22 ((n:Int)<0) aE,tF 26 (16<(n:Int)) aE,ai 30 ((n:Int)==0) (nC h0),.a (aE:0<(2:Int)),.o 34 (aq (Int.tmod (n:Int) 2) ((n%2:Nat):Int) (by rw[apO aE];omega)),ah 35 (((n%2:Nat):Int)==0) (rF he),.c (NO x aF),ag [ie ((jh x).lo),iP n,iP p,bP false] (QR _ _ _ aF aE aE aE aE),ag [ie ((jh x).hi),iP n,iP p,bP true] (QS _ _ _ aF aE aE aE aE),.c (Cv ((lk ((jh x).lo) n p false).1) ((lk ((jh x).hi) n p true).1) ((lk ((jh x).lo) n p false).2) ((lk ((jh x).hi) n p true).2))]<|rQ (ig (kX ((lk ((jh x).lo) n p false).1) ((lk ((jh x).lo) n p false).2) ((lk ((jh x).hi) n p true).1) ((lk ((jh x).hi) n p true).2))) (ig (mj x n p)) (by unfold mj qK;rw[bu (by rw[ha];decide),bu h0,bw he])) 
def abh(x:Iv)(n p:Nat)(hx:x.ik)(ha:x.all=false)(h0:n≠0)(hn:n<=16)(he:¬n%2=0)(iw:8<=p)(ij:p<=512):gZ 326 [ig x,iP n,iP p] (ig (mj x n p)):=by
 have va:=hx;obtain⟨w1,w2⟩:=va.kp;exact ak call326 func326 (ae [.o 12 (.e (mP _):aj (.sl true 1 7 λi_ j_=>(iZ x).getD (i_*7+j_) (.v (.bool false))) (iA [x])),ag [iA [x]] (qj _ aF),ah 13 (!x.all) (by rw[ha];rfl),ag [iP p] (wi _),ah 17 (kC (p:Int)) (pe.2 ⟨aE,aE⟩),tF 22 ((n:Int)<0) aE,tF 26 (16<(n:Int)) aE,ai 30 ((n:Int)==0) (nC h0),.a (aE:0<(2:Int)),.o 34 (aq (Int.tmod (n:Int) 2) ((n%2:Nat):Int) (by rw[apO aE];omega)),ai 35 (((n%2:Nat):Int)==0) (nC he),ag [ie x.lo,iP n,iP p,bP false] (QR _ _ _ aF aE aE aE aE),ag [ie x.hi,iP n,iP p,bP true] (QS _ _ _ aF aE aE aE aE),.c (Cv ((lk x.lo n p false).1) ((lk x.hi n p true).1) ((lk x.lo n p false).2) ((lk x.hi n p true).2))]<|rQ (ig (kX ((lk x.lo n p false).1) ((lk x.lo n p false).2) ((lk x.hi n p true).1) ((lk x.hi n p true).2))) (ig (mj x n p)) (by unfold mj qK;rw[bu (by rw[ha];decide),bu h0,bu he])) 
def QV(x:Iv)(n p:Nat)(hx:x.ik)(hn:n<=16)(iw:8<=p)(ij:p<=512):gZ 326 [ig x,iP (n:Int),iP (p:Int)] (ig (mj x n p)):=by
 cases ha:x.all with
 |true=>exact abf x n p hx ha hn iw ij
 |false=>
  by_cases h0:n=0
  .exact abi x n p hx ha h0 iw ij
  .by_cases he:n%2=0
   .exact abg x n p hx ha h0 hn he iw ij
   .exact abh x n p hx ha h0 hn he iw ij
def aaY(x y:Iv)(hx:x.ik)(hy:y.ik)(xa:x.all=false)(ya:y.all=false):gZ 258 [ig x,ig y] (ig (D8 x y)):=by
 obtain⟨v1,v2⟩:=hx.kp;obtain⟨v3,v4⟩:=hy.kp;exact ak call258 func258 (ae [.o 7 (.e (yy _ _):aj (.sl true 2 7 λi_ j_=>(iZ x++iZ y).getD (i_*7+j_) (.v (.bool false))) (iA [x,y])),ag [iA [x,y]] (zV _ _ aF aF),ah 8 (!(x.all||y.all)) (by rw[xa,ya];rfl),.c (JG x.lo y.lo aF aF),.c (JH x.hi y.hi aF aF)]<|rQ (ig (Iv.mk (jd x.lo y.lo) (ja x.hi y.hi) false)) (ig (D8 x y)) (by unfold D8;rw[xa,ya];rfl)) 
def Q3(z:Int):(z==0)=decide (z=0):=by by_cases h:z=0<;>simp[h]
def Ls(x:Iv)(p:Nat)(hx:x.ik)(xa:x.all=false)(iw:8<=p)(ij:p<=512):gZ 260 [ig x,iP p] (.iC [ie (uw x p),bP (decide (BL x p=0))]):=by
 obtain⟨v1,v2⟩:=hx.kp;have v3:=qA v1;exact ak call260 func260 (ae [.o 9 (.e (mP _):aj (.sl true 1 7 λi_ j_=>(iZ x).getD (i_*7+j_) (.v (.bool false))) (iA [x])),ag [iA [x]] (qj _ aF),ah 10 (!x.all) (by rw[xa];rfl),ag [iP p] (wi _),ah 14 (kC (p:Int)) (pe.2 ⟨aE,aE⟩),ag [ie x.lo] (xU _ aF),.c (Ey x.hi (iU x.lo) p aF aF aE aE)]<|rQ (.iC [ie (jf (jc x.hi (iU x.lo)) p true),bP ((jx (jc x.hi (iU x.lo)) p true)==0)]) (.iC [ie (uw x p),bP (decide (BL x p=0))]) (by rw[Q3];rfl)) 
def adL(k:Nat)(w:World)(h0:0<k)(hn:k<4294967296)(rU:Tb w):
 Calls prog 180 #[.int .i64 (-(k:Int))] w (uz w (canon true k 0)):=by
 have hd:(k:Int)/4294967296=0:= aE ;have iL:(-(k:Int))<0:= aE ;have B9:decide ((-(k:Int))<0)=true:=bA iL;have hu:IntKind.u64.wrap (-(k:Int))=18446744073709551616-k:=by rw[IntKind.wrap_u64];omega
 have hs:IntKind.u64.wrap (-(18446744073709551616-(k:Int)))=k:=by rw[IntKind.wrap_u64];omega
 have I1:IntKind.u32.wrap (k:Int)=k:=by rw[IntKind.wrap_u32];omega
 have ht:(ix [k,0]).length<=256:=by have:=pq [k,0];unfold mC at this;simp at this;omega
 have HC:=aqG (λ(A:Option Addr) c w (h:Sl w A c [k,0]) (hT:Tb w)=>IH true A c [k,0] 0 w h aK ht aG aG hT);have hv:val [k,0]=k:= aK ;rw[hv]at HC;clear hv ht;generalize canon true k 0=d at *
 generalize hN:(-(k:Int))=N at *
 go_enter func180,ntmps180;go_wp2_with fail;refine(HC.out _ _ _ (Sl.KO _ _ aK _ _ k 0 rfl rfl hn aG) (rU.below (by first|exact(iJ.alloc _ _).trans (iJ.alloc _ _)|exact iJ.alloc _ _))).mono ?_;rintro r w1 ⟨A1,c1,rfl,tA,kP⟩;have pE:iJ (w.alloc (.cells #[.bool false,.slice none 0 0,.int .i64 0] 39)) w1:=(iJ.alloc _ _).trans kP;have bx:=(jL.new w false none 0 0 0).ext pE;have b0:=bx.c0;have b1:=bx.c1;have b2:=bx.c2;have f0:=bx.fr 0;have f1:=bx.fr 1;have f2:=bx.fr 2;go_wp2;exact tg rfl rfl rfl (bx.set _ _ _ _ _) rfl (bx.tK tA _ _ _ _ _) (jL.sY ((iJ.alloc _ _).trans pE) (bC _) _ _ _ _ _)
def q9(n:Int)(h:n.natAbs<4294967296):gZ 180 [iP n] (ie (jo n)):=by
 by_cases h0:0<=n
 .obtain ⟨k,rfl⟩:=ek h0;exact Lr k aE 
 .obtain ⟨k,rfl⟩:∃ k:Nat,n = -(k:Int):=⟨n.natAbs,aE⟩
  rw[U7 k aE];refine⟨call180,λw B vs hK hB hr=>?_⟩;obtain⟨v1,vs,rfl,h1,hr⟩:=hr.mI;obtain rfl:=hr.qm;obtain rfl:=iN.kW h1;exact(adL k w aE aE hK).mono λe w' h=>rd B w e w' hB h
def amn(d:Dy)(k:Int):vF (canon d.neg d.m (d.e+k))=tJ d k:=by unfold vF tJ;split<;>simp_all
def amo(d:Dy)(k:Int):vG (canon d.neg d.m (d.e+k))=C4 d k:=by unfold vG C4;split<;>simp_all
def iW(f:Nat->Rat):Nat->Rat
 | 0=>0
 |n+1=>iW f n+f n
def qD{f g:Nat->Rat}:∀ n,(∀ i,i<n->f i=g i)->iW f n=iW g n
 | 0,_=>rfl
 |n+1,h=>by rw[iW,iW,qD n (λi hi=>h i aE),h n aE]
def C7{f g:Nat->Rat}:∀ n,(∀ i,i<n->f i<=g i)->iW f n<=iW g n
 | 0,_=>cM
 |n+1,h=>by
  have h1:=C7 n (λi hi=>h i aE);have h2:=h n aE;rw[iW,iW];grind
def C8{f:Nat->Rat}(n:Nat)(h:∀ i,i<n->0<=f i):0<=iW f n:=by
 induction n with
 |zero=>exact cM
 |succ n ih=>
  have h1:=ih (λi hi=>h i aE);have h2:=h n aE;rw[iW];grind
def BI(f:Nat->Rat)(c:Rat):∀ n,iW (λi=>c*f i) n=c*iW f n
 | 0=>by simp[iW]
 |n+1=>by rw[iW,iW,BI f c n];grind
def EO(f:Nat->Rat)(c:Rat):∀ n,iW (λi=>f i*c) n=iW f n*c
 | 0=>by simp[iW]
 |n+1=>by rw[iW,iW,EO f c n];grind
def Ha(f g:Nat->Rat):∀ n,iW (λi=>f i+g i) n=iW f n+iW g n
 | 0=>by simp only[iW];grind
 |n+1=>by rw[iW,iW,iW,Ha f g n];grind
def Hb(f:Nat->Nat->Rat)(m:Nat):∀ n,iW (λi=>iW (λj=>f i j) m) n=iW (λj=>iW (λi=>f i j) n) m
 | 0=>by
  have:∀ m,iW (λ_=>(0:Rat)) m=0:=by
   intro m
   induction m with
   |zero=>rfl
   |succ m ih=>rw[iW,ih];grind
  exact(this m).symm
 |n+1=>by
  rw[iW,Hb f m n,<-Ha];rfl
def Zk(f:Nat->Rat):∀ n,iW f (n+1)=f 0+iW (λi=>f (i+1)) n
 | 0=>by simp only[iW];grind
 |n+1=>by rw[iW,Zk f n,iW];grind
def jm(x:Rat):Rat:=if 0<=x then x else -x
def np(x:Rat):0<=jm x/\x<=jm x /\ -x<=jm x/\(jm x=x/\0<=x\/jm x = -x/\x<=0):=by unfold jm;split<;>grind
def yZ{x b:Rat}(h1:x<=b)(h2:-x<=b):jm x<=b:=by unfold jm;split<;>grind
def Qw(x y:Rat):jm (x+y)<=jm x+jm y:=by
 obtain⟨a1,a2,a3,_⟩:=np x;obtain⟨b1,b2,b3,_⟩:=np y;exact yZ aP aP 
def y3(x y:Rat):jm (x*y)=jm x*jm y:=by
 obtain⟨_,_,_,a⟩:=np x;obtain⟨_,_,_,b⟩:=np y;obtain⟨c1,_,_,c⟩:=np (x*y);rcases a with⟨e1,h1⟩|⟨e1,h1⟩<;>rcases b with⟨e2,h2⟩|⟨e2,h2⟩<;>rw[e1,e2]
 .have:=cv h1 h2;grind
 .have:=cv h1 (show 0 <= -y by grind);grind
 .have:=cv (show 0 <= -x by grind) h2;grind
 .have:=cv (show 0 <= -x by grind) (show 0 <= -y by grind);grind
def De(f:Nat->Rat):∀ n,jm (iW f n)<=iW (λi=>jm (f i)) n
 | 0=>by simp[iW,jm]
 |n+1=>by
  have h1:=De f n;have h2:=Qw (iW f n) (f n);rw[iW,iW];grind
def Qx:jm 0=0:=rfl
abbrev QM:=Nat->Nat->Rat
def qJ(n:Nat)(A B:QM):QM:=λi j=>iW (λq=>A i q*B q j) n
def yG:QM:=λi j=>if i=j then 1 else 0
def TQ(n:Nat)(M:QM)(t:Rat):Nat->QM
 | 0=>yG
 |j+1=>λi l=>t/((j+1:Nat):Rat)*qJ n (TQ n M t j) M i l
def SQ(n:Nat)(M:QM)(t:Rat):Nat->QM
 | 0=>yG
 |j+1=>λi l=>SQ n M t j i l+TQ n M t (j+1) i l
def WH(j:Nat):(iS (j:Int)).ki ((j:Nat):Rat):=by have:=Ah (j:Int);rwa[eB]at this
section
variable {m:List (List Iv)} {h:Iv} {M:QM} {t:Rat} {n p:Nat}
def AH(n:Nat)(A:QM)(b:Rat):Prop:=∀ i,i<n->iW (λl=>jm (A i l)) n<=b
def alU{A B:QM}{a b:Rat}(_h0:0<=a)(hb:0<=b)(h1:AH n A a)(h2:AH n B b):AH n (qJ n A B) (a*b):=by
 intro i hi;have e1:iW (λl=>jm (qJ n A B i l)) n<=iW (λl=>iW (λq=>jm (A i q)*jm (B q l)) n) n:=
  C7 n λl _=>by
   have:=De (λq=>A i q*B q l) n;rw[show(λq=>jm (A i q*B q l))=λq=>jm (A i q)*jm (B q l)from funext λq=>y3 _ _]at this;exact this
 rw[Hb]at e1;have e2:iW (λq=>iW (λl=>jm (A i q)*jm (B q l)) n) n<=iW (λq=>jm (A i q)*b) n:=
  C7 n λq hq=>by
   rw[BI];exact cY (h2 q hq) (np _).1
 rw[EO]at e2;exact b9 e1 (b9 e2 (cL (h1 i hi) hb))
def eQ(c:Rat):Nat->Rat
 | 0=>1
 |j+1=>eQ c j*(c/((j+1:Nat):Rat))
def Bo(j:Nat):(0:Rat)<((j+1:Nat):Rat):=fT.2 aE 
def Sh{a b:Rat}(h1:0<=a)(h2:0<b):0<=a/b:=by
 rw[cX];exact cv h1 (bZ (fY.2 h2))
def vJ{c:Rat}(h:0<=c):∀ j,0<=eQ c j
 | 0=>by simp only[eQ];decide
 |j+1=>cv (vJ h j) (Sh h (Bo j))
def anu(n i:Nat):iW (λl=>jm (yG i l)) n<=1/\(n<=i->iW (λl=>jm (yG i l)) n=0):=by
 induction n with
 |zero=>exact⟨by simp only[iW];grind,λ_=>rfl⟩
 |succ n ih=>
  have e1:jm 1=1:= aG ;simp only[iW,yG]at ih ⊢;by_cases h:i=n
  .have:=ih.2 aE ;rw[this,bw h,e1];exact⟨aP,λh'=>absurd h' aE⟩
  .rw [bu h,Qx,Rat.add_zero];exact⟨ih.1,λh'=>ih.2 aE⟩
def alQ{A:QM}{b:Rat}(h:AH n A b){i l:Nat}(hi:i<n)(hl:l<n):jm (A i l)<=b:=by
 have h1:=h i hi;have:∀ m,l<m->jm (A i l)<=iW (λl=>jm (A i l)) m:=by
  intro m hm
  induction m with
  |zero=>omega
  |succ m ih=>
   rw[iW];have h0:=C8 m (f:=λl=>jm (A i l)) λi _=>(np _).1
   have h2:=(np (A i m)).1;by_cases hq:l=m
   .subst hq;grind
   .have:=ih aE;grind
 exact b9 (this n hl) h1
end
def KH(g:Nat->Nat->Rat):∀ m,iW (λj=>iW (g j) (m-j)) m=iW (λs=>iW (λj=>g j (s-j)) (s+1)) m
 | 0=>rfl
 |m+1=>by
  have ih:=KH g m;have e1:iW (λj=>iW (g j) (m+1-j)) m=iW (λj=>iW (g j) (m-j)+g j (m-j)) m:=
   qD m λj hj=>by rw[(aE:m+1-j=m-j+1)];rfl
  have h1:iW (g m) (m+1-m)=g m 0:=by
   rw[(aE:m+1-m=0+1)];simp only[iW];grind
  have h2:iW (λj=>g j (m-j)) (m+1)=iW (λj=>g j (m-j)) m+g m (m-m):=rfl;show iW (λj=>iW (g j) (m+1-j)) m+iW (g m) (m+1-m)=iW (λs=>iW (λj=>g j (s-j)) (s+1)) m+iW (λj=>g j (m-j)) (m+1);rw[e1,Ha,h1,h2,ih,dc]
  grind
def Hc{f:Nat->Rat}(h:∀ i,0<=f i){m k:Nat}(hk:m<=k):iW f m<=iW f k:=by
 induction k with
 |zero=>
  have:m=0:= aE ;rw[this];exact cM
 |succ k ih=>
  by_cases hm:m=k+1
  .rw [hm];exact cM
  .have:=ih aE ;have:=h k;rw[iW];grind
def EP(f:Nat->Rat)(m:Nat):∀ d,iW f (m+d)=iW f m+iW (λi=>f (m+i)) d
 | 0=>by simp only[iW,bT];grind
 |d+1=>by
  show iW f (m+d)+f (m+d)=_;rw[EP f m d,iW];grind
def IL(c:Rat)(j:Nat):eQ c (j+1)*((j+1:Nat):Rat)=c*eQ c j:=by
 have h:c/((j+1:Nat):Rat)*((j+1:Nat):Rat)=c:=dN (by have:=Bo j;grind);simp only[eQ];grind
def Il(a b:Rat):∀ s,iW (λj=>eQ b j*eQ a (s-j)) (s+1)=eQ (a+b) s
 | 0=>by
  show 0+eQ b 0*eQ a 0=1;simp only[eQ];grind
 |s+1=>by
  have ih:=Il a b s;have hp:=Bo s;have key:iW (λj=>eQ b j*eQ a (s+1-j)) (s+2)*((s+1:Nat):Rat)=(a+b)*eQ (a+b) s:=by
   have e0:iW (λj=>eQ b j*eQ a (s+1-j)) (s+2)*((s+1:Nat):Rat)=iW (λj=>(j:Rat)*(eQ b j*eQ a (s+1-j))+eQ b j*(((s+1-j:Nat):Rat)*eQ a (s+1-j))) (s+2):=by
    rw[<-EO];refine qD _ λj hj=>?_
    have:((s+1:Nat):Rat)=(j:Rat)+((s+1-j:Nat):Rat):=by rw[<-eD];congr 1;omega
    rw[this];grind
   rw[e0,Ha];have e1:iW (λj=>(j:Rat)*(eQ b j*eQ a (s+1-j))) (s+2)=b*eQ (a+b) s:=by
    rw[Zk,<-ih,<-BI];have z:(((0:Nat):Rat))=0:=rfl;rw[z,apF,Rat.zero_add];refine qD _ λj hj=>?_
    have h1:=IL b j;rw[(aE:s+1-(j+1)=s-j)]
    grind
   have e2:iW (λj=>eQ b j*(((s+1-j:Nat):Rat)*eQ a (s+1-j))) (s+2)=a*eQ (a+b) s:=by
    rw[(aE:s+2=(s+1)+1),iW,dc,<-ih,<-BI];have z:(((0:Nat):Rat))=0:=rfl;rw[z,apF,Rat.mul_zero,Rat.add_zero];refine qD _ λj hj=>?_
    have h1:=IL a (s-j);rw[(aE:s+1-j=s-j+1)]
    grind
   rw[e1,e2];grind
  have h2:=IL (a+b) s;have h3:iW (λj=>eQ b j*eQ a (s+1-j)) (s+2)*((s+1:Nat):Rat)=eQ (a+b) (s+1)*((s+1:Nat):Rat):=by rw[key,h2]
  exact eE (fm (by rw[h3];exact cM) hp) (fm (by rw[h3];exact cM) hp)
def Fs(c:Rat):∀ j,jm (eQ c j)=eQ (jm c) j
 | 0=>by simp only[eQ];decide
 |j+1=>by
  simp only[eQ];rw[y3,Fs c j];congr 1;rw[cX,cX,y3];congr 1;have:=fY.2 (Bo j);unfold jm;rw[bw (bZ this)]
def u4(v:Rat):Nat->Rat
 | 0=>1
 |j+1=>u4 v j*v
def W2(v:Rat)(i:Nat):∀ j,u4 v (i+j)=u4 v i*u4 v j
 | 0=>by simp only[u4,bT];grind
 |j+1=>by
  show u4 v (i+j)*v=_;rw[W2 v i j,u4];grind
def W3{v:Rat}(h:0<=v):∀ j,0<=u4 v j
 | 0=>by simp only[u4];decide
 |j+1=>cv (W3 h j) h
def Mc(c v:Rat):∀ j,eQ (c*v) j=eQ c j*u4 v j
 | 0=>by simp only[eQ,u4];grind
 |j+1=>by
  simp only[eQ,u4];rw[Mc c v j];simp only[cX];grind
def QI(q:Rat):∃ n:Nat,q<=(n:Rat):=by
 refine⟨q.ceil.toNat,?_⟩;have h1:q<=(q.ceil:Rat):=Rat.le_ceil;have h2:((q.ceil:Int):Rat)<=((q.ceil.toNat:Nat):Rat):=by
  rw[<-eB,gI];omega
 exact b9 h1 h2
def P3{z:Rat}{J:Nat}(hz:0<=z)(hJ:z*2<=(J:Rat)){m:Nat}(hm:J<=m):eQ z (m+1)*2<=eQ z m:=by
 have h0:=vJ hz m;have h1:=IL z m;have hp:=Bo m;have MG:z*2<=((m+1:Nat):Rat):=b9 hJ (dF.2 aE);apply fm (c:=((m+1:Nat):Rat)) _ hp;have h2:=cY MG h0
 grind
def P4{z:Rat}{J:Nat}(hz:0<=z)(hJ:z*2<=(J:Rat)){m:Nat}(hm:J<=m):∀ d,iW (λi=>eQ z (m+i)) d+eQ z (m+d)*2<=eQ z m*2
 | 0=>by simp only[iW,bT];grind
 |d+1=>by
  have ih:=P4 hz hJ hm d;have h1:=P3 hz hJ (aE:J<=m+d);rw[iW,(aE:m+(d+1)=m+d+1)]
  grind
def Zp{z:Rat}{J:Nat}(hz:0<=z)(hJ:z*2<=(J:Rat)):∀ r:Nat,eQ z (J+r)*((2^r:Nat):Rat)<=eQ z J
 | 0=> aK 
 |r+1=>by
  have ih:=Zp hz hJ r;have h1:=P3 hz hJ (aE:J<=J+r);have hp:(0:Rat)<=((2^r:Nat):Rat):=di;have h2:=cL h1 hp;rw[show(2^(r+1):Nat)=2^r*2 from bH _ _,dt,(aE:J+(r+1)=J+r+1)];have e:((2:Nat):Rat)=2:=rfl;rw[e];grind
def Zq{z ε:Rat}(hz:0<=z)(hε:0<ε):∃ m0,∀ m,m0<=m->∀ d,iW (λi=>eQ z (m+i)) d<=ε:=by
 obtain⟨J,hJ⟩:=QI (z*2);obtain⟨r,hr⟩:=QI (eQ z J*2/ε);refine⟨J+r,λm hm d=>?_⟩;obtain⟨t,rfl⟩:∃ t,m=J+t:=⟨m-J,aE⟩
 have h1:=P4 hz hJ (aE:J<=J+t) d;have h2:=Zp hz hJ t;have h3:=vJ hz (J+t+d);have h4:=vJ hz (J+t);have sQ:(r:Rat)<=((2^t:Nat):Rat):=dF.2 (dE (cB (aE:r<=t) Nat.lt_two_pow_self));have h5:eQ z J*2<=ε*((2^t:Nat):Rat):=by
  have h6:eQ z J*2/ε*ε=eQ z J*2:=dN aP;have h7:=cL (b9 hr sQ) (bZ hε)
  grind
 have hp:(0:Rat)<((2^t:Nat):Rat):=fT.2 (bF aG);have h8:eQ z (J+t)*2<=ε:=by
  apply fm (c:=((2^t:Nat):Rat)) _ hp
  grind
 grind
def MP(n:Nat)(M:QM):Nat->QM
 | 0=>yG
 |j+1=>qJ n (MP n M j) M
section
variable {n:Nat} {M:QM}
def Lh(t:Rat):∀ j i l,TQ n M t j i l=eQ t j*MP n M j i l
 | 0,i,l=>by simp only[TQ,eQ,MP];grind
 |j+1,i,l=>by
  show t/((j+1:Nat):Rat)*iW (λq=>TQ n M t j i q*M q l) n=eQ t j*(t/((j+1:Nat):Rat))*iW (λq=>MP n M j i q*M q l) n;rw[qD n λq _=>show TQ n M t j i q*M q l=eQ t j*(MP n M j i q*M q l)by rw[Lh t j i q];grind,BI]
  grind
def E3(t:Rat)(i l:Nat):∀ N,SQ n M t N i l=iW (λj=>eQ t j*MP n M j i l) (N+1)
 | 0=>by simp only[SQ,iW,eQ,MP];grind
 |N+1=>by
  show SQ n M t N i l+TQ n M t (N+1) i l=_;rw[E3 t i l N,Lh];rfl
def aim(A:QM)(i:Nat){l:Nat}(hl:l<n):qJ n A yG i l=A i l:=by
 have:∀ m,iW (λq=>A i q*yG q l) m=if l<m then A i l else 0:=by
  intro m
  induction m with
  |zero=>simp[iW]
  |succ m ih=>
   rw[iW,ih];unfold yG;by_cases h1:l<m
   .rw [bw h1,bu (aE:¬m=l),bw (aE:l<m+1)];grind
   .by_cases h2:m=l
    .subst h2;rw[bu h1,bw rfl,bw (aE:m<m+1)];grind
    .rw [bu h1,bu h2,bu (aE:¬l<m+1)];grind
 unfold qJ;rw[this,bw hl]
def ail(A B C:QM)(i l:Nat):qJ n A (qJ n B C) i l=qJ n (qJ n A B) C i l:=by
 unfold qJ;have e1:∀ q,A i q*iW (λr=>B q r*C r l) n=iW (λr=>A i q*(B q r*C r l)) n:=λq=>(BI _ _ n).symm
 have e2:∀ r,iW (λq=>A i q*B q r) n*C r l=iW (λq=>A i q*B q r*C r l) n:=λr=>(EO _ _ n).symm
 rw[qD n λq _=>e1 q,qD (f:=λq=>iW (λq_1=>A i q_1*B q_1 q) n*C q l) n λr _=>e2 r,Hb];exact qD n λr _=>qD n λq _=> aP 
def Qm(j:Nat):∀ k i l,l<n->qJ n (MP n M j) (MP n M k) i l=MP n M (j+k) i l
 | 0,i,l,hl=>aim _ i hl
 |k+1,i,l,hl=>by
  show qJ n (MP n M j) (qJ n (MP n M k) M) i l=qJ n (MP n M (j+k)) M i l;rw[ail];exact qD n λq hq=>by rw[Qm j k i q hq]
def Qn{v:Rat}(hv:0<=v)(h:AH n M v):∀ j,AH n (MP n M j) (u4 v j)
 | 0=>λi _=>(anu n i).1
 |j+1=>alU (W3 hv j) hv (Qn hv h j) h
def alR(n:Nat)(M:QM):∃ v,0<=v/\AH n M v:=by
 refine⟨iW (λi=>iW (λl=>jm (M i l)) n) n,C8 n λi _=>C8 n λl _=>(np _).1,λi hi=>?_⟩;have:∀ m,i<m->iW (λl=>jm (M i l)) n<=iW (λi=>iW (λl=>jm (M i l)) n) m:=by
  intro m hm
  induction m with
  |zero=>omega
  |succ m ih=>
   rw[iW];have h0:0<=iW (λl=>jm (M m l)) n:=C8 n λl _=>(np _).1
   have h1:0<=iW (λi=>iW (λl=>jm (M i l)) n) m:=C8 m λi _=>C8 n λl _=>(np _).1
   by_cases hq:i=m
   .subst hq;grind
   .have:=ih aE;grind
 exact this n hi
def ajL(a b:Rat)(N:Nat)(i:Nat){l:Nat}(hl:l<n):qJ n (SQ n M b N) (SQ n M a N) i l=iW (λj=>iW (λk=>eQ b j*eQ a k*MP n M (j+k) i l) (N+1)) (N+1):=by
 unfold qJ;have e1:∀ q,SQ n M b N i q*SQ n M a N q l=iW (λj=>iW (λk=>eQ b j*eQ a k*(MP n M j i q*MP n M k q l)) (N+1)) (N+1):=by
  intro q;rw[E3,E3,<-EO];refine qD _ λj _=>?_
  rw[<-BI];exact qD _ λk _=> aP 
 rw[qD n λq _=>e1 q,Hb];refine qD _ λj _=>?_
 rw[Hb];refine qD _ λk _=>?_
 rw[<-Qm j k i l hl,BI];rfl
def an9(a b:Rat)(N:Nat)(i l:Nat):iW (λj=>iW (λk=>eQ b j*eQ a k*MP n M (j+k) i l) (N+1-j)) (N+1)=SQ n M (a+b) N i l:=by
 rw[KH (λj k=>eQ b j*eQ a k*MP n M (j+k) i l),E3];refine qD _ λs _=>?_
 rw[<-Il,<-EO];exact qD _ λj hj=>by rw[(aE:j+(s-j)=s)]
def Y3(g:Nat->Nat->Rat)(m:Nat):iW (λj=>iW (g j) m) m=iW (λj=>iW (g j) (m-j)) m+iW (λj=>iW (λk=>g j (m-j+k)) j) m:=by
 rw[<-Ha];refine qD _ λj hj=>?_
 rw[<-EP,(aE:m-j+j=m)]
def af1{v:Rat}(hv:0<=v)(h:AH n M v)(a b:Rat)(N:Nat){i l:Nat}(hi:i<n)(hl:l<n):
 jm (qJ n (SQ n M b N) (SQ n M a N) i l-SQ n M (a+b) N i l)<=iW (λs=>eQ (jm a*v+jm b*v) (N+1+s)) (N+1):=by
 have hx:0<=jm a*v:=cv (np a).1 hv;have hy:0<=jm b*v:=cv (np b).1 hv;have e1:qJ n (SQ n M b N) (SQ n M a N) i l=SQ n M (a+b) N i l+iW (λj=>iW (λk=>eQ b j*eQ a (N+1-j+k)*MP n M (j+(N+1-j+k)) i l) j) (N+1):=by
  have:=Y3 (λj k=>eQ b j*eQ a k*MP n M (j+k) i l) (N+1);rw[an9,<-ajL a b N i hl]at this;exact this
 have e2:qJ n (SQ n M b N) (SQ n M a N) i l-SQ n M (a+b) N i l=iW (λj=>iW (λk=>eQ b j*eQ a (N+1-j+k)*MP n M (j+(N+1-j+k)) i l) j) (N+1):= aP ;rw[e2];have e3:jm (iW (λj=>iW (λk=>eQ b j*eQ a (N+1-j+k)*MP n M (j+(N+1-j+k)) i l) j) (N+1))<=iW (λj=>iW (λk=>eQ (jm b*v) j*eQ (jm a*v) (N+1-j+k)) j) (N+1):=by
  refine b9 (De _ _) (C7 _ λj _=>b9 (De _ _) (C7 _ λk _=>?_));rw[y3,y3,Fs,Fs,Mc,Mc];have hr:=alQ (Qn hv h (j+(N+1-j+k))) hi hl;rw[W2]at hr;have h1:=vJ (np b).1 j;have h2:=vJ (np a).1 (N+1-j+k);have h3:=cY hr (cv h1 h2)
  grind
 refine b9 e3 ?_;have q1:iW (λj=>iW (λk=>eQ (jm b*v) j*eQ (jm a*v) k) (N+1)) (N+1)=iW (λj=>iW (λk=>eQ (jm b*v) j*eQ (jm a*v) k) (N+1-j)) (N+1)+iW (λj=>iW (λk=>eQ (jm b*v) j*eQ (jm a*v) (N+1-j+k)) j) (N+1):=
  Y3 (λj k=>eQ (jm b*v) j*eQ (jm a*v) k) (N+1)
 have q2:iW (λj=>iW (λk=>eQ (jm b*v) j*eQ (jm a*v) k) (N+1-j)) (N+1)=iW (λs=>eQ (jm a*v+jm b*v) s) (N+1):=by
  rw[KH (λj k=>eQ (jm b*v) j*eQ (jm a*v) k)];exact qD _ λs _=>Il _ _ s
 have G0:∀ j k,0<=eQ (jm b*v) j*eQ (jm a*v) k:=λj k=>cv (vJ hy j) (vJ hx k)
 have q3:iW (λj=>iW (λk=>eQ (jm b*v) j*eQ (jm a*v) k) (N+1)) (N+1)<=iW (λs=>eQ (jm a*v+jm b*v) s) (N+1+(N+1)):=by
  rw[<-qD (f:=λs=>iW (λj=>eQ (jm b*v) j*eQ (jm a*v) (s-j)) (s+1)) _ λs _=>Il _ _ s,<-KH (λj k=>eQ (jm b*v) j*eQ (jm a*v) k)];refine b9 (C7 _ λj hj=>Hc (λk=>G0 j k) (aE:N+1<=N+1+(N+1)-j)) ?_;exact Hc (λj=>C8 _ λk _=>G0 j k) aE 
 rw[EP (λs=>eQ (jm a*v+jm b*v) s) (N+1) (N+1),q1,q2]at q3;have cancel:∀ A B C:Rat,A+B<=A+C->B<=C:=by intro A B C h;grind
 exact cancel _ _ _ q3
def af2(n:Nat)(M:QM)(a b:Rat){ε:Rat}(hε:0<ε):∃ N0,∀ N,N0<=N->∀ i l,i<n->l<n->jm (qJ n (SQ n M b N) (SQ n M a N) i l-SQ n M (a+b) N i l)<=ε:=by
 obtain⟨v,hv,h⟩:=alR n M;have hz:0<=jm a*v+jm b*v:=by
  have hx:0<=jm a*v:=cv (np a).1 hv;have hy:0<=jm b*v:=cv (np b).1 hv
  grind
 obtain⟨m0,h0⟩:=Zq hz hε;exact⟨m0,λN hN i l hi hl=>b9 (af1 hv h a b N hi hl) (h0 (N+1) aE (N+1))⟩
def aat(N:Nat)(i l:Nat):SQ n M 0 N i l=yG i l:=by
 induction N with
 |zero=>rfl
 |succ N ih=>
  show SQ n M 0 N i l+TQ n M 0 (N+1) i l=_;rw[ih,Lh];simp only[eQ,cX];grind
end
def pS(f:Nat->Rat)(X:Iv):Prop:=∀ ε,0<ε->∃ N0,∀ N,N0<=N->∃ r,X.ki r/\jm (f N-r)<=ε
def pS.OI{f:Nat->Rat}{X:Iv}{k:Nat}(h:∀ N,k<=N->X.ki (f N)):pS f X:=λε hε=>
 ⟨k,λN hN=>⟨f N,h N hN,by rw[Rat.sub_self,Qx];exact bZ hε⟩⟩
def pS.all{f:Nat->Rat}{X:Iv}(h:X.all=true):pS f X:=pS.OI (k:=0) λ_ _=>.inl h
def pS.shift{f g:Nat->Rat}{X:Iv}(h:pS f X)(k:∀ ε,0<ε->∃ N0,∀ N,N0<=N->jm (g N-f N)<=ε):pS g X:=λε hε=>by
 obtain⟨N1,h1⟩:=h (ε/2) aP;obtain⟨N2,h2⟩:=k (ε/2) aP;refine⟨max N1 N2,λN hN=>?_⟩;obtain⟨r,hr,hd⟩:=h1 N aE;have hg:=h2 N aE;refine⟨r,hr,?_⟩;have:=Qw (g N-f N) (f N-r);rw[show g N-f N+(f N-r)=g N-r by grind]at this
 grind
def EQ(c:Rat)(N:Nat):Rat:=iW (eQ c) (N+1)
def ai9(j:Nat):MP 1 (λ_ _=>1) j 0 0=1:=by
 induction j with
 |zero=>rfl
 |succ j ih=>
  show iW (λq=>MP 1 (λ_ _=>1) j 0 q*1) 1=1;simp only[iW];rw[ih];grind
def Hw(c:Rat)(N:Nat):SQ 1 (λ_ _=>1) c N 0 0=EQ c N:=by
 rw[E3];exact qD _ λj _=>by rw[ai9];grind
def Lb(a b:Rat){ε:Rat}(hε:0<ε):∃ N0,∀ N,N0<=N->jm (EQ (a+b) N-EQ a N*EQ b N)<=ε:=by
 obtain⟨N0,h0⟩:=af2 1 (λ_ _=>1) a b hε;refine⟨N0,λN hN=>?_⟩;have:=h0 N hN 0 0 aG aG;rw[show qJ 1 (SQ 1 (λ_ _=>1) b N) (SQ 1 (λ_ _=>1) a N) 0 0=EQ a N*EQ b N by
  show iW (λq=>SQ 1 (λ_ _=>1) b N 0 q*SQ 1 (λ_ _=>1) a N q 0) 1=_;simp only[iW];rw[Hw,Hw];grind,Hw]at this
 obtain⟨_,a2,a3,_⟩:=np (EQ a N*EQ b N-EQ (a+b) N);exact yZ aP aP 
def aal(N:Nat):EQ 0 N=1:=by
 rw[<-Hw,aat];rfl
def QN{x:Iv}{r s:Rat}(hx:x.ik)(h:x.ki r)(hs:jm s<=jm r):(q8 x).ki s:=by
 unfold q8;cases xa:x.all
 .obtain ⟨h1,h2⟩:=h.kp xa;obtain⟨m1,m2,_⟩:=CC hx.q;obtain⟨_,a2,a3,a4⟩:=np r;obtain⟨_,b2,b3,_⟩:=np s;have hr:jm r<=(kS x).q:= aP ;refine .inr ⟨?_,?_⟩
  .show (iU (kS x)).q<=s;rw[pz];grind
  .show s<=(kS x).q
   grind
 .rw [bw rfl];exact .inl xa
def EX{a b:Int}(h:a<=b):P2 a<=P2 b:=by
 rw[EY h];have h1:(1:Rat)<=((2^(b-a).toNat:Nat):Rat):=by
  have:=dF.2 (Nat.one_le_two_pow (n:=(b-a).toNat));exact this
 have:=cL h1 (bZ (nO a))
 grind
def KO{i:Nat}(h:i<2):i=0\/i=1:= aE 
def HF1:Dy:=⟨false,1014047155841371404857783918912611814895143950022408150448898879701903863171748812343190420115852101928445847465915947005,-398⟩
def HF2:Dy:=⟨false,2028094311682742809715567837825223629790287900044816300897797759403807726343497624686380840231704203856891694931831894109,-399⟩
def HF:Iv:=⟨HF1,HF2,false⟩
def after{N:Nat}(h:100<=N):∃ d,N=100+d:=⟨N-100,aE⟩
def zq(k:Int):Rat×Rat:=if k%4=0 then(1,0)else if k%4=1 then(0,1)else if k%4=2 then(-1,0)else(0,-1)
def lX(r:Iv)(p:Nat):Nat->Iv
 | 0=>iS 1
 |j+1=>jT (jt (lX r p j) r p) (iS ((j+1:Nat):Int)) p
def PJ(r:Iv)(p j:Nat):Iv:=if 2<=j%4 then pM (lX r p j)else lX r p j
def Kx(r:Iv)(p:Nat):Nat->Iv
 | 0=>iS 0
 |j+1=>if(j+1)%2=1 then kI (Kx r p j) (PJ r p (j+1)) p else Kx r p j
def qV(n:Int):(qn n).q=P2 n:=by unfold qn;rw[qW];simp
def wG{r:Iv}{p:Nat}(_hr:r.ik)(iw:8<=p)(ij:p<=512):∀ j,(lX r p j).ik
 | 0=>CG 1 aG 
 |j+1=>tV _ _ aE aE 
def amr{r:Iv}{p:Nat}(hr:r.ik)(iw:8<=p)(ij:p<=512)(j:Nat):(PJ r p j).ik:=by
 unfold PJ;split
 .exact yF (wG hr iw ij j)
 .exact wG hr iw ij j
def YD{r:Iv}{p:Nat}(hr:r.ik)(iw:8<=p)(ij:p<=512):∀ j,(Kx r p j).ik
 | 0=>CG 0 aG 
 |j+1=>by
  unfold Kx;split
  .exact qG (YD hr iw ij j) (amr hr iw ij _) aE aE 
  .exact YD hr iw ij j
def PK{r:Iv}{p:Nat}(hr:r.ik)(iw:8<=p)(ij:p<=512){ρ:Rat}(h:r.ki ρ):∀ j,j<4294967296->(lX r p j).ki (eQ ρ j)
 | 0,_=>Ah 1
 |j+1,hj=>by
  have e:eQ ρ (j+1)=eQ ρ j*ρ/((j+1:Nat):Rat):=by simp only[eQ,cX];grind
  rw[e];exact ID (pn _ _ aE aE) (OB (j+1) hj) aE aE (Ol (wG hr iw ij j) hr aE aE (PK hr iw ij h j aE) h) (WH (j+1))
def YE{r:Iv}{p:Nat}:∀ {j d:Nat},(lX r p (j+d)).all=false->(lX r p j).all=false
 |_,0,h=>h
 |j,d+1,h=>by
  apply YE (d:=d);cases ha:(lX r p (j+d)).all
  .rfl
  .exfalso;have:lX r p (j+(d+1))=iu:=by
    show jT (jt (lX r p (j+d)) r p) _ p=_;rw[JV p (.inl ha),Fl p (.inl rfl)]
   rw[this]at h;cases h
def pU(n:Int):Iv:=⟨iU (qn n),qn n,false⟩
def Dk{n:Int}{r:Rat}:(pU n).ki r ↔ -P2 n<=r/\r<=P2 n:=by
 unfold Iv.ki pU;simp only[bS,false_or];rw[pz,qV]
def AG{p:Nat}(hp:1<=p){n:Int}(h1:-1000<=n)(h2:n<=1000):G p (P2 n):=.inl ⟨1,n,by rw[xR];exact hp,aE,by rw[xR];omega,aK⟩
def Fa{p:Nat}{S:Rat->Prop}{X:Iv}(h:EV p S X)(hp:1<=p){n:Int}(h1:-1000<=n)(h2:n<=1000)(hs:∀ r,S r -> -P2 n<=r/\r<=P2 n):Sub X (pU n):=by
 obtain⟨a,b,c⟩:=h.yA _ _ (AG hp h1 h2).neg (AG hp h1 h2) hs;refine .inr ⟨a,?_,?_⟩
 .show (iU (qn n)).q<=_;rw[pz,qV];exact b
 .show _<=(qn n).q;rw[qV];exact c
def Qy{a b u v:Rat}(h1:-u<=a)(h2:a<=u)(h3:-v<=b)(h4:b<=v):-(u*v)<=a*b/\a*b<=u*v:=by
 have ha:jm a<=u:=yZ h2 aP;have hb:jm b<=v:=yZ h4 aP;have hm:=y3 a b;have h0:=(np b).1;have hu:0<=u:=b9 (np a).1 ha;have m1:=cL ha h0;have m2:=cY hb hu;obtain⟨_,c2,c3,_⟩:=np (a*b);constructor<;>grind
def T4(j:Nat):P2 (-(j:Int))*P2 (-1)=P2 (-((j+1:Nat):Int)):=by
 rw[<-qF];congr 1;omega
def adu{a u:Rat}{n:Nat}(h1:-u<=a)(h2:a<=u):-u<=a/((n+1:Nat):Rat)/\a/((n+1:Nat):Rat)<=u:=by
 have hp:=Bo n;have TB:(1:Rat)<=((n+1:Nat):Rat):=by
  have:=dF (a:=1) (b:=n+1);exact this.2 aE 
 have e:=dN (a:=a) (b:=((n+1:Nat):Rat)) aP;have hu:0<=u:= aP ;generalize a/((n+1:Nat):Rat)=x at *
 generalize ((n+1:Nat):Rat)=c at *
 constructor
 .apply dP.1;intro iL;have m:=eF iL hp;have m2:=cY TB hu
  grind
 .apply dP.1;intro iL;have m:=eF iL hp;have m2:=cY TB hu
  grind
def YG{y:Iv}(hy:y.ik)(h:Sub y (pU (-1))){p:Nat}(iw:8<=p)(ij:p<=512):∀ j,j<=900->Sub (lX y p j) (pU (-(j:Int)))
 | 0,_=>by
  have e:(iS 1).lo.q=1/\(iS 1).hi.q=1/\(iS 1).all=false:=WG 1;refine .inr ⟨e.2.2,?_,?_⟩
  .show (iU (qn _)).q<=_;rw[pz,qV,show(lX y p 0).lo.q=1 from e.1];decide +kernel
  .show _<=(qn _).q;rw[qV,show(lX y p 0).hi.q=1 from e.2.1];decide +kernel
 |j+1,hj=>by
  have ih:=YG hy h iw ij j aE;have vT:=wG hy iw ij j;obtain⟨ta,_⟩:=ih.xp rfl;obtain⟨ya,_⟩:=h.xp rfl;have B:=Oj vT hy ta ya (aE:1<=p) aE;have s1:Sub (jt (lX y p j) y p) (pU (-((j+1:Nat):Int))):=Fa B aE aE aE (by
   rintro r ⟨a,b,ha,hb,rfl⟩;obtain⟨a1,a2⟩:=Dk.1 (ih.ki ha);obtain⟨b1,b2⟩:=Dk.1 (h.ki hb);rw[<-T4];exact Qy a1 a2 b1 b2)
  have vm:(jt (lX y p j) y p).ik:=pn _ _ aE aE;obtain⟨ma,_⟩:=s1.xp rfl;have vn:=OB (j+1) aE;have hs:lZ (iS ((j+1:Nat):Int))≠0:=by rw[aiY aE];decide
  exact Fa (IC vm vn ma hs (aE:1<=p) aE) aE aE aE (by
   rintro r ⟨a,b,ha,hb,rfl⟩;obtain⟨a1,a2⟩:=Dk.1 (s1.ki ha);obtain⟨b1,b2⟩:=hb.kp rfl;have e:=WG (j+1);rw[e.1]at b1;rw[e.2.1]at b2;rw[show b=((j+1:Nat):Rat)from eE b2 b1];exact adu a1 a2)
def pf(x:Iv)(p:Nat):Bool:=x.all||(decide ((kS x).m=0)||decide ((kS x).iE <= -(p:Int)))
def ZC{d:Dy}(hm:d.m≠0){n:Int}(h:jm d.q<=P2 n):d.iE<=n+1:=by
 apply ca;intro iL;have hT:d.iE=(iq d.m:Int)+d.e:=by unfold Dy.iE;rw[bu hm]
 have hb:0<iq d.m:=tD.2 (by rw[cw];omega);have h1:2^(iq d.m-1)<=d.m:=tD.1 aE;have h2:((2^(iq d.m-1):Nat):Rat)<=(d.m:Rat):=dF.2 h1;have h3:=cL h2 (bZ (nO d.e));rw[<-vv,<-qF,show((iq d.m-1:Nat):Int)+d.e=d.iE-1 by rw[hT];omega]at h3;have h4:jm d.q=(d.m:Rat)*P2 d.e:=by
  have h0:0<=(d.m:Rat)*P2 d.e:=cv di (bZ (nO _));rw[qX];unfold jm;cases d.neg
  .simp only[bS,bJ];rw[bw h0]
  .simp only[bQ];split<;>grind
 have h5:=EX (aE:n+1<=d.iE-1);have h6:P2 (n+1)=P2 n*2:=by rw[qF];congr 1
 have:=nO n
 grind
def Zz{x:Iv}(hx:x.ik){p:Nat}(h:Sub x (pU (-((p+1:Nat):Int)))):pf x p=true:=by
 unfold pf;cases ha:x.all
 .by_cases hm:(kS x).m=0
  .rw [bA hm];rfl
  .obtain ⟨_,k1,k2⟩:=h.xp rfl;obtain⟨m1,m2,m3⟩:=CC hx.q;replace k1:(iU (qn (-((p+1:Nat):Int)))).q<=x.lo.q:=k1;replace k2:x.hi.q<=(qn (-((p+1:Nat):Int))).q:=k2;rw[pz,qV]at k1;rw[qV]at k2;have hq:=hx.q;have qt:=nO (-((p+1:Nat):Int));generalize hu:P2 (-((p+1:Nat):Int))=u at *
   have hle:jm (kS x).q<=u:=yZ (by rcases m3 with m3|m3<;>grind) (by rcases m3 with m3|m3<;>grind);have:=ZC hm (hu▸hle);rw[bA (show(kS x).iE <= -(p:Int)by omega)];simp
 .rfl
def YF{y:Iv}(h:y.all=true)(p:Nat):lX y p 1=iu:=by
 show jT (jt (iS 1) y p) _ p=_;rw[JV p (.inr h),Fl p (.inl rfl)]
def aeN{y:Iv}(hy:y.ik)(h:y.all=true\/Sub y (pU (-1))){p:Nat}(iw:8<=p)(ij:p<=512):∃ N,1<=N/\N<=1000/\(∀ x,1<=x->x<N->pf (lX y p x) p=false)/\pf (lX y p N) p=true:=by
 have ex:∃ x,x<900/\decide (1<=x/\pf (lX y p x) p=true)=true:=by
  rcases h with h|h
  .exact ⟨1,aE,bA ⟨aE,by rw[YF h];rfl⟩⟩
  .exact ⟨p+1,aE,bA ⟨aE,Zz (wG hy iw ij _) (YG hy h iw ij (p+1) aE)⟩⟩
 obtain⟨N,n1,n2,n3⟩:=rj (p:=λx=>decide (1<=x/\pf (lX y p x) p=true)) ex;have n2':=cR n2;refine⟨N,n2'.1,aE,λx h1 h2=>?_,n2'.2⟩;have:=fu (n3 x h2);cases hc:pf (lX y p x) p
 .rfl
 .exact absurd ⟨h1,hc⟩ this
def tW(y:Iv)(p:Nat):Nat->Iv
 | 0=>iS 1
 |j+1=>kI (tW y p j) (lX y p (j+1)) p
def y9(y:Iv)(p N:Nat):Iv:=kI (tW y p N) (q8 (lX y p N)) p
def Dz{y:Iv}(hy:y.ik){p:Nat}(iw:8<=p)(ij:p<=512):∀ j,(tW y p j).ik
 | 0=>CG 1 aG 
 |j+1=>qG (Dz hy iw ij j) (wG hy iw ij _) aE aE 
def aeM{y:Iv}(hy:y.ik){p:Nat}(iw:8<=p)(ij:p<=512)(N:Nat):(y9 y p N).ik:=qG (Dz hy iw ij N) (Di (wG hy iw ij N)) aE aE 
def mu(x:Iv)(p:Nat):Iv:=if x.all then iu else kX (jf x.lo p false) (jx x.lo p false) (jf x.hi p true) (jx x.hi p true)
def uF(a b:Iv):Iv:=if a.all||b.all then iu else⟨a.lo,b.hi,false⟩
def ED{x:Iv}(hx:x.ik){p:Nat}(hp:1<=p)(ij:p<=4096):(mu x p).ik:=by
 unfold mu;cases xa:x.all
 .obtain ⟨c1,c2⟩:=hx.AR;simp only[bS,bJ];unfold kX;split
  .exact mD
  .rename_i he;have A:=xD c1 hp ij;have B:=u9 c2 hp ij;refine .inr ⟨rfl,uq _ hp ij _,uq _ hp ij _,?_⟩;rw[qL];exact b9 (A.1 aE).2 (b9 hx.q (B.1 aE).2)
 .exact mD
def G4{x:Iv}(hx:x.ik){p:Nat}(hp:1<=p)(ij:p<=4096){r:Rat}(h:x.ki r):(mu x p).ki r:=by
 unfold mu;cases xa:x.all
 .obtain ⟨c1,c2⟩:=hx.AR;obtain⟨h1,h2⟩:=h.kp xa;simp only[bS,bJ];unfold kX;split
  .exact .inl rfl
  .rename_i he;have A:=xD c1 hp ij;have B:=u9 c2 hp ij;exact .inr ⟨b9 (A.1 aE).2 h1,b9 h2 (B.1 aE).2⟩
 .exact .inl rfl
def alN{x:Iv}(hx:x.ik){p:Nat}(hp:1<=p)(ij:p<=4096){n:Int}(h1:-1000<=n)(h2:n<=1000)(h:Sub x (pU n)):Sub (mu x p) (pU n):=by
 obtain⟨xa,k1,k2⟩:=h.xp rfl;replace k1:(iU (qn n)).q<=x.lo.q:=k1;replace k2:x.hi.q<=(qn n).q:=k2;rw[pz,qV]at k1;rw[qV]at k2;obtain⟨c1,c2⟩:=hx.AR;have A:=(xD c1 hp ij).2 _ (AG hp h1 h2).neg k1;have B:=(u9 c2 hp ij).2 _ (AG hp h1 h2) k2;unfold mu kX;rw[xa];simp only[bS,bJ];rw[bu aE];refine .inr ⟨rfl,?_,?_⟩
 .show (iU (qn n)).q<=_;rw[pz,qV];exact A.2
 .show _<=(qn n).q;rw[qV];exact B.2
def ahD{f g:Nat->Rat}{A B:Iv}(hA:pS f A)(hB:pS g B)(h:∀ ε,0<ε->∃ N0,∀ N,N0<=N->f N<=g N+ε)(aa:A.all=false)(ba:B.all=false):A.lo.q<=B.hi.q:=by
 apply dP.1;intro iL;obtain⟨ε,hε⟩:∃ ε,ε=(A.lo.q-B.hi.q)/4:=⟨_,rfl⟩
 have h0:0<ε:=by rw[hε];grind
 obtain⟨N1,h1⟩:=hA ε h0;obtain⟨N2,h2⟩:=hB ε h0;obtain⟨N3,h3⟩:=h ε h0;obtain⟨r,hr,hd⟩:=h1 (max N1 (max N2 N3)) aE;obtain⟨s,hs,he⟩:=h2 (max N1 (max N2 N3)) aE;have h4:=h3 (max N1 (max N2 N3)) aE;obtain⟨r1,r2⟩:=hr.kp aa;obtain⟨s1,s2⟩:=hs.kp ba;obtain⟨_,a2,a3,_⟩:=np (f (max N1 (max N2 N3))-r);obtain⟨_,b2,b3,_⟩:=np (g (max N1 (max N2 N3))-s)
 grind
def aak{c:Rat}(h:0<=c)(N:Nat):1<=EQ c N:=by
 have:=Hc (f:=eQ c) (λi=>vJ h i) (aE:1<=N+1);have e:iW (eQ c) 1=1:=by show 0+1=1;grind
 unfold EQ;rw[e]at this;exact this
def aaj(c:Rat){ε:Rat}(hε:0<ε):∃ N0,∀ N,N0<=N -> -ε<=EQ c N:=by
 obtain⟨N0,h0⟩:=Lb (c/2) (c/2) hε;rw[show c/2+c/2=c by grind]at h0;refine⟨N0,λN hN=>?_⟩;have h:=h0 N hN;have hs:0<=EQ (c/2) N*EQ (c/2) N:=by
  by_cases k:0<=EQ (c/2) N
  .exact cv k k
  .have:=cv (show 0 <= -EQ (c/2) N by grind) (show 0 <= -EQ (c/2) N by grind)
   grind
 obtain⟨_,a2,a3,_⟩:=np (EQ c N-EQ (c/2) N*EQ (c/2) N)
 grind
def aag{c:Rat}(h:0<=c):∃ M:Rat,0<M/\∀ N,EQ c N<=M:=by
 obtain⟨m0,h0⟩:=Zq h (show(0:Rat)<1 by decide);have hs:0<=iW (eQ c) m0:=by
  have:=Hc (f:=eQ c) (λi=>vJ h i) (cj m0);exact this
 refine⟨iW (eQ c) m0+1,aP,λN=>?_⟩;unfold EQ;by_cases hN:m0<=N+1
 .obtain ⟨d,hd⟩:∃ d,N+1=m0+d:=⟨N+1-m0,aE⟩
  rw[hd,EP];have:=h0 m0 (bC _) d
  grind
 .have:=Hc (f:=eQ c) (λi=>vJ h i) (aE:N+1<=m0)
  grind
def aai{a b:Rat}(h:a<=b){ε:Rat}(hε:0<ε):∃ N0,∀ N,N0<=N->EQ a N<=EQ b N+ε:=by
 have hd:0<=b-a:= aP ;obtain⟨N1,h1⟩:=Lb a (b-a) (show 0<ε/2 by grind);rw[show a+(b-a)=b by grind]at h1;obtain⟨M,tp,hM⟩:∃ M:Rat,0<M/\∀ N,EQ (b-a) N<=M:=aag hd;obtain⟨N2,h2⟩:=aaj a (show 0<ε/(2*M)by rw[cX];exact eC hε (fY.2 aP));refine⟨max N1 N2,λN hN=>?_⟩;have k1:=h1 N aE;have k2:=h2 N aE;have e:ε/(2*M)*M=ε/2:=by
  have:=dN (a:=ε) (b:=2*M) aP 
  grind
 have k3:=aak hd N;have k4:=hM N;obtain⟨_,a2,a3,_⟩:=np (EQ b N-EQ a N*EQ (b-a) N);generalize EQ a N=x at *
 generalize EQ (b-a) N=y at *
 generalize EQ b N=z at *
 generalize ε/(2*M)=δ at *
 have m1:=cv (show 0<=x+δ by grind) (show 0<=y-1 by grind);have hδ:0<=δ:=by
  apply dP.1;intro iL;have:=eF iL tp
  grind
 have m2:=cY (show y-1<=M by grind) hδ
 grind
def SV{y:Iv}{r:Rat}(hy:y.ik)(h:y.ki r){p:Nat}(iw:8<=p)(ij:p<=512):∀ j,j<4294967296->(tW y p j).ki (EQ r j)
 | 0,_=>by
  have:EQ r 0=1:=by unfold EQ;simp only[iW,eQ];grind
  rw[this];exact Ah 1
 |j+1,hj=>AK (Dz hy iw ij j) (wG hy iw ij (j+1)) aE aE (SV hy h iw ij j aE) (PK hy iw ij h (j+1) hj)
def aeJ{y:Iv}(h:y.all=true){p N:Nat}(hN:1<=N):(y9 y p N).all=true:=by
 have ht:(lX y p N).all=true:=by
  cases hc:(lX y p N).all
  .obtain ⟨d,rfl⟩:∃ d,N=1+d:=⟨N-1,aE⟩
   have:=YE hc;rw[YF h]at this;cases this
  .rfl
 unfold y9;rw[Ia p (.inr (by unfold q8;rw[ht];simpa using ht))];rfl
def aeK{y:Iv}{r:Rat}(hy:y.ik)(h:y.ki r)(hr:jm r*2<=1){p:Nat}(iw:8<=p)(ij:p<=512){N:Nat}(hN:1<=N)(rT:N<=1000)(M:Nat)(hM:N<=M):(y9 y p N).ki (EQ r M):=by
 obtain⟨d,rfl⟩:∃ d,M=N+d:=⟨M-N,aE⟩
 have e1:EQ r (N+d)=EQ r N+iW (λi=>eQ r (N+1+i)) d:=by
  unfold EQ;rw[(aE:N+d+1=N+1+d),EP]
 have hz:=(np r).1;have t:=P4 hz (J:=1) (by exact hr) (aE:1<=N+1) d;have p0:=vJ hz (N+1+d);have b1:jm (iW (λi=>eQ r (N+1+i)) d)<=iW (λi=>eQ (jm r) (N+1+i)) d:=by
  have:=De (λi=>eQ r (N+1+i)) d;rwa[qD d λi _=>Fs r (N+1+i)]at this
 have e3:eQ (jm r) (N+1)*2<=eQ (jm r) N:=P3 hz (J:=1) (by exact hr) (aE:1<=N);rw[e1];refine AK (Dz hy iw ij N) (Di (wG hy iw ij N)) aE aE (SV hy h iw ij N aE) (QN (wG hy iw ij N) (PK hy iw ij h N aE) ?_);rw[Fs];grind
def aeL{y:Iv}{r:Rat}(hy:y.ik)(h:y.ki r)(hb:y.all=true\/Sub y (pU (-1))){p:Nat}(iw:8<=p)(ij:p<=512){N:Nat}(hN:1<=N)(rT:N<=1000):pS (EQ r) (y9 y p N):=by
 rcases hb with hb|hb
 .exact pS.all (aeJ hb hN)
 .refine pS.OI (k:=N) λM hM=>aeK hy h ?_ iw ij hN rT M hM
  obtain⟨b1,b2⟩:=Dk.1 (hb.ki h);have e:P2 (-1)=1/2:= aQ ;rw[e]at b1 b2;have:=yZ (x:=r) (b:=1/2) aP aP 
  grind
def oY(x:Iv)(p:Nat):Iv:=if(jh x).all then iu else kX (jf (lg (jh x).lo (jh x).lo) p false) (jx (lg (jh x).lo (jh x).lo) p false) (jf (lg (jh x).hi (jh x).hi) p true) (jx (lg (jh x).hi (jh x).hi) p true)
def Qv{x:Iv}(xa:x.all=false):0<=(jh x).lo.q:=by
 unfold jh;rw[xa];show 0<=(nK x).q;unfold nK;split
 .rw [r8];exact cM
 .obtain ⟨_,_,m⟩:=CM (lF x.lo) (lF x.hi);rcases m with m|m<;>rw[m]
  .exact (yJ x.lo).1
  .exact (yJ x.hi).1
def AJ(x:Iv):(jh x).all=x.all:=by unfold jh;cases h:x.all<;>simp[h,iu]
def PW{x:Iv}(hx:x.ik){p:Nat}(hp:1<=p)(ij:p<=4096){r:Rat}(h:x.ki r):(oY x p).ki (r*r):=by
 unfold oY;rw[AJ];cases xa:x.all
 .simp only[bS,bJ];obtain⟨s,hs,h0,e⟩:∃ s,(jh x).ki s/\0<=s/\r*r=s*s:=by
   by_cases hr:0<=r
   .exact ⟨r,H8 hx h (.inl ⟨rfl,hr⟩),hr,rfl⟩
   .exact ⟨-r,H8 hx h (.inr ⟨rfl,aP⟩),aP,aP⟩
  have hl:=Qv xa;have ya:(jh x).all=false:=by rw[AJ];exact xa
  obtain⟨s1,s2⟩:=hs.kp ya;rw[e];unfold kX;split
  .exact .inl rfl
  .rename_i he;have A:=xD (AP (jh x).lo (jh x).lo) hp ij;have B:=u9 (AP (jh x).hi (jh x).hi) hp ij;rw[Es]at A B;have a1:=(A.1 aE).2;have b1:=(B.1 aE).2;refine .inr ⟨?_,?_⟩
   .have m1:=cL s1 hl;have m2:=cY s1 h0;show _<=s*s;exact b9 a1 (b9 m1 (by rw[fV s];rw[fV (jh x).lo.q s];exact m2))
   .have m1:=cL s2 h0;have m2:=cY s2 (b9 h0 s2);exact b9 (b9 m1 m2) b1
 .exact .inl rfl
def KD{x:Iv}(hx:x.ik){p:Nat}(hp:1<=p)(ij:p<=4096):(oY x p).ik:=by
 cases xa:x.all
 .have h1:=PW hx hp ij hx.A5;unfold oY at h1 ⊢;rw[AJ,xa]at h1 ⊢;simp only[bS,bJ]at h1 ⊢;unfold kX at h1 ⊢;split
  .exact mD
  .rename_i he;rw[bu he]at h1;obtain⟨h2,h3⟩:=h1.kp rfl;refine .inr ⟨rfl,uq _ hp ij _,uq _ hp ij _,?_⟩;rw[qL];exact b9 h2 h3
 .unfold oY;rw[AJ,xa];exact mD
def pS.sqr{f:Nat->Rat}{X:Iv}(hx:X.ik)(h:pS f X){p:Nat}(hp:1<=p)(ij:p<=4096):pS (λN=>f N*f N) (oY X p):=by
 cases xa:X.all
 .intro ε hε;obtain⟨B,hB⟩:∃ B,B=jm X.lo.q+jm X.hi.q+1:=⟨_,rfl⟩
  have a0:=np X.lo.q;have b0:=np X.hi.q;have hB1:1<=B:= aP ;have ME:0<2*B:= aP ;obtain⟨δ,hδ⟩:∃ δ,δ=min 1 (ε/(2*B)):=⟨_,rfl⟩
  have hεB:0<ε/(2*B):=by rw[cX];exact eC hε (fY.2 ME)
  have U4:0<δ:=by rw[hδ];grind
  have hδ1:δ<=1:=by rw[hδ];grind
  have hδ2:δ*(2*B)<=ε:=by
   have h1:δ<=ε/(2*B):=by rw[hδ];grind
   have h2:=cL h1 (bZ ME);rwa[dN aP]at h2
  obtain⟨N0,h0⟩:=h δ U4;refine⟨N0,λN hN=>?_⟩;obtain⟨r,hr,hd⟩:=h0 N hN;refine⟨r*r,PW hx hp ij hr,?_⟩;obtain⟨r1,r2⟩:=hr.kp xa;rw[show f N*f N-r*r=(f N-r)*(f N+r)by grind,y3];have hs:jm (f N+r)<=2*B:=by
   obtain⟨_,c2,c3,_⟩:=np (f N-r);exact yZ aP aP 
  have h3:=cY hs (np (f N-r)).1;have h4:=cL hd (bZ ME)
  grind
 .exact pS.all (by unfold oY;rw[AJ,xa];rfl)
def aah(r:Rat):∀ ε,0<ε->∃ N0,∀ N,N0<=N->jm (EQ r N-EQ (r*P2 (-1)) N*EQ (r*P2 (-1)) N)<=ε:=by
 intro ε hε;have e:r*P2 (-1)+r*P2 (-1)=r:=by
  have:P2 (-1)=1/2:= aQ ;rw[this];grind
 have:=Lb (r*P2 (-1)) (r*P2 (-1)) hε;rwa[e]at this
def ahC{r:Rat}{X:Iv}(hx:X.ik)(h:pS (EQ (r*P2 (-1))) X){p:Nat}(hp:1<=p)(ij:p<=4096):pS (EQ r) (oY X p):=(h.sqr hx hp ij).shift (aah r)
def amq{y:Iv}{n:Int}(h:Sub y (pU n)):(mX y (-1)).all=true\/Sub (mX y (-1)) (pU (n-1)):=by
 obtain⟨ya,k1,k2⟩:=h.xp rfl;replace k1:(iU (qn n)).q<=y.lo.q:=k1;replace k2:y.hi.q<=(qn n).q:=k2;rw[pz,qV]at k1;rw[qV]at k2;unfold mX kX;rw[ya];simp only[bS,bJ];split
 .exact .inl rfl
 .rename_i he;have e:P2 (n-1)=P2 n*P2 (-1):=by rw[<-qF];congr 1
  refine .inr (.inr ⟨rfl,?_,?_⟩)
  .show (iU (qn (n-1))).q<=(tJ y.lo (-1)).q;rw[pz,qV,BD aE,e,<-gK,wu];exact k1
  .show (tJ y.hi (-1)).q<=(qn (n-1)).q;rw[qV,BD aE,e,wu];exact k2
def tO(z:Rat)(k:Nat):Rat:=nW z (2*k+1)/((2*k+1:Nat):Rat)
def AQ(z:Rat)(N:Nat):Rat:=iW (tO z) (N+1)
def oC(z:Iv)(p:Nat):Nat->Iv
 | 0=>z
 |k+1=>jt (oC z p k) (oY z p) p
def uX(z:Iv)(p:Nat):Nat->Iv
 | 0=>z
 |k+1=>kI (uX z p k) (jT (oC z p (k+1)) (iS ((2*k+3:Nat):Int)) p) p
noncomputable def Eg(z:Iv)(p N:Nat):Iv:=mX (kI (uX z p N) (q8 (oC z p N)) p) 1
def yB{z:Iv}(hz:z.ik){p:Nat}(iw:8<=p)(ij:p<=512):∀ k,(oC z p k).ik
 | 0=>hz
 |_+1=>pn _ _ aE aE 
def CA{z:Iv}(hz:z.ik){p:Nat}(iw:8<=p)(ij:p<=512):∀ k,(uX z p k).ik
 | 0=>hz
 |k+1=>qG (CA hz iw ij k) (tV _ _ aE aE) aE aE 
def ahy{z:Iv}(hz:z.ik){p:Nat}(iw:8<=p)(ij:p<=512)(N:Nat):(Eg z p N).ik:=G7 (qG (CA hz iw ij N) (Di (yB hz iw ij N)) aE aE) 1
def PB(r:Rat)(k:Nat):nW r (2*(k+1)+1)=nW r (2*k+1)*(r*r):=by
 show nW r (2*k+1)*r*r=_
 grind
def N6{z:Iv}{r:Rat}(hz:z.ik)(h:z.ki r){p:Nat}(iw:8<=p)(ij:p<=512):∀ k,(oC z p k).ki (nW r (2*k+1))
 | 0=>by
  have e:nW r (2*0+1)=r:=by show 1*r=r;grind
  rw[e];exact h
 |k+1=>by
  rw[PB];exact Ol (yB hz iw ij k) (KD hz aE aE) aE aE (N6 hz h iw ij k) (PW hz aE aE h)
def VA{z:Iv}{r:Rat}(hz:z.ik)(h:z.ki r){p:Nat}(iw:8<=p)(ij:p<=512):∀ k,k<1000000->(uX z p k).ki (AQ r k)
 | 0,_=>by
  have e:AQ r 0=r:=by
   show 0+1*r/((2*0+1:Nat):Rat)=r;have:((2*0+1:Nat):Rat)=1:=rfl;rw[this,cX,show(1:Rat)⁻¹=1 by decide +kernel];grind
  rw[e];exact h
 |k+1,hk=>AK (CA hz iw ij k) (tV _ _ aE aE) aE aE (VA hz h iw ij k aE)
  (ID (yB hz iw ij (k+1)) (OB (2*k+3) aE) aE aE (N6 hz h iw ij (k+1)) (WH (2*k+3)))
def Lj(r:Rat):∀ n,jm (nW r n)=nW (jm r) n
 | 0=>by show jm 1=1;decide +kernel
 |n+1=>by simp only[nW];rw[y3,Lj r n]
def aax(r:Rat)(k:Nat):jm (tO r k)<=nW (jm r) (2*k+1):=by
 unfold tO;have hp:(0:Rat)<((2*k+1:Nat):Rat):=Bo (2*k);have h1:(1:Rat)<=((2*k+1:Nat):Rat):=by
  have:=dF (a:=1) (b:=2*k+1);exact this.2 aE 
 have h0:=C0 (np r).1 (2*k+1);rw[cX,y3,Lj];have hi:=fY.2 hp;have e:jm (((2*k+1:Nat):Rat)⁻¹)=((2*k+1:Nat):Rat)⁻¹:=by unfold jm;rw[bw (bZ hi)]
 rw[e,<-cX];have x0:=Sh h0 hp;have xc:=dN (a:=nW (jm r) (2*k+1)) (b:=((2*k+1:Nat):Rat)) aP;generalize nW (jm r) (2*k+1)/((2*k+1:Nat):Rat)=x at *
 have:=cY h1 x0
 grind
def QO{r:Rat}(hr:jm r*2<=1)(N:Nat):∀ d,iW (λi=>jm (tO r (N+1+i))) d+nW (jm r) (2*(N+d)+1)<=nW (jm r) (2*N+1)
 | 0=>by simp only[iW,bT];grind
 |d+1=>by
  have ih:=QO hr N d;have h1:=aax r (N+1+d);have e:2*(N+1+d)+1=2*(N+d+1)+1:= aE ;rw[e,PB]at h1;have e2:2*(N+(d+1))+1=2*(N+d+1)+1:= aE ;rw[e2,PB,iW];have h0:=C0 (np r).1 (2*(N+d)+1);have hz:=(np r).1;have hs:jm r*jm r*4<=1:=by
   have m:=cY hr (show 0<=jm r*2 by grind)
   grind
  generalize nW (jm r) (2*(N+d)+1)=u at *
  generalize jm r*jm r=v at *
  have m2:=cY hs h0
  grind
def ahx{z:Iv}{r:Rat}(hz:z.ik)(h:z.ki r)(hr:jm r*2<=1){p:Nat}(iw:8<=p)(ij:p<=512){N:Nat}(hN:N<=1000):∀ M,N<=M->(Eg z p N).ki (AQ r M*2):=by
 intro M hM;obtain⟨d,rfl⟩:∃ d,M=N+d:=⟨M-N,aE⟩
 have e1:AQ r (N+d)=AQ r N+iW (λi=>tO r (N+1+i)) d:=by
  unfold AQ;rw[(aE:N+d+1=N+1+d),EP]
 have t:=QO hr N d;have b1:=De (λi=>tO r (N+1+i)) d;have p0:=C0 (np r).1 (2*(N+d)+1);have e2:P2 1=2:= aQ ;rw[<-e2,e1];refine PI (AK (CA hz iw ij N) (Di (yB hz iw ij N)) aE aE (VA hz h iw ij N aE) (QN (yB hz iw ij N) (N6 hz h iw ij N) ?_)) 1;rw[Lj];grind
def am2{z:Iv}(hz:z.ik)(h:Sub z (pU (-1))){p:Nat}(iw:8<=p)(ij:p<=512):Sub (oY z p) (pU (-1)):=by
 obtain⟨za,k1,k2⟩:=h.xp rfl;replace k1:(iU (qn (-1))).q<=z.lo.q:=k1;replace k2:z.hi.q<=(qn (-1)).q:=k2;have e:P2 (-1)=1/2:= aQ ;rw[pz,qV,e]at k1;rw[qV,e]at k2;have hl:=Qv za;have ha:(jh z).ik:=E6 hz;have hq:=ha.q;have hh:(jh z).hi.q<=1/2:=by
  unfold jh;rw[za];show(kS z).q<=1/2;obtain⟨_,_,m⟩:=CC hz.q;have:=hz.q;rcases m with m|m<;>grind
 have G1:=AG (p:=p) aE (n:=-1) aG aG;have A:=xD (AP (jh z).lo (jh z).lo) (p:=p) aE aE;have B:=u9 (AP (jh z).hi (jh z).hi) (p:=p) aE aE;rw[Es]at A B;rw[e]at G1;have iQ:0<=(jh z).lo.q*(jh z).lo.q:=cv hl hl;have hhi:(jh z).hi.q*(jh z).hi.q<=1/2:=by
  have h0:0<=(jh z).hi.q:=b9 hl hq;have m:=cY hh h0
  grind
 have a1:=A.2 (-(1/2)) G1.neg aP;have b1:=B.2 (1/2) G1 hhi;unfold oY kX;rw[AJ,za];simp only[bS,bJ];rw[bu aE];refine .inr ⟨rfl,?_,?_⟩
 .show (iU (qn (-1))).q<=_;rw[pz,qV,e];exact a1.2
 .show _<=(qn (-1)).q;rw[qV,e];exact b1.2
def Vz{z:Iv}(hz:z.ik)(h:Sub z (pU (-1))){p:Nat}(iw:8<=p)(ij:p<=512):∀ k,k<=900->Sub (oC z p k) (pU (-((k+1:Nat):Int)))
 | 0,_=>h
 |k+1,hk=>by
  have ih:=Vz hz h iw ij k aE;have sq:=am2 hz h iw ij;have vT:=yB hz iw ij k;obtain⟨ta,_⟩:=ih.xp rfl;obtain⟨ya,_⟩:=sq.xp rfl;exact Fa (Oj vT (KD hz aE aE) ta ya (aE:1<=p) aE) aE aE aE (by
   rintro r ⟨a,b,ha,hb,rfl⟩;obtain⟨a1,a2⟩:=Dk.1 (ih.ki ha);obtain⟨b1,b2⟩:=Dk.1 (sq.ki hb);rw[<-T4];exact Qy a1 a2 b1 b2)
def ahz{z:Iv}(hz:z.ik)(h:z.all=true\/Sub z (pU (-1))){p:Nat}(iw:8<=p)(ij:p<=512):∃ N,N<=1000/\(∀ x,x<N->pf (oC z p x) p=false)/\pf (oC z p N) p=true:=by
 have ex:∃ x,x<900/\pf (oC z p x) p=true:=by
  rcases h with h|h
  .exact ⟨0,aE,by show pf z p=true;unfold pf;rw[h];rfl⟩
  .exact ⟨p,aE,Zz (yB hz iw ij _) (Vz hz h iw ij p aE)⟩
 obtain⟨N,n1,n2,n3⟩:=rj ex;exact⟨N,aE,n3,n2⟩
def aaM{a b:Rat}(h:a<=b)(k:Nat):tO a k<=tO b k:=by
 unfold tO;rw[cX,cX];exact cL (PA aE h) (bZ (fY.2 (Bo (2*k))))
def Hu{a b:Rat}(h:a<=b)(N:Nat):AQ a N<=AQ b N:=C7 _ λk _=>aaM h k
def GP{d:Dy}(h:d.m≠0):jm d.q<P2 d.iE:=by
 have hT:d.iE=(iq d.m:Int)+d.e:=by unfold Dy.iE;rw[bu h]
 have h1:(d.m:Rat)<((2^iq d.m:Nat):Rat):=Rat.natCast_lt_natCast.2 (pK d.m);have h2:=eF h1 (nO d.e);rw[<-vv,<-qF]at h2;have h0:0<=(d.m:Rat)*P2 d.e:=cv di (bZ (nO _));have h4:jm d.q=(d.m:Rat)*P2 d.e:=by
  rw[qX];unfold jm;cases d.neg
  .simp only[bS,bJ];rw[bw h0]
  .simp only[bQ];split<;>grind
 rw[h4,hT];exact h2
def O5{d:Dy}(h:d.m≠0):P2 (d.iE-1)<=jm d.q:=by
 have hT:d.iE=(iq d.m:Int)+d.e:=by unfold Dy.iE;rw[bu h]
 have hb:0<iq d.m:=tD.2 (by rw[cw];omega);have h1:2^(iq d.m-1)<=d.m:=tD.1 aE;have h2:((2^(iq d.m-1):Nat):Rat)<=(d.m:Rat):=dF.2 h1;have h3:=cL h2 (bZ (nO d.e));rw[<-vv,<-qF,show((iq d.m-1:Nat):Int)+d.e=d.iE-1 by rw[hT];omega]at h3;have h4:jm d.q=(d.m:Rat)*P2 d.e:=by
  have h0:0<=(d.m:Rat)*P2 d.e:=cv di (bZ (nO _));rw[qX];unfold jm;cases d.neg
  .simp only[bS,bJ];rw[bw h0]
  .simp only[bQ];split<;>grind
 rw[h4];exact h3
def Ep{d:Dy}(h:0<d.q):d.m≠0:=λe=>by
 have:d.q=0:=by rw[qX,e];simp
 grind
def H9{r:Rat}(h:0<r):jm r=r:=by unfold jm;rw[bw (bZ h)]
def wq(d:Dy):Rat:=d.q*P2 (-d.iE)
def AF(d:Dy):Rat:=(wq d-1)/(wq d+1)
def Qo(k:Int):P2 k*P2 (-k)=1:=by rw[<-qF,(aE:k + -k=0),Le]
def Wb{d:Dy}(h:0<d.q):1/2<=wq d/\wq d<1:=by
 have h1:=O5 (Ep h);have h2:=GP (Ep h);rw[H9 h]at h1 h2;have hp:=nO (-d.iE);have e1:=Qo d.iE;have e2:P2 (d.iE-1)*P2 (-d.iE)=1/2:=by
  rw[<-qF,(aE:d.iE-1 + -d.iE = -1)];decide +kernel
 have m1:=cL h1 (bZ hp);have m2:=eF h2 hp;unfold wq;constructor<;>grind
def Mx{a b:Rat}(ha:0<=a)(h:a<=b):(a-1)/(a+1)<=(b-1)/(b+1):=by
 have h1:0<a+1:= aP ;have h2:0<b+1:= aP ;have e1:=dN (a:=a-1) (b:=a+1) aP;have e2:=dN (a:=b-1) (b:=b+1) aP;generalize (a-1)/(a+1)=x at *
 generalize (b-1)/(b+1)=y at *
 apply dP.1;intro iL;have m1:=eF iL h1;have hy:y<1:=by
  apply Rat.not_le.1;intro hle;have:=cL hle (bZ h2)
  grind
 have m2:=cY h (show 0<=1-y by grind)
 grind
def Qh{d:Dy}(h:0<d.q):-(1/3)<=AF d/\AF d<=0:=by
 obtain⟨h1,h2⟩:=Wb h;have a:=Mx (show(0:Rat)<=1/2 by decide +kernel) h1;have b:=Mx (show 0<=wq d by grind) (bZ h2);have e1:((1:Rat)/2-1)/(1/2+1) = -(1/3):= aQ ;have e2:((1:Rat)-1)/(1+1)=0:= aQ ;rw[e1]at a;rw[e2]at b;exact⟨a,b⟩
def K8(z:Rat)(N:Nat):AQ (-z) N = -AQ z N:=by
 have:∀ n,iW (tO (-z)) n = -iW (tO z) n:=by
  intro n
  induction n with
  |zero=>simp[iW]
  |succ n ih=>
   rw[iW,iW,ih];have:tO (-z) n = -tO z n:=by
    unfold tO;rw[CZ,bu aE];simp only[cX];grind
   rw[this];grind
 exact this _
def Qi(N:Nat):AQ 0 N=0:=by
 have:=K8 0 N;rw[show -(0:Rat)=0 by decide +kernel]at this
 grind
def aaf(N:Nat):0<=AQ (1/3) N:=by
 have:=Hu (show(0:Rat)<=1/3 by decide +kernel) N;rwa[Qi]at this
def LQ(d:Dy)(N:Nat):Rat:=AQ (AF d) N*2+(d.iE:Rat)*(AQ (1/3) N*2)
def an3{a b:Dy}(ha:0<a.q)(h:a.q<=b.q):a.iE<=b.iE:=by
 have hb:0<b.q:= aP ;have h1:=O5 (Ep ha);have h2:=GP (Ep hb);rw[H9 ha]at h1;rw[H9 hb]at h2;apply ca;intro iL;have:=EX (aE:b.iE<=a.iE-1)
 grind
def aao{a b:Dy}(ha:0<a.q)(h:a.q<=b.q)(N:Nat):LQ a N<=LQ b N:=by
 have hb:0<b.q:= aP ;have ht:=an3 ha h;obtain⟨a1,a2⟩:=Qh ha;obtain⟨b1,b2⟩:=Qh hb;have c0:=aaf N;unfold LQ;rcases Int.lt_or_eq_of_le ht with iL|heq
 .have k1:=Hu a2 N;rw[Qi]at k1;have k2:=Hu b1 N;rw[K8]at k2;have k3:(a.iE:Rat)+1<=(b.iE:Rat):=by
   have:=gI (a:=a.iE+1) (b:=b.iE);have:=this.2 aE;rwa[Rat.intCast_add]at this
  have k4:=cL k3 (show 0<=AQ (1/3) N*2 by grind)
  grind
 .have hm:wq a<=wq b:=by
   unfold wq;rw[heq];exact cL h (bZ (nO _))
  have hz:AF a<=AF b:=Mx (by have:=(Wb ha).1;grind) hm;have:=Hu hz N;rw[heq]
  grind
def aap(N:Nat):LQ ⟨false,1,0⟩ N=0:=by
 have e1:AF ⟨false,1,0⟩ = -(1/3):= aQ ;have e2:((⟨false,1,0⟩:Dy).iE:Rat)=1:= aQ ;unfold LQ;rw[e1,e2,K8];grind
noncomputable def uh(d:Dy)(p:Nat):Iv:=mX (mu (mi d) p) (-d.iE)
noncomputable def Eh(d:Dy)(p:Nat):Iv:=jT (kI (uh d p) (iS (-1)) p) (kI (uh d p) (iS 1) p) p
def ZD{d:Dy}(hd:d.ik)(h:d.m≠0):-16384<=d.iE-1/\d.iE<=16384:=by
 have hT:d.iE=(iq d.m:Int)+d.e:=by unfold Dy.iE;rw[bu h]
 have hb:0<iq d.m:=tD.2 (by rw[cw];omega);have h1:=hd.range;unfold oB at h1;have h2:=hd.exp;constructor
 .omega
 .rw [hT]
  first|omega|(rcases h1 with h1|h1<;>first|omega|exact absurd h1 h)
def alO{d:Dy}(hd:d.ik)(h:0<d.q){p:Nat}(iw:8<=p)(ij:p<=512)(ha:(mu (mi d) p).all=false):P2 (d.iE-1)<=(mu (mi d) p).lo.q/\(mu (mi d) p).hi.q<=P2 d.iE:=by
 have hm:=Ep h;obtain⟨t1,t2⟩:=ZD hd hm;have q1:=O5 hm;have q2:=GP hm;rw[H9 h]at q1 q2;have A:=xD hd.canon (p:=p) aE aE;have B:=u9 hd.canon (p:=p) aE aE;have G1:G p (P2 (d.iE-1)):=.inl ⟨1,d.iE-1,by rw[xR];omega,t1,by rw[xR];omega,aK⟩;have he:¬(jx d p false≠0\/jx d p true≠0):=by
  intro hc;unfold mu kX at ha;rw[show(mi d).all=false from rfl]at ha;simp only[bS,bJ]at ha;rw[bw (show jx (mi d).lo p false≠0\/jx (mi d).hi p true≠0 from hc)]at ha;cases ha
 have e1:(mu (mi d) p).lo=jf d p false/\(mu (mi d) p).hi=jf d p true:=by
  unfold mu kX;rw[show(mi d).all=false from rfl];simp only[bS,bJ];rw[bu (show ¬(jx (mi d).lo p false≠0\/jx (mi d).hi p true≠0)from he)];exact⟨rfl,rfl⟩
 rw[e1.1,e1.2];refine⟨(A.2 _ G1 q1).2,?_⟩;by_cases ht:d.iE<=16383
 .have G2:G p (P2 d.iE):=.inl ⟨1,d.iE,by rw[xR];omega,aE,by rw[xR];omega,aK⟩;exact(B.2 _ G2 (bZ q2)).2
 .obtain ⟨g,_⟩:=B.1 aE ;have UE:0<=(jf d p true).q:=b9 (bZ h) (B.1 aE).2;obtain⟨m,e,hb,_,hr,hv⟩:=g.pos UE;rw[hv];have h1:(m:Rat)<=((2^iq m:Nat):Rat):=dF.2 (dE (pK m));have h2:=cL h1 (bZ (nO e));rw[<-vv,<-qF]at h2;exact b9 h2 (EX aE)
def ahU{d:Dy}(hd:d.ik){p:Nat}(iw:8<=p)(ij:p<=512):(uh d p).ki (wq d):=PI (G4 (uo hd) aE aE (OW d)) _
def ahW{d:Dy}(hd:d.ik){p:Nat}(iw:8<=p)(ij:p<=512):(uh d p).ik:=G7 (ED (uo hd) aE aE) _
def ahV{d:Dy}(hd:d.ik)(h:0<d.q){p:Nat}(iw:8<=p)(ij:p<=512)(ha:(uh d p).all=false):1/2<=(uh d p).lo.q/\(uh d p).hi.q<=1:=by
 unfold uh mX at ha ⊢;cases ra:(mu (mi d) p).all
 .rw [ra]at ha;obtain⟨h1,h2⟩:=alO hd h iw ij ra;simp only[bS,bJ]at ha ⊢;unfold kX at ha ⊢;split
  .rename_i he;rw[bw he]at ha;cases ha
  .rename_i he;have e1:=Qo d.iE;have e2:P2 (d.iE-1)*P2 (-d.iE)=1/2:=by
    rw[<-qF,(aE:d.iE-1 + -d.iE = -1)];decide +kernel
   refine⟨?_,?_⟩
   .show 1/2<=(tJ _ _).q;rw[BD aE,<-e2,wu];exact h1
   .show (tJ _ _).q<=1;rw[BD aE,<-e1,wu];exact h2
 .rw [ra]at ha;cases ha
def agd{a b:Rat}(h1:-(1/2)<=a)(h2:a<=1/2)(hb:1<=b):-(1/2)<=a/b/\a/b<=1/2:=by
 have e:=dN (a:=a) (b:=b) aP;generalize a/b=x at *
 constructor
 .apply dP.1;intro iL;have:=eF iL (show 0<b by grind)
  grind
 .apply dP.1;intro iL;have:=eF iL (show 0<b by grind)
  grind
def ahX{d:Dy}(hd:d.ik)(h:0<d.q){p:Nat}(iw:8<=p)(ij:p<=512):(Eh d p).ik/\(Eh d p).ki (AF d)/\((Eh d p).all=true\/Sub (Eh d p) (pU (-1))):=by
 have vM:=ahW hd iw ij;have hM:=ahU hd iw ij;have vn:(iS (-1)).ik:=wA aG;have v1:(iS 1).ik:=wA aG;have vA:(kI (uh d p) (iS (-1)) p).ik:=qG vM vn aE aE;have vB:(kI (uh d p) (iS 1) p).ik:=qG vM v1 aE aE;have e1:((-1:Int):Rat) = -1:= aQ ;have e2:((1:Int):Rat)=1:= aQ ;have hA:=AK vM vn (p:=p) aE aE hM (Ah (-1));have hB:=AK vM v1 (p:=p) aE aE hM (Ah 1);rw[e1,show wq d + -1=wq d-1 by grind]at hA;rw[e2]at hB;refine⟨tV _ _ aE aE,ID vA vB aE aE hA hB,?_⟩;cases ma:(uh d p).all
 .right;obtain⟨m1,m2⟩:=ahV hd h iw ij ma;have one:∀ (n:Int) r,(iS n).ki r->r=(n:Rat):=λn r hr=>by
   obtain⟨r1,r2⟩:=hr.kp rfl;replace r1:(jo n).q<=r:=r1;replace r2:r<=(jo n).q:=r2;rw[yL]at r1 r2;exact eE r2 r1
  have g1:G p (1/2):=by have:=AG (p:=p) aE (n:=-1) aG aG;rwa[show P2 (-1)=1/2 by decide +kernel]at this
  have g2:G p 1:=by have:=AG (p:=p) aE (n:=0) aG aG;rwa[Le]at this
  have g4:G p 2:=by have:=AG (p:=p) aE (n:=1) aG aG;rwa[show P2 1=2 by decide +kernel]at this
  obtain⟨aa,a1,a2⟩:=(Ll vM vn ma rfl (aE:1<=p) aE).yA (-(1/2)) (1/2) g1.neg g1 (by
   rintro r ⟨a,b,ha,hb,rfl⟩;obtain⟨b1,b2⟩:=ha.kp ma;rw[one _ b hb,e1];constructor<;>grind)
  obtain⟨ba,b1,b2⟩:=(Ll vM v1 ma rfl (aE:1<=p) aE).yA 1 2 g2 g4 (by
   rintro r ⟨a,b,ha,hb,rfl⟩;obtain⟨b1,b2⟩:=ha.kp ma;rw[one _ b hb,e2];constructor<;>grind)
  refine Fa (IC vA vB aa (PR ba (.inl aP)) (aE:1<=p) aE) aE aG aG ?_;rintro r ⟨a,b,ha,hb,rfl⟩;obtain⟨x1,x2⟩:=ha.kp aa;obtain⟨y1,y2⟩:=hb.kp ba;rw[show P2 (-1)=1/2 by decide +kernel];exact agd aP aP aP 
 .left;show(jT (kI (uh d p) (iS (-1)) p) (kI (uh d p) (iS 1) p) p).all=true;rw[Ia p (.inl ma),Fl p (.inl rfl)];rfl
def aeI{d:Dy}(hd:d.ik)(h:d.m≠0){p:Nat}(iw:8<=p)(ij:p<=512){n:Int}(h1:d.iE<=n)(h2:-1000<=n)(h3:n<=1000):Sub (mu (mi d) p) (pU n):=by
 refine alN (uo hd) aE aE h2 h3 (.inr ⟨rfl,?_,?_⟩)
 .show (iU (qn n)).q<=d.q;rw[pz,qV];have:=GP h;have hl:=EX h1;obtain⟨_,a2,a3,_⟩:=np d.q
  grind
 .show d.q<=(qn n).q;rw[qV];have:=GP h;have hl:=EX h1;obtain⟨_,a2,a3,_⟩:=np d.q
  grind
def Z0(y:Iv)(p n:Nat)(x:Nat):PS:=⟨32,true,[(7,.e (iP ((x+1:Nat):Int))),(6,.box 6 0),(5,.box 5 0),(4,.box 4 0),(3,.box 3 0),(2,.box 2 0)],[(6,.cells 46 (iZ (tW y p x))),(5,.cells 46 (iZ (lX y p x))),(4,.cells 46 au),(3,.cells 46 (iZ y)),(2,.cells 257 [iP p])]⟩
def ahE{f:Nat->Rat}{X Y:Iv}(h:pS f X)(k:∀ r,X.ki r->Y.ki r):pS f Y:=λε hε=>by
 obtain⟨N0,h0⟩:=h ε hε;exact⟨N0,λN hN=>by obtain⟨r,h1,h2⟩:=h0 N hN;exact⟨r,k r h1,h2⟩⟩
def Vi{x:Iv}(hx:x.ik)(ha:x.all=true):x=iu:=by
 obtain⟨h1,h2⟩:=NQ hx ha;obtain⟨a,b,c⟩:=x;simp only at h1 h2 ha;rw[h1,h2,ha];rfl
def aa1(x:Iv)(hx:x.ik)(xa:x.all=true)(k:Int)(k1:-32768<=k)(k2:k<=32768):gZ 344 [ig x,iP k] (ig (mX x k)):=
 ak call344 func344 (ae [.o 10 (.e (mP _):aj (.sl true 1 7 λi_ j_=>(iZ x).getD (i_*7+j_) (.v (.bool false))) (iA [x])),ag [iA [x]] (qj _ aF),ai 11 (!x.all) (by rw[xa];rfl),.c nS]<|rQ (ig iu) (ig (mX x k)) (by rw[show(mX x k)=iu by unfold mX;rw[bw xa]])) 
def aa2(x:Iv)(hx:x.ik)(xa:x.all=false)(k:Int)(k1:-32768<=k)(k2:k<=32768):gZ 344 [ig x,iP k] (ig (mX x k)):=by
 obtain⟨v1,v2⟩:=hx.kp;exact ak call344 func344 (ae [.o 10 (.e (mP _):aj (.sl true 1 7 λi_ j_=>(iZ x).getD (i_*7+j_) (.v (.bool false))) (iA [x])),ag [iA [x]] (qj _ aF),ah 11 (!x.all) (by rw[xa];rfl),.c (Q0 x.lo k aF aE aE),.c (Q0 x.hi k aF aE aE),.c (Cv (vF (canon x.lo.neg x.lo.m (x.lo.e+k))) (vF (canon x.hi.neg x.hi.m (x.hi.e+k))) (vG (canon x.lo.neg x.lo.m (x.lo.e+k))) (vG (canon x.hi.neg x.hi.m (x.hi.e+k))))]<|rQ (ig (kX (vF (canon x.lo.neg x.lo.m (x.lo.e+k))) (vG (canon x.lo.neg x.lo.m (x.lo.e+k))) (vF (canon x.hi.neg x.hi.m (x.hi.e+k))) (vG (canon x.hi.neg x.hi.m (x.hi.e+k))))) (ig (mX x k)) (by unfold mX;rw[bu (by rw[xa];decide)];simp only[amn,amo])) 
def Ig(x:Iv)(hx:x.ik)(k:Int)(k1:-32768<=k)(k2:k<=32768):gZ 344 [ig x,iP k] (ig (mX x k)):=by
 cases xa:x.all with
 |true=>exact aa1 x hx xa k k1 k2
 |false=>exact aa2 x hx xa k k1 k2
def aaZ(x:Iv)(hx:x.ik)(xa:x.all=true)(p:Nat)(iw:8<=p)(ij:p<=512):gZ 386 [ig x,iP p] (ig (mu x p)):=
 ak call386 func386 (ae [.o 10 (.e (mP _):aj (.sl true 1 7 λi_ j_=>(iZ x).getD (i_*7+j_) (.v (.bool false))) (iA [x])),ag [iA [x]] (qj _ aF),ai 11 (!x.all) (by rw[xa];rfl),.c nS]<|rQ (ig iu) (ig (mu x p)) (by rw[show(mu x p)=iu by unfold mu;rw[bw xa]])) 
def aa0(x:Iv)(hx:x.ik)(xa:x.all=false)(p:Nat)(iw:8<=p)(ij:p<=512):gZ 386 [ig x,iP p] (ig (mu x p)):=by
 obtain⟨v1,v2⟩:=hx.kp;exact ak call386 func386 (ae [.o 10 (.e (mP _):aj (.sl true 1 7 λi_ j_=>(iZ x).getD (i_*7+j_) (.v (.bool false))) (iA [x])),ag [iA [x]] (qj _ aF),ah 11 (!x.all) (by rw[xa];rfl),ag [iP p] (wi _),ah 15 (kC (p:Int)) (pe.2 ⟨aE,aE⟩),.c (Ih x.lo p aF aE aE),.c (Ii x.hi p aF aE aE),.c (Cv (jf x.lo p false) (jf x.hi p true) (jx x.lo p false) (jx x.hi p true))]<|rQ (ig (kX (jf x.lo p false) (jx x.lo p false) (jf x.hi p true) (jx x.hi p true))) (ig (mu x p)) (by unfold mu;rw[bu (by rw[xa];decide)])) 
def E8(x:Iv)(hx:x.ik)(p:Nat)(iw:8<=p)(ij:p<=512):gZ 386 [ig x,iP p] (ig (mu x p)):=by
 cases xa:x.all with
 |true=>exact aaZ x hx xa p iw ij
 |false=>exact aa0 x hx xa p iw ij
def aa3(x:Iv)(hx:x.ik)(xa:x.all=true)(p:Nat)(iw:8<=p)(ij:p<=512):gZ 402 [ig x,iP p] (ig (oY x p)):=by
 have ha:(jh x).all=true:=by rw[AJ,xa]
 exact ak call402 func402 (ae [.c (NO x aF),ah 13 ((jh x).all) ha,.c nS]<|rQ (ig iu) (ig (oY x p)) (by unfold oY;rw[bw ha])) 
def aa4(x:Iv)(hx:x.ik)(xa:x.all=false)(p:Nat)(iw:8<=p)(ij:p<=512):gZ 402 [ig x,iP p] (ig (oY x p)):=by
 have ha:(jh x).all=false:=by rw[AJ,xa]
 have hv:=E6 hx;obtain⟨v1,v2⟩:=hv.kp;exact ak call402 func402 (ae [.c (NO x aF),ai 13 ((jh x).all) ha,ag [iP p] (wi _),ah 16 (kC (p:Int)) (pe.2 ⟨aE,aE⟩),.c (Ki ((jh x).lo) ((jh x).lo) p aF aF aE aE),.c (Kj ((jh x).hi) ((jh x).hi) p aF aF aE aE),.c (Cv (jf (mV ((jh x).lo) ((jh x).lo)) p false) (jf (mV ((jh x).hi) ((jh x).hi)) p true) (jx (mV ((jh x).lo) ((jh x).lo)) p false) (jx (mV ((jh x).hi) ((jh x).hi)) p true))]<|rQ (ig (kX (jf (mV ((jh x).lo) ((jh x).lo)) p false) (jx (mV ((jh x).lo) ((jh x).lo)) p false) (jf (mV ((jh x).hi) ((jh x).hi)) p true) (jx (mV ((jh x).hi) ((jh x).hi)) p true))) (ig (oY x p)) (by unfold oY;rw[bu (by rw[ha];decide)];rfl)) 
def QT(x:Iv)(hx:x.ik)(p:Nat)(iw:8<=p)(ij:p<=512):gZ 402 [ig x,iP (p:Int)] (ig (oY x p)):=by
 cases xa:x.all with
 |true=>exact aa3 x hx xa p iw ij
 |false=>exact aa4 x hx xa p iw ij
def QU(x:Iv)(hx:x.ik)(xa:x.all=true):gZ 165 [ig x] (.iC [ie jD,bP false]):=
 ak call165 func165 (af [.o 5 (.e (mP _):aj (.sl true 1 7 λi_ j_=>(iZ x).getD (i_*7+j_) (.v (.bool false))) (iA [x])),ag [iA [x]] (qj _ aF),ai 6 (!x.all) (by rw[xa];rfl),.o 8 (.e s7:aj (.agg ar) (ie jD))]) 
def xJ(n:Int)(h:n.natAbs<4294967296):gZ 384 [iP n] (ig (iS n)):=by
 have hv:=sA h;exact ak call384 func384 (af [ag [iP n] (q9 _ aE),.c (Cw (jo n) aF)]) 
def BK(p:Nat)(x y:Iv)(hx:x.ik)(hy:y.ik)(iw:8<=p)(ij:p<=512):gZ 389 [.agg [iP p],ig x,ig y] (ig (kI x y p)):=
 ak call389 func389 (af [.c (Ec x y p aF aF aE aE)]) 
def K1(p:Nat)(x y:Iv)(hx:x.ik)(hy:y.ik)(iw:8<=p)(ij:p<=512):gZ 391 [.agg [iP p],ig x,ig y] (ig (jt x y p)):=
 ak call391 func391 (af [.c (xo x y p aF aF aE aE)]) 
def Ho(p:Nat)(x y:Iv)(hx:x.ik)(hy:y.ik)(iw:8<=p)(ij:p<=512):gZ 388 [.agg [iP p],ig x,ig y] (ig (jT x y p)):=
 ak call388 func388 (af [.c (F7 x y p aF aF aE aE)]) 
def aoS(p:Nat)(x:Iv)(hx:x.ik)(xa:x.all=true)(iw:8<=p)(ij:p<=512):gZ 403 [.agg [iP p],ig x] (bP (pf x p)):=
 ak call403 func403 (ae [.c (QU x hx xa)]<|rQ (bP true) (bP (pf x p)) (by unfold pf;rw[xa];rfl)) 
def Zy{x:Iv}(xa:x.all=false)(p:Nat):pf x p=(((kS x).jb==0)||decide ((kS x).iE<=0-(p:Int))):=by
 unfold pf;rw[xa,eU];congr 1
 .unfold Dy.jb;by_cases h:(kS x).m=0
  .simp [h]
  .simp only[h,bJ,decide_false];split<;>rfl
 .rw [show(0:Int)-p = -(p:Int)by omega]
def aoT(p:Nat)(x:Iv)(hx:x.ik)(xa:x.all=false)(iw:8<=p)(ij:p<=512):gZ 403 [.agg [iP p],ig x] (bP (pf x p)):=by
 have hm:=xq hx.kp.1 hx.kp.2;exact ak call403 func403 (ae [.c (Ed x hx xa),ag [ie (kS x)] (pv _ aF)]<|.w ((Dy.jb (kS x))=0)
  (λk1=>ae [tB 17 (bk k1)]<|rQ (bP true) (bP (pf x p)) (by rw[Zy xa];simp[k1]))
  (λk1=>ae [tB 17 (bj k1),ag [ie (kS x)] (pj _ aF),iz (0-(p:Int)) aE]<|rQ (bP (decide ((Dy.iE (kS x))<=(0-(p:Int))))) (bP (pf x p)) (by rw[Zy xa];simp[k1]))) 
def K2(p:Nat)(x:Iv)(hx:x.ik)(iw:8<=p)(ij:p<=512):gZ 403 [.agg [iP p],ig x] (bP (pf x p)):=by
 cases xa:x.all with
 |true=>exact aoS p x hx xa iw ij
 |false=>exact aoT p x hx xa iw ij
def aoX(x:Iv)(hx:x.ik)(xa:x.all=true):gZ 404 [ig x] (ig (q8 x)):=
 ak call404 func404 (ae [.c (QU x hx xa),.c nS]<|rQ (ig iu) (ig (q8 x)) (by rw[show q8 x=iu by unfold q8;rw[bw xa];exact Vi hx xa])) 
def aoY(x:Iv)(hx:x.ik)(xa:x.all=false):gZ 404 [ig x] (ig (q8 x)):=by
 have hm:=xq hx.kp.1 hx.kp.2;exact ak call404 func404 (ae [.c (Ed x hx xa),ag [ie (kS x)] (xU _ aF)]<|rQ (ig (Iv.mk (iU (kS x)) (kS x) false)) (ig (q8 x)) (by unfold q8;rw[bu (by rw[xa];decide)];try rfl)) 
def Z9(x:Iv)(hx:x.ik):gZ 404 [ig x] (ig (q8 x)):=by
 cases xa:x.all with
 |true=>exact aoX x hx xa
 |false=>exact aoY x hx xa
def aoN(y:Iv)(p n:Nat)(hy:y.ik)(iw:8<=p)(ij:p<=512)(h2:n<=1000)(iQ:∀ x,x<n->pf (lX y p (x+1)) p=false)(hN:pf (lX y p (n+1)) p=true):gZ 401 [.agg [iP p],ig y] (ig (y9 y p (n+1))):=by
 have t0:=wG hy iw ij n;have s0:=Dz hy iw ij n;have t1:(jt (lX y p n) y p).ik:=pn _ _ aE aE;have n1:(iS ((n+1:Nat):Int)).ik:=CG _ aE;have t2:(jT (jt (lX y p n) y p) (iS ((n+1:Nat):Int)) p).ik:=tV _ _ aE aE;have a1:(kI (tW y p n) (jT (jt (lX y p n) y p) (iS ((n+1:Nat):Int)) p) p).ik:=qG s0 t2 aE aE;have r1:=Di t2;exact ak call401 func401 (ae [.c (xJ 1 aE),.c (xJ 1 aE),.s (Sp.jv (Z0 y p n) 0 n aE (λx hx jU=>by
    have t0:=wG hy iw ij x;have s0:=Dz hy iw ij x;have t1:(jt (lX y p x) y p).ik:=pn _ _ aE aE;have n1:(iS ((x+1:Nat):Int)).ik:=CG _ aE;have t2:(jT (jt (lX y p x) y p) (iS ((x+1:Nat):Int)) p).ik:=tV _ _ aE aE;exact iG (ae [.c (K1 p (lX y p x) y aF aF aE aE),.c (xJ ((x+1:Nat):Int) aE),.c (Ho p (jt (lX y p x) y p) (iS ((x+1:Nat):Int)) aF aF aE aE),.c (BK p (tW y p x) (jT (jt (lX y p x) y p) (iS ((x+1:Nat):Int)) p) aF aF aE aE),.c (K2 p (jT (jt (lX y p x) y p) (iS ((x+1:Nat):Int)) p) aF aE aE),ai 26 (pf (jT (jt (lX y p x) y p) (iS ((x+1:Nat):Int)) p) p) (iQ x aE),
     iz (((x+1:Nat):Int)+1) aE]<|.e (af [.b 6 (.iM rfl:Bx.le (.cells 46 (iZ (kI (tW y p x) (jT (jt (lX y p x) y p) (iS ((x+1:Nat):Int)) p) p))) (.cells 46 (iZ (tW y p (x+1))))),.b 5 (.iM rfl:Bx.le (.cells 46 (iZ (jT (jt (lX y p x) y p) (iS ((x+1:Nat):Int)) p))) (.cells 46 (iZ (lX y p (x+1)))))])) aI)
  (λhx=>by
    exact iG (af [.c (K1 p (lX y p n) y aF aF aE aE),.c (xJ ((n+1:Nat):Int) aE),.c (Ho p (jt (lX y p n) y p) (iS ((n+1:Nat):Int)) aF aF aE aE),.c (BK p (tW y p n) (jT (jt (lX y p n) y p) (iS ((n+1:Nat):Int)) p) aF aF aE aE),.c (K2 p (jT (jt (lX y p n) y p) (iS ((n+1:Nat):Int)) p) aF aE aE),ah 26 (pf (jT (jt (lX y p n) y p) (iS ((n+1:Nat):Int)) p) p) hN]) aI) aM:ju 4 f401 (Z0 y p n 0) (.exit 0) ⟨32,true,[(6,.box 6 0),(5,.box 5 0),(4,.box 4 0),(2,.box 2 0)],[(6,.cells 46 (iZ (kI (tW y p n) (jT (jt (lX y p n) y p) (iS ((n+1:Nat):Int)) p) p))),(5,.cells 46 (iZ (jT (jt (lX y p n) y p) (iS ((n+1:Nat):Int)) p))),(4,.cells 46 au),(2,.cells 257 [iP p])]⟩) (af [.o 7 (aq 1 ((0+1:Nat):Int) aT),.b 6 (.iM rfl:Bx.le (.cells 46 (iZ (iS 1))) (.cells 46 (iZ (tW y p 0)))),.b 5 (.iM rfl:Bx.le (.cells 46 (iZ (iS 1))) (.cells 46 (iZ (lX y p 0))))]),ag [ig (jT (jt (lX y p n) y p) (iS ((n+1:Nat):Int)) p)] (Z9 _ aF),.c (BK p (kI (tW y p n) (jT (jt (lX y p n) y p) (iS ((n+1:Nat):Int)) p) p) (q8 (jT (jt (lX y p n) y p) (iS ((n+1:Nat):Int)) p)) aF aF aE aE)]<|rR (ig (y9 y p (n+1))) (.iM rfl:E.le (ig (kI (kI (tW y p n) (jT (jt (lX y p n) y p) (iS ((n+1:Nat):Int)) p) p) (q8 (jT (jt (lX y p n) y p) (iS ((n+1:Nat):Int)) p)) p)) (ig (y9 y p (n+1))))) 
def aoO{y:Iv}(hy:y.ik)(hb:y.all=true\/Sub y (pU (-1))){p:Nat}(iw:8<=p)(ij:p<=512):∃ Z,Z.ik/\(∀ r,y.ki r->pS (EQ r) Z)/\gZ 401 [.agg [iP (p:Int)],ig y] (ig Z):=by
 obtain⟨N,h1,h2,h3,h4⟩:=aeN hy hb iw ij;obtain⟨n,rfl⟩:∃ n,N=n+1:=⟨N-1,aE⟩
 exact⟨y9 y p (n+1),aeM hy iw ij _,λr hr=>aeL hy hr hb iw ij h1 h2,aoN y p n hy iw ij aE (λx hx=>h3 (x+1) aE aE) h4⟩
def aoQ(y Z:Iv)(p:Nat)(agb:gZ 401 [.agg [iP (p:Int)],ig y] (ig Z)):gZ 387 [.agg [iP p],ig y,iP 0] (ig Z):=
 ak call387 func387 (af [ah 8 ((0:Int)==0) aG,ag [.agg [iP p],ig y] agb]) 
def aoP(y Z:Iv)(p n:Nat)(hy:y.ik)(hZ:Z.ik)(hn:n<=1000)(hH:gZ 387 [.agg [iP (p:Int)],ig (mX y (-1)),iP (n:Int)] (ig Z))(iw:8<=p)(ij:p<=512):gZ 387 [.agg [iP p],ig y,iP ((n+1:Nat):Int)] (ig (oY Z p)):=
 ak call387 func387 (af [ai 8 (((n+1:Nat):Int)==0) (nC aE),.c (Ig y aF (-1) aE aE),iz (((n+1:Nat):Int)-1) aE,.c (by rw[show(((n+1:Nat):Int)-1)=(n:Int)by omega];exact hH:gZ 387 [.agg [iP p],ig (mX y (-1)),iP (((n+1:Nat):Int)-1)] (ig Z)),ag [ig Z,iP p] (QT _ aF _ aE aE)]) 
def Z3{p:Nat}(iw:8<=p)(ij:p<=512):∀ (n:Nat) {y:Iv},n<=500->y.ik->(y.all=true\/Sub y (pU ((n:Int)-1)))->∃ Z,Z.ik/\(∀ r,y.ki r->pS (EQ r) Z)/\gZ 387 [.agg [iP (p:Int)],ig y,iP (n:Int)] (ig Z)
 | 0,y,_,hy,hb=>by
  obtain⟨Z,h1,h2,h3⟩:=aoO hy (by simpa using hb) iw ij;exact⟨Z,h1,h2,aoQ y Z p h3⟩
 |n+1,y,hn,hy,hb=>by
  have hs:=G7 hy (-1);have nu:(mX y (-1)).all=true\/Sub (mX y (-1)) (pU ((n:Int)-1)):=by
   rcases hb with hb|hb
   .left;unfold mX;rw[bw hb];rfl
   .have:=amq hb;rwa[show(((n+1:Nat):Int)-1-1)=(n:Int)-1 by omega]at this
  obtain⟨Z,h1,h2,h3⟩:=Z3 iw ij n aE hs nu;exact⟨oY Z p,KD h1 aE aE,λr hr=>ahC h1 (h2 _ (PI hr (-1))) aE aE,aoP y Z p n hy h1 aE h3 iw ij⟩
def Qd(p m:Nat)(h1:p<=512)(h2:m<=1000):gZ 385 [iP p,iP m] (.agg [iP ((min (p+m) 512:Nat):Int)]):=
 ak call385 func385 (af [iz ((p:Int)+m) aE,.o 8 (aq (if 512<((p+m:Nat):Int)then 512 else((p+m:Nat):Int)) ((min (p+m) 512:Nat):Int) aR)]) 
def apb(d:Dy)(p:Nat)(hd:d.ik)(h0:d.jb=0)(iw:8<=p)(ij:p<=512):gZ 367 [ie d,iP p] (ig (iS 1)):=
 ak call367 func367 (af [ag [ie d] (pv _ aF),ah 9 ((Dy.jb d)==0) (by rw[h0];rfl),.c (xJ 1 aE)]) 
def Hd{d:Dy}(hd:d.ik):-100000<=d.iE:=by
 unfold Dy.iE;have:=hd.exp;split<;>omega
def an5{d:Dy}(h:d.m=0):d.iE=0:=by unfold Dy.iE;rw[bw h]
def apa(d:Dy)(p:Nat)(Z:Iv)(hd:d.ik)(h0:d.jb≠0)(ht:d.iE<=100)(hZ:Z.ik)(hH:gZ 387 [.agg [iP (((min (p+(((d.iE+1).toNat)+24)) 512):Nat):Int)],ig (mu (mi d) (min (p+(((d.iE+1).toNat)+24)) 512)),iP ((((d.iE+1).toNat):Nat):Int)] (ig Z))(iw:8<=p)(ij:p<=512):gZ 367 [ie d,iP p] (ig (mu Z p)):=by
 have sw:-100000<=d.iE:=Hd hd;have vp:=uo hd;exact ak call367 func367 (af [ag [ie d] (pv _ aF),ai 9 ((Dy.jb d)==0) (by simpa using h0),ag [ie d] (pj _ aF),iz ((Dy.iE d)+1) aE,.o 14 (aq (if 0>((Dy.iE d)+1)then 0 else((Dy.iE d)+1)) ((d.iE+1).toNat:Int) aR),iz (((d.iE+1).toNat:Int)+24) aE,.c (Qd p (((d.iE+1).toNat)+24) aE aE),.c (Cw d aF),.c (E8 (mi d) aF (min (p+(((d.iE+1).toNat)+24)) 512) aE aE),ag [.agg [iP ((min (p+(((d.iE+1).toNat)+24)) 512:Nat):Int)],ig (mu (mi d) (min (p+(((d.iE+1).toNat)+24)) 512)),iP ((d.iE+1).toNat:Int)] hH,.c (E8 Z aF p aE aE)]) 
def amM{d:Dy}(h:d.jb≠0):d.m≠0:=λq=>h (by unfold Dy.jb;rw[bw q])
def aac{d:Dy}(hd:d.ik)(ht:d.iE<=100){p:Nat}(iw:8<=p)(ij:p<=512):∃ Z,Z.ik/\pS (EQ d.q) Z/\gZ 367 [ie d,iP (p:Int)] (ig Z):=by
 by_cases h0:d.jb=0
 .refine ⟨iS 1,wA aG,?_,apb d p hd h0 iw ij⟩;have hq:d.q=0:=by
   have h1:=tH d;rw[h0]at h1;have a:=h1.1.2;have b:=h1.2.2;have:¬0<d.q:=λq=>absurd (a q) aG 
   have:¬d.q<0:=λq=>absurd (b q) aG 
   grind
  rw[hq];exact pS.OI (k:=0) λN _=>by rw[aal];exact Ah 1
 .have hm:=amM h0;obtain⟨P,hP⟩:∃ P,P=min (p+((d.iE+1).toNat+24)) 512:=⟨_,rfl⟩
  have hb:=aeI hd hm (p:=P) aE aE (n:=((d.iE+1).toNat:Int)-1) aE aE aE;obtain⟨Z,h1,h2,h3⟩:=Z3 (p:=P) aE aE ((d.iE+1).toNat) aE (ED (uo hd) aE aE) (.inr hb);subst hP;refine⟨mu Z p,ED h1 aE aE,?_,apa d p Z hd h0 ht h1 h3 iw ij⟩;have hl:=h2 _ (G4 (uo hd) aE aE (OW d));exact ahE hl λr hr=>G4 h1 aE aE hr
def aaa(a b:Iv)(ha:a.ik)(hb:b.ik):gZ 366 [ig a,ig b] (ig (uF a b)):=
 ak call366 func366 (.w (a.all=true)
  (λk1=>ae [tB 6 k1,.c nS]<|rQ (ig iu) (ig (uF a b)) (by unfold uF;simp[k1]))
  (λk1=>ae [tB 6 (bn k1)]<|.w (b.all=true)
   (λk2=>ae [tB 9 k2,.c nS]<|rQ (ig iu) (ig (uF a b)) (by unfold uF;simp[k1,k2]))
   (λk2=>ae [tB 9 (bn k2)]<|rQ (ig (Iv.mk a.lo b.hi false)) (ig (uF a b)) (by unfold uF;simp[k1,k2])))) 
def tE(d:Dy):Bool:=decide (jK (lF d) (jo 1000)<=0)
def Hr(d:Dy)(hd:d.ik):gZ 365 [ie d] (bP (tE d)):=by
 have ha:=sj hd;have hi:(jo 1000).ik:=sA aG;exact ak call365 func365 (af [.c (Fo d aF),ag [iP 1000] (q9 _ aE),ag [ie (lF d),ie (jo 1000)] (o0 _ _ aF aF)]) 
def Db(x:Iv)(p:Nat)(hx:x.ik)(iw:8<=p)(ij:p<=512):gZ 364 [ig x,iP p] (bP (!x.all)):=
 ak call364 func364 (.w (x.all=true)
  (λk1=>ae [tB 6 k1]<|rQ (bP false) (bP (!x.all)) (by simp[k1]))
  (λk1=>ae [tB 6 (bn k1),.c (sS x aF),tT 14 (8<=(p:Int)) aE,tT 18 ((p:Int)<=512) aE]<|rQ (bP true) (bP (!x.all)) (by simp[k1]))) 
def aoZ(x:Iv)(p:Nat)(hx:x.ik)(iw:8<=p)(ij:p<=512)(xa:x.all=true):gZ 327 [ig x,iP p] (ig iu):=
 ak call327 func327 (af [.c (Db x p aF aE aE),ai 7 (!x.all) (by rw[xa];rfl),.c nS]) 
def ao2(x:Iv)(p:Nat)(hx:x.ik)(iw:8<=p)(ij:p<=512)(xa:x.all=false)(h1:tE x.lo=false):gZ 327 [ig x,iP p] (ig iu):=by
 obtain⟨w1,w2⟩:=hx.kp;exact ak call327 func327 (af [.c (Db x p aF aE aE),ah 7 (!x.all) (by rw[xa];rfl),.c (Hr x.lo aF),ai 12 (tE x.lo) h1,.c nS]) 
def ao0(x:Iv)(p:Nat)(hx:x.ik)(iw:8<=p)(ij:p<=512)(xa:x.all=false)(h1:tE x.lo=true)(h2:tE x.hi=false):gZ 327 [ig x,iP p] (ig iu):=by
 obtain⟨w1,w2⟩:=hx.kp;exact ak call327 func327 (af [.c (Db x p aF aE aE),ah 7 (!x.all) (by rw[xa];rfl),.c (Hr x.lo aF),ah 12 (tE x.lo) h1,.c (Hr x.hi aF),ai 18 (tE x.hi) h2,.c nS]) 
def ao1(x:Iv)(p:Nat)(hx:x.ik)(iw:8<=p)(ij:p<=512)(xa:x.all=false)(h1:tE x.lo=true)(h2:tE x.hi=true)(Z1 Z2:Iv)(z1:Z1.ik)(z2:Z2.ik)(k1:gZ 367 [ie x.lo,iP (p:Int)] (ig Z1))(k2:gZ 367 [ie x.hi,iP (p:Int)] (ig Z2)):gZ 327 [ig x,iP p] (ig (uF Z1 Z2)):=by
 obtain⟨w1,w2⟩:=hx.kp;exact ak call327 func327 (af [.c (Db x p aF aE aE),ah 7 (!x.all) (by rw[xa];rfl),.c (Hr x.lo aF),ah 12 (tE x.lo) h1,.c (Hr x.hi aF),ah 18 (tE x.hi) h2,ag [ie x.lo,iP p] k1,ag [ie x.hi,iP p] k2,.c (aaa Z1 Z2 aF aF)]) 
def V9{d:Dy}(hd:d.ik)(h:tE d=true):d.iE<=100:=by
 by_cases h0:d.m=0
 .rw [an5 h0];decide
 .unfold tE at h;rw[cS,qL,yL]at h;have hq:=yJ d;have ha:jm d.q<=P2 10:=by
   have:P2 10=1024:= aQ ;rw[this];have af6:((1000:Int):Rat)=1000:=rfl;rw[af6]at h;exact yZ aP aP 
  have:=ZC h0 ha;omega
def SN{a b:Iv}(ha:a.ik)(hb:b.ik)(h:a.all=false->b.all=false->a.lo.q<=b.hi.q):(uF a b).ik:=by
 unfold uF;cases xa:a.all
 .cases xb:b.all
  .exact .inr ⟨rfl,ha.kp.1,hb.kp.2,(qL _ _).2 (h xa xb)⟩
  .exact mD
 .exact mD
def Qc{x:Iv}(hx:x.ik){p:Nat}(iw:8<=p)(ij:p<=512):∃ Z,Z.ik/\gZ 327 [ig x,iP (p:Int)] (ig Z):=by
 cases xa:x.all with
 |true=>exact⟨iu,mD,aoZ x p hx iw ij xa⟩
 |false=>
  cases h1:tE x.lo with
  |false=>exact⟨iu,mD,ao2 x p hx iw ij xa h1⟩
  |true=>
   cases h2:tE x.hi with
   |false=>exact⟨iu,mD,ao0 x p hx iw ij xa h1 h2⟩
   |true=>
    obtain⟨w1,w2⟩:=hx.kp;obtain⟨Z1,z1,l1,k1⟩:=aac w1 (V9 w1 h1) iw ij;obtain⟨Z2,z2,l2,k2⟩:=aac w2 (V9 w2 h2) iw ij;exact⟨uF Z1 Z2,SN z1 z2 λa b=>ahD l1 l2 (λε hε=>aai hx.q hε) a b,ao1 x p hx iw ij xa h1 h2 Z1 Z2 z1 z2 k1 k2⟩
def Z4(z:Iv)(p N:Nat)(x:Nat):PS:=⟨39,true,[(8,.e (iP ((2*x+3:Nat):Int))),(7,.box 7 0),(6,.box 6 0),(5,.box 5 0),(4,.box 4 0),(2,.box 2 0)],[(7,.cells 46 (iZ (uX z p x))),(6,.cells 46 (iZ (oC z p x))),(5,.cells 46 (iZ (oY z p))),(4,.cells 46 au),(2,.cells 257 [iP p])]⟩
def aoR(z:Iv)(p N:Nat)(hz:z.ik)(iw:8<=p)(ij:p<=512)(h2:N<=1000)(iQ:∀ x,x<N->pf (oC z p x) p=false)(hN:pf (oC z p N) p=true):gZ 390 [.agg [iP p],ig z] (ig (Eg z p N)):=by
 have hsq:=KD hz (aE:1<=p) (aE:p<=4096);have t0:=yB hz iw ij N;have s0:=CA hz iw ij N;have r0:=Di t0;have a0:=qG s0 r0 (aE:1<=p) (aE:p<=4096);exact ak call390 func390 (ae [ag [ig z,iP p] (QT _ aF _ aE aE),.s (Sp.jv (Z4 z p N) 0 N aE (λx hx jU=>by
    have t0:=yB hz iw ij x;have s0:=CA hz iw ij x;have q0:(jt (oC z p x) (oY z p) p).ik:=pn _ _ aE aE;have n1:(iS ((2*x+3:Nat):Int)).ik:=CG _ aE;have d1:(jT (jt (oC z p x) (oY z p) p) (iS ((2*x+3:Nat):Int)) p).ik:=tV _ _ aE aE;exact iG (ae [.c (K2 p (oC z p x) aF aE aE),ai 17 (pf (oC z p x) p) (iQ x aE),.c (K1 p (oC z p x) (oY z p) aF aF aE aE),.c (xJ ((2*x+3:Nat):Int) aE),.c (Ho p (jt (oC z p x) (oY z p) p) (iS ((2*x+3:Nat):Int)) aF aF aE aE),.c (BK p (uX z p x) (jT (jt (oC z p x) (oY z p) p) (iS ((2*x+3:Nat):Int)) p) aF aF aE aE),iz (((2*x+3:Nat):Int)+2) aE]<|.e (af [.o 8 (aq (((2*x+3)+2:Nat):Int) ((2*(x+1)+3:Nat):Int) aT),.b 7 (.iM rfl:Bx.le (.cells 46 (iZ (kI (uX z p x) (jT (jt (oC z p x) (oY z p) p) (iS ((2*x+3:Nat):Int)) p) p))) (.cells 46 (iZ (uX z p (x+1))))),.b 6 (.iM rfl:Bx.le (.cells 46 (iZ (jt (oC z p x) (oY z p) p))) (.cells 46 (iZ (oC z p (x+1)))))])) aI)
  (λhx=>by
    have t0:=yB hz iw ij N;have s0:=CA hz iw ij N;have q0:(jt (oC z p N) (oY z p) p).ik:=pn _ _ aE aE;have n1:(iS ((2*N+3:Nat):Int)).ik:=CG _ aE;have d1:(jT (jt (oC z p N) (oY z p) p) (iS ((2*N+3:Nat):Int)) p).ik:=tV _ _ aE aE;exact iG (af [.c (K2 p (oC z p N) aF aE aE),ah 17 (pf (oC z p N) p) hN]) aI) aM:ju 4 f390 (Z4 z p N 0) (.exit 0) ⟨39,true,[(7,.box 7 0),(6,.box 6 0),(4,.box 4 0),(2,.box 2 0)],[(7,.cells 46 (iZ (uX z p N))),(6,.cells 46 (iZ (oC z p N))),(4,.cells 46 au),(2,.cells 257 [iP p])]⟩) (af [.o 8 (aq 3 ((2*0+3:Nat):Int) aT),.b 7 (.iM rfl:Bx.le (.cells 46 (iZ z)) (.cells 46 (iZ (uX z p 0)))),.b 6 (.iM rfl:Bx.le (.cells 46 (iZ z)) (.cells 46 (iZ (oC z p 0))))]),ag [ig (oC z p N)] (Z9 _ aF),.c (BK p (uX z p N) (q8 (oC z p N)) aF aF aE aE),.c (Ig (kI (uX z p N) (q8 (oC z p N)) p) aF 1 aE aE)]<|rR (ig (Eg z p N)) (.refl _:E.le (ig (mX (kI (uX z p N) (q8 (oC z p N)) p) 1)) (ig (Eg z p N)))) 
def Dc(f:Nat->Rat)(X:Iv):Prop:=∃ N0,∀ M,N0<=M->X.ki (f M)
def Dc.mono{f:Nat->Rat}{X Y:Iv}(h:Dc f X)(k:∀ r,X.ki r->Y.ki r):Dc f Y:=h.imp λ_ h M hM=>k _ (h M hM)
def Z5{z:Iv}(hz:z.ik)(hb:z.all=true\/Sub z (pU (-1))){p:Nat}(iw:8<=p)(ij:p<=512):∃ Z,Z.ik/\(∀ r,z.ki r->jm r*2<=1->Dc (λM=>AQ r M*2) Z)/\gZ 390 [.agg [iP p],ig z] (ig Z):=by
 obtain⟨N,h1,h2,h3⟩:=ahz hz hb iw ij;exact⟨Eg z p N,ahy hz iw ij N,λr hr ha=>⟨N,λM hM=>ahx hz hr ha iw ij h1 M hM⟩,aoR z p N hz iw ij h1 h2 h3⟩
def an0{p:Nat}(iw:8<=p)(ij:p<=512):(jT (iS 1) (iS 3) p).ik/\(jT (iS 1) (iS 3) p).ki (1/3)/\Sub (jT (iS 1) (iS 3) p) (pU (-1)):=by
 have v1:(iS 1).ik:=wA aG;have v3:(iS 3).ik:=wA aG;have h1:=Ah 1;have h3:=Ah 3;refine⟨tV _ _ aE aE,?_,?_⟩
 .have:=ID v1 v3 (p:=p) aE aE h1 h3;rwa[show((1:Int):Rat)/((3:Int):Rat)=1/3 from rfl]at this
 .have hs:lZ (iS 3)≠0:=PR rfl (.inl (by show 0<(jo 3).q;rw[yL];decide));refine Fa (IC v1 v3 rfl hs (p:=p) aE aE) aE aG aG ?_;rintro r ⟨a,b,ha,hb,rfl⟩;obtain⟨a1,a2⟩:=ha.kp rfl;obtain⟨b1,b2⟩:=hb.kp rfl;change (jo 1).q<=a at a1;change a<=(jo 1).q at a2;change (jo 3).q<=b at b1;change b<=(jo 3).q at b2;rw[yL]at a1 a2 b1 b2;have ea:a=1:=eE a2 a1;have eb:b=3:=eE b2 b1;subst ea eb;have:P2 (-1)=1/2:= aQ ;rw[this];exact⟨aQ,aQ⟩
def ao4(p:Nat)(Z:Iv)(hZ:Z.ik)(hL:gZ 390 [.agg [iP (((min (p+16) 512):Nat):Int)],ig (jT (iS 1) (iS 3) (min (p+16) 512))] (ig Z))(iw:8<=p)(ij:p<=512):gZ 392 [iP p] (ig (mu Z p)):=by
 have v1:(iS 1).ik:=wA aG;have v3:(iS 3).ik:=wA aG;exact ak call392 func392 (af [tF 5 ((p:Int)<8) aE,tF 8 (512<(p:Int)) aE,.c (Qd p 16 aE aE),.c (xJ 1 aE),.c (xJ 3 aE),.c (Ho (min (p+16) 512) (iS 1) (iS 3) aF aF aE aE),ag [.agg [iP ((min (p+16) 512:Nat):Int)],ig (jT (iS 1) (iS 3) (min (p+16) 512))] hL,.c (E8 Z aF p aE aE)]) 
def ao3{p:Nat}(iw:8<=p)(ij:p<=512):∃ Z,Z.ik/\Dc (λM=>AQ (1/3) M*2) Z/\gZ 392 [iP (p:Int)] (ig Z):=by
 obtain⟨t1,t2,t3⟩:=an0 (p:=min (p+16) 512) aE aE;obtain⟨Z,h1,h2,h3⟩:=Z5 t1 (.inr t3) (p:=min (p+16) 512) aE aE;refine⟨mu Z p,ED h1 aE aE,(h2 _ t2 aQ).mono λr hr=>G4 h1 aE aE hr,ao4 p Z h1 h3 iw ij⟩
def yU:Iv:=⟨jD,jD,false⟩
def aad:E.le (.agg au) (ig yU):=
 .agg (.cons (.refl _) (.cons CF (.cons (.refl _) (.cons (.refl _) (.cons CF (.cons (.refl _) (.cons (.refl _) .nil)))))))
def ao8(d:Dy)(p:Nat)(hd:d.ik)(h1:jK d ⟨false,1,0⟩=0)(iw:8<=p)(ij:p<=512):gZ 368 [ie d,iP p] (ig yU):=by
 have v1:=GA;exact ak call368 func368 (ae [ag [iP 1] Lq,ag [ie d,ie (Dy.mk false 1 0)] (o0 _ _ aF aF),ah 12 ((jK d (Dy.mk false 1 0))==0) (by rw[h1];rfl)]<|rR (ig yU) (aad:E.le (.agg au) (ig yU))) 
def ao9(d:Dy)(p:Nat)(Z Y:Iv)(hd:d.ik)(h1:¬jK d ⟨false,1,0⟩=0)(UK:-20000<=d.iE)(sw:d.iE<=20000)(hZ:Z.ik)(hY:Y.ik)(hL:gZ 390 [.agg [iP (((min (p+40) 512):Nat):Int)],ig (jT (kI (mX (mu (mi d) (min (p+40) 512)) (0-(Dy.iE d))) (iS (-1)) (min (p+40) 512)) (kI (mX (mu (mi d) (min (p+40) 512)) (0-(Dy.iE d))) (iS 1) (min (p+40) 512)) (min (p+40) 512))] (ig Z))(hL2:gZ 392 [iP (((min (p+40) 512):Nat):Int)] (ig Y))(iw:8<=p)(ij:p<=512):gZ 368 [ie d,iP p] (ig (mu (kI Z (jt (iS d.iE) Y (min (p+40) 512)) (min (p+40) 512)) p)):=by
 have v1:=GA;have vp:=uo hd;have vr:(mu (mi d) (min (p+40) 512)).ik:=ED vp aE aE;have vs:(mX (mu (mi d) (min (p+40) 512)) (0-(Dy.iE d))).ik:=G7 vr _;have n1:(iS 1).ik:=wA aG;have n2:(iS (-1)).ik:=wA aG;have a1:(kI (mX (mu (mi d) (min (p+40) 512)) (0-(Dy.iE d))) (iS (-1)) (min (p+40) 512)).ik:=qG vs n2 aE aE;have a2:(kI (mX (mu (mi d) (min (p+40) 512)) (0-(Dy.iE d))) (iS 1) (min (p+40) 512)).ik:=qG vs n1 aE aE;have a3:(jT (kI (mX (mu (mi d) (min (p+40) 512)) (0-(Dy.iE d))) (iS (-1)) (min (p+40) 512)) (kI (mX (mu (mi d) (min (p+40) 512)) (0-(Dy.iE d))) (iS 1) (min (p+40) 512)) (min (p+40) 512)).ik:=tV _ _ aE aE;have nt:(iS d.iE).ik:=wA aE;have m1:(jt (iS d.iE) Y (min (p+40) 512)).ik:=pn _ _ aE aE;have m2:(kI Z (jt (iS d.iE) Y (min (p+40) 512)) (min (p+40) 512)).ik:=qG hZ m1 aE aE;exact ak call368 func368 (af [ag [iP 1] Lq,ag [ie d,ie (Dy.mk false 1 0)] (o0 _ _ aF aF),ai 12 ((jK d (Dy.mk false 1 0))==0) (by simpa using h1),.c (Qd p 40 aE aE),ag [ie d] (pj _ aF),.c (Cw d aF),.c (E8 (mi d) aF (min (p+40) 512) aE aE),
  iz (0-(Dy.iE d)) aE,.c (Ig (mu (mi d) (min (p+40) 512)) aF (0-(Dy.iE d)) aE aE),.c (xJ (-1) aE),.c (BK (min (p+40) 512) (mX (mu (mi d) (min (p+40) 512)) (0-(Dy.iE d))) (iS (-1)) aF aF aE aE),.c (xJ 1 aE),.c (BK (min (p+40) 512) (mX (mu (mi d) (min (p+40) 512)) (0-(Dy.iE d))) (iS 1) aF aF aE aE),.c (Ho (min (p+40) 512) (kI (mX (mu (mi d) (min (p+40) 512)) (0-(Dy.iE d))) (iS (-1)) (min (p+40) 512)) (kI (mX (mu (mi d) (min (p+40) 512)) (0-(Dy.iE d))) (iS 1) (min (p+40) 512)) aF aF aE aE),ag [.agg [iP ((min (p+40) 512:Nat):Int)],ig (jT (kI (mX (mu (mi d) (min (p+40) 512)) (0-(Dy.iE d))) (iS (-1)) (min (p+40) 512)) (kI (mX (mu (mi d) (min (p+40) 512)) (0-(Dy.iE d))) (iS 1) (min (p+40) 512)) (min (p+40) 512))] hL,.c (xJ (Dy.iE d) aE),ag [iP ((min (p+40) 512:Nat):Int)] hL2,.c (K1 (min (p+40) 512) (iS (Dy.iE d)) Y aF aF aE aE),.c (BK (min (p+40) 512) Z (jt (iS (Dy.iE d)) Y (min (p+40) 512)) aF aF aE aE),.c (E8 (kI Z (jt (iS (Dy.iE d)) Y (min (p+40) 512)) (min (p+40) 512)) aF p aE aE)]) 
def aab{d:Dy}(hd:d.ik)(hq:0<d.q){p:Nat}(iw:8<=p)(ij:p<=512):∃ Z,Z.ik/\Dc (LQ d) Z/\gZ 368 [ie d,iP (p:Int)] (ig Z):=by
 by_cases h1:jK d ⟨false,1,0⟩=0
 .refine ⟨yU,.inr ⟨rfl,q6,q6,z8 _⟩,⟨0,λM _=>?_⟩,ao8 d p hd h1 iw ij⟩;have e:d=⟨false,1,0⟩:=by
   refine Ke hd.canon GA.canon (eE ((qL _ _).1 aE) ((qL _ _).1 ?_));rw[xS];have:=xS d ⟨false,1,0⟩;omega
  rw[e,aap];exact .inr ⟨by show jD.q<=0;rw[r8];exact cM,by show 0<=jD.q;rw[r8];exact cM⟩
 .have hm:=Ep hq;obtain⟨t1,t2⟩:=ZD hd hm;obtain⟨P,hP⟩:∃ P,P=min (p+40) 512:=⟨_,rfl⟩
  have p1:8<=P:= aE ;have p2:P<=512:= aE ;obtain⟨z1,z2,z3⟩:=ahX hd hq p1 p2;obtain⟨Z,a1,a2,a3⟩:=Z5 z1 z3 p1 p2;obtain⟨Y,b1,b2,b3⟩:=ao3 p1 p2;have m1:(jt (iS d.iE) Y P).ik:=pn _ _ aE aE;have m2:=qG a1 m1 (p:=P) aE aE;refine⟨mu (kI Z (jt (iS d.iE) Y P) P) p,ED m2 aE aE,?_,?_⟩
  .have hz:=Qh hq;have ha:jm (AF d)*2<=1:=by
    have:=yZ (x:=AF d) (b:=1/3) aP aP 
    grind
   obtain⟨N1,c1⟩:=a2 _ z2 ha;obtain⟨N2,c2⟩:=b2;refine⟨max N1 N2,λM hM=>G4 m2 aE aE ?_⟩;exact AK a1 m1 aE aE (c1 M aE) (Ol (wA aE) b1 aE aE (Ah d.iE) (c2 M aE))
  .subst hP;have e:Eh d (min (p+40) 512)=jT (kI (mX (mu (mi d) (min (p+40) 512)) (0-(Dy.iE d))) (iS (-1)) (min (p+40) 512)) (kI (mX (mu (mi d) (min (p+40) 512)) (0-(Dy.iE d))) (iS 1) (min (p+40) 512)) (min (p+40) 512):=by unfold Eh uh;rw[(aE:-d.iE=0-d.iE)]
   rw[e]at a3;exact ao9 d p Z Y hd h1 aE aE a1 b1 a3 b3 iw ij
def ao5(x:Iv)(p:Nat)(hx:x.ik)(iw:8<=p)(ij:p<=512)(xa:x.all=true):gZ 328 [ig x,iP p] (ig iu):=
 ak call328 func328 (af [.c (Db x p aF aE aE),ai 7 (!x.all) (by rw[xa];rfl),.c nS]) 
def ao7(x:Iv)(p:Nat)(hx:x.ik)(iw:8<=p)(ij:p<=512)(xa:x.all=false)(h1:x.lo.jb<=0):gZ 328 [ig x,iP p] (ig iu):=by
 obtain⟨w1,w2⟩:=hx.kp;exact ak call328 func328 (af [.c (Db x p aF aE aE),ah 7 (!x.all) (by rw[xa];rfl),ag [ie x.lo] (pv _ aF),tB 13 (bA h1),.c nS]) 
def ao6(x:Iv)(p:Nat)(hx:x.ik)(iw:8<=p)(ij:p<=512)(xa:x.all=false)(h1:¬x.lo.jb<=0)(Z1 Z2:Iv)(z1:Z1.ik)(z2:Z2.ik)(k1:gZ 368 [ie x.lo,iP (p:Int)] (ig Z1))(k2:gZ 368 [ie x.hi,iP (p:Int)] (ig Z2)):gZ 328 [ig x,iP p] (ig (uF Z1 Z2)):=by
 obtain⟨w1,w2⟩:=hx.kp;exact ak call328 func328 (af [.c (Db x p aF aE aE),ah 7 (!x.all) (by rw[xa];rfl),ag [ie x.lo] (pv _ aF),tB 13 (bB h1),ag [ie x.lo,iP p] k1,ag [ie x.hi,iP p] k2,.c (aaa Z1 Z2 aF aF)]) 
def Qe{x:Iv}(hx:x.ik){p:Nat}(iw:8<=p)(ij:p<=512):∃ Z,Z.ik/\gZ 328 [ig x,iP (p:Int)] (ig Z):=by
 cases xa:x.all with
 |true=>exact⟨iu,mD,ao5 x p hx iw ij xa⟩
 |false=>
  by_cases h1:x.lo.jb<=0
  .exact ⟨iu,mD,ao7 x p hx iw ij xa h1⟩
  .obtain ⟨w1,w2⟩:=hx.kp;have q1:0<x.lo.q:=(tH _).1.1 aE;have q2:0<x.hi.q:=by have:=hx.q;grind
   obtain⟨Z1,z1,⟨N1,l1⟩,k1⟩:=aab w1 q1 iw ij;obtain⟨Z2,z2,⟨N2,l2⟩,k2⟩:=aab w2 q2 iw ij;refine⟨uF Z1 Z2,SN z1 z2 λa b=>?_,ao6 x p hx iw ij xa h1 Z1 Z2 z1 z2 k1 k2⟩;have e1:=((l1 (max N1 N2) aE).kp a).1;have e2:=((l2 (max N1 N2) aE).kp b).2;have e3:=aao q1 hx.q (max N1 N2);exact b9 e1 (b9 e3 e2)
def uV(a s:Nat):Prop:=s*s<=a/\a<(s+1)*(s+1)
def Yk(a:Nat):∃ s,uV a s:=by
 induction a with
 |zero=>exact⟨0,aG,aG⟩
 |succ a ih=>
  obtain⟨s,h1,h2⟩:=ih;by_cases h:(s+1)*(s+1)<=a+1
  .refine ⟨s+1,h,?_⟩;have:(s+1+1)*(s+1+1)=(s+1)*(s+1)+2*(s+1)+1:=by
    simp only[ct,bR,ck,cz];omega
   omega
  .exact ⟨s,aE,aE⟩
def alH{a s t:Nat}(h:uV a s)(ht:t*t<=a):t<=s:=by
 apply ca;intro iL;have:=dp (aE:s+1<=t) (aE:s+1<=t);have:=h.2;omega
def pN(a x:Nat):Nat:=(x+a/x)/2
def aiL{a s x:Nat}(h:uV a s)(hx:0<x):s<=pN a x:=by
 unfold pN;apply ca;intro iL;have h1:x+a/x<2*s:=by generalize a/x=q at *;omega
 have h2:a<(a/x+1)*x:=by
  have:=cG a x;have:=bM a hx;rw[ct,ck,bK (a/x)];omega
 have hq:a/x+1<=2*s-x/\x<=2*s:=by
  generalize a/x=q at *
  omega
 have h3:(a/x+1)*x<=(2*s-x)*x:=bX x hq.1;have apt:=hq.2;have h4:(2*s-x)*x<=s*s:=by
  obtain⟨k,hk⟩:∃ k,2*s=x+k:=⟨2*s-x,by clear h1 h2 h3 iL hq;omega⟩
  rw[show 2*s-x=k by clear h1 h2 h3 iL hq;omega];clear h1 h2 h3 iL hq;rcases Nat.le_total x s with qv|qv
  .obtain ⟨e,rfl⟩:∃ e,s=x+e:=⟨s-x,aE⟩
   obtain rfl:k=x+2*e:= aE ;simp only[ct,bR,bK x e,bL];have:0<=e*e:=cj _;have e1:e*(2*x)=2*(e*x):=de e 2 x;omega
  .obtain ⟨e,rfl⟩:∃ e,x=s+e:=⟨x-s,aE⟩
   obtain⟨f,hf⟩:∃ f,s=k+f:=⟨s-k,aE⟩
   obtain rfl:f=e:= aE ;subst hf;simp only[ct,bR,bK f k];have:0<=f*f:=cj _;omega
 have:=h.1;omega
def aiK{a s x:Nat}(h:uV a s)(hx:0<x)(hs:s<=x)(hy:x<=pN a x):x=s:=by
 have h1:x<=a/x:=by unfold pN at hy;omega
 have h2:x*x<=a:=(dq hx).1 h1;have:=alH h h2;omega
def kO(a x:Nat):Nat->Nat
 | 0=>x
 |k+1=>pN a (kO a x k)
def alI(a:Nat){s:Nat}(h:uV a s):s<=2^((iq a+1)/2):=by
 apply ca;intro iL;have h1:(2^((iq a+1)/2))*(2^((iq a+1)/2))<=s*s:=dp aE aE;rw[<-bE]at h1;have h2:=pK a;have h3:2^iq a<=2^((iq a+1)/2+(iq a+1)/2):=bN aG aE;have:=h.1;omega
def alG{a x s:Nat}(h:uV a s)(ha:0<a)(hx:s<=x):∃ N,N<=x/\(∀ k,k<N->pN a (kO a x k)<kO a x k)/\kO a x N<=pN a (kO a x N)/\kO a x N=s/\∀ k,k<=N->s<=kO a x k/\kO a x k<=x:=by
 have hs:0<s:=by
  apply ca;intro h0;obtain rfl:s=0:= aE ;have:=h.2;omega
 have rB:∀ k,s<=kO a x k:=λk=>by
  induction k with
  |zero=>exact hx
  |succ k ih=>exact aiL h aE 
 have hex:∃ k,k<x+1/\decide (kO a x k<=pN a (kO a x k))=true:=by
  apply ca;intro hc;have hd:∀ k,k<x+1->pN a (kO a x k)<kO a x k:=λk hk=>by
   apply ca;intro q;exact hc ⟨k,hk,bA aE⟩
  have hb:∀ k,k<=x+1->kO a x k+k<=x:=by
   intro k hk
   induction k with
   |zero=>exact bC _
   |succ k ih=>
    have:=ih aE;have:=hd k aE;show pN a (kO a x k)+(k+1)<=x;omega
  have:=hb (x+1) (bC _);omega
 obtain⟨N,n1,n2,n3⟩:=rj hex;have n2':=cR n2;have iL:∀ k,k<N->pN a (kO a x k)<kO a x k:=λk hk=>by
  have:=fu (n3 k hk);omega
 have hle:∀ k,k<=N->kO a x k<=x:=by
  intro k hk
  induction k with
  |zero=>exact bC _
  |succ k ih=>
   have:=ih aE;have:=iL k aE;show pN a (kO a x k)<=x;omega
 have e:=aiK h (by have:=rB N;omega) (rB N) n2';exact⟨N,aE,iL,n2',e,λk hk=>⟨rB k,hle k hk⟩⟩
def ve(m s:Nat)(e:Int)(p:Nat)(up:Bool):Dy:=jY false s e (decide (s*s≠m)) p up
def Au(m s:Nat)(e:Int)(p:Nat)(up:Bool):Int:=jP false s e (decide (s*s≠m)) p up
def amZ{m s:Nat}{e:Int}{p:Nat}(h:uV m s)(hb:p<iq s)(hp:1<=p)(ij:p<=4096)(he:Au m s e p false=0):0<=(ve m s e p false).q/\(ve m s e p false).q<=(s:Rat)*P2 e:=by
 unfold ve Au at *
 by_cases hx:s*s=m
 .rw [bB aE]at he ⊢;have A:=Fh false s e hp ij;rw[qW]at A;simp only[bS,bJ]at A;exact⟨(A.2 0 (.inl (xK p)) (cv di (bZ (nO e)))).2,(A.1 he).2⟩
 .rw [bA aE]at he ⊢;obtain⟨h1,h2⟩:=Dt e hb false false;rw[h1];rw[h2]at he;have A:=Fh false (2*s+1) (e-1) hp ij;rw[qW]at A;simp only[bS,bJ]at A;have h0:=(A.2 0 (.inl (xK p)) (cv di (bZ (nO (e-1))))).2;obtain⟨g,hl⟩:=A.1 he;refine⟨h0,?_⟩;rcases Mz (e:=e) hb (g.pos h0)with k|k
  .exact k
  .exfalso;have ee:P2 e=P2 (e-1)*2:=by
    have:=qF (e-1) 1;rw[(aE:e-1+1=e),show P2 1=2 by decide +kernel]at this;exact this
   have xk:=nO (e-1);have c1:((2*s+1:Nat):Rat)=2*(s:Rat)+1:=by rw[eD,dt];rfl
   have c2:((s+1:Nat):Rat)=(s:Rat)+1:=by rw[eD];rfl
   rw[c1]at hl;rw[c2,ee]at k
   grind
def amY{m s:Nat}{e:Int}{p:Nat}(h:uV m s)(hb:p<iq s)(hp:1<=p)(ij:p<=4096)(he:Au m s e p true=0):0<=(ve m s e p true).q/\(m:Rat)*(P2 e*P2 e)<=(ve m s e p true).q*(ve m s e p true).q:=by
 have xk:=nO e;have s0:(0:Rat)<=(s:Rat):=di;have key:∀ D:Rat,(s:Rat)*P2 e<=D->(s*s≠m->((s+1:Nat):Rat)*P2 e<=D)->0<=D/\(m:Rat)*(P2 e*P2 e)<=D*D:=by
  intro D h1 h2;have d0:0<=D:=b9 (cv s0 (bZ xk)) h1;refine⟨d0,?_⟩;have sq:∀ t:Nat,m<=t*t->(t:Rat)*P2 e<=D->(m:Rat)*(P2 e*P2 e)<=D*D:=by
   intro t ht hD;have t0:(0:Rat)<=(t:Rat):=di;have c:(m:Rat)<=(t:Rat)*(t:Rat):=by
    have:=dF.2 ht;rwa[dt]at this
   have m1:=cL c (cv (bZ xk) (bZ xk));have m2:=cL hD (cv t0 (bZ xk));have m3:=cY hD d0;generalize (t:Rat)=T at *
   generalize P2 e=P at *
   have e1:T*T*(P*P)=T*P*(T*P):= aP 
   grind
  by_cases hx:s*s=m
  .exact sq s aE h1
  .exact sq (s+1) (by have:=h.2;omega) (h2 hx)
 unfold ve Au at *
 by_cases hx:s*s=m
 .rw [bB aE]at he ⊢;have A:=Fi false s e hp ij;rw[qW]at A;simp only[bS,bJ]at A;exact key _ (A.1 he).2 (λq=>absurd hx q)
 .rw [bA aE]at he ⊢;obtain⟨h1,h2⟩:=Dt e hb false true;rw[h1];rw[h2]at he;have A:=Fi false (2*s+1) (e-1) hp ij;rw[qW]at A;simp only[bS,bJ]at A;obtain⟨g,hl⟩:=A.1 he;have ee:P2 e=P2 (e-1)*2:=by
   have:=qF (e-1) 1;rw[(aE:e-1+1=e),show P2 1=2 by decide +kernel]at this;exact this
  have iw:=nO (e-1);have c1:((2*s+1:Nat):Rat)=2*(s:Rat)+1:=by rw[eD,dt];rfl
  rw[c1]at hl;have h0:0<=(jY false (2*s+1) (e-1) false p true).q:=b9 (cv aP (bZ iw)) hl;have iL:(s:Rat)*P2 e<(jY false (2*s+1) (e-1) false p true).q:=by rw[ee];grind
  refine key _ (bZ iL) λ_=>?_
  rcases Mz (e:=e) hb (g.pos h0)with k|k
  .exact absurd iL (dP.2 k)
  .exact k
def am0{a b:Rat}(ha:0<=a)(hb:0<=b)(h:a*a<=b*b):a<=b:=by
 apply dP.1;intro iL;have m1:=cY (bZ iL) hb;have m2:=eF iL (show 0<a by grind)
 grind
def am1{m s n t:Nat}{e f:Int}{p:Nat}(h:uV m s)(k:uV n t)(hb:p<iq s)(kb:p<iq t)(hp:1<=p)(ij:p<=4096)(hle:(m:Rat)*(P2 e*P2 e)<=(n:Rat)*(P2 f*P2 f)):
 (kX (ve m s e p false) (Au m s e p false) (ve n t f p true) (Au n t f p true)).ik:=by
 unfold kX;split
 .exact mD
 .rename_i he;obtain⟨a0,a1⟩:=amZ (e:=e) h hb hp ij aE;obtain⟨b0,b1⟩:=amY (e:=f) k kb hp ij aE;refine .inr ⟨rfl,mR _ _ _ _ _ _ hp ij,mR _ _ _ _ _ _ hp ij,?_⟩;rw[qL];refine am0 a0 b0 ?_;have s0:(0:Rat)<=(s:Rat):=di;have xk:=nO e;have m1:=cY a1 a0;have m2:=cL a1 (cv s0 (bZ xk));have c:(s:Rat)*(s:Rat)<=(m:Rat):=by
   have:=dF.2 h.1;rwa[dt]at this
  have m3:=cL c (cv (bZ xk) (bZ xk));generalize (ve m s e p false).q=A at *
  generalize (s:Rat)=S at *
  generalize P2 e=P at *
  have e1:S*S*(P*P)=S*P*(S*P):= aP 
  grind
end Go.Proofs.YtkjkcjhacddojaaGreatDoor
