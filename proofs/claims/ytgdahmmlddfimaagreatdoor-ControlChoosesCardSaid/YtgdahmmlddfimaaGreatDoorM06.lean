/- Choose returns the first one of the steps to be tried for which there is a tube. -/
import Derived.Test.YtgdahmmlddfimaaGreatDoorM05
set_option linter.unusedSimpArgs false
set_option linter.unusedVariables false
set_option linter.defProp false
set_option maxHeartbeats 4000000
open Go.Proofs.Tryz
namespace Go.Proofs.YtgdahmmlddfimaaGreatDoor
open Go.RowKit Fp Pu
def Vi(a b:Nat)(x:Nat):PS:=⟨12,true,[(0,.e (.v (.int .u64 (((mE a b x).1:Nat):Int)))),(1,.e (.v (.int .u64 (((mE a b x).2:Nat):Int))))],[]⟩
def Zw(s:kB)(N:Nat)(x:Nat):PS:=⟨131,true,[(4,.e (iP x)),(3,.box 3 0),(1,.box 1 0)],[(3,.cells 25 [iP s.ik,kA s.gX,kF s.iu]),(1,.cells 28 [iP s.ik,kA s.gX,kF s.iu,iP s.iz,jH s.params])]⟩
def Zr(s:kB)(x:Nat):PS:=⟨131,true,[(4,.e (iP x)),(3,.box 3 0),(1,.box 1 0)],[(3,.cells 25 [iP s.ik,kA s.gX,kF s.iu]),(1,.cells 28 [iP s.ik,kA s.gX,kF s.iu,iP s.iz,jH s.params])]⟩
def Zx(s:kB)(N:Nat)(x:Nat):PS:=⟨131,true,[(5,.e (iP x)),(3,.box 3 0),(1,.box 1 0)],[(3,.cells 25 [iP s.ik,kA s.gX,kF s.iu]),(1,.cells 28 [iP s.ik,kA s.gX,kF s.iu,iP s.iz,jH s.params])]⟩
def Zs(s:kB)(x:Nat):PS:=⟨131,true,[(4,.e (iP x)),(3,.box 3 0),(1,.box 1 0)],[(3,.cells 25 [iP s.ik,kA s.gX,kF s.iu]),(1,.cells 28 [iP s.ik,kA s.gX,kF s.iu,iP s.iz,jH s.params])]⟩
def Zy(s:kB)(N:Nat)(x:Nat):PS:=⟨131,true,[(5,.e (iP x)),(3,.box 3 0),(1,.box 1 0)],[(3,.cells 25 [iP s.ik,kA s.gX,kF s.iu]),(1,.cells 28 [iP s.ik,kA s.gX,kF s.iu,iP s.iz,jH s.params])]⟩
def Zt(s:kB)(x:Nat):PS:=⟨131,true,[(4,.e (iP x)),(3,.box 3 0),(1,.box 1 0)],[(3,.cells 25 [iP s.ik,kA s.gX,kF s.iu]),(1,.cells 28 [iP s.ik,kA s.gX,kF s.iu,iP s.iz,jH s.params])]⟩
def Zz(s:kB)(x:Nat):PS:=⟨131,true,[(5,.e (iP x)),(3,.box 3 0),(1,.box 1 0)],[(3,.cells 25 [iP s.ik,kA s.gX,kF s.iu]),(1,.cells 28 [iP s.ik,kA s.gX,kF s.iu,iP s.iz,jH s.params])]⟩
def ZA(s:kB)(N:Nat)(x:Nat):PS:=⟨131,true,[(6,.e (iP x)),(1,.box 1 0)],[(1,.cells 28 [iP s.ik,kA s.gX,kF s.iu,iP s.iz,jH s.params])]⟩
def Zu(s:kB)(x:Nat):PS:=⟨131,true,[(4,.e (iP x)),(3,.box 3 0),(1,.box 1 0)],[(3,.cells 25 [iP s.ik,kA s.gX,kF s.iu]),(1,.cells 28 [iP s.ik,kA s.gX,kF s.iu,iP s.iz,jH s.params])]⟩
def ZB(s:kB)(x:Nat):PS:=⟨131,true,[(5,.e (iP x)),(3,.box 3 0),(1,.box 1 0)],[(3,.cells 25 [iP s.ik,kA s.gX,kF s.iu]),(1,.cells 28 [iP s.ik,kA s.gX,kF s.iu,iP s.iz,jH s.params])]⟩
def ZC(s:kB)(N:Nat)(x:Nat):PS:=⟨131,true,[(6,.e (iP x)),(1,.box 1 0)],[(1,.cells 28 [iP s.ik,kA s.gX,kF s.iu,iP s.iz,jH s.params])]⟩
def Zv(s:kB)(x:Nat):PS:=⟨131,true,[(4,.e (iP x)),(3,.box 3 0),(1,.box 1 0)],[(3,.cells 25 [iP s.ik,kA s.gX,kF s.iu]),(1,.cells 28 [iP s.ik,kA s.gX,kF s.iu,iP s.iz,jH s.params])]⟩
def ZD(s:kB)(x:Nat):PS:=⟨131,true,[(5,.e (iP x)),(3,.box 3 0),(1,.box 1 0)],[(3,.cells 25 [iP s.ik,kA s.gX,kF s.iu]),(1,.cells 28 [iP s.ik,kA s.gX,kF s.iu,iP s.iz,jH s.params])]⟩
def ZE(s:kB)(x:Nat):PS:=⟨131,true,[(6,.e (iP x)),(1,.box 1 0)],[(1,.cells 28 [iP s.ik,kA s.gX,kF s.iu,iP s.iz,jH s.params])]⟩
def agN(a b N:Nat)(ha:a<18446744073709551616)(hb:b<18446744073709551616)(jm:∀ k,k<N->(mE a b k).2≠0)(hN:(mE a b N).2=0):gV 256 [.v (.int .u64 (a:Int)),.v (.int .u64 (b:Int))] (.v (.int .u64 (((mE a b N).1:Nat):Int))):=
 ak call256 func256 (af [.s (Sp.jc (Vi a b) 0 N aE (λx hx kW=>by
    have qn:=jm x aE;exact iy (ae [ah 6 ((((mE a b x).2:Nat):Int) != 0) (Yp (jm x aE)),.a (aE:0<((((mE a b x).2:Nat):Int):Int))]<|.e (af [.o 0 (.int aT:aj (.v (.int .u64 (((mE a b x).2:Nat):Int))) (.v (.int .u64 (((mE a b (x+1)).1:Nat):Int)))),.o 1 (.int aT:aj (.v (.int .u64 ((((mE a b x).1)%((mE a b x).2):Nat):Int))) (.v (.int .u64 (((mE a b (x+1)).2:Nat):Int))))])) aI)
  (λhx=>by
    exact iy (af [ai 6 ((((mE a b N).2:Nat):Int) != 0) (Yo hN)]) aI) aM:jb 1 f256 (Vi a b 0) (.exit 0) ⟨12,true,[(0,.e (.v (.int .u64 (((mE a b N).1:Nat):Int))))],[]⟩) (af [.o 0 (.int aT:aj (.v (.int .u64 (a:Int))) (.v (.int .u64 (((mE a b 0).1:Nat):Int)))),.o 1 (.int aT:aj (.v (.int .u64 (b:Int))) (.v (.int .u64 (((mE a b 0).2:Nat):Int))))])]) 
def agO(a b:Nat)(ha:a<18446744073709551616)(hb:b<18446744073709551616):gV 256 [.v (.int .u64 (a:Int)),.v (.int .u64 (b:Int))] (.v (.int .u64 (Nat.gcd a b:Int))):=by
 obtain⟨N,h1,h2⟩:=Uk b a;have hg:=Ni a b N;rw[h2,Nat.gcd_zero_right]at hg;rw[<-hg];exact agN a b N ha hb h1 h2
def anX(m:Nat)(h:m<=1073741824):gV 257 [iP m] (.v (.int .u64 (m:Int))):=
 ak call257 func257 (af [tF 4 ((m:Int)<0) aE,.o 11 (.int (sK _ aE):aj (.v (.int .u64 (IntKind.u64.wrap (m:Int)))) (.v (.int .u64 (m:Int))))]) 
def anV(m:Nat)(h0:0<m)(h:m<=1073741824):gV 257 [iP (-(m:Int))] (.v (.int .u64 (m:Int))):=
 ak call257 func257 (ae [tT 4 ((-(m:Int))<0) aE,iq ((-(m:Int))+1) aE,iq (0-((-(m:Int))+1)) aE,.o 7 (aq (0-((-(m:Int))+1)) ((m-1:Nat):Int) aE),.o 8 (.int (sK _ aE):aj (.v (.int .u64 (IntKind.u64.wrap ((m-1:Nat):Int)))) (.v (.int .u64 ((m-1:Nat):Int)))),B8 (((m-1:Nat):Int)+1) aE]<|rQ (.v (.int .u64 (((m-1)+1:Nat):Int))) (.v (.int .u64 (m:Int))) (by rw[(aE:m-1+1=m)])) 
def anW(n:Int)(h1:-1073741824<=n)(h2:n<=1073741824):gV 257 [iP n] (.v (.int .u64 (n.natAbs:Int))):=by
 by_cases h:0<=n
 .obtain ⟨m,rfl⟩:=eE h;exact anX m aE 
 .obtain ⟨m,rfl⟩:∃ m:Nat,n = -(m:Int):=⟨n.natAbs,aE⟩
  rw[fH,dL];exact anV m aE aE 
def al0(n d:Int):gV 217 [.agg [iP n,iP d]] (bP (nM n d)):=
 ak call217 func217 (.w (1<=d)
  (λk1=>ae [tB 5 (bn k1)]<|.w (d<=1073741824)
   (λk2=>ae [tB 9 (bn k2)]<|.w ((-1073741824)<=n)
    (λk3=>ae [tB 14 (bn k3)]<|.w (n<=1073741824)
     (λk4=>ae [tB 19 (bn k4),ag [iP n] (anW _ aE aE),.o 27 (.int (ao4 aE aE):aj (.v (.int .u64 (IntKind.u64.wrap d))) (.v (.int .u64 (Int.natAbs d:Int)))),.c (agO (Int.natAbs n) (Int.natAbs d) aE aE)]<|rQ (bP ((Nat.gcd (Int.natAbs n) (Int.natAbs d):Int)==1)) (bP (nM n d)) (by unfold nM;simp[zh,k1,k2,k3,k4]))
     (λk4=>ae [tB 19 (bt k4)]<|rQ (bP false) (bP (nM n d)) (by unfold nM;simp[zh,k1,k2,k3,k4])))
    (λk3=>ae [tB 14 (bt k3)]<|rQ (bP false) (bP (nM n d)) (by unfold nM;simp[zh,k1,k2,k3])))
   (λk2=>ae [tB 9 (bt k2)]<|rQ (bP false) (bP (nM n d)) (by unfold nM;simp[zh,k1,k2])))
  (λk1=>ae [tB 5 (bt k1)]<|rQ (bP false) (bP (nM n d)) (by unfold nM;simp[zh,k1]))) 
def DF(o:pf)(m:Int)(g:o.jV):gV 161 [Fw o,iP m] (bP (kz o m)):=
 ak call161 func161 (.w (o.kind=1)
  (λk1=>ae [tB 13 (bc k1),.c (al0 o.cn o.cd)]<|.w (nM o.cn o.cd=true)
   (λk2=>ae [tB 19 k2,ai 47 (decide ((0:Int)<0)) aG,ai 52 (decide ((1:Int)<0)) aG,.g (Li g.kind g.a g.b g.n g.cn g.cd g.kind wD wD wD g.cn g.cd:pH prog .eql 107 (Fw o) (.agg [iP o.kind,iP 0,iP 0,iP 0,iP o.cn,iP o.cd]) (.bool (decide (o.kind=o.kind/\o.a=0/\o.b=0/\o.n=0/\o.cn=o.cn/\o.cd=o.cd))))]<|.w (o.kind=o.kind/\o.a=0/\o.b=0/\o.n=0/\o.cn=o.cn/\o.cd=o.cd)
    (λk3=>ae [tB 58 (bn k3),ah 61 ((0:Int)==0) aG]<|rQ (bP true) (bP (kz o m)) nc)
    (λk3=>ae [tB 58 (bt k3)]<|rQ (bP false) (bP (kz o m)) nc))
   (λk2=>ae [tB 19 (bd k2)]<|rQ (bP false) (bP (kz o m)) nc))
  (λk1=>ae [tB 13 (a7 k1),.j 42 ⟨85,true,[(21,.e (bP (decide (3<=o.kind/\o.kind<=6)))),(11,.e (iP o.kind)),(6,.box 6 0),(2,.box 2 0),(1,.e (iP m))],[(6,.cells 107 [iP o.kind,iP 0,iP 0,iP 0,iP 0,iP 0]),(2,.cells 107 [iP o.kind,iP o.a,iP o.b,iP o.n,iP o.cn,iP o.cd])]⟩
   (.w (o.kind=3)
    (λm1=>ae [.v 21 (.bool (bc m1))]<|.e (af [tB 21 (sf aO:true=(decide (3<=o.kind/\o.kind<=6)))]))
    (λm1=>ae [.v 21 (.bool (a7 m1))]<|.w (o.kind=4)
     (λm2=>ae [tB 23 (bc m2)]<|.e (af [tB 21 (sf aO:true=(decide (3<=o.kind/\o.kind<=6)))]))
     (λm2=>ae [tB 23 (a7 m2)]<|.w (o.kind=5)
      (λm3=>ae [tB 24 (bc m3)]<|.e (af [tB 21 (sf aO:true=(decide (3<=o.kind/\o.kind<=6)))]))
      (λm3=>ae [tB 24 (a7 m3)]<|.e (af [tB 21 (sf aO:(o.kind==6)=(decide (3<=o.kind/\o.kind<=6)))])))))]<|.w (3<=o.kind/\o.kind<=6)
   (λk2=>ae [.v 21 (.bool (bn k2)),ah 47 (decide ((0:Int)<2)) aG,ah 52 (decide ((1:Int)<2)) aG,.g (Li g.kind g.a g.b g.n g.cn g.cd g.kind g.a g.b wD wD wD:pH prog .eql 107 (Fw o) (.agg [iP o.kind,iP o.a,iP o.b,iP 0,iP 0,iP 0]) (.bool (decide (o.kind=o.kind/\o.a=o.a/\o.b=o.b/\o.n=0/\o.cn=0/\o.cd=0))))]<|.w (o.kind=o.kind/\o.a=o.a/\o.b=o.b/\o.n=0/\o.cn=0/\o.cd=0)
    (λk3=>ae [tB 58 (bn k3),ai 61 ((2:Int)==0) aG]<|.w (0<=o.a)
     (λk4=>ae [tB 65 (bn k4)]<|.w (o.a<m)
      (λk5=>ae [tB 70 (bn k5)]<|.w (0<=o.b)
       (λk6=>ae [tB 75 (bn k6)]<|rQ (bP (decide (o.b<m))) (bP (kz o m)) nc)
       (λk6=>ae [tB 75 (bt k6)]<|rQ (bP false) (bP (kz o m)) nc))
      (λk5=>ae [tB 70 (bt k5)]<|rQ (bP false) (bP (kz o m)) nc))
     (λk4=>ae [tB 65 (bt k4)]<|rQ (bP false) (bP (kz o m)) nc))
    (λk3=>ae [tB 58 (bt k3)]<|rQ (bP false) (bP (kz o m)) nc))
   (λk2=>ae [.v 21 (.bool (bt k2)),.j 52 ⟨85,true,[(26,.e (bP (decide (o.kind=7\/9<=o.kind/\o.kind<=13)))),(11,.e (iP o.kind)),(6,.box 6 0),(2,.box 2 0),(1,.e (iP m))],[(6,.cells 107 [iP o.kind,iP 0,iP 0,iP 0,iP 0,iP 0]),(2,.cells 107 [iP o.kind,iP o.a,iP o.b,iP o.n,iP o.cn,iP o.cd])]⟩
   (.w (o.kind=7)
    (λm1=>ae [.v 26 (.bool (bc m1))]<|.e (af [tB 26 (sf aO:true=(decide (o.kind=7\/9<=o.kind/\o.kind<=13)))]))
    (λm1=>ae [.v 26 (.bool (a7 m1))]<|.w (o.kind=9)
     (λm2=>ae [tB 28 (bc m2)]<|.e (af [tB 26 (sf aO:true=(decide (o.kind=7\/9<=o.kind/\o.kind<=13)))]))
     (λm2=>ae [tB 28 (a7 m2)]<|.w (o.kind=10)
      (λm3=>ae [tB 29 (bc m3)]<|.e (af [tB 26 (sf aO:true=(decide (o.kind=7\/9<=o.kind/\o.kind<=13)))]))
      (λm3=>ae [tB 29 (a7 m3)]<|.w (o.kind=11)
       (λm4=>ae [tB 30 (bc m4)]<|.e (af [tB 26 (sf aO:true=(decide (o.kind=7\/9<=o.kind/\o.kind<=13)))]))
       (λm4=>ae [tB 30 (a7 m4)]<|.w (o.kind=12)
        (λm5=>ae [tB 31 (bc m5)]<|.e (af [tB 26 (sf aO:true=(decide (o.kind=7\/9<=o.kind/\o.kind<=13)))]))
        (λm5=>ae [tB 31 (a7 m5)]<|.e (af [tB 26 (sf aO:(o.kind==13)=(decide (o.kind=7\/9<=o.kind/\o.kind<=13)))])))))))]<|.w (o.kind=7\/9<=o.kind/\o.kind<=13)
    (λk3=>ae [.v 26 (.bool (bn k3)),ah 47 (decide ((0:Int)<1)) aG,ai 52 (decide ((1:Int)<1)) aG,.g (Li g.kind g.a g.b g.n g.cn g.cd g.kind g.a wD wD wD wD:pH prog .eql 107 (Fw o) (.agg [iP o.kind,iP o.a,iP 0,iP 0,iP 0,iP 0]) (.bool (decide (o.kind=o.kind/\o.a=o.a/\o.b=0/\o.n=0/\o.cn=0/\o.cd=0))))]<|.w (o.kind=o.kind/\o.a=o.a/\o.b=0/\o.n=0/\o.cn=0/\o.cd=0)
     (λk4=>ae [tB 58 (bn k4),ai 61 ((1:Int)==0) aG]<|.w (0<=o.a)
      (λk5=>ae [tB 65 (bn k5)]<|.w (o.a<m)
       (λk6=>ae [tB 70 (bn k6)]<|.w (0<=o.b)
        (λk7=>ae [tB 75 (bn k7)]<|rQ (bP (decide (o.b<m))) (bP (kz o m)) nc)
        (λk7=>ae [tB 75 (bt k7)]<|rQ (bP false) (bP (kz o m)) nc))
       (λk6=>ae [tB 70 (bt k6)]<|rQ (bP false) (bP (kz o m)) nc))
      (λk5=>ae [tB 65 (bt k5)]<|rQ (bP false) (bP (kz o m)) nc))
     (λk4=>ae [tB 58 (bt k4)]<|rQ (bP false) (bP (kz o m)) nc))
    (λk3=>ae [.v 26 (.bool (bt k3))]<|.w (o.kind=8)
     (λk4=>ae [tB 34 (bc k4)]<|.w (o.n<0)
      (λk5=>ae [tB 40 (bn k5)]<|rQ (bP false) (bP (kz o m)) nc)
      (λk5=>ae [tB 40 (bt k5)]<|.w (16<o.n)
       (λk6=>ae [tB 44 (bn k6)]<|rQ (bP false) (bP (kz o m)) nc)
       (λk6=>ae [tB 44 (bt k6),ah 47 (decide ((0:Int)<1)) aG,ai 52 (decide ((1:Int)<1)) aG,.g (Li g.kind g.a g.b g.n g.cn g.cd g.kind g.a wD g.n wD wD:pH prog .eql 107 (Fw o) (.agg [iP o.kind,iP o.a,iP 0,iP o.n,iP 0,iP 0]) (.bool (decide (o.kind=o.kind/\o.a=o.a/\o.b=0/\o.n=o.n/\o.cn=0/\o.cd=0))))]<|.w (o.kind=o.kind/\o.a=o.a/\o.b=0/\o.n=o.n/\o.cn=0/\o.cd=0)
        (λk7=>ae [tB 58 (bn k7),ai 61 ((1:Int)==0) aG]<|.w (0<=o.a)
         (λk8=>ae [tB 65 (bn k8)]<|.w (o.a<m)
          (λk9=>ae [tB 70 (bn k9)]<|.w (0<=o.b)
           (λk10=>ae [tB 75 (bn k10)]<|rQ (bP (decide (o.b<m))) (bP (kz o m)) nc)
           (λk10=>ae [tB 75 (bt k10)]<|rQ (bP false) (bP (kz o m)) nc))
          (λk9=>ae [tB 70 (bt k9)]<|rQ (bP false) (bP (kz o m)) nc))
         (λk8=>ae [tB 65 (bt k8)]<|rQ (bP false) (bP (kz o m)) nc))
        (λk7=>ae [tB 58 (bt k7)]<|rQ (bP false) (bP (kz o m)) nc))))
     (λk4=>ae [tB 34 (a7 k4)]<|rQ (bP false) (bP (kz o m)) nc))))) 
def Ym(L:List Nat):((L.length:Int)=0)↔L=[]:=by rw[<-gT];omega
def zB(d:RD):Bool:=!d.neg&&decide (d.L=[])&&(d.e==0)
def I1{d:RD}:zB d=true↔d.Zero:=by simp[zB,RD.Zero,and_assoc]
def Is(d:RD):gV 165 [qk d] (bP (zB d)):=
 ak call165 func165 (.w (d.neg=true)
  (λk1=>ae [tB 4 k1]<|rQ (bP false) (bP (zB d)) (by simp[zB,k1]))
  (λk1=>ae [tB 4 (bd k1)]<|.w ((d.L.length:Int)=0)
   (λk2=>ae [tB 10 (bc k2)]<|rQ (bP (d.e==0)) (bP (zB d)) (by simp[zB,k1,show d.L=[]from(Ym _).1 k2]))
   (λk2=>ae [tB 10 (a7 k2)]<|rQ (bP false) (bP (zB d)) (by simp[zB,k1,show ¬d.L=[]from λq=>k2 ((Ym _).2 q)])))) 
def B0(x:RI)(g:x.jV):gV 90 [wC x] (bP (nU x)):=by
 have ga:=g.lo;have gb:=g.hi;by_cases ha:x.all=true
 .have nb:∀ q:x.all=false,False:=λq=>by rw[ha]at q;cases q
  by_cases h1:x.lo.Zero
  .by_cases h2:x.hi.Zero
   .rw [uC.2 (.inl ⟨ha,h1,h2⟩)];exact ak call90 func90 (af [ah 4 x.all ha,.c (Is x.lo),ah 7 (zB x.lo) (I1.2 h1),.c (Is x.hi),ah 11 (zB x.hi) (I1.2 h2)]) 
   .have e:nU x=false:=by simpa using λq=>(uC.1 q).elim (λq=>h2 q.2.2) λq=>nb q.1
    rw[e];exact ak call90 func90 (af [ah 4 x.all ha,.c (Is x.lo),ah 7 (zB x.lo) (I1.2 h1),.c (Is x.hi),ai 11 (zB x.hi) (bd λq=>h2 (I1.1 q))]) 
  .have e:nU x=false:=by simpa using λq=>(uC.1 q).elim (λq=>h1 q.2.1) λq=>nb q.1
   rw[e];exact ak call90 func90 (af [ah 4 x.all ha,.c (Is x.lo),ai 7 (zB x.lo) (bd λq=>h1 (I1.1 q))]) 
 .replace ha:x.all=false:=by simpa using ha
  by_cases h1:x.lo.Ok
  .by_cases h2:x.hi.Ok
   .have v1:=h1.valid;have v2:=h2.valid;have e1:wC x=ij x.iv:=by rw[<-KT,show x.iv.raw=x by show RI.mk x.lo.dy.raw x.hi.dy.raw x.all=x;rw[h1.eq ga,h2.eq gb]]
    rw[e1];by_cases h3:iL x.lo.dy x.hi.dy<=0
    .rw [uC.2 (.inr ⟨ha,h1,h2,h3⟩)];exact ak call90 func90 (af [ai 4 x.iv.all ha,ag [gZ x.iv.lo] (DM _ aF),ag [gZ x.iv.hi] (DM _ aF),.c (QC x.iv.lo x.iv.hi v1.yd v2.yd),tB 27 (bn h3)]) 
    .have e:nU x=false:=by simpa using λq=>(uC.1 q).elim (λq=>by rw[ha]at q;exact Bool.noConfusion q.1) λq=>h3 q.2.2.2
     rw[e];exact ak call90 func90 (af [ai 4 x.iv.all ha,ag [gZ x.iv.lo] (DM _ aF),ag [gZ x.iv.hi] (DM _ aF),.c (QC x.iv.lo x.iv.hi v1.yd v2.yd),tB 27 (bt h3)]) 
   .have e:nU x=false:=by simpa using λq=>(uC.1 q).elim (λq=>by rw[ha]at q;exact Bool.noConfusion q.1) λq=>h2 q.2.2.1
    rw[e];exact ak call90 func90 (af [ai 4 x.all ha,ag [qk x.lo] (Lz _ aF _ Fv),ah 15 (LH x.lo) (Fv.2 h1),ag [qk x.hi] (Lz _ aF _ Fv),ai 19 (LH x.hi) (bd λq=>h2 (Fv.1 q))]) 
  .have e:nU x=false:=by simpa using λq=>(uC.1 q).elim (λq=>by rw[ha]at q;exact Bool.noConfusion q.1) λq=>h1 q.2.1
   rw[e];exact ak call90 func90 (af [ai 4 x.all ha,ag [qk x.lo] (Lz _ aF _ Fv),ai 15 (LH x.lo) (bd λq=>h1 (Fv.1 q))]) 
def alS(s:kB)(g:s.jV)(sm:s.rT)(hc:¬(0<=s.ik/\s.ik<=8/\s.gX.length<=200/\s.iu.length<=200/\1<=s.iz/\s.iz<=4/\(s.iu.length:Int)=s.iz/\s.params.length<=4/\s.ik=s.iz+(s.params.length:Int))):gV 77 [lH s] (bP false):=by
 have sp:=sm.params;have sq:=sm.gX;exact ak call77 func77 (.w (s.ik<0)
  (λk1=>af [tB 11 (bn k1)])
  (λk1=>ae [tB 11 (bt k1)]<|.w (8<s.ik)
   (λk2=>af [tB 15 (bn k2)])
   (λk2=>ae [tB 15 (bt k2)]<|.w (200<(s.gX.length:Int))
    (λk3=>af [tB 21 (bn k3)])
    (λk3=>ae [tB 21 (bt k3)]<|.w (200<(s.iu.length:Int))
     (λk4=>af [tB 27 (bn k4)])
     (λk4=>ae [tB 27 (bt k4)]<|.w (s.iz<1)
      (λk5=>af [tB 32 (bn k5)])
      (λk5=>ae [tB 32 (bt k5)]<|.w (4<s.iz)
       (λk6=>af [tB 37 (bn k6)])
       (λk6=>ae [tB 37 (bt k6)]<|.w ((s.iu.length:Int)=s.iz)
        (λk7=>ae [tB 45 (bg k7)]<|.w (4<(s.params.length:Int))
         (λk8=>af [tB 51 (bn k8)])
         (λk8=>ae [tB 51 (bt k8),iq (s.iz+(s.params.length:Int)) aE]<|.w (s.ik=(s.iz+(s.params.length:Int)))
          (λk9=>.x (by exact absurd ⟨aE,aE,aE,aE,aE,aE,aE,aE,aE⟩ hc))
          (λk9=>af [tB 62 (bh k9)])))
        (λk7=>af [tB 45 (bh k7)])))))))) 
def alT(s:kB)(g:s.jV)(sm:s.rT)(i0:0<=s.ik)(i8:s.ik<=8)(l1:s.gX.length<=200)(l2:s.iu.length<=200)(s1:1<=s.iz)(s4:s.iz<=4)(e1:(s.iu.length:Int)=s.iz)(e2:s.ik=s.iz+(s.params.length:Int))(p4:s.params.length<=4)(N:Nat)(oR:N<s.gX.length)(jm:∀ k,k<N->(kz (s.gX.getD k lK) (s.ik+(k:Int)))=true)(hN:(kz (s.gX.getD N lK) (s.ik+(N:Int)))=false):gV 77 [lH s] (bP false):=by
 have sp:=sm.params;have sq:=sm.gX;exact ak call77 func77 (af [tF 11 (s.ik<0) aE,tF 15 (8<s.ik) aE,tF 21 (200<(s.gX.length:Int)) aE,tF 27 (200<(s.iu.length:Int)) aE,tF 32 (s.iz<1) aE,tF 37 (4<s.iz) aE,ai 45 ((s.iu.length:Int) != s.iz) (by simp[e1]),tF 51 (4<(s.params.length:Int)) aE,iq (s.iz+(s.params.length:Int)) aE,ai 62 (s.ik != (s.iz+(s.params.length:Int))) (by simp[e2]),.s (Sp.jc (Zw s N) 0 N aE (λx hx kW=>by
    have pJ:=g.gX x;exact iy (af [tT 68 ((x:Int)<s.gX.length) aE,iX (x:Int) (s.gX.length) aE,iq (s.ik+(x:Int)) aE,.c (DF (s.gX.getD x lK) (s.ik+(x:Int)) pJ),ai 81 (!(kz (s.gX.getD x lK) (s.ik+(x:Int)))) (by rw[jm x aE];rfl),iq ((x:Int)+1) aE]) aI)
  (λhx=>by
    have pJ:=g.gX N;exact iy (af [tT 68 ((N:Int)<s.gX.length) aE,iX (N:Int) (s.gX.length) aE,iq (s.ik+(N:Int)) aE,.c (DF (s.gX.getD N lK) (s.ik+(N:Int)) pJ),ah 81 (!(kz (s.gX.getD N lK) (s.ik+(N:Int)))) (by rw[hN];rfl)]) aI) aM:jb 5 Tryz.f77 (Zw s N 0) .ret ⟨131,true,[(2,.e (bP false))],[]⟩) .nil]) 
def alU(s:kB)(g:s.jV)(sm:s.rT)(i0:0<=s.ik)(i8:s.ik<=8)(l1:s.gX.length<=200)(l2:s.iu.length<=200)(s1:1<=s.iz)(s4:s.iz<=4)(e1:(s.iu.length:Int)=s.iz)(e2:s.ik=s.iz+(s.params.length:Int))(p4:s.params.length<=4)(jm:∀ k,k<s.gX.length->(kz (s.gX.getD k lK) (s.ik+(k:Int)))=true)(N:Nat)(oR:N<s.iu.length)(qH:∀ k,k<N->0<=(s.iu.getD k 0)/\(s.iu.getD k 0)<s.ik+(s.gX.length:Int))(hN:(s.iu.getD N 0)<0):gV 77 [lH s] (bP false):=by
 have sp:=sm.params;have sq:=sm.gX;exact ak call77 func77 (af [tF 11 (s.ik<0) aE,tF 15 (8<s.ik) aE,tF 21 (200<(s.gX.length:Int)) aE,tF 27 (200<(s.iu.length:Int)) aE,tF 32 (s.iz<1) aE,tF 37 (4<s.iz) aE,ai 45 ((s.iu.length:Int) != s.iz) (by simp[e1]),tF 51 (4<(s.params.length:Int)) aE,iq (s.iz+(s.params.length:Int)) aE,ai 62 (s.ik != (s.iz+(s.params.length:Int))) (by simp[e2]),.s (Sp.jc (Zr s) 0 s.gX.length aE (λx hx kW=>by
    have pJ:=g.gX x;exact iy (af [tT 68 ((x:Int)<s.gX.length) aE,iX (x:Int) (s.gX.length) aE,iq (s.ik+(x:Int)) aE,.c (DF (s.gX.getD x lK) (s.ik+(x:Int)) pJ),ai 81 (!(kz (s.gX.getD x lK) (s.ik+(x:Int)))) (by rw[jm x aE];rfl),iq ((x:Int)+1) aE]) aI)
  (λhx=>by
    exact iy (af [tF 68 ((s.gX.length:Int)<s.gX.length) aE]) aI) aM:jb 5 Tryz.f77 (Zr s 0) (.exit 0) ⟨131,true,[(3,.box 3 0),(1,.box 1 0)],[(3,.cells 25 [iP s.ik,kA s.gX,kF s.iu]),(1,.cells 28 [iP s.ik,kA s.gX,kF s.iu,iP s.iz,jH s.params])]⟩) .nil,.s (Sp.jc (Zx s N) 0 N aE (λx hx kW=>by
    have KE:=qH x aE;exact iy (af [tT 86 ((x:Int)<s.iu.length) aE,iX (x:Int) (s.iu.length) aE,tF 94 ((s.iu.getD x 0)<0) aE,iX (x:Int) (s.iu.length) aE,
     iq (s.ik+(s.gX.length:Int)) aE,tF 107 ((s.ik+(s.gX.length:Int))<=(s.iu.getD x 0)) aE,iq ((x:Int)+1) aE]) aI)
  (λhx=>by
    exact iy (af [tT 86 ((N:Int)<s.iu.length) aE,iX (N:Int) (s.iu.length) aE,tB 94 (bn hN)]) aI) aM:jb 10 Tryz.f77 (Zx s N 0) .ret ⟨131,true,[(2,.e (bP false))],[]⟩) .nil]) 
def alV(s:kB)(g:s.jV)(sm:s.rT)(i0:0<=s.ik)(i8:s.ik<=8)(l1:s.gX.length<=200)(l2:s.iu.length<=200)(s1:1<=s.iz)(s4:s.iz<=4)(e1:(s.iu.length:Int)=s.iz)(e2:s.ik=s.iz+(s.params.length:Int))(p4:s.params.length<=4)(jm:∀ k,k<s.gX.length->(kz (s.gX.getD k lK) (s.ik+(k:Int)))=true)(N:Nat)(oR:N<s.iu.length)(qH:∀ k,k<N->0<=(s.iu.getD k 0)/\(s.iu.getD k 0)<s.ik+(s.gX.length:Int))(hN:0<=(s.iu.getD N 0))(hM:s.ik+(s.gX.length:Int)<=(s.iu.getD N 0)):gV 77 [lH s] (bP false):=by
 have sp:=sm.params;have sq:=sm.gX;exact ak call77 func77 (af [tF 11 (s.ik<0) aE,tF 15 (8<s.ik) aE,tF 21 (200<(s.gX.length:Int)) aE,tF 27 (200<(s.iu.length:Int)) aE,tF 32 (s.iz<1) aE,tF 37 (4<s.iz) aE,ai 45 ((s.iu.length:Int) != s.iz) (by simp[e1]),tF 51 (4<(s.params.length:Int)) aE,iq (s.iz+(s.params.length:Int)) aE,ai 62 (s.ik != (s.iz+(s.params.length:Int))) (by simp[e2]),.s (Sp.jc (Zs s) 0 s.gX.length aE (λx hx kW=>by
    have pJ:=g.gX x;exact iy (af [tT 68 ((x:Int)<s.gX.length) aE,iX (x:Int) (s.gX.length) aE,iq (s.ik+(x:Int)) aE,.c (DF (s.gX.getD x lK) (s.ik+(x:Int)) pJ),ai 81 (!(kz (s.gX.getD x lK) (s.ik+(x:Int)))) (by rw[jm x aE];rfl),iq ((x:Int)+1) aE]) aI)
  (λhx=>by
    exact iy (af [tF 68 ((s.gX.length:Int)<s.gX.length) aE]) aI) aM:jb 5 Tryz.f77 (Zs s 0) (.exit 0) ⟨131,true,[(3,.box 3 0),(1,.box 1 0)],[(3,.cells 25 [iP s.ik,kA s.gX,kF s.iu]),(1,.cells 28 [iP s.ik,kA s.gX,kF s.iu,iP s.iz,jH s.params])]⟩) .nil,.s (Sp.jc (Zy s N) 0 N aE (λx hx kW=>by
    have KE:=qH x aE;exact iy (af [tT 86 ((x:Int)<s.iu.length) aE,iX (x:Int) (s.iu.length) aE,tF 94 ((s.iu.getD x 0)<0) aE,iX (x:Int) (s.iu.length) aE,
     iq (s.ik+(s.gX.length:Int)) aE,tF 107 ((s.ik+(s.gX.length:Int))<=(s.iu.getD x 0)) aE,iq ((x:Int)+1) aE]) aI)
  (λhx=>by
    exact iy (af [tT 86 ((N:Int)<s.iu.length) aE,iX (N:Int) (s.iu.length) aE,tF 94 ((s.iu.getD N 0)<0) aE,iX (N:Int) (s.iu.length) aE,
    iq (s.ik+(s.gX.length:Int)) aE,tB 107 (bn hM)]) aI) aM:jb 10 Tryz.f77 (Zy s N 0) .ret ⟨131,true,[(2,.e (bP false))],[]⟩) .nil]) 
def alW(s:kB)(g:s.jV)(sm:s.rT)(i0:0<=s.ik)(i8:s.ik<=8)(l1:s.gX.length<=200)(l2:s.iu.length<=200)(s1:1<=s.iz)(s4:s.iz<=4)(e1:(s.iu.length:Int)=s.iz)(e2:s.ik=s.iz+(s.params.length:Int))(p4:s.params.length<=4)(jm:∀ k,k<s.gX.length->(kz (s.gX.getD k lK) (s.ik+(k:Int)))=true)(qH:∀ k,k<s.iu.length->0<=(s.iu.getD k 0)/\(s.iu.getD k 0)<s.ik+(s.gX.length:Int))(N:Nat)(oR:N<s.params.length)(uX:∀ k,k<N->nU (s.params.getD k jP)=true/\(s.params.getD k jP).all=false)(hN:(s.params.getD N jP).all=true):gV 77 [lH s] (bP false):=by
 have sp:=sm.params;have sq:=sm.gX;exact ak call77 func77 (af [tF 11 (s.ik<0) aE,tF 15 (8<s.ik) aE,tF 21 (200<(s.gX.length:Int)) aE,tF 27 (200<(s.iu.length:Int)) aE,tF 32 (s.iz<1) aE,tF 37 (4<s.iz) aE,ai 45 ((s.iu.length:Int) != s.iz) (by simp[e1]),tF 51 (4<(s.params.length:Int)) aE,iq (s.iz+(s.params.length:Int)) aE,ai 62 (s.ik != (s.iz+(s.params.length:Int))) (by simp[e2]),.s (Sp.jc (Zt s) 0 s.gX.length aE (λx hx kW=>by
    have pJ:=g.gX x;exact iy (af [tT 68 ((x:Int)<s.gX.length) aE,iX (x:Int) (s.gX.length) aE,iq (s.ik+(x:Int)) aE,.c (DF (s.gX.getD x lK) (s.ik+(x:Int)) pJ),ai 81 (!(kz (s.gX.getD x lK) (s.ik+(x:Int)))) (by rw[jm x aE];rfl),iq ((x:Int)+1) aE]) aI)
  (λhx=>by
    exact iy (af [tF 68 ((s.gX.length:Int)<s.gX.length) aE]) aI) aM:jb 5 Tryz.f77 (Zt s 0) (.exit 0) ⟨131,true,[(3,.box 3 0),(1,.box 1 0)],[(3,.cells 25 [iP s.ik,kA s.gX,kF s.iu]),(1,.cells 28 [iP s.ik,kA s.gX,kF s.iu,iP s.iz,jH s.params])]⟩) .nil,.s (Sp.jc (Zz s) 0 s.iu.length aE (λx hx kW=>by
    have KE:=qH x aE;exact iy (af [tT 86 ((x:Int)<s.iu.length) aE,iX (x:Int) (s.iu.length) aE,tF 94 ((s.iu.getD x 0)<0) aE,iX (x:Int) (s.iu.length) aE,
     iq (s.ik+(s.gX.length:Int)) aE,tF 107 ((s.ik+(s.gX.length:Int))<=(s.iu.getD x 0)) aE,iq ((x:Int)+1) aE]) aI)
  (λhx=>by
    exact iy (af [tF 86 ((s.iu.length:Int)<s.iu.length) aE]) aI) aM:jb 10 Tryz.f77 (Zz s 0) (.exit 2) ⟨131,true,[(1,.box 1 0)],[(1,.cells 28 [iP s.ik,kA s.gX,kF s.iu,iP s.iz,jH s.params])]⟩) .nil,.s (Sp.jc (ZA s N) 0 N aE (λx hx kW=>by
    have Kn:=g.params x;exact iy (af [tT 113 ((x:Int)<s.params.length) aE,iX (x:Int) (s.params.length) aE,ai 121 ((s.params.getD x jP).all) ((uX x aE).2),
     iX (x:Int) (s.params.length) aE,.c (B0 (s.params.getD x jP) aF),ai 129 (!(nU (s.params.getD x jP))) (by rw[(uX x aE).1];rfl),iq ((x:Int)+1) aE]) aI)
  (λhx=>by
    have Kn:=g.params N;exact iy (af [tT 113 ((N:Int)<s.params.length) aE,iX (N:Int) (s.params.length) aE,ah 121 ((s.params.getD N jP).all) hN]) aI) aM:jb 15 Tryz.f77 (ZA s N 0) .ret ⟨131,true,[(2,.e (bP false))],[]⟩) .nil]) 
def alX(s:kB)(g:s.jV)(sm:s.rT)(i0:0<=s.ik)(i8:s.ik<=8)(l1:s.gX.length<=200)(l2:s.iu.length<=200)(s1:1<=s.iz)(s4:s.iz<=4)(e1:(s.iu.length:Int)=s.iz)(e2:s.ik=s.iz+(s.params.length:Int))(p4:s.params.length<=4)(jm:∀ k,k<s.gX.length->(kz (s.gX.getD k lK) (s.ik+(k:Int)))=true)(qH:∀ k,k<s.iu.length->0<=(s.iu.getD k 0)/\(s.iu.getD k 0)<s.ik+(s.gX.length:Int))(N:Nat)(oR:N<s.params.length)(uX:∀ k,k<N->nU (s.params.getD k jP)=true/\(s.params.getD k jP).all=false)(hN:(s.params.getD N jP).all=false)(hM:nU (s.params.getD N jP)=false):gV 77 [lH s] (bP false):=by
 have sp:=sm.params;have sq:=sm.gX;exact ak call77 func77 (af [tF 11 (s.ik<0) aE,tF 15 (8<s.ik) aE,tF 21 (200<(s.gX.length:Int)) aE,tF 27 (200<(s.iu.length:Int)) aE,tF 32 (s.iz<1) aE,tF 37 (4<s.iz) aE,ai 45 ((s.iu.length:Int) != s.iz) (by simp[e1]),tF 51 (4<(s.params.length:Int)) aE,iq (s.iz+(s.params.length:Int)) aE,ai 62 (s.ik != (s.iz+(s.params.length:Int))) (by simp[e2]),.s (Sp.jc (Zu s) 0 s.gX.length aE (λx hx kW=>by
    have pJ:=g.gX x;exact iy (af [tT 68 ((x:Int)<s.gX.length) aE,iX (x:Int) (s.gX.length) aE,iq (s.ik+(x:Int)) aE,.c (DF (s.gX.getD x lK) (s.ik+(x:Int)) pJ),ai 81 (!(kz (s.gX.getD x lK) (s.ik+(x:Int)))) (by rw[jm x aE];rfl),iq ((x:Int)+1) aE]) aI)
  (λhx=>by
    exact iy (af [tF 68 ((s.gX.length:Int)<s.gX.length) aE]) aI) aM:jb 5 Tryz.f77 (Zu s 0) (.exit 0) ⟨131,true,[(3,.box 3 0),(1,.box 1 0)],[(3,.cells 25 [iP s.ik,kA s.gX,kF s.iu]),(1,.cells 28 [iP s.ik,kA s.gX,kF s.iu,iP s.iz,jH s.params])]⟩) .nil,.s (Sp.jc (ZB s) 0 s.iu.length aE (λx hx kW=>by
    have KE:=qH x aE;exact iy (af [tT 86 ((x:Int)<s.iu.length) aE,iX (x:Int) (s.iu.length) aE,tF 94 ((s.iu.getD x 0)<0) aE,iX (x:Int) (s.iu.length) aE,
     iq (s.ik+(s.gX.length:Int)) aE,tF 107 ((s.ik+(s.gX.length:Int))<=(s.iu.getD x 0)) aE,iq ((x:Int)+1) aE]) aI)
  (λhx=>by
    exact iy (af [tF 86 ((s.iu.length:Int)<s.iu.length) aE]) aI) aM:jb 10 Tryz.f77 (ZB s 0) (.exit 2) ⟨131,true,[(1,.box 1 0)],[(1,.cells 28 [iP s.ik,kA s.gX,kF s.iu,iP s.iz,jH s.params])]⟩) .nil,.s (Sp.jc (ZC s N) 0 N aE (λx hx kW=>by
    have Kn:=g.params x;exact iy (af [tT 113 ((x:Int)<s.params.length) aE,iX (x:Int) (s.params.length) aE,ai 121 ((s.params.getD x jP).all) ((uX x aE).2),
     iX (x:Int) (s.params.length) aE,.c (B0 (s.params.getD x jP) aF),ai 129 (!(nU (s.params.getD x jP))) (by rw[(uX x aE).1];rfl),iq ((x:Int)+1) aE]) aI)
  (λhx=>by
    have Kn:=g.params N;exact iy (af [tT 113 ((N:Int)<s.params.length) aE,iX (N:Int) (s.params.length) aE,ai 121 ((s.params.getD N jP).all) hN,iX (N:Int) (s.params.length) aE,.c (B0 (s.params.getD N jP) aF),ah 129 (!(nU (s.params.getD N jP))) (by rw[hM];rfl)]) aI) aM:jb 15 Tryz.f77 (ZC s N 0) .ret ⟨131,true,[(2,.e (bP false))],[]⟩) .nil]) 
def alY(s:kB)(g:s.jV)(sm:s.rT)(i0:0<=s.ik)(i8:s.ik<=8)(l1:s.gX.length<=200)(l2:s.iu.length<=200)(s1:1<=s.iz)(s4:s.iz<=4)(e1:(s.iu.length:Int)=s.iz)(e2:s.ik=s.iz+(s.params.length:Int))(p4:s.params.length<=4)(jm:∀ k,k<s.gX.length->(kz (s.gX.getD k lK) (s.ik+(k:Int)))=true)(qH:∀ k,k<s.iu.length->0<=(s.iu.getD k 0)/\(s.iu.getD k 0)<s.ik+(s.gX.length:Int))(uX:∀ k,k<s.params.length->nU (s.params.getD k jP)=true/\(s.params.getD k jP).all=false):gV 77 [lH s] (bP true):=by
 have sp:=sm.params;have sq:=sm.gX;exact ak call77 func77 (af [tF 11 (s.ik<0) aE,tF 15 (8<s.ik) aE,tF 21 (200<(s.gX.length:Int)) aE,tF 27 (200<(s.iu.length:Int)) aE,tF 32 (s.iz<1) aE,tF 37 (4<s.iz) aE,ai 45 ((s.iu.length:Int) != s.iz) (by simp[e1]),tF 51 (4<(s.params.length:Int)) aE,iq (s.iz+(s.params.length:Int)) aE,ai 62 (s.ik != (s.iz+(s.params.length:Int))) (by simp[e2]),.s (Sp.jc (Zv s) 0 s.gX.length aE (λx hx kW=>by
    have pJ:=g.gX x;exact iy (af [tT 68 ((x:Int)<s.gX.length) aE,iX (x:Int) (s.gX.length) aE,iq (s.ik+(x:Int)) aE,.c (DF (s.gX.getD x lK) (s.ik+(x:Int)) pJ),ai 81 (!(kz (s.gX.getD x lK) (s.ik+(x:Int)))) (by rw[jm x aE];rfl),iq ((x:Int)+1) aE]) aI)
  (λhx=>by
    exact iy (af [tF 68 ((s.gX.length:Int)<s.gX.length) aE]) aI) aM:jb 5 Tryz.f77 (Zv s 0) (.exit 0) ⟨131,true,[(3,.box 3 0),(1,.box 1 0)],[(3,.cells 25 [iP s.ik,kA s.gX,kF s.iu]),(1,.cells 28 [iP s.ik,kA s.gX,kF s.iu,iP s.iz,jH s.params])]⟩) .nil,.s (Sp.jc (ZD s) 0 s.iu.length aE (λx hx kW=>by
    have KE:=qH x aE;exact iy (af [tT 86 ((x:Int)<s.iu.length) aE,iX (x:Int) (s.iu.length) aE,tF 94 ((s.iu.getD x 0)<0) aE,iX (x:Int) (s.iu.length) aE,
     iq (s.ik+(s.gX.length:Int)) aE,tF 107 ((s.ik+(s.gX.length:Int))<=(s.iu.getD x 0)) aE,iq ((x:Int)+1) aE]) aI)
  (λhx=>by
    exact iy (af [tF 86 ((s.iu.length:Int)<s.iu.length) aE]) aI) aM:jb 10 Tryz.f77 (ZD s 0) (.exit 2) ⟨131,true,[(1,.box 1 0)],[(1,.cells 28 [iP s.ik,kA s.gX,kF s.iu,iP s.iz,jH s.params])]⟩) .nil,.s (Sp.jc (ZE s) 0 s.params.length aE (λx hx kW=>by
    have Kn:=g.params x;exact iy (af [tT 113 ((x:Int)<s.params.length) aE,iX (x:Int) (s.params.length) aE,ai 121 ((s.params.getD x jP).all) ((uX x aE).2),
     iX (x:Int) (s.params.length) aE,.c (B0 (s.params.getD x jP) aF),ai 129 (!(nU (s.params.getD x jP))) (by rw[(uX x aE).1];rfl),iq ((x:Int)+1) aE]) aI)
  (λhx=>by
    exact iy (af [tF 113 ((s.params.length:Int)<s.params.length) aE]) aI) aM:jb 15 Tryz.f77 (ZE s 0) (.exit 4) ⟨131,true,[],[]⟩) .nil]) 
def alZ(s:kB)(g:s.jV)(sm:s.rT):gV 77 [lH s] (bP (oC s)):=by
 by_cases hc:0<=s.ik/\s.ik<=8/\s.gX.length<=200/\s.iu.length<=200/\1<=s.iz/\s.iz<=4/\(s.iu.length:Int)=s.iz/\s.params.length<=4/\s.ik=s.iz+(s.params.length:Int)
 rotate_left
 .rw [show oC s=false from anc hc];exact alS s g sm hc
 obtain⟨i0,i8,l1,l2,s1,s4,e1,p4,e2⟩:=hc;by_cases c2:QJ s=true
 rotate_left
 .rw [show oC s=false by unfold oC;rw[bd c2];simp];obtain⟨N,n1,n2,n3⟩:=Je c2;exact alT s g sm i0 i8 l1 l2 s1 s4 e1 e2 p4 N n1 (λk hk=>by simpa using n3 k hk) (by simpa using n2)
 have jm:∀ k,k<s.gX.length->kz (s.gX.getD k lK) (s.ik+(k:Int))=true:=λk hk=>bX.1 c2 k (b5.2 hk)
 by_cases c3:zp s=true
 rotate_left
 .rw [show oC s=false by unfold oC;rw[bd c3];simp];obtain⟨N,n1,n2,n3⟩:=Je c3;have qH:∀ k,k<N->0<=s.iu.getD k 0/\s.iu.getD k 0<s.ik+(s.gX.length:Int):=λk hk=>by simpa[zi]using n3 k hk
  have hN:¬(0<=s.iu.getD N 0/\s.iu.getD N 0<s.ik+(s.gX.length:Int)):=λq=>by
   rw[show zi s (s.iu.getD N 0)=true from bn q]at n2;cases n2
  by_cases h0:s.iu.getD N 0<0
  .exact alU s g sm i0 i8 l1 l2 s1 s4 e1 e2 p4 jm N n1 qH h0
  .exact alV s g sm i0 i8 l1 l2 s1 s4 e1 e2 p4 jm N n1 qH aE aE 
 have qH:∀ k,k<s.iu.length->0<=s.iu.getD k 0/\s.iu.getD k 0<s.ik+(s.gX.length:Int):=λk hk=>by simpa[zi]using List.all_eq_true.1 c3 k (b5.2 hk)
 by_cases c4:Fy s=true
 .rw [show oC s=true by unfold oC;rw[bn (⟨i0,i8,l1,l2⟩:_/\_),c2,c3,bn (⟨s1,s4,e1,e2,p4⟩:_/\_),c4];rfl];exact alY s g sm i0 i8 l1 l2 s1 s4 e1 e2 p4 jm qH λk hk=>by simpa[oA]using List.all_eq_true.1 c4 k (b5.2 hk)
 .rw [show oC s=false by unfold oC;rw[bd c4];simp];obtain⟨N,n1,n2,n3⟩:=Je c4;have uX:∀ k,k<N->nU (s.params.getD k jP)=true/\(s.params.getD k jP).all=false:=λk hk=>by simpa[oA]using n3 k hk
  cases ha:(s.params.getD N jP).all with
  |true=>exact alW s g sm i0 i8 l1 l2 s1 s4 e1 e2 p4 jm qH N n1 uX ha
  |false=>exact alX s g sm i0 i8 l1 l2 s1 s4 e1 e2 p4 jm qH N n1 uX ha (by
   cases hk:nU (s.params.getD N jP)with
   |false=>rfl
   |true=>rw[show oA (s.params.getD N jP)=true by unfold oA;rw[hk,ha];rfl]at n2;cases n2)
def Xj(b:List RI)(N:Nat)(i:Nat):PS:=⟨31,true,[(3,.e (iP i)),(0,.e (jH b))],[]⟩
def Xk(b:List RI)(N:Nat)(i:Nat):PS:=⟨31,true,[(3,.e (iP i)),(0,.e (jH b))],[]⟩
def Xl(b:List RI)(i:Nat):PS:=⟨31,true,[(3,.e (iP i)),(0,.e (jH b))],[]⟩
def aju(b:List RI)(h:¬(1<=b.length/\b.length<=8)):gV 112 [jH b] (bP false):=
 ak call112 func112 (.w ((b.length:Int)<1)
  (λk1=>af [tB 6 (bn k1)])
  (λk1=>ae [tB 6 (bt k1)]<|.w (8<(b.length:Int))
   (λk2=>af [tB 10 (bn k2)])
   (λk2=>.x aE))) 
def ajv(b:List RI)(gb:∀ i,(b.getD i jP).jV)(BA:1<=b.length)(hl:b.length<=8)(N:Nat)(oR:N<b.length)(jm:∀ k,k<N->nU (b.getD k jP)=true/\(b.getD k jP).all=false)(hN:(b.getD N jP).all=true):gV 112 [jH b] (bP false):=
 ak call112 func112 (af [tF 6 ((b.length:Int)<1) aE,tF 10 (8<(b.length:Int)) aE,.s (Sp.jc (Xj b N) 0 N aE (λi hi oK=>by
    exact iy (af [tT 15 ((i:Int)<b.length) aE,iX (i:Int) (b.length) aE,ai 22 ((b.getD i jP).all) ((jm i aE).2),iX (i:Int) (b.length) aE,.c (B0 (b.getD i jP) (gb _)),ai 29 (!(nU (b.getD i jP))) (by rw[(jm i aE).1];rfl),iq ((i:Int)+1) aE]) aI)
  (λhi=>by
    exact iy (af [tT 15 ((N:Int)<b.length) aE,iX (N:Int) (b.length) aE,ah 22 ((b.getD N jP).all) hN]) aI) aM:jb 4 f112 (Xj b N 0) .ret ⟨31,true,[(2,.e (bP false))],[]⟩) .nil]) 
def ajw(b:List RI)(gb:∀ i,(b.getD i jP).jV)(BA:1<=b.length)(hl:b.length<=8)(N:Nat)(oR:N<b.length)(jm:∀ k,k<N->nU (b.getD k jP)=true/\(b.getD k jP).all=false)(hN:(b.getD N jP).all=false)(hM:nU (b.getD N jP)=false):gV 112 [jH b] (bP false):=
 ak call112 func112 (af [tF 6 ((b.length:Int)<1) aE,tF 10 (8<(b.length:Int)) aE,.s (Sp.jc (Xk b N) 0 N aE (λi hi oK=>by
    exact iy (af [tT 15 ((i:Int)<b.length) aE,iX (i:Int) (b.length) aE,ai 22 ((b.getD i jP).all) ((jm i aE).2),iX (i:Int) (b.length) aE,.c (B0 (b.getD i jP) (gb _)),ai 29 (!(nU (b.getD i jP))) (by rw[(jm i aE).1];rfl),iq ((i:Int)+1) aE]) aI)
  (λhi=>by
    exact iy (af [tT 15 ((N:Int)<b.length) aE,iX (N:Int) (b.length) aE,ai 22 ((b.getD N jP).all) hN,iX (N:Int) (b.length) aE,.c (B0 (b.getD N jP) (gb _)),ah 29 (!(nU (b.getD N jP))) (by rw[hM];rfl)]) aI) aM:jb 4 f112 (Xk b N 0) .ret ⟨31,true,[(2,.e (bP false))],[]⟩) .nil]) 
def ajx(b:List RI)(gb:∀ i,(b.getD i jP).jV)(BA:1<=b.length)(hl:b.length<=8)(jm:∀ k,k<b.length->nU (b.getD k jP)=true/\(b.getD k jP).all=false):gV 112 [jH b] (bP true):=
 ak call112 func112 (af [tF 6 ((b.length:Int)<1) aE,tF 10 (8<(b.length:Int)) aE,.s (Sp.jc (Xl b) 0 b.length aE (λi hi oK=>by
    exact iy (af [tT 15 ((i:Int)<b.length) aE,iX (i:Int) (b.length) aE,ai 22 ((b.getD i jP).all) ((jm i aE).2),iX (i:Int) (b.length) aE,.c (B0 (b.getD i jP) (gb _)),ai 29 (!(nU (b.getD i jP))) (by rw[(jm i aE).1];rfl),iq ((i:Int)+1) aE]) aI)
  (λhi=>by
    exact iy (af [tF 15 ((b.length:Int)<b.length) aE]) aI) aM:jb 4 f112 (Xl b 0) (.exit 0) ⟨31,true,[],[]⟩) .nil]) 
def ajy(b:List RI)(gb:∀ i,(b.getD i jP).jV):gV 112 [jH b] (bP (sN b)):=by
 unfold sN;by_cases h:1<=b.length/\b.length<=8
 rotate_left
 .rw [bt h];exact aju b h
 rw[bn h,dX];by_cases c4:((List.range b.length).all λi=>oA (b.getD i jP))=true
 .rw [c4];exact ajx b gb h.1 h.2 λk hk=>by simpa[oA]using List.all_eq_true.1 c4 k (b5.2 hk)
 .rw [bd c4];obtain⟨N,n1,n2,n3⟩:=Jf c4;have uX:∀ k,k<N->nU (b.getD k jP)=true/\(b.getD k jP).all=false:=λk hk=>by simpa[oA]using n3 k hk
  cases ha:(b.getD N jP).all with
  |true=>exact ajv b gb h.1 h.2 N n1 uX ha
  |false=>exact ajw b gb h.1 h.2 N n1 uX ha (by
   cases hk:nU (b.getD N jP)with
   |false=>rfl
   |true=>rw[show oA (b.getD N jP)=true by unfold oA;rw[hk,ha];rfl]at n2;cases n2)
def aeP{c:mz}(h:¬0<c.step.dy.iI):jr c=false:=by unfold jr;rw[bt h];simp
def aeQ{c:mz}(h:¬iL c.step.dy (iS 20)<=0):jr c=false:=by unfold jr;rw[bt h];simp
def ajj(d:RD)(gs:d.jV)(hd:¬d.Ok):gV 186 [qk d] (bP false):=
 ak call186 func186 (af [ag [qk d] (Lz _ gs false (by simp[hd]))]) 
def ajk(d:Dy)(hv:d.ib):gV 186 [gZ d] (bP (decide (0<d.iI))):=
 ak call186 func186 (af [ag [gZ d] (DM _ aF),ag [gZ d] (B5 _)]) 
def ajp(c:mz)(g:c.jV)(hd:¬c.step.Ok):gV 113 [.agg [iP c.method,iP c.order,iP c.jX,bP c.step.neg,ia c.step.L,iP c.step.e,iP c.jy,iP c.kK]] (bP (jr c)):=by
 have gs:=g.step;exact ak call113 func113 (.w (1<=c.method)
  (λk1=>ae [tB 5 (bn k1)]<|.w (c.method<=3)
   (λk2=>ae [tB 9 (bn k2)]<|.w (1<=c.order)
    (λk3=>ae [tB 14 (bn k3)]<|.w (c.order<=15)
     (λk4=>ae [tB 19 (bn k4)]<|.w (8<=c.jX)
      (λk5=>ae [tB 24 (bn k5)]<|.w (c.jX<=256)
       (λk6=>ae [tB 29 (bn k6),.c (ajj c.step gs hd)]<|rQ (bP false) (bP (jr c)) (jB (JB hd).symm))
       (λk6=>ae [tB 29 (bt k6)]<|rQ (bP false) (bP (jr c)) (jB (lf aE).symm)))
      (λk5=>ae [tB 24 (bt k5)]<|rQ (bP false) (bP (jr c)) (jB (lf aE).symm)))
     (λk4=>ae [tB 19 (bt k4)]<|rQ (bP false) (bP (jr c)) (jB (lf aE).symm)))
    (λk3=>ae [tB 14 (bt k3)]<|rQ (bP false) (bP (jr c)) (jB (lf aE).symm)))
   (λk2=>ae [tB 9 (bt k2)]<|rQ (bP false) (bP (jr c)) (jB (Ef aE).symm)))
  (λk1=>ae [tB 5 (bt k1)]<|rQ (bP false) (bP (jr c)) (jB (Ef aE).symm))) 
def ajr(c:mz)(hd:c.step.Ok):gV 113 [.agg ([iP c.method,iP c.order,iP c.jX]++ix c.step.dy++[iP c.jy,iP c.kK])] (bP (jr c)):=by
 have hv:=hd.valid;exact ak call113 func113 (.w (1<=c.method)
  (λk1=>ae [tB 5 (bn k1)]<|.w (c.method<=3)
   (λk2=>ae [tB 9 (bn k2)]<|.w (1<=c.order)
    (λk3=>ae [tB 14 (bn k3)]<|.w (c.order<=15)
     (λk4=>ae [tB 19 (bn k4)]<|.w (8<=c.jX)
      (λk5=>ae [tB 24 (bn k5)]<|.w (c.jX<=256)
       (λk6=>ae [tB 29 (bn k6),.c (ajk c.step.dy hv)]<|.w (0<(Dy.iI c.step.dy))
        (λk7=>ae [tB 34 (bn k7),.c (BM 20 aE aE),.c (tS c.step.dy (iS 20) hv.qK abn.qK)]<|.w ((iL c.step.dy (iS 20))<=0)
         (λk8=>ae [tB 41 (bn k8)]<|.w (0<=c.jy)
          (λk9=>ae [tB 46 (bn k9)]<|.w (c.jy<=200)
           (λk10=>ae [tB 51 (bn k10)]<|.w (1<=c.kK)
            (λk11=>ae [tB 56 (bn k11)]<|rQ (bP (decide (c.kK<=1000))) (bP (jr c)) (jB (if hq:c.kK<=1000 then(by rw[A9 ⟨aE,aE⟩ ⟨aE,aE,aE,aE,aE,aE,aE,hq⟩ hd,bn (show 0<c.step.dy.iI from aF),bn (show iL c.step.dy (iS 20)<=0 from aF),bn hq];rfl)else(by rw[lf aE,bt hq]))))
            (λk11=>ae [tB 56 (bt k11)]<|rQ (bP false) (bP (jr c)) (jB (lf aE).symm)))
           (λk10=>ae [tB 51 (bt k10)]<|rQ (bP false) (bP (jr c)) (jB (lf aE).symm)))
          (λk9=>ae [tB 46 (bt k9)]<|rQ (bP false) (bP (jr c)) (jB (lf aE).symm)))
         (λk8=>ae [tB 41 (bt k8)]<|rQ (bP false) (bP (jr c)) (jB (aeQ aF).symm)))
        (λk7=>ae [tB 34 (bt k7)]<|rQ (bP false) (bP (jr c)) (jB (aeP aF).symm)))
       (λk6=>ae [tB 29 (bt k6)]<|rQ (bP false) (bP (jr c)) (jB (lf aE).symm)))
      (λk5=>ae [tB 24 (bt k5)]<|rQ (bP false) (bP (jr c)) (jB (lf aE).symm)))
     (λk4=>ae [tB 19 (bt k4)]<|rQ (bP false) (bP (jr c)) (jB (lf aE).symm)))
    (λk3=>ae [tB 14 (bt k3)]<|rQ (bP false) (bP (jr c)) (jB (lf aE).symm)))
   (λk2=>ae [tB 9 (bt k2)]<|rQ (bP false) (bP (jr c)) (jB (Ef aE).symm)))
  (λk1=>ae [tB 5 (bt k1)]<|rQ (bP false) (bP (jr c)) (jB (Ef aE).symm))) 
def ajq(c:mz)(g:c.jV):gV 113 [yl c] (bP (jr c)):=by
 by_cases hd:c.step.Ok
 .rw [Qt hd g.step];exact ajr c hd
 .exact ajp c g hd
def aji(c:mz)(hb:jr c=true):gV 40 [.agg [iP c.method,iP c.order,iP c.jX,bP c.step.neg,ia c.step.L,iP c.step.e,iP c.jy,iP c.kK]] (iP (wu c)):=by
 obtain⟨_,⟨q1,q2,q3,q4,q5,q6,_⟩,_⟩:=F1 hb;have qt:Int.tdiv c.jy 4=c.jy/4:=fC q5;exact ak call40 func40 (ae [.a (aE:0<(4:Int)),iq (c.jy) aE,iq (2+(Int.tdiv c.jy 4)) aE]<|rR (iP (wu c)) (.iT rfl:E.le (iP (if(2+(Int.tdiv c.jy 4))<c.order then(2+(Int.tdiv c.jy 4))else c.order)) (iP (wu c)))) 
noncomputable def qR(s:kB)(x:List RI)(c:mz):Bool:=oC s&&(sN x&&(decide ((x.length:Int)=s.iz)&&jr c))
def ai8(s:kB)(g:s.jV)(sm:s.rT)(x:List RI)(gx:∀ i,(x.getD i jP).jV)(ng:x.length<=1000)(c:mz)(gc:c.jV):gV 39 [lH s,jH x,.agg [iP c.method,iP c.order,iP c.jX,bP c.step.neg,ia c.step.L,iP c.step.e,iP c.jy,iP c.kK]] (bP (qR s x c)):=
 ak call39 func39 (ae [ag [lH s] (alZ _ g sm)]<|.w (oC s=true)
  (λk1=>ae [tB 8 k1,ag [jH x] (ajy x gx)]<|.w (sN x=true)
   (λk2=>ae [tB 11 k2]<|.w ((x.length:Int)=s.iz)
    (λk3=>ae [tB 18 (bc k3),ag [.agg [iP c.method,iP c.order,iP c.jX,bP c.step.neg,ia c.step.L,iP c.step.e,iP c.jy,iP c.kK]] (ajq c gc)]<|rQ (bP (jr c)) (bP (qR s x c)) (jB aZ))
    (λk3=>ae [tB 18 (a7 k3)]<|rQ (bP false) (bP (qR s x c)) (jB aZ)))
   (λk2=>ae [tB 11 (bd k2)]<|rQ (bP false) (bP (qR s x c)) (jB aZ)))
  (λk1=>ae [tB 8 (bd k1)]<|rQ (bP false) (bP (qR s x c)) (jB aZ))) 
def Y7{h m:Dy}{B:Nat}(hb:ie h.m<=3)(h0:h.m≠0)(hl:-62<=h.e)(ht:h.im<=22)(hm:m.ib)(hB:ie m.m<=B):∀ q:Nat,(jF h q m).m=0 /\ -16384-62*(q:Int)<=(jF h q m).e/\(jF h q m).e<=16384 \/
 (jF h q m).m≠0/\ie (jF h q m).m<=B+3*q /\ -16384-62*(q:Int)<=(jF h q m).e/\((ie (jF h q m).m:Nat):Int)+(jF h q m).e<=16384+22*(q:Int)
 | 0=>by
  show m.m=0/\_/\_\/m.m≠0/\_/\_/\_;by_cases z:m.m=0
  .have e:=hm.exp;exact .inl ⟨z,by show -16384-62*((0:Nat):Int)<=m.e;omega,by show m.e<=16384;omega⟩
  .obtain ⟨r1,r2,r3,r4⟩:=hm.range.resolve_left z;exact .inr ⟨z,by show ie m.m<=B+3*0;omega,by show -16384-62*((0:Nat):Int)<=m.e;omega,by show(ie m.m:Int)+m.e<=16384+22*((0:Nat):Int);omega⟩
 |q+1=>by
  have G6:h.im=(ie h.m:Int)+h.e:=by unfold Dy.im;rw[bj h0]
  rcases Y7 hb h0 hl ht hm hB q with⟨z,e1,e2⟩|⟨z,b1,e1,e2⟩
  .have e:jF h (q+1) m=iA:=Yb z;rw[e];exact .inl ⟨rfl,by show -16384-62*((q+1:Nat):Int)<=0;omega,by show(0:Int)<=16384;omega⟩
  .obtain ⟨c1,c2,c3,c4⟩:=zQ (s:=(jF h q m).neg != h.neg) (e:=(jF h q m).e+h.e) (dm z h0);have c5:=Jv (jF h q m).m h.m;refine .inr ⟨c3,?_,?_,?_⟩
   .show ie (canon _ _ _).m<=B+3*(q+1)
    omega
   .show -16384-62*((q+1:Nat):Int)<=(canon _ _ _).e;omega
   .show ((ie (canon _ _ _).m:Nat):Int)+(canon _ _ _).e<=16384+22*((q+1:Nat):Int)
    omega
def alC{j:Int}(j1:-248<=j)(j2:j<=72){m:Dy}(hm:m.ib)(hB:ie m.m<=512){q:Nat}(hq:q<=16):nd (jF (nD j) q m):=by
 have he:=HI j;have ht:=uB j;rcases Y7 (B:=512) (Hz j) (E8 j) aE aE hm hB q with⟨z,e1,e2⟩|⟨z,b1,e1,e2⟩
 .exact ⟨by rw[z,oz];exact bS _,aE,aE⟩
 .have hb:=ny z;exact⟨Ho aE,aE,aE⟩
def Tf(s:kB)(x:List RI)(c:mz)(k:Nat)(M:List (List Iv))(L:List Dy)(q:Nat):PS:=⟨115,true,[(12,.own 12),(64,.e (iP q)),(63,.e (iP M.length)),(62,.e (kX M)),(9,.e (iP k)),(8,.e (iP 12)),(7,.box 7 0),(5,.box 5 0),(3,.box 3 0),(1,.e (jH x))],[(12,.row true 39 q 7 (iM (kt (λq=>(M.getD q []).getD k gY) q))),(7,.cells 31 (ix iA)),(5,.cells 81 [iP c.method,iP c.order,iP c.jX,bP c.step.neg,ia c.step.L,iP c.step.e,iP c.jy,iP c.kK]),(3,.cells 28 [iP s.ik,kA s.gX,kF s.iu,iP s.iz,jH s.params])]⟩
def Th(s:kB)(x:List RI)(c:mz)(k:Nat)(M:List (List Iv))(L:List Dy)(m:Nat):PS:=⟨115,true,[(84,.e (iP m)),(83,.e (iP L.length)),(82,.e (jN L)),(8,.e (iP 12)),(7,.box 7 0),(5,.box 5 0),(3,.box 3 0),(1,.e (jH x))],[(7,.cells 31 (ix iA)),(5,.cells 81 [iP c.method,iP c.order,iP c.jX,bP c.step.neg,ia c.step.L,iP c.step.e,iP c.jy,iP c.kK]),(3,.cells 28 [iP s.ik,kA s.gX,kF s.iu,iP s.iz,jH s.params])]⟩
def Tg(s:kB)(x:List RI)(c:mz)(k:Nat)(M:List (List Iv))(L:List Dy)(N:Nat)(q:Nat):PS:=⟨115,true,[(12,.own 12),(64,.e (iP q)),(63,.e (iP M.length)),(62,.e (kX M)),(9,.e (iP k)),(8,.e (iP 0)),(7,.box 7 0),(5,.box 5 0),(3,.box 3 0),(1,.e (jH x))],[(12,.row true 39 q 7 (iM (kt (λq=>(M.getD q []).getD k gY) q))),(7,.cells 31 (ix (L.getD N iA))),(5,.cells 81 [iP c.method,iP c.order,iP c.jX,bP c.step.neg,ia c.step.L,iP c.step.e,iP c.jy,iP c.kK]),(3,.cells 28 [iP s.ik,kA s.gX,kF s.iu,iP s.iz,jH s.params])]⟩
def Ti(s:kB)(x:List RI)(c:mz)(k:Nat)(M:List (List Iv))(L:List Dy)(N:Nat)(m:Nat):PS:=⟨115,true,[(84,.e (iP m)),(83,.e (iP L.length)),(82,.e (jN L)),(8,.e (iP 0)),(7,.box 7 0),(5,.box 5 0),(3,.box 3 0),(1,.e (jH x))],[(7,.cells 31 (ix (L.getD N iA))),(5,.cells 81 [iP c.method,iP c.order,iP c.jX,bP c.step.neg,ia c.step.L,iP c.step.e,iP c.jy,iP c.kK]),(3,.cells 28 [iP s.ik,kA s.gX,kF s.iu,iP s.iz,jH s.params])]⟩
def aeT(s:kB)(x:List RI)(c:mz)(hS:o0 s x c=false):gV 6 [lH s,jH x,.agg [iP c.method,iP c.order,iP c.jX,bP c.step.neg,ia c.step.L,iP c.step.e,iP c.jy,iP c.kK]] (bP true):=
 ak call6 func6 (af [.c Hk,.c (KY s x c),ah 26 (!(o0 s x c)) (by rw[hS];rfl),.c Hk]) 
def aeV(s:kB)(x:List RI)(c:mz)(hS:o0 s x c=true)(hC:gV 38 [lH s,jH x,.agg [iP c.method,iP c.order,iP c.jX,bP c.step.neg,ia c.step.L,iP c.step.e,iP c.jy,iP c.kK]] (.iw [gZ iA,iP 1]))(hV:gV 39 [lH s,jH x,.agg [iP c.method,iP c.order,iP c.jX,bP c.step.neg,ia c.step.L,iP c.step.e,iP c.jy,iP c.kK]] (bP (qR s x c)))(hB:qR s x c=false):gV 6 [lH s,jH x,.agg [iP c.method,iP c.order,iP c.jX,bP c.step.neg,ia c.step.L,iP c.step.e,iP c.jy,iP c.kK]] (bP true):=
 ak call6 func6 (af [.c Hk,.c (KY s x c),ai 26 (!(o0 s x c)) (by rw[hS];rfl),ag [lH s,jH x,.agg [iP c.method,iP c.order,iP c.jX,bP c.step.neg,ia c.step.L,iP c.step.e,iP c.jy,iP c.kK]] hC,ag [lH s,jH x,.agg [iP c.method,iP c.order,iP c.jX,bP c.step.neg,ia c.step.L,iP c.step.e,iP c.jy,iP c.kK]] hV,ah 40 (!(qR s x c)) (by rw[hB];rfl),ah 42 ((1:Int)==1) aG,ah 47 (((gW iA.m).length:Int)==0) (sk (pE.2 rfl))]) 
def aeW(s:kB)(x:List RI)(c:mz)(hS:o0 s x c=true)(hC:gV 38 [lH s,jH x,.agg [iP c.method,iP c.order,iP c.jX,bP c.step.neg,ia c.step.L,iP c.step.e,iP c.jy,iP c.kK]] (.iw [gZ iA,iP 12]))(hV:gV 39 [lH s,jH x,.agg [iP c.method,iP c.order,iP c.jX,bP c.step.neg,ia c.step.L,iP c.step.e,iP c.jy,iP c.kK]] (bP (qR s x c)))(hB:qR s x c=true)(k:Nat)(M:List (List Iv))(L:List Dy)(hO:gV 40 [.agg [iP c.method,iP c.order,iP c.jX,bP c.step.neg,ia c.step.L,iP c.step.e,iP c.jy,iP c.kK]] (iP k))(CH:gV 41 [lH s,jH x,iP (k:Int),iP c.jX] (.iw [kX M,iP 0]))(hMl:M.length<=100)(hM:∀ i,i<M.length->k<(M.getD i []).length)(CL:gV 42 [ig (kt (λq=>(M.getD q []).getD k gY) M.length),iP (k:Int),iP c.jy,qk c.step] (jN L))(J6:L.length<=1000)(NS:∀ m,m<L.length->gV 43 [lH s,jH x,gZ (L.getD m iA),iP c.jX] (.iw [.v (.slice none 0 0),iP 12])):gV 6 [lH s,jH x,.agg [iP c.method,iP c.order,iP c.jX,bP c.step.neg,ia c.step.L,iP c.step.e,iP c.jy,iP c.kK]] (bP true):=
 ak call6 func6 (af [.c Hk,.c (KY s x c),ai 26 (!(o0 s x c)) (by rw[hS];rfl),ag [lH s,jH x,.agg [iP c.method,iP c.order,iP c.jX,bP c.step.neg,ia c.step.L,iP c.step.e,iP c.jy,iP c.kK]] hC,ag [lH s,jH x,.agg [iP c.method,iP c.order,iP c.jX,bP c.step.neg,ia c.step.L,iP c.step.e,iP c.jy,iP c.kK]] hV,ai 40 (!(qR s x c)) (by rw[hB];rfl),ag [.agg [iP c.method,iP c.order,iP c.jX,bP c.step.neg,ia c.step.L,iP c.step.e,iP c.jy,iP c.kK]] hO,ag [lH s,jH x,iP k,iP c.jX] CH,ai 61 ((0:Int) != 0) aG,.y 12 12 true 39 7 (iM []),.s (Sp.jc (Tf s x c k M L) 0 M.length aE (λq hq yW=>by
    have hMq:=hM q aE;have qq:[(M.getD q []).getD k gY].length=1:=rfl;exact iy (ae [tT 65 ((q:Int)<M.length) aE,iX (q:Int) (M.length) aE,iX (k:Int) ((M.getD q []).length) aE,.o 73 (.e (lV _):aj (.sl true 1 7 λi_ j_=>(iO ((M.getD q []).getD k gY)).getD (i_*7+j_) (.v (.bool false))) (ig [(M.getD q []).getD k gY])),.a (aE:(q+[(M.getD q []).getD k gY].length)*88<=140737488355328),iq ((q:Int)+1) aE]<|.e (af [.b 12 (Gv rfl rfl:Bx.le (.row true 39 (q+[(M.getD q []).getD k gY].length) 7 (λi_ j_=>if i_<q then(iM (kt (λq=>(M.getD q []).getD k gY) q)) i_ j_ else(E.kR (ig [(M.getD q []).getD k gY])) (i_-q) j_)) (.row true 39 (q+1) 7 (iM (kt (λq=>(M.getD q []).getD k gY) (q+1)))))])) aI)
  (λhq=>by
    exact iy (ae [tF 65 ((M.length:Int)<M.length) aE,.z 12]<|.e (af [.o 12 (.e (zw (wT _ _).symm):aj (.sl true M.length 7 (iM (kt (λq=>(M.getD q []).getD k gY) M.length))) (ig (kt (λq=>(M.getD q []).getD k gY) M.length)))])) aI) aM:jb 12 Tryz.f6 (Tf s x c k M L 0) (.exit 0) ⟨115,true,[(12,.e (ig (kt (λq=>(M.getD q []).getD k gY) M.length))),(9,.e (iP k)),(8,.e (iP 12)),(7,.box 7 0),(5,.box 5 0),(3,.box 3 0),(1,.e (jH x))],[(7,.cells 31 (ix iA)),(5,.cells 81 [iP c.method,iP c.order,iP c.jX,bP c.step.neg,ia c.step.L,iP c.step.e,iP c.jy,iP c.kK]),(3,.cells 28 [iP s.ik,kA s.gX,kF s.iu,iP s.iz,jH s.params])]⟩) (af [.b 12 (Iy:Bx.le (.row true 39 0 7 (iM [])) (.row true 39 0 7 (iM (kt (λq=>(M.getD q []).getD k gY) 0))))]),ag [ig (kt (λq=>(M.getD q []).getD k gY) M.length),iP k,iP c.jy,qk c.step] CL,.s (Sp.jc (Th s x c k M L) 0 L.length aE (λm hm Ae=>by
    exact iy (af [tT 85 ((m:Int)<L.length) aE,iX (m:Int) (L.length) aE,ag [lH s,jH x,gZ (L.getD m iA),iP c.jX] (NS m aE),ai 98 ((12:Int)==0) aG,iq ((m:Int)+1) aE]) aI)
  (λhm=>by
    exact iy (af [tF 85 ((L.length:Int)<L.length) aE]) aI) aM:jb 17 Tryz.f6 (Th s x c k M L 0) (.exit 2) ⟨115,true,[(8,.e (iP 12)),(7,.box 7 0)],[(7,.cells 31 (ix iA))]⟩) .nil,ah 108 ((12:Int)==12) aG,ah 113 (((gW iA.m).length:Int)==0) (sk (pE.2 rfl))]) 
def aeU(s:kB)(x:List RI)(c:mz)(hS:o0 s x c=true)(N:Nat)(hV:gV 39 [lH s,jH x,.agg [iP c.method,iP c.order,iP c.jX,bP c.step.neg,ia c.step.L,iP c.step.e,iP c.jy,iP c.kK]] (bP (qR s x c)))(hB:qR s x c=true)(k:Nat)(M:List (List Iv))(L:List Dy)(hO:gV 40 [.agg [iP c.method,iP c.order,iP c.jX,bP c.step.neg,ia c.step.L,iP c.step.e,iP c.jy,iP c.kK]] (iP k))(CH:gV 41 [lH s,jH x,iP (k:Int),iP c.jX] (.iw [kX M,iP 0]))(hMl:M.length<=100)(hM:∀ i,i<M.length->k<(M.getD i []).length)(CL:gV 42 [ig (kt (λq=>(M.getD q []).getD k gY) M.length),iP (k:Int),iP c.jy,qk c.step] (jN L))(J6:L.length<=1000)(hN:N<L.length)(hv:(L.getD N iA).ib)(hC:gV 38 [lH s,jH x,.agg [iP c.method,iP c.order,iP c.jX,bP c.step.neg,ia c.step.L,iP c.step.e,iP c.jy,iP c.kK]] (.iw [gZ (L.getD N iA),iP 0]))(NS:∀ m,m<N->gV 43 [lH s,jH x,gZ (L.getD m iA),iP c.jX] (.iw [.v (.slice none 0 0),iP 12]))(bx:List Iv)(hFo:gV 43 [lH s,jH x,gZ (L.getD N iA),iP c.jX] (.iw [ig bx,iP 0])):gV 6 [lH s,jH x,.agg [iP c.method,iP c.order,iP c.jX,bP c.step.neg,ia c.step.L,iP c.step.e,iP c.jy,iP c.kK]] (bP true):=
 ak call6 func6 (af [.c Hk,.c (KY s x c),ai 26 (!(o0 s x c)) (by rw[hS];rfl),ag [lH s,jH x,.agg [iP c.method,iP c.order,iP c.jX,bP c.step.neg,ia c.step.L,iP c.step.e,iP c.jy,iP c.kK]] hC,ag [lH s,jH x,.agg [iP c.method,iP c.order,iP c.jX,bP c.step.neg,ia c.step.L,iP c.step.e,iP c.jy,iP c.kK]] hV,ai 40 (!(qR s x c)) (by rw[hB];rfl),ag [.agg [iP c.method,iP c.order,iP c.jX,bP c.step.neg,ia c.step.L,iP c.step.e,iP c.jy,iP c.kK]] hO,ag [lH s,jH x,iP k,iP c.jX] CH,ai 61 ((0:Int) != 0) aG,.y 12 12 true 39 7 (iM []),.s (Sp.jc (Tg s x c k M L N) 0 M.length aE (λq hq yW=>by
    have hMq:=hM q aE;have qq:[(M.getD q []).getD k gY].length=1:=rfl;exact iy (ae [tT 65 ((q:Int)<M.length) aE,iX (q:Int) (M.length) aE,iX (k:Int) ((M.getD q []).length) aE,.o 73 (.e (lV _):aj (.sl true 1 7 λi_ j_=>(iO ((M.getD q []).getD k gY)).getD (i_*7+j_) (.v (.bool false))) (ig [(M.getD q []).getD k gY])),.a (aE:(q+[(M.getD q []).getD k gY].length)*88<=140737488355328),iq ((q:Int)+1) aE]<|.e (af [.b 12 (Gv rfl rfl:Bx.le (.row true 39 (q+[(M.getD q []).getD k gY].length) 7 (λi_ j_=>if i_<q then(iM (kt (λq=>(M.getD q []).getD k gY) q)) i_ j_ else(E.kR (ig [(M.getD q []).getD k gY])) (i_-q) j_)) (.row true 39 (q+1) 7 (iM (kt (λq=>(M.getD q []).getD k gY) (q+1)))))])) aI)
  (λhq=>by
    exact iy (ae [tF 65 ((M.length:Int)<M.length) aE,.z 12]<|.e (af [.o 12 (.e (zw (wT _ _).symm):aj (.sl true M.length 7 (iM (kt (λq=>(M.getD q []).getD k gY) M.length))) (ig (kt (λq=>(M.getD q []).getD k gY) M.length)))])) aI) aM:jb 12 Tryz.f6 (Tg s x c k M L N 0) (.exit 0) ⟨115,true,[(12,.e (ig (kt (λq=>(M.getD q []).getD k gY) M.length))),(9,.e (iP k)),(8,.e (iP 0)),(7,.box 7 0),(5,.box 5 0),(3,.box 3 0),(1,.e (jH x))],[(7,.cells 31 (ix (L.getD N iA))),(5,.cells 81 [iP c.method,iP c.order,iP c.jX,bP c.step.neg,ia c.step.L,iP c.step.e,iP c.jy,iP c.kK]),(3,.cells 28 [iP s.ik,kA s.gX,kF s.iu,iP s.iz,jH s.params])]⟩) (af [.b 12 (Iy:Bx.le (.row true 39 0 7 (iM [])) (.row true 39 0 7 (iM (kt (λq=>(M.getD q []).getD k gY) 0))))]),ag [ig (kt (λq=>(M.getD q []).getD k gY) M.length),iP k,iP c.jy,qk c.step] CL,.s (Sp.jc (Ti s x c k M L N) 0 N aE (λm hm Ae=>by
    exact iy (af [tT 85 ((m:Int)<L.length) aE,iX (m:Int) (L.length) aE,ag [lH s,jH x,gZ (L.getD m iA),iP c.jX] (NS m aE),ai 98 ((12:Int)==0) aG,iq ((m:Int)+1) aE]) aI)
  (λhm=>by
    exact iy (af [tT 85 ((N:Int)<L.length) aE,iX (N:Int) (L.length) aE,ag [lH s,jH x,gZ (L.getD N iA),iP c.jX] hFo,ah 98 ((0:Int)==0) aG,ah 100 ((0:Int)==0) aG,.c (DJ _ _ true ⟨λ_=>rfl,λ_=>rfl⟩ (by have:=hv.gW;omega) (by have:=hv.gW;omega):gV 34 [gZ (L.getD N iA),gZ (L.getD N iA)] _)]) aI) aM:jb 17 Tryz.f6 (Ti s x c k M L N 0) .ret ⟨115,true,[(6,.e (bP true))],[]⟩) .nil]) 
def IG(j0:Int)(n1 n:Nat):List Dy:=(List.range n).map λ(i:Nat)=>nD (j0-(n1:Int)-i)
def an9(j0:Int)(n1 n:Nat):(IG j0 n1 n).length=n:=by simp[IG]
def Q4(j0:Int)(n1:Nat){n i:Nat}(h:i<n):(IG j0 n1 n).getD i iA=nD (j0-(n1:Int)-i):=by simp[IG,bw,h]
def ajm(l:List Iv)(d:Dy)(k t:Nat)(j0:Int)(nP:l.length<=100)(hl:∀ i,(l.getD i gY).ib)(hd:d.ib)(hk:k<=16)(ht:t<=1000)(hN:gV 116 [gZ d] (.iw [gZ (nD j0),bP true]))(sQ:(nD j0).ib)(hj:j0<=72)
 (qp:∀ j:Int,-248<=j->j<=72->∀ x,x<l.length->(l.getD x gY).all=false->∀ q,q<=k->nd (jF (nD j) q (iR (l.getD x gY)))) (n1:Nat) (hA:∀ n:Nat,n<n1 -> -248<=j0-(n:Int)/\sA l (nD (j0-(n:Int))) k t=false)
 (hB:j0-(n1:Int) < -248\/sA l (nD (j0-(n1:Int))) k t=true):
 ∃ n2:Nat,gV 42 [ig l,iP (k:Int),iP (t:Int),gZ d] (jN (IG j0 n1 n2))/\n2<=40/\(∀ m:Nat,m<n2 -> -248<=j0-(n1:Int)-m)/\(n2=40\/j0-(n1:Int)-n2 < -248):=by
 have jQ:∀ n,n<=n1->(nD (j0-(n:Int))).ib:=λn hn=>by
  rcases n with _|n
  .rwa [(aE:j0-((0:Nat):Int)=j0)]
  .have:=(hA n aE).1;exact ri aE aE 
 by_cases hb:j0-(n1:Int) < -248
 .exact ⟨0,ajn l d k t j0 nP hl hd hk ht hN hj qp n1 0 jQ hA hb rfl (λm hm=>absurd hm (bE m)),aE,λm hm=>absurd hm (bE m),.inr aE⟩
 have tn:=hB.resolve_left hb;by_cases NK:-248<=j0-(n1:Int)-39
 .exact ⟨40,ajl l d k t j0 nP hl hd hk ht hN hj qp n1 40 jQ hA aE tn rfl (λm hm=> aE),aE,λm hm=> aE,.inl rfl⟩
 .obtain ⟨n2,lR⟩:∃ n2:Nat,(n2:Int)=j0-(n1:Int)+249:=⟨(j0-(n1:Int)+249).toNat,aE⟩
  exact⟨n2,ajo l d k t j0 nP hl hd hk ht hN hj qp n1 n2 jQ hA aE tn aE aE aE (λm hm=> aE),aE,λm hm=> aE,.inr aE⟩
def agx{l:List Iv}{j:Int}{k t:Nat}(j1:-248<=j)(j2:j<=72)(hk:k<=16)(ht:t<=200)(hl:∀ i,i<l.length->(l.getD i gY).ib/\ie (iR (l.getD i gY)).m<=300):
 sA l (nD j) k t=(((List.range l.length).all λi=>!(l.getD i gY).all)&&qE ((List.range l.length).map λi=>iR (l.getD i gY)) (nD j) k (t:Int)):=by
 have key:∀ i,i<l.length->rA (nD j) (t:Int) k (iR (l.getD i gY))=decide (iL (jF (nD j) k (iR (l.getD i gY))) (iS (0-(t:Int)))<=0):=λi hi=>by
  obtain⟨h1,h2⟩:=hl i hi;obtain⟨v1,v2⟩:=h1.ko;exact US j1 j2 aE aE k _ hk (Dt v1 v2) (akg _) aE 
 rw[dA];unfold sA qE;simp only[cB,aqT,bO,bX,b5];constructor
 .intro h;refine⟨λi hi=>(h i hi).1,λi hi=>?_⟩;have e:(List.map (λi=>iR (l.getD i gY)) (List.range l.length)).getD i iA=iR (l.getD i gY):=by simp[bw,hi]
  rw[e,key i hi];exact(h i hi).2
 .intro ⟨h1,h2⟩ i hi;refine⟨h1 i hi,?_⟩;have e:(List.map (λi=>iR (l.getD i gY)) (List.range l.length)).getD i iA=iR (l.getD i gY):=by simp[bw,hi]
  have:=h2 i hi;rw[e,key i hi]at this;exact this
def ai3{s:jM}{x:List Iv}{p k:Nat}(h:mh s)(hx:kG s.iz x)(il:8<=p)(ic:p<=512)(oJ:1<=k)(hk:k<=16){i:Nat}(hi:i<x.length):ie (iR (((ji s x p k).getD i []).getD k gY)).m<=p:=by
 obtain⟨n,rfl⟩:∃ n,k=n+1:=⟨k-1,aE⟩
 have e:(ji s x p (n+1)).getD i []=(ji s x p n).getD i []++[yh s (ji s x p n) p n i]:=by simp[ji,bw,hi]
 have hs:=(Dk h hx il ic n aE i (by rw[ur];exact hi)).len;have e2:((ji s x p n).getD i []++[yh s (ji s x p n) p n i]).getD (n+1) gY=yh s (ji s x p n) p n i:=by
  rw[bw,fu aE,hs];simp
 rw[e,e2];unfold yh;exact akj _ _ aE 
def ajF(s:kB)(x:List RI)(c:mz)(g:s.jV)(gx0:∀ y,y ∈ x->y.jV)(gc:c.jV):gV 6 [lH s,jH x,yl c] (bP true):=by
 have gx:=ahs gx0;by_cases hS:o0 s x c=true
 rotate_left
 .exact aeT s x c (bd hS)
 obtain⟨ng,sm,r1,r2,_⟩:=an2 hS;have ng:x.length<=1000:= aE ;have hV:=ai8 s g sm x gx ng c gc;by_cases hn:jr c=true/\oC s=true/\sN x=true/\(x.length:Int)=s.iz
 rotate_left
 .have hB:qR s x c=false:=by
   refine bd λq=>hn ?_
   unfold qR at q;simp only[bO,cv]at q;exact⟨q.2.2.2,q.1,q.2.1,q.2.2.1⟩
  exact aeV s x c hS (ae0 s g sm x gx ng c gc hn) hV hB
 obtain⟨hb,h1,h2,h3⟩:=hn;have hB:qR s x c=true:=by unfold qR;rw[h1,h2,hb,bn h3];rfl
 obtain⟨_,⟨q1,q2,q3,q4,q5,q6,q7,q8⟩,hd,hs,hc⟩:=F1 hb;obtain⟨k1,k2,_⟩:=YY hb;obtain⟨p,hp⟩:=eE (aE:0<=c.jX);obtain⟨k,hk⟩:=eE (aE:0<=wu c);obtain⟨t,ht⟩:=eE q5;obtain⟨o1,o2,o3,o4⟩:=Tz g h1 gx h2 h3;obtain⟨o,j0,n1,n2,hC,e1,e2,e3,hL,hF,hG⟩:=ae1 s g sm x gx ng c gc hb h1 h2 h3 hp hk ht;obtain⟨X,hX⟩:∃ X,X=x.map RI.iv:=⟨_,rfl⟩
 rw[<-hX]at o2 o4 hL hF hG;have OO:=Dk o1 o2 (aE:8<=p) (aE:p<=512) k aE;have GO:=ur s.v X p k;have lX:=o2.len;have s4:=o1.s4;obtain⟨M,hM⟩:∃ M,M=ji s.v X p k:=⟨_,rfl⟩
 rw[<-hM]at OO GO;obtain⟨LL,NQ⟩:∃ LL,LL=kt (λq=>(M.getD q []).getD k gY) M.length:=⟨_,rfl⟩
 have J6:LL.length=M.length:=by rw[NQ,wT]
 have GA:∀ i,i<M.length->LL.getD i gY=(M.getD i []).getD k gY:=λi hi=>by rw[NQ,Gt hi]
 have Vt:∀ i,(LL.getD i gY).ib:=λi=>by
  by_cases hi:i<M.length
  .rw [GA i hi];exact(OO i hi).ok k
  .rw [bw,ch aE];exact mg
 have Vr:∀ i,i<LL.length->(LL.getD i gY).ib/\ie (iR (LL.getD i gY)).m<=300:=λi hi=>by
  refine⟨Vt i,?_⟩;rw[GA i aE,hM];have:=ai3 o1 o2 (aE:8<=p) (aE:p<=512) (aE:1<=k) (aE:k<=16) (i:=i) aE;omega
 have hmB:ux s.v X k p=(List.range LL.length).all λi=>!(LL.getD i gY).all:=by
  unfold ux;rw[<-hM,J6,dA,bX,bX];constructor<;>intro q i hi
  .rw [GA i (b5.1 hi)];exact q i hi
  .have:=q i hi;rwa[GA i (b5.1 hi)]at this
 have hmL:uy s.v X k p=(List.range LL.length).map λi=>iR (LL.getD i gY):=by
  unfold uy;rw[<-hM,J6];exact eX λi hi=>by rw[GA i (b5.1 hi)]
 have qo:∀ j:Int,-248<=j->j<=72->sA LL (nD j) k t=(ux s.v X k p&&qE (uy s.v X k p) (nD j) k (t:Int)):=λj j1 j2=>by
  rw[agx j1 j2 aE aE Vr,hmB,hmL]
 have hO:=aji c hb;rw[hk]at hO;have CH:=M5 s.v X k p o1 o2 aE aE aE;rw[<-hM,<-o3,<-o4,<-hp]at CH;obtain⟨_,hj0,vR,_⟩:=Fa hd.valid hs;have sQ:(nD j0).ib:=by rw[<-e1,hj0];exact vR
 have hN:=ajh c.step.dy hd.valid hs;rw[e1]at hN;have qp:∀ j:Int,-248<=j->j<=72->∀ i,i<LL.length->(LL.getD i gY).all=false->∀ q,q<=k->nd (jF (nD j) q (iR (LL.getD i gY))):=λj j1 j2 i hi _ q hq=>by
  obtain⟨w1,w2⟩:=Vr i hi;obtain⟨v1,v2⟩:=w1.ko;exact alC j1 j2 (Dt v1 v2) aE aE 
 have ahQ:∃ m1:Nat,(∀ n:Nat,n<m1 -> -248<=j0-(n:Int)/\sA LL (nD (j0-(n:Int))) k t=false)/\(j0-(m1:Int) < -248\/sA LL (nD (j0-(m1:Int))) k t=true) /\
  (ux s.v X k p=true->m1=n1)/\(ux s.v X k p=false->j0-(m1:Int) < -248):=by
  cases CX:ux s.v X k p with
  |true=>
   refine⟨n1,λn hn=>?_,?_,λ_=>rfl,λq=>by cases q⟩
   .obtain ⟨a1,a2⟩:=hL.a n hn;exact⟨a1,by rw[qo _ a1 aE,CX,dX];exact a2⟩
   .by_cases q:j0-(n1:Int) < -248
    .exact .inl q
    .exact .inr (by rw[qo _ aE aE,CX,dX];exact hL.b.resolve_left q)
  |false=>
   refine⟨(j0+249).toNat,λn hn=>⟨aE,by rw[qo _ aE aE,CX];rfl⟩,.inl aE,(λq=>by cases q),λ_=> aE⟩
 obtain⟨m1,mA,mB,mC,mD⟩:=ahQ;obtain⟨m2,CL,w1,w2,w3⟩:=ajm LL c.step.dy k t j0 aE Vt hd.valid aE aE hN sQ e3 qp m1 mA mB;rw[<-ht,<-afP c.step.dy,hd.eq gc.step,NQ]at CL;have hlen:=an9 j0 m1 m2;have Vu:∀ i,i<M.length->k<(M.getD i []).length:=λi hi=>by rw[(OO i hi).len];omega
 have enN:∀ J:Int,-248<=J->J<=72->sx s.v X (nD J) p=none->gV 43 [lH s,jH x,gZ (nD J),iP c.jX] (.iw [.v (.slice none 0 0),iP 12]):=λJ z1 z2 hz=>by
  have:=Gh s.v X (nD J) p o1 o2 (ri aE aE) (Dw J) aE aE hz;rwa[<-o3,<-o4,<-hp]at this
 cases o with
 |none=>
  have kE:∀ m,m<m2->sx s.v X (nD (j0-(m1:Int)-m)) p=none:=λm hm=>by
   have hw:=w2 m hm;cases CX:ux s.v X k p with
   |false=>have:=mD CX;omega
   |true=>
    have hnf:=hG rfl CX;have em:=mC CX;subst em;have iC:m<n2:=by
     apply bT;intro q;exact hnf ⟨aE,aE⟩
    have hE:=(hL.d m iC).2;cases hz:sx s.v X (nD (j0-(m1:Int)-m)) p with
    |none=>rfl
    |some b=>simp only[hz]at hE;cases hE
  refine aeW s x c hS hC hV hB k M _ hO CH aE Vu CL aE λm hm=>?_
  have sE:m<m2:= aE ;rw[Q4 j0 m1 sE];exact enN _ (w2 m sE) aE (kE m sE)
 |some j=>
  obtain⟨f0,⟨f1,f2⟩,f3⟩:=hF j rfl;have em:=mC f0;subst em;have iC:n2<m2:=by
   apply bT;intro q;rcases w3 with z|z<;>omega
  have hE:=(hL.e.resolve_left aE).resolve_left aE;obtain⟨bx,jh⟩:=fF.1 hE;have pC:=Q4 j0 m1 iC;have Wu:(nD (j0-(m1:Int)-n2)).ib:=ri aE aE;have GH:=T6 s.v X (nD (j0-(m1:Int)-n2)) p o1 o2 Wu (Dw _) aE aE jh;rw[<-o3,<-o4,<-hp,<-pC]at GH;have Gz:gV 38 [lH s,jH x,yl c] (.iw [gZ (nD j),iP 0]):=hC;rw[f3,<-pC]at Gz;refine aeU s x c hS n2 hV hB k M _ hO CH aE Vu CL aE aE (by rw[pC];exact Wu) Gz (λm hm=>?_) bx GH;have sE:m<m2:= aE ;rw[Q4 j0 m1 sE];refine enN _ (w2 m sE) aE ?_;have CI:=(hL.d m hm).2;cases hz:sx s.v X (nD (j0-(m1:Int)-m)) p with
  |none=>rfl
  |some b=>simp only[hz]at CI;cases CI
open Go.ChangeShapes Go.WideShapes Go.ChangeAt
def Mt(W:World)(o:pf)(cs:List Value):Prop:=o.jV/\cs.length=6/\∀ j,j<6->∃ v,cs[j]? = some v/\iD nv nv W ((AF o).getD j .any) v
def ajY{α:Type}{l:List α}(h:l.length=2):∃ a b,l=[a,b]:=by
 rcases l with _|⟨a,_|⟨b,_|⟨c,l⟩⟩⟩<;>simp at h
 exact⟨a,b,rfl⟩
def ajZ{α:Type}{l:List α}(h:l.length=5):∃ a b c d e,l=[a,b,c,d,e]:=by
 rcases l with _|⟨a,_|⟨b,_|⟨c,_|⟨d,_|⟨e,_|⟨f,l⟩⟩⟩⟩⟩⟩<;>simp at h
 exact⟨a,b,c,d,e,rfl⟩
def aj0{α:Type}{l:List α}(h:l.length=6):∃ a b c d e f,l=[a,b,c,d,e,f]:=by
 rcases l with _|⟨a,_|⟨b,_|⟨c,_|⟨d,_|⟨e,_|⟨f,_|⟨g,l⟩⟩⟩⟩⟩⟩⟩<;>simp at h
 exact⟨a,b,c,d,e,f,rfl⟩
section
variable {H:Type} {enc:TypeId×Value->H} {W:World} {fuel:Nat} {cs:List Value} {x:DataW H×List MemPlace}
def wq(h:DataW.trod enc prog W 0 (λ_=>true) true fuel 3 cs=some x):∃ z,cs=[.int .i64 z]/\ku .i64 z:=by
 obtain⟨z,hz,_,hw⟩:=DataW.trod_int underlying3 h;exact⟨z,hz,abB hw⟩
def ali(h:DataW.trod enc prog W 0 (λ_=>true) true fuel 93 cs=some x):∃ n d,cs=[.int .i64 n,.int .i64 d]/\ku .i64 n/\ku .i64 d:=by
 obtain⟨xs,n,rfl,rfl,hl,ng,hf⟩:=DataW.trod_struct underlying93 h;have hC:prog.cellsOf 93=2:= aI ;have hI:prog.cellsOf 3=1:= aI ;rw[hC]at hl;obtain⟨c0,c1,rfl⟩:=ajY hl;have h0:=hf 0 _ rfl;have h1:=hf 1 _ rfl;simp only[eJ,eK,dO]at h0 h1;simp only[hI,eN,eO,ep,eP]at h0 h1;rw[bF (by rw[ng];decide)]at h0 h1;obtain⟨z0,e0,w0⟩:=wq h0;obtain⟨z1,e1,w1⟩:=wq h1;simp at e0 e1;subst e0 e1;exact⟨z0,z1,rfl,w0,w1⟩
def alk(h:DataW.trod enc prog W 0 (λ_=>true) true fuel 107 cs=some x):∃ o,Mt W o cs:=by
 obtain⟨xs,n,rfl,rfl,hl,ng,hf⟩:=DataW.trod_struct underlying107 h;have hC:prog.cellsOf 107=6:= aI ;have hR:prog.cellsOf 93=2:= aI ;have hI:prog.cellsOf 3=1:= aI ;rw[hC]at hl;obtain⟨c0,c1,c2,c3,c4,c5,rfl⟩:=aj0 hl;have h0:=hf 0 _ rfl;have h1:=hf 1 _ rfl;have h2:=hf 2 _ rfl;have h3:=hf 3 _ rfl;have h4:=hf 4 _ rfl;simp only[eJ,eK,dO]at h0 h1 h2 h3 h4;simp only[hI,hR,eN,eO,ep,eP]at h0 h1 h2 h3 h4;rw[bF (by rw[ng];decide)]at h0 h1 h2 h3 h4;obtain⟨z0,e0,w0⟩:=wq h0;obtain⟨z1,e1,w1⟩:=wq h1;obtain⟨z2,e2,w2⟩:=wq h2;obtain⟨z3,e3,w3⟩:=wq h3;obtain⟨z4,z5,e4,w4,w5⟩:=ali h4;simp at e0 e1 e2 e3 e4;obtain⟨e4,e5⟩:=e4;subst e0 e1 e2 e3 e4 e5;refine⟨⟨z0,z1,z2,z3,z4,z5⟩,⟨w0,w1,w2,w3,w4,w5⟩,rfl,λj hj=>?_⟩;rcases j with _|_|_|_|_|_|j
 all_goals first|exact⟨_,rfl,.v _⟩|omega
def amW(o:pf)(j:Nat)(hj:j<6):((AF o).getD j .any).one=true/\(((AF o).getD j .any).nE=true)/\((AF o).getD j .any).nr 2=true:=by
 rcases j with _|_|_|_|_|_|j
 all_goals first|exact⟨rfl,rfl,rfl⟩|omega
def alm(h:DataW.trod enc prog W 0 (λ_=>true) true fuel 22 cs=some x):
  ∃ l v,cs=[v]/\(∀ y,y ∈ l->y.jV)/\iD nv nv W (kA l) v:=by
 have hC:prog.cellsOf 107=6:= aI ;rcases Deep.open_slice underlying22 h with⟨rfl,_⟩|⟨a,len,cap,m,n,D,Pl,rfl,hb,hl,hm,tw,rfl,hx⟩
 .exact ⟨[],_,rfl,(λy hy=>by cases hy),.sl true 0 6 _ none 0 (λ_ _=>.bool false) (bu _) aG (λ_=>rfl) (λi j hi=>absurd hi (bE i)) (λi j hi=>absurd hi (bE i)) (λi j hi=>absurd hi (bE i)) (λi j hi=>absurd hi (bE i))⟩
 .simp only[bJ]at tw;subst tw;have ex:∀ i,∃ y:pf,i<len->∃ cs',W.cells? 0 (a.add (i*6)) 6=some cs'/\Mt W y cs':=by
   intro i;by_cases hi:i<len
   .obtain ⟨cs',h1,h2⟩:=hx i aE ;rw[hC]at h1;obtain⟨y,hy⟩:=alk h2;exact⟨y,λ_=>⟨cs',h1,hy⟩⟩
   .exact ⟨lK,λh=>absurd h hi⟩
  let X:Nat->pf:=λi=>Classical.choose (ex i)
  have hX:∀ i,i<len->∃ cs',W.cells? 0 (a.add (i*6)) 6=some cs'/\Mt W (X i) cs':=λi=>cU (ex i)
  have hlen:((List.range len).map X).length=len:= aK ;refine⟨(List.range len).map X,_,rfl,?_,?_⟩
  .intro y hy;obtain⟨i,hi,rfl⟩:=dv.1 hy;obtain⟨cs',_,h2⟩:=hX i (b5.1 hi);exact h2.1
  .have CS:∀ i,i<len->((List.range len).map X).getD i lK=X i:=by
    intro i hi;rw[bw,cF,aqN hi];rfl
   have:=QE (W:=W) (a:=a) (len:=len) (cap:=m) (nl:=true) (λi j=>(AF (((List.range len).map X).getD i lK)).getD j .any) hl hm (show 0<6 by decide)
    (λi j _ hj=>let⟨h1,h2,h3⟩:=amW (((List.range len).map X).getD i lK) j hj;⟨h1,λ_=>h2,h3⟩)
    (λi hi=>by
     obtain⟨cs',h1,h2,_,h3⟩:=hX i hi;exact⟨cs',h1,λj hj=>by rw[CS i hi];exact h3 j hj⟩)
   unfold kA;rw[hlen];exact this
def amU:lK.jV:=by constructor<;>(show ku .i64 0;unfold ku;decide)
def NG{α:Type}{P:α->Prop}{l:List α}{d:α}(h:∀ y,y ∈ l->P y)(hd:P d)(i:Nat):P (l.getD i d):=by
 by_cases hi:i<l.length
 .rw [bw,bF hi];exact h _ (cG hi)
 .rw [bw,ch aE];exact hd
def RE(W:World)(s:kB)(cs:List Value):Prop:=s.jV/\cs.length=5/\∀ j,j<5->∃ v,cs[j]? = some v/\iD nv nv W ((QP s).getD j .any) v
def alo(h:DataW.trod enc prog W 0 (λ_=>true) true fuel 25 cs=some x):
 ∃ (n:Int) (gX:List pf) (iu:List Int) (v w:Value),cs=[.int .i64 n,v,w]/\ku .i64 n/\(∀ y,y ∈ gX->y.jV)/\(∀ z,z ∈ iu->ku .i64 z)/\iD nv nv W (kA gX) v/\iD nv nv W (kF iu) w:=by
 obtain⟨xs,n,rfl,rfl,hl,ng,hf⟩:=DataW.trod_struct underlying25 h;have hC:prog.cellsOf 25=3:= aI ;have hI:prog.cellsOf 3=1:= aI ;have hO:prog.cellsOf 22=1:= aI ;have hU:prog.cellsOf 23=1:= aI ;rw[hC]at hl;obtain⟨c0,c1,c2,rfl⟩:=XE hl;have h0:=hf 0 _ rfl;have h1:=hf 1 _ rfl;have h2:=hf 2 _ rfl;simp only[eJ,eK,dO]at h0 h1 h2;simp only[hI,hO,hU,eN,eO,ep,eP]at h0 h1 h2;rw[bF (by rw[ng];decide)]at h0 h1 h2;obtain⟨z0,e0,w0⟩:=wq h0;obtain⟨gX,v,e1,g1,r1⟩:=alm h1;obtain⟨iu,w,e2,g2,r2⟩:=alg (k:=.i64) (λ_=>rfl) underlying23 underlying3 hI h2;simp at e0 e1 e2;subst e0 e1 e2;exact⟨z0,gX,iu,_,_,rfl,w0,g1,g2,r1,r2⟩
def aln(h:DataW.trod enc prog W 0 (λ_=>true) true fuel 28 cs=some x)(iC:∀ p ∈ x.2,p.block<W.heap.size):∃ s,RE W s cs:=by
 obtain⟨xs,n,rfl,rfl,hl,ng,hf⟩:=DataW.trod_struct underlying28 h;have hC:prog.cellsOf 28=5:= aI ;have hT:prog.cellsOf 25=3:= aI ;have hI:prog.cellsOf 3=1:= aI ;have hP:prog.cellsOf 26=1:= aI ;rw[hC]at hl;obtain⟨c0,c1,c2,c3,c4,rfl⟩:=ajZ hl;have h0:=hf 0 _ rfl;have h1:=hf 1 _ rfl;have h2:=hf 2 _ rfl;simp only[eJ,eK,dO]at h0 h1 h2;simp only[hT,hI,hP,eN,eO,ep,eP]at h0 h1 h2;rw[bF (by rw[ng];decide)]at h0 h1 h2;obtain⟨z0,gX,iu,v,w,e0,w0,g1,g2,r1,r2⟩:=alo h0;obtain⟨z1,e1,w1⟩:=wq h1;obtain⟨ps,u,e2,g3,r3⟩:=YV h2 (λp hp=>iC p (dU.2 ⟨_,cG _,hp⟩));simp at e0 e1 e2;obtain⟨e0,e0b,e0c⟩:=e0;subst e0 e0b e0c e1 e2;refine⟨⟨z0,gX,iu,z1,ps⟩,⟨w0,NG g1 amU,NG g2 (by unfold ku;decide),w1,NG g3 LM⟩,rfl,λj hj=>?_⟩;rcases j with _|_|_|_|_|j
 .exact ⟨_,rfl,.v _⟩
 .exact ⟨_,rfl,r1⟩
 .exact ⟨_,rfl,r2⟩
 .exact ⟨_,rfl,.v _⟩
 .exact ⟨_,rfl,r3⟩
 .omega
end
def aoz{W:World}{x:kB}{cs:Array Value}(h:RE W x cs.toList):iD nv nv W (lH x) (.agg cs):=by
 obtain⟨_,hl,h⟩:=h;have:=iD.agg (bs:=nv) (br:=nv) (w:=W) (QP x) cs.toList (by rw[hl];rfl) (λi p v h1 h2=>by
  have hi:i<5:=by have:=(cr.1 h2).1;omega
  obtain⟨v',h3,h4⟩:=h i hi;rw[h2]at h3;cases h3;rw[bw,h1]at h4;exact h4)
 unfold lH;exact this
def aj2{α:Type}{l:List α}(h:l.length=8):∃ a b c d e f g i,l=[a,b,c,d,e,f,g,i]:=by
 rcases l with _|⟨a,_|⟨b,_|⟨c,_|⟨d,_|⟨e,_|⟨f,_|⟨g,_|⟨i,_|⟨j,l⟩⟩⟩⟩⟩⟩⟩⟩⟩<;>simp at h
 exact⟨a,b,c,d,e,f,g,i,rfl⟩
def RC(W:World)(c:mz)(cs:List Value):Prop:=c.jV/\cs.length=8/\∀ j,j<8->∃ v,cs[j]? = some v/\iD nv nv W ((Qs c).getD j .any) v
def ale{H:Type}{enc:TypeId×Value->H}{W:World}{fuel:Nat}{cs:List Value}{x:DataW H×List MemPlace}(h:DataW.trod enc prog W 0 (λ_=>true) true fuel 81 cs=some x)(iC:∀ p ∈ x.2,p.block<W.heap.size):∃ c,RC W c cs:=by
 obtain⟨xs,n,rfl,rfl,hl,ng,hf⟩:=DataW.trod_struct underlying81 h;have hC:prog.cellsOf 81=8:= aI ;have hT:prog.cellsOf 31=3:= aI ;have hI:prog.cellsOf 3=1:= aI ;rw[hC]at hl;obtain⟨c0,c1,c2,c3,c4,c5,c6,c7,rfl⟩:=aj2 hl;have h0:=hf 0 _ rfl;have h1:=hf 1 _ rfl;have h2:=hf 2 _ rfl;have h3:=hf 3 _ rfl;have h4:=hf 4 _ rfl;have h5:=hf 5 _ rfl;simp only[eJ,eK,dO]at h0 h1 h2 h3 h4 h5;simp only[hT,hI,eN,eO,ep,eP]at h0 h1 h2 h3 h4 h5;rw[bF (by rw[ng];decide)]at h0 h1 h2 h3 h4 h5;obtain⟨z0,e0,w0⟩:=wq h0;obtain⟨z1,e1,w1⟩:=wq h1;obtain⟨z2,e2,w2⟩:=wq h2;obtain⟨d,gd,ld,hd⟩:=Qa h3 (λp hp=>iC p (dU.2 ⟨_,cG _,hp⟩));obtain⟨z4,e4,w4⟩:=wq h4;obtain⟨z5,e5,w5⟩:=wq h5;simp at e0 e1 e2 e4 e5;subst e0 e1 e2 e4 e5;refine⟨⟨z0,z1,z2,d,z4,z5⟩,⟨w0,w1,w2,gd,w4,w5⟩,rfl,λj hj=>?_⟩;rcases j with _|_|_|_|_|_|_|_|j
 .exact ⟨_,rfl,.v _⟩
 .exact ⟨_,rfl,.v _⟩
 .exact ⟨_,rfl,.v _⟩
 .exact hd 0 aG 
 .exact hd 1 aG 
 .exact hd 2 aG 
 .exact ⟨_,rfl,.v _⟩
 .exact ⟨_,rfl,.v _⟩
 .omega
def aeO{W:World}{x:mz}{cs:Array Value}(h:RC W x cs.toList):iD nv nv W (yl x) (.agg cs):=by
 obtain⟨_,hl,h⟩:=h;have:=iD.agg (bs:=nv) (br:=nv) (w:=W) (Qs x) cs.toList (by rw[hl];rfl) (λi p v h1 h2=>by
  have hi:i<8:=by have:=(cr.1 h2).1;omega
  obtain⟨v',h3,h4⟩:=h i hi;rw[h2]at h3;cases h3;rw[bw,h1]at h4;exact h4)
 unfold yl;exact this
def agb:Value:=.agg #[.int .i64 0,.int .i64 0,.int .i64 0,.bool false,.slice none 0 0,.int .i64 0,.int .i64 0,.int .i64 0]
def agc{H:Type}:DataW H:=.agg [.lit (.int .i64 0),.lit (.int .i64 0),.lit (.int .i64 0),.agg [.lit (.bool false),.nil,.lit (.int .i64 0)],.lit (.int .i64 0),.lit (.int .i64 0)]
def agd:Value:=.agg #[.int .i64 0,.slice none 0 0,.slice none 0 0,.int .i64 0,.slice none 0 0]
def age{H:Type}:DataW H:=.agg [.agg [.lit (.int .i64 0),.nil,.nil],.lit (.int .i64 0),.nil]
def Cx:Array Value:=#[agd,.slice none 0 0,agb]
set_option maxRecDepth 100000 in
def aey(H:Type)(enc:TypeId×Value->H)(W:World)(base:Nat)(args:Array Value)(ds gs:List (DataW H))(before:List MemPlace)
 (jQ:∀ (j:Nat) t v,Tryz.f6.params[j]? = some t->args[j]? = some v->Value.okWide prog W .any base t v)
 (hW:DataW.Whole enc prog Tryz.f6.params.toList Rows.controlChoosesSpec.vars false W args.toList ds gs before) (hL:laidMetH prog Rows.controlChoosesRow.laid W):
 Calls prog 6 args W λe W'=>∃ v,e = .returned v/\Rows.controlChoosesSpec.post enc prog Tryz.f6 false true false false W args v W':=by
 have Ke:=hW;obtain⟨p,q,vL,hV,rfl,hfz,hnd⟩:=hW;have hA:DataW.TrodAll enc prog W 0 (λ_=>true) true Tryz.f6.params.toList args.toList ds p:=vL;rw[Tryz.params6]at hA jQ;obtain⟨v0,vs0,d0,ds0,p0,q0,ER,rfl,rfl,h0,vL⟩:=trodAll_cons hA;obtain⟨v1,vs1,d1,ds1,p1,q1,rfl,rfl,rfl,h1,qT⟩:=trodAll_cons vL;obtain⟨v2,vs2,d2,ds2,p2,q2,rfl,rfl,rfl,h2,ud⟩:=trodAll_cons qT;obtain⟨rfl,rfl,rfl⟩:=trodAll_nil ud;obtain rfl:args = #[v0,v1,v2]:=by cases args;simp_all
 obtain⟨rfl,rfl⟩:=trodVars_none hV;obtain⟨cs0,rfl,ap9⟩:=okWide_struct underlying28 (jQ 0 28 v0 rfl rfl);obtain⟨a1,len1,cap1,rfl⟩:=okWide_slice underlying26 (jQ 1 26 v1 rfl rfl);obtain⟨cs2,rfl,aqa⟩:=okWide_struct underlying81 (jQ 2 81 v2 rfl rfl);have h0k:=h0;obtain⟨fuel0,hf0⟩:=h0;have h1k:=h1;obtain⟨fuel1,Oj⟩:=h1;have h2k:=h2;obtain⟨fuel2,Ol⟩:=h2;clear vL;have EG:∀ x ∈ p0,x.block<W.heap.size:=λx hx=>Ke.lt x (by simp[hx])
 have EH:∀ x ∈ p1,x.block<W.heap.size:=λx hx=>Ke.lt x (by simp[hx])
 have GS:∀ x ∈ p2,x.block<W.heap.size:=λx hx=>Ke.lt x (by simp[hx])
 obtain⟨x0,g0⟩:=aln hf0 EG;obtain⟨x1,w1,Ha,g1,r1⟩:=YV Oj EH;obtain rfl:Value.slice a1 len1 cap1=w1:=by
  have:(Value.slice a1 len1 cap1).cells.toList=[Value.slice a1 len1 cap1]:=rfl;rw[this]at Ha;simpa using Ha
 obtain⟨x2,g2⟩:=ale Ol GS;have kS:=(ajF x0 x1 x2 g0.1 g1 g2.1).run W nv [.agg cs0,.slice a1 len1 cap1,.agg cs2] (aoI rfl hL) (λ_ h=>h.elim) (.cons (aoz (cs:=cs0) g0) (.cons r1 (.cons (aeO (cs:=cs2) g2) (.nil _ _ _))));refine kS.mono λr W' ⟨v,hr,hb,sF⟩=>?_
 obtain rfl:=iD.kJ sF;subst hr;refine⟨_,rfl,_,_,_,[],p0++(p1++(p2)),[],Ke,?_,?_,rfl,hb.frame _,λh=>by cases h⟩
 .exact trodAll_mk1 (shut_bool underlying4 _)
 .exact ⟨p0,_,Below.trod Pk aI (cT aI) h0k hb EG,⟨p1,_,Below.trod Pk aI (cT aI) h1k hb EH,trodAll_mk1 (Below.trod Pk aI (cT aI) h2k hb GS),rfl⟩,rfl⟩
def aeB(os:Os):laidMet prog Rows.controlChoosesRow.laid ((Pm os Cx).forCall (λ_ _=>0) ⟨#[],Cx,[]⟩).memory:=
 laidMet_of_run' 8 aI aI 
def aeD(os:Os){H:Type}(enc:TypeId×Value->H):∃ places,DataW.whole enc prog ((Pm os Cx).forCall (λ_ _=>0) ⟨#[],Cx,[]⟩).memory Tryz.f6.params.toList Rows.controlChoosesSpec.vars false Cx.toList 8=some ([age,.nil,agc],[],places):=
 ⟨[],aI⟩
set_option maxRecDepth 100000 in
def aeA(os:Os)(started:os.Started)(H:Type)(enc:TypeId×Value->H)(F:Stop.Interp):
  ReturnsInHanded {} Tryz.checked os 6 .any ((OpenSpec.ofChange Rows.controlChoosesSpec).preRow enc prog Tryz.f6 Rows.controlChoosesRow.domain false Rows.controlChoosesRow.laid) (((OpenSpec.ofChange Rows.controlChoosesSpec).at F).post enc prog Tryz.f6 false true false false):=by
 obtain⟨places,hx⟩:=aeD os enc;refine returnsInHanded_of_row (C:=Tryz.checked) (s:=OpenSpec.ofChange Rows.controlChoosesSpec) own started aI func6
  (witness_row_at (enc:=enc) (C:=Tryz.checked) false (Pm os Cx) Cx rfl aI aI aI 
   (OpenSpec.preRow_of_cond 8 hx aI (λk hk=>by cases hk) aI (aeB os))) ?_
 intro W base args ds gs before jQ hW _ _ _ hL _ _;exact aey H enc W base args ds gs before jQ hW hL
set_option maxHeartbeats 100000000 in
def aez:joinedFacts prog 6 Tryz.f6 (OpenSpec.ofChange Rows.controlChoosesSpec).bare Rows.controlChoosesRow=true:=by
 unfold joinedFacts;simp only[bO]
 and_intros<;>decide +kernel
def aeE:Rows.ControlChoosesSaid:=
 OpenClaim.holds_of_cond 6 Tryz.f6 rfl rfl rfl rfl rfl rfl rfl ⟨rfl,rfl,rfl,rfl,rfl⟩ rfl rfl rfl rfl rfl aI func6 aez
  (cT aI) (by unfold Func.isWrapper;first|(rw[bk aQ];kernel_rfl)|(rw[bj aQ];exact⟨rfl,rfl⟩))
  (λos started H enc _ F=>by rw[OpenClaim.pre_eq_preRow];exact aeA os started H enc F)
def aeC (f:FuncId) (fn:Func) (hf:Tryz.pinned.checked.prog.funcNamed "flowpipe/flowpipelaw30.ControlChooses" = some f) (hfn:Tryz.pinned.checked.prog.funcs[f]? = some fn):
 false=Tryz.pinned.checked.prog.looks []/\∀ (j:Nat) t,fn.params[j]? = some t->Tryz.pinned.checked.prog.wantsStandIn t=false:=by
 obtain rfl:f=6:=aqE ((show prog.funcNamed "flowpipe/flowpipelaw30.ControlChooses" = some 6 by kernel_rfl).symm.trans hf) |>.symm
 obtain rfl:fn=Tryz.f6:=(aqE (func6.symm.trans hfn)).symm;refine⟨aI,λj t ht=>?_⟩;rw[Tryz.params6]at ht;have:t=28\/t=26\/t=81:=by
  have:=dV ht;simp only[gK,di,List.not_mem_nil,or_false]at this;rcases this with h|h|h<;>subst h<;>simp
 rcases this with rfl|rfl|rfl
 .exact (show prog.wantsStandIn 28=false by kernel_rfl)
 .exact (show prog.wantsStandIn 26=false by kernel_rfl)
 .exact (show prog.wantsStandIn 81=false by kernel_rfl)
theorem cchoose_card:Rows.ControlChoosesCardSaid:=
 Claim7.holds_tied_plain_at .later [] _ _ _ _ aeE (λ_ h=>by cases h) aI (λ_ h=>by cases h) controlChooses_row_tie rfl ⟨rfl,rfl⟩ aI rfl aeC (ahr agB rfl)
end Go.Proofs.YtgdahmmlddfimaaGreatDoor
