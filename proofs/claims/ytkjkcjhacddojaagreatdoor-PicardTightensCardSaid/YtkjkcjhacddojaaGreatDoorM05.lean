/- Lemmas that the last file uses. -/
import Derived.Test.YtkjkcjhacddojaaGreatDoorM04
set_option linter.unusedSimpArgs false
set_option linter.unusedVariables false
set_option linter.defProp false
set_option maxHeartbeats 4000000
open Go.Proofs.Tryz
namespace Go.Proofs.YtkjkcjhacddojaaGreatDoor
open Go.RowKit Fp Pu
def SE(a b:Nat)(x:Nat):PS:=⟨12,true,[(0,.e (.v (.int .u64 ((((mc a b x).1):Nat):Int)))),(1,.e (.v (.int .u64 ((((mc a b x).2):Nat):Int))))],[]⟩
def Xi(s:jt)(N:Nat)(x:Nat):PS:=⟨131,true,[(4,.e (iP x)),(3,.box 3 0),(1,.box 1 0)],[(3,.cells 25 [(iP s.iq),(jL s.gX),(jP s.ik)]),(1,.cells 28 [(iP s.iq),(jL s.gX),(jP s.ik),(iP s.iA),(j8 s.params)])]⟩
def Xd(s:jt)(x:Nat):PS:=⟨131,true,[(4,.e (iP x)),(3,.box 3 0),(1,.box 1 0)],[(3,.cells 25 [(iP s.iq),(jL s.gX),(jP s.ik)]),(1,.cells 28 [(iP s.iq),(jL s.gX),(jP s.ik),(iP s.iA),(j8 s.params)])]⟩
def Xj(s:jt)(N:Nat)(x:Nat):PS:=⟨131,true,[(5,.e (iP x)),(3,.box 3 0),(1,.box 1 0)],[(3,.cells 25 [(iP s.iq),(jL s.gX),(jP s.ik)]),(1,.cells 28 [(iP s.iq),(jL s.gX),(jP s.ik),(iP s.iA),(j8 s.params)])]⟩
def Xe(s:jt)(x:Nat):PS:=⟨131,true,[(4,.e (iP x)),(3,.box 3 0),(1,.box 1 0)],[(3,.cells 25 [(iP s.iq),(jL s.gX),(jP s.ik)]),(1,.cells 28 [(iP s.iq),(jL s.gX),(jP s.ik),(iP s.iA),(j8 s.params)])]⟩
def Xk(s:jt)(N:Nat)(x:Nat):PS:=⟨131,true,[(5,.e (iP x)),(3,.box 3 0),(1,.box 1 0)],[(3,.cells 25 [(iP s.iq),(jL s.gX),(jP s.ik)]),(1,.cells 28 [(iP s.iq),(jL s.gX),(jP s.ik),(iP s.iA),(j8 s.params)])]⟩
def Xf(s:jt)(x:Nat):PS:=⟨131,true,[(4,.e (iP x)),(3,.box 3 0),(1,.box 1 0)],[(3,.cells 25 [(iP s.iq),(jL s.gX),(jP s.ik)]),(1,.cells 28 [(iP s.iq),(jL s.gX),(jP s.ik),(iP s.iA),(j8 s.params)])]⟩
def Xl(s:jt)(x:Nat):PS:=⟨131,true,[(5,.e (iP x)),(3,.box 3 0),(1,.box 1 0)],[(3,.cells 25 [(iP s.iq),(jL s.gX),(jP s.ik)]),(1,.cells 28 [(iP s.iq),(jL s.gX),(jP s.ik),(iP s.iA),(j8 s.params)])]⟩
def Xm(s:jt)(N:Nat)(x:Nat):PS:=⟨131,true,[(6,.e (iP x)),(1,.box 1 0)],[(1,.cells 28 [(iP s.iq),(jL s.gX),(jP s.ik),(iP s.iA),(j8 s.params)])]⟩
def Xg(s:jt)(x:Nat):PS:=⟨131,true,[(4,.e (iP x)),(3,.box 3 0),(1,.box 1 0)],[(3,.cells 25 [(iP s.iq),(jL s.gX),(jP s.ik)]),(1,.cells 28 [(iP s.iq),(jL s.gX),(jP s.ik),(iP s.iA),(j8 s.params)])]⟩
def Xn(s:jt)(x:Nat):PS:=⟨131,true,[(5,.e (iP x)),(3,.box 3 0),(1,.box 1 0)],[(3,.cells 25 [(iP s.iq),(jL s.gX),(jP s.ik)]),(1,.cells 28 [(iP s.iq),(jL s.gX),(jP s.ik),(iP s.iA),(j8 s.params)])]⟩
def Xo(s:jt)(N:Nat)(x:Nat):PS:=⟨131,true,[(6,.e (iP x)),(1,.box 1 0)],[(1,.cells 28 [(iP s.iq),(jL s.gX),(jP s.ik),(iP s.iA),(j8 s.params)])]⟩
def Xh(s:jt)(x:Nat):PS:=⟨131,true,[(4,.e (iP x)),(3,.box 3 0),(1,.box 1 0)],[(3,.cells 25 [(iP s.iq),(jL s.gX),(jP s.ik)]),(1,.cells 28 [(iP s.iq),(jL s.gX),(jP s.ik),(iP s.iA),(j8 s.params)])]⟩
def Xp(s:jt)(x:Nat):PS:=⟨131,true,[(5,.e (iP x)),(3,.box 3 0),(1,.box 1 0)],[(3,.cells 25 [(iP s.iq),(jL s.gX),(jP s.ik)]),(1,.cells 28 [(iP s.iq),(jL s.gX),(jP s.ik),(iP s.iA),(j8 s.params)])]⟩
def Xq(s:jt)(x:Nat):PS:=⟨131,true,[(6,.e (iP x)),(1,.box 1 0)],[(1,.cells 28 [(iP s.iq),(jL s.gX),(jP s.ik),(iP s.iA),(j8 s.params)])]⟩
def WE(s:jt)(b:List RI)(N:Nat)(x:Nat):PS:=⟨35,true,[(5,.e (iP x)),(1,.e (j8 b))],[]⟩
def WG(s:jt)(b:List RI)(N:Nat)(x:Nat):PS:=⟨35,true,[(5,.e (iP x)),(1,.e (j8 b))],[]⟩
def WH(s:jt)(b:List RI)(x:Nat):PS:=⟨35,true,[(5,.e (iP x)),(1,.e (j8 b))],[]⟩
theorem aei(a b N:Nat)(ha:a<18446744073709551616)(hb:b<18446744073709551616)(iI:∀ k,k<N->(mc a b k).2≠0)(hN:(mc a b N).2=0):gW 168 [(.v (.int .u64 (a:Int))),(.v (.int .u64 (b:Int)))] (.v (.int .u64 ((((mc a b N).1):Nat):Int))):=
 tr true call168 func168 (chain [.s (Sp.jy (SE a b) 0 N ae (λx hx kn=>by
    have jK:=iI x ae;exact iC (chain [tB 6 (FP (iI x ae):(((((mc a b x).2):Nat):Int) != 0)=true),.a (ae:0<(((((mc a b x).2):Nat):Int):Int))]<|.e (chain [.o 0 (.int aw:PV.le (.e (.v (.int .u64 ((((mc a b x).2):Nat):Int)))) (.e (.v (.int .u64 ((((mc a b (x+1)).1):Nat):Int))))),.o 1 (.int aw:PV.le (.e (.v (.int .u64 (((((mc a b x).1)%((mc a b x).2)):Nat):Int)))) (.e (.v (.int .u64 ((((mc a b (x+1)).2):Nat):Int)))))]<|.nil)) ah)
  (λhx=>by
    exact iC (chain [tB 6 (BZ hN:(((((mc a b N).2):Nat):Int) != 0)=false)]<|.nil) ah) ak:jv 1 f168 (SE a b 0) (.exit 0) ⟨12,true,[(0,.e (.v (.int .u64 ((((mc a b N).1):Nat):Int))))],[]⟩) (chain [.o 0 (.int aw:PV.le (.e (.v (.int .u64 (a:Int)))) (.e (.v (.int .u64 ((((mc a b 0).1):Nat):Int))))),.o 1 (.int aw:PV.le (.e (.v (.int .u64 (b:Int)))) (.e (.v (.int .u64 ((((mc a b 0).2):Nat):Int)))))]<|.nil)]<|.nil) ah 
theorem aej(a b:Nat)(ha:a<18446744073709551616)(hb:b<18446744073709551616):gW 168 [(.v (.int .u64 (a:Int))),(.v (.int .u64 (b:Int)))] (.v (.int .u64 (Nat.gcd a b:Int))):=by
 obtain⟨N,h1,h2⟩:=R7 b a;have hg:=Lu a b N;rw[h2,Nat.gcd_zero_right]at hg;rw[<-hg];exact aei a b N ha hb h1 h2
theorem alg(m:Nat)(h:m<=1073741824):gW 169 [(iP m)] (.v (.int .u64 (m:Int))):=
 tr true call169 func169 (chain [tF 4 ((m:Int)<0) ae,.o 11 (.int (pE _ ae):PV.le (.e (.v (.int .u64 (IntKind.u64.wrap (m:Int))))) (.e (.v (.int .u64 (m:Int)))))]<|.nil) ah 
theorem alf(m:Nat)(h0:0<m)(h:m<=1073741824):gW 169 [(iP (-(m:Int)))] (.v (.int .u64 (m:Int))):=
 tr true call169 func169 (chain [tT 4 ((-(m:Int))<0) ae,iu ((-(m:Int))+1) ae,iu (0-((-(m:Int))+1)) ae,.o 7 (.int ae:PV.le (.e (iP (0-((-(m:Int))+1)))) (.e (iP (((m-1):Nat):Int)))),.o 8 (.int (pE _ ae):PV.le (.e (.v (.int .u64 (IntKind.u64.wrap (((m-1):Nat):Int))))) (.e (.v (.int .u64 (((m-1):Nat):Int))))),pr ((((m-1):Nat):Int)+1) ae]<|rQ (.v (.int .u64 ((((m-1)+1):Nat):Int))) (.v (.int .u64 (m:Int))) (by rw[show m-1+1=m by omega])) ah 
theorem OX(n:Int)(h1:-1073741824<=n)(h2:n<=1073741824):gW 169 [iP n] (.v (.int .u64 (n.natAbs:Int))):=by
 by_cases h:0<=n
 .obtain ⟨m,rfl⟩:=dD h
  exact alg m ae 
 .obtain ⟨m,rfl⟩:∃ m:Nat,n = -(m:Int):=⟨n.natAbs,ae⟩
  rw[fg,dC];exact alf m ae ae 
theorem Ge(n d:Int):gW 94 [(.agg [(iP n),(iP d)])] (bP (lQ n d)):=
 tr true call94 func94 (.w (1<=d)
  (λk1=>chain [tB 5 (aT k1)]<|.w (d<=1073741824)
   (λk2=>chain [tB 9 (aT k2)]<|.w ((-1073741824)<=n)
    (λk3=>chain [tB 14 (aT k3)]<|.w (n<=1073741824)
     (λk4=>chain [tB 19 (aT k4),.c (OX _ ae ae:gW 169 [(iP n)] _),.o 27 (.int (amF ae ae):PV.le (.e (.v (.int .u64 (IntKind.u64.wrap d)))) (.e (.v (.int .u64 (Int.natAbs d:Int))))),.c (aej _ _ ae ae:gW 168 [(.v (.int .u64 (Int.natAbs n:Int))),(.v (.int .u64 (Int.natAbs d:Int)))] _)]<|rQ (bP ((Nat.gcd (Int.natAbs n) (Int.natAbs d):Int)==1)) (bP (lQ n d)) (by unfold lQ;simp[xU,k1,k2,k3,k4]))
     (λk4=>chain [tB 19 (aU k4)]<|rQ (bP false) (bP (lQ n d)) (by unfold lQ;simp[xU,k1,k2,k3,k4])))
    (λk3=>chain [tB 14 (aU k3)]<|rQ (bP false) (bP (lQ n d)) (by unfold lQ;simp[xU,k1,k2,k3])))
   (λk2=>chain [tB 9 (aU k2)]<|rQ (bP false) (bP (lQ n d)) (by unfold lQ;simp[xU,k1,k2])))
  (λk1=>chain [tB 5 (aU k1)]<|rQ (bP false) (bP (lQ n d)) (by unfold lQ;simp[xU,k1]))) ah 
theorem B6(o:nj)(m:Int)(g:o.jg):gW 48 [(rn o),(iP m)] (bP (jG o m)):=
 tr true call48 func48 (.w (o.kind=1)
  (λk1=>chain [tB 13 (aM k1),.c (Ge _ _:gW 94 [(.agg [(iP o.cn),(iP o.cd)])] _)]<|.w (lQ o.cn o.cd=true)
   (λk2=>chain [tB 19 (k2),tB 47 (ag:(decide ((0:Int)<0))=false),tB 52 (ag:(decide ((1:Int)<0))=false),.g (Jz g.kind g.a g.b g.n g.cn g.cd g.kind uN uN uN g.cn g.cd:pG prog .eql 74 (rn o) (.agg [(iP o.kind),(iP 0),(iP 0),(iP 0),(iP o.cn),(iP o.cd)]) (.bool (decide (o.kind=o.kind/\o.a=0/\o.b=0/\o.n=0/\o.cn=o.cn/\o.cd=o.cd))))]<|.w (o.kind=o.kind/\o.a=0/\o.b=0/\o.n=0/\o.cn=o.cn/\o.cd=o.cd)
    (λk3=>chain [tB 58 (aT k3),tB 61 (ag:((0:Int)==0)=true)]<|rQ (bP true) (bP (jG o m)) (kX))
    (λk3=>chain [tB 58 (aU k3)]<|rQ (bP false) (bP (jG o m)) (kX)))
   (λk2=>chain [tB 19 (aO k2)]<|rQ (bP false) (bP (jG o m)) (kX)))
  (λk1=>chain [tB 13 (aK k1),.j 42 ⟨85,true,[(21,.e (bP (decide (3<=o.kind/\o.kind<=6)))),(11,.e (iP o.kind)),(6,.box 6 0),(2,.box 2 0),(1,.e (iP m))],[(6,.cells 74 [(iP o.kind),(iP 0),(iP 0),(iP 0),(iP 0),(iP 0)]),(2,.cells 74 [(iP o.kind),(iP o.a),(iP o.b),(iP o.n),(iP o.cn),(iP o.cd)])]⟩
   (.w (o.kind=3)
    (λm1=>chain [.v 21 (.bool (aM m1))]<|.e (chain [tB 21 (oA an:true=(decide (3<=o.kind/\o.kind<=6)))]<|.nil))
    (λm1=>chain [.v 21 (.bool (aK m1))]<|.w (o.kind=4)
     (λm2=>chain [tB 23 (aM m2)]<|.e (chain [tB 21 (oA an:true=(decide (3<=o.kind/\o.kind<=6)))]<|.nil))
     (λm2=>chain [tB 23 (aK m2)]<|.w (o.kind=5)
      (λm3=>chain [tB 24 (aM m3)]<|.e (chain [tB 21 (oA an:true=(decide (3<=o.kind/\o.kind<=6)))]<|.nil))
      (λm3=>chain [tB 24 (aK m3)]<|.e (chain [tB 21 (oA an:(o.kind==6)=(decide (3<=o.kind/\o.kind<=6)))]<|.nil)))))]<|.w (3<=o.kind/\o.kind<=6)
   (λk2=>chain [.v 21 (.bool (aT k2)),tB 47 (ag:(decide ((0:Int)<2))=true),tB 52 (ag:(decide ((1:Int)<2))=true),.g (Jz g.kind g.a g.b g.n g.cn g.cd g.kind g.a g.b uN uN uN:pG prog .eql 74 (rn o) (.agg [(iP o.kind),(iP o.a),(iP o.b),(iP 0),(iP 0),(iP 0)]) (.bool (decide (o.kind=o.kind/\o.a=o.a/\o.b=o.b/\o.n=0/\o.cn=0/\o.cd=0))))]<|.w (o.kind=o.kind/\o.a=o.a/\o.b=o.b/\o.n=0/\o.cn=0/\o.cd=0)
    (λk3=>chain [tB 58 (aT k3),tB 61 (ag:((2:Int)==0)=false)]<|.w (0<=o.a)
     (λk4=>chain [tB 65 (aT k4)]<|.w (o.a<m)
      (λk5=>chain [tB 70 (aT k5)]<|.w (0<=o.b)
       (λk6=>chain [tB 75 (aT k6)]<|rQ (bP (decide (o.b<m))) (bP (jG o m)) (kX))
       (λk6=>chain [tB 75 (aU k6)]<|rQ (bP false) (bP (jG o m)) (kX)))
      (λk5=>chain [tB 70 (aU k5)]<|rQ (bP false) (bP (jG o m)) (kX)))
     (λk4=>chain [tB 65 (aU k4)]<|rQ (bP false) (bP (jG o m)) (kX)))
    (λk3=>chain [tB 58 (aU k3)]<|rQ (bP false) (bP (jG o m)) (kX)))
   (λk2=>chain [.v 21 (.bool (aU k2)),.j 52 ⟨85,true,[(26,.e (bP (decide (o.kind=7\/9<=o.kind/\o.kind<=13)))),(11,.e (iP o.kind)),(6,.box 6 0),(2,.box 2 0),(1,.e (iP m))],[(6,.cells 74 [(iP o.kind),(iP 0),(iP 0),(iP 0),(iP 0),(iP 0)]),(2,.cells 74 [(iP o.kind),(iP o.a),(iP o.b),(iP o.n),(iP o.cn),(iP o.cd)])]⟩
   (.w (o.kind=7)
    (λm1=>chain [.v 26 (.bool (aM m1))]<|.e (chain [tB 26 (oA an:true=(decide (o.kind=7\/9<=o.kind/\o.kind<=13)))]<|.nil))
    (λm1=>chain [.v 26 (.bool (aK m1))]<|.w (o.kind=9)
     (λm2=>chain [tB 28 (aM m2)]<|.e (chain [tB 26 (oA an:true=(decide (o.kind=7\/9<=o.kind/\o.kind<=13)))]<|.nil))
     (λm2=>chain [tB 28 (aK m2)]<|.w (o.kind=10)
      (λm3=>chain [tB 29 (aM m3)]<|.e (chain [tB 26 (oA an:true=(decide (o.kind=7\/9<=o.kind/\o.kind<=13)))]<|.nil))
      (λm3=>chain [tB 29 (aK m3)]<|.w (o.kind=11)
       (λm4=>chain [tB 30 (aM m4)]<|.e (chain [tB 26 (oA an:true=(decide (o.kind=7\/9<=o.kind/\o.kind<=13)))]<|.nil))
       (λm4=>chain [tB 30 (aK m4)]<|.w (o.kind=12)
        (λm5=>chain [tB 31 (aM m5)]<|.e (chain [tB 26 (oA an:true=(decide (o.kind=7\/9<=o.kind/\o.kind<=13)))]<|.nil))
        (λm5=>chain [tB 31 (aK m5)]<|.e (chain [tB 26 (oA an:(o.kind==13)=(decide (o.kind=7\/9<=o.kind/\o.kind<=13)))]<|.nil)))))))]<|.w (o.kind=7\/9<=o.kind/\o.kind<=13)
    (λk3=>chain [.v 26 (.bool (aT k3)),tB 47 (ag:(decide ((0:Int)<1))=true),tB 52 (ag:(decide ((1:Int)<1))=false),.g (Jz g.kind g.a g.b g.n g.cn g.cd g.kind g.a uN uN uN uN:pG prog .eql 74 (rn o) (.agg [(iP o.kind),(iP o.a),(iP 0),(iP 0),(iP 0),(iP 0)]) (.bool (decide (o.kind=o.kind/\o.a=o.a/\o.b=0/\o.n=0/\o.cn=0/\o.cd=0))))]<|.w (o.kind=o.kind/\o.a=o.a/\o.b=0/\o.n=0/\o.cn=0/\o.cd=0)
     (λk4=>chain [tB 58 (aT k4),tB 61 (ag:((1:Int)==0)=false)]<|.w (0<=o.a)
      (λk5=>chain [tB 65 (aT k5)]<|.w (o.a<m)
       (λk6=>chain [tB 70 (aT k6)]<|.w (0<=o.b)
        (λk7=>chain [tB 75 (aT k7)]<|rQ (bP (decide (o.b<m))) (bP (jG o m)) (kX))
        (λk7=>chain [tB 75 (aU k7)]<|rQ (bP false) (bP (jG o m)) (kX)))
       (λk6=>chain [tB 70 (aU k6)]<|rQ (bP false) (bP (jG o m)) (kX)))
      (λk5=>chain [tB 65 (aU k5)]<|rQ (bP false) (bP (jG o m)) (kX)))
     (λk4=>chain [tB 58 (aU k4)]<|rQ (bP false) (bP (jG o m)) (kX)))
    (λk3=>chain [.v 26 (.bool (aU k3))]<|.w (o.kind=8)
     (λk4=>chain [tB 34 (aM k4)]<|.w (o.n<0)
      (λk5=>chain [tB 40 (aT k5)]<|rQ (bP false) (bP (jG o m)) (kX))
      (λk5=>chain [tB 40 (aU k5)]<|.w (16<o.n)
       (λk6=>chain [tB 44 (aT k6)]<|rQ (bP false) (bP (jG o m)) (kX))
       (λk6=>chain [tB 44 (aU k6),tB 47 (ag:(decide ((0:Int)<1))=true),tB 52 (ag:(decide ((1:Int)<1))=false),.g (Jz g.kind g.a g.b g.n g.cn g.cd g.kind g.a uN g.n uN uN:pG prog .eql 74 (rn o) (.agg [(iP o.kind),(iP o.a),(iP 0),(iP o.n),(iP 0),(iP 0)]) (.bool (decide (o.kind=o.kind/\o.a=o.a/\o.b=0/\o.n=o.n/\o.cn=0/\o.cd=0))))]<|.w (o.kind=o.kind/\o.a=o.a/\o.b=0/\o.n=o.n/\o.cn=0/\o.cd=0)
        (λk7=>chain [tB 58 (aT k7),tB 61 (ag:((1:Int)==0)=false)]<|.w (0<=o.a)
         (λk8=>chain [tB 65 (aT k8)]<|.w (o.a<m)
          (λk9=>chain [tB 70 (aT k9)]<|.w (0<=o.b)
           (λk10=>chain [tB 75 (aT k10)]<|rQ (bP (decide (o.b<m))) (bP (jG o m)) (kX))
           (λk10=>chain [tB 75 (aU k10)]<|rQ (bP false) (bP (jG o m)) (kX)))
          (λk9=>chain [tB 70 (aU k9)]<|rQ (bP false) (bP (jG o m)) (kX)))
         (λk8=>chain [tB 65 (aU k8)]<|rQ (bP false) (bP (jG o m)) (kX)))
        (λk7=>chain [tB 58 (aU k7)]<|rQ (bP false) (bP (jG o m)) (kX)))))
     (λk4=>chain [tB 34 (aK k4)]<|rQ (bP false) (bP (jG o m)) (kX)))))) ah 
theorem VH(L:List Nat):((L.length:Int)=0)↔L=[]:=by rw[<-gy];omega
def zB(d:RD):Bool:=!d.neg&&decide (d.L=[])&&(d.e==0)
theorem GN{d:RD}:zB d=true↔d.Zero:=by simp[zB,RD.Zero,and_assoc]
theorem Gc(d:RD):gW 95 [(mf d)] (bP (zB d)):=
 tr true call95 func95 (.w (d.neg=true)
  (λk1=>chain [tB 4 (k1)]<|rQ (bP false) (bP (zB d)) (by simp[zB,k1]))
  (λk1=>chain [tB 4 (aO k1)]<|.w ((d.L.length:Int)=0)
   (λk2=>chain [tB 10 (aM k2)]<|rQ (bP (d.e==0)) (bP (zB d)) (by simp[zB,k1,show d.L=[]from(VH _).1 k2]))
   (λk2=>chain [tB 10 (aK k2)]<|rQ (bP false) (bP (zB d)) (by simp[zB,k1,show ¬d.L=[]from λq=>k2 ((VH _).2 q)])))) ah 
theorem AX(x:RI)(g:x.jg):gW 49 [(qR x)] (bP (ny x)):=by
 have ga:=g.lo;have gb:=g.hi;by_cases ha:x.all=true
 .have nb:∀ q:x.all=false,False:=λq=>by rw[ha]at q;cases q
  by_cases h1:x.lo.Zero
  .by_cases h2:x.hi.Zero
   .rw [r8.2 (.inl ⟨ha,h1,h2⟩)]
    exact tr true call49 func49 (chain [tB 4 (ha:x.all=true),.c (Gc _:gW 95 [(mf x.lo)] _),tB 7 (GN.2 h1:(zB x.lo)=true),.c (Gc _:gW 95 [(mf x.hi)] _),tB 11 (GN.2 h2:(zB x.hi)=true)]<|.nil) ah 
   .have e:ny x=false:=by simpa using λq=>(r8.1 q).elim (λq=>h2 q.2.2) λq=>nb q.1
    rw[e];exact tr true call49 func49 (chain [tB 4 (ha:x.all=true),.c (Gc _:gW 95 [(mf x.lo)] _),tB 7 (GN.2 h1:(zB x.lo)=true),.c (Gc _:gW 95 [(mf x.hi)] _),tB 11 (aO λq=>h2 (GN.1 q):(zB x.hi)=false)]<|.nil) ah 
  .have e:ny x=false:=by simpa using λq=>(r8.1 q).elim (λq=>h1 q.2.1) λq=>nb q.1
   rw[e];exact tr true call49 func49 (chain [tB 4 (ha:x.all=true),.c (Gc _:gW 95 [(mf x.lo)] _),tB 7 (aO λq=>h1 (GN.1 q):(zB x.lo)=false)]<|.nil) ah 
 .replace ha:x.all=false:=by simpa using ha
  by_cases h1:x.lo.Ok
  .by_cases h2:x.hi.Ok
   .have v1:=h1.valid
    have v2:=h2.valid;have e1:qR x=ib x.iv:=by rw[<-Je,show x.iv.raw=x by show RI.mk x.lo.dy.raw x.hi.dy.raw x.all=x;rw[h1.eq ga,h2.eq gb]]
    rw[e1];by_cases h3:jo x.lo.dy x.hi.dy<=0
    .rw [r8.2 (.inr ⟨ha,h1,h2,h3⟩)]
     exact tr true call49 func49 (chain [tB 4 (ha:x.iv.all=false),.c (zF _ af:gW 96 [(gZ x.iv.lo)] _),.c (zF _ af:gW 96 [(gZ x.iv.hi)] _),.c (Cb x.iv.lo x.iv.hi v1.rE v2.rE),tB 27 (aT h3)]<|.nil) ah 
    .have e:ny x=false:=by simpa using λq=>(r8.1 q).elim (λq=>by rw[ha]at q;exact Bool.noConfusion q.1) λq=>h3 q.2.2.2
     rw[e];exact tr true call49 func49 (chain [tB 4 (ha:x.iv.all=false),.c (zF _ af:gW 96 [(gZ x.iv.lo)] _),.c (zF _ af:gW 96 [(gZ x.iv.hi)] _),.c (Cb x.iv.lo x.iv.hi v1.rE v2.rE),tB 27 (aU h3)]<|.nil) ah 
   .have e:ny x=false:=by simpa using λq=>(r8.1 q).elim (λq=>by rw[ha]at q;exact Bool.noConfusion q.1) λq=>h2 q.2.2.1
    rw[e];exact tr true call49 func49 (chain [tB 4 (ha:x.all=false),.c (JN _ af _ vX:gW 96 [(mf x.lo)] _),tB 15 (vX.2 h1:(yb x.lo)=true),.c (JN _ af _ vX:gW 96 [(mf x.hi)] _),tB 19 (aO λq=>h2 (vX.1 q):(yb x.hi)=false)]<|.nil) ah 
  .have e:ny x=false:=by simpa using λq=>(r8.1 q).elim (λq=>by rw[ha]at q;exact Bool.noConfusion q.1) λq=>h1 q.2.1
   rw[e];exact tr true call49 func49 (chain [tB 4 (ha:x.all=false),.c (JN _ af _ vX:gW 96 [(mf x.lo)] _),tB 15 (aO λq=>h1 (vX.1 q):(yb x.lo)=false)]<|.nil) ah 
theorem aiB(s:jt)(g:s.jg)(sm:s.mj)(hc:¬(0<=s.iq/\s.iq<=8/\s.gX.length<=200/\s.ik.length<=200/\1<=s.iA/\s.iA<=4/\(s.ik.length:Int)=s.iA/\s.params.length<=4/\s.iq=s.iA+(s.params.length:Int))):gW 12 [(lg s)] (bP false):=by
 have sp:=sm.params;have so:=sm.ik;have sq:=sm.gX;exact tr true call12 func12 (.w (s.iq<0)
  (λk1=>chain [tB 11 (aT k1)]<|.nil)
  (λk1=>chain [tB 11 (aU k1)]<|.w (8<s.iq)
   (λk2=>chain [tB 15 (aT k2)]<|.nil)
   (λk2=>chain [tB 15 (aU k2)]<|.w (200<(s.gX.length:Int))
    (λk3=>chain [tB 21 (aT k3)]<|.nil)
    (λk3=>chain [tB 21 (aU k3)]<|.w (200<(s.ik.length:Int))
     (λk4=>chain [tB 27 (aT k4)]<|.nil)
     (λk4=>chain [tB 27 (aU k4)]<|.w (s.iA<1)
      (λk5=>chain [tB 32 (aT k5)]<|.nil)
      (λk5=>chain [tB 32 (aU k5)]<|.w (4<s.iA)
       (λk6=>chain [tB 37 (aT k6)]<|.nil)
       (λk6=>chain [tB 37 (aU k6)]<|.w ((s.ik.length:Int)=s.iA)
        (λk7=>chain [tB 45 (aP k7)]<|.w (4<(s.params.length:Int))
         (λk8=>chain [tB 51 (aT k8)]<|.nil)
         (λk8=>chain [tB 51 (aU k8),iu (s.iA+(s.params.length:Int)) ae]<|.w (s.iq=(s.iA+(s.params.length:Int)))
          (λk9=>.x (by exact absurd ⟨ae,ae,ae,ae,ae,ae,ae,ae,ae⟩ hc))
          (λk9=>chain [tB 62 (aQ k9)]<|.nil)))
        (λk7=>chain [tB 45 (aQ k7)]<|.nil)))))))) ah 
theorem aiC(s:jt)(g:s.jg)(sm:s.mj)(i0:0<=s.iq)(i8:s.iq<=8)(l1:s.gX.length<=200)(l2:s.ik.length<=200)(s1:1<=s.iA)(s4:s.iA<=4)(e1:(s.ik.length:Int)=s.iA)(e2:s.iq=s.iA+(s.params.length:Int))(p4:s.params.length<=4)(N:Nat)(mz:N<s.gX.length)(iI:∀ k,k<N->(jG (s.gX.getD k iY) (s.iq+(k:Int)))=true)(hN:(jG (s.gX.getD N iY) (s.iq+(N:Int)))=false):gW 12 [(lg s)] (bP false):=by
 have sp:=sm.params;have so:=sm.ik;have sq:=sm.gX;exact tr true call12 func12 (chain [tF 11 (s.iq<0) ae,tF 15 (8<s.iq) ae,tF 21 (200<(s.gX.length:Int)) ae,tF 27 (200<(s.ik.length:Int)) ae,tF 32 (s.iA<1) ae,tF 37 (4<s.iA) ae,tB 45 (by simp[e1]:((s.ik.length:Int) != s.iA)=false),tF 51 (4<(s.params.length:Int)) ae,iu (s.iA+(s.params.length:Int)) ae,tB 62 (by simp[e2]:(s.iq != (s.iA+(s.params.length:Int)))=false),.s (Sp.jy (Xi s N) 0 N ae (λx hx kn=>by
    have np:=g.gX x;exact iC (chain [tT 68 ((x:Int)<s.gX.length) ae,iX ((x:Int)) (s.gX.length) ae,iu (s.iq+(x:Int)) ae,.c (B6 _ _ np:gW 48 [(rn (s.gX.getD x iY)),(iP (s.iq+(x:Int)))] _),tB 81 (by rw[iI x ae];rfl:(!(jG (s.gX.getD x iY) (s.iq+(x:Int))))=false),
     iu ((x:Int)+1) ae]<|.nil) ah)
  (λhx=>by
    have np:=g.gX N;exact iC (chain [tT 68 ((N:Int)<s.gX.length) ae,iX ((N:Int)) (s.gX.length) ae,iu (s.iq+(N:Int)) ae,.c (B6 _ _ np:gW 48 [(rn (s.gX.getD N iY)),(iP (s.iq+(N:Int)))] _),tB 81 (by rw[hN];rfl:(!(jG (s.gX.getD N iY) (s.iq+(N:Int))))=true)]<|.nil) ah) ak:jv 5 Tryz.f12 (Xi s N 0) .ret ⟨131,true,[(2,.e (bP false))],[]⟩) .nil]<|.nil) ah 
theorem aiD(s:jt)(g:s.jg)(sm:s.mj)(i0:0<=s.iq)(i8:s.iq<=8)(l1:s.gX.length<=200)(l2:s.ik.length<=200)(s1:1<=s.iA)(s4:s.iA<=4)(e1:(s.ik.length:Int)=s.iA)(e2:s.iq=s.iA+(s.params.length:Int))(p4:s.params.length<=4)(iI:∀ k,k<s.gX.length->(jG (s.gX.getD k iY) (s.iq+(k:Int)))=true)(N:Nat)(mz:N<s.ik.length)(mZ:∀ k,k<N->0<=(s.ik.getD k 0)/\(s.ik.getD k 0)<s.iq+(s.gX.length:Int))(hN:(s.ik.getD N 0)<0):gW 12 [(lg s)] (bP false):=by
 have sp:=sm.params;have so:=sm.ik;have sq:=sm.gX;exact tr true call12 func12 (chain [tF 11 (s.iq<0) ae,tF 15 (8<s.iq) ae,tF 21 (200<(s.gX.length:Int)) ae,tF 27 (200<(s.ik.length:Int)) ae,tF 32 (s.iA<1) ae,tF 37 (4<s.iA) ae,tB 45 (by simp[e1]:((s.ik.length:Int) != s.iA)=false),tF 51 (4<(s.params.length:Int)) ae,iu (s.iA+(s.params.length:Int)) ae,tB 62 (by simp[e2]:(s.iq != (s.iA+(s.params.length:Int)))=false),.s (Sp.jy (Xd s) 0 s.gX.length ae (λx hx kn=>by
    have np:=g.gX x;exact iC (chain [tT 68 ((x:Int)<s.gX.length) ae,iX ((x:Int)) (s.gX.length) ae,iu (s.iq+(x:Int)) ae,.c (B6 _ _ np:gW 48 [(rn (s.gX.getD x iY)),(iP (s.iq+(x:Int)))] _),tB 81 (by rw[iI x ae];rfl:(!(jG (s.gX.getD x iY) (s.iq+(x:Int))))=false),
     iu ((x:Int)+1) ae]<|.nil) ah)
  (λhx=>by
    exact iC (chain [tF 68 ((s.gX.length:Int)<s.gX.length) ae]<|.nil) ah) ak:jv 5 Tryz.f12 (Xd s 0) (.exit 0) ⟨131,true,[(3,.box 3 0),(1,.box 1 0)],[(3,.cells 25 [(iP s.iq),(jL s.gX),(jP s.ik)]),(1,.cells 28 [(iP s.iq),(jL s.gX),(jP s.ik),(iP s.iA),(j8 s.params)])]⟩) .nil,.s (Sp.jy (Xj s N) 0 N ae (λx hx kn=>by
    have BG:=mZ x ae;exact iC (chain [tT 86 ((x:Int)<s.ik.length) ae,iX ((x:Int)) (s.ik.length) ae,tF 94 ((s.ik.getD x 0)<0) ae,iX ((x:Int)) (s.ik.length) ae,
     iu (s.iq+(s.gX.length:Int)) ae,tF 107 ((s.iq+(s.gX.length:Int))<=(s.ik.getD x 0)) ae,iu ((x:Int)+1) ae]<|.nil) ah)
  (λhx=>by
    exact iC (chain [tT 86 ((N:Int)<s.ik.length) ae,iX ((N:Int)) (s.ik.length) ae,tB 94 (aT hN)]<|.nil) ah) ak:jv 10 Tryz.f12 (Xj s N 0) .ret ⟨131,true,[(2,.e (bP false))],[]⟩) .nil]<|.nil) ah 
theorem aiE(s:jt)(g:s.jg)(sm:s.mj)(i0:0<=s.iq)(i8:s.iq<=8)(l1:s.gX.length<=200)(l2:s.ik.length<=200)(s1:1<=s.iA)(s4:s.iA<=4)(e1:(s.ik.length:Int)=s.iA)(e2:s.iq=s.iA+(s.params.length:Int))(p4:s.params.length<=4)(iI:∀ k,k<s.gX.length->(jG (s.gX.getD k iY) (s.iq+(k:Int)))=true)(N:Nat)(mz:N<s.ik.length)(mZ:∀ k,k<N->0<=(s.ik.getD k 0)/\(s.ik.getD k 0)<s.iq+(s.gX.length:Int))(hN:0<=(s.ik.getD N 0))(hM:s.iq+(s.gX.length:Int)<=(s.ik.getD N 0)):gW 12 [(lg s)] (bP false):=by
 have sp:=sm.params;have so:=sm.ik;have sq:=sm.gX;exact tr true call12 func12 (chain [tF 11 (s.iq<0) ae,tF 15 (8<s.iq) ae,tF 21 (200<(s.gX.length:Int)) ae,tF 27 (200<(s.ik.length:Int)) ae,tF 32 (s.iA<1) ae,tF 37 (4<s.iA) ae,tB 45 (by simp[e1]:((s.ik.length:Int) != s.iA)=false),tF 51 (4<(s.params.length:Int)) ae,iu (s.iA+(s.params.length:Int)) ae,tB 62 (by simp[e2]:(s.iq != (s.iA+(s.params.length:Int)))=false),.s (Sp.jy (Xe s) 0 s.gX.length ae (λx hx kn=>by
    have np:=g.gX x;exact iC (chain [tT 68 ((x:Int)<s.gX.length) ae,iX ((x:Int)) (s.gX.length) ae,iu (s.iq+(x:Int)) ae,.c (B6 _ _ np:gW 48 [(rn (s.gX.getD x iY)),(iP (s.iq+(x:Int)))] _),tB 81 (by rw[iI x ae];rfl:(!(jG (s.gX.getD x iY) (s.iq+(x:Int))))=false),
     iu ((x:Int)+1) ae]<|.nil) ah)
  (λhx=>by
    exact iC (chain [tF 68 ((s.gX.length:Int)<s.gX.length) ae]<|.nil) ah) ak:jv 5 Tryz.f12 (Xe s 0) (.exit 0) ⟨131,true,[(3,.box 3 0),(1,.box 1 0)],[(3,.cells 25 [(iP s.iq),(jL s.gX),(jP s.ik)]),(1,.cells 28 [(iP s.iq),(jL s.gX),(jP s.ik),(iP s.iA),(j8 s.params)])]⟩) .nil,.s (Sp.jy (Xk s N) 0 N ae (λx hx kn=>by
    have BG:=mZ x ae;exact iC (chain [tT 86 ((x:Int)<s.ik.length) ae,iX ((x:Int)) (s.ik.length) ae,tF 94 ((s.ik.getD x 0)<0) ae,iX ((x:Int)) (s.ik.length) ae,
     iu (s.iq+(s.gX.length:Int)) ae,tF 107 ((s.iq+(s.gX.length:Int))<=(s.ik.getD x 0)) ae,iu ((x:Int)+1) ae]<|.nil) ah)
  (λhx=>by
    exact iC (chain [tT 86 ((N:Int)<s.ik.length) ae,iX ((N:Int)) (s.ik.length) ae,tF 94 ((s.ik.getD N 0)<0) ae,iX ((N:Int)) (s.ik.length) ae,
    iu (s.iq+(s.gX.length:Int)) ae,tB 107 (aT hM)]<|.nil) ah) ak:jv 10 Tryz.f12 (Xk s N 0) .ret ⟨131,true,[(2,.e (bP false))],[]⟩) .nil]<|.nil) ah 
theorem aiF(s:jt)(g:s.jg)(sm:s.mj)(i0:0<=s.iq)(i8:s.iq<=8)(l1:s.gX.length<=200)(l2:s.ik.length<=200)(s1:1<=s.iA)(s4:s.iA<=4)(e1:(s.ik.length:Int)=s.iA)(e2:s.iq=s.iA+(s.params.length:Int))(p4:s.params.length<=4)(iI:∀ k,k<s.gX.length->(jG (s.gX.getD k iY) (s.iq+(k:Int)))=true)(mZ:∀ k,k<s.ik.length->0<=(s.ik.getD k 0)/\(s.ik.getD k 0)<s.iq+(s.gX.length:Int))(N:Nat)(mz:N<s.params.length)(qc:∀ k,k<N->ny (s.params.getD k ju)=true/\(s.params.getD k ju).all=false)(hN:(s.params.getD N ju).all=true):gW 12 [(lg s)] (bP false):=by
 have sp:=sm.params;have so:=sm.ik;have sq:=sm.gX;exact tr true call12 func12 (chain [tF 11 (s.iq<0) ae,tF 15 (8<s.iq) ae,tF 21 (200<(s.gX.length:Int)) ae,tF 27 (200<(s.ik.length:Int)) ae,tF 32 (s.iA<1) ae,tF 37 (4<s.iA) ae,tB 45 (by simp[e1]:((s.ik.length:Int) != s.iA)=false),tF 51 (4<(s.params.length:Int)) ae,iu (s.iA+(s.params.length:Int)) ae,tB 62 (by simp[e2]:(s.iq != (s.iA+(s.params.length:Int)))=false),.s (Sp.jy (Xf s) 0 s.gX.length ae (λx hx kn=>by
    have np:=g.gX x;exact iC (chain [tT 68 ((x:Int)<s.gX.length) ae,iX ((x:Int)) (s.gX.length) ae,iu (s.iq+(x:Int)) ae,.c (B6 _ _ np:gW 48 [(rn (s.gX.getD x iY)),(iP (s.iq+(x:Int)))] _),tB 81 (by rw[iI x ae];rfl:(!(jG (s.gX.getD x iY) (s.iq+(x:Int))))=false),
     iu ((x:Int)+1) ae]<|.nil) ah)
  (λhx=>by
    exact iC (chain [tF 68 ((s.gX.length:Int)<s.gX.length) ae]<|.nil) ah) ak:jv 5 Tryz.f12 (Xf s 0) (.exit 0) ⟨131,true,[(3,.box 3 0),(1,.box 1 0)],[(3,.cells 25 [(iP s.iq),(jL s.gX),(jP s.ik)]),(1,.cells 28 [(iP s.iq),(jL s.gX),(jP s.ik),(iP s.iA),(j8 s.params)])]⟩) .nil,.s (Sp.jy (Xl s) 0 s.ik.length ae (λx hx kn=>by
    have BG:=mZ x ae;exact iC (chain [tT 86 ((x:Int)<s.ik.length) ae,iX ((x:Int)) (s.ik.length) ae,tF 94 ((s.ik.getD x 0)<0) ae,iX ((x:Int)) (s.ik.length) ae,
     iu (s.iq+(s.gX.length:Int)) ae,tF 107 ((s.iq+(s.gX.length:Int))<=(s.ik.getD x 0)) ae,iu ((x:Int)+1) ae]<|.nil) ah)
  (λhx=>by
    exact iC (chain [tF 86 ((s.ik.length:Int)<s.ik.length) ae]<|.nil) ah) ak:jv 10 Tryz.f12 (Xl s 0) (.exit 2) ⟨131,true,[(1,.box 1 0)],[(1,.cells 28 [(iP s.iq),(jL s.gX),(jP s.ik),(iP s.iA),(j8 s.params)])]⟩) .nil,.s (Sp.jy (Xm s N) 0 N ae (λx hx kn=>by
    have yR:=g.params x;exact iC (chain [tT 113 ((x:Int)<s.params.length) ae,iX ((x:Int)) (s.params.length) ae,tB 121 ((qc x ae).2:(s.params.getD x ju).all=false),
     iX ((x:Int)) (s.params.length) ae,.c (AX _ af:gW 49 [(qR (s.params.getD x ju))] _),tB 129 (by rw[(qc x ae).1];rfl:(!(ny (s.params.getD x ju)))=false),
     iu ((x:Int)+1) ae]<|.nil) ah)
  (λhx=>by
    have yR:=g.params N;exact iC (chain [tT 113 ((N:Int)<s.params.length) ae,iX ((N:Int)) (s.params.length) ae,tB 121 (hN:(s.params.getD N ju).all=true)]<|.nil) ah) ak:jv 15 Tryz.f12 (Xm s N 0) .ret ⟨131,true,[(2,.e (bP false))],[]⟩) .nil]<|.nil) ah 
theorem aiG(s:jt)(g:s.jg)(sm:s.mj)(i0:0<=s.iq)(i8:s.iq<=8)(l1:s.gX.length<=200)(l2:s.ik.length<=200)(s1:1<=s.iA)(s4:s.iA<=4)(e1:(s.ik.length:Int)=s.iA)(e2:s.iq=s.iA+(s.params.length:Int))(p4:s.params.length<=4)(iI:∀ k,k<s.gX.length->(jG (s.gX.getD k iY) (s.iq+(k:Int)))=true)(mZ:∀ k,k<s.ik.length->0<=(s.ik.getD k 0)/\(s.ik.getD k 0)<s.iq+(s.gX.length:Int))(N:Nat)(mz:N<s.params.length)(qc:∀ k,k<N->ny (s.params.getD k ju)=true/\(s.params.getD k ju).all=false)(hN:(s.params.getD N ju).all=false)(hM:ny (s.params.getD N ju)=false):gW 12 [(lg s)] (bP false):=by
 have sp:=sm.params;have so:=sm.ik;have sq:=sm.gX;exact tr true call12 func12 (chain [tF 11 (s.iq<0) ae,tF 15 (8<s.iq) ae,tF 21 (200<(s.gX.length:Int)) ae,tF 27 (200<(s.ik.length:Int)) ae,tF 32 (s.iA<1) ae,tF 37 (4<s.iA) ae,tB 45 (by simp[e1]:((s.ik.length:Int) != s.iA)=false),tF 51 (4<(s.params.length:Int)) ae,iu (s.iA+(s.params.length:Int)) ae,tB 62 (by simp[e2]:(s.iq != (s.iA+(s.params.length:Int)))=false),.s (Sp.jy (Xg s) 0 s.gX.length ae (λx hx kn=>by
    have np:=g.gX x;exact iC (chain [tT 68 ((x:Int)<s.gX.length) ae,iX ((x:Int)) (s.gX.length) ae,iu (s.iq+(x:Int)) ae,.c (B6 _ _ np:gW 48 [(rn (s.gX.getD x iY)),(iP (s.iq+(x:Int)))] _),tB 81 (by rw[iI x ae];rfl:(!(jG (s.gX.getD x iY) (s.iq+(x:Int))))=false),
     iu ((x:Int)+1) ae]<|.nil) ah)
  (λhx=>by
    exact iC (chain [tF 68 ((s.gX.length:Int)<s.gX.length) ae]<|.nil) ah) ak:jv 5 Tryz.f12 (Xg s 0) (.exit 0) ⟨131,true,[(3,.box 3 0),(1,.box 1 0)],[(3,.cells 25 [(iP s.iq),(jL s.gX),(jP s.ik)]),(1,.cells 28 [(iP s.iq),(jL s.gX),(jP s.ik),(iP s.iA),(j8 s.params)])]⟩) .nil,.s (Sp.jy (Xn s) 0 s.ik.length ae (λx hx kn=>by
    have BG:=mZ x ae;exact iC (chain [tT 86 ((x:Int)<s.ik.length) ae,iX ((x:Int)) (s.ik.length) ae,tF 94 ((s.ik.getD x 0)<0) ae,iX ((x:Int)) (s.ik.length) ae,
     iu (s.iq+(s.gX.length:Int)) ae,tF 107 ((s.iq+(s.gX.length:Int))<=(s.ik.getD x 0)) ae,iu ((x:Int)+1) ae]<|.nil) ah)
  (λhx=>by
    exact iC (chain [tF 86 ((s.ik.length:Int)<s.ik.length) ae]<|.nil) ah) ak:jv 10 Tryz.f12 (Xn s 0) (.exit 2) ⟨131,true,[(1,.box 1 0)],[(1,.cells 28 [(iP s.iq),(jL s.gX),(jP s.ik),(iP s.iA),(j8 s.params)])]⟩) .nil,.s (Sp.jy (Xo s N) 0 N ae (λx hx kn=>by
    have yR:=g.params x;exact iC (chain [tT 113 ((x:Int)<s.params.length) ae,iX ((x:Int)) (s.params.length) ae,tB 121 ((qc x ae).2:(s.params.getD x ju).all=false),
     iX ((x:Int)) (s.params.length) ae,.c (AX _ af:gW 49 [(qR (s.params.getD x ju))] _),tB 129 (by rw[(qc x ae).1];rfl:(!(ny (s.params.getD x ju)))=false),
     iu ((x:Int)+1) ae]<|.nil) ah)
  (λhx=>by
    have yR:=g.params N;exact iC (chain [tT 113 ((N:Int)<s.params.length) ae,iX ((N:Int)) (s.params.length) ae,tB 121 (hN:(s.params.getD N ju).all=false),iX ((N:Int)) (s.params.length) ae,.c (AX _ af:gW 49 [(qR (s.params.getD N ju))] _),tB 129 (by rw[hM];rfl:(!(ny (s.params.getD N ju)))=true)]<|.nil) ah) ak:jv 15 Tryz.f12 (Xo s N 0) .ret ⟨131,true,[(2,.e (bP false))],[]⟩) .nil]<|.nil) ah 
theorem aiH(s:jt)(g:s.jg)(sm:s.mj)(i0:0<=s.iq)(i8:s.iq<=8)(l1:s.gX.length<=200)(l2:s.ik.length<=200)(s1:1<=s.iA)(s4:s.iA<=4)(e1:(s.ik.length:Int)=s.iA)(e2:s.iq=s.iA+(s.params.length:Int))(p4:s.params.length<=4)(iI:∀ k,k<s.gX.length->(jG (s.gX.getD k iY) (s.iq+(k:Int)))=true)(mZ:∀ k,k<s.ik.length->0<=(s.ik.getD k 0)/\(s.ik.getD k 0)<s.iq+(s.gX.length:Int))(qc:∀ k,k<s.params.length->ny (s.params.getD k ju)=true/\(s.params.getD k ju).all=false):gW 12 [(lg s)] (bP true):=by
 have sp:=sm.params;have so:=sm.ik;have sq:=sm.gX;exact tr true call12 func12 (chain [tF 11 (s.iq<0) ae,tF 15 (8<s.iq) ae,tF 21 (200<(s.gX.length:Int)) ae,tF 27 (200<(s.ik.length:Int)) ae,tF 32 (s.iA<1) ae,tF 37 (4<s.iA) ae,tB 45 (by simp[e1]:((s.ik.length:Int) != s.iA)=false),tF 51 (4<(s.params.length:Int)) ae,iu (s.iA+(s.params.length:Int)) ae,tB 62 (by simp[e2]:(s.iq != (s.iA+(s.params.length:Int)))=false),.s (Sp.jy (Xh s) 0 s.gX.length ae (λx hx kn=>by
    have np:=g.gX x;exact iC (chain [tT 68 ((x:Int)<s.gX.length) ae,iX ((x:Int)) (s.gX.length) ae,iu (s.iq+(x:Int)) ae,.c (B6 _ _ np:gW 48 [(rn (s.gX.getD x iY)),(iP (s.iq+(x:Int)))] _),tB 81 (by rw[iI x ae];rfl:(!(jG (s.gX.getD x iY) (s.iq+(x:Int))))=false),
     iu ((x:Int)+1) ae]<|.nil) ah)
  (λhx=>by
    exact iC (chain [tF 68 ((s.gX.length:Int)<s.gX.length) ae]<|.nil) ah) ak:jv 5 Tryz.f12 (Xh s 0) (.exit 0) ⟨131,true,[(3,.box 3 0),(1,.box 1 0)],[(3,.cells 25 [(iP s.iq),(jL s.gX),(jP s.ik)]),(1,.cells 28 [(iP s.iq),(jL s.gX),(jP s.ik),(iP s.iA),(j8 s.params)])]⟩) .nil,.s (Sp.jy (Xp s) 0 s.ik.length ae (λx hx kn=>by
    have BG:=mZ x ae;exact iC (chain [tT 86 ((x:Int)<s.ik.length) ae,iX ((x:Int)) (s.ik.length) ae,tF 94 ((s.ik.getD x 0)<0) ae,iX ((x:Int)) (s.ik.length) ae,
     iu (s.iq+(s.gX.length:Int)) ae,tF 107 ((s.iq+(s.gX.length:Int))<=(s.ik.getD x 0)) ae,iu ((x:Int)+1) ae]<|.nil) ah)
  (λhx=>by
    exact iC (chain [tF 86 ((s.ik.length:Int)<s.ik.length) ae]<|.nil) ah) ak:jv 10 Tryz.f12 (Xp s 0) (.exit 2) ⟨131,true,[(1,.box 1 0)],[(1,.cells 28 [(iP s.iq),(jL s.gX),(jP s.ik),(iP s.iA),(j8 s.params)])]⟩) .nil,.s (Sp.jy (Xq s) 0 s.params.length ae (λx hx kn=>by
    have yR:=g.params x;exact iC (chain [tT 113 ((x:Int)<s.params.length) ae,iX ((x:Int)) (s.params.length) ae,tB 121 ((qc x ae).2:(s.params.getD x ju).all=false),
     iX ((x:Int)) (s.params.length) ae,.c (AX _ af:gW 49 [(qR (s.params.getD x ju))] _),tB 129 (by rw[(qc x ae).1];rfl:(!(ny (s.params.getD x ju)))=false),
     iu ((x:Int)+1) ae]<|.nil) ah)
  (λhx=>by
    exact iC (chain [tF 113 ((s.params.length:Int)<s.params.length) ae]<|.nil) ah) ak:jv 15 Tryz.f12 (Xq s 0) (.exit 4) ⟨131,true,[],[]⟩) .nil]<|.nil) ah 
theorem F9(s:jt)(g:s.jg)(sm:s.mj):gW 12 [lg s] (bP (mE s)):=by
 by_cases hc:0<=s.iq/\s.iq<=8/\s.gX.length<=200/\s.ik.length<=200/\1<=s.iA/\s.iA<=4/\(s.ik.length:Int)=s.iA/\s.params.length<=4/\s.iq=s.iA+(s.params.length:Int)
 rotate_left
 .rw [show mE s=false from akD hc]
  exact aiB s g sm hc
 obtain⟨i0,i8,l1,l2,s1,s4,e1,p4,e2⟩:=hc;by_cases c2:Gl s=true
 rotate_left
 .rw [show mE s=false by unfold mE;rw[aO c2];simp]
  obtain⟨N,n1,n2,n3⟩:=yC c2;exact aiC s g sm i0 i8 l1 l2 s1 s4 e1 e2 p4 N n1 (λk hk=>by simpa using n3 k hk) (by simpa using n2)
 have iI:∀ k,k<s.gX.length->jG (s.gX.getD k iY) (s.iq+(k:Int))=true:=λk hk=>bH.1 c2 k (bI.2 hk)
 by_cases c3:vY s=true
 rotate_left
 .rw [show mE s=false by unfold mE;rw[aO c3];simp]
  obtain⟨N,n1,n2,n3⟩:=yC c3;have mZ:∀ k,k<N->0<=s.ik.getD k 0/\s.ik.getD k 0<s.iq+(s.gX.length:Int):=λk hk=>by simpa[vQ]using n3 k hk
  have hN:¬(0<=s.ik.getD N 0/\s.ik.getD N 0<s.iq+(s.gX.length:Int)):=λq=>by
   rw[show vQ s (s.ik.getD N 0)=true from aT q]at n2;cases n2
  by_cases h0:s.ik.getD N 0<0
  .exact aiD s g sm i0 i8 l1 l2 s1 s4 e1 e2 p4 iI N n1 mZ h0
  .exact aiE s g sm i0 i8 l1 l2 s1 s4 e1 e2 p4 iI N n1 mZ ae ae 
 have mZ:∀ k,k<s.ik.length->0<=s.ik.getD k 0/\s.ik.getD k 0<s.iq+(s.gX.length:Int):=λk hk=>by simpa[vQ]using List.all_eq_true.1 c3 k (bI.2 hk)
 by_cases c4:DZ s=true
 .rw [show mE s=true by unfold mE;rw[aT (⟨i0,i8,l1,l2⟩:_/\_),c2,c3,aT (⟨s1,s4,e1,e2,p4⟩:_/\_),c4];rfl]
  exact aiH s g sm i0 i8 l1 l2 s1 s4 e1 e2 p4 iI mZ λk hk=>by simpa[nA]using List.all_eq_true.1 c4 k (bI.2 hk)
 .rw [show mE s=false by unfold mE;rw[aO c4];simp]
  obtain⟨N,n1,n2,n3⟩:=yC c4;have qc:∀ k,k<N->ny (s.params.getD k ju)=true/\(s.params.getD k ju).all=false:=λk hk=>by simpa[nA]using n3 k hk
  cases ha:(s.params.getD N ju).all with
  |true=>exact aiF s g sm i0 i8 l1 l2 s1 s4 e1 e2 p4 iI mZ N n1 qc ha
  |false=>exact aiG s g sm i0 i8 l1 l2 s1 s4 e1 e2 p4 iI mZ N n1 qc ha (by
   cases hk:ny (s.params.getD N ju)with
   |false=>rfl
   |true=>rw[show nA (s.params.getD N ju)=true by unfold nA;rw[hk,ha];rfl]at n2;cases n2)
theorem aiY(s:jt)(g:s.jg)(sm:s.mj)(b:List RI)(gb:∀ i,(b.getD i ju).jg)(nn:b.length<=1000)(hs:mE s=false):gW 31 [(lg s),(j8 b)] (bP false):=
 tr true call31 func31 (chain [.c (F9 _ g sm:gW 12 [(lg s)] _),tB 8 (by rw[hs];rfl:(!(mE s))=true)]<|.nil) ah 
theorem aiZ(s:jt)(g:s.jg)(sm:s.mj)(b:List RI)(gb:∀ i,(b.getD i ju).jg)(nn:b.length<=1000)(hs:mE s=true)(hl:¬(b.length:Int)=s.iA):gW 31 [(lg s),(j8 b)] (bP false):=
 tr true call31 func31 (chain [.c (F9 _ g sm:gW 12 [(lg s)] _),tB 8 (by rw[hs];rfl:(!(mE s))=false),tB 14 (by simpa using hl:((b.length:Int) != s.iA)=true)]<|.nil) ah 
theorem ai0(s:jt)(g:s.jg)(sm:s.mj)(b:List RI)(gb:∀ i,(b.getD i ju).jg)(nn:b.length<=1000)(hs:mE s=true)(hl:(b.length:Int)=s.iA)(N:Nat)(mz:N<b.length)(qc:∀ k,k<N->ny (b.getD k ju)=true/\(b.getD k ju).all=false)(hN:(b.getD N ju).all=true):gW 31 [(lg s),(j8 b)] (bP false):=
 tr true call31 func31 (chain [.c (F9 _ g sm:gW 12 [(lg s)] _),tB 8 (by rw[hs];rfl:(!(mE s))=false),tB 14 (by simp[hl]:((b.length:Int) != s.iA)=false),.s (Sp.jy (WE s b N) 0 N ae (λx hx kn=>by
    have yR:=gb x;exact iC (chain [tT 19 ((x:Int)<b.length) ae,iX ((x:Int)) (b.length) ae,tB 26 ((qc x ae).2:(b.getD x ju).all=false),iX ((x:Int)) (b.length) ae,.c (AX _ af:gW 49 [(qR (b.getD x ju))] _),tB 33 (by rw[(qc x ae).1];rfl:(!(ny (b.getD x ju)))=false),iu ((x:Int)+1) ae]<|.nil) ah)
  (λhx=>by
    have yR:=gb N;exact iC (chain [tT 19 ((N:Int)<b.length) ae,iX ((N:Int)) (b.length) ae,tB 26 (hN:(b.getD N ju).all=true)]<|.nil) ah) ak:jv 4 Tryz.f31 (WE s b N 0) .ret ⟨35,true,[(4,.e (bP false))],[]⟩) .nil]<|.nil) ah 
theorem ai1(s:jt)(g:s.jg)(sm:s.mj)(b:List RI)(gb:∀ i,(b.getD i ju).jg)(nn:b.length<=1000)(hs:mE s=true)(hl:(b.length:Int)=s.iA)(N:Nat)(mz:N<b.length)(qc:∀ k,k<N->ny (b.getD k ju)=true/\(b.getD k ju).all=false)(hN:(b.getD N ju).all=false)(hM:ny (b.getD N ju)=false):gW 31 [(lg s),(j8 b)] (bP false):=
 tr true call31 func31 (chain [.c (F9 _ g sm:gW 12 [(lg s)] _),tB 8 (by rw[hs];rfl:(!(mE s))=false),tB 14 (by simp[hl]:((b.length:Int) != s.iA)=false),.s (Sp.jy (WG s b N) 0 N ae (λx hx kn=>by
    have yR:=gb x;exact iC (chain [tT 19 ((x:Int)<b.length) ae,iX ((x:Int)) (b.length) ae,tB 26 ((qc x ae).2:(b.getD x ju).all=false),iX ((x:Int)) (b.length) ae,.c (AX _ af:gW 49 [(qR (b.getD x ju))] _),tB 33 (by rw[(qc x ae).1];rfl:(!(ny (b.getD x ju)))=false),iu ((x:Int)+1) ae]<|.nil) ah)
  (λhx=>by
    have yR:=gb N;exact iC (chain [tT 19 ((N:Int)<b.length) ae,iX ((N:Int)) (b.length) ae,tB 26 (hN:(b.getD N ju).all=false),iX ((N:Int)) (b.length) ae,.c (AX _ af:gW 49 [(qR (b.getD N ju))] _),tB 33 (by rw[hM];rfl:(!(ny (b.getD N ju)))=true)]<|.nil) ah) ak:jv 4 Tryz.f31 (WG s b N 0) .ret ⟨35,true,[(4,.e (bP false))],[]⟩) .nil]<|.nil) ah 
theorem ai2(s:jt)(g:s.jg)(sm:s.mj)(b:List RI)(gb:∀ i,(b.getD i ju).jg)(nn:b.length<=1000)(hs:mE s=true)(hl:(b.length:Int)=s.iA)(qc:∀ k,k<b.length->ny (b.getD k ju)=true/\(b.getD k ju).all=false):gW 31 [(lg s),(j8 b)] (bP true):=
 tr true call31 func31 (chain [.c (F9 _ g sm:gW 12 [(lg s)] _),tB 8 (by rw[hs];rfl:(!(mE s))=false),tB 14 (by simp[hl]:((b.length:Int) != s.iA)=false),.s (Sp.jy (WH s b) 0 b.length ae (λx hx kn=>by
    have yR:=gb x;exact iC (chain [tT 19 ((x:Int)<b.length) ae,iX ((x:Int)) (b.length) ae,tB 26 ((qc x ae).2:(b.getD x ju).all=false),iX ((x:Int)) (b.length) ae,.c (AX _ af:gW 49 [(qR (b.getD x ju))] _),tB 33 (by rw[(qc x ae).1];rfl:(!(ny (b.getD x ju)))=false),iu ((x:Int)+1) ae]<|.nil) ah)
  (λhx=>by
    exact iC (chain [tF 19 ((b.length:Int)<b.length) ae]<|.nil) ah) ak:jv 4 Tryz.f31 (WH s b 0) (.exit 0) ⟨35,true,[],[]⟩) .nil]<|.nil) ah 
noncomputable def wu(s:jt)(b:List RI):Bool:=mE s&&qs s.iA b
theorem Ol(s:jt)(g:s.jg)(sm:s.mj)(b:List RI)(gb:∀ i,(b.getD i ju).jg)(nn:b.length<=1000):gW 31 [lg s,j8 b] (bP (wu s b)):=by
 unfold wu;cases hs:mE s with
 |false=>exact aiY s g sm b gb nn hs
 |true=>
  rw[dF];by_cases hl:(b.length:Int)=s.iA
  rotate_left
  .rw [show qs s.iA b=false by unfold qs;rw[aU hl];rfl]
   exact aiZ s g sm b gb nn hs hl
  by_cases c4:((List.range b.length).all λi=>nA (b.getD i ju))=true
  .rw [show qs s.iA b=true by unfold qs;rw[aT hl,c4];rfl]
   exact ai2 s g sm b gb nn hs hl λk hk=>by simpa[nA]using List.all_eq_true.1 c4 k (bI.2 hk)
  .rw [show qs s.iA b=false by unfold qs;rw[aO c4];simp]
   obtain⟨N,n1,n2,n3⟩:=yC c4;have qc:∀ k,k<N->ny (b.getD k ju)=true/\(b.getD k ju).all=false:=λk hk=>by simpa[nA]using n3 k hk
   cases ha:(b.getD N ju).all with
   |true=>exact ai0 s g sm b gb nn hs hl N n1 qc ha
   |false=>exact ai1 s g sm b gb nn hs hl N n1 qc ha (by
    cases hk:ny (b.getD N ju)with
    |false=>rfl
    |true=>rw[show nA (b.getD N ju)=true by unfold nA;rw[hk,ha];rfl]at n2;cases n2)
theorem F5(p:Int):lE p=decide (8<=p/\p<=512):=by
 rw[cS,pn,bU]
theorem ai4(s:jt)(g:s.jg)(sm:s.mj)(x:List RI)(gx:∀ i,(x.getD i ju).jg)(lv:x.length<=1000)(d:RD)(gd:d.jg)(p:Int)(hd:¬d.Ok):gW 117 [(lg s),(j8 x),(mf d),(iP p)] (bP (mQ s x d p)):=by
 have vw:yb d=false:=aO λq=>hd (vX.1 q)
 exact tr true call117 func117 (chain [.c (Ol _ g sm _ gx lv:gW 31 [(lg s),(j8 x)] _)]<|.w (wu s x=true)
  (λk1=>chain [tB 11 (k1),.c (JN _ af _ vX:gW 96 [(mf d)] _),tB 14 (vw:(yb d)=false)]<|rQ (bP false) (bP (mQ s x d p)) (nk az))
  (λk1=>chain [tB 11 (aO k1)]<|rQ (bP false) (bP (mQ s x d p)) (nk az))) ah 
theorem ai5(s:jt)(g:s.jg)(sm:s.mj)(x:List RI)(gx:∀ i,(x.getD i ju).jg)(lv:x.length<=1000)(d:RD)(gd:d.jg)(p:Int)(hd:d.Ok):gW 117 [(lg s),(j8 x),(gZ d.dy),(iP p)] (bP (mQ s x d p)):=by
 have vw:yb d=true:=vX.2 hd;have hv:=hd.valid;exact tr true call117 func117 (chain [.c (Ol _ g sm _ gx lv:gW 31 [(lg s),(j8 x)] _)]<|.w (wu s x=true)
  (λk1=>chain [tB 11 (k1),.c (zF _ af:gW 96 [(gZ d.dy)] _),.c (vW _:gW 53 [(gZ d.dy)] _)]<|.w (0<(Dy.iK d.dy))
   (λk2=>chain [tB 19 (aT k2),.c (Oz _:gW 135 [(iP p)] _)]<|rQ (bP (lE p)) (bP (mQ s x d p)) (nk az))
   (λk2=>chain [tB 19 (aU k2)]<|rQ (bP false) (bP (mQ s x d p)) (nk az)))
  (λk1=>chain [tB 11 (aO k1)]<|rQ (bP false) (bP (mQ s x d p)) (nk az))) ah 
theorem ai3(s:jt)(g:s.jg)(sm:s.mj)(x:List RI)(gx:∀ i,(x.getD i ju).jg)(lv:x.length<=1000)(d:RD)(gd:d.jg)(p:Int):gW 117 [lg s,j8 x,mf d,iP p] (bP (mQ s x d p)):=by
 by_cases hd:d.Ok
 .have:=ai5 s g sm x gx lv d gd p hd
  rwa[<-Lh,hd.eq gd]at this
 .exact ai4 s g sm x gx lv d gd p hd
def rp:kV:=⟨⟨1,[],[0]⟩,1,[]⟩
theorem O7:mI rp:=by
 refine⟨⟨ag,ag,ag,λi hi=>absurd hi (bk i),λi hi=>?_⟩,ag,ag,rfl,rfl,ag,λi hi=>absurd hi (bk i)⟩;have hi:i<1:=hi;obtain rfl:i=0:= ae ;decide
theorem ale{B:Iv}(v:B.ic)(a:B.all=false):ke 1 [B]:=⟨rfl,λi hi=>by
 have hi:i<1:=hi;obtain rfl:i=0:= ae ;exact⟨v,a⟩⟩
abbrev sQ:List Iv:=[⟨kY 1 0,kY 1 0,false⟩]
abbrev tw:Dy:=kY 1 (-2)
abbrev Ih:List Iv:=[⟨kY 2 (-1),kY 3 (-1),false⟩]
abbrev Ii:List Iv:=[⟨kY 4 (-2),kY 5 (-2),false⟩]
theorem adx:∀ k:Nat,k<19->yD rp sQ tw 60 ((k:Int)-20)=false:=by
 have h:((List.range 19).all λk:Nat=>!(yD rp sQ tw 60 ((k:Int)-20)))=true:= ar ;intro k hk;simpa using List.all_eq_true.1 h k (bI.2 hk)
theorem ady:yD rp sQ tw 60 (((19:Nat):Int)-20)=true:= ar 
theorem adw:(re sQ (nW (((19:Nat):Int)-20))).length=1:= ar 
theorem adu:pP rp sQ tw Ih 60=true:= ar 
theorem adv:pP rp sQ tw Ii 60=false:= ar 
theorem LG{a b e:Int}(h1:a.natAbs<4294967296)(h2:b.natAbs<4294967296)(h3:-1000<=e)(h4:e<=1000)(h:jo (kY a e) (kY b e)<=0):ke 1 [⟨kY a e,kY b e,false⟩]:=
 ale (.inr ⟨rfl,Eo h1 h3 h4,Eo h2 h3 h4,h⟩) rfl
theorem LF:ke 1 sQ:=LG ag ag ag ag ar 
theorem adk:ke 1 Ih:=LG ag ag ag ag ar 
theorem adl:ke 1 Ii:=LG ag ag ag ag ar 
theorem LD:tw.ic:=Eo ag ag ag 
theorem LC:0<tw.iK:= ar 
theorem Fw(n e:Int)(h1:n.natAbs<4294967296)(h2:-1000<=e)(h3:e<=1000):gW 61 [(iP n),(iP e)] (gZ (kY n e)):=by
 have hrg:mW (canon (Dy.neg (jf n)) (Dy.m (jf n)) ((Dy.e (jf n))+e)):=by rw[QP];exact(Eo h1 h2 h3).range
 exact tr true call61 func61 (chain [.c (ajS _ ae:gW 112 [(iP n)] _),.c (aj2 _ _ (sw ae) ae ae hrg:gW 111 [(gZ (jf n)),(iP e)] _)]<|rQ (gZ (canon (Dy.neg (jf n)) (Dy.m (jf n)) ((Dy.e (jf n))+e))) (gZ (kY n e)) (by rw[QP])) ah 
theorem Nl(a b e:Int)(h1:a.natAbs<4294967296)(h4:b.natAbs<4294967296)(h2:-1000<=e)(h3:e<=1000):gW 59 [(iP a),(iP b),(iP e)] (ib (Iv.mk (kY a e) (kY b e) false)):=
 tr true call59 func59 (chain [.c (Fw _ _ ae ae ae:gW 61 [(iP a),(iP e)] _),.c (Fw _ _ ae ae ae:gW 61 [(iP b),(iP e)] _)]<|.nil) ah 
theorem O6:E.le (.agg [iP 1,.v (.slice none 0 0),.sl true 1 1 λi j=>[iP 0].getD (i*1+j) (.v (.bool false)),iP 1,.v (.slice none 0 0)]) (jj rp):=
 .agg (.cons (.refl _) (.cons (.nil _ _ _) (.cons (.sl λi j hi hj=>by
  obtain rfl:i=0:= ae ;obtain rfl:j=0:= ae ;exact⟨.iS rfl,rfl⟩) (.cons (.refl _) (.cons (.nil _ _ _) .nil)))))
theorem adp:gW 60 [jj rp,ij sQ,gZ tw,iP 60] (.ix [ij (re sQ (nW (((19:Nat):Int)-20))),iP 0]):=
 ac6 rp sQ tw 60 O7 LF LD LC ag ag 19 ag adx ady
theorem adq:gW 23 [jj rp,ij sQ,gZ tw,ij Ih,iP 60] (bP true):=by
 have:=wV rp sQ tw Ih 60 O7 LF LD LC adk ag ag;rwa[adu]at this
theorem adr:gW 23 [jj rp,ij sQ,gZ tw,ij Ii,iP 60] (bP false):=by
 have:=wV rp sQ tw Ii 60 O7 LF LD LC adl ag ag;rwa[adv]at this
theorem Dw : gW 18 [] (bP true):=
 tr true call18 func18 (chain [.c (Nl _ _ _ ag ag ag ag:gW 59 [(iP 1),(iP 1),(iP 0)] _),.o 9 (.e (mH _):PV.le (.e (.sl true 1 7 λi_ j_=>(ja (Iv.mk (kY 1 0) (kY 1 0) false)).getD (i_*7+j_) (.v (.bool false)))) (.e (ij [(Iv.mk (kY 1 0) (kY 1 0) false)]))),.o 11 (.e O6:PV.le (.e (.agg [(iP 1),(.v (.slice none 0 0)),(.sl true 1 1 λi_ j_=>[(iP 0)].getD (i_*1+j_) (.v (.bool false))),(iP 1),(.v (.slice none 0 0))])) (.e (jj rp))),.c (Fw _ _ ag ag ag:gW 61 [(iP 1),(iP (-2))] _),.c (adp:gW 60 [(jj rp),(ij [(Iv.mk (kY 1 0) (kY 1 0) false)]),(gZ (kY 1 (-2))),(iP 60)] _),.o 17 (.e O6:PV.le (.e (.agg [(iP 1),(.v (.slice none 0 0)),(.sl true 1 1 λi_ j_=>[(iP 0)].getD (i_*1+j_) (.v (.bool false))),(iP 1),(.v (.slice none 0 0))])) (.e (jj rp))),.c (Fw _ _ ag ag ag:gW 61 [(iP 1),(iP (-2))] _),.c (Nl _ _ _ ag ag ag ag:gW 59 [(iP 2),(iP 3),(iP (-1))] _),.o 21 (.e (mH _):PV.le (.e (.sl true 1 7 λi_ j_=>(ja (Iv.mk (kY 2 (-1)) (kY 3 (-1)) false)).getD (i_*7+j_) (.v (.bool false)))) (.e (ij [(Iv.mk (kY 2 (-1)) (kY 3 (-1)) false)]))),.c (adq:gW 23 [(jj rp),(ij [(Iv.mk (kY 1 0) (kY 1 0) false)]),(gZ (kY 1 (-2))),(ij [(Iv.mk (kY 2 (-1)) (kY 3 (-1)) false)]),(iP 60)] _),.o 24 (.e O6:PV.le (.e (.agg [(iP 1),(.v (.slice none 0 0)),(.sl true 1 1 λi_ j_=>[(iP 0)].getD (i_*1+j_) (.v (.bool false))),(iP 1),(.v (.slice none 0 0))])) (.e (jj rp))),.c (Fw _ _ ag ag ag:gW 61 [(iP 1),(iP (-2))] _),.c (Nl _ _ _ ag ag ag ag:gW 59 [(iP 4),(iP 5),(iP (-2))] _),.o 28 (.e (mH _):PV.le (.e (.sl true 1 7 λi_ j_=>(ja (Iv.mk (kY 4 (-2)) (kY 5 (-2)) false)).getD (i_*7+j_) (.v (.bool false)))) (.e (ij [(Iv.mk (kY 4 (-2)) (kY 5 (-2)) false)]))),.c (adr:gW 23 [(jj rp),(ij [(Iv.mk (kY 1 0) (kY 1 0) false)]),(gZ (kY 1 (-2))),(ij [(Iv.mk (kY 4 (-2)) (kY 5 (-2)) false)]),(iP 60)] _),tB 34 (ag:((0:Int)==0)=true),tB 39 (by rw[adw];rfl:((((re sQ (nW (((19:Nat):Int)-20))).length:Nat):Int)==1)=true)]<|.nil) ah 
def qg(d:RD):Bool:=decide (20<d.L.length)||(decide (300<d.e)||decide (d.e < -300))
def zi(x:RI):Bool:=qg x.lo||qg x.hi
def qS(l:List RI):Bool:=decide (l.length<=8) && !((List.range l.length).any λi=>zi (l.getD i ju))
def sS(s:jt):Bool:=decide (s.gX.length<=60)&&(decide (s.ik.length<=8)&&qS s.params)
theorem J1{l:List RI}(h:qS l=true):l.length<=8:=by
 unfold qS at h;rw[bu,bU]at h;exact h.1
theorem Sg{s:jt}(h:sS s=true):s.mj:=by
 unfold sS at h;rw[bu,bu,bU,bU]at h;have:=J1 h.2.2;exact⟨ae,ae,ae⟩
theorem Fx(d:RD):gW 21 [(mf d)] (bP (qg d)):=
 tr true call21 func21 (.w (20<(d.L.length:Int))
  (λk1=>chain [tB 6 (aT k1)]<|rR (bP (qg d)) (by
      exact .iS (by
       have:qg d=true:=by unfold qg;simp[show 20<d.L.length from ae]
       rw[this]):E.le (bP true) (bP (qg d))))
  (λk1=>chain [tB 6 (aU k1)]<|.w (300<d.e)
   (λk2=>chain [tB 10 (aT k2)]<|rR (bP (qg d)) (by
      exact .iS (by
       have:qg d=true:=by unfold qg;simp[show ¬20<d.L.length from ae,k2]
       rw[this]):E.le (bP true) (bP (qg d))))
   (λk2=>chain [tB 10 (aU k2)]<|rR (bP (qg d)) (by
      exact .iS (by
       have:qg d=(decide (d.e<(-300))):=by unfold qg;simp[show ¬20<d.L.length from ae,k2]
       rw[this]):E.le (bP (decide (d.e<(-300)))) (bP (qg d)))))) ah 
theorem agG(x:RI):gW 62 [(qR x)] (bP (zi x)):=
 tr true call62 func62 (chain [.c (Fx x.lo:gW 21 [(mf x.lo)] _)]<|.w (qg x.lo=true)
  (λk1=>chain [tB 5 (k1)]<|rQ (bP true) (bP (zi x)) (nk (by simp_all[zi])))
  (λk1=>chain [tB 5 (aO k1),.c (Fx x.hi:gW 21 [(mf x.hi)] _)]<|rQ (bP (qg x.hi)) (bP (zi x)) (nk (by simp_all[zi])))) ah 
theorem agC(l:List RI)(hl:l.length<=1000):gW 40 [j8 l,.fn 62 []] (bP ((List.range l.length).any λi=>zi (l.getD i ju))):=
 Ni true l.length (λi j=>(zG (l.getD i ju)).getD j .any) 62 [] (λi=>zi (l.getD i ju)) (λi _=>agG _) ae 
theorem BU(l:List RI):gW 20 [(j8 l)] (bP (qS l)):=
 tr true call20 func20 (.w ((l.length:Int)<=8)
  (λk1=>chain [tB 5 (aT k1),.c (agC l ae:gW 40 [(j8 l),(.fn 62 [])] _)]<|rQ (bP (!((List.range l.length).any λi=>zi (l.getD i ju)))) (bP (qS l)) (nk (by unfold qS;simp[show l.length<=8 from ae])))
  (λk1=>chain [tB 5 (aU k1)]<|rQ (bP false) (bP (qS l)) (nk (by unfold qS;simp[show ¬l.length<=8 from ae])))) ah 
theorem Nk(s:jt):gW 19 [(lg s)] (bP (sS s)):=
 tr true call19 func19 (.w ((s.gX.length:Int)<=60)
  (λk1=>chain [tB 7 (aT k1)]<|.w ((s.ik.length:Int)<=8)
   (λk2=>chain [tB 13 (aT k2),.c (BU _:gW 20 [(j8 s.params)] _)]<|rQ (bP (qS s.params)) (bP (sS s)) (nk (by unfold sS;simp[show s.gX.length<=60 from ae,show s.ik.length<=8 from ae])))
   (λk2=>chain [tB 13 (aU k2)]<|rQ (bP false) (bP (sS s)) (nk (by unfold sS;simp[show s.gX.length<=60 from ae,show ¬s.ik.length<=8 from ae]))))
  (λk1=>chain [tB 7 (aU k1)]<|rQ (bP false) (bP (sS s)) (nk (by unfold sS;simp[show ¬s.gX.length<=60 from ae])))) ah 
theorem ajb(x:Iv)(hx:x.ic):gW 37 [(ib x),(ib x)] (bP true):=by
 obtain⟨w1,w2⟩:=hx.j9;exact tr true call37 func37 (chain [tB 9 (aj:(x.all==x.all)=true),.c (Xt _ _ true ⟨λ_=>rfl,λ_=>rfl⟩ (by have:=w1.gV;omega) (by have:=w1.gV;omega):gW 83 [(gZ x.lo),(gZ x.lo)] _),.c (Xt _ _ true ⟨λ_=>rfl,λ_=>rfl⟩ (by have:=w2.gV;omega) (by have:=w2.gV;omega):gW 83 [(gZ x.hi),(gZ x.hi)] _)]<|.nil) ah 
theorem agD(x:Iv)(hx:x.ic):gW 66 [(ib x),(ib x)] (bP true):=
 tr true call66 func66 (.w (x.all=true)
  (λk1=>chain [tB 6 (k1),tB 9 (k1)]<|.nil)
  (λk1=>chain [tB 6 (aO k1),.c (ajb _ af:gW 37 [(ib x),(ib x)] _)]<|.nil)) ah 
theorem agE(b:List Iv)(hb:oQ b)(h8:b.length<=8):gW 25 [(ij b),(ij b)] (bP true):=
 tr true call25 func25 (chain [.c (Qh b b 66 [] (λ_=>true) rfl ae (λi hi=>agD _ (hb i hi).1) (λ_ _=>rfl))]<|.nil) ah 
theorem So{s:jt}(g:s.jg){x:List RI}(gx:∀ i,(x.getD i ju).jg){d:RD}(gd:d.jg){p:Int}(h:mQ s x d p=true):mI s.v/\ke s.v.iA (x.map RI.iv)/\d.dy.ic/\0<d.dy.iK/\8<=p/\p<=512/\lg s=jj s.v/\j8 x=ij (x.map RI.iv)/\mf d=gZ d.dy:=by
 unfold mQ at h;simp only[bu,bU]at h;obtain⟨⟨⟨⟨h1,h2⟩,h3⟩,h4⟩,h5⟩:=h;obtain⟨o1,o2⟩:=akE g h1;have h3:=vX.1 h3;unfold qs at h2;rw[bu,bU]at h2;obtain⟨b1,b2⟩:=h2;have pa:∀ i,i<x.length->(x.getD i ju).Ok/\(x.getD i ju).all=false:=λi hi=>by
  have:=bH.1 b2 i (bI.2 hi);unfold nA at this;rw[bu]at this;exact⟨r8.1 this.1,by simpa using this.2⟩
 have lp:∀ i,i<x.length->(x.map RI.iv).getD i ig=(x.getD i ju).iv:=λi hi=>by simp[aW,hi]
 have s1:=o1.s1;refine⟨o1,⟨by rw[cR];show x.length=s.iA.toNat;omega,λi hi=>?_⟩,h3.valid,h4,h5.1,h5.2,o2,?_,?_⟩
 .have hi:i<x.length:=by simpa using hi
  rw[lp i hi];exact⟨(pa i hi).1.valid,(pa i hi).2⟩
 .rw [<-Jg]
  congr 1;apply eX;intro i;unfold s7;rw[cj,cj];by_cases hi:i<x.length
  .have h1:=(pa i hi).1
   have g1:=gx i;rw[bg hi];rw[aW,bg hi]at h1 g1;exact congrArg some (RI.Ok.eq (x:=x[i]) h1 g1).symm
  .rw [bT ae];rfl
 .rw [<-Lh,h3.eq gd]
end Go.Proofs.YtkjkcjhacddojaaGreatDoor
namespace Go.Proofs.YtkjkcjhacddojaaGreatDoor.Fp
theorem JT{d:Dy}(hd:d.kN){p:Nat}(hp:1<=p)(ia:p<=4096)(h0:0<=d.q):jx d p false=0/\0<=(jh d p false).q:=(tV hd hp ia).2 0 (.inl (wb p)) h0
theorem XA{a b:Dy}(ha:a.kN)(hb:b.kN){p:Nat}(hp:1<=p)(ia:p<=4096)(h:a.q<=b.q)(he:jx a p false=0):jx b p false=0/\(jh a p false).q<=(jh b p false).q:=by
 obtain⟨g1,g2⟩:=(tV ha hp ia).1 he;exact(tV hb hp ia).2 _ g1 (bA g2 h)
theorem XC{a b:Dy}(ha:a.kN)(hb:b.kN){p:Nat}(hp:1<=p)(ia:p<=4096)(h:a.q<=b.q)(he:jx b p true=0):jx a p true=0/\(jh a p true).q<=(jh b p true).q:=by
 obtain⟨g1,g2⟩:=(uM hb hp ia).1 he;exact(uM ha hp ia).2 _ g1 (bA h g2)
theorem B8{d:Dy}(hd:d.kN)(h0:0<=d.q){p:Nat}(hp:1<=p)(ia:p<=4096):∀ k,(iy d p false k).2=0/\0<=(iy d p false k).1.q
 | 0=>JT hd hp ia h0
 |k+1=>by
  obtain⟨i1,i2⟩:=B8 hd h0 hp ia k;have hk:¬(iy d p false k).2≠0:= ae ;simp only[iy,aR hk];exact JT (tn _ _) hp ia (by rw[vS];exact bM i2 h0)
theorem VB{a b c d:Rat}(h0:0<=b)(h1:a<=c)(h2:b<=d)(h3:0<=c):a*b<=c*d:=
 bA (b9 h1 h0) (cB h2 h3)
theorem Oa{a b:Dy}(ha:a.kN)(hb:b.kN)(h0:0<=a.q)(h:a.q<=b.q){p:Nat}(hp:1<=p)(ia:p<=4096):∀ k,(iy a p false k).1.q<=(iy b p false k).1.q
 | 0=>(XA ha hb hp ia h (JT ha hp ia h0).1).2
 |k+1=>by
  have ih:=Oa ha hb h0 h hp ia k;obtain⟨a1,a2⟩:=B8 ha h0 hp ia k;obtain⟨b1,b2⟩:=B8 hb (bA h0 h) hp ia k;simp only[iy,aR (show ¬(iy a p false k).2≠0 by omega),aR (show ¬(iy b p false k).2≠0 by omega)];refine(XA (tn _ _) (tn _ _) hp ia ?_ (JT (tn _ _) hp ia ?_).1).2
  .rw [vS,vS];exact VB h0 ih h b2
  .rw [vS];exact bM a2 h0
theorem Ob{a b:Dy}(ha:a.kN)(hb:b.kN)(h0:0<=a.q)(h:a.q<=b.q){p:Nat}(hp:1<=p)(ia:p<=4096):∀ k,(iy b p true k).2=0->(iy a p true k).2=0/\(iy a p true k).1.q<=(iy b p true k).1.q
 | 0,he=>XC ha hb hp ia h he
 |k+1,he=>by
  by_cases hk:(iy b p true k).2≠0
  .exfalso;simp only[iy,aS hk]at he;exact hk he
  .obtain ⟨a1,a2⟩:=Ob ha hb h0 h hp ia k ae 
   have b2:=bA (yd (bA h0 h) (k+1)) (DN hb (bA h0 h) hp ia k ae);simp only[iy,aR hk]at he;simp only[iy,aR hk,aR (show ¬(iy a p true k).2≠0 by omega)];refine XC (tn _ _) (tn _ _) hp ia ?_ he;rw[vS,vS];exact VB h0 a2 h b2
theorem Gs{d:Dy}(h:¬d.iK<0):0<=d.q:=by
 rw[(oD d).2]at h
 grind
theorem R1{a b:Dy}(ha:a.kN)(hb:b.kN)(h:a.q<=b.q){n p:Nat}(hp:1<=p)(ia:p<=4096)(he:(kv a n p false).2=0):(kv b n p false).2=0/\(kv a n p false).1.q<=(kv b n p false).1.q:=by
 unfold kv at he ⊢;by_cases sa:a.iK<0
 .have qa:=(oD a).2.1 sa
  rw[aS sa]at he ⊢;simp only[dz]at he ⊢;by_cases sb:b.iK<0
  .have qb:=(oD b).2.1 sb
   rw[aS sb];obtain⟨h1,h2⟩:=Ob (uI hb) (uI ha) aD (by rw[lX,lX];grind) hp ia (n-1) he;refine⟨h1,?_⟩;rw[lX,lX]
   grind
  .rw [aR sb]
   obtain⟨h1,h2⟩:=B8 hb (Gs sb) hp ia (n-1);have h3:=DN (uI ha) aD hp ia (n-1) he;have h4:=yd (show 0<=(iF a).q by rw[lX];grind) (n-1+1);refine⟨h1,?_⟩;rw[lX]
   grind
 .have qa:=Gs sa
  have sb:¬b.iK<0:=λq=>by have:=(oD b).2.1 q;grind
  rw[aR sa]at he ⊢;rw[aR sb];exact⟨(B8 hb (Gs sb) hp ia _).1,Oa ha hb qa h hp ia _⟩
theorem R0{a b:Dy}(ha:a.kN)(hb:b.kN)(h:a.q<=b.q){n p:Nat}(hp:1<=p)(ia:p<=4096)(he:(kv b n p true).2=0):(kv a n p true).2=0/\(kv a n p true).1.q<=(kv b n p true).1.q:=by
 unfold kv at he ⊢;by_cases sb:b.iK<0
 .have qb:=(oD b).2.1 sb
  have sa:a.iK<0:=(oD a).2.2 aq;rw[aS sb]at he ⊢;rw[aS sa];simp only[ef]at he ⊢;have h1:=B8 (uI ha) aD hp ia (n-1);have h2:=Oa (uI hb) (uI ha) aD (by rw[lX,lX];grind) hp ia (n-1);refine⟨h1.1,?_⟩;rw[lX,lX]
  grind
 .have qb:=Gs sb
  rw[aR sb]at he ⊢;by_cases sa:a.iK<0
  .have qa:=(oD a).2.1 sa
   rw[aS sa];simp only[ef];have h1:=B8 (uI ha) aD hp ia (n-1);have h3:=DN hb qb hp ia (n-1) he;have h4:=yd qb (n-1+1);refine⟨h1.1,?_⟩;rw[lX]
   grind
  .rw [aR sa]
   exact Ob ha hb (Gs sa) h hp ia _ he
theorem aio{x x':Iv}(hx:x.ic)(oX:x'.ic)(h:Sub x x')(n:Nat):Sub (oi x n) (oi x' n):=by
 unfold oi;split
 .exact ZH hx oX h
 .exact h
theorem Wl{x:Iv}(hx:x.ic)(n:Nat):(oi x n).ic:=by
 unfold oi;split
 .exact Cw hx
 .exact hx
theorem ain{x:Iv}(n:Nat)(h:x.all=false):(oi x n).all=false:=by
 unfold oi;split
 .unfold iZ;rw[h];rfl
 .exact h
theorem aiy{x x':Iv}(hx:x.ic)(oX:x'.ic)(h:Sub x x')(n:Nat){p:Nat}(hp:1<=p)(ia:p<=4096):Sub (lP x n p) (lP x' n p):=by
 cases xa:x'.all
 rotate_left
 .left
  unfold lP;rw[xa];rfl
 obtain⟨ya,_,_⟩:=h.qN xa;unfold lP;rw[xa,ya];simp only[bq,a7];split
 .exact Sub.refl _
 .have hs:=aio hx oX h n
  obtain⟨_,s1,s2⟩:=hs.qN (ain n xa);obtain⟨c1,c2⟩:=(Wl hx n).wB;obtain⟨c3,c4⟩:=(Wl oX n).wB;unfold kI;split
  .split
   .exact .inl rfl
   .rename_i he hf
    exfalso;have e1:(kv (oi x' n).lo n p false).2=0:= ae ;have e2:(kv (oi x' n).hi n p true).2=0:= ae ;have:=R1 c3 c1 s1 hp ia e1;have:=R0 c2 c4 s2 hp ia e2;omega
  .split
   .exact .inl rfl
   .rename_i he hf
    exact .inr ⟨rfl,(R1 c3 c1 s1 hp ia ae).2,(R0 c2 c4 s2 hp ia ae).2⟩
end Go.Proofs.YtkjkcjhacddojaaGreatDoor.Fp
namespace Go.Proofs.YtkjkcjhacddojaaGreatDoor
open Go.RowKit Fp Pu
theorem UC{x y:Iv}:pg x y=true↔Sub x y:=by
 unfold pg Fp.Sub;rw[fH,bu,bu,bU,bU,po,po,ew]
theorem M6{a b:List Iv}(h:ng a b=true){i:Nat}(hi:i<a.length):Sub (a.getD i ig) (b.getD i ig):=UC.1 (bH.1 h i (bI.2 hi))
theorem Fu{a b:List Iv}(h:∀ i,i<a.length->Sub (a.getD i ig) (b.getD i ig)):ng a b=true:=bH.2 λi hi=>UC.2 (h i (bI.1 hi))
theorem Fp.Sub.trans{x y z:Iv}(h:Sub x y)(k:Sub y z):Sub x z:=by
 rcases k with k|⟨k1,k2,k3⟩
 .exact .inl k
 .rcases h with h|⟨h1,h2,h3⟩
  .rw [h]at k1;cases k1
  .exact .inr ⟨h1,bA k2 h2,bA h3 k3⟩
def nU(l r:List Iv):Prop:=∀ i,Sub (l.getD i ig) (r.getD i ig)
theorem aen{l:List Iv}{i:Nat}(h:l.length<=i):l.getD i ig=ig:=by rw[aW,bT h];rfl
theorem nU.of{a b:List Iv}(hl:a.length=b.length)(h:∀ i,i<a.length->Sub (a.getD i ig) (b.getD i ig)):nU a b:=λi=>by
 by_cases hi:i<a.length
 .exact h i hi
 .rw [aen (l:=b) ae];exact .inl rfl
theorem nU.refl(l:List Iv):nU l l:=λ_=>Sub.refl _
theorem nU.append{l r q s:List Iv}(hl:l.length=r.length)(h:nU l r)(k:nU q s):nU (l++q) (r++s):=λi=>by
 by_cases hi:i<l.length
 .have:=h i
  simp only[aW,dL hi,dL (show i<r.length by omega)]at this ⊢;exact this
 .have:=k (i-l.length)
  simp only[aW,ej (show l.length<=i by omega),ej (show r.length<=i by omega)]at this ⊢;rwa[<-hl]
theorem nU.one{x y:Iv}(h:Sub x y):nU [x] [y]:=λi=>by
 rcases i with _|i
 .exact h
 .exact .inl rfl
theorem PZ{o:mO}(hk:o.kind<=8){x x' y y':Iv}(hx:x.ic)(oX:x'.ic)(hy:y.ic)(qw:y'.ic){p:Nat}(hp:1<=p)(ia:p<=4096)(h:Sub x x')(k:Sub y y'):Sub (kF o x y p) (kF o x' y' p):=by
 unfold kF;by_cases h3:o.kind=3
 .rw [aS h3,aS h3];exact KD hx hy oX qw hp ia h k
 rw[aR h3,aR h3];by_cases h4:o.kind=4
 .rw [aS h4,aS h4];exact alx hx hy oX qw hp ia h k
 rw[aR h4,aR h4];by_cases h5:o.kind=5
 .rw [aS h5,aS h5];exact VA hx hy oX qw hp ia h k
 rw[aR h5,aR h5];by_cases h6:o.kind=6
 .rw [aS h6,aS h6];exact acr hx hy oX qw hp ia h k
 rw[aR h6,aR h6];by_cases h7:o.kind=7
 .rw [aS h7,aS h7];exact VT h
 rw[aR h7,aR h7];by_cases h8:o.kind=8
 .rw [aS h8,aS h8];exact aiy hx oX h _ hp ia
 rw[aR h8,aR h8,aR ae,aR ae,aR ae,aR ae,aR ae,aR ae,aR ae,aR ae,aR ae,aR ae];exact Sub.refl _
theorem ZT{o:mO}(hk:o.kind<=8){l r:List Iv}(hl:mB l)(hr:mB r){p:Nat}(hp:1<=p)(ia:p<=4096)(h:nU l r):Sub (rA o l p) (rA o r p):=by
 unfold rA;split
 .exact Sub.refl _
 .split
  .exact PZ hk (hl _) (hr _) (hl _) (hr _) hp ia (h _) (h _)
  .exact PZ hk (hl _) (hr _) mi mi hp ia (h _) (Sub.refl _)
theorem Pk{gX:List mO}(hk:∀ i,(gX.getD i iT).kind<=8){l r:List Iv}(hl:mB l)(hr:mB r){p:Nat}(hp:1<=p)(ia:p<=4096)(hn:l.length=r.length)(h:nU l r):∀ k,nU (iQ gX l p k) (iQ gX r p k)
 | 0=>h
 |k+1=>nU.append (by rw[Cr,Cr,hn]) (Pk hk hl hr hp ia hn h k) (nU.one (ZT (hk k) (Cs gX hl hp ia k) (Cs gX hr hp ia k) hp ia (Pk hk hl hr hp ia hn h k)))
def rz(t:oZ):Prop:=∀ i,(t.gX.getD i iT).kind<=8
theorem ad0{t:oZ}(hk:rz t){l r:List Iv}(hl:mB l)(hr:mB r){p:Nat}(hp:1<=p)(ia:p<=4096)(hn:l.length=r.length)(h:nU l r):nU (iW t l p) (iW t r p):=λi=>by
 unfold iW;simp only[aW,cj];cases t.ik[i]? with
 |none=>exact .inl rfl
 |some k=>
  have:=Pk hk hl hr hp ia hn h t.gX.length k;simpa[aW]using this
theorem Tf{l r:List Iv}(hl:l.length=r.length)(h:nU l r)(hn:mV r=false):mV l=false:=by
 unfold mV at *
 rw[dM]at *
 intro i hi;rw[hl]at hi;have:=hn i hi;have:=((h i).qN (by simpa using this)).1;simpa using this
theorem alw{h h':Dy}(hh:h.q<=h'.q):Sub (jW h) (jW h'):=.inr ⟨rfl,bV,hh⟩
section
variable {s:kV} {x x' b b':List Iv} {h h':Dy} {p n:Nat}
theorem afW{f f':List Iv}(vx:mB x)(vx':mB x')(hl:x.length=x'.length)(sx:nU x x')(hd:h.ic)(wN:h'.ic)(h0:0<=h.q)(hh:h.q<=h'.q)(vf:mB f)(vf':mB f')(sf:nU f f')(hp:1<=p)(ia:p<=4096):nU (sY x f h p) (sY x' f' h' p):=
 nU.of (by rw[tN,tN,hl]) λi hi=>by
  rw[tN]at hi;rw[xQ hi,xQ ae];have e1:=Cl hd h0;have e2:=Cl wN (bA h0 hh);exact KD (vx i) (qj _ _ hp ia) (vx' i) (qj _ _ hp ia) hp ia (sx i) (VA e1 (vf i) e2 (vf' i) hp ia (alw hh) (sf i))
theorem afR(vx:mB x)(vx':mB x')(hl:x.length=x'.length)(sx:nU x x')(hd:h.ic)(wN:h'.ic)(h0:0<=h.q)(hh:h.q<=h'.q)
 (vb:mB (b++s.params)) (vb':mB (b'++s.params)) (sf:nU (iW s.tape (b++s.params) p) (iW s.tape (b'++s.params) p)) (hp:1<=p) (ia:p<=4096)
 (jJ:lf s x' h' b' p≠[]) (x1:1<=x.length):lf s x h b p≠[]/\nU (lf s x h b p) (lf s x' h' b' p)/\(lf s x h b p).length=x.length:=by
 unfold lf at jJ ⊢;split at jJ
 .exact absurd rfl jJ
 rename_i h1;split at jJ
 .exact absurd rfl jJ
 rename_i h2;have fl:(iW s.tape (b++s.params) p).length=(iW s.tape (b'++s.params) p).length:=by rw[xA,xA]
 have vf:=Al s.tape vb hp ia;have vf':=Al s.tape vb' hp ia;have g:=afW (p:=p) vx vx' hl sx hd wN h0 hh vf vf' sf hp ia;have k1:=Tf fl sf (by simpa using h1);have k2:=Tf (by rw[tN,tN,hl]) g (by simpa using h2);rw[aR h1,aR h2,aR (by rw[k1];decide),aR (by rw[k2];decide)];refine⟨λq=>?_,g,tN _ _ _ _⟩;have:=tN x (iW s.tape (b++s.params) p) h p;rw[q]at this;exact absurd this (by show ¬0=x.length;omega)
theorem MG:pP s x h b p=true↔lf s x h b p≠[]/\ng x b=true/\ng (lf s x h b p) b=true:=by
 unfold pP;rw[bu,bu,ew,<-Bool.not_eq_true,List.isEmpty_iff]
theorem alB(hx:x.length=x'.length)(h:ng x x'=true):nU x x':=nU.of hx λ_ hi=>M6 h hi
theorem Zl{f:List Iv}(hx:ke n x)(hd:h.ic)(h0:0<=h.q)(vf:mB f)(hp:1<=p)(ia:p<=4096):nU x (sY x f h p):=
 nU.of (tN _ _ _ _).symm λi hi=>by
  rw[xQ hi];obtain⟨v,a⟩:=hx.ok i hi;have e1:=Cl hd h0;have z0:(iO (jW h) (f.getD i ig) p).jU 0:=by
   have z1:(jW h).jU 0:=.inr ⟨by show jA.q<=0;rw[rk];exact bV,h0⟩;have:=Jo e1 (vf i) hp ia z1 (vf i).xG;rwa[fR]at this
  have mv:=qj (jW h) (f.getD i ig) hp ia;have a1:=yA v mv hp ia v.xG z0;have a2:=yA v mv hp ia v.Bv z0;rw[Rat.add_zero]at a1 a2;unfold Ja;cases q:(jl (x.getD i ig) (iO (jW h) (f.getD i ig) p) p).all
  .exact .inr ⟨a,(a1.j9 q).1,(a2.j9 q).2⟩
  .exact .inl q
theorem Uv(jJ:lf s x h b p≠[]):lf s x h b p=sY x (iW s.tape (b++s.params) p) h p:=by
 unfold lf at jJ ⊢;split at jJ
 .exact absurd rfl jJ
 rename_i h1;rw[aR h1];split at jJ
 .exact absurd rfl jJ
 rename_i h2;rw[aR h2]
theorem afy(hr:rz s.tape)(hx:ke n x)(hb:ke n b)(n1:1<=n)(vp:mB s.params)(hd:h.ic)(h0:0<=h.q)(hp:1<=p)(ia:p<=4096)(k:pP s x h b p=true):pP s x h (lf s x h b p) p=true:=by
 rw[MG]at k ⊢;obtain⟨k1,k2,k3⟩:=k;have hi:=Fq hx hp ia k1;have vb:=hb.ok.yl.append vp;have vi:=hi.ok.yl.append vp;have sb:nU (lf s x h b p) b:=alB (by rw[hi.len,hb.len]) k3;have sf:=ad0 hr vi vb hp ia (by simp[hi.len,hb.len]) (sb.append (by rw[hi.len,hb.len]) (nU.refl s.params));obtain⟨i1,i2,i3⟩:=afR (s:=s) (x:=x) (x':=x) (b:=lf s x h b p) (b':=b) hx.ok.yl hx.ok.yl rfl (nU.refl _) hd hd h0 bV vi vb sf hp ia k1 (by rw[hx.len];exact n1);refine⟨i1,Fu λi oH=>?_,Fu λi oH=>i2 i⟩;have:=Zl (f:=iW s.tape (b++s.params) p) hx hd h0 (Al s.tape vb hp ia) hp ia i;rwa[<-Uv k1]at this
end
def PA(w:World)(L:List Nat)(e:Ending)(w':World):Prop:=∃ A c,e = .returned (.slice A L.length c)/\Sl w' A c L/\iz w w'/\∀ b o s,A=some ⟨b,o,s⟩->w.heap.size<=b
theorem Ow.Ya{w:World}{base:Nat}{v:Value}{L:List Nat}(h:Ow w base v L):∃ A c,v = .slice A L.length c/\Sl w A c L/\∀ b o s,A=some ⟨b,o,s⟩->base<=b:=by
 obtain⟨A,c,h1,h2⟩:=h.sl;refine⟨A,c,h1,h2,λb o s e=>?_⟩;rcases h.row.2 with⟨h3,_⟩|⟨g,cap,cur,h3,hb,_⟩
 .rw [h1,e]at h3;injection h3 with h3;cases h3
 .rw [h1,e]at h3;injection h3 with h3;cases h3;exact hb
theorem alm{B br:Nat->Prop}{w w':World}{A:Option Addr}{c:Nat}{L:List Nat}(hB:∀ b,B b->b<w.heap.size)(h:Sl w' A c L)(hf:∀ b o s,A=some ⟨b,o,s⟩->w.heap.size<=b):iH B br w' (gY L) (.slice A L.length c):=by
 refine .sl false L.length 1 _ A c (λi _=>.int .u32 (L.getD i 0:Int)) h.cap h.qf h.xh (λi j _ _=>⟨rfl,λh=>by cases h⟩) (λi j _ _=>rfl) (λi j hi hj=>?_) (λi j _ _=>.v _);obtain rfl:j=0:= ae ;obtain⟨b,o,e1,iE,lq⟩:=h.lp hi;have e2:L.getD i 0=L[i]:=by simp[aW,hi]
 refine⟨b,o,e1,λxH=>?_,iE,by rw[bQ,bB,lq,e2]⟩;have:=hB b xH;have:=hf _ _ _ e1;omega
abbrev wh(f:FuncId)(args:List E)(jZ:E):Prop:=Be prog Tb f args jZ
theorem aij{f:FuncId}{L M:List Nat}(hk:iD L)(hc:∀ (vs:Array Value) (w:World),(callFunc f vs).run prog w = .ok (.enter f vs) w)
 (H:∀ A c w,Sl w A c L->Tb w->Calls prog f #[.slice A L.length c] w (PA w M)):wh f [gY L] (gY M):=by
 refine⟨hc,λw B vs hK hB hr=>?_⟩;obtain⟨v1,vs,rfl,h1,hr⟩:=hr.mg;obtain rfl:=hr.qk;obtain⟨A,c,rfl,s1⟩:=uO hk h1;refine(H A c w s1 hK).mono λe w' ⟨A,c,q1,q2,q3,q4⟩=>⟨_,q1,q3,alm hB q2 q4⟩
theorem ajM(A:Option Addr)(c:Nat)(L:List Nat)(w:World)(hs:Sl w A c L)(hlen:L.length<=100000000):
 Calls prog 311 #[.slice A L.length c] w (PA w (il L)):=by
 have hc:=hs.cap;have hl:=hs.qf;have fin:∀ k:Nat,k=(il L).length->Hid (il L=L.take k):=λk hk=>by rw[hk];exact Gy L
 go_enter func311,ntmps311;go_wp2;go_loop [3] (λi=>∃ k:Nat,k<=L.length/\i = .int .i64 k/\lZ L=lZ (L.take k)) (λi=>(intOf i).toNat)
 case atStart=>exact⟨L.length,aV _,rfl,aj⟩
 case round=>
  obtain⟨k,hk,rfl,ht⟩:=hrel;have HT:=aol ht;clear ht;have lO:([]:List Nat).length+(L.take k).length<=10000000000:=by rw[b8];simp;omega
  have HK:=aol (show k=(L.take k).length by rw[b8];omega);have h1:=Ow.empty w w.heap.size (aV _);have h2:=(hs.take k).alloc (.cells #[] 150);have h3:=qe (w:=w) (aV _) (.cells #[] 150);by_cases h0:0<k
  .obtain ⟨ab,ao,rfl,hb,xd⟩:=hs.lp (i:=k-1) ae 
   have e1:((k:Int)-1).toNat=k-1:= ae ;have Z:=aol (Kd L (k-1) ae);have NZ:=aol (Kb L (k-1) ae);rw[eH h0]at Z NZ;generalize L[k-1]=x at *
   by_cases hx:x=0
   .have Hx:=aol hx;clear hx
    have hb:((x:Int)==0)=true:=by have:=Hx.out;simp;omega
    clear fin;go_wp2;go_round
    case rel=>exact⟨k-1,ae,by go_num,by rw[HT.out,Z.out Hx.out]⟩
    case measure=>simp[intOf];omega
   .have hb:((x:Int)==0)=false:= av 
    have F:=fin k (by show k=lZ L;rw[HT.out,NZ.out hx]);clear fin;go_wp2_with (at_builtin;go_must (refine q7 ai _ _ ai w.heap.size _ [] ai h1 _ _ _ (L.take k) ai HK.out h2 lO h3 ?_);intro v' w' oh hg o9)
    obtain⟨A',c',rfl,mR,Ms⟩:=oh.Ya;go_ret;rw[F.out];exact⟨A',c',rfl,mR,(iz.alloc _ _).grown hg (qe (aV _) _) (λk hk=>by simp[Value.ownBlock]at hk;omega),Ms⟩
  .have:k=0:= ae 
   subst this;have F:=fin 0 (by show 0=lZ L;rw[HT.out];rfl);clear fin;go_wp2_with (at_builtin;go_must (refine q7 ai _ _ ai w.heap.size _ [] ai h1 _ _ _ (L.take 0) ai HK.out h2 lO h3 ?_);intro v' w' oh hg o9)
   obtain⟨A',c',rfl,mR,Ms⟩:=oh.Ya;go_ret;rw[F.out];exact⟨A',c',rfl,mR,(iz.alloc _ _).grown hg (qe (aV _) _) (λk hk=>by simp[Value.ownBlock]at hk;omega),Ms⟩
theorem xZ(L:List Nat)(hk:iD L)(hl:L.length<=100000):wh 311 [gY L] (gY (il L)):=
 aij hk call311 λA c w h _=>ajM A c L w h ae 
def Wt(L M:List Nat)(N k:Nat)(x:Nat):PS:=⟨30,true,[(5,.e (iP ((N:Int)-1-(x:Int)))),(0,.e (gY L)),(1,.e (gY M))],[]⟩
def Wv(L M:List Nat)(N k:Nat)(x:Nat):PS:=⟨30,true,[(5,.e (iP ((N:Int)-1-(x:Int)))),(0,.e (gY L)),(1,.e (gY M))],[]⟩
def Wu(L M:List Nat)(N k:Nat)(x:Nat):PS:=⟨30,true,[(5,.e (iP ((N:Int)-1-(x:Int)))),(0,.e (gY L)),(1,.e (gY M))],[]⟩
def Wq(L:List Nat)(k:Nat)(x:Nat):PS:=⟨31,true,[(3,.e (iP ((L.length:Int)-1-(x:Int)))),(0,.e (gY L))],[]⟩
def Wp(L:List Nat)(k:Nat)(x:Nat):PS:=⟨31,true,[(3,.e (iP ((L.length:Int)-1-(x:Int)))),(0,.e (gY L))],[]⟩
def Wr(L:List Nat)(k:Nat)(y:Nat):PS:=⟨31,true,[(5,.e (.v (.int .u32 ((((L.getD (((L.length:Int)-1-(k:Int))).toNat 0)/2^y):Nat):Int)))),(4,.e (iP ((32*((L.length:Int)-1-(k:Int)))+(y:Int))))],[]⟩
theorem rm(L:List Nat)(z:Int)(hk:iD L)(h0:0<=z):gW 313 [(gY L),(iP z)] (.v (.int .u64 (L.getD z.toNat 0:Int))):=by
 have h1:=hk.getD z.toNat
 exact tr true call313 func313 (.w (z<(L.length:Int))
  (λk1=>chain [tB 8 (aT k1),iX (z) (L.length) ae,.o 13 (.int (pE _ ae):PV.le (.e (.v (.int .u64 (IntKind.u64.wrap (((L.getD (z).toNat 0):Nat):Int))))) (.e (.v (.int .u64 (((L.getD (z).toNat 0):Nat):Int)))))]<|.nil)
  (λk1=>by
   have hz:L.getD z.toNat 0=0:=by rw[aW,bT ae];rfl
   exact chain [tB 8 (aU k1)]<|rQ (.v (.int .u64 0)) (.v (.int .u64 (L.getD z.toNat 0:Int))) (by rw[hz];rfl))) ah 
theorem zD(L:List Nat)(n:Nat)(hk:iD L):gW 313 [gY L,iP (n:Int)] (.v (.int .u64 (L.getD n 0:Int))):=rm L n hk (Int.natCast_nonneg n)
theorem aiM(L M:List Nat)(N k:Nat)(hL:iD L)(hM:iD M)(hN:N=max L.length M.length)(hs:N<=1000000)(heq:∀ x,x<k->L.getD (N-1-x) 0=M.getD (N-1-x) 0)(hk:k=N):gW 315 [(gY L),(gY M)] (iP 0):=
 tr true call315 func315 (chain [.o 10 (.int (by rw[hN];split<;>omega):PV.le (.e (iP (if(M.length:Int)>(L.length:Int)then(M.length:Int)else(L.length:Int)))) (.e (iP N))),
  iu ((N:Int)-1) ae,.s (Sp.jy (Wt L M N k) 0 k ae (λx hx kn=>by
    have hj:(((N:Int)-1-(x:Int))).toNat=N-1-x:= ae ;have he:=heq x ae;rw[<-hj]at he;exact iC (chain [tT 13 (0<=((N:Int)-1-(x:Int))) ae,.c (rm _ _ af ae:gW 313 [(gY L),(iP ((N:Int)-1-(x:Int)))] _),.c (rm _ _ af ae:gW 313 [(gY M),(iP ((N:Int)-1-(x:Int)))] _),tF 22 ((((L.getD (((N:Int)-1-(x:Int))).toNat 0):Nat):Int)<(((M.getD (((N:Int)-1-(x:Int))).toNat 0):Nat):Int)) ae,.c (rm _ _ af ae:gW 313 [(gY L),(iP ((N:Int)-1-(x:Int)))] _),.c (rm _ _ af ae:gW 313 [(gY M),(iP ((N:Int)-1-(x:Int)))] _),tF 29 ((((M.getD (((N:Int)-1-(x:Int))).toNat 0):Nat):Int)<(((L.getD (((N:Int)-1-(x:Int))).toNat 0):Nat):Int)) ae,
     iu (((N:Int)-1-(x:Int))-1) ae]<|.e (chain [.o 5 (.int aw:PV.le (.e (iP (((N:Int)-1-(x:Int))-1))) (.e (iP ((N:Int)-1-(((x+1):Nat):Int)))))]<|.nil)) ah)
  (λhx=>by
    exact iC (chain [tF 13 (0<=((N:Int)-1-(k:Int))) ae]<|.nil) ah) ak:jv 2 f315 (Wt L M N k 0) (.exit 0) ⟨30,true,[],[]⟩) (chain [.o 5 (.int aw:PV.le (.e (iP ((N:Int)-1))) (.e (iP ((N:Int)-1-((0:Nat):Int)))))]<|.nil)]<|.nil) ah 
theorem aiO(L M:List Nat)(N k:Nat)(hL:iD L)(hM:iD M)(hN:N=max L.length M.length)(hs:N<=1000000)(heq:∀ x,x<k->L.getD (N-1-x) 0=M.getD (N-1-x) 0)(hk:k<N)(hd:L.getD (N-1-k) 0<M.getD (N-1-k) 0):gW 315 [(gY L),(gY M)] (iP (-1)):=
 tr true call315 func315 (chain [.o 10 (.int (by rw[hN];split<;>omega):PV.le (.e (iP (if(M.length:Int)>(L.length:Int)then(M.length:Int)else(L.length:Int)))) (.e (iP N))),
  iu ((N:Int)-1) ae,.s (Sp.jy (Wv L M N k) 0 k ae (λx hx kn=>by
    have hj:(((N:Int)-1-(x:Int))).toNat=N-1-x:= ae ;have he:=heq x ae;rw[<-hj]at he;exact iC (chain [tT 13 (0<=((N:Int)-1-(x:Int))) ae,.c (rm _ _ af ae:gW 313 [(gY L),(iP ((N:Int)-1-(x:Int)))] _),.c (rm _ _ af ae:gW 313 [(gY M),(iP ((N:Int)-1-(x:Int)))] _),tF 22 ((((L.getD (((N:Int)-1-(x:Int))).toNat 0):Nat):Int)<(((M.getD (((N:Int)-1-(x:Int))).toNat 0):Nat):Int)) ae,.c (rm _ _ af ae:gW 313 [(gY L),(iP ((N:Int)-1-(x:Int)))] _),.c (rm _ _ af ae:gW 313 [(gY M),(iP ((N:Int)-1-(x:Int)))] _),tF 29 ((((M.getD (((N:Int)-1-(x:Int))).toNat 0):Nat):Int)<(((L.getD (((N:Int)-1-(x:Int))).toNat 0):Nat):Int)) ae,
     iu (((N:Int)-1-(x:Int))-1) ae]<|.e (chain [.o 5 (.int aw:PV.le (.e (iP (((N:Int)-1-(x:Int))-1))) (.e (iP ((N:Int)-1-(((x+1):Nat):Int)))))]<|.nil)) ah)
  (λhx=>by
    have hj:(((N:Int)-1-(k:Int))).toNat=N-1-k:= ae ;rw[<-hj]at hd;exact iC (chain [tT 13 (0<=((N:Int)-1-(k:Int))) ae,.c (rm _ _ af ae:gW 313 [(gY L),(iP ((N:Int)-1-(k:Int)))] _),.c (rm _ _ af ae:gW 313 [(gY M),(iP ((N:Int)-1-(k:Int)))] _),tT 22 ((((L.getD (((N:Int)-1-(k:Int))).toNat 0):Nat):Int)<(((M.getD (((N:Int)-1-(k:Int))).toNat 0):Nat):Int)) ae]<|.nil) ah) ak:jv 2 f315 (Wv L M N k 0) .ret ⟨30,true,[(4,.e (iP (-1)))],[]⟩) (chain [.o 5 (.int aw:PV.le (.e (iP ((N:Int)-1))) (.e (iP ((N:Int)-1-((0:Nat):Int)))))]<|.nil)]<|rR (iP (-1)) (.iS rfl:E.le (iP (-1)) (iP (-1)))) ah 
theorem aiN(L M:List Nat)(N k:Nat)(hL:iD L)(hM:iD M)(hN:N=max L.length M.length)(hs:N<=1000000)(heq:∀ x,x<k->L.getD (N-1-x) 0=M.getD (N-1-x) 0)(hk:k<N)(hd:M.getD (N-1-k) 0<L.getD (N-1-k) 0):gW 315 [(gY L),(gY M)] (iP 1):=
 tr true call315 func315 (chain [.o 10 (.int (by rw[hN];split<;>omega):PV.le (.e (iP (if(M.length:Int)>(L.length:Int)then(M.length:Int)else(L.length:Int)))) (.e (iP N))),
  iu ((N:Int)-1) ae,.s (Sp.jy (Wu L M N k) 0 k ae (λx hx kn=>by
    have hj:(((N:Int)-1-(x:Int))).toNat=N-1-x:= ae ;have he:=heq x ae;rw[<-hj]at he;exact iC (chain [tT 13 (0<=((N:Int)-1-(x:Int))) ae,.c (rm _ _ af ae:gW 313 [(gY L),(iP ((N:Int)-1-(x:Int)))] _),.c (rm _ _ af ae:gW 313 [(gY M),(iP ((N:Int)-1-(x:Int)))] _),tF 22 ((((L.getD (((N:Int)-1-(x:Int))).toNat 0):Nat):Int)<(((M.getD (((N:Int)-1-(x:Int))).toNat 0):Nat):Int)) ae,.c (rm _ _ af ae:gW 313 [(gY L),(iP ((N:Int)-1-(x:Int)))] _),.c (rm _ _ af ae:gW 313 [(gY M),(iP ((N:Int)-1-(x:Int)))] _),tF 29 ((((M.getD (((N:Int)-1-(x:Int))).toNat 0):Nat):Int)<(((L.getD (((N:Int)-1-(x:Int))).toNat 0):Nat):Int)) ae,
     iu (((N:Int)-1-(x:Int))-1) ae]<|.e (chain [.o 5 (.int aw:PV.le (.e (iP (((N:Int)-1-(x:Int))-1))) (.e (iP ((N:Int)-1-(((x+1):Nat):Int)))))]<|.nil)) ah)
  (λhx=>by
    have hj:(((N:Int)-1-(k:Int))).toNat=N-1-k:= ae ;rw[<-hj]at hd;exact iC (chain [tT 13 (0<=((N:Int)-1-(k:Int))) ae,.c (rm _ _ af ae:gW 313 [(gY L),(iP ((N:Int)-1-(k:Int)))] _),.c (rm _ _ af ae:gW 313 [(gY M),(iP ((N:Int)-1-(k:Int)))] _),tF 22 ((((L.getD (((N:Int)-1-(k:Int))).toNat 0):Nat):Int)<(((M.getD (((N:Int)-1-(k:Int))).toNat 0):Nat):Int)) ae,.c (rm _ _ af ae:gW 313 [(gY L),(iP ((N:Int)-1-(k:Int)))] _),.c (rm _ _ af ae:gW 313 [(gY M),(iP ((N:Int)-1-(k:Int)))] _),tT 29 ((((M.getD (((N:Int)-1-(k:Int))).toNat 0):Nat):Int)<(((L.getD (((N:Int)-1-(k:Int))).toNat 0):Nat):Int)) ae]<|.nil) ah) ak:jv 2 f315 (Wu L M N k 0) .ret ⟨30,true,[(4,.e (iP 1))],[]⟩) (chain [.o 5 (.int aw:PV.le (.e (iP ((N:Int)-1))) (.e (iP ((N:Int)-1-((0:Nat):Int)))))]<|.nil)]<|.nil) ah 
theorem Ww(L M:List Nat)(hL:iD L)(hM:iD M)(h1:L.length<=1000000)(h2:M.length<=1000000):gW 315 [gY L,gY M] (iP (kf (val L) (val M))):=by
 obtain⟨N,hN⟩:∃ N,N=max L.length M.length:=⟨_,rfl⟩
 have vL:val L<4294967296^N:=bF (mh hL) (bj ag ae);have vM:val M<4294967296^N:=bF (mh hM) (bj ag ae);by_cases h:∃ x,x<N/\(decide (L.getD (N-1-x) 0≠M.getD (N-1-x) 0))=true
 .obtain ⟨k,k1,k2,k3⟩:=qx h
  have heq:∀ x,x<k->L.getD (N-1-x) 0=M.getD (N-1-x) 0:=λx hx=>by simpa using k3 x hx
  have jJ:L.getD (N-1-k) 0≠M.getD (N-1-k) 0:=by simpa using k2
  have BL:∀ i,N-1-k<i->iB (val L) i=iB (val M) i:=λi hi=>by
   by_cases hiN:i<N
   .have:=heq (N-1-i) ae 
    rw[show N-1-(N-1-i)=i by omega,pI hL,pI hM]at this;exact this
   .rw [u9 vL ae,u9 vM ae]
  rw[pI hL,pI hM]at jJ;rcases Nat.lt_or_gt_of_ne jJ with hd|hd
  .have:=Vg vL vM BL hd
   refine(aiO L M N k hL hM hN ae heq k1 (by rw[pI hL,pI hM];exact hd)).jZ (.iS ?_);unfold kf;rw[aS this]
  .have:=Vg vM vL (λi hi=>(BL i hi).symm) hd
   refine(aiN L M N k hL hM hN ae heq k1 (by rw[pI hL,pI hM];exact hd)).jZ (.iS ?_);unfold kf;rw[aR ae,aS this]
 .have heq:∀ x,x<N->L.getD (N-1-x) 0=M.getD (N-1-x) 0:=λx hx=>by
   apply bG;intro q;exact h ⟨x,hx,by simpa using q⟩
  have BL:∀ i,iB (val L) i=iB (val M) i:=λi=>by
   by_cases hiN:i<N
   .have:=heq (N-1-i) ae 
    rw[show N-1-(N-1-i)=i by omega,pI hL,pI hM]at this;exact this
   .rw [u9 vL ae,u9 vM ae]
  refine(aiM L M N N hL hM hN ae heq rfl).jZ (.iS ?_);rw[R6 vL vM λi _=>BL i];unfold kf;rw[aR (fk _),aR (fk _)]
theorem aiR(L M:List Nat)(hL:iD L)(hM:iD M)(h1:L.length<=1000000)(h2:M.length<=1000000):gW 312 [(gY L),(gY M)] (bP (decide (kf (val L) (val M)<0))):=
 tr true call312 func312 (chain [.c (Ww _ _ af af ae ae:gW 315 [(gY L),(gY M)] _)]<|.nil) ah 
theorem aiK(L:List Nat)(k:Nat)(hL:iD L)(hs:L.length<=1000000)(hz:∀ x,x<k->L.getD (L.length-1-x) 0=0)(hk:k=L.length):gW 276 [(gY L)] (iP 0):=
 tr true call276 func276 (chain [iu ((L.length:Int)-1) ae,.s (Sp.jy (Wq L k) 0 k ae (λx hx kn=>by
    have hj:(((L.length:Int)-1-(x:Int))).toNat=L.length-1-x:= ae ;have he:=hz x ae;rw[<-hj]at he;exact iC (chain [tT 10 (0<=((L.length:Int)-1-(x:Int))) ae,iX (((L.length:Int)-1-(x:Int))) (L.length) ae,tB 17 (BZ he:((((L.getD (((L.length:Int)-1-(x:Int))).toNat 0):Nat):Int) != 0)=false),iu (((L.length:Int)-1-(x:Int))-1) ae]<|.e (chain [.o 3 (.int aw:PV.le (.e (iP (((L.length:Int)-1-(x:Int))-1))) (.e (iP ((L.length:Int)-1-(((x+1):Nat):Int)))))]<|.nil)) ah)
  (λhx=>by
    exact iC (chain [tF 10 (0<=((L.length:Int)-1-(k:Int))) ae]<|.nil) ah) ak:jv 2 f276 (Wq L k 0) (.exit 0) ⟨31,true,[],[]⟩) (chain [.o 3 (.int aw:PV.le (.e (iP ((L.length:Int)-1))) (.e (iP ((L.length:Int)-1-((0:Nat):Int)))))]<|.nil)]<|.nil) ah 
theorem aiJ(L:List Nat)(k:Nat)(hL:iD L)(hs:L.length<=1000000)(hz:∀ x,x<k->L.getD (L.length-1-x) 0=0)(hk:k<L.length)(hd:L.getD (L.length-1-k) 0≠0):gW 276 [(gY L)] (iP ((32*((L.length:Int)-1-(k:Int)))+(ie (L.getD (((L.length:Int)-1-(k:Int))).toNat 0):Int))):=
 tr true call276 func276 (chain [iu ((L.length:Int)-1) ae,.s (Sp.jy (Wp L k) 0 k ae (λx hx kn=>by
    have hj:(((L.length:Int)-1-(x:Int))).toNat=L.length-1-x:= ae ;have he:=hz x ae;rw[<-hj]at he;exact iC (chain [tT 10 (0<=((L.length:Int)-1-(x:Int))) ae,iX (((L.length:Int)-1-(x:Int))) (L.length) ae,tB 17 (BZ he:((((L.getD (((L.length:Int)-1-(x:Int))).toNat 0):Nat):Int) != 0)=false),iu (((L.length:Int)-1-(x:Int))-1) ae]<|.e (chain [.o 3 (.int aw:PV.le (.e (iP (((L.length:Int)-1-(x:Int))-1))) (.e (iP ((L.length:Int)-1-(((x+1):Nat):Int)))))]<|.nil)) ah)
  (λhx=>by
    have hj:(((L.length:Int)-1-(k:Int))).toNat=L.length-1-k:= ae ;have iE:=hL.getD (((L.length:Int)-1-(k:Int))).toNat
    have mn:ie (L.getD (((L.length:Int)-1-(k:Int))).toNat 0)<=32:=kR.2 iE;rw[<-hj]at hd;exact iC (chain [tT 10 (0<=((L.length:Int)-1-(k:Int))) ae,iX (((L.length:Int)-1-(k:Int))) (L.length) ae,tB 17 (FP hd:((((L.getD (((L.length:Int)-1-(k:Int))).toNat 0):Nat):Int) != 0)=true),iu (32*((L.length:Int)-1-(k:Int))) ae,
    iX (((L.length:Int)-1-(k:Int))) (L.length) ae,.s (Sp.jy (Wr L k) 0 (ie (L.getD (((L.length:Int)-1-(k:Int))).toNat 0)) ae (λy hy TL=>by
    have hp:0<(L.getD (((L.length:Int)-1-(k:Int))).toNat 0)/2^y:=fS (sA.1 ae) (aZ ag);exact iC (chain [tT 25 (0<((((L.getD (((L.length:Int)-1-(k:Int))).toNat 0)/2^y):Nat):Int)) ae,iu (((32*((L.length:Int)-1-(k:Int)))+(y:Int))+1) ae,.a (ae:0<=(1:Int)/\(1:Int)<=((32:Nat):Int)),.o 27 (.int (zK _ _):PV.le (.e (.v (.int .u32 (((((L.getD (((L.length:Int)-1-(k:Int))).toNat 0)/2^y):Nat):Int)/2^1)))) (.e (.v (.int .u32 (((((L.getD (((L.length:Int)-1-(k:Int))).toNat 0)/2^y)/2^1):Nat):Int)))))]<|.e (chain [.o 5 (.int (by rw[cA,<-a6]):PV.le (.e (.v (.int .u32 (((((L.getD (((L.length:Int)-1-(k:Int))).toNat 0)/2^y)/2^1):Nat):Int)))) (.e (.v (.int .u32 ((((L.getD (((L.length:Int)-1-(k:Int))).toNat 0)/2^(y+1)):Nat):Int))))),.o 4 (.int aw:PV.le (.e (iP (((32*((L.length:Int)-1-(k:Int)))+(y:Int))+1))) (.e (iP ((32*((L.length:Int)-1-(k:Int)))+(((y+1):Nat):Int)))))]<|.nil)) ah)
  (λhy=>by
    have hp:(L.getD (((L.length:Int)-1-(k:Int))).toNat 0)/2^(ie (L.getD (((L.length:Int)-1-(k:Int))).toNat 0))=0:=bW (oY _);exact iC (chain [tF 25 (0<((((L.getD (((L.length:Int)-1-(k:Int))).toNat 0)/2^(ie (L.getD (((L.length:Int)-1-(k:Int))).toNat 0))):Nat):Int)) ae]<|.nil) ah) ak:jv 7 f276 (Wr L k 0) (.exit 2) ⟨31,true,[(4,.e (iP ((32*((L.length:Int)-1-(k:Int)))+(ie (L.getD (((L.length:Int)-1-(k:Int))).toNat 0):Int))))],[]⟩) (chain [.o 5 (.int (by rw[bO,dG]):PV.le (.e (.v (.int .u32 (((L.getD (((L.length:Int)-1-(k:Int))).toNat 0):Nat):Int)))) (.e (.v (.int .u32 ((((L.getD (((L.length:Int)-1-(k:Int))).toNat 0)/2^0):Nat):Int))))),.o 4 (.int aw:PV.le (.e (iP (32*((L.length:Int)-1-(k:Int))))) (.e (iP ((32*((L.length:Int)-1-(k:Int)))+((0:Nat):Int)))))]<|.nil)]<|.nil) ah) ak:jv 2 f276 (Wp L k 0) .ret ⟨31,true,[(2,.e (iP ((32*((L.length:Int)-1-(k:Int)))+(ie (L.getD (((L.length:Int)-1-(k:Int))).toNat 0):Int))))],[]⟩) (chain [.o 3 (.int aw:PV.le (.e (iP ((L.length:Int)-1))) (.e (iP ((L.length:Int)-1-((0:Nat):Int)))))]<|.nil)]<|.nil) ah 
theorem Ws(L:List Nat)(hL:iD L)(h1:L.length<=1000000):gW 276 [gY L] (iP (ie (val L))):=by
 by_cases h:∃ x,x<L.length/\(decide (L.getD (L.length-1-x) 0≠0))=true
 .obtain ⟨k,k1,k2,k3⟩:=qx h
  have hz:∀ x,x<k->L.getD (L.length-1-x) 0=0:=λx hx=>by simpa using k3 x hx
  have jJ:L.getD (L.length-1-k) 0≠0:=by simpa using k2
  refine(aiJ L k hL h1 hz k1 jJ).jZ (.iS ?_);have hj:(((L.length:Int)-1-(k:Int))).toNat=L.length-1-k:= ae ;rw[hj];have hb:=QB (n:=val L) (k:=L.length-1-k) (Kn hL λi hi=>by
   by_cases wQ:i<L.length
   .have:=hz (L.length-1-i) ae 
    rwa[show L.length-1-(L.length-1-i)=i by omega]at this
   .rw [aW,bT ae];rfl) (by rw[<-pI hL];exact jJ)
  rw[hb,<-pI hL];exact congrArg iP ae 
 .have hz:∀ x,x<L.length->L.getD (L.length-1-x) 0=0:=λx hx=>by
   apply bG;intro q;exact h ⟨x,hx,by simpa using q⟩
  refine(aiK L L.length hL h1 hz rfl).jZ (.iS ?_);have:val L<4294967296^0:=Kn hL λi _=>by
   by_cases wQ:i<L.length
   .have:=hz (L.length-1-i) ae 
    rwa[show L.length-1-(L.length-1-i)=i by omega]at this
   .rw [aW,bT ae];rfl
  have h0:val L=0:=by rw[bO]at this;omega
  rw[h0];rfl
def Wo(L M:List Nat)(N:Nat)(x:Nat):PS:=⟨41,false,[(5,.own 5),(7,.e (iP x)),(6,.e (.v (.int .u64 (jB (val L) (val M) x:Int)))),(0,.e (gY L)),(1,.e (gY M))],[(5,.row false 150 x 1 (jd (iL (val L+val M) x)))]⟩
def WD(L M:List Nat)(x:Nat):PS:=⟨36,false,[(5,.own 5),(7,.e (iP x)),(6,.e (.v (.int .u64 (jB (val L-val M) (val M) x:Int)))),(0,.e (gY L)),(1,.e (gY M))],[(5,.row false 150 x 1 (jd (iL (val L-val M) x)))]⟩
def WB(L:List Nat)(n:Nat)(x:Nat):PS:=⟨36,false,[(5,.own 5),(6,.e (iP ((((n/32)+x):Nat):Int))),(0,.e (gY L)),(1,.e (iP n))],[(5,.row false 150 x 1 (jd (iL (val L/2^n) x)))]⟩
def WC(L:List Nat)(n:Nat)(x:Nat):PS:=⟨36,false,[(5,.own 5),(6,.e (iP ((((n/32)+x):Nat):Int))),(0,.e (gY L)),(1,.e (iP n))],[(5,.row false 150 x 1 (jd (iL 0 x)))]⟩
theorem aiI(L M:List Nat)(hL:iD L)(hM:iD M)(h1:L.length<=10000)(h2:M.length<=10000):gW 316 [(gY L),(gY M)] (gY (gV (val L+val M))):=by
 obtain⟨N,hN⟩:∃ N,N=max L.length M.length:=⟨_,rfl⟩
 have vL:val L<4294967296^N:=bF (mh hL) (bj ag ae);have vM:val M<4294967296^N:=bF (mh hM) (bj ag ae);have hcN:=tp (val L) (val M) N;have hce:jB (val L) (val M) (N+jB (val L) (val M) N)=0:=by
  rcases dK 0 (jB (val L) (val M) N)with h|h
  .rw [show jB (val L) (val M) N=1 by omega];exact abP vL vM
  .have h0:jB (val L) (val M) N=0:= ae 
   rw[h0,bB];exact h0
 have ot:val L+val M<4294967296^(N+jB (val L) (val M) N):=by
  have h:=KF (val L) (val M) (N+jB (val L) (val M) N);have g1:val L<4294967296^(N+jB (val L) (val M) N):=bF vL (bj ag ae);have g2:val M<4294967296^(N+jB (val L) (val M) N):=bF vM (bj ag ae);rw[hce,bW g1,bW g2]at h;exact Nat.lt_of_div_eq_zero (pw _) h
 exact tr false call316 func316 (chain [.y 5 5 false 150 1 (jd (iL (val L+val M) 0)),.s (Sp.jy (Wo L M N) 0 (N+(jB (val L) (val M) N)) ae (λx hx kn=>by
    have ha:=yB (val L) (val M) x;rw[<-pI hL,<-pI hM]at ha;have b1:=hL.getD x;have b2:=hM.getD x;have b3:=tp (val L) (val M) x;have b4:=pH (val L+val M) x;have hz:((((L.getD x 0+M.getD x 0)+(jB (val L) (val M) x))%4294967296%4294967296:Nat):Int)=(iB (val L+val M) x:Int):= ae ;have hq:((L.getD x 0+M.getD x 0)+(jB (val L) (val M) x))/4294967296=jB (val L) (val M) (x+1):= ae ;by_cases hx:x<N
    .exact iC (chain [.o 14 (.int (by rw[hN];split<;>omega):PV.le (.e (iP (if(M.length:Int)>(L.length:Int)then(M.length:Int)else(L.length:Int)))) (.e (iP N))),tT 15 ((x:Int)<N) ae,.c (zD _ _ af:gW 313 [(gY L),(iP x)] _),.c (zD _ _ af:gW 313 [(gY M),(iP x)] _),
      pr ((L.getD x 0:Int)+(M.getD x 0:Int)) ae,pr (((((L.getD x 0)+(M.getD x 0)):Nat):Int)+(jB (val L) (val M) x:Int)) ae,.o 33 (.int (Eb _ ae):PV.le (.e (.v (.int .u64 (bits .and .u64 (((((L.getD x 0)+(M.getD x 0))+(jB (val L) (val M) x)):Nat):Int) 4294967295)))) (.e (.v (.int .u64 ((((((L.getD x 0)+(M.getD x 0))+(jB (val L) (val M) x))%4294967296):Nat):Int))))),.o 34 (.int (uS _):PV.le (.e (.v (.int .u32 (IntKind.u32.wrap ((((((L.getD x 0)+(M.getD x 0))+(jB (val L) (val M) x))%4294967296):Nat):Int))))) (.e (.v (.int .u32 (((((((L.getD x 0)+(M.getD x 0))+(jB (val L) (val M) x))%4294967296)%4294967296):Nat):Int))))),.a (ae:(x+1)*4<=140737488355328),.a (ae:0<=(32:Int)/\(32:Int)<=((64:Nat):Int)),.o 38 (.int (Cj _):PV.le (.e (.v (.int .u64 ((((((L.getD x 0)+(M.getD x 0))+(jB (val L) (val M) x)):Nat):Int)/2^32)))) (.e (.v (.int .u64 ((((((L.getD x 0)+(M.getD x 0))+(jB (val L) (val M) x))/4294967296):Nat):Int))))),
      iu ((x:Int)+1) ae]<|.e (chain [.o 6 (.int (by rw[hq]):PV.le (.e (.v (.int .u64 ((((((L.getD x 0)+(M.getD x 0))+(jB (val L) (val M) x))/4294967296):Nat):Int)))) (.e (.v (.int .u64 (jB (val L) (val M) (x+1):Int))))),.b 5 (AJ rfl hz:Bx.le (.row false 150 (x+1) 1 (λi_ j_=>if i_<x then(jd (iL (val L+val M) x)) i_ j_ else(E.ml (.sl false 1 1 λi_ j_=>[(.v (.int .u32 (((((((L.getD x 0)+(M.getD x 0))+(jB (val L) (val M) x))%4294967296)%4294967296):Nat):Int)))].getD (i_*1+j_) (.v (.bool false)))) (i_-x) j_)) (.row false 150 (x+1) 1 (jd (iL (val L+val M) (x+1)))))]<|.nil)) ah 
    .have hcx:jB (val L) (val M) x=jB (val L) (val M) N:=by rw[show x=N by omega]
     exact iC (chain [.o 14 (.int (by rw[hN];split<;>omega):PV.le (.e (iP (if(M.length:Int)>(L.length:Int)then(M.length:Int)else(L.length:Int)))) (.e (iP N))),tF 15 ((x:Int)<N) ae,tT 18 (0<(jB (val L) (val M) x:Int)) ae,.c (zD _ _ af:gW 313 [(gY L),(iP x)] _),.c (zD _ _ af:gW 313 [(gY M),(iP x)] _),pr ((L.getD x 0:Int)+(M.getD x 0:Int)) ae,
      pr (((((L.getD x 0)+(M.getD x 0)):Nat):Int)+(jB (val L) (val M) x:Int)) ae,.o 33 (.int (Eb _ ae):PV.le (.e (.v (.int .u64 (bits .and .u64 (((((L.getD x 0)+(M.getD x 0))+(jB (val L) (val M) x)):Nat):Int) 4294967295)))) (.e (.v (.int .u64 ((((((L.getD x 0)+(M.getD x 0))+(jB (val L) (val M) x))%4294967296):Nat):Int))))),.o 34 (.int (uS _):PV.le (.e (.v (.int .u32 (IntKind.u32.wrap ((((((L.getD x 0)+(M.getD x 0))+(jB (val L) (val M) x))%4294967296):Nat):Int))))) (.e (.v (.int .u32 (((((((L.getD x 0)+(M.getD x 0))+(jB (val L) (val M) x))%4294967296)%4294967296):Nat):Int))))),.a (ae:(x+1)*4<=140737488355328),.a (ae:0<=(32:Int)/\(32:Int)<=((64:Nat):Int)),.o 38 (.int (Cj _):PV.le (.e (.v (.int .u64 ((((((L.getD x 0)+(M.getD x 0))+(jB (val L) (val M) x)):Nat):Int)/2^32)))) (.e (.v (.int .u64 ((((((L.getD x 0)+(M.getD x 0))+(jB (val L) (val M) x))/4294967296):Nat):Int))))),
      iu ((x:Int)+1) ae]<|.e (chain [.o 6 (.int (by rw[hq]):PV.le (.e (.v (.int .u64 ((((((L.getD x 0)+(M.getD x 0))+(jB (val L) (val M) x))/4294967296):Nat):Int)))) (.e (.v (.int .u64 (jB (val L) (val M) (x+1):Int))))),.b 5 (AJ rfl hz:Bx.le (.row false 150 (x+1) 1 (λi_ j_=>if i_<x then(jd (iL (val L+val M) x)) i_ j_ else(E.ml (.sl false 1 1 λi_ j_=>[(.v (.int .u32 (((((((L.getD x 0)+(M.getD x 0))+(jB (val L) (val M) x))%4294967296)%4294967296):Nat):Int)))].getD (i_*1+j_) (.v (.bool false)))) (i_-x) j_)) (.row false 150 (x+1) 1 (jd (iL (val L+val M) (x+1)))))]<|.nil)) ah)
  (λhx=>by
    exact iC (chain [.o 14 (.int (by rw[hN];split<;>omega):PV.le (.e (iP (if(M.length:Int)>(L.length:Int)then(M.length:Int)else(L.length:Int)))) (.e (iP N))),tF 15 ((((N+(jB (val L) (val M) N)):Nat):Int)<N) ae,tF 18 (0<(jB (val L) (val M) (N+(jB (val L) (val M) N)):Int)) ae,.z 5]<|.e (chain [.o 5 (.e (zL (mK _ _).symm):PV.le (.e (.sl false (N+(jB (val L) (val M) N)) 1 (jd (iL (val L+val M) (N+(jB (val L) (val M) N)))))) (.e (gY (iL (val L+val M) (N+(jB (val L) (val M) N))))))]<|.nil)) ah) ak:jv 4 f316 (Wo L M N 0) (.exit 0) ⟨41,false,[(5,.e (gY (iL (val L+val M) (N+(jB (val L) (val M) N)))))],[]⟩) (chain [.o 6 (.int (by rw[Hj];rfl):PV.le (.e (.v (.int .u64 0))) (.e (.v (.int .u64 (jB (val L) (val M) 0:Int)))))]<|.nil),.cf (xZ _ (sj _ _) ay:wh 311 [(gY (iL (val L+val M) (N+(jB (val L) (val M) N))))] _)]<|rQ (gY (il (iL (val L+val M) (N+(jB (val L) (val M) N))))) (gY (gV (val L+val M))) (by rw[Cq ot])) ah 
theorem aiW(L M:List Nat)(hL:iD L)(hM:iD M)(h1:L.length<=10000)(hle:val M<=val L):gW 359 [(gY L),(gY M)] (gY (gV (val L-val M))):=by
 have ot:val L-val M<4294967296^L.length:=bR (dm _ _) (mh hL);exact tr false call359 func359 (chain [.y 5 5 false 150 1 (jd (iL (val L-val M) 0)),.s (Sp.jy (WD L M) 0 L.length ae (λx hx kn=>by
    have ha:=Ym hle x;rw[<-pI hL,<-pI hM]at ha;have b1:=hL.getD x;have b2:=hM.getD x;have b3:=tp (val L-val M) (val M) x;have b5:=tp (val L-val M) (val M) (x+1);have b4:=pH (val L-val M) x;have hz:(((((L.getD x 0+4294967296)-M.getD x 0)-(jB (val L-val M) (val M) x))%4294967296%4294967296:Nat):Int)=(iB (val L-val M) x:Int):= ae ;have hq:1-(((L.getD x 0+4294967296)-M.getD x 0)-(jB (val L-val M) (val M) x))/4294967296=jB (val L-val M) (val M) (x+1):= ae ;exact iC (chain [tT 12 ((x:Int)<L.length) ae,.c (zD _ _ af:gW 313 [(gY L),(iP x)] _),pr ((L.getD x 0:Int)+4294967296) ae,.c (zD _ _ af:gW 313 [(gY M),(iP x)] _),pr (((((L.getD x 0)+4294967296):Nat):Int)-(M.getD x 0:Int)) ae,.o 22 (.int ae:PV.le (.e (.v (.int .u64 (((((L.getD x 0)+4294967296):Nat):Int)-(M.getD x 0:Int))))) (.e (.v (.int .u64 ((((L.getD x 0+4294967296)-M.getD x 0):Nat):Int))))),
     pr (((((L.getD x 0+4294967296)-M.getD x 0):Nat):Int)-(jB (val L-val M) (val M) x:Int)) ae,.o 24 (.int ae:PV.le (.e (.v (.int .u64 (((((L.getD x 0+4294967296)-M.getD x 0):Nat):Int)-(jB (val L-val M) (val M) x:Int))))) (.e (.v (.int .u64 (((((L.getD x 0+4294967296)-M.getD x 0)-(jB (val L-val M) (val M) x)):Nat):Int))))),.o 27 (.int (Eb _ ae):PV.le (.e (.v (.int .u64 (bits .and .u64 (((((L.getD x 0+4294967296)-M.getD x 0)-(jB (val L-val M) (val M) x)):Nat):Int) 4294967295)))) (.e (.v (.int .u64 ((((((L.getD x 0+4294967296)-M.getD x 0)-(jB (val L-val M) (val M) x))%4294967296):Nat):Int))))),.o 28 (.int (uS _):PV.le (.e (.v (.int .u32 (IntKind.u32.wrap ((((((L.getD x 0+4294967296)-M.getD x 0)-(jB (val L-val M) (val M) x))%4294967296):Nat):Int))))) (.e (.v (.int .u32 (((((((L.getD x 0+4294967296)-M.getD x 0)-(jB (val L-val M) (val M) x))%4294967296)%4294967296):Nat):Int))))),.a (ae:(x+1)*4<=140737488355328),.a (ae:0<=(32:Int)/\(32:Int)<=((64:Nat):Int)),.o 32 (.int (Cj _):PV.le (.e (.v (.int .u64 ((((((L.getD x 0+4294967296)-M.getD x 0)-(jB (val L-val M) (val M) x)):Nat):Int)/2^32)))) (.e (.v (.int .u64 ((((((L.getD x 0+4294967296)-M.getD x 0)-(jB (val L-val M) (val M) x))/4294967296):Nat):Int))))),
     pr (1-((((((L.getD x 0+4294967296)-M.getD x 0)-(jB (val L-val M) (val M) x))/4294967296):Nat):Int)) ae,.o 33 (.int ae:PV.le (.e (.v (.int .u64 (1-((((((L.getD x 0+4294967296)-M.getD x 0)-(jB (val L-val M) (val M) x))/4294967296):Nat):Int))))) (.e (.v (.int .u64 (((1-((((L.getD x 0+4294967296)-M.getD x 0)-(jB (val L-val M) (val M) x))/4294967296)):Nat):Int))))),
     iu ((x:Int)+1) ae]<|.e (chain [.o 6 (.int (by rw[hq]):PV.le (.e (.v (.int .u64 (((1-((((L.getD x 0+4294967296)-M.getD x 0)-(jB (val L-val M) (val M) x))/4294967296)):Nat):Int)))) (.e (.v (.int .u64 (jB (val L-val M) (val M) (x+1):Int))))),.b 5 (AJ rfl hz:Bx.le (.row false 150 (x+1) 1 (λi_ j_=>if i_<x then(jd (iL (val L-val M) x)) i_ j_ else(E.ml (.sl false 1 1 λi_ j_=>[(.v (.int .u32 (((((((L.getD x 0+4294967296)-M.getD x 0)-(jB (val L-val M) (val M) x))%4294967296)%4294967296):Nat):Int)))].getD (i_*1+j_) (.v (.bool false)))) (i_-x) j_)) (.row false 150 (x+1) 1 (jd (iL (val L-val M) (x+1)))))]<|.nil)) ah)
  (λhx=>by
    exact iC (chain [tF 12 ((L.length:Int)<L.length) ae,.z 5]<|.e (chain [.o 5 (.e (zL (mK _ _).symm):PV.le (.e (.sl false L.length 1 (jd (iL (val L-val M) L.length)))) (.e (gY (iL (val L-val M) L.length))))]<|.nil)) ah) ak:jv 4 f359 (WD L M 0) (.exit 0) ⟨36,false,[(5,.e (gY (iL (val L-val M) L.length)))],[]⟩) (chain [.o 6 (.int (by rw[Hj];rfl):PV.le (.e (.v (.int .u64 0))) (.e (.v (.int .u64 (jB (val L-val M) (val M) 0:Int)))))]<|.nil),.cf (xZ _ (sj _ _) ay:wh 311 [(gY (iL (val L-val M) L.length))] _)]<|rQ (gY (il (iL (val L-val M) L.length))) (gY (gV (val L-val M))) (by rw[Cq ot])) ah 
theorem aiU(L:List Nat)(n:Nat)(hL:iD L)(h1:L.length<=10000)(hn:n<=1000000):gW 314 [(gY L),(iP n)] (gY (gV (val L/2^n))):=by
 have ot:val L/2^n<4294967296^(L.length-n/32):=by
  rw[bS (aZ ag)];by_cases h:n/32<=L.length
  .refine bF (mh hL) ?_
   rw[nP,nP,<-aX];exact bj ag ae 
  .rw [show L.length-n/32=0 by omega,bO,bK]
   refine bF (mh hL) ?_;rw[nP];exact bj ag ae 
 by_cases ko:n/32<=L.length
 .exact tr false call314 func314 (chain [.a (ae:0<(32:Int)),iu ((n:Int)) ae,.y 5 5 false 150 1 (jd (iL (val L/2^n) 0)),.s (Sp.jy (WB L n) 0 (L.length-n/32) ae (λx hx kn=>by
    have b1:=hL.getD ((n/32)+x);have b2:=hL.getD (((n/32)+x)+1);have b3:(L.getD ((n/32)+x) 0+(L.getD (((n/32)+x)+1) 0*4294967296))/2^(n%32)<=(L.getD ((n/32)+x) 0+(L.getD (((n/32)+x)+1) 0*4294967296)):=bD _ _;have hz:(((L.getD ((n/32)+x) 0+(L.getD (((n/32)+x)+1) 0*4294967296))/2^(n%32)%4294967296%4294967296:Nat):Int)=(iB (val L/2^n) x:Int):=by
     rw[Nat.mod_mod,ak5,<-pI hL,<-pI hL,dZ x,bc 4294967296]
    exact iC (chain [tT 13 (((((n/32)+x):Nat):Int)<L.length) ae,.c (zD _ _ af:gW 313 [(gY L),(iP ((((n/32)+x):Nat):Int))] _),iu (((((n/32)+x):Nat):Int)+1) ae,.c (zD _ _ af:gW 313 [(gY L),(iP (((((n/32)+x)+1):Nat):Int))] _),.a (ae:0<=(32:Int)/\(32:Int)<=((64:Nat):Int)),.o 23 (.int (D3 _ ae):PV.le (.e (.v (.int .u64 (IntKind.u64.wrap ((L.getD (((n/32)+x)+1) 0:Int)*2^32))))) (.e (.v (.int .u64 (((L.getD (((n/32)+x)+1) 0*4294967296):Nat):Int))))),
     pr ((L.getD ((n/32)+x) 0:Int)+(((L.getD (((n/32)+x)+1) 0*4294967296):Nat):Int)) ae,.a (ae:0<(32:Int)),.a (ae:0<=((((n%32):Nat):Int):Int)/\((((n%32):Nat):Int):Int)<=((64:Nat):Int)),.o 29 (.int (zK _ _):PV.le (.e (.v (.int .u64 (((((L.getD ((n/32)+x) 0)+(L.getD (((n/32)+x)+1) 0*4294967296)):Nat):Int)/2^(n%32))))) (.e (.v (.int .u64 (((((L.getD ((n/32)+x) 0)+(L.getD (((n/32)+x)+1) 0*4294967296))/2^(n%32)):Nat):Int))))),.o 30 (.int (Eb _ ae):PV.le (.e (.v (.int .u64 (bits .and .u64 (((((L.getD ((n/32)+x) 0)+(L.getD (((n/32)+x)+1) 0*4294967296))/2^(n%32)):Nat):Int) 4294967295)))) (.e (.v (.int .u64 ((((((L.getD ((n/32)+x) 0)+(L.getD (((n/32)+x)+1) 0*4294967296))/2^(n%32))%4294967296):Nat):Int))))),.o 31 (.int (uS _):PV.le (.e (.v (.int .u32 (IntKind.u32.wrap ((((((L.getD ((n/32)+x) 0)+(L.getD (((n/32)+x)+1) 0*4294967296))/2^(n%32))%4294967296):Nat):Int))))) (.e (.v (.int .u32 (((((((L.getD ((n/32)+x) 0)+(L.getD (((n/32)+x)+1) 0*4294967296))/2^(n%32))%4294967296)%4294967296):Nat):Int))))),.a (ae:(x+1)*4<=140737488355328),iu (((((n/32)+x):Nat):Int)+1) ae]<|.e (chain [.o 6 (.int aw:PV.le (.e (iP (((((n/32)+x)+1):Nat):Int))) (.e (iP ((((n/32)+(x+1)):Nat):Int)))),.b 5 (AJ rfl hz:Bx.le (.row false 150 (x+1) 1 (λi_ j_=>if i_<x then(jd (iL (val L/2^n) x)) i_ j_ else(E.ml (.sl false 1 1 λi_ j_=>[(.v (.int .u32 (((((((L.getD ((n/32)+x) 0)+(L.getD (((n/32)+x)+1) 0*4294967296))/2^(n%32))%4294967296)%4294967296):Nat):Int)))].getD (i_*1+j_) (.v (.bool false)))) (i_-x) j_)) (.row false 150 (x+1) 1 (jd (iL (val L/2^n) (x+1)))))]<|.nil)) ah)
  (λhx=>by
    exact iC (chain [tF 13 (((((n/32)+(L.length-n/32)):Nat):Int)<L.length) ae,.z 5]<|.e (chain [.o 5 (.e (zL (mK _ _).symm):PV.le (.e (.sl false (L.length-n/32) 1 (jd (iL (val L/2^n) (L.length-n/32))))) (.e (gY (iL (val L/2^n) (L.length-n/32)))))]<|.nil)) ah) ak:jv 3 f314 (WB L n 0) (.exit 0) ⟨36,false,[(5,.e (gY (iL (val L/2^n) (L.length-n/32))))],[]⟩) (chain [.o 6 (.int aw:PV.le (.e (iP (((n/32):Nat):Int))) (.e (iP ((((n/32)+0):Nat):Int))))]<|.nil),.cf (xZ _ (sj _ _) ay:wh 311 [(gY (iL (val L/2^n) (L.length-n/32)))] _)]<|rQ (gY (il (iL (val L/2^n) (L.length-n/32)))) (gY (gV (val L/2^n))) (by rw[Cq ot])) ah 
 .have h0:val L/2^n=0:=by rw[show L.length-n/32=0 by omega,bO]at ot;exact Nat.lt_one_iff.1 ot
  rw[h0];exact tr false call314 func314 (chain [.a (ae:0<(32:Int)),iu ((n:Int)) ae,.y 5 5 false 150 1 (jd (iL 0 0)),.s (Sp.jy (WC L n) 0 0 ae (λx hx kn=>by
    omega)
  (λhx=>by
    exact iC (chain [tF 13 (((((n/32)+0):Nat):Int)<L.length) ae,.z 5]<|.e (chain [.o 5 (.e (zL (mK _ _).symm):PV.le (.e (.sl false 0 1 (jd (iL 0 0)))) (.e (gY (iL 0 0))))]<|.nil)) ah) ak:jv 3 f314 (WC L n 0) (.exit 0) ⟨36,false,[(5,.e (gY (iL 0 0)))],[]⟩) (chain [.o 6 (.int aw:PV.le (.e (iP (((n/32):Nat):Int))) (.e (iP ((((n/32)+0):Nat):Int))))]<|.nil),.cf (xZ _ (sj _ _) ay:wh 311 [(gY (iL 0 0))] _)]<|rQ (gY (il (iL 0 0))) (gY (gV 0)) (by rw[Cq ag])) ah 
end Go.Proofs.YtkjkcjhacddojaaGreatDoor
namespace Go.Proofs.YtkjkcjhacddojaaGreatDoor.Fp
def iN(a b n x:Nat):Nat:=a/2^(n-x)%b
def kK(a b n x:Nat):Nat:=a/2^(n-x)/b
def ji(a n x:Nat):Nat:=a/2^(n-1-x)%2
theorem Hv(a n x:Nat):ji a n x<=1:=by unfold ji;omega
theorem RG{a n x:Nat}(hx:x<n):a/2^(n-(x+1))=2*(a/2^(n-x))+ji a n x:=by
 unfold ji;rw[show n-x=(n-1-x)+1 by omega,show n-(x+1)=n-1-x by omega,a6,<-cA];omega
theorem RE{a b n x:Nat}(hb:0<b)(hx:x<n)(h:2*iN a b n x+ji a n x<b):iN a b n (x+1)=2*iN a b n x+ji a n x/\kK a b n (x+1)=2*kK a b n x:=by
 have e:a/2^(n-(x+1))=b*(2*kK a b n x)+(2*iN a b n x+ji a n x):=by
  rw[RG hx];have:=bY (a/2^(n-x)) b;unfold kK iN;rw[cE];omega
 constructor
 .conv=>lhs;unfold iN
  rw[e,dA,bC h]
 .conv=>lhs;unfold kK
  rw[e,dc hb,bW h,bB]
theorem RF{a b n x:Nat}(hb:0<b)(hx:x<n)(h:¬2*iN a b n x+ji a n x<b):iN a b n (x+1)=2*iN a b n x+ji a n x-b/\kK a b n (x+1)=2*kK a b n x+1:=by
 have hr:iN a b n x<b:=bh _ hb;have tC:=Hv a n x;have e:a/2^(n-(x+1))=b*(2*kK a b n x+1)+(2*iN a b n x+ji a n x-b):=by
  rw[RG hx];have:=bY (a/2^(n-x)) b;unfold kK iN at *
  rw[bt,cE,bQ];omega
 constructor
 .conv=>lhs;unfold iN
  rw[e,dA,bC ae]
 .conv=>lhs;unfold kK
  rw[e,dc hb,bW ae,bB]
theorem RH{a b n:Nat}(h:a<2^n):iN a b n 0=0/\kK a b n 0=0:=by
 unfold iN kK;rw[dj,bW h];simp
theorem RC(a b n:Nat):iN a b n n=a%b/\kK a b n n=a/b:=by
 unfold iN kK;rw[cU,bO,dG];exact⟨rfl,rfl⟩
theorem acC(a b n x:Nat):kK a b n x*2^(n-x)<=a:=by
 unfold kK;exact aY (bE _ (bD _ _)) (cO _ _)
theorem QE{L:List Nat}(h:iD L):ie (val L)<=32*L.length:=kR.2 (by rw[<-nP];exact mh h)
theorem akV{q i m:Nat}(hi:i/32<m)(hq:q*2^(i+1)<4294967296^m):
 (∃ t,iB (q*2^(i+1)) (i/32)=t*2^(i%32+1))/\iB (q*2^(i+1)) (i/32)+2^(i%32)<4294967296 /\
 (iL (q*2^(i+1)) m).set (i/32) (iB (q*2^(i+1)) (i/32)+2^(i%32))=iL ((2*q+1)*2^i) m:=by
 have hr:i%32<32:=bh _ ag;have e1:q*2^(i+1)/4294967296^(i/32)=q*2^(i%32+1):=by
  rw[show i+1=(i%32+1)+32*(i/32)by omega,aX,<-nP,<-bd,dv _ (pw _)]
 have h3:(4294967296:Nat)=2^(i%32+1)*2^(32-(i%32+1)):=by rw[<-aX,show i%32+1+(32-(i%32+1))=32 by omega]
 have e2:iB (q*2^(i+1)) (i/32)=(q%2^(32-(i%32+1)))*2^(i%32+1):=by
  unfold iB;rw[e1,bc]
  conv=>lhs;rhs;rw[h3]
  rw[gw,bc]
 have e3:(q%2^(32-(i%32+1)))*2^(i%32+1)+2^(i%32+1)<=4294967296:=by
  have:=bE (2^(i%32+1)) (show q%2^(32-(i%32+1))+1<=2^(32-(i%32+1))from bh _ (aZ ag));rw[bL,bK]at this;refine aY this (fL ?_);rw[bc];exact h3.symm
 have e4:2^(i%32)<2^(i%32+1):=ez ag ae;have iE:iB (q*2^(i+1)) (i/32)+2^(i%32)<4294967296:=by rw[e2];omega
 refine⟨⟨_,e2⟩,iE,?_⟩;have hk:i/32<(iL (q*2^(i+1)) m).length:=by rw[mK];exact hi
 have hv:=yi (x:=iB (q*2^(i+1)) (i/32)+2^(i%32)) hk;rw[tv hi,uV,bC hq,bt]at hv;refine(CO ((sj _ _).set _ iE) (by rw[cw,mK]) ?_).symm;have e5:4294967296^(i/32)*2^(i%32)=2^i:=by rw[nP,<-aX];congr 1;omega
 rw[e5]at hv;have e6:2*q*2^i=q*2^(i+1):=by rw[a6,bc 2 q,bd,bc 2]
 rw[bL,bK,e6];omega
end Go.Proofs.YtkjkcjhacddojaaGreatDoor.Fp
namespace Go.Proofs.YtkjkcjhacddojaaGreatDoor
open Go.RowKit Fp Pu
theorem aib(s t:Nat)(hs:s<32)(iE:t*2^(s+1)+2^s<4294967296):bits .or .u32 ((t*2^(s+1):Nat):Int) (IntKind.u32.wrap (1*2^s))=((t*2^(s+1)+2^s:Nat):Int):=by
 have h2:2^s<2^(s+1):=ez ag ae;have e:IntKind.u32.wrap (1*2^s)=((2^s:Nat):Int):=by
  rw[IntKind.wrap_u32,Int.one_mul,show(2:Int)^s=((2^s:Nat):Int)by simp];omega
 rw[e,Gz _ _ ae ae,fI,AR _ t (s+1) h2,dZ]
theorem aic(o r a:Nat)(hr:r<32)(ho:o<2^r):bits .or .u32 (o:Int) ((a*2^r%4294967296%4294967296:Nat):Int)=((o+a*2^r%4294967296:Nat):Int):=by
 have h3:(4294967296:Nat)=2^r*2^(32-r):=by rw[<-aX,show r+(32-r)=32 by omega]
 have yM:2^r<=2^31:=bj ag ae;have EN:(2:Nat)^31=2147483648:= ag ;have e2:a*2^r%4294967296=(a%2^(32-r))*2^r:=by
  rw[bc]
  conv=>lhs;rhs;rw[h3]
  rw[gw,bc]
 rw[Nat.mod_mod,Gz _ _ ae (bh _ ag),e2,AR _ _ _ ho]
theorem ak1(a r:Nat)(ha:a<4294967296)(hr:r<32):IntKind.u64.wrap ((a:Int)*2^r)=((a*2^r:Nat):Int):=by
 have yM:2^r<=2^31:=bj ag ae;have EN:(2:Nat)^31=2147483648:= ag ;have h2:a*2^r<=4294967295*2147483648:=cL ae ae;have e:(a:Int)*2^r=((a*2^r:Nat):Int):= aj ;rw[e];exact pE _ ae 
theorem ak0{a r:Nat}(ha:a<4294967296)(hr:r<32):a*2^r<=9223372034707292160:=by
 have yM:2^r<=2^31:=bj ag ae;have EN:(2:Nat)^31=2147483648:= ag ;have h2:a*2^r<=4294967295*2147483648:=cL ae ae;omega
theorem OS(x:Nat):IntKind.u32.wrap ((x:Int)*2^1)=((2*x%4294967296:Nat):Int):=by rw[IntKind.wrap_u32];omega
theorem JB(x c:Nat)(hc:c<=1):bits .or .u32 ((2*x%4294967296:Nat):Int) (c:Int)=((2*x%4294967296+c:Nat):Int):=by
 have h:2*x%4294967296=(2*x%4294967296/2)*2^1:= ae ;rw[Gz _ _ ae ae,fI,h,AR _ _ 1 ae,dZ]
theorem akA{T n n' p q:Nat}{L L':List Nat}{z y:Nat}(hn:n=n')(hp:p<L.length)(hq:q<L.length)(hs:(L.set p z).set q y=L'):
 Bx.le (.row false T n 1 λi' j'=>if i'=q/\0<=j'/\j'<0+1 then[.v (.int .u32 (y:Int))].getD (j'-0) .any else(λi' j'=>if i'=p/\0<=j'/\j'<0+1 then[.v (.int .u32 (z:Int))].getD (j'-0) .any else(jd L) i' j') i' j') (.row false T n' 1 (jd L')):=by
 subst hs;refine .row hn λi j _ hj=>?_
 obtain rfl:j=0:= ae ;refine⟨.iS ?_,rfl⟩;by_cases h1:i=q
 .subst h1
  rw[aS ⟨rfl,ae,ae⟩];show E.v (.int .u32 (y:Int))=E.v (.int .u32 ((((L.set p z).set i y).getD i 0:Nat):Int));rw[Fp.LR (by rw[cw];exact hq)]
 .rw [aR (λk=>h1 k.1)]
  by_cases h:i=p
  .subst h
   show(if i=i/\0<=0/\0<0+1 then _ else _)=E.v (.int .u32 ((((L.set i z).set q y).getD i 0:Nat):Int));rw[aS ⟨rfl,ae,ae⟩,Fp.vk (λk=>h1 k.symm),Fp.LR hp];rfl
  .show (if i=p/\0<=0/\0<0+1 then _ else E.v (.int .u32 (L.getD i 0:Int)))=E.v (.int .u32 ((((L.set p z).set q y).getD i 0:Nat):Int))
   rw[aR (λk=>h k.1),Fp.vk (λk=>h1 k.symm),Fp.vk (λk=>h k.symm)]
def WA(L:List Nat)(n:Nat)(x:Nat):PS:=⟨60,false,[(6,.e (iP x)),(5,.own 16),(0,.e (gY (il L))),(1,.e (iP n))],[(16,.row false 150 (n/32+(il L).length+1) 1 (jd (iL ((val ((il L).take x))*2^n) (n/32+(il L).length+1))))]⟩
theorem aiS(L:List Nat)(n:Nat)(hL:iD L)(h1:L.length<=10000)(hn:n<=1000000):gW 278 [(gY L),(iP n)] (gY (gV (val L*2^n))):=by
 have tl:=oO L;unfold lZ at tl;have ot:val ((il L).take (il L).length)*2^n<4294967296^(n/32+(il L).length+1):=by
  rw[fh,cF,aX,bc];have h1:=mh hL.il;have h2:2^n<=4294967296^(n/32)*4294967296:=by
   rw[nP,show(4294967296:Nat)=2^32 by rfl,<-aX];exact bj ag ae 
  rw[a6,cE,bc];refine aoh h1 h2 (by exact eG (pw _) ag)
 exact tr false call278 func278 (chain [.cf (xZ _ af ay:wh 311 [(gY L)] _),.a (ae:0<(32:Int)),iu ((n:Int)) ae,
  iu ((((n/32):Nat):Int)+((il L).length:Int)) ae,iu (((((n/32)+(il L).length):Nat):Int)+1) ae,.a (ae:0<=((((((n/32)+(il L).length)+1):Nat):Int):Int)/\((((((n/32)+(il L).length)+1):Nat):Int):Int)<=((((((n/32)+(il L).length)+1):Nat):Int):Int)),.a (ae:((4:Nat):Int)*(((((n/32)+(il L).length)+1):Nat):Int)<=281474976710656/\((((((n/32)+(il L).length)+1):Nat):Int):Int)<=9223372036854775807),.s (Sp.jy (WA L n) 0 ((il L).length) ae (λx hx kn=>by
    have Mh:=hL.il.getD x;have hr:n%32<32:=bh _ ag;have iE:(val ((il L).take x))<4294967296^x:=by
     have:=mh (hL.il.take x);rw[b8,cT ae]at this;exact this
    obtain⟨ho,uA⟩:=ak2 (n:=n) Mh (O:=(iL ((val ((il L).take x))*2^n) (n/32+(il L).length+1))) rfl iE (m:=(n/32+(il L).length+1)) ae;rw[<-uW]at uA;have hu:(((il L).getD x 0)*2^(n%32))/4294967296<4294967296:=by
     have:=ak0 Mh hr;omega
    rw[<-bC hu]at uA;exact iC (chain [tT 20 ((x:Int)<((il L).length:Int)) ae,iX ((x:Int)) ((il L).length) ae,.o 27 (.int (pE _ ae):PV.le (.e (.v (.int .u64 (IntKind.u64.wrap ((((il L).getD x 0):Nat):Int))))) (.e (.v (.int .u64 ((((il L).getD x 0):Nat):Int))))),.a (ae:0<(32:Int)),.a (ae:0<=((((n%32):Nat):Int):Int)/\((((n%32):Nat):Int):Int)<=((64:Nat):Int)),.o 30 (.int (ak1 _ _ Mh hr):PV.le (.e (.v (.int .u64 (IntKind.u64.wrap (((((il L).getD x 0):Nat):Int)*2^(n%32)))))) (.e (.v (.int .u64 (((((il L).getD x 0)*2^(n%32)):Nat):Int))))),.a (ae:0<(32:Int)),iu ((n:Int)) ae,iu ((x:Int)+(((n/32):Nat):Int)) ae,.a (ae:0<(32:Int)),iu ((n:Int)) ae,
     iu ((x:Int)+(((n/32):Nat):Int)) ae,iX ((((x+(n/32)):Nat):Int)) ((n/32+(il L).length+1)) ae,.a (ae:(x+(n/32))<(n/32+(il L).length+1)),.o 44 (.int (Eb _ ae):PV.le (.e (.v (.int .u64 (bits .and .u64 (((((il L).getD x 0)*2^(n%32)):Nat):Int) 4294967295)))) (.e (.v (.int .u64 ((((((il L).getD x 0)*2^(n%32))%4294967296):Nat):Int))))),.o 45 (.int (uS _):PV.le (.e (.v (.int .u32 (IntKind.u32.wrap ((((((il L).getD x 0)*2^(n%32))%4294967296):Nat):Int))))) (.e (.v (.int .u32 (((((((il L).getD x 0)*2^(n%32))%4294967296)%4294967296):Nat):Int))))),.o 46 (.int (aic _ _ _ hr ho):PV.le (.e (.v (.int .u32 (bits .or .u32 ((((iL ((val ((il L).take x))*2^n) (n/32+(il L).length+1)).getD (x+(n/32)) 0):Nat):Int) (((((((il L).getD x 0)*2^(n%32))%4294967296)%4294967296):Nat):Int))))) (.e (.v (.int .u32 (((((iL ((val ((il L).take x))*2^n) (n/32+(il L).length+1)).getD (x+(n/32)) 0)+((((il L).getD x 0)*2^(n%32))%4294967296)):Nat):Int))))),
     iX ((((x+(n/32)):Nat):Int)) ((n/32+(il L).length+1)) ae,.a (ae:(x+(n/32))<(n/32+(il L).length+1)),.a (ae:0<(32:Int)),iu ((n:Int)) ae,
     iu ((x:Int)+(((n/32):Nat):Int)) ae,iu ((((x+(n/32)):Nat):Int)+1) ae,.a (ae:0<=(32:Int)/\(32:Int)<=((64:Nat):Int)),.o 55 (.int (Cj _):PV.le (.e (.v (.int .u64 ((((((il L).getD x 0)*2^(n%32)):Nat):Int)/2^32)))) (.e (.v (.int .u64 ((((((il L).getD x 0)*2^(n%32))/4294967296):Nat):Int))))),.o 56 (.int (uS _):PV.le (.e (.v (.int .u32 (IntKind.u32.wrap ((((((il L).getD x 0)*2^(n%32))/4294967296):Nat):Int))))) (.e (.v (.int .u32 (((((((il L).getD x 0)*2^(n%32))/4294967296)%4294967296):Nat):Int))))),
     iX (((((x+(n/32))+1):Nat):Int)) ((n/32+(il L).length+1)) ae,.a (ae:((x+(n/32))+1)<(n/32+(il L).length+1)),iu ((x:Int)+1) ae]<|.e (chain [.b 16 (akA rfl (by rw[mK];omega) (by rw[mK];omega) uA:Bx.le (.row false 150 (n/32+(il L).length+1) 1 (λi' j'=>if i'=((x+(n/32))+1)/\0<=j'/\j'<0+1 then[(.v (.int .u32 (((((((il L).getD x 0)*2^(n%32))/4294967296)%4294967296):Nat):Int)))].getD (j'-0) .any else(λi' j'=>if i'=(x+(n/32))/\0<=j'/\j'<0+1 then[(.v (.int .u32 (((((iL ((val ((il L).take x))*2^n) (n/32+(il L).length+1)).getD (x+(n/32)) 0)+((((il L).getD x 0)*2^(n%32))%4294967296)):Nat):Int)))].getD (j'-0) .any else(jd (iL ((val ((il L).take x))*2^n) (n/32+(il L).length+1))) i' j') i' j')) (.row false 150 (n/32+(il L).length+1) 1 (jd (iL ((val ((il L).take (x+1)))*2^n) (n/32+(il L).length+1)))))]<|.nil)) ah)
  (λhx=>by
    exact iC (chain [tF 20 (((il L).length:Int)<((il L).length:Int)) ae,.z 16]<|.e (chain [.o 5 (.e (zL (mK _ _).symm):PV.le (.e (.sl false (n/32+(il L).length+1) 1 (jd (iL ((val ((il L).take (il L).length))*2^n) (n/32+(il L).length+1))))) (.e (gY (iL ((val ((il L).take (il L).length))*2^n) (n/32+(il L).length+1)))))]<|.nil)) ah) ak:jv 4 f278 (WA L n 0) (.exit 0) ⟨60,false,[(5,.e (gY (iL ((val ((il L).take (il L).length))*2^n) (n/32+(il L).length+1))))],[]⟩) (chain [.b 16 (Gn ae (λi=>by rw[show val (List.take 0 (il L))=0 from rfl,cr,Hs]):Bx.le (.row false 150 (((n/32)+(il L).length)+1) 1 (λ_ j_=>[(.v (.int .u32 0))].getD j_ .any)) (.row false 150 (n/32+(il L).length+1) 1 (jd (iL ((val ((il L).take 0))*2^n) (n/32+(il L).length+1)))))]<|.nil),.cf (xZ _ (sj _ _) ay:wh 311 [(gY (iL ((val ((il L).take (il L).length))*2^n) (n/32+(il L).length+1)))] _)]<|rQ (gY (il (iL ((val ((il L).take (il L).length))*2^n) (n/32+(il L).length+1)))) (gY (gV (val L*2^n))) (by rw[Cq ot,fh,oG])) ah 
def Wz(L M:List Nat)(n:Nat)(x:Nat):PS:=⟨106,false,[(8,.e (iP ((n:Int)-1-(x:Int)))),(7,.own 23),(6,.own 19),(1,.e (gY (il M))),(0,.e (gY L))],[(23,.row false 150 ((il M).length+1) 1 (jd (iL (iN (val L) (val M) n x) ((il M).length+1)))),(19,.row false 150 L.length 1 (jd (iL ((kK (val L) (val M) n x)*2^(n-x)) L.length)))]⟩
def Wx(L M:List Nat)(n x:Nat)(k:Nat):PS:=⟨106,false,[(10,.e (iP k)),(9,.e (.v (.int .u32 (lW (iN (val L) (val M) n x) (ji (val L) n x) k:Int)))),(8,.e (iP ((n:Int)-1-(x:Int)))),(7,.own 23),(6,.own 19),(1,.e (gY (il M))),(0,.e (gY L))],[(23,.row false 150 ((il M).length+1) 1 (jd (kJ (2*(iN (val L) (val M) n x)+(ji (val L) n x)) (iN (val L) (val M) n x) k ((il M).length+1)))),(19,.row false 150 L.length 1 (jd (iL ((kK (val L) (val M) n x)*2^(n-x)) L.length)))]⟩
def Wy(L M:List Nat)(n x:Nat)(k:Nat):PS:=⟨106,false,[(13,.e (iP k)),(12,.e (.v (.int .u64 (jB ((2*(iN (val L) (val M) n x)+(ji (val L) n x))-val M) (val M) k:Int)))),(8,.e (iP ((n:Int)-1-(x:Int)))),(7,.own 23),(6,.own 19),(1,.e (gY (il M))),(0,.e (gY L))],[(23,.row false 150 ((il M).length+1) 1 (jd (kJ ((2*(iN (val L) (val M) n x)+(ji (val L) n x))-val M) (2*(iN (val L) (val M) n x)+(ji (val L) n x)) k ((il M).length+1)))),(19,.row false 150 L.length 1 (jd (iL ((kK (val L) (val M) n x)*2^(n-x)) L.length)))]⟩
theorem aiQ(L M:List Nat)(n:Nat)(hL:iD L)(hM:iD M)(h1:L.length<=10000)(h2:M.length<=10000)(hB:0<val M)(hn:n=ie (val L)):gW 277 [(gY L),(gY M)] (.ix [gY (gV (val L/val M)),gY (gV (val L%val M))]):=by
 have tl:=oO M;unfold lZ at tl;have Ir:=RH (a:=val L) (b:=val M) (n:=n) (by rw[hn];exact oY _);have hbn:=QE hL;have he:=RC (val L) (val M) n;have f1:val L/val M*2^(n-n)<4294967296^L.length:=by
  rw[cU,bO,bQ];exact bR (bD _ _) (mh hL)
 have f2:val L%val M<4294967296^((il M).length+1):=by
  have h1:=mh hM.il;rw[oG]at h1;refine fm (bh _ hB) (bF h1 (bj ag ae))
 exact tr false call277 func277 (chain [.cf (xZ _ af ay:wh 311 [(gY M)] _),.a (ae:0<=((L.length:Int):Int)/\((L.length:Int):Int)<=((L.length:Int):Int)),.a (ae:((4:Nat):Int)*(L.length:Int)<=281474976710656/\((L.length:Int):Int)<=9223372036854775807),iu (((il M).length:Int)+1) ae,.a (ae:0<=(((((il M).length+1):Nat):Int):Int)/\(((((il M).length+1):Nat):Int):Int)<=(((((il M).length+1):Nat):Int):Int)),.a (ae:((4:Nat):Int)*((((il M).length+1):Nat):Int)<=281474976710656/\(((((il M).length+1):Nat):Int):Int)<=9223372036854775807),.c (Ws _ af ae:gW 276 [(gY L)] _),.o 25 (.int (by rw[hn]):PV.le (.e (iP (ie (val L):Int))) (.e (iP n))),iu ((n:Int)-1) ae,.s (Sp.jy (Wz L M n) 0 n ae (λx hx kn=>by
    have IF:(n-1-x)/32<L.length:=by
     have:=QE hL;rw[<-hn]at this;omega
    have nn:=Hv (val L) n x;have anB:=hL.getD ((n-1-x)/32);have BK:L.getD ((n-1-x)/32) 0/2^((n-1-x)%32)<=L.getD ((n-1-x)/32) 0:=bD _ _;have tC:bits .and .u32 ((L.getD ((n-1-x)/32) 0/2^((n-1-x)%32):Nat):Int) 1=(ji (val L) n x:Int):=by
     rw[Kh _ ae];have:=KP hL (n-1-x) IF;unfold ji;rw[this];simp[aW,IF]
    have hRl:(iN (val L) (val M) n x)<val M:=bh _ hB;have Ua:val (iL (2*(iN (val L) (val M) n x)+(ji (val L) n x)) ((il M).length+1))=(2*(iN (val L) (val M) n x)+(ji (val L) n x)):=by
     rw[uV,bC];have h1:=mh hM.il;rw[oG]at h1;rw[a6];omega
    exact iC (chain [.o 27 (.int ae:PV.le (.e (iP ((n:Int)-1-(x:Int)))) (.e (iP (((n-1-x):Nat):Int)))),tT 28 (0<=(((n-1-x):Nat):Int)) ae,.o 32 (.int ae:PV.le (.e (iP ((n:Int)-1-(x:Int)))) (.e (iP (((n-1-x):Nat):Int)))),.a (ae:0<(32:Int)),iu ((((n-1-x):Nat):Int)) ae,
     iX (((((n-1-x)/32):Nat):Int)) (L.length) ae,.o 36 (.int ae:PV.le (.e (iP ((n:Int)-1-(x:Int)))) (.e (iP (((n-1-x):Nat):Int)))),.a (ae:0<(32:Int)),.a (ae:0<=(((((n-1-x)%32):Nat):Int):Int)/\(((((n-1-x)%32):Nat):Int):Int)<=((32:Nat):Int)),.o 38 (.int (zK _ _):PV.le (.e (.v (.int .u32 ((L.getD ((n-1-x)/32) 0:Int)/2^((n-1-x)%32))))) (.e (.v (.int .u32 ((((L.getD ((n-1-x)/32) 0)/2^((n-1-x)%32)):Nat):Int))))),.o 39 (.int tC:PV.le (.e (.v (.int .u32 (bits .and .u32 ((((L.getD ((n-1-x)/32) 0)/2^((n-1-x)%32)):Nat):Int) 1)))) (.e (.v (.int .u32 (ji (val L) n x:Int))))),.s (Sp.jy (Wx L M n x) 0 ((il M).length+1) ae (λk hk Az=>by
    have nn:=Hv (val L) n x;have To:=Hr (r:=(iN (val L) (val M) n x)) nn k;have hdc:=Hq (r:=(iN (val L) (val M) n x)) nn k;have uA:(kJ (2*(iN (val L) (val M) n x)+(ji (val L) n x)) (iN (val L) (val M) n x) k ((il M).length+1)).set k (2*iB (iN (val L) (val M) n x) k%4294967296+lW (iN (val L) (val M) n x) (ji (val L) n x) k)=(kJ (2*(iN (val L) (val M) n x)+(ji (val L) n x)) (iN (val L) (val M) n x) (k+1) ((il M).length+1)):=by rw[<-To.1,Jn]
    exact iC (chain [tT 43 ((k:Int)<((((il M).length+1):Nat):Int)) ae,iX ((k:Int)) (((il M).length+1)) ae,.a (ae:k<((il M).length+1)),.o 49 (.int (by rw[FF ae]):PV.le (.e (.v (.int .u32 ((((kJ (2*(iN (val L) (val M) n x)+(ji (val L) n x)) (iN (val L) (val M) n x) k ((il M).length+1)).getD k 0):Nat):Int)))) (.e (.v (.int .u32 (iB (iN (val L) (val M) n x) k:Int))))),.a (ae:0<=(1:Int)/\(1:Int)<=((32:Nat):Int)),.o 53 (.int (OS _):PV.le (.e (.v (.int .u32 (IntKind.u32.wrap ((iB (iN (val L) (val M) n x) k:Int)*2^1))))) (.e (.v (.int .u32 (((2*iB (iN (val L) (val M) n x) k%4294967296):Nat):Int))))),.o 55 (.int (JB _ _ hdc):PV.le (.e (.v (.int .u32 (bits .or .u32 (((2*iB (iN (val L) (val M) n x) k%4294967296):Nat):Int) (lW (iN (val L) (val M) n x) (ji (val L) n x) k:Int))))) (.e (.v (.int .u32 (((2*iB (iN (val L) (val M) n x) k%4294967296+lW (iN (val L) (val M) n x) (ji (val L) n x) k):Nat):Int))))),
     iX ((k:Int)) (((il M).length+1)) ae,.a (ae:k<((il M).length+1)),.a (ae:0<=(31:Int)/\(31:Int)<=((32:Nat):Int)),.o 58 (.int (zK _ _):PV.le (.e (.v (.int .u32 ((iB (iN (val L) (val M) n x) k:Int)/2^31)))) (.e (.v (.int .u32 ((((iB (iN (val L) (val M) n x) k)/2^31):Nat):Int))))),iu ((k:Int)+1) ae]<|.e (chain [.o 9 (.int (by rw[To.2]):PV.le (.e (.v (.int .u32 ((((iB (iN (val L) (val M) n x) k)/2^31):Nat):Int)))) (.e (.v (.int .u32 (lW (iN (val L) (val M) n x) (ji (val L) n x) (k+1):Int))))),.b 23 (DY rfl aI uA:Bx.le (.row false 150 ((il M).length+1) 1 (λi' j'=>if i'=k/\0<=j'/\j'<0+1 then[(.v (.int .u32 (((2*iB (iN (val L) (val M) n x) k%4294967296+lW (iN (val L) (val M) n x) (ji (val L) n x) k):Nat):Int)))].getD (j'-0) .any else(jd (kJ (2*(iN (val L) (val M) n x)+(ji (val L) n x)) (iN (val L) (val M) n x) k ((il M).length+1))) i' j')) (.row false 150 ((il M).length+1) 1 (jd (kJ (2*(iN (val L) (val M) n x)+(ji (val L) n x)) (iN (val L) (val M) n x) (k+1) ((il M).length+1)))))]<|.nil)) ah)
  (λhk=>by
    exact iC (chain [tF 43 (((((il M).length+1):Nat):Int)<((((il M).length+1):Nat):Int)) ae]<|.e (chain [.b 23 (.iS (by rw[Jm (aV _)]):Bx.le (.row false 150 ((il M).length+1) 1 (jd (kJ (2*(iN (val L) (val M) n x)+(ji (val L) n x)) (iN (val L) (val M) n x) ((il M).length+1) ((il M).length+1)))) (.row false 150 ((il M).length+1) 1 (jd (iL (2*(iN (val L) (val M) n x)+(ji (val L) n x)) ((il M).length+1)))))]<|.nil)) ah) ak:jv 9 f277 (Wx L M n x 0) (.exit 2) ⟨106,false,[(8,.e (iP ((n:Int)-1-(x:Int)))),(7,.own 23),(6,.own 19),(1,.e (gY (il M))),(0,.e (gY L))],[(23,.row false 150 ((il M).length+1) 1 (jd (iL (2*(iN (val L) (val M) n x)+(ji (val L) n x)) ((il M).length+1)))),(19,.row false 150 L.length 1 (jd (iL ((kK (val L) (val M) n x)*2^(n-x)) L.length)))]⟩) (chain [.o 9 (.int (by rw[Lc]):PV.le (.e (.v (.int .u32 (ji (val L) n x:Int)))) (.e (.v (.int .u32 (lW (iN (val L) (val M) n x) (ji (val L) n x) 0:Int))))),.b 23 (.iS (by rw[FG]):Bx.le (.row false 150 ((il M).length+1) 1 (jd (iL (iN (val L) (val M) n x) ((il M).length+1)))) (.row false 150 ((il M).length+1) 1 (jd (kJ (2*(iN (val L) (val M) n x)+(ji (val L) n x)) (iN (val L) (val M) n x) 0 ((il M).length+1)))))]<|.nil),.c (by rw[A9 (show((il M).length+1)=(iL (2*(iN (val L) (val M) n x)+(ji (val L) n x)) ((il M).length+1)).length by first|omega|(simp only[mK,uG];omega)|simp only[mK,uG])];exact(aiR _ _ (sj _ _) (iD.il af) (by first|omega|(simp only[mK,uG];omega)|simp only[mK,uG]) (by first|omega|(simp only[mK,uG];omega)|simp only[mK,uG])):gW 312 [(.sl false ((il M).length+1) 1 (jd (iL (2*(iN (val L) (val M) n x)+(ji (val L) n x)) ((il M).length+1)))),(gY (il M))] (bP (decide ((kf (val (iL (2*(iN (val L) (val M) n x)+(ji (val L) n x)) ((il M).length+1))) (val (il M)))<0))))]<|.w ((2*(iN (val L) (val M) n x)+(ji (val L) n x))<val M)
     (λE3=>by
      have nN:kf (val (iL (2*(iN (val L) (val M) n x)+(ji (val L) n x)) ((il M).length+1))) (val (il M))<0:=by rw[Ua,oG];unfold kf;rw[aS E3];decide
      have mF:=RE hB kn E3;have g1:=mF.1;have g2:=mF.2;have Mi:iL (2*(iN (val L) (val M) n x)+(ji (val L) n x)) ((il M).length+1)=iL (iN (val L) (val M) n (x+1)) ((il M).length+1):=by rw[g1]
      have afe:(iL ((kK (val L) (val M) n x)*2^(n-x)) L.length)=(iL ((kK (val L) (val M) n (x+1))*2^(n-(x+1))) L.length):=by
       rw[g2];congr 1;rw[show n-x=n-(x+1)+1 by omega,a6,bc 2,bd,bc 2]
      exact chain [tB 61 (aT nN),.o 29 (.int ae:PV.le (.e (iP ((n:Int)-1-(x:Int)))) (.e (iP (((n-1-x):Nat):Int)))),iu ((((n-1-x):Nat):Int)-1) ae]<|.e (chain [.o 8 (.int aw:PV.le (.e (iP ((((n-1-x):Nat):Int)-1))) (.e (iP ((n:Int)-1-(((x+1):Nat):Int))))),.b 23 (.iS (by rw[Mi]):Bx.le (.row false 150 ((il M).length+1) 1 (jd (iL (2*(iN (val L) (val M) n x)+(ji (val L) n x)) ((il M).length+1)))) (.row false 150 ((il M).length+1) 1 (jd (iL (iN (val L) (val M) n (x+1)) ((il M).length+1))))),.b 19 (.iS (by rw[afe]):Bx.le (.row false 150 L.length 1 (jd (iL ((kK (val L) (val M) n x)*2^(n-x)) L.length))) (.row false 150 L.length 1 (jd (iL ((kK (val L) (val M) n (x+1))*2^(n-(x+1))) L.length))))]<|.nil))
     (λE3=>by
      have nN:¬kf (val (iL (2*(iN (val L) (val M) n x)+(ji (val L) n x)) ((il M).length+1))) (val (il M))<0:=by rw[Ua,oG];unfold kf;rw[aR E3];split<;>decide
      have mF:=RF hB kn E3;have g1:=mF.1;have g2:=mF.2;have Mi:iL ((2*(iN (val L) (val M) n x)+(ji (val L) n x))-val M) ((il M).length+1)=iL (iN (val L) (val M) n (x+1)) ((il M).length+1):=by rw[g1]
      have e3:n-x=(n-1-x)+1:= ae ;have e4:n-(x+1)=(n-1-x):= ae ;have hle:=acC (val L) (val M) n x;rw[e3]at hle;have Fe:=akV (q:=(kK (val L) (val M) n x)) (i:=(n-1-x)) (m:=L.length) IF (bR hle (mh hL));have s2:=Fe.2.1;have s3:=Fe.2.2;have afF:(iL ((kK (val L) (val M) n x)*2^(n-x)) L.length).set ((n-1-x)/32) (iB ((kK (val L) (val M) n x)*2^((n-1-x)+1)) ((n-1-x)/32)+2^((n-1-x)%32))=(iL ((kK (val L) (val M) n (x+1))*2^(n-(x+1))) L.length):=by rw[e3,s3,g2,e4]
      have iI:((((iL ((kK (val L) (val M) n x)*2^(n-x)) L.length).getD ((n-1-x)/32) 0):Nat):Int)=(iB ((kK (val L) (val M) n x)*2^((n-1-x)+1)) ((n-1-x)/32):Int):=by rw[e3,tv IF]
      have tG:bits .or .u32 (iB ((kK (val L) (val M) n x)*2^((n-1-x)+1)) ((n-1-x)/32):Int) (IntKind.u32.wrap (1*2^((n-1-x)%32)))=((iB ((kK (val L) (val M) n x)*2^((n-1-x)+1)) ((n-1-x)/32)+2^((n-1-x)%32):Nat):Int):=by
       refine Exists.elim Fe.1 λt s1=>?_
       rw[s1]at s2 ⊢;exact aib _ _ (bh _ ag) s2
      exact chain [tB 61 (aU nN),.s (Sp.jy (Wy L M n x) 0 ((il M).length+1) ae (λk hk Az=>by
    have ha:=Ym (show val M<=(2*(iN (val L) (val M) n x)+(ji (val L) n x))by omega) k;have hMk:(il M).getD k 0=iB (val M) k:=by rw[pI hM.il,oG]
    have afu:=hM.il;rw[<-hMk]at ha;have b1:=pH (2*(iN (val L) (val M) n x)+(ji (val L) n x)) k;have b2:=afu.getD k;have b3:=tp ((2*(iN (val L) (val M) n x)+(ji (val L) n x))-val M) (val M) k;have b5:=tp ((2*(iN (val L) (val M) n x)+(ji (val L) n x))-val M) (val M) (k+1);have b4:=pH ((2*(iN (val L) (val M) n x)+(ji (val L) n x))-val M) k;have hzz:(((iB (2*(iN (val L) (val M) n x)+(ji (val L) n x)) k+4294967296)-(il M).getD k 0)-(jB ((2*(iN (val L) (val M) n x)+(ji (val L) n x))-val M) (val M) k))%4294967296%4294967296=iB ((2*(iN (val L) (val M) n x)+(ji (val L) n x))-val M) k:= ae ;have hq:1-(((iB (2*(iN (val L) (val M) n x)+(ji (val L) n x)) k+4294967296)-(il M).getD k 0)-(jB ((2*(iN (val L) (val M) n x)+(ji (val L) n x))-val M) (val M) k))/4294967296=(jB ((2*(iN (val L) (val M) n x)+(ji (val L) n x))-val M) (val M) (k+1)):= ae ;have uA:(kJ ((2*(iN (val L) (val M) n x)+(ji (val L) n x))-val M) (2*(iN (val L) (val M) n x)+(ji (val L) n x)) k ((il M).length+1)).set k ((((iB (2*(iN (val L) (val M) n x)+(ji (val L) n x)) k+4294967296)-(il M).getD k 0)-(jB ((2*(iN (val L) (val M) n x)+(ji (val L) n x))-val M) (val M) k))%4294967296%4294967296)=(kJ ((2*(iN (val L) (val M) n x)+(ji (val L) n x))-val M) (2*(iN (val L) (val M) n x)+(ji (val L) n x)) (k+1) ((il M).length+1)):=by rw[hzz,Jn]
    exact iC (chain [tT 65 ((k:Int)<((((il M).length+1):Nat):Int)) ae,iX ((k:Int)) (((il M).length+1)) ae,.a (ae:k<((il M).length+1)),.o 71 (.int (by rw[FF ae]):PV.le (.e (.v (.int .u32 ((((kJ ((2*(iN (val L) (val M) n x)+(ji (val L) n x))-val M) (2*(iN (val L) (val M) n x)+(ji (val L) n x)) k ((il M).length+1)).getD k 0):Nat):Int)))) (.e (.v (.int .u32 (iB (2*(iN (val L) (val M) n x)+(ji (val L) n x)) k:Int))))),.o 72 (.int (pE _ ae):PV.le (.e (.v (.int .u64 (IntKind.u64.wrap (iB (2*(iN (val L) (val M) n x)+(ji (val L) n x)) k:Int))))) (.e (.v (.int .u64 (iB (2*(iN (val L) (val M) n x)+(ji (val L) n x)) k:Int))))),
     pr ((iB (2*(iN (val L) (val M) n x)+(ji (val L) n x)) k:Int)+4294967296) ae,.c (zD _ _ (iD.il af):gW 313 [(gY (il M)),(iP k)] _),
     pr (((((iB (2*(iN (val L) (val M) n x)+(ji (val L) n x)) k)+4294967296):Nat):Int)-((((il M).getD k 0):Nat):Int)) ae,.o 77 (.int ae:PV.le (.e (.v (.int .u64 (((((iB (2*(iN (val L) (val M) n x)+(ji (val L) n x)) k)+4294967296):Nat):Int)-((((il M).getD k 0):Nat):Int))))) (.e (.v (.int .u64 ((((iB (2*(iN (val L) (val M) n x)+(ji (val L) n x)) k+4294967296)-(il M).getD k 0):Nat):Int))))),
     pr (((((iB (2*(iN (val L) (val M) n x)+(ji (val L) n x)) k+4294967296)-(il M).getD k 0):Nat):Int)-(jB ((2*(iN (val L) (val M) n x)+(ji (val L) n x))-val M) (val M) k:Int)) ae,.o 79 (.int ae:PV.le (.e (.v (.int .u64 (((((iB (2*(iN (val L) (val M) n x)+(ji (val L) n x)) k+4294967296)-(il M).getD k 0):Nat):Int)-(jB ((2*(iN (val L) (val M) n x)+(ji (val L) n x))-val M) (val M) k:Int))))) (.e (.v (.int .u64 (((((iB (2*(iN (val L) (val M) n x)+(ji (val L) n x)) k+4294967296)-(il M).getD k 0)-(jB ((2*(iN (val L) (val M) n x)+(ji (val L) n x))-val M) (val M) k)):Nat):Int))))),.o 83 (.int (Eb _ ae):PV.le (.e (.v (.int .u64 (bits .and .u64 (((((iB (2*(iN (val L) (val M) n x)+(ji (val L) n x)) k+4294967296)-(il M).getD k 0)-(jB ((2*(iN (val L) (val M) n x)+(ji (val L) n x))-val M) (val M) k)):Nat):Int) 4294967295)))) (.e (.v (.int .u64 ((((((iB (2*(iN (val L) (val M) n x)+(ji (val L) n x)) k+4294967296)-(il M).getD k 0)-(jB ((2*(iN (val L) (val M) n x)+(ji (val L) n x))-val M) (val M) k))%4294967296):Nat):Int))))),.o 84 (.int (uS _):PV.le (.e (.v (.int .u32 (IntKind.u32.wrap ((((((iB (2*(iN (val L) (val M) n x)+(ji (val L) n x)) k+4294967296)-(il M).getD k 0)-(jB ((2*(iN (val L) (val M) n x)+(ji (val L) n x))-val M) (val M) k))%4294967296):Nat):Int))))) (.e (.v (.int .u32 (((((((iB (2*(iN (val L) (val M) n x)+(ji (val L) n x)) k+4294967296)-(il M).getD k 0)-(jB ((2*(iN (val L) (val M) n x)+(ji (val L) n x))-val M) (val M) k))%4294967296)%4294967296):Nat):Int))))),
     iX ((k:Int)) (((il M).length+1)) ae,.a (ae:k<((il M).length+1)),.a (ae:0<=(32:Int)/\(32:Int)<=((64:Nat):Int)),.o 87 (.int (Cj _):PV.le (.e (.v (.int .u64 ((((((iB (2*(iN (val L) (val M) n x)+(ji (val L) n x)) k+4294967296)-(il M).getD k 0)-(jB ((2*(iN (val L) (val M) n x)+(ji (val L) n x))-val M) (val M) k)):Nat):Int)/2^32)))) (.e (.v (.int .u64 ((((((iB (2*(iN (val L) (val M) n x)+(ji (val L) n x)) k+4294967296)-(il M).getD k 0)-(jB ((2*(iN (val L) (val M) n x)+(ji (val L) n x))-val M) (val M) k))/4294967296):Nat):Int))))),
     pr (1-((((((iB (2*(iN (val L) (val M) n x)+(ji (val L) n x)) k+4294967296)-(il M).getD k 0)-(jB ((2*(iN (val L) (val M) n x)+(ji (val L) n x))-val M) (val M) k))/4294967296):Nat):Int)) ae,.o 88 (.int ae:PV.le (.e (.v (.int .u64 (1-((((((iB (2*(iN (val L) (val M) n x)+(ji (val L) n x)) k+4294967296)-(il M).getD k 0)-(jB ((2*(iN (val L) (val M) n x)+(ji (val L) n x))-val M) (val M) k))/4294967296):Nat):Int))))) (.e (.v (.int .u64 (((1-((((iB (2*(iN (val L) (val M) n x)+(ji (val L) n x)) k+4294967296)-(il M).getD k 0)-(jB ((2*(iN (val L) (val M) n x)+(ji (val L) n x))-val M) (val M) k))/4294967296)):Nat):Int))))),
     iu ((k:Int)+1) ae]<|.e (chain [.o 12 (.int (by rw[hq]):PV.le (.e (.v (.int .u64 (((1-((((iB (2*(iN (val L) (val M) n x)+(ji (val L) n x)) k+4294967296)-(il M).getD k 0)-(jB ((2*(iN (val L) (val M) n x)+(ji (val L) n x))-val M) (val M) k))/4294967296)):Nat):Int)))) (.e (.v (.int .u64 (jB ((2*(iN (val L) (val M) n x)+(ji (val L) n x))-val M) (val M) (k+1):Int))))),.b 23 (DY rfl aI uA:Bx.le (.row false 150 ((il M).length+1) 1 (λi' j'=>if i'=k/\0<=j'/\j'<0+1 then[(.v (.int .u32 (((((((iB (2*(iN (val L) (val M) n x)+(ji (val L) n x)) k+4294967296)-(il M).getD k 0)-(jB ((2*(iN (val L) (val M) n x)+(ji (val L) n x))-val M) (val M) k))%4294967296)%4294967296):Nat):Int)))].getD (j'-0) .any else(jd (kJ ((2*(iN (val L) (val M) n x)+(ji (val L) n x))-val M) (2*(iN (val L) (val M) n x)+(ji (val L) n x)) k ((il M).length+1))) i' j')) (.row false 150 ((il M).length+1) 1 (jd (kJ ((2*(iN (val L) (val M) n x)+(ji (val L) n x))-val M) (2*(iN (val L) (val M) n x)+(ji (val L) n x)) (k+1) ((il M).length+1)))))]<|.nil)) ah)
  (λhk=>by
    exact iC (chain [tF 65 (((((il M).length+1):Nat):Int)<((((il M).length+1):Nat):Int)) ae]<|.e (chain [.b 23 (.iS (by rw[Jm (aV _)]):Bx.le (.row false 150 ((il M).length+1) 1 (jd (kJ ((2*(iN (val L) (val M) n x)+(ji (val L) n x))-val M) (2*(iN (val L) (val M) n x)+(ji (val L) n x)) ((il M).length+1) ((il M).length+1)))) (.row false 150 ((il M).length+1) 1 (jd (iL ((2*(iN (val L) (val M) n x)+(ji (val L) n x))-val M) ((il M).length+1)))))]<|.nil)) ah) ak:jv 17 f277 (Wy L M n x 0) (.exit 4) ⟨106,false,[(8,.e (iP ((n:Int)-1-(x:Int)))),(7,.own 23),(6,.own 19),(1,.e (gY (il M))),(0,.e (gY L))],[(23,.row false 150 ((il M).length+1) 1 (jd (iL ((2*(iN (val L) (val M) n x)+(ji (val L) n x))-val M) ((il M).length+1)))),(19,.row false 150 L.length 1 (jd (iL ((kK (val L) (val M) n x)*2^(n-x)) L.length)))]⟩) (chain [.o 12 (.int (by rw[Hj];rfl):PV.le (.e (.v (.int .u64 0))) (.e (.v (.int .u64 (jB ((2*(iN (val L) (val M) n x)+(ji (val L) n x))-val M) (val M) 0:Int))))),.b 23 (.iS (by rw[FG]):Bx.le (.row false 150 ((il M).length+1) 1 (jd (iL (2*(iN (val L) (val M) n x)+(ji (val L) n x)) ((il M).length+1)))) (.row false 150 ((il M).length+1) 1 (jd (kJ ((2*(iN (val L) (val M) n x)+(ji (val L) n x))-val M) (2*(iN (val L) (val M) n x)+(ji (val L) n x)) 0 ((il M).length+1)))))]<|.nil),.o 90 (.int ae:PV.le (.e (iP ((n:Int)-1-(x:Int)))) (.e (iP (((n-1-x):Nat):Int)))),.a (ae:0<(32:Int)),iu ((((n-1-x):Nat):Int)) ae,.o 93 (.int ae:PV.le (.e (iP ((n:Int)-1-(x:Int)))) (.e (iP (((n-1-x):Nat):Int)))),.a (ae:0<(32:Int)),iu ((((n-1-x):Nat):Int)) ae,
       iX (((((n-1-x)/32):Nat):Int)) (L.length) ae,.a (ae:((n-1-x)/32)<L.length),.o 96 (.int iI:PV.le (.e (.v (.int .u32 ((((iL ((kK (val L) (val M) n x)*2^(n-x)) L.length).getD ((n-1-x)/32) 0):Nat):Int)))) (.e (.v (.int .u32 (iB ((kK (val L) (val M) n x)*2^((n-1-x)+1)) ((n-1-x)/32):Int))))),.o 97 (.int ae:PV.le (.e (iP ((n:Int)-1-(x:Int)))) (.e (iP (((n-1-x):Nat):Int)))),.a (ae:0<(32:Int)),.a (ae:0<=(((((n-1-x)%32):Nat):Int):Int)/\(((((n-1-x)%32):Nat):Int):Int)<=((32:Nat):Int)),.o 100 (.int tG:PV.le (.e (.v (.int .u32 (bits .or .u32 (iB ((kK (val L) (val M) n x)*2^((n-1-x)+1)) ((n-1-x)/32):Int) (IntKind.u32.wrap (1*2^((n-1-x)%32))))))) (.e (.v (.int .u32 (((iB ((kK (val L) (val M) n x)*2^((n-1-x)+1)) ((n-1-x)/32)+2^((n-1-x)%32)):Nat):Int))))),
       iX (((((n-1-x)/32):Nat):Int)) (L.length) ae,.a (ae:((n-1-x)/32)<L.length),.o 29 (.int ae:PV.le (.e (iP ((n:Int)-1-(x:Int)))) (.e (iP (((n-1-x):Nat):Int)))),
       iu ((((n-1-x):Nat):Int)-1) ae]<|.e (chain [.o 8 (.int aw:PV.le (.e (iP ((((n-1-x):Nat):Int)-1))) (.e (iP ((n:Int)-1-(((x+1):Nat):Int))))),.b 23 (.iS (by rw[Mi]):Bx.le (.row false 150 ((il M).length+1) 1 (jd (iL ((2*(iN (val L) (val M) n x)+(ji (val L) n x))-val M) ((il M).length+1)))) (.row false 150 ((il M).length+1) 1 (jd (iL (iN (val L) (val M) n (x+1)) ((il M).length+1))))),.b 19 (DY rfl (by rw[mK];omega) afF:Bx.le (.row false 150 L.length 1 (λi' j'=>if i'=((n-1-x)/32)/\0<=j'/\j'<0+1 then[(.v (.int .u32 (((iB ((kK (val L) (val M) n x)*2^((n-1-x)+1)) ((n-1-x)/32)+2^((n-1-x)%32)):Nat):Int)))].getD (j'-0) .any else(jd (iL ((kK (val L) (val M) n x)*2^(n-x)) L.length)) i' j')) (.row false 150 L.length 1 (jd (iL ((kK (val L) (val M) n (x+1))*2^(n-(x+1))) L.length))))]<|.nil))) ah)
  (λhx=>by
    exact iC (chain [tF 28 (0<=((n:Int)-1-(n:Int))) ae,.z 19,.z 23]<|.e (chain [.o 7 (.e (zL (mK _ _).symm):PV.le (.e (.sl false ((il M).length+1) 1 (jd (iL (iN (val L) (val M) n n) ((il M).length+1))))) (.e (gY (iL (iN (val L) (val M) n n) ((il M).length+1))))),.o 6 (.e (zL (mK _ _).symm):PV.le (.e (.sl false L.length 1 (jd (iL ((kK (val L) (val M) n n)*2^(n-n)) L.length)))) (.e (gY (iL ((kK (val L) (val M) n n)*2^(n-n)) L.length))))]<|.nil)) ah) ak:jv 5 f277 (Wz L M n 0) (.exit 0) ⟨106,false,[(7,.e (gY (iL (iN (val L) (val M) n n) ((il M).length+1)))),(6,.e (gY (iL ((kK (val L) (val M) n n)*2^(n-n)) L.length)))],[]⟩) (chain [.o 8 (.int aw:PV.le (.e (iP ((n:Int)-1))) (.e (iP ((n:Int)-1-((0:Nat):Int))))),.b 23 (Gn rfl (λi=>by rw[Ir.1,Hs]):Bx.le (.row false 150 ((il M).length+1) 1 (λ_ j_=>[(.v (.int .u32 0))].getD j_ .any)) (.row false 150 ((il M).length+1) 1 (jd (iL (iN (val L) (val M) n 0) ((il M).length+1))))),.b 19 (Gn rfl (λi=>by rw[Ir.2,cr,Hs]):Bx.le (.row false 150 L.length 1 (λ_ j_=>[(.v (.int .u32 0))].getD j_ .any)) (.row false 150 L.length 1 (jd (iL ((kK (val L) (val M) n 0)*2^(n-0)) L.length))))]<|.nil),.cf (xZ _ (sj _ _) ay:wh 311 [(gY (iL ((kK (val L) (val M) n n)*2^(n-n)) L.length))] _),.cf (xZ _ (sj _ _) ay:wh 311 [(gY (iL (iN (val L) (val M) n n) ((il M).length+1)))] _)]<|rQ (.ix [(gY (il (iL ((kK (val L) (val M) n n)*2^(n-n)) L.length))),(gY (il (iL (iN (val L) (val M) n n) ((il M).length+1))))]) (.ix [gY (gV (val L/val M)),gY (gV (val L%val M))]) (by rw[he.1,he.2,Cq f1,Cq f2,cU,bO,bQ])) ah 
theorem aiX(m:Nat)(h:(gV m).length<=10000):gW 311 [gY (gV m)] (gY (gV m)):=by
 have:=(xZ (gV m) (kE m) ae).pc;rwa[show il (gV m)=gV m from tX m]at this
theorem DO(m:Nat)(h:(gV m).length<=10000):gW 276 [gY (gV m)] (iP (ie m)):=by
 have:=Ws (gV m) (kE m) ae;rwa[jC]at this
theorem aiL(m n:Nat)(h:(gV m).length<=10000)(k:(gV n).length<=10000):gW 315 [gY (gV m),gY (gV n)] (iP (kf m n)):=by
 have:=Ww (gV m) (gV n) (kE m) (kE n) ae ae;rwa[jC,jC]at this
theorem Oi(m n:Nat)(h:(gV m).length<=10000)(k:(gV n).length<=10000):gW 316 [gY (gV m),gY (gV n)] (gY (gV (m+n))):=by
 have:=aiI (gV m) (gV n) (kE m) (kE n) ae ae;rwa[jC,jC]at this
theorem aiV(m n:Nat)(h:(gV m).length<=10000)(k:n<=m):gW 359 [gY (gV m),gY (gV n)] (gY (gV (m-n))):=by
 have:=aiW (gV m) (gV n) (kE m) (kE n) ae (by rw[jC,jC];exact k);rwa[jC,jC]at this
theorem Oj(m n:Nat)(h:(gV m).length<=10000)(k:n<=1000000):gW 278 [gY (gV m),iP (n:Int)] (gY (gV (m*2^n))):=by
 have:=aiS (gV m) n (kE m) ae ae;rwa[jC]at this
theorem aiT(m n:Nat)(h:(gV m).length<=10000)(k:n<=1000000):gW 314 [gY (gV m),iP (n:Int)] (gY (gV (m/2^n))):=by
 have:=aiU (gV m) n (kE m) ae ae;rwa[jC]at this
theorem aiP(m n:Nat)(h:(gV m).length<=10000)(k:(gV n).length<=10000)(h0:0<n):gW 277 [gY (gV m),gY (gV n)] (.ix [gY (gV (m/n)),gY (gV (m%n))]):=by
 have:=aiQ (gV m) (gV n) _ (kE m) (kE n) ae ae (by rw[jC];exact h0) rfl;rwa[jC,jC]at this
theorem ai8(neg:Bool)(p:Nat)(im:8<=p)(ia:p<=512):gW 317 [(bP neg),(iP p)] (gZ (canon neg (2^p-1) (16384-(p:Int)))):=by
 have g0:ie (1*2^p)=p+1:=by rw[bK];exact u4 (aV _) (ez ag ae)
 have g1:(gV 1).length<=256:=ns ag;have g2:(gV (1*2^p)).length<=256:=ns ae;have g4:1<=1*2^p:=by rw[bK];exact aZ ag 
 have g3:(gV ((1*2^p)-1)).length<=256:=ns (by have:=tk (dm (1*2^p) 1);omega);exact tr true call317 func317 (chain [.o 6 (.e r9:PV.le (.e (.sl false 1 1 λi_ j_=>[(.v (.int .u32 1))].getD (i_*1+j_) (.v (.bool false)))) (.e (gY (gV 1)))),.c (Oj _ _ ae ae:gW 278 [(gY (gV 1)),(iP p)] _),.o 9 (.e r9:PV.le (.e (.sl false 1 1 λi_ j_=>[(.v (.int .u32 1))].getD (i_*1+j_) (.v (.bool false)))) (.e (gY (gV 1)))),.c (aiV _ _ ae af:gW 359 [(gY (gV (1*2^p))),(gY (gV 1))] _),iu (16384-(p:Int)) ae,.c (DU _ _ _ ae ae ae:gW 186 [(bP neg),(gY (gV ((1*2^p)-1))),(iP (16384-(p:Int)))] _)]<|rQ (gZ (canon neg ((1*2^p)-1) (16384-(p:Int)))) (gZ (canon neg (2^p-1) (16384-(p:Int)))) (by rw[bK])) ah 
noncomputable def AU(neg:Bool)(m:Nat)(e:Int)(more:Bool)(p:Nat)(up:Bool)(h1:(gV m).length<=2900)(kT:-200000<=e)(kA:e<=200000)(im:8<=p)(ia:p<=512)(Q:Nat)(U:Bool)(hq:kH m e more p (neg != up)=Q)(hU:U=(neg != up))(hl:(gV Q).length<=2901):Tr prog Tb:=by
 have hb:=wq h1;have oz:jc m e p<=1000000:=by unfold jc;omega
 have sV:(jc m e p:Int)<=max (ie m:Int) (-16384-e):=by unfold jc;omega
 have g4:=wq hl;exact chain [.c (DO _ ae:gW 276 [(gY (gV Q))] _)]<|.w (0<(ie Q:Int))
  (λk1=>chain [tB 53 (aT k1),.c (DO _ ae:gW 276 [(gY (gV Q))] _),iu ((ie Q:Int)+e) ae,iu (((ie Q:Int)+e)+(jc m e p:Int)) ae]<|.w (16384<(((ie Q:Int)+e)+(jc m e p:Int)))
   (λk2=>chain [tB 61 (aT k2)]<|.w (U=true)
    (λk3=>chain [tB 63 (k3),.o 64 (.e wa:PV.le (.e (.agg [(bP false),(.v (.slice none 0 0)),(iP 0)])) (.e (gZ jA)))]<|rR (.ix [gZ (jR neg m e more p up),iP (jH neg m e more p up)]) (by
      have h0:Q≠0:=by intro h;rw[h]at k1;exact absurd k1 ag 
      obtain⟨g1,g2⟩:=(Rk (e:=e) hq h0 ae).1 (by rw[<-hU];simp[k3]);exact .iS (by rw[g1,g2]):E.le (.ix [(gZ jA),(iP 9)]) (.ix [gZ (jR neg m e more p up),iP (jH neg m e more p up)])))
    (λk3=>chain [tB 63 (aO k3),.c (ai8 _ _ ae ae:gW 317 [(bP neg),(iP p)] _)]<|rR (.ix [gZ (jR neg m e more p up),iP (jH neg m e more p up)]) (by
      have h0:Q≠0:=by intro h;rw[h]at k1;exact absurd k1 ag 
      obtain⟨g1,g2⟩:=(Rk (e:=e) hq h0 ae).2 (by rw[<-hU];simp[k3]);exact .iS (by rw[g1,g2]):E.le (.ix [(gZ (canon neg (2^p-1) (16384-(p:Int)))),(iP 0)]) (.ix [gZ (jR neg m e more p up),iP (jH neg m e more p up)]))))
   (λk2=>chain [tB 61 (aU k2),iu (e+(jc m e p:Int)) ae,.c (DU _ _ _ ae ae ae:gW 186 [(bP neg),(gY (gV Q)),(iP (e+(jc m e p:Int)))] _)]<|rR (.ix [gZ (jR neg m e more p up),iP (jH neg m e more p up)]) (by
      obtain⟨g1,g2⟩:=Ri (e:=e) hq (.inr ae);exact .iS (by rw[g1,g2]):E.le (.ix [(gZ (canon neg Q (e+(jc m e p:Int)))),(iP 0)]) (.ix [gZ (jR neg m e more p up),iP (jH neg m e more p up)]))))
  (λk1=>chain [tB 53 (aU k1),iu (e+(jc m e p:Int)) ae,.c (DU _ _ _ ae ae ae:gW 186 [(bP neg),(gY (gV Q)),(iP (e+(jc m e p:Int)))] _)]<|rR (.ix [gZ (jR neg m e more p up),iP (jH neg m e more p up)]) (by
      have h0:Q=0:=by
       apply bG;intro h;have:=mY h;omega
      obtain⟨g1,g2⟩:=Ri (e:=e) hq (.inl h0);exact .iS (by rw[g1,g2]):E.le (.ix [(gZ (canon neg Q (e+(jc m e p:Int)))),(iP 0)]) (.ix [gZ (jR neg m e more p up),iP (jH neg m e more p up)])))
theorem WL(neg:Bool)(m:Nat)(e:Int)(more:Bool)(p:Nat)(up:Bool)(h1:(gV m).length<=2900)(kT:-200000<=e)(kA:e<=200000)(im:8<=p)(ia:p<=512):gW 279 [(bP neg),(gY (gV m)),(iP e),(bP more),(iP p),(bP up)] (.ix [gZ (jR neg m e more p up),iP (jH neg m e more p up)]):=by
 have hb:=wq h1;have oz:jc m e p<=1000000:=by unfold jc;omega
 have sV:(jc m e p:Int)<=max (ie m:Int) (-16384-e):=by unfold jc;omega
 have g1:=me (bD m (2^jc m e p));have g2:=me (cO m (2^jc m e p));have l1:(gV 1).length<=256:=ns ag;have g3:(gV ((m/2^jc m e p)+1)).length<=2901:=U2 ae ae;have g5:=wq (m:=m/2^jc m e p) (aY g1 h1);exact tr true call279 func279 (chain [.c (aiX _ ae:gW 311 [(gY (gV m))] _),.c (DO _ ae:gW 276 [(gY (gV m))] _),iu ((ie m:Int)-p) ae,iu ((-16384)-e) ae,.o 27 (.int (by unfold jc;(repeat' split)<;>omega):PV.le (.e (iP (if 0>(if((-16384)-e)>((ie m:Int)-p)then((-16384)-e)else((ie m:Int)-p))then 0 else(if((-16384)-e)>((ie m:Int)-p)then((-16384)-e)else((ie m:Int)-p))))) (.e (iP (jc m e p:Int)))),.c (aiT _ _ ae ae:gW 314 [(gY (gV m)),(iP (jc m e p:Int))] _)]<|.w (0<(jc m e p:Int))
  (λk1=>chain [tB 32 (aT k1),.c (Oj _ _ ae ae:gW 278 [(gY (gV (m/2^(jc m e p)))),(iP (jc m e p:Int))] _),.c (aiL _ _ ae ae:gW 315 [(gY (gV ((m/2^(jc m e p))*2^(jc m e p)))),(gY (gV m))] _)]<|.w ((kf ((m/2^(jc m e p))*2^(jc m e p)) m)=0)
   (λk2=>by
    have iI:m%2^(jc m e p)=0:=(Vf _ _).1 k2;exact chain [tB 39 (aP k2)]<|.w (more=true)
     (λk3=>.w (neg=up)
      (λk4=>chain [tB 43 (u7 (aM k4)),tB 44 (k3)]<|AU neg m e more p up h1 kT kA im ia (m/2^(jc m e p)) false (by unfold kH;simp[k3,k4,iI]) (by first|rfl|simp[k3,k4,iI]) ae)
      (λk4=>chain [tB 43 (u6 (aK k4)),tB 44 (k3),.o 49 (.e r9:PV.le (.e (.sl false 1 1 λi_ j_=>[(.v (.int .u32 1))].getD (i_*1+j_) (.v (.bool false)))) (.e (gY (gV 1)))),.c (Oi _ _ ae ae:gW 316 [(gY (gV (m/2^(jc m e p)))),(gY (gV 1))] _)]<|AU neg m e more p up h1 kT kA im ia ((m/2^(jc m e p))+1) true (by unfold kH;simp[k3,k4,iI]) (by first|rfl|simp[k3,k4,iI]) ae))
     (λk3=>chain [tB 44 (aO k3)]<|AU neg m e more p up h1 kT kA im ia (m/2^(jc m e p)) (!(neg==up)) (by unfold kH;simp[k3,iI]) (by first|rfl|simp[k3,iI]) ae))
   (λk2=>by
    have iI:m%2^(jc m e p)≠0:=λh=>k2 ((Vf _ _).2 h)
    exact chain [tB 39 (aQ k2)]<|.w (neg=up)
     (λk3=>chain [tB 43 (u7 (aM k3))]<|AU neg m e more p up h1 kT kA im ia (m/2^(jc m e p)) false (by unfold kH;simp[k3,iI]) (by first|rfl|simp[k3,iI]) ae)
     (λk3=>chain [tB 43 (u6 (aK k3)),.o 49 (.e r9:PV.le (.e (.sl false 1 1 λi_ j_=>[(.v (.int .u32 1))].getD (i_*1+j_) (.v (.bool false)))) (.e (gY (gV 1)))),.c (Oi _ _ ae ae:gW 316 [(gY (gV (m/2^(jc m e p)))),(gY (gV 1))] _)]<|AU neg m e more p up h1 kT kA im ia ((m/2^(jc m e p))+1) true (by unfold kH;simp[k3,iI]) (by first|rfl|simp[k3,iI]) ae)))
  (λk1=>by
   have iI:m%2^(jc m e p)=0:=by rw[show(jc m e p)=0 by omega,bO,cI]
   exact chain [tB 32 (aU k1)]<|.w (more=true)
    (λk2=>.w (neg=up)
     (λk3=>chain [tB 43 (u7 (aM k3)),tB 44 (k2)]<|AU neg m e more p up h1 kT kA im ia (m/2^(jc m e p)) false (by unfold kH;simp[k2,k3,iI]) (by first|rfl|simp[k2,k3,iI]) ae)
     (λk3=>chain [tB 43 (u6 (aK k3)),tB 44 (k2),.o 49 (.e r9:PV.le (.e (.sl false 1 1 λi_ j_=>[(.v (.int .u32 1))].getD (i_*1+j_) (.v (.bool false)))) (.e (gY (gV 1)))),.c (Oi _ _ ae ae:gW 316 [(gY (gV (m/2^(jc m e p)))),(gY (gV 1))] _)]<|AU neg m e more p up h1 kT kA im ia ((m/2^(jc m e p))+1) true (by unfold kH;simp[k2,k3,iI]) (by first|rfl|simp[k2,k3,iI]) ae))
    (λk2=>chain [tB 44 (aO k2)]<|AU neg m e more p up h1 kT kA im ia (m/2^(jc m e p)) (!(neg==up)) (by unfold kH;simp[k2,iI]) (by first|rfl|simp[k2,iI]) ae))) ah 
end Go.Proofs.YtkjkcjhacddojaaGreatDoor
namespace Go.Proofs.YtkjkcjhacddojaaGreatDoor.Fp
theorem QR{s:Bool}{m:Nat}{e:Int}(hm:ie m<=60000)(kT:-60000<=e)(kA:e<=60000):(gV (canon s m e).m).length<=2900 /\ -200000<=(canon s m e).e/\(canon s m e).e<=200000:=by
 by_cases h0:m=0
 .subst h0;rw[CG];exact⟨by rw[show jA.m=0 from rfl,na];decide,ag,ag⟩
 .obtain ⟨h1,h2,h3,h4⟩:=Bj (s:=s) (e:=e) h0
  have h5:=mY h3;exact⟨FB ae,ae,ae⟩
theorem aiq{a b:Dy}(ha:a.ic)(hb:b.ic):(gV (kO a b).m).length<=2900 /\ -200000<=(kO a b).e/\(kO a b).e<=200000:=by
 have h1:=ha.bits;have h2:=hb.bits;have h3:=ha.exp;have h4:=hb.exp;have h5:ie (a.m*b.m)<=ie a.m+ie b.m:=by
  rw[kR,aX];exact gp (oY a.m) (oY b.m)
 exact QR ae ae ae 
theorem V0{a:Dy}{k:Int}(h:k<=a.e):ie (a.num k).natAbs<=ie a.m+(a.e-k).toNat:=by
 have e:(a.num k).natAbs=a.m*2^(a.e-k).toNat:=by
  unfold Dy.num Dy.jS;split
  .rw [fg];exact dC _
  .exact dC _
 rw[e];by_cases h0:a.m=0
 .rw [h0,cr];exact bN _
 .rw [qt h0];exact aV _
theorem alE{a b:Dy}(ha:a.ic)(hb:b.ic):(gV (iJ a b).m).length<=2900 /\ -200000<=(iJ a b).e/\(iJ a b).e<=200000:=by
 have h1:=ha.bits;have h2:=hb.bits;have h3:=ha.exp;have h4:=hb.exp;have la:=ha.len;have lb:=hb.len;unfold iJ;split
 .exact ⟨ae,ae,ae⟩
 .split
  .exact ⟨ae,ae,ae⟩
  .have g1:=V0 (a:=a) (k:=min a.e b.e) ae 
   have g2:=V0 (a:=b) (k:=min a.e b.e) ae;refine QR ?_ ae ae;obtain⟨K,hK⟩:∃ K,K=40000:=⟨_,rfl⟩
   have g3:=kR.1 (aY g1 (show ie a.m+(a.e-min a.e b.e).toNat<=K by omega));have g4:=kR.1 (aY g2 (show ie b.m+(b.e-min a.e b.e).toNat<=K by omega));refine aY ((kR (k:=K+1)).2 ?_) (show K+1<=60000 by omega);have g5:(a.num (min a.e b.e)+b.num (min a.e b.e)).natAbs<=(a.num (min a.e b.e)).natAbs+(b.num (min a.e b.e)).natAbs:=Int.natAbs_add_le _ _;rw[a6];generalize 2^K=P at *
   omega
theorem Rb{a b:Dy}(ha:a.ic)(hb:b.ic)(h:jo a b=0):a=b:=by
 have h1:nS a (min a.e b.e):=.inr ae;have h2:nS b (min a.e b.e):=.inr ae;rw[CI h1 h2]at h;refine Ln ha.canon hb.canon h1 h2 ?_;unfold wC at h;split at h
 .omega
 .split at h<;>omega
theorem Jl{a b c:Dy}(ha:a.ic)(hb:b.ic)(hc:c.ic)(h1:jo a c<=0)(h2:jo b c<=0)(h3:c=a\/c=b):iR a b=c:=by
 unfold iR;rcases h3 with rfl|rfl
 .rw [aR ae]
 .split
  .rfl
  .rename_i h
   have:=xv a c;exact Rb ha hc ae 
theorem Vr{a b c:Dy}(ha:a.ic)(hb:b.ic)(hc:c.ic)(h1:jo c a<=0)(h2:jo c b<=0)(h3:c=a\/c=b):iU a b=c:=by
 unfold iU;rcases h3 with rfl|rfl
 .have:=xv c b
  rw[aR ae]
 .split
  .rfl
  .rename_i h
   have:=xv a c;exact Rb ha hc ae 
theorem Js(d:Dy)(k:Int):(lh d).num k=((d.num k).natAbs:Int):=by
 unfold Dy.num Dy.jS lh;cases d.neg
 .simp;exact(dC (d.m*2^(d.e-k).toNat)).symm▸by simp
 .simp only[bq,a7,bn];rw[fg,dC]
theorem PN{d:Dy}(hd:d.kN){k:Int}(h:0<=d.num k):lh d=d:=by
 rcases hd with⟨h1,h2,h3⟩|h1
 .unfold lh;rw[<-h2]
 .cases hn:d.neg with
  |false=>unfold lh;rw[<-hn]
  |true=>
   have:0<d.jS k:=vI ae k;unfold Dy.num at h;rw[hn,aS rfl]at h;omega
theorem PO{d:Dy}(hd:d.kN){k:Int}(h:d.num k<=0):lh d=iF d:=by
 rcases hd with⟨h1,h2,h3⟩|h1
 .unfold lh iF;rw[h1,h2];simp
 .cases hn:d.neg with
  |true=>unfold lh iF;rw[hn];simp
  |false=>
   have:0<d.jS k:=vI ae k;unfold Dy.num at h;rw[hn,aR ag]at h;omega
theorem ahe{x:Iv}(h1:x.lo.ic)(h2:x.hi.ic)(h3:jo x.lo x.hi<=0):mD x=iR (iF x.lo) x.hi:=by
 obtain⟨k,ka,kb⟩:∃ k:Int,k<=x.lo.e/\k<=x.hi.e:=⟨min x.lo.e x.hi.e,ae,ae⟩
 have aL:nS x.lo k:=.inr ka;have aH:nS x.hi k:=.inr kb;have aN:nS (iF x.lo) k:=Eg aL;have aA:nS (lh x.lo) k:=aL;have aB:nS (lh x.hi) k:=aH;have hle:=(oB aL aH).1 h3;have n1:=FU (d:=x.lo) k;have n2:=Js x.lo k;have n3:=Js x.hi k;unfold mD;by_cases hc:0<jo x.hi (iF x.lo)
 .have e:iR (iF x.lo) x.hi=x.hi:=by unfold iR;rw[aS hc]
  have C9:¬x.hi.num k<=(iF x.lo).num k:=λh=>by have:=(oB aH aN).2 h;omega
  rw[e];exact Jl (rM h1) (rM h2) h2 ((oB aA aH).2 ae) ((oB aB aH).2 ae) (.inr (PN h2.canon (k:=k) ae).symm)
 .have e:iR (iF x.lo) x.hi=iF x.lo:=by unfold iR;rw[aR hc]
  have pX:x.hi.num k<=(iF x.lo).num k:=(oB aH aN).1 ae;rw[e];exact Jl (rM h1) (rM h2) (qA h1) ((oB aA aN).2 ae) ((oB aB aN).2 ae) (.inl (PO h1.canon (k:=k) ae).symm)
theorem X7{d:Dy}(k:Int):(0<d.iK↔0<d.num k)/\(d.iK<0↔d.num k<0):=by
 obtain⟨h1,h2,h3⟩:=NN (d:=d) k;rcases Ck d with⟨_,h⟩|⟨_,_,h⟩|⟨_,_,h⟩
 .have:=h1 h;rw[h];omega
 .have:=h2 h;rw[h];omega
 .have:=h3 h;rw[h];omega
theorem ahi{x:Iv}(ha:x.all=false)(h1:x.lo.ic)(h2:x.hi.ic)(h3:jo x.lo x.hi<=0):nu x=if lK x=0 then jA else iR x.lo (iF x.hi):=by
 unfold nu;by_cases hs:lK x=0
 .rw [aS hs,aS hs]
 .rw [aR hs,aR hs]
  obtain⟨k,ka,kb⟩:∃ k:Int,k<=x.lo.e/\k<=x.hi.e:=⟨min x.lo.e x.hi.e,ae,ae⟩
  have aL:nS x.lo k:=.inr ka;have aH:nS x.hi k:=.inr kb;have aN:nS (iF x.hi) k:=Eg aH;have aA:nS (lh x.lo) k:=aL;have aB:nS (lh x.hi) k:=aH;have hle:=(oB aL aH).1 h3;have n1:=FU (d:=x.hi) k;have n2:=Js x.lo k;have n3:=Js x.hi k;have sL:=X7 (d:=x.lo) k;have sH:=X7 (d:=x.hi) k;by_cases hp:0<x.lo.iK
  .have TU:=sL.1.1 hp
   have e1:=PN h1.canon (k:=k) ae;rw[Vr (rM h1) (rM h2) h1 ((oB aL aA).2 ae) ((oB aL aB).2 ae) (.inl e1.symm)];exact(Jl h1 (qA h2) h1 (zg _) ((oB aN aL).2 ae) (.inl rfl)).symm
  .have hn:x.hi.iK<0:=by
    apply bG;intro hn;unfold lK at hs;rw[ha,aR ag,aR hp,aR hn]at hs;exact hs rfl
   have wT:=sH.2.1 hn;have e1:=PO h2.canon (k:=k) ae;rw[Vr (rM h1) (rM h2) (qA h2) ((oB aN aA).2 ae) ((oB aN aB).2 ae) (.inr e1.symm)];exact(Jl h1 (qA h2) (qA h2) ((oB aL aN).2 ae) (zg _) (.inr rfl)).symm
theorem oK{a b:Dy}{p:Nat}{up:Bool}(hp:1<=p)(ia:p<=4096):(kx a b p up).ic:=by
 unfold kx;split
 .exact rI
 .exact mu _ _ _ _ _ _ hp ia
theorem Vt(a:Dy):iU a a=a:=by unfold iU;split<;>rfl
theorem Vq(a:Dy):iR a a=a:=by unfold iR;split<;>rfl
end Go.Proofs.YtkjkcjhacddojaaGreatDoor.Fp
namespace Go.Proofs.YtkjkcjhacddojaaGreatDoor
open Go.RowKit Fp Pu
theorem Om(d:Dy)(p:Nat)(up:Bool)(h1:(gV d.m).length<=2900)(kT:-200000<=d.e)(kA:d.e<=200000)(im:8<=p)(ia:p<=512):gW 230 [(gZ d),(iP p),(bP up)] (.ix [gZ (jh d p up),iP (jx d p up)]):=
 tr true call230 func230 (chain [.c (WL d.neg d.m d.e false p up ae ae ae ae ae)]<|.nil) ah 
theorem Ga(a b:Dy)(p:Nat)(ha:a.ic)(hb:b.ic)(im:8<=p)(ia:p<=512):gW 229 [(gZ a),(gZ b),(iP p)] (iP 0):=
 tr true call229 func229 (chain [.c (zF _ af:gW 96 [(gZ a)] _),.c (zF _ af:gW 96 [(gZ b)] _),.c (Oz _:gW 135 [(iP p)] _),tB 16 (pn.2 ⟨ae,ae⟩:(lE (p:Int))=true)]<|.nil) ah 
theorem WK(a b:Dy)(p:Nat)(up:Bool)(ha:a.ic)(hb:b.ic)(im:8<=p)(ia:p<=512):gW 154 [(gZ a),(gZ b),(iP p),(bP up)] (.ix [gZ (jh (iJ a b) p up),iP (jx (iJ a b) p up)]):=by
 have hx:=alE ha hb;exact tr true call154 func154 (chain [.c (Ga _ _ _ af af ae ae:gW 229 [(gZ a),(gZ b),(iP p)] _),tB 16 (ag:((0:Int) != 0)=false),.c (Xv a b (Fp.Dy.ic.rE af) (Fp.Dy.ic.rE af)),.c (Om _ _ _ hx.1 hx.2.1 hx.2.2 ae ae:gW 230 [(gZ (iJ a b)),(iP p),(bP up)] _)]<|.nil) ah 
theorem vU(a b:Dy)(p:Nat)(up:Bool)(ha:a.ic)(hb:b.ic)(im:8<=p)(ia:p<=512):gW 194 [(gZ a),(gZ b),(iP p),(bP up)] (.ix [gZ (jh (kO a b) p up),iP (jx (kO a b) p up)]):=by
 have hx:=aiq ha hb;exact tr true call194 func194 (chain [.c (Ga _ _ _ af af ae ae:gW 229 [(gZ a),(gZ b),(iP p)] _),tB 16 (ag:((0:Int) != 0)=false),.c (aj0 _ _ (Fp.Dy.ic.rE af) (Fp.Dy.ic.rE af):gW 265 [(gZ a),(gZ b)] _),.c (Om _ _ _ hx.1 hx.2.1 hx.2.2 ae ae:gW 230 [(gZ (kO a b)),(iP p),(bP up)] _)]<|.nil) ah 
theorem AV(a b:Dy)(p:Nat)(up:Bool)(ha:a.ic)(hb:b.ic)(b0:b.m≠0)(im:8<=p)(ia:p<=512):gW 225 [(gZ a),(gZ b),(iP p),(bP up)] (.ix [gZ (kx a b p up),iP (nm a b p up)]):=by
 by_cases a0:a.m=0
 .have e1:kx a b p up=jA/\nm a b p up=0:=by unfold kx nm;rw[aS a0,aS a0];exact⟨rfl,rfl⟩
  exact tr true call225 func225 (chain [.c (Ga _ _ _ af af ae ae:gW 229 [(gZ a),(gZ b),(iP p)] _),tB 19 (ag:((0:Int) != 0)=false),tB 25 (nv (pU b0):(((gV b.m).length:Int)==0)=false),tB 30 (r7 (qZ.2 a0):(((gV a.m).length:Int)==0)=true),.o 31 (.e wa:PV.le (.e (.agg [(bP false),(.v (.slice none 0 0)),(iP 0)])) (.e (gZ jA)))]<|rQ (.ix [(gZ jA),(iP 0)]) (.ix [gZ (kx a b p up),iP (nm a b p up)]) (by rw[e1.1,e1.2])) ah 
 .have va:=ha.gV
  have vb:=hb.gV;have xa:=ha.exp;have xb:=hb.exp;have ra:=ha.range.resolve_left a0;have rb:=hb.range.resolve_left b0;have pa:=mY a0;have pb:=mY b0;have hK:kq a b p 2=p+2+ie b.m-ie a.m:=rfl;have bs:=qt a0 (kq a b p 2);have z1:(gV (a.m*2^kq a b p 2)).length<=2900:=ns ae;have z2:(gV (a.m*2^kq a b p 2/b.m)).length<=2900:=ns (by have:=tk (bD (a.m*2^kq a b p 2) b.m);omega);have z3:(gV (a.m*2^kq a b p 2%b.m)).length<=2900:=ns (by have:=tk (cX (bh (a.m*2^kq a b p 2) (dE b0)));omega);have jK:decide (0<(ie (a.m*2^kq a b p 2%b.m):Int))=decide (a.m*2^kq a b p 2%b.m≠0):=by
   by_cases h:a.m*2^kq a b p 2%b.m=0
   .rw [h,q8];rfl
   .have:=mY h
    rw[aT h,aT ae]
  exact tr true call225 func225 (chain [.c (Ga _ _ _ af af ae ae:gW 229 [(gZ a),(gZ b),(iP p)] _),tB 19 (ag:((0:Int) != 0)=false),tB 25 (nv (pU b0):(((gV b.m).length:Int)==0)=false),tB 30 (nv (pU a0):(((gV a.m).length:Int)==0)=false),iu ((p:Int)+2) ae,.c (DO _ ae:gW 276 [(gY (gV b.m))] _),iu (((p:Int)+2)+(ie b.m:Int)) ae,.c (DO _ ae:gW 276 [(gY (gV a.m))] _),
   iu ((((p:Int)+2)+(ie b.m:Int))-(ie a.m:Int)) ae,.o 42 (.int au:PV.le (.e (iP (if((((p:Int)+2)+(ie b.m:Int))-(ie a.m:Int))>0 then((((p:Int)+2)+(ie b.m:Int))-(ie a.m:Int))else 0))) (.e (iP (kq a b p 2:Int)))),.c (Oj _ _ ae ae:gW 278 [(gY (gV a.m)),(iP (kq a b p 2:Int))] _),.c (aiP _ _ ae ae ae:gW 277 [(gY (gV (a.m*2^(kq a b p 2)))),(gY (gV b.m))] _),
   iu (a.e-b.e) ae,iu ((a.e-b.e)-(kq a b p 2:Int)) ae,.c (DO _ ae:gW 276 [(gY (gV ((a.m*2^(kq a b p 2))%b.m)))] _),.c (WL (! (a.neg==b.neg)) ((a.m*2^(kq a b p 2))/b.m) ((a.e-b.e)-(kq a b p 2:Int)) (decide (0<(ie ((a.m*2^(kq a b p 2))%b.m):Int))) p up ae ae ae ae ae)]<|rQ (.ix [(gZ (jR (!(a.neg==b.neg)) ((a.m*2^(kq a b p 2))/b.m) ((a.e-b.e)-(kq a b p 2:Int)) (decide (0<(ie ((a.m*2^(kq a b p 2))%b.m):Int))) p up)),(iP (jH (!(a.neg==b.neg)) ((a.m*2^(kq a b p 2))/b.m) ((a.e-b.e)-(kq a b p 2:Int)) (decide (0<(ie ((a.m*2^(kq a b p 2))%b.m):Int))) p up))]) (.ix [gZ (kx a b p up),iP (nm a b p up)]) (by unfold kx nm;rw[aR a0,aR a0,<-jK];rfl)) ah 
abbrev Of(x:Iv)(y:Iv)(p):=iU (jh (kO x.lo y.lo) p false) (jh (kO x.lo y.lo) p false)
abbrev Og(x:Iv)(y:Iv)(p):=iR (jh (kO x.lo y.lo) p true) (jh (kO x.lo y.lo) p true)
theorem Ca(p:Int):gW 152 [(iP p)] (bP (lE p)):=
 tr true call152 func152 (.w (8<=p)
  (λk1=>chain [tB 4 (aT k1)]<|rQ (bP (decide (p<=512))) (bP (lE p)) (by simp[lE,k1]))
  (λk1=>chain [tB 4 (aU k1)]<|rQ (bP false) (bP (lE p)) (by simp[lE,k1]))) ah 
theorem oN : gW 153 [] (ib ig):=
 tr true call153 func153 (chain [.o 1 (.e GG:PV.le (.e (.agg [(bP false),(.v (.slice none 0 0)),(iP 0),(bP false),(.v (.slice none 0 0)),(iP 0),(bP true)])) (.e (ib ig)))]<|.nil) ah 
theorem aje(d:Dy):gW 84 [(gZ d)] (ib (mo d)):=
 tr true call84 func84 (.nil) ah 
theorem WQ : gW 95 [(gZ jA)] (bP true):=
 tr true call95 func95 (chain [tB 4 (rfl:jA.neg=false),tB 10 (r7 (qZ.2 rfl):(((gV jA.m).length:Int)==0)=true),tB 15 (rfl:(jA.e==0)=true)]<|.nil) ah 
theorem DP(x:Iv)(hx:x.ic):gW 49 [(ib x)] (bP true):=by
 by_cases kC:x.all=true
 .obtain ⟨h1,h2⟩:=Ng hx kC
  exact tr true call49 func49 (chain [tB 4 (kC:x.all=true),.c (by rw[h1];exact WQ:gW 95 [(gZ x.lo)] (bP true)),.c (by rw[h2];exact WQ:gW 95 [(gZ x.hi)] (bP true))]<|.nil) ah 
 .replace kC:x.all=false:=by simpa using kC
  obtain⟨h1,h2,h3⟩:=ph hx kC;exact tr true call49 func49 (chain [tB 4 (kC:x.all=false),.c (zF _ af:gW 96 [(gZ x.lo)] _),.c (zF _ af:gW 96 [(gZ x.hi)] _),.c (Cb x.lo x.hi (Fp.Dy.ic.rE af) (Fp.Dy.ic.rE af)),tB 27 (aT h3)]<|.nil) ah 
theorem uL(x:Iv)(hx:x.ic):gW 105 [(ib x)] (bP (!x.all)):=
 tr true call105 func105 (chain [.c (DP _ af:gW 49 [(ib x)] _)]<|.nil) ah 
theorem zE(lo hi:Dy)(e f:Int):gW 155 [(gZ lo),(iP e),(gZ hi),(iP f)] (ib (kI lo e hi f)):=
 tr true call155 func155 (.w (e=0)
  (λk1=>chain [tB 10 (aP k1)]<|.w (f=0)
   (λk2=>chain [tB 13 (aP k2)]<|rQ (ib (Iv.mk lo hi false)) (ib (kI lo e hi f)) (by unfold kI;simp[k1,k2];try rfl))
   (λk2=>chain [tB 13 (aQ k2),.c (oN:gW 153 [] _)]<|rQ (ib ig) (ib (kI lo e hi f)) (by unfold kI;simp[k1,k2])))
  (λk1=>chain [tB 10 (aQ k1),.c (oN:gW 153 [] _)]<|rQ (ib ig) (ib (kI lo e hi f)) (by unfold kI;simp[k1]))) ah 
theorem Gb(x y:Iv)(p:Nat)(hx:x.ic)(hy:y.ic)(im:8<=p)(ia:p<=512):gW 79 [(ib x),(ib y),(iP p)] (ib (jl x y p)):=
 tr true call79 func79 (chain [.c (Ca _:gW 152 [(iP p)] _),tB 12 (pn.2 ⟨ae,ae⟩:(lE (p:Int))=true),.c (uL _ af:gW 105 [(ib x)] _)]<|.w (x.all=true)
  (λk1=>chain [tB 16 (u7 k1),.c (oN:gW 153 [] _)]<|rQ (ib ig) (ib (jl x y p)) (by unfold jl;simp[k1]))
  (λk1=>by
   have mF:=ph hx (aO k1);have v1:=mF.1;have v2:=mF.2.1;have v3:=mF.2.2;exact chain [tB 16 (u6 (aO k1)),.c (uL _ af:gW 105 [(ib y)] _)]<|.w (y.all=true)
    (λk2=>chain [tB 21 (u7 k2),.c (oN:gW 153 [] _)]<|rQ (ib ig) (ib (jl x y p)) (by unfold jl;simp[k1,k2]))
    (λk2=>by
     have mF:=ph hy (aO k2);have v4:=mF.1;have v5:=mF.2.1;have v6:=mF.2.2;exact chain [tB 21 (u6 (aO k2)),.c (WK x.lo y.lo p false af af ae ae),.c (WK x.hi y.hi p true af af ae ae),.c (zE _ _ _ _:gW 155 [(gZ (jh (iJ x.lo y.lo) p false)),(iP (jx (iJ x.lo y.lo) p false)),(gZ (jh (iJ x.hi y.hi) p true)),(iP (jx (iJ x.hi y.hi) p true))] _)]<|rQ (ib (kI (jh (iJ x.lo y.lo) p false) (jx (iJ x.lo y.lo) p false) (jh (iJ x.hi y.hi) p true) (jx (iJ x.hi y.hi) p true))) (ib (jl x y p)) (by unfold jl;simp[k1,k2])))) ah 
theorem WN(x:Iv)(hx:x.ic):gW 227 [(ib x)] (ib (pV x)):=
 tr true call227 func227 (chain [.c (uL _ af:gW 105 [(ib x)] _)]<|.w (x.all=true)
  (λk1=>chain [tB 4 (u7 k1),.c (oN:gW 153 [] _)]<|rQ (ib ig) (ib (pV x)) (by unfold pV;simp[k1]))
  (λk1=>by
   have mF:=ph hx (aO k1);have v1:=mF.1;have v2:=mF.2.1;have v3:=mF.2.2;exact chain [tB 4 (u6 (aO k1)),.c (sc _:gW 146 [(gZ x.hi)] _),.c (sc _:gW 146 [(gZ x.lo)] _)]<|rQ (ib (Iv.mk (iF x.hi) (iF x.lo) false)) (ib (pV x)) (by unfold pV;simp[k1];try rfl))) ah 
theorem ajf(x y:Iv)(p:Nat)(hx:x.ic)(hy:y.ic)(im:8<=p)(ia:p<=512):gW 145 [(ib x),(ib y),(iP p)] (ib (Cm x y p)):=
 tr true call145 func145 (chain [.c (WN _ af:gW 227 [(ib y)] _),.c (Gb _ _ _ af (B2 af) ae ae:gW 79 [(ib x),(ib (pV y)),(iP p)] _)]<|.nil) ah 
theorem AW(a b:Dy)(ha:a.ic)(hb:b.ic):gW 195 [(gZ a),(gZ b)] (gZ (iU a b)):=by
 have hc:=xv a b;exact tr true call195 func195 (chain [.c (Cb a b (Fp.Dy.ic.rE af) (Fp.Dy.ic.rE af))]<|.w ((jo a b)<=0)
  (λk1=>chain [tB 8 (aT k1)]<|rQ (gZ a) (gZ (iU a b)) (by unfold iU;rw[aR ae]))
  (λk1=>chain [tB 8 (aU k1)]<|rQ (gZ b) (gZ (iU a b)) (by unfold iU;rw[aS ae]))) ah 
theorem xY(a b:Dy)(ha:a.ic)(hb:b.ic):gW 196 [(gZ a),(gZ b)] (gZ (iR a b)):=by
 have hc:=xv a b;exact tr true call196 func196 (chain [.c (Cb a b (Fp.Dy.ic.rE af) (Fp.Dy.ic.rE af))]<|.w (0<=(jo a b))
  (λk1=>chain [tB 8 (aT k1)]<|rQ (gZ a) (gZ (iR a b)) (by unfold iR;rw[aR ae]))
  (λk1=>chain [tB 8 (aU k1)]<|rQ (gZ b) (gZ (iR a b)) (by unfold iR;rw[aS ae]))) ah 
theorem WO(x:Iv)(hx:x.ic):gW 54 [(ib x)] (iP (lK x)):=
 tr true call54 func54 (chain [.c (uL _ af:gW 105 [(ib x)] _)]<|.w (x.all=true)
  (λk1=>chain [tB 4 (u7 k1)]<|rQ (iP 0) (iP (lK x)) (by unfold lK;simp[k1]))
  (λk1=>by
   have mF:=ph hx (aO k1);have v1:=mF.1;have v2:=mF.2.1;have v3:=mF.2.2;exact chain [tB 4 (u6 (aO k1)),.c (vW _:gW 53 [(gZ x.lo)] _)]<|.w (0<(Dy.iK x.lo))
    (λk2=>chain [tB 9 (aT k2)]<|rQ (iP 1) (iP (lK x)) (by unfold lK;simp[k1,k2]))
    (λk2=>chain [tB 9 (aU k2),.c (vW _:gW 53 [(gZ x.hi)] _)]<|.w ((Dy.iK x.hi)<0)
     (λk3=>chain [tB 13 (aT k3)]<|rQ (iP (-1)) (iP (lK x)) (by unfold lK;simp[k1,k2,k3]))
     (λk3=>chain [tB 13 (aU k3)]<|rQ (iP 0) (iP (lK x)) (by unfold lK;simp[k1,k2,k3]))))) ah 
theorem ajc(x:Iv)(hx:x.ic)(kC:x.all=false):gW 177 [(ib x)] (gZ (mD x)):=by
 obtain⟨v1,v2,v3⟩:=ph hx kC;exact tr true call177 func177 (chain [.c (sc _:gW 146 [(gZ x.lo)] _),.c (xY _ _ (qA af) af:gW 196 [(gZ (iF x.lo)),(gZ x.hi)] _)]<|rQ (gZ (iR (iF x.lo) x.hi)) (gZ (mD x)) (by rw[ahe v1 v2 v3])) ah 
theorem ajd(x:Iv)(hx:x.ic)(kC:x.all=false):gW 226 [(ib x)] (gZ (nu x)):=by
 obtain⟨v1,v2,v3⟩:=ph hx kC;have hm:=ahi kC v1 v2 v3;exact tr true call226 func226 (chain [.c (WO _ af:gW 54 [(ib x)] _)]<|.w ((lK x)=0)
  (λk1=>chain [tB 5 (aM k1),.o 6 (.e wa:PV.le (.e (.agg [(bP false),(.v (.slice none 0 0)),(iP 0)])) (.e (gZ jA)))]<|rQ (gZ jA) (gZ (nu x)) (by rw[hm,aS k1]))
  (λk1=>chain [tB 5 (aK k1),.c (sc _:gW 146 [(gZ x.hi)] _),.c (xY _ _ af (qA af):gW 196 [(gZ x.lo),(gZ (iF x.hi))] _)]<|rQ (gZ (iR x.lo (iF x.hi))) (gZ (nu x)) (by rw[hm,aR k1]))) ah 
theorem ai9(x:Iv)(hx:x.ic):gW 144 [(ib x)] (ib (iZ x)):=
 tr true call144 func144 (chain [.c (uL _ af:gW 105 [(ib x)] _)]<|.w (x.all=true)
  (λk1=>chain [tB 4 (u7 k1),.c (oN:gW 153 [] _)]<|rQ (ib ig) (ib (iZ x)) (by unfold iZ;simp[k1]))
  (λk1=>by
   have mF:=ph hx (aO k1);have v1:=mF.1;have v2:=mF.2.1;have v3:=mF.2.2;exact chain [tB 4 (u6 (aO k1)),.c (ajd _ af (aO af):gW 226 [(ib x)] _),.c (ajc _ af (aO af):gW 177 [(ib x)] _)]<|rQ (ib (Iv.mk (nu x) (mD x) false)) (ib (iZ x)) (by unfold iZ;simp[k1];try rfl))) ah 
theorem WM(x y:Iv):gW 193 [(ib x),(ib y)] (.sl true 4 6 λi_ j_=>(jr x.lo++jr y.lo++jr x.lo++jr y.hi++jr x.hi++jr y.lo++jr x.hi++jr y.hi).getD (i_*6+j_) (.v (.bool false))):=
 tr true call193 func193 (.nil) ah 
theorem JG(x y:Iv)(p:Nat)(hx:x.ic)(hy:y.ic)(im:8<=p)(ia:p<=512):gW 119 [(ib x),(ib y),(iP p)] (ib (iO x y p)):=
 tr true call119 func119 (chain [.c (Ca _:gW 152 [(iP p)] _),tB 15 (pn.2 ⟨ae,ae⟩:(lE (p:Int))=true),.c (uL _ af:gW 105 [(ib x)] _)]<|.w (x.all=true)
  (λk1=>chain [tB 19 (u7 k1),.c (oN:gW 153 [] _)]<|rQ (ib ig) (ib (iO x y p)) (by unfold iO;simp[k1]))
  (λk1=>by
   have mF:=ph hx (aO k1);have v1:=mF.1;have v2:=mF.2.1;have v3:=mF.2.2;exact chain [tB 19 (u6 (aO k1)),.c (uL _ af:gW 105 [(ib y)] _)]<|.w (y.all=true)
    (λk2=>chain [tB 24 (u7 k2),.c (oN:gW 153 [] _)]<|rQ (ib ig) (ib (iO x y p)) (by unfold iO;simp[k1,k2]))
    (λk2=>by
     have mF:=ph hy (aO k2);have v4:=mF.1;have v5:=mF.2.1;have v6:=mF.2.2;exact chain [tB 24 (u6 (aO k2)),.c (WM _ _:gW 193 [(ib x),(ib y)] _),.u 70,tB 32 (ag:(decide ((0:Int)<4))=true),iX (0) (4) ae,iX (0) (2) ae,iX (0) (4) ae,
      iX (1) (2) ae,.c (vU x.lo y.lo p false af af ae ae),iX (0) (4) ae,iX (0) (2) ae,iX (0) (4) ae,iX (1) (2) ae,.c (vU x.lo y.lo p true af af ae ae)]<|.w ((jx (kO x.lo y.lo) p false)=0)
      (λk3=>chain [tB 66 (aP k3)]<|.w ((jx (kO x.lo y.lo) p true)=0)
       (λk4=>chain [tB 69 (aP k4),tB 73 (ag:((0:Int)==0)=true),.c (AW _ _ (mu _ _ _ _ _ _ ae ae) (mu _ _ _ _ _ _ ae ae):gW 195 [(gZ (jh (kO x.lo y.lo) p false)),(gZ (jh (kO x.lo y.lo) p false))] _),.c (xY _ _ (mu _ _ _ _ _ _ ae ae) (mu _ _ _ _ _ _ ae ae):gW 196 [(gZ (jh (kO x.lo y.lo) p true)),(gZ (jh (kO x.lo y.lo) p true))] _),iu (0+1) ae,.k [9,69,68,8,7,6,2] [8,6],tB 32 (ag:(decide (((0+1):Int)<4))=true),iX ((0+1)) (4) ae,iX (0) (2) ae,iX ((0+1)) (4) ae,iX (1) (2) ae,.c (vU x.lo y.hi p false af af ae ae),iX ((0+1)) (4) ae,iX (0) (2) ae,iX ((0+1)) (4) ae,iX (1) (2) ae,.c (vU x.lo y.hi p true af af ae ae)]<|.w ((jx (kO x.lo y.hi) p false)=0)
        (λk5=>chain [tB 66 (aP k5)]<|.w ((jx (kO x.lo y.hi) p true)=0)
         (λk6=>chain [tB 69 (aP k6),tB 73 (ag:(((0+1):Int)==0)=false),.c (AW _ _ (qi (mu _ _ _ _ _ _ ae ae) (mu _ _ _ _ _ _ ae ae)) (mu _ _ _ _ _ _ ae ae):gW 195 [(gZ (Of x y p)),(gZ (jh (kO x.lo y.hi) p false))] _),.c (xY _ _ (pj (mu _ _ _ _ _ _ ae ae) (mu _ _ _ _ _ _ ae ae)) (mu _ _ _ _ _ _ ae ae):gW 196 [(gZ (Og x y p)),(gZ (jh (kO x.lo y.hi) p true))] _),
          iu ((0+1)+1) ae,.k [9,69,68,8,7,6,2] [8,6],tB 32 (ag:(decide ((((0+1)+1):Int)<4))=true),iX (((0+1)+1)) (4) ae,iX (0) (2) ae,iX (((0+1)+1)) (4) ae,
          iX (1) (2) ae,.c (vU x.hi y.lo p false af af ae ae),iX (((0+1)+1)) (4) ae,iX (0) (2) ae,iX (((0+1)+1)) (4) ae,iX (1) (2) ae,.c (vU x.hi y.lo p true af af ae ae)]<|.w ((jx (kO x.hi y.lo) p false)=0)
          (λk7=>chain [tB 66 (aP k7)]<|.w ((jx (kO x.hi y.lo) p true)=0)
           (λk8=>chain [tB 69 (aP k8),tB 73 (ag:((((0+1)+1):Int)==0)=false),.c (AW _ _ (qi (qi (mu _ _ _ _ _ _ ae ae) (mu _ _ _ _ _ _ ae ae)) (mu _ _ _ _ _ _ ae ae)) (mu _ _ _ _ _ _ ae ae):gW 195 [(gZ (iU (Of x y p) (jh (kO x.lo y.hi) p false))),(gZ (jh (kO x.hi y.lo) p false))] _),.c (xY _ _ (pj (pj (mu _ _ _ _ _ _ ae ae) (mu _ _ _ _ _ _ ae ae)) (mu _ _ _ _ _ _ ae ae)) (mu _ _ _ _ _ _ ae ae):gW 196 [(gZ (iR (Og x y p) (jh (kO x.lo y.hi) p true))),(gZ (jh (kO x.hi y.lo) p true))] _),
            iu (((0+1)+1)+1) ae,.k [9,69,68,8,7,6,2] [8,6],tB 32 (ag:(decide (((((0+1)+1)+1):Int)<4))=true),iX ((((0+1)+1)+1)) (4) ae,iX (0) (2) ae,
            iX ((((0+1)+1)+1)) (4) ae,iX (1) (2) ae,.c (vU x.hi y.hi p false af af ae ae),iX ((((0+1)+1)+1)) (4) ae,iX (0) (2) ae,
            iX ((((0+1)+1)+1)) (4) ae,iX (1) (2) ae,.c (vU x.hi y.hi p true af af ae ae)]<|.w ((jx (kO x.hi y.hi) p false)=0)
            (λk9=>chain [tB 66 (aP k9)]<|.w ((jx (kO x.hi y.hi) p true)=0)
             (λk10=>chain [tB 69 (aP k10),tB 73 (ag:(((((0+1)+1)+1):Int)==0)=false),.c (AW _ _ (qi (qi (qi (mu _ _ _ _ _ _ ae ae) (mu _ _ _ _ _ _ ae ae)) (mu _ _ _ _ _ _ ae ae)) (mu _ _ _ _ _ _ ae ae)) (mu _ _ _ _ _ _ ae ae):gW 195 [(gZ (iU (iU (Of x y p) (jh (kO x.lo y.hi) p false)) (jh (kO x.hi y.lo) p false))),(gZ (jh (kO x.hi y.hi) p false))] _),.c (xY _ _ (pj (pj (pj (mu _ _ _ _ _ _ ae ae) (mu _ _ _ _ _ _ ae ae)) (mu _ _ _ _ _ _ ae ae)) (mu _ _ _ _ _ _ ae ae)) (mu _ _ _ _ _ _ ae ae):gW 196 [(gZ (iR (iR (Og x y p) (jh (kO x.lo y.hi) p true)) (jh (kO x.hi y.lo) p true))),(gZ (jh (kO x.hi y.hi) p true))] _),
              iu ((((0+1)+1)+1)+1) ae,.k [9,69,68,8,7,6,2] [8,6],tB 32 (ag:(decide ((((((0+1)+1)+1)+1):Int)<4))=false)]<|rR (ib (iO x y p)) (by
      exact .iS (by
       unfold iO;rw[aR (by simp[k1,k2])];rw[show mq _ _ x y=_ from aS ⟨⟨k3,k4⟩,⟨k5,k6⟩,⟨k7,k8⟩,⟨k9,k10⟩⟩];rw[Vt,Vq];try rfl):E.le (ib (Iv.mk (iU (iU (iU (iU (jh (kO x.lo y.lo) p false) (jh (kO x.lo y.lo) p false)) (jh (kO x.lo y.hi) p false)) (jh (kO x.hi y.lo) p false)) (jh (kO x.hi y.hi) p false)) (iR (iR (iR (iR (jh (kO x.lo y.lo) p true) (jh (kO x.lo y.lo) p true)) (jh (kO x.lo y.hi) p true)) (jh (kO x.hi y.lo) p true)) (jh (kO x.hi y.hi) p true)) false)) (ib (iO x y p))))
             (λk10=>chain [tB 69 (aQ k10),.c (oN:gW 153 [] _)]<|rR (ib (iO x y p)) (by
      exact .iS (by
       unfold iO;rw[aR (by simp[k1,k2])];rw[show mq _ _ x y=_ from aR (by rintro⟨⟨_,_⟩,⟨_,_⟩,⟨_,_⟩,⟨_,q⟩⟩;exact k10 q)]):E.le (ib ig) (ib (iO x y p)))))
            (λk9=>chain [tB 66 (aQ k9),.c (oN:gW 153 [] _)]<|rR (ib (iO x y p)) (by
      exact .iS (by
       unfold iO;rw[aR (by simp[k1,k2])];rw[show mq _ _ x y=_ from aR (by rintro⟨⟨_,_⟩,⟨_,_⟩,⟨_,_⟩,⟨q,_⟩⟩;exact k9 q)]):E.le (ib ig) (ib (iO x y p)))))
           (λk8=>chain [tB 69 (aQ k8),.c (oN:gW 153 [] _)]<|rR (ib (iO x y p)) (by
      exact .iS (by
       unfold iO;rw[aR (by simp[k1,k2])];rw[show mq _ _ x y=_ from aR (by rintro⟨⟨_,_⟩,⟨_,_⟩,⟨_,q⟩,⟨_,_⟩⟩;exact k8 q)]):E.le (ib ig) (ib (iO x y p)))))
          (λk7=>chain [tB 66 (aQ k7),.c (oN:gW 153 [] _)]<|rR (ib (iO x y p)) (by
      exact .iS (by
       unfold iO;rw[aR (by simp[k1,k2])];rw[show mq _ _ x y=_ from aR (by rintro⟨⟨_,_⟩,⟨_,_⟩,⟨q,_⟩,⟨_,_⟩⟩;exact k7 q)]):E.le (ib ig) (ib (iO x y p)))))
         (λk6=>chain [tB 69 (aQ k6),.c (oN:gW 153 [] _)]<|rR (ib (iO x y p)) (by
      exact .iS (by
       unfold iO;rw[aR (by simp[k1,k2])];rw[show mq _ _ x y=_ from aR (by rintro⟨⟨_,_⟩,⟨_,q⟩,⟨_,_⟩,⟨_,_⟩⟩;exact k6 q)]):E.le (ib ig) (ib (iO x y p)))))
        (λk5=>chain [tB 66 (aQ k5),.c (oN:gW 153 [] _)]<|rR (ib (iO x y p)) (by
      exact .iS (by
       unfold iO;rw[aR (by simp[k1,k2])];rw[show mq _ _ x y=_ from aR (by rintro⟨⟨_,_⟩,⟨q,_⟩,⟨_,_⟩,⟨_,_⟩⟩;exact k5 q)]):E.le (ib ig) (ib (iO x y p)))))
       (λk4=>chain [tB 69 (aQ k4),.c (oN:gW 153 [] _)]<|rR (ib (iO x y p)) (by
      exact .iS (by
       unfold iO;rw[aR (by simp[k1,k2])];rw[show mq _ _ x y=_ from aR (by rintro⟨⟨_,q⟩,⟨_,_⟩,⟨_,_⟩,⟨_,_⟩⟩;exact k4 q)]):E.le (ib ig) (ib (iO x y p)))))
      (λk3=>chain [tB 66 (aQ k3),.c (oN:gW 153 [] _)]<|rR (ib (iO x y p)) (by
      exact .iS (by
       unfold iO;rw[aR (by simp[k1,k2])];rw[show mq _ _ x y=_ from aR (by rintro⟨⟨q,_⟩,⟨_,_⟩,⟨_,_⟩,⟨_,_⟩⟩;exact k3 q)]):E.le (ib ig) (ib (iO x y p))))))) ah 
theorem aja(x y:Iv)(p:Nat)(hx:x.ic)(hy:y.ic)(im:8<=p)(ia:p<=512):gW 139 [(ib x),(ib y),(iP p)] (ib (jT x y p)):=
 tr true call139 func139 (chain [.c (Ca _:gW 152 [(iP p)] _),tB 15 (pn.2 ⟨ae,ae⟩:(lE (p:Int))=true),.c (uL _ af:gW 105 [(ib x)] _)]<|.w (x.all=true)
  (λk1=>chain [tB 19 (u7 k1),.c (oN:gW 153 [] _)]<|rQ (ib ig) (ib (jT x y p)) (by unfold jT;simp[k1]))
  (λk1=>by
   have mF:=ph hx (aO k1);have v1:=mF.1;have v2:=mF.2.1;have v3:=mF.2.2;exact chain [tB 19 (u6 (aO k1)),.c (uL _ af:gW 105 [(ib y)] _)]<|.w (y.all=true)
    (λk2=>chain [tB 24 (u7 k2),.c (oN:gW 153 [] _)]<|rQ (ib ig) (ib (jT x y p)) (by unfold jT;simp[k1,k2]))
    (λk2=>by
     have mF:=ph hy (aO k2);have v4:=mF.1;have v5:=mF.2.1;have v6:=mF.2.2;exact chain [tB 24 (u6 (aO k2)),.c (WO _ af:gW 54 [(ib y)] _)]<|.w ((lK y)=0)
      (λk3=>chain [tB 30 (aM k3),.c (oN:gW 153 [] _)]<|rQ (ib ig) (ib (jT x y p)) (by unfold jT;simp[k1,k2,k3]))
      (λk3=>by
       have y0:=X5 hy k3;exact chain [tB 30 (aK k3),.c (WM _ _:gW 193 [(ib x),(ib y)] _),.u 70,tB 37 (ag:(decide ((0:Int)<4))=true),iX (0) (4) ae,iX (0) (2) ae,iX (0) (4) ae,iX (1) (2) ae,.c (AV x.lo y.lo p false af af y0.1 ae ae),iX (0) (4) ae,iX (0) (2) ae,iX (0) (4) ae,iX (1) (2) ae,.c (AV x.lo y.lo p true af af y0.1 ae ae)]<|.w ((nm x.lo y.lo p false)=0)
        (λk4=>chain [tB 71 (aP k4)]<|.w ((nm x.lo y.lo p true)=0)
         (λk5=>chain [tB 74 (aP k5),tB 78 (ag:((0:Int)==0)=true),.c (AW _ _ (oK ae ae) (oK ae ae):gW 195 [(gZ (kx x.lo y.lo p false)),(gZ (kx x.lo y.lo p false))] _),.c (xY _ _ (oK ae ae) (oK ae ae):gW 196 [(gZ (kx x.lo y.lo p true)),(gZ (kx x.lo y.lo p true))] _),iu (0+1) ae,.k [9,74,73,8,7,6,2] [8,6],tB 37 (ag:(decide (((0+1):Int)<4))=true),iX ((0+1)) (4) ae,iX (0) (2) ae,iX ((0+1)) (4) ae,iX (1) (2) ae,.c (AV x.lo y.hi p false af af y0.2 ae ae),iX ((0+1)) (4) ae,iX (0) (2) ae,iX ((0+1)) (4) ae,iX (1) (2) ae,.c (AV x.lo y.hi p true af af y0.2 ae ae)]<|.w ((nm x.lo y.hi p false)=0)
          (λk6=>chain [tB 71 (aP k6)]<|.w ((nm x.lo y.hi p true)=0)
           (λk7=>chain [tB 74 (aP k7),tB 78 (ag:(((0+1):Int)==0)=false),.c (AW _ _ (qi (oK ae ae) (oK ae ae)) (oK ae ae):gW 195 [(gZ (iU (kx x.lo y.lo p false) (kx x.lo y.lo p false))),(gZ (kx x.lo y.hi p false))] _),.c (xY _ _ (pj (oK ae ae) (oK ae ae)) (oK ae ae):gW 196 [(gZ (iR (kx x.lo y.lo p true) (kx x.lo y.lo p true))),(gZ (kx x.lo y.hi p true))] _),
            iu ((0+1)+1) ae,.k [9,74,73,8,7,6,2] [8,6],tB 37 (ag:(decide ((((0+1)+1):Int)<4))=true),iX (((0+1)+1)) (4) ae,iX (0) (2) ae,iX (((0+1)+1)) (4) ae,
            iX (1) (2) ae,.c (AV x.hi y.lo p false af af y0.1 ae ae),iX (((0+1)+1)) (4) ae,iX (0) (2) ae,iX (((0+1)+1)) (4) ae,iX (1) (2) ae,.c (AV x.hi y.lo p true af af y0.1 ae ae)]<|.w ((nm x.hi y.lo p false)=0)
            (λk8=>chain [tB 71 (aP k8)]<|.w ((nm x.hi y.lo p true)=0)
             (λk9=>chain [tB 74 (aP k9),tB 78 (ag:((((0+1)+1):Int)==0)=false),.c (AW _ _ (qi (qi (oK ae ae) (oK ae ae)) (oK ae ae)) (oK ae ae):gW 195 [(gZ (iU (iU (kx x.lo y.lo p false) (kx x.lo y.lo p false)) (kx x.lo y.hi p false))),(gZ (kx x.hi y.lo p false))] _),.c (xY _ _ (pj (pj (oK ae ae) (oK ae ae)) (oK ae ae)) (oK ae ae):gW 196 [(gZ (iR (iR (kx x.lo y.lo p true) (kx x.lo y.lo p true)) (kx x.lo y.hi p true))),(gZ (kx x.hi y.lo p true))] _),
              iu (((0+1)+1)+1) ae,.k [9,74,73,8,7,6,2] [8,6],tB 37 (ag:(decide (((((0+1)+1)+1):Int)<4))=true),iX ((((0+1)+1)+1)) (4) ae,iX (0) (2) ae,
              iX ((((0+1)+1)+1)) (4) ae,iX (1) (2) ae,.c (AV x.hi y.hi p false af af y0.2 ae ae),iX ((((0+1)+1)+1)) (4) ae,iX (0) (2) ae,
              iX ((((0+1)+1)+1)) (4) ae,iX (1) (2) ae,.c (AV x.hi y.hi p true af af y0.2 ae ae)]<|.w ((nm x.hi y.hi p false)=0)
              (λk10=>chain [tB 71 (aP k10)]<|.w ((nm x.hi y.hi p true)=0)
               (λk11=>chain [tB 74 (aP k11),tB 78 (ag:(((((0+1)+1)+1):Int)==0)=false),.c (AW _ _ (qi (qi (qi (oK ae ae) (oK ae ae)) (oK ae ae)) (oK ae ae)) (oK ae ae):gW 195 [(gZ (iU (iU (iU (kx x.lo y.lo p false) (kx x.lo y.lo p false)) (kx x.lo y.hi p false)) (kx x.hi y.lo p false))),(gZ (kx x.hi y.hi p false))] _),.c (xY _ _ (pj (pj (pj (oK ae ae) (oK ae ae)) (oK ae ae)) (oK ae ae)) (oK ae ae):gW 196 [(gZ (iR (iR (iR (kx x.lo y.lo p true) (kx x.lo y.lo p true)) (kx x.lo y.hi p true)) (kx x.hi y.lo p true))),(gZ (kx x.hi y.hi p true))] _),
                iu ((((0+1)+1)+1)+1) ae,.k [9,74,73,8,7,6,2] [8,6],tB 37 (ag:(decide ((((((0+1)+1)+1)+1):Int)<4))=false)]<|rR (ib (jT x y p)) (by
      exact .iS (by
       unfold jT;rw[aR (by simp[k1,k2,k3])];rw[show mq _ _ x y=_ from aS ⟨⟨k4,k5⟩,⟨k6,k7⟩,⟨k8,k9⟩,⟨k10,k11⟩⟩];rw[Vt,Vq];try rfl):E.le (ib (Iv.mk (iU (iU (iU (iU (kx x.lo y.lo p false) (kx x.lo y.lo p false)) (kx x.lo y.hi p false)) (kx x.hi y.lo p false)) (kx x.hi y.hi p false)) (iR (iR (iR (iR (kx x.lo y.lo p true) (kx x.lo y.lo p true)) (kx x.lo y.hi p true)) (kx x.hi y.lo p true)) (kx x.hi y.hi p true)) false)) (ib (jT x y p))))
               (λk11=>chain [tB 74 (aQ k11),.c (oN:gW 153 [] _)]<|rR (ib (jT x y p)) (by
      exact .iS (by
       unfold jT;rw[aR (by simp[k1,k2,k3])];rw[show mq _ _ x y=_ from aR (by rintro⟨⟨_,_⟩,⟨_,_⟩,⟨_,_⟩,⟨_,q⟩⟩;exact k11 q)]):E.le (ib ig) (ib (jT x y p)))))
              (λk10=>chain [tB 71 (aQ k10),.c (oN:gW 153 [] _)]<|rR (ib (jT x y p)) (by
      exact .iS (by
       unfold jT;rw[aR (by simp[k1,k2,k3])];rw[show mq _ _ x y=_ from aR (by rintro⟨⟨_,_⟩,⟨_,_⟩,⟨_,_⟩,⟨q,_⟩⟩;exact k10 q)]):E.le (ib ig) (ib (jT x y p)))))
             (λk9=>chain [tB 74 (aQ k9),.c (oN:gW 153 [] _)]<|rR (ib (jT x y p)) (by
      exact .iS (by
       unfold jT;rw[aR (by simp[k1,k2,k3])];rw[show mq _ _ x y=_ from aR (by rintro⟨⟨_,_⟩,⟨_,_⟩,⟨_,q⟩,⟨_,_⟩⟩;exact k9 q)]):E.le (ib ig) (ib (jT x y p)))))
            (λk8=>chain [tB 71 (aQ k8),.c (oN:gW 153 [] _)]<|rR (ib (jT x y p)) (by
      exact .iS (by
       unfold jT;rw[aR (by simp[k1,k2,k3])];rw[show mq _ _ x y=_ from aR (by rintro⟨⟨_,_⟩,⟨_,_⟩,⟨q,_⟩,⟨_,_⟩⟩;exact k8 q)]):E.le (ib ig) (ib (jT x y p)))))
           (λk7=>chain [tB 74 (aQ k7),.c (oN:gW 153 [] _)]<|rR (ib (jT x y p)) (by
      exact .iS (by
       unfold jT;rw[aR (by simp[k1,k2,k3])];rw[show mq _ _ x y=_ from aR (by rintro⟨⟨_,_⟩,⟨_,q⟩,⟨_,_⟩,⟨_,_⟩⟩;exact k7 q)]):E.le (ib ig) (ib (jT x y p)))))
          (λk6=>chain [tB 71 (aQ k6),.c (oN:gW 153 [] _)]<|rR (ib (jT x y p)) (by
      exact .iS (by
       unfold jT;rw[aR (by simp[k1,k2,k3])];rw[show mq _ _ x y=_ from aR (by rintro⟨⟨_,_⟩,⟨q,_⟩,⟨_,_⟩,⟨_,_⟩⟩;exact k6 q)]):E.le (ib ig) (ib (jT x y p)))))
         (λk5=>chain [tB 74 (aQ k5),.c (oN:gW 153 [] _)]<|rR (ib (jT x y p)) (by
      exact .iS (by
       unfold jT;rw[aR (by simp[k1,k2,k3])];rw[show mq _ _ x y=_ from aR (by rintro⟨⟨_,q⟩,⟨_,_⟩,⟨_,_⟩,⟨_,_⟩⟩;exact k5 q)]):E.le (ib ig) (ib (jT x y p)))))
        (λk4=>chain [tB 71 (aQ k4),.c (oN:gW 153 [] _)]<|rR (ib (jT x y p)) (by
      exact .iS (by
       unfold jT;rw[aR (by simp[k1,k2,k3])];rw[show mq _ _ x y=_ from aR (by rintro⟨⟨q,_⟩,⟨_,_⟩,⟨_,_⟩,⟨_,_⟩⟩;exact k4 q)]):E.le (ib ig) (ib (jT x y p)))))))) ah 
def xm(s:jt):Bool:=decide (0<=s.iq/\s.iq<=8/\s.gX.length<=200/\s.ik.length<=200)&&(Gl s&&vY s)
def CZ(o:nj):Bool:=decide (9<=o.kind/\o.kind<=13)
def DS(s:jt):Bool:=((List.range s.gX.length).all λi=>!CZ (s.gX.getD i iY))&&xm s
theorem ajx{s:jt}(h:DS s=true)(hv:mI s.v):rz s.v.tape:=by
 unfold DS at h;rw[bu]at h;intro i;by_cases hi:i<s.gX.length
 .have h1:=bH.1 h.1 i (bI.2 hi)
  have e:s.v.tape.gX.getD i iT=(s.gX.getD i iY).v:=by
   show(s.gX.map nj.v).getD i iT=_;simp[aW,hi]
  have h2:=(hv.tape.op i (by show i<(s.gX.map nj.v).length;rw[cR];exact hi)).Dv;rw[e]at h2 ⊢;change (s.gX.getD i iY).kind.toNat<=13 at h2;show(s.gX.getD i iY).kind.toNat<=8;unfold CZ at h1;simp only[ew,decide_eq_false_iff_not]at h1;omega
 .have e:s.v.tape.gX.getD i iT=iT:=by
   show(s.gX.map nj.v).getD i iT=_;rw[aW,bT aG];rfl
  rw[e];decide
noncomputable def ur(s:jt)(x:List RI)(d:RD)(b:List RI)(p:Int):Bool:=mQ s x d p&&(qs s.iA b&&pP s.v (x.map RI.iv) d.dy (b.map RI.iv) p.toNat)
theorem Qu{n:Int}{b:List RI}(gb:∀ i,(b.getD i ju).jg)(h:qs n b=true):ke n.toNat (b.map RI.iv)/\j8 b=ij (b.map RI.iv):=by
 unfold qs at h;rw[bu,bU]at h;obtain⟨b1,b2⟩:=h;have pa:∀ i,i<b.length->(b.getD i ju).Ok/\(b.getD i ju).all=false:=λi hi=>by
  have:=bH.1 b2 i (bI.2 hi);unfold nA at this;rw[bu]at this;exact⟨r8.1 this.1,by simpa using this.2⟩
 have lp:∀ i,i<b.length->(b.map RI.iv).getD i ig=(b.getD i ju).iv:=λi hi=>by simp[aW,hi]
 refine⟨⟨by rw[cR];omega,λi hi=>?_⟩,?_⟩
 .have hi:i<b.length:=by simpa using hi
  rw[lp i hi];exact⟨(pa i hi).1.valid,(pa i hi).2⟩
 .rw [<-Jg]
  congr 1;apply eX;intro i;unfold s7;rw[cj,cj];by_cases hi:i<b.length
  .have h1:=(pa i hi).1
   have g1:=gb i;rw[bg hi];rw[aW,bg hi]at h1 g1;exact congrArg some (RI.Ok.eq (x:=b[i]) h1 g1).symm
  .rw [bT ae];rfl
def Y6(s:jt)(N:Nat)(x:Nat):PS:=⟨70,true,[(3,.e (iP x)),(1,.box 1 0)],[(1,.cells 25 [(iP s.iq),(jL s.gX),(jP s.ik)])]⟩
def Y3(s:jt)(x:Nat):PS:=⟨70,true,[(3,.e (iP x)),(1,.box 1 0)],[(1,.cells 25 [(iP s.iq),(jL s.gX),(jP s.ik)])]⟩
def Y7(s:jt)(N:Nat)(x:Nat):PS:=⟨70,true,[(4,.e (iP x)),(1,.box 1 0)],[(1,.cells 25 [(iP s.iq),(jL s.gX),(jP s.ik)])]⟩
def Y4(s:jt)(x:Nat):PS:=⟨70,true,[(3,.e (iP x)),(1,.box 1 0)],[(1,.cells 25 [(iP s.iq),(jL s.gX),(jP s.ik)])]⟩
def Y8(s:jt)(N:Nat)(x:Nat):PS:=⟨70,true,[(4,.e (iP x)),(1,.box 1 0)],[(1,.cells 25 [(iP s.iq),(jL s.gX),(jP s.ik)])]⟩
def Y5(s:jt)(x:Nat):PS:=⟨70,true,[(3,.e (iP x)),(1,.box 1 0)],[(1,.cells 25 [(iP s.iq),(jL s.gX),(jP s.ik)])]⟩
def Y9(s:jt)(x:Nat):PS:=⟨70,true,[(4,.e (iP x)),(1,.box 1 0)],[(1,.cells 25 [(iP s.iq),(jL s.gX),(jP s.ik)])]⟩
def WZ(s:jt)(N:Nat)(x:Nat):PS:=⟨38,true,[(3,.e (iP x)),(1,.box 1 0)],[(1,.cells 25 [(iP s.iq),(jL s.gX),(jP s.ik)])]⟩
def WV(s:jt)(N:Nat)(x:Nat):PS:=⟨38,true,[(3,.e (iP x)),(1,.box 1 0)],[(1,.cells 25 [(iP s.iq),(jL s.gX),(jP s.ik)])]⟩
def WW(s:jt)(N:Nat)(x:Nat):PS:=⟨38,true,[(3,.e (iP x)),(1,.box 1 0)],[(1,.cells 25 [(iP s.iq),(jL s.gX),(jP s.ik)])]⟩
def WX(s:jt)(N:Nat)(x:Nat):PS:=⟨38,true,[(3,.e (iP x)),(1,.box 1 0)],[(1,.cells 25 [(iP s.iq),(jL s.gX),(jP s.ik)])]⟩
def WY(s:jt)(N:Nat)(x:Nat):PS:=⟨38,true,[(3,.e (iP x)),(1,.box 1 0)],[(1,.cells 25 [(iP s.iq),(jL s.gX),(jP s.ik)])]⟩
def W0(s:jt)(x:Nat):PS:=⟨38,true,[(3,.e (iP x)),(1,.box 1 0)],[(1,.cells 25 [(iP s.iq),(jL s.gX),(jP s.ik)])]⟩
theorem SI{x:List RI}(gx0:∀ y,y ∈ x->y.jg):∀ i,(x.getD i ju).jg:=λi=>by
 by_cases hi:i<x.length
 .rw [aW,bg hi];exact gx0 _ (cz hi)
 .rw [aW,bT ae];exact OO
theorem KQ(n d:Int):gW 173 [(.agg [(iP n),(iP d)])] (bP (decide (n=0/\d=0))):=
 tr true call173 func173 (.w (n=0)
  (λk1=>chain [tB 5 (aM k1)]<|rQ (bP (d==0)) (bP (decide (n=0/\d=0))) (nk (by rw[cS];simp[k1])))
  (λk1=>chain [tB 5 (aK k1)]<|rQ (bP false) (bP (decide (n=0/\d=0))) (nk (by rw[cS];simp[k1])))) ah 
noncomputable def Jx(o:nj)(m:Int)(g:o.jg)(A B:Bool)(hA:A=(decide (0<=o.a/\o.a<m)))(hB:B=(decide (0<=o.b/\o.b<m))):Tr prog Tb:=
  .w (o.kind=1)
  (λk1=>chain [tB 28 (aM k1)]<|.w (o.a=0)
   (λk2=>chain [tB 31 (aM k2)]<|.w (o.b=0)
    (λk3=>chain [tB 35 (aM k3)]<|.w (o.n=0)
     (λk4=>chain [tB 40 (aM k4),.c (Ge o.cn o.cd)]<|rQ (bP (lQ o.cn o.cd)) (bP (jG o m)) (kX))
     (λk4=>chain [tB 40 (aK k4)]<|rQ (bP false) (bP (jG o m)) (kX)))
    (λk3=>chain [tB 35 (aK k3)]<|rQ (bP false) (bP (jG o m)) (kX)))
   (λk2=>chain [tB 31 (aK k2)]<|rQ (bP false) (bP (jG o m)) (kX)))
  (λk1=>chain [tB 28 (aK k1),.j 94 ⟨112,true,[(47,.e (bP (decide (3<=o.kind/\o.kind<=6)))),(26,.e (iP o.kind)),(6,.e (bP B)),(5,.e (bP A)),(2,.box 2 0)],[(2,.cells 74 [(iP o.kind),(iP o.a),(iP o.b),(iP o.n),(iP o.cn),(iP o.cd)])]⟩
   (.w (o.kind=3)
    (λm1=>chain [.v 47 (.bool (aM m1))]<|.e (chain [tB 47 (oA an:true=(decide (3<=o.kind/\o.kind<=6)))]<|.nil))
    (λm1=>chain [.v 47 (.bool (aK m1))]<|.w (o.kind=4)
     (λm2=>chain [tB 49 (aM m2)]<|.e (chain [tB 47 (oA an:true=(decide (3<=o.kind/\o.kind<=6)))]<|.nil))
     (λm2=>chain [tB 49 (aK m2)]<|.w (o.kind=5)
      (λm3=>chain [tB 50 (aM m3)]<|.e (chain [tB 47 (oA an:true=(decide (3<=o.kind/\o.kind<=6)))]<|.nil))
      (λm3=>chain [tB 50 (aK m3)]<|.e (chain [tB 47 (oA an:(o.kind==6)=(decide (3<=o.kind/\o.kind<=6)))]<|.nil)))))]<|.w (3<=o.kind/\o.kind<=6)
   (λk2=>chain [.v 47 (.bool (aT k2))]<|.w (A=true)
    (λk3=>chain [tB 52 (k3)]<|.w (B=true)
     (λk4=>chain [tB 54 (k4)]<|.w (o.n=0)
      (λk5=>chain [tB 59 (aM k5),.c (KQ o.cn o.cd)]<|rQ (bP (decide (o.cn=0/\o.cd=0))) (bP (jG o m)) (kX))
      (λk5=>chain [tB 59 (aK k5)]<|rQ (bP false) (bP (jG o m)) (kX)))
     (λk4=>chain [tB 54 (aO k4)]<|rQ (bP false) (bP (jG o m)) (kX)))
    (λk3=>chain [tB 52 (aO k3)]<|rQ (bP false) (bP (jG o m)) (kX)))
   (λk2=>chain [.v 47 (.bool (aU k2)),.j 132 ⟨112,true,[(66,.e (bP (decide (o.kind=7\/9<=o.kind/\o.kind<=13)))),(26,.e (iP o.kind)),(5,.e (bP A)),(2,.box 2 0)],[(2,.cells 74 [(iP o.kind),(iP o.a),(iP o.b),(iP o.n),(iP o.cn),(iP o.cd)])]⟩
   (.w (o.kind=7)
    (λm1=>chain [.v 66 (.bool (aM m1))]<|.e (chain [tB 66 (oA an:true=(decide (o.kind=7\/9<=o.kind/\o.kind<=13)))]<|.nil))
    (λm1=>chain [.v 66 (.bool (aK m1))]<|.w (o.kind=9)
     (λm2=>chain [tB 68 (aM m2)]<|.e (chain [tB 66 (oA an:true=(decide (o.kind=7\/9<=o.kind/\o.kind<=13)))]<|.nil))
     (λm2=>chain [tB 68 (aK m2)]<|.w (o.kind=10)
      (λm3=>chain [tB 69 (aM m3)]<|.e (chain [tB 66 (oA an:true=(decide (o.kind=7\/9<=o.kind/\o.kind<=13)))]<|.nil))
      (λm3=>chain [tB 69 (aK m3)]<|.w (o.kind=11)
       (λm4=>chain [tB 70 (aM m4)]<|.e (chain [tB 66 (oA an:true=(decide (o.kind=7\/9<=o.kind/\o.kind<=13)))]<|.nil))
       (λm4=>chain [tB 70 (aK m4)]<|.w (o.kind=12)
        (λm5=>chain [tB 71 (aM m5)]<|.e (chain [tB 66 (oA an:true=(decide (o.kind=7\/9<=o.kind/\o.kind<=13)))]<|.nil))
        (λm5=>chain [tB 71 (aK m5)]<|.e (chain [tB 66 (oA an:(o.kind==13)=(decide (o.kind=7\/9<=o.kind/\o.kind<=13)))]<|.nil)))))))]<|.w (o.kind=7\/9<=o.kind/\o.kind<=13)
    (λk3=>chain [.v 66 (.bool (aT k3))]<|.w (A=true)
     (λk4=>chain [tB 73 (k4)]<|.w (o.b=0)
      (λk5=>chain [tB 77 (aM k5)]<|.w (o.n=0)
       (λk6=>chain [tB 82 (aM k6),.c (KQ o.cn o.cd)]<|rQ (bP (decide (o.cn=0/\o.cd=0))) (bP (jG o m)) (kX))
       (λk6=>chain [tB 82 (aK k6)]<|rQ (bP false) (bP (jG o m)) (kX)))
      (λk5=>chain [tB 77 (aK k5)]<|rQ (bP false) (bP (jG o m)) (kX)))
     (λk4=>chain [tB 73 (aO k4)]<|rQ (bP false) (bP (jG o m)) (kX)))
    (λk3=>chain [.v 66 (.bool (aU k3))]<|.w (o.kind=8)
     (λk4=>chain [tB 90 (aM k4)]<|.w (A=true)
      (λk5=>chain [tB 91 (k5)]<|.w (o.b=0)
       (λk6=>chain [tB 95 (aM k6)]<|.w (0<=o.n)
        (λk7=>chain [tB 100 (aT k7)]<|.w (o.n<=16)
         (λk8=>chain [tB 105 (aT k8),.c (KQ o.cn o.cd)]<|rQ (bP (decide (o.cn=0/\o.cd=0))) (bP (jG o m)) (kX))
         (λk8=>chain [tB 105 (aU k8)]<|rQ (bP false) (bP (jG o m)) (kX)))
        (λk7=>chain [tB 100 (aU k7)]<|rQ (bP false) (bP (jG o m)) (kX)))
       (λk6=>chain [tB 95 (aK k6)]<|rQ (bP false) (bP (jG o m)) (kX)))
      (λk5=>chain [tB 91 (aO k5)]<|rQ (bP false) (bP (jG o m)) (kX)))
     (λk4=>chain [tB 90 (aK k4)]<|rQ (bP false) (bP (jG o m)) (kX)))))
theorem FV(o:nj)(m:Int)(g:o.jg):gW 98 [(rn o),(iP m)] (bP (jG o m)):=
 tr true call98 func98 (.w (0<=o.a)
  (λk1=>chain [tB 9 (aT k1)]<|.w (0<=o.b)
   (λk2=>chain [tB 18 (aT k2)]<|Jx o m g (decide (o.a<m)) (decide (o.b<m)) (by simp[k1]) (by simp[k2]))
   (λk2=>chain [tB 18 (aU k2)]<|Jx o m g (decide (o.a<m)) false (by simp[k1]) (by simp[k2])))
  (λk1=>chain [tB 9 (aU k1)]<|.w (0<=o.b)
   (λk2=>chain [tB 18 (aT k2)]<|Jx o m g false (decide (o.b<m)) (by simp[k1]) (by simp[k2]))
   (λk2=>chain [tB 18 (aU k2)]<|Jx o m g false false (by simp[k1]) (by simp[k2])))) ah 
theorem amK(s:jt)(g:s.jg)(sm:s.mj)(hc:¬(0<=s.iq/\s.iq<=8/\s.gX.length<=200/\s.ik.length<=200)):gW 50 [(.agg [(iP s.iq),(jL s.gX),(jP s.ik)])] (bP false):=by
 have sp:=sm.params;have so:=sm.ik;have sq:=sm.gX;exact tr true call50 func50 (.w (s.iq<0)
  (λk1=>chain [tB 7 (aT k1)]<|.nil)
  (λk1=>chain [tB 7 (aU k1)]<|.w (8<s.iq)
   (λk2=>chain [tB 11 (aT k2)]<|.nil)
   (λk2=>chain [tB 11 (aU k2)]<|.w (200<(s.gX.length:Int))
    (λk3=>chain [tB 17 (aT k3)]<|.nil)
    (λk3=>chain [tB 17 (aU k3)]<|.w (200<(s.ik.length:Int))
     (λk4=>chain [tB 23 (aT k4)]<|.nil)
     (λk4=>.x ae))))) ah 
theorem amL(s:jt)(g:s.jg)(sm:s.mj)(i0:0<=s.iq)(i8:s.iq<=8)(l1:s.gX.length<=200)(l2:s.ik.length<=200)(N:Nat)(mz:N<s.gX.length)(iI:∀ k,k<N->(jG (s.gX.getD k iY) (s.iq+(k:Int)))=true)(hN:(jG (s.gX.getD N iY) (s.iq+(N:Int)))=false):gW 50 [(.agg [(iP s.iq),(jL s.gX),(jP s.ik)])] (bP false):=by
 have sp:=sm.params;have so:=sm.ik;have sq:=sm.gX;exact tr true call50 func50 (chain [tF 7 (s.iq<0) ae,tF 11 (8<s.iq) ae,tF 17 (200<(s.gX.length:Int)) ae,tF 23 (200<(s.ik.length:Int)) ae,.s (Sp.jy (Y6 s N) 0 N ae (λx hx kn=>by
    have np:=g.gX x;exact iC (chain [tT 29 ((x:Int)<s.gX.length) ae,iX ((x:Int)) (s.gX.length) ae,iu (s.iq+(x:Int)) ae,.c (FV (s.gX.getD x iY) (s.iq+(x:Int)) np),tB 42 (by rw[iI x ae];rfl:(!(jG (s.gX.getD x iY) (s.iq+(x:Int))))=false),iu ((x:Int)+1) ae]<|.nil) ah)
  (λhx=>by
    have np:=g.gX N;exact iC (chain [tT 29 ((N:Int)<s.gX.length) ae,iX ((N:Int)) (s.gX.length) ae,iu (s.iq+(N:Int)) ae,.c (FV (s.gX.getD N iY) (s.iq+(N:Int)) np),tB 42 (by rw[hN];rfl:(!(jG (s.gX.getD N iY) (s.iq+(N:Int))))=true)]<|.nil) ah) ak:jv 4 Tryz.f50 (Y6 s N 0) .ret ⟨70,true,[(2,.e (bP false))],[]⟩) .nil]<|.nil) ah 
theorem amM(s:jt)(g:s.jg)(sm:s.mj)(i0:0<=s.iq)(i8:s.iq<=8)(l1:s.gX.length<=200)(l2:s.ik.length<=200)(iI:∀ k,k<s.gX.length->(jG (s.gX.getD k iY) (s.iq+(k:Int)))=true)(N:Nat)(mz:N<s.ik.length)(mZ:∀ k,k<N->0<=(s.ik.getD k 0)/\(s.ik.getD k 0)<s.iq+(s.gX.length:Int))(hN:(s.ik.getD N 0)<0):gW 50 [(.agg [(iP s.iq),(jL s.gX),(jP s.ik)])] (bP false):=by
 have sp:=sm.params;have so:=sm.ik;have sq:=sm.gX;exact tr true call50 func50 (chain [tF 7 (s.iq<0) ae,tF 11 (8<s.iq) ae,tF 17 (200<(s.gX.length:Int)) ae,tF 23 (200<(s.ik.length:Int)) ae,.s (Sp.jy (Y3 s) 0 s.gX.length ae (λx hx kn=>by
    have np:=g.gX x;exact iC (chain [tT 29 ((x:Int)<s.gX.length) ae,iX ((x:Int)) (s.gX.length) ae,iu (s.iq+(x:Int)) ae,.c (FV (s.gX.getD x iY) (s.iq+(x:Int)) np),tB 42 (by rw[iI x ae];rfl:(!(jG (s.gX.getD x iY) (s.iq+(x:Int))))=false),iu ((x:Int)+1) ae]<|.nil) ah)
  (λhx=>by
    exact iC (chain [tF 29 ((s.gX.length:Int)<s.gX.length) ae]<|.nil) ah) ak:jv 4 Tryz.f50 (Y3 s 0) (.exit 0) ⟨70,true,[(1,.box 1 0)],[(1,.cells 25 [(iP s.iq),(jL s.gX),(jP s.ik)])]⟩) .nil,.s (Sp.jy (Y7 s N) 0 N ae (λx hx kn=>by
    have BG:=mZ x ae;exact iC (chain [tT 47 ((x:Int)<s.ik.length) ae,iX ((x:Int)) (s.ik.length) ae,tF 55 ((s.ik.getD x 0)<0) ae,iX ((x:Int)) (s.ik.length) ae,
     iu (s.iq+(s.gX.length:Int)) ae,tF 68 ((s.iq+(s.gX.length:Int))<=(s.ik.getD x 0)) ae,iu ((x:Int)+1) ae]<|.nil) ah)
  (λhx=>by
    exact iC (chain [tT 47 ((N:Int)<s.ik.length) ae,iX ((N:Int)) (s.ik.length) ae,tB 55 (aT hN)]<|.nil) ah) ak:jv 9 Tryz.f50 (Y7 s N 0) .ret ⟨70,true,[(2,.e (bP false))],[]⟩) .nil]<|.nil) ah 
theorem amN(s:jt)(g:s.jg)(sm:s.mj)(i0:0<=s.iq)(i8:s.iq<=8)(l1:s.gX.length<=200)(l2:s.ik.length<=200)(iI:∀ k,k<s.gX.length->(jG (s.gX.getD k iY) (s.iq+(k:Int)))=true)(N:Nat)(mz:N<s.ik.length)(mZ:∀ k,k<N->0<=(s.ik.getD k 0)/\(s.ik.getD k 0)<s.iq+(s.gX.length:Int))(hN:0<=(s.ik.getD N 0))(hM:s.iq+(s.gX.length:Int)<=(s.ik.getD N 0)):gW 50 [(.agg [(iP s.iq),(jL s.gX),(jP s.ik)])] (bP false):=by
 have sp:=sm.params;have so:=sm.ik;have sq:=sm.gX;exact tr true call50 func50 (chain [tF 7 (s.iq<0) ae,tF 11 (8<s.iq) ae,tF 17 (200<(s.gX.length:Int)) ae,tF 23 (200<(s.ik.length:Int)) ae,.s (Sp.jy (Y4 s) 0 s.gX.length ae (λx hx kn=>by
    have np:=g.gX x;exact iC (chain [tT 29 ((x:Int)<s.gX.length) ae,iX ((x:Int)) (s.gX.length) ae,iu (s.iq+(x:Int)) ae,.c (FV (s.gX.getD x iY) (s.iq+(x:Int)) np),tB 42 (by rw[iI x ae];rfl:(!(jG (s.gX.getD x iY) (s.iq+(x:Int))))=false),iu ((x:Int)+1) ae]<|.nil) ah)
  (λhx=>by
    exact iC (chain [tF 29 ((s.gX.length:Int)<s.gX.length) ae]<|.nil) ah) ak:jv 4 Tryz.f50 (Y4 s 0) (.exit 0) ⟨70,true,[(1,.box 1 0)],[(1,.cells 25 [(iP s.iq),(jL s.gX),(jP s.ik)])]⟩) .nil,.s (Sp.jy (Y8 s N) 0 N ae (λx hx kn=>by
    have BG:=mZ x ae;exact iC (chain [tT 47 ((x:Int)<s.ik.length) ae,iX ((x:Int)) (s.ik.length) ae,tF 55 ((s.ik.getD x 0)<0) ae,iX ((x:Int)) (s.ik.length) ae,
     iu (s.iq+(s.gX.length:Int)) ae,tF 68 ((s.iq+(s.gX.length:Int))<=(s.ik.getD x 0)) ae,iu ((x:Int)+1) ae]<|.nil) ah)
  (λhx=>by
    exact iC (chain [tT 47 ((N:Int)<s.ik.length) ae,iX ((N:Int)) (s.ik.length) ae,tF 55 ((s.ik.getD N 0)<0) ae,iX ((N:Int)) (s.ik.length) ae,
    iu (s.iq+(s.gX.length:Int)) ae,tB 68 (aT hM)]<|.nil) ah) ak:jv 9 Tryz.f50 (Y8 s N 0) .ret ⟨70,true,[(2,.e (bP false))],[]⟩) .nil]<|.nil) ah 
theorem amO(s:jt)(g:s.jg)(sm:s.mj)(i0:0<=s.iq)(i8:s.iq<=8)(l1:s.gX.length<=200)(l2:s.ik.length<=200)(iI:∀ k,k<s.gX.length->(jG (s.gX.getD k iY) (s.iq+(k:Int)))=true)(mZ:∀ k,k<s.ik.length->0<=(s.ik.getD k 0)/\(s.ik.getD k 0)<s.iq+(s.gX.length:Int)):gW 50 [(.agg [(iP s.iq),(jL s.gX),(jP s.ik)])] (bP true):=by
 have sp:=sm.params;have so:=sm.ik;have sq:=sm.gX;exact tr true call50 func50 (chain [tF 7 (s.iq<0) ae,tF 11 (8<s.iq) ae,tF 17 (200<(s.gX.length:Int)) ae,tF 23 (200<(s.ik.length:Int)) ae,.s (Sp.jy (Y5 s) 0 s.gX.length ae (λx hx kn=>by
    have np:=g.gX x;exact iC (chain [tT 29 ((x:Int)<s.gX.length) ae,iX ((x:Int)) (s.gX.length) ae,iu (s.iq+(x:Int)) ae,.c (FV (s.gX.getD x iY) (s.iq+(x:Int)) np),tB 42 (by rw[iI x ae];rfl:(!(jG (s.gX.getD x iY) (s.iq+(x:Int))))=false),iu ((x:Int)+1) ae]<|.nil) ah)
  (λhx=>by
    exact iC (chain [tF 29 ((s.gX.length:Int)<s.gX.length) ae]<|.nil) ah) ak:jv 4 Tryz.f50 (Y5 s 0) (.exit 0) ⟨70,true,[(1,.box 1 0)],[(1,.cells 25 [(iP s.iq),(jL s.gX),(jP s.ik)])]⟩) .nil,.s (Sp.jy (Y9 s) 0 s.ik.length ae (λx hx kn=>by
    have BG:=mZ x ae;exact iC (chain [tT 47 ((x:Int)<s.ik.length) ae,iX ((x:Int)) (s.ik.length) ae,tF 55 ((s.ik.getD x 0)<0) ae,iX ((x:Int)) (s.ik.length) ae,
     iu (s.iq+(s.gX.length:Int)) ae,tF 68 ((s.iq+(s.gX.length:Int))<=(s.ik.getD x 0)) ae,iu ((x:Int)+1) ae]<|.nil) ah)
  (λhx=>by
    exact iC (chain [tF 47 ((s.ik.length:Int)<s.ik.length) ae]<|.nil) ah) ak:jv 9 Tryz.f50 (Y9 s 0) (.exit 2) ⟨70,true,[],[]⟩) .nil]<|.nil) ah 
theorem amP(s:jt)(g:s.jg)(sm:s.mj):gW 50 [(.agg [(iP s.iq),(jL s.gX),(jP s.ik)])] (bP (xm s)):=by
 by_cases c1:0<=s.iq/\s.iq<=8/\s.gX.length<=200/\s.ik.length<=200
 rotate_left
 .rw [show xm s=false by unfold xm;rw[aU c1];rfl]
  exact amK s g sm c1
 obtain⟨i0,i8,l1,l2⟩:=c1;by_cases c2:Gl s=true
 rotate_left
 .rw [show xm s=false by unfold xm;rw[aO c2];simp]
  obtain⟨N,n1,n2,n3⟩:=yC c2;exact amL s g sm i0 i8 l1 l2 N n1 (λk hk=>by simpa using n3 k hk) (by simpa using n2)
 have iI:∀ k,k<s.gX.length->jG (s.gX.getD k iY) (s.iq+(k:Int))=true:=λk hk=>bH.1 c2 k (bI.2 hk)
 by_cases c3:vY s=true
 .rw [show xm s=true by unfold xm;rw[aT (⟨i0,i8,l1,l2⟩:_/\_),c2,c3];rfl]
  exact amO s g sm i0 i8 l1 l2 iI λk hk=>ck (bH.1 c3 k (bI.2 hk))
 .rw [show xm s=false by unfold xm;rw[aO c3];simp]
  obtain⟨N,n1,n2,n3⟩:=yC c3;have mZ:∀ k,k<N->0<=s.ik.getD k 0/\s.ik.getD k 0<s.iq+(s.gX.length:Int):=λk hk=>by simpa[vQ]using n3 k hk
  have hN:¬(0<=s.ik.getD N 0/\s.ik.getD N 0<s.iq+(s.gX.length:Int)):=λq=>by
   rw[show vQ s (s.ik.getD N 0)=true from aT q]at n2;cases n2
  by_cases h0:s.ik.getD N 0<0
  .exact amM s g sm i0 i8 l1 l2 iI N n1 mZ h0
  .exact amN s g sm i0 i8 l1 l2 iI N n1 mZ ae ae 
theorem ajt(s:jt)(g:s.jg)(sm:s.mj)(N:Nat)(mz:N<s.gX.length)(iI:∀ k,k<N->¬(9<=(s.gX.getD k iY).kind/\(s.gX.getD k iY).kind<=13))(hN:(s.gX.getD N iY).kind=9):gW 13 [(.agg [(iP s.iq),(jL s.gX),(jP s.ik)])] (bP false):=by
 have sp:=sm.params;have so:=sm.ik;have sq:=sm.gX;exact tr true call13 func13 (chain [.s (Sp.jy (WZ s N) 0 N ae (λx hx kn=>by
    have hk:=iI x ae;exact iC (chain [tT 9 ((x:Int)<s.gX.length) ae,iX ((x:Int)) (s.gX.length) ae,tB 19 (aK ae:((s.gX.getD x iY).kind==9)=false),tB 22 (aK ae:((s.gX.getD x iY).kind==10)=false),tB 26 (aK ae:((s.gX.getD x iY).kind==11)=false),tB 30 (aK ae:((s.gX.getD x iY).kind==12)=false),tB 34 (aK ae:((s.gX.getD x iY).kind==13)=false),iu ((x:Int)+1) ae]<|.nil) ah)
  (λhx=>by
    exact iC (chain [tT 9 ((N:Int)<s.gX.length) ae,iX ((N:Int)) (s.gX.length) ae,tB 19 (aM hN)]<|.nil) ah) ak:jv 2 Tryz.f13 (WZ s N 0) .ret ⟨38,true,[(2,.e (bP false))],[]⟩) .nil]<|.nil) ah 
theorem ajp(s:jt)(g:s.jg)(sm:s.mj)(N:Nat)(mz:N<s.gX.length)(iI:∀ k,k<N->¬(9<=(s.gX.getD k iY).kind/\(s.gX.getD k iY).kind<=13))(hN:(s.gX.getD N iY).kind=10):gW 13 [(.agg [(iP s.iq),(jL s.gX),(jP s.ik)])] (bP false):=by
 have sp:=sm.params;have so:=sm.ik;have sq:=sm.gX;exact tr true call13 func13 (chain [.s (Sp.jy (WV s N) 0 N ae (λx hx kn=>by
    have hk:=iI x ae;exact iC (chain [tT 9 ((x:Int)<s.gX.length) ae,iX ((x:Int)) (s.gX.length) ae,tB 19 (aK ae:((s.gX.getD x iY).kind==9)=false),tB 22 (aK ae:((s.gX.getD x iY).kind==10)=false),tB 26 (aK ae:((s.gX.getD x iY).kind==11)=false),tB 30 (aK ae:((s.gX.getD x iY).kind==12)=false),tB 34 (aK ae:((s.gX.getD x iY).kind==13)=false),iu ((x:Int)+1) ae]<|.nil) ah)
  (λhx=>by
    exact iC (chain [tT 9 ((N:Int)<s.gX.length) ae,iX ((N:Int)) (s.gX.length) ae,tB 19 (aK ae:((s.gX.getD N iY).kind==9)=false),tB 22 (aM hN)]<|.nil) ah) ak:jv 2 Tryz.f13 (WV s N 0) .ret ⟨38,true,[(2,.e (bP false))],[]⟩) .nil]<|.nil) ah 
theorem ajq(s:jt)(g:s.jg)(sm:s.mj)(N:Nat)(mz:N<s.gX.length)(iI:∀ k,k<N->¬(9<=(s.gX.getD k iY).kind/\(s.gX.getD k iY).kind<=13))(hN:(s.gX.getD N iY).kind=11):gW 13 [(.agg [(iP s.iq),(jL s.gX),(jP s.ik)])] (bP false):=by
 have sp:=sm.params;have so:=sm.ik;have sq:=sm.gX;exact tr true call13 func13 (chain [.s (Sp.jy (WW s N) 0 N ae (λx hx kn=>by
    have hk:=iI x ae;exact iC (chain [tT 9 ((x:Int)<s.gX.length) ae,iX ((x:Int)) (s.gX.length) ae,tB 19 (aK ae:((s.gX.getD x iY).kind==9)=false),tB 22 (aK ae:((s.gX.getD x iY).kind==10)=false),tB 26 (aK ae:((s.gX.getD x iY).kind==11)=false),tB 30 (aK ae:((s.gX.getD x iY).kind==12)=false),tB 34 (aK ae:((s.gX.getD x iY).kind==13)=false),iu ((x:Int)+1) ae]<|.nil) ah)
  (λhx=>by
    exact iC (chain [tT 9 ((N:Int)<s.gX.length) ae,iX ((N:Int)) (s.gX.length) ae,tB 19 (aK ae:((s.gX.getD N iY).kind==9)=false),tB 22 (aK ae:((s.gX.getD N iY).kind==10)=false),tB 26 (aM hN)]<|.nil) ah) ak:jv 2 Tryz.f13 (WW s N 0) .ret ⟨38,true,[(2,.e (bP false))],[]⟩) .nil]<|.nil) ah 
theorem ajr(s:jt)(g:s.jg)(sm:s.mj)(N:Nat)(mz:N<s.gX.length)(iI:∀ k,k<N->¬(9<=(s.gX.getD k iY).kind/\(s.gX.getD k iY).kind<=13))(hN:(s.gX.getD N iY).kind=12):gW 13 [(.agg [(iP s.iq),(jL s.gX),(jP s.ik)])] (bP false):=by
 have sp:=sm.params;have so:=sm.ik;have sq:=sm.gX;exact tr true call13 func13 (chain [.s (Sp.jy (WX s N) 0 N ae (λx hx kn=>by
    have hk:=iI x ae;exact iC (chain [tT 9 ((x:Int)<s.gX.length) ae,iX ((x:Int)) (s.gX.length) ae,tB 19 (aK ae:((s.gX.getD x iY).kind==9)=false),tB 22 (aK ae:((s.gX.getD x iY).kind==10)=false),tB 26 (aK ae:((s.gX.getD x iY).kind==11)=false),tB 30 (aK ae:((s.gX.getD x iY).kind==12)=false),tB 34 (aK ae:((s.gX.getD x iY).kind==13)=false),iu ((x:Int)+1) ae]<|.nil) ah)
  (λhx=>by
    exact iC (chain [tT 9 ((N:Int)<s.gX.length) ae,iX ((N:Int)) (s.gX.length) ae,tB 19 (aK ae:((s.gX.getD N iY).kind==9)=false),tB 22 (aK ae:((s.gX.getD N iY).kind==10)=false),tB 26 (aK ae:((s.gX.getD N iY).kind==11)=false),tB 30 (aM hN)]<|.nil) ah) ak:jv 2 Tryz.f13 (WX s N 0) .ret ⟨38,true,[(2,.e (bP false))],[]⟩) .nil]<|.nil) ah 
theorem ajs(s:jt)(g:s.jg)(sm:s.mj)(N:Nat)(mz:N<s.gX.length)(iI:∀ k,k<N->¬(9<=(s.gX.getD k iY).kind/\(s.gX.getD k iY).kind<=13))(hN:(s.gX.getD N iY).kind=13):gW 13 [(.agg [(iP s.iq),(jL s.gX),(jP s.ik)])] (bP false):=by
 have sp:=sm.params;have so:=sm.ik;have sq:=sm.gX;exact tr true call13 func13 (chain [.s (Sp.jy (WY s N) 0 N ae (λx hx kn=>by
    have hk:=iI x ae;exact iC (chain [tT 9 ((x:Int)<s.gX.length) ae,iX ((x:Int)) (s.gX.length) ae,tB 19 (aK ae:((s.gX.getD x iY).kind==9)=false),tB 22 (aK ae:((s.gX.getD x iY).kind==10)=false),tB 26 (aK ae:((s.gX.getD x iY).kind==11)=false),tB 30 (aK ae:((s.gX.getD x iY).kind==12)=false),tB 34 (aK ae:((s.gX.getD x iY).kind==13)=false),iu ((x:Int)+1) ae]<|.nil) ah)
  (λhx=>by
    exact iC (chain [tT 9 ((N:Int)<s.gX.length) ae,iX ((N:Int)) (s.gX.length) ae,tB 19 (aK ae:((s.gX.getD N iY).kind==9)=false),tB 22 (aK ae:((s.gX.getD N iY).kind==10)=false),tB 26 (aK ae:((s.gX.getD N iY).kind==11)=false),tB 30 (aK ae:((s.gX.getD N iY).kind==12)=false),tB 34 (aM hN)]<|.nil) ah) ak:jv 2 Tryz.f13 (WY s N 0) .ret ⟨38,true,[(2,.e (bP false))],[]⟩) .nil]<|.nil) ah 
theorem aju(s:jt)(g:s.jg)(sm:s.mj)(iI:∀ k,k<s.gX.length->¬(9<=(s.gX.getD k iY).kind/\(s.gX.getD k iY).kind<=13)):gW 13 [(.agg [(iP s.iq),(jL s.gX),(jP s.ik)])] (bP (xm s)):=by
 have sp:=sm.params;have so:=sm.ik;have sq:=sm.gX;exact tr true call13 func13 (chain [.s (Sp.jy (W0 s) 0 s.gX.length ae (λx hx kn=>by
    have hk:=iI x ae;exact iC (chain [tT 9 ((x:Int)<s.gX.length) ae,iX ((x:Int)) (s.gX.length) ae,tB 19 (aK ae:((s.gX.getD x iY).kind==9)=false),tB 22 (aK ae:((s.gX.getD x iY).kind==10)=false),tB 26 (aK ae:((s.gX.getD x iY).kind==11)=false),tB 30 (aK ae:((s.gX.getD x iY).kind==12)=false),tB 34 (aK ae:((s.gX.getD x iY).kind==13)=false),iu ((x:Int)+1) ae]<|.nil) ah)
  (λhx=>by
    exact iC (chain [tF 9 ((s.gX.length:Int)<s.gX.length) ae]<|.nil) ah) ak:jv 2 Tryz.f13 (W0 s 0) (.exit 0) ⟨38,true,[(1,.box 1 0)],[(1,.cells 25 [(iP s.iq),(jL s.gX),(jP s.ik)])]⟩) .nil,.c (amP s g sm)]<|.nil) ah 
theorem ajv(s:jt)(g:s.jg)(sm:s.mj):gW 13 [(.agg [(iP s.iq),(jL s.gX),(jP s.ik)])] (bP (DS s)):=by
 unfold DS;by_cases c:((List.range s.gX.length).all λi=>!CZ (s.gX.getD i iY))=true
 .rw [c,dF]
  exact aju s g sm λi hi q=>by
   have h:=bH.1 c i (bI.2 hi);rw[show CZ (s.gX.getD i iY)=true from aT q]at h;cases h
 .rw [aO c,Bool.false_and]
  obtain⟨N,n1,n2,n3⟩:=yC c;have iI:∀ k,k<N->¬(9<=(s.gX.getD k iY).kind/\(s.gX.getD k iY).kind<=13):=λk hk=>by simpa[CZ]using n3 k hk
  have hN:9<=(s.gX.getD N iY).kind/\(s.gX.getD N iY).kind<=13:=by simpa[CZ]using n2
  rcases(show(s.gX.getD N iY).kind=9\/(s.gX.getD N iY).kind=10\/(s.gX.getD N iY).kind=11\/(s.gX.getD N iY).kind=12\/(s.gX.getD N iY).kind=13 by omega)with h|h|h|h|h
  .exact ajt s g sm N n1 iI h
  .exact ajp s g sm N n1 iI h
  .exact ajq s g sm N n1 iI h
  .exact ajr s g sm N n1 iI h
  .exact ajs s g sm N n1 iI h
theorem agF(s:jt)(g:s.jg)(sm:s.mj):gW 24 [(lg s)] (bP (DS s)):=
 tr true call24 func24 (chain [.c (ajv s g sm)]<|.nil) ah 
theorem afP(s:jt)(g:s.jg)(sm:s.mj)(x:List RI)(gx:∀ i,(x.getD i ju).jg)(lv:x.length<=1000)(d:RD)(gd:d.jg)(p:Int)(b:List RI)(gb:∀ i,(b.getD i ju).jg)(nn:b.length<=1000)(hf:mQ s x d p=false):gW 64 [(lg s),(j8 x),(mf d),(j8 b),(iP p)] (.v (.slice none 0 0)):=
 tr true call64 func64 (chain [.c (by rw[<-hf];exact Sn s g sm x gx lv d gd p:gW 107 [(lg s),(j8 x),(mf d),(iP p)] (bP false))]<|.nil) ah 
theorem afQ(s:jt)(g:s.jg)(sm:s.mj)(x:List RI)(gx:∀ i,(x.getD i ju).jg)(lv:x.length<=1000)(d:RD)(gd:d.jg)(p:Int)(b:List RI)(gb:∀ i,(b.getD i ju).jg)(nn:b.length<=1000)(hf:mQ s x d p=true)(C7:qs s.iA b=false):gW 64 [(lg s),(j8 x),(mf d),(j8 b),(iP p)] (.v (.slice none 0 0)):=
 tr true call64 func64 (chain [.c (by rw[<-hf];exact Sn s g sm x gx lv d gd p:gW 107 [(lg s),(j8 x),(mf d),(iP p)] (bP true)),.c (by rw[<-C7];exact KN s b gb nn:gW 113 [(lg s),(j8 b)] (bP false))]<|.nil) ah 
theorem TR(s:jt)(x:List RI)(d:RD)(b:List RI)(p:Int)(hi:gW 64 [(lg s),(j8 x),(mf d),(j8 b),(iP p)] (.v (.slice none 0 0))):gW 23 [(lg s),(j8 x),(mf d),(j8 b),(iP p)] (bP false):=
 tr true call23 func23 (chain [.c (hi:gW 64 [(lg s),(j8 x),(mf d),(j8 b),(iP p)] _),tB 20 (ag:(decide ((0:Int)<0))=false)]<|.nil) ah 
theorem MF(s:jt)(g:s.jg)(sm:s.mj)(x:List RI)(gx:∀ i,(x.getD i ju).jg)(lv:x.length<=1000)(d:RD)(gd:d.jg)(p:Int)(b:List RI)(gb:∀ i,(b.getD i ju).jg)(nn:b.length<=1000):gW 23 [(lg s),(j8 x),(mf d),(j8 b),(iP p)] (bP (ur s x d b p)):=by
 unfold ur;cases hf:mQ s x d p with
 |false=>exact TR s x d b p (afP s g sm x gx lv d gd p b gb nn hf)
 |true=>
  cases C7:qs s.iA b with
  |false=>exact TR s x d b p (afQ s g sm x gx lv d gd p b gb nn hf C7)
  |true=>
   obtain⟨o1,o2,o3,o4,p1,p2,e1,e2,e3⟩:=So g gx gd hf;obtain⟨o5,e4⟩:=Qu gb C7;rw[e1,e2,e3,e4];obtain⟨q,rfl⟩:=dD (show 0<=p by omega);exact wV s.v (x.map RI.iv) d.dy (b.map RI.iv) q o1 o2 o3 o4 o5 ae ae 
end Go.Proofs.YtkjkcjhacddojaaGreatDoor
namespace Go.Proofs.YtkjkcjhacddojaaGreatDoor.Fp
theorem SJ{T p:Nat}{E:Int}(hT:ie T=p)(hp:1<=p){g:Rat}(hg:GM p g):g<=(T:Rat)*P2 E\/((T+1:Nat):Rat)*P2 E<=g:=by
 obtain⟨gm,ge,b1,b2,b3,rfl⟩:=hg;by_cases hc:E<=ge
 .rw [sB (K:=E) hc (b6 _),sB (K:=E) (b6 _) hc,show(E-E).toNat=0 by omega]
  omega
 .left
  rw[sB (K:=ge) (b6 _) ae,show(ge-ge).toNat=0 by omega,bO,bQ];have h1:gm<2^p:=kR.1 b1;have h2:2^(p-1)<=T:=sA.1 ae;have h3:2^1<=2^(E-ge).toNat:=bj ag ae;have h4:=cL h2 h3;rw[<-aX,show p-1+1=p by omega]at h4;omega
theorem ahN{T p:Nat}{E:Int}(hT:ie T=p)(hp:1<=p)(h1:-16384<=E)(h2:(p:Int)+E<=16384){v:Rat}(xN:(T:Rat)*P2 E<=v)(rZ:v<((T+1:Nat):Rat)*P2 E):Dn p v (canon false T E) 0:=by
 have e:(canon false T E).q=(T:Rat)*P2 E:=by rw[qP];simp
 have h0:0<=(T:Rat)*P2 E:=bM cG (bw (ni E));refine⟨λ_=>⟨by rw[e];exact .inl ⟨T,E,ae,h1,ae,rfl⟩,by rw[e];exact xN⟩,λg hg Mv=>⟨rfl,?_⟩⟩;rw[e];by_cases EW:0<=g
 .rcases SJ (E:=E) hT hp (hg.pos EW)with k|k
  .exact k
  .exfalso;grind
 .grind
theorem ahP{T p:Nat}{E:Int}(hT:ie T=p)(hp:1<=p)(h1:-16384<=E)(h2:(p:Int)+E+1<=16384){v:Rat}(xN:(T:Rat)*P2 E<v)(rZ:v<=((T+1:Nat):Rat)*P2 E):Up p v (canon false (T+1) E) 0:=by
 have e:(canon false (T+1) E).q=((T+1:Nat):Rat)*P2 E:=by rw[qP];simp
 have h0:0<=(T:Rat)*P2 E:=bM cG (bw (ni E));refine⟨λ_=>⟨?_,by rw[e];exact rZ⟩,λg hg Mv=>⟨rfl,?_⟩⟩
 .rw [e]
  have iE:T<2^p:=kR.1 ae;by_cases hb:T+1<2^p
  .exact .inl ⟨T+1,E,kR.2 hb,h1,by have:=kR.2 hb;omega,rfl⟩
  .refine .inl ⟨1,(p:Int)+E,by rw[u5];exact hp,ae,by rw[u5];omega,?_⟩
   rw[show T+1=2^p by omega,qq,uY,show((1:Nat):Rat)=1 from rfl,eC]
 .rw [e]
  have EW:0<=g:= aq ;rcases SJ (E:=E) hT hp (hg.pos EW)with k|k
  .exfalso;grind
  .exact k
theorem adz{T p:Nat}{E:Int}(hT:ie T=p)(h1:-16384<=E)(h2:(p:Int)+E<=16384){v:Rat}(hv:v=(T:Rat)*P2 E):Up p v (canon false T E) 0:=by
 have e:(canon false T E).q=(T:Rat)*P2 E:=by rw[qP];simp
 exact⟨λ_=>⟨by rw[e];exact .inl ⟨T,E,ae,h1,ae,rfl⟩,by rw[e,hv];exact bV⟩,λg _ hg=>⟨rfl,by rw[e,<-hv];exact hg⟩⟩
theorem acA{p:Nat}{v:Rat}{D D':Dy}{E':Int}(h:Dn p v D 0)(k:Dn p v D' E')(hc:D.kN)(yP:D'.kN):E'=0/\D'=D:=by
 obtain⟨g,hl⟩:=h.1 rfl;obtain⟨he,hle⟩:=k.2 _ g hl;obtain⟨g',pM⟩:=k.1 he;obtain⟨_,Dc⟩:=h.2 _ g' pM;exact⟨he,JE yP hc (dR Dc hle)⟩
theorem amJ{p:Nat}{v:Rat}{D D':Dy}{E':Int}(h:Up p v D 0)(k:Up p v D' E')(hc:D.kN)(yP:D'.kN):E'=0/\D'=D:=by
 obtain⟨g,hl⟩:=h.1 rfl;obtain⟨he,hle⟩:=k.2 _ g hl;obtain⟨g',pM⟩:=k.1 he;obtain⟨_,Dc⟩:=h.2 _ g' pM;exact⟨he,JE yP hc (dR hle Dc)⟩
end Go.Proofs.YtkjkcjhacddojaaGreatDoor.Fp
namespace Go.Proofs.YtkjkcjhacddojaaGreatDoor
open Go.RowKit Fp Pu
theorem U5{n k:Nat}(h1:4294967296^k<=n)(h2:n<4294967296^(k+1)):(gV n).length=k+1:=by
 have a:=rj h2;have b:¬(gV n).length<=k:=λq=>absurd (uF q) ae 
 omega
theorem BW(v:Nat):v<4294967296^(gV v).length:=uF (aV _)
theorem FA{v l:Nat}(h:(gV v).length=l):iL v l=gV v:=h▸Ld v
theorem AK(v k:Nat):(gV v).getD k 0=iB v k:=by rw[pI (kE v),jC]
theorem ach{v:Nat}(h:lW v 0 (gV v).length=0):iL (2*v) (gV v).length=gV (2*v):=by
 have h1:=BW v;unfold lW at h;rw[bC h1,bB]at h;have h2:2*v<4294967296^(gV v).length:=by
  rcases dK (2*v) (4294967296^(gV v).length)with q|q
  .exact q
  .have:=fS q (pw _);omega
 have a:=rj h2;have b:=me (show v<=2*v by omega);exact FA ae 
theorem aci{v:Nat}(h:lW v 0 (gV v).length≠0):iL (2*v) ((gV v).length+1)=gV (2*v)/\iB (2*v) (gV v).length=lW v 0 (gV v).length:=by
 have h1:=BW v;have e:=(Hr (r:=v) (b:=0) ag (gV v).length)
 have h0:iB v (gV v).length=0:=u9 h1 (aV _);refine⟨FA (U5 ?_ ?_),by have:=e.1;rw[bB,h0]at this;simpa using this⟩
 .unfold lW at h
  rw[bC h1,bB]at h;exact fj λq=>h (bW q)
 .rw [a6];omega
theorem akW{v:Nat}(h0:v≠0)(he:v%2=0):(gV v).set 0 (iB v 0+1)=gV (v+1):=by
 rw[zh h0,zh (show v+1≠0 by omega),anM];unfold iB;rw[bO,dG,show(v+1)%4294967296=v%4294967296+1 by omega,show(v+1)/4294967296=v/4294967296 by omega]
theorem aid(a:Nat)(h:a<4294967296)(he:a%2=0):bits .or .u32 (a:Int) 1=((a+1:Nat):Int):=by
 have:=JB (a/2) 1 ag;rwa[show 2*(a/2)%4294967296=a by omega]at this
theorem Jb{v N:Nat}(iI:∀ k,k<N->iB v k=4294967295):∀ k,k<=N->iB 1 k+jB v 1 k=1
 | 0,_=>by rw[Hj];decide
 |k+1,h=>by
  have a:=yB v 1 k;have b:=Jb iI k ae;have c:=iI k ae;have d:=pH (v+1) k;have e:=tp v 1 (k+1);have f:iB 1 (k+1)=0:=u9 (k:=1) ag ae;omega
theorem Ux{v N:Nat}(iI:∀ k,k<N->iB v k=4294967295){k:Nat}(h:k<N):iB (v+1) k=0:=by
 have a:=yB v 1 k;have b:=Jb iI k ae;have c:=iI k h;have d:=pH (v+1) k;have e:=tp v 1 (k+1);omega
theorem afZ{v N:Nat}(iI:∀ k,k<N->iB v k=4294967295)(hd:iB v N≠4294967295):iB (v+1) N=iB v N+1/\jB v 1 (N+1)=0:=by
 have a:=yB v 1 N;have b:=Jb iI N (aV _);have c:=pH v N;have d:=pH (v+1) N;have e:=tp v 1 (N+1);omega
theorem Uw{v N:Nat}(hc:jB v 1 (N+1)=0):∀ j,jB v 1 (N+1+j)=0/\iB (v+1) (N+1+j)=iB v (N+1+j)
 | 0=>by
  have a:=yB v 1 (N+1);have f:iB 1 (N+1)=0:=u9 (k:=1) ag ae;have c:=pH v (N+1);have e:=tp v 1 (N+1+1);have d:=pH (v+1) (N+1);rw[bB];omega
 |j+1=>by
  obtain⟨h1,h2⟩:=Uw hc j;have a:=yB v 1 (N+1+j);have f:iB 1 (N+1+j)=0:=u9 (k:=1) ag ae;have h3:jB v 1 (N+1+(j+1))=0:=by
   rw[show N+1+(j+1)=N+1+j+1 by omega];have d:=pH (v+1) (N+1+j);omega
  have a:=yB v 1 (N+1+(j+1));have f:iB 1 (N+1+(j+1))=0:=u9 (k:=1) ag ae;have c:=pH v (N+1+(j+1));have d:=pH (v+1) (N+1+(j+1));have e:=tp v 1 (N+1+(j+1)+1);omega
theorem ahO{v N:Nat}(hN:N<(gV v).length)(iI:∀ k,k<N->iB v k=4294967295)(hd:iB v N≠4294967295):(kJ 0 v N (gV v).length).set N (iB v N+1)=gV (v+1):=by
 obtain⟨h1,h2⟩:=afZ iI hd;have ht:=BW v;have iE:v+1<4294967296^(gV v).length:=by
  rcases dK (v+1) (4294967296^(gV v).length)with q|q
  .exact q
  .exfalso
   have e:v+1=4294967296^(gV v).length:= ae ;have h3:iB (v+1) N=0:=by
    rw[e];unfold iB;obtain⟨j,hj⟩:∃ j,(gV v).length=N+(j+1):=⟨(gV v).length-N-1,ae⟩
    rw[hj,aX,an5 _ (pw N),a6,eJ]
   omega
 have hl:(gV (v+1)).length=(gV v).length:=Nat.le_antisymm (rj iE) (me (Nat.le_succ v));rw[<-FA hl];unfold kJ iL;apply gH aj;intro i i1 i2;have i3:i<(gV v).length:=by simpa using i2
 rw[an1,gI,gI,an2];by_cases hi:N=i
 .subst hi;rw[aS rfl,h1]
 .rw [aR hi]
  by_cases wQ:i<N
  .rw [aS wQ,Bn,Ux iI wQ]
  .rw [aR wQ]
   have:=(Uw h2 (i-(N+1))).2;rw[show N+1+(i-(N+1))=i by omega]at this;exact this.symm
theorem ahM{v:Nat}(iI:∀ k,k<(gV v).length->iB v k=4294967295):iL (v+1) (gV v).length=iL 0 (gV v).length/\iB (v+1) (gV v).length=1/\iL (v+1) ((gV v).length+1)=gV (v+1):=by
 have e:iL (v+1) (gV v).length=iL 0 (gV v).length:=by
  unfold iL;apply fe;intro k hk;rw[Ux iI (bI.1 hk),Bn]
 have ht:=BW v;have hv:=uV (v+1) (gV v).length;rw[e,uV,Nat.zero_mod]at hv;have pX:4294967296^(gV v).length<=v+1:=fj λq=>by rw[bC q]at hv;omega
 refine⟨e,?_,FA (U5 pX (by rw[a6];have:=pw (gV v).length;omega))⟩;have a:=yB v 1 (gV v).length;have b:=Jb iI _ (aV _);have c:iB v (gV v).length=0:=u9 ht (aV _);have d:=pH (v+1) (gV v).length;have f:=tp v 1 ((gV v).length+1);omega
theorem YN{v l:Nat}(hl:(gV v).length=l+1):iB v l≠0/\ie v=32*l+ie (iB v l):=by
 have h1:=BW v;rw[hl]at h1;have h2:4294967296^l<=v:=fj λq=>by have:=rj q;omega
 have h3:iB v l≠0:=by
  unfold iB;have a:=fS h2 (pw l);have b:v/4294967296^l<4294967296:=by rw[bS (pw l),bc,<-a6];exact h1
  rw[bC b];omega
 exact⟨h3,QB h1 h3⟩
theorem aaW{v l:Nat}(_:(gV v).length=l+1):ie (iB v l)<=32:=kR.2 (pH v l)
theorem aaK{t x:Nat}(h:x<32-ie t):t/2^(31-x)%2=0:=by
 have h1:=oY t;have h2:=bj (show 0<2 by decide) (show ie t<=31-x by omega);rw[bW ae]
theorem aaM{t x:Nat}(h0:t≠0)(h:x=32-ie t)(hb:ie t<=32):t/2^(31-x)%2=1:=by
 have h1:=oY t;have h2:=rH h0;have h3:=mY h0;have e:31-x=ie t-1:= ae ;rw[e];have h4:2^ie t=2*2^(ie t-1):=by
  obtain⟨k,hk⟩:∃ k,ie t=k+1:=⟨ie t-1,ae⟩
  rw[hk,dI,a6,bc]
 have h5:t/2^(ie t-1)<2:=by rw[bS (aZ ag)];omega
 have h6:=fS h2 (aZ (n:=ie t-1) (show 0<2 by decide));omega
theorem Qz{v i:Nat}:iB v (i/32)/2^(i%32)%2=v/2^i%2:=by
 by_cases h:i/32<(gV v).length
 .have:=KP (kE v) i h
  rw[jC]at this;rw[this,<-AK,aW,bg h];rfl
 .have h1:=BW v
  have h2:=bj (show 0<4294967296 by decide) (fj h);have h3:v<4294967296^(i/32):= ae ;rw[u9 h3 (aV _),fN];have h4:4294967296^(i/32)<=2^i:=by rw[nP];exact bj ag ae 
  rw[bW ae]
theorem aaL{v i:Nat}(h:32*(gV v).length<=i):v/2^i%2=0:=by
 have h1:=BW v;rw[nP]at h1;have h2:=bj (show 0<2 by decide) h;rw[bW ae]
theorem Jj(w k:Nat):w%2^(k+1)=w%2^k+w/2^k%2*2^k:=by
 rw[a6,fM,bc (2^k)]
theorem N4{w k:Nat}(hk:k<32)(hw:w<4294967296):bits .or .u32 ((w%2^k:Nat):Int) ((w/2^k%2*2^k:Nat):Int)=((w%2^(k+1):Nat):Int):=by
 have a:=bh w (aZ (n:=k) (show 0<2 by decide));have b:=bh (w/2^k) (show 0<2 by decide);have c:=Jj w k;have d:=dp w (2^(k+1));have e:=dp w (2^k);rw[Gz _ _ ae ae,AR _ _ _ a,c]
theorem OT{b k:Nat}(hk:k<32)(hb:b<=1):IntKind.u32.wrap ((b:Int)*2^k)=((b*2^k:Nat):Int):=by
 have h1:b*2^k<=1*2^31:=cL hb (bj ag ae);rw[IntKind.wrap_u32];have e:((b:Int)*2^k)=((b*2^k:Nat):Int):=by
  rw[dN,Int.natCast_pow];rfl
 rw[e];omega
theorem Ro{w y k:Nat}(hk:k<32):iB w y/2^k%2=w/2^(32*y+k)%2:=by
 have:=Qz (v:=w) (i:=32*y+k);rwa[show(32*y+k)/32=y by omega,show(32*y+k)%32=k by omega]at this
theorem Fz{w y:Nat}:y<(gV w).length↔32*y<ie w:=by
 constructor
 .intro h
  obtain⟨l,hl⟩:∃ l,(gV w).length=l+1:=⟨(gV w).length-1,ae⟩
  obtain⟨a,b⟩:=YN hl;have:=mY a;omega
 .intro h
  apply gG;intro q;have h1:=uF q;rw[nP]at h1;have:=kR.2 h1;omega
theorem QC{v s:Nat}(h:s<=ie v):ie (v/2^s)=ie v-s:=by
 by_cases h0:v/2^s=0
 .rw [h0,q8]
  have h1:v<2^s:=by
   rcases dK v (2^s)with q|q
   .exact q
   .have:=fS q (aZ ag);omega
  have:=kR.2 h1;omega
 .have h2:v≠0:=λq=>h0 (by rw[q,fN])
  have a:=oY v;have b:=rH h2;have hs:s<ie v:=by
   rcases dK s (ie v)with q|q
   .exact q
   .exfalso;apply h0;apply bW
    exact bF a (bj ag q)
  obtain⟨k,hk⟩:∃ k,ie v=s+(k+1):=⟨ie v-s-1,ae⟩
  rw[hk]at a b;rw[hk,Nat.add_sub_cancel_left];refine u4 ?_ ?_
  .rw [cM (aZ ag),<-aX]
   rw[show s+(k+1)-1=k+s by omega]at b;exact b
  .rw [bS (aZ ag),<-aX,dZ (k+1)]
   exact a
theorem acb{v:Nat}(h:v≠0):jQ v<ie v:=by
 have:=DM h;exact sA.2 this
def QA(v l N:Nat)(x:Nat):PS:=⟨29,true,[(4,.e (iP (((31-x):Nat):Int))),(3,.e (iP l)),(0,.e (gY (gV v)))],[]⟩
def JZ(v:Nat)(x:Nat):PS:=⟨38,false,[(5,.own 5),(7,.e (iP x)),(6,.e (.v (.int .u32 (lW v 0 x:Int)))),(0,.e (gY (gV v)))],[(5,.row false 150 x 1 (jd (iL (2*v) x)))]⟩
theorem aaO(v l N:Nat)(hl:(gV v).length=l+1)(hs:l<=1000000)(h0:((gV v).getD l 0)≠0)(hN:N=32-ie ((gV v).getD l 0))(Mj:ie ((gV v).getD l 0)<=32)(jb:1<=ie ((gV v).getD l 0))(hv:ie v=32*l+ie ((gV v).getD l 0)):gW 348 [(gY (gV v))] (iP (ie v)):=
 tr true call348 func348 (chain [iu (((gV v).length:Int)-1) ae,.o 7 (.int ae:PV.le (.e (iP (((gV v).length:Int)-1))) (.e (iP l))),.u 70,tT 9 (0<=(l:Int)) ae,.s (Sp.jy (QA v l N) 0 N ae (λx hx kn=>by
    have hX:=(kE v).getD l;have hd:=bD ((gV v).getD l 0) (2^(31-x));have hb:=aaK (t:=((gV v).getD l 0)) (x:=x) ae;exact iC (chain [tT 13 (0<=(((31-x):Nat):Int)) ae,iX ((l:Int)) ((gV v).length) ae,.a (ae:0<=((((31-x):Nat):Int):Int)/\((((31-x):Nat):Int):Int)<=((32:Nat):Int)),.o 21 (.int (zK _ _):PV.le (.e (.v (.int .u32 (((((gV v).getD l 0):Nat):Int)/2^(31-x))))) (.e (.v (.int .u32 (((((gV v).getD l 0)/2^(31-x)):Nat):Int))))),.o 22 (.int (Kh _ ae):PV.le (.e (.v (.int .u32 (bits .and .u32 (((((gV v).getD l 0)/2^(31-x)):Nat):Int) 1)))) (.e (.v (.int .u32 ((((((gV v).getD l 0)/2^(31-x))%2):Nat):Int))))),tB 23 (aK ae:(((((((gV v).getD l 0)/2^(31-x))%2):Nat):Int)==1)=false),iu ((((31-x):Nat):Int)-1) ae]<|.e (chain [.o 4 (.int ae:PV.le (.e (iP ((((31-x):Nat):Int)-1))) (.e (iP (((31-(x+1)):Nat):Int))))]<|.nil)) ah)
  (λhx=>by
    have hX:=(kE v).getD l;have hd:=bD ((gV v).getD l 0) (2^(31-N));have hb:=aaM (t:=((gV v).getD l 0)) (x:=N) h0 hN Mj;exact iC (chain [tT 13 (0<=(((31-N):Nat):Int)) ae,iX ((l:Int)) ((gV v).length) ae,.a (ae:0<=((((31-N):Nat):Int):Int)/\((((31-N):Nat):Int):Int)<=((32:Nat):Int)),.o 21 (.int (zK _ _):PV.le (.e (.v (.int .u32 (((((gV v).getD l 0):Nat):Int)/2^(31-N))))) (.e (.v (.int .u32 (((((gV v).getD l 0)/2^(31-N)):Nat):Int))))),.o 22 (.int (Kh _ ae):PV.le (.e (.v (.int .u32 (bits .and .u32 (((((gV v).getD l 0)/2^(31-N)):Nat):Int) 1)))) (.e (.v (.int .u32 ((((((gV v).getD l 0)/2^(31-N))%2):Nat):Int))))),tB 23 (aM ae:(((((((gV v).getD l 0)/2^(31-N))%2):Nat):Int)==1)=true),iu (32*(l:Int)) ae,iu ((((32*l):Nat):Int)+(((31-N):Nat):Int)) ae,
    iu (((((32*l)+(31-N)):Nat):Int)+1) ae]<|.nil) ah) ak:jv 5 f348 (QA v l N 0) .ret ⟨29,true,[(2,.e (iP (((((32*l)+(31-N))+1):Nat):Int)))],[]⟩) (chain [.o 4 (.int ae:PV.le (.e (iP 31)) (.e (iP (((31-0):Nat):Int))))]<|.nil)]<|rQ (iP (((((32*l)+(31-N))+1):Nat):Int)) (iP (ie v)) (congrArg iP ae)) ah 
theorem aaP : gW 348 [(gY (gV 0))] (iP 0):=by
 have z:(gV 0).length=0:=by rw[na];rfl
 exact tr true call348 func348 (chain [iu (((gV 0).length:Int)-1) ae,.u 70,tF 9 (0<=(((gV 0).length:Int)-1)) (by rw[na];decide)]<|.nil) ah 
theorem Hc(v:Nat)(h:(gV v).length<=1000000):gW 348 [gY (gV v)] (iP (ie v)):=by
 rcases hl:(gV v).length with _|l
 .obtain rfl:=qZ.1 hl
  exact aaP
 .obtain ⟨a,b⟩:=YN hl
  have c:=aaW hl;have d:=mY a;rw[<-AK]at a b c d;exact aaO v l _ hl ae a rfl c d b
theorem Hb(v i:Nat)(h:(gV v).length<=1000000)(hi:i<=1000000000):gW 349 [(gY (gV v)),(iP i)] (iP ((v/2^i%2:Nat):Int)):=by
 have hX:=(kE v).getD (i/32);have hd:=bD ((gV v).getD (i/32) 0) (2^(i%32));exact tr true call349 func349 (chain [tF 6 ((i:Int)<0) ae,iu (32*((gV v).length:Int)) ae]<|.w ((((32*(gV v).length):Nat):Int)<=i)
  (λk1=>chain [tB 12 (aT k1)]<|rQ (iP 0) (iP ((v/2^i%2:Nat):Int)) (congrArg (λx:Nat=>iP (x:Int)) (aaL ae).symm))
  (λk1=>chain [tB 12 (aU k1),.a (ae:0<(32:Int)),iu ((i:Int)) ae,iX ((((i/32):Nat):Int)) ((gV v).length) ae,.a (ae:0<(32:Int)),.a (ae:0<=((((i%32):Nat):Int):Int)/\((((i%32):Nat):Int):Int)<=((32:Nat):Int)),.o 21 (.int (zK _ _):PV.le (.e (.v (.int .u32 (((((gV v).getD (i/32) 0):Nat):Int)/2^(i%32))))) (.e (.v (.int .u32 (((((gV v).getD (i/32) 0)/2^(i%32)):Nat):Int))))),.o 22 (.int (Kh _ ae):PV.le (.e (.v (.int .u32 (bits .and .u32 (((((gV v).getD (i/32) 0)/2^(i%32)):Nat):Int) 1)))) (.e (.v (.int .u32 ((((((gV v).getD (i/32) 0)/2^(i%32))%2):Nat):Int))))),.o 23 (.int (MY _ ae):PV.le (.e (iP (IntKind.i64.wrap ((((((gV v).getD (i/32) 0)/2^(i%32))%2):Nat):Int)))) (.e (iP ((((((gV v).getD (i/32) 0)/2^(i%32))%2):Nat):Int))))]<|rQ (iP ((((((gV v).getD (i/32) 0)/2^(i%32))%2):Nat):Int)) (iP ((v/2^i%2:Nat):Int)) (by rw[AK,Qz]))) ah 
theorem akX(v:Nat)(h:(gV v).length<=1000000)(oM:(lW v 0 (gV v).length)=0):gW 346 [(gY (gV v)),(.v (.int .u64 0))] (gY (gV (2*v))):=
 tr false call346 func346 (chain [.o 9 (.int ag:PV.le (.e (.v (.int .u32 (IntKind.u32.wrap 0)))) (.e (.v (.int .u32 0)))),.y 5 5 false 150 1 (jd (iL (2*v) 0)),.s (Sp.jy (JZ v) 0 ((gV v).length) ae (λx hx kn=>by
    have he:=Hr (r:=v) (b:=0) ag x;rw[bB,<-AK v x]at he;have hc:=Hq (r:=v) (b:=0) ag x;have hX:=(kE v).getD x;have hz:(((2*((gV v).getD x 0)%4294967296)+(lW v 0 x):Nat):Int)=(iB (2*v) x:Int):=by rw[he.1]
    have hq:((gV v).getD x 0)/2^31=lW v 0 (x+1):=by rw[he.2]
    exact iC (chain [tT 13 ((x:Int)<((gV v).length:Int)) ae,iX ((x:Int)) ((gV v).length) ae,.a (ae:0<=(1:Int)/\(1:Int)<=((32:Nat):Int)),.o 21 (.int (OS _):PV.le (.e (.v (.int .u32 (IntKind.u32.wrap (((((gV v).getD x 0):Nat):Int)*2^1))))) (.e (.v (.int .u32 (((2*((gV v).getD x 0)%4294967296):Nat):Int))))),.o 23 (.int (JB _ _ hc):PV.le (.e (.v (.int .u32 (bits .or .u32 (((2*((gV v).getD x 0)%4294967296):Nat):Int) (lW v 0 x:Int))))) (.e (.v (.int .u32 ((((2*((gV v).getD x 0)%4294967296)+(lW v 0 x)):Nat):Int))))),.a (ae:(x+1)*4<=140737488355328),iX ((x:Int)) ((gV v).length) ae,.a (ae:0<=(31:Int)/\(31:Int)<=((32:Nat):Int)),.o 30 (.int (zK _ _):PV.le (.e (.v (.int .u32 (((((gV v).getD x 0):Nat):Int)/2^31)))) (.e (.v (.int .u32 (((((gV v).getD x 0)/2^31):Nat):Int))))),iu ((x:Int)+1) ae]<|.e (chain [.o 6 (.int (by rw[hq]):PV.le (.e (.v (.int .u32 (((((gV v).getD x 0)/2^31):Nat):Int)))) (.e (.v (.int .u32 (lW v 0 (x+1):Int))))),.b 5 (AJ rfl hz:Bx.le (.row false 150 (x+1) 1 (λi_ j_=>if i_<x then(jd (iL (2*v) x)) i_ j_ else(E.ml (.sl false 1 1 λi_ j_=>[(.v (.int .u32 ((((2*((gV v).getD x 0)%4294967296)+(lW v 0 x)):Nat):Int)))].getD (i_*1+j_) (.v (.bool false)))) (i_-x) j_)) (.row false 150 (x+1) 1 (jd (iL (2*v) (x+1)))))]<|.nil)) ah)
  (λhx=>by
    exact iC (chain [tF 13 (((gV v).length:Int)<((gV v).length:Int)) ae]<|.nil) ah) ak:jv 4 f346 (JZ v 0) (.exit 0) ⟨38,false,[(5,.own 5),(6,.e (.v (.int .u32 (((lW v 0 (gV v).length):Nat):Int))))],[(5,.row false 150 ((gV v).length) 1 (jd (iL (2*v) ((gV v).length))))]⟩) (chain [.o 6 (.int (by rw[Lc];rfl):PV.le (.e (.v (.int .u32 0))) (.e (.v (.int .u32 (lW v 0 0:Int)))))]<|.nil),tB 32 (BZ oM:((((lW v 0 (gV v).length):Nat):Int) != 0)=false)]<|rQ (.sl false ((gV v).length) 1 (jd (iL (2*v) ((gV v).length)))) (gY (gV (2*v))) (by rw[A9 (mK _ _).symm,ach oM])) ah 
theorem agQ{N l c:Nat}{L:List Nat}(h1:iL N (l+1)=L)(h2:iB N l=c):E.le (.sl false (l+1) 1 λi_ j_=>if i_<l then jd (iL N l) i_ j_ else(E.ml (.sl false 1 1 λi_ j_=>[(.v (.int .u32 (c:Int)))].getD (i_*1+j_) (.v (.bool false)))) (i_-l) j_) (gY L):=by
 subst h1 h2;rw[<-A9 (mK N (l+1)).symm];refine .sl λi j hi hj=>?_
 obtain rfl:j=0:= ae ;by_cases h:i<l
 .simp only[h,bn]
  exact⟨.iS (by unfold jd;rw[tv h,tv ae]),rfl⟩
 .obtain rfl:i=l:= ae 
  simp only[fk,a7,cU];exact⟨.iS (by unfold jd;rw[tv ae];rfl),rfl⟩
theorem akY(v:Nat)(h:(gV v).length<=1000000)(oM:(lW v 0 (gV v).length)≠0):gW 346 [(gY (gV v)),(.v (.int .u64 0))] (gY (gV (2*v))):=by
 obtain⟨h1,h2⟩:=aci oM;exact tr false call346 func346 (chain [.o 9 (.int ag:PV.le (.e (.v (.int .u32 (IntKind.u32.wrap 0)))) (.e (.v (.int .u32 0)))),.y 5 5 false 150 1 (jd (iL (2*v) 0)),.s (Sp.jy (JZ v) 0 ((gV v).length) ae (λx hx kn=>by
    have he:=Hr (r:=v) (b:=0) ag x;rw[bB,<-AK v x]at he;have hc:=Hq (r:=v) (b:=0) ag x;have hX:=(kE v).getD x;have hz:(((2*((gV v).getD x 0)%4294967296)+(lW v 0 x):Nat):Int)=(iB (2*v) x:Int):=by rw[he.1]
    have hq:((gV v).getD x 0)/2^31=lW v 0 (x+1):=by rw[he.2]
    exact iC (chain [tT 13 ((x:Int)<((gV v).length:Int)) ae,iX ((x:Int)) ((gV v).length) ae,.a (ae:0<=(1:Int)/\(1:Int)<=((32:Nat):Int)),.o 21 (.int (OS _):PV.le (.e (.v (.int .u32 (IntKind.u32.wrap (((((gV v).getD x 0):Nat):Int)*2^1))))) (.e (.v (.int .u32 (((2*((gV v).getD x 0)%4294967296):Nat):Int))))),.o 23 (.int (JB _ _ hc):PV.le (.e (.v (.int .u32 (bits .or .u32 (((2*((gV v).getD x 0)%4294967296):Nat):Int) (lW v 0 x:Int))))) (.e (.v (.int .u32 ((((2*((gV v).getD x 0)%4294967296)+(lW v 0 x)):Nat):Int))))),.a (ae:(x+1)*4<=140737488355328),iX ((x:Int)) ((gV v).length) ae,.a (ae:0<=(31:Int)/\(31:Int)<=((32:Nat):Int)),.o 30 (.int (zK _ _):PV.le (.e (.v (.int .u32 (((((gV v).getD x 0):Nat):Int)/2^31)))) (.e (.v (.int .u32 (((((gV v).getD x 0)/2^31):Nat):Int))))),iu ((x:Int)+1) ae]<|.e (chain [.o 6 (.int (by rw[hq]):PV.le (.e (.v (.int .u32 (((((gV v).getD x 0)/2^31):Nat):Int)))) (.e (.v (.int .u32 (lW v 0 (x+1):Int))))),.b 5 (AJ rfl hz:Bx.le (.row false 150 (x+1) 1 (λi_ j_=>if i_<x then(jd (iL (2*v) x)) i_ j_ else(E.ml (.sl false 1 1 λi_ j_=>[(.v (.int .u32 ((((2*((gV v).getD x 0)%4294967296)+(lW v 0 x)):Nat):Int)))].getD (i_*1+j_) (.v (.bool false)))) (i_-x) j_)) (.row false 150 (x+1) 1 (jd (iL (2*v) (x+1)))))]<|.nil)) ah)
  (λhx=>by
    exact iC (chain [tF 13 (((gV v).length:Int)<((gV v).length:Int)) ae]<|.nil) ah) ak:jv 4 f346 (JZ v 0) (.exit 0) ⟨38,false,[(5,.own 5),(6,.e (.v (.int .u32 (((lW v 0 (gV v).length):Nat):Int))))],[(5,.row false 150 ((gV v).length) 1 (jd (iL (2*v) ((gV v).length))))]⟩) (chain [.o 6 (.int (by rw[Lc];rfl):PV.le (.e (.v (.int .u32 0))) (.e (.v (.int .u32 (lW v 0 0:Int)))))]<|.nil),tB 32 (FP oM:((((lW v 0 (gV v).length):Nat):Int) != 0)=true),.a (ae:((gV v).length+1)*4<=140737488355328)]<|rR (gY (gV (2*v))) (agQ h1 h2:E.le (.sl false ((gV v).length+1) 1 (λi_ j_=>if i_<(gV v).length then(jd (iL (2*v) ((gV v).length))) i_ j_ else(E.ml (.sl false 1 1 λi_ j_=>[(.v (.int .u32 (((lW v 0 (gV v).length):Nat):Int)))].getD (i_*1+j_) (.v (.bool false)))) (i_-(gV v).length) j_)) (gY (gV (2*v))))) ah 
theorem X1(v:Nat)(h:(gV v).length<=1000000):gW 346 [gY (gV v),.v (.int .u64 0)] (gY (gV (2*v))):=by
 by_cases hc:(lW v 0 (gV v).length)=0
 .exact akX v h hc
 .exact akY v h hc
theorem agT{L M:List Nat}{n z:Nat}(hn:n=0+L.length)(hs:L.set 0 z=M):E.le (.sl false n 1 λi' j'=>if i'=0/\0<=j'/\j'<0+1 then[(.v (.int .u32 (z:Int)))].getD (j'-0) .any else(λi_ j_=>if i_<0 then(λi_ j_=>([]:List E).getD (i_*1+j_) (.v (.bool false))) i_ j_ else(E.ml (gY L)) (i_-0) j_) i' j') (gY M):=by
 subst hs;have e:n=(L.set 0 z).length:=by rw[cw];omega
 rw[<-A9 e];refine .sl λi j hi hj=>?_
 obtain rfl:j=0:= ae ;have oH:i<L.length:= ae ;by_cases h:i=0
 .subst h
  simp only[true_and,aV,anW,bn,bX];exact⟨.iS (by show _=E.v (.int .u32 (((L.set 0 z).getD 0 0:Nat):Int));rw[aW (l:=L.set 0 z),List.getElem?_set_self oH];rfl),rfl⟩
 .simp only[h,false_and,a7,bk,dj]
  exact⟨.iS (by show E.v (.int .u32 (L.getD i 0:Int))=_;unfold jd;rw[aW,aW,gv (λq=>h q.symm)]),rfl⟩
theorem akU : gW 347 [(gY (gV 0))] (gY (gV (0+1))):=
 tr true call347 func347 (chain [tB 6 (by rw[na];rfl:(((gV 0).length:Int)==0)=true),.o 7 (.e r9:PV.le (.e (.sl false 1 1 λi_ j_=>[(.v (.int .u32 1))].getD (i_*1+j_) (.v (.bool false)))) (.e (gY (gV 1))))]<|.nil) ah 
theorem akT(v:Nat)(hl:1<=(gV v).length)(hs:(gV v).length<=1000000)(he:v%2=0):gW 347 [(gY (gV v))] (gY (gV (v+1))):=by
 have hX:=(kE v).getD 0;have pL:((gV v).getD 0 0)%2=0:=by rw[AK];unfold iB;rw[bO,dG];omega
 have h0:v≠0:=λq=>by subst q;rw[na]at hl;exact absurd hl ag 
 exact tr false call347 func347 (chain [tB 6 (aK ae:(((gV v).length:Int)==0)=false),.bo,.a (ae:(0+(gV v).length)*4<=140737488355328),iX (0) ((0+(gV v).length)) ae,.a (ae:0<(0+(gV v).length)),.o 15 (.int (aid _ hX pL):PV.le (.e (.v (.int .u32 (bits .or .u32 ((((gV v).getD 0 0):Nat):Int) 1)))) (.e (.v (.int .u32 (((((gV v).getD 0 0)+1):Nat):Int))))),
  iX (0) ((0+(gV v).length)) ae,.a (ae:0<(0+(gV v).length))]<|rR (gY (gV (v+1))) (agT ae (by rw[AK];exact akW h0 he):E.le (.sl false (0+(gV v).length) 1 (λi' j'=>if i'=0/\0<=j'/\j'<0+1 then[(.v (.int .u32 (((((gV v).getD 0 0)+1):Nat):Int)))].getD (j'-0) .any else(λi_ j_=>if i_<0 then(λi_ j_=>([]:List E).getD (i_*1+j_) (.v (.bool false))) i_ j_ else(E.ml (gY (gV v))) (i_-0) j_) i' j')) (gY (gV (v+1))))) ah 
theorem X0(v:Nat)(hs:(gV v).length<=1000000)(he:v%2=0):gW 347 [gY (gV v)] (gY (gV (v+1))):=by
 by_cases h:(gV v).length=0
 .obtain rfl:=qZ.1 h
  exact akU
 .exact akT v ae hs he
theorem aaN(v:Nat)(A:Option Addr)(c:Nat)(w:World)(hs:Sl w A c (gV v))(hT:Tb w)(h:(gV v).length<=1000000):
 Calls prog 348 #[.slice A (gV v).length c] w (λe w'=>e = .returned (.int .i64 (ie v:Int))/\iz w w'):=by
 refine((Hc v h).run w (λ_=>False) [_] hT (λ_ h=>h.elim) (.cons (yg (λ_ h=>h.elim) (iz.refl w) hs) (.nil _ _ _))).mono ?_;rintro e w' ⟨x,rfl,hb,hr⟩;obtain rfl:=iH.kP hr;exact⟨rfl,hb⟩
theorem aaI(v i:Nat)(A:Option Addr)(c:Nat)(w:World)(hs:Sl w A c (gV v))(hT:Tb w)(h:(gV v).length<=1000000)(hi:i<=1000000000):
 Calls prog 349 #[.slice A (gV v).length c,.int .i64 (i:Int)] w (λe w'=>e = .returned (.int .i64 ((v/2^i%2:Nat):Int))/\iz w w'):=by
 refine((Hb v i h hi).run w (λ_=>False) [_,_] hT (λ_ h=>h.elim) (.cons (yg (λ_ h=>h.elim) (iz.refl w) hs) (.cons (.v _) (.nil _ _ _)))).mono ?_;rintro e w' ⟨x,rfl,hb,hr⟩;obtain rfl:=iH.kP hr;exact⟨rfl,hb⟩
theorem Ow.yL{w:World}{base:Nat}{v:Value}{L:List Nat}(h:Ow w base v L){g:Nat}(hg:g<base)(i:Nat)(u:Value):Ow (w.setCell ⟨g,i,none⟩ u) base v L:=
 ⟨ownsRow_setCell_below h.row hg u,h.ok⟩
theorem Ow.ext{w w':World}{base:Nat}{v:Value}{L:List Nat}(h:Ow w base v L)(hb:iz w w'):Ow w' base v L:=by
 refine⟨⟨h.row.1,?_⟩,h.ok⟩;rcases h.row.2 with q|⟨g,cap,cur,e1,e2,e3,r⟩
 .exact .inl q
 .exact .inr ⟨g,cap,cur,e1,e2,by rw[hb.block g (cQ.1 e3).1];exact e3,r⟩
theorem Ow.mono{w:World}{base base':Nat}{v:Value}{L:List Nat}(h:Ow w base v L)(hb:base'<=base):Ow w base' v L:=by
 refine⟨⟨h.row.1,?_⟩,h.ok⟩;rcases h.row.2 with q|⟨g,cap,cur,e1,e2,r⟩
 .exact .inl q
 .exact .inr ⟨g,cap,cur,e1,aY hb e2,r⟩
theorem jk.akS{w:World}{g n c:Nat}{s:Bool}{A:Option Addr}{e:Int}(h:jk w g s A n c e)(A':Option Addr)(n' c':Nat):jk (w.setCell ⟨g,1,none⟩ (.slice A' n' c')) g s A' n' c' e:=heap_setCell_same w g 1 _ _ (.slice A' n' c') h
theorem jk.grown{w w':World}{g n c base:Nat}{s:Bool}{A:Option Addr}{e:Int}{v:Value}{L:List Nat}(h:jk w g s A n c e)(ho:Ow w base v L)(hg:w.grownBy w' v.ownBlock)(hb:g<base):jk w' g s A n c e:=
 (hg.block g h.lt (λq=>by have:=(ho.row.lt g q.symm).1;omega)).trans h
theorem ag9(v:Nat)(e:Int)(A:Option Addr)(c:Nat)(w:World)(h0:v≠0)(hs:Sl w A c (gV v))(hT:Tb w)(hl:(gV v).length<=1000)(kT:-100000<=e)(kA:e<=100000):
 Calls prog 350 #[.bool false,.slice A (gV v).length c,.int .i64 e] w (ua w (canon false v e)):=by
 have oM:=aol (show canon false v e=⟨false,v/2^jQ v,e+jQ v⟩by unfold canon;rw[aR h0]);have hZ:=acb h0;have hB:ie v<=32*1000:=by
  have:=uF (aV (gV v).length);rw[nP]at this;have:=kR.2 this;omega
 have pO:(((ie v:Int)==0))=false:=aK ae;have Bw:=aol (λA c w (hs:Sl w A c (gV v)) hT=>aaN v A c w hs hT ae);have tC:=aol (λi A c w (hs:Sl w A c (gV v)) hT hi=>aaI v i A c w hs hT ae hi);obtain⟨m,hm⟩:∃ m,m=(gV v).length:=⟨_,rfl⟩
 rw[<-hm]at Bw tC ⊢;have HM:=aol hm;clear hm;obtain⟨n,hn⟩:∃ n,n=ie v:=⟨_,rfl⟩
 rw[<-hn]at Bw hZ hB pO;have HN:=aol hn;clear hn;obtain⟨Z,Mc⟩:∃ Z,Z=jQ v:=⟨_,rfl⟩
 rw[<-Mc]at hZ oM;have HZ:=aol Mc;clear Mc;go_enter func350,ntmps350;go_wp2_with fail;refine(Bw.out A c _ (hs.alloc _) (hT.alloc _)).mono ?_;rintro e' w1 ⟨rfl,jb⟩;go_wp2;have y7:∀ k,k<Z->v/2^k%2=0:=λk hk=>by rw[HZ.out]at hk;exact Qy h0 hk
 have tK:v/2^Z%2=1:=by rw[HZ.out];exact Qx h0
 have HZ1:=aol y7;clear y7;have HZ2:=aol tK;clear tK;have rW:=hs.below ((iz.alloc w _).trans jb);have hT1:=hT.below ((iz.alloc w _).trans jb);have xd:=(iz.alloc w _).trans jb;go_loopw [8] (λi wr=>∃ k:Nat,k<=Z/\i = .int .i64 (k:Int)/\iz w1 wr) (λi _=>Z-(intOf i).toNat)
 case atStart=>exact⟨0,bN _,rfl,iz.refl _⟩
 case round=>
  obtain⟨k,hk,rfl,mn⟩:=hrel;have kB:=rW.below mn;have wI:=hT1.below mn;have ri:=xd.trans mn;go_wp2_with fail;refine(tC.out k A c _ kB wI ae).mono ?_;rintro e'' w3 ⟨rfl,pz⟩;by_cases hkZ:k<Z
  .rw [HZ1.out k hkZ]
   have y6:IntKind.i64.wrap ((k:Int)+1)=((k+1:Nat):Int):=by rw[IntKind.wrap_i64];omega
   go_wp2;go_roundw
   case rel=>exact⟨k+1,ae,by go_num,mn.trans pz⟩
   case measure=>simp[intOf];omega
  .obtain rfl:k=Z:= ae 
   rw[HZ2.out];have hx3:=ri.trans pz;have Dj:=kB.below pz;have hT3:=wI.below pz;have I3:IntKind.i64.wrap (e+(k:Int))=e+(k:Int):=by rw[IntKind.wrap_i64];omega
   go_wp2;have Hf:=jk.new w3 false none 0 0 (e+(k:Int));have Ug:=jb.trans (mn.trans pz);have hg:=Ug.size;have Uf:=Ug.trans (iz.alloc w3 (.cells #[.bool false,.slice none 0 0,.int .i64 (e+(k:Int))] 39));obtain⟨g9,Tz⟩:∃ g,g=w3.heap.size:=⟨_,rfl⟩
   rw[<-Tz]at Hf hg ⊢;generalize w3.alloc (.cells #[.bool false,.slice none 0 0,.int .i64 (e+(k:Int))] 39)=w5 at *
   clear Tz;have uz:=hs.alloc (.cells #[.bool false,.slice none 0 0,.int .i64 0] 39);have hTW:=hT.alloc (.cells #[.bool false,.slice none 0 0,.int .i64 0] 39);have bx6:=jk.new w false none 0 0 0;generalize hW:w.alloc (.cells #[.bool false,.slice none 0 0,.int .i64 0] 39)=W at *
   have hwW:iz w W:=hW▸iz.alloc w _;have IA:g9<w5.heap.size:=Hf.lt;obtain⟨V,hV⟩:∃ V,V=v/2^k:=⟨_,rfl⟩
   have HV:=aol hV;rw[<-hV]at oM;have hVb:ie V+k=n:=by rw[hV,QC (by rw[<-HN.out];omega),<-HN.out];omega
   have Ti:∀ i,i<1000000->v/2^(k+i)%2=V/2^i%2:=λi _=>by rw[hV,cA,<-aX]
   have HBV:=aol Ti;clear Ti hV;have Ta:∀ y,y<(gV V).length↔32*y<ie V:=λy=>Fz
   have HYB:=aol Ta;clear Ta;obtain⟨Y,hY⟩:∃ Y,Y=(gV V).length:=⟨_,rfl⟩
   rw[<-hY]at HYB;have HY:=aol hY;clear hY;obtain⟨E9,SR⟩:∃ E9,E9=e+(k:Int):=⟨_,rfl⟩
   rw[<-SR]at oM Hf;clear SR;go_loopw [10] (λi wr=>∃ (y:Nat) (O:List Nat) (OA:Option Addr) (Oc:Nat),y<=Y/\i = .int .i64 ((k+32*y:Nat):Int)/\O=(gV V).take y/\Ow wr w5.heap.size (.slice OA O.length Oc) O/\jk wr g9 false OA O.length Oc E9/\iz W wr/\w5.heap.size<=wr.heap.size) (λi _=>k+32*Y-(intOf i).toNat)
   case atStart=>exact⟨0,[],none,0,bN _,by go_num,aj,Ow.nil _ _,Hf,Uf,aV _⟩
   case round=>
    obtain⟨y,O,OA,Oc,hy,rfl,hO,lk,iV,Fk,lO⟩:=hrel;have hsr:=uz.below Fk;have Iz:=hTW.below Fk;obtain⟨I,hI⟩:∃ I,I=k+32*y:=⟨_,rfl⟩
    rw[<-hI];by_cases iE:y<Y
    .have h1:=(HYB.out y).1 iE
     have ht:decide ((I:Int)<n)=true:=aT ae;have AB:I<n:= ae ;have Ff:decide (I<n)=true:=aT AB;have hIb:I<=40000:= ae ;have hD:iB V y<4294967296:=pH V y;have Th:∀ j,j<32->v/2^(I+j)%2=iB V y/2^j%2:=λj hj=>by
      rw[hI,cF,HBV.out _ ae,Ro hj]
     have HBD:=aol Th;clear Th;have HI:=aol hI;clear hI;go_wp2;go_loopw [11,12] (λx q wj=>∃ j:Nat,j<=32/\x = .int .u32 ((iB V y%2^j:Nat):Int)/\q = .int .i64 (j:Int)/\iz wr wj) (λ_ q _=>32-(intOf q).toNat)
     case atStart=>exact⟨0,bN _,by simp[cI],rfl,iz.refl _⟩
     case round=>
      obtain⟨j,hj,rfl,rfl,By⟩:=hrel;by_cases II:j<32
      .have rX:decide ((j:Int)<32)=true:=aT ae 
       have y6:IntKind.i64.wrap ((I:Int)+j)=((I+j:Nat):Int):=by rw[IntKind.wrap_i64];omega
       go_wp2_with fail;refine(tC.out (I+j) A c _ (hsr.below By) (Iz.below By) ae).mono ?_;rintro e3 w6 ⟨rfl,hb6⟩;rw[HBD.out j II];have afc:iB V y/2^j%2<=1:= ae ;have ho:=N4 II hD;generalize iB V y/2^j%2=b at *
       have IV:bits .or .u32 ((iB V y:Int)%2^j) ((b:Int)*2^j)=((iB V y%2^(j+1):Nat):Int):=by rw[<-ho];congr 1<;>simp
       have HO:=aol IV;clear ho IV;have hcv:IntKind.u32.wrap (b:Int)=b:=by rw[IntKind.wrap_u32];omega
       have BK:=OT II afc;have hw4:IntKind.i64.wrap ((j:Int)+1)=((j+1:Nat):Int):=by rw[IntKind.wrap_i64];omega
       go_wp2;go_roundw
       case rel=>exact⟨j+1,ae,congrArg (Value.int .u32) HO.out,by go_num,By.trans hb6⟩
       case measure=>simp[intOf];omega
      .obtain rfl:j=32:= ae 
       have Tn:iB V y%2^32=iB V y:=bC (by simpa using hD);rw[Tn];have Mk:=iV.ext By;have MH:=lk.ext By;have b1:=Mk.c1;have f1:=Mk.fr 1;have SV:O++[iB V y]=(gV V).take (y+1):=by
        have Aw:y<(gV V).length:=by rw[<-HY.out];exact iE
        have:=AK V y;rw[aW,bg Aw]at this;rw[anU,bg Aw,hO,<-this];rfl
       have HON:=aol SV;clear SV;clear hO HBD Tn;generalize iB V y=z at *
       have hO4:O.length<=3000:=by
        have:=HON.out▸(show(O++[z]).length=O.length+1 by simp);rw[b8]at this;omega
       have T5:O.length+[z].length<=10000000000:= av ;have afp:w5.heap.size<=wr.heap.size:=aY lO By.size;have I6:=Fk.trans By;have hw5:IntKind.i64.wrap ((I:Int)+32)=((I+32:Nat):Int):=by rw[IntKind.wrap_i64];omega
       have ae6:W.heap.size<=w5.heap.size:=Uf.size;go_wp2_with (at_builtin;go_must (refine q7 ai _ _ ai w5.heap.size _ O ai (MH.alloc _) _ _ _ [z] ai ai (Sl.s6 _ _ z ae ae) T5 (qe afp _) ?_);intro v' w7 TS Mu anu;obtain⟨OA7,Oc7,rfl,anC⟩:=TS.sl;have KT:=(Mk.alloc _).grown (MH.alloc _) Mu IA;have b7:=KT.c1;have f7:=KT.fr 1)
       go_roundw
       case rel=>
        refine⟨y+1,O++[z],OA7,Oc7,ae,congrArg (Value.int .i64) (by have:=HI.out;omega),HON.out,TS.yL IA 1 _,(by rw[ch];exact KT.akS _ _ _),((I6.trans (iz.alloc _ _)).own _ _ ((MH.alloc _).mono ae6) Mu).setCell hg _,?_⟩;have:=Mu.size;simp[World.setCell]at this ⊢;omega
       case measure=>have:=HI.out;simp[intOf];omega
    .have hyY:y=Y:= ae 
     have AB:¬I<n:=by
      intro q;have:=(HYB.out y).2 ae;omega
     have ht:decide ((I:Int)<n)=false:=aU ae;have Ff:decide (I<n)=false:=aU AB;have hOV:O=gV V:=by rw[hO,ct (by rw[<-HY.out];omega)]
     obtain⟨OA',Oc',heq,yY⟩:=lk.sl;cases heq;have b0:=iV.c0;have b1:=iV.c1;have b2:=iV.c2;have Ag:=bx6.ext Fk;have c0:=Ag.c0;have c1:=Ag.c1;have c2:=Ag.c2;have f0:=Ag.fr 0;have f1:=Ag.fr 1;have f2:=Ag.fr 2;clear hI hO HYB;go_wp2;rw[oM.out];subst hOV;exact sP rfl rfl rfl (Ag.set _ _ _ _ _) rfl (Ag.qC yY _ _ _ _ _) (jk.qo (hwW.trans Fk) (aV _) _ _ _ _ _)
theorem Vh(v:Nat)(e:Int)(h0:v≠0)(hl:(gV v).length<=1000)(kT:-100000<=e)(kA:e<=100000):gW 350 [bP false,gY (gV v),iP e] (gZ (canon false v e)):=by
 refine⟨call350,λw B vs hK hB hr=>?_⟩;obtain⟨v1,vs,rfl,h1,hr⟩:=hr.mg;obtain⟨v2,vs,rfl,h2,hr⟩:=hr.mg;obtain⟨v3,vs,rfl,h3,hr⟩:=hr.mg;obtain rfl:=hr.qk;obtain rfl:=iH.kP h1;obtain rfl:=iH.kP h3;obtain⟨A,c,rfl,s1⟩:=uO (kE v) h2;exact(ag9 v e A c w h0 s1 hK hl kT kA).mono λe w' h=>rd B w e w' hB h
def jM(n d y:Nat):Nat:=n*2^y/d
def kZ(n d y:Nat):Nat:=n*2^y%d
theorem Lq(n d y:Nat):n*2^(y+1)=d*(2*jM n d y)+2*kZ n d y:=by
 have:=bY (n*2^y) d;unfold jM kZ;rw[a6,<-bd,cE];omega
theorem acX{n d y:Nat}(hd:0<d)(h:2*kZ n d y<d):kZ n d (y+1)=2*kZ n d y/\jM n d (y+1)=2*jM n d y:=by
 constructor
 .conv=>lhs;unfold kZ
  rw[Lq n d y,dA,bC h]
 .conv=>lhs;unfold jM
  rw[Lq n d y,dc hd,bW h,bB]
theorem acY{n d y:Nat}(hd:0<d)(h:¬2*kZ n d y<d):kZ n d (y+1)=2*kZ n d y-d/\jM n d (y+1)=2*jM n d y+1:=by
 have hr:kZ n d y<d:=bh _ hd;have e:n*2^(y+1)=d*(2*jM n d y+1)+(2*kZ n d y-d):=by
  rw[Lq n d y,bt,bQ];omega
 constructor
 .conv=>lhs;unfold kZ
  rw[e,dA,bC ae]
 .conv=>lhs;unfold jM
  rw[e,dc hd,bW ae,bB]
theorem RQ{n d:Nat}(hn:1<=n)(hd:1<=d)(tD:d<=1073741824)(p:Nat):∃ K,K<p+31/\(∀ y,y<K->ie (jM n d y)<p)/\p<=ie (jM n d K):=by
 have hx:p<=ie (jM n d (p+30)):=by
  refine cX (sA.2 ?_);unfold jM;rw[cM hd,aX];have h1:2^p*d<=2^p*2^30:=cg _ ae;have h2:=bE (2^p*2^30) hn;rw[bK]at h2;exact aY h1 h2
 obtain⟨K,h1,h2,h3⟩:=qx (n:=p+31) (p:=λy=>decide (p<=ie (jM n d y))) ⟨p+30,ae,aT hx⟩;exact⟨K,h1,λy hy=>by have:=fz (h3 y hy);omega,ck h2⟩
def oW(r m x:Nat):Bool:=decide (r=0)&&decide (m%2^x=0)
theorem CQ{r m x:Nat}:oW r m x=true↔r=0/\m%2^x=0:=by
 unfold oW;rw[bu,bU,bU]
theorem acU(r m:Nat):((r:Int)==0)=oW r m 0:=by
 rw[cS,CQ,bO,cI,gr];omega
theorem acS{r m x:Nat}(h:oW r m x=false):oW r m (x+1)=false:=by
 refine aO λq=>?_
 rw[CQ]at q;have h2:=Jj m x;have h3:m%2^x=0:= ae ;rw[CQ.2 ⟨q.1,h3⟩]at h;cases h
theorem acT{r m x:Nat}(h:oW r m x=true)(hb:m/2^x%2=0):oW r m (x+1)=true:=by
 rw[CQ]at h ⊢;refine⟨h.1,?_⟩;rw[Jj,hb,h.2,cr]
theorem acR{r m x:Nat}(hb:¬m/2^x%2=0):oW r m (x+1)=false:=by
 refine aO λq=>?_
 rw[CQ]at q;have h2:=Jj m x;have h3:m/2^x%2*2^x=0:= ae ;rcases anY.1 h3 with k|k
 .exact hb k
 .exact absurd k (dJ (aZ ag))
def lj(n d p K:Nat):Nat:=ie (jM n d K)-p
def jX(n d p K:Nat):Nat:=jM n d K/2^lj n d p K
def nM(n d p K:Nat):Int:=(0-(K:Int))+(lj n d p K:Int)
theorem XR{x y c:Rat}(hc:0<c):x<=y↔x*c<=y*c:=
 ⟨λh=>b9 h (bw hc),λh=>eB h hc⟩
section
variable {a n d l K:Nat}
theorem Wn(hd:1<=d):0<(d:Rat)*P2 (K:Int)/\(n:Rat)/(d:Rat)*((d:Rat)*P2 (K:Int))=((n*2^K:Nat):Rat):=by
 have h0:(0:Rat)<(d:Rat):=fo.2 ae;refine⟨dP h0 (ni _),?_⟩;rw[<-en,dq aq,uY,<-cP]
theorem V3:(a:Rat)*P2 ((0-(K:Int))+(l:Int))*((d:Rat)*P2 (K:Int))=((a*2^l*d:Nat):Rat):=by
 have e:P2 ((0-(K:Int))+(l:Int))*P2 (K:Int)=((2^l:Nat):Rat):=by
  rw[<-qq,show 0-(K:Int)+l+K=(l:Int)by omega,uY]
 rw[cP,cP,<-e]
 grind
theorem NM(hd:1<=d):(a:Rat)*P2 ((0-(K:Int))+(l:Int))<=(n:Rat)/(d:Rat)↔a*2^l*d<=n*2^K:=by
 obtain⟨h1,h2⟩:=Wn (n:=n) (K:=K) hd;rw[XR h1,h2,V3,cY]
theorem Oh(hd:1<=d):(n:Rat)/(d:Rat)<=(a:Rat)*P2 ((0-(K:Int))+(l:Int))↔n*2^K<=a*2^l*d:=by
 obtain⟨h1,h2⟩:=Wn (n:=n) (K:=K) hd;rw[XR h1,h2,V3,cY]
end
section
variable {n d p K:Nat}
theorem H8(hb:p<=ie (jM n d K)):ie (jX n d p K)=p:=by
 unfold jX lj;rw[QC ae];omega
theorem Lr(hd:1<=d)(kj:n<=1073741824)(hb:p<=ie (jM n d K))(hp:1<=p):lj n d p K<=31+K:=by
 unfold lj;have h1:jM n d K<=n*2^K:=bD _ _;have h2:n*2^K<2^(31+K):=by
  rw[aX];exact cD ae (aZ ag)
 have:=kR.2 (bR h1 h2);omega
theorem RO(hd:1<=d):jX n d p K*2^lj n d p K*d<=n*2^K/\n*2^K<(jX n d p K+1)*2^lj n d p K*d/\(oW (kZ n d K) (jM n d K) (lj n d p K)=true↔n*2^K=jX n d p K*2^lj n d p K*d):=by
 have h1:=bY (n*2^K) d;have h2:=bh (n*2^K) (show 0<d by omega);change d*jM n d K+kZ n d K=n*2^K at h1;change kZ n d K<d at h2;have h3:=bY (jM n d K) (2^lj n d p K);have h4:=bh (jM n d K) (aZ (n:=lj n d p K) (show 0<2 by decide));change 2^lj n d p K*jX n d p K+jM n d K%2^lj n d p K=jM n d K at h3;rw[CQ,<-h1];generalize jM n d K=M at *
 generalize kZ n d K=R at *
 generalize jX n d p K=T at *
 generalize 2^lj n d p K=q at *
 generalize M%q=s at *
 subst h3;have e1:T*q*d=d*(q*T):=by rw[bc,bc T]
 have e2:(T+1)*q*d=d*(q*T)+d*q:=by rw[bL,bK,bL,e1,bc q d]
 have e3:d*(q*T+s)=d*(q*T)+d*s:=bt _ _ _;have e4:d*s+d<=d*q:=by
  have:=cg d h4;rw[Nat.succ_eq_add_one,bt,bQ]at this;exact this
 rw[e1,e2,e3];refine⟨ae,ae,?_⟩;constructor
 .rintro ⟨rfl,rfl⟩;simp
 .intro h
  have e5:d*s=0:= ae ;refine⟨ae,?_⟩;rcases anY.1 e5 with k|k
  .omega
  .exact k
variable (hn:1<=n) (kj:n<=1073741824) (hd:1<=d) (hp:8<=p) (ia:p<=512) (hK:K<p+31) (hb:p<=ie (jM n d K))
include kj hd hp ia hK hb
theorem R3:Dn p ((n:Rat)/(d:Rat)) (canon false (jX n d p K) (nM n d p K)) 0:=by
 have hl:=Lr hd kj hb ae;obtain⟨b1,b2,_⟩:=RO (n:=n) (d:=d) (p:=p) (K:=K) hd;refine ahN (H8 hb) ae aC aC ((NM hd).2 b1) ?_;apply Rat.not_le.1;intro q;have:=(NM hd).1 q;omega
theorem R4:Up p ((n:Rat)/(d:Rat)) (if oW (kZ n d K) (jM n d K) (lj n d p K)=true then canon false (jX n d p K) (nM n d p K)else canon false (jX n d p K+1) (nM n d p K)) 0:=by
 have hl:=Lr hd kj hb ae;obtain⟨b1,b2,b3⟩:=RO (n:=n) (d:=d) (p:=p) (K:=K) hd;split
 .rename_i h
  have h:=b3.1 h;exact adz (H8 hb) aC aC (dR ((Oh hd).2 ae) ((NM hd).2 ae))
 .rename_i h
  have h:¬n*2^K=jX n d p K*2^lj n d p K*d:=λq=>h (b3.2 q)
  refine ahP (H8 hb) ae aC aC ?_ ((Oh hd).2 ae);apply Rat.not_le.1;intro q;have:=(Oh hd).1 q;omega
end
theorem amI{p:Nat}{v:Rat}{D:Dy}{E:Int}(h:Up p v D E):Dn p (-v) (iF D) E:=
 ⟨λhe=>⟨by rw[lX];exact(h.1 he).1.neg,by rw[lX];have:=(h.1 he).2;grind⟩,λg hg Mv=>by
  obtain⟨a,b⟩:=h.2 (-g) hg.neg aq;exact⟨a,by rw[lX];grind⟩⟩
theorem acz{p:Nat}{v:Rat}{D:Dy}{E:Int}(h:Dn p v D E):Up p (-v) (iF D) E:=
 ⟨λhe=>⟨by rw[lX];exact(h.1 he).1.neg,by rw[lX];have:=(h.1 he).2;grind⟩,λg hg Mv=>by
  obtain⟨a,b⟩:=h.2 (-g) hg.neg aq;exact⟨a,by rw[lX];grind⟩⟩
theorem OL{n d:Int}{p:Nat}(hp:8<=p)(ia:p<=512)(hr:lQ n d=true){lo hi:Dy}(h1:Dn p ((n:Rat)/(d:Rat)) lo 0)(h2:Up p ((n:Rat)/(d:Rat)) hi 0)(c1:lo.kN)(c2:hi.kN):nR n d p=⟨lo,hi,false⟩:=by
 obtain⟨r1,_⟩:=Gf hr;have d0:(jf d).m≠0:=M7 ae;obtain⟨A,B⟩:=Le (a:=jf n) (b:=jf d) d0 (p:=p) ae ae;rw[xX,xX]at A B;obtain⟨e1,e2⟩:=acA h1 A c1 (Hu d0 ae ae _).canon;obtain⟨e3,e4⟩:=amJ h2 B c2 (Hu d0 ae ae _).canon;unfold nR;rw[aS hr,e1,e2,e3,e4];rfl
theorem akI{d:Int}{p:Nat}(hp:8<=p)(ia:p<=512)(hr:lQ 0 d=true):nR 0 d p=⟨jA,jA,false⟩:=by
 have hz:((0:Int):Rat)/(d:Rat)=0:=by rw[cC,show((0:Int):Rat)=0 from rfl,fR]
 refine OL hp ia hr ?_ ?_ rI.canon rI.canon
 .rw [hz]
  exact⟨λ_=>⟨by rw[rk];exact .inl (wb p),by rw[rk];exact bV⟩,λg _ h=>⟨rfl,by rw[rk];exact h⟩⟩
 .rw [hz]
  exact⟨λ_=>⟨by rw[rk];exact .inl (wb p),by rw[rk];exact bV⟩,λg _ h=>⟨rfl,by rw[rk];exact h⟩⟩
section
variable {n d p K:Nat}
theorem akG(kj:n<=1073741824)(hd:1<=d)(hp:8<=p)(ia:p<=512)(hK:K<p+31)(hb:p<=ie (jM n d K))(hr:lQ (n:Int) (d:Int)=true):
 nR (n:Int) (d:Int) p=⟨canon false (jX n d p K) (nM n d p K),if oW (kZ n d K) (jM n d K) (lj n d p K)=true then canon false (jX n d p K) (nM n d p K)else canon false (jX n d p K+1) (nM n d p K),false⟩:=by
 refine OL hp ia hr (R3 kj hd hp ia hK hb) (R4 kj hd hp ia hK hb) (qV _ _ _) ?_;split<;>exact qV _ _ _
theorem akF(kj:n<=1073741824)(hd:1<=d)(hp:8<=p)(ia:p<=512)(hK:K<p+31)(hb:p<=ie (jM n d K))(hr:lQ (-(n:Int)) (d:Int)=true):
 nR (-(n:Int)) (d:Int) p=⟨iF (if oW (kZ n d K) (jM n d K) (lj n d p K)=true then canon false (jX n d p K) (nM n d p K)else canon false (jX n d p K+1) (nM n d p K)),iF (canon false (jX n d p K) (nM n d p K)),false⟩:=by
 have e:((-(n:Int):Int):Rat)/((d:Int):Rat) = -((n:Rat)/(d:Rat)):=by
  rw[fP,cC,cC,fQ];rfl
 refine OL hp ia hr ?_ ?_ (uI ?_) (uI (qV _ _ _))
 .rw [e];exact amI (R4 kj hd hp ia hK hb)
 .rw [e];exact acz (R3 kj hd hp ia hK hb)
 .split<;>exact qV _ _ _
end
def V4(v:Nat)(N:Nat)(x:Nat):PS:=⟨29,false,[(4,.e (iP x)),(3,.own 5)],[(5,.row false 150 ((gV v).length) 1 (jd (kJ 0 v x (gV v).length)))]⟩
def V5(v:Nat)(x:Nat):PS:=⟨29,false,[(4,.e (iP x)),(3,.own 5)],[(5,.row false 150 ((gV v).length) 1 (jd (kJ 0 v x (gV v).length)))]⟩
def RS(n d p:Nat)(x:Nat):PS:=⟨130,true,[(11,.e (iP (63-(x:Int)))),(10,.e (iP 0)),(9,.e (.v (.int .u64 (iN n d 64 x:Int)))),(8,.e (gY (gV (kK n d 64 x)))),(7,.box 7 0),(6,.box 6 0),(0,.e (.v (.int .u64 (n:Int)))),(1,.e (.v (.int .u64 (d:Int)))),(2,.e (iP p))],[(7,.cells 39 [(bP false),(.v (.slice none 0 0)),(iP 0)]),(6,.cells 39 [(bP false),(.v (.slice none 0 0)),(iP 0)])]⟩
def RT(n d p:Nat)(y:Nat):PS:=⟨130,true,[(10,.e (iP (0-(y:Int)))),(9,.e (.v (.int .u64 (kZ n d y:Int)))),(8,.e (gY (gV (jM n d y)))),(7,.box 7 0),(6,.box 6 0),(1,.e (.v (.int .u64 (d:Int)))),(2,.e (iP p))],[(7,.cells 39 [(bP false),(.v (.slice none 0 0)),(iP 0)]),(6,.cells 39 [(bP false),(.v (.slice none 0 0)),(iP 0)])]⟩
def RU(n d p K:Nat)(y:Nat):PS:=⟨130,false,[(15,.own 15),(16,.e (iP (((32*y):Nat):Int))),(14,.e (bP ((kZ n d K:Int)==0))),(13,.e (iP (lj n d p K:Int))),(10,.e (iP (0-(K:Int)))),(8,.e (gY (gV (jM n d K)))),(7,.box 7 0),(6,.box 6 0),(2,.e (iP p))],[(15,.row false 150 y 1 (jd (iL (jX n d p K) y))),(7,.cells 39 [(bP false),(.v (.slice none 0 0)),(iP 0)]),(6,.cells 39 [(bP false),(.v (.slice none 0 0)),(iP 0)])]⟩
def RV(n d p K y:Nat)(k:Nat):PS:=⟨130,false,[(18,.e (iP k)),(17,.e (.v (.int .u32 ((((iB (jX n d p K) y)%2^k):Nat):Int)))),(15,.own 15),(16,.e (iP (((32*y):Nat):Int))),(14,.e (bP ((kZ n d K:Int)==0))),(13,.e (iP (lj n d p K:Int))),(10,.e (iP (0-(K:Int)))),(8,.e (gY (gV (jM n d K)))),(7,.box 7 0),(6,.box 6 0),(2,.e (iP p))],[(15,.row false 150 y 1 (jd (iL (jX n d p K) y))),(7,.cells 39 [(bP false),(.v (.slice none 0 0)),(iP 0)]),(6,.cells 39 [(bP false),(.v (.slice none 0 0)),(iP 0)])]⟩
def RW(n d p K y:Nat)(k:Nat):PS:=⟨130,false,[(18,.e (iP k)),(17,.e (.v (.int .u32 ((((iB (jX n d p K) y)%2^k):Nat):Int)))),(15,.own 15),(16,.e (iP (((32*y):Nat):Int))),(14,.e (bP ((kZ n d K:Int)==0))),(13,.e (iP (lj n d p K:Int))),(10,.e (iP (0-(K:Int)))),(8,.e (gY (gV (jM n d K)))),(7,.box 7 0),(6,.box 6 0),(2,.e (iP p))],[(15,.row false 150 y 1 (jd (iL (jX n d p K) y))),(7,.cells 39 [(bP false),(.v (.slice none 0 0)),(iP 0)]),(6,.cells 39 [(bP false),(.v (.slice none 0 0)),(iP 0)])]⟩
def RX(n d p K:Nat)(x:Nat):PS:=⟨130,true,[(19,.e (iP x)),(15,.e (gY (gV (jX n d p K)))),(14,.e (bP (oW (kZ n d K) (jM n d K) x))),(13,.e (iP (lj n d p K:Int))),(10,.e (iP (0-(K:Int)))),(8,.e (gY (gV (jM n d K)))),(7,.box 7 0),(6,.box 6 0)],[(7,.cells 39 [(bP false),(.v (.slice none 0 0)),(iP 0)]),(6,.cells 39 [(bP false),(.v (.slice none 0 0)),(iP 0)])]⟩
theorem XG{T n n':Nat}{L L':List Nat}(hn:n=0+L.length)(wT:n'=L.length)(h:L'=L):Bx.le (.row false T n 1 λi_ j_=>if i_<0 then(λi_ j_=>([]:List E).getD (i_*1+j_) (.v (.bool false))) i_ j_ else(E.ml (gY L)) (i_-0) j_) (.row false T n' 1 (jd L')):=by
 subst h;refine .row ae λi j hi hj=>?_
 simp only[bk,a7,dj];exact⟨.iS rfl,rfl⟩
theorem ZV{L:List Nat}{n:Nat}(hn:n=0+L.length):E.le (.sl false n 1 λi_ j_=>if i_<0 then(λi_ j_=>([]:List E).getD (i_*1+j_) (.v (.bool false))) i_ j_ else(E.ml (gY L)) (i_-0) j_) (gY L):=by
 rw[<-A9 (show n=L.length by omega)];refine .sl λi j hi hj=>?_
 simp only[bk,a7,dj];exact⟨.iS rfl,rfl⟩
theorem ahQ{f:Nat->Nat->E}{v:Nat}(h:v=0):E.le (.sl true 0 1 f) (gY (gV v)):=by
 subst h;rw[na];intro bs br w v k;cases k with
 |sl _ _ _ _ A c g h1 h2 h3 h4 h5 h6 h7=>exact .sl false 0 1 _ A c g h1 h2 h3 (λi j hi=>absurd hi (bk i)) (λi j hi=>absurd hi (bk i)) (λi j hi=>absurd hi (bk i)) (λi j hi=>absurd hi (bk i))
theorem agU{L M:List Nat}{n p z:Nat}(hn:n=L.length)(hp:p<L.length)(hs:L.set p z=M):E.le (.sl false n 1 λi' j'=>if i'=p/\0<=j'/\j'<0+1 then[(.v (.int .u32 (z:Int)))].getD (j'-0) .any else(jd L) i' j') (gY M):=by
 subst hs;have e:n=(L.set p z).length:=by rw[cw];omega
 rw[<-A9 e];refine .sl λi j hi hj=>?_
 obtain rfl:j=0:= ae ;by_cases h:i=p
 .subst h
  simp only[true_and,aV,anW,bn,bX];exact⟨.iS (by show _=E.v (.int .u32 (((L.set i z).getD i 0:Nat):Int));rw[aW (l:=L.set i z),List.getElem?_set_self hp];rfl),rfl⟩
 .simp only[h,false_and,a7]
  exact⟨.iS (by show E.v (.int .u32 (L.getD i 0:Int))=E.v (.int .u32 (((L.set p z).getD i 0:Nat):Int));rw[aW,aW,gv (λq=>h q.symm)]),rfl⟩
theorem agR{N l n:Nat}{L:List Nat}(hn:n=l+1)(h1:iL N (l+1)=L)(h2:iB N l=1):E.le (.sl false n 1 λi_ j_=>if i_<l then(jd (iL N l)) i_ j_ else(E.ml (gY (gV 1))) (i_-l) j_) (gY L):=by
 subst hn h1;rw[<-A9 (mK N (l+1)).symm];refine .sl λi j hi hj=>?_
 obtain rfl:j=0:= ae ;by_cases h:i<l
 .simp only[h,bn]
  exact⟨.iS (by unfold jd;rw[tv h,tv ae]),rfl⟩
 .obtain rfl:i=l:= ae 
  simp only[fk,a7,cU];exact⟨.iS (by show E.v (.int .u32 (((gV 1).getD 0 0:Nat):Int))=_;unfold jd;rw[tv ae,h2,U7];rfl),rfl⟩
theorem ahL(v:Nat)(hs:(gV v).length<=1000000)(N:Nat)(hN:N<(gV v).length)(iI:∀ k,k<N->iB v k=4294967295)(hd:iB v N≠4294967295):gW 351 [(gY (gV v))] (gY (gV (v+1))):=by
 have iE:=pH v N;exact tr false call351 func351 (chain [.bo,.a (ae:(0+(gV v).length)*4<=140737488355328),.s (Sp.jy (V4 v N) 0 N ae (λx hx kn=>by
    have vv:=iI x ae;exact iC (chain [tT 11 ((x:Int)<((gV v).length:Int)) ae,iX ((x:Int)) ((gV v).length) ae,.a (ae:x<(gV v).length),.o 17 (.int (by rw[FF ae]):PV.le (.e (.v (.int .u32 ((((kJ 0 v x (gV v).length).getD x 0):Nat):Int)))) (.e (.v (.int .u32 (iB v x:Int))))),.o 18 (.int (by rw[vv,Bn];rfl):PV.le (.e (.v (.int .u32 (IntKind.u32.wrap ((iB v x:Int)+1))))) (.e (.v (.int .u32 (iB 0 x:Int))))),iX ((x:Int)) ((gV v).length) ae,.a (ae:x<(gV v).length),iX ((x:Int)) ((gV v).length) ae,.a (ae:x<(gV v).length),.o 23 (.e (.iS aj):PV.le (.e ((λi' j'=>if i'=x/\0<=j'/\j'<0+1 then[(.v (.int .u32 (iB 0 x:Int)))].getD (j'-0) .any else(jd (kJ 0 v x (gV v).length)) i' j') x 0)) (.e (.v (.int .u32 (iB 0 x:Int))))),tB 24 (BZ (Bn x):((iB 0 x:Int) != 0)=false),iu ((x:Int)+1) ae]<|.e (chain [.b 5 (DY rfl aI Jn:Bx.le (.row false 150 ((gV v).length) 1 (λi' j'=>if i'=x/\0<=j'/\j'<0+1 then[(.v (.int .u32 (iB 0 x:Int)))].getD (j'-0) .any else(jd (kJ 0 v x (gV v).length)) i' j')) (.row false 150 ((gV v).length) 1 (jd (kJ 0 v (x+1) (gV v).length))))]<|.nil)) ah)
  (λhx=>by
    exact iC (chain [tT 11 ((N:Int)<((gV v).length:Int)) ae,iX ((N:Int)) ((gV v).length) ae,.a (ae:N<(gV v).length),.o 17 (.int (by rw[FF ae]):PV.le (.e (.v (.int .u32 ((((kJ 0 v N (gV v).length).getD N 0):Nat):Int)))) (.e (.v (.int .u32 (iB v N:Int))))),.o 18 (.int aF:PV.le (.e (.v (.int .u32 (IntKind.u32.wrap ((iB v N:Int)+1))))) (.e (.v (.int .u32 (((iB v N+1):Nat):Int))))),iX ((N:Int)) ((gV v).length) ae,.a (ae:N<(gV v).length),iX ((N:Int)) ((gV v).length) ae,.a (ae:N<(gV v).length),.o 23 (.e (.iS aj):PV.le (.e ((λi' j'=>if i'=N/\0<=j'/\j'<0+1 then[(.v (.int .u32 (((iB v N+1):Nat):Int)))].getD (j'-0) .any else(jd (kJ 0 v N (gV v).length)) i' j') N 0)) (.e (.v (.int .u32 (((iB v N+1):Nat):Int))))),tB 24 (FP ae:((((iB v N+1):Nat):Int) != 0)=true)]<|.nil) ah) ak:jv 3 f351 (V4 v N 0) .ret ⟨29,false,[(2,.own 5)],[(5,.row false 150 ((gV v).length) 1 (λi' j'=>if i'=N/\0<=j'/\j'<0+1 then[(.v (.int .u32 (((iB v N+1):Nat):Int)))].getD (j'-0) .any else(jd (kJ 0 v N (gV v).length)) i' j'))]⟩) (chain [.b 5 (XG rfl rfl (by rw[FG,Ld]):Bx.le (.row false 150 (0+(gV v).length) 1 (λi_ j_=>if i_<0 then(λi_ j_=>([]:List E).getD (i_*1+j_) (.v (.bool false))) i_ j_ else(E.ml (gY (gV v))) (i_-0) j_)) (.row false 150 ((gV v).length) 1 (jd (kJ 0 v 0 (gV v).length))))]<|.nil)]<|rR (gY (gV (v+1))) (agU (by rw[uG]) (by rw[uG];exact hN) (ahO hN iI hd):E.le (.sl false ((gV v).length) 1 (λi' j'=>if i'=N/\0<=j'/\j'<0+1 then[(.v (.int .u32 (((iB v N+1):Nat):Int)))].getD (j'-0) .any else(jd (kJ 0 v N (gV v).length)) i' j')) (gY (gV (v+1))))) ah 
theorem ahJ(v:Nat)(hs:(gV v).length<=1000000)(iI:∀ k,k<(gV v).length->iB v k=4294967295):gW 351 [(gY (gV v))] (gY (gV (v+1))):=by
 obtain⟨h1,h2,h3⟩:=ahM iI;have C6:(kJ 0 v ((gV v).length) (gV v).length)=iL (v+1) (gV v).length:=by rw[Jm (aV _),h1]
 have yX:(gV 1).length=1:=by rw[U7];rfl
 exact tr false call351 func351 (chain [.bo,.a (ae:(0+(gV v).length)*4<=140737488355328),.s (Sp.jy (V5 v) 0 ((gV v).length) ae (λx hx kn=>by
    have vv:=iI x ae;exact iC (chain [tT 11 ((x:Int)<((gV v).length:Int)) ae,iX ((x:Int)) ((gV v).length) ae,.a (ae:x<(gV v).length),.o 17 (.int (by rw[FF ae]):PV.le (.e (.v (.int .u32 ((((kJ 0 v x (gV v).length).getD x 0):Nat):Int)))) (.e (.v (.int .u32 (iB v x:Int))))),.o 18 (.int (by rw[vv,Bn];rfl):PV.le (.e (.v (.int .u32 (IntKind.u32.wrap ((iB v x:Int)+1))))) (.e (.v (.int .u32 (iB 0 x:Int))))),iX ((x:Int)) ((gV v).length) ae,.a (ae:x<(gV v).length),iX ((x:Int)) ((gV v).length) ae,.a (ae:x<(gV v).length),.o 23 (.e (.iS aj):PV.le (.e ((λi' j'=>if i'=x/\0<=j'/\j'<0+1 then[(.v (.int .u32 (iB 0 x:Int)))].getD (j'-0) .any else(jd (kJ 0 v x (gV v).length)) i' j') x 0)) (.e (.v (.int .u32 (iB 0 x:Int))))),tB 24 (BZ (Bn x):((iB 0 x:Int) != 0)=false),iu ((x:Int)+1) ae]<|.e (chain [.b 5 (DY rfl aI Jn:Bx.le (.row false 150 ((gV v).length) 1 (λi' j'=>if i'=x/\0<=j'/\j'<0+1 then[(.v (.int .u32 (iB 0 x:Int)))].getD (j'-0) .any else(jd (kJ 0 v x (gV v).length)) i' j')) (.row false 150 ((gV v).length) 1 (jd (kJ 0 v (x+1) (gV v).length))))]<|.nil)) ah)
  (λhx=>by
    exact iC (chain [tF 11 (((gV v).length:Int)<((gV v).length:Int)) ae]<|.e (chain [.b 5 (.iS (by rw[C6]):Bx.le (.row false 150 ((gV v).length) 1 (jd (kJ 0 v ((gV v).length) (gV v).length))) (.row false 150 ((gV v).length) 1 (jd (iL (v+1) (gV v).length))))]<|.nil)) ah) ak:jv 3 f351 (V5 v 0) (.exit 0) ⟨29,false,[(3,.own 5)],[(5,.row false 150 ((gV v).length) 1 (jd (iL (v+1) (gV v).length)))]⟩) (chain [.b 5 (XG rfl rfl (by rw[FG,Ld]):Bx.le (.row false 150 (0+(gV v).length) 1 (λi_ j_=>if i_<0 then(λi_ j_=>([]:List E).getD (i_*1+j_) (.v (.bool false))) i_ j_ else(E.ml (gY (gV v))) (i_-0) j_)) (.row false 150 ((gV v).length) 1 (jd (kJ 0 v 0 (gV v).length))))]<|.nil),.o 27 (.e r9:PV.le (.e (.sl false 1 1 λi_ j_=>[(.v (.int .u32 1))].getD (i_*1+j_) (.v (.bool false)))) (.e (gY (gV 1)))),.a (ae:((gV v).length+(gV 1).length)*4<=140737488355328)]<|rR (gY (gV (v+1))) (agR ae h3 h2:E.le (.sl false ((gV v).length+(gV 1).length) 1 (λi_ j_=>if i_<(gV v).length then(jd (iL (v+1) (gV v).length)) i_ j_ else(E.ml (gY (gV 1))) (i_-(gV v).length) j_)) (gY (gV (v+1))))) ah 
theorem ahK(v:Nat)(hs:(gV v).length<=1000000):gW 351 [gY (gV v)] (gY (gV (v+1))):=by
 by_cases h:∃ k,k<(gV v).length/\decide (iB v k≠4294967295)=true
 .obtain ⟨N,h1,h2,h3⟩:=qx h
  exact ahL v hs N h1 (λk hk=>bG λq=>by have:=fz (h3 k hk);exact this q) (ck h2)
 .exact ahJ v hs λk hk=>bG λq=>h ⟨k,hk,aT q⟩
theorem ahC(d:Dy)(h:d.m≠0):(Dy.mk (!d.neg) d.m d.e)=iF d:=by unfold iF;simp[h]
theorem ahD(d:Dy)(hd:d.kN)(h:d.m=0):d=iF d:=by
 have:=hd;obtain⟨s,m,e⟩:=d;simp only at h;subst h;have hz:=JE hd (uI hd) (by rw[lX,qB];simp);exact hz
theorem ahF(d:Dy)(h:d.m≠0):gW 296 [(gZ d)] (gZ (iF d)):=
 tr true call296 func296 (chain [tT 6 (0<((gV d.m).length:Int)) (by have:¬(gV d.m).length=0:=λq=>h (qZ.1 q);omega)]<|rQ (gZ (Dy.mk (!d.neg) d.m d.e)) (gZ (iF d)) (by rw[ahC d h])) ah 
theorem ahE(d:Dy)(hd:d.kN)(h:d.m=0):gW 296 [(gZ d)] (gZ (iF d)):=
 tr true call296 func296 (chain [tF 6 (0<((gV d.m).length:Int)) (by have:=qZ.2 h;omega)]<|rQ (gZ d) (gZ (iF d)) (by rw[<-ahD d hd h])) ah 
theorem VS(d:Dy)(hd:d.kN):gW 296 [gZ d] (gZ (iF d)):=by
 by_cases h:d.m=0
 .exact ahE d hd h
 .exact ahF d h
theorem acV{n x:Nat}(hn:n<18446744073709551616)(hx:x<64):bits .and .u64 ((n:Int)/2^(63-(x:Int)).toNat) 1=(ji n 64 x:Int):=by
 have e:(63-(x:Int)).toNat=64-1-x:= ae ;have e2:(n:Int)/2^(64-1-x)=((n/2^(64-1-x):Nat):Int):= aj ;rw[e,e2,show(1:Int)=((1:Nat):Int)from rfl,Pg _ _ (bR (bD _ _) hn) ag,gn];rfl
theorem RN{n d y:Nat}(hn:n<=1073741824):ie (jM n d y)<=31+y/\ie (2*jM n d y)<=32+y:=by
 have h:=bD (n*2^y) d;constructor
 .refine kR.2 (bR h ?_)
  rw[aX];exact cD ae (aZ ag)
 .have h3:2*jM n d y<=2*n*2^y:=by unfold jM;rw[bd];omega
  refine kR.2 (bR h3 ?_);rw[aX];exact cD ae (aZ ag)
theorem Ez{n d y:Nat}(hn:n<=1073741824)(hy:y<=1000):(gV (jM n d y)).length<=100:=by
 have h1:=(RN (d:=d) (y:=y) hn).1;have h2:=Fz (w:=jM n d y) (y:=100);omega
theorem acW{n d y:Nat}(hn:n<=1073741824)(hy:y<=999):(gV (2*jM n d y)).length<=100:=by
 have h1:=(RN (d:=d) (y:=y) hn).2;have h2:=Fz (w:=2*jM n d y) (y:=100);omega
theorem Yc{v:Nat}(h:v<18446744073709551616):(gV v).length<=2:=rj h
theorem acZ{T p y:Nat}(hT:ie T=p)(h:p-32*y<32):iB T y<2^(p-32*y):=by
 have h1:=oY T;rw[hT]at h1;unfold iB;refine bR (dp _ _) ?_;rw[bS (pw y),nP,<-aX];exact bF h1 (bj ag ae)
theorem ac0{T p Y:Nat}(hT:ie T=p)(hp:1<=p)(hY:Y=(p+31)/32):iL T Y=gV T:=by
 apply FA;have h1:∀ y,y<(gV T).length↔32*y<ie T:=λy=>Fz
 have h2:=h1 Y;have h3:=h1 (Y-1);rw[hT]at h2 h3;omega
theorem RP{n d p K y k:Nat}(hk:k<32):jM n d K/2^((lj n d p K+32*y)+k)%2=iB (jX n d p K) y/2^k%2:=by
 rw[Ro hk];unfold jX;rw[cA,<-aX,cF]
theorem ac9(n d p K:Nat)(hn:1<=n)(kj:n<=1073741824)(hd:1<=d)(tD:d<=1073741824)(hp:8<=p)(ia:p<=512)(hK:K<p+31)(iI:∀ y,y<K->ie (jM n d y)<p)(hb:p<=ie (jM n d K))(Y:Nat)(hY:Y=(p+31)/32):gW 295 [(.v (.int .u64 (n:Int))),(.v (.int .u64 (d:Int))),(iP p)] (.ix [gZ (canon false (jX n d p K) (nM n d p K)),gZ (if(oW (kZ n d K) (jM n d K) (lj n d p K))=true then canon false (jX n d p K) (nM n d p K)else canon false ((jX n d p K)+1) (nM n d p K))]):=by
 have h0:=RH (a:=n) (b:=d) (n:=64) ae;have h1:kK n d 64 64=jM n d 0/\iN n d 64 64=kZ n d 0:=by
  obtain⟨a,b⟩:=RC n d 64;rw[a,b];unfold jM kZ;rw[bO,bQ];exact⟨rfl,rfl⟩
 have ks:=H8 hb;have hTY:=ac0 ks ae hY;have hLo:=Lr hd kj hb ae;have hlK:=Ez (d:=d) (y:=K) kj ae;have hT0:(jX n d p K)≠0:=λq=>by rw[q,q8]at ks;omega
 have Bu:(gV (jX n d p K)).length<=100:=by
  have:=Fz (w:=(jX n d p K)) (y:=100);omega
 have ant:(gV ((jX n d p K)+1)).length<=101:=by
  have h2:=uF Bu;refine rj ?_;rw[a6];omega
 have hL4:lj n d p K=ie (jM n d K)-p:=rfl;exact tr true call295 func295 (chain [.s (Sp.jy (RS n d p) 0 64 ae (λx hx kn=>by
    have hr:(iN n d 64 x)<d:=bh _ ae;have nn:=Hv n 64 x;have vE:(kK n d 64 x)<=n:=aY (bD _ _) (bD _ _);have xL:=Yc (show(kK n d 64 x)<18446744073709551616 by omega);have nD:=Yc (show 2*(kK n d 64 x)<18446744073709551616 by omega);exact iC (chain [tT 23 (0<=(63-(x:Int))) ae,pr (2*(iN n d 64 x:Int)) ae,.a (ae:0<=((63-(x:Int)):Int)/\((63-(x:Int)):Int)<=((64:Nat):Int)),.o 31 (.int (acV ae ae):PV.le (.e (.v (.int .u64 (bits .and .u64 ((n:Int)/2^((63-(x:Int))).toNat) 1)))) (.e (.v (.int .u64 (ji n 64 x:Int))))),
     pr ((((2*(iN n d 64 x)):Nat):Int)+(ji n 64 x:Int)) ae,.a (ae:0<((d:Int):Int)),pr (((((2*(iN n d 64 x))+(ji n 64 x)):Nat):Int)) ae,.a (ae:0<((d:Int):Int)),.bo,.bo,.a (ae:(0+(gV (kK n d 64 x)).length)*4<=140737488355328),.o 41 (.e (ZV rfl):PV.le (.e (.sl false (0+(gV (kK n d 64 x)).length) 1 (λi_ j_=>if i_<0 then(λi_ j_=>([]:List E).getD (i_*1+j_) (.v (.bool false))) i_ j_ else(E.ml (gY (gV (kK n d 64 x)))) (i_-0) j_))) (.e (gY (gV (kK n d 64 x))))),.c (X1 _ ae:gW 346 [(gY (gV (kK n d 64 x))),(.v (.int .u64 0))] _)]<|.w (((2*(iN n d 64 x))+(ji n 64 x))<d)
     (λhq=>by
      have hm:((2*(iN n d 64 x))+(ji n 64 x))%d=((2*(iN n d 64 x))+(ji n 64 x)):=by rw[bC hq]
      have hqd:((2*(iN n d 64 x))+(ji n 64 x))/d=0:=bW hq;have hs:=RE (a:=n) (b:=d) (n:=64) (x:=x) ae ae hq;exact chain [tB 44 (aK ae:((((((2*(iN n d 64 x))+(ji n 64 x))/d):Nat):Int)==1)=false),iu ((63-(x:Int))-1) ae]<|.e (chain [.o 11 (.int ae:PV.le (.e (iP ((63-(x:Int))-1))) (.e (iP (63-(((x+1):Nat):Int))))),.o 9 (.int (by rw[hs.1,hm]):PV.le (.e (.v (.int .u64 (((((2*(iN n d 64 x))+(ji n 64 x))%d):Nat):Int)))) (.e (.v (.int .u64 (iN n d 64 (x+1):Int))))),.o 8 (.e (.iS (by rw[hs.2])):PV.le (.e (gY (gV (2*(kK n d 64 x))))) (.e (gY (gV (kK n d 64 (x+1))))))]<|.nil))
     (λhq=>by
      have hm:((2*(iN n d 64 x))+(ji n 64 x))%d=((2*(iN n d 64 x))+(ji n 64 x))-d:=by rw[Nat.mod_eq_sub_mod ae,bC ae]
      have hqd:((2*(iN n d 64 x))+(ji n 64 x))/d=1:=by rw[Nat.div_eq_sub_div ae ae,bW ae]
      have hs:=RF (a:=n) (b:=d) (n:=64) (x:=x) ae ae hq;exact chain [tB 44 (aM ae:((((((2*(iN n d 64 x))+(ji n 64 x))/d):Nat):Int)==1)=true),.c (X0 _ ae ae:gW 347 [(gY (gV (2*(kK n d 64 x))))] _),
       iu ((63-(x:Int))-1) ae]<|.e (chain [.o 11 (.int ae:PV.le (.e (iP ((63-(x:Int))-1))) (.e (iP (63-(((x+1):Nat):Int))))),.o 9 (.int (by rw[hs.1,hm]):PV.le (.e (.v (.int .u64 (((((2*(iN n d 64 x))+(ji n 64 x))%d):Nat):Int)))) (.e (.v (.int .u64 (iN n d 64 (x+1):Int))))),.o 8 (.e (.iS (by rw[hs.2])):PV.le (.e (gY (gV ((2*(kK n d 64 x))+1)))) (.e (gY (gV (kK n d 64 (x+1))))))]<|.nil))) ah)
  (λhx=>by
    exact iC (chain [tF 23 (0<=(63-((64:Nat):Int))) ae]<|.nil) ah) ak:jv 5 f295 (RS n d p 0) (.exit 0) ⟨130,true,[(10,.e (iP 0)),(9,.e (.v (.int .u64 (iN n d 64 64:Int)))),(8,.e (gY (gV (kK n d 64 64)))),(7,.box 7 0),(6,.box 6 0),(1,.e (.v (.int .u64 (d:Int)))),(2,.e (iP p))],[(7,.cells 39 [(bP false),(.v (.slice none 0 0)),(iP 0)]),(6,.cells 39 [(bP false),(.v (.slice none 0 0)),(iP 0)])]⟩) (chain [.o 11 (.int ae:PV.le (.e (iP 63)) (.e (iP (63-((0:Nat):Int))))),.o 9 (.int (by rw[h0.1];rfl):PV.le (.e (.v (.int .u64 0))) (.e (.v (.int .u64 (iN n d 64 0:Int))))),.o 8 (.e (ahQ h0.2):PV.le (.e (.sl true 0 1 λi_ j_=>[].getD (i_*1+j_) (.v (.bool false)))) (.e (gY (gV (kK n d 64 0)))))]<|.nil),.s (Sp.jy (RT n d p) 0 K ae (λy hy TL=>by
    have xL:=Ez (d:=d) (y:=y) kj ae;have nD:=acW (d:=d) (y:=y) kj ae;have hbn:=iI y ae;have IY:(kZ n d y)<d:=bh _ ae;exact iC (chain [.c (Hc _ ae:gW 348 [(gY (gV (jM n d y)))] _),tT 50 ((ie (jM n d y):Int)<p) ae,pr (2*(kZ n d y:Int)) ae,.c (X1 _ ae:gW 346 [(gY (gV (jM n d y))),(.v (.int .u64 0))] _)]<|.w (2*kZ n d y<d)
     (λhq=>by
      have hs:=acX (n:=n) (d:=d) (y:=y) ae hq;exact chain [tF 57 ((d:Int)<=(((2*(kZ n d y)):Nat):Int)) ae,iu ((0-(y:Int))-1) ae]<|.e (chain [.o 10 (.int ae:PV.le (.e (iP ((0-(y:Int))-1))) (.e (iP (0-(((y+1):Nat):Int))))),.o 9 (.int (by rw[hs.1]):PV.le (.e (.v (.int .u64 (((2*(kZ n d y)):Nat):Int)))) (.e (.v (.int .u64 (kZ n d (y+1):Int))))),.o 8 (.e (.iS (by rw[hs.2])):PV.le (.e (gY (gV (2*(jM n d y))))) (.e (gY (gV (jM n d (y+1))))))]<|.nil))
     (λhq=>by
      have hs:=acY (n:=n) (d:=d) (y:=y) ae hq;exact chain [tT 57 ((d:Int)<=(((2*(kZ n d y)):Nat):Int)) ae,pr ((((2*(kZ n d y)):Nat):Int)-d) ae,.o 60 (.int ae:PV.le (.e (.v (.int .u64 ((((2*(kZ n d y)):Nat):Int)-d)))) (.e (.v (.int .u64 (((2*kZ n d y-d):Nat):Int))))),.c (X0 _ ae ae:gW 347 [(gY (gV (2*(jM n d y))))] _),iu ((0-(y:Int))-1) ae]<|.e (chain [.o 10 (.int ae:PV.le (.e (iP ((0-(y:Int))-1))) (.e (iP (0-(((y+1):Nat):Int))))),.o 9 (.int (by rw[hs.1]):PV.le (.e (.v (.int .u64 (((2*kZ n d y-d):Nat):Int)))) (.e (.v (.int .u64 (kZ n d (y+1):Int))))),.o 8 (.e (.iS (by rw[hs.2])):PV.le (.e (gY (gV ((2*(jM n d y))+1)))) (.e (gY (gV (jM n d (y+1))))))]<|.nil))) ah)
  (λhy=>by
    have xL:=Ez (d:=d) (y:=K) kj ae;exact iC (chain [.c (Hc _ ae:gW 348 [(gY (gV (jM n d K)))] _),tF 50 ((ie (jM n d K):Int)<p) ae]<|.nil) ah) ak:jv 13 f295 (RT n d p 0) (.exit 2) ⟨130,false,[(10,.e (iP (0-(K:Int)))),(9,.e (.v (.int .u64 (kZ n d K:Int)))),(8,.e (gY (gV (jM n d K)))),(7,.box 7 0),(6,.box 6 0),(2,.e (iP p))],[(7,.cells 39 [(bP false),(.v (.slice none 0 0)),(iP 0)]),(6,.cells 39 [(bP false),(.v (.slice none 0 0)),(iP 0)])]⟩) (chain [.o 10 (.int ae:PV.le (.e (iP 0)) (.e (iP (0-((0:Nat):Int))))),.o 9 (.int (by rw[h1.2]):PV.le (.e (.v (.int .u64 (iN n d 64 64:Int)))) (.e (.v (.int .u64 (kZ n d 0:Int))))),.o 8 (.e (.iS (by rw[h1.1])):PV.le (.e (gY (gV (kK n d 64 64)))) (.e (gY (gV (jM n d 0)))))]<|.nil),.c (Hc _ ae:gW 348 [(gY (gV (jM n d K)))] _),iu ((ie (jM n d K):Int)-p) ae,.o 68 (.int ae:PV.le (.e (iP ((ie (jM n d K):Int)-p))) (.e (iP (lj n d p K:Int)))),.y 15 15 false 150 1 (jd (iL (jX n d p K) 0)),.s (Sp.jy (RU n d p K) 0 Y ae (λy hy TL=>by
    have hD:=pH (jX n d p K) y;have xL:=Ez (d:=d) (y:=K) kj ae;exact iC (chain [tT 73 ((((32*y):Nat):Int)<p) ae]<|.w (32<=p-32*y)
     (λhf=>by
      have hz:((((iB (jX n d p K) y)%2^32:Nat)):Int)=(iB (jX n d p K) y:Int):=by rw[bC hD]
      exact chain [.s (Sp.jy (RV n d p K y) 0 32 ae (λk hk Az=>by
    exact iC (chain [tT 77 ((k:Int)<32) ae,iu ((((32*y):Nat):Int)+k) ae,tT 83 (((((32*y)+k):Nat):Int)<p) ae,
     iu ((lj n d p K:Int)+(((32*y):Nat):Int)) ae,iu (((((lj n d p K)+(32*y)):Nat):Int)+k) ae,.c (Hb (jM n d K) (((lj n d p K)+(32*y))+k) ae ae),.o 94 (.int (by rw[RP ae]):PV.le (.e (iP ((((jM n d K)/2^(((lj n d p K)+(32*y))+k)%2):Nat):Int))) (.e (iP ((((iB (jX n d p K) y)/2^k%2):Nat):Int)))),.o 95 (.int aF:PV.le (.e (.v (.int .u32 (IntKind.u32.wrap ((((iB (jX n d p K) y)/2^k%2):Nat):Int))))) (.e (.v (.int .u32 ((((iB (jX n d p K) y)/2^k%2):Nat):Int))))),.a (ae:0<=((k:Int):Int)/\((k:Int):Int)<=((32:Nat):Int)),.o 97 (.int (OT ae ae):PV.le (.e (.v (.int .u32 (IntKind.u32.wrap (((((iB (jX n d p K) y)/2^k%2):Nat):Int)*2^k))))) (.e (.v (.int .u32 (((((iB (jX n d p K) y)/2^k%2)*2^k):Nat):Int))))),.o 98 (.int (N4 ae hD):PV.le (.e (.v (.int .u32 (bits .or .u32 ((((iB (jX n d p K) y)%2^k):Nat):Int) (((((iB (jX n d p K) y)/2^k%2)*2^k):Nat):Int))))) (.e (.v (.int .u32 ((((iB (jX n d p K) y)%2^(k+1)):Nat):Int))))),
     iu ((k:Int)+1) ae]<|.nil) ah)
  (λhk=>by
    exact iC (chain [tB 77 (ag:(decide ((32:Int)<32))=false)]<|.nil) ah) ak:jv 28 f295 (RV n d p K y 0) (.exit 6) ⟨130,false,[(83,.e (.v (.tuple #[]))),(82,.e (.v (.tuple #[]))),(81,.e (.v (.tuple #[]))),(80,.e (.v (.tuple #[]))),(79,.e (.v (.tuple #[]))),(17,.e (.v (.int .u32 ((((iB (jX n d p K) y)%2^32):Nat):Int)))),(15,.own 15),(16,.e (iP (((32*y):Nat):Int))),(14,.e (bP ((kZ n d K:Int)==0))),(13,.e (iP (lj n d p K:Int))),(10,.e (iP (0-(K:Int)))),(8,.e (gY (gV (jM n d K)))),(7,.box 7 0),(6,.box 6 0),(2,.e (iP p))],[(15,.row false 150 y 1 (jd (iL (jX n d p K) y))),(7,.cells 39 [(bP false),(.v (.slice none 0 0)),(iP 0)]),(6,.cells 39 [(bP false),(.v (.slice none 0 0)),(iP 0)])]⟩) (chain [.o 17 (.int (by rw[bO,cI];rfl):PV.le (.e (.v (.int .u32 0))) (.e (.v (.int .u32 ((((iB (jX n d p K) y)%2^0):Nat):Int)))))]<|.nil),.a (ae:(y+1)*4<=140737488355328),iu ((((32*y):Nat):Int)+32) ae]<|.e (chain [.o 16 (.int aw:PV.le (.e (iP ((((32*y)+32):Nat):Int))) (.e (iP (((32*(y+1)):Nat):Int)))),.b 15 (AJ rfl hz:Bx.le (.row false 150 (y+1) 1 (λi_ j_=>if i_<y then(jd (iL (jX n d p K) y)) i_ j_ else(E.ml (.sl false 1 1 λi_ j_=>[(.v (.int .u32 ((((iB (jX n d p K) y)%2^32):Nat):Int)))].getD (i_*1+j_) (.v (.bool false)))) (i_-y) j_)) (.row false 150 (y+1) 1 (jd (iL (jX n d p K) (y+1)))))]<|.nil))
     (λhf=>by
      have hz:((((iB (jX n d p K) y)%2^(p-32*y):Nat)):Int)=(iB (jX n d p K) y:Int):=by rw[bC (acZ ks ae)]
      exact chain [.s (Sp.jy (RW n d p K y) 0 (p-32*y) ae (λk hk Az=>by
    exact iC (chain [tT 77 ((k:Int)<32) ae,iu ((((32*y):Nat):Int)+k) ae,tT 83 (((((32*y)+k):Nat):Int)<p) ae,
     iu ((lj n d p K:Int)+(((32*y):Nat):Int)) ae,iu (((((lj n d p K)+(32*y)):Nat):Int)+k) ae,.c (Hb (jM n d K) (((lj n d p K)+(32*y))+k) ae ae),.o 94 (.int (by rw[RP ae]):PV.le (.e (iP ((((jM n d K)/2^(((lj n d p K)+(32*y))+k)%2):Nat):Int))) (.e (iP ((((iB (jX n d p K) y)/2^k%2):Nat):Int)))),.o 95 (.int aF:PV.le (.e (.v (.int .u32 (IntKind.u32.wrap ((((iB (jX n d p K) y)/2^k%2):Nat):Int))))) (.e (.v (.int .u32 ((((iB (jX n d p K) y)/2^k%2):Nat):Int))))),.a (ae:0<=((k:Int):Int)/\((k:Int):Int)<=((32:Nat):Int)),.o 97 (.int (OT ae ae):PV.le (.e (.v (.int .u32 (IntKind.u32.wrap (((((iB (jX n d p K) y)/2^k%2):Nat):Int)*2^k))))) (.e (.v (.int .u32 (((((iB (jX n d p K) y)/2^k%2)*2^k):Nat):Int))))),.o 98 (.int (N4 ae hD):PV.le (.e (.v (.int .u32 (bits .or .u32 ((((iB (jX n d p K) y)%2^k):Nat):Int) (((((iB (jX n d p K) y)/2^k%2)*2^k):Nat):Int))))) (.e (.v (.int .u32 ((((iB (jX n d p K) y)%2^(k+1)):Nat):Int))))),
     iu ((k:Int)+1) ae]<|.nil) ah)
  (λhk=>by
    exact iC (chain [tT 77 ((((p-32*y):Nat):Int)<32) ae,iu ((((32*y):Nat):Int)+(((p-32*y):Nat):Int)) ae,tF 83 (((((32*y)+(p-32*y)):Nat):Int)<p) ae]<|.nil) ah) ak:jv 28 f295 (RW n d p K y 0) (.exit 6) ⟨130,false,[(83,.e (bP false)),(82,.e (iP p)),(81,.e (iP ((((32*y)+(p-32*y)):Nat):Int))),(80,.e (iP (((p-32*y):Nat):Int))),(79,.e (iP (((32*y):Nat):Int))),(17,.e (.v (.int .u32 ((((iB (jX n d p K) y)%2^(p-32*y)):Nat):Int)))),(15,.own 15),(16,.e (iP (((32*y):Nat):Int))),(14,.e (bP ((kZ n d K:Int)==0))),(13,.e (iP (lj n d p K:Int))),(10,.e (iP (0-(K:Int)))),(8,.e (gY (gV (jM n d K)))),(7,.box 7 0),(6,.box 6 0),(2,.e (iP p))],[(15,.row false 150 y 1 (jd (iL (jX n d p K) y))),(7,.cells 39 [(bP false),(.v (.slice none 0 0)),(iP 0)]),(6,.cells 39 [(bP false),(.v (.slice none 0 0)),(iP 0)])]⟩) (chain [.o 17 (.int (by rw[bO,cI];rfl):PV.le (.e (.v (.int .u32 0))) (.e (.v (.int .u32 ((((iB (jX n d p K) y)%2^0):Nat):Int)))))]<|.nil),.a (ae:(y+1)*4<=140737488355328),iu ((((32*y):Nat):Int)+32) ae]<|.e (chain [.o 16 (.int aw:PV.le (.e (iP ((((32*y)+32):Nat):Int))) (.e (iP (((32*(y+1)):Nat):Int)))),.b 15 (AJ rfl hz:Bx.le (.row false 150 (y+1) 1 (λi_ j_=>if i_<y then(jd (iL (jX n d p K) y)) i_ j_ else(E.ml (.sl false 1 1 λi_ j_=>[(.v (.int .u32 ((((iB (jX n d p K) y)%2^(p-32*y)):Nat):Int)))].getD (i_*1+j_) (.v (.bool false)))) (i_-y) j_)) (.row false 150 (y+1) 1 (jd (iL (jX n d p K) (y+1)))))]<|.nil))) ah)
  (λhy=>by
    exact iC (chain [tF 73 ((((32*Y):Nat):Int)<p) ae,.z 15]<|.e (chain [.o 15 (.e (.iS (by rw[A9 (mK _ _).symm,hTY])):PV.le (.e (.sl false Y 1 (jd (iL (jX n d p K) Y)))) (.e (gY (gV (jX n d p K)))))]<|.nil)) ah) ak:jv 24 f295 (RU n d p K 0) (.exit 4) ⟨130,true,[(15,.e (gY (gV (jX n d p K)))),(14,.e (bP ((kZ n d K:Int)==0))),(13,.e (iP (lj n d p K:Int))),(10,.e (iP (0-(K:Int)))),(8,.e (gY (gV (jM n d K)))),(7,.box 7 0),(6,.box 6 0)],[(7,.cells 39 [(bP false),(.v (.slice none 0 0)),(iP 0)]),(6,.cells 39 [(bP false),(.v (.slice none 0 0)),(iP 0)])]⟩) (chain [.o 16 (.int aw:PV.le (.e (iP 0)) (.e (iP (((32*0):Nat):Int))))]<|.nil),.s (Sp.jy (RX n d p K) 0 (lj n d p K) ae (λx hx kn=>by
    have xL:=Ez (d:=d) (y:=K) kj ae;exact iC (chain [tT 105 ((x:Int)<(lj n d p K:Int)) ae]<|.w ((oW (kZ n d K) (jM n d K) x)=true)
     (λhq=>chain [tB 108 (hq:(oW (kZ n d K) (jM n d K) x)=true),.c (Hb (jM n d K) x ae ae)]<|.w ((jM n d K)/2^x%2=0)
      (λIB=>chain [tB 113 (aM ae:(((((jM n d K)/2^x%2):Nat):Int)==0)=true),iu ((x:Int)+1) ae]<|.e (chain [.o 14 (.bool (acT hq IB).symm:PV.le (.e (bP true)) (.e (bP (oW (kZ n d K) (jM n d K) (x+1)))))]<|.nil))
      (λIB=>chain [tB 113 (aK ae:(((((jM n d K)/2^x%2):Nat):Int)==0)=false),iu ((x:Int)+1) ae]<|.e (chain [.o 14 (.bool (acR IB).symm:PV.le (.e (bP false)) (.e (bP (oW (kZ n d K) (jM n d K) (x+1)))))]<|.nil)))
     (λhq=>chain [tB 108 (aO hq),iu ((x:Int)+1) ae]<|.e (chain [.o 14 (.bool (acS (aO hq)).symm:PV.le (.e (bP false)) (.e (bP (oW (kZ n d K) (jM n d K) (x+1)))))]<|.nil))) ah)
  (λhx=>by
    exact iC (chain [tF 105 ((lj n d p K:Int)<(lj n d p K:Int)) ae]<|.nil) ah) ak:jv 33 f295 (RX n d p K 0) (.exit 8) ⟨130,true,[(15,.e (gY (gV (jX n d p K)))),(14,.e (bP (oW (kZ n d K) (jM n d K) (lj n d p K)))),(13,.e (iP (lj n d p K:Int))),(10,.e (iP (0-(K:Int)))),(7,.box 7 0),(6,.box 6 0)],[(7,.cells 39 [(bP false),(.v (.slice none 0 0)),(iP 0)]),(6,.cells 39 [(bP false),(.v (.slice none 0 0)),(iP 0)])]⟩) (chain [.o 14 (.bool (acU _ _):PV.le (.e (bP ((kZ n d K:Int)==0))) (.e (bP (oW (kZ n d K) (jM n d K) 0))))]<|.nil),
  iu ((0-(K:Int))+(lj n d p K:Int)) ae,.c (Vh _ _ ae ae ae ae:gW 350 [(bP false),(gY (gV (jX n d p K))),(iP ((0-(K:Int))+(lj n d p K:Int)))] _)]<|.w (oW (kZ n d K) (jM n d K) (lj n d p K)=true)
  (λk1=>chain [tB 120 (k1)]<|rQ (.ix [(gZ (canon false (jX n d p K) ((0-(K:Int))+(lj n d p K:Int)))),(gZ (canon false (jX n d p K) ((0-(K:Int))+(lj n d p K:Int))))]) (.ix [gZ (canon false (jX n d p K) (nM n d p K)),gZ (if(oW (kZ n d K) (jM n d K) (lj n d p K))=true then canon false (jX n d p K) (nM n d p K)else canon false ((jX n d p K)+1) (nM n d p K))]) (by(rw[aS k1])<;>rfl))
  (λk1=>chain [tB 120 (aO k1),.c (ahK _ ae:gW 351 [(gY (gV (jX n d p K)))] _),iu ((0-(K:Int))+(lj n d p K:Int)) ae,.c (Vh _ _ ae ae ae ae:gW 350 [(bP false),(gY (gV ((jX n d p K)+1))),(iP ((0-(K:Int))+(lj n d p K:Int)))] _)]<|rQ (.ix [(gZ (canon false (jX n d p K) ((0-(K:Int))+(lj n d p K:Int)))),(gZ (canon false ((jX n d p K)+1) ((0-(K:Int))+(lj n d p K:Int))))]) (.ix [gZ (canon false (jX n d p K) (nM n d p K)),gZ (if(oW (kZ n d K) (jM n d K) (lj n d p K))=true then canon false (jX n d p K) (nM n d p K)else canon false ((jX n d p K)+1) (nM n d p K))]) (by(rw[aR k1])<;>rfl))) ah 
theorem R2(n d p K:Nat)(hn:1<=n)(kj:n<=1073741824)(hd:1<=d)(tD:d<=1073741824)(hp:8<=p)(ia:p<=512)(hK:K<p+31)(iI:∀ y,y<K->ie (jM n d y)<p)(hb:p<=ie (jM n d K)):
 gW 295 [(.v (.int .u64 (n:Int))),(.v (.int .u64 (d:Int))),(iP p)] (.ix [gZ (canon false (jX n d p K) (nM n d p K)),gZ (if(oW (kZ n d K) (jM n d K) (lj n d p K))=true then canon false (jX n d p K) (nM n d p K)else canon false ((jX n d p K)+1) (nM n d p K))]):=by
 exact ac9 n d p K hn kj hd tD hp ia hK iI hb _ rfl
theorem anq:E.le (.agg [bP false,.v (.slice none 0 0),iP 0,bP false,.v (.slice none 0 0),iP 0,bP false]) (ib ⟨jA,jA,false⟩):=
 .agg (.cons (.refl _) (.cons AN (.cons (.refl _) (.cons (.refl _) (.cons AN (.cons (.refl _) (.cons (.refl _) .nil)))))))
theorem ac5(d:Int)(p:Nat)(hr:lQ 0 d=true)(hp:8<=p)(ia:p<=512):gW 249 [(.agg [(iP 0),(iP d)]),(iP p)] (ib (nR 0 d p)):=by
 rw[akI hp ia hr];exact tr true call249 func249 (chain [.c (Ge 0 d),tB 9 (by rw[hr];rfl:(!(lQ 0 d))=false),tF 12 ((p:Int)<8) ae,tF 16 (512<(p:Int)) ae,tB 21 (ag:((0:Int)==0)=true)]<|rR (ib (Iv.mk jA jA false)) (anq:E.le (.agg [(bP false),(.v (.slice none 0 0)),(iP 0),(bP false),(.v (.slice none 0 0)),(iP 0),(bP false)]) (ib (Iv.mk jA jA false)))) ah 
theorem ac4(n d p K:Nat)(hn:1<=n)(kj:n<=1073741824)(hd:1<=d)(tD:d<=1073741824)(hp:8<=p)(ia:p<=512)(hK:K<p+31)(iI:∀ y,y<K->ie (jM n d y)<p)(hb:p<=ie (jM n d K))(hr:lQ (n:Int) (d:Int)=true):gW 249 [(.agg [(iP n),(iP d)]),(iP p)] (ib (nR (n:Int) (d:Int) p)):=by
 rw[akG kj hd hp ia hK hb hr];exact tr true call249 func249 (chain [.c (Ge (n:Int) (d:Int)),tB 9 (by rw[hr];rfl:(!(lQ (n:Int) (d:Int)))=false),tF 12 ((p:Int)<8) ae,tF 16 (512<(p:Int)) ae,tB 21 (aK ae:((n:Int)==0)=false),.c (OX _ ae ae:gW 169 [(iP n)] _),.o 26 (.int ae:PV.le (.e (.v (.int .u64 (Int.natAbs (n:Int):Int)))) (.e (.v (.int .u64 (n:Int))))),.o 29 (.int (pE _ ae):PV.le (.e (.v (.int .u64 (IntKind.u64.wrap (d:Int))))) (.e (.v (.int .u64 (d:Int))))),.c (R2 _ _ _ K hn kj hd tD hp ia hK iI hb:gW 295 [(.v (.int .u64 (n:Int))),(.v (.int .u64 (d:Int))),(iP p)] _),tF 36 ((n:Int)<0) ae]<|.nil) ah 
theorem ac2(n d p K:Nat)(hn:1<=n)(kj:n<=1073741824)(hd:1<=d)(tD:d<=1073741824)(hp:8<=p)(ia:p<=512)(hK:K<p+31)(iI:∀ y,y<K->ie (jM n d y)<p)(hb:p<=ie (jM n d K))(hr:lQ (-(n:Int)) (d:Int)=true):gW 249 [(.agg [(iP (-(n:Int))),(iP d)]),(iP p)] (ib (nR (-(n:Int)) (d:Int) p)):=by
 have ET:(canon false (jX n d p K) (nM n d p K)).kN:=qV _ _ _;have hc2:(if(oW (kZ n d K) (jM n d K) (lj n d p K))=true then canon false (jX n d p K) (nM n d p K)else canon false ((jX n d p K)+1) (nM n d p K)).kN:=by split<;>exact qV _ _ _
 rw[akF kj hd hp ia hK hb hr];exact tr true call249 func249 (chain [.c (Ge (- (n:Int)) (d:Int)),tB 9 (by rw[hr];rfl:(!(lQ (-(n:Int)) (d:Int)))=false),tF 12 ((p:Int)<8) ae,tF 16 (512<(p:Int)) ae,tB 21 (aK ae:((-(n:Int))==0)=false),.c (OX _ ae ae:gW 169 [(iP (-(n:Int)))] _),.o 26 (.int ae:PV.le (.e (.v (.int .u64 (Int.natAbs (-(n:Int)):Int)))) (.e (.v (.int .u64 (n:Int))))),.o 29 (.int (pE _ ae):PV.le (.e (.v (.int .u64 (IntKind.u64.wrap (d:Int))))) (.e (.v (.int .u64 (d:Int))))),.c (R2 _ _ _ K hn kj hd tD hp ia hK iI hb:gW 295 [(.v (.int .u64 (n:Int))),(.v (.int .u64 (d:Int))),(iP p)] _),tT 36 ((-(n:Int))<0) ae,.c (VS _ af:gW 296 [(gZ (if(oW (kZ n d K) (jM n d K) (lj n d p K))=true then canon false (jX n d p K) (nM n d p K)else canon false ((jX n d p K)+1) (nM n d p K)))] _),.c (VS _ af:gW 296 [(gZ (canon false (jX n d p K) (nM n d p K)))] _)]<|.nil) ah 
theorem ac3(n d:Int)(p:Nat)(hr:lQ n d=true)(hp:8<=p)(ia:p<=512):gW 249 [.agg [iP n,iP d],iP (p:Int)] (ib (nR n d p)):=by
 obtain⟨r1,r2,r3,r4⟩:=Gf hr;obtain⟨d,rfl⟩:=dD (show 0<=d by omega);by_cases h0:n=0
 .subst h0;exact ac5 d p hr hp ia
 by_cases h1:0<=n
 .obtain ⟨n,rfl⟩:=dD h1
  obtain⟨K,k1,k2,k3⟩:=RQ (n:=n) (d:=d) ae ae ae p;exact ac4 n d p K ae ae ae ae hp ia k1 k2 k3 hr
 .obtain ⟨m,rfl⟩:∃ m:Nat,n = -(m:Int):=⟨n.natAbs,ae⟩
  obtain⟨K,k1,k2,k3⟩:=RQ (n:=m) (d:=d) ae ae ae p;exact ac2 m d p K ae ae ae ae hp ia k1 k2 k3 hr
end Go.Proofs.YtkjkcjhacddojaaGreatDoor
