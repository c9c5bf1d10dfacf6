/- Lemmas that the last file uses. -/
import Derived.Test.YtdgnpeddgdclhaaGreatDoorM04
set_option linter.unusedSimpArgs false
set_option linter.unusedVariables false
set_option linter.defProp false
set_option maxHeartbeats 4000000
namespace Go.Proofs.YtdgnpeddgdclhaaGreatDoor
open Go.RowKit Fp Pu
def RY(a b:Nat)(x:Nat):PS:=⟨12,true,[(0,.e (.v (.int .u64 ((((lR a b x).1):Nat):Int)))),(1,.e (.v (.int .u64 ((((lR a b x).2):Nat):Int))))],[]⟩
def Ws(s:jr)(N:Nat)(x:Nat):PS:=⟨131,true,[(4,.e (iP x)),(3,.box 3 0),(1,.box 1 0)],[(3,.cells 25 [(iP s.im),(jJ s.gW),(jN s.ig)]),(1,.cells 28 [(iP s.im),(jJ s.gW),(jN s.ig),(iP s.iA),(kj s.params)])]⟩
def Wn(s:jr)(x:Nat):PS:=⟨131,true,[(4,.e (iP x)),(3,.box 3 0),(1,.box 1 0)],[(3,.cells 25 [(iP s.im),(jJ s.gW),(jN s.ig)]),(1,.cells 28 [(iP s.im),(jJ s.gW),(jN s.ig),(iP s.iA),(kj s.params)])]⟩
def Wt(s:jr)(N:Nat)(x:Nat):PS:=⟨131,true,[(5,.e (iP x)),(3,.box 3 0),(1,.box 1 0)],[(3,.cells 25 [(iP s.im),(jJ s.gW),(jN s.ig)]),(1,.cells 28 [(iP s.im),(jJ s.gW),(jN s.ig),(iP s.iA),(kj s.params)])]⟩
def Wo(s:jr)(x:Nat):PS:=⟨131,true,[(4,.e (iP x)),(3,.box 3 0),(1,.box 1 0)],[(3,.cells 25 [(iP s.im),(jJ s.gW),(jN s.ig)]),(1,.cells 28 [(iP s.im),(jJ s.gW),(jN s.ig),(iP s.iA),(kj s.params)])]⟩
def Wu(s:jr)(N:Nat)(x:Nat):PS:=⟨131,true,[(5,.e (iP x)),(3,.box 3 0),(1,.box 1 0)],[(3,.cells 25 [(iP s.im),(jJ s.gW),(jN s.ig)]),(1,.cells 28 [(iP s.im),(jJ s.gW),(jN s.ig),(iP s.iA),(kj s.params)])]⟩
def Wp(s:jr)(x:Nat):PS:=⟨131,true,[(4,.e (iP x)),(3,.box 3 0),(1,.box 1 0)],[(3,.cells 25 [(iP s.im),(jJ s.gW),(jN s.ig)]),(1,.cells 28 [(iP s.im),(jJ s.gW),(jN s.ig),(iP s.iA),(kj s.params)])]⟩
def Wv(s:jr)(x:Nat):PS:=⟨131,true,[(5,.e (iP x)),(3,.box 3 0),(1,.box 1 0)],[(3,.cells 25 [(iP s.im),(jJ s.gW),(jN s.ig)]),(1,.cells 28 [(iP s.im),(jJ s.gW),(jN s.ig),(iP s.iA),(kj s.params)])]⟩
def Ww(s:jr)(N:Nat)(x:Nat):PS:=⟨131,true,[(6,.e (iP x)),(1,.box 1 0)],[(1,.cells 28 [(iP s.im),(jJ s.gW),(jN s.ig),(iP s.iA),(kj s.params)])]⟩
def Wq(s:jr)(x:Nat):PS:=⟨131,true,[(4,.e (iP x)),(3,.box 3 0),(1,.box 1 0)],[(3,.cells 25 [(iP s.im),(jJ s.gW),(jN s.ig)]),(1,.cells 28 [(iP s.im),(jJ s.gW),(jN s.ig),(iP s.iA),(kj s.params)])]⟩
def Wx(s:jr)(x:Nat):PS:=⟨131,true,[(5,.e (iP x)),(3,.box 3 0),(1,.box 1 0)],[(3,.cells 25 [(iP s.im),(jJ s.gW),(jN s.ig)]),(1,.cells 28 [(iP s.im),(jJ s.gW),(jN s.ig),(iP s.iA),(kj s.params)])]⟩
def Wy(s:jr)(N:Nat)(x:Nat):PS:=⟨131,true,[(6,.e (iP x)),(1,.box 1 0)],[(1,.cells 28 [(iP s.im),(jJ s.gW),(jN s.ig),(iP s.iA),(kj s.params)])]⟩
def Wr(s:jr)(x:Nat):PS:=⟨131,true,[(4,.e (iP x)),(3,.box 3 0),(1,.box 1 0)],[(3,.cells 25 [(iP s.im),(jJ s.gW),(jN s.ig)]),(1,.cells 28 [(iP s.im),(jJ s.gW),(jN s.ig),(iP s.iA),(kj s.params)])]⟩
def Wz(s:jr)(x:Nat):PS:=⟨131,true,[(5,.e (iP x)),(3,.box 3 0),(1,.box 1 0)],[(3,.cells 25 [(iP s.im),(jJ s.gW),(jN s.ig)]),(1,.cells 28 [(iP s.im),(jJ s.gW),(jN s.ig),(iP s.iA),(kj s.params)])]⟩
def WA(s:jr)(x:Nat):PS:=⟨131,true,[(6,.e (iP x)),(1,.box 1 0)],[(1,.cells 28 [(iP s.im),(jJ s.gW),(jN s.ig),(iP s.iA),(kj s.params)])]⟩
def VS(s:jr)(b:List RI)(N:Nat)(x:Nat):PS:=⟨35,true,[(5,.e (iP x)),(1,.e (kj b))],[]⟩
def VT(s:jr)(b:List RI)(N:Nat)(x:Nat):PS:=⟨35,true,[(5,.e (iP x)),(1,.e (kj b))],[]⟩
def VU(s:jr)(b:List RI)(x:Nat):PS:=⟨35,true,[(5,.e (iP x)),(1,.e (kj b))],[]⟩
theorem adn(a b N:Nat)(ha:a<18446744073709551616)(hb:b<18446744073709551616)(iH:∀ k,k<N->(lR a b k).2≠0)(hN:(lR a b N).2=0):gV 182 [(.v (.int .u64 (a:Int))),(.v (.int .u64 (b:Int)))] (.v (.int .u64 ((((lR a b N).1):Nat):Int))):=by
 exact tr true Tryz.call182 Tryz.func182 (chain [.s (Sp.jv (RY a b) 0 N ae (fun x hx kf=>by
    have jI:=iH x ae;exact iB (chain [tB 6 (Fi (iH x ae):(((((lR a b x).2):Nat):Int) != 0)=true),.a (ae:0<(((((lR a b x).2):Nat):Int):Int))]<|.e (chain [.o 0 (.int aw:PV.le (.e (.v (.int .u64 ((((lR a b x).2):Nat):Int)))) (.e (.v (.int .u64 ((((lR a b (x+1)).1):Nat):Int))))),.o 1 (.int aw:PV.le (.e (.v (.int .u64 (((((lR a b x).1)%((lR a b x).2)):Nat):Int)))) (.e (.v (.int .u64 ((((lR a b (x+1)).2):Nat):Int)))))]<|.nil)) ah)
  (fun hx=>by
    exact iB (chain [tB 6 (BE hN:(((((lR a b N).2):Nat):Int) != 0)=false)]<|.nil) ah) ak:jq 1 Tryz.f182 (RY a b 0) (.exit 0) ⟨12,true,[(0,.e (.v (.int .u64 ((((lR a b N).1):Nat):Int))))],[]⟩) (chain [.o 0 (.int aw:PV.le (.e (.v (.int .u64 (a:Int)))) (.e (.v (.int .u64 ((((lR a b 0).1):Nat):Int))))),.o 1 (.int aw:PV.le (.e (.v (.int .u64 (b:Int)))) (.e (.v (.int .u64 ((((lR a b 0).2):Nat):Int)))))]<|.nil)]<|.nil) ah 
theorem adp(a b:Nat)(ha:a<18446744073709551616)(hb:b<18446744073709551616):gV 182 [(.v (.int .u64 (a:Int))),(.v (.int .u64 (b:Int)))] (.v (.int .u64 (Nat.gcd a b:Int))):=by
 obtain⟨N,h1,h2⟩:=Rs b a;have hg:=K0 a b N;rw[h2,Nat.gcd_zero_right]at hg;rw[<-hg];exact adn a b N ha hb h1 h2
theorem akw(m:Nat)(h:m<=1073741824):gV 183 [(iP m)] (.v (.int .u64 (m:Int))):=by
 exact tr true Tryz.call183 Tryz.func183 (chain [tF 4 ((m:Int)<0) ae,.o 11 (.int (px _ ae):PV.le (.e (.v (.int .u64 (IntKind.u64.wrap (m:Int))))) (.e (.v (.int .u64 (m:Int)))))]<|.nil) ah 
theorem akv(m:Nat)(h0:0<m)(h:m<=1073741824):gV 183 [(iP (-(m:Int)))] (.v (.int .u64 (m:Int))):=by
 exact tr true Tryz.call183 Tryz.func183 (chain [tT 4 ((-(m:Int))<0) ae,iq ((-(m:Int))+1) ae,iq (0-((-(m:Int))+1)) ae,.o 7 (.int ae:PV.le (.e (iP (0-((-(m:Int))+1)))) (.e (iP (((m-1):Nat):Int)))),.o 8 (.int (px _ ae):PV.le (.e (.v (.int .u64 (IntKind.u64.wrap (((m-1):Nat):Int))))) (.e (.v (.int .u64 (((m-1):Nat):Int))))),pd ((((m-1):Nat):Int)+1) ae]<|rQ (.v (.int .u64 ((((m-1)+1):Nat):Int))) (.v (.int .u64 (m:Int))) (by rw[show m-1+1=m by omega])) ah 
theorem On(n:Int)(h1:-1073741824<=n)(h2:n<=1073741824):gV 183 [iP n] (.v (.int .u64 (n.natAbs:Int))):=by
 by_cases h:0<=n
 .obtain ⟨m,rfl⟩:=dY h
  exact akw m ae 
 .obtain ⟨m,rfl⟩:∃ m:Nat,n = -(m:Int):=⟨n.natAbs,ae⟩
  rw[ff,dA];exact akv m ae ae 
theorem FJ(n d:Int):gV 146 [(.agg [(iP n),(iP d)])] (bP (lJ n d)):=by
 exact tr true Tryz.call146 Tryz.func146 (.w (1<=d)
  (fun k1=>chain [tB 5 (aS k1)]<|.w (d<=1073741824)
   (fun k2=>chain [tB 9 (aS k2)]<|.w ((-1073741824)<=n)
    (fun k3=>chain [tB 14 (aS k3)]<|.w (n<=1073741824)
     (fun k4=>chain [tB 19 (aS k4),.c (On _ ae ae:gV 183 [(iP n)] _),.o 27 (.int (alB ae ae):PV.le (.e (.v (.int .u64 (IntKind.u64.wrap d)))) (.e (.v (.int .u64 (Int.natAbs d:Int))))),.c (adp (Int.natAbs n) (Int.natAbs d) ae ae)]<|rQ (bP ((Nat.gcd (Int.natAbs n) (Int.natAbs d):Int)==1)) (bP (lJ n d)) (by unfold lJ;simp[xp,k1,k2,k3,k4]))
     (fun k4=>chain [tB 19 (aT k4)]<|rQ (bP false) (bP (lJ n d)) (by unfold lJ;simp[xp,k1,k2,k3,k4])))
    (fun k3=>chain [tB 14 (aT k3)]<|rQ (bP false) (bP (lJ n d)) (by unfold lJ;simp[xp,k1,k2,k3])))
   (fun k2=>chain [tB 9 (aT k2)]<|rQ (bP false) (bP (lJ n d)) (by unfold lJ;simp[xp,k1,k2])))
  (fun k1=>chain [tB 5 (aT k1)]<|rQ (bP false) (bP (lJ n d)) (by unfold lJ;simp[xp,k1]))) ah 
theorem BJ(o:mZ)(m:Int)(g:o.ji):gV 95 [(BT o),(iP m)] (bP (jE o m)):=by
 exact tr true Tryz.call95 Tryz.func95 (.w (o.kind=1)
  (fun k1=>chain [tB 13 (aK k1),.c (FJ o.cn o.cd)]<|.w (lJ o.cn o.cd=true)
   (fun k2=>chain [tB 19 (k2),tB 47 (ag:(decide ((0:Int)<0))=false),tB 52 (ag:(decide ((1:Int)<0))=false),.g (Ja g.kind g.a g.b g.n g.cn g.cd g.kind ui ui ui g.cn g.cd:pz Tryz.prog .eql 99 (BT o) (.agg [(iP o.kind),(iP 0),(iP 0),(iP 0),(iP o.cn),(iP o.cd)]) (.bool (decide (o.kind=o.kind/\o.a=0/\o.b=0/\o.n=0/\o.cn=o.cn/\o.cd=o.cd))))]<|.w (o.kind=o.kind/\o.a=0/\o.b=0/\o.n=0/\o.cn=o.cn/\o.cd=o.cd)
    (fun k3=>chain [tB 58 (aS k3),tB 61 (ag:((0:Int)==0)=true)]<|rQ (bP true) (bP (jE o m)) (kS))
    (fun k3=>chain [tB 58 (aT k3)]<|rQ (bP false) (bP (jE o m)) (kS)))
   (fun k2=>chain [tB 19 (aM k2)]<|rQ (bP false) (bP (jE o m)) (kS)))
  (fun k1=>chain [tB 13 (aJ k1),.j 42 ⟨85,true,[(21,.e (bP (decide (3<=o.kind/\o.kind<=6)))),(11,.e (iP o.kind)),(6,.box 6 0),(2,.box 2 0),(1,.e (iP m))],[(6,.cells 99 [(iP o.kind),(iP 0),(iP 0),(iP 0),(iP 0),(iP 0)]),(2,.cells 99 [(iP o.kind),(iP o.a),(iP o.b),(iP o.n),(iP o.cn),(iP o.cd)])]⟩
   (.w (o.kind=3)
    (fun m1=>chain [.v 21 (.bool (aK m1))]<|.e (chain [tB 21 (og an:true=(decide (3<=o.kind/\o.kind<=6)))]<|.nil))
    (fun m1=>chain [.v 21 (.bool (aJ m1))]<|.w (o.kind=4)
     (fun m2=>chain [tB 23 (aK m2)]<|.e (chain [tB 21 (og an:true=(decide (3<=o.kind/\o.kind<=6)))]<|.nil))
     (fun m2=>chain [tB 23 (aJ m2)]<|.w (o.kind=5)
      (fun m3=>chain [tB 24 (aK m3)]<|.e (chain [tB 21 (og an:true=(decide (3<=o.kind/\o.kind<=6)))]<|.nil))
      (fun m3=>chain [tB 24 (aJ m3)]<|.e (chain [tB 21 (og an:(o.kind==6)=(decide (3<=o.kind/\o.kind<=6)))]<|.nil)))))]<|.w (3<=o.kind/\o.kind<=6)
   (fun k2=>chain [.v 21 (.bool (aS k2)),tB 47 (ag:(decide ((0:Int)<2))=true),tB 52 (ag:(decide ((1:Int)<2))=true),.g (Ja g.kind g.a g.b g.n g.cn g.cd g.kind g.a g.b ui ui ui:pz Tryz.prog .eql 99 (BT o) (.agg [(iP o.kind),(iP o.a),(iP o.b),(iP 0),(iP 0),(iP 0)]) (.bool (decide (o.kind=o.kind/\o.a=o.a/\o.b=o.b/\o.n=0/\o.cn=0/\o.cd=0))))]<|.w (o.kind=o.kind/\o.a=o.a/\o.b=o.b/\o.n=0/\o.cn=0/\o.cd=0)
    (fun k3=>chain [tB 58 (aS k3),tB 61 (ag:((2:Int)==0)=false)]<|.w (0<=o.a)
     (fun k4=>chain [tB 65 (aS k4)]<|.w (o.a<m)
      (fun k5=>chain [tB 70 (aS k5)]<|.w (0<=o.b)
       (fun k6=>chain [tB 75 (aS k6)]<|rQ (bP (decide (o.b<m))) (bP (jE o m)) (kS))
       (fun k6=>chain [tB 75 (aT k6)]<|rQ (bP false) (bP (jE o m)) (kS)))
      (fun k5=>chain [tB 70 (aT k5)]<|rQ (bP false) (bP (jE o m)) (kS)))
     (fun k4=>chain [tB 65 (aT k4)]<|rQ (bP false) (bP (jE o m)) (kS)))
    (fun k3=>chain [tB 58 (aT k3)]<|rQ (bP false) (bP (jE o m)) (kS)))
   (fun k2=>chain [.v 21 (.bool (aT k2)),.j 52 ⟨85,true,[(26,.e (bP (decide (o.kind=7\/9<=o.kind/\o.kind<=13)))),(11,.e (iP o.kind)),(6,.box 6 0),(2,.box 2 0),(1,.e (iP m))],[(6,.cells 99 [(iP o.kind),(iP 0),(iP 0),(iP 0),(iP 0),(iP 0)]),(2,.cells 99 [(iP o.kind),(iP o.a),(iP o.b),(iP o.n),(iP o.cn),(iP o.cd)])]⟩
   (.w (o.kind=7)
    (fun m1=>chain [.v 26 (.bool (aK m1))]<|.e (chain [tB 26 (og an:true=(decide (o.kind=7\/9<=o.kind/\o.kind<=13)))]<|.nil))
    (fun m1=>chain [.v 26 (.bool (aJ m1))]<|.w (o.kind=9)
     (fun m2=>chain [tB 28 (aK m2)]<|.e (chain [tB 26 (og an:true=(decide (o.kind=7\/9<=o.kind/\o.kind<=13)))]<|.nil))
     (fun m2=>chain [tB 28 (aJ m2)]<|.w (o.kind=10)
      (fun m3=>chain [tB 29 (aK m3)]<|.e (chain [tB 26 (og an:true=(decide (o.kind=7\/9<=o.kind/\o.kind<=13)))]<|.nil))
      (fun m3=>chain [tB 29 (aJ m3)]<|.w (o.kind=11)
       (fun m4=>chain [tB 30 (aK m4)]<|.e (chain [tB 26 (og an:true=(decide (o.kind=7\/9<=o.kind/\o.kind<=13)))]<|.nil))
       (fun m4=>chain [tB 30 (aJ m4)]<|.w (o.kind=12)
        (fun m5=>chain [tB 31 (aK m5)]<|.e (chain [tB 26 (og an:true=(decide (o.kind=7\/9<=o.kind/\o.kind<=13)))]<|.nil))
        (fun m5=>chain [tB 31 (aJ m5)]<|.e (chain [tB 26 (og an:(o.kind==13)=(decide (o.kind=7\/9<=o.kind/\o.kind<=13)))]<|.nil)))))))]<|.w (o.kind=7\/9<=o.kind/\o.kind<=13)
    (fun k3=>chain [.v 26 (.bool (aS k3)),tB 47 (ag:(decide ((0:Int)<1))=true),tB 52 (ag:(decide ((1:Int)<1))=false),.g (Ja g.kind g.a g.b g.n g.cn g.cd g.kind g.a ui ui ui ui:pz Tryz.prog .eql 99 (BT o) (.agg [(iP o.kind),(iP o.a),(iP 0),(iP 0),(iP 0),(iP 0)]) (.bool (decide (o.kind=o.kind/\o.a=o.a/\o.b=0/\o.n=0/\o.cn=0/\o.cd=0))))]<|.w (o.kind=o.kind/\o.a=o.a/\o.b=0/\o.n=0/\o.cn=0/\o.cd=0)
     (fun k4=>chain [tB 58 (aS k4),tB 61 (ag:((1:Int)==0)=false)]<|.w (0<=o.a)
      (fun k5=>chain [tB 65 (aS k5)]<|.w (o.a<m)
       (fun k6=>chain [tB 70 (aS k6)]<|.w (0<=o.b)
        (fun k7=>chain [tB 75 (aS k7)]<|rQ (bP (decide (o.b<m))) (bP (jE o m)) (kS))
        (fun k7=>chain [tB 75 (aT k7)]<|rQ (bP false) (bP (jE o m)) (kS)))
       (fun k6=>chain [tB 70 (aT k6)]<|rQ (bP false) (bP (jE o m)) (kS)))
      (fun k5=>chain [tB 65 (aT k5)]<|rQ (bP false) (bP (jE o m)) (kS)))
     (fun k4=>chain [tB 58 (aT k4)]<|rQ (bP false) (bP (jE o m)) (kS)))
    (fun k3=>chain [.v 26 (.bool (aT k3))]<|.w (o.kind=8)
     (fun k4=>chain [tB 34 (aK k4)]<|.w (o.n<0)
      (fun k5=>chain [tB 40 (aS k5)]<|rQ (bP false) (bP (jE o m)) (kS))
      (fun k5=>chain [tB 40 (aT k5)]<|.w (16<o.n)
       (fun k6=>chain [tB 44 (aS k6)]<|rQ (bP false) (bP (jE o m)) (kS))
       (fun k6=>chain [tB 44 (aT k6),tB 47 (ag:(decide ((0:Int)<1))=true),tB 52 (ag:(decide ((1:Int)<1))=false),.g (Ja g.kind g.a g.b g.n g.cn g.cd g.kind g.a ui g.n ui ui:pz Tryz.prog .eql 99 (BT o) (.agg [(iP o.kind),(iP o.a),(iP 0),(iP o.n),(iP 0),(iP 0)]) (.bool (decide (o.kind=o.kind/\o.a=o.a/\o.b=0/\o.n=o.n/\o.cn=0/\o.cd=0))))]<|.w (o.kind=o.kind/\o.a=o.a/\o.b=0/\o.n=o.n/\o.cn=0/\o.cd=0)
        (fun k7=>chain [tB 58 (aS k7),tB 61 (ag:((1:Int)==0)=false)]<|.w (0<=o.a)
         (fun k8=>chain [tB 65 (aS k8)]<|.w (o.a<m)
          (fun k9=>chain [tB 70 (aS k9)]<|.w (0<=o.b)
           (fun k10=>chain [tB 75 (aS k10)]<|rQ (bP (decide (o.b<m))) (bP (jE o m)) (kS))
           (fun k10=>chain [tB 75 (aT k10)]<|rQ (bP false) (bP (jE o m)) (kS)))
          (fun k9=>chain [tB 70 (aT k9)]<|rQ (bP false) (bP (jE o m)) (kS)))
         (fun k8=>chain [tB 65 (aT k8)]<|rQ (bP false) (bP (jE o m)) (kS)))
        (fun k7=>chain [tB 58 (aT k7)]<|rQ (bP false) (bP (jE o m)) (kS)))))
     (fun k4=>chain [tB 34 (aJ k4)]<|rQ (bP false) (bP (jE o m)) (kS)))))) ah 
theorem UW(L:List Nat):((L.length:Int)=0)↔L=[]:=by rw[<-gv];omega
def zB(d:RD):Bool:=!d.neg&&decide (d.L=[])&&(d.e==0)
theorem Gk{d:RD}:zB d=true↔d.Zero:=by simp[zB,RD.Zero,and_assoc]
theorem FI(d:RD):gV 52 [(mF d)] (bP (zB d)):=by
 exact tr true Tryz.call52 Tryz.func52 (.w (d.neg=true)
  (fun k1=>chain [tB 4 (k1)]<|rQ (bP false) (bP (zB d)) (by simp[zB,k1]))
  (fun k1=>chain [tB 4 (aM k1)]<|.w ((d.L.length:Int)=0)
   (fun k2=>chain [tB 10 (aK k2)]<|rQ (bP (d.e==0)) (bP (zB d)) (by simp[zB,k1,show d.L=[]from(UW _).1 k2]))
   (fun k2=>chain [tB 10 (aJ k2)]<|rQ (bP false) (bP (zB d)) (by simp[zB,k1,show ¬d.L=[]from fun q=>k2 ((UW _).2 q)])))) ah 
theorem Aw(x:RI)(g:x.ji):gV 19 [(uh x)] (bP (nm x)):=by
 have ga:=g.lo;have gb:=g.hi;by_cases ha:x.all=true
 .have nb:∀ q:x.all=false,False:=fun q=>by rw[ha]at q;cases q
  by_cases h1:x.lo.Zero
  .by_cases h2:x.hi.Zero
   .rw [sd.2 (.inl ⟨ha,h1,h2⟩)]
    exact tr true Tryz.call19 Tryz.func19 (chain [tB 4 (ha:x.all=true),.c (FI x.lo),tB 7 (Gk.2 h1:(zB x.lo)=true),.c (FI x.hi),tB 11 (Gk.2 h2:(zB x.hi)=true)]<|.nil) ah 
   .have e:nm x=false:=by simpa using fun q=>(sd.1 q).elim (fun q=>h2 q.2.2) fun q=>nb q.1
    rw[e];exact tr true Tryz.call19 Tryz.func19 (chain [tB 4 (ha:x.all=true),.c (FI x.lo),tB 7 (Gk.2 h1:(zB x.lo)=true),.c (FI x.hi),tB 11 (aM fun q=>h2 (Gk.1 q):(zB x.hi)=false)]<|.nil) ah 
  .have e:nm x=false:=by simpa using fun q=>(sd.1 q).elim (fun q=>h1 q.2.1) fun q=>nb q.1
   rw[e];exact tr true Tryz.call19 Tryz.func19 (chain [tB 4 (ha:x.all=true),.c (FI x.lo),tB 7 (aM fun q=>h1 (Gk.1 q):(zB x.lo)=false)]<|.nil) ah 
 .replace ha:x.all=false:=by simpa using ha
  by_cases h1:x.lo.Ok
  .by_cases h2:x.hi.Ok
   .have v1:=h1.valid
    have v2:=h2.valid;have e1:uh x=gZ x.iv:=by rw[<-IN,show x.iv.raw=x by show RI.mk x.lo.dy.raw x.hi.dy.raw x.all=x;rw[h1.eq ga,h2.eq gb]]
    rw[e1];by_cases h3:jm x.lo.dy x.hi.dy<=0
    .rw [sd.2 (.inr ⟨ha,h1,h2,h3⟩)]
     exact tr true Tryz.call19 Tryz.func19 (chain [tB 4 (ha:x.iv.all=false),.c (yP _ af:gV 46 [(gY x.iv.lo)] _),.c (yP _ af:gV 46 [(gY x.iv.hi)] _),.c (BO x.iv.lo x.iv.hi v1.rf v2.rf),tB 27 (aS h3)]<|.nil) ah 
    .have e:nm x=false:=by simpa using fun q=>(sd.1 q).elim (fun q=>by rw[ha]at q;exact Bool.noConfusion q.1) fun q=>h3 q.2.2.2
     rw[e];exact tr true Tryz.call19 Tryz.func19 (chain [tB 4 (ha:x.iv.all=false),.c (yP _ af:gV 46 [(gY x.iv.lo)] _),.c (yP _ af:gV 46 [(gY x.iv.hi)] _),.c (BO x.iv.lo x.iv.hi v1.rf v2.rf),tB 27 (aT h3)]<|.nil) ah 
   .have e:nm x=false:=by simpa using fun q=>(sd.1 q).elim (fun q=>by rw[ha]at q;exact Bool.noConfusion q.1) fun q=>h2 q.2.2.1
    rw[e];exact tr true Tryz.call19 Tryz.func19 (chain [tB 4 (ha:x.all=false),.c (Jp _ af _ vo:gV 46 [(mF x.lo)] _),tB 15 (vo.2 h1:(xx x.lo)=true),.c (Jp _ af _ vo:gV 46 [(mF x.hi)] _),tB 19 (aM fun q=>h2 (vo.1 q):(xx x.hi)=false)]<|.nil) ah 
  .have e:nm x=false:=by simpa using fun q=>(sd.1 q).elim (fun q=>by rw[ha]at q;exact Bool.noConfusion q.1) fun q=>h1 q.2.1
   rw[e];exact tr true Tryz.call19 Tryz.func19 (chain [tB 4 (ha:x.all=false),.c (Jp _ af _ vo:gV 46 [(mF x.lo)] _),tB 15 (aM fun q=>h1 (vo.1 q):(xx x.lo)=false)]<|.nil) ah 
theorem ahR(s:jr)(g:s.ji)(sm:s.mn)(hc:¬(0<=s.im/\s.im<=8/\s.gW.length<=200/\s.ig.length<=200/\1<=s.iA/\s.iA<=4/\(s.ig.length:Int)=s.iA/\s.params.length<=4/\s.im=s.iA+(s.params.length:Int))):gV 49 [(lj s)] (bP false):=by
 have sp:=sm.params;have so:=sm.ig;have sq:=sm.gW;exact tr true Tryz.call49 Tryz.func49 (.w (s.im<0)
  (fun k1=>chain [tB 11 (aS k1)]<|.nil)
  (fun k1=>chain [tB 11 (aT k1)]<|.w (8<s.im)
   (fun k2=>chain [tB 15 (aS k2)]<|.nil)
   (fun k2=>chain [tB 15 (aT k2)]<|.w (200<(s.gW.length:Int))
    (fun k3=>chain [tB 21 (aS k3)]<|.nil)
    (fun k3=>chain [tB 21 (aT k3)]<|.w (200<(s.ig.length:Int))
     (fun k4=>chain [tB 27 (aS k4)]<|.nil)
     (fun k4=>chain [tB 27 (aT k4)]<|.w (s.iA<1)
      (fun k5=>chain [tB 32 (aS k5)]<|.nil)
      (fun k5=>chain [tB 32 (aT k5)]<|.w (4<s.iA)
       (fun k6=>chain [tB 37 (aS k6)]<|.nil)
       (fun k6=>chain [tB 37 (aT k6)]<|.w ((s.ig.length:Int)=s.iA)
        (fun k7=>chain [tB 45 (aO k7)]<|.w (4<(s.params.length:Int))
         (fun k8=>chain [tB 51 (aS k8)]<|.nil)
         (fun k8=>chain [tB 51 (aT k8),iq (s.iA+(s.params.length:Int)) ae]<|.w (s.im=(s.iA+(s.params.length:Int)))
          (fun k9=>.x (by exact absurd ⟨ae,ae,ae,ae,ae,ae,ae,ae,ae⟩ hc))
          (fun k9=>chain [tB 62 (aP k9)]<|.nil)))
        (fun k7=>chain [tB 45 (aP k7)]<|.nil)))))))) ah 
theorem ahS(s:jr)(g:s.ji)(sm:s.mn)(i0:0<=s.im)(i8:s.im<=8)(l1:s.gW.length<=200)(l2:s.ig.length<=200)(s1:1<=s.iA)(s4:s.iA<=4)(e1:(s.ig.length:Int)=s.iA)(e2:s.im=s.iA+(s.params.length:Int))(p4:s.params.length<=4)(N:Nat)(mE:N<s.gW.length)(iH:∀ k,k<N->(jE (s.gW.getD k iV) (s.im+(k:Int)))=true)(hN:(jE (s.gW.getD N iV) (s.im+(N:Int)))=false):gV 49 [(lj s)] (bP false):=by
 have sp:=sm.params;have so:=sm.ig;have sq:=sm.gW;exact tr true Tryz.call49 Tryz.func49 (chain [tF 11 (s.im<0) ae,tF 15 (8<s.im) ae,tF 21 (200<(s.gW.length:Int)) ae,tF 27 (200<(s.ig.length:Int)) ae,tF 32 (s.iA<1) ae,tF 37 (4<s.iA) ae,tB 45 (by simp[e1]:((s.ig.length:Int) != s.iA)=false),tF 51 (4<(s.params.length:Int)) ae,iq (s.iA+(s.params.length:Int)) ae,tB 62 (by simp[e2]:(s.im != (s.iA+(s.params.length:Int)))=false),.s (Sp.jv (Ws s N) 0 N ae (fun x hx kf=>by
    have nf:=g.gW x;exact iB (chain [tT 68 ((x:Int)<(s.gW.length:Int)) ae,iX ((x:Int)) (s.gW.length) ae,iq (s.im+(x:Int)) ae,.c (BJ (s.gW.getD x iV) (s.im+(x:Int)) nf),tB 81 (by rw[iH x ae];rfl:(!(jE (s.gW.getD x iV) (s.im+(x:Int))))=false),iq ((x:Int)+1) ae]<|.nil) ah)
  (fun hx=>by
    have nf:=g.gW N;exact iB (chain [tT 68 ((N:Int)<(s.gW.length:Int)) ae,iX ((N:Int)) (s.gW.length) ae,iq (s.im+(N:Int)) ae,.c (BJ (s.gW.getD N iV) (s.im+(N:Int)) nf),tB 81 (by rw[hN];rfl:(!(jE (s.gW.getD N iV) (s.im+(N:Int))))=true)]<|.nil) ah) ak:jq 5 Tryz.f49 (Ws s N 0) .ret ⟨131,true,[(2,.e (bP false))],[]⟩) .nil]<|.nil) ah 
theorem ahT(s:jr)(g:s.ji)(sm:s.mn)(i0:0<=s.im)(i8:s.im<=8)(l1:s.gW.length<=200)(l2:s.ig.length<=200)(s1:1<=s.iA)(s4:s.iA<=4)(e1:(s.ig.length:Int)=s.iA)(e2:s.im=s.iA+(s.params.length:Int))(p4:s.params.length<=4)(iH:∀ k,k<s.gW.length->(jE (s.gW.getD k iV) (s.im+(k:Int)))=true)(N:Nat)(mE:N<s.ig.length)(mS:∀ k,k<N->0<=(s.ig.getD k 0)/\(s.ig.getD k 0)<s.im+(s.gW.length:Int))(hN:(s.ig.getD N 0)<0):gV 49 [(lj s)] (bP false):=by
 have sp:=sm.params;have so:=sm.ig;have sq:=sm.gW;exact tr true Tryz.call49 Tryz.func49 (chain [tF 11 (s.im<0) ae,tF 15 (8<s.im) ae,tF 21 (200<(s.gW.length:Int)) ae,tF 27 (200<(s.ig.length:Int)) ae,tF 32 (s.iA<1) ae,tF 37 (4<s.iA) ae,tB 45 (by simp[e1]:((s.ig.length:Int) != s.iA)=false),tF 51 (4<(s.params.length:Int)) ae,iq (s.iA+(s.params.length:Int)) ae,tB 62 (by simp[e2]:(s.im != (s.iA+(s.params.length:Int)))=false),.s (Sp.jv (Wn s) 0 s.gW.length ae (fun x hx kf=>by
    have nf:=g.gW x;exact iB (chain [tT 68 ((x:Int)<(s.gW.length:Int)) ae,iX ((x:Int)) (s.gW.length) ae,iq (s.im+(x:Int)) ae,.c (BJ (s.gW.getD x iV) (s.im+(x:Int)) nf),tB 81 (by rw[iH x ae];rfl:(!(jE (s.gW.getD x iV) (s.im+(x:Int))))=false),iq ((x:Int)+1) ae]<|.nil) ah)
  (fun hx=>by
    exact iB (chain [tF 68 ((s.gW.length:Int)<(s.gW.length:Int)) ae]<|.nil) ah) ak:jq 5 Tryz.f49 (Wn s 0) (.exit 0) ⟨131,true,[(3,.box 3 0),(1,.box 1 0)],[(3,.cells 25 [(iP s.im),(jJ s.gW),(jN s.ig)]),(1,.cells 28 [(iP s.im),(jJ s.gW),(jN s.ig),(iP s.iA),(kj s.params)])]⟩) .nil,.s (Sp.jv (Wt s N) 0 N ae (fun x hx kf=>by
    have Bj:=mS x ae;exact iB (chain [tT 86 ((x:Int)<(s.ig.length:Int)) ae,iX ((x:Int)) (s.ig.length) ae,tF 94 ((s.ig.getD x 0)<0) ae,iX ((x:Int)) (s.ig.length) ae,
     iq (s.im+(s.gW.length:Int)) ae,tF 107 ((s.im+(s.gW.length:Int))<=(s.ig.getD x 0)) ae,iq ((x:Int)+1) ae]<|.nil) ah)
  (fun hx=>by
    exact iB (chain [tT 86 ((N:Int)<(s.ig.length:Int)) ae,iX ((N:Int)) (s.ig.length) ae,tB 94 (aS hN)]<|.nil) ah) ak:jq 10 Tryz.f49 (Wt s N 0) .ret ⟨131,true,[(2,.e (bP false))],[]⟩) .nil]<|.nil) ah 
theorem ahU(s:jr)(g:s.ji)(sm:s.mn)(i0:0<=s.im)(i8:s.im<=8)(l1:s.gW.length<=200)(l2:s.ig.length<=200)(s1:1<=s.iA)(s4:s.iA<=4)(e1:(s.ig.length:Int)=s.iA)(e2:s.im=s.iA+(s.params.length:Int))(p4:s.params.length<=4)(iH:∀ k,k<s.gW.length->(jE (s.gW.getD k iV) (s.im+(k:Int)))=true)(N:Nat)(mE:N<s.ig.length)(mS:∀ k,k<N->0<=(s.ig.getD k 0)/\(s.ig.getD k 0)<s.im+(s.gW.length:Int))(hN:0<=(s.ig.getD N 0))(hM:s.im+(s.gW.length:Int)<=(s.ig.getD N 0)):gV 49 [(lj s)] (bP false):=by
 have sp:=sm.params;have so:=sm.ig;have sq:=sm.gW;exact tr true Tryz.call49 Tryz.func49 (chain [tF 11 (s.im<0) ae,tF 15 (8<s.im) ae,tF 21 (200<(s.gW.length:Int)) ae,tF 27 (200<(s.ig.length:Int)) ae,tF 32 (s.iA<1) ae,tF 37 (4<s.iA) ae,tB 45 (by simp[e1]:((s.ig.length:Int) != s.iA)=false),tF 51 (4<(s.params.length:Int)) ae,iq (s.iA+(s.params.length:Int)) ae,tB 62 (by simp[e2]:(s.im != (s.iA+(s.params.length:Int)))=false),.s (Sp.jv (Wo s) 0 s.gW.length ae (fun x hx kf=>by
    have nf:=g.gW x;exact iB (chain [tT 68 ((x:Int)<(s.gW.length:Int)) ae,iX ((x:Int)) (s.gW.length) ae,iq (s.im+(x:Int)) ae,.c (BJ (s.gW.getD x iV) (s.im+(x:Int)) nf),tB 81 (by rw[iH x ae];rfl:(!(jE (s.gW.getD x iV) (s.im+(x:Int))))=false),iq ((x:Int)+1) ae]<|.nil) ah)
  (fun hx=>by
    exact iB (chain [tF 68 ((s.gW.length:Int)<(s.gW.length:Int)) ae]<|.nil) ah) ak:jq 5 Tryz.f49 (Wo s 0) (.exit 0) ⟨131,true,[(3,.box 3 0),(1,.box 1 0)],[(3,.cells 25 [(iP s.im),(jJ s.gW),(jN s.ig)]),(1,.cells 28 [(iP s.im),(jJ s.gW),(jN s.ig),(iP s.iA),(kj s.params)])]⟩) .nil,.s (Sp.jv (Wu s N) 0 N ae (fun x hx kf=>by
    have Bj:=mS x ae;exact iB (chain [tT 86 ((x:Int)<(s.ig.length:Int)) ae,iX ((x:Int)) (s.ig.length) ae,tF 94 ((s.ig.getD x 0)<0) ae,iX ((x:Int)) (s.ig.length) ae,
     iq (s.im+(s.gW.length:Int)) ae,tF 107 ((s.im+(s.gW.length:Int))<=(s.ig.getD x 0)) ae,iq ((x:Int)+1) ae]<|.nil) ah)
  (fun hx=>by
    exact iB (chain [tT 86 ((N:Int)<(s.ig.length:Int)) ae,iX ((N:Int)) (s.ig.length) ae,tF 94 ((s.ig.getD N 0)<0) ae,iX ((N:Int)) (s.ig.length) ae,
    iq (s.im+(s.gW.length:Int)) ae,tB 107 (aS hM)]<|.nil) ah) ak:jq 10 Tryz.f49 (Wu s N 0) .ret ⟨131,true,[(2,.e (bP false))],[]⟩) .nil]<|.nil) ah 
theorem ahV(s:jr)(g:s.ji)(sm:s.mn)(i0:0<=s.im)(i8:s.im<=8)(l1:s.gW.length<=200)(l2:s.ig.length<=200)(s1:1<=s.iA)(s4:s.iA<=4)(e1:(s.ig.length:Int)=s.iA)(e2:s.im=s.iA+(s.params.length:Int))(p4:s.params.length<=4)(iH:∀ k,k<s.gW.length->(jE (s.gW.getD k iV) (s.im+(k:Int)))=true)(mS:∀ k,k<s.ig.length->0<=(s.ig.getD k 0)/\(s.ig.getD k 0)<s.im+(s.gW.length:Int))(N:Nat)(mE:N<s.params.length)(pS:∀ k,k<N->nm (s.params.getD k ju)=true/\(s.params.getD k ju).all=false)(hN:(s.params.getD N ju).all=true):gV 49 [(lj s)] (bP false):=by
 have sp:=sm.params;have so:=sm.ig;have sq:=sm.gW;exact tr true Tryz.call49 Tryz.func49 (chain [tF 11 (s.im<0) ae,tF 15 (8<s.im) ae,tF 21 (200<(s.gW.length:Int)) ae,tF 27 (200<(s.ig.length:Int)) ae,tF 32 (s.iA<1) ae,tF 37 (4<s.iA) ae,tB 45 (by simp[e1]:((s.ig.length:Int) != s.iA)=false),tF 51 (4<(s.params.length:Int)) ae,iq (s.iA+(s.params.length:Int)) ae,tB 62 (by simp[e2]:(s.im != (s.iA+(s.params.length:Int)))=false),.s (Sp.jv (Wp s) 0 s.gW.length ae (fun x hx kf=>by
    have nf:=g.gW x;exact iB (chain [tT 68 ((x:Int)<(s.gW.length:Int)) ae,iX ((x:Int)) (s.gW.length) ae,iq (s.im+(x:Int)) ae,.c (BJ (s.gW.getD x iV) (s.im+(x:Int)) nf),tB 81 (by rw[iH x ae];rfl:(!(jE (s.gW.getD x iV) (s.im+(x:Int))))=false),iq ((x:Int)+1) ae]<|.nil) ah)
  (fun hx=>by
    exact iB (chain [tF 68 ((s.gW.length:Int)<(s.gW.length:Int)) ae]<|.nil) ah) ak:jq 5 Tryz.f49 (Wp s 0) (.exit 0) ⟨131,true,[(3,.box 3 0),(1,.box 1 0)],[(3,.cells 25 [(iP s.im),(jJ s.gW),(jN s.ig)]),(1,.cells 28 [(iP s.im),(jJ s.gW),(jN s.ig),(iP s.iA),(kj s.params)])]⟩) .nil,.s (Sp.jv (Wv s) 0 s.ig.length ae (fun x hx kf=>by
    have Bj:=mS x ae;exact iB (chain [tT 86 ((x:Int)<(s.ig.length:Int)) ae,iX ((x:Int)) (s.ig.length) ae,tF 94 ((s.ig.getD x 0)<0) ae,iX ((x:Int)) (s.ig.length) ae,
     iq (s.im+(s.gW.length:Int)) ae,tF 107 ((s.im+(s.gW.length:Int))<=(s.ig.getD x 0)) ae,iq ((x:Int)+1) ae]<|.nil) ah)
  (fun hx=>by
    exact iB (chain [tF 86 ((s.ig.length:Int)<(s.ig.length:Int)) ae]<|.nil) ah) ak:jq 10 Tryz.f49 (Wv s 0) (.exit 2) ⟨131,true,[(1,.box 1 0)],[(1,.cells 28 [(iP s.im),(jJ s.gW),(jN s.ig),(iP s.iA),(kj s.params)])]⟩) .nil,.s (Sp.jv (Ww s N) 0 N ae (fun x hx kf=>by
    have xZ:=g.params x;exact iB (chain [tT 113 ((x:Int)<(s.params.length:Int)) ae,iX ((x:Int)) (s.params.length) ae,tB 121 ((pS x ae).2:(s.params.getD x ju).all=false),
     iX ((x:Int)) (s.params.length) ae,.c (Aw (s.params.getD x ju) af),tB 129 (by rw[(pS x ae).1];rfl:(!(nm (s.params.getD x ju)))=false),iq ((x:Int)+1) ae]<|.nil) ah)
  (fun hx=>by
    have xZ:=g.params N;exact iB (chain [tT 113 ((N:Int)<(s.params.length:Int)) ae,iX ((N:Int)) (s.params.length) ae,tB 121 (hN:(s.params.getD N ju).all=true)]<|.nil) ah) ak:jq 15 Tryz.f49 (Ww s N 0) .ret ⟨131,true,[(2,.e (bP false))],[]⟩) .nil]<|.nil) ah 
theorem ahW(s:jr)(g:s.ji)(sm:s.mn)(i0:0<=s.im)(i8:s.im<=8)(l1:s.gW.length<=200)(l2:s.ig.length<=200)(s1:1<=s.iA)(s4:s.iA<=4)(e1:(s.ig.length:Int)=s.iA)(e2:s.im=s.iA+(s.params.length:Int))(p4:s.params.length<=4)(iH:∀ k,k<s.gW.length->(jE (s.gW.getD k iV) (s.im+(k:Int)))=true)(mS:∀ k,k<s.ig.length->0<=(s.ig.getD k 0)/\(s.ig.getD k 0)<s.im+(s.gW.length:Int))(N:Nat)(mE:N<s.params.length)(pS:∀ k,k<N->nm (s.params.getD k ju)=true/\(s.params.getD k ju).all=false)(hN:(s.params.getD N ju).all=false)(hM:nm (s.params.getD N ju)=false):gV 49 [(lj s)] (bP false):=by
 have sp:=sm.params;have so:=sm.ig;have sq:=sm.gW;exact tr true Tryz.call49 Tryz.func49 (chain [tF 11 (s.im<0) ae,tF 15 (8<s.im) ae,tF 21 (200<(s.gW.length:Int)) ae,tF 27 (200<(s.ig.length:Int)) ae,tF 32 (s.iA<1) ae,tF 37 (4<s.iA) ae,tB 45 (by simp[e1]:((s.ig.length:Int) != s.iA)=false),tF 51 (4<(s.params.length:Int)) ae,iq (s.iA+(s.params.length:Int)) ae,tB 62 (by simp[e2]:(s.im != (s.iA+(s.params.length:Int)))=false),.s (Sp.jv (Wq s) 0 s.gW.length ae (fun x hx kf=>by
    have nf:=g.gW x;exact iB (chain [tT 68 ((x:Int)<(s.gW.length:Int)) ae,iX ((x:Int)) (s.gW.length) ae,iq (s.im+(x:Int)) ae,.c (BJ (s.gW.getD x iV) (s.im+(x:Int)) nf),tB 81 (by rw[iH x ae];rfl:(!(jE (s.gW.getD x iV) (s.im+(x:Int))))=false),iq ((x:Int)+1) ae]<|.nil) ah)
  (fun hx=>by
    exact iB (chain [tF 68 ((s.gW.length:Int)<(s.gW.length:Int)) ae]<|.nil) ah) ak:jq 5 Tryz.f49 (Wq s 0) (.exit 0) ⟨131,true,[(3,.box 3 0),(1,.box 1 0)],[(3,.cells 25 [(iP s.im),(jJ s.gW),(jN s.ig)]),(1,.cells 28 [(iP s.im),(jJ s.gW),(jN s.ig),(iP s.iA),(kj s.params)])]⟩) .nil,.s (Sp.jv (Wx s) 0 s.ig.length ae (fun x hx kf=>by
    have Bj:=mS x ae;exact iB (chain [tT 86 ((x:Int)<(s.ig.length:Int)) ae,iX ((x:Int)) (s.ig.length) ae,tF 94 ((s.ig.getD x 0)<0) ae,iX ((x:Int)) (s.ig.length) ae,
     iq (s.im+(s.gW.length:Int)) ae,tF 107 ((s.im+(s.gW.length:Int))<=(s.ig.getD x 0)) ae,iq ((x:Int)+1) ae]<|.nil) ah)
  (fun hx=>by
    exact iB (chain [tF 86 ((s.ig.length:Int)<(s.ig.length:Int)) ae]<|.nil) ah) ak:jq 10 Tryz.f49 (Wx s 0) (.exit 2) ⟨131,true,[(1,.box 1 0)],[(1,.cells 28 [(iP s.im),(jJ s.gW),(jN s.ig),(iP s.iA),(kj s.params)])]⟩) .nil,.s (Sp.jv (Wy s N) 0 N ae (fun x hx kf=>by
    have xZ:=g.params x;exact iB (chain [tT 113 ((x:Int)<(s.params.length:Int)) ae,iX ((x:Int)) (s.params.length) ae,tB 121 ((pS x ae).2:(s.params.getD x ju).all=false),
     iX ((x:Int)) (s.params.length) ae,.c (Aw (s.params.getD x ju) af),tB 129 (by rw[(pS x ae).1];rfl:(!(nm (s.params.getD x ju)))=false),iq ((x:Int)+1) ae]<|.nil) ah)
  (fun hx=>by
    have xZ:=g.params N;exact iB (chain [tT 113 ((N:Int)<(s.params.length:Int)) ae,iX ((N:Int)) (s.params.length) ae,tB 121 (hN:(s.params.getD N ju).all=false),iX ((N:Int)) (s.params.length) ae,.c (Aw (s.params.getD N ju) af),tB 129 (by rw[hM];rfl:(!(nm (s.params.getD N ju)))=true)]<|.nil) ah) ak:jq 15 Tryz.f49 (Wy s N 0) .ret ⟨131,true,[(2,.e (bP false))],[]⟩) .nil]<|.nil) ah 
theorem ahX(s:jr)(g:s.ji)(sm:s.mn)(i0:0<=s.im)(i8:s.im<=8)(l1:s.gW.length<=200)(l2:s.ig.length<=200)(s1:1<=s.iA)(s4:s.iA<=4)(e1:(s.ig.length:Int)=s.iA)(e2:s.im=s.iA+(s.params.length:Int))(p4:s.params.length<=4)(iH:∀ k,k<s.gW.length->(jE (s.gW.getD k iV) (s.im+(k:Int)))=true)(mS:∀ k,k<s.ig.length->0<=(s.ig.getD k 0)/\(s.ig.getD k 0)<s.im+(s.gW.length:Int))(pS:∀ k,k<s.params.length->nm (s.params.getD k ju)=true/\(s.params.getD k ju).all=false):gV 49 [(lj s)] (bP true):=by
 have sp:=sm.params;have so:=sm.ig;have sq:=sm.gW;exact tr true Tryz.call49 Tryz.func49 (chain [tF 11 (s.im<0) ae,tF 15 (8<s.im) ae,tF 21 (200<(s.gW.length:Int)) ae,tF 27 (200<(s.ig.length:Int)) ae,tF 32 (s.iA<1) ae,tF 37 (4<s.iA) ae,tB 45 (by simp[e1]:((s.ig.length:Int) != s.iA)=false),tF 51 (4<(s.params.length:Int)) ae,iq (s.iA+(s.params.length:Int)) ae,tB 62 (by simp[e2]:(s.im != (s.iA+(s.params.length:Int)))=false),.s (Sp.jv (Wr s) 0 s.gW.length ae (fun x hx kf=>by
    have nf:=g.gW x;exact iB (chain [tT 68 ((x:Int)<(s.gW.length:Int)) ae,iX ((x:Int)) (s.gW.length) ae,iq (s.im+(x:Int)) ae,.c (BJ (s.gW.getD x iV) (s.im+(x:Int)) nf),tB 81 (by rw[iH x ae];rfl:(!(jE (s.gW.getD x iV) (s.im+(x:Int))))=false),iq ((x:Int)+1) ae]<|.nil) ah)
  (fun hx=>by
    exact iB (chain [tF 68 ((s.gW.length:Int)<(s.gW.length:Int)) ae]<|.nil) ah) ak:jq 5 Tryz.f49 (Wr s 0) (.exit 0) ⟨131,true,[(3,.box 3 0),(1,.box 1 0)],[(3,.cells 25 [(iP s.im),(jJ s.gW),(jN s.ig)]),(1,.cells 28 [(iP s.im),(jJ s.gW),(jN s.ig),(iP s.iA),(kj s.params)])]⟩) .nil,.s (Sp.jv (Wz s) 0 s.ig.length ae (fun x hx kf=>by
    have Bj:=mS x ae;exact iB (chain [tT 86 ((x:Int)<(s.ig.length:Int)) ae,iX ((x:Int)) (s.ig.length) ae,tF 94 ((s.ig.getD x 0)<0) ae,iX ((x:Int)) (s.ig.length) ae,
     iq (s.im+(s.gW.length:Int)) ae,tF 107 ((s.im+(s.gW.length:Int))<=(s.ig.getD x 0)) ae,iq ((x:Int)+1) ae]<|.nil) ah)
  (fun hx=>by
    exact iB (chain [tF 86 ((s.ig.length:Int)<(s.ig.length:Int)) ae]<|.nil) ah) ak:jq 10 Tryz.f49 (Wz s 0) (.exit 2) ⟨131,true,[(1,.box 1 0)],[(1,.cells 28 [(iP s.im),(jJ s.gW),(jN s.ig),(iP s.iA),(kj s.params)])]⟩) .nil,.s (Sp.jv (WA s) 0 s.params.length ae (fun x hx kf=>by
    have xZ:=g.params x;exact iB (chain [tT 113 ((x:Int)<(s.params.length:Int)) ae,iX ((x:Int)) (s.params.length) ae,tB 121 ((pS x ae).2:(s.params.getD x ju).all=false),
     iX ((x:Int)) (s.params.length) ae,.c (Aw (s.params.getD x ju) af),tB 129 (by rw[(pS x ae).1];rfl:(!(nm (s.params.getD x ju)))=false),iq ((x:Int)+1) ae]<|.nil) ah)
  (fun hx=>by
    exact iB (chain [tF 113 ((s.params.length:Int)<(s.params.length:Int)) ae]<|.nil) ah) ak:jq 15 Tryz.f49 (WA s 0) (.exit 4) ⟨131,true,[],[]⟩) .nil]<|.nil) ah 
theorem FF(s:jr)(g:s.ji)(sm:s.mn):gV 49 [lj s] (bP (mA s)):=by
 by_cases hc:0<=s.im/\s.im<=8/\s.gW.length<=200/\s.ig.length<=200/\1<=s.iA/\s.iA<=4/\(s.ig.length:Int)=s.iA/\s.params.length<=4/\s.im=s.iA+(s.params.length:Int)
 rotate_left
 .rw [show mA s=false from ajT hc]
  exact ahR s g sm hc
 obtain⟨i0,i8,l1,l2,s1,s4,e1,p4,e2⟩:=hc;by_cases c2:FQ s=true
 rotate_left
 .rw [show mA s=false by unfold mA;rw[aM c2];simp]
  obtain⟨N,n1,n2,n3⟩:=xJ c2;exact ahS s g sm i0 i8 l1 l2 s1 s4 e1 e2 p4 N n1 (fun k hk=>by simpa using n3 k hk) (by simpa using n2)
 have iH:∀ k,k<s.gW.length->jE (s.gW.getD k iV) (s.im+(k:Int))=true:=fun k hk=>bF.1 c2 k (bI.2 hk)
 by_cases c3:vq s=true
 rotate_left
 .rw [show mA s=false by unfold mA;rw[aM c3];simp]
  obtain⟨N,n1,n2,n3⟩:=xJ c3;have mS:∀ k,k<N->0<=s.ig.getD k 0/\s.ig.getD k 0<s.im+(s.gW.length:Int):=fun k hk=>by simpa[vg]using n3 k hk
  have hN:¬(0<=s.ig.getD N 0/\s.ig.getD N 0<s.im+(s.gW.length:Int)):=fun q=>by
   rw[show vg s (s.ig.getD N 0)=true from aS q]at n2;cases n2
  by_cases h0:s.ig.getD N 0<0
  .exact ahT s g sm i0 i8 l1 l2 s1 s4 e1 e2 p4 iH N n1 mS h0
  .exact ahU s g sm i0 i8 l1 l2 s1 s4 e1 e2 p4 iH N n1 mS ae ae 
 have mS:∀ k,k<s.ig.length->0<=s.ig.getD k 0/\s.ig.getD k 0<s.im+(s.gW.length:Int):=fun k hk=>by simpa[vg]using List.all_eq_true.1 c3 k (bI.2 hk)
 by_cases c4:Du s=true
 .rw [show mA s=true by unfold mA;rw[aS (⟨i0,i8,l1,l2⟩:_/\_),c2,c3,aS (⟨s1,s4,e1,e2,p4⟩:_/\_),c4];rfl]
  exact ahX s g sm i0 i8 l1 l2 s1 s4 e1 e2 p4 iH mS fun k hk=>by simpa[ny]using List.all_eq_true.1 c4 k (bI.2 hk)
 .rw [show mA s=false by unfold mA;rw[aM c4];simp]
  obtain⟨N,n1,n2,n3⟩:=xJ c4;have pS:∀ k,k<N->nm (s.params.getD k ju)=true/\(s.params.getD k ju).all=false:=fun k hk=>by simpa[ny]using n3 k hk
  cases ha:(s.params.getD N ju).all with
  |true=>exact ahV s g sm i0 i8 l1 l2 s1 s4 e1 e2 p4 iH mS N n1 pS ha
  |false=>exact ahW s g sm i0 i8 l1 l2 s1 s4 e1 e2 p4 iH mS N n1 pS ha (by
   cases hk:nm (s.params.getD N ju)with
   |false=>rfl
   |true=>rw[show ny (s.params.getD N ju)=true by unfold ny;rw[hk,ha];rfl]at n2;cases n2)
theorem aie(s:jr)(g:s.ji)(sm:s.mn)(b:List RI)(gb:∀ i,(b.getD i ju).ji)(oc:b.length<=1000)(hs:mA s=false):gV 15 [(lj s),(kj b)] (bP false):=by
 exact tr true Tryz.call15 Tryz.func15 (chain [.c (FF _ g sm:gV 49 [(lj s)] _),tB 8 (by rw[hs];rfl:(!(mA s))=true)]<|.nil) ah 
theorem aif(s:jr)(g:s.ji)(sm:s.mn)(b:List RI)(gb:∀ i,(b.getD i ju).ji)(oc:b.length<=1000)(hs:mA s=true)(hl:¬(b.length:Int)=s.iA):gV 15 [(lj s),(kj b)] (bP false):=by
 exact tr true Tryz.call15 Tryz.func15 (chain [.c (FF _ g sm:gV 49 [(lj s)] _),tB 8 (by rw[hs];rfl:(!(mA s))=false),tB 14 (by simpa using hl:((b.length:Int) != s.iA)=true)]<|.nil) ah 
theorem aih(s:jr)(g:s.ji)(sm:s.mn)(b:List RI)(gb:∀ i,(b.getD i ju).ji)(oc:b.length<=1000)(hs:mA s=true)(hl:(b.length:Int)=s.iA)(N:Nat)(mE:N<b.length)(pS:∀ k,k<N->nm (b.getD k ju)=true/\(b.getD k ju).all=false)(hN:(b.getD N ju).all=true):gV 15 [(lj s),(kj b)] (bP false):=by
 exact tr true Tryz.call15 Tryz.func15 (chain [.c (FF _ g sm:gV 49 [(lj s)] _),tB 8 (by rw[hs];rfl:(!(mA s))=false),tB 14 (by simp[hl]:((b.length:Int) != s.iA)=false),.s (Sp.jv (VS s b N) 0 N ae (fun x hx kf=>by
    have xZ:=gb x;exact iB (chain [tT 19 ((x:Int)<(b.length:Int)) ae,iX ((x:Int)) (b.length) ae,tB 26 ((pS x ae).2:(b.getD x ju).all=false),iX ((x:Int)) (b.length) ae,.c (Aw (b.getD x ju) af),tB 33 (by rw[(pS x ae).1];rfl:(!(nm (b.getD x ju)))=false),iq ((x:Int)+1) ae]<|.nil) ah)
  (fun hx=>by
    have xZ:=gb N;exact iB (chain [tT 19 ((N:Int)<(b.length:Int)) ae,iX ((N:Int)) (b.length) ae,tB 26 (hN:(b.getD N ju).all=true)]<|.nil) ah) ak:jq 4 Tryz.f15 (VS s b N 0) .ret ⟨35,true,[(4,.e (bP false))],[]⟩) .nil]<|.nil) ah 
theorem aii(s:jr)(g:s.ji)(sm:s.mn)(b:List RI)(gb:∀ i,(b.getD i ju).ji)(oc:b.length<=1000)(hs:mA s=true)(hl:(b.length:Int)=s.iA)(N:Nat)(mE:N<b.length)(pS:∀ k,k<N->nm (b.getD k ju)=true/\(b.getD k ju).all=false)(hN:(b.getD N ju).all=false)(hM:nm (b.getD N ju)=false):gV 15 [(lj s),(kj b)] (bP false):=by
 exact tr true Tryz.call15 Tryz.func15 (chain [.c (FF _ g sm:gV 49 [(lj s)] _),tB 8 (by rw[hs];rfl:(!(mA s))=false),tB 14 (by simp[hl]:((b.length:Int) != s.iA)=false),.s (Sp.jv (VT s b N) 0 N ae (fun x hx kf=>by
    have xZ:=gb x;exact iB (chain [tT 19 ((x:Int)<(b.length:Int)) ae,iX ((x:Int)) (b.length) ae,tB 26 ((pS x ae).2:(b.getD x ju).all=false),iX ((x:Int)) (b.length) ae,.c (Aw (b.getD x ju) af),tB 33 (by rw[(pS x ae).1];rfl:(!(nm (b.getD x ju)))=false),iq ((x:Int)+1) ae]<|.nil) ah)
  (fun hx=>by
    have xZ:=gb N;exact iB (chain [tT 19 ((N:Int)<(b.length:Int)) ae,iX ((N:Int)) (b.length) ae,tB 26 (hN:(b.getD N ju).all=false),iX ((N:Int)) (b.length) ae,.c (Aw (b.getD N ju) af),tB 33 (by rw[hM];rfl:(!(nm (b.getD N ju)))=true)]<|.nil) ah) ak:jq 4 Tryz.f15 (VT s b N 0) .ret ⟨35,true,[(4,.e (bP false))],[]⟩) .nil]<|.nil) ah 
theorem aij(s:jr)(g:s.ji)(sm:s.mn)(b:List RI)(gb:∀ i,(b.getD i ju).ji)(oc:b.length<=1000)(hs:mA s=true)(hl:(b.length:Int)=s.iA)(pS:∀ k,k<b.length->nm (b.getD k ju)=true/\(b.getD k ju).all=false):gV 15 [(lj s),(kj b)] (bP true):=by
 exact tr true Tryz.call15 Tryz.func15 (chain [.c (FF _ g sm:gV 49 [(lj s)] _),tB 8 (by rw[hs];rfl:(!(mA s))=false),tB 14 (by simp[hl]:((b.length:Int) != s.iA)=false),.s (Sp.jv (VU s b) 0 b.length ae (fun x hx kf=>by
    have xZ:=gb x;exact iB (chain [tT 19 ((x:Int)<(b.length:Int)) ae,iX ((x:Int)) (b.length) ae,tB 26 ((pS x ae).2:(b.getD x ju).all=false),iX ((x:Int)) (b.length) ae,.c (Aw (b.getD x ju) af),tB 33 (by rw[(pS x ae).1];rfl:(!(nm (b.getD x ju)))=false),iq ((x:Int)+1) ae]<|.nil) ah)
  (fun hx=>by
    exact iB (chain [tF 19 ((b.length:Int)<(b.length:Int)) ae]<|.nil) ah) ak:jq 4 Tryz.f15 (VU s b 0) (.exit 0) ⟨35,true,[],[]⟩) .nil]<|.nil) ah 
noncomputable def tz(s:jr)(b:List RI):Bool:=mA s&&qu s.iA b
theorem Jg(s:jr)(g:s.ji)(sm:s.mn)(b:List RI)(gb:∀ i,(b.getD i ju).ji)(oc:b.length<=1000):gV 15 [lj s,kj b] (bP (tz s b)):=by
 unfold tz;cases hs:mA s with
 |false=>exact aie s g sm b gb oc hs
 |true=>
  rw[ev];by_cases hl:(b.length:Int)=s.iA
  rotate_left
  .rw [show qu s.iA b=false by unfold qu;rw[aT hl];rfl]
   exact aif s g sm b gb oc hs hl
  by_cases c4:((List.range b.length).all fun i=>ny (b.getD i ju))=true
  .rw [show qu s.iA b=true by unfold qu;rw[aS hl,c4];rfl]
   exact aij s g sm b gb oc hs hl fun k hk=>by simpa[ny]using List.all_eq_true.1 c4 k (bI.2 hk)
  .rw [show qu s.iA b=false by unfold qu;rw[aM c4];simp]
   obtain⟨N,n1,n2,n3⟩:=xJ c4;have pS:∀ k,k<N->nm (b.getD k ju)=true/\(b.getD k ju).all=false:=fun k hk=>by simpa[ny]using n3 k hk
   cases ha:(b.getD N ju).all with
   |true=>exact aih s g sm b gb oc hs hl N n1 pS ha
   |false=>exact aii s g sm b gb oc hs hl N n1 pS ha (by
    cases hk:nm (b.getD N ju)with
    |false=>rfl
    |true=>rw[show ny (b.getD N ju)=true by unfold ny;rw[hk,ha];rfl]at n2;cases n2)
theorem FB(p:Int):lh p=decide (8<=p/\p<=512):=by
 rw[cQ,oZ,bW]
theorem aik(s:jr)(g:s.ji)(sm:s.mn)(x:List RI)(gx:∀ i,(x.getD i ju).ji)(lv:x.length<=1000)(d:RD)(gd:d.ji)(p:Int)(hd:¬d.Ok):gV 14 [(lj s),(kj x),(mF d),(iP p)] (bP (mD s x d p)):=by
 have uT:xx d=false:=aM fun q=>hd (vo.1 q)
 exact tr true Tryz.call14 Tryz.func14 (chain [.c (Jg _ g sm _ gx lv:gV 15 [(lj s),(kj x)] _)]<|.w (tz s x=true)
  (fun k1=>chain [tB 11 (k1),.c (Jp _ af _ vo:gV 46 [(mF d)] _),tB 14 (uT:(xx d)=false)]<|rQ (bP false) (bP (mD s x d p)) (na az))
  (fun k1=>chain [tB 11 (aM k1)]<|rQ (bP false) (bP (mD s x d p)) (na az))) ah 
theorem ail(s:jr)(g:s.ji)(sm:s.mn)(x:List RI)(gx:∀ i,(x.getD i ju).ji)(lv:x.length<=1000)(d:RD)(gd:d.ji)(p:Int)(hd:d.Ok):gV 14 [(lj s),(kj x),(gY d.dy),(iP p)] (bP (mD s x d p)):=by
 have uT:xx d=true:=vo.2 hd;have hv:=hd.valid;exact tr true Tryz.call14 Tryz.func14 (chain [.c (Jg _ g sm _ gx lv:gV 15 [(lj s),(kj x)] _)]<|.w (tz s x=true)
  (fun k1=>chain [tB 11 (k1),.c (yP _ af:gV 46 [(gY d.dy)] _),.c (vk _:gV 47 [(gY d.dy)] _)]<|.w (0<(Dy.iK d.dy))
   (fun k2=>chain [tB 19 (aS k2),.c (NU _:gV 48 [(iP p)] _)]<|rQ (bP (lh p)) (bP (mD s x d p)) (na az))
   (fun k2=>chain [tB 19 (aT k2)]<|rQ (bP false) (bP (mD s x d p)) (na az)))
  (fun k1=>chain [tB 11 (aM k1)]<|rQ (bP false) (bP (mD s x d p)) (na az))) ah 
theorem NK(s:jr)(g:s.ji)(sm:s.mn)(x:List RI)(gx:∀ i,(x.getD i ju).ji)(lv:x.length<=1000)(d:RD)(gd:d.ji)(p:Int):gV 14 [lj s,kj x,mF d,iP p] (bP (mD s x d p)):=by
 by_cases hd:d.Ok
 .have:=ail s g sm x gx lv d gd p hd
  rwa[<-KP,hd.eq gd]at this
 .exact aik s g sm x gx lv d gd p hd
open Go.RowKit Fp Pu
def q6:lM:=⟨⟨1,[],[0]⟩,1,[]⟩
theorem Oy:nJ q6:=by
 refine⟨⟨ag,ag,ag,fun i hi=>absurd hi (bj i),fun i hi=>?_⟩,ag,ag,rfl,rfl,ag,fun i hi=>absurd hi (bj i)⟩;have hi:i<1:=hi;obtain rfl:i=0:= ae ;decide
theorem aku{B:Iv}(v:B.ib)(a:B.all=false):kX 1 [B]:=⟨rfl,fun i hi=>by
 have hi:i<1:=hi;obtain rfl:i=0:= ae ;exact⟨v,a⟩⟩
abbrev sy:List Iv:=[⟨kT 1 0,kT 1 0,false⟩]
abbrev sU:Dy:=kT 1 (-2)
abbrev Hj:List Iv:=[⟨kT 2 (-1),kT 3 (-1),false⟩]
abbrev Hk:List Iv:=[⟨kT 4 (-2),kT 5 (-2),false⟩]
theorem acA:∀ k:Nat,k<19->xK q6 sy sU 60 ((k:Int)-20)=false:=by
 have h:((List.range 19).all fun k:Nat=>!(xK q6 sy sU 60 ((k:Int)-20)))=true:= ar ;intro k hk;simpa using List.all_eq_true.1 h k (bI.2 hk)
theorem acB:xK q6 sy sU 60 (((19:Nat):Int)-20)=true:= ar 
theorem acz:(qT sy (nM (((19:Nat):Int)-20))).length=1:= ar 
theorem acx:CP q6 sy sU Hj 60=true:= ar 
theorem acy:CP q6 sy sU Hk 60=false:= ar 
theorem Lb{a b e:Int}(h1:a.natAbs<4294967296)(h2:b.natAbs<4294967296)(h3:-1000<=e)(h4:e<=1000)(h:jm (kT a e) (kT b e)<=0):kX 1 [⟨kT a e,kT b e,false⟩]:=
 aku (.inr ⟨rfl,DW h1 h3 h4,DW h2 h3 h4,h⟩) rfl
theorem La:kX 1 sy:=Lb ag ag ag ag ar 
theorem acn:kX 1 Hj:=Lb ag ag ag ag ar 
theorem aco:kX 1 Hk:=Lb ag ag ag ag ar 
theorem K9:sU.ib:=DW ag ag ag 
theorem K8:0<sU.iK:= ar 
open Go.RowKit Fp Pu
theorem EU(n e:Int)(h1:n.natAbs<4294967296)(h2:-1000<=e)(h3:e<=1000):gV 39 [(iP n),(iP e)] (gY (kT n e)):=by
 have hrg:mP (canon (Dy.neg (jd n)) (Dy.m (jd n)) ((Dy.e (jd n))+e)):=by rw[Qg];exact(DW h1 h2 h3).range
 exact tr true Tryz.call39 Tryz.func39 (chain [.c (ai8 _ ae:gV 81 [(iP n)] _),.c (aji _ _ (rZ ae) ae ae hrg:gV 31 [(gY (jd n)),(iP e)] _)]<|rQ (gY (canon (Dy.neg (jd n)) (Dy.m (jd n)) ((Dy.e (jd n))+e))) (gY (kT n e)) (by rw[Qg])) ah 
theorem MO(a b e:Int)(h1:a.natAbs<4294967296)(h4:b.natAbs<4294967296)(h2:-1000<=e)(h3:e<=1000):gV 38 [(iP a),(iP b),(iP e)] (gZ (Iv.mk (kT a e) (kT b e) false)):=by
 exact tr true Tryz.call38 Tryz.func38 (chain [.c (EU _ _ ae ae ae:gV 39 [(iP a),(iP e)] _),.c (EU _ _ ae ae ae:gV 39 [(iP b),(iP e)] _)]<|.nil) ah 
theorem Ox:E.le (.agg [iP 1,.v (.slice none 0 0),.sl true 1 1 fun i j=>[iP 0].getD (i*1+j) (.v (.bool false)),iP 1,.v (.slice none 0 0)]) (jF q6):=
 .agg (.cons (.refl _) (.cons (.nil _ _ _) (.cons (.sl fun i j hi hj=>by
  obtain rfl:i=0:= ae ;obtain rfl:j=0:= ae ;exact⟨.iS rfl,rfl⟩) (.cons (.refl _) (.cons (.nil _ _ _) .nil)))))
theorem acr:gV 26 [jF q6,ik sy,gY sU,iP 60] (.iw [ik (qT sy (nM (((19:Nat):Int)-20))),iP 0]):=
 ab9 q6 sy sU 60 Oy La K9 K8 ag ag 19 ag acA acB
theorem acs:gV 23 [jF q6,ik sy,gY sU,ik Hj,iP 60] (bP true):=by
 have:=Mf q6 sy sU Hj 60 Oy La K9 K8 acn ag ag;rwa[acx]at this
theorem acu:gV 23 [jF q6,ik sy,gY sU,ik Hk,iP 60] (bP false):=by
 have:=Mf q6 sy sU Hk 60 Oy La K9 K8 aco ag ag;rwa[acy]at this
theorem C4 : gV 9 [] (bP true):=by
 exact tr true Tryz.call9 Tryz.func9 (chain [.c (MO _ _ _ ag ag ag ag:gV 38 [(iP 1),(iP 1),(iP 0)] _),.o 9 (.e (mz _):PV.le (.e (.sl true 1 7 fun i_ j_=>(iY (Iv.mk (kT 1 0) (kT 1 0) false)).getD (i_*7+j_) (.v (.bool false)))) (.e (ik [(Iv.mk (kT 1 0) (kT 1 0) false)]))),.o 11 (.e Ox:PV.le (.e (.agg [(iP 1),(.v (.slice none 0 0)),(.sl true 1 1 fun i_ j_=>[(iP 0)].getD (i_*1+j_) (.v (.bool false))),(iP 1),(.v (.slice none 0 0))])) (.e (jF q6))),.c (EU _ _ ag ag ag:gV 39 [(iP 1),(iP (-2))] _),.c (acr:gV 26 [(jF q6),(ik [(Iv.mk (kT 1 0) (kT 1 0) false)]),(gY (kT 1 (-2))),(iP 60)] _),.o 17 (.e Ox:PV.le (.e (.agg [(iP 1),(.v (.slice none 0 0)),(.sl true 1 1 fun i_ j_=>[(iP 0)].getD (i_*1+j_) (.v (.bool false))),(iP 1),(.v (.slice none 0 0))])) (.e (jF q6))),.c (EU _ _ ag ag ag:gV 39 [(iP 1),(iP (-2))] _),.c (MO _ _ _ ag ag ag ag:gV 38 [(iP 2),(iP 3),(iP (-1))] _),.o 21 (.e (mz _):PV.le (.e (.sl true 1 7 fun i_ j_=>(iY (Iv.mk (kT 2 (-1)) (kT 3 (-1)) false)).getD (i_*7+j_) (.v (.bool false)))) (.e (ik [(Iv.mk (kT 2 (-1)) (kT 3 (-1)) false)]))),.c (acs:gV 23 [(jF q6),(ik [(Iv.mk (kT 1 0) (kT 1 0) false)]),(gY (kT 1 (-2))),(ik [(Iv.mk (kT 2 (-1)) (kT 3 (-1)) false)]),(iP 60)] _),.o 24 (.e Ox:PV.le (.e (.agg [(iP 1),(.v (.slice none 0 0)),(.sl true 1 1 fun i_ j_=>[(iP 0)].getD (i_*1+j_) (.v (.bool false))),(iP 1),(.v (.slice none 0 0))])) (.e (jF q6))),.c (EU _ _ ag ag ag:gV 39 [(iP 1),(iP (-2))] _),.c (MO _ _ _ ag ag ag ag:gV 38 [(iP 4),(iP 5),(iP (-2))] _),.o 28 (.e (mz _):PV.le (.e (.sl true 1 7 fun i_ j_=>(iY (Iv.mk (kT 4 (-2)) (kT 5 (-2)) false)).getD (i_*7+j_) (.v (.bool false)))) (.e (ik [(Iv.mk (kT 4 (-2)) (kT 5 (-2)) false)]))),.c (acu:gV 23 [(jF q6),(ik [(Iv.mk (kT 1 0) (kT 1 0) false)]),(gY (kT 1 (-2))),(ik [(Iv.mk (kT 4 (-2)) (kT 5 (-2)) false)]),(iP 60)] _),tB 34 (ag:((0:Int)==0)=true),tB 39 (by rw[acz];rfl:((((qT sy (nM (((19:Nat):Int)-20))).length:Nat):Int)==1)=true)]<|.nil) ah 
def pr(d:RD):Bool:=decide (20<d.L.length)||(decide (300<d.e)||decide (d.e < -300))
def yG(x:RI):Bool:=pr x.lo||pr x.hi
def pv(l:List RI):Bool:=decide (l.length<=8) && !((List.range l.length).any fun i=>yG (l.getD i ju))
def rA(s:jr):Bool:=decide (s.gW.length<=60)&&(decide (s.ig.length<=8)&&pv s.params)
theorem BY{l:List RI}(h:pv l=true):l.length<=8:=by
 unfold pv at h;rw[bB,bW]at h;exact h.1
theorem Lf{s:jr}(h:rA s=true):s.mn:=by
 unfold rA at h;rw[bB,bB,bW,bW]at h;have:=BY h.2.2;exact⟨ae,ae,ae⟩
theorem C5(d:RD):gV 12 [(mF d)] (bP (pr d)):=by
 exact tr true Tryz.call12 Tryz.func12 (.w (20<(d.L.length:Int))
  (fun k1=>chain [tB 6 (aS k1)]<|rR (bP (pr d)) (by
      exact .iS (by
       have:pr d=true:=by unfold pr;simp[show 20<d.L.length from ae]
       rw[this]):E.le (bP true) (bP (pr d))))
  (fun k1=>chain [tB 6 (aT k1)]<|.w (300<d.e)
   (fun k2=>chain [tB 10 (aS k2)]<|rR (bP (pr d)) (by
      exact .iS (by
       have:pr d=true:=by unfold pr;simp[show ¬20<d.L.length from ae,k2]
       rw[this]):E.le (bP true) (bP (pr d))))
   (fun k2=>chain [tB 10 (aT k2)]<|rR (bP (pr d)) (by
      exact .iS (by
       have:pr d=(decide (d.e<(-300))):=by unfold pr;simp[show ¬20<d.L.length from ae,k2]
       rw[this]):E.le (bP (decide (d.e<(-300)))) (bP (pr d)))))) ah 
theorem afY(x:RI):gV 40 [(uh x)] (bP (yG x)):=by
 exact tr true Tryz.call40 Tryz.func40 (chain [.c (C5 x.lo:gV 12 [(mF x.lo)] _)]<|.w (pr x.lo=true)
  (fun k1=>chain [tB 5 (k1)]<|rQ (bP true) (bP (yG x)) (na (by simp_all[yG])))
  (fun k1=>chain [tB 5 (aM k1),.c (C5 x.hi:gV 12 [(mF x.hi)] _)]<|rQ (bP (pr x.hi)) (bP (yG x)) (na (by simp_all[yG])))) ah 
theorem afU(l:List RI)(hl:l.length<=1000):gV 17 [kj l,.fn 40 []] (bP ((List.range l.length).any fun i=>yG (l.getD i ju))):=
 ML true l.length (fun i j=>(yQ (l.getD i ju)).getD j .any) 40 [] (fun i=>yG (l.getD i ju)) (fun i _=>afY _) ae 
theorem yD(l:List RI):gV 11 [(kj l)] (bP (pv l)):=by
 exact tr true Tryz.call11 Tryz.func11 (.w ((l.length:Int)<=8)
  (fun k1=>chain [tB 5 (aS k1),.c (afU l ae:gV 17 [(kj l),(.fn 40 [])] _)]<|rQ (bP (!((List.range l.length).any fun i=>yG (l.getD i ju)))) (bP (pv l)) (na (by unfold pv;simp[show l.length<=8 from ae])))
  (fun k1=>chain [tB 5 (aT k1)]<|rQ (bP false) (bP (pv l)) (na (by unfold pv;simp[show ¬l.length<=8 from ae])))) ah 
theorem IQ(s:jr):gV 10 [(lj s)] (bP (rA s)):=by
 exact tr true Tryz.call10 Tryz.func10 (.w ((s.gW.length:Int)<=60)
  (fun k1=>chain [tB 7 (aS k1)]<|.w ((s.ig.length:Int)<=8)
   (fun k2=>chain [tB 13 (aS k2),.c (yD _:gV 11 [(kj s.params)] _)]<|rQ (bP (pv s.params)) (bP (rA s)) (na (by unfold rA;simp[show s.gW.length<=60 from ae,show s.ig.length<=8 from ae])))
   (fun k2=>chain [tB 13 (aT k2)]<|rQ (bP false) (bP (rA s)) (na (by unfold rA;simp[show s.gW.length<=60 from ae,show ¬s.ig.length<=8 from ae]))))
  (fun k1=>chain [tB 7 (aT k1)]<|rQ (bP false) (bP (rA s)) (na (by unfold rA;simp[show ¬s.gW.length<=60 from ae])))) ah 
theorem air(x:Iv)(hx:x.ib):gV 58 [(gZ x),(gZ x)] (bP true):=by
 obtain⟨w1,w2⟩:=hx.jZ;exact tr true Tryz.call58 Tryz.func58 (chain [tB 9 (aj:(x.all==x.all)=true),.c (WD _ _ true ⟨fun _=>rfl,fun _=>rfl⟩ (by have:=w1.gU;omega) (by have:=w1.gU;omega):gV 101 [(gY x.lo),(gY x.lo)] _),.c (WD _ _ true ⟨fun _=>rfl,fun _=>rfl⟩ (by have:=w2.gU;omega) (by have:=w2.gU;omega):gV 101 [(gY x.hi),(gY x.hi)] _)]<|.nil) ah 
theorem afV(x:Iv)(hx:x.ib):gV 57 [(gZ x),(gZ x)] (bP true):=by
 exact tr true Tryz.call57 Tryz.func57 (.w (x.all=true)
  (fun k1=>chain [tB 6 (k1),tB 9 (k1)]<|.nil)
  (fun k1=>chain [tB 6 (aM k1),.c (air _ af:gV 58 [(gZ x),(gZ x)] _)]<|.nil)) ah 
theorem afW(b:List Iv)(hb:oA b)(h8:b.length<=8):gV 21 [(ik b),(ik b)] (bP true):=by
 exact tr true Tryz.call21 Tryz.func21 (chain [.c (PE b b 57 [] (fun _=>true) rfl ae (fun i hi=>afV _ (hb i hi).1) (fun _ _=>rfl))]<|.nil) ah 
theorem ac6{s:jr}(g:s.ji){x:List RI}(gx:∀ i,(x.getD i ju).ji){d:RD}(gd:d.ji){p:Int}(h:mD s x d p=true):nJ s.v/\kX s.v.iA (x.map RI.iv)/\d.dy.ib/\0<d.dy.iK/\8<=p/\p<=512/\lj s=jF s.v/\kj x=ik (x.map RI.iv)/\mF d=gY d.dy:=by
 unfold mD at h;simp only[bB,bW]at h;obtain⟨⟨⟨⟨h1,h2⟩,h3⟩,h4⟩,h5⟩:=h;obtain⟨o1,o2⟩:=ajU g h1;have h3:=vo.1 h3;unfold qu at h2;rw[bB,bW]at h2;obtain⟨b1,b2⟩:=h2;have pa:∀ i,i<x.length->(x.getD i ju).Ok/\(x.getD i ju).all=false:=fun i hi=>by
  have:=bF.1 b2 i (bI.2 hi);unfold ny at this;rw[bB]at this;exact⟨sd.1 this.1,by simpa using this.2⟩
 have ln:∀ i,i<x.length->(x.map RI.iv).getD i ie=(x.getD i ju).iv:=fun i hi=>by simp[aW,hi]
 have s1:=o1.s1;refine⟨o1,⟨by rw[cS];show x.length=s.iA.toNat;omega,fun i hi=>?_⟩,h3.valid,h4,h5.1,h5.2,o2,?_,?_⟩
 .have hi:i<x.length:=by simpa using hi
  rw[ln i hi];exact⟨(pa i hi).1.valid,(pa i hi).2⟩
 .rw [<-MM]
  congr 1;apply eU;intro i;unfold Az;rw[cj,cj];by_cases hi:i<x.length
  .have h1:=(pa i hi).1
   have g1:=gx i;rw[bd hi];rw[aW,bd hi]at h1 g1;exact congrArg some (RI.Ok.eq (x:=x[i]) h1 g1).symm
  .rw [bS ae];rfl
 .rw [<-KP,h3.eq gd]
end Go.Proofs.YtdgnpeddgdclhaaGreatDoor
namespace Go.Proofs.YtdgnpeddgdclhaaGreatDoor.Fp
end Go.Proofs.YtdgnpeddgdclhaaGreatDoor.Fp
namespace Go.Proofs.YtdgnpeddgdclhaaGreatDoor
open Go.RowKit Fp Pu
theorem afp{x y:Iv}:oV x y=true↔Sub x y:=by
 unfold oV Fp.Sub;rw[fF,bB,bB,bW,bW,o0,o0,fc]
theorem afo{a b:List Iv}(h:∀ i,i<a.length->Sub (a.getD i ie) (b.getD i ie)):rK a b=true:=bF.2 fun i hi=>afp.2 (h i (bI.1 hi))
def Gr(l r:List Iv):Prop:=∀ i,Sub (l.getD i ie) (r.getD i ie)
theorem adt{l:List Iv}{i:Nat}(h:l.length<=i):l.getD i ie=ie:=by rw[aW,bS h];rfl
theorem Gr.of{a b:List Iv}(hl:a.length=b.length)(h:∀ i,i<a.length->Sub (a.getD i ie) (b.getD i ie)):Gr a b:=fun i=>by
 by_cases hi:i<a.length
 .exact h i hi
 .rw [adt (l:=b) ae];exact .inl rfl
def wI(t:pg):Prop:=∀ i,(t.gW.getD i iR).kind<=8
section
variable {s:lM} {x x' b b':List Iv} {h h':Dy} {p n:Nat}
theorem amk{f:List Iv}(hx:kX n x)(hd:h.ib)(h0:0<=h.q)(vf:ph f)(hp:1<=p)(ic:p<=4096):Gr x (tX x f h p):=
 Gr.of (Bt _ _ _ _).symm fun i hi=>by
  rw[Ab hi];obtain⟨v,a⟩:=hx.ok i hi;have e1:=FX hd h0;have z0:(iN (jU h) (f.getD i ie) p).jX 0:=by
   have z1:(jU h).jX 0:=.inr ⟨by show jx.q<=0;rw[qY];exact b9,h0⟩;have:=IZ e1 (vf i) hp ic z1 (vf i).wV;rwa[fP]at this
  have mv:=qC (jU h) (f.getD i ie) hp ic;have a1:=xH v mv hp ic v.wV z0;have a2:=xH v mv hp ic v.A9 z0;rw[Rat.add_zero]at a1 a2;unfold IJ;cases q:(jj (x.getD i ie) (iN (jU h) (f.getD i ie) p) p).all
  .exact .inr ⟨a,(a1.jZ q).1,(a2.jZ q).2⟩
  .exact .inl q
theorem aeU(ks:mO s x h b p≠[]):mO s x h b p=tX x (je s.tape (b++s.params) p) h p:=by
 unfold mO at ks ⊢;split at ks
 .exact absurd rfl ks
 rename_i h1;rw[aQ h1];split at ks
 .exact absurd rfl ks
 rename_i h2;rw[aQ h2]
end
open Go.RowKit Fp Pu
def OY(w:World)(L:List Nat)(e:Ending)(w':World):Prop:=∃ A c,e = .returned (.slice A L.length c)/\Sl w' A c L/\iy w w'/\∀ b o s,A=some ⟨b,o,s⟩->w.heap.size<=b
theorem Ow.Xn{w:World}{base:Nat}{v:Value}{L:List Nat}(h:Ow w base v L):∃ A c,v = .slice A L.length c/\Sl w A c L/\∀ b o s,A=some ⟨b,o,s⟩->base<=b:=by
 obtain⟨A,c,h1,h2⟩:=h.sl;refine⟨A,c,h1,h2,fun b o s e=>?_⟩;rcases h.row.2 with⟨h3,_⟩|⟨g,cap,cur,h3,hb,_⟩
 .rw [h1,e]at h3;injection h3 with h3;cases h3
 .rw [h1,e]at h3;injection h3 with h3;cases h3;exact hb
theorem akB{B br:Nat->Prop}{w w':World}{A:Option Addr}{c:Nat}{L:List Nat}(hB:∀ b,B b->b<w.heap.size)(h:Sl w' A c L)(hf:∀ b o s,A=some ⟨b,o,s⟩->w.heap.size<=b):iG B br w' (gX L) (.slice A L.length c):=by
 refine .sl false L.length 1 _ A c (fun i _=>.int .u32 (L.getD i 0:Int)) h.cap h.pV h.wk (fun i j _ _=>⟨rfl,fun h=>by cases h⟩) (fun i j _ _=>rfl) (fun i j hi hj=>?_) (fun i j _ _=>.v _);obtain rfl:j=0:= ae ;obtain⟨b,o,e1,iD,lq⟩:=h.ln hi;have e2:L.getD i 0=L[i]:=by simp[aW,hi]
 refine⟨b,o,e1,fun wW=>?_,iD,by rw[bO,bt,lq,e2]⟩;have:=hB b wW;have:=hf _ _ _ e1;omega
abbrev vw(f:FuncId)(args:List E)(jW:E):Prop:=AM Tryz.prog Tb f args jW
theorem ahC{f:FuncId}{L M:List Nat}(hk:iC L)(hc:∀ (vs:Array Value) (w:World),(callFunc f vs).run Tryz.prog w = .ok (.enter f vs) w)
 (H:∀ A c w,Sl w A c L->Tb w->Calls Tryz.prog f #[.slice A L.length c] w (OY w M)):vw f [gX L] (gX M):=by
 refine⟨hc,fun w B vs hK hB hr=>?_⟩;obtain⟨v1,vs,rfl,h1,hr⟩:=hr.lX;obtain rfl:=hr.pY;obtain⟨A,c,rfl,s1⟩:=uj hk h1;refine(H A c w s1 hK).mono fun e w' ⟨A,c,q1,q2,q3,q4⟩=>⟨_,q1,q3,akB hB q2 q4⟩
theorem ai2(A:Option Addr)(c:Nat)(L:List Nat)(w:World)(hs:Sl w A c L)(hlen:L.length<=100000000):
 Calls Tryz.prog 195 #[.slice A L.length c] w (OY w (ij L)):=by
 have hc:=hs.cap;have hl:=hs.pV;have fin:∀ k:Nat,k=(ij L).length->Hid (ij L=L.take k):=fun k hk=>by rw[hk];exact F4 L
 go_enter Tryz.func195,Tryz.ntmps195;go_wp2;go_loop [3] (fun i=>∃ k:Nat,k<=L.length/\i = .int .i64 k/\lQ L=lQ (L.take k)) (fun i=>(intOf i).toNat)
 case atStart=>exact⟨L.length,aU _,rfl,aj⟩
 case round=>
  obtain⟨k,hk,rfl,ht⟩:=hrel;have HT:=Lib.hid ht;clear ht;have lI:([]:List Nat).length+(L.take k).length<=10000000000:=by rw[bZ];simp;omega
  have HK:=Lib.hid (show k=(L.take k).length by rw[bZ];omega);have h1:=Ow.empty w w.heap.size (aU _);have h2:=(hs.take k).alloc (.cells #[] 79);have h3:=pU (w:=w) (aU _) (.cells #[] 79);by_cases h0:0<k
  .obtain ⟨ab,ao,rfl,hb,we⟩:=hs.ln (i:=k-1) ae 
   have e1:((k:Int)-1).toNat=k-1:= ae ;have Z:=Lib.hid (JK L (k-1) ae);have NZ:=Lib.hid (JJ L (k-1) ae);rw[eD h0]at Z NZ;generalize L[k-1]=x at *
   by_cases hx:x=0
   .have Hx:=Lib.hid hx;clear hx
    have hb:((x:Int)==0)=true:=by have:=Hx.out;simp;omega
    clear fin;go_wp2;go_round
    case rel=>exact⟨k-1,ae,by go_num,by rw[HT.out,Z.out Hx.out]⟩
    case measure=>simp[intOf];omega
   .have hb:((x:Int)==0)=false:= av 
    have F:=fin k (by show k=lQ L;rw[HT.out,NZ.out hx]);clear fin;go_wp2_with (at_builtin;go_must (refine qQ ai _ _ ai w.heap.size _ [] ai h1 _ _ _ (L.take k) ai HK.out h2 lI h3 ?_);intro v' w' ot hg oO)
    obtain⟨A',c',rfl,mJ,LZ⟩:=ot.Xn;go_ret;rw[F.out];exact⟨A',c',rfl,mJ,(iy.alloc _ _).grown hg (pU (aU _) _) (fun k hk=>by simp[Value.ownBlock]at hk;omega),LZ⟩
  .have:k=0:= ae 
   subst this;have F:=fin 0 (by show 0=lQ L;rw[HT.out];rfl);clear fin;go_wp2_with (at_builtin;go_must (refine qQ ai _ _ ai w.heap.size _ [] ai h1 _ _ _ (L.take 0) ai HK.out h2 lI h3 ?_);intro v' w' ot hg oO)
   obtain⟨A',c',rfl,mJ,LZ⟩:=ot.Xn;go_ret;rw[F.out];exact⟨A',c',rfl,mJ,(iy.alloc _ _).grown hg (pU (aU _) _) (fun k hk=>by simp[Value.ownBlock]at hk;omega),LZ⟩
theorem xw(L:List Nat)(hk:iC L)(hl:L.length<=100000):vw 195 [gX L] (gX (ij L)):=
 ahC hk Tryz.call195 fun A c w h _=>ai2 A c L w h ae 
open Go.RowKit Fp Pu
def VH(L M:List Nat)(N k:Nat)(x:Nat):PS:=⟨30,true,[(5,.e (iP ((N:Int)-1-(x:Int)))),(0,.e (gX L)),(1,.e (gX M))],[]⟩
def VJ(L M:List Nat)(N k:Nat)(x:Nat):PS:=⟨30,true,[(5,.e (iP ((N:Int)-1-(x:Int)))),(0,.e (gX L)),(1,.e (gX M))],[]⟩
def VI(L M:List Nat)(N k:Nat)(x:Nat):PS:=⟨30,true,[(5,.e (iP ((N:Int)-1-(x:Int)))),(0,.e (gX L)),(1,.e (gX M))],[]⟩
def VE(L:List Nat)(k:Nat)(x:Nat):PS:=⟨31,true,[(3,.e (iP ((L.length:Int)-1-(x:Int)))),(0,.e (gX L))],[]⟩
def VD(L:List Nat)(k:Nat)(x:Nat):PS:=⟨31,true,[(3,.e (iP ((L.length:Int)-1-(x:Int)))),(0,.e (gX L))],[]⟩
def VF(L:List Nat)(k:Nat)(y:Nat):PS:=⟨31,true,[(5,.e (.v (.int .u32 ((((L.getD (((L.length:Int)-1-(k:Int))).toNat 0)/2^y):Nat):Int)))),(4,.e (iP ((32*((L.length:Int)-1-(k:Int)))+(y:Int))))],[]⟩
theorem qZ(L:List Nat)(z:Int)(hk:iC L)(h0:0<=z):gV 231 [(gX L),(iP z)] (.v (.int .u64 (L.getD z.toNat 0:Int))):=by
 have h1:=hk.getD z.toNat
 exact tr true Tryz.call231 Tryz.func231 (.w (z<(L.length:Int))
  (fun k1=>chain [tB 8 (aS k1),iX (z) (L.length) ae,.o 13 (.int (px _ ae):PV.le (.e (.v (.int .u64 (IntKind.u64.wrap (((L.getD (z).toNat 0):Nat):Int))))) (.e (.v (.int .u64 (((L.getD (z).toNat 0):Nat):Int)))))]<|.nil)
  (fun k1=>by
   have hz:L.getD z.toNat 0=0:=by rw[aW,bS ae];rfl
   exact chain [tB 8 (aT k1)]<|rQ (.v (.int .u64 0)) (.v (.int .u64 (L.getD z.toNat 0:Int))) (by rw[hz];rfl))) ah 
theorem yN(L:List Nat)(n:Nat)(hk:iC L):gV 231 [gX L,iP (n:Int)] (.v (.int .u64 (L.getD n 0:Int))):=qZ L n hk (Int.natCast_nonneg n)
theorem ah2(L M:List Nat)(N k:Nat)(hL:iC L)(hM:iC M)(hN:N=max L.length M.length)(hs:N<=1000000)(heq:∀ x,x<k->L.getD (N-1-x) 0=M.getD (N-1-x) 0)(hk:k=N):gV 198 [(gX L),(gX M)] (iP 0):=by
 exact tr true Tryz.call198 Tryz.func198 (chain [.o 10 (.int (by rw[hN];split<;>omega):PV.le (.e (iP (if(M.length:Int)>(L.length:Int)then(M.length:Int)else(L.length:Int)))) (.e (iP N))),
  iq ((N:Int)-1) ae,.s (Sp.jv (VH L M N k) 0 k ae (fun x hx kf=>by
    have hj:(((N:Int)-1-(x:Int))).toNat=N-1-x:= ae ;have he:=heq x ae;rw[<-hj]at he;exact iB (chain [tT 13 (0<=((N:Int)-1-(x:Int))) ae,.c (qZ _ _ af ae:gV 231 [(gX L),(iP ((N:Int)-1-(x:Int)))] _),.c (qZ _ _ af ae:gV 231 [(gX M),(iP ((N:Int)-1-(x:Int)))] _),tF 22 ((((L.getD (((N:Int)-1-(x:Int))).toNat 0):Nat):Int)<(((M.getD (((N:Int)-1-(x:Int))).toNat 0):Nat):Int)) ae,.c (qZ _ _ af ae:gV 231 [(gX L),(iP ((N:Int)-1-(x:Int)))] _),.c (qZ _ _ af ae:gV 231 [(gX M),(iP ((N:Int)-1-(x:Int)))] _),tF 29 ((((M.getD (((N:Int)-1-(x:Int))).toNat 0):Nat):Int)<(((L.getD (((N:Int)-1-(x:Int))).toNat 0):Nat):Int)) ae,
     iq (((N:Int)-1-(x:Int))-1) ae]<|.e (chain [.o 5 (.int aw:PV.le (.e (iP (((N:Int)-1-(x:Int))-1))) (.e (iP ((N:Int)-1-(((x+1):Nat):Int)))))]<|.nil)) ah)
  (fun hx=>by
    exact iB (chain [tF 13 (0<=((N:Int)-1-(k:Int))) ae]<|.nil) ah) ak:jq 2 Tryz.f198 (VH L M N k 0) (.exit 0) ⟨30,true,[],[]⟩) (chain [.o 5 (.int aw:PV.le (.e (iP ((N:Int)-1))) (.e (iP ((N:Int)-1-((0:Nat):Int)))))]<|.nil)]<|.nil) ah 
theorem ah4(L M:List Nat)(N k:Nat)(hL:iC L)(hM:iC M)(hN:N=max L.length M.length)(hs:N<=1000000)(heq:∀ x,x<k->L.getD (N-1-x) 0=M.getD (N-1-x) 0)(hk:k<N)(hd:L.getD (N-1-k) 0<M.getD (N-1-k) 0):gV 198 [(gX L),(gX M)] (iP (-1)):=by
 exact tr true Tryz.call198 Tryz.func198 (chain [.o 10 (.int (by rw[hN];split<;>omega):PV.le (.e (iP (if(M.length:Int)>(L.length:Int)then(M.length:Int)else(L.length:Int)))) (.e (iP N))),
  iq ((N:Int)-1) ae,.s (Sp.jv (VJ L M N k) 0 k ae (fun x hx kf=>by
    have hj:(((N:Int)-1-(x:Int))).toNat=N-1-x:= ae ;have he:=heq x ae;rw[<-hj]at he;exact iB (chain [tT 13 (0<=((N:Int)-1-(x:Int))) ae,.c (qZ _ _ af ae:gV 231 [(gX L),(iP ((N:Int)-1-(x:Int)))] _),.c (qZ _ _ af ae:gV 231 [(gX M),(iP ((N:Int)-1-(x:Int)))] _),tF 22 ((((L.getD (((N:Int)-1-(x:Int))).toNat 0):Nat):Int)<(((M.getD (((N:Int)-1-(x:Int))).toNat 0):Nat):Int)) ae,.c (qZ _ _ af ae:gV 231 [(gX L),(iP ((N:Int)-1-(x:Int)))] _),.c (qZ _ _ af ae:gV 231 [(gX M),(iP ((N:Int)-1-(x:Int)))] _),tF 29 ((((M.getD (((N:Int)-1-(x:Int))).toNat 0):Nat):Int)<(((L.getD (((N:Int)-1-(x:Int))).toNat 0):Nat):Int)) ae,
     iq (((N:Int)-1-(x:Int))-1) ae]<|.e (chain [.o 5 (.int aw:PV.le (.e (iP (((N:Int)-1-(x:Int))-1))) (.e (iP ((N:Int)-1-(((x+1):Nat):Int)))))]<|.nil)) ah)
  (fun hx=>by
    have hj:(((N:Int)-1-(k:Int))).toNat=N-1-k:= ae ;rw[<-hj]at hd;exact iB (chain [tT 13 (0<=((N:Int)-1-(k:Int))) ae,.c (qZ _ _ af ae:gV 231 [(gX L),(iP ((N:Int)-1-(k:Int)))] _),.c (qZ _ _ af ae:gV 231 [(gX M),(iP ((N:Int)-1-(k:Int)))] _),tT 22 ((((L.getD (((N:Int)-1-(k:Int))).toNat 0):Nat):Int)<(((M.getD (((N:Int)-1-(k:Int))).toNat 0):Nat):Int)) ae]<|.nil) ah) ak:jq 2 Tryz.f198 (VJ L M N k 0) .ret ⟨30,true,[(4,.e (iP (-1)))],[]⟩) (chain [.o 5 (.int aw:PV.le (.e (iP ((N:Int)-1))) (.e (iP ((N:Int)-1-((0:Nat):Int)))))]<|.nil)]<|rR (iP (-1)) (.iS rfl:E.le (iP (-1)) (iP (-1)))) ah 
theorem ah3(L M:List Nat)(N k:Nat)(hL:iC L)(hM:iC M)(hN:N=max L.length M.length)(hs:N<=1000000)(heq:∀ x,x<k->L.getD (N-1-x) 0=M.getD (N-1-x) 0)(hk:k<N)(hd:M.getD (N-1-k) 0<L.getD (N-1-k) 0):gV 198 [(gX L),(gX M)] (iP 1):=by
 exact tr true Tryz.call198 Tryz.func198 (chain [.o 10 (.int (by rw[hN];split<;>omega):PV.le (.e (iP (if(M.length:Int)>(L.length:Int)then(M.length:Int)else(L.length:Int)))) (.e (iP N))),
  iq ((N:Int)-1) ae,.s (Sp.jv (VI L M N k) 0 k ae (fun x hx kf=>by
    have hj:(((N:Int)-1-(x:Int))).toNat=N-1-x:= ae ;have he:=heq x ae;rw[<-hj]at he;exact iB (chain [tT 13 (0<=((N:Int)-1-(x:Int))) ae,.c (qZ _ _ af ae:gV 231 [(gX L),(iP ((N:Int)-1-(x:Int)))] _),.c (qZ _ _ af ae:gV 231 [(gX M),(iP ((N:Int)-1-(x:Int)))] _),tF 22 ((((L.getD (((N:Int)-1-(x:Int))).toNat 0):Nat):Int)<(((M.getD (((N:Int)-1-(x:Int))).toNat 0):Nat):Int)) ae,.c (qZ _ _ af ae:gV 231 [(gX L),(iP ((N:Int)-1-(x:Int)))] _),.c (qZ _ _ af ae:gV 231 [(gX M),(iP ((N:Int)-1-(x:Int)))] _),tF 29 ((((M.getD (((N:Int)-1-(x:Int))).toNat 0):Nat):Int)<(((L.getD (((N:Int)-1-(x:Int))).toNat 0):Nat):Int)) ae,
     iq (((N:Int)-1-(x:Int))-1) ae]<|.e (chain [.o 5 (.int aw:PV.le (.e (iP (((N:Int)-1-(x:Int))-1))) (.e (iP ((N:Int)-1-(((x+1):Nat):Int)))))]<|.nil)) ah)
  (fun hx=>by
    have hj:(((N:Int)-1-(k:Int))).toNat=N-1-k:= ae ;rw[<-hj]at hd;exact iB (chain [tT 13 (0<=((N:Int)-1-(k:Int))) ae,.c (qZ _ _ af ae:gV 231 [(gX L),(iP ((N:Int)-1-(k:Int)))] _),.c (qZ _ _ af ae:gV 231 [(gX M),(iP ((N:Int)-1-(k:Int)))] _),tF 22 ((((L.getD (((N:Int)-1-(k:Int))).toNat 0):Nat):Int)<(((M.getD (((N:Int)-1-(k:Int))).toNat 0):Nat):Int)) ae,.c (qZ _ _ af ae:gV 231 [(gX L),(iP ((N:Int)-1-(k:Int)))] _),.c (qZ _ _ af ae:gV 231 [(gX M),(iP ((N:Int)-1-(k:Int)))] _),tT 29 ((((M.getD (((N:Int)-1-(k:Int))).toNat 0):Nat):Int)<(((L.getD (((N:Int)-1-(k:Int))).toNat 0):Nat):Int)) ae]<|.nil) ah) ak:jq 2 Tryz.f198 (VI L M N k 0) .ret ⟨30,true,[(4,.e (iP 1))],[]⟩) (chain [.o 5 (.int aw:PV.le (.e (iP ((N:Int)-1))) (.e (iP ((N:Int)-1-((0:Nat):Int)))))]<|.nil)]<|.nil) ah 
theorem VK(L M:List Nat)(hL:iC L)(hM:iC M)(h1:L.length<=1000000)(h2:M.length<=1000000):gV 198 [gX L,gX M] (iP (jY (val L) (val M))):=by
 obtain⟨N,hN⟩:∃ N,N=max L.length M.length:=⟨_,rfl⟩
 have vL:val L<4294967296^N:=bD (lY hL) (bh ag ae);have vM:val M<4294967296^N:=bD (lY hM) (bh ag ae);by_cases h:∃ x,x<N/\(decide (L.getD (N-1-x) 0≠M.getD (N-1-x) 0))=true
 .obtain ⟨k,k1,k2,k3⟩:=qB h
  have heq:∀ x,x<k->L.getD (N-1-x) 0=M.getD (N-1-x) 0:=fun x hx=>by simpa using k3 x hx
  have ks:L.getD (N-1-k) 0≠M.getD (N-1-k) 0:=by simpa using k2
  have Bp:∀ i,N-1-k<i->iz (val L) i=iz (val M) i:=fun i hi=>by
   by_cases hiN:i<N
   .have:=heq (N-1-i) ae 
    rw[show N-1-(N-1-i)=i by omega,pB hL,pB hM]at this;exact this
   .rw [uH vL ae,uH vM ae]
  rw[pB hL,pB hM]at ks;rcases Nat.lt_or_gt_of_ne ks with hd|hd
  .have:=Uw vL vM Bp hd
   refine(ah4 L M N k hL hM hN ae heq k1 (by rw[pB hL,pB hM];exact hd)).jW (.iS ?_);unfold jY;rw[aR this]
  .have:=Uw vM vL (fun i hi=>(Bp i hi).symm) hd
   refine(ah3 L M N k hL hM hN ae heq k1 (by rw[pB hL,pB hM];exact hd)).jW (.iS ?_);unfold jY;rw[aQ ae,aR this]
 .have heq:∀ x,x<N->L.getD (N-1-x) 0=M.getD (N-1-x) 0:=fun x hx=>by
   apply bE;intro q;exact h ⟨x,hx,by simpa using q⟩
  have Bp:∀ i,iz (val L) i=iz (val M) i:=fun i=>by
   by_cases hiN:i<N
   .have:=heq (N-1-i) ae 
    rw[show N-1-(N-1-i)=i by omega,pB hL,pB hM]at this;exact this
   .rw [uH vL ae,uH vM ae]
  refine(ah2 L M N N hL hM hN ae heq rfl).jW (.iS ?_);rw[Rr vL vM fun i _=>Bp i];unfold jY;rw[aQ (fj _),aQ (fj _)]
theorem ah7(L M:List Nat)(hL:iC L)(hM:iC M)(h1:L.length<=1000000)(h2:M.length<=1000000):gV 318 [(gX L),(gX M)] (bP (decide (jY (val L) (val M)<0))):=by
 exact tr true Tryz.call318 Tryz.func318 (chain [.c (VK _ _ af af ae ae:gV 198 [(gX L),(gX M)] _)]<|.nil) ah 
theorem ah0(L:List Nat)(k:Nat)(hL:iC L)(hs:L.length<=1000000)(hz:∀ x,x<k->L.getD (L.length-1-x) 0=0)(hk:k=L.length):gV 196 [(gX L)] (iP 0):=by
 exact tr true Tryz.call196 Tryz.func196 (chain [iq ((L.length:Int)-1) ae,.s (Sp.jv (VE L k) 0 k ae (fun x hx kf=>by
    have hj:(((L.length:Int)-1-(x:Int))).toNat=L.length-1-x:= ae ;have he:=hz x ae;rw[<-hj]at he;exact iB (chain [tT 10 (0<=((L.length:Int)-1-(x:Int))) ae,iX (((L.length:Int)-1-(x:Int))) (L.length) ae,tB 17 (BE he:((((L.getD (((L.length:Int)-1-(x:Int))).toNat 0):Nat):Int) != 0)=false),iq (((L.length:Int)-1-(x:Int))-1) ae]<|.e (chain [.o 3 (.int aw:PV.le (.e (iP (((L.length:Int)-1-(x:Int))-1))) (.e (iP ((L.length:Int)-1-(((x+1):Nat):Int)))))]<|.nil)) ah)
  (fun hx=>by
    exact iB (chain [tF 10 (0<=((L.length:Int)-1-(k:Int))) ae]<|.nil) ah) ak:jq 2 Tryz.f196 (VE L k 0) (.exit 0) ⟨31,true,[],[]⟩) (chain [.o 3 (.int aw:PV.le (.e (iP ((L.length:Int)-1))) (.e (iP ((L.length:Int)-1-((0:Nat):Int)))))]<|.nil)]<|.nil) ah 
theorem ahZ(L:List Nat)(k:Nat)(hL:iC L)(hs:L.length<=1000000)(hz:∀ x,x<k->L.getD (L.length-1-x) 0=0)(hk:k<L.length)(hd:L.getD (L.length-1-k) 0≠0):gV 196 [(gX L)] (iP ((32*((L.length:Int)-1-(k:Int)))+(ia (L.getD (((L.length:Int)-1-(k:Int))).toNat 0):Int))):=by
 exact tr true Tryz.call196 Tryz.func196 (chain [iq ((L.length:Int)-1) ae,.s (Sp.jv (VD L k) 0 k ae (fun x hx kf=>by
    have hj:(((L.length:Int)-1-(x:Int))).toNat=L.length-1-x:= ae ;have he:=hz x ae;rw[<-hj]at he;exact iB (chain [tT 10 (0<=((L.length:Int)-1-(x:Int))) ae,iX (((L.length:Int)-1-(x:Int))) (L.length) ae,tB 17 (BE he:((((L.getD (((L.length:Int)-1-(x:Int))).toNat 0):Nat):Int) != 0)=false),iq (((L.length:Int)-1-(x:Int))-1) ae]<|.e (chain [.o 3 (.int aw:PV.le (.e (iP (((L.length:Int)-1-(x:Int))-1))) (.e (iP ((L.length:Int)-1-(((x+1):Nat):Int)))))]<|.nil)) ah)
  (fun hx=>by
    have hj:(((L.length:Int)-1-(k:Int))).toNat=L.length-1-k:= ae ;have iD:=hL.getD (((L.length:Int)-1-(k:Int))).toNat
    have mc:ia (L.getD (((L.length:Int)-1-(k:Int))).toNat 0)<=32:=kN.2 iD;rw[<-hj]at hd;exact iB (chain [tT 10 (0<=((L.length:Int)-1-(k:Int))) ae,iX (((L.length:Int)-1-(k:Int))) (L.length) ae,tB 17 (Fi hd:((((L.getD (((L.length:Int)-1-(k:Int))).toNat 0):Nat):Int) != 0)=true),iq (32*((L.length:Int)-1-(k:Int))) ae,
    iX (((L.length:Int)-1-(k:Int))) (L.length) ae,.s (Sp.jv (VF L k) 0 (ia (L.getD (((L.length:Int)-1-(k:Int))).toNat 0)) ae (fun y hy S3=>by
    have hp:0<(L.getD (((L.length:Int)-1-(k:Int))).toNat 0)/2^y:=fQ (r7.1 ae) (aY ag);exact iB (chain [tT 25 (0<((((L.getD (((L.length:Int)-1-(k:Int))).toNat 0)/2^y):Nat):Int)) ae,iq (((32*((L.length:Int)-1-(k:Int)))+(y:Int))+1) ae,.a (ae:0<=(1:Int)/\(1:Int)<=((32:Nat):Int)),.o 27 (.int (yT _ _):PV.le (.e (.v (.int .u32 (((((L.getD (((L.length:Int)-1-(k:Int))).toNat 0)/2^y):Nat):Int)/2^1)))) (.e (.v (.int .u32 (((((L.getD (((L.length:Int)-1-(k:Int))).toNat 0)/2^y)/2^1):Nat):Int)))))]<|.e (chain [.o 5 (.int (by rw[cz,<-aZ]):PV.le (.e (.v (.int .u32 (((((L.getD (((L.length:Int)-1-(k:Int))).toNat 0)/2^y)/2^1):Nat):Int)))) (.e (.v (.int .u32 ((((L.getD (((L.length:Int)-1-(k:Int))).toNat 0)/2^(y+1)):Nat):Int))))),.o 4 (.int aw:PV.le (.e (iP (((32*((L.length:Int)-1-(k:Int)))+(y:Int))+1))) (.e (iP ((32*((L.length:Int)-1-(k:Int)))+(((y+1):Nat):Int)))))]<|.nil)) ah)
  (fun hy=>by
    have hp:(L.getD (((L.length:Int)-1-(k:Int))).toNat 0)/2^(ia (L.getD (((L.length:Int)-1-(k:Int))).toNat 0))=0:=bT (oM _);exact iB (chain [tF 25 (0<((((L.getD (((L.length:Int)-1-(k:Int))).toNat 0)/2^(ia (L.getD (((L.length:Int)-1-(k:Int))).toNat 0))):Nat):Int)) ae]<|.nil) ah) ak:jq 7 Tryz.f196 (VF L k 0) (.exit 2) ⟨31,true,[(4,.e (iP ((32*((L.length:Int)-1-(k:Int)))+(ia (L.getD (((L.length:Int)-1-(k:Int))).toNat 0):Int))))],[]⟩) (chain [.o 5 (.int (by rw[bN,dC]):PV.le (.e (.v (.int .u32 (((L.getD (((L.length:Int)-1-(k:Int))).toNat 0):Nat):Int)))) (.e (.v (.int .u32 ((((L.getD (((L.length:Int)-1-(k:Int))).toNat 0)/2^0):Nat):Int))))),.o 4 (.int aw:PV.le (.e (iP (32*((L.length:Int)-1-(k:Int))))) (.e (iP ((32*((L.length:Int)-1-(k:Int)))+((0:Nat):Int)))))]<|.nil)]<|.nil) ah) ak:jq 2 Tryz.f196 (VD L k 0) .ret ⟨31,true,[(2,.e (iP ((32*((L.length:Int)-1-(k:Int)))+(ia (L.getD (((L.length:Int)-1-(k:Int))).toNat 0):Int))))],[]⟩) (chain [.o 3 (.int aw:PV.le (.e (iP ((L.length:Int)-1))) (.e (iP ((L.length:Int)-1-((0:Nat):Int)))))]<|.nil)]<|.nil) ah 
theorem VG(L:List Nat)(hL:iC L)(h1:L.length<=1000000):gV 196 [gX L] (iP (ia (val L))):=by
 by_cases h:∃ x,x<L.length/\(decide (L.getD (L.length-1-x) 0≠0))=true
 .obtain ⟨k,k1,k2,k3⟩:=qB h
  have hz:∀ x,x<k->L.getD (L.length-1-x) 0=0:=fun x hx=>by simpa using k3 x hx
  have ks:L.getD (L.length-1-k) 0≠0:=by simpa using k2
  refine(ahZ L k hL h1 hz k1 ks).jW (.iS ?_);have hj:(((L.length:Int)-1-(k:Int))).toNat=L.length-1-k:= ae ;rw[hj];have hb:=P0 (n:=val L) (k:=L.length-1-k) (JU hL fun i hi=>by
   by_cases vV:i<L.length
   .have:=hz (L.length-1-i) ae 
    rwa[show L.length-1-(L.length-1-i)=i by omega]at this
   .rw [aW,bS ae];rfl) (by rw[<-pB hL];exact ks)
  rw[hb,<-pB hL];exact congrArg iP ae 
 .have hz:∀ x,x<L.length->L.getD (L.length-1-x) 0=0:=fun x hx=>by
   apply bE;intro q;exact h ⟨x,hx,by simpa using q⟩
  refine(ah0 L L.length hL h1 hz rfl).jW (.iS ?_);have:val L<4294967296^0:=JU hL fun i _=>by
   by_cases vV:i<L.length
   .have:=hz (L.length-1-i) ae 
    rwa[show L.length-1-(L.length-1-i)=i by omega]at this
   .rw [aW,bS ae];rfl
  have h0:val L=0:=by rw[bN]at this;omega
  rw[h0];rfl
open Go.RowKit Fp Pu
def VC(L M:List Nat)(N:Nat)(x:Nat):PS:=⟨41,false,[(5,.own 5),(7,.e (iP x)),(6,.e (.v (.int .u64 (jy (val L) (val M) x:Int)))),(0,.e (gX L)),(1,.e (gX M))],[(5,.row false 79 x 1 (jb (iJ (val L+val M) x)))]⟩
def VR(L M:List Nat)(x:Nat):PS:=⟨36,false,[(5,.own 5),(7,.e (iP x)),(6,.e (.v (.int .u64 (jy (val L-val M) (val M) x:Int)))),(0,.e (gX L)),(1,.e (gX M))],[(5,.row false 79 x 1 (jb (iJ (val L-val M) x)))]⟩
def VP(L:List Nat)(n:Nat)(x:Nat):PS:=⟨36,false,[(5,.own 5),(6,.e (iP ((((n/32)+x):Nat):Int))),(0,.e (gX L)),(1,.e (iP n))],[(5,.row false 79 x 1 (jb (iJ (val L/2^n) x)))]⟩
def VQ(L:List Nat)(n:Nat)(x:Nat):PS:=⟨36,false,[(5,.own 5),(6,.e (iP ((((n/32)+x):Nat):Int))),(0,.e (gX L)),(1,.e (iP n))],[(5,.row false 79 x 1 (jb (iJ 0 x)))]⟩
theorem ahY(L M:List Nat)(hL:iC L)(hM:iC M)(h1:L.length<=10000)(h2:M.length<=10000):gV 200 [(gX L),(gX M)] (gX (gU (val L+val M))):=by
 obtain⟨N,hN⟩:∃ N,N=max L.length M.length:=⟨_,rfl⟩
 have vL:val L<4294967296^N:=bD (lY hL) (bh ag ae);have vM:val M<4294967296^N:=bD (lY hM) (bh ag ae);have hcN:=sR (val L) (val M) N;have hce:jy (val L) (val M) (N+jy (val L) (val M) N)=0:=by
  rcases dG 0 (jy (val L) (val M) N)with h|h
  .rw [show jy (val L) (val M) N=1 by omega];exact aaV vL vM
  .have h0:jy (val L) (val M) N=0:= ae 
   rw[h0,bt];exact h0
 have od:val L+val M<4294967296^(N+jy (val L) (val M) N):=by
  have h:=Kd (val L) (val M) (N+jy (val L) (val M) N);have g1:val L<4294967296^(N+jy (val L) (val M) N):=bD vL (bh ag ae);have g2:val M<4294967296^(N+jy (val L) (val M) N):=bD vM (bh ag ae);rw[hce,bT g1,bT g2]at h;exact Nat.lt_of_div_eq_zero (pw _) h
 exact tr false Tryz.call200 Tryz.func200 (chain [.y 5 5 false 79 1 (jb (iJ (val L+val M) 0)),.s (Sp.jv (VC L M N) 0 (N+(jy (val L) (val M) N)) ae (fun x hx kf=>by
    have ha:=xI (val L) (val M) x;rw[<-pB hL,<-pB hM]at ha;have b1:=hL.getD x;have b2:=hM.getD x;have b3:=sR (val L) (val M) x;have b4:=pA (val L+val M) x;have hz:((((L.getD x 0+M.getD x 0)+(jy (val L) (val M) x))%4294967296%4294967296:Nat):Int)=(iz (val L+val M) x:Int):= ae ;have hq:((L.getD x 0+M.getD x 0)+(jy (val L) (val M) x))/4294967296=jy (val L) (val M) (x+1):= ae ;by_cases hx:x<N
    .exact iB (chain [.o 14 (.int (by rw[hN];split<;>omega):PV.le (.e (iP (if(M.length:Int)>(L.length:Int)then(M.length:Int)else(L.length:Int)))) (.e (iP N))),tT 15 ((x:Int)<(N:Int)) ae,.c (yN _ _ af:gV 231 [(gX L),(iP x)] _),.c (yN _ _ af:gV 231 [(gX M),(iP x)] _),
      pd ((L.getD x 0:Int)+(M.getD x 0:Int)) ae,pd (((((L.getD x 0)+(M.getD x 0)):Nat):Int)+(jy (val L) (val M) x:Int)) ae,.o 33 (.int (DH _ ae):PV.le (.e (.v (.int .u64 (bits .and .u64 (((((L.getD x 0)+(M.getD x 0))+(jy (val L) (val M) x)):Nat):Int) 4294967295)))) (.e (.v (.int .u64 ((((((L.getD x 0)+(M.getD x 0))+(jy (val L) (val M) x))%4294967296):Nat):Int))))),.o 34 (.int (uq _):PV.le (.e (.v (.int .u32 (IntKind.u32.wrap ((((((L.getD x 0)+(M.getD x 0))+(jy (val L) (val M) x))%4294967296):Nat):Int))))) (.e (.v (.int .u32 (((((((L.getD x 0)+(M.getD x 0))+(jy (val L) (val M) x))%4294967296)%4294967296):Nat):Int))))),.a (ae:(x+1)*4<=140737488355328),.a (ae:0<=(32:Int)/\(32:Int)<=((64:Nat):Int)),.o 38 (.int (BZ _):PV.le (.e (.v (.int .u64 ((((((L.getD x 0)+(M.getD x 0))+(jy (val L) (val M) x)):Nat):Int)/2^32)))) (.e (.v (.int .u64 ((((((L.getD x 0)+(M.getD x 0))+(jy (val L) (val M) x))/4294967296):Nat):Int))))),
      iq ((x:Int)+1) ae]<|.e (chain [.o 6 (.int (by rw[hq]):PV.le (.e (.v (.int .u64 ((((((L.getD x 0)+(M.getD x 0))+(jy (val L) (val M) x))/4294967296):Nat):Int)))) (.e (.v (.int .u64 (jy (val L) (val M) (x+1):Int))))),.b 5 (Ah rfl hz:Bx.le (.row false 79 (x+1) 1 (fun i_ j_=>if i_<x then(jb (iJ (val L+val M) x)) i_ j_ else(E.lZ (.sl false 1 1 fun i_ j_=>[(.v (.int .u32 (((((((L.getD x 0)+(M.getD x 0))+(jy (val L) (val M) x))%4294967296)%4294967296):Nat):Int)))].getD (i_*1+j_) (.v (.bool false)))) (i_-x) j_)) (.row false 79 (x+1) 1 (jb (iJ (val L+val M) (x+1)))))]<|.nil)) ah 
    .have hcx:jy (val L) (val M) x=jy (val L) (val M) N:=by rw[show x=N by omega]
     exact iB (chain [.o 14 (.int (by rw[hN];split<;>omega):PV.le (.e (iP (if(M.length:Int)>(L.length:Int)then(M.length:Int)else(L.length:Int)))) (.e (iP N))),tF 15 ((x:Int)<(N:Int)) ae,tT 18 (0<(jy (val L) (val M) x:Int)) ae,.c (yN _ _ af:gV 231 [(gX L),(iP x)] _),.c (yN _ _ af:gV 231 [(gX M),(iP x)] _),pd ((L.getD x 0:Int)+(M.getD x 0:Int)) ae,
      pd (((((L.getD x 0)+(M.getD x 0)):Nat):Int)+(jy (val L) (val M) x:Int)) ae,.o 33 (.int (DH _ ae):PV.le (.e (.v (.int .u64 (bits .and .u64 (((((L.getD x 0)+(M.getD x 0))+(jy (val L) (val M) x)):Nat):Int) 4294967295)))) (.e (.v (.int .u64 ((((((L.getD x 0)+(M.getD x 0))+(jy (val L) (val M) x))%4294967296):Nat):Int))))),.o 34 (.int (uq _):PV.le (.e (.v (.int .u32 (IntKind.u32.wrap ((((((L.getD x 0)+(M.getD x 0))+(jy (val L) (val M) x))%4294967296):Nat):Int))))) (.e (.v (.int .u32 (((((((L.getD x 0)+(M.getD x 0))+(jy (val L) (val M) x))%4294967296)%4294967296):Nat):Int))))),.a (ae:(x+1)*4<=140737488355328),.a (ae:0<=(32:Int)/\(32:Int)<=((64:Nat):Int)),.o 38 (.int (BZ _):PV.le (.e (.v (.int .u64 ((((((L.getD x 0)+(M.getD x 0))+(jy (val L) (val M) x)):Nat):Int)/2^32)))) (.e (.v (.int .u64 ((((((L.getD x 0)+(M.getD x 0))+(jy (val L) (val M) x))/4294967296):Nat):Int))))),
      iq ((x:Int)+1) ae]<|.e (chain [.o 6 (.int (by rw[hq]):PV.le (.e (.v (.int .u64 ((((((L.getD x 0)+(M.getD x 0))+(jy (val L) (val M) x))/4294967296):Nat):Int)))) (.e (.v (.int .u64 (jy (val L) (val M) (x+1):Int))))),.b 5 (Ah rfl hz:Bx.le (.row false 79 (x+1) 1 (fun i_ j_=>if i_<x then(jb (iJ (val L+val M) x)) i_ j_ else(E.lZ (.sl false 1 1 fun i_ j_=>[(.v (.int .u32 (((((((L.getD x 0)+(M.getD x 0))+(jy (val L) (val M) x))%4294967296)%4294967296):Nat):Int)))].getD (i_*1+j_) (.v (.bool false)))) (i_-x) j_)) (.row false 79 (x+1) 1 (jb (iJ (val L+val M) (x+1)))))]<|.nil)) ah)
  (fun hx=>by
    exact iB (chain [.o 14 (.int (by rw[hN];split<;>omega):PV.le (.e (iP (if(M.length:Int)>(L.length:Int)then(M.length:Int)else(L.length:Int)))) (.e (iP N))),tF 15 ((((N+(jy (val L) (val M) N)):Nat):Int)<(N:Int)) ae,tF 18 (0<(jy (val L) (val M) (N+(jy (val L) (val M) N)):Int)) ae,.z 5]<|.e (chain [.o 5 (.e (yU (mC _ _).symm):PV.le (.e (.sl false (N+(jy (val L) (val M) N)) 1 (jb (iJ (val L+val M) (N+(jy (val L) (val M) N)))))) (.e (gX (iJ (val L+val M) (N+(jy (val L) (val M) N))))))]<|.nil)) ah) ak:jq 4 Tryz.f200 (VC L M N 0) (.exit 0) ⟨41,false,[(5,.e (gX (iJ (val L+val M) (N+(jy (val L) (val M) N)))))],[]⟩) (chain [.o 6 (.int (by rw[GP];rfl):PV.le (.e (.v (.int .u64 0))) (.e (.v (.int .u64 (jy (val L) (val M) 0:Int)))))]<|.nil),.cf (xw _ (rU _ _) ay:vw 195 [(gX (iJ (val L+val M) (N+(jy (val L) (val M) N))))] _)]<|rQ (gX (ij (iJ (val L+val M) (N+(jy (val L) (val M) N))))) (gX (gU (val L+val M))) (by rw[B4 od])) ah 
theorem aic(L M:List Nat)(hL:iC L)(hM:iC M)(h1:L.length<=10000)(hle:val M<=val L):gV 232 [(gX L),(gX M)] (gX (gU (val L-val M))):=by
 have od:val L-val M<4294967296^L.length:=bQ (dj _ _) (lY hL);exact tr false Tryz.call232 Tryz.func232 (chain [.y 5 5 false 79 1 (jb (iJ (val L-val M) 0)),.s (Sp.jv (VR L M) 0 L.length ae (fun x hx kf=>by
    have ha:=Xz hle x;rw[<-pB hL,<-pB hM]at ha;have b1:=hL.getD x;have b2:=hM.getD x;have b3:=sR (val L-val M) (val M) x;have b5:=sR (val L-val M) (val M) (x+1);have b4:=pA (val L-val M) x;have hz:(((((L.getD x 0+4294967296)-M.getD x 0)-(jy (val L-val M) (val M) x))%4294967296%4294967296:Nat):Int)=(iz (val L-val M) x:Int):= ae ;have hq:1-(((L.getD x 0+4294967296)-M.getD x 0)-(jy (val L-val M) (val M) x))/4294967296=jy (val L-val M) (val M) (x+1):= ae ;exact iB (chain [tT 12 ((x:Int)<(L.length:Int)) ae,.c (yN _ _ af:gV 231 [(gX L),(iP x)] _),pd ((L.getD x 0:Int)+4294967296) ae,.c (yN _ _ af:gV 231 [(gX M),(iP x)] _),pd (((((L.getD x 0)+4294967296):Nat):Int)-(M.getD x 0:Int)) ae,.o 22 (.int ae:PV.le (.e (.v (.int .u64 (((((L.getD x 0)+4294967296):Nat):Int)-(M.getD x 0:Int))))) (.e (.v (.int .u64 ((((L.getD x 0+4294967296)-M.getD x 0):Nat):Int))))),
     pd (((((L.getD x 0+4294967296)-M.getD x 0):Nat):Int)-(jy (val L-val M) (val M) x:Int)) ae,.o 24 (.int ae:PV.le (.e (.v (.int .u64 (((((L.getD x 0+4294967296)-M.getD x 0):Nat):Int)-(jy (val L-val M) (val M) x:Int))))) (.e (.v (.int .u64 (((((L.getD x 0+4294967296)-M.getD x 0)-(jy (val L-val M) (val M) x)):Nat):Int))))),.o 27 (.int (DH _ ae):PV.le (.e (.v (.int .u64 (bits .and .u64 (((((L.getD x 0+4294967296)-M.getD x 0)-(jy (val L-val M) (val M) x)):Nat):Int) 4294967295)))) (.e (.v (.int .u64 ((((((L.getD x 0+4294967296)-M.getD x 0)-(jy (val L-val M) (val M) x))%4294967296):Nat):Int))))),.o 28 (.int (uq _):PV.le (.e (.v (.int .u32 (IntKind.u32.wrap ((((((L.getD x 0+4294967296)-M.getD x 0)-(jy (val L-val M) (val M) x))%4294967296):Nat):Int))))) (.e (.v (.int .u32 (((((((L.getD x 0+4294967296)-M.getD x 0)-(jy (val L-val M) (val M) x))%4294967296)%4294967296):Nat):Int))))),.a (ae:(x+1)*4<=140737488355328),.a (ae:0<=(32:Int)/\(32:Int)<=((64:Nat):Int)),.o 32 (.int (BZ _):PV.le (.e (.v (.int .u64 ((((((L.getD x 0+4294967296)-M.getD x 0)-(jy (val L-val M) (val M) x)):Nat):Int)/2^32)))) (.e (.v (.int .u64 ((((((L.getD x 0+4294967296)-M.getD x 0)-(jy (val L-val M) (val M) x))/4294967296):Nat):Int))))),
     pd (1-((((((L.getD x 0+4294967296)-M.getD x 0)-(jy (val L-val M) (val M) x))/4294967296):Nat):Int)) ae,.o 33 (.int ae:PV.le (.e (.v (.int .u64 (1-((((((L.getD x 0+4294967296)-M.getD x 0)-(jy (val L-val M) (val M) x))/4294967296):Nat):Int))))) (.e (.v (.int .u64 (((1-((((L.getD x 0+4294967296)-M.getD x 0)-(jy (val L-val M) (val M) x))/4294967296)):Nat):Int))))),
     iq ((x:Int)+1) ae]<|.e (chain [.o 6 (.int (by rw[hq]):PV.le (.e (.v (.int .u64 (((1-((((L.getD x 0+4294967296)-M.getD x 0)-(jy (val L-val M) (val M) x))/4294967296)):Nat):Int)))) (.e (.v (.int .u64 (jy (val L-val M) (val M) (x+1):Int))))),.b 5 (Ah rfl hz:Bx.le (.row false 79 (x+1) 1 (fun i_ j_=>if i_<x then(jb (iJ (val L-val M) x)) i_ j_ else(E.lZ (.sl false 1 1 fun i_ j_=>[(.v (.int .u32 (((((((L.getD x 0+4294967296)-M.getD x 0)-(jy (val L-val M) (val M) x))%4294967296)%4294967296):Nat):Int)))].getD (i_*1+j_) (.v (.bool false)))) (i_-x) j_)) (.row false 79 (x+1) 1 (jb (iJ (val L-val M) (x+1)))))]<|.nil)) ah)
  (fun hx=>by
    exact iB (chain [tF 12 ((L.length:Int)<(L.length:Int)) ae,.z 5]<|.e (chain [.o 5 (.e (yU (mC _ _).symm):PV.le (.e (.sl false L.length 1 (jb (iJ (val L-val M) L.length)))) (.e (gX (iJ (val L-val M) L.length))))]<|.nil)) ah) ak:jq 4 Tryz.f232 (VR L M 0) (.exit 0) ⟨36,false,[(5,.e (gX (iJ (val L-val M) L.length)))],[]⟩) (chain [.o 6 (.int (by rw[GP];rfl):PV.le (.e (.v (.int .u64 0))) (.e (.v (.int .u64 (jy (val L-val M) (val M) 0:Int)))))]<|.nil),.cf (xw _ (rU _ _) ay:vw 195 [(gX (iJ (val L-val M) L.length))] _)]<|rQ (gX (ij (iJ (val L-val M) L.length))) (gX (gU (val L-val M))) (by rw[B4 od])) ah 
theorem aia(L:List Nat)(n:Nat)(hL:iC L)(h1:L.length<=10000)(hn:n<=1000000):gV 197 [(gX L),(iP n)] (gX (gU (val L/2^n))):=by
 have od:val L/2^n<4294967296^(L.length-n/32):=by
  rw[bR (aY ag)];by_cases h:n/32<=L.length
  .refine bD (lY hL) ?_
   rw[nD,nD,<-aV];exact bh ag ae 
  .rw [show L.length-n/32=0 by omega,bN,bJ]
   refine bD (lY hL) ?_;rw[nD];exact bh ag ae 
 by_cases kg:n/32<=L.length
 .exact tr false Tryz.call197 Tryz.func197 (chain [.a (ae:0<(32:Int)),iq ((n:Int)) ae,.y 5 5 false 79 1 (jb (iJ (val L/2^n) 0)),.s (Sp.jv (VP L n) 0 (L.length-n/32) ae (fun x hx kf=>by
    have b1:=hL.getD ((n/32)+x);have b2:=hL.getD (((n/32)+x)+1);have b3:(L.getD ((n/32)+x) 0+(L.getD (((n/32)+x)+1) 0*4294967296))/2^(n%32)<=(L.getD ((n/32)+x) 0+(L.getD (((n/32)+x)+1) 0*4294967296)):=bw _ _;have hz:(((L.getD ((n/32)+x) 0+(L.getD (((n/32)+x)+1) 0*4294967296))/2^(n%32)%4294967296%4294967296:Nat):Int)=(iz (val L/2^n) x:Int):=by
     rw[Nat.mod_mod,akl,<-pB hL,<-pB hL,dR x,a7 4294967296]
    exact iB (chain [tT 13 (((((n/32)+x):Nat):Int)<(L.length:Int)) ae,.c (yN _ _ af:gV 231 [(gX L),(iP ((((n/32)+x):Nat):Int))] _),iq (((((n/32)+x):Nat):Int)+1) ae,.c (yN _ _ af:gV 231 [(gX L),(iP (((((n/32)+x)+1):Nat):Int))] _),.a (ae:0<=(32:Int)/\(32:Int)<=((64:Nat):Int)),.o 23 (.int (Dz _ ae):PV.le (.e (.v (.int .u64 (IntKind.u64.wrap ((L.getD (((n/32)+x)+1) 0:Int)*2^32))))) (.e (.v (.int .u64 (((L.getD (((n/32)+x)+1) 0*4294967296):Nat):Int))))),
     pd ((L.getD ((n/32)+x) 0:Int)+(((L.getD (((n/32)+x)+1) 0*4294967296):Nat):Int)) ae,.a (ae:0<(32:Int)),.a (ae:0<=((((n%32):Nat):Int):Int)/\((((n%32):Nat):Int):Int)<=((64:Nat):Int)),.o 29 (.int (yT _ _):PV.le (.e (.v (.int .u64 (((((L.getD ((n/32)+x) 0)+(L.getD (((n/32)+x)+1) 0*4294967296)):Nat):Int)/2^(n%32))))) (.e (.v (.int .u64 (((((L.getD ((n/32)+x) 0)+(L.getD (((n/32)+x)+1) 0*4294967296))/2^(n%32)):Nat):Int))))),.o 30 (.int (DH _ ae):PV.le (.e (.v (.int .u64 (bits .and .u64 (((((L.getD ((n/32)+x) 0)+(L.getD (((n/32)+x)+1) 0*4294967296))/2^(n%32)):Nat):Int) 4294967295)))) (.e (.v (.int .u64 ((((((L.getD ((n/32)+x) 0)+(L.getD (((n/32)+x)+1) 0*4294967296))/2^(n%32))%4294967296):Nat):Int))))),.o 31 (.int (uq _):PV.le (.e (.v (.int .u32 (IntKind.u32.wrap ((((((L.getD ((n/32)+x) 0)+(L.getD (((n/32)+x)+1) 0*4294967296))/2^(n%32))%4294967296):Nat):Int))))) (.e (.v (.int .u32 (((((((L.getD ((n/32)+x) 0)+(L.getD (((n/32)+x)+1) 0*4294967296))/2^(n%32))%4294967296)%4294967296):Nat):Int))))),.a (ae:(x+1)*4<=140737488355328),iq (((((n/32)+x):Nat):Int)+1) ae]<|.e (chain [.o 6 (.int aw:PV.le (.e (iP (((((n/32)+x)+1):Nat):Int))) (.e (iP ((((n/32)+(x+1)):Nat):Int)))),.b 5 (Ah rfl hz:Bx.le (.row false 79 (x+1) 1 (fun i_ j_=>if i_<x then(jb (iJ (val L/2^n) x)) i_ j_ else(E.lZ (.sl false 1 1 fun i_ j_=>[(.v (.int .u32 (((((((L.getD ((n/32)+x) 0)+(L.getD (((n/32)+x)+1) 0*4294967296))/2^(n%32))%4294967296)%4294967296):Nat):Int)))].getD (i_*1+j_) (.v (.bool false)))) (i_-x) j_)) (.row false 79 (x+1) 1 (jb (iJ (val L/2^n) (x+1)))))]<|.nil)) ah)
  (fun hx=>by
    exact iB (chain [tF 13 (((((n/32)+(L.length-n/32)):Nat):Int)<(L.length:Int)) ae,.z 5]<|.e (chain [.o 5 (.e (yU (mC _ _).symm):PV.le (.e (.sl false (L.length-n/32) 1 (jb (iJ (val L/2^n) (L.length-n/32))))) (.e (gX (iJ (val L/2^n) (L.length-n/32)))))]<|.nil)) ah) ak:jq 3 Tryz.f197 (VP L n 0) (.exit 0) ⟨36,false,[(5,.e (gX (iJ (val L/2^n) (L.length-n/32))))],[]⟩) (chain [.o 6 (.int aw:PV.le (.e (iP (((n/32):Nat):Int))) (.e (iP ((((n/32)+0):Nat):Int))))]<|.nil),.cf (xw _ (rU _ _) ay:vw 195 [(gX (iJ (val L/2^n) (L.length-n/32)))] _)]<|rQ (gX (ij (iJ (val L/2^n) (L.length-n/32)))) (gX (gU (val L/2^n))) (by rw[B4 od])) ah 
 .have h0:val L/2^n=0:=by rw[show L.length-n/32=0 by omega,bN]at od;exact Nat.lt_one_iff.1 od
  rw[h0];exact tr false Tryz.call197 Tryz.func197 (chain [.a (ae:0<(32:Int)),iq ((n:Int)) ae,.y 5 5 false 79 1 (jb (iJ 0 0)),.s (Sp.jv (VQ L n) 0 0 ae (fun x hx kf=>by
    omega)
  (fun hx=>by
    exact iB (chain [tF 13 (((((n/32)+0):Nat):Int)<(L.length:Int)) ae,.z 5]<|.e (chain [.o 5 (.e (yU (mC _ _).symm):PV.le (.e (.sl false 0 1 (jb (iJ 0 0)))) (.e (gX (iJ 0 0))))]<|.nil)) ah) ak:jq 3 Tryz.f197 (VQ L n 0) (.exit 0) ⟨36,false,[(5,.e (gX (iJ 0 0)))],[]⟩) (chain [.o 6 (.int aw:PV.le (.e (iP (((n/32):Nat):Int))) (.e (iP ((((n/32)+0):Nat):Int))))]<|.nil),.cf (xw _ (rU _ _) ay:vw 195 [(gX (iJ 0 0))] _)]<|rQ (gX (ij (iJ 0 0))) (gX (gU 0)) (by rw[B4 ag])) ah 
end Go.Proofs.YtdgnpeddgdclhaaGreatDoor
namespace Go.Proofs.YtdgnpeddgdclhaaGreatDoor.Fp
def iM(a b n x:Nat):Nat:=a/2^(n-x)%b
def kH(a b n x:Nat):Nat:=a/2^(n-x)/b
def jf(a n x:Nat):Nat:=a/2^(n-1-x)%2
theorem G6(a n x:Nat):jf a n x<=1:=by unfold jf;omega
theorem Q4{a n x:Nat}(hx:x<n):a/2^(n-(x+1))=2*(a/2^(n-x))+jf a n x:=by
 unfold jf;rw[show n-x=(n-1-x)+1 by omega,show n-(x+1)=n-1-x by omega,aZ,<-cz];omega
theorem Q2{a b n x:Nat}(hb:0<b)(hx:x<n)(h:2*iM a b n x+jf a n x<b):iM a b n (x+1)=2*iM a b n x+jf a n x/\kH a b n (x+1)=2*kH a b n x:=by
 have e:a/2^(n-(x+1))=b*(2*kH a b n x)+(2*iM a b n x+jf a n x):=by
  rw[Q4 hx];have:=bU (a/2^(n-x)) b;unfold kH iM;rw[cD];omega
 constructor
 .conv=>lhs;unfold iM
  rw[e,dw,bu h]
 .conv=>lhs;unfold kH
  rw[e,c9 hb,bT h,bt]
theorem Q3{a b n x:Nat}(hb:0<b)(hx:x<n)(h:¬2*iM a b n x+jf a n x<b):iM a b n (x+1)=2*iM a b n x+jf a n x-b/\kH a b n (x+1)=2*kH a b n x+1:=by
 have hr:iM a b n x<b:=bg _ hb;have sX:=G6 a n x;have e:a/2^(n-(x+1))=b*(2*kH a b n x+1)+(2*iM a b n x+jf a n x-b):=by
  rw[Q4 hx];have:=bU (a/2^(n-x)) b;unfold kH iM at *
  rw[bn,cD,bO];omega
 constructor
 .conv=>lhs;unfold iM
  rw[e,dw,bu ae]
 .conv=>lhs;unfold kH
  rw[e,c9 hb,bT ae,bt]
theorem Q5{a b n:Nat}(h:a<2^n):iM a b n 0=0/\kH a b n 0=0:=by
 unfold iM kH;rw[dh,bT h];simp
theorem Q1(a b n:Nat):iM a b n n=a%b/\kH a b n n=a/b:=by
 unfold iM kH;rw[cT,bN,dC];exact⟨rfl,rfl⟩
theorem abF(a b n x:Nat):kH a b n x*2^(n-x)<=a:=by
 unfold kH;exact aX (bC _ (bw _ _)) (cN _ _)
theorem P5{L:List Nat}(h:iC L):ia (val L)<=32*L.length:=kN.2 (by rw[<-nD];exact lY h)
theorem akb{q i m:Nat}(hi:i/32<m)(hq:q*2^(i+1)<4294967296^m):
 (∃ t,iz (q*2^(i+1)) (i/32)=t*2^(i%32+1))/\iz (q*2^(i+1)) (i/32)+2^(i%32)<4294967296 /\
 (iJ (q*2^(i+1)) m).set (i/32) (iz (q*2^(i+1)) (i/32)+2^(i%32))=iJ ((2*q+1)*2^i) m:=by
 have hr:i%32<32:=bg _ ag;have e1:q*2^(i+1)/4294967296^(i/32)=q*2^(i%32+1):=by
  rw[show i+1=(i%32+1)+32*(i/32)by omega,aV,<-nD,<-bc,dt _ (pw _)]
 have h3:(4294967296:Nat)=2^(i%32+1)*2^(32-(i%32+1)):=by rw[<-aV,show i%32+1+(32-(i%32+1))=32 by omega]
 have e2:iz (q*2^(i+1)) (i/32)=(q%2^(32-(i%32+1)))*2^(i%32+1):=by
  unfold iz;rw[e1,a7]
  conv=>lhs;rhs;rw[h3]
  rw[gr,a7]
 have e3:(q%2^(32-(i%32+1)))*2^(i%32+1)+2^(i%32+1)<=4294967296:=by
  have:=bC (2^(i%32+1)) (show q%2^(32-(i%32+1))+1<=2^(32-(i%32+1))from bg _ (aY ag));rw[bK,bJ]at this;refine aX this (fJ ?_);rw[a7];exact h3.symm
 have e4:2^(i%32)<2^(i%32+1):=et ag ae;have iD:iz (q*2^(i+1)) (i/32)+2^(i%32)<4294967296:=by rw[e2];omega
 refine⟨⟨_,e2⟩,iD,?_⟩;have hk:i/32<(iJ (q*2^(i+1)) m).length:=by rw[mC];exact hi
 have hv:=xz (x:=iz (q*2^(i+1)) (i/32)+2^(i%32)) hk;rw[sT hi,ux,bu hq,bn]at hv;refine(Co ((rU _ _).set _ iD) (by rw[cv,mC]) ?_).symm;have e5:4294967296^(i/32)*2^(i%32)=2^i:=by rw[nD,<-aV];congr 1;omega
 rw[e5]at hv;have e6:2*q*2^i=q*2^(i+1):=by rw[aZ,a7 2 q,bc,a7 2]
 rw[bK,bJ,e6];omega
end Go.Proofs.YtdgnpeddgdclhaaGreatDoor.Fp
namespace Go.Proofs.YtdgnpeddgdclhaaGreatDoor
open Go.RowKit Fp Pu
theorem ahv(s t:Nat)(hs:s<32)(iD:t*2^(s+1)+2^s<4294967296):bits .or .u32 ((t*2^(s+1):Nat):Int) (IntKind.u32.wrap (1*2^s))=((t*2^(s+1)+2^s:Nat):Int):=by
 have h2:2^s<2^(s+1):=et ag ae;have e:IntKind.u32.wrap (1*2^s)=((2^s:Nat):Int):=by
  rw[IntKind.wrap_u32,Int.one_mul,show(2:Int)^s=((2^s:Nat):Int)by simp];omega
 rw[e,F5 _ _ ae ae,fG,Aq _ t (s+1) h2,dR]
theorem ahw(o r a:Nat)(hr:r<32)(ho:o<2^r):bits .or .u32 (o:Int) ((a*2^r%4294967296%4294967296:Nat):Int)=((o+a*2^r%4294967296:Nat):Int):=by
 have h3:(4294967296:Nat)=2^r*2^(32-r):=by rw[<-aV,show r+(32-r)=32 by omega]
 have xU:2^r<=2^31:=bh ag ae;have Ej:(2:Nat)^31=2147483648:= ag ;have e2:a*2^r%4294967296=(a%2^(32-r))*2^r:=by
  rw[a7]
  conv=>lhs;rhs;rw[h3]
  rw[gr,a7]
 rw[Nat.mod_mod,F5 _ _ ae (bg _ ag),e2,Aq _ _ _ ho]
theorem akh(a r:Nat)(ha:a<4294967296)(hr:r<32):IntKind.u64.wrap ((a:Int)*2^r)=((a*2^r:Nat):Int):=by
 have xU:2^r<=2^31:=bh ag ae;have Ej:(2:Nat)^31=2147483648:= ag ;have h2:a*2^r<=4294967295*2147483648:=cK ae ae;have e:(a:Int)*2^r=((a*2^r:Nat):Int):= aj ;rw[e];exact px _ ae 
theorem akg{a r:Nat}(ha:a<4294967296)(hr:r<32):a*2^r<=9223372034707292160:=by
 have xU:2^r<=2^31:=bh ag ae;have Ej:(2:Nat)^31=2147483648:= ag ;have h2:a*2^r<=4294967295*2147483648:=cK ae ae;omega
theorem Oh(x:Nat):IntKind.u32.wrap ((x:Int)*2^1)=((2*x%4294967296:Nat):Int):=by rw[IntKind.wrap_u32];omega
theorem Jc(x c:Nat)(hc:c<=1):bits .or .u32 ((2*x%4294967296:Nat):Int) (c:Int)=((2*x%4294967296+c:Nat):Int):=by
 have h:2*x%4294967296=(2*x%4294967296/2)*2^1:= ae ;rw[F5 _ _ ae ae,fG,h,Aq _ _ 1 ae,dR]
theorem ajQ{T n n' p q:Nat}{L L':List Nat}{z y:Nat}(hn:n=n')(hp:p<L.length)(hq:q<L.length)(hs:(L.set p z).set q y=L'):
 Bx.le (.row false T n 1 fun i' j'=>if i'=q/\0<=j'/\j'<0+1 then[.v (.int .u32 (y:Int))].getD (j'-0) .any else(fun i' j'=>if i'=p/\0<=j'/\j'<0+1 then[.v (.int .u32 (z:Int))].getD (j'-0) .any else(jb L) i' j') i' j') (.row false T n' 1 (jb L')):=by
 subst hs;refine .row hn fun i j _ hj=>?_
 obtain rfl:j=0:= ae ;refine⟨.iS ?_,rfl⟩;by_cases h1:i=q
 .subst h1
  rw[aR ⟨rfl,ae,ae⟩];show E.v (.int .u32 (y:Int))=E.v (.int .u32 ((((L.set p z).set i y).getD i 0:Nat):Int));rw[Fp.Ln (by rw[cv];exact hq)]
 .rw [aQ (fun k=>h1 k.1)]
  by_cases h:i=p
  .subst h
   show(if i=i/\0<=0/\0<0+1 then _ else _)=E.v (.int .u32 ((((L.set i z).set q y).getD i 0:Nat):Int));rw[aR ⟨rfl,ae,ae⟩,Fp.uN (fun k=>h1 k.symm),Fp.Ln hp];rfl
  .show (if i=p/\0<=0/\0<0+1 then _ else E.v (.int .u32 (L.getD i 0:Int)))=E.v (.int .u32 ((((L.set p z).set q y).getD i 0:Nat):Int))
   rw[aQ (fun k=>h k.1),Fp.uN (fun k=>h1 k.symm),Fp.uN (fun k=>h k.symm)]
open Go.RowKit Fp Pu
def VO(L:List Nat)(n:Nat)(x:Nat):PS:=⟨60,false,[(6,.e (iP x)),(5,.own 16),(0,.e (gX (ij L))),(1,.e (iP n))],[(16,.row false 79 (n/32+(ij L).length+1) 1 (jb (iJ ((val ((ij L).take x))*2^n) (n/32+(ij L).length+1))))]⟩
theorem ah8(L:List Nat)(n:Nat)(hL:iC L)(h1:L.length<=10000)(hn:n<=1000000):gV 199 [(gX L),(iP n)] (gX (gU (val L*2^n))):=by
 have tl:=oG L;unfold lQ at tl;have od:val ((ij L).take (ij L).length)*2^n<4294967296^(n/32+(ij L).length+1):=by
  rw[fg,cE,aV,a7];have h1:=lY hL.ij;have h2:2^n<=4294967296^(n/32)*4294967296:=by
   rw[nD,show(4294967296:Nat)=2^32 by rfl,<-aV];exact bh ag ae 
  rw[aZ,cD,a7];refine anb h1 h2 (by exact eC (pw _) ag)
 exact tr false Tryz.call199 Tryz.func199 (chain [.cf (xw _ af ay:vw 195 [(gX L)] _),.a (ae:0<(32:Int)),iq ((n:Int)) ae,
  iq ((((n/32):Nat):Int)+((ij L).length:Int)) ae,iq (((((n/32)+(ij L).length):Nat):Int)+1) ae,.a (ae:0<=((((((n/32)+(ij L).length)+1):Nat):Int):Int)/\((((((n/32)+(ij L).length)+1):Nat):Int):Int)<=((((((n/32)+(ij L).length)+1):Nat):Int):Int)),.a (ae:((4:Nat):Int)*(((((n/32)+(ij L).length)+1):Nat):Int)<=281474976710656/\((((((n/32)+(ij L).length)+1):Nat):Int):Int)<=9223372036854775807),.s (Sp.jv (VO L n) 0 ((ij L).length) ae (fun x hx kf=>by
    have LL:=hL.ij.getD x;have hr:n%32<32:=bg _ ag;have iD:(val ((ij L).take x))<4294967296^x:=by
     have:=lY (hL.ij.take x);rw[bZ,cR ae]at this;exact this
    obtain⟨ho,tV⟩:=aki (n:=n) LL (O:=(iJ ((val ((ij L).take x))*2^n) (n/32+(ij L).length+1))) rfl iD (m:=(n/32+(ij L).length+1)) ae;rw[<-uy]at tV;have hu:(((ij L).getD x 0)*2^(n%32))/4294967296<4294967296:=by
     have:=akg LL hr;omega
    rw[<-bu hu]at tV;exact iB (chain [tT 20 ((x:Int)<((ij L).length:Int)) ae,iX ((x:Int)) ((ij L).length) ae,.o 27 (.int (px _ ae):PV.le (.e (.v (.int .u64 (IntKind.u64.wrap ((((ij L).getD x 0):Nat):Int))))) (.e (.v (.int .u64 ((((ij L).getD x 0):Nat):Int))))),.a (ae:0<(32:Int)),.a (ae:0<=((((n%32):Nat):Int):Int)/\((((n%32):Nat):Int):Int)<=((64:Nat):Int)),.o 30 (.int (akh _ _ LL hr):PV.le (.e (.v (.int .u64 (IntKind.u64.wrap (((((ij L).getD x 0):Nat):Int)*2^(n%32)))))) (.e (.v (.int .u64 (((((ij L).getD x 0)*2^(n%32)):Nat):Int))))),.a (ae:0<(32:Int)),iq ((n:Int)) ae,iq ((x:Int)+(((n/32):Nat):Int)) ae,.a (ae:0<(32:Int)),iq ((n:Int)) ae,
     iq ((x:Int)+(((n/32):Nat):Int)) ae,iX ((((x+(n/32)):Nat):Int)) ((n/32+(ij L).length+1)) ae,.a (ae:(x+(n/32))<(n/32+(ij L).length+1)),.o 44 (.int (DH _ ae):PV.le (.e (.v (.int .u64 (bits .and .u64 (((((ij L).getD x 0)*2^(n%32)):Nat):Int) 4294967295)))) (.e (.v (.int .u64 ((((((ij L).getD x 0)*2^(n%32))%4294967296):Nat):Int))))),.o 45 (.int (uq _):PV.le (.e (.v (.int .u32 (IntKind.u32.wrap ((((((ij L).getD x 0)*2^(n%32))%4294967296):Nat):Int))))) (.e (.v (.int .u32 (((((((ij L).getD x 0)*2^(n%32))%4294967296)%4294967296):Nat):Int))))),.o 46 (.int (ahw _ _ _ hr ho):PV.le (.e (.v (.int .u32 (bits .or .u32 ((((iJ ((val ((ij L).take x))*2^n) (n/32+(ij L).length+1)).getD (x+(n/32)) 0):Nat):Int) (((((((ij L).getD x 0)*2^(n%32))%4294967296)%4294967296):Nat):Int))))) (.e (.v (.int .u32 (((((iJ ((val ((ij L).take x))*2^n) (n/32+(ij L).length+1)).getD (x+(n/32)) 0)+((((ij L).getD x 0)*2^(n%32))%4294967296)):Nat):Int))))),
     iX ((((x+(n/32)):Nat):Int)) ((n/32+(ij L).length+1)) ae,.a (ae:(x+(n/32))<(n/32+(ij L).length+1)),.a (ae:0<(32:Int)),iq ((n:Int)) ae,
     iq ((x:Int)+(((n/32):Nat):Int)) ae,iq ((((x+(n/32)):Nat):Int)+1) ae,.a (ae:0<=(32:Int)/\(32:Int)<=((64:Nat):Int)),.o 55 (.int (BZ _):PV.le (.e (.v (.int .u64 ((((((ij L).getD x 0)*2^(n%32)):Nat):Int)/2^32)))) (.e (.v (.int .u64 ((((((ij L).getD x 0)*2^(n%32))/4294967296):Nat):Int))))),.o 56 (.int (uq _):PV.le (.e (.v (.int .u32 (IntKind.u32.wrap ((((((ij L).getD x 0)*2^(n%32))/4294967296):Nat):Int))))) (.e (.v (.int .u32 (((((((ij L).getD x 0)*2^(n%32))/4294967296)%4294967296):Nat):Int))))),
     iX (((((x+(n/32))+1):Nat):Int)) ((n/32+(ij L).length+1)) ae,.a (ae:((x+(n/32))+1)<(n/32+(ij L).length+1)),iq ((x:Int)+1) ae]<|.e (chain [.b 16 (ajQ rfl (by rw[mC];omega) (by rw[mC];omega) tV:Bx.le (.row false 79 (n/32+(ij L).length+1) 1 (fun i' j'=>if i'=((x+(n/32))+1)/\0<=j'/\j'<0+1 then[(.v (.int .u32 (((((((ij L).getD x 0)*2^(n%32))/4294967296)%4294967296):Nat):Int)))].getD (j'-0) .any else(fun i' j'=>if i'=(x+(n/32))/\0<=j'/\j'<0+1 then[(.v (.int .u32 (((((iJ ((val ((ij L).take x))*2^n) (n/32+(ij L).length+1)).getD (x+(n/32)) 0)+((((ij L).getD x 0)*2^(n%32))%4294967296)):Nat):Int)))].getD (j'-0) .any else(jb (iJ ((val ((ij L).take x))*2^n) (n/32+(ij L).length+1))) i' j') i' j')) (.row false 79 (n/32+(ij L).length+1) 1 (jb (iJ ((val ((ij L).take (x+1)))*2^n) (n/32+(ij L).length+1)))))]<|.nil)) ah)
  (fun hx=>by
    exact iB (chain [tF 20 (((ij L).length:Int)<((ij L).length:Int)) ae,.z 16]<|.e (chain [.o 5 (.e (yU (mC _ _).symm):PV.le (.e (.sl false (n/32+(ij L).length+1) 1 (jb (iJ ((val ((ij L).take (ij L).length))*2^n) (n/32+(ij L).length+1))))) (.e (gX (iJ ((val ((ij L).take (ij L).length))*2^n) (n/32+(ij L).length+1)))))]<|.nil)) ah) ak:jq 4 Tryz.f199 (VO L n 0) (.exit 0) ⟨60,false,[(5,.e (gX (iJ ((val ((ij L).take (ij L).length))*2^n) (n/32+(ij L).length+1))))],[]⟩) (chain [.b 16 (FT ae (fun i=>by rw[show val (List.take 0 (ij L))=0 from rfl,ch,GZ]):Bx.le (.row false 79 (((n/32)+(ij L).length)+1) 1 (fun _ j_=>[(.v (.int .u32 0))].getD j_ .any)) (.row false 79 (n/32+(ij L).length+1) 1 (jb (iJ ((val ((ij L).take 0))*2^n) (n/32+(ij L).length+1)))))]<|.nil),.cf (xw _ (rU _ _) ay:vw 195 [(gX (iJ ((val ((ij L).take (ij L).length))*2^n) (n/32+(ij L).length+1)))] _)]<|rQ (gX (ij (iJ ((val ((ij L).take (ij L).length))*2^n) (n/32+(ij L).length+1)))) (gX (gU (val L*2^n))) (by rw[B4 od,fg,oo])) ah 
open Go.RowKit Fp Pu
def VN(L M:List Nat)(n:Nat)(x:Nat):PS:=⟨106,false,[(8,.e (iP ((n:Int)-1-(x:Int)))),(7,.own 23),(6,.own 19),(1,.e (gX (ij M))),(0,.e (gX L))],[(23,.row false 79 ((ij M).length+1) 1 (jb (iJ (iM (val L) (val M) n x) ((ij M).length+1)))),(19,.row false 79 L.length 1 (jb (iJ ((kH (val L) (val M) n x)*2^(n-x)) L.length)))]⟩
def VL(L M:List Nat)(n x:Nat)(k:Nat):PS:=⟨106,false,[(10,.e (iP k)),(9,.e (.v (.int .u32 (lO (iM (val L) (val M) n x) (jf (val L) n x) k:Int)))),(8,.e (iP ((n:Int)-1-(x:Int)))),(7,.own 23),(6,.own 19),(1,.e (gX (ij M))),(0,.e (gX L))],[(23,.row false 79 ((ij M).length+1) 1 (jb (kF (2*(iM (val L) (val M) n x)+(jf (val L) n x)) (iM (val L) (val M) n x) k ((ij M).length+1)))),(19,.row false 79 L.length 1 (jb (iJ ((kH (val L) (val M) n x)*2^(n-x)) L.length)))]⟩
def VM(L M:List Nat)(n x:Nat)(k:Nat):PS:=⟨106,false,[(13,.e (iP k)),(12,.e (.v (.int .u64 (jy ((2*(iM (val L) (val M) n x)+(jf (val L) n x))-val M) (val M) k:Int)))),(8,.e (iP ((n:Int)-1-(x:Int)))),(7,.own 23),(6,.own 19),(1,.e (gX (ij M))),(0,.e (gX L))],[(23,.row false 79 ((ij M).length+1) 1 (jb (kF ((2*(iM (val L) (val M) n x)+(jf (val L) n x))-val M) (2*(iM (val L) (val M) n x)+(jf (val L) n x)) k ((ij M).length+1)))),(19,.row false 79 L.length 1 (jb (iJ ((kH (val L) (val M) n x)*2^(n-x)) L.length)))]⟩
theorem ah6(L M:List Nat)(n:Nat)(hL:iC L)(hM:iC M)(h1:L.length<=10000)(h2:M.length<=10000)(hB:0<val M)(hn:n=ia (val L)):gV 289 [(gX L),(gX M)] (.iw [gX (gU (val L/val M)),gX (gU (val L%val M))]):=by
 have tl:=oG M;unfold lQ at tl;have Hr:=Q5 (a:=val L) (b:=val M) (n:=n) (by rw[hn];exact oM _);have hbn:=P5 hL;have he:=Q1 (val L) (val M) n;have f1:val L/val M*2^(n-n)<4294967296^L.length:=by
  rw[cT,bN,bO];exact bQ (bw _ _) (lY hL)
 have f2:val L%val M<4294967296^((ij M).length+1):=by
  have h1:=lY hM.ij;rw[oo]at h1;refine fk (bg _ hB) (bD h1 (bh ag ae))
 exact tr false Tryz.call289 Tryz.func289 (chain [.cf (xw _ af ay:vw 195 [(gX M)] _),.a (ae:0<=((L.length:Int):Int)/\((L.length:Int):Int)<=((L.length:Int):Int)),.a (ae:((4:Nat):Int)*(L.length:Int)<=281474976710656/\((L.length:Int):Int)<=9223372036854775807),iq (((ij M).length:Int)+1) ae,.a (ae:0<=(((((ij M).length+1):Nat):Int):Int)/\(((((ij M).length+1):Nat):Int):Int)<=(((((ij M).length+1):Nat):Int):Int)),.a (ae:((4:Nat):Int)*((((ij M).length+1):Nat):Int)<=281474976710656/\(((((ij M).length+1):Nat):Int):Int)<=9223372036854775807),.c (VG _ af ae:gV 196 [(gX L)] _),.o 25 (.int (by rw[hn]):PV.le (.e (iP (ia (val L):Int))) (.e (iP n))),iq ((n:Int)-1) ae,.s (Sp.jv (VN L M n) 0 n ae (fun x hx kf=>by
    have Ic:(n-1-x)/32<L.length:=by
     have:=P5 hL;rw[<-hn]at this;omega
    have oc:=G6 (val L) n x;have amx:=hL.getD ((n-1-x)/32);have Bn:L.getD ((n-1-x)/32) 0/2^((n-1-x)%32)<=L.getD ((n-1-x)/32) 0:=bw _ _;have sX:bits .and .u32 ((L.getD ((n-1-x)/32) 0/2^((n-1-x)%32):Nat):Int) 1=(jf (val L) n x:Int):=by
     rw[JO _ ae];have:=Kn hL (n-1-x) Ic;unfold jf;rw[this];simp[aW,Ic]
    have hRl:(iM (val L) (val M) n x)<val M:=bg _ hB;have To:val (iJ (2*(iM (val L) (val M) n x)+(jf (val L) n x)) ((ij M).length+1))=(2*(iM (val L) (val M) n x)+(jf (val L) n x)):=by
     rw[ux,bu];have h1:=lY hM.ij;rw[oo]at h1;rw[aZ];omega
    exact iB (chain [.o 27 (.int ae:PV.le (.e (iP ((n:Int)-1-(x:Int)))) (.e (iP (((n-1-x):Nat):Int)))),tT 28 (0<=(((n-1-x):Nat):Int)) ae,.o 32 (.int ae:PV.le (.e (iP ((n:Int)-1-(x:Int)))) (.e (iP (((n-1-x):Nat):Int)))),.a (ae:0<(32:Int)),iq ((((n-1-x):Nat):Int)) ae,
     iX (((((n-1-x)/32):Nat):Int)) (L.length) ae,.o 36 (.int ae:PV.le (.e (iP ((n:Int)-1-(x:Int)))) (.e (iP (((n-1-x):Nat):Int)))),.a (ae:0<(32:Int)),.a (ae:0<=(((((n-1-x)%32):Nat):Int):Int)/\(((((n-1-x)%32):Nat):Int):Int)<=((32:Nat):Int)),.o 38 (.int (yT _ _):PV.le (.e (.v (.int .u32 ((L.getD ((n-1-x)/32) 0:Int)/2^((n-1-x)%32))))) (.e (.v (.int .u32 ((((L.getD ((n-1-x)/32) 0)/2^((n-1-x)%32)):Nat):Int))))),.o 39 (.int sX:PV.le (.e (.v (.int .u32 (bits .and .u32 ((((L.getD ((n-1-x)/32) 0)/2^((n-1-x)%32)):Nat):Int) 1)))) (.e (.v (.int .u32 (jf (val L) n x:Int))))),.s (Sp.jv (VL L M n x) 0 ((ij M).length+1) ae (fun k hk Ew=>by
    have oc:=G6 (val L) n x;have SG:=GY (r:=(iM (val L) (val M) n x)) oc k;have hdc:=GX (r:=(iM (val L) (val M) n x)) oc k;have tV:(kF (2*(iM (val L) (val M) n x)+(jf (val L) n x)) (iM (val L) (val M) n x) k ((ij M).length+1)).set k (2*iz (iM (val L) (val M) n x) k%4294967296+lO (iM (val L) (val M) n x) (jf (val L) n x) k)=(kF (2*(iM (val L) (val M) n x)+(jf (val L) n x)) (iM (val L) (val M) n x) (k+1) ((ij M).length+1)):=by rw[<-SG.1,IY]
    exact iB (chain [tT 43 ((k:Int)<((((ij M).length+1):Nat):Int)) ae,iX ((k:Int)) (((ij M).length+1)) ae,.a (ae:k<((ij M).length+1)),.o 49 (.int (by rw[E6 ae]):PV.le (.e (.v (.int .u32 ((((kF (2*(iM (val L) (val M) n x)+(jf (val L) n x)) (iM (val L) (val M) n x) k ((ij M).length+1)).getD k 0):Nat):Int)))) (.e (.v (.int .u32 (iz (iM (val L) (val M) n x) k:Int))))),.a (ae:0<=(1:Int)/\(1:Int)<=((32:Nat):Int)),.o 53 (.int (Oh _):PV.le (.e (.v (.int .u32 (IntKind.u32.wrap ((iz (iM (val L) (val M) n x) k:Int)*2^1))))) (.e (.v (.int .u32 (((2*iz (iM (val L) (val M) n x) k%4294967296):Nat):Int))))),.o 55 (.int (Jc _ _ hdc):PV.le (.e (.v (.int .u32 (bits .or .u32 (((2*iz (iM (val L) (val M) n x) k%4294967296):Nat):Int) (lO (iM (val L) (val M) n x) (jf (val L) n x) k:Int))))) (.e (.v (.int .u32 (((2*iz (iM (val L) (val M) n x) k%4294967296+lO (iM (val L) (val M) n x) (jf (val L) n x) k):Nat):Int))))),
     iX ((k:Int)) (((ij M).length+1)) ae,.a (ae:k<((ij M).length+1)),.a (ae:0<=(31:Int)/\(31:Int)<=((32:Nat):Int)),.o 58 (.int (yT _ _):PV.le (.e (.v (.int .u32 ((iz (iM (val L) (val M) n x) k:Int)/2^31)))) (.e (.v (.int .u32 ((((iz (iM (val L) (val M) n x) k)/2^31):Nat):Int))))),iq ((k:Int)+1) ae]<|.e (chain [.o 9 (.int (by rw[SG.2]):PV.le (.e (.v (.int .u32 ((((iz (iM (val L) (val M) n x) k)/2^31):Nat):Int)))) (.e (.v (.int .u32 (lO (iM (val L) (val M) n x) (jf (val L) n x) (k+1):Int))))),.b 23 (Dt rfl aG tV:Bx.le (.row false 79 ((ij M).length+1) 1 (fun i' j'=>if i'=k/\0<=j'/\j'<0+1 then[(.v (.int .u32 (((2*iz (iM (val L) (val M) n x) k%4294967296+lO (iM (val L) (val M) n x) (jf (val L) n x) k):Nat):Int)))].getD (j'-0) .any else(jb (kF (2*(iM (val L) (val M) n x)+(jf (val L) n x)) (iM (val L) (val M) n x) k ((ij M).length+1))) i' j')) (.row false 79 ((ij M).length+1) 1 (jb (kF (2*(iM (val L) (val M) n x)+(jf (val L) n x)) (iM (val L) (val M) n x) (k+1) ((ij M).length+1)))))]<|.nil)) ah)
  (fun hk=>by
    exact iB (chain [tF 43 (((((ij M).length+1):Nat):Int)<((((ij M).length+1):Nat):Int)) ae]<|.e (chain [.b 23 (.iS (by rw[IX (aU _)]):Bx.le (.row false 79 ((ij M).length+1) 1 (jb (kF (2*(iM (val L) (val M) n x)+(jf (val L) n x)) (iM (val L) (val M) n x) ((ij M).length+1) ((ij M).length+1)))) (.row false 79 ((ij M).length+1) 1 (jb (iJ (2*(iM (val L) (val M) n x)+(jf (val L) n x)) ((ij M).length+1)))))]<|.nil)) ah) ak:jq 9 Tryz.f289 (VL L M n x 0) (.exit 2) ⟨106,false,[(8,.e (iP ((n:Int)-1-(x:Int)))),(7,.own 23),(6,.own 19),(1,.e (gX (ij M))),(0,.e (gX L))],[(23,.row false 79 ((ij M).length+1) 1 (jb (iJ (2*(iM (val L) (val M) n x)+(jf (val L) n x)) ((ij M).length+1)))),(19,.row false 79 L.length 1 (jb (iJ ((kH (val L) (val M) n x)*2^(n-x)) L.length)))]⟩) (chain [.o 9 (.int (by rw[KK]):PV.le (.e (.v (.int .u32 (jf (val L) n x:Int)))) (.e (.v (.int .u32 (lO (iM (val L) (val M) n x) (jf (val L) n x) 0:Int))))),.b 23 (.iS (by rw[E7]):Bx.le (.row false 79 ((ij M).length+1) 1 (jb (iJ (iM (val L) (val M) n x) ((ij M).length+1)))) (.row false 79 ((ij M).length+1) 1 (jb (kF (2*(iM (val L) (val M) n x)+(jf (val L) n x)) (iM (val L) (val M) n x) 0 ((ij M).length+1)))))]<|.nil),.c (by rw[AH (show((ij M).length+1)=(iJ (2*(iM (val L) (val M) n x)+(jf (val L) n x)) ((ij M).length+1)).length by first|omega|(simp only[mC,uc];omega)|simp only[mC,uc])];exact(ah7 _ _ (rU _ _) (iC.ij af) (by first|omega|(simp only[mC,uc];omega)|simp only[mC,uc]) (by first|omega|(simp only[mC,uc];omega)|simp only[mC,uc])):gV 318 [(.sl false ((ij M).length+1) 1 (jb (iJ (2*(iM (val L) (val M) n x)+(jf (val L) n x)) ((ij M).length+1)))),(gX (ij M))] (bP (decide ((jY (val (iJ (2*(iM (val L) (val M) n x)+(jf (val L) n x)) ((ij M).length+1))) (val (ij M)))<0))))]<|.w ((2*(iM (val L) (val M) n x)+(jf (val L) n x))<val M)
     (fun Ev=>by
      have nU:jY (val (iJ (2*(iM (val L) (val M) n x)+(jf (val L) n x)) ((ij M).length+1))) (val (ij M))<0:=by rw[To,oo];unfold jY;rw[aR Ev];decide
      have mw:=Q2 hB kf Ev;have g1:=mw.1;have g2:=mw.2;have LM:iJ (2*(iM (val L) (val M) n x)+(jf (val L) n x)) ((ij M).length+1)=iJ (iM (val L) (val M) n (x+1)) ((ij M).length+1):=by rw[g1]
      have aek:(iJ ((kH (val L) (val M) n x)*2^(n-x)) L.length)=(iJ ((kH (val L) (val M) n (x+1))*2^(n-(x+1))) L.length):=by
       rw[g2];congr 1;rw[show n-x=n-(x+1)+1 by omega,aZ,a7 2,bc,a7 2]
      exact chain [tB 61 (aS nU),.o 29 (.int ae:PV.le (.e (iP ((n:Int)-1-(x:Int)))) (.e (iP (((n-1-x):Nat):Int)))),iq ((((n-1-x):Nat):Int)-1) ae]<|.e (chain [.o 8 (.int aw:PV.le (.e (iP ((((n-1-x):Nat):Int)-1))) (.e (iP ((n:Int)-1-(((x+1):Nat):Int))))),.b 23 (.iS (by rw[LM]):Bx.le (.row false 79 ((ij M).length+1) 1 (jb (iJ (2*(iM (val L) (val M) n x)+(jf (val L) n x)) ((ij M).length+1)))) (.row false 79 ((ij M).length+1) 1 (jb (iJ (iM (val L) (val M) n (x+1)) ((ij M).length+1))))),.b 19 (.iS (by rw[aek]):Bx.le (.row false 79 L.length 1 (jb (iJ ((kH (val L) (val M) n x)*2^(n-x)) L.length))) (.row false 79 L.length 1 (jb (iJ ((kH (val L) (val M) n (x+1))*2^(n-(x+1))) L.length))))]<|.nil))
     (fun Ev=>by
      have nU:¬jY (val (iJ (2*(iM (val L) (val M) n x)+(jf (val L) n x)) ((ij M).length+1))) (val (ij M))<0:=by rw[To,oo];unfold jY;rw[aQ Ev];split<;>decide
      have mw:=Q3 hB kf Ev;have g1:=mw.1;have g2:=mw.2;have LM:iJ ((2*(iM (val L) (val M) n x)+(jf (val L) n x))-val M) ((ij M).length+1)=iJ (iM (val L) (val M) n (x+1)) ((ij M).length+1):=by rw[g1]
      have e3:n-x=(n-1-x)+1:= ae ;have e4:n-(x+1)=(n-1-x):= ae ;have hle:=abF (val L) (val M) n x;rw[e3]at hle;have EH:=akb (q:=(kH (val L) (val M) n x)) (i:=(n-1-x)) (m:=L.length) Ic (bQ hle (lY hL));have s2:=EH.2.1;have s3:=EH.2.2;have aeH:(iJ ((kH (val L) (val M) n x)*2^(n-x)) L.length).set ((n-1-x)/32) (iz ((kH (val L) (val M) n x)*2^((n-1-x)+1)) ((n-1-x)/32)+2^((n-1-x)%32))=(iJ ((kH (val L) (val M) n (x+1))*2^(n-(x+1))) L.length):=by rw[e3,s3,g2,e4]
      have iH:((((iJ ((kH (val L) (val M) n x)*2^(n-x)) L.length).getD ((n-1-x)/32) 0):Nat):Int)=(iz ((kH (val L) (val M) n x)*2^((n-1-x)+1)) ((n-1-x)/32):Int):=by rw[e3,sT Ic]
      have s5:bits .or .u32 (iz ((kH (val L) (val M) n x)*2^((n-1-x)+1)) ((n-1-x)/32):Int) (IntKind.u32.wrap (1*2^((n-1-x)%32)))=((iz ((kH (val L) (val M) n x)*2^((n-1-x)+1)) ((n-1-x)/32)+2^((n-1-x)%32):Nat):Int):=by
       refine Exists.elim EH.1 fun t s1=>?_
       rw[s1]at s2 ⊢;exact ahv _ _ (bg _ ag) s2
      exact chain [tB 61 (aT nU),.s (Sp.jv (VM L M n x) 0 ((ij M).length+1) ae (fun k hk Ew=>by
    have ha:=Xz (show val M<=(2*(iM (val L) (val M) n x)+(jf (val L) n x))by omega) k;have hMk:(ij M).getD k 0=iz (val M) k:=by rw[pB hM.ij,oo]
    have aeA:=hM.ij;rw[<-hMk]at ha;have b1:=pA (2*(iM (val L) (val M) n x)+(jf (val L) n x)) k;have b2:=aeA.getD k;have b3:=sR ((2*(iM (val L) (val M) n x)+(jf (val L) n x))-val M) (val M) k;have b5:=sR ((2*(iM (val L) (val M) n x)+(jf (val L) n x))-val M) (val M) (k+1);have b4:=pA ((2*(iM (val L) (val M) n x)+(jf (val L) n x))-val M) k;have hzz:(((iz (2*(iM (val L) (val M) n x)+(jf (val L) n x)) k+4294967296)-(ij M).getD k 0)-(jy ((2*(iM (val L) (val M) n x)+(jf (val L) n x))-val M) (val M) k))%4294967296%4294967296=iz ((2*(iM (val L) (val M) n x)+(jf (val L) n x))-val M) k:= ae ;have hq:1-(((iz (2*(iM (val L) (val M) n x)+(jf (val L) n x)) k+4294967296)-(ij M).getD k 0)-(jy ((2*(iM (val L) (val M) n x)+(jf (val L) n x))-val M) (val M) k))/4294967296=(jy ((2*(iM (val L) (val M) n x)+(jf (val L) n x))-val M) (val M) (k+1)):= ae ;have tV:(kF ((2*(iM (val L) (val M) n x)+(jf (val L) n x))-val M) (2*(iM (val L) (val M) n x)+(jf (val L) n x)) k ((ij M).length+1)).set k ((((iz (2*(iM (val L) (val M) n x)+(jf (val L) n x)) k+4294967296)-(ij M).getD k 0)-(jy ((2*(iM (val L) (val M) n x)+(jf (val L) n x))-val M) (val M) k))%4294967296%4294967296)=(kF ((2*(iM (val L) (val M) n x)+(jf (val L) n x))-val M) (2*(iM (val L) (val M) n x)+(jf (val L) n x)) (k+1) ((ij M).length+1)):=by rw[hzz,IY]
    exact iB (chain [tT 65 ((k:Int)<((((ij M).length+1):Nat):Int)) ae,iX ((k:Int)) (((ij M).length+1)) ae,.a (ae:k<((ij M).length+1)),.o 71 (.int (by rw[E6 ae]):PV.le (.e (.v (.int .u32 ((((kF ((2*(iM (val L) (val M) n x)+(jf (val L) n x))-val M) (2*(iM (val L) (val M) n x)+(jf (val L) n x)) k ((ij M).length+1)).getD k 0):Nat):Int)))) (.e (.v (.int .u32 (iz (2*(iM (val L) (val M) n x)+(jf (val L) n x)) k:Int))))),.o 72 (.int (px _ ae):PV.le (.e (.v (.int .u64 (IntKind.u64.wrap (iz (2*(iM (val L) (val M) n x)+(jf (val L) n x)) k:Int))))) (.e (.v (.int .u64 (iz (2*(iM (val L) (val M) n x)+(jf (val L) n x)) k:Int))))),
     pd ((iz (2*(iM (val L) (val M) n x)+(jf (val L) n x)) k:Int)+4294967296) ae,.c (yN _ _ (iC.ij af):gV 231 [(gX (ij M)),(iP k)] _),
     pd (((((iz (2*(iM (val L) (val M) n x)+(jf (val L) n x)) k)+4294967296):Nat):Int)-((((ij M).getD k 0):Nat):Int)) ae,.o 77 (.int ae:PV.le (.e (.v (.int .u64 (((((iz (2*(iM (val L) (val M) n x)+(jf (val L) n x)) k)+4294967296):Nat):Int)-((((ij M).getD k 0):Nat):Int))))) (.e (.v (.int .u64 ((((iz (2*(iM (val L) (val M) n x)+(jf (val L) n x)) k+4294967296)-(ij M).getD k 0):Nat):Int))))),
     pd (((((iz (2*(iM (val L) (val M) n x)+(jf (val L) n x)) k+4294967296)-(ij M).getD k 0):Nat):Int)-(jy ((2*(iM (val L) (val M) n x)+(jf (val L) n x))-val M) (val M) k:Int)) ae,.o 79 (.int ae:PV.le (.e (.v (.int .u64 (((((iz (2*(iM (val L) (val M) n x)+(jf (val L) n x)) k+4294967296)-(ij M).getD k 0):Nat):Int)-(jy ((2*(iM (val L) (val M) n x)+(jf (val L) n x))-val M) (val M) k:Int))))) (.e (.v (.int .u64 (((((iz (2*(iM (val L) (val M) n x)+(jf (val L) n x)) k+4294967296)-(ij M).getD k 0)-(jy ((2*(iM (val L) (val M) n x)+(jf (val L) n x))-val M) (val M) k)):Nat):Int))))),.o 83 (.int (DH _ ae):PV.le (.e (.v (.int .u64 (bits .and .u64 (((((iz (2*(iM (val L) (val M) n x)+(jf (val L) n x)) k+4294967296)-(ij M).getD k 0)-(jy ((2*(iM (val L) (val M) n x)+(jf (val L) n x))-val M) (val M) k)):Nat):Int) 4294967295)))) (.e (.v (.int .u64 ((((((iz (2*(iM (val L) (val M) n x)+(jf (val L) n x)) k+4294967296)-(ij M).getD k 0)-(jy ((2*(iM (val L) (val M) n x)+(jf (val L) n x))-val M) (val M) k))%4294967296):Nat):Int))))),.o 84 (.int (uq _):PV.le (.e (.v (.int .u32 (IntKind.u32.wrap ((((((iz (2*(iM (val L) (val M) n x)+(jf (val L) n x)) k+4294967296)-(ij M).getD k 0)-(jy ((2*(iM (val L) (val M) n x)+(jf (val L) n x))-val M) (val M) k))%4294967296):Nat):Int))))) (.e (.v (.int .u32 (((((((iz (2*(iM (val L) (val M) n x)+(jf (val L) n x)) k+4294967296)-(ij M).getD k 0)-(jy ((2*(iM (val L) (val M) n x)+(jf (val L) n x))-val M) (val M) k))%4294967296)%4294967296):Nat):Int))))),
     iX ((k:Int)) (((ij M).length+1)) ae,.a (ae:k<((ij M).length+1)),.a (ae:0<=(32:Int)/\(32:Int)<=((64:Nat):Int)),.o 87 (.int (BZ _):PV.le (.e (.v (.int .u64 ((((((iz (2*(iM (val L) (val M) n x)+(jf (val L) n x)) k+4294967296)-(ij M).getD k 0)-(jy ((2*(iM (val L) (val M) n x)+(jf (val L) n x))-val M) (val M) k)):Nat):Int)/2^32)))) (.e (.v (.int .u64 ((((((iz (2*(iM (val L) (val M) n x)+(jf (val L) n x)) k+4294967296)-(ij M).getD k 0)-(jy ((2*(iM (val L) (val M) n x)+(jf (val L) n x))-val M) (val M) k))/4294967296):Nat):Int))))),
     pd (1-((((((iz (2*(iM (val L) (val M) n x)+(jf (val L) n x)) k+4294967296)-(ij M).getD k 0)-(jy ((2*(iM (val L) (val M) n x)+(jf (val L) n x))-val M) (val M) k))/4294967296):Nat):Int)) ae,.o 88 (.int ae:PV.le (.e (.v (.int .u64 (1-((((((iz (2*(iM (val L) (val M) n x)+(jf (val L) n x)) k+4294967296)-(ij M).getD k 0)-(jy ((2*(iM (val L) (val M) n x)+(jf (val L) n x))-val M) (val M) k))/4294967296):Nat):Int))))) (.e (.v (.int .u64 (((1-((((iz (2*(iM (val L) (val M) n x)+(jf (val L) n x)) k+4294967296)-(ij M).getD k 0)-(jy ((2*(iM (val L) (val M) n x)+(jf (val L) n x))-val M) (val M) k))/4294967296)):Nat):Int))))),
     iq ((k:Int)+1) ae]<|.e (chain [.o 12 (.int (by rw[hq]):PV.le (.e (.v (.int .u64 (((1-((((iz (2*(iM (val L) (val M) n x)+(jf (val L) n x)) k+4294967296)-(ij M).getD k 0)-(jy ((2*(iM (val L) (val M) n x)+(jf (val L) n x))-val M) (val M) k))/4294967296)):Nat):Int)))) (.e (.v (.int .u64 (jy ((2*(iM (val L) (val M) n x)+(jf (val L) n x))-val M) (val M) (k+1):Int))))),.b 23 (Dt rfl aG tV:Bx.le (.row false 79 ((ij M).length+1) 1 (fun i' j'=>if i'=k/\0<=j'/\j'<0+1 then[(.v (.int .u32 (((((((iz (2*(iM (val L) (val M) n x)+(jf (val L) n x)) k+4294967296)-(ij M).getD k 0)-(jy ((2*(iM (val L) (val M) n x)+(jf (val L) n x))-val M) (val M) k))%4294967296)%4294967296):Nat):Int)))].getD (j'-0) .any else(jb (kF ((2*(iM (val L) (val M) n x)+(jf (val L) n x))-val M) (2*(iM (val L) (val M) n x)+(jf (val L) n x)) k ((ij M).length+1))) i' j')) (.row false 79 ((ij M).length+1) 1 (jb (kF ((2*(iM (val L) (val M) n x)+(jf (val L) n x))-val M) (2*(iM (val L) (val M) n x)+(jf (val L) n x)) (k+1) ((ij M).length+1)))))]<|.nil)) ah)
  (fun hk=>by
    exact iB (chain [tF 65 (((((ij M).length+1):Nat):Int)<((((ij M).length+1):Nat):Int)) ae]<|.e (chain [.b 23 (.iS (by rw[IX (aU _)]):Bx.le (.row false 79 ((ij M).length+1) 1 (jb (kF ((2*(iM (val L) (val M) n x)+(jf (val L) n x))-val M) (2*(iM (val L) (val M) n x)+(jf (val L) n x)) ((ij M).length+1) ((ij M).length+1)))) (.row false 79 ((ij M).length+1) 1 (jb (iJ ((2*(iM (val L) (val M) n x)+(jf (val L) n x))-val M) ((ij M).length+1)))))]<|.nil)) ah) ak:jq 17 Tryz.f289 (VM L M n x 0) (.exit 4) ⟨106,false,[(8,.e (iP ((n:Int)-1-(x:Int)))),(7,.own 23),(6,.own 19),(1,.e (gX (ij M))),(0,.e (gX L))],[(23,.row false 79 ((ij M).length+1) 1 (jb (iJ ((2*(iM (val L) (val M) n x)+(jf (val L) n x))-val M) ((ij M).length+1)))),(19,.row false 79 L.length 1 (jb (iJ ((kH (val L) (val M) n x)*2^(n-x)) L.length)))]⟩) (chain [.o 12 (.int (by rw[GP];rfl):PV.le (.e (.v (.int .u64 0))) (.e (.v (.int .u64 (jy ((2*(iM (val L) (val M) n x)+(jf (val L) n x))-val M) (val M) 0:Int))))),.b 23 (.iS (by rw[E7]):Bx.le (.row false 79 ((ij M).length+1) 1 (jb (iJ (2*(iM (val L) (val M) n x)+(jf (val L) n x)) ((ij M).length+1)))) (.row false 79 ((ij M).length+1) 1 (jb (kF ((2*(iM (val L) (val M) n x)+(jf (val L) n x))-val M) (2*(iM (val L) (val M) n x)+(jf (val L) n x)) 0 ((ij M).length+1)))))]<|.nil),.o 90 (.int ae:PV.le (.e (iP ((n:Int)-1-(x:Int)))) (.e (iP (((n-1-x):Nat):Int)))),.a (ae:0<(32:Int)),iq ((((n-1-x):Nat):Int)) ae,.o 93 (.int ae:PV.le (.e (iP ((n:Int)-1-(x:Int)))) (.e (iP (((n-1-x):Nat):Int)))),.a (ae:0<(32:Int)),iq ((((n-1-x):Nat):Int)) ae,
       iX (((((n-1-x)/32):Nat):Int)) (L.length) ae,.a (ae:((n-1-x)/32)<L.length),.o 96 (.int iH:PV.le (.e (.v (.int .u32 ((((iJ ((kH (val L) (val M) n x)*2^(n-x)) L.length).getD ((n-1-x)/32) 0):Nat):Int)))) (.e (.v (.int .u32 (iz ((kH (val L) (val M) n x)*2^((n-1-x)+1)) ((n-1-x)/32):Int))))),.o 97 (.int ae:PV.le (.e (iP ((n:Int)-1-(x:Int)))) (.e (iP (((n-1-x):Nat):Int)))),.a (ae:0<(32:Int)),.a (ae:0<=(((((n-1-x)%32):Nat):Int):Int)/\(((((n-1-x)%32):Nat):Int):Int)<=((32:Nat):Int)),.o 100 (.int s5:PV.le (.e (.v (.int .u32 (bits .or .u32 (iz ((kH (val L) (val M) n x)*2^((n-1-x)+1)) ((n-1-x)/32):Int) (IntKind.u32.wrap (1*2^((n-1-x)%32))))))) (.e (.v (.int .u32 (((iz ((kH (val L) (val M) n x)*2^((n-1-x)+1)) ((n-1-x)/32)+2^((n-1-x)%32)):Nat):Int))))),
       iX (((((n-1-x)/32):Nat):Int)) (L.length) ae,.a (ae:((n-1-x)/32)<L.length),.o 29 (.int ae:PV.le (.e (iP ((n:Int)-1-(x:Int)))) (.e (iP (((n-1-x):Nat):Int)))),
       iq ((((n-1-x):Nat):Int)-1) ae]<|.e (chain [.o 8 (.int aw:PV.le (.e (iP ((((n-1-x):Nat):Int)-1))) (.e (iP ((n:Int)-1-(((x+1):Nat):Int))))),.b 23 (.iS (by rw[LM]):Bx.le (.row false 79 ((ij M).length+1) 1 (jb (iJ ((2*(iM (val L) (val M) n x)+(jf (val L) n x))-val M) ((ij M).length+1)))) (.row false 79 ((ij M).length+1) 1 (jb (iJ (iM (val L) (val M) n (x+1)) ((ij M).length+1))))),.b 19 (Dt rfl (by rw[mC];omega) aeH:Bx.le (.row false 79 L.length 1 (fun i' j'=>if i'=((n-1-x)/32)/\0<=j'/\j'<0+1 then[(.v (.int .u32 (((iz ((kH (val L) (val M) n x)*2^((n-1-x)+1)) ((n-1-x)/32)+2^((n-1-x)%32)):Nat):Int)))].getD (j'-0) .any else(jb (iJ ((kH (val L) (val M) n x)*2^(n-x)) L.length)) i' j')) (.row false 79 L.length 1 (jb (iJ ((kH (val L) (val M) n (x+1))*2^(n-(x+1))) L.length))))]<|.nil))) ah)
  (fun hx=>by
    exact iB (chain [tF 28 (0<=((n:Int)-1-(n:Int))) ae,.z 19,.z 23]<|.e (chain [.o 7 (.e (yU (mC _ _).symm):PV.le (.e (.sl false ((ij M).length+1) 1 (jb (iJ (iM (val L) (val M) n n) ((ij M).length+1))))) (.e (gX (iJ (iM (val L) (val M) n n) ((ij M).length+1))))),.o 6 (.e (yU (mC _ _).symm):PV.le (.e (.sl false L.length 1 (jb (iJ ((kH (val L) (val M) n n)*2^(n-n)) L.length)))) (.e (gX (iJ ((kH (val L) (val M) n n)*2^(n-n)) L.length))))]<|.nil)) ah) ak:jq 5 Tryz.f289 (VN L M n 0) (.exit 0) ⟨106,false,[(7,.e (gX (iJ (iM (val L) (val M) n n) ((ij M).length+1)))),(6,.e (gX (iJ ((kH (val L) (val M) n n)*2^(n-n)) L.length)))],[]⟩) (chain [.o 8 (.int aw:PV.le (.e (iP ((n:Int)-1))) (.e (iP ((n:Int)-1-((0:Nat):Int))))),.b 23 (FT rfl (fun i=>by rw[Hr.1,GZ]):Bx.le (.row false 79 ((ij M).length+1) 1 (fun _ j_=>[(.v (.int .u32 0))].getD j_ .any)) (.row false 79 ((ij M).length+1) 1 (jb (iJ (iM (val L) (val M) n 0) ((ij M).length+1))))),.b 19 (FT rfl (fun i=>by rw[Hr.2,ch,GZ]):Bx.le (.row false 79 L.length 1 (fun _ j_=>[(.v (.int .u32 0))].getD j_ .any)) (.row false 79 L.length 1 (jb (iJ ((kH (val L) (val M) n 0)*2^(n-0)) L.length))))]<|.nil),.cf (xw _ (rU _ _) ay:vw 195 [(gX (iJ ((kH (val L) (val M) n n)*2^(n-n)) L.length))] _),.cf (xw _ (rU _ _) ay:vw 195 [(gX (iJ (iM (val L) (val M) n n) ((ij M).length+1)))] _)]<|rQ (.iw [(gX (ij (iJ ((kH (val L) (val M) n n)*2^(n-n)) L.length))),(gX (ij (iJ (iM (val L) (val M) n n) ((ij M).length+1))))]) (.iw [gX (gU (val L/val M)),gX (gU (val L%val M))]) (by rw[he.1,he.2,B4 f1,B4 f2,cT,bN,bO])) ah 
open Go.RowKit Fp Pu
theorem aid(m:Nat)(h:(gU m).length<=10000):gV 195 [gX (gU m)] (gX (gU m)):=by
 have:=(xw (gU m) (kB m) ae).pc;rwa[show ij (gU m)=gU m from tn m]at this
theorem Dj(m:Nat)(h:(gU m).length<=10000):gV 196 [gX (gU m)] (iP (ia m)):=by
 have:=VG (gU m) (kB m) ae;rwa[jC]at this
theorem ah1(m n:Nat)(h:(gU m).length<=10000)(k:(gU n).length<=10000):gV 198 [gX (gU m),gX (gU n)] (iP (jY m n)):=by
 have:=VK (gU m) (gU n) (kB m) (kB n) ae ae;rwa[jC,jC]at this
theorem NI(m n:Nat)(h:(gU m).length<=10000)(k:(gU n).length<=10000):gV 200 [gX (gU m),gX (gU n)] (gX (gU (m+n))):=by
 have:=ahY (gU m) (gU n) (kB m) (kB n) ae ae;rwa[jC,jC]at this
theorem aib(m n:Nat)(h:(gU m).length<=10000)(k:n<=m):gV 232 [gX (gU m),gX (gU n)] (gX (gU (m-n))):=by
 have:=aic (gU m) (gU n) (kB m) (kB n) ae (by rw[jC,jC];exact k);rwa[jC,jC]at this
theorem NJ(m n:Nat)(h:(gU m).length<=10000)(k:n<=1000000):gV 199 [gX (gU m),iP (n:Int)] (gX (gU (m*2^n))):=by
 have:=ah8 (gU m) n (kB m) ae ae;rwa[jC]at this
theorem ah9(m n:Nat)(h:(gU m).length<=10000)(k:n<=1000000):gV 197 [gX (gU m),iP (n:Int)] (gX (gU (m/2^n))):=by
 have:=aia (gU m) n (kB m) ae ae;rwa[jC]at this
theorem ah5(m n:Nat)(h:(gU m).length<=10000)(k:(gU n).length<=10000)(h0:0<n):gV 289 [gX (gU m),gX (gU n)] (.iw [gX (gU (m/n)),gX (gU (m%n))]):=by
 have:=ah6 (gU m) (gU n) _ (kB m) (kB n) ae ae (by rw[jC];exact h0) rfl;rwa[jC,jC]at this
theorem aio(neg:Bool)(p:Nat)(il:8<=p)(ic:p<=512):gV 201 [(bP neg),(iP p)] (gY (canon neg (2^p-1) (16384-(p:Int)))):=by
 have g0:ia (1*2^p)=p+1:=by rw[bJ];exact uD (aU _) (et ag ae)
 have g1:(gU 1).length<=256:=ng ag;have g2:(gU (1*2^p)).length<=256:=ng ae;have g4:1<=1*2^p:=by rw[bJ];exact aY ag 
 have g3:(gU ((1*2^p)-1)).length<=256:=ng (by have:=sQ (dj (1*2^p) 1);omega);exact tr true Tryz.call201 Tryz.func201 (chain [.o 6 (.e rN:PV.le (.e (.sl false 1 1 fun i_ j_=>[(.v (.int .u32 1))].getD (i_*1+j_) (.v (.bool false)))) (.e (gX (gU 1)))),.c (NJ _ _ ae ae:gV 199 [(gX (gU 1)),(iP p)] _),.o 9 (.e rN:PV.le (.e (.sl false 1 1 fun i_ j_=>[(.v (.int .u32 1))].getD (i_*1+j_) (.v (.bool false)))) (.e (gX (gU 1)))),.c (aib _ _ ae af:gV 232 [(gX (gU (1*2^p))),(gX (gU 1))] _),iq (16384-(p:Int)) ae,.c (Dq _ _ _ ae ae ae:gV 76 [(bP neg),(gX (gU ((1*2^p)-1))),(iP (16384-(p:Int)))] _)]<|rQ (gY (canon neg ((1*2^p)-1) (16384-(p:Int)))) (gY (canon neg (2^p-1) (16384-(p:Int)))) (by rw[bJ])) ah 
noncomputable def At(neg:Bool)(m:Nat)(e:Int)(more:Bool)(p:Nat)(up:Bool)(h1:(gU m).length<=2900)(kQ:-200000<=e)(kx:e<=200000)(il:8<=p)(ic:p<=512)(Q:Nat)(U:Bool)(hq:kD m e more p (neg != up)=Q)(hU:U=(neg != up))(hl:(gU Q).length<=2901):Tr Tryz.prog Tb:=by
 have hb:=vD h1;have oe:ja m e p<=1000000:=by unfold ja;omega
 have sD:(ja m e p:Int)<=max (ia m:Int) (-16384-e):=by unfold ja;omega
 have g4:=vD hl;exact chain [.c (Dj _ ae:gV 196 [(gX (gU Q))] _)]<|.w (0<(ia Q:Int))
  (fun k1=>chain [tB 53 (aS k1),.c (Dj _ ae:gV 196 [(gX (gU Q))] _),iq ((ia Q:Int)+e) ae,iq (((ia Q:Int)+e)+(ja m e p:Int)) ae]<|.w (16384<(((ia Q:Int)+e)+(ja m e p:Int)))
   (fun k2=>chain [tB 61 (aS k2)]<|.w (U=true)
    (fun k3=>chain [tB 63 (k3),.o 64 (.e vu:PV.le (.e (.agg [(bP false),(.v (.slice none 0 0)),(iP 0)])) (.e (gY jx)))]<|rR (.iw [gY (jP neg m e more p up),iP (jG neg m e more p up)]) (by
      have h0:Q≠0:=by intro h;rw[h]at k1;exact absurd k1 ag 
      obtain⟨g1,g2⟩:=(QK (e:=e) hq h0 ae).1 (by rw[<-hU];simp[k3]);exact .iS (by rw[g1,g2]):E.le (.iw [(gY jx),(iP 9)]) (.iw [gY (jP neg m e more p up),iP (jG neg m e more p up)])))
    (fun k3=>chain [tB 63 (aM k3),.c (aio neg p ae ae)]<|rR (.iw [gY (jP neg m e more p up),iP (jG neg m e more p up)]) (by
      have h0:Q≠0:=by intro h;rw[h]at k1;exact absurd k1 ag 
      obtain⟨g1,g2⟩:=(QK (e:=e) hq h0 ae).2 (by rw[<-hU];simp[k3]);exact .iS (by rw[g1,g2]):E.le (.iw [(gY (canon neg (2^p-1) (16384-(p:Int)))),(iP 0)]) (.iw [gY (jP neg m e more p up),iP (jG neg m e more p up)]))))
   (fun k2=>chain [tB 61 (aT k2),iq (e+(ja m e p:Int)) ae,.c (Dq _ _ _ ae ae ae:gV 76 [(bP neg),(gX (gU Q)),(iP (e+(ja m e p:Int)))] _)]<|rR (.iw [gY (jP neg m e more p up),iP (jG neg m e more p up)]) (by
      obtain⟨g1,g2⟩:=QI (e:=e) hq (.inr ae);exact .iS (by rw[g1,g2]):E.le (.iw [(gY (canon neg Q (e+(ja m e p:Int)))),(iP 0)]) (.iw [gY (jP neg m e more p up),iP (jG neg m e more p up)]))))
  (fun k1=>chain [tB 53 (aT k1),iq (e+(ja m e p:Int)) ae,.c (Dq _ _ _ ae ae ae:gV 76 [(bP neg),(gX (gU Q)),(iP (e+(ja m e p:Int)))] _)]<|rR (.iw [gY (jP neg m e more p up),iP (jG neg m e more p up)]) (by
      have h0:Q=0:=by
       apply bE;intro h;have:=mR h;omega
      obtain⟨g1,g2⟩:=QI (e:=e) hq (.inl h0);exact .iS (by rw[g1,g2]):E.le (.iw [(gY (canon neg Q (e+(ja m e p:Int)))),(iP 0)]) (.iw [gY (jP neg m e more p up),iP (jG neg m e more p up)])))
theorem VY(neg:Bool)(m:Nat)(e:Int)(more:Bool)(p:Nat)(up:Bool)(h1:(gU m).length<=2900)(kQ:-200000<=e)(kx:e<=200000)(il:8<=p)(ic:p<=512):gV 162 [(bP neg),(gX (gU m)),(iP e),(bP more),(iP p),(bP up)] (.iw [gY (jP neg m e more p up),iP (jG neg m e more p up)]):=by
 have hb:=vD h1;have oe:ja m e p<=1000000:=by unfold ja;omega
 have sD:(ja m e p:Int)<=max (ia m:Int) (-16384-e):=by unfold ja;omega
 have g1:=lW (bw m (2^ja m e p));have g2:=lW (cN m (2^ja m e p));have l1:(gU 1).length<=256:=ng ag;have g3:(gU ((m/2^ja m e p)+1)).length<=2901:=Ug ae ae;have g5:=vD (m:=m/2^ja m e p) (aX g1 h1);exact tr true Tryz.call162 Tryz.func162 (chain [.c (aid _ ae:gV 195 [(gX (gU m))] _),.c (Dj _ ae:gV 196 [(gX (gU m))] _),iq ((ia m:Int)-(p:Int)) ae,iq ((-16384)-e) ae,.o 27 (.int (by unfold ja;(repeat' split)<;>omega):PV.le (.e (iP (if 0>(if((-16384)-e)>((ia m:Int)-(p:Int))then((-16384)-e)else((ia m:Int)-(p:Int)))then 0 else(if((-16384)-e)>((ia m:Int)-(p:Int))then((-16384)-e)else((ia m:Int)-(p:Int)))))) (.e (iP (ja m e p:Int)))),.c (ah9 _ _ ae ae:gV 197 [(gX (gU m)),(iP (ja m e p:Int))] _)]<|.w (0<(ja m e p:Int))
  (fun k1=>chain [tB 32 (aS k1),.c (NJ _ _ ae ae:gV 199 [(gX (gU (m/2^(ja m e p)))),(iP (ja m e p:Int))] _),.c (ah1 _ _ ae ae:gV 198 [(gX (gU ((m/2^(ja m e p))*2^(ja m e p)))),(gX (gU m))] _)]<|.w ((jY ((m/2^(ja m e p))*2^(ja m e p)) m)=0)
   (fun k2=>by
    have iH:m%2^(ja m e p)=0:=(Uv _ _).1 k2;exact chain [tB 39 (aO k2)]<|.w (more=true)
     (fun k3=>.w (neg=up)
      (fun k4=>chain [tB 43 (uG (aK k4)),tB 44 (k3)]<|At neg m e more p up h1 kQ kx il ic (m/2^(ja m e p)) false (by unfold kD;simp[k3,k4,iH]) (by first|rfl|simp[k3,k4,iH]) ae)
      (fun k4=>chain [tB 43 (uF (aJ k4)),tB 44 (k3),.o 49 (.e rN:PV.le (.e (.sl false 1 1 fun i_ j_=>[(.v (.int .u32 1))].getD (i_*1+j_) (.v (.bool false)))) (.e (gX (gU 1)))),.c (NI _ _ ae ae:gV 200 [(gX (gU (m/2^(ja m e p)))),(gX (gU 1))] _)]<|At neg m e more p up h1 kQ kx il ic ((m/2^(ja m e p))+1) true (by unfold kD;simp[k3,k4,iH]) (by first|rfl|simp[k3,k4,iH]) ae))
     (fun k3=>chain [tB 44 (aM k3)]<|At neg m e more p up h1 kQ kx il ic (m/2^(ja m e p)) (!(neg==up)) (by unfold kD;simp[k3,iH]) (by first|rfl|simp[k3,iH]) ae))
   (fun k2=>by
    have iH:m%2^(ja m e p)≠0:=fun h=>k2 ((Uv _ _).2 h)
    exact chain [tB 39 (aP k2)]<|.w (neg=up)
     (fun k3=>chain [tB 43 (uG (aK k3))]<|At neg m e more p up h1 kQ kx il ic (m/2^(ja m e p)) false (by unfold kD;simp[k3,iH]) (by first|rfl|simp[k3,iH]) ae)
     (fun k3=>chain [tB 43 (uF (aJ k3)),.o 49 (.e rN:PV.le (.e (.sl false 1 1 fun i_ j_=>[(.v (.int .u32 1))].getD (i_*1+j_) (.v (.bool false)))) (.e (gX (gU 1)))),.c (NI _ _ ae ae:gV 200 [(gX (gU (m/2^(ja m e p)))),(gX (gU 1))] _)]<|At neg m e more p up h1 kQ kx il ic ((m/2^(ja m e p))+1) true (by unfold kD;simp[k3,iH]) (by first|rfl|simp[k3,iH]) ae)))
  (fun k1=>by
   have iH:m%2^(ja m e p)=0:=by rw[show(ja m e p)=0 by omega,bN,cH]
   exact chain [tB 32 (aT k1)]<|.w (more=true)
    (fun k2=>.w (neg=up)
     (fun k3=>chain [tB 43 (uG (aK k3)),tB 44 (k2)]<|At neg m e more p up h1 kQ kx il ic (m/2^(ja m e p)) false (by unfold kD;simp[k2,k3,iH]) (by first|rfl|simp[k2,k3,iH]) ae)
     (fun k3=>chain [tB 43 (uF (aJ k3)),tB 44 (k2),.o 49 (.e rN:PV.le (.e (.sl false 1 1 fun i_ j_=>[(.v (.int .u32 1))].getD (i_*1+j_) (.v (.bool false)))) (.e (gX (gU 1)))),.c (NI _ _ ae ae:gV 200 [(gX (gU (m/2^(ja m e p)))),(gX (gU 1))] _)]<|At neg m e more p up h1 kQ kx il ic ((m/2^(ja m e p))+1) true (by unfold kD;simp[k2,k3,iH]) (by first|rfl|simp[k2,k3,iH]) ae))
    (fun k2=>chain [tB 44 (aM k2)]<|At neg m e more p up h1 kQ kx il ic (m/2^(ja m e p)) (!(neg==up)) (by unfold kD;simp[k2,iH]) (by first|rfl|simp[k2,iH]) ae))) ah 
end Go.Proofs.YtdgnpeddgdclhaaGreatDoor
namespace Go.Proofs.YtdgnpeddgdclhaaGreatDoor.Fp
theorem Qi{s:Bool}{m:Nat}{e:Int}(hm:ia m<=60000)(kQ:-60000<=e)(kx:e<=60000):(gU (canon s m e).m).length<=2900 /\ -200000<=(canon s m e).e/\(canon s m e).e<=200000:=by
 by_cases h0:m=0
 .subst h0;rw[Cg];exact⟨by rw[show jx.m=0 from rfl,nh];decide,ag,ag⟩
 .obtain ⟨h1,h2,h3,h4⟩:=AT (s:=s) (e:=e) h0
  have h5:=mR h3;exact⟨EZ ae,ae,ae⟩
theorem ahH{a b:Dy}(ha:a.ib)(hb:b.ib):(gU (kI a b).m).length<=2900 /\ -200000<=(kI a b).e/\(kI a b).e<=200000:=by
 have h1:=ha.bits;have h2:=hb.bits;have h3:=ha.exp;have h4:=hb.exp;have h5:ia (a.m*b.m)<=ia a.m+ia b.m:=by
  rw[kN,aV];exact gl (oM a.m) (oM b.m)
 exact Qi ae ae ae 
theorem Vf{a:Dy}{k:Int}(h:k<=a.e):ia (a.num k).natAbs<=ia a.m+(a.e-k).toNat:=by
 have e:(a.num k).natAbs=a.m*2^(a.e-k).toNat:=by
  unfold Dy.num Dy.jQ;split
  .rw [ff];exact dA _
  .exact dA _
 rw[e];by_cases h0:a.m=0
 .rw [h0,ch];exact bL _
 .rw [qf h0];exact aU _
theorem akP{a b:Dy}(ha:a.ib)(hb:b.ib):(gU (iI a b).m).length<=2900 /\ -200000<=(iI a b).e/\(iI a b).e<=200000:=by
 have h1:=ha.bits;have h2:=hb.bits;have h3:=ha.exp;have h4:=hb.exp;have la:=ha.len;have lb:=hb.len;unfold iI;split
 .exact ⟨ae,ae,ae⟩
 .split
  .exact ⟨ae,ae,ae⟩
  .have g1:=Vf (a:=a) (k:=min a.e b.e) ae 
   have g2:=Vf (a:=b) (k:=min a.e b.e) ae;refine Qi ?_ ae ae;obtain⟨K,hK⟩:∃ K,K=40000:=⟨_,rfl⟩
   have g3:=kN.1 (aX g1 (show ia a.m+(a.e-min a.e b.e).toNat<=K by omega));have g4:=kN.1 (aX g2 (show ia b.m+(b.e-min a.e b.e).toNat<=K by omega));refine aX ((kN (k:=K+1)).2 ?_) (show K+1<=60000 by omega);have g5:(a.num (min a.e b.e)+b.num (min a.e b.e)).natAbs<=(a.num (min a.e b.e)).natAbs+(b.num (min a.e b.e)).natAbs:=Int.natAbs_add_le _ _;rw[aZ];generalize 2^K=P at *
   omega
theorem QB{a b:Dy}(ha:a.ib)(hb:b.ib)(h:jm a b=0):a=b:=by
 have h1:nG a (min a.e b.e):=.inr ae;have h2:nG b (min a.e b.e):=.inr ae;rw[Ci h1 h2]at h;refine KU ha.canon hb.canon h1 h2 ?_;unfold vF at h;split at h
 .omega
 .split at h<;>omega
theorem IW{a b c:Dy}(ha:a.ib)(hb:b.ib)(hc:c.ib)(h1:jm a c<=0)(h2:jm b c<=0)(h3:c=a\/c=b):iO a b=c:=by
 unfold iO;rcases h3 with rfl|rfl
 .rw [aQ ae]
 .split
  .rfl
  .rename_i h
   have:=wK a c;exact QB ha hc ae 
theorem UH{a b c:Dy}(ha:a.ib)(hb:b.ib)(hc:c.ib)(h1:jm c a<=0)(h2:jm c b<=0)(h3:c=a\/c=b):iU a b=c:=by
 unfold iU;rcases h3 with rfl|rfl
 .have:=wK c b
  rw[aQ ae]
 .split
  .rfl
  .rename_i h
   have:=wK a c;exact QB ha hc ae 
theorem I4(d:Dy)(k:Int):(kY d).num k=((d.num k).natAbs:Int):=by
 unfold Dy.num Dy.jQ kY;cases d.neg
 .simp;exact(dA (d.m*2^(d.e-k).toNat)).symm▸by simp
 .simp only[bq,a6,bk];rw[ff,dA]
theorem Pd{d:Dy}(hd:d.lG){k:Int}(h:0<=d.num k):kY d=d:=by
 rcases hd with⟨h1,h2,h3⟩|h1
 .unfold kY;rw[<-h2]
 .cases hn:d.neg with
  |false=>unfold kY;rw[<-hn]
  |true=>
   have:0<d.jQ k:=u6 ae k;unfold Dy.num at h;rw[hn,aR rfl]at h;omega
theorem Pe{d:Dy}(hd:d.lG){k:Int}(h:d.num k<=0):kY d=iF d:=by
 rcases hd with⟨h1,h2,h3⟩|h1
 .unfold kY iF;rw[h1,h2];simp
 .cases hn:d.neg with
  |true=>unfold kY iF;rw[hn];simp
  |false=>
   have:0<d.jQ k:=u6 ae k;unfold Dy.num at h;rw[hn,aQ ag]at h;omega
theorem agy{x:Iv}(h1:x.lo.ib)(h2:x.hi.ib)(h3:jm x.lo x.hi<=0):mu x=iO (iF x.lo) x.hi:=by
 obtain⟨k,ka,kb⟩:∃ k:Int,k<=x.lo.e/\k<=x.hi.e:=⟨min x.lo.e x.hi.e,ae,ae⟩
 have aL:nG x.lo k:=.inr ka;have aH:nG x.hi k:=.inr kb;have aN:nG (iF x.lo) k:=DN aL;have aA:nG (kY x.lo) k:=aL;have aB:nG (kY x.hi) k:=aH;have hle:=(oh aL aH).1 h3;have n1:=Fo (d:=x.lo) k;have n2:=I4 x.lo k;have n3:=I4 x.hi k;unfold mu;by_cases hc:0<jm x.hi (iF x.lo)
 .have e:iO (iF x.lo) x.hi=x.hi:=by unfold iO;rw[aR hc]
  have CH:¬x.hi.num k<=(iF x.lo).num k:=fun h=>by have:=(oh aH aN).2 h;omega
  rw[e];exact IW (ru h1) (ru h2) h2 ((oh aA aH).2 ae) ((oh aB aH).2 ae) (.inr (Pd h2.canon (k:=k) ae).symm)
 .have e:iO (iF x.lo) x.hi=iF x.lo:=by unfold iO;rw[aQ hc]
  have pO:x.hi.num k<=(iF x.lo).num k:=(oh aH aN).1 ae;rw[e];exact IW (ru h1) (ru h2) (qj h1) ((oh aA aN).2 ae) ((oh aB aN).2 ae) (.inl (Pe h1.canon (k:=k) ae).symm)
theorem Xj{d:Dy}(k:Int):(0<d.iK↔0<d.num k)/\(d.iK<0↔d.num k<0):=by
 obtain⟨h1,h2,h3⟩:=Ni (d:=d) k;rcases B0 d with⟨_,h⟩|⟨_,_,h⟩|⟨_,_,h⟩
 .have:=h1 h;rw[h];omega
 .have:=h2 h;rw[h];omega
 .have:=h3 h;rw[h];omega
theorem agC{x:Iv}(ha:x.all=false)(h1:x.lo.ib)(h2:x.hi.ib)(h3:jm x.lo x.hi<=0):ni x=if lL x=0 then jx else iO x.lo (iF x.hi):=by
 unfold ni;by_cases hs:lL x=0
 .rw [aR hs,aR hs]
 .rw [aQ hs,aQ hs]
  obtain⟨k,ka,kb⟩:∃ k:Int,k<=x.lo.e/\k<=x.hi.e:=⟨min x.lo.e x.hi.e,ae,ae⟩
  have aL:nG x.lo k:=.inr ka;have aH:nG x.hi k:=.inr kb;have aN:nG (iF x.hi) k:=DN aH;have aA:nG (kY x.lo) k:=aL;have aB:nG (kY x.hi) k:=aH;have hle:=(oh aL aH).1 h3;have n1:=Fo (d:=x.hi) k;have n2:=I4 x.lo k;have n3:=I4 x.hi k;have sL:=Xj (d:=x.lo) k;have sH:=Xj (d:=x.hi) k;by_cases hp:0<x.lo.iK
  .have S9:=sL.1.1 hp
   have e1:=Pd h1.canon (k:=k) ae;rw[UH (ru h1) (ru h2) h1 ((oh aL aA).2 ae) ((oh aL aB).2 ae) (.inl e1.symm)];exact(IW h1 (qj h2) h1 (yE _) ((oh aN aL).2 ae) (.inl rfl)).symm
  .have hn:x.hi.iK<0:=by
    apply bE;intro hn;unfold lL at hs;rw[ha,aQ ag,aQ hp,aQ hn]at hs;exact hs rfl
   have vX:=sH.2.1 hn;have e1:=Pe h2.canon (k:=k) ae;rw[UH (ru h1) (ru h2) (qj h2) ((oh aN aA).2 ae) ((oh aN aB).2 ae) (.inr e1.symm)];exact(IW h1 (qj h2) (qj h2) ((oh aL aN).2 ae) (yE _) (.inr rfl)).symm
theorem oB{a b:Dy}{p:Nat}{up:Bool}(hp:1<=p)(ic:p<=4096):(kt a b p up).ib:=by
 unfold kt;split
 .exact rm
 .exact mi _ _ _ _ _ _ hp ic
theorem UJ(a:Dy):iU a a=a:=by unfold iU;split<;>rfl
theorem UG(a:Dy):iO a a=a:=by unfold iO;split<;>rfl
end Go.Proofs.YtdgnpeddgdclhaaGreatDoor.Fp
namespace Go.Proofs.YtdgnpeddgdclhaaGreatDoor
open Go.RowKit Fp Pu
theorem NL(d:Dy)(p:Nat)(up:Bool)(h1:(gU d.m).length<=2900)(kQ:-200000<=d.e)(kx:d.e<=200000)(il:8<=p)(ic:p<=512):gV 121 [(gY d),(iP p),(bP up)] (.iw [gY (jh d p up),iP (jz d p up)]):=by
 exact tr true Tryz.call121 Tryz.func121 (chain [.c (VY d.neg d.m d.e false p up ae ae ae ae ae)]<|.nil) ah 
theorem FG(a b:Dy)(p:Nat)(ha:a.ib)(hb:b.ib)(il:8<=p)(ic:p<=512):gV 120 [(gY a),(gY b),(iP p)] (iP 0):=by
 exact tr true Tryz.call120 Tryz.func120 (chain [.c (yP _ af:gV 46 [(gY a)] _),.c (yP _ af:gV 46 [(gY b)] _),.c (NU _:gV 48 [(iP p)] _),tB 16 (oZ.2 ⟨ae,ae⟩:(lh (p:Int))=true)]<|.nil) ah 
theorem VX(a b:Dy)(p:Nat)(up:Bool)(ha:a.ib)(hb:b.ib)(il:8<=p)(ic:p<=512):gV 72 [(gY a),(gY b),(iP p),(bP up)] (.iw [gY (jh (iI a b) p up),iP (jz (iI a b) p up)]):=by
 have hx:=akP ha hb;exact tr true Tryz.call72 Tryz.func72 (chain [.c (FG _ _ _ af af ae ae:gV 120 [(gY a),(gY b),(iP p)] _),tB 16 (ag:((0:Int) != 0)=false),.c (WG a b (Fp.Dy.ib.rf af) (Fp.Dy.ib.rf af)),.c (NL _ _ _ hx.1 hx.2.1 hx.2.2 ae ae:gV 121 [(gY (iI a b)),(iP p),(bP up)] _)]<|.nil) ah 
theorem vi(a b:Dy)(p:Nat)(up:Bool)(ha:a.ib)(hb:b.ib)(il:8<=p)(ic:p<=512):gV 109 [(gY a),(gY b),(iP p),(bP up)] (.iw [gY (jh (kI a b) p up),iP (jz (kI a b) p up)]):=by
 have hx:=ahH ha hb;exact tr true Tryz.call109 Tryz.func109 (chain [.c (FG _ _ _ af af ae ae:gV 120 [(gY a),(gY b),(iP p)] _),tB 16 (ag:((0:Int) != 0)=false),.c (ajg _ _ (Fp.Dy.ib.rf af) (Fp.Dy.ib.rf af):gV 154 [(gY a),(gY b)] _),.c (NL _ _ _ hx.1 hx.2.1 hx.2.2 ae ae:gV 121 [(gY (kI a b)),(iP p),(bP up)] _)]<|.nil) ah 
theorem Au(a b:Dy)(p:Nat)(up:Bool)(ha:a.ib)(hb:b.ib)(b0:b.m≠0)(il:8<=p)(ic:p<=512):gV 270 [(gY a),(gY b),(iP p),(bP up)] (.iw [gY (kt a b p up),iP (nc a b p up)]):=by
 by_cases a0:a.m=0
 .have e1:kt a b p up=jx/\nc a b p up=0:=by unfold kt nc;rw[aR a0,aR a0];exact⟨rfl,rfl⟩
  exact tr true Tryz.call270 Tryz.func270 (chain [.c (FG _ _ _ af af ae ae:gV 120 [(gY a),(gY b),(iP p)] _),tB 19 (ag:((0:Int) != 0)=false),tB 25 (nj (pM b0):(((gU b.m).length:Int)==0)=false),tB 30 (rM (qN.2 a0):(((gU a.m).length:Int)==0)=true),.o 31 (.e vu:PV.le (.e (.agg [(bP false),(.v (.slice none 0 0)),(iP 0)])) (.e (gY jx)))]<|rQ (.iw [(gY jx),(iP 0)]) (.iw [gY (kt a b p up),iP (nc a b p up)]) (by rw[e1.1,e1.2])) ah 
 .have va:=ha.gU
  have vb:=hb.gU;have xa:=ha.exp;have xb:=hb.exp;have ra:=ha.range.resolve_left a0;have rb:=hb.range.resolve_left b0;have pa:=mR a0;have pb:=mR b0;have hK:kn a b p 2=p+2+ia b.m-ia a.m:=rfl;have bs:=qf a0 (kn a b p 2);have z1:(gU (a.m*2^kn a b p 2)).length<=2900:=ng ae;have z2:(gU (a.m*2^kn a b p 2/b.m)).length<=2900:=ng (by have:=sQ (bw (a.m*2^kn a b p 2) b.m);omega);have z3:(gU (a.m*2^kn a b p 2%b.m)).length<=2900:=ng (by have:=sQ (cW (bg (a.m*2^kn a b p 2) (dB b0)));omega);have jI:decide (0<(ia (a.m*2^kn a b p 2%b.m):Int))=decide (a.m*2^kn a b p 2%b.m≠0):=by
   by_cases h:a.m*2^kn a b p 2%b.m=0
   .rw [h,qR];rfl
   .have:=mR h
    rw[aS h,aS ae]
  exact tr true Tryz.call270 Tryz.func270 (chain [.c (FG _ _ _ af af ae ae:gV 120 [(gY a),(gY b),(iP p)] _),tB 19 (ag:((0:Int) != 0)=false),tB 25 (nj (pM b0):(((gU b.m).length:Int)==0)=false),tB 30 (nj (pM a0):(((gU a.m).length:Int)==0)=false),iq ((p:Int)+2) ae,.c (Dj _ ae:gV 196 [(gX (gU b.m))] _),iq (((p:Int)+2)+(ia b.m:Int)) ae,.c (Dj _ ae:gV 196 [(gX (gU a.m))] _),
   iq ((((p:Int)+2)+(ia b.m:Int))-(ia a.m:Int)) ae,.o 42 (.int au:PV.le (.e (iP (if((((p:Int)+2)+(ia b.m:Int))-(ia a.m:Int))>0 then((((p:Int)+2)+(ia b.m:Int))-(ia a.m:Int))else 0))) (.e (iP (kn a b p 2:Int)))),.c (NJ _ _ ae ae:gV 199 [(gX (gU a.m)),(iP (kn a b p 2:Int))] _),.c (ah5 _ _ ae ae ae:gV 289 [(gX (gU (a.m*2^(kn a b p 2)))),(gX (gU b.m))] _),
   iq (a.e-b.e) ae,iq ((a.e-b.e)-(kn a b p 2:Int)) ae,.c (Dj _ ae:gV 196 [(gX (gU ((a.m*2^(kn a b p 2))%b.m)))] _),.c (VY (! (a.neg==b.neg)) ((a.m*2^(kn a b p 2))/b.m) ((a.e-b.e)-(kn a b p 2:Int)) (decide (0<(ia ((a.m*2^(kn a b p 2))%b.m):Int))) p up ae ae ae ae ae)]<|rQ (.iw [(gY (jP (!(a.neg==b.neg)) ((a.m*2^(kn a b p 2))/b.m) ((a.e-b.e)-(kn a b p 2:Int)) (decide (0<(ia ((a.m*2^(kn a b p 2))%b.m):Int))) p up)),(iP (jG (!(a.neg==b.neg)) ((a.m*2^(kn a b p 2))/b.m) ((a.e-b.e)-(kn a b p 2:Int)) (decide (0<(ia ((a.m*2^(kn a b p 2))%b.m):Int))) p up))]) (.iw [gY (kt a b p up),iP (nc a b p up)]) (by unfold kt nc;rw[aQ a0,aQ a0,<-jI];rfl)) ah 
open Go.RowKit Fp Pu
abbrev NF(x:Iv)(y:Iv)(p):=iU (jh (kI x.lo y.lo) p false) (jh (kI x.lo y.lo) p false)
abbrev NG(x:Iv)(y:Iv)(p):=iO (jh (kI x.lo y.lo) p true) (jh (kI x.lo y.lo) p true)
theorem BM(p:Int):gV 70 [(iP p)] (bP (lh p)):=by
 exact tr true Tryz.call70 Tryz.func70 (.w (8<=p)
  (fun k1=>chain [tB 4 (aS k1)]<|rQ (bP (decide (p<=512))) (bP (lh p)) (by simp[lh,k1]))
  (fun k1=>chain [tB 4 (aT k1)]<|rQ (bP false) (bP (lh p)) (by simp[lh,k1]))) ah 
theorem oF : gV 106 [] (gZ ie):=by
 exact tr true Tryz.call106 Tryz.func106 (chain [.o 1 (.e Ge:PV.le (.e (.agg [(bP false),(.v (.slice none 0 0)),(iP 0),(bP false),(.v (.slice none 0 0)),(iP 0),(bP true)])) (.e (gZ ie)))]<|.nil) ah 
theorem aiu(d:Dy):gV 229 [(gY d)] (gZ (me d)):=by
 exact tr true Tryz.call229 Tryz.func229 (.nil) ah 
theorem V2 : gV 52 [(gY jx)] (bP true):=by
 exact tr true Tryz.call52 Tryz.func52 (chain [tB 4 (rfl:jx.neg=false),tB 10 (rM (qN.2 rfl):(((gU jx.m).length:Int)==0)=true),tB 15 (rfl:(jx.e==0)=true)]<|.nil) ah 
theorem BN(x:Iv)(hx:x.ib):gV 19 [(gZ x)] (bP true):=by
 by_cases kz:x.all=true
 .obtain ⟨h1,h2⟩:=MJ hx kz
  exact tr true Tryz.call19 Tryz.func19 (chain [tB 4 (kz:x.all=true),.c (by rw[h1];exact V2:gV 52 [(gY x.lo)] (bP true)),.c (by rw[h2];exact V2:gV 52 [(gY x.hi)] (bP true))]<|.nil) ah 
 .replace kz:x.all=false:=by simpa using kz
  obtain⟨h1,h2,h3⟩:=oW hx kz;exact tr true Tryz.call19 Tryz.func19 (chain [tB 4 (kz:x.all=false),.c (yP _ af:gV 46 [(gY x.lo)] _),.c (yP _ af:gV 46 [(gY x.hi)] _),.c (BO x.lo x.hi (Fp.Dy.ib.rf af) (Fp.Dy.ib.rf af)),tB 27 (aS h3)]<|.nil) ah 
theorem ug(x:Iv)(hx:x.ib):gV 71 [(gZ x)] (bP (!x.all)):=by
 exact tr true Tryz.call71 Tryz.func71 (chain [.c (BN _ af:gV 19 [(gZ x)] _)]<|.nil) ah 
theorem yO(lo hi:Dy)(e f:Int):gV 107 [(gY lo),(iP e),(gY hi),(iP f)] (gZ (kE lo e hi f)):=by
 exact tr true Tryz.call107 Tryz.func107 (.w (e=0)
  (fun k1=>chain [tB 10 (aO k1)]<|.w (f=0)
   (fun k2=>chain [tB 13 (aO k2)]<|rQ (gZ (Iv.mk lo hi false)) (gZ (kE lo e hi f)) (by unfold kE;simp[k1,k2];try rfl))
   (fun k2=>chain [tB 13 (aP k2),.c (oF:gV 106 [] _)]<|rQ (gZ ie) (gZ (kE lo e hi f)) (by unfold kE;simp[k1,k2])))
  (fun k1=>chain [tB 10 (aP k1),.c (oF:gV 106 [] _)]<|rQ (gZ ie) (gZ (kE lo e hi f)) (by unfold kE;simp[k1]))) ah 
theorem FH(x y:Iv)(p:Nat)(hx:x.ib)(hy:y.ib)(il:8<=p)(ic:p<=512):gV 60 [(gZ x),(gZ y),(iP p)] (gZ (jj x y p)):=by
 exact tr true Tryz.call60 Tryz.func60 (chain [.c (BM _:gV 70 [(iP p)] _),tB 12 (oZ.2 ⟨ae,ae⟩:(lh (p:Int))=true),.c (ug _ af:gV 71 [(gZ x)] _)]<|.w (x.all=true)
  (fun k1=>chain [tB 16 (uG k1),.c (oF:gV 106 [] _)]<|rQ (gZ ie) (gZ (jj x y p)) (by unfold jj;simp[k1]))
  (fun k1=>by
   have mw:=oW hx (aM k1);have v1:=mw.1;have v2:=mw.2.1;have v3:=mw.2.2;exact chain [tB 16 (uF (aM k1)),.c (ug _ af:gV 71 [(gZ y)] _)]<|.w (y.all=true)
    (fun k2=>chain [tB 21 (uG k2),.c (oF:gV 106 [] _)]<|rQ (gZ ie) (gZ (jj x y p)) (by unfold jj;simp[k1,k2]))
    (fun k2=>by
     have mw:=oW hy (aM k2);have v4:=mw.1;have v5:=mw.2.1;have v6:=mw.2.2;exact chain [tB 21 (uF (aM k2)),.c (VX x.lo y.lo p false af af ae ae),.c (VX x.hi y.hi p true af af ae ae),.c (yO _ _ _ _:gV 107 [(gY (jh (iI x.lo y.lo) p false)),(iP (jz (iI x.lo y.lo) p false)),(gY (jh (iI x.hi y.hi) p true)),(iP (jz (iI x.hi y.hi) p true))] _)]<|rQ (gZ (kE (jh (iI x.lo y.lo) p false) (jz (iI x.lo y.lo) p false) (jh (iI x.hi y.hi) p true) (jz (iI x.hi y.hi) p true))) (gZ (jj x y p)) (by unfold jj;simp[k1,k2])))) ah 
theorem V0(x:Iv)(hx:x.ib):gV 226 [(gZ x)] (gZ (qD x)):=by
 exact tr true Tryz.call226 Tryz.func226 (chain [.c (ug _ af:gV 71 [(gZ x)] _)]<|.w (x.all=true)
  (fun k1=>chain [tB 4 (uG k1),.c (oF:gV 106 [] _)]<|rQ (gZ ie) (gZ (qD x)) (by unfold qD;simp[k1]))
  (fun k1=>by
   have mw:=oW hx (aM k1);have v1:=mw.1;have v2:=mw.2.1;have v3:=mw.2.2;exact chain [tB 4 (uF (aM k1)),.c (rO _:gV 99 [(gY x.hi)] _),.c (rO _:gV 99 [(gY x.lo)] _)]<|rQ (gZ (Iv.mk (iF x.hi) (iF x.lo) false)) (gZ (qD x)) (by unfold qD;simp[k1];try rfl))) ah 
theorem aiv(x y:Iv)(p:Nat)(hx:x.ib)(hy:y.ib)(il:8<=p)(ic:p<=512):gV 224 [(gZ x),(gZ y),(iP p)] (gZ (FY x y p)):=by
 exact tr true Tryz.call224 Tryz.func224 (chain [.c (V0 _ af:gV 226 [(gZ y)] _),.c (FH _ _ _ af (Fk af) ae ae:gV 60 [(gZ x),(gZ (qD y)),(iP p)] _)]<|.nil) ah 
theorem Av(a b:Dy)(ha:a.ib)(hb:b.ib):gV 110 [(gY a),(gY b)] (gY (iU a b)):=by
 have hc:=wK a b;exact tr true Tryz.call110 Tryz.func110 (chain [.c (BO a b (Fp.Dy.ib.rf af) (Fp.Dy.ib.rf af))]<|.w ((jm a b)<=0)
  (fun k1=>chain [tB 8 (aS k1)]<|rQ (gY a) (gY (iU a b)) (by unfold iU;rw[aQ ae]))
  (fun k1=>chain [tB 8 (aT k1)]<|rQ (gY b) (gY (iU a b)) (by unfold iU;rw[aR ae]))) ah 
theorem xv(a b:Dy)(ha:a.ib)(hb:b.ib):gV 111 [(gY a),(gY b)] (gY (iO a b)):=by
 have hc:=wK a b;exact tr true Tryz.call111 Tryz.func111 (chain [.c (BO a b (Fp.Dy.ib.rf af) (Fp.Dy.ib.rf af))]<|.w (0<=(jm a b))
  (fun k1=>chain [tB 8 (aS k1)]<|rQ (gY a) (gY (iO a b)) (by unfold iO;rw[aQ ae]))
  (fun k1=>chain [tB 8 (aT k1)]<|rQ (gY b) (gY (iO a b)) (by unfold iO;rw[aR ae]))) ah 
theorem V1(x:Iv)(hx:x.ib):gV 269 [(gZ x)] (iP (lL x)):=by
 exact tr true Tryz.call269 Tryz.func269 (chain [.c (ug _ af:gV 71 [(gZ x)] _)]<|.w (x.all=true)
  (fun k1=>chain [tB 4 (uG k1)]<|rQ (iP 0) (iP (lL x)) (by unfold lL;simp[k1]))
  (fun k1=>by
   have mw:=oW hx (aM k1);have v1:=mw.1;have v2:=mw.2.1;have v3:=mw.2.2;exact chain [tB 4 (uF (aM k1)),.c (vk _:gV 47 [(gY x.lo)] _)]<|.w (0<(Dy.iK x.lo))
    (fun k2=>chain [tB 9 (aS k2)]<|rQ (iP 1) (iP (lL x)) (by unfold lL;simp[k1,k2]))
    (fun k2=>chain [tB 9 (aT k2),.c (vk _:gV 47 [(gY x.hi)] _)]<|.w ((Dy.iK x.hi)<0)
     (fun k3=>chain [tB 13 (aS k3)]<|rQ (iP (-1)) (iP (lL x)) (by unfold lL;simp[k1,k2,k3]))
     (fun k3=>chain [tB 13 (aT k3)]<|rQ (iP 0) (iP (lL x)) (by unfold lL;simp[k1,k2,k3]))))) ah 
theorem ais(x:Iv)(hx:x.ib)(kz:x.all=false):gV 291 [(gZ x)] (gY (mu x)):=by
 obtain⟨v1,v2,v3⟩:=oW hx kz;exact tr true Tryz.call291 Tryz.func291 (chain [.c (rO _:gV 99 [(gY x.lo)] _),.c (xv _ _ (qj af) af:gV 111 [(gY (iF x.lo)),(gY x.hi)] _)]<|rQ (gY (iO (iF x.lo) x.hi)) (gY (mu x)) (by rw[agy v1 v2 v3])) ah 
theorem ait(x:Iv)(hx:x.ib)(kz:x.all=false):gV 290 [(gZ x)] (gY (ni x)):=by
 obtain⟨v1,v2,v3⟩:=oW hx kz;have hm:=agC kz v1 v2 v3;exact tr true Tryz.call290 Tryz.func290 (chain [.c (V1 _ af:gV 269 [(gZ x)] _)]<|.w ((lL x)=0)
  (fun k1=>chain [tB 5 (aK k1),.o 6 (.e vu:PV.le (.e (.agg [(bP false),(.v (.slice none 0 0)),(iP 0)])) (.e (gY jx)))]<|rQ (gY jx) (gY (ni x)) (by rw[hm,aR k1]))
  (fun k1=>chain [tB 5 (aJ k1),.c (rO _:gV 99 [(gY x.hi)] _),.c (xv _ _ af (qj af):gV 111 [(gY x.lo),(gY (iF x.hi))] _)]<|rQ (gY (iO x.lo (iF x.hi))) (gY (ni x)) (by rw[hm,aQ k1]))) ah 
theorem aip(x:Iv)(hx:x.ib):gV 271 [(gZ x)] (gZ (iW x)):=by
 exact tr true Tryz.call271 Tryz.func271 (chain [.c (ug _ af:gV 71 [(gZ x)] _)]<|.w (x.all=true)
  (fun k1=>chain [tB 4 (uG k1),.c (oF:gV 106 [] _)]<|rQ (gZ ie) (gZ (iW x)) (by unfold iW;simp[k1]))
  (fun k1=>by
   have mw:=oW hx (aM k1);have v1:=mw.1;have v2:=mw.2.1;have v3:=mw.2.2;exact chain [tB 4 (uF (aM k1)),.c (ait _ af (aM af):gV 290 [(gZ x)] _),.c (ais _ af (aM af):gV 291 [(gZ x)] _)]<|rQ (gZ (Iv.mk (ni x) (mu x) false)) (gZ (iW x)) (by unfold iW;simp[k1];try rfl))) ah 
theorem VZ(x y:Iv):gV 108 [(gZ x),(gZ y)] (.sl true 4 6 fun i_ j_=>(jo x.lo++jo y.lo++jo x.lo++jo y.hi++jo x.hi++jo y.lo++jo x.hi++jo y.hi).getD (i_*6+j_) (.v (.bool false))):=by
 exact tr true Tryz.call108 Tryz.func108 (.nil) ah 
theorem Ji(x y:Iv)(p:Nat)(hx:x.ib)(hy:y.ib)(il:8<=p)(ic:p<=512):gV 61 [(gZ x),(gZ y),(iP p)] (gZ (iN x y p)):=by
 exact tr true Tryz.call61 Tryz.func61 (chain [.c (BM _:gV 70 [(iP p)] _),tB 15 (oZ.2 ⟨ae,ae⟩:(lh (p:Int))=true),.c (ug _ af:gV 71 [(gZ x)] _)]<|.w (x.all=true)
  (fun k1=>chain [tB 19 (uG k1),.c (oF:gV 106 [] _)]<|rQ (gZ ie) (gZ (iN x y p)) (by unfold iN;simp[k1]))
  (fun k1=>by
   have mw:=oW hx (aM k1);have v1:=mw.1;have v2:=mw.2.1;have v3:=mw.2.2;exact chain [tB 19 (uF (aM k1)),.c (ug _ af:gV 71 [(gZ y)] _)]<|.w (y.all=true)
    (fun k2=>chain [tB 24 (uG k2),.c (oF:gV 106 [] _)]<|rQ (gZ ie) (gZ (iN x y p)) (by unfold iN;simp[k1,k2]))
    (fun k2=>by
     have mw:=oW hy (aM k2);have v4:=mw.1;have v5:=mw.2.1;have v6:=mw.2.2;exact chain [tB 24 (uF (aM k2)),.c (VZ _ _:gV 108 [(gZ x),(gZ y)] _),.u 70,tB 32 (ag:(decide ((0:Int)<4))=true),iX (0) (4) ae,iX (0) (2) ae,iX (0) (4) ae,
      iX (1) (2) ae,.c (vi x.lo y.lo p false af af ae ae),iX (0) (4) ae,iX (0) (2) ae,iX (0) (4) ae,iX (1) (2) ae,.c (vi x.lo y.lo p true af af ae ae)]<|.w ((jz (kI x.lo y.lo) p false)=0)
      (fun k3=>chain [tB 66 (aO k3)]<|.w ((jz (kI x.lo y.lo) p true)=0)
       (fun k4=>chain [tB 69 (aO k4),tB 73 (ag:((0:Int)==0)=true),.c (Av _ _ (mi _ _ _ _ _ _ ae ae) (mi _ _ _ _ _ _ ae ae):gV 110 [(gY (jh (kI x.lo y.lo) p false)),(gY (jh (kI x.lo y.lo) p false))] _),.c (xv _ _ (mi _ _ _ _ _ _ ae ae) (mi _ _ _ _ _ _ ae ae):gV 111 [(gY (jh (kI x.lo y.lo) p true)),(gY (jh (kI x.lo y.lo) p true))] _),iq (0+1) ae,.k [9,69,68,8,7,6,2] [8,6],tB 32 (ag:(decide (((0+1):Int)<4))=true),iX ((0+1)) (4) ae,iX (0) (2) ae,iX ((0+1)) (4) ae,iX (1) (2) ae,.c (vi x.lo y.hi p false af af ae ae),iX ((0+1)) (4) ae,iX (0) (2) ae,iX ((0+1)) (4) ae,iX (1) (2) ae,.c (vi x.lo y.hi p true af af ae ae)]<|.w ((jz (kI x.lo y.hi) p false)=0)
        (fun k5=>chain [tB 66 (aO k5)]<|.w ((jz (kI x.lo y.hi) p true)=0)
         (fun k6=>chain [tB 69 (aO k6),tB 73 (ag:(((0+1):Int)==0)=false),.c (Av _ _ (pX (mi _ _ _ _ _ _ ae ae) (mi _ _ _ _ _ _ ae ae)) (mi _ _ _ _ _ _ ae ae):gV 110 [(gY (NF x y p)),(gY (jh (kI x.lo y.hi) p false))] _),.c (xv _ _ (oX (mi _ _ _ _ _ _ ae ae) (mi _ _ _ _ _ _ ae ae)) (mi _ _ _ _ _ _ ae ae):gV 111 [(gY (NG x y p)),(gY (jh (kI x.lo y.hi) p true))] _),
          iq ((0+1)+1) ae,.k [9,69,68,8,7,6,2] [8,6],tB 32 (ag:(decide ((((0+1)+1):Int)<4))=true),iX (((0+1)+1)) (4) ae,iX (0) (2) ae,iX (((0+1)+1)) (4) ae,
          iX (1) (2) ae,.c (vi x.hi y.lo p false af af ae ae),iX (((0+1)+1)) (4) ae,iX (0) (2) ae,iX (((0+1)+1)) (4) ae,iX (1) (2) ae,.c (vi x.hi y.lo p true af af ae ae)]<|.w ((jz (kI x.hi y.lo) p false)=0)
          (fun k7=>chain [tB 66 (aO k7)]<|.w ((jz (kI x.hi y.lo) p true)=0)
           (fun k8=>chain [tB 69 (aO k8),tB 73 (ag:((((0+1)+1):Int)==0)=false),.c (Av _ _ (pX (pX (mi _ _ _ _ _ _ ae ae) (mi _ _ _ _ _ _ ae ae)) (mi _ _ _ _ _ _ ae ae)) (mi _ _ _ _ _ _ ae ae):gV 110 [(gY (iU (NF x y p) (jh (kI x.lo y.hi) p false))),(gY (jh (kI x.hi y.lo) p false))] _),.c (xv _ _ (oX (oX (mi _ _ _ _ _ _ ae ae) (mi _ _ _ _ _ _ ae ae)) (mi _ _ _ _ _ _ ae ae)) (mi _ _ _ _ _ _ ae ae):gV 111 [(gY (iO (NG x y p) (jh (kI x.lo y.hi) p true))),(gY (jh (kI x.hi y.lo) p true))] _),
            iq (((0+1)+1)+1) ae,.k [9,69,68,8,7,6,2] [8,6],tB 32 (ag:(decide (((((0+1)+1)+1):Int)<4))=true),iX ((((0+1)+1)+1)) (4) ae,iX (0) (2) ae,
            iX ((((0+1)+1)+1)) (4) ae,iX (1) (2) ae,.c (vi x.hi y.hi p false af af ae ae),iX ((((0+1)+1)+1)) (4) ae,iX (0) (2) ae,
            iX ((((0+1)+1)+1)) (4) ae,iX (1) (2) ae,.c (vi x.hi y.hi p true af af ae ae)]<|.w ((jz (kI x.hi y.hi) p false)=0)
            (fun k9=>chain [tB 66 (aO k9)]<|.w ((jz (kI x.hi y.hi) p true)=0)
             (fun k10=>chain [tB 69 (aO k10),tB 73 (ag:(((((0+1)+1)+1):Int)==0)=false),.c (Av _ _ (pX (pX (pX (mi _ _ _ _ _ _ ae ae) (mi _ _ _ _ _ _ ae ae)) (mi _ _ _ _ _ _ ae ae)) (mi _ _ _ _ _ _ ae ae)) (mi _ _ _ _ _ _ ae ae):gV 110 [(gY (iU (iU (NF x y p) (jh (kI x.lo y.hi) p false)) (jh (kI x.hi y.lo) p false))),(gY (jh (kI x.hi y.hi) p false))] _),.c (xv _ _ (oX (oX (oX (mi _ _ _ _ _ _ ae ae) (mi _ _ _ _ _ _ ae ae)) (mi _ _ _ _ _ _ ae ae)) (mi _ _ _ _ _ _ ae ae)) (mi _ _ _ _ _ _ ae ae):gV 111 [(gY (iO (iO (NG x y p) (jh (kI x.lo y.hi) p true)) (jh (kI x.hi y.lo) p true))),(gY (jh (kI x.hi y.hi) p true))] _),
              iq ((((0+1)+1)+1)+1) ae,.k [9,69,68,8,7,6,2] [8,6],tB 32 (ag:(decide ((((((0+1)+1)+1)+1):Int)<4))=false)]<|rR (gZ (iN x y p)) (by
      exact .iS (by
       unfold iN;rw[aQ (by simp[k1,k2])];rw[show mf _ _ x y=_ from aR ⟨⟨k3,k4⟩,⟨k5,k6⟩,⟨k7,k8⟩,⟨k9,k10⟩⟩];rw[UJ,UG];try rfl):E.le (gZ (Iv.mk (iU (iU (iU (iU (jh (kI x.lo y.lo) p false) (jh (kI x.lo y.lo) p false)) (jh (kI x.lo y.hi) p false)) (jh (kI x.hi y.lo) p false)) (jh (kI x.hi y.hi) p false)) (iO (iO (iO (iO (jh (kI x.lo y.lo) p true) (jh (kI x.lo y.lo) p true)) (jh (kI x.lo y.hi) p true)) (jh (kI x.hi y.lo) p true)) (jh (kI x.hi y.hi) p true)) false)) (gZ (iN x y p))))
             (fun k10=>chain [tB 69 (aP k10),.c (oF:gV 106 [] _)]<|rR (gZ (iN x y p)) (by
      exact .iS (by
       unfold iN;rw[aQ (by simp[k1,k2])];rw[show mf _ _ x y=_ from aQ (by rintro⟨⟨_,_⟩,⟨_,_⟩,⟨_,_⟩,⟨_,q⟩⟩;exact k10 q)]):E.le (gZ ie) (gZ (iN x y p)))))
            (fun k9=>chain [tB 66 (aP k9),.c (oF:gV 106 [] _)]<|rR (gZ (iN x y p)) (by
      exact .iS (by
       unfold iN;rw[aQ (by simp[k1,k2])];rw[show mf _ _ x y=_ from aQ (by rintro⟨⟨_,_⟩,⟨_,_⟩,⟨_,_⟩,⟨q,_⟩⟩;exact k9 q)]):E.le (gZ ie) (gZ (iN x y p)))))
           (fun k8=>chain [tB 69 (aP k8),.c (oF:gV 106 [] _)]<|rR (gZ (iN x y p)) (by
      exact .iS (by
       unfold iN;rw[aQ (by simp[k1,k2])];rw[show mf _ _ x y=_ from aQ (by rintro⟨⟨_,_⟩,⟨_,_⟩,⟨_,q⟩,⟨_,_⟩⟩;exact k8 q)]):E.le (gZ ie) (gZ (iN x y p)))))
          (fun k7=>chain [tB 66 (aP k7),.c (oF:gV 106 [] _)]<|rR (gZ (iN x y p)) (by
      exact .iS (by
       unfold iN;rw[aQ (by simp[k1,k2])];rw[show mf _ _ x y=_ from aQ (by rintro⟨⟨_,_⟩,⟨_,_⟩,⟨q,_⟩,⟨_,_⟩⟩;exact k7 q)]):E.le (gZ ie) (gZ (iN x y p)))))
         (fun k6=>chain [tB 69 (aP k6),.c (oF:gV 106 [] _)]<|rR (gZ (iN x y p)) (by
      exact .iS (by
       unfold iN;rw[aQ (by simp[k1,k2])];rw[show mf _ _ x y=_ from aQ (by rintro⟨⟨_,_⟩,⟨_,q⟩,⟨_,_⟩,⟨_,_⟩⟩;exact k6 q)]):E.le (gZ ie) (gZ (iN x y p)))))
        (fun k5=>chain [tB 66 (aP k5),.c (oF:gV 106 [] _)]<|rR (gZ (iN x y p)) (by
      exact .iS (by
       unfold iN;rw[aQ (by simp[k1,k2])];rw[show mf _ _ x y=_ from aQ (by rintro⟨⟨_,_⟩,⟨q,_⟩,⟨_,_⟩,⟨_,_⟩⟩;exact k5 q)]):E.le (gZ ie) (gZ (iN x y p)))))
       (fun k4=>chain [tB 69 (aP k4),.c (oF:gV 106 [] _)]<|rR (gZ (iN x y p)) (by
      exact .iS (by
       unfold iN;rw[aQ (by simp[k1,k2])];rw[show mf _ _ x y=_ from aQ (by rintro⟨⟨_,q⟩,⟨_,_⟩,⟨_,_⟩,⟨_,_⟩⟩;exact k4 q)]):E.le (gZ ie) (gZ (iN x y p)))))
      (fun k3=>chain [tB 66 (aP k3),.c (oF:gV 106 [] _)]<|rR (gZ (iN x y p)) (by
      exact .iS (by
       unfold iN;rw[aQ (by simp[k1,k2])];rw[show mf _ _ x y=_ from aQ (by rintro⟨⟨q,_⟩,⟨_,_⟩,⟨_,_⟩,⟨_,_⟩⟩;exact k3 q)]):E.le (gZ ie) (gZ (iN x y p))))))) ah 
theorem aiq(x y:Iv)(p:Nat)(hx:x.ib)(hy:y.ib)(il:8<=p)(ic:p<=512):gV 225 [(gZ x),(gZ y),(iP p)] (gZ (jS x y p)):=by
 exact tr true Tryz.call225 Tryz.func225 (chain [.c (BM _:gV 70 [(iP p)] _),tB 15 (oZ.2 ⟨ae,ae⟩:(lh (p:Int))=true),.c (ug _ af:gV 71 [(gZ x)] _)]<|.w (x.all=true)
  (fun k1=>chain [tB 19 (uG k1),.c (oF:gV 106 [] _)]<|rQ (gZ ie) (gZ (jS x y p)) (by unfold jS;simp[k1]))
  (fun k1=>by
   have mw:=oW hx (aM k1);have v1:=mw.1;have v2:=mw.2.1;have v3:=mw.2.2;exact chain [tB 19 (uF (aM k1)),.c (ug _ af:gV 71 [(gZ y)] _)]<|.w (y.all=true)
    (fun k2=>chain [tB 24 (uG k2),.c (oF:gV 106 [] _)]<|rQ (gZ ie) (gZ (jS x y p)) (by unfold jS;simp[k1,k2]))
    (fun k2=>by
     have mw:=oW hy (aM k2);have v4:=mw.1;have v5:=mw.2.1;have v6:=mw.2.2;exact chain [tB 24 (uF (aM k2)),.c (V1 _ af:gV 269 [(gZ y)] _)]<|.w ((lL y)=0)
      (fun k3=>chain [tB 30 (aK k3),.c (oF:gV 106 [] _)]<|rQ (gZ ie) (gZ (jS x y p)) (by unfold jS;simp[k1,k2,k3]))
      (fun k3=>by
       have y0:=Xh hy k3;exact chain [tB 30 (aJ k3),.c (VZ _ _:gV 108 [(gZ x),(gZ y)] _),.u 70,tB 37 (ag:(decide ((0:Int)<4))=true),iX (0) (4) ae,iX (0) (2) ae,iX (0) (4) ae,iX (1) (2) ae,.c (Au x.lo y.lo p false af af y0.1 ae ae),iX (0) (4) ae,iX (0) (2) ae,iX (0) (4) ae,iX (1) (2) ae,.c (Au x.lo y.lo p true af af y0.1 ae ae)]<|.w ((nc x.lo y.lo p false)=0)
        (fun k4=>chain [tB 71 (aO k4)]<|.w ((nc x.lo y.lo p true)=0)
         (fun k5=>chain [tB 74 (aO k5),tB 78 (ag:((0:Int)==0)=true),.c (Av _ _ (oB ae ae) (oB ae ae):gV 110 [(gY (kt x.lo y.lo p false)),(gY (kt x.lo y.lo p false))] _),.c (xv _ _ (oB ae ae) (oB ae ae):gV 111 [(gY (kt x.lo y.lo p true)),(gY (kt x.lo y.lo p true))] _),iq (0+1) ae,.k [9,74,73,8,7,6,2] [8,6],tB 37 (ag:(decide (((0+1):Int)<4))=true),iX ((0+1)) (4) ae,iX (0) (2) ae,iX ((0+1)) (4) ae,iX (1) (2) ae,.c (Au x.lo y.hi p false af af y0.2 ae ae),iX ((0+1)) (4) ae,iX (0) (2) ae,iX ((0+1)) (4) ae,iX (1) (2) ae,.c (Au x.lo y.hi p true af af y0.2 ae ae)]<|.w ((nc x.lo y.hi p false)=0)
          (fun k6=>chain [tB 71 (aO k6)]<|.w ((nc x.lo y.hi p true)=0)
           (fun k7=>chain [tB 74 (aO k7),tB 78 (ag:(((0+1):Int)==0)=false),.c (Av _ _ (pX (oB ae ae) (oB ae ae)) (oB ae ae):gV 110 [(gY (iU (kt x.lo y.lo p false) (kt x.lo y.lo p false))),(gY (kt x.lo y.hi p false))] _),.c (xv _ _ (oX (oB ae ae) (oB ae ae)) (oB ae ae):gV 111 [(gY (iO (kt x.lo y.lo p true) (kt x.lo y.lo p true))),(gY (kt x.lo y.hi p true))] _),
            iq ((0+1)+1) ae,.k [9,74,73,8,7,6,2] [8,6],tB 37 (ag:(decide ((((0+1)+1):Int)<4))=true),iX (((0+1)+1)) (4) ae,iX (0) (2) ae,iX (((0+1)+1)) (4) ae,
            iX (1) (2) ae,.c (Au x.hi y.lo p false af af y0.1 ae ae),iX (((0+1)+1)) (4) ae,iX (0) (2) ae,iX (((0+1)+1)) (4) ae,iX (1) (2) ae,.c (Au x.hi y.lo p true af af y0.1 ae ae)]<|.w ((nc x.hi y.lo p false)=0)
            (fun k8=>chain [tB 71 (aO k8)]<|.w ((nc x.hi y.lo p true)=0)
             (fun k9=>chain [tB 74 (aO k9),tB 78 (ag:((((0+1)+1):Int)==0)=false),.c (Av _ _ (pX (pX (oB ae ae) (oB ae ae)) (oB ae ae)) (oB ae ae):gV 110 [(gY (iU (iU (kt x.lo y.lo p false) (kt x.lo y.lo p false)) (kt x.lo y.hi p false))),(gY (kt x.hi y.lo p false))] _),.c (xv _ _ (oX (oX (oB ae ae) (oB ae ae)) (oB ae ae)) (oB ae ae):gV 111 [(gY (iO (iO (kt x.lo y.lo p true) (kt x.lo y.lo p true)) (kt x.lo y.hi p true))),(gY (kt x.hi y.lo p true))] _),
              iq (((0+1)+1)+1) ae,.k [9,74,73,8,7,6,2] [8,6],tB 37 (ag:(decide (((((0+1)+1)+1):Int)<4))=true),iX ((((0+1)+1)+1)) (4) ae,iX (0) (2) ae,
              iX ((((0+1)+1)+1)) (4) ae,iX (1) (2) ae,.c (Au x.hi y.hi p false af af y0.2 ae ae),iX ((((0+1)+1)+1)) (4) ae,iX (0) (2) ae,
              iX ((((0+1)+1)+1)) (4) ae,iX (1) (2) ae,.c (Au x.hi y.hi p true af af y0.2 ae ae)]<|.w ((nc x.hi y.hi p false)=0)
              (fun k10=>chain [tB 71 (aO k10)]<|.w ((nc x.hi y.hi p true)=0)
               (fun k11=>chain [tB 74 (aO k11),tB 78 (ag:(((((0+1)+1)+1):Int)==0)=false),.c (Av _ _ (pX (pX (pX (oB ae ae) (oB ae ae)) (oB ae ae)) (oB ae ae)) (oB ae ae):gV 110 [(gY (iU (iU (iU (kt x.lo y.lo p false) (kt x.lo y.lo p false)) (kt x.lo y.hi p false)) (kt x.hi y.lo p false))),(gY (kt x.hi y.hi p false))] _),.c (xv _ _ (oX (oX (oX (oB ae ae) (oB ae ae)) (oB ae ae)) (oB ae ae)) (oB ae ae):gV 111 [(gY (iO (iO (iO (kt x.lo y.lo p true) (kt x.lo y.lo p true)) (kt x.lo y.hi p true)) (kt x.hi y.lo p true))),(gY (kt x.hi y.hi p true))] _),
                iq ((((0+1)+1)+1)+1) ae,.k [9,74,73,8,7,6,2] [8,6],tB 37 (ag:(decide ((((((0+1)+1)+1)+1):Int)<4))=false)]<|rR (gZ (jS x y p)) (by
      exact .iS (by
       unfold jS;rw[aQ (by simp[k1,k2,k3])];rw[show mf _ _ x y=_ from aR ⟨⟨k4,k5⟩,⟨k6,k7⟩,⟨k8,k9⟩,⟨k10,k11⟩⟩];rw[UJ,UG];try rfl):E.le (gZ (Iv.mk (iU (iU (iU (iU (kt x.lo y.lo p false) (kt x.lo y.lo p false)) (kt x.lo y.hi p false)) (kt x.hi y.lo p false)) (kt x.hi y.hi p false)) (iO (iO (iO (iO (kt x.lo y.lo p true) (kt x.lo y.lo p true)) (kt x.lo y.hi p true)) (kt x.hi y.lo p true)) (kt x.hi y.hi p true)) false)) (gZ (jS x y p))))
               (fun k11=>chain [tB 74 (aP k11),.c (oF:gV 106 [] _)]<|rR (gZ (jS x y p)) (by
      exact .iS (by
       unfold jS;rw[aQ (by simp[k1,k2,k3])];rw[show mf _ _ x y=_ from aQ (by rintro⟨⟨_,_⟩,⟨_,_⟩,⟨_,_⟩,⟨_,q⟩⟩;exact k11 q)]):E.le (gZ ie) (gZ (jS x y p)))))
              (fun k10=>chain [tB 71 (aP k10),.c (oF:gV 106 [] _)]<|rR (gZ (jS x y p)) (by
      exact .iS (by
       unfold jS;rw[aQ (by simp[k1,k2,k3])];rw[show mf _ _ x y=_ from aQ (by rintro⟨⟨_,_⟩,⟨_,_⟩,⟨_,_⟩,⟨q,_⟩⟩;exact k10 q)]):E.le (gZ ie) (gZ (jS x y p)))))
             (fun k9=>chain [tB 74 (aP k9),.c (oF:gV 106 [] _)]<|rR (gZ (jS x y p)) (by
      exact .iS (by
       unfold jS;rw[aQ (by simp[k1,k2,k3])];rw[show mf _ _ x y=_ from aQ (by rintro⟨⟨_,_⟩,⟨_,_⟩,⟨_,q⟩,⟨_,_⟩⟩;exact k9 q)]):E.le (gZ ie) (gZ (jS x y p)))))
            (fun k8=>chain [tB 71 (aP k8),.c (oF:gV 106 [] _)]<|rR (gZ (jS x y p)) (by
      exact .iS (by
       unfold jS;rw[aQ (by simp[k1,k2,k3])];rw[show mf _ _ x y=_ from aQ (by rintro⟨⟨_,_⟩,⟨_,_⟩,⟨q,_⟩,⟨_,_⟩⟩;exact k8 q)]):E.le (gZ ie) (gZ (jS x y p)))))
           (fun k7=>chain [tB 74 (aP k7),.c (oF:gV 106 [] _)]<|rR (gZ (jS x y p)) (by
      exact .iS (by
       unfold jS;rw[aQ (by simp[k1,k2,k3])];rw[show mf _ _ x y=_ from aQ (by rintro⟨⟨_,_⟩,⟨_,q⟩,⟨_,_⟩,⟨_,_⟩⟩;exact k7 q)]):E.le (gZ ie) (gZ (jS x y p)))))
          (fun k6=>chain [tB 71 (aP k6),.c (oF:gV 106 [] _)]<|rR (gZ (jS x y p)) (by
      exact .iS (by
       unfold jS;rw[aQ (by simp[k1,k2,k3])];rw[show mf _ _ x y=_ from aQ (by rintro⟨⟨_,_⟩,⟨q,_⟩,⟨_,_⟩,⟨_,_⟩⟩;exact k6 q)]):E.le (gZ ie) (gZ (jS x y p)))))
         (fun k5=>chain [tB 74 (aP k5),.c (oF:gV 106 [] _)]<|rR (gZ (jS x y p)) (by
      exact .iS (by
       unfold jS;rw[aQ (by simp[k1,k2,k3])];rw[show mf _ _ x y=_ from aQ (by rintro⟨⟨_,q⟩,⟨_,_⟩,⟨_,_⟩,⟨_,_⟩⟩;exact k5 q)]):E.le (gZ ie) (gZ (jS x y p)))))
        (fun k4=>chain [tB 71 (aP k4),.c (oF:gV 106 [] _)]<|rR (gZ (jS x y p)) (by
      exact .iS (by
       unfold jS;rw[aQ (by simp[k1,k2,k3])];rw[show mf _ _ x y=_ from aQ (by rintro⟨⟨q,_⟩,⟨_,_⟩,⟨_,_⟩,⟨_,_⟩⟩;exact k4 q)]):E.le (gZ ie) (gZ (jS x y p)))))))) ah 
open Go.RowKit Fp Pu
open Go.RowKit Fp Pu
def wC(s:jr):Bool:=decide (0<=s.im/\s.im<=8/\s.gW.length<=200/\s.ig.length<=200)&&(FQ s&&vq s)
def Cx(o:mZ):Bool:=decide (9<=o.kind/\o.kind<=13)
def Dm(s:jr):Bool:=((List.range s.gW.length).all fun i=>!Cx (s.gW.getD i iV))&&wC s
theorem aiN{s:jr}(h:Dm s=true)(hv:nJ s.v):wI s.v.tape:=by
 unfold Dm at h;rw[bB]at h;intro i;by_cases hi:i<s.gW.length
 .have h1:=bF.1 h.1 i (bI.2 hi)
  have e:s.v.tape.gW.getD i iR=(s.gW.getD i iV).v:=by
   show(s.gW.map mZ.v).getD i iR=_;simp[aW,hi]
  have h2:=(hv.tape.op i (by show i<(s.gW.map mZ.v).length;rw[cS];exact hi)).C3;rw[e]at h2 ⊢;change (s.gW.getD i iV).kind.toNat<=13 at h2;show(s.gW.getD i iV).kind.toNat<=8;unfold Cx at h1;simp only[fc,decide_eq_false_iff_not]at h1;omega
 .have e:s.v.tape.gW.getD i iR=iR:=by
   show(s.gW.map mZ.v).getD i iR=_;rw[aW,bS aF];rfl
  rw[e];decide
theorem ZL{n:Int}{b:List RI}(gb:∀ i,(b.getD i ju).ji)(h:qu n b=true):kX n.toNat (b.map RI.iv)/\kj b=ik (b.map RI.iv):=by
 unfold qu at h;rw[bB,bW]at h;obtain⟨b1,b2⟩:=h;have pa:∀ i,i<b.length->(b.getD i ju).Ok/\(b.getD i ju).all=false:=fun i hi=>by
  have:=bF.1 b2 i (bI.2 hi);unfold ny at this;rw[bB]at this;exact⟨sd.1 this.1,by simpa using this.2⟩
 have ln:∀ i,i<b.length->(b.map RI.iv).getD i ie=(b.getD i ju).iv:=fun i hi=>by simp[aW,hi]
 refine⟨⟨by rw[cS];omega,fun i hi=>?_⟩,?_⟩
 .have hi:i<b.length:=by simpa using hi
  rw[ln i hi];exact⟨(pa i hi).1.valid,(pa i hi).2⟩
 .rw [<-MM]
  congr 1;apply eU;intro i;unfold Az;rw[cj,cj];by_cases hi:i<b.length
  .have h1:=(pa i hi).1
   have g1:=gb i;rw[bd hi];rw[aW,bd hi]at h1 g1;exact congrArg some (RI.Ok.eq (x:=b[i]) h1 g1).symm
  .rw [bS ae];rfl
open Go.RowKit Fp Pu
def Yf(s:jr)(N:Nat)(x:Nat):PS:=⟨70,true,[(3,.e (iP x)),(1,.box 1 0)],[(1,.cells 25 [(iP s.im),(jJ s.gW),(jN s.ig)])]⟩
def Yc(s:jr)(x:Nat):PS:=⟨70,true,[(3,.e (iP x)),(1,.box 1 0)],[(1,.cells 25 [(iP s.im),(jJ s.gW),(jN s.ig)])]⟩
def Yg(s:jr)(N:Nat)(x:Nat):PS:=⟨70,true,[(4,.e (iP x)),(1,.box 1 0)],[(1,.cells 25 [(iP s.im),(jJ s.gW),(jN s.ig)])]⟩
def Yd(s:jr)(x:Nat):PS:=⟨70,true,[(3,.e (iP x)),(1,.box 1 0)],[(1,.cells 25 [(iP s.im),(jJ s.gW),(jN s.ig)])]⟩
def Yh(s:jr)(N:Nat)(x:Nat):PS:=⟨70,true,[(4,.e (iP x)),(1,.box 1 0)],[(1,.cells 25 [(iP s.im),(jJ s.gW),(jN s.ig)])]⟩
def Ye(s:jr)(x:Nat):PS:=⟨70,true,[(3,.e (iP x)),(1,.box 1 0)],[(1,.cells 25 [(iP s.im),(jJ s.gW),(jN s.ig)])]⟩
def Yi(s:jr)(x:Nat):PS:=⟨70,true,[(4,.e (iP x)),(1,.box 1 0)],[(1,.cells 25 [(iP s.im),(jJ s.gW),(jN s.ig)])]⟩
def Wb(s:jr)(N:Nat)(x:Nat):PS:=⟨38,true,[(3,.e (iP x)),(1,.box 1 0)],[(1,.cells 25 [(iP s.im),(jJ s.gW),(jN s.ig)])]⟩
def V7(s:jr)(N:Nat)(x:Nat):PS:=⟨38,true,[(3,.e (iP x)),(1,.box 1 0)],[(1,.cells 25 [(iP s.im),(jJ s.gW),(jN s.ig)])]⟩
def V8(s:jr)(N:Nat)(x:Nat):PS:=⟨38,true,[(3,.e (iP x)),(1,.box 1 0)],[(1,.cells 25 [(iP s.im),(jJ s.gW),(jN s.ig)])]⟩
def V9(s:jr)(N:Nat)(x:Nat):PS:=⟨38,true,[(3,.e (iP x)),(1,.box 1 0)],[(1,.cells 25 [(iP s.im),(jJ s.gW),(jN s.ig)])]⟩
def Wa(s:jr)(N:Nat)(x:Nat):PS:=⟨38,true,[(3,.e (iP x)),(1,.box 1 0)],[(1,.cells 25 [(iP s.im),(jJ s.gW),(jN s.ig)])]⟩
def Wc(s:jr)(x:Nat):PS:=⟨38,true,[(3,.e (iP x)),(1,.box 1 0)],[(1,.cells 25 [(iP s.im),(jJ s.gW),(jN s.ig)])]⟩
theorem R1{x:List RI}(gx0:∀ y,y ∈ x->y.ji):∀ i,(x.getD i ju).ji:=fun i=>by
 by_cases hi:i<x.length
 .rw [aW,bd hi];exact gx0 _ (cw hi)
 .rw [aW,bS ae];exact WY
theorem Ko(n d:Int):gV 184 [(.agg [(iP n),(iP d)])] (bP (decide (n=0/\d=0))):=by
 exact tr true Tryz.call184 Tryz.func184 (.w (n=0)
  (fun k1=>chain [tB 5 (aK k1)]<|rQ (bP (d==0)) (bP (decide (n=0/\d=0))) (na (by rw[cQ];simp[k1])))
  (fun k1=>chain [tB 5 (aJ k1)]<|rQ (bP false) (bP (decide (n=0/\d=0))) (na (by rw[cQ];simp[k1])))) ah 
noncomputable def I8(o:mZ)(m:Int)(g:o.ji)(A B:Bool)(hA:A=(decide (0<=o.a/\o.a<m)))(hB:B=(decide (0<=o.b/\o.b<m))):Tr Tryz.prog Tb:=
  .w (o.kind=1)
  (fun k1=>chain [tB 28 (aK k1)]<|.w (o.a=0)
   (fun k2=>chain [tB 31 (aK k2)]<|.w (o.b=0)
    (fun k3=>chain [tB 35 (aK k3)]<|.w (o.n=0)
     (fun k4=>chain [tB 40 (aK k4),.c (FJ o.cn o.cd)]<|rQ (bP (lJ o.cn o.cd)) (bP (jE o m)) (kS))
     (fun k4=>chain [tB 40 (aJ k4)]<|rQ (bP false) (bP (jE o m)) (kS)))
    (fun k3=>chain [tB 35 (aJ k3)]<|rQ (bP false) (bP (jE o m)) (kS)))
   (fun k2=>chain [tB 31 (aJ k2)]<|rQ (bP false) (bP (jE o m)) (kS)))
  (fun k1=>chain [tB 28 (aJ k1),.j 94 ⟨112,true,[(47,.e (bP (decide (3<=o.kind/\o.kind<=6)))),(26,.e (iP o.kind)),(6,.e (bP B)),(5,.e (bP A)),(2,.box 2 0)],[(2,.cells 99 [(iP o.kind),(iP o.a),(iP o.b),(iP o.n),(iP o.cn),(iP o.cd)])]⟩
   (.w (o.kind=3)
    (fun m1=>chain [.v 47 (.bool (aK m1))]<|.e (chain [tB 47 (og an:true=(decide (3<=o.kind/\o.kind<=6)))]<|.nil))
    (fun m1=>chain [.v 47 (.bool (aJ m1))]<|.w (o.kind=4)
     (fun m2=>chain [tB 49 (aK m2)]<|.e (chain [tB 47 (og an:true=(decide (3<=o.kind/\o.kind<=6)))]<|.nil))
     (fun m2=>chain [tB 49 (aJ m2)]<|.w (o.kind=5)
      (fun m3=>chain [tB 50 (aK m3)]<|.e (chain [tB 47 (og an:true=(decide (3<=o.kind/\o.kind<=6)))]<|.nil))
      (fun m3=>chain [tB 50 (aJ m3)]<|.e (chain [tB 47 (og an:(o.kind==6)=(decide (3<=o.kind/\o.kind<=6)))]<|.nil)))))]<|.w (3<=o.kind/\o.kind<=6)
   (fun k2=>chain [.v 47 (.bool (aS k2))]<|.w (A=true)
    (fun k3=>chain [tB 52 (k3)]<|.w (B=true)
     (fun k4=>chain [tB 54 (k4)]<|.w (o.n=0)
      (fun k5=>chain [tB 59 (aK k5),.c (Ko o.cn o.cd)]<|rQ (bP (decide (o.cn=0/\o.cd=0))) (bP (jE o m)) (kS))
      (fun k5=>chain [tB 59 (aJ k5)]<|rQ (bP false) (bP (jE o m)) (kS)))
     (fun k4=>chain [tB 54 (aM k4)]<|rQ (bP false) (bP (jE o m)) (kS)))
    (fun k3=>chain [tB 52 (aM k3)]<|rQ (bP false) (bP (jE o m)) (kS)))
   (fun k2=>chain [.v 47 (.bool (aT k2)),.j 132 ⟨112,true,[(66,.e (bP (decide (o.kind=7\/9<=o.kind/\o.kind<=13)))),(26,.e (iP o.kind)),(5,.e (bP A)),(2,.box 2 0)],[(2,.cells 99 [(iP o.kind),(iP o.a),(iP o.b),(iP o.n),(iP o.cn),(iP o.cd)])]⟩
   (.w (o.kind=7)
    (fun m1=>chain [.v 66 (.bool (aK m1))]<|.e (chain [tB 66 (og an:true=(decide (o.kind=7\/9<=o.kind/\o.kind<=13)))]<|.nil))
    (fun m1=>chain [.v 66 (.bool (aJ m1))]<|.w (o.kind=9)
     (fun m2=>chain [tB 68 (aK m2)]<|.e (chain [tB 66 (og an:true=(decide (o.kind=7\/9<=o.kind/\o.kind<=13)))]<|.nil))
     (fun m2=>chain [tB 68 (aJ m2)]<|.w (o.kind=10)
      (fun m3=>chain [tB 69 (aK m3)]<|.e (chain [tB 66 (og an:true=(decide (o.kind=7\/9<=o.kind/\o.kind<=13)))]<|.nil))
      (fun m3=>chain [tB 69 (aJ m3)]<|.w (o.kind=11)
       (fun m4=>chain [tB 70 (aK m4)]<|.e (chain [tB 66 (og an:true=(decide (o.kind=7\/9<=o.kind/\o.kind<=13)))]<|.nil))
       (fun m4=>chain [tB 70 (aJ m4)]<|.w (o.kind=12)
        (fun m5=>chain [tB 71 (aK m5)]<|.e (chain [tB 66 (og an:true=(decide (o.kind=7\/9<=o.kind/\o.kind<=13)))]<|.nil))
        (fun m5=>chain [tB 71 (aJ m5)]<|.e (chain [tB 66 (og an:(o.kind==13)=(decide (o.kind=7\/9<=o.kind/\o.kind<=13)))]<|.nil)))))))]<|.w (o.kind=7\/9<=o.kind/\o.kind<=13)
    (fun k3=>chain [.v 66 (.bool (aS k3))]<|.w (A=true)
     (fun k4=>chain [tB 73 (k4)]<|.w (o.b=0)
      (fun k5=>chain [tB 77 (aK k5)]<|.w (o.n=0)
       (fun k6=>chain [tB 82 (aK k6),.c (Ko o.cn o.cd)]<|rQ (bP (decide (o.cn=0/\o.cd=0))) (bP (jE o m)) (kS))
       (fun k6=>chain [tB 82 (aJ k6)]<|rQ (bP false) (bP (jE o m)) (kS)))
      (fun k5=>chain [tB 77 (aJ k5)]<|rQ (bP false) (bP (jE o m)) (kS)))
     (fun k4=>chain [tB 73 (aM k4)]<|rQ (bP false) (bP (jE o m)) (kS)))
    (fun k3=>chain [.v 66 (.bool (aT k3))]<|.w (o.kind=8)
     (fun k4=>chain [tB 90 (aK k4)]<|.w (A=true)
      (fun k5=>chain [tB 91 (k5)]<|.w (o.b=0)
       (fun k6=>chain [tB 95 (aK k6)]<|.w (0<=o.n)
        (fun k7=>chain [tB 100 (aS k7)]<|.w (o.n<=16)
         (fun k8=>chain [tB 105 (aS k8),.c (Ko o.cn o.cd)]<|rQ (bP (decide (o.cn=0/\o.cd=0))) (bP (jE o m)) (kS))
         (fun k8=>chain [tB 105 (aT k8)]<|rQ (bP false) (bP (jE o m)) (kS)))
        (fun k7=>chain [tB 100 (aT k7)]<|rQ (bP false) (bP (jE o m)) (kS)))
       (fun k6=>chain [tB 95 (aJ k6)]<|rQ (bP false) (bP (jE o m)) (kS)))
      (fun k5=>chain [tB 91 (aM k5)]<|rQ (bP false) (bP (jE o m)) (kS)))
     (fun k4=>chain [tB 90 (aJ k4)]<|rQ (bP false) (bP (jE o m)) (kS)))))
theorem Fq(o:mZ)(m:Int)(g:o.ji):gV 147 [(BT o),(iP m)] (bP (jE o m)):=by
 exact tr true Tryz.call147 Tryz.func147 (.w (0<=o.a)
  (fun k1=>chain [tB 9 (aS k1)]<|.w (0<=o.b)
   (fun k2=>chain [tB 18 (aS k2)]<|I8 o m g (decide (o.a<m)) (decide (o.b<m)) (by simp[k1]) (by simp[k2]))
   (fun k2=>chain [tB 18 (aT k2)]<|I8 o m g (decide (o.a<m)) false (by simp[k1]) (by simp[k2])))
  (fun k1=>chain [tB 9 (aT k1)]<|.w (0<=o.b)
   (fun k2=>chain [tB 18 (aS k2)]<|I8 o m g false (decide (o.b<m)) (by simp[k1]) (by simp[k2]))
   (fun k2=>chain [tB 18 (aT k2)]<|I8 o m g false false (by simp[k1]) (by simp[k2])))) ah 
theorem alG(s:jr)(g:s.ji)(sm:s.mn)(hc:¬(0<=s.im/\s.im<=8/\s.gW.length<=200/\s.ig.length<=200)):gV 96 [(.agg [(iP s.im),(jJ s.gW),(jN s.ig)])] (bP false):=by
 have sp:=sm.params;have so:=sm.ig;have sq:=sm.gW;exact tr true Tryz.call96 Tryz.func96 (.w (s.im<0)
  (fun k1=>chain [tB 7 (aS k1)]<|.nil)
  (fun k1=>chain [tB 7 (aT k1)]<|.w (8<s.im)
   (fun k2=>chain [tB 11 (aS k2)]<|.nil)
   (fun k2=>chain [tB 11 (aT k2)]<|.w (200<(s.gW.length:Int))
    (fun k3=>chain [tB 17 (aS k3)]<|.nil)
    (fun k3=>chain [tB 17 (aT k3)]<|.w (200<(s.ig.length:Int))
     (fun k4=>chain [tB 23 (aS k4)]<|.nil)
     (fun k4=>.x ae))))) ah 
theorem alH(s:jr)(g:s.ji)(sm:s.mn)(i0:0<=s.im)(i8:s.im<=8)(l1:s.gW.length<=200)(l2:s.ig.length<=200)(N:Nat)(mE:N<s.gW.length)(iH:∀ k,k<N->(jE (s.gW.getD k iV) (s.im+(k:Int)))=true)(hN:(jE (s.gW.getD N iV) (s.im+(N:Int)))=false):gV 96 [(.agg [(iP s.im),(jJ s.gW),(jN s.ig)])] (bP false):=by
 have sp:=sm.params;have so:=sm.ig;have sq:=sm.gW;exact tr true Tryz.call96 Tryz.func96 (chain [tF 7 (s.im<0) ae,tF 11 (8<s.im) ae,tF 17 (200<(s.gW.length:Int)) ae,tF 23 (200<(s.ig.length:Int)) ae,.s (Sp.jv (Yf s N) 0 N ae (fun x hx kf=>by
    have nf:=g.gW x;exact iB (chain [tT 29 ((x:Int)<(s.gW.length:Int)) ae,iX ((x:Int)) (s.gW.length) ae,iq (s.im+(x:Int)) ae,.c (Fq (s.gW.getD x iV) (s.im+(x:Int)) nf),tB 42 (by rw[iH x ae];rfl:(!(jE (s.gW.getD x iV) (s.im+(x:Int))))=false),iq ((x:Int)+1) ae]<|.nil) ah)
  (fun hx=>by
    have nf:=g.gW N;exact iB (chain [tT 29 ((N:Int)<(s.gW.length:Int)) ae,iX ((N:Int)) (s.gW.length) ae,iq (s.im+(N:Int)) ae,.c (Fq (s.gW.getD N iV) (s.im+(N:Int)) nf),tB 42 (by rw[hN];rfl:(!(jE (s.gW.getD N iV) (s.im+(N:Int))))=true)]<|.nil) ah) ak:jq 4 Tryz.f96 (Yf s N 0) .ret ⟨70,true,[(2,.e (bP false))],[]⟩) .nil]<|.nil) ah 
theorem alI(s:jr)(g:s.ji)(sm:s.mn)(i0:0<=s.im)(i8:s.im<=8)(l1:s.gW.length<=200)(l2:s.ig.length<=200)(iH:∀ k,k<s.gW.length->(jE (s.gW.getD k iV) (s.im+(k:Int)))=true)(N:Nat)(mE:N<s.ig.length)(mS:∀ k,k<N->0<=(s.ig.getD k 0)/\(s.ig.getD k 0)<s.im+(s.gW.length:Int))(hN:(s.ig.getD N 0)<0):gV 96 [(.agg [(iP s.im),(jJ s.gW),(jN s.ig)])] (bP false):=by
 have sp:=sm.params;have so:=sm.ig;have sq:=sm.gW;exact tr true Tryz.call96 Tryz.func96 (chain [tF 7 (s.im<0) ae,tF 11 (8<s.im) ae,tF 17 (200<(s.gW.length:Int)) ae,tF 23 (200<(s.ig.length:Int)) ae,.s (Sp.jv (Yc s) 0 s.gW.length ae (fun x hx kf=>by
    have nf:=g.gW x;exact iB (chain [tT 29 ((x:Int)<(s.gW.length:Int)) ae,iX ((x:Int)) (s.gW.length) ae,iq (s.im+(x:Int)) ae,.c (Fq (s.gW.getD x iV) (s.im+(x:Int)) nf),tB 42 (by rw[iH x ae];rfl:(!(jE (s.gW.getD x iV) (s.im+(x:Int))))=false),iq ((x:Int)+1) ae]<|.nil) ah)
  (fun hx=>by
    exact iB (chain [tF 29 ((s.gW.length:Int)<(s.gW.length:Int)) ae]<|.nil) ah) ak:jq 4 Tryz.f96 (Yc s 0) (.exit 0) ⟨70,true,[(1,.box 1 0)],[(1,.cells 25 [(iP s.im),(jJ s.gW),(jN s.ig)])]⟩) .nil,.s (Sp.jv (Yg s N) 0 N ae (fun x hx kf=>by
    have Bj:=mS x ae;exact iB (chain [tT 47 ((x:Int)<(s.ig.length:Int)) ae,iX ((x:Int)) (s.ig.length) ae,tF 55 ((s.ig.getD x 0)<0) ae,iX ((x:Int)) (s.ig.length) ae,
     iq (s.im+(s.gW.length:Int)) ae,tF 68 ((s.im+(s.gW.length:Int))<=(s.ig.getD x 0)) ae,iq ((x:Int)+1) ae]<|.nil) ah)
  (fun hx=>by
    exact iB (chain [tT 47 ((N:Int)<(s.ig.length:Int)) ae,iX ((N:Int)) (s.ig.length) ae,tB 55 (aS hN)]<|.nil) ah) ak:jq 9 Tryz.f96 (Yg s N 0) .ret ⟨70,true,[(2,.e (bP false))],[]⟩) .nil]<|.nil) ah 
theorem alJ(s:jr)(g:s.ji)(sm:s.mn)(i0:0<=s.im)(i8:s.im<=8)(l1:s.gW.length<=200)(l2:s.ig.length<=200)(iH:∀ k,k<s.gW.length->(jE (s.gW.getD k iV) (s.im+(k:Int)))=true)(N:Nat)(mE:N<s.ig.length)(mS:∀ k,k<N->0<=(s.ig.getD k 0)/\(s.ig.getD k 0)<s.im+(s.gW.length:Int))(hN:0<=(s.ig.getD N 0))(hM:s.im+(s.gW.length:Int)<=(s.ig.getD N 0)):gV 96 [(.agg [(iP s.im),(jJ s.gW),(jN s.ig)])] (bP false):=by
 have sp:=sm.params;have so:=sm.ig;have sq:=sm.gW;exact tr true Tryz.call96 Tryz.func96 (chain [tF 7 (s.im<0) ae,tF 11 (8<s.im) ae,tF 17 (200<(s.gW.length:Int)) ae,tF 23 (200<(s.ig.length:Int)) ae,.s (Sp.jv (Yd s) 0 s.gW.length ae (fun x hx kf=>by
    have nf:=g.gW x;exact iB (chain [tT 29 ((x:Int)<(s.gW.length:Int)) ae,iX ((x:Int)) (s.gW.length) ae,iq (s.im+(x:Int)) ae,.c (Fq (s.gW.getD x iV) (s.im+(x:Int)) nf),tB 42 (by rw[iH x ae];rfl:(!(jE (s.gW.getD x iV) (s.im+(x:Int))))=false),iq ((x:Int)+1) ae]<|.nil) ah)
  (fun hx=>by
    exact iB (chain [tF 29 ((s.gW.length:Int)<(s.gW.length:Int)) ae]<|.nil) ah) ak:jq 4 Tryz.f96 (Yd s 0) (.exit 0) ⟨70,true,[(1,.box 1 0)],[(1,.cells 25 [(iP s.im),(jJ s.gW),(jN s.ig)])]⟩) .nil,.s (Sp.jv (Yh s N) 0 N ae (fun x hx kf=>by
    have Bj:=mS x ae;exact iB (chain [tT 47 ((x:Int)<(s.ig.length:Int)) ae,iX ((x:Int)) (s.ig.length) ae,tF 55 ((s.ig.getD x 0)<0) ae,iX ((x:Int)) (s.ig.length) ae,
     iq (s.im+(s.gW.length:Int)) ae,tF 68 ((s.im+(s.gW.length:Int))<=(s.ig.getD x 0)) ae,iq ((x:Int)+1) ae]<|.nil) ah)
  (fun hx=>by
    exact iB (chain [tT 47 ((N:Int)<(s.ig.length:Int)) ae,iX ((N:Int)) (s.ig.length) ae,tF 55 ((s.ig.getD N 0)<0) ae,iX ((N:Int)) (s.ig.length) ae,
    iq (s.im+(s.gW.length:Int)) ae,tB 68 (aS hM)]<|.nil) ah) ak:jq 9 Tryz.f96 (Yh s N 0) .ret ⟨70,true,[(2,.e (bP false))],[]⟩) .nil]<|.nil) ah 
theorem alK(s:jr)(g:s.ji)(sm:s.mn)(i0:0<=s.im)(i8:s.im<=8)(l1:s.gW.length<=200)(l2:s.ig.length<=200)(iH:∀ k,k<s.gW.length->(jE (s.gW.getD k iV) (s.im+(k:Int)))=true)(mS:∀ k,k<s.ig.length->0<=(s.ig.getD k 0)/\(s.ig.getD k 0)<s.im+(s.gW.length:Int)):gV 96 [(.agg [(iP s.im),(jJ s.gW),(jN s.ig)])] (bP true):=by
 have sp:=sm.params;have so:=sm.ig;have sq:=sm.gW;exact tr true Tryz.call96 Tryz.func96 (chain [tF 7 (s.im<0) ae,tF 11 (8<s.im) ae,tF 17 (200<(s.gW.length:Int)) ae,tF 23 (200<(s.ig.length:Int)) ae,.s (Sp.jv (Ye s) 0 s.gW.length ae (fun x hx kf=>by
    have nf:=g.gW x;exact iB (chain [tT 29 ((x:Int)<(s.gW.length:Int)) ae,iX ((x:Int)) (s.gW.length) ae,iq (s.im+(x:Int)) ae,.c (Fq (s.gW.getD x iV) (s.im+(x:Int)) nf),tB 42 (by rw[iH x ae];rfl:(!(jE (s.gW.getD x iV) (s.im+(x:Int))))=false),iq ((x:Int)+1) ae]<|.nil) ah)
  (fun hx=>by
    exact iB (chain [tF 29 ((s.gW.length:Int)<(s.gW.length:Int)) ae]<|.nil) ah) ak:jq 4 Tryz.f96 (Ye s 0) (.exit 0) ⟨70,true,[(1,.box 1 0)],[(1,.cells 25 [(iP s.im),(jJ s.gW),(jN s.ig)])]⟩) .nil,.s (Sp.jv (Yi s) 0 s.ig.length ae (fun x hx kf=>by
    have Bj:=mS x ae;exact iB (chain [tT 47 ((x:Int)<(s.ig.length:Int)) ae,iX ((x:Int)) (s.ig.length) ae,tF 55 ((s.ig.getD x 0)<0) ae,iX ((x:Int)) (s.ig.length) ae,
     iq (s.im+(s.gW.length:Int)) ae,tF 68 ((s.im+(s.gW.length:Int))<=(s.ig.getD x 0)) ae,iq ((x:Int)+1) ae]<|.nil) ah)
  (fun hx=>by
    exact iB (chain [tF 47 ((s.ig.length:Int)<(s.ig.length:Int)) ae]<|.nil) ah) ak:jq 9 Tryz.f96 (Yi s 0) (.exit 2) ⟨70,true,[],[]⟩) .nil]<|.nil) ah 
theorem alL(s:jr)(g:s.ji)(sm:s.mn):gV 96 [(.agg [(iP s.im),(jJ s.gW),(jN s.ig)])] (bP (wC s)):=by
 by_cases c1:0<=s.im/\s.im<=8/\s.gW.length<=200/\s.ig.length<=200
 rotate_left
 .rw [show wC s=false by unfold wC;rw[aT c1];rfl]
  exact alG s g sm c1
 obtain⟨i0,i8,l1,l2⟩:=c1;by_cases c2:FQ s=true
 rotate_left
 .rw [show wC s=false by unfold wC;rw[aM c2];simp]
  obtain⟨N,n1,n2,n3⟩:=xJ c2;exact alH s g sm i0 i8 l1 l2 N n1 (fun k hk=>by simpa using n3 k hk) (by simpa using n2)
 have iH:∀ k,k<s.gW.length->jE (s.gW.getD k iV) (s.im+(k:Int))=true:=fun k hk=>bF.1 c2 k (bI.2 hk)
 by_cases c3:vq s=true
 .rw [show wC s=true by unfold wC;rw[aS (⟨i0,i8,l1,l2⟩:_/\_),c2,c3];rfl]
  exact alK s g sm i0 i8 l1 l2 iH fun k hk=>ct (bF.1 c3 k (bI.2 hk))
 .rw [show wC s=false by unfold wC;rw[aM c3];simp]
  obtain⟨N,n1,n2,n3⟩:=xJ c3;have mS:∀ k,k<N->0<=s.ig.getD k 0/\s.ig.getD k 0<s.im+(s.gW.length:Int):=fun k hk=>by simpa[vg]using n3 k hk
  have hN:¬(0<=s.ig.getD N 0/\s.ig.getD N 0<s.im+(s.gW.length:Int)):=fun q=>by
   rw[show vg s (s.ig.getD N 0)=true from aS q]at n2;cases n2
  by_cases h0:s.ig.getD N 0<0
  .exact alI s g sm i0 i8 l1 l2 iH N n1 mS h0
  .exact alJ s g sm i0 i8 l1 l2 iH N n1 mS ae ae 
theorem aiJ(s:jr)(g:s.ji)(sm:s.mn)(N:Nat)(mE:N<s.gW.length)(iH:∀ k,k<N->¬(9<=(s.gW.getD k iV).kind/\(s.gW.getD k iV).kind<=13))(hN:(s.gW.getD N iV).kind=9):gV 50 [(.agg [(iP s.im),(jJ s.gW),(jN s.ig)])] (bP false):=by
 have sp:=sm.params;have so:=sm.ig;have sq:=sm.gW;exact tr true Tryz.call50 Tryz.func50 (chain [.s (Sp.jv (Wb s N) 0 N ae (fun x hx kf=>by
    have hk:=iH x ae;exact iB (chain [tT 9 ((x:Int)<(s.gW.length:Int)) ae,iX ((x:Int)) (s.gW.length) ae,tB 19 (aJ ae:((s.gW.getD x iV).kind==9)=false),tB 22 (aJ ae:((s.gW.getD x iV).kind==10)=false),tB 26 (aJ ae:((s.gW.getD x iV).kind==11)=false),tB 30 (aJ ae:((s.gW.getD x iV).kind==12)=false),tB 34 (aJ ae:((s.gW.getD x iV).kind==13)=false),iq ((x:Int)+1) ae]<|.nil) ah)
  (fun hx=>by
    exact iB (chain [tT 9 ((N:Int)<(s.gW.length:Int)) ae,iX ((N:Int)) (s.gW.length) ae,tB 19 (aK hN)]<|.nil) ah) ak:jq 2 Tryz.f50 (Wb s N 0) .ret ⟨38,true,[(2,.e (bP false))],[]⟩) .nil]<|.nil) ah 
theorem aiF(s:jr)(g:s.ji)(sm:s.mn)(N:Nat)(mE:N<s.gW.length)(iH:∀ k,k<N->¬(9<=(s.gW.getD k iV).kind/\(s.gW.getD k iV).kind<=13))(hN:(s.gW.getD N iV).kind=10):gV 50 [(.agg [(iP s.im),(jJ s.gW),(jN s.ig)])] (bP false):=by
 have sp:=sm.params;have so:=sm.ig;have sq:=sm.gW;exact tr true Tryz.call50 Tryz.func50 (chain [.s (Sp.jv (V7 s N) 0 N ae (fun x hx kf=>by
    have hk:=iH x ae;exact iB (chain [tT 9 ((x:Int)<(s.gW.length:Int)) ae,iX ((x:Int)) (s.gW.length) ae,tB 19 (aJ ae:((s.gW.getD x iV).kind==9)=false),tB 22 (aJ ae:((s.gW.getD x iV).kind==10)=false),tB 26 (aJ ae:((s.gW.getD x iV).kind==11)=false),tB 30 (aJ ae:((s.gW.getD x iV).kind==12)=false),tB 34 (aJ ae:((s.gW.getD x iV).kind==13)=false),iq ((x:Int)+1) ae]<|.nil) ah)
  (fun hx=>by
    exact iB (chain [tT 9 ((N:Int)<(s.gW.length:Int)) ae,iX ((N:Int)) (s.gW.length) ae,tB 19 (aJ ae:((s.gW.getD N iV).kind==9)=false),tB 22 (aK hN)]<|.nil) ah) ak:jq 2 Tryz.f50 (V7 s N 0) .ret ⟨38,true,[(2,.e (bP false))],[]⟩) .nil]<|.nil) ah 
theorem aiG(s:jr)(g:s.ji)(sm:s.mn)(N:Nat)(mE:N<s.gW.length)(iH:∀ k,k<N->¬(9<=(s.gW.getD k iV).kind/\(s.gW.getD k iV).kind<=13))(hN:(s.gW.getD N iV).kind=11):gV 50 [(.agg [(iP s.im),(jJ s.gW),(jN s.ig)])] (bP false):=by
 have sp:=sm.params;have so:=sm.ig;have sq:=sm.gW;exact tr true Tryz.call50 Tryz.func50 (chain [.s (Sp.jv (V8 s N) 0 N ae (fun x hx kf=>by
    have hk:=iH x ae;exact iB (chain [tT 9 ((x:Int)<(s.gW.length:Int)) ae,iX ((x:Int)) (s.gW.length) ae,tB 19 (aJ ae:((s.gW.getD x iV).kind==9)=false),tB 22 (aJ ae:((s.gW.getD x iV).kind==10)=false),tB 26 (aJ ae:((s.gW.getD x iV).kind==11)=false),tB 30 (aJ ae:((s.gW.getD x iV).kind==12)=false),tB 34 (aJ ae:((s.gW.getD x iV).kind==13)=false),iq ((x:Int)+1) ae]<|.nil) ah)
  (fun hx=>by
    exact iB (chain [tT 9 ((N:Int)<(s.gW.length:Int)) ae,iX ((N:Int)) (s.gW.length) ae,tB 19 (aJ ae:((s.gW.getD N iV).kind==9)=false),tB 22 (aJ ae:((s.gW.getD N iV).kind==10)=false),tB 26 (aK hN)]<|.nil) ah) ak:jq 2 Tryz.f50 (V8 s N 0) .ret ⟨38,true,[(2,.e (bP false))],[]⟩) .nil]<|.nil) ah 
theorem aiH(s:jr)(g:s.ji)(sm:s.mn)(N:Nat)(mE:N<s.gW.length)(iH:∀ k,k<N->¬(9<=(s.gW.getD k iV).kind/\(s.gW.getD k iV).kind<=13))(hN:(s.gW.getD N iV).kind=12):gV 50 [(.agg [(iP s.im),(jJ s.gW),(jN s.ig)])] (bP false):=by
 have sp:=sm.params;have so:=sm.ig;have sq:=sm.gW;exact tr true Tryz.call50 Tryz.func50 (chain [.s (Sp.jv (V9 s N) 0 N ae (fun x hx kf=>by
    have hk:=iH x ae;exact iB (chain [tT 9 ((x:Int)<(s.gW.length:Int)) ae,iX ((x:Int)) (s.gW.length) ae,tB 19 (aJ ae:((s.gW.getD x iV).kind==9)=false),tB 22 (aJ ae:((s.gW.getD x iV).kind==10)=false),tB 26 (aJ ae:((s.gW.getD x iV).kind==11)=false),tB 30 (aJ ae:((s.gW.getD x iV).kind==12)=false),tB 34 (aJ ae:((s.gW.getD x iV).kind==13)=false),iq ((x:Int)+1) ae]<|.nil) ah)
  (fun hx=>by
    exact iB (chain [tT 9 ((N:Int)<(s.gW.length:Int)) ae,iX ((N:Int)) (s.gW.length) ae,tB 19 (aJ ae:((s.gW.getD N iV).kind==9)=false),tB 22 (aJ ae:((s.gW.getD N iV).kind==10)=false),tB 26 (aJ ae:((s.gW.getD N iV).kind==11)=false),tB 30 (aK hN)]<|.nil) ah) ak:jq 2 Tryz.f50 (V9 s N 0) .ret ⟨38,true,[(2,.e (bP false))],[]⟩) .nil]<|.nil) ah 
theorem aiI(s:jr)(g:s.ji)(sm:s.mn)(N:Nat)(mE:N<s.gW.length)(iH:∀ k,k<N->¬(9<=(s.gW.getD k iV).kind/\(s.gW.getD k iV).kind<=13))(hN:(s.gW.getD N iV).kind=13):gV 50 [(.agg [(iP s.im),(jJ s.gW),(jN s.ig)])] (bP false):=by
 have sp:=sm.params;have so:=sm.ig;have sq:=sm.gW;exact tr true Tryz.call50 Tryz.func50 (chain [.s (Sp.jv (Wa s N) 0 N ae (fun x hx kf=>by
    have hk:=iH x ae;exact iB (chain [tT 9 ((x:Int)<(s.gW.length:Int)) ae,iX ((x:Int)) (s.gW.length) ae,tB 19 (aJ ae:((s.gW.getD x iV).kind==9)=false),tB 22 (aJ ae:((s.gW.getD x iV).kind==10)=false),tB 26 (aJ ae:((s.gW.getD x iV).kind==11)=false),tB 30 (aJ ae:((s.gW.getD x iV).kind==12)=false),tB 34 (aJ ae:((s.gW.getD x iV).kind==13)=false),iq ((x:Int)+1) ae]<|.nil) ah)
  (fun hx=>by
    exact iB (chain [tT 9 ((N:Int)<(s.gW.length:Int)) ae,iX ((N:Int)) (s.gW.length) ae,tB 19 (aJ ae:((s.gW.getD N iV).kind==9)=false),tB 22 (aJ ae:((s.gW.getD N iV).kind==10)=false),tB 26 (aJ ae:((s.gW.getD N iV).kind==11)=false),tB 30 (aJ ae:((s.gW.getD N iV).kind==12)=false),tB 34 (aK hN)]<|.nil) ah) ak:jq 2 Tryz.f50 (Wa s N 0) .ret ⟨38,true,[(2,.e (bP false))],[]⟩) .nil]<|.nil) ah 
theorem aiK(s:jr)(g:s.ji)(sm:s.mn)(iH:∀ k,k<s.gW.length->¬(9<=(s.gW.getD k iV).kind/\(s.gW.getD k iV).kind<=13)):gV 50 [(.agg [(iP s.im),(jJ s.gW),(jN s.ig)])] (bP (wC s)):=by
 have sp:=sm.params;have so:=sm.ig;have sq:=sm.gW;exact tr true Tryz.call50 Tryz.func50 (chain [.s (Sp.jv (Wc s) 0 s.gW.length ae (fun x hx kf=>by
    have hk:=iH x ae;exact iB (chain [tT 9 ((x:Int)<(s.gW.length:Int)) ae,iX ((x:Int)) (s.gW.length) ae,tB 19 (aJ ae:((s.gW.getD x iV).kind==9)=false),tB 22 (aJ ae:((s.gW.getD x iV).kind==10)=false),tB 26 (aJ ae:((s.gW.getD x iV).kind==11)=false),tB 30 (aJ ae:((s.gW.getD x iV).kind==12)=false),tB 34 (aJ ae:((s.gW.getD x iV).kind==13)=false),iq ((x:Int)+1) ae]<|.nil) ah)
  (fun hx=>by
    exact iB (chain [tF 9 ((s.gW.length:Int)<(s.gW.length:Int)) ae]<|.nil) ah) ak:jq 2 Tryz.f50 (Wc s 0) (.exit 0) ⟨38,true,[(1,.box 1 0)],[(1,.cells 25 [(iP s.im),(jJ s.gW),(jN s.ig)])]⟩) .nil,.c (alL s g sm)]<|.nil) ah 
theorem aiL(s:jr)(g:s.ji)(sm:s.mn):gV 50 [(.agg [(iP s.im),(jJ s.gW),(jN s.ig)])] (bP (Dm s)):=by
 unfold Dm;by_cases c:((List.range s.gW.length).all fun i=>!Cx (s.gW.getD i iV))=true
 .rw [c,ev]
  exact aiK s g sm fun i hi q=>by
   have h:=bF.1 c i (bI.2 hi);rw[show Cx (s.gW.getD i iV)=true from aS q]at h;cases h
 .rw [aM c,Bool.false_and]
  obtain⟨N,n1,n2,n3⟩:=xJ c;have iH:∀ k,k<N->¬(9<=(s.gW.getD k iV).kind/\(s.gW.getD k iV).kind<=13):=fun k hk=>by simpa[Cx]using n3 k hk
  have hN:9<=(s.gW.getD N iV).kind/\(s.gW.getD N iV).kind<=13:=by simpa[Cx]using n2
  rcases(show(s.gW.getD N iV).kind=9\/(s.gW.getD N iV).kind=10\/(s.gW.getD N iV).kind=11\/(s.gW.getD N iV).kind=12\/(s.gW.getD N iV).kind=13 by omega)with h|h|h|h|h
  .exact aiJ s g sm N n1 iH h
  .exact aiF s g sm N n1 iH h
  .exact aiG s g sm N n1 iH h
  .exact aiH s g sm N n1 iH h
  .exact aiI s g sm N n1 iH h
theorem afX(s:jr)(g:s.ji)(sm:s.mn):gV 16 [(lj s)] (bP (Dm s)):=by
 exact tr true Tryz.call16 Tryz.func16 (chain [.c (aiL s g sm)]<|.nil) ah 
theorem aeS(s:jr)(g:s.ji)(sm:s.mn)(x:List RI)(gx:∀ i,(x.getD i ju).ji)(lv:x.length<=1000)(d:RD)(gd:d.ji)(p:Int)(b:List RI)(gb:∀ i,(b.getD i ju).ji)(oc:b.length<=1000)(hf:mD s x d p=false):gV 13 [(lj s),(kj x),(mF d),(kj b),(iP p)] (.v (.slice none 0 0)):=by
 exact tr true Tryz.call13 Tryz.func13 (chain [.c (by rw[<-hf];exact RK s g sm x gx lv d gd p:gV 41 [(lj s),(kj x),(mF d),(iP p)] (bP false))]<|.nil) ah 
theorem aeT(s:jr)(g:s.ji)(sm:s.mn)(x:List RI)(gx:∀ i,(x.getD i ju).ji)(lv:x.length<=1000)(d:RD)(gd:d.ji)(p:Int)(b:List RI)(gb:∀ i,(b.getD i ju).ji)(oc:b.length<=1000)(hf:mD s x d p=true)(zI:qu s.iA b=false):gV 13 [(lj s),(kj x),(mF d),(kj b),(iP p)] (.v (.slice none 0 0)):=by
 exact tr true Tryz.call13 Tryz.func13 (chain [.c (by rw[<-hf];exact RK s g sm x gx lv d gd p:gV 41 [(lj s),(kj x),(mF d),(iP p)] (bP true)),.c (by rw[<-zI];exact Kl s b gb oc:gV 42 [(lj s),(kj b)] (bP false))]<|.nil) ah 
end Go.Proofs.YtdgnpeddgdclhaaGreatDoor
namespace Go.Proofs.YtdgnpeddgdclhaaGreatDoor.Fp
theorem R2{T p:Nat}{E:Int}(hT:ia T=p)(hp:1<=p){g:Rat}(hg:GM p g):g<=(T:Rat)*P2 E\/((T+1:Nat):Rat)*P2 E<=g:=by
 obtain⟨gm,ge,b1,b2,b3,rfl⟩:=hg;by_cases hc:E<=ge
 .rw [r8 (K:=E) hc (bY _),r8 (K:=E) (bY _) hc,show(E-E).toNat=0 by omega]
  omega
 .left
  rw[r8 (K:=ge) (bY _) ae,show(ge-ge).toNat=0 by omega,bN,bO];have h1:gm<2^p:=kN.1 b1;have h2:2^(p-1)<=T:=r7.1 ae;have h3:2^1<=2^(E-ge).toNat:=bh ag ae;have h4:=cK h2 h3;rw[<-aV,show p-1+1=p by omega]at h4;omega
theorem ag7{T p:Nat}{E:Int}(hT:ia T=p)(hp:1<=p)(h1:-16384<=E)(h2:(p:Int)+E<=16384){v:Rat}(xg:(T:Rat)*P2 E<=v)(rJ:v<((T+1:Nat):Rat)*P2 E):Dn p v (canon false T E) 0:=by
 have e:(canon false T E).q=(T:Rat)*P2 E:=by rw[qF];simp
 have h0:0<=(T:Rat)*P2 E:=bM cF (bA (mY E));refine⟨fun _=>⟨by rw[e];exact .inl ⟨T,E,ae,h1,ae,rfl⟩,by rw[e];exact xg⟩,fun g hg L5=>⟨rfl,?_⟩⟩;rw[e];by_cases Er:0<=g
 .rcases R2 (E:=E) hT hp (hg.pos Er)with k|k
  .exact k
  .exfalso;grind
 .grind
theorem ag9{T p:Nat}{E:Int}(hT:ia T=p)(hp:1<=p)(h1:-16384<=E)(h2:(p:Int)+E+1<=16384){v:Rat}(xg:(T:Rat)*P2 E<v)(rJ:v<=((T+1:Nat):Rat)*P2 E):Up p v (canon false (T+1) E) 0:=by
 have e:(canon false (T+1) E).q=((T+1:Nat):Rat)*P2 E:=by rw[qF];simp
 have h0:0<=(T:Rat)*P2 E:=bM cF (bA (mY E));refine⟨fun _=>⟨?_,by rw[e];exact rJ⟩,fun g hg L5=>⟨rfl,?_⟩⟩
 .rw [e]
  have iD:T<2^p:=kN.1 ae;by_cases hb:T+1<2^p
  .exact .inl ⟨T+1,E,kN.2 hb,h1,by have:=kN.2 hb;omega,rfl⟩
  .refine .inl ⟨1,(p:Int)+E,by rw[uE];exact hp,ae,by rw[uE];omega,?_⟩
   rw[show T+1=2^p by omega,qe,uA,show((1:Nat):Rat)=1 from rfl,ey]
 .rw [e]
  have Er:0<=g:= aq ;rcases R2 (E:=E) hT hp (hg.pos Er)with k|k
  .exfalso;grind
  .exact k
theorem acC{T p:Nat}{E:Int}(hT:ia T=p)(h1:-16384<=E)(h2:(p:Int)+E<=16384){v:Rat}(hv:v=(T:Rat)*P2 E):Up p v (canon false T E) 0:=by
 have e:(canon false T E).q=(T:Rat)*P2 E:=by rw[qF];simp
 exact⟨fun _=>⟨by rw[e];exact .inl ⟨T,E,ae,h1,ae,rfl⟩,by rw[e,hv];exact b9⟩,fun g _ hg=>⟨rfl,by rw[e,<-hv];exact hg⟩⟩
theorem abD{p:Nat}{v:Rat}{D D':Dy}{E':Int}(h:Dn p v D 0)(k:Dn p v D' E')(hc:D.lG)(xX:D'.lG):E'=0/\D'=D:=by
 obtain⟨g,hl⟩:=h.1 rfl;obtain⟨he,hle⟩:=k.2 _ g hl;obtain⟨g',pF⟩:=k.1 he;obtain⟨_,CK⟩:=h.2 _ g' pF;exact⟨he,Jf xX hc (dL CK hle)⟩
theorem alF{p:Nat}{v:Rat}{D D':Dy}{E':Int}(h:Up p v D 0)(k:Up p v D' E')(hc:D.lG)(xX:D'.lG):E'=0/\D'=D:=by
 obtain⟨g,hl⟩:=h.1 rfl;obtain⟨he,hle⟩:=k.2 _ g hl;obtain⟨g',pF⟩:=k.1 he;obtain⟨_,CK⟩:=h.2 _ g' pF;exact⟨he,Jf xX hc (dL hle CK)⟩
end Go.Proofs.YtdgnpeddgdclhaaGreatDoor.Fp
namespace Go.Proofs.YtdgnpeddgdclhaaGreatDoor
open Go.RowKit Fp Pu
theorem Uj{n k:Nat}(h1:4294967296^k<=n)(h2:n<4294967296^(k+1)):(gU n).length=k+1:=by
 have a:=qX h2;have b:¬(gU n).length<=k:=fun q=>absurd (ub q) ae 
 omega
theorem BB(v:Nat):v<4294967296^(gU v).length:=ub (aU _)
theorem EY{v l:Nat}(h:(gU v).length=l):iJ v l=gU v:=h▸KL v
theorem Ai(v k:Nat):(gU v).getD k 0=iz v k:=by rw[pB (kB v),jC]
theorem abm{v:Nat}(h:lO v 0 (gU v).length=0):iJ (2*v) (gU v).length=gU (2*v):=by
 have h1:=BB v;unfold lO at h;rw[bu h1,bt]at h;have h2:2*v<4294967296^(gU v).length:=by
  rcases dG (2*v) (4294967296^(gU v).length)with q|q
  .exact q
  .have:=fQ q (pw _);omega
 have a:=qX h2;have b:=lW (show v<=2*v by omega);exact EY ae 
theorem abn{v:Nat}(h:lO v 0 (gU v).length≠0):iJ (2*v) ((gU v).length+1)=gU (2*v)/\iz (2*v) (gU v).length=lO v 0 (gU v).length:=by
 have h1:=BB v;have e:=(GY (r:=v) (b:=0) ag (gU v).length)
 have h0:iz v (gU v).length=0:=uH h1 (aU _);refine⟨EY (Uj ?_ ?_),by have:=e.1;rw[bt,h0]at this;simpa using this⟩
 .unfold lO at h
  rw[bu h1,bt]at h;exact fi fun q=>h (bT q)
 .rw [aZ];omega
theorem akc{v:Nat}(h0:v≠0)(he:v%2=0):(gU v).set 0 (iz v 0+1)=gU (v+1):=by
 rw[yF h0,yF (show v+1≠0 by omega),ado];unfold iz;rw[bN,dC,show(v+1)%4294967296=v%4294967296+1 by omega,show(v+1)/4294967296=v/4294967296 by omega]
theorem ahx(a:Nat)(h:a<4294967296)(he:a%2=0):bits .or .u32 (a:Int) 1=((a+1:Nat):Int):=by
 have:=Jc (a/2) 1 ag;rwa[show 2*(a/2)%4294967296=a by omega]at this
theorem IK{v N:Nat}(iH:∀ k,k<N->iz v k=4294967295):∀ k,k<=N->iz 1 k+jy v 1 k=1
 | 0,_=>by rw[GP];decide
 |k+1,h=>by
  have a:=xI v 1 k;have b:=IK iH k ae;have c:=iH k ae;have d:=pA (v+1) k;have e:=sR v 1 (k+1);have f:iz 1 (k+1)=0:=uH (k:=1) ag ae;omega
theorem TM{v N:Nat}(iH:∀ k,k<N->iz v k=4294967295){k:Nat}(h:k<N):iz (v+1) k=0:=by
 have a:=xI v 1 k;have b:=IK iH k ae;have c:=iH k h;have d:=pA (v+1) k;have e:=sR v 1 (k+1);omega
theorem afg{v N:Nat}(iH:∀ k,k<N->iz v k=4294967295)(hd:iz v N≠4294967295):iz (v+1) N=iz v N+1/\jy v 1 (N+1)=0:=by
 have a:=xI v 1 N;have b:=IK iH N (aU _);have c:=pA v N;have d:=pA (v+1) N;have e:=sR v 1 (N+1);omega
theorem TL{v N:Nat}(hc:jy v 1 (N+1)=0):∀ j,jy v 1 (N+1+j)=0/\iz (v+1) (N+1+j)=iz v (N+1+j)
 | 0=>by
  have a:=xI v 1 (N+1);have f:iz 1 (N+1)=0:=uH (k:=1) ag ae;have c:=pA v (N+1);have e:=sR v 1 (N+1+1);have d:=pA (v+1) (N+1);rw[bt];omega
 |j+1=>by
  obtain⟨h1,h2⟩:=TL hc j;have a:=xI v 1 (N+1+j);have f:iz 1 (N+1+j)=0:=uH (k:=1) ag ae;have h3:jy v 1 (N+1+(j+1))=0:=by
   rw[show N+1+(j+1)=N+1+j+1 by omega];have d:=pA (v+1) (N+1+j);omega
  have a:=xI v 1 (N+1+(j+1));have f:iz 1 (N+1+(j+1))=0:=uH (k:=1) ag ae;have c:=pA v (N+1+(j+1));have d:=pA (v+1) (N+1+(j+1));have e:=sR v 1 (N+1+(j+1)+1);omega
theorem ag8{v N:Nat}(hN:N<(gU v).length)(iH:∀ k,k<N->iz v k=4294967295)(hd:iz v N≠4294967295):(kF 0 v N (gU v).length).set N (iz v N+1)=gU (v+1):=by
 obtain⟨h1,h2⟩:=afg iH hd;have ht:=BB v;have iD:v+1<4294967296^(gU v).length:=by
  rcases dG (v+1) (4294967296^(gU v).length)with q|q
  .exact q
  .exfalso
   have e:v+1=4294967296^(gU v).length:= ae ;have h3:iz (v+1) N=0:=by
    rw[e];unfold iz;obtain⟨j,hj⟩:∃ j,(gU v).length=N+(j+1):=⟨(gU v).length-N-1,ae⟩
    rw[hj,aV,amZ _ (pw N),aZ,eF]
   omega
 have hl:(gU (v+1)).length=(gU v).length:=Nat.le_antisymm (qX iD) (lW (Nat.le_succ v));rw[<-EY hl];unfold kF iJ;apply gF aj;intro i i1 i2;have i3:i<(gU v).length:=by simpa using i2
 rw[amW,gG,gG,amX];by_cases hi:N=i
 .subst hi;rw[aR rfl,h1]
 .rw [aQ hi]
  by_cases vV:i<N
  .rw [aR vV,AX,TM iH vV]
  .rw [aQ vV]
   have:=(TL h2 (i-(N+1))).2;rw[show N+1+(i-(N+1))=i by omega]at this;exact this.symm
theorem ag6{v:Nat}(iH:∀ k,k<(gU v).length->iz v k=4294967295):iJ (v+1) (gU v).length=iJ 0 (gU v).length/\iz (v+1) (gU v).length=1/\iJ (v+1) ((gU v).length+1)=gU (v+1):=by
 have e:iJ (v+1) (gU v).length=iJ 0 (gU v).length:=by
  unfold iJ;apply e9;intro k hk;rw[TM iH (bI.1 hk),AX]
 have ht:=BB v;have hv:=ux (v+1) (gU v).length;rw[e,ux,Nat.zero_mod]at hv;have pO:4294967296^(gU v).length<=v+1:=fi fun q=>by rw[bu q]at hv;omega
 refine⟨e,?_,EY (Uj pO (by rw[aZ];have:=pw (gU v).length;omega))⟩;have a:=xI v 1 (gU v).length;have b:=IK iH _ (aU _);have c:iz v (gU v).length=0:=uH ht (aU _);have d:=pA (v+1) (gU v).length;have f:=sR v 1 ((gU v).length+1);omega
theorem XW{v l:Nat}(hl:(gU v).length=l+1):iz v l≠0/\ia v=32*l+ia (iz v l):=by
 have h1:=BB v;rw[hl]at h1;have h2:4294967296^l<=v:=fi fun q=>by have:=qX q;omega
 have h3:iz v l≠0:=by
  unfold iz;have a:=fQ h2 (pw l);have b:v/4294967296^l<4294967296:=by rw[bR (pw l),a7,<-aZ];exact h1
  rw[bu b];omega
 exact⟨h3,P0 h1 h3⟩
theorem Z4{v l:Nat}(_:(gU v).length=l+1):ia (iz v l)<=32:=kN.2 (pA v l)
theorem ZQ{t x:Nat}(h:x<32-ia t):t/2^(31-x)%2=0:=by
 have h1:=oM t;have h2:=bh (show 0<2 by decide) (show ia t<=31-x by omega);rw[bT ae]
theorem ZS{t x:Nat}(h0:t≠0)(h:x=32-ia t)(hb:ia t<=32):t/2^(31-x)%2=1:=by
 have h1:=oM t;have h2:=rj h0;have h3:=mR h0;have e:31-x=ia t-1:= ae ;rw[e];have h4:2^ia t=2*2^(ia t-1):=by
  obtain⟨k,hk⟩:∃ k,ia t=k+1:=⟨ia t-1,ae⟩
  rw[hk,dE,aZ,a7]
 have h5:t/2^(ia t-1)<2:=by rw[bR (aY ag)];omega
 have h6:=fQ h2 (aY (n:=ia t-1) (show 0<2 by decide));omega
theorem PY{v i:Nat}:iz v (i/32)/2^(i%32)%2=v/2^i%2:=by
 by_cases h:i/32<(gU v).length
 .have:=Kn (kB v) i h
  rw[jC]at this;rw[this,<-Ai,aW,bd h];rfl
 .have h1:=BB v
  have h2:=bh (show 0<4294967296 by decide) (fi h);have h3:v<4294967296^(i/32):= ae ;rw[uH h3 (aU _),fL];have h4:4294967296^(i/32)<=2^i:=by rw[nD];exact bh ag ae 
  rw[bT ae]
theorem ZR{v i:Nat}(h:32*(gU v).length<=i):v/2^i%2=0:=by
 have h1:=BB v;rw[nD]at h1;have h2:=bh (show 0<2 by decide) h;rw[bT ae]
theorem IU(w k:Nat):w%2^(k+1)=w%2^k+w/2^k%2*2^k:=by
 rw[aZ,fK,a7 (2^k)]
theorem Nv{w k:Nat}(hk:k<32)(hw:w<4294967296):bits .or .u32 ((w%2^k:Nat):Int) ((w/2^k%2*2^k:Nat):Int)=((w%2^(k+1):Nat):Int):=by
 have a:=bg w (aY (n:=k) (show 0<2 by decide));have b:=bg (w/2^k) (show 0<2 by decide);have c:=IU w k;have d:=dk w (2^(k+1));have e:=dk w (2^k);rw[F5 _ _ ae ae,Aq _ _ _ a,c]
theorem Oi{b k:Nat}(hk:k<32)(hb:b<=1):IntKind.u32.wrap ((b:Int)*2^k)=((b*2^k:Nat):Int):=by
 have h1:b*2^k<=1*2^31:=cK hb (bh ag ae);rw[IntKind.wrap_u32];have e:((b:Int)*2^k)=((b*2^k:Nat):Int):=by
  rw[dH,Int.natCast_pow];rfl
 rw[e];omega
theorem QP{w y k:Nat}(hk:k<32):iz w y/2^k%2=w/2^(32*y+k)%2:=by
 have:=PY (v:=w) (i:=32*y+k);rwa[show(32*y+k)/32=y by omega,show(32*y+k)%32=k by omega]at this
theorem EX{w y:Nat}:y<(gU w).length↔32*y<ia w:=by
 constructor
 .intro h
  obtain⟨l,hl⟩:∃ l,(gU w).length=l+1:=⟨(gU w).length-1,ae⟩
  obtain⟨a,b⟩:=XW hl;have:=mR a;omega
 .intro h
  apply gE;intro q;have h1:=ub q;rw[nD]at h1;have:=kN.2 h1;omega
theorem P3{v s:Nat}(h:s<=ia v):ia (v/2^s)=ia v-s:=by
 by_cases h0:v/2^s=0
 .rw [h0,qR]
  have h1:v<2^s:=by
   rcases dG v (2^s)with q|q
   .exact q
   .have:=fQ q (aY ag);omega
  have:=kN.2 h1;omega
 .have h2:v≠0:=fun q=>h0 (by rw[q,fL])
  have a:=oM v;have b:=rj h2;have hs:s<ia v:=by
   rcases dG s (ia v)with q|q
   .exact q
   .exfalso;apply h0;apply bT
    exact bD a (bh ag q)
  obtain⟨k,hk⟩:∃ k,ia v=s+(k+1):=⟨ia v-s-1,ae⟩
  rw[hk]at a b;rw[hk,Nat.add_sub_cancel_left];refine uD ?_ ?_
  .rw [cL (aY ag),<-aV]
   rw[show s+(k+1)-1=k+s by omega]at b;exact b
  .rw [bR (aY ag),<-aV,dR (k+1)]
   exact a
theorem abh{v:Nat}(h:v≠0):jO v<ia v:=by
 have:=Dh h;exact r7.2 this
open Go.RowKit Fp Pu
def PZ(v l N:Nat)(x:Nat):PS:=⟨29,true,[(4,.e (iP (((31-x):Nat):Int))),(3,.e (iP l)),(0,.e (gX (gU v)))],[]⟩
def JA(v:Nat)(x:Nat):PS:=⟨38,false,[(5,.own 5),(7,.e (iP x)),(6,.e (.v (.int .u32 (lO v 0 x:Int)))),(0,.e (gX (gU v)))],[(5,.row false 79 x 1 (jb (iJ (2*v) x)))]⟩
theorem ZU(v l N:Nat)(hl:(gU v).length=l+1)(hs:l<=1000000)(h0:((gU v).getD l 0)≠0)(hN:N=32-ia ((gU v).getD l 0))(LN:ia ((gU v).getD l 0)<=32)(iZ:1<=ia ((gU v).getD l 0))(hv:ia v=32*l+ia ((gU v).getD l 0)):gV 265 [(gX (gU v))] (iP (ia v)):=by
 exact tr true Tryz.call265 Tryz.func265 (chain [iq (((gU v).length:Int)-1) ae,.o 7 (.int ae:PV.le (.e (iP (((gU v).length:Int)-1))) (.e (iP l))),.u 70,tT 9 (0<=(l:Int)) ae,.s (Sp.jv (PZ v l N) 0 N ae (fun x hx kf=>by
    have hX:=(kB v).getD l;have hd:=bw ((gU v).getD l 0) (2^(31-x));have hb:=ZQ (t:=((gU v).getD l 0)) (x:=x) ae;exact iB (chain [tT 13 (0<=(((31-x):Nat):Int)) ae,iX ((l:Int)) ((gU v).length) ae,.a (ae:0<=((((31-x):Nat):Int):Int)/\((((31-x):Nat):Int):Int)<=((32:Nat):Int)),.o 21 (.int (yT _ _):PV.le (.e (.v (.int .u32 (((((gU v).getD l 0):Nat):Int)/2^(31-x))))) (.e (.v (.int .u32 (((((gU v).getD l 0)/2^(31-x)):Nat):Int))))),.o 22 (.int (JO _ ae):PV.le (.e (.v (.int .u32 (bits .and .u32 (((((gU v).getD l 0)/2^(31-x)):Nat):Int) 1)))) (.e (.v (.int .u32 ((((((gU v).getD l 0)/2^(31-x))%2):Nat):Int))))),tB 23 (aJ ae:(((((((gU v).getD l 0)/2^(31-x))%2):Nat):Int)==1)=false),iq ((((31-x):Nat):Int)-1) ae]<|.e (chain [.o 4 (.int ae:PV.le (.e (iP ((((31-x):Nat):Int)-1))) (.e (iP (((31-(x+1)):Nat):Int))))]<|.nil)) ah)
  (fun hx=>by
    have hX:=(kB v).getD l;have hd:=bw ((gU v).getD l 0) (2^(31-N));have hb:=ZS (t:=((gU v).getD l 0)) (x:=N) h0 hN LN;exact iB (chain [tT 13 (0<=(((31-N):Nat):Int)) ae,iX ((l:Int)) ((gU v).length) ae,.a (ae:0<=((((31-N):Nat):Int):Int)/\((((31-N):Nat):Int):Int)<=((32:Nat):Int)),.o 21 (.int (yT _ _):PV.le (.e (.v (.int .u32 (((((gU v).getD l 0):Nat):Int)/2^(31-N))))) (.e (.v (.int .u32 (((((gU v).getD l 0)/2^(31-N)):Nat):Int))))),.o 22 (.int (JO _ ae):PV.le (.e (.v (.int .u32 (bits .and .u32 (((((gU v).getD l 0)/2^(31-N)):Nat):Int) 1)))) (.e (.v (.int .u32 ((((((gU v).getD l 0)/2^(31-N))%2):Nat):Int))))),tB 23 (aK ae:(((((((gU v).getD l 0)/2^(31-N))%2):Nat):Int)==1)=true),iq (32*(l:Int)) ae,iq ((((32*l):Nat):Int)+(((31-N):Nat):Int)) ae,
    iq (((((32*l)+(31-N)):Nat):Int)+1) ae]<|.nil) ah) ak:jq 5 Tryz.f265 (PZ v l N 0) .ret ⟨29,true,[(2,.e (iP (((((32*l)+(31-N))+1):Nat):Int)))],[]⟩) (chain [.o 4 (.int ae:PV.le (.e (iP 31)) (.e (iP (((31-0):Nat):Int))))]<|.nil)]<|rQ (iP (((((32*l)+(31-N))+1):Nat):Int)) (iP (ia v)) (congrArg iP ae)) ah 
theorem ZV : gV 265 [(gX (gU 0))] (iP 0):=by
 have z:(gU 0).length=0:=by rw[nh];rfl
 exact tr true Tryz.call265 Tryz.func265 (chain [iq (((gU 0).length:Int)-1) ae,.u 70,tF 9 (0<=(((gU 0).length:Int)-1)) (by rw[nh];decide)]<|.nil) ah 
theorem GJ(v:Nat)(h:(gU v).length<=1000000):gV 265 [gX (gU v)] (iP (ia v)):=by
 rcases hl:(gU v).length with _|l
 .obtain rfl:=qN.1 hl
  exact ZV
 .obtain ⟨a,b⟩:=XW hl
  have c:=Z4 hl;have d:=mR a;rw[<-Ai]at a b c d;exact ZU v l _ hl ae a rfl c d b
theorem GI(v i:Nat)(h:(gU v).length<=1000000)(hi:i<=1000000000):gV 266 [(gX (gU v)),(iP i)] (iP ((v/2^i%2:Nat):Int)):=by
 have hX:=(kB v).getD (i/32);have hd:=bw ((gU v).getD (i/32) 0) (2^(i%32));exact tr true Tryz.call266 Tryz.func266 (chain [tF 6 ((i:Int)<0) ae,iq (32*((gU v).length:Int)) ae]<|.w ((((32*(gU v).length):Nat):Int)<=(i:Int))
  (fun k1=>chain [tB 12 (aS k1)]<|rQ (iP 0) (iP ((v/2^i%2:Nat):Int)) (congrArg (fun x:Nat=>iP (x:Int)) (ZR ae).symm))
  (fun k1=>chain [tB 12 (aT k1),.a (ae:0<(32:Int)),iq ((i:Int)) ae,iX ((((i/32):Nat):Int)) ((gU v).length) ae,.a (ae:0<(32:Int)),.a (ae:0<=((((i%32):Nat):Int):Int)/\((((i%32):Nat):Int):Int)<=((32:Nat):Int)),.o 21 (.int (yT _ _):PV.le (.e (.v (.int .u32 (((((gU v).getD (i/32) 0):Nat):Int)/2^(i%32))))) (.e (.v (.int .u32 (((((gU v).getD (i/32) 0)/2^(i%32)):Nat):Int))))),.o 22 (.int (JO _ ae):PV.le (.e (.v (.int .u32 (bits .and .u32 (((((gU v).getD (i/32) 0)/2^(i%32)):Nat):Int) 1)))) (.e (.v (.int .u32 ((((((gU v).getD (i/32) 0)/2^(i%32))%2):Nat):Int))))),.o 23 (.int (Mu _ ae):PV.le (.e (iP (IntKind.i64.wrap ((((((gU v).getD (i/32) 0)/2^(i%32))%2):Nat):Int)))) (.e (iP ((((((gU v).getD (i/32) 0)/2^(i%32))%2):Nat):Int))))]<|rQ (iP ((((((gU v).getD (i/32) 0)/2^(i%32))%2):Nat):Int)) (iP ((v/2^i%2:Nat):Int)) (by rw[Ai,PY]))) ah 
theorem akd(v:Nat)(h:(gU v).length<=1000000)(oD:(lO v 0 (gU v).length)=0):gV 263 [(gX (gU v)),(.v (.int .u64 0))] (gX (gU (2*v))):=by
 exact tr false Tryz.call263 Tryz.func263 (chain [.o 9 (.int ag:PV.le (.e (.v (.int .u32 (IntKind.u32.wrap 0)))) (.e (.v (.int .u32 0)))),.y 5 5 false 79 1 (jb (iJ (2*v) 0)),.s (Sp.jv (JA v) 0 ((gU v).length) ae (fun x hx kf=>by
    have he:=GY (r:=v) (b:=0) ag x;rw[bt,<-Ai v x]at he;have hc:=GX (r:=v) (b:=0) ag x;have hX:=(kB v).getD x;have hz:(((2*((gU v).getD x 0)%4294967296)+(lO v 0 x):Nat):Int)=(iz (2*v) x:Int):=by rw[he.1]
    have hq:((gU v).getD x 0)/2^31=lO v 0 (x+1):=by rw[he.2]
    exact iB (chain [tT 13 ((x:Int)<((gU v).length:Int)) ae,iX ((x:Int)) ((gU v).length) ae,.a (ae:0<=(1:Int)/\(1:Int)<=((32:Nat):Int)),.o 21 (.int (Oh _):PV.le (.e (.v (.int .u32 (IntKind.u32.wrap (((((gU v).getD x 0):Nat):Int)*2^1))))) (.e (.v (.int .u32 (((2*((gU v).getD x 0)%4294967296):Nat):Int))))),.o 23 (.int (Jc _ _ hc):PV.le (.e (.v (.int .u32 (bits .or .u32 (((2*((gU v).getD x 0)%4294967296):Nat):Int) (lO v 0 x:Int))))) (.e (.v (.int .u32 ((((2*((gU v).getD x 0)%4294967296)+(lO v 0 x)):Nat):Int))))),.a (ae:(x+1)*4<=140737488355328),iX ((x:Int)) ((gU v).length) ae,.a (ae:0<=(31:Int)/\(31:Int)<=((32:Nat):Int)),.o 30 (.int (yT _ _):PV.le (.e (.v (.int .u32 (((((gU v).getD x 0):Nat):Int)/2^31)))) (.e (.v (.int .u32 (((((gU v).getD x 0)/2^31):Nat):Int))))),iq ((x:Int)+1) ae]<|.e (chain [.o 6 (.int (by rw[hq]):PV.le (.e (.v (.int .u32 (((((gU v).getD x 0)/2^31):Nat):Int)))) (.e (.v (.int .u32 (lO v 0 (x+1):Int))))),.b 5 (Ah rfl hz:Bx.le (.row false 79 (x+1) 1 (fun i_ j_=>if i_<x then(jb (iJ (2*v) x)) i_ j_ else(E.lZ (.sl false 1 1 fun i_ j_=>[(.v (.int .u32 ((((2*((gU v).getD x 0)%4294967296)+(lO v 0 x)):Nat):Int)))].getD (i_*1+j_) (.v (.bool false)))) (i_-x) j_)) (.row false 79 (x+1) 1 (jb (iJ (2*v) (x+1)))))]<|.nil)) ah)
  (fun hx=>by
    exact iB (chain [tF 13 (((gU v).length:Int)<((gU v).length:Int)) ae]<|.nil) ah) ak:jq 4 Tryz.f263 (JA v 0) (.exit 0) ⟨38,false,[(5,.own 5),(6,.e (.v (.int .u32 (((lO v 0 (gU v).length):Nat):Int))))],[(5,.row false 79 ((gU v).length) 1 (jb (iJ (2*v) ((gU v).length))))]⟩) (chain [.o 6 (.int (by rw[KK];rfl):PV.le (.e (.v (.int .u32 0))) (.e (.v (.int .u32 (lO v 0 0:Int)))))]<|.nil),tB 32 (BE oD:((((lO v 0 (gU v).length):Nat):Int) != 0)=false)]<|rQ (.sl false ((gU v).length) 1 (jb (iJ (2*v) ((gU v).length)))) (gX (gU (2*v))) (by rw[AH (mC _ _).symm,abm oD])) ah 
theorem af9{N l c:Nat}{L:List Nat}(h1:iJ N (l+1)=L)(h2:iz N l=c):E.le (.sl false (l+1) 1 fun i_ j_=>if i_<l then jb (iJ N l) i_ j_ else(E.lZ (.sl false 1 1 fun i_ j_=>[(.v (.int .u32 (c:Int)))].getD (i_*1+j_) (.v (.bool false)))) (i_-l) j_) (gX L):=by
 subst h1 h2;rw[<-AH (mC N (l+1)).symm];refine .sl fun i j hi hj=>?_
 obtain rfl:j=0:= ae ;by_cases h:i<l
 .simp only[h,bk]
  exact⟨.iS (by unfold jb;rw[sT h,sT ae]),rfl⟩
 .obtain rfl:i=l:= ae 
  simp only[fj,a6,cT];exact⟨.iS (by unfold jb;rw[sT ae];rfl),rfl⟩
theorem ake(v:Nat)(h:(gU v).length<=1000000)(oD:(lO v 0 (gU v).length)≠0):gV 263 [(gX (gU v)),(.v (.int .u64 0))] (gX (gU (2*v))):=by
 obtain⟨h1,h2⟩:=abn oD;exact tr false Tryz.call263 Tryz.func263 (chain [.o 9 (.int ag:PV.le (.e (.v (.int .u32 (IntKind.u32.wrap 0)))) (.e (.v (.int .u32 0)))),.y 5 5 false 79 1 (jb (iJ (2*v) 0)),.s (Sp.jv (JA v) 0 ((gU v).length) ae (fun x hx kf=>by
    have he:=GY (r:=v) (b:=0) ag x;rw[bt,<-Ai v x]at he;have hc:=GX (r:=v) (b:=0) ag x;have hX:=(kB v).getD x;have hz:(((2*((gU v).getD x 0)%4294967296)+(lO v 0 x):Nat):Int)=(iz (2*v) x:Int):=by rw[he.1]
    have hq:((gU v).getD x 0)/2^31=lO v 0 (x+1):=by rw[he.2]
    exact iB (chain [tT 13 ((x:Int)<((gU v).length:Int)) ae,iX ((x:Int)) ((gU v).length) ae,.a (ae:0<=(1:Int)/\(1:Int)<=((32:Nat):Int)),.o 21 (.int (Oh _):PV.le (.e (.v (.int .u32 (IntKind.u32.wrap (((((gU v).getD x 0):Nat):Int)*2^1))))) (.e (.v (.int .u32 (((2*((gU v).getD x 0)%4294967296):Nat):Int))))),.o 23 (.int (Jc _ _ hc):PV.le (.e (.v (.int .u32 (bits .or .u32 (((2*((gU v).getD x 0)%4294967296):Nat):Int) (lO v 0 x:Int))))) (.e (.v (.int .u32 ((((2*((gU v).getD x 0)%4294967296)+(lO v 0 x)):Nat):Int))))),.a (ae:(x+1)*4<=140737488355328),iX ((x:Int)) ((gU v).length) ae,.a (ae:0<=(31:Int)/\(31:Int)<=((32:Nat):Int)),.o 30 (.int (yT _ _):PV.le (.e (.v (.int .u32 (((((gU v).getD x 0):Nat):Int)/2^31)))) (.e (.v (.int .u32 (((((gU v).getD x 0)/2^31):Nat):Int))))),iq ((x:Int)+1) ae]<|.e (chain [.o 6 (.int (by rw[hq]):PV.le (.e (.v (.int .u32 (((((gU v).getD x 0)/2^31):Nat):Int)))) (.e (.v (.int .u32 (lO v 0 (x+1):Int))))),.b 5 (Ah rfl hz:Bx.le (.row false 79 (x+1) 1 (fun i_ j_=>if i_<x then(jb (iJ (2*v) x)) i_ j_ else(E.lZ (.sl false 1 1 fun i_ j_=>[(.v (.int .u32 ((((2*((gU v).getD x 0)%4294967296)+(lO v 0 x)):Nat):Int)))].getD (i_*1+j_) (.v (.bool false)))) (i_-x) j_)) (.row false 79 (x+1) 1 (jb (iJ (2*v) (x+1)))))]<|.nil)) ah)
  (fun hx=>by
    exact iB (chain [tF 13 (((gU v).length:Int)<((gU v).length:Int)) ae]<|.nil) ah) ak:jq 4 Tryz.f263 (JA v 0) (.exit 0) ⟨38,false,[(5,.own 5),(6,.e (.v (.int .u32 (((lO v 0 (gU v).length):Nat):Int))))],[(5,.row false 79 ((gU v).length) 1 (jb (iJ (2*v) ((gU v).length))))]⟩) (chain [.o 6 (.int (by rw[KK];rfl):PV.le (.e (.v (.int .u32 0))) (.e (.v (.int .u32 (lO v 0 0:Int)))))]<|.nil),tB 32 (Fi oD:((((lO v 0 (gU v).length):Nat):Int) != 0)=true),.a (ae:((gU v).length+1)*4<=140737488355328)]<|rR (gX (gU (2*v))) (af9 h1 h2:E.le (.sl false ((gU v).length+1) 1 (fun i_ j_=>if i_<(gU v).length then(jb (iJ (2*v) ((gU v).length))) i_ j_ else(E.lZ (.sl false 1 1 fun i_ j_=>[(.v (.int .u32 (((lO v 0 (gU v).length):Nat):Int)))].getD (i_*1+j_) (.v (.bool false)))) (i_-(gU v).length) j_)) (gX (gU (2*v))))) ah 
theorem Xd(v:Nat)(h:(gU v).length<=1000000):gV 263 [gX (gU v),.v (.int .u64 0)] (gX (gU (2*v))):=by
 by_cases hc:(lO v 0 (gU v).length)=0
 .exact akd v h hc
 .exact ake v h hc
theorem agc{L M:List Nat}{n z:Nat}(hn:n=0+L.length)(hs:L.set 0 z=M):E.le (.sl false n 1 fun i' j'=>if i'=0/\0<=j'/\j'<0+1 then[(.v (.int .u32 (z:Int)))].getD (j'-0) .any else(fun i_ j_=>if i_<0 then(fun i_ j_=>([]:List E).getD (i_*1+j_) (.v (.bool false))) i_ j_ else(E.lZ (gX L)) (i_-0) j_) i' j') (gX M):=by
 subst hs;have e:n=(L.set 0 z).length:=by rw[cv];omega
 rw[<-AH e];refine .sl fun i j hi hj=>?_
 obtain rfl:j=0:= ae ;have oL:i<L.length:= ae ;by_cases h:i=0
 .subst h
  simp only[true_and,aU,amR,bk,bX];exact⟨.iS (by show _=E.v (.int .u32 (((L.set 0 z).getD 0 0:Nat):Int));rw[aW (l:=L.set 0 z),List.getElem?_set_self oL];rfl),rfl⟩
 .simp only[h,false_and,a6,bj,dh]
  exact⟨.iS (by show E.v (.int .u32 (L.getD i 0:Int))=_;unfold jb;rw[aW,aW,gq (fun q=>h q.symm)]),rfl⟩
theorem aka : gV 264 [(gX (gU 0))] (gX (gU (0+1))):=by
 exact tr true Tryz.call264 Tryz.func264 (chain [tB 6 (by rw[nh];rfl:(((gU 0).length:Int)==0)=true),.o 7 (.e rN:PV.le (.e (.sl false 1 1 fun i_ j_=>[(.v (.int .u32 1))].getD (i_*1+j_) (.v (.bool false)))) (.e (gX (gU 1))))]<|.nil) ah 
theorem aj9(v:Nat)(hl:1<=(gU v).length)(hs:(gU v).length<=1000000)(he:v%2=0):gV 264 [(gX (gU v))] (gX (gU (v+1))):=by
 have hX:=(kB v).getD 0;have pE:((gU v).getD 0 0)%2=0:=by rw[Ai];unfold iz;rw[bN,dC];omega
 have h0:v≠0:=fun q=>by subst q;rw[nh]at hl;exact absurd hl ag 
 exact tr false Tryz.call264 Tryz.func264 (chain [tB 6 (aJ ae:(((gU v).length:Int)==0)=false),.bo,.a (ae:(0+(gU v).length)*4<=140737488355328),iX (0) ((0+(gU v).length)) ae,.a (ae:0<(0+(gU v).length)),.o 15 (.int (ahx _ hX pE):PV.le (.e (.v (.int .u32 (bits .or .u32 ((((gU v).getD 0 0):Nat):Int) 1)))) (.e (.v (.int .u32 (((((gU v).getD 0 0)+1):Nat):Int))))),
  iX (0) ((0+(gU v).length)) ae,.a (ae:0<(0+(gU v).length))]<|rR (gX (gU (v+1))) (agc ae (by rw[Ai];exact akc h0 he):E.le (.sl false (0+(gU v).length) 1 (fun i' j'=>if i'=0/\0<=j'/\j'<0+1 then[(.v (.int .u32 (((((gU v).getD 0 0)+1):Nat):Int)))].getD (j'-0) .any else(fun i_ j_=>if i_<0 then(fun i_ j_=>([]:List E).getD (i_*1+j_) (.v (.bool false))) i_ j_ else(E.lZ (gX (gU v))) (i_-0) j_) i' j')) (gX (gU (v+1))))) ah 
theorem Xc(v:Nat)(hs:(gU v).length<=1000000)(he:v%2=0):gV 264 [gX (gU v)] (gX (gU (v+1))):=by
 by_cases h:(gU v).length=0
 .obtain rfl:=qN.1 h
  exact aka
 .exact aj9 v ae hs he
open Go.RowKit Fp Pu
theorem ZT(v:Nat)(A:Option Addr)(c:Nat)(w:World)(hs:Sl w A c (gU v))(hT:Tb w)(h:(gU v).length<=1000000):
 Calls Tryz.prog 265 #[.slice A (gU v).length c] w (fun e w'=>e = .returned (.int .i64 (ia v:Int))/\iy w w'):=by
 refine((GJ v h).run w (fun _=>False) [_] hT (fun _ h=>h.elim) (.cons (xy (fun _ h=>h.elim) (iy.refl w) hs) (.nil _ _ _))).mono ?_;rintro e w' ⟨x,rfl,hb,hr⟩;obtain rfl:=iG.kJ hr;exact⟨rfl,hb⟩
theorem ZO(v i:Nat)(A:Option Addr)(c:Nat)(w:World)(hs:Sl w A c (gU v))(hT:Tb w)(h:(gU v).length<=1000000)(hi:i<=1000000000):
 Calls Tryz.prog 266 #[.slice A (gU v).length c,.int .i64 (i:Int)] w (fun e w'=>e = .returned (.int .i64 ((v/2^i%2:Nat):Int))/\iy w w'):=by
 refine((GI v i h hi).run w (fun _=>False) [_,_] hT (fun _ h=>h.elim) (.cons (xy (fun _ h=>h.elim) (iy.refl w) hs) (.cons (.v _) (.nil _ _ _)))).mono ?_;rintro e w' ⟨x,rfl,hb,hr⟩;obtain rfl:=iG.kJ hr;exact⟨rfl,hb⟩
theorem Ow.xT{w:World}{base:Nat}{v:Value}{L:List Nat}(h:Ow w base v L){g:Nat}(hg:g<base)(i:Nat)(u:Value):Ow (w.setCell ⟨g,i,none⟩ u) base v L:=
 ⟨ownsRow_setCell_below h.row hg u,h.ok⟩
theorem Ow.ext{w w':World}{base:Nat}{v:Value}{L:List Nat}(h:Ow w base v L)(hb:iy w w'):Ow w' base v L:=by
 refine⟨⟨h.row.1,?_⟩,h.ok⟩;rcases h.row.2 with q|⟨g,cap,cur,e1,e2,e3,r⟩
 .exact .inl q
 .exact .inr ⟨g,cap,cur,e1,e2,by rw[hb.block g (cP.1 e3).1];exact e3,r⟩
theorem Ow.mono{w:World}{base base':Nat}{v:Value}{L:List Nat}(h:Ow w base v L)(hb:base'<=base):Ow w base' v L:=by
 refine⟨⟨h.row.1,?_⟩,h.ok⟩;rcases h.row.2 with q|⟨g,cap,cur,e1,e2,r⟩
 .exact .inl q
 .exact .inr ⟨g,cap,cur,e1,aX hb e2,r⟩
theorem jg.aj8{w:World}{g n c:Nat}{s:Bool}{A:Option Addr}{e:Int}(h:jg w g s A n c e)(A':Option Addr)(n' c':Nat):jg (w.setCell ⟨g,1,none⟩ (.slice A' n' c')) g s A' n' c' e:=heap_setCell_same w g 1 _ _ (.slice A' n' c') h
theorem jg.grown{w w':World}{g n c base:Nat}{s:Bool}{A:Option Addr}{e:Int}{v:Value}{L:List Nat}(h:jg w g s A n c e)(ho:Ow w base v L)(hg:w.grownBy w' v.ownBlock)(hb:g<base):jg w' g s A n c e:=
 (hg.block g h.lt (fun q=>by have:=(ho.row.lt g q.symm).1;omega)).trans h
theorem agt(v:Nat)(e:Int)(A:Option Addr)(c:Nat)(w:World)(h0:v≠0)(hs:Sl w A c (gU v))(hT:Tb w)(hl:(gU v).length<=1000)(kQ:-100000<=e)(kx:e<=100000):
 Calls Tryz.prog 267 #[.bool false,.slice A (gU v).length c,.int .i64 e] w (tv w (canon false v e)):=by
 have oD:=Lib.hid (show canon false v e=⟨false,v/2^jO v,e+jO v⟩by unfold canon;rw[aQ h0]);have hZ:=abh h0;have hB:ia v<=32*1000:=by
  have:=ub (aU (gU v).length);rw[nD]at this;have:=kN.2 this;omega
 have pH:(((ia v:Int)==0))=false:=aJ ae;have Ba:=Lib.hid (fun A c w (hs:Sl w A c (gU v)) hT=>ZT v A c w hs hT ae);have sX:=Lib.hid (fun i A c w (hs:Sl w A c (gU v)) hT hi=>ZO v i A c w hs hT ae hi);obtain⟨m,hm⟩:∃ m,m=(gU v).length:=⟨_,rfl⟩
 rw[<-hm]at Ba sX ⊢;have HM:=Lib.hid hm;clear hm;obtain⟨n,hn⟩:∃ n,n=ia v:=⟨_,rfl⟩
 rw[<-hn]at Ba hZ hB pH;have HN:=Lib.hid hn;clear hn;obtain⟨Z,LG⟩:∃ Z,Z=jO v:=⟨_,rfl⟩
 rw[<-LG]at hZ oD;have HZ:=Lib.hid LG;clear LG;go_enter Tryz.func267,Tryz.ntmps267;go_wp2_with fail;refine(Ba.out A c _ (hs.alloc _) (hT.alloc _)).mono ?_;rintro e' w1 ⟨rfl,iZ⟩;go_wp2;have yy:∀ k,k<Z->v/2^k%2=0:=fun k hk=>by rw[HZ.out]at hk;exact PX h0 hk
 have s9:v/2^Z%2=1:=by rw[HZ.out];exact PW h0
 have HZ1:=Lib.hid yy;clear yy;have HZ2:=Lib.hid s9;clear s9;have sF:=hs.below ((iy.alloc w _).trans iZ);have hT1:=hT.below ((iy.alloc w _).trans iZ);have we:=(iy.alloc w _).trans iZ;go_loopw [8] (fun i wr=>∃ k:Nat,k<=Z/\i = .int .i64 (k:Int)/\iy w1 wr) (fun i _=>Z-(intOf i).toNat)
 case atStart=>exact⟨0,bL _,rfl,iy.refl _⟩
 case round=>
  obtain⟨k,hk,rfl,mc⟩:=hrel;have ky:=sF.below mc;have vO:=hT1.below mc;have qW:=we.trans mc;go_wp2_with fail;refine(sX.out k A c _ ky vO ae).mono ?_;rintro e'' w3 ⟨rfl,pn⟩;by_cases hkZ:k<Z
  .rw [HZ1.out k hkZ]
   have yx:IntKind.i64.wrap ((k:Int)+1)=((k+1:Nat):Int):=by rw[IntKind.wrap_i64];omega
   go_wp2;go_roundw
   case rel=>exact⟨k+1,ae,by go_num,mc.trans pn⟩
   case measure=>simp[intOf];omega
  .obtain rfl:k=Z:= ae 
   rw[HZ2.out];have hx3:=qW.trans pn;have CS:=ky.below pn;have hT3:=vO.below pn;have IC:IntKind.i64.wrap (e+(k:Int))=e+(k:Int):=by rw[IntKind.wrap_i64];omega
   go_wp2;have GL:=jg.new w3 false none 0 0 (e+(k:Int));have Tx:=iZ.trans (mc.trans pn);have hg:=Tx.size;have Tw:=Tx.trans (iy.alloc w3 (.cells #[.bool false,.slice none 0 0,.int .i64 (e+(k:Int))] 31));obtain⟨g9,SP⟩:∃ g,g=w3.heap.size:=⟨_,rfl⟩
   rw[<-SP]at GL hg ⊢;generalize w3.alloc (.cells #[.bool false,.slice none 0 0,.int .i64 (e+(k:Int))] 31)=w5 at *
   clear SP;have tU:=hs.alloc (.cells #[.bool false,.slice none 0 0,.int .i64 0] 31);have hTW:=hT.alloc (.cells #[.bool false,.slice none 0 0,.int .i64 0] 31);have bx6:=jg.new w false none 0 0 0;generalize hW:w.alloc (.cells #[.bool false,.slice none 0 0,.int .i64 0] 31)=W at *
   have hwW:iy w W:=hW▸iy.alloc w _;have HW:g9<w5.heap.size:=GL.lt;obtain⟨V,hV⟩:∃ V,V=v/2^k:=⟨_,rfl⟩
   have HV:=Lib.hid hV;rw[<-hV]at oD;have hVb:ia V+k=n:=by rw[hV,P3 (by rw[<-HN.out];omega),<-HN.out];omega
   have Sz:∀ i,i<1000000->v/2^(k+i)%2=V/2^i%2:=fun i _=>by rw[hV,cz,<-aV]
   have HBV:=Lib.hid Sz;clear Sz hV;have St:∀ y,y<(gU V).length↔32*y<ia V:=fun y=>EX
   have HYB:=Lib.hid St;clear St;obtain⟨Y,hY⟩:∃ Y,Y=(gU V).length:=⟨_,rfl⟩
   rw[<-hY]at HYB;have HY:=Lib.hid hY;clear hY;obtain⟨E9,R9⟩:∃ E9,E9=e+(k:Int):=⟨_,rfl⟩
   rw[<-R9]at oD GL;clear R9;go_loopw [10] (fun i wr=>∃ (y:Nat) (O:List Nat) (OA:Option Addr) (Oc:Nat),y<=Y/\i = .int .i64 ((k+32*y:Nat):Int)/\O=(gU V).take y/\Ow wr w5.heap.size (.slice OA O.length Oc) O/\jg wr g9 false OA O.length Oc E9/\iy W wr/\w5.heap.size<=wr.heap.size) (fun i _=>k+32*Y-(intOf i).toNat)
   case atStart=>exact⟨0,[],none,0,bL _,by go_num,aj,Ow.nil _ _,GL,Tw,aU _⟩
   case round=>
    obtain⟨y,O,OA,Oc,hy,rfl,hO,k0,iT,EM,lI⟩:=hrel;have hsr:=tU.below EM;have Hz:=hTW.below EM;obtain⟨I,hI⟩:∃ I,I=k+32*y:=⟨_,rfl⟩
    rw[<-hI];by_cases iD:y<Y
    .have h1:=(HYB.out y).1 iD
     have ht:decide ((I:Int)<(n:Int))=true:=aS ae;have zW:I<n:= ae ;have EI:decide (I<n)=true:=aS zW;have hIb:I<=40000:= ae ;have hD:iz V y<4294967296:=pA V y;have Sy:∀ j,j<32->v/2^(I+j)%2=iz V y/2^j%2:=fun j hj=>by
      rw[hI,cE,HBV.out _ ae,QP hj]
     have HBD:=Lib.hid Sy;clear Sy;have HI:=Lib.hid hI;clear hI;go_wp2;go_loopw [11,12] (fun x q wj=>∃ j:Nat,j<=32/\x = .int .u32 ((iz V y%2^j:Nat):Int)/\q = .int .i64 (j:Int)/\iy wr wj) (fun _ q _=>32-(intOf q).toNat)
     case atStart=>exact⟨0,bL _,by simp[cH],rfl,iy.refl _⟩
     case round=>
      obtain⟨j,hj,rfl,rfl,Bb⟩:=hrel;by_cases Ih:j<32
      .have rH:decide ((j:Int)<32)=true:=aS ae 
       have yx:IntKind.i64.wrap ((I:Int)+(j:Int))=((I+j:Nat):Int):=by rw[IntKind.wrap_i64];omega
       go_wp2_with fail;refine(sX.out (I+j) A c _ (hsr.below Bb) (Hz.below Bb) ae).mono ?_;rintro e3 w6 ⟨rfl,hb6⟩;rw[HBD.out j Ih];have aei:iz V y/2^j%2<=1:= ae ;have ho:=Nv Ih hD;generalize iz V y/2^j%2=b at *
       have It:bits .or .u32 ((iz V y:Int)%2^j) ((b:Int)*2^j)=((iz V y%2^(j+1):Nat):Int):=by rw[<-ho];congr 1<;>simp
       have HO:=Lib.hid It;clear ho It;have hcv:IntKind.u32.wrap (b:Int)=(b:Int):=by rw[IntKind.wrap_u32];omega
       have Bn:=Oi Ih aei;have hw4:IntKind.i64.wrap ((j:Int)+1)=((j+1:Nat):Int):=by rw[IntKind.wrap_i64];omega
       go_wp2;go_roundw
       case rel=>exact⟨j+1,ae,congrArg (Value.int .u32) HO.out,by go_num,Bb.trans hb6⟩
       case measure=>simp[intOf];omega
      .obtain rfl:j=32:= ae 
       have SE:iz V y%2^32=iz V y:=bu (by simpa using hD);rw[SE];have LP:=iT.ext Bb;have Mg:=k0.ext Bb;have b1:=LP.c1;have f1:=LP.fr 1;have Sc:O++[iz V y]=(gU V).take (y+1):=by
        have zQ:y<(gU V).length:=by rw[<-HY.out];exact iD
        have:=Ai V y;rw[aW,bd zQ]at this;rw[amP,bd zQ,hO,<-this];rfl
       have HON:=Lib.hid Sc;clear Sc;clear hO HBD SE;generalize iz V y=z at *
       have hO4:O.length<=3000:=by
        have:=HON.out▸(show(O++[z]).length=O.length+1 by simp);rw[bZ]at this;omega
       have Tj:O.length+[z].length<=10000000000:= av ;have aev:w5.heap.size<=wr.heap.size:=aX lI Bb.size;have IF:=EM.trans Bb;have hw5:IntKind.i64.wrap ((I:Int)+32)=((I+32:Nat):Int):=by rw[IntKind.wrap_i64];omega
       have aec:W.heap.size<=w5.heap.size:=Tw.size;go_wp2_with (at_builtin;go_must (refine qQ ai _ _ ai w5.heap.size _ O ai (Mg.alloc _) _ _ _ [z] ai ai (Sl.sJ _ _ z ae ae) Tj (pU aev _) ?_);intro v' w7 S8 L4 amr;obtain⟨OA7,Oc7,rfl,amy⟩:=S8.sl;have Kr:=(LP.alloc _).grown (Mg.alloc _) L4 HW;have b7:=Kr.c1;have f7:=Kr.fr 1)
       go_roundw
       case rel=>
        refine⟨y+1,O++[z],OA7,Oc7,ae,congrArg (Value.int .i64) (by have:=HI.out;omega),HON.out,S8.xT HW 1 _,(by rw[cg];exact Kr.aj8 _ _ _),((IF.trans (iy.alloc _ _)).own _ _ ((Mg.alloc _).mono aec) L4).setCell hg _,?_⟩;have:=L4.size;simp[World.setCell]at this ⊢;omega
       case measure=>have:=HI.out;simp[intOf];omega
    .have hyY:y=Y:= ae 
     have zW:¬I<n:=by
      intro q;have:=(HYB.out y).2 ae;omega
     have ht:decide ((I:Int)<(n:Int))=false:=aT ae;have EI:decide (I<n)=false:=aT zW;have hOV:O=gU V:=by rw[hO,ck (by rw[<-HY.out];omega)]
     obtain⟨OA',Oc',heq,yl⟩:=k0.sl;cases heq;have b0:=iT.c0;have b1:=iT.c1;have b2:=iT.c2;have zi:=bx6.ext EM;have c0:=zi.c0;have c1:=zi.c1;have c2:=zi.c2;have f0:=zi.fr 0;have f1:=zi.fr 1;have f2:=zi.fr 2;clear hI hO HYB;go_wp2;rw[oD.out];subst hOV;exact sx rfl rfl rfl (zi.set _ _ _ _ _) rfl (zi.qm yl _ _ _ _ _) (jg.qc (hwW.trans EM) (aU _) _ _ _ _ _)
theorem Ux(v:Nat)(e:Int)(h0:v≠0)(hl:(gU v).length<=1000)(kQ:-100000<=e)(kx:e<=100000):gV 267 [bP false,gX (gU v),iP e] (gY (canon false v e)):=by
 refine⟨Tryz.call267,fun w B vs hK hB hr=>?_⟩;obtain⟨v1,vs,rfl,h1,hr⟩:=hr.lX;obtain⟨v2,vs,rfl,h2,hr⟩:=hr.lX;obtain⟨v3,vs,rfl,h3,hr⟩:=hr.lX;obtain rfl:=hr.pY;obtain rfl:=iG.kJ h1;obtain rfl:=iG.kJ h3;obtain⟨A,c,rfl,s1⟩:=uj (kB v) h2;exact(agt v e A c w h0 s1 hK hl kQ kx).mono fun e w' h=>rd B w e w' hB h
open Go.RowKit Fp Pu
def jK(n d y:Nat):Nat:=n*2^y/d
def kU(n d y:Nat):Nat:=n*2^y%d
theorem KW(n d y:Nat):n*2^(y+1)=d*(2*jK n d y)+2*kU n d y:=by
 have:=bU (n*2^y) d;unfold jK kU;rw[aZ,<-bc,cD];omega
theorem ab0{n d y:Nat}(hd:0<d)(h:2*kU n d y<d):kU n d (y+1)=2*kU n d y/\jK n d (y+1)=2*jK n d y:=by
 constructor
 .conv=>lhs;unfold kU
  rw[KW n d y,dw,bu h]
 .conv=>lhs;unfold jK
  rw[KW n d y,c9 hd,bT h,bt]
theorem ab1{n d y:Nat}(hd:0<d)(h:¬2*kU n d y<d):kU n d (y+1)=2*kU n d y-d/\jK n d (y+1)=2*jK n d y+1:=by
 have hr:kU n d y<d:=bg _ hd;have e:n*2^(y+1)=d*(2*jK n d y+1)+(2*kU n d y-d):=by
  rw[KW n d y,bn,bO];omega
 constructor
 .conv=>lhs;unfold kU
  rw[e,dw,bu ae]
 .conv=>lhs;unfold jK
  rw[e,c9 hd,bT ae,bt]
theorem Rd{n d:Nat}(hn:1<=n)(hd:1<=d)(sY:d<=1073741824)(p:Nat):∃ K,K<p+31/\(∀ y,y<K->ia (jK n d y)<p)/\p<=ia (jK n d K):=by
 have hx:p<=ia (jK n d (p+30)):=by
  refine cW (r7.2 ?_);unfold jK;rw[cL hd,aV];have h1:2^p*d<=2^p*2^30:=ca _ ae;have h2:=bC (2^p*2^30) hn;rw[bJ]at h2;exact aX h1 h2
 obtain⟨K,h1,h2,h3⟩:=qB (n:=p+31) (p:=fun y=>decide (p<=ia (jK n d y))) ⟨p+30,ae,aS hx⟩;exact⟨K,h1,fun y hy=>by have:=fu (h3 y hy);omega,ct h2⟩
def oK(r m x:Nat):Bool:=decide (r=0)&&decide (m%2^x=0)
theorem Cp{r m x:Nat}:oK r m x=true↔r=0/\m%2^x=0:=by
 unfold oK;rw[bB,bW,bW]
theorem abX(r m:Nat):((r:Int)==0)=oK r m 0:=by
 rw[cQ,Cp,bN,cH,gp];omega
theorem abV{r m x:Nat}(h:oK r m x=false):oK r m (x+1)=false:=by
 refine aM fun q=>?_
 rw[Cp]at q;have h2:=IU m x;have h3:m%2^x=0:= ae ;rw[Cp.2 ⟨q.1,h3⟩]at h;cases h
theorem abW{r m x:Nat}(h:oK r m x=true)(hb:m/2^x%2=0):oK r m (x+1)=true:=by
 rw[Cp]at h ⊢;refine⟨h.1,?_⟩;rw[IU,hb,h.2,ch]
theorem abU{r m x:Nat}(hb:¬m/2^x%2=0):oK r m (x+1)=false:=by
 refine aM fun q=>?_
 rw[Cp]at q;have h2:=IU m x;have h3:m/2^x%2*2^x=0:= ae ;rcases amT.1 h3 with k|k
 .exact hb k
 .exact absurd k (dF (aY ag))
def kZ(n d p K:Nat):Nat:=ia (jK n d K)-p
def jT(n d p K:Nat):Nat:=jK n d K/2^kZ n d p K
def nC(n d p K:Nat):Int:=(0-(K:Int))+(kZ n d p K:Int)
theorem W3{x y c:Rat}(hc:0<c):x<=y↔x*c<=y*c:=
 ⟨fun h=>b8 h (bA hc),fun h=>ew h hc⟩
section
variable {a n d l K:Nat}
theorem VB(hd:1<=d):0<(d:Rat)*P2 (K:Int)/\(n:Rat)/(d:Rat)*((d:Rat)*P2 (K:Int))=((n*2^K:Nat):Rat):=by
 have h0:(0:Rat)<(d:Rat):=fl.2 ae;refine⟨dJ h0 (mY _),?_⟩;rw[<-dZ,dm aq,uA,<-cO]
theorem Vi:(a:Rat)*P2 ((0-(K:Int))+(l:Int))*((d:Rat)*P2 (K:Int))=((a*2^l*d:Nat):Rat):=by
 have e:P2 ((0-(K:Int))+(l:Int))*P2 (K:Int)=((2^l:Nat):Rat):=by
  rw[<-qe,show 0-(K:Int)+(l:Int)+(K:Int)=(l:Int)by omega,uA]
 rw[cO,cO,<-e]
 grind
theorem Nh(hd:1<=d):(a:Rat)*P2 ((0-(K:Int))+(l:Int))<=(n:Rat)/(d:Rat)↔a*2^l*d<=n*2^K:=by
 obtain⟨h1,h2⟩:=VB (n:=n) (K:=K) hd;rw[W3 h1,h2,Vi,cX]
theorem NH(hd:1<=d):(n:Rat)/(d:Rat)<=(a:Rat)*P2 ((0-(K:Int))+(l:Int))↔n*2^K<=a*2^l*d:=by
 obtain⟨h1,h2⟩:=VB (n:=n) (K:=K) hd;rw[W3 h1,h2,Vi,cX]
end
section
variable {n d p K:Nat}
theorem Hb(hb:p<=ia (jK n d K)):ia (jT n d p K)=p:=by
 unfold jT kZ;rw[P3 ae];omega
theorem KX(hd:1<=d)(j9:n<=1073741824)(hb:p<=ia (jK n d K))(hp:1<=p):kZ n d p K<=31+K:=by
 unfold kZ;have h1:jK n d K<=n*2^K:=bw _ _;have h2:n*2^K<2^(31+K):=by
  rw[aV];exact cC ae (aY ag)
 have:=kN.2 (bQ h1 h2);omega
theorem Rb(hd:1<=d):jT n d p K*2^kZ n d p K*d<=n*2^K/\n*2^K<(jT n d p K+1)*2^kZ n d p K*d/\(oK (kU n d K) (jK n d K) (kZ n d p K)=true↔n*2^K=jT n d p K*2^kZ n d p K*d):=by
 have h1:=bU (n*2^K) d;have h2:=bg (n*2^K) (show 0<d by omega);change d*jK n d K+kU n d K=n*2^K at h1;change kU n d K<d at h2;have h3:=bU (jK n d K) (2^kZ n d p K);have h4:=bg (jK n d K) (aY (n:=kZ n d p K) (show 0<2 by decide));change 2^kZ n d p K*jT n d p K+jK n d K%2^kZ n d p K=jK n d K at h3;rw[Cp,<-h1];generalize jK n d K=M at *
 generalize kU n d K=R at *
 generalize jT n d p K=T at *
 generalize 2^kZ n d p K=q at *
 generalize M%q=s at *
 subst h3;have e1:T*q*d=d*(q*T):=by rw[a7,a7 T]
 have e2:(T+1)*q*d=d*(q*T)+d*q:=by rw[bK,bJ,bK,e1,a7 q d]
 have e3:d*(q*T+s)=d*(q*T)+d*s:=bn _ _ _;have e4:d*s+d<=d*q:=by
  have:=ca d h4;rw[Nat.succ_eq_add_one,bn,bO]at this;exact this
 rw[e1,e2,e3];refine⟨ae,ae,?_⟩;constructor
 .rintro ⟨rfl,rfl⟩;simp
 .intro h
  have e5:d*s=0:= ae ;refine⟨ae,?_⟩;rcases amT.1 e5 with k|k
  .omega
  .exact k
variable (hn:1<=n) (j9:n<=1073741824) (hd:1<=d) (hp:8<=p) (ic:p<=512) (hK:K<p+31) (hb:p<=ia (jK n d K))
include j9 hd hp ic hK hb
theorem Ro:Dn p ((n:Rat)/(d:Rat)) (canon false (jT n d p K) (nC n d p K)) 0:=by
 have hl:=KX hd j9 hb ae;obtain⟨b1,b2,_⟩:=Rb (n:=n) (d:=d) (p:=p) (K:=K) hd;refine ag7 (Hb hb) ae aC aC ((Nh hd).2 b1) ?_;apply Rat.not_le.1;intro q;have:=(Nh hd).1 q;omega
theorem Rp:Up p ((n:Rat)/(d:Rat)) (if oK (kU n d K) (jK n d K) (kZ n d p K)=true then canon false (jT n d p K) (nC n d p K)else canon false (jT n d p K+1) (nC n d p K)) 0:=by
 have hl:=KX hd j9 hb ae;obtain⟨b1,b2,b3⟩:=Rb (n:=n) (d:=d) (p:=p) (K:=K) hd;split
 .rename_i h
  have h:=b3.1 h;exact acC (Hb hb) aC aC (dL ((NH hd).2 ae) ((Nh hd).2 ae))
 .rename_i h
  have h:¬n*2^K=jT n d p K*2^kZ n d p K*d:=fun q=>h (b3.2 q)
  refine ag9 (Hb hb) ae aC aC ?_ ((NH hd).2 ae);apply Rat.not_le.1;intro q;have:=(NH hd).1 q;omega
end
theorem alE{p:Nat}{v:Rat}{D:Dy}{E:Int}(h:Up p v D E):Dn p (-v) (iF D) E:=
 ⟨fun he=>⟨by rw[oE];exact(h.1 he).1.neg,by rw[oE];have:=(h.1 he).2;grind⟩,fun g hg L5=>by
  obtain⟨a,b⟩:=h.2 (-g) hg.neg aq;exact⟨a,by rw[oE];grind⟩⟩
theorem abC{p:Nat}{v:Rat}{D:Dy}{E:Int}(h:Dn p v D E):Up p (-v) (iF D) E:=
 ⟨fun he=>⟨by rw[oE];exact(h.1 he).1.neg,by rw[oE];have:=(h.1 he).2;grind⟩,fun g hg L5=>by
  obtain⟨a,b⟩:=h.2 (-g) hg.neg aq;exact⟨a,by rw[oE];grind⟩⟩
theorem Oa{n d:Int}{p:Nat}(hp:8<=p)(ic:p<=512)(hr:lJ n d=true){lo hi:Dy}(h1:Dn p ((n:Rat)/(d:Rat)) lo 0)(h2:Up p ((n:Rat)/(d:Rat)) hi 0)(c1:lo.lG)(c2:hi.lG):nF n d p=⟨lo,hi,false⟩:=by
 obtain⟨r1,_⟩:=FK hr;have d0:(jd d).m≠0:=MB ae;obtain⟨A,B⟩:=KM (a:=jd n) (b:=jd d) d0 (p:=p) ae ae;rw[xt,xt]at A B;obtain⟨e1,e2⟩:=abD h1 A c1 (G5 d0 ae ae _).canon;obtain⟨e3,e4⟩:=alF h2 B c2 (G5 d0 ae ae _).canon;unfold nF;rw[aR hr,e1,e2,e3,e4];rfl
theorem ajY{d:Int}{p:Nat}(hp:8<=p)(ic:p<=512)(hr:lJ 0 d=true):nF 0 d p=⟨jx,jx,false⟩:=by
 have hz:((0:Int):Rat)/(d:Rat)=0:=by rw[cA,show((0:Int):Rat)=0 from rfl,fP]
 refine Oa hp ic hr ?_ ?_ rm.canon rm.canon
 .rw [hz]
  exact⟨fun _=>⟨by rw[qY];exact .inl (wF p),by rw[qY];exact b9⟩,fun g _ h=>⟨rfl,by rw[qY];exact h⟩⟩
 .rw [hz]
  exact⟨fun _=>⟨by rw[qY];exact .inl (wF p),by rw[qY];exact b9⟩,fun g _ h=>⟨rfl,by rw[qY];exact h⟩⟩
section
variable {n d p K:Nat}
theorem ajW(j9:n<=1073741824)(hd:1<=d)(hp:8<=p)(ic:p<=512)(hK:K<p+31)(hb:p<=ia (jK n d K))(hr:lJ (n:Int) (d:Int)=true):
 nF (n:Int) (d:Int) p=⟨canon false (jT n d p K) (nC n d p K),if oK (kU n d K) (jK n d K) (kZ n d p K)=true then canon false (jT n d p K) (nC n d p K)else canon false (jT n d p K+1) (nC n d p K),false⟩:=by
 refine Oa hp ic hr (Ro j9 hd hp ic hK hb) (Rp j9 hd hp ic hK hb) (qJ _ _ _) ?_;split<;>exact qJ _ _ _
theorem ajV(j9:n<=1073741824)(hd:1<=d)(hp:8<=p)(ic:p<=512)(hK:K<p+31)(hb:p<=ia (jK n d K))(hr:lJ (-(n:Int)) (d:Int)=true):
 nF (-(n:Int)) (d:Int) p=⟨iF (if oK (kU n d K) (jK n d K) (kZ n d p K)=true then canon false (jT n d p K) (nC n d p K)else canon false (jT n d p K+1) (nC n d p K)),iF (canon false (jT n d p K) (nC n d p K)),false⟩:=by
 have e:((-(n:Int):Int):Rat)/((d:Int):Rat) = -((n:Rat)/(d:Rat)):=by
  rw[fN,cA,cA,fO];rfl
 refine Oa hp ic hr ?_ ?_ (Da ?_) (Da (qJ _ _ _))
 .rw [e];exact alE (Rp j9 hd hp ic hK hb)
 .rw [e];exact abC (Ro j9 hd hp ic hK hb)
 .split<;>exact qJ _ _ _
end
open Go.RowKit Fp Pu
def Vj(v:Nat)(N:Nat)(x:Nat):PS:=⟨29,false,[(4,.e (iP x)),(3,.own 5)],[(5,.row false 79 ((gU v).length) 1 (jb (kF 0 v x (gU v).length)))]⟩
def Vk(v:Nat)(x:Nat):PS:=⟨29,false,[(4,.e (iP x)),(3,.own 5)],[(5,.row false 79 ((gU v).length) 1 (jb (kF 0 v x (gU v).length)))]⟩
def Rf(n d p:Nat)(x:Nat):PS:=⟨130,true,[(11,.e (iP (63-(x:Int)))),(10,.e (iP 0)),(9,.e (.v (.int .u64 (iM n d 64 x:Int)))),(8,.e (gX (gU (kH n d 64 x)))),(7,.box 7 0),(6,.box 6 0),(0,.e (.v (.int .u64 (n:Int)))),(1,.e (.v (.int .u64 (d:Int)))),(2,.e (iP p))],[(7,.cells 31 [(bP false),(.v (.slice none 0 0)),(iP 0)]),(6,.cells 31 [(bP false),(.v (.slice none 0 0)),(iP 0)])]⟩
def Rg(n d p:Nat)(y:Nat):PS:=⟨130,true,[(10,.e (iP (0-(y:Int)))),(9,.e (.v (.int .u64 (kU n d y:Int)))),(8,.e (gX (gU (jK n d y)))),(7,.box 7 0),(6,.box 6 0),(1,.e (.v (.int .u64 (d:Int)))),(2,.e (iP p))],[(7,.cells 31 [(bP false),(.v (.slice none 0 0)),(iP 0)]),(6,.cells 31 [(bP false),(.v (.slice none 0 0)),(iP 0)])]⟩
def Rh(n d p K:Nat)(y:Nat):PS:=⟨130,false,[(15,.own 15),(16,.e (iP (((32*y):Nat):Int))),(14,.e (bP ((kU n d K:Int)==0))),(13,.e (iP (kZ n d p K:Int))),(10,.e (iP (0-(K:Int)))),(8,.e (gX (gU (jK n d K)))),(7,.box 7 0),(6,.box 6 0),(2,.e (iP p))],[(15,.row false 79 y 1 (jb (iJ (jT n d p K) y))),(7,.cells 31 [(bP false),(.v (.slice none 0 0)),(iP 0)]),(6,.cells 31 [(bP false),(.v (.slice none 0 0)),(iP 0)])]⟩
def Ri(n d p K y:Nat)(k:Nat):PS:=⟨130,false,[(18,.e (iP k)),(17,.e (.v (.int .u32 ((((iz (jT n d p K) y)%2^k):Nat):Int)))),(15,.own 15),(16,.e (iP (((32*y):Nat):Int))),(14,.e (bP ((kU n d K:Int)==0))),(13,.e (iP (kZ n d p K:Int))),(10,.e (iP (0-(K:Int)))),(8,.e (gX (gU (jK n d K)))),(7,.box 7 0),(6,.box 6 0),(2,.e (iP p))],[(15,.row false 79 y 1 (jb (iJ (jT n d p K) y))),(7,.cells 31 [(bP false),(.v (.slice none 0 0)),(iP 0)]),(6,.cells 31 [(bP false),(.v (.slice none 0 0)),(iP 0)])]⟩
def Rj(n d p K y:Nat)(k:Nat):PS:=⟨130,false,[(18,.e (iP k)),(17,.e (.v (.int .u32 ((((iz (jT n d p K) y)%2^k):Nat):Int)))),(15,.own 15),(16,.e (iP (((32*y):Nat):Int))),(14,.e (bP ((kU n d K:Int)==0))),(13,.e (iP (kZ n d p K:Int))),(10,.e (iP (0-(K:Int)))),(8,.e (gX (gU (jK n d K)))),(7,.box 7 0),(6,.box 6 0),(2,.e (iP p))],[(15,.row false 79 y 1 (jb (iJ (jT n d p K) y))),(7,.cells 31 [(bP false),(.v (.slice none 0 0)),(iP 0)]),(6,.cells 31 [(bP false),(.v (.slice none 0 0)),(iP 0)])]⟩
def Rk(n d p K:Nat)(x:Nat):PS:=⟨130,true,[(19,.e (iP x)),(15,.e (gX (gU (jT n d p K)))),(14,.e (bP (oK (kU n d K) (jK n d K) x))),(13,.e (iP (kZ n d p K:Int))),(10,.e (iP (0-(K:Int)))),(8,.e (gX (gU (jK n d K)))),(7,.box 7 0),(6,.box 6 0)],[(7,.cells 31 [(bP false),(.v (.slice none 0 0)),(iP 0)]),(6,.cells 31 [(bP false),(.v (.slice none 0 0)),(iP 0)])]⟩
theorem WQ{T n n':Nat}{L L':List Nat}(hn:n=0+L.length)(vX:n'=L.length)(h:L'=L):Bx.le (.row false T n 1 fun i_ j_=>if i_<0 then(fun i_ j_=>([]:List E).getD (i_*1+j_) (.v (.bool false))) i_ j_ else(E.lZ (gX L)) (i_-0) j_) (.row false T n' 1 (jb L')):=by
 subst h;refine .row ae fun i j hi hj=>?_
 simp only[bj,a6,dh];exact⟨.iS rfl,rfl⟩
theorem Y1{L:List Nat}{n:Nat}(hn:n=0+L.length):E.le (.sl false n 1 fun i_ j_=>if i_<0 then(fun i_ j_=>([]:List E).getD (i_*1+j_) (.v (.bool false))) i_ j_ else(E.lZ (gX L)) (i_-0) j_) (gX L):=by
 rw[<-AH (show n=L.length by omega)];refine .sl fun i j hi hj=>?_
 simp only[bj,a6,dh];exact⟨.iS rfl,rfl⟩
theorem aha{f:Nat->Nat->E}{v:Nat}(h:v=0):E.le (.sl true 0 1 f) (gX (gU v)):=by
 subst h;rw[nh];intro bs br w v k;cases k with
 |sl _ _ _ _ A c g h1 h2 h3 h4 h5 h6 h7=>exact .sl false 0 1 _ A c g h1 h2 h3 (fun i j hi=>absurd hi (bj i)) (fun i j hi=>absurd hi (bj i)) (fun i j hi=>absurd hi (bj i)) (fun i j hi=>absurd hi (bj i))
theorem agd{L M:List Nat}{n p z:Nat}(hn:n=L.length)(hp:p<L.length)(hs:L.set p z=M):E.le (.sl false n 1 fun i' j'=>if i'=p/\0<=j'/\j'<0+1 then[(.v (.int .u32 (z:Int)))].getD (j'-0) .any else(jb L) i' j') (gX M):=by
 subst hs;have e:n=(L.set p z).length:=by rw[cv];omega
 rw[<-AH e];refine .sl fun i j hi hj=>?_
 obtain rfl:j=0:= ae ;by_cases h:i=p
 .subst h
  simp only[true_and,aU,amR,bk,bX];exact⟨.iS (by show _=E.v (.int .u32 (((L.set i z).getD i 0:Nat):Int));rw[aW (l:=L.set i z),List.getElem?_set_self hp];rfl),rfl⟩
 .simp only[h,false_and,a6]
  exact⟨.iS (by show E.v (.int .u32 (L.getD i 0:Int))=E.v (.int .u32 (((L.set p z).getD i 0:Nat):Int));rw[aW,aW,gq (fun q=>h q.symm)]),rfl⟩
theorem aga{N l n:Nat}{L:List Nat}(hn:n=l+1)(h1:iJ N (l+1)=L)(h2:iz N l=1):E.le (.sl false n 1 fun i_ j_=>if i_<l then(jb (iJ N l)) i_ j_ else(E.lZ (gX (gU 1))) (i_-l) j_) (gX L):=by
 subst hn h1;rw[<-AH (mC N (l+1)).symm];refine .sl fun i j hi hj=>?_
 obtain rfl:j=0:= ae ;by_cases h:i<l
 .simp only[h,bk]
  exact⟨.iS (by unfold jb;rw[sT h,sT ae]),rfl⟩
 .obtain rfl:i=l:= ae 
  simp only[fj,a6,cT];exact⟨.iS (by show E.v (.int .u32 (((gU 1).getD 0 0:Nat):Int))=_;unfold jb;rw[sT ae,h2,Ul];rfl),rfl⟩
theorem ag5(v:Nat)(hs:(gU v).length<=1000000)(N:Nat)(hN:N<(gU v).length)(iH:∀ k,k<N->iz v k=4294967295)(hd:iz v N≠4294967295):gV 268 [(gX (gU v))] (gX (gU (v+1))):=by
 have iD:=pA v N;exact tr false Tryz.call268 Tryz.func268 (chain [.bo,.a (ae:(0+(gU v).length)*4<=140737488355328),.s (Sp.jv (Vj v N) 0 N ae (fun x hx kf=>by
    have uS:=iH x ae;exact iB (chain [tT 11 ((x:Int)<((gU v).length:Int)) ae,iX ((x:Int)) ((gU v).length) ae,.a (ae:x<(gU v).length),.o 17 (.int (by rw[E6 ae]):PV.le (.e (.v (.int .u32 ((((kF 0 v x (gU v).length).getD x 0):Nat):Int)))) (.e (.v (.int .u32 (iz v x:Int))))),.o 18 (.int (by rw[uS,AX];rfl):PV.le (.e (.v (.int .u32 (IntKind.u32.wrap ((iz v x:Int)+1))))) (.e (.v (.int .u32 (iz 0 x:Int))))),iX ((x:Int)) ((gU v).length) ae,.a (ae:x<(gU v).length),iX ((x:Int)) ((gU v).length) ae,.a (ae:x<(gU v).length),.o 23 (.e (.iS aj):PV.le (.e ((fun i' j'=>if i'=x/\0<=j'/\j'<0+1 then[(.v (.int .u32 (iz 0 x:Int)))].getD (j'-0) .any else(jb (kF 0 v x (gU v).length)) i' j') x 0)) (.e (.v (.int .u32 (iz 0 x:Int))))),tB 24 (BE (AX x):((iz 0 x:Int) != 0)=false),iq ((x:Int)+1) ae]<|.e (chain [.b 5 (Dt rfl aG IY:Bx.le (.row false 79 ((gU v).length) 1 (fun i' j'=>if i'=x/\0<=j'/\j'<0+1 then[(.v (.int .u32 (iz 0 x:Int)))].getD (j'-0) .any else(jb (kF 0 v x (gU v).length)) i' j')) (.row false 79 ((gU v).length) 1 (jb (kF 0 v (x+1) (gU v).length))))]<|.nil)) ah)
  (fun hx=>by
    exact iB (chain [tT 11 ((N:Int)<((gU v).length:Int)) ae,iX ((N:Int)) ((gU v).length) ae,.a (ae:N<(gU v).length),.o 17 (.int (by rw[E6 ae]):PV.le (.e (.v (.int .u32 ((((kF 0 v N (gU v).length).getD N 0):Nat):Int)))) (.e (.v (.int .u32 (iz v N:Int))))),.o 18 (.int aE:PV.le (.e (.v (.int .u32 (IntKind.u32.wrap ((iz v N:Int)+1))))) (.e (.v (.int .u32 (((iz v N+1):Nat):Int))))),iX ((N:Int)) ((gU v).length) ae,.a (ae:N<(gU v).length),iX ((N:Int)) ((gU v).length) ae,.a (ae:N<(gU v).length),.o 23 (.e (.iS aj):PV.le (.e ((fun i' j'=>if i'=N/\0<=j'/\j'<0+1 then[(.v (.int .u32 (((iz v N+1):Nat):Int)))].getD (j'-0) .any else(jb (kF 0 v N (gU v).length)) i' j') N 0)) (.e (.v (.int .u32 (((iz v N+1):Nat):Int))))),tB 24 (Fi ae:((((iz v N+1):Nat):Int) != 0)=true)]<|.nil) ah) ak:jq 3 Tryz.f268 (Vj v N 0) .ret ⟨29,false,[(2,.own 5)],[(5,.row false 79 ((gU v).length) 1 (fun i' j'=>if i'=N/\0<=j'/\j'<0+1 then[(.v (.int .u32 (((iz v N+1):Nat):Int)))].getD (j'-0) .any else(jb (kF 0 v N (gU v).length)) i' j'))]⟩) (chain [.b 5 (WQ rfl rfl (by rw[E7,KL]):Bx.le (.row false 79 (0+(gU v).length) 1 (fun i_ j_=>if i_<0 then(fun i_ j_=>([]:List E).getD (i_*1+j_) (.v (.bool false))) i_ j_ else(E.lZ (gX (gU v))) (i_-0) j_)) (.row false 79 ((gU v).length) 1 (jb (kF 0 v 0 (gU v).length))))]<|.nil)]<|rR (gX (gU (v+1))) (agd (by rw[uc]) (by rw[uc];exact hN) (ag8 hN iH hd):E.le (.sl false ((gU v).length) 1 (fun i' j'=>if i'=N/\0<=j'/\j'<0+1 then[(.v (.int .u32 (((iz v N+1):Nat):Int)))].getD (j'-0) .any else(jb (kF 0 v N (gU v).length)) i' j')) (gX (gU (v+1))))) ah 
theorem ag3(v:Nat)(hs:(gU v).length<=1000000)(iH:∀ k,k<(gU v).length->iz v k=4294967295):gV 268 [(gX (gU v))] (gX (gU (v+1))):=by
 obtain⟨h1,h2,h3⟩:=ag6 iH;have CE:(kF 0 v ((gU v).length) (gU v).length)=iJ (v+1) (gU v).length:=by rw[IX (aU _),h1]
 have yj:(gU 1).length=1:=by rw[Ul];rfl
 exact tr false Tryz.call268 Tryz.func268 (chain [.bo,.a (ae:(0+(gU v).length)*4<=140737488355328),.s (Sp.jv (Vk v) 0 ((gU v).length) ae (fun x hx kf=>by
    have uS:=iH x ae;exact iB (chain [tT 11 ((x:Int)<((gU v).length:Int)) ae,iX ((x:Int)) ((gU v).length) ae,.a (ae:x<(gU v).length),.o 17 (.int (by rw[E6 ae]):PV.le (.e (.v (.int .u32 ((((kF 0 v x (gU v).length).getD x 0):Nat):Int)))) (.e (.v (.int .u32 (iz v x:Int))))),.o 18 (.int (by rw[uS,AX];rfl):PV.le (.e (.v (.int .u32 (IntKind.u32.wrap ((iz v x:Int)+1))))) (.e (.v (.int .u32 (iz 0 x:Int))))),iX ((x:Int)) ((gU v).length) ae,.a (ae:x<(gU v).length),iX ((x:Int)) ((gU v).length) ae,.a (ae:x<(gU v).length),.o 23 (.e (.iS aj):PV.le (.e ((fun i' j'=>if i'=x/\0<=j'/\j'<0+1 then[(.v (.int .u32 (iz 0 x:Int)))].getD (j'-0) .any else(jb (kF 0 v x (gU v).length)) i' j') x 0)) (.e (.v (.int .u32 (iz 0 x:Int))))),tB 24 (BE (AX x):((iz 0 x:Int) != 0)=false),iq ((x:Int)+1) ae]<|.e (chain [.b 5 (Dt rfl aG IY:Bx.le (.row false 79 ((gU v).length) 1 (fun i' j'=>if i'=x/\0<=j'/\j'<0+1 then[(.v (.int .u32 (iz 0 x:Int)))].getD (j'-0) .any else(jb (kF 0 v x (gU v).length)) i' j')) (.row false 79 ((gU v).length) 1 (jb (kF 0 v (x+1) (gU v).length))))]<|.nil)) ah)
  (fun hx=>by
    exact iB (chain [tF 11 (((gU v).length:Int)<((gU v).length:Int)) ae]<|.e (chain [.b 5 (.iS (by rw[CE]):Bx.le (.row false 79 ((gU v).length) 1 (jb (kF 0 v ((gU v).length) (gU v).length))) (.row false 79 ((gU v).length) 1 (jb (iJ (v+1) (gU v).length))))]<|.nil)) ah) ak:jq 3 Tryz.f268 (Vk v 0) (.exit 0) ⟨29,false,[(3,.own 5)],[(5,.row false 79 ((gU v).length) 1 (jb (iJ (v+1) (gU v).length)))]⟩) (chain [.b 5 (WQ rfl rfl (by rw[E7,KL]):Bx.le (.row false 79 (0+(gU v).length) 1 (fun i_ j_=>if i_<0 then(fun i_ j_=>([]:List E).getD (i_*1+j_) (.v (.bool false))) i_ j_ else(E.lZ (gX (gU v))) (i_-0) j_)) (.row false 79 ((gU v).length) 1 (jb (kF 0 v 0 (gU v).length))))]<|.nil),.o 27 (.e rN:PV.le (.e (.sl false 1 1 fun i_ j_=>[(.v (.int .u32 1))].getD (i_*1+j_) (.v (.bool false)))) (.e (gX (gU 1)))),.a (ae:((gU v).length+(gU 1).length)*4<=140737488355328)]<|rR (gX (gU (v+1))) (aga ae h3 h2:E.le (.sl false ((gU v).length+(gU 1).length) 1 (fun i_ j_=>if i_<(gU v).length then(jb (iJ (v+1) (gU v).length)) i_ j_ else(E.lZ (gX (gU 1))) (i_-(gU v).length) j_)) (gX (gU (v+1))))) ah 
theorem ag4(v:Nat)(hs:(gU v).length<=1000000):gV 268 [gX (gU v)] (gX (gU (v+1))):=by
 by_cases h:∃ k,k<(gU v).length/\decide (iz v k≠4294967295)=true
 .obtain ⟨N,h1,h2,h3⟩:=qB h
  exact ag5 v hs N h1 (fun k hk=>bE fun q=>by have:=fu (h3 k hk);exact this q) (ct h2)
 .exact ag3 v hs fun k hk=>bE fun q=>h ⟨k,hk,aS q⟩
theorem agW(d:Dy)(h:d.m≠0):(Dy.mk (!d.neg) d.m d.e)=iF d:=by unfold iF;simp[h]
theorem agX(d:Dy)(hd:d.lG)(h:d.m=0):d=iF d:=by
 have:=hd;obtain⟨s,m,e⟩:=d;simp only at h;subst h;have hz:=Jf hd (Da hd) (by rw[oE,ql];simp);exact hz
theorem agZ(d:Dy)(h:d.m≠0):gV 223 [(gY d)] (gY (iF d)):=by
 exact tr true Tryz.call223 Tryz.func223 (chain [tT 6 (0<((gU d.m).length:Int)) (by have:¬(gU d.m).length=0:=fun q=>h (qN.1 q);omega)]<|rQ (gY (Dy.mk (!d.neg) d.m d.e)) (gY (iF d)) (by rw[agW d h])) ah 
theorem agY(d:Dy)(hd:d.lG)(h:d.m=0):gV 223 [(gY d)] (gY (iF d)):=by
 exact tr true Tryz.call223 Tryz.func223 (chain [tF 6 (0<((gU d.m).length:Int)) (by have:=qN.2 h;omega)]<|rQ (gY d) (gY (iF d)) (by rw[<-agX d hd h])) ah 
theorem U8(d:Dy)(hd:d.lG):gV 223 [gY d] (gY (iF d)):=by
 by_cases h:d.m=0
 .exact agY d hd h
 .exact agZ d h
theorem abY{n x:Nat}(hn:n<18446744073709551616)(hx:x<64):bits .and .u64 ((n:Int)/2^(63-(x:Int)).toNat) 1=(jf n 64 x:Int):=by
 have e:(63-(x:Int)).toNat=64-1-x:= ae ;have e2:(n:Int)/2^(64-1-x)=((n/2^(64-1-x):Nat):Int):= aj ;rw[e,e2,show(1:Int)=((1:Nat):Int)from rfl,OH _ _ (bQ (bw _ _) hn) ag,gj];rfl
theorem Ra{n d y:Nat}(hn:n<=1073741824):ia (jK n d y)<=31+y/\ia (2*jK n d y)<=32+y:=by
 have h:=bw (n*2^y) d;constructor
 .refine kN.2 (bQ h ?_)
  rw[aV];exact cC ae (aY ag)
 .have h3:2*jK n d y<=2*n*2^y:=by unfold jK;rw[bc];omega
  refine kN.2 (bQ h3 ?_);rw[aV];exact cC ae (aY ag)
theorem D6{n d y:Nat}(hn:n<=1073741824)(hy:y<=1000):(gU (jK n d y)).length<=100:=by
 have h1:=(Ra (d:=d) (y:=y) hn).1;have h2:=EX (w:=jK n d y) (y:=100);omega
theorem abZ{n d y:Nat}(hn:n<=1073741824)(hy:y<=999):(gU (2*jK n d y)).length<=100:=by
 have h1:=(Ra (d:=d) (y:=y) hn).2;have h2:=EX (w:=2*jK n d y) (y:=100);omega
theorem Xp{v:Nat}(h:v<18446744073709551616):(gU v).length<=2:=qX h
theorem ab2{T p y:Nat}(hT:ia T=p)(h:p-32*y<32):iz T y<2^(p-32*y):=by
 have h1:=oM T;rw[hT]at h1;unfold iz;refine bQ (dk _ _) ?_;rw[bR (pw y),nD,<-aV];exact bD h1 (bh ag ae)
theorem ab3{T p Y:Nat}(hT:ia T=p)(hp:1<=p)(hY:Y=(p+31)/32):iJ T Y=gU T:=by
 apply EY;have h1:∀ y,y<(gU T).length↔32*y<ia T:=fun y=>EX
 have h2:=h1 Y;have h3:=h1 (Y-1);rw[hT]at h2 h3;omega
theorem Rc{n d p K y k:Nat}(hk:k<32):jK n d K/2^((kZ n d p K+32*y)+k)%2=iz (jT n d p K) y/2^k%2:=by
 rw[QP hk];unfold jT;rw[cz,<-aV,cE]
theorem acd(n d p K:Nat)(hn:1<=n)(j9:n<=1073741824)(hd:1<=d)(sY:d<=1073741824)(hp:8<=p)(ic:p<=512)(hK:K<p+31)(iH:∀ y,y<K->ia (jK n d y)<p)(hb:p<=ia (jK n d K))(Y:Nat)(hY:Y=(p+31)/32):gV 222 [(.v (.int .u64 (n:Int))),(.v (.int .u64 (d:Int))),(iP p)] (.iw [gY (canon false (jT n d p K) (nC n d p K)),gY (if(oK (kU n d K) (jK n d K) (kZ n d p K))=true then canon false (jT n d p K) (nC n d p K)else canon false ((jT n d p K)+1) (nC n d p K))]):=by
 have h0:=Q5 (a:=n) (b:=d) (n:=64) ae;have h1:kH n d 64 64=jK n d 0/\iM n d 64 64=kU n d 0:=by
  obtain⟨a,b⟩:=Q1 n d 64;rw[a,b];unfold jK kU;rw[bN,bO];exact⟨rfl,rfl⟩
 have kp:=Hb hb;have hTY:=ab3 kp ae hY;have hLo:=KX hd j9 hb ae;have hlK:=D6 (d:=d) (y:=K) j9 ae;have hT0:(jT n d p K)≠0:=fun q=>by rw[q,qR]at kp;omega
 have A8:(gU (jT n d p K)).length<=100:=by
  have:=EX (w:=(jT n d p K)) (y:=100);omega
 have amq:(gU ((jT n d p K)+1)).length<=101:=by
  have h2:=ub A8;refine qX ?_;rw[aZ];omega
 have hL4:kZ n d p K=ia (jK n d K)-p:=rfl;exact tr true Tryz.call222 Tryz.func222 (chain [.s (Sp.jv (Rf n d p) 0 64 ae (fun x hx kf=>by
    have hr:(iM n d 64 x)<d:=bg _ ae;have oc:=G6 n 64 x;have uY:(kH n d 64 x)<=n:=aX (bw _ _) (bw _ _);have w9:=Xp (show(kH n d 64 x)<18446744073709551616 by omega);have ns:=Xp (show 2*(kH n d 64 x)<18446744073709551616 by omega);exact iB (chain [tT 23 (0<=(63-(x:Int))) ae,pd (2*(iM n d 64 x:Int)) ae,.a (ae:0<=((63-(x:Int)):Int)/\((63-(x:Int)):Int)<=((64:Nat):Int)),.o 31 (.int (abY ae ae):PV.le (.e (.v (.int .u64 (bits .and .u64 ((n:Int)/2^((63-(x:Int))).toNat) 1)))) (.e (.v (.int .u64 (jf n 64 x:Int))))),
     pd ((((2*(iM n d 64 x)):Nat):Int)+(jf n 64 x:Int)) ae,.a (ae:0<((d:Int):Int)),pd (((((2*(iM n d 64 x))+(jf n 64 x)):Nat):Int)) ae,.a (ae:0<((d:Int):Int)),.bo,.bo,.a (ae:(0+(gU (kH n d 64 x)).length)*4<=140737488355328),.o 41 (.e (Y1 rfl):PV.le (.e (.sl false (0+(gU (kH n d 64 x)).length) 1 (fun i_ j_=>if i_<0 then(fun i_ j_=>([]:List E).getD (i_*1+j_) (.v (.bool false))) i_ j_ else(E.lZ (gX (gU (kH n d 64 x)))) (i_-0) j_))) (.e (gX (gU (kH n d 64 x))))),.c (Xd _ ae:gV 263 [(gX (gU (kH n d 64 x))),(.v (.int .u64 0))] _)]<|.w (((2*(iM n d 64 x))+(jf n 64 x))<d)
     (fun hq=>by
      have hm:((2*(iM n d 64 x))+(jf n 64 x))%d=((2*(iM n d 64 x))+(jf n 64 x)):=by rw[bu hq]
      have hqd:((2*(iM n d 64 x))+(jf n 64 x))/d=0:=bT hq;have hs:=Q2 (a:=n) (b:=d) (n:=64) (x:=x) ae ae hq;exact chain [tB 44 (aJ ae:((((((2*(iM n d 64 x))+(jf n 64 x))/d):Nat):Int)==1)=false),iq ((63-(x:Int))-1) ae]<|.e (chain [.o 11 (.int ae:PV.le (.e (iP ((63-(x:Int))-1))) (.e (iP (63-(((x+1):Nat):Int))))),.o 9 (.int (by rw[hs.1,hm]):PV.le (.e (.v (.int .u64 (((((2*(iM n d 64 x))+(jf n 64 x))%d):Nat):Int)))) (.e (.v (.int .u64 (iM n d 64 (x+1):Int))))),.o 8 (.e (.iS (by rw[hs.2])):PV.le (.e (gX (gU (2*(kH n d 64 x))))) (.e (gX (gU (kH n d 64 (x+1))))))]<|.nil))
     (fun hq=>by
      have hm:((2*(iM n d 64 x))+(jf n 64 x))%d=((2*(iM n d 64 x))+(jf n 64 x))-d:=by rw[Nat.mod_eq_sub_mod ae,bu ae]
      have hqd:((2*(iM n d 64 x))+(jf n 64 x))/d=1:=by rw[Nat.div_eq_sub_div ae ae,bT ae]
      have hs:=Q3 (a:=n) (b:=d) (n:=64) (x:=x) ae ae hq;exact chain [tB 44 (aK ae:((((((2*(iM n d 64 x))+(jf n 64 x))/d):Nat):Int)==1)=true),.c (Xc _ ae ae:gV 264 [(gX (gU (2*(kH n d 64 x))))] _),
       iq ((63-(x:Int))-1) ae]<|.e (chain [.o 11 (.int ae:PV.le (.e (iP ((63-(x:Int))-1))) (.e (iP (63-(((x+1):Nat):Int))))),.o 9 (.int (by rw[hs.1,hm]):PV.le (.e (.v (.int .u64 (((((2*(iM n d 64 x))+(jf n 64 x))%d):Nat):Int)))) (.e (.v (.int .u64 (iM n d 64 (x+1):Int))))),.o 8 (.e (.iS (by rw[hs.2])):PV.le (.e (gX (gU ((2*(kH n d 64 x))+1)))) (.e (gX (gU (kH n d 64 (x+1))))))]<|.nil))) ah)
  (fun hx=>by
    exact iB (chain [tF 23 (0<=(63-((64:Nat):Int))) ae]<|.nil) ah) ak:jq 5 Tryz.f222 (Rf n d p 0) (.exit 0) ⟨130,true,[(10,.e (iP 0)),(9,.e (.v (.int .u64 (iM n d 64 64:Int)))),(8,.e (gX (gU (kH n d 64 64)))),(7,.box 7 0),(6,.box 6 0),(1,.e (.v (.int .u64 (d:Int)))),(2,.e (iP p))],[(7,.cells 31 [(bP false),(.v (.slice none 0 0)),(iP 0)]),(6,.cells 31 [(bP false),(.v (.slice none 0 0)),(iP 0)])]⟩) (chain [.o 11 (.int ae:PV.le (.e (iP 63)) (.e (iP (63-((0:Nat):Int))))),.o 9 (.int (by rw[h0.1];rfl):PV.le (.e (.v (.int .u64 0))) (.e (.v (.int .u64 (iM n d 64 0:Int))))),.o 8 (.e (aha h0.2):PV.le (.e (.sl true 0 1 fun i_ j_=>[].getD (i_*1+j_) (.v (.bool false)))) (.e (gX (gU (kH n d 64 0)))))]<|.nil),.s (Sp.jv (Rg n d p) 0 K ae (fun y hy S3=>by
    have w9:=D6 (d:=d) (y:=y) j9 ae;have ns:=abZ (d:=d) (y:=y) j9 ae;have hbn:=iH y ae;have Ix:(kU n d y)<d:=bg _ ae;exact iB (chain [.c (GJ _ ae:gV 265 [(gX (gU (jK n d y)))] _),tT 50 ((ia (jK n d y):Int)<(p:Int)) ae,pd (2*(kU n d y:Int)) ae,.c (Xd _ ae:gV 263 [(gX (gU (jK n d y))),(.v (.int .u64 0))] _)]<|.w (2*kU n d y<d)
     (fun hq=>by
      have hs:=ab0 (n:=n) (d:=d) (y:=y) ae hq;exact chain [tF 57 ((d:Int)<=(((2*(kU n d y)):Nat):Int)) ae,iq ((0-(y:Int))-1) ae]<|.e (chain [.o 10 (.int ae:PV.le (.e (iP ((0-(y:Int))-1))) (.e (iP (0-(((y+1):Nat):Int))))),.o 9 (.int (by rw[hs.1]):PV.le (.e (.v (.int .u64 (((2*(kU n d y)):Nat):Int)))) (.e (.v (.int .u64 (kU n d (y+1):Int))))),.o 8 (.e (.iS (by rw[hs.2])):PV.le (.e (gX (gU (2*(jK n d y))))) (.e (gX (gU (jK n d (y+1))))))]<|.nil))
     (fun hq=>by
      have hs:=ab1 (n:=n) (d:=d) (y:=y) ae hq;exact chain [tT 57 ((d:Int)<=(((2*(kU n d y)):Nat):Int)) ae,pd ((((2*(kU n d y)):Nat):Int)-(d:Int)) ae,.o 60 (.int ae:PV.le (.e (.v (.int .u64 ((((2*(kU n d y)):Nat):Int)-(d:Int))))) (.e (.v (.int .u64 (((2*kU n d y-d):Nat):Int))))),.c (Xc _ ae ae:gV 264 [(gX (gU (2*(jK n d y))))] _),iq ((0-(y:Int))-1) ae]<|.e (chain [.o 10 (.int ae:PV.le (.e (iP ((0-(y:Int))-1))) (.e (iP (0-(((y+1):Nat):Int))))),.o 9 (.int (by rw[hs.1]):PV.le (.e (.v (.int .u64 (((2*kU n d y-d):Nat):Int)))) (.e (.v (.int .u64 (kU n d (y+1):Int))))),.o 8 (.e (.iS (by rw[hs.2])):PV.le (.e (gX (gU ((2*(jK n d y))+1)))) (.e (gX (gU (jK n d (y+1))))))]<|.nil))) ah)
  (fun hy=>by
    have w9:=D6 (d:=d) (y:=K) j9 ae;exact iB (chain [.c (GJ _ ae:gV 265 [(gX (gU (jK n d K)))] _),tF 50 ((ia (jK n d K):Int)<(p:Int)) ae]<|.nil) ah) ak:jq 13 Tryz.f222 (Rg n d p 0) (.exit 2) ⟨130,false,[(10,.e (iP (0-(K:Int)))),(9,.e (.v (.int .u64 (kU n d K:Int)))),(8,.e (gX (gU (jK n d K)))),(7,.box 7 0),(6,.box 6 0),(2,.e (iP p))],[(7,.cells 31 [(bP false),(.v (.slice none 0 0)),(iP 0)]),(6,.cells 31 [(bP false),(.v (.slice none 0 0)),(iP 0)])]⟩) (chain [.o 10 (.int ae:PV.le (.e (iP 0)) (.e (iP (0-((0:Nat):Int))))),.o 9 (.int (by rw[h1.2]):PV.le (.e (.v (.int .u64 (iM n d 64 64:Int)))) (.e (.v (.int .u64 (kU n d 0:Int))))),.o 8 (.e (.iS (by rw[h1.1])):PV.le (.e (gX (gU (kH n d 64 64)))) (.e (gX (gU (jK n d 0)))))]<|.nil),.c (GJ _ ae:gV 265 [(gX (gU (jK n d K)))] _),iq ((ia (jK n d K):Int)-(p:Int)) ae,.o 68 (.int ae:PV.le (.e (iP ((ia (jK n d K):Int)-(p:Int)))) (.e (iP (kZ n d p K:Int)))),.y 15 15 false 79 1 (jb (iJ (jT n d p K) 0)),.s (Sp.jv (Rh n d p K) 0 Y ae (fun y hy S3=>by
    have hD:=pA (jT n d p K) y;have w9:=D6 (d:=d) (y:=K) j9 ae;exact iB (chain [tT 73 ((((32*y):Nat):Int)<(p:Int)) ae]<|.w (32<=p-32*y)
     (fun hf=>by
      have hz:((((iz (jT n d p K) y)%2^32:Nat)):Int)=(iz (jT n d p K) y:Int):=by rw[bu hD]
      exact chain [.s (Sp.jv (Ri n d p K y) 0 32 ae (fun k hk Ew=>by
    exact iB (chain [tT 77 ((k:Int)<32) ae,iq ((((32*y):Nat):Int)+(k:Int)) ae,tT 83 (((((32*y)+k):Nat):Int)<(p:Int)) ae,
     iq ((kZ n d p K:Int)+(((32*y):Nat):Int)) ae,iq (((((kZ n d p K)+(32*y)):Nat):Int)+(k:Int)) ae,.c (GI (jK n d K) (((kZ n d p K)+(32*y))+k) ae ae),.o 94 (.int (by rw[Rc ae]):PV.le (.e (iP ((((jK n d K)/2^(((kZ n d p K)+(32*y))+k)%2):Nat):Int))) (.e (iP ((((iz (jT n d p K) y)/2^k%2):Nat):Int)))),.o 95 (.int aE:PV.le (.e (.v (.int .u32 (IntKind.u32.wrap ((((iz (jT n d p K) y)/2^k%2):Nat):Int))))) (.e (.v (.int .u32 ((((iz (jT n d p K) y)/2^k%2):Nat):Int))))),.a (ae:0<=((k:Int):Int)/\((k:Int):Int)<=((32:Nat):Int)),.o 97 (.int (Oi ae ae):PV.le (.e (.v (.int .u32 (IntKind.u32.wrap (((((iz (jT n d p K) y)/2^k%2):Nat):Int)*2^k))))) (.e (.v (.int .u32 (((((iz (jT n d p K) y)/2^k%2)*2^k):Nat):Int))))),.o 98 (.int (Nv ae hD):PV.le (.e (.v (.int .u32 (bits .or .u32 ((((iz (jT n d p K) y)%2^k):Nat):Int) (((((iz (jT n d p K) y)/2^k%2)*2^k):Nat):Int))))) (.e (.v (.int .u32 ((((iz (jT n d p K) y)%2^(k+1)):Nat):Int))))),
     iq ((k:Int)+1) ae]<|.nil) ah)
  (fun hk=>by
    exact iB (chain [tB 77 (ag:(decide ((32:Int)<32))=false)]<|.nil) ah) ak:jq 28 Tryz.f222 (Ri n d p K y 0) (.exit 6) ⟨130,false,[(83,.e (.v (.tuple #[]))),(82,.e (.v (.tuple #[]))),(81,.e (.v (.tuple #[]))),(80,.e (.v (.tuple #[]))),(79,.e (.v (.tuple #[]))),(17,.e (.v (.int .u32 ((((iz (jT n d p K) y)%2^32):Nat):Int)))),(15,.own 15),(16,.e (iP (((32*y):Nat):Int))),(14,.e (bP ((kU n d K:Int)==0))),(13,.e (iP (kZ n d p K:Int))),(10,.e (iP (0-(K:Int)))),(8,.e (gX (gU (jK n d K)))),(7,.box 7 0),(6,.box 6 0),(2,.e (iP p))],[(15,.row false 79 y 1 (jb (iJ (jT n d p K) y))),(7,.cells 31 [(bP false),(.v (.slice none 0 0)),(iP 0)]),(6,.cells 31 [(bP false),(.v (.slice none 0 0)),(iP 0)])]⟩) (chain [.o 17 (.int (by rw[bN,cH];rfl):PV.le (.e (.v (.int .u32 0))) (.e (.v (.int .u32 ((((iz (jT n d p K) y)%2^0):Nat):Int)))))]<|.nil),.a (ae:(y+1)*4<=140737488355328),iq ((((32*y):Nat):Int)+32) ae]<|.e (chain [.o 16 (.int aw:PV.le (.e (iP ((((32*y)+32):Nat):Int))) (.e (iP (((32*(y+1)):Nat):Int)))),.b 15 (Ah rfl hz:Bx.le (.row false 79 (y+1) 1 (fun i_ j_=>if i_<y then(jb (iJ (jT n d p K) y)) i_ j_ else(E.lZ (.sl false 1 1 fun i_ j_=>[(.v (.int .u32 ((((iz (jT n d p K) y)%2^32):Nat):Int)))].getD (i_*1+j_) (.v (.bool false)))) (i_-y) j_)) (.row false 79 (y+1) 1 (jb (iJ (jT n d p K) (y+1)))))]<|.nil))
     (fun hf=>by
      have hz:((((iz (jT n d p K) y)%2^(p-32*y):Nat)):Int)=(iz (jT n d p K) y:Int):=by rw[bu (ab2 kp ae)]
      exact chain [.s (Sp.jv (Rj n d p K y) 0 (p-32*y) ae (fun k hk Ew=>by
    exact iB (chain [tT 77 ((k:Int)<32) ae,iq ((((32*y):Nat):Int)+(k:Int)) ae,tT 83 (((((32*y)+k):Nat):Int)<(p:Int)) ae,
     iq ((kZ n d p K:Int)+(((32*y):Nat):Int)) ae,iq (((((kZ n d p K)+(32*y)):Nat):Int)+(k:Int)) ae,.c (GI (jK n d K) (((kZ n d p K)+(32*y))+k) ae ae),.o 94 (.int (by rw[Rc ae]):PV.le (.e (iP ((((jK n d K)/2^(((kZ n d p K)+(32*y))+k)%2):Nat):Int))) (.e (iP ((((iz (jT n d p K) y)/2^k%2):Nat):Int)))),.o 95 (.int aE:PV.le (.e (.v (.int .u32 (IntKind.u32.wrap ((((iz (jT n d p K) y)/2^k%2):Nat):Int))))) (.e (.v (.int .u32 ((((iz (jT n d p K) y)/2^k%2):Nat):Int))))),.a (ae:0<=((k:Int):Int)/\((k:Int):Int)<=((32:Nat):Int)),.o 97 (.int (Oi ae ae):PV.le (.e (.v (.int .u32 (IntKind.u32.wrap (((((iz (jT n d p K) y)/2^k%2):Nat):Int)*2^k))))) (.e (.v (.int .u32 (((((iz (jT n d p K) y)/2^k%2)*2^k):Nat):Int))))),.o 98 (.int (Nv ae hD):PV.le (.e (.v (.int .u32 (bits .or .u32 ((((iz (jT n d p K) y)%2^k):Nat):Int) (((((iz (jT n d p K) y)/2^k%2)*2^k):Nat):Int))))) (.e (.v (.int .u32 ((((iz (jT n d p K) y)%2^(k+1)):Nat):Int))))),
     iq ((k:Int)+1) ae]<|.nil) ah)
  (fun hk=>by
    exact iB (chain [tT 77 ((((p-32*y):Nat):Int)<32) ae,iq ((((32*y):Nat):Int)+(((p-32*y):Nat):Int)) ae,tF 83 (((((32*y)+(p-32*y)):Nat):Int)<(p:Int)) ae]<|.nil) ah) ak:jq 28 Tryz.f222 (Rj n d p K y 0) (.exit 6) ⟨130,false,[(83,.e (bP false)),(82,.e (iP p)),(81,.e (iP ((((32*y)+(p-32*y)):Nat):Int))),(80,.e (iP (((p-32*y):Nat):Int))),(79,.e (iP (((32*y):Nat):Int))),(17,.e (.v (.int .u32 ((((iz (jT n d p K) y)%2^(p-32*y)):Nat):Int)))),(15,.own 15),(16,.e (iP (((32*y):Nat):Int))),(14,.e (bP ((kU n d K:Int)==0))),(13,.e (iP (kZ n d p K:Int))),(10,.e (iP (0-(K:Int)))),(8,.e (gX (gU (jK n d K)))),(7,.box 7 0),(6,.box 6 0),(2,.e (iP p))],[(15,.row false 79 y 1 (jb (iJ (jT n d p K) y))),(7,.cells 31 [(bP false),(.v (.slice none 0 0)),(iP 0)]),(6,.cells 31 [(bP false),(.v (.slice none 0 0)),(iP 0)])]⟩) (chain [.o 17 (.int (by rw[bN,cH];rfl):PV.le (.e (.v (.int .u32 0))) (.e (.v (.int .u32 ((((iz (jT n d p K) y)%2^0):Nat):Int)))))]<|.nil),.a (ae:(y+1)*4<=140737488355328),iq ((((32*y):Nat):Int)+32) ae]<|.e (chain [.o 16 (.int aw:PV.le (.e (iP ((((32*y)+32):Nat):Int))) (.e (iP (((32*(y+1)):Nat):Int)))),.b 15 (Ah rfl hz:Bx.le (.row false 79 (y+1) 1 (fun i_ j_=>if i_<y then(jb (iJ (jT n d p K) y)) i_ j_ else(E.lZ (.sl false 1 1 fun i_ j_=>[(.v (.int .u32 ((((iz (jT n d p K) y)%2^(p-32*y)):Nat):Int)))].getD (i_*1+j_) (.v (.bool false)))) (i_-y) j_)) (.row false 79 (y+1) 1 (jb (iJ (jT n d p K) (y+1)))))]<|.nil))) ah)
  (fun hy=>by
    exact iB (chain [tF 73 ((((32*Y):Nat):Int)<(p:Int)) ae,.z 15]<|.e (chain [.o 15 (.e (.iS (by rw[AH (mC _ _).symm,hTY])):PV.le (.e (.sl false Y 1 (jb (iJ (jT n d p K) Y)))) (.e (gX (gU (jT n d p K)))))]<|.nil)) ah) ak:jq 24 Tryz.f222 (Rh n d p K 0) (.exit 4) ⟨130,true,[(15,.e (gX (gU (jT n d p K)))),(14,.e (bP ((kU n d K:Int)==0))),(13,.e (iP (kZ n d p K:Int))),(10,.e (iP (0-(K:Int)))),(8,.e (gX (gU (jK n d K)))),(7,.box 7 0),(6,.box 6 0)],[(7,.cells 31 [(bP false),(.v (.slice none 0 0)),(iP 0)]),(6,.cells 31 [(bP false),(.v (.slice none 0 0)),(iP 0)])]⟩) (chain [.o 16 (.int aw:PV.le (.e (iP 0)) (.e (iP (((32*0):Nat):Int))))]<|.nil),.s (Sp.jv (Rk n d p K) 0 (kZ n d p K) ae (fun x hx kf=>by
    have w9:=D6 (d:=d) (y:=K) j9 ae;exact iB (chain [tT 105 ((x:Int)<(kZ n d p K:Int)) ae]<|.w ((oK (kU n d K) (jK n d K) x)=true)
     (fun hq=>chain [tB 108 (hq:(oK (kU n d K) (jK n d K) x)=true),.c (GI (jK n d K) x ae ae)]<|.w ((jK n d K)/2^x%2=0)
      (fun H9=>chain [tB 113 (aK ae:(((((jK n d K)/2^x%2):Nat):Int)==0)=true),iq ((x:Int)+1) ae]<|.e (chain [.o 14 (.bool (abW hq H9).symm:PV.le (.e (bP true)) (.e (bP (oK (kU n d K) (jK n d K) (x+1)))))]<|.nil))
      (fun H9=>chain [tB 113 (aJ ae:(((((jK n d K)/2^x%2):Nat):Int)==0)=false),iq ((x:Int)+1) ae]<|.e (chain [.o 14 (.bool (abU H9).symm:PV.le (.e (bP false)) (.e (bP (oK (kU n d K) (jK n d K) (x+1)))))]<|.nil)))
     (fun hq=>chain [tB 108 (aM hq),iq ((x:Int)+1) ae]<|.e (chain [.o 14 (.bool (abV (aM hq)).symm:PV.le (.e (bP false)) (.e (bP (oK (kU n d K) (jK n d K) (x+1)))))]<|.nil))) ah)
  (fun hx=>by
    exact iB (chain [tF 105 ((kZ n d p K:Int)<(kZ n d p K:Int)) ae]<|.nil) ah) ak:jq 33 Tryz.f222 (Rk n d p K 0) (.exit 8) ⟨130,true,[(15,.e (gX (gU (jT n d p K)))),(14,.e (bP (oK (kU n d K) (jK n d K) (kZ n d p K)))),(13,.e (iP (kZ n d p K:Int))),(10,.e (iP (0-(K:Int)))),(7,.box 7 0),(6,.box 6 0)],[(7,.cells 31 [(bP false),(.v (.slice none 0 0)),(iP 0)]),(6,.cells 31 [(bP false),(.v (.slice none 0 0)),(iP 0)])]⟩) (chain [.o 14 (.bool (abX _ _):PV.le (.e (bP ((kU n d K:Int)==0))) (.e (bP (oK (kU n d K) (jK n d K) 0))))]<|.nil),
  iq ((0-(K:Int))+(kZ n d p K:Int)) ae,.c (Ux _ _ ae ae ae ae:gV 267 [(bP false),(gX (gU (jT n d p K))),(iP ((0-(K:Int))+(kZ n d p K:Int)))] _)]<|.w (oK (kU n d K) (jK n d K) (kZ n d p K)=true)
  (fun k1=>chain [tB 120 (k1)]<|rQ (.iw [(gY (canon false (jT n d p K) ((0-(K:Int))+(kZ n d p K:Int)))),(gY (canon false (jT n d p K) ((0-(K:Int))+(kZ n d p K:Int))))]) (.iw [gY (canon false (jT n d p K) (nC n d p K)),gY (if(oK (kU n d K) (jK n d K) (kZ n d p K))=true then canon false (jT n d p K) (nC n d p K)else canon false ((jT n d p K)+1) (nC n d p K))]) (by(rw[aR k1])<;>rfl))
  (fun k1=>chain [tB 120 (aM k1),.c (ag4 _ ae:gV 268 [(gX (gU (jT n d p K)))] _),iq ((0-(K:Int))+(kZ n d p K:Int)) ae,.c (Ux _ _ ae ae ae ae:gV 267 [(bP false),(gX (gU ((jT n d p K)+1))),(iP ((0-(K:Int))+(kZ n d p K:Int)))] _)]<|rQ (.iw [(gY (canon false (jT n d p K) ((0-(K:Int))+(kZ n d p K:Int)))),(gY (canon false ((jT n d p K)+1) ((0-(K:Int))+(kZ n d p K:Int))))]) (.iw [gY (canon false (jT n d p K) (nC n d p K)),gY (if(oK (kU n d K) (jK n d K) (kZ n d p K))=true then canon false (jT n d p K) (nC n d p K)else canon false ((jT n d p K)+1) (nC n d p K))]) (by(rw[aQ k1])<;>rfl))) ah 
theorem Rn(n d p K:Nat)(hn:1<=n)(j9:n<=1073741824)(hd:1<=d)(sY:d<=1073741824)(hp:8<=p)(ic:p<=512)(hK:K<p+31)(iH:∀ y,y<K->ia (jK n d y)<p)(hb:p<=ia (jK n d K)):
 gV 222 [(.v (.int .u64 (n:Int))),(.v (.int .u64 (d:Int))),(iP p)] (.iw [gY (canon false (jT n d p K) (nC n d p K)),gY (if(oK (kU n d K) (jK n d K) (kZ n d p K))=true then canon false (jT n d p K) (nC n d p K)else canon false ((jT n d p K)+1) (nC n d p K))]):=by
 exact acd n d p K hn j9 hd sY hp ic hK iH hb _ rfl
theorem amm:E.le (.agg [bP false,.v (.slice none 0 0),iP 0,bP false,.v (.slice none 0 0),iP 0,bP false]) (gZ ⟨jx,jx,false⟩):=
 .agg (.cons (.refl _) (.cons Al (.cons (.refl _) (.cons (.refl _) (.cons Al (.cons (.refl _) (.cons (.refl _) .nil)))))))
theorem ab8(d:Int)(p:Nat)(hr:lJ 0 d=true)(hp:8<=p)(ic:p<=512):gV 185 [(.agg [(iP 0),(iP d)]),(iP p)] (gZ (nF 0 d p)):=by
 rw[ajY hp ic hr];exact tr true Tryz.call185 Tryz.func185 (chain [.c (FJ 0 d),tB 9 (by rw[hr];rfl:(!(lJ 0 d))=false),tF 12 ((p:Int)<8) ae,tF 16 (512<(p:Int)) ae,tB 21 (ag:((0:Int)==0)=true)]<|rR (gZ (Iv.mk jx jx false)) (amm:E.le (.agg [(bP false),(.v (.slice none 0 0)),(iP 0),(bP false),(.v (.slice none 0 0)),(iP 0),(bP false)]) (gZ (Iv.mk jx jx false)))) ah 
theorem ab7(n d p K:Nat)(hn:1<=n)(j9:n<=1073741824)(hd:1<=d)(sY:d<=1073741824)(hp:8<=p)(ic:p<=512)(hK:K<p+31)(iH:∀ y,y<K->ia (jK n d y)<p)(hb:p<=ia (jK n d K))(hr:lJ (n:Int) (d:Int)=true):gV 185 [(.agg [(iP n),(iP d)]),(iP p)] (gZ (nF (n:Int) (d:Int) p)):=by
 rw[ajW j9 hd hp ic hK hb hr];exact tr true Tryz.call185 Tryz.func185 (chain [.c (FJ (n:Int) (d:Int)),tB 9 (by rw[hr];rfl:(!(lJ (n:Int) (d:Int)))=false),tF 12 ((p:Int)<8) ae,tF 16 (512<(p:Int)) ae,tB 21 (aJ ae:((n:Int)==0)=false),.c (On _ ae ae:gV 183 [(iP n)] _),.o 26 (.int ae:PV.le (.e (.v (.int .u64 (Int.natAbs (n:Int):Int)))) (.e (.v (.int .u64 (n:Int))))),.o 29 (.int (px _ ae):PV.le (.e (.v (.int .u64 (IntKind.u64.wrap (d:Int))))) (.e (.v (.int .u64 (d:Int))))),.c (Rn _ _ _ K hn j9 hd sY hp ic hK iH hb:gV 222 [(.v (.int .u64 (n:Int))),(.v (.int .u64 (d:Int))),(iP p)] _),tF 36 ((n:Int)<0) ae]<|.nil) ah 
theorem ab5(n d p K:Nat)(hn:1<=n)(j9:n<=1073741824)(hd:1<=d)(sY:d<=1073741824)(hp:8<=p)(ic:p<=512)(hK:K<p+31)(iH:∀ y,y<K->ia (jK n d y)<p)(hb:p<=ia (jK n d K))(hr:lJ (-(n:Int)) (d:Int)=true):gV 185 [(.agg [(iP (-(n:Int))),(iP d)]),(iP p)] (gZ (nF (-(n:Int)) (d:Int) p)):=by
 have Eo:(canon false (jT n d p K) (nC n d p K)).lG:=qJ _ _ _;have hc2:(if(oK (kU n d K) (jK n d K) (kZ n d p K))=true then canon false (jT n d p K) (nC n d p K)else canon false ((jT n d p K)+1) (nC n d p K)).lG:=by split<;>exact qJ _ _ _
 rw[ajV j9 hd hp ic hK hb hr];exact tr true Tryz.call185 Tryz.func185 (chain [.c (FJ (- (n:Int)) (d:Int)),tB 9 (by rw[hr];rfl:(!(lJ (-(n:Int)) (d:Int)))=false),tF 12 ((p:Int)<8) ae,tF 16 (512<(p:Int)) ae,tB 21 (aJ ae:((-(n:Int))==0)=false),.c (On _ ae ae:gV 183 [(iP (-(n:Int)))] _),.o 26 (.int ae:PV.le (.e (.v (.int .u64 (Int.natAbs (-(n:Int)):Int)))) (.e (.v (.int .u64 (n:Int))))),.o 29 (.int (px _ ae):PV.le (.e (.v (.int .u64 (IntKind.u64.wrap (d:Int))))) (.e (.v (.int .u64 (d:Int))))),.c (Rn _ _ _ K hn j9 hd sY hp ic hK iH hb:gV 222 [(.v (.int .u64 (n:Int))),(.v (.int .u64 (d:Int))),(iP p)] _),tT 36 ((-(n:Int))<0) ae,.c (U8 _ af:gV 223 [(gY (if(oK (kU n d K) (jK n d K) (kZ n d p K))=true then canon false (jT n d p K) (nC n d p K)else canon false ((jT n d p K)+1) (nC n d p K)))] _),.c (U8 _ af:gV 223 [(gY (canon false (jT n d p K) (nC n d p K)))] _)]<|.nil) ah 
theorem ab6(n d:Int)(p:Nat)(hr:lJ n d=true)(hp:8<=p)(ic:p<=512):gV 185 [.agg [iP n,iP d],iP (p:Int)] (gZ (nF n d p)):=by
 obtain⟨r1,r2,r3,r4⟩:=FK hr;obtain⟨d,rfl⟩:=dY (show 0<=d by omega);by_cases h0:n=0
 .subst h0;exact ab8 d p hr hp ic
 by_cases h1:0<=n
 .obtain ⟨n,rfl⟩:=dY h1
  obtain⟨K,k1,k2,k3⟩:=Rd (n:=n) (d:=d) ae ae ae p;exact ab7 n d p K ae ae ae ae hp ic k1 k2 k3 hr
 .obtain ⟨m,rfl⟩:∃ m:Nat,n = -(m:Int):=⟨n.natAbs,ae⟩
  obtain⟨K,k1,k2,k3⟩:=Rd (n:=m) (d:=d) ae ae ae p;exact ab5 m d p K ae ae ae ae hp ic k1 k2 k3 hr
end Go.Proofs.YtdgnpeddgdclhaaGreatDoor
