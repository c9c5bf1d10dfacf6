/- Lemmas that the last file uses. -/
import Derived.Test.YtdgnpeddgdclhaaGreatDoorM04
set_option linter.unusedSimpArgs false
set_option linter.unusedVariables false
set_option linter.defProp false
set_option maxHeartbeats 4000000
namespace Go.Proofs.YtdgnpeddgdclhaaGreatDoor
open Go.RowKit Fp Pu
def RW(a b:Nat)(x:Nat):PS:=⟨12,true,[(0,.e (.v (.int .u64 ((((lW a b x).1):Nat):Int)))),(1,.e (.v (.int .u64 ((((lW a b x).2):Nat):Int))))],[]⟩
def Wu(s:jr)(N:Nat)(x:Nat):PS:=⟨131,true,[(4,.e (iP x)),(3,.box 3 0),(1,.box 1 0)],[(3,.cells 25 [(iP s.im),(jJ s.gW),(jN s.ij)]),(1,.cells 28 [(iP s.im),(jJ s.gW),(jN s.ij),(iP s.iz),(jW s.params)])]⟩
def Wp(s:jr)(x:Nat):PS:=⟨131,true,[(4,.e (iP x)),(3,.box 3 0),(1,.box 1 0)],[(3,.cells 25 [(iP s.im),(jJ s.gW),(jN s.ij)]),(1,.cells 28 [(iP s.im),(jJ s.gW),(jN s.ij),(iP s.iz),(jW s.params)])]⟩
def Wv(s:jr)(N:Nat)(x:Nat):PS:=⟨131,true,[(5,.e (iP x)),(3,.box 3 0),(1,.box 1 0)],[(3,.cells 25 [(iP s.im),(jJ s.gW),(jN s.ij)]),(1,.cells 28 [(iP s.im),(jJ s.gW),(jN s.ij),(iP s.iz),(jW s.params)])]⟩
def Wq(s:jr)(x:Nat):PS:=⟨131,true,[(4,.e (iP x)),(3,.box 3 0),(1,.box 1 0)],[(3,.cells 25 [(iP s.im),(jJ s.gW),(jN s.ij)]),(1,.cells 28 [(iP s.im),(jJ s.gW),(jN s.ij),(iP s.iz),(jW s.params)])]⟩
def Ww(s:jr)(N:Nat)(x:Nat):PS:=⟨131,true,[(5,.e (iP x)),(3,.box 3 0),(1,.box 1 0)],[(3,.cells 25 [(iP s.im),(jJ s.gW),(jN s.ij)]),(1,.cells 28 [(iP s.im),(jJ s.gW),(jN s.ij),(iP s.iz),(jW s.params)])]⟩
def Wr(s:jr)(x:Nat):PS:=⟨131,true,[(4,.e (iP x)),(3,.box 3 0),(1,.box 1 0)],[(3,.cells 25 [(iP s.im),(jJ s.gW),(jN s.ij)]),(1,.cells 28 [(iP s.im),(jJ s.gW),(jN s.ij),(iP s.iz),(jW s.params)])]⟩
def Wx(s:jr)(x:Nat):PS:=⟨131,true,[(5,.e (iP x)),(3,.box 3 0),(1,.box 1 0)],[(3,.cells 25 [(iP s.im),(jJ s.gW),(jN s.ij)]),(1,.cells 28 [(iP s.im),(jJ s.gW),(jN s.ij),(iP s.iz),(jW s.params)])]⟩
def Wy(s:jr)(N:Nat)(x:Nat):PS:=⟨131,true,[(6,.e (iP x)),(1,.box 1 0)],[(1,.cells 28 [(iP s.im),(jJ s.gW),(jN s.ij),(iP s.iz),(jW s.params)])]⟩
def Ws(s:jr)(x:Nat):PS:=⟨131,true,[(4,.e (iP x)),(3,.box 3 0),(1,.box 1 0)],[(3,.cells 25 [(iP s.im),(jJ s.gW),(jN s.ij)]),(1,.cells 28 [(iP s.im),(jJ s.gW),(jN s.ij),(iP s.iz),(jW s.params)])]⟩
def Wz(s:jr)(x:Nat):PS:=⟨131,true,[(5,.e (iP x)),(3,.box 3 0),(1,.box 1 0)],[(3,.cells 25 [(iP s.im),(jJ s.gW),(jN s.ij)]),(1,.cells 28 [(iP s.im),(jJ s.gW),(jN s.ij),(iP s.iz),(jW s.params)])]⟩
def WA(s:jr)(N:Nat)(x:Nat):PS:=⟨131,true,[(6,.e (iP x)),(1,.box 1 0)],[(1,.cells 28 [(iP s.im),(jJ s.gW),(jN s.ij),(iP s.iz),(jW s.params)])]⟩
def Wt(s:jr)(x:Nat):PS:=⟨131,true,[(4,.e (iP x)),(3,.box 3 0),(1,.box 1 0)],[(3,.cells 25 [(iP s.im),(jJ s.gW),(jN s.ij)]),(1,.cells 28 [(iP s.im),(jJ s.gW),(jN s.ij),(iP s.iz),(jW s.params)])]⟩
def WB(s:jr)(x:Nat):PS:=⟨131,true,[(5,.e (iP x)),(3,.box 3 0),(1,.box 1 0)],[(3,.cells 25 [(iP s.im),(jJ s.gW),(jN s.ij)]),(1,.cells 28 [(iP s.im),(jJ s.gW),(jN s.ij),(iP s.iz),(jW s.params)])]⟩
def WC(s:jr)(x:Nat):PS:=⟨131,true,[(6,.e (iP x)),(1,.box 1 0)],[(1,.cells 28 [(iP s.im),(jJ s.gW),(jN s.ij),(iP s.iz),(jW s.params)])]⟩
def VU(s:jr)(b:List RI)(N:Nat)(x:Nat):PS:=⟨35,true,[(5,.e (iP x)),(1,.e (jW b))],[]⟩
def VV(s:jr)(b:List RI)(N:Nat)(x:Nat):PS:=⟨35,true,[(5,.e (iP x)),(1,.e (jW b))],[]⟩
def VW(s:jr)(b:List RI)(x:Nat):PS:=⟨35,true,[(5,.e (iP x)),(1,.e (jW b))],[]⟩
theorem adn(a b N:Nat)(ha:a<18446744073709551616)(hb:b<18446744073709551616)(iH:∀ k,k<N->(lW a b k).2≠0)(hN:(lW a b N).2=0):gU 182 [(.v (.int .u64 (a:Int))),(.v (.int .u64 (b:Int)))] (.v (.int .u64 ((((lW a b N).1):Nat):Int))):=by
 exact tr true Tryz.call182 Tryz.func182 (chain [.s (Sp.jx (RW a b) 0 N ae (fun x hx ke=>by
    have jI:=iH x ae;exact iB (chain [tB 6 (Fh (iH x ae):(((((lW a b x).2):Nat):Int) != 0)=true),.a (ae:0<(((((lW a b x).2):Nat):Int):Int))]<|.e (chain [.o 0 (.int aw:PV.le (.e (.v (.int .u64 ((((lW a b x).2):Nat):Int)))) (.e (.v (.int .u64 ((((lW a b (x+1)).1):Nat):Int))))),.o 1 (.int aw:PV.le (.e (.v (.int .u64 (((((lW a b x).1)%((lW a b x).2)):Nat):Int)))) (.e (.v (.int .u64 ((((lW a b (x+1)).2):Nat):Int)))))]<|.nil)) ah)
  (fun hx=>by
    exact iB (chain [tB 6 (BH hN:(((((lW a b N).2):Nat):Int) != 0)=false)]<|.nil) ah) ak:ju 1 Tryz.f182 (RW a b 0) (.exit 0) ⟨12,true,[(0,.e (.v (.int .u64 ((((lW a b N).1):Nat):Int))))],[]⟩) (chain [.o 0 (.int aw:PV.le (.e (.v (.int .u64 (a:Int)))) (.e (.v (.int .u64 ((((lW a b 0).1):Nat):Int))))),.o 1 (.int aw:PV.le (.e (.v (.int .u64 (b:Int)))) (.e (.v (.int .u64 ((((lW a b 0).2):Nat):Int)))))]<|.nil)]<|.nil) ah 
theorem adp(a b:Nat)(ha:a<18446744073709551616)(hb:b<18446744073709551616):gU 182 [(.v (.int .u64 (a:Int))),(.v (.int .u64 (b:Int)))] (.v (.int .u64 (Nat.gcd a b:Int))):=by
 obtain⟨N,h1,h2⟩:=Rp b a;have hg:=KZ a b N;rw[h2,Nat.gcd_zero_right]at hg;rw[<-hg];exact adn a b N ha hb h1 h2
theorem aks(m:Nat)(h:m<=1073741824):gU 183 [(iP m)] (.v (.int .u64 (m:Int))):=by
 exact tr true Tryz.call183 Tryz.func183 (chain [tF 4 ((m:Int)<0) ae,.o 11 (.int (pB _ ae):PV.le (.e (.v (.int .u64 (IntKind.u64.wrap (m:Int))))) (.e (.v (.int .u64 (m:Int)))))]<|.nil) ah 
theorem akr(m:Nat)(h0:0<m)(h:m<=1073741824):gU 183 [(iP (-(m:Int)))] (.v (.int .u64 (m:Int))):=by
 exact tr true Tryz.call183 Tryz.func183 (chain [tT 4 ((-(m:Int))<0) ae,iq ((-(m:Int))+1) ae,iq (0-((-(m:Int))+1)) ae,.o 7 (.int ae:PV.le (.e (iP (0-((-(m:Int))+1)))) (.e (iP (((m-1):Nat):Int)))),.o 8 (.int (pB _ ae):PV.le (.e (.v (.int .u64 (IntKind.u64.wrap (((m-1):Nat):Int))))) (.e (.v (.int .u64 (((m-1):Nat):Int))))),pd ((((m-1):Nat):Int)+1) ae]<|rQ (.v (.int .u64 ((((m-1)+1):Nat):Int))) (.v (.int .u64 (m:Int))) (by rw[show m-1+1=m by omega])) ah 
theorem Om(n:Int)(h1:-1073741824<=n)(h2:n<=1073741824):gU 183 [iP n] (.v (.int .u64 (n.natAbs:Int))):=by
 by_cases h:0<=n
 .obtain ⟨m,rfl⟩:=dJ h
  exact aks m ae 
 .obtain ⟨m,rfl⟩:∃ m:Nat,n = -(m:Int):=⟨n.natAbs,ae⟩
  rw[ff,dA];exact akr m ae ae 
theorem FH(n d:Int):gU 146 [(.agg [(iP n),(iP d)])] (bP (lL n d)):=by
 exact tr true Tryz.call146 Tryz.func146 (.w (1<=d)
  (fun k1=>chain [tB 5 (aS k1)]<|.w (d<=1073741824)
   (fun k2=>chain [tB 9 (aS k2)]<|.w ((-1073741824)<=n)
    (fun k3=>chain [tB 14 (aS k3)]<|.w (n<=1073741824)
     (fun k4=>chain [tB 19 (aS k4),.c (Om _ ae ae:gU 183 [(iP n)] _),.o 27 (.int (alx ae ae):PV.le (.e (.v (.int .u64 (IntKind.u64.wrap d)))) (.e (.v (.int .u64 (Int.natAbs d:Int))))),.c (adp (Int.natAbs n) (Int.natAbs d) ae ae)]<|rQ (bP ((Nat.gcd (Int.natAbs n) (Int.natAbs d):Int)==1)) (bP (lL n d)) (by unfold lL;simp[xy,k1,k2,k3,k4]))
     (fun k4=>chain [tB 19 (aT k4)]<|rQ (bP false) (bP (lL n d)) (by unfold lL;simp[xy,k1,k2,k3,k4])))
    (fun k3=>chain [tB 14 (aT k3)]<|rQ (bP false) (bP (lL n d)) (by unfold lL;simp[xy,k1,k2,k3])))
   (fun k2=>chain [tB 9 (aT k2)]<|rQ (bP false) (bP (lL n d)) (by unfold lL;simp[xy,k1,k2])))
  (fun k1=>chain [tB 5 (aT k1)]<|rQ (bP false) (bP (lL n d)) (by unfold lL;simp[xy,k1]))) ah 
theorem BM(o:na)(m:Int)(g:o.jg):gU 95 [(BV o),(iP m)] (bP (jF o m)):=by
 exact tr true Tryz.call95 Tryz.func95 (.w (o.kind=1)
  (fun k1=>chain [tB 13 (aK k1),.c (FH o.cn o.cd)]<|.w (lL o.cn o.cd=true)
   (fun k2=>chain [tB 19 (k2),tB 47 (ag:(decide ((0:Int)<0))=false),tB 52 (ag:(decide ((1:Int)<0))=false),.g (I8 g.kind g.a g.b g.n g.cn g.cd g.kind ur ur ur g.cn g.cd:pD Tryz.prog .eql 99 (BV o) (.agg [(iP o.kind),(iP 0),(iP 0),(iP 0),(iP o.cn),(iP o.cd)]) (.bool (decide (o.kind=o.kind/\o.a=0/\o.b=0/\o.n=0/\o.cn=o.cn/\o.cd=o.cd))))]<|.w (o.kind=o.kind/\o.a=0/\o.b=0/\o.n=0/\o.cn=o.cn/\o.cd=o.cd)
    (fun k3=>chain [tB 58 (aS k3),tB 61 (ag:((0:Int)==0)=true)]<|rQ (bP true) (bP (jF o m)) (kU))
    (fun k3=>chain [tB 58 (aT k3)]<|rQ (bP false) (bP (jF o m)) (kU)))
   (fun k2=>chain [tB 19 (aM k2)]<|rQ (bP false) (bP (jF o m)) (kU)))
  (fun k1=>chain [tB 13 (aJ k1),.j 42 ⟨85,true,[(21,.e (bP (decide (3<=o.kind/\o.kind<=6)))),(11,.e (iP o.kind)),(6,.box 6 0),(2,.box 2 0),(1,.e (iP m))],[(6,.cells 99 [(iP o.kind),(iP 0),(iP 0),(iP 0),(iP 0),(iP 0)]),(2,.cells 99 [(iP o.kind),(iP o.a),(iP o.b),(iP o.n),(iP o.cn),(iP o.cd)])]⟩
   (.w (o.kind=3)
    (fun m1=>chain [.v 21 (.bool (aK m1))]<|.e (chain [tB 21 (oi an:true=(decide (3<=o.kind/\o.kind<=6)))]<|.nil))
    (fun m1=>chain [.v 21 (.bool (aJ m1))]<|.w (o.kind=4)
     (fun m2=>chain [tB 23 (aK m2)]<|.e (chain [tB 21 (oi an:true=(decide (3<=o.kind/\o.kind<=6)))]<|.nil))
     (fun m2=>chain [tB 23 (aJ m2)]<|.w (o.kind=5)
      (fun m3=>chain [tB 24 (aK m3)]<|.e (chain [tB 21 (oi an:true=(decide (3<=o.kind/\o.kind<=6)))]<|.nil))
      (fun m3=>chain [tB 24 (aJ m3)]<|.e (chain [tB 21 (oi an:(o.kind==6)=(decide (3<=o.kind/\o.kind<=6)))]<|.nil)))))]<|.w (3<=o.kind/\o.kind<=6)
   (fun k2=>chain [.v 21 (.bool (aS k2)),tB 47 (ag:(decide ((0:Int)<2))=true),tB 52 (ag:(decide ((1:Int)<2))=true),.g (I8 g.kind g.a g.b g.n g.cn g.cd g.kind g.a g.b ur ur ur:pD Tryz.prog .eql 99 (BV o) (.agg [(iP o.kind),(iP o.a),(iP o.b),(iP 0),(iP 0),(iP 0)]) (.bool (decide (o.kind=o.kind/\o.a=o.a/\o.b=o.b/\o.n=0/\o.cn=0/\o.cd=0))))]<|.w (o.kind=o.kind/\o.a=o.a/\o.b=o.b/\o.n=0/\o.cn=0/\o.cd=0)
    (fun k3=>chain [tB 58 (aS k3),tB 61 (ag:((2:Int)==0)=false)]<|.w (0<=o.a)
     (fun k4=>chain [tB 65 (aS k4)]<|.w (o.a<m)
      (fun k5=>chain [tB 70 (aS k5)]<|.w (0<=o.b)
       (fun k6=>chain [tB 75 (aS k6)]<|rQ (bP (decide (o.b<m))) (bP (jF o m)) (kU))
       (fun k6=>chain [tB 75 (aT k6)]<|rQ (bP false) (bP (jF o m)) (kU)))
      (fun k5=>chain [tB 70 (aT k5)]<|rQ (bP false) (bP (jF o m)) (kU)))
     (fun k4=>chain [tB 65 (aT k4)]<|rQ (bP false) (bP (jF o m)) (kU)))
    (fun k3=>chain [tB 58 (aT k3)]<|rQ (bP false) (bP (jF o m)) (kU)))
   (fun k2=>chain [.v 21 (.bool (aT k2)),.j 52 ⟨85,true,[(26,.e (bP (decide (o.kind=7\/9<=o.kind/\o.kind<=13)))),(11,.e (iP o.kind)),(6,.box 6 0),(2,.box 2 0),(1,.e (iP m))],[(6,.cells 99 [(iP o.kind),(iP 0),(iP 0),(iP 0),(iP 0),(iP 0)]),(2,.cells 99 [(iP o.kind),(iP o.a),(iP o.b),(iP o.n),(iP o.cn),(iP o.cd)])]⟩
   (.w (o.kind=7)
    (fun m1=>chain [.v 26 (.bool (aK m1))]<|.e (chain [tB 26 (oi an:true=(decide (o.kind=7\/9<=o.kind/\o.kind<=13)))]<|.nil))
    (fun m1=>chain [.v 26 (.bool (aJ m1))]<|.w (o.kind=9)
     (fun m2=>chain [tB 28 (aK m2)]<|.e (chain [tB 26 (oi an:true=(decide (o.kind=7\/9<=o.kind/\o.kind<=13)))]<|.nil))
     (fun m2=>chain [tB 28 (aJ m2)]<|.w (o.kind=10)
      (fun m3=>chain [tB 29 (aK m3)]<|.e (chain [tB 26 (oi an:true=(decide (o.kind=7\/9<=o.kind/\o.kind<=13)))]<|.nil))
      (fun m3=>chain [tB 29 (aJ m3)]<|.w (o.kind=11)
       (fun m4=>chain [tB 30 (aK m4)]<|.e (chain [tB 26 (oi an:true=(decide (o.kind=7\/9<=o.kind/\o.kind<=13)))]<|.nil))
       (fun m4=>chain [tB 30 (aJ m4)]<|.w (o.kind=12)
        (fun m5=>chain [tB 31 (aK m5)]<|.e (chain [tB 26 (oi an:true=(decide (o.kind=7\/9<=o.kind/\o.kind<=13)))]<|.nil))
        (fun m5=>chain [tB 31 (aJ m5)]<|.e (chain [tB 26 (oi an:(o.kind==13)=(decide (o.kind=7\/9<=o.kind/\o.kind<=13)))]<|.nil)))))))]<|.w (o.kind=7\/9<=o.kind/\o.kind<=13)
    (fun k3=>chain [.v 26 (.bool (aS k3)),tB 47 (ag:(decide ((0:Int)<1))=true),tB 52 (ag:(decide ((1:Int)<1))=false),.g (I8 g.kind g.a g.b g.n g.cn g.cd g.kind g.a ur ur ur ur:pD Tryz.prog .eql 99 (BV o) (.agg [(iP o.kind),(iP o.a),(iP 0),(iP 0),(iP 0),(iP 0)]) (.bool (decide (o.kind=o.kind/\o.a=o.a/\o.b=0/\o.n=0/\o.cn=0/\o.cd=0))))]<|.w (o.kind=o.kind/\o.a=o.a/\o.b=0/\o.n=0/\o.cn=0/\o.cd=0)
     (fun k4=>chain [tB 58 (aS k4),tB 61 (ag:((1:Int)==0)=false)]<|.w (0<=o.a)
      (fun k5=>chain [tB 65 (aS k5)]<|.w (o.a<m)
       (fun k6=>chain [tB 70 (aS k6)]<|.w (0<=o.b)
        (fun k7=>chain [tB 75 (aS k7)]<|rQ (bP (decide (o.b<m))) (bP (jF o m)) (kU))
        (fun k7=>chain [tB 75 (aT k7)]<|rQ (bP false) (bP (jF o m)) (kU)))
       (fun k6=>chain [tB 70 (aT k6)]<|rQ (bP false) (bP (jF o m)) (kU)))
      (fun k5=>chain [tB 65 (aT k5)]<|rQ (bP false) (bP (jF o m)) (kU)))
     (fun k4=>chain [tB 58 (aT k4)]<|rQ (bP false) (bP (jF o m)) (kU)))
    (fun k3=>chain [.v 26 (.bool (aT k3))]<|.w (o.kind=8)
     (fun k4=>chain [tB 34 (aK k4)]<|.w (o.n<0)
      (fun k5=>chain [tB 40 (aS k5)]<|rQ (bP false) (bP (jF o m)) (kU))
      (fun k5=>chain [tB 40 (aT k5)]<|.w (16<o.n)
       (fun k6=>chain [tB 44 (aS k6)]<|rQ (bP false) (bP (jF o m)) (kU))
       (fun k6=>chain [tB 44 (aT k6),tB 47 (ag:(decide ((0:Int)<1))=true),tB 52 (ag:(decide ((1:Int)<1))=false),.g (I8 g.kind g.a g.b g.n g.cn g.cd g.kind g.a ur g.n ur ur:pD Tryz.prog .eql 99 (BV o) (.agg [(iP o.kind),(iP o.a),(iP 0),(iP o.n),(iP 0),(iP 0)]) (.bool (decide (o.kind=o.kind/\o.a=o.a/\o.b=0/\o.n=o.n/\o.cn=0/\o.cd=0))))]<|.w (o.kind=o.kind/\o.a=o.a/\o.b=0/\o.n=o.n/\o.cn=0/\o.cd=0)
        (fun k7=>chain [tB 58 (aS k7),tB 61 (ag:((1:Int)==0)=false)]<|.w (0<=o.a)
         (fun k8=>chain [tB 65 (aS k8)]<|.w (o.a<m)
          (fun k9=>chain [tB 70 (aS k9)]<|.w (0<=o.b)
           (fun k10=>chain [tB 75 (aS k10)]<|rQ (bP (decide (o.b<m))) (bP (jF o m)) (kU))
           (fun k10=>chain [tB 75 (aT k10)]<|rQ (bP false) (bP (jF o m)) (kU)))
          (fun k9=>chain [tB 70 (aT k9)]<|rQ (bP false) (bP (jF o m)) (kU)))
         (fun k8=>chain [tB 65 (aT k8)]<|rQ (bP false) (bP (jF o m)) (kU)))
        (fun k7=>chain [tB 58 (aT k7)]<|rQ (bP false) (bP (jF o m)) (kU)))))
     (fun k4=>chain [tB 34 (aJ k4)]<|rQ (bP false) (bP (jF o m)) (kU)))))) ah 
theorem UY(L:List Nat):((L.length:Int)=0)↔L=[]:=by rw[<-amN];omega
def zB(d:RD):Bool:=!d.neg&&decide (d.L=[])&&(d.e==0)
theorem Gh{d:RD}:zB d=true↔d.Zero:=by simp[zB,RD.Zero,and_assoc]
theorem FG(d:RD):gU 52 [(mr d)] (bP (zB d)):=by
 exact tr true Tryz.call52 Tryz.func52 (.w (d.neg=true)
  (fun k1=>chain [tB 4 (k1)]<|rQ (bP false) (bP (zB d)) (by simp[zB,k1]))
  (fun k1=>chain [tB 4 (aM k1)]<|.w ((d.L.length:Int)=0)
   (fun k2=>chain [tB 10 (aK k2)]<|rQ (bP (d.e==0)) (bP (zB d)) (by simp[zB,k1,show d.L=[]from(UY _).1 k2]))
   (fun k2=>chain [tB 10 (aJ k2)]<|rQ (bP false) (bP (zB d)) (by simp[zB,k1,show ¬d.L=[]from fun q=>k2 ((UY _).2 q)])))) ah 
theorem Az(x:RI)(g:x.jg):gU 19 [(uq x)] (bP (nm x)):=by
 have ga:=g.lo;have gb:=g.hi;by_cases ha:x.all=true
 .have nb:∀ q:x.all=false,False:=fun q=>by rw[ha]at q;cases q
  by_cases h1:x.lo.Zero
  .by_cases h2:x.hi.Zero
   .rw [su.2 (.inl ⟨ha,h1,h2⟩)]
    exact tr true Tryz.call19 Tryz.func19 (chain [tB 4 (ha:x.all=true),.c (FG x.lo),tB 7 (Gh.2 h1:(zB x.lo)=true),.c (FG x.hi),tB 11 (Gh.2 h2:(zB x.hi)=true)]<|.nil) ah 
   .have e:nm x=false:=by simpa using fun q=>(su.1 q).elim (fun q=>h2 q.2.2) fun q=>nb q.1
    rw[e];exact tr true Tryz.call19 Tryz.func19 (chain [tB 4 (ha:x.all=true),.c (FG x.lo),tB 7 (Gh.2 h1:(zB x.lo)=true),.c (FG x.hi),tB 11 (aM fun q=>h2 (Gh.1 q):(zB x.hi)=false)]<|.nil) ah 
  .have e:nm x=false:=by simpa using fun q=>(su.1 q).elim (fun q=>h1 q.2.1) fun q=>nb q.1
   rw[e];exact tr true Tryz.call19 Tryz.func19 (chain [tB 4 (ha:x.all=true),.c (FG x.lo),tB 7 (aM fun q=>h1 (Gh.1 q):(zB x.lo)=false)]<|.nil) ah 
 .replace ha:x.all=false:=by simpa using ha
  by_cases h1:x.lo.Ok
  .by_cases h2:x.hi.Ok
   .have v1:=h1.valid
    have v2:=h2.valid;have e1:uq x=gZ x.iv:=by rw[<-IL,show x.iv.raw=x by show RI.mk x.lo.dy.raw x.hi.dy.raw x.all=x;rw[h1.eq ga,h2.eq gb]]
    rw[e1];by_cases h3:jo x.lo.dy x.hi.dy<=0
    .rw [su.2 (.inr ⟨ha,h1,h2,h3⟩)]
     exact tr true Tryz.call19 Tryz.func19 (chain [tB 4 (ha:x.iv.all=false),.c (yU _ af:gU 46 [(gY x.iv.lo)] _),.c (yU _ af:gU 46 [(gY x.iv.hi)] _),.c (BQ x.iv.lo x.iv.hi v1.rq v2.rq),tB 27 (aS h3)]<|.nil) ah 
    .have e:nm x=false:=by simpa using fun q=>(su.1 q).elim (fun q=>by rw[ha]at q;exact Bool.noConfusion q.1) fun q=>h3 q.2.2.2
     rw[e];exact tr true Tryz.call19 Tryz.func19 (chain [tB 4 (ha:x.iv.all=false),.c (yU _ af:gU 46 [(gY x.iv.lo)] _),.c (yU _ af:gU 46 [(gY x.iv.hi)] _),.c (BQ x.iv.lo x.iv.hi v1.rq v2.rq),tB 27 (aT h3)]<|.nil) ah 
   .have e:nm x=false:=by simpa using fun q=>(su.1 q).elim (fun q=>by rw[ha]at q;exact Bool.noConfusion q.1) fun q=>h2 q.2.2.1
    rw[e];exact tr true Tryz.call19 Tryz.func19 (chain [tB 4 (ha:x.all=false),.c (Jo _ af _ vy:gU 46 [(mr x.lo)] _),tB 15 (vy.2 h1:(xE x.lo)=true),.c (Jo _ af _ vy:gU 46 [(mr x.hi)] _),tB 19 (aM fun q=>h2 (vy.1 q):(xE x.hi)=false)]<|.nil) ah 
  .have e:nm x=false:=by simpa using fun q=>(su.1 q).elim (fun q=>by rw[ha]at q;exact Bool.noConfusion q.1) fun q=>h1 q.2.1
   rw[e];exact tr true Tryz.call19 Tryz.func19 (chain [tB 4 (ha:x.all=false),.c (Jo _ af _ vy:gU 46 [(mr x.lo)] _),tB 15 (aM fun q=>h1 (vy.1 q):(xE x.lo)=false)]<|.nil) ah 
theorem ahP(s:jr)(g:s.jg)(sm:s.ml)(hc:¬(0<=s.im/\s.im<=8/\s.gW.length<=200/\s.ij.length<=200/\1<=s.iz/\s.iz<=4/\(s.ij.length:Int)=s.iz/\s.params.length<=4/\s.im=s.iz+(s.params.length:Int))):gU 49 [(kZ s)] (bP false):=by
 have sp:=sm.params;have so:=sm.ij;have sq:=sm.gW;exact tr true Tryz.call49 Tryz.func49 (.w (s.im<0)
  (fun k1=>chain [tB 11 (aS k1)]<|.nil)
  (fun k1=>chain [tB 11 (aT k1)]<|.w (8<s.im)
   (fun k2=>chain [tB 15 (aS k2)]<|.nil)
   (fun k2=>chain [tB 15 (aT k2)]<|.w (200<(s.gW.length:Int))
    (fun k3=>chain [tB 21 (aS k3)]<|.nil)
    (fun k3=>chain [tB 21 (aT k3)]<|.w (200<(s.ij.length:Int))
     (fun k4=>chain [tB 27 (aS k4)]<|.nil)
     (fun k4=>chain [tB 27 (aT k4)]<|.w (s.iz<1)
      (fun k5=>chain [tB 32 (aS k5)]<|.nil)
      (fun k5=>chain [tB 32 (aT k5)]<|.w (4<s.iz)
       (fun k6=>chain [tB 37 (aS k6)]<|.nil)
       (fun k6=>chain [tB 37 (aT k6)]<|.w ((s.ij.length:Int)=s.iz)
        (fun k7=>chain [tB 45 (aO k7)]<|.w (4<(s.params.length:Int))
         (fun k8=>chain [tB 51 (aS k8)]<|.nil)
         (fun k8=>chain [tB 51 (aT k8),iq (s.iz+(s.params.length:Int)) ae]<|.w (s.im=(s.iz+(s.params.length:Int)))
          (fun k9=>.x (by exact absurd ⟨ae,ae,ae,ae,ae,ae,ae,ae,ae⟩ hc))
          (fun k9=>chain [tB 62 (aP k9)]<|.nil)))
        (fun k7=>chain [tB 45 (aP k7)]<|.nil)))))))) ah 
theorem ahQ(s:jr)(g:s.jg)(sm:s.ml)(i0:0<=s.im)(i8:s.im<=8)(l1:s.gW.length<=200)(l2:s.ij.length<=200)(s1:1<=s.iz)(s4:s.iz<=4)(e1:(s.ij.length:Int)=s.iz)(e2:s.im=s.iz+(s.params.length:Int))(p4:s.params.length<=4)(N:Nat)(mG:N<s.gW.length)(iH:∀ k,k<N->(jF (s.gW.getD k iW) (s.im+(k:Int)))=true)(hN:(jF (s.gW.getD N iW) (s.im+(N:Int)))=false):gU 49 [(kZ s)] (bP false):=by
 have sp:=sm.params;have so:=sm.ij;have sq:=sm.gW;exact tr true Tryz.call49 Tryz.func49 (chain [tF 11 (s.im<0) ae,tF 15 (8<s.im) ae,tF 21 (200<(s.gW.length:Int)) ae,tF 27 (200<(s.ij.length:Int)) ae,tF 32 (s.iz<1) ae,tF 37 (4<s.iz) ae,tB 45 (by simp[e1]:((s.ij.length:Int) != s.iz)=false),tF 51 (4<(s.params.length:Int)) ae,iq (s.iz+(s.params.length:Int)) ae,tB 62 (by simp[e2]:(s.im != (s.iz+(s.params.length:Int)))=false),.s (Sp.jx (Wu s N) 0 N ae (fun x hx ke=>by
    have ng:=g.gW x;exact iB (chain [tT 68 ((x:Int)<(s.gW.length:Int)) ae,iX ((x:Int)) (s.gW.length) ae,iq (s.im+(x:Int)) ae,.c (BM (s.gW.getD x iW) (s.im+(x:Int)) ng),tB 81 (by rw[iH x ae];rfl:(!(jF (s.gW.getD x iW) (s.im+(x:Int))))=false),iq ((x:Int)+1) ae]<|.nil) ah)
  (fun hx=>by
    have ng:=g.gW N;exact iB (chain [tT 68 ((N:Int)<(s.gW.length:Int)) ae,iX ((N:Int)) (s.gW.length) ae,iq (s.im+(N:Int)) ae,.c (BM (s.gW.getD N iW) (s.im+(N:Int)) ng),tB 81 (by rw[hN];rfl:(!(jF (s.gW.getD N iW) (s.im+(N:Int))))=true)]<|.nil) ah) ak:ju 5 Tryz.f49 (Wu s N 0) .ret ⟨131,true,[(2,.e (bP false))],[]⟩) .nil]<|.nil) ah 
theorem ahR(s:jr)(g:s.jg)(sm:s.ml)(i0:0<=s.im)(i8:s.im<=8)(l1:s.gW.length<=200)(l2:s.ij.length<=200)(s1:1<=s.iz)(s4:s.iz<=4)(e1:(s.ij.length:Int)=s.iz)(e2:s.im=s.iz+(s.params.length:Int))(p4:s.params.length<=4)(iH:∀ k,k<s.gW.length->(jF (s.gW.getD k iW) (s.im+(k:Int)))=true)(N:Nat)(mG:N<s.ij.length)(mT:∀ k,k<N->0<=(s.ij.getD k 0)/\(s.ij.getD k 0)<s.im+(s.gW.length:Int))(hN:(s.ij.getD N 0)<0):gU 49 [(kZ s)] (bP false):=by
 have sp:=sm.params;have so:=sm.ij;have sq:=sm.gW;exact tr true Tryz.call49 Tryz.func49 (chain [tF 11 (s.im<0) ae,tF 15 (8<s.im) ae,tF 21 (200<(s.gW.length:Int)) ae,tF 27 (200<(s.ij.length:Int)) ae,tF 32 (s.iz<1) ae,tF 37 (4<s.iz) ae,tB 45 (by simp[e1]:((s.ij.length:Int) != s.iz)=false),tF 51 (4<(s.params.length:Int)) ae,iq (s.iz+(s.params.length:Int)) ae,tB 62 (by simp[e2]:(s.im != (s.iz+(s.params.length:Int)))=false),.s (Sp.jx (Wp s) 0 s.gW.length ae (fun x hx ke=>by
    have ng:=g.gW x;exact iB (chain [tT 68 ((x:Int)<(s.gW.length:Int)) ae,iX ((x:Int)) (s.gW.length) ae,iq (s.im+(x:Int)) ae,.c (BM (s.gW.getD x iW) (s.im+(x:Int)) ng),tB 81 (by rw[iH x ae];rfl:(!(jF (s.gW.getD x iW) (s.im+(x:Int))))=false),iq ((x:Int)+1) ae]<|.nil) ah)
  (fun hx=>by
    exact iB (chain [tF 68 ((s.gW.length:Int)<(s.gW.length:Int)) ae]<|.nil) ah) ak:ju 5 Tryz.f49 (Wp s 0) (.exit 0) ⟨131,true,[(3,.box 3 0),(1,.box 1 0)],[(3,.cells 25 [(iP s.im),(jJ s.gW),(jN s.ij)]),(1,.cells 28 [(iP s.im),(jJ s.gW),(jN s.ij),(iP s.iz),(jW s.params)])]⟩) .nil,.s (Sp.jx (Wv s N) 0 N ae (fun x hx ke=>by
    have Bm:=mT x ae;exact iB (chain [tT 86 ((x:Int)<(s.ij.length:Int)) ae,iX ((x:Int)) (s.ij.length) ae,tF 94 ((s.ij.getD x 0)<0) ae,iX ((x:Int)) (s.ij.length) ae,
     iq (s.im+(s.gW.length:Int)) ae,tF 107 ((s.im+(s.gW.length:Int))<=(s.ij.getD x 0)) ae,iq ((x:Int)+1) ae]<|.nil) ah)
  (fun hx=>by
    exact iB (chain [tT 86 ((N:Int)<(s.ij.length:Int)) ae,iX ((N:Int)) (s.ij.length) ae,tB 94 (aS hN)]<|.nil) ah) ak:ju 10 Tryz.f49 (Wv s N 0) .ret ⟨131,true,[(2,.e (bP false))],[]⟩) .nil]<|.nil) ah 
theorem ahS(s:jr)(g:s.jg)(sm:s.ml)(i0:0<=s.im)(i8:s.im<=8)(l1:s.gW.length<=200)(l2:s.ij.length<=200)(s1:1<=s.iz)(s4:s.iz<=4)(e1:(s.ij.length:Int)=s.iz)(e2:s.im=s.iz+(s.params.length:Int))(p4:s.params.length<=4)(iH:∀ k,k<s.gW.length->(jF (s.gW.getD k iW) (s.im+(k:Int)))=true)(N:Nat)(mG:N<s.ij.length)(mT:∀ k,k<N->0<=(s.ij.getD k 0)/\(s.ij.getD k 0)<s.im+(s.gW.length:Int))(hN:0<=(s.ij.getD N 0))(hM:s.im+(s.gW.length:Int)<=(s.ij.getD N 0)):gU 49 [(kZ s)] (bP false):=by
 have sp:=sm.params;have so:=sm.ij;have sq:=sm.gW;exact tr true Tryz.call49 Tryz.func49 (chain [tF 11 (s.im<0) ae,tF 15 (8<s.im) ae,tF 21 (200<(s.gW.length:Int)) ae,tF 27 (200<(s.ij.length:Int)) ae,tF 32 (s.iz<1) ae,tF 37 (4<s.iz) ae,tB 45 (by simp[e1]:((s.ij.length:Int) != s.iz)=false),tF 51 (4<(s.params.length:Int)) ae,iq (s.iz+(s.params.length:Int)) ae,tB 62 (by simp[e2]:(s.im != (s.iz+(s.params.length:Int)))=false),.s (Sp.jx (Wq s) 0 s.gW.length ae (fun x hx ke=>by
    have ng:=g.gW x;exact iB (chain [tT 68 ((x:Int)<(s.gW.length:Int)) ae,iX ((x:Int)) (s.gW.length) ae,iq (s.im+(x:Int)) ae,.c (BM (s.gW.getD x iW) (s.im+(x:Int)) ng),tB 81 (by rw[iH x ae];rfl:(!(jF (s.gW.getD x iW) (s.im+(x:Int))))=false),iq ((x:Int)+1) ae]<|.nil) ah)
  (fun hx=>by
    exact iB (chain [tF 68 ((s.gW.length:Int)<(s.gW.length:Int)) ae]<|.nil) ah) ak:ju 5 Tryz.f49 (Wq s 0) (.exit 0) ⟨131,true,[(3,.box 3 0),(1,.box 1 0)],[(3,.cells 25 [(iP s.im),(jJ s.gW),(jN s.ij)]),(1,.cells 28 [(iP s.im),(jJ s.gW),(jN s.ij),(iP s.iz),(jW s.params)])]⟩) .nil,.s (Sp.jx (Ww s N) 0 N ae (fun x hx ke=>by
    have Bm:=mT x ae;exact iB (chain [tT 86 ((x:Int)<(s.ij.length:Int)) ae,iX ((x:Int)) (s.ij.length) ae,tF 94 ((s.ij.getD x 0)<0) ae,iX ((x:Int)) (s.ij.length) ae,
     iq (s.im+(s.gW.length:Int)) ae,tF 107 ((s.im+(s.gW.length:Int))<=(s.ij.getD x 0)) ae,iq ((x:Int)+1) ae]<|.nil) ah)
  (fun hx=>by
    exact iB (chain [tT 86 ((N:Int)<(s.ij.length:Int)) ae,iX ((N:Int)) (s.ij.length) ae,tF 94 ((s.ij.getD N 0)<0) ae,iX ((N:Int)) (s.ij.length) ae,
    iq (s.im+(s.gW.length:Int)) ae,tB 107 (aS hM)]<|.nil) ah) ak:ju 10 Tryz.f49 (Ww s N 0) .ret ⟨131,true,[(2,.e (bP false))],[]⟩) .nil]<|.nil) ah 
theorem ahT(s:jr)(g:s.jg)(sm:s.ml)(i0:0<=s.im)(i8:s.im<=8)(l1:s.gW.length<=200)(l2:s.ij.length<=200)(s1:1<=s.iz)(s4:s.iz<=4)(e1:(s.ij.length:Int)=s.iz)(e2:s.im=s.iz+(s.params.length:Int))(p4:s.params.length<=4)(iH:∀ k,k<s.gW.length->(jF (s.gW.getD k iW) (s.im+(k:Int)))=true)(mT:∀ k,k<s.ij.length->0<=(s.ij.getD k 0)/\(s.ij.getD k 0)<s.im+(s.gW.length:Int))(N:Nat)(mG:N<s.params.length)(qb:∀ k,k<N->nm (s.params.getD k jt)=true/\(s.params.getD k jt).all=false)(hN:(s.params.getD N jt).all=true):gU 49 [(kZ s)] (bP false):=by
 have sp:=sm.params;have so:=sm.ij;have sq:=sm.gW;exact tr true Tryz.call49 Tryz.func49 (chain [tF 11 (s.im<0) ae,tF 15 (8<s.im) ae,tF 21 (200<(s.gW.length:Int)) ae,tF 27 (200<(s.ij.length:Int)) ae,tF 32 (s.iz<1) ae,tF 37 (4<s.iz) ae,tB 45 (by simp[e1]:((s.ij.length:Int) != s.iz)=false),tF 51 (4<(s.params.length:Int)) ae,iq (s.iz+(s.params.length:Int)) ae,tB 62 (by simp[e2]:(s.im != (s.iz+(s.params.length:Int)))=false),.s (Sp.jx (Wr s) 0 s.gW.length ae (fun x hx ke=>by
    have ng:=g.gW x;exact iB (chain [tT 68 ((x:Int)<(s.gW.length:Int)) ae,iX ((x:Int)) (s.gW.length) ae,iq (s.im+(x:Int)) ae,.c (BM (s.gW.getD x iW) (s.im+(x:Int)) ng),tB 81 (by rw[iH x ae];rfl:(!(jF (s.gW.getD x iW) (s.im+(x:Int))))=false),iq ((x:Int)+1) ae]<|.nil) ah)
  (fun hx=>by
    exact iB (chain [tF 68 ((s.gW.length:Int)<(s.gW.length:Int)) ae]<|.nil) ah) ak:ju 5 Tryz.f49 (Wr s 0) (.exit 0) ⟨131,true,[(3,.box 3 0),(1,.box 1 0)],[(3,.cells 25 [(iP s.im),(jJ s.gW),(jN s.ij)]),(1,.cells 28 [(iP s.im),(jJ s.gW),(jN s.ij),(iP s.iz),(jW s.params)])]⟩) .nil,.s (Sp.jx (Wx s) 0 s.ij.length ae (fun x hx ke=>by
    have Bm:=mT x ae;exact iB (chain [tT 86 ((x:Int)<(s.ij.length:Int)) ae,iX ((x:Int)) (s.ij.length) ae,tF 94 ((s.ij.getD x 0)<0) ae,iX ((x:Int)) (s.ij.length) ae,
     iq (s.im+(s.gW.length:Int)) ae,tF 107 ((s.im+(s.gW.length:Int))<=(s.ij.getD x 0)) ae,iq ((x:Int)+1) ae]<|.nil) ah)
  (fun hx=>by
    exact iB (chain [tF 86 ((s.ij.length:Int)<(s.ij.length:Int)) ae]<|.nil) ah) ak:ju 10 Tryz.f49 (Wx s 0) (.exit 2) ⟨131,true,[(1,.box 1 0)],[(1,.cells 28 [(iP s.im),(jJ s.gW),(jN s.ij),(iP s.iz),(jW s.params)])]⟩) .nil,.s (Sp.jx (Wy s N) 0 N ae (fun x hx ke=>by
    have yi:=g.params x;exact iB (chain [tT 113 ((x:Int)<(s.params.length:Int)) ae,iX ((x:Int)) (s.params.length) ae,tB 121 ((qb x ae).2:(s.params.getD x jt).all=false),
     iX ((x:Int)) (s.params.length) ae,.c (Az (s.params.getD x jt) af),tB 129 (by rw[(qb x ae).1];rfl:(!(nm (s.params.getD x jt)))=false),iq ((x:Int)+1) ae]<|.nil) ah)
  (fun hx=>by
    have yi:=g.params N;exact iB (chain [tT 113 ((N:Int)<(s.params.length:Int)) ae,iX ((N:Int)) (s.params.length) ae,tB 121 (hN:(s.params.getD N jt).all=true)]<|.nil) ah) ak:ju 15 Tryz.f49 (Wy s N 0) .ret ⟨131,true,[(2,.e (bP false))],[]⟩) .nil]<|.nil) ah 
theorem ahU(s:jr)(g:s.jg)(sm:s.ml)(i0:0<=s.im)(i8:s.im<=8)(l1:s.gW.length<=200)(l2:s.ij.length<=200)(s1:1<=s.iz)(s4:s.iz<=4)(e1:(s.ij.length:Int)=s.iz)(e2:s.im=s.iz+(s.params.length:Int))(p4:s.params.length<=4)(iH:∀ k,k<s.gW.length->(jF (s.gW.getD k iW) (s.im+(k:Int)))=true)(mT:∀ k,k<s.ij.length->0<=(s.ij.getD k 0)/\(s.ij.getD k 0)<s.im+(s.gW.length:Int))(N:Nat)(mG:N<s.params.length)(qb:∀ k,k<N->nm (s.params.getD k jt)=true/\(s.params.getD k jt).all=false)(hN:(s.params.getD N jt).all=false)(hM:nm (s.params.getD N jt)=false):gU 49 [(kZ s)] (bP false):=by
 have sp:=sm.params;have so:=sm.ij;have sq:=sm.gW;exact tr true Tryz.call49 Tryz.func49 (chain [tF 11 (s.im<0) ae,tF 15 (8<s.im) ae,tF 21 (200<(s.gW.length:Int)) ae,tF 27 (200<(s.ij.length:Int)) ae,tF 32 (s.iz<1) ae,tF 37 (4<s.iz) ae,tB 45 (by simp[e1]:((s.ij.length:Int) != s.iz)=false),tF 51 (4<(s.params.length:Int)) ae,iq (s.iz+(s.params.length:Int)) ae,tB 62 (by simp[e2]:(s.im != (s.iz+(s.params.length:Int)))=false),.s (Sp.jx (Ws s) 0 s.gW.length ae (fun x hx ke=>by
    have ng:=g.gW x;exact iB (chain [tT 68 ((x:Int)<(s.gW.length:Int)) ae,iX ((x:Int)) (s.gW.length) ae,iq (s.im+(x:Int)) ae,.c (BM (s.gW.getD x iW) (s.im+(x:Int)) ng),tB 81 (by rw[iH x ae];rfl:(!(jF (s.gW.getD x iW) (s.im+(x:Int))))=false),iq ((x:Int)+1) ae]<|.nil) ah)
  (fun hx=>by
    exact iB (chain [tF 68 ((s.gW.length:Int)<(s.gW.length:Int)) ae]<|.nil) ah) ak:ju 5 Tryz.f49 (Ws s 0) (.exit 0) ⟨131,true,[(3,.box 3 0),(1,.box 1 0)],[(3,.cells 25 [(iP s.im),(jJ s.gW),(jN s.ij)]),(1,.cells 28 [(iP s.im),(jJ s.gW),(jN s.ij),(iP s.iz),(jW s.params)])]⟩) .nil,.s (Sp.jx (Wz s) 0 s.ij.length ae (fun x hx ke=>by
    have Bm:=mT x ae;exact iB (chain [tT 86 ((x:Int)<(s.ij.length:Int)) ae,iX ((x:Int)) (s.ij.length) ae,tF 94 ((s.ij.getD x 0)<0) ae,iX ((x:Int)) (s.ij.length) ae,
     iq (s.im+(s.gW.length:Int)) ae,tF 107 ((s.im+(s.gW.length:Int))<=(s.ij.getD x 0)) ae,iq ((x:Int)+1) ae]<|.nil) ah)
  (fun hx=>by
    exact iB (chain [tF 86 ((s.ij.length:Int)<(s.ij.length:Int)) ae]<|.nil) ah) ak:ju 10 Tryz.f49 (Wz s 0) (.exit 2) ⟨131,true,[(1,.box 1 0)],[(1,.cells 28 [(iP s.im),(jJ s.gW),(jN s.ij),(iP s.iz),(jW s.params)])]⟩) .nil,.s (Sp.jx (WA s N) 0 N ae (fun x hx ke=>by
    have yi:=g.params x;exact iB (chain [tT 113 ((x:Int)<(s.params.length:Int)) ae,iX ((x:Int)) (s.params.length) ae,tB 121 ((qb x ae).2:(s.params.getD x jt).all=false),
     iX ((x:Int)) (s.params.length) ae,.c (Az (s.params.getD x jt) af),tB 129 (by rw[(qb x ae).1];rfl:(!(nm (s.params.getD x jt)))=false),iq ((x:Int)+1) ae]<|.nil) ah)
  (fun hx=>by
    have yi:=g.params N;exact iB (chain [tT 113 ((N:Int)<(s.params.length:Int)) ae,iX ((N:Int)) (s.params.length) ae,tB 121 (hN:(s.params.getD N jt).all=false),iX ((N:Int)) (s.params.length) ae,.c (Az (s.params.getD N jt) af),tB 129 (by rw[hM];rfl:(!(nm (s.params.getD N jt)))=true)]<|.nil) ah) ak:ju 15 Tryz.f49 (WA s N 0) .ret ⟨131,true,[(2,.e (bP false))],[]⟩) .nil]<|.nil) ah 
theorem ahV(s:jr)(g:s.jg)(sm:s.ml)(i0:0<=s.im)(i8:s.im<=8)(l1:s.gW.length<=200)(l2:s.ij.length<=200)(s1:1<=s.iz)(s4:s.iz<=4)(e1:(s.ij.length:Int)=s.iz)(e2:s.im=s.iz+(s.params.length:Int))(p4:s.params.length<=4)(iH:∀ k,k<s.gW.length->(jF (s.gW.getD k iW) (s.im+(k:Int)))=true)(mT:∀ k,k<s.ij.length->0<=(s.ij.getD k 0)/\(s.ij.getD k 0)<s.im+(s.gW.length:Int))(qb:∀ k,k<s.params.length->nm (s.params.getD k jt)=true/\(s.params.getD k jt).all=false):gU 49 [(kZ s)] (bP true):=by
 have sp:=sm.params;have so:=sm.ij;have sq:=sm.gW;exact tr true Tryz.call49 Tryz.func49 (chain [tF 11 (s.im<0) ae,tF 15 (8<s.im) ae,tF 21 (200<(s.gW.length:Int)) ae,tF 27 (200<(s.ij.length:Int)) ae,tF 32 (s.iz<1) ae,tF 37 (4<s.iz) ae,tB 45 (by simp[e1]:((s.ij.length:Int) != s.iz)=false),tF 51 (4<(s.params.length:Int)) ae,iq (s.iz+(s.params.length:Int)) ae,tB 62 (by simp[e2]:(s.im != (s.iz+(s.params.length:Int)))=false),.s (Sp.jx (Wt s) 0 s.gW.length ae (fun x hx ke=>by
    have ng:=g.gW x;exact iB (chain [tT 68 ((x:Int)<(s.gW.length:Int)) ae,iX ((x:Int)) (s.gW.length) ae,iq (s.im+(x:Int)) ae,.c (BM (s.gW.getD x iW) (s.im+(x:Int)) ng),tB 81 (by rw[iH x ae];rfl:(!(jF (s.gW.getD x iW) (s.im+(x:Int))))=false),iq ((x:Int)+1) ae]<|.nil) ah)
  (fun hx=>by
    exact iB (chain [tF 68 ((s.gW.length:Int)<(s.gW.length:Int)) ae]<|.nil) ah) ak:ju 5 Tryz.f49 (Wt s 0) (.exit 0) ⟨131,true,[(3,.box 3 0),(1,.box 1 0)],[(3,.cells 25 [(iP s.im),(jJ s.gW),(jN s.ij)]),(1,.cells 28 [(iP s.im),(jJ s.gW),(jN s.ij),(iP s.iz),(jW s.params)])]⟩) .nil,.s (Sp.jx (WB s) 0 s.ij.length ae (fun x hx ke=>by
    have Bm:=mT x ae;exact iB (chain [tT 86 ((x:Int)<(s.ij.length:Int)) ae,iX ((x:Int)) (s.ij.length) ae,tF 94 ((s.ij.getD x 0)<0) ae,iX ((x:Int)) (s.ij.length) ae,
     iq (s.im+(s.gW.length:Int)) ae,tF 107 ((s.im+(s.gW.length:Int))<=(s.ij.getD x 0)) ae,iq ((x:Int)+1) ae]<|.nil) ah)
  (fun hx=>by
    exact iB (chain [tF 86 ((s.ij.length:Int)<(s.ij.length:Int)) ae]<|.nil) ah) ak:ju 10 Tryz.f49 (WB s 0) (.exit 2) ⟨131,true,[(1,.box 1 0)],[(1,.cells 28 [(iP s.im),(jJ s.gW),(jN s.ij),(iP s.iz),(jW s.params)])]⟩) .nil,.s (Sp.jx (WC s) 0 s.params.length ae (fun x hx ke=>by
    have yi:=g.params x;exact iB (chain [tT 113 ((x:Int)<(s.params.length:Int)) ae,iX ((x:Int)) (s.params.length) ae,tB 121 ((qb x ae).2:(s.params.getD x jt).all=false),
     iX ((x:Int)) (s.params.length) ae,.c (Az (s.params.getD x jt) af),tB 129 (by rw[(qb x ae).1];rfl:(!(nm (s.params.getD x jt)))=false),iq ((x:Int)+1) ae]<|.nil) ah)
  (fun hx=>by
    exact iB (chain [tF 113 ((s.params.length:Int)<(s.params.length:Int)) ae]<|.nil) ah) ak:ju 15 Tryz.f49 (WC s 0) (.exit 4) ⟨131,true,[],[]⟩) .nil]<|.nil) ah 
theorem FD(s:jr)(g:s.jg)(sm:s.ml):gU 49 [kZ s] (bP (mD s)):=by
 by_cases hc:0<=s.im/\s.im<=8/\s.gW.length<=200/\s.ij.length<=200/\1<=s.iz/\s.iz<=4/\(s.ij.length:Int)=s.iz/\s.params.length<=4/\s.im=s.iz+(s.params.length:Int)
 rotate_left
 .rw [show mD s=false from ajP hc]
  exact ahP s g sm hc
 obtain⟨i0,i8,l1,l2,s1,s4,e1,p4,e2⟩:=hc;by_cases c2:FO s=true
 rotate_left
 .rw [show mD s=false by unfold mD;rw[aM c2];simp]
  obtain⟨N,n1,n2,n3⟩:=xP c2;exact ahQ s g sm i0 i8 l1 l2 s1 s4 e1 e2 p4 N n1 (fun k hk=>by simpa using n3 k hk) (by simpa using n2)
 have iH:∀ k,k<s.gW.length->jF (s.gW.getD k iW) (s.im+(k:Int))=true:=fun k hk=>bH.1 c2 k (bJ.2 hk)
 by_cases c3:vz s=true
 rotate_left
 .rw [show mD s=false by unfold mD;rw[aM c3];simp]
  obtain⟨N,n1,n2,n3⟩:=xP c3;have mT:∀ k,k<N->0<=s.ij.getD k 0/\s.ij.getD k 0<s.im+(s.gW.length:Int):=fun k hk=>by simpa[vq]using n3 k hk
  have hN:¬(0<=s.ij.getD N 0/\s.ij.getD N 0<s.im+(s.gW.length:Int)):=fun q=>by
   rw[show vq s (s.ij.getD N 0)=true from aS q]at n2;cases n2
  by_cases h0:s.ij.getD N 0<0
  .exact ahR s g sm i0 i8 l1 l2 s1 s4 e1 e2 p4 iH N n1 mT h0
  .exact ahS s g sm i0 i8 l1 l2 s1 s4 e1 e2 p4 iH N n1 mT ae ae 
 have mT:∀ k,k<s.ij.length->0<=s.ij.getD k 0/\s.ij.getD k 0<s.im+(s.gW.length:Int):=fun k hk=>by simpa[vq]using List.all_eq_true.1 c3 k (bJ.2 hk)
 by_cases c4:Dw s=true
 .rw [show mD s=true by unfold mD;rw[aS (⟨i0,i8,l1,l2⟩:_/\_),c2,c3,aS (⟨s1,s4,e1,e2,p4⟩:_/\_),c4];rfl]
  exact ahV s g sm i0 i8 l1 l2 s1 s4 e1 e2 p4 iH mT fun k hk=>by simpa[ny]using List.all_eq_true.1 c4 k (bJ.2 hk)
 .rw [show mD s=false by unfold mD;rw[aM c4];simp]
  obtain⟨N,n1,n2,n3⟩:=xP c4;have qb:∀ k,k<N->nm (s.params.getD k jt)=true/\(s.params.getD k jt).all=false:=fun k hk=>by simpa[ny]using n3 k hk
  cases ha:(s.params.getD N jt).all with
  |true=>exact ahT s g sm i0 i8 l1 l2 s1 s4 e1 e2 p4 iH mT N n1 qb ha
  |false=>exact ahU s g sm i0 i8 l1 l2 s1 s4 e1 e2 p4 iH mT N n1 qb ha (by
   cases hk:nm (s.params.getD N jt)with
   |false=>rfl
   |true=>rw[show ny (s.params.getD N jt)=true by unfold ny;rw[hk,ha];rfl]at n2;cases n2)
theorem aic(s:jr)(g:s.jg)(sm:s.ml)(b:List RI)(gb:∀ i,(b.getD i jt).jg)(nE:b.length<=1000)(hs:mD s=false):gU 15 [(kZ s),(jW b)] (bP false):=by
 exact tr true Tryz.call15 Tryz.func15 (chain [.c (FD _ g sm:gU 49 [(kZ s)] _),tB 8 (by rw[hs];rfl:(!(mD s))=true)]<|.nil) ah 
theorem aid(s:jr)(g:s.jg)(sm:s.ml)(b:List RI)(gb:∀ i,(b.getD i jt).jg)(nE:b.length<=1000)(hs:mD s=true)(hl:¬(b.length:Int)=s.iz):gU 15 [(kZ s),(jW b)] (bP false):=by
 exact tr true Tryz.call15 Tryz.func15 (chain [.c (FD _ g sm:gU 49 [(kZ s)] _),tB 8 (by rw[hs];rfl:(!(mD s))=false),tB 14 (by simpa using hl:((b.length:Int) != s.iz)=true)]<|.nil) ah 
theorem aie(s:jr)(g:s.jg)(sm:s.ml)(b:List RI)(gb:∀ i,(b.getD i jt).jg)(nE:b.length<=1000)(hs:mD s=true)(hl:(b.length:Int)=s.iz)(N:Nat)(mG:N<b.length)(qb:∀ k,k<N->nm (b.getD k jt)=true/\(b.getD k jt).all=false)(hN:(b.getD N jt).all=true):gU 15 [(kZ s),(jW b)] (bP false):=by
 exact tr true Tryz.call15 Tryz.func15 (chain [.c (FD _ g sm:gU 49 [(kZ s)] _),tB 8 (by rw[hs];rfl:(!(mD s))=false),tB 14 (by simp[hl]:((b.length:Int) != s.iz)=false),.s (Sp.jx (VU s b N) 0 N ae (fun x hx ke=>by
    have yi:=gb x;exact iB (chain [tT 19 ((x:Int)<(b.length:Int)) ae,iX ((x:Int)) (b.length) ae,tB 26 ((qb x ae).2:(b.getD x jt).all=false),iX ((x:Int)) (b.length) ae,.c (Az (b.getD x jt) af),tB 33 (by rw[(qb x ae).1];rfl:(!(nm (b.getD x jt)))=false),iq ((x:Int)+1) ae]<|.nil) ah)
  (fun hx=>by
    have yi:=gb N;exact iB (chain [tT 19 ((N:Int)<(b.length:Int)) ae,iX ((N:Int)) (b.length) ae,tB 26 (hN:(b.getD N jt).all=true)]<|.nil) ah) ak:ju 4 Tryz.f15 (VU s b N 0) .ret ⟨35,true,[(4,.e (bP false))],[]⟩) .nil]<|.nil) ah 
theorem aif(s:jr)(g:s.jg)(sm:s.ml)(b:List RI)(gb:∀ i,(b.getD i jt).jg)(nE:b.length<=1000)(hs:mD s=true)(hl:(b.length:Int)=s.iz)(N:Nat)(mG:N<b.length)(qb:∀ k,k<N->nm (b.getD k jt)=true/\(b.getD k jt).all=false)(hN:(b.getD N jt).all=false)(hM:nm (b.getD N jt)=false):gU 15 [(kZ s),(jW b)] (bP false):=by
 exact tr true Tryz.call15 Tryz.func15 (chain [.c (FD _ g sm:gU 49 [(kZ s)] _),tB 8 (by rw[hs];rfl:(!(mD s))=false),tB 14 (by simp[hl]:((b.length:Int) != s.iz)=false),.s (Sp.jx (VV s b N) 0 N ae (fun x hx ke=>by
    have yi:=gb x;exact iB (chain [tT 19 ((x:Int)<(b.length:Int)) ae,iX ((x:Int)) (b.length) ae,tB 26 ((qb x ae).2:(b.getD x jt).all=false),iX ((x:Int)) (b.length) ae,.c (Az (b.getD x jt) af),tB 33 (by rw[(qb x ae).1];rfl:(!(nm (b.getD x jt)))=false),iq ((x:Int)+1) ae]<|.nil) ah)
  (fun hx=>by
    have yi:=gb N;exact iB (chain [tT 19 ((N:Int)<(b.length:Int)) ae,iX ((N:Int)) (b.length) ae,tB 26 (hN:(b.getD N jt).all=false),iX ((N:Int)) (b.length) ae,.c (Az (b.getD N jt) af),tB 33 (by rw[hM];rfl:(!(nm (b.getD N jt)))=true)]<|.nil) ah) ak:ju 4 Tryz.f15 (VV s b N 0) .ret ⟨35,true,[(4,.e (bP false))],[]⟩) .nil]<|.nil) ah 
theorem aih(s:jr)(g:s.jg)(sm:s.ml)(b:List RI)(gb:∀ i,(b.getD i jt).jg)(nE:b.length<=1000)(hs:mD s=true)(hl:(b.length:Int)=s.iz)(qb:∀ k,k<b.length->nm (b.getD k jt)=true/\(b.getD k jt).all=false):gU 15 [(kZ s),(jW b)] (bP true):=by
 exact tr true Tryz.call15 Tryz.func15 (chain [.c (FD _ g sm:gU 49 [(kZ s)] _),tB 8 (by rw[hs];rfl:(!(mD s))=false),tB 14 (by simp[hl]:((b.length:Int) != s.iz)=false),.s (Sp.jx (VW s b) 0 b.length ae (fun x hx ke=>by
    have yi:=gb x;exact iB (chain [tT 19 ((x:Int)<(b.length:Int)) ae,iX ((x:Int)) (b.length) ae,tB 26 ((qb x ae).2:(b.getD x jt).all=false),iX ((x:Int)) (b.length) ae,.c (Az (b.getD x jt) af),tB 33 (by rw[(qb x ae).1];rfl:(!(nm (b.getD x jt)))=false),iq ((x:Int)+1) ae]<|.nil) ah)
  (fun hx=>by
    exact iB (chain [tF 19 ((b.length:Int)<(b.length:Int)) ae]<|.nil) ah) ak:ju 4 Tryz.f15 (VW s b 0) (.exit 0) ⟨35,true,[],[]⟩) .nil]<|.nil) ah 
noncomputable def tK(s:jr)(b:List RI):Bool:=mD s&&pW s.iz b
theorem Jf(s:jr)(g:s.jg)(sm:s.ml)(b:List RI)(gb:∀ i,(b.getD i jt).jg)(nE:b.length<=1000):gU 15 [kZ s,jW b] (bP (tK s b)):=by
 unfold tK;cases hs:mD s with
 |false=>exact aic s g sm b gb nE hs
 |true=>
  rw[dZ];by_cases hl:(b.length:Int)=s.iz
  rotate_left
  .rw [show pW s.iz b=false by unfold pW;rw[aT hl];rfl]
   exact aid s g sm b gb nE hs hl
  by_cases c4:((List.range b.length).all fun i=>ny (b.getD i jt))=true
  .rw [show pW s.iz b=true by unfold pW;rw[aS hl,c4];rfl]
   exact aih s g sm b gb nE hs hl fun k hk=>by simpa[ny]using List.all_eq_true.1 c4 k (bJ.2 hk)
  .rw [show pW s.iz b=false by unfold pW;rw[aM c4];simp]
   obtain⟨N,n1,n2,n3⟩:=xP c4;have qb:∀ k,k<N->nm (b.getD k jt)=true/\(b.getD k jt).all=false:=fun k hk=>by simpa[ny]using n3 k hk
   cases ha:(b.getD N jt).all with
   |true=>exact aie s g sm b gb nE hs hl N n1 qb ha
   |false=>exact aif s g sm b gb nE hs hl N n1 qb ha (by
    cases hk:nm (b.getD N jt)with
    |false=>rfl
    |true=>rw[show ny (b.getD N jt)=true by unfold ny;rw[hk,ha];rfl]at n2;cases n2)
theorem Fz(p:Int):lp p=decide (8<=p/\p<=512):=by
 rw[cQ,o0,bZ]
theorem aii(s:jr)(g:s.jg)(sm:s.ml)(x:List RI)(gx:∀ i,(x.getD i jt).jg)(ln:x.length<=1000)(d:RD)(gd:d.jg)(p:Int)(hd:¬d.Ok):gU 14 [(kZ s),(jW x),(mr d),(iP p)] (bP (mv s x d p)):=by
 have u4:xE d=false:=aM fun q=>hd (vy.1 q)
 exact tr true Tryz.call14 Tryz.func14 (chain [.c (Jf _ g sm _ gx ln:gU 15 [(kZ s),(jW x)] _)]<|.w (tK s x=true)
  (fun k1=>chain [tB 11 (k1),.c (Jo _ af _ vy:gU 46 [(mr d)] _),tB 14 (u4:(xE d)=false)]<|rQ (bP false) (bP (mv s x d p)) (nc az))
  (fun k1=>chain [tB 11 (aM k1)]<|rQ (bP false) (bP (mv s x d p)) (nc az))) ah 
theorem aij(s:jr)(g:s.jg)(sm:s.ml)(x:List RI)(gx:∀ i,(x.getD i jt).jg)(ln:x.length<=1000)(d:RD)(gd:d.jg)(p:Int)(hd:d.Ok):gU 14 [(kZ s),(jW x),(gY d.dy),(iP p)] (bP (mv s x d p)):=by
 have u4:xE d=true:=vy.2 hd;have hv:=hd.valid;exact tr true Tryz.call14 Tryz.func14 (chain [.c (Jf _ g sm _ gx ln:gU 15 [(kZ s),(jW x)] _)]<|.w (tK s x=true)
  (fun k1=>chain [tB 11 (k1),.c (yU _ af:gU 46 [(gY d.dy)] _),.c (vw _:gU 47 [(gY d.dy)] _)]<|.w (0<(Dy.iJ d.dy))
   (fun k2=>chain [tB 19 (aS k2),.c (NT _:gU 48 [(iP p)] _)]<|rQ (bP (lp p)) (bP (mv s x d p)) (nc az))
   (fun k2=>chain [tB 19 (aT k2)]<|rQ (bP false) (bP (mv s x d p)) (nc az)))
  (fun k1=>chain [tB 11 (aM k1)]<|rQ (bP false) (bP (mv s x d p)) (nc az))) ah 
theorem NJ(s:jr)(g:s.jg)(sm:s.ml)(x:List RI)(gx:∀ i,(x.getD i jt).jg)(ln:x.length<=1000)(d:RD)(gd:d.jg)(p:Int):gU 14 [kZ s,jW x,mr d,iP p] (bP (mv s x d p)):=by
 by_cases hd:d.Ok
 .have:=aij s g sm x gx ln d gd p hd
  rwa[<-KO,hd.eq gd]at this
 .exact aii s g sm x gx ln d gd p hd
open Go.RowKit Fp Pu
def rh:lj:=⟨⟨1,[],[0]⟩,1,[]⟩
theorem Ox:mz rh:=by
 refine⟨⟨ag,ag,ag,fun i hi=>absurd hi (bj i),fun i hi=>?_⟩,ag,ag,rfl,rfl,ag,fun i hi=>absurd hi (bj i)⟩;have hi:i<1:=hi;obtain rfl:i=0:= ae ;decide
theorem akq{B:Iv}(v:B.ia)(a:B.all=false):ks 1 [B]:=⟨rfl,fun i hi=>by
 have hi:i<1:=hi;obtain rfl:i=0:= ae ;exact⟨v,a⟩⟩
abbrev sJ:List Iv:=[⟨kV 1 0,kV 1 0,false⟩]
abbrev s8:Dy:=kV 1 (-2)
abbrev He:List Iv:=[⟨kV 2 (-1),kV 3 (-1),false⟩]
abbrev Hf:List Iv:=[⟨kV 4 (-2),kV 5 (-2),false⟩]
theorem acB:∀ k:Nat,k<19->xQ rh sJ s8 60 ((k:Int)-20)=false:=by
 have h:((List.range 19).all fun k:Nat=>!(xQ rh sJ s8 60 ((k:Int)-20)))=true:= ar ;intro k hk;simpa using List.all_eq_true.1 h k (bJ.2 hk)
theorem acC:xQ rh sJ s8 60 (((19:Nat):Int)-20)=true:= ar 
theorem acA:(qZ sJ (nN (((19:Nat):Int)-20))).length=1:= ar 
theorem acy:qF rh sJ s8 He 60=true:= ar 
theorem acz:qF rh sJ s8 Hf 60=false:= ar 
theorem La{a b e:Int}(h1:a.natAbs<4294967296)(h2:b.natAbs<4294967296)(h3:-1000<=e)(h4:e<=1000)(h:jo (kV a e) (kV b e)<=0):ks 1 [⟨kV a e,kV b e,false⟩]:=
 akq (.inr ⟨rfl,DY h1 h3 h4,DY h2 h3 h4,h⟩) rfl
theorem K9:ks 1 sJ:=La ag ag ag ag ar 
theorem aco:ks 1 He:=La ag ag ag ag ar 
theorem acp:ks 1 Hf:=La ag ag ag ag ar 
theorem K8:s8.ia:=DY ag ag ag 
theorem K7:0<s8.iJ:= ar 
open Go.RowKit Fp Pu
theorem EU(n e:Int)(h1:n.natAbs<4294967296)(h2:-1000<=e)(h3:e<=1000):gU 39 [(iP n),(iP e)] (gY (kV n e)):=by
 have hrg:mQ (canon (Dy.neg (je n)) (Dy.m (je n)) ((Dy.e (je n))+e)):=by rw[Qd];exact(DY h1 h2 h3).range
 exact tr true Tryz.call39 Tryz.func39 (chain [.c (ai4 _ ae:gU 81 [(iP n)] _),.c (aje _ _ (si ae) ae ae hrg:gU 31 [(gY (je n)),(iP e)] _)]<|rQ (gY (canon (Dy.neg (je n)) (Dy.m (je n)) ((Dy.e (je n))+e))) (gY (kV n e)) (by rw[Qd])) ah 
theorem MM(a b e:Int)(h1:a.natAbs<4294967296)(h4:b.natAbs<4294967296)(h2:-1000<=e)(h3:e<=1000):gU 38 [(iP a),(iP b),(iP e)] (gZ (Iv.mk (kV a e) (kV b e) false)):=by
 exact tr true Tryz.call38 Tryz.func38 (chain [.c (EU _ _ ae ae ae:gU 39 [(iP a),(iP e)] _),.c (EU _ _ ae ae ae:gU 39 [(iP b),(iP e)] _)]<|.nil) ah 
theorem Ov:E.le (.agg [iP 1,.v (.slice none 0 0),.sl true 1 1 fun i j=>[iP 0].getD (i*1+j) (.v (.bool false)),iP 1,.v (.slice none 0 0)]) (iM rh):=
 .agg (.cons (.refl _) (.cons (.nil _ _ _) (.cons (.sl fun i j hi hj=>by
  obtain rfl:i=0:= ae ;obtain rfl:j=0:= ae ;exact⟨.iU rfl,rfl⟩) (.cons (.refl _) (.cons (.nil _ _ _) .nil)))))
theorem acs:gU 26 [iM rh,ig sJ,gY s8,iP 60] (.iw [ig (qZ sJ (nN (((19:Nat):Int)-20))),iP 0]):=
 aca rh sJ s8 60 Ox K9 K8 K7 ag ag 19 ag acB acC
theorem acu:gU 23 [iM rh,ig sJ,gY s8,ig He,iP 60] (bP true):=by
 have:=u9 rh sJ s8 He 60 Ox K9 K8 K7 aco ag ag;rwa[acy]at this
theorem acv:gU 23 [iM rh,ig sJ,gY s8,ig Hf,iP 60] (bP false):=by
 have:=u9 rh sJ s8 Hf 60 Ox K9 K8 K7 acp ag ag;rwa[acz]at this
theorem wE : gU 9 [] (bP true):=by
 exact tr true Tryz.call9 Tryz.func9 (chain [.c (MM _ _ _ ag ag ag ag:gU 38 [(iP 1),(iP 1),(iP 0)] _),.o 9 (.e (mC _):PV.le (.e (.sl true 1 7 fun i_ j_=>(iZ (Iv.mk (kV 1 0) (kV 1 0) false)).getD (i_*7+j_) (.v (.bool false)))) (.e (ig [(Iv.mk (kV 1 0) (kV 1 0) false)]))),.o 11 (.e Ov:PV.le (.e (.agg [(iP 1),(.v (.slice none 0 0)),(.sl true 1 1 fun i_ j_=>[(iP 0)].getD (i_*1+j_) (.v (.bool false))),(iP 1),(.v (.slice none 0 0))])) (.e (iM rh))),.c (EU _ _ ag ag ag:gU 39 [(iP 1),(iP (-2))] _),.c (acs:gU 26 [(iM rh),(ig [(Iv.mk (kV 1 0) (kV 1 0) false)]),(gY (kV 1 (-2))),(iP 60)] _),.o 17 (.e Ov:PV.le (.e (.agg [(iP 1),(.v (.slice none 0 0)),(.sl true 1 1 fun i_ j_=>[(iP 0)].getD (i_*1+j_) (.v (.bool false))),(iP 1),(.v (.slice none 0 0))])) (.e (iM rh))),.c (EU _ _ ag ag ag:gU 39 [(iP 1),(iP (-2))] _),.c (MM _ _ _ ag ag ag ag:gU 38 [(iP 2),(iP 3),(iP (-1))] _),.o 21 (.e (mC _):PV.le (.e (.sl true 1 7 fun i_ j_=>(iZ (Iv.mk (kV 2 (-1)) (kV 3 (-1)) false)).getD (i_*7+j_) (.v (.bool false)))) (.e (ig [(Iv.mk (kV 2 (-1)) (kV 3 (-1)) false)]))),.c (acu:gU 23 [(iM rh),(ig [(Iv.mk (kV 1 0) (kV 1 0) false)]),(gY (kV 1 (-2))),(ig [(Iv.mk (kV 2 (-1)) (kV 3 (-1)) false)]),(iP 60)] _),.o 24 (.e Ov:PV.le (.e (.agg [(iP 1),(.v (.slice none 0 0)),(.sl true 1 1 fun i_ j_=>[(iP 0)].getD (i_*1+j_) (.v (.bool false))),(iP 1),(.v (.slice none 0 0))])) (.e (iM rh))),.c (EU _ _ ag ag ag:gU 39 [(iP 1),(iP (-2))] _),.c (MM _ _ _ ag ag ag ag:gU 38 [(iP 4),(iP 5),(iP (-2))] _),.o 28 (.e (mC _):PV.le (.e (.sl true 1 7 fun i_ j_=>(iZ (Iv.mk (kV 4 (-2)) (kV 5 (-2)) false)).getD (i_*7+j_) (.v (.bool false)))) (.e (ig [(Iv.mk (kV 4 (-2)) (kV 5 (-2)) false)]))),.c (acv:gU 23 [(iM rh),(ig [(Iv.mk (kV 1 0) (kV 1 0) false)]),(gY (kV 1 (-2))),(ig [(Iv.mk (kV 4 (-2)) (kV 5 (-2)) false)]),(iP 60)] _),tB 34 (ag:((0:Int)==0)=true),tB 39 (by rw[acA];rfl:((((qZ sJ (nN (((19:Nat):Int)-20))).length:Nat):Int)==1)=true)]<|.nil) ah 
def py(d:RD):Bool:=decide (20<d.L.length)||(decide (300<d.e)||decide (d.e < -300))
def yL(x:RI):Bool:=py x.lo||py x.hi
def pA(l:List RI):Bool:=decide (l.length<=8) && !((List.range l.length).any fun i=>yL (l.getD i jt))
def rK(s:jr):Bool:=decide (s.gW.length<=60)&&(decide (s.ij.length<=8)&&pA s.params)
theorem B0{l:List RI}(h:pA l=true):l.length<=8:=by
 unfold pA at h;rw[bA,bZ]at h;exact h.1
theorem Le{s:jr}(h:rK s=true):s.ml:=by
 unfold rK at h;rw[bA,bA,bZ,bZ]at h;have:=B0 h.2.2;exact⟨ae,ae,ae⟩
theorem C6(d:RD):gU 12 [(mr d)] (bP (py d)):=by
 exact tr true Tryz.call12 Tryz.func12 (.w (20<(d.L.length:Int))
  (fun k1=>chain [tB 6 (aS k1)]<|rR (bP (py d)) (by
      exact .iU (by
       have:py d=true:=by unfold py;simp[show 20<d.L.length from ae]
       rw[this]):E.le (bP true) (bP (py d))))
  (fun k1=>chain [tB 6 (aT k1)]<|.w (300<d.e)
   (fun k2=>chain [tB 10 (aS k2)]<|rR (bP (py d)) (by
      exact .iU (by
       have:py d=true:=by unfold py;simp[show ¬20<d.L.length from ae,k2]
       rw[this]):E.le (bP true) (bP (py d))))
   (fun k2=>chain [tB 10 (aT k2)]<|rR (bP (py d)) (by
      exact .iU (by
       have:py d=(decide (d.e<(-300))):=by unfold py;simp[show ¬20<d.L.length from ae,k2]
       rw[this]):E.le (bP (decide (d.e<(-300)))) (bP (py d)))))) ah 
theorem afX(x:RI):gU 40 [(uq x)] (bP (yL x)):=by
 exact tr true Tryz.call40 Tryz.func40 (chain [.c (C6 x.lo:gU 12 [(mr x.lo)] _)]<|.w (py x.lo=true)
  (fun k1=>chain [tB 5 (k1)]<|rQ (bP true) (bP (yL x)) (nc (by simp_all[yL])))
  (fun k1=>chain [tB 5 (aM k1),.c (C6 x.hi:gU 12 [(mr x.hi)] _)]<|rQ (bP (py x.hi)) (bP (yL x)) (nc (by simp_all[yL])))) ah 
theorem afV(l:List RI)(hl:l.length<=1000):gU 17 [jW l,.fn 40 []] (bP ((List.range l.length).any fun i=>yL (l.getD i jt))):=
 MJ true l.length (fun i j=>(yV (l.getD i jt)).getD j .any) 40 [] (fun i=>yL (l.getD i jt)) (fun i _=>afX _) ae 
theorem yI(l:List RI):gU 11 [(jW l)] (bP (pA l)):=by
 exact tr true Tryz.call11 Tryz.func11 (.w ((l.length:Int)<=8)
  (fun k1=>chain [tB 5 (aS k1),.c (afV l ae:gU 17 [(jW l),(.fn 40 [])] _)]<|rQ (bP (!((List.range l.length).any fun i=>yL (l.getD i jt)))) (bP (pA l)) (nc (by unfold pA;simp[show l.length<=8 from ae])))
  (fun k1=>chain [tB 5 (aT k1)]<|rQ (bP false) (bP (pA l)) (nc (by unfold pA;simp[show ¬l.length<=8 from ae])))) ah 
theorem IN(s:jr):gU 10 [(kZ s)] (bP (rK s)):=by
 exact tr true Tryz.call10 Tryz.func10 (.w ((s.gW.length:Int)<=60)
  (fun k1=>chain [tB 7 (aS k1)]<|.w ((s.ij.length:Int)<=8)
   (fun k2=>chain [tB 13 (aS k2),.c (yI _:gU 11 [(jW s.params)] _)]<|rQ (bP (pA s.params)) (bP (rK s)) (nc (by unfold rK;simp[show s.gW.length<=60 from ae,show s.ij.length<=8 from ae])))
   (fun k2=>chain [tB 13 (aT k2)]<|rQ (bP false) (bP (rK s)) (nc (by unfold rK;simp[show s.gW.length<=60 from ae,show ¬s.ij.length<=8 from ae]))))
  (fun k1=>chain [tB 7 (aT k1)]<|rQ (bP false) (bP (rK s)) (nc (by unfold rK;simp[show ¬s.gW.length<=60 from ae])))) ah 
theorem RH{s:jr}(g:s.jg){x:List RI}(gx:∀ i,(x.getD i jt).jg){d:RD}(gd:d.jg){p:Int}(h:mv s x d p=true):mz s.v/\ks s.v.iz (x.map RI.iv)/\d.dy.ia/\0<d.dy.iJ/\8<=p/\p<=512/\kZ s=iM s.v/\jW x=ig (x.map RI.iv)/\mr d=gY d.dy:=by
 unfold mv at h;simp only[bA,bZ]at h;obtain⟨⟨⟨⟨h1,h2⟩,h3⟩,h4⟩,h5⟩:=h;obtain⟨o1,o2⟩:=ajQ g h1;have h3:=vy.1 h3;unfold pW at h2;rw[bA,bZ]at h2;obtain⟨b1,b2⟩:=h2;have pa:∀ i,i<x.length->(x.getD i jt).Ok/\(x.getD i jt).all=false:=fun i hi=>by
  have:=bH.1 b2 i (bJ.2 hi);unfold ny at this;rw[bA]at this;exact⟨su.1 this.1,by simpa using this.2⟩
 have lr:∀ i,i<x.length->(x.map RI.iv).getD i ie=(x.getD i jt).iv:=fun i hi=>by simp[aW,hi]
 have s1:=o1.s1;refine⟨o1,⟨by rw[cS];show x.length=s.iz.toNat;omega,fun i hi=>?_⟩,h3.valid,h4,h5.1,h5.2,o2,?_,?_⟩
 .have hi:i<x.length:=by simpa using hi
  rw[lr i hi];exact⟨(pa i hi).1.valid,(pa i hi).2⟩
 .rw [<-MK]
  congr 1;apply eU;intro i;unfold AA;rw[cj,cj];by_cases hi:i<x.length
  .have h1:=(pa i hi).1
   have g1:=gx i;rw[bd hi];rw[aW,bd hi]at h1 g1;exact congrArg some (RI.Ok.eq (x:=x[i]) h1 g1).symm
  .rw [bV ae];rfl
 .rw [<-KO,h3.eq gd]
end Go.Proofs.YtdgnpeddgdclhaaGreatDoor
namespace Go.Proofs.YtdgnpeddgdclhaaGreatDoor.Fp
end Go.Proofs.YtdgnpeddgdclhaaGreatDoor.Fp
namespace Go.Proofs.YtdgnpeddgdclhaaGreatDoor
open Go.RowKit Fp Pu
def rF(t:pg):Prop:=∀ i,(t.gW.getD i iT).kind<=8
section
variable {s:lj} {x x' b b':List Iv} {h h':Dy} {p n:Nat}
theorem It:qF s x h b p=true↔kT s x h b p≠[]/\mU x b=true/\mU (kT s x h b p) b=true:=by
 unfold qF;rw[bA,bA,fc,<-Bool.not_eq_true,List.isEmpty_iff]
end
open Go.RowKit Fp Pu
def OX(w:World)(L:List Nat)(e:Ending)(w':World):Prop:=∃ A c,e = .returned (.slice A L.length c)/\Sl w' A c L/\iy w w'/\∀ b o s,A=some ⟨b,o,s⟩->w.heap.size<=b
theorem Ow.Xo{w:World}{base:Nat}{v:Value}{L:List Nat}(h:Ow w base v L):∃ A c,v = .slice A L.length c/\Sl w A c L/\∀ b o s,A=some ⟨b,o,s⟩->base<=b:=by
 obtain⟨A,c,h1,h2⟩:=h.sl;refine⟨A,c,h1,h2,fun b o s e=>?_⟩;rcases h.row.2 with⟨h3,_⟩|⟨g,cap,cur,h3,hb,_⟩
 .rw [h1,e]at h3;injection h3 with h3;cases h3
 .rw [h1,e]at h3;injection h3 with h3;cases h3;exact hb
theorem akx{B br:Nat->Prop}{w w':World}{A:Option Addr}{c:Nat}{L:List Nat}(hB:∀ b,B b->b<w.heap.size)(h:Sl w' A c L)(hf:∀ b o s,A=some ⟨b,o,s⟩->w.heap.size<=b):iG B br w' (gX L) (.slice A L.length c):=by
 refine .sl false L.length 1 _ A c (fun i _=>.int .u32 (L.getD i 0:Int)) h.cap h.qe h.wG (fun i j _ _=>⟨rfl,fun h=>by cases h⟩) (fun i j _ _=>rfl) (fun i j hi hj=>?_) (fun i j _ _=>.v _);obtain rfl:j=0:= ae ;obtain⟨b,o,e1,iD,lE⟩:=h.lr hi;have e2:L.getD i 0=L[i]:=by simp[aW,hi]
 refine⟨b,o,e1,fun xg=>?_,iD,by rw[bO,bt,lE,e2]⟩;have:=hB b xg;have:=hf _ _ _ e1;omega
abbrev vG(f:FuncId)(args:List E)(jV:E):Prop:=AN Tryz.prog Tb f args jV
theorem ahA{f:FuncId}{L M:List Nat}(hk:iC L)(hc:∀ (vs:Array Value) (w:World),(callFunc f vs).run Tryz.prog w = .ok (.enter f vs) w)
 (H:∀ A c w,Sl w A c L->Tb w->Calls Tryz.prog f #[.slice A L.length c] w (OX w M)):vG f [gX L] (gX M):=by
 refine⟨hc,fun w B vs hK hB hr=>?_⟩;obtain⟨v1,vs,rfl,h1,hr⟩:=hr.lY;obtain rfl:=hr.qh;obtain⟨A,c,rfl,s1⟩:=uw hk h1;refine(H A c w s1 hK).mono fun e w' ⟨A,c,q1,q2,q3,q4⟩=>⟨_,q1,q3,akx hB q2 q4⟩
theorem aiZ(A:Option Addr)(c:Nat)(L:List Nat)(w:World)(hs:Sl w A c L)(hlen:L.length<=100000000):
 Calls Tryz.prog 195 #[.slice A L.length c] w (OX w (ik L)):=by
 have hc:=hs.cap;have hl:=hs.qe;have fin:∀ k:Nat,k=(ik L).length->Hid (ik L=L.take k):=fun k hk=>by rw[hk];exact F1 L
 go_enter Tryz.func195,Tryz.ntmps195;go_wp2;go_loop [3] (fun i=>∃ k:Nat,k<=L.length/\i = .int .i64 k/\lV L=lV (L.take k)) (fun i=>(intOf i).toNat)
 case atStart=>exact⟨L.length,aU _,rfl,aj⟩
 case round=>
  obtain⟨k,hk,rfl,ht⟩:=hrel;have HT:=Lib.hid ht;clear ht;have lK:([]:List Nat).length+(L.take k).length<=10000000000:=by rw[bY];simp;omega
  have HK:=Lib.hid (show k=(L.take k).length by rw[bY];omega);have h1:=Ow.empty w w.heap.size (aU _);have h2:=(hs.take k).alloc (.cells #[] 79);have h3:=qd (w:=w) (aU _) (.cells #[] 79);by_cases h0:0<k
  .obtain ⟨ab,ao,rfl,hb,wB⟩:=hs.lr (i:=k-1) ae 
   have e1:((k:Int)-1).toNat=k-1:= ae ;have Z:=Lib.hid (JJ L (k-1) ae);have NZ:=Lib.hid (JI L (k-1) ae);rw[eD h0]at Z NZ;generalize L[k-1]=x at *
   by_cases hx:x=0
   .have Hx:=Lib.hid hx;clear hx
    have hb:((x:Int)==0)=true:=by have:=Hx.out;simp;omega
    clear fin;go_wp2;go_round
    case rel=>exact⟨k-1,ae,by go_num,by rw[HT.out,Z.out Hx.out]⟩
    case measure=>simp[intOf];omega
   .have hb:((x:Int)==0)=false:= av 
    have F:=fin k (by show k=lV L;rw[HT.out,NZ.out hx]);clear fin;go_wp2_with (at_builtin;go_must (refine qW ai _ _ ai w.heap.size _ [] ai h1 _ _ _ (L.take k) ai HK.out h2 lK h3 ?_);intro v' w' oA hg oQ)
    obtain⟨A',c',rfl,mK,LY⟩:=oA.Xo;go_ret;rw[F.out];exact⟨A',c',rfl,mK,(iy.alloc _ _).grown hg (qd (aU _) _) (fun k hk=>by simp[Value.ownBlock]at hk;omega),LY⟩
  .have:k=0:= ae 
   subst this;have F:=fin 0 (by show 0=lV L;rw[HT.out];rfl);clear fin;go_wp2_with (at_builtin;go_must (refine qW ai _ _ ai w.heap.size _ [] ai h1 _ _ _ (L.take 0) ai HK.out h2 lK h3 ?_);intro v' w' oA hg oQ)
   obtain⟨A',c',rfl,mK,LY⟩:=oA.Xo;go_ret;rw[F.out];exact⟨A',c',rfl,mK,(iy.alloc _ _).grown hg (qd (aU _) _) (fun k hk=>by simp[Value.ownBlock]at hk;omega),LY⟩
theorem xD(L:List Nat)(hk:iC L)(hl:L.length<=100000):vG 195 [gX L] (gX (ik L)):=
 ahA hk Tryz.call195 fun A c w h _=>aiZ A c L w h ae 
open Go.RowKit Fp Pu
def VJ(L M:List Nat)(N k:Nat)(x:Nat):PS:=⟨30,true,[(5,.e (iP ((N:Int)-1-(x:Int)))),(0,.e (gX L)),(1,.e (gX M))],[]⟩
def VL(L M:List Nat)(N k:Nat)(x:Nat):PS:=⟨30,true,[(5,.e (iP ((N:Int)-1-(x:Int)))),(0,.e (gX L)),(1,.e (gX M))],[]⟩
def VK(L M:List Nat)(N k:Nat)(x:Nat):PS:=⟨30,true,[(5,.e (iP ((N:Int)-1-(x:Int)))),(0,.e (gX L)),(1,.e (gX M))],[]⟩
def VG(L:List Nat)(k:Nat)(x:Nat):PS:=⟨31,true,[(3,.e (iP ((L.length:Int)-1-(x:Int)))),(0,.e (gX L))],[]⟩
def VF(L:List Nat)(k:Nat)(x:Nat):PS:=⟨31,true,[(3,.e (iP ((L.length:Int)-1-(x:Int)))),(0,.e (gX L))],[]⟩
def VH(L:List Nat)(k:Nat)(y:Nat):PS:=⟨31,true,[(5,.e (.v (.int .u32 ((((L.getD (((L.length:Int)-1-(k:Int))).toNat 0)/2^y):Nat):Int)))),(4,.e (iP ((32*((L.length:Int)-1-(k:Int)))+(y:Int))))],[]⟩
theorem rf(L:List Nat)(z:Int)(hk:iC L)(h0:0<=z):gU 231 [(gX L),(iP z)] (.v (.int .u64 (L.getD z.toNat 0:Int))):=by
 have h1:=hk.getD z.toNat
 exact tr true Tryz.call231 Tryz.func231 (.w (z<(L.length:Int))
  (fun k1=>chain [tB 8 (aS k1),iX (z) (L.length) ae,.o 13 (.int (pB _ ae):PV.le (.e (.v (.int .u64 (IntKind.u64.wrap (((L.getD (z).toNat 0):Nat):Int))))) (.e (.v (.int .u64 (((L.getD (z).toNat 0):Nat):Int)))))]<|.nil)
  (fun k1=>by
   have hz:L.getD z.toNat 0=0:=by rw[aW,bV ae];rfl
   exact chain [tB 8 (aT k1)]<|rQ (.v (.int .u64 0)) (.v (.int .u64 (L.getD z.toNat 0:Int))) (by rw[hz];rfl))) ah 
theorem yS(L:List Nat)(n:Nat)(hk:iC L):gU 231 [gX L,iP (n:Int)] (.v (.int .u64 (L.getD n 0:Int))):=rf L n hk (Int.natCast_nonneg n)
theorem ah0(L M:List Nat)(N k:Nat)(hL:iC L)(hM:iC M)(hN:N=max L.length M.length)(hs:N<=1000000)(heq:∀ x,x<k->L.getD (N-1-x) 0=M.getD (N-1-x) 0)(hk:k=N):gU 198 [(gX L),(gX M)] (iP 0):=by
 exact tr true Tryz.call198 Tryz.func198 (chain [.o 10 (.int (by rw[hN];split<;>omega):PV.le (.e (iP (if(M.length:Int)>(L.length:Int)then(M.length:Int)else(L.length:Int)))) (.e (iP N))),
  iq ((N:Int)-1) ae,.s (Sp.jx (VJ L M N k) 0 k ae (fun x hx ke=>by
    have hj:(((N:Int)-1-(x:Int))).toNat=N-1-x:= ae ;have he:=heq x ae;rw[<-hj]at he;exact iB (chain [tT 13 (0<=((N:Int)-1-(x:Int))) ae,.c (rf _ _ af ae:gU 231 [(gX L),(iP ((N:Int)-1-(x:Int)))] _),.c (rf _ _ af ae:gU 231 [(gX M),(iP ((N:Int)-1-(x:Int)))] _),tF 22 ((((L.getD (((N:Int)-1-(x:Int))).toNat 0):Nat):Int)<(((M.getD (((N:Int)-1-(x:Int))).toNat 0):Nat):Int)) ae,.c (rf _ _ af ae:gU 231 [(gX L),(iP ((N:Int)-1-(x:Int)))] _),.c (rf _ _ af ae:gU 231 [(gX M),(iP ((N:Int)-1-(x:Int)))] _),tF 29 ((((M.getD (((N:Int)-1-(x:Int))).toNat 0):Nat):Int)<(((L.getD (((N:Int)-1-(x:Int))).toNat 0):Nat):Int)) ae,
     iq (((N:Int)-1-(x:Int))-1) ae]<|.e (chain [.o 5 (.int aw:PV.le (.e (iP (((N:Int)-1-(x:Int))-1))) (.e (iP ((N:Int)-1-(((x+1):Nat):Int)))))]<|.nil)) ah)
  (fun hx=>by
    exact iB (chain [tF 13 (0<=((N:Int)-1-(k:Int))) ae]<|.nil) ah) ak:ju 2 Tryz.f198 (VJ L M N k 0) (.exit 0) ⟨30,true,[],[]⟩) (chain [.o 5 (.int aw:PV.le (.e (iP ((N:Int)-1))) (.e (iP ((N:Int)-1-((0:Nat):Int)))))]<|.nil)]<|.nil) ah 
theorem ah2(L M:List Nat)(N k:Nat)(hL:iC L)(hM:iC M)(hN:N=max L.length M.length)(hs:N<=1000000)(heq:∀ x,x<k->L.getD (N-1-x) 0=M.getD (N-1-x) 0)(hk:k<N)(hd:L.getD (N-1-k) 0<M.getD (N-1-k) 0):gU 198 [(gX L),(gX M)] (iP (-1)):=by
 exact tr true Tryz.call198 Tryz.func198 (chain [.o 10 (.int (by rw[hN];split<;>omega):PV.le (.e (iP (if(M.length:Int)>(L.length:Int)then(M.length:Int)else(L.length:Int)))) (.e (iP N))),
  iq ((N:Int)-1) ae,.s (Sp.jx (VL L M N k) 0 k ae (fun x hx ke=>by
    have hj:(((N:Int)-1-(x:Int))).toNat=N-1-x:= ae ;have he:=heq x ae;rw[<-hj]at he;exact iB (chain [tT 13 (0<=((N:Int)-1-(x:Int))) ae,.c (rf _ _ af ae:gU 231 [(gX L),(iP ((N:Int)-1-(x:Int)))] _),.c (rf _ _ af ae:gU 231 [(gX M),(iP ((N:Int)-1-(x:Int)))] _),tF 22 ((((L.getD (((N:Int)-1-(x:Int))).toNat 0):Nat):Int)<(((M.getD (((N:Int)-1-(x:Int))).toNat 0):Nat):Int)) ae,.c (rf _ _ af ae:gU 231 [(gX L),(iP ((N:Int)-1-(x:Int)))] _),.c (rf _ _ af ae:gU 231 [(gX M),(iP ((N:Int)-1-(x:Int)))] _),tF 29 ((((M.getD (((N:Int)-1-(x:Int))).toNat 0):Nat):Int)<(((L.getD (((N:Int)-1-(x:Int))).toNat 0):Nat):Int)) ae,
     iq (((N:Int)-1-(x:Int))-1) ae]<|.e (chain [.o 5 (.int aw:PV.le (.e (iP (((N:Int)-1-(x:Int))-1))) (.e (iP ((N:Int)-1-(((x+1):Nat):Int)))))]<|.nil)) ah)
  (fun hx=>by
    have hj:(((N:Int)-1-(k:Int))).toNat=N-1-k:= ae ;rw[<-hj]at hd;exact iB (chain [tT 13 (0<=((N:Int)-1-(k:Int))) ae,.c (rf _ _ af ae:gU 231 [(gX L),(iP ((N:Int)-1-(k:Int)))] _),.c (rf _ _ af ae:gU 231 [(gX M),(iP ((N:Int)-1-(k:Int)))] _),tT 22 ((((L.getD (((N:Int)-1-(k:Int))).toNat 0):Nat):Int)<(((M.getD (((N:Int)-1-(k:Int))).toNat 0):Nat):Int)) ae]<|.nil) ah) ak:ju 2 Tryz.f198 (VL L M N k 0) .ret ⟨30,true,[(4,.e (iP (-1)))],[]⟩) (chain [.o 5 (.int aw:PV.le (.e (iP ((N:Int)-1))) (.e (iP ((N:Int)-1-((0:Nat):Int)))))]<|.nil)]<|rR (iP (-1)) (.iU rfl:E.le (iP (-1)) (iP (-1)))) ah 
theorem ah1(L M:List Nat)(N k:Nat)(hL:iC L)(hM:iC M)(hN:N=max L.length M.length)(hs:N<=1000000)(heq:∀ x,x<k->L.getD (N-1-x) 0=M.getD (N-1-x) 0)(hk:k<N)(hd:M.getD (N-1-k) 0<L.getD (N-1-k) 0):gU 198 [(gX L),(gX M)] (iP 1):=by
 exact tr true Tryz.call198 Tryz.func198 (chain [.o 10 (.int (by rw[hN];split<;>omega):PV.le (.e (iP (if(M.length:Int)>(L.length:Int)then(M.length:Int)else(L.length:Int)))) (.e (iP N))),
  iq ((N:Int)-1) ae,.s (Sp.jx (VK L M N k) 0 k ae (fun x hx ke=>by
    have hj:(((N:Int)-1-(x:Int))).toNat=N-1-x:= ae ;have he:=heq x ae;rw[<-hj]at he;exact iB (chain [tT 13 (0<=((N:Int)-1-(x:Int))) ae,.c (rf _ _ af ae:gU 231 [(gX L),(iP ((N:Int)-1-(x:Int)))] _),.c (rf _ _ af ae:gU 231 [(gX M),(iP ((N:Int)-1-(x:Int)))] _),tF 22 ((((L.getD (((N:Int)-1-(x:Int))).toNat 0):Nat):Int)<(((M.getD (((N:Int)-1-(x:Int))).toNat 0):Nat):Int)) ae,.c (rf _ _ af ae:gU 231 [(gX L),(iP ((N:Int)-1-(x:Int)))] _),.c (rf _ _ af ae:gU 231 [(gX M),(iP ((N:Int)-1-(x:Int)))] _),tF 29 ((((M.getD (((N:Int)-1-(x:Int))).toNat 0):Nat):Int)<(((L.getD (((N:Int)-1-(x:Int))).toNat 0):Nat):Int)) ae,
     iq (((N:Int)-1-(x:Int))-1) ae]<|.e (chain [.o 5 (.int aw:PV.le (.e (iP (((N:Int)-1-(x:Int))-1))) (.e (iP ((N:Int)-1-(((x+1):Nat):Int)))))]<|.nil)) ah)
  (fun hx=>by
    have hj:(((N:Int)-1-(k:Int))).toNat=N-1-k:= ae ;rw[<-hj]at hd;exact iB (chain [tT 13 (0<=((N:Int)-1-(k:Int))) ae,.c (rf _ _ af ae:gU 231 [(gX L),(iP ((N:Int)-1-(k:Int)))] _),.c (rf _ _ af ae:gU 231 [(gX M),(iP ((N:Int)-1-(k:Int)))] _),tF 22 ((((L.getD (((N:Int)-1-(k:Int))).toNat 0):Nat):Int)<(((M.getD (((N:Int)-1-(k:Int))).toNat 0):Nat):Int)) ae,.c (rf _ _ af ae:gU 231 [(gX L),(iP ((N:Int)-1-(k:Int)))] _),.c (rf _ _ af ae:gU 231 [(gX M),(iP ((N:Int)-1-(k:Int)))] _),tT 29 ((((M.getD (((N:Int)-1-(k:Int))).toNat 0):Nat):Int)<(((L.getD (((N:Int)-1-(k:Int))).toNat 0):Nat):Int)) ae]<|.nil) ah) ak:ju 2 Tryz.f198 (VK L M N k 0) .ret ⟨30,true,[(4,.e (iP 1))],[]⟩) (chain [.o 5 (.int aw:PV.le (.e (iP ((N:Int)-1))) (.e (iP ((N:Int)-1-((0:Nat):Int)))))]<|.nil)]<|.nil) ah 
theorem VM(L M:List Nat)(hL:iC L)(hM:iC M)(h1:L.length<=1000000)(h2:M.length<=1000000):gU 198 [gX L,gX M] (iP (kg (val L) (val M))):=by
 obtain⟨N,hN⟩:∃ N,N=max L.length M.length:=⟨_,rfl⟩
 have vL:val L<4294967296^N:=bD (lZ hL) (bh ag ae);have vM:val M<4294967296^N:=bD (lZ hM) (bh ag ae);by_cases h:∃ x,x<N/\(decide (L.getD (N-1-x) 0≠M.getD (N-1-x) 0))=true
 .obtain ⟨k,k1,k2,k3⟩:=qI h
  have heq:∀ x,x<k->L.getD (N-1-x) 0=M.getD (N-1-x) 0:=fun x hx=>by simpa using k3 x hx
  have kI:L.getD (N-1-k) 0≠M.getD (N-1-k) 0:=by simpa using k2
  have Bs:∀ i,N-1-k<i->iA (val L) i=iA (val M) i:=fun i hi=>by
   by_cases hiN:i<N
   .have:=heq (N-1-i) ae 
    rw[show N-1-(N-1-i)=i by omega,pF hL,pF hM]at this;exact this
   .rw [uO vL ae,uO vM ae]
  rw[pF hL,pF hM]at kI;rcases Nat.lt_or_gt_of_ne kI with hd|hd
  .have:=Uy vL vM Bs hd
   refine(ah2 L M N k hL hM hN ae heq k1 (by rw[pF hL,pF hM];exact hd)).jV (.iU ?_);unfold kg;rw[aR this]
  .have:=Uy vM vL (fun i hi=>(Bs i hi).symm) hd
   refine(ah1 L M N k hL hM hN ae heq k1 (by rw[pF hL,pF hM];exact hd)).jV (.iU ?_);unfold kg;rw[aQ ae,aR this]
 .have heq:∀ x,x<N->L.getD (N-1-x) 0=M.getD (N-1-x) 0:=fun x hx=>by
   apply bE;intro q;exact h ⟨x,hx,by simpa using q⟩
  have Bs:∀ i,iA (val L) i=iA (val M) i:=fun i=>by
   by_cases hiN:i<N
   .have:=heq (N-1-i) ae 
    rw[show N-1-(N-1-i)=i by omega,pF hL,pF hM]at this;exact this
   .rw [uO vL ae,uO vM ae]
  refine(ah0 L M N N hL hM hN ae heq rfl).jV (.iU ?_);rw[Ro vL vM fun i _=>Bs i];unfold kg;rw[aQ (fj _),aQ (fj _)]
theorem ah5(L M:List Nat)(hL:iC L)(hM:iC M)(h1:L.length<=1000000)(h2:M.length<=1000000):gU 318 [(gX L),(gX M)] (bP (decide (kg (val L) (val M)<0))):=by
 exact tr true Tryz.call318 Tryz.func318 (chain [.c (VM _ _ af af ae ae:gU 198 [(gX L),(gX M)] _)]<|.nil) ah 
theorem ahY(L:List Nat)(k:Nat)(hL:iC L)(hs:L.length<=1000000)(hz:∀ x,x<k->L.getD (L.length-1-x) 0=0)(hk:k=L.length):gU 196 [(gX L)] (iP 0):=by
 exact tr true Tryz.call196 Tryz.func196 (chain [iq ((L.length:Int)-1) ae,.s (Sp.jx (VG L k) 0 k ae (fun x hx ke=>by
    have hj:(((L.length:Int)-1-(x:Int))).toNat=L.length-1-x:= ae ;have he:=hz x ae;rw[<-hj]at he;exact iB (chain [tT 10 (0<=((L.length:Int)-1-(x:Int))) ae,iX (((L.length:Int)-1-(x:Int))) (L.length) ae,tB 17 (BH he:((((L.getD (((L.length:Int)-1-(x:Int))).toNat 0):Nat):Int) != 0)=false),iq (((L.length:Int)-1-(x:Int))-1) ae]<|.e (chain [.o 3 (.int aw:PV.le (.e (iP (((L.length:Int)-1-(x:Int))-1))) (.e (iP ((L.length:Int)-1-(((x+1):Nat):Int)))))]<|.nil)) ah)
  (fun hx=>by
    exact iB (chain [tF 10 (0<=((L.length:Int)-1-(k:Int))) ae]<|.nil) ah) ak:ju 2 Tryz.f196 (VG L k 0) (.exit 0) ⟨31,true,[],[]⟩) (chain [.o 3 (.int aw:PV.le (.e (iP ((L.length:Int)-1))) (.e (iP ((L.length:Int)-1-((0:Nat):Int)))))]<|.nil)]<|.nil) ah 
theorem ahX(L:List Nat)(k:Nat)(hL:iC L)(hs:L.length<=1000000)(hz:∀ x,x<k->L.getD (L.length-1-x) 0=0)(hk:k<L.length)(hd:L.getD (L.length-1-k) 0≠0):gU 196 [(gX L)] (iP ((32*((L.length:Int)-1-(k:Int)))+(ib (L.getD (((L.length:Int)-1-(k:Int))).toNat 0):Int))):=by
 exact tr true Tryz.call196 Tryz.func196 (chain [iq ((L.length:Int)-1) ae,.s (Sp.jx (VF L k) 0 k ae (fun x hx ke=>by
    have hj:(((L.length:Int)-1-(x:Int))).toNat=L.length-1-x:= ae ;have he:=hz x ae;rw[<-hj]at he;exact iB (chain [tT 10 (0<=((L.length:Int)-1-(x:Int))) ae,iX (((L.length:Int)-1-(x:Int))) (L.length) ae,tB 17 (BH he:((((L.getD (((L.length:Int)-1-(x:Int))).toNat 0):Nat):Int) != 0)=false),iq (((L.length:Int)-1-(x:Int))-1) ae]<|.e (chain [.o 3 (.int aw:PV.le (.e (iP (((L.length:Int)-1-(x:Int))-1))) (.e (iP ((L.length:Int)-1-(((x+1):Nat):Int)))))]<|.nil)) ah)
  (fun hx=>by
    have hj:(((L.length:Int)-1-(k:Int))).toNat=L.length-1-k:= ae ;have iD:=hL.getD (((L.length:Int)-1-(k:Int))).toNat
    have me:ib (L.getD (((L.length:Int)-1-(k:Int))).toNat 0)<=32:=kO.2 iD;rw[<-hj]at hd;exact iB (chain [tT 10 (0<=((L.length:Int)-1-(k:Int))) ae,iX (((L.length:Int)-1-(k:Int))) (L.length) ae,tB 17 (Fh hd:((((L.getD (((L.length:Int)-1-(k:Int))).toNat 0):Nat):Int) != 0)=true),iq (32*((L.length:Int)-1-(k:Int))) ae,
    iX (((L.length:Int)-1-(k:Int))) (L.length) ae,.s (Sp.jx (VH L k) 0 (ib (L.getD (((L.length:Int)-1-(k:Int))).toNat 0)) ae (fun y hy S1=>by
    have hp:0<(L.getD (((L.length:Int)-1-(k:Int))).toNat 0)/2^y:=fO (sk.1 ae) (aY ag);exact iB (chain [tT 25 (0<((((L.getD (((L.length:Int)-1-(k:Int))).toNat 0)/2^y):Nat):Int)) ae,iq (((32*((L.length:Int)-1-(k:Int)))+(y:Int))+1) ae,.a (ae:0<=(1:Int)/\(1:Int)<=((32:Nat):Int)),.o 27 (.int (yY _ _):PV.le (.e (.v (.int .u32 (((((L.getD (((L.length:Int)-1-(k:Int))).toNat 0)/2^y):Nat):Int)/2^1)))) (.e (.v (.int .u32 (((((L.getD (((L.length:Int)-1-(k:Int))).toNat 0)/2^y)/2^1):Nat):Int)))))]<|.e (chain [.o 5 (.int (by rw[cz,<-aZ]):PV.le (.e (.v (.int .u32 (((((L.getD (((L.length:Int)-1-(k:Int))).toNat 0)/2^y)/2^1):Nat):Int)))) (.e (.v (.int .u32 ((((L.getD (((L.length:Int)-1-(k:Int))).toNat 0)/2^(y+1)):Nat):Int))))),.o 4 (.int aw:PV.le (.e (iP (((32*((L.length:Int)-1-(k:Int)))+(y:Int))+1))) (.e (iP ((32*((L.length:Int)-1-(k:Int)))+(((y+1):Nat):Int)))))]<|.nil)) ah)
  (fun hy=>by
    have hp:(L.getD (((L.length:Int)-1-(k:Int))).toNat 0)/2^(ib (L.getD (((L.length:Int)-1-(k:Int))).toNat 0))=0:=bS (oN _);exact iB (chain [tF 25 (0<((((L.getD (((L.length:Int)-1-(k:Int))).toNat 0)/2^(ib (L.getD (((L.length:Int)-1-(k:Int))).toNat 0))):Nat):Int)) ae]<|.nil) ah) ak:ju 7 Tryz.f196 (VH L k 0) (.exit 2) ⟨31,true,[(4,.e (iP ((32*((L.length:Int)-1-(k:Int)))+(ib (L.getD (((L.length:Int)-1-(k:Int))).toNat 0):Int))))],[]⟩) (chain [.o 5 (.int (by rw[bN,dC]):PV.le (.e (.v (.int .u32 (((L.getD (((L.length:Int)-1-(k:Int))).toNat 0):Nat):Int)))) (.e (.v (.int .u32 ((((L.getD (((L.length:Int)-1-(k:Int))).toNat 0)/2^0):Nat):Int))))),.o 4 (.int aw:PV.le (.e (iP (32*((L.length:Int)-1-(k:Int))))) (.e (iP ((32*((L.length:Int)-1-(k:Int)))+((0:Nat):Int)))))]<|.nil)]<|.nil) ah) ak:ju 2 Tryz.f196 (VF L k 0) .ret ⟨31,true,[(2,.e (iP ((32*((L.length:Int)-1-(k:Int)))+(ib (L.getD (((L.length:Int)-1-(k:Int))).toNat 0):Int))))],[]⟩) (chain [.o 3 (.int aw:PV.le (.e (iP ((L.length:Int)-1))) (.e (iP ((L.length:Int)-1-((0:Nat):Int)))))]<|.nil)]<|.nil) ah 
theorem VI(L:List Nat)(hL:iC L)(h1:L.length<=1000000):gU 196 [gX L] (iP (ib (val L))):=by
 by_cases h:∃ x,x<L.length/\(decide (L.getD (L.length-1-x) 0≠0))=true
 .obtain ⟨k,k1,k2,k3⟩:=qI h
  have hz:∀ x,x<k->L.getD (L.length-1-x) 0=0:=fun x hx=>by simpa using k3 x hx
  have kI:L.getD (L.length-1-k) 0≠0:=by simpa using k2
  refine(ahX L k hL h1 hz k1 kI).jV (.iU ?_);have hj:(((L.length:Int)-1-(k:Int))).toNat=L.length-1-k:= ae ;rw[hj];have hb:=PY (n:=val L) (k:=L.length-1-k) (JT hL fun i hi=>by
   by_cases wh:i<L.length
   .have:=hz (L.length-1-i) ae 
    rwa[show L.length-1-(L.length-1-i)=i by omega]at this
   .rw [aW,bV ae];rfl) (by rw[<-pF hL];exact kI)
  rw[hb,<-pF hL];exact congrArg iP ae 
 .have hz:∀ x,x<L.length->L.getD (L.length-1-x) 0=0:=fun x hx=>by
   apply bE;intro q;exact h ⟨x,hx,by simpa using q⟩
  refine(ahY L L.length hL h1 hz rfl).jV (.iU ?_);have:val L<4294967296^0:=JT hL fun i _=>by
   by_cases wh:i<L.length
   .have:=hz (L.length-1-i) ae 
    rwa[show L.length-1-(L.length-1-i)=i by omega]at this
   .rw [aW,bV ae];rfl
  have h0:val L=0:=by rw[bN]at this;omega
  rw[h0];rfl
open Go.RowKit Fp Pu
def VE(L M:List Nat)(N:Nat)(x:Nat):PS:=⟨41,false,[(5,.own 5),(7,.e (iP x)),(6,.e (.v (.int .u64 (jy (val L) (val M) x:Int)))),(0,.e (gX L)),(1,.e (gX M))],[(5,.row false 79 x 1 (jb (iK (val L+val M) x)))]⟩
def VT(L M:List Nat)(x:Nat):PS:=⟨36,false,[(5,.own 5),(7,.e (iP x)),(6,.e (.v (.int .u64 (jy (val L-val M) (val M) x:Int)))),(0,.e (gX L)),(1,.e (gX M))],[(5,.row false 79 x 1 (jb (iK (val L-val M) x)))]⟩
def VR(L:List Nat)(n:Nat)(x:Nat):PS:=⟨36,false,[(5,.own 5),(6,.e (iP ((((n/32)+x):Nat):Int))),(0,.e (gX L)),(1,.e (iP n))],[(5,.row false 79 x 1 (jb (iK (val L/2^n) x)))]⟩
def VS(L:List Nat)(n:Nat)(x:Nat):PS:=⟨36,false,[(5,.own 5),(6,.e (iP ((((n/32)+x):Nat):Int))),(0,.e (gX L)),(1,.e (iP n))],[(5,.row false 79 x 1 (jb (iK 0 x)))]⟩
theorem ahW(L M:List Nat)(hL:iC L)(hM:iC M)(h1:L.length<=10000)(h2:M.length<=10000):gU 200 [(gX L),(gX M)] (gX (gV (val L+val M))):=by
 obtain⟨N,hN⟩:∃ N,N=max L.length M.length:=⟨_,rfl⟩
 have vL:val L<4294967296^N:=bD (lZ hL) (bh ag ae);have vM:val M<4294967296^N:=bD (lZ hM) (bh ag ae);have hcN:=s5 (val L) (val M) N;have hce:jy (val L) (val M) (N+jy (val L) (val M) N)=0:=by
  rcases dG 0 (jy (val L) (val M) N)with h|h
  .rw [show jy (val L) (val M) N=1 by omega];exact aaX vL vM
  .have h0:jy (val L) (val M) N=0:= ae 
   rw[h0,bt];exact h0
 have og:val L+val M<4294967296^(N+jy (val L) (val M) N):=by
  have h:=Kb (val L) (val M) (N+jy (val L) (val M) N);have g1:val L<4294967296^(N+jy (val L) (val M) N):=bD vL (bh ag ae);have g2:val M<4294967296^(N+jy (val L) (val M) N):=bD vM (bh ag ae);rw[hce,bS g1,bS g2]at h;exact Nat.lt_of_div_eq_zero (pw _) h
 exact tr false Tryz.call200 Tryz.func200 (chain [.y 5 5 false 79 1 (jb (iK (val L+val M) 0)),.s (Sp.jx (VE L M N) 0 (N+(jy (val L) (val M) N)) ae (fun x hx ke=>by
    have ha:=xO (val L) (val M) x;rw[<-pF hL,<-pF hM]at ha;have b1:=hL.getD x;have b2:=hM.getD x;have b3:=s5 (val L) (val M) x;have b4:=pE (val L+val M) x;have hz:((((L.getD x 0+M.getD x 0)+(jy (val L) (val M) x))%4294967296%4294967296:Nat):Int)=(iA (val L+val M) x:Int):= ae ;have hq:((L.getD x 0+M.getD x 0)+(jy (val L) (val M) x))/4294967296=jy (val L) (val M) (x+1):= ae ;by_cases hx:x<N
    .exact iB (chain [.o 14 (.int (by rw[hN];split<;>omega):PV.le (.e (iP (if(M.length:Int)>(L.length:Int)then(M.length:Int)else(L.length:Int)))) (.e (iP N))),tT 15 ((x:Int)<(N:Int)) ae,.c (yS _ _ af:gU 231 [(gX L),(iP x)] _),.c (yS _ _ af:gU 231 [(gX M),(iP x)] _),
      pd ((L.getD x 0:Int)+(M.getD x 0:Int)) ae,pd (((((L.getD x 0)+(M.getD x 0)):Nat):Int)+(jy (val L) (val M) x:Int)) ae,.o 33 (.int (DJ _ ae):PV.le (.e (.v (.int .u64 (bits .and .u64 (((((L.getD x 0)+(M.getD x 0))+(jy (val L) (val M) x)):Nat):Int) 4294967295)))) (.e (.v (.int .u64 ((((((L.getD x 0)+(M.getD x 0))+(jy (val L) (val M) x))%4294967296):Nat):Int))))),.o 34 (.int (uA _):PV.le (.e (.v (.int .u32 (IntKind.u32.wrap ((((((L.getD x 0)+(M.getD x 0))+(jy (val L) (val M) x))%4294967296):Nat):Int))))) (.e (.v (.int .u32 (((((((L.getD x 0)+(M.getD x 0))+(jy (val L) (val M) x))%4294967296)%4294967296):Nat):Int))))),.a (ae:(x+1)*4<=140737488355328),.a (ae:0<=(32:Int)/\(32:Int)<=((64:Nat):Int)),.o 38 (.int (B2 _):PV.le (.e (.v (.int .u64 ((((((L.getD x 0)+(M.getD x 0))+(jy (val L) (val M) x)):Nat):Int)/2^32)))) (.e (.v (.int .u64 ((((((L.getD x 0)+(M.getD x 0))+(jy (val L) (val M) x))/4294967296):Nat):Int))))),
      iq ((x:Int)+1) ae]<|.e (chain [.o 6 (.int (by rw[hq]):PV.le (.e (.v (.int .u64 ((((((L.getD x 0)+(M.getD x 0))+(jy (val L) (val M) x))/4294967296):Nat):Int)))) (.e (.v (.int .u64 (jy (val L) (val M) (x+1):Int))))),.b 5 (Ai rfl hz:Bx.le (.row false 79 (x+1) 1 (fun i_ j_=>if i_<x then(jb (iK (val L+val M) x)) i_ j_ else(E.mc (.sl false 1 1 fun i_ j_=>[(.v (.int .u32 (((((((L.getD x 0)+(M.getD x 0))+(jy (val L) (val M) x))%4294967296)%4294967296):Nat):Int)))].getD (i_*1+j_) (.v (.bool false)))) (i_-x) j_)) (.row false 79 (x+1) 1 (jb (iK (val L+val M) (x+1)))))]<|.nil)) ah 
    .have hcx:jy (val L) (val M) x=jy (val L) (val M) N:=by rw[show x=N by omega]
     exact iB (chain [.o 14 (.int (by rw[hN];split<;>omega):PV.le (.e (iP (if(M.length:Int)>(L.length:Int)then(M.length:Int)else(L.length:Int)))) (.e (iP N))),tF 15 ((x:Int)<(N:Int)) ae,tT 18 (0<(jy (val L) (val M) x:Int)) ae,.c (yS _ _ af:gU 231 [(gX L),(iP x)] _),.c (yS _ _ af:gU 231 [(gX M),(iP x)] _),pd ((L.getD x 0:Int)+(M.getD x 0:Int)) ae,
      pd (((((L.getD x 0)+(M.getD x 0)):Nat):Int)+(jy (val L) (val M) x:Int)) ae,.o 33 (.int (DJ _ ae):PV.le (.e (.v (.int .u64 (bits .and .u64 (((((L.getD x 0)+(M.getD x 0))+(jy (val L) (val M) x)):Nat):Int) 4294967295)))) (.e (.v (.int .u64 ((((((L.getD x 0)+(M.getD x 0))+(jy (val L) (val M) x))%4294967296):Nat):Int))))),.o 34 (.int (uA _):PV.le (.e (.v (.int .u32 (IntKind.u32.wrap ((((((L.getD x 0)+(M.getD x 0))+(jy (val L) (val M) x))%4294967296):Nat):Int))))) (.e (.v (.int .u32 (((((((L.getD x 0)+(M.getD x 0))+(jy (val L) (val M) x))%4294967296)%4294967296):Nat):Int))))),.a (ae:(x+1)*4<=140737488355328),.a (ae:0<=(32:Int)/\(32:Int)<=((64:Nat):Int)),.o 38 (.int (B2 _):PV.le (.e (.v (.int .u64 ((((((L.getD x 0)+(M.getD x 0))+(jy (val L) (val M) x)):Nat):Int)/2^32)))) (.e (.v (.int .u64 ((((((L.getD x 0)+(M.getD x 0))+(jy (val L) (val M) x))/4294967296):Nat):Int))))),
      iq ((x:Int)+1) ae]<|.e (chain [.o 6 (.int (by rw[hq]):PV.le (.e (.v (.int .u64 ((((((L.getD x 0)+(M.getD x 0))+(jy (val L) (val M) x))/4294967296):Nat):Int)))) (.e (.v (.int .u64 (jy (val L) (val M) (x+1):Int))))),.b 5 (Ai rfl hz:Bx.le (.row false 79 (x+1) 1 (fun i_ j_=>if i_<x then(jb (iK (val L+val M) x)) i_ j_ else(E.mc (.sl false 1 1 fun i_ j_=>[(.v (.int .u32 (((((((L.getD x 0)+(M.getD x 0))+(jy (val L) (val M) x))%4294967296)%4294967296):Nat):Int)))].getD (i_*1+j_) (.v (.bool false)))) (i_-x) j_)) (.row false 79 (x+1) 1 (jb (iK (val L+val M) (x+1)))))]<|.nil)) ah)
  (fun hx=>by
    exact iB (chain [.o 14 (.int (by rw[hN];split<;>omega):PV.le (.e (iP (if(M.length:Int)>(L.length:Int)then(M.length:Int)else(L.length:Int)))) (.e (iP N))),tF 15 ((((N+(jy (val L) (val M) N)):Nat):Int)<(N:Int)) ae,tF 18 (0<(jy (val L) (val M) (N+(jy (val L) (val M) N)):Int)) ae,.z 5]<|.e (chain [.o 5 (.e (yZ (mF _ _).symm):PV.le (.e (.sl false (N+(jy (val L) (val M) N)) 1 (jb (iK (val L+val M) (N+(jy (val L) (val M) N)))))) (.e (gX (iK (val L+val M) (N+(jy (val L) (val M) N))))))]<|.nil)) ah) ak:ju 4 Tryz.f200 (VE L M N 0) (.exit 0) ⟨41,false,[(5,.e (gX (iK (val L+val M) (N+(jy (val L) (val M) N)))))],[]⟩) (chain [.o 6 (.int (by rw[GK];rfl):PV.le (.e (.v (.int .u64 0))) (.e (.v (.int .u64 (jy (val L) (val M) 0:Int)))))]<|.nil),.cf (xD _ (r9 _ _) ay:vG 195 [(gX (iK (val L+val M) (N+(jy (val L) (val M) N))))] _)]<|rQ (gX (ik (iK (val L+val M) (N+(jy (val L) (val M) N))))) (gX (gV (val L+val M))) (by rw[B6 og])) ah 
theorem aia(L M:List Nat)(hL:iC L)(hM:iC M)(h1:L.length<=10000)(hle:val M<=val L):gU 232 [(gX L),(gX M)] (gX (gV (val L-val M))):=by
 have og:val L-val M<4294967296^L.length:=bQ (dj _ _) (lZ hL);exact tr false Tryz.call232 Tryz.func232 (chain [.y 5 5 false 79 1 (jb (iK (val L-val M) 0)),.s (Sp.jx (VT L M) 0 L.length ae (fun x hx ke=>by
    have ha:=XA hle x;rw[<-pF hL,<-pF hM]at ha;have b1:=hL.getD x;have b2:=hM.getD x;have b3:=s5 (val L-val M) (val M) x;have b5:=s5 (val L-val M) (val M) (x+1);have b4:=pE (val L-val M) x;have hz:(((((L.getD x 0+4294967296)-M.getD x 0)-(jy (val L-val M) (val M) x))%4294967296%4294967296:Nat):Int)=(iA (val L-val M) x:Int):= ae ;have hq:1-(((L.getD x 0+4294967296)-M.getD x 0)-(jy (val L-val M) (val M) x))/4294967296=jy (val L-val M) (val M) (x+1):= ae ;exact iB (chain [tT 12 ((x:Int)<(L.length:Int)) ae,.c (yS _ _ af:gU 231 [(gX L),(iP x)] _),pd ((L.getD x 0:Int)+4294967296) ae,.c (yS _ _ af:gU 231 [(gX M),(iP x)] _),pd (((((L.getD x 0)+4294967296):Nat):Int)-(M.getD x 0:Int)) ae,.o 22 (.int ae:PV.le (.e (.v (.int .u64 (((((L.getD x 0)+4294967296):Nat):Int)-(M.getD x 0:Int))))) (.e (.v (.int .u64 ((((L.getD x 0+4294967296)-M.getD x 0):Nat):Int))))),
     pd (((((L.getD x 0+4294967296)-M.getD x 0):Nat):Int)-(jy (val L-val M) (val M) x:Int)) ae,.o 24 (.int ae:PV.le (.e (.v (.int .u64 (((((L.getD x 0+4294967296)-M.getD x 0):Nat):Int)-(jy (val L-val M) (val M) x:Int))))) (.e (.v (.int .u64 (((((L.getD x 0+4294967296)-M.getD x 0)-(jy (val L-val M) (val M) x)):Nat):Int))))),.o 27 (.int (DJ _ ae):PV.le (.e (.v (.int .u64 (bits .and .u64 (((((L.getD x 0+4294967296)-M.getD x 0)-(jy (val L-val M) (val M) x)):Nat):Int) 4294967295)))) (.e (.v (.int .u64 ((((((L.getD x 0+4294967296)-M.getD x 0)-(jy (val L-val M) (val M) x))%4294967296):Nat):Int))))),.o 28 (.int (uA _):PV.le (.e (.v (.int .u32 (IntKind.u32.wrap ((((((L.getD x 0+4294967296)-M.getD x 0)-(jy (val L-val M) (val M) x))%4294967296):Nat):Int))))) (.e (.v (.int .u32 (((((((L.getD x 0+4294967296)-M.getD x 0)-(jy (val L-val M) (val M) x))%4294967296)%4294967296):Nat):Int))))),.a (ae:(x+1)*4<=140737488355328),.a (ae:0<=(32:Int)/\(32:Int)<=((64:Nat):Int)),.o 32 (.int (B2 _):PV.le (.e (.v (.int .u64 ((((((L.getD x 0+4294967296)-M.getD x 0)-(jy (val L-val M) (val M) x)):Nat):Int)/2^32)))) (.e (.v (.int .u64 ((((((L.getD x 0+4294967296)-M.getD x 0)-(jy (val L-val M) (val M) x))/4294967296):Nat):Int))))),
     pd (1-((((((L.getD x 0+4294967296)-M.getD x 0)-(jy (val L-val M) (val M) x))/4294967296):Nat):Int)) ae,.o 33 (.int ae:PV.le (.e (.v (.int .u64 (1-((((((L.getD x 0+4294967296)-M.getD x 0)-(jy (val L-val M) (val M) x))/4294967296):Nat):Int))))) (.e (.v (.int .u64 (((1-((((L.getD x 0+4294967296)-M.getD x 0)-(jy (val L-val M) (val M) x))/4294967296)):Nat):Int))))),
     iq ((x:Int)+1) ae]<|.e (chain [.o 6 (.int (by rw[hq]):PV.le (.e (.v (.int .u64 (((1-((((L.getD x 0+4294967296)-M.getD x 0)-(jy (val L-val M) (val M) x))/4294967296)):Nat):Int)))) (.e (.v (.int .u64 (jy (val L-val M) (val M) (x+1):Int))))),.b 5 (Ai rfl hz:Bx.le (.row false 79 (x+1) 1 (fun i_ j_=>if i_<x then(jb (iK (val L-val M) x)) i_ j_ else(E.mc (.sl false 1 1 fun i_ j_=>[(.v (.int .u32 (((((((L.getD x 0+4294967296)-M.getD x 0)-(jy (val L-val M) (val M) x))%4294967296)%4294967296):Nat):Int)))].getD (i_*1+j_) (.v (.bool false)))) (i_-x) j_)) (.row false 79 (x+1) 1 (jb (iK (val L-val M) (x+1)))))]<|.nil)) ah)
  (fun hx=>by
    exact iB (chain [tF 12 ((L.length:Int)<(L.length:Int)) ae,.z 5]<|.e (chain [.o 5 (.e (yZ (mF _ _).symm):PV.le (.e (.sl false L.length 1 (jb (iK (val L-val M) L.length)))) (.e (gX (iK (val L-val M) L.length))))]<|.nil)) ah) ak:ju 4 Tryz.f232 (VT L M 0) (.exit 0) ⟨36,false,[(5,.e (gX (iK (val L-val M) L.length)))],[]⟩) (chain [.o 6 (.int (by rw[GK];rfl):PV.le (.e (.v (.int .u64 0))) (.e (.v (.int .u64 (jy (val L-val M) (val M) 0:Int)))))]<|.nil),.cf (xD _ (r9 _ _) ay:vG 195 [(gX (iK (val L-val M) L.length))] _)]<|rQ (gX (ik (iK (val L-val M) L.length))) (gX (gV (val L-val M))) (by rw[B6 og])) ah 
theorem ah8(L:List Nat)(n:Nat)(hL:iC L)(h1:L.length<=10000)(hn:n<=1000000):gU 197 [(gX L),(iP n)] (gX (gV (val L/2^n))):=by
 have og:val L/2^n<4294967296^(L.length-n/32):=by
  rw[bR (aY ag)];by_cases h:n/32<=L.length
  .refine bD (lZ hL) ?_
   rw[nF,nF,<-aV];exact bh ag ae 
  .rw [show L.length-n/32=0 by omega,bN,bI]
   refine bD (lZ hL) ?_;rw[nF];exact bh ag ae 
 by_cases kj:n/32<=L.length
 .exact tr false Tryz.call197 Tryz.func197 (chain [.a (ae:0<(32:Int)),iq ((n:Int)) ae,.y 5 5 false 79 1 (jb (iK (val L/2^n) 0)),.s (Sp.jx (VR L n) 0 (L.length-n/32) ae (fun x hx ke=>by
    have b1:=hL.getD ((n/32)+x);have b2:=hL.getD (((n/32)+x)+1);have b3:(L.getD ((n/32)+x) 0+(L.getD (((n/32)+x)+1) 0*4294967296))/2^(n%32)<=(L.getD ((n/32)+x) 0+(L.getD (((n/32)+x)+1) 0*4294967296)):=bw _ _;have hz:(((L.getD ((n/32)+x) 0+(L.getD (((n/32)+x)+1) 0*4294967296))/2^(n%32)%4294967296%4294967296:Nat):Int)=(iA (val L/2^n) x:Int):=by
     rw[Nat.mod_mod,akh,<-pF hL,<-pF hL,dV x,a7 4294967296]
    exact iB (chain [tT 13 (((((n/32)+x):Nat):Int)<(L.length:Int)) ae,.c (yS _ _ af:gU 231 [(gX L),(iP ((((n/32)+x):Nat):Int))] _),iq (((((n/32)+x):Nat):Int)+1) ae,.c (yS _ _ af:gU 231 [(gX L),(iP (((((n/32)+x)+1):Nat):Int))] _),.a (ae:0<=(32:Int)/\(32:Int)<=((64:Nat):Int)),.o 23 (.int (DB _ ae):PV.le (.e (.v (.int .u64 (IntKind.u64.wrap ((L.getD (((n/32)+x)+1) 0:Int)*2^32))))) (.e (.v (.int .u64 (((L.getD (((n/32)+x)+1) 0*4294967296):Nat):Int))))),
     pd ((L.getD ((n/32)+x) 0:Int)+(((L.getD (((n/32)+x)+1) 0*4294967296):Nat):Int)) ae,.a (ae:0<(32:Int)),.a (ae:0<=((((n%32):Nat):Int):Int)/\((((n%32):Nat):Int):Int)<=((64:Nat):Int)),.o 29 (.int (yY _ _):PV.le (.e (.v (.int .u64 (((((L.getD ((n/32)+x) 0)+(L.getD (((n/32)+x)+1) 0*4294967296)):Nat):Int)/2^(n%32))))) (.e (.v (.int .u64 (((((L.getD ((n/32)+x) 0)+(L.getD (((n/32)+x)+1) 0*4294967296))/2^(n%32)):Nat):Int))))),.o 30 (.int (DJ _ ae):PV.le (.e (.v (.int .u64 (bits .and .u64 (((((L.getD ((n/32)+x) 0)+(L.getD (((n/32)+x)+1) 0*4294967296))/2^(n%32)):Nat):Int) 4294967295)))) (.e (.v (.int .u64 ((((((L.getD ((n/32)+x) 0)+(L.getD (((n/32)+x)+1) 0*4294967296))/2^(n%32))%4294967296):Nat):Int))))),.o 31 (.int (uA _):PV.le (.e (.v (.int .u32 (IntKind.u32.wrap ((((((L.getD ((n/32)+x) 0)+(L.getD (((n/32)+x)+1) 0*4294967296))/2^(n%32))%4294967296):Nat):Int))))) (.e (.v (.int .u32 (((((((L.getD ((n/32)+x) 0)+(L.getD (((n/32)+x)+1) 0*4294967296))/2^(n%32))%4294967296)%4294967296):Nat):Int))))),.a (ae:(x+1)*4<=140737488355328),iq (((((n/32)+x):Nat):Int)+1) ae]<|.e (chain [.o 6 (.int aw:PV.le (.e (iP (((((n/32)+x)+1):Nat):Int))) (.e (iP ((((n/32)+(x+1)):Nat):Int)))),.b 5 (Ai rfl hz:Bx.le (.row false 79 (x+1) 1 (fun i_ j_=>if i_<x then(jb (iK (val L/2^n) x)) i_ j_ else(E.mc (.sl false 1 1 fun i_ j_=>[(.v (.int .u32 (((((((L.getD ((n/32)+x) 0)+(L.getD (((n/32)+x)+1) 0*4294967296))/2^(n%32))%4294967296)%4294967296):Nat):Int)))].getD (i_*1+j_) (.v (.bool false)))) (i_-x) j_)) (.row false 79 (x+1) 1 (jb (iK (val L/2^n) (x+1)))))]<|.nil)) ah)
  (fun hx=>by
    exact iB (chain [tF 13 (((((n/32)+(L.length-n/32)):Nat):Int)<(L.length:Int)) ae,.z 5]<|.e (chain [.o 5 (.e (yZ (mF _ _).symm):PV.le (.e (.sl false (L.length-n/32) 1 (jb (iK (val L/2^n) (L.length-n/32))))) (.e (gX (iK (val L/2^n) (L.length-n/32)))))]<|.nil)) ah) ak:ju 3 Tryz.f197 (VR L n 0) (.exit 0) ⟨36,false,[(5,.e (gX (iK (val L/2^n) (L.length-n/32))))],[]⟩) (chain [.o 6 (.int aw:PV.le (.e (iP (((n/32):Nat):Int))) (.e (iP ((((n/32)+0):Nat):Int))))]<|.nil),.cf (xD _ (r9 _ _) ay:vG 195 [(gX (iK (val L/2^n) (L.length-n/32)))] _)]<|rQ (gX (ik (iK (val L/2^n) (L.length-n/32)))) (gX (gV (val L/2^n))) (by rw[B6 og])) ah 
 .have h0:val L/2^n=0:=by rw[show L.length-n/32=0 by omega,bN]at og;exact Nat.lt_one_iff.1 og
  rw[h0];exact tr false Tryz.call197 Tryz.func197 (chain [.a (ae:0<(32:Int)),iq ((n:Int)) ae,.y 5 5 false 79 1 (jb (iK 0 0)),.s (Sp.jx (VS L n) 0 0 ae (fun x hx ke=>by
    omega)
  (fun hx=>by
    exact iB (chain [tF 13 (((((n/32)+0):Nat):Int)<(L.length:Int)) ae,.z 5]<|.e (chain [.o 5 (.e (yZ (mF _ _).symm):PV.le (.e (.sl false 0 1 (jb (iK 0 0)))) (.e (gX (iK 0 0))))]<|.nil)) ah) ak:ju 3 Tryz.f197 (VS L n 0) (.exit 0) ⟨36,false,[(5,.e (gX (iK 0 0)))],[]⟩) (chain [.o 6 (.int aw:PV.le (.e (iP (((n/32):Nat):Int))) (.e (iP ((((n/32)+0):Nat):Int))))]<|.nil),.cf (xD _ (r9 _ _) ay:vG 195 [(gX (iK 0 0))] _)]<|rQ (gX (ik (iK 0 0))) (gX (gV 0)) (by rw[B6 ag])) ah 
end Go.Proofs.YtdgnpeddgdclhaaGreatDoor
namespace Go.Proofs.YtdgnpeddgdclhaaGreatDoor.Fp
def iO(a b n x:Nat):Nat:=a/2^(n-x)%b
def kH(a b n x:Nat):Nat:=a/2^(n-x)/b
def jh(a n x:Nat):Nat:=a/2^(n-1-x)%2
theorem GZ(a n x:Nat):jh a n x<=1:=by unfold jh;omega
theorem Q1{a n x:Nat}(hx:x<n):a/2^(n-(x+1))=2*(a/2^(n-x))+jh a n x:=by
 unfold jh;rw[show n-x=(n-1-x)+1 by omega,show n-(x+1)=n-1-x by omega,aZ,<-cz];omega
theorem QZ{a b n x:Nat}(hb:0<b)(hx:x<n)(h:2*iO a b n x+jh a n x<b):iO a b n (x+1)=2*iO a b n x+jh a n x/\kH a b n (x+1)=2*kH a b n x:=by
 have e:a/2^(n-(x+1))=b*(2*kH a b n x)+(2*iO a b n x+jh a n x):=by
  rw[Q1 hx];have:=bT (a/2^(n-x)) b;unfold kH iO;rw[cD];omega
 constructor
 .conv=>lhs;unfold iO
  rw[e,dw,bu h]
 .conv=>lhs;unfold kH
  rw[e,c9 hb,bS h,bt]
theorem Q0{a b n x:Nat}(hb:0<b)(hx:x<n)(h:¬2*iO a b n x+jh a n x<b):iO a b n (x+1)=2*iO a b n x+jh a n x-b/\kH a b n (x+1)=2*kH a b n x+1:=by
 have hr:iO a b n x<b:=bg _ hb;have tf:=GZ a n x;have e:a/2^(n-(x+1))=b*(2*kH a b n x+1)+(2*iO a b n x+jh a n x-b):=by
  rw[Q1 hx];have:=bT (a/2^(n-x)) b;unfold kH iO at *
  rw[bn,cD,bO];omega
 constructor
 .conv=>lhs;unfold iO
  rw[e,dw,bu ae]
 .conv=>lhs;unfold kH
  rw[e,c9 hb,bS ae,bt]
theorem Q2{a b n:Nat}(h:a<2^n):iO a b n 0=0/\kH a b n 0=0:=by
 unfold iO kH;rw[dh,bS h];simp
theorem QY(a b n:Nat):iO a b n n=a%b/\kH a b n n=a/b:=by
 unfold iO kH;rw[cT,bN,dC];exact⟨rfl,rfl⟩
theorem abG(a b n x:Nat):kH a b n x*2^(n-x)<=a:=by
 unfold kH;exact aX (bC _ (bw _ _)) (cN _ _)
theorem P3{L:List Nat}(h:iC L):ib (val L)<=32*L.length:=kO.2 (by rw[<-nF];exact lZ h)
theorem aj7{q i m:Nat}(hi:i/32<m)(hq:q*2^(i+1)<4294967296^m):
 (∃ t,iA (q*2^(i+1)) (i/32)=t*2^(i%32+1))/\iA (q*2^(i+1)) (i/32)+2^(i%32)<4294967296 /\
 (iK (q*2^(i+1)) m).set (i/32) (iA (q*2^(i+1)) (i/32)+2^(i%32))=iK ((2*q+1)*2^i) m:=by
 have hr:i%32<32:=bg _ ag;have e1:q*2^(i+1)/4294967296^(i/32)=q*2^(i%32+1):=by
  rw[show i+1=(i%32+1)+32*(i/32)by omega,aV,<-nF,<-bc,dt _ (pw _)]
 have h3:(4294967296:Nat)=2^(i%32+1)*2^(32-(i%32+1)):=by rw[<-aV,show i%32+1+(32-(i%32+1))=32 by omega]
 have e2:iA (q*2^(i+1)) (i/32)=(q%2^(32-(i%32+1)))*2^(i%32+1):=by
  unfold iA;rw[e1,a7]
  conv=>lhs;rhs;rw[h3]
  rw[gp,a7]
 have e3:(q%2^(32-(i%32+1)))*2^(i%32+1)+2^(i%32+1)<=4294967296:=by
  have:=bC (2^(i%32+1)) (show q%2^(32-(i%32+1))+1<=2^(32-(i%32+1))from bg _ (aY ag));rw[bK,bI]at this;refine aX this (fI ?_);rw[a7];exact h3.symm
 have e4:2^(i%32)<2^(i%32+1):=eu ag ae;have iD:iA (q*2^(i+1)) (i/32)+2^(i%32)<4294967296:=by rw[e2];omega
 refine⟨⟨_,e2⟩,iD,?_⟩;have hk:i/32<(iK (q*2^(i+1)) m).length:=by rw[mF];exact hi
 have hv:=xG (x:=iA (q*2^(i+1)) (i/32)+2^(i%32)) hk;rw[s7 hi,uD,bu hq,bn]at hv;refine(Cq ((r9 _ _).set _ iD) (by rw[cv,mF]) ?_).symm;have e5:4294967296^(i/32)*2^(i%32)=2^i:=by rw[nF,<-aV];congr 1;omega
 rw[e5]at hv;have e6:2*q*2^i=q*2^(i+1):=by rw[aZ,a7 2 q,bc,a7 2]
 rw[bK,bI,e6];omega
end Go.Proofs.YtdgnpeddgdclhaaGreatDoor.Fp
namespace Go.Proofs.YtdgnpeddgdclhaaGreatDoor
open Go.RowKit Fp Pu
theorem aht(s t:Nat)(hs:s<32)(iD:t*2^(s+1)+2^s<4294967296):bits .or .u32 ((t*2^(s+1):Nat):Int) (IntKind.u32.wrap (1*2^s))=((t*2^(s+1)+2^s:Nat):Int):=by
 have h2:2^s<2^(s+1):=eu ag ae;have e:IntKind.u32.wrap (1*2^s)=((2^s:Nat):Int):=by
  rw[IntKind.wrap_u32,Int.one_mul,show(2:Int)^s=((2^s:Nat):Int)by simp];omega
 rw[e,F2 _ _ ae ae,fF,Ar _ t (s+1) h2,dV]
theorem ahu(o r a:Nat)(hr:r<32)(ho:o<2^r):bits .or .u32 (o:Int) ((a*2^r%4294967296%4294967296:Nat):Int)=((o+a*2^r%4294967296:Nat):Int):=by
 have h3:(4294967296:Nat)=2^r*2^(32-r):=by rw[<-aV,show r+(32-r)=32 by omega]
 have xZ:2^r<=2^31:=bh ag ae;have Ek:(2:Nat)^31=2147483648:= ag ;have e2:a*2^r%4294967296=(a%2^(32-r))*2^r:=by
  rw[a7]
  conv=>lhs;rhs;rw[h3]
  rw[gp,a7]
 rw[Nat.mod_mod,F2 _ _ ae (bg _ ag),e2,Ar _ _ _ ho]
theorem akd(a r:Nat)(ha:a<4294967296)(hr:r<32):IntKind.u64.wrap ((a:Int)*2^r)=((a*2^r:Nat):Int):=by
 have xZ:2^r<=2^31:=bh ag ae;have Ek:(2:Nat)^31=2147483648:= ag ;have h2:a*2^r<=4294967295*2147483648:=cK ae ae;have e:(a:Int)*2^r=((a*2^r:Nat):Int):= aj ;rw[e];exact pB _ ae 
theorem akc{a r:Nat}(ha:a<4294967296)(hr:r<32):a*2^r<=9223372034707292160:=by
 have xZ:2^r<=2^31:=bh ag ae;have Ek:(2:Nat)^31=2147483648:= ag ;have h2:a*2^r<=4294967295*2147483648:=cK ae ae;omega
theorem Og(x:Nat):IntKind.u32.wrap ((x:Int)*2^1)=((2*x%4294967296:Nat):Int):=by rw[IntKind.wrap_u32];omega
theorem Ja(x c:Nat)(hc:c<=1):bits .or .u32 ((2*x%4294967296:Nat):Int) (c:Int)=((2*x%4294967296+c:Nat):Int):=by
 have h:2*x%4294967296=(2*x%4294967296/2)*2^1:= ae ;rw[F2 _ _ ae ae,fF,h,Ar _ _ 1 ae,dV]
theorem ajM{T n n' p q:Nat}{L L':List Nat}{z y:Nat}(hn:n=n')(hp:p<L.length)(hq:q<L.length)(hs:(L.set p z).set q y=L'):
 Bx.le (.row false T n 1 fun i' j'=>if i'=q/\0<=j'/\j'<0+1 then[.v (.int .u32 (y:Int))].getD (j'-0) .any else(fun i' j'=>if i'=p/\0<=j'/\j'<0+1 then[.v (.int .u32 (z:Int))].getD (j'-0) .any else(jb L) i' j') i' j') (.row false T n' 1 (jb L')):=by
 subst hs;refine .row hn fun i j _ hj=>?_
 obtain rfl:j=0:= ae ;refine⟨.iU ?_,rfl⟩;by_cases h1:i=q
 .subst h1
  rw[aR ⟨rfl,ae,ae⟩];show E.v (.int .u32 (y:Int))=E.v (.int .u32 ((((L.set p z).set i y).getD i 0:Nat):Int));rw[Fp.Lm (by rw[cv];exact hq)]
 .rw [aQ (fun k=>h1 k.1)]
  by_cases h:i=p
  .subst h
   show(if i=i/\0<=0/\0<0+1 then _ else _)=E.v (.int .u32 ((((L.set i z).set q y).getD i 0:Nat):Int));rw[aR ⟨rfl,ae,ae⟩,Fp.uU (fun k=>h1 k.symm),Fp.Lm hp];rfl
  .show (if i=p/\0<=0/\0<0+1 then _ else E.v (.int .u32 (L.getD i 0:Int)))=E.v (.int .u32 ((((L.set p z).set q y).getD i 0:Nat):Int))
   rw[aQ (fun k=>h k.1),Fp.uU (fun k=>h1 k.symm),Fp.uU (fun k=>h k.symm)]
open Go.RowKit Fp Pu
def VQ(L:List Nat)(n:Nat)(x:Nat):PS:=⟨60,false,[(6,.e (iP x)),(5,.own 16),(0,.e (gX (ik L))),(1,.e (iP n))],[(16,.row false 79 (n/32+(ik L).length+1) 1 (jb (iK ((val ((ik L).take x))*2^n) (n/32+(ik L).length+1))))]⟩
theorem ah6(L:List Nat)(n:Nat)(hL:iC L)(h1:L.length<=10000)(hn:n<=1000000):gU 199 [(gX L),(iP n)] (gX (gV (val L*2^n))):=by
 have tl:=oH L;unfold lV at tl;have og:val ((ik L).take (ik L).length)*2^n<4294967296^(n/32+(ik L).length+1):=by
  rw[fg,cE,aV,a7];have h1:=lZ hL.ik;have h2:2^n<=4294967296^(n/32)*4294967296:=by
   rw[nF,show(4294967296:Nat)=2^32 by rfl,<-aV];exact bh ag ae 
  rw[aZ,cD,a7];refine am4 h1 h2 (by exact eC (pw _) ag)
 exact tr false Tryz.call199 Tryz.func199 (chain [.cf (xD _ af ay:vG 195 [(gX L)] _),.a (ae:0<(32:Int)),iq ((n:Int)) ae,
  iq ((((n/32):Nat):Int)+((ik L).length:Int)) ae,iq (((((n/32)+(ik L).length):Nat):Int)+1) ae,.a (ae:0<=((((((n/32)+(ik L).length)+1):Nat):Int):Int)/\((((((n/32)+(ik L).length)+1):Nat):Int):Int)<=((((((n/32)+(ik L).length)+1):Nat):Int):Int)),.a (ae:((4:Nat):Int)*(((((n/32)+(ik L).length)+1):Nat):Int)<=281474976710656/\((((((n/32)+(ik L).length)+1):Nat):Int):Int)<=9223372036854775807),.s (Sp.jx (VQ L n) 0 ((ik L).length) ae (fun x hx ke=>by
    have LK:=hL.ik.getD x;have hr:n%32<32:=bg _ ag;have iD:(val ((ik L).take x))<4294967296^x:=by
     have:=lZ (hL.ik.take x);rw[bY,cR ae]at this;exact this
    obtain⟨ho,uc⟩:=ake (n:=n) LK (O:=(iK ((val ((ik L).take x))*2^n) (n/32+(ik L).length+1))) rfl iD (m:=(n/32+(ik L).length+1)) ae;rw[<-uE]at uc;have hu:(((ik L).getD x 0)*2^(n%32))/4294967296<4294967296:=by
     have:=akc LK hr;omega
    rw[<-bu hu]at uc;exact iB (chain [tT 20 ((x:Int)<((ik L).length:Int)) ae,iX ((x:Int)) ((ik L).length) ae,.o 27 (.int (pB _ ae):PV.le (.e (.v (.int .u64 (IntKind.u64.wrap ((((ik L).getD x 0):Nat):Int))))) (.e (.v (.int .u64 ((((ik L).getD x 0):Nat):Int))))),.a (ae:0<(32:Int)),.a (ae:0<=((((n%32):Nat):Int):Int)/\((((n%32):Nat):Int):Int)<=((64:Nat):Int)),.o 30 (.int (akd _ _ LK hr):PV.le (.e (.v (.int .u64 (IntKind.u64.wrap (((((ik L).getD x 0):Nat):Int)*2^(n%32)))))) (.e (.v (.int .u64 (((((ik L).getD x 0)*2^(n%32)):Nat):Int))))),.a (ae:0<(32:Int)),iq ((n:Int)) ae,iq ((x:Int)+(((n/32):Nat):Int)) ae,.a (ae:0<(32:Int)),iq ((n:Int)) ae,
     iq ((x:Int)+(((n/32):Nat):Int)) ae,iX ((((x+(n/32)):Nat):Int)) ((n/32+(ik L).length+1)) ae,.a (ae:(x+(n/32))<(n/32+(ik L).length+1)),.o 44 (.int (DJ _ ae):PV.le (.e (.v (.int .u64 (bits .and .u64 (((((ik L).getD x 0)*2^(n%32)):Nat):Int) 4294967295)))) (.e (.v (.int .u64 ((((((ik L).getD x 0)*2^(n%32))%4294967296):Nat):Int))))),.o 45 (.int (uA _):PV.le (.e (.v (.int .u32 (IntKind.u32.wrap ((((((ik L).getD x 0)*2^(n%32))%4294967296):Nat):Int))))) (.e (.v (.int .u32 (((((((ik L).getD x 0)*2^(n%32))%4294967296)%4294967296):Nat):Int))))),.o 46 (.int (ahu _ _ _ hr ho):PV.le (.e (.v (.int .u32 (bits .or .u32 ((((iK ((val ((ik L).take x))*2^n) (n/32+(ik L).length+1)).getD (x+(n/32)) 0):Nat):Int) (((((((ik L).getD x 0)*2^(n%32))%4294967296)%4294967296):Nat):Int))))) (.e (.v (.int .u32 (((((iK ((val ((ik L).take x))*2^n) (n/32+(ik L).length+1)).getD (x+(n/32)) 0)+((((ik L).getD x 0)*2^(n%32))%4294967296)):Nat):Int))))),
     iX ((((x+(n/32)):Nat):Int)) ((n/32+(ik L).length+1)) ae,.a (ae:(x+(n/32))<(n/32+(ik L).length+1)),.a (ae:0<(32:Int)),iq ((n:Int)) ae,
     iq ((x:Int)+(((n/32):Nat):Int)) ae,iq ((((x+(n/32)):Nat):Int)+1) ae,.a (ae:0<=(32:Int)/\(32:Int)<=((64:Nat):Int)),.o 55 (.int (B2 _):PV.le (.e (.v (.int .u64 ((((((ik L).getD x 0)*2^(n%32)):Nat):Int)/2^32)))) (.e (.v (.int .u64 ((((((ik L).getD x 0)*2^(n%32))/4294967296):Nat):Int))))),.o 56 (.int (uA _):PV.le (.e (.v (.int .u32 (IntKind.u32.wrap ((((((ik L).getD x 0)*2^(n%32))/4294967296):Nat):Int))))) (.e (.v (.int .u32 (((((((ik L).getD x 0)*2^(n%32))/4294967296)%4294967296):Nat):Int))))),
     iX (((((x+(n/32))+1):Nat):Int)) ((n/32+(ik L).length+1)) ae,.a (ae:((x+(n/32))+1)<(n/32+(ik L).length+1)),iq ((x:Int)+1) ae]<|.e (chain [.b 16 (ajM rfl (by rw[mF];omega) (by rw[mF];omega) uc:Bx.le (.row false 79 (n/32+(ik L).length+1) 1 (fun i' j'=>if i'=((x+(n/32))+1)/\0<=j'/\j'<0+1 then[(.v (.int .u32 (((((((ik L).getD x 0)*2^(n%32))/4294967296)%4294967296):Nat):Int)))].getD (j'-0) .any else(fun i' j'=>if i'=(x+(n/32))/\0<=j'/\j'<0+1 then[(.v (.int .u32 (((((iK ((val ((ik L).take x))*2^n) (n/32+(ik L).length+1)).getD (x+(n/32)) 0)+((((ik L).getD x 0)*2^(n%32))%4294967296)):Nat):Int)))].getD (j'-0) .any else(jb (iK ((val ((ik L).take x))*2^n) (n/32+(ik L).length+1))) i' j') i' j')) (.row false 79 (n/32+(ik L).length+1) 1 (jb (iK ((val ((ik L).take (x+1)))*2^n) (n/32+(ik L).length+1)))))]<|.nil)) ah)
  (fun hx=>by
    exact iB (chain [tF 20 (((ik L).length:Int)<((ik L).length:Int)) ae,.z 16]<|.e (chain [.o 5 (.e (yZ (mF _ _).symm):PV.le (.e (.sl false (n/32+(ik L).length+1) 1 (jb (iK ((val ((ik L).take (ik L).length))*2^n) (n/32+(ik L).length+1))))) (.e (gX (iK ((val ((ik L).take (ik L).length))*2^n) (n/32+(ik L).length+1)))))]<|.nil)) ah) ak:ju 4 Tryz.f199 (VQ L n 0) (.exit 0) ⟨60,false,[(5,.e (gX (iK ((val ((ik L).take (ik L).length))*2^n) (n/32+(ik L).length+1))))],[]⟩) (chain [.b 16 (FQ ae (fun i=>by rw[show val (List.take 0 (ik L))=0 from rfl,ch,GV]):Bx.le (.row false 79 (((n/32)+(ik L).length)+1) 1 (fun _ j_=>[(.v (.int .u32 0))].getD j_ .any)) (.row false 79 (n/32+(ik L).length+1) 1 (jb (iK ((val ((ik L).take 0))*2^n) (n/32+(ik L).length+1)))))]<|.nil),.cf (xD _ (r9 _ _) ay:vG 195 [(gX (iK ((val ((ik L).take (ik L).length))*2^n) (n/32+(ik L).length+1)))] _)]<|rQ (gX (ik (iK ((val ((ik L).take (ik L).length))*2^n) (n/32+(ik L).length+1)))) (gX (gV (val L*2^n))) (by rw[B6 og,fg,ot])) ah 
open Go.RowKit Fp Pu
def VP(L M:List Nat)(n:Nat)(x:Nat):PS:=⟨106,false,[(8,.e (iP ((n:Int)-1-(x:Int)))),(7,.own 23),(6,.own 19),(1,.e (gX (ik M))),(0,.e (gX L))],[(23,.row false 79 ((ik M).length+1) 1 (jb (iK (iO (val L) (val M) n x) ((ik M).length+1)))),(19,.row false 79 L.length 1 (jb (iK ((kH (val L) (val M) n x)*2^(n-x)) L.length)))]⟩
def VN(L M:List Nat)(n x:Nat)(k:Nat):PS:=⟨106,false,[(10,.e (iP k)),(9,.e (.v (.int .u32 (lP (iO (val L) (val M) n x) (jh (val L) n x) k:Int)))),(8,.e (iP ((n:Int)-1-(x:Int)))),(7,.own 23),(6,.own 19),(1,.e (gX (ik M))),(0,.e (gX L))],[(23,.row false 79 ((ik M).length+1) 1 (jb (kF (2*(iO (val L) (val M) n x)+(jh (val L) n x)) (iO (val L) (val M) n x) k ((ik M).length+1)))),(19,.row false 79 L.length 1 (jb (iK ((kH (val L) (val M) n x)*2^(n-x)) L.length)))]⟩
def VO(L M:List Nat)(n x:Nat)(k:Nat):PS:=⟨106,false,[(13,.e (iP k)),(12,.e (.v (.int .u64 (jy ((2*(iO (val L) (val M) n x)+(jh (val L) n x))-val M) (val M) k:Int)))),(8,.e (iP ((n:Int)-1-(x:Int)))),(7,.own 23),(6,.own 19),(1,.e (gX (ik M))),(0,.e (gX L))],[(23,.row false 79 ((ik M).length+1) 1 (jb (kF ((2*(iO (val L) (val M) n x)+(jh (val L) n x))-val M) (2*(iO (val L) (val M) n x)+(jh (val L) n x)) k ((ik M).length+1)))),(19,.row false 79 L.length 1 (jb (iK ((kH (val L) (val M) n x)*2^(n-x)) L.length)))]⟩
theorem ah4(L M:List Nat)(n:Nat)(hL:iC L)(hM:iC M)(h1:L.length<=10000)(h2:M.length<=10000)(hB:0<val M)(hn:n=ib (val L)):gU 289 [(gX L),(gX M)] (.iw [gX (gV (val L/val M)),gX (gV (val L%val M))]):=by
 have tl:=oH M;unfold lV at tl;have Ho:=Q2 (a:=val L) (b:=val M) (n:=n) (by rw[hn];exact oN _);have hbn:=P3 hL;have he:=QY (val L) (val M) n;have f1:val L/val M*2^(n-n)<4294967296^L.length:=by
  rw[cT,bN,bO];exact bQ (bw _ _) (lZ hL)
 have f2:val L%val M<4294967296^((ik M).length+1):=by
  have h1:=lZ hM.ik;rw[ot]at h1;refine fk (bg _ hB) (bD h1 (bh ag ae))
 exact tr false Tryz.call289 Tryz.func289 (chain [.cf (xD _ af ay:vG 195 [(gX M)] _),.a (ae:0<=((L.length:Int):Int)/\((L.length:Int):Int)<=((L.length:Int):Int)),.a (ae:((4:Nat):Int)*(L.length:Int)<=281474976710656/\((L.length:Int):Int)<=9223372036854775807),iq (((ik M).length:Int)+1) ae,.a (ae:0<=(((((ik M).length+1):Nat):Int):Int)/\(((((ik M).length+1):Nat):Int):Int)<=(((((ik M).length+1):Nat):Int):Int)),.a (ae:((4:Nat):Int)*((((ik M).length+1):Nat):Int)<=281474976710656/\(((((ik M).length+1):Nat):Int):Int)<=9223372036854775807),.c (VI _ af ae:gU 196 [(gX L)] _),.o 25 (.int (by rw[hn]):PV.le (.e (iP (ib (val L):Int))) (.e (iP n))),iq ((n:Int)-1) ae,.s (Sp.jx (VP L M n) 0 n ae (fun x hx ke=>by
    have H9:(n-1-x)/32<L.length:=by
     have:=P3 hL;rw[<-hn]at this;omega
    have nE:=GZ (val L) n x;have amr:=hL.getD ((n-1-x)/32);have Bq:L.getD ((n-1-x)/32) 0/2^((n-1-x)%32)<=L.getD ((n-1-x)/32) 0:=bw _ _;have tf:bits .and .u32 ((L.getD ((n-1-x)/32) 0/2^((n-1-x)%32):Nat):Int) 1=(jh (val L) n x:Int):=by
     rw[JN _ ae];have:=Km hL (n-1-x) H9;unfold jh;rw[this];simp[aW,H9]
    have hRl:(iO (val L) (val M) n x)<val M:=bg _ hB;have To:val (iK (2*(iO (val L) (val M) n x)+(jh (val L) n x)) ((ik M).length+1))=(2*(iO (val L) (val M) n x)+(jh (val L) n x)):=by
     rw[uD,bu];have h1:=lZ hM.ik;rw[ot]at h1;rw[aZ];omega
    exact iB (chain [.o 27 (.int ae:PV.le (.e (iP ((n:Int)-1-(x:Int)))) (.e (iP (((n-1-x):Nat):Int)))),tT 28 (0<=(((n-1-x):Nat):Int)) ae,.o 32 (.int ae:PV.le (.e (iP ((n:Int)-1-(x:Int)))) (.e (iP (((n-1-x):Nat):Int)))),.a (ae:0<(32:Int)),iq ((((n-1-x):Nat):Int)) ae,
     iX (((((n-1-x)/32):Nat):Int)) (L.length) ae,.o 36 (.int ae:PV.le (.e (iP ((n:Int)-1-(x:Int)))) (.e (iP (((n-1-x):Nat):Int)))),.a (ae:0<(32:Int)),.a (ae:0<=(((((n-1-x)%32):Nat):Int):Int)/\(((((n-1-x)%32):Nat):Int):Int)<=((32:Nat):Int)),.o 38 (.int (yY _ _):PV.le (.e (.v (.int .u32 ((L.getD ((n-1-x)/32) 0:Int)/2^((n-1-x)%32))))) (.e (.v (.int .u32 ((((L.getD ((n-1-x)/32) 0)/2^((n-1-x)%32)):Nat):Int))))),.o 39 (.int tf:PV.le (.e (.v (.int .u32 (bits .and .u32 ((((L.getD ((n-1-x)/32) 0)/2^((n-1-x)%32)):Nat):Int) 1)))) (.e (.v (.int .u32 (jh (val L) n x:Int))))),.s (Sp.jx (VN L M n x) 0 ((ik M).length+1) ae (fun k hk Ey=>by
    have nE:=GZ (val L) n x;have SD:=GU (r:=(iO (val L) (val M) n x)) nE k;have hdc:=GS (r:=(iO (val L) (val M) n x)) nE k;have uc:(kF (2*(iO (val L) (val M) n x)+(jh (val L) n x)) (iO (val L) (val M) n x) k ((ik M).length+1)).set k (2*iA (iO (val L) (val M) n x) k%4294967296+lP (iO (val L) (val M) n x) (jh (val L) n x) k)=(kF (2*(iO (val L) (val M) n x)+(jh (val L) n x)) (iO (val L) (val M) n x) (k+1) ((ik M).length+1)):=by rw[<-SD.1,IW]
    exact iB (chain [tT 43 ((k:Int)<((((ik M).length+1):Nat):Int)) ae,iX ((k:Int)) (((ik M).length+1)) ae,.a (ae:k<((ik M).length+1)),.o 49 (.int (by rw[E6 ae]):PV.le (.e (.v (.int .u32 ((((kF (2*(iO (val L) (val M) n x)+(jh (val L) n x)) (iO (val L) (val M) n x) k ((ik M).length+1)).getD k 0):Nat):Int)))) (.e (.v (.int .u32 (iA (iO (val L) (val M) n x) k:Int))))),.a (ae:0<=(1:Int)/\(1:Int)<=((32:Nat):Int)),.o 53 (.int (Og _):PV.le (.e (.v (.int .u32 (IntKind.u32.wrap ((iA (iO (val L) (val M) n x) k:Int)*2^1))))) (.e (.v (.int .u32 (((2*iA (iO (val L) (val M) n x) k%4294967296):Nat):Int))))),.o 55 (.int (Ja _ _ hdc):PV.le (.e (.v (.int .u32 (bits .or .u32 (((2*iA (iO (val L) (val M) n x) k%4294967296):Nat):Int) (lP (iO (val L) (val M) n x) (jh (val L) n x) k:Int))))) (.e (.v (.int .u32 (((2*iA (iO (val L) (val M) n x) k%4294967296+lP (iO (val L) (val M) n x) (jh (val L) n x) k):Nat):Int))))),
     iX ((k:Int)) (((ik M).length+1)) ae,.a (ae:k<((ik M).length+1)),.a (ae:0<=(31:Int)/\(31:Int)<=((32:Nat):Int)),.o 58 (.int (yY _ _):PV.le (.e (.v (.int .u32 ((iA (iO (val L) (val M) n x) k:Int)/2^31)))) (.e (.v (.int .u32 ((((iA (iO (val L) (val M) n x) k)/2^31):Nat):Int))))),iq ((k:Int)+1) ae]<|.e (chain [.o 9 (.int (by rw[SD.2]):PV.le (.e (.v (.int .u32 ((((iA (iO (val L) (val M) n x) k)/2^31):Nat):Int)))) (.e (.v (.int .u32 (lP (iO (val L) (val M) n x) (jh (val L) n x) (k+1):Int))))),.b 23 (Dv rfl aG uc:Bx.le (.row false 79 ((ik M).length+1) 1 (fun i' j'=>if i'=k/\0<=j'/\j'<0+1 then[(.v (.int .u32 (((2*iA (iO (val L) (val M) n x) k%4294967296+lP (iO (val L) (val M) n x) (jh (val L) n x) k):Nat):Int)))].getD (j'-0) .any else(jb (kF (2*(iO (val L) (val M) n x)+(jh (val L) n x)) (iO (val L) (val M) n x) k ((ik M).length+1))) i' j')) (.row false 79 ((ik M).length+1) 1 (jb (kF (2*(iO (val L) (val M) n x)+(jh (val L) n x)) (iO (val L) (val M) n x) (k+1) ((ik M).length+1)))))]<|.nil)) ah)
  (fun hk=>by
    exact iB (chain [tF 43 (((((ik M).length+1):Nat):Int)<((((ik M).length+1):Nat):Int)) ae]<|.e (chain [.b 23 (.iU (by rw[IV (aU _)]):Bx.le (.row false 79 ((ik M).length+1) 1 (jb (kF (2*(iO (val L) (val M) n x)+(jh (val L) n x)) (iO (val L) (val M) n x) ((ik M).length+1) ((ik M).length+1)))) (.row false 79 ((ik M).length+1) 1 (jb (iK (2*(iO (val L) (val M) n x)+(jh (val L) n x)) ((ik M).length+1)))))]<|.nil)) ah) ak:ju 9 Tryz.f289 (VN L M n x 0) (.exit 2) ⟨106,false,[(8,.e (iP ((n:Int)-1-(x:Int)))),(7,.own 23),(6,.own 19),(1,.e (gX (ik M))),(0,.e (gX L))],[(23,.row false 79 ((ik M).length+1) 1 (jb (iK (2*(iO (val L) (val M) n x)+(jh (val L) n x)) ((ik M).length+1)))),(19,.row false 79 L.length 1 (jb (iK ((kH (val L) (val M) n x)*2^(n-x)) L.length)))]⟩) (chain [.o 9 (.int (by rw[KJ]):PV.le (.e (.v (.int .u32 (jh (val L) n x:Int)))) (.e (.v (.int .u32 (lP (iO (val L) (val M) n x) (jh (val L) n x) 0:Int))))),.b 23 (.iU (by rw[E7]):Bx.le (.row false 79 ((ik M).length+1) 1 (jb (iK (iO (val L) (val M) n x) ((ik M).length+1)))) (.row false 79 ((ik M).length+1) 1 (jb (kF (2*(iO (val L) (val M) n x)+(jh (val L) n x)) (iO (val L) (val M) n x) 0 ((ik M).length+1)))))]<|.nil),.c (by rw[AI (show((ik M).length+1)=(iK (2*(iO (val L) (val M) n x)+(jh (val L) n x)) ((ik M).length+1)).length by first|omega|(simp only[mF,ui];omega)|simp only[mF,ui])];exact(ah5 _ _ (r9 _ _) (iC.ik af) (by first|omega|(simp only[mF,ui];omega)|simp only[mF,ui]) (by first|omega|(simp only[mF,ui];omega)|simp only[mF,ui])):gU 318 [(.sl false ((ik M).length+1) 1 (jb (iK (2*(iO (val L) (val M) n x)+(jh (val L) n x)) ((ik M).length+1)))),(gX (ik M))] (bP (decide ((kg (val (iK (2*(iO (val L) (val M) n x)+(jh (val L) n x)) ((ik M).length+1))) (val (ik M)))<0))))]<|.w ((2*(iO (val L) (val M) n x)+(jh (val L) n x))<val M)
     (fun Ew=>by
      have nV:kg (val (iK (2*(iO (val L) (val M) n x)+(jh (val L) n x)) ((ik M).length+1))) (val (ik M))<0:=by rw[To,ot];unfold kg;rw[aR Ew];decide
      have mA:=QZ hB ke Ew;have g1:=mA.1;have g2:=mA.2;have LL:iK (2*(iO (val L) (val M) n x)+(jh (val L) n x)) ((ik M).length+1)=iK (iO (val L) (val M) n (x+1)) ((ik M).length+1):=by rw[g1]
      have aej:(iK ((kH (val L) (val M) n x)*2^(n-x)) L.length)=(iK ((kH (val L) (val M) n (x+1))*2^(n-(x+1))) L.length):=by
       rw[g2];congr 1;rw[show n-x=n-(x+1)+1 by omega,aZ,a7 2,bc,a7 2]
      exact chain [tB 61 (aS nV),.o 29 (.int ae:PV.le (.e (iP ((n:Int)-1-(x:Int)))) (.e (iP (((n-1-x):Nat):Int)))),iq ((((n-1-x):Nat):Int)-1) ae]<|.e (chain [.o 8 (.int aw:PV.le (.e (iP ((((n-1-x):Nat):Int)-1))) (.e (iP ((n:Int)-1-(((x+1):Nat):Int))))),.b 23 (.iU (by rw[LL]):Bx.le (.row false 79 ((ik M).length+1) 1 (jb (iK (2*(iO (val L) (val M) n x)+(jh (val L) n x)) ((ik M).length+1)))) (.row false 79 ((ik M).length+1) 1 (jb (iK (iO (val L) (val M) n (x+1)) ((ik M).length+1))))),.b 19 (.iU (by rw[aej]):Bx.le (.row false 79 L.length 1 (jb (iK ((kH (val L) (val M) n x)*2^(n-x)) L.length))) (.row false 79 L.length 1 (jb (iK ((kH (val L) (val M) n (x+1))*2^(n-(x+1))) L.length))))]<|.nil))
     (fun Ew=>by
      have nV:¬kg (val (iK (2*(iO (val L) (val M) n x)+(jh (val L) n x)) ((ik M).length+1))) (val (ik M))<0:=by rw[To,ot];unfold kg;rw[aQ Ew];split<;>decide
      have mA:=Q0 hB ke Ew;have g1:=mA.1;have g2:=mA.2;have LL:iK ((2*(iO (val L) (val M) n x)+(jh (val L) n x))-val M) ((ik M).length+1)=iK (iO (val L) (val M) n (x+1)) ((ik M).length+1):=by rw[g1]
      have e3:n-x=(n-1-x)+1:= ae ;have e4:n-(x+1)=(n-1-x):= ae ;have hle:=abG (val L) (val M) n x;rw[e3]at hle;have EI:=aj7 (q:=(kH (val L) (val M) n x)) (i:=(n-1-x)) (m:=L.length) H9 (bQ hle (lZ hL));have s2:=EI.2.1;have s3:=EI.2.2;have ae2:(iK ((kH (val L) (val M) n x)*2^(n-x)) L.length).set ((n-1-x)/32) (iA ((kH (val L) (val M) n x)*2^((n-1-x)+1)) ((n-1-x)/32)+2^((n-1-x)%32))=(iK ((kH (val L) (val M) n (x+1))*2^(n-(x+1))) L.length):=by rw[e3,s3,g2,e4]
      have iH:((((iK ((kH (val L) (val M) n x)*2^(n-x)) L.length).getD ((n-1-x)/32) 0):Nat):Int)=(iA ((kH (val L) (val M) n x)*2^((n-1-x)+1)) ((n-1-x)/32):Int):=by rw[e3,s7 H9]
      have tn:bits .or .u32 (iA ((kH (val L) (val M) n x)*2^((n-1-x)+1)) ((n-1-x)/32):Int) (IntKind.u32.wrap (1*2^((n-1-x)%32)))=((iA ((kH (val L) (val M) n x)*2^((n-1-x)+1)) ((n-1-x)/32)+2^((n-1-x)%32):Nat):Int):=by
       refine Exists.elim EI.1 fun t s1=>?_
       rw[s1]at s2 ⊢;exact aht _ _ (bg _ ag) s2
      exact chain [tB 61 (aT nV),.s (Sp.jx (VO L M n x) 0 ((ik M).length+1) ae (fun k hk Ey=>by
    have ha:=XA (show val M<=(2*(iO (val L) (val M) n x)+(jh (val L) n x))by omega) k;have hMk:(ik M).getD k 0=iA (val M) k:=by rw[pF hM.ik,ot]
    have aez:=hM.ik;rw[<-hMk]at ha;have b1:=pE (2*(iO (val L) (val M) n x)+(jh (val L) n x)) k;have b2:=aez.getD k;have b3:=s5 ((2*(iO (val L) (val M) n x)+(jh (val L) n x))-val M) (val M) k;have b5:=s5 ((2*(iO (val L) (val M) n x)+(jh (val L) n x))-val M) (val M) (k+1);have b4:=pE ((2*(iO (val L) (val M) n x)+(jh (val L) n x))-val M) k;have hzz:(((iA (2*(iO (val L) (val M) n x)+(jh (val L) n x)) k+4294967296)-(ik M).getD k 0)-(jy ((2*(iO (val L) (val M) n x)+(jh (val L) n x))-val M) (val M) k))%4294967296%4294967296=iA ((2*(iO (val L) (val M) n x)+(jh (val L) n x))-val M) k:= ae ;have hq:1-(((iA (2*(iO (val L) (val M) n x)+(jh (val L) n x)) k+4294967296)-(ik M).getD k 0)-(jy ((2*(iO (val L) (val M) n x)+(jh (val L) n x))-val M) (val M) k))/4294967296=(jy ((2*(iO (val L) (val M) n x)+(jh (val L) n x))-val M) (val M) (k+1)):= ae ;have uc:(kF ((2*(iO (val L) (val M) n x)+(jh (val L) n x))-val M) (2*(iO (val L) (val M) n x)+(jh (val L) n x)) k ((ik M).length+1)).set k ((((iA (2*(iO (val L) (val M) n x)+(jh (val L) n x)) k+4294967296)-(ik M).getD k 0)-(jy ((2*(iO (val L) (val M) n x)+(jh (val L) n x))-val M) (val M) k))%4294967296%4294967296)=(kF ((2*(iO (val L) (val M) n x)+(jh (val L) n x))-val M) (2*(iO (val L) (val M) n x)+(jh (val L) n x)) (k+1) ((ik M).length+1)):=by rw[hzz,IW]
    exact iB (chain [tT 65 ((k:Int)<((((ik M).length+1):Nat):Int)) ae,iX ((k:Int)) (((ik M).length+1)) ae,.a (ae:k<((ik M).length+1)),.o 71 (.int (by rw[E6 ae]):PV.le (.e (.v (.int .u32 ((((kF ((2*(iO (val L) (val M) n x)+(jh (val L) n x))-val M) (2*(iO (val L) (val M) n x)+(jh (val L) n x)) k ((ik M).length+1)).getD k 0):Nat):Int)))) (.e (.v (.int .u32 (iA (2*(iO (val L) (val M) n x)+(jh (val L) n x)) k:Int))))),.o 72 (.int (pB _ ae):PV.le (.e (.v (.int .u64 (IntKind.u64.wrap (iA (2*(iO (val L) (val M) n x)+(jh (val L) n x)) k:Int))))) (.e (.v (.int .u64 (iA (2*(iO (val L) (val M) n x)+(jh (val L) n x)) k:Int))))),
     pd ((iA (2*(iO (val L) (val M) n x)+(jh (val L) n x)) k:Int)+4294967296) ae,.c (yS _ _ (iC.ik af):gU 231 [(gX (ik M)),(iP k)] _),
     pd (((((iA (2*(iO (val L) (val M) n x)+(jh (val L) n x)) k)+4294967296):Nat):Int)-((((ik M).getD k 0):Nat):Int)) ae,.o 77 (.int ae:PV.le (.e (.v (.int .u64 (((((iA (2*(iO (val L) (val M) n x)+(jh (val L) n x)) k)+4294967296):Nat):Int)-((((ik M).getD k 0):Nat):Int))))) (.e (.v (.int .u64 ((((iA (2*(iO (val L) (val M) n x)+(jh (val L) n x)) k+4294967296)-(ik M).getD k 0):Nat):Int))))),
     pd (((((iA (2*(iO (val L) (val M) n x)+(jh (val L) n x)) k+4294967296)-(ik M).getD k 0):Nat):Int)-(jy ((2*(iO (val L) (val M) n x)+(jh (val L) n x))-val M) (val M) k:Int)) ae,.o 79 (.int ae:PV.le (.e (.v (.int .u64 (((((iA (2*(iO (val L) (val M) n x)+(jh (val L) n x)) k+4294967296)-(ik M).getD k 0):Nat):Int)-(jy ((2*(iO (val L) (val M) n x)+(jh (val L) n x))-val M) (val M) k:Int))))) (.e (.v (.int .u64 (((((iA (2*(iO (val L) (val M) n x)+(jh (val L) n x)) k+4294967296)-(ik M).getD k 0)-(jy ((2*(iO (val L) (val M) n x)+(jh (val L) n x))-val M) (val M) k)):Nat):Int))))),.o 83 (.int (DJ _ ae):PV.le (.e (.v (.int .u64 (bits .and .u64 (((((iA (2*(iO (val L) (val M) n x)+(jh (val L) n x)) k+4294967296)-(ik M).getD k 0)-(jy ((2*(iO (val L) (val M) n x)+(jh (val L) n x))-val M) (val M) k)):Nat):Int) 4294967295)))) (.e (.v (.int .u64 ((((((iA (2*(iO (val L) (val M) n x)+(jh (val L) n x)) k+4294967296)-(ik M).getD k 0)-(jy ((2*(iO (val L) (val M) n x)+(jh (val L) n x))-val M) (val M) k))%4294967296):Nat):Int))))),.o 84 (.int (uA _):PV.le (.e (.v (.int .u32 (IntKind.u32.wrap ((((((iA (2*(iO (val L) (val M) n x)+(jh (val L) n x)) k+4294967296)-(ik M).getD k 0)-(jy ((2*(iO (val L) (val M) n x)+(jh (val L) n x))-val M) (val M) k))%4294967296):Nat):Int))))) (.e (.v (.int .u32 (((((((iA (2*(iO (val L) (val M) n x)+(jh (val L) n x)) k+4294967296)-(ik M).getD k 0)-(jy ((2*(iO (val L) (val M) n x)+(jh (val L) n x))-val M) (val M) k))%4294967296)%4294967296):Nat):Int))))),
     iX ((k:Int)) (((ik M).length+1)) ae,.a (ae:k<((ik M).length+1)),.a (ae:0<=(32:Int)/\(32:Int)<=((64:Nat):Int)),.o 87 (.int (B2 _):PV.le (.e (.v (.int .u64 ((((((iA (2*(iO (val L) (val M) n x)+(jh (val L) n x)) k+4294967296)-(ik M).getD k 0)-(jy ((2*(iO (val L) (val M) n x)+(jh (val L) n x))-val M) (val M) k)):Nat):Int)/2^32)))) (.e (.v (.int .u64 ((((((iA (2*(iO (val L) (val M) n x)+(jh (val L) n x)) k+4294967296)-(ik M).getD k 0)-(jy ((2*(iO (val L) (val M) n x)+(jh (val L) n x))-val M) (val M) k))/4294967296):Nat):Int))))),
     pd (1-((((((iA (2*(iO (val L) (val M) n x)+(jh (val L) n x)) k+4294967296)-(ik M).getD k 0)-(jy ((2*(iO (val L) (val M) n x)+(jh (val L) n x))-val M) (val M) k))/4294967296):Nat):Int)) ae,.o 88 (.int ae:PV.le (.e (.v (.int .u64 (1-((((((iA (2*(iO (val L) (val M) n x)+(jh (val L) n x)) k+4294967296)-(ik M).getD k 0)-(jy ((2*(iO (val L) (val M) n x)+(jh (val L) n x))-val M) (val M) k))/4294967296):Nat):Int))))) (.e (.v (.int .u64 (((1-((((iA (2*(iO (val L) (val M) n x)+(jh (val L) n x)) k+4294967296)-(ik M).getD k 0)-(jy ((2*(iO (val L) (val M) n x)+(jh (val L) n x))-val M) (val M) k))/4294967296)):Nat):Int))))),
     iq ((k:Int)+1) ae]<|.e (chain [.o 12 (.int (by rw[hq]):PV.le (.e (.v (.int .u64 (((1-((((iA (2*(iO (val L) (val M) n x)+(jh (val L) n x)) k+4294967296)-(ik M).getD k 0)-(jy ((2*(iO (val L) (val M) n x)+(jh (val L) n x))-val M) (val M) k))/4294967296)):Nat):Int)))) (.e (.v (.int .u64 (jy ((2*(iO (val L) (val M) n x)+(jh (val L) n x))-val M) (val M) (k+1):Int))))),.b 23 (Dv rfl aG uc:Bx.le (.row false 79 ((ik M).length+1) 1 (fun i' j'=>if i'=k/\0<=j'/\j'<0+1 then[(.v (.int .u32 (((((((iA (2*(iO (val L) (val M) n x)+(jh (val L) n x)) k+4294967296)-(ik M).getD k 0)-(jy ((2*(iO (val L) (val M) n x)+(jh (val L) n x))-val M) (val M) k))%4294967296)%4294967296):Nat):Int)))].getD (j'-0) .any else(jb (kF ((2*(iO (val L) (val M) n x)+(jh (val L) n x))-val M) (2*(iO (val L) (val M) n x)+(jh (val L) n x)) k ((ik M).length+1))) i' j')) (.row false 79 ((ik M).length+1) 1 (jb (kF ((2*(iO (val L) (val M) n x)+(jh (val L) n x))-val M) (2*(iO (val L) (val M) n x)+(jh (val L) n x)) (k+1) ((ik M).length+1)))))]<|.nil)) ah)
  (fun hk=>by
    exact iB (chain [tF 65 (((((ik M).length+1):Nat):Int)<((((ik M).length+1):Nat):Int)) ae]<|.e (chain [.b 23 (.iU (by rw[IV (aU _)]):Bx.le (.row false 79 ((ik M).length+1) 1 (jb (kF ((2*(iO (val L) (val M) n x)+(jh (val L) n x))-val M) (2*(iO (val L) (val M) n x)+(jh (val L) n x)) ((ik M).length+1) ((ik M).length+1)))) (.row false 79 ((ik M).length+1) 1 (jb (iK ((2*(iO (val L) (val M) n x)+(jh (val L) n x))-val M) ((ik M).length+1)))))]<|.nil)) ah) ak:ju 17 Tryz.f289 (VO L M n x 0) (.exit 4) ⟨106,false,[(8,.e (iP ((n:Int)-1-(x:Int)))),(7,.own 23),(6,.own 19),(1,.e (gX (ik M))),(0,.e (gX L))],[(23,.row false 79 ((ik M).length+1) 1 (jb (iK ((2*(iO (val L) (val M) n x)+(jh (val L) n x))-val M) ((ik M).length+1)))),(19,.row false 79 L.length 1 (jb (iK ((kH (val L) (val M) n x)*2^(n-x)) L.length)))]⟩) (chain [.o 12 (.int (by rw[GK];rfl):PV.le (.e (.v (.int .u64 0))) (.e (.v (.int .u64 (jy ((2*(iO (val L) (val M) n x)+(jh (val L) n x))-val M) (val M) 0:Int))))),.b 23 (.iU (by rw[E7]):Bx.le (.row false 79 ((ik M).length+1) 1 (jb (iK (2*(iO (val L) (val M) n x)+(jh (val L) n x)) ((ik M).length+1)))) (.row false 79 ((ik M).length+1) 1 (jb (kF ((2*(iO (val L) (val M) n x)+(jh (val L) n x))-val M) (2*(iO (val L) (val M) n x)+(jh (val L) n x)) 0 ((ik M).length+1)))))]<|.nil),.o 90 (.int ae:PV.le (.e (iP ((n:Int)-1-(x:Int)))) (.e (iP (((n-1-x):Nat):Int)))),.a (ae:0<(32:Int)),iq ((((n-1-x):Nat):Int)) ae,.o 93 (.int ae:PV.le (.e (iP ((n:Int)-1-(x:Int)))) (.e (iP (((n-1-x):Nat):Int)))),.a (ae:0<(32:Int)),iq ((((n-1-x):Nat):Int)) ae,
       iX (((((n-1-x)/32):Nat):Int)) (L.length) ae,.a (ae:((n-1-x)/32)<L.length),.o 96 (.int iH:PV.le (.e (.v (.int .u32 ((((iK ((kH (val L) (val M) n x)*2^(n-x)) L.length).getD ((n-1-x)/32) 0):Nat):Int)))) (.e (.v (.int .u32 (iA ((kH (val L) (val M) n x)*2^((n-1-x)+1)) ((n-1-x)/32):Int))))),.o 97 (.int ae:PV.le (.e (iP ((n:Int)-1-(x:Int)))) (.e (iP (((n-1-x):Nat):Int)))),.a (ae:0<(32:Int)),.a (ae:0<=(((((n-1-x)%32):Nat):Int):Int)/\(((((n-1-x)%32):Nat):Int):Int)<=((32:Nat):Int)),.o 100 (.int tn:PV.le (.e (.v (.int .u32 (bits .or .u32 (iA ((kH (val L) (val M) n x)*2^((n-1-x)+1)) ((n-1-x)/32):Int) (IntKind.u32.wrap (1*2^((n-1-x)%32))))))) (.e (.v (.int .u32 (((iA ((kH (val L) (val M) n x)*2^((n-1-x)+1)) ((n-1-x)/32)+2^((n-1-x)%32)):Nat):Int))))),
       iX (((((n-1-x)/32):Nat):Int)) (L.length) ae,.a (ae:((n-1-x)/32)<L.length),.o 29 (.int ae:PV.le (.e (iP ((n:Int)-1-(x:Int)))) (.e (iP (((n-1-x):Nat):Int)))),
       iq ((((n-1-x):Nat):Int)-1) ae]<|.e (chain [.o 8 (.int aw:PV.le (.e (iP ((((n-1-x):Nat):Int)-1))) (.e (iP ((n:Int)-1-(((x+1):Nat):Int))))),.b 23 (.iU (by rw[LL]):Bx.le (.row false 79 ((ik M).length+1) 1 (jb (iK ((2*(iO (val L) (val M) n x)+(jh (val L) n x))-val M) ((ik M).length+1)))) (.row false 79 ((ik M).length+1) 1 (jb (iK (iO (val L) (val M) n (x+1)) ((ik M).length+1))))),.b 19 (Dv rfl (by rw[mF];omega) ae2:Bx.le (.row false 79 L.length 1 (fun i' j'=>if i'=((n-1-x)/32)/\0<=j'/\j'<0+1 then[(.v (.int .u32 (((iA ((kH (val L) (val M) n x)*2^((n-1-x)+1)) ((n-1-x)/32)+2^((n-1-x)%32)):Nat):Int)))].getD (j'-0) .any else(jb (iK ((kH (val L) (val M) n x)*2^(n-x)) L.length)) i' j')) (.row false 79 L.length 1 (jb (iK ((kH (val L) (val M) n (x+1))*2^(n-(x+1))) L.length))))]<|.nil))) ah)
  (fun hx=>by
    exact iB (chain [tF 28 (0<=((n:Int)-1-(n:Int))) ae,.z 19,.z 23]<|.e (chain [.o 7 (.e (yZ (mF _ _).symm):PV.le (.e (.sl false ((ik M).length+1) 1 (jb (iK (iO (val L) (val M) n n) ((ik M).length+1))))) (.e (gX (iK (iO (val L) (val M) n n) ((ik M).length+1))))),.o 6 (.e (yZ (mF _ _).symm):PV.le (.e (.sl false L.length 1 (jb (iK ((kH (val L) (val M) n n)*2^(n-n)) L.length)))) (.e (gX (iK ((kH (val L) (val M) n n)*2^(n-n)) L.length))))]<|.nil)) ah) ak:ju 5 Tryz.f289 (VP L M n 0) (.exit 0) ⟨106,false,[(7,.e (gX (iK (iO (val L) (val M) n n) ((ik M).length+1)))),(6,.e (gX (iK ((kH (val L) (val M) n n)*2^(n-n)) L.length)))],[]⟩) (chain [.o 8 (.int aw:PV.le (.e (iP ((n:Int)-1))) (.e (iP ((n:Int)-1-((0:Nat):Int))))),.b 23 (FQ rfl (fun i=>by rw[Ho.1,GV]):Bx.le (.row false 79 ((ik M).length+1) 1 (fun _ j_=>[(.v (.int .u32 0))].getD j_ .any)) (.row false 79 ((ik M).length+1) 1 (jb (iK (iO (val L) (val M) n 0) ((ik M).length+1))))),.b 19 (FQ rfl (fun i=>by rw[Ho.2,ch,GV]):Bx.le (.row false 79 L.length 1 (fun _ j_=>[(.v (.int .u32 0))].getD j_ .any)) (.row false 79 L.length 1 (jb (iK ((kH (val L) (val M) n 0)*2^(n-0)) L.length))))]<|.nil),.cf (xD _ (r9 _ _) ay:vG 195 [(gX (iK ((kH (val L) (val M) n n)*2^(n-n)) L.length))] _),.cf (xD _ (r9 _ _) ay:vG 195 [(gX (iK (iO (val L) (val M) n n) ((ik M).length+1)))] _)]<|rQ (.iw [(gX (ik (iK ((kH (val L) (val M) n n)*2^(n-n)) L.length))),(gX (ik (iK (iO (val L) (val M) n n) ((ik M).length+1))))]) (.iw [gX (gV (val L/val M)),gX (gV (val L%val M))]) (by rw[he.1,he.2,B6 f1,B6 f2,cT,bN,bO])) ah 
open Go.RowKit Fp Pu
theorem aib(m:Nat)(h:(gV m).length<=10000):gU 195 [gX (gV m)] (gX (gV m)):=by
 have:=(xD (gV m) (kA m) ae).pc;rwa[show ik (gV m)=gV m from vD m]at this
theorem Dk(m:Nat)(h:(gV m).length<=10000):gU 196 [gX (gV m)] (iP (ib m)):=by
 have:=VI (gV m) (kA m) ae;rwa[jD]at this
theorem ahZ(m n:Nat)(h:(gV m).length<=10000)(k:(gV n).length<=10000):gU 198 [gX (gV m),gX (gV n)] (iP (kg m n)):=by
 have:=VM (gV m) (gV n) (kA m) (kA n) ae ae;rwa[jD,jD]at this
theorem NH(m n:Nat)(h:(gV m).length<=10000)(k:(gV n).length<=10000):gU 200 [gX (gV m),gX (gV n)] (gX (gV (m+n))):=by
 have:=ahW (gV m) (gV n) (kA m) (kA n) ae ae;rwa[jD,jD]at this
theorem ah9(m n:Nat)(h:(gV m).length<=10000)(k:n<=m):gU 232 [gX (gV m),gX (gV n)] (gX (gV (m-n))):=by
 have:=aia (gV m) (gV n) (kA m) (kA n) ae (by rw[jD,jD];exact k);rwa[jD,jD]at this
theorem NI(m n:Nat)(h:(gV m).length<=10000)(k:n<=1000000):gU 199 [gX (gV m),iP (n:Int)] (gX (gV (m*2^n))):=by
 have:=ah6 (gV m) n (kA m) ae ae;rwa[jD]at this
theorem ah7(m n:Nat)(h:(gV m).length<=10000)(k:n<=1000000):gU 197 [gX (gV m),iP (n:Int)] (gX (gV (m/2^n))):=by
 have:=ah8 (gV m) n (kA m) ae ae;rwa[jD]at this
theorem ah3(m n:Nat)(h:(gV m).length<=10000)(k:(gV n).length<=10000)(h0:0<n):gU 289 [gX (gV m),gX (gV n)] (.iw [gX (gV (m/n)),gX (gV (m%n))]):=by
 have:=ah4 (gV m) (gV n) _ (kA m) (kA n) ae ae (by rw[jD];exact h0) rfl;rwa[jD,jD]at this
theorem aim(neg:Bool)(p:Nat)(il:8<=p)(ic:p<=512):gU 201 [(bP neg),(iP p)] (gY (canon neg (2^p-1) (16384-(p:Int)))):=by
 have g0:ib (1*2^p)=p+1:=by rw[bI];exact uJ (aU _) (eu ag ae)
 have g1:(gV 1).length<=256:=nh ag;have g2:(gV (1*2^p)).length<=256:=nh ae;have g4:1<=1*2^p:=by rw[bI];exact aY ag 
 have g3:(gV ((1*2^p)-1)).length<=256:=nh (by have:=sZ (dj (1*2^p) 1);omega);exact tr true Tryz.call201 Tryz.func201 (chain [.o 6 (.e rY:PV.le (.e (.sl false 1 1 fun i_ j_=>[(.v (.int .u32 1))].getD (i_*1+j_) (.v (.bool false)))) (.e (gX (gV 1)))),.c (NI _ _ ae ae:gU 199 [(gX (gV 1)),(iP p)] _),.o 9 (.e rY:PV.le (.e (.sl false 1 1 fun i_ j_=>[(.v (.int .u32 1))].getD (i_*1+j_) (.v (.bool false)))) (.e (gX (gV 1)))),.c (ah9 _ _ ae af:gU 232 [(gX (gV (1*2^p))),(gX (gV 1))] _),iq (16384-(p:Int)) ae,.c (Ds _ _ _ ae ae ae:gU 76 [(bP neg),(gX (gV ((1*2^p)-1))),(iP (16384-(p:Int)))] _)]<|rQ (gY (canon neg ((1*2^p)-1) (16384-(p:Int)))) (gY (canon neg (2^p-1) (16384-(p:Int)))) (by rw[bI])) ah 
noncomputable def Au(neg:Bool)(m:Nat)(e:Int)(more:Bool)(p:Nat)(up:Bool)(h1:(gV m).length<=2900)(kR:-200000<=e)(kx:e<=200000)(il:8<=p)(ic:p<=512)(Q:Nat)(U:Bool)(hq:kC m e more p (neg != up)=Q)(hU:U=(neg != up))(hl:(gV Q).length<=2901):Tr Tryz.prog Tb:=by
 have hb:=vK h1;have oh:ja m e p<=1000000:=by unfold ja;omega
 have sO:(ja m e p:Int)<=max (ib m:Int) (-16384-e):=by unfold ja;omega
 have g4:=vK hl;exact chain [.c (Dk _ ae:gU 196 [(gX (gV Q))] _)]<|.w (0<(ib Q:Int))
  (fun k1=>chain [tB 53 (aS k1),.c (Dk _ ae:gU 196 [(gX (gV Q))] _),iq ((ib Q:Int)+e) ae,iq (((ib Q:Int)+e)+(ja m e p:Int)) ae]<|.w (16384<(((ib Q:Int)+e)+(ja m e p:Int)))
   (fun k2=>chain [tB 61 (aS k2)]<|.w (U=true)
    (fun k3=>chain [tB 63 (k3),.o 64 (.e vE:PV.le (.e (.agg [(bP false),(.v (.slice none 0 0)),(iP 0)])) (.e (gY jA)))]<|rR (.iw [gY (jP neg m e more p up),iP (jG neg m e more p up)]) (by
      have h0:Q≠0:=by intro h;rw[h]at k1;exact absurd k1 ag 
      obtain⟨g1,g2⟩:=(QH (e:=e) hq h0 ae).1 (by rw[<-hU];simp[k3]);exact .iU (by rw[g1,g2]):E.le (.iw [(gY jA),(iP 9)]) (.iw [gY (jP neg m e more p up),iP (jG neg m e more p up)])))
    (fun k3=>chain [tB 63 (aM k3),.c (aim neg p ae ae)]<|rR (.iw [gY (jP neg m e more p up),iP (jG neg m e more p up)]) (by
      have h0:Q≠0:=by intro h;rw[h]at k1;exact absurd k1 ag 
      obtain⟨g1,g2⟩:=(QH (e:=e) hq h0 ae).2 (by rw[<-hU];simp[k3]);exact .iU (by rw[g1,g2]):E.le (.iw [(gY (canon neg (2^p-1) (16384-(p:Int)))),(iP 0)]) (.iw [gY (jP neg m e more p up),iP (jG neg m e more p up)]))))
   (fun k2=>chain [tB 61 (aT k2),iq (e+(ja m e p:Int)) ae,.c (Ds _ _ _ ae ae ae:gU 76 [(bP neg),(gX (gV Q)),(iP (e+(ja m e p:Int)))] _)]<|rR (.iw [gY (jP neg m e more p up),iP (jG neg m e more p up)]) (by
      obtain⟨g1,g2⟩:=QF (e:=e) hq (.inr ae);exact .iU (by rw[g1,g2]):E.le (.iw [(gY (canon neg Q (e+(ja m e p:Int)))),(iP 0)]) (.iw [gY (jP neg m e more p up),iP (jG neg m e more p up)]))))
  (fun k1=>chain [tB 53 (aT k1),iq (e+(ja m e p:Int)) ae,.c (Ds _ _ _ ae ae ae:gU 76 [(bP neg),(gX (gV Q)),(iP (e+(ja m e p:Int)))] _)]<|rR (.iw [gY (jP neg m e more p up),iP (jG neg m e more p up)]) (by
      have h0:Q=0:=by
       apply bE;intro h;have:=mS h;omega
      obtain⟨g1,g2⟩:=QF (e:=e) hq (.inl h0);exact .iU (by rw[g1,g2]):E.le (.iw [(gY (canon neg Q (e+(ja m e p:Int)))),(iP 0)]) (.iw [gY (jP neg m e more p up),iP (jG neg m e more p up)])))
theorem V0(neg:Bool)(m:Nat)(e:Int)(more:Bool)(p:Nat)(up:Bool)(h1:(gV m).length<=2900)(kR:-200000<=e)(kx:e<=200000)(il:8<=p)(ic:p<=512):gU 162 [(bP neg),(gX (gV m)),(iP e),(bP more),(iP p),(bP up)] (.iw [gY (jP neg m e more p up),iP (jG neg m e more p up)]):=by
 have hb:=vK h1;have oh:ja m e p<=1000000:=by unfold ja;omega
 have sO:(ja m e p:Int)<=max (ib m:Int) (-16384-e):=by unfold ja;omega
 have g1:=lX (bw m (2^ja m e p));have g2:=lX (cN m (2^ja m e p));have l1:(gV 1).length<=256:=nh ag;have g3:(gV ((m/2^ja m e p)+1)).length<=2901:=Ui ae ae;have g5:=vK (m:=m/2^ja m e p) (aX g1 h1);exact tr true Tryz.call162 Tryz.func162 (chain [.c (aib _ ae:gU 195 [(gX (gV m))] _),.c (Dk _ ae:gU 196 [(gX (gV m))] _),iq ((ib m:Int)-(p:Int)) ae,iq ((-16384)-e) ae,.o 27 (.int (by unfold ja;(repeat' split)<;>omega):PV.le (.e (iP (if 0>(if((-16384)-e)>((ib m:Int)-(p:Int))then((-16384)-e)else((ib m:Int)-(p:Int)))then 0 else(if((-16384)-e)>((ib m:Int)-(p:Int))then((-16384)-e)else((ib m:Int)-(p:Int)))))) (.e (iP (ja m e p:Int)))),.c (ah7 _ _ ae ae:gU 197 [(gX (gV m)),(iP (ja m e p:Int))] _)]<|.w (0<(ja m e p:Int))
  (fun k1=>chain [tB 32 (aS k1),.c (NI _ _ ae ae:gU 199 [(gX (gV (m/2^(ja m e p)))),(iP (ja m e p:Int))] _),.c (ahZ _ _ ae ae:gU 198 [(gX (gV ((m/2^(ja m e p))*2^(ja m e p)))),(gX (gV m))] _)]<|.w ((kg ((m/2^(ja m e p))*2^(ja m e p)) m)=0)
   (fun k2=>by
    have iH:m%2^(ja m e p)=0:=(Ux _ _).1 k2;exact chain [tB 39 (aO k2)]<|.w (more=true)
     (fun k3=>.w (neg=up)
      (fun k4=>chain [tB 43 (uM (aK k4)),tB 44 (k3)]<|Au neg m e more p up h1 kR kx il ic (m/2^(ja m e p)) false (by unfold kC;simp[k3,k4,iH]) (by first|rfl|simp[k3,k4,iH]) ae)
      (fun k4=>chain [tB 43 (uL (aJ k4)),tB 44 (k3),.o 49 (.e rY:PV.le (.e (.sl false 1 1 fun i_ j_=>[(.v (.int .u32 1))].getD (i_*1+j_) (.v (.bool false)))) (.e (gX (gV 1)))),.c (NH _ _ ae ae:gU 200 [(gX (gV (m/2^(ja m e p)))),(gX (gV 1))] _)]<|Au neg m e more p up h1 kR kx il ic ((m/2^(ja m e p))+1) true (by unfold kC;simp[k3,k4,iH]) (by first|rfl|simp[k3,k4,iH]) ae))
     (fun k3=>chain [tB 44 (aM k3)]<|Au neg m e more p up h1 kR kx il ic (m/2^(ja m e p)) (!(neg==up)) (by unfold kC;simp[k3,iH]) (by first|rfl|simp[k3,iH]) ae))
   (fun k2=>by
    have iH:m%2^(ja m e p)≠0:=fun h=>k2 ((Ux _ _).2 h)
    exact chain [tB 39 (aP k2)]<|.w (neg=up)
     (fun k3=>chain [tB 43 (uM (aK k3))]<|Au neg m e more p up h1 kR kx il ic (m/2^(ja m e p)) false (by unfold kC;simp[k3,iH]) (by first|rfl|simp[k3,iH]) ae)
     (fun k3=>chain [tB 43 (uL (aJ k3)),.o 49 (.e rY:PV.le (.e (.sl false 1 1 fun i_ j_=>[(.v (.int .u32 1))].getD (i_*1+j_) (.v (.bool false)))) (.e (gX (gV 1)))),.c (NH _ _ ae ae:gU 200 [(gX (gV (m/2^(ja m e p)))),(gX (gV 1))] _)]<|Au neg m e more p up h1 kR kx il ic ((m/2^(ja m e p))+1) true (by unfold kC;simp[k3,iH]) (by first|rfl|simp[k3,iH]) ae)))
  (fun k1=>by
   have iH:m%2^(ja m e p)=0:=by rw[show(ja m e p)=0 by omega,bN,cH]
   exact chain [tB 32 (aT k1)]<|.w (more=true)
    (fun k2=>.w (neg=up)
     (fun k3=>chain [tB 43 (uM (aK k3)),tB 44 (k2)]<|Au neg m e more p up h1 kR kx il ic (m/2^(ja m e p)) false (by unfold kC;simp[k2,k3,iH]) (by first|rfl|simp[k2,k3,iH]) ae)
     (fun k3=>chain [tB 43 (uL (aJ k3)),tB 44 (k2),.o 49 (.e rY:PV.le (.e (.sl false 1 1 fun i_ j_=>[(.v (.int .u32 1))].getD (i_*1+j_) (.v (.bool false)))) (.e (gX (gV 1)))),.c (NH _ _ ae ae:gU 200 [(gX (gV (m/2^(ja m e p)))),(gX (gV 1))] _)]<|Au neg m e more p up h1 kR kx il ic ((m/2^(ja m e p))+1) true (by unfold kC;simp[k2,k3,iH]) (by first|rfl|simp[k2,k3,iH]) ae))
    (fun k2=>chain [tB 44 (aM k2)]<|Au neg m e more p up h1 kR kx il ic (m/2^(ja m e p)) (!(neg==up)) (by unfold kC;simp[k2,iH]) (by first|rfl|simp[k2,iH]) ae))) ah 
end Go.Proofs.YtdgnpeddgdclhaaGreatDoor
namespace Go.Proofs.YtdgnpeddgdclhaaGreatDoor.Fp
theorem Qf{s:Bool}{m:Nat}{e:Int}(hm:ib m<=60000)(kR:-60000<=e)(kx:e<=60000):(gV (canon s m e).m).length<=2900 /\ -200000<=(canon s m e).e/\(canon s m e).e<=200000:=by
 by_cases h0:m=0
 .subst h0;rw[Ci];exact⟨by rw[show jA.m=0 from rfl,ni];decide,ag,ag⟩
 .obtain ⟨h1,h2,h3,h4⟩:=AU (s:=s) (e:=e) h0
  have h5:=mS h3;exact⟨EZ ae,ae,ae⟩
theorem ahF{a b:Dy}(ha:a.ia)(hb:b.ia):(gV (kJ a b).m).length<=2900 /\ -200000<=(kJ a b).e/\(kJ a b).e<=200000:=by
 have h1:=ha.bits;have h2:=hb.bits;have h3:=ha.exp;have h4:=hb.exp;have h5:ib (a.m*b.m)<=ib a.m+ib b.m:=by
  rw[kO,aV];exact gj (oN a.m) (oN b.m)
 exact Qf ae ae ae 
theorem Vh{a:Dy}{k:Int}(h:k<=a.e):ib (a.num k).natAbs<=ib a.m+(a.e-k).toNat:=by
 have e:(a.num k).natAbs=a.m*2^(a.e-k).toNat:=by
  unfold Dy.num Dy.jQ;split
  .rw [ff];exact dA _
  .exact dA _
 rw[e];by_cases h0:a.m=0
 .rw [h0,ch];exact bL _
 .rw [qo h0];exact aU _
theorem akL{a b:Dy}(ha:a.ia)(hb:b.ia):(gV (iI a b).m).length<=2900 /\ -200000<=(iI a b).e/\(iI a b).e<=200000:=by
 have h1:=ha.bits;have h2:=hb.bits;have h3:=ha.exp;have h4:=hb.exp;have la:=ha.len;have lb:=hb.len;unfold iI;split
 .exact ⟨ae,ae,ae⟩
 .split
  .exact ⟨ae,ae,ae⟩
  .have g1:=Vh (a:=a) (k:=min a.e b.e) ae 
   have g2:=Vh (a:=b) (k:=min a.e b.e) ae;refine Qf ?_ ae ae;obtain⟨K,hK⟩:∃ K,K=40000:=⟨_,rfl⟩
   have g3:=kO.1 (aX g1 (show ib a.m+(a.e-min a.e b.e).toNat<=K by omega));have g4:=kO.1 (aX g2 (show ib b.m+(b.e-min a.e b.e).toNat<=K by omega));refine aX ((kO (k:=K+1)).2 ?_) (show K+1<=60000 by omega);have g5:(a.num (min a.e b.e)+b.num (min a.e b.e)).natAbs<=(a.num (min a.e b.e)).natAbs+(b.num (min a.e b.e)).natAbs:=Int.natAbs_add_le _ _;rw[aZ];generalize 2^K=P at *
   omega
theorem Qy{a b:Dy}(ha:a.ia)(hb:b.ia)(h:jo a b=0):a=b:=by
 have h1:nJ a (min a.e b.e):=.inr ae;have h2:nJ b (min a.e b.e):=.inr ae;rw[Ck h1 h2]at h;refine KT ha.canon hb.canon h1 h2 ?_;unfold vO at h;split at h
 .omega
 .split at h<;>omega
theorem IU{a b c:Dy}(ha:a.ia)(hb:b.ia)(hc:c.ia)(h1:jo a c<=0)(h2:jo b c<=0)(h3:c=a\/c=b):iR a b=c:=by
 unfold iR;rcases h3 with rfl|rfl
 .rw [aQ ae]
 .split
  .rfl
  .rename_i h
   have:=wT a c;exact Qy ha hc ae 
theorem UJ{a b c:Dy}(ha:a.ia)(hb:b.ia)(hc:c.ia)(h1:jo c a<=0)(h2:jo c b<=0)(h3:c=a\/c=b):iV a b=c:=by
 unfold iV;rcases h3 with rfl|rfl
 .have:=wT c b
  rw[aQ ae]
 .split
  .rfl
  .rename_i h
   have:=wT a c;exact Qy ha hc ae 
theorem I2(d:Dy)(k:Int):(k0 d).num k=((d.num k).natAbs:Int):=by
 unfold Dy.num Dy.jQ k0;cases d.neg
 .simp;exact(dA (d.m*2^(d.e-k).toNat)).symm▸by simp
 .simp only[bq,a6,bk];rw[ff,dA]
theorem Pc{d:Dy}(hd:d.lI){k:Int}(h:0<=d.num k):k0 d=d:=by
 rcases hd with⟨h1,h2,h3⟩|h1
 .unfold k0;rw[<-h2]
 .cases hn:d.neg with
  |false=>unfold k0;rw[<-hn]
  |true=>
   have:0<d.jQ k:=vg ae k;unfold Dy.num at h;rw[hn,aR rfl]at h;omega
theorem Pd{d:Dy}(hd:d.lI){k:Int}(h:d.num k<=0):k0 d=iF d:=by
 rcases hd with⟨h1,h2,h3⟩|h1
 .unfold k0 iF;rw[h1,h2];simp
 .cases hn:d.neg with
  |true=>unfold k0 iF;rw[hn];simp
  |false=>
   have:0<d.jQ k:=vg ae k;unfold Dy.num at h;rw[hn,aQ ag]at h;omega
theorem agw{x:Iv}(h1:x.lo.ia)(h2:x.hi.ia)(h3:jo x.lo x.hi<=0):my x=iR (iF x.lo) x.hi:=by
 obtain⟨k,ka,kb⟩:∃ k:Int,k<=x.lo.e/\k<=x.hi.e:=⟨min x.lo.e x.hi.e,ae,ae⟩
 have aL:nJ x.lo k:=.inr ka;have aH:nJ x.hi k:=.inr kb;have aN:nJ (iF x.lo) k:=DP aL;have aA:nJ (k0 x.lo) k:=aL;have aB:nJ (k0 x.hi) k:=aH;have hle:=(oj aL aH).1 h3;have n1:=Fm (d:=x.lo) k;have n2:=I2 x.lo k;have n3:=I2 x.hi k;unfold my;by_cases hc:0<jo x.hi (iF x.lo)
 .have e:iR (iF x.lo) x.hi=x.hi:=by unfold iR;rw[aR hc]
  have CK:¬x.hi.num k<=(iF x.lo).num k:=fun h=>by have:=(oj aH aN).2 h;omega
  rw[e];exact IU (rI h1) (rI h2) h2 ((oj aA aH).2 ae) ((oj aB aH).2 ae) (.inr (Pc h2.canon (k:=k) ae).symm)
 .have e:iR (iF x.lo) x.hi=iF x.lo:=by unfold iR;rw[aQ hc]
  have pX:x.hi.num k<=(iF x.lo).num k:=(oj aH aN).1 ae;rw[e];exact IU (rI h1) (rI h2) (qt h1) ((oj aA aN).2 ae) ((oj aB aN).2 ae) (.inl (Pd h1.canon (k:=k) ae).symm)
theorem Xk{d:Dy}(k:Int):(0<d.iJ↔0<d.num k)/\(d.iJ<0↔d.num k<0):=by
 obtain⟨h1,h2,h3⟩:=Nh (d:=d) k;rcases B3 d with⟨_,h⟩|⟨_,_,h⟩|⟨_,_,h⟩
 .have:=h1 h;rw[h];omega
 .have:=h2 h;rw[h];omega
 .have:=h3 h;rw[h];omega
theorem agA{x:Iv}(ha:x.all=false)(h1:x.lo.ia)(h2:x.hi.ia)(h3:jo x.lo x.hi<=0):nj x=if lN x=0 then jA else iR x.lo (iF x.hi):=by
 unfold nj;by_cases hs:lN x=0
 .rw [aR hs,aR hs]
 .rw [aQ hs,aQ hs]
  obtain⟨k,ka,kb⟩:∃ k:Int,k<=x.lo.e/\k<=x.hi.e:=⟨min x.lo.e x.hi.e,ae,ae⟩
  have aL:nJ x.lo k:=.inr ka;have aH:nJ x.hi k:=.inr kb;have aN:nJ (iF x.hi) k:=DP aH;have aA:nJ (k0 x.lo) k:=aL;have aB:nJ (k0 x.hi) k:=aH;have hle:=(oj aL aH).1 h3;have n1:=Fm (d:=x.hi) k;have n2:=I2 x.lo k;have n3:=I2 x.hi k;have sL:=Xk (d:=x.lo) k;have sH:=Xk (d:=x.hi) k;by_cases hp:0<x.lo.iJ
  .have S9:=sL.1.1 hp
   have e1:=Pc h1.canon (k:=k) ae;rw[UJ (rI h1) (rI h2) h1 ((oj aL aA).2 ae) ((oj aL aB).2 ae) (.inl e1.symm)];exact(IU h1 (qt h2) h1 (yJ _) ((oj aN aL).2 ae) (.inl rfl)).symm
  .have hn:x.hi.iJ<0:=by
    apply bE;intro hn;unfold lN at hs;rw[ha,aQ ag,aQ hp,aQ hn]at hs;exact hs rfl
   have wk:=sH.2.1 hn;have e1:=Pd h2.canon (k:=k) ae;rw[UJ (rI h1) (rI h2) (qt h2) ((oj aN aA).2 ae) ((oj aN aB).2 ae) (.inr e1.symm)];exact(IU h1 (qt h2) (qt h2) ((oj aL aN).2 ae) (yJ _) (.inr rfl)).symm
theorem oC{a b:Dy}{p:Nat}{up:Bool}(hp:1<=p)(ic:p<=4096):(kt a b p up).ia:=by
 unfold kt;split
 .exact rD
 .exact mn _ _ _ _ _ _ hp ic
theorem UL(a:Dy):iV a a=a:=by unfold iV;split<;>rfl
theorem UI(a:Dy):iR a a=a:=by unfold iR;split<;>rfl
end Go.Proofs.YtdgnpeddgdclhaaGreatDoor.Fp
namespace Go.Proofs.YtdgnpeddgdclhaaGreatDoor
open Go.RowKit Fp Pu
theorem NK(d:Dy)(p:Nat)(up:Bool)(h1:(gV d.m).length<=2900)(kR:-200000<=d.e)(kx:d.e<=200000)(il:8<=p)(ic:p<=512):gU 121 [(gY d),(iP p),(bP up)] (.iw [gY (jj d p up),iP (jz d p up)]):=by
 exact tr true Tryz.call121 Tryz.func121 (chain [.c (V0 d.neg d.m d.e false p up ae ae ae ae ae)]<|.nil) ah 
theorem FE(a b:Dy)(p:Nat)(ha:a.ia)(hb:b.ia)(il:8<=p)(ic:p<=512):gU 120 [(gY a),(gY b),(iP p)] (iP 0):=by
 exact tr true Tryz.call120 Tryz.func120 (chain [.c (yU _ af:gU 46 [(gY a)] _),.c (yU _ af:gU 46 [(gY b)] _),.c (NT _:gU 48 [(iP p)] _),tB 16 (o0.2 ⟨ae,ae⟩:(lp (p:Int))=true)]<|.nil) ah 
theorem VZ(a b:Dy)(p:Nat)(up:Bool)(ha:a.ia)(hb:b.ia)(il:8<=p)(ic:p<=512):gU 72 [(gY a),(gY b),(iP p),(bP up)] (.iw [gY (jj (iI a b) p up),iP (jz (iI a b) p up)]):=by
 have hx:=akL ha hb;exact tr true Tryz.call72 Tryz.func72 (chain [.c (FE _ _ _ af af ae ae:gU 120 [(gY a),(gY b),(iP p)] _),tB 16 (ag:((0:Int) != 0)=false),.c (WG a b (Fp.Dy.ia.rq af) (Fp.Dy.ia.rq af)),.c (NK _ _ _ hx.1 hx.2.1 hx.2.2 ae ae:gU 121 [(gY (iI a b)),(iP p),(bP up)] _)]<|.nil) ah 
theorem vu(a b:Dy)(p:Nat)(up:Bool)(ha:a.ia)(hb:b.ia)(il:8<=p)(ic:p<=512):gU 109 [(gY a),(gY b),(iP p),(bP up)] (.iw [gY (jj (kJ a b) p up),iP (jz (kJ a b) p up)]):=by
 have hx:=ahF ha hb;exact tr true Tryz.call109 Tryz.func109 (chain [.c (FE _ _ _ af af ae ae:gU 120 [(gY a),(gY b),(iP p)] _),tB 16 (ag:((0:Int) != 0)=false),.c (ajc _ _ (Fp.Dy.ia.rq af) (Fp.Dy.ia.rq af):gU 154 [(gY a),(gY b)] _),.c (NK _ _ _ hx.1 hx.2.1 hx.2.2 ae ae:gU 121 [(gY (kJ a b)),(iP p),(bP up)] _)]<|.nil) ah 
theorem Av(a b:Dy)(p:Nat)(up:Bool)(ha:a.ia)(hb:b.ia)(b0:b.m≠0)(il:8<=p)(ic:p<=512):gU 270 [(gY a),(gY b),(iP p),(bP up)] (.iw [gY (kt a b p up),iP (nd a b p up)]):=by
 by_cases a0:a.m=0
 .have e1:kt a b p up=jA/\nd a b p up=0:=by unfold kt nd;rw[aR a0,aR a0];exact⟨rfl,rfl⟩
  exact tr true Tryz.call270 Tryz.func270 (chain [.c (FE _ _ _ af af ae ae:gU 120 [(gY a),(gY b),(iP p)] _),tB 19 (ag:((0:Int) != 0)=false),tB 25 (nx (pS b0):(((gV b.m).length:Int)==0)=false),tB 30 (rX (qT.2 a0):(((gV a.m).length:Int)==0)=true),.o 31 (.e vE:PV.le (.e (.agg [(bP false),(.v (.slice none 0 0)),(iP 0)])) (.e (gY jA)))]<|rQ (.iw [(gY jA),(iP 0)]) (.iw [gY (kt a b p up),iP (nd a b p up)]) (by rw[e1.1,e1.2])) ah 
 .have va:=ha.gV
  have vb:=hb.gV;have xa:=ha.exp;have xb:=hb.exp;have ra:=ha.range.resolve_left a0;have rb:=hb.range.resolve_left b0;have pa:=mS a0;have pb:=mS b0;have hK:kn a b p 2=p+2+ib b.m-ib a.m:=rfl;have bs:=qo a0 (kn a b p 2);have z1:(gV (a.m*2^kn a b p 2)).length<=2900:=nh ae;have z2:(gV (a.m*2^kn a b p 2/b.m)).length<=2900:=nh (by have:=sZ (bw (a.m*2^kn a b p 2) b.m);omega);have z3:(gV (a.m*2^kn a b p 2%b.m)).length<=2900:=nh (by have:=sZ (cW (bg (a.m*2^kn a b p 2) (dB b0)));omega);have jI:decide (0<(ib (a.m*2^kn a b p 2%b.m):Int))=decide (a.m*2^kn a b p 2%b.m≠0):=by
   by_cases h:a.m*2^kn a b p 2%b.m=0
   .rw [h,qX];rfl
   .have:=mS h
    rw[aS h,aS ae]
  exact tr true Tryz.call270 Tryz.func270 (chain [.c (FE _ _ _ af af ae ae:gU 120 [(gY a),(gY b),(iP p)] _),tB 19 (ag:((0:Int) != 0)=false),tB 25 (nx (pS b0):(((gV b.m).length:Int)==0)=false),tB 30 (nx (pS a0):(((gV a.m).length:Int)==0)=false),iq ((p:Int)+2) ae,.c (Dk _ ae:gU 196 [(gX (gV b.m))] _),iq (((p:Int)+2)+(ib b.m:Int)) ae,.c (Dk _ ae:gU 196 [(gX (gV a.m))] _),
   iq ((((p:Int)+2)+(ib b.m:Int))-(ib a.m:Int)) ae,.o 42 (.int au:PV.le (.e (iP (if((((p:Int)+2)+(ib b.m:Int))-(ib a.m:Int))>0 then((((p:Int)+2)+(ib b.m:Int))-(ib a.m:Int))else 0))) (.e (iP (kn a b p 2:Int)))),.c (NI _ _ ae ae:gU 199 [(gX (gV a.m)),(iP (kn a b p 2:Int))] _),.c (ah3 _ _ ae ae ae:gU 289 [(gX (gV (a.m*2^(kn a b p 2)))),(gX (gV b.m))] _),
   iq (a.e-b.e) ae,iq ((a.e-b.e)-(kn a b p 2:Int)) ae,.c (Dk _ ae:gU 196 [(gX (gV ((a.m*2^(kn a b p 2))%b.m)))] _),.c (V0 (! (a.neg==b.neg)) ((a.m*2^(kn a b p 2))/b.m) ((a.e-b.e)-(kn a b p 2:Int)) (decide (0<(ib ((a.m*2^(kn a b p 2))%b.m):Int))) p up ae ae ae ae ae)]<|rQ (.iw [(gY (jP (!(a.neg==b.neg)) ((a.m*2^(kn a b p 2))/b.m) ((a.e-b.e)-(kn a b p 2:Int)) (decide (0<(ib ((a.m*2^(kn a b p 2))%b.m):Int))) p up)),(iP (jG (!(a.neg==b.neg)) ((a.m*2^(kn a b p 2))/b.m) ((a.e-b.e)-(kn a b p 2:Int)) (decide (0<(ib ((a.m*2^(kn a b p 2))%b.m):Int))) p up))]) (.iw [gY (kt a b p up),iP (nd a b p up)]) (by unfold kt nd;rw[aQ a0,aQ a0,<-jI];rfl)) ah 
open Go.RowKit Fp Pu
abbrev ND(x:Iv)(y:Iv)(p):=iV (jj (kJ x.lo y.lo) p false) (jj (kJ x.lo y.lo) p false)
abbrev NF(x:Iv)(y:Iv)(p):=iR (jj (kJ x.lo y.lo) p true) (jj (kJ x.lo y.lo) p true)
theorem BP(p:Int):gU 70 [(iP p)] (bP (lp p)):=by
 exact tr true Tryz.call70 Tryz.func70 (.w (8<=p)
  (fun k1=>chain [tB 4 (aS k1)]<|rQ (bP (decide (p<=512))) (bP (lp p)) (by simp[lp,k1]))
  (fun k1=>chain [tB 4 (aT k1)]<|rQ (bP false) (bP (lp p)) (by simp[lp,k1]))) ah 
theorem oG : gU 106 [] (gZ ie):=by
 exact tr true Tryz.call106 Tryz.func106 (chain [.o 1 (.e Ga:PV.le (.e (.agg [(bP false),(.v (.slice none 0 0)),(iP 0),(bP false),(.v (.slice none 0 0)),(iP 0),(bP true)])) (.e (gZ ie)))]<|.nil) ah 
theorem air(d:Dy):gU 229 [(gY d)] (gZ (mf d)):=by
 exact tr true Tryz.call229 Tryz.func229 (.nil) ah 
theorem V4 : gU 52 [(gY jA)] (bP true):=by
 exact tr true Tryz.call52 Tryz.func52 (chain [tB 4 (rfl:jA.neg=false),tB 10 (rX (qT.2 rfl):(((gV jA.m).length:Int)==0)=true),tB 15 (rfl:(jA.e==0)=true)]<|.nil) ah 
theorem Dl(x:Iv)(hx:x.ia):gU 19 [(gZ x)] (bP true):=by
 by_cases ky:x.all=true
 .obtain ⟨h1,h2⟩:=MH hx ky
  exact tr true Tryz.call19 Tryz.func19 (chain [tB 4 (ky:x.all=true),.c (by rw[h1];exact V4:gU 52 [(gY x.lo)] (bP true)),.c (by rw[h2];exact V4:gU 52 [(gY x.hi)] (bP true))]<|.nil) ah 
 .replace ky:x.all=false:=by simpa using ky
  obtain⟨h1,h2,h3⟩:=oX hx ky;exact tr true Tryz.call19 Tryz.func19 (chain [tB 4 (ky:x.all=false),.c (yU _ af:gU 46 [(gY x.lo)] _),.c (yU _ af:gU 46 [(gY x.hi)] _),.c (BQ x.lo x.hi (Fp.Dy.ia.rq af) (Fp.Dy.ia.rq af)),tB 27 (aS h3)]<|.nil) ah 
theorem uo(x:Iv)(hx:x.ia):gU 71 [(gZ x)] (bP (!x.all)):=by
 exact tr true Tryz.call71 Tryz.func71 (chain [.c (Dl _ af:gU 19 [(gZ x)] _)]<|.nil) ah 
theorem yT(lo hi:Dy)(e f:Int):gU 107 [(gY lo),(iP e),(gY hi),(iP f)] (gZ (kE lo e hi f)):=by
 exact tr true Tryz.call107 Tryz.func107 (.w (e=0)
  (fun k1=>chain [tB 10 (aO k1)]<|.w (f=0)
   (fun k2=>chain [tB 13 (aO k2)]<|rQ (gZ (Iv.mk lo hi false)) (gZ (kE lo e hi f)) (by unfold kE;simp[k1,k2];try rfl))
   (fun k2=>chain [tB 13 (aP k2),.c (oG:gU 106 [] _)]<|rQ (gZ ie) (gZ (kE lo e hi f)) (by unfold kE;simp[k1,k2])))
  (fun k1=>chain [tB 10 (aP k1),.c (oG:gU 106 [] _)]<|rQ (gZ ie) (gZ (kE lo e hi f)) (by unfold kE;simp[k1]))) ah 
theorem FF(x y:Iv)(p:Nat)(hx:x.ia)(hy:y.ia)(il:8<=p)(ic:p<=512):gU 60 [(gZ x),(gZ y),(iP p)] (gZ (jk x y p)):=by
 exact tr true Tryz.call60 Tryz.func60 (chain [.c (BP _:gU 70 [(iP p)] _),tB 12 (o0.2 ⟨ae,ae⟩:(lp (p:Int))=true),.c (uo _ af:gU 71 [(gZ x)] _)]<|.w (x.all=true)
  (fun k1=>chain [tB 16 (uM k1),.c (oG:gU 106 [] _)]<|rQ (gZ ie) (gZ (jk x y p)) (by unfold jk;simp[k1]))
  (fun k1=>by
   have mA:=oX hx (aM k1);have v1:=mA.1;have v2:=mA.2.1;have v3:=mA.2.2;exact chain [tB 16 (uL (aM k1)),.c (uo _ af:gU 71 [(gZ y)] _)]<|.w (y.all=true)
    (fun k2=>chain [tB 21 (uM k2),.c (oG:gU 106 [] _)]<|rQ (gZ ie) (gZ (jk x y p)) (by unfold jk;simp[k1,k2]))
    (fun k2=>by
     have mA:=oX hy (aM k2);have v4:=mA.1;have v5:=mA.2.1;have v6:=mA.2.2;exact chain [tB 21 (uL (aM k2)),.c (VZ x.lo y.lo p false af af ae ae),.c (VZ x.hi y.hi p true af af ae ae),.c (yT _ _ _ _:gU 107 [(gY (jj (iI x.lo y.lo) p false)),(iP (jz (iI x.lo y.lo) p false)),(gY (jj (iI x.hi y.hi) p true)),(iP (jz (iI x.hi y.hi) p true))] _)]<|rQ (gZ (kE (jj (iI x.lo y.lo) p false) (jz (iI x.lo y.lo) p false) (jj (iI x.hi y.hi) p true) (jz (iI x.hi y.hi) p true))) (gZ (jk x y p)) (by unfold jk;simp[k1,k2])))) ah 
theorem V2(x:Iv)(hx:x.ia):gU 226 [(gZ x)] (gZ (qJ x)):=by
 exact tr true Tryz.call226 Tryz.func226 (chain [.c (uo _ af:gU 71 [(gZ x)] _)]<|.w (x.all=true)
  (fun k1=>chain [tB 4 (uM k1),.c (oG:gU 106 [] _)]<|rQ (gZ ie) (gZ (qJ x)) (by unfold qJ;simp[k1]))
  (fun k1=>by
   have mA:=oX hx (aM k1);have v1:=mA.1;have v2:=mA.2.1;have v3:=mA.2.2;exact chain [tB 4 (uL (aM k1)),.c (rZ _:gU 99 [(gY x.hi)] _),.c (rZ _:gU 99 [(gY x.lo)] _)]<|rQ (gZ (Iv.mk (iF x.hi) (iF x.lo) false)) (gZ (qJ x)) (by unfold qJ;simp[k1];try rfl))) ah 
theorem ais(x y:Iv)(p:Nat)(hx:x.ia)(hy:y.ia)(il:8<=p)(ic:p<=512):gU 224 [(gZ x),(gZ y),(iP p)] (gZ (FV x y p)):=by
 exact tr true Tryz.call224 Tryz.func224 (chain [.c (V2 _ af:gU 226 [(gZ y)] _),.c (FF _ _ _ af (Fj af) ae ae:gU 60 [(gZ x),(gZ (qJ y)),(iP p)] _)]<|.nil) ah 
theorem Aw(a b:Dy)(ha:a.ia)(hb:b.ia):gU 110 [(gY a),(gY b)] (gY (iV a b)):=by
 have hc:=wT a b;exact tr true Tryz.call110 Tryz.func110 (chain [.c (BQ a b (Fp.Dy.ia.rq af) (Fp.Dy.ia.rq af))]<|.w ((jo a b)<=0)
  (fun k1=>chain [tB 8 (aS k1)]<|rQ (gY a) (gY (iV a b)) (by unfold iV;rw[aQ ae]))
  (fun k1=>chain [tB 8 (aT k1)]<|rQ (gY b) (gY (iV a b)) (by unfold iV;rw[aR ae]))) ah 
theorem xC(a b:Dy)(ha:a.ia)(hb:b.ia):gU 111 [(gY a),(gY b)] (gY (iR a b)):=by
 have hc:=wT a b;exact tr true Tryz.call111 Tryz.func111 (chain [.c (BQ a b (Fp.Dy.ia.rq af) (Fp.Dy.ia.rq af))]<|.w (0<=(jo a b))
  (fun k1=>chain [tB 8 (aS k1)]<|rQ (gY a) (gY (iR a b)) (by unfold iR;rw[aQ ae]))
  (fun k1=>chain [tB 8 (aT k1)]<|rQ (gY b) (gY (iR a b)) (by unfold iR;rw[aR ae]))) ah 
theorem V3(x:Iv)(hx:x.ia):gU 269 [(gZ x)] (iP (lN x)):=by
 exact tr true Tryz.call269 Tryz.func269 (chain [.c (uo _ af:gU 71 [(gZ x)] _)]<|.w (x.all=true)
  (fun k1=>chain [tB 4 (uM k1)]<|rQ (iP 0) (iP (lN x)) (by unfold lN;simp[k1]))
  (fun k1=>by
   have mA:=oX hx (aM k1);have v1:=mA.1;have v2:=mA.2.1;have v3:=mA.2.2;exact chain [tB 4 (uL (aM k1)),.c (vw _:gU 47 [(gY x.lo)] _)]<|.w (0<(Dy.iJ x.lo))
    (fun k2=>chain [tB 9 (aS k2)]<|rQ (iP 1) (iP (lN x)) (by unfold lN;simp[k1,k2]))
    (fun k2=>chain [tB 9 (aT k2),.c (vw _:gU 47 [(gY x.hi)] _)]<|.w ((Dy.iJ x.hi)<0)
     (fun k3=>chain [tB 13 (aS k3)]<|rQ (iP (-1)) (iP (lN x)) (by unfold lN;simp[k1,k2,k3]))
     (fun k3=>chain [tB 13 (aT k3)]<|rQ (iP 0) (iP (lN x)) (by unfold lN;simp[k1,k2,k3]))))) ah 
theorem aip(x:Iv)(hx:x.ia)(ky:x.all=false):gU 291 [(gZ x)] (gY (my x)):=by
 obtain⟨v1,v2,v3⟩:=oX hx ky;exact tr true Tryz.call291 Tryz.func291 (chain [.c (rZ _:gU 99 [(gY x.lo)] _),.c (xC _ _ (qt af) af:gU 111 [(gY (iF x.lo)),(gY x.hi)] _)]<|rQ (gY (iR (iF x.lo) x.hi)) (gY (my x)) (by rw[agw v1 v2 v3])) ah 
theorem aiq(x:Iv)(hx:x.ia)(ky:x.all=false):gU 290 [(gZ x)] (gY (nj x)):=by
 obtain⟨v1,v2,v3⟩:=oX hx ky;have hm:=agA ky v1 v2 v3;exact tr true Tryz.call290 Tryz.func290 (chain [.c (V3 _ af:gU 269 [(gZ x)] _)]<|.w ((lN x)=0)
  (fun k1=>chain [tB 5 (aK k1),.o 6 (.e vE:PV.le (.e (.agg [(bP false),(.v (.slice none 0 0)),(iP 0)])) (.e (gY jA)))]<|rQ (gY jA) (gY (nj x)) (by rw[hm,aR k1]))
  (fun k1=>chain [tB 5 (aJ k1),.c (rZ _:gU 99 [(gY x.hi)] _),.c (xC _ _ af (qt af):gU 111 [(gY x.lo),(gY (iF x.hi))] _)]<|rQ (gY (iR x.lo (iF x.hi))) (gY (nj x)) (by rw[hm,aQ k1]))) ah 
theorem ain(x:Iv)(hx:x.ia):gU 271 [(gZ x)] (gZ (iY x)):=by
 exact tr true Tryz.call271 Tryz.func271 (chain [.c (uo _ af:gU 71 [(gZ x)] _)]<|.w (x.all=true)
  (fun k1=>chain [tB 4 (uM k1),.c (oG:gU 106 [] _)]<|rQ (gZ ie) (gZ (iY x)) (by unfold iY;simp[k1]))
  (fun k1=>by
   have mA:=oX hx (aM k1);have v1:=mA.1;have v2:=mA.2.1;have v3:=mA.2.2;exact chain [tB 4 (uL (aM k1)),.c (aiq _ af (aM af):gU 290 [(gZ x)] _),.c (aip _ af (aM af):gU 291 [(gZ x)] _)]<|rQ (gZ (Iv.mk (nj x) (my x) false)) (gZ (iY x)) (by unfold iY;simp[k1];try rfl))) ah 
theorem V1(x y:Iv):gU 108 [(gZ x),(gZ y)] (.sl true 4 6 fun i_ j_=>(jq x.lo++jq y.lo++jq x.lo++jq y.hi++jq x.hi++jq y.lo++jq x.hi++jq y.hi).getD (i_*6+j_) (.v (.bool false))):=by
 exact tr true Tryz.call108 Tryz.func108 (.nil) ah 
theorem Jh(x y:Iv)(p:Nat)(hx:x.ia)(hy:y.ia)(il:8<=p)(ic:p<=512):gU 61 [(gZ x),(gZ y),(iP p)] (gZ (iQ x y p)):=by
 exact tr true Tryz.call61 Tryz.func61 (chain [.c (BP _:gU 70 [(iP p)] _),tB 15 (o0.2 ⟨ae,ae⟩:(lp (p:Int))=true),.c (uo _ af:gU 71 [(gZ x)] _)]<|.w (x.all=true)
  (fun k1=>chain [tB 19 (uM k1),.c (oG:gU 106 [] _)]<|rQ (gZ ie) (gZ (iQ x y p)) (by unfold iQ;simp[k1]))
  (fun k1=>by
   have mA:=oX hx (aM k1);have v1:=mA.1;have v2:=mA.2.1;have v3:=mA.2.2;exact chain [tB 19 (uL (aM k1)),.c (uo _ af:gU 71 [(gZ y)] _)]<|.w (y.all=true)
    (fun k2=>chain [tB 24 (uM k2),.c (oG:gU 106 [] _)]<|rQ (gZ ie) (gZ (iQ x y p)) (by unfold iQ;simp[k1,k2]))
    (fun k2=>by
     have mA:=oX hy (aM k2);have v4:=mA.1;have v5:=mA.2.1;have v6:=mA.2.2;exact chain [tB 24 (uL (aM k2)),.c (V1 _ _:gU 108 [(gZ x),(gZ y)] _),.u 70,tB 32 (ag:(decide ((0:Int)<4))=true),iX (0) (4) ae,iX (0) (2) ae,iX (0) (4) ae,
      iX (1) (2) ae,.c (vu x.lo y.lo p false af af ae ae),iX (0) (4) ae,iX (0) (2) ae,iX (0) (4) ae,iX (1) (2) ae,.c (vu x.lo y.lo p true af af ae ae)]<|.w ((jz (kJ x.lo y.lo) p false)=0)
      (fun k3=>chain [tB 66 (aO k3)]<|.w ((jz (kJ x.lo y.lo) p true)=0)
       (fun k4=>chain [tB 69 (aO k4),tB 73 (ag:((0:Int)==0)=true),.c (Aw _ _ (mn _ _ _ _ _ _ ae ae) (mn _ _ _ _ _ _ ae ae):gU 110 [(gY (jj (kJ x.lo y.lo) p false)),(gY (jj (kJ x.lo y.lo) p false))] _),.c (xC _ _ (mn _ _ _ _ _ _ ae ae) (mn _ _ _ _ _ _ ae ae):gU 111 [(gY (jj (kJ x.lo y.lo) p true)),(gY (jj (kJ x.lo y.lo) p true))] _),iq (0+1) ae,.k [9,69,68,8,7,6,2] [8,6],tB 32 (ag:(decide (((0+1):Int)<4))=true),iX ((0+1)) (4) ae,iX (0) (2) ae,iX ((0+1)) (4) ae,iX (1) (2) ae,.c (vu x.lo y.hi p false af af ae ae),iX ((0+1)) (4) ae,iX (0) (2) ae,iX ((0+1)) (4) ae,iX (1) (2) ae,.c (vu x.lo y.hi p true af af ae ae)]<|.w ((jz (kJ x.lo y.hi) p false)=0)
        (fun k5=>chain [tB 66 (aO k5)]<|.w ((jz (kJ x.lo y.hi) p true)=0)
         (fun k6=>chain [tB 69 (aO k6),tB 73 (ag:(((0+1):Int)==0)=false),.c (Aw _ _ (qg (mn _ _ _ _ _ _ ae ae) (mn _ _ _ _ _ _ ae ae)) (mn _ _ _ _ _ _ ae ae):gU 110 [(gY (ND x y p)),(gY (jj (kJ x.lo y.hi) p false))] _),.c (xC _ _ (oY (mn _ _ _ _ _ _ ae ae) (mn _ _ _ _ _ _ ae ae)) (mn _ _ _ _ _ _ ae ae):gU 111 [(gY (NF x y p)),(gY (jj (kJ x.lo y.hi) p true))] _),
          iq ((0+1)+1) ae,.k [9,69,68,8,7,6,2] [8,6],tB 32 (ag:(decide ((((0+1)+1):Int)<4))=true),iX (((0+1)+1)) (4) ae,iX (0) (2) ae,iX (((0+1)+1)) (4) ae,
          iX (1) (2) ae,.c (vu x.hi y.lo p false af af ae ae),iX (((0+1)+1)) (4) ae,iX (0) (2) ae,iX (((0+1)+1)) (4) ae,iX (1) (2) ae,.c (vu x.hi y.lo p true af af ae ae)]<|.w ((jz (kJ x.hi y.lo) p false)=0)
          (fun k7=>chain [tB 66 (aO k7)]<|.w ((jz (kJ x.hi y.lo) p true)=0)
           (fun k8=>chain [tB 69 (aO k8),tB 73 (ag:((((0+1)+1):Int)==0)=false),.c (Aw _ _ (qg (qg (mn _ _ _ _ _ _ ae ae) (mn _ _ _ _ _ _ ae ae)) (mn _ _ _ _ _ _ ae ae)) (mn _ _ _ _ _ _ ae ae):gU 110 [(gY (iV (ND x y p) (jj (kJ x.lo y.hi) p false))),(gY (jj (kJ x.hi y.lo) p false))] _),.c (xC _ _ (oY (oY (mn _ _ _ _ _ _ ae ae) (mn _ _ _ _ _ _ ae ae)) (mn _ _ _ _ _ _ ae ae)) (mn _ _ _ _ _ _ ae ae):gU 111 [(gY (iR (NF x y p) (jj (kJ x.lo y.hi) p true))),(gY (jj (kJ x.hi y.lo) p true))] _),
            iq (((0+1)+1)+1) ae,.k [9,69,68,8,7,6,2] [8,6],tB 32 (ag:(decide (((((0+1)+1)+1):Int)<4))=true),iX ((((0+1)+1)+1)) (4) ae,iX (0) (2) ae,
            iX ((((0+1)+1)+1)) (4) ae,iX (1) (2) ae,.c (vu x.hi y.hi p false af af ae ae),iX ((((0+1)+1)+1)) (4) ae,iX (0) (2) ae,
            iX ((((0+1)+1)+1)) (4) ae,iX (1) (2) ae,.c (vu x.hi y.hi p true af af ae ae)]<|.w ((jz (kJ x.hi y.hi) p false)=0)
            (fun k9=>chain [tB 66 (aO k9)]<|.w ((jz (kJ x.hi y.hi) p true)=0)
             (fun k10=>chain [tB 69 (aO k10),tB 73 (ag:(((((0+1)+1)+1):Int)==0)=false),.c (Aw _ _ (qg (qg (qg (mn _ _ _ _ _ _ ae ae) (mn _ _ _ _ _ _ ae ae)) (mn _ _ _ _ _ _ ae ae)) (mn _ _ _ _ _ _ ae ae)) (mn _ _ _ _ _ _ ae ae):gU 110 [(gY (iV (iV (ND x y p) (jj (kJ x.lo y.hi) p false)) (jj (kJ x.hi y.lo) p false))),(gY (jj (kJ x.hi y.hi) p false))] _),.c (xC _ _ (oY (oY (oY (mn _ _ _ _ _ _ ae ae) (mn _ _ _ _ _ _ ae ae)) (mn _ _ _ _ _ _ ae ae)) (mn _ _ _ _ _ _ ae ae)) (mn _ _ _ _ _ _ ae ae):gU 111 [(gY (iR (iR (NF x y p) (jj (kJ x.lo y.hi) p true)) (jj (kJ x.hi y.lo) p true))),(gY (jj (kJ x.hi y.hi) p true))] _),
              iq ((((0+1)+1)+1)+1) ae,.k [9,69,68,8,7,6,2] [8,6],tB 32 (ag:(decide ((((((0+1)+1)+1)+1):Int)<4))=false)]<|rR (gZ (iQ x y p)) (by
      exact .iU (by
       unfold iQ;rw[aQ (by simp[k1,k2])];rw[show mg _ _ x y=_ from aR ⟨⟨k3,k4⟩,⟨k5,k6⟩,⟨k7,k8⟩,⟨k9,k10⟩⟩];rw[UL,UI];try rfl):E.le (gZ (Iv.mk (iV (iV (iV (iV (jj (kJ x.lo y.lo) p false) (jj (kJ x.lo y.lo) p false)) (jj (kJ x.lo y.hi) p false)) (jj (kJ x.hi y.lo) p false)) (jj (kJ x.hi y.hi) p false)) (iR (iR (iR (iR (jj (kJ x.lo y.lo) p true) (jj (kJ x.lo y.lo) p true)) (jj (kJ x.lo y.hi) p true)) (jj (kJ x.hi y.lo) p true)) (jj (kJ x.hi y.hi) p true)) false)) (gZ (iQ x y p))))
             (fun k10=>chain [tB 69 (aP k10),.c (oG:gU 106 [] _)]<|rR (gZ (iQ x y p)) (by
      exact .iU (by
       unfold iQ;rw[aQ (by simp[k1,k2])];rw[show mg _ _ x y=_ from aQ (by rintro⟨⟨_,_⟩,⟨_,_⟩,⟨_,_⟩,⟨_,q⟩⟩;exact k10 q)]):E.le (gZ ie) (gZ (iQ x y p)))))
            (fun k9=>chain [tB 66 (aP k9),.c (oG:gU 106 [] _)]<|rR (gZ (iQ x y p)) (by
      exact .iU (by
       unfold iQ;rw[aQ (by simp[k1,k2])];rw[show mg _ _ x y=_ from aQ (by rintro⟨⟨_,_⟩,⟨_,_⟩,⟨_,_⟩,⟨q,_⟩⟩;exact k9 q)]):E.le (gZ ie) (gZ (iQ x y p)))))
           (fun k8=>chain [tB 69 (aP k8),.c (oG:gU 106 [] _)]<|rR (gZ (iQ x y p)) (by
      exact .iU (by
       unfold iQ;rw[aQ (by simp[k1,k2])];rw[show mg _ _ x y=_ from aQ (by rintro⟨⟨_,_⟩,⟨_,_⟩,⟨_,q⟩,⟨_,_⟩⟩;exact k8 q)]):E.le (gZ ie) (gZ (iQ x y p)))))
          (fun k7=>chain [tB 66 (aP k7),.c (oG:gU 106 [] _)]<|rR (gZ (iQ x y p)) (by
      exact .iU (by
       unfold iQ;rw[aQ (by simp[k1,k2])];rw[show mg _ _ x y=_ from aQ (by rintro⟨⟨_,_⟩,⟨_,_⟩,⟨q,_⟩,⟨_,_⟩⟩;exact k7 q)]):E.le (gZ ie) (gZ (iQ x y p)))))
         (fun k6=>chain [tB 69 (aP k6),.c (oG:gU 106 [] _)]<|rR (gZ (iQ x y p)) (by
      exact .iU (by
       unfold iQ;rw[aQ (by simp[k1,k2])];rw[show mg _ _ x y=_ from aQ (by rintro⟨⟨_,_⟩,⟨_,q⟩,⟨_,_⟩,⟨_,_⟩⟩;exact k6 q)]):E.le (gZ ie) (gZ (iQ x y p)))))
        (fun k5=>chain [tB 66 (aP k5),.c (oG:gU 106 [] _)]<|rR (gZ (iQ x y p)) (by
      exact .iU (by
       unfold iQ;rw[aQ (by simp[k1,k2])];rw[show mg _ _ x y=_ from aQ (by rintro⟨⟨_,_⟩,⟨q,_⟩,⟨_,_⟩,⟨_,_⟩⟩;exact k5 q)]):E.le (gZ ie) (gZ (iQ x y p)))))
       (fun k4=>chain [tB 69 (aP k4),.c (oG:gU 106 [] _)]<|rR (gZ (iQ x y p)) (by
      exact .iU (by
       unfold iQ;rw[aQ (by simp[k1,k2])];rw[show mg _ _ x y=_ from aQ (by rintro⟨⟨_,q⟩,⟨_,_⟩,⟨_,_⟩,⟨_,_⟩⟩;exact k4 q)]):E.le (gZ ie) (gZ (iQ x y p)))))
      (fun k3=>chain [tB 66 (aP k3),.c (oG:gU 106 [] _)]<|rR (gZ (iQ x y p)) (by
      exact .iU (by
       unfold iQ;rw[aQ (by simp[k1,k2])];rw[show mg _ _ x y=_ from aQ (by rintro⟨⟨q,_⟩,⟨_,_⟩,⟨_,_⟩,⟨_,_⟩⟩;exact k3 q)]):E.le (gZ ie) (gZ (iQ x y p))))))) ah 
theorem aio(x y:Iv)(p:Nat)(hx:x.ia)(hy:y.ia)(il:8<=p)(ic:p<=512):gU 225 [(gZ x),(gZ y),(iP p)] (gZ (jS x y p)):=by
 exact tr true Tryz.call225 Tryz.func225 (chain [.c (BP _:gU 70 [(iP p)] _),tB 15 (o0.2 ⟨ae,ae⟩:(lp (p:Int))=true),.c (uo _ af:gU 71 [(gZ x)] _)]<|.w (x.all=true)
  (fun k1=>chain [tB 19 (uM k1),.c (oG:gU 106 [] _)]<|rQ (gZ ie) (gZ (jS x y p)) (by unfold jS;simp[k1]))
  (fun k1=>by
   have mA:=oX hx (aM k1);have v1:=mA.1;have v2:=mA.2.1;have v3:=mA.2.2;exact chain [tB 19 (uL (aM k1)),.c (uo _ af:gU 71 [(gZ y)] _)]<|.w (y.all=true)
    (fun k2=>chain [tB 24 (uM k2),.c (oG:gU 106 [] _)]<|rQ (gZ ie) (gZ (jS x y p)) (by unfold jS;simp[k1,k2]))
    (fun k2=>by
     have mA:=oX hy (aM k2);have v4:=mA.1;have v5:=mA.2.1;have v6:=mA.2.2;exact chain [tB 24 (uL (aM k2)),.c (V3 _ af:gU 269 [(gZ y)] _)]<|.w ((lN y)=0)
      (fun k3=>chain [tB 30 (aK k3),.c (oG:gU 106 [] _)]<|rQ (gZ ie) (gZ (jS x y p)) (by unfold jS;simp[k1,k2,k3]))
      (fun k3=>by
       have y0:=Xi hy k3;exact chain [tB 30 (aJ k3),.c (V1 _ _:gU 108 [(gZ x),(gZ y)] _),.u 70,tB 37 (ag:(decide ((0:Int)<4))=true),iX (0) (4) ae,iX (0) (2) ae,iX (0) (4) ae,iX (1) (2) ae,.c (Av x.lo y.lo p false af af y0.1 ae ae),iX (0) (4) ae,iX (0) (2) ae,iX (0) (4) ae,iX (1) (2) ae,.c (Av x.lo y.lo p true af af y0.1 ae ae)]<|.w ((nd x.lo y.lo p false)=0)
        (fun k4=>chain [tB 71 (aO k4)]<|.w ((nd x.lo y.lo p true)=0)
         (fun k5=>chain [tB 74 (aO k5),tB 78 (ag:((0:Int)==0)=true),.c (Aw _ _ (oC ae ae) (oC ae ae):gU 110 [(gY (kt x.lo y.lo p false)),(gY (kt x.lo y.lo p false))] _),.c (xC _ _ (oC ae ae) (oC ae ae):gU 111 [(gY (kt x.lo y.lo p true)),(gY (kt x.lo y.lo p true))] _),iq (0+1) ae,.k [9,74,73,8,7,6,2] [8,6],tB 37 (ag:(decide (((0+1):Int)<4))=true),iX ((0+1)) (4) ae,iX (0) (2) ae,iX ((0+1)) (4) ae,iX (1) (2) ae,.c (Av x.lo y.hi p false af af y0.2 ae ae),iX ((0+1)) (4) ae,iX (0) (2) ae,iX ((0+1)) (4) ae,iX (1) (2) ae,.c (Av x.lo y.hi p true af af y0.2 ae ae)]<|.w ((nd x.lo y.hi p false)=0)
          (fun k6=>chain [tB 71 (aO k6)]<|.w ((nd x.lo y.hi p true)=0)
           (fun k7=>chain [tB 74 (aO k7),tB 78 (ag:(((0+1):Int)==0)=false),.c (Aw _ _ (qg (oC ae ae) (oC ae ae)) (oC ae ae):gU 110 [(gY (iV (kt x.lo y.lo p false) (kt x.lo y.lo p false))),(gY (kt x.lo y.hi p false))] _),.c (xC _ _ (oY (oC ae ae) (oC ae ae)) (oC ae ae):gU 111 [(gY (iR (kt x.lo y.lo p true) (kt x.lo y.lo p true))),(gY (kt x.lo y.hi p true))] _),
            iq ((0+1)+1) ae,.k [9,74,73,8,7,6,2] [8,6],tB 37 (ag:(decide ((((0+1)+1):Int)<4))=true),iX (((0+1)+1)) (4) ae,iX (0) (2) ae,iX (((0+1)+1)) (4) ae,
            iX (1) (2) ae,.c (Av x.hi y.lo p false af af y0.1 ae ae),iX (((0+1)+1)) (4) ae,iX (0) (2) ae,iX (((0+1)+1)) (4) ae,iX (1) (2) ae,.c (Av x.hi y.lo p true af af y0.1 ae ae)]<|.w ((nd x.hi y.lo p false)=0)
            (fun k8=>chain [tB 71 (aO k8)]<|.w ((nd x.hi y.lo p true)=0)
             (fun k9=>chain [tB 74 (aO k9),tB 78 (ag:((((0+1)+1):Int)==0)=false),.c (Aw _ _ (qg (qg (oC ae ae) (oC ae ae)) (oC ae ae)) (oC ae ae):gU 110 [(gY (iV (iV (kt x.lo y.lo p false) (kt x.lo y.lo p false)) (kt x.lo y.hi p false))),(gY (kt x.hi y.lo p false))] _),.c (xC _ _ (oY (oY (oC ae ae) (oC ae ae)) (oC ae ae)) (oC ae ae):gU 111 [(gY (iR (iR (kt x.lo y.lo p true) (kt x.lo y.lo p true)) (kt x.lo y.hi p true))),(gY (kt x.hi y.lo p true))] _),
              iq (((0+1)+1)+1) ae,.k [9,74,73,8,7,6,2] [8,6],tB 37 (ag:(decide (((((0+1)+1)+1):Int)<4))=true),iX ((((0+1)+1)+1)) (4) ae,iX (0) (2) ae,
              iX ((((0+1)+1)+1)) (4) ae,iX (1) (2) ae,.c (Av x.hi y.hi p false af af y0.2 ae ae),iX ((((0+1)+1)+1)) (4) ae,iX (0) (2) ae,
              iX ((((0+1)+1)+1)) (4) ae,iX (1) (2) ae,.c (Av x.hi y.hi p true af af y0.2 ae ae)]<|.w ((nd x.hi y.hi p false)=0)
              (fun k10=>chain [tB 71 (aO k10)]<|.w ((nd x.hi y.hi p true)=0)
               (fun k11=>chain [tB 74 (aO k11),tB 78 (ag:(((((0+1)+1)+1):Int)==0)=false),.c (Aw _ _ (qg (qg (qg (oC ae ae) (oC ae ae)) (oC ae ae)) (oC ae ae)) (oC ae ae):gU 110 [(gY (iV (iV (iV (kt x.lo y.lo p false) (kt x.lo y.lo p false)) (kt x.lo y.hi p false)) (kt x.hi y.lo p false))),(gY (kt x.hi y.hi p false))] _),.c (xC _ _ (oY (oY (oY (oC ae ae) (oC ae ae)) (oC ae ae)) (oC ae ae)) (oC ae ae):gU 111 [(gY (iR (iR (iR (kt x.lo y.lo p true) (kt x.lo y.lo p true)) (kt x.lo y.hi p true)) (kt x.hi y.lo p true))),(gY (kt x.hi y.hi p true))] _),
                iq ((((0+1)+1)+1)+1) ae,.k [9,74,73,8,7,6,2] [8,6],tB 37 (ag:(decide ((((((0+1)+1)+1)+1):Int)<4))=false)]<|rR (gZ (jS x y p)) (by
      exact .iU (by
       unfold jS;rw[aQ (by simp[k1,k2,k3])];rw[show mg _ _ x y=_ from aR ⟨⟨k4,k5⟩,⟨k6,k7⟩,⟨k8,k9⟩,⟨k10,k11⟩⟩];rw[UL,UI];try rfl):E.le (gZ (Iv.mk (iV (iV (iV (iV (kt x.lo y.lo p false) (kt x.lo y.lo p false)) (kt x.lo y.hi p false)) (kt x.hi y.lo p false)) (kt x.hi y.hi p false)) (iR (iR (iR (iR (kt x.lo y.lo p true) (kt x.lo y.lo p true)) (kt x.lo y.hi p true)) (kt x.hi y.lo p true)) (kt x.hi y.hi p true)) false)) (gZ (jS x y p))))
               (fun k11=>chain [tB 74 (aP k11),.c (oG:gU 106 [] _)]<|rR (gZ (jS x y p)) (by
      exact .iU (by
       unfold jS;rw[aQ (by simp[k1,k2,k3])];rw[show mg _ _ x y=_ from aQ (by rintro⟨⟨_,_⟩,⟨_,_⟩,⟨_,_⟩,⟨_,q⟩⟩;exact k11 q)]):E.le (gZ ie) (gZ (jS x y p)))))
              (fun k10=>chain [tB 71 (aP k10),.c (oG:gU 106 [] _)]<|rR (gZ (jS x y p)) (by
      exact .iU (by
       unfold jS;rw[aQ (by simp[k1,k2,k3])];rw[show mg _ _ x y=_ from aQ (by rintro⟨⟨_,_⟩,⟨_,_⟩,⟨_,_⟩,⟨q,_⟩⟩;exact k10 q)]):E.le (gZ ie) (gZ (jS x y p)))))
             (fun k9=>chain [tB 74 (aP k9),.c (oG:gU 106 [] _)]<|rR (gZ (jS x y p)) (by
      exact .iU (by
       unfold jS;rw[aQ (by simp[k1,k2,k3])];rw[show mg _ _ x y=_ from aQ (by rintro⟨⟨_,_⟩,⟨_,_⟩,⟨_,q⟩,⟨_,_⟩⟩;exact k9 q)]):E.le (gZ ie) (gZ (jS x y p)))))
            (fun k8=>chain [tB 71 (aP k8),.c (oG:gU 106 [] _)]<|rR (gZ (jS x y p)) (by
      exact .iU (by
       unfold jS;rw[aQ (by simp[k1,k2,k3])];rw[show mg _ _ x y=_ from aQ (by rintro⟨⟨_,_⟩,⟨_,_⟩,⟨q,_⟩,⟨_,_⟩⟩;exact k8 q)]):E.le (gZ ie) (gZ (jS x y p)))))
           (fun k7=>chain [tB 74 (aP k7),.c (oG:gU 106 [] _)]<|rR (gZ (jS x y p)) (by
      exact .iU (by
       unfold jS;rw[aQ (by simp[k1,k2,k3])];rw[show mg _ _ x y=_ from aQ (by rintro⟨⟨_,_⟩,⟨_,q⟩,⟨_,_⟩,⟨_,_⟩⟩;exact k7 q)]):E.le (gZ ie) (gZ (jS x y p)))))
          (fun k6=>chain [tB 71 (aP k6),.c (oG:gU 106 [] _)]<|rR (gZ (jS x y p)) (by
      exact .iU (by
       unfold jS;rw[aQ (by simp[k1,k2,k3])];rw[show mg _ _ x y=_ from aQ (by rintro⟨⟨_,_⟩,⟨q,_⟩,⟨_,_⟩,⟨_,_⟩⟩;exact k6 q)]):E.le (gZ ie) (gZ (jS x y p)))))
         (fun k5=>chain [tB 74 (aP k5),.c (oG:gU 106 [] _)]<|rR (gZ (jS x y p)) (by
      exact .iU (by
       unfold jS;rw[aQ (by simp[k1,k2,k3])];rw[show mg _ _ x y=_ from aQ (by rintro⟨⟨_,q⟩,⟨_,_⟩,⟨_,_⟩,⟨_,_⟩⟩;exact k5 q)]):E.le (gZ ie) (gZ (jS x y p)))))
        (fun k4=>chain [tB 71 (aP k4),.c (oG:gU 106 [] _)]<|rR (gZ (jS x y p)) (by
      exact .iU (by
       unfold jS;rw[aQ (by simp[k1,k2,k3])];rw[show mg _ _ x y=_ from aQ (by rintro⟨⟨q,_⟩,⟨_,_⟩,⟨_,_⟩,⟨_,_⟩⟩;exact k4 q)]):E.le (gZ ie) (gZ (jS x y p)))))))) ah 
open Go.RowKit Fp Pu
open Go.RowKit Fp Pu
def wM(s:jr):Bool:=decide (0<=s.im/\s.im<=8/\s.gW.length<=200/\s.ij.length<=200)&&(FO s&&vz s)
def Cz(o:na):Bool:=decide (9<=o.kind/\o.kind<=13)
def Dq(s:jr):Bool:=((List.range s.gW.length).all fun i=>!Cz (s.gW.getD i iW))&&wM s
theorem aiK{s:jr}(h:Dq s=true)(hv:mz s.v):rF s.v.tape:=by
 unfold Dq at h;rw[bA]at h;intro i;by_cases hi:i<s.gW.length
 .have h1:=bH.1 h.1 i (bJ.2 hi)
  have e:s.v.tape.gW.getD i iT=(s.gW.getD i iW).v:=by
   show(s.gW.map na.v).getD i iT=_;simp[aW,hi]
  have h2:=(hv.tape.op i (by show i<(s.gW.map na.v).length;rw[cS];exact hi)).C5;rw[e]at h2 ⊢;change (s.gW.getD i iW).kind.toNat<=13 at h2;show(s.gW.getD i iW).kind.toNat<=8;unfold Cz at h1;simp only[fc,decide_eq_false_iff_not]at h1;omega
 .have e:s.v.tape.gW.getD i iT=iT:=by
   show(s.gW.map na.v).getD i iT=_;rw[aW,bV aF];rfl
  rw[e];decide
noncomputable def zY(s:jr)(x:List RI)(d:RD)(b:List RI)(p:Int):Bool:=mv s x d p&&(pW s.iz b&&qF s.v (x.map RI.iv) d.dy (b.map RI.iv) p.toNat)
theorem PO{n:Int}{b:List RI}(gb:∀ i,(b.getD i jt).jg)(h:pW n b=true):ks n.toNat (b.map RI.iv)/\jW b=ig (b.map RI.iv):=by
 unfold pW at h;rw[bA,bZ]at h;obtain⟨b1,b2⟩:=h;have pa:∀ i,i<b.length->(b.getD i jt).Ok/\(b.getD i jt).all=false:=fun i hi=>by
  have:=bH.1 b2 i (bJ.2 hi);unfold ny at this;rw[bA]at this;exact⟨su.1 this.1,by simpa using this.2⟩
 have lr:∀ i,i<b.length->(b.map RI.iv).getD i ie=(b.getD i jt).iv:=fun i hi=>by simp[aW,hi]
 refine⟨⟨by rw[cS];omega,fun i hi=>?_⟩,?_⟩
 .have hi:i<b.length:=by simpa using hi
  rw[lr i hi];exact⟨(pa i hi).1.valid,(pa i hi).2⟩
 .rw [<-MK]
  congr 1;apply eU;intro i;unfold AA;rw[cj,cj];by_cases hi:i<b.length
  .have h1:=(pa i hi).1
   have g1:=gb i;rw[bd hi];rw[aW,bd hi]at h1 g1;exact congrArg some (RI.Ok.eq (x:=b[i]) h1 g1).symm
  .rw [bV ae];rfl
open Go.RowKit Fp Pu
def Yg(s:jr)(N:Nat)(x:Nat):PS:=⟨70,true,[(3,.e (iP x)),(1,.box 1 0)],[(1,.cells 25 [(iP s.im),(jJ s.gW),(jN s.ij)])]⟩
def Yd(s:jr)(x:Nat):PS:=⟨70,true,[(3,.e (iP x)),(1,.box 1 0)],[(1,.cells 25 [(iP s.im),(jJ s.gW),(jN s.ij)])]⟩
def Yh(s:jr)(N:Nat)(x:Nat):PS:=⟨70,true,[(4,.e (iP x)),(1,.box 1 0)],[(1,.cells 25 [(iP s.im),(jJ s.gW),(jN s.ij)])]⟩
def Ye(s:jr)(x:Nat):PS:=⟨70,true,[(3,.e (iP x)),(1,.box 1 0)],[(1,.cells 25 [(iP s.im),(jJ s.gW),(jN s.ij)])]⟩
def Yi(s:jr)(N:Nat)(x:Nat):PS:=⟨70,true,[(4,.e (iP x)),(1,.box 1 0)],[(1,.cells 25 [(iP s.im),(jJ s.gW),(jN s.ij)])]⟩
def Yf(s:jr)(x:Nat):PS:=⟨70,true,[(3,.e (iP x)),(1,.box 1 0)],[(1,.cells 25 [(iP s.im),(jJ s.gW),(jN s.ij)])]⟩
def Yj(s:jr)(x:Nat):PS:=⟨70,true,[(4,.e (iP x)),(1,.box 1 0)],[(1,.cells 25 [(iP s.im),(jJ s.gW),(jN s.ij)])]⟩
def Wd(s:jr)(N:Nat)(x:Nat):PS:=⟨38,true,[(3,.e (iP x)),(1,.box 1 0)],[(1,.cells 25 [(iP s.im),(jJ s.gW),(jN s.ij)])]⟩
def V9(s:jr)(N:Nat)(x:Nat):PS:=⟨38,true,[(3,.e (iP x)),(1,.box 1 0)],[(1,.cells 25 [(iP s.im),(jJ s.gW),(jN s.ij)])]⟩
def Wa(s:jr)(N:Nat)(x:Nat):PS:=⟨38,true,[(3,.e (iP x)),(1,.box 1 0)],[(1,.cells 25 [(iP s.im),(jJ s.gW),(jN s.ij)])]⟩
def Wb(s:jr)(N:Nat)(x:Nat):PS:=⟨38,true,[(3,.e (iP x)),(1,.box 1 0)],[(1,.cells 25 [(iP s.im),(jJ s.gW),(jN s.ij)])]⟩
def Wc(s:jr)(N:Nat)(x:Nat):PS:=⟨38,true,[(3,.e (iP x)),(1,.box 1 0)],[(1,.cells 25 [(iP s.im),(jJ s.gW),(jN s.ij)])]⟩
def We(s:jr)(x:Nat):PS:=⟨38,true,[(3,.e (iP x)),(1,.box 1 0)],[(1,.cells 25 [(iP s.im),(jJ s.gW),(jN s.ij)])]⟩
theorem RZ{x:List RI}(gx0:∀ y,y ∈ x->y.jg):∀ i,(x.getD i jt).jg:=fun i=>by
 by_cases hi:i<x.length
 .rw [aW,bd hi];exact gx0 _ (cw hi)
 .rw [aW,bV ae];exact WZ
theorem Kn(n d:Int):gU 184 [(.agg [(iP n),(iP d)])] (bP (decide (n=0/\d=0))):=by
 exact tr true Tryz.call184 Tryz.func184 (.w (n=0)
  (fun k1=>chain [tB 5 (aK k1)]<|rQ (bP (d==0)) (bP (decide (n=0/\d=0))) (nc (by rw[cQ];simp[k1])))
  (fun k1=>chain [tB 5 (aJ k1)]<|rQ (bP false) (bP (decide (n=0/\d=0))) (nc (by rw[cQ];simp[k1])))) ah 
noncomputable def I6(o:na)(m:Int)(g:o.jg)(A B:Bool)(hA:A=(decide (0<=o.a/\o.a<m)))(hB:B=(decide (0<=o.b/\o.b<m))):Tr Tryz.prog Tb:=
  .w (o.kind=1)
  (fun k1=>chain [tB 28 (aK k1)]<|.w (o.a=0)
   (fun k2=>chain [tB 31 (aK k2)]<|.w (o.b=0)
    (fun k3=>chain [tB 35 (aK k3)]<|.w (o.n=0)
     (fun k4=>chain [tB 40 (aK k4),.c (FH o.cn o.cd)]<|rQ (bP (lL o.cn o.cd)) (bP (jF o m)) (kU))
     (fun k4=>chain [tB 40 (aJ k4)]<|rQ (bP false) (bP (jF o m)) (kU)))
    (fun k3=>chain [tB 35 (aJ k3)]<|rQ (bP false) (bP (jF o m)) (kU)))
   (fun k2=>chain [tB 31 (aJ k2)]<|rQ (bP false) (bP (jF o m)) (kU)))
  (fun k1=>chain [tB 28 (aJ k1),.j 94 ⟨112,true,[(47,.e (bP (decide (3<=o.kind/\o.kind<=6)))),(26,.e (iP o.kind)),(6,.e (bP B)),(5,.e (bP A)),(2,.box 2 0)],[(2,.cells 99 [(iP o.kind),(iP o.a),(iP o.b),(iP o.n),(iP o.cn),(iP o.cd)])]⟩
   (.w (o.kind=3)
    (fun m1=>chain [.v 47 (.bool (aK m1))]<|.e (chain [tB 47 (oi an:true=(decide (3<=o.kind/\o.kind<=6)))]<|.nil))
    (fun m1=>chain [.v 47 (.bool (aJ m1))]<|.w (o.kind=4)
     (fun m2=>chain [tB 49 (aK m2)]<|.e (chain [tB 47 (oi an:true=(decide (3<=o.kind/\o.kind<=6)))]<|.nil))
     (fun m2=>chain [tB 49 (aJ m2)]<|.w (o.kind=5)
      (fun m3=>chain [tB 50 (aK m3)]<|.e (chain [tB 47 (oi an:true=(decide (3<=o.kind/\o.kind<=6)))]<|.nil))
      (fun m3=>chain [tB 50 (aJ m3)]<|.e (chain [tB 47 (oi an:(o.kind==6)=(decide (3<=o.kind/\o.kind<=6)))]<|.nil)))))]<|.w (3<=o.kind/\o.kind<=6)
   (fun k2=>chain [.v 47 (.bool (aS k2))]<|.w (A=true)
    (fun k3=>chain [tB 52 (k3)]<|.w (B=true)
     (fun k4=>chain [tB 54 (k4)]<|.w (o.n=0)
      (fun k5=>chain [tB 59 (aK k5),.c (Kn o.cn o.cd)]<|rQ (bP (decide (o.cn=0/\o.cd=0))) (bP (jF o m)) (kU))
      (fun k5=>chain [tB 59 (aJ k5)]<|rQ (bP false) (bP (jF o m)) (kU)))
     (fun k4=>chain [tB 54 (aM k4)]<|rQ (bP false) (bP (jF o m)) (kU)))
    (fun k3=>chain [tB 52 (aM k3)]<|rQ (bP false) (bP (jF o m)) (kU)))
   (fun k2=>chain [.v 47 (.bool (aT k2)),.j 132 ⟨112,true,[(66,.e (bP (decide (o.kind=7\/9<=o.kind/\o.kind<=13)))),(26,.e (iP o.kind)),(5,.e (bP A)),(2,.box 2 0)],[(2,.cells 99 [(iP o.kind),(iP o.a),(iP o.b),(iP o.n),(iP o.cn),(iP o.cd)])]⟩
   (.w (o.kind=7)
    (fun m1=>chain [.v 66 (.bool (aK m1))]<|.e (chain [tB 66 (oi an:true=(decide (o.kind=7\/9<=o.kind/\o.kind<=13)))]<|.nil))
    (fun m1=>chain [.v 66 (.bool (aJ m1))]<|.w (o.kind=9)
     (fun m2=>chain [tB 68 (aK m2)]<|.e (chain [tB 66 (oi an:true=(decide (o.kind=7\/9<=o.kind/\o.kind<=13)))]<|.nil))
     (fun m2=>chain [tB 68 (aJ m2)]<|.w (o.kind=10)
      (fun m3=>chain [tB 69 (aK m3)]<|.e (chain [tB 66 (oi an:true=(decide (o.kind=7\/9<=o.kind/\o.kind<=13)))]<|.nil))
      (fun m3=>chain [tB 69 (aJ m3)]<|.w (o.kind=11)
       (fun m4=>chain [tB 70 (aK m4)]<|.e (chain [tB 66 (oi an:true=(decide (o.kind=7\/9<=o.kind/\o.kind<=13)))]<|.nil))
       (fun m4=>chain [tB 70 (aJ m4)]<|.w (o.kind=12)
        (fun m5=>chain [tB 71 (aK m5)]<|.e (chain [tB 66 (oi an:true=(decide (o.kind=7\/9<=o.kind/\o.kind<=13)))]<|.nil))
        (fun m5=>chain [tB 71 (aJ m5)]<|.e (chain [tB 66 (oi an:(o.kind==13)=(decide (o.kind=7\/9<=o.kind/\o.kind<=13)))]<|.nil)))))))]<|.w (o.kind=7\/9<=o.kind/\o.kind<=13)
    (fun k3=>chain [.v 66 (.bool (aS k3))]<|.w (A=true)
     (fun k4=>chain [tB 73 (k4)]<|.w (o.b=0)
      (fun k5=>chain [tB 77 (aK k5)]<|.w (o.n=0)
       (fun k6=>chain [tB 82 (aK k6),.c (Kn o.cn o.cd)]<|rQ (bP (decide (o.cn=0/\o.cd=0))) (bP (jF o m)) (kU))
       (fun k6=>chain [tB 82 (aJ k6)]<|rQ (bP false) (bP (jF o m)) (kU)))
      (fun k5=>chain [tB 77 (aJ k5)]<|rQ (bP false) (bP (jF o m)) (kU)))
     (fun k4=>chain [tB 73 (aM k4)]<|rQ (bP false) (bP (jF o m)) (kU)))
    (fun k3=>chain [.v 66 (.bool (aT k3))]<|.w (o.kind=8)
     (fun k4=>chain [tB 90 (aK k4)]<|.w (A=true)
      (fun k5=>chain [tB 91 (k5)]<|.w (o.b=0)
       (fun k6=>chain [tB 95 (aK k6)]<|.w (0<=o.n)
        (fun k7=>chain [tB 100 (aS k7)]<|.w (o.n<=16)
         (fun k8=>chain [tB 105 (aS k8),.c (Kn o.cn o.cd)]<|rQ (bP (decide (o.cn=0/\o.cd=0))) (bP (jF o m)) (kU))
         (fun k8=>chain [tB 105 (aT k8)]<|rQ (bP false) (bP (jF o m)) (kU)))
        (fun k7=>chain [tB 100 (aT k7)]<|rQ (bP false) (bP (jF o m)) (kU)))
       (fun k6=>chain [tB 95 (aJ k6)]<|rQ (bP false) (bP (jF o m)) (kU)))
      (fun k5=>chain [tB 91 (aM k5)]<|rQ (bP false) (bP (jF o m)) (kU)))
     (fun k4=>chain [tB 90 (aJ k4)]<|rQ (bP false) (bP (jF o m)) (kU)))))
theorem Fo(o:na)(m:Int)(g:o.jg):gU 147 [(BV o),(iP m)] (bP (jF o m)):=by
 exact tr true Tryz.call147 Tryz.func147 (.w (0<=o.a)
  (fun k1=>chain [tB 9 (aS k1)]<|.w (0<=o.b)
   (fun k2=>chain [tB 18 (aS k2)]<|I6 o m g (decide (o.a<m)) (decide (o.b<m)) (by simp[k1]) (by simp[k2]))
   (fun k2=>chain [tB 18 (aT k2)]<|I6 o m g (decide (o.a<m)) false (by simp[k1]) (by simp[k2])))
  (fun k1=>chain [tB 9 (aT k1)]<|.w (0<=o.b)
   (fun k2=>chain [tB 18 (aS k2)]<|I6 o m g false (decide (o.b<m)) (by simp[k1]) (by simp[k2]))
   (fun k2=>chain [tB 18 (aT k2)]<|I6 o m g false false (by simp[k1]) (by simp[k2])))) ah 
theorem alC(s:jr)(g:s.jg)(sm:s.ml)(hc:¬(0<=s.im/\s.im<=8/\s.gW.length<=200/\s.ij.length<=200)):gU 96 [(.agg [(iP s.im),(jJ s.gW),(jN s.ij)])] (bP false):=by
 have sp:=sm.params;have so:=sm.ij;have sq:=sm.gW;exact tr true Tryz.call96 Tryz.func96 (.w (s.im<0)
  (fun k1=>chain [tB 7 (aS k1)]<|.nil)
  (fun k1=>chain [tB 7 (aT k1)]<|.w (8<s.im)
   (fun k2=>chain [tB 11 (aS k2)]<|.nil)
   (fun k2=>chain [tB 11 (aT k2)]<|.w (200<(s.gW.length:Int))
    (fun k3=>chain [tB 17 (aS k3)]<|.nil)
    (fun k3=>chain [tB 17 (aT k3)]<|.w (200<(s.ij.length:Int))
     (fun k4=>chain [tB 23 (aS k4)]<|.nil)
     (fun k4=>.x ae))))) ah 
theorem alD(s:jr)(g:s.jg)(sm:s.ml)(i0:0<=s.im)(i8:s.im<=8)(l1:s.gW.length<=200)(l2:s.ij.length<=200)(N:Nat)(mG:N<s.gW.length)(iH:∀ k,k<N->(jF (s.gW.getD k iW) (s.im+(k:Int)))=true)(hN:(jF (s.gW.getD N iW) (s.im+(N:Int)))=false):gU 96 [(.agg [(iP s.im),(jJ s.gW),(jN s.ij)])] (bP false):=by
 have sp:=sm.params;have so:=sm.ij;have sq:=sm.gW;exact tr true Tryz.call96 Tryz.func96 (chain [tF 7 (s.im<0) ae,tF 11 (8<s.im) ae,tF 17 (200<(s.gW.length:Int)) ae,tF 23 (200<(s.ij.length:Int)) ae,.s (Sp.jx (Yg s N) 0 N ae (fun x hx ke=>by
    have ng:=g.gW x;exact iB (chain [tT 29 ((x:Int)<(s.gW.length:Int)) ae,iX ((x:Int)) (s.gW.length) ae,iq (s.im+(x:Int)) ae,.c (Fo (s.gW.getD x iW) (s.im+(x:Int)) ng),tB 42 (by rw[iH x ae];rfl:(!(jF (s.gW.getD x iW) (s.im+(x:Int))))=false),iq ((x:Int)+1) ae]<|.nil) ah)
  (fun hx=>by
    have ng:=g.gW N;exact iB (chain [tT 29 ((N:Int)<(s.gW.length:Int)) ae,iX ((N:Int)) (s.gW.length) ae,iq (s.im+(N:Int)) ae,.c (Fo (s.gW.getD N iW) (s.im+(N:Int)) ng),tB 42 (by rw[hN];rfl:(!(jF (s.gW.getD N iW) (s.im+(N:Int))))=true)]<|.nil) ah) ak:ju 4 Tryz.f96 (Yg s N 0) .ret ⟨70,true,[(2,.e (bP false))],[]⟩) .nil]<|.nil) ah 
theorem alE(s:jr)(g:s.jg)(sm:s.ml)(i0:0<=s.im)(i8:s.im<=8)(l1:s.gW.length<=200)(l2:s.ij.length<=200)(iH:∀ k,k<s.gW.length->(jF (s.gW.getD k iW) (s.im+(k:Int)))=true)(N:Nat)(mG:N<s.ij.length)(mT:∀ k,k<N->0<=(s.ij.getD k 0)/\(s.ij.getD k 0)<s.im+(s.gW.length:Int))(hN:(s.ij.getD N 0)<0):gU 96 [(.agg [(iP s.im),(jJ s.gW),(jN s.ij)])] (bP false):=by
 have sp:=sm.params;have so:=sm.ij;have sq:=sm.gW;exact tr true Tryz.call96 Tryz.func96 (chain [tF 7 (s.im<0) ae,tF 11 (8<s.im) ae,tF 17 (200<(s.gW.length:Int)) ae,tF 23 (200<(s.ij.length:Int)) ae,.s (Sp.jx (Yd s) 0 s.gW.length ae (fun x hx ke=>by
    have ng:=g.gW x;exact iB (chain [tT 29 ((x:Int)<(s.gW.length:Int)) ae,iX ((x:Int)) (s.gW.length) ae,iq (s.im+(x:Int)) ae,.c (Fo (s.gW.getD x iW) (s.im+(x:Int)) ng),tB 42 (by rw[iH x ae];rfl:(!(jF (s.gW.getD x iW) (s.im+(x:Int))))=false),iq ((x:Int)+1) ae]<|.nil) ah)
  (fun hx=>by
    exact iB (chain [tF 29 ((s.gW.length:Int)<(s.gW.length:Int)) ae]<|.nil) ah) ak:ju 4 Tryz.f96 (Yd s 0) (.exit 0) ⟨70,true,[(1,.box 1 0)],[(1,.cells 25 [(iP s.im),(jJ s.gW),(jN s.ij)])]⟩) .nil,.s (Sp.jx (Yh s N) 0 N ae (fun x hx ke=>by
    have Bm:=mT x ae;exact iB (chain [tT 47 ((x:Int)<(s.ij.length:Int)) ae,iX ((x:Int)) (s.ij.length) ae,tF 55 ((s.ij.getD x 0)<0) ae,iX ((x:Int)) (s.ij.length) ae,
     iq (s.im+(s.gW.length:Int)) ae,tF 68 ((s.im+(s.gW.length:Int))<=(s.ij.getD x 0)) ae,iq ((x:Int)+1) ae]<|.nil) ah)
  (fun hx=>by
    exact iB (chain [tT 47 ((N:Int)<(s.ij.length:Int)) ae,iX ((N:Int)) (s.ij.length) ae,tB 55 (aS hN)]<|.nil) ah) ak:ju 9 Tryz.f96 (Yh s N 0) .ret ⟨70,true,[(2,.e (bP false))],[]⟩) .nil]<|.nil) ah 
theorem alF(s:jr)(g:s.jg)(sm:s.ml)(i0:0<=s.im)(i8:s.im<=8)(l1:s.gW.length<=200)(l2:s.ij.length<=200)(iH:∀ k,k<s.gW.length->(jF (s.gW.getD k iW) (s.im+(k:Int)))=true)(N:Nat)(mG:N<s.ij.length)(mT:∀ k,k<N->0<=(s.ij.getD k 0)/\(s.ij.getD k 0)<s.im+(s.gW.length:Int))(hN:0<=(s.ij.getD N 0))(hM:s.im+(s.gW.length:Int)<=(s.ij.getD N 0)):gU 96 [(.agg [(iP s.im),(jJ s.gW),(jN s.ij)])] (bP false):=by
 have sp:=sm.params;have so:=sm.ij;have sq:=sm.gW;exact tr true Tryz.call96 Tryz.func96 (chain [tF 7 (s.im<0) ae,tF 11 (8<s.im) ae,tF 17 (200<(s.gW.length:Int)) ae,tF 23 (200<(s.ij.length:Int)) ae,.s (Sp.jx (Ye s) 0 s.gW.length ae (fun x hx ke=>by
    have ng:=g.gW x;exact iB (chain [tT 29 ((x:Int)<(s.gW.length:Int)) ae,iX ((x:Int)) (s.gW.length) ae,iq (s.im+(x:Int)) ae,.c (Fo (s.gW.getD x iW) (s.im+(x:Int)) ng),tB 42 (by rw[iH x ae];rfl:(!(jF (s.gW.getD x iW) (s.im+(x:Int))))=false),iq ((x:Int)+1) ae]<|.nil) ah)
  (fun hx=>by
    exact iB (chain [tF 29 ((s.gW.length:Int)<(s.gW.length:Int)) ae]<|.nil) ah) ak:ju 4 Tryz.f96 (Ye s 0) (.exit 0) ⟨70,true,[(1,.box 1 0)],[(1,.cells 25 [(iP s.im),(jJ s.gW),(jN s.ij)])]⟩) .nil,.s (Sp.jx (Yi s N) 0 N ae (fun x hx ke=>by
    have Bm:=mT x ae;exact iB (chain [tT 47 ((x:Int)<(s.ij.length:Int)) ae,iX ((x:Int)) (s.ij.length) ae,tF 55 ((s.ij.getD x 0)<0) ae,iX ((x:Int)) (s.ij.length) ae,
     iq (s.im+(s.gW.length:Int)) ae,tF 68 ((s.im+(s.gW.length:Int))<=(s.ij.getD x 0)) ae,iq ((x:Int)+1) ae]<|.nil) ah)
  (fun hx=>by
    exact iB (chain [tT 47 ((N:Int)<(s.ij.length:Int)) ae,iX ((N:Int)) (s.ij.length) ae,tF 55 ((s.ij.getD N 0)<0) ae,iX ((N:Int)) (s.ij.length) ae,
    iq (s.im+(s.gW.length:Int)) ae,tB 68 (aS hM)]<|.nil) ah) ak:ju 9 Tryz.f96 (Yi s N 0) .ret ⟨70,true,[(2,.e (bP false))],[]⟩) .nil]<|.nil) ah 
theorem alG(s:jr)(g:s.jg)(sm:s.ml)(i0:0<=s.im)(i8:s.im<=8)(l1:s.gW.length<=200)(l2:s.ij.length<=200)(iH:∀ k,k<s.gW.length->(jF (s.gW.getD k iW) (s.im+(k:Int)))=true)(mT:∀ k,k<s.ij.length->0<=(s.ij.getD k 0)/\(s.ij.getD k 0)<s.im+(s.gW.length:Int)):gU 96 [(.agg [(iP s.im),(jJ s.gW),(jN s.ij)])] (bP true):=by
 have sp:=sm.params;have so:=sm.ij;have sq:=sm.gW;exact tr true Tryz.call96 Tryz.func96 (chain [tF 7 (s.im<0) ae,tF 11 (8<s.im) ae,tF 17 (200<(s.gW.length:Int)) ae,tF 23 (200<(s.ij.length:Int)) ae,.s (Sp.jx (Yf s) 0 s.gW.length ae (fun x hx ke=>by
    have ng:=g.gW x;exact iB (chain [tT 29 ((x:Int)<(s.gW.length:Int)) ae,iX ((x:Int)) (s.gW.length) ae,iq (s.im+(x:Int)) ae,.c (Fo (s.gW.getD x iW) (s.im+(x:Int)) ng),tB 42 (by rw[iH x ae];rfl:(!(jF (s.gW.getD x iW) (s.im+(x:Int))))=false),iq ((x:Int)+1) ae]<|.nil) ah)
  (fun hx=>by
    exact iB (chain [tF 29 ((s.gW.length:Int)<(s.gW.length:Int)) ae]<|.nil) ah) ak:ju 4 Tryz.f96 (Yf s 0) (.exit 0) ⟨70,true,[(1,.box 1 0)],[(1,.cells 25 [(iP s.im),(jJ s.gW),(jN s.ij)])]⟩) .nil,.s (Sp.jx (Yj s) 0 s.ij.length ae (fun x hx ke=>by
    have Bm:=mT x ae;exact iB (chain [tT 47 ((x:Int)<(s.ij.length:Int)) ae,iX ((x:Int)) (s.ij.length) ae,tF 55 ((s.ij.getD x 0)<0) ae,iX ((x:Int)) (s.ij.length) ae,
     iq (s.im+(s.gW.length:Int)) ae,tF 68 ((s.im+(s.gW.length:Int))<=(s.ij.getD x 0)) ae,iq ((x:Int)+1) ae]<|.nil) ah)
  (fun hx=>by
    exact iB (chain [tF 47 ((s.ij.length:Int)<(s.ij.length:Int)) ae]<|.nil) ah) ak:ju 9 Tryz.f96 (Yj s 0) (.exit 2) ⟨70,true,[],[]⟩) .nil]<|.nil) ah 
theorem alH(s:jr)(g:s.jg)(sm:s.ml):gU 96 [(.agg [(iP s.im),(jJ s.gW),(jN s.ij)])] (bP (wM s)):=by
 by_cases c1:0<=s.im/\s.im<=8/\s.gW.length<=200/\s.ij.length<=200
 rotate_left
 .rw [show wM s=false by unfold wM;rw[aT c1];rfl]
  exact alC s g sm c1
 obtain⟨i0,i8,l1,l2⟩:=c1;by_cases c2:FO s=true
 rotate_left
 .rw [show wM s=false by unfold wM;rw[aM c2];simp]
  obtain⟨N,n1,n2,n3⟩:=xP c2;exact alD s g sm i0 i8 l1 l2 N n1 (fun k hk=>by simpa using n3 k hk) (by simpa using n2)
 have iH:∀ k,k<s.gW.length->jF (s.gW.getD k iW) (s.im+(k:Int))=true:=fun k hk=>bH.1 c2 k (bJ.2 hk)
 by_cases c3:vz s=true
 .rw [show wM s=true by unfold wM;rw[aS (⟨i0,i8,l1,l2⟩:_/\_),c2,c3];rfl]
  exact alG s g sm i0 i8 l1 l2 iH fun k hk=>ct (bH.1 c3 k (bJ.2 hk))
 .rw [show wM s=false by unfold wM;rw[aM c3];simp]
  obtain⟨N,n1,n2,n3⟩:=xP c3;have mT:∀ k,k<N->0<=s.ij.getD k 0/\s.ij.getD k 0<s.im+(s.gW.length:Int):=fun k hk=>by simpa[vq]using n3 k hk
  have hN:¬(0<=s.ij.getD N 0/\s.ij.getD N 0<s.im+(s.gW.length:Int)):=fun q=>by
   rw[show vq s (s.ij.getD N 0)=true from aS q]at n2;cases n2
  by_cases h0:s.ij.getD N 0<0
  .exact alE s g sm i0 i8 l1 l2 iH N n1 mT h0
  .exact alF s g sm i0 i8 l1 l2 iH N n1 mT ae ae 
theorem aiG(s:jr)(g:s.jg)(sm:s.ml)(N:Nat)(mG:N<s.gW.length)(iH:∀ k,k<N->¬(9<=(s.gW.getD k iW).kind/\(s.gW.getD k iW).kind<=13))(hN:(s.gW.getD N iW).kind=9):gU 50 [(.agg [(iP s.im),(jJ s.gW),(jN s.ij)])] (bP false):=by
 have sp:=sm.params;have so:=sm.ij;have sq:=sm.gW;exact tr true Tryz.call50 Tryz.func50 (chain [.s (Sp.jx (Wd s N) 0 N ae (fun x hx ke=>by
    have hk:=iH x ae;exact iB (chain [tT 9 ((x:Int)<(s.gW.length:Int)) ae,iX ((x:Int)) (s.gW.length) ae,tB 19 (aJ ae:((s.gW.getD x iW).kind==9)=false),tB 22 (aJ ae:((s.gW.getD x iW).kind==10)=false),tB 26 (aJ ae:((s.gW.getD x iW).kind==11)=false),tB 30 (aJ ae:((s.gW.getD x iW).kind==12)=false),tB 34 (aJ ae:((s.gW.getD x iW).kind==13)=false),iq ((x:Int)+1) ae]<|.nil) ah)
  (fun hx=>by
    exact iB (chain [tT 9 ((N:Int)<(s.gW.length:Int)) ae,iX ((N:Int)) (s.gW.length) ae,tB 19 (aK hN)]<|.nil) ah) ak:ju 2 Tryz.f50 (Wd s N 0) .ret ⟨38,true,[(2,.e (bP false))],[]⟩) .nil]<|.nil) ah 
theorem aiC(s:jr)(g:s.jg)(sm:s.ml)(N:Nat)(mG:N<s.gW.length)(iH:∀ k,k<N->¬(9<=(s.gW.getD k iW).kind/\(s.gW.getD k iW).kind<=13))(hN:(s.gW.getD N iW).kind=10):gU 50 [(.agg [(iP s.im),(jJ s.gW),(jN s.ij)])] (bP false):=by
 have sp:=sm.params;have so:=sm.ij;have sq:=sm.gW;exact tr true Tryz.call50 Tryz.func50 (chain [.s (Sp.jx (V9 s N) 0 N ae (fun x hx ke=>by
    have hk:=iH x ae;exact iB (chain [tT 9 ((x:Int)<(s.gW.length:Int)) ae,iX ((x:Int)) (s.gW.length) ae,tB 19 (aJ ae:((s.gW.getD x iW).kind==9)=false),tB 22 (aJ ae:((s.gW.getD x iW).kind==10)=false),tB 26 (aJ ae:((s.gW.getD x iW).kind==11)=false),tB 30 (aJ ae:((s.gW.getD x iW).kind==12)=false),tB 34 (aJ ae:((s.gW.getD x iW).kind==13)=false),iq ((x:Int)+1) ae]<|.nil) ah)
  (fun hx=>by
    exact iB (chain [tT 9 ((N:Int)<(s.gW.length:Int)) ae,iX ((N:Int)) (s.gW.length) ae,tB 19 (aJ ae:((s.gW.getD N iW).kind==9)=false),tB 22 (aK hN)]<|.nil) ah) ak:ju 2 Tryz.f50 (V9 s N 0) .ret ⟨38,true,[(2,.e (bP false))],[]⟩) .nil]<|.nil) ah 
theorem aiD(s:jr)(g:s.jg)(sm:s.ml)(N:Nat)(mG:N<s.gW.length)(iH:∀ k,k<N->¬(9<=(s.gW.getD k iW).kind/\(s.gW.getD k iW).kind<=13))(hN:(s.gW.getD N iW).kind=11):gU 50 [(.agg [(iP s.im),(jJ s.gW),(jN s.ij)])] (bP false):=by
 have sp:=sm.params;have so:=sm.ij;have sq:=sm.gW;exact tr true Tryz.call50 Tryz.func50 (chain [.s (Sp.jx (Wa s N) 0 N ae (fun x hx ke=>by
    have hk:=iH x ae;exact iB (chain [tT 9 ((x:Int)<(s.gW.length:Int)) ae,iX ((x:Int)) (s.gW.length) ae,tB 19 (aJ ae:((s.gW.getD x iW).kind==9)=false),tB 22 (aJ ae:((s.gW.getD x iW).kind==10)=false),tB 26 (aJ ae:((s.gW.getD x iW).kind==11)=false),tB 30 (aJ ae:((s.gW.getD x iW).kind==12)=false),tB 34 (aJ ae:((s.gW.getD x iW).kind==13)=false),iq ((x:Int)+1) ae]<|.nil) ah)
  (fun hx=>by
    exact iB (chain [tT 9 ((N:Int)<(s.gW.length:Int)) ae,iX ((N:Int)) (s.gW.length) ae,tB 19 (aJ ae:((s.gW.getD N iW).kind==9)=false),tB 22 (aJ ae:((s.gW.getD N iW).kind==10)=false),tB 26 (aK hN)]<|.nil) ah) ak:ju 2 Tryz.f50 (Wa s N 0) .ret ⟨38,true,[(2,.e (bP false))],[]⟩) .nil]<|.nil) ah 
theorem aiE(s:jr)(g:s.jg)(sm:s.ml)(N:Nat)(mG:N<s.gW.length)(iH:∀ k,k<N->¬(9<=(s.gW.getD k iW).kind/\(s.gW.getD k iW).kind<=13))(hN:(s.gW.getD N iW).kind=12):gU 50 [(.agg [(iP s.im),(jJ s.gW),(jN s.ij)])] (bP false):=by
 have sp:=sm.params;have so:=sm.ij;have sq:=sm.gW;exact tr true Tryz.call50 Tryz.func50 (chain [.s (Sp.jx (Wb s N) 0 N ae (fun x hx ke=>by
    have hk:=iH x ae;exact iB (chain [tT 9 ((x:Int)<(s.gW.length:Int)) ae,iX ((x:Int)) (s.gW.length) ae,tB 19 (aJ ae:((s.gW.getD x iW).kind==9)=false),tB 22 (aJ ae:((s.gW.getD x iW).kind==10)=false),tB 26 (aJ ae:((s.gW.getD x iW).kind==11)=false),tB 30 (aJ ae:((s.gW.getD x iW).kind==12)=false),tB 34 (aJ ae:((s.gW.getD x iW).kind==13)=false),iq ((x:Int)+1) ae]<|.nil) ah)
  (fun hx=>by
    exact iB (chain [tT 9 ((N:Int)<(s.gW.length:Int)) ae,iX ((N:Int)) (s.gW.length) ae,tB 19 (aJ ae:((s.gW.getD N iW).kind==9)=false),tB 22 (aJ ae:((s.gW.getD N iW).kind==10)=false),tB 26 (aJ ae:((s.gW.getD N iW).kind==11)=false),tB 30 (aK hN)]<|.nil) ah) ak:ju 2 Tryz.f50 (Wb s N 0) .ret ⟨38,true,[(2,.e (bP false))],[]⟩) .nil]<|.nil) ah 
theorem aiF(s:jr)(g:s.jg)(sm:s.ml)(N:Nat)(mG:N<s.gW.length)(iH:∀ k,k<N->¬(9<=(s.gW.getD k iW).kind/\(s.gW.getD k iW).kind<=13))(hN:(s.gW.getD N iW).kind=13):gU 50 [(.agg [(iP s.im),(jJ s.gW),(jN s.ij)])] (bP false):=by
 have sp:=sm.params;have so:=sm.ij;have sq:=sm.gW;exact tr true Tryz.call50 Tryz.func50 (chain [.s (Sp.jx (Wc s N) 0 N ae (fun x hx ke=>by
    have hk:=iH x ae;exact iB (chain [tT 9 ((x:Int)<(s.gW.length:Int)) ae,iX ((x:Int)) (s.gW.length) ae,tB 19 (aJ ae:((s.gW.getD x iW).kind==9)=false),tB 22 (aJ ae:((s.gW.getD x iW).kind==10)=false),tB 26 (aJ ae:((s.gW.getD x iW).kind==11)=false),tB 30 (aJ ae:((s.gW.getD x iW).kind==12)=false),tB 34 (aJ ae:((s.gW.getD x iW).kind==13)=false),iq ((x:Int)+1) ae]<|.nil) ah)
  (fun hx=>by
    exact iB (chain [tT 9 ((N:Int)<(s.gW.length:Int)) ae,iX ((N:Int)) (s.gW.length) ae,tB 19 (aJ ae:((s.gW.getD N iW).kind==9)=false),tB 22 (aJ ae:((s.gW.getD N iW).kind==10)=false),tB 26 (aJ ae:((s.gW.getD N iW).kind==11)=false),tB 30 (aJ ae:((s.gW.getD N iW).kind==12)=false),tB 34 (aK hN)]<|.nil) ah) ak:ju 2 Tryz.f50 (Wc s N 0) .ret ⟨38,true,[(2,.e (bP false))],[]⟩) .nil]<|.nil) ah 
theorem aiH(s:jr)(g:s.jg)(sm:s.ml)(iH:∀ k,k<s.gW.length->¬(9<=(s.gW.getD k iW).kind/\(s.gW.getD k iW).kind<=13)):gU 50 [(.agg [(iP s.im),(jJ s.gW),(jN s.ij)])] (bP (wM s)):=by
 have sp:=sm.params;have so:=sm.ij;have sq:=sm.gW;exact tr true Tryz.call50 Tryz.func50 (chain [.s (Sp.jx (We s) 0 s.gW.length ae (fun x hx ke=>by
    have hk:=iH x ae;exact iB (chain [tT 9 ((x:Int)<(s.gW.length:Int)) ae,iX ((x:Int)) (s.gW.length) ae,tB 19 (aJ ae:((s.gW.getD x iW).kind==9)=false),tB 22 (aJ ae:((s.gW.getD x iW).kind==10)=false),tB 26 (aJ ae:((s.gW.getD x iW).kind==11)=false),tB 30 (aJ ae:((s.gW.getD x iW).kind==12)=false),tB 34 (aJ ae:((s.gW.getD x iW).kind==13)=false),iq ((x:Int)+1) ae]<|.nil) ah)
  (fun hx=>by
    exact iB (chain [tF 9 ((s.gW.length:Int)<(s.gW.length:Int)) ae]<|.nil) ah) ak:ju 2 Tryz.f50 (We s 0) (.exit 0) ⟨38,true,[(1,.box 1 0)],[(1,.cells 25 [(iP s.im),(jJ s.gW),(jN s.ij)])]⟩) .nil,.c (alH s g sm)]<|.nil) ah 
theorem aiI(s:jr)(g:s.jg)(sm:s.ml):gU 50 [(.agg [(iP s.im),(jJ s.gW),(jN s.ij)])] (bP (Dq s)):=by
 unfold Dq;by_cases c:((List.range s.gW.length).all fun i=>!Cz (s.gW.getD i iW))=true
 .rw [c,dZ]
  exact aiH s g sm fun i hi q=>by
   have h:=bH.1 c i (bJ.2 hi);rw[show Cz (s.gW.getD i iW)=true from aS q]at h;cases h
 .rw [aM c,Bool.false_and]
  obtain⟨N,n1,n2,n3⟩:=xP c;have iH:∀ k,k<N->¬(9<=(s.gW.getD k iW).kind/\(s.gW.getD k iW).kind<=13):=fun k hk=>by simpa[Cz]using n3 k hk
  have hN:9<=(s.gW.getD N iW).kind/\(s.gW.getD N iW).kind<=13:=by simpa[Cz]using n2
  rcases(show(s.gW.getD N iW).kind=9\/(s.gW.getD N iW).kind=10\/(s.gW.getD N iW).kind=11\/(s.gW.getD N iW).kind=12\/(s.gW.getD N iW).kind=13 by omega)with h|h|h|h|h
  .exact aiG s g sm N n1 iH h
  .exact aiC s g sm N n1 iH h
  .exact aiD s g sm N n1 iH h
  .exact aiE s g sm N n1 iH h
  .exact aiF s g sm N n1 iH h
theorem afW(s:jr)(g:s.jg)(sm:s.ml):gU 16 [(kZ s)] (bP (Dq s)):=by
 exact tr true Tryz.call16 Tryz.func16 (chain [.c (aiI s g sm)]<|.nil) ah 
theorem afc(s:jr)(g:s.jg)(sm:s.ml)(x:List RI)(gx:∀ i,(x.getD i jt).jg)(ln:x.length<=1000)(d:RD)(gd:d.jg)(p:Int)(b:List RI)(gb:∀ i,(b.getD i jt).jg)(nE:b.length<=1000)(hf:mv s x d p=false):gU 13 [(kZ s),(jW x),(mr d),(jW b),(iP p)] (.v (.slice none 0 0)):=by
 exact tr true Tryz.call13 Tryz.func13 (chain [.c (by rw[<-hf];exact RG s g sm x gx ln d gd p:gU 41 [(kZ s),(jW x),(mr d),(iP p)] (bP false))]<|.nil) ah 
theorem afd(s:jr)(g:s.jg)(sm:s.ml)(x:List RI)(gx:∀ i,(x.getD i jt).jg)(ln:x.length<=1000)(d:RD)(gd:d.jg)(p:Int)(b:List RI)(gb:∀ i,(b.getD i jt).jg)(nE:b.length<=1000)(hf:mv s x d p=true)(vZ:pW s.iz b=false):gU 13 [(kZ s),(jW x),(mr d),(jW b),(iP p)] (.v (.slice none 0 0)):=by
 exact tr true Tryz.call13 Tryz.func13 (chain [.c (by rw[<-hf];exact RG s g sm x gx ln d gd p:gU 41 [(kZ s),(jW x),(mr d),(iP p)] (bP true)),.c (by rw[<-vZ];exact Kk s b gb nE:gU 42 [(kZ s),(jW b)] (bP false))]<|.nil) ah 
theorem S6(s:jr)(x:List RI)(d:RD)(b:List RI)(p:Int)(hi:gU 13 [(kZ s),(jW x),(mr d),(jW b),(iP p)] (.v (.slice none 0 0))):gU 23 [(kZ s),(jW x),(mr d),(jW b),(iP p)] (bP false):=by
 exact tr true Tryz.call23 Tryz.func23 (chain [.c (hi:gU 13 [(kZ s),(jW x),(mr d),(jW b),(iP p)] _),tB 20 (ag:(decide ((0:Int)<0))=false)]<|.nil) ah 
theorem S7(s:jr)(g:s.jg)(sm:s.ml)(x:List RI)(gx:∀ i,(x.getD i jt).jg)(ln:x.length<=1000)(d:RD)(gd:d.jg)(p:Int)(b:List RI)(gb:∀ i,(b.getD i jt).jg)(nE:b.length<=1000):gU 23 [(kZ s),(jW x),(mr d),(jW b),(iP p)] (bP (zY s x d b p)):=by
 unfold zY;cases hf:mv s x d p with
 |false=>exact S6 s x d b p (afc s g sm x gx ln d gd p b gb nE hf)
 |true=>
  cases vZ:pW s.iz b with
  |false=>exact S6 s x d b p (afd s g sm x gx ln d gd p b gb nE hf vZ)
  |true=>
   obtain⟨o1,o2,o3,o4,p1,p2,e1,e2,e3⟩:=RH g gx gd hf;obtain⟨o5,e4⟩:=PO gb vZ;rw[e1,e2,e3,e4];obtain⟨q,rfl⟩:=dJ (show 0<=p by omega);exact u9 s.v (x.map RI.iv) d.dy (b.map RI.iv) q o1 o2 o3 o4 o5 ae ae 
end Go.Proofs.YtdgnpeddgdclhaaGreatDoor
namespace Go.Proofs.YtdgnpeddgdclhaaGreatDoor.Fp
theorem R0{T p:Nat}{E:Int}(hT:ib T=p)(hp:1<=p){g:Rat}(hg:GM p g):g<=(T:Rat)*P2 E\/((T+1:Nat):Rat)*P2 E<=g:=by
 obtain⟨gm,ge,b1,b2,b3,rfl⟩:=hg;by_cases hc:E<=ge
 .rw [sn (K:=E) hc (bX _),sn (K:=E) (bX _) hc,show(E-E).toNat=0 by omega]
  omega
 .left
  rw[sn (K:=ge) (bX _) ae,show(ge-ge).toNat=0 by omega,bN,bO];have h1:gm<2^p:=kO.1 b1;have h2:2^(p-1)<=T:=sk.1 ae;have h3:2^1<=2^(E-ge).toNat:=bh ag ae;have h4:=cK h2 h3;rw[<-aV,show p-1+1=p by omega]at h4;omega
theorem ag5{T p:Nat}{E:Int}(hT:ib T=p)(hp:1<=p)(h1:-16384<=E)(h2:(p:Int)+E<=16384){v:Rat}(xn:(T:Rat)*P2 E<=v)(rV:v<((T+1:Nat):Rat)*P2 E):Dn p v (canon false T E) 0:=by
 have e:(canon false T E).q=(T:Rat)*P2 E:=by rw[qL];simp
 have h0:0<=(T:Rat)*P2 E:=bM cF (bB (mZ E));refine⟨fun _=>⟨by rw[e];exact .inl ⟨T,E,ae,h1,ae,rfl⟩,by rw[e];exact xn⟩,fun g hg L4=>⟨rfl,?_⟩⟩;rw[e];by_cases Es:0<=g
 .rcases R0 (E:=E) hT hp (hg.pos Es)with k|k
  .exact k
  .exfalso;grind
 .grind
theorem ag7{T p:Nat}{E:Int}(hT:ib T=p)(hp:1<=p)(h1:-16384<=E)(h2:(p:Int)+E+1<=16384){v:Rat}(xn:(T:Rat)*P2 E<v)(rV:v<=((T+1:Nat):Rat)*P2 E):Up p v (canon false (T+1) E) 0:=by
 have e:(canon false (T+1) E).q=((T+1:Nat):Rat)*P2 E:=by rw[qL];simp
 have h0:0<=(T:Rat)*P2 E:=bM cF (bB (mZ E));refine⟨fun _=>⟨?_,by rw[e];exact rV⟩,fun g hg L4=>⟨rfl,?_⟩⟩
 .rw [e]
  have iD:T<2^p:=kO.1 ae;by_cases hb:T+1<2^p
  .exact .inl ⟨T+1,E,kO.2 hb,h1,by have:=kO.2 hb;omega,rfl⟩
  .refine .inl ⟨1,(p:Int)+E,by rw[uK];exact hp,ae,by rw[uK];omega,?_⟩
   rw[show T+1=2^p by omega,qn,uG,show((1:Nat):Rat)=1 from rfl,ey]
 .rw [e]
  have Es:0<=g:= aq ;rcases R0 (E:=E) hT hp (hg.pos Es)with k|k
  .exfalso;grind
  .exact k
theorem acD{T p:Nat}{E:Int}(hT:ib T=p)(h1:-16384<=E)(h2:(p:Int)+E<=16384){v:Rat}(hv:v=(T:Rat)*P2 E):Up p v (canon false T E) 0:=by
 have e:(canon false T E).q=(T:Rat)*P2 E:=by rw[qL];simp
 exact⟨fun _=>⟨by rw[e];exact .inl ⟨T,E,ae,h1,ae,rfl⟩,by rw[e,hv];exact b9⟩,fun g _ hg=>⟨rfl,by rw[e,<-hv];exact hg⟩⟩
theorem abE{p:Nat}{v:Rat}{D D':Dy}{E':Int}(h:Dn p v D 0)(k:Dn p v D' E')(hc:D.lI)(yg:D'.lI):E'=0/\D'=D:=by
 obtain⟨g,hl⟩:=h.1 rfl;obtain⟨he,hle⟩:=k.2 _ g hl;obtain⟨g',pK⟩:=k.1 he;obtain⟨_,CM⟩:=h.2 _ g' pK;exact⟨he,Je yg hc (dN CM hle)⟩
theorem alB{p:Nat}{v:Rat}{D D':Dy}{E':Int}(h:Up p v D 0)(k:Up p v D' E')(hc:D.lI)(yg:D'.lI):E'=0/\D'=D:=by
 obtain⟨g,hl⟩:=h.1 rfl;obtain⟨he,hle⟩:=k.2 _ g hl;obtain⟨g',pK⟩:=k.1 he;obtain⟨_,CM⟩:=h.2 _ g' pK;exact⟨he,Je yg hc (dN hle CM)⟩
end Go.Proofs.YtdgnpeddgdclhaaGreatDoor.Fp
namespace Go.Proofs.YtdgnpeddgdclhaaGreatDoor
open Go.RowKit Fp Pu
theorem Ul{n k:Nat}(h1:4294967296^k<=n)(h2:n<4294967296^(k+1)):(gV n).length=k+1:=by
 have a:=q9 h2;have b:¬(gV n).length<=k:=fun q=>absurd (uh q) ae 
 omega
theorem BE(v:Nat):v<4294967296^(gV v).length:=uh (aU _)
theorem EY{v l:Nat}(h:(gV v).length=l):iK v l=gV v:=h▸KK v
theorem Aj(v k:Nat):(gV v).getD k 0=iA v k:=by rw[pF (kA v),jD]
theorem abn{v:Nat}(h:lP v 0 (gV v).length=0):iK (2*v) (gV v).length=gV (2*v):=by
 have h1:=BE v;unfold lP at h;rw[bu h1,bt]at h;have h2:2*v<4294967296^(gV v).length:=by
  rcases dG (2*v) (4294967296^(gV v).length)with q|q
  .exact q
  .have:=fO q (pw _);omega
 have a:=q9 h2;have b:=lX (show v<=2*v by omega);exact EY ae 
theorem abo{v:Nat}(h:lP v 0 (gV v).length≠0):iK (2*v) ((gV v).length+1)=gV (2*v)/\iA (2*v) (gV v).length=lP v 0 (gV v).length:=by
 have h1:=BE v;have e:=(GU (r:=v) (b:=0) ag (gV v).length)
 have h0:iA v (gV v).length=0:=uO h1 (aU _);refine⟨EY (Ul ?_ ?_),by have:=e.1;rw[bt,h0]at this;simpa using this⟩
 .unfold lP at h
  rw[bu h1,bt]at h;exact fi fun q=>h (bS q)
 .rw [aZ];omega
theorem aj8{v:Nat}(h0:v≠0)(he:v%2=0):(gV v).set 0 (iA v 0+1)=gV (v+1):=by
 rw[yK h0,yK (show v+1≠0 by omega),gS];unfold iA;rw[bN,dC,show(v+1)%4294967296=v%4294967296+1 by omega,show(v+1)/4294967296=v/4294967296 by omega]
theorem ahv(a:Nat)(h:a<4294967296)(he:a%2=0):bits .or .u32 (a:Int) 1=((a+1:Nat):Int):=by
 have:=Ja (a/2) 1 ag;rwa[show 2*(a/2)%4294967296=a by omega]at this
theorem II{v N:Nat}(iH:∀ k,k<N->iA v k=4294967295):∀ k,k<=N->iA 1 k+jy v 1 k=1
 | 0,_=>by rw[GK];decide
 |k+1,h=>by
  have a:=xO v 1 k;have b:=II iH k ae;have c:=iH k ae;have d:=pE (v+1) k;have e:=s5 v 1 (k+1);have f:iA 1 (k+1)=0:=uO (k:=1) ag ae;omega
theorem TN{v N:Nat}(iH:∀ k,k<N->iA v k=4294967295){k:Nat}(h:k<N):iA (v+1) k=0:=by
 have a:=xO v 1 k;have b:=II iH k ae;have c:=iH k h;have d:=pE (v+1) k;have e:=s5 v 1 (k+1);omega
theorem afk{v N:Nat}(iH:∀ k,k<N->iA v k=4294967295)(hd:iA v N≠4294967295):iA (v+1) N=iA v N+1/\jy v 1 (N+1)=0:=by
 have a:=xO v 1 N;have b:=II iH N (aU _);have c:=pE v N;have d:=pE (v+1) N;have e:=s5 v 1 (N+1);omega
theorem TM{v N:Nat}(hc:jy v 1 (N+1)=0):∀ j,jy v 1 (N+1+j)=0/\iA (v+1) (N+1+j)=iA v (N+1+j)
 | 0=>by
  have a:=xO v 1 (N+1);have f:iA 1 (N+1)=0:=uO (k:=1) ag ae;have c:=pE v (N+1);have e:=s5 v 1 (N+1+1);have d:=pE (v+1) (N+1);rw[bt];omega
 |j+1=>by
  obtain⟨h1,h2⟩:=TM hc j;have a:=xO v 1 (N+1+j);have f:iA 1 (N+1+j)=0:=uO (k:=1) ag ae;have h3:jy v 1 (N+1+(j+1))=0:=by
   rw[show N+1+(j+1)=N+1+j+1 by omega];have d:=pE (v+1) (N+1+j);omega
  have a:=xO v 1 (N+1+(j+1));have f:iA 1 (N+1+(j+1))=0:=uO (k:=1) ag ae;have c:=pE v (N+1+(j+1));have d:=pE (v+1) (N+1+(j+1));have e:=s5 v 1 (N+1+(j+1)+1);omega
theorem ag6{v N:Nat}(hN:N<(gV v).length)(iH:∀ k,k<N->iA v k=4294967295)(hd:iA v N≠4294967295):(kF 0 v N (gV v).length).set N (iA v N+1)=gV (v+1):=by
 obtain⟨h1,h2⟩:=afk iH hd;have ht:=BE v;have iD:v+1<4294967296^(gV v).length:=by
  rcases dG (v+1) (4294967296^(gV v).length)with q|q
  .exact q
  .exfalso
   have e:v+1=4294967296^(gV v).length:= ae ;have h3:iA (v+1) N=0:=by
    rw[e];unfold iA;obtain⟨j,hj⟩:∃ j,(gV v).length=N+(j+1):=⟨(gV v).length-N-1,ae⟩
    rw[hj,aV,amS _ (pw N),aZ,eF]
   omega
 have hl:(gV (v+1)).length=(gV v).length:=Nat.le_antisymm (q9 iD) (lX (Nat.le_succ v));rw[<-EY hl];unfold kF iK;apply gy aj;intro i i1 i2;have i3:i<(gV v).length:=by simpa using i2
 rw[amP,gz,gz,amQ];by_cases hi:N=i
 .subst hi;rw[aR rfl,h1]
 .rw [aQ hi]
  by_cases wh:i<N
  .rw [aR wh,AY,TN iH wh]
  .rw [aQ wh]
   have:=(TM h2 (i-(N+1))).2;rw[show N+1+(i-(N+1))=i by omega]at this;exact this.symm
theorem ag4{v:Nat}(iH:∀ k,k<(gV v).length->iA v k=4294967295):iK (v+1) (gV v).length=iK 0 (gV v).length/\iA (v+1) (gV v).length=1/\iK (v+1) ((gV v).length+1)=gV (v+1):=by
 have e:iK (v+1) (gV v).length=iK 0 (gV v).length:=by
  unfold iK;apply e9;intro k hk;rw[TN iH (bJ.1 hk),AY]
 have ht:=BE v;have hv:=uD (v+1) (gV v).length;rw[e,uD,Nat.zero_mod]at hv;have pX:4294967296^(gV v).length<=v+1:=fi fun q=>by rw[bu q]at hv;omega
 refine⟨e,?_,EY (Ul pX (by rw[aZ];have:=pw (gV v).length;omega))⟩;have a:=xO v 1 (gV v).length;have b:=II iH _ (aU _);have c:iA v (gV v).length=0:=uO ht (aU _);have d:=pE (v+1) (gV v).length;have f:=s5 v 1 ((gV v).length+1);omega
theorem XX{v l:Nat}(hl:(gV v).length=l+1):iA v l≠0/\ib v=32*l+ib (iA v l):=by
 have h1:=BE v;rw[hl]at h1;have h2:4294967296^l<=v:=fi fun q=>by have:=q9 q;omega
 have h3:iA v l≠0:=by
  unfold iA;have a:=fO h2 (pw l);have b:v/4294967296^l<4294967296:=by rw[bR (pw l),a7,<-aZ];exact h1
  rw[bu b];omega
 exact⟨h3,PY h1 h3⟩
theorem Z6{v l:Nat}(_:(gV v).length=l+1):ib (iA v l)<=32:=kO.2 (pE v l)
theorem ZS{t x:Nat}(h:x<32-ib t):t/2^(31-x)%2=0:=by
 have h1:=oN t;have h2:=bh (show 0<2 by decide) (show ib t<=31-x by omega);rw[bS ae]
theorem ZU{t x:Nat}(h0:t≠0)(h:x=32-ib t)(hb:ib t<=32):t/2^(31-x)%2=1:=by
 have h1:=oN t;have h2:=rB h0;have h3:=mS h0;have e:31-x=ib t-1:= ae ;rw[e];have h4:2^ib t=2*2^(ib t-1):=by
  obtain⟨k,hk⟩:∃ k,ib t=k+1:=⟨ib t-1,ae⟩
  rw[hk,dE,aZ,a7]
 have h5:t/2^(ib t-1)<2:=by rw[bR (aY ag)];omega
 have h6:=fO h2 (aY (n:=ib t-1) (show 0<2 by decide));omega
theorem PW{v i:Nat}:iA v (i/32)/2^(i%32)%2=v/2^i%2:=by
 by_cases h:i/32<(gV v).length
 .have:=Km (kA v) i h
  rw[jD]at this;rw[this,<-Aj,aW,bd h];rfl
 .have h1:=BE v
  have h2:=bh (show 0<4294967296 by decide) (fi h);have h3:v<4294967296^(i/32):= ae ;rw[uO h3 (aU _),fK];have h4:4294967296^(i/32)<=2^i:=by rw[nF];exact bh ag ae 
  rw[bS ae]
theorem ZT{v i:Nat}(h:32*(gV v).length<=i):v/2^i%2=0:=by
 have h1:=BE v;rw[nF]at h1;have h2:=bh (show 0<2 by decide) h;rw[bS ae]
theorem IS(w k:Nat):w%2^(k+1)=w%2^k+w/2^k%2*2^k:=by
 rw[aZ,fJ,a7 (2^k)]
theorem Nu{w k:Nat}(hk:k<32)(hw:w<4294967296):bits .or .u32 ((w%2^k:Nat):Int) ((w/2^k%2*2^k:Nat):Int)=((w%2^(k+1):Nat):Int):=by
 have a:=bg w (aY (n:=k) (show 0<2 by decide));have b:=bg (w/2^k) (show 0<2 by decide);have c:=IS w k;have d:=dk w (2^(k+1));have e:=dk w (2^k);rw[F2 _ _ ae ae,Ar _ _ _ a,c]
theorem Oh{b k:Nat}(hk:k<32)(hb:b<=1):IntKind.u32.wrap ((b:Int)*2^k)=((b*2^k:Nat):Int):=by
 have h1:b*2^k<=1*2^31:=cK hb (bh ag ae);rw[IntKind.wrap_u32];have e:((b:Int)*2^k)=((b*2^k:Nat):Int):=by
  rw[dI,Int.natCast_pow];rfl
 rw[e];omega
theorem QL{w y k:Nat}(hk:k<32):iA w y/2^k%2=w/2^(32*y+k)%2:=by
 have:=PW (v:=w) (i:=32*y+k);rwa[show(32*y+k)/32=y by omega,show(32*y+k)%32=k by omega]at this
theorem EX{w y:Nat}:y<(gV w).length↔32*y<ib w:=by
 constructor
 .intro h
  obtain⟨l,hl⟩:∃ l,(gV w).length=l+1:=⟨(gV w).length-1,ae⟩
  obtain⟨a,b⟩:=XX hl;have:=mS a;omega
 .intro h
  apply gw;intro q;have h1:=uh q;rw[nF]at h1;have:=kO.2 h1;omega
theorem PZ{v s:Nat}(h:s<=ib v):ib (v/2^s)=ib v-s:=by
 by_cases h0:v/2^s=0
 .rw [h0,qX]
  have h1:v<2^s:=by
   rcases dG v (2^s)with q|q
   .exact q
   .have:=fO q (aY ag);omega
  have:=kO.2 h1;omega
 .have h2:v≠0:=fun q=>h0 (by rw[q,fK])
  have a:=oN v;have b:=rB h2;have hs:s<ib v:=by
   rcases dG s (ib v)with q|q
   .exact q
   .exfalso;apply h0;apply bS
    exact bD a (bh ag q)
  obtain⟨k,hk⟩:∃ k,ib v=s+(k+1):=⟨ib v-s-1,ae⟩
  rw[hk]at a b;rw[hk,Nat.add_sub_cancel_left];refine uJ ?_ ?_
  .rw [cL (aY ag),<-aV]
   rw[show s+(k+1)-1=k+s by omega]at b;exact b
  .rw [bR (aY ag),<-aV,dV (k+1)]
   exact a
theorem abi{v:Nat}(h:v≠0):jO v<ib v:=by
 have:=Di h;exact sk.2 this
open Go.RowKit Fp Pu
def PX(v l N:Nat)(x:Nat):PS:=⟨29,true,[(4,.e (iP (((31-x):Nat):Int))),(3,.e (iP l)),(0,.e (gX (gV v)))],[]⟩
def Jy(v:Nat)(x:Nat):PS:=⟨38,false,[(5,.own 5),(7,.e (iP x)),(6,.e (.v (.int .u32 (lP v 0 x:Int)))),(0,.e (gX (gV v)))],[(5,.row false 79 x 1 (jb (iK (2*v) x)))]⟩
theorem ZW(v l N:Nat)(hl:(gV v).length=l+1)(hs:l<=1000000)(h0:((gV v).getD l 0)≠0)(hN:N=32-ib ((gV v).getD l 0))(LM:ib ((gV v).getD l 0)<=32)(jc:1<=ib ((gV v).getD l 0))(hv:ib v=32*l+ib ((gV v).getD l 0)):gU 265 [(gX (gV v))] (iP (ib v)):=by
 exact tr true Tryz.call265 Tryz.func265 (chain [iq (((gV v).length:Int)-1) ae,.o 7 (.int ae:PV.le (.e (iP (((gV v).length:Int)-1))) (.e (iP l))),.u 70,tT 9 (0<=(l:Int)) ae,.s (Sp.jx (PX v l N) 0 N ae (fun x hx ke=>by
    have hX:=(kA v).getD l;have hd:=bw ((gV v).getD l 0) (2^(31-x));have hb:=ZS (t:=((gV v).getD l 0)) (x:=x) ae;exact iB (chain [tT 13 (0<=(((31-x):Nat):Int)) ae,iX ((l:Int)) ((gV v).length) ae,.a (ae:0<=((((31-x):Nat):Int):Int)/\((((31-x):Nat):Int):Int)<=((32:Nat):Int)),.o 21 (.int (yY _ _):PV.le (.e (.v (.int .u32 (((((gV v).getD l 0):Nat):Int)/2^(31-x))))) (.e (.v (.int .u32 (((((gV v).getD l 0)/2^(31-x)):Nat):Int))))),.o 22 (.int (JN _ ae):PV.le (.e (.v (.int .u32 (bits .and .u32 (((((gV v).getD l 0)/2^(31-x)):Nat):Int) 1)))) (.e (.v (.int .u32 ((((((gV v).getD l 0)/2^(31-x))%2):Nat):Int))))),tB 23 (aJ ae:(((((((gV v).getD l 0)/2^(31-x))%2):Nat):Int)==1)=false),iq ((((31-x):Nat):Int)-1) ae]<|.e (chain [.o 4 (.int ae:PV.le (.e (iP ((((31-x):Nat):Int)-1))) (.e (iP (((31-(x+1)):Nat):Int))))]<|.nil)) ah)
  (fun hx=>by
    have hX:=(kA v).getD l;have hd:=bw ((gV v).getD l 0) (2^(31-N));have hb:=ZU (t:=((gV v).getD l 0)) (x:=N) h0 hN LM;exact iB (chain [tT 13 (0<=(((31-N):Nat):Int)) ae,iX ((l:Int)) ((gV v).length) ae,.a (ae:0<=((((31-N):Nat):Int):Int)/\((((31-N):Nat):Int):Int)<=((32:Nat):Int)),.o 21 (.int (yY _ _):PV.le (.e (.v (.int .u32 (((((gV v).getD l 0):Nat):Int)/2^(31-N))))) (.e (.v (.int .u32 (((((gV v).getD l 0)/2^(31-N)):Nat):Int))))),.o 22 (.int (JN _ ae):PV.le (.e (.v (.int .u32 (bits .and .u32 (((((gV v).getD l 0)/2^(31-N)):Nat):Int) 1)))) (.e (.v (.int .u32 ((((((gV v).getD l 0)/2^(31-N))%2):Nat):Int))))),tB 23 (aK ae:(((((((gV v).getD l 0)/2^(31-N))%2):Nat):Int)==1)=true),iq (32*(l:Int)) ae,iq ((((32*l):Nat):Int)+(((31-N):Nat):Int)) ae,
    iq (((((32*l)+(31-N)):Nat):Int)+1) ae]<|.nil) ah) ak:ju 5 Tryz.f265 (PX v l N 0) .ret ⟨29,true,[(2,.e (iP (((((32*l)+(31-N))+1):Nat):Int)))],[]⟩) (chain [.o 4 (.int ae:PV.le (.e (iP 31)) (.e (iP (((31-0):Nat):Int))))]<|.nil)]<|rQ (iP (((((32*l)+(31-N))+1):Nat):Int)) (iP (ib v)) (congrArg iP ae)) ah 
theorem ZX : gU 265 [(gX (gV 0))] (iP 0):=by
 have z:(gV 0).length=0:=by rw[ni];rfl
 exact tr true Tryz.call265 Tryz.func265 (chain [iq (((gV 0).length:Int)-1) ae,.u 70,tF 9 (0<=(((gV 0).length:Int)-1)) (by rw[ni];decide)]<|.nil) ah 
theorem GF(v:Nat)(h:(gV v).length<=1000000):gU 265 [gX (gV v)] (iP (ib v)):=by
 rcases hl:(gV v).length with _|l
 .obtain rfl:=qT.1 hl
  exact ZX
 .obtain ⟨a,b⟩:=XX hl
  have c:=Z6 hl;have d:=mS a;rw[<-Aj]at a b c d;exact ZW v l _ hl ae a rfl c d b
theorem GD(v i:Nat)(h:(gV v).length<=1000000)(hi:i<=1000000000):gU 266 [(gX (gV v)),(iP i)] (iP ((v/2^i%2:Nat):Int)):=by
 have hX:=(kA v).getD (i/32);have hd:=bw ((gV v).getD (i/32) 0) (2^(i%32));exact tr true Tryz.call266 Tryz.func266 (chain [tF 6 ((i:Int)<0) ae,iq (32*((gV v).length:Int)) ae]<|.w ((((32*(gV v).length):Nat):Int)<=(i:Int))
  (fun k1=>chain [tB 12 (aS k1)]<|rQ (iP 0) (iP ((v/2^i%2:Nat):Int)) (congrArg (fun x:Nat=>iP (x:Int)) (ZT ae).symm))
  (fun k1=>chain [tB 12 (aT k1),.a (ae:0<(32:Int)),iq ((i:Int)) ae,iX ((((i/32):Nat):Int)) ((gV v).length) ae,.a (ae:0<(32:Int)),.a (ae:0<=((((i%32):Nat):Int):Int)/\((((i%32):Nat):Int):Int)<=((32:Nat):Int)),.o 21 (.int (yY _ _):PV.le (.e (.v (.int .u32 (((((gV v).getD (i/32) 0):Nat):Int)/2^(i%32))))) (.e (.v (.int .u32 (((((gV v).getD (i/32) 0)/2^(i%32)):Nat):Int))))),.o 22 (.int (JN _ ae):PV.le (.e (.v (.int .u32 (bits .and .u32 (((((gV v).getD (i/32) 0)/2^(i%32)):Nat):Int) 1)))) (.e (.v (.int .u32 ((((((gV v).getD (i/32) 0)/2^(i%32))%2):Nat):Int))))),.o 23 (.int (Ms _ ae):PV.le (.e (iP (IntKind.i64.wrap ((((((gV v).getD (i/32) 0)/2^(i%32))%2):Nat):Int)))) (.e (iP ((((((gV v).getD (i/32) 0)/2^(i%32))%2):Nat):Int))))]<|rQ (iP ((((((gV v).getD (i/32) 0)/2^(i%32))%2):Nat):Int)) (iP ((v/2^i%2:Nat):Int)) (by rw[Aj,PW]))) ah 
theorem aj9(v:Nat)(h:(gV v).length<=1000000)(oE:(lP v 0 (gV v).length)=0):gU 263 [(gX (gV v)),(.v (.int .u64 0))] (gX (gV (2*v))):=by
 exact tr false Tryz.call263 Tryz.func263 (chain [.o 9 (.int ag:PV.le (.e (.v (.int .u32 (IntKind.u32.wrap 0)))) (.e (.v (.int .u32 0)))),.y 5 5 false 79 1 (jb (iK (2*v) 0)),.s (Sp.jx (Jy v) 0 ((gV v).length) ae (fun x hx ke=>by
    have he:=GU (r:=v) (b:=0) ag x;rw[bt,<-Aj v x]at he;have hc:=GS (r:=v) (b:=0) ag x;have hX:=(kA v).getD x;have hz:(((2*((gV v).getD x 0)%4294967296)+(lP v 0 x):Nat):Int)=(iA (2*v) x:Int):=by rw[he.1]
    have hq:((gV v).getD x 0)/2^31=lP v 0 (x+1):=by rw[he.2]
    exact iB (chain [tT 13 ((x:Int)<((gV v).length:Int)) ae,iX ((x:Int)) ((gV v).length) ae,.a (ae:0<=(1:Int)/\(1:Int)<=((32:Nat):Int)),.o 21 (.int (Og _):PV.le (.e (.v (.int .u32 (IntKind.u32.wrap (((((gV v).getD x 0):Nat):Int)*2^1))))) (.e (.v (.int .u32 (((2*((gV v).getD x 0)%4294967296):Nat):Int))))),.o 23 (.int (Ja _ _ hc):PV.le (.e (.v (.int .u32 (bits .or .u32 (((2*((gV v).getD x 0)%4294967296):Nat):Int) (lP v 0 x:Int))))) (.e (.v (.int .u32 ((((2*((gV v).getD x 0)%4294967296)+(lP v 0 x)):Nat):Int))))),.a (ae:(x+1)*4<=140737488355328),iX ((x:Int)) ((gV v).length) ae,.a (ae:0<=(31:Int)/\(31:Int)<=((32:Nat):Int)),.o 30 (.int (yY _ _):PV.le (.e (.v (.int .u32 (((((gV v).getD x 0):Nat):Int)/2^31)))) (.e (.v (.int .u32 (((((gV v).getD x 0)/2^31):Nat):Int))))),iq ((x:Int)+1) ae]<|.e (chain [.o 6 (.int (by rw[hq]):PV.le (.e (.v (.int .u32 (((((gV v).getD x 0)/2^31):Nat):Int)))) (.e (.v (.int .u32 (lP v 0 (x+1):Int))))),.b 5 (Ai rfl hz:Bx.le (.row false 79 (x+1) 1 (fun i_ j_=>if i_<x then(jb (iK (2*v) x)) i_ j_ else(E.mc (.sl false 1 1 fun i_ j_=>[(.v (.int .u32 ((((2*((gV v).getD x 0)%4294967296)+(lP v 0 x)):Nat):Int)))].getD (i_*1+j_) (.v (.bool false)))) (i_-x) j_)) (.row false 79 (x+1) 1 (jb (iK (2*v) (x+1)))))]<|.nil)) ah)
  (fun hx=>by
    exact iB (chain [tF 13 (((gV v).length:Int)<((gV v).length:Int)) ae]<|.nil) ah) ak:ju 4 Tryz.f263 (Jy v 0) (.exit 0) ⟨38,false,[(5,.own 5),(6,.e (.v (.int .u32 (((lP v 0 (gV v).length):Nat):Int))))],[(5,.row false 79 ((gV v).length) 1 (jb (iK (2*v) ((gV v).length))))]⟩) (chain [.o 6 (.int (by rw[KJ];rfl):PV.le (.e (.v (.int .u32 0))) (.e (.v (.int .u32 (lP v 0 0:Int)))))]<|.nil),tB 32 (BH oE:((((lP v 0 (gV v).length):Nat):Int) != 0)=false)]<|rQ (.sl false ((gV v).length) 1 (jb (iK (2*v) ((gV v).length)))) (gX (gV (2*v))) (by rw[AI (mF _ _).symm,abn oE])) ah 
theorem af7{N l c:Nat}{L:List Nat}(h1:iK N (l+1)=L)(h2:iA N l=c):E.le (.sl false (l+1) 1 fun i_ j_=>if i_<l then jb (iK N l) i_ j_ else(E.mc (.sl false 1 1 fun i_ j_=>[(.v (.int .u32 (c:Int)))].getD (i_*1+j_) (.v (.bool false)))) (i_-l) j_) (gX L):=by
 subst h1 h2;rw[<-AI (mF N (l+1)).symm];refine .sl fun i j hi hj=>?_
 obtain rfl:j=0:= ae ;by_cases h:i<l
 .simp only[h,bk]
  exact⟨.iU (by unfold jb;rw[s7 h,s7 ae]),rfl⟩
 .obtain rfl:i=l:= ae 
  simp only[fj,a6,cT];exact⟨.iU (by unfold jb;rw[s7 ae];rfl),rfl⟩
theorem aka(v:Nat)(h:(gV v).length<=1000000)(oE:(lP v 0 (gV v).length)≠0):gU 263 [(gX (gV v)),(.v (.int .u64 0))] (gX (gV (2*v))):=by
 obtain⟨h1,h2⟩:=abo oE;exact tr false Tryz.call263 Tryz.func263 (chain [.o 9 (.int ag:PV.le (.e (.v (.int .u32 (IntKind.u32.wrap 0)))) (.e (.v (.int .u32 0)))),.y 5 5 false 79 1 (jb (iK (2*v) 0)),.s (Sp.jx (Jy v) 0 ((gV v).length) ae (fun x hx ke=>by
    have he:=GU (r:=v) (b:=0) ag x;rw[bt,<-Aj v x]at he;have hc:=GS (r:=v) (b:=0) ag x;have hX:=(kA v).getD x;have hz:(((2*((gV v).getD x 0)%4294967296)+(lP v 0 x):Nat):Int)=(iA (2*v) x:Int):=by rw[he.1]
    have hq:((gV v).getD x 0)/2^31=lP v 0 (x+1):=by rw[he.2]
    exact iB (chain [tT 13 ((x:Int)<((gV v).length:Int)) ae,iX ((x:Int)) ((gV v).length) ae,.a (ae:0<=(1:Int)/\(1:Int)<=((32:Nat):Int)),.o 21 (.int (Og _):PV.le (.e (.v (.int .u32 (IntKind.u32.wrap (((((gV v).getD x 0):Nat):Int)*2^1))))) (.e (.v (.int .u32 (((2*((gV v).getD x 0)%4294967296):Nat):Int))))),.o 23 (.int (Ja _ _ hc):PV.le (.e (.v (.int .u32 (bits .or .u32 (((2*((gV v).getD x 0)%4294967296):Nat):Int) (lP v 0 x:Int))))) (.e (.v (.int .u32 ((((2*((gV v).getD x 0)%4294967296)+(lP v 0 x)):Nat):Int))))),.a (ae:(x+1)*4<=140737488355328),iX ((x:Int)) ((gV v).length) ae,.a (ae:0<=(31:Int)/\(31:Int)<=((32:Nat):Int)),.o 30 (.int (yY _ _):PV.le (.e (.v (.int .u32 (((((gV v).getD x 0):Nat):Int)/2^31)))) (.e (.v (.int .u32 (((((gV v).getD x 0)/2^31):Nat):Int))))),iq ((x:Int)+1) ae]<|.e (chain [.o 6 (.int (by rw[hq]):PV.le (.e (.v (.int .u32 (((((gV v).getD x 0)/2^31):Nat):Int)))) (.e (.v (.int .u32 (lP v 0 (x+1):Int))))),.b 5 (Ai rfl hz:Bx.le (.row false 79 (x+1) 1 (fun i_ j_=>if i_<x then(jb (iK (2*v) x)) i_ j_ else(E.mc (.sl false 1 1 fun i_ j_=>[(.v (.int .u32 ((((2*((gV v).getD x 0)%4294967296)+(lP v 0 x)):Nat):Int)))].getD (i_*1+j_) (.v (.bool false)))) (i_-x) j_)) (.row false 79 (x+1) 1 (jb (iK (2*v) (x+1)))))]<|.nil)) ah)
  (fun hx=>by
    exact iB (chain [tF 13 (((gV v).length:Int)<((gV v).length:Int)) ae]<|.nil) ah) ak:ju 4 Tryz.f263 (Jy v 0) (.exit 0) ⟨38,false,[(5,.own 5),(6,.e (.v (.int .u32 (((lP v 0 (gV v).length):Nat):Int))))],[(5,.row false 79 ((gV v).length) 1 (jb (iK (2*v) ((gV v).length))))]⟩) (chain [.o 6 (.int (by rw[KJ];rfl):PV.le (.e (.v (.int .u32 0))) (.e (.v (.int .u32 (lP v 0 0:Int)))))]<|.nil),tB 32 (Fh oE:((((lP v 0 (gV v).length):Nat):Int) != 0)=true),.a (ae:((gV v).length+1)*4<=140737488355328)]<|rR (gX (gV (2*v))) (af7 h1 h2:E.le (.sl false ((gV v).length+1) 1 (fun i_ j_=>if i_<(gV v).length then(jb (iK (2*v) ((gV v).length))) i_ j_ else(E.mc (.sl false 1 1 fun i_ j_=>[(.v (.int .u32 (((lP v 0 (gV v).length):Nat):Int)))].getD (i_*1+j_) (.v (.bool false)))) (i_-(gV v).length) j_)) (gX (gV (2*v))))) ah 
theorem Xe(v:Nat)(h:(gV v).length<=1000000):gU 263 [gX (gV v),.v (.int .u64 0)] (gX (gV (2*v))):=by
 by_cases hc:(lP v 0 (gV v).length)=0
 .exact aj9 v h hc
 .exact aka v h hc
theorem aga{L M:List Nat}{n z:Nat}(hn:n=0+L.length)(hs:L.set 0 z=M):E.le (.sl false n 1 fun i' j'=>if i'=0/\0<=j'/\j'<0+1 then[(.v (.int .u32 (z:Int)))].getD (j'-0) .any else(fun i_ j_=>if i_<0 then(fun i_ j_=>([]:List E).getD (i_*1+j_) (.v (.bool false))) i_ j_ else(E.mc (gX L)) (i_-0) j_) i' j') (gX M):=by
 subst hs;have e:n=(L.set 0 z).length:=by rw[cv];omega
 rw[<-AI e];refine .sl fun i j hi hj=>?_
 obtain rfl:j=0:= ae ;have oM:i<L.length:= ae ;by_cases h:i=0
 .subst h
  simp only[true_and,aU,amJ,bk,bW];exact⟨.iU (by show _=E.v (.int .u32 (((L.set 0 z).getD 0 0:Nat):Int));rw[aW (l:=L.set 0 z),List.getElem?_set_self oM];rfl),rfl⟩
 .simp only[h,false_and,a6,bj,dh]
  exact⟨.iU (by show E.v (.int .u32 (L.getD i 0:Int))=_;unfold jb;rw[aW,aW,gn (fun q=>h q.symm)]),rfl⟩
theorem aj6 : gU 264 [(gX (gV 0))] (gX (gV (0+1))):=by
 exact tr true Tryz.call264 Tryz.func264 (chain [tB 6 (by rw[ni];rfl:(((gV 0).length:Int)==0)=true),.o 7 (.e rY:PV.le (.e (.sl false 1 1 fun i_ j_=>[(.v (.int .u32 1))].getD (i_*1+j_) (.v (.bool false)))) (.e (gX (gV 1))))]<|.nil) ah 
theorem aj5(v:Nat)(hl:1<=(gV v).length)(hs:(gV v).length<=1000000)(he:v%2=0):gU 264 [(gX (gV v))] (gX (gV (v+1))):=by
 have hX:=(kA v).getD 0;have pI:((gV v).getD 0 0)%2=0:=by rw[Aj];unfold iA;rw[bN,dC];omega
 have h0:v≠0:=fun q=>by subst q;rw[ni]at hl;exact absurd hl ag 
 exact tr false Tryz.call264 Tryz.func264 (chain [tB 6 (aJ ae:(((gV v).length:Int)==0)=false),.bo,.a (ae:(0+(gV v).length)*4<=140737488355328),iX (0) ((0+(gV v).length)) ae,.a (ae:0<(0+(gV v).length)),.o 15 (.int (ahv _ hX pI):PV.le (.e (.v (.int .u32 (bits .or .u32 ((((gV v).getD 0 0):Nat):Int) 1)))) (.e (.v (.int .u32 (((((gV v).getD 0 0)+1):Nat):Int))))),
  iX (0) ((0+(gV v).length)) ae,.a (ae:0<(0+(gV v).length))]<|rR (gX (gV (v+1))) (aga ae (by rw[Aj];exact aj8 h0 he):E.le (.sl false (0+(gV v).length) 1 (fun i' j'=>if i'=0/\0<=j'/\j'<0+1 then[(.v (.int .u32 (((((gV v).getD 0 0)+1):Nat):Int)))].getD (j'-0) .any else(fun i_ j_=>if i_<0 then(fun i_ j_=>([]:List E).getD (i_*1+j_) (.v (.bool false))) i_ j_ else(E.mc (gX (gV v))) (i_-0) j_) i' j')) (gX (gV (v+1))))) ah 
theorem Xd(v:Nat)(hs:(gV v).length<=1000000)(he:v%2=0):gU 264 [gX (gV v)] (gX (gV (v+1))):=by
 by_cases h:(gV v).length=0
 .obtain rfl:=qT.1 h
  exact aj6
 .exact aj5 v ae hs he
open Go.RowKit Fp Pu
theorem ZV(v:Nat)(A:Option Addr)(c:Nat)(w:World)(hs:Sl w A c (gV v))(hT:Tb w)(h:(gV v).length<=1000000):
 Calls Tryz.prog 265 #[.slice A (gV v).length c] w (fun e w'=>e = .returned (.int .i64 (ib v:Int))/\iy w w'):=by
 refine((GF v h).run w (fun _=>False) [_] hT (fun _ h=>h.elim) (.cons (xF (fun _ h=>h.elim) (iy.refl w) hs) (.nil _ _ _))).mono ?_;rintro e w' ⟨x,rfl,hb,hr⟩;obtain rfl:=iG.kK hr;exact⟨rfl,hb⟩
theorem ZQ(v i:Nat)(A:Option Addr)(c:Nat)(w:World)(hs:Sl w A c (gV v))(hT:Tb w)(h:(gV v).length<=1000000)(hi:i<=1000000000):
 Calls Tryz.prog 266 #[.slice A (gV v).length c,.int .i64 (i:Int)] w (fun e w'=>e = .returned (.int .i64 ((v/2^i%2:Nat):Int))/\iy w w'):=by
 refine((GD v i h hi).run w (fun _=>False) [_,_] hT (fun _ h=>h.elim) (.cons (xF (fun _ h=>h.elim) (iy.refl w) hs) (.cons (.v _) (.nil _ _ _)))).mono ?_;rintro e w' ⟨x,rfl,hb,hr⟩;obtain rfl:=iG.kK hr;exact⟨rfl,hb⟩
theorem Ow.xY{w:World}{base:Nat}{v:Value}{L:List Nat}(h:Ow w base v L){g:Nat}(hg:g<base)(i:Nat)(u:Value):Ow (w.setCell ⟨g,i,none⟩ u) base v L:=
 ⟨ownsRow_setCell_below h.row hg u,h.ok⟩
theorem Ow.ext{w w':World}{base:Nat}{v:Value}{L:List Nat}(h:Ow w base v L)(hb:iy w w'):Ow w' base v L:=by
 refine⟨⟨h.row.1,?_⟩,h.ok⟩;rcases h.row.2 with q|⟨g,cap,cur,e1,e2,e3,r⟩
 .exact .inl q
 .exact .inr ⟨g,cap,cur,e1,e2,by rw[hb.block g (cP.1 e3).1];exact e3,r⟩
theorem Ow.mono{w:World}{base base':Nat}{v:Value}{L:List Nat}(h:Ow w base v L)(hb:base'<=base):Ow w base' v L:=by
 refine⟨⟨h.row.1,?_⟩,h.ok⟩;rcases h.row.2 with q|⟨g,cap,cur,e1,e2,r⟩
 .exact .inl q
 .exact .inr ⟨g,cap,cur,e1,aX hb e2,r⟩
theorem ji.aj4{w:World}{g n c:Nat}{s:Bool}{A:Option Addr}{e:Int}(h:ji w g s A n c e)(A':Option Addr)(n' c':Nat):ji (w.setCell ⟨g,1,none⟩ (.slice A' n' c')) g s A' n' c' e:=heap_setCell_same w g 1 _ _ (.slice A' n' c') h
theorem ji.grown{w w':World}{g n c base:Nat}{s:Bool}{A:Option Addr}{e:Int}{v:Value}{L:List Nat}(h:ji w g s A n c e)(ho:Ow w base v L)(hg:w.grownBy w' v.ownBlock)(hb:g<base):ji w' g s A n c e:=
 (hg.block g h.lt (fun q=>by have:=(ho.row.lt g q.symm).1;omega)).trans h
theorem agr(v:Nat)(e:Int)(A:Option Addr)(c:Nat)(w:World)(h0:v≠0)(hs:Sl w A c (gV v))(hT:Tb w)(hl:(gV v).length<=1000)(kR:-100000<=e)(kx:e<=100000):
 Calls Tryz.prog 267 #[.bool false,.slice A (gV v).length c,.int .i64 e] w (tI w (canon false v e)):=by
 have oE:=Lib.hid (show canon false v e=⟨false,v/2^jO v,e+jO v⟩by unfold canon;rw[aQ h0]);have hZ:=abi h0;have hB:ib v<=32*1000:=by
  have:=uh (aU (gV v).length);rw[nF]at this;have:=kO.2 this;omega
 have pM:(((ib v:Int)==0))=false:=aJ ae;have Ba:=Lib.hid (fun A c w (hs:Sl w A c (gV v)) hT=>ZV v A c w hs hT ae);have tf:=Lib.hid (fun i A c w (hs:Sl w A c (gV v)) hT hi=>ZQ v i A c w hs hT ae hi);obtain⟨m,hm⟩:∃ m,m=(gV v).length:=⟨_,rfl⟩
 rw[<-hm]at Ba tf ⊢;have HM:=Lib.hid hm;clear hm;obtain⟨n,hn⟩:∃ n,n=ib v:=⟨_,rfl⟩
 rw[<-hn]at Ba hZ hB pM;have HN:=Lib.hid hn;clear hn;obtain⟨Z,LF⟩:∃ Z,Z=jO v:=⟨_,rfl⟩
 rw[<-LF]at hZ oE;have HZ:=Lib.hid LF;clear LF;go_enter Tryz.func267,Tryz.ntmps267;go_wp2_with fail;refine(Ba.out A c _ (hs.alloc _) (hT.alloc _)).mono ?_;rintro e' w1 ⟨rfl,jc⟩;go_wp2;have yD:∀ k,k<Z->v/2^k%2=0:=fun k hk=>by rw[HZ.out]at hk;exact PU h0 hk
 have tw:v/2^Z%2=1:=by rw[HZ.out];exact PT h0
 have HZ1:=Lib.hid yD;clear yD;have HZ2:=Lib.hid tw;clear tw;have sQ:=hs.below ((iy.alloc w _).trans jc);have hT1:=hT.below ((iy.alloc w _).trans jc);have wB:=(iy.alloc w _).trans jc;go_loopw [8] (fun i wr=>∃ k:Nat,k<=Z/\i = .int .i64 (k:Int)/\iy w1 wr) (fun i _=>Z-(intOf i).toNat)
 case atStart=>exact⟨0,bL _,rfl,iy.refl _⟩
 case round=>
  obtain⟨k,hk,rfl,me⟩:=hrel;have kD:=sQ.below me;have vW:=hT1.below me;have q8:=wB.trans me;go_wp2_with fail;refine(tf.out k A c _ kD vW ae).mono ?_;rintro e'' w3 ⟨rfl,pk⟩;by_cases hkZ:k<Z
  .rw [HZ1.out k hkZ]
   have yC:IntKind.i64.wrap ((k:Int)+1)=((k+1:Nat):Int):=by rw[IntKind.wrap_i64];omega
   go_wp2;go_roundw
   case rel=>exact⟨k+1,ae,by go_num,me.trans pk⟩
   case measure=>simp[intOf];omega
  .obtain rfl:k=Z:= ae 
   rw[HZ2.out];have hx3:=q8.trans pk;have CT:=kD.below pk;have hT3:=vW.below pk;have IB:IntKind.i64.wrap (e+(k:Int))=e+(k:Int):=by rw[IntKind.wrap_i64];omega
   go_wp2;have GH:=ji.new w3 false none 0 0 (e+(k:Int));have Tx:=jc.trans (me.trans pk);have hg:=Tx.size;have Tw:=Tx.trans (iy.alloc w3 (.cells #[.bool false,.slice none 0 0,.int .i64 (e+(k:Int))] 31));obtain⟨g9,SN⟩:∃ g,g=w3.heap.size:=⟨_,rfl⟩
   rw[<-SN]at GH hg ⊢;generalize w3.alloc (.cells #[.bool false,.slice none 0 0,.int .i64 (e+(k:Int))] 31)=w5 at *
   clear SN;have ub:=hs.alloc (.cells #[.bool false,.slice none 0 0,.int .i64 0] 31);have hTW:=hT.alloc (.cells #[.bool false,.slice none 0 0,.int .i64 0] 31);have bx6:=ji.new w false none 0 0 0;generalize hW:w.alloc (.cells #[.bool false,.slice none 0 0,.int .i64 0] 31)=W at *
   have hwW:iy w W:=hW▸iy.alloc w _;have Hw:g9<w5.heap.size:=GH.lt;obtain⟨V,hV⟩:∃ V,V=v/2^k:=⟨_,rfl⟩
   have HV:=Lib.hid hV;rw[<-hV]at oE;have hVb:ib V+k=n:=by rw[hV,PZ (by rw[<-HN.out];omega),<-HN.out];omega
   have Sx:∀ i,i<1000000->v/2^(k+i)%2=V/2^i%2:=fun i _=>by rw[hV,cz,<-aV]
   have HBV:=Lib.hid Sx;clear Sx hV;have Sr:∀ y,y<(gV V).length↔32*y<ib V:=fun y=>EX
   have HYB:=Lib.hid Sr;clear Sr;obtain⟨Y,hY⟩:∃ Y,Y=(gV V).length:=⟨_,rfl⟩
   rw[<-hY]at HYB;have HY:=Lib.hid hY;clear hY;obtain⟨E9,R7⟩:∃ E9,E9=e+(k:Int):=⟨_,rfl⟩
   rw[<-R7]at oE GH;clear R7;go_loopw [10] (fun i wr=>∃ (y:Nat) (O:List Nat) (OA:Option Addr) (Oc:Nat),y<=Y/\i = .int .i64 ((k+32*y:Nat):Int)/\O=(gV V).take y/\Ow wr w5.heap.size (.slice OA O.length Oc) O/\ji wr g9 false OA O.length Oc E9/\iy W wr/\w5.heap.size<=wr.heap.size) (fun i _=>k+32*Y-(intOf i).toNat)
   case atStart=>exact⟨0,[],none,0,bL _,by go_num,aj,Ow.nil _ _,GH,Tw,aU _⟩
   case round=>
    obtain⟨y,O,OA,Oc,hy,rfl,hO,lg,iN,EN,lK⟩:=hrel;have hsr:=ub.below EN;have Hv:=hTW.below EN;obtain⟨I,hI⟩:∃ I,I=k+32*y:=⟨_,rfl⟩
    rw[<-hI];by_cases iD:y<Y
    .have h1:=(HYB.out y).1 iD
     have ht:decide ((I:Int)<(n:Int))=true:=aS ae;have zZ:I<n:= ae ;have EJ:decide (I<n)=true:=aS zZ;have hIb:I<=40000:= ae ;have hD:iA V y<4294967296:=pE V y;have Sw:∀ j,j<32->v/2^(I+j)%2=iA V y/2^j%2:=fun j hj=>by
      rw[hI,cE,HBV.out _ ae,QL hj]
     have HBD:=Lib.hid Sw;clear Sw;have HI:=Lib.hid hI;clear hI;go_wp2;go_loopw [11,12] (fun x q wj=>∃ j:Nat,j<=32/\x = .int .u32 ((iA V y%2^j:Nat):Int)/\q = .int .i64 (j:Int)/\iy wr wj) (fun _ q _=>32-(intOf q).toNat)
     case atStart=>exact⟨0,bL _,by simp[cH],rfl,iy.refl _⟩
     case round=>
      obtain⟨j,hj,rfl,rfl,Bb⟩:=hrel;by_cases Ic:j<32
      .have rT:decide ((j:Int)<32)=true:=aS ae 
       have yC:IntKind.i64.wrap ((I:Int)+(j:Int))=((I+j:Nat):Int):=by rw[IntKind.wrap_i64];omega
       go_wp2_with fail;refine(tf.out (I+j) A c _ (hsr.below Bb) (Hv.below Bb) ae).mono ?_;rintro e3 w6 ⟨rfl,hb6⟩;rw[HBD.out j Ic];have aeh:iA V y/2^j%2<=1:= ae ;have ho:=Nu Ic hD;generalize iA V y/2^j%2=b at *
       have Iq:bits .or .u32 ((iA V y:Int)%2^j) ((b:Int)*2^j)=((iA V y%2^(j+1):Nat):Int):=by rw[<-ho];congr 1<;>simp
       have HO:=Lib.hid Iq;clear ho Iq;have hcv:IntKind.u32.wrap (b:Int)=(b:Int):=by rw[IntKind.wrap_u32];omega
       have Bq:=Oh Ic aeh;have hw4:IntKind.i64.wrap ((j:Int)+1)=((j+1:Nat):Int):=by rw[IntKind.wrap_i64];omega
       go_wp2;go_roundw
       case rel=>exact⟨j+1,ae,congrArg (Value.int .u32) HO.out,by go_num,Bb.trans hb6⟩
       case measure=>simp[intOf];omega
      .obtain rfl:j=32:= ae 
       have SC:iA V y%2^32=iA V y:=bu (by simpa using hD);rw[SC];have LO:=iN.ext Bb;have Me:=lg.ext Bb;have b1:=LO.c1;have f1:=LO.fr 1;have Sa:O++[iA V y]=(gV V).take (y+1):=by
        have zV:y<(gV V).length:=by rw[<-HY.out];exact iD
        have:=Aj V y;rw[aW,bd zV]at this;rw[amH,bd zV,hO,<-this];rfl
       have HON:=Lib.hid Sa;clear Sa;clear hO HBD SC;generalize iA V y=z at *
       have hO4:O.length<=3000:=by
        have:=HON.out▸(show(O++[z]).length=O.length+1 by simp);rw[bY]at this;omega
       have Tj:O.length+[z].length<=10000000000:= av ;have aeu:w5.heap.size<=wr.heap.size:=aX lK Bb.size;have IE:=EN.trans Bb;have hw5:IntKind.i64.wrap ((I:Int)+32)=((I+32:Nat):Int):=by rw[IntKind.wrap_i64];omega
       have aeb:W.heap.size<=w5.heap.size:=Tw.size;go_wp2_with (at_builtin;go_must (refine qW ai _ _ ai w5.heap.size _ O ai (Me.alloc _) _ _ _ [z] ai ai (Sl.sT _ _ z ae ae) Tj (qd aeu _) ?_);intro v' w7 S8 L3 aml;obtain⟨OA7,Oc7,rfl,ams⟩:=S8.sl;have Kq:=(LO.alloc _).grown (Me.alloc _) L3 Hw;have b7:=Kq.c1;have f7:=Kq.fr 1)
       go_roundw
       case rel=>
        refine⟨y+1,O++[z],OA7,Oc7,ae,congrArg (Value.int .i64) (by have:=HI.out;omega),HON.out,S8.xY Hw 1 _,(by rw[cg];exact Kq.aj4 _ _ _),((IE.trans (iy.alloc _ _)).own _ _ ((Me.alloc _).mono aeb) L3).setCell hg _,?_⟩;have:=L3.size;simp[World.setCell]at this ⊢;omega
       case measure=>have:=HI.out;simp[intOf];omega
    .have hyY:y=Y:= ae 
     have zZ:¬I<n:=by
      intro q;have:=(HYB.out y).2 ae;omega
     have ht:decide ((I:Int)<(n:Int))=false:=aT ae;have EJ:decide (I<n)=false:=aT zZ;have hOV:O=gV V:=by rw[hO,ck (by rw[<-HY.out];omega)]
     obtain⟨OA',Oc',heq,yy⟩:=lg.sl;cases heq;have b0:=iN.c0;have b1:=iN.c1;have b2:=iN.c2;have zC:=bx6.ext EN;have c0:=zC.c0;have c1:=zC.c1;have c2:=zC.c2;have f0:=zC.fr 0;have f1:=zC.fr 1;have f2:=zC.fr 2;clear hI hO HYB;go_wp2;rw[oE.out];subst hOV;exact sI rfl rfl rfl (zC.set _ _ _ _ _) rfl (zC.qw yy _ _ _ _ _) (ji.ql (hwW.trans EN) (aU _) _ _ _ _ _)
theorem Uz(v:Nat)(e:Int)(h0:v≠0)(hl:(gV v).length<=1000)(kR:-100000<=e)(kx:e<=100000):gU 267 [bP false,gX (gV v),iP e] (gY (canon false v e)):=by
 refine⟨Tryz.call267,fun w B vs hK hB hr=>?_⟩;obtain⟨v1,vs,rfl,h1,hr⟩:=hr.lY;obtain⟨v2,vs,rfl,h2,hr⟩:=hr.lY;obtain⟨v3,vs,rfl,h3,hr⟩:=hr.lY;obtain rfl:=hr.qh;obtain rfl:=iG.kK h1;obtain rfl:=iG.kK h3;obtain⟨A,c,rfl,s1⟩:=uw (kA v) h2;exact(agr v e A c w h0 s1 hK hl kR kx).mono fun e w' h=>rd B w e w' hB h
open Go.RowKit Fp Pu
def jK(n d y:Nat):Nat:=n*2^y/d
def kW(n d y:Nat):Nat:=n*2^y%d
theorem KV(n d y:Nat):n*2^(y+1)=d*(2*jK n d y)+2*kW n d y:=by
 have:=bT (n*2^y) d;unfold jK kW;rw[aZ,<-bc,cD];omega
theorem ab1{n d y:Nat}(hd:0<d)(h:2*kW n d y<d):kW n d (y+1)=2*kW n d y/\jK n d (y+1)=2*jK n d y:=by
 constructor
 .conv=>lhs;unfold kW
  rw[KV n d y,dw,bu h]
 .conv=>lhs;unfold jK
  rw[KV n d y,c9 hd,bS h,bt]
theorem ab2{n d y:Nat}(hd:0<d)(h:¬2*kW n d y<d):kW n d (y+1)=2*kW n d y-d/\jK n d (y+1)=2*jK n d y+1:=by
 have hr:kW n d y<d:=bg _ hd;have e:n*2^(y+1)=d*(2*jK n d y+1)+(2*kW n d y-d):=by
  rw[KV n d y,bn,bO];omega
 constructor
 .conv=>lhs;unfold kW
  rw[e,dw,bu ae]
 .conv=>lhs;unfold jK
  rw[e,c9 hd,bS ae,bt]
theorem Ra{n d:Nat}(hn:1<=n)(hd:1<=d)(tg:d<=1073741824)(p:Nat):∃ K,K<p+31/\(∀ y,y<K->ib (jK n d y)<p)/\p<=ib (jK n d K):=by
 have hx:p<=ib (jK n d (p+30)):=by
  refine cW (sk.2 ?_);unfold jK;rw[cL hd,aV];have h1:2^p*d<=2^p*2^30:=ca _ ae;have h2:=bC (2^p*2^30) hn;rw[bI]at h2;exact aX h1 h2
 obtain⟨K,h1,h2,h3⟩:=qI (n:=p+31) (p:=fun y=>decide (p<=ib (jK n d y))) ⟨p+30,ae,aS hx⟩;exact⟨K,h1,fun y hy=>by have:=fu (h3 y hy);omega,ct h2⟩
def oL(r m x:Nat):Bool:=decide (r=0)&&decide (m%2^x=0)
theorem Cr{r m x:Nat}:oL r m x=true↔r=0/\m%2^x=0:=by
 unfold oL;rw[bA,bZ,bZ]
theorem abY(r m:Nat):((r:Int)==0)=oL r m 0:=by
 rw[cQ,Cr,bN,cH,beq_iff_eq];omega
theorem abW{r m x:Nat}(h:oL r m x=false):oL r m (x+1)=false:=by
 refine aM fun q=>?_
 rw[Cr]at q;have h2:=IS m x;have h3:m%2^x=0:= ae ;rw[Cr.2 ⟨q.1,h3⟩]at h;cases h
theorem abX{r m x:Nat}(h:oL r m x=true)(hb:m/2^x%2=0):oL r m (x+1)=true:=by
 rw[Cr]at h ⊢;refine⟨h.1,?_⟩;rw[IS,hb,h.2,ch]
theorem abV{r m x:Nat}(hb:¬m/2^x%2=0):oL r m (x+1)=false:=by
 refine aM fun q=>?_
 rw[Cr]at q;have h2:=IS m x;have h3:m/2^x%2*2^x=0:= ae ;rcases amL.1 h3 with k|k
 .exact hb k
 .exact absurd k (dF (aY ag))
def lf(n d p K:Nat):Nat:=ib (jK n d K)-p
def jT(n d p K:Nat):Nat:=jK n d K/2^lf n d p K
def nD(n d p K:Nat):Int:=(0-(K:Int))+(lf n d p K:Int)
theorem W4{x y c:Rat}(hc:0<c):x<=y↔x*c<=y*c:=
 ⟨fun h=>b8 h (bB hc),fun h=>ew h hc⟩
section
variable {a n d l K:Nat}
theorem VD(hd:1<=d):0<(d:Rat)*P2 (K:Int)/\(n:Rat)/(d:Rat)*((d:Rat)*P2 (K:Int))=((n*2^K:Nat):Rat):=by
 have h0:(0:Rat)<(d:Rat):=fl.2 ae;refine⟨dL h0 (mZ _),?_⟩;rw[<-ef,dm aq,uG,<-cO]
theorem Vk:(a:Rat)*P2 ((0-(K:Int))+(l:Int))*((d:Rat)*P2 (K:Int))=((a*2^l*d:Nat):Rat):=by
 have e:P2 ((0-(K:Int))+(l:Int))*P2 (K:Int)=((2^l:Nat):Rat):=by
  rw[<-qn,show 0-(K:Int)+(l:Int)+(K:Int)=(l:Int)by omega,uG]
 rw[cO,cO,<-e]
 grind
theorem Ng(hd:1<=d):(a:Rat)*P2 ((0-(K:Int))+(l:Int))<=(n:Rat)/(d:Rat)↔a*2^l*d<=n*2^K:=by
 obtain⟨h1,h2⟩:=VD (n:=n) (K:=K) hd;rw[W4 h1,h2,Vk,cX]
theorem NG(hd:1<=d):(n:Rat)/(d:Rat)<=(a:Rat)*P2 ((0-(K:Int))+(l:Int))↔n*2^K<=a*2^l*d:=by
 obtain⟨h1,h2⟩:=VD (n:=n) (K:=K) hd;rw[W4 h1,h2,Vk,cX]
end
section
variable {n d p K:Nat}
theorem G7(hb:p<=ib (jK n d K)):ib (jT n d p K)=p:=by
 unfold jT lf;rw[PZ ae];omega
theorem KW(hd:1<=d)(j8:n<=1073741824)(hb:p<=ib (jK n d K))(hp:1<=p):lf n d p K<=31+K:=by
 unfold lf;have h1:jK n d K<=n*2^K:=bw _ _;have h2:n*2^K<2^(31+K):=by
  rw[aV];exact cC ae (aY ag)
 have:=kO.2 (bQ h1 h2);omega
theorem Q8(hd:1<=d):jT n d p K*2^lf n d p K*d<=n*2^K/\n*2^K<(jT n d p K+1)*2^lf n d p K*d/\(oL (kW n d K) (jK n d K) (lf n d p K)=true↔n*2^K=jT n d p K*2^lf n d p K*d):=by
 have h1:=bT (n*2^K) d;have h2:=bg (n*2^K) (show 0<d by omega);change d*jK n d K+kW n d K=n*2^K at h1;change kW n d K<d at h2;have h3:=bT (jK n d K) (2^lf n d p K);have h4:=bg (jK n d K) (aY (n:=lf n d p K) (show 0<2 by decide));change 2^lf n d p K*jT n d p K+jK n d K%2^lf n d p K=jK n d K at h3;rw[Cr,<-h1];generalize jK n d K=M at *
 generalize kW n d K=R at *
 generalize jT n d p K=T at *
 generalize 2^lf n d p K=q at *
 generalize M%q=s at *
 subst h3;have e1:T*q*d=d*(q*T):=by rw[a7,a7 T]
 have e2:(T+1)*q*d=d*(q*T)+d*q:=by rw[bK,bI,bK,e1,a7 q d]
 have e3:d*(q*T+s)=d*(q*T)+d*s:=bn _ _ _;have e4:d*s+d<=d*q:=by
  have:=ca d h4;rw[Nat.succ_eq_add_one,bn,bO]at this;exact this
 rw[e1,e2,e3];refine⟨ae,ae,?_⟩;constructor
 .rintro ⟨rfl,rfl⟩;simp
 .intro h
  have e5:d*s=0:= ae ;refine⟨ae,?_⟩;rcases amL.1 e5 with k|k
  .omega
  .exact k
variable (hn:1<=n) (j8:n<=1073741824) (hd:1<=d) (hp:8<=p) (ic:p<=512) (hK:K<p+31) (hb:p<=ib (jK n d K))
include j8 hd hp ic hK hb
theorem Rl:Dn p ((n:Rat)/(d:Rat)) (canon false (jT n d p K) (nD n d p K)) 0:=by
 have hl:=KW hd j8 hb ae;obtain⟨b1,b2,_⟩:=Q8 (n:=n) (d:=d) (p:=p) (K:=K) hd;refine ag5 (G7 hb) ae aC aC ((Ng hd).2 b1) ?_;apply Rat.not_le.1;intro q;have:=(Ng hd).1 q;omega
theorem Rm:Up p ((n:Rat)/(d:Rat)) (if oL (kW n d K) (jK n d K) (lf n d p K)=true then canon false (jT n d p K) (nD n d p K)else canon false (jT n d p K+1) (nD n d p K)) 0:=by
 have hl:=KW hd j8 hb ae;obtain⟨b1,b2,b3⟩:=Q8 (n:=n) (d:=d) (p:=p) (K:=K) hd;split
 .rename_i h
  have h:=b3.1 h;exact acD (G7 hb) aC aC (dN ((NG hd).2 ae) ((Ng hd).2 ae))
 .rename_i h
  have h:¬n*2^K=jT n d p K*2^lf n d p K*d:=fun q=>h (b3.2 q)
  refine ag7 (G7 hb) ae aC aC ?_ ((NG hd).2 ae);apply Rat.not_le.1;intro q;have:=(NG hd).1 q;omega
end
theorem alA{p:Nat}{v:Rat}{D:Dy}{E:Int}(h:Up p v D E):Dn p (-v) (iF D) E:=
 ⟨fun he=>⟨by rw[oF];exact(h.1 he).1.neg,by rw[oF];have:=(h.1 he).2;grind⟩,fun g hg L4=>by
  obtain⟨a,b⟩:=h.2 (-g) hg.neg aq;exact⟨a,by rw[oF];grind⟩⟩
theorem abD{p:Nat}{v:Rat}{D:Dy}{E:Int}(h:Dn p v D E):Up p (-v) (iF D) E:=
 ⟨fun he=>⟨by rw[oF];exact(h.1 he).1.neg,by rw[oF];have:=(h.1 he).2;grind⟩,fun g hg L4=>by
  obtain⟨a,b⟩:=h.2 (-g) hg.neg aq;exact⟨a,by rw[oF];grind⟩⟩
theorem N9{n d:Int}{p:Nat}(hp:8<=p)(ic:p<=512)(hr:lL n d=true){lo hi:Dy}(h1:Dn p ((n:Rat)/(d:Rat)) lo 0)(h2:Up p ((n:Rat)/(d:Rat)) hi 0)(c1:lo.lI)(c2:hi.lI):nI n d p=⟨lo,hi,false⟩:=by
 obtain⟨r1,_⟩:=FI hr;have d0:(je d).m≠0:=Mz ae;obtain⟨A,B⟩:=KL (a:=je n) (b:=je d) d0 (p:=p) ae ae;rw[xB,xB]at A B;obtain⟨e1,e2⟩:=abE h1 A c1 (GY d0 ae ae _).canon;obtain⟨e3,e4⟩:=alB h2 B c2 (GY d0 ae ae _).canon;unfold nI;rw[aR hr,e1,e2,e3,e4];rfl
theorem ajU{d:Int}{p:Nat}(hp:8<=p)(ic:p<=512)(hr:lL 0 d=true):nI 0 d p=⟨jA,jA,false⟩:=by
 have hz:((0:Int):Rat)/(d:Rat)=0:=by rw[cA,show((0:Int):Rat)=0 from rfl,gE]
 refine N9 hp ic hr ?_ ?_ rD.canon rD.canon
 .rw [hz]
  exact⟨fun _=>⟨by rw[rz];exact .inl (wP p),by rw[rz];exact b9⟩,fun g _ h=>⟨rfl,by rw[rz];exact h⟩⟩
 .rw [hz]
  exact⟨fun _=>⟨by rw[rz];exact .inl (wP p),by rw[rz];exact b9⟩,fun g _ h=>⟨rfl,by rw[rz];exact h⟩⟩
section
variable {n d p K:Nat}
theorem ajS(j8:n<=1073741824)(hd:1<=d)(hp:8<=p)(ic:p<=512)(hK:K<p+31)(hb:p<=ib (jK n d K))(hr:lL (n:Int) (d:Int)=true):
 nI (n:Int) (d:Int) p=⟨canon false (jT n d p K) (nD n d p K),if oL (kW n d K) (jK n d K) (lf n d p K)=true then canon false (jT n d p K) (nD n d p K)else canon false (jT n d p K+1) (nD n d p K),false⟩:=by
 refine N9 hp ic hr (Rl j8 hd hp ic hK hb) (Rm j8 hd hp ic hK hb) (qP _ _ _) ?_;split<;>exact qP _ _ _
theorem ajR(j8:n<=1073741824)(hd:1<=d)(hp:8<=p)(ic:p<=512)(hK:K<p+31)(hb:p<=ib (jK n d K))(hr:lL (-(n:Int)) (d:Int)=true):
 nI (-(n:Int)) (d:Int) p=⟨iF (if oL (kW n d K) (jK n d K) (lf n d p K)=true then canon false (jT n d p K) (nD n d p K)else canon false (jT n d p K+1) (nD n d p K)),iF (canon false (jT n d p K) (nD n d p K)),false⟩:=by
 have e:((-(n:Int):Int):Rat)/((d:Int):Rat) = -((n:Rat)/(d:Rat)):=by
  rw[fM,cA,cA,fN];rfl
 refine N9 hp ic hr ?_ ?_ (Db ?_) (Db (qP _ _ _))
 .rw [e];exact alA (Rm j8 hd hp ic hK hb)
 .rw [e];exact abD (Rl j8 hd hp ic hK hb)
 .split<;>exact qP _ _ _
end
open Go.RowKit Fp Pu
def Vl(v:Nat)(N:Nat)(x:Nat):PS:=⟨29,false,[(4,.e (iP x)),(3,.own 5)],[(5,.row false 79 ((gV v).length) 1 (jb (kF 0 v x (gV v).length)))]⟩
def Vm(v:Nat)(x:Nat):PS:=⟨29,false,[(4,.e (iP x)),(3,.own 5)],[(5,.row false 79 ((gV v).length) 1 (jb (kF 0 v x (gV v).length)))]⟩
def Rc(n d p:Nat)(x:Nat):PS:=⟨130,true,[(11,.e (iP (63-(x:Int)))),(10,.e (iP 0)),(9,.e (.v (.int .u64 (iO n d 64 x:Int)))),(8,.e (gX (gV (kH n d 64 x)))),(7,.box 7 0),(6,.box 6 0),(0,.e (.v (.int .u64 (n:Int)))),(1,.e (.v (.int .u64 (d:Int)))),(2,.e (iP p))],[(7,.cells 31 [(bP false),(.v (.slice none 0 0)),(iP 0)]),(6,.cells 31 [(bP false),(.v (.slice none 0 0)),(iP 0)])]⟩
def Rd(n d p:Nat)(y:Nat):PS:=⟨130,true,[(10,.e (iP (0-(y:Int)))),(9,.e (.v (.int .u64 (kW n d y:Int)))),(8,.e (gX (gV (jK n d y)))),(7,.box 7 0),(6,.box 6 0),(1,.e (.v (.int .u64 (d:Int)))),(2,.e (iP p))],[(7,.cells 31 [(bP false),(.v (.slice none 0 0)),(iP 0)]),(6,.cells 31 [(bP false),(.v (.slice none 0 0)),(iP 0)])]⟩
def Re(n d p K:Nat)(y:Nat):PS:=⟨130,false,[(15,.own 15),(16,.e (iP (((32*y):Nat):Int))),(14,.e (bP ((kW n d K:Int)==0))),(13,.e (iP (lf n d p K:Int))),(10,.e (iP (0-(K:Int)))),(8,.e (gX (gV (jK n d K)))),(7,.box 7 0),(6,.box 6 0),(2,.e (iP p))],[(15,.row false 79 y 1 (jb (iK (jT n d p K) y))),(7,.cells 31 [(bP false),(.v (.slice none 0 0)),(iP 0)]),(6,.cells 31 [(bP false),(.v (.slice none 0 0)),(iP 0)])]⟩
def Rf(n d p K y:Nat)(k:Nat):PS:=⟨130,false,[(18,.e (iP k)),(17,.e (.v (.int .u32 ((((iA (jT n d p K) y)%2^k):Nat):Int)))),(15,.own 15),(16,.e (iP (((32*y):Nat):Int))),(14,.e (bP ((kW n d K:Int)==0))),(13,.e (iP (lf n d p K:Int))),(10,.e (iP (0-(K:Int)))),(8,.e (gX (gV (jK n d K)))),(7,.box 7 0),(6,.box 6 0),(2,.e (iP p))],[(15,.row false 79 y 1 (jb (iK (jT n d p K) y))),(7,.cells 31 [(bP false),(.v (.slice none 0 0)),(iP 0)]),(6,.cells 31 [(bP false),(.v (.slice none 0 0)),(iP 0)])]⟩
def Rg(n d p K y:Nat)(k:Nat):PS:=⟨130,false,[(18,.e (iP k)),(17,.e (.v (.int .u32 ((((iA (jT n d p K) y)%2^k):Nat):Int)))),(15,.own 15),(16,.e (iP (((32*y):Nat):Int))),(14,.e (bP ((kW n d K:Int)==0))),(13,.e (iP (lf n d p K:Int))),(10,.e (iP (0-(K:Int)))),(8,.e (gX (gV (jK n d K)))),(7,.box 7 0),(6,.box 6 0),(2,.e (iP p))],[(15,.row false 79 y 1 (jb (iK (jT n d p K) y))),(7,.cells 31 [(bP false),(.v (.slice none 0 0)),(iP 0)]),(6,.cells 31 [(bP false),(.v (.slice none 0 0)),(iP 0)])]⟩
def Rh(n d p K:Nat)(x:Nat):PS:=⟨130,true,[(19,.e (iP x)),(15,.e (gX (gV (jT n d p K)))),(14,.e (bP (oL (kW n d K) (jK n d K) x))),(13,.e (iP (lf n d p K:Int))),(10,.e (iP (0-(K:Int)))),(8,.e (gX (gV (jK n d K)))),(7,.box 7 0),(6,.box 6 0)],[(7,.cells 31 [(bP false),(.v (.slice none 0 0)),(iP 0)]),(6,.cells 31 [(bP false),(.v (.slice none 0 0)),(iP 0)])]⟩
theorem WR{T n n':Nat}{L L':List Nat}(hn:n=0+L.length)(wk:n'=L.length)(h:L'=L):Bx.le (.row false T n 1 fun i_ j_=>if i_<0 then(fun i_ j_=>([]:List E).getD (i_*1+j_) (.v (.bool false))) i_ j_ else(E.mc (gX L)) (i_-0) j_) (.row false T n' 1 (jb L')):=by
 subst h;refine .row ae fun i j hi hj=>?_
 simp only[bj,a6,dh];exact⟨.iU rfl,rfl⟩
theorem Y2{L:List Nat}{n:Nat}(hn:n=0+L.length):E.le (.sl false n 1 fun i_ j_=>if i_<0 then(fun i_ j_=>([]:List E).getD (i_*1+j_) (.v (.bool false))) i_ j_ else(E.mc (gX L)) (i_-0) j_) (gX L):=by
 rw[<-AI (show n=L.length by omega)];refine .sl fun i j hi hj=>?_
 simp only[bj,a6,dh];exact⟨.iU rfl,rfl⟩
theorem ag8{f:Nat->Nat->E}{v:Nat}(h:v=0):E.le (.sl true 0 1 f) (gX (gV v)):=by
 subst h;rw[ni];intro bs br w v k;cases k with
 |sl _ _ _ _ A c g h1 h2 h3 h4 h5 h6 h7=>exact .sl false 0 1 _ A c g h1 h2 h3 (fun i j hi=>absurd hi (bj i)) (fun i j hi=>absurd hi (bj i)) (fun i j hi=>absurd hi (bj i)) (fun i j hi=>absurd hi (bj i))
theorem agb{L M:List Nat}{n p z:Nat}(hn:n=L.length)(hp:p<L.length)(hs:L.set p z=M):E.le (.sl false n 1 fun i' j'=>if i'=p/\0<=j'/\j'<0+1 then[(.v (.int .u32 (z:Int)))].getD (j'-0) .any else(jb L) i' j') (gX M):=by
 subst hs;have e:n=(L.set p z).length:=by rw[cv];omega
 rw[<-AI e];refine .sl fun i j hi hj=>?_
 obtain rfl:j=0:= ae ;by_cases h:i=p
 .subst h
  simp only[true_and,aU,amJ,bk,bW];exact⟨.iU (by show _=E.v (.int .u32 (((L.set i z).getD i 0:Nat):Int));rw[aW (l:=L.set i z),List.getElem?_set_self hp];rfl),rfl⟩
 .simp only[h,false_and,a6]
  exact⟨.iU (by show E.v (.int .u32 (L.getD i 0:Int))=E.v (.int .u32 (((L.set p z).getD i 0:Nat):Int));rw[aW,aW,gn (fun q=>h q.symm)]),rfl⟩
theorem af8{N l n:Nat}{L:List Nat}(hn:n=l+1)(h1:iK N (l+1)=L)(h2:iA N l=1):E.le (.sl false n 1 fun i_ j_=>if i_<l then(jb (iK N l)) i_ j_ else(E.mc (gX (gV 1))) (i_-l) j_) (gX L):=by
 subst hn h1;rw[<-AI (mF N (l+1)).symm];refine .sl fun i j hi hj=>?_
 obtain rfl:j=0:= ae ;by_cases h:i<l
 .simp only[h,bk]
  exact⟨.iU (by unfold jb;rw[s7 h,s7 ae]),rfl⟩
 .obtain rfl:i=l:= ae 
  simp only[fj,a6,cT];exact⟨.iU (by show E.v (.int .u32 (((gV 1).getD 0 0:Nat):Int))=_;unfold jb;rw[s7 ae,h2,Un];rfl),rfl⟩
theorem ag3(v:Nat)(hs:(gV v).length<=1000000)(N:Nat)(hN:N<(gV v).length)(iH:∀ k,k<N->iA v k=4294967295)(hd:iA v N≠4294967295):gU 268 [(gX (gV v))] (gX (gV (v+1))):=by
 have iD:=pE v N;exact tr false Tryz.call268 Tryz.func268 (chain [.bo,.a (ae:(0+(gV v).length)*4<=140737488355328),.s (Sp.jx (Vl v N) 0 N ae (fun x hx ke=>by
    have uZ:=iH x ae;exact iB (chain [tT 11 ((x:Int)<((gV v).length:Int)) ae,iX ((x:Int)) ((gV v).length) ae,.a (ae:x<(gV v).length),.o 17 (.int (by rw[E6 ae]):PV.le (.e (.v (.int .u32 ((((kF 0 v x (gV v).length).getD x 0):Nat):Int)))) (.e (.v (.int .u32 (iA v x:Int))))),.o 18 (.int (by rw[uZ,AY];rfl):PV.le (.e (.v (.int .u32 (IntKind.u32.wrap ((iA v x:Int)+1))))) (.e (.v (.int .u32 (iA 0 x:Int))))),iX ((x:Int)) ((gV v).length) ae,.a (ae:x<(gV v).length),iX ((x:Int)) ((gV v).length) ae,.a (ae:x<(gV v).length),.o 23 (.e (.iU aj):PV.le (.e ((fun i' j'=>if i'=x/\0<=j'/\j'<0+1 then[(.v (.int .u32 (iA 0 x:Int)))].getD (j'-0) .any else(jb (kF 0 v x (gV v).length)) i' j') x 0)) (.e (.v (.int .u32 (iA 0 x:Int))))),tB 24 (BH (AY x):((iA 0 x:Int) != 0)=false),iq ((x:Int)+1) ae]<|.e (chain [.b 5 (Dv rfl aG IW:Bx.le (.row false 79 ((gV v).length) 1 (fun i' j'=>if i'=x/\0<=j'/\j'<0+1 then[(.v (.int .u32 (iA 0 x:Int)))].getD (j'-0) .any else(jb (kF 0 v x (gV v).length)) i' j')) (.row false 79 ((gV v).length) 1 (jb (kF 0 v (x+1) (gV v).length))))]<|.nil)) ah)
  (fun hx=>by
    exact iB (chain [tT 11 ((N:Int)<((gV v).length:Int)) ae,iX ((N:Int)) ((gV v).length) ae,.a (ae:N<(gV v).length),.o 17 (.int (by rw[E6 ae]):PV.le (.e (.v (.int .u32 ((((kF 0 v N (gV v).length).getD N 0):Nat):Int)))) (.e (.v (.int .u32 (iA v N:Int))))),.o 18 (.int aE:PV.le (.e (.v (.int .u32 (IntKind.u32.wrap ((iA v N:Int)+1))))) (.e (.v (.int .u32 (((iA v N+1):Nat):Int))))),iX ((N:Int)) ((gV v).length) ae,.a (ae:N<(gV v).length),iX ((N:Int)) ((gV v).length) ae,.a (ae:N<(gV v).length),.o 23 (.e (.iU aj):PV.le (.e ((fun i' j'=>if i'=N/\0<=j'/\j'<0+1 then[(.v (.int .u32 (((iA v N+1):Nat):Int)))].getD (j'-0) .any else(jb (kF 0 v N (gV v).length)) i' j') N 0)) (.e (.v (.int .u32 (((iA v N+1):Nat):Int))))),tB 24 (Fh ae:((((iA v N+1):Nat):Int) != 0)=true)]<|.nil) ah) ak:ju 3 Tryz.f268 (Vl v N 0) .ret ⟨29,false,[(2,.own 5)],[(5,.row false 79 ((gV v).length) 1 (fun i' j'=>if i'=N/\0<=j'/\j'<0+1 then[(.v (.int .u32 (((iA v N+1):Nat):Int)))].getD (j'-0) .any else(jb (kF 0 v N (gV v).length)) i' j'))]⟩) (chain [.b 5 (WR rfl rfl (by rw[E7,KK]):Bx.le (.row false 79 (0+(gV v).length) 1 (fun i_ j_=>if i_<0 then(fun i_ j_=>([]:List E).getD (i_*1+j_) (.v (.bool false))) i_ j_ else(E.mc (gX (gV v))) (i_-0) j_)) (.row false 79 ((gV v).length) 1 (jb (kF 0 v 0 (gV v).length))))]<|.nil)]<|rR (gX (gV (v+1))) (agb (by rw[ui]) (by rw[ui];exact hN) (ag6 hN iH hd):E.le (.sl false ((gV v).length) 1 (fun i' j'=>if i'=N/\0<=j'/\j'<0+1 then[(.v (.int .u32 (((iA v N+1):Nat):Int)))].getD (j'-0) .any else(jb (kF 0 v N (gV v).length)) i' j')) (gX (gV (v+1))))) ah 
theorem ag1(v:Nat)(hs:(gV v).length<=1000000)(iH:∀ k,k<(gV v).length->iA v k=4294967295):gU 268 [(gX (gV v))] (gX (gV (v+1))):=by
 obtain⟨h1,h2,h3⟩:=ag4 iH;have CG:(kF 0 v ((gV v).length) (gV v).length)=iK (v+1) (gV v).length:=by rw[IV (aU _),h1]
 have yx:(gV 1).length=1:=by rw[Un];rfl
 exact tr false Tryz.call268 Tryz.func268 (chain [.bo,.a (ae:(0+(gV v).length)*4<=140737488355328),.s (Sp.jx (Vm v) 0 ((gV v).length) ae (fun x hx ke=>by
    have uZ:=iH x ae;exact iB (chain [tT 11 ((x:Int)<((gV v).length:Int)) ae,iX ((x:Int)) ((gV v).length) ae,.a (ae:x<(gV v).length),.o 17 (.int (by rw[E6 ae]):PV.le (.e (.v (.int .u32 ((((kF 0 v x (gV v).length).getD x 0):Nat):Int)))) (.e (.v (.int .u32 (iA v x:Int))))),.o 18 (.int (by rw[uZ,AY];rfl):PV.le (.e (.v (.int .u32 (IntKind.u32.wrap ((iA v x:Int)+1))))) (.e (.v (.int .u32 (iA 0 x:Int))))),iX ((x:Int)) ((gV v).length) ae,.a (ae:x<(gV v).length),iX ((x:Int)) ((gV v).length) ae,.a (ae:x<(gV v).length),.o 23 (.e (.iU aj):PV.le (.e ((fun i' j'=>if i'=x/\0<=j'/\j'<0+1 then[(.v (.int .u32 (iA 0 x:Int)))].getD (j'-0) .any else(jb (kF 0 v x (gV v).length)) i' j') x 0)) (.e (.v (.int .u32 (iA 0 x:Int))))),tB 24 (BH (AY x):((iA 0 x:Int) != 0)=false),iq ((x:Int)+1) ae]<|.e (chain [.b 5 (Dv rfl aG IW:Bx.le (.row false 79 ((gV v).length) 1 (fun i' j'=>if i'=x/\0<=j'/\j'<0+1 then[(.v (.int .u32 (iA 0 x:Int)))].getD (j'-0) .any else(jb (kF 0 v x (gV v).length)) i' j')) (.row false 79 ((gV v).length) 1 (jb (kF 0 v (x+1) (gV v).length))))]<|.nil)) ah)
  (fun hx=>by
    exact iB (chain [tF 11 (((gV v).length:Int)<((gV v).length:Int)) ae]<|.e (chain [.b 5 (.iU (by rw[CG]):Bx.le (.row false 79 ((gV v).length) 1 (jb (kF 0 v ((gV v).length) (gV v).length))) (.row false 79 ((gV v).length) 1 (jb (iK (v+1) (gV v).length))))]<|.nil)) ah) ak:ju 3 Tryz.f268 (Vm v 0) (.exit 0) ⟨29,false,[(3,.own 5)],[(5,.row false 79 ((gV v).length) 1 (jb (iK (v+1) (gV v).length)))]⟩) (chain [.b 5 (WR rfl rfl (by rw[E7,KK]):Bx.le (.row false 79 (0+(gV v).length) 1 (fun i_ j_=>if i_<0 then(fun i_ j_=>([]:List E).getD (i_*1+j_) (.v (.bool false))) i_ j_ else(E.mc (gX (gV v))) (i_-0) j_)) (.row false 79 ((gV v).length) 1 (jb (kF 0 v 0 (gV v).length))))]<|.nil),.o 27 (.e rY:PV.le (.e (.sl false 1 1 fun i_ j_=>[(.v (.int .u32 1))].getD (i_*1+j_) (.v (.bool false)))) (.e (gX (gV 1)))),.a (ae:((gV v).length+(gV 1).length)*4<=140737488355328)]<|rR (gX (gV (v+1))) (af8 ae h3 h2:E.le (.sl false ((gV v).length+(gV 1).length) 1 (fun i_ j_=>if i_<(gV v).length then(jb (iK (v+1) (gV v).length)) i_ j_ else(E.mc (gX (gV 1))) (i_-(gV v).length) j_)) (gX (gV (v+1))))) ah 
theorem ag2(v:Nat)(hs:(gV v).length<=1000000):gU 268 [gX (gV v)] (gX (gV (v+1))):=by
 by_cases h:∃ k,k<(gV v).length/\decide (iA v k≠4294967295)=true
 .obtain ⟨N,h1,h2,h3⟩:=qI h
  exact ag3 v hs N h1 (fun k hk=>bE fun q=>by have:=fu (h3 k hk);exact this q) (ct h2)
 .exact ag1 v hs fun k hk=>bE fun q=>h ⟨k,hk,aS q⟩
theorem agU(d:Dy)(h:d.m≠0):(Dy.mk (!d.neg) d.m d.e)=iF d:=by unfold iF;simp[h]
theorem agV(d:Dy)(hd:d.lI)(h:d.m=0):d=iF d:=by
 have:=hd;obtain⟨s,m,e⟩:=d;simp only at h;subst h;have hz:=Je hd (Db hd) (by rw[oF,qv];simp);exact hz
theorem agX(d:Dy)(h:d.m≠0):gU 223 [(gY d)] (gY (iF d)):=by
 exact tr true Tryz.call223 Tryz.func223 (chain [tT 6 (0<((gV d.m).length:Int)) (by have:¬(gV d.m).length=0:=fun q=>h (qT.1 q);omega)]<|rQ (gY (Dy.mk (!d.neg) d.m d.e)) (gY (iF d)) (by rw[agU d h])) ah 
theorem agW(d:Dy)(hd:d.lI)(h:d.m=0):gU 223 [(gY d)] (gY (iF d)):=by
 exact tr true Tryz.call223 Tryz.func223 (chain [tF 6 (0<((gV d.m).length:Int)) (by have:=qT.2 h;omega)]<|rQ (gY d) (gY (iF d)) (by rw[<-agV d hd h])) ah 
theorem Va(d:Dy)(hd:d.lI):gU 223 [gY d] (gY (iF d)):=by
 by_cases h:d.m=0
 .exact agW d hd h
 .exact agX d h
theorem abZ{n x:Nat}(hn:n<18446744073709551616)(hx:x<64):bits .and .u64 ((n:Int)/2^(63-(x:Int)).toNat) 1=(jh n 64 x:Int):=by
 have e:(63-(x:Int)).toNat=64-1-x:= ae ;have e2:(n:Int)/2^(64-1-x)=((n/2^(64-1-x):Nat):Int):= aj ;rw[e,e2,show(1:Int)=((1:Nat):Int)from rfl,OG _ _ (bQ (bw _ _) hn) ag,gi];rfl
theorem Q7{n d y:Nat}(hn:n<=1073741824):ib (jK n d y)<=31+y/\ib (2*jK n d y)<=32+y:=by
 have h:=bw (n*2^y) d;constructor
 .refine kO.2 (bQ h ?_)
  rw[aV];exact cC ae (aY ag)
 .have h3:2*jK n d y<=2*n*2^y:=by unfold jK;rw[bc];omega
  refine kO.2 (bQ h3 ?_);rw[aV];exact cC ae (aY ag)
theorem D8{n d y:Nat}(hn:n<=1073741824)(hy:y<=1000):(gV (jK n d y)).length<=100:=by
 have h1:=(Q7 (d:=d) (y:=y) hn).1;have h2:=EX (w:=jK n d y) (y:=100);omega
theorem ab0{n d y:Nat}(hn:n<=1073741824)(hy:y<=999):(gV (2*jK n d y)).length<=100:=by
 have h1:=(Q7 (d:=d) (y:=y) hn).2;have h2:=EX (w:=2*jK n d y) (y:=100);omega
theorem Xq{v:Nat}(h:v<18446744073709551616):(gV v).length<=2:=q9 h
theorem ab3{T p y:Nat}(hT:ib T=p)(h:p-32*y<32):iA T y<2^(p-32*y):=by
 have h1:=oN T;rw[hT]at h1;unfold iA;refine bQ (dk _ _) ?_;rw[bR (pw y),nF,<-aV];exact bD h1 (bh ag ae)
theorem ab4{T p Y:Nat}(hT:ib T=p)(hp:1<=p)(hY:Y=(p+31)/32):iK T Y=gV T:=by
 apply EY;have h1:∀ y,y<(gV T).length↔32*y<ib T:=fun y=>EX
 have h2:=h1 Y;have h3:=h1 (Y-1);rw[hT]at h2 h3;omega
theorem Q9{n d p K y k:Nat}(hk:k<32):jK n d K/2^((lf n d p K+32*y)+k)%2=iA (jT n d p K) y/2^k%2:=by
 rw[QL hk];unfold jT;rw[cz,<-aV,cE]
theorem ace(n d p K:Nat)(hn:1<=n)(j8:n<=1073741824)(hd:1<=d)(tg:d<=1073741824)(hp:8<=p)(ic:p<=512)(hK:K<p+31)(iH:∀ y,y<K->ib (jK n d y)<p)(hb:p<=ib (jK n d K))(Y:Nat)(hY:Y=(p+31)/32):gU 222 [(.v (.int .u64 (n:Int))),(.v (.int .u64 (d:Int))),(iP p)] (.iw [gY (canon false (jT n d p K) (nD n d p K)),gY (if(oL (kW n d K) (jK n d K) (lf n d p K))=true then canon false (jT n d p K) (nD n d p K)else canon false ((jT n d p K)+1) (nD n d p K))]):=by
 have h0:=Q2 (a:=n) (b:=d) (n:=64) ae;have h1:kH n d 64 64=jK n d 0/\iO n d 64 64=kW n d 0:=by
  obtain⟨a,b⟩:=QY n d 64;rw[a,b];unfold jK kW;rw[bN,bO];exact⟨rfl,rfl⟩
 have kp:=G7 hb;have hTY:=ab4 kp ae hY;have hLo:=KW hd j8 hb ae;have hlK:=D8 (d:=d) (y:=K) j8 ae;have hT0:(jT n d p K)≠0:=fun q=>by rw[q,qX]at kp;omega
 have A9:(gV (jT n d p K)).length<=100:=by
  have:=EX (w:=(jT n d p K)) (y:=100);omega
 have amk:(gV ((jT n d p K)+1)).length<=101:=by
  have h2:=uh A9;refine q9 ?_;rw[aZ];omega
 have hL4:lf n d p K=ib (jK n d K)-p:=rfl;exact tr true Tryz.call222 Tryz.func222 (chain [.s (Sp.jx (Rc n d p) 0 64 ae (fun x hx ke=>by
    have hr:(iO n d 64 x)<d:=bg _ ae;have nE:=GZ n 64 x;have vc:(kH n d 64 x)<=n:=aX (bw _ _) (bw _ _);have xk:=Xq (show(kH n d 64 x)<18446744073709551616 by omega);have ns:=Xq (show 2*(kH n d 64 x)<18446744073709551616 by omega);exact iB (chain [tT 23 (0<=(63-(x:Int))) ae,pd (2*(iO n d 64 x:Int)) ae,.a (ae:0<=((63-(x:Int)):Int)/\((63-(x:Int)):Int)<=((64:Nat):Int)),.o 31 (.int (abZ ae ae):PV.le (.e (.v (.int .u64 (bits .and .u64 ((n:Int)/2^((63-(x:Int))).toNat) 1)))) (.e (.v (.int .u64 (jh n 64 x:Int))))),
     pd ((((2*(iO n d 64 x)):Nat):Int)+(jh n 64 x:Int)) ae,.a (ae:0<((d:Int):Int)),pd (((((2*(iO n d 64 x))+(jh n 64 x)):Nat):Int)) ae,.a (ae:0<((d:Int):Int)),.bo,.bo,.a (ae:(0+(gV (kH n d 64 x)).length)*4<=140737488355328),.o 41 (.e (Y2 rfl):PV.le (.e (.sl false (0+(gV (kH n d 64 x)).length) 1 (fun i_ j_=>if i_<0 then(fun i_ j_=>([]:List E).getD (i_*1+j_) (.v (.bool false))) i_ j_ else(E.mc (gX (gV (kH n d 64 x)))) (i_-0) j_))) (.e (gX (gV (kH n d 64 x))))),.c (Xe _ ae:gU 263 [(gX (gV (kH n d 64 x))),(.v (.int .u64 0))] _)]<|.w (((2*(iO n d 64 x))+(jh n 64 x))<d)
     (fun hq=>by
      have hm:((2*(iO n d 64 x))+(jh n 64 x))%d=((2*(iO n d 64 x))+(jh n 64 x)):=by rw[bu hq]
      have hqd:((2*(iO n d 64 x))+(jh n 64 x))/d=0:=bS hq;have hs:=QZ (a:=n) (b:=d) (n:=64) (x:=x) ae ae hq;exact chain [tB 44 (aJ ae:((((((2*(iO n d 64 x))+(jh n 64 x))/d):Nat):Int)==1)=false),iq ((63-(x:Int))-1) ae]<|.e (chain [.o 11 (.int ae:PV.le (.e (iP ((63-(x:Int))-1))) (.e (iP (63-(((x+1):Nat):Int))))),.o 9 (.int (by rw[hs.1,hm]):PV.le (.e (.v (.int .u64 (((((2*(iO n d 64 x))+(jh n 64 x))%d):Nat):Int)))) (.e (.v (.int .u64 (iO n d 64 (x+1):Int))))),.o 8 (.e (.iU (by rw[hs.2])):PV.le (.e (gX (gV (2*(kH n d 64 x))))) (.e (gX (gV (kH n d 64 (x+1))))))]<|.nil))
     (fun hq=>by
      have hm:((2*(iO n d 64 x))+(jh n 64 x))%d=((2*(iO n d 64 x))+(jh n 64 x))-d:=by rw[Nat.mod_eq_sub_mod ae,bu ae]
      have hqd:((2*(iO n d 64 x))+(jh n 64 x))/d=1:=by rw[Nat.div_eq_sub_div ae ae,bS ae]
      have hs:=Q0 (a:=n) (b:=d) (n:=64) (x:=x) ae ae hq;exact chain [tB 44 (aK ae:((((((2*(iO n d 64 x))+(jh n 64 x))/d):Nat):Int)==1)=true),.c (Xd _ ae ae:gU 264 [(gX (gV (2*(kH n d 64 x))))] _),
       iq ((63-(x:Int))-1) ae]<|.e (chain [.o 11 (.int ae:PV.le (.e (iP ((63-(x:Int))-1))) (.e (iP (63-(((x+1):Nat):Int))))),.o 9 (.int (by rw[hs.1,hm]):PV.le (.e (.v (.int .u64 (((((2*(iO n d 64 x))+(jh n 64 x))%d):Nat):Int)))) (.e (.v (.int .u64 (iO n d 64 (x+1):Int))))),.o 8 (.e (.iU (by rw[hs.2])):PV.le (.e (gX (gV ((2*(kH n d 64 x))+1)))) (.e (gX (gV (kH n d 64 (x+1))))))]<|.nil))) ah)
  (fun hx=>by
    exact iB (chain [tF 23 (0<=(63-((64:Nat):Int))) ae]<|.nil) ah) ak:ju 5 Tryz.f222 (Rc n d p 0) (.exit 0) ⟨130,true,[(10,.e (iP 0)),(9,.e (.v (.int .u64 (iO n d 64 64:Int)))),(8,.e (gX (gV (kH n d 64 64)))),(7,.box 7 0),(6,.box 6 0),(1,.e (.v (.int .u64 (d:Int)))),(2,.e (iP p))],[(7,.cells 31 [(bP false),(.v (.slice none 0 0)),(iP 0)]),(6,.cells 31 [(bP false),(.v (.slice none 0 0)),(iP 0)])]⟩) (chain [.o 11 (.int ae:PV.le (.e (iP 63)) (.e (iP (63-((0:Nat):Int))))),.o 9 (.int (by rw[h0.1];rfl):PV.le (.e (.v (.int .u64 0))) (.e (.v (.int .u64 (iO n d 64 0:Int))))),.o 8 (.e (ag8 h0.2):PV.le (.e (.sl true 0 1 fun i_ j_=>[].getD (i_*1+j_) (.v (.bool false)))) (.e (gX (gV (kH n d 64 0)))))]<|.nil),.s (Sp.jx (Rd n d p) 0 K ae (fun y hy S1=>by
    have xk:=D8 (d:=d) (y:=y) j8 ae;have ns:=ab0 (d:=d) (y:=y) j8 ae;have hbn:=iH y ae;have Iw:(kW n d y)<d:=bg _ ae;exact iB (chain [.c (GF _ ae:gU 265 [(gX (gV (jK n d y)))] _),tT 50 ((ib (jK n d y):Int)<(p:Int)) ae,pd (2*(kW n d y:Int)) ae,.c (Xe _ ae:gU 263 [(gX (gV (jK n d y))),(.v (.int .u64 0))] _)]<|.w (2*kW n d y<d)
     (fun hq=>by
      have hs:=ab1 (n:=n) (d:=d) (y:=y) ae hq;exact chain [tF 57 ((d:Int)<=(((2*(kW n d y)):Nat):Int)) ae,iq ((0-(y:Int))-1) ae]<|.e (chain [.o 10 (.int ae:PV.le (.e (iP ((0-(y:Int))-1))) (.e (iP (0-(((y+1):Nat):Int))))),.o 9 (.int (by rw[hs.1]):PV.le (.e (.v (.int .u64 (((2*(kW n d y)):Nat):Int)))) (.e (.v (.int .u64 (kW n d (y+1):Int))))),.o 8 (.e (.iU (by rw[hs.2])):PV.le (.e (gX (gV (2*(jK n d y))))) (.e (gX (gV (jK n d (y+1))))))]<|.nil))
     (fun hq=>by
      have hs:=ab2 (n:=n) (d:=d) (y:=y) ae hq;exact chain [tT 57 ((d:Int)<=(((2*(kW n d y)):Nat):Int)) ae,pd ((((2*(kW n d y)):Nat):Int)-(d:Int)) ae,.o 60 (.int ae:PV.le (.e (.v (.int .u64 ((((2*(kW n d y)):Nat):Int)-(d:Int))))) (.e (.v (.int .u64 (((2*kW n d y-d):Nat):Int))))),.c (Xd _ ae ae:gU 264 [(gX (gV (2*(jK n d y))))] _),iq ((0-(y:Int))-1) ae]<|.e (chain [.o 10 (.int ae:PV.le (.e (iP ((0-(y:Int))-1))) (.e (iP (0-(((y+1):Nat):Int))))),.o 9 (.int (by rw[hs.1]):PV.le (.e (.v (.int .u64 (((2*kW n d y-d):Nat):Int)))) (.e (.v (.int .u64 (kW n d (y+1):Int))))),.o 8 (.e (.iU (by rw[hs.2])):PV.le (.e (gX (gV ((2*(jK n d y))+1)))) (.e (gX (gV (jK n d (y+1))))))]<|.nil))) ah)
  (fun hy=>by
    have xk:=D8 (d:=d) (y:=K) j8 ae;exact iB (chain [.c (GF _ ae:gU 265 [(gX (gV (jK n d K)))] _),tF 50 ((ib (jK n d K):Int)<(p:Int)) ae]<|.nil) ah) ak:ju 13 Tryz.f222 (Rd n d p 0) (.exit 2) ⟨130,false,[(10,.e (iP (0-(K:Int)))),(9,.e (.v (.int .u64 (kW n d K:Int)))),(8,.e (gX (gV (jK n d K)))),(7,.box 7 0),(6,.box 6 0),(2,.e (iP p))],[(7,.cells 31 [(bP false),(.v (.slice none 0 0)),(iP 0)]),(6,.cells 31 [(bP false),(.v (.slice none 0 0)),(iP 0)])]⟩) (chain [.o 10 (.int ae:PV.le (.e (iP 0)) (.e (iP (0-((0:Nat):Int))))),.o 9 (.int (by rw[h1.2]):PV.le (.e (.v (.int .u64 (iO n d 64 64:Int)))) (.e (.v (.int .u64 (kW n d 0:Int))))),.o 8 (.e (.iU (by rw[h1.1])):PV.le (.e (gX (gV (kH n d 64 64)))) (.e (gX (gV (jK n d 0)))))]<|.nil),.c (GF _ ae:gU 265 [(gX (gV (jK n d K)))] _),iq ((ib (jK n d K):Int)-(p:Int)) ae,.o 68 (.int ae:PV.le (.e (iP ((ib (jK n d K):Int)-(p:Int)))) (.e (iP (lf n d p K:Int)))),.y 15 15 false 79 1 (jb (iK (jT n d p K) 0)),.s (Sp.jx (Re n d p K) 0 Y ae (fun y hy S1=>by
    have hD:=pE (jT n d p K) y;have xk:=D8 (d:=d) (y:=K) j8 ae;exact iB (chain [tT 73 ((((32*y):Nat):Int)<(p:Int)) ae]<|.w (32<=p-32*y)
     (fun hf=>by
      have hz:((((iA (jT n d p K) y)%2^32:Nat)):Int)=(iA (jT n d p K) y:Int):=by rw[bu hD]
      exact chain [.s (Sp.jx (Rf n d p K y) 0 32 ae (fun k hk Ey=>by
    exact iB (chain [tT 77 ((k:Int)<32) ae,iq ((((32*y):Nat):Int)+(k:Int)) ae,tT 83 (((((32*y)+k):Nat):Int)<(p:Int)) ae,
     iq ((lf n d p K:Int)+(((32*y):Nat):Int)) ae,iq (((((lf n d p K)+(32*y)):Nat):Int)+(k:Int)) ae,.c (GD (jK n d K) (((lf n d p K)+(32*y))+k) ae ae),.o 94 (.int (by rw[Q9 ae]):PV.le (.e (iP ((((jK n d K)/2^(((lf n d p K)+(32*y))+k)%2):Nat):Int))) (.e (iP ((((iA (jT n d p K) y)/2^k%2):Nat):Int)))),.o 95 (.int aE:PV.le (.e (.v (.int .u32 (IntKind.u32.wrap ((((iA (jT n d p K) y)/2^k%2):Nat):Int))))) (.e (.v (.int .u32 ((((iA (jT n d p K) y)/2^k%2):Nat):Int))))),.a (ae:0<=((k:Int):Int)/\((k:Int):Int)<=((32:Nat):Int)),.o 97 (.int (Oh ae ae):PV.le (.e (.v (.int .u32 (IntKind.u32.wrap (((((iA (jT n d p K) y)/2^k%2):Nat):Int)*2^k))))) (.e (.v (.int .u32 (((((iA (jT n d p K) y)/2^k%2)*2^k):Nat):Int))))),.o 98 (.int (Nu ae hD):PV.le (.e (.v (.int .u32 (bits .or .u32 ((((iA (jT n d p K) y)%2^k):Nat):Int) (((((iA (jT n d p K) y)/2^k%2)*2^k):Nat):Int))))) (.e (.v (.int .u32 ((((iA (jT n d p K) y)%2^(k+1)):Nat):Int))))),
     iq ((k:Int)+1) ae]<|.nil) ah)
  (fun hk=>by
    exact iB (chain [tB 77 (ag:(decide ((32:Int)<32))=false)]<|.nil) ah) ak:ju 28 Tryz.f222 (Rf n d p K y 0) (.exit 6) ⟨130,false,[(83,.e (.v (.tuple #[]))),(82,.e (.v (.tuple #[]))),(81,.e (.v (.tuple #[]))),(80,.e (.v (.tuple #[]))),(79,.e (.v (.tuple #[]))),(17,.e (.v (.int .u32 ((((iA (jT n d p K) y)%2^32):Nat):Int)))),(15,.own 15),(16,.e (iP (((32*y):Nat):Int))),(14,.e (bP ((kW n d K:Int)==0))),(13,.e (iP (lf n d p K:Int))),(10,.e (iP (0-(K:Int)))),(8,.e (gX (gV (jK n d K)))),(7,.box 7 0),(6,.box 6 0),(2,.e (iP p))],[(15,.row false 79 y 1 (jb (iK (jT n d p K) y))),(7,.cells 31 [(bP false),(.v (.slice none 0 0)),(iP 0)]),(6,.cells 31 [(bP false),(.v (.slice none 0 0)),(iP 0)])]⟩) (chain [.o 17 (.int (by rw[bN,cH];rfl):PV.le (.e (.v (.int .u32 0))) (.e (.v (.int .u32 ((((iA (jT n d p K) y)%2^0):Nat):Int)))))]<|.nil),.a (ae:(y+1)*4<=140737488355328),iq ((((32*y):Nat):Int)+32) ae]<|.e (chain [.o 16 (.int aw:PV.le (.e (iP ((((32*y)+32):Nat):Int))) (.e (iP (((32*(y+1)):Nat):Int)))),.b 15 (Ai rfl hz:Bx.le (.row false 79 (y+1) 1 (fun i_ j_=>if i_<y then(jb (iK (jT n d p K) y)) i_ j_ else(E.mc (.sl false 1 1 fun i_ j_=>[(.v (.int .u32 ((((iA (jT n d p K) y)%2^32):Nat):Int)))].getD (i_*1+j_) (.v (.bool false)))) (i_-y) j_)) (.row false 79 (y+1) 1 (jb (iK (jT n d p K) (y+1)))))]<|.nil))
     (fun hf=>by
      have hz:((((iA (jT n d p K) y)%2^(p-32*y):Nat)):Int)=(iA (jT n d p K) y:Int):=by rw[bu (ab3 kp ae)]
      exact chain [.s (Sp.jx (Rg n d p K y) 0 (p-32*y) ae (fun k hk Ey=>by
    exact iB (chain [tT 77 ((k:Int)<32) ae,iq ((((32*y):Nat):Int)+(k:Int)) ae,tT 83 (((((32*y)+k):Nat):Int)<(p:Int)) ae,
     iq ((lf n d p K:Int)+(((32*y):Nat):Int)) ae,iq (((((lf n d p K)+(32*y)):Nat):Int)+(k:Int)) ae,.c (GD (jK n d K) (((lf n d p K)+(32*y))+k) ae ae),.o 94 (.int (by rw[Q9 ae]):PV.le (.e (iP ((((jK n d K)/2^(((lf n d p K)+(32*y))+k)%2):Nat):Int))) (.e (iP ((((iA (jT n d p K) y)/2^k%2):Nat):Int)))),.o 95 (.int aE:PV.le (.e (.v (.int .u32 (IntKind.u32.wrap ((((iA (jT n d p K) y)/2^k%2):Nat):Int))))) (.e (.v (.int .u32 ((((iA (jT n d p K) y)/2^k%2):Nat):Int))))),.a (ae:0<=((k:Int):Int)/\((k:Int):Int)<=((32:Nat):Int)),.o 97 (.int (Oh ae ae):PV.le (.e (.v (.int .u32 (IntKind.u32.wrap (((((iA (jT n d p K) y)/2^k%2):Nat):Int)*2^k))))) (.e (.v (.int .u32 (((((iA (jT n d p K) y)/2^k%2)*2^k):Nat):Int))))),.o 98 (.int (Nu ae hD):PV.le (.e (.v (.int .u32 (bits .or .u32 ((((iA (jT n d p K) y)%2^k):Nat):Int) (((((iA (jT n d p K) y)/2^k%2)*2^k):Nat):Int))))) (.e (.v (.int .u32 ((((iA (jT n d p K) y)%2^(k+1)):Nat):Int))))),
     iq ((k:Int)+1) ae]<|.nil) ah)
  (fun hk=>by
    exact iB (chain [tT 77 ((((p-32*y):Nat):Int)<32) ae,iq ((((32*y):Nat):Int)+(((p-32*y):Nat):Int)) ae,tF 83 (((((32*y)+(p-32*y)):Nat):Int)<(p:Int)) ae]<|.nil) ah) ak:ju 28 Tryz.f222 (Rg n d p K y 0) (.exit 6) ⟨130,false,[(83,.e (bP false)),(82,.e (iP p)),(81,.e (iP ((((32*y)+(p-32*y)):Nat):Int))),(80,.e (iP (((p-32*y):Nat):Int))),(79,.e (iP (((32*y):Nat):Int))),(17,.e (.v (.int .u32 ((((iA (jT n d p K) y)%2^(p-32*y)):Nat):Int)))),(15,.own 15),(16,.e (iP (((32*y):Nat):Int))),(14,.e (bP ((kW n d K:Int)==0))),(13,.e (iP (lf n d p K:Int))),(10,.e (iP (0-(K:Int)))),(8,.e (gX (gV (jK n d K)))),(7,.box 7 0),(6,.box 6 0),(2,.e (iP p))],[(15,.row false 79 y 1 (jb (iK (jT n d p K) y))),(7,.cells 31 [(bP false),(.v (.slice none 0 0)),(iP 0)]),(6,.cells 31 [(bP false),(.v (.slice none 0 0)),(iP 0)])]⟩) (chain [.o 17 (.int (by rw[bN,cH];rfl):PV.le (.e (.v (.int .u32 0))) (.e (.v (.int .u32 ((((iA (jT n d p K) y)%2^0):Nat):Int)))))]<|.nil),.a (ae:(y+1)*4<=140737488355328),iq ((((32*y):Nat):Int)+32) ae]<|.e (chain [.o 16 (.int aw:PV.le (.e (iP ((((32*y)+32):Nat):Int))) (.e (iP (((32*(y+1)):Nat):Int)))),.b 15 (Ai rfl hz:Bx.le (.row false 79 (y+1) 1 (fun i_ j_=>if i_<y then(jb (iK (jT n d p K) y)) i_ j_ else(E.mc (.sl false 1 1 fun i_ j_=>[(.v (.int .u32 ((((iA (jT n d p K) y)%2^(p-32*y)):Nat):Int)))].getD (i_*1+j_) (.v (.bool false)))) (i_-y) j_)) (.row false 79 (y+1) 1 (jb (iK (jT n d p K) (y+1)))))]<|.nil))) ah)
  (fun hy=>by
    exact iB (chain [tF 73 ((((32*Y):Nat):Int)<(p:Int)) ae,.z 15]<|.e (chain [.o 15 (.e (.iU (by rw[AI (mF _ _).symm,hTY])):PV.le (.e (.sl false Y 1 (jb (iK (jT n d p K) Y)))) (.e (gX (gV (jT n d p K)))))]<|.nil)) ah) ak:ju 24 Tryz.f222 (Re n d p K 0) (.exit 4) ⟨130,true,[(15,.e (gX (gV (jT n d p K)))),(14,.e (bP ((kW n d K:Int)==0))),(13,.e (iP (lf n d p K:Int))),(10,.e (iP (0-(K:Int)))),(8,.e (gX (gV (jK n d K)))),(7,.box 7 0),(6,.box 6 0)],[(7,.cells 31 [(bP false),(.v (.slice none 0 0)),(iP 0)]),(6,.cells 31 [(bP false),(.v (.slice none 0 0)),(iP 0)])]⟩) (chain [.o 16 (.int aw:PV.le (.e (iP 0)) (.e (iP (((32*0):Nat):Int))))]<|.nil),.s (Sp.jx (Rh n d p K) 0 (lf n d p K) ae (fun x hx ke=>by
    have xk:=D8 (d:=d) (y:=K) j8 ae;exact iB (chain [tT 105 ((x:Int)<(lf n d p K:Int)) ae]<|.w ((oL (kW n d K) (jK n d K) x)=true)
     (fun hq=>chain [tB 108 (hq:(oL (kW n d K) (jK n d K) x)=true),.c (GD (jK n d K) x ae ae)]<|.w ((jK n d K)/2^x%2=0)
      (fun Hz=>chain [tB 113 (aK ae:(((((jK n d K)/2^x%2):Nat):Int)==0)=true),iq ((x:Int)+1) ae]<|.e (chain [.o 14 (.bool (abX hq Hz).symm:PV.le (.e (bP true)) (.e (bP (oL (kW n d K) (jK n d K) (x+1)))))]<|.nil))
      (fun Hz=>chain [tB 113 (aJ ae:(((((jK n d K)/2^x%2):Nat):Int)==0)=false),iq ((x:Int)+1) ae]<|.e (chain [.o 14 (.bool (abV Hz).symm:PV.le (.e (bP false)) (.e (bP (oL (kW n d K) (jK n d K) (x+1)))))]<|.nil)))
     (fun hq=>chain [tB 108 (aM hq),iq ((x:Int)+1) ae]<|.e (chain [.o 14 (.bool (abW (aM hq)).symm:PV.le (.e (bP false)) (.e (bP (oL (kW n d K) (jK n d K) (x+1)))))]<|.nil))) ah)
  (fun hx=>by
    exact iB (chain [tF 105 ((lf n d p K:Int)<(lf n d p K:Int)) ae]<|.nil) ah) ak:ju 33 Tryz.f222 (Rh n d p K 0) (.exit 8) ⟨130,true,[(15,.e (gX (gV (jT n d p K)))),(14,.e (bP (oL (kW n d K) (jK n d K) (lf n d p K)))),(13,.e (iP (lf n d p K:Int))),(10,.e (iP (0-(K:Int)))),(7,.box 7 0),(6,.box 6 0)],[(7,.cells 31 [(bP false),(.v (.slice none 0 0)),(iP 0)]),(6,.cells 31 [(bP false),(.v (.slice none 0 0)),(iP 0)])]⟩) (chain [.o 14 (.bool (abY _ _):PV.le (.e (bP ((kW n d K:Int)==0))) (.e (bP (oL (kW n d K) (jK n d K) 0))))]<|.nil),
  iq ((0-(K:Int))+(lf n d p K:Int)) ae,.c (Uz _ _ ae ae ae ae:gU 267 [(bP false),(gX (gV (jT n d p K))),(iP ((0-(K:Int))+(lf n d p K:Int)))] _)]<|.w (oL (kW n d K) (jK n d K) (lf n d p K)=true)
  (fun k1=>chain [tB 120 (k1)]<|rQ (.iw [(gY (canon false (jT n d p K) ((0-(K:Int))+(lf n d p K:Int)))),(gY (canon false (jT n d p K) ((0-(K:Int))+(lf n d p K:Int))))]) (.iw [gY (canon false (jT n d p K) (nD n d p K)),gY (if(oL (kW n d K) (jK n d K) (lf n d p K))=true then canon false (jT n d p K) (nD n d p K)else canon false ((jT n d p K)+1) (nD n d p K))]) (by(rw[aR k1])<;>rfl))
  (fun k1=>chain [tB 120 (aM k1),.c (ag2 _ ae:gU 268 [(gX (gV (jT n d p K)))] _),iq ((0-(K:Int))+(lf n d p K:Int)) ae,.c (Uz _ _ ae ae ae ae:gU 267 [(bP false),(gX (gV ((jT n d p K)+1))),(iP ((0-(K:Int))+(lf n d p K:Int)))] _)]<|rQ (.iw [(gY (canon false (jT n d p K) ((0-(K:Int))+(lf n d p K:Int)))),(gY (canon false ((jT n d p K)+1) ((0-(K:Int))+(lf n d p K:Int))))]) (.iw [gY (canon false (jT n d p K) (nD n d p K)),gY (if(oL (kW n d K) (jK n d K) (lf n d p K))=true then canon false (jT n d p K) (nD n d p K)else canon false ((jT n d p K)+1) (nD n d p K))]) (by(rw[aQ k1])<;>rfl))) ah 
theorem Rk(n d p K:Nat)(hn:1<=n)(j8:n<=1073741824)(hd:1<=d)(tg:d<=1073741824)(hp:8<=p)(ic:p<=512)(hK:K<p+31)(iH:∀ y,y<K->ib (jK n d y)<p)(hb:p<=ib (jK n d K)):
 gU 222 [(.v (.int .u64 (n:Int))),(.v (.int .u64 (d:Int))),(iP p)] (.iw [gY (canon false (jT n d p K) (nD n d p K)),gY (if(oL (kW n d K) (jK n d K) (lf n d p K))=true then canon false (jT n d p K) (nD n d p K)else canon false ((jT n d p K)+1) (nD n d p K))]):=by
 exact ace n d p K hn j8 hd tg hp ic hK iH hb _ rfl
theorem amg:E.le (.agg [bP false,.v (.slice none 0 0),iP 0,bP false,.v (.slice none 0 0),iP 0,bP false]) (gZ ⟨jA,jA,false⟩):=
 .agg (.cons (.refl _) (.cons Am (.cons (.refl _) (.cons (.refl _) (.cons Am (.cons (.refl _) (.cons (.refl _) .nil)))))))
theorem ab9(d:Int)(p:Nat)(hr:lL 0 d=true)(hp:8<=p)(ic:p<=512):gU 185 [(.agg [(iP 0),(iP d)]),(iP p)] (gZ (nI 0 d p)):=by
 rw[ajU hp ic hr];exact tr true Tryz.call185 Tryz.func185 (chain [.c (FH 0 d),tB 9 (by rw[hr];rfl:(!(lL 0 d))=false),tF 12 ((p:Int)<8) ae,tF 16 (512<(p:Int)) ae,tB 21 (ag:((0:Int)==0)=true)]<|rR (gZ (Iv.mk jA jA false)) (amg:E.le (.agg [(bP false),(.v (.slice none 0 0)),(iP 0),(bP false),(.v (.slice none 0 0)),(iP 0),(bP false)]) (gZ (Iv.mk jA jA false)))) ah 
theorem ab8(n d p K:Nat)(hn:1<=n)(j8:n<=1073741824)(hd:1<=d)(tg:d<=1073741824)(hp:8<=p)(ic:p<=512)(hK:K<p+31)(iH:∀ y,y<K->ib (jK n d y)<p)(hb:p<=ib (jK n d K))(hr:lL (n:Int) (d:Int)=true):gU 185 [(.agg [(iP n),(iP d)]),(iP p)] (gZ (nI (n:Int) (d:Int) p)):=by
 rw[ajS j8 hd hp ic hK hb hr];exact tr true Tryz.call185 Tryz.func185 (chain [.c (FH (n:Int) (d:Int)),tB 9 (by rw[hr];rfl:(!(lL (n:Int) (d:Int)))=false),tF 12 ((p:Int)<8) ae,tF 16 (512<(p:Int)) ae,tB 21 (aJ ae:((n:Int)==0)=false),.c (Om _ ae ae:gU 183 [(iP n)] _),.o 26 (.int ae:PV.le (.e (.v (.int .u64 (Int.natAbs (n:Int):Int)))) (.e (.v (.int .u64 (n:Int))))),.o 29 (.int (pB _ ae):PV.le (.e (.v (.int .u64 (IntKind.u64.wrap (d:Int))))) (.e (.v (.int .u64 (d:Int))))),.c (Rk _ _ _ K hn j8 hd tg hp ic hK iH hb:gU 222 [(.v (.int .u64 (n:Int))),(.v (.int .u64 (d:Int))),(iP p)] _),tF 36 ((n:Int)<0) ae]<|.nil) ah 
theorem ab6(n d p K:Nat)(hn:1<=n)(j8:n<=1073741824)(hd:1<=d)(tg:d<=1073741824)(hp:8<=p)(ic:p<=512)(hK:K<p+31)(iH:∀ y,y<K->ib (jK n d y)<p)(hb:p<=ib (jK n d K))(hr:lL (-(n:Int)) (d:Int)=true):gU 185 [(.agg [(iP (-(n:Int))),(iP d)]),(iP p)] (gZ (nI (-(n:Int)) (d:Int) p)):=by
 have Ep:(canon false (jT n d p K) (nD n d p K)).lI:=qP _ _ _;have hc2:(if(oL (kW n d K) (jK n d K) (lf n d p K))=true then canon false (jT n d p K) (nD n d p K)else canon false ((jT n d p K)+1) (nD n d p K)).lI:=by split<;>exact qP _ _ _
 rw[ajR j8 hd hp ic hK hb hr];exact tr true Tryz.call185 Tryz.func185 (chain [.c (FH (- (n:Int)) (d:Int)),tB 9 (by rw[hr];rfl:(!(lL (-(n:Int)) (d:Int)))=false),tF 12 ((p:Int)<8) ae,tF 16 (512<(p:Int)) ae,tB 21 (aJ ae:((-(n:Int))==0)=false),.c (Om _ ae ae:gU 183 [(iP (-(n:Int)))] _),.o 26 (.int ae:PV.le (.e (.v (.int .u64 (Int.natAbs (-(n:Int)):Int)))) (.e (.v (.int .u64 (n:Int))))),.o 29 (.int (pB _ ae):PV.le (.e (.v (.int .u64 (IntKind.u64.wrap (d:Int))))) (.e (.v (.int .u64 (d:Int))))),.c (Rk _ _ _ K hn j8 hd tg hp ic hK iH hb:gU 222 [(.v (.int .u64 (n:Int))),(.v (.int .u64 (d:Int))),(iP p)] _),tT 36 ((-(n:Int))<0) ae,.c (Va _ af:gU 223 [(gY (if(oL (kW n d K) (jK n d K) (lf n d p K))=true then canon false (jT n d p K) (nD n d p K)else canon false ((jT n d p K)+1) (nD n d p K)))] _),.c (Va _ af:gU 223 [(gY (canon false (jT n d p K) (nD n d p K)))] _)]<|.nil) ah 
theorem ab7(n d:Int)(p:Nat)(hr:lL n d=true)(hp:8<=p)(ic:p<=512):gU 185 [.agg [iP n,iP d],iP (p:Int)] (gZ (nI n d p)):=by
 obtain⟨r1,r2,r3,r4⟩:=FI hr;obtain⟨d,rfl⟩:=dJ (show 0<=d by omega);by_cases h0:n=0
 .subst h0;exact ab9 d p hr hp ic
 by_cases h1:0<=n
 .obtain ⟨n,rfl⟩:=dJ h1
  obtain⟨K,k1,k2,k3⟩:=Ra (n:=n) (d:=d) ae ae ae p;exact ab8 n d p K ae ae ae ae hp ic k1 k2 k3 hr
 .obtain ⟨m,rfl⟩:∃ m:Nat,n = -(m:Int):=⟨n.natAbs,ae⟩
  obtain⟨K,k1,k2,k3⟩:=Ra (n:=m) (d:=d) ae ae ae p;exact ab6 m d p K ae ae ae ae hp ic k1 k2 k3 hr
end Go.Proofs.YtdgnpeddgdclhaaGreatDoor
