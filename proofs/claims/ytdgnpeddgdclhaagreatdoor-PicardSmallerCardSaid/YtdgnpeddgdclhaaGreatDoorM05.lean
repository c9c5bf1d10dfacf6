/- The law PicardSmaller is true for all arguments: a tube of a rational system is one for smaller boxes of initial values and shorter steps, and it contains its image, which is a tube too. -/
import Derived.Test.YtdgnpeddgdclhaaGreatDoorM04
set_option linter.unusedSimpArgs false
set_option linter.unusedVariables false
set_option linter.defProp false
set_option maxHeartbeats 4000000
namespace Go.Proofs.YtdgnpeddgdclhaaGreatDoor
open Go.RowKit Fp Pu
def QD(s:fF)(N:Nat)(x:Nat):PS:=⟨85,true,[(31,.e (iP x)),(30,.e (iP s.ops.length)),(29,.e (fZ s.ops)),(3,.box 3 0),(1,.box 1 0)],[(3,.cells 25 [(iP s.ins),(fZ s.ops),(gl s.outs)]),(1,.cells 28 [(iP s.ins),(fZ s.ops),(gl s.outs),(iP s.eI),(gO s.params)])]⟩
def QE(s:fF)(x:Nat):PS:=⟨85,true,[(31,.e (iP x)),(30,.e (iP s.ops.length)),(29,.e (fZ s.ops)),(3,.box 3 0),(1,.box 1 0)],[(3,.cells 25 [(iP s.ins),(fZ s.ops),(gl s.outs)]),(1,.cells 28 [(iP s.ins),(fZ s.ops),(gl s.outs),(iP s.eI),(gO s.params)])]⟩
def QF(s:fF)(x:Nat):PS:=⟨85,true,[(31,.e (iP x)),(30,.e (iP s.ops.length)),(29,.e (fZ s.ops)),(3,.box 3 0),(1,.box 1 0)],[(3,.cells 25 [(iP s.ins),(fZ s.ops),(gl s.outs)]),(1,.cells 28 [(iP s.ins),(fZ s.ops),(gl s.outs),(iP s.eI),(gO s.params)])]⟩
def QG(s:fF)(x:Nat):PS:=⟨85,true,[(31,.e (iP x)),(30,.e (iP s.ops.length)),(29,.e (fZ s.ops)),(3,.box 3 0),(1,.box 1 0)],[(3,.cells 25 [(iP s.ins),(fZ s.ops),(gl s.outs)]),(1,.cells 28 [(iP s.ins),(fZ s.ops),(gl s.outs),(iP s.eI),(gO s.params)])]⟩
theorem mD{a b:Bool}(h:a=true↔b=true):a=b:=c9.2 h
theorem fY{a b:Bool}(h:a=b):bP a=bP b:=h▸rfl
noncomputable def opRT(o:jt)(m:Int)(g:o.Good)(C:Bool)(hC:C=decide (o.cn=0/\o.cd=0))(q1:¬o.a<0)(q2:¬o.b<0):Tr Tryz.prog Tb:=
  .w (o.kind=1)
  (fun k1=>chain [tB 21 (ax k1),.c (DZ o.cn o.cd)]<|.w (jb o.cn o.cd=true)
   (fun k2=>chain [tB 24 (k2)]<|.w (o.a=0)
    (fun k3=>chain [tB 28 (ax k3)]<|.w (o.b=0)
     (fun k4=>chain [tB 33 (ax k4)]<|rQ (bP (o.n==0)) (bP (eP o m)) (fY (by simp_all[eP,iI]<;>(repeat' split)<;>intros<;>omega)))
     (fun k4=>chain [tB 33 (aw k4)]<|rQ (bP false) (bP (eP o m)) (fY (by simp_all[eP,iI]<;>(repeat' split)<;>intros<;>omega))))
    (fun k3=>chain [tB 28 (aw k3)]<|rQ (bP false) (bP (eP o m)) (fY (by simp_all[eP,iI]<;>(repeat' split)<;>intros<;>omega))))
   (fun k2=>chain [tB 24 (ay k2)]<|rQ (bP false) (bP (eP o m)) (fY (by simp_all[eP,iI]<;>(repeat' split)<;>intros<;>omega))))
  (fun k1=>chain [tB 21 (aw k1),.j 80 ⟨111,true,[(40,.e (bP (decide (3<=o.kind/\o.kind<=6)))),(19,.e (iP o.kind)),(5,.e (bP C)),(2,.box 2 0),(1,.e (iP m))],[(2,.cells 99 [(iP o.kind),(iP o.a),(iP o.b),(iP o.n),(iP o.cn),(iP o.cd)])]⟩
   (.w (o.kind=3)
    (fun m1=>chain [.v 40 (.bool (ax m1))]<|.e (chain [tB 40 (mD an :true=(decide (3<=o.kind/\o.kind<=6)))]<|.nil))
    (fun m1=>chain [.v 40 (.bool (aw m1))]<|.w (o.kind=4)
     (fun m2=>chain [tB 42 (ax m2)]<|.e (chain [tB 40 (mD an :true=(decide (3<=o.kind/\o.kind<=6)))]<|.nil))
     (fun m2=>chain [tB 42 (aw m2)]<|.w (o.kind=5)
      (fun m3=>chain [tB 43 (ax m3)]<|.e (chain [tB 40 (mD an :true=(decide (3<=o.kind/\o.kind<=6)))]<|.nil))
      (fun m3=>chain [tB 43 (aw m3)]<|.e (chain [tB 40 (mD an :(o.kind==6)=(decide (3<=o.kind/\o.kind<=6)))]<|.nil)))))]<|.w (3<=o.kind/\o.kind<=6)
   (fun k2=>chain [.v 40 (.bool (aE k2))]<|.w (C=true)
    (fun k3=>chain [tB 45 (k3)]<|.w (o.a<m)
     (fun k4=>chain [tB 50 (aE k4)]<|.w (o.b<m)
      (fun k5=>chain [tB 56 (aE k5)]<|rQ (bP (o.n==0)) (bP (eP o m)) (fY (by simp_all[eP,iI]<;>(repeat' split)<;>intros<;>omega)))
      (fun k5=>chain [tB 56 (aD k5)]<|rQ (bP false) (bP (eP o m)) (fY (by simp_all[eP,iI]<;>(repeat' split)<;>intros<;>omega))))
     (fun k4=>chain [tB 50 (aD k4)]<|rQ (bP false) (bP (eP o m)) (fY (by simp_all[eP,iI]<;>(repeat' split)<;>intros<;>omega))))
    (fun k3=>chain [tB 45 (ay k3)]<|rQ (bP false) (bP (eP o m)) (fY (by simp_all[eP,iI]<;>(repeat' split)<;>intros<;>omega))))
   (fun k2=>chain [.v 40 (.bool (aD k2))]<|.w (o.kind=8)
    (fun k3=>chain [tB 64 (ax k3)]<|.w (C=true)
     (fun k4=>chain [tB 65 (k4)]<|.w (o.a<m)
      (fun k5=>chain [tB 70 (aE k5)]<|.w (o.b=0)
       (fun k6=>chain [tB 75 (ax k6)]<|.w (0<=o.n)
        (fun k7=>chain [tB 80 (aE k7)]<|rQ (bP (decide (o.n<=16))) (bP (eP o m)) (fY (by simp_all[eP,iI]<;>(repeat' split)<;>intros<;>omega)))
        (fun k7=>chain [tB 80 (aD k7)]<|rQ (bP false) (bP (eP o m)) (fY (by simp_all[eP,iI]<;>(repeat' split)<;>intros<;>omega))))
       (fun k6=>chain [tB 75 (aw k6)]<|rQ (bP false) (bP (eP o m)) (fY (by simp_all[eP,iI]<;>(repeat' split)<;>intros<;>omega))))
      (fun k5=>chain [tB 70 (aD k5)]<|rQ (bP false) (bP (eP o m)) (fY (by simp_all[eP,iI]<;>(repeat' split)<;>intros<;>omega))))
     (fun k4=>chain [tB 65 (ay k4)]<|rQ (bP false) (bP (eP o m)) (fY (by simp_all[eP,iI]<;>(repeat' split)<;>intros<;>omega))))
    (fun k3=>chain [tB 64 (aw k3),.j 174 ⟨111,true,[(87,.e (bP (decide (o.kind=7\/9<=o.kind/\o.kind<=13)))),(5,.e (bP C)),(2,.box 2 0),(1,.e (iP m))],[(2,.cells 99 [(iP o.kind),(iP o.a),(iP o.b),(iP o.n),(iP o.cn),(iP o.cd)])]⟩
   (.w (o.kind=7)
    (fun m1=>chain [.v 87 (.bool (ax m1))]<|.e (chain [tB 87 (mD an :true=(decide (o.kind=7\/9<=o.kind/\o.kind<=13)))]<|.nil))
    (fun m1=>chain [.v 87 (.bool (aw m1))]<|.w (o.kind=9)
     (fun m2=>chain [tB 89 (ax m2)]<|.e (chain [tB 87 (mD an :true=(decide (o.kind=7\/9<=o.kind/\o.kind<=13)))]<|.nil))
     (fun m2=>chain [tB 89 (aw m2)]<|.w (o.kind=10)
      (fun m3=>chain [tB 90 (ax m3)]<|.e (chain [tB 87 (mD an :true=(decide (o.kind=7\/9<=o.kind/\o.kind<=13)))]<|.nil))
      (fun m3=>chain [tB 90 (aw m3)]<|.w (o.kind=11)
       (fun m4=>chain [tB 91 (ax m4)]<|.e (chain [tB 87 (mD an :true=(decide (o.kind=7\/9<=o.kind/\o.kind<=13)))]<|.nil))
       (fun m4=>chain [tB 91 (aw m4)]<|.w (o.kind=12)
        (fun m5=>chain [tB 92 (ax m5)]<|.e (chain [tB 87 (mD an :true=(decide (o.kind=7\/9<=o.kind/\o.kind<=13)))]<|.nil))
        (fun m5=>chain [tB 92 (aw m5)]<|.e (chain [tB 87 (mD an :(o.kind==13)=(decide (o.kind=7\/9<=o.kind/\o.kind<=13)))]<|.nil)))))))]<|.w (o.kind=7\/9<=o.kind/\o.kind<=13)
     (fun k4=>chain [.v 87 (.bool (aE k4))]<|.w (C=true)
      (fun k5=>chain [tB 94 (k5)]<|.w (o.a<m)
       (fun k6=>chain [tB 99 (aE k6)]<|.w (o.b=0)
        (fun k7=>chain [tB 104 (ax k7)]<|rQ (bP (o.n==0)) (bP (eP o m)) (fY (by simp_all[eP,iI]<;>(repeat' split)<;>intros<;>omega)))
        (fun k7=>chain [tB 104 (aw k7)]<|rQ (bP false) (bP (eP o m)) (fY (by simp_all[eP,iI]<;>(repeat' split)<;>intros<;>omega))))
       (fun k6=>chain [tB 99 (aD k6)]<|rQ (bP false) (bP (eP o m)) (fY (by simp_all[eP,iI]<;>(repeat' split)<;>intros<;>omega))))
      (fun k5=>chain [tB 94 (ay k5)]<|rQ (bP false) (bP (eP o m)) (fY (by simp_all[eP,iI]<;>(repeat' split)<;>intros<;>omega))))
     (fun k4=>chain [.v 87 (.bool (aD k4))]<|rQ (bP false) (bP (eP o m)) (fY (by simp_all[eP,iI]<;>(repeat' split)<;>intros<;>omega))))))
theorem Bn(o:jt)(m:Int)(g:o.Good):dM 133 [(QB o),(iP m)] (bP (eP o m)):=by
 exact tr true Tryz.call133 Tryz.func133 (.w (o.a<0)
  (fun k1=>chain [tB 8 (aE k1)]<|rQ (bP false) (bP (eP o m)) (fY (by simp_all[eP,iI]<;>(repeat' split)<;>intros<;>omega)))
  (fun k1=>chain [tB 8 (aD k1)]<|.w (o.b<0)
   (fun k2=>chain [tB 12 (aE k2)]<|rQ (bP false) (bP (eP o m)) (fY (by simp_all[eP,iI]<;>(repeat' split)<;>intros<;>omega)))
   (fun k2=>chain [tB 12 (aD k2),.g (Pw g.cn g.cd rfl:mX Tryz.prog .eql 97 (.agg [(iP o.cn),(iP o.cd)]) (.agg [(iP 0),(iP 0)]) (.bool (decide (o.cn=0/\o.cd=0))))]<|opRT o m g (decide (o.cn=0/\o.cd=0)) rfl k1 k2))) ah 
theorem aeZ(s:fF)(g:s.Good)(k:Int)(h0:0<=s.ins)(h8:s.ins<=8)(l2:s.ops.length<=200):dM 135 [(iP k),(.ref 3 fun j_=>[(iP s.ins),(fZ s.ops),(gl s.outs)].getD j_ .any)] (bP (!tH s k)):=by
 exact tr true Tryz.call135 Tryz.func135 (.w (k<0)
  (fun k1=>chain [tB 5 (aE k1)]<|rQ (bP true) (bP (!tH s k)) (fY (by unfold tH;rw[c9];simp_all)))
  (fun k1=>chain [tB 5 (aD k1),eh (s.ins+(s.ops.length:Int)) ae]<|rQ (bP (decide ((s.ins+(s.ops.length:Int))<=k))) (bP (!tH s k)) (fY (by unfold tH;rw[c9];simp_all)))) ah 
theorem ae1(x:RI)(g:x.Good):dM 136 [(rz x)] (bP (!kP x)):=by
 have ga:=g.lo;have gb:=g.hi;by_cases ha:x.all=true
 .have e:kP x=false:=by unfold kP;rw[ha];simp
  rw[e];exact tr true Tryz.call136 Tryz.func136 (chain [tB 4 (ha:x.all=true)]<|.nil) ah 
 .replace ha:x.all=false:=by simpa using ha
  by_cases h1:x.lo.Ok
  .by_cases h2:x.hi.Ok
   .have v1:=h1.valid
    have v2:=h2.valid;have e1:rz x=dQ x.iv:=by rw[<-Hr,show x.iv.raw=x by show RI.mk x.lo.dy.raw x.hi.dy.raw x.all=x;rw[h1.eq ga,h2.eq gb]]
    rw[e1];by_cases h3:ew x.lo.dy x.hi.dy<=0
    .have e:kP x=true:=by unfold kP;rw[tD.2 (.inr ⟨ha,h1,h2,h3⟩),ha];rfl
     rw[e];exact tr true Tryz.call136 Tryz.func136 (chain [tB 4 (ha:x.iv.all=false),.c (lK _ af :dM 68 [(dP x.iv.lo)] _),.c (lK _ af :dM 68 [(dP x.iv.hi)] _),.c (gU _ _ af af :dM 37 [(dP x.iv.lo),(dP x.iv.hi)] _),tF 23 (0<(ew x.iv.lo x.iv.hi)) (by show ¬0<ew x.lo.dy x.hi.dy;omega)]<|.nil) ah 
    .have e:kP x=false:=by unfold kP;rw[show okB x=false by simpa using fun q=>(tD.1 q).elim (fun q=>by rw[ha]at q;exact Bool.noConfusion q.1) fun q=>h3 q.2.2.2];rfl
     rw[e];exact tr true Tryz.call136 Tryz.func136 (chain [tB 4 (ha:x.iv.all=false),.c (lK _ af :dM 68 [(dP x.iv.lo)] _),.c (lK _ af :dM 68 [(dP x.iv.hi)] _),.c (gU _ _ af af :dM 37 [(dP x.iv.lo),(dP x.iv.hi)] _),tT 23 (0<(ew x.iv.lo x.iv.hi)) (by show 0<ew x.lo.dy x.hi.dy;omega)]<|.nil) ah 
   .have e:kP x=false:=by unfold kP;rw[show okB x=false by simpa using fun q=>(tD.1 q).elim (fun q=>by rw[ha]at q;exact Bool.noConfusion q.1) fun q=>h2 q.2.2.1];rfl
    rw[e];exact tr true Tryz.call136 Tryz.func136 (chain [tB 4 (ha:x.all=false),.c (vC _ af true (by simp[h1]):dM 68 [(jk x.lo)] _),.c (vC _ af false (by simp[h2]):dM 68 [(jk x.hi)] _)]<|.nil) ah 
  .have e:kP x=false:=by unfold kP;rw[show okB x=false by simpa using fun q=>(tD.1 q).elim (fun q=>by rw[ha]at q;exact Bool.noConfusion q.1) fun q=>h1 q.2.1];rfl
   rw[e];exact tr true Tryz.call136 Tryz.func136 (chain [tB 4 (ha:x.all=false),.c (vC _ af false (by simp[h1]):dM 68 [(jk x.lo)] _)]<|.nil) ah 
theorem Tw(x:RI)(g:x.Good):dM 83 [(rz x)] (bP (!kP x)):=by
 exact tr true Tryz.call83 Tryz.func83 (chain [.c (aaf _ g:dM 84 [(rz x)] _)]<|.w (okB x=true)
  (fun k1=>chain [tB 4 (k1)]<|rQ (bP x.all) (bP (!kP x)) (fY (by unfold kP;simp_all)))
  (fun k1=>chain [tB 4 (ay k1)]<|rQ (bP true) (bP (!kP x)) (fY (by unfold kP;simp_all)))) ah 
theorem IG(s:fF)(h0:0<=s.ins)(h8:s.ins<=8)(l2:s.ops.length<=200)(lu:s.outs.length<=200)(g:s.Good):dM 134 [gl s.outs,.fn 135 [(.ref 3 fun j_=>[(iP s.ins),(fZ s.ops),(gl s.outs)].getD j_ .any)]] (bP (!rA s)):=by
 have:=ZX true s.outs.length (fun i _=>iP (s.outs.getD i 0)) 135 [(.ref 3 fun j_=>[(iP s.ins),(fZ s.ops),(gl s.outs)].getD j_ .any)] (fun i=>!tH s (s.outs.getD i 0)) (fun i _=>aeZ s g _ h0 h8 l2) (show s.outs.length<=1000000 by omega);rwa[Kd]at this
theorem PD(f:FuncId)(l:List RI)(hf:∀ i,dM f [rz (l.getD i gQ)] (bP (!kP (l.getD i gQ))))(hl:l.length<=1000):dM 17 [gO l,.fn f []] (bP (!((List.range l.length).all fun i=>kP (l.getD i gQ)))):=by
 have:=Ht true l.length (fun i j=>(tK (l.getD i gQ)).getD j .any) f [] (fun i=>!kP (l.getD i gQ)) (fun i _=>hf i) (show l.length<=1000000 by omega);rwa[Kd]at this
theorem ae3(s:fF)(g:s.Good)(sm:s.Small)(hc:¬(0<=s.ins/\s.ins<=8/\s.ops.length<=200/\s.outs.length<=200)):dM 82 [(jS s)] (bP false):=by
 exact tr true Tryz.call82 Tryz.func82 (.w (s.ins<0)
  (fun k1=>chain [tB 10 (aE k1)]<|.nil)
  (fun k1=>chain [tB 10 (aD k1)]<|.w (8<s.ins)
   (fun k2=>chain [tB 14 (aE k2)]<|.nil)
   (fun k2=>chain [tB 14 (aD k2)]<|.w (200<(s.ops.length:Int))
    (fun k3=>chain [tB 20 (aE k3)]<|.nil)
    (fun k3=>chain [tB 20 (aD k3)]<|.w (200<(s.outs.length:Int))
     (fun k4=>chain [tB 26 (aE k4)]<|.nil)
     (fun k4=>.x ae))))) ah 
theorem ae4(s:fF)(g:s.Good)(sm:s.Small)(i0:0<=s.ins)(i8:s.ins<=8)(l1:s.ops.length<=200)(l2:s.outs.length<=200)(N:Nat)(ki:N<s.ops.length)(eC:∀ k,k<N->(eP (s.ops.getD k eG) (s.ins+(k:Int)))=true)(hN:(eP (s.ops.getD N eG) (s.ins+(N:Int)))=false):dM 82 [(jS s)] (bP false):=by
 exact tr true Tryz.call82 Tryz.func82 (chain [tF 10 (s.ins<0) ae,tF 14 (8<s.ins) ae,tF 20 (200<(s.ops.length:Int)) ae,tF 26 (200<(s.outs.length:Int)) ae,.s (Sp.upto (QD s N) 0 N ae (fun x hx ic=>by
    have ml:=g.ops x;exact eu (chain [tT 32 ((x:Int)<(s.ops.length:Int)) ae,iX ((x:Int)) (s.ops.length) ae,eh (s.ins+(x:Int)) ae,.c (Bn (s.ops.getD x eG) (s.ins+(x:Int)) ml),tB 42 (by rw[eC x ae];rfl:(!(eP (s.ops.getD x eG) (s.ins+(x:Int))))=false),eh ((x:Int)+1) ae]<|.nil) ah)
  (fun hx=>by
    have ml:=g.ops N;exact eu (chain [tT 32 ((N:Int)<(s.ops.length:Int)) ae,iX ((N:Int)) (s.ops.length) ae,eh (s.ins+(N:Int)) ae,.c (Bn (s.ops.getD N eG) (s.ins+(N:Int)) ml),tB 42 (by rw[hN];rfl:(!(eP (s.ops.getD N eG) (s.ins+(N:Int))))=true)]<|.nil) ah) ak :fP 5 Tryz.f82 (QD s N 0) .ret ⟨85,true,[(2,.e (bP false))],[]⟩) .nil]<|.nil) ah 
theorem ae5(s:fF)(g:s.Good)(sm:s.Small)(i0:0<=s.ins)(i8:s.ins<=8)(l1:s.ops.length<=200)(l2:s.outs.length<=200)(eC:∀ k,k<s.ops.length->(eP (s.ops.getD k eG) (s.ins+(k:Int)))=true)(hu:rA s=false):dM 82 [(jS s)] (bP false):=by
 exact tr true Tryz.call82 Tryz.func82 (chain [tF 10 (s.ins<0) ae,tF 14 (8<s.ins) ae,tF 20 (200<(s.ops.length:Int)) ae,tF 26 (200<(s.outs.length:Int)) ae,.s (Sp.upto (QE s) 0 s.ops.length ae (fun x hx ic=>by
    have ml:=g.ops x;exact eu (chain [tT 32 ((x:Int)<(s.ops.length:Int)) ae,iX ((x:Int)) (s.ops.length) ae,eh (s.ins+(x:Int)) ae,.c (Bn (s.ops.getD x eG) (s.ins+(x:Int)) ml),tB 42 (by rw[eC x ae];rfl:(!(eP (s.ops.getD x eG) (s.ins+(x:Int))))=false),eh ((x:Int)+1) ae]<|.nil) ah)
  (fun hx=>by
    exact eu (chain [tF 32 ((s.ops.length:Int)<(s.ops.length:Int)) ae]<|.nil) ah) ak :fP 5 Tryz.f82 (QE s 0) (.exit 0) ⟨85,true,[(3,.box 3 0),(1,.box 1 0)],[(3,.cells 25 [(iP s.ins),(fZ s.ops),(gl s.outs)]),(1,.cells 28 [(iP s.ins),(fZ s.ops),(gl s.outs),(iP s.eI),(gO s.params)])]⟩) .nil,.c (IG s ae ae ae ae g:dM 134 [(gl s.outs),(.fn 135 [(.ref 3 fun j_=>[(iP s.ins),(fZ s.ops),(gl s.outs)].getD j_ .any)])] _),tB 47 (by rw[hu];rfl:(!(rA s))=true)]<|.nil) ah 
theorem ae6(s:fF)(g:s.Good)(sm:s.Small)(i0:0<=s.ins)(i8:s.ins<=8)(l1:s.ops.length<=200)(l2:s.outs.length<=200)(eC:∀ k,k<s.ops.length->(eP (s.ops.getD k eG) (s.ins+(k:Int)))=true)(hu:rA s=true)(hc:¬(1<=s.eI/\s.eI<=4/\(s.outs.length:Int)=s.eI/\s.ins=s.eI+(s.params.length:Int)/\s.params.length<=4)):dM 82 [(jS s)] (bP false):=by
 have sp:=sm.params;exact tr true Tryz.call82 Tryz.func82 (chain [tF 10 (s.ins<0) ae,tF 14 (8<s.ins) ae,tF 20 (200<(s.ops.length:Int)) ae,tF 26 (200<(s.outs.length:Int)) ae,.s (Sp.upto (QF s) 0 s.ops.length ae (fun x hx ic=>by
    have ml:=g.ops x;exact eu (chain [tT 32 ((x:Int)<(s.ops.length:Int)) ae,iX ((x:Int)) (s.ops.length) ae,eh (s.ins+(x:Int)) ae,.c (Bn (s.ops.getD x eG) (s.ins+(x:Int)) ml),tB 42 (by rw[eC x ae];rfl:(!(eP (s.ops.getD x eG) (s.ins+(x:Int))))=false),eh ((x:Int)+1) ae]<|.nil) ah)
  (fun hx=>by
    exact eu (chain [tF 32 ((s.ops.length:Int)<(s.ops.length:Int)) ae]<|.nil) ah) ak :fP 5 Tryz.f82 (QF s 0) (.exit 0) ⟨85,true,[(3,.box 3 0),(1,.box 1 0)],[(3,.cells 25 [(iP s.ins),(fZ s.ops),(gl s.outs)]),(1,.cells 28 [(iP s.ins),(fZ s.ops),(gl s.outs),(iP s.eI),(gO s.params)])]⟩) .nil,.c (IG s ae ae ae ae g:dM 134 [(gl s.outs),(.fn 135 [(.ref 3 fun j_=>[(iP s.ins),(fZ s.ops),(gl s.outs)].getD j_ .any)])] _),tB 47 (by rw[hu];rfl:(!(rA s))=false)]<|.w (s.eI<1)
  (fun k1=>chain [tB 50 (aE k1)]<|.nil)
  (fun k1=>chain [tB 50 (aD k1)]<|.w (4<s.eI)
   (fun k2=>chain [tB 54 (aE k2)]<|.nil)
   (fun k2=>chain [tB 54 (aD k2)]<|.w ((s.outs.length:Int)=s.eI)
    (fun k3=>chain [tB 62 (az k3),eh (s.eI+(s.params.length:Int)) ae]<|.w (s.ins=(s.eI+(s.params.length:Int)))
     (fun k4=>chain [tB 73 (az k4)]<|.w (4<(s.params.length:Int))
      (fun k5=>chain [tB 79 (aE k5)]<|.nil)
      (fun k5=>.x ae))
     (fun k4=>chain [tB 73 (aA k4)]<|.nil))
    (fun k3=>chain [tB 62 (aA k3)]<|.nil)))) ah 
theorem ae7(s:fF)(g:s.Good)(sm:s.Small)(i0:0<=s.ins)(i8:s.ins<=8)(l1:s.ops.length<=200)(l2:s.outs.length<=200)(eC:∀ k,k<s.ops.length->(eP (s.ops.getD k eG) (s.ins+(k:Int)))=true)(hu:rA s=true)(s1:1<=s.eI)(s4:s.eI<=4)(e1:(s.outs.length:Int)=s.eI)(e2:s.ins=s.eI+(s.params.length:Int))(p4:s.params.length<=4):dM 82 [(jS s)] (bP (BF s)):=by
 have sp:=sm.params;exact tr true Tryz.call82 Tryz.func82 (chain [tF 10 (s.ins<0) ae,tF 14 (8<s.ins) ae,tF 20 (200<(s.ops.length:Int)) ae,tF 26 (200<(s.outs.length:Int)) ae,.s (Sp.upto (QG s) 0 s.ops.length ae (fun x hx ic=>by
    have ml:=g.ops x;exact eu (chain [tT 32 ((x:Int)<(s.ops.length:Int)) ae,iX ((x:Int)) (s.ops.length) ae,eh (s.ins+(x:Int)) ae,.c (Bn (s.ops.getD x eG) (s.ins+(x:Int)) ml),tB 42 (by rw[eC x ae];rfl:(!(eP (s.ops.getD x eG) (s.ins+(x:Int))))=false),eh ((x:Int)+1) ae]<|.nil) ah)
  (fun hx=>by
    exact eu (chain [tF 32 ((s.ops.length:Int)<(s.ops.length:Int)) ae]<|.nil) ah) ak :fP 5 Tryz.f82 (QG s 0) (.exit 0) ⟨85,true,[(3,.box 3 0),(1,.box 1 0)],[(3,.cells 25 [(iP s.ins),(fZ s.ops),(gl s.outs)]),(1,.cells 28 [(iP s.ins),(fZ s.ops),(gl s.outs),(iP s.eI),(gO s.params)])]⟩) .nil,.c (IG s ae ae ae ae g:dM 134 [(gl s.outs),(.fn 135 [(.ref 3 fun j_=>[(iP s.ins),(fZ s.ops),(gl s.outs)].getD j_ .any)])] _),tB 47 (by rw[hu];rfl:(!(rA s))=false),tF 50 (s.eI<1) ae,tF 54 (4<s.eI) ae,tB 62 (by simp[e1]:((s.outs.length:Int) != s.eI)=false),eh (s.eI+(s.params.length:Int)) ae,tB 73 (by simp[e2]:(s.ins != (s.eI+(s.params.length:Int)))=false),tF 79 (4<(s.params.length:Int)) ae,.c (PD 136 s.params (fun i=>ae1 _ (g.params i)) ae :dM 17 [(gO s.params),(.fn 136 [])] _)]<|rQ (bP (!(!(BF s)))) (bP (BF s)) (fY aj)) ah 
theorem Rl(s:fF)(g:s.Good)(sm:s.Small):dM 82 [jS s] (bP (od s)):=by
 by_cases c1:0<=s.ins/\s.ins<=8/\s.ops.length<=200/\s.outs.length<=200
 rotate_left
 .rw [show od s=false by unfold od;rw[aD c1];rfl]
  exact ae3 s g sm c1
 obtain⟨i0,i8,l1,l2⟩:=c1;by_cases c2:Ed s=true
 rotate_left
 .rw [show od s=false by unfold od;rw[ay c2];simp]
  obtain⟨N,n1,n2,n3⟩:=Cf c2;exact ae4 s g sm i0 i8 l1 l2 N n1 (fun k hk=>by simpa using n3 k hk) (by simpa using n2)
 have eC:∀ k,k<s.ops.length->eP (s.ops.getD k eG) (s.ins+(k:Int))=true:=fun k hk=>bg.1 c2 k (bt.2 hk)
 cases hu:rA s with
 | false=>
  rw[show od s=false by unfold od;rw[hu];simp];exact ae5 s g sm i0 i8 l1 l2 eC hu
 | true=>
  by_cases c3:1<=s.eI/\s.eI<=4/\(s.outs.length:Int)=s.eI/\s.ins=s.eI+(s.params.length:Int)/\s.params.length<=4
  .rw [show od s=BF s by unfold od;rw[aE (⟨i0,i8,l1,l2⟩:_/\_),c2,hu,aE c3];simp]
   obtain⟨s1,s4,e1,e2,p4⟩:=c3;exact ae7 s g sm i0 i8 l1 l2 eC hu s1 s4 e1 e2 p4
  .rw [show od s=false by unfold od;rw[aD c3];simp]
   exact ae6 s g sm i0 i8 l1 l2 eC hu c3
theorem E6(s:fF)(b:List RI)(gb:∀ i,(b.getD i gQ).Good)(pD:b.length<=1000):dM 42 [(jS s),(gO b)] (bP (oV s.eI b)):=by
 exact tr true Tryz.call42 Tryz.func42 (.w ((b.length:Int)=s.eI)
  (fun k1=>chain [tB 9 (ax k1),.c (PD 83 b (fun i=>Tw _ (gb i)) pD:dM 17 [(gO b),(.fn 83 [])] _)]<|rQ (bP (!(!((List.range b.length).all fun i=>kP (b.getD i gQ))))) (bP (oV s.eI b)) (fY (by unfold oV;simp[k1])))
  (fun k1=>chain [tB 9 (aw k1)]<|rQ (bP false) (bP (oV s.eI b)) (fY (by unfold oV;simp[k1])))) ah 
theorem WL(s:fF)(g:s.Good)(sm:s.Small)(x:List RI)(gx:∀ i,(x.getD i gQ).Good)(iA:x.length<=1000)(d:RD)(gd:d.Good)(p:Int)(hd:¬d.Ok):dM 41 [(jS s),(gO x),(jk d),(iP p)] (bP (kK s x d p)):=by
 have sW:Ec d=false:=ay fun q=>hd (Ja.1 q)
 exact tr true Tryz.call41 Tryz.func41 (chain [.c (Rl _ g sm:dM 82 [(jS s)] _)]<|.w (od s=true)
  (fun k1=>chain [tB 10 (k1),.c (E6 s x gx iA)]<|.w (oV s.eI x=true)
   (fun k2=>chain [tB 14 (k2),.c (vC _ af false (by simp[hd]):dM 68 [(jk d)] _)]<|rQ (bP false) (bP (kK s x d p)) (fY (by unfold kK;simp[sW,k1,k2])))
   (fun k2=>chain [tB 14 (ay k2)]<|rQ (bP false) (bP (kK s x d p)) (fY (by unfold kK;simp[sW,k1,k2]))))
  (fun k1=>chain [tB 10 (ay k1)]<|rQ (bP false) (bP (kK s x d p)) (fY (by unfold kK;simp[sW,k1])))) ah 
theorem WM(s:fF)(g:s.Good)(sm:s.Small)(x:List RI)(gx:∀ i,(x.getD i gQ).Good)(iA:x.length<=1000)(d:RD)(gd:d.Good)(p:Int)(hd:d.Ok):dM 41 [(jS s),(gO x),(dP d.dy),(iP p)] (bP (kK s x d p)):=by
 have sW:Ec d=true:=Ja.2 hd;have hv:=hd.valid;exact tr true Tryz.call41 Tryz.func41 (chain [.c (Rl _ g sm:dM 82 [(jS s)] _)]<|.w (od s=true)
  (fun k1=>chain [tB 10 (k1),.c (E6 s x gx iA)]<|.w (oV s.eI x=true)
   (fun k2=>chain [tB 14 (k2),.c (lK _ af :dM 68 [(dP d.dy)] _),.c (jN _ af :dM 35 [(dP d.dy)] _)]<|.w (0<(Dy.sign d.dy))
    (fun k3=>chain [tB 23 (aE k3)]<|.w (8<=p)
     (fun k4=>chain [tB 27 (aE k4)]<|rQ (bP (decide (p<=512))) (bP (kK s x d p)) (fY (by unfold kK;simp[sW,k1,k2,k3,k4])))
     (fun k4=>chain [tB 27 (aD k4)]<|rQ (bP false) (bP (kK s x d p)) (fY (by unfold kK;simp[sW,k1,k2,k3,k4]))))
    (fun k3=>chain [tB 23 (aD k3)]<|rQ (bP false) (bP (kK s x d p)) (fY (by unfold kK;simp[sW,k1,k2,k3]))))
   (fun k2=>chain [tB 14 (ay k2)]<|rQ (bP false) (bP (kK s x d p)) (fY (by unfold kK;simp[sW,k1,k2]))))
  (fun k1=>chain [tB 10 (ay k1)]<|rQ (bP false) (bP (kK s x d p)) (fY (by unfold kK;simp[sW,k1])))) ah 
theorem LZ(s:fF)(g:s.Good)(sm:s.Small)(x:List RI)(gx:∀ i,(x.getD i gQ).Good)(iA:x.length<=1000)(d:RD)(gd:d.Good)(p:Int):dM 41 [jS s,gO x,jk d,iP p] (bP (kK s x d p)):=by
 by_cases hd:d.Ok
 .have:=WM s g sm x gx iA d gd p hd
  rwa[<-FA,hd.eq gd]at this
 .exact WL s g sm x gx iA d gd p hd
open Go.RowKit Fp Pu
theorem afx{d:Int}(h0:0<=d)(h:d<=1073741824):IntKind.u64.wrap d=(d.natAbs:Int):=by rw[IntKind.wrap_u64];omega
open Go.RowKit Fp Pu
theorem K4{a b:Nat}:0<=fN a b↔b<=a:=by
 unfold fN;split
 .simp;omega
 .split<;>simp<;>omega
theorem P3(m n:Nat)(hl:(dN m).length<=1000)(hn:n<=65536):dM 148 [dO (dN m),iP (n:Int)] (dO (dN (m*2^n))):=
 Bs (gr m) Tryz.call148 (fun A c w h _=>ada A c (dN m) n w h hl hn) fun A c B w e w' h hB r=>by rw[eV]at r;exact rl B w e w' hB r
theorem acv(m n:Nat)(hl:(dN m).length<=3000)(hn:(dN n).length<=3000):dM 149 [dO (dN m),dO (dN n)] (dO (dN (m+n))):=
 uQ (gr m) (gr n) Tryz.call149 (fun A c B d w h k _=>adg A B c d (dN m) (dN n) w h k hl hn) fun B w e w' hB r=>by rw[eV,eV]at r;exact rl B w e w' hB r
theorem P4(m n:Nat)(hl:(dN m).length<=3000)(hn:n<=m):dM 151 [dO (dN m),dO (dN n)] (dO (dN (m-n))):=
 uQ (gr m) (gr n) Tryz.call151 (fun A c B d w h k _=>adb A B c d (dN m) (dN n) w h k hl (il hn) (by rw[eV,eV];exact hn)) fun B w e w' hB r=>by rw[eV,eV]at r;exact rl B w e w' hB r
theorem acs(m n:Nat)(hl:(dN m).length<=3000)(hn:(dN n).length<=3000):dM 150 [dO (dN m),dO (dN n)] (iP (fN m n)):=by
 refine uQ (gr m) (gr n) Tryz.call150 (fun A c B d w h k _=>ac4 A B c d (dN m) (dN n) w h k (qK _) (qK _) ae ae) ?_;rw[eV,eV];exact rv
theorem Qq(a b:Dy)(ha:ub a)(hb:ub b):dM 98 [(dP a),(dP b)] (dP (ep a b)):=by
 obtain⟨Yb,ha2,ha3⟩:=ha;obtain⟨eB,iR,mL⟩:=hb;have ba:=qR Yb;have bb:=qR eB;obtain⟨k,hk⟩:∃ k,min a.e b.e=k:=⟨_,rfl⟩
 exact tr true Tryz.call98 Tryz.func98 (.w (((dN a.m).length:Int)=0)
  (fun k1=>by
   have a0:a.m=0:=oM.1 ae;exact chain [tB 11 (ax k1)]<|rQ (dP b) (dP (ep a b)) (by rw[show ep a b=b by unfold ep;rw[aC a0]]))
  (fun k1=>by
   have a0:a.m≠0:=fun h=>k1 (by rw[oM.2 h];rfl)
   exact chain [tB 11 (aw k1)]<|.w (((dN b.m).length:Int)=0)
    (fun k2=>by
     have b0:b.m=0:=oM.1 ae;exact chain [tB 16 (ax k2)]<|rQ (dP a) (dP (ep a b)) (by rw[show ep a b=a by unfold ep;rw[aB a0,aC b0]]))
    (fun k2=>by
     have b0:b.m≠0:=fun h=>k2 (by rw[oM.2 h];rfl)
     have hX:(dN (a.m*2^((a.e-k).toNat))).length<=1400:=jF (by rw[mg a0];omega);have hY:(dN (b.m*2^((b.e-k).toNat))).length<=1400:=jF (by rw[mg b0];omega);have hP:=Oi hX hY;have hM:(dN ((a.m*2^((a.e-k).toNat))-(b.m*2^((b.e-k).toNat)))).length<=1400:=aI (il (cI _ _)) hX;have hN:(dN ((b.m*2^((b.e-k).toNat))-(a.m*2^((a.e-k).toNat)))).length<=1400:=aI (il (cI _ _)) hY;exact chain [tB 16 (aw k2),.o 22 (.int (by rw[<-hk];split<;>omega):PV.le (.e (iP (if b.e<a.e then b.e else a.e))) (.e (iP k))),eh (a.e-k) ae,.o 28 (.int ae :PV.le (.e (iP (a.e-k))) (.e (iP ((a.e-k).toNat:Int)))),.c (P3 _ _ ae ae :dM 148 [(dO (dN a.m)),(iP ((a.e-k).toNat:Int))] _),eh (b.e-k) ae,.o 35 (.int ae :PV.le (.e (iP (b.e-k))) (.e (iP ((b.e-k).toNat:Int)))),.c (P3 _ _ ae ae :dM 148 [(dO (dN b.m)),(iP ((b.e-k).toNat:Int))] _)]<|.w (a.neg=b.neg)
      (fun k3=>chain [tB 41 (ax k3),.c (acv _ _ ae ae :dM 149 [(dO (dN (a.m*2^((a.e-k).toNat)))),(dO (dN (b.m*2^((b.e-k).toNat))))] _),.c (wP _ _ _ ae ae ae :dM 76 [(bP a.neg),(dO (dN ((a.m*2^((a.e-k).toNat))+(b.m*2^((b.e-k).toNat))))),(iP k)] _)]<|rQ (dP (canon a.neg ((a.m*2^((a.e-k).toNat))+(b.m*2^((b.e-k).toNat))) k)) (dP (ep a b)) (by have h:=Rh (s:=a.neg) a0 b0 hk;rw[show(⟨a.neg,b.m,b.e⟩:Dy)=b by rw[k3]]at h;exact congrArg dP h.symm))
      (fun k3=>chain [tB 41 (aw k3),.c (acs _ _ ae ae :dM 150 [(dO (dN (a.m*2^((a.e-k).toNat)))),(dO (dN (b.m*2^((b.e-k).toNat))))] _)]<|.w (0<=(fN (a.m*2^((a.e-k).toNat)) (b.m*2^((b.e-k).toNat))))
       (fun k4=>by
        have hc:(b.m*2^((b.e-k).toNat))<=(a.m*2^((a.e-k).toNat)):=K4.1 k4;exact chain [tB 52 (aE k4),.c (P4 _ _ ae ae :dM 151 [(dO (dN (a.m*2^((a.e-k).toNat)))),(dO (dN (b.m*2^((b.e-k).toNat))))] _),.c (wP _ _ _ ae ae ae :dM 76 [(bP a.neg),(dO (dN ((a.m*2^((a.e-k).toNat))-(b.m*2^((b.e-k).toNat))))),(iP k)] _)]<|rQ (dP (canon a.neg ((a.m*2^((a.e-k).toNat))-(b.m*2^((b.e-k).toNat))) k)) (dP (ep a b)) (congrArg dP (Rf (s:=a.neg) (t:=b.neg) a0 b0 hk k3 hc).symm))
       (fun k4=>by
        have hc:(a.m*2^((a.e-k).toNat))<(b.m*2^((b.e-k).toNat)):=Nat.lt_of_not_le fun h=>k4 (K4.2 h)
        exact chain [tB 52 (aD k4),.c (P4 _ _ ae ae :dM 151 [(dO (dN (b.m*2^((b.e-k).toNat)))),(dO (dN (a.m*2^((a.e-k).toNat))))] _),.c (wP _ _ _ ae ae ae :dM 76 [(bP b.neg),(dO (dN ((b.m*2^((b.e-k).toNat))-(a.m*2^((a.e-k).toNat))))),(iP k)] _)]<|rQ (dP (canon b.neg ((b.m*2^((b.e-k).toNat))-(a.m*2^((a.e-k).toNat))) k)) (dP (ep a b)) (congrArg dP (Rg (s:=a.neg) (t:=b.neg) a0 b0 hk k3 hc).symm)))))) ah 
theorem I4(a b:Dy)(ha:ub a)(hb:ub b):dM 53 [(dP a),(dP b)] (iP (ew a b)):=by
 have hn:ub (eD b):=⟨hb.len,hb.lo,hb.hi⟩
 exact tr true Tryz.call53 Tryz.func53 (chain [.c (I5 _:dM 47 [(dP a)] _),.c (I5 _:dM 47 [(dP b)] _)]<|.w ((Dy.sign a)=(Dy.sign b))
  (fun k1=>chain [tB 13 (az k1)]<|.w ((Dy.sign a)=0)
   (fun k2=>chain [tB 18 (ax k2)]<|rQ (iP 0) (iP (ew a b)) (by rw[xv,aB (by simpa using k1),aC k2]))
   (fun k2=>chain [tB 18 (aw k2),.c (D5 _ ha:dM 97 [(dP a)] _),.c (D5 _ hb:dM 97 [(dP b)] _)]<|.w ((Dy.dX a)=(Dy.dX b))
    (fun k3=>chain [tB 23 (az k3),.c (adf _:dM 99 [(dP b)] _),.c (Qq _ _ ha hn:dM 98 [(dP a),(dP (eD b))] _),.c (I5 _:dM 47 [(dP (ep a (eD b)))] _)]<|rQ (iP (Dy.sign (ep a (eD b)))) (iP (ew a b)) (by rw[xv,aB (by simpa using k1),aB k2,aB (by simpa using k3)]))
    (fun k3=>chain [tB 23 (aA k3),.c (D5 _ ha:dM 97 [(dP a)] _),.c (D5 _ hb:dM 97 [(dP b)] _)]<|.w ((decide ((Dy.dX a)<(Dy.dX b)))=(decide (0<(Dy.sign a))))
     (fun k4=>chain [tB 31 (ax k4)]<|rQ (iP (-1)) (iP (ew a b)) (by rw[xv,aB (by simpa using k1),aB k2,aC k3,aC (by simpa using k4)]))
     (fun k4=>chain [tB 31 (aw k4)]<|rQ (iP 1) (iP (ew a b)) (by rw[xv,aB (by simpa using k1),aB k2,aC k3,aB (by simpa using k4)])))))
  (fun k1=>chain [tB 13 (aA k1)]<|.w ((Dy.sign a)<(Dy.sign b))
   (fun k2=>chain [tB 16 (aE k2)]<|rQ (iP (-1)) (iP (ew a b)) (by rw[xv,aC k1,aC k2]))
   (fun k2=>chain [tB 16 (aD k2)]<|rQ (iP 1) (iP (ew a b)) (by rw[xv,aC k1,aB k2])))) ah 
open Go.RowKit Fp Pu
def Mh(a b:Nat)(x:Nat):PS:=⟨12,true,[(0,.e (.v (.int .u64 ((((ib a b x).1):Nat):Int)))),(1,.e (.v (.int .u64 ((((ib a b x).2):Nat):Int))))],[]⟩
theorem W2(a b N:Nat)(ha:a<18446744073709551616)(hb:b<18446744073709551616)(eC:∀ k,k<N->(ib a b k).2≠0)(hN:(ib a b N).2=0):dM 182 [(.v (.int .u64 (a:Int))),(.v (.int .u64 (b:Int)))] (.v (.int .u64 ((((ib a b N).1):Nat):Int))):=by
 exact tr true Tryz.call182 Tryz.func182 (chain [.s (Sp.upto (Mh a b) 0 N ae (fun x hx ic=>by
    have eZ:=eC x ae;exact eu (chain [tB 6 (Im (eC x ae):(((((ib a b x).2):Nat):Int) != 0)=true),.a ( ae :0<(((((ib a b x).2):Nat):Int):Int))]<|.e (chain [.o 0 (.int (by first|rfl|omega|(simp only[aO,aK];omega)):PV.le (.e (.v (.int .u64 ((((ib a b x).2):Nat):Int)))) (.e (.v (.int .u64 ((((ib a b (x+1)).1):Nat):Int))))),.o 1 (.int (by first|rfl|omega|(simp only[aO,aK];omega)):PV.le (.e (.v (.int .u64 (((((ib a b x).1)%((ib a b x).2)):Nat):Int)))) (.e (.v (.int .u64 ((((ib a b (x+1)).2):Nat):Int)))))]<|.nil)) ah)
  (fun hx=>by
    exact eu (chain [tB 6 (DO hN:(((((ib a b N).2):Nat):Int) != 0)=false)]<|.nil) ah) ak :fP 1 Tryz.f182 (Mh a b 0) (.exit 0) ⟨12,true,[(0,.e (.v (.int .u64 ((((ib a b N).1):Nat):Int))))],[]⟩) (chain [.o 0 (.int (by first|rfl|omega|(simp only[aO,aK];omega)):PV.le (.e (.v (.int .u64 (a:Int)))) (.e (.v (.int .u64 ((((ib a b 0).1):Nat):Int))))),.o 1 (.int (by first|rfl|omega|(simp only[aO,aK];omega)):PV.le (.e (.v (.int .u64 (b:Int)))) (.e (.v (.int .u64 ((((ib a b 0).2):Nat):Int)))))]<|.nil)]<|.nil) ah 
theorem W3(a b:Nat)(ha:a<18446744073709551616)(hb:b<18446744073709551616):dM 182 [(.v (.int .u64 (a:Int))),(.v (.int .u64 (b:Int)))] (.v (.int .u64 (Nat.gcd a b:Int))):=by
 obtain⟨N,h1,h2⟩:=LM b a;have hg:=FI a b N;rw[h2,Nat.gcd_zero_right]at hg;rw[<-hg];exact W2 a b N ha hb h1 h2
theorem aer(m:Nat)(h:m<=1073741824):dM 183 [(iP m)] (.v (.int .u64 (m:Int))):=by
 exact tr true Tryz.call183 Tryz.func183 (chain [tF 4 ((m:Int)<0) ae,.o 11 (.int (lY _ ae):PV.le (.e (.v (.int .u64 (IntKind.u64.wrap (m:Int))))) (.e (.v (.int .u64 (m:Int)))))]<|.nil) ah 
theorem aep(m:Nat)(h0:0<m)(h:m<=1073741824):dM 183 [(iP (-(m:Int)))] (.v (.int .u64 (m:Int))):=by
 exact tr true Tryz.call183 Tryz.func183 (chain [tT 4 ((-(m:Int))<0) ae,eh ((-(m:Int))+1) ae,eh (0-((-(m:Int))+1)) ae,.o 7 (.int ae :PV.le (.e (iP (0-((-(m:Int))+1)))) (.e (iP (((m-1):Nat):Int)))),.o 8 (.int (lY _ ae):PV.le (.e (.v (.int .u64 (IntKind.u64.wrap (((m-1):Nat):Int))))) (.e (.v (.int .u64 (((m-1):Nat):Int))))),nJ ((((m-1):Nat):Int)+1) ae]<|rQ (.v (.int .u64 ((((m-1)+1):Nat):Int))) (.v (.int .u64 (m:Int))) (by rw[show m-1+1=m by omega])) ah 
theorem aeq(n:Int)(h1:-1073741824<=n)(h2:n<=1073741824):dM 183 [iP n] (.v (.int .u64 (n.natAbs:Int))):=by
 by_cases h:0<=n
 .obtain ⟨m,rfl⟩:=dL h
  exact aer m ae 
 .obtain ⟨m,rfl⟩:∃ m:Nat,n = -(m:Int):=⟨n.natAbs, ae⟩
  rw[ag9,dz];exact aep m ae ae 
theorem acL(n d:Int):dM 146 [(.agg [(iP n),(iP d)])] (bP (jb n d)):=by
 exact tr true Tryz.call146 Tryz.func146 (.w (1<=d)
  (fun k1=>chain [tB 5 (aE k1)]<|.w (d<=1073741824)
   (fun k2=>chain [tB 9 (aE k2)]<|.w ((-1073741824)<=n)
    (fun k3=>chain [tB 14 (aE k3)]<|.w (n<=1073741824)
     (fun k4=>chain [tB 19 (aE k4),.c (aeq _ ae ae :dM 183 [(iP n)] _),.o 27 (.int (afx ae ae):PV.le (.e (.v (.int .u64 (IntKind.u64.wrap d)))) (.e (.v (.int .u64 (Int.natAbs d:Int))))),.c (W3 _ _ ae ae :dM 182 [(.v (.int .u64 (Int.natAbs n:Int))),(.v (.int .u64 (Int.natAbs d:Int)))] _)]<|rQ (bP ((Nat.gcd (Int.natAbs n) (Int.natAbs d):Int)==1)) (bP (jb n d)) (by unfold jb;simp[su,k1,k2,k3,k4]))
     (fun k4=>chain [tB 19 (aD k4)]<|rQ (bP false) (bP (jb n d)) (by unfold jb;simp[su,k1,k2,k3,k4])))
    (fun k3=>chain [tB 14 (aD k3)]<|rQ (bP false) (bP (jb n d)) (by unfold jb;simp[su,k1,k2,k3])))
   (fun k2=>chain [tB 9 (aD k2)]<|rQ (bP false) (bP (jb n d)) (by unfold jb;simp[su,k1,k2])))
  (fun k1=>chain [tB 5 (aD k1)]<|rQ (bP false) (bP (jb n d)) (by unfold jb;simp[su,k1]))) ah 
open Go.RowKit Fp Pu
def mS:iV:=⟨⟨1,[],[0]⟩,1,[]⟩
theorem Jx:kU mS:=by
 refine⟨⟨ ag, ag, ag,fun i hi=>absurd hi (aV i),fun i hi=>?_⟩, ag, ag,rfl,rfl, ag,fun i hi=>absurd hi (aV i)⟩;have hi:i<1:=hi;obtain rfl:i=0:= ae ;decide
theorem aeo{B:Iv}(v:B.Valid)(a:B.all=false):gR 1 [B]:=⟨rfl,fun i hi=>by
 have hi:i<1:=hi;obtain rfl:i=0:= ae ;exact⟨v,a⟩⟩
abbrev oz:List Iv:=[⟨gp 1 0,gp 1 0,false⟩]
abbrev oY:Dy:=gp 1 (-2)
abbrev CM:List Iv:=[⟨gp 2 (-1),gp 3 (-1),false⟩]
abbrev CN:List Iv:=[⟨gp 4 (-2),gp 5 (-2),false⟩]
theorem Wf:∀ k:Nat,k<19->sL mS oz oY 60 ((k:Int)-20)=false:=by
 have h:((List.range 19).all fun k:Nat=>!(sL mS oz oY 60 ((k:Int)-20)))=true:= ar ;intro k hk;simpa using List.all_eq_true.1 h k (bt.2 hk)
theorem Wg:sL mS oz oY 60 (((19:Nat):Int)-20)=true:= ar 
theorem We:(mJ oz (jG (((19:Nat):Int)-20))).length=1:= ar 
theorem Wc:oF mS oz oY CM 60=true:= ar 
theorem Wd:oF mS oz oY CN 60=false:= ar 
theorem FU{a b e:Int}(h1:a.natAbs<4294967296)(h2:b.natAbs<4294967296)(h3:-1000<=e)(h4:e<=1000)(h:ew (gp a e) (gp b e)<=0):gR 1 [⟨gp a e,gp b e,false⟩]:=
 aeo (.inr ⟨rfl,zJ h1 h3 h4,zJ h2 h3 h4,h⟩) rfl
theorem FT:gR 1 oz:=FU ag ag ag ag ar 
theorem V3:gR 1 CM:=FU ag ag ag ag ar 
theorem V4:gR 1 CN:=FU ag ag ag ag ar 
theorem FR:oY.Valid:=zJ ag ag ag 
theorem FQ:0<oY.sign:= ar 
open Go.RowKit Fp Pu
theorem AX(n e:Int)(h1:n.natAbs<4294967296)(h2:-1000<=e)(h3:e<=1000):dM 39 [(iP n),(iP e)] (dP (gp n e)):=by
 have Zi:iM (canon (Dy.neg (er n)) (Dy.m (er n)) ((Dy.e (er n))+e)):=by rw[KN];exact(zJ h1 h2 h3).range
 exact tr true Tryz.call39 Tryz.func39 (chain [.c (ac7 _ ae :dM 81 [(iP n)] _),.c (adj _ _ (jx ae) ae ae Zi:dM 31 [(dP (er n)),(iP e)] _)]<|rQ (dP (canon (Dy.neg (er n)) (Dy.m (er n)) ((Dy.e (er n))+e))) (dP (gp n e)) (by rw[KN])) ah 
theorem Hw(a b e:Int)(h1:a.natAbs<4294967296)(h4:b.natAbs<4294967296)(h2:-1000<=e)(h3:e<=1000):dM 38 [(iP a),(iP b),(iP e)] (dQ (Iv.mk (gp a e) (gp b e) false)):=by
 exact tr true Tryz.call38 Tryz.func38 (chain [.c (AX _ _ ae ae ae :dM 39 [(iP a),(iP e)] _),.c (AX _ _ ae ae ae :dM 39 [(iP b),(iP e)] _)]<|.nil) ah 
theorem Jw:E.le (.agg [iP 1,.v (.slice none 0 0),.sl true 1 1 fun i j=>[iP 0].getD (i*1+j) (.v (.bool false)),iP 1,.v (.slice none 0 0)]) (gv mS):=
 .agg (.cons (.refl _) (.cons (.nil _ _ _) (.cons (.sl fun i j hi hj=>by
  obtain rfl:i=0:= ae ;obtain rfl:j=0:= ae ;exact⟨.of_eq rfl,rfl⟩) (.cons (.refl _) (.cons (.nil _ _ _) .nil)))))
theorem V7:dM 26 [gv mS,dY oz,dP oY,iP 60] (.ef [dY (mJ oz (jG (((19:Nat):Int)-20))),iP 0]):=
 VS mS oz oY 60 Jx FT FR FQ ag ag 19 ag Wf Wg
theorem V8:dM 23 [gv mS,dY oz,dP oY,dY CM,iP 60] (bP true):=by
 have:=ri mS oz oY CM 60 Jx FT FR FQ V3 ag ag;rwa[Wc]at this
theorem V9:dM 23 [gv mS,dY oz,dP oY,dY CN,iP 60] (bP false):=by
 have:=ri mS oz oY CN 60 Jx FT FR FQ V4 ag ag;rwa[Wd]at this
theorem AW : dM 9 [] (bP true):=by
 exact tr true Tryz.call9 Tryz.func9 (chain [.c (Hw _ _ _ ag ag ag ag :dM 38 [(iP 1),(iP 1),(iP 0)] _),.o 9 (.e (jf _):PV.le (.e (.sl true 1 7 fun i_ j_=>(ev (Iv.mk (gp 1 0) (gp 1 0) false)).getD (i_*7+j_) (.v (.bool false)))) (.e (dY [(Iv.mk (gp 1 0) (gp 1 0) false)]))),.o 11 (.e Jw:PV.le (.e (.agg [(iP 1),(.v (.slice none 0 0)),(.sl true 1 1 fun i_ j_=>[(iP 0)].getD (i_*1+j_) (.v (.bool false))),(iP 1),(.v (.slice none 0 0))])) (.e (gv mS))),.c (AX _ _ ag ag ag :dM 39 [(iP 1),(iP (-2))] _),.c (V7:dM 26 [(gv mS),(dY [(Iv.mk (gp 1 0) (gp 1 0) false)]),(dP (gp 1 (-2))),(iP 60)] _),.o 17 (.e Jw:PV.le (.e (.agg [(iP 1),(.v (.slice none 0 0)),(.sl true 1 1 fun i_ j_=>[(iP 0)].getD (i_*1+j_) (.v (.bool false))),(iP 1),(.v (.slice none 0 0))])) (.e (gv mS))),.c (AX _ _ ag ag ag :dM 39 [(iP 1),(iP (-2))] _),.c (Hw _ _ _ ag ag ag ag :dM 38 [(iP 2),(iP 3),(iP (-1))] _),.o 21 (.e (jf _):PV.le (.e (.sl true 1 7 fun i_ j_=>(ev (Iv.mk (gp 2 (-1)) (gp 3 (-1)) false)).getD (i_*7+j_) (.v (.bool false)))) (.e (dY [(Iv.mk (gp 2 (-1)) (gp 3 (-1)) false)]))),.c (V8:dM 23 [(gv mS),(dY [(Iv.mk (gp 1 0) (gp 1 0) false)]),(dP (gp 1 (-2))),(dY [(Iv.mk (gp 2 (-1)) (gp 3 (-1)) false)]),(iP 60)] _),.o 24 (.e Jw:PV.le (.e (.agg [(iP 1),(.v (.slice none 0 0)),(.sl true 1 1 fun i_ j_=>[(iP 0)].getD (i_*1+j_) (.v (.bool false))),(iP 1),(.v (.slice none 0 0))])) (.e (gv mS))),.c (AX _ _ ag ag ag :dM 39 [(iP 1),(iP (-2))] _),.c (Hw _ _ _ ag ag ag ag :dM 38 [(iP 4),(iP 5),(iP (-2))] _),.o 28 (.e (jf _):PV.le (.e (.sl true 1 7 fun i_ j_=>(ev (Iv.mk (gp 4 (-2)) (gp 5 (-2)) false)).getD (i_*7+j_) (.v (.bool false)))) (.e (dY [(Iv.mk (gp 4 (-2)) (gp 5 (-2)) false)]))),.c (V9:dM 23 [(gv mS),(dY [(Iv.mk (gp 1 0) (gp 1 0) false)]),(dP (gp 1 (-2))),(dY [(Iv.mk (gp 4 (-2)) (gp 5 (-2)) false)]),(iP 60)] _),tB 34 ( ag :((0:Int)==0)=true),tB 39 (by rw[We];rfl:((((mJ oz (jG (((19:Nat):Int)-20))).length:Nat):Int)==1)=true)]<|.nil) ah 
def kO(d:RD):Bool:=decide (20<d.L.length)||(decide (300<d.e)||decide (d.e < -300))
def tu(x:RI):Bool:=kO x.lo||kO x.hi
def kR(l:List RI):Bool:=decide (l.length<=8) && !((List.range l.length).any fun i=>tu (l.getD i gQ))
def np(s:fF):Bool:=decide (s.ops.length<=60)&&(decide (s.outs.length<=8)&&kR s.params)
theorem BK{l:List RI}(h:kR l=true):l.length<=8:=by
 unfold kR at h;rw[aX,bF]at h;exact h.1
theorem FX{s:fF}(h:np s=true):s.Small:=by
 unfold np at h;rw[aX,aX,bF,bF]at h;have:=BK h.2.2;exact⟨ ae, ae, ae⟩
theorem yC(d:RD):dM 12 [(jk d)] (bP (kO d)):=by
 exact tr true Tryz.call12 Tryz.func12 (.w (20<(d.L.length:Int))
  (fun k1=>chain [tB 6 (aE k1)]<|rR (bP (kO d)) (by
      exact .of_eq (by
       have:kO d=true:=by unfold kO;simp[show 20<d.L.length from ae]
       rw[this]):E.le (bP true) (bP (kO d))))
  (fun k1=>chain [tB 6 (aD k1)]<|.w (300<d.e)
   (fun k2=>chain [tB 10 (aE k2)]<|rR (bP (kO d)) (by
      exact .of_eq (by
       have:kO d=true:=by unfold kO;simp[show ¬20<d.L.length from ae,k2]
       rw[this]):E.le (bP true) (bP (kO d))))
   (fun k2=>chain [tB 10 (aD k2)]<|rR (bP (kO d)) (by
      exact .of_eq (by
       have:kO d=(decide (d.e<(-300))):=by unfold kO;simp[show ¬20<d.L.length from ae,k2]
       rw[this]):E.le (bP (decide (d.e<(-300)))) (bP (kO d)))))) ah 
theorem aar(x:RI):dM 40 [(rz x)] (bP (tu x)):=by
 exact tr true Tryz.call40 Tryz.func40 (chain [.c (yC x.lo:dM 12 [(jk x.lo)] _)]<|.w (kO x.lo=true)
  (fun k1=>chain [tB 5 (k1)]<|rQ (bP true) (bP (tu x)) (fY (by simp_all[tu])))
  (fun k1=>chain [tB 5 (ay k1),.c (yC x.hi:dM 12 [(jk x.hi)] _)]<|rQ (bP (kO x.hi)) (bP (tu x)) (fY (by simp_all[tu])))) ah 
theorem aaq(l:List RI)(hl:l.length<=1000):dM 17 [gO l,.fn 40 []] (bP ((List.range l.length).any fun i=>tu (l.getD i gQ))):=
 Ht true l.length (fun i j=>(tK (l.getD i gQ)).getD j .any) 40 [] (fun i=>tu (l.getD i gQ)) (fun i _=>aar _) ae 
theorem tp(l:List RI):dM 11 [(gO l)] (bP (kR l)):=by
 exact tr true Tryz.call11 Tryz.func11 (.w ((l.length:Int)<=8)
  (fun k1=>chain [tB 5 (aE k1),.c (aaq l ae :dM 17 [(gO l),(.fn 40 [])] _)]<|rQ (bP (!((List.range l.length).any fun i=>tu (l.getD i gQ)))) (bP (kR l)) (fY (by unfold kR;simp[show l.length<=8 from ae])))
  (fun k1=>chain [tB 5 (aD k1)]<|rQ (bP false) (bP (kR l)) (fY (by unfold kR;simp[show ¬l.length<=8 from ae])))) ah 
theorem DG(s:fF):dM 10 [(jS s)] (bP (np s)):=by
 exact tr true Tryz.call10 Tryz.func10 (.w ((s.ops.length:Int)<=60)
  (fun k1=>chain [tB 7 (aE k1)]<|.w ((s.outs.length:Int)<=8)
   (fun k2=>chain [tB 13 (aE k2),.c (tp _:dM 11 [(gO s.params)] _)]<|rQ (bP (kR s.params)) (bP (np s)) (fY (by unfold np;simp[show s.ops.length<=60 from ae,show s.outs.length<=8 from ae])))
   (fun k2=>chain [tB 13 (aD k2)]<|rQ (bP false) (bP (np s)) (fY (by unfold np;simp[show s.ops.length<=60 from ae,show ¬s.outs.length<=8 from ae]))))
  (fun k1=>chain [tB 7 (aD k1)]<|rQ (bP false) (bP (np s)) (fY (by unfold np;simp[show ¬s.ops.length<=60 from ae])))) ah 
theorem L3{s:fF}(g:s.Good){x:List RI}(gx:∀ i,(x.getD i gQ).Good){d:RD}(gd:d.Good){p:Int}(h:kK s x d p=true):kU s.v/\gR s.v.eI (x.map RI.iv)/\d.dy.Valid/\0<d.dy.sign/\8<=p/\p<=512/\jS s=gv s.v/\gO x=dY (x.map RI.iv)/\jk d=dP d.dy:=by
 unfold kK at h;simp only[aX,bF]at h;obtain⟨⟨⟨⟨h1,h2⟩,h3⟩,h4⟩,h5⟩:=h;obtain⟨o1,o2⟩:=adY g h1;have h3:=Ja.1 h3;unfold oV at h2;rw[aX,bF]at h2;obtain⟨b1,b2⟩:=h2;have pa:∀ i,i<x.length->(x.getD i gQ).Ok/\(x.getD i gQ).all=false:=fun i hi=>by
  have:=bg.1 b2 i (bt.2 hi);unfold kP at this;rw[aX]at this;exact⟨tD.1 this.1,by simpa using this.2⟩
 have at_:∀ i,i<x.length->(x.map RI.iv).getD i dV=(x.getD i gQ).iv:=fun i hi=>by simp[aF,hi]
 have s1:=o1.s1;refine⟨o1,⟨by rw[bX];show x.length=s.eI.toNat;omega,fun i hi=>?_⟩,h3.valid,h4,h5.1,h5.2,o2,?_,?_⟩
 .have hi:i<x.length:=by simpa using hi
  rw[at_ i hi];exact⟨(pa i hi).1.valid,(pa i hi).2⟩
 .rw [<-Hu]
  congr 1;apply agN;intro i;unfold uV;rw[bL,bL];by_cases hi:i<x.length
  .have h1:=(pa i hi).1
   have g1:=gx i;rw[aM hi];rw[aF,aM hi]at h1 g1;exact congrArg some (RI.Ok.eq (x:=x[i]) h1 g1).symm
  .rw [bu ae];rfl
 .rw [<-FA,h3.eq gd]
end Go.Proofs.YtdgnpeddgdclhaaGreatDoor
namespace Go.Proofs.YtdgnpeddgdclhaaGreatDoor.Fp
theorem Ea{d:Dy}(hd:d.Canon){p:Nat}(hp:1<=p)(dR:p<=4096)(h0:0<=d.q):fg d p false=0/\0<=(ff d p false).q:=(po hd hp dR).2 0 (.inl (sD p)) h0
theorem Qw{a b:Dy}(ha:a.Canon)(hb:b.Canon){p:Nat}(hp:1<=p)(dR:p<=4096)(h:a.q<=b.q)(he:fg a p false=0):fg b p false=0/\(ff a p false).q<=(ff b p false).q:=by
 obtain⟨g1,g2⟩:=(po ha hp dR).1 he;exact(po hb hp dR).2 _ g1 (aU g2 h)
theorem Qy{a b:Dy}(ha:a.Canon)(hb:b.Canon){p:Nat}(hp:1<=p)(dR:p<=4096)(h:a.q<=b.q)(he:fg b p true=0):fg a p true=0/\(ff a p true).q<=(ff b p true).q:=by
 obtain⟨g1,g2⟩:=(pS hb hp dR).1 he;exact(pS ha hp dR).2 _ g1 (aU h g2)
theorem wM{d:Dy}(hd:d.Canon)(h0:0<=d.q){p:Nat}(hp:1<=p)(dR:p<=4096):∀ k,(ez d p false k).2=0/\0<=(ez d p false k).1.q
 | 0=>Ea hd hp dR h0
 | k+1=>by
  obtain⟨i1,i2⟩:=wM hd h0 hp dR k;have hk:¬(ez d p false k).2≠0:= ae ;simp only[ez,aB hk];exact Ea (oW _ _) hp dR (by rw[qG];exact bk i2 h0)
theorem OW{a b c d:Rat}(h0:0<=b)(h1:a<=c)(h2:b<=d)(h3:0<=c):a*b<=c*d:=
 aU (bJ h1 h0) (bT h2 h3)
theorem IM{a b:Dy}(ha:a.Canon)(hb:b.Canon)(h0:0<=a.q)(h:a.q<=b.q){p:Nat}(hp:1<=p)(dR:p<=4096):∀ k,(ez a p false k).1.q<=(ez b p false k).1.q
 | 0=>(Qw ha hb hp dR h (Ea ha hp dR h0).1).2
 | k+1=>by
  have ih:=IM ha hb h0 h hp dR k;obtain⟨a1,a2⟩:=wM ha h0 hp dR k;obtain⟨b1,b2⟩:=wM hb (aU h0 h) hp dR k;simp only[ez,aB (show ¬(ez a p false k).2≠0 by omega),aB (show ¬(ez b p false k).2≠0 by omega)];refine(Qw (oW _ _) (oW _ _) hp dR ?_ (Ea (oW _ _) hp dR ?_).1).2
  .rw [qG,qG];exact OW h0 ih h b2
  .rw [qG];exact bk a2 h0
theorem IP{a b:Dy}(ha:a.Canon)(hb:b.Canon)(h0:0<=a.q)(h:a.q<=b.q){p:Nat}(hp:1<=p)(dR:p<=4096):∀ k,(ez b p true k).2=0->(ez a p true k).2=0/\(ez a p true k).1.q<=(ez b p true k).1.q
 | 0,he=>Qy ha hb hp dR h he
 | k+1,he=>by
  by_cases hk:(ez b p true k).2≠0
  .exfalso;simp only[ez,aC hk]at he;exact hk he
  .obtain ⟨a1,a2⟩:=IP ha hb h0 h hp dR k ae 
   have b2:=aU (sB (aU h0 h) (k+1)) (yT hb (aU h0 h) hp dR k ae);simp only[ez,aB hk]at he;simp only[ez,aB hk,aB (show ¬(ez a p true k).2≠0 by omega)];refine Qy (oW _ _) (oW _ _) hp dR ?_ he;rw[qG,qG];exact OW h0 a2 h b2
theorem BL{d:Dy}(h:¬d.sign<0):0<=d.q:=by
 rw[(kp d).2]at h
 grind
theorem LJ{a b:Dy}(ha:a.Canon)(hb:b.Canon)(h:a.q<=b.q){n p:Nat}(hp:1<=p)(dR:p<=4096)(he:(fU a n p false).2=0):(fU b n p false).2=0/\(fU a n p false).1.q<=(fU b n p false).1.q:=by
 unfold fU at he ⊢;by_cases sa:a.sign<0
 .have qa:=(kp a).2.1 sa
  rw[aC sa]at he ⊢;simp only[cV]at he ⊢;by_cases sb:b.sign<0
  .have qb:=(kp b).2.1 sb
   rw[aC sb];obtain⟨h1,h2⟩:=IP (sr hb) (sr ha) (by rw[iB];grind) (by rw[iB,iB];grind) hp dR (n-1) he;refine⟨h1,?_⟩;rw[iB,iB]
   grind
  .rw [aB sb]
   obtain⟨h1,h2⟩:=wM hb (BL sb) hp dR (n-1);have h3:=yT (sr ha) (by rw[iB];grind) hp dR (n-1) he;have h4:=sB (show 0<=(eD a).q by rw[iB];grind) (n-1+1);refine⟨h1,?_⟩;rw[iB]
   grind
 .have qa:=BL sa
  have sb:¬b.sign<0:=fun q=>by have:=(kp b).2.1 q;grind
  rw[aB sa]at he ⊢;rw[aB sb];exact⟨(wM hb (BL sb) hp dR _).1,IM ha hb qa h hp dR _⟩
theorem LI{a b:Dy}(ha:a.Canon)(hb:b.Canon)(h:a.q<=b.q){n p:Nat}(hp:1<=p)(dR:p<=4096)(he:(fU b n p true).2=0):(fU a n p true).2=0/\(fU a n p true).1.q<=(fU b n p true).1.q:=by
 unfold fU at he ⊢;by_cases sb:b.sign<0
 .have qb:=(kp b).2.1 sb
  have sa:a.sign<0:=(kp a).2.2 aq;rw[aC sb]at he ⊢;rw[aC sa];simp only[dr]at he ⊢;have h1:=wM (sr ha) (by rw[iB];grind) hp dR (n-1);have h2:=IM (sr hb) (sr ha) (by rw[iB];grind) (by rw[iB,iB];grind) hp dR (n-1);refine⟨h1.1,?_⟩;rw[iB,iB]
  grind
 .have qb:=BL sb
  rw[aB sb]at he ⊢;by_cases sa:a.sign<0
  .have qa:=(kp a).2.1 sa
   rw[aC sa];simp only[dr];have h1:=wM (sr ha) (by rw[iB];grind) hp dR (n-1);have h3:=yT hb qb hp dR (n-1) he;have h4:=sB qb (n-1+1);refine⟨h1.1,?_⟩;rw[iB]
   grind
  .rw [aB sa]
   exact IP ha hb (BL sa) h hp dR _ he
theorem abP{x x':Iv}(hx:x.Valid)(jD:x'.Valid)(h:Sub x x')(n:Nat):Sub (lv x n) (lv x' n):=by
 unfold lv;split
 .exact Sv hx jD h
 .exact h
theorem PK{x:Iv}(hx:x.Valid)(n:Nat):(lv x n).Valid:=by
 unfold lv;split
 .exact zw hx
 .exact hx
theorem abO{x:Iv}(n:Nat)(h:x.all=false):(lv x n).all=false:=by
 unfold lv;split
 .unfold fz;rw[h];rfl
 .exact h
theorem ab5{x x':Iv}(hx:x.Valid)(jD:x'.Valid)(h:Sub x x')(n:Nat){p:Nat}(hp:1<=p)(dR:p<=4096):Sub (lE x n p) (lE x' n p):=by
 cases xa:x'.all
 rotate_left
 .left
  unfold lE;rw[xa];rfl
 obtain⟨ya,_,_⟩:=h.known xa;unfold lE;rw[xa,ya];simp only[aT,aL];split
 .exact Sub.refl _
 .have hs:=abP hx jD h n
  obtain⟨_,s1,s2⟩:=hs.known (abO n xa);obtain⟨c1,c2⟩:=(PK hx n).qT;obtain⟨c3,c4⟩:=(PK jD n).qT;unfold gN;split
  .split
   .exact .inl rfl
   .rename_i he hf
    exfalso;have e1:(fU (lv x' n).lo n p false).2=0:= ae ;have e2:(fU (lv x' n).hi n p true).2=0:= ae ;have:=LJ c3 c1 s1 hp dR e1;have:=LI c2 c4 s2 hp dR e2;omega
  .split
   .exact .inl rfl
   .rename_i he hf
    exact .inr ⟨rfl,(LJ c3 c1 s1 hp dR ae).2,(LI c2 c4 s2 hp dR ae).2⟩
end Go.Proofs.YtdgnpeddgdclhaaGreatDoor.Fp
namespace Go.Proofs.YtdgnpeddgdclhaaGreatDoor
open Go.RowKit Fp Pu
theorem NO{x y:Iv}:sj x y=true↔Sub x y:=by
 unfold sj Fp.Sub;rw[ag5,aX,aX,bF,bF,ke,ke,dJ]
theorem Hh{a b:List Iv}(h:nc a b=true){i:Nat}(hi:i<a.length):Sub (a.getD i dV) (b.getD i dV):=NO.1 (bg.1 h i (bt.2 hi))
theorem DA{a b:List Iv}(h:∀ i,i<a.length->Sub (a.getD i dV) (b.getD i dV)):nc a b=true:=bg.2 fun i hi=>NO.2 (h i (bt.1 hi))
theorem Fp.Sub.trans{x y z:Iv}(h:Sub x y)(k:Sub y z):Sub x z:=by
 rcases k with k|⟨k1,k2,k3⟩
 .exact .inl k
 .rcases h with h|⟨h1,h2,h3⟩
  .rw [h]at k1;cases k1
  .exact .inr ⟨h1,aU k2 h2,aU h3 k3⟩
def iU(l r:List Iv):Prop:=∀ i,Sub (l.getD i dV) (r.getD i dV)
theorem W7{l:List Iv}{i:Nat}(h:l.length<=i):l.getD i dV=dV:=by rw[aF,bu h];rfl
theorem iU.of{a b:List Iv}(hl:a.length=b.length)(h:∀ i,i<a.length->Sub (a.getD i dV) (b.getD i dV)):iU a b:=fun i=>by
 by_cases hi:i<a.length
 .exact h i hi
 .rw [W7 (l:=b) ae];exact .inl rfl
theorem iU.refl(l:List Iv):iU l l:=fun _=>Sub.refl _
theorem iU.append{l r q s:List Iv}(hl:l.length=r.length)(h:iU l r)(k:iU q s):iU (l++q) (r++s):=fun i=>by
 by_cases hi:i<l.length
 .have:=h i
  simp only[aF,du hi,du (show i<r.length by omega)]at this ⊢;exact this
 .have:=k (i-l.length)
  simp only[aF,dG (show l.length<=i by omega),dG (show r.length<=i by omega)]at this ⊢;rwa[<-hl]
theorem iU.one{x y:Iv}(h:Sub x y):iU [x] [y]:=fun i=>by
 rcases i with _|i
 .exact h
 .exact .inl rfl
theorem Ke{o:jh}(hk:o.kind<=8){x x' y y':Iv}(hx:x.Valid)(jD:x'.Valid)(hy:y.Valid)(lP:y'.Valid){p:Nat}(hp:1<=p)(dR:p<=4096)(h:Sub x x')(k:Sub y y'):Sub (ix o x y p) (ix o x' y' p):=by
 unfold ix;by_cases h3:o.kind=3
 .rw [aC h3,aC h3];exact ET hx hy jD lP hp dR h k
 rw[aB h3,aB h3];by_cases h4:o.kind=4
 .rw [aC h4,aC h4];exact aeI hx hy jD lP hp dR h k
 rw[aB h4,aB h4];by_cases h5:o.kind=5
 .rw [aC h5,aC h5];exact OV hx hy jD lP hp dR h k
 rw[aB h5,aB h5];by_cases h6:o.kind=6
 .rw [aC h6,aC h6];exact Vv hx hy jD lP hp dR h k
 rw[aB h6,aB h6];by_cases h7:o.kind=7
 .rw [aC h7,aC h7];exact Ph h
 rw[aB h7,aB h7];by_cases h8:o.kind=8
 .rw [aC h8,aC h8];exact ab5 hx jD h _ hp dR
 rw[aB h8,aB h8,aB ae,aB ae,aB ae,aB ae,aB ae,aB ae,aB ae,aB ae,aB ae,aB ae];exact Sub.refl _
theorem SE{o:jh}(hk:o.kind<=8){l r:List Iv}(hl:iO l)(hr:iO r){p:Nat}(hp:1<=p)(dR:p<=4096)(h:iU l r):Sub (pv o l p) (pv o r p):=by
 unfold pv;split
 .exact Sub.refl _
 .split
  .exact Ke hk (hl _) (hr _) (hl _) (hr _) hp dR (h _) (h _)
  .exact Ke hk (hl _) (hr _) gZ gZ hp dR (h _) (Sub.refl _)
theorem JH{ops:List jh}(hk:∀ i,(ops.getD i fc).kind<=8){l r:List Iv}(hl:iO l)(hr:iO r){p:Nat}(hp:1<=p)(dR:p<=4096)(hn:l.length=r.length)(h:iU l r):∀ k,iU (fh ops l p k) (fh ops r p k)
 | 0=>h
 | k+1=>iU.append (by rw[BX,BX,hn]) (JH hk hl hr hp dR hn h k) (iU.one (SE (hk k) (zh ops hl hp dR k) (zh ops hr hp dR k) hp dR (JH hk hl hr hp dR hn h k)))
def zo(t:mf):Prop:=∀ i,(t.ops.getD i fc).kind<=8
theorem WJ{t:mf}(hk:zo t){l r:List Iv}(hl:iO l)(hr:iO r){p:Nat}(hp:1<=p)(dR:p<=4096)(hn:l.length=r.length)(h:iU l r):iU (fC t l p) (fC t r p):=fun i=>by
 unfold fC;simp only[aF,bL];cases t.outs[i]? with
 | none=>exact .inl rfl
 | some k=>
  have:=JH hk hl hr hp dR hn h t.ops.length k;simpa[aF]using this
theorem MK{l r:List Iv}(hl:l.length=r.length)(h:iU l r)(hn:hasAll r=false):hasAll l=false:=by
 unfold hasAll at *
 rw[dv]at *
 intro i hi;rw[hl]at hi;have:=hn i hi;have:=((h i).known (by simpa using this)).1;simpa using this
theorem aeH{h h':Dy}(hh:h.q<=h'.q):Sub (gK h) (gK h'):=.inr ⟨rfl,bw,hh⟩
section
variable {s:iV} {x x' b b':List Iv} {h h':Dy} {p n:Nat}
theorem ZO{f f':List Iv}(vx:iO x)(vx':iO x')(hl:x.length=x'.length)(sx:iU x x')(hd:h.Valid)(q9:h'.Valid)(h0:0<=h.q)(hh:h.q<=h'.q)(vf:iO f)(vf':iO f')(sf:iU f f')(hp:1<=p)(dR:p<=4096):iU (pJ x f h p) (pJ x' f' h' p):=
 iU.of (by rw[qw,qw,hl]) fun i hi=>by
  rw[qw]at hi;rw[wk hi,wk ae];have e1:=BM hd h0;have e2:=BM q9 (aU h0 hh);exact ET (vx i) (nF _ _ hp dR) (vx' i) (nF _ _ hp dR) hp dR (sx i) (OV e1 (vf i) e2 (vf' i) hp dR (aeH hh) (sf i))
theorem NN(vx:iO x)(vx':iO x')(hl:x.length=x'.length)(sx:iU x x')(hd:h.Valid)(q9:h'.Valid)(h0:0<=h.q)(hh:h.q<=h'.q)
 (vb:iO (b++s.params)) (vb':iO (b'++s.params)) (sf:iU (fC s.tape (b++s.params) p) (fC s.tape (b'++s.params) p)) (hp:1<=p) (dR:p<=4096)
 (fK:iW s x' h' b' p≠[]) (x1:1<=x.length):iW s x h b p≠[]/\iU (iW s x h b p) (iW s x' h' b' p)/\(iW s x h b p).length=x.length:=by
 unfold iW at fK ⊢;split at fK
 .exact absurd rfl fK
 rename_i h1;split at fK
 .exact absurd rfl fK
 rename_i h2;have fl:(fC s.tape (b++s.params) p).length=(fC s.tape (b'++s.params) p).length:=by rw[xI,xI]
 have vf:=Ad s.tape vb hp dR;have vf':=Ad s.tape vb' hp dR;have g:=ZO (p:=p) vx vx' hl sx hd q9 h0 hh vf vf' sf hp dR;have k1:=MK fl sf (by simpa using h1);have k2:=MK (by rw[qw,qw,hl]) g (by simpa using h2);rw[aB h1,aB h2,aB (by rw[k1];decide),aB (by rw[k2];decide)];refine⟨fun q=>?_,g,qw _ _ _ _⟩;have:=qw x (fC s.tape (b++s.params) p) h p;rw[q]at this;exact absurd this (by show ¬0=x.length;omega)
theorem Dj:oF s x h b p=true↔iW s x h b p≠[]/\nc x b=true/\nc (iW s x h b p) b=true:=by
 unfold oF;rw[aX,aX,dJ,<-Bool.not_eq_true,List.isEmpty_iff]
theorem aeN(hx:x.length=x'.length)(h:nc x x'=true):iU x x':=iU.of hx fun _ hi=>Hh h hi
theorem GR(hx:gR n x)(jD:gR n x')(hb:gR n b)(n1:1<=n)(vp:iO s.params)(sx:iU x x')(hd:h.Valid)(q9:h'.Valid)(h0:0<=h.q)(hh:h.q<=h'.q)(hp:1<=p)(dR:p<=4096)(k:oF s x' h' b p=true):oF s x h b p=true:=by
 rw[Dj]at k ⊢;obtain⟨k1,k2,k3⟩:=k;have vb:=hb.ok.qM.append vp;obtain⟨i1,i2,i3⟩:=NN (s:=s) (x:=x) (x':=x') (b:=b) (b':=b) hx.ok.qM jD.ok.qM (by rw[hx.len,jD.len]) sx hd q9 h0 hh vb vb (iU.refl _) hp dR k1 (by rw[hx.len];exact n1);have l':=(AT jD hp dR k1).len;refine⟨i1,DA fun i hi=>(sx i).trans (Hh k2 (by rw[jD.len,<-hx.len];exact hi)),DA fun i hi=>(i2 i).trans (Hh k3 ?_)⟩;rw[l',<-hx.len,<-i3];exact hi
theorem agb{f:List Iv}(hx:gR n x)(hd:h.Valid)(h0:0<=h.q)(vf:iO f)(hp:1<=p)(dR:p<=4096):iU x (pJ x f h p):=
 iU.of (qw _ _ _ _).symm fun i hi=>by
  rw[wk hi];obtain⟨v,a⟩:=hx.ok i hi;have e1:=BM hd h0;have z0:(e9 (gK h) (f.getD i dV) p).has 0:=by
   have z1:(gK h).has 0:=.inr ⟨by show eW.q<=0;rw[pR];exact bw,h0⟩;have:=DM e1 (vf i) hp dR z1 (vf i).rZ;rwa[Rat.zero_mul]at this
  have mv:=nF (gK h) (f.getD i dV) hp dR;have a1:=sJ v mv hp dR v.rZ z0;have a2:=sJ v mv hp dR v.vH z0;rw[Rat.add_zero]at a1 a2;unfold Dz;cases q:(fp (x.getD i dV) (e9 (gK h) (f.getD i dV) p) p).all
  .exact .inr ⟨a,(a1.ends q).1,(a2.ends q).2⟩
  .exact .inl q
theorem ZJ(fK:iW s x h b p≠[]):iW s x h b p=pJ x (fC s.tape (b++s.params) p) h p:=by
 unfold iW at fK ⊢;split at fK
 .exact absurd rfl fK
 rename_i h1;rw[aB h1];split at fK
 .exact absurd rfl fK
 rename_i h2;rw[aB h2]
theorem Nh(hr:zo s.tape)(hx:gR n x)(hb:gR n b)(n1:1<=n)(vp:iO s.params)(hd:h.Valid)(h0:0<=h.q)(hp:1<=p)(dR:p<=4096)(k:oF s x h b p=true):oF s x h (iW s x h b p) p=true:=by
 rw[Dj]at k ⊢;obtain⟨k1,k2,k3⟩:=k;have hi:=AT hx hp dR k1;have vb:=hb.ok.qM.append vp;have vi:=hi.ok.qM.append vp;have sb:iU (iW s x h b p) b:=aeN (by rw[hi.len,hb.len]) k3;have sf:=WJ hr vi vb hp dR (by simp[hi.len,hb.len]) (sb.append (by rw[hi.len,hb.len]) (iU.refl s.params));obtain⟨i1,i2,i3⟩:=NN (s:=s) (x:=x) (x':=x) (b:=iW s x h b p) (b':=b) hx.ok.qM hx.ok.qM rfl (iU.refl _) hd hd h0 bw vi vb sf hp dR k1 (by rw[hx.len];exact n1);refine⟨i1,DA fun i kx=>?_,DA fun i kx=>i2 i⟩;have:=agb (f:=fC s.tape (b++s.params) p) hx hd h0 (Ad s.tape vb hp dR) hp dR i;rwa[<-ZJ k1]at this
end
def A5(x:Iv):Iv:=⟨x.lo,x.lo,false⟩
theorem aaJ{x:Iv}(hx:x.Valid)(ha:x.all=false):(A5 x).Valid/\(A5 x).all=false/\Sub (A5 x) x:=
 ⟨.inr ⟨rfl,hx.ends.1,hx.ends.1,by show ew x.lo x.lo<=0;rw[ke];exact bw⟩,rfl,.inr ⟨rfl,bw,hx.q⟩⟩
open Go.RowKit Fp Pu
def JV(w:World)(L:List Nat)(e:Ending)(w':World):Prop:=∃ A c,e = .returned (.slice A L.length c)/\Sl w' A c L/\Ext w w'/\∀ b o s,A=some ⟨b,o,s⟩->w.heap.size<=b
theorem Ow.Q2{w:World}{base:Nat}{v:Value}{L:List Nat}(h:Ow w base v L):∃ A c,v = .slice A L.length c/\Sl w A c L/\∀ b o s,A=some ⟨b,o,s⟩->base<=b:=by
 obtain⟨A,c,h1,h2⟩:=h.sl;refine⟨A,c,h1,h2,fun b o s e=>?_⟩;rcases h.row.2 with⟨h3,_⟩|⟨g,cap,cur,h3,hb,_⟩
 .rw [h1,e]at h3;injection h3 with h3;cases h3
 .rw [h1,e]at h3;injection h3 with h3;cases h3;exact hb
theorem aev{B br:Nat->Prop}{w w':World}{A:Option Addr}{c:Nat}{L:List Nat}(hB:∀ b,B b->b<w.heap.size)(h:Sl w' A c L)(hf:∀ b o s,A=some ⟨b,o,s⟩->w.heap.size<=b):eo B br w' (dO L) (.slice A L.length c):=by
 refine .sl false L.length 1 _ A c (fun i _=>.int .u32 (L.getD i 0:Int)) h.cap h.lq h.none_ (fun i j _ _=>⟨rfl,fun h=>by cases h⟩) (fun i j _ _=>rfl) (fun i j hi hj=>?_) (fun i j _ _=>.v _);obtain rfl:j=0:= ae ;obtain⟨b,o,e1,ek,gG⟩:=h.at_ hi;have e2:L.getD i 0=L[i]:=by simp[aF,hi]
 refine⟨b,o,e1,fun r6=>?_,ek,by rw[bD,bd,gG,e2]⟩;have:=hB b r6;have:=hf _ _ _ e1;omega
abbrev uc(f:FuncId)(args:List E)(fu:E):Prop:=vg Tryz.prog Tb f args fu
theorem abK{f:FuncId}{L M:List Nat}(hk:ej L)(hc:∀ (vs:Array Value) (w:World),(callFunc f vs).run Tryz.prog w = .ok (.enter f vs) w)
 (H:∀ A c w,Sl w A c L->Tb w->Calls Tryz.prog f #[.slice A L.length c] w (JV w M)):uc f [dO L] (dO M):=by
 refine⟨hc,fun w B vs hK hB hr=>?_⟩;obtain⟨v1,vs,rfl,h1,hr⟩:=hr.iw;obtain rfl:=hr.lV;obtain⟨A,c,rfl,s1⟩:=qJ hk h1;refine(H A c w s1 hK).mono fun e w' ⟨A,c,q1,q2,q3,q4⟩=>⟨_,q1,q3,aev hB q2 q4⟩
theorem ac2(A:Option Addr)(c:Nat)(L:List Nat)(w:World)(hs:Sl w A c L)(hlen:L.length<=100000000):
 Calls Tryz.prog 195 #[.slice A L.length c] w (JV w (dZ L)):=by
 have hc:=hs.cap;have hl:=hs.lq;have fin:∀ k:Nat,k=(dZ L).length->Hid (dZ L=L.take k):=fun k hk=>by rw[hk];exact BU L
 go_enter Tryz.func195,Tryz.ntmps195;go_wp2;go_loop [3] (fun i=>∃ k:Nat,k<=L.length/\i = .int .i64 k/\ig L=ig (L.take k)) (fun i=>(intOf i).toNat)
 case atStart=>exact⟨L.length,aG _,rfl, aj⟩
 case round=>
  obtain⟨k,hk,rfl,ht⟩:=hrel;have HT:=Lib.hid ht;clear ht;have ie:([]:List Nat).length+(L.take k).length<=10000000000:=by rw[bB];simp;omega
  have HK:=Lib.hid (show k=(L.take k).length by rw[bB];omega);have h1:=Ow.empty w w.heap.size (aG _);have h2:=(hs.take k).alloc (.cells #[] 79);have h3:=lQ (w:=w) (aG _) (.cells #[] 79);by_cases h0:0<k
  .obtain ⟨ab,ao,rfl,hb,th⟩:=hs.at_ (i:=k-1) ae 
   have e1:((k:Int)-1).toNat=k-1:= ae ;have Z:=Lib.hid (Es L (k-1) ae);have NZ:=Lib.hid (Er L (k-1) ae);rw[agB h0]at Z NZ;generalize L[k-1]=x at *
   by_cases hx:x=0
   .have Hx:=Lib.hid hx;clear hx
    have hb:((x:Int)==0)=true:=by have:=Hx.out;simp;omega
    clear fin;go_wp2;go_round
    case rel=>exact⟨k-1, ae,by go_num,by rw[HT.out,Z.out Hx.out]⟩
    case measure=>simp[intOf];omega
   .have hb:((x:Int)==0)=false:= av 
    have F:=fin k (by show k=ig L;rw[HT.out,NZ.out hx]);clear fin;go_wp2_with (at_builtin;go_must (refine mU ai _ _ ai w.heap.size _ [] ai h1 _ _ _ (L.take k) ai HK.out h2 ie h3 ?_);intro v' w' jZ hg kB)
    obtain⟨A',c',rfl,iK,GC⟩:=jZ.Q2;go_ret;rw[F.out];exact⟨A',c',rfl,iK,(Ext.alloc _ _).grown hg (lQ (aG _) _) (fun k hk=>by simp[Value.ownBlock]at hk;omega),GC⟩
  .have:k=0:= ae 
   subst this;have F:=fin 0 (by show 0=ig L;rw[HT.out];rfl);clear fin;go_wp2_with (at_builtin;go_must (refine mU ai _ _ ai w.heap.size _ [] ai h1 _ _ _ (L.take 0) ai HK.out h2 ie h3 ?_);intro v' w' jZ hg kB)
   obtain⟨A',c',rfl,iK,GC⟩:=jZ.Q2;go_ret;rw[F.out];exact⟨A',c',rfl,iK,(Ext.alloc _ _).grown hg (lQ (aG _) _) (fun k hk=>by simp[Value.ownBlock]at hk;omega),GC⟩
theorem wO(L:List Nat)(hk:ej L)(hl:L.length<=100000):uc 195 [dO L] (dO (dZ L)):=
 abK hk Tryz.call195 fun A c w h _=>ac2 A c L w h ae 
open Go.RowKit Fp Pu
def PR(L M:List Nat)(N k:Nat)(x:Nat):PS:=⟨30,true,[(5,.e (iP ((N:Int)-1-(x:Int)))),(0,.e (dO L)),(1,.e (dO M))],[]⟩
def PU(L M:List Nat)(N k:Nat)(x:Nat):PS:=⟨30,true,[(5,.e (iP ((N:Int)-1-(x:Int)))),(0,.e (dO L)),(1,.e (dO M))],[]⟩
def PT(L M:List Nat)(N k:Nat)(x:Nat):PS:=⟨30,true,[(5,.e (iP ((N:Int)-1-(x:Int)))),(0,.e (dO L)),(1,.e (dO M))],[]⟩
def PO(L:List Nat)(k:Nat)(x:Nat):PS:=⟨31,true,[(3,.e (iP ((L.length:Int)-1-(x:Int)))),(0,.e (dO L))],[]⟩
def PN(L:List Nat)(k:Nat)(x:Nat):PS:=⟨31,true,[(3,.e (iP ((L.length:Int)-1-(x:Int)))),(0,.e (dO L))],[]⟩
def PQ(L:List Nat)(k:Nat)(y:Nat):PS:=⟨31,true,[(5,.e (.v (.int .u32 ((((L.getD (((L.length:Int)-1-(k:Int))).toNat 0)/2^y):Nat):Int)))),(4,.e (iP ((32*((L.length:Int)-1-(k:Int)))+(y:Int))))],[]⟩
theorem mR(L:List Nat)(z:Int)(hk:ej L)(h0:0<=z):dM 231 [(dO L),(iP z)] (.v (.int .u64 (L.getD z.toNat 0:Int))):=by
 have h1:=hk.getD z.toNat
 exact tr true Tryz.call231 Tryz.func231 (.w (z<(L.length:Int))
  (fun k1=>chain [tB 8 (aE k1),iX (z) (L.length) ae,.o 13 (.int (lY _ ae):PV.le (.e (.v (.int .u64 (IntKind.u64.wrap (((L.getD (z).toNat 0):Nat):Int))))) (.e (.v (.int .u64 (((L.getD (z).toNat 0):Nat):Int)))))]<|.nil)
  (fun k1=>by
   have hz:L.getD z.toNat 0=0:=by rw[aF,bu ae];rfl
   exact chain [tB 8 (aD k1)]<|rQ (.v (.int .u64 0)) (.v (.int .u64 (L.getD z.toNat 0:Int))) (by rw[hz];rfl))) ah 
theorem uU(L:List Nat)(n:Nat)(hk:ej L):dM 231 [dO L,iP (n:Int)] (.v (.int .u64 (L.getD n 0:Int))):=mR L n hk (Int.natCast_nonneg n)
theorem acf(L M:List Nat)(N k:Nat)(hL:ej L)(hM:ej M)(hN:N=max L.length M.length)(hs:N<=1000000)(heq:∀ x,x<k->L.getD (N-1-x) 0=M.getD (N-1-x) 0)(hk:k=N):dM 198 [(dO L),(dO M)] (iP 0):=by
 exact tr true Tryz.call198 Tryz.func198 (chain [.o 10 (.int (by rw[hN];split<;>omega):PV.le (.e (iP (if(M.length:Int)>(L.length:Int)then(M.length:Int)else(L.length:Int)))) (.e (iP N))),
  eh ((N:Int)-1) ae,.s (Sp.upto (PR L M N k) 0 k ae (fun x hx ic=>by
    have hj:(((N:Int)-1-(x:Int))).toNat=N-1-x:= ae ;have he:=heq x ae;rw[<-hj]at he;exact eu (chain [tT 13 (0<=((N:Int)-1-(x:Int))) ae,.c (mR _ _ af ae :dM 231 [(dO L),(iP ((N:Int)-1-(x:Int)))] _),.c (mR _ _ af ae :dM 231 [(dO M),(iP ((N:Int)-1-(x:Int)))] _),tF 22 ((((L.getD (((N:Int)-1-(x:Int))).toNat 0):Nat):Int)<(((M.getD (((N:Int)-1-(x:Int))).toNat 0):Nat):Int)) ae,.c (mR _ _ af ae :dM 231 [(dO L),(iP ((N:Int)-1-(x:Int)))] _),.c (mR _ _ af ae :dM 231 [(dO M),(iP ((N:Int)-1-(x:Int)))] _),tF 29 ((((M.getD (((N:Int)-1-(x:Int))).toNat 0):Nat):Int)<(((L.getD (((N:Int)-1-(x:Int))).toNat 0):Nat):Int)) ae,
     eh (((N:Int)-1-(x:Int))-1) ae]<|.e (chain [.o 5 (.int (by first|rfl|omega|(simp only[aO,aK];omega)):PV.le (.e (iP (((N:Int)-1-(x:Int))-1))) (.e (iP ((N:Int)-1-(((x+1):Nat):Int)))))]<|.nil)) ah)
  (fun hx=>by
    exact eu (chain [tF 13 (0<=((N:Int)-1-(k:Int))) ae]<|.nil) ah) ak :fP 2 Tryz.f198 (PR L M N k 0) (.exit 0) ⟨30,true,[],[]⟩) (chain [.o 5 (.int (by first|rfl|omega|(simp only[aO,aK];omega)):PV.le (.e (iP ((N:Int)-1))) (.e (iP ((N:Int)-1-((0:Nat):Int)))))]<|.nil)]<|.nil) ah 
theorem ach(L M:List Nat)(N k:Nat)(hL:ej L)(hM:ej M)(hN:N=max L.length M.length)(hs:N<=1000000)(heq:∀ x,x<k->L.getD (N-1-x) 0=M.getD (N-1-x) 0)(hk:k<N)(hd:L.getD (N-1-k) 0<M.getD (N-1-k) 0):dM 198 [(dO L),(dO M)] (iP (-1)):=by
 exact tr true Tryz.call198 Tryz.func198 (chain [.o 10 (.int (by rw[hN];split<;>omega):PV.le (.e (iP (if(M.length:Int)>(L.length:Int)then(M.length:Int)else(L.length:Int)))) (.e (iP N))),
  eh ((N:Int)-1) ae,.s (Sp.upto (PU L M N k) 0 k ae (fun x hx ic=>by
    have hj:(((N:Int)-1-(x:Int))).toNat=N-1-x:= ae ;have he:=heq x ae;rw[<-hj]at he;exact eu (chain [tT 13 (0<=((N:Int)-1-(x:Int))) ae,.c (mR _ _ af ae :dM 231 [(dO L),(iP ((N:Int)-1-(x:Int)))] _),.c (mR _ _ af ae :dM 231 [(dO M),(iP ((N:Int)-1-(x:Int)))] _),tF 22 ((((L.getD (((N:Int)-1-(x:Int))).toNat 0):Nat):Int)<(((M.getD (((N:Int)-1-(x:Int))).toNat 0):Nat):Int)) ae,.c (mR _ _ af ae :dM 231 [(dO L),(iP ((N:Int)-1-(x:Int)))] _),.c (mR _ _ af ae :dM 231 [(dO M),(iP ((N:Int)-1-(x:Int)))] _),tF 29 ((((M.getD (((N:Int)-1-(x:Int))).toNat 0):Nat):Int)<(((L.getD (((N:Int)-1-(x:Int))).toNat 0):Nat):Int)) ae,
     eh (((N:Int)-1-(x:Int))-1) ae]<|.e (chain [.o 5 (.int (by first|rfl|omega|(simp only[aO,aK];omega)):PV.le (.e (iP (((N:Int)-1-(x:Int))-1))) (.e (iP ((N:Int)-1-(((x+1):Nat):Int)))))]<|.nil)) ah)
  (fun hx=>by
    have hj:(((N:Int)-1-(k:Int))).toNat=N-1-k:= ae ;rw[<-hj]at hd;exact eu (chain [tT 13 (0<=((N:Int)-1-(k:Int))) ae,.c (mR _ _ af ae :dM 231 [(dO L),(iP ((N:Int)-1-(k:Int)))] _),.c (mR _ _ af ae :dM 231 [(dO M),(iP ((N:Int)-1-(k:Int)))] _),tT 22 ((((L.getD (((N:Int)-1-(k:Int))).toNat 0):Nat):Int)<(((M.getD (((N:Int)-1-(k:Int))).toNat 0):Nat):Int)) ae]<|.nil) ah) ak :fP 2 Tryz.f198 (PU L M N k 0) .ret ⟨30,true,[(4,.e (iP (-1)))],[]⟩) (chain [.o 5 (.int (by first|rfl|omega|(simp only[aO,aK];omega)):PV.le (.e (iP ((N:Int)-1))) (.e (iP ((N:Int)-1-((0:Nat):Int)))))]<|.nil)]<|rR (iP (-1)) (.of_eq rfl:E.le (iP (-1)) (iP (-1)))) ah 
theorem acg(L M:List Nat)(N k:Nat)(hL:ej L)(hM:ej M)(hN:N=max L.length M.length)(hs:N<=1000000)(heq:∀ x,x<k->L.getD (N-1-x) 0=M.getD (N-1-x) 0)(hk:k<N)(hd:M.getD (N-1-k) 0<L.getD (N-1-k) 0):dM 198 [(dO L),(dO M)] (iP 1):=by
 exact tr true Tryz.call198 Tryz.func198 (chain [.o 10 (.int (by rw[hN];split<;>omega):PV.le (.e (iP (if(M.length:Int)>(L.length:Int)then(M.length:Int)else(L.length:Int)))) (.e (iP N))),
  eh ((N:Int)-1) ae,.s (Sp.upto (PT L M N k) 0 k ae (fun x hx ic=>by
    have hj:(((N:Int)-1-(x:Int))).toNat=N-1-x:= ae ;have he:=heq x ae;rw[<-hj]at he;exact eu (chain [tT 13 (0<=((N:Int)-1-(x:Int))) ae,.c (mR _ _ af ae :dM 231 [(dO L),(iP ((N:Int)-1-(x:Int)))] _),.c (mR _ _ af ae :dM 231 [(dO M),(iP ((N:Int)-1-(x:Int)))] _),tF 22 ((((L.getD (((N:Int)-1-(x:Int))).toNat 0):Nat):Int)<(((M.getD (((N:Int)-1-(x:Int))).toNat 0):Nat):Int)) ae,.c (mR _ _ af ae :dM 231 [(dO L),(iP ((N:Int)-1-(x:Int)))] _),.c (mR _ _ af ae :dM 231 [(dO M),(iP ((N:Int)-1-(x:Int)))] _),tF 29 ((((M.getD (((N:Int)-1-(x:Int))).toNat 0):Nat):Int)<(((L.getD (((N:Int)-1-(x:Int))).toNat 0):Nat):Int)) ae,
     eh (((N:Int)-1-(x:Int))-1) ae]<|.e (chain [.o 5 (.int (by first|rfl|omega|(simp only[aO,aK];omega)):PV.le (.e (iP (((N:Int)-1-(x:Int))-1))) (.e (iP ((N:Int)-1-(((x+1):Nat):Int)))))]<|.nil)) ah)
  (fun hx=>by
    have hj:(((N:Int)-1-(k:Int))).toNat=N-1-k:= ae ;rw[<-hj]at hd;exact eu (chain [tT 13 (0<=((N:Int)-1-(k:Int))) ae,.c (mR _ _ af ae :dM 231 [(dO L),(iP ((N:Int)-1-(k:Int)))] _),.c (mR _ _ af ae :dM 231 [(dO M),(iP ((N:Int)-1-(k:Int)))] _),tF 22 ((((L.getD (((N:Int)-1-(k:Int))).toNat 0):Nat):Int)<(((M.getD (((N:Int)-1-(k:Int))).toNat 0):Nat):Int)) ae,.c (mR _ _ af ae :dM 231 [(dO L),(iP ((N:Int)-1-(k:Int)))] _),.c (mR _ _ af ae :dM 231 [(dO M),(iP ((N:Int)-1-(k:Int)))] _),tT 29 ((((M.getD (((N:Int)-1-(k:Int))).toNat 0):Nat):Int)<(((L.getD (((N:Int)-1-(k:Int))).toNat 0):Nat):Int)) ae]<|.nil) ah) ak :fP 2 Tryz.f198 (PT L M N k 0) .ret ⟨30,true,[(4,.e (iP 1))],[]⟩) (chain [.o 5 (.int (by first|rfl|omega|(simp only[aO,aK];omega)):PV.le (.e (iP ((N:Int)-1))) (.e (iP ((N:Int)-1-((0:Nat):Int)))))]<|.nil)]<|.nil) ah 
theorem aci(L M:List Nat)(hL:ej L)(hM:ej M)(h1:L.length<=1000000)(h2:M.length<=1000000):dM 198 [dO L,dO M] (iP (fN (val L) (val M))):=by
 obtain⟨N,hN⟩:∃ N,N=max L.length M.length:=⟨_,rfl⟩
 have vL:val L<4294967296^N:=a7 (iG hL) (aR ag ae);have vM:val M<4294967296^N:=a7 (iG hM) (aR ag ae);by_cases h:∃ x,x<N/\(decide (L.getD (N-1-x) 0≠M.getD (N-1-x) 0))=true
 .obtain ⟨k,k1,k2,k3⟩:=oK h
  have heq:∀ x,x<k->L.getD (N-1-x) 0=M.getD (N-1-x) 0:=fun x hx=>by simpa using k3 x hx
  have fK:L.getD (N-1-k) 0≠M.getD (N-1-k) 0:=by simpa using k2
  have wb:∀ i,N-1-k<i->fJ (val L) i=fJ (val M) i:=fun i hi=>by
   by_cases YL:i<N
   .have:=heq (N-1-i) ae 
    rw[show N-1-(N-1-i)=i by omega,lL hL,lL hM]at this;exact this
   .rw [zV vL ae,zV vM ae]
  rw[lL hL,lL hM]at fK;rcases Nat.lt_or_gt_of_ne fK with hd|hd
  .have:=Oz vL vM wb hd
   refine(ach L M N k hL hM hN ae heq k1 (by rw[lL hL,lL hM];exact hd)).fu (.of_eq ?_);unfold fN;rw[aC this]
  .have:=Oz vM vL (fun i hi=>(wb i hi).symm) hd
   refine(acg L M N k hL hM hN ae heq k1 (by rw[lL hL,lL hM];exact hd)).fu (.of_eq ?_);unfold fN;rw[aB ae,aC this]
 .have heq:∀ x,x<N->L.getD (N-1-x) 0=M.getD (N-1-x) 0:=fun x hx=>by
   apply bh;intro q;exact h ⟨x,hx,by simpa using q⟩
  have wb:∀ i,fJ (val L) i=fJ (val M) i:=fun i=>by
   by_cases YL:i<N
   .have:=heq (N-1-i) ae 
    rw[show N-1-(N-1-i)=i by omega,lL hL,lL hM]at this;exact this
   .rw [zV vL ae,zV vM ae]
  refine(acf L M N N hL hM hN ae heq rfl).fu (.of_eq ?_);rw[LL vL vM fun i _=>wb i];unfold fN;rw[aB (Nat.lt_irrefl _),aB (Nat.lt_irrefl _)]
theorem acb(L:List Nat)(k:Nat)(hL:ej L)(hs:L.length<=1000000)(hz:∀ x,x<k->L.getD (L.length-1-x) 0=0)(hk:k=L.length):dM 196 [(dO L)] (iP 0):=by
 exact tr true Tryz.call196 Tryz.func196 (chain [eh ((L.length:Int)-1) ae,.s (Sp.upto (PO L k) 0 k ae (fun x hx ic=>by
    have hj:(((L.length:Int)-1-(x:Int))).toNat=L.length-1-x:= ae ;have he:=hz x ae;rw[<-hj]at he;exact eu (chain [tT 10 (0<=((L.length:Int)-1-(x:Int))) ae,iX (((L.length:Int)-1-(x:Int))) (L.length) ae,tB 17 (DO he:((((L.getD (((L.length:Int)-1-(x:Int))).toNat 0):Nat):Int) != 0)=false),eh (((L.length:Int)-1-(x:Int))-1) ae]<|.e (chain [.o 3 (.int (by first|rfl|omega|(simp only[aO,aK];omega)):PV.le (.e (iP (((L.length:Int)-1-(x:Int))-1))) (.e (iP ((L.length:Int)-1-(((x+1):Nat):Int)))))]<|.nil)) ah)
  (fun hx=>by
    exact eu (chain [tF 10 (0<=((L.length:Int)-1-(k:Int))) ae]<|.nil) ah) ak :fP 2 Tryz.f196 (PO L k 0) (.exit 0) ⟨31,true,[],[]⟩) (chain [.o 3 (.int (by first|rfl|omega|(simp only[aO,aK];omega)):PV.le (.e (iP ((L.length:Int)-1))) (.e (iP ((L.length:Int)-1-((0:Nat):Int)))))]<|.nil)]<|.nil) ah 
theorem aca(L:List Nat)(k:Nat)(hL:ej L)(hs:L.length<=1000000)(hz:∀ x,x<k->L.getD (L.length-1-x) 0=0)(hk:k<L.length)(hd:L.getD (L.length-1-k) 0≠0):dM 196 [(dO L)] (iP ((32*((L.length:Int)-1-(k:Int)))+(dU (L.getD (((L.length:Int)-1-(k:Int))).toNat 0):Int))):=by
 exact tr true Tryz.call196 Tryz.func196 (chain [eh ((L.length:Int)-1) ae,.s (Sp.upto (PN L k) 0 k ae (fun x hx ic=>by
    have hj:(((L.length:Int)-1-(x:Int))).toNat=L.length-1-x:= ae ;have he:=hz x ae;rw[<-hj]at he;exact eu (chain [tT 10 (0<=((L.length:Int)-1-(x:Int))) ae,iX (((L.length:Int)-1-(x:Int))) (L.length) ae,tB 17 (DO he:((((L.getD (((L.length:Int)-1-(x:Int))).toNat 0):Nat):Int) != 0)=false),eh (((L.length:Int)-1-(x:Int))-1) ae]<|.e (chain [.o 3 (.int (by first|rfl|omega|(simp only[aO,aK];omega)):PV.le (.e (iP (((L.length:Int)-1-(x:Int))-1))) (.e (iP ((L.length:Int)-1-(((x+1):Nat):Int)))))]<|.nil)) ah)
  (fun hx=>by
    have hj:(((L.length:Int)-1-(k:Int))).toNat=L.length-1-k:= ae ;have ek:=hL.getD (((L.length:Int)-1-(k:Int))).toNat
    have iR:dU (L.getD (((L.length:Int)-1-(k:Int))).toNat 0)<=32:=gS.2 ek;rw[<-hj]at hd;exact eu (chain [tT 10 (0<=((L.length:Int)-1-(k:Int))) ae,iX (((L.length:Int)-1-(k:Int))) (L.length) ae,tB 17 (Im hd:((((L.getD (((L.length:Int)-1-(k:Int))).toNat 0):Nat):Int) != 0)=true),eh (32*((L.length:Int)-1-(k:Int))) ae,
    iX (((L.length:Int)-1-(k:Int))) (L.length) ae,.s (Sp.upto (PQ L k) 0 (dU (L.getD (((L.length:Int)-1-(k:Int))).toNat 0)) ae (fun y hy agk=>by
    have hp:0<(L.getD (((L.length:Int)-1-(k:Int))).toNat 0)/2^y:=Nat.div_pos (pM.1 ae) (aJ ag);exact eu (chain [tT 25 (0<((((L.getD (((L.length:Int)-1-(k:Int))).toNat 0)/2^y):Nat):Int)) ae,eh (((32*((L.length:Int)-1-(k:Int)))+(y:Int))+1) ae,.a ( ae :0<=(1:Int)/\(1:Int)<=((32:Nat):Int)),.o 27 (.int (QZ _ _):PV.le (.e (.v (.int .u32 (((((L.getD (((L.length:Int)-1-(k:Int))).toNat 0)/2^y):Nat):Int)/2^1)))) (.e (.v (.int .u32 (((((L.getD (((L.length:Int)-1-(k:Int))).toNat 0)/2^y)/2^1):Nat):Int)))))]<|.e (chain [.o 5 (.int (by rw[bY,<-aN]):PV.le (.e (.v (.int .u32 (((((L.getD (((L.length:Int)-1-(k:Int))).toNat 0)/2^y)/2^1):Nat):Int)))) (.e (.v (.int .u32 ((((L.getD (((L.length:Int)-1-(k:Int))).toNat 0)/2^(y+1)):Nat):Int))))),.o 4 (.int (by first|rfl|omega|(simp only[aO,aK];omega)):PV.le (.e (iP (((32*((L.length:Int)-1-(k:Int)))+(y:Int))+1))) (.e (iP ((32*((L.length:Int)-1-(k:Int)))+(((y+1):Nat):Int)))))]<|.nil)) ah)
  (fun hy=>by
    have hp:(L.getD (((L.length:Int)-1-(k:Int))).toNat 0)/2^(dU (L.getD (((L.length:Int)-1-(k:Int))).toNat 0))=0:=bW (mE _);exact eu (chain [tF 25 (0<((((L.getD (((L.length:Int)-1-(k:Int))).toNat 0)/2^(dU (L.getD (((L.length:Int)-1-(k:Int))).toNat 0))):Nat):Int)) ae]<|.nil) ah) ak :fP 7 Tryz.f196 (PQ L k 0) (.exit 2) ⟨31,true,[(4,.e (iP ((32*((L.length:Int)-1-(k:Int)))+(dU (L.getD (((L.length:Int)-1-(k:Int))).toNat 0):Int))))],[]⟩) (chain [.o 5 (.int (by rw[bG,agy]):PV.le (.e (.v (.int .u32 (((L.getD (((L.length:Int)-1-(k:Int))).toNat 0):Nat):Int)))) (.e (.v (.int .u32 ((((L.getD (((L.length:Int)-1-(k:Int))).toNat 0)/2^0):Nat):Int))))),.o 4 (.int (by first|rfl|omega|(simp only[aO,aK];omega)):PV.le (.e (iP (32*((L.length:Int)-1-(k:Int))))) (.e (iP ((32*((L.length:Int)-1-(k:Int)))+((0:Nat):Int)))))]<|.nil)]<|.nil) ah) ak :fP 2 Tryz.f196 (PN L k 0) .ret ⟨31,true,[(2,.e (iP ((32*((L.length:Int)-1-(k:Int)))+(dU (L.getD (((L.length:Int)-1-(k:Int))).toNat 0):Int))))],[]⟩) (chain [.o 3 (.int (by first|rfl|omega|(simp only[aO,aK];omega)):PV.le (.e (iP ((L.length:Int)-1))) (.e (iP ((L.length:Int)-1-((0:Nat):Int)))))]<|.nil)]<|.nil) ah 
theorem acd(L:List Nat)(hL:ej L)(h1:L.length<=1000000):dM 196 [dO L] (iP (dU (val L))):=by
 by_cases h:∃ x,x<L.length/\(decide (L.getD (L.length-1-x) 0≠0))=true
 .obtain ⟨k,k1,k2,k3⟩:=oK h
  have hz:∀ x,x<k->L.getD (L.length-1-x) 0=0:=fun x hx=>by simpa using k3 x hx
  have fK:L.getD (L.length-1-k) 0≠0:=by simpa using k2
  refine(aca L k hL h1 hz k1 fK).fu (.of_eq ?_);have hj:(((L.length:Int)-1-(k:Int))).toNat=L.length-1-k:= ae ;rw[hj];have hb:=TD (n:=val L) (k:=L.length-1-k) (EA hL fun i hi=>by
   by_cases xW:i<L.length
   .have:=hz (L.length-1-i) ae 
    rwa[show L.length-1-(L.length-1-i)=i by omega]at this
   .rw [aF,bu ae];rfl) (by rw[<-lL hL];exact fK)
  rw[hb,<-lL hL];exact congrArg iP ae 
 .have hz:∀ x,x<L.length->L.getD (L.length-1-x) 0=0:=fun x hx=>by
   apply bh;intro q;exact h ⟨x,hx,by simpa using q⟩
  refine(acb L L.length hL h1 hz rfl).fu (.of_eq ?_);have:val L<4294967296^0:=EA hL fun i _=>by
   by_cases xW:i<L.length
   .have:=hz (L.length-1-i) ae 
    rwa[show L.length-1-(L.length-1-i)=i by omega]at this
   .rw [aF,bu ae];rfl
  have h0:val L=0:=by rw[bG]at this;omega
  rw[h0];rfl
open Go.RowKit Fp Pu
def PM(L M:List Nat)(N:Nat)(x:Nat):PS:=⟨41,false,[(5,.own 5),(7,.e (iP x)),(6,.e (.v (.int .u64 (fB (val L) (val M) x:Int)))),(0,.e (dO L)),(1,.e (dO M))],[(5,.row false 79 x 1 (gF (fw (val L+val M) x)))]⟩
def P0(L M:List Nat)(x:Nat):PS:=⟨36,false,[(5,.own 5),(7,.e (iP x)),(6,.e (.v (.int .u64 (fB (val L-val M) (val M) x:Int)))),(0,.e (dO L)),(1,.e (dO M))],[(5,.row false 79 x 1 (gF (fw (val L-val M) x)))]⟩
def PY(L:List Nat)(n:Nat)(x:Nat):PS:=⟨36,false,[(5,.own 5),(6,.e (iP ((((n/32)+x):Nat):Int))),(0,.e (dO L)),(1,.e (iP n))],[(5,.row false 79 x 1 (gF (fw (val L/2^n) x)))]⟩
def PZ(L:List Nat)(n:Nat)(x:Nat):PS:=⟨36,false,[(5,.own 5),(6,.e (iP ((((n/32)+x):Nat):Int))),(0,.e (dO L)),(1,.e (iP n))],[(5,.row false 79 x 1 (gF (fw 0 x)))]⟩
theorem ab9(L M:List Nat)(hL:ej L)(hM:ej M)(h1:L.length<=10000)(h2:M.length<=10000):dM 200 [(dO L),(dO M)] (dO (dN (val L+val M))):=by
 obtain⟨N,hN⟩:∃ N,N=max L.length M.length:=⟨_,rfl⟩
 have vL:val L<4294967296^N:=a7 (iG hL) (aR ag ae);have vM:val M<4294967296^N:=a7 (iG hM) (aR ag ae);have hcN:=xr (val L) (val M) N;have Yt:fB (val L) (val M) (N+fB (val L) (val M) N)=0:=by
  rcases Nat.lt_or_ge 0 (fB (val L) (val M) N)with h|h
  .rw [show fB (val L) (val M) N=1 by omega];exact UZ vL vM
  .have h0:fB (val L) (val M) N=0:= ae 
   rw[h0,bd];exact h0
 have jV:val L+val M<4294967296^(N+fB (val L) (val M) N):=by
  have h:=EV (val L) (val M) (N+fB (val L) (val M) N);have g1:val L<4294967296^(N+fB (val L) (val M) N):=a7 vL (aR ag ae);have g2:val M<4294967296^(N+fB (val L) (val M) N):=a7 vM (aR ag ae);rw[Yt,bW g1,bW g2]at h;exact Nat.lt_of_div_eq_zero (pw _) h
 exact tr false Tryz.call200 Tryz.func200 (chain [.y 5 5 false 79 1 (gF (fw (val L+val M) 0)),.s (Sp.upto (PM L M N) 0 (N+(fB (val L) (val M) N)) ae (fun x hx ic=>by
    have ha:=J7 (val L) (val M) x;rw[<-lL hL,<-lL hM]at ha;have b1:=hL.getD x;have b2:=hM.getD x;have b3:=xr (val L) (val M) x;have b4:=vw (val L+val M) x;have hz:((((L.getD x 0+M.getD x 0)+(fB (val L) (val M) x))%4294967296%4294967296:Nat):Int)=(fJ (val L+val M) x:Int):= ae ;have hq:((L.getD x 0+M.getD x 0)+(fB (val L) (val M) x))/4294967296=fB (val L) (val M) (x+1):= ae ;by_cases hx:x<N
    .exact eu (chain [.o 14 (.int (by rw[hN];split<;>omega):PV.le (.e (iP (if(M.length:Int)>(L.length:Int)then(M.length:Int)else(L.length:Int)))) (.e (iP N))),tT 15 ((x:Int)<(N:Int)) ae,.c (uU _ _ af :dM 231 [(dO L),(iP x)] _),.c (uU _ _ af :dM 231 [(dO M),(iP x)] _),
      nJ ((L.getD x 0:Int)+(M.getD x 0:Int)) ae,nJ (((((L.getD x 0)+(M.getD x 0)):Nat):Int)+(fB (val L) (val M) x:Int)) ae,.o 33 (.int (BV _ ae):PV.le (.e (.v (.int .u64 (bits .and .u64 (((((L.getD x 0)+(M.getD x 0))+(fB (val L) (val M) x)):Nat):Int) 4294967295)))) (.e (.v (.int .u64 ((((((L.getD x 0)+(M.getD x 0))+(fB (val L) (val M) x))%4294967296):Nat):Int))))),.o 34 (.int (qL _):PV.le (.e (.v (.int .u32 (IntKind.u32.wrap ((((((L.getD x 0)+(M.getD x 0))+(fB (val L) (val M) x))%4294967296):Nat):Int))))) (.e (.v (.int .u32 (((((((L.getD x 0)+(M.getD x 0))+(fB (val L) (val M) x))%4294967296)%4294967296):Nat):Int))))),.a ( ae :(x+1)*4<=140737488355328),.a ( ae :0<=(32:Int)/\(32:Int)<=((64:Nat):Int)),.o 38 (.int (y6 _):PV.le (.e (.v (.int .u64 ((((((L.getD x 0)+(M.getD x 0))+(fB (val L) (val M) x)):Nat):Int)/2^32)))) (.e (.v (.int .u64 ((((((L.getD x 0)+(M.getD x 0))+(fB (val L) (val M) x))/4294967296):Nat):Int))))),
      eh ((x:Int)+1) ae]<|.e (chain [.o 6 (.int (by rw[hq]):PV.le (.e (.v (.int .u64 ((((((L.getD x 0)+(M.getD x 0))+(fB (val L) (val M) x))/4294967296):Nat):Int)))) (.e (.v (.int .u64 (fB (val L) (val M) (x+1):Int))))),.b 5 (DH rfl hz:Bx.le (.row false 79 (x+1) 1 (fun i_ j_=>if i_<x then(gF (fw (val L+val M) x)) i_ j_ else(E.mi (.sl false 1 1 fun i_ j_=>[(.v (.int .u32 (((((((L.getD x 0)+(M.getD x 0))+(fB (val L) (val M) x))%4294967296)%4294967296):Nat):Int)))].getD (i_*1+j_) (.v (.bool false)))) (i_-x) j_)) (.row false 79 (x+1) 1 (gF (fw (val L+val M) (x+1)))))]<|.nil)) ah 
    .have hcx:fB (val L) (val M) x=fB (val L) (val M) N:=by rw[show x=N by omega]
     exact eu (chain [.o 14 (.int (by rw[hN];split<;>omega):PV.le (.e (iP (if(M.length:Int)>(L.length:Int)then(M.length:Int)else(L.length:Int)))) (.e (iP N))),tF 15 ((x:Int)<(N:Int)) ae,tT 18 (0<(fB (val L) (val M) x:Int)) ae,.c (uU _ _ af :dM 231 [(dO L),(iP x)] _),.c (uU _ _ af :dM 231 [(dO M),(iP x)] _),nJ ((L.getD x 0:Int)+(M.getD x 0:Int)) ae,
      nJ (((((L.getD x 0)+(M.getD x 0)):Nat):Int)+(fB (val L) (val M) x:Int)) ae,.o 33 (.int (BV _ ae):PV.le (.e (.v (.int .u64 (bits .and .u64 (((((L.getD x 0)+(M.getD x 0))+(fB (val L) (val M) x)):Nat):Int) 4294967295)))) (.e (.v (.int .u64 ((((((L.getD x 0)+(M.getD x 0))+(fB (val L) (val M) x))%4294967296):Nat):Int))))),.o 34 (.int (qL _):PV.le (.e (.v (.int .u32 (IntKind.u32.wrap ((((((L.getD x 0)+(M.getD x 0))+(fB (val L) (val M) x))%4294967296):Nat):Int))))) (.e (.v (.int .u32 (((((((L.getD x 0)+(M.getD x 0))+(fB (val L) (val M) x))%4294967296)%4294967296):Nat):Int))))),.a ( ae :(x+1)*4<=140737488355328),.a ( ae :0<=(32:Int)/\(32:Int)<=((64:Nat):Int)),.o 38 (.int (y6 _):PV.le (.e (.v (.int .u64 ((((((L.getD x 0)+(M.getD x 0))+(fB (val L) (val M) x)):Nat):Int)/2^32)))) (.e (.v (.int .u64 ((((((L.getD x 0)+(M.getD x 0))+(fB (val L) (val M) x))/4294967296):Nat):Int))))),
      eh ((x:Int)+1) ae]<|.e (chain [.o 6 (.int (by rw[hq]):PV.le (.e (.v (.int .u64 ((((((L.getD x 0)+(M.getD x 0))+(fB (val L) (val M) x))/4294967296):Nat):Int)))) (.e (.v (.int .u64 (fB (val L) (val M) (x+1):Int))))),.b 5 (DH rfl hz:Bx.le (.row false 79 (x+1) 1 (fun i_ j_=>if i_<x then(gF (fw (val L+val M) x)) i_ j_ else(E.mi (.sl false 1 1 fun i_ j_=>[(.v (.int .u32 (((((((L.getD x 0)+(M.getD x 0))+(fB (val L) (val M) x))%4294967296)%4294967296):Nat):Int)))].getD (i_*1+j_) (.v (.bool false)))) (i_-x) j_)) (.row false 79 (x+1) 1 (gF (fw (val L+val M) (x+1)))))]<|.nil)) ah)
  (fun hx=>by
    exact eu (chain [.o 14 (.int (by rw[hN];split<;>omega):PV.le (.e (iP (if(M.length:Int)>(L.length:Int)then(M.length:Int)else(L.length:Int)))) (.e (iP N))),tF 15 ((((N+(fB (val L) (val M) N)):Nat):Int)<(N:Int)) ae,tF 18 (0<(fB (val L) (val M) (N+(fB (val L) (val M) N)):Int)) ae,.z 5]<|.e (chain [.o 5 (.e (wV (lJ _ _).symm):PV.le (.e (.sl false (N+(fB (val L) (val M) N)) 1 (gF (fw (val L+val M) (N+(fB (val L) (val M) N)))))) (.e (dO (fw (val L+val M) (N+(fB (val L) (val M) N))))))]<|.nil)) ah) ak :fP 4 Tryz.f200 (PM L M N 0) (.exit 0) ⟨41,false,[(5,.e (dO (fw (val L+val M) (N+(fB (val L) (val M) N)))))],[]⟩) (chain [.o 6 (.int (by rw[KQ];rfl):PV.le (.e (.v (.int .u64 0))) (.e (.v (.int .u64 (fB (val L) (val M) 0:Int)))))]<|.nil),.cf (wO _ (qe _ _) (by first|omega|(simp only[lJ];omega)):uc 195 [(dO (fw (val L+val M) (N+(fB (val L) (val M) N))))] _)]<|rQ (dO (dZ (fw (val L+val M) (N+(fB (val L) (val M) N))))) (dO (dN (val L+val M))) (by rw[BT jV])) ah 
theorem aco(L M:List Nat)(hL:ej L)(hM:ej M)(h1:L.length<=10000)(hle:val M<=val L):dM 232 [(dO L),(dO M)] (dO (dN (val L-val M))):=by
 have jV:val L-val M<4294967296^L.length:=bE (cI _ _) (iG hL);exact tr false Tryz.call232 Tryz.func232 (chain [.y 5 5 false 79 1 (gF (fw (val L-val M) 0)),.s (Sp.upto (P0 L M) 0 L.length ae (fun x hx ic=>by
    have ha:=aeK hle x;rw[<-lL hL,<-lL hM]at ha;have b1:=hL.getD x;have b2:=hM.getD x;have b3:=xr (val L-val M) (val M) x;have b5:=xr (val L-val M) (val M) (x+1);have b4:=vw (val L-val M) x;have hz:(((((L.getD x 0+4294967296)-M.getD x 0)-(fB (val L-val M) (val M) x))%4294967296%4294967296:Nat):Int)=(fJ (val L-val M) x:Int):= ae ;have hq:1-(((L.getD x 0+4294967296)-M.getD x 0)-(fB (val L-val M) (val M) x))/4294967296=fB (val L-val M) (val M) (x+1):= ae ;exact eu (chain [tT 12 ((x:Int)<(L.length:Int)) ae,.c (uU _ _ af :dM 231 [(dO L),(iP x)] _),nJ ((L.getD x 0:Int)+4294967296) ae,.c (uU _ _ af :dM 231 [(dO M),(iP x)] _),nJ (((((L.getD x 0)+4294967296):Nat):Int)-(M.getD x 0:Int)) ae,.o 22 (.int ae :PV.le (.e (.v (.int .u64 (((((L.getD x 0)+4294967296):Nat):Int)-(M.getD x 0:Int))))) (.e (.v (.int .u64 ((((L.getD x 0+4294967296)-M.getD x 0):Nat):Int))))),
     nJ (((((L.getD x 0+4294967296)-M.getD x 0):Nat):Int)-(fB (val L-val M) (val M) x:Int)) ae,.o 24 (.int ae :PV.le (.e (.v (.int .u64 (((((L.getD x 0+4294967296)-M.getD x 0):Nat):Int)-(fB (val L-val M) (val M) x:Int))))) (.e (.v (.int .u64 (((((L.getD x 0+4294967296)-M.getD x 0)-(fB (val L-val M) (val M) x)):Nat):Int))))),.o 27 (.int (BV _ ae):PV.le (.e (.v (.int .u64 (bits .and .u64 (((((L.getD x 0+4294967296)-M.getD x 0)-(fB (val L-val M) (val M) x)):Nat):Int) 4294967295)))) (.e (.v (.int .u64 ((((((L.getD x 0+4294967296)-M.getD x 0)-(fB (val L-val M) (val M) x))%4294967296):Nat):Int))))),.o 28 (.int (qL _):PV.le (.e (.v (.int .u32 (IntKind.u32.wrap ((((((L.getD x 0+4294967296)-M.getD x 0)-(fB (val L-val M) (val M) x))%4294967296):Nat):Int))))) (.e (.v (.int .u32 (((((((L.getD x 0+4294967296)-M.getD x 0)-(fB (val L-val M) (val M) x))%4294967296)%4294967296):Nat):Int))))),.a ( ae :(x+1)*4<=140737488355328),.a ( ae :0<=(32:Int)/\(32:Int)<=((64:Nat):Int)),.o 32 (.int (y6 _):PV.le (.e (.v (.int .u64 ((((((L.getD x 0+4294967296)-M.getD x 0)-(fB (val L-val M) (val M) x)):Nat):Int)/2^32)))) (.e (.v (.int .u64 ((((((L.getD x 0+4294967296)-M.getD x 0)-(fB (val L-val M) (val M) x))/4294967296):Nat):Int))))),
     nJ (1-((((((L.getD x 0+4294967296)-M.getD x 0)-(fB (val L-val M) (val M) x))/4294967296):Nat):Int)) ae,.o 33 (.int ae :PV.le (.e (.v (.int .u64 (1-((((((L.getD x 0+4294967296)-M.getD x 0)-(fB (val L-val M) (val M) x))/4294967296):Nat):Int))))) (.e (.v (.int .u64 (((1-((((L.getD x 0+4294967296)-M.getD x 0)-(fB (val L-val M) (val M) x))/4294967296)):Nat):Int))))),
     eh ((x:Int)+1) ae]<|.e (chain [.o 6 (.int (by rw[hq]):PV.le (.e (.v (.int .u64 (((1-((((L.getD x 0+4294967296)-M.getD x 0)-(fB (val L-val M) (val M) x))/4294967296)):Nat):Int)))) (.e (.v (.int .u64 (fB (val L-val M) (val M) (x+1):Int))))),.b 5 (DH rfl hz:Bx.le (.row false 79 (x+1) 1 (fun i_ j_=>if i_<x then(gF (fw (val L-val M) x)) i_ j_ else(E.mi (.sl false 1 1 fun i_ j_=>[(.v (.int .u32 (((((((L.getD x 0+4294967296)-M.getD x 0)-(fB (val L-val M) (val M) x))%4294967296)%4294967296):Nat):Int)))].getD (i_*1+j_) (.v (.bool false)))) (i_-x) j_)) (.row false 79 (x+1) 1 (gF (fw (val L-val M) (x+1)))))]<|.nil)) ah)
  (fun hx=>by
    exact eu (chain [tF 12 ((L.length:Int)<(L.length:Int)) ae,.z 5]<|.e (chain [.o 5 (.e (wV (lJ _ _).symm):PV.le (.e (.sl false L.length 1 (gF (fw (val L-val M) L.length)))) (.e (dO (fw (val L-val M) L.length))))]<|.nil)) ah) ak :fP 4 Tryz.f232 (P0 L M 0) (.exit 0) ⟨36,false,[(5,.e (dO (fw (val L-val M) L.length)))],[]⟩) (chain [.o 6 (.int (by rw[KQ];rfl):PV.le (.e (.v (.int .u64 0))) (.e (.v (.int .u64 (fB (val L-val M) (val M) 0:Int)))))]<|.nil),.cf (wO _ (qe _ _) (by first|omega|(simp only[lJ];omega)):uc 195 [(dO (fw (val L-val M) L.length))] _)]<|rQ (dO (dZ (fw (val L-val M) L.length))) (dO (dN (val L-val M))) (by rw[BT jV])) ah 
theorem acm(L:List Nat)(n:Nat)(hL:ej L)(h1:L.length<=10000)(hn:n<=1000000):dM 197 [(dO L),(iP n)] (dO (dN (val L/2^n))):=by
 have jV:val L/2^n<4294967296^(L.length-n/32):=by
  rw[bC (aJ ag)];by_cases h:n/32<=L.length
  .refine a7 (iG hL) ?_
   rw[kQ,kQ,<-aH];exact aR ag ae 
  .rw [show L.length-n/32=0 by omega,bG,aK]
   refine a7 (iG hL) ?_;rw[kQ];exact aR ag ae 
 by_cases fE:n/32<=L.length
 .exact tr false Tryz.call197 Tryz.func197 (chain [.a ( ae :0<(32:Int)),eh ((n:Int)) ae,.y 5 5 false 79 1 (gF (fw (val L/2^n) 0)),.s (Sp.upto (PY L n) 0 (L.length-n/32) ae (fun x hx ic=>by
    have b1:=hL.getD ((n/32)+x);have b2:=hL.getD (((n/32)+x)+1);have b3:(L.getD ((n/32)+x) 0+(L.getD (((n/32)+x)+1) 0*4294967296))/2^(n%32)<=(L.getD ((n/32)+x) 0+(L.getD (((n/32)+x)+1) 0*4294967296)):=bj _ _;have hz:(((L.getD ((n/32)+x) 0+(L.getD (((n/32)+x)+1) 0*4294967296))/2^(n%32)%4294967296%4294967296:Nat):Int)=(fJ (val L/2^n) x:Int):=by
     rw[Nat.mod_mod,aee,<-lL hL,<-lL hL,Nat.add_comm x,aQ 4294967296]
    exact eu (chain [tT 13 (((((n/32)+x):Nat):Int)<(L.length:Int)) ae,.c (uU _ _ af :dM 231 [(dO L),(iP ((((n/32)+x):Nat):Int))] _),eh (((((n/32)+x):Nat):Int)+1) ae,.c (uU _ _ af :dM 231 [(dO L),(iP (((((n/32)+x)+1):Nat):Int))] _),.a ( ae :0<=(32:Int)/\(32:Int)<=((64:Nat):Int)),.o 23 (.int (y5 _ ae):PV.le (.e (.v (.int .u64 (IntKind.u64.wrap ((L.getD (((n/32)+x)+1) 0:Int)*2^32))))) (.e (.v (.int .u64 (((L.getD (((n/32)+x)+1) 0*4294967296):Nat):Int))))),
     nJ ((L.getD ((n/32)+x) 0:Int)+(((L.getD (((n/32)+x)+1) 0*4294967296):Nat):Int)) ae,.a ( ae :0<(32:Int)),.a ( ae :0<=((((n%32):Nat):Int):Int)/\((((n%32):Nat):Int):Int)<=((64:Nat):Int)),.o 29 (.int (QZ _ _):PV.le (.e (.v (.int .u64 (((((L.getD ((n/32)+x) 0)+(L.getD (((n/32)+x)+1) 0*4294967296)):Nat):Int)/2^(n%32))))) (.e (.v (.int .u64 (((((L.getD ((n/32)+x) 0)+(L.getD (((n/32)+x)+1) 0*4294967296))/2^(n%32)):Nat):Int))))),.o 30 (.int (BV _ ae):PV.le (.e (.v (.int .u64 (bits .and .u64 (((((L.getD ((n/32)+x) 0)+(L.getD (((n/32)+x)+1) 0*4294967296))/2^(n%32)):Nat):Int) 4294967295)))) (.e (.v (.int .u64 ((((((L.getD ((n/32)+x) 0)+(L.getD (((n/32)+x)+1) 0*4294967296))/2^(n%32))%4294967296):Nat):Int))))),.o 31 (.int (qL _):PV.le (.e (.v (.int .u32 (IntKind.u32.wrap ((((((L.getD ((n/32)+x) 0)+(L.getD (((n/32)+x)+1) 0*4294967296))/2^(n%32))%4294967296):Nat):Int))))) (.e (.v (.int .u32 (((((((L.getD ((n/32)+x) 0)+(L.getD (((n/32)+x)+1) 0*4294967296))/2^(n%32))%4294967296)%4294967296):Nat):Int))))),.a ( ae :(x+1)*4<=140737488355328),eh (((((n/32)+x):Nat):Int)+1) ae]<|.e (chain [.o 6 (.int (by first|rfl|omega|(simp only[aO,aK];omega)):PV.le (.e (iP (((((n/32)+x)+1):Nat):Int))) (.e (iP ((((n/32)+(x+1)):Nat):Int)))),.b 5 (DH rfl hz:Bx.le (.row false 79 (x+1) 1 (fun i_ j_=>if i_<x then(gF (fw (val L/2^n) x)) i_ j_ else(E.mi (.sl false 1 1 fun i_ j_=>[(.v (.int .u32 (((((((L.getD ((n/32)+x) 0)+(L.getD (((n/32)+x)+1) 0*4294967296))/2^(n%32))%4294967296)%4294967296):Nat):Int)))].getD (i_*1+j_) (.v (.bool false)))) (i_-x) j_)) (.row false 79 (x+1) 1 (gF (fw (val L/2^n) (x+1)))))]<|.nil)) ah)
  (fun hx=>by
    exact eu (chain [tF 13 (((((n/32)+(L.length-n/32)):Nat):Int)<(L.length:Int)) ae,.z 5]<|.e (chain [.o 5 (.e (wV (lJ _ _).symm):PV.le (.e (.sl false (L.length-n/32) 1 (gF (fw (val L/2^n) (L.length-n/32))))) (.e (dO (fw (val L/2^n) (L.length-n/32)))))]<|.nil)) ah) ak :fP 3 Tryz.f197 (PY L n 0) (.exit 0) ⟨36,false,[(5,.e (dO (fw (val L/2^n) (L.length-n/32))))],[]⟩) (chain [.o 6 (.int (by first|rfl|omega|(simp only[aO,aK];omega)):PV.le (.e (iP (((n/32):Nat):Int))) (.e (iP ((((n/32)+0):Nat):Int))))]<|.nil),.cf (wO _ (qe _ _) (by first|omega|(simp only[lJ];omega)):uc 195 [(dO (fw (val L/2^n) (L.length-n/32)))] _)]<|rQ (dO (dZ (fw (val L/2^n) (L.length-n/32)))) (dO (dN (val L/2^n))) (by rw[BT jV])) ah 
 .have h0:val L/2^n=0:=by rw[show L.length-n/32=0 by omega,bG]at jV;exact Nat.lt_one_iff.1 jV
  rw[h0];exact tr false Tryz.call197 Tryz.func197 (chain [.a ( ae :0<(32:Int)),eh ((n:Int)) ae,.y 5 5 false 79 1 (gF (fw 0 0)),.s (Sp.upto (PZ L n) 0 0 ae (fun x hx ic=>by
    omega)
  (fun hx=>by
    exact eu (chain [tF 13 (((((n/32)+0):Nat):Int)<(L.length:Int)) ae,.z 5]<|.e (chain [.o 5 (.e (wV (lJ _ _).symm):PV.le (.e (.sl false 0 1 (gF (fw 0 0)))) (.e (dO (fw 0 0))))]<|.nil)) ah) ak :fP 3 Tryz.f197 (PZ L n 0) (.exit 0) ⟨36,false,[(5,.e (dO (fw 0 0)))],[]⟩) (chain [.o 6 (.int (by first|rfl|omega|(simp only[aO,aK];omega)):PV.le (.e (iP (((n/32):Nat):Int))) (.e (iP ((((n/32)+0):Nat):Int))))]<|.nil),.cf (wO _ (qe _ _) (by first|omega|(simp only[lJ];omega)):uc 195 [(dO (fw 0 0))] _)]<|rQ (dO (dZ (fw 0 0))) (dO (dN 0)) (by rw[BT ag])) ah 
end Go.Proofs.YtdgnpeddgdclhaaGreatDoor
namespace Go.Proofs.YtdgnpeddgdclhaaGreatDoor.Fp
end Go.Proofs.YtdgnpeddgdclhaaGreatDoor.Fp
namespace Go.Proofs.YtdgnpeddgdclhaaGreatDoor
open Go.RowKit Fp Pu
theorem abF(o r a:Nat)(hr:r<32)(ho:o<2^r):bits .or .u32 (o:Int) ((a*2^r%4294967296%4294967296:Nat):Int)=((o+a*2^r%4294967296:Nat):Int):=by
 have h3:(4294967296:Nat)=2^r*2^(32-r):=by rw[<-aH,show r+(32-r)=32 by omega]
 have sS:2^r<=2^31:=aR ag ae;have Aj:(2:Nat)^31=2147483648:= ag ;have e2:a*2^r%4294967296=(a%2^(32-r))*2^r:=by
  rw[aQ]
  conv=>lhs;rhs;rw[h3]
  rw[Nat.mul_mod_mul_left,aQ]
 rw[Nat.mod_mod,u32_or_nat _ _ ae (aS _ ag),e2,Bq _ _ _ ho]
theorem aea(a r:Nat)(ha:a<4294967296)(hr:r<32):IntKind.u64.wrap ((a:Int)*2^r)=((a*2^r:Nat):Int):=by
 have sS:2^r<=2^31:=aR ag ae;have Aj:(2:Nat)^31=2147483648:= ag ;have h2:a*2^r<=4294967295*2147483648:=cz ae ae;have e:(a:Int)*2^r=((a*2^r:Nat):Int):= aj ;rw[e];exact lY _ ae 
theorem ad9{a r:Nat}(ha:a<4294967296)(hr:r<32):a*2^r<=9223372034707292160:=by
 have sS:2^r<=2^31:=aR ag ae;have Aj:(2:Nat)^31=2147483648:= ag ;have h2:a*2^r<=4294967295*2147483648:=cz ae ae;omega
theorem adU{T n n' p q:Nat}{L L':List Nat}{z y:Nat}(hn:n=n')(hp:p<L.length)(hq:q<L.length)(hs:(L.set p z).set q y=L'):
 Bx.le (.row false T n 1 fun i' j'=>if i'=q/\0<=j'/\j'<0+1 then[.v (.int .u32 (y:Int))].getD (j'-0) .any else(fun i' j'=>if i'=p/\0<=j'/\j'<0+1 then[.v (.int .u32 (z:Int))].getD (j'-0) .any else(gF L) i' j') i' j') (.row false T n' 1 (gF L')):=by
 subst hs;refine .row hn fun i j _ hj=>?_
 obtain rfl:j=0:= ae ;refine⟨.of_eq ?_,rfl⟩;by_cases h1:i=q
 .subst h1
  rw[aC ⟨rfl, ae, ae⟩];show E.v (.int .u32 (y:Int))=E.v (.int .u32 ((((L.set p z).set i y).getD i 0:Nat):Int));rw[Fp.F4 (by rw[bZ];exact hq)]
 .rw [aB (fun k=>h1 k.1)]
  by_cases h:i=p
  .subst h
   show(if i=i/\0<=0/\0<0+1 then _ else _)=E.v (.int .u32 ((((L.set i z).set q y).getD i 0:Nat):Int));rw[aC ⟨rfl, ae, ae⟩,Fp.getD_set_ne (fun k=>h1 k.symm),Fp.F4 hp];rfl
  .show (if i=p/\0<=0/\0<0+1 then _ else E.v (.int .u32 (L.getD i 0:Int)))=E.v (.int .u32 ((((L.set p z).set q y).getD i 0:Nat):Int))
   rw[aB (fun k=>h k.1),Fp.getD_set_ne (fun k=>h1 k.symm),Fp.getD_set_ne (fun k=>h k.symm)]
open Go.RowKit Fp Pu
def PW(L:List Nat)(n:Nat)(x:Nat):PS:=⟨60,false,[(6,.e (iP x)),(5,.own 16),(0,.e (dO (dZ L))),(1,.e (iP n))],[(16,.row false 79 (n/32+(dZ L).length+1) 1 (gF (fw ((val ((dZ L).take x))*2^n) (n/32+(dZ L).length+1))))]⟩
theorem acj(L:List Nat)(n:Nat)(hL:ej L)(h1:L.length<=10000)(hn:n<=1000000):dM 199 [(dO L),(iP n)] (dO (dN (val L*2^n))):=by
 have tl:=ky L;unfold ig at tl;have jV:val ((dZ L).take (dZ L).length)*2^n<4294967296^(n/32+(dZ L).length+1):=by
  rw[agR,ck,aH,aQ];have h1:=iG hL.dZ;have h2:2^n<=4294967296^(n/32)*4294967296:=by
   rw[kQ,show(4294967296:Nat)=2^32 by rfl,<-aH];exact aR ag ae 
  rw[aN,cC,aQ];refine Nat.mul_lt_mul_of_lt_of_le h1 h2 (by exact Nat.mul_pos (pw _) ag)
 exact tr false Tryz.call199 Tryz.func199 (chain [.cf (wO _ af (by first|omega|(simp only[lJ];omega)):uc 195 [(dO L)] _),.a ( ae :0<(32:Int)),eh ((n:Int)) ae,
  eh ((((n/32):Nat):Int)+((dZ L).length:Int)) ae,eh (((((n/32)+(dZ L).length):Nat):Int)+1) ae,.a ( ae :0<=((((((n/32)+(dZ L).length)+1):Nat):Int):Int)/\((((((n/32)+(dZ L).length)+1):Nat):Int):Int)<=((((((n/32)+(dZ L).length)+1):Nat):Int):Int)),.a ( ae :((4:Nat):Int)*(((((n/32)+(dZ L).length)+1):Nat):Int)<=281474976710656/\((((((n/32)+(dZ L).length)+1):Nat):Int):Int)<=9223372036854775807),.s (Sp.upto (PW L n) 0 ((dZ L).length) ae (fun x hx ic=>by
    have Gr:=hL.dZ.getD x;have hr:n%32<32:=aS _ ag;have ek:(val ((dZ L).take x))<4294967296^x:=by
     have:=iG (hL.dZ.take x);rw[bB,cw ae]at this;exact this
    obtain⟨ho,tc⟩:=aeb (n:=n) Gr (O:=(fw ((val ((dZ L).take x))*2^n) (n/32+(dZ L).length+1))) rfl ek (m:=(n/32+(dZ L).length+1)) ae;rw[<-pY]at tc;have hu:(((dZ L).getD x 0)*2^(n%32))/4294967296<4294967296:=by
     have:=ad9 Gr hr;omega
    rw[<-bn hu]at tc;exact eu (chain [tT 20 ((x:Int)<((dZ L).length:Int)) ae,iX ((x:Int)) ((dZ L).length) ae,.o 27 (.int (lY _ ae):PV.le (.e (.v (.int .u64 (IntKind.u64.wrap ((((dZ L).getD x 0):Nat):Int))))) (.e (.v (.int .u64 ((((dZ L).getD x 0):Nat):Int))))),.a ( ae :0<(32:Int)),.a ( ae :0<=((((n%32):Nat):Int):Int)/\((((n%32):Nat):Int):Int)<=((64:Nat):Int)),.o 30 (.int (aea _ _ Gr hr):PV.le (.e (.v (.int .u64 (IntKind.u64.wrap (((((dZ L).getD x 0):Nat):Int)*2^(n%32)))))) (.e (.v (.int .u64 (((((dZ L).getD x 0)*2^(n%32)):Nat):Int))))),.a ( ae :0<(32:Int)),eh ((n:Int)) ae,eh ((x:Int)+(((n/32):Nat):Int)) ae,.a ( ae :0<(32:Int)),eh ((n:Int)) ae,
     eh ((x:Int)+(((n/32):Nat):Int)) ae,iX ((((x+(n/32)):Nat):Int)) ((n/32+(dZ L).length+1)) ae,.a ( ae :(x+(n/32))<(n/32+(dZ L).length+1)),.o 44 (.int (BV _ ae):PV.le (.e (.v (.int .u64 (bits .and .u64 (((((dZ L).getD x 0)*2^(n%32)):Nat):Int) 4294967295)))) (.e (.v (.int .u64 ((((((dZ L).getD x 0)*2^(n%32))%4294967296):Nat):Int))))),.o 45 (.int (qL _):PV.le (.e (.v (.int .u32 (IntKind.u32.wrap ((((((dZ L).getD x 0)*2^(n%32))%4294967296):Nat):Int))))) (.e (.v (.int .u32 (((((((dZ L).getD x 0)*2^(n%32))%4294967296)%4294967296):Nat):Int))))),.o 46 (.int (abF _ _ _ hr ho):PV.le (.e (.v (.int .u32 (bits .or .u32 ((((fw ((val ((dZ L).take x))*2^n) (n/32+(dZ L).length+1)).getD (x+(n/32)) 0):Nat):Int) (((((((dZ L).getD x 0)*2^(n%32))%4294967296)%4294967296):Nat):Int))))) (.e (.v (.int .u32 (((((fw ((val ((dZ L).take x))*2^n) (n/32+(dZ L).length+1)).getD (x+(n/32)) 0)+((((dZ L).getD x 0)*2^(n%32))%4294967296)):Nat):Int))))),
     iX ((((x+(n/32)):Nat):Int)) ((n/32+(dZ L).length+1)) ae,.a ( ae :(x+(n/32))<(n/32+(dZ L).length+1)),.a ( ae :0<(32:Int)),eh ((n:Int)) ae,
     eh ((x:Int)+(((n/32):Nat):Int)) ae,eh ((((x+(n/32)):Nat):Int)+1) ae,.a ( ae :0<=(32:Int)/\(32:Int)<=((64:Nat):Int)),.o 55 (.int (y6 _):PV.le (.e (.v (.int .u64 ((((((dZ L).getD x 0)*2^(n%32)):Nat):Int)/2^32)))) (.e (.v (.int .u64 ((((((dZ L).getD x 0)*2^(n%32))/4294967296):Nat):Int))))),.o 56 (.int (qL _):PV.le (.e (.v (.int .u32 (IntKind.u32.wrap ((((((dZ L).getD x 0)*2^(n%32))/4294967296):Nat):Int))))) (.e (.v (.int .u32 (((((((dZ L).getD x 0)*2^(n%32))/4294967296)%4294967296):Nat):Int))))),
     iX (((((x+(n/32))+1):Nat):Int)) ((n/32+(dZ L).length+1)) ae,.a ( ae :((x+(n/32))+1)<(n/32+(dZ L).length+1)),eh ((x:Int)+1) ae]<|.e (chain [.b 16 (adU rfl (by rw[lJ];omega) (by rw[lJ];omega) tc:Bx.le (.row false 79 (n/32+(dZ L).length+1) 1 (fun i' j'=>if i'=((x+(n/32))+1)/\0<=j'/\j'<0+1 then[(.v (.int .u32 (((((((dZ L).getD x 0)*2^(n%32))/4294967296)%4294967296):Nat):Int)))].getD (j'-0) .any else(fun i' j'=>if i'=(x+(n/32))/\0<=j'/\j'<0+1 then[(.v (.int .u32 (((((fw ((val ((dZ L).take x))*2^n) (n/32+(dZ L).length+1)).getD (x+(n/32)) 0)+((((dZ L).getD x 0)*2^(n%32))%4294967296)):Nat):Int)))].getD (j'-0) .any else(gF (fw ((val ((dZ L).take x))*2^n) (n/32+(dZ L).length+1))) i' j') i' j')) (.row false 79 (n/32+(dZ L).length+1) 1 (gF (fw ((val ((dZ L).take (x+1)))*2^n) (n/32+(dZ L).length+1)))))]<|.nil)) ah)
  (fun hx=>by
    exact eu (chain [tF 20 (((dZ L).length:Int)<((dZ L).length:Int)) ae,.z 16]<|.e (chain [.o 5 (.e (wV (lJ _ _).symm):PV.le (.e (.sl false (n/32+(dZ L).length+1) 1 (gF (fw ((val ((dZ L).take (dZ L).length))*2^n) (n/32+(dZ L).length+1))))) (.e (dO (fw ((val ((dZ L).take (dZ L).length))*2^n) (n/32+(dZ L).length+1)))))]<|.nil)) ah) ak :fP 4 Tryz.f199 (PW L n 0) (.exit 0) ⟨60,false,[(5,.e (dO (fw ((val ((dZ L).take (dZ L).length))*2^n) (n/32+(dZ L).length+1))))],[]⟩) (chain [.b 16 (Jd ae (fun i=>by rw[show val (List.take 0 (dZ L))=0 from rfl,bS,Lp]):Bx.le (.row false 79 (((n/32)+(dZ L).length)+1) 1 (fun _ j_=>[(.v (.int .u32 0))].getD j_ .any)) (.row false 79 (n/32+(dZ L).length+1) 1 (gF (fw ((val ((dZ L).take 0))*2^n) (n/32+(dZ L).length+1)))))]<|.nil),.cf (wO _ (qe _ _) (by first|omega|(simp only[lJ];omega)):uc 195 [(dO (fw ((val ((dZ L).take (dZ L).length))*2^n) (n/32+(dZ L).length+1)))] _)]<|rQ (dO (dZ (fw ((val ((dZ L).take (dZ L).length))*2^n) (n/32+(dZ L).length+1)))) (dO (dN (val L*2^n))) (by rw[BT jV,agR,kS])) ah 
open Go.RowKit Fp Pu
open Go.RowKit Fp Pu
theorem acp(m:Nat)(h:(dN m).length<=10000):dM 195 [dO (dN m)] (dO (dN m)):=by
 have:=(wO (dN m) (gr m) ae).pc;rwa[show dZ (dN m)=dN m from qK m]at this
theorem IU(m:Nat)(h:(dN m).length<=10000):dM 196 [dO (dN m)] (iP (dU m)):=by
 have:=acd (dN m) (gr m) ae;rwa[eV]at this
theorem ace(m n:Nat)(h:(dN m).length<=10000)(k:(dN n).length<=10000):dM 198 [dO (dN m),dO (dN n)] (iP (fN m n)):=by
 have:=aci (dN m) (dN n) (gr m) (gr n) ae ae;rwa[eV,eV]at this
theorem IT(m n:Nat)(h:(dN m).length<=10000)(k:(dN n).length<=10000):dM 200 [dO (dN m),dO (dN n)] (dO (dN (m+n))):=by
 have:=ab9 (dN m) (dN n) (gr m) (gr n) ae ae;rwa[eV,eV]at this
theorem acn(m n:Nat)(h:(dN m).length<=10000)(k:n<=m):dM 232 [dO (dN m),dO (dN n)] (dO (dN (m-n))):=by
 have:=aco (dN m) (dN n) (gr m) (gr n) ae (by rw[eV,eV];exact k);rwa[eV,eV]at this
theorem PX(m n:Nat)(h:(dN m).length<=10000)(k:n<=1000000):dM 199 [dO (dN m),iP (n:Int)] (dO (dN (m*2^n))):=by
 have:=acj (dN m) n (gr m) ae ae;rwa[eV]at this
theorem ack(m n:Nat)(h:(dN m).length<=10000)(k:n<=1000000):dM 197 [dO (dN m),iP (n:Int)] (dO (dN (m/2^n))):=by
 have:=acm (dN m) n (gr m) ae ae;rwa[eV]at this
theorem acA(neg:Bool)(p:Nat)(dW:8<=p)(dR:p<=512):dM 201 [(bP neg),(iP p)] (dP (canon neg (2^p-1) (16384-(p:Int)))):=by
 have g0:dU (1*2^p)=p+1:=by rw[aK];exact qQ (aG _) (ag8 ag ae)
 have g1:(dN 1).length<=256:=jF ag;have g2:(dN (1*2^p)).length<=256:=jF ae;have g4:1<=1*2^p:=by rw[aK];exact aJ ag 
 have g3:(dN ((1*2^p)-1)).length<=256:=jF (by have:=qd (cI (1*2^p) 1);omega);exact tr true Tryz.call201 Tryz.func201 (chain [.o 6 (.e one_le:PV.le (.e (.sl false 1 1 fun i_ j_=>[(.v (.int .u32 1))].getD (i_*1+j_) (.v (.bool false)))) (.e (dO (dN 1)))),.c (PX _ _ ae ae :dM 199 [(dO (dN 1)),(iP p)] _),.o 9 (.e one_le:PV.le (.e (.sl false 1 1 fun i_ j_=>[(.v (.int .u32 1))].getD (i_*1+j_) (.v (.bool false)))) (.e (dO (dN 1)))),.c (acn _ _ ae af :dM 232 [(dO (dN (1*2^p))),(dO (dN 1))] _),eh (16384-(p:Int)) ae,.c (wP _ _ _ ae ae ae :dM 76 [(bP neg),(dO (dN ((1*2^p)-1))),(iP (16384-(p:Int)))] _)]<|rQ (dP (canon neg ((1*2^p)-1) (16384-(p:Int)))) (dP (canon neg (2^p-1) (16384-(p:Int)))) (by rw[aK])) ah 
noncomputable def r3CutT(neg:Bool)(m:Nat)(e:Int)(more:Bool)(p:Nat)(up:Bool)(h1:(dN m).length<=2900)(gq:-200000<=e)(fV:e<=200000)(dW:8<=p)(dR:p<=512)(Q:Nat)(U:Bool)(hq:fT m e more p (neg != up)=Q)(hU:U=(neg != up))(hl:(dN Q).length<=2901):Tr Tryz.prog Tb:=by
 have hb:=qR h1;have kj:ey m e p<=1000000:=by unfold ey;omega
 have nU:(ey m e p:Int)<=max (dU m:Int) (-16384-e):=by unfold ey;omega
 have g4:=qR hl;exact chain [.c (IU _ ae :dM 196 [(dO (dN Q))] _)]<|.w (0<(dU Q:Int))
  (fun k1=>chain [tB 53 (aE k1),.c (IU _ ae :dM 196 [(dO (dN Q))] _),eh ((dU Q:Int)+e) ae,eh (((dU Q:Int)+e)+(ey m e p:Int)) ae]<|.w (16384<(((dU Q:Int)+e)+(ey m e p:Int)))
   (fun k2=>chain [tB 61 (aE k2)]<|.w (U=true)
    (fun k3=>chain [tB 63 (k3),.o 64 (.e rG:PV.le (.e (.agg [(bP false),(.v (.slice none 0 0)),(iP 0)])) (.e (dP eW)))]<|rR (.ef [dP (fi neg m e more p up),iP (eU neg m e more p up)]) (by
      have h0:Q≠0:=by intro h;rw[h]at k1;exact absurd k1 ag 
      obtain⟨g1,g2⟩:=(Lf (e:=e) hq h0 ae).1 (by rw[<-hU];simp[k3]);exact .of_eq (by rw[g1,g2]):E.le (.ef [(dP eW),(iP 9)]) (.ef [dP (fi neg m e more p up),iP (eU neg m e more p up)])))
    (fun k3=>chain [tB 63 (ay k3),.c (acA neg p ae ae)]<|rR (.ef [dP (fi neg m e more p up),iP (eU neg m e more p up)]) (by
      have h0:Q≠0:=by intro h;rw[h]at k1;exact absurd k1 ag 
      obtain⟨g1,g2⟩:=(Lf (e:=e) hq h0 ae).2 (by rw[<-hU];simp[k3]);exact .of_eq (by rw[g1,g2]):E.le (.ef [(dP (canon neg (2^p-1) (16384-(p:Int)))),(iP 0)]) (.ef [dP (fi neg m e more p up),iP (eU neg m e more p up)]))))
   (fun k2=>chain [tB 61 (aD k2),eh (e+(ey m e p:Int)) ae,.c (wP _ _ _ ae ae ae :dM 76 [(bP neg),(dO (dN Q)),(iP (e+(ey m e p:Int)))] _)]<|rR (.ef [dP (fi neg m e more p up),iP (eU neg m e more p up)]) (by
      obtain⟨g1,g2⟩:=Ld (e:=e) hq (.inr ae);exact .of_eq (by rw[g1,g2]):E.le (.ef [(dP (canon neg Q (e+(ey m e p:Int)))),(iP 0)]) (.ef [dP (fi neg m e more p up),iP (eU neg m e more p up)]))))
  (fun k1=>chain [tB 53 (aD k1),eh (e+(ey m e p:Int)) ae,.c (wP _ _ _ ae ae ae :dM 76 [(bP neg),(dO (dN Q)),(iP (e+(ey m e p:Int)))] _)]<|rR (.ef [dP (fi neg m e more p up),iP (eU neg m e more p up)]) (by
      have h0:Q=0:=by
       apply bh;intro h;have:=jK h;omega
      obtain⟨g1,g2⟩:=Ld (e:=e) hq (.inl h0);exact .of_eq (by rw[g1,g2]):E.le (.ef [(dP (canon neg Q (e+(ey m e p:Int)))),(iP 0)]) (.ef [dP (fi neg m e more p up),iP (eU neg m e more p up)])))
theorem acx(neg:Bool)(m:Nat)(e:Int)(more:Bool)(p:Nat)(up:Bool)(h1:(dN m).length<=2900)(gq:-200000<=e)(fV:e<=200000)(dW:8<=p)(dR:p<=512):dM 162 [(bP neg),(dO (dN m)),(iP e),(bP more),(iP p),(bP up)] (.ef [dP (fi neg m e more p up),iP (eU neg m e more p up)]):=by
 have hb:=qR h1;have kj:ey m e p<=1000000:=by unfold ey;omega
 have nU:(ey m e p:Int)<=max (dU m:Int) (-16384-e):=by unfold ey;omega
 have g1:=il (bj m (2^ey m e p));have g2:=il (ch m (2^ey m e p));have l1:(dN 1).length<=256:=jF ag;have g3:(dN ((m/2^ey m e p)+1)).length<=2901:=Oi ae ae;have g5:=qR (m:=m/2^ey m e p) (aI g1 h1);exact tr true Tryz.call162 Tryz.func162 (chain [.c (acp _ ae :dM 195 [(dO (dN m))] _),.c (IU _ ae :dM 196 [(dO (dN m))] _),eh ((dU m:Int)-(p:Int)) ae,eh ((-16384)-e) ae,.o 27 (.int (by unfold ey;(repeat' split)<;>omega):PV.le (.e (iP (if 0>(if((-16384)-e)>((dU m:Int)-(p:Int))then((-16384)-e)else((dU m:Int)-(p:Int)))then 0 else(if((-16384)-e)>((dU m:Int)-(p:Int))then((-16384)-e)else((dU m:Int)-(p:Int)))))) (.e (iP (ey m e p:Int)))),.c (ack _ _ ae ae :dM 197 [(dO (dN m)),(iP (ey m e p:Int))] _)]<|.w (0<(ey m e p:Int))
  (fun k1=>chain [tB 32 (aE k1),.c (PX _ _ ae ae :dM 199 [(dO (dN (m/2^(ey m e p)))),(iP (ey m e p:Int))] _),.c (ace _ _ ae ae :dM 198 [(dO (dN ((m/2^(ey m e p))*2^(ey m e p)))),(dO (dN m))] _)]<|.w ((fN ((m/2^(ey m e p))*2^(ey m e p)) m)=0)
   (fun k2=>by
    have eC:m%2^(ey m e p)=0:=(Oy _ _).1 k2;exact chain [tB 39 (az k2)]<|.w (more=true)
     (fun k3=>.w (neg=up)
      (fun k4=>chain [tB 43 (Fb (ax k4)),tB 44 (k3)]<|r3CutT neg m e more p up h1 gq fV dW dR (m/2^(ey m e p)) false (by unfold fT;simp[k3,k4,eC]) (by first|rfl|simp[k3,k4,eC]) ae)
      (fun k4=>chain [tB 43 (Fa (aw k4)),tB 44 (k3),.o 49 (.e one_le:PV.le (.e (.sl false 1 1 fun i_ j_=>[(.v (.int .u32 1))].getD (i_*1+j_) (.v (.bool false)))) (.e (dO (dN 1)))),.c (IT _ _ ae ae :dM 200 [(dO (dN (m/2^(ey m e p)))),(dO (dN 1))] _)]<|r3CutT neg m e more p up h1 gq fV dW dR ((m/2^(ey m e p))+1) true (by unfold fT;simp[k3,k4,eC]) (by first|rfl|simp[k3,k4,eC]) ae))
     (fun k3=>chain [tB 44 (ay k3)]<|r3CutT neg m e more p up h1 gq fV dW dR (m/2^(ey m e p)) (!(neg==up)) (by unfold fT;simp[k3,eC]) (by first|rfl|simp[k3,eC]) ae))
   (fun k2=>by
    have eC:m%2^(ey m e p)≠0:=fun h=>k2 ((Oy _ _).2 h)
    exact chain [tB 39 (aA k2)]<|.w (neg=up)
     (fun k3=>chain [tB 43 (Fb (ax k3))]<|r3CutT neg m e more p up h1 gq fV dW dR (m/2^(ey m e p)) false (by unfold fT;simp[k3,eC]) (by first|rfl|simp[k3,eC]) ae)
     (fun k3=>chain [tB 43 (Fa (aw k3)),.o 49 (.e one_le:PV.le (.e (.sl false 1 1 fun i_ j_=>[(.v (.int .u32 1))].getD (i_*1+j_) (.v (.bool false)))) (.e (dO (dN 1)))),.c (IT _ _ ae ae :dM 200 [(dO (dN (m/2^(ey m e p)))),(dO (dN 1))] _)]<|r3CutT neg m e more p up h1 gq fV dW dR ((m/2^(ey m e p))+1) true (by unfold fT;simp[k3,eC]) (by first|rfl|simp[k3,eC]) ae)))
  (fun k1=>by
   have eC:m%2^(ey m e p)=0:=by rw[show(ey m e p)=0 by omega,bG,cF]
   exact chain [tB 32 (aD k1)]<|.w (more=true)
    (fun k2=>.w (neg=up)
     (fun k3=>chain [tB 43 (Fb (ax k3)),tB 44 (k2)]<|r3CutT neg m e more p up h1 gq fV dW dR (m/2^(ey m e p)) false (by unfold fT;simp[k2,k3,eC]) (by first|rfl|simp[k2,k3,eC]) ae)
     (fun k3=>chain [tB 43 (Fa (aw k3)),tB 44 (k2),.o 49 (.e one_le:PV.le (.e (.sl false 1 1 fun i_ j_=>[(.v (.int .u32 1))].getD (i_*1+j_) (.v (.bool false)))) (.e (dO (dN 1)))),.c (IT _ _ ae ae :dM 200 [(dO (dN (m/2^(ey m e p)))),(dO (dN 1))] _)]<|r3CutT neg m e more p up h1 gq fV dW dR ((m/2^(ey m e p))+1) true (by unfold fT;simp[k2,k3,eC]) (by first|rfl|simp[k2,k3,eC]) ae))
    (fun k2=>chain [tB 44 (ay k2)]<|r3CutT neg m e more p up h1 gq fV dW dR (m/2^(ey m e p)) (!(neg==up)) (by unfold fT;simp[k2,eC]) (by first|rfl|simp[k2,eC]) ae))) ah 
end Go.Proofs.YtdgnpeddgdclhaaGreatDoor
namespace Go.Proofs.YtdgnpeddgdclhaaGreatDoor.Fp
theorem UT{s:Bool}{m:Nat}{e:Int}(hm:dU m<=60000)(gq:-60000<=e)(fV:e<=60000):(dN (canon s m e).m).length<=2900 /\ -200000<=(canon s m e).e/\(canon s m e).e<=200000:=by
 by_cases h0:m=0
 .subst h0;rw[xp];exact⟨by rw[show eW.m=0 from rfl,j8];decide, ag, ag⟩
 .obtain ⟨h1,h2,h3,h4⟩:=vq (s:=s) (e:=e) h0
  have h5:=jK h3;exact⟨A4 ae, ae, ae⟩
theorem Pq{a:Dy}{k:Int}(h:k<=a.e):dU (a.num k).natAbs<=dU a.m+(a.e-k).toNat:=by
 have e:(a.num k).natAbs=a.m*2^(a.e-k).toNat:=by
  unfold Dy.num Dy.fm;split
  .rw [ag9];exact dz _
  .exact dz _
 rw[e];by_cases h0:a.m=0
 .rw [h0,bS];exact bq _
 .rw [mg h0];exact aG _
theorem aeQ{a b:Dy}(ha:a.Valid)(hb:b.Valid):(dN (ep a b).m).length<=2900 /\ -200000<=(ep a b).e/\(ep a b).e<=200000:=by
 have h1:=ha.bits;have h2:=hb.bits;have h3:=ha.exp;have h4:=hb.exp;have la:=ha.len;have lb:=hb.len;unfold ep;split
 .exact ⟨ ae, ae, ae⟩
 .split
  .exact ⟨ ae, ae, ae⟩
  .have g1:=Pq (a:=a) (k:=min a.e b.e) ae 
   have g2:=Pq (a:=b) (k:=min a.e b.e) ae;refine UT ?_ ae ae;obtain⟨K,hK⟩:∃ K,K=40000:=⟨_,rfl⟩
   have g3:=gS.1 (aI g1 (show dU a.m+(a.e-min a.e b.e).toNat<=K by omega));have g4:=gS.1 (aI g2 (show dU b.m+(b.e-min a.e b.e).toNat<=K by omega));refine aI ((gS (k:=K+1)).2 ?_) (show K+1<=60000 by omega);have g5:(a.num (min a.e b.e)+b.num (min a.e b.e)).natAbs<=(a.num (min a.e b.e)).natAbs+(b.num (min a.e b.e)).natAbs:=Int.natAbs_add_le _ _;rw[aN];generalize 2^K=P at *
   omega
end Go.Proofs.YtdgnpeddgdclhaaGreatDoor.Fp
namespace Go.Proofs.YtdgnpeddgdclhaaGreatDoor
open Go.RowKit Fp Pu
theorem acy(d:Dy)(p:Nat)(up:Bool)(h1:(dN d.m).length<=2900)(gq:-200000<=d.e)(fV:d.e<=200000)(dW:8<=p)(dR:p<=512):dM 121 [(dP d),(iP p),(bP up)] (.ef [dP (ff d p up),iP (fg d p up)]):=by
 exact tr true Tryz.call121 Tryz.func121 (chain [.c (acx d.neg d.m d.e false p up ae ae ae ae ae)]<|.nil) ah 
theorem acz(a b:Dy)(p:Nat)(ha:a.Valid)(hb:b.Valid)(dW:8<=p)(dR:p<=512):dM 120 [(dP a),(dP b),(iP p)] (iP 0):=by
 exact tr true Tryz.call120 Tryz.func120 (chain [.c (wQ _ af :dM 46 [(dP a)] _),.c (wQ _ af :dM 46 [(dP b)] _),.c (adh _:dM 48 [(iP p)] _),tB 16 (nf.2 ⟨ ae, ae⟩:(im (p:Int))=true)]<|.nil) ah 
theorem acw(a b:Dy)(p:Nat)(up:Bool)(ha:a.Valid)(hb:b.Valid)(dW:8<=p)(dR:p<=512):dM 72 [(dP a),(dP b),(iP p),(bP up)] (.ef [dP (ff (ep a b) p up),iP (fg (ep a b) p up)]):=by
 have hx:=aeQ ha hb;exact tr true Tryz.call72 Tryz.func72 (chain [.c (acz _ _ _ af af ae ae :dM 120 [(dP a),(dP b),(iP p)] _),tB 16 ( ag :((0:Int) != 0)=false),.c (Qq a b (Fp.Dy.Valid.uN af) (Fp.Dy.Valid.uN af)),.c (acy _ _ _ hx.1 hx.2.1 hx.2.2 ae ae :dM 121 [(dP (ep a b)),(iP p),(bP up)] _)]<|.nil) ah 
open Go.RowKit Fp Pu
theorem acD(p:Int):dM 70 [(iP p)] (bP (im p)):=by
 exact tr true Tryz.call70 Tryz.func70 (.w (8<=p)
  (fun k1=>chain [tB 4 (aE k1)]<|rQ (bP (decide (p<=512))) (bP (im p)) (by simp[im,k1]))
  (fun k1=>chain [tB 4 (aD k1)]<|rQ (bP false) (bP (im p)) (by simp[im,k1]))) ah 
theorem P7 : dM 52 [(dP eW)] (bP true):=by
 exact tr true Tryz.call52 Tryz.func52 (chain [tB 4 (rfl:eW.neg=false),tB 10 (pk (oM.2 rfl):(((dN eW.m).length:Int)==0)=true),tB 15 (rfl:(eW.e==0)=true)]<|.nil) ah 
theorem P6(x:Iv)(hx:x.Valid):dM 19 [(dQ x)] (bP true):=by
 by_cases fW:x.all=true
 .obtain ⟨h1,h2⟩:=Hq hx fW
  exact tr true Tryz.call19 Tryz.func19 (chain [tB 4 (fW:x.all=true),.c (by rw[h1];exact P7:dM 52 [(dP x.lo)] (bP true)),.c (by rw[h2];exact P7:dM 52 [(dP x.hi)] (bP true))]<|.nil) ah 
 .replace fW:x.all=false:=by simpa using fW
  obtain⟨h1,h2,h3⟩:=oJ hx fW;exact tr true Tryz.call19 Tryz.func19 (chain [tB 4 (fW:x.all=false),.c (wQ _ af :dM 46 [(dP x.lo)] _),.c (wQ _ af :dM 46 [(dP x.hi)] _),.c (I4 x.lo x.hi (Fp.Dy.Valid.uN af) (Fp.Dy.Valid.uN af)),tB 27 (aE h3)]<|.nil) ah 
theorem acC(x:Iv)(hx:x.Valid):dM 71 [(dQ x)] (bP (!x.all)):=by
 exact tr true Tryz.call71 Tryz.func71 (chain [.c (P6 _ af :dM 19 [(dQ x)] _)]<|.nil) ah 
open Go.RowKit Fp Pu
theorem ads(d:Dy)(hd:d.Valid->False)(h1:-10000000<=d.e)(h2:d.e<=10000000):dM 46 [dP d] (bP false):=by
 rw[<-FA];exact adq d.raw ⟨gr _,by show -9223372036854775808<=d.e;omega,by show d.e<=9223372036854775807;omega⟩ false ⟨fun h=>absurd h ag,fun h=>absurd (show d.Valid by have:=RD.Ok.valid h;rwa[Dy.acN]at this) fun q=>hd q⟩
theorem acu(k:Int)(h1:-32768<=k)(h2:k<=32768):dM 74 [(iP k)] (bP true):=by
 exact tr true Tryz.call74 Tryz.func74 (chain [tT 4 ((-32768)<=k) ae,tT 7 (k<=32768) ae]<|.nil) ah 
theorem acr(d:Dy)(hv:d.Valid):dM 75 [(dP d)] (.ef [dP d,iP 0]):=by
 exact tr true Tryz.call75 Tryz.func75 (chain [.c (wQ _ hv:dM 46 [(dP d)] _)]<|.nil) ah 
theorem acq(d:Dy)(hv:d.Valid->False)(h1:-10000000<=d.e)(h2:d.e<=10000000):dM 75 [(dP d)] (.ef [dP eW,iP 9]):=by
 exact tr true Tryz.call75 Tryz.func75 (chain [.c (ads _ hv h1 h2:dM 46 [(dP d)] _),.o 7 (.e rG:PV.le (.e (.agg [(bP false),(.v (.slice none 0 0)),(iP 0)])) (.e (dP eW)))]<|.nil) ah 
theorem IV(d:Dy)(k:Int)(hv:d.Valid)(kj:-32768<=k)(nU:k<=32768):dM 31 [(dP d),(iP k)] (.ef [dP (kf d k),iP (ng d k)]):=by
 have hl:=hv.len;have he:=hv.exp;have Yu:dM 75 [dP (canon d.neg d.m (d.e+k))] (.ef [dP (kf d k),iP (ng d k)]):=by
  unfold kf ng;by_cases h:iM (canon d.neg d.m (d.e+k))
  .rw [aC h,aC h];exact acr _ ⟨oq _ _ _,h⟩
  .rw [aB h,aB h]
   have hb:=Fj (gr d.m) (show(dN d.m).length<=256 by omega) d.neg (d.e+k) ae ae;rw[eV]at hb;exact acq _ (fun hv=>h hv.range) ae ae 
 exact tr true Tryz.call31 Tryz.func31 (chain [.c (wQ _ hv:dM 46 [(dP d)] _),.c (acu _ ae ae :dM 74 [(iP k)] _),eh (d.e+k) ae,.c (wP _ _ _ ae ae ae :dM 76 [(bP d.neg),(dO (dN d.m)),(iP (d.e+k))] _),.c (Yu:dM 75 [(dP (canon d.neg d.m (d.e+k)))] _)]<|.nil) ah 
theorem acB(x:Iv)(d:Dy)(hx:x.Valid)(hv:d.Valid):dM 73 [(dQ x),(dP d)] (bP (hasB x d)):=by
 obtain⟨w1,w2⟩:=hx.ends;exact tr true Tryz.call73 Tryz.func73 (chain [.c (P6 x af),.c (wQ _ hv:dM 46 [(dP d)] _)]<|.w (x.all=true)
  (fun k1=>chain [tB 14 (k1)]<|rQ (bP true) (bP (hasB x d)) (by unfold hasB;simp[k1]))
  (fun k1=>chain [tB 14 (ay k1),.c (I4 x.lo d (Fp.Dy.Valid.uN af) (Fp.Dy.Valid.uN af))]<|.w ((ew x.lo d)<=0)
   (fun k2=>chain [tB 20 (aE k2),.c (I4 d x.hi (Fp.Dy.Valid.uN af) (Fp.Dy.Valid.uN af))]<|rQ (bP (decide ((ew d x.hi)<=0))) (bP (hasB x d)) (by unfold hasB;simp[k1,k2]))
   (fun k2=>chain [tB 20 (aD k2)]<|rQ (bP false) (bP (hasB x d)) (by unfold hasB;simp[k1,k2])))) ah 
theorem P5(x:Iv)(p:Nat)(hx:x.Valid)(ha:x.all=false)(dW:8<=p)(dR:p<=512):dM 30 [(dQ x),(iP p)] (dP (jP x p)):=by
 obtain⟨w1,w2⟩:=hx.ends;have nX:(ff (ep x.lo x.hi) p false).Valid:=nQ _ _ _ _ _ _ ae ae;exact tr true Tryz.call30 Tryz.func30 (chain [.c (acD (p:Int)),tB 10 (nf.2 ⟨ ae, ae⟩:(im (p:Int))=true),.c (acC x af),tB 14 (by rw[ha];rfl:(!x.all)=true),.c (acw x.lo x.hi p false af af ae ae),.c (IV _ _ nX ae ae :dM 31 [(dP (ff (ep x.lo x.hi) p false)),(iP (-1))] _)]<|.w ((fg (ep x.lo x.hi) p false)=0)
  (fun k1=>chain [tB 33 (az k1)]<|.w ((ng (ff (ep x.lo x.hi) p false) (-1))=0)
   (fun k2=>chain [tB 36 (az k2),.c (acB _ _ hx (BH _ _):dM 73 [(dQ x),(dP (kf (ff (ep x.lo x.hi) p false) (-1)))] _)]<|.w (hasB x (kf (ff (ep x.lo x.hi) p false) (-1))=true)
    (fun k3=>chain [tB 41 (k3)]<|rQ (dP (kf (ff (ep x.lo x.hi) p false) (-1))) (dP (jP x p)) (by unfold jP;simp[k1,k2,k3]))
    (fun k3=>chain [tB 41 (ay k3)]<|rQ (dP x.lo) (dP (jP x p)) (by unfold jP;simp[k1,k2,k3])))
   (fun k2=>chain [tB 36 (aA k2)]<|rQ (dP x.lo) (dP (jP x p)) (by unfold jP;simp[k1,k2])))
  (fun k1=>chain [tB 33 (aA k1)]<|rQ (dP x.lo) (dP (jP x p)) (by unfold jP;simp[k1]))) ah 
open Go.RowKit Fp Pu
def sC(w:List Nat):E:=.sl true w.length 1 fun i _=>.v (.int .u8 (w.getD i 0:Int))
noncomputable def yI(x:Iv)(k:Nat):Iv:=if k%2=0 then A5 x else gi (jP x 60)
noncomputable def gz(x:List Iv)(w:List Nat)(i:Nat):List Iv:=(List.range x.length).map fun j=>if j<i then yI (x.getD j dV) (w.getD j 0)else x.getD j dV
theorem wE(x:List Iv)(w:List Nat)(i:Nat):(gz x w i).length=x.length:=by simp[gz]
theorem yJ{x:List Iv}{w:List Nat}{i j:Nat}(hj:j<x.length):(gz x w i).getD j dV=if j<i then yI (x.getD j dV) (w.getD j 0)else x.getD j dV:=by
 simp[gz,aF,hj]
theorem uL{x:List Iv}{w:List Nat}{i:Nat}(hj:i<x.length):(gz x w i).getD i dV=x.getD i dV:=by rw[yJ hj,aB (Nat.lt_irrefl i)]
theorem OO(x:List Iv)(w:List Nat):gz x w 0=x:=by
 apply List.ext_getElem (wE x w 0);intro i h1 h2;have:=yJ (w:=w) (i:=0) h2;rw[aB (aV i),aF,aF,aM h1,aM h2]at this;exact this
theorem OK{x:List Iv}{w:List Nat}{i j:Nat}(hj:j<x.length)(fK:j≠i):(gz x w (i+1)).getD j dV=(gz x w i).getD j dV:=by
 rw[yJ hj,yJ hj];by_cases h:j<i
 .rw [aC h,aC ae]
 .rw [aB h,aB ae]
theorem ON{x:List Iv}{w:List Nat}{i:Nat}(hj:i<x.length):(gz x w (i+1)).getD i dV=yI (x.getD i dV) (w.getD i 0):=by rw[yJ hj,aC ae]
theorem DL{T n n' i:Nat}{x:List Iv}{w:List Nat}(hn:n=x.length)(pG:n'=x.length)(hi:i<x.length)(ha:(x.getD i dV).all=false)(he:w.getD i 0%2=0):
 Bx.le (.row true T n 7 fun i' j'=>if i'=i/\3<=j'/\j'<3+3 then(fD (x.getD i dV).lo).getD (j'-3) .any else(fA (gz x w i)) i' j') (.row true T n' 7 (fA (gz x w (i+1)))):=by
 subst hn pG;refine .row rfl fun k j hk hj=>⟨.of_eq ?_,yz _ _ hj⟩
 by_cases h:k=i
 .subst h
  show _=(ev ((gz x w (k+1)).getD k dV)).getD j .any;rw[ON hk];unfold yI A5;rw[aC he];rcases(show j=0\/j=1\/j=2\/j=3\/j=4\/j=5\/j=6 by omega)with rfl|rfl|rfl|rfl|rfl|rfl|rfl
  .rw [aB ae];show(ev ((gz x w k).getD k dV)).getD 0 .any=_;rw[uL hk];rfl
  .rw [aB ae];show(ev ((gz x w k).getD k dV)).getD 1 .any=_;rw[uL hk];rfl
  .rw [aB ae];show(ev ((gz x w k).getD k dV)).getD 2 .any=_;rw[uL hk];rfl
  .simp only[true_and];rfl
  .simp only[true_and];rfl
  .simp only[true_and];rfl
  .rw [aB ae];show(ev ((gz x w k).getD k dV)).getD 6 .any=bP false;rw[uL hk];show bP (x.getD k dV).all=_;rw[ha]
 .simp only[h,false_and,aL]
  show(ev ((gz x w i).getD k dV)).getD j .any=(ev ((gz x w (i+1)).getD k dV)).getD j .any;rw[OK hk h]
theorem OM{T n n' i:Nat}{x:List Iv}{w:List Nat}(hn:n=x.length)(pG:n'=x.length)(hi:i<x.length)(he:¬w.getD i 0%2=0):
 Bx.le (.row true T n 7 fun i' j'=>if i'=i/\0<=j'/\j'<0+7 then(ev (gi (jP (x.getD i dV) 60))).getD (j'-0) .any else(fA (gz x w i)) i' j') (.row true T n' 7 (fA (gz x w (i+1)))):=by
 subst hn pG;refine .row rfl fun k j hk hj=>⟨.of_eq ?_,yz _ _ hj⟩
 by_cases h:k=i
 .subst h
  show _=(ev ((gz x w (k+1)).getD k dV)).getD j .any;rw[ON hk,aC ⟨rfl,bq _, ae⟩];unfold yI;rw[aB he,dw]
 .simp only[h,false_and,aL]
  show(ev ((gz x w i).getD k dV)).getD j .any=(ev ((gz x w (i+1)).getD k dV)).getD j .any;rw[OK hk h]
theorem R5{x:Iv}(hx:x.Valid)(ha:x.all=false)(k:Nat):(yI x k).Valid/\(yI x k).all=false/\Fp.Sub (yI x k) x:=by
 unfold yI;split
 .exact aaJ hx ha
 .obtain ⟨m1,m2,m3⟩:=Ie (p:=60) hx ha
  exact⟨pP m1,rfl,.inr ⟨rfl,(ke _ _).1 m2,(ke _ _).1 m3⟩⟩
theorem OL{x:List Iv}{n:Nat}(w:List Nat)(hx:gR n x):gR n (gz x w x.length)/\iU (gz x w x.length) x:=by
 have e:∀ i,i<x.length->(gz x w x.length).getD i dV=yI (x.getD i dV) (w.getD i 0):=fun i hi=>by rw[yJ hi,aC hi]
 refine⟨⟨by rw[wE,hx.len],fun i hi=>?_⟩,iU.of (wE _ _ _) fun i hi=>?_⟩
 .rw [wE]at hi
  rw[e i hi];obtain⟨a,b,_⟩:=R5 (hx.ok i hi).1 (hx.ok i hi).2 (w.getD i 0);exact⟨a,b⟩
 .rw [wE]at hi
  rw[e i hi];exact(R5 (hx.ok i hi).1 (hx.ok i hi).2 (w.getD i 0)).2.2
theorem Yg:P2 (-1)*2=1:=by
 have h:=lG (-1) 1;rw[show(-1:Int)+1=0 by decide,Ca,show(1:Int)=((1:Nat):Int)from rfl,rI]at h;have e:((2^1:Nat):Rat)=2:= ai ;rw[e]at h;exact h.symm
theorem Yf{d:Dy}(hs:0<d.sign)(he:ng d (-1)=0):(kf d (-1)).Valid/\0<=(kf d (-1)).q/\0<(kf d (-1)).sign/\(kf d (-1)).q<=d.q:=by
 have hq:=(kp d).1.1 hs;have e:(kf d (-1)).q=d.q*P2 (-1):=by
  rw[QL he,mQ,lW,lG];split<;>grind
 have h2:=Yg;have h3:=jr (-1);have h4:0<d.q*P2 (-1):=de hq h3;have h5:d.q*P2 (-1)*2=d.q:=by rw[dB,h2,Rat.mul_one]
 refine⟨BH _ _,by rw[e];exact aZ h4,?_,by rw[e];grind⟩;rw[(kp _).1,e];exact h4
def rC(s:fF):Bool:=decide (0<=s.ins/\s.ins<=8/\s.ops.length<=200/\s.outs.length<=200)&&(Ed s&&rA s)
def xJ(o:jt):Bool:=decide (9<=o.kind/\o.kind<=13)
def sA(s:fF):Bool:=((List.range s.ops.length).all fun i=>!xJ (s.ops.getD i eG))&&rC s
theorem Qf{s:fF}(h:sA s=true)(hv:kU s.v):zo s.v.tape:=by
 unfold sA at h;rw[aX]at h;intro i;by_cases hi:i<s.ops.length
 .have h1:=bg.1 h.1 i (bt.2 hi)
  have e:s.v.tape.ops.getD i fc=(s.ops.getD i eG).v:=by
   show(s.ops.map jt.v).getD i fc=_;simp[aF,hi]
  have h2:=(hv.tape.op i (by show i<(s.ops.map jt.v).length;rw[bX];exact hi)).yB;rw[e]at h2 ⊢;change (s.ops.getD i eG).kind.toNat<=13 at h2;show(s.ops.getD i eG).kind.toNat<=8;unfold xJ at h1;simp only[dJ,decide_eq_false_iff_not]at h1;omega
 .have e:s.v.tape.ops.getD i fc=fc:=by
   show(s.ops.map jt.v).getD i fc=_;rw[aF,bu (by rw[bX];omega)];rfl
  rw[e];decide
noncomputable def yg(s:fF)(x:List RI)(d:RD)(b:List RI)(p:Int):Bool:=kK s x d p&&(oV s.eI b&&oF s.v (x.map RI.iv) d.dy (b.map RI.iv) p.toNat)
theorem KE{n:Int}{b:List RI}(gb:∀ i,(b.getD i gQ).Good)(h:oV n b=true):gR n.toNat (b.map RI.iv)/\gO b=dY (b.map RI.iv):=by
 unfold oV at h;rw[aX,bF]at h;obtain⟨b1,b2⟩:=h;have pa:∀ i,i<b.length->(b.getD i gQ).Ok/\(b.getD i gQ).all=false:=fun i hi=>by
  have:=bg.1 b2 i (bt.2 hi);unfold kP at this;rw[aX]at this;exact⟨tD.1 this.1,by simpa using this.2⟩
 have at_:∀ i,i<b.length->(b.map RI.iv).getD i dV=(b.getD i gQ).iv:=fun i hi=>by simp[aF,hi]
 refine⟨⟨by rw[bX];omega,fun i hi=>?_⟩,?_⟩
 .have hi:i<b.length:=by simpa using hi
  rw[at_ i hi];exact⟨(pa i hi).1.valid,(pa i hi).2⟩
 .rw [<-Hu]
  congr 1;apply agN;intro i;unfold uV;rw[bL,bL];by_cases hi:i<b.length
  .have h1:=(pa i hi).1
   have g1:=gb i;rw[aM hi];rw[aF,aM hi]at h1 g1;exact congrArg some (RI.Ok.eq (x:=b[i]) h1 g1).symm
  .rw [bu ae];rfl
open Go.RowKit Fp Pu
def RQ(s:fF)(N:Nat)(x:Nat):PS:=⟨70,true,[(3,.e (iP x)),(1,.box 1 0)],[(1,.cells 25 [(iP s.ins),(fZ s.ops),(gl s.outs)])]⟩
def RN(s:fF)(x:Nat):PS:=⟨70,true,[(3,.e (iP x)),(1,.box 1 0)],[(1,.cells 25 [(iP s.ins),(fZ s.ops),(gl s.outs)])]⟩
def RR(s:fF)(N:Nat)(x:Nat):PS:=⟨70,true,[(4,.e (iP x)),(1,.box 1 0)],[(1,.cells 25 [(iP s.ins),(fZ s.ops),(gl s.outs)])]⟩
def RO(s:fF)(x:Nat):PS:=⟨70,true,[(3,.e (iP x)),(1,.box 1 0)],[(1,.cells 25 [(iP s.ins),(fZ s.ops),(gl s.outs)])]⟩
def RS(s:fF)(N:Nat)(x:Nat):PS:=⟨70,true,[(4,.e (iP x)),(1,.box 1 0)],[(1,.cells 25 [(iP s.ins),(fZ s.ops),(gl s.outs)])]⟩
def RP(s:fF)(x:Nat):PS:=⟨70,true,[(3,.e (iP x)),(1,.box 1 0)],[(1,.cells 25 [(iP s.ins),(fZ s.ops),(gl s.outs)])]⟩
def RT(s:fF)(x:Nat):PS:=⟨70,true,[(4,.e (iP x)),(1,.box 1 0)],[(1,.cells 25 [(iP s.ins),(fZ s.ops),(gl s.outs)])]⟩
def Qc(s:fF)(N:Nat)(x:Nat):PS:=⟨38,true,[(3,.e (iP x)),(1,.box 1 0)],[(1,.cells 25 [(iP s.ins),(fZ s.ops),(gl s.outs)])]⟩
def P8(s:fF)(N:Nat)(x:Nat):PS:=⟨38,true,[(3,.e (iP x)),(1,.box 1 0)],[(1,.cells 25 [(iP s.ins),(fZ s.ops),(gl s.outs)])]⟩
def P9(s:fF)(N:Nat)(x:Nat):PS:=⟨38,true,[(3,.e (iP x)),(1,.box 1 0)],[(1,.cells 25 [(iP s.ins),(fZ s.ops),(gl s.outs)])]⟩
def Qa(s:fF)(N:Nat)(x:Nat):PS:=⟨38,true,[(3,.e (iP x)),(1,.box 1 0)],[(1,.cells 25 [(iP s.ins),(fZ s.ops),(gl s.outs)])]⟩
def Qb(s:fF)(N:Nat)(x:Nat):PS:=⟨38,true,[(3,.e (iP x)),(1,.box 1 0)],[(1,.cells 25 [(iP s.ins),(fZ s.ops),(gl s.outs)])]⟩
def Qd(s:fF)(x:Nat):PS:=⟨38,true,[(3,.e (iP x)),(1,.box 1 0)],[(1,.cells 25 [(iP s.ins),(fZ s.ops),(gl s.outs)])]⟩
noncomputable def Q4(s:iV)(x:List Iv)(d:Dy)(b:List Iv)(w:List Nat)(p:Nat)(i:Nat):PS:=⟨135,true,[(60,.e (iP i)),(59,.e (iP x.length)),(13,.own 57),(8,.box 8 0),(6,.box 6 0),(1,.e (dY x)),(3,.e (dY b)),(4,.e (sC w)),(5,.e (iP p))],[(57,.row true 41 x.length 7 (fA (gz x w i))),(8,.cells 31 (fD d)),(6,.cells 28 [(iP s.tape.ins),(jR s.tape.ops),(jQ s.tape.outs),(iP s.eI),(dY s.params)])]⟩
noncomputable def Q5(s:iV)(x:List Iv)(d:Dy)(b:List Iv)(w:List Nat)(p:Nat)(i:Nat):PS:=⟨135,true,[(60,.e (iP i)),(59,.e (iP x.length)),(13,.own 57),(8,.box 8 0),(6,.box 6 0),(1,.e (dY x)),(3,.e (dY b)),(4,.e (sC w)),(5,.e (iP p))],[(57,.row true 41 x.length 7 (fA (gz x w i))),(8,.cells 31 (fD d)),(6,.cells 28 [(iP s.tape.ins),(jR s.tape.ops),(jQ s.tape.outs),(iP s.eI),(dY s.params)])]⟩
theorem Mk{x:List RI}(gx0:∀ y,y ∈ x->y.Good):∀ i,(x.getD i gQ).Good:=fun i=>by
 by_cases hi:i<x.length
 .rw [aF,aM hi];exact gx0 _ (bR hi)
 .rw [aF,bu ae];exact QJ
theorem E8(n d:Int):dM 184 [(.agg [(iP n),(iP d)])] (bP (decide (n=0/\d=0))):=by
 exact tr true Tryz.call184 Tryz.func184 (.w (n=0)
  (fun k1=>chain [tB 5 (ax k1)]<|rQ (bP (d==0)) (bP (decide (n=0/\d=0))) (fY (by rw[c9];simp[k1])))
  (fun k1=>chain [tB 5 (aw k1)]<|rQ (bP false) (bP (decide (n=0/\d=0))) (fY (by rw[c9];simp[k1])))) ah 
noncomputable def op19T(o:jt)(m:Int)(g:o.Good)(A B:Bool)(hA:A=(decide (0<=o.a/\o.a<m)))(hB:B=(decide (0<=o.b/\o.b<m))):Tr Tryz.prog Tb:=
  .w (o.kind=1)
  (fun k1=>chain [tB 28 (ax k1)]<|.w (o.a=0)
   (fun k2=>chain [tB 31 (ax k2)]<|.w (o.b=0)
    (fun k3=>chain [tB 35 (ax k3)]<|.w (o.n=0)
     (fun k4=>chain [tB 40 (ax k4),.c (acL o.cn o.cd)]<|rQ (bP (jb o.cn o.cd)) (bP (eP o m)) (fY (by simp_all[eP,iI]<;>(repeat' split)<;>intros<;>omega)))
     (fun k4=>chain [tB 40 (aw k4)]<|rQ (bP false) (bP (eP o m)) (fY (by simp_all[eP,iI]<;>(repeat' split)<;>intros<;>omega))))
    (fun k3=>chain [tB 35 (aw k3)]<|rQ (bP false) (bP (eP o m)) (fY (by simp_all[eP,iI]<;>(repeat' split)<;>intros<;>omega))))
   (fun k2=>chain [tB 31 (aw k2)]<|rQ (bP false) (bP (eP o m)) (fY (by simp_all[eP,iI]<;>(repeat' split)<;>intros<;>omega))))
  (fun k1=>chain [tB 28 (aw k1),.j 94 ⟨112,true,[(47,.e (bP (decide (3<=o.kind/\o.kind<=6)))),(26,.e (iP o.kind)),(6,.e (bP B)),(5,.e (bP A)),(2,.box 2 0)],[(2,.cells 99 [(iP o.kind),(iP o.a),(iP o.b),(iP o.n),(iP o.cn),(iP o.cd)])]⟩
   (.w (o.kind=3)
    (fun m1=>chain [.v 47 (.bool (ax m1))]<|.e (chain [tB 47 (mD an :true=(decide (3<=o.kind/\o.kind<=6)))]<|.nil))
    (fun m1=>chain [.v 47 (.bool (aw m1))]<|.w (o.kind=4)
     (fun m2=>chain [tB 49 (ax m2)]<|.e (chain [tB 47 (mD an :true=(decide (3<=o.kind/\o.kind<=6)))]<|.nil))
     (fun m2=>chain [tB 49 (aw m2)]<|.w (o.kind=5)
      (fun m3=>chain [tB 50 (ax m3)]<|.e (chain [tB 47 (mD an :true=(decide (3<=o.kind/\o.kind<=6)))]<|.nil))
      (fun m3=>chain [tB 50 (aw m3)]<|.e (chain [tB 47 (mD an :(o.kind==6)=(decide (3<=o.kind/\o.kind<=6)))]<|.nil)))))]<|.w (3<=o.kind/\o.kind<=6)
   (fun k2=>chain [.v 47 (.bool (aE k2))]<|.w (A=true)
    (fun k3=>chain [tB 52 (k3)]<|.w (B=true)
     (fun k4=>chain [tB 54 (k4)]<|.w (o.n=0)
      (fun k5=>chain [tB 59 (ax k5),.c (E8 o.cn o.cd)]<|rQ (bP (decide (o.cn=0/\o.cd=0))) (bP (eP o m)) (fY (by simp_all[eP,iI]<;>(repeat' split)<;>intros<;>omega)))
      (fun k5=>chain [tB 59 (aw k5)]<|rQ (bP false) (bP (eP o m)) (fY (by simp_all[eP,iI]<;>(repeat' split)<;>intros<;>omega))))
     (fun k4=>chain [tB 54 (ay k4)]<|rQ (bP false) (bP (eP o m)) (fY (by simp_all[eP,iI]<;>(repeat' split)<;>intros<;>omega))))
    (fun k3=>chain [tB 52 (ay k3)]<|rQ (bP false) (bP (eP o m)) (fY (by simp_all[eP,iI]<;>(repeat' split)<;>intros<;>omega))))
   (fun k2=>chain [.v 47 (.bool (aD k2)),.j 132 ⟨112,true,[(66,.e (bP (decide (o.kind=7\/9<=o.kind/\o.kind<=13)))),(26,.e (iP o.kind)),(5,.e (bP A)),(2,.box 2 0)],[(2,.cells 99 [(iP o.kind),(iP o.a),(iP o.b),(iP o.n),(iP o.cn),(iP o.cd)])]⟩
   (.w (o.kind=7)
    (fun m1=>chain [.v 66 (.bool (ax m1))]<|.e (chain [tB 66 (mD an :true=(decide (o.kind=7\/9<=o.kind/\o.kind<=13)))]<|.nil))
    (fun m1=>chain [.v 66 (.bool (aw m1))]<|.w (o.kind=9)
     (fun m2=>chain [tB 68 (ax m2)]<|.e (chain [tB 66 (mD an :true=(decide (o.kind=7\/9<=o.kind/\o.kind<=13)))]<|.nil))
     (fun m2=>chain [tB 68 (aw m2)]<|.w (o.kind=10)
      (fun m3=>chain [tB 69 (ax m3)]<|.e (chain [tB 66 (mD an :true=(decide (o.kind=7\/9<=o.kind/\o.kind<=13)))]<|.nil))
      (fun m3=>chain [tB 69 (aw m3)]<|.w (o.kind=11)
       (fun m4=>chain [tB 70 (ax m4)]<|.e (chain [tB 66 (mD an :true=(decide (o.kind=7\/9<=o.kind/\o.kind<=13)))]<|.nil))
       (fun m4=>chain [tB 70 (aw m4)]<|.w (o.kind=12)
        (fun m5=>chain [tB 71 (ax m5)]<|.e (chain [tB 66 (mD an :true=(decide (o.kind=7\/9<=o.kind/\o.kind<=13)))]<|.nil))
        (fun m5=>chain [tB 71 (aw m5)]<|.e (chain [tB 66 (mD an :(o.kind==13)=(decide (o.kind=7\/9<=o.kind/\o.kind<=13)))]<|.nil)))))))]<|.w (o.kind=7\/9<=o.kind/\o.kind<=13)
    (fun k3=>chain [.v 66 (.bool (aE k3))]<|.w (A=true)
     (fun k4=>chain [tB 73 (k4)]<|.w (o.b=0)
      (fun k5=>chain [tB 77 (ax k5)]<|.w (o.n=0)
       (fun k6=>chain [tB 82 (ax k6),.c (E8 o.cn o.cd)]<|rQ (bP (decide (o.cn=0/\o.cd=0))) (bP (eP o m)) (fY (by simp_all[eP,iI]<;>(repeat' split)<;>intros<;>omega)))
       (fun k6=>chain [tB 82 (aw k6)]<|rQ (bP false) (bP (eP o m)) (fY (by simp_all[eP,iI]<;>(repeat' split)<;>intros<;>omega))))
      (fun k5=>chain [tB 77 (aw k5)]<|rQ (bP false) (bP (eP o m)) (fY (by simp_all[eP,iI]<;>(repeat' split)<;>intros<;>omega))))
     (fun k4=>chain [tB 73 (ay k4)]<|rQ (bP false) (bP (eP o m)) (fY (by simp_all[eP,iI]<;>(repeat' split)<;>intros<;>omega))))
    (fun k3=>chain [.v 66 (.bool (aD k3))]<|.w (o.kind=8)
     (fun k4=>chain [tB 90 (ax k4)]<|.w (A=true)
      (fun k5=>chain [tB 91 (k5)]<|.w (o.b=0)
       (fun k6=>chain [tB 95 (ax k6)]<|.w (0<=o.n)
        (fun k7=>chain [tB 100 (aE k7)]<|.w (o.n<=16)
         (fun k8=>chain [tB 105 (aE k8),.c (E8 o.cn o.cd)]<|rQ (bP (decide (o.cn=0/\o.cd=0))) (bP (eP o m)) (fY (by simp_all[eP,iI]<;>(repeat' split)<;>intros<;>omega)))
         (fun k8=>chain [tB 105 (aD k8)]<|rQ (bP false) (bP (eP o m)) (fY (by simp_all[eP,iI]<;>(repeat' split)<;>intros<;>omega))))
        (fun k7=>chain [tB 100 (aD k7)]<|rQ (bP false) (bP (eP o m)) (fY (by simp_all[eP,iI]<;>(repeat' split)<;>intros<;>omega))))
       (fun k6=>chain [tB 95 (aw k6)]<|rQ (bP false) (bP (eP o m)) (fY (by simp_all[eP,iI]<;>(repeat' split)<;>intros<;>omega))))
      (fun k5=>chain [tB 91 (ay k5)]<|rQ (bP false) (bP (eP o m)) (fY (by simp_all[eP,iI]<;>(repeat' split)<;>intros<;>omega))))
     (fun k4=>chain [tB 90 (aw k4)]<|rQ (bP false) (bP (eP o m)) (fY (by simp_all[eP,iI]<;>(repeat' split)<;>intros<;>omega))))))
theorem Bm(o:jt)(m:Int)(g:o.Good):dM 147 [(QB o),(iP m)] (bP (eP o m)):=by
 exact tr true Tryz.call147 Tryz.func147 (.w (0<=o.a)
  (fun k1=>chain [tB 9 (aE k1)]<|.w (0<=o.b)
   (fun k2=>chain [tB 18 (aE k2)]<|op19T o m g (decide (o.a<m)) (decide (o.b<m)) (by simp[k1]) (by simp[k2]))
   (fun k2=>chain [tB 18 (aD k2)]<|op19T o m g (decide (o.a<m)) false (by simp[k1]) (by simp[k2])))
  (fun k1=>chain [tB 9 (aD k1)]<|.w (0<=o.b)
   (fun k2=>chain [tB 18 (aE k2)]<|op19T o m g false (decide (o.b<m)) (by simp[k1]) (by simp[k2]))
   (fun k2=>chain [tB 18 (aD k2)]<|op19T o m g false false (by simp[k1]) (by simp[k2])))) ah 
theorem afA(s:fF)(g:s.Good)(sm:s.Small)(hc:¬(0<=s.ins/\s.ins<=8/\s.ops.length<=200/\s.outs.length<=200)):dM 96 [(.agg [(iP s.ins),(fZ s.ops),(gl s.outs)])] (bP false):=by
 have sp:=sm.params;have so:=sm.outs;have sq:=sm.ops;exact tr true Tryz.call96 Tryz.func96 (.w (s.ins<0)
  (fun k1=>chain [tB 7 (aE k1)]<|.nil)
  (fun k1=>chain [tB 7 (aD k1)]<|.w (8<s.ins)
   (fun k2=>chain [tB 11 (aE k2)]<|.nil)
   (fun k2=>chain [tB 11 (aD k2)]<|.w (200<(s.ops.length:Int))
    (fun k3=>chain [tB 17 (aE k3)]<|.nil)
    (fun k3=>chain [tB 17 (aD k3)]<|.w (200<(s.outs.length:Int))
     (fun k4=>chain [tB 23 (aE k4)]<|.nil)
     (fun k4=>.x ae))))) ah 
theorem afB(s:fF)(g:s.Good)(sm:s.Small)(i0:0<=s.ins)(i8:s.ins<=8)(l1:s.ops.length<=200)(l2:s.outs.length<=200)(N:Nat)(ki:N<s.ops.length)(eC:∀ k,k<N->(eP (s.ops.getD k eG) (s.ins+(k:Int)))=true)(hN:(eP (s.ops.getD N eG) (s.ins+(N:Int)))=false):dM 96 [(.agg [(iP s.ins),(fZ s.ops),(gl s.outs)])] (bP false):=by
 have sp:=sm.params;have so:=sm.outs;have sq:=sm.ops;exact tr true Tryz.call96 Tryz.func96 (chain [tF 7 (s.ins<0) ae,tF 11 (8<s.ins) ae,tF 17 (200<(s.ops.length:Int)) ae,tF 23 (200<(s.outs.length:Int)) ae,.s (Sp.upto (RQ s N) 0 N ae (fun x hx ic=>by
    have ml:=g.ops x;exact eu (chain [tT 29 ((x:Int)<(s.ops.length:Int)) ae,iX ((x:Int)) (s.ops.length) ae,eh (s.ins+(x:Int)) ae,.c (Bm (s.ops.getD x eG) (s.ins+(x:Int)) ml),tB 42 (by rw[eC x ae];rfl:(!(eP (s.ops.getD x eG) (s.ins+(x:Int))))=false),eh ((x:Int)+1) ae]<|.nil) ah)
  (fun hx=>by
    have ml:=g.ops N;exact eu (chain [tT 29 ((N:Int)<(s.ops.length:Int)) ae,iX ((N:Int)) (s.ops.length) ae,eh (s.ins+(N:Int)) ae,.c (Bm (s.ops.getD N eG) (s.ins+(N:Int)) ml),tB 42 (by rw[hN];rfl:(!(eP (s.ops.getD N eG) (s.ins+(N:Int))))=true)]<|.nil) ah) ak :fP 4 Tryz.f96 (RQ s N 0) .ret ⟨70,true,[(2,.e (bP false))],[]⟩) .nil]<|.nil) ah 
theorem afC(s:fF)(g:s.Good)(sm:s.Small)(i0:0<=s.ins)(i8:s.ins<=8)(l1:s.ops.length<=200)(l2:s.outs.length<=200)(eC:∀ k,k<s.ops.length->(eP (s.ops.getD k eG) (s.ins+(k:Int)))=true)(N:Nat)(ki:N<s.outs.length)(oG:∀ k,k<N->0<=(s.outs.getD k 0)/\(s.outs.getD k 0)<s.ins+(s.ops.length:Int))(hN:(s.outs.getD N 0)<0):dM 96 [(.agg [(iP s.ins),(fZ s.ops),(gl s.outs)])] (bP false):=by
 have sp:=sm.params;have so:=sm.outs;have sq:=sm.ops;exact tr true Tryz.call96 Tryz.func96 (chain [tF 7 (s.ins<0) ae,tF 11 (8<s.ins) ae,tF 17 (200<(s.ops.length:Int)) ae,tF 23 (200<(s.outs.length:Int)) ae,.s (Sp.upto (RN s) 0 s.ops.length ae (fun x hx ic=>by
    have ml:=g.ops x;exact eu (chain [tT 29 ((x:Int)<(s.ops.length:Int)) ae,iX ((x:Int)) (s.ops.length) ae,eh (s.ins+(x:Int)) ae,.c (Bm (s.ops.getD x eG) (s.ins+(x:Int)) ml),tB 42 (by rw[eC x ae];rfl:(!(eP (s.ops.getD x eG) (s.ins+(x:Int))))=false),eh ((x:Int)+1) ae]<|.nil) ah)
  (fun hx=>by
    exact eu (chain [tF 29 ((s.ops.length:Int)<(s.ops.length:Int)) ae]<|.nil) ah) ak :fP 4 Tryz.f96 (RN s 0) (.exit 0) ⟨70,true,[(1,.box 1 0)],[(1,.cells 25 [(iP s.ins),(fZ s.ops),(gl s.outs)])]⟩) .nil,.s (Sp.upto (RR s N) 0 N ae (fun x hx ic=>by
    have Ni:=oG x ae;exact eu (chain [tT 47 ((x:Int)<(s.outs.length:Int)) ae,iX ((x:Int)) (s.outs.length) ae,tF 55 ((s.outs.getD x 0)<0) ae,iX ((x:Int)) (s.outs.length) ae,
     eh (s.ins+(s.ops.length:Int)) ae,tF 68 ((s.ins+(s.ops.length:Int))<=(s.outs.getD x 0)) ae,eh ((x:Int)+1) ae]<|.nil) ah)
  (fun hx=>by
    exact eu (chain [tT 47 ((N:Int)<(s.outs.length:Int)) ae,iX ((N:Int)) (s.outs.length) ae,tB 55 (aE hN)]<|.nil) ah) ak :fP 9 Tryz.f96 (RR s N 0) .ret ⟨70,true,[(2,.e (bP false))],[]⟩) .nil]<|.nil) ah 
theorem afD(s:fF)(g:s.Good)(sm:s.Small)(i0:0<=s.ins)(i8:s.ins<=8)(l1:s.ops.length<=200)(l2:s.outs.length<=200)(eC:∀ k,k<s.ops.length->(eP (s.ops.getD k eG) (s.ins+(k:Int)))=true)(N:Nat)(ki:N<s.outs.length)(oG:∀ k,k<N->0<=(s.outs.getD k 0)/\(s.outs.getD k 0)<s.ins+(s.ops.length:Int))(hN:0<=(s.outs.getD N 0))(hM:s.ins+(s.ops.length:Int)<=(s.outs.getD N 0)):dM 96 [(.agg [(iP s.ins),(fZ s.ops),(gl s.outs)])] (bP false):=by
 have sp:=sm.params;have so:=sm.outs;have sq:=sm.ops;exact tr true Tryz.call96 Tryz.func96 (chain [tF 7 (s.ins<0) ae,tF 11 (8<s.ins) ae,tF 17 (200<(s.ops.length:Int)) ae,tF 23 (200<(s.outs.length:Int)) ae,.s (Sp.upto (RO s) 0 s.ops.length ae (fun x hx ic=>by
    have ml:=g.ops x;exact eu (chain [tT 29 ((x:Int)<(s.ops.length:Int)) ae,iX ((x:Int)) (s.ops.length) ae,eh (s.ins+(x:Int)) ae,.c (Bm (s.ops.getD x eG) (s.ins+(x:Int)) ml),tB 42 (by rw[eC x ae];rfl:(!(eP (s.ops.getD x eG) (s.ins+(x:Int))))=false),eh ((x:Int)+1) ae]<|.nil) ah)
  (fun hx=>by
    exact eu (chain [tF 29 ((s.ops.length:Int)<(s.ops.length:Int)) ae]<|.nil) ah) ak :fP 4 Tryz.f96 (RO s 0) (.exit 0) ⟨70,true,[(1,.box 1 0)],[(1,.cells 25 [(iP s.ins),(fZ s.ops),(gl s.outs)])]⟩) .nil,.s (Sp.upto (RS s N) 0 N ae (fun x hx ic=>by
    have Ni:=oG x ae;exact eu (chain [tT 47 ((x:Int)<(s.outs.length:Int)) ae,iX ((x:Int)) (s.outs.length) ae,tF 55 ((s.outs.getD x 0)<0) ae,iX ((x:Int)) (s.outs.length) ae,
     eh (s.ins+(s.ops.length:Int)) ae,tF 68 ((s.ins+(s.ops.length:Int))<=(s.outs.getD x 0)) ae,eh ((x:Int)+1) ae]<|.nil) ah)
  (fun hx=>by
    exact eu (chain [tT 47 ((N:Int)<(s.outs.length:Int)) ae,iX ((N:Int)) (s.outs.length) ae,tF 55 ((s.outs.getD N 0)<0) ae,iX ((N:Int)) (s.outs.length) ae,
    eh (s.ins+(s.ops.length:Int)) ae,tB 68 (aE hM)]<|.nil) ah) ak :fP 9 Tryz.f96 (RS s N 0) .ret ⟨70,true,[(2,.e (bP false))],[]⟩) .nil]<|.nil) ah 
theorem afE(s:fF)(g:s.Good)(sm:s.Small)(i0:0<=s.ins)(i8:s.ins<=8)(l1:s.ops.length<=200)(l2:s.outs.length<=200)(eC:∀ k,k<s.ops.length->(eP (s.ops.getD k eG) (s.ins+(k:Int)))=true)(oG:∀ k,k<s.outs.length->0<=(s.outs.getD k 0)/\(s.outs.getD k 0)<s.ins+(s.ops.length:Int)):dM 96 [(.agg [(iP s.ins),(fZ s.ops),(gl s.outs)])] (bP true):=by
 have sp:=sm.params;have so:=sm.outs;have sq:=sm.ops;exact tr true Tryz.call96 Tryz.func96 (chain [tF 7 (s.ins<0) ae,tF 11 (8<s.ins) ae,tF 17 (200<(s.ops.length:Int)) ae,tF 23 (200<(s.outs.length:Int)) ae,.s (Sp.upto (RP s) 0 s.ops.length ae (fun x hx ic=>by
    have ml:=g.ops x;exact eu (chain [tT 29 ((x:Int)<(s.ops.length:Int)) ae,iX ((x:Int)) (s.ops.length) ae,eh (s.ins+(x:Int)) ae,.c (Bm (s.ops.getD x eG) (s.ins+(x:Int)) ml),tB 42 (by rw[eC x ae];rfl:(!(eP (s.ops.getD x eG) (s.ins+(x:Int))))=false),eh ((x:Int)+1) ae]<|.nil) ah)
  (fun hx=>by
    exact eu (chain [tF 29 ((s.ops.length:Int)<(s.ops.length:Int)) ae]<|.nil) ah) ak :fP 4 Tryz.f96 (RP s 0) (.exit 0) ⟨70,true,[(1,.box 1 0)],[(1,.cells 25 [(iP s.ins),(fZ s.ops),(gl s.outs)])]⟩) .nil,.s (Sp.upto (RT s) 0 s.outs.length ae (fun x hx ic=>by
    have Ni:=oG x ae;exact eu (chain [tT 47 ((x:Int)<(s.outs.length:Int)) ae,iX ((x:Int)) (s.outs.length) ae,tF 55 ((s.outs.getD x 0)<0) ae,iX ((x:Int)) (s.outs.length) ae,
     eh (s.ins+(s.ops.length:Int)) ae,tF 68 ((s.ins+(s.ops.length:Int))<=(s.outs.getD x 0)) ae,eh ((x:Int)+1) ae]<|.nil) ah)
  (fun hx=>by
    exact eu (chain [tF 47 ((s.outs.length:Int)<(s.outs.length:Int)) ae]<|.nil) ah) ak :fP 9 Tryz.f96 (RT s 0) (.exit 2) ⟨70,true,[],[]⟩) .nil]<|.nil) ah 
theorem afF(s:fF)(g:s.Good)(sm:s.Small):dM 96 [(.agg [(iP s.ins),(fZ s.ops),(gl s.outs)])] (bP (rC s)):=by
 by_cases c1:0<=s.ins/\s.ins<=8/\s.ops.length<=200/\s.outs.length<=200
 rotate_left
 .rw [show rC s=false by unfold rC;rw[aD c1];rfl]
  exact afA s g sm c1
 obtain⟨i0,i8,l1,l2⟩:=c1;by_cases c2:Ed s=true
 rotate_left
 .rw [show rC s=false by unfold rC;rw[ay c2];simp]
  obtain⟨N,n1,n2,n3⟩:=Cf c2;exact afB s g sm i0 i8 l1 l2 N n1 (fun k hk=>by simpa using n3 k hk) (by simpa using n2)
 have eC:∀ k,k<s.ops.length->eP (s.ops.getD k eG) (s.ins+(k:Int))=true:=fun k hk=>bg.1 c2 k (bt.2 hk)
 by_cases c3:rA s=true
 .rw [show rC s=true by unfold rC;rw[aE (⟨i0,i8,l1,l2⟩:_/\_),c2,c3];rfl]
  exact afE s g sm i0 i8 l1 l2 eC fun k hk=>bV (bg.1 c3 k (bt.2 hk))
 .rw [show rC s=false by unfold rC;rw[ay c3];simp]
  obtain⟨N,n1,n2,n3⟩:=Cf c3;have oG:∀ k,k<N->0<=s.outs.getD k 0/\s.outs.getD k 0<s.ins+(s.ops.length:Int):=fun k hk=>by simpa[tH]using n3 k hk
  have hN:¬(0<=s.outs.getD N 0/\s.outs.getD N 0<s.ins+(s.ops.length:Int)):=fun q=>by
   rw[show tH s (s.outs.getD N 0)=true from aE q]at n2;cases n2
  by_cases h0:s.outs.getD N 0<0
  .exact afC s g sm i0 i8 l1 l2 eC N n1 oG h0
  .exact afD s g sm i0 i8 l1 l2 eC N n1 oG ae ae 
theorem acI(s:fF)(g:s.Good)(sm:s.Small)(N:Nat)(ki:N<s.ops.length)(eC:∀ k,k<N->¬(9<=(s.ops.getD k eG).kind/\(s.ops.getD k eG).kind<=13))(hN:(s.ops.getD N eG).kind=9):dM 50 [(.agg [(iP s.ins),(fZ s.ops),(gl s.outs)])] (bP false):=by
 have sp:=sm.params;have so:=sm.outs;have sq:=sm.ops;exact tr true Tryz.call50 Tryz.func50 (chain [.s (Sp.upto (Qc s N) 0 N ae (fun x hx ic=>by
    have hk:=eC x ae;exact eu (chain [tT 9 ((x:Int)<(s.ops.length:Int)) ae,iX ((x:Int)) (s.ops.length) ae,tB 19 (aw ae :((s.ops.getD x eG).kind==9)=false),tB 22 (aw ae :((s.ops.getD x eG).kind==10)=false),tB 26 (aw ae :((s.ops.getD x eG).kind==11)=false),tB 30 (aw ae :((s.ops.getD x eG).kind==12)=false),tB 34 (aw ae :((s.ops.getD x eG).kind==13)=false),eh ((x:Int)+1) ae]<|.nil) ah)
  (fun hx=>by
    exact eu (chain [tT 9 ((N:Int)<(s.ops.length:Int)) ae,iX ((N:Int)) (s.ops.length) ae,tB 19 (ax hN)]<|.nil) ah) ak :fP 2 Tryz.f50 (Qc s N 0) .ret ⟨38,true,[(2,.e (bP false))],[]⟩) .nil]<|.nil) ah 
theorem acE(s:fF)(g:s.Good)(sm:s.Small)(N:Nat)(ki:N<s.ops.length)(eC:∀ k,k<N->¬(9<=(s.ops.getD k eG).kind/\(s.ops.getD k eG).kind<=13))(hN:(s.ops.getD N eG).kind=10):dM 50 [(.agg [(iP s.ins),(fZ s.ops),(gl s.outs)])] (bP false):=by
 have sp:=sm.params;have so:=sm.outs;have sq:=sm.ops;exact tr true Tryz.call50 Tryz.func50 (chain [.s (Sp.upto (P8 s N) 0 N ae (fun x hx ic=>by
    have hk:=eC x ae;exact eu (chain [tT 9 ((x:Int)<(s.ops.length:Int)) ae,iX ((x:Int)) (s.ops.length) ae,tB 19 (aw ae :((s.ops.getD x eG).kind==9)=false),tB 22 (aw ae :((s.ops.getD x eG).kind==10)=false),tB 26 (aw ae :((s.ops.getD x eG).kind==11)=false),tB 30 (aw ae :((s.ops.getD x eG).kind==12)=false),tB 34 (aw ae :((s.ops.getD x eG).kind==13)=false),eh ((x:Int)+1) ae]<|.nil) ah)
  (fun hx=>by
    exact eu (chain [tT 9 ((N:Int)<(s.ops.length:Int)) ae,iX ((N:Int)) (s.ops.length) ae,tB 19 (aw ae :((s.ops.getD N eG).kind==9)=false),tB 22 (ax hN)]<|.nil) ah) ak :fP 2 Tryz.f50 (P8 s N 0) .ret ⟨38,true,[(2,.e (bP false))],[]⟩) .nil]<|.nil) ah 
theorem acF(s:fF)(g:s.Good)(sm:s.Small)(N:Nat)(ki:N<s.ops.length)(eC:∀ k,k<N->¬(9<=(s.ops.getD k eG).kind/\(s.ops.getD k eG).kind<=13))(hN:(s.ops.getD N eG).kind=11):dM 50 [(.agg [(iP s.ins),(fZ s.ops),(gl s.outs)])] (bP false):=by
 have sp:=sm.params;have so:=sm.outs;have sq:=sm.ops;exact tr true Tryz.call50 Tryz.func50 (chain [.s (Sp.upto (P9 s N) 0 N ae (fun x hx ic=>by
    have hk:=eC x ae;exact eu (chain [tT 9 ((x:Int)<(s.ops.length:Int)) ae,iX ((x:Int)) (s.ops.length) ae,tB 19 (aw ae :((s.ops.getD x eG).kind==9)=false),tB 22 (aw ae :((s.ops.getD x eG).kind==10)=false),tB 26 (aw ae :((s.ops.getD x eG).kind==11)=false),tB 30 (aw ae :((s.ops.getD x eG).kind==12)=false),tB 34 (aw ae :((s.ops.getD x eG).kind==13)=false),eh ((x:Int)+1) ae]<|.nil) ah)
  (fun hx=>by
    exact eu (chain [tT 9 ((N:Int)<(s.ops.length:Int)) ae,iX ((N:Int)) (s.ops.length) ae,tB 19 (aw ae :((s.ops.getD N eG).kind==9)=false),tB 22 (aw ae :((s.ops.getD N eG).kind==10)=false),tB 26 (ax hN)]<|.nil) ah) ak :fP 2 Tryz.f50 (P9 s N 0) .ret ⟨38,true,[(2,.e (bP false))],[]⟩) .nil]<|.nil) ah 
theorem acG(s:fF)(g:s.Good)(sm:s.Small)(N:Nat)(ki:N<s.ops.length)(eC:∀ k,k<N->¬(9<=(s.ops.getD k eG).kind/\(s.ops.getD k eG).kind<=13))(hN:(s.ops.getD N eG).kind=12):dM 50 [(.agg [(iP s.ins),(fZ s.ops),(gl s.outs)])] (bP false):=by
 have sp:=sm.params;have so:=sm.outs;have sq:=sm.ops;exact tr true Tryz.call50 Tryz.func50 (chain [.s (Sp.upto (Qa s N) 0 N ae (fun x hx ic=>by
    have hk:=eC x ae;exact eu (chain [tT 9 ((x:Int)<(s.ops.length:Int)) ae,iX ((x:Int)) (s.ops.length) ae,tB 19 (aw ae :((s.ops.getD x eG).kind==9)=false),tB 22 (aw ae :((s.ops.getD x eG).kind==10)=false),tB 26 (aw ae :((s.ops.getD x eG).kind==11)=false),tB 30 (aw ae :((s.ops.getD x eG).kind==12)=false),tB 34 (aw ae :((s.ops.getD x eG).kind==13)=false),eh ((x:Int)+1) ae]<|.nil) ah)
  (fun hx=>by
    exact eu (chain [tT 9 ((N:Int)<(s.ops.length:Int)) ae,iX ((N:Int)) (s.ops.length) ae,tB 19 (aw ae :((s.ops.getD N eG).kind==9)=false),tB 22 (aw ae :((s.ops.getD N eG).kind==10)=false),tB 26 (aw ae :((s.ops.getD N eG).kind==11)=false),tB 30 (ax hN)]<|.nil) ah) ak :fP 2 Tryz.f50 (Qa s N 0) .ret ⟨38,true,[(2,.e (bP false))],[]⟩) .nil]<|.nil) ah 
theorem acH(s:fF)(g:s.Good)(sm:s.Small)(N:Nat)(ki:N<s.ops.length)(eC:∀ k,k<N->¬(9<=(s.ops.getD k eG).kind/\(s.ops.getD k eG).kind<=13))(hN:(s.ops.getD N eG).kind=13):dM 50 [(.agg [(iP s.ins),(fZ s.ops),(gl s.outs)])] (bP false):=by
 have sp:=sm.params;have so:=sm.outs;have sq:=sm.ops;exact tr true Tryz.call50 Tryz.func50 (chain [.s (Sp.upto (Qb s N) 0 N ae (fun x hx ic=>by
    have hk:=eC x ae;exact eu (chain [tT 9 ((x:Int)<(s.ops.length:Int)) ae,iX ((x:Int)) (s.ops.length) ae,tB 19 (aw ae :((s.ops.getD x eG).kind==9)=false),tB 22 (aw ae :((s.ops.getD x eG).kind==10)=false),tB 26 (aw ae :((s.ops.getD x eG).kind==11)=false),tB 30 (aw ae :((s.ops.getD x eG).kind==12)=false),tB 34 (aw ae :((s.ops.getD x eG).kind==13)=false),eh ((x:Int)+1) ae]<|.nil) ah)
  (fun hx=>by
    exact eu (chain [tT 9 ((N:Int)<(s.ops.length:Int)) ae,iX ((N:Int)) (s.ops.length) ae,tB 19 (aw ae :((s.ops.getD N eG).kind==9)=false),tB 22 (aw ae :((s.ops.getD N eG).kind==10)=false),tB 26 (aw ae :((s.ops.getD N eG).kind==11)=false),tB 30 (aw ae :((s.ops.getD N eG).kind==12)=false),tB 34 (ax hN)]<|.nil) ah) ak :fP 2 Tryz.f50 (Qb s N 0) .ret ⟨38,true,[(2,.e (bP false))],[]⟩) .nil]<|.nil) ah 
theorem acJ(s:fF)(g:s.Good)(sm:s.Small)(eC:∀ k,k<s.ops.length->¬(9<=(s.ops.getD k eG).kind/\(s.ops.getD k eG).kind<=13)):dM 50 [(.agg [(iP s.ins),(fZ s.ops),(gl s.outs)])] (bP (rC s)):=by
 have sp:=sm.params;have so:=sm.outs;have sq:=sm.ops;exact tr true Tryz.call50 Tryz.func50 (chain [.s (Sp.upto (Qd s) 0 s.ops.length ae (fun x hx ic=>by
    have hk:=eC x ae;exact eu (chain [tT 9 ((x:Int)<(s.ops.length:Int)) ae,iX ((x:Int)) (s.ops.length) ae,tB 19 (aw ae :((s.ops.getD x eG).kind==9)=false),tB 22 (aw ae :((s.ops.getD x eG).kind==10)=false),tB 26 (aw ae :((s.ops.getD x eG).kind==11)=false),tB 30 (aw ae :((s.ops.getD x eG).kind==12)=false),tB 34 (aw ae :((s.ops.getD x eG).kind==13)=false),eh ((x:Int)+1) ae]<|.nil) ah)
  (fun hx=>by
    exact eu (chain [tF 9 ((s.ops.length:Int)<(s.ops.length:Int)) ae]<|.nil) ah) ak :fP 2 Tryz.f50 (Qd s 0) (.exit 0) ⟨38,true,[(1,.box 1 0)],[(1,.cells 25 [(iP s.ins),(fZ s.ops),(gl s.outs)])]⟩) .nil,.c (afF s g sm)]<|.nil) ah 
theorem acK(s:fF)(g:s.Good)(sm:s.Small):dM 50 [(.agg [(iP s.ins),(fZ s.ops),(gl s.outs)])] (bP (sA s)):=by
 unfold sA;by_cases c:((List.range s.ops.length).all fun i=>!xJ (s.ops.getD i eG))=true
 .rw [c,agT]
  exact acJ s g sm fun i hi q=>by
   have h:=bg.1 c i (bt.2 hi);rw[show xJ (s.ops.getD i eG)=true from aE q]at h;cases h
 .rw [ay c,Bool.false_and]
  obtain⟨N,n1,n2,n3⟩:=Cf c;have eC:∀ k,k<N->¬(9<=(s.ops.getD k eG).kind/\(s.ops.getD k eG).kind<=13):=fun k hk=>by simpa[xJ]using n3 k hk
  have hN:9<=(s.ops.getD N eG).kind/\(s.ops.getD N eG).kind<=13:=by simpa[xJ]using n2
  rcases(show(s.ops.getD N eG).kind=9\/(s.ops.getD N eG).kind=10\/(s.ops.getD N eG).kind=11\/(s.ops.getD N eG).kind=12\/(s.ops.getD N eG).kind=13 by omega)with h|h|h|h|h
  .exact acI s g sm N n1 eC h
  .exact acE s g sm N n1 eC h
  .exact acF s g sm N n1 eC h
  .exact acG s g sm N n1 eC h
  .exact acH s g sm N n1 eC h
theorem Hy(s:fF)(g:s.Good)(sm:s.Small):dM 16 [(jS s)] (bP (sA s)):=by
 exact tr true Tryz.call16 Tryz.func16 (chain [.c (acK s g sm)]<|.nil) ah 
theorem ZH(s:fF)(g:s.Good)(sm:s.Small)(x:List RI)(gx:∀ i,(x.getD i gQ).Good)(iA:x.length<=1000)(d:RD)(gd:d.Good)(p:Int)(b:List RI)(gb:∀ i,(b.getD i gQ).Good)(pD:b.length<=1000)(hf:kK s x d p=false):dM 13 [(jS s),(gO x),(jk d),(gO b),(iP p)] (.v (.slice none 0 0)):=by
 exact tr true Tryz.call13 Tryz.func13 (chain [.c (by rw[<-hf];exact LZ s g sm x gx iA d gd p:dM 41 [(jS s),(gO x),(jk d),(iP p)] (bP false))]<|.nil) ah 
theorem ZI(s:fF)(g:s.Good)(sm:s.Small)(x:List RI)(gx:∀ i,(x.getD i gQ).Good)(iA:x.length<=1000)(d:RD)(gd:d.Good)(p:Int)(b:List RI)(gb:∀ i,(b.getD i gQ).Good)(pD:b.length<=1000)(hf:kK s x d p=true)(xQ:oV s.eI b=false):dM 13 [(jS s),(gO x),(jk d),(gO b),(iP p)] (.v (.slice none 0 0)):=by
 exact tr true Tryz.call13 Tryz.func13 (chain [.c (by rw[<-hf];exact LZ s g sm x gx iA d gd p:dM 41 [(jS s),(gO x),(jk d),(iP p)] (bP true)),.c (by rw[<-xQ];exact E6 s b gb pD:dM 42 [(jS s),(gO b)] (bP false))]<|.nil) ah 
theorem Ng(s:fF)(x:List RI)(d:RD)(b:List RI)(p:Int)(hi:dM 13 [(jS s),(gO x),(jk d),(gO b),(iP p)] (.v (.slice none 0 0))):dM 23 [(jS s),(gO x),(jk d),(gO b),(iP p)] (bP false):=by
 exact tr true Tryz.call23 Tryz.func23 (chain [.c (hi:dM 13 [(jS s),(gO x),(jk d),(gO b),(iP p)] _),tB 20 ( ag :(decide ((0:Int)<0))=false)]<|.nil) ah 
theorem Y7(s:fF)(g:s.Good)(sm:s.Small)(x:List RI)(gx:∀ i,(x.getD i gQ).Good)(iA:x.length<=1000)(d:RD)(gd:d.Good)(p:Int)(b:List RI)(gb:∀ i,(b.getD i gQ).Good)(pD:b.length<=1000):dM 23 [(jS s),(gO x),(jk d),(gO b),(iP p)] (bP (yg s x d b p)):=by
 unfold yg;cases hf:kK s x d p with
 | false=>exact Ng s x d b p (ZH s g sm x gx iA d gd p b gb pD hf)
 | true=>
  cases xQ:oV s.eI b with
  | false=>exact Ng s x d b p (ZI s g sm x gx iA d gd p b gb pD hf xQ)
  | true=>
   obtain⟨o1,o2,o3,o4,p1,p2,e1,e2,e3⟩:=L3 g gx gd hf;obtain⟨o5,e4⟩:=KE gb xQ;rw[e1,e2,e3,e4];obtain⟨q,rfl⟩:=dL (show 0<=p by omega);exact ri s.v (x.map RI.iv) d.dy (b.map RI.iv) q o1 o2 o3 o4 o5 ae ae 
theorem aew(s:fF)(x:List RI)(d:RD)(b:List RI)(w:List Nat)(p:Int)(g:s.Good)(gx:∀ i,(x.getD i gQ).Good)(gd:d.Good)(gb:∀ i,(b.getD i gQ).Good)(hE:(¬np s=true\/¬kR x=true\/¬kR b=true\/kO d=true\/200<p)):dM 6 [(jS s),(gO x),(jk d),(gO b),(sC w),(iP p)] (bP true):=by
 exact tr true Tryz.call6 Tryz.func6 (chain [.c AW,.c (DG s)]<|.w (np s=true)
  (fun k1=>chain [tB 22 (k1),.c (tp x)]<|.w (kR x=true)
   (fun k2=>chain [tB 26 (k2),.c (tp b)]<|.w (kR b=true)
    (fun k3=>chain [tB 31 (k3),.c (yC d)]<|.w (kO d=true)
     (fun k4=>chain [tB 36 (k4)]<|.nil)
     (fun k4=>chain [tB 36 (ay k4)]<|.w (200<p)
      (fun k5=>chain [tB 40 (aE k5)]<|.nil)
      (fun k5=>.x (by rcases hE with q|q|q|q|q<;>first|contradiction|omega))))
    (fun k3=>chain [tB 31 (ay k3)]<|.nil))
   (fun k2=>chain [tB 26 (ay k2)]<|.nil))
  (fun k1=>chain [tB 22 (ay k1)]<|.nil)) ah 
theorem aez(s:fF)(x:List RI)(d:RD)(b:List RI)(w:List Nat)(p:Int)(g:s.Good)(gx:∀ i,(x.getD i gQ).Good)(gd:d.Good)(gb:∀ i,(b.getD i gQ).Good)(h1:np s=true)(h2:kR x=true)(sR:kR b=true)(h3:kO d=false)(h4:p<=200)(hr:sA s=false):dM 6 [(jS s),(gO x),(jk d),(gO b),(sC w),(iP p)] (bP true):=by
 have sm:=FX h1;have iA:x.length<=1000:=by have:=BK h2;omega
 have pD:b.length<=1000:=by have:=BK sR;omega
 exact tr true Tryz.call6 Tryz.func6 (chain [.c AW,.c (DG s),tB 23 (by rw[h1];rfl:(!(np s))=false),.c (tp x),tB 27 (by rw[h2];rfl:(!(kR x))=false),.c (tp b),tB 32 (by rw[sR];rfl:(!(kR b))=false),.c (yC d),tB 36 (h3:(kO d)=false),tF 40 (200<p) ae,.c (Hy s g sm),tB 45 (by rw[hr];rfl:(!(sA s))=true)]<|.nil) ah 
theorem aex(s:fF)(x:List RI)(d:RD)(b:List RI)(w:List Nat)(p:Int)(g:s.Good)(gx:∀ i,(x.getD i gQ).Good)(gd:d.Good)(gb:∀ i,(b.getD i gQ).Good)(h1:np s=true)(h2:kR x=true)(sR:kR b=true)(h3:kO d=false)(h4:p<=200)(hr:sA s=true)(hh:yg s x d b p=false):dM 6 [(jS s),(gO x),(jk d),(gO b),(sC w),(iP p)] (bP true):=by
 have sm:=FX h1;have iA:x.length<=1000:=by have:=BK h2;omega
 have pD:b.length<=1000:=by have:=BK sR;omega
 exact tr true Tryz.call6 Tryz.func6 (chain [.c AW,.c (DG s),tB 23 (by rw[h1];rfl:(!(np s))=false),.c (tp x),tB 27 (by rw[h2];rfl:(!(kR x))=false),.c (tp b),tB 32 (by rw[sR];rfl:(!(kR b))=false),.c (yC d),tB 36 (h3:(kO d)=false),tF 40 (200<p) ae,.c (Hy s g sm),tB 45 (by rw[hr];rfl:(!(sA s))=false),.c (Y7 s g sm x gx iA d gd p b gb pD),tB 54 (by rw[hh];rfl:(!(yg s x d b p))=true)]<|.nil) ah 
theorem aeA(s:iV)(x:List Iv)(d:Dy)(b:List Iv)(w:List Nat)(p:Nat)(h:kU s)(hx:gR s.eI x)(hd:d.Valid)(h0:0<d.sign)(hb:gR s.eI b)(dW:8<=p)(dR:p<=512)(p200:p<=200)(GB:dM 10 [gv s] (bP true))(GY:dM 11 [dY x] (bP true))(GZ:dM 11 [dY b] (bP true))(GL:dM 12 [dP d] (bP false))(GU:dM 16 [gv s] (bP true))(mO:zo s.tape)(hh:oF s x d b p=true)(he:ng d (-1)=0):dM 6 [(gv s),(dY x),(dP d),(dY b),(sC w),(iP p)] (bP true):=by
 have s1:=h.s1;have s4:=h.s4;have s7:=hx.len;have Av:=hb.len;have b1:1<=b.length:= ae ;obtain⟨k1,k2,k3⟩:=Dj.1 hh;have uE:p<=4096:= ae ;have uF:1<=p:= ae ;have r8:=AT hx uF uE k1;have vN:=r8.len;have YQ:=r8.ok;have fQ:=hb.ok;have hY:=OL w hx;have hq:=aZ ((kp d).1.1 h0);have vp:=h.params.qM;have GF:=GR hY.1 hx hb s1 vp hY.2 hd hd hq bw uF uE hh;have GG:=Nh mO hx hb s1 vp hd hq uF uE hh;obtain⟨xU,Ap,Gy,Gz⟩:=Yf h0 he;have YI:=GR hx hx hb s1 vp (iU.refl x) xU hd Ap Gz uF uE hh;exact tr true Tryz.call6 Tryz.func6 (chain [.c AW,.c (GB:dM 10 [(gv s)] _),.c (GY:dM 11 [(dY x)] _),.c (GZ:dM 11 [(dY b)] _),.c (GL:dM 12 [(dP d)] _),tF 40 (200<(p:Int)) ae,.c (GU:dM 16 [(gv s)] _),.c (by rw[<-hh];exact ri s x d b p h hx hd h0 hb dW dR:dM 23 [(gv s),(dY x),(dP d),(dY b),(iP p)] (bP true)),.cn (EX _ ae ae :w7 28 [(dY x)] true 41 x.length 7 (fA x)),.s (Sp.upto (Q4 s x d b w p) 0 x.length ae (fun i hi mN=>by
    have w1:=(hx.ok i ae).1;have wa:=(hx.ok i ae).2;by_cases c1:i<w.length
    .by_cases he:(w.getD i 0)%2=0
     .exact eu (chain [tT 61 ((i:Int)<(x.length:Int)) ae,tT 66 ((i:Int)<(w.length:Int)) ae,iX ((i:Int)) (w.length) ae,.a ( ae :0<(2:Int)),tB 73 (Bi he:(((((w.getD i 0)%2):Nat):Int)==0)=true),iX ((i:Int)) (x.length) ae,.a ( ae :i<x.length),.o 80 (.e (.of_eq (by rw[uL (show i<x.length by omega)])):PV.le (.e (dP (((gz x w i).getD i dV).lo))) (.e (dP ((x.getD i dV).lo)))),iX ((i:Int)) (x.length) ae,.a ( ae :i<x.length),
       eh ((i:Int)+1) ae]<|.e (chain [.b 57 (DL rfl rfl ae wa he:Bx.le (.row true 41 x.length 7 (fun i' j'=>if i'=i/\3<=j'/\j'<3+3 then[(bP (((x.getD i dV).lo).neg)),(dO (dN (((x.getD i dV).lo).m))),(iP (((x.getD i dV).lo).e))].getD (j'-3) .any else(fA (gz x w i)) i' j')) (.row true 41 x.length 7 (fA (gz x w (i+1)))))]<|.nil)) ah 
     .have w2:=(Ie (p:=60) w1 wa).1
      exact eu (chain [tT 61 ((i:Int)<(x.length:Int)) ae,tT 66 ((i:Int)<(w.length:Int)) ae,iX ((i:Int)) (w.length) ae,.a ( ae :0<(2:Int)),tB 73 (O6 he:(((((w.getD i 0)%2):Nat):Int)==0)=false),iX ((i:Int)) (x.length) ae,.c (P5 (x.getD i dV) 60 w1 wa ag ag),.c (uI (jP (x.getD i dV) 60) w2),
       iX ((i:Int)) (x.length) ae,.a ( ae :i<x.length),eh ((i:Int)+1) ae]<|.e (chain [.b 57 (OM rfl rfl ae he:Bx.le (.row true 41 x.length 7 (fun i' j'=>if i'=i/\0<=j'/\j'<0+7 then[(bP (((gi (jP (x.getD i dV) 60)).lo).neg)),(dO (dN (((gi (jP (x.getD i dV) 60)).lo).m))),(iP (((gi (jP (x.getD i dV) 60)).lo).e)),(bP (((gi (jP (x.getD i dV) 60)).hi).neg)),(dO (dN (((gi (jP (x.getD i dV) 60)).hi).m))),(iP (((gi (jP (x.getD i dV) 60)).hi).e)),(bP ((gi (jP (x.getD i dV) 60)).all))].getD (j'-0) .any else(fA (gz x w i)) i' j')) (.row true 41 x.length 7 (fA (gz x w (i+1)))))]<|.nil)) ah 
    .have he:(w.getD i 0)%2=0:=by rw[show(w.getD i 0)=0 by rw[aF,bu ae];rfl]
     by_cases c2:i=i
     .exact eu (chain [tT 61 ((i:Int)<(x.length:Int)) ae,tF 66 ((i:Int)<(w.length:Int)) ae,.a ( ae :0<(2:Int)),.o 72 (.int ag :PV.le (.e (.v (.int .u8 (Int.tmod 0 2)))) (.e (.v (.int .u8 0)))),tB 73 ( ag :((0:Int)==0)=true),iX ((i:Int)) (x.length) ae,.a ( ae :i<x.length),.o 80 (.e (.of_eq (by rw[uL (show i<x.length by omega)])):PV.le (.e (dP (((gz x w i).getD i dV).lo))) (.e (dP ((x.getD i dV).lo)))),iX ((i:Int)) (x.length) ae,.a ( ae :i<x.length),
       eh ((i:Int)+1) ae]<|.e (chain [.b 57 (DL rfl rfl ae wa he:Bx.le (.row true 41 x.length 7 (fun i' j'=>if i'=i/\3<=j'/\j'<3+3 then[(bP (((x.getD i dV).lo).neg)),(dO (dN (((x.getD i dV).lo).m))),(iP (((x.getD i dV).lo).e))].getD (j'-3) .any else(fA (gz x w i)) i' j')) (.row true 41 x.length 7 (fA (gz x w (i+1)))))]<|.nil)) ah 
     .exact absurd rfl c2)
  (fun hi=>by
    exact eu (chain [tF 61 ((x.length:Int)<(x.length:Int)) ae,.z 57]<|.e (chain [.o 13 (.e (wB (wE _ _ _).symm):PV.le (.e (.sl true x.length 7 (fA (gz x w x.length)))) (.e (dY (gz x w x.length))))]<|.nil)) ah) ak :fP 7 Tryz.f6 (Q4 s x d b w p 0) (.exit 0) ⟨135,true,[(13,.e (dY (gz x w x.length))),(8,.box 8 0),(6,.box 6 0),(1,.e (dY x)),(3,.e (dY b)),(5,.e (iP p))],[(8,.cells 31 (fD d)),(6,.cells 28 [(iP s.tape.ins),(jR s.tape.ops),(jQ s.tape.outs),(iP s.eI),(dY s.params)])]⟩) (chain [.b 57 (.of_eq (by rw[OO]):Bx.le (.row true 41 x.length 7 (fA x)) (.row true 41 x.length 7 (fA (gz x w 0))))]<|.nil),.c (IV d (-1) hd ag ag),.c (Dx s x d b p h hx hd h0 hb dW dR),.c (by rw[<-GF];exact ri s _ d b p h hY.1 hd h0 hb dW dR:dM 23 [(gv s),(dY (gz x w x.length)),(dP d),(dY b),(iP p)] (bP true)),tB 112 (by rw[he];rfl:((ng d (-1)) != 0)=false),.c (by rw[<-YI];exact ri s x _ b p h hx xU Gy hb dW dR:dM 23 [(gv s),(dY x),(dP (kf d (-1))),(dY b),(iP p)] (bP true)),.c (by rw[<-GG];exact ri s x d _ p h hx hd h0 r8 dW dR:dM 23 [(gv s),(dY x),(dP d),(dY (iW s x d b p)),(iP p)] (bP true)),.c (Cr (iW s x d b p) b ae ae ae af af),tB 133 (k3)]<|.nil) ah 
theorem aey(s:iV)(x:List Iv)(d:Dy)(b:List Iv)(w:List Nat)(p:Nat)(h:kU s)(hx:gR s.eI x)(hd:d.Valid)(h0:0<d.sign)(hb:gR s.eI b)(dW:8<=p)(dR:p<=512)(p200:p<=200)(GB:dM 10 [gv s] (bP true))(GY:dM 11 [dY x] (bP true))(GZ:dM 11 [dY b] (bP true))(GL:dM 12 [dP d] (bP false))(GU:dM 16 [gv s] (bP true))(mO:zo s.tape)(hh:oF s x d b p=true)(he:¬ng d (-1)=0):dM 6 [(gv s),(dY x),(dP d),(dY b),(sC w),(iP p)] (bP true):=by
 have s1:=h.s1;have s4:=h.s4;have s7:=hx.len;have Av:=hb.len;have b1:1<=b.length:= ae ;obtain⟨k1,k2,k3⟩:=Dj.1 hh;have uE:p<=4096:= ae ;have uF:1<=p:= ae ;have r8:=AT hx uF uE k1;have vN:=r8.len;have YQ:=r8.ok;have fQ:=hb.ok;have hY:=OL w hx;have hq:=aZ ((kp d).1.1 h0);have vp:=h.params.qM;have GF:=GR hY.1 hx hb s1 vp hY.2 hd hd hq bw uF uE hh;have GG:=Nh mO hx hb s1 vp hd hq uF uE hh;exact tr true Tryz.call6 Tryz.func6 (chain [.c AW,.c (GB:dM 10 [(gv s)] _),.c (GY:dM 11 [(dY x)] _),.c (GZ:dM 11 [(dY b)] _),.c (GL:dM 12 [(dP d)] _),tF 40 (200<(p:Int)) ae,.c (GU:dM 16 [(gv s)] _),.c (by rw[<-hh];exact ri s x d b p h hx hd h0 hb dW dR:dM 23 [(gv s),(dY x),(dP d),(dY b),(iP p)] (bP true)),.cn (EX _ ae ae :w7 28 [(dY x)] true 41 x.length 7 (fA x)),.s (Sp.upto (Q5 s x d b w p) 0 x.length ae (fun i hi mN=>by
    have w1:=(hx.ok i ae).1;have wa:=(hx.ok i ae).2;by_cases c1:i<w.length
    .by_cases he:(w.getD i 0)%2=0
     .exact eu (chain [tT 61 ((i:Int)<(x.length:Int)) ae,tT 66 ((i:Int)<(w.length:Int)) ae,iX ((i:Int)) (w.length) ae,.a ( ae :0<(2:Int)),tB 73 (Bi he:(((((w.getD i 0)%2):Nat):Int)==0)=true),iX ((i:Int)) (x.length) ae,.a ( ae :i<x.length),.o 80 (.e (.of_eq (by rw[uL (show i<x.length by omega)])):PV.le (.e (dP (((gz x w i).getD i dV).lo))) (.e (dP ((x.getD i dV).lo)))),iX ((i:Int)) (x.length) ae,.a ( ae :i<x.length),
       eh ((i:Int)+1) ae]<|.e (chain [.b 57 (DL rfl rfl ae wa he:Bx.le (.row true 41 x.length 7 (fun i' j'=>if i'=i/\3<=j'/\j'<3+3 then[(bP (((x.getD i dV).lo).neg)),(dO (dN (((x.getD i dV).lo).m))),(iP (((x.getD i dV).lo).e))].getD (j'-3) .any else(fA (gz x w i)) i' j')) (.row true 41 x.length 7 (fA (gz x w (i+1)))))]<|.nil)) ah 
     .have w2:=(Ie (p:=60) w1 wa).1
      exact eu (chain [tT 61 ((i:Int)<(x.length:Int)) ae,tT 66 ((i:Int)<(w.length:Int)) ae,iX ((i:Int)) (w.length) ae,.a ( ae :0<(2:Int)),tB 73 (O6 he:(((((w.getD i 0)%2):Nat):Int)==0)=false),iX ((i:Int)) (x.length) ae,.c (P5 (x.getD i dV) 60 w1 wa ag ag),.c (uI (jP (x.getD i dV) 60) w2),
       iX ((i:Int)) (x.length) ae,.a ( ae :i<x.length),eh ((i:Int)+1) ae]<|.e (chain [.b 57 (OM rfl rfl ae he:Bx.le (.row true 41 x.length 7 (fun i' j'=>if i'=i/\0<=j'/\j'<0+7 then[(bP (((gi (jP (x.getD i dV) 60)).lo).neg)),(dO (dN (((gi (jP (x.getD i dV) 60)).lo).m))),(iP (((gi (jP (x.getD i dV) 60)).lo).e)),(bP (((gi (jP (x.getD i dV) 60)).hi).neg)),(dO (dN (((gi (jP (x.getD i dV) 60)).hi).m))),(iP (((gi (jP (x.getD i dV) 60)).hi).e)),(bP ((gi (jP (x.getD i dV) 60)).all))].getD (j'-0) .any else(fA (gz x w i)) i' j')) (.row true 41 x.length 7 (fA (gz x w (i+1)))))]<|.nil)) ah 
    .have he:(w.getD i 0)%2=0:=by rw[show(w.getD i 0)=0 by rw[aF,bu ae];rfl]
     by_cases c2:i=i
     .exact eu (chain [tT 61 ((i:Int)<(x.length:Int)) ae,tF 66 ((i:Int)<(w.length:Int)) ae,.a ( ae :0<(2:Int)),.o 72 (.int ag :PV.le (.e (.v (.int .u8 (Int.tmod 0 2)))) (.e (.v (.int .u8 0)))),tB 73 ( ag :((0:Int)==0)=true),iX ((i:Int)) (x.length) ae,.a ( ae :i<x.length),.o 80 (.e (.of_eq (by rw[uL (show i<x.length by omega)])):PV.le (.e (dP (((gz x w i).getD i dV).lo))) (.e (dP ((x.getD i dV).lo)))),iX ((i:Int)) (x.length) ae,.a ( ae :i<x.length),
       eh ((i:Int)+1) ae]<|.e (chain [.b 57 (DL rfl rfl ae wa he:Bx.le (.row true 41 x.length 7 (fun i' j'=>if i'=i/\3<=j'/\j'<3+3 then[(bP (((x.getD i dV).lo).neg)),(dO (dN (((x.getD i dV).lo).m))),(iP (((x.getD i dV).lo).e))].getD (j'-3) .any else(fA (gz x w i)) i' j')) (.row true 41 x.length 7 (fA (gz x w (i+1)))))]<|.nil)) ah 
     .exact absurd rfl c2)
  (fun hi=>by
    exact eu (chain [tF 61 ((x.length:Int)<(x.length:Int)) ae,.z 57]<|.e (chain [.o 13 (.e (wB (wE _ _ _).symm):PV.le (.e (.sl true x.length 7 (fA (gz x w x.length)))) (.e (dY (gz x w x.length))))]<|.nil)) ah) ak :fP 7 Tryz.f6 (Q5 s x d b w p 0) (.exit 0) ⟨135,true,[(13,.e (dY (gz x w x.length))),(8,.box 8 0),(6,.box 6 0),(1,.e (dY x)),(3,.e (dY b)),(5,.e (iP p))],[(8,.cells 31 (fD d)),(6,.cells 28 [(iP s.tape.ins),(jR s.tape.ops),(jQ s.tape.outs),(iP s.eI),(dY s.params)])]⟩) (chain [.b 57 (.of_eq (by rw[OO]):Bx.le (.row true 41 x.length 7 (fA x)) (.row true 41 x.length 7 (fA (gz x w 0))))]<|.nil),.c (IV d (-1) hd ag ag),.c (Dx s x d b p h hx hd h0 hb dW dR),.c (by rw[<-GF];exact ri s _ d b p h hY.1 hd h0 hb dW dR:dM 23 [(gv s),(dY (gz x w x.length)),(dP d),(dY b),(iP p)] (bP true)),tB 112 (by simpa using he:((ng d (-1)) != 0)=true),.c (by rw[<-GG];exact ri s x d _ p h hx hd h0 r8 dW dR:dM 23 [(gv s),(dY x),(dP d),(dY (iW s x d b p)),(iP p)] (bP true)),.c (Cr (iW s x d b p) b ae ae ae af af),tB 133 (k3)]<|.nil) ah 
theorem aas(s:fF)(x:List RI)(d:RD)(b:List RI)(w:List Nat)(p:Int)(g:s.Good)(gx0:∀ y,y ∈ x->y.Good)(gd:d.Good)(gb0:∀ y,y ∈ b->y.Good):dM 6 [jS s,gO x,jk d,gO b,sC w,iP p] (bP true):=by
 have gx:=Mk gx0;have gb:=Mk gb0;by_cases hE:(¬np s=true\/¬kR x=true\/¬kR b=true\/kO d=true\/200<p)
 .exact aew s x d b w p g gx gd gb hE
 have h1:np s=true:=bh fun q=>hE (.inl q)
 have h2:kR x=true:=bh fun q=>hE (.inr (.inl q))
 have sR:kR b=true:=bh fun q=>hE (.inr (.inr (.inl q)))
 have h3:kO d=false:=ay fun q=>hE (.inr (.inr (.inr (.inl q))))
 have h4:p<=200:=Int.not_lt.1 fun q=>hE (.inr (.inr (.inr (.inr q))))
 cases hr:sA s with
 | false=>exact aez s x d b w p g gx gd gb h1 h2 sR h3 h4 hr
 | true=>
  cases hh:yg s x d b p with
  | false=>exact aex s x d b w p g gx gd gb h1 h2 sR h3 h4 hr hh
  | true=>
   have sm:=FX h1;unfold yg at hh;rw[aX,aX]at hh;obtain⟨hf,xQ,hh⟩:=hh;obtain⟨o1,o2,o3,o4,p1,p2,e1,e2,e3⟩:=L3 g gx gd hf;obtain⟨o5,e4⟩:=KE gb xQ;have c1:=DG s;have c2:=tp x;have c2b:=tp b;have c3:=yC d;have c4:=Hy s g sm;rw[h1,e1]at c1;rw[h2,e2]at c2;rw[sR,e4]at c2b;rw[h3,e3]at c3;rw[hr,e1]at c4;rw[e1,e2,e3,e4];obtain⟨q,rfl⟩:=dL (show 0<=p by omega);by_cases he:ng d.dy (-1)=0
   .exact aeA s.v (x.map RI.iv) d.dy (b.map RI.iv) w q o1 o2 o3 o4 o5 ae ae ae c1 c2 c2b c3 c4 (Qf hr o1) hh he
   .exact aey s.v (x.map RI.iv) d.dy (b.map RI.iv) w q o1 o2 o3 o4 o5 ae ae ae c1 c2 c2b c3 c4 (Qf hr o1) hh he
open Go.ChangeShapes Go.WideShapes Go.ChangeAt Go.RowKit Fp Pu
theorem acX{W:World}{x:RD}{cs:Array Value}(h:JQ W x cs.toList):eo ja ja W (jk x) (.agg cs):=by
 obtain⟨_,hl,h⟩:=h;have:=eo.agg (bs:=ja) (br:=ja) (w:=W) (IZ x) cs.toList (by rw[hl];rfl) (fun i p v h1 h2=>by
  have hi:i<3:=by have:=(bA.1 h2).1;omega
  obtain⟨v',h3,h4⟩:=h i hi;rw[h2]at h3;cases h3;rw[aF,h1]at h4;exact h4)
 unfold jk;exact this
open Go.ChangeShapes Go.WideShapes Go.ChangeAt Go.RowKit Fp Pu
def EK(W:World)(o:jt)(cs:List Value):Prop:=o.Good/\cs.length=6/\∀ j,j<6->∃ v,cs[j]? = some v/\eo ja ja W ((tL o).getD j .any) v
theorem aaF{α:Type}{l:List α}(h:l.length=2):∃ a b,l=[a,b]:=by
 rcases l with _|⟨a,_|⟨b,_|⟨c,l⟩⟩⟩<;>simp at h
 exact⟨a,b,rfl⟩
theorem aaG{α:Type}{l:List α}(h:l.length=5):∃ a b c d e,l=[a,b,c,d,e]:=by
 rcases l with _|⟨a,_|⟨b,_|⟨c,_|⟨d,_|⟨e,_|⟨f,l⟩⟩⟩⟩⟩⟩<;>simp at h
 exact⟨a,b,c,d,e,rfl⟩
theorem aaH{α:Type}{l:List α}(h:l.length=6):∃ a b c d e f,l=[a,b,c,d,e,f]:=by
 rcases l with _|⟨a,_|⟨b,_|⟨c,_|⟨d,_|⟨e,_|⟨f,_|⟨g,l⟩⟩⟩⟩⟩⟩⟩<;>simp at h
 exact⟨a,b,c,d,e,f,rfl⟩
section
variable {H:Type} {enc:TypeId×Value->H} {W:World} {fuel:Nat} {cs:List Value} {x:DataW H×List MemPlace}
theorem uP(h:DataW.trod enc Tryz.prog W 0 (fun _=>true) true fuel 3 cs=some x):∃ z,cs=[.int .i64 z]/\gI .i64 z:=by
 obtain⟨z,hz,_,hw⟩:=DataW.trod_int Tryz.underlying3 h;exact⟨z,hz,RZ hw⟩
theorem aby(h:DataW.trod enc Tryz.prog W 0 (fun _=>true) true fuel 97 cs=some x):∃ n d,cs=[.int .i64 n,.int .i64 d]/\gI .i64 n/\gI .i64 d:=by
 obtain⟨xs,n,rfl,rfl,hl,iA,hf⟩:=DataW.trod_struct Tryz.underlying97 h;have hC:Tryz.prog.cellsOf 97=2:= ah ;have hI:Tryz.prog.cellsOf 3=1:= ah ;rw[hC]at hl;obtain⟨c0,c1,rfl⟩:=aaF hl;have h0:=hf 0 _ rfl;have h1:=hf 1 _ rfl;simp only[agE,agF,dk]at h0 h1;simp only[hI,agG,agH,dE,agI]at h0 h1;rw[aM (by rw[iA];decide)]at h0 h1;obtain⟨z0,e0,w0⟩:=uP h0;obtain⟨z1,e1,w1⟩:=uP h1;simp at e0 e1;subst e0 e1;exact⟨z0,z1,rfl,w0,w1⟩
theorem abA(h:DataW.trod enc Tryz.prog W 0 (fun _=>true) true fuel 99 cs=some x):∃ o,EK W o cs:=by
 obtain⟨xs,n,rfl,rfl,hl,iA,hf⟩:=DataW.trod_struct Tryz.underlying99 h;have hC:Tryz.prog.cellsOf 99=6:= ah ;have hR:Tryz.prog.cellsOf 97=2:= ah ;have hI:Tryz.prog.cellsOf 3=1:= ah ;rw[hC]at hl;obtain⟨c0,c1,c2,c3,c4,c5,rfl⟩:=aaH hl;have h0:=hf 0 _ rfl;have h1:=hf 1 _ rfl;have h2:=hf 2 _ rfl;have h3:=hf 3 _ rfl;have h4:=hf 4 _ rfl;simp only[agE,agF,dk]at h0 h1 h2 h3 h4;simp only[hI,hR,agG,agH,dE,agI]at h0 h1 h2 h3 h4;rw[aM (by rw[iA];decide)]at h0 h1 h2 h3 h4;obtain⟨z0,e0,w0⟩:=uP h0;obtain⟨z1,e1,w1⟩:=uP h1;obtain⟨z2,e2,w2⟩:=uP h2;obtain⟨z3,e3,w3⟩:=uP h3;obtain⟨z4,z5,e4,w4,w5⟩:=aby h4;simp at e0 e1 e2 e3 e4;obtain⟨e4,e5⟩:=e4;subst e0 e1 e2 e3 e4 e5;refine⟨⟨z0,z1,z2,z3,z4,z5⟩,⟨w0,w1,w2,w3,w4,w5⟩,rfl,fun j hj=>?_⟩;rcases j with _|_|_|_|_|_|j
 all_goals first|exact⟨_,rfl,.v _⟩|omega
theorem adK(o:jt)(j:Nat)(hj:j<6):((tL o).getD j .any).one=true/\(((tL o).getD j .any).jj=true)/\((tL o).getD j .any).nr 2=true:=by
 rcases j with _|_|_|_|_|_|j
 all_goals first|exact⟨rfl,rfl,rfl⟩|omega
theorem abB(h:DataW.trod enc Tryz.prog W 0 (fun _=>true) true fuel 22 cs=some x):
  ∃ l v,cs=[v]/\(∀ y,y ∈ l->y.Good)/\eo ja ja W (fZ l) v:=by
 have hC:Tryz.prog.cellsOf 99=6:= ah ;rcases Deep.open_slice Tryz.underlying22 h with⟨rfl,_⟩|⟨a,len,cap,m,n,D,Pl,rfl,hb,hl,hm,nV,rfl,hx⟩
 .exact ⟨[],_,rfl,(fun y hy=>by cases hy),.sl true 0 6 _ none 0 (fun _ _=>.bool false) (aG _) ag (fun _=>rfl) (fun i j hi=>absurd hi (aV i)) (fun i j hi=>absurd hi (aV i)) (fun i j hi=>absurd hi (aV i)) (fun i j hi=>absurd hi (aV i))⟩
 .simp only[aW]at nV
  subst nV;have ex:∀ i,∃ y:jt,i<len->∃ cs',W.cells? 0 (a.add (i*6)) 6=some cs'/\EK W y cs':=by
   intro i;by_cases hi:i<len
   .obtain ⟨cs',h1,h2⟩:=hx i ae 
    rw[hC]at h1;obtain⟨y,hy⟩:=abA h2;exact⟨y,fun _=>⟨cs',h1,hy⟩⟩
   .exact ⟨eG,fun h=>absurd h hi⟩
  let X:Nat->jt:=fun i=>Classical.choose (ex i)
  have hX:∀ i,i<len->∃ cs',W.cells? 0 (a.add (i*6)) 6=some cs'/\EK W (X i) cs':=fun i=>cg (ex i)
  have hlen:((List.range len).map X).length=len:= aj ;refine⟨(List.range len).map X,_,rfl,?_,?_⟩
  .intro y hy
   obtain⟨i,hi,rfl⟩:=cB.1 hy;obtain⟨cs',_,h2⟩:=hX i (bt.1 hi);exact h2.1
  .have Aq:∀ i,i<len->((List.range len).map X).getD i eG=X i:=by
    intro i hi;rw[aF,bL,List.getElem?_range hi];rfl
   have:=I6 (W:=W) (a:=a) (len:=len) (cap:=m) (nl:=true) (fun i j=>(tL (((List.range len).map X).getD i eG)).getD j .any) hl hm (show 0<6 by decide)
    (fun i j _ hj=>let⟨h1,h2,h3⟩:=adK (((List.range len).map X).getD i eG) j hj;⟨h1,fun _=>h2,h3⟩)
    (fun i hi=>by
     obtain⟨cs',h1,h2,_,h3⟩:=hX i hi;exact⟨cs',h1,fun j hj=>by rw[Aq i hi];exact h3 j hj⟩)
   unfold fZ;rw[hlen];exact this
theorem adI:eG.Good:=by constructor<;>(show gI .i64 0;unfold gI;decide)
theorem F3{α:Type}{P:α->Prop}{l:List α}{d:α}(h:∀ y,y ∈ l->P y)(hd:P d)(i:Nat):P (l.getD i d):=by
 by_cases hi:i<l.length
 .rw [aF,aM hi];exact h _ (bR hi)
 .rw [aF,bu ae];exact hd
def JR(W:World)(s:fF)(cs:List Value):Prop:=s.Good/\cs.length=5/\∀ j,j<5->∃ v,cs[j]? = some v/\eo ja ja W ((Jh s).getD j .any) v
theorem abD(h:DataW.trod enc Tryz.prog W 0 (fun _=>true) true fuel 25 cs=some x):
 ∃ (n:Int) (ops:List jt) (outs:List Int) (v w:Value),cs=[.int .i64 n,v,w]/\gI .i64 n/\(∀ y,y ∈ ops->y.Good)/\(∀ z,z ∈ outs->gI .i64 z)/\eo ja ja W (fZ ops) v/\eo ja ja W (gl outs) w:=by
 obtain⟨xs,n,rfl,rfl,hl,iA,hf⟩:=DataW.trod_struct Tryz.underlying25 h;have hC:Tryz.prog.cellsOf 25=3:= ah ;have hI:Tryz.prog.cellsOf 3=1:= ah ;have hO:Tryz.prog.cellsOf 22=1:= ah ;have hU:Tryz.prog.cellsOf 23=1:= ah ;rw[hC]at hl;obtain⟨c0,c1,c2,rfl⟩:=On hl;have h0:=hf 0 _ rfl;have h1:=hf 1 _ rfl;have h2:=hf 2 _ rfl;simp only[agE,agF,dk]at h0 h1 h2;simp only[hI,hO,hU,agG,agH,dE,agI]at h0 h1 h2;rw[aM (by rw[iA];decide)]at h0 h1 h2;obtain⟨z0,e0,w0⟩:=uP h0;obtain⟨ops,v,e1,g1,r1⟩:=abB h1;obtain⟨outs,w,e2,g2,r2⟩:=Pz (k:=.i64) (fun _=>rfl) Tryz.underlying23 Tryz.underlying3 hI h2;simp at e0 e1 e2;subst e0 e1 e2;exact⟨z0,ops,outs,_,_,rfl,w0,g1,g2,r1,r2⟩
theorem abC(h:DataW.trod enc Tryz.prog W 0 (fun _=>true) true fuel 28 cs=some x)(ek:∀ p ∈ x.2,p.block<W.heap.size):∃ s,JR W s cs:=by
 obtain⟨xs,n,rfl,rfl,hl,iA,hf⟩:=DataW.trod_struct Tryz.underlying28 h;have hC:Tryz.prog.cellsOf 28=5:= ah ;have hT:Tryz.prog.cellsOf 25=3:= ah ;have hI:Tryz.prog.cellsOf 3=1:= ah ;have hP:Tryz.prog.cellsOf 26=1:= ah ;rw[hC]at hl;obtain⟨c0,c1,c2,c3,c4,rfl⟩:=aaG hl;have h0:=hf 0 _ rfl;have h1:=hf 1 _ rfl;have h2:=hf 2 _ rfl;simp only[agE,agF,dk]at h0 h1 h2;simp only[hT,hI,hP,agG,agH,dE,agI]at h0 h1 h2;rw[aM (by rw[iA];decide)]at h0 h1 h2;obtain⟨z0,ops,outs,v,w,e0,w0,g1,g2,r1,r2⟩:=abD h0;obtain⟨z1,e1,w1⟩:=uP h1;obtain⟨ps,u,e2,g3,r3⟩:=ID h2 (fun p hp=>ek p (agJ.2 ⟨_,bR _,hp⟩));simp at e0 e1 e2;obtain⟨e0,e0b,e0c⟩:=e0;subst e0 e0b e0c e1 e2;refine⟨⟨z0,ops,outs,z1,ps⟩,⟨w0,F3 g1 adI,F3 g2 (by unfold gI;decide),w1,F3 g3 QJ⟩,rfl,fun j hj=>?_⟩;rcases j with _|_|_|_|_|j
 .exact ⟨_,rfl,.v _⟩
 .exact ⟨_,rfl,r1⟩
 .exact ⟨_,rfl,r2⟩
 .exact ⟨_,rfl,.v _⟩
 .exact ⟨_,rfl,r3⟩
 .omega
end
theorem ae8{W:World}{x:fF}{cs:Array Value}(h:JR W x cs.toList):eo ja ja W (jS x) (.agg cs):=by
 obtain⟨_,hl,h⟩:=h;have:=eo.agg (bs:=ja) (br:=ja) (w:=W) (Jh x) cs.toList (by rw[hl];rfl) (fun i p v h1 h2=>by
  have hi:i<5:=by have:=(bA.1 h2).1;omega
  obtain⟨v',h3,h4⟩:=h i hi;rw[h2]at h3;cases h3;rw[aF,h1]at h4;exact h4)
 unfold jS;exact this
open Go.ChangeShapes Go.WideShapes Go.ChangeAt Go.RowKit Fp Pu
def V5:Value:=.agg #[.bool false,.slice none 0 0,.int .i64 0]
def V6{H:Type}:DataW H:=.agg [.lit (.bool false),.nil,.lit (.int .i64 0)]
def Wa:Value:=.agg #[.int .i64 0,.slice none 0 0,.slice none 0 0,.int .i64 0,.slice none 0 0]
def Wb{H:Type}:DataW H:=.agg [.agg [.lit (.int .i64 0),.nil,.nil],.lit (.int .i64 0),.nil]
def wL:Array Value:=#[Wa,.slice none 0 0,V5,.slice none 0 0,.slice none 0 0,.int .i64 0]
theorem afy{l:List Int}(h:∀ z,z ∈ l->gI .u8 z):DB .u8 l=sC (l.map Int.toNat):=by
 unfold DB sC;rw[bX];congr 1;funext i j;have:(l.map Int.toNat).getD i 0=(l.getD i 0).toNat:=by
  rw[aF,aF,bL];cases l[i]? <;> rfl
 rw[this];have h0:0<=l.getD i 0:=by
  rw[aF];cases hi:l[i]? with
  | none=>exact bI _
  | some z=>exact(h z (dq hi)).1
 rw[dC h0]
set_option maxRecDepth 100000 in
theorem abW(H:Type)(enc:TypeId×Value->H)(W:World)(base:Nat)(args:Array Value)(ds gs:List (DataW H))(before:List MemPlace)
 (gM:∀ (j:Nat) t v,Tryz.f6.params[j]? = some t->args[j]? = some v->Value.okWide Tryz.prog W .any base t v)
 (hW:DataW.Whole enc Tryz.prog Tryz.f6.params.toList Rows.picardSmallerSpec.vars false W args.toList ds gs before) (hL:laidMetH Tryz.prog Rows.picardSmallerRow.laid W):
 Calls Tryz.prog 6 args W fun e W'=>∃ v,e = .returned v/\Rows.picardSmallerSpec.post enc Tryz.prog Tryz.f6 false true false false W args v W':=by
 have xP:=hW;obtain⟨p,q,pA,hV,rfl,hfz,hnd⟩:=hW;have hA:DataW.TrodAll enc Tryz.prog W 0 (fun _=>true) true Tryz.f6.params.toList args.toList ds p:=pA;rw[Tryz.params6]at hA gM;obtain⟨v0,vs0,d0,ds0,p0,q0,yo,rfl,rfl,h0,pA⟩:=trodAll_cons hA;obtain⟨v1,vs1,d1,ds1,p1,q1,rfl,rfl,rfl,h1,uq⟩:=trodAll_cons pA;obtain⟨v2,vs2,d2,ds2,p2,q2,rfl,rfl,rfl,h2,XW⟩:=trodAll_cons uq;obtain⟨v3,vs3,d3,ds3,p3,q3,rfl,rfl,rfl,h3,XX⟩:=trodAll_cons XW;obtain⟨v4,vs4,d4,ds4,p4,q4,rfl,rfl,rfl,h4,XY⟩:=trodAll_cons XX;obtain⟨v5,vs5,d5,ds5,p5,q5,rfl,rfl,rfl,h5,XZ⟩:=trodAll_cons XY;obtain⟨rfl,rfl,rfl⟩:=trodAll_nil XZ;obtain rfl:args = #[v0,v1,v2,v3,v4,v5]:=by cases args;simp_all
 obtain⟨rfl,rfl⟩:=trodVars_none hV;obtain⟨cs0,rfl,agm⟩:=okWide_struct Tryz.underlying28 (gM 0 28 v0 rfl rfl);obtain⟨a1,len1,cap1,rfl⟩:=okWide_slice Tryz.underlying26 (gM 1 26 v1 rfl rfl);obtain⟨cs2,rfl,agn⟩:=okWide_struct Tryz.underlying31 (gM 2 31 v2 rfl rfl);obtain⟨a3,len3,cap3,rfl⟩:=okWide_slice Tryz.underlying26 (gM 3 26 v3 rfl rfl);obtain⟨a4,len4,cap4,rfl⟩:=okWide_slice Tryz.underlying49 (gM 4 49 v4 rfl rfl);obtain⟨x5,rfl,rfl,rfl,b5⟩:=open_int Tryz.underlying3 (gM 5 3 v5 rfl rfl) h5;have XK:=h0;obtain⟨fuel0,YA⟩:=h0;have XO:=h1;obtain⟨fuel1,xU⟩:=h1;have XQ:=h2;obtain⟨fuel2,Ap⟩:=h2;have XR:=h3;obtain⟨fuel3,Gy⟩:=h3;have XU:=h4;obtain⟨fuel4,Gz⟩:=h4;clear pA;have xZ:∀ x ∈ p0,x.block<W.heap.size:=fun x hx=>xP.lt x (by simp[hx])
 have vP:∀ x ∈ p1,x.block<W.heap.size:=fun x hx=>xP.lt x (by simp[hx])
 have Db:∀ x ∈ p2,x.block<W.heap.size:=fun x hx=>xP.lt x (by simp[hx])
 have M9:∀ x ∈ p3,x.block<W.heap.size:=fun x hx=>xP.lt x (by simp[hx])
 have YX:∀ x ∈ p4,x.block<W.heap.size:=fun x hx=>xP.lt x (by simp[hx])
 obtain⟨x0,g0⟩:=abC YA xZ;obtain⟨x1,w1,we,g1,r1⟩:=ID xU vP;obtain rfl:Value.slice a1 len1 cap1=w1:=by
  have:(Value.slice a1 len1 cap1).cells.toList=[Value.slice a1 len1 cap1]:=rfl;rw[this]at we;simpa using we
 obtain⟨x2,g2⟩:=IC Ap Db;obtain⟨x3,w3,Nv,g3,r3⟩:=ID Gy M9;obtain rfl:Value.slice a3 len3 cap3=w3:=by
  have:(Value.slice a3 len3 cap3).cells.toList=[Value.slice a3 len3 cap3]:=rfl;rw[this]at Nv;simpa using Nv
 obtain⟨x4,w4,Nw,g4,r4⟩:=Pz (k:=.u8) (fun _=>rfl) Tryz.underlying49 Tryz.underlying5 ah Gz;obtain rfl:Value.slice a4 len4 cap4=w4:=by
  have:(Value.slice a4 len4 cap4).cells.toList=[Value.slice a4 len4 cap4]:=rfl;rw[this]at Nw;simpa using Nw
 have gV:=(aas x0 x1 x2 x3 (x4.map Int.toNat) x5 g0.1 g1 g2.1 g3).run W ja [.agg cs0,.slice a1 len1 cap1,.agg cs2,.slice a3 len3 cap3,.slice a4 len4 cap4,.int .i64 x5] (afg rfl hL) (fun _ h=>h.elim) (.cons (ae8 (cs:=cs0) g0) (.cons r1 (.cons (acX (cs:=cs2) g2) (.cons r3 (.cons (by rw[<-afy g4];exact r4) (.cons (.v _) (.nil _ _ _)))))));refine gV.mono fun r W' ⟨v,hr,hb,nB⟩=>?_
 obtain rfl:=eo.gn nB;subst hr;refine⟨_,rfl,_,_,_,[],p0++(p1++(p2++(p3++(p4++([]))))),[],xP,?_,?_,rfl,hb.frame _,fun h=>by cases h⟩
 .exact trodAll_mk1 (shut_bool Tryz.underlying4 _)
 .exact ⟨p0,_,(Below.trod laidOut ah (bV ah) XK hb xZ),⟨p1,_,(Below.trod laidOut ah (bV ah) XO hb vP),⟨p2,_,(Below.trod laidOut ah (bV ah) XQ hb Db),⟨p3,_,(Below.trod laidOut ah (bV ah) XR hb M9),⟨p4,_,(Below.trod laidOut ah (bV ah) XU hb YX),trodAll_mk1 (Below.trod laidOut ah (bV ah) h5 hb (fun _ h=>by cases h)),rfl⟩,rfl⟩,rfl⟩,rfl⟩,rfl⟩
theorem abZ(os:Os):laidMet Tryz.prog Rows.picardSmallerRow.laid ((Hz os wL).forCall (fun _ _=>0) ⟨#[],wL,[]⟩).memory:=
 laidMet_of_run' 8 ah ah 
theorem ab1(os:Os){H:Type}(enc:TypeId×Value->H):∃ places,DataW.whole enc Tryz.prog ((Hz os wL).forCall (fun _ _=>0) ⟨#[],wL,[]⟩).memory Tryz.f6.params.toList Rows.picardSmallerSpec.vars false wL.toList 8=some ([Wb,.nil,V6,.nil,.nil,.lit (.int .i64 0)],[],places):=
 ⟨[], ah⟩
set_option maxRecDepth 100000 in
theorem abY(os:Os)(started:os.Started)(H:Type)(enc:TypeId×Value->H)(F:Stop.Interp):
  ReturnsInHanded {} Tryz.checked os 6 .any ((OpenSpec.ofChange Rows.picardSmallerSpec).preRow enc Tryz.prog Tryz.f6 Rows.picardSmallerRow.domain false Rows.picardSmallerRow.laid) (((OpenSpec.ofChange Rows.picardSmallerSpec).at F).post enc Tryz.prog Tryz.f6 false true false false):=by
 obtain⟨places,hx⟩:=ab1 os enc;refine returnsInHanded_of_row (C:=Tryz.checked) (s:=OpenSpec.ofChange Rows.picardSmallerSpec) own started ah Tryz.func6
  (witness_row_at (enc:=enc) (C:=Tryz.checked) false (Hz os wL) wL rfl ah ah ah 
   (OpenSpec.preRow_of_cond 8 hx ah (fun k hk=>by cases hk) ah (abZ os))) ?_
 intro W base args ds gs before gM hW _ _ _ hL _ _;exact abW H enc W base args ds gs before gM hW hL
set_option maxHeartbeats 100000000 in
theorem abX:joinedFacts Tryz.prog 6 Tryz.f6 (OpenSpec.ofChange Rows.picardSmallerSpec).bare Rows.picardSmallerRow=true:=by
 unfold joinedFacts;simp only[aX]
 and_intros<;>decide +kernel
theorem ab2:Rows.PicardSmallerSaid:=
 OpenClaim.holds_of_cond 6 Tryz.f6 rfl rfl rfl rfl rfl rfl rfl ⟨rfl,rfl,rfl,rfl,rfl⟩ rfl rfl rfl rfl rfl ah Tryz.func6 abX
  (bV ah) (by unfold Func.isWrapper;first|(rw[aC ar];kernel_rfl)|(rw[aB ar];exact⟨rfl,rfl⟩))
  (fun os started H enc _ F=>by rw[OpenClaim.pre_eq_preRow];exact abY os started H enc F)
theorem ab0 (f:FuncId) (fn:Func) (hf:Tryz.pinned.checked.prog.funcNamed "flowpipe/flowpipelaw28.PicardSmaller" = some f) (YE:Tryz.pinned.checked.prog.funcs[f]? = some fn):
 false=Tryz.pinned.checked.prog.looks []/\∀ (j:Nat) t,fn.params[j]? = some t->Tryz.pinned.checked.prog.wantsStandIn t=false:=by
 obtain rfl:f=6:=Option.some.inj ((show Tryz.prog.funcNamed "flowpipe/flowpipelaw28.PicardSmaller" = some 6 by kernel_rfl).symm.trans hf) |>.symm
 obtain rfl:fn=Tryz.f6:=(Option.some.inj (Tryz.func6.symm.trans YE)).symm;refine⟨ ah,fun j t ht=>?_⟩;rw[Tryz.params6]at ht;have:t=28\/t=26\/t=31\/t=49\/t=3:=by
  have:=cR ht;simp only[List.mem_toArray,cv,List.not_mem_nil,or_false]at this;rcases this with h|h|h|h|h|h<;>subst h<;>simp
 rcases this with rfl|rfl|rfl|rfl|rfl
 .exact (show Tryz.prog.wantsStandIn 28=false by kernel_rfl)
 .exact (show Tryz.prog.wantsStandIn 26=false by kernel_rfl)
 .exact (show Tryz.prog.wantsStandIn 31=false by kernel_rfl)
 .exact (show Tryz.prog.wantsStandIn 49=false by kernel_rfl)
 .exact (show Tryz.prog.wantsStandIn 3=false by kernel_rfl)
theorem psmaller_card:Rows.PicardSmallerCardSaid:=
 Claim7.holds_tied_plain_at .later [] _ _ _ _ ab2 (fun _ h=>by cases h) ah (fun _ h=>by cases h) picardSmaller_row_tie rfl ⟨rfl,rfl⟩ ah rfl ab0 (Xz WQ rfl)
end Go.Proofs.YtdgnpeddgdclhaaGreatDoor
