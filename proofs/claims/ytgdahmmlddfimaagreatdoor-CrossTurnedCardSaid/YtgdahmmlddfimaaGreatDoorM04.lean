/- Lemmas that the last file uses. -/
import Derived.Test.YtgdahmmlddfimaaGreatDoorM03
set_option linter.unusedSimpArgs false
set_option linter.unusedVariables false
set_option linter.defProp false
set_option maxHeartbeats 4000000
open Go.Proofs.Tryz
namespace Go.Proofs.YtgdahmmlddfimaaGreatDoor
open Go.RowKit Fp Pu
def Ym(t:j8)(x:Nat):PS:=⟨46,true,[(28,.e (iP x)),(27,.e (iP t.il.length)),(26,.e (mH t.il)),(1,.box 1 0)],[(1,.cells 25 [iP t.iC,mH t.il,mG t.iF])]⟩
def Yg(s:jH)(x:Nat):PS:=⟨85,true,[(31,.e (iP x)),(30,.e (iP s.tape.il.length)),(29,.e (mH s.tape.il)),(3,.box 3 0),(1,.box 1 0)],[(3,.cells 25 [iP s.tape.iC,mH s.tape.il,mG s.tape.iF]),(1,.cells 28 [iP s.tape.iC,mH s.tape.il,mG s.tape.iF,iP s.iZ,iq s.params])]⟩
noncomputable def Yk(t:j8)(xs:List Iv)(p:Nat)(x:Nat):PS:=⟨75,true,[(26,.e (iP x)),(25,.e (iP t.il.length)),(24,.e (mH t.il)),(7,.own 22),(2,.e (iP p))],[(22,.row true 39 ((jR t.il xs p x).length) 7 (jc (jR t.il xs p x)))]⟩
def Wc(k:Nat)(h1:3<=k)(h2:k<=6):ik 152 [iP k] (iP 2):=
 ak call152 func152 (ae [ai 5 ((k:Int)==1) (bh aC)]<|.w ((k:Int)=3)
  (λk1=>af [tB 7 (bj k1)])
  (λk1=>ae [tB 7 (bh k1)]<|.w ((k:Int)=4)
   (λk2=>af [tB 8 (bj k2)])
   (λk2=>ae [tB 8 (bh k2)]<|.w ((k:Int)=5)
    (λk3=>af [tB 9 (bj k3)])
    (λk3=>ae [tB 9 (bh k3)]<|.w ((k:Int)=6)
     (λk4=>af [tB 10 (bj k4)])
     (λk4=>.x aC))))) 
def Ou(k:Nat)(h1:7<=k)(h2:k<=13):ik 152 [iP k] (iP 1):=
 ak call152 func152 (ae [ai 5 ((k:Int)==1) (bh aC),ai 7 ((k:Int)==3) (bh aC),ai 8 ((k:Int)==4) (bh aC),ai 9 ((k:Int)==5) (bh aC),ai 10 ((k:Int)==6) (bh aC)]<|.w ((k:Int)=7)
  (λk1=>af [tB 12 (bj k1)])
  (λk1=>ae [tB 12 (bh k1)]<|.w ((k:Int)=8)
   (λk2=>af [tB 13 (bj k2)])
   (λk2=>ae [tB 13 (bh k2)]<|.w ((k:Int)=9)
    (λk3=>af [tB 14 (bj k3)])
    (λk3=>ae [tB 14 (bh k3)]<|.w ((k:Int)=10)
     (λk4=>af [tB 15 (bj k4)])
     (λk4=>ae [tB 15 (bh k4)]<|.w ((k:Int)=11)
      (λk5=>af [tB 16 (bj k5)])
      (λk5=>ae [tB 16 (bh k5)]<|.w ((k:Int)=12)
       (λk6=>af [tB 17 (bj k6)])
       (λk6=>ae [tB 17 (bh k6)]<|.w ((k:Int)=13)
        (λk7=>af [tB 18 (bj k7)])
        (λk7=>.x aC)))))))) 
def Wb(k:Nat)(h1:k=1):ik 152 [iP k] (iP 0):=
 ak call152 func152 (af [ah 5 ((k:Int)==1) (bj aC)]) 
def ag8{a b:Int}(h:pU a b=true):nY prog .eql 93 (.agg [iP a,iP b]) (.agg [iP 0,iP 0]) (.bool false):=by
 obtain⟨h1,h2,h3,h4⟩:=ON h;exact V7 bg bg (bB aC)
def ns.B4{o:lF}{m:Nat}(h:ns o m)(nT:o.kind≠1)(hk:o.kind<=6):3<=o.kind/\o.a<m/\o.b<m/\o.n=0/\o.cn=0/\o.cd=0:=by
 have h3:=h.k3.resolve_left nT;have ha:=h.a;have hb:=h.b;have hn:=h.n;have hc:=h.c;rw[bu nT]at ha hc;rw[bw ⟨h3,hk⟩]at hb;rw[bu aC]at hn;exact⟨h3,ha,hb,hn,hc.1,hc.2⟩
def ns.pow{o:lF}{m:Nat}(h:ns o m)(hk:o.kind=8):o.a<m/\o.b=0/\o.n<=16/\o.cn=0/\o.cd=0:=by
 have ha:=h.a;have hb:=h.b;have hn:=h.n;have hc:=h.c;rw[bu aC]at ha hb hc;rw[bw hk]at hn;exact⟨ha,hb,hn,hc.1,hc.2⟩
def ns.un{o:lF}{m:Nat}(h:ns o m)(hk:¬o.kind<=6)(wm:o.kind≠8):o.kind<=13/\o.a<m/\o.b=0/\o.n=0/\o.cn=0/\o.cd=0:=by
 have ha:=h.a;have hb:=h.b;have hn:=h.n;have hc:=h.c;rw[bu aC]at ha hb hc;rw[bu wm]at hn;exact⟨h.xw,ha,hb,hn,hc.1,hc.2⟩
def ns.num{o:lF}{m:Nat}(h:ns o m)(hk:o.kind=1):o.a=0/\o.b=0/\o.n=0/\pU o.cn o.cd=true:=by
 have ha:=h.a;have hb:=h.b;have hn:=h.n;have hc:=h.c;rw[bw hk]at ha hc;rw[bu aC]at hb hn;exact⟨ha,hb,hn,hc⟩
def ns.Dp{o:lF}{m:Nat}(h:ns o m)(hk:o.kind≠1):o.a<m:=by
 have ha:=h.a;rwa[bu hk]at ha
def ahN(o:lF)(m:Nat)(h:ns o m)(hk:o.kind=1):ik 66 [wL o,iP m] (bP true):=by
 obtain⟨h2,h3,h4,oq⟩:=h.num hk;exact ak call66 func66 (af [.c (Wb o.kind aC),ai 14 (decide ((0:Int)<0)) aE,ah 17 ((0:Int)==0) aE,.c (GW o.cn o.cd),ah 20 (pU o.cn o.cd) oq,ai 26 ((o.kind:Int)==8) (bh aC),ai 37 (decide ((0:Int)<0)) aE,ai 49 (decide ((1:Int)<0)) aE,.g (JP ⟨aC,aC,aC,aC,aC,aC⟩:nY prog .eql 107 (.agg [iP 0,iP o.a,iP o.b,iP o.n,iP 0,iP 0]) (.agg [iP 0,iP 0,iP 0,iP 0,iP 0,iP 0]) (.bool true))]) 
def ahM(o:lF)(m:Nat)(h:ns o m)(nT:o.kind≠1)(hk:o.kind<=6):ik 66 [wL o,iP m] (bP true):=by
 obtain⟨h1,h2,h3,h4,h5,h6⟩:=h.B4 nT hk;exact ak call66 func66 (af [.c (Wc o.kind aC aC),ai 14 (decide ((2:Int)<0)) aE,ai 17 ((2:Int)==0) aE,ai 26 ((o.kind:Int)==8) (bh aC),ah 37 (decide ((0:Int)<2)) aE,tF 40 ((o.a:Int)<0) aC,tF 45 ((m:Int)<=o.a) aC,ah 49 (decide ((1:Int)<2)) aE,tF 52 ((o.b:Int)<0) aC,tF 57 ((m:Int)<=o.b) aC,.g (JP ⟨aC,aC,aC,aC,aC,aC⟩:nY prog .eql 107 (.agg [iP 0,iP 0,iP 0,iP o.n,iP o.cn,iP o.cd]) (.agg [iP 0,iP 0,iP 0,iP 0,iP 0,iP 0]) (.bool true))]) 
def ahP(o:lF)(m:Nat)(h:ns o m)(hk:o.kind=8):ik 66 [wL o,iP m] (bP true):=by
 obtain⟨h2,h3,h4,h5,h6⟩:=h.pow hk;exact ak call66 func66 (af [.c (Ou o.kind aC aC),ai 14 (decide ((1:Int)<0)) aE,ai 17 ((1:Int)==0) aE,ah 26 ((o.kind:Int)==8) (bj aC),tF 29 ((o.n:Int)<0) aC,tF 33 (16<(o.n:Int)) aC,ah 37 (decide ((0:Int)<1)) aE,tF 40 ((o.a:Int)<0) aC,tF 45 ((m:Int)<=o.a) aC,ai 49 (decide ((1:Int)<1)) aE,.g (JP ⟨aC,aC,aC,aC,aC,aC⟩:nY prog .eql 107 (.agg [iP 0,iP 0,iP o.b,iP 0,iP o.cn,iP o.cd]) (.agg [iP 0,iP 0,iP 0,iP 0,iP 0,iP 0]) (.bool true))]) 
def ahQ(o:lF)(m:Nat)(h:ns o m)(hk:¬o.kind<=6)(wm:o.kind≠8):ik 66 [wL o,iP m] (bP true):=by
 obtain⟨h1,h2,h3,h4,h5,h6⟩:=h.un hk wm;exact ak call66 func66 (af [.c (Ou o.kind aC aC),ai 14 (decide ((1:Int)<0)) aE,ai 17 ((1:Int)==0) aE,ai 26 ((o.kind:Int)==8) (bh aC),ah 37 (decide ((0:Int)<1)) aE,tF 40 ((o.a:Int)<0) aC,tF 45 ((m:Int)<=o.a) aC,ai 49 (decide ((1:Int)<1)) aE,.g (JP ⟨aC,aC,aC,aC,aC,aC⟩:nY prog .eql 107 (.agg [iP 0,iP 0,iP o.b,iP o.n,iP o.cn,iP o.cd]) (.agg [iP 0,iP 0,iP 0,iP 0,iP 0,iP 0]) (.bool true))]) 
def akg(o:lF)(m:Nat)(h:ns o m)(hk:o.kind=1):ik 178 [wL o,iP m] (bP true):=by
 obtain⟨h2,h3,h4,oq⟩:=h.num hk;exact ak call178 func178 (af [tF 8 ((o.a:Int)<0) aC,tF 12 ((o.b:Int)<0) aC,.g (ag8 oq:nY prog .eql 93 (.agg [iP o.cn,iP o.cd]) (.agg [iP 0,iP 0]) (.bool false)),ah 21 ((o.kind:Int)==1) (bj aC),.c (GW o.cn o.cd),ah 24 (pU o.cn o.cd) oq,ah 28 ((o.a:Int)==0) (bj aC),ah 33 ((o.b:Int)==0) (bj aC),ah 38 ((o.n:Int)==0) (bj aC)]) 
def akf(o:lF)(m:Nat)(h:ns o m)(nT:o.kind≠1)(hk:o.kind<=6):ik 178 [wL o,iP m] (bP true):=by
 obtain⟨h1,h2,h3,h4,h5,h6⟩:=h.B4 nT hk;exact ak call178 func178 (ae [tF 8 ((o.a:Int)<0) aC,tF 12 ((o.b:Int)<0) aC,.g (Oo ⟨aC,aC⟩:nY prog .eql 93 (.agg [iP o.cn,iP o.cd]) (.agg [iP 0,iP 0]) (.bool true)),ai 21 ((o.kind:Int)==1) (bh aC)]<|.w ((o.kind:Int)=3)
  (λk1=>af [tB 41 (bj k1),tT 50 ((o.a:Int)<m) aC,tT 56 ((o.b:Int)<m) aC,ah 61 ((o.n:Int)==0) (bj aC)])
  (λk1=>ae [tB 41 (bh k1)]<|.w ((o.kind:Int)=4)
   (λk2=>af [tB 42 (bj k2),tT 50 ((o.a:Int)<m) aC,tT 56 ((o.b:Int)<m) aC,ah 61 ((o.n:Int)==0) (bj aC)])
   (λk2=>ae [tB 42 (bh k2)]<|.w ((o.kind:Int)=5)
    (λk3=>af [tB 43 (bj k3),tT 50 ((o.a:Int)<m) aC,tT 56 ((o.b:Int)<m) aC,ah 61 ((o.n:Int)==0) (bj aC)])
    (λk3=>ae [tB 43 (bh k3)]<|.w ((o.kind:Int)=6)
     (λk4=>af [tB 44 (bj k4),tT 50 ((o.a:Int)<m) aC,tT 56 ((o.b:Int)<m) aC,ah 61 ((o.n:Int)==0) (bj aC)])
     (λk4=>.x aC))))) 
def aki(o:lF)(m:Nat)(h:ns o m)(hk:o.kind=8):ik 178 [wL o,iP m] (bP true):=by
 obtain⟨h2,h3,h4,h5,h6⟩:=h.pow hk;exact ak call178 func178 (af [tF 8 ((o.a:Int)<0) aC,tF 12 ((o.b:Int)<0) aC,.g (Oo ⟨aC,aC⟩:nY prog .eql 93 (.agg [iP o.cn,iP o.cd]) (.agg [iP 0,iP 0]) (.bool true)),ai 21 ((o.kind:Int)==1) (bh aC),ai 41 ((o.kind:Int)==3) (bh aC),ai 42 ((o.kind:Int)==4) (bh aC),ai 43 ((o.kind:Int)==5) (bh aC),ai 44 ((o.kind:Int)==6) (bh aC),ah 64 ((o.kind:Int)==8) (bj aC),tT 70 ((o.a:Int)<m) aC,ah 75 ((o.b:Int)==0) (bj aC),tT 80 (0<=(o.n:Int)) aC,tT 85 ((o.n:Int)<=16) aC]) 
def akj(o:lF)(m:Nat)(h:ns o m)(hk:¬o.kind<=6)(wm:o.kind≠8):ik 178 [wL o,iP m] (bP true):=by
 obtain⟨h1,h2,h3,h4,h5,h6⟩:=h.un hk wm;exact ak call178 func178 (ae [tF 8 ((o.a:Int)<0) aC,tF 12 ((o.b:Int)<0) aC,.g (Oo ⟨aC,aC⟩:nY prog .eql 93 (.agg [iP o.cn,iP o.cd]) (.agg [iP 0,iP 0]) (.bool true)),ai 21 ((o.kind:Int)==1) (bh aC),ai 41 ((o.kind:Int)==3) (bh aC),ai 42 ((o.kind:Int)==4) (bh aC),ai 43 ((o.kind:Int)==5) (bh aC),ai 44 ((o.kind:Int)==6) (bh aC),ai 64 ((o.kind:Int)==8) (bh aC)]<|.w ((o.kind:Int)=7)
  (λk1=>af [tB 88 (bj k1),tT 99 ((o.a:Int)<m) aC,ah 104 ((o.b:Int)==0) (bj aC),ah 109 ((o.n:Int)==0) (bj aC)])
  (λk1=>ae [tB 88 (bh k1)]<|.w ((o.kind:Int)=9)
   (λk2=>af [tB 89 (bj k2),tT 99 ((o.a:Int)<m) aC,ah 104 ((o.b:Int)==0) (bj aC),ah 109 ((o.n:Int)==0) (bj aC)])
   (λk2=>ae [tB 89 (bh k2)]<|.w ((o.kind:Int)=10)
    (λk3=>af [tB 90 (bj k3),tT 99 ((o.a:Int)<m) aC,ah 104 ((o.b:Int)==0) (bj aC),ah 109 ((o.n:Int)==0) (bj aC)])
    (λk3=>ae [tB 90 (bh k3)]<|.w ((o.kind:Int)=11)
     (λk4=>af [tB 91 (bj k4),tT 99 ((o.a:Int)<m) aC,ah 104 ((o.b:Int)==0) (bj aC),ah 109 ((o.n:Int)==0) (bj aC)])
     (λk4=>ae [tB 91 (bh k4)]<|.w ((o.kind:Int)=12)
      (λk5=>af [tB 92 (bj k5),tT 99 ((o.a:Int)<m) aC,ah 104 ((o.b:Int)==0) (bj aC),ah 109 ((o.n:Int)==0) (bj aC)])
      (λk5=>ae [tB 92 (bh k5)]<|.w ((o.kind:Int)=13)
       (λk6=>af [tB 93 (bj k6),tT 99 ((o.a:Int)<m) aC,ah 104 ((o.b:Int)==0) (bj aC),ah 109 ((o.n:Int)==0) (bj aC)])
       (λk6=>.x aC))))))) 
def ahO(o:lF)(m:Nat)(h:ns o m):ik 66 [wL o,iP (m:Int)] (bP true):=by
 by_cases nT:o.kind=1
 .exact ahN o m h nT
 by_cases hk:o.kind<=6
 .exact ahM o m h nT hk
 .by_cases wm:o.kind=8
  .exact ahP o m h wm
  .exact ahQ o m h hk wm
def akh(o:lF)(m:Nat)(h:ns o m):ik 178 [wL o,iP (m:Int)] (bP true):=by
 by_cases nT:o.kind=1
 .exact akg o m h nT
 by_cases hk:o.kind<=6
 .exact akf o m h nT hk
 .by_cases wm:o.kind=8
  .exact aki o m h wm
  .exact akj o m h hk wm
def akF(t:j8)(k:Nat)(hk:k<t.iC+t.il.length)(h8:t.iC<=8)(ad5:t.il.length<=200):ik 68 [iP k,(.jC 3 λj_=>[iP t.iC,mH t.il,mG t.iF].getD j_ .any)] (bP false):=
 ak call68 func68 (af [tF 5 ((k:Int)<0) aC,iL ((t.iC:Int)+t.il.length) aC,tF 14 (((t.iC+t.il.length:Nat):Int)<=k) aC]) 
def BS(t:j8)(h:uT t):ik 12 [jJ t] (bP true):=by
 have h8:=h.iC;have D5:=h.il;have TB:=h.iF;exact ak call12 func12 (af [tF 7 ((t.iC:Int)<0) aC,tF 11 (8<(t.iC:Int)) aC,tF 17 (200<(t.il.length:Int)) aC,tF 23 (200<(t.iF.length:Int)) aC,.s (Sp.kE (Ym t) 0 t.il.length aC (λx hx nd=>by
    have iH:=h.op x aC;exact jh (af [tT 29 ((x:Int)<t.il.length) aC,iX (x:Int) (t.il.length) aC,iL ((t.iC:Int)+x) aC,ag [wL (t.il.getD x iN),iP ((t.iC+x:Nat):Int)] (ahO _ _ iH),iL ((x:Int)+1) aC]) aF)
  (λhx=>by
    exact jh (af [tF 29 ((t.il.length:Int)<t.il.length) aC]) aF) aI:kD 4 Tryz.f12 (Ym t 0) (.exit 0) ⟨46,true,[(1,.box 1 0)],[(1,.cells 25 [iP t.iC,mH t.il,mG t.iF])]⟩) .nil,.c (Nx true _ _ 68 [(.jC 3 λj_=>[iP t.iC,mH t.il,mG t.iF].getD j_ .any)] (λ_=>false) (λi hi=>akF t _ (h.out i hi) h8 D5) aC (λ_ _=>rfl):ik 67 [mG t.iF,.fn 68 [(.jC 3 λj_=>[iP t.iC,mH t.il,mG t.iF].getD j_ .any)]] _)]) 
def akl(t:j8)(k:Nat)(hk:k<t.iC+t.il.length)(h8:t.iC<=8)(ad5:t.il.length<=200):ik 179 [iP k,(.jC 3 λj_=>[iP t.iC,mH t.il,mG t.iF].getD j_ .any)] (bP false):=
 ak call179 func179 (af [tF 5 ((k:Int)<0) aC,iL ((t.iC:Int)+t.il.length) aC,tF 14 (((t.iC+t.il.length:Nat):Int)<=k) aC]) 
def akn(x:Iv)(hx:x.iy)(xa:x.all=false):ik 180 [iz x] (bP false):=by
 obtain⟨w1,w2,w3⟩:=tZ hx xa;exact ak call180 func180 (af [ai 4 x.all xa,ag [iA x.lo] (q7 _ aD),ag [iA x.hi] (q7 _ aD),ag [iA x.lo,iA x.hi] (nv _ _ aD aD),tF 23 (0<(jE x.lo x.hi)) aC]) 
def Pw(s:jH)(h:lM s):ik 105 [jD s] (bP true):=by
 have h8:=h.tape.iC;have D5:=h.tape.il;have TB:=h.tape.iF;have s1:=h.s1;have s4:=h.s4;have ho:=h.iF;have hi:=h.iC;have p4:=h.p4;exact ak call105 func105 (af [tF 10 ((s.tape.iC:Int)<0) aC,tF 14 (8<(s.tape.iC:Int)) aC,tF 20 (200<(s.tape.il.length:Int)) aC,tF 26 (200<(s.tape.iF.length:Int)) aC,.s (Sp.kE (Yg s) 0 s.tape.il.length aC (λx hx nd=>by
    have iH:=h.tape.op x aC;exact jh (af [tT 32 ((x:Int)<s.tape.il.length) aC,iX (x:Int) (s.tape.il.length) aC,iL ((s.tape.iC:Int)+x) aC,ag [wL (s.tape.il.getD x iN),iP ((s.tape.iC+x:Nat):Int)] (akh _ _ iH),iL ((x:Int)+1) aC]) aF)
  (λhx=>by
    exact jh (af [tF 32 ((s.tape.il.length:Int)<s.tape.il.length) aC]) aF) aI:kD 5 f105 (Yg s 0) (.exit 0) ⟨85,true,[(3,.box 3 0),(1,.box 1 0)],[(3,.cells 25 [iP s.tape.iC,mH s.tape.il,mG s.tape.iF]),(1,.cells 28 [iP s.tape.iC,mH s.tape.il,mG s.tape.iF,iP s.iZ,iq s.params])]⟩) .nil,.c (Nx true _ _ 179 [(.jC 3 λj_=>[iP s.tape.iC,mH s.tape.il,mG s.tape.iF].getD j_ .any)] (λ_=>false) (λi hi=>akl s.tape _ (h.tape.out i hi) h8 D5) aC (λ_ _=>rfl):ik 67 [mG s.tape.iF,.fn 179 [(.jC 3 λj_=>[iP s.tape.iC,mH s.tape.il,mG s.tape.iF].getD j_ .any)]] _),tF 50 ((s.iZ:Int)<1) aC,tF 54 (4<(s.iZ:Int)) aC,ai 62 ((s.tape.iF.length:Int) != (s.iZ:Int)) (yK aC),
  iL ((s.iZ:Int)+s.params.length) aC,ai 73 ((s.tape.iC:Int) != ((s.iZ+s.params.length:Nat):Int)) (yK aC),tF 79 (4<(s.params.length:Int)) aC,.c (NG true _ _ 180 [] (λ_=>false) (λi hi=>akn _ (h.params i hi).1 (h.params i hi).2) aC (λ_ _=>rfl):ik 53 [iq s.params,.fn 180 []] _)]) 
def Ql(o:lF)(x y:Iv)(p:Nat)(hx:x.iy)(hy:y.iy)(r1:3<=o.kind)(r2:o.kind<=13)(r3:o.n<=16)(iB:8<=p)(iw:p<=512)(hF:o.kind<=8\/uQ):ik 280 [iP o.kind,iP o.n,iz x,iz y,iP p] (iz (mU o x y p)):=
 ak call280 func280 (.w ((o.kind:Int)=3)
  (λk1=>ae [tB 13 (bj k1),.c (wG x y p aD aD aC aC)]<|rQ (iz (jO x y p)) (iz (mU o x y p)) (by unfold mU;simp[(aC:o.kind=3)]))
  (λk1=>ae [tB 13 (bh k1)]<|.w ((o.kind:Int)=4)
   (λk2=>ae [tB 19 (bj k2),.c (yD x y p aD aD aC aC)]<|rQ (iz (rm x y p)) (iz (mU o x y p)) (by unfold mU;simp[(aC:¬o.kind=3),(aC:o.kind=4)]))
   (λk2=>ae [tB 19 (bh k2)]<|.w ((o.kind:Int)=5)
    (λk3=>ae [tB 25 (bj k3),.c (uA x y p aD aD aC aC)]<|rQ (iz (iV x y p)) (iz (mU o x y p)) (by unfold mU;simp[(aC:¬o.kind=3),(aC:¬o.kind=4),(aC:o.kind=5)]))
    (λk3=>ae [tB 25 (bh k3)]<|.w ((o.kind:Int)=6)
     (λk4=>ae [tB 31 (bj k4),.c (tY x y p aD aD aC aC)]<|rQ (iz (jz x y p)) (iz (mU o x y p)) (by unfold mU;simp[(aC:¬o.kind=3),(aC:¬o.kind=4),(aC:¬o.kind=5),(aC:o.kind=6)]))
     (λk4=>ae [tB 31 (bh k4)]<|.w ((o.kind:Int)=7)
      (λk5=>ae [tB 37 (bj k5),.c (Jw x aD)]<|rQ (iz (mz x)) (iz (mU o x y p)) (by unfold mU;simp[(aC:¬o.kind=3),(aC:¬o.kind=4),(aC:¬o.kind=5),(aC:¬o.kind=6),(aC:o.kind=7)]))
      (λk5=>ae [tB 37 (bh k5)]<|.w ((o.kind:Int)=8)
       (λk6=>ae [tB 41 (bj k6),ag [iz x,iP o.n,iP p] (Fe _ _ _ aD aC aC aC)]<|rQ (iz (lk x o.n p)) (iz (mU o x y p)) (by unfold mU;simp[(aC:¬o.kind=3),(aC:¬o.kind=4),(aC:¬o.kind=5),(aC:¬o.kind=6),(aC:¬o.kind=7),(aC:o.kind=8)]))
       (λk6=>ae [tB 41 (bh k6)]<|.w ((o.kind:Int)=9)
        (λk7=>ae [tB 47 (bj k7),ag [iz x,iP p] (R8 _ aD _ aC aC (hF.resolve_left aC))]<|rQ (iz (ve x p)) (iz (mU o x y p)) (by unfold mU;simp[(aC:¬o.kind=3),(aC:¬o.kind=4),(aC:¬o.kind=5),(aC:¬o.kind=6),(aC:¬o.kind=7),(aC:¬o.kind=8),(aC:o.kind=9)]))
        (λk7=>ae [tB 47 (bh k7)]<|.w ((o.kind:Int)=10)
         (λk8=>ae [tB 52 (bj k8),ag [iz x,iP p] (R9 _ aD _ aC aC (hF.resolve_left aC))]<|rQ (iz (vf x p)) (iz (mU o x y p)) (by unfold mU;simp[(aC:¬o.kind=3),(aC:¬o.kind=4),(aC:¬o.kind=5),(aC:¬o.kind=6),(aC:¬o.kind=7),(aC:¬o.kind=8),(aC:¬o.kind=9),(aC:o.kind=10)]))
         (λk8=>ae [tB 52 (bh k8)]<|.w ((o.kind:Int)=11)
          (λk9=>ae [tB 57 (bj k9),ag [iz x,iP p] (Sa _ aD _ aC aC (hF.resolve_left aC))]<|rQ (iz (vh x p)) (iz (mU o x y p)) (by unfold mU;simp[(aC:¬o.kind=3),(aC:¬o.kind=4),(aC:¬o.kind=5),(aC:¬o.kind=6),(aC:¬o.kind=7),(aC:¬o.kind=8),(aC:¬o.kind=9),(aC:¬o.kind=10),(aC:o.kind=11)]))
          (λk9=>ae [tB 57 (bh k9)]<|.w ((o.kind:Int)=12)
           (λk10=>ae [tB 62 (bj k10),ag [iz x,iP p] (R6 _ aD _ aC aC (hF.resolve_left aC))]<|rQ (iz (vc x p)) (iz (mU o x y p)) (by unfold mU;simp[(aC:¬o.kind=3),(aC:¬o.kind=4),(aC:¬o.kind=5),(aC:¬o.kind=6),(aC:¬o.kind=7),(aC:¬o.kind=8),(aC:¬o.kind=9),(aC:¬o.kind=10),(aC:¬o.kind=11),(aC:o.kind=12)]))
           (λk10=>ae [tB 62 (bh k10)]<|.w ((o.kind:Int)=13)
            (λk11=>ae [tB 67 (bj k11),ag [iz x,iP p] (Sc _ aD _ aC aC (hF.resolve_left aC))]<|rQ (iz (pK x p)) (iz (mU o x y p)) (by unfold mU;simp[(aC:¬o.kind=3),(aC:¬o.kind=4),(aC:¬o.kind=5),(aC:¬o.kind=6),(aC:¬o.kind=7),(aC:¬o.kind=8),(aC:¬o.kind=9),(aC:¬o.kind=10),(aC:¬o.kind=11),(aC:¬o.kind=12),(aC:o.kind=13)]))
            (λk11=>.x aC)))))))))))) 
def QV{nl:Bool}{T n n' sz:Nat}{f g h:Nat->Nat->E}(hn:n=n')(hh:∀ i j,i<n->j<sz->g i j=h i j/\(h i j).nr 2=true):Bx.le (.row nl T (0+n) sz λi j=>if i<0 then f i j else g (i-0) j) (.row nl T n' sz h):=
 .row aC λi j hi hj=>by
  have nJ:i<n:= aC ;simp only[bF,bE,dP];exact⟨.jl (hh i j nJ hj).1,(hh i j nJ hj).2⟩
def Dw(r:List Iv)(h0:0<r.length)(hl:r.length<=1000):tv 63 [iq r] true 39 r.length 7 (jc r):=
 PF call63 func63 (ae [.a (aC:0<r.length),.bo,.a (aC:(0+r.length)*88<=140737488355328)]<|.rb (QV rfl λi j hi hj=>⟨rfl,s7 _ _ hj⟩:Bx.le (.row true 39 (0+r.length) 7 (λi_ j_=>if i_<0 then(λi_ j_=>([]:List E).getD (i_*7+j_) (.v (.bool false))) i_ j_ else(E.kT (iq r)) (i_-0) j_)) (.row true 39 r.length 7 (jc r)))) aF 
def PK{T n n' x:Nat}{t:j8}{xs:List Iv}{p:Nat}{y:Iv}(hn:n=(jR t.il xs p x).length)(xm:n'=(jR t.il xs p (x+1)).length)(hy:uV (t.il.getD x iN) (jR t.il xs p x) p=y):
 Bx.le (.row true T (n+[y].length) 7 λi j=>if i<n then jc (jR t.il xs p x) i j else(E.kT (iq [y])) (i-n) j) (.row true T n' 7 (jc (jR t.il xs p (x+1)))):=by
 subst xm hy;exact Jx hn
def Es{o:lF}{m:Nat}(h:ns o m):o.n<=16:=by
 have:=h.n;split at this<;>omega
def akD(t:j8)(xs:List Iv)(p:Nat)(h:uT t)(h1:1<=xs.length)(hx:xs.length=t.iC)(hv:mZ xs)(iB:8<=p)(iw:p<=512):ik 246 [jJ t,iq xs,iP p] (iq (jR t.il xs p t.il.length)):=by
 have h8:=h.iC;have D5:=h.il;exact ak call246 func246 (af [.c (BS t aD),ai 19 ((xs.length:Int) != (t.iC:Int)) (yK hx),.cn (Dw _ aC aC:tv 63 [iq xs] true 39 xs.length 7 (jc xs)),.s (Sp.kE (Yk t xs p) 0 t.il.length aC (λx hx nd=>by
    have iH:=h.op x aC;have yz:=KH t.il hv (aC:1<=p) (aC:p<=4096) x;have F1:=Hr t.il xs p x;have w1:=yz (t.il.getD x iN).a;by_cases nT:((t.il.getD x iN)).kind=1
    .have oo:((t.il.getD x iN)).kind=1:=nT;obtain⟨o1,o2,o3,oq⟩:=iH.num oo;have qe:uV (t.il.getD x iN) (jR t.il xs p x) p=(rj (t.il.getD x iN).cn (t.il.getD x iN).cd p):=by unfold uV;rw[bw oo]
     have sx:=qj (rj (t.il.getD x iN).cn (t.il.getD x iN).cd p);exact jh (ae [tT 27 ((x:Int)<t.il.length) aC,iX (x:Int) (t.il.length) aC,.c (Wb ((t.il.getD x iN).kind:Nat) aC),ah 50 ((0:Int)==0) aE,.c (Wq ((t.il.getD x iN).cn) ((t.il.getD x iN).cd) p aD aC aC),.o 71 (.e (lJ _):aj (.sl true 1 7 λi_ j_=>(iQ (rj ((t.il.getD x iN).cn) ((t.il.getD x iN).cd) p)).getD (i_*7+j_) (.v (.bool false))) (iq [rj ((t.il.getD x iN).cn) ((t.il.getD x iN).cd) p])),.a (aC:((jR t.il xs p x).length+[rj ((t.il.getD x iN).cn) ((t.il.getD x iN).cd) p].length)*88<=140737488355328),iL ((x:Int)+1) aC]<|.e (af [.b 22 (PK rfl rfl qe:Bx.le (.row true 39 ((jR t.il xs p x).length+[rj ((t.il.getD x iN).cn) ((t.il.getD x iN).cd) p].length) 7 (λi_ j_=>if i_<(jR t.il xs p x).length then(jc (jR t.il xs p x)) i_ j_ else(E.kT (iq [rj ((t.il.getD x iN).cn) ((t.il.getD x iN).cd) p])) (i_-(jR t.il xs p x).length) j_)) (.row true 39 ((jR t.il xs p (x+1)).length) 7 (jc (jR t.il xs p (x+1)))))])) aF 
    .by_cases hk:((t.il.getD x iN)).kind<=6
     .have pe:((t.il.getD x iN)).kind≠1:=nT;have oo:((t.il.getD x iN)).kind<=6:=hk;have qe:uV (t.il.getD x iN) (jR t.il xs p x) p=(mU (t.il.getD x iN) ((jR t.il xs p x).getD ((t.il.getD x iN).a) ix) ((jR t.il xs p x).getD ((t.il.getD x iN).b) ix) p):=by unfold uV xT;rw[bu pe,bA oo];rfl
      obtain⟨o1,o2,o3,o4,o5,o6⟩:=iH.B4 pe oo;have w2:=yz (t.il.getD x iN).b;have o7:=iH.xw;have sx:=qj (mU (t.il.getD x iN) ((jR t.il xs p x).getD ((t.il.getD x iN).a) ix) ((jR t.il xs p x).getD ((t.il.getD x iN).b) ix) p);exact jh (ae [tT 27 ((x:Int)<t.il.length) aC,iX (x:Int) (t.il.length) aC,.c (Wc ((t.il.getD x iN).kind:Nat) aC aC),ai 50 ((2:Int)==0) aE,ai 56 ((2:Int)==1) aE,iX ((t.il.getD x iN).a:Int) ((jR t.il xs p x).length) aC,.a (aC:(t.il.getD x iN).a<(jR t.il xs p x).length),
       iX ((t.il.getD x iN).b:Int) ((jR t.il xs p x).length) aC,.a (aC:(t.il.getD x iN).b<(jR t.il xs p x).length),ag [iP ((t.il.getD x iN).kind:Int),iP ((t.il.getD x iN).n:Int),iz ((jR t.il xs p x).getD (t.il.getD x iN).a ix),iz ((jR t.il xs p x).getD (t.il.getD x iN).b ix),iP p] (Ql (t.il.getD x iN) _ _ _ aD aD aC aC aC aC aC iH.f),.o 71 (.e (lJ _):aj (.sl true 1 7 λi_ j_=>(iQ (mU (t.il.getD x iN) ((jR t.il xs p x).getD (t.il.getD x iN).a ix) ((jR t.il xs p x).getD (t.il.getD x iN).b ix) p)).getD (i_*7+j_) (.v (.bool false))) (iq [mU (t.il.getD x iN) ((jR t.il xs p x).getD (t.il.getD x iN).a ix) ((jR t.il xs p x).getD (t.il.getD x iN).b ix) p])),.a (aC:((jR t.il xs p x).length+[mU (t.il.getD x iN) ((jR t.il xs p x).getD (t.il.getD x iN).a ix) ((jR t.il xs p x).getD (t.il.getD x iN).b ix) p].length)*88<=140737488355328),
       iL ((x:Int)+1) aC]<|.e (af [.b 22 (PK rfl rfl qe:Bx.le (.row true 39 ((jR t.il xs p x).length+[mU (t.il.getD x iN) ((jR t.il xs p x).getD (t.il.getD x iN).a ix) ((jR t.il xs p x).getD (t.il.getD x iN).b ix) p].length) 7 (λi_ j_=>if i_<(jR t.il xs p x).length then(jc (jR t.il xs p x)) i_ j_ else(E.kT (iq [mU (t.il.getD x iN) ((jR t.il xs p x).getD (t.il.getD x iN).a ix) ((jR t.il xs p x).getD (t.il.getD x iN).b ix) p])) (i_-(jR t.il xs p x).length) j_)) (.row true 39 ((jR t.il xs p (x+1)).length) 7 (jc (jR t.il xs p (x+1)))))])) aF 
     .have pe:((t.il.getD x iN)).kind≠1:=nT;have oo:¬((t.il.getD x iN)).kind<=6:=hk;have qe:uV (t.il.getD x iN) (jR t.il xs p x) p=(mU (t.il.getD x iN) ((jR t.il xs p x).getD ((t.il.getD x iN).a) ix) ix p):=by unfold uV xT;rw[bu pe,bB oo];rfl
      have w2:=mc;have o2:=iH.Dp pe;have o7:=iH.xw;have o8:=Es iH;have sx:=qj (mU (t.il.getD x iN) ((jR t.il xs p x).getD ((t.il.getD x iN).a) ix) ix p);exact jh (ae [tT 27 ((x:Int)<t.il.length) aC,iX (x:Int) (t.il.length) aC,.c (Ou ((t.il.getD x iN).kind:Nat) aC aC),ai 50 ((1:Int)==0) aE,ah 56 ((1:Int)==1) aE,iX ((t.il.getD x iN).a:Int) ((jR t.il xs p x).length) aC,.a (aC:(t.il.getD x iN).a<(jR t.il xs p x).length),.o 66 (.e KM:aj (.agg [bP false,.v (.slice none 0 0),iP 0,bP false,.v (.slice none 0 0),iP 0,bP true]) (iz ix)),ag [iP ((t.il.getD x iN).kind:Int),iP ((t.il.getD x iN).n:Int),iz ((jR t.il xs p x).getD (t.il.getD x iN).a ix),iz ix,iP p] (Ql (t.il.getD x iN) _ _ _ aD aD aC aC aC aC aC iH.f),.o 71 (.e (lJ _):aj (.sl true 1 7 λi_ j_=>(iQ (mU (t.il.getD x iN) ((jR t.il xs p x).getD (t.il.getD x iN).a ix) ix p)).getD (i_*7+j_) (.v (.bool false))) (iq [mU (t.il.getD x iN) ((jR t.il xs p x).getD (t.il.getD x iN).a ix) ix p])),.a (aC:((jR t.il xs p x).length+[mU (t.il.getD x iN) ((jR t.il xs p x).getD (t.il.getD x iN).a ix) ix p].length)*88<=140737488355328),iL ((x:Int)+1) aC]<|.e (af [.b 22 (PK rfl rfl qe:Bx.le (.row true 39 ((jR t.il xs p x).length+[mU (t.il.getD x iN) ((jR t.il xs p x).getD (t.il.getD x iN).a ix) ix p].length) 7 (λi_ j_=>if i_<(jR t.il xs p x).length then(jc (jR t.il xs p x)) i_ j_ else(E.kT (iq [mU (t.il.getD x iN) ((jR t.il xs p x).getD (t.il.getD x iN).a ix) ix p])) (i_-(jR t.il xs p x).length) j_)) (.row true 39 ((jR t.il xs p (x+1)).length) 7 (jc (jR t.il xs p (x+1)))))])) aF)
  (λhx=>by
    exact jh (ae [tF 27 ((t.il.length:Int)<t.il.length) aC,.z 22]<|.e (af [.o 7 (.e (CH aH):aj (.sl true ((jR t.il xs p t.il.length).length) 7 (jc (jR t.il xs p t.il.length))) (iq (jR t.il xs p t.il.length)))])) aF) aI:kD 5 f246 (Yk t xs p 0) (.exit 0) ⟨75,true,[(7,.e (iq (jR t.il xs p t.il.length)))],[]⟩) (af [.b 22 (.jl rfl:Bx.le (.row true 39 xs.length 7 (jc xs)) (.row true 39 ((jR t.il xs p 0).length) 7 (jc (jR t.il xs p 0))))])]) 
def CS(a b:List Iv):E.le (.sl true 2 1 λi j=>[iq a,iq b].getD (i*1+j) (.v (.bool false))) (lv [a,b]):=.sl λi j hi hj=>by
 obtain rfl:j=0:= aC ;obtain rfl|rfl:i=0\/i=1:= aC 
 all_goals exact⟨.refl _,rfl⟩
def Sf(t:j8)(xs:List Iv)(p:Nat):(List.range t.iF.length).map (λj=>(jR t.il xs p t.il.length).getD (t.iF.getD j 0) ix)=xZ t xs p:=by
 unfold xZ;apply gE;intro i;rw[cG,cG];by_cases hi:i<t.iF.length
 .rw [bG (by simpa using hi),bG hi];simp[bC,hi]
 .rw [cE (by simpa using hi),cE aC];rfl
def lV:Iv:=⟨iS,iS,false⟩
def Pg:lV.iy:=.inr ⟨rfl,sk,sk,aL⟩
abbrev kn(n:Nat):Iv:=jF (jo (n:Int))
def mo(p:Nat)(T:Nat->Iv)(a:Nat):Nat->Iv
 | 0=>T a
 |n+1=>jO (mo p T a n) (T (a+n+1)) p
def pI(p:Nat)(s:Iv)(T:Nat->Iv)(a:Nat):Nat->Iv
 | 0=>s
 |n+1=>rm (pI p s T a n) (T (a+n)) p
def lN(x:Iv)(k:Nat):List Iv:=x::List.replicate k lV
structure kO(n:Nat)(a:List Iv):Prop where
 len:a.length=n
 ok:mZ a
def kQ(f:Nat->Iv)(n:Nat):List Iv:=(List.range n).map f
def Dr(a b:List Iv)(p:Nat):List Iv:=kQ (λi=>jO (a.getD i ix) (b.getD i ix) p) a.length
def EN(a b:List Iv)(p:Nat):List Iv:=kQ (λi=>rm (a.getD i ix) (b.getD i ix) p) a.length
def Ac(a:List Iv):List Iv:=kQ (λi=>mz (a.getD i ix)) a.length
def tc(a b:List Iv)(p:Nat):List Iv:=kQ (λk=>mo p (λi=>iV (a.getD i ix) (b.getD (k-i) ix) p) 0 k) a.length
def jr(f:Nat->List Iv->Iv):Nat->List Iv
 | 0=>[]
 |k+1=>jr f k++[f k (jr f k)]
def rA(a b:List Iv)(p k:Nat)(out:List Iv):Iv:=jz (pI p (a.getD k ix) (λi=>iV (out.getD i ix) (b.getD (k-i) ix) p) 0 k) (b.getD 0 ix) p
def AP(a b:List Iv)(p:Nat):List Iv:=jr (rA a b p) a.length
def py(a:List Iv)(p:Nat):Nat->List Iv
 | 0=>a
 |k+1=>tc (py a p k) a p
def Ey(a:List Iv)(n p:Nat):List Iv:=if n=0 then kQ (λi=>iV (kn 0) (a.getD i ix) p) a.length else py a p (n-1)
def th(a:List Iv)(n p:Nat):List Iv:=(Ey a n p).set 0 (lk (a.getD 0 ix) n p)
noncomputable def qB(a:List Iv)(p k:Nat)(out:List Iv):Iv:=
 if k=0 then ve (a.getD 0 ix) p else jz (mo p (λi=>iV (iV (kn i) (a.getD i ix) p) (out.getD (k-i) ix) p) 1 (k-1)) (kn k) p
noncomputable def AU(a:List Iv)(p:Nat):List Iv:=jr (qB a p) a.length
def rI(a out:List Iv)(p k:Nat):Nat->Iv
 | 0=>kn 0
 |n+1=>jO (rI a out p k n) (iV (iV (kn (n+1)) (out.getD (n+1) ix) p) (a.getD (k-(n+1)) ix) p) p
noncomputable def mV(a:List Iv)(p k:Nat)(out:List Iv):Iv:=
 if k=0 then vf (a.getD 0 ix) p else jz (rm (a.getD k ix) (jz (rI a out p k (k-1)) (kn k) p) p) (a.getD 0 ix) p
noncomputable def Ek(a:List Iv)(p:Nat):List Iv:=jr (mV a p) a.length
def rf(a:List Iv)(p k:Nat)(f:List Iv):Iv:=jz (mo p (λi=>iV (iV (kn i) (a.getD i ix) p) (f.getD (k-i) ix) p) 1 (k-1)) (kn k) p
noncomputable def lY(a:List Iv)(p:Nat):Nat->List Iv×List Iv
 | 0=>([vh (a.getD 0 ix) p],[vc (a.getD 0 ix) p])
 |k+1=>((lY a p k).1++[rf a p (k+1) (lY a p k).2],(lY a p k).2++[mz (rf a p (k+1) (lY a p k).1)])
noncomputable def oB(a:List Iv)(p k:Nat)(out:List Iv):Iv:=
 if k=0 then pK (a.getD 0 ix) p else jz (pI p (a.getD k ix) (λi=>iV (out.getD i ix) (out.getD (k-i) ix) p) 1 (k-1)) (mj (pK (a.getD 0 ix) p) 1) p
noncomputable def BQ(a:List Iv)(p:Nat):List Iv:=jr (oB a p) a.length
noncomputable def nu(o:lF)(a b:List Iv)(p:Nat):List Iv:=
 if o.kind=3 then Dr a b p else if o.kind=4 then EN a b p else if o.kind=5 then tc a b p else if o.kind=6 then AP a b p
 else if o.kind=7 then Ac a else if o.kind=8 then th a o.n p else if o.kind=9 then AU a p else if o.kind=10 then Ek a p
 else if o.kind=11 then(lY a p (a.length-1)).1 else if o.kind=12 then(lY a p (a.length-1)).2 else if o.kind=13 then BQ a p else[]
noncomputable def qq(o:lF)(l:List (List Iv))(k p:Nat):List Iv:=if o.kind=1 then lN (rj o.cn o.cd p) k else nu o (l.getD o.a []) (l.getD (if xT o then o.b else o.a) []) p
noncomputable def je(il:List lF)(iC:List (List Iv))(k p:Nat):Nat->List (List Iv)
 | 0=>iC
 |i+1=>je il iC k p i++[qq (il.getD i iN) (je il iC k p i) k p]
noncomputable def qC(t:j8)(iC:List (List Iv))(k p:Nat):List (List Iv):=t.iF.map λj=>(je t.il iC k p t.il.length).getD j []
def oR(s:jH)(x:List (List Iv))(k:Nat):List (List Iv):=x.map (λc=>c.take (k+1))++s.params.map λa=>lN a k
noncomputable def CW(s:jH)(x:List (List Iv))(p n i:Nat):Iv:=jz (((qC s.tape (oR s x n) n p).getD i []).getD n ix) (kn (n+1)) p
noncomputable def jf(s:jH)(x:List Iv)(p:Nat):Nat->List (List Iv)
 | 0=>x.map λy=>[y]
 |n+1=>(List.range x.length).map λi=>(jf s x p n).getD i []++[CW s (jf s x p n) p n i]
def mZ.nil:mZ []:=λ_=>mc
def getD_map{α:Type}{n i:Nat}{f:Nat->α}{d:α}(h:i<n):((List.range n).map f).getD i d=f i:=by simp[bC,h]
def yb{f:Nat->Iv}{n i:Nat}(h:i<n):(kQ f n).getD i ix=f i:=getD_map h
def wi(f:Nat->Iv)(n:Nat):(kQ f n).length=n:=by simp[kQ]
def FJ{f:Nat->Iv}{n:Nat}(h:∀ i,i<n->(f i).iy):kO n (kQ f n):=⟨wi _ _,λi=>by
 by_cases hi:i<n
 .rw [yb hi];exact h i hi
 .rw [bC,cE (by rw[wi];omega)];exact mc⟩
def yQ(f:Nat->List Iv->Iv):∀ n,(jr f n).length=n
 | 0=>rfl
 |n+1=>by simp[jr,yQ f n]
def BG{f:Nat->List Iv->Iv}(n:Nat)(h:∀ k l,k<n->kO k l->(f k l).iy):kO n (jr f n):=by
 induction n with
 |zero=>exact⟨rfl,mZ.nil⟩
 |succ n ih=>
  have:=ih λk l hk=>h k l aC 
  exact⟨yQ _ _,this.ok.push (h n _ aC this)⟩
def ama(k:Nat):mZ (List.replicate k lV):=λi=>by
 rw[bC,fC];split
 .exact Pg
 .exact mc
def Rm{x:Iv}(hx:x.iy)(k:Nat):kO (k+1) (lN x k):=⟨by simp[lN],(mZ.push mZ.nil hx).append (ama k)⟩
def yT(n:Nat)(h:n<4294967296):(kn n).iy:=qV (Ee n h)
section
variable {p:Nat} (hp:1<=p) (iw:p<=4096)
include hp iw
def Pt{x y:Iv}(hx:x.iy)(hy:y.iy):(rm x y p).iy:=qk hx (Bu hy) hp iw
def Hj{T:Nat->Iv}{a:Nat}:∀ n,(∀ i,a<=i->i<=a+n->(T i).iy)->(mo p T a n).iy
 | 0,h=>h a (bD _) (bD _)
 |n+1,h=>qk (Hj n λi h1 h2=>h i h1 aC) (h _ aC aC) hp iw
def Jz{s:Iv}(hs:s.iy){T:Nat->Iv}{a:Nat}:∀ n,(∀ i,a<=i->i<a+n->(T i).iy)->(pI p s T a n).iy
 | 0,_=>hs
 |n+1,h=>Pt hp iw (Jz hs n λi h1 h2=>h i h1 aC) (h _ aC aC)
def Zn{n:Nat}{a b:List Iv}(ha:kO n a)(hb:kO n b):kO n (Dr a b p):=ha.len▸FJ λi _=>qk (ha.ok i) (hb.ok i) hp iw
def aj5{n:Nat}{a b:List Iv}(ha:kO n a)(hb:kO n b):kO n (EN a b p):=ha.len▸FJ λi _=>Pt hp iw (ha.ok i) (hb.ok i)
end
def agS{n:Nat}{a:List Iv}(ha:kO n a):kO n (Ac a):=ha.len▸FJ λi _=>Bu (ha.ok i)
section
variable {p:Nat} (hp:1<=p) (iw:p<=4096)
include hp iw
def VC{n:Nat}{a:List Iv}(ha:kO n a)(b:List Iv):kO n (tc a b p):=ha.len▸FJ λi _=>Hj hp iw _ λ_ _ _=>oV _ _ hp iw
def ab8{n:Nat}{a:List Iv}(ha:kO n a)(b:List Iv):kO n (AP a b p):=ha.len▸BG _ λ_ _ _ _=>oZ _ _ hp iw
def N5{n:Nat}{a:List Iv}(ha:kO n a):∀ k,kO n (py a p k)
 | 0=>ha
 |k+1=>VC hp iw (N5 ha k) a
def ahT{n:Nat}{a:List Iv}(ha:kO n a)(k:Nat):kO n (Ey a k p):=by
 unfold Ey;split
 .exact ha.len▸FJ λi _=>oV _ _ hp iw
 .exact N5 hp iw ha _
end
def kO.set{n:Nat}{a:List Iv}(ha:kO n a)(i:Nat){x:Iv}(hx:x.iy):kO n (a.set i x):=⟨by simp[ha.len],λj=>by
 rw[bC,ana];split
 .split
  .exact hx
  .exact mc
 .have:=ha.ok j;rwa[bC]at this⟩
section
variable {p:Nat} (hp:1<=p) (iw:p<=4096)
include hp iw
def ahU{n:Nat}{a:List Iv}(ha:kO n a)(k:Nat):kO n (th a k p):=(ahT hp iw ha k).set 0 (J2 (ha.ok 0) k hp iw)
def acR{n:Nat}{a:List Iv}(ha:kO n a):kO n (AU a p):=ha.len▸BG _ λk l _ _=>by
 unfold qB;split
 .exact L4 _ _
 .exact oZ _ _ hp iw
def af7{n:Nat}{a:List Iv}(ha:kO n a):kO n (Ek a p):=ha.len▸BG _ λk l _ _=>by
 unfold mV;split
 .exact L5 _ _
 .exact oZ _ _ hp iw
def aj4{n:Nat}{a:List Iv}(ha:kO n a):kO n (BQ a p):=ha.len▸BG _ λk l _ _=>by
 unfold oB;split
 .exact FF _ _
 .exact oZ _ _ hp iw
def OC(a f:List Iv)(k:Nat):(rf a p k f).iy:=oZ _ _ hp iw
def G7(a:List Iv):∀ k,kO (k+1) (lY a p k).1/\kO (k+1) (lY a p k).2
 | 0=>⟨⟨rfl,mZ.push mZ.nil (Sb _ _)⟩,⟨rfl,mZ.push mZ.nil (R7 _ _)⟩⟩
 |k+1=>by
  obtain⟨h1,h2⟩:=G7 a k;exact⟨⟨by simp[lY,h1.len],h1.ok.push (OC hp iw _ _ _)⟩,⟨by simp[lY,h2.len],h2.ok.push (Bu (OC hp iw _ _ _))⟩⟩
def Zx(o:lF){n:Nat}{a b:List Iv}(ha:kO (n+1) a)(hb:kO (n+1) b)(hk:3<=o.kind)(xi:o.kind<=13):kO (n+1) (nu o a b p):=by
 have hl:a.length-1+1=n+1:=by rw[ha.len];rfl
 unfold nu;split
 .exact Zn hp iw ha hb
 split
 .exact aj5 hp iw ha hb
 split
 .exact VC hp iw ha b
 split
 .exact ab8 hp iw ha b
 split
 .exact agS ha
 split
 .exact ahU hp iw ha _
 split
 .exact acR hp iw ha
 split
 .exact af7 hp iw ha
 split
 .exact hl▸(G7 hp iw a _).1
 split
 .exact hl▸(G7 hp iw a _).2
 split
 .exact aj4 hp iw ha
 .omega
def uS(n:Nat)(l:List (List Iv)):Prop:=∀ i,i<l.length->kO n (l.getD i [])
end
def uS.push{n:Nat}{l:List (List Iv)}(h:uS n l){y:List Iv}(hy:kO n y):uS n (l++[y]):=λi hi=>by
 rw[bC,er];split
 .rename_i h1;have:=h i h1;rwa[bC]at this
 .obtain rfl:i=l.length:=by simp at hi;omega
  simpa using hy
section
variable {p:Nat} (hp:1<=p) (iw:p<=4096)
include hp iw
end
def EH{p:Nat}(il:List lF)(iC:List (List Iv))(k:Nat):∀ i,(je il iC k p i).length=iC.length+i
 | 0=>rfl
 |i+1=>by simp only[je,cg,EH il iC k i,dj,am0];omega
section
variable {p:Nat} (hp:1<=p) (iw:p<=4096)
include hp iw
def aha{o:lF}{m n:Nat}(h:ns o m){l:List (List Iv)}(hl:uS (n+1) l)(hm:l.length=m):kO (n+1) (qq o l n p):=by
 have h3:=h.k3;have ha:=h.a;have hb:=h.b;unfold qq;split
 .exact Rm (Pd _ _ hp iw) n
 .rename_i hk;rw[bu hk]at ha;refine Zx hp iw o (hl _ aC) (hl _ ?_) (h3.resolve_left hk) h.xw;unfold xT;by_cases h6:o.kind<=6
  .rw [bw ⟨h3.resolve_left hk,h6⟩]at hb;simp only[h6,fU,bL];omega
  .simp only[h6,ado,bM,bE];omega
def Kg{t:j8}(h:uT t){iC:List (List Iv)}{n:Nat}(hi:uS (n+1) iC)(hl:iC.length=t.iC):∀ i,i<=t.il.length->uS (n+1) (je t.il iC n p i)
 | 0,_=>hi
 |i+1,hle=>(Kg h hi hl i aC).push (aha hp iw (h.op i aC) (Kg h hi hl i aC) (by rw[EH,hl]))
def Se{t:j8}(h:uT t){iC:List (List Iv)}{n:Nat}(hi:uS (n+1) iC)(hl:iC.length=t.iC):uS (n+1) (qC t iC n p):=λi iJ=>by
 unfold qC at iJ ⊢;have M0:i<t.iF.length:=by simpa using iJ
 have:=h.out i M0;rw[bC,cG,bG M0];rw[bC,bG M0]at this;exact Kg hp iw h hi hl _ (bD _) _ (by rw[EH,hl];exact this)
end
def Qn(m:List (List Iv))(x:Nat):PS:=⟨29,true,[(7,.e (iP x)),(6,.e (iP m.length)),(5,.e (lv m)),(0,.e (lv m))],[]⟩
def XE(p:Nat)(z:Int)(g:FuncId)(cap:List E)(T:Nat->Iv)(A:Nat)(x:Nat):PS:=⟨28,true,[(10,.e (iP ((A+x+1:Nat):Int))),(9,.box 9 0),(8,.box 8 0),(1,.e (iP z)),(2,.e (iP p)),(3,.e (.fn g cap))],[(9,.cells 39 (iQ (mo p T A x))),(8,.cells 39 au)]⟩
def Xp(p:Nat)(z:Int)(g:FuncId)(cap:List E)(s:Iv)(T:Nat->Iv)(A:Nat)(x:Nat):PS:=⟨25,true,[(11,.e (iP ((A+x:Nat):Int))),(10,.box 10 0),(5,.box 5 0),(2,.e (iP z)),(3,.e (iP p)),(4,.e (.fn g cap))],[(10,.cells 39 au),(5,.cells 39 (iQ (pI p s T A x)))]⟩
def Xk(a b:List Iv)(g:FuncId)(cap:List E)(T:Nat->Iv)(x:Nat):PS:=⟨37,true,[(19,.e (iP x)),(18,.e (iP a.length)),(7,.own 16),(0,.e (iq a)),(1,.e (iq b)),(2,.e (.fn g cap))],[(16,.row true 39 x 7 (jc (kQ T x)))]⟩
def Xu(a b:List Iv)(p:Nat)(x:Nat):PS:=⟨31,true,[(19,.e (iP x)),(18,.e (iP a.length)),(7,.own 16),(5,.box 5 0),(4,.box 4 0),(3,.box 3 0)],[(16,.row true 39 x 7 (jc (kQ (λk=>mo p (λi=>iV (a.getD i ix) (b.getD (k-i) ix) p) 0 k) x))),(5,.cells 3 [iP p]),(4,.cells 26 [iq b]),(3,.cells 26 [iq a])]⟩
def Xj(a b:List Iv)(p:Nat)(x:Nat):PS:=⟨43,true,[(20,.e (iP x)),(19,.e (iP a.length)),(7,.nk 7 1 0 0),(5,.box 5 0),(4,.box 4 0),(0,.e (iq a))],[(7,.jU true 26 39 1 7 (λ_=>x) (λ_=>jc (jr (rA a b p) x)) .none),(5,.cells 3 [iP p]),(4,.cells 26 [iq b])]⟩
def vZ(m:List (List Iv))(n:Nat)(tU:1<=n)(hn:n<=17)(hl:m.length<=100)(hm:∀ i,i<m.length->(m.getD i []).length=n):ik 213 [lv m] (bP true):=
 ak call213 func213 (af [.s (Sp.kE (Qn m) 0 m.length aC (λx hx nd=>by
    have e1:=hm x aC;have e0:=hm 0 aC;exact jh (af [tT 8 ((x:Int)<m.length) aC,iX (x:Int) (m.length) aC,tF 13 (((m.getD x []).length:Int)<1) aC,tF 17 (17<((m.getD x []).length:Int)) aC,
     iX 0 (m.length) aC,ai 26 (((m.getD x []).length:Int) != ((m.getD 0 []).length:Int)) (yK aC),iL ((x:Int)+1) aC]) aF)
  (λhx=>by
    exact jh (af [tF 8 ((m.length:Int)<m.length) aC]) aF) aI:kD 2 f213 (Qn m 0) (.exit 0) ⟨29,true,[],[]⟩) .nil]) 
def AE{a:List Iv}{n:Nat}(ha:a.length=n)(i:Nat)(hi:i<[a].length):([a].getD i []).length=n:=by
 obtain rfl:i=0:=by simp at hi;omega
 exact ha
def Ig{a b:List Iv}{n:Nat}(ha:a.length=n)(hb:b.length=n)(i:Nat)(hi:i<[a,b].length):([a,b].getD i []).length=n:=by
 rcases i with _|_|i
 .exact ha
 .exact hb
 .simp at hi;omega
def Br(a:List Iv):E.le (.sl true 1 1 λi j=>[iq a].getD (i*1+j) (.v (.bool false))) (lv [a]):=.sl λi j hi hj=>by
 obtain rfl:i=0:= aC ;obtain rfl:j=0:= aC ;exact⟨.jl rfl,rfl⟩
def Me{T i n:Nat}{f:Nat->Iv}{y:Iv}(hn:n=i)(hy:y=f i):
 Bx.le (.row true T (n+[y].length) 7 λa j=>if a<n then jc (kQ f i) a j else(E.kT (iq [y])) (a-n) j) (.row true T (i+1) 7 (jc (kQ f (i+1)))):=by
 subst hy;have e:kQ f (i+1)=kQ f i++[f i]:=by simp[kQ,List.range_succ]
 have h:=Jx (T:=T) (n:=n) (xs:=kQ f i) (y:=f i) (by rw[wi];exact hn);rw[<-e]at h;have e2:(kQ f (i+1)).length=i+1:=wi _ _;rw[e2]at h;exact h
def aib{T i n:Nat}{f:Nat->List Iv->Iv}{y:Iv}(hn:n=i)(hy:y=f i (jr f i)):
 Bx.le (.row true T (n+[y].length) 7 λa j=>if a<n then jc (jr f i) a j else(E.kT (iq [y])) (a-n) j) (.row true T (i+1) 7 (jc (jr f (i+1)))):=by
 subst hy;have h:=Jx (T:=T) (n:=n) (xs:=jr f i) (y:=f i (jr f i)) (by rw[yQ];exact hn);have e2:(jr f i++[f i (jr f i)]).length=i+1:=yQ f (i+1);rw[e2]at h;exact h
def O7{T:Nat}{el el':Nat->Nat->E}:Bx.le (.row true T 0 7 el) (.row true T 0 7 el'):=.row rfl λi j hi=>absurd hi (bF i)
def BJ{n:Nat}{xs:List Iv}(h:n=xs.length):E.le (.sl true n 7 (jc xs)) (iq xs):=by subst h;exact .refl _
def afV(L:List Nat):vY (iu L):=by
 intro bs bs' br w v h hv;cases hv with
 |sl _ _ _ _ A c f hc hm h0 hl hr cell k=>
  refine .sl _ _ _ _ A c f hc hm h0 hl hr (λi j hi hj=>?_) (λi j hi hj=>?_)
  .obtain ⟨b,o,e,hb,iJ,kt⟩:=cell i j hi hj;refine⟨b,o,e,λhx=>?_,iJ,kt⟩;rcases h b hx with q|q
   .exact hb q
   .have e:=iO.kG (k i j hi hj);rw[e]at kt;exact q _ _ kt
  .have e:=iO.kG (k i j hi hj);rw[e];exact .v _
def afW(x:Value):vY (.v x):=λbs bs' br w v _ hv=>(iO.kG hv) ▸ .v _
def U6(x:Iv)(j:Nat)(hj:j<7):vY ((iQ x).getD j .any):=by
 rcases j with _|_|_|_|_|_|_|j
 all_goals first|exact afW _|exact afV _|omega
def Gq(x:Iv):vY (iz x):=by
 intro bs bs' br w v h hv;obtain⟨vs,rfl,hr⟩:=hv.Dt;refine ky.agg ⟨hr.len,λi p y hp hy=>?_⟩;have hi:i<7:=by
  rcases gp i 7 with q|q
  .exact q
  .rw [cE (by exact q)]at hp;cases hp
 have hq:=U6 x i hi bs bs' br w y h;rw[bC,hp]at hq;exact hq (hr.kN i p y hp hy)
def U7{n:Nat}(xs:List Iv):E3 n 7 (jc xs):=λi j _ hj=>U6 _ j hj
def Kk(A n p:Nat)(z:Int)(hz:z=((A+n:Nat):Int))(g:FuncId)(cap:List E)(T:Nat->Iv)(hA:A+n<=1000)(iB:8<=p)(iw:p<=512)(hT:∀ i,A<=i->i<=A+n->(T i).iy/\ik g (iP (i:Int)::cap) (iz (T i))):ik 306 [iP A,iP z,iP p,.fn g cap] (iz (mo p T A n)):=by
 have v0:=(hT A aC aC).1;exact ak call306 func306 (af [.c ((hT A aC aC).2:ik g ((iP A)::cap) _),iL ((A:Int)+1) aC,.s (Sp.kE (XE p z g cap T A) 0 n aC (λx hx nd=>by
    have v1:=Hj (aC:1<=p) (aC:p<=4096) x λi h1 h2=>(hT i h1 aC).1
    have v2:=(hT (A+x+1) aC aC).1;exact jh (ae [tT 18 (((A+x+1:Nat):Int)<=z) aC,.c ((hT (A+x+1) aC aC).2:ik g ((iP ((A+x+1:Nat):Int))::cap) _),.c (wG (mo p T A x) (T (A+x+1)) p aD aD aC aC),iL (((A+x+1:Nat):Int)+1) aC]<|.e (af [.o 10 (aq (((A+x+1)+1:Nat):Int) ((A+(x+1)+1:Nat):Int) aP),.b 9 (.jl rfl:Bx.le (.cells 39 (iQ (jO (mo p T A x) (T (A+x+1)) p))) (.cells 39 (iQ (mo p T A (x+1)))))])) aF)
  (λhx=>by
    exact jh (af [tF 18 (((A+n+1:Nat):Int)<=z) aC]) aF) aI:kD 3 f306 (XE p z g cap T A 0) (.exit 0) ⟨28,true,[(9,.box 9 0),(8,.box 8 0)],[(9,.cells 39 (iQ (mo p T A n))),(8,.cells 39 au)]⟩) (af [.o 10 (aq ((A+1:Nat):Int) ((A+0+1:Nat):Int) aP),.b 9 (.jl rfl:Bx.le (.cells 39 (iQ (T A))) (.cells 39 (iQ (mo p T A 0))))])]) 
def Xq(s:Iv)(hs:s.iy)(A n p:Nat)(z:Int)(hz:z=((A+n:Nat):Int)-1)(g:FuncId)(cap:List E)(T:Nat->Iv)(hA:A+n<=1000)(iB:8<=p)(iw:p<=512)(hT:∀ i,A<=i->i<A+n->(T i).iy/\ik g (iP (i:Int)::cap) (iz (T i))):ik 308 [iz s,iP A,iP z,iP p,.fn g cap] (iz (pI p s T A n)):=
 ak call308 func308 (af [.s (Sp.kE (Xp p z g cap s T A) 0 n aC (λx hx nd=>by
    have v1:=Jz (aC:1<=p) (aC:p<=4096) hs x λi h1 h2=>(hT i h1 aC).1
    have v2:=(hT (A+x) aC aC).1;exact jh (ae [tT 15 (((A+x:Nat):Int)<=z) aC,.c ((hT (A+x) aC aC).2:ik g ((iP ((A+x:Nat):Int))::cap) _),.c (yD (pI p s T A x) (T (A+x)) p aD aD aC aC),
     iL (((A+x:Nat):Int)+1) aC]<|.e (af [.o 11 (aq (((A+x)+1:Nat):Int) ((A+(x+1):Nat):Int) aP),.b 5 (.jl rfl:Bx.le (.cells 39 (iQ (rm (pI p s T A x) (T (A+x)) p))) (.cells 39 (iQ (pI p s T A (x+1)))))])) aF)
  (λhx=>by
    exact jh (af [tF 15 (((A+n:Nat):Int)<=z) aC]) aF) aI:kD 2 f308 (Xp p z g cap s T A 0) (.exit 0) ⟨25,true,[(10,.box 10 0),(5,.box 5 0)],[(10,.cells 39 au),(5,.cells 39 (iQ (pI p s T A n)))]⟩) (af [.o 11 (aq A ((A+0:Nat):Int) aP),.b 5 (.jl rfl:Bx.le (.cells 39 (iQ s)) (.cells 39 (iQ (pI p s T A 0))))])]) 
def BL(n:Nat)(hn:n<4294967296):ik 311 [iP n] (iz (kn n)):=
 ak call311 func311 (af [.c (Fb n aC),.c (rZ (jo (n:Int)) (Ee _ aC))]) 
def abL{x:Iv}{k:Nat}:E.le (.sl true (k+1) 7 λi' j'=>if i'=0/\0<=j'/\j'<0+7 then(iQ x).getD (j'-0) .any else au.getD j' .any) (iq (lN x k)):=by
 have hl:(lN x k).length=k+1:=by simp[lN]
 unfold iq;rw[hl];refine .sl λi j hi hj=>⟨?_,s7 _ _ hj⟩
 by_cases h:i=0
 .subst h;rw[bw ⟨rfl,cz _,aC⟩];exact .jl rfl
 .rw [bu λq=>h q.1];obtain⟨m,rfl⟩:∃ m,i=m+1:=⟨i-1,aC⟩
  have e:(lN x k).getD (m+1) ix=lV:=by
   simp only[lN,bC,amW,fC];rw[bw aC];rfl
  rw[e];have e1:E.le (.v (.slice none 0 0)) (iu (im 0)):=by rw[px];exact .nil _ _ _
  rcases j with _|_|_|_|_|_|_|j
  all_goals first|exact e1|exact .refl _|omega
def Pk(x:Iv)(hx:x.iy)(k:Nat)(hk:k<=16):ik 235 [iz x,iP k] (iq (lN x k)):=
 ak call235 func235 (ae [tF 7 ((k:Int)<0) aC,tF 10 (16<(k:Int)) aC,iL ((k:Int)+1) aC,.a (aC:0<=(((k+1:Nat):Int):Int)/\(((k+1:Nat):Int):Int)<=(((k+1:Nat):Int):Int)),.a (aC:((88:Nat):Int)*((k+1:Nat):Int)<=281474976710656/\(((k+1:Nat):Int):Int)<=9223372036854775807),iX 0 (k+1) aC,.a (aC:0<(k+1))]<|rR (iq (lN x k)) (abL:E.le (.sl true (k+1) 7 (λi' j'=>if i'=0/\0<=j'/\j'<0+7 then[bP x.lo.neg,iu (im x.lo.m),iP x.lo.e,bP x.hi.neg,iu (im x.hi.m),iP x.hi.e,bP x.all].getD (j'-0) .any else(λ_ j_=>au.getD j_ .any) i' j')) (iq (lN x k)))) 
def Pm(a b:List Iv)(n:Nat)(h1:1<=n)(nQ:n<=17)(ha:a.length=n)(hb:b.length=n)(g:FuncId)(cap:List E)(T:Nat->Iv)(hf:∀ i,i<n->ik g (iz (a.getD i ix)::iz (b.getD i ix)::cap) (iz (T i))):ik 303 [iq a,iq b,.fn g cap] (iq (kQ T a.length)):=
 ak call303 func303 (af [.o 11 (.e (CS _ _):aj (.sl true 2 1 λi_ j_=>[iq a,iq b].getD (i_*1+j_) (.v (.bool false))) (lv [a,b])),.c (vZ [a,b] n aC aC aH (Ig aD aD)),.a (aC:0<=(0:Int)/\(0:Int)<=((a.length:Int):Int)),.a (aC:((88:Nat):Int)*(a.length:Int)<=281474976710656/\((a.length:Int):Int)<=9223372036854775807),.s (Sp.kE (Xk a b g cap T) 0 a.length aC (λx hx nd=>by
    have sx:=qj (T x);exact jh (ae [tT 20 ((x:Int)<a.length) aC,iX (x:Int) (a.length) aC,iX (x:Int) (b.length) aC,.c (hf x aC:ik g ((iz (a.getD x ix))::(iz (b.getD x ix))::cap) _),.o 33 (.e (lJ _):aj (.sl true 1 7 λi_ j_=>(iQ (T x)).getD (i_*7+j_) (.v (.bool false))) (iq [T x])),.a (aC:(x+[T x].length)*88<=140737488355328),iL ((x:Int)+1) aC]<|.e (af [.b 16 (Me rfl rfl:Bx.le (.row true 39 (x+[T x].length) 7 (λi_ j_=>if i_<x then(jc (kQ T x)) i_ j_ else(E.kT (iq [T x])) (i_-x) j_)) (.row true 39 (x+1) 7 (jc (kQ T (x+1)))))])) aF)
  (λhx=>by
    exact jh (ae [tF 20 ((a.length:Int)<a.length) aC,.z 16]<|.e (af [.o 7 (.e (BJ (wi _ _).symm):aj (.sl true a.length 7 (jc (kQ T a.length))) (iq (kQ T a.length)))])) aF) aI:kD 5 f303 (Xk a b g cap T 0) (.exit 0) ⟨37,true,[(7,.e (iq (kQ T a.length)))],[]⟩) (af [.b 16 (O7:Bx.le (.row true 39 0 7 (λ_ j_=>au.getD j_ .any)) (.row true 39 0 7 (jc (kQ T 0))))])]) 
def ajp(x y:Iv)(p:Nat)(hx:x.iy)(hy:y.iy)(iB:8<=p)(iw:p<=512):ik 304 [iz x,iz y,(.jC 1 λj_=>[iP p].getD j_ .any)] (iz (jO x y p)):=
 ak call304 func304 (af [.c (wG x y p aD aD aC aC)]) 
def ajq(a b:List Iv)(n p:Nat)(h1:1<=n)(nQ:n<=17)(ha:kO n a)(hb:kO n b)(iB:8<=p)(iw:p<=512):ik 270 [iq a,iq b,iP p] (iq (Dr a b p)):=by
 have la:=ha.len;have lb:=hb.len;exact ak call270 func270 (ae [.c (Pm a b n h1 nQ la lb _ _ (λi=>jO (a.getD i ix) (b.getD i ix) p) λi hi=>ajp _ _ p (ha.ok i) (hb.ok i) iB iw:ik 303 [iq a,iq b,.fn 304 [(.jC 1 λj_=>[iP p].getD j_ .any)]] _)]<|rR (iq (Dr a b p)) (.jl rfl:E.le (iq (kQ (λi=>jO (a.getD i ix) (b.getD i ix) p) a.length)) (iq (Dr a b p)))) 
def ajG(x y:Iv)(p:Nat)(hx:x.iy)(hy:y.iy)(iB:8<=p)(iw:p<=512):ik 305 [iz x,iz y,(.jC 1 λj_=>[iP p].getD j_ .any)] (iz (rm x y p)):=
 ak call305 func305 (af [.c (yD x y p aD aD aC aC)]) 
def ajH(a b:List Iv)(n p:Nat)(h1:1<=n)(nQ:n<=17)(ha:kO n a)(hb:kO n b)(iB:8<=p)(iw:p<=512):ik 271 [iq a,iq b,iP p] (iq (EN a b p)):=by
 have la:=ha.len;have lb:=hb.len;exact ak call271 func271 (ae [.c (Pm a b n h1 nQ la lb _ _ (λi=>rm (a.getD i ix) (b.getD i ix) p) λi hi=>ajG _ _ p (ha.ok i) (hb.ok i) iB iw:ik 303 [iq a,iq b,.fn 305 [(.jC 1 λj_=>[iP p].getD j_ .any)]] _)]<|rR (iq (EN a b p)) (.jl rfl:E.le (iq (kQ (λi=>rm (a.getD i ix) (b.getD i ix) p) a.length)) (iq (EN a b p)))) 
def ajx(x y:Iv)(hx:x.iy):ik 310 [iz x,iz y] (iz (mz x)):=
 ak call310 func310 (af [.c (Jw x aD)]) 
def ajy(a:List Iv)(n:Nat)(h1:1<=n)(nQ:n<=17)(ha:kO n a):ik 274 [iq a] (iq (Ac a)):=by
 have la:=ha.len;exact ak call274 func274 (ae [.c (Pm a a n h1 nQ la la _ _ (λi=>mz (a.getD i ix)) λi hi=>ajx _ _ (ha.ok i):ik 303 [iq a,iq a,.fn 310 []] _)]<|rR (iq (Ac a)) (.jl rfl:E.le (iq (kQ (λi=>mz (a.getD i ix)) a.length)) (iq (Ac a)))) 
def Xt(a b:List Iv)(i k p:Nat)(hi:i<=k)(hk:k<a.length)(hkb:k<b.length)(l17:b.length<=17)(va:mZ a)(vb:mZ b)(iB:8<=p)(iw:p<=512):ik 307 [iP i,(.jC 1 λj_=>[iq a].getD j_ .any),(.jC 1 λj_=>[iq b].getD j_ .any),(.jC 1 λj_=>[iP k].getD j_ .any),(.jC 1 λj_=>[iP p].getD j_ .any)] (iz (iV (a.getD i ix) (b.getD (k-i) ix) p)):=by
 have v1:=va i;have v2:=vb (k-i);exact ak call307 func307 (af [iX (i:Int) (a.length) aC,iL ((k:Int)-i) aC,.o 14 (aq ((k:Int)-i) ((k-i:Nat):Int) aC),
  iX ((k-i:Nat):Int) (b.length) aC,.c (uA (a.getD i ix) (b.getD (k-i) ix) p aD aD aC aC)]) 
def ajw(a b:List Iv)(n p:Nat)(h1:1<=n)(nQ:n<=17)(ha:kO n a)(hb:kO n b)(iB:8<=p)(iw:p<=512):ik 272 [iq a,iq b,iP p] (iq (tc a b p)):=by
 have la:=ha.len;have lb:=hb.len;exact ak call272 func272 (ae [.o 11 (.e (CS _ _):aj (.sl true 2 1 λi_ j_=>[iq a,iq b].getD (i_*1+j_) (.v (.bool false))) (lv [a,b])),.c (vZ [a,b] n aC aC aH (Ig aD aD)),.a (aC:0<=(0:Int)/\(0:Int)<=((a.length:Int):Int)),.a (aC:((88:Nat):Int)*(a.length:Int)<=281474976710656/\((a.length:Int):Int)<=9223372036854775807),.s (Sp.kE (Xu a b p) 0 a.length aC (λx hx nd=>by
    have sx:=qj (mo p (λi=>iV (a.getD i ix) (b.getD (x-i) ix) p) 0 x);exact jh (ae [tT 20 ((x:Int)<a.length) aC,.c (Kk 0 x p _ aC _ _ (λi=>iV (a.getD i ix) (b.getD (x-i) ix) p) aC iB iw λi h1 h2=>⟨oV _ _ aC aC,Xt a b i x p aC aC aC aC ha.ok hb.ok iB iw⟩:ik 306 [iP 0,iP x,iP p,.fn 307 [(.jC 1 λj_=>[iq a].getD j_ .any),(.jC 1 λj_=>[iq b].getD j_ .any),(.jC 1 λj_=>[iP x].getD j_ .any),(.jC 1 λj_=>[iP p].getD j_ .any)]] _),.o 27 (.e (lJ _):aj (.sl true 1 7 λi_ j_=>(iQ (mo p (λi=>iV (a.getD i ix) (b.getD (x-i) ix) p) 0 x)).getD (i_*7+j_) (.v (.bool false))) (iq [mo p (λi=>iV (a.getD i ix) (b.getD (x-i) ix) p) 0 x])),.a (aC:(x+[mo p (λi=>iV (a.getD i ix) (b.getD (x-i) ix) p) 0 x].length)*88<=140737488355328),iL ((x:Int)+1) aC]<|.e (af [.b 16 (Me rfl rfl:Bx.le (.row true 39 (x+[mo p (λi=>iV (a.getD i ix) (b.getD (x-i) ix) p) 0 x].length) 7 (λi_ j_=>if i_<x then(jc (kQ (λk=>mo p (λi=>iV (a.getD i ix) (b.getD (k-i) ix) p) 0 k) x)) i_ j_ else(E.kT (iq [mo p (λi=>iV (a.getD i ix) (b.getD (x-i) ix) p) 0 x])) (i_-x) j_)) (.row true 39 (x+1) 7 (jc (kQ (λk=>mo p (λi=>iV (a.getD i ix) (b.getD (k-i) ix) p) 0 k) (x+1)))))])) aF)
  (λhx=>by
    exact jh (ae [tF 20 ((a.length:Int)<a.length) aC,.z 16]<|.e (af [.o 7 (.e (BJ (wi _ _).symm):aj (.sl true a.length 7 (jc (kQ (λk=>mo p (λi=>iV (a.getD i ix) (b.getD (k-i) ix) p) 0 k) a.length))) (iq (kQ (λk=>mo p (λi=>iV (a.getD i ix) (b.getD (k-i) ix) p) 0 k) a.length)))])) aF) aI:kD 5 f272 (Xu a b p 0) (.exit 0) ⟨31,true,[(7,.e (iq (kQ (λk=>mo p (λi=>iV (a.getD i ix) (b.getD (k-i) ix) p) 0 k) a.length)))],[]⟩) (af [.b 16 (O7:Bx.le (.row true 39 0 7 (λ_ j_=>au.getD j_ .any)) (.row true 39 0 7 (jc (kQ (λk=>mo p (λi=>iV (a.getD i ix) (b.getD (k-i) ix) p) 0 k) 0))))])]<|rR (iq (tc a b p)) (.jl rfl:E.le (iq (kQ (λk=>mo p (λi=>iV (a.getD i ix) (b.getD (k-i) ix) p) 0 k) a.length)) (iq (tc a b p)))) 
def OU{T1 T0 x:Nat}{f:Nat->List Iv->Iv}{y:Iv}(hy:y=f x (jr f x)):Bx.le (.jU true T1 T0 1 7 (λq=>if q=0 then x+[y].length else x) (λq i j=>if q=0 then(if i<x then jc (jr f x) i j else(E.kT (iq [y])) (i-x) j)else jc (jr f x) i j) none)
 (.jU true T1 T0 1 7 (λ_=>x+1) (λ_=>jc (jr f (x+1))) none):=by
 subst hy;refine .jU rfl (λk hk=>?_) (λk i j hk hi hj=>?_)
 .obtain rfl:k=0:= aC ;rfl
 .obtain rfl:k=0:= aC ;refine⟨.jl ?_,s7 _ _ hj⟩;rw[bw rfl];have hi:i<x+1:=hi;by_cases h:i<x
  .rw [bw h];show(iQ ((jr f x).getD i ix)).getD j .any=(iQ ((jr f x++[f x (jr f x)]).getD i ix)).getD j .any;congr 2;simp[bC,dp (show i<(jr f x).length by rw[yQ];exact h)]
  .obtain rfl:i=x:= aC ;rw[bu h,dq];show(iQ (f i (jr f i))).getD j .any=(iQ ((jr f i++[f i (jr f i)]).getD i ix)).getD j .any;congr 2;have e:=yQ f i;simp[bC,e]
def ah9{T1 T0:Nat}{ln:Nat->Nat}{el el':Nat->Nat->Nat->E}(h:∀ k,k<1->ln k=0):Bx.le (.jU true T1 T0 1 7 ln el none) (.jU true T1 T0 1 7 (λ_=>0) el' none):=
 .jU rfl h λk i j hk hi=>by rw[h k hk]at hi;exact absurd hi (bF i)
def ajr(out b:List Iv)(i k p m:Nat)(hi:i<m)(hik:i<=k)(hkb:k<b.length)(l17:b.length<=17)(vo:mZ out)(vb:mZ b)(iB:8<=p)(iw:p<=512):ik 309 [iP i,(.jC 1 λ_=>.sl true m 7 (jc out)),(.jC 1 λj_=>[iq b].getD j_ .any),(.jC 1 λj_=>[iP k].getD j_ .any),(.jC 1 λj_=>[iP p].getD j_ .any)] (iz (iV (out.getD i ix) (b.getD (k-i) ix) p)):=by
 have v1:=vo i;have v2:=vb (k-i);exact ak call309 func309 (af [iX (i:Int) m aC,iL ((k:Int)-i) aC,.o 14 (aq ((k:Int)-i) ((k-i:Nat):Int) aC),
  iX ((k-i:Nat):Int) (b.length) aC,.c (uA (out.getD i ix) (b.getD (k-i) ix) p aD aD aC aC)]) 
def ajs(a b:List Iv)(n p:Nat)(h1:1<=n)(nQ:n<=17)(ha:kO n a)(hb:kO n b)(iB:8<=p)(iw:p<=512):ik 273 [iq a,iq b,iP p] (iq (AP a b p)):=by
 have la:=ha.len;have lb:=hb.len;have vb0:=hb.ok 0;exact ak call273 func273 (ae [.o 12 (.e (CS _ _):aj (.sl true 2 1 λi_ j_=>[iq a,iq b].getD (i_*1+j_) (.v (.bool false))) (lv [a,b])),.c (vZ [a,b] n aC aC aH (Ig aD aD)),.a (aC:0<=(0:Int)/\(0:Int)<=((a.length:Int):Int)),.a (aC:((88:Nat):Int)*(a.length:Int)<=281474976710656/\((a.length:Int):Int)<=9223372036854775807),.s (Sp.kE (Xj a b p) 0 a.length aC (λx hx nd=>by
    have qd:kO x (jr (rA a b p) x):=BG x λk l _ _=>oZ _ _ aC aC 
    have oE:(λ_:Nat=>x) 0=x:=rfl;have sx:=qj (jz (pI p (a.getD x ix) (λi=>iV ((jr (rA a b p) x).getD i ix) (b.getD (x-i) ix) p) 0 x) (b.getD 0 ix) p);have vls:=Jz (aC:1<=p) (aC:p<=4096) (ha.ok x) (T:=(λi=>iV ((jr (rA a b p) x).getD i ix) (b.getD (x-i) ix) p)) (a:=0) x λ_ _ _=>oV _ _ aC aC 
    exact jh (ae [tT 21 ((x:Int)<a.length) aC,iX (x:Int) (a.length) aC,iL ((x:Int)-1) aC,.c (Xq _ (ha.ok x) 0 x p _ aC _ _ (λi=>iV ((jr (rA a b p) x).getD i ix) (b.getD (x-i) ix) p) aC iB iw λi h1 h2=>⟨oV _ _ aC aC,ajr _ b i x p _ (aC:i<x) aC aC aC qd.ok hb.ok iB iw⟩:ik 308 [iz (a.getD x ix),iP 0,iP ((x:Int)-1),iP p,.fn 309 [(.jC 1 λ_=>(.sl true ((λ_=>x) 0) 7 ((λ_=>jc (jr (rA a b p) x)) 0))),(.jC 1 λj_=>[iq b].getD j_ .any),(.jC 1 λj_=>[iP x].getD j_ .any),(.jC 1 λj_=>[iP p].getD j_ .any)]] _),.a (Gq _:vY (iz (pI p (a.getD x ix) (λi=>iV ((jr (rA a b p) x).getD i ix) (b.getD (x-i) ix) p) 0 x))),.a (aC:0<1),iX 0 (b.length) aC,.c (tY (pI p (a.getD x ix) (λi=>iV ((jr (rA a b p) x).getD i ix) (b.getD (x-i) ix) p) 0 x) (b.getD 0 ix) p aD aD aC aC),.o 39 (.e (lJ _):aj (.sl true 1 7 λi_ j_=>(iQ (jz (pI p (a.getD x ix) (λi=>iV ((jr (rA a b p) x).getD i ix) (b.getD (x-i) ix) p) 0 x) (b.getD 0 ix) p)).getD (i_*7+j_) (.v (.bool false))) (iq [jz (pI p (a.getD x ix) (λi=>iV ((jr (rA a b p) x).getD i ix) (b.getD (x-i) ix) p) 0 x) (b.getD 0 ix) p])),.a (aC:0<1),.a (aC:((λ_=>x) 0+[jz (pI p (a.getD x ix) (λi=>iV ((jr (rA a b p) x).getD i ix) (b.getD (x-i) ix) p) 0 x) (b.getD 0 ix) p].length)*88<=140737488355328),.a (rfl:0=0),.a (rfl:0=0),.a (aC:0<1),iL ((x:Int)+1) aC]<|.e (af [.b 7 (OU rfl:Bx.le (.jU true 26 39 1 7 (λq=>if q=0 then(λ_=>x) q+[jz (pI p (a.getD x ix) (λi=>iV ((jr (rA a b p) x).getD i ix) (b.getD (x-i) ix) p) 0 x) (b.getD 0 ix) p].length else(λ_=>x) q) (λq i j=>if q=0 then(if i<(λ_=>x) q then(λ_=>jc (jr (rA a b p) x)) q i j else(E.kT (iq [jz (pI p (a.getD x ix) (λi=>iV ((jr (rA a b p) x).getD i ix) (b.getD (x-i) ix) p) 0 x) (b.getD 0 ix) p])) (i-(λ_=>x) q) j)else(λ_=>jc (jr (rA a b p) x)) q i j) .none) (.jU true 26 39 1 7 (λ_=>(x+1)) (λ_=>jc (jr (rA a b p) (x+1))) .none))])) aF)
  (λhx=>by
    exact jh (af [tF 21 ((a.length:Int)<a.length) aC]) aF) aI:kD 5 f273 (Xj a b p 0) (.exit 0) ⟨43,true,[(7,.nk 7 1 0 0)],[(7,.jU true 26 39 1 7 (λ_=>a.length) (λ_=>jc (jr (rA a b p) a.length)) .none)]⟩) (af [.b 7 (ah9 (λ_ _=>rfl):Bx.le (.jU true 26 39 1 7 (λ_=>0) (λ_=>λ_ j_=>au.getD j_ .any) .none) (.jU true 26 39 1 7 (λ_=>0) (λ_=>jc (jr (rA a b p) 0)) .none))]),.a (aC:0<1)]<|rR (iq (AP a b p)) (BJ (xs:=AP a b p) (by unfold AP;rw[yQ]):E.le (.sl true ((λ_=>a.length) 0) 7 ((λ_=>jc (jr (rA a b p) a.length)) 0)) (iq (AP a b p)))) 
def Xv(a b:List Iv)(p:Nat)(x:Nat):PS:=⟨31,true,[(19,.e (iP x)),(18,.e (iP a.length)),(7,.own 16),(5,.box 5 0),(4,.box 4 0),(3,.box 3 0)],[(16,.row true 39 x 7 (jc (kQ (λk=>mo p (λi=>iV (a.getD i ix) (b.getD (k-i) ix) p) 0 k) x))),(5,.cells 3 [iP p]),(4,.cells 26 [iq b]),(3,.cells 26 [iq a])]⟩
def Xy(a:List Iv)(p k:Nat)(x:Nat):PS:=⟨71,true,[(39,.e (iP x)),(38,.e (iP a.length)),(7,.own 15),(0,.e (iq a)),(1,.e (iP k)),(2,.e (iP p))],[(15,.row true 39 a.length 7 (jc (kQ (λi=>if i<x then(λi=>iV (kn 0) (a.getD i ix) p) i else(λi=>a.getD i ix) i) a.length)))]⟩
def Xz(a:List Iv)(p k:Nat)(x:Nat):PS:=⟨71,true,[(55,.e (iP x)),(7,.own 60),(54,.e (iP ((k:Int)-1))),(0,.e (iq a)),(1,.e (iP k)),(2,.e (iP p))],[(60,.row true 39 ((py a p x).length) 7 (jc (py a p x)))]⟩
noncomputable def Xn(a:List Iv)(p:Nat)(x:Nat):PS:=⟨43,true,[(6,.box 6 0),(5,.nk 5 1 0 0),(3,.box 3 0),(2,.box 2 0)],[(6,.cells 3 [iP x]),(5,.jU true 26 39 1 7 (λ_=>x) (λ_=>jc (jr (qB a p) x)) .none),(3,.cells 3 [iP p]),(2,.cells 26 [iq a])]⟩
def Xw(a b:List Iv)(n p:Nat)(h1:1<=n)(nQ:n<=17)(ha:kO n a)(hb:kO n b)(iB:8<=p)(iw:p<=512):tv 272 [iq a,iq b,iP p] true 39 a.length 7 (jc (tc a b p)):=by
 have la:=ha.len;have lb:=hb.len;exact PF call272 func272 (ae [.o 11 (.e (CS _ _):aj (.sl true 2 1 λi_ j_=>[iq a,iq b].getD (i_*1+j_) (.v (.bool false))) (lv [a,b])),.c (vZ [a,b] n aC aC aH (Ig aD aD)),.a (aC:0<=(0:Int)/\(0:Int)<=((a.length:Int):Int)),.a (aC:((88:Nat):Int)*(a.length:Int)<=281474976710656/\((a.length:Int):Int)<=9223372036854775807),.s (Sp.kE (Xv a b p) 0 a.length aC (λx hx nd=>by
    have sx:=qj (mo p (λi=>iV (a.getD i ix) (b.getD (x-i) ix) p) 0 x);exact jh (ae [tT 20 ((x:Int)<a.length) aC,.c (Kk 0 x p _ aC _ _ (λi=>iV (a.getD i ix) (b.getD (x-i) ix) p) aC iB iw λi h1 h2=>⟨oV _ _ aC aC,Xt a b i x p aC aC aC aC ha.ok hb.ok iB iw⟩:ik 306 [iP 0,iP x,iP p,.fn 307 [(.jC 1 λj_=>[iq a].getD j_ .any),(.jC 1 λj_=>[iq b].getD j_ .any),(.jC 1 λj_=>[iP x].getD j_ .any),(.jC 1 λj_=>[iP p].getD j_ .any)]] _),.o 27 (.e (lJ _):aj (.sl true 1 7 λi_ j_=>(iQ (mo p (λi=>iV (a.getD i ix) (b.getD (x-i) ix) p) 0 x)).getD (i_*7+j_) (.v (.bool false))) (iq [mo p (λi=>iV (a.getD i ix) (b.getD (x-i) ix) p) 0 x])),.a (aC:(x+[mo p (λi=>iV (a.getD i ix) (b.getD (x-i) ix) p) 0 x].length)*88<=140737488355328),iL ((x:Int)+1) aC]<|.e (af [.b 16 (Me rfl rfl:Bx.le (.row true 39 (x+[mo p (λi=>iV (a.getD i ix) (b.getD (x-i) ix) p) 0 x].length) 7 (λi_ j_=>if i_<x then(jc (kQ (λk=>mo p (λi=>iV (a.getD i ix) (b.getD (k-i) ix) p) 0 k) x)) i_ j_ else(E.kT (iq [mo p (λi=>iV (a.getD i ix) (b.getD (x-i) ix) p) 0 x])) (i_-x) j_)) (.row true 39 (x+1) 7 (jc (kQ (λk=>mo p (λi=>iV (a.getD i ix) (b.getD (k-i) ix) p) 0 k) (x+1)))))])) aF)
  (λhx=>by
    exact jh (af [tF 20 ((a.length:Int)<a.length) aC]) aF) aI:kD 5 f272 (Xv a b p 0) (.exit 0) ⟨31,true,[(7,.own 16)],[(16,.row true 39 a.length 7 (jc (kQ (λk=>mo p (λi=>iV (a.getD i ix) (b.getD (k-i) ix) p) 0 k) a.length)))]⟩) (af [.b 16 (O7:Bx.le (.row true 39 0 7 (λ_ j_=>au.getD j_ .any)) (.row true 39 0 7 (jc (kQ (λk=>mo p (λi=>iV (a.getD i ix) (b.getD (k-i) ix) p) 0 k) 0))))])]<|.rb (.refl _:Bx.le (.row true 39 a.length 7 (jc (kQ (λk=>mo p (λi=>iV (a.getD i ix) (b.getD (k-i) ix) p) 0 k) a.length))) (.row true 39 a.length 7 (jc (tc a b p))))) aF 
def Po{n:Nat}{xs:List Iv}{y:Iv}(h:n=xs.length):E.le (.sl true n 7 λi' j'=>if i'=0/\0<=j'/\j'<0+7 then(iQ y).getD (j'-0) .any else jc xs i' j') (iq (xs.set 0 y)):=by
 have hl:(xs.set 0 y).length=n:=by simp[h]
 unfold iq;rw[hl];refine .sl λi j hi hj=>⟨?_,s7 _ _ hj⟩
 by_cases h0:i=0
 .subst h0;rw[bw ⟨rfl,cz _,aC⟩];have e:(xs.set 0 y).getD 0 ix=y:=by
   cases xs with
   |nil=>simp at h;omega
   |cons x xs=>rfl
  rw[e];exact .refl _
 .rw [bu λq=>h0 q.1];have e:(xs.set 0 y).getD i ix=xs.getD i ix:=by
   simp only[bC,ana,bu λq:0=i=>h0 q.symm]
  rw[e];exact .refl _
def ajI{T n x:Nat}{f g:Nat->Iv}{y:Iv}(hy:y=f x):Bx.le (.row true T n 7 λi' j'=>if i'=x/\0<=j'/\j'<0+7 then(iQ y).getD (j'-0) .any else jc (kQ (λi=>if i<x then f i else g i) n) i' j')
 (.row true T n 7 (jc (kQ (λi=>if i<x+1 then f i else g i) n))):=.row rfl λi j hi hj=>⟨.jl (by
 subst hy;by_cases h:i=x
 .subst h;rw[bw ⟨rfl,cz _,aC⟩];show _=(iQ ((kQ _ n).getD i ix)).getD j .any;rw[yb hi,bw (fS _)];rfl
 .rw [bu λq=>h q.1];show(iQ ((kQ _ n).getD i ix)).getD j .any=(iQ ((kQ _ n).getD i ix)).getD j .any;rw[yb hi,yb hi];by_cases q:i<x
  .rw [bw q,bw aC]
  .rw [bu q,bu aC]),s7 _ _ hj⟩
def adl(a:List Iv):kQ (λi=>a.getD i ix) a.length=a:=by
 apply gM (wi _ _);intro i h1 h2;simp[kQ,bC,h2]
def adk{f g:Nat->Iv}{n:Nat}(h:∀ i,i<n->f i=g i):kQ f n=kQ g n:=by
 unfold kQ;exact fv λi hi=>h i (cC.1 hi)
def Gz{a:List Iv}{p:Nat}:∀ k,(py a p k).length=a.length
 | 0=>rfl
 |k+1=>by simp only[py,tc,wi];exact Gz k
def ajA(a:List Iv)(n p k:Nat)(h1:1<=n)(nQ:n<=17)(ha:kO n a)(iB:8<=p)(iw:p<=512)(hk:k<=16)(h0:k=0):ik 275 [iq a,iP k,iP p] (iq (th a k p)):=by
 have la:=ha.len;have va0:=ha.ok 0;exact ak call275 func275 (ae [.o 11 (.e (Br _):aj (.sl true 1 1 λi_ j_=>[iq a].getD (i_*1+j_) (.v (.bool false))) (lv [a])),.c (vZ [a] n aC aC aH (AE aD)),.cn (Dw _ aC aC:tv 63 [iq a] true 39 a.length 7 (jc a)),tF 18 ((k:Int)<0) aC,tF 21 (16<(k:Int)) aC,ah 36 ((k:Int)==0) (bj aC),.s (Sp.kE (Xy a p k) 0 a.length aC (λx hx nd=>by
    have vx:=ha.ok x;have v0:=yT 0 aC;exact jh (ae [tT 40 ((x:Int)<a.length) aC,.c (BL 0 aC),iX (x:Int) (a.length) aC,.c (uA (kn 0) (a.getD x ix) p aD aD aC aC),
     iX (x:Int) (a.length) aC,.a (aC:x<a.length),iL ((x:Int)+1) aC]<|.e (af [.b 15 (ajI rfl:Bx.le (.row true 39 a.length 7 (λi' j'=>if i'=x/\0<=j'/\j'<0+7 then[bP (((iV (kn 0) (a.getD x ix) p).lo).neg),iu (im (((iV (kn 0) (a.getD x ix) p).lo).m)),iP (((iV (kn 0) (a.getD x ix) p).lo).e),bP (((iV (kn 0) (a.getD x ix) p).hi).neg),iu (im (((iV (kn 0) (a.getD x ix) p).hi).m)),iP (((iV (kn 0) (a.getD x ix) p).hi).e),bP ((iV (kn 0) (a.getD x ix) p).all)].getD (j'-0) .any else(jc (kQ (λi=>if i<x then(λi=>iV (kn 0) (a.getD i ix) p) i else(λi=>a.getD i ix) i) a.length)) i' j')) (.row true 39 a.length 7 (jc (kQ (λi=>if i<(x+1)then(λi=>iV (kn 0) (a.getD i ix) p) i else(λi=>a.getD i ix) i) a.length))))])) aF)
  (λhx=>by
    exact jh (af [tF 40 ((a.length:Int)<a.length) aC]) aF) aI:kD 13 f275 (Xy a p k 0) (.exit 3) ⟨71,true,[(7,.own 15),(0,.e (iq a)),(1,.e (iP k)),(2,.e (iP p))],[(15,.row true 39 a.length 7 (jc (kQ (λi=>if i<a.length then(λi=>iV (kn 0) (a.getD i ix) p) i else(λi=>a.getD i ix) i) a.length)))]⟩) (af [.b 15 (.jl (by simp only[bF,bE,adl]):Bx.le (.row true 39 a.length 7 (jc a)) (.row true 39 a.length 7 (jc (kQ (λi=>if i<0 then(λi=>iV (kn 0) (a.getD i ix) p) i else(λi=>a.getD i ix) i) a.length))))]),
  iL ((k:Int)-1) aC,.u 2,tF 56 (0<((k:Int)-1)) aC,iX 0 (a.length) aC,ag [iz (a.getD 0 ix),iP k,iP p] (Fe _ _ _ aD aC aC aC),iX 0 (a.length) aC,.a (aC:0<a.length)]<|rR (iq (th a k p)) ((Po (wi _ _).symm).trans (.jl (by unfold th Ey;rw[bw h0,adk λi hi=>bw hi])):E.le (.sl true a.length 7 (λi' j'=>if i'=0/\0<=j'/\j'<0+7 then[bP (((lk (a.getD 0 ix) k p).lo).neg),iu (im (((lk (a.getD 0 ix) k p).lo).m)),iP (((lk (a.getD 0 ix) k p).lo).e),bP (((lk (a.getD 0 ix) k p).hi).neg),iu (im (((lk (a.getD 0 ix) k p).hi).m)),iP (((lk (a.getD 0 ix) k p).hi).e),bP ((lk (a.getD 0 ix) k p).all)].getD (j'-0) .any else(jc (kQ (λi=>if i<a.length then(λi=>iV (kn 0) (a.getD i ix) p) i else(λi=>a.getD i ix) i) a.length)) i' j')) (iq (th a k p)))) 
def ajB(a:List Iv)(n p k:Nat)(h1:1<=n)(nQ:n<=17)(ha:kO n a)(iB:8<=p)(iw:p<=512)(hk:k<=16)(h0:k=1):ik 275 [iq a,iP k,iP p] (iq (th a k p)):=by
 have la:=ha.len;have va0:=ha.ok 0;exact ak call275 func275 (ae [.o 11 (.e (Br _):aj (.sl true 1 1 λi_ j_=>[iq a].getD (i_*1+j_) (.v (.bool false))) (lv [a])),.c (vZ [a] n aC aC aH (AE aD)),.cn (Dw _ aC aC:tv 63 [iq a] true 39 a.length 7 (jc a)),tF 18 ((k:Int)<0) aC,tF 21 (16<(k:Int)) aC,ai 36 ((k:Int)==0) (bh aC),iL ((k:Int)-1) aC,.u 2,tF 56 (0<((k:Int)-1)) aC,iX 0 (a.length) aC,ag [iz (a.getD 0 ix),iP k,iP p] (Fe _ _ _ aD aC aC aC),iX 0 (a.length) aC,.a (aC:0<a.length)]<|rR (iq (th a k p)) ((Po rfl).trans (.jl (by unfold th Ey;rw[bu aC,h0];rfl)):E.le (.sl true a.length 7 (λi' j'=>if i'=0/\0<=j'/\j'<0+7 then[bP (((lk (a.getD 0 ix) k p).lo).neg),iu (im (((lk (a.getD 0 ix) k p).lo).m)),iP (((lk (a.getD 0 ix) k p).lo).e),bP (((lk (a.getD 0 ix) k p).hi).neg),iu (im (((lk (a.getD 0 ix) k p).hi).m)),iP (((lk (a.getD 0 ix) k p).hi).e),bP ((lk (a.getD 0 ix) k p).all)].getD (j'-0) .any else(jc a) i' j')) (iq (th a k p)))) 
def WU{T n n':Nat}{xs:List Iv}(h:n=n'):Bx.le (.row true T n 7 (jc xs)) (.row true T n' 7 (jc xs)):=.row h λi j _ hj=>⟨.refl _,s7 _ _ hj⟩
def ajC(a:List Iv)(n p k:Nat)(h1:1<=n)(nQ:n<=17)(ha:kO n a)(iB:8<=p)(iw:p<=512)(hk:k<=16)(h0:2<=k):ik 275 [iq a,iP k,iP p] (iq (th a k p)):=by
 have la:=ha.len;have va0:=ha.ok 0;have D1:=Gz (a:=a) (p:=p) (k-1);exact ak call275 func275 (ae [.o 11 (.e (Br _):aj (.sl true 1 1 λi_ j_=>[iq a].getD (i_*1+j_) (.v (.bool false))) (lv [a])),.c (vZ [a] n aC aC aH (AE aD)),.cn (Dw _ aC aC:tv 63 [iq a] true 39 a.length 7 (jc a)),tF 18 ((k:Int)<0) aC,tF 21 (16<(k:Int)) aC,ai 36 ((k:Int)==0) (bh aC),iL ((k:Int)-1) aC,.u 2,tT 56 (0<((k:Int)-1)) aC,.cn (Xw a a n p h1 nQ ha ha iB iw:tv 272 [.sl true a.length 7 (jc a),iq a,iP p] true 39 a.length 7 (jc (tc a a p))),.a (U7 _:E3 a.length 7 (jc (tc a a p))),
  iL (0+1) aC,.k [55,7,54,0,1,2] [60],.s (Sp.kE (Xz a p k) 1 (k-1) aC (λx hx nd=>by
    have D1:=Gz (a:=a) (p:=p) x;exact jh (ae [tT 56 ((x:Int)<((k:Int)-1)) aC,.cn (Xw (py a p x) a n p h1 nQ (N5 aC aC ha x) ha iB iw:tv 272 [.sl true ((py a p x).length) 7 (jc (py a p x)),iq a,iP p] true 39 ((py a p x).length) 7 (jc (tc (py a p x) a p))),.a (U7 _:E3 ((py a p x).length) 7 (jc (tc (py a p x) a p))),iL ((x:Int)+1) aC]<|.e (af [.b 60 (WU (xs:=(py a p (x+1))) (by simp only[Gz]):Bx.le (.row true 39 ((py a p x).length) 7 (jc (tc (py a p x) a p))) (.row true 39 ((py a p (x+1)).length) 7 (jc (py a p (x+1)))))])) aF)
  (λhx=>by
    exact jh (af [tF 56 (((k-1:Nat):Int)<((k:Int)-1)) aC]) aF) aI:kD 18 f275 (Xz a p k 1) (.exit 5) ⟨71,true,[(7,.own 60),(0,.e (iq a)),(1,.e (iP k)),(2,.e (iP p))],[(60,.row true 39 ((py a p (k-1)).length) 7 (jc (py a p (k-1))))]⟩) (af [.o 55 (aq (0+1) 1 aP),.b 60 (WU (xs:=(py a p 1)) (by simp only[Gz]):Bx.le (.row true 39 a.length 7 (jc (tc a a p))) (.row true 39 ((py a p 1).length) 7 (jc (py a p 1))))]),
  iX 0 (a.length) aC,ag [iz (a.getD 0 ix),iP k,iP p] (Fe _ _ _ aD aC aC aC),iX 0 ((py a p (k-1)).length) aC,.a (aC:0<(py a p (k-1)).length)]<|rR (iq (th a k p)) ((Po rfl).trans (.jl (by unfold th Ey;rw[bu aC])):E.le (.sl true ((py a p (k-1)).length) 7 (λi' j'=>if i'=0/\0<=j'/\j'<0+7 then[bP (((lk (a.getD 0 ix) k p).lo).neg),iu (im (((lk (a.getD 0 ix) k p).lo).m)),iP (((lk (a.getD 0 ix) k p).lo).e),bP (((lk (a.getD 0 ix) k p).hi).neg),iu (im (((lk (a.getD 0 ix) k p).hi).m)),iP (((lk (a.getD 0 ix) k p).hi).e),bP ((lk (a.getD 0 ix) k p).all)].getD (j'-0) .any else(jc (py a p (k-1))) i' j')) (iq (th a k p)))) 
def ajD(a:List Iv)(n p k:Nat)(h1:1<=n)(nQ:n<=17)(ha:kO n a)(iB:8<=p)(iw:p<=512)(hk:k<=16):ik 275 [iq a,iP (k:Int),iP (p:Int)] (iq (th a k p)):=by
 by_cases h0:k=0
 .exact ajA a n p k h1 nQ ha iB iw hk h0
 by_cases h2:k=1
 .exact ajB a n p k h1 nQ ha iB iw hk h2
 .exact ajC a n p k h1 nQ ha iB iw hk aC 
def WB{T1 T0:Nat}{f:Nat->List Iv->Iv}{y:Iv}{e0 e1:Nat->Nat->Nat->E}(hy:y=f 0 []):Bx.le (.jU true T1 T0 1 7 (λq=>if q=0 then 0+[y].length else 0) (λq i j=>if q=0 then(if i<0 then e0 q i j else(E.kT (iq [y])) (i-0) j)else e1 q i j) none)
 (.jU true T1 T0 1 7 (λ_=>1) (λ_=>jc (jr f 1)) none):=by
 subst hy;refine .jU rfl (λk hk=>?_) (λk i j hk hi hj=>?_)
 .obtain rfl:k=0:= aC ;rfl
 .obtain rfl:k=0:= aC ;rw[bw rfl]at hi;have hi:i<0+1:=hi;obtain rfl:i=0:= aC ;exact⟨.jl rfl,s7 _ _ hj⟩
def aia{T:Nat}{f:Nat->List Iv->Iv}{y:Iv}{e:Nat->Nat->E}(hy:y=f 0 []):Bx.le (.row true T (0+[y].length) 7 λa j=>if a<0 then e a j else(E.kT (iq [y])) (a-0) j) (.row true T 1 7 (jc (jr f 1))):=by
 subst hy;refine .row rfl λi j hi hj=>?_
 have hi:i<0+1:=hi;obtain rfl:i=0:= aC ;exact⟨.jl rfl,s7 _ _ hj⟩
def ajt(a out:List Iv)(i k p m:Nat)(Th:1<=i)(hi:i<=k)(hk:k<a.length)(hm:k<=m)(l17:a.length<=17)(va:mZ a)(vo:mZ out)(iB:8<=p)(iw:p<=512):ik 313 [iP i,(.jC 1 λj_=>[iq a].getD j_ .any),(.jC 1 λj_=>[iP p].getD j_ .any),(.jC 1 λ_=>.sl true m 7 (jc out)),(.jC 1 λj_=>[iP k].getD j_ .any)] (iz (iV (iV (kn i) (a.getD i ix) p) (out.getD (k-i) ix) p)):=by
 have v1:=va i;have v2:=vo (k-i);have v3:=yT i aC;have v4:(iV (kn i) (a.getD i ix) p).iy:=oV _ _ aC aC;exact ak call313 func313 (af [.c (BL i aC),iX (i:Int) (a.length) aC,.c (uA (kn i) (a.getD i ix) p aD aD aC aC),iL ((k:Int)-i) aC,.o 18 (aq ((k:Int)-i) ((k-i:Nat):Int) aC),iX ((k-i:Nat):Int) m aC,.c (uA (iV (kn i) (a.getD i ix) p) (out.getD (k-i) ix) p aD aD aC aC)]) 
def aju(a:List Iv)(n p:Nat)(h1:1<=n)(nQ:n<=17)(ha:kO n a)(iB:8<=p)(iw:p<=512)(hF:uQ):ik 276 [iq a,iP p] (iq (AU a p)):=by
 have la:=ha.len;have va0:=ha.ok 0;have oO:(λ_:Nat=>(0:Nat)) 0=0:=rfl;have Tz:=qj (ve (a.getD 0 ix) p);exact ak call276 func276 (ae [.o 9 (.e (Br _):aj (.sl true 1 1 λi_ j_=>[iq a].getD (i_*1+j_) (.v (.bool false))) (lv [a])),.c (vZ [a] n aC aC aH (AE aD)),.a (aC:0<=(0:Int)/\(0:Int)<=((a.length:Int):Int)),.a (aC:((88:Nat):Int)*(a.length:Int)<=281474976710656/\((a.length:Int):Int)<=9223372036854775807),.a (aC:0<1),
  iX 0 (a.length) aC,ag [iz (a.getD 0 ix),iP p] (R8 _ aD _ aC aC hF),.o 21 (.e (lJ _):aj (.sl true 1 7 λi_ j_=>(iQ (ve (a.getD 0 ix) p)).getD (i_*7+j_) (.v (.bool false))) (iq [ve (a.getD 0 ix) p])),.a (aC:0<1),.a (aC:((λ_=>0) 0+[ve (a.getD 0 ix) p].length)*88<=140737488355328),.a (rfl:0=0),.a (rfl:0=0),.a (aC:0<1),.s (Sp.kE (Xn a p) 1 a.length aC (λx hx nd=>by
    have oE:(λ_:Nat=>x) 0=x:=rfl;have qd:kO x (jr (qB a p) x):=BG x λk l _ _=>by unfold qB;split<;>first|exact L4 _ _|exact oZ _ _ aC aC 
    have vs:=Hj (aC:1<=p) (aC:p<=4096) (T:=(λi=>(iV (iV (kn i) (a.getD i ix) p) ((jr (qB a p) x).getD (x-i) ix) p))) (a:=1) (x-1) λ_ _ _=>oV _ _ aC aC 
    have vw:=yT x aC;have sx:=qj (jz (mo p (λi=>(iV (iV (kn i) (a.getD i ix) p) ((jr (qB a p) x).getD (x-i) ix) p)) 1 (x-1)) (kn x) p);exact jh (ae [tT 26 ((x:Int)<a.length) aC,.c (Kk 1 (x-1) p _ aC _ _ (λi=>(iV (iV (kn i) (a.getD i ix) p) ((jr (qB a p) x).getD (x-i) ix) p)) aC iB iw λi h1 h2=>⟨oV _ _ aC aC,ajt a _ i x p _ h1 aC aC aC aC ha.ok qd.ok iB iw⟩:ik 306 [iP 1,iP x,iP p,.fn 313 [(.jC 1 λj_=>[iq a].getD j_ .any),(.jC 1 λj_=>[iP p].getD j_ .any),(.jC 1 λ_=>(.sl true ((λ_=>x) 0) 7 ((λ_=>jc (jr (qB a p) x)) 0))),(.jC 1 λj_=>[iP x].getD j_ .any)]] _),.a (Gq _:vY (iz (mo p (λi=>(iV (iV (kn i) (a.getD i ix) p) ((jr (qB a p) x).getD (x-i) ix) p)) 1 (x-1)))),.a (aC:0<1),.c (BL x aC),.c (tY (mo p (λi=>(iV (iV (kn i) (a.getD i ix) p) ((jr (qB a p) x).getD (x-i) ix) p)) 1 (x-1)) (kn x) p aD aD aC aC),.o 39 (.e (lJ _):aj (.sl true 1 7 λi_ j_=>(iQ (jz (mo p (λi=>(iV (iV (kn i) (a.getD i ix) p) ((jr (qB a p) x).getD (x-i) ix) p)) 1 (x-1)) (kn x) p)).getD (i_*7+j_) (.v (.bool false))) (iq [jz (mo p (λi=>(iV (iV (kn i) (a.getD i ix) p) ((jr (qB a p) x).getD (x-i) ix) p)) 1 (x-1)) (kn x) p])),.a (aC:0<1),.a (aC:((λ_=>x) 0+[jz (mo p (λi=>(iV (iV (kn i) (a.getD i ix) p) ((jr (qB a p) x).getD (x-i) ix) p)) 1 (x-1)) (kn x) p].length)*88<=140737488355328),.a (rfl:0=0),.a (rfl:0=0),.a (aC:0<1),iL ((x:Int)+1) aC]<|.e (af [.b 5 (OU (by unfold qB;rw[bu aC]):Bx.le (.jU true 26 39 1 7 (λq=>if q=0 then(λ_=>x) q+[jz (mo p (λi=>(iV (iV (kn i) (a.getD i ix) p) ((jr (qB a p) x).getD (x-i) ix) p)) 1 (x-1)) (kn x) p].length else(λ_=>x) q) (λq i j=>if q=0 then(if i<(λ_=>x) q then(λ_=>jc (jr (qB a p) x)) q i j else(E.kT (iq [jz (mo p (λi=>(iV (iV (kn i) (a.getD i ix) p) ((jr (qB a p) x).getD (x-i) ix) p)) 1 (x-1)) (kn x) p])) (i-(λ_=>x) q) j)else(λ_=>jc (jr (qB a p) x)) q i j) .none) (.jU true 26 39 1 7 (λ_=>(x+1)) (λ_=>jc (jr (qB a p) (x+1))) .none))])) aF)
  (λhx=>by
    exact jh (af [tF 26 ((a.length:Int)<a.length) aC]) aF) aI:kD 6 f276 (Xn a p 1) (.exit 0) ⟨43,true,[(5,.nk 5 1 0 0)],[(5,.jU true 26 39 1 7 (λ_=>a.length) (λ_=>jc (jr (qB a p) a.length)) .none)]⟩) (af [.b 5 (WB rfl:Bx.le (.jU true 26 39 1 7 (λq=>if q=0 then(λ_=>0) q+[ve (a.getD 0 ix) p].length else(λ_=>0) q) (λq i j=>if q=0 then(if i<(λ_=>0) q then(λ_=>λ_ j_=>au.getD j_ .any) q i j else(E.kT (iq [ve (a.getD 0 ix) p])) (i-(λ_=>0) q) j)else(λ_=>λ_ j_=>au.getD j_ .any) q i j) .none) (.jU true 26 39 1 7 (λ_=>1) (λ_=>jc (jr (qB a p) 1)) .none))]),.a (aC:0<1)]<|rR (iq (AU a p)) (BJ (xs:=AU a p) (by unfold AU;rw[yQ]):E.le (.sl true ((λ_=>a.length) 0) 7 ((λ_=>jc (jr (qB a p) a.length)) 0)) (iq (AU a p)))) 
def jb(f:Nat->Rat):Nat->Rat
 | 0=>0
 |n+1=>jb f n+f n
def qK{f g:Nat->Rat}:∀ n,(∀ i,i<n->f i=g i)->jb f n=jb g n
 | 0,_=>rfl
 |n+1,h=>by rw[jb,jb,qK n (λi hi=>h i aC),h n aC]
def De{f g:Nat->Rat}:∀ n,(∀ i,i<n->f i<=g i)->jb f n<=jb g n
 | 0,_=>cR
 |n+1,h=>by
  have h1:=De n (λi hi=>h i aC);have h2:=h n aC;rw[jb,jb];grind
def Df{f:Nat->Rat}(n:Nat)(h:∀ i,i<n->0<=f i):0<=jb f n:=by
 induction n with
 |zero=>exact cR
 |succ n ih=>
  have h1:=ih (λi hi=>h i aC);have h2:=h n aC;rw[jb];grind
def BR(f:Nat->Rat)(c:Rat):∀ n,jb (λi=>c*f i) n=c*jb f n
 | 0=>by simp[jb]
 |n+1=>by rw[jb,jb,BR f c n];grind
def EO(f:Nat->Rat)(c:Rat):∀ n,jb (λi=>f i*c) n=jb f n*c
 | 0=>by simp[jb]
 |n+1=>by rw[jb,jb,EO f c n];grind
def Hf(f g:Nat->Rat):∀ n,jb (λi=>f i+g i) n=jb f n+jb g n
 | 0=>by simp only[jb];grind
 |n+1=>by rw[jb,jb,jb,Hf f g n];grind
def Hg(f:Nat->Nat->Rat)(m:Nat):∀ n,jb (λi=>jb (λj=>f i j) m) n=jb (λj=>jb (λi=>f i j) n) m
 | 0=>by
  have:∀ m,jb (λ_=>(0:Rat)) m=0:=by
   intro m
   induction m with
   |zero=>rfl
   |succ m ih=>rw[jb,ih];grind
  exact(this m).symm
 |n+1=>by
  rw[jb,Hg f m n,<-Hf];rfl
def Ye(f:Nat->Rat):∀ n,jb f (n+1)=f 0+jb (λi=>f (i+1)) n
 | 0=>by simp only[jb];grind
 |n+1=>by rw[jb,Ye f n,jb];grind
def jm(x:Rat):Rat:=if 0<=x then x else -x
def nh(x:Rat):0<=jm x/\x<=jm x /\ -x<=jm x/\(jm x=x/\0<=x\/jm x = -x/\x<=0):=by unfold jm;split<;>grind
def y5{x b:Rat}(h1:x<=b)(h2:-x<=b):jm x<=b:=by unfold jm;split<;>grind
def Qb(x y:Rat):jm (x+y)<=jm x+jm y:=by
 obtain⟨a1,a2,a3,_⟩:=nh x;obtain⟨b1,b2,b3,_⟩:=nh y;exact y5 aK aK 
def y6(x y:Rat):jm (x*y)=jm x*jm y:=by
 obtain⟨_,_,_,a⟩:=nh x;obtain⟨_,_,_,b⟩:=nh y;obtain⟨c1,_,_,c⟩:=nh (x*y);rcases a with⟨e1,h1⟩|⟨e1,h1⟩<;>rcases b with⟨e2,h2⟩|⟨e2,h2⟩<;>rw[e1,e2]
 .have:=cr h1 h2;grind
 .have:=cr h1 (show 0 <= -y by grind);grind
 .have:=cr (show 0 <= -x by grind) h2;grind
 .have:=cr (show 0 <= -x by grind) (show 0 <= -y by grind);grind
def Dq(f:Nat->Rat):∀ n,jm (jb f n)<=jb (λi=>jm (f i)) n
 | 0=>by simp[jb,jm]
 |n+1=>by
  have h1:=Dq f n;have h2:=Qb (jb f n) (f n);rw[jb,jb];grind
def Qc:jm 0=0:=rfl
abbrev QM:=Nat->Nat->Rat
def qU(n:Nat)(A B:QM):QM:=λi j=>jb (λq=>A i q*B q j) n
def yN:QM:=λi j=>if i=j then 1 else 0
def TQ(n:Nat)(M:QM)(t:Rat):Nat->QM
 | 0=>yN
 |j+1=>λi l=>t/((j+1:Nat):Rat)*qU n (TQ n M t j) M i l
def SQ(n:Nat)(M:QM)(t:Rat):Nat->QM
 | 0=>yN
 |j+1=>λi l=>SQ n M t j i l+TQ n M t (j+1) i l
def V3(j:Nat):(jI (j:Int)).ki ((j:Nat):Rat):=by have:=Ae (j:Int);rwa[eF]at this
section
variable {m:List (List Iv)} {h:Iv} {M:QM} {t:Rat} {n p:Nat}
def AA(n:Nat)(A:QM)(b:Rat):Prop:=∀ i,i<n->jb (λl=>jm (A i l)) n<=b
def aiV{A B:QM}{a b:Rat}(_h0:0<=a)(hb:0<=b)(h1:AA n A a)(h2:AA n B b):AA n (qU n A B) (a*b):=by
 intro i hi;have e1:jb (λl=>jm (qU n A B i l)) n<=jb (λl=>jb (λq=>jm (A i q)*jm (B q l)) n) n:=
  De n λl _=>by
   have:=Dq (λq=>A i q*B q l) n;rw[show(λq=>jm (A i q*B q l))=λq=>jm (A i q)*jm (B q l)from funext λq=>y6 _ _]at this;exact this
 rw[Hg]at e1;have e2:jb (λq=>jb (λl=>jm (A i q)*jm (B q l)) n) n<=jb (λq=>jm (A i q)*b) n:=
  De n λq hq=>by
   rw[BR];exact de (h2 q hq) (nh _).1
 rw[EO]at e2;exact bV e1 (bV e2 (cN (h1 i hi) hb))
def eQ(c:Rat):Nat->Rat
 | 0=>1
 |j+1=>eQ c j*(c/((j+1:Nat):Rat))
def Bt(j:Nat):(0:Rat)<((j+1:Nat):Rat):=gO.2 aC 
def RF{a b:Rat}(h1:0<=a)(h2:0<b):0<=a/b:=by
 rw[di];exact cr h1 (bZ (gj.2 h2))
def wb{c:Rat}(h:0<=c):∀ j,0<=eQ c j
 | 0=>by simp only[eQ];decide
 |j+1=>cr (wb h j) (RF h (Bt j))
def aka(n i:Nat):jb (λl=>jm (yN i l)) n<=1/\(n<=i->jb (λl=>jm (yN i l)) n=0):=by
 induction n with
 |zero=>exact⟨by simp only[jb];grind,λ_=>rfl⟩
 |succ n ih=>
  have e1:jm 1=1:= aE ;simp only[jb,yN]at ih ⊢;by_cases h:i=n
  .have:=ih.2 aC ;rw[this,bw h,e1];exact⟨aK,λh'=>absurd h' aC⟩
  .rw [bu h,Qc,Rat.add_zero];exact⟨ih.1,λh'=>ih.2 aC⟩
def aiS{A:QM}{b:Rat}(h:AA n A b){i l:Nat}(hi:i<n)(hl:l<n):jm (A i l)<=b:=by
 have h1:=h i hi;have:∀ m,l<m->jm (A i l)<=jb (λl=>jm (A i l)) m:=by
  intro m hm
  induction m with
  |zero=>omega
  |succ m ih=>
   rw[jb];have h0:=Df m (f:=λl=>jm (A i l)) λi _=>(nh _).1
   have h2:=(nh (A i m)).1;by_cases hq:l=m
   .subst hq;grind
   .have:=ih aC;grind
 exact bV (this n hl) h1
end
def Ks(g:Nat->Nat->Rat):∀ m,jb (λj=>jb (g j) (m-j)) m=jb (λs=>jb (λj=>g j (s-j)) (s+1)) m
 | 0=>rfl
 |m+1=>by
  have ih:=Ks g m;have e1:jb (λj=>jb (g j) (m+1-j)) m=jb (λj=>jb (g j) (m-j)+g j (m-j)) m:=
   qK m λj hj=>by rw[(aC:m+1-j=m-j+1)];rfl
  have h1:jb (g m) (m+1-m)=g m 0:=by
   rw[(aC:m+1-m=0+1)];simp only[jb];grind
  have h2:jb (λj=>g j (m-j)) (m+1)=jb (λj=>g j (m-j)) m+g m (m-m):=rfl;show jb (λj=>jb (g j) (m+1-j)) m+jb (g m) (m+1-m)=jb (λs=>jb (λj=>g j (s-j)) (s+1)) m+jb (λj=>g j (m-j)) (m+1);rw[e1,Hf,h1,h2,ih,dq]
  grind
def Hh{f:Nat->Rat}(h:∀ i,0<=f i){m k:Nat}(hk:m<=k):jb f m<=jb f k:=by
 induction k with
 |zero=>
  have:m=0:= aC ;rw[this];exact cR
 |succ k ih=>
  by_cases hm:m=k+1
  .rw [hm];exact cR
  .have:=ih aC ;have:=h k;rw[jb];grind
def EP(f:Nat->Rat)(m:Nat):∀ d,jb f (m+d)=jb f m+jb (λi=>f (m+i)) d
 | 0=>by simp only[jb,ch];grind
 |d+1=>by
  show jb f (m+d)+f (m+d)=_;rw[EP f m d,jb];grind
def IH(c:Rat)(j:Nat):eQ c (j+1)*((j+1:Nat):Rat)=c*eQ c j:=by
 have h:c/((j+1:Nat):Rat)*((j+1:Nat):Rat)=c:=eh (by have:=Bt j;grind);simp only[eQ];grind
def Ip(a b:Rat):∀ s,jb (λj=>eQ b j*eQ a (s-j)) (s+1)=eQ (a+b) s
 | 0=>by
  show 0+eQ b 0*eQ a 0=1;simp only[eQ];grind
 |s+1=>by
  have ih:=Ip a b s;have hp:=Bt s;have key:jb (λj=>eQ b j*eQ a (s+1-j)) (s+2)*((s+1:Nat):Rat)=(a+b)*eQ (a+b) s:=by
   have e0:jb (λj=>eQ b j*eQ a (s+1-j)) (s+2)*((s+1:Nat):Rat)=jb (λj=>(j:Rat)*(eQ b j*eQ a (s+1-j))+eQ b j*(((s+1-j:Nat):Rat)*eQ a (s+1-j))) (s+2):=by
    rw[<-EO];refine qK _ λj hj=>?_
    have:((s+1:Nat):Rat)=(j:Rat)+((s+1-j:Nat):Rat):=by rw[<-eG];congr 1;omega
    rw[this];grind
   rw[e0,Hf];have e1:jb (λj=>(j:Rat)*(eQ b j*eQ a (s+1-j))) (s+2)=b*eQ (a+b) s:=by
    rw[Ye,<-ih,<-BR];have z:(((0:Nat):Rat))=0:=rfl;rw[z,Rat.zero_mul,Rat.zero_add];refine qK _ λj hj=>?_
    have h1:=IH b j;rw[(aC:s+1-(j+1)=s-j)]
    grind
   have e2:jb (λj=>eQ b j*(((s+1-j:Nat):Rat)*eQ a (s+1-j))) (s+2)=a*eQ (a+b) s:=by
    rw[(aC:s+2=(s+1)+1),jb,dq,<-ih,<-BR];have z:(((0:Nat):Rat))=0:=rfl;rw[z,Rat.zero_mul,Rat.mul_zero,Rat.add_zero];refine qK _ λj hj=>?_
    have h1:=IH a (s-j);rw[(aC:s+1-j=s-j+1)]
    grind
   rw[e1,e2];grind
  have h2:=IH (a+b) s;have h3:jb (λj=>eQ b j*eQ a (s+1-j)) (s+2)*((s+1:Nat):Rat)=eQ (a+b) (s+1)*((s+1:Nat):Rat):=by rw[key,h2]
  exact fg (fX (by rw[h3];exact cR) hp) (fX (by rw[h3];exact cR) hp)
def FA(c:Rat):∀ j,jm (eQ c j)=eQ (jm c) j
 | 0=>by simp only[eQ];decide
 |j+1=>by
  simp only[eQ];rw[y6,FA c j];congr 1;rw[di,di,y6];congr 1;have:=gj.2 (Bt j);unfold jm;rw[bw (bZ this)]
def vO(v:Rat):Nat->Rat
 | 0=>1
 |j+1=>vO v j*v
def Wl(v:Rat)(i:Nat):∀ j,vO v (i+j)=vO v i*vO v j
 | 0=>by simp only[vO,ch];grind
 |j+1=>by
  show vO v (i+j)*v=_;rw[Wl v i j,vO];grind
def Wm{v:Rat}(h:0<=v):∀ j,0<=vO v j
 | 0=>by simp only[vO];decide
 |j+1=>cr (Wm h j) h
def LN(c v:Rat):∀ j,eQ (c*v) j=eQ c j*vO v j
 | 0=>by simp only[eQ,vO];grind
 |j+1=>by
  simp only[eQ,vO];rw[LN c v j];simp only[di];grind
def Qm(q:Rat):∃ n:Nat,q<=(n:Rat):=by
 refine⟨q.ceil.toNat,?_⟩;have h1:q<=(q.ceil:Rat):=Rat.le_ceil;have h2:((q.ceil:Int):Rat)<=((q.ceil.toNat:Nat):Rat):=by
  rw[<-eF,gN];omega
 exact bV h1 h2
def Py{z:Rat}{J:Nat}(hz:0<=z)(hJ:z*2<=(J:Rat)){m:Nat}(hm:J<=m):eQ z (m+1)*2<=eQ z m:=by
 have h0:=wb hz m;have h1:=IH z m;have hp:=Bt m;have Mo:z*2<=((m+1:Nat):Rat):=bV hJ (dU.2 aC);apply fX (c:=((m+1:Nat):Rat)) _ hp;have h2:=de Mo h0
 grind
def Pz{z:Rat}{J:Nat}(hz:0<=z)(hJ:z*2<=(J:Rat)){m:Nat}(hm:J<=m):∀ d,jb (λi=>eQ z (m+i)) d+eQ z (m+d)*2<=eQ z m*2
 | 0=>by simp only[jb,ch];grind
 |d+1=>by
  have ih:=Pz hz hJ hm d;have h1:=Py hz hJ (aC:J<=m+d);rw[jb,(aC:m+(d+1)=m+d+1)]
  grind
def Yh{z:Rat}{J:Nat}(hz:0<=z)(hJ:z*2<=(J:Rat)):∀ r:Nat,eQ z (J+r)*((2^r:Nat):Rat)<=eQ z J
 | 0=> aH 
 |r+1=>by
  have ih:=Yh hz hJ r;have h1:=Py hz hJ (aC:J<=J+r);have hp:(0:Rat)<=((2^r:Nat):Rat):=dr;have h2:=cN h1 hp;rw[show(2^(r+1):Nat)=2^r*2 from bQ _ _,dD,(aC:J+(r+1)=J+r+1)];have e:((2:Nat):Rat)=2:=rfl;rw[e];grind
def Yi{z ε:Rat}(hz:0<=z)(hε:0<ε):∃ m0,∀ m,m0<=m->∀ d,jb (λi=>eQ z (m+i)) d<=ε:=by
 obtain⟨J,hJ⟩:=Qm (z*2);obtain⟨r,hr⟩:=Qm (eQ z J*2/ε);refine⟨J+r,λm hm d=>?_⟩;obtain⟨t,rfl⟩:∃ t,m=J+t:=⟨m-J,aC⟩
 have h1:=Pz hz hJ (aC:J<=J+t) d;have h2:=Yh hz hJ t;have h3:=wb hz (J+t+d);have h4:=wb hz (J+t);have oq:(r:Rat)<=((2^t:Nat):Rat):=dU.2 (dR (cP (aC:r<=t) Nat.lt_two_pow_self));have h5:eQ z J*2<=ε*((2^t:Nat):Rat):=by
  have h6:eQ z J*2/ε*ε=eQ z J*2:=eh aK;have h7:=cN (bV hr oq) (bZ hε)
  grind
 have hp:(0:Rat)<((2^t:Nat):Rat):=gO.2 (bJ aE);have h8:eQ z (J+t)*2<=ε:=by
  apply fX (c:=((2^t:Nat):Rat)) _ hp
  grind
 grind
def MP(n:Nat)(M:QM):Nat->QM
 | 0=>yN
 |j+1=>qU n (MP n M j) M
section
variable {n:Nat} {M:QM}
def KZ(t:Rat):∀ j i l,TQ n M t j i l=eQ t j*MP n M j i l
 | 0,i,l=>by simp only[TQ,eQ,MP];grind
 |j+1,i,l=>by
  show t/((j+1:Nat):Rat)*jb (λq=>TQ n M t j i q*M q l) n=eQ t j*(t/((j+1:Nat):Rat))*jb (λq=>MP n M j i q*M q l) n;rw[qK n λq _=>show TQ n M t j i q*M q l=eQ t j*(MP n M j i q*M q l)by rw[KZ t j i q];grind,BR]
  grind
def E7(t:Rat)(i l:Nat):∀ N,SQ n M t N i l=jb (λj=>eQ t j*MP n M j i l) (N+1)
 | 0=>by simp only[SQ,jb,eQ,MP];grind
 |N+1=>by
  show SQ n M t N i l+TQ n M t (N+1) i l=_;rw[E7 t i l N,KZ];rfl
def agx(A:QM)(i:Nat){l:Nat}(hl:l<n):qU n A yN i l=A i l:=by
 have:∀ m,jb (λq=>A i q*yN q l) m=if l<m then A i l else 0:=by
  intro m
  induction m with
  |zero=>simp[jb]
  |succ m ih=>
   rw[jb,ih];unfold yN;by_cases h1:l<m
   .rw [bw h1,bu (aC:¬m=l),bw (aC:l<m+1)];grind
   .by_cases h2:m=l
    .subst h2;rw[bu h1,bw rfl,bw (aC:m<m+1)];grind
    .rw [bu h1,bu h2,bu (aC:¬l<m+1)];grind
 unfold qU;rw[this,bw hl]
def agw(A B C:QM)(i l:Nat):qU n A (qU n B C) i l=qU n (qU n A B) C i l:=by
 unfold qU;have e1:∀ q,A i q*jb (λr=>B q r*C r l) n=jb (λr=>A i q*(B q r*C r l)) n:=λq=>(BR _ _ n).symm
 have e2:∀ r,jb (λq=>A i q*B q r) n*C r l=jb (λq=>A i q*B q r*C r l) n:=λr=>(EO _ _ n).symm
 rw[qK n λq _=>e1 q,qK (f:=λq=>jb (λq_1=>A i q_1*B q_1 q) n*C q l) n λr _=>e2 r,Hg];exact qK n λr _=>qK n λq _=> aK 
def PZ(j:Nat):∀ k i l,l<n->qU n (MP n M j) (MP n M k) i l=MP n M (j+k) i l
 | 0,i,l,hl=>agx _ i hl
 |k+1,i,l,hl=>by
  show qU n (MP n M j) (qU n (MP n M k) M) i l=qU n (MP n M (j+k)) M i l;rw[agw];exact qK n λq hq=>by rw[PZ j k i q hq]
def P0{v:Rat}(hv:0<=v)(h:AA n M v):∀ j,AA n (MP n M j) (vO v j)
 | 0=>λi _=>(aka n i).1
 |j+1=>aiV (Wm hv j) hv (P0 hv h j) h
def aiT(n:Nat)(M:QM):∃ v,0<=v/\AA n M v:=by
 refine⟨jb (λi=>jb (λl=>jm (M i l)) n) n,Df n λi _=>Df n λl _=>(nh _).1,λi hi=>?_⟩;have:∀ m,i<m->jb (λl=>jm (M i l)) n<=jb (λi=>jb (λl=>jm (M i l)) n) m:=by
  intro m hm
  induction m with
  |zero=>omega
  |succ m ih=>
   rw[jb];have h0:0<=jb (λl=>jm (M m l)) n:=Df n λl _=>(nh _).1
   have h1:0<=jb (λi=>jb (λl=>jm (M i l)) n) m:=Df m λi _=>Df n λl _=>(nh _).1
   by_cases hq:i=m
   .subst hq;grind
   .have:=ih aC;grind
 exact this n hi
def ahH(a b:Rat)(N:Nat)(i:Nat){l:Nat}(hl:l<n):qU n (SQ n M b N) (SQ n M a N) i l=jb (λj=>jb (λk=>eQ b j*eQ a k*MP n M (j+k) i l) (N+1)) (N+1):=by
 unfold qU;have e1:∀ q,SQ n M b N i q*SQ n M a N q l=jb (λj=>jb (λk=>eQ b j*eQ a k*(MP n M j i q*MP n M k q l)) (N+1)) (N+1):=by
  intro q;rw[E7,E7,<-EO];refine qK _ λj _=>?_
  rw[<-BR];exact qK _ λk _=> aK 
 rw[qK n λq _=>e1 q,Hg];refine qK _ λj _=>?_
 rw[Hg];refine qK _ λk _=>?_
 rw[<-PZ j k i l hl,BR];rfl
def akU(a b:Rat)(N:Nat)(i l:Nat):jb (λj=>jb (λk=>eQ b j*eQ a k*MP n M (j+k) i l) (N+1-j)) (N+1)=SQ n M (a+b) N i l:=by
 rw[Ks (λj k=>eQ b j*eQ a k*MP n M (j+k) i l),E7];refine qK _ λs _=>?_
 rw[<-Ip,<-EO];exact qK _ λj hj=>by rw[(aC:j+(s-j)=s)]
def X7(g:Nat->Nat->Rat)(m:Nat):jb (λj=>jb (g j) m) m=jb (λj=>jb (g j) (m-j)) m+jb (λj=>jb (λk=>g j (m-j+k)) j) m:=by
 rw[<-Hf];refine qK _ λj hj=>?_
 rw[<-EP,(aC:m-j+j=m)]
def adX{v:Rat}(hv:0<=v)(h:AA n M v)(a b:Rat)(N:Nat){i l:Nat}(hi:i<n)(hl:l<n):
 jm (qU n (SQ n M b N) (SQ n M a N) i l-SQ n M (a+b) N i l)<=jb (λs=>eQ (jm a*v+jm b*v) (N+1+s)) (N+1):=by
 have hx:0<=jm a*v:=cr (nh a).1 hv;have hy:0<=jm b*v:=cr (nh b).1 hv;have e1:qU n (SQ n M b N) (SQ n M a N) i l=SQ n M (a+b) N i l+jb (λj=>jb (λk=>eQ b j*eQ a (N+1-j+k)*MP n M (j+(N+1-j+k)) i l) j) (N+1):=by
  have:=X7 (λj k=>eQ b j*eQ a k*MP n M (j+k) i l) (N+1);rw[akU,<-ahH a b N i hl]at this;exact this
 have e2:qU n (SQ n M b N) (SQ n M a N) i l-SQ n M (a+b) N i l=jb (λj=>jb (λk=>eQ b j*eQ a (N+1-j+k)*MP n M (j+(N+1-j+k)) i l) j) (N+1):= aK ;rw[e2];have e3:jm (jb (λj=>jb (λk=>eQ b j*eQ a (N+1-j+k)*MP n M (j+(N+1-j+k)) i l) j) (N+1))<=jb (λj=>jb (λk=>eQ (jm b*v) j*eQ (jm a*v) (N+1-j+k)) j) (N+1):=by
  refine bV (Dq _ _) (De _ λj _=>bV (Dq _ _) (De _ λk _=>?_));rw[y6,y6,FA,FA,LN,LN];have hr:=aiS (P0 hv h (j+(N+1-j+k))) hi hl;rw[Wl]at hr;have h1:=wb (nh b).1 j;have h2:=wb (nh a).1 (N+1-j+k);have h3:=de hr (cr h1 h2)
  grind
 refine bV e3 ?_;have q1:jb (λj=>jb (λk=>eQ (jm b*v) j*eQ (jm a*v) k) (N+1)) (N+1)=jb (λj=>jb (λk=>eQ (jm b*v) j*eQ (jm a*v) k) (N+1-j)) (N+1)+jb (λj=>jb (λk=>eQ (jm b*v) j*eQ (jm a*v) (N+1-j+k)) j) (N+1):=
  X7 (λj k=>eQ (jm b*v) j*eQ (jm a*v) k) (N+1)
 have q2:jb (λj=>jb (λk=>eQ (jm b*v) j*eQ (jm a*v) k) (N+1-j)) (N+1)=jb (λs=>eQ (jm a*v+jm b*v) s) (N+1):=by
  rw[Ks (λj k=>eQ (jm b*v) j*eQ (jm a*v) k)];exact qK _ λs _=>Ip _ _ s
 have G0:∀ j k,0<=eQ (jm b*v) j*eQ (jm a*v) k:=λj k=>cr (wb hy j) (wb hx k)
 have q3:jb (λj=>jb (λk=>eQ (jm b*v) j*eQ (jm a*v) k) (N+1)) (N+1)<=jb (λs=>eQ (jm a*v+jm b*v) s) (N+1+(N+1)):=by
  rw[<-qK (f:=λs=>jb (λj=>eQ (jm b*v) j*eQ (jm a*v) (s-j)) (s+1)) _ λs _=>Ip _ _ s,<-Ks (λj k=>eQ (jm b*v) j*eQ (jm a*v) k)];refine bV (De _ λj hj=>Hh (λk=>G0 j k) (aC:N+1<=N+1+(N+1)-j)) ?_;exact Hh (λj=>Df _ λk _=>G0 j k) aC 
 rw[EP (λs=>eQ (jm a*v+jm b*v) s) (N+1) (N+1),q1,q2]at q3;have cancel:∀ A B C:Rat,A+B<=A+C->B<=C:=by intro A B C h;grind
 exact cancel _ _ _ q3
def adY(n:Nat)(M:QM)(a b:Rat){ε:Rat}(hε:0<ε):∃ N0,∀ N,N0<=N->∀ i l,i<n->l<n->jm (qU n (SQ n M b N) (SQ n M a N) i l-SQ n M (a+b) N i l)<=ε:=by
 obtain⟨v,hv,h⟩:=aiT n M;have hz:0<=jm a*v+jm b*v:=by
  have hx:0<=jm a*v:=cr (nh a).1 hv;have hy:0<=jm b*v:=cr (nh b).1 hv
  grind
 obtain⟨m0,h0⟩:=Yi hz hε;exact⟨m0,λN hN i l hi hl=>bV (adX hv h a b N hi hl) (h0 (N+1) aC (N+1))⟩
def Zh(N:Nat)(i l:Nat):SQ n M 0 N i l=yN i l:=by
 induction N with
 |zero=>rfl
 |succ N ih=>
  show SQ n M 0 N i l+TQ n M 0 (N+1) i l=_;rw[ih,KZ];simp only[eQ,di];grind
end
def pX(f:Nat->Rat)(X:Iv):Prop:=∀ ε,0<ε->∃ N0,∀ N,N0<=N->∃ r,X.ki r/\jm (f N-r)<=ε
def pX.Ol{f:Nat->Rat}{X:Iv}{k:Nat}(h:∀ N,k<=N->X.ki (f N)):pX f X:=λε hε=>
 ⟨k,λN hN=>⟨f N,h N hN,by rw[Rat.sub_self,Qc];exact bZ hε⟩⟩
def pX.all{f:Nat->Rat}{X:Iv}(h:X.all=true):pX f X:=pX.Ol (k:=0) λ_ _=>.inl h
def pX.shift{f g:Nat->Rat}{X:Iv}(h:pX f X)(k:∀ ε,0<ε->∃ N0,∀ N,N0<=N->jm (g N-f N)<=ε):pX g X:=λε hε=>by
 obtain⟨N1,h1⟩:=h (ε/2) aK;obtain⟨N2,h2⟩:=k (ε/2) aK;refine⟨max N1 N2,λN hN=>?_⟩;obtain⟨r,hr,hd⟩:=h1 N aC;have hg:=h2 N aC;refine⟨r,hr,?_⟩;have:=Qb (g N-f N) (f N-r);rw[show g N-f N+(f N-r)=g N-r by grind]at this
 grind
def EQ(c:Rat)(N:Nat):Rat:=jb (eQ c) (N+1)
def ag6(j:Nat):MP 1 (λ_ _=>1) j 0 0=1:=by
 induction j with
 |zero=>rfl
 |succ j ih=>
  show jb (λq=>MP 1 (λ_ _=>1) j 0 q*1) 1=1;simp only[jb];rw[ih];grind
def Hy(c:Rat)(N:Nat):SQ 1 (λ_ _=>1) c N 0 0=EQ c N:=by
 rw[E7];exact qK _ λj _=>by rw[ag6];grind
def KS(a b:Rat){ε:Rat}(hε:0<ε):∃ N0,∀ N,N0<=N->jm (EQ (a+b) N-EQ a N*EQ b N)<=ε:=by
 obtain⟨N0,h0⟩:=adY 1 (λ_ _=>1) a b hε;refine⟨N0,λN hN=>?_⟩;have:=h0 N hN 0 0 aE aE;rw[show qU 1 (SQ 1 (λ_ _=>1) b N) (SQ 1 (λ_ _=>1) a N) 0 0=EQ a N*EQ b N by
  show jb (λq=>SQ 1 (λ_ _=>1) b N 0 q*SQ 1 (λ_ _=>1) a N q 0) 1=_;simp only[jb];rw[Hy,Hy];grind,Hy]at this
 obtain⟨_,a2,a3,_⟩:=nh (EQ a N*EQ b N-EQ (a+b) N);exact y5 aK aK 
def Y7(N:Nat):EQ 0 N=1:=by
 rw[<-Hy,Zh];rfl
def Qr{x:Iv}{r s:Rat}(hx:x.iy)(h:x.ki r)(hs:jm s<=jm r):(ru x).ki s:=by
 unfold ru;cases xa:x.all
 .obtain ⟨h1,h2⟩:=h.kr xa;obtain⟨m1,m2,_⟩:=CP hx.q;obtain⟨_,a2,a3,a4⟩:=nh r;obtain⟨_,b2,b3,_⟩:=nh s;have hr:jm r<=(ng x).q:= aK ;refine .inr ⟨?_,?_⟩
  .show (iK (ng x)).q<=s;rw[ri];grind
  .show s<=(ng x).q
   grind
 .rw [bw rfl];exact .inl xa
def E4{a b:Int}(h:a<=b):P2 a<=P2 b:=by
 rw[E5 h];have h1:(1:Rat)<=((2^(b-a).toNat:Nat):Rat):=by
  have:=dU.2 (Nat.one_le_two_pow (n:=(b-a).toNat));exact this
 have:=cN h1 (bZ (oG a))
 grind
def Kz{i:Nat}(h:i<2):i=0\/i=1:= aC 
def Y8:Dy:=⟨false,1014047155841371404857783918912611814895143950022408150448898879701903863171748812343190420115852101928445847465915947005,-398⟩
def Y9:Dy:=⟨false,2028094311682742809715567837825223629790287900044816300897797759403807726343497624686380840231704203856891694931831894109,-399⟩
def HF:Iv:=⟨Y8,Y9,false⟩
def after{N:Nat}(h:100<=N):∃ d,N=100+d:=⟨N-100,aC⟩
def zq(k:Int):Rat×Rat:=if k%4=0 then(1,0)else if k%4=1 then(0,1)else if k%4=2 then(-1,0)else(0,-1)
def lI(r:Iv)(p:Nat):Nat->Iv
 | 0=>jI 1
 |j+1=>jz (iV (lI r p j) r p) (jI ((j+1:Nat):Int)) p
def Pj(r:Iv)(p j:Nat):Iv:=if 2<=j%4 then mz (lI r p j)else lI r p j
def Kj(r:Iv)(p:Nat):Nat->Iv
 | 0=>jI 0
 |j+1=>if(j+1)%2=1 then jO (Kj r p j) (Pj r p (j+1)) p else Kj r p j
def rh(n:Int):(qt n).q=P2 n:=by unfold qt;rw[si];simp
def wR{r:Iv}{p:Nat}(_hr:r.iy)(iB:8<=p)(iw:p<=512):∀ j,(lI r p j).iy
 | 0=>CX 1 aE 
 |j+1=>oZ _ _ aC aC 
def ajo{r:Iv}{p:Nat}(hr:r.iy)(iB:8<=p)(iw:p<=512)(j:Nat):(Pj r p j).iy:=by
 unfold Pj;split
 .exact Bu (wR hr iB iw j)
 .exact wR hr iB iw j
def XB{r:Iv}{p:Nat}(hr:r.iy)(iB:8<=p)(iw:p<=512):∀ j,(Kj r p j).iy
 | 0=>CX 0 aE 
 |j+1=>by
  unfold Kj;split
  .exact qk (XB hr iB iw j) (ajo hr iB iw _) aC aC 
  .exact XB hr iB iw j
def Pn{r:Iv}{p:Nat}(hr:r.iy)(iB:8<=p)(iw:p<=512){ρ:Rat}(h:r.ki ρ):∀ j,j<4294967296->(lI r p j).ki (eQ ρ j)
 | 0,_=>Ae 1
 |j+1,hj=>by
  have e:eQ ρ (j+1)=eQ ρ j*ρ/((j+1:Nat):Rat):=by simp only[eQ,di];grind
  rw[e];exact IC (oV _ _ aC aC) (Og (j+1) hj) aC aC (N4 (wR hr iB iw j) hr aC aC (Pn hr iB iw h j aC) h) (V3 (j+1))
def XF{r:Iv}{p:Nat}:∀ {j d:Nat},(lI r p (j+d)).all=false->(lI r p j).all=false
 |_,0,h=>h
 |j,d+1,h=>by
  apply XF (d:=d);cases ha:(lI r p (j+d)).all
  .rfl
  .exfalso;have:lI r p (j+(d+1))=ix:=by
    show jz (iV (lI r p (j+d)) r p) _ p=_;rw[JF p (.inl ha),Fx p (.inl rfl)]
   rw[this]at h;cases h
def pY(n:Int):Iv:=⟨iK (qt n),qt n,false⟩
def Dz{n:Int}{r:Rat}:(pY n).ki r ↔ -P2 n<=r/\r<=P2 n:=by
 unfold Iv.ki pY;simp only[bM,false_or];rw[ri,rh]
def Az{p:Nat}(hp:1<=p){n:Int}(h1:-1000<=n)(h2:n<=1000):G p (P2 n):=.inl ⟨1,n,by rw[AF];exact hp,aC,by rw[AF];omega,aH⟩
def Ff{p:Nat}{S:Rat->Prop}{X:Iv}(h:EZ p S X)(hp:1<=p){n:Int}(h1:-1000<=n)(h2:n<=1000)(hs:∀ r,S r -> -P2 n<=r/\r<=P2 n):Sub X (pY n):=by
 obtain⟨a,b,c⟩:=h.yG _ _ (Az hp h1 h2).neg (Az hp h1 h2) hs;refine .inr ⟨a,?_,?_⟩
 .show (iK (qt n)).q<=_;rw[ri,rh];exact b
 .show _<=(qt n).q;rw[rh];exact c
def Qd{a b u v:Rat}(h1:-u<=a)(h2:a<=u)(h3:-v<=b)(h4:b<=v):-(u*v)<=a*b/\a*b<=u*v:=by
 have ha:jm a<=u:=y5 h2 aK;have hb:jm b<=v:=y5 h4 aK;have hm:=y6 a b;have h0:=(nh b).1;have hu:0<=u:=bV (nh a).1 ha;have m1:=cN ha h0;have m2:=de hb hu;obtain⟨_,c2,c3,_⟩:=nh (a*b);constructor<;>grind
def S1(j:Nat):P2 (-(j:Int))*P2 (-1)=P2 (-((j+1:Nat):Int)):=by
 rw[<-rq];congr 1;omega
def ab9{a u:Rat}{n:Nat}(h1:-u<=a)(h2:a<=u):-u<=a/((n+1:Nat):Rat)/\a/((n+1:Nat):Rat)<=u:=by
 have hp:=Bt n;have Sz:(1:Rat)<=((n+1:Nat):Rat):=by
  have:=dU (a:=1) (b:=n+1);exact this.2 aC 
 have e:=eh (a:=a) (b:=((n+1:Nat):Rat)) aK;have hu:0<=u:= aK ;generalize a/((n+1:Nat):Rat)=x at *
 generalize ((n+1:Nat):Rat)=c at *
 constructor
 .apply dV.1;intro iJ;have m:=eH iJ hp;have m2:=de Sz hu
  grind
 .apply dV.1;intro iJ;have m:=eH iJ hp;have m2:=de Sz hu
  grind
def XH{y:Iv}(hy:y.iy)(h:Sub y (pY (-1))){p:Nat}(iB:8<=p)(iw:p<=512):∀ j,j<=900->Sub (lI y p j) (pY (-(j:Int)))
 | 0,_=>by
  have e:(jI 1).lo.q=1/\(jI 1).hi.q=1/\(jI 1).all=false:=V2 1;refine .inr ⟨e.2.2,?_,?_⟩
  .show (iK (qt _)).q<=_;rw[ri,rh,show(lI y p 0).lo.q=1 from e.1];decide +kernel
  .show _<=(qt _).q;rw[rh,show(lI y p 0).hi.q=1 from e.2.1];decide +kernel
 |j+1,hj=>by
  have ih:=XH hy h iB iw j aC;have vT:=wR hy iB iw j;obtain⟨ta,_⟩:=ih.xy rfl;obtain⟨ya,_⟩:=h.xy rfl;have B:=NY vT hy ta ya (aC:1<=p) aC;have s1:Sub (iV (lI y p j) y p) (pY (-((j+1:Nat):Int))):=Ff B aC aC aC (by
   rintro r ⟨a,b,ha,hb,rfl⟩;obtain⟨a1,a2⟩:=Dz.1 (ih.ki ha);obtain⟨b1,b2⟩:=Dz.1 (h.ki hb);rw[<-S1];exact Qd a1 a2 b1 b2)
  have vm:(iV (lI y p j) y p).iy:=oV _ _ aC aC;obtain⟨ma,_⟩:=s1.xy rfl;have vn:=Og (j+1) aC;have hs:lZ (jI ((j+1:Nat):Int))≠0:=by rw[ag1 aC];decide
  exact Ff (IB vm vn ma hs (aC:1<=p) aC) aC aC aC (by
   rintro r ⟨a,b,ha,hb,rfl⟩;obtain⟨a1,a2⟩:=Dz.1 (s1.ki ha);obtain⟨b1,b2⟩:=hb.kr rfl;have e:=V2 (j+1);rw[e.1]at b1;rw[e.2.1]at b2;rw[show b=((j+1:Nat):Rat)from fg b2 b1];exact ab9 a1 a2)
def pk(x:Iv)(p:Nat):Bool:=x.all||(decide ((ng x).m=0)||decide ((ng x).iI <= -(p:Int)))
def Ys{d:Dy}(hm:d.m≠0){n:Int}(h:jm d.q<=P2 n):d.iI<=n+1:=by
 apply ck;intro iJ;have hT:d.iI=(iD d.m:Int)+d.e:=by unfold Dy.iI;rw[bu hm]
 have hb:0<iD d.m:=xB.2 (by rw[cT];omega);have h1:2^(iD d.m-1)<=d.m:=xB.1 aC;have h2:((2^(iD d.m-1):Nat):Rat)<=(d.m:Rat):=dU.2 h1;have h3:=cN h2 (bZ (oG d.e));rw[<-yY,<-rq,show((iD d.m-1:Nat):Int)+d.e=d.iI-1 by rw[hT];omega]at h3;have h4:jm d.q=(d.m:Rat)*P2 d.e:=by
  have h0:0<=(d.m:Rat)*P2 d.e:=cr dr (bZ (oG _));rw[rM];unfold jm;cases d.neg
  .simp only[bM,bE];rw[bw h0]
  .simp only[bL];split<;>grind
 have h5:=E4 (aC:n+1<=d.iI-1);have h6:P2 (n+1)=P2 n*2:=by rw[rq];congr 1
 have:=oG n
 grind
def Yp{x:Iv}(hx:x.iy){p:Nat}(h:Sub x (pY (-((p+1:Nat):Int)))):pk x p=true:=by
 unfold pk;cases ha:x.all
 .by_cases hm:(ng x).m=0
  .rw [bA hm];rfl
  .obtain ⟨_,k1,k2⟩:=h.xy rfl;obtain⟨m1,m2,m3⟩:=CP hx.q;replace k1:(iK (qt (-((p+1:Nat):Int)))).q<=x.lo.q:=k1;replace k2:x.hi.q<=(qt (-((p+1:Nat):Int))).q:=k2;rw[ri,rh]at k1;rw[rh]at k2;have hq:=hx.q;have qO:=oG (-((p+1:Nat):Int));generalize hu:P2 (-((p+1:Nat):Int))=u at *
   have hle:jm (ng x).q<=u:=y5 (by rcases m3 with m3|m3<;>grind) (by rcases m3 with m3|m3<;>grind);have:=Ys hm (hu▸hle);rw[bA (show(ng x).iI <= -(p:Int)by omega)];simp
 .rfl
def XG{y:Iv}(h:y.all=true)(p:Nat):lI y p 1=ix:=by
 show jz (iV (jI 1) y p) _ p=_;rw[JF p (.inr h),Fx p (.inl rfl)]
def acX{y:Iv}(hy:y.iy)(h:y.all=true\/Sub y (pY (-1))){p:Nat}(iB:8<=p)(iw:p<=512):∃ N,1<=N/\N<=1000/\(∀ x,1<=x->x<N->pk (lI y p x) p=false)/\pk (lI y p N) p=true:=by
 have ex:∃ x,x<900/\decide (1<=x/\pk (lI y p x) p=true)=true:=by
  rcases h with h|h
  .exact ⟨1,aC,bA ⟨aC,by rw[XG h];rfl⟩⟩
  .exact ⟨p+1,aC,bA ⟨aC,Yp (wR hy iB iw _) (XH hy h iB iw (p+1) aC)⟩⟩
 obtain⟨N,n1,n2,n3⟩:=uB (p:=λx=>decide (1<=x/\pk (lI y p x) p=true)) ex;have n2':=cQ n2;refine⟨N,n2'.1,aC,λx h1 h2=>?_,n2'.2⟩;have:=fG (n3 x h2);cases hc:pk (lI y p x) p
 .rfl
 .exact absurd ⟨h1,hc⟩ this
def uo(y:Iv)(p:Nat):Nat->Iv
 | 0=>jI 1
 |j+1=>jO (uo y p j) (lI y p (j+1)) p
def zh(y:Iv)(p N:Nat):Iv:=jO (uo y p N) (ru (lI y p N)) p
def DK{y:Iv}(hy:y.iy){p:Nat}(iB:8<=p)(iw:p<=512):∀ j,(uo y p j).iy
 | 0=>CX 1 aE 
 |j+1=>qk (DK hy iB iw j) (wR hy iB iw _) aC aC 
def acW{y:Iv}(hy:y.iy){p:Nat}(iB:8<=p)(iw:p<=512)(N:Nat):(zh y p N).iy:=qk (DK hy iB iw N) (Dv (wR hy iB iw N)) aC aC 
def mi(x:Iv)(p:Nat):Iv:=if x.all then ix else mh (iM x.lo p false) (jP x.lo p false) (iM x.hi p true) (jP x.hi p true)
def uX(a b:Iv):Iv:=if a.all||b.all then ix else⟨a.lo,b.hi,false⟩
def EG{x:Iv}(hx:x.iy){p:Nat}(hp:1<=p)(iw:p<=4096):(mi x p).iy:=by
 unfold mi;cases xa:x.all
 .obtain ⟨c1,c2⟩:=hx.AM;simp only[bM,bE];unfold mh;split
  .exact mc
  .rename_i he;have A:=xL c1 hp iw;have B:=xM c2 hp iw;refine .inr ⟨rfl,vQ _ hp iw _,vQ _ hp iw _,?_⟩;rw[pA];exact bV (A.1 aC).2 (bV hx.q (B.1 aC).2)
 .exact mc
def G4{x:Iv}(hx:x.iy){p:Nat}(hp:1<=p)(iw:p<=4096){r:Rat}(h:x.ki r):(mi x p).ki r:=by
 unfold mi;cases xa:x.all
 .obtain ⟨c1,c2⟩:=hx.AM;obtain⟨h1,h2⟩:=h.kr xa;simp only[bM,bE];unfold mh;split
  .exact .inl rfl
  .rename_i he;have A:=xL c1 hp iw;have B:=xM c2 hp iw;exact .inr ⟨bV (A.1 aC).2 h1,bV h2 (B.1 aC).2⟩
 .exact .inl rfl
def aiN{x:Iv}(hx:x.iy){p:Nat}(hp:1<=p)(iw:p<=4096){n:Int}(h1:-1000<=n)(h2:n<=1000)(h:Sub x (pY n)):Sub (mi x p) (pY n):=by
 obtain⟨xa,k1,k2⟩:=h.xy rfl;replace k1:(iK (qt n)).q<=x.lo.q:=k1;replace k2:x.hi.q<=(qt n).q:=k2;rw[ri,rh]at k1;rw[rh]at k2;obtain⟨c1,c2⟩:=hx.AM;have A:=(xL c1 hp iw).2 _ (Az hp h1 h2).neg k1;have B:=(xM c2 hp iw).2 _ (Az hp h1 h2) k2;unfold mi mh;rw[xa];simp only[bM,bE];rw[bu aC];refine .inr ⟨rfl,?_,?_⟩
 .show (iK (qt n)).q<=_;rw[ri,rh];exact A.2
 .show _<=(qt n).q;rw[rh];exact B.2
def afO{f g:Nat->Rat}{A B:Iv}(hA:pX f A)(hB:pX g B)(h:∀ ε,0<ε->∃ N0,∀ N,N0<=N->f N<=g N+ε)(aa:A.all=false)(ba:B.all=false):A.lo.q<=B.hi.q:=by
 apply dV.1;intro iJ;obtain⟨ε,hε⟩:∃ ε,ε=(A.lo.q-B.hi.q)/4:=⟨_,rfl⟩
 have h0:0<ε:=by rw[hε];grind
 obtain⟨N1,h1⟩:=hA ε h0;obtain⟨N2,h2⟩:=hB ε h0;obtain⟨N3,h3⟩:=h ε h0;obtain⟨r,hr,hd⟩:=h1 (max N1 (max N2 N3)) aC;obtain⟨s,hs,he⟩:=h2 (max N1 (max N2 N3)) aC;have h4:=h3 (max N1 (max N2 N3)) aC;obtain⟨r1,r2⟩:=hr.kr aa;obtain⟨s1,s2⟩:=hs.kr ba;obtain⟨_,a2,a3,_⟩:=nh (f (max N1 (max N2 N3))-r);obtain⟨_,b2,b3,_⟩:=nh (g (max N1 (max N2 N3))-s)
 grind
def Y6{c:Rat}(h:0<=c)(N:Nat):1<=EQ c N:=by
 have:=Hh (f:=eQ c) (λi=>wb h i) (aC:1<=N+1);have e:jb (eQ c) 1=1:=by show 0+1=1;grind
 unfold EQ;rw[e]at this;exact this
def Y5(c:Rat){ε:Rat}(hε:0<ε):∃ N0,∀ N,N0<=N -> -ε<=EQ c N:=by
 obtain⟨N0,h0⟩:=KS (c/2) (c/2) hε;rw[show c/2+c/2=c by grind]at h0;refine⟨N0,λN hN=>?_⟩;have h:=h0 N hN;have hs:0<=EQ (c/2) N*EQ (c/2) N:=by
  by_cases k:0<=EQ (c/2) N
  .exact cr k k
  .have:=cr (show 0 <= -EQ (c/2) N by grind) (show 0 <= -EQ (c/2) N by grind)
   grind
 obtain⟨_,a2,a3,_⟩:=nh (EQ c N-EQ (c/2) N*EQ (c/2) N)
 grind
def Y2{c:Rat}(h:0<=c):∃ M:Rat,0<M/\∀ N,EQ c N<=M:=by
 obtain⟨m0,h0⟩:=Yi h (show(0:Rat)<1 by decide);have hs:0<=jb (eQ c) m0:=by
  have:=Hh (f:=eQ c) (λi=>wb h i) (cz m0);exact this
 refine⟨jb (eQ c) m0+1,aK,λN=>?_⟩;unfold EQ;by_cases hN:m0<=N+1
 .obtain ⟨d,hd⟩:∃ d,N+1=m0+d:=⟨N+1-m0,aC⟩
  rw[hd,EP];have:=h0 m0 (bD _) d
  grind
 .have:=Hh (f:=eQ c) (λi=>wb h i) (aC:N+1<=m0)
  grind
def Y4{a b:Rat}(h:a<=b){ε:Rat}(hε:0<ε):∃ N0,∀ N,N0<=N->EQ a N<=EQ b N+ε:=by
 have hd:0<=b-a:= aK ;obtain⟨N1,h1⟩:=KS a (b-a) (show 0<ε/2 by grind);rw[show a+(b-a)=b by grind]at h1;obtain⟨M,tK,hM⟩:∃ M:Rat,0<M/\∀ N,EQ (b-a) N<=M:=Y2 hd;obtain⟨N2,h2⟩:=Y5 a (show 0<ε/(2*M)by rw[di];exact ff hε (gj.2 aK));refine⟨max N1 N2,λN hN=>?_⟩;have k1:=h1 N aC;have k2:=h2 N aC;have e:ε/(2*M)*M=ε/2:=by
  have:=eh (a:=ε) (b:=2*M) aK 
  grind
 have k3:=Y6 hd N;have k4:=hM N;obtain⟨_,a2,a3,_⟩:=nh (EQ b N-EQ a N*EQ (b-a) N);generalize EQ a N=x at *
 generalize EQ (b-a) N=y at *
 generalize EQ b N=z at *
 generalize ε/(2*M)=δ at *
 have m1:=cr (show 0<=x+δ by grind) (show 0<=y-1 by grind);have hδ:0<=δ:=by
  apply dV.1;intro iJ;have:=eH iJ tK
  grind
 have m2:=de (show y-1<=M by grind) hδ
 grind
def R2{y:Iv}{r:Rat}(hy:y.iy)(h:y.ki r){p:Nat}(iB:8<=p)(iw:p<=512):∀ j,j<4294967296->(uo y p j).ki (EQ r j)
 | 0,_=>by
  have:EQ r 0=1:=by unfold EQ;simp only[jb,eQ];grind
  rw[this];exact Ae 1
 |j+1,hj=>B0 (DK hy iB iw j) (wR hy iB iw (j+1)) aC aC (R2 hy h iB iw j aC) (Pn hy iB iw h (j+1) hj)
def acT{y:Iv}(h:y.all=true){p N:Nat}(hN:1<=N):(zh y p N).all=true:=by
 have ht:(lI y p N).all=true:=by
  cases hc:(lI y p N).all
  .obtain ⟨d,rfl⟩:∃ d,N=1+d:=⟨N-1,aC⟩
   have:=XF hc;rw[XG h]at this;cases this
  .rfl
 unfold zh;rw[Ib p (.inr (by unfold ru;rw[ht];simpa using ht))];rfl
def acU{y:Iv}{r:Rat}(hy:y.iy)(h:y.ki r)(hr:jm r*2<=1){p:Nat}(iB:8<=p)(iw:p<=512){N:Nat}(hN:1<=N)(sS:N<=1000)(M:Nat)(hM:N<=M):(zh y p N).ki (EQ r M):=by
 obtain⟨d,rfl⟩:∃ d,M=N+d:=⟨M-N,aC⟩
 have e1:EQ r (N+d)=EQ r N+jb (λi=>eQ r (N+1+i)) d:=by
  unfold EQ;rw[(aC:N+d+1=N+1+d),EP]
 have hz:=(nh r).1;have t:=Pz hz (J:=1) (by exact hr) (aC:1<=N+1) d;have p0:=wb hz (N+1+d);have b1:jm (jb (λi=>eQ r (N+1+i)) d)<=jb (λi=>eQ (jm r) (N+1+i)) d:=by
  have:=Dq (λi=>eQ r (N+1+i)) d;rwa[qK d λi _=>FA r (N+1+i)]at this
 have e3:eQ (jm r) (N+1)*2<=eQ (jm r) N:=Py hz (J:=1) (by exact hr) (aC:1<=N);rw[e1];refine B0 (DK hy iB iw N) (Dv (wR hy iB iw N)) aC aC (R2 hy h iB iw N aC) (Qr (wR hy iB iw N) (Pn hy iB iw h N aC) ?_);rw[FA];grind
def acV{y:Iv}{r:Rat}(hy:y.iy)(h:y.ki r)(hb:y.all=true\/Sub y (pY (-1))){p:Nat}(iB:8<=p)(iw:p<=512){N:Nat}(hN:1<=N)(sS:N<=1000):pX (EQ r) (zh y p N):=by
 rcases hb with hb|hb
 .exact pX.all (acT hb hN)
 .refine pX.Ol (k:=N) λM hM=>acU hy h ?_ iB iw hN sS M hM
  obtain⟨b1,b2⟩:=Dz.1 (hb.ki h);have e:P2 (-1)=1/2:= aL ;rw[e]at b1 b2;have:=y5 (x:=r) (b:=1/2) aK aK 
  grind
def oW(x:Iv)(p:Nat):Iv:=if(kf x).all then ix else mh (iM (xF (kf x).lo (kf x).lo) p false) (jP (xF (kf x).lo (kf x).lo) p false) (iM (xF (kf x).hi (kf x).hi) p true) (jP (xF (kf x).hi (kf x).hi) p true)
def Qa{x:Iv}(xa:x.all=false):0<=(kf x).lo.q:=by
 unfold kf;rw[xa];show 0<=(ph x).q;unfold ph;split
 .rw [wM];exact cR
 .obtain ⟨_,_,m⟩:=vP (mw x.lo) (mw x.hi);rcases m with m|m<;>rw[m]
  .exact (Ai x.lo).1
  .exact (Ai x.hi).1
def AD(x:Iv):(kf x).all=x.all:=by unfold kf;cases h:x.all<;>simp[h,ix]
def Pr{x:Iv}(hx:x.iy){p:Nat}(hp:1<=p)(iw:p<=4096){r:Rat}(h:x.ki r):(oW x p).ki (r*r):=by
 unfold oW;rw[AD];cases xa:x.all
 .simp only[bM,bE];obtain⟨s,hs,h0,e⟩:∃ s,(kf x).ki s/\0<=s/\r*r=s*s:=by
   by_cases hr:0<=r
   .exact ⟨r,H8 hx h (.inl ⟨rfl,hr⟩),hr,rfl⟩
   .exact ⟨-r,H8 hx h (.inr ⟨rfl,aK⟩),aK,aK⟩
  have hl:=Qa xa;have ya:(kf x).all=false:=by rw[AD];exact xa
  obtain⟨s1,s2⟩:=hs.kr ya;rw[e];unfold mh;split
  .exact .inl rfl
  .rename_i he;have A:=xL (AL (kf x).lo (kf x).lo) hp iw;have B:=xM (AL (kf x).hi (kf x).hi) hp iw;rw[Ez]at A B;have a1:=(A.1 aC).2;have b1:=(B.1 aC).2;refine .inr ⟨?_,?_⟩
   .have m1:=cN s1 hl;have m2:=de s1 h0;show _<=s*s;exact bV a1 (bV m1 (by rw[gh s];rw[gh (kf x).lo.q s];exact m2))
   .have m1:=cN s2 h0;have m2:=de s2 (bV h0 s2);exact bV (bV m1 m2) b1
 .exact .inl rfl
def Kp{x:Iv}(hx:x.iy){p:Nat}(hp:1<=p)(iw:p<=4096):(oW x p).iy:=by
 cases xa:x.all
 .have h1:=Pr hx hp iw hx.A7;unfold oW at h1 ⊢;rw[AD,xa]at h1 ⊢;simp only[bM,bE]at h1 ⊢;unfold mh at h1 ⊢;split
  .exact mc
  .rename_i he;rw[bu he]at h1;obtain⟨h2,h3⟩:=h1.kr rfl;refine .inr ⟨rfl,vQ _ hp iw _,vQ _ hp iw _,?_⟩;rw[pA];exact bV h2 h3
 .unfold oW;rw[AD,xa];exact mc
def pX.sqr{f:Nat->Rat}{X:Iv}(hx:X.iy)(h:pX f X){p:Nat}(hp:1<=p)(iw:p<=4096):pX (λN=>f N*f N) (oW X p):=by
 cases xa:X.all
 .intro ε hε;obtain⟨B,hB⟩:∃ B,B=jm X.lo.q+jm X.hi.q+1:=⟨_,rfl⟩
  have a0:=nh X.lo.q;have b0:=nh X.hi.q;have hB1:1<=B:= aK ;have Mm:0<2*B:= aK ;obtain⟨δ,hδ⟩:∃ δ,δ=min 1 (ε/(2*B)):=⟨_,rfl⟩
  have hεB:0<ε/(2*B):=by rw[di];exact ff hε (gj.2 Mm)
  have Ub:0<δ:=by rw[hδ];grind
  have hδ1:δ<=1:=by rw[hδ];grind
  have hδ2:δ*(2*B)<=ε:=by
   have h1:δ<=ε/(2*B):=by rw[hδ];grind
   have h2:=cN h1 (bZ Mm);rwa[eh aK]at h2
  obtain⟨N0,h0⟩:=h δ Ub;refine⟨N0,λN hN=>?_⟩;obtain⟨r,hr,hd⟩:=h0 N hN;refine⟨r*r,Pr hx hp iw hr,?_⟩;obtain⟨r1,r2⟩:=hr.kr xa;rw[show f N*f N-r*r=(f N-r)*(f N+r)by grind,y6];have hs:jm (f N+r)<=2*B:=by
   obtain⟨_,c2,c3,_⟩:=nh (f N-r);exact y5 aK aK 
  have h3:=de hs (nh (f N-r)).1;have h4:=cN hd (bZ Mm)
  grind
 .exact pX.all (by unfold oW;rw[AD,xa];rfl)
def Y3(r:Rat):∀ ε,0<ε->∃ N0,∀ N,N0<=N->jm (EQ r N-EQ (r*P2 (-1)) N*EQ (r*P2 (-1)) N)<=ε:=by
 intro ε hε;have e:r*P2 (-1)+r*P2 (-1)=r:=by
  have:P2 (-1)=1/2:= aL ;rw[this];grind
 have:=KS (r*P2 (-1)) (r*P2 (-1)) hε;rwa[e]at this
def afN{r:Rat}{X:Iv}(hx:X.iy)(h:pX (EQ (r*P2 (-1))) X){p:Nat}(hp:1<=p)(iw:p<=4096):pX (EQ r) (oW X p):=(h.sqr hx hp iw).shift (Y3 r)
def ajd{y:Iv}{n:Int}(h:Sub y (pY n)):(mj y (-1)).all=true\/Sub (mj y (-1)) (pY (n-1)):=by
 obtain⟨ya,k1,k2⟩:=h.xy rfl;replace k1:(iK (qt n)).q<=y.lo.q:=k1;replace k2:y.hi.q<=(qt n).q:=k2;rw[ri,rh]at k1;rw[rh]at k2;unfold mj mh;rw[ya];simp only[bM,bE];split
 .exact .inl rfl
 .rename_i he;have e:P2 (n-1)=P2 n*P2 (-1):=by rw[<-rq];congr 1
  refine .inr (.inr ⟨rfl,?_,?_⟩)
  .show (iK (qt (n-1))).q<=(ug y.lo (-1)).q;rw[ri,rh,BK aC,e,<-amO,wI];exact k1
  .show (ug y.hi (-1)).q<=(qt (n-1)).q;rw[rh,BK aC,e,wI];exact k2
def uj(z:Rat)(k:Nat):Rat:=oh z (2*k+1)/((2*k+1:Nat):Rat)
def AQ(z:Rat)(N:Nat):Rat:=jb (uj z) (N+1)
def oF(z:Iv)(p:Nat):Nat->Iv
 | 0=>z
 |k+1=>iV (oF z p k) (oW z p) p
def vI(z:Iv)(p:Nat):Nat->Iv
 | 0=>z
 |k+1=>jO (vI z p k) (jz (oF z p (k+1)) (jI ((2*k+3:Nat):Int)) p) p
noncomputable def Ei(z:Iv)(p N:Nat):Iv:=mj (jO (vI z p N) (ru (oF z p N)) p) 1
def yH{z:Iv}(hz:z.iy){p:Nat}(iB:8<=p)(iw:p<=512):∀ k,(oF z p k).iy
 | 0=>hz
 |_+1=>oV _ _ aC aC 
def CM{z:Iv}(hz:z.iy){p:Nat}(iB:8<=p)(iw:p<=512):∀ k,(vI z p k).iy
 | 0=>hz
 |k+1=>qk (CM hz iB iw k) (oZ _ _ aC aC) aC aC 
def afJ{z:Iv}(hz:z.iy){p:Nat}(iB:8<=p)(iw:p<=512)(N:Nat):(Ei z p N).iy:=G8 (qk (CM hz iB iw N) (Dv (yH hz iB iw N)) aC aC) 1
def Pa(r:Rat)(k:Nat):oh r (2*(k+1)+1)=oh r (2*k+1)*(r*r):=by
 show oh r (2*k+1)*r*r=_
 grind
def NM{z:Iv}{r:Rat}(hz:z.iy)(h:z.ki r){p:Nat}(iB:8<=p)(iw:p<=512):∀ k,(oF z p k).ki (oh r (2*k+1))
 | 0=>by
  have e:oh r (2*0+1)=r:=by show 1*r=r;grind
  rw[e];exact h
 |k+1=>by
  rw[Pa];exact N4 (yH hz iB iw k) (Kp hz aC aC) aC aC (NM hz h iB iw k) (Pr hz aC aC h)
def UZ{z:Iv}{r:Rat}(hz:z.iy)(h:z.ki r){p:Nat}(iB:8<=p)(iw:p<=512):∀ k,k<1000000->(vI z p k).ki (AQ r k)
 | 0,_=>by
  have e:AQ r 0=r:=by
   show 0+1*r/((2*0+1:Nat):Rat)=r;have:((2*0+1:Nat):Rat)=1:=rfl;rw[this,di,show(1:Rat)⁻¹=1 by decide +kernel];grind
  rw[e];exact h
 |k+1,hk=>B0 (CM hz iB iw k) (oZ _ _ aC aC) aC aC (UZ hz h iB iw k aC)
  (IC (yH hz iB iw (k+1)) (Og (2*k+3) aC) aC aC (NM hz h iB iw (k+1)) (V3 (2*k+3)))
def K3(r:Rat):∀ n,jm (oh r n)=oh (jm r) n
 | 0=>by show jm 1=1;decide +kernel
 |n+1=>by simp only[oh];rw[y6,K3 r n]
def Zl(r:Rat)(k:Nat):jm (uj r k)<=oh (jm r) (2*k+1):=by
 unfold uj;have hp:(0:Rat)<((2*k+1:Nat):Rat):=Bt (2*k);have h1:(1:Rat)<=((2*k+1:Nat):Rat):=by
  have:=dU (a:=1) (b:=2*k+1);exact this.2 aC 
 have h0:=C9 (nh r).1 (2*k+1);rw[di,y6,K3];have hi:=gj.2 hp;have e:jm (((2*k+1:Nat):Rat)⁻¹)=((2*k+1:Nat):Rat)⁻¹:=by unfold jm;rw[bw (bZ hi)]
 rw[e,<-di];have x0:=RF h0 hp;have xc:=eh (a:=oh (jm r) (2*k+1)) (b:=((2*k+1:Nat):Rat)) aK;generalize oh (jm r) (2*k+1)/((2*k+1:Nat):Rat)=x at *
 have:=de h1 x0
 grind
def Qw{r:Rat}(hr:jm r*2<=1)(N:Nat):∀ d,jb (λi=>jm (uj r (N+1+i))) d+oh (jm r) (2*(N+d)+1)<=oh (jm r) (2*N+1)
 | 0=>by simp only[jb,ch];grind
 |d+1=>by
  have ih:=Qw hr N d;have h1:=Zl r (N+1+d);have e:2*(N+1+d)+1=2*(N+d+1)+1:= aC ;rw[e,Pa]at h1;have e2:2*(N+(d+1))+1=2*(N+d+1)+1:= aC ;rw[e2,Pa,jb];have h0:=C9 (nh r).1 (2*(N+d)+1);have hz:=(nh r).1;have hs:jm r*jm r*4<=1:=by
   have m:=de hr (show 0<=jm r*2 by grind)
   grind
  generalize oh (jm r) (2*(N+d)+1)=u at *
  generalize jm r*jm r=v at *
  have m2:=de hs h0
  grind
def afI{z:Iv}{r:Rat}(hz:z.iy)(h:z.ki r)(hr:jm r*2<=1){p:Nat}(iB:8<=p)(iw:p<=512){N:Nat}(hN:N<=1000):∀ M,N<=M->(Ei z p N).ki (AQ r M*2):=by
 intro M hM;obtain⟨d,rfl⟩:∃ d,M=N+d:=⟨M-N,aC⟩
 have e1:AQ r (N+d)=AQ r N+jb (λi=>uj r (N+1+i)) d:=by
  unfold AQ;rw[(aC:N+d+1=N+1+d),EP]
 have t:=Qw hr N d;have b1:=Dq (λi=>uj r (N+1+i)) d;have p0:=C9 (nh r).1 (2*(N+d)+1);have e2:P2 1=2:= aL ;rw[<-e2,e1];refine Ph (B0 (CM hz iB iw N) (Dv (yH hz iB iw N)) aC aC (UZ hz h iB iw N aC) (Qr (yH hz iB iw N) (NM hz h iB iw N) ?_)) 1;rw[K3];grind
def aj3{z:Iv}(hz:z.iy)(h:Sub z (pY (-1))){p:Nat}(iB:8<=p)(iw:p<=512):Sub (oW z p) (pY (-1)):=by
 obtain⟨za,k1,k2⟩:=h.xy rfl;replace k1:(iK (qt (-1))).q<=z.lo.q:=k1;replace k2:z.hi.q<=(qt (-1)).q:=k2;have e:P2 (-1)=1/2:= aL ;rw[ri,rh,e]at k1;rw[rh,e]at k2;have hl:=Qa za;have ha:(kf z).iy:=H9 hz;have hq:=ha.q;have hh:(kf z).hi.q<=1/2:=by
  unfold kf;rw[za];show(ng z).q<=1/2;obtain⟨_,_,m⟩:=CP hz.q;have:=hz.q;rcases m with m|m<;>grind
 have G1:=Az (p:=p) aC (n:=-1) aE aE;have A:=xL (AL (kf z).lo (kf z).lo) (p:=p) aC aC;have B:=xM (AL (kf z).hi (kf z).hi) (p:=p) aC aC;rw[Ez]at A B;rw[e]at G1;have jZ:0<=(kf z).lo.q*(kf z).lo.q:=cr hl hl;have hhi:(kf z).hi.q*(kf z).hi.q<=1/2:=by
  have h0:0<=(kf z).hi.q:=bV hl hq;have m:=de hh h0
  grind
 have a1:=A.2 (-(1/2)) G1.neg aK;have b1:=B.2 (1/2) G1 hhi;unfold oW mh;rw[AD,za];simp only[bM,bE];rw[bu aC];refine .inr ⟨rfl,?_,?_⟩
 .show (iK (qt (-1))).q<=_;rw[ri,rh,e];exact a1.2
 .show _<=(qt (-1)).q;rw[rh,e];exact b1.2
def UY{z:Iv}(hz:z.iy)(h:Sub z (pY (-1))){p:Nat}(iB:8<=p)(iw:p<=512):∀ k,k<=900->Sub (oF z p k) (pY (-((k+1:Nat):Int)))
 | 0,_=>h
 |k+1,hk=>by
  have ih:=UY hz h iB iw k aC;have sq:=aj3 hz h iB iw;have vT:=yH hz iB iw k;obtain⟨ta,_⟩:=ih.xy rfl;obtain⟨ya,_⟩:=sq.xy rfl;exact Ff (NY vT (Kp hz aC aC) ta ya (aC:1<=p) aC) aC aC aC (by
   rintro r ⟨a,b,ha,hb,rfl⟩;obtain⟨a1,a2⟩:=Dz.1 (ih.ki ha);obtain⟨b1,b2⟩:=Dz.1 (sq.ki hb);rw[<-S1];exact Qd a1 a2 b1 b2)
def afK{z:Iv}(hz:z.iy)(h:z.all=true\/Sub z (pY (-1))){p:Nat}(iB:8<=p)(iw:p<=512):∃ N,N<=1000/\(∀ x,x<N->pk (oF z p x) p=false)/\pk (oF z p N) p=true:=by
 have ex:∃ x,x<900/\pk (oF z p x) p=true:=by
  rcases h with h|h
  .exact ⟨0,aC,by show pk z p=true;unfold pk;rw[h];rfl⟩
  .exact ⟨p,aC,Yp (yH hz iB iw _) (UY hz h iB iw p aC)⟩
 obtain⟨N,n1,n2,n3⟩:=uB ex;exact⟨N,aC,n3,n2⟩
def ZC{a b:Rat}(h:a<=b)(k:Nat):uj a k<=uj b k:=by
 unfold uj;rw[di,di];exact cN (O9 aC h) (bZ (gj.2 (Bt (2*k))))
def Hv{a b:Rat}(h:a<=b)(N:Nat):AQ a N<=AQ b N:=De _ λk _=>ZC h k
def GV{d:Dy}(h:d.m≠0):jm d.q<P2 d.iI:=by
 have hT:d.iI=(iD d.m:Int)+d.e:=by unfold Dy.iI;rw[bu h]
 have h1:(d.m:Rat)<((2^iD d.m:Nat):Rat):=Rat.natCast_lt_natCast.2 (sC d.m);have h2:=eH h1 (oG d.e);rw[<-yY,<-rq]at h2;have h0:0<=(d.m:Rat)*P2 d.e:=cr dr (bZ (oG _));have h4:jm d.q=(d.m:Rat)*P2 d.e:=by
  rw[rM];unfold jm;cases d.neg
  .simp only[bM,bE];rw[bw h0]
  .simp only[bL];split<;>grind
 rw[h4,hT];exact h2
def OL{d:Dy}(h:d.m≠0):P2 (d.iI-1)<=jm d.q:=by
 have hT:d.iI=(iD d.m:Int)+d.e:=by unfold Dy.iI;rw[bu h]
 have hb:0<iD d.m:=xB.2 (by rw[cT];omega);have h1:2^(iD d.m-1)<=d.m:=xB.1 aC;have h2:((2^(iD d.m-1):Nat):Rat)<=(d.m:Rat):=dU.2 h1;have h3:=cN h2 (bZ (oG d.e));rw[<-yY,<-rq,show((iD d.m-1:Nat):Int)+d.e=d.iI-1 by rw[hT];omega]at h3;have h4:jm d.q=(d.m:Rat)*P2 d.e:=by
  have h0:0<=(d.m:Rat)*P2 d.e:=cr dr (bZ (oG _));rw[rM];unfold jm;cases d.neg
  .simp only[bM,bE];rw[bw h0]
  .simp only[bL];split<;>grind
 rw[h4];exact h3
def Ew{d:Dy}(h:0<d.q):d.m≠0:=λe=>by
 have:d.q=0:=by rw[rM,e];simp
 grind
def Ia{r:Rat}(h:0<r):jm r=r:=by unfold jm;rw[bw (bZ h)]
def wH(d:Dy):Rat:=d.q*P2 (-d.iI)
def Av(d:Dy):Rat:=(wH d-1)/(wH d+1)
def P3(k:Int):P2 k*P2 (-k)=1:=by rw[<-rq,(aC:k + -k=0),KV]
def Vz{d:Dy}(h:0<d.q):1/2<=wH d/\wH d<1:=by
 have h1:=OL (Ew h);have h2:=GV (Ew h);rw[Ia h]at h1 h2;have hp:=oG (-d.iI);have e1:=P3 d.iI;have e2:P2 (d.iI-1)*P2 (-d.iI)=1/2:=by
  rw[<-rq,(aC:d.iI-1 + -d.iI = -1)];decide +kernel
 have m1:=cN h1 (bZ hp);have m2:=eH h2 hp;unfold wH;constructor<;>grind
def Mc{a b:Rat}(ha:0<=a)(h:a<=b):(a-1)/(a+1)<=(b-1)/(b+1):=by
 have h1:0<a+1:= aK ;have h2:0<b+1:= aK ;have e1:=eh (a:=a-1) (b:=a+1) aK;have e2:=eh (a:=b-1) (b:=b+1) aK;generalize (a-1)/(a+1)=x at *
 generalize (b-1)/(b+1)=y at *
 apply dV.1;intro iJ;have m1:=eH iJ h1;have hy:y<1:=by
  apply Rat.not_le.1;intro hle;have:=cN hle (bZ h2)
  grind
 have m2:=de h (show 0<=1-y by grind)
 grind
def PQ{d:Dy}(h:0<d.q):-(1/3)<=Av d/\Av d<=0:=by
 obtain⟨h1,h2⟩:=Vz h;have a:=Mc (show(0:Rat)<=1/2 by decide +kernel) h1;have b:=Mc (show 0<=wH d by grind) (bZ h2);have e1:((1:Rat)/2-1)/(1/2+1) = -(1/3):= aL ;have e2:((1:Rat)-1)/(1+1)=0:= aL ;rw[e1]at a;rw[e2]at b;exact⟨a,b⟩
def KQ(z:Rat)(N:Nat):AQ (-z) N = -AQ z N:=by
 have:∀ n,jb (uj (-z)) n = -jb (uj z) n:=by
  intro n
  induction n with
  |zero=>simp[jb]
  |succ n ih=>
   rw[jb,jb,ih];have:uj (-z) n = -uj z n:=by
    unfold uj;rw[C8,bu aC];simp only[di];grind
   rw[this];grind
 exact this _
def PR(N:Nat):AQ 0 N=0:=by
 have:=KQ 0 N;rw[show -(0:Rat)=0 by decide +kernel]at this
 grind
def Y1(N:Nat):0<=AQ (1/3) N:=by
 have:=Hv (show(0:Rat)<=1/3 by decide +kernel) N;rwa[PR]at this
def LQ(d:Dy)(N:Nat):Rat:=AQ (Av d) N*2+(d.iI:Rat)*(AQ (1/3) N*2)
def akQ{a b:Dy}(ha:0<a.q)(h:a.q<=b.q):a.iI<=b.iI:=by
 have hb:0<b.q:= aK ;have h1:=OL (Ew ha);have h2:=GV (Ew hb);rw[Ia ha]at h1;rw[Ia hb]at h2;apply ck;intro iJ;have:=E4 (aC:b.iI<=a.iI-1)
 grind
def Zc{a b:Dy}(ha:0<a.q)(h:a.q<=b.q)(N:Nat):LQ a N<=LQ b N:=by
 have hb:0<b.q:= aK ;have ht:=akQ ha h;obtain⟨a1,a2⟩:=PQ ha;obtain⟨b1,b2⟩:=PQ hb;have c0:=Y1 N;unfold LQ;rcases Int.lt_or_eq_of_le ht with iJ|heq
 .have k1:=Hv a2 N;rw[PR]at k1;have k2:=Hv b1 N;rw[KQ]at k2;have k3:(a.iI:Rat)+1<=(b.iI:Rat):=by
   have:=gN (a:=a.iI+1) (b:=b.iI);have:=this.2 aC;rwa[Rat.intCast_add]at this
  have k4:=cN k3 (show 0<=AQ (1/3) N*2 by grind)
  grind
 .have hm:wH a<=wH b:=by
   unfold wH;rw[heq];exact cN h (bZ (oG _))
  have hz:Av a<=Av b:=Mc (by have:=(Vz ha).1;grind) hm;have:=Hv hz N;rw[heq]
  grind
def Zd(N:Nat):LQ ⟨false,1,0⟩ N=0:=by
 have e1:Av ⟨false,1,0⟩ = -(1/3):= aL ;have e2:((⟨false,1,0⟩:Dy).iI:Rat)=1:= aL ;unfold LQ;rw[e1,e2,KQ];grind
noncomputable def uC(d:Dy)(p:Nat):Iv:=mj (mi (jF d) p) (-d.iI)
noncomputable def El(d:Dy)(p:Nat):Iv:=jz (jO (uC d p) (jI (-1)) p) (jO (uC d p) (jI 1) p) p
def Yt{d:Dy}(hd:d.iy)(h:d.m≠0):-16384<=d.iI-1/\d.iI<=16384:=by
 have hT:d.iI=(iD d.m:Int)+d.e:=by unfold Dy.iI;rw[bu h]
 have hb:0<iD d.m:=xB.2 (by rw[cT];omega);have h1:=hd.range;unfold oz at h1;have h2:=hd.exp;constructor
 .omega
 .rw [hT]
  first|omega|(rcases h1 with h1|h1<;>first|omega|exact absurd h1 h)
def aiO{d:Dy}(hd:d.iy)(h:0<d.q){p:Nat}(iB:8<=p)(iw:p<=512)(ha:(mi (jF d) p).all=false):P2 (d.iI-1)<=(mi (jF d) p).lo.q/\(mi (jF d) p).hi.q<=P2 d.iI:=by
 have hm:=Ew h;obtain⟨t1,t2⟩:=Yt hd hm;have q1:=OL hm;have q2:=GV hm;rw[Ia h]at q1 q2;have A:=xL hd.canon (p:=p) aC aC;have B:=xM hd.canon (p:=p) aC aC;have G1:G p (P2 (d.iI-1)):=.inl ⟨1,d.iI-1,by rw[AF];omega,t1,by rw[AF];omega,aH⟩;have he:¬(jP d p false≠0\/jP d p true≠0):=by
  intro hc;unfold mi mh at ha;rw[show(jF d).all=false from rfl]at ha;simp only[bM,bE]at ha;rw[bw (show jP (jF d).lo p false≠0\/jP (jF d).hi p true≠0 from hc)]at ha;cases ha
 have e1:(mi (jF d) p).lo=iM d p false/\(mi (jF d) p).hi=iM d p true:=by
  unfold mi mh;rw[show(jF d).all=false from rfl];simp only[bM,bE];rw[bu (show ¬(jP (jF d).lo p false≠0\/jP (jF d).hi p true≠0)from he)];exact⟨rfl,rfl⟩
 rw[e1.1,e1.2];refine⟨(A.2 _ G1 q1).2,?_⟩;by_cases ht:d.iI<=16383
 .have G2:G p (P2 d.iI):=.inl ⟨1,d.iI,by rw[AF];omega,aC,by rw[AF];omega,aH⟩;exact(B.2 _ G2 (bZ q2)).2
 .obtain ⟨g,_⟩:=B.1 aC ;have TD:0<=(iM d p true).q:=bV (bZ h) (B.1 aC).2;obtain⟨m,e,hb,_,hr,hv⟩:=g.pos TD;rw[hv];have h1:(m:Rat)<=((2^iD m:Nat):Rat):=dU.2 (dR (sC m));have h2:=cN h1 (bZ (oG e));rw[<-yY,<-rq]at h2;exact bV h2 (E4 aC)
def af4{d:Dy}(hd:d.iy){p:Nat}(iB:8<=p)(iw:p<=512):(uC d p).ki (wH d):=Ph (G4 (qV hd) aC aC (OF d)) _
def af6{d:Dy}(hd:d.iy){p:Nat}(iB:8<=p)(iw:p<=512):(uC d p).iy:=G8 (EG (qV hd) aC aC) _
def af5{d:Dy}(hd:d.iy)(h:0<d.q){p:Nat}(iB:8<=p)(iw:p<=512)(ha:(uC d p).all=false):1/2<=(uC d p).lo.q/\(uC d p).hi.q<=1:=by
 unfold uC mj at ha ⊢;cases ra:(mi (jF d) p).all
 .rw [ra]at ha;obtain⟨h1,h2⟩:=aiO hd h iB iw ra;simp only[bM,bE]at ha ⊢;unfold mh at ha ⊢;split
  .rename_i he;rw[bw he]at ha;cases ha
  .rename_i he;have e1:=P3 d.iI;have e2:P2 (d.iI-1)*P2 (-d.iI)=1/2:=by
    rw[<-rq,(aC:d.iI-1 + -d.iI = -1)];decide +kernel
   refine⟨?_,?_⟩
   .show 1/2<=(ug _ _).q;rw[BK aC,<-e2,wI];exact h1
   .show (ug _ _).q<=1;rw[BK aC,<-e1,wI];exact h2
 .rw [ra]at ha;cases ha
def aeb{a b:Rat}(h1:-(1/2)<=a)(h2:a<=1/2)(hb:1<=b):-(1/2)<=a/b/\a/b<=1/2:=by
 have e:=eh (a:=a) (b:=b) aK;generalize a/b=x at *
 constructor
 .apply dV.1;intro iJ;have:=eH iJ (show 0<b by grind)
  grind
 .apply dV.1;intro iJ;have:=eH iJ (show 0<b by grind)
  grind
def af8{d:Dy}(hd:d.iy)(h:0<d.q){p:Nat}(iB:8<=p)(iw:p<=512):(El d p).iy/\(El d p).ki (Av d)/\((El d p).all=true\/Sub (El d p) (pY (-1))):=by
 have vM:=af6 hd iB iw;have hM:=af4 hd iB iw;have vn:(jI (-1)).iy:=wJ aE;have v1:(jI 1).iy:=wJ aE;have vA:(jO (uC d p) (jI (-1)) p).iy:=qk vM vn aC aC;have vB:(jO (uC d p) (jI 1) p).iy:=qk vM v1 aC aC;have e1:((-1:Int):Rat) = -1:= aL ;have e2:((1:Int):Rat)=1:= aL ;have hA:=B0 vM vn (p:=p) aC aC hM (Ae (-1));have hB:=B0 vM v1 (p:=p) aC aC hM (Ae 1);rw[e1,show wH d + -1=wH d-1 by grind]at hA;rw[e2]at hB;refine⟨oZ _ _ aC aC,IC vA vB aC aC hA hB,?_⟩;cases ma:(uC d p).all
 .right;obtain⟨m1,m2⟩:=af5 hd h iB iw ma;have one:∀ (n:Int) r,(jI n).ki r->r=(n:Rat):=λn r hr=>by
   obtain⟨r1,r2⟩:=hr.kr rfl;replace r1:(jo n).q<=r:=r1;replace r2:r<=(jo n).q:=r2;rw[BE]at r1 r2;exact fg r2 r1
  have g1:G p (1/2):=by have:=Az (p:=p) aC (n:=-1) aE aE;rwa[show P2 (-1)=1/2 by decide +kernel]at this
  have g2:G p 1:=by have:=Az (p:=p) aC (n:=0) aE aE;rwa[KV]at this
  have g4:G p 2:=by have:=Az (p:=p) aC (n:=1) aE aE;rwa[show P2 1=2 by decide +kernel]at this
  obtain⟨aa,a1,a2⟩:=(K4 vM vn ma rfl (aC:1<=p) aC).yG (-(1/2)) (1/2) g1.neg g1 (by
   rintro r ⟨a,b,ha,hb,rfl⟩;obtain⟨b1,b2⟩:=ha.kr ma;rw[one _ b hb,e1];constructor<;>grind)
  obtain⟨ba,b1,b2⟩:=(K4 vM v1 ma rfl (aC:1<=p) aC).yG 1 2 g2 g4 (by
   rintro r ⟨a,b,ha,hb,rfl⟩;obtain⟨b1,b2⟩:=ha.kr ma;rw[one _ b hb,e2];constructor<;>grind)
  refine Ff (IB vA vB aa (Pq ba (.inl aK)) (aC:1<=p) aC) aC aE aE ?_;rintro r ⟨a,b,ha,hb,rfl⟩;obtain⟨x1,x2⟩:=ha.kr aa;obtain⟨y1,y2⟩:=hb.kr ba;rw[show P2 (-1)=1/2 by decide +kernel];exact aeb aK aK aK 
 .left;show(jz (jO (uC d p) (jI (-1)) p) (jO (uC d p) (jI 1) p) p).all=true;rw[Ib p (.inl ma),Fx p (.inl rfl)];rfl
def acS{d:Dy}(hd:d.iy)(h:d.m≠0){p:Nat}(iB:8<=p)(iw:p<=512){n:Int}(h1:d.iI<=n)(h2:-1000<=n)(h3:n<=1000):Sub (mi (jF d) p) (pY n):=by
 refine aiN (qV hd) aC aC h2 h3 (.inr ⟨rfl,?_,?_⟩)
 .show (iK (qt n)).q<=d.q;rw[ri,rh];have:=GV h;have hl:=E4 h1;obtain⟨_,a2,a3,_⟩:=nh d.q
  grind
 .show d.q<=(qt n).q;rw[rh];have:=GV h;have hl:=E4 h1;obtain⟨_,a2,a3,_⟩:=nh d.q
  grind
def YK(y:Iv)(p n:Nat)(x:Nat):PS:=⟨32,true,[(7,.e (iP ((x+1:Nat):Int))),(6,.box 6 0),(5,.box 5 0),(4,.box 4 0),(3,.box 3 0),(2,.box 2 0)],[(6,.cells 39 (iQ (uo y p x))),(5,.cells 39 (iQ (lI y p x))),(4,.cells 39 au),(3,.cells 39 (iQ y)),(2,.cells 272 [iP p])]⟩
def afP{f:Nat->Rat}{X Y:Iv}(h:pX f X)(k:∀ r,X.ki r->Y.ki r):pX f Y:=λε hε=>by
 obtain⟨N0,h0⟩:=h ε hε;exact⟨N0,λN hN=>by obtain⟨r,h1,h2⟩:=h0 N hN;exact⟨r,k r h1,h2⟩⟩
def ivW{x:Iv}(hx:x.iy)(ha:x.all=true):x=ix:=by
 obtain⟨h1,h2⟩:=Uu hx ha;obtain⟨a,b,c⟩:=x;simp only at h1 h2 ha;rw[h1,h2,ha];rfl
def ZZ(x:Iv)(hx:x.iy)(xa:x.all=true)(k:Int)(k1:-32768<=k)(k2:k<=32768):ik 320 [iz x,iP k] (iz (mj x k)):=
 ak call320 func320 (ae [.o 10 (.e (lJ _):aj (.sl true 1 7 λi_ j_=>(iQ x).getD (i_*7+j_) (.v (.bool false))) (iq [x])),ag [iq [x]] (qi _ aD),ai 11 (!x.all) (by rw[xa];rfl),.c nW]<|rQ (iz ix) (iz (mj x k)) (by rw[show(mj x k)=ix by unfold mj;rw[bw xa]])) 
def Z0(x:Iv)(hx:x.iy)(xa:x.all=false)(k:Int)(k1:-32768<=k)(k2:k<=32768):ik 320 [iz x,iP k] (iz (mj x k)):=by
 obtain⟨v1,v2⟩:=hx.kr;exact ak call320 func320 (ae [.o 10 (.e (lJ _):aj (.sl true 1 7 λi_ j_=>(iQ x).getD (i_*7+j_) (.v (.bool false))) (iq [x])),ag [iq [x]] (qi _ aD),ah 11 (!x.all) (by rw[xa];rfl),.c (Lb x.lo k aD aC aC),.c (Lb x.hi k aD aC aC),.c (CF (r8 (canon x.lo.neg x.lo.m (x.lo.e+k))) (r8 (canon x.hi.neg x.hi.m (x.hi.e+k))) (uk (canon x.lo.neg x.lo.m (x.lo.e+k))) (uk (canon x.hi.neg x.hi.m (x.hi.e+k))))]<|rQ (iz (mh (r8 (canon x.lo.neg x.lo.m (x.lo.e+k))) (uk (canon x.lo.neg x.lo.m (x.lo.e+k))) (r8 (canon x.hi.neg x.hi.m (x.hi.e+k))) (uk (canon x.hi.neg x.hi.m (x.hi.e+k))))) (iz (mj x k)) (by unfold mj;rw[bu (by rw[xa];decide)];simp only[aja,ajb])) 
def Ij(x:Iv)(hx:x.iy)(k:Int)(k1:-32768<=k)(k2:k<=32768):ik 320 [iz x,iP k] (iz (mj x k)):=by
 cases xa:x.all with
 |true=>exact ZZ x hx xa k k1 k2
 |false=>exact Z0 x hx xa k k1 k2
def ZX(x:Iv)(hx:x.iy)(xa:x.all=true)(p:Nat)(iB:8<=p)(iw:p<=512):ik 344 [iz x,iP p] (iz (mi x p)):=
 ak call344 func344 (ae [.o 10 (.e (lJ _):aj (.sl true 1 7 λi_ j_=>(iQ x).getD (i_*7+j_) (.v (.bool false))) (iq [x])),ag [iq [x]] (qi _ aD),ai 11 (!x.all) (by rw[xa];rfl),.c nW]<|rQ (iz ix) (iz (mi x p)) (by rw[show(mi x p)=ix by unfold mi;rw[bw xa]])) 
def ZY(x:Iv)(hx:x.iy)(xa:x.all=false)(p:Nat)(iB:8<=p)(iw:p<=512):ik 344 [iz x,iP p] (iz (mi x p)):=by
 obtain⟨v1,v2⟩:=hx.kr;exact ak call344 func344 (ae [.o 10 (.e (lJ _):aj (.sl true 1 7 λi_ j_=>(iQ x).getD (i_*7+j_) (.v (.bool false))) (iq [x])),ag [iq [x]] (qi _ aD),ah 11 (!x.all) (by rw[xa];rfl),ag [iP p] (vG _),ah 15 (pT (p:Int)) (uI.2 ⟨aC,aC⟩),.c (Ik x.lo p aD aC aC),.c (Il x.hi p aD aC aC),.c (CF (iM x.lo p false) (iM x.hi p true) (jP x.lo p false) (jP x.hi p true))]<|rQ (iz (mh (iM x.lo p false) (jP x.lo p false) (iM x.hi p true) (jP x.hi p true))) (iz (mi x p)) (by unfold mi;rw[bu (by rw[xa];decide)])) 
def Fc(x:Iv)(hx:x.iy)(p:Nat)(iB:8<=p)(iw:p<=512):ik 344 [iz x,iP p] (iz (mi x p)):=by
 cases xa:x.all with
 |true=>exact ZX x hx xa p iB iw
 |false=>exact ZY x hx xa p iB iw
def Z3(x:Iv)(hx:x.iy)(xa:x.all=true)(p:Nat)(iB:8<=p)(iw:p<=512):ik 371 [iz x,iP p] (iz (oW x p)):=by
 have ha:(kf x).all=true:=by rw[AD,xa]
 exact ak call371 func371 (ae [.c (NA x aD),ah 13 ((kf x).all) ha,.c nW]<|rQ (iz ix) (iz (oW x p)) (by unfold oW;rw[bw ha])) 
def Z4(x:Iv)(hx:x.iy)(xa:x.all=false)(p:Nat)(iB:8<=p)(iw:p<=512):ik 371 [iz x,iP p] (iz (oW x p)):=by
 have ha:(kf x).all=false:=by rw[AD,xa]
 have hv:=H9 hx;obtain⟨v1,v2⟩:=hv.kr;exact ak call371 func371 (ae [.c (NA x aD),ai 13 ((kf x).all) ha,ag [iP p] (vG _),ah 16 (pT (p:Int)) (uI.2 ⟨aC,aC⟩),.c (J3 ((kf x).lo) ((kf x).lo) p aD aD aC aC),.c (J4 ((kf x).hi) ((kf x).hi) p aD aD aC aC),.c (CF (iM (mW ((kf x).lo) ((kf x).lo)) p false) (iM (mW ((kf x).hi) ((kf x).hi)) p true) (jP (mW ((kf x).lo) ((kf x).lo)) p false) (jP (mW ((kf x).hi) ((kf x).hi)) p true))]<|rQ (iz (mh (iM (mW ((kf x).lo) ((kf x).lo)) p false) (jP (mW ((kf x).lo) ((kf x).lo)) p false) (iM (mW ((kf x).hi) ((kf x).hi)) p true) (jP (mW ((kf x).hi) ((kf x).hi)) p true))) (iz (oW x p)) (by unfold oW;rw[bu (by rw[ha];decide)];rfl)) 
def QD(x:Iv)(hx:x.iy)(p:Nat)(iB:8<=p)(iw:p<=512):ik 371 [iz x,iP (p:Int)] (iz (oW x p)):=by
 cases xa:x.all with
 |true=>exact Z3 x hx xa p iB iw
 |false=>exact Z4 x hx xa p iB iw
def QE(x:Iv)(hx:x.iy)(xa:x.all=true):ik 182 [iz x] (.iE [iA iS,bP false]):=
 ak call182 func182 (af [.o 5 (.e (lJ _):aj (.sl true 1 7 λi_ j_=>(iQ x).getD (i_*7+j_) (.v (.bool false))) (iq [x])),ag [iq [x]] (qi _ aD),ai 6 (!x.all) (by rw[xa];rfl),.o 8 (.e Au:aj (.agg ar) (iA iS))]) 
def xO(n:Int)(h:n.natAbs<4294967296):ik 342 [iP n] (iz (jI n)):=by
 have hv:=s6 h;exact ak call342 func342 (af [ag [iP n] (rT _ aC),.c (rZ (jo n) aD)]) 
def BX(p:Nat)(x y:Iv)(hx:x.iy)(hy:y.iy)(iB:8<=p)(iw:p<=512):ik 347 [.agg [iP p],iz x,iz y] (iz (jO x y p)):=
 ak call347 func347 (af [.c (wG x y p aD aD aC aC)]) 
def KJ(p:Nat)(x y:Iv)(hx:x.iy)(hy:y.iy)(iB:8<=p)(iw:p<=512):ik 349 [.agg [iP p],iz x,iz y] (iz (iV x y p)):=
 ak call349 func349 (af [.c (uA x y p aD aD aC aC)]) 
def Hs(p:Nat)(x y:Iv)(hx:x.iy)(hy:y.iy)(iB:8<=p)(iw:p<=512):ik 346 [.agg [iP p],iz x,iz y] (iz (jz x y p)):=
 ak call346 func346 (af [.c (tY x y p aD aD aC aC)]) 
def alF(p:Nat)(x:Iv)(hx:x.iy)(xa:x.all=true)(iB:8<=p)(iw:p<=512):ik 372 [.agg [iP p],iz x] (bP (pk x p)):=
 ak call372 func372 (ae [.c (QE x hx xa)]<|rQ (bP true) (bP (pk x p)) (by unfold pk;rw[xa];rfl)) 
def Yo{x:Iv}(xa:x.all=false)(p:Nat):pk x p=(((ng x).jG==0)||decide ((ng x).iI<=0-(p:Int))):=by
 unfold pk;rw[xa,amI];congr 1
 .unfold Dy.jG;by_cases h:(ng x).m=0
  .simp [h]
  .simp only[h,bE,ado];split<;>rfl
 .rw [show(0:Int)-p = -(p:Int)by omega]
def alG(p:Nat)(x:Iv)(hx:x.iy)(xa:x.all=false)(iB:8<=p)(iw:p<=512):ik 372 [.agg [iP p],iz x] (bP (pk x p)):=by
 have hm:=JD hx.kr.1 hx.kr.2;exact ak call372 func372 (ae [.c (NC x hx xa),ag [iA (ng x)] (pC _ aD)]<|.w ((Dy.jG (ng x))=0)
  (λk1=>ae [tB 17 (bj k1)]<|rQ (bP true) (bP (pk x p)) (by rw[Yo xa];simp[k1]))
  (λk1=>ae [tB 17 (bh k1),ag [iA (ng x)] (pr _ aD),iL (0-(p:Int)) aC]<|rQ (bP (decide ((Dy.iI (ng x))<=(0-(p:Int))))) (bP (pk x p)) (by rw[Yo xa];simp[k1]))) 
def KK(p:Nat)(x:Iv)(hx:x.iy)(iB:8<=p)(iw:p<=512):ik 372 [.agg [iP p],iz x] (bP (pk x p)):=by
 cases xa:x.all with
 |true=>exact alF p x hx xa iB iw
 |false=>exact alG p x hx xa iB iw
def alS(x:Iv)(hx:x.iy)(xa:x.all=true):ik 373 [iz x] (iz (ru x)):=
 ak call373 func373 (ae [.c (QE x hx xa),.c nW]<|rQ (iz ix) (iz (ru x)) (by rw[show ru x=ix by unfold ru;rw[bw xa];exact ivW hx xa])) 
def alT(x:Iv)(hx:x.iy)(xa:x.all=false):ik 373 [iz x] (iz (ru x)):=by
 have hm:=JD hx.kr.1 hx.kr.2;exact ak call373 func373 (ae [.c (NC x hx xa),ag [iA (ng x)] (um _ aD)]<|rQ (iz (Iv.mk (iK (ng x)) (ng x) false)) (iz (ru x)) (by unfold ru;rw[bu (by rw[xa];decide)];try rfl)) 
def YV(x:Iv)(hx:x.iy):ik 373 [iz x] (iz (ru x)):=by
 cases xa:x.all with
 |true=>exact alS x hx xa
 |false=>exact alT x hx xa
def alA(y:Iv)(p n:Nat)(hy:y.iy)(iB:8<=p)(iw:p<=512)(h2:n<=1000)(jZ:∀ x,x<n->pk (lI y p (x+1)) p=false)(hN:pk (lI y p (n+1)) p=true):ik 370 [.agg [iP p],iz y] (iz (zh y p (n+1))):=by
 have t0:=wR hy iB iw n;have s0:=DK hy iB iw n;have t1:(iV (lI y p n) y p).iy:=oV _ _ aC aC;have n1:(jI ((n+1:Nat):Int)).iy:=CX _ aC;have t2:(jz (iV (lI y p n) y p) (jI ((n+1:Nat):Int)) p).iy:=oZ _ _ aC aC;have a1:(jO (uo y p n) (jz (iV (lI y p n) y p) (jI ((n+1:Nat):Int)) p) p).iy:=qk s0 t2 aC aC;have r1:=Dv t2;exact ak call370 func370 (ae [.c (xO 1 aC),.c (xO 1 aC),.s (Sp.kE (YK y p n) 0 n aC (λx hx nd=>by
    have t0:=wR hy iB iw x;have s0:=DK hy iB iw x;have t1:(iV (lI y p x) y p).iy:=oV _ _ aC aC;have n1:(jI ((x+1:Nat):Int)).iy:=CX _ aC;have t2:(jz (iV (lI y p x) y p) (jI ((x+1:Nat):Int)) p).iy:=oZ _ _ aC aC;exact jh (ae [.c (KJ p (lI y p x) y aD aD aC aC),.c (xO ((x+1:Nat):Int) aC),.c (Hs p (iV (lI y p x) y p) (jI ((x+1:Nat):Int)) aD aD aC aC),.c (BX p (uo y p x) (jz (iV (lI y p x) y p) (jI ((x+1:Nat):Int)) p) aD aD aC aC),.c (KK p (jz (iV (lI y p x) y p) (jI ((x+1:Nat):Int)) p) aD aC aC),ai 26 (pk (jz (iV (lI y p x) y p) (jI ((x+1:Nat):Int)) p) p) (jZ x aC),
     iL (((x+1:Nat):Int)+1) aC]<|.e (af [.b 6 (.jl rfl:Bx.le (.cells 39 (iQ (jO (uo y p x) (jz (iV (lI y p x) y p) (jI ((x+1:Nat):Int)) p) p))) (.cells 39 (iQ (uo y p (x+1))))),.b 5 (.jl rfl:Bx.le (.cells 39 (iQ (jz (iV (lI y p x) y p) (jI ((x+1:Nat):Int)) p))) (.cells 39 (iQ (lI y p (x+1)))))])) aF)
  (λhx=>by
    exact jh (af [.c (KJ p (lI y p n) y aD aD aC aC),.c (xO ((n+1:Nat):Int) aC),.c (Hs p (iV (lI y p n) y p) (jI ((n+1:Nat):Int)) aD aD aC aC),.c (BX p (uo y p n) (jz (iV (lI y p n) y p) (jI ((n+1:Nat):Int)) p) aD aD aC aC),.c (KK p (jz (iV (lI y p n) y p) (jI ((n+1:Nat):Int)) p) aD aC aC),ah 26 (pk (jz (iV (lI y p n) y p) (jI ((n+1:Nat):Int)) p) p) hN]) aF) aI:kD 4 f370 (YK y p n 0) (.exit 0) ⟨32,true,[(6,.box 6 0),(5,.box 5 0),(4,.box 4 0),(2,.box 2 0)],[(6,.cells 39 (iQ (jO (uo y p n) (jz (iV (lI y p n) y p) (jI ((n+1:Nat):Int)) p) p))),(5,.cells 39 (iQ (jz (iV (lI y p n) y p) (jI ((n+1:Nat):Int)) p))),(4,.cells 39 au),(2,.cells 272 [iP p])]⟩) (af [.o 7 (aq 1 ((0+1:Nat):Int) aP),.b 6 (.jl rfl:Bx.le (.cells 39 (iQ (jI 1))) (.cells 39 (iQ (uo y p 0)))),.b 5 (.jl rfl:Bx.le (.cells 39 (iQ (jI 1))) (.cells 39 (iQ (lI y p 0))))]),ag [iz (jz (iV (lI y p n) y p) (jI ((n+1:Nat):Int)) p)] (YV _ aD),.c (BX p (jO (uo y p n) (jz (iV (lI y p n) y p) (jI ((n+1:Nat):Int)) p) p) (ru (jz (iV (lI y p n) y p) (jI ((n+1:Nat):Int)) p)) aD aD aC aC)]<|rR (iz (zh y p (n+1))) (.jl rfl:E.le (iz (jO (jO (uo y p n) (jz (iV (lI y p n) y p) (jI ((n+1:Nat):Int)) p) p) (ru (jz (iV (lI y p n) y p) (jI ((n+1:Nat):Int)) p)) p)) (iz (zh y p (n+1))))) 
def alB{y:Iv}(hy:y.iy)(hb:y.all=true\/Sub y (pY (-1))){p:Nat}(iB:8<=p)(iw:p<=512):∃ Z,Z.iy/\(∀ r,y.ki r->pX (EQ r) Z)/\ik 370 [.agg [iP (p:Int)],iz y] (iz Z):=by
 obtain⟨N,h1,h2,h3,h4⟩:=acX hy hb iB iw;obtain⟨n,rfl⟩:∃ n,N=n+1:=⟨N-1,aC⟩
 exact⟨zh y p (n+1),acW hy iB iw _,λr hr=>acV hy hr hb iB iw h1 h2,alA y p n hy iB iw aC (λx hx=>h3 (x+1) aC aC) h4⟩
def alD(y Z:Iv)(p:Nat)(aea:ik 370 [.agg [iP (p:Int)],iz y] (iz Z)):ik 345 [.agg [iP p],iz y,iP 0] (iz Z):=
 ak call345 func345 (af [ah 8 ((0:Int)==0) aE,ag [.agg [iP p],iz y] aea]) 
def alC(y Z:Iv)(p n:Nat)(hy:y.iy)(hZ:Z.iy)(hn:n<=1000)(hH:ik 345 [.agg [iP (p:Int)],iz (mj y (-1)),iP (n:Int)] (iz Z))(iB:8<=p)(iw:p<=512):ik 345 [.agg [iP p],iz y,iP ((n+1:Nat):Int)] (iz (oW Z p)):=
 ak call345 func345 (af [ai 8 (((n+1:Nat):Int)==0) (pz aC),.c (Ij y aD (-1) aC aC),iL (((n+1:Nat):Int)-1) aC,.c (by rw[show(((n+1:Nat):Int)-1)=(n:Int)by omega];exact hH:ik 345 [.agg [iP p],iz (mj y (-1)),iP (((n+1:Nat):Int)-1)] (iz Z)),ag [iz Z,iP p] (QD _ aD _ aC aC)]) 
def YL{p:Nat}(iB:8<=p)(iw:p<=512):∀ (n:Nat) {y:Iv},n<=500->y.iy->(y.all=true\/Sub y (pY ((n:Int)-1)))->∃ Z,Z.iy/\(∀ r,y.ki r->pX (EQ r) Z)/\ik 345 [.agg [iP (p:Int)],iz y,iP (n:Int)] (iz Z)
 | 0,y,_,hy,hb=>by
  obtain⟨Z,h1,h2,h3⟩:=alB hy (by simpa using hb) iB iw;exact⟨Z,h1,h2,alD y Z p h3⟩
 |n+1,y,hn,hy,hb=>by
  have hs:=G8 hy (-1);have nR:(mj y (-1)).all=true\/Sub (mj y (-1)) (pY ((n:Int)-1)):=by
   rcases hb with hb|hb
   .left;unfold mj;rw[bw hb];rfl
   .have:=ajd hb;rwa[show(((n+1:Nat):Int)-1-1)=(n:Int)-1 by omega]at this
  obtain⟨Z,h1,h2,h3⟩:=YL iB iw n aC hs nR;exact⟨oW Z p,Kp h1 aC aC,λr hr=>afN h1 (h2 _ (Ph hr (-1))) aC aC,alC y Z p n hy h1 aC h3 iB iw⟩
def PN(p m:Nat)(h1:p<=512)(h2:m<=1000):ik 343 [iP p,iP m] (.agg [iP ((min (p+m) 512:Nat):Int)]):=
 ak call343 func343 (af [iL ((p:Int)+m) aC,.o 8 (aq (if 512<((p+m:Nat):Int)then 512 else((p+m:Nat):Int)) ((min (p+m) 512:Nat):Int) aM)]) 
def al8(d:Dy)(p:Nat)(hd:d.iy)(h0:d.jG=0)(iB:8<=p)(iw:p<=512):ik 330 [iA d,iP p] (iz (jI 1)):=
 ak call330 func330 (af [ag [iA d] (pC _ aD),ah 9 ((Dy.jG d)==0) (by rw[h0];rfl),.c (xO 1 aC)]) 
def Hm{d:Dy}(hd:d.iy):-100000<=d.iI:=by
 unfold Dy.iI;have:=hd.exp;split<;>omega
def akS{d:Dy}(h:d.m=0):d.iI=0:=by unfold Dy.iI;rw[bw h]
def al7(d:Dy)(p:Nat)(Z:Iv)(hd:d.iy)(h0:d.jG≠0)(ht:d.iI<=100)(hZ:Z.iy)(hH:ik 345 [.agg [iP (((min (p+(((d.iI+1).toNat)+24)) 512):Nat):Int)],iz (mi (jF d) (min (p+(((d.iI+1).toNat)+24)) 512)),iP ((((d.iI+1).toNat):Nat):Int)] (iz Z))(iB:8<=p)(iw:p<=512):ik 330 [iA d,iP p] (iz (mi Z p)):=by
 have sZ:-100000<=d.iI:=Hm hd;have vp:=qV hd;exact ak call330 func330 (af [ag [iA d] (pC _ aD),ai 9 ((Dy.jG d)==0) (by simpa using h0),ag [iA d] (pr _ aD),iL ((Dy.iI d)+1) aC,.o 14 (aq (if 0>((Dy.iI d)+1)then 0 else((Dy.iI d)+1)) ((d.iI+1).toNat:Int) aM),iL (((d.iI+1).toNat:Int)+24) aC,.c (PN p (((d.iI+1).toNat)+24) aC aC),.c (rZ d aD),.c (Fc (jF d) aD (min (p+(((d.iI+1).toNat)+24)) 512) aC aC),ag [.agg [iP ((min (p+(((d.iI+1).toNat)+24)) 512:Nat):Int)],iz (mi (jF d) (min (p+(((d.iI+1).toNat)+24)) 512)),iP ((d.iI+1).toNat:Int)] hH,.c (Fc Z aD p aC aC)]) 
def ajT{d:Dy}(h:d.jG≠0):d.m≠0:=λq=>h (by unfold Dy.jG;rw[bw q])
def YY{d:Dy}(hd:d.iy)(ht:d.iI<=100){p:Nat}(iB:8<=p)(iw:p<=512):∃ Z,Z.iy/\pX (EQ d.q) Z/\ik 330 [iA d,iP (p:Int)] (iz Z):=by
 by_cases h0:d.jG=0
 .refine ⟨jI 1,wJ aE,?_,al8 d p hd h0 iB iw⟩;have hq:d.q=0:=by
   have h1:=sF d;rw[h0]at h1;have a:=h1.1.2;have b:=h1.2.2;have:¬0<d.q:=λq=>absurd (a q) aE 
   have:¬d.q<0:=λq=>absurd (b q) aE 
   grind
  rw[hq];exact pX.Ol (k:=0) λN _=>by rw[Y7];exact Ae 1
 .have hm:=ajT h0;obtain⟨P,hP⟩:∃ P,P=min (p+((d.iI+1).toNat+24)) 512:=⟨_,rfl⟩
  have hb:=acS hd hm (p:=P) aC aC (n:=((d.iI+1).toNat:Int)-1) aC aC aC;obtain⟨Z,h1,h2,h3⟩:=YL (p:=P) aC aC ((d.iI+1).toNat) aC (EG (qV hd) aC aC) (.inr hb);subst hP;refine⟨mi Z p,EG h1 aC aC,?_,al7 d p Z hd h0 ht h1 h3 iB iw⟩;have hl:=h2 _ (G4 (qV hd) aC aC (OF d));exact afP hl λr hr=>G4 h1 aC aC hr
def YW(a b:Iv)(ha:a.iy)(hb:b.iy):ik 329 [iz a,iz b] (iz (uX a b)):=
 ak call329 func329 (.w (a.all=true)
  (λk1=>ae [tB 6 k1,.c nW]<|rQ (iz ix) (iz (uX a b)) (by unfold uX;simp[k1]))
  (λk1=>ae [tB 6 (bk k1)]<|.w (b.all=true)
   (λk2=>ae [tB 9 k2,.c nW]<|rQ (iz ix) (iz (uX a b)) (by unfold uX;simp[k1,k2]))
   (λk2=>ae [tB 9 (bk k2)]<|rQ (iz (Iv.mk a.lo b.hi false)) (iz (uX a b)) (by unfold uX;simp[k1,k2])))) 
def ub(d:Dy):Bool:=decide (jE (mw d) (jo 1000)<=0)
def Hu(d:Dy)(hd:d.iy):ik 328 [iA d] (bP (ub d)):=by
 have ha:=y4 hd;have hi:(jo 1000).iy:=s6 aE;exact ak call328 func328 (af [.c (Fz d aD),ag [iP 1000] (rT _ aC),ag [iA (mw d),iA (jo 1000)] (nv _ _ aD aD)]) 
def Dk(x:Iv)(p:Nat)(hx:x.iy)(iB:8<=p)(iw:p<=512):ik 327 [iz x,iP p] (bP (!x.all)):=
 ak call327 func327 (.w (x.all=true)
  (λk1=>ae [tB 6 k1]<|rQ (bP false) (bP (!x.all)) (by simp[k1]))
  (λk1=>ae [tB 6 (bk k1),.c (qH x aD),tT 14 (8<=(p:Int)) aC,tT 18 ((p:Int)<=512) aC]<|rQ (bP true) (bP (!x.all)) (by simp[k1]))) 
def alU(x:Iv)(p:Nat)(hx:x.iy)(iB:8<=p)(iw:p<=512)(xa:x.all=true):ik 312 [iz x,iP p] (iz ix):=
 ak call312 func312 (af [.c (Dk x p aD aC aC),ai 7 (!x.all) (by rw[xa];rfl),.c nW]) 
def alY(x:Iv)(p:Nat)(hx:x.iy)(iB:8<=p)(iw:p<=512)(xa:x.all=false)(h1:ub x.lo=false):ik 312 [iz x,iP p] (iz ix):=by
 obtain⟨w1,w2⟩:=hx.kr;exact ak call312 func312 (af [.c (Dk x p aD aC aC),ah 7 (!x.all) (by rw[xa];rfl),.c (Hu x.lo aD),ai 12 (ub x.lo) h1,.c nW]) 
def alW(x:Iv)(p:Nat)(hx:x.iy)(iB:8<=p)(iw:p<=512)(xa:x.all=false)(h1:ub x.lo=true)(h2:ub x.hi=false):ik 312 [iz x,iP p] (iz ix):=by
 obtain⟨w1,w2⟩:=hx.kr;exact ak call312 func312 (af [.c (Dk x p aD aC aC),ah 7 (!x.all) (by rw[xa];rfl),.c (Hu x.lo aD),ah 12 (ub x.lo) h1,.c (Hu x.hi aD),ai 18 (ub x.hi) h2,.c nW]) 
def alX(x:Iv)(p:Nat)(hx:x.iy)(iB:8<=p)(iw:p<=512)(xa:x.all=false)(h1:ub x.lo=true)(h2:ub x.hi=true)(Z1 Z2:Iv)(z1:Z1.iy)(z2:Z2.iy)(k1:ik 330 [iA x.lo,iP (p:Int)] (iz Z1))(k2:ik 330 [iA x.hi,iP (p:Int)] (iz Z2)):ik 312 [iz x,iP p] (iz (uX Z1 Z2)):=by
 obtain⟨w1,w2⟩:=hx.kr;exact ak call312 func312 (af [.c (Dk x p aD aC aC),ah 7 (!x.all) (by rw[xa];rfl),.c (Hu x.lo aD),ah 12 (ub x.lo) h1,.c (Hu x.hi aD),ah 18 (ub x.hi) h2,ag [iA x.lo,iP p] k1,ag [iA x.hi,iP p] k2,.c (YW Z1 Z2 aD aD)]) 
def Vu{d:Dy}(hd:d.iy)(h:ub d=true):d.iI<=100:=by
 by_cases h0:d.m=0
 .rw [akS h0];decide
 .unfold ub at h;rw[cL,pA,BE]at h;have hq:=Ai d;have ha:jm d.q<=P2 10:=by
   have:P2 10=1024:= aL ;rw[this];have ad4:((1000:Int):Rat)=1000:=rfl;rw[ad4]at h;exact y5 aK aK 
  have:=Ys h0 ha;omega
def RV{a b:Iv}(ha:a.iy)(hb:b.iy)(h:a.all=false->b.all=false->a.lo.q<=b.hi.q):(uX a b).iy:=by
 unfold uX;cases xa:a.all
 .cases xb:b.all
  .exact .inr ⟨rfl,ha.kr.1,hb.kr.2,(pA _ _).2 (h xa xb)⟩
  .exact mc
 .exact mc
def alV{x:Iv}(hx:x.iy){p:Nat}(iB:8<=p)(iw:p<=512):∃ Z,Z.iy/\ik 312 [iz x,iP (p:Int)] (iz Z):=by
 cases xa:x.all with
 |true=>exact⟨ix,mc,alU x p hx iB iw xa⟩
 |false=>
  cases h1:ub x.lo with
  |false=>exact⟨ix,mc,alY x p hx iB iw xa h1⟩
  |true=>
   cases h2:ub x.hi with
   |false=>exact⟨ix,mc,alW x p hx iB iw xa h1 h2⟩
   |true=>
    obtain⟨w1,w2⟩:=hx.kr;obtain⟨Z1,z1,l1,k1⟩:=YY w1 (Vu w1 h1) iB iw;obtain⟨Z2,z2,l2,k2⟩:=YY w2 (Vu w2 h2) iB iw;exact⟨uX Z1 Z2,RV z1 z2 λa b=>afO l1 l2 (λε hε=>Y4 hx.q hε) a b,alX x p hx iB iw xa h1 h2 Z1 Z2 z1 z2 k1 k2⟩
noncomputable def Xr(a:List Iv)(p:Nat)(x:Nat):PS:=⟨76,true,[(6,.e (iP x)),(5,.own 15),(0,.e (iq a)),(1,.e (iP p))],[(15,.row true 39 x 7 (jc (jr (mV a p) x)))]⟩
noncomputable def Xs(a:List Iv)(p x:Nat)(z:Nat):PS:=⟨76,true,[(8,.e (iP ((z+1:Nat):Int))),(7,.box 7 0),(6,.e (iP x)),(5,.own 15),(0,.e (iq a)),(1,.e (iP p))],[(7,.cells 39 (iQ (rI a (jr (mV a p) x) p x z))),(15,.row true 39 x 7 (jc (jr (mV a p) x)))]⟩
noncomputable def XC(a:List Iv)(p:Nat)(y:Nat):PS:=⟨59,true,[(6,.box 6 0),(5,.own 26),(4,.own 16),(3,.box 3 0),(2,.box 2 0)],[(6,.cells 3 [iP ((y+1:Nat):Int)]),(26,.row true 39 (y+1) 7 (jc (lY a p y).2)),(16,.row true 39 (y+1) 7 (jc (lY a p y).1)),(3,.cells 3 [iP p]),(2,.cells 26 [iq a])]⟩
noncomputable def XD(a:List Iv)(p:Nat)(x:Nat):PS:=⟨52,true,[(7,.box 7 0),(6,.box 6 0),(5,.nk 5 1 0 0),(3,.box 3 0),(0,.e (iq a))],[(7,.cells 3 [iP x]),(6,.cells 39 (iQ (mj (pK (a.getD 0 ix) p) 1))),(5,.jU true 26 39 1 7 (λ_=>x) (λ_=>jc (jr (oB a p) x)) .none),(3,.cells 3 [iP p])]⟩
def NO{a out:List Iv}{p k:Nat}(hp:1<=p)(iw:p<=4096):∀ n,(rI a out p k n).iy
 | 0=>yT 0 aE 
 |n+1=>qk (NO hp iw n) (oV _ _ hp iw) hp iw
def ajv(a:List Iv)(n p:Nat)(h1:1<=n)(nQ:n<=17)(ha:kO n a)(iB:8<=p)(iw:p<=512)(hF:uQ):ik 277 [iq a,iP p] (iq (Ek a p)):=by
 have la:=ha.len;have va0:=ha.ok 0;have oO:(λ_:Nat=>(0:Nat)) 0=0:=rfl;have Tz:=qj (vf (a.getD 0 ix) p);exact ak call277 func277 (ae [.o 10 (.e (Br _):aj (.sl true 1 1 λi_ j_=>[iq a].getD (i_*1+j_) (.v (.bool false))) (lv [a])),.c (vZ [a] n aC aC aH (AE aD)),.a (aC:0<=(0:Int)/\(0:Int)<=((a.length:Int):Int)),.a (aC:((88:Nat):Int)*(a.length:Int)<=281474976710656/\((a.length:Int):Int)<=9223372036854775807),
  iX 0 (a.length) aC,ag [iz (a.getD 0 ix),iP p] (R9 _ aD _ aC aC hF),.o 22 (.e (lJ _):aj (.sl true 1 7 λi_ j_=>(iQ (vf (a.getD 0 ix) p)).getD (i_*7+j_) (.v (.bool false))) (iq [vf (a.getD 0 ix) p])),.a (aC:(0+[vf (a.getD 0 ix) p].length)*88<=140737488355328),.s (Sp.kE (Xr a p) 1 a.length aC (λx hx nd=>by
    have oE:(λ_:Nat=>x) 0=x:=rfl;have qd:kO x (jr (mV a p) x):=BG x λk l _ _=>by unfold mV;split<;>first|exact L5 _ _|exact oZ _ _ aC aC 
    have v0:=yT 0 aC;have vw:=yT x aC;have vx:=ha.ok x;have vg:=NO (a:=a) (out:=(jr (mV a p) x)) (k:=x) (aC:1<=p) (aC:p<=4096) (x-1);have vd:(jz (rI a (jr (mV a p) x) p x (x-1)) (kn x) p).iy:=oZ _ _ aC aC;have vs:(rm (a.getD x ix) (jz (rI a (jr (mV a p) x) p x (x-1)) (kn x) p) p).iy:=Pt aC aC vx vd;have sx:=qj (jz (rm (a.getD x ix) (jz (rI a (jr (mV a p) x) p x (x-1)) (kn x) p) p) (a.getD 0 ix) p);exact jh (ae [tT 27 ((x:Int)<a.length) aC,.c (BL 0 aC),.s (Sp.kE (Xs a p x) 0 (x-1) aC (λz hz amo=>by
    have v1:=NO (a:=a) (out:=(jr (mV a p) x)) (k:=x) (aC:1<=p) (aC:p<=4096) z;have v2:=yT (z+1) aC;have v3:=qd.ok (z+1);have v4:=ha.ok (x-(z+1));have v5:(iV (kn (z+1)) ((jr (mV a p) x).getD (z+1) ix) p).iy:=oV _ _ aC aC;have v6:(iV (iV (kn (z+1)) ((jr (mV a p) x).getD (z+1) ix) p) (a.getD (x-(z+1)) ix) p).iy:=oV _ _ aC aC;exact jh (ae [tT 33 (((z+1:Nat):Int)<x) aC,.c (BL (z+1) aC),iX ((z+1:Nat):Int) x aC,.a (aC:(z+1)<x),.c (uA (kn (z+1)) ((jr (mV a p) x).getD (z+1) ix) p aD aD aC aC),iL ((x:Int)-((z+1:Nat):Int)) aC,.o 48 (aq ((x:Int)-((z+1:Nat):Int)) ((x-(z+1):Nat):Int) aC),iX ((x-(z+1):Nat):Int) (a.length) aC,.c (uA (iV (kn (z+1)) ((jr (mV a p) x).getD (z+1) ix) p) (a.getD (x-(z+1)) ix) p aD aD aC aC),.c (wG (rI a (jr (mV a p) x) p x z) (iV (iV (kn (z+1)) ((jr (mV a p) x).getD (z+1) ix) p) (a.getD (x-(z+1)) ix) p) p aD aD aC aC),
     iL (((z+1:Nat):Int)+1) aC]<|.e (af [.b 7 (.jl rfl:Bx.le (.cells 39 (iQ (jO (rI a (jr (mV a p) x) p x z) (iV (iV (kn (z+1)) ((jr (mV a p) x).getD (z+1) ix) p) (a.getD (x-(z+1)) ix) p) p))) (.cells 39 (iQ (rI a (jr (mV a p) x) p x (z+1)))))])) aF)
  (λhz=>by
    exact jh (af [tF 33 ((((x-1)+1:Nat):Int)<x) aC]) aF) aI:kD 10 f277 (Xs a p x 0) (.exit 2) ⟨76,true,[(7,.box 7 0),(6,.e (iP x)),(5,.own 15),(0,.e (iq a)),(1,.e (iP p))],[(7,.cells 39 (iQ (rI a (jr (mV a p) x) p x (x-1)))),(15,.row true 39 x 7 (jc (jr (mV a p) x)))]⟩) (af [.o 8 (aq 1 ((0+1:Nat):Int) aP),.b 7 (.jl rfl:Bx.le (.cells 39 (iQ (kn 0))) (.cells 39 (iQ (rI a (jr (mV a p) x) p x 0))))]),
     iX (x:Int) (a.length) aC,.c (BL x aC),.c (tY (rI a (jr (mV a p) x) p x (x-1)) (kn x) p aD aD aC aC),.c (yD (a.getD x ix) (jz (rI a (jr (mV a p) x) p x (x-1)) (kn x) p) p aD aD aC aC),iX 0 (a.length) aC,.c (tY (rm (a.getD x ix) (jz (rI a (jr (mV a p) x) p x (x-1)) (kn x) p) p) (a.getD 0 ix) p aD aD aC aC),.o 73 (.e (lJ _):aj (.sl true 1 7 λi_ j_=>(iQ (jz (rm (a.getD x ix) (jz (rI a (jr (mV a p) x) p x (x-1)) (kn x) p) p) (a.getD 0 ix) p)).getD (i_*7+j_) (.v (.bool false))) (iq [jz (rm (a.getD x ix) (jz (rI a (jr (mV a p) x) p x (x-1)) (kn x) p) p) (a.getD 0 ix) p])),.a (aC:(x+[jz (rm (a.getD x ix) (jz (rI a (jr (mV a p) x) p x (x-1)) (kn x) p) p) (a.getD 0 ix) p].length)*88<=140737488355328),iL ((x:Int)+1) aC]<|.e (af [.b 15 (aib rfl (by unfold mV;rw[bu aC]):Bx.le (.row true 39 (x+[jz (rm (a.getD x ix) (jz (rI a (jr (mV a p) x) p x (x-1)) (kn x) p) p) (a.getD 0 ix) p].length) 7 (λi_ j_=>if i_<x then(jc (jr (mV a p) x)) i_ j_ else(E.kT (iq [jz (rm (a.getD x ix) (jz (rI a (jr (mV a p) x) p x (x-1)) (kn x) p) p) (a.getD 0 ix) p])) (i_-x) j_)) (.row true 39 (x+1) 7 (jc (jr (mV a p) (x+1)))))])) aF)
  (λhx=>by
    exact jh (ae [tF 27 ((a.length:Int)<a.length) aC,.z 15]<|.e (af [.o 5 (.e (BJ (yQ _ _).symm):aj (.sl true a.length 7 (jc (jr (mV a p) a.length))) (iq (jr (mV a p) a.length)))])) aF) aI:kD 6 f277 (Xr a p 1) (.exit 0) ⟨76,true,[(5,.e (iq (jr (mV a p) a.length)))],[]⟩) (af [.b 15 (aia rfl:Bx.le (.row true 39 (0+[vf (a.getD 0 ix) p].length) 7 (λi_ j_=>if i_<0 then(λ_ j_=>au.getD j_ .any) i_ j_ else(E.kT (iq [vf (a.getD 0 ix) p])) (i_-0) j_)) (.row true 39 1 7 (jc (jr (mV a p) 1))))])]<|rR (iq (Ek a p)) (.jl rfl:E.le (iq (jr (mV a p) a.length)) (iq (Ek a p)))) 
def ajz(a out:List Iv)(i k p m:Nat)(Th:1<=i)(hi:i<=k)(hk:k<a.length)(hm:k<=m)(l17:a.length<=17)(va:mZ a)(vo:mZ out)(iB:8<=p)(iw:p<=512):ik 318 [iP i,(.jC 1 λj_=>[iq a].getD j_ .any),(.jC 1 λj_=>[iP p].getD j_ .any),(.jC 1 λj_=>[.sl true m 7 (jc out)].getD j_ .any),(.jC 1 λj_=>[iP k].getD j_ .any)] (iz (iV (iV (kn i) (a.getD i ix) p) (out.getD (k-i) ix) p)):=by
 have v1:=va i;have v2:=vo (k-i);have v3:=yT i aC;have v4:(iV (kn i) (a.getD i ix) p).iy:=oV _ _ aC aC;exact ak call318 func318 (af [.c (BL i aC),iX (i:Int) (a.length) aC,.c (uA (kn i) (a.getD i ix) p aD aD aC aC),iL ((k:Int)-i) aC,.o 18 (aq ((k:Int)-i) ((k-i:Nat):Int) aC),iX ((k-i:Nat):Int) m aC,.c (uA (iV (kn i) (a.getD i ix) p) (out.getD (k-i) ix) p aD aD aC aC)]) 
def Xx(a out:List Iv)(k p m:Nat)(nT:1<=k)(hk:k<a.length)(hm:k<=m)(l17:a.length<=17)(va:mZ a)(vo:mZ out)(iB:8<=p)(iw:p<=512):ik 317 [.sl true m 7 (jc out),(.jC 1 λj_=>[iP k].getD j_ .any),(.jC 1 λj_=>[iP p].getD j_ .any),(.jC 1 λj_=>[iq a].getD j_ .any)] (iz (rf a p k out)):=by
 have vs:=Hj (aC:1<=p) (aC:p<=4096) (T:=(λi=>(iV (iV (kn i) (a.getD i ix) p) (out.getD (k-i) ix) p))) (a:=1) (k-1) λ_ _ _=>oV _ _ aC aC 
 have vw:=yT k aC;exact ak call317 func317 (ae [.c (Kk 1 (k-1) p _ aC _ _ (λi=>(iV (iV (kn i) (a.getD i ix) p) (out.getD (k-i) ix) p)) aC iB iw λi h1 h2=>⟨oV _ _ aC aC,ajz a out i k p m h1 aC hk hm l17 va vo iB iw⟩:ik 306 [iP 1,iP k,iP p,.fn 318 [(.jC 1 λj_=>[iq a].getD j_ .any),(.jC 1 λj_=>[iP p].getD j_ .any),(.jC 1 λj_=>[.sl true m 7 (jc out)].getD j_ .any),(.jC 1 λj_=>[iP k].getD j_ .any)]] _),.c (BL k aC),.c (tY (mo p (λi=>(iV (iV (kn i) (a.getD i ix) p) (out.getD (k-i) ix) p)) 1 (k-1)) (kn k) p aD aD aC aC)]<|rR (iz (rf a p k out)) (.jl rfl:E.le (iz (jz (mo p (λi=>(iV (iV (kn i) (a.getD i ix) p) (out.getD (k-i) ix) p)) 1 (k-1)) (kn k) p)) (iz (rf a p k out)))) 
def Xg{T y:Nat}{xs:List Iv}{v:Iv}(h:xs.length=y+1):Bx.le (.row true T ((y+1)+[v].length) 7 λi j=>if i<y+1 then jc xs i j else(E.kT (iq [v])) (i-(y+1)) j) (.row true T (y+1+1) 7 (jc (xs++[v]))):=by
 have e:=Jx (T:=T) (n:=y+1) (xs:=xs) (y:=v) h.symm;have e2:(xs++[v]).length=y+1+1:=by simp[h]
 rw[e2]at e;exact e
def Xf{T:Nat}{v:Iv}{e:Nat->Nat->E}:Bx.le (.row true T (0+[v].length) 7 λa j=>if a<0 then e a j else(E.kT (iq [v])) (a-0) j) (.row true T (0+1) 7 (jc [v])):=.row rfl λi j hi hj=>by
 have hi:i<0+1:=hi;obtain rfl:i=0:= aC ;exact⟨.jl rfl,s7 _ _ hj⟩
def XA(a:List Iv)(n p:Nat)(h1:1<=n)(nQ:n<=17)(ha:kO n a)(iB:8<=p)(iw:p<=512)(hF:uQ):ik 278 [iq a,iP p] (.iE [iq (lY a p (a.length-1)).1,iq (lY a p (a.length-1)).2]):=by
 have la:=ha.len;have va0:=ha.ok 0;have qd:=G7 (aC:1<=p) (aC:p<=4096) a (a.length-1);have aeE:=qj (vh (a.getD 0 ix) p);have aeF:=qj (vc (a.getD 0 ix) p);exact ak call278 func278 (ae [.o 11 (.e (Br _):aj (.sl true 1 1 λi_ j_=>[iq a].getD (i_*1+j_) (.v (.bool false))) (lv [a])),.c (vZ [a] n aC aC aH (AE aD)),.a (aC:0<=(0:Int)/\(0:Int)<=((a.length:Int):Int)),.a (aC:((88:Nat):Int)*(a.length:Int)<=281474976710656/\((a.length:Int):Int)<=9223372036854775807),
  iX 0 (a.length) aC,ag [iz (a.getD 0 ix),iP p] (Sa _ aD _ aC aC hF),.o 22 (.e (lJ _):aj (.sl true 1 7 λi_ j_=>(iQ (vh (a.getD 0 ix) p)).getD (i_*7+j_) (.v (.bool false))) (iq [vh (a.getD 0 ix) p])),.a (aC:(0+[vh (a.getD 0 ix) p].length)*88<=140737488355328),.a (aC:0<=(0:Int)/\(0:Int)<=((a.length:Int):Int)),.a (aC:((88:Nat):Int)*(a.length:Int)<=281474976710656/\((a.length:Int):Int)<=9223372036854775807),iX 0 (a.length) aC,ag [iz (a.getD 0 ix),iP p] (R6 _ aD _ aC aC hF),.o 32 (.e (lJ _):aj (.sl true 1 7 λi_ j_=>(iQ (vc (a.getD 0 ix) p)).getD (i_*7+j_) (.v (.bool false))) (iq [vc (a.getD 0 ix) p])),.a (aC:(0+[vc (a.getD 0 ix) p].length)*88<=140737488355328),.s (Sp.kE (XC a p) 0 (a.length-1) aC (λy hy amn=>by
    have qd:=G7 (aC:1<=p) (aC:p<=4096) a y;have vp:=OC (aC:1<=p) (aC:p<=4096) a (lY a p y).1 (y+1);have aeE:=qj (rf a p (y+1) (lY a p y).2);have aeF:=qj (mz (rf a p (y+1) (lY a p y).1));exact jh (ae [tT 37 (((y+1:Nat):Int)<a.length) aC,ag [.sl true (y+1) 7 (jc (lY a p y).2),(.jC 1 λj_=>[iP ((y+1:Nat):Int)].getD j_ .any),(.jC 1 λj_=>[iP p].getD j_ .any),(.jC 1 λj_=>[iq a].getD j_ .any)] (Xx a (lY a p y).2 (y+1) p _ aC aC aC aC ha.ok qd.2.ok iB iw),.a (Gq _:vY (iz (rf a p (y+1) (lY a p y).2))),ag [.sl true (y+1) 7 (jc (lY a p y).1),(.jC 1 λj_=>[iP ((y+1:Nat):Int)].getD j_ .any),(.jC 1 λj_=>[iP p].getD j_ .any),(.jC 1 λj_=>[iq a].getD j_ .any)] (Xx a (lY a p y).1 (y+1) p _ aC aC aC aC ha.ok qd.1.ok iB iw),.a (Gq _:vY (iz (rf a p (y+1) (lY a p y).1))),.c (Jw (rf a p (y+1) (lY a p y).1) aD),.o 50 (.e (lJ _):aj (.sl true 1 7 λi_ j_=>(iQ (rf a p (y+1) (lY a p y).2)).getD (i_*7+j_) (.v (.bool false))) (iq [rf a p (y+1) (lY a p y).2])),.a (aC:((y+1)+[rf a p (y+1) (lY a p y).2].length)*88<=140737488355328),.o 54 (.e (lJ _):aj (.sl true 1 7 λi_ j_=>(iQ (mz (rf a p (y+1) (lY a p y).1))).getD (i_*7+j_) (.v (.bool false))) (iq [mz (rf a p (y+1) (lY a p y).1)])),.a (aC:((y+1)+[mz (rf a p (y+1) (lY a p y).1)].length)*88<=140737488355328),iL (((y+1:Nat):Int)+1) aC]<|.e (af [.b 26 (Xg qd.2.len:Bx.le (.row true 39 ((y+1)+[mz (rf a p (y+1) (lY a p y).1)].length) 7 (λi_ j_=>if i_<(y+1)then(jc (lY a p y).2) i_ j_ else(E.kT (iq [mz (rf a p (y+1) (lY a p y).1)])) (i_-(y+1)) j_)) (.row true 39 ((y+1)+1) 7 (jc (lY a p (y+1)).2))),.b 16 (Xg qd.1.len:Bx.le (.row true 39 ((y+1)+[rf a p (y+1) (lY a p y).2].length) 7 (λi_ j_=>if i_<(y+1)then(jc (lY a p y).1) i_ j_ else(E.kT (iq [rf a p (y+1) (lY a p y).2])) (i_-(y+1)) j_)) (.row true 39 ((y+1)+1) 7 (jc (lY a p (y+1)).1)))])) aF)
  (λhy=>by
    exact jh (af [tF 37 ((((a.length-1)+1:Nat):Int)<a.length) aC]) aF) aI:kD 6 f278 (XC a p 0) (.exit 0) ⟨59,true,[(5,.own 26),(4,.own 16)],[(26,.row true 39 ((a.length-1)+1) 7 (jc (lY a p (a.length-1)).2)),(16,.row true 39 ((a.length-1)+1) 7 (jc (lY a p (a.length-1)).1))]⟩) (af [.b 6 (.jl rfl:Bx.le (.cells 3 [iP 1]) (.cells 3 [iP ((0+1:Nat):Int)])),.b 26 (Xf:Bx.le (.row true 39 (0+[vc (a.getD 0 ix) p].length) 7 (λi_ j_=>if i_<0 then(λ_ j_=>au.getD j_ .any) i_ j_ else(E.kT (iq [vc (a.getD 0 ix) p])) (i_-0) j_)) (.row true 39 (0+1) 7 (jc (lY a p 0).2))),.b 16 (Xf:Bx.le (.row true 39 (0+[vh (a.getD 0 ix) p].length) 7 (λi_ j_=>if i_<0 then(λ_ j_=>au.getD j_ .any) i_ j_ else(E.kT (iq [vh (a.getD 0 ix) p])) (i_-0) j_)) (.row true 39 (0+1) 7 (jc (lY a p 0).1)))])]<|rR (.iE [iq (lY a p (a.length-1)).1,iq (lY a p (a.length-1)).2]) (.iE (.cons (BJ (by rw[qd.1.len])) (.cons (BJ (by rw[qd.2.len])) .nil)):E.le (.iE [.sl true ((a.length-1)+1) 7 (jc (lY a p (a.length-1)).1),.sl true ((a.length-1)+1) 7 (jc (lY a p (a.length-1)).2)]) (.iE [iq (lY a p (a.length-1)).1,iq (lY a p (a.length-1)).2]))) 
def ajE(out:List Iv)(i k p m:Nat)(Th:1<=i)(hi:i<k)(hm:k<=m)(k17:k<=17)(vo:mZ out)(iB:8<=p)(iw:p<=512):ik 321 [iP i,(.jC 1 λ_=>.sl true m 7 (jc out)),(.jC 1 λj_=>[iP k].getD j_ .any),(.jC 1 λj_=>[iP p].getD j_ .any)] (iz (iV (out.getD i ix) (out.getD (k-i) ix) p)):=by
 have v1:=vo i;have v2:=vo (k-i);exact ak call321 func321 (af [iX (i:Int) m aC,iL ((k:Int)-i) aC,.o 13 (aq ((k:Int)-i) ((k-i:Nat):Int) aC),
  iX ((k-i:Nat):Int) m aC,.c (uA (out.getD i ix) (out.getD (k-i) ix) p aD aD aC aC)]) 
def ajF(a:List Iv)(n p:Nat)(h1:1<=n)(nQ:n<=17)(ha:kO n a)(iB:8<=p)(iw:p<=512)(hF:uQ):ik 279 [iq a,iP p] (iq (BQ a p)):=by
 have la:=ha.len;have va0:=ha.ok 0;have oO:(λ_:Nat=>(0:Nat)) 0=0:=rfl;have Tz:=qj (pK (a.getD 0 ix) p);exact ak call279 func279 (ae [.o 10 (.e (Br _):aj (.sl true 1 1 λi_ j_=>[iq a].getD (i_*1+j_) (.v (.bool false))) (lv [a])),.c (vZ [a] n aC aC aH (AE aD)),.a (aC:0<=(0:Int)/\(0:Int)<=((a.length:Int):Int)),.a (aC:((88:Nat):Int)*(a.length:Int)<=281474976710656/\((a.length:Int):Int)<=9223372036854775807),.a (aC:0<1),
  iX 0 (a.length) aC,ag [iz (a.getD 0 ix),iP p] (Sc _ aD _ aC aC hF),.o 22 (.e (lJ _):aj (.sl true 1 7 λi_ j_=>(iQ (pK (a.getD 0 ix) p)).getD (i_*7+j_) (.v (.bool false))) (iq [pK (a.getD 0 ix) p])),.a (aC:0<1),.a (aC:((λ_=>0) 0+[pK (a.getD 0 ix) p].length)*88<=140737488355328),.a (rfl:0=0),.a (rfl:0=0),.a (aC:0<1),.a (aC:0<1),.a (aC:0<1),.a (aH:0<=(0:Int)/\(0:Int)<(((λq=>if q=0 then(λ_=>0) q+[pK (a.getD 0 ix) p].length else(λ_=>0) q) 0:Nat):Int)),.a (aC:0<1),.a (aH:0<(λq=>if q=0 then(λ_=>0) q+[pK (a.getD 0 ix) p].length else(λ_=>0) q) 0),.c (Ij ([pK (a.getD 0 ix) p].getD 0 ix) (FF _ _) 1 aE aE),.s (Sp.kE (XD a p) 1 a.length aC (λx hx nd=>by
    have oE:(λ_:Nat=>x) 0=x:=rfl;have qd:kO x (jr (oB a p) x):=BG x λk l _ _=>by unfold oB;split<;>first|exact FF _ _|exact oZ _ _ aC aC 
    have vls:=Jz (aC:1<=p) (aC:p<=4096) (ha.ok x) (T:=(λi=>iV ((jr (oB a p) x).getD i ix) ((jr (oB a p) x).getD (x-i) ix) p)) (a:=1) (x-1) λ_ _ _=>oV _ _ aC aC 
    have vx:=ha.ok x;have vsc:(mj (pK (a.getD 0 ix) p) 1).iy:=G8 (FF _ _) 1;have sx:=qj (jz (pI p (a.getD x ix) (λi=>iV ((jr (oB a p) x).getD i ix) ((jr (oB a p) x).getD (x-i) ix) p) 1 (x-1)) (mj (pK (a.getD 0 ix) p) 1) p);exact jh (ae [tT 31 ((x:Int)<a.length) aC,iX (x:Int) (a.length) aC,iL ((x:Int)-1) aC,.c (Xq _ (ha.ok x) 1 (x-1) p _ aC _ _ (λi=>iV ((jr (oB a p) x).getD i ix) ((jr (oB a p) x).getD (x-i) ix) p) aC iB iw λi h1 h2=>⟨oV _ _ aC aC,ajE _ i x p _ h1 aC aC aC qd.ok iB iw⟩:ik 308 [iz (a.getD x ix),iP 1,iP ((x:Int)-1),iP p,.fn 321 [(.jC 1 λ_=>(.sl true ((λ_=>x) 0) 7 ((λ_=>jc (jr (oB a p) x)) 0))),(.jC 1 λj_=>[iP x].getD j_ .any),(.jC 1 λj_=>[iP p].getD j_ .any)]] _),.a (Gq _:vY (iz (pI p (a.getD x ix) (λi=>iV ((jr (oB a p) x).getD i ix) ((jr (oB a p) x).getD (x-i) ix) p) 1 (x-1)))),.a (aC:0<1),.c (tY (pI p (a.getD x ix) (λi=>iV ((jr (oB a p) x).getD i ix) ((jr (oB a p) x).getD (x-i) ix) p) 1 (x-1)) (mj (pK (a.getD 0 ix) p) 1) p aD aD aC aC),.o 48 (.e (lJ _):aj (.sl true 1 7 λi_ j_=>(iQ (jz (pI p (a.getD x ix) (λi=>iV ((jr (oB a p) x).getD i ix) ((jr (oB a p) x).getD (x-i) ix) p) 1 (x-1)) (mj (pK (a.getD 0 ix) p) 1) p)).getD (i_*7+j_) (.v (.bool false))) (iq [jz (pI p (a.getD x ix) (λi=>iV ((jr (oB a p) x).getD i ix) ((jr (oB a p) x).getD (x-i) ix) p) 1 (x-1)) (mj (pK (a.getD 0 ix) p) 1) p])),.a (aC:0<1),.a (aC:((λ_=>x) 0+[jz (pI p (a.getD x ix) (λi=>iV ((jr (oB a p) x).getD i ix) ((jr (oB a p) x).getD (x-i) ix) p) 1 (x-1)) (mj (pK (a.getD 0 ix) p) 1) p].length)*88<=140737488355328),.a (rfl:0=0),.a (rfl:0=0),.a (aC:0<1),iL ((x:Int)+1) aC]<|.e (af [.b 5 (OU (by unfold oB;rw[bu aC]):Bx.le (.jU true 26 39 1 7 (λq=>if q=0 then(λ_=>x) q+[jz (pI p (a.getD x ix) (λi=>iV ((jr (oB a p) x).getD i ix) ((jr (oB a p) x).getD (x-i) ix) p) 1 (x-1)) (mj (pK (a.getD 0 ix) p) 1) p].length else(λ_=>x) q) (λq i j=>if q=0 then(if i<(λ_=>x) q then(λ_=>jc (jr (oB a p) x)) q i j else(E.kT (iq [jz (pI p (a.getD x ix) (λi=>iV ((jr (oB a p) x).getD i ix) ((jr (oB a p) x).getD (x-i) ix) p) 1 (x-1)) (mj (pK (a.getD 0 ix) p) 1) p])) (i-(λ_=>x) q) j)else(λ_=>jc (jr (oB a p) x)) q i j) .none) (.jU true 26 39 1 7 (λ_=>(x+1)) (λ_=>jc (jr (oB a p) (x+1))) .none))])) aF)
  (λhx=>by
    exact jh (af [tF 31 ((a.length:Int)<a.length) aC]) aF) aI:kD 7 f279 (XD a p 1) (.exit 0) ⟨52,true,[(5,.nk 5 1 0 0)],[(5,.jU true 26 39 1 7 (λ_=>a.length) (λ_=>jc (jr (oB a p) a.length)) .none)]⟩) (af [.b 5 (WB rfl:Bx.le (.jU true 26 39 1 7 (λq=>if q=0 then(λ_=>0) q+[pK (a.getD 0 ix) p].length else(λ_=>0) q) (λq i j=>if q=0 then(if i<(λ_=>0) q then(λ_=>λ_ j_=>au.getD j_ .any) q i j else(E.kT (iq [pK (a.getD 0 ix) p])) (i-(λ_=>0) q) j)else(λ_=>λ_ j_=>au.getD j_ .any) q i j) .none) (.jU true 26 39 1 7 (λ_=>1) (λ_=>jc (jr (oB a p) 1)) .none))]),.a (aC:0<1)]<|rR (iq (BQ a p)) (BJ (xs:=BQ a p) (by unfold BQ;rw[yQ]):E.le (.sl true ((λ_=>a.length) 0) 7 ((λ_=>jc (jr (oB a p) a.length)) 0)) (iq (BQ a p)))) 
def wA(a:List Iv)(h:Iv)(p m:Nat):Nat->Iv
 | 0=>a.getD m ix
 |n+1=>jO (a.getD (m-(n+1)) ix) (iV (wA a h p m n) h p) p
def nA(a:List Iv)(h:Iv)(p:Nat):Iv:=wA a h p (a.length-1) (a.length-1)
def TA{a:List Iv}{h:Iv}{p m:Nat}(hp:1<=p)(iw:p<=4096)(va:mZ a):∀ n,(wA a h p m n).iy
 | 0=>va m
 |n+1=>qk (va _) (oV _ _ hp iw) hp iw
def G9(o:lF)(a b:List Iv)(n p:Nat)(h1:1<=n)(nQ:n<=17)(ha:kO n a)(hb:kO n b)(iB:8<=p)(iw:p<=512)(r1:3<=o.kind)(r2:o.kind<=13)(r3:o.n<=16)(hF:o.kind<=8\/uQ):ik 237 [iP o.kind,iP o.n,iq a,iq b,iP p] (iq (nu o a b p)):=
 ak call237 func237 (.w ((o.kind:Int)=3)
  (λk1=>ae [tB 17 (bj k1),.c (ajq a b n p h1 nQ ha hb iB iw)]<|rQ (iq (Dr a b p)) (iq (nu o a b p)) (by unfold nu;simp[(aC:o.kind=3)]))
  (λk1=>ae [tB 17 (bh k1)]<|.w ((o.kind:Int)=4)
   (λk2=>ae [tB 23 (bj k2),.c (ajH a b n p h1 nQ ha hb iB iw)]<|rQ (iq (EN a b p)) (iq (nu o a b p)) (by unfold nu;simp[(aC:¬o.kind=3),(aC:o.kind=4)]))
   (λk2=>ae [tB 23 (bh k2)]<|.w ((o.kind:Int)=5)
    (λk3=>ae [tB 29 (bj k3),.c (ajw a b n p h1 nQ ha hb iB iw)]<|rQ (iq (tc a b p)) (iq (nu o a b p)) (by unfold nu;simp[(aC:¬o.kind=3),(aC:¬o.kind=4),(aC:o.kind=5)]))
    (λk3=>ae [tB 29 (bh k3)]<|.w ((o.kind:Int)=6)
     (λk4=>ae [tB 35 (bj k4),.c (ajs a b n p h1 nQ ha hb iB iw)]<|rQ (iq (AP a b p)) (iq (nu o a b p)) (by unfold nu;simp[(aC:¬o.kind=3),(aC:¬o.kind=4),(aC:¬o.kind=5),(aC:o.kind=6)]))
     (λk4=>ae [tB 35 (bh k4)]<|.w ((o.kind:Int)=7)
      (λk5=>ae [tB 41 (bj k5),.c (ajy a n h1 nQ ha)]<|rQ (iq (Ac a)) (iq (nu o a b p)) (by unfold nu;simp[(aC:¬o.kind=3),(aC:¬o.kind=4),(aC:¬o.kind=5),(aC:¬o.kind=6),(aC:o.kind=7)]))
      (λk5=>ae [tB 41 (bh k5)]<|.w ((o.kind:Int)=8)
       (λk6=>ae [tB 45 (bj k6),ag [iq a,iP o.n,iP p] (ajD a n p o.n h1 nQ ha iB iw r3)]<|rQ (iq (th a o.n p)) (iq (nu o a b p)) (by unfold nu;simp[(aC:¬o.kind=3),(aC:¬o.kind=4),(aC:¬o.kind=5),(aC:¬o.kind=6),(aC:¬o.kind=7),(aC:o.kind=8)]))
       (λk6=>ae [tB 45 (bh k6)]<|.w ((o.kind:Int)=9)
        (λk7=>ae [tB 51 (bj k7),.c (aju a n p h1 nQ ha iB iw (hF.resolve_left aC))]<|rQ (iq (AU a p)) (iq (nu o a b p)) (by unfold nu;simp[(aC:¬o.kind=3),(aC:¬o.kind=4),(aC:¬o.kind=5),(aC:¬o.kind=6),(aC:¬o.kind=7),(aC:¬o.kind=8),(aC:o.kind=9)]))
        (λk7=>ae [tB 51 (bh k7)]<|.w ((o.kind:Int)=10)
         (λk8=>ae [tB 56 (bj k8),.c (ajv a n p h1 nQ ha iB iw (hF.resolve_left aC))]<|rQ (iq (Ek a p)) (iq (nu o a b p)) (by unfold nu;simp[(aC:¬o.kind=3),(aC:¬o.kind=4),(aC:¬o.kind=5),(aC:¬o.kind=6),(aC:¬o.kind=7),(aC:¬o.kind=8),(aC:¬o.kind=9),(aC:o.kind=10)]))
         (λk8=>ae [tB 56 (bh k8)]<|.w ((o.kind:Int)=11)
          (λk9=>ae [tB 61 (bj k9),.c (XA a n p h1 nQ ha iB iw (hF.resolve_left aC))]<|rQ (iq ((lY a p (a.length-1)).1)) (iq (nu o a b p)) (by unfold nu;simp[(aC:¬o.kind=3),(aC:¬o.kind=4),(aC:¬o.kind=5),(aC:¬o.kind=6),(aC:¬o.kind=7),(aC:¬o.kind=8),(aC:¬o.kind=9),(aC:¬o.kind=10),(aC:o.kind=11)]))
          (λk9=>ae [tB 61 (bh k9)]<|.w ((o.kind:Int)=12)
           (λk10=>ae [tB 70 (bj k10),.c (XA a n p h1 nQ ha iB iw (hF.resolve_left aC))]<|rQ (iq ((lY a p (a.length-1)).2)) (iq (nu o a b p)) (by unfold nu;simp[(aC:¬o.kind=3),(aC:¬o.kind=4),(aC:¬o.kind=5),(aC:¬o.kind=6),(aC:¬o.kind=7),(aC:¬o.kind=8),(aC:¬o.kind=9),(aC:¬o.kind=10),(aC:¬o.kind=11),(aC:o.kind=12)]))
           (λk10=>ae [tB 70 (bh k10)]<|.w ((o.kind:Int)=13)
            (λk11=>ae [tB 79 (bj k11),.c (ajF a n p h1 nQ ha iB iw (hF.resolve_left aC))]<|rQ (iq (BQ a p)) (iq (nu o a b p)) (by unfold nu;simp[(aC:¬o.kind=3),(aC:¬o.kind=4),(aC:¬o.kind=5),(aC:¬o.kind=6),(aC:¬o.kind=7),(aC:¬o.kind=8),(aC:¬o.kind=9),(aC:¬o.kind=10),(aC:¬o.kind=11),(aC:¬o.kind=12),(aC:o.kind=13)]))
            (λk11=>.x aC)))))))))))) 
noncomputable def UF(t:j8)(iC:List (List Iv))(k p:Nat)(x:Nat):PS:=⟨98,true,[(21,.e (iP x)),(20,.e (iP t.il.length)),(19,.e (mH t.il)),(9,.own 15),(4,.box 4 0),(2,.e (iP k)),(3,.e (iP p))],[(15,.row true 26 ((je t.il iC k p x).length) 1 (lj (je t.il iC k p x))),(4,.cells 25 [iP t.iC,mH t.il,mG t.iF])]⟩
noncomputable def UG(t:j8)(iC:List (List Iv))(k p:Nat)(x:Nat):PS:=⟨98,true,[(12,.own 12),(85,.e (iP x)),(84,.e (iP t.iF.length)),(83,.e (mG t.iF)),(9,.own 15)],[(12,.row true 26 (((t.iF.take x).map λj=>(je t.il iC k p t.il.length).getD j []).length) 1 (lj ((t.iF.take x).map λj=>(je t.il iC k p t.il.length).getD j []))),(15,.row true 26 ((je t.il iC k p t.il.length).length) 1 (lj (je t.il iC k p t.il.length)))]⟩
abbrev UX(n:Nat)(M:List (List Iv)):E:=.nI false true n 1 λk _=>.nI true true (nf M k) 7 (oL M k)
def UB(s:jH)(n:Nat)(M:List (List Iv))(k:Nat)(x:Nat):PS:=⟨43,true,[(7,.own 7),(14,.e (iP x)),(13,.e (iP n)),(12,.e (UX n M)),(3,.box 3 0),(2,.e (iP k))],[(7,.row true 26 (((M.take x).map λc=>c.take (k+1)).length) 1 (lj ((M.take x).map λc=>c.take (k+1)))),(3,.cells 28 [iP s.tape.iC,mH s.tape.il,mG s.tape.iF,iP s.iZ,iq s.params])]⟩
def UC(s:jH)(n:Nat)(M:List (List Iv))(k:Nat)(x:Nat):PS:=⟨43,true,[(31,.e (iP x)),(30,.e (iP s.params.length)),(29,.e (iq s.params)),(7,.own 7),(2,.e (iP k))],[(7,.row true 26 (((M.map λc=>c.take (k+1))++(s.params.take x).map λa=>lN a k).length) 1 (lj ((M.map λc=>c.take (k+1))++(s.params.take x).map λa=>lN a k)))]⟩
noncomputable def oe(s:jH)(x:List Iv)(p n i:Nat):List (List Iv):=(List.range x.length).map λq=>(jf s x p n).getD q []++(if q<i then[CW s (jf s x p n) p n q]else[])
def UK(s:jH)(x:List Iv)(k p:Nat)(w:Nat):PS:=⟨72,true,[(9,.own 9),(18,.e (iP w)),(17,.e (iP x.length)),(16,.e (iq x)),(4,.box 4 0),(2,.e (iP k)),(3,.e (iP p))],[(9,.jU true 26 39 w 7 (nf (x.map λy=>[y])) (oL (x.map λy=>[y])) .none),(4,.cells 28 [iP s.tape.iC,mH s.tape.il,mG s.tape.iF,iP s.iZ,iq s.params])]⟩
noncomputable def UL(s:jH)(x:List Iv)(k p:Nat)(m:Nat):PS:=⟨72,true,[(29,.e (iP m)),(28,.e (iP k)),(9,.own 9),(4,.box 4 0),(3,.e (iP p))],[(9,.jU true 26 39 x.length 7 (nf (jf s x p m)) (oL (jf s x p m)) .none),(4,.cells 28 [iP s.tape.iC,mH s.tape.il,mG s.tape.iF,iP s.iZ,iq s.params])]⟩
noncomputable def UM(s:jH)(x:List Iv)(k p m:Nat)(w:Nat):PS:=⟨72,true,[(47,.e (iP w)),(46,.e (iP x.length)),(14,.box 14 0),(13,.e (lv (qC s.tape (oR s (jf s x p m) m) m p))),(12,.e (iP m)),(29,.e (iP m)),(28,.e (iP k)),(9,.own 9),(4,.box 4 0),(3,.e (iP p))],[(14,.cells 39 (iQ (kn (m+1)))),(9,.jU true 26 39 x.length 7 (nf (oe s x p m w)) (oL (oe s x p m w)) .none),(4,.cells 28 [iP s.tape.iC,mH s.tape.il,mG s.tape.iF,iP s.iZ,iq s.params])]⟩
def xC{T n n':Nat}{M M':List (List Iv)}{r:List Iv}{p:E}(hn:n=M.length)(xm:n'=M'.length)(hp:∀ j,j<1->p.kT 0 j=iq r)(hM:M'=M++[r]):
 Bx.le (.row true T (n+1) 1 λi j=>if i<n then lj M i j else(E.kT p) (i-n) j) (.row true T n' 1 (lj M')):=by
 subst hM xm;exact agl hn rfl hp
def agj{T n n':Nat}{M:List (List Iv)}{e:Nat->Nat->E}(hn:n=M.length)(xm:n'=M.length):Bx.le (.row true T (0+n) 1 λi j=>if i<0 then e i j else(E.kT (lv M)) (i-0) j) (.row true T n' 1 (lj M)):=by
 subst xm;refine .row aC λi j hi hj=>?_
 rw[bu (bF i),dP];exact⟨.jl rfl,Uz _⟩
def NR{T n:Nat}{e:Nat->Nat->E}{M:List (List Iv)}(h:M=[])(hn:n=M.length):Bx.le (.row true T 0 1 e) (.row true T n 1 (lj M)):=by
 subst hn h;exact .row rfl λi j hi=>absurd hi (bF i)
def Gu{α β:Type}(f:α->β)(l:List α)(d:α){x:Nat}(hx:x<l.length):(l.take (x+1)).map f=(l.take x).map f++[f (l.getD x d)]:=by
 rw[am7,bG hx,gq];congr 1;rw[bC,bG hx];rfl
def UH(t:j8)(iC:List (List Iv))(k p:Nat)(h:uT t)(hi:uS (k+1) iC)(hl:iC.length=t.iC)(hk:k<=16)(iB:8<=p)(iw:p<=512):ik 187 [jJ t,lv iC,iP k,iP p] (lv (qC t iC k p)):=by
 have h8:=h.iC;have D5:=h.il;have amt:=h.iF;have F1:=EH (p:=p) t.il iC k t.il.length;exact ak call187 func187 (ae [.bo,.a (aC:(0+iC.length)*24<=140737488355328),.s (Sp.kE (UF t iC k p) 0 t.il.length aC (λx hx nd=>by
    have iH:=h.op x aC;have F1:=EH (p:=p) t.il iC k x;have qd:=Kg (aC:1<=p) (aC:p<=4096) h hi hl x aC;by_cases nT:((t.il.getD x iN)).kind=1
    .have qe:(je t.il iC k p (x+1))=(je t.il iC k p x)++[qq (t.il.getD x iN) (je t.il iC k p x) k p]:=rfl;have oo:((t.il.getD x iN)).kind=1:=nT;obtain⟨o1,o2,o3,oq⟩:=iH.num oo;rw[show qq (t.il.getD x iN) (je t.il iC k p x) k p=(lN (rj (t.il.getD x iN).cn (t.il.getD x iN).cd p) k)by unfold qq;rw[bw oo]]at qe;exact jh (ae [tT 22 ((x:Int)<t.il.length) aC,iX (x:Int) (t.il.length) aC,ah 47 (((t.il.getD x iN).kind:Int)==1) (bj aC),.c (Wq ((t.il.getD x iN).cn) ((t.il.getD x iN).cd) p aD aC aC),.c (Pk (rj ((t.il.getD x iN).cn) ((t.il.getD x iN).cd) p) (Pd _ _ aC aC) k aC),.a (aC:((je t.il iC k p x).length+1)*24<=140737488355328),iL ((x:Int)+1) aC]<|.e (af [.b 15 (xC rfl rfl (λj hj=>by obtain rfl:j=0:= aC;rfl) qe:Bx.le (.row true 26 ((je t.il iC k p x).length+1) 1 (λi_ j_=>if i_<(je t.il iC k p x).length then(lj (je t.il iC k p x)) i_ j_ else(E.kT (.sl true 1 1 λi_ j_=>[iq (lN (rj ((t.il.getD x iN).cn) ((t.il.getD x iN).cd) p) k)].getD (i_*1+j_) (.v (.bool false)))) (i_-(je t.il iC k p x).length) j_)) (.row true 26 ((je t.il iC k p (x+1)).length) 1 (lj (je t.il iC k p (x+1)))))])) aF 
    .by_cases hk:((t.il.getD x iN)).kind<=6
     .by_cases h3:((t.il.getD x iN)).kind=3
      .have qe:(je t.il iC k p (x+1))=(je t.il iC k p x)++[qq (t.il.getD x iN) (je t.il iC k p x) k p]:=rfl
       have pe:((t.il.getD x iN)).kind≠1:=nT;have oo:((t.il.getD x iN)).kind<=6:=hk;have Je:=iH.xw;have Jf:=iH.k3.resolve_left pe;have I6:=iH.Dp pe;have Jl:=Es iH;have s1:=qd (t.il.getD x iN).a aC;obtain⟨o1,o2,o3,o4,o5,o6⟩:=iH.B4 pe oo;have s2:=qd (t.il.getD x iN).b aC;rw[show qq (t.il.getD x iN) (je t.il iC k p x) k p=(nu (t.il.getD x iN) ((je t.il iC k p x).getD (t.il.getD x iN).a []) ((je t.il iC k p x).getD ((t.il.getD x iN).b) []) p)by unfold qq xT;rw[bu pe,bA oo];rfl]at qe;exact jh (ae [tT 22 ((x:Int)<t.il.length) aC,iX (x:Int) (t.il.length) aC,ai 47 (((t.il.getD x iN).kind:Int)==1) (bh aC),ah 58 (((t.il.getD x iN).kind:Int)==3) (bj aC),iX ((t.il.getD x iN).a:Int) ((je t.il iC k p x).length) aC,.a (aC:(t.il.getD x iN).a<(je t.il iC k p x).length),iX ((t.il.getD x iN).b:Int) ((je t.il iC k p x).length) aC,.a (aC:(t.il.getD x iN).b<(je t.il iC k p x).length),ag [iP ((t.il.getD x iN).kind:Int),iP ((t.il.getD x iN).n:Int),iq ((je t.il iC k p x).getD ((t.il.getD x iN).a) []),iq ((je t.il iC k p x).getD ((t.il.getD x iN).b) []),iP p] (G9 (t.il.getD x iN) _ _ (k+1) p aC aC aD aD iB iw aC aC aC iH.f),.a (aC:((je t.il iC k p x).length+1)*24<=140737488355328),iL ((x:Int)+1) aC]<|.e (af [.b 15 (xC rfl rfl (λj hj=>by obtain rfl:j=0:= aC;rfl) qe:Bx.le (.row true 26 ((je t.il iC k p x).length+1) 1 (λi_ j_=>if i_<(je t.il iC k p x).length then(lj (je t.il iC k p x)) i_ j_ else(E.kT (.sl true 1 1 λi_ j_=>[iq (nu (t.il.getD x iN) ((je t.il iC k p x).getD ((t.il.getD x iN).a) []) ((je t.il iC k p x).getD ((t.il.getD x iN).b) []) p)].getD (i_*1+j_) (.v (.bool false)))) (i_-(je t.il iC k p x).length) j_)) (.row true 26 ((je t.il iC k p (x+1)).length) 1 (lj (je t.il iC k p (x+1)))))])) aF 
      .by_cases h4:((t.il.getD x iN)).kind=4
       .have qe:(je t.il iC k p (x+1))=(je t.il iC k p x)++[qq (t.il.getD x iN) (je t.il iC k p x) k p]:=rfl;have pe:((t.il.getD x iN)).kind≠1:=nT;have oo:((t.il.getD x iN)).kind<=6:=hk;have Je:=iH.xw;have Jf:=iH.k3.resolve_left pe;have I6:=iH.Dp pe;have Jl:=Es iH;have s1:=qd (t.il.getD x iN).a aC;obtain⟨o1,o2,o3,o4,o5,o6⟩:=iH.B4 pe oo;have s2:=qd (t.il.getD x iN).b aC;rw[show qq (t.il.getD x iN) (je t.il iC k p x) k p=(nu (t.il.getD x iN) ((je t.il iC k p x).getD (t.il.getD x iN).a []) ((je t.il iC k p x).getD ((t.il.getD x iN).b) []) p)by unfold qq xT;rw[bu pe,bA oo];rfl]at qe;exact jh (ae [tT 22 ((x:Int)<t.il.length) aC,iX (x:Int) (t.il.length) aC,ai 47 (((t.il.getD x iN).kind:Int)==1) (bh aC),ai 58 (((t.il.getD x iN).kind:Int)==3) (bh aC),ah 59 (((t.il.getD x iN).kind:Int)==4) (bj aC),
         iX ((t.il.getD x iN).a:Int) ((je t.il iC k p x).length) aC,.a (aC:(t.il.getD x iN).a<(je t.il iC k p x).length),
         iX ((t.il.getD x iN).b:Int) ((je t.il iC k p x).length) aC,.a (aC:(t.il.getD x iN).b<(je t.il iC k p x).length),ag [iP ((t.il.getD x iN).kind:Int),iP ((t.il.getD x iN).n:Int),iq ((je t.il iC k p x).getD ((t.il.getD x iN).a) []),iq ((je t.il iC k p x).getD ((t.il.getD x iN).b) []),iP p] (G9 (t.il.getD x iN) _ _ (k+1) p aC aC aD aD iB iw aC aC aC iH.f),.a (aC:((je t.il iC k p x).length+1)*24<=140737488355328),iL ((x:Int)+1) aC]<|.e (af [.b 15 (xC rfl rfl (λj hj=>by obtain rfl:j=0:= aC;rfl) qe:Bx.le (.row true 26 ((je t.il iC k p x).length+1) 1 (λi_ j_=>if i_<(je t.il iC k p x).length then(lj (je t.il iC k p x)) i_ j_ else(E.kT (.sl true 1 1 λi_ j_=>[iq (nu (t.il.getD x iN) ((je t.il iC k p x).getD ((t.il.getD x iN).a) []) ((je t.il iC k p x).getD ((t.il.getD x iN).b) []) p)].getD (i_*1+j_) (.v (.bool false)))) (i_-(je t.il iC k p x).length) j_)) (.row true 26 ((je t.il iC k p (x+1)).length) 1 (lj (je t.il iC k p (x+1)))))])) aF 
       .by_cases h5:((t.il.getD x iN)).kind=5
        .have qe:(je t.il iC k p (x+1))=(je t.il iC k p x)++[qq (t.il.getD x iN) (je t.il iC k p x) k p]:=rfl
         have pe:((t.il.getD x iN)).kind≠1:=nT;have oo:((t.il.getD x iN)).kind<=6:=hk;have Je:=iH.xw;have Jf:=iH.k3.resolve_left pe;have I6:=iH.Dp pe;have Jl:=Es iH;have s1:=qd (t.il.getD x iN).a aC;obtain⟨o1,o2,o3,o4,o5,o6⟩:=iH.B4 pe oo;have s2:=qd (t.il.getD x iN).b aC;rw[show qq (t.il.getD x iN) (je t.il iC k p x) k p=(nu (t.il.getD x iN) ((je t.il iC k p x).getD (t.il.getD x iN).a []) ((je t.il iC k p x).getD ((t.il.getD x iN).b) []) p)by unfold qq xT;rw[bu pe,bA oo];rfl]at qe;exact jh (ae [tT 22 ((x:Int)<t.il.length) aC,iX (x:Int) (t.il.length) aC,ai 47 (((t.il.getD x iN).kind:Int)==1) (bh aC),ai 58 (((t.il.getD x iN).kind:Int)==3) (bh aC),ai 59 (((t.il.getD x iN).kind:Int)==4) (bh aC),ah 60 (((t.il.getD x iN).kind:Int)==5) (bj aC),iX ((t.il.getD x iN).a:Int) ((je t.il iC k p x).length) aC,.a (aC:(t.il.getD x iN).a<(je t.il iC k p x).length),iX ((t.il.getD x iN).b:Int) ((je t.il iC k p x).length) aC,.a (aC:(t.il.getD x iN).b<(je t.il iC k p x).length),ag [iP ((t.il.getD x iN).kind:Int),iP ((t.il.getD x iN).n:Int),iq ((je t.il iC k p x).getD ((t.il.getD x iN).a) []),iq ((je t.il iC k p x).getD ((t.il.getD x iN).b) []),iP p] (G9 (t.il.getD x iN) _ _ (k+1) p aC aC aD aD iB iw aC aC aC iH.f),.a (aC:((je t.il iC k p x).length+1)*24<=140737488355328),iL ((x:Int)+1) aC]<|.e (af [.b 15 (xC rfl rfl (λj hj=>by obtain rfl:j=0:= aC;rfl) qe:Bx.le (.row true 26 ((je t.il iC k p x).length+1) 1 (λi_ j_=>if i_<(je t.il iC k p x).length then(lj (je t.il iC k p x)) i_ j_ else(E.kT (.sl true 1 1 λi_ j_=>[iq (nu (t.il.getD x iN) ((je t.il iC k p x).getD ((t.il.getD x iN).a) []) ((je t.il iC k p x).getD ((t.il.getD x iN).b) []) p)].getD (i_*1+j_) (.v (.bool false)))) (i_-(je t.il iC k p x).length) j_)) (.row true 26 ((je t.il iC k p (x+1)).length) 1 (lj (je t.il iC k p (x+1)))))])) aF 
        .have qe:(je t.il iC k p (x+1))=(je t.il iC k p x)++[qq (t.il.getD x iN) (je t.il iC k p x) k p]:=rfl;have pe:((t.il.getD x iN)).kind≠1:=nT;have oo:((t.il.getD x iN)).kind<=6:=hk;have Je:=iH.xw;have Jf:=iH.k3.resolve_left pe;have I6:=iH.Dp pe;have Jl:=Es iH;have s1:=qd (t.il.getD x iN).a aC;obtain⟨o1,o2,o3,o4,o5,o6⟩:=iH.B4 pe oo;have s2:=qd (t.il.getD x iN).b aC;rw[show qq (t.il.getD x iN) (je t.il iC k p x) k p=(nu (t.il.getD x iN) ((je t.il iC k p x).getD (t.il.getD x iN).a []) ((je t.il iC k p x).getD ((t.il.getD x iN).b) []) p)by unfold qq xT;rw[bu pe,bA oo];rfl]at qe;exact jh (ae [tT 22 ((x:Int)<t.il.length) aC,iX (x:Int) (t.il.length) aC,ai 47 (((t.il.getD x iN).kind:Int)==1) (bh aC),ai 58 (((t.il.getD x iN).kind:Int)==3) (bh aC),ai 59 (((t.il.getD x iN).kind:Int)==4) (bh aC),ai 60 (((t.il.getD x iN).kind:Int)==5) (bh aC),ah 61 (((t.il.getD x iN).kind:Int)==6) (bj aC),
          iX ((t.il.getD x iN).a:Int) ((je t.il iC k p x).length) aC,.a (aC:(t.il.getD x iN).a<(je t.il iC k p x).length),
          iX ((t.il.getD x iN).b:Int) ((je t.il iC k p x).length) aC,.a (aC:(t.il.getD x iN).b<(je t.il iC k p x).length),ag [iP ((t.il.getD x iN).kind:Int),iP ((t.il.getD x iN).n:Int),iq ((je t.il iC k p x).getD ((t.il.getD x iN).a) []),iq ((je t.il iC k p x).getD ((t.il.getD x iN).b) []),iP p] (G9 (t.il.getD x iN) _ _ (k+1) p aC aC aD aD iB iw aC aC aC iH.f),.a (aC:((je t.il iC k p x).length+1)*24<=140737488355328),iL ((x:Int)+1) aC]<|.e (af [.b 15 (xC rfl rfl (λj hj=>by obtain rfl:j=0:= aC;rfl) qe:Bx.le (.row true 26 ((je t.il iC k p x).length+1) 1 (λi_ j_=>if i_<(je t.il iC k p x).length then(lj (je t.il iC k p x)) i_ j_ else(E.kT (.sl true 1 1 λi_ j_=>[iq (nu (t.il.getD x iN) ((je t.il iC k p x).getD ((t.il.getD x iN).a) []) ((je t.il iC k p x).getD ((t.il.getD x iN).b) []) p)].getD (i_*1+j_) (.v (.bool false)))) (i_-(je t.il iC k p x).length) j_)) (.row true 26 ((je t.il iC k p (x+1)).length) 1 (lj (je t.il iC k p (x+1)))))])) aF 
     .have qe:(je t.il iC k p (x+1))=(je t.il iC k p x)++[qq (t.il.getD x iN) (je t.il iC k p x) k p]:=rfl;have pe:((t.il.getD x iN)).kind≠1:=nT;have oo:¬((t.il.getD x iN)).kind<=6:=hk;have Je:=iH.xw;have Jf:=iH.k3.resolve_left pe;have I6:=iH.Dp pe;have Jl:=Es iH;have s1:=qd (t.il.getD x iN).a aC;rw[show qq (t.il.getD x iN) (je t.il iC k p x) k p=(nu (t.il.getD x iN) ((je t.il iC k p x).getD (t.il.getD x iN).a []) ((je t.il iC k p x).getD ((t.il.getD x iN).a) []) p)by unfold qq xT;rw[bu pe,bB oo];rfl]at qe;exact jh (ae [tT 22 ((x:Int)<t.il.length) aC,iX (x:Int) (t.il.length) aC,ai 47 (((t.il.getD x iN).kind:Int)==1) (bh aC),ai 58 (((t.il.getD x iN).kind:Int)==3) (bh aC),ai 59 (((t.il.getD x iN).kind:Int)==4) (bh aC),ai 60 (((t.il.getD x iN).kind:Int)==5) (bh aC),ai 61 (((t.il.getD x iN).kind:Int)==6) (bh aC),
       iX ((t.il.getD x iN).a:Int) ((je t.il iC k p x).length) aC,.a (aC:(t.il.getD x iN).a<(je t.il iC k p x).length),
       iX ((t.il.getD x iN).a:Int) ((je t.il iC k p x).length) aC,.a (aC:(t.il.getD x iN).a<(je t.il iC k p x).length),ag [iP ((t.il.getD x iN).kind:Int),iP ((t.il.getD x iN).n:Int),iq ((je t.il iC k p x).getD ((t.il.getD x iN).a) []),iq ((je t.il iC k p x).getD ((t.il.getD x iN).a) []),iP p] (G9 (t.il.getD x iN) _ _ (k+1) p aC aC aD aD iB iw aC aC aC iH.f),.a (aC:((je t.il iC k p x).length+1)*24<=140737488355328),iL ((x:Int)+1) aC]<|.e (af [.b 15 (xC rfl rfl (λj hj=>by obtain rfl:j=0:= aC;rfl) qe:Bx.le (.row true 26 ((je t.il iC k p x).length+1) 1 (λi_ j_=>if i_<(je t.il iC k p x).length then(lj (je t.il iC k p x)) i_ j_ else(E.kT (.sl true 1 1 λi_ j_=>[iq (nu (t.il.getD x iN) ((je t.il iC k p x).getD ((t.il.getD x iN).a) []) ((je t.il iC k p x).getD ((t.il.getD x iN).a) []) p)].getD (i_*1+j_) (.v (.bool false)))) (i_-(je t.il iC k p x).length) j_)) (.row true 26 ((je t.il iC k p (x+1)).length) 1 (lj (je t.il iC k p (x+1)))))])) aF)
  (λhx=>by
    exact jh (af [tF 22 ((t.il.length:Int)<t.il.length) aC]) aF) aI:kD 3 f187 (UF t iC k p 0) (.exit 0) ⟨98,true,[(9,.own 15),(4,.box 4 0)],[(15,.row true 26 ((je t.il iC k p t.il.length).length) 1 (lj (je t.il iC k p t.il.length))),(4,.cells 25 [iP t.iC,mH t.il,mG t.iF])]⟩) (af [.b 15 (agj rfl rfl:Bx.le (.row true 26 (0+iC.length) 1 (λi_ j_=>if i_<0 then(λi_ j_=>([]:List E).getD (i_*1+j_) (.v (.bool false))) i_ j_ else(E.kT (lv iC)) (i_-0) j_)) (.row true 26 ((je t.il iC k p 0).length) 1 (lj (je t.il iC k p 0))))]),.y 12 12 true 26 1 (lj []),.s (Sp.kE (UG t iC k p) 0 t.iF.length aC (λx hx nd=>by
    have ho_:=h.out x aC;have amk:((t.iF.take x).map λj=>(je t.il iC k p t.il.length).getD j []).length<=200:=by rw[b6,cF];omega
    exact jh (ae [tT 86 ((x:Int)<t.iF.length) aC,iX (x:Int) (t.iF.length) aC,iX (t.iF.getD x 0:Int) ((je t.il iC k p t.il.length).length) aC,.a (aC:(t.iF.getD x 0)<(je t.il iC k p t.il.length).length),.a (aC:(((t.iF.take x).map λj=>(je t.il iC k p t.il.length).getD j []).length+1)*24<=140737488355328),
     iL ((x:Int)+1) aC]<|.e (af [.b 12 (xC rfl rfl (λj hj=>by obtain rfl:j=0:= aC;rfl) (Gu _ t.iF 0 aC):Bx.le (.row true 26 (((t.iF.take x).map λj=>(je t.il iC k p t.il.length).getD j []).length+1) 1 (λi_ j_=>if i_<((t.iF.take x).map λj=>(je t.il iC k p t.il.length).getD j []).length then(lj ((t.iF.take x).map λj=>(je t.il iC k p t.il.length).getD j [])) i_ j_ else(E.kT (.sl true 1 1 λi_ j_=>[iq ((je t.il iC k p t.il.length).getD (t.iF.getD x 0) [])].getD (i_*1+j_) (.v (.bool false)))) (i_-((t.iF.take x).map λj=>(je t.il iC k p t.il.length).getD j []).length) j_)) (.row true 26 (((t.iF.take (x+1)).map λj=>(je t.il iC k p t.il.length).getD j []).length) 1 (lj ((t.iF.take (x+1)).map λj=>(je t.il iC k p t.il.length).getD j []))))])) aF)
  (λhx=>by
    exact jh (ae [tF 86 ((t.iF.length:Int)<t.iF.length) aC,.z 12]<|.e (af [.o 12 (.e (NS rfl):aj (.sl true (((t.iF.take t.iF.length).map λj=>(je t.il iC k p t.il.length).getD j []).length) 1 (lj ((t.iF.take t.iF.length).map λj=>(je t.il iC k p t.il.length).getD j []))) (lv ((t.iF.take t.iF.length).map λj=>(je t.il iC k p t.il.length).getD j [])))])) aF) aI:kD 17 f187 (UG t iC k p 0) (.exit 3) ⟨98,true,[(12,.e (lv ((t.iF.take t.iF.length).map λj=>(je t.il iC k p t.il.length).getD j [])))],[]⟩) (af [.b 12 (NR aH rfl:Bx.le (.row true 26 0 1 (lj [])) (.row true 26 (((t.iF.take 0).map λj=>(je t.il iC k p t.il.length).getD j []).length) 1 (lj ((t.iF.take 0).map λj=>(je t.il iC k p t.il.length).getD j []))))])]<|rQ (lv ((t.iF.take t.iF.length).map λj=>(je t.il iC k p t.il.length).getD j [])) (lv (qC t iC k p)) (by unfold qC;rw[eD])) 
def Yj{M:List (List Iv)}{x q m:Nat}{e:Nat->Nat->E}(hq:q=m)(hm:m<=(M.getD x []).length):E.le (.sl true (0+q) 7 λi j=>if i<0 then e i j else oL M x (i-0) j) (iq ((M.getD x []).take m)):=by
 subst hq;have hl:((M.getD x []).take q).length=0+q:=by rw[cF];omega
 unfold iq;rw[hl];refine .sl λi j hi hj=>?_
 rw[bu (bF i),dP];refine⟨.jl ?_,s7 _ _ hj⟩;show(iQ ((M.getD x []).getD i ix)).getD j .any=(iQ (((M.getD x []).take q).getD i ix)).getD j .any;congr 2;simp only[bC];rw[List.getElem?_take_of_lt aC]
def afp(s:jH)(n k:Nat)(M:List (List Iv))(h:lM s)(hn:n=M.length)(hn8:n<=8)(hk:k<=16)(hM:∀ i,i<n->k+1<=(M.getD i []).length)(Mq:∀ i,i<n->(M.getD i []).length<=17):ik 188 [jD s,UX n M,iP k] (lv (oR s M k)):=by
 have p4:=h.p4;exact ak call188 func188 (ae [.y 7 7 true 26 1 (lj []),.s (Sp.kE (UB s n M k) 0 n aC (λx hx nd=>by
    have D0:nf M x=(M.getD x []).length:=rfl;have M6:=hM x aC;have aeA:=Mq x aC;have hla:((M.take x).map λc=>c.take (k+1)).length<=8:=by rw[b6,cF];omega
    exact jh (ae [tT 15 ((x:Int)<n) aC,iX (x:Int) n aC,.bo,iL ((k:Int)+1) aC,.a (aC:0<=(((k+1:Nat):Int):Int)/\(((k+1:Nat):Int):Int)<=(nf M x:Int)),.bo,.a (aC:(0+(k+1))*88<=140737488355328),.o 24 (.e (Yj aC M6):aj (.sl true (0+(k+1)) 7 (λi_ j_=>if i_<0 then(λi_ j_=>([]:List E).getD (i_*7+j_) (.v (.bool false))) i_ j_ else(E.kT (.nI true true (k+1) 7 (E.kT (.nI true true (nf M x) 7 (oL M x))))) (i_-0) j_)) (iq ((M.getD x []).take (k+1)))),.o 25 (.refl _:aj (.sl true 1 1 λi_ j_=>[iq ((M.getD x []).take (k+1))].getD (i_*1+j_) (.v (.bool false))) (.sl true 1 1 λi_ j_=>[iq ((M.getD x []).take (k+1))].getD (i_*1+j_) (.v (.bool false)))),.a (aC:(((M.take x).map λc=>c.take (k+1)).length+1)*24<=140737488355328),iL ((x:Int)+1) aC]<|.e (af [.b 7 (xC rfl rfl (λj hj=>by obtain rfl:j=0:= aC;rfl) (Gu _ M [] aC):Bx.le (.row true 26 (((M.take x).map λc=>c.take (k+1)).length+1) 1 (λi_ j_=>if i_<((M.take x).map λc=>c.take (k+1)).length then(lj ((M.take x).map λc=>c.take (k+1))) i_ j_ else(E.kT (.sl true 1 1 λi_ j_=>[iq ((M.getD x []).take (k+1))].getD (i_*1+j_) (.v (.bool false)))) (i_-((M.take x).map λc=>c.take (k+1)).length) j_)) (.row true 26 (((M.take (x+1)).map λc=>c.take (k+1)).length) 1 (lj ((M.take (x+1)).map λc=>c.take (k+1)))))])) aF)
  (λhx=>by
    exact jh (af [tF 15 ((n:Int)<n) aC]) aF) aI:kD 3 f188 (UB s n M k 0) (.exit 0) ⟨43,true,[(7,.own 7),(3,.box 3 0),(2,.e (iP k))],[(7,.row true 26 (((M.take n).map λc=>c.take (k+1)).length) 1 (lj ((M.take n).map λc=>c.take (k+1)))),(3,.cells 28 [iP s.tape.iC,mH s.tape.il,mG s.tape.iF,iP s.iZ,iq s.params])]⟩) (af [.b 7 (NR aH rfl:Bx.le (.row true 26 0 1 (lj [])) (.row true 26 (((M.take 0).map λc=>c.take (k+1)).length) 1 (lj ((M.take 0).map λc=>c.take (k+1)))))]),.s (Sp.kE (UC s n M k) 0 s.params.length aC (λx hx nd=>by
    have vp:=(h.params x aC).1;have hlb:((M.map λc=>c.take (k+1))++(s.params.take x).map λa=>lN a k).length<=16:=by rw[cg,b6,b6,cF];omega
    exact jh (ae [tT 32 ((x:Int)<s.params.length) aC,iX (x:Int) (s.params.length) aC,.c (Pk (s.params.getD x ix) aD k aC),.a (aC:(((M.map λc=>c.take (k+1))++(s.params.take x).map λa=>lN a k).length+1)*24<=140737488355328),iL ((x:Int)+1) aC]<|.e (af [.b 7 (xC rfl rfl (λj hj=>by obtain rfl:j=0:= aC;rfl) (by rw[Gu (λa=>lN a k) s.params ix aC,gY]):Bx.le (.row true 26 (((M.map λc=>c.take (k+1))++(s.params.take x).map λa=>lN a k).length+1) 1 (λi_ j_=>if i_<((M.map λc=>c.take (k+1))++(s.params.take x).map λa=>lN a k).length then(lj ((M.map λc=>c.take (k+1))++(s.params.take x).map λa=>lN a k)) i_ j_ else(E.kT (.sl true 1 1 λi_ j_=>[iq (lN (s.params.getD x ix) k)].getD (i_*1+j_) (.v (.bool false)))) (i_-((M.map λc=>c.take (k+1))++(s.params.take x).map λa=>lN a k).length) j_)) (.row true 26 (((M.map λc=>c.take (k+1))++(s.params.take (x+1)).map λa=>lN a k).length) 1 (lj ((M.map λc=>c.take (k+1))++(s.params.take (x+1)).map λa=>lN a k))))])) aF)
  (λhx=>by
    exact jh (ae [tF 32 ((s.params.length:Int)<s.params.length) aC,.z 7]<|.e (af [.o 7 (.e (NS rfl):aj (.sl true (((M.map λc=>c.take (k+1))++(s.params.take s.params.length).map λa=>lN a k).length) 1 (lj ((M.map λc=>c.take (k+1))++(s.params.take s.params.length).map λa=>lN a k))) (lv ((M.map λc=>c.take (k+1))++(s.params.take s.params.length).map λa=>lN a k)))])) aF) aI:kD 8 f188 (UC s n M k 0) (.exit 2) ⟨43,true,[(7,.e (lv ((M.map λc=>c.take (k+1))++(s.params.take s.params.length).map λa=>lN a k)))],[]⟩) (af [.b 7 (Bx.le.jl (by rw[hn,eD];simp):Bx.le (.row true 26 (((M.take n).map λc=>c.take (k+1)).length) 1 (lj ((M.take n).map λc=>c.take (k+1)))) (.row true 26 (((M.map λc=>c.take (k+1))++(s.params.take 0).map λa=>lN a k).length) 1 (lj ((M.map λc=>c.take (k+1))++(s.params.take 0).map λa=>lN a k))))])]<|rQ (lv ((M.map λc=>c.take (k+1))++(s.params.take s.params.length).map λa=>lN a k)) (lv (oR s M k)) (by unfold oR;rw[eD])) 
def sB(s:jH)(x:List Iv)(p:Nat):∀ n,(jf s x p n).length=x.length
 | 0=>by simp[jf]
 |n+1=>by simp[jf]
def UJ(s:jH)(x:List Iv)(p n i:Nat):(oe s x p n i).length=x.length:=by simp[oe]
def Jy{s:jH}{x:List Iv}{p n i q:Nat}(h:q<x.length):(oe s x p n i).getD q []=(jf s x p n).getD q []++(if q<i then[CW s (jf s x p n) p n q]else[]):=by
 simp[oe,bC,h]
def afs(s:jH)(x:List Iv)(p n:Nat):oe s x p n 0=jf s x p n:=by
 have hl:=sB s x p n;apply gM (by rw[UJ,hl]);intro q h1 h2;have h3:q<x.length:=by rw[UJ]at h1;exact h1
 have e:=Jy (s:=s) (p:=p) (n:=n) (i:=0) h3;rw[bu (bF q),gr]at e;rw[bC,bG h1,bC,bG h2]at e;exact e
def afq(s:jH)(x:List Iv)(p n:Nat):oe s x p n x.length=jf s x p (n+1):=by
 unfold oe;show _=(List.range x.length).map λi=>(jf s x p n).getD i []++[CW s (jf s x p n) p n i]
 exact fv λq hq=>by rw[bw (cC.1 hq)]
def zU{s:jH}(h:lM s){x:List Iv}(hx:jT s.iZ x){p:Nat}(iB:8<=p)(iw:p<=512):∀ n,n<=16->uS (n+1) (jf s x p n)
 | 0,_=>λi hi=>by
  have nJ:i<x.length:=by rw[sB]at hi;exact hi
  have e:(jf s x p 0).getD i []=[x.getD i ix]:=by simp[jf,bC,nJ]
  rw[e];exact⟨rfl,mZ.push mZ.nil (hx.ok i nJ).1⟩
 |n+1,hn=>λi hi=>by
  have nJ:i<x.length:=by rw[sB]at hi;exact hi
  have e:(jf s x p (n+1)).getD i []=(jf s x p n).getD i []++[CW s (jf s x p n) p n i]:=by simp[jf,bC,nJ]
  have hs:=zU h hx iB iw n aC i (by rw[sB];exact nJ);rw[e];refine⟨by rw[cg,hs.len];rfl,hs.ok.push ?_⟩;unfold CW;exact oZ _ _ aC aC 
def Jv{s:jH}(h:lM s){M:List (List Iv)}{n:Nat}(hM:uS (n+1) M)(hl:M.length=s.iZ):uS (n+1) (oR s M n)/\(oR s M n).length=s.tape.iC:=by
 refine⟨λi hi=>?_,by unfold oR;rw[cg,b6,b6,h.iC,hl]⟩;unfold oR at hi ⊢;rw[cg,b6,b6]at hi;rw[bC,er,b6];split
 .rename_i h1;rw[cG,bG h1];have:=hM i h1;rw[bC,bG h1]at this;show kO (n+1) ((M[i]).take (n+1));rw[dk (by have:=this.len;simp at this;omega)];exact this
 .rename_i h1;have h2:i-M.length<s.params.length:= aC ;rw[cG,bG h2];have:=(h.params _ h2).1;rw[bC,bG h2]at this;exact Rm this n
def ai0{T1 T0 n x:Nat}{M M':List (List Iv)}{y:Iv}(h:∀ q,q<n->M'.getD q []=if q=x then M.getD q []++[y]else M.getD q []):
 Bx.le (.jU true T1 T0 n 7 (λq=>if q=x then nf M q+[y].length else nf M q) (λq i j=>if q=x then(if i<nf M q then oL M q i j else(E.kT (iq [y])) (i-nf M q) j)else oL M q i j) none)
  (.jU true T1 T0 n 7 (nf M') (oL M') none):=by
 refine .jU rfl (λq hq=>?_) (λq i j hq hi hj=>⟨.jl ?_,s7 _ _ hj⟩)
 .simp only[nf,h q hq];split
  .rw [cg]
  .rfl
 .simp only[oL,nf,h q hq]at hi ⊢;by_cases e:q=x
  .rw [bw e]at hi;rw[bw e,bw e];by_cases iJ:i<(M.getD q []).length
   .rw [bw iJ];congr 2;simp only[bC]at iJ ⊢;rw[dp iJ]
   .rw [bu iJ];have DT:i=(M.getD q []).length:=by
     rw[dm]at hi;omega
    subst DT;rw[dq];show(iQ y).getD j .any=_;congr 2;simp[bC]
  .rw [bu e,bu e]
def afa(y:Iv)(j:Nat)(hj:j<7):(iQ y).getD (0*7+j) (.v (.bool false))=(iQ y).getD j .any:=by
 rcases j with _|_|_|_|_|_|_|j
 all_goals first|rfl|omega
def aiZ{T1 T0 x:Nat}{X:List Iv}{e:Nat->Nat->E}(hx:x<X.length)(he:∀ j,j<7->e 0 j=(iQ (X.getD x ix)).getD j .any):
 Bx.le (.jU true T1 T0 (x+1) 7 (λk=>if k<x then nf (X.map λy=>[y]) k else 1) (λk=>if k<x then oL (X.map λy=>[y]) k else e) none) (.jU true T1 T0 (x+1) 7 (nf (X.map λy=>[y])) (oL (X.map λy=>[y])) none):=by
 have e0:(X.map λy=>[y]).getD x []=[X.getD x ix]:=by simp[bC,hx]
 refine .jU rfl (λk hk=>?_) (λk i j hk hi hj=>⟨.jl ?_,s7 _ _ hj⟩)
 .by_cases h:k<x
  .rw [bw h]
  .obtain rfl:k=x:= aC ;rw[bu h];simp only[nf,e0];rfl
 .by_cases h:k<x
  .rw [bw h]
  .obtain rfl:k=x:= aC ;simp only[h,bE]at hi ⊢;obtain rfl:i=0:= aC ;rw[he j hj];simp only[oL,e0];rfl
def afr{s:jH}{x:List Iv}{p n i:Nat}(q:Nat)(hq:q<x.length):(oe s x p n (i+1)).getD q []=if q=i then(oe s x p n i).getD q []++[CW s (jf s x p n) p n q]else(oe s x p n i).getD q []:=by
 rw[Jy hq,Jy hq];by_cases h:q=i
 .subst h;rw[bw rfl,bw (fS _),bu (Nat.lt_irrefl _),gr]
 .rw [bu h];by_cases h2:q<i
  .rw [bw h2,bw aC]
  .rw [bu h2,bu aC]
def UN(s:jH)(x:List Iv)(k p:Nat)(h:lM s)(hx:jT s.iZ x)(hk:k<=16)(iB:8<=p)(iw:p<=512):ik 115 [jD s,iq x,iP k,iP p] (lv (jf s x p k)):=by
 have s4:=h.s4;have lx:=hx.len;exact ak call115 func115 (ae [.y 9 9 true 26 1 (lj []),.s (Sp.kE (UK s x k p) 0 x.length aC (λw hw aey=>by
    have vx:=hx.ok w aC;exact jh (ae [tT 19 ((w:Int)<x.length) aC,iX (w:Int) (x.length) aC,.bo,.a (aC:0<1),.a (aC:(w+1)*24<=140737488355328),iL ((w:Int)+1) aC]<|.e (af [.b 9 (aiZ aC λj hj=>afa _ j hj:Bx.le (.jU true 26 39 (w+1) 7 (λk_=>if k_<w then(nf (x.map λy=>[y])) k_ else(λ_=>1) (k_-w)) (λk_=>if k_<w then(oL (x.map λy=>[y])) k_ else(λ_=>λi_ j_=>(iQ (x.getD w ix)).getD (i_*7+j_) (.v (.bool false))) (k_-w)) .none) (.jU true 26 39 (w+1) 7 (nf (x.map λy=>[y])) (oL (x.map λy=>[y])) .none))])) aF)
  (λhw=>by
    exact jh (af [tF 19 ((x.length:Int)<x.length) aC]) aF) aI:kD 3 f115 (UK s x k p 0) (.exit 0) ⟨72,true,[(9,.own 9),(4,.box 4 0),(2,.e (iP k)),(3,.e (iP p))],[(9,.jU true 26 39 x.length 7 (nf (x.map λy=>[y])) (oL (x.map λy=>[y])) .none),(4,.cells 28 [iP s.tape.iC,mH s.tape.il,mG s.tape.iF,iP s.iZ,iq s.params])]⟩) (af [.b 9 (Bx.le.aiY:Bx.le (.row true 26 0 1 (lj [])) (.jU true 26 39 0 7 (nf (x.map λy=>[y])) (oL (x.map λy=>[y])) .none))]),.s (Sp.kE (UL s x k p) 0 k aC (λm hm amm=>by
    have wk:=zU h hx iB iw m aC;have kV:=Jv h wk (by rw[sB,hx.len]);have hfs:=Se (aC:1<=p) (aC:p<=4096) h.tape kV.1 kV.2;have FU:(qC s.tape (oR s (jf s x p m) m) m p).length=x.length:=by unfold qC;rw[b6,h.iF,hx.len]
    have hwv:=yT (m+1) aC;exact jh (ae [tT 30 ((m:Int)<k) aC,.c (afp s x.length m (jf s x p m) h (sB _ _ _ _).symm aC aC (λi hi=>by rw[(wk i (by rw[sB];exact hi)).len];exact bD _) (λi hi=>by rw[(wk i (by rw[sB];exact hi)).len];omega):ik 188 [jD s,(.nI false true x.length 1 λk_ _=>.nI true true ((nf (jf s x p m)) k_) 7 ((oL (jf s x p m)) k_)),iP m] _),.c (UH s.tape (oR s (jf s x p m) m) m p h.tape kV.1 kV.2 aC iB iw),iL ((m:Int)+1) aC,.c (Fb (m+1) aC),.c (rZ (jo ((m+1:Nat):Int)) (Ee _ aC)),.s (Sp.kE (UM s x k p m) 0 x.length aC (λw hw aey=>by
    have Ta:=hfs w (by rw[FU];omega);have amg:=Ta.len;have amh:=Ta.ok m;have Cw:∀ q,q<x.length->(oe s x p m (w+1)).getD q []=if q=w then(oe s x p m w).getD q []++[jz (((qC s.tape (oR s (jf s x p m) m) m p).getD w []).getD m ix) (kn (m+1)) p]else(oe s x p m w).getD q []:=λq hq=>by
     rw[afr q hq];by_cases e:q=w
     .subst e;rw[bw rfl,bw rfl];rfl
     .rw [bu e,bu e]
    have F1:nf (oe s x p m w) w=m+1:=by
     show(List.getD (oe s x p m w) w []).length=m+1;rw[Jy aC,bu (Nat.lt_irrefl _),gr];exact(wk w (by rw[sB];omega)).len
    have sx:=qj (jz (((qC s.tape (oR s (jf s x p m) m) m p).getD w []).getD m ix) (kn (m+1)) p);exact jh (ae [tT 48 ((w:Int)<x.length) aC,iX (w:Int) (x.length) aC,.a (aC:w<x.length),iX (w:Int) ((qC s.tape (oR s (jf s x p m) m) m p).length) aC,
     iX (m:Int) (((qC s.tape (oR s (jf s x p m) m) m p).getD w []).length) aC,.c (tY (((qC s.tape (oR s (jf s x p m) m) m p).getD w []).getD m ix) (kn (m+1)) p aD aD aC aC),.o 66 (.e (lJ _):aj (.sl true 1 7 λi_ j_=>(iQ (jz (((qC s.tape (oR s (jf s x p m) m) m p).getD w []).getD m ix) (kn (m+1)) p)).getD (i_*7+j_) (.v (.bool false))) (iq [jz (((qC s.tape (oR s (jf s x p m) m) m p).getD w []).getD m ix) (kn (m+1)) p])),.a (aC:w<x.length),.a (aC:((nf (oe s x p m w)) w+[jz (((qC s.tape (oR s (jf s x p m) m) m p).getD w []).getD m ix) (kn (m+1)) p].length)*88<=140737488355328),
     iX (w:Int) (x.length) aC,.a (rfl:w=w),.a (rfl:w=w),.a (aC:w<x.length),iL ((w:Int)+1) aC]<|.e (af [.b 9 (ai0 (M:=(oe s x p m w)) (M':=(oe s x p m (w+1))) (x:=w) (y:=(jz (((qC s.tape (oR s (jf s x p m) m) m p).getD w []).getD m ix) (kn (m+1)) p)) Cw:Bx.le (.jU true 26 39 x.length 7 (λq=>if q=w then(nf (oe s x p m w)) q+[jz (((qC s.tape (oR s (jf s x p m) m) m p).getD w []).getD m ix) (kn (m+1)) p].length else(nf (oe s x p m w)) q) (λq i j=>if q=w then(if i<(nf (oe s x p m w)) q then(oL (oe s x p m w)) q i j else(E.kT (iq [jz (((qC s.tape (oR s (jf s x p m) m) m p).getD w []).getD m ix) (kn (m+1)) p])) (i-(nf (oe s x p m w)) q) j)else(oL (oe s x p m w)) q i j) .none) (.jU true 26 39 x.length 7 (nf (oe s x p m (w+1))) (oL (oe s x p m (w+1))) .none))])) aF)
  (λhw=>by
    exact jh (af [tF 48 ((x.length:Int)<x.length) aC]) aF) aI:kD 13 f115 (UM s x k p m 0) (.exit 4) ⟨72,true,[(29,.e (iP m)),(28,.e (iP k)),(9,.own 9),(4,.box 4 0),(3,.e (iP p))],[(9,.jU true 26 39 x.length 7 (nf (oe s x p m x.length)) (oL (oe s x p m x.length)) .none),(4,.cells 28 [iP s.tape.iC,mH s.tape.il,mG s.tape.iF,iP s.iZ,iq s.params])]⟩) (af [.b 9 (.jl (by rw[afs]):Bx.le (.jU true 26 39 x.length 7 (nf (jf s x p m)) (oL (jf s x p m)) .none) (.jU true 26 39 x.length 7 (nf (oe s x p m 0)) (oL (oe s x p m 0)) .none))]),
     iL ((m:Int)+1) aC]<|.e (af [.b 9 (.jl (by rw[afq]):Bx.le (.jU true 26 39 x.length 7 (nf (oe s x p m x.length)) (oL (oe s x p m x.length)) .none) (.jU true 26 39 x.length 7 (nf (jf s x p (m+1))) (oL (jf s x p (m+1))) .none))])) aF)
  (λhm=>by
    exact jh (af [tF 30 ((k:Int)<k) aC]) aF) aI:kD 8 f115 (UL s x k p 0) (.exit 2) ⟨72,true,[(9,.own 9)],[(9,.jU true 26 39 x.length 7 (nf (jf s x p k)) (oL (jf s x p k)) .none)]⟩) (af [.b 9 (.jl rfl:Bx.le (.jU true 26 39 x.length 7 (nf (x.map λy=>[y])) (oL (x.map λy=>[y])) .none) (.jU true 26 39 x.length 7 (nf (jf s x p 0)) (oL (jf s x p 0)) .none))])]<|rR (lv (jf s x p k)) (agk (sB _ _ _ _).symm:E.le (.sl true x.length 1 λk_ _=>.sl true ((nf (jf s x p k)) k_) 7 ((oL (jf s x p k)) k_)) (lv (jf s x p k)))) 
def UI(s:jH)(x:List Iv)(p:Nat)(h:lM s)(hx:jT s.iZ x)(iB:8<=p)(iw:p<=512):ik 114 [jD s,iq x,iP p] (bP true):=by
 have s1:=h.s1;have s4:=h.s4;have lx:=hx.len;exact ak call114 func114 (af [.c (Pw s aD),.c (Iq x aC aC hx.ok),ah 18 ((x.length:Int)==s.iZ) (bj aC),tT 22 (8<=(p:Int)) aC,tT 26 ((p:Int)<=512) aC]) 
def Lx(s:jH)(x:List Iv)(k p:Nat)(h:lM s)(hx:jT s.iZ x)(iB:8<=p)(iw:p<=512)(hk:k<=16):ik 41 [jD s,iq x,iP k,iP p] (.iE [lv (jf s x p k),iP 0]):=by
 have s1:=h.s1;have s4:=h.s4;have lx:=hx.len;exact ak call41 func41 (af [.c (UI s x p h hx iB iw),tF 16 ((k:Int)<0) aC,tF 19 (16<(k:Int)) aC,.c (UN s x k p h hx hk iB iw)]) 
noncomputable def mI(s:jH)(tube:List Iv)(t:Iv)(k p:Nat):List Iv:=kQ (λi=>iV (((jf s tube p (k+1)).getD i []).getD (k+1) ix) (lk t (k+1) p) p) tube.length
noncomputable def k0(s:jH)(x tube:List Iv)(t:Iv)(k p:Nat):List Iv:=kQ (λi=>jO (nA ((jf s x p k).getD i []) t p) ((mI s tube t k p).getD i ix) p) x.length
def sD(x y:Iv):Bool:=decide (jE (jg x.lo y.lo) (jk x.hi y.hi)<=0)
def mK(x y:Iv):Iv:=⟨jg x.lo y.lo,jk x.hi y.hi,false⟩
def agu{x y:Iv}(h:sD x y=true):¬0<jE (jg x.lo y.lo) (jk x.hi y.hi):=by have:=cQ h;omega
def agt{x y:Iv}(h:sD x y=false):0<jE (jg x.lo y.lo) (jk x.hi y.hi):=by have:=fG h;omega
def Vx{x y:Iv}(hx:x.iy)(hy:y.iy)(xa:x.all=false)(ya:y.all=false)(h:sD x y=true):(mK x y).iy:=by
 obtain⟨w1,w2⟩:=hx.kr;obtain⟨w3,w4⟩:=hy.kr;exact .inr ⟨rfl,qI w1 w3,rJ w2 w4,cQ h⟩
def uD(a b:List Iv):List Iv:=(List.range a.length).map λj_=>mK (a.getD j_ ix) (b.getD j_ ix)
def Gx(a b:List Iv):Bool:=(List.range a.length).all λj_=>sD (a.getD j_ ix) (b.getD j_ ix)
def QT(a b:List Iv)(i:Nat):PS:=⟨39,true,[(6,.own 6),(16,.e (iP i)),(15,.e (iP a.length)),(0,.e (iq a)),(1,.e (iq b))],[(6,.row true 39 i 7 (jc ((List.range i).map (λj_=>mK (a.getD j_ ix) (b.getD j_ ix)))))]⟩
def QS(a b:List Iv)(N:Nat)(i:Nat):PS:=⟨39,true,[(6,.own 6),(16,.e (iP i)),(15,.e (iP a.length)),(0,.e (iq a)),(1,.e (iq b))],[(6,.row true 39 i 7 (jc ((List.range i).map (λj_=>mK (a.getD j_ ix) (b.getD j_ ix)))))]⟩
def Em(x y:Iv)(hx:x.iy)(hy:y.iy)(xa:x.all=false)(ya:y.all=false)(hm:sD x y=true):ik 142 [iz x,iz y] (.iE [iz (mK x y),bP true]):=by
 obtain⟨w1,w2⟩:=hx.kr;obtain⟨w3,w4⟩:=hy.kr;have w5:=qI w1 w3;have w6:=rJ w2 w4;exact ak call142 func142 (ae [.c (qH x aD),.c (qH y aD),ai 19 x.all xa,ai 23 y.all ya,.c (Eg x.lo y.lo aD aD),.c (Ef x.hi y.hi aD aD),ag [iA (jg x.lo y.lo),iA (jk x.hi y.hi)] (nv _ _ aD aD),tF 41 (0<(jE (jg x.lo y.lo) (jk x.hi y.hi))) (agu hm)]<|rR (.iE [iz (mK x y),bP true]) (.jl rfl:E.le (.iE [iz (Iv.mk (jg x.lo y.lo) (jk x.hi y.hi) false),bP true]) (.iE [iz (mK x y),bP true]))) 
def akv:tp au (iQ lV):=by
 have e1:E.le (.v (.slice none 0 0)) (iu (im 0)):=by rw[px];exact .nil _ _ _
 exact .cons (.refl _) (.cons e1 (.cons (.refl _) (.cons (.refl _) (.cons e1 (.cons (.refl _) (.cons (.refl _) .nil))))))
def Vy(x y:Iv)(hx:x.iy)(hy:y.iy)(xa:x.all=false)(ya:y.all=false)(hm:sD x y=false):ik 142 [iz x,iz y] (.iE [iz lV,bP false]):=by
 obtain⟨w1,w2⟩:=hx.kr;obtain⟨w3,w4⟩:=hy.kr;have w5:=qI w1 w3;have w6:=rJ w2 w4;exact ak call142 func142 (ae [.c (qH x aD),.c (qH y aD),ai 19 x.all xa,ai 23 y.all ya,.c (Eg x.lo y.lo aD aD),.c (Ef x.hi y.hi aD aD),ag [iA (jg x.lo y.lo),iA (jk x.hi y.hi)] (nv _ _ aD aD),tT 41 (0<(jE (jg x.lo y.lo) (jk x.hi y.hi))) (agt hm)]<|rR (.iE [iz lV,bP false]) (.iE (.cons (.agg akv) (.cons (.refl _) .nil)):E.le (.iE [.agg au,bP false]) (.iE [iz lV,bP false]))) 
def aaC(a b:List Iv)(a1:1<=a.length)(a8:a.length<=8)(hl:b.length=a.length)(ha:sK a)(hb:sK b)(jZ:∀ i,i<a.length->sD (a.getD i ix) (b.getD i ix)=true):ik 65 [iq a,iq b] (.iE [iq (uD a b),bP true]):=
 ak call65 func65 (ae [.c (Li a b aC aC aC aD aD),.y 6 6 true 39 7 (jc ((List.range 0).map (λj_=>mK (a.getD j_ ix) (b.getD j_ ix)))),.s (Sp.kE (QT a b) 0 a.length aC (λi hi rF=>by
    obtain⟨v1,v2⟩:=ha i aC;obtain⟨v3,v4⟩:=hb i aC;have v5:=jZ i aC;have sx:=qj (mK (a.getD i ix) (b.getD i ix));exact jh (ae [tT 17 ((i:Int)<a.length) aC,iX (i:Int) (a.length) aC,iX (i:Int) (b.length) aC,.c (Em (a.getD i ix) (b.getD i ix) aD aD aD aD aD),.o 35 (.e (lJ _):aj (.sl true 1 7 λi_ j_=>(iQ (mK (a.getD i ix) (b.getD i ix))).getD (i_*7+j_) (.v (.bool false))) (iq [mK (a.getD i ix) (b.getD i ix)])),.a (aC:(i+[mK (a.getD i ix) (b.getD i ix)].length)*88<=140737488355328),iL ((i:Int)+1) aC]<|.e (af [.b 6 (CI rfl rfl rfl:Bx.le (.row true 39 (i+[mK (a.getD i ix) (b.getD i ix)].length) 7 (λi_ j_=>if i_<i then(jc ((List.range i).map (λj_=>mK (a.getD j_ ix) (b.getD j_ ix)))) i_ j_ else(E.kT (iq [mK (a.getD i ix) (b.getD i ix)])) (i_-i) j_)) (.row true 39 (i+1) 7 (jc ((List.range (i+1)).map (λj_=>mK (a.getD j_ ix) (b.getD j_ ix))))))])) aF)
  (λhi=>by
    exact jh (ae [tF 17 ((a.length:Int)<a.length) aC,.z 6]<|.e (af [.o 6 (.e (CH aH):aj (.sl true a.length 7 (jc ((List.range a.length).map (λj_=>mK (a.getD j_ ix) (b.getD j_ ix))))) (iq ((List.range a.length).map (λj_=>mK (a.getD j_ ix) (b.getD j_ ix)))))])) aF) aI:kD 5 Tryz.f65 (QT a b 0) (.exit 0) ⟨39,true,[(6,.e (iq ((List.range a.length).map (λj_=>mK (a.getD j_ ix) (b.getD j_ ix)))))],[]⟩) .nil]<|rR (.iE [iq (uD a b),bP true]) (.jl rfl:E.le (.iE [iq ((List.range a.length).map (λj_=>mK (a.getD j_ ix) (b.getD j_ ix))),bP true]) (.iE [iq (uD a b),bP true]))) 
def aaA(a b:List Iv)(a1:1<=a.length)(a8:a.length<=8)(hl:b.length=a.length)(ha:sK a)(hb:sK b)(N:Nat)(q8:N<a.length)(jZ:∀ i,i<N->sD (a.getD i ix) (b.getD i ix)=true)(hN:sD (a.getD N ix) (b.getD N ix)=false):ik 65 [iq a,iq b] (.iE [.v (.slice none 0 0),bP false]):=
 ak call65 func65 (af [.c (Li a b aC aC aC aD aD),.y 6 6 true 39 7 (jc ((List.range 0).map (λj_=>mK (a.getD j_ ix) (b.getD j_ ix)))),.s (Sp.kE (QS a b N) 0 N aC (λi hi rF=>by
    obtain⟨v1,v2⟩:=ha i aC;obtain⟨v3,v4⟩:=hb i aC;have v5:=jZ i aC;have sx:=qj (mK (a.getD i ix) (b.getD i ix));exact jh (ae [tT 17 ((i:Int)<a.length) aC,iX (i:Int) (a.length) aC,iX (i:Int) (b.length) aC,.c (Em (a.getD i ix) (b.getD i ix) aD aD aD aD aD),.o 35 (.e (lJ _):aj (.sl true 1 7 λi_ j_=>(iQ (mK (a.getD i ix) (b.getD i ix))).getD (i_*7+j_) (.v (.bool false))) (iq [mK (a.getD i ix) (b.getD i ix)])),.a (aC:(i+[mK (a.getD i ix) (b.getD i ix)].length)*88<=140737488355328),iL ((i:Int)+1) aC]<|.e (af [.b 6 (CI rfl rfl rfl:Bx.le (.row true 39 (i+[mK (a.getD i ix) (b.getD i ix)].length) 7 (λi_ j_=>if i_<i then(jc ((List.range i).map (λj_=>mK (a.getD j_ ix) (b.getD j_ ix)))) i_ j_ else(E.kT (iq [mK (a.getD i ix) (b.getD i ix)])) (i_-i) j_)) (.row true 39 (i+1) 7 (jc ((List.range (i+1)).map (λj_=>mK (a.getD j_ ix) (b.getD j_ ix))))))])) aF)
  (λhi=>by
    obtain⟨v1,v2⟩:=ha N aC;obtain⟨v3,v4⟩:=hb N aC;exact jh (af [tT 17 ((N:Int)<a.length) aC,iX (N:Int) (a.length) aC,iX (N:Int) (b.length) aC,.c (Vy (a.getD N ix) (b.getD N ix) aD aD aD aD aD)]) aF) aI:kD 5 Tryz.f65 (QS a b N 0) .ret ⟨39,true,[(5,.e (bP false)),(4,.e (.v (.slice none 0 0)))],[]⟩) .nil]) 
def NX(a b:List Iv):E:=if Gx a b then .iE [iq (uD a b),bP true]else .iE [.v (.slice none 0 0),bP false]
def aaB(a b:List Iv)(a1:1<=a.length)(a8:a.length<=8)(hl:b.length=a.length)(ha:sK a)(hb:sK b):ik 65 [iq a,iq b] (NX a b):=by
 unfold NX;cases hm:Gx a b with
 |true=>exact aaC a b a1 a8 hl ha hb λi hi=>bT.1 hm i (cC.2 hi)
 |false=>
  obtain⟨i,hi,hn⟩:=List.all_eq_false.1 hm;obtain⟨N,h1,h2,h3⟩:=uB (p:=λi=>!(sD (a.getD i ix) (b.getD i ix))) ⟨i,cC.1 hi,by simpa using hn⟩;exact aaA a b a1 a8 hl ha hb N h1 (λi hi=>by simpa using h3 i hi) (by simpa using h2)
def agv{n:Nat}{a b:List Iv}(ha:jT n a)(hb:jT n b)(h:Gx a b=true):jT n (uD a b):=by
 refine⟨by simp[uD,ha.len],λi hi=>?_⟩;have nJ:i<a.length:=by simpa[uD]using hi
 have e:(uD a b).getD i ix=mK (a.getD i ix) (b.getD i ix):=getD_map nJ;rw[e];obtain⟨x1,x2⟩:=ha.ok i nJ;obtain⟨y1,y2⟩:=hb.ok i (by rw[hb.len,<-ha.len];exact nJ);exact⟨Vx x1 y1 x2 y2 (bT.1 h i (cC.2 nJ)),rfl⟩
def ahA{P:Program}{K:World->Prop}{f:FuncId}{args:List E}{nl:Bool}{T:TypeId}{n sz:Nat}{el:Nat->Nat->E}(h:uR P K f args nl T n sz el):PC P K f args (.sl nl n sz el):=
 ⟨h.call,λw B vs hK hB hr=>(h.run w B vs hK hB hr).mono λe w' ⟨v,he,hb,g,lO,tO,yp⟩=>⟨v,he,hb,by
  rcases lO with⟨rfl,rfl⟩|⟨b,c,cur,rfl,hg,oJ,nS,mE,kt,jQ⟩
  .exact .sl nl 0 sz el none 0 g (bD _) aE (λ_=>rfl) (λi j hi=>absurd hi (bF i)) (λi j hi=>absurd hi (bF i)) (λi j hi=>absurd hi (bF i)) (λi j hi=>absurd hi (bF i))
  .have zo:=tO b rfl;refine .sl nl n sz el _ c g oJ (by unfold maxLen at nS;omega) (λh=>by cases h) (λi j hi hj=>⟨(kt i j hi hj).2,λhn=>jQ hn _ (dZ (kt i j hi hj).1)⟩) (λi j hi hj=>(yp i j hi hj).2)
    (λi j hi hj=>⟨b,0,rfl,λhB'=>absurd (hB b hB').1 aC,zo.2,?_⟩) (λi j hi hj=>(yp i j hi hj).1.qw (λ_ h=>.inl h) (λ_ h=>h))
   rw[cD];simp only[World.cell?,hg];simpa using(kt i j hi hj).1⟩⟩
def Lv(r:List Iv)(h0:0<r.length)(hl:r.length<=1000):ik 63 [iq r] (iq r):=ahA (Dw r h0 hl)
def YM(z:Iv)(p N:Nat)(x:Nat):PS:=⟨39,true,[(8,.e (iP ((2*x+3:Nat):Int))),(7,.box 7 0),(6,.box 6 0),(5,.box 5 0),(4,.box 4 0),(2,.box 2 0)],[(7,.cells 39 (iQ (vI z p x))),(6,.cells 39 (iQ (oF z p x))),(5,.cells 39 (iQ (oW z p))),(4,.cells 39 au),(2,.cells 272 [iP p])]⟩
def alE(z:Iv)(p N:Nat)(hz:z.iy)(iB:8<=p)(iw:p<=512)(h2:N<=1000)(jZ:∀ x,x<N->pk (oF z p x) p=false)(hN:pk (oF z p N) p=true):ik 348 [.agg [iP p],iz z] (iz (Ei z p N)):=by
 have hsq:=Kp hz (aC:1<=p) (aC:p<=4096);have t0:=yH hz iB iw N;have s0:=CM hz iB iw N;have r0:=Dv t0;have a0:=qk s0 r0 (aC:1<=p) (aC:p<=4096);exact ak call348 func348 (ae [ag [iz z,iP p] (QD _ aD _ aC aC),.s (Sp.kE (YM z p N) 0 N aC (λx hx nd=>by
    have t0:=yH hz iB iw x;have s0:=CM hz iB iw x;have q0:(iV (oF z p x) (oW z p) p).iy:=oV _ _ aC aC;have n1:(jI ((2*x+3:Nat):Int)).iy:=CX _ aC;have d1:(jz (iV (oF z p x) (oW z p) p) (jI ((2*x+3:Nat):Int)) p).iy:=oZ _ _ aC aC;exact jh (ae [.c (KK p (oF z p x) aD aC aC),ai 17 (pk (oF z p x) p) (jZ x aC),.c (KJ p (oF z p x) (oW z p) aD aD aC aC),.c (xO ((2*x+3:Nat):Int) aC),.c (Hs p (iV (oF z p x) (oW z p) p) (jI ((2*x+3:Nat):Int)) aD aD aC aC),.c (BX p (vI z p x) (jz (iV (oF z p x) (oW z p) p) (jI ((2*x+3:Nat):Int)) p) aD aD aC aC),iL (((2*x+3:Nat):Int)+2) aC]<|.e (af [.o 8 (aq (((2*x+3)+2:Nat):Int) ((2*(x+1)+3:Nat):Int) aP),.b 7 (.jl rfl:Bx.le (.cells 39 (iQ (jO (vI z p x) (jz (iV (oF z p x) (oW z p) p) (jI ((2*x+3:Nat):Int)) p) p))) (.cells 39 (iQ (vI z p (x+1))))),.b 6 (.jl rfl:Bx.le (.cells 39 (iQ (iV (oF z p x) (oW z p) p))) (.cells 39 (iQ (oF z p (x+1)))))])) aF)
  (λhx=>by
    have t0:=yH hz iB iw N;have s0:=CM hz iB iw N;have q0:(iV (oF z p N) (oW z p) p).iy:=oV _ _ aC aC;have n1:(jI ((2*N+3:Nat):Int)).iy:=CX _ aC;have d1:(jz (iV (oF z p N) (oW z p) p) (jI ((2*N+3:Nat):Int)) p).iy:=oZ _ _ aC aC;exact jh (af [.c (KK p (oF z p N) aD aC aC),ah 17 (pk (oF z p N) p) hN]) aF) aI:kD 4 f348 (YM z p N 0) (.exit 0) ⟨39,true,[(7,.box 7 0),(6,.box 6 0),(4,.box 4 0),(2,.box 2 0)],[(7,.cells 39 (iQ (vI z p N))),(6,.cells 39 (iQ (oF z p N))),(4,.cells 39 au),(2,.cells 272 [iP p])]⟩) (af [.o 8 (aq 3 ((2*0+3:Nat):Int) aP),.b 7 (.jl rfl:Bx.le (.cells 39 (iQ z)) (.cells 39 (iQ (vI z p 0)))),.b 6 (.jl rfl:Bx.le (.cells 39 (iQ z)) (.cells 39 (iQ (oF z p 0))))]),ag [iz (oF z p N)] (YV _ aD),.c (BX p (vI z p N) (ru (oF z p N)) aD aD aC aC),.c (Ij (jO (vI z p N) (ru (oF z p N)) p) aD 1 aC aC)]<|rR (iz (Ei z p N)) (.refl _:E.le (iz (mj (jO (vI z p N) (ru (oF z p N)) p) 1)) (iz (Ei z p N)))) 
def Dl(f:Nat->Rat)(X:Iv):Prop:=∃ N0,∀ M,N0<=M->X.ki (f M)
def Dl.mono{f:Nat->Rat}{X Y:Iv}(h:Dl f X)(k:∀ r,X.ki r->Y.ki r):Dl f Y:=h.imp λ_ h M hM=>k _ (h M hM)
def YN{z:Iv}(hz:z.iy)(hb:z.all=true\/Sub z (pY (-1))){p:Nat}(iB:8<=p)(iw:p<=512):∃ Z,Z.iy/\(∀ r,z.ki r->jm r*2<=1->Dl (λM=>AQ r M*2) Z)/\ik 348 [.agg [iP p],iz z] (iz Z):=by
 obtain⟨N,h1,h2,h3⟩:=afK hz hb iB iw;exact⟨Ei z p N,afJ hz iB iw N,λr hr ha=>⟨N,λM hM=>afI hz hr ha iB iw h1 M hM⟩,alE z p N hz iB iw h1 h2 h3⟩
def akL{p:Nat}(iB:8<=p)(iw:p<=512):(jz (jI 1) (jI 3) p).iy/\(jz (jI 1) (jI 3) p).ki (1/3)/\Sub (jz (jI 1) (jI 3) p) (pY (-1)):=by
 have v1:(jI 1).iy:=wJ aE;have v3:(jI 3).iy:=wJ aE;have h1:=Ae 1;have h3:=Ae 3;refine⟨oZ _ _ aC aC,?_,?_⟩
 .have:=IC v1 v3 (p:=p) aC aC h1 h3;rwa[show((1:Int):Rat)/((3:Int):Rat)=1/3 from rfl]at this
 .have hs:lZ (jI 3)≠0:=Pq rfl (.inl (by show 0<(jo 3).q;rw[BE];decide));refine Ff (IB v1 v3 rfl hs (p:=p) aC aC) aC aE aE ?_;rintro r ⟨a,b,ha,hb,rfl⟩;obtain⟨a1,a2⟩:=ha.kr rfl;obtain⟨b1,b2⟩:=hb.kr rfl;change (jo 1).q<=a at a1;change a<=(jo 1).q at a2;change (jo 3).q<=b at b1;change b<=(jo 3).q at b2;rw[BE]at a1 a2 b1 b2;have ea:a=1:=fg a2 a1;have eb:b=3:=fg b2 b1;subst ea eb;have:P2 (-1)=1/2:= aL ;rw[this];exact⟨aL,aL⟩
def al0(p:Nat)(Z:Iv)(hZ:Z.iy)(hL:ik 348 [.agg [iP (((min (p+16) 512):Nat):Int)],iz (jz (jI 1) (jI 3) (min (p+16) 512))] (iz Z))(iB:8<=p)(iw:p<=512):ik 350 [iP p] (iz (mi Z p)):=by
 have v1:(jI 1).iy:=wJ aE;have v3:(jI 3).iy:=wJ aE;exact ak call350 func350 (af [tF 5 ((p:Int)<8) aC,tF 8 (512<(p:Int)) aC,.c (PN p 16 aC aC),.c (xO 1 aC),.c (xO 3 aC),.c (Hs (min (p+16) 512) (jI 1) (jI 3) aD aD aC aC),ag [.agg [iP ((min (p+16) 512:Nat):Int)],iz (jz (jI 1) (jI 3) (min (p+16) 512))] hL,.c (Fc Z aD p aC aC)]) 
def alZ{p:Nat}(iB:8<=p)(iw:p<=512):∃ Z,Z.iy/\Dl (λM=>AQ (1/3) M*2) Z/\ik 350 [iP (p:Int)] (iz Z):=by
 obtain⟨t1,t2,t3⟩:=akL (p:=min (p+16) 512) aC aC;obtain⟨Z,h1,h2,h3⟩:=YN t1 (.inr t3) (p:=min (p+16) 512) aC aC;refine⟨mi Z p,EG h1 aC aC,(h2 _ t2 aL).mono λr hr=>G4 h1 aC aC hr,al0 p Z h1 h3 iB iw⟩
def yV:Iv:=⟨iS,iS,false⟩
def YZ:E.le (.agg au) (iz yV):=
 .agg (.cons (.refl _) (.cons GF (.cons (.refl _) (.cons (.refl _) (.cons GF (.cons (.refl _) (.cons (.refl _) .nil)))))))
def al5(d:Dy)(p:Nat)(hd:d.iy)(h1:jE d ⟨false,1,0⟩=0)(iB:8<=p)(iw:p<=512):ik 331 [iA d,iP p] (iz yV):=by
 have v1:=GK;exact ak call331 func331 (ae [ag [iP 1] La,ag [iA d,iA (Dy.mk false 1 0)] (nv _ _ aD aD),ah 12 ((jE d (Dy.mk false 1 0))==0) (by rw[h1];rfl)]<|rR (iz yV) (YZ:E.le (.agg au) (iz yV))) 
def al6(d:Dy)(p:Nat)(Z Y:Iv)(hd:d.iy)(h1:¬jE d ⟨false,1,0⟩=0)(TK:-20000<=d.iI)(sZ:d.iI<=20000)(hZ:Z.iy)(hY:Y.iy)(hL:ik 348 [.agg [iP (((min (p+40) 512):Nat):Int)],iz (jz (jO (mj (mi (jF d) (min (p+40) 512)) (0-(Dy.iI d))) (jI (-1)) (min (p+40) 512)) (jO (mj (mi (jF d) (min (p+40) 512)) (0-(Dy.iI d))) (jI 1) (min (p+40) 512)) (min (p+40) 512))] (iz Z))(hL2:ik 350 [iP (((min (p+40) 512):Nat):Int)] (iz Y))(iB:8<=p)(iw:p<=512):ik 331 [iA d,iP p] (iz (mi (jO Z (iV (jI d.iI) Y (min (p+40) 512)) (min (p+40) 512)) p)):=by
 have v1:=GK;have vp:=qV hd;have vr:(mi (jF d) (min (p+40) 512)).iy:=EG vp aC aC;have vs:(mj (mi (jF d) (min (p+40) 512)) (0-(Dy.iI d))).iy:=G8 vr _;have n1:(jI 1).iy:=wJ aE;have n2:(jI (-1)).iy:=wJ aE;have a1:(jO (mj (mi (jF d) (min (p+40) 512)) (0-(Dy.iI d))) (jI (-1)) (min (p+40) 512)).iy:=qk vs n2 aC aC;have a2:(jO (mj (mi (jF d) (min (p+40) 512)) (0-(Dy.iI d))) (jI 1) (min (p+40) 512)).iy:=qk vs n1 aC aC;have a3:(jz (jO (mj (mi (jF d) (min (p+40) 512)) (0-(Dy.iI d))) (jI (-1)) (min (p+40) 512)) (jO (mj (mi (jF d) (min (p+40) 512)) (0-(Dy.iI d))) (jI 1) (min (p+40) 512)) (min (p+40) 512)).iy:=oZ _ _ aC aC;have nt:(jI d.iI).iy:=wJ aC;have m1:(iV (jI d.iI) Y (min (p+40) 512)).iy:=oV _ _ aC aC;have m2:(jO Z (iV (jI d.iI) Y (min (p+40) 512)) (min (p+40) 512)).iy:=qk hZ m1 aC aC;exact ak call331 func331 (af [ag [iP 1] La,ag [iA d,iA (Dy.mk false 1 0)] (nv _ _ aD aD),ai 12 ((jE d (Dy.mk false 1 0))==0) (by simpa using h1),.c (PN p 40 aC aC),ag [iA d] (pr _ aD),.c (rZ d aD),.c (Fc (jF d) aD (min (p+40) 512) aC aC),
  iL (0-(Dy.iI d)) aC,.c (Ij (mi (jF d) (min (p+40) 512)) aD (0-(Dy.iI d)) aC aC),.c (xO (-1) aC),.c (BX (min (p+40) 512) (mj (mi (jF d) (min (p+40) 512)) (0-(Dy.iI d))) (jI (-1)) aD aD aC aC),.c (xO 1 aC),.c (BX (min (p+40) 512) (mj (mi (jF d) (min (p+40) 512)) (0-(Dy.iI d))) (jI 1) aD aD aC aC),.c (Hs (min (p+40) 512) (jO (mj (mi (jF d) (min (p+40) 512)) (0-(Dy.iI d))) (jI (-1)) (min (p+40) 512)) (jO (mj (mi (jF d) (min (p+40) 512)) (0-(Dy.iI d))) (jI 1) (min (p+40) 512)) aD aD aC aC),ag [.agg [iP ((min (p+40) 512:Nat):Int)],iz (jz (jO (mj (mi (jF d) (min (p+40) 512)) (0-(Dy.iI d))) (jI (-1)) (min (p+40) 512)) (jO (mj (mi (jF d) (min (p+40) 512)) (0-(Dy.iI d))) (jI 1) (min (p+40) 512)) (min (p+40) 512))] hL,.c (xO (Dy.iI d) aC),ag [iP ((min (p+40) 512:Nat):Int)] hL2,.c (KJ (min (p+40) 512) (jI (Dy.iI d)) Y aD aD aC aC),.c (BX (min (p+40) 512) Z (iV (jI (Dy.iI d)) Y (min (p+40) 512)) aD aD aC aC),.c (Fc (jO Z (iV (jI (Dy.iI d)) Y (min (p+40) 512)) (min (p+40) 512)) aD p aC aC)]) 
def YX{d:Dy}(hd:d.iy)(hq:0<d.q){p:Nat}(iB:8<=p)(iw:p<=512):∃ Z,Z.iy/\Dl (LQ d) Z/\ik 331 [iA d,iP (p:Int)] (iz Z):=by
 by_cases h1:jE d ⟨false,1,0⟩=0
 .refine ⟨yV,.inr ⟨rfl,sk,sk,CL _⟩,⟨0,λM _=>?_⟩,al5 d p hd h1 iB iw⟩;have e:d=⟨false,1,0⟩:=by
   refine OK hd.canon GK.canon (fg ((pA _ _).1 aC) ((pA _ _).1 ?_));rw[Fm];have:=Fm d ⟨false,1,0⟩;omega
  rw[e,Zd];exact .inr ⟨by show iS.q<=0;rw[wM];exact cR,by show 0<=iS.q;rw[wM];exact cR⟩
 .have hm:=Ew hq;obtain⟨t1,t2⟩:=Yt hd hm;obtain⟨P,hP⟩:∃ P,P=min (p+40) 512:=⟨_,rfl⟩
  have p1:8<=P:= aC ;have p2:P<=512:= aC ;obtain⟨z1,z2,z3⟩:=af8 hd hq p1 p2;obtain⟨Z,a1,a2,a3⟩:=YN z1 z3 p1 p2;obtain⟨Y,b1,b2,b3⟩:=alZ p1 p2;have m1:(iV (jI d.iI) Y P).iy:=oV _ _ aC aC;have m2:=qk a1 m1 (p:=P) aC aC;refine⟨mi (jO Z (iV (jI d.iI) Y P) P) p,EG m2 aC aC,?_,?_⟩
  .have hz:=PQ hq;have ha:jm (Av d)*2<=1:=by
    have:=y5 (x:=Av d) (b:=1/3) aK aK 
    grind
   obtain⟨N1,c1⟩:=a2 _ z2 ha;obtain⟨N2,c2⟩:=b2;refine⟨max N1 N2,λM hM=>G4 m2 aC aC ?_⟩;exact B0 a1 m1 aC aC (c1 M aC) (N4 (wJ aC) b1 aC aC (Ae d.iI) (c2 M aC))
  .subst hP;have e:El d (min (p+40) 512)=jz (jO (mj (mi (jF d) (min (p+40) 512)) (0-(Dy.iI d))) (jI (-1)) (min (p+40) 512)) (jO (mj (mi (jF d) (min (p+40) 512)) (0-(Dy.iI d))) (jI 1) (min (p+40) 512)) (min (p+40) 512):=by unfold El uC;rw[(aC:-d.iI=0-d.iI)]
   rw[e]at a3;exact al6 d p Z Y hd h1 aC aC a1 b1 a3 b3 iB iw
def al1(x:Iv)(p:Nat)(hx:x.iy)(iB:8<=p)(iw:p<=512)(xa:x.all=true):ik 314 [iz x,iP p] (iz ix):=
 ak call314 func314 (af [.c (Dk x p aD aC aC),ai 7 (!x.all) (by rw[xa];rfl),.c nW]) 
def al4(x:Iv)(p:Nat)(hx:x.iy)(iB:8<=p)(iw:p<=512)(xa:x.all=false)(h1:x.lo.jG<=0):ik 314 [iz x,iP p] (iz ix):=by
 obtain⟨w1,w2⟩:=hx.kr;exact ak call314 func314 (af [.c (Dk x p aD aC aC),ah 7 (!x.all) (by rw[xa];rfl),ag [iA x.lo] (pC _ aD),tB 13 (bA h1),.c nW]) 
def al3(x:Iv)(p:Nat)(hx:x.iy)(iB:8<=p)(iw:p<=512)(xa:x.all=false)(h1:¬x.lo.jG<=0)(Z1 Z2:Iv)(z1:Z1.iy)(z2:Z2.iy)(k1:ik 331 [iA x.lo,iP (p:Int)] (iz Z1))(k2:ik 331 [iA x.hi,iP (p:Int)] (iz Z2)):ik 314 [iz x,iP p] (iz (uX Z1 Z2)):=by
 obtain⟨w1,w2⟩:=hx.kr;exact ak call314 func314 (af [.c (Dk x p aD aC aC),ah 7 (!x.all) (by rw[xa];rfl),ag [iA x.lo] (pC _ aD),tB 13 (bB h1),ag [iA x.lo,iP p] k1,ag [iA x.hi,iP p] k2,.c (YW Z1 Z2 aD aD)]) 
def al2{x:Iv}(hx:x.iy){p:Nat}(iB:8<=p)(iw:p<=512):∃ Z,Z.iy/\ik 314 [iz x,iP (p:Int)] (iz Z):=by
 cases xa:x.all with
 |true=>exact⟨ix,mc,al1 x p hx iB iw xa⟩
 |false=>
  by_cases h1:x.lo.jG<=0
  .exact ⟨ix,mc,al4 x p hx iB iw xa h1⟩
  .obtain ⟨w1,w2⟩:=hx.kr;have q1:0<x.lo.q:=(sF _).1.1 aC;have q2:0<x.hi.q:=by have:=hx.q;grind
   obtain⟨Z1,z1,⟨N1,l1⟩,k1⟩:=YX w1 q1 iB iw;obtain⟨Z2,z2,⟨N2,l2⟩,k2⟩:=YX w2 q2 iB iw;refine⟨uX Z1 Z2,RV z1 z2 λa b=>?_,al3 x p hx iB iw xa h1 Z1 Z2 z1 z2 k1 k2⟩;have e1:=((l1 (max N1 N2) aC).kr a).1;have e2:=((l2 (max N1 N2) aC).kr b).2;have e3:=Zc q1 hx.q (max N1 N2);exact bV e1 (bV e3 e2)
def vF(a s:Nat):Prop:=s*s<=a/\a<(s+1)*(s+1)
def WN(a:Nat):∃ s,vF a s:=by
 induction a with
 |zero=>exact⟨0,aE,aE⟩
 |succ a ih=>
  obtain⟨s,h1,h2⟩:=ih;by_cases h:(s+1)*(s+1)<=a+1
  .refine ⟨s+1,h,?_⟩;have:(s+1+1)*(s+1+1)=(s+1)*(s+1)+2*(s+1)+1:=by
    simp only[cj,b9,ct,cI];omega
   omega
  .exact ⟨s,aC,aC⟩
def aiJ{a s t:Nat}(h:vF a s)(ht:t*t<=a):t<=s:=by
 apply ck;intro iJ;have:=dQ (aC:s+1<=t) (aC:s+1<=t);have:=h.2;omega
def pS(a x:Nat):Nat:=(x+a/x)/2
def agX{a s x:Nat}(h:vF a s)(hx:0<x):s<=pS a x:=by
 unfold pS;apply ck;intro iJ;have h1:x+a/x<2*s:=by generalize a/x=q at *;omega
 have h2:a<(a/x+1)*x:=by
  have:=cV a x;have:=bS a hx;rw[cj,ct,bR (a/x)];omega
 have hq:a/x+1<=2*s-x/\x<=2*s:=by
  generalize a/x=q at *
  omega
 have h3:(a/x+1)*x<=(2*s-x)*x:=bW x hq.1;have amx:=hq.2;have h4:(2*s-x)*x<=s*s:=by
  obtain⟨k,hk⟩:∃ k,2*s=x+k:=⟨2*s-x,by clear h1 h2 h3 iJ hq;omega⟩
  rw[show 2*s-x=k by clear h1 h2 h3 iJ hq;omega];clear h1 h2 h3 iJ hq;rcases Nat.le_total x s with qf|qf
  .obtain ⟨e,rfl⟩:∃ e,s=x+e:=⟨s-x,aC⟩
   obtain rfl:k=x+2*e:= aC ;simp only[cj,b9,bR x e,bN];have:0<=e*e:=cz _;have e1:e*(2*x)=2*(e*x):=eC e 2 x;omega
  .obtain ⟨e,rfl⟩:∃ e,x=s+e:=⟨x-s,aC⟩
   obtain⟨f,hf⟩:∃ f,s=k+f:=⟨s-k,aC⟩
   obtain rfl:f=e:= aC ;subst hf;simp only[cj,b9,bR f k];have:0<=f*f:=cz _;omega
 have:=h.1;omega
def agW{a s x:Nat}(h:vF a s)(hx:0<x)(hs:s<=x)(hy:x<=pS a x):x=s:=by
 have h1:x<=a/x:=by unfold pS at hy;omega
 have h2:x*x<=a:=(dB hx).1 h1;have:=aiJ h h2;omega
def kF(a x:Nat):Nat->Nat
 | 0=>x
 |k+1=>pS a (kF a x k)
def aiK(a:Nat){s:Nat}(h:vF a s):s<=2^((iD a+1)/2):=by
 apply ck;intro iJ;have h1:(2^((iD a+1)/2))*(2^((iD a+1)/2))<=s*s:=dQ aC aC;rw[<-bH]at h1;have h2:=sC a;have h3:2^iD a<=2^((iD a+1)/2+(iD a+1)/2):=bY aE aC;have:=h.1;omega
def aiI{a x s:Nat}(h:vF a s)(ha:0<a)(hx:s<=x):∃ N,N<=x/\(∀ k,k<N->pS a (kF a x k)<kF a x k)/\kF a x N<=pS a (kF a x N)/\kF a x N=s/\∀ k,k<=N->s<=kF a x k/\kF a x k<=x:=by
 have hs:0<s:=by
  apply ck;intro h0;obtain rfl:s=0:= aC ;have:=h.2;omega
 have tS:∀ k,s<=kF a x k:=λk=>by
  induction k with
  |zero=>exact hx
  |succ k ih=>exact agX h aC 
 have hex:∃ k,k<x+1/\decide (kF a x k<=pS a (kF a x k))=true:=by
  apply ck;intro hc;have hd:∀ k,k<x+1->pS a (kF a x k)<kF a x k:=λk hk=>by
   apply ck;intro q;exact hc ⟨k,hk,bA aC⟩
  have hb:∀ k,k<=x+1->kF a x k+k<=x:=by
   intro k hk
   induction k with
   |zero=>exact bD _
   |succ k ih=>
    have:=ih aC;have:=hd k aC;show pS a (kF a x k)+(k+1)<=x;omega
  have:=hb (x+1) (bD _);omega
 obtain⟨N,n1,n2,n3⟩:=uB hex;have n2':=cQ n2;have iJ:∀ k,k<N->pS a (kF a x k)<kF a x k:=λk hk=>by
  have:=fG (n3 k hk);omega
 have hle:∀ k,k<=N->kF a x k<=x:=by
  intro k hk
  induction k with
  |zero=>exact bD _
  |succ k ih=>
   have:=ih aC;have:=iJ k aC;show pS a (kF a x k)<=x;omega
 have e:=agW h (by have:=tS N;omega) (tS N) n2';exact⟨N,aC,iJ,n2',e,λk hk=>⟨tS k,hle k hk⟩⟩
def vS(m s:Nat)(e:Int)(p:Nat)(up:Bool):Dy:=ku false s e (decide (s*s≠m)) p up
def An(m s:Nat)(e:Int)(p:Nat)(up:Bool):Int:=j9 false s e (decide (s*s≠m)) p up
def aj0{m s:Nat}{e:Int}{p:Nat}(h:vF m s)(hb:p<iD s)(hp:1<=p)(iw:p<=4096)(he:An m s e p false=0):0<=(vS m s e p false).q/\(vS m s e p false).q<=(s:Rat)*P2 e:=by
 unfold vS An at *
 by_cases hx:s*s=m
 .rw [bB aC]at he ⊢;have A:=Ft false s e hp iw;rw[si]at A;simp only[bM,bE]at A;exact⟨(A.2 0 (.inl (Aw p)) (cr dr (bZ (oG e)))).2,(A.1 he).2⟩
 .rw [bA aC]at he ⊢;obtain⟨h1,h2⟩:=DF e hb false false;rw[h1];rw[h2]at he;have A:=Ft false (2*s+1) (e-1) hp iw;rw[si]at A;simp only[bM,bE]at A;have h0:=(A.2 0 (.inl (Aw p)) (cr dr (bZ (oG (e-1))))).2;obtain⟨g,hl⟩:=A.1 he;refine⟨h0,?_⟩;rcases Md (e:=e) hb (g.pos h0)with k|k
  .exact k
  .exfalso;have ee:P2 e=P2 (e-1)*2:=by
    have:=rq (e-1) 1;rw[(aC:e-1+1=e),show P2 1=2 by decide +kernel]at this;exact this
   have xo:=oG (e-1);have c1:((2*s+1:Nat):Rat)=2*(s:Rat)+1:=by rw[eG,dD];rfl
   have c2:((s+1:Nat):Rat)=(s:Rat)+1:=by rw[eG];rfl
   rw[c1]at hl;rw[c2,ee]at k
   grind
def ajZ{m s:Nat}{e:Int}{p:Nat}(h:vF m s)(hb:p<iD s)(hp:1<=p)(iw:p<=4096)(he:An m s e p true=0):0<=(vS m s e p true).q/\(m:Rat)*(P2 e*P2 e)<=(vS m s e p true).q*(vS m s e p true).q:=by
 have xo:=oG e;have s0:(0:Rat)<=(s:Rat):=dr;have key:∀ D:Rat,(s:Rat)*P2 e<=D->(s*s≠m->((s+1:Nat):Rat)*P2 e<=D)->0<=D/\(m:Rat)*(P2 e*P2 e)<=D*D:=by
  intro D h1 h2;have d0:0<=D:=bV (cr s0 (bZ xo)) h1;refine⟨d0,?_⟩;have sq:∀ t:Nat,m<=t*t->(t:Rat)*P2 e<=D->(m:Rat)*(P2 e*P2 e)<=D*D:=by
   intro t ht hD;have t0:(0:Rat)<=(t:Rat):=dr;have c:(m:Rat)<=(t:Rat)*(t:Rat):=by
    have:=dU.2 ht;rwa[dD]at this
   have m1:=cN c (cr (bZ xo) (bZ xo));have m2:=cN hD (cr t0 (bZ xo));have m3:=de hD d0;generalize (t:Rat)=T at *
   generalize P2 e=P at *
   have e1:T*T*(P*P)=T*P*(T*P):= aK 
   grind
  by_cases hx:s*s=m
  .exact sq s aC h1
  .exact sq (s+1) (by have:=h.2;omega) (h2 hx)
 unfold vS An at *
 by_cases hx:s*s=m
 .rw [bB aC]at he ⊢;have A:=Fu false s e hp iw;rw[si]at A;simp only[bM,bE]at A;exact key _ (A.1 he).2 (λq=>absurd hx q)
 .rw [bA aC]at he ⊢;obtain⟨h1,h2⟩:=DF e hb false true;rw[h1];rw[h2]at he;have A:=Fu false (2*s+1) (e-1) hp iw;rw[si]at A;simp only[bM,bE]at A;obtain⟨g,hl⟩:=A.1 he;have ee:P2 e=P2 (e-1)*2:=by
   have:=rq (e-1) 1;rw[(aC:e-1+1=e),show P2 1=2 by decide +kernel]at this;exact this
  have iB:=oG (e-1);have c1:((2*s+1:Nat):Rat)=2*(s:Rat)+1:=by rw[eG,dD];rfl
  rw[c1]at hl;have h0:0<=(ku false (2*s+1) (e-1) false p true).q:=bV (cr aK (bZ iB)) hl;have iJ:(s:Rat)*P2 e<(ku false (2*s+1) (e-1) false p true).q:=by rw[ee];grind
  refine key _ (bZ iJ) λ_=>?_
  rcases Md (e:=e) hb (g.pos h0)with k|k
  .exact absurd iJ (dV.2 k)
  .exact k
def aj1{a b:Rat}(ha:0<=a)(hb:0<=b)(h:a*a<=b*b):a<=b:=by
 apply dV.1;intro iJ;have m1:=de (bZ iJ) hb;have m2:=eH iJ (show 0<a by grind)
 grind
def aj2{m s n t:Nat}{e f:Int}{p:Nat}(h:vF m s)(k:vF n t)(hb:p<iD s)(kb:p<iD t)(hp:1<=p)(iw:p<=4096)(hle:(m:Rat)*(P2 e*P2 e)<=(n:Rat)*(P2 f*P2 f)):
 (mh (vS m s e p false) (An m s e p false) (vS n t f p true) (An n t f p true)).iy:=by
 unfold mh;split
 .exact mc
 .rename_i he;obtain⟨a0,a1⟩:=aj0 (e:=e) h hb hp iw aC;obtain⟨b0,b1⟩:=ajZ (e:=f) k kb hp iw aC;refine .inr ⟨rfl,sN _ _ _ _ _ _ hp iw,sN _ _ _ _ _ _ hp iw,?_⟩;rw[pA];refine aj1 a0 b0 ?_;have s0:(0:Rat)<=(s:Rat):=dr;have xo:=oG e;have m1:=de a1 a0;have m2:=cN a1 (cr s0 (bZ xo));have c:(s:Rat)*(s:Rat)<=(m:Rat):=by
   have:=dU.2 h.1;rwa[dD]at this
  have m3:=cN c (cr (bZ xo) (bZ xo));generalize (vS m s e p false).q=A at *
  generalize (s:Rat)=S at *
  generalize P2 e=P at *
  have e1:S*S*(P*P)=S*P*(S*P):= aK 
  grind
def VN(m N:Nat)(x:Nat):PS:=⟨43,true,[(5,.e (iu (im (kF m (2^((iD m+1)/2)) x)))),(0,.e (iu (im m)))],[]⟩
def VF(L M:List Nat)(hL:iY L)(hM:iY M)(h1:L.length<=3000)(h2:M.length<=3000):∃ S:List Nat,ik 262 [iu L,iu M] (iu S)/\val S=val L+val M/\iY S/\S.length=max L.length M.length+1:=by
 obtain⟨n,hn⟩:∃ n,n=max L.length M.length+1:=⟨_,rfl⟩
 have iJ:val L+val M<4294967296^n:=by
  have a:=oX hL;have b:=oX hM;have e:4294967296^n=4294967296^max L.length M.length*4294967296:=by rw[hn,bQ]
  have c:=bY (show 0<4294967296 by decide) (Nat.le_max_left L.length M.length);have d:=bY (show 0<4294967296 by decide) (Nat.le_max_right L.length M.length);omega
 refine⟨pq (val L+val M) n,?_,by rw[Ho,cH iJ],Fw _ _,by rw[AO,hn]⟩;refine GQ hL hM call262 (λA c B d w h k _=>VP A B c d L M w h k h1 h2) λB w e w' hB r=>?_
 obtain⟨S,v1,v2,v3,r⟩:=r;rw[LG v2 (by rw[v3,hn]) v1];exact rl B w e w' hB r
def agJ(L:List Nat)(n:Nat)(hL:iY L)(h1:L.length<=3000)(hn:n<=65536):∃ S:List Nat,ik 293 [iu L,iP (n:Int)] (iu S)/\val S=val L*2^n/\iY S:=by
 obtain⟨m,hm⟩:∃ m,m=n/32+(iT L).length+1:=⟨_,rfl⟩
 have iJ:val L*2^n<4294967296^m:=by
  have a:=oX hL.iT;rw[qv]at a;have e:4294967296^m=4294967296^(iT L).length*2^(32*(n/32+1)):=by
   rw[hm,(aC:n/32+(iT L).length+1=(iT L).length+(n/32+1)),bH,Nat.pow_mul]
  rw[e];exact Nat.mul_lt_mul_of_lt_of_le a (bY aE aC) (bJ aE)
 refine⟨pq (val L*2^n) m,?_,by rw[Ho,cH iJ],Fw _ _⟩;refine JW hL call293 (λA c w h _=>VQ A c L n w h aC hn) λA c B w e w' h hB r=>?_
 obtain⟨S,v1,v2,v3,r⟩:=r;rw[LG v2 (by rw[v3,hm]) v1];exact rl B w e w' hB r
def Al(L:List Nat):List Nat:=qX (1%32) ((iT L).drop (1/32))
def VL(L:List Nat)(hL:iY L)(h1:L.length<=3000):ik 232 [iu L,iP 1] (iu (Al L)):=
 JW (n:=((1:Nat):Int)) hL call232 (λA c w h _=>Ob A c L 1 w h aC aE) λA c B w e w' h hB r=>rl B w e w' hB r
def XR{L:List Nat}(hL:iY L):iT (Al L)=im (val L/2):=by
 unfold Al;rw[sG (By _ _),KF hL.iT,qv]
def V0(m x:Nat):pS m x<=max x (m/x):=by
 unfold pS;generalize m/x=q;omega
def U5(a b:Nat):(im (max a b)).length<=max (im a).length (im b).length:=by
 rcases Nat.le_total a b with h|h
 .rw [Nat.max_eq_right h];omega
 .rw [Nat.max_eq_left h];omega
def agC(m:Nat)(h:(im m).length<=256):ik 231 [iu (im m)] (.iE [iu (im m),iP 0]):=by
 have:=VH (im m) (nD m) (by rw[BU];exact h);rwa[BU]at this
def agL(m N:Nat)(h1:(im m).length<=256)(h0:m≠0)(qE:∀ k,k<N->pS m (kF m (2^((iD m+1)/2)) k)<(kF m (2^((iD m+1)/2)) k))(qc:(kF m (2^((iD m+1)/2)) N)<=pS m (kF m (2^((iD m+1)/2)) N))(kV:∀ k,k<=N->0<(kF m (2^((iD m+1)/2)) k)/\(kF m (2^((iD m+1)/2)) k)<=(2^((iD m+1)/2))):ik 387 [iu (im m)] (.iE [iu (im (kF m (2^((iD m+1)/2)) N)),iP 0]):=by
 have bm:=pn h0;have bl:=Fg h1;have z0:(im (2^((iD m+1)/2))).length<=256:=pQ (by rw[show(2^((iD m+1)/2))=1*2^((iD m+1)/2)by omega,sL aE];show 1+_<=_;omega);have hlen:∀ k,k<=N->(im (kF m (2^((iD m+1)/2)) k)).length<=256:=λk hk=>bI (nB (kV k hk).2) z0
 obtain⟨S0,Cg,sv,oS0⟩:=agJ (im 1) ((iD m+1)/2) (nD 1) aL aC;rw[lh,ct]at sv;have hS0:ik 263 [iu S0] (iu (im (2^((iD m+1)/2)))):=by
  have:=uE S0 oS0;rwa[sG oS0,sv]at this
 have zN:=hlen N aC;exact ak call387 func387 (af [.c (agE (im m) aD),ag [iu (im m)] (tf _ aC),ai 15 ((iD m:Int)==0) (pz aC),.o 16 (.e yO:aj (.sl false 1 1 λi_ j_=>[.v (.int .u32 1)].getD (i_*1+j_) (.v (.bool false))) (iu (im 1))),iL ((iD m:Int)+1) aC,.a (aC:0<(2:Int)),
  iL (((iD m)+1:Nat):Int) aC,ag [iu (im 1),iP ((((iD m)+1)/2:Nat):Int)] Cg,ag [iu S0] hS0,.s (Sp.kE (VN m N) 0 N aC (λx hx nd=>by
    obtain⟨xl,xu⟩:=kV x aC;obtain⟨Tq,Sq,sw,dT,dS,oT,oS,lT,lS⟩:=N8 (im m) (im (kF m (2^((iD m+1)/2)) x)) (nD m) (nD _) aC (by have:=hlen x aC;omega) (by rw[lh];omega);rw[lh,lh]at dT;have zx:=hlen x aC;have Mz:ik 263 [iu Tq] (iu (im (m/(kF m (2^((iD m+1)/2)) x)))):=by
     have:=uE Tq oT;rwa[sG oT,dT]at this
    have zt:(im (m/(kF m (2^((iD m+1)/2)) x))).length<=257:=bI (nB (cv _ _)) aC;obtain⟨Uq,hU,uv,oU,lU⟩:=VF (im (kF m (2^((iD m+1)/2)) x)) (im (m/(kF m (2^((iD m+1)/2)) x))) (nD _) (nD _) aC aC;rw[lh,lh]at uv;have hV:=VL Uq oU aC;have DQ:ik 263 [iu (Al Uq)] (iu (im (pS m (kF m (2^((iD m+1)/2)) x)))):=by
     have:=uE (Al Uq) (By _ _);rwa[XR oU,uv]at this
    have zn:(im (pS m (kF m (2^((iD m+1)/2)) x))).length<=257:=bI (nB (V0 m (kF m (2^((iD m+1)/2)) x))) (by have:=U5 (kF m (2^((iD m+1)/2)) x) (m/(kF m (2^((iD m+1)/2)) x));omega);exact jh (ae [ag [iu (im m),iu (im (kF m (2^((iD m+1)/2)) x))] sw,ag [iu Tq] Mz,ag [iu (im (kF m (2^((iD m+1)/2)) x)),iu (im (m/(kF m (2^((iD m+1)/2)) x)))] hU,ag [iu Uq,iP 1] hV,ag [iu (Al Uq)] DQ,ag [iu (im (pS m (kF m (2^((iD m+1)/2)) x))),iu (im (kF m (2^((iD m+1)/2)) x))] (z8 _ _ aC aC),tF 37 (0<=(lf (pS m (kF m (2^((iD m+1)/2)) x)) (kF m (2^((iD m+1)/2)) x))) (by have:=qE x aC;have:=DE.2 this;omega)]<|.e (af [.o 5 (.e (.jl rfl):aj (iu (im (pS m (kF m (2^((iD m+1)/2)) x)))) (iu (im (kF m (2^((iD m+1)/2)) (x+1)))))])) aF)
  (λhx=>by
    obtain⟨xl,xu⟩:=kV N aC;obtain⟨Tq,Sq,sw,dT,dS,oT,oS,lT,lS⟩:=N8 (im m) (im (kF m (2^((iD m+1)/2)) N)) (nD m) (nD _) aC (by have:=hlen N aC;omega) (by rw[lh];omega);rw[lh,lh]at dT;have zx:=hlen N aC;have Mz:ik 263 [iu Tq] (iu (im (m/(kF m (2^((iD m+1)/2)) N)))):=by
     have:=uE Tq oT;rwa[sG oT,dT]at this
    have zt:(im (m/(kF m (2^((iD m+1)/2)) N))).length<=257:=bI (nB (cv _ _)) aC;obtain⟨Uq,hU,uv,oU,lU⟩:=VF (im (kF m (2^((iD m+1)/2)) N)) (im (m/(kF m (2^((iD m+1)/2)) N))) (nD _) (nD _) aC aC;rw[lh,lh]at uv;have hV:=VL Uq oU aC;have DQ:ik 263 [iu (Al Uq)] (iu (im (pS m (kF m (2^((iD m+1)/2)) N)))):=by
     have:=uE (Al Uq) (By _ _);rwa[XR oU,uv]at this
    have zn:(im (pS m (kF m (2^((iD m+1)/2)) N))).length<=257:=bI (nB (V0 m (kF m (2^((iD m+1)/2)) N))) (by have:=U5 (kF m (2^((iD m+1)/2)) N) (m/(kF m (2^((iD m+1)/2)) N));omega);exact jh (af [ag [iu (im m),iu (im (kF m (2^((iD m+1)/2)) N))] sw,ag [iu Tq] Mz,ag [iu (im (kF m (2^((iD m+1)/2)) N)),iu (im (m/(kF m (2^((iD m+1)/2)) N)))] hU,ag [iu Uq,iP 1] hV,ag [iu (Al Uq)] DQ,ag [iu (im (pS m (kF m (2^((iD m+1)/2)) N))),iu (im (kF m (2^((iD m+1)/2)) N))] (z8 _ _ aC aC),tT 37 (0<=(lf (pS m (kF m (2^((iD m+1)/2)) N)) (kF m (2^((iD m+1)/2)) N))) (by have:=qc;have:¬lf (pS m (kF m (2^((iD m+1)/2)) N)) (kF m (2^((iD m+1)/2)) N)<0:=λq=>absurd (DE.1 q) aC;omega),ag [iu (im (kF m (2^((iD m+1)/2)) N))] (agC _ aC)]) aF) aI:kD 7 f387 (VN m N 0) .ret ⟨43,true,[(3,.e (iP 0)),(2,.e (iu (im (kF m (2^((iD m+1)/2)) N))))],[]⟩) (af [.o 5 (.e (.jl rfl):aj (iu (im (2^((iD m+1)/2)))) (iu (im (kF m (2^((iD m+1)/2)) 0))))])]) 
def VO(m s:Nat)(h1:(im m).length<=256)(h0:m≠0)(hr:vF m s):ik 387 [iu (im m)] (.iE [iu (im s),iP 0]):=by
 obtain⟨N,_,a,b,c,d⟩:=aiI hr (eE h0) (aiK m hr);have hs:0<s:=by
  apply ck;intro h;obtain rfl:s=0:= aC ;have:=hr.2;omega
 have:=agL m N h1 h0 a b λk hk=>⟨by have:=(d k hk).1;omega,(d k hk).2⟩
 rwa[c]at this
noncomputable def lX(m:Nat):Nat:=Classical.choose (WN m)
def C6(m:Nat):vF m (lX m):=dh (WN m)
def tn(d:Dy)(p:Nat):Nat:=if Int.tmod (d.e-((2*p+4-iD d.m:Nat):Int)) 2=0 then 2*p+4-iD d.m else 2*p+4-iD d.m+1
noncomputable def vV(d:Dy)(p:Nat)(up:Bool):Dy:=vS (d.m*2^tn d p) (lX (d.m*2^tn d p)) ((d.e-(tn d p:Int))/2) p up
noncomputable def vU(d:Dy)(p:Nat)(up:Bool):Int:=An (d.m*2^tn d p) (lX (d.m*2^tn d p)) ((d.e-(tn d p:Int))/2) p up
def Ko(d:Dy)(p:Nat):d.e-(tn d p:Int)=2*((d.e-(tn d p:Int))/2):=by
 have key:∀ x:Int,Int.tmod x 2=0↔x%2=0:=λx=>by rw[<-Int.dvd_iff_tmod_eq_zero,<-Int.dvd_iff_emod_eq_zero]
 have:(d.e-(tn d p:Int))%2=0:=by
  unfold tn;split
  .rename_i h;exact(key _).1 h
  .rename_i h;have h2:¬(d.e-((2*p+4-iD d.m:Nat):Int))%2=0:=λq=>h ((key _).2 q)
   clear h;omega
 omega
def X6(s:Nat):s<=s*s:=by
 by_cases h:s=0
 .subst h;exact cz _
 .exact gQ s (eE h)
def X8{d:Dy}(hn:d.neg=false)(K:Nat){E:Int}(h:d.e-(K:Int)=2*E):((d.m*2^K:Nat):Rat)*(P2 E*P2 E)=d.q:=by
 rw[rM,hn,bu aE,<-rq,dD,<-yY,fF,<-rq,show(K:Int)+(E+E)=d.e by omega]
def O6{m s p:Nat}(h:vF m s)(hm:2*p+4<=iD m):p<iD s:=by
 apply ck;intro hb;have h1:s<2^iD s:=sC s;have h2:2^iD s<=2^p:=bY aE aC;have h3:=dQ (aC:s+1<=2^p) (aC:s+1<=2^p);rw[<-bH]at h3;have h4:=h.2;have h5:iD m<=p+p:=mJ.2 (bX h4 h3);omega
def WO(m s:Nat):((lf (s*s) m) != 0)=decide (s*s≠m):=by
 unfold lf;generalize s*s=q;rcases Nat.lt_trichotomy q m with h|h|h
 .rw [bw h,bA aC];rfl
 .subst h;simp
 .rw [bu aC,bw h,bA aC];rfl
def ah5(d:Dy)(p:Nat)(up:Bool)(hd:d.iy)(hn:d.neg=false)(h0:d.m≠0)(iB:8<=p)(iw:p<=512)(qL:Int.tmod (d.e-((2*p+4-(iD d.m):Nat):Int)) 2=0):ik 355 [iA d,iP p,bP up] (.iE [iA (vV d p up),iP (vU d p up)]):=by
 have hl:=hd.im;have hx:=hd.exp;have hr:=hd.range.resolve_left h0;have bp:=pn h0;have hK:tn d p=(2*p+4-(iD d.m)):=by unfold tn;rw[bw qL]
 have he:=Ko d p;rw[hK]at he;have hb:=sL h0 (2*p+4-(iD d.m));have z1:(im (d.m*2^(2*p+4-(iD d.m)))).length<=256:=pQ aC;have tK:(d.m*2^(2*p+4-(iD d.m)))≠0:=dW h0 (eP (bJ aE));have oq:=C6 (d.m*2^(2*p+4-(iD d.m)));have Cv:=O6 oq (p:=p) aC;have z2:(im (lX (d.m*2^(2*p+4-(iD d.m)))*lX (d.m*2^(2*p+4-(iD d.m))))).length<=256:=bI (nB oq.1) z1;have z3:(im (lX (d.m*2^(2*p+4-(iD d.m))))).length<=256:=bI (nB (bI (X6 _) oq.1)) z1;have h00:lX (d.m*2^(2*p+4-(iD d.m)))≠0\/lX (d.m*2^(2*p+4-(iD d.m)))=0/\(d.e-((2*p+4-(iD d.m):Nat):Int))/2=0/\((lf (lX (d.m*2^(2*p+4-(iD d.m)))*lX (d.m*2^(2*p+4-(iD d.m)))) (d.m*2^(2*p+4-(iD d.m)))) != 0)=false:=.inl (λq=>by rw[q,sM]at Cv;omega);have sV:((lf (lX (d.m*2^(2*p+4-(iD d.m)))*lX (d.m*2^(2*p+4-(iD d.m)))) (d.m*2^(2*p+4-(iD d.m)))) != 0)=true->p<iD (lX (d.m*2^(2*p+4-(iD d.m)))):=λ_=>Cv
 exact ak call355 func355 (ae [.o 17 (.e (LM _):aj (.sl true 1 3 λi_ j_=>(iR d).getD (i_*3+j_) (.v (.bool false))) (nZ [d])),ag [iP p,nZ [d]] (OO _ _ aD aC aC),ah 20 ((0:Int)==0) aE,ai 23 d.neg hn,ai 26 ((0:Int) != 0) aE,ai 31 (((im d.m).length:Int)==0) (pz (q9 h0)),
  iL (2*(p:Int)) aC,iL (((2*p:Nat):Int)+4) aC,ag [iA d] (IE _ aD),iL ((((2*p)+4:Nat):Int)-(iD (Dy.m d):Int)) aC,.o 41 (aq (if((((2*p)+4:Nat):Int)-(iD (Dy.m d):Int))>0 then((((2*p)+4:Nat):Int)-(iD (Dy.m d):Int))else 0) ((2*p+4-(iD d.m):Nat):Int) aM),
  iL (d.e-((2*p+4-(iD d.m):Nat):Int)) aC,.a (aC:0<(2:Int)),ai 47 ((Int.tmod (d.e-((2*p+4-(iD d.m):Nat):Int)) 2) != 0) (by simpa using qL),.c (wO d.m (2*p+4-(iD d.m)) aC aC aC),ag [iu (im (d.m*2^(2*p+4-(iD d.m))))] (VO _ _ aC aD (C6 _)),ag [iu (im (lX (d.m*2^(2*p+4-(iD d.m))))),iu (im (lX (d.m*2^(2*p+4-(iD d.m)))))] (Ab _ _ aC aC aC),
  iL (d.e-((2*p+4-(iD d.m):Nat):Int)) aC,.a (aC:0<(2:Int)),iL (d.e-((2*p+4-(iD d.m):Nat):Int)) aC,.o 70 (aq (Int.tdiv (d.e-((2*p+4-(iD d.m):Nat):Int)) 2) ((d.e-((2*p+4-(iD d.m):Nat):Int))/2) (by generalize hy:(d.e-((2*p+4-(iD d.m):Nat):Int))/2=y at *;rw[he];exact anr _ aE)),ag [iu (im ((lX (d.m*2^(2*p+4-(iD d.m))))*(lX (d.m*2^(2*p+4-(iD d.m)))))),iu (im (d.m*2^(2*p+4-(iD d.m))))] (z8 _ _ aC aC),ag [.agg [iu (im (lX (d.m*2^(2*p+4-(iD d.m))))),iP ((d.e-((2*p+4-(iD d.m):Nat):Int))/2),bP ((lf ((lX (d.m*2^(2*p+4-(iD d.m))))*(lX (d.m*2^(2*p+4-(iD d.m))))) (d.m*2^(2*p+4-(iD d.m)))) != 0)],iP p,bP up] (EA _ _ _ _ _ aC aD aC aC aC aC aD)]<|rQ (.iE [iA (ku false (lX (d.m*2^(2*p+4-(iD d.m)))) ((d.e-((2*p+4-(iD d.m):Nat):Int))/2) ((lf ((lX (d.m*2^(2*p+4-(iD d.m))))*(lX (d.m*2^(2*p+4-(iD d.m))))) (d.m*2^(2*p+4-(iD d.m)))) != 0) p up),iP (j9 false (lX (d.m*2^(2*p+4-(iD d.m)))) ((d.e-((2*p+4-(iD d.m):Nat):Int))/2) ((lf ((lX (d.m*2^(2*p+4-(iD d.m))))*(lX (d.m*2^(2*p+4-(iD d.m))))) (d.m*2^(2*p+4-(iD d.m)))) != 0) p up)]) (.iE [iA (vV d p up),iP (vU d p up)]) (by unfold vV vU vS An;rw[hK,WO])) 
def ah6(d:Dy)(p:Nat)(up:Bool)(hd:d.iy)(hn:d.neg=false)(h0:d.m≠0)(iB:8<=p)(iw:p<=512)(qL:¬Int.tmod (d.e-((2*p+4-(iD d.m):Nat):Int)) 2=0):ik 355 [iA d,iP p,bP up] (.iE [iA (vV d p up),iP (vU d p up)]):=by
 have hl:=hd.im;have hx:=hd.exp;have hr:=hd.range.resolve_left h0;have bp:=pn h0;have hK:tn d p=((2*p+4-(iD d.m))+1):=by unfold tn;rw[bu qL]
 have he:=Ko d p;rw[hK]at he;have hb:=sL h0 ((2*p+4-(iD d.m))+1);have z1:(im (d.m*2^((2*p+4-(iD d.m))+1))).length<=256:=pQ aC;have tK:(d.m*2^((2*p+4-(iD d.m))+1))≠0:=dW h0 (eP (bJ aE));have oq:=C6 (d.m*2^((2*p+4-(iD d.m))+1));have Cv:=O6 oq (p:=p) aC;have z2:(im (lX (d.m*2^((2*p+4-(iD d.m))+1))*lX (d.m*2^((2*p+4-(iD d.m))+1)))).length<=256:=bI (nB oq.1) z1;have z3:(im (lX (d.m*2^((2*p+4-(iD d.m))+1)))).length<=256:=bI (nB (bI (X6 _) oq.1)) z1;have h00:lX (d.m*2^((2*p+4-(iD d.m))+1))≠0\/lX (d.m*2^((2*p+4-(iD d.m))+1))=0/\(d.e-(((2*p+4-(iD d.m))+1:Nat):Int))/2=0/\((lf (lX (d.m*2^((2*p+4-(iD d.m))+1))*lX (d.m*2^((2*p+4-(iD d.m))+1))) (d.m*2^((2*p+4-(iD d.m))+1))) != 0)=false:=.inl (λq=>by rw[q,sM]at Cv;omega);have sV:((lf (lX (d.m*2^((2*p+4-(iD d.m))+1))*lX (d.m*2^((2*p+4-(iD d.m))+1))) (d.m*2^((2*p+4-(iD d.m))+1))) != 0)=true->p<iD (lX (d.m*2^((2*p+4-(iD d.m))+1))):=λ_=>Cv
 exact ak call355 func355 (ae [.o 17 (.e (LM _):aj (.sl true 1 3 λi_ j_=>(iR d).getD (i_*3+j_) (.v (.bool false))) (nZ [d])),ag [iP p,nZ [d]] (OO _ _ aD aC aC),ah 20 ((0:Int)==0) aE,ai 23 d.neg hn,ai 26 ((0:Int) != 0) aE,ai 31 (((im d.m).length:Int)==0) (pz (q9 h0)),
  iL (2*(p:Int)) aC,iL (((2*p:Nat):Int)+4) aC,ag [iA d] (IE _ aD),iL ((((2*p)+4:Nat):Int)-(iD (Dy.m d):Int)) aC,.o 41 (aq (if((((2*p)+4:Nat):Int)-(iD (Dy.m d):Int))>0 then((((2*p)+4:Nat):Int)-(iD (Dy.m d):Int))else 0) ((2*p+4-(iD d.m):Nat):Int) aM),
  iL (d.e-((2*p+4-(iD d.m):Nat):Int)) aC,.a (aC:0<(2:Int)),ah 47 ((Int.tmod (d.e-((2*p+4-(iD d.m):Nat):Int)) 2) != 0) (by simpa using qL),
  iL (((2*p+4-(iD d.m):Nat):Int)+1) aC,.c (wO d.m ((2*p+4-(iD d.m))+1) aC aC aC),ag [iu (im (d.m*2^((2*p+4-(iD d.m))+1)))] (VO _ _ aC aD (C6 _)),ag [iu (im (lX (d.m*2^((2*p+4-(iD d.m))+1)))),iu (im (lX (d.m*2^((2*p+4-(iD d.m))+1))))] (Ab _ _ aC aC aC),
  iL (d.e-(((2*p+4-(iD d.m))+1:Nat):Int)) aC,.a (aC:0<(2:Int)),iL (d.e-(((2*p+4-(iD d.m))+1:Nat):Int)) aC,.o 70 (aq (Int.tdiv (d.e-(((2*p+4-(iD d.m))+1:Nat):Int)) 2) ((d.e-(((2*p+4-(iD d.m))+1:Nat):Int))/2) (by generalize hy:(d.e-(((2*p+4-(iD d.m))+1:Nat):Int))/2=y at *;rw[he];exact anr _ aE)),ag [iu (im ((lX (d.m*2^((2*p+4-(iD d.m))+1)))*(lX (d.m*2^((2*p+4-(iD d.m))+1))))),iu (im (d.m*2^((2*p+4-(iD d.m))+1)))] (z8 _ _ aC aC),ag [.agg [iu (im (lX (d.m*2^((2*p+4-(iD d.m))+1)))),iP ((d.e-(((2*p+4-(iD d.m))+1:Nat):Int))/2),bP ((lf ((lX (d.m*2^((2*p+4-(iD d.m))+1)))*(lX (d.m*2^((2*p+4-(iD d.m))+1)))) (d.m*2^((2*p+4-(iD d.m))+1))) != 0)],iP p,bP up] (EA _ _ _ _ _ aC aD aC aC aC aC aD)]<|rQ (.iE [iA (ku false (lX (d.m*2^((2*p+4-(iD d.m))+1))) ((d.e-(((2*p+4-(iD d.m))+1:Nat):Int))/2) ((lf ((lX (d.m*2^((2*p+4-(iD d.m))+1)))*(lX (d.m*2^((2*p+4-(iD d.m))+1)))) (d.m*2^((2*p+4-(iD d.m))+1))) != 0) p up),iP (j9 false (lX (d.m*2^((2*p+4-(iD d.m))+1))) ((d.e-(((2*p+4-(iD d.m))+1:Nat):Int))/2) ((lf ((lX (d.m*2^((2*p+4-(iD d.m))+1)))*(lX (d.m*2^((2*p+4-(iD d.m))+1)))) (d.m*2^((2*p+4-(iD d.m))+1))) != 0) p up)]) (.iE [iA (vV d p up),iP (vU d p up)]) (by unfold vV vU vS An;rw[hK,WO])) 
def WA(d:Dy)(p:Nat)(up:Bool)(hd:d.iy)(hn:d.neg=false)(h0:d.m≠0)(iB:8<=p)(iw:p<=512):ik 355 [iA d,iP p,bP up] (.iE [iA (vV d p up),iP (vU d p up)]):=by
 by_cases h:Int.tmod (d.e-((2*p+4-(iD d.m):Nat):Int)) 2=0
 .exact ah5 d p up hd hn h0 iB iw h
 .exact ah6 d p up hd hn h0 iB iw h
def ah3(d:Dy)(p:Nat)(hd:d.iy)(hn:d.neg=false)(h0:d.m≠0)(iB:8<=p)(iw:p<=512):ik 333 [iA d,iP p] (.iE [iA (vV d p false),iP (vU d p false)]):=
 ak call333 func333 (af [.c (WA d p false aD aD aD aC aC)]) 
def ah4(d:Dy)(p:Nat)(hd:d.iy)(hn:d.neg=false)(h0:d.m≠0)(iB:8<=p)(iw:p<=512):ik 334 [iA d,iP p] (.iE [iA (vV d p true),iP (vU d p true)]):=
 ak call334 func334 (af [.c (WA d p true aD aD aD aC aC)]) 
def afc(x:Iv)(p:Nat)(hx:x.iy)(iB:8<=p)(iw:p<=512)(xa:x.all=true):ik 319 [iz x,iP p] (iz ix):=
 ak call319 func319 (af [.o 10 (.e (lJ _):aj (.sl true 1 7 λi_ j_=>(iQ x).getD (i_*7+j_) (.v (.bool false))) (iq [x])),ag [iq [x]] (qi _ aD),ai 11 (!x.all) (by rw[xa];rfl),.c nW]) 
def afe(x:Iv)(p:Nat)(hx:x.iy)(iB:8<=p)(iw:p<=512)(xa:x.all=false)(h1:x.lo.jG<=0):ik 319 [iz x,iP p] (iz ix):=by
 obtain⟨w1,w2⟩:=hx.kr;exact ak call319 func319 (af [.o 10 (.e (lJ _):aj (.sl true 1 7 λi_ j_=>(iQ x).getD (i_*7+j_) (.v (.bool false))) (iq [x])),ag [iq [x]] (qi _ aD),ah 11 (!x.all) (by rw[xa];rfl),ag [iP p] (vG _),ah 15 (pT (p:Int)) (uI.2 ⟨aC,aC⟩),ag [iA x.lo] (pC _ aD),tB 22 (bA h1),.c nW]) 
def aff(x:Iv)(p:Nat)(hx:x.iy)(iB:8<=p)(iw:p<=512)(xa:x.all=false)(h1:¬x.lo.jG<=0)(n1:x.lo.neg=false)(n2:x.hi.neg=false)(m1:x.lo.m≠0)(m2:x.hi.m≠0):ik 319 [iz x,iP p] (iz (mh (vV x.lo p false) (vU x.lo p false) (vV x.hi p true) (vU x.hi p true))):=by
 obtain⟨w1,w2⟩:=hx.kr;exact ak call319 func319 (af [.o 10 (.e (lJ _):aj (.sl true 1 7 λi_ j_=>(iQ x).getD (i_*7+j_) (.v (.bool false))) (iq [x])),ag [iq [x]] (qi _ aD),ah 11 (!x.all) (by rw[xa];rfl),ag [iP p] (vG _),ah 15 (pT (p:Int)) (uI.2 ⟨aC,aC⟩),ag [iA x.lo] (pC _ aD),tB 22 (bB h1),.c (ah3 x.lo p aD aD aD aC aC),.c (ah4 x.hi p aD aD aD aC aC),.c (CF (vV x.lo p false) (vV x.hi p true) (vU x.lo p false) (vU x.hi p true))]) 
def Wj{d:Dy}(h:0<d.q):d.neg=false/\d.m≠0:=by
 have hm:d.m≠0:=λq=>by rw[rM,q]at h;simp at h
 refine⟨?_,hm⟩;cases hn:d.neg
 .rfl
 .rw [rM,hn,bw rfl]at h;have:=cr (show(0:Rat)<=(d.m:Rat)from dr) (bZ (oG d.e))
  grind
def X5{d:Dy}{p:Nat}(iB:8<=p)(h0:d.m≠0):p<iD (lX (d.m*2^tn d p)):=by
 refine O6 (C6 _) ?_;rw[sL h0];unfold tn;split<;>omega
def afd{x:Iv}(hx:x.iy){p:Nat}(iB:8<=p)(iw:p<=512):∃ Z,Z.iy/\ik 319 [iz x,iP (p:Int)] (iz Z):=by
 cases xa:x.all with
 |true=>exact⟨ix,mc,afc x p hx iB iw xa⟩
 |false=>
  by_cases h1:x.lo.jG<=0
  .exact ⟨ix,mc,afe x p hx iB iw xa h1⟩
  .have q1:0<x.lo.q:=(sF _).1.1 aC ;have q2:0<x.hi.q:=by have:=hx.q;grind
   obtain⟨n1,m1⟩:=Wj q1;obtain⟨n2,m2⟩:=Wj q2;refine⟨_,?_,aff x p hx iB iw xa h1 n1 n2 m1 m2⟩;refine aj2 (C6 _) (C6 _) (X5 iB m1) (X5 iB m2) aC aC ?_;rw[X8 n1 _ (Ko _ _),X8 n2 _ (Ko _ _)];exact hx.q
def kp(X b:Nat):Nat->Nat
 | 0=>2^b
 |k+1=>kp X b k*X/2^b/(k+1)
def Su{X b:Nat}(h:X<=2^(b+1))(t:Nat):t*X/2^b<=2*t:=by
 have hp:0<2^b:=bJ aE;have h1:t*X<=t*(2^b*2):=cW t (by rw[<-bQ];exact h);have h2:t*X/2^b<=t*(2^b*2)/2^b:=Nat.div_le_div_right h1;have h3:t*(2^b*2)/2^b=2*t:=by
  rw[show t*(2^b*2)=2^b*(2*t)by rw[eC,bR t 2]];exact ans _ hp
 omega
def FI{X b:Nat}(h:X<=2^(b+1)):∀ k,kp X b k<=2^(b+1)
 | 0=>by show 2^b<=2^(b+1);rw[bQ];omega
 | 1=>by
  show 2^b*X/2^b/1<=_;rw[fW,ans _ (bJ aE)];exact h
 |k+2=>by
  have ih:=FI h (k+1);have h1:=Su h (kp X b (k+1));show kp X b (k+1)*X/2^b/(k+2)<=_;have h2:kp X b (k+1)*X/2^b/(k+2)<=kp X b (k+1)*X/2^b/2:=amL aC aE;omega
def adf{X b:Nat}(h:X<=2^(b+1))(k:Nat)(hk:3<=k):kp X b (k+1)*2<=kp X b k:=by
 have h1:=Su h (kp X b k);have h2:kp X b (k+1)<=kp X b k*X/2^b/4:=amL aC aE;omega
def St{X b:Nat}(h:X<=2^(b+1)):∀ j,kp X b (3+j)*2^j<=2^(b+1)
 | 0=>by rw[cT,cI];exact FI h 3
 |j+1=>by
  have ih:=St h j;have h1:=adf h (3+j) aC;have h2:=bW (2^j) h1;rw[bQ,show kp X b (3+(j+1))*(2^j*2)=kp X b (3+j+1)*2*2^j by rw[bN,bR 2 (2^j)];rfl];omega
def adg{X b:Nat}(h:X<=2^(b+1)):∃ N,1<=N/\N<=b+5/\(∀ k,k<N->kp X b k≠0)/\kp X b N=0:=by
 have hz:kp X b (3+(b+2))=0:=by
  have h1:=St h (b+2);apply ck;intro kj;have h2:2^(b+2)<=kp X b (3+(b+2))*2^(b+2):=gQ _ (eE kj);have h3:2^(b+2)=2^(b+1)*2:=bQ (n:=2) (m:=b+1);have h4:0<2^(b+1):=bJ aE;omega
 obtain⟨N,n1,n2,n3⟩:=uB (p:=λk=>decide (kp X b k=0)) (n:=b+6) ⟨3+(b+2),aC,bA hz⟩;have n2':=cQ n2;refine⟨N,?_,aC,λk hk=>fG (n3 k hk),n2'⟩;rcases N with _|N
 .have:0<2^b:=bJ aE ;have e:2^b=0:=n2';omega
 .omega
def aec{f:Nat->Nat}{B:Nat}(h0:f 0<2^B)(h:∀ k,f (k+1)*2<=f k):∃ N,N<=B/\(∀ k,k<N->f k≠0)/\f N=0:=by
 have hp:∀ k,f k*2^k<=f 0:=by
  intro k
  induction k with
  |zero=>rw[cT,cI];exact bD _
  |succ k ih=>
   have:=bW (2^k) (h k);rw[bQ,show f (k+1)*(2^k*2)=f (k+1)*2*2^k by rw[bN,bR 2 (2^k)]];omega
 have hz:f B=0:=by
  apply ck;intro kj;have h2:2^B<=f B*2^B:=gQ _ (eE kj);have:=hp B;omega
 obtain⟨N,n1,n2,n3⟩:=uB (p:=λk=>decide (f k=0)) (n:=B+1) ⟨B,aC,bA hz⟩;exact⟨N,aC,λk hk=>fG (n3 k hk),cQ n2⟩
def jS(a b:Bool×Nat):Bool×Nat:=if a.1=b.1 then(a.1,a.2+b.2)else if a.2<b.2 then(b.1,b.2-a.2)else(a.1,a.2-b.2)
def pL(a:Bool×Nat):Int:=if a.1 then -(a.2:Int)else(a.2:Int)
def L7(a b:Bool×Nat):pL (jS a b)=pL a+pL b:=by
 obtain⟨s,m⟩:=a;obtain⟨t,n⟩:=b;unfold jS pL;cases s<;>cases t<;>simp<;>(try split)<;>(try simp)<;>omega
def xY(a b:Bool×Nat):(jS a b).2<=a.2+b.2:=by
 unfold jS;split
 .exact bD _
 .split
  .show b.2-a.2<=_;omega
  .show a.2-b.2<=_;omega
def AW(a:Bool×Nat)(b:Nat):Dy:=canon a.1 a.2 (-(b:Int))
def Ss(a:Bool×Nat)(b:Nat):(AW a b).q=(pL a:Rat)*P2 (-(b:Int)):=by
 unfold AW pL;rw[si];cases a.1
 .simp only[bM,bE];rw[eF]
 .simp only[bL];rw[amN,eF];grind
def IW(a:Bool×Nat):Bool×Nat:=jS a (true,16777216)
def IV(a:Bool×Nat):Bool×Nat:=jS a (false,16777216)
def tg(a:Bool×Nat)(b p:Nat):Iv:=mh (iM (AW (IW a) b) p false) (jP (AW (IW a) b) p false) (iM (AW (IV a) b) p true) (jP (AW (IV a) b) p true)
def agR(a:Bool×Nat)(b:Nat){p:Nat}(hp:1<=p)(iw:p<=4096):(tg a b p).iy:=by
 unfold tg mh;split
 .exact mc
 .rename_i he;have c1:(AW (IW a) b).nM:=tG _ _ _;have c2:(AW (IV a) b).nM:=tG _ _ _;have A:=xL c1 hp iw;have B:=xM c2 hp iw;refine .inr ⟨rfl,vQ _ hp iw _,vQ _ hp iw _,?_⟩;rw[pA];refine bV (A.1 aC).2 (bV ?_ (B.1 aC).2);rw[Ss,Ss,wI,gN];unfold IW IV;rw[L7,L7];simp[pL]
def AJ(m n:Nat)(h1:(im m).length<=256)(h2:n<=65536)(h3:(im (m*2^n)).length<=256):ik 379 [iu (im m),iP n] (iu (im (m*2^n))):=
 ak call379 func379 (af [ag [iu (im m),iP n] (VK _ _ aD aC aD)]) 
def wZ(m n:Nat)(h1:(im m).length<=256)(h2:n<=65536):ik 380 [iu (im m),iP n] (iu (im (m/2^n))):=
 ak call380 func380 (af [ag [iu (im m),iP n] (Oa _ _ aD aC)]) 
def Ll(m:Nat)(z:Int)(h1:(im m).length<=256)(h2:0<=z)(h3:z<=65536)(h4:(im (m*2^z.toNat)).length<=256):ik 379 [iu (im m),iP z] (iu (im (m*2^z.toNat))):=by
 have:=AJ m z.toNat h1 aC h4;rwa[show(z.toNat:Int)=z by omega]at this
def abe(m:Nat)(z:Int)(h1:(im m).length<=256)(h2:0<=z)(h3:z<=65536):ik 380 [iu (im m),iP z] (iu (im (m/2^z.toNat))):=by
 have:=wZ m z.toNat h1 aC;rwa[show(z.toNat:Int)=z by omega]at this
def lR{m k:Nat}(h:m<2^k)(hk:k<=8192):(im m).length<=256:=pQ (bI (mJ.2 h) hk)
def ua{n:Nat}(h:n<4294967296):(im n).length<=256:=lR (k:=32) h aE 
def aeW(n:Nat):(jo n).neg=false/\0<=(jo n).e/\(jo n).m*2^(jo n).e.toNat=n/\(jo n).m<=n:=by
 by_cases h:n=0
 .subst h;decide
 .have e1:(jo (n:Int))=canon false n 0:=CD n;have e2:canon false n 0=⟨false,n/2^jX n,(jX n:Int)⟩:=by unfold canon;rw[bu h];simp
  rw[e1,e2];refine⟨rfl,Int.natCast_nonneg _,?_,cv _ _⟩;show n/2^jX n*2^(jX n:Int).toNat=n;rw[gv];exact Fy h
def Ln(n:Nat)(h:n<4294967296):ik 381 [iP n] (.agg [bP false,iu (im n)]):=by
 obtain⟨p1,p2,p3,p4⟩:=aeW n;have hv:=Ee n h;have he:=hv.exp;have z1:=hv.im;have z2:(im ((jo n).m*2^(Int.toNat (jo n).e))).length<=256:=by rw[p3];exact ua h
 exact ak call381 func381 (ae [.c (Fb n aC),ag [iu (im ((jo (n:Int)).m)),iP ((jo (n:Int)).e)] (Ll _ _ aD aC aC aD)]<|rQ (.agg [bP ((jo (n:Int)).neg),iu (im (((jo (n:Int)).m)*2^(Int.toNat ((jo (n:Int)).e))))]) (.agg [bP false,iu (im n)]) (by rw[p1,p3])) 
def aav(m:Nat):((iD m:Int)==0)=decide (m=0):=by
 by_cases h:m=0
 .subst h;rw[sM];rfl
 .have:=pn h;rw[bB h];exact pz aC 
def DL(a:Bool×Nat)(ha:(im a.2).length<=256):ik 386 [.agg [bP a.1,iu (im a.2)]] (bP (decide (a.2=0))):=
 ak call386 func386 (ae [ag [iu (im a.2)] (tf _ aC)]<|rQ (bP ((iD a.2:Int)==0)) (bP (decide (a.2=0))) (by rw[aav])) 
def xd(a:Bool×Nat):ik 376 [.agg [bP a.1,iu (im a.2)]] (.agg [bP (!a.1),iu (im a.2)]):=
 ak call376 func376 (.nil) 
def ac1(a:Bool×Nat)(ha:(im a.2).length<=256)(b:Bool×Nat)(hb:(im b.2).length<=256)(h:a.1=b.1)(hs:(im (a.2+b.2)).length<=256):ik 385 [.agg [bP a.1,iu (im a.2)],.agg [bP b.1,iu (im b.2)]] (.agg [bP a.1,iu (im (a.2+b.2))]):=
 ak call385 func385 (af [ah 13 (a.1==b.1) (by rw[h];simp),ag [iu (im a.2),iu (im b.2)] (JG _ _ aD aD aD)]) 
def acZ(a:Bool×Nat)(ha:(im a.2).length<=256)(b:Bool×Nat)(hb:(im b.2).length<=256)(h:¬a.1=b.1)(h2:a.2<b.2):ik 385 [.agg [bP a.1,iu (im a.2)],.agg [bP b.1,iu (im b.2)]] (.agg [bP b.1,iu (im (b.2-a.2))]):=
 ak call385 func385 (af [ai 13 (a.1==b.1) (by simpa using h),ag [iu (im a.2),iu (im b.2)] (z8 _ _ aC aC),tT 31 ((lf a.2 b.2)<0) (DE.2 h2),ag [iu (im b.2),iu (im a.2)] (GD _ _ aD aD aC)]) 
def ac0(a:Bool×Nat)(ha:(im a.2).length<=256)(b:Bool×Nat)(hb:(im b.2).length<=256)(h:¬a.1=b.1)(h2:¬a.2<b.2):ik 385 [.agg [bP a.1,iu (im a.2)],.agg [bP b.1,iu (im b.2)]] (.agg [bP a.1,iu (im (a.2-b.2))]):=
 ak call385 func385 (af [ai 13 (a.1==b.1) (by simpa using h),ag [iu (im a.2),iu (im b.2)] (z8 _ _ aC aC),tF 31 ((lf a.2 b.2)<0) λq=>h2 (DE.1 q),ag [iu (im a.2),iu (im b.2)] (GD _ _ aD aD aC)]) 
def tJ(a:Bool×Nat)(ha:(im a.2).length<=256)(b:Bool×Nat)(hb:(im b.2).length<=256)(hs:(im (a.2+b.2)).length<=256):ik 385 [.agg [bP a.1,iu (im a.2)],.agg [bP b.1,iu (im b.2)]] (.agg [bP ((jS a b).1),iu (im ((jS a b).2))]):=by
 unfold jS;split
 .rename_i h;exact ac1 a ha b hb h hs
 .rename_i h;split
  .rename_i h2;exact acZ a ha b hb h h2
  .rename_i h2;exact ac0 a ha b hb h h2
def L6(a:Bool×Nat)(ha:(im a.2).length<=256)(c:Bool×Nat)(hc:(im c.2).length<=256)(b:Nat)(hb:b<=65536)(hm:(im (a.2*c.2)).length<=256):ik 382 [.agg [bP a.1,iu (im a.2)],.agg [bP c.1,iu (im c.2)],iP b] (.agg [bP (a.1 != c.1),iu (im (a.2*c.2/2^b))]):=
 ak call382 func382 (af [ag [iu (im a.2),iu (im c.2)] (Ab _ _ aD aD aD),.c (wZ (a.2*c.2) b aD aC)]) 
def FE(a:Bool×Nat)(ha:(im a.2).length<=256)(n:Nat)(h0:n≠0)(hn:n<4294967296):ik 388 [.agg [bP a.1,iu (im a.2)],iP n] (.agg [bP a.1,iu (im (a.2/n))]):=by
 have zn:(im n).length<=256:=ua hn;exact ak call388 func388 (af [.c (Ln n aC),ag [iu (im a.2),iu (im n)] (Aa _ _ aC aC aD)]) 
def rK(d:Dy)(b:Nat):Bool×Nat:=(d.neg,if d.e+(b:Int)<0 then d.m/2^(0-(d.e+(b:Int))).toNat else d.m*2^(d.e+(b:Int)).toNat)
def aaX(d:Dy)(hd:d.iy)(b:Nat)(hb:b<=30000)(h:d.e+(b:Int)<0):ik 384 [iA d,iP b] (.agg [bP ((rK d b).1),iu (im ((rK d b).2))]):=by
 have hx:=hd.exp;have z1:=hd.im;exact ak call384 func384 (ae [iL (d.e+(b:Int)) aC,tB 11 (bA h),iL (0-(d.e+(b:Int))) aC,ag [iu (im d.m),iP (0-(d.e+(b:Int)))] (abe _ _ aD aC aC)]<|rQ (.agg [bP d.neg,iu (im (d.m/2^(Int.toNat (0-(d.e+(b:Int))))))]) (.agg [bP ((rK d b).1),iu (im ((rK d b).2))]) (by unfold rK;rw[bw h])) 
def aaW(d:Dy)(hd:d.iy)(b:Nat)(hb:b<=30000)(h:¬d.e+(b:Int)<0)(hs:(im (d.m*2^(Int.toNat (d.e+(b:Int))))).length<=256):ik 384 [iA d,iP b] (.agg [bP ((rK d b).1),iu (im ((rK d b).2))]):=by
 have hx:=hd.exp;have z1:=hd.im;exact ak call384 func384 (ae [iL (d.e+(b:Int)) aC,tB 11 (bB h),iL (d.e+(b:Int)) aC,ag [iu (im d.m),iP (d.e+(b:Int))] (Ll _ _ aD aC aC aD)]<|rQ (.agg [bP d.neg,iu (im (d.m*2^(Int.toNat (d.e+(b:Int)))))]) (.agg [bP ((rK d b).1),iu (im ((rK d b).2))]) (by unfold rK;rw[bu h])) 
def JN{d:Dy}{b K:Nat}(h:d.iI+(b:Int)<=K):(rK d b).2<2^K:=by
 by_cases h0:d.m=0
 .have:(rK d b).2=0:=by unfold rK;simp only[h0];split<;>simp
  rw[this];exact bJ aE 
 .rw [Hn h0]at h;have hm:=sC d.m;unfold rK;simp only;split
  .rename_i hc;obtain⟨k,hk⟩:∃ k,k=(0-(d.e+(b:Int))).toNat:=⟨_,rfl⟩
   rw[<-hk];by_cases hb:iD d.m<=k
   .rw [dx (bX hm (bY aE hb))];exact bJ aE 
   .refine (cS (bJ aE)).2 (bX hm ?_);rw[<-bH];exact bY aE aC 
  .rename_i hc;obtain⟨k,hk⟩:∃ k,k=(d.e+(b:Int)).toNat:=⟨_,rfl⟩
   rw[<-hk];have:=dF hm (bJ (n:=k) (show 0<2 by decide));rw[<-bH]at this;exact bX this (bY aE aC)
def Lm(d:Dy)(hd:d.iy)(b K:Nat)(hb:b<=30000)(hK:K<=8192)(h:d.iI+(b:Int)<=K):ik 384 [iA d,iP (b:Int)] (.agg [bP ((rK d b).1),iu (im ((rK d b).2))]):=by
 by_cases hc:d.e+(b:Int)<0
 .exact aaX d hd b hb hc
 .refine aaW d hd b hb hc ?_;have:=JN h;unfold rK at this;rw[bu hc]at this;exact lR this hK
def mO(f:Nat->Nat):Nat->Bool×Nat
 | 0=>(false,f 0)
 |k+1=>jS (mO f k) (decide ((k+1)%2=1),f (k+1)/(2*(k+1)+1))
def Qi{f:Nat->Nat}(hf:∀ k,f (k+1)<=f k):∀ n,(n%2=0->pL (mO f n)<=f 0/\(f 0:Int)-(f 1/3:Nat)<=pL (mO f n)-(f (n+1)/(2*(n+1)+1):Nat))/\(n%2=1->(f 0:Int)-(f 1/3:Nat)<=pL (mO f n)/\pL (mO f n)+(f (n+1)/(2*(n+1)+1):Nat)<=f 0)
 | 0=>⟨λ_=>⟨by simp[mO,pL],by simp[mO,pL]⟩,λh=> aC⟩
 |n+1=>by
  obtain⟨e,o⟩:=Qi hf n;have hq:f (n+1+1)/(2*(n+1+1)+1)<=f (n+1)/(2*(n+1)+1):=Nat.div_le_div (hf (n+1)) aC aC;have hv:pL (mO f (n+1))=pL (mO f n)+pL (decide ((n+1)%2=1),f (n+1)/(2*(n+1)+1)):=L7 _ _;generalize f (n+1)/(2*(n+1)+1)=q1 at *
  generalize f (n+1+1)/(2*(n+1+1)+1)=q2 at *
  generalize f 1/3=q0 at *
  rcases ant n with h|h
  .obtain ⟨e1,e2⟩:=e h;rw[show decide ((n+1)%2=1)=true from bA aC]at hv;simp only[pL,bL]at hv;exact⟨λq=> aC,λ_=>⟨by unfold pL at *;omega,by unfold pL at *;omega⟩⟩
  .obtain ⟨e1,e2⟩:=o h;rw[show decide ((n+1)%2=1)=false from bB aC]at hv;simp only[pL,bM,bE]at hv;exact⟨λ_=>⟨by unfold pL at *;omega,by unfold pL at *;omega⟩,λq=> aC⟩
def K7{f:Nat->Nat}(hf:∀ k,f (k+1)<=f k)(n:Nat):(mO f n).2<=f 0/\f 0<=(mO f n).2+f 1/3:=by
 have ht:=Qi hf n;have h1:f 1/3<=f 0:=bI (cv _ _) (hf 0);have hb:(f 0:Int)-(f 1/3:Nat)<=pL (mO f n)/\pL (mO f n)<=f 0:=by
  rcases ant n with h|h
  .have:=ht.1 h;generalize f (n+1)/(2*(n+1)+1)=q at *
   omega
  .have:=ht.2 h;generalize f (n+1)/(2*(n+1)+1)=q at *
   omega
 generalize mO f n=s at *
 generalize f 1/3=q at *
 obtain⟨b,m⟩:=s;cases b
 .simp only[pL,bM,bE]at hb ⊢;omega
 .simp only[pL,bL]at hb ⊢;omega
def Ic{f:Nat->Nat}(hf:∀ k,f (k+1)<=f k):∀ k,f k<=f 0
 | 0=>bD _
 |k+1=>bI (hf k) (Ic hf k)
def Du{f:Nat->Nat}(hf:∀ k,f (k+1)<=f k){B:Nat}(hB:B<=8191)(hz:f 0<2^B)(k:Nat):(im (f k)).length<=256:=lR (cP (Ic hf k) hz) aC 
def Ie{f:Nat->Nat}(hf:∀ k,f (k+1)<=f k){B:Nat}(hB:B<=8191)(hz:f 0<2^B)(k:Nat):(im (mO f k).2).length<=256/\(im (f (k+1)/(2*(k+1)+1))).length<=256:=⟨lR (cP (K7 hf k).1 hz) aC,lR (cP (bI (cv _ _) (Ic hf (k+1))) hz) aC⟩
def Qj{f:Nat->Nat}(hf:∀ k,f (k+1)<=f k){B:Nat}(hB:B<=8191)(hz:f 0<2^B)(k:Nat):(im ((mO f k).2+f (k+1)/(2*(k+1)+1))).length<=256:=by
 have h1:=(K7 hf k).1;have h2:=bI (cv (f (k+1)) (2*(k+1)+1)) (Ic hf (k+1));refine lR (k:=B+1) ?_ aC;rw[bQ];omega
def sA(n b:Nat):Nat->Nat
 | 0=>1*2^b/n
 |k+1=>sA n b k/(n*n)
def Uk{n b:Nat}(hn:2<=n)(k:Nat):sA n b (k+1)*2<=sA n b k:=by
 show sA n b k/(n*n)*2<=_;have h1:sA n b k/(n*n)<=sA n b k/2:=amL (by have:=dQ hn hn;omega) aE;omega
def Nz(n b:Nat):sA n b 0<2^(b+1):=by
 show 1*2^b/n<_;rw[ct,bQ];have:=cv (2^b) n;have:0<2^b:=bJ aE;omega
def ae3{n b:Nat}(hn:2<=n):∃ N,N<=b+1/\(∀ k,k<N->sA n b (k+1)≠0)/\sA n b (N+1)=0:=by
 obtain⟨N,h1,h2,h3⟩:=aec (Nz n b) (Uk hn);rcases N with _|N
 .refine ⟨0,aC,λk hk=>absurd hk (bF _),?_⟩;have:=Uk (b:=b) hn 0;omega
 .exact ⟨N,aC,λk hk=>h2 (k+1) aC,h3⟩
def ahE{T x y f g:Nat}(hT:65536<=T)(hf:f=T/5)(Jt:x<=f)(vC:f<=x+f/(5*5)/3)(hy:y<=T/239)(hg:g=(jS (false,x*2^4) (true,y*2^2)).2):2<=g/\g<=T*4/\g/2<=T*2:=by
 have h16:(2:Nat)^4=16:=rfl;have h4:(2:Nat)^2=4:=rfl;have e:g=x*16-y*4:=by
  rw[hg,h16,h4];unfold jS;rw[bu (show ¬false=true from Bool.false_ne_true),bu (by show ¬x*16<y*4;omega)]
 omega
def Qh(f:Nat->Nat)(g:FuncId)(cap:List E)(N:Nat)(x:Nat):PS:=⟨30,true,[(6,.e (iP ((x+1:Nat):Int))),(5,.box 5 0),(4,.box 4 0),(2,.box 2 0),(1,.e (.fn g cap))],[(5,.cells 278 [bP ((mO f x).1),iu (im ((mO f x).2))]),(4,.cells 278 [bP false,.v (.slice none 0 0)]),(2,.cells 278 [bP false,iu (im (f x))])]⟩
def aaG(f:Nat->Nat)(g:FuncId)(cap:List E)(N:Nat)(hp:∀ k,k<=N->ik g ((.agg [bP false,iu (im (f k))])::cap) (.agg [bP false,iu (im (f (k+1)))]))(hf:∀ k,f (k+1)<=f k)(B:Nat)(hB:B<=8191)(hz:f 0<2^B)(h0:∀ k,k<N->f (k+1)≠0)(hN:f (N+1)=0)(sS:N<=100000):ik 390 [.agg [bP false,iu (im (f 0))],.fn g cap] (.agg [bP ((mO f N).1),iu (im ((mO f N).2))]):=by
 have z00:=Du hf hB hz 0;exact ak call390 func390 (af [.s (Sp.kE (Qh f g cap N) 0 N aC (λx hx nd=>by
    have z1:=Du hf hB hz (x+1);have z0:=Du hf hB hz x;have zs:=(Ie hf hB hz x).1;have zt:=(Ie hf hB hz x).2;have zu:=Qj hf hB hz x;exact jh (ae [.c (hp x aC:ik g ((.agg [bP false,iu (im (f x))])::cap) _),ag [.agg [bP false,iu (im (f (x+1)))]] (DL (false,(f (x+1))) aD),tF 15 ((f (x+1))=0) (h0 x aC),
     iL (2*((x+1:Nat):Int)) aC,iL (((2*(x+1):Nat):Int)+1) aC,ag [.agg [bP false,iu (im (f (x+1)))],iP (((2*(x+1))+1:Nat):Int)] (FE (false,(f (x+1))) aD ((2*(x+1))+1) aC aC),.a (aC:0<(2:Int))]<|.w ((x+1)%2=1)
     (λho=>ae [ah 24 ((((x+1)%2:Nat):Int)==1) (by rw[ho];rfl),ag [.agg [bP false,iu (im ((f (x+1))/((2*(x+1))+1)))]] (xd (false,((f (x+1))/((2*(x+1))+1)))),ag [.agg [bP ((mO f x).1),iu (im ((mO f x).2))],.agg [bP (!false),iu (im ((f (x+1))/((2*(x+1))+1)))]] (tJ (mO f x) aD ((!false),((f (x+1))/((2*(x+1))+1))) aD aD),
      iL (((x+1:Nat):Int)+1) aC]<|.e (af [.b 5 (.jl (by first|rfl|simp[mO,ho]):Bx.le (.cells 278 [bP ((jS (mO f x) ((!false),((f (x+1))/((2*(x+1))+1)))).1),iu (im ((jS (mO f x) ((!false),((f (x+1))/((2*(x+1))+1)))).2))]) (.cells 278 [bP ((mO f (x+1)).1),iu (im ((mO f (x+1)).2))]))]))
     (λho=>ae [ai 24 ((((x+1)%2:Nat):Int)==1) aN,ag [.agg [bP ((mO f x).1),iu (im ((mO f x).2))],.agg [bP false,iu (im ((f (x+1))/((2*(x+1))+1)))]] (tJ (mO f x) aD (false,((f (x+1))/((2*(x+1))+1))) aD aD),
      iL (((x+1:Nat):Int)+1) aC]<|.e (af [.b 5 (.jl (by first|rfl|simp[mO,ho]):Bx.le (.cells 278 [bP ((jS (mO f x) (false,((f (x+1))/((2*(x+1))+1)))).1),iu (im ((jS (mO f x) (false,((f (x+1))/((2*(x+1))+1)))).2))]) (.cells 278 [bP ((mO f (x+1)).1),iu (im ((mO f (x+1)).2))]))]))) aF)
  (λhx=>by
    have z1:=Du hf hB hz (N+1);have z0:=Du hf hB hz N;have zs:=(Ie hf hB hz N).1;have zt:=(Ie hf hB hz N).2;have zu:=Qj hf hB hz N;exact jh (af [.c (hp N aC:ik g ((.agg [bP false,iu (im (f N))])::cap) _),ag [.agg [bP false,iu (im (f (N+1)))]] (DL (false,(f (N+1))) aD),tB 15 (bA hN)]) aF) aI:kD 4 f390 (Qh f g cap N 0) .ret ⟨30,true,[(4,.box 4 0)],[(4,.cells 278 [bP ((mO f N).1),iu (im ((mO f N).2))])]⟩) (af [.o 6 (aq 1 ((0+1:Nat):Int) aP),.b 5 (.jl (by first|rfl|simp[mO,ho]):Bx.le (.cells 278 [bP false,iu (im (f 0))]) (.cells 278 [bP ((mO f 0).1),iu (im ((mO f 0).2))]))])]) 
def aaR(m n:Nat)(hm:(im m).length<=256)(se:n≠0)(hn:n<60000):ik 391 [.agg [bP false,iu (im m)],(.jC 1 λj_=>[iP n].getD j_ .any)] (.agg [bP false,iu (im (m/(n*n)))]):=by
 have hnn:n*n<3600000000:=anu hn hn;have hnz:n*n≠0:=dW se se;exact ak call391 func391 (af [iL ((n:Int)*(n:Int)) aC,ag [.agg [bP false,iu (im m)],iP ((n*n:Nat):Int)] (FE (false,m) aD (n*n) aC aC)]) 
def aaS(n b:Nat)(S:Bool×Nat)(se:n≠0)(hn:n<60000)(hb:b<=8000)(hS:ik 390 [.agg [bP false,iu (im (1*2^b/n))],.fn 391 [(.jC 1 λj_=>[iP n].getD j_ .any)]] (.agg [bP S.1,iu (im S.2)])):ik 389 [iP n,iP b] (.agg [bP S.1,iu (im S.2)]):=by
 have z0:(im 1).length<=256:=ua aE;have z1:(im (1*2^b)).length<=256:=lR (k:=b+1) (by rw[bQ,ct];have:0<2^b:=bJ aE;omega) aC;exact ak call389 func389 (af [.o 6 (.e yO:aj (.sl false 1 1 λi_ j_=>[.v (.int .u32 1)].getD (i_*1+j_) (.v (.bool false))) (iu (im 1))),.c (AJ 1 b aD aC aD),ag [.agg [bP false,iu (im (1*2^b))],iP n] (FE (false,(1*2^b)) aD n aC aC),ag [.agg [bP false,iu (im ((1*2^b)/n))],.fn 391 [(.jC 1 λj_=>[iP n].getD j_ .any)]] hS]) 
def QX(n b:Nat)(se:2<=n)(hn:n<60000)(hb:b<=8000):∃ S:Bool×Nat,S.2<=2^b/n/\2^b/n<=S.2+2^b/n/(n*n)/3/\ik 389 [iP (n:Int),iP (b:Int)] (.agg [bP S.1,iu (im S.2)]):=by
 obtain⟨N,h1,h2,h3⟩:=ae3 (b:=b) se;have hf:∀ k,sA n b (k+1)<=sA n b k:=λk=>cv _ _
 obtain⟨r1,r2⟩:=K7 hf N;have e0:sA n b 0=2^b/n:=by show 1*2^b/n=_;rw[ct]
 have e1:sA n b 1=2^b/n/(n*n):=by show sA n b 0/(n*n)=_;rw[e0]
 refine⟨mO (sA n b) N,by rw[<-e0];exact r1,by rw[<-e1,<-e0];exact r2,?_⟩;exact aaS n b _ aC hn hb (aaG (sA n b) 391 _ N (λk _=>aaR (sA n b k) n (Du hf (aC:b+1<=8191) (Nz n b) k) aC hn) hf (b+1) aC (Nz n b) h2 h3 aC)
def aaY(b:Nat)(x y:Bool×Nat)(zx:x.2<2^b)(zy:y.2<2^b)(hb:b<=8000)(hx:ik 389 [iP ((5:Nat):Int),iP (b:Int)] (.agg [bP x.1,iu (im x.2)]))(hy:ik 389 [iP ((239:Nat):Int),iP (b:Int)] (.agg [bP y.1,iu (im y.2)])):ik 378 [iP b] (.agg [bP ((jS (false,x.2*2^4) (true,y.2*2^2)).1),iu (im ((jS (false,x.2*2^4) (true,y.2*2^2)).2))]):=by
 have z1:(im x.2).length<=256:=lR zx aC;have z2:(im y.2).length<=256:=lR zy aC;have e5:2^(b+5)=2^b*32:=by rw[bH]
 have z3:(im (x.2*2^4)).length<=256:=lR (k:=b+5) aC aC;have z4:(im (y.2*2^2)).length<=256:=lR (k:=b+5) aC aC;have z5:(im (x.2*2^4+y.2*2^2)).length<=256:=lR (k:=b+5) aC aC;exact ak call378 func378 (af [ag [iP 5,iP b] hx,ag [iP 239,iP b] hy,.c (AJ x.2 4 aD aC aD),.c (AJ y.2 2 aD aC aD),ag [.agg [bP false,iu (im (x.2*2^4))],.agg [bP true,iu (im (y.2*2^2))]] (tJ (false,(x.2*2^4)) aD (true,(y.2*2^2)) aD aD)]) 
def QY(b:Nat)(kR:16<=b)(hb:b<=8000):∃ c:Bool×Nat,2<=c.2/\c.2<=2^b*4/\c.2/2<=2^b*2/\ik 378 [iP (b:Int)] (.agg [bP c.1,iu (im c.2)]):=by
 obtain⟨x,x1,x2,hx⟩:=QX 5 b aE aE hb;obtain⟨y,y1,y2,hy⟩:=QX 239 b aE aE hb;have hT:65536<=2^b:=by have:=bY (show 0<2 by decide) kR;omega
 obtain⟨g1,g2,g3⟩:=ahE hT rfl x1 x2 y1 rfl;exact⟨_,g1,g2,g3,aaY b x y aC aC hb hx hy⟩
def YC(n:Nat)(h:n<4294967296):bits .and .u32 (n:Int) 3=((n%4:Nat):Int):=by
 have:=bits_and_u32_nat n 3 h aE;rw[show((3:Int))=((3:Nat):Int)from rfl,this];exact congrArg _ (anl n 2)
def aeO(k:Nat)(h:k<=3):bits .and .i64 (4-(k:Int)) 3=(((4-k)%4:Nat):Int):=by
 rcases(aC:k=0\/k=1\/k=2\/k=3)with rfl|rfl|rfl|rfl<;>decide
def ac2{x:Bool×Nat}{m:Nat}(h:m<=x.2):jS x (!x.1,m)=(x.1,x.2-m):=by
 unfold jS;rw[bu (by show ¬x.1 = !x.1;cases x.1<;>decide),bu (by show ¬x.2<m;omega)]
def aid(n:Nat):n%4<=3:= aC 
def aic(n:Nat):(4-n)%4<=3:= aC 
def aie{x:Bool×Nat}{H b t:Nat}(h0:1<=H)(hH:H<=2^(b+t+40)*2):(jS x (!x.1,x.2/H*H)).2/2^(t+40)<=2^(b+1):=by
 rw[ac2 (dC _ _)];show(x.2-x.2/H*H)/_<=_;have h1:x.2-x.2/H*H=x.2%H:=by
  have:=cV x.2 H;rw[bR H]at this;omega
 have h2:=bS x.2 (aC:0<H);rw[h1];refine Nat.div_le_of_le_mul (bI (dR h2) (bI hH (amH ?_)));rw[<-bH,(aC:t+40+(b+1)=b+t+40+1)];exact(bQ 2 (b+t+40)).symm
def lq(x:Bool×Nat):Nat->Bool
 | 0=>false
 |k+1=>(lq x k != x.1)
def jW(x:Bool×Nat)(b:Nat):Nat->(Bool×Nat)×(Bool×Nat)
 | 0=>((false,0),(false,1*2^b))
 |k+1=>if(k+1)%2=1 then(jS (jW x b k).1 ((if 2<=(k+1)%4 then !(lq x (k+1))else lq x (k+1)),kp x.2 b (k+1)),(jW x b k).2)
  else((jW x b k).1,jS (jW x b k).2 ((if 2<=(k+1)%4 then !(lq x (k+1))else lq x (k+1)),kp x.2 b (k+1)))
def XJ{x:Bool×Nat}{b:Nat}(h:x.2<=2^(b+1)):∀ k,(jW x b k).1.2<=(k+1)*2^(b+1)/\(jW x b k).2.2<=(k+1)*2^(b+1)
 | 0=>⟨cz _,by show 1*2^b<=_;have:=bQ (n:=2) (m:=b);omega⟩
 |k+1=>by
  obtain⟨h1,h2⟩:=XJ h k;have h3:=FI h (k+1);have h4:(k+1+1)*2^(b+1)=(k+1)*2^(b+1)+2^(b+1):=amK _ _;unfold jW;split
  .refine ⟨bI (xY _ _) ?_,by rw[h4];exact bI h2 (Nat.le_add_right _ _)⟩;rw[h4];exact Nat.add_le_add h1 h3
  .refine ⟨by rw[h4];exact bI h1 (Nat.le_add_right _ _),bI (xY _ _) ?_⟩;rw[h4];exact Nat.add_le_add h2 h3
def XK{x:Bool×Nat}{b:Nat}(h:x.2<=2^(b+1))(hb:b<=3000){k:Nat}(hk:k<=b+5):(jW x b k).1.2<2^(b+14)/\(jW x b k).2.2<2^(b+14):=by
 obtain⟨h1,h2⟩:=XJ h k;have h3:(k+1)*2^(b+1)<2^(b+14):=by
  rw[(aC:b+14=13+(b+1)),bH 2 13];exact dF aC (bJ aE)
 exact⟨cP h1 h3,cP h2 h3⟩
def ade{T:TypeId}:Bx.le (.cells T [bP false,.v (.slice none 0 0)]) (.cells T [bP false,iu (im 0)]):=
 .cells (λ_=>rfl) (.cons (.refl _) (.cons GF .nil))
structure Zi(x:Bool×Nat)(b k:Nat):Prop where
 t0:(im (kp x.2 b k)).length<=256
 t1:(im (kp x.2 b (k+1))).length<=256
 tm:(im (kp x.2 b k*x.2)).length<=256
 tq:(im (kp x.2 b k*x.2/2^b)).length<=256
 s0:(im (jW x b k).1.2).length<=256
 c0:(im (jW x b k).2.2).length<=256
 s1:(im ((jW x b k).1.2+kp x.2 b (k+1))).length<=256
 c1:(im ((jW x b k).2.2+kp x.2 b (k+1))).length<=256
def XI{x:Bool×Nat}{b:Nat}(h:x.2<=2^(b+1))(hb:b<=3000){k:Nat}(hk:k<=b+5):Zi x b k:=by
 have hp:(2:Nat)^(b+2)=2^(b+1)*2:=bQ _ _;have hq:(0:Nat)<2^(b+1):=bJ aE;have t0:=FI h k;have t1:=FI h (k+1);obtain⟨s,c⟩:=XK h hb hk;have hm:kp x.2 b k*x.2<2^(b+2+(b+2)):=by
  rw[bH];exact anu aC aC 
 have e14:(2:Nat)^(b+15)=2^(b+14)*2:=bQ _ _;have e13:(2:Nat)^(b+1)<=2^(b+14):=bY aE aC;exact⟨lR (k:=b+2) aC aC,lR (k:=b+2) aC aC,lR hm aC,lR (cP (cv _ _) hm) aC,
  lR s aC,lR c aC,lR (k:=b+15) aC aC,lR (k:=b+15) aC aC⟩
def Vs{s:Bool}{m b:Nat}(h:m<2^4000)(hb:b<=8000):oz (canon s m (-(b:Int))):=by
 by_cases h0:m=0
 .subst h0;exact .inl rfl
 .have e:canon s m (-(b:Int))=⟨s,m/2^jX m,-(b:Int)+jX m⟩:=by unfold canon;rw[bu h0]
  have h1:iD m<=4000:=mJ.2 h;have h2:=wY (cv m (2^jX m));have h3:jX m<=4000:=by
   have:=JY h0;apply ck;intro hc;have:=bY (show 0<2 by decide) (aC:4000<=jX m);omega
  rw[e];exact .inr ⟨by show iD (m/2^jX m)<=4096;omega,by show -16384 <= -(b:Int)+jX m;omega,by show -(b:Int)+jX m<=16384;omega,by show(iD (m/2^jX m):Int)+(-(b:Int)+jX m)<=16384;omega⟩
def JZ{a b i j n:Nat}(ha:a<2^i)(hb:b<2^j)(hi:i<=n)(hj:j<=n):a+b<2^(n+1):=by
 have h1:=bY (show 0<2 by decide) hi;have h2:=bY (show 0<2 by decide) hj;have e:2^(n+1)=2^n*2:=bQ _ _;omega
def ac3{a b:Bool×Nat}{i j n:Nat}(ha:a.2<2^i)(hb:b.2<2^j)(hi:i<=n)(hj:j<=n):(jS a b).2<2^(n+1):=cP (xY _ _) (JZ ha hb hi hj)
def Vt{s:Bool}{m:Nat}{e:Int}(h:oz (canon s m e)):(canon s m e).iy:=⟨tG _ _ _,h⟩
def GU{m i k:Nat}(h:m<2^i)(hk:i<=k):m<2^k:=bX h (bY aE hk)
def qa(a c:Bool×Nat):Bool×Nat:=if a.1=true/\a.2%c.2≠0 then jS (a.1,a.2/c.2) (true,1)else(a.1,a.2/c.2)
def Sm(a c:Bool×Nat):(qa a c).2<=a.2/c.2+1:=by
 unfold qa;split
 .exact xY _ _
 .exact Nat.le_succ _
def ac7(a c:Bool×Nat):(qa a c).2*c.2<=a.2+c.2:=by
 refine bI (bW c.2 (Sm a c)) ?_;rw[amK];exact Nat.add_le_add_right (dC _ _) _
def Vg{lo hi:Dy}{e f:Int}(h:e≠0\/f≠0):mh lo e hi f=ix:=bw h
def agc{lo hi:Dy}{e f:Int}(h:e=0)(k:f=0):mh lo e hi f=⟨lo,hi,false⟩:=bu (by rw[h,k];decide)
def Xo(x:Bool×Nat)(b N:Nat)(i:Nat):PS:=⟨43,true,[(8,.e (iP ((i+1:Nat):Int))),(7,.box 7 0),(5,.box 5 0),(4,.box 4 0),(2,.box 2 0),(1,.e (iP b))],[(5,.cells 278 [bP (((jW x b i).2).1),iu (im (((jW x b i).2).2))]),(7,.cells 278 [bP (lq x i),iu (im (kp x.2 b i))]),(4,.cells 278 [bP (((jW x b i).1).1),iu (im (((jW x b i).1).2))]),(2,.cells 278 [bP x.1,iu (im x.2)])]⟩
def JB(n i:Nat):(im n).getD i 0<4294967296:=by
 by_cases h:i<(im n).length
 .rw [bC,bG h];exact nD n _ (cO h)
 .rw [bC,cE aC];decide
def abc(d:Dy)(b t m:Nat)(cp:Bool×Nat)(hd:d.iy)(ht:t=d.iI.toNat)(kR:16<=b)(oc:b<=2000)(sZ:t<=2000)(K:Nat)(hK:K<=6000)(zx:m<2^K)(zc:2<=cp.2)(zd:(im cp.2).length<=256)(rV:ik 378 [iP (((b+t)+40:Nat):Int)] (.agg [bP cp.1,iu (im cp.2)]))(vt:ik 384 [iA d,iP (((b+t)+40:Nat):Int)] (.agg [bP true,iu (im m)]))(hn:0<(im (m/(cp.2/2^1))).length):ik 374 [iA d,iP b] (.iE [.agg [bP ((jS (true,m) (false,((m/(cp.2/2^1))*(cp.2/2^1)))).1),iu (im ((jS (true,m) (false,((m/(cp.2/2^1))*(cp.2/2^1)))).2/2^(t+40)))],iP (((4-((im (m/(cp.2/2^1))).getD 0 0%4))%4:Nat):Int)]):=by
 have Nh:=Hm hd;have zX:(im m).length<=256:=lR zx aC;have zH:(im (cp.2/2^1)).length<=256:=bI (nB (cv _ _)) zd;have nH:(cp.2/2^1)≠0:= aC ;have mM:((m/(cp.2/2^1))*(cp.2/2^1))<=m:=dC _ _;have zN:(im (m/(cp.2/2^1))).length<=256:=bI (nB (cv _ _)) zX;have zM:(im ((m/(cp.2/2^1))*(cp.2/2^1))).length<=256:=bI (nB mM) zX;have zA:(im (m+((m/(cp.2/2^1))*(cp.2/2^1)))).length<=256:=lR (k:=K+1) (by have:=bQ 2 K;omega) aC;have zR:(im (jS (true,m) (false,((m/(cp.2/2^1))*(cp.2/2^1)))).2).length<=256:=bI (nB (xY _ _)) zA;have zm:(im (m%(cp.2/2^1))).length<=256:=bI (nB (fe _ _)) zX;have hg:(im (m/(cp.2/2^1))).getD 0 0<4294967296:=JB _ 0;have h4:(im (m/(cp.2/2^1))).getD 0 0%4<=3:= aC ;exact ak call374 func374 (af [ag [iA d] (pr _ aD),.o 19 (aq (if 0>(Dy.iI d)then 0 else(Dy.iI d)) t aM),iL ((b:Int)+t) aC,
  iL (((b+t:Nat):Int)+40) aC,ag [iP (((b+t)+40:Nat):Int)] rV,.c (wZ cp.2 1 aD aC),ag [iA d,iP (((b+t)+40:Nat):Int)] vt,ag [iu (im m),iu (im (cp.2/2^1))] (Aa _ _ aC aC aD),ag [iu (im (m/(cp.2/2^1))),iu (im (cp.2/2^1))] (Ab _ _ aD aD aD),ag [.agg [bP true,iu (im m)],.agg [bP false,iu (im ((m/(cp.2/2^1))*(cp.2/2^1)))]] (tJ (true,m) aD (false,((m/(cp.2/2^1))*(cp.2/2^1))) aD aD),tT 61 (0<((im (m/(cp.2/2^1))).length:Int)) aC,iX 0 ((im (m/(cp.2/2^1))).length) aC,.o 65 (.int (YC _ aC):aj (.v (.int .u32 (bits .and .u32 (((im (m/(cp.2/2^1))).getD 0 0:Nat):Int) 3))) (.v (.int .u32 ((((im (m/(cp.2/2^1))).getD 0 0)%4:Nat):Int)))),.o 66 (aq (IntKind.i64.wrap ((((im (m/(cp.2/2^1))).getD 0 0)%4:Nat):Int)) ((((im (m/(cp.2/2^1))).getD 0 0)%4:Nat):Int) (Uc _ aC)),
  iL (4-((((im (m/(cp.2/2^1))).getD 0 0)%4:Nat):Int)) aC,.o 71 (aq (bits .and .i64 (4-((((im (m/(cp.2/2^1))).getD 0 0)%4:Nat):Int)) 3) (((4-((im (m/(cp.2/2^1))).getD 0 0%4))%4:Nat):Int) (aeO _ aC)),
  iL ((t:Int)+40) aC,.c (wZ ((jS (true,m) (false,((m/(cp.2/2^1))*(cp.2/2^1)))).2) (t+40) aD aC)]) 
def aba(d:Dy)(b t m:Nat)(cp:Bool×Nat)(hd:d.iy)(ht:t=d.iI.toNat)(kR:16<=b)(oc:b<=2000)(sZ:t<=2000)(K:Nat)(hK:K<=6000)(zx:m<2^K)(zc:2<=cp.2)(zd:(im cp.2).length<=256)(rV:ik 378 [iP (((b+t)+40:Nat):Int)] (.agg [bP cp.1,iu (im cp.2)]))(vt:ik 384 [iA d,iP (((b+t)+40:Nat):Int)] (.agg [bP true,iu (im m)]))(hn:¬0<(im (m/(cp.2/2^1))).length):ik 374 [iA d,iP b] (.iE [.agg [bP ((jS (true,m) (false,((m/(cp.2/2^1))*(cp.2/2^1)))).1),iu (im ((jS (true,m) (false,((m/(cp.2/2^1))*(cp.2/2^1)))).2/2^(t+40)))],iP 0]):=by
 have Nh:=Hm hd;have zX:(im m).length<=256:=lR zx aC;have zH:(im (cp.2/2^1)).length<=256:=bI (nB (cv _ _)) zd;have nH:(cp.2/2^1)≠0:= aC ;have mM:((m/(cp.2/2^1))*(cp.2/2^1))<=m:=dC _ _;have zN:(im (m/(cp.2/2^1))).length<=256:=bI (nB (cv _ _)) zX;have zM:(im ((m/(cp.2/2^1))*(cp.2/2^1))).length<=256:=bI (nB mM) zX;have zA:(im (m+((m/(cp.2/2^1))*(cp.2/2^1)))).length<=256:=lR (k:=K+1) (by have:=bQ 2 K;omega) aC;have zR:(im (jS (true,m) (false,((m/(cp.2/2^1))*(cp.2/2^1)))).2).length<=256:=bI (nB (xY _ _)) zA;have zm:(im (m%(cp.2/2^1))).length<=256:=bI (nB (fe _ _)) zX;have hg:(im (m/(cp.2/2^1))).getD 0 0<4294967296:=JB _ 0;have h4:(im (m/(cp.2/2^1))).getD 0 0%4<=3:= aC ;exact ak call374 func374 (af [ag [iA d] (pr _ aD),.o 19 (aq (if 0>(Dy.iI d)then 0 else(Dy.iI d)) t aM),iL ((b:Int)+t) aC,
  iL (((b+t:Nat):Int)+40) aC,ag [iP (((b+t)+40:Nat):Int)] rV,.c (wZ cp.2 1 aD aC),ag [iA d,iP (((b+t)+40:Nat):Int)] vt,ag [iu (im m),iu (im (cp.2/2^1))] (Aa _ _ aC aC aD),ag [iu (im (m/(cp.2/2^1))),iu (im (cp.2/2^1))] (Ab _ _ aD aD aD),ag [.agg [bP true,iu (im m)],.agg [bP false,iu (im ((m/(cp.2/2^1))*(cp.2/2^1)))]] (tJ (true,m) aD (false,((m/(cp.2/2^1))*(cp.2/2^1))) aD aD),tF 61 (0<((im (m/(cp.2/2^1))).length:Int)) aC,iL (4-0) aC,.o 71 (aq (bits .and .i64 (4-0) 3) 0 aE),iL ((t:Int)+40) aC,.c (wZ ((jS (true,m) (false,((m/(cp.2/2^1))*(cp.2/2^1)))).2) (t+40) aD aC)]) 
def abd(d:Dy)(b t m:Nat)(cp:Bool×Nat)(hd:d.iy)(ht:t=d.iI.toNat)(kR:16<=b)(oc:b<=2000)(sZ:t<=2000)(K:Nat)(hK:K<=6000)(zx:m<2^K)(zc:2<=cp.2)(zd:(im cp.2).length<=256)(rV:ik 378 [iP (((b+t)+40:Nat):Int)] (.agg [bP cp.1,iu (im cp.2)]))(vt:ik 384 [iA d,iP (((b+t)+40:Nat):Int)] (.agg [bP false,iu (im m)]))(hn:0<(im (m/(cp.2/2^1))).length):ik 374 [iA d,iP b] (.iE [.agg [bP ((jS (false,m) (true,((m/(cp.2/2^1))*(cp.2/2^1)))).1),iu (im ((jS (false,m) (true,((m/(cp.2/2^1))*(cp.2/2^1)))).2/2^(t+40)))],iP (((im (m/(cp.2/2^1))).getD 0 0%4:Nat):Int)]):=by
 have Nh:=Hm hd;have zX:(im m).length<=256:=lR zx aC;have zH:(im (cp.2/2^1)).length<=256:=bI (nB (cv _ _)) zd;have nH:(cp.2/2^1)≠0:= aC ;have mM:((m/(cp.2/2^1))*(cp.2/2^1))<=m:=dC _ _;have zN:(im (m/(cp.2/2^1))).length<=256:=bI (nB (cv _ _)) zX;have zM:(im ((m/(cp.2/2^1))*(cp.2/2^1))).length<=256:=bI (nB mM) zX;have zA:(im (m+((m/(cp.2/2^1))*(cp.2/2^1)))).length<=256:=lR (k:=K+1) (by have:=bQ 2 K;omega) aC;have zR:(im (jS (false,m) (true,((m/(cp.2/2^1))*(cp.2/2^1)))).2).length<=256:=bI (nB (xY _ _)) zA;have zm:(im (m%(cp.2/2^1))).length<=256:=bI (nB (fe _ _)) zX;have hg:(im (m/(cp.2/2^1))).getD 0 0<4294967296:=JB _ 0;have h4:(im (m/(cp.2/2^1))).getD 0 0%4<=3:= aC ;exact ak call374 func374 (af [ag [iA d] (pr _ aD),.o 19 (aq (if 0>(Dy.iI d)then 0 else(Dy.iI d)) t aM),iL ((b:Int)+t) aC,
  iL (((b+t:Nat):Int)+40) aC,ag [iP (((b+t)+40:Nat):Int)] rV,.c (wZ cp.2 1 aD aC),ag [iA d,iP (((b+t)+40:Nat):Int)] vt,ag [iu (im m),iu (im (cp.2/2^1))] (Aa _ _ aC aC aD),ag [iu (im (m/(cp.2/2^1))),iu (im (cp.2/2^1))] (Ab _ _ aD aD aD),ag [.agg [bP false,iu (im m)],.agg [bP true,iu (im ((m/(cp.2/2^1))*(cp.2/2^1)))]] (tJ (false,m) aD (true,((m/(cp.2/2^1))*(cp.2/2^1))) aD aD),tT 61 (0<((im (m/(cp.2/2^1))).length:Int)) aC,iX 0 ((im (m/(cp.2/2^1))).length) aC,.o 65 (.int (YC _ aC):aj (.v (.int .u32 (bits .and .u32 (((im (m/(cp.2/2^1))).getD 0 0:Nat):Int) 3))) (.v (.int .u32 ((((im (m/(cp.2/2^1))).getD 0 0)%4:Nat):Int)))),.o 66 (aq (IntKind.i64.wrap ((((im (m/(cp.2/2^1))).getD 0 0)%4:Nat):Int)) ((((im (m/(cp.2/2^1))).getD 0 0)%4:Nat):Int) (Uc _ aC)),
  iL ((t:Int)+40) aC,.c (wZ ((jS (false,m) (true,((m/(cp.2/2^1))*(cp.2/2^1)))).2) (t+40) aD aC)]) 
def abb(d:Dy)(b t m:Nat)(cp:Bool×Nat)(hd:d.iy)(ht:t=d.iI.toNat)(kR:16<=b)(oc:b<=2000)(sZ:t<=2000)(K:Nat)(hK:K<=6000)(zx:m<2^K)(zc:2<=cp.2)(zd:(im cp.2).length<=256)(rV:ik 378 [iP (((b+t)+40:Nat):Int)] (.agg [bP cp.1,iu (im cp.2)]))(vt:ik 384 [iA d,iP (((b+t)+40:Nat):Int)] (.agg [bP false,iu (im m)]))(hn:¬0<(im (m/(cp.2/2^1))).length):ik 374 [iA d,iP b] (.iE [.agg [bP ((jS (false,m) (true,((m/(cp.2/2^1))*(cp.2/2^1)))).1),iu (im ((jS (false,m) (true,((m/(cp.2/2^1))*(cp.2/2^1)))).2/2^(t+40)))],iP 0]):=by
 have Nh:=Hm hd;have zX:(im m).length<=256:=lR zx aC;have zH:(im (cp.2/2^1)).length<=256:=bI (nB (cv _ _)) zd;have nH:(cp.2/2^1)≠0:= aC ;have mM:((m/(cp.2/2^1))*(cp.2/2^1))<=m:=dC _ _;have zN:(im (m/(cp.2/2^1))).length<=256:=bI (nB (cv _ _)) zX;have zM:(im ((m/(cp.2/2^1))*(cp.2/2^1))).length<=256:=bI (nB mM) zX;have zA:(im (m+((m/(cp.2/2^1))*(cp.2/2^1)))).length<=256:=lR (k:=K+1) (by have:=bQ 2 K;omega) aC;have zR:(im (jS (false,m) (true,((m/(cp.2/2^1))*(cp.2/2^1)))).2).length<=256:=bI (nB (xY _ _)) zA;have zm:(im (m%(cp.2/2^1))).length<=256:=bI (nB (fe _ _)) zX;have hg:(im (m/(cp.2/2^1))).getD 0 0<4294967296:=JB _ 0;have h4:(im (m/(cp.2/2^1))).getD 0 0%4<=3:= aC ;exact ak call374 func374 (af [ag [iA d] (pr _ aD),.o 19 (aq (if 0>(Dy.iI d)then 0 else(Dy.iI d)) t aM),iL ((b:Int)+t) aC,
  iL (((b+t:Nat):Int)+40) aC,ag [iP (((b+t)+40:Nat):Int)] rV,.c (wZ cp.2 1 aD aC),ag [iA d,iP (((b+t)+40:Nat):Int)] vt,ag [iu (im m),iu (im (cp.2/2^1))] (Aa _ _ aC aC aD),ag [iu (im (m/(cp.2/2^1))),iu (im (cp.2/2^1))] (Ab _ _ aD aD aD),ag [.agg [bP false,iu (im m)],.agg [bP true,iu (im ((m/(cp.2/2^1))*(cp.2/2^1)))]] (tJ (false,m) aD (true,((m/(cp.2/2^1))*(cp.2/2^1))) aD aD),tF 61 (0<((im (m/(cp.2/2^1))).length:Int)) aC,iL ((t:Int)+40) aC,.c (wZ ((jS (false,m) (true,((m/(cp.2/2^1))*(cp.2/2^1)))).2) (t+40) aD aC)]) 
def aa9(d:Dy)(b:Nat)(hd:d.iy)(kR:16<=b)(oc:b<=1000)(ht:d.iI<=100):∃ (r:Bool×Nat) (k:Nat),r.2<=2^(b+1)/\k<=3/\ik 374 [iA d,iP (b:Int)] (.iE [.agg [bP r.1,iu (im r.2)],iP (k:Int)]):=by
 obtain⟨t,sZ⟩:∃ t,t=d.iI.toNat:=⟨_,rfl⟩
 obtain⟨cp,c1,c2,c3,rV⟩:=QY (b+t+40) aC aC;have vt:=Lm d hd (b+t+40) 6000 aC aE aC;have iJ:=JN (d:=d) (b:=b+t+40) (K:=6000) aC;generalize rK d (b+t+40)=x at vt iJ;have hp:(2:Nat)^(b+t+40+3)=2^(b+t+40)*8:=by rw[bH]
 have zd:(im cp.2).length<=256:=lR (k:=b+t+40+3) (by have:0<2^(b+t+40):=bJ aE;omega) aC;obtain⟨sg,m⟩:=x;have hle:=aie (x:=(sg,m)) (H:=cp.2/2^1) (b:=b) (t:=t) aC c3;by_cases hn:0<(im (m/(cp.2/2^1))).length
 .cases sg with
  |false=>exact⟨((jS (false,m) (true,m/(cp.2/2^1)*(cp.2/2^1))).1,(jS (false,m) (true,m/(cp.2/2^1)*(cp.2/2^1))).2/2^(t+40)),_,hle,aid _,abd d b t m cp hd sZ kR aC aC 6000 aE iJ c1 zd rV vt hn⟩
  |true=>exact⟨((jS (true,m) (false,m/(cp.2/2^1)*(cp.2/2^1))).1,(jS (true,m) (false,m/(cp.2/2^1)*(cp.2/2^1))).2/2^(t+40)),_,hle,aic _,abc d b t m cp hd sZ kR aC aC 6000 aE iJ c1 zd rV vt hn⟩
 .cases sg with
  |false=>exact⟨((jS (false,m) (true,m/(cp.2/2^1)*(cp.2/2^1))).1,(jS (false,m) (true,m/(cp.2/2^1)*(cp.2/2^1))).2/2^(t+40)),_,hle,cz 3,abb d b t m cp hd sZ kR aC aC 6000 aE iJ c1 zd rV vt hn⟩
  |true=>exact⟨((jS (true,m) (false,m/(cp.2/2^1)*(cp.2/2^1))).1,(jS (true,m) (false,m/(cp.2/2^1)*(cp.2/2^1))).2/2^(t+40)),_,hle,cz 3,aba d b t m cp hd sZ kR aC aC 6000 aE iJ c1 zd rV vt hn⟩
def abf(x:Bool×Nat)(b N:Nat)(vC:x.2<=2^(b+1))(hb:b<=3000)(sS:N<=b+4)(h0:∀ k,k<N+1->kp x.2 b k≠0)(hN:kp x.2 b (N+1)=0):ik 375 [.agg [bP x.1,iu (im x.2)],iP b] (.iE [.agg [bP (((jW x b N).1).1),iu (im (((jW x b N).1).2))],.agg [bP (((jW x b N).2).1),iu (im (((jW x b N).2).2))]]):=by
 have zx:(im x.2).length<=256:=lR (k:=b+2) (by have e:2^(b+2)=2^(b+1)*2:=bQ _ _;have:0<2^(b+1):=bJ aE;omega) aC;have z0:(im 1).length<=256:=ua aE;have z1:(im (1*2^b)).length<=256:=lR (k:=b+1) (by rw[bQ,ct];have:0<2^b:=bJ aE;omega) aC;exact ak call375 func375 (af [.o 10 (.e yO:aj (.sl false 1 1 λi_ j_=>[.v (.int .u32 1)].getD (i_*1+j_) (.v (.bool false))) (iu (im 1))),.c (AJ 1 b aD aC aD),.s (Sp.kE (Xo x b N) 0 N aC (λi hi rF=>by
    have SF:=XI vC hb (k:=i) aC;obtain⟨f0,f1,f2,f3,f4,f5,f6,f7⟩:=SF;exact jh (ae [ag [.agg [bP (lq x i),iu (im (kp x.2 b i))],.agg [bP x.1,iu (im x.2)],iP b] (L6 ((lq x i),(kp x.2 b i)) aD x aD _ aC aD),ag [.agg [bP ((lq x i) != x.1),iu (im ((kp x.2 b i)*x.2/2^b))],iP ((i+1:Nat):Int)] (FE (((lq x i) != x.1),((kp x.2 b i)*x.2/2^b)) aD (i+1) aC aC),ag [.agg [bP (lq x (i+1)),iu (im (kp x.2 b (i+1)))]] (DL ((lq x (i+1)),(kp x.2 b (i+1))) aD),tF 25 ((kp x.2 b (i+1))=0) (h0 (i+1) aC),.a (aC:0<(4:Int))]<|.w (2<=(i+1)%4)
     (λh4=>ae [tT 31 (2<=(((i+1)%4:Nat):Int)) aC,ag [.agg [bP (lq x (i+1)),iu (im (kp x.2 b (i+1)))]] (xd ((lq x (i+1)),(kp x.2 b (i+1)))),.a (aC:0<(2:Int))]<|.w ((i+1)%2=1)
      (λho=>ae [ah 36 ((((i+1)%2:Nat):Int)==1) (by rw[ho];rfl),ag [.agg [bP (((jW x b i).1).1),iu (im (((jW x b i).1).2))],.agg [bP (!(lq x (i+1))),iu (im (kp x.2 b (i+1)))]] (tJ ((jW x b i).1) aD ((!(lq x (i+1))),(kp x.2 b (i+1))) aD aD),
       iL (((i+1:Nat):Int)+1) aC]<|.e (af [.b 5 (.jl (by first|rfl|simp[jW,lq,kp,ho,h4]|simp[jW,lq,kp]):Bx.le (.cells 278 [bP (((jW x b i).2).1),iu (im (((jW x b i).2).2))]) (.cells 278 [bP (((jW x b (i+1)).2).1),iu (im (((jW x b (i+1)).2).2))])),.b 4 (.jl (by first|rfl|simp[jW,lq,kp,ho,h4]|simp[jW,lq,kp]):Bx.le (.cells 278 [bP ((jS ((jW x b i).1) ((!(lq x (i+1))),(kp x.2 b (i+1)))).1),iu (im ((jS ((jW x b i).1) ((!(lq x (i+1))),(kp x.2 b (i+1)))).2))]) (.cells 278 [bP (((jW x b (i+1)).1).1),iu (im (((jW x b (i+1)).1).2))]))]))
      (λho=>ae [ai 36 ((((i+1)%2:Nat):Int)==1) aN,ag [.agg [bP (((jW x b i).2).1),iu (im (((jW x b i).2).2))],.agg [bP (!(lq x (i+1))),iu (im (kp x.2 b (i+1)))]] (tJ ((jW x b i).2) aD ((!(lq x (i+1))),(kp x.2 b (i+1))) aD aD),
       iL (((i+1:Nat):Int)+1) aC]<|.e (af [.b 5 (.jl (by first|rfl|simp[jW,lq,kp,ho,h4]|simp[jW,lq,kp]):Bx.le (.cells 278 [bP ((jS ((jW x b i).2) ((!(lq x (i+1))),(kp x.2 b (i+1)))).1),iu (im ((jS ((jW x b i).2) ((!(lq x (i+1))),(kp x.2 b (i+1)))).2))]) (.cells 278 [bP (((jW x b (i+1)).2).1),iu (im (((jW x b (i+1)).2).2))])),.b 4 (.jl (by first|rfl|simp[jW,lq,kp,ho,h4]|simp[jW,lq,kp]):Bx.le (.cells 278 [bP (((jW x b i).1).1),iu (im (((jW x b i).1).2))]) (.cells 278 [bP (((jW x b (i+1)).1).1),iu (im (((jW x b (i+1)).1).2))]))])))
     (λh4=>ae [tF 31 (2<=(((i+1)%4:Nat):Int)) aC,.a (aC:0<(2:Int))]<|.w ((i+1)%2=1)
      (λho=>ae [ah 36 ((((i+1)%2:Nat):Int)==1) (by rw[ho];rfl),ag [.agg [bP (((jW x b i).1).1),iu (im (((jW x b i).1).2))],.agg [bP (lq x (i+1)),iu (im (kp x.2 b (i+1)))]] (tJ ((jW x b i).1) aD ((lq x (i+1)),(kp x.2 b (i+1))) aD aD),
       iL (((i+1:Nat):Int)+1) aC]<|.e (af [.b 5 (.jl (by first|rfl|simp[jW,lq,kp,ho,h4]|simp[jW,lq,kp]):Bx.le (.cells 278 [bP (((jW x b i).2).1),iu (im (((jW x b i).2).2))]) (.cells 278 [bP (((jW x b (i+1)).2).1),iu (im (((jW x b (i+1)).2).2))])),.b 4 (.jl (by first|rfl|simp[jW,lq,kp,ho,h4]|simp[jW,lq,kp]):Bx.le (.cells 278 [bP ((jS ((jW x b i).1) ((lq x (i+1)),(kp x.2 b (i+1)))).1),iu (im ((jS ((jW x b i).1) ((lq x (i+1)),(kp x.2 b (i+1)))).2))]) (.cells 278 [bP (((jW x b (i+1)).1).1),iu (im (((jW x b (i+1)).1).2))]))]))
      (λho=>ae [ai 36 ((((i+1)%2:Nat):Int)==1) aN,ag [.agg [bP (((jW x b i).2).1),iu (im (((jW x b i).2).2))],.agg [bP (lq x (i+1)),iu (im (kp x.2 b (i+1)))]] (tJ ((jW x b i).2) aD ((lq x (i+1)),(kp x.2 b (i+1))) aD aD),
       iL (((i+1:Nat):Int)+1) aC]<|.e (af [.b 5 (.jl (by first|rfl|simp[jW,lq,kp,ho,h4]|simp[jW,lq,kp]):Bx.le (.cells 278 [bP ((jS ((jW x b i).2) ((lq x (i+1)),(kp x.2 b (i+1)))).1),iu (im ((jS ((jW x b i).2) ((lq x (i+1)),(kp x.2 b (i+1)))).2))]) (.cells 278 [bP (((jW x b (i+1)).2).1),iu (im (((jW x b (i+1)).2).2))])),.b 4 (.jl (by first|rfl|simp[jW,lq,kp,ho,h4]|simp[jW,lq,kp]):Bx.le (.cells 278 [bP (((jW x b i).1).1),iu (im (((jW x b i).1).2))]) (.cells 278 [bP (((jW x b (i+1)).1).1),iu (im (((jW x b (i+1)).1).2))]))])))) aF)
  (λhi=>by
    have SF:=XI vC hb (k:=N) aC;obtain⟨f0,f1,f2,f3,f4,f5,f6,f7⟩:=SF;exact jh (af [ag [.agg [bP (lq x N),iu (im (kp x.2 b N))],.agg [bP x.1,iu (im x.2)],iP b] (L6 ((lq x N),(kp x.2 b N)) aD x aD _ aC aD),ag [.agg [bP ((lq x N) != x.1),iu (im ((kp x.2 b N)*x.2/2^b))],iP ((N+1:Nat):Int)] (FE (((lq x N) != x.1),((kp x.2 b N)*x.2/2^b)) aD (N+1) aC aC),ag [.agg [bP (lq x (N+1)),iu (im (kp x.2 b (N+1)))]] (DL ((lq x (N+1)),(kp x.2 b (N+1))) aD),tB 25 (bA hN)]) aF) aI:kD 6 f375 (Xo x b N 0) .ret ⟨43,true,[(5,.box 5 0),(4,.box 4 0)],[(5,.cells 278 [bP (((jW x b N).2).1),iu (im (((jW x b N).2).2))]),(4,.cells 278 [bP (((jW x b N).1).1),iu (im (((jW x b N).1).2))])]⟩) (af [.o 8 (aq 1 ((0+1:Nat):Int) aP),.b 5 (.jl (by first|rfl|simp[jW,lq,kp,ho,h4]|simp[jW,lq,kp]):Bx.le (.cells 278 [bP false,iu (im (1*2^b))]) (.cells 278 [bP (((jW x b 0).2).1),iu (im (((jW x b 0).2).2))])),.b 7 (.jl (by first|rfl|simp[jW,lq,kp,ho,h4]|simp[jW,lq,kp]):Bx.le (.cells 278 [bP false,iu (im (1*2^b))]) (.cells 278 [bP (lq x 0),iu (im (kp x.2 b 0))])),.b 4 (ade:Bx.le (.cells 278 [bP false,.v (.slice none 0 0)]) (.cells 278 [bP (((jW x b 0).1).1),iu (im (((jW x b 0).1).2))]))])]) 
def abg(x:Bool×Nat)(b:Nat)(vC:x.2<=2^(b+1))(hb:b<=3000):∃ s c:Bool×Nat,s.2<2^(b+14)/\c.2<2^(b+14)/\ik 375 [.agg [bP x.1,iu (im x.2)],iP (b:Int)] (.iE [.agg [bP s.1,iu (im s.2)],.agg [bP c.1,iu (im c.2)]]):=by
 obtain⟨N,n1,n2,n3,n4⟩:=adg vC;obtain⟨M,rfl⟩:∃ M,N=M+1:=⟨N-1,aC⟩
 obtain⟨a1,a2⟩:=XK vC hb (k:=M) aC;exact⟨_,_,a1,a2,abf x b M vC hb aC n3 n4⟩
def AK(a:Bool×Nat)(b p:Nat)(ha:a.2<2^3000)(hb:b<=8000)(iB:8<=p)(iw:p<=512):ik 377 [.agg [bP a.1,iu (im a.2)],iP b,iP p] (iz (tg a b p)):=by
 have z1:(im 1).length<=256:=ua aE;have z2:(im (1*2^24)).length<=256:=ua aE;have z3:(im a.2).length<=256:=lR ha aE;have hs:=JZ (n:=3000) ha (show 1*2^24<2^25 by decide) aE aE;have z4:(im (a.2+1*2^24)).length<=256:=lR hs aE;have l1:=cP (show(jS a ((!false),(1*2^24))).2<=_ from xY _ _) hs;have l2:=cP (show(jS a (false,(1*2^24))).2<=_ from xY _ _) hs;have z5:(im (jS a ((!false),(1*2^24))).2).length<=256:=lR l1 aE;have z6:(im (jS a (false,(1*2^24))).2).length<=256:=lR l2 aE;have e3:(0-(b:Int)) = -(b:Int):=Int.zero_sub _;have r1:oz (canon (jS a ((!false),(1*2^24))).1 (jS a ((!false),(1*2^24))).2 (0-(b:Int))):=by rw[e3];exact Vs (GU (k:=4000) l1 aE) hb
 have r2:oz (canon (jS a (false,(1*2^24))).1 (jS a (false,(1*2^24))).2 (0-(b:Int))):=by rw[e3];exact Vs (GU (k:=4000) l2 aE) hb
 have v1:(canon (jS a ((!false),(1*2^24))).1 (jS a ((!false),(1*2^24))).2 (0-(b:Int))).iy:=Vt r1;have v2:(canon (jS a (false,(1*2^24))).1 (jS a (false,(1*2^24))).2 (0-(b:Int))).iy:=Vt r2;have hN:tg a b p=mh (iM (canon (jS a ((!false),(1*2^24))).1 (jS a ((!false),(1*2^24))).2 (0-(b:Int))) p false) (jP (canon (jS a ((!false),(1*2^24))).1 (jS a ((!false),(1*2^24))).2 (0-(b:Int))) p false) (iM (canon (jS a (false,(1*2^24))).1 (jS a (false,(1*2^24))).2 (0-(b:Int))) p true) (jP (canon (jS a (false,(1*2^24))).1 (jS a (false,(1*2^24))).2 (0-(b:Int))) p true):=by rw[e3];rfl
 exact ak call377 func377 (ae [.o 14 (.e yO:aj (.sl false 1 1 λi_ j_=>[.v (.int .u32 1)].getD (i_*1+j_) (.v (.bool false))) (iu (im 1))),.c (AJ 1 24 aD aC aD),ag [.agg [bP false,iu (im (1*2^24))]] (xd (false,(1*2^24))),ag [.agg [bP a.1,iu (im a.2)],.agg [bP (!false),iu (im (1*2^24))]] (tJ a aD ((!false),(1*2^24)) aD aD),ag [.agg [bP a.1,iu (im a.2)],.agg [bP false,iu (im (1*2^24))]] (tJ a aD (false,(1*2^24)) aD aD),iL (0-(b:Int)) aC,ag [bP ((jS a ((!false),(1*2^24))).1),iu (im ((jS a ((!false),(1*2^24))).2)),iP (0-(b:Int))] (B8 _ _ _ aD aC aC aD),
  iL (0-(b:Int)) aC,ag [bP ((jS a (false,(1*2^24))).1),iu (im ((jS a (false,(1*2^24))).2)),iP (0-(b:Int))] (B8 _ _ _ aD aC aC aD),ai 45 ((0:Int) != 0) aE,ai 48 ((0:Int) != 0) aE,.c (Ik (canon ((jS a (!false,(1*2^24))).1) ((jS a (!false,(1*2^24))).2) (0-(b:Int))) p aD aC aC),.c (Il (canon ((jS a (false,(1*2^24))).1) ((jS a (false,(1*2^24))).2) (0-(b:Int))) p aD aC aC)]<|.w ((jP (canon ((jS a ((!false),(1*2^24))).1) ((jS a ((!false),(1*2^24))).2) (0-(b:Int))) p false)=0)
  (λk1=>ae [tB 64 (bn k1)]<|.w ((jP (canon ((jS a (false,(1*2^24))).1) ((jS a (false,(1*2^24))).2) (0-(b:Int))) p true)=0)
   (λk2=>ae [tB 67 (bn k2)]<|rQ (iz (Iv.mk (iM (canon ((jS a ((!false),(1*2^24))).1) ((jS a ((!false),(1*2^24))).2) (0-(b:Int))) p false) (iM (canon ((jS a (false,(1*2^24))).1) ((jS a (false,(1*2^24))).2) (0-(b:Int))) p true) false)) (iz (tg a b p)) (by rw[hN,agc k1 k2]))
   (λk2=>ae [tB 67 (bt k2),.c nW]<|rQ (iz ix) (iz (tg a b p)) (by rw[hN,Vg (.inr k2)])))
  (λk1=>ae [tB 64 (bt k1),.c nW]<|rQ (iz ix) (iz (tg a b p)) (by rw[hN,Vg (.inl k1)]))) 
def aa7(d:Dy)(p:Nat)(hd:d.iy)(h0:d.jG=0)(iB:8<=p)(iw:p<=512):ik 353 [iA d,bP true,iP p] (iz (jI 1)):=by
 have hv:=s6 (n:=1) aE;exact ak call353 func353 (af [ag [iA d] (pC _ aD),ah 14 ((Dy.jG d)==0) (by rw[h0];rfl),ag [iP 1] (rT _ aC),.c (rZ (jo 1) aD)]) 
def aaZ(d:Dy)(p:Nat)(r s c:Bool×Nat)(hd:d.iy)(h0:d.jG≠0)(ql:ik 374 [iA d,iP ((p+64:Nat):Int)] (.iE [.agg [bP r.1,iu (im r.2)],iP 0]))(qm:ik 375 [.agg [bP r.1,iu (im r.2)],iP ((p+64:Nat):Int)] (.iE [.agg [bP s.1,iu (im s.2)],.agg [bP c.1,iu (im c.2)]]))(zs:s.2<2^3000)(zc:c.2<2^3000)(iB:8<=p)(iw:p<=512):ik 353 [iA d,bP true,iP p] (iz (tg c (p+64) p)):=by
 have zk:c.2<2^3000:=zc;exact ak call353 func353 (af [ag [iA d] (pC _ aD),ai 14 ((Dy.jG d)==0) (by simpa using h0),iL ((p:Int)+64) aC,ag [iA d,iP ((p+64:Nat):Int)] ql,ag [.agg [bP r.1,iu (im r.2)],iP ((p+64:Nat):Int)] qm,iL (0+1) aC,.a (aC:0<(4:Int)),.o 38 (aq (Int.tmod (0+1) 4) 1 aE),ah 40 ((1:Int)==1) aE,ag [.agg [bP c.1,iu (im c.2)],iP ((p+64:Nat):Int),iP p] (AK c _ _ aD aC aC aC)]) 
def aa0(d:Dy)(p:Nat)(r s c:Bool×Nat)(hd:d.iy)(h0:d.jG≠0)(ql:ik 374 [iA d,iP ((p+64:Nat):Int)] (.iE [.agg [bP r.1,iu (im r.2)],iP 1]))(qm:ik 375 [.agg [bP r.1,iu (im r.2)],iP ((p+64:Nat):Int)] (.iE [.agg [bP s.1,iu (im s.2)],.agg [bP c.1,iu (im c.2)]]))(zs:s.2<2^3000)(zc:c.2<2^3000)(iB:8<=p)(iw:p<=512):ik 353 [iA d,bP true,iP p] (iz (tg ((!s.1),s.2) (p+64) p)):=by
 have zk:((!s.1),s.2).2<2^3000:=zs;exact ak call353 func353 (af [ag [iA d] (pC _ aD),ai 14 ((Dy.jG d)==0) (by simpa using h0),iL ((p:Int)+64) aC,ag [iA d,iP ((p+64:Nat):Int)] ql,ag [.agg [bP r.1,iu (im r.2)],iP ((p+64:Nat):Int)] qm,iL (1+1) aC,.a (aC:0<(4:Int)),.o 38 (aq (Int.tmod (1+1) 4) 2 aE),ai 40 ((2:Int)==1) aE,ah 43 ((2:Int)==2) aE,ag [.agg [bP s.1,iu (im s.2)]] (xd (s.1,s.2)),ag [.agg [bP (!s.1),iu (im s.2)],iP ((p+64:Nat):Int),iP p] (AK ((!s.1),s.2) _ _ aD aC aC aC)]) 
def aa1(d:Dy)(p:Nat)(r s c:Bool×Nat)(hd:d.iy)(h0:d.jG≠0)(ql:ik 374 [iA d,iP ((p+64:Nat):Int)] (.iE [.agg [bP r.1,iu (im r.2)],iP 2]))(qm:ik 375 [.agg [bP r.1,iu (im r.2)],iP ((p+64:Nat):Int)] (.iE [.agg [bP s.1,iu (im s.2)],.agg [bP c.1,iu (im c.2)]]))(zs:s.2<2^3000)(zc:c.2<2^3000)(iB:8<=p)(iw:p<=512):ik 353 [iA d,bP true,iP p] (iz (tg ((!c.1),c.2) (p+64) p)):=by
 have zk:((!c.1),c.2).2<2^3000:=zc;exact ak call353 func353 (af [ag [iA d] (pC _ aD),ai 14 ((Dy.jG d)==0) (by simpa using h0),iL ((p:Int)+64) aC,ag [iA d,iP ((p+64:Nat):Int)] ql,ag [.agg [bP r.1,iu (im r.2)],iP ((p+64:Nat):Int)] qm,iL (2+1) aC,.a (aC:0<(4:Int)),.o 38 (aq (Int.tmod (2+1) 4) 3 aE),ai 40 ((3:Int)==1) aE,ai 43 ((3:Int)==2) aE,ah 47 ((3:Int)==3) aE,ag [.agg [bP c.1,iu (im c.2)]] (xd (c.1,c.2)),ag [.agg [bP (!c.1),iu (im c.2)],iP ((p+64:Nat):Int),iP p] (AK ((!c.1),c.2) _ _ aD aC aC aC)]) 
def aa2(d:Dy)(p:Nat)(r s c:Bool×Nat)(hd:d.iy)(h0:d.jG≠0)(ql:ik 374 [iA d,iP ((p+64:Nat):Int)] (.iE [.agg [bP r.1,iu (im r.2)],iP 3]))(qm:ik 375 [.agg [bP r.1,iu (im r.2)],iP ((p+64:Nat):Int)] (.iE [.agg [bP s.1,iu (im s.2)],.agg [bP c.1,iu (im c.2)]]))(zs:s.2<2^3000)(zc:c.2<2^3000)(iB:8<=p)(iw:p<=512):ik 353 [iA d,bP true,iP p] (iz (tg s (p+64) p)):=by
 have zk:s.2<2^3000:=zs;exact ak call353 func353 (af [ag [iA d] (pC _ aD),ai 14 ((Dy.jG d)==0) (by simpa using h0),iL ((p:Int)+64) aC,ag [iA d,iP ((p+64:Nat):Int)] ql,ag [.agg [bP r.1,iu (im r.2)],iP ((p+64:Nat):Int)] qm,iL (3+1) aC,.a (aC:0<(4:Int)),.o 38 (aq (Int.tmod (3+1) 4) 0 aE),ai 40 ((0:Int)==1) aE,ai 43 ((0:Int)==2) aE,ai 47 ((0:Int)==3) aE,ag [.agg [bP s.1,iu (im s.2)],iP ((p+64:Nat):Int),iP p] (AK s _ _ aD aC aC aC)]) 
def aa8(d:Dy)(p:Nat)(hd:d.iy)(h0:d.jG=0)(iB:8<=p)(iw:p<=512):ik 353 [iA d,bP false,iP p] (iz (jF d)):=
 ak call353 func353 (af [ag [iA d] (pC _ aD),ah 14 ((Dy.jG d)==0) (by rw[h0];rfl),.c (rZ d aD)]) 
def aa3(d:Dy)(p:Nat)(r s c:Bool×Nat)(hd:d.iy)(h0:d.jG≠0)(ql:ik 374 [iA d,iP ((p+64:Nat):Int)] (.iE [.agg [bP r.1,iu (im r.2)],iP 0]))(qm:ik 375 [.agg [bP r.1,iu (im r.2)],iP ((p+64:Nat):Int)] (.iE [.agg [bP s.1,iu (im s.2)],.agg [bP c.1,iu (im c.2)]]))(zs:s.2<2^3000)(zc:c.2<2^3000)(iB:8<=p)(iw:p<=512):ik 353 [iA d,bP false,iP p] (iz (tg s (p+64) p)):=by
 have zk:s.2<2^3000:=zs;exact ak call353 func353 (af [ag [iA d] (pC _ aD),ai 14 ((Dy.jG d)==0) (by simpa using h0),iL ((p:Int)+64) aC,ag [iA d,iP ((p+64:Nat):Int)] ql,ag [.agg [bP r.1,iu (im r.2)],iP ((p+64:Nat):Int)] qm,.a (aC:0<(4:Int)),.o 38 (aq (Int.tmod 0 4) 0 aE),ai 40 ((0:Int)==1) aE,ai 43 ((0:Int)==2) aE,ai 47 ((0:Int)==3) aE,ag [.agg [bP s.1,iu (im s.2)],iP ((p+64:Nat):Int),iP p] (AK s _ _ aD aC aC aC)]) 
def aa4(d:Dy)(p:Nat)(r s c:Bool×Nat)(hd:d.iy)(h0:d.jG≠0)(ql:ik 374 [iA d,iP ((p+64:Nat):Int)] (.iE [.agg [bP r.1,iu (im r.2)],iP 1]))(qm:ik 375 [.agg [bP r.1,iu (im r.2)],iP ((p+64:Nat):Int)] (.iE [.agg [bP s.1,iu (im s.2)],.agg [bP c.1,iu (im c.2)]]))(zs:s.2<2^3000)(zc:c.2<2^3000)(iB:8<=p)(iw:p<=512):ik 353 [iA d,bP false,iP p] (iz (tg c (p+64) p)):=by
 have zk:c.2<2^3000:=zc;exact ak call353 func353 (af [ag [iA d] (pC _ aD),ai 14 ((Dy.jG d)==0) (by simpa using h0),iL ((p:Int)+64) aC,ag [iA d,iP ((p+64:Nat):Int)] ql,ag [.agg [bP r.1,iu (im r.2)],iP ((p+64:Nat):Int)] qm,.a (aC:0<(4:Int)),.o 38 (aq (Int.tmod 1 4) 1 aE),ah 40 ((1:Int)==1) aE,ag [.agg [bP c.1,iu (im c.2)],iP ((p+64:Nat):Int),iP p] (AK c _ _ aD aC aC aC)]) 
def aa5(d:Dy)(p:Nat)(r s c:Bool×Nat)(hd:d.iy)(h0:d.jG≠0)(ql:ik 374 [iA d,iP ((p+64:Nat):Int)] (.iE [.agg [bP r.1,iu (im r.2)],iP 2]))(qm:ik 375 [.agg [bP r.1,iu (im r.2)],iP ((p+64:Nat):Int)] (.iE [.agg [bP s.1,iu (im s.2)],.agg [bP c.1,iu (im c.2)]]))(zs:s.2<2^3000)(zc:c.2<2^3000)(iB:8<=p)(iw:p<=512):ik 353 [iA d,bP false,iP p] (iz (tg ((!s.1),s.2) (p+64) p)):=by
 have zk:((!s.1),s.2).2<2^3000:=zs;exact ak call353 func353 (af [ag [iA d] (pC _ aD),ai 14 ((Dy.jG d)==0) (by simpa using h0),iL ((p:Int)+64) aC,ag [iA d,iP ((p+64:Nat):Int)] ql,ag [.agg [bP r.1,iu (im r.2)],iP ((p+64:Nat):Int)] qm,.a (aC:0<(4:Int)),.o 38 (aq (Int.tmod 2 4) 2 aE),ai 40 ((2:Int)==1) aE,ah 43 ((2:Int)==2) aE,ag [.agg [bP s.1,iu (im s.2)]] (xd (s.1,s.2)),ag [.agg [bP (!s.1),iu (im s.2)],iP ((p+64:Nat):Int),iP p] (AK ((!s.1),s.2) _ _ aD aC aC aC)]) 
def aa6(d:Dy)(p:Nat)(r s c:Bool×Nat)(hd:d.iy)(h0:d.jG≠0)(ql:ik 374 [iA d,iP ((p+64:Nat):Int)] (.iE [.agg [bP r.1,iu (im r.2)],iP 3]))(qm:ik 375 [.agg [bP r.1,iu (im r.2)],iP ((p+64:Nat):Int)] (.iE [.agg [bP s.1,iu (im s.2)],.agg [bP c.1,iu (im c.2)]]))(zs:s.2<2^3000)(zc:c.2<2^3000)(iB:8<=p)(iw:p<=512):ik 353 [iA d,bP false,iP p] (iz (tg ((!c.1),c.2) (p+64) p)):=by
 have zk:((!c.1),c.2).2<2^3000:=zc;exact ak call353 func353 (af [ag [iA d] (pC _ aD),ai 14 ((Dy.jG d)==0) (by simpa using h0),iL ((p:Int)+64) aC,ag [iA d,iP ((p+64:Nat):Int)] ql,ag [.agg [bP r.1,iu (im r.2)],iP ((p+64:Nat):Int)] qm,.a (aC:0<(4:Int)),.o 38 (aq (Int.tmod 3 4) 3 aE),ai 40 ((3:Int)==1) aE,ai 43 ((3:Int)==2) aE,ah 47 ((3:Int)==3) aE,ag [.agg [bP c.1,iu (im c.2)]] (xd (c.1,c.2)),ag [.agg [bP (!c.1),iu (im c.2)],iP ((p+64:Nat):Int),iP p] (AK ((!c.1),c.2) _ _ aD aC aC aC)]) 
def QZ{d:Dy}(hd:d.iy)(ht:d.iI<=100)(cs:Bool){p:Nat}(iB:8<=p)(iw:p<=512):∃ Z,Z.iy/\ik 353 [iA d,bP cs,iP (p:Int)] (iz Z):=by
 by_cases h0:d.jG=0
 .cases cs with
  |true=>exact⟨_,wJ aE,aa7 d p hd h0 iB iw⟩
  |false=>exact⟨_,qV hd,aa8 d p hd h0 iB iw⟩
 .obtain ⟨r,k,hr,hk,ql⟩:=aa9 d (p+64) hd aC aC ht;obtain⟨s,c,zs,zc,qm⟩:=abg r (p+64) hr aC;have zs:=GU zs (k:=3000) aC;have zc:=GU zc (k:=3000) aC;have hv:∀ a:Bool×Nat,(tg a (p+64) p).iy:=λa=>agR a _ aC aC 
  rcases(aC:k=0\/k=1\/k=2\/k=3)with rfl|rfl|rfl|rfl
  .cases cs with
   |true=>exact⟨_,hv _,aaZ d p r s c hd h0 ql qm zs zc iB iw⟩
   |false=>exact⟨_,hv _,aa3 d p r s c hd h0 ql qm zs zc iB iw⟩
  .cases cs with
   |true=>exact⟨_,hv _,aa0 d p r s c hd h0 ql qm zs zc iB iw⟩
   |false=>exact⟨_,hv _,aa4 d p r s c hd h0 ql qm zs zc iB iw⟩
  .cases cs with
   |true=>exact⟨_,hv _,aa1 d p r s c hd h0 ql qm zs zc iB iw⟩
   |false=>exact⟨_,hv _,aa5 d p r s c hd h0 ql qm zs zc iB iw⟩
  .cases cs with
   |true=>exact⟨_,hv _,aa2 d p r s c hd h0 ql qm zs zc iB iw⟩
   |false=>exact⟨_,hv _,aa6 d p r s c hd h0 ql qm zs zc iB iw⟩
end Go.Proofs.YtgdahmmlddfimaaGreatDoor
