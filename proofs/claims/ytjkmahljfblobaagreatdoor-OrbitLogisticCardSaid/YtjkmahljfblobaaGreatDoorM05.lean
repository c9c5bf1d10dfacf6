/- Rest finds both equilibria of x' = x (1 - x) in a box that contains them, or fails; and of the points 0 and 1 one is unstable and the other one stable. -/
import Derived.Test.YtjkmahljfblobaaGreatDoorM04
set_option linter.unusedSimpArgs false
set_option linter.unusedVariables false
set_option linter.defProp false
set_option maxHeartbeats 4000000
open Go.Proofs.Tryz
namespace Go.Proofs.YtjkmahljfblobaaGreatDoor
open Go.RowKit Fp Pu
def vL(y:List (List Dy)):List (List Iv):=qv y.length (λq=>(y.getD q []).length) λi j=>iY ((y.getD i []).getD j iL)
def qW(m:List (List Iv))(p:Nat):List (List Dy):=tm m.length (λq=>(m.getD q []).length) λi j=>j9 ((m.getD i []).getD j gZ) p
def F7(a b:List (List Iv))(p:Nat):List (List Iv):=qv a.length (λq=>(a.getD q []).length) λi j=>ky ((a.getD i []).getD j gZ) ((b.getD i []).getD j gZ) p
def tg(a:List (List Iv))(x:List Iv)(p:Nat):List Iv:=(List.range a.length).map λi=>mE (λq=>(a.getD i []).getD q gZ) (λq=>x.getD q gZ) p ((a.getD i []).length-1)
def OS{n:Nat}{c:Nat->Nat}{F:Nat->Nat->Iv}{k:Nat}(n1:1<=n)(n8:n<=8)(k1:1<=k)(k8:k<=8)(hc:∀ i,i<n->c i=k)(hF:∀ i j,i<n->j<k->(F i j).ic):mQ (qv n c F) n k:=by
 refine⟨by simp[qv],λr hr=>?_,λr hr x hx=>?_,n1,n8,k1,k8⟩
 .unfold qv at hr;obtain⟨i,hi,rfl⟩:=cI.1 hr;simp[hc i (bJ.1 hi)]
 .unfold qv at hr;obtain⟨i,hi,rfl⟩:=cI.1 hr;obtain⟨j,hj,rfl⟩:=cI.1 hx;have h1:=bJ.1 hi;have h2:=bJ.1 hj;rw[hc i h1]at h2;exact hF i j h1 h2
def NL{y:List (List Dy)}(h:rA y):mQ (vL y) y.length y.length:=OS h.n1 h.n8 h.n1 h.n8 h.row λi j _ _=>tO (h.ok i j)
def aiL{a b:List (List Iv)}{n k p:Nat}(ga:mQ a n k)(gb:mQ b n k)(h1:1<=p)(h2:p<=4096):mQ (F7 a b p) n k:=by
 unfold F7;rw[ga.il];exact OS ga.n1 ga.n8 ga.k1 ga.k8 (λi hi=>ga.pP hi) λi j hi hj=>pT (ga.xU hi hj) (qX (gb.xU hi hj)) h1 h2
def aaq{n:Nat}{c:Nat->Nat}{F:Nat->Nat->Dy}{i j:Nat}(hi:i<n)(hj:j<c i):((tm n c F).getD i []).getD j iL=F i j:=by
 rw[Lb hi,AG hj]
def Nl{m:List (List Iv)}{n p:Nat}(g:mQ m n n):rA (qW m p):=by
 have hl:(qW m p).length=n:=by rw[<-g.il];simp[qW,tm]
 refine⟨by rw[hl];exact g.n1,by rw[hl];exact g.n8,λk hk=>?_,λk i=>?_⟩
 .rw [hl]at hk ⊢;unfold qW;rw[Lb (by rw[g.il];exact hk)];simp only[cU,dB];exact g.pP hk
 .unfold q9 qW;by_cases hk:k<m.length
  .by_cases hi:i<(m.getD k []).length
   .rw [aaq hk hi];exact Bt (g.xU (by rw[<-g.il];exact hk) (by rw[<-g.pP (i:=k) (by rw[<-g.il];exact hk)];exact hi)) p
   .rw [Lb hk,bk,bR (by simpa using Nat.not_lt.1 hi)];exact oI
  .rw [bk (l:=tm _ _ _),bR (by simpa[tm]using Nat.not_lt.1 hk)];exact oI
def Nk(m:List (List Iv))(p:Nat):(qW m p).length=m.length:=by simp[qW,tm]
def DK(a:List (List Iv))(x:List Iv)(p:Nat):(tg a x p).length=a.length:=by simp[tg]
def XW{a:List (List Iv)}{x:List Iv}{p i:Nat}(h:i<a.length):(tg a x p).getD i gZ=mE (λq=>(a.getD i []).getD q gZ) (λq=>x.getD q gZ) p ((a.getD i []).length-1):=by
 unfold tg;rw[rN h]
def B6{a:List (List Iv)}{x:List Iv}{p i:Nat}(h1:1<=p)(h2:p<=4096):((tg a x p).getD i gZ).ic:=by
 by_cases h:i<a.length
 .rw [XW h];exact K9 _ _ h1 h2 _
 .rw [bk,bR (by rw[DK];omega)];exact lX
def Qt(m:List (List Dy))(g:FuncId)(cap:List E)(F:Nat->Nat->Iv)(x:Nat):PS:=⟨44,true,[(15,.e (iP x)),(14,.e (iP m.length)),(13,.e (lO m)),(5,.own 12),(1,.e (.fn g cap))],[(12,.il true 23 41 m.length 7 (jx (jc m.length (λq=>(m.getD q []).length) F x 0)) (kp (jc m.length (λq=>(m.getD q []).length) F x 0)) .none)]⟩
def Qu(m:List (List Dy))(g:FuncId)(cap:List E)(F:Nat->Nat->Iv)(x:Nat)(k:Nat):PS:=⟨44,true,[(22,.e (iP k)),(21,.e (iP ((m.getD x []).length:Int))),(20,.e (kC (m.getD x []))),(6,.e (iP x)),(15,.e (iP x)),(14,.e (iP m.length)),(13,.e (lO m)),(5,.own 12),(1,.e (.fn g cap))],[(12,.il true 23 41 m.length 7 (jx (jc m.length (λq=>(m.getD q []).length) F x k)) (kp (jc m.length (λq=>(m.getD q []).length) F x k)) .none)]⟩
def Tg(m:List (List Iv))(g:FuncId)(cap:List E)(F:Nat->Nat->Dy)(x:Nat):PS:=⟨44,true,[(15,.e (iP x)),(14,.e (iP m.length)),(13,.e (iW m)),(5,.own 12),(1,.e (.fn g cap))],[(12,.il true 219 37 m.length 3 (nE (lf m.length (λq=>(m.getD q []).length) F x 0)) (qJ (lf m.length (λq=>(m.getD q []).length) F x 0)) .none)]⟩
def Th(m:List (List Iv))(g:FuncId)(cap:List E)(F:Nat->Nat->Dy)(x:Nat)(k:Nat):PS:=⟨44,true,[(22,.e (iP k)),(21,.e (iP ((m.getD x []).length:Int))),(20,.e (hH (m.getD x []))),(6,.e (iP x)),(15,.e (iP x)),(14,.e (iP m.length)),(13,.e (iW m)),(5,.own 12),(1,.e (.fn g cap))],[(12,.il true 219 37 m.length 3 (nE (lf m.length (λq=>(m.getD q []).length) F x k)) (qJ (lf m.length (λq=>(m.getD q []).length) F x k)) .none)]⟩
def aal{m:List (List Dy)}(hm:rA m)(i:Nat):(m.getD i []).length<=1000:=by
 have n8:=hm.n8;by_cases h:i<m.length
 .rw [hm.row i h];omega
 .rw [bk,bR aA];simp
def U8(a:List (List Iv))(x:List Iv)(p:Nat)(i:Nat):PS:=⟨46,true,[(8,.own 8),(33,.e (iP i)),(32,.e (iP a.length)),(31,.e (iW a)),(4,.box 4 0),(2,.e (iP p))],[(8,.row true 41 i 7 (jh ((List.range i).map (λi=>mE (λq=>(a.getD i []).getD q gZ) (λq=>x.getD q gZ) p ((a.getD i []).length-1))))),(4,.cells 23 [hH x])]⟩
def aac(m:List (List Dy))(g:FuncId)(cap:List E)(F:Nat->Nat->Iv)(hl:m.length<=1000)(hr:∀ i,(m.getD i []).length<=1000)(hf:∀ i j,i<m.length->j<(m.getD i []).length->gW g (iP (i:Int)::iP (j:Int)::ib ((m.getD i []).getD j iL)::cap) (ix (F i j))):gW 312 [lO m,.fn g cap] (iW (qv m.length (λq=>(m.getD q []).length) F)):=
 aj call312 func312 (aa [.a (aA:0<=((m.length:Int):Int)/\((m.length:Int):Int)<=((m.length:Int):Int)),.a (aA:((24:Nat):Int)*(m.length:Int)<=281474976710656/\((m.length:Int):Int)<=9223372036854775807),.s (Sp.jE (Qt m g cap F) 0 m.length aA (λx hx nF=>by
    have wH:=hr x;exact iF (aa [tT 16 ((x:Int)<m.length) aA,iX (x:Int) (m.length) aA,.s (Sp.jE (Qu m g cap F x) 0 ((m.getD x []).length) aA (λk hk ql=>by
    have wH:=hr x;have hle:jx (jc m.length (λq=>(m.getD q []).length) F x k) x=k:=IL aA ;have h1:=nS (F x k);exact iF (aa [tT 23 ((k:Int)<((m.getD x []).length:Int)) aA,iX (k:Int) ((m.getD x []).length) aA,iX (x:Int) (m.length) aA,.a (aA:x<m.length),.c (hf x k aA aA:gW g ((iP x)::(iP k)::(ib ((m.getD x []).getD k iL))::cap) _),.o 38 (.e (kT _):ai (.sl true 1 7 λi_ j_=>(iQ (F x k)).getD (i_*7+j_) (.v (.bool false))) (hH [F x k])),.a (aA:x<m.length),.a (aA:((jx (jc m.length (λq=>(m.getD q []).length) F x k)) x+[F x k].length)*88<=140737488355328),iX (x:Int) (m.length) aA,.a (rfl:x=x),.a (rfl:x=x),.a (aA:x<m.length),
     iA ((k:Int)+1) aA]<|.e (ae [.b 12 (F1 rfl aA aA rfl:Bx.le (.il true 23 41 m.length 7 (λq=>if q=x then(jx (jc m.length (λq=>(m.getD q []).length) F x k)) q+[F x k].length else(jx (jc m.length (λq=>(m.getD q []).length) F x k)) q) (λq i j=>if q=x then(if i<(jx (jc m.length (λq=>(m.getD q []).length) F x k)) q then(kp (jc m.length (λq=>(m.getD q []).length) F x k)) q i j else(E.iS (hH [F x k])) (i-(jx (jc m.length (λq=>(m.getD q []).length) F x k)) q) j)else(kp (jc m.length (λq=>(m.getD q []).length) F x k)) q i j) .none) (.il true 23 41 m.length 7 (jx (jc m.length (λq=>(m.getD q []).length) F x (k+1))) (kp (jc m.length (λq=>(m.getD q []).length) F x (k+1))) .none))])) aD)
  (λhk=>by
    exact iF (ae [tF 23 (((m.getD x []).length:Int)<((m.getD x []).length:Int)) aA]) aD) aG:jA 6 f312 (Qu m g cap F x 0) (.exit 2) ⟨44,true,[(15,.e (iP x)),(14,.e (iP m.length)),(13,.e (lO m)),(5,.own 12),(1,.e (.fn g cap))],[(12,.il true 23 41 m.length 7 (jx (jc m.length (λq=>(m.getD q []).length) F x ((m.getD x []).length))) (kp (jc m.length (λq=>(m.getD q []).length) F x ((m.getD x []).length))) .none)]⟩) .nil,
     iA ((x:Int)+1) aA]<|.e (ae [.b 12 (JK rfl:Bx.le (.il true 23 41 m.length 7 (jx (jc m.length (λq=>(m.getD q []).length) F x ((m.getD x []).length))) (kp (jc m.length (λq=>(m.getD q []).length) F x ((m.getD x []).length))) .none) (.il true 23 41 m.length 7 (jx (jc m.length (λq=>(m.getD q []).length) F (x+1) 0)) (kp (jc m.length (λq=>(m.getD q []).length) F (x+1) 0)) .none))])) aD)
  (λhx=>by
    exact iF (ae [tF 16 ((m.length:Int)<m.length) aA]) aD) aG:jA 3 f312 (Qt m g cap F 0) (.exit 0) ⟨44,true,[(5,.own 12)],[(12,.il true 23 41 m.length 7 (jx (jc m.length (λq=>(m.getD q []).length) F m.length 0)) (kp (jc m.length (λq=>(m.getD q []).length) F m.length 0)) .none)]⟩) (ae [.b 12 (JJ rfl:Bx.le (.il true 23 41 m.length 7 (λ_=>0) (λ_ _ _=>.any) .none) (.il true 23 41 m.length 7 (jx (jc m.length (λq=>(m.getD q []).length) F 0 0)) (kp (jc m.length (λq=>(m.getD q []).length) F 0 0)) .none))])]<|rR (iW (qv m.length (λq=>(m.getD q []).length) F)) (by
      rw[<-GD];exact Fk (GF _ _ _ _ _).symm:E.le (.sl true m.length 1 λk_ _=>.sl true ((jx (jc m.length (λq=>(m.getD q []).length) F m.length 0)) k_) 7 ((kp (jc m.length (λq=>(m.getD q []).length) F m.length 0)) k_)) (iW (qv m.length (λq=>(m.getD q []).length) F)))) 
def adq(m:List (List Iv))(g:FuncId)(cap:List E)(F:Nat->Nat->Dy)(hl:m.length<=1000)(hr:∀ i,(m.getD i []).length<=1000)(hf:∀ i j,i<m.length->j<(m.getD i []).length->gW g (iP (i:Int)::iP (j:Int)::ix ((m.getD i []).getD j gZ)::cap) (ib (F i j))):gW 309 [iW m,.fn g cap] (lO (tm m.length (λq=>(m.getD q []).length) F)):=
 aj call309 func309 (aa [.a (aA:0<=((m.length:Int):Int)/\((m.length:Int):Int)<=((m.length:Int):Int)),.a (aA:((24:Nat):Int)*(m.length:Int)<=281474976710656/\((m.length:Int):Int)<=9223372036854775807),.s (Sp.jE (Tg m g cap F) 0 m.length aA (λx hx nF=>by
    have wH:=hr x;exact iF (aa [tT 16 ((x:Int)<m.length) aA,iX (x:Int) (m.length) aA,.s (Sp.jE (Th m g cap F x) 0 ((m.getD x []).length) aA (λk hk ql=>by
    have wH:=hr x;have hle:nE (lf m.length (λq=>(m.getD q []).length) F x k) x=k:=aab aA ;have h1:=nS (F x k);exact iF (aa [tT 23 ((k:Int)<((m.getD x []).length:Int)) aA,iX (k:Int) ((m.getD x []).length) aA,iX (x:Int) (m.length) aA,.a (aA:x<m.length),.c (hf x k aA aA:gW g ((iP x)::(iP k)::(ix ((m.getD x []).getD k gZ))::cap) _),.o 38 (.e (Cf _):ai (.sl true 1 3 λi_ j_=>(jt (F x k)).getD (i_*3+j_) (.v (.bool false))) (kC [F x k])),.a (aA:x<m.length),.a (aA:((nE (lf m.length (λq=>(m.getD q []).length) F x k)) x+[F x k].length)*40<=140737488355328),iX (x:Int) (m.length) aA,.a (rfl:x=x),.a (rfl:x=x),.a (aA:x<m.length),
     iA ((k:Int)+1) aA]<|.e (ae [.b 12 (aao rfl aA aA rfl:Bx.le (.il true 219 37 m.length 3 (λq=>if q=x then(nE (lf m.length (λq=>(m.getD q []).length) F x k)) q+[F x k].length else(nE (lf m.length (λq=>(m.getD q []).length) F x k)) q) (λq i j=>if q=x then(if i<(nE (lf m.length (λq=>(m.getD q []).length) F x k)) q then(qJ (lf m.length (λq=>(m.getD q []).length) F x k)) q i j else(E.iS (kC [F x k])) (i-(nE (lf m.length (λq=>(m.getD q []).length) F x k)) q) j)else(qJ (lf m.length (λq=>(m.getD q []).length) F x k)) q i j) .none) (.il true 219 37 m.length 3 (nE (lf m.length (λq=>(m.getD q []).length) F x (k+1))) (qJ (lf m.length (λq=>(m.getD q []).length) F x (k+1))) .none))])) aD)
  (λhk=>by
    exact iF (ae [tF 23 (((m.getD x []).length:Int)<((m.getD x []).length:Int)) aA]) aD) aG:jA 6 f309 (Th m g cap F x 0) (.exit 2) ⟨44,true,[(15,.e (iP x)),(14,.e (iP m.length)),(13,.e (iW m)),(5,.own 12),(1,.e (.fn g cap))],[(12,.il true 219 37 m.length 3 (nE (lf m.length (λq=>(m.getD q []).length) F x ((m.getD x []).length))) (qJ (lf m.length (λq=>(m.getD q []).length) F x ((m.getD x []).length))) .none)]⟩) .nil,
     iA ((x:Int)+1) aA]<|.e (ae [.b 12 (aan rfl:Bx.le (.il true 219 37 m.length 3 (nE (lf m.length (λq=>(m.getD q []).length) F x ((m.getD x []).length))) (qJ (lf m.length (λq=>(m.getD q []).length) F x ((m.getD x []).length))) .none) (.il true 219 37 m.length 3 (nE (lf m.length (λq=>(m.getD q []).length) F (x+1) 0)) (qJ (lf m.length (λq=>(m.getD q []).length) F (x+1) 0)) .none))])) aD)
  (λhx=>by
    exact iF (ae [tF 16 ((m.length:Int)<m.length) aA]) aD) aG:jA 3 f309 (Tg m g cap F 0) (.exit 0) ⟨44,true,[(5,.own 12)],[(12,.il true 219 37 m.length 3 (nE (lf m.length (λq=>(m.getD q []).length) F m.length 0)) (qJ (lf m.length (λq=>(m.getD q []).length) F m.length 0)) .none)]⟩) (ae [.b 12 (aam rfl:Bx.le (.il true 219 37 m.length 3 (λ_=>0) (λ_ _ _=>.any) .none) (.il true 219 37 m.length 3 (nE (lf m.length (λq=>(m.getD q []).length) F 0 0)) (qJ (lf m.length (λq=>(m.getD q []).length) F 0 0)) .none))])]<|rR (lO (tm m.length (λq=>(m.getD q []).length) F)) (aae:E.le (.sl true m.length 1 λk_ _=>.sl true ((nE (lf m.length (λq=>(m.getD q []).length) F m.length 0)) k_) 3 ((qJ (lf m.length (λq=>(m.getD q []).length) F m.length 0)) k_)) (lO (tm m.length (λq=>(m.getD q []).length) F)))) 
def ZF(d:Dy)(hd:d.ic):gW 349 [ib d,(.jD 1 λj_=>[.fn 60 []].getD j_ .any)] (bP false):=
 aj call349 func349 (ae [af [ib d] (rT _ aB)]) 
def ZG(l:List Dy)(m:List (List Dy))(hm:rA m)(hl:l.length=(m.getD 0 []).length)(hv:Gj l):gW 348 [kC l,(.jD 1 λj_=>[lO m].getD j_ .any),(.jD 1 λj_=>[.fn 60 []].getD j_ .any)] (bP false):=by
 have n1:=hm.n1;have n8:=hm.n8;have hr:=hm.row 0 aA;exact aj call348 func348 (ae [iX 0 (m.length) aA,ah 11 ((l.length:Int) != ((m.getD 0 []).length:Int)) (bc (by rw[hl])),.c (Lg true _ _ 349 _ (λ_=>false) (λi hi=>ZF _ (hv i)) aA (λ_ _=>rfl):gW 339 [kC l,.fn 349 [(.jD 1 λj_=>[.fn 60 []].getD j_ .any)]] _)]) 
def ZH(m:List (List Dy))(hm:rA m):gW 311 [lO m,.fn 60 []] (bP true):=by
 have n1:=hm.n1;have n8:=hm.n8;have hr:=hm.row 0 aA;exact aj call311 func311 (ae [tF 7 ((m.length:Int)<1) aA,tF 11 (8<(m.length:Int)) aA,iX 0 (m.length) aA,tF 18 (((m.getD 0 []).length:Int)<1) aA,iX 0 (m.length) aA,tF 25 (8<((m.getD 0 []).length:Int)) aA,.c (QZ true _ _ 348 _ (λ_=>false) (λi hi=>ZG _ m hm (by rw[hm.row i hi,hm.row 0 aA]) (λq=>hm.ok i q)) aA (λ_ _=>rfl):gW 341 [lO m,.fn 348 [(.jD 1 λj_=>[lO m].getD j_ .any),(.jD 1 λj_=>[.fn 60 []].getD j_ .any)]] _)]) 
def agr(i j:Nat)(d:Dy)(hd:d.ic):gW 313 [iP i,iP j,ib d] (ix (iY d)):=
 aj call313 func313 (ae [.c (Bi d aB)]) 
def I3(m:List (List Dy))(hm:rA m):gW 264 [lO m] (iW (vL m)):=by
 have n1:=hm.n1;have n8:=hm.n8;exact aj call264 func264 (ae [.c (ZH m hm),.c (aac m 313 [] (λi j=>iY ((m.getD i []).getD j iL)) aA (λi=>aal hm i) (λi j hi hj=>agr i j _ (hm.ok i j)))]) 
def afz(i j:Nat)(x:Iv)(p:Nat)(hx:x.ic)(xa:x.all=false)(iu:8<=p)(ie:p<=512):gW 310 [iP i,iP j,ix x,(.jD 1 λj_=>[iP p].getD j_ .any)] (ib (j9 x p)):=
 aj call310 func310 (ae [.c (Iz x p aB aB iu ie)]) 
def afx(x:Iv)(xa:x.all=false):gW 308 [ix x] (bP false):=
 aj call308 func308 (rQ (bP x.all) (bP false) (by rw[xa])) 
def afy(l:List Iv)(hl:l.length<=8)(ha:∀ i,i<l.length->(l.getD i gZ).all=false):gW 307 [hH l] (bP false):=
 aj call307 func307 (ae [.c (xF true _ _ 308 _ (λ_=>false) (λi hi=>afx _ (ha i hi)) aA (λ_ _=>rfl):gW 39 [hH l,.fn 308 []] _)]) 
def Nt(m:List (List Iv))(n k p:Nat)(g:mQ m n k)(sn:∀ i,i<m.length->∀ j,j<(m.getD i []).length->((m.getD i []).getD j gZ).all=false)(iu:8<=p)(ie:p<=512):gW 263 [iW m,iP p] (lO (qW m p)):=by
 have n8:=g.n8;have ra:=g.il;exact aj call263 func263 (ae [af [iW m] (Bs _ _ _ g),af [iP p] (I4 _),ag 10 (kF (p:Int)) (oG.2 ⟨aA,aA⟩),.c (Wn true _ _ 307 _ (λ_=>false) (λi hi=>afy _ (by rw[g.pP aA];exact g.k8) (sn i hi)) aA (λ_ _=>rfl):gW 159 [iW m,.fn 307 []] _),.c (adq m 310 [(.jD 1 λj_=>[iP p].getD j_ .any)] (λi j=>j9 ((m.getD i []).getD j gZ) p) aA (λi=>bK (g.M7 i) aC) (λi j hi hj=>afz i j _ p (g.xU aA (by rw[<-g.pP (aA:i<n)];exact hj)) (sn i hi j hj) iu ie))]) 
def aaK(i j:Nat)(x:Iv)(b:List (List Iv))(p:Nat)(hx:x.ic)(hy:(((b.getD i []).getD j gZ)).ic)(hi:i<b.length)(hj:j<(b.getD i []).length)(iu:8<=p)(ie:p<=512):gW 231 [iP i,iP j,ix x,(.jD 1 λj_=>[.fn 163 []].getD j_ .any),(.jD 1 λj_=>[iW b].getD j_ .any),(.jD 1 λj_=>[iP p].getD j_ .any)] (ix (ky x ((b.getD i []).getD j gZ) p)):=
 aj call231 func231 (ae [iX (i:Int) (b.length) aA,iX (j:Int) ((b.getD i []).length) aA,.c (yO x ((b.getD i []).getD j gZ) p aB aB aA aA)]) 
def aaL(a b:List (List Iv))(n k p:Nat)(ga:mQ a n k)(gb:mQ b n k)(iu:8<=p)(ie:p<=512):gW 171 [iW a,iW b,iP p,.fn 163 []] (.ik [iW (F7 a b p),iP 0]):=by
 have ra:=ga.il;have rb:=gb.il;have n1:=ga.n1;have n8:=ga.n8;have la:=ga.pP (aA:0<n);have lb:=gb.pP (aA:0<n);exact aj call171 func171 (ae [af [iW a] (Bs _ _ _ aB),af [iW b] (Bs _ _ _ aB),af [iP p] (I4 _),ag 21 (kF (p:Int)) (oG.2 ⟨aA,aA⟩),ah 28 ((a.length:Int) != (b.length:Int)) (r8 aA),iX 0 (a.length) aA,iX 0 (b.length) aA,ah 38 (((a.getD 0 []).length:Int) != ((b.getD 0 []).length:Int)) (r8 aA),.c (afl a 231 [(.jD 1 λj_=>[.fn 163 []].getD j_ .any),(.jD 1 λj_=>[iW b].getD j_ .any),(.jD 1 λj_=>[iP p].getD j_ .any)] (λi j=>ky ((a.getD i []).getD j gZ) ((b.getD i []).getD j gZ) p) aA (λi=>bK (ga.M7 i) aC) (λi j hi hj=>aaK _ _ _ _ _ (ga.xU aA (by rw[ga.pP aA]at hj;exact hj)) (gb.xU aA (by rw[ga.pP aA]at hj;exact hj)) aA (by rw[gb.pP aA];rw[ga.pP aA]at hj;exact hj) iu ie))]) 
def U9(a b:List (List Iv))(n k p:Nat)(ga:mQ a n k)(gb:mQ b n k)(iu:8<=p)(ie:p<=512):gW 265 [iW a,iW b,iP p] (.ik [iW (F7 a b p),iP 0]):=
 aj call265 func265 (ae [.c (aaL a b n k p ga gb iu ie)]) 
def XU(x:Iv)(hx:x.ic):gW 314 [ix x] (bP false):=
 aj call314 func314 (ae [.c (sX x aB)]) 
def XV(q:Nat)(x:List Iv)(hq:q<x.length):gW 315 [iP q,(.jD 1 λj_=>[hH x].getD j_ .any)] (ix (x.getD q gZ)):=
 aj call315 func315 (ae [iX (q:Int) (x.length) aA]) 
def I2(a:List (List Iv))(x:List Iv)(n k p:Nat)(ga:mQ a n k)(hl:x.length=k)(hx:∀ i,(x.getD i gZ).ic)(iu:8<=p)(ie:p<=512):gW 266 [iW a,hH x,iP p] (.ik [hH (tg a x p),iP 0]):=by
 have ra:=ga.il;have n1:=ga.n1;have n8:=ga.n8;have k1:=ga.k1;have k8:=ga.k8;have la:=ga.pP (aA:0<n);exact aj call266 func266 (aa [af [iW a] (Bs _ _ _ aB),.c (xF true _ _ 314 _ (λ_=>false) (λi hi=>XU _ (hx i)) aA (λ_ _=>rfl):gW 39 [hH x,.fn 314 []] _),af [iP p] (I4 _),ag 21 (kF (p:Int)) (oG.2 ⟨aA,aA⟩),iX 0 (a.length) aA,ah 30 (((a.getD 0 []).length:Int) != (x.length:Int)) (r8 aA),.y 8 8 true 41 7 (jh ((List.range 0).map (λi=>mE (λq=>(a.getD i []).getD q gZ) (λq=>x.getD q gZ) p ((a.getD i []).length-1)))),.s (Sp.jE (U8 a x p) 0 a.length aA (λi hi mw=>by
    have lai:=ga.pP (aA:i<n);have oY:=nS (mE (λq=>(a.getD i []).getD q gZ) (λq=>x.getD q gZ) p ((a.getD i []).length-1));exact iF (aa [tT 34 ((i:Int)<a.length) aA,iX (i:Int) (a.length) aA,.c (QP (a.getD i []) 315 [(.jD 1 λj_=>[hH x].getD j_ .any)] (λq=>x.getD q gZ) p aA aA (λq hq=>ga.xU aA (by rw[lai]at hq;exact hq)) hx (λq hq=>XV q x aA) iu ie),.o 42 (.e (kT _):ai (.sl true 1 7 λi_ j_=>(iQ (mE (λq=>(a.getD i []).getD q gZ) (λq=>x.getD q gZ) p ((a.getD i []).length-1))).getD (i_*7+j_) (.v (.bool false))) (hH [mE (λq=>(a.getD i []).getD q gZ) (λq=>x.getD q gZ) p ((a.getD i []).length-1)])),.a (aA:(i+[mE (λq=>(a.getD i []).getD q gZ) (λq=>x.getD q gZ) p ((a.getD i []).length-1)].length)*88<=140737488355328),iA ((i:Int)+1) aA]<|.e (ae [.b 8 (uF rfl rfl rfl:Bx.le (.row true 41 (i+[mE (λq=>(a.getD i []).getD q gZ) (λq=>x.getD q gZ) p ((a.getD i []).length-1)].length) 7 (λi_ j_=>if i_<i then(jh ((List.range i).map (λi=>mE (λq=>(a.getD i []).getD q gZ) (λq=>x.getD q gZ) p ((a.getD i []).length-1)))) i_ j_ else(E.iS (hH [mE (λq=>(a.getD i []).getD q gZ) (λq=>x.getD q gZ) p ((a.getD i []).length-1)])) (i_-i) j_)) (.row true 41 (i+1) 7 (jh ((List.range (i+1)).map (λi=>mE (λq=>(a.getD i []).getD q gZ) (λq=>x.getD q gZ) p ((a.getD i []).length-1))))))])) aD)
  (λhi=>by
    exact iF (aa [tF 34 ((a.length:Int)<a.length) aA,.z 8]<|.e (ae [.o 8 (.e (sY aF):ai (.sl true a.length 7 (jh ((List.range a.length).map (λi=>mE (λq=>(a.getD i []).getD q gZ) (λq=>x.getD q gZ) p ((a.getD i []).length-1))))) (hH ((List.range a.length).map (λi=>mE (λq=>(a.getD i []).getD q gZ) (λq=>x.getD q gZ) p ((a.getD i []).length-1)))))])) aD) aG:jA 9 f266 (U8 a x p 0) (.exit 1) ⟨46,true,[(8,.e (hH ((List.range a.length).map (λi=>mE (λq=>(a.getD i []).getD q gZ) (λq=>x.getD q gZ) p ((a.getD i []).length-1)))))],[]⟩) .nil]<|rR (.ik [hH (tg a x p),iP 0]) (.refl _:E.le (.ik [hH ((List.range a.length).map (λi=>mE (λq=>(a.getD i []).getD q gZ) (λq=>x.getD q gZ) p ((a.getD i []).length-1))),iP 0]) (.ik [hH (tg a x p),iP 0]))) 
noncomputable def TU(t:iV)(xs:List Iv)(p:Nat)(i:Nat):PS:=⟨52,true,[(8,.own 8),(39,.e (iP i)),(38,.e (iP t.gY.length)),(37,.e (kR t.gY)),(7,.e (hH (jl t.gX xs p t.gX.length)))],[(8,.row true 41 i 7 (jh ((List.range i).map (λj_=>(jl t.gX xs p t.gX.length).getD (t.gY.getD j_ 0) gZ))))]⟩
def kZ(x:List Iv)(p:Nat):List Iv:=(List.range x.length).map λj_=>iY (j9 (x.getD j_ gZ) p)
def sy(r x c:List Iv)(p:Nat)(s:Iv):Nat->Iv
 | 0=>s
 |k+1=>kU (sy r x c p s k) (kJ (r.getD k gZ) (ky (x.getD k gZ) (c.getD k gZ) p) p) p
noncomputable def uM(t:iV)(x:List Iv)(p k:Nat):Iv:=
 pH (sy ((lu t x p t.iw).getD k []) x (kZ x p) p ((jT t (kZ x p) p).getD k gZ) x.length) ((jT t x p).getD k gZ)
noncomputable def vI(t:iV)(x:List Iv)(p:Nat):List Iv:=(List.range t.gY.length).map (uM t x p)
def DR(x:List Iv)(p:Nat):(kZ x p).length=x.length:=by simp[kZ]
def Zf{x:List Iv}{p i:Nat}(h:i<x.length):(kZ x p).getD i gZ=iY (j9 (x.getD i gZ) p):=by unfold kZ;rw[rN h]
def GJ{x:List Iv}(hv:mf x)(p:Nat):mf (kZ x p):=λi=>by
 by_cases h:i<x.length
 .rw [Zf h];exact tO (Bt (hv i) p)
 .rw [bk,bR (by rw[DR];omega)];exact lX
def I1{r x c:List Iv}{p:Nat}{s:Iv}(hs:s.ic)(h1:1<=p)(h2:p<=4096):∀ k,(sy r x c p s k).ic
 | 0=>hs
 |k+1=>pT (I1 hs h1 h2 k) (nQ _ _ h1 h2) h1 h2
def aft{t:iV}{x:List Iv}{p:Nat}(hv:mf x)(h1:1<=p)(h2:p<=4096)(k:Nat):(uM t x p k).ic:=
 afH (I1 (Cl t (GJ hv p) h1 h2 k) h1 h2 _) (Cl t hv h1 h2 k)
def UQ(t:iV)(x:List Iv)(p:Nat):(vI t x p).length=t.gY.length:=by simp[vI]
def afu{t:iV}{x:List Iv}{p k:Nat}(h:k<t.gY.length):(vI t x p).getD k gZ=uM t x p k:=by unfold vI;rw[rN h]
def adZ(t:iV){x:List Iv}(hv:mf x){p m:Nat}(h1:1<=p)(h2:p<=4096)(k i:Nat):(((lu t x p m).getD k []).getD i gZ).ic:=by
 by_cases hk:k<t.gY.length
 .rw [E3 hk];by_cases hi:i<m
  .rw [rN hi];exact MV t hv h1 h2 _ _
  .rw [bk,bR (by simpa using Nat.not_lt.1 hi)];exact lX
 .rw [bk (l:=lu _ _ _ _),bR (by rw[uG];omega)];exact lX
noncomputable def RF(t:iV)(x:List Iv)(p:Nat)(i:Nat):PS:=⟨103,true,[(9,.own 9),(35,.e (iP i)),(34,.e (iP x.length)),(33,.e (hH x)),(8,.e (iW (lu t x p t.iw))),(7,.e (hH (jT t x p))),(3,.box 3 0),(1,.e (hH x)),(2,.e (iP p))],[(9,.row true 41 i 7 (jh ((List.range i).map (λj_=>iY (j9 (x.getD j_ gZ) p))))),(3,.cells 29 [iP t.iw,kP t.gX,kR t.gY])]⟩
noncomputable def RH(t:iV)(x:List Iv)(p:Nat)(w:Nat):PS:=⟨103,true,[(13,.own 13),(53,.e (iP w)),(52,.e (iP ((jT t x p).length:Int))),(12,.e (hH (jT t (kZ x p) p))),(9,.e (hH (kZ x p))),(8,.e (iW (lu t x p t.iw))),(7,.e (hH (jT t x p))),(1,.e (hH x)),(2,.e (iP p))],[(13,.row true 41 w 7 (jh ((List.range w).map (uM t x p))))]⟩
noncomputable def RG(t:iV)(x:List Iv)(p w:Nat)(i:Nat):PS:=⟨103,true,[(62,.e (iP i)),(61,.e (iP x.length)),(15,.box 15 0),(14,.e (iP w)),(13,.own 13),(53,.e (iP w)),(52,.e (iP ((jT t x p).length:Int))),(12,.e (hH (jT t (kZ x p) p))),(9,.e (hH (kZ x p))),(8,.e (iW (lu t x p t.iw))),(7,.e (hH (jT t x p))),(1,.e (hH x)),(2,.e (iP p))],[(15,.cells 41 (iQ (sy ((lu t x p t.iw).getD w []) x (kZ x p) p ((jT t (kZ x p) p).getD w gZ) i))),(13,.row true 41 w 7 (jh ((List.range w).map (uM t x p))))]⟩
def IE(t:iV)(xs:List Iv)(p:Nat)(h:wb t)(h1:1<=xs.length)(hx:xs.length=t.iw)(hv:mf xs)(iu:8<=p)(ie:p<=512):gW 257 [jG t,hH xs,iP p] (hH (jT t xs p)):=by
 have h8:=h.iw;have qB:=h.gX;have qL:=h.gY;have zN:=Dt t.gX xs p t.gX.length;exact aj call257 func257 (aa [.c (W5 t xs p h h1 hx hv aA aA),iA ((t.iw:Int)+t.gX.length) aA,tF 23 (((jl t.gX xs p t.gX.length).length:Int)<((t.iw+t.gX.length:Nat):Int)) aA,ah 29 ((xs.length:Int) != (t.iw:Int)) (r8 hx),.c (J4 t aB),.y 8 8 true 41 7 (jh ((List.range 0).map (λj_=>(jl t.gX xs p t.gX.length).getD (t.gY.getD j_ 0) gZ))),.s (Sp.jE (TU t xs p) 0 t.gY.length aA (λi hi mw=>by
    have SJ:=h.out i aA;have zN:=Dt t.gX xs p t.gX.length;have oY:=nS ((jl t.gX xs p t.gX.length).getD (t.gY.getD i 0) gZ);exact iF (aa [tT 40 ((i:Int)<t.gY.length) aA,iX (i:Int) (t.gY.length) aA,iX (t.gY.getD i 0:Int) ((jl t.gX xs p t.gX.length).length) aA,.o 48 (.e (kT _):ai (.sl true 1 7 λi_ j_=>(iQ ((jl t.gX xs p t.gX.length).getD (t.gY.getD i 0) gZ)).getD (i_*7+j_) (.v (.bool false))) (hH [(jl t.gX xs p t.gX.length).getD (t.gY.getD i 0) gZ])),.a (aA:(i+[(jl t.gX xs p t.gX.length).getD (t.gY.getD i 0) gZ].length)*88<=140737488355328),iA ((i:Int)+1) aA]<|.e (ae [.b 8 (uF rfl rfl rfl:Bx.le (.row true 41 (i+[(jl t.gX xs p t.gX.length).getD (t.gY.getD i 0) gZ].length) 7 (λi_ j_=>if i_<i then(jh ((List.range i).map (λj_=>(jl t.gX xs p t.gX.length).getD (t.gY.getD j_ 0) gZ))) i_ j_ else(E.iS (hH [(jl t.gX xs p t.gX.length).getD (t.gY.getD i 0) gZ])) (i_-i) j_)) (.row true 41 (i+1) 7 (jh ((List.range (i+1)).map (λj_=>(jl t.gX xs p t.gX.length).getD (t.gY.getD j_ 0) gZ)))))])) aD)
  (λhi=>by
    exact iF (aa [tF 40 ((t.gY.length:Int)<t.gY.length) aA,.z 8]<|.e (ae [.o 8 (.e (sY aF):ai (.sl true t.gY.length 7 (jh ((List.range t.gY.length).map (λj_=>(jl t.gX xs p t.gX.length).getD (t.gY.getD j_ 0) gZ)))) (hH ((List.range t.gY.length).map (λj_=>(jl t.gX xs p t.gX.length).getD (t.gY.getD j_ 0) gZ))))])) aD) aG:jA 6 f257 (TU t xs p 0) (.exit 0) ⟨52,true,[(8,.e (hH ((List.range t.gY.length).map (λj_=>(jl t.gX xs p t.gX.length).getD (t.gY.getD j_ 0) gZ))))],[]⟩) .nil]<|rQ (hH ((List.range t.gY.length).map (λj_=>(jl t.gX xs p t.gX.length).getD (t.gY.getD j_ 0) gZ))) (hH (jT t xs p)) (by rw[Rk])) 
def aec(t:iV)(x:List Iv)(p:Nat)(h:wb t)(h1:1<=x.length)(hx:x.length=t.iw)(hv:mf x)(iu:8<=p)(ie:p<=512)(sn:∀ i,i<x.length->(x.getD i gZ).all=false):gW 258 [jG t,hH x,iP p] (hH (vI t x p)):=by
 have h8:=h.iw;have qB:=h.gX;have qL:=h.gY;have q1:1<=p:= aA ;have q2:p<=4096:= aA ;have rX:=DR x p;have uq:=GJ hv p;have So:=Cl t uq q1 q2;have hfx:=Cl t hv q1 q2;have vr:=uj t x p;have mF:=uj t (kZ x p) p;have sO:=uG t x p t.iw;exact aj call258 func258 (aa [.c (RB t x p h h1 hx hv aA aA),.c (yp t x p t.iw h h1 hx hv (bl _) aA aA),.y 9 9 true 41 7 (jh ((List.range 0).map (λj_=>iY (j9 (x.getD j_ gZ) p)))),.s (Sp.jE (RF t x p) 0 x.length aA (λi hi mw=>by
    have v1:=hv i;have xa:=sn i aA;have v2:=Bt v1 p;have oY:=nS (iY (j9 (x.getD i gZ) p));exact iF (aa [tT 36 ((i:Int)<x.length) aA,iX (i:Int) (x.length) aA,.c (Iz (x.getD i gZ) p aB aB iu ie),.c (Bi (j9 (x.getD i gZ) p) aB),.o 44 (.e (kT _):ai (.sl true 1 7 λi_ j_=>(iQ (iY (j9 (x.getD i gZ) p))).getD (i_*7+j_) (.v (.bool false))) (hH [iY (j9 (x.getD i gZ) p)])),.a (aA:(i+[iY (j9 (x.getD i gZ) p)].length)*88<=140737488355328),iA ((i:Int)+1) aA]<|.e (ae [.b 9 (uF rfl rfl rfl:Bx.le (.row true 41 (i+[iY (j9 (x.getD i gZ) p)].length) 7 (λi_ j_=>if i_<i then(jh ((List.range i).map (λj_=>iY (j9 (x.getD j_ gZ) p)))) i_ j_ else(E.iS (hH [iY (j9 (x.getD i gZ) p)])) (i_-i) j_)) (.row true 41 (i+1) 7 (jh ((List.range (i+1)).map (λj_=>iY (j9 (x.getD j_ gZ) p))))))])) aD)
  (λhi=>by
    exact iF (aa [tF 36 ((x.length:Int)<x.length) aA,.z 9]<|.e (ae [.o 9 (.e (sY aF):ai (.sl true x.length 7 (jh ((List.range x.length).map (λj_=>iY (j9 (x.getD j_ gZ) p))))) (hH (kZ x p)))])) aD) aG:jA 6 f258 (RF t x p 0) (.exit 0) ⟨103,true,[(9,.e (hH (kZ x p))),(8,.e (iW (lu t x p t.iw))),(7,.e (hH (jT t x p))),(3,.box 3 0),(1,.e (hH x)),(2,.e (iP p))],[(3,.cells 29 [iP t.iw,kP t.gX,kR t.gY])]⟩) .nil,.c (IE t (kZ x p) p h (by rw[DR];omega) (by rw[DR];omega) (GJ hv p) aA aA),.y 13 13 true 41 7 (jh ((List.range 0).map (uM t x p))),.s (Sp.jE (RH t x p) 0 t.gY.length aA (λw hw ajY=>by
    have hjr:((lu t x p t.iw).getD w []).length=t.iw:=by rw[E3 aA];simp
    have v7:=I1 (r:=(lu t x p t.iw).getD w []) (x:=x) (c:=kZ x p) (So w) q1 q2 x.length;have v8:=hfx w;have oY:=nS (pH (sy ((lu t x p t.iw).getD w []) x (kZ x p) p ((jT t (kZ x p) p).getD w gZ) x.length) ((jT t x p).getD w gZ));exact iF (aa [tT 54 ((w:Int)<((jT t x p).length:Int)) aA,iX (w:Int) ((jT t (kZ x p) p).length) aA,.s (Sp.jE (RG t x p w) 0 x.length aA (λi hi mw=>by
    have v1:=hv i;have v2:=uq i;have v3:=adZ t hv q1 q2 (m:=t.iw) w i;have v4:=I1 (r:=(lu t x p t.iw).getD w []) (x:=x) (c:=kZ x p) (So w) q1 q2 i;have v5:(ky (x.getD i gZ) ((kZ x p).getD i gZ) p).ic:=pT v1 (qX v2) q1 q2;have v6:=nQ (((lu t x p t.iw).getD w []).getD i gZ) (ky (x.getD i gZ) ((kZ x p).getD i gZ) p) q1 q2;exact iF (aa [tT 63 ((i:Int)<x.length) aA,iX (w:Int) ((lu t x p t.iw).length) aA,iX (i:Int) (((lu t x p t.iw).getD w []).length) aA,
     iX (i:Int) (x.length) aA,iX (i:Int) ((kZ x p).length) aA,.c (yO (x.getD i gZ) ((kZ x p).getD i gZ) p aB aB aA aA),.c (uE (((lu t x p t.iw).getD w []).getD i gZ) (ky (x.getD i gZ) ((kZ x p).getD i gZ) p) p aB aB aA aA),.c (yN (sy ((lu t x p t.iw).getD w []) x (kZ x p) p ((jT t (kZ x p) p).getD w gZ) i) (kJ (((lu t x p t.iw).getD w []).getD i gZ) (ky (x.getD i gZ) ((kZ x p).getD i gZ) p) p) p aB aB aA aA),
     iA ((i:Int)+1) aA]<|.e (ae [.b 15 (.iD rfl:Bx.le (.cells 41 (iQ (kU (sy ((lu t x p t.iw).getD w []) x (kZ x p) p ((jT t (kZ x p) p).getD w gZ) i) (kJ (((lu t x p t.iw).getD w []).getD i gZ) (ky (x.getD i gZ) ((kZ x p).getD i gZ) p) p) p))) (.cells 41 (iQ (sy ((lu t x p t.iw).getD w []) x (kZ x p) p ((jT t (kZ x p) p).getD w gZ) (i+1)))))])) aD)
  (λhi=>by
    exact iF (ae [tF 63 ((x.length:Int)<x.length) aA]) aD) aG:jA 17 f258 (RG t x p w 0) (.exit 4) ⟨103,true,[(15,.box 15 0),(14,.e (iP w)),(13,.own 13),(53,.e (iP w)),(52,.e (iP ((jT t x p).length:Int))),(12,.e (hH (jT t (kZ x p) p))),(9,.e (hH (kZ x p))),(8,.e (iW (lu t x p t.iw))),(7,.e (hH (jT t x p))),(1,.e (hH x)),(2,.e (iP p))],[(15,.cells 41 (iQ (sy ((lu t x p t.iw).getD w []) x (kZ x p) p ((jT t (kZ x p) p).getD w gZ) x.length))),(13,.row true 41 w 7 (jh ((List.range w).map (uM t x p))))]⟩) (ae [.b 15 (.iD rfl:Bx.le (.cells 41 (iQ ((jT t (kZ x p) p).getD w gZ))) (.cells 41 (iQ (sy ((lu t x p t.iw).getD w []) x (kZ x p) p ((jT t (kZ x p) p).getD w gZ) 0))))]),
     iX (w:Int) ((jT t x p).length) aA,.c (MT (sy ((lu t x p t.iw).getD w []) x (kZ x p) p ((jT t (kZ x p) p).getD w gZ) x.length) ((jT t x p).getD w gZ) aB aB),.o 99 (.e (kT _):ai (.sl true 1 7 λi_ j_=>(iQ (pH (sy ((lu t x p t.iw).getD w []) x (kZ x p) p ((jT t (kZ x p) p).getD w gZ) x.length) ((jT t x p).getD w gZ))).getD (i_*7+j_) (.v (.bool false))) (hH [pH (sy ((lu t x p t.iw).getD w []) x (kZ x p) p ((jT t (kZ x p) p).getD w gZ) x.length) ((jT t x p).getD w gZ)])),.a (aA:(w+[pH (sy ((lu t x p t.iw).getD w []) x (kZ x p) p ((jT t (kZ x p) p).getD w gZ) x.length) ((jT t x p).getD w gZ)].length)*88<=140737488355328),iA ((w:Int)+1) aA]<|.e (ae [.b 13 (uF rfl rfl rfl:Bx.le (.row true 41 (w+[pH (sy ((lu t x p t.iw).getD w []) x (kZ x p) p ((jT t (kZ x p) p).getD w gZ) x.length) ((jT t x p).getD w gZ)].length) 7 (λi_ j_=>if i_<w then(jh ((List.range w).map (uM t x p))) i_ j_ else(E.iS (hH [pH (sy ((lu t x p t.iw).getD w []) x (kZ x p) p ((jT t (kZ x p) p).getD w gZ) x.length) ((jT t x p).getD w gZ)])) (i_-w) j_)) (.row true 41 (w+1) 7 (jh ((List.range (w+1)).map (uM t x p)))))])) aD)
  (λhw=>by
    exact iF (aa [tF 54 ((t.gY.length:Int)<((jT t x p).length:Int)) aA,.z 13]<|.e (ae [.o 13 (.e (sY aF):ai (.sl true t.gY.length 7 (jh ((List.range t.gY.length).map (uM t x p)))) (hH ((List.range t.gY.length).map (uM t x p))))])) aD) aG:jA 13 f258 (RH t x p 0) (.exit 2) ⟨103,true,[(13,.e (hH ((List.range t.gY.length).map (uM t x p))))],[]⟩) .nil]<|rR (hH (vI t x p)) (.iD rfl:E.le (hH ((List.range t.gY.length).map (uM t x p))) (hH (vI t x p)))) 
structure UL where
 n:Nat
 g:Nat->Int
abbrev nV(g:Nat->Int):Nat->Nat->E:=λi _=>.v (.int .u32 (g i))
def uP(a:UL):E:=.sl false a.n 1 (nV a.g)
def BS(g:Nat->Int)(k:Nat)(v:Int):Nat->Int:=λi=>if i=k then v else g i
abbrev Ru(d:Dy)(k:Nat):Nat:=((Int.tdiv (d.e+16384) 32)+(k:Int)).toNat
abbrev Hh(d:Dy)(k:Nat):Nat:=(((Int.tdiv (d.e+16384) 32)+(k:Int))+1).toNat
abbrev Rv(d:Dy)(k:Nat):Int:=IntKind.u64.wrap ((((ia d.m).getD k 0:Nat):Int)*2^(Int.tmod (d.e+16384) 32).toNat)
def sK(d:Dy):Nat->Nat->Int
 | 0=>λ_=>0
 |k+1=>BS (BS (sK d k) (Ru d k) (bits .or .u32 (sK d k (Ru d k)) (IntKind.u32.wrap (Rv d k)))) (Hh d k)
  (bits .or .u32 (sK d k (Hh d k)) (IntKind.u32.wrap (Rv d k/2^32)))
abbrev LB(d:Dy):Nat:=(((Int.tdiv (d.e+16384) 32)+((ia d.m).length:Int))+1).toNat
def rF(d:Dy):UL:=⟨LB d,sK d (ia d.m).length⟩
def aeA{m:Nat}(k:Nat):(ia m).getD k 0<4294967296:=(o9 m).getD k
def jM(a:UL)(i:Nat):Int:=if i<a.n then IntKind.u64.wrap (a.g i)else 0
def Ry{d:Dy}(hd:d.ic):0<=d.e+16384/\d.e+16384<=32768/\(ia d.m).length<=128/\0<=Int.tdiv (d.e+16384) 32/\Int.tdiv (d.e+16384) 32<=1024/\0<=Int.tmod (d.e+16384) 32/\Int.tmod (d.e+16384) 32<=31:=by
 have h:0<=d.e+16384/\d.e+16384<=32768:=by
  rcases hd.range with h|⟨_,h1,h2,_⟩
  .have:d.e=0:=by
    rcases hd.canon with h1|h1
    .exact h1.2.2
    .omega
   omega
  .omega
 have hl:(ia d.m).length<=128:=by
  rcases hd.range with h|⟨h,_⟩
  .rw [h,oD];simp
  .exact IH aA 
 have e1:=gN (b:=32) h.1;have e2:=akt (b:=32) h.1;omega
def ajw{T n n':Nat}{g:Nat->Int}(hn:n=n')(h:∀ i,g i=0):Bx.le (.row false T n 1 λ_ j_=>[(.v (.int .u32 0):E)].getD j_ .any) (.row false T n' 1 (nV g)):=by
 subst hn;refine .row rfl λi j hi hj=>⟨.iD ?_,rfl⟩
 obtain rfl:j=0:= aA ;show E.v (.int .u32 0) = .v (.int .u32 (g i));rw[h]
def ajy{T n n' a b:Nat}{v w:Int}{g g':Nat->Int}(hn:n=n')(h:g'=BS (BS g a v) b w):
 Bx.le (.row false T n 1 λi' j'=>if i'=b/\0<=j'/\j'<0+1 then[(.v (.int .u32 w):E)].getD (j'-0) .any else(λi' j'=>if i'=a/\0<=j'/\j'<0+1 then[(.v (.int .u32 v):E)].getD (j'-0) .any else nV g i' j') i' j') (.row false T n' 1 (nV g')):=by
 subst hn h;refine .row rfl λi j hi hj=>⟨.iD ?_,rfl⟩
 obtain rfl:j=0:= aA ;show _=E.v (.int .u32 (BS (BS g a v) b w i));unfold BS;by_cases h1:i=b
 .rw [bj ⟨h1,bl _,aC⟩,bj h1];rfl
 .rw [bh λh=>h1 h.1,bh h1];by_cases h2:i=a
  .simp only;rw[bj ⟨h2,bl _,aC⟩,bj h2];rfl
  .simp only;rw[bh λh=>h2 h.1,bh h2]
def ajx{a b:Nat}{v:Int}{g:Nat->Int}(h:b≠a):E.le ((λi' j'=>if i'=a/\0<=j'/\j'<0+1 then[(.v (.int .u32 v):E)].getD (j'-0) .any else nV g i' j') b 0) (.v (.int .u32 (g b))):=
 .iD (bh λq=>h q.1)
def Rp(d:Dy)(k:Nat):PS:=⟨58,false,[(22,.e (iP k)),(21,.e (iP ((ia d.m).length:Int))),(20,.e (iz (ia d.m))),(4,.own 18),(3,.e (iP (d.e+16384)))],[(18,.row false 95 ((((Int.tdiv (d.e+16384) 32)+((ia d.m).length:Int))+1).toNat) 1 (nV (sK d k)))]⟩
def jS(a b:UL):Nat:=if a.n<b.n then b.n else a.n
def Nu(a b:UL):(if(b.n:Int)>(a.n:Int)then(b.n:Int)else(a.n:Int))=(jS a b:Int):=by unfold jS;split<;>split<;>omega
def BC(a b:UL):Nat->Int
 | 0=>IntKind.u64.wrap (IntKind.u64.wrap (jM a 0+jM b 0)+0)
 |k+1=>IntKind.u64.wrap (IntKind.u64.wrap (jM a (k+1)+jM b (k+1))+BC a b k/2^32)
def Ah(a b:UL):Nat->Int
 | 0=>0
 |k+1=>BC a b k/2^32
def Ai(a b:UL)(k:Nat):Int:=IntKind.u32.wrap (BC a b k)
def C6(a b:UL):UL:=⟨jS a b+1,Ai a b⟩
def CY(a b:UL):Nat->Int
 | 0=>IntKind.u64.wrap (IntKind.u64.wrap (jM a 0-jM b 0)-0)
 |k+1=>IntKind.u64.wrap (IntKind.u64.wrap (jM a (k+1)-jM b (k+1))-CY a b k/2^63)
def sZ(a b:UL):Nat->Int
 | 0=>0
 |k+1=>CY a b k/2^63
def s5(a b:UL)(k:Nat):Int:=IntKind.u32.wrap (CY a b k)
def yW(a b:UL):UL:=⟨a.n,s5 a b⟩
def VQ(a b:UL):∀ k,BC a b k=IntKind.u64.wrap (IntKind.u64.wrap (jM a k+jM b k)+Ah a b k)
 | 0=>by unfold BC;rfl
 |k+1=>by unfold BC;rfl
def I0(a b:UL):∀ k,CY a b k=IntKind.u64.wrap (IntKind.u64.wrap (jM a k-jM b k)-sZ a b k)
 | 0=>rfl
 |k+1=>rfl
def OG{T n n' m:Nat}{g:Nat->Int}{el2:Nat->Nat->E}(hm:m=1)(hn:n'=n+1)(he:el2 0 0 = .v (.int .u32 (g n))):Bx.le (.row false T (n+m) 1 λi j=>if i<n then nV g i j else el2 (i-n) j) (.row false T n' 1 (nV g)):=by
 subst hm hn;refine .row rfl λi j hi hj=>⟨.iD ?_,rfl⟩
 obtain rfl:j=0:= aA ;by_cases h:i<n
 .rw [bj h]
 .obtain rfl:i=n:= aA ;rw[bh h,cV,he]
def Pc(P:Program)(t:TypeId)(a b:Int):lN P .add t (.v (.int .u64 a)) (.v (.int .u64 b)) (.int .u64 (IntKind.u64.wrap (a+b))):=λbs br w x y ox oy hx hy=>by
 obtain rfl:=iC.kD hx;obtain rfl:=iC.kD hy;refine⟨by simp only[eqGuard_at_int,Sem.run_pure],?_⟩;rw[binOp_add];simp[Op.intArith]
def JZ(P:Program)(t:TypeId)(a b:Int):lN P .sub t (.v (.int .u64 a)) (.v (.int .u64 b)) (.int .u64 (IntKind.u64.wrap (a-b))):=λbs br w x y ox oy hx hy=>by
 obtain rfl:=iC.kD hx;obtain rfl:=iC.kD hy;refine⟨by simp only[eqGuard_at_int,Sem.run_pure],?_⟩;rw[binOp_sub];simp[Op.intArith]
def wi(a b:Int):Int:=if a<b then -1 else if b<a then 1 else 0
def Cc(a b:UL):Nat->Int
 | 0=>0
 |k+1=>if jM a k=jM b k then Cc a b k else wi (jM a k) (jM b k)
def xm(a b:UL):Int:=Cc a b (jS a b)
def Fm(a b:UL):UL:=if xm a b<0 then yW b a else yW a b
def vd(x:Iv):UL:=if x.lo.neg=x.hi.neg then Fm (rF x.lo) (rF x.hi)else C6 (rF x.lo) (rF x.hi)
def nn(b:List Iv):Nat->Nat
 | 0=>0
 |k+1=>if 0<xm (vd (b.getD k gZ)) (vd (b.getD (nn b k) gZ))then k else nn b k
def KV{a b:UL}{M:Nat}:∀ x,x<=M->(∀ y,y<x->jM a (M-1-y)=jM b (M-1-y))->Cc a b M=Cc a b (M-x)
 | 0,_,_=>rfl
 |x+1,hx,h=>by
  rw[KV x aA λy hy=>h y aA];have e:=h x aA;obtain⟨q,hq⟩:∃ q,M-x=q+1:=⟨M-x-1,aA⟩
  rw[hq,(aA:M-(x+1)=q)];rw[(aA:M-1-x=q)]at e;show(if jM a q=jM b q then Cc a b q else _)=_;rw[bj e]
def Dw{b:List Iv}:∀ k,0<b.length->k<=b.length->nn b k<b.length
 | 0,h,_=>h
 |k+1,h,hk=>by
  have:=Dw k h aA;unfold nn;split<;>omega
def Qb(a b:UL)(x:Nat):PS:=⟨30,true,[(5,.e (iP ((jS a b:Int)-1-(x:Int)))),(0,.e (uP a)),(1,.e (uP b))],[]⟩
def Qc(a b:UL)(N:Nat)(x:Nat):PS:=⟨30,true,[(5,.e (iP ((jS a b:Int)-1-(x:Int)))),(0,.e (uP a)),(1,.e (uP b))],[]⟩
def VR(a b:UL)(k:Nat):PS:=⟨36,false,[(5,.own 5),(15,.e (iP k)),(14,.e (iP (((jS a b)+1:Nat):Int))),(6,.e (.v (.int .u64 (Ah a b k)))),(0,.e (uP a)),(1,.e (uP b))],[(5,.row false 95 k 1 (nV (Ai a b)))]⟩
def UT(a b:UL)(k:Nat):PS:=⟨38,false,[(5,.own 5),(17,.e (iP k)),(16,.e (iP (UL.n b:Int))),(6,.e (.v (.int .u64 (sZ b a k)))),(1,.e (uP a)),(0,.e (uP b))],[(5,.row false 95 k 1 (nV (s5 b a)))]⟩
def US(a b:UL)(k:Nat):PS:=⟨38,false,[(5,.own 5),(17,.e (iP k)),(16,.e (iP (UL.n a:Int))),(6,.e (.v (.int .u64 (sZ a b k)))),(0,.e (uP a)),(1,.e (uP b))],[(5,.row false 95 k 1 (nV (s5 a b)))]⟩
def Xx(b:List Iv)(i:Nat):PS:=⟨28,true,[(11,.e (iP i)),(10,.e (iP b.length)),(9,.e (hH b)),(3,.e (iP (nn b i:Int))),(0,.e (hH b))],[]⟩
def Rq(d:Dy)(hd:d.ic):gW 270 [ib d] (uP (rF d)):=by
 obtain⟨f1,f2,f3,f4,f5,f6,f7⟩:=Ry hd;exact ak call270 func270 (aa [iA (d.e+16384) aA,.a (aA:0<(32:Int)),iA (d.e+16384) aA,iA ((Int.tdiv (d.e+16384) 32)+((ia d.m).length:Int)) aA,
  iA (((Int.tdiv (d.e+16384) 32)+((ia d.m).length:Int))+1) aA,.a (aA:0<=((((Int.tdiv (d.e+16384) 32)+((ia d.m).length:Int))+1):Int)/\((((Int.tdiv (d.e+16384) 32)+((ia d.m).length:Int))+1):Int)<=((((Int.tdiv (d.e+16384) 32)+((ia d.m).length:Int))+1):Int)),.a (aA:((4:Nat):Int)*(((Int.tdiv (d.e+16384) 32)+((ia d.m).length:Int))+1)<=281474976710656/\((((Int.tdiv (d.e+16384) 32)+((ia d.m).length:Int))+1):Int)<=9223372036854775807),.s (Sp.jE (Rp d) 0 ((ia d.m).length) aA (λk hk ql=>by
    have hlk:=aeA (m:=d.m) k;exact iF (aa [tT 23 ((k:Int)<((ia d.m).length:Int)) aA,iX (k:Int) ((ia d.m).length) aA,.o 28 (.int (rz _ aA):ai (.v (.int .u64 (IntKind.u64.wrap (((ia d.m).getD k 0:Nat):Int)))) (.v (.int .u64 (((ia d.m).getD k 0:Nat):Int)))),.a (aA:0<(32:Int)),.a (aA:0<=((Int.tmod (d.e+16384) 32):Int)/\((Int.tmod (d.e+16384) 32):Int)<=((64:Nat):Int)),.a (aA:0<(32:Int)),iA (d.e+16384) aA,
     iA ((Int.tdiv (d.e+16384) 32)+(k:Int)) aA,iX ((Int.tdiv (d.e+16384) 32)+(k:Int)) ((((Int.tdiv (d.e+16384) 32)+((ia d.m).length:Int))+1).toNat) aA,.a (aA:(((Int.tdiv (d.e+16384) 32)+(k:Int))).toNat<((((Int.tdiv (d.e+16384) 32)+((ia d.m).length:Int))+1)).toNat),
     iX ((Int.tdiv (d.e+16384) 32)+(k:Int)) ((((Int.tdiv (d.e+16384) 32)+((ia d.m).length:Int))+1).toNat) aA,.a (aA:(((Int.tdiv (d.e+16384) 32)+(k:Int))).toNat<((((Int.tdiv (d.e+16384) 32)+((ia d.m).length:Int))+1)).toNat),.a (aA:0<(32:Int)),iA (d.e+16384) aA,
     iA ((Int.tdiv (d.e+16384) 32)+(k:Int)) aA,iA (((Int.tdiv (d.e+16384) 32)+(k:Int))+1) aA,
     iX (((Int.tdiv (d.e+16384) 32)+(k:Int))+1) ((((Int.tdiv (d.e+16384) 32)+((ia d.m).length:Int))+1).toNat) aA,.a (aA:((((Int.tdiv (d.e+16384) 32)+(k:Int))+1)).toNat<((((Int.tdiv (d.e+16384) 32)+((ia d.m).length:Int))+1)).toNat),.o 50 (.e (ajx (by simp only[cO];omega)):ai ((λi' j'=>if i'=(((Int.tdiv (d.e+16384) 32)+(k:Int))).toNat/\0<=j'/\j'<0+1 then[.v (.int .u32 (bits .or .u32 ((sK d k) (((Int.tdiv (d.e+16384) 32)+(k:Int)).toNat)) (IntKind.u32.wrap (IntKind.u64.wrap ((((ia d.m).getD k 0:Nat):Int)*2^((Int.tmod (d.e+16384) 32)).toNat)))))].getD (j'-0) .any else(nV (sK d k)) i' j') ((((Int.tdiv (d.e+16384) 32)+(k:Int))+1).toNat) 0) (.v (.int .u32 (sK d k (Hh d k))))),.a (aA:0<=(32:Int)/\(32:Int)<=((64:Nat):Int)),iX (((Int.tdiv (d.e+16384) 32)+(k:Int))+1) ((((Int.tdiv (d.e+16384) 32)+((ia d.m).length:Int))+1).toNat) aA,.a (aA:((((Int.tdiv (d.e+16384) 32)+(k:Int))+1)).toNat<((((Int.tdiv (d.e+16384) 32)+((ia d.m).length:Int))+1)).toNat),iA ((k:Int)+1) aA]<|.e (ae [.b 18 (ajy rfl rfl:Bx.le (.row false 95 ((((Int.tdiv (d.e+16384) 32)+((ia d.m).length:Int))+1).toNat) 1 (λi' j'=>if i'=((((Int.tdiv (d.e+16384) 32)+(k:Int))+1)).toNat/\0<=j'/\j'<0+1 then[.v (.int .u32 (bits .or .u32 (sK d k (Hh d k)) (IntKind.u32.wrap ((IntKind.u64.wrap ((((ia d.m).getD k 0:Nat):Int)*2^((Int.tmod (d.e+16384) 32)).toNat))/2^32))))].getD (j'-0) .any else(λi' j'=>if i'=(((Int.tdiv (d.e+16384) 32)+(k:Int))).toNat/\0<=j'/\j'<0+1 then[.v (.int .u32 (bits .or .u32 ((sK d k) (((Int.tdiv (d.e+16384) 32)+(k:Int)).toNat)) (IntKind.u32.wrap (IntKind.u64.wrap ((((ia d.m).getD k 0:Nat):Int)*2^((Int.tmod (d.e+16384) 32)).toNat)))))].getD (j'-0) .any else(nV (sK d k)) i' j') i' j')) (.row false 95 ((((Int.tdiv (d.e+16384) 32)+((ia d.m).length:Int))+1).toNat) 1 (nV (sK d (k+1)))))])) aD)
  (λhk=>by
    exact iF (ae [tF 23 (((ia d.m).length:Int)<((ia d.m).length:Int)) aA,.z 18]) aD) aG:jA 4 f270 (Rp d 0) (.exit 0) ⟨58,false,[(4,.e (.sl false ((((Int.tdiv (d.e+16384) 32)+((ia d.m).length:Int))+1).toNat) 1 (nV (sK d ((ia d.m).length)))))],[]⟩) (ae [.b 18 (ajw rfl (λ_=>rfl):Bx.le (.row false 95 ((((Int.tdiv (d.e+16384) 32)+((ia d.m).length:Int))+1).toNat) 1 (λ_ j_=>[.v (.int .u32 0)].getD j_ .any)) (.row false 95 ((((Int.tdiv (d.e+16384) 32)+((ia d.m).length:Int))+1).toNat) 1 (nV (sK d 0))))])]<|rR (uP (rF d)) (.iD rfl:E.le (.sl false ((((Int.tdiv (d.e+16384) 32)+((ia d.m).length:Int))+1).toNat) 1 (nV (sK d ((ia d.m).length)))) (uP (rF d)))) 
def Au(a:UL)(i:Int)(h:0<=i):gW 268 [uP a,iP i] (.v (.int .u64 (jM a i.toNat))):=
 aj call268 func268 (.w ((UL.n a:Int)<=i)
  (λk1=>aa [tB 8 (bn k1)]<|rQ (.v (.int .u64 0)) (.v (.int .u64 (jM a i.toNat))) (by unfold jM;rw[bh aA]))
  (λk1=>aa [tB 8 (bp k1),iX i (UL.n a) aA]<|rQ (.v (.int .u64 (IntKind.u64.wrap (UL.g a ((i).toNat))))) (.v (.int .u64 (jM a i.toNat))) (by unfold jM;rw[bj aA]))) 
def Ts(a:Int):gW 316 [.v (.int .u64 a)] (bP false):=
 aj call316 func316 (ae [ah 5 (a != a) (akn _)]) 
def Zn(a b:Int):gW 269 [.v (.int .u64 a),.v (.int .u64 b)] (iP (wi a b)):=
 aj call269 func269 (aa [.c (Ts a),.c (Ts b)]<|.w (a<b)
  (λk1=>aa [tB 16 (bn k1)]<|rQ (iP (-1)) (iP (wi a b)) (congrArg iP aS))
  (λk1=>aa [tB 16 (bp k1)]<|.w (b<a)
   (λk2=>aa [tB 19 (bn k2)]<|rQ (iP 1) (iP (wi a b)) (congrArg iP aS))
   (λk2=>aa [tB 19 (bp k2)]<|rQ (iP 0) (iP (wi a b)) (congrArg iP aS)))) 
def B7(a:UL)(m x:Nat)(h:x<m):gW 268 [uP a,iP ((m:Int)-1-(x:Int))] (.v (.int .u64 (jM a (m-1-x)))):=by
 have:=Au a ((m:Int)-1-(x:Int)) aA;rwa[show((m:Int)-1-(x:Int)).toNat=m-1-x by omega]at this
def XZ(a b:UL)(ha:a.n<=1000000)(hb:b.n<=1000000)(jj:∀ x,x<jS a b->jM a (jS a b-1-x)=jM b (jS a b-1-x)):gW 215 [uP a,uP b] (iP 0):=by
 have hm:jS a b<=1000000:=by unfold jS;split<;>omega
 exact aj call215 func215 (ae [.o 12 (al (if(UL.n b:Int)>(UL.n a:Int)then(UL.n b:Int)else(UL.n a:Int)) (jS a b:Int) (Nu a b)),
  iA ((jS a b:Int)-1) aA,.s (Sp.jE (Qb a b) 0 (jS a b) aA (λx hx nF=>by
    exact iF (aa [tT 15 (0<=((jS a b:Int)-1-(x:Int))) aA,af [uP a,iP ((jS a b:Int)-1-(x:Int))] (B7 a (jS a b) x aA),af [uP b,iP ((jS a b:Int)-1-(x:Int))] (B7 b (jS a b) x aA),ah 26 ((jM a (jS a b-1-x)) != (jM b (jS a b-1-x))) (bc (jj x aA)),
     iA (((jS a b:Int)-1-(x:Int))-1) aA]<|.e (ae [.o 5 (al (((jS a b:Int)-1-(x:Int))-1) ((jS a b:Int)-1-((x+1:Nat):Int)) aM)])) aD)
  (λhx=>by
    exact iF (ae [tF 15 (0<=((jS a b:Int)-1-(jS a b:Int))) aA]) aD) aG:jA 2 f215 (Qb a b 0) (.exit 0) ⟨30,true,[],[]⟩) (ae [.o 5 (al ((jS a b:Int)-1) ((jS a b:Int)-1-((0:Nat):Int)) aM)])]) 
def X0(a b:UL)(ha:a.n<=1000000)(hb:b.n<=1000000)(N:Nat)(pV:N<jS a b)(jj:∀ x,x<N->jM a (jS a b-1-x)=jM b (jS a b-1-x))(hN:jM a (jS a b-1-N)≠jM b (jS a b-1-N)):gW 215 [uP a,uP b] (iP (wi (jM a (jS a b-1-N)) (jM b (jS a b-1-N)))):=by
 have hm:jS a b<=1000000:=by unfold jS;split<;>omega
 exact aj call215 func215 (ae [.o 12 (al (if(UL.n b:Int)>(UL.n a:Int)then(UL.n b:Int)else(UL.n a:Int)) (jS a b:Int) (Nu a b)),
  iA ((jS a b:Int)-1) aA,.s (Sp.jE (Qc a b N) 0 N aA (λx hx nF=>by
    exact iF (aa [tT 15 (0<=((jS a b:Int)-1-(x:Int))) aA,af [uP a,iP ((jS a b:Int)-1-(x:Int))] (B7 a (jS a b) x aA),af [uP b,iP ((jS a b:Int)-1-(x:Int))] (B7 b (jS a b) x aA),ah 26 ((jM a (jS a b-1-x)) != (jM b (jS a b-1-x))) (bc (jj x aA)),
     iA (((jS a b:Int)-1-(x:Int))-1) aA]<|.e (ae [.o 5 (al (((jS a b:Int)-1-(x:Int))-1) ((jS a b:Int)-1-((x+1:Nat):Int)) aM)])) aD)
  (λhx=>by
    exact iF (ae [tT 15 (0<=((jS a b:Int)-1-(N:Int))) aA,af [uP a,iP ((jS a b:Int)-1-(N:Int))] (B7 a (jS a b) N aA),af [uP b,iP ((jS a b:Int)-1-(N:Int))] (B7 b (jS a b) N aA),tB 26 (bg hN),.c (Zn (jM a (jS a b-1-N)) (jM b (jS a b-1-N)))]) aD) aG:jA 2 f215 (Qc a b N 0) .ret ⟨30,true,[(4,.e (iP (wi (jM a (jS a b-1-N)) (jM b (jS a b-1-N)))))],[]⟩) (ae [.o 5 (al ((jS a b:Int)-1) ((jS a b:Int)-1-((0:Nat):Int)) aM)])]) 
def KC(a b:UL)(ha:a.n<=1000000)(hb:b.n<=1000000):gW 215 [uP a,uP b] (iP (xm a b)):=by
 by_cases h:∃ x,x<jS a b/\decide (jM a (jS a b-1-x)≠jM b (jS a b-1-x))=true
 .obtain ⟨N,h1,h2,h3⟩:=tK h;have jj:∀ x,x<N->jM a (jS a b-1-x)=jM b (jS a b-1-x):=λx hx=>by have:=h3 x hx;simpa using this
  have hN:jM a (jS a b-1-N)≠jM b (jS a b-1-N):=cK h2;have:=X0 a b ha hb N h1 jj hN;have e:xm a b=wi (jM a (jS a b-1-N)) (jM b (jS a b-1-N)):=by
   unfold xm;rw[KV N aA jj,(aA:jS a b-N=(jS a b-1-N)+1)];unfold Cc;rw[bh hN]
  rwa[e]
 .have jj:∀ x,x<jS a b->jM a (jS a b-1-x)=jM b (jS a b-1-x):=λx hx=>ch λq=>h ⟨x,hx,bn q⟩
  have:=XZ a b ha hb jj;have e:xm a b=0:=by
   unfold xm;rw[KV _ (bl _) jj,cV];rfl
  rwa[e]
def Yg(a b:UL)(ha:a.n<=1000000)(hb:b.n<=1000000):gW 271 [uP a,uP b] (uP (C6 a b)):=by
 have hm:jS a b<=1000000:=by unfold jS;split<;>omega
 exact ak call271 func271 (aa [.o 13 (al (if(UL.n b:Int)>(UL.n a:Int)then(UL.n b:Int)else(UL.n a:Int)) (jS a b:Int) (Nu a b)),
  iA ((jS a b:Int)+1) aA,.y 5 5 false 95 1 (nV (Ai a b)),.s (Sp.jE (VR a b) 0 (jS a b+1) aA (λk hk ql=>by
    exact iF (aa [tT 16 ((k:Int)<(((jS a b)+1:Nat):Int)) aA,.c (Au a (k:Int) aA),.c (Au b (k:Int) aA),.gi (Pc _ _ _ _:lN prog .add 148 (.v (.int .u64 (jM a k))) (.v (.int .u64 (jM b k))) (.int .u64 (IntKind.u64.wrap (jM a k+jM b k)))),.gi (Pc _ _ _ _:lN prog .add 148 (.v (.int .u64 (IntKind.u64.wrap (jM a k+jM b k)))) (.v (.int .u64 (Ah a b k))) (.int .u64 (IntKind.u64.wrap ((IntKind.u64.wrap (jM a k+jM b k))+(Ah a b k))))),.a (aA:(k+1)*4<=140737488355328),.a (aA:0<=(32:Int)/\(32:Int)<=((64:Nat):Int)),iA ((k:Int)+1) aA]<|.e (ae [.o 6 (.int (by show _=BC a b k/2^32;rw[VQ]):ai (.v (.int .u64 ((IntKind.u64.wrap ((IntKind.u64.wrap (jM a k+jM b k))+(Ah a b k)))/2^32))) (.v (.int .u64 (Ah a b (k+1))))),.b 5 (OG rfl rfl (by show E.v _=E.v _;unfold Ai;rw[VQ]):Bx.le (.row false 95 (k+1) 1 (λi_ j_=>if i_<k then(nV (Ai a b)) i_ j_ else(E.iS (.sl false 1 1 λi_ j_=>[.v (.int .u32 (IntKind.u32.wrap (IntKind.u64.wrap ((IntKind.u64.wrap (jM a k+jM b k))+(Ah a b k)))))].getD (i_*1+j_) (.v (.bool false)))) (i_-k) j_)) (.row false 95 (k+1) 1 (nV (Ai a b))))])) aD)
  (λhk=>by
    exact iF (ae [tF 16 (((jS a b+1:Nat):Int)<(((jS a b)+1:Nat):Int)) aA,.z 5]) aD) aG:jA 4 f271 (VR a b 0) (.exit 0) ⟨36,false,[(5,.e (.sl false (jS a b+1) 1 (nV (Ai a b))))],[]⟩) (ae [.o 6 (.int rfl:ai (.v (.int .u64 0)) (.v (.int .u64 (Ah a b 0))))])]<|rR (uP (C6 a b)) (.iD rfl:E.le (.sl false (jS a b+1) 1 (nV (Ai a b))) (uP (C6 a b)))) 
def Ye(a b:UL)(ha:a.n<=1000000)(hb:b.n<=1000000)(hc:xm a b<0):gW 272 [uP a,uP b] (uP (yW b a)):=
 ak call272 func272 (aa [af [uP a,uP b] (KC _ _ aB aB),tB 12 (bn hc),.y 5 5 false 95 1 (nV (s5 b a)),.s (Sp.jE (UT a b) 0 (UL.n b) aA (λk hk ql=>by
    exact iF (aa [tT 18 ((k:Int)<(UL.n b:Int)) aA,.c (Au b (k:Int) aA),.c (Au a (k:Int) aA),.gi (JZ _ _ _ _:lN prog .sub 148 (.v (.int .u64 (jM b k))) (.v (.int .u64 (jM a k))) (.int .u64 (IntKind.u64.wrap (jM b k-jM a k)))),.gi (JZ _ _ _ _:lN prog .sub 148 (.v (.int .u64 (IntKind.u64.wrap (jM b k-jM a k)))) (.v (.int .u64 (sZ b a k))) (.int .u64 (IntKind.u64.wrap ((IntKind.u64.wrap (jM b k-jM a k))-(sZ b a k))))),.a (aA:(k+1)*4<=140737488355328),.a (aA:0<=(63:Int)/\(63:Int)<=((64:Nat):Int)),iA ((k:Int)+1) aA]<|.e (ae [.o 6 (.int (by show _=CY b a k/2^63;rw[I0]):ai (.v (.int .u64 ((IntKind.u64.wrap ((IntKind.u64.wrap (jM b k-jM a k))-(sZ b a k)))/2^63))) (.v (.int .u64 (sZ b a (k+1))))),.b 5 (OG rfl rfl (by show E.v _=E.v _;unfold s5;rw[I0]):Bx.le (.row false 95 (k+1) 1 (λi_ j_=>if i_<k then(nV (s5 b a)) i_ j_ else(E.iS (.sl false 1 1 λi_ j_=>[.v (.int .u32 (IntKind.u32.wrap (IntKind.u64.wrap ((IntKind.u64.wrap (jM b k-jM a k))-(sZ b a k)))))].getD (i_*1+j_) (.v (.bool false)))) (i_-k) j_)) (.row false 95 (k+1) 1 (nV (s5 b a))))])) aD)
  (λhk=>by
    exact iF (ae [tF 18 ((UL.n b:Int)<(UL.n b:Int)) aA,.z 5]) aD) aG:jA 6 f272 (UT a b 0) (.exit 0) ⟨38,false,[(5,.e (.sl false (UL.n b) 1 (nV (s5 b a))))],[]⟩) (ae [.o 6 (.int rfl:ai (.v (.int .u64 0)) (.v (.int .u64 (sZ b a 0))))])]<|rR (uP (yW b a)) (.iD rfl:E.le (.sl false (UL.n b) 1 (nV (s5 b a))) (uP (yW b a)))) 
def Yd(a b:UL)(ha:a.n<=1000000)(hb:b.n<=1000000)(hc:¬xm a b<0):gW 272 [uP a,uP b] (uP (yW a b)):=
 ak call272 func272 (aa [af [uP a,uP b] (KC _ _ aB aB),tB 12 (bp hc),.y 5 5 false 95 1 (nV (s5 a b)),.s (Sp.jE (US a b) 0 (UL.n a) aA (λk hk ql=>by
    exact iF (aa [tT 18 ((k:Int)<(UL.n a:Int)) aA,.c (Au a (k:Int) aA),.c (Au b (k:Int) aA),.gi (JZ _ _ _ _:lN prog .sub 148 (.v (.int .u64 (jM a k))) (.v (.int .u64 (jM b k))) (.int .u64 (IntKind.u64.wrap (jM a k-jM b k)))),.gi (JZ _ _ _ _:lN prog .sub 148 (.v (.int .u64 (IntKind.u64.wrap (jM a k-jM b k)))) (.v (.int .u64 (sZ a b k))) (.int .u64 (IntKind.u64.wrap ((IntKind.u64.wrap (jM a k-jM b k))-(sZ a b k))))),.a (aA:(k+1)*4<=140737488355328),.a (aA:0<=(63:Int)/\(63:Int)<=((64:Nat):Int)),iA ((k:Int)+1) aA]<|.e (ae [.o 6 (.int (by show _=CY a b k/2^63;rw[I0]):ai (.v (.int .u64 ((IntKind.u64.wrap ((IntKind.u64.wrap (jM a k-jM b k))-(sZ a b k)))/2^63))) (.v (.int .u64 (sZ a b (k+1))))),.b 5 (OG rfl rfl (by show E.v _=E.v _;unfold s5;rw[I0]):Bx.le (.row false 95 (k+1) 1 (λi_ j_=>if i_<k then(nV (s5 a b)) i_ j_ else(E.iS (.sl false 1 1 λi_ j_=>[.v (.int .u32 (IntKind.u32.wrap (IntKind.u64.wrap ((IntKind.u64.wrap (jM a k-jM b k))-(sZ a b k)))))].getD (i_*1+j_) (.v (.bool false)))) (i_-k) j_)) (.row false 95 (k+1) 1 (nV (s5 a b))))])) aD)
  (λhk=>by
    exact iF (ae [tF 18 ((UL.n a:Int)<(UL.n a:Int)) aA,.z 5]) aD) aG:jA 6 f272 (US a b 0) (.exit 0) ⟨38,false,[(5,.e (.sl false (UL.n a) 1 (nV (s5 a b))))],[]⟩) (ae [.o 6 (.int rfl:ai (.v (.int .u64 0)) (.v (.int .u64 (sZ a b 0))))])]<|rR (uP (yW a b)) (.iD rfl:E.le (.sl false (UL.n a) 1 (nV (s5 a b))) (uP (yW a b)))) 
def Yf(a b:UL)(ha:a.n<=1000000)(hb:b.n<=1000000):gW 272 [uP a,uP b] (uP (Fm a b)):=by
 unfold Fm;split
 .exact Ye a b ha hb aB 
 .exact Yd a b ha hb aB 
def Hg{d:Dy}(hd:d.ic):(rF d).n<=10000:=by
 obtain⟨f1,f2,f3,f4,f5,f6,f7⟩:=Ry hd;show LB d<=10000;unfold LB;omega
def Xw{x:Iv}(hx:x.ic):(vd x).n<=1000000:=by
 have h1:=Hg hx.mM.1;have h2:=Hg hx.mM.2;unfold vd Fm yW C6 jS;split
 .split<;>(simp only;omega)
 .simp only;split<;>omega
def PM(x:Iv)(hx:x.ic):gW 216 [ix x] (uP (vd x)):=by
 obtain⟨w1,w2⟩:=hx.mM;have l1:(rF x.lo).n<=1000000:=by have:=Hg w1;omega
 have l2:(rF x.hi).n<=1000000:=by have:=Hg w2;omega
 exact aj call216 func216 (aa [.c (Rq x.lo aB),.c (Rq x.hi aB)]<|.w (x.lo.neg=x.hi.neg)
  (λk1=>aa [tB 17 (YN (aY k1)),af [uP (rF x.lo),uP (rF x.hi)] (Yf _ _ aB aB)]<|rQ (uP (Fm (rF x.lo) (rF x.hi))) (uP (vd x)) (by unfold vd;simp_all))
  (λk1=>aa [tB 17 (YM (aX k1)),.c (Yg (rF x.lo) (rF x.hi) aB aB)]<|rQ (uP (C6 (rF x.lo) (rF x.hi))) (uP (vd x)) (by unfold vd;simp_all))) 
def KL(b:List Iv)(b1:1<=b.length)(b8:b.length<=8)(hb:mq b):gW 138 [hH b] (iP (nn b b.length:Int)):=
 aj call138 func138 (aa [.c (DM b aA aA hb),.s (Sp.jE (Xx b) 0 b.length aA (λi hi mw=>by
    have yG:=Dw (b:=b) i aA aA;obtain⟨w1,w2⟩:=hb i aA;obtain⟨w3,w4⟩:=hb (nn b i) yG;have l1:=Xw w1;have l2:=Xw w3;exact iF (aa [tT 12 ((i:Int)<b.length) aA,iX (i:Int) (b.length) aA,.c (PM (b.getD i gZ) aB),iX (nn b i:Int) (b.length) aA,.c (PM (b.getD (nn b i) gZ) aB),af [uP (vd (b.getD i gZ)),uP (vd (b.getD (nn b i) gZ))] (KC _ _ aB aB)]<|.w (0<xm (vd (b.getD i gZ)) (vd (b.getD (nn b i) gZ)))
     (λhc=>by
      have jO:nn b (i+1)=i:=by show(if _ then _ else _)=_;rw[bj hc]
      exact aa [tB 24 (bn hc),iA ((i:Int)+1) aA]<|.e (ae [.o 3 (al i (nn b (i+1):Int) (by rw[jO]))]))
     (λhc=>by
      have jO:nn b (i+1)=nn b i:=by show(if _ then _ else _)=_;rw[bh hc]
      exact aa [tB 24 (bp hc),iA ((i:Int)+1) aA]<|.e (ae [.o 3 (al (nn b i:Int) (nn b (i+1):Int) (by rw[jO]))]))) aD)
  (λhi=>by
    exact iF (ae [tF 12 ((b.length:Int)<b.length) aA]) aD) aG:jA 5 f138 (Xx b 0) (.exit 0) ⟨28,true,[(3,.e (iP (nn b b.length:Int)))],[]⟩) (ae [.o 3 (al 0 (nn b 0:Int) aM)])]<|rR (iP (nn b b.length:Int)) (.refl _:E.le (iP (nn b b.length:Int)) (iP (nn b b.length:Int)))) 
def oj{n:Nat}{x:List Iv}(h:n<=x.length):E.le (.sl true n 7 (E.iS (hH x))) (hH (x.take n)):=by
 have hl:(x.take n).length=n:= aL ;have e:hH (x.take n) = .sl true n 7 (jh (x.take n)):=by unfold hH;rw[hl]
 rw[e];refine .sl λi j hi hj=>⟨.iD ?_,xE _ _ hj⟩
 show(iQ (x.getD i gZ)).getD j .any=(iQ ((x.take n).getD i gZ)).getD j .any;congr 2;simp[bk,hi]
def yP{n:Nat}{x:List Iv}(h:n<=x.length):E.le (.sl true (x.length-n) 7 λi_ j_=>(E.iS (hH x)) (n+i_) j_) (hH (x.drop n)):=by
 have hl:(x.drop n).length=x.length-n:= aF ;have e:hH (x.drop n) = .sl true (x.length-n) 7 (jh (x.drop n)):=by unfold hH;rw[hl]
 rw[e];refine .sl λi j hi hj=>⟨.iD ?_,xE _ _ hj⟩
 show(iQ (x.getD (n+i) gZ)).getD j .any=(iQ ((x.drop n).getD i gZ)).getD j .any;congr 2;simp[bk]
structure lY(t:iV)(x:List Iv):Prop where
 tape:wb t
 n1:1<=t.gY.length
 nR:t.gY.length<=t.iw
 len:x.length=t.iw
 ok:∀ i,i<x.length->(x.getD i gZ).ic/\(x.getD i gZ).all=false
def lY.qH{t:iV}{x:List Iv}(h:lY t x):mf x:=λi=>by
 by_cases hi:i<x.length
 .exact (h.ok i hi).1
 .rw [bk,bR aA];exact lX
def F9{n i:Nat}{x:List Iv}(h:i<n):(x.take n).getD i gZ=x.getD i gZ:=by simp[bk,h]
def QQ{n i:Nat}{x:List Iv}:(x.drop n).getD i gZ=x.getD (n+i) gZ:=by simp[bk]
def ON{a b:List Iv}(ha:mf a)(hb:mf b):mf (a++b):=λi=>by
 by_cases h:i<a.length
 .have e:(a++b).getD i gZ=a.getD i gZ:=by simp only[bk];rw[dg h]
  rw[e];exact ha i
 .have e:(a++b).getD i gZ=b.getD (i-a.length) gZ:=by simp only[bk];rw[dH aA]
  rw[e];exact hb _
def OO{x:List Iv}(h:mf x)(n:Nat):mf (x.drop n):=λi=>by rw[QQ];exact h _
def Xq{x:List Iv}(h:mf x)(n:Nat):mf (x.take n):=λi=>by
 by_cases hi:i<n
 .rw [F9 hi];exact h i
 .rw [bk,bR aL];exact lX
def ad4(x:Iv)(hx:x.ic)(xa:x.all=false):gW 209 [ix x] (bP false):=
 aj call209 func209 (ae [.c (sX x aB),ah 8 x.all xa]) 
def CO(t:iV)(x:List Iv)(hk:lY t x):gW 133 [jG t,hH x] (bP true):=by
 have h:=hk.tape;have h8:=h.iw;have qB:=h.gX;have qL:=h.gY;have k1:=hk.n1;have k2:=hk.nR;have hx:=hk.len;have hv:=hk.qH;exact aj call133 func133 (ae [.c (J4 t aB),tT 13 (1<=(t.gY.length:Int)) aA,tT 19 ((t.gY.length:Int)<=t.iw) aA,ag 26 ((x.length:Int)==t.iw) (Fv hx),.c (xF true _ _ 209 _ (λ_=>false) (λi hi=>ad4 _ (hk.ok i hi).1 (hk.ok i hi).2) aA (λ_ _=>rfl):gW 39 [hH x,.fn 209 []] _)]) 
def CP(p:Int):gW 134 [iP p] (bP (kF p)):=
 aj call134 func134 (.w (8<=p)
  (λk1=>aa [tB 4 (bn k1)]<|rQ (bP (decide (p<=512))) (bP (kF p)) (by unfold kF;simp[k1]))
  (λk1=>aa [tB 4 (bp k1)]<|rQ (bP false) (bP (kF p)) (by unfold kF;simp[k1]))) 
def ad2(x:Iv):gW 296 [ix x] (bP x.all):=
 aj call296 func296 (.nil) 
def wJ(l:List Iv)(hl:l.length<=1000):gW 259 [hH l] (bP (mh l)):=
 aj call259 func259 (ae [.c (EX true _ _ 296 _ (λi=>(l.getD i gZ).all) (λi hi=>ad2 _) aA:gW 39 [hH l,.fn 296 []] _)]) 
def Fp.uT:Dy:=⟨false,1,0⟩
def NN:uT.ic:=by have:=Ir 1 aC;rw[CK]at this;exact this
def Td(n:Nat)(x:Nat):PS:=⟨42,true,[(17,.e (iP x)),(16,.e (iP n)),(3,.own 14),(0,.e (iP n))],[(14,.il true 23 41 n 7 (jx (jc n (λ_=>n) (λi j=>iY (if i=j then⟨false,1,0⟩else iL)) x 0)) (kp (jc n (λ_=>n) (λi j=>iY (if i=j then⟨false,1,0⟩else iL)) x 0)) .none)]⟩
def Te(n x:Nat)(k:Nat):PS:=⟨42,true,[(21,.e (iP k)),(20,.e (iP n)),(4,.e (iP x)),(17,.e (iP x)),(16,.e (iP n)),(3,.own 14),(0,.e (iP n))],[(14,.il true 23 41 n 7 (jx (jc n (λ_=>n) (λi j=>iY (if i=j then⟨false,1,0⟩else iL)) x k)) (kp (jc n (λ_=>n) (λi j=>iY (if i=j then⟨false,1,0⟩else iL)) x k)) .none)]⟩
def QT(n:Nat)(h:n<4294967296):gW 71 [iP n] (ib (kO (n:Int))):=by
 have ok2:iM [n%4294967296,n/4294967296%4294967296]:=iM.cons (bI _ aC) (iM.cons (bI _ aC) iM.nil);exact aj call71 func71 (aa [.o 5 (.int (rz _ aA):ai (.v (.int .u64 (IntKind.u64.wrap (n:Int)))) (.v (.int .u64 (n:Int)))),tF 7 ((n:Int)<0) aA,tF 11 ((n:Int)<0) aA,.o 13 (.int (Aq _):ai (.v (.int .u32 (IntKind.u32.wrap (n:Int)))) (.v (.int .u32 ((n%4294967296:Nat):Int)))),.a (aA:0<=(32:Int)/\(32:Int)<=((64:Nat):Int)),.o 15 (.int (Oq _):ai (.v (.int .u64 ((n:Int)/2^32))) (.v (.int .u64 ((n/4294967296:Nat):Int)))),.o 16 (.int (Aq _):ai (.v (.int .u32 (IntKind.u32.wrap ((n/4294967296:Nat):Int)))) (.v (.int .u32 (((n/4294967296)%4294967296:Nat):Int)))),.o 17 (.e (Xh _ _):ai (.sl false 2 1 λi_ j_=>[.v (.int .u32 ((n%4294967296:Nat):Int)),.v (.int .u32 (((n/4294967296)%4294967296:Nat):Int))].getD (i_*1+j_) (.v (.bool false))) (iz [n%4294967296,(n/4294967296)%4294967296])),af [bP false,iz [n%4294967296,(n/4294967296)%4294967296],iP 0] (QS _ _ _ ok2 aF aC aC)]<|rQ (ib (canon false (val [n%4294967296,(n/4294967296)%4294967296]) 0)) (ib (kO (n:Int))) (by rw[Xp,(aA:n%4294967296+4294967296*(n/4294967296%4294967296)=n),CK])) 
def UN(n:Nat)(h1:1<=n)(h8:n<=8):gW 96 [iP n] (iW (zV n)):=by
 have v1:=NN;have v0:=oI;have int1:gW 71 [iP 1] (ib uT):=QT 1 aC;have int0:gW 71 [iP 0] (ib iL):=QT 0 aC;have ew:qv n (λ_=>n) (λi j=>iY (if i=j then⟨false,1,0⟩else iL))=zV n:=rfl;exact aj call96 func96 (aa [tF 8 ((n:Int)<1) aA,tF 11 (8<(n:Int)) aA,.a (aA:0<=((n:Int):Int)/\((n:Int):Int)<=((n:Int):Int)),.a (aA:((24:Nat):Int)*(n:Int)<=281474976710656/\((n:Int):Int)<=9223372036854775807),.s (Sp.jE (Td n) 0 n aA (λx hx nF=>by
    exact iF (aa [tT 18 ((x:Int)<n) aA,.s (Sp.jE (Te n x) 0 n aA (λk hk ql=>by
    have hle:jx (jc n (λ_=>n) (λi j=>iY (if i=j then⟨false,1,0⟩else iL)) x k) x=k:=IL aA ;by_cases c1:x=k
    .have h1:=nS (iY uT);exact iF (aa [tT 22 ((k:Int)<n) aA,ag 26 ((x:Int)==k) (Fv c1),iX (x:Int) n aA,.a (aA:x<n),af [iP 1] int1,.c (Bi uT aB),.o 36 (.e (kT _):ai (.sl true 1 7 λi_ j_=>(iQ (iY uT)).getD (i_*7+j_) (.v (.bool false))) (hH [iY uT])),.a (aA:x<n),.a (aA:((jx (jc n (λ_=>n) (λi j=>iY (if i=j then⟨false,1,0⟩else iL)) x k)) x+[iY uT].length)*88<=140737488355328),iX (x:Int) n aA,.a (rfl:x=x),.a (rfl:x=x),.a (aA:x<n),iA ((k:Int)+1) aA]<|.e (ae [.b 14 (F1 rfl aA aA (by rw[bj c1];rfl):Bx.le (.il true 23 41 n 7 (λq=>if q=x then(jx (jc n (λ_=>n) (λi j=>iY (if i=j then⟨false,1,0⟩else iL)) x k)) q+[iY uT].length else(jx (jc n (λ_=>n) (λi j=>iY (if i=j then⟨false,1,0⟩else iL)) x k)) q) (λq i j=>if q=x then(if i<(jx (jc n (λ_=>n) (λi j=>iY (if i=j then⟨false,1,0⟩else iL)) x k)) q then(kp (jc n (λ_=>n) (λi j=>iY (if i=j then⟨false,1,0⟩else iL)) x k)) q i j else(E.iS (hH [iY uT])) (i-(jx (jc n (λ_=>n) (λi j=>iY (if i=j then⟨false,1,0⟩else iL)) x k)) q) j)else(kp (jc n (λ_=>n) (λi j=>iY (if i=j then⟨false,1,0⟩else iL)) x k)) q i j) .none) (.il true 23 41 n 7 (jx (jc n (λ_=>n) (λi j=>iY (if i=j then⟨false,1,0⟩else iL)) x (k+1))) (kp (jc n (λ_=>n) (λi j=>iY (if i=j then⟨false,1,0⟩else iL)) x (k+1))) .none))])) aD 
    .have h1:=nS (iY iL);exact iF (aa [tT 22 ((k:Int)<n) aA,ah 26 ((x:Int)==k) (afS c1),iX (x:Int) n aA,.a (aA:x<n),af [iP 0] int0,.c (Bi iL aB),.o 36 (.e (kT _):ai (.sl true 1 7 λi_ j_=>(iQ (iY iL)).getD (i_*7+j_) (.v (.bool false))) (hH [iY iL])),.a (aA:x<n),.a (aA:((jx (jc n (λ_=>n) (λi j=>iY (if i=j then⟨false,1,0⟩else iL)) x k)) x+[iY iL].length)*88<=140737488355328),iX (x:Int) n aA,.a (rfl:x=x),.a (rfl:x=x),.a (aA:x<n),iA ((k:Int)+1) aA]<|.e (ae [.b 14 (F1 rfl aA aA (by rw[bh c1]):Bx.le (.il true 23 41 n 7 (λq=>if q=x then(jx (jc n (λ_=>n) (λi j=>iY (if i=j then⟨false,1,0⟩else iL)) x k)) q+[iY iL].length else(jx (jc n (λ_=>n) (λi j=>iY (if i=j then⟨false,1,0⟩else iL)) x k)) q) (λq i j=>if q=x then(if i<(jx (jc n (λ_=>n) (λi j=>iY (if i=j then⟨false,1,0⟩else iL)) x k)) q then(kp (jc n (λ_=>n) (λi j=>iY (if i=j then⟨false,1,0⟩else iL)) x k)) q i j else(E.iS (hH [iY iL])) (i-(jx (jc n (λ_=>n) (λi j=>iY (if i=j then⟨false,1,0⟩else iL)) x k)) q) j)else(kp (jc n (λ_=>n) (λi j=>iY (if i=j then⟨false,1,0⟩else iL)) x k)) q i j) .none) (.il true 23 41 n 7 (jx (jc n (λ_=>n) (λi j=>iY (if i=j then⟨false,1,0⟩else iL)) x (k+1))) (kp (jc n (λ_=>n) (λi j=>iY (if i=j then⟨false,1,0⟩else iL)) x (k+1))) .none))])) aD)
  (λhk=>by
    exact iF (ae [tF 22 ((n:Int)<n) aA]) aD) aG:jA 8 Tryz.f96 (Te n x 0) (.exit 2) ⟨42,true,[(17,.e (iP x)),(16,.e (iP n)),(3,.own 14),(0,.e (iP n))],[(14,.il true 23 41 n 7 (jx (jc n (λ_=>n) (λi j=>iY (if i=j then⟨false,1,0⟩else iL)) x n)) (kp (jc n (λ_=>n) (λi j=>iY (if i=j then⟨false,1,0⟩else iL)) x n)) .none)]⟩) .nil,
     iA ((x:Int)+1) aA]<|.e (ae [.b 14 (JK rfl:Bx.le (.il true 23 41 n 7 (jx (jc n (λ_=>n) (λi j=>iY (if i=j then⟨false,1,0⟩else iL)) x n)) (kp (jc n (λ_=>n) (λi j=>iY (if i=j then⟨false,1,0⟩else iL)) x n)) .none) (.il true 23 41 n 7 (jx (jc n (λ_=>n) (λi j=>iY (if i=j then⟨false,1,0⟩else iL)) (x+1) 0)) (kp (jc n (λ_=>n) (λi j=>iY (if i=j then⟨false,1,0⟩else iL)) (x+1) 0)) .none))])) aD)
  (λhx=>by
    exact iF (ae [tF 18 ((n:Int)<n) aA]) aD) aG:jA 5 Tryz.f96 (Td n 0) (.exit 0) ⟨42,true,[(3,.own 14)],[(14,.il true 23 41 n 7 (jx (jc n (λ_=>n) (λi j=>iY (if i=j then⟨false,1,0⟩else iL)) n 0)) (kp (jc n (λ_=>n) (λi j=>iY (if i=j then⟨false,1,0⟩else iL)) n 0)) .none)]⟩) (ae [.b 14 (JJ rfl:Bx.le (.il true 23 41 n 7 (λ_=>0) (λ_ _ _=>.any) .none) (.il true 23 41 n 7 (jx (jc n (λ_=>n) (λi j=>iY (if i=j then⟨false,1,0⟩else iL)) 0 0)) (kp (jc n (λ_=>n) (λi j=>iY (if i=j then⟨false,1,0⟩else iL)) 0 0)) .none))])]<|rR (iW (zV n)) (by
      rw[<-ew,<-GD];exact Fk (GF _ _ _ _ _).symm:E.le (.sl true n 1 λk_ _=>.sl true ((jx (jc n (λ_=>n) (λi j=>iY (if i=j then⟨false,1,0⟩else iL)) n 0)) k_) 7 ((kp (jc n (λ_=>n) (λi j=>iY (if i=j then⟨false,1,0⟩else iL)) n 0)) k_)) (iW (zV n)))) 
def ag3(b:List Iv)(p:Nat):FO (sx b p)=kZ b p:=by
 unfold FO kZ;have hl:(sx b p).length=b.length:=by simp[sx]
 rw[hl];apply dx;intro i hi;unfold sx;rw[AG (bJ.1 hi)]
def kn(t:iV)(x:List Iv)(p:Nat):List Iv:=kZ (x.take t.gY.length) p
noncomputable def lU(t:iV)(x:List Iv)(p:Nat):List (List Iv):=lu t x p t.gY.length
noncomputable def wL(t:iV)(x:List Iv)(p:Nat):List Iv:=jT t (kn t x p++x.drop t.gY.length) p
noncomputable def yQ(t:iV)(x:List Iv)(p:Nat)(y:List (List Dy)):List (List Iv):=F7 (zV t.gY.length) (wP (vL y) (lU t x p) p) p
def uH(t:iV)(x:List Iv)(p:Nat):List Iv:=(List.range t.gY.length).map λj_=>ky (x.getD j_ gZ) ((kn t x p).getD j_ gZ) p
noncomputable def nG(t:iV)(x:List Iv)(p:Nat)(y:List (List Dy)):List Iv:=tg (vL y) (wL t x p) p
noncomputable def oO(t:iV)(x:List Iv)(p:Nat)(y:List (List Dy)):List Iv:=tg (yQ t x p y) (uH t x p) p
noncomputable def qp(t:iV)(x:List Iv)(p:Nat)(y:List (List Dy)):List Iv:=(List.range t.gY.length).map λj_=>kU (ky ((kn t x p).getD j_ gZ) ((nG t x p y).getD j_ gZ) p) ((oO t x p y).getD j_ gZ) p
noncomputable def qZ(t:iV)(x:List Iv)(p:Nat):Option (List Iv):=
 if mh (jT t x p)||rE (lU t x p)then none
 else match tG (qW (lU t x p) p) t.gY.length p with
  |none=>none
  |some y=>if mh (qp t x p y)then none else some (qp t x p y)
def agK:Option (List Iv)->E
 |none=>.ik [.v (.slice none 0 0),iP 15]
 |some k=>.ik [hH k,iP 0]
def IF{t:iV}{x:List Iv}(hk:lY t x){p:Nat}(h1:1<=p)(h2:p<=4096):mQ (lU t x p) t.gY.length t.gY.length:=by
 have hi:=hk.tape.iw;have h3:=hk.nR;have h4:=hk.n1;have e:lU t x p=qv t.gY.length (λ_=>t.gY.length) (nt t x p):=by
  unfold lU lu kW qv;simp only[bu,bB]
 rw[e];exact OS h4 aA h4 aA (λ_ _=>rfl) λi j _ _=>MV t hk.qH h1 h2 i j
def MZ{t:iV}{x:List Iv}(hk:lY t x)(p:Nat):(kn t x p).length=t.gY.length:=by
 have:=hk.nR;have:=hk.len;unfold kn;rw[DR,cC];omega
def E5{t:iV}{x:List Iv}(hk:lY t x)(p:Nat):mf (kn t x p):=GJ (Xq hk.qH _) p
def TY{t:iV}{x:List Iv}(hk:lY t x){p:Nat}(h1:1<=p)(h2:p<=4096):mf (wL t x p):=Cl t (ON (E5 hk p) (OO hk.qH _)) h1 h2
def M0(t:iV)(x:List Iv)(p:Nat):(uH t x p).length=t.gY.length:=by simp[uH]
def TX{t:iV}{x:List Iv}(hk:lY t x){p:Nat}(h1:1<=p)(h2:p<=4096):mf (uH t x p):=λi=>by
 by_cases h:i<t.gY.length
 .unfold uH;rw[rN h];exact pT (hk.qH i) (qX (E5 hk p i)) h1 h2
 .rw [bk,bR (by rw[M0];omega)];exact lX
structure Kv(y:List (List Dy))(n:Nat):Prop where
 dm:rA y
 len:y.length=n
def MQ{m:List (List Dy)}{n p:Nat}{y:List (List Dy)}(h:tG m n p=some y)(n1:1<=n)(n8:n<=8)(h1:1<=p)(h2:p<=4096):Kv y n:=by
 obtain⟨q1,q2,q3⟩:=ady h;exact⟨⟨aA,aA,λk hk=>by rw[q1]at hk ⊢;exact q2 k hk,λk i=>q3 k i h1 h2⟩,q1⟩
def TW{t:iV}{x:List Iv}(hk:lY t x){p:Nat}{y:List (List Dy)}(hy:Kv y t.gY.length)(h1:1<=p)(h2:p<=4096):mQ (yQ t x p y) t.gY.length t.gY.length:=by
 have hi:=hk.tape.iw;have h3:=hk.nR;have h4:=hk.n1;have go:=NL hy.dm;rw[hy.len]at go;exact aiL (MJ h4 aA) (Nr go (IF hk h1 h2) h1 h2) h1 h2
def NC{m:List (List Iv)}(h:rE m=false):∀ i,i<m.length->∀ j,j<(m.getD i []).length->((m.getD i []).getD j gZ).all=false:=λi hi j hj=>by
 have h1:=cw.1 h i (bJ.2 hi);have h1:mh (m.getD i [])=false:=by simpa using h1
 have h2:=cw.1 h1 j (bJ.2 hj);simpa using h2
def adz{m:List (List Dy)}{n p:Nat}(hm:rA m)(hl:m.length=n)(iu:8<=p)(ie:p<=512)(h:tG m n p=none):gW 262 [lO m,iP (p:Int)] (.ik [.v (.slice none 0 0),bP false]):=by
 subst hl;have:=Um m hm p iu ie;rwa[h]at this
def Tp{m:List (List Dy)}{n p:Nat}{y:List (List Dy)}(hm:rA m)(hl:m.length=n)(iu:8<=p)(ie:p<=512)(h:tG m n p=some y):gW 262 [lO m,iP (p:Int)] (.ik [lO y,bP true]):=by
 subst hl;have:=Um m hm p iu ie;rwa[h]at this
noncomputable def IC(t:iV)(x:List Iv)(p:Nat)(y:List (List Dy))(i:Nat):PS:=⟨171,true,[(18,.own 18),(102,.e (iP i)),(101,.e (iP t.gY.length)),(16,.e (iP 0)),(17,.e (iW (yQ t x p y))),(14,.e (hH (wL t x p))),(12,.e (lO y)),(11,.e (hH (kn t x p))),(8,.e (iP t.gY.length)),(1,.e (hH x)),(2,.e (iP p))],[(18,.row true 41 i 7 (jh ((List.range i).map (λj_=>ky (x.getD j_ gZ) ((kn t x p).getD j_ gZ) p))))]⟩
noncomputable def ID(t:iV)(x:List Iv)(p:Nat)(y:List (List Dy))(i:Nat):PS:=⟨171,true,[(24,.own 24),(145,.e (iP i)),(144,.e (iP t.gY.length)),(22,.e (hH (oO t x p y))),(20,.e (hH (nG t x p y))),(11,.e (hH (kn t x p))),(2,.e (iP p))],[(24,.row true 41 i 7 (jh ((List.range i).map (λj_=>kU (ky ((kn t x p).getD j_ gZ) ((nG t x p y).getD j_ gZ) p) ((oO t x p y).getD j_ gZ) p))))]⟩
def MY{t:iV}{x:List Iv}(hk:lY t x){p:Nat}(iu:8<=p)(ie:p<=512):gW 260 [kC (sx (x.take t.gY.length) p)] (hH (kn t x p)):=by
 have h8:=hk.tape.iw;have k1:=hk.n1;have k2:=hk.nR;have hx:=hk.len;have hl:(sx (x.take t.gY.length) p).length=t.gY.length:=by unfold sx;simp;omega
 have:=YT (sx (x.take t.gY.length) p) aA aA λi=>by
  by_cases hi:i<(x.take t.gY.length).length
  .unfold sx;rw[AG hi];exact Bt (Xq hk.qH _ i) p
  .rw [bk,bR (by unfold sx;simpa using hi)];exact oI
 rwa[ag3]at this
def aee(t:iV)(x:List Iv)(hk:lY t x)(p:Nat)(iu:8<=p)(ie:p<=512)(n1:(mh (jT t x p))=true):gW 211 [jG t,hH x,iP p] (.ik [.v (.slice none 0 0),iP 15]):=by
 have h:=hk.tape;have h8:=h.iw;have qB:=h.gX;have qL:=h.gY;have k1:=hk.n1;have k2:=hk.nR;have hx:=hk.len;have hv:=hk.qH;have q1:1<=p:= aA ;have q2:p<=4096:= aA ;have k0:1<=x.length:= aA ;have rh:t.gY.length<=1000:= aA ;have vr:=uj t x p;have sO:(lU t x p).length=t.gY.length:=uG _ _ _ _;exact aj call211 func211 (ae [.c (CO t x hk),.c (CP (p:Int)),ag 33 (kF (p:Int)) (oG.2 ⟨aA,aA⟩),.c (yp t x p t.gY.length h k0 hx hv k2 aA aA),.c (wJ (jT t x p) aA),ag 47 (mh (jT t x p)) n1]) 
def aef(t:iV)(x:List Iv)(hk:lY t x)(p:Nat)(iu:8<=p)(ie:p<=512)(n1:(mh (jT t x p))=false)(n2:(rE (lU t x p))=true):gW 211 [jG t,hH x,iP p] (.ik [.v (.slice none 0 0),iP 15]):=by
 have h:=hk.tape;have h8:=h.iw;have qB:=h.gX;have qL:=h.gY;have k1:=hk.n1;have k2:=hk.nR;have hx:=hk.len;have hv:=hk.qH;have q1:1<=p:= aA ;have q2:p<=4096:= aA ;have k0:1<=x.length:= aA ;have rh:t.gY.length<=1000:= aA ;have vr:=uj t x p;have sO:(lU t x p).length=t.gY.length:=uG _ _ _ _;exact aj call211 func211 (ae [.c (CO t x hk),.c (CP (p:Int)),ag 33 (kF (p:Int)) (oG.2 ⟨aA,aA⟩),.c (yp t x p t.gY.length h k0 hx hv k2 aA aA),.c (wJ (jT t x p) aA),ah 47 (mh (jT t x p)) n1,.c (BL true _ _ 259 [] (λi=>mh ((lU t x p).getD i [])) (λi hi=>wJ _ (CN rh i)) aA:gW 159 [iW (lU t x p),.fn 259 []] _),ag 50 (rE (lU t x p)) n2]) 
def aeg(t:iV)(x:List Iv)(hk:lY t x)(p:Nat)(iu:8<=p)(ie:p<=512)(n1:(mh (jT t x p))=false)(n2:(rE (lU t x p))=false)(hi:tG (qW (lU t x p) p) t.gY.length p=none):gW 211 [jG t,hH x,iP p] (.ik [.v (.slice none 0 0),iP 15]):=by
 have h:=hk.tape;have h8:=h.iw;have qB:=h.gX;have qL:=h.gY;have k1:=hk.n1;have k2:=hk.nR;have hx:=hk.len;have hv:=hk.qH;have q1:1<=p:= aA ;have q2:p<=4096:= aA ;have k0:1<=x.length:= aA ;have rh:t.gY.length<=1000:= aA ;have vr:=uj t x p;have sO:(lU t x p).length=t.gY.length:=uG _ _ _ _;have gj:=IF hk q1 q2;have sV:(x.take t.gY.length).length=t.gY.length:= aL ;have Cr:∀ i,i<(x.take t.gY.length).length->((x.take t.gY.length).getD i gZ).ic/\((x.take t.gY.length).getD i gZ).all=false:=λi hi=>by
  rw[F9 aA];exact hk.ok i aA 
 have Ew:=NC n2;have rX:=MZ hk p;have tw:(qW (lU t x p) p).length=t.gY.length:=by rw[Nk,sO]
 exact aj call211 func211 (ae [.c (CO t x hk),.c (CP (p:Int)),ag 33 (kF (p:Int)) (oG.2 ⟨aA,aA⟩),.c (yp t x p t.gY.length h k0 hx hv k2 aA aA),.c (wJ (jT t x p) aA),ah 47 (mh (jT t x p)) n1,.c (BL true _ _ 259 [] (λi=>mh ((lU t x p).getD i [])) (λi hi=>wJ _ (CN rh i)) aA:gW 159 [iW (lU t x p),.fn 259 []] _),ah 50 (rE (lU t x p)) n2,.a (aA:0<=((t.gY.length:Int):Int)/\((t.gY.length:Int):Int)<=x.length),.o 54 (.e (oj aA):ai (.sl true t.gY.length 7 (E.iS (hH x))) (hH (x.take t.gY.length))),.c (KJ (x.take t.gY.length) aA aA Cr p iu ie),af [kC (sx (x.take t.gY.length) p)] (MY hk iu ie),af [iW (lU t x p),iP p] (Nt _ _ _ _ gj Ew iu ie),af [lO (qW (lU t x p) p),iP p] (adz (Nl gj) tw iu ie hi)]) 
def aeh(t:iV)(x:List Iv)(hk:lY t x)(p:Nat)(iu:8<=p)(ie:p<=512)(y:List (List Dy))(n1:(mh (jT t x p))=false)(n2:(rE (lU t x p))=false)(hi:tG (qW (lU t x p) p) t.gY.length p=some y)(n3:(mh (qp t x p y))=true):gW 211 [jG t,hH x,iP p] (.ik [.v (.slice none 0 0),iP 15]):=by
 have h:=hk.tape;have h8:=h.iw;have qB:=h.gX;have qL:=h.gY;have k1:=hk.n1;have k2:=hk.nR;have hx:=hk.len;have hv:=hk.qH;have q1:1<=p:= aA ;have q2:p<=4096:= aA ;have k0:1<=x.length:= aA ;have rh:t.gY.length<=1000:= aA ;have vr:=uj t x p;have sO:(lU t x p).length=t.gY.length:=uG _ _ _ _;have gj:=IF hk q1 q2;have sV:(x.take t.gY.length).length=t.gY.length:= aL ;have Cr:∀ i,i<(x.take t.gY.length).length->((x.take t.gY.length).getD i gZ).ic/\((x.take t.gY.length).getD i gZ).all=false:=λi hi=>by
  rw[F9 aA];exact hk.ok i aA 
 have Ew:=NC n2;have rX:=MZ hk p;have tw:(qW (lU t x p) p).length=t.gY.length:=by rw[Nk,sO]
 have hy:=MQ hi k1 aA q1 q2;have go:=NL hy.dm;rw[hy.len]at go;have gk:=TW hk hy q1 q2;have uq:=E5 hk p;have xv:(x.drop t.gY.length).length=t.iw-t.gY.length:=by rw[cG,hx]
 have yw:(wL t x p).length=t.gY.length:=uj _ _ _;have re:=TY hk q1 q2;have L9:=M0 t x p;have El:=TX hk q1 q2;have H8:(nG t x p y).length=t.gY.length:=by show(tg _ _ _).length=_;rw[DK];exact go.il
 have hhl:(oO t x p y).length=t.gY.length:=by show(tg _ _ _).length=_;rw[DK];exact gk.il
 have Mm:(qp t x p y).length=t.gY.length:=by simp[qp]
 exact aj call211 func211 (ae [.c (CO t x hk),.c (CP (p:Int)),ag 33 (kF (p:Int)) (oG.2 ⟨aA,aA⟩),.c (yp t x p t.gY.length h k0 hx hv k2 aA aA),.c (wJ (jT t x p) aA),ah 47 (mh (jT t x p)) n1,.c (BL true _ _ 259 [] (λi=>mh ((lU t x p).getD i [])) (λi hi=>wJ _ (CN rh i)) aA:gW 159 [iW (lU t x p),.fn 259 []] _),ah 50 (rE (lU t x p)) n2,.a (aA:0<=((t.gY.length:Int):Int)/\((t.gY.length:Int):Int)<=x.length),.o 54 (.e (oj aA):ai (.sl true t.gY.length 7 (E.iS (hH x))) (hH (x.take t.gY.length))),.c (KJ (x.take t.gY.length) aA aA Cr p iu ie),af [kC (sx (x.take t.gY.length) p)] (MY hk iu ie),af [iW (lU t x p),iP p] (Nt _ _ _ _ gj Ew iu ie),af [lO (qW (lU t x p) p),iP p] (Tp (Nl gj) tw iu ie hi),ah 72 (((kn t x p).length:Int) != (t.gY.length:Int)) (r8 rX),.a (aA:0<=((t.gY.length:Int):Int)/\((t.gY.length:Int):Int)<=x.length),.o 78 (.e (yP aA):ai (.sl true (x.length-t.gY.length) 7 λi_ j_=>(E.iS (hH x)) (t.gY.length+i_) j_) (hH (x.drop t.gY.length))),.o 79 (.e (tM _ _):ai (.sl true 2 1 λi_ j_=>[hH (kn t x p),hH (x.drop t.gY.length)].getD (i_*1+j_) (.v (.bool false))) (iW [kn t x p,x.drop t.gY.length])),af [iW [kn t x p,x.drop t.gY.length]] (uc (kn t x p) (x.drop t.gY.length) aA aA),.c (IE t ((kn t x p)++(x.drop t.gY.length)) p h (by rw[bY,rX,xv];omega) (by rw[bY,rX,xv];omega) (ON uq (OO hv _)) aA aA),.c (I3 y hy.dm),af [iW (vL y),iW (lU t x p),iP p] (UO _ _ _ _ _ _ go gj aA aA),ah 92 ((0:Int) != 0) aC,.c (UN t.gY.length aA aA),af [iW (zV t.gY.length),iW (wP (vL y) (lU t x p) p),iP p] (U9 _ _ _ _ _ (MJ aA aA) (Nr go gj q1 q2) iu ie),.y 18 18 true 41 7 (jh ((List.range 0).map (λj_=>ky (x.getD j_ gZ) ((kn t x p).getD j_ gZ) p))),.s (Sp.jE (IC t x p y) 0 t.gY.length aA (λi hi mw=>by
    have v1:=hv i;have v2:=uq i;have oY:=nS (ky (x.getD i gZ) ((kn t x p).getD i gZ) p);exact iF (aa [tT 103 ((i:Int)<t.gY.length) aA,iX (i:Int) (x.length) aA,iX (i:Int) ((kn t x p).length) aA,.c (yO (x.getD i gZ) ((kn t x p).getD i gZ) p aB aB aA aA),.o 116 (.e (kT _):ai (.sl true 1 7 λi_ j_=>(iQ (ky (x.getD i gZ) ((kn t x p).getD i gZ) p)).getD (i_*7+j_) (.v (.bool false))) (hH [ky (x.getD i gZ) ((kn t x p).getD i gZ) p])),.a (aA:(i+[ky (x.getD i gZ) ((kn t x p).getD i gZ) p].length)*88<=140737488355328),iA ((i:Int)+1) aA]<|.e (ae [.b 18 (uF rfl rfl rfl:Bx.le (.row true 41 (i+[ky (x.getD i gZ) ((kn t x p).getD i gZ) p].length) 7 (λi_ j_=>if i_<i then(jh ((List.range i).map (λj_=>ky (x.getD j_ gZ) ((kn t x p).getD j_ gZ) p))) i_ j_ else(E.iS (hH [ky (x.getD i gZ) ((kn t x p).getD i gZ) p])) (i_-i) j_)) (.row true 41 (i+1) 7 (jh ((List.range (i+1)).map (λj_=>ky (x.getD j_ gZ) ((kn t x p).getD j_ gZ) p)))))])) aD)
  (λhi=>by
    exact iF (aa [tF 103 ((t.gY.length:Int)<t.gY.length) aA,.z 18]<|.e (ae [.o 18 (.e (sY aF):ai (.sl true t.gY.length 7 (jh ((List.range t.gY.length).map (λj_=>ky (x.getD j_ gZ) ((kn t x p).getD j_ gZ) p)))) (hH (uH t x p)))])) aD) aG:jA 20 f211 (IC t x p y 0) (.exit 1) ⟨171,true,[(18,.e (hH (uH t x p))),(16,.e (iP 0)),(17,.e (iW (yQ t x p y))),(14,.e (hH (wL t x p))),(12,.e (lO y)),(11,.e (hH (kn t x p))),(8,.e (iP t.gY.length)),(2,.e (iP p))],[]⟩) .nil,.c (I3 y hy.dm),af [iW (vL y),hH (wL t x p),iP p] (I2 _ _ _ _ _ go yw re iu ie),af [iW (yQ t x p y),hH (uH t x p),iP p] (I2 _ _ _ _ _ gk L9 El iu ie),ah 135 ((0:Int) != 0) aC,ah 138 ((0:Int) != 0) aC,ah 142 ((0:Int) != 0) aC,.y 24 24 true 41 7 (jh ((List.range 0).map (λj_=>kU (ky ((kn t x p).getD j_ gZ) ((nG t x p y).getD j_ gZ) p) ((oO t x p y).getD j_ gZ) p))),.s (Sp.jE (ID t x p y) 0 t.gY.length aA (λi hi mw=>by
    have v1:=uq i;have v2:=B6 (a:=vL y) (x:=wL t x p) (i:=i) q1 q2;have v3:=B6 (a:=yQ t x p y) (x:=uH t x p) (i:=i) q1 q2;have v4:(ky ((kn t x p).getD i gZ) ((nG t x p y).getD i gZ) p).ic:=pT v1 (qX v2) q1 q2;have oY:=nS (kU (ky ((kn t x p).getD i gZ) ((nG t x p y).getD i gZ) p) ((oO t x p y).getD i gZ) p);exact iF (aa [tT 146 ((i:Int)<t.gY.length) aA,iX (i:Int) ((kn t x p).length) aA,iX (i:Int) ((nG t x p y).length) aA,.c (yO ((kn t x p).getD i gZ) ((nG t x p y).getD i gZ) p aB aB aA aA),iX (i:Int) ((oO t x p y).length) aA,.c (yN (ky ((kn t x p).getD i gZ) ((nG t x p y).getD i gZ) p) ((oO t x p y).getD i gZ) p aB aB aA aA),.o 165 (.e (kT _):ai (.sl true 1 7 λi_ j_=>(iQ (kU (ky ((kn t x p).getD i gZ) ((nG t x p y).getD i gZ) p) ((oO t x p y).getD i gZ) p)).getD (i_*7+j_) (.v (.bool false))) (hH [kU (ky ((kn t x p).getD i gZ) ((nG t x p y).getD i gZ) p) ((oO t x p y).getD i gZ) p])),.a (aA:(i+[kU (ky ((kn t x p).getD i gZ) ((nG t x p y).getD i gZ) p) ((oO t x p y).getD i gZ) p].length)*88<=140737488355328),iA ((i:Int)+1) aA]<|.e (ae [.b 24 (uF rfl rfl rfl:Bx.le (.row true 41 (i+[kU (ky ((kn t x p).getD i gZ) ((nG t x p y).getD i gZ) p) ((oO t x p y).getD i gZ) p].length) 7 (λi_ j_=>if i_<i then(jh ((List.range i).map (λj_=>kU (ky ((kn t x p).getD j_ gZ) ((nG t x p y).getD j_ gZ) p) ((oO t x p y).getD j_ gZ) p))) i_ j_ else(E.iS (hH [kU (ky ((kn t x p).getD i gZ) ((nG t x p y).getD i gZ) p) ((oO t x p y).getD i gZ) p])) (i_-i) j_)) (.row true 41 (i+1) 7 (jh ((List.range (i+1)).map (λj_=>kU (ky ((kn t x p).getD j_ gZ) ((nG t x p y).getD j_ gZ) p) ((oO t x p y).getD j_ gZ) p)))))])) aD)
  (λhi=>by
    exact iF (aa [tF 146 ((t.gY.length:Int)<t.gY.length) aA,.z 24]<|.e (ae [.o 24 (.e (sY aF):ai (.sl true t.gY.length 7 (jh ((List.range t.gY.length).map (λj_=>kU (ky ((kn t x p).getD j_ gZ) ((nG t x p y).getD j_ gZ) p) ((oO t x p y).getD j_ gZ) p)))) (hH (qp t x p y)))])) aD) aG:jA 30 f211 (ID t x p y 0) (.exit 3) ⟨171,true,[(24,.e (hH (qp t x p y)))],[]⟩) .nil,.c (wJ (qp t x p y) aA),ag 169 (mh (qp t x p y)) n3]) 
def aei(t:iV)(x:List Iv)(hk:lY t x)(p:Nat)(iu:8<=p)(ie:p<=512)(y:List (List Dy))(n1:(mh (jT t x p))=false)(n2:(rE (lU t x p))=false)(hi:tG (qW (lU t x p) p) t.gY.length p=some y)(n3:(mh (qp t x p y))=false):gW 211 [jG t,hH x,iP p] (.ik [hH (qp t x p y),iP 0]):=by
 have h:=hk.tape;have h8:=h.iw;have qB:=h.gX;have qL:=h.gY;have k1:=hk.n1;have k2:=hk.nR;have hx:=hk.len;have hv:=hk.qH;have q1:1<=p:= aA ;have q2:p<=4096:= aA ;have k0:1<=x.length:= aA ;have rh:t.gY.length<=1000:= aA ;have vr:=uj t x p;have sO:(lU t x p).length=t.gY.length:=uG _ _ _ _;have gj:=IF hk q1 q2;have sV:(x.take t.gY.length).length=t.gY.length:= aL ;have Cr:∀ i,i<(x.take t.gY.length).length->((x.take t.gY.length).getD i gZ).ic/\((x.take t.gY.length).getD i gZ).all=false:=λi hi=>by
  rw[F9 aA];exact hk.ok i aA 
 have Ew:=NC n2;have rX:=MZ hk p;have tw:(qW (lU t x p) p).length=t.gY.length:=by rw[Nk,sO]
 have hy:=MQ hi k1 aA q1 q2;have go:=NL hy.dm;rw[hy.len]at go;have gk:=TW hk hy q1 q2;have uq:=E5 hk p;have xv:(x.drop t.gY.length).length=t.iw-t.gY.length:=by rw[cG,hx]
 have yw:(wL t x p).length=t.gY.length:=uj _ _ _;have re:=TY hk q1 q2;have L9:=M0 t x p;have El:=TX hk q1 q2;have H8:(nG t x p y).length=t.gY.length:=by show(tg _ _ _).length=_;rw[DK];exact go.il
 have hhl:(oO t x p y).length=t.gY.length:=by show(tg _ _ _).length=_;rw[DK];exact gk.il
 have Mm:(qp t x p y).length=t.gY.length:=by simp[qp]
 exact aj call211 func211 (ae [.c (CO t x hk),.c (CP (p:Int)),ag 33 (kF (p:Int)) (oG.2 ⟨aA,aA⟩),.c (yp t x p t.gY.length h k0 hx hv k2 aA aA),.c (wJ (jT t x p) aA),ah 47 (mh (jT t x p)) n1,.c (BL true _ _ 259 [] (λi=>mh ((lU t x p).getD i [])) (λi hi=>wJ _ (CN rh i)) aA:gW 159 [iW (lU t x p),.fn 259 []] _),ah 50 (rE (lU t x p)) n2,.a (aA:0<=((t.gY.length:Int):Int)/\((t.gY.length:Int):Int)<=x.length),.o 54 (.e (oj aA):ai (.sl true t.gY.length 7 (E.iS (hH x))) (hH (x.take t.gY.length))),.c (KJ (x.take t.gY.length) aA aA Cr p iu ie),af [kC (sx (x.take t.gY.length) p)] (MY hk iu ie),af [iW (lU t x p),iP p] (Nt _ _ _ _ gj Ew iu ie),af [lO (qW (lU t x p) p),iP p] (Tp (Nl gj) tw iu ie hi),ah 72 (((kn t x p).length:Int) != (t.gY.length:Int)) (r8 rX),.a (aA:0<=((t.gY.length:Int):Int)/\((t.gY.length:Int):Int)<=x.length),.o 78 (.e (yP aA):ai (.sl true (x.length-t.gY.length) 7 λi_ j_=>(E.iS (hH x)) (t.gY.length+i_) j_) (hH (x.drop t.gY.length))),.o 79 (.e (tM _ _):ai (.sl true 2 1 λi_ j_=>[hH (kn t x p),hH (x.drop t.gY.length)].getD (i_*1+j_) (.v (.bool false))) (iW [kn t x p,x.drop t.gY.length])),af [iW [kn t x p,x.drop t.gY.length]] (uc (kn t x p) (x.drop t.gY.length) aA aA),.c (IE t ((kn t x p)++(x.drop t.gY.length)) p h (by rw[bY,rX,xv];omega) (by rw[bY,rX,xv];omega) (ON uq (OO hv _)) aA aA),.c (I3 y hy.dm),af [iW (vL y),iW (lU t x p),iP p] (UO _ _ _ _ _ _ go gj aA aA),ah 92 ((0:Int) != 0) aC,.c (UN t.gY.length aA aA),af [iW (zV t.gY.length),iW (wP (vL y) (lU t x p) p),iP p] (U9 _ _ _ _ _ (MJ aA aA) (Nr go gj q1 q2) iu ie),.y 18 18 true 41 7 (jh ((List.range 0).map (λj_=>ky (x.getD j_ gZ) ((kn t x p).getD j_ gZ) p))),.s (Sp.jE (IC t x p y) 0 t.gY.length aA (λi hi mw=>by
    have v1:=hv i;have v2:=uq i;have oY:=nS (ky (x.getD i gZ) ((kn t x p).getD i gZ) p);exact iF (aa [tT 103 ((i:Int)<t.gY.length) aA,iX (i:Int) (x.length) aA,iX (i:Int) ((kn t x p).length) aA,.c (yO (x.getD i gZ) ((kn t x p).getD i gZ) p aB aB aA aA),.o 116 (.e (kT _):ai (.sl true 1 7 λi_ j_=>(iQ (ky (x.getD i gZ) ((kn t x p).getD i gZ) p)).getD (i_*7+j_) (.v (.bool false))) (hH [ky (x.getD i gZ) ((kn t x p).getD i gZ) p])),.a (aA:(i+[ky (x.getD i gZ) ((kn t x p).getD i gZ) p].length)*88<=140737488355328),iA ((i:Int)+1) aA]<|.e (ae [.b 18 (uF rfl rfl rfl:Bx.le (.row true 41 (i+[ky (x.getD i gZ) ((kn t x p).getD i gZ) p].length) 7 (λi_ j_=>if i_<i then(jh ((List.range i).map (λj_=>ky (x.getD j_ gZ) ((kn t x p).getD j_ gZ) p))) i_ j_ else(E.iS (hH [ky (x.getD i gZ) ((kn t x p).getD i gZ) p])) (i_-i) j_)) (.row true 41 (i+1) 7 (jh ((List.range (i+1)).map (λj_=>ky (x.getD j_ gZ) ((kn t x p).getD j_ gZ) p)))))])) aD)
  (λhi=>by
    exact iF (aa [tF 103 ((t.gY.length:Int)<t.gY.length) aA,.z 18]<|.e (ae [.o 18 (.e (sY aF):ai (.sl true t.gY.length 7 (jh ((List.range t.gY.length).map (λj_=>ky (x.getD j_ gZ) ((kn t x p).getD j_ gZ) p)))) (hH (uH t x p)))])) aD) aG:jA 20 f211 (IC t x p y 0) (.exit 1) ⟨171,true,[(18,.e (hH (uH t x p))),(16,.e (iP 0)),(17,.e (iW (yQ t x p y))),(14,.e (hH (wL t x p))),(12,.e (lO y)),(11,.e (hH (kn t x p))),(8,.e (iP t.gY.length)),(2,.e (iP p))],[]⟩) .nil,.c (I3 y hy.dm),af [iW (vL y),hH (wL t x p),iP p] (I2 _ _ _ _ _ go yw re iu ie),af [iW (yQ t x p y),hH (uH t x p),iP p] (I2 _ _ _ _ _ gk L9 El iu ie),ah 135 ((0:Int) != 0) aC,ah 138 ((0:Int) != 0) aC,ah 142 ((0:Int) != 0) aC,.y 24 24 true 41 7 (jh ((List.range 0).map (λj_=>kU (ky ((kn t x p).getD j_ gZ) ((nG t x p y).getD j_ gZ) p) ((oO t x p y).getD j_ gZ) p))),.s (Sp.jE (ID t x p y) 0 t.gY.length aA (λi hi mw=>by
    have v1:=uq i;have v2:=B6 (a:=vL y) (x:=wL t x p) (i:=i) q1 q2;have v3:=B6 (a:=yQ t x p y) (x:=uH t x p) (i:=i) q1 q2;have v4:(ky ((kn t x p).getD i gZ) ((nG t x p y).getD i gZ) p).ic:=pT v1 (qX v2) q1 q2;have oY:=nS (kU (ky ((kn t x p).getD i gZ) ((nG t x p y).getD i gZ) p) ((oO t x p y).getD i gZ) p);exact iF (aa [tT 146 ((i:Int)<t.gY.length) aA,iX (i:Int) ((kn t x p).length) aA,iX (i:Int) ((nG t x p y).length) aA,.c (yO ((kn t x p).getD i gZ) ((nG t x p y).getD i gZ) p aB aB aA aA),iX (i:Int) ((oO t x p y).length) aA,.c (yN (ky ((kn t x p).getD i gZ) ((nG t x p y).getD i gZ) p) ((oO t x p y).getD i gZ) p aB aB aA aA),.o 165 (.e (kT _):ai (.sl true 1 7 λi_ j_=>(iQ (kU (ky ((kn t x p).getD i gZ) ((nG t x p y).getD i gZ) p) ((oO t x p y).getD i gZ) p)).getD (i_*7+j_) (.v (.bool false))) (hH [kU (ky ((kn t x p).getD i gZ) ((nG t x p y).getD i gZ) p) ((oO t x p y).getD i gZ) p])),.a (aA:(i+[kU (ky ((kn t x p).getD i gZ) ((nG t x p y).getD i gZ) p) ((oO t x p y).getD i gZ) p].length)*88<=140737488355328),iA ((i:Int)+1) aA]<|.e (ae [.b 24 (uF rfl rfl rfl:Bx.le (.row true 41 (i+[kU (ky ((kn t x p).getD i gZ) ((nG t x p y).getD i gZ) p) ((oO t x p y).getD i gZ) p].length) 7 (λi_ j_=>if i_<i then(jh ((List.range i).map (λj_=>kU (ky ((kn t x p).getD j_ gZ) ((nG t x p y).getD j_ gZ) p) ((oO t x p y).getD j_ gZ) p))) i_ j_ else(E.iS (hH [kU (ky ((kn t x p).getD i gZ) ((nG t x p y).getD i gZ) p) ((oO t x p y).getD i gZ) p])) (i_-i) j_)) (.row true 41 (i+1) 7 (jh ((List.range (i+1)).map (λj_=>kU (ky ((kn t x p).getD j_ gZ) ((nG t x p y).getD j_ gZ) p) ((oO t x p y).getD j_ gZ) p)))))])) aD)
  (λhi=>by
    exact iF (aa [tF 146 ((t.gY.length:Int)<t.gY.length) aA,.z 24]<|.e (ae [.o 24 (.e (sY aF):ai (.sl true t.gY.length 7 (jh ((List.range t.gY.length).map (λj_=>kU (ky ((kn t x p).getD j_ gZ) ((nG t x p y).getD j_ gZ) p) ((oO t x p y).getD j_ gZ) p)))) (hH (qp t x p y)))])) aD) aG:jA 30 f211 (ID t x p y 0) (.exit 3) ⟨171,true,[(24,.e (hH (qp t x p y)))],[]⟩) .nil,.c (wJ (qp t x p y) aA),ah 169 (mh (qp t x p y)) n3]) 
def TS(t:iV)(x:List Iv)(hk:lY t x)(p:Nat)(iu:8<=p)(ie:p<=512):gW 211 [jG t,hH x,iP (p:Int)] (agK (qZ t x p)):=by
 unfold qZ;cases n1:mh (jT t x p)with
 |true=>exact aee t x hk p iu ie n1
 |false=>
  cases n2:rE (lU t x p)with
  |true=>exact aef t x hk p iu ie n1 n2
  |false=>
   rw[dP,bh aC];cases hi:tG (qW (lU t x p) p) t.gY.length p with
   |none=>exact aeg t x hk p iu ie n1 n2 hi
   |some y=>
    simp only;cases n3:mh (qp t x p y)with
    |true=>exact aeh t x hk p iu ie y n1 n2 hi n3
    |false=>exact aei t x hk p iu ie y n1 n2 hi n3
def VG{t:iV}{x k:List Iv}(hk:lY t x){p:Nat}(iu:8<=p)(ie:p<=512)(h:qZ t x p=some k):
 ∃ y,tG (qW (lU t x p) p) t.gY.length p=some y/\mh (jT t x p)=false/\rE (lU t x p)=false/\k=qp t x p y/\k.length=t.gY.length/\∀ i,i<k.length->(k.getD i gZ).ic/\(k.getD i gZ).all=false:=by
 unfold qZ at h;split at h
 .cases h
 .rename_i hn;have hn:=aZ hn;rw[dQ]at hn;split at h
  .cases h
  .rename_i y hy;split at h
   .cases h
   .rename_i h3;cases h;have hl:(qp t x p y).length=t.gY.length:=by simp[qp]
    refine⟨y,hy,hn.1,hn.2,rfl,hl,λi hi=>⟨?_,?_⟩⟩
    .have q1:1<=p:= aA ;have q2:p<=4096:= aA ;unfold qp;rw[rN aA];exact pT (pT (E5 hk p i) (qX (B6 q1 q2)) q1 q2) (B6 q1 q2) q1 q2
    .have h3:=aZ h3;have:=cw.1 h3 i (bJ.2 hi);simpa using this
def vM(l:List Iv):Bool:=(List.range l.length).any λi=>!pv (l.getD i gZ) iL
noncomputable def pR(t:iV)(x:List Iv)(p:Nat):Bool:=vM (jT t x p)||vM (vI t x p)
noncomputable def oE(t:iV)(b:List Iv)(p:Nat):Option (Int×List Iv):=
 if pR t b p then some (1,[])else match qZ t b p with
  |none=>some (0,b.take t.gY.length)
  |some k=>if sW k (b.take t.gY.length)then some (2,k)else if !yX k (b.take t.gY.length)then some (1,[])
   else if rU (ki k (b.take t.gY.length)) (b.take t.gY.length)then some (0,b.take t.gY.length)else none
noncomputable def vG(t:iV)(b:List Iv)(p:Nat):List Iv:=match qZ t b p with
 |none=>b
 |some k=>ki k (b.take t.gY.length)++b.drop t.gY.length
noncomputable def ij(t:iV)(x:List Iv)(p:Nat):Nat->List Iv
 | 0=>x
 |i+1=>vG t (ij t x p i) p
noncomputable def rn(t:iV)(x:List Iv)(p:Nat):Nat->Nat->Int×List Iv
 | 0,i=>(0,(ij t x p i).take t.gY.length)
 |m+1,i=>match oE t (ij t x p i) p with
  |some r=>r
  |none=>rn t x p m (i+1)
noncomputable def uJ(t:iV)(x:List Iv)(p:Nat):Int×List Iv:=rn t x p 12 0
def Ue(r:Int×List Iv):E:=.ik [hH r.2,iP r.1]
def Vp{c:Int}:E.le (.ik [.v (.slice none 0 0),iP c]) (Ue (c,[])):=.ik (.cons (.nil _ _ _) (.cons (.refl _) .nil))
def afv{t:iV}{x:List Iv}{p:Nat}(hv:mf x)(h1:1<=p)(h2:p<=4096):mf (vI t x p):=λi=>by
 by_cases h:i<t.gY.length
 .rw [afu h];exact aft hv h1 h2 i
 .rw [bk,bR (by rw[UQ];omega)];exact lX
def lY.take{t:iV}{x:List Iv}(h:lY t x):kG t.gY.length (x.take t.gY.length):=by
 have h1:=h.nR;have h2:=h.len;have hl:(x.take t.gY.length).length=t.gY.length:= aL ;exact⟨hl,λi hi=>by rw[hl]at hi;rw[F9 hi];exact h.ok i aA⟩
def lY.next{t:iV}{x m:List Iv}(h:lY t x)(hm:kG t.gY.length m):lY t (m++x.drop t.gY.length):=by
 have h1:=h.nR;have h2:=h.len;refine⟨h.tape,h.n1,h.nR,by rw[bY,hm.len,cG];omega,λi hi=>?_⟩;by_cases kI:i<m.length
 .have e:(m++x.drop t.gY.length).getD i gZ=m.getD i gZ:=by simp only[bk];rw[dg kI]
  rw[e];exact hm.ok i kI
 .have e:(m++x.drop t.gY.length).getD i gZ=x.getD (t.gY.length+(i-m.length)) gZ:=by
   rw[<-QQ];simp only[bk];rw[dH aA]
  rw[e];rw[bY,cG]at hi;have:=hm.len;exact h.ok _ aA 
def wU{t:iV}{x k:List Iv}(hk:lY t x){p:Nat}(iu:8<=p)(ie:p<=512)(h:qZ t x p=some k):kG t.gY.length k:=by
 obtain⟨_,_,_,_,_,hl,ho⟩:=VG hk iu ie h;exact⟨hl,ho⟩
def z8{t:iV}{b:List Iv}{p:Nat}(h:oE t b p=none):pR t b p=false/\∃ k,qZ t b p=some k/\sW k (b.take t.gY.length)=false/\yX k (b.take t.gY.length)=true/\rU (ki k (b.take t.gY.length)) (b.take t.gY.length)=false/\vG t b p=ki k (b.take t.gY.length)++b.drop t.gY.length:=by
 unfold oE at h;split at h
 .cases h
 .rename_i h1;cases iq:qZ t b p with
  |none=>rw[iq]at h;cases h
  |some k=>
   rw[iq]at h;simp only at h;split at h
   .cases h
   .rename_i h2;split at h
    .cases h
    .rename_i h3;split at h
     .cases h
     .rename_i h4;refine⟨aZ h1,k,rfl,aZ h2,by simpa using h3,aZ h4,?_⟩;unfold vG;rw[iq]
def IJ{t:iV}{b:List Iv}(hk:lY t b){p:Nat}(iu:8<=p)(ie:p<=512)(h:oE t b p=none):lY t (vG t b p):=by
 obtain⟨_,k,h1,_,h3,_,h5⟩:=z8 h;rw[h5];exact hk.next (Ae (wU hk iu ie h1) hk.take h3)
def tL{t:iV}{x:List Iv}(hk:lY t x){p:Nat}(iu:8<=p)(ie:p<=512):∀ i,(∀ j,j<i->oE t (ij t x p j) p=none)->lY t (ij t x p i)
 | 0,_=>hk
 |i+1,h=>IJ (tL hk iu ie i λj hj=>h j aA) iu ie (h i aA)
def Uf{t:iV}{x:List Iv}{p N:Nat}{r:Int×List Iv}(hr:oE t (ij t x p N) p=some r):∀ d m i,i+d=N->d<m->(∀ j,j<N->oE t (ij t x p j) p=none)->rn t x p m i=r
 | 0,m,i,h1,h2,h=>by
  obtain⟨m,rfl⟩:∃ q,m=q+1:=⟨m-1,aA⟩
  obtain rfl:i=N:= aA ;unfold rn;rw[hr]
 |d+1,m,i,h1,h2,h=>by
  obtain⟨m,rfl⟩:∃ q,m=q+1:=⟨m-1,aA⟩
  unfold rn;rw[h i aA];exact Uf hr d m (i+1) aA aA h
def Uh{t:iV}{x:List Iv}{p:Nat}:∀ m i,(∀ j,j<i+m->oE t (ij t x p j) p=none)->rn t x p m i=(0,(ij t x p (i+m)).take t.gY.length)
 | 0,i,_=>rfl
 |m+1,i,h=>by
  unfold rn;rw[h i aA];have:=Uh (t:=t) (x:=x) (p:=p) m (i+1) (λj hj=>h j aA);rw[(aA:i+1+m=i+(m+1))]at this;exact this
def Bz{P:Program}{K:World->Prop}{f:FuncId}{args:List E}{nl:Bool}{T:TypeId}{n sz:Nat}{el:Nat->Nat->E}(h:tZ P K f args nl T n sz el):PC P K f args (.sl nl n sz el):=
 ⟨h.call,λw B vs hK hB hr=>(h.run w B vs hK hB hr).mono λe w' ⟨v,he,hb,g,lp,rW,xx⟩=>⟨v,he,hb,by
  rcases lp with⟨rfl,rfl⟩|⟨b,ofs,c,cur,rfl,hg,oW,nM,oh,ku,jB⟩
  .exact .sl nl 0 sz el none 0 g (bl _) aC (λ_=>rfl) (λi j hi=>absurd hi (bu i)) (λi j hi=>absurd hi (bu i)) (λi j hi=>absurd hi (bu i)) (λi j hi=>absurd hi (bu i))
  .have og:=rW b rfl;refine .sl nl n sz el _ c g oW (by unfold maxLen at nM;omega) (λh=>by cases h) (λi j hi hj=>⟨(ku i j hi hj).2,λhn=>jB hn _ (dI (ku i j hi hj).1)⟩) (λi j hi hj=>(xx i j hi hj).2)
    (λi j hi hj=>⟨b,ofs,rfl,λHm=>absurd (hB b Hm).1 aA,og.2,?_⟩) (λi j hi hj=>(xx i j hi hj).1.mX (λ_ h=>.inl h) (λ_ h=>h))
   simp only[World.cell?,hg];simpa using(ku i j hi hj).1⟩⟩
def y5{t:iV}{x k:List Iv}(hk:lY t x){p:Nat}(iu:8<=p)(ie:p<=512)(h:qZ t x p=some k):gW 211 [jG t,hH x,iP (p:Int)] (.ik [hH k,iP 0]):=by
 have:=TS t x hk p iu ie;rwa[h]at this
def agI{t:iV}{x:List Iv}(hk:lY t x){p:Nat}(iu:8<=p)(ie:p<=512)(h:qZ t x p=none):gW 211 [jG t,hH x,iP (p:Int)] (.ik [.v (.slice none 0 0),iP 15]):=by
 have:=TS t x hk p iu ie;rwa[h]at this
noncomputable def TL(t:iV)(x:List Iv)(p N:Nat)(i:Nat):PS:=⟨68,true,[(19,.e (iP i)),(9,.e (hH (ij t x p i))),(8,.e (iP t.gY.length)),(3,.box 3 0),(2,.e (iP p))],[(3,.cells 29 [iP t.iw,kP t.gX,kR t.gY])]⟩
noncomputable def TM(t:iV)(x:List Iv)(p N:Nat)(i:Nat):PS:=⟨68,true,[(19,.e (iP i)),(9,.e (hH (ij t x p i))),(8,.e (iP t.gY.length)),(3,.box 3 0),(2,.e (iP p))],[(3,.cells 29 [iP t.iw,kP t.gX,kR t.gY])]⟩
noncomputable def TN(t:iV)(x:List Iv)(p N:Nat)(i:Nat):PS:=⟨68,true,[(19,.e (iP i)),(9,.e (hH (ij t x p i))),(8,.e (iP t.gY.length)),(3,.box 3 0),(2,.e (iP p))],[(3,.cells 29 [iP t.iw,kP t.gX,kR t.gY])]⟩
noncomputable def TO(t:iV)(x:List Iv)(p N:Nat)(i:Nat):PS:=⟨68,true,[(19,.e (iP i)),(9,.e (hH (ij t x p i))),(8,.e (iP t.gY.length)),(3,.box 3 0),(2,.e (iP p))],[(3,.cells 29 [iP t.iw,kP t.gX,kR t.gY])]⟩
noncomputable def TP(t:iV)(x:List Iv)(p N:Nat)(i:Nat):PS:=⟨68,true,[(19,.e (iP i)),(9,.e (hH (ij t x p i))),(8,.e (iP t.gY.length)),(3,.box 3 0),(2,.e (iP p))],[(3,.cells 29 [iP t.iw,kP t.gX,kR t.gY])]⟩
noncomputable def TQ(t:iV)(x:List Iv)(p:Nat)(i:Nat):PS:=⟨68,true,[(19,.e (iP i)),(9,.e (hH (ij t x p i))),(8,.e (iP t.gY.length)),(3,.box 3 0),(2,.e (iP p))],[(3,.cells 29 [iP t.iw,kP t.gX,kR t.gY])]⟩
def aed(x:Iv)(d:Dy)(hx:x.ic)(hd:d.ic):gW 256 [ix x,(.jD 3 λj_=>[bP d.neg,iz (ia d.m),iP d.e].getD j_ .any)] (bP (!(pv x d))):=
 aj call256 func256 (aa [.c (CL x d aB aB)]<|rR (bP (!(pv x d))) (.refl _:E.le (bP (!(pv x d))) (bP (!(pv x d))))) 
def TR(l:List Iv)(hl:l.length<=1000)(hv:mf l):gW 255 [hH l,(.jD 3 λj_=>[bP iL.neg,iz (ia iL.m),iP iL.e].getD j_ .any)] (bP (vM l)):=
 aj call255 func255 (aa [.c (EX true _ _ 256 _ (λi=>!pv (l.getD i gZ) iL) (λi hi=>aed _ _ (hv i) oI) aA:gW 39 [hH l,.fn 256 [(.jD 3 λj_=>[bP iL.neg,iz (ia iL.m),iP iL.e].getD j_ .any)]] _)]<|rR (bP (vM l)) (.refl _:E.le (bP (vM l)) (bP (vM l)))) 
def wK(t:iV)(x:List Iv)(hk:lY t x)(p:Nat)(iu:8<=p)(ie:p<=512):gW 210 [jG t,hH x,iP p] (bP (pR t x p)):=by
 have h:=hk.tape;have h8:=h.iw;have qB:=h.gX;have qL:=h.gY;have k1:=hk.n1;have k2:=hk.nR;have hx:=hk.len;have hv:=hk.qH;have k0:1<=x.length:= aA ;have vr:=uj t x p;have mF:=UQ t x p;have re:=Cl t hv (aA:1<=p) (aA:p<=4096);have Et:=afv (t:=t) hv (aA:1<=p) (aA:p<=4096);exact aj call210 func210 (aa [.o 9 (.e tc:ai (.agg an) (ib iL)),.c (IE t x p h k0 hx hv iu ie),.c (TR (jT t x p) aA re)]<|.w (vM (jT t x p)=true)
  (λk1=>aa [tB 16 k1]<|rQ (bP true) (bP (pR t x p)) (vC (by unfold pR;simp_all)))
  (λk1=>aa [tB 16 (aZ k1),.c (aec t x p h k0 hx hv iu ie (λi hi=>(hk.ok i hi).2)),.c (TR (vI t x p) aA Et)]<|rQ (bP (vM (vI t x p))) (bP (pR t x p)) (vC (by unfold pR;simp_all)))) 
def ad5(t:iV)(x:List Iv)(hk:lY t x)(p:Nat)(iu:8<=p)(ie:p<=512)(N:Nat)(hN:N<12)(jj:∀ j,j<N->oE t (ij t x p j) p=none)(oA:(pR t (ij t x p N) p)=true):gW 136 [jG t,hH x,iP p] (.ik [.v (.slice none 0 0),iP 1]):=by
 have h:=hk.tape;have h8:=h.iw;have qB:=h.gX;have qL:=h.gY;have k1:=hk.n1;have k2:=hk.nR;have hx:=hk.len;have hv:=hk.qH;have k0:1<=x.length:= aA ;exact aj call136 func136 (aa [af [hH x] (Bz (xk x aA aA)),.s (Sp.jE (TL t x p N) 0 N aA (λi hi mw=>by
    obtain⟨oA,k,iq,jP,pB,heq,jO⟩:=z8 (jj i aA);have jN:=tL hk iu ie i λj hj=>jj j aA 
    have og:=jN.len;have xu:=jN.nR;have my:=jN.take;have sV:=my.len;have tbo:=my.ok;have na:=wU jN iu ie iq;have kbo:=na.ok;have kl:=na.len;have kb1:1<=k.length:= aA ;have kb8:k.length<=8:= aA ;have kbl:k.length=((ij t x p i).take t.gY.length).length:= aA ;have pA:=Ae na my pB;have mbo:=pA.ok;have mlen:=pA.len;have mb1:1<=(ki k ((ij t x p i).take t.gY.length)).length:= aA ;have mb8:(ki k ((ij t x p i).take t.gY.length)).length<=8:= aA ;have mbl:(ki k ((ij t x p i).take t.gY.length)).length=((ij t x p i).take t.gY.length).length:= aA ;have tp:((ij t x p i).drop t.gY.length).length=t.iw-t.gY.length:=by rw[cG,og]
    exact iF (aa [tT 20 ((i:Int)<12) aA,.c (wK t (ij t x p i) jN p iu ie),ah 24 (pR t (ij t x p i) p) oA,af [jG t,hH (ij t x p i),iP p] (y5 jN iu ie iq),ah 33 ((0:Int) != 0) aC,.a (aA:0<=((t.gY.length:Int):Int)/\((t.gY.length:Int):Int)<=((ij t x p i).length:Int)),.o 40 (.e (oj aA):ai (.sl true t.gY.length 7 (E.iS (hH (ij t x p i)))) (hH ((ij t x p i).take t.gY.length))),.c (yh k ((ij t x p i).take t.gY.length) kb1 kb8 kbl.symm kbo tbo),ah 41 (sW k ((ij t x p i).take t.gY.length)) jP,.a (aA:0<=((t.gY.length:Int):Int)/\((t.gY.length:Int):Int)<=((ij t x p i).length:Int)),.o 47 (.e (oj aA):ai (.sl true t.gY.length 7 (E.iS (hH (ij t x p i)))) (hH ((ij t x p i).take t.gY.length))),af [hH k,hH ((ij t x p i).take t.gY.length)] (Az _ _ kb1 kb8 kbl.symm kbo tbo pB),.a (aA:0<=((t.gY.length:Int):Int)/\((t.gY.length:Int):Int)<=((ij t x p i).length:Int)),.o 56 (.e (oj aA):ai (.sl true t.gY.length 7 (E.iS (hH (ij t x p i)))) (hH ((ij t x p i).take t.gY.length))),.c (vk (ki k ((ij t x p i).take t.gY.length)) ((ij t x p i).take t.gY.length) mb1 mb8 mbl.symm mbo tbo),ah 57 (rU (ki k ((ij t x p i).take t.gY.length)) ((ij t x p i).take t.gY.length)) heq,.a (aA:0<=((t.gY.length:Int):Int)/\((t.gY.length:Int):Int)<=((ij t x p i).length:Int)),.o 61 (.e (yP aA):ai (.sl true ((ij t x p i).length-t.gY.length) 7 λi_ j_=>(E.iS (hH (ij t x p i))) (t.gY.length+i_) j_) (hH ((ij t x p i).drop t.gY.length))),.o 62 (.e (tM _ _):ai (.sl true 2 1 λi_ j_=>[hH (ki k ((ij t x p i).take t.gY.length)),hH ((ij t x p i).drop t.gY.length)].getD (i_*1+j_) (.v (.bool false))) (iW [ki k ((ij t x p i).take t.gY.length),(ij t x p i).drop t.gY.length])),af [iW [ki k ((ij t x p i).take t.gY.length),(ij t x p i).drop t.gY.length]] (uc (ki k ((ij t x p i).take t.gY.length)) ((ij t x p i).drop t.gY.length) aA aA),
     iA ((i:Int)+1) aA]<|.e (ae [.o 9 (.e (.iD (by rw[show ij t x p (i+1)=vG t (ij t x p i) p from rfl,jO])):ai (hH ((ki k ((ij t x p i).take t.gY.length))++((ij t x p i).drop t.gY.length))) (hH (ij t x p (i+1))))])) aD)
  (λhi=>by
    have jN:=tL hk iu ie N jj;have og:=jN.len;have xu:=jN.nR;have my:=jN.take;have sV:=my.len;have tbo:=my.ok;exact iF (ae [tT 20 ((N:Int)<12) aA,.c (wK t (ij t x p N) jN p iu ie),ag 24 (pR t (ij t x p N) p) oA]) aD) aG:jA 4 f136 (TL t x p N 0) .ret ⟨68,true,[(7,.e (iP 1)),(6,.e (.v (.slice none 0 0)))],[]⟩) (ae [.o 9 (.e (.iD rfl):ai (hH x) (hH (ij t x p 0)))])]<|rR (.ik [.v (.slice none 0 0),iP 1]) (.refl _:E.le (.ik [.v (.slice none 0 0),iP 1]) (.ik [.v (.slice none 0 0),iP 1]))) 
def ad6(t:iV)(x:List Iv)(hk:lY t x)(p:Nat)(iu:8<=p)(ie:p<=512)(N:Nat)(hN:N<12)(jj:∀ j,j<N->oE t (ij t x p j) p=none)(oA:(pR t (ij t x p N) p)=false)(iq:qZ t (ij t x p N) p=none):gW 136 [jG t,hH x,iP p] (.ik [hH ((ij t x p N).take t.gY.length),iP 0]):=by
 have h:=hk.tape;have h8:=h.iw;have qB:=h.gX;have qL:=h.gY;have k1:=hk.n1;have k2:=hk.nR;have hx:=hk.len;have hv:=hk.qH;have k0:1<=x.length:= aA ;exact aj call136 func136 (aa [af [hH x] (Bz (xk x aA aA)),.s (Sp.jE (TM t x p N) 0 N aA (λi hi mw=>by
    obtain⟨oA,k,iq,jP,pB,heq,jO⟩:=z8 (jj i aA);have jN:=tL hk iu ie i λj hj=>jj j aA 
    have og:=jN.len;have xu:=jN.nR;have my:=jN.take;have sV:=my.len;have tbo:=my.ok;have na:=wU jN iu ie iq;have kbo:=na.ok;have kl:=na.len;have kb1:1<=k.length:= aA ;have kb8:k.length<=8:= aA ;have kbl:k.length=((ij t x p i).take t.gY.length).length:= aA ;have pA:=Ae na my pB;have mbo:=pA.ok;have mlen:=pA.len;have mb1:1<=(ki k ((ij t x p i).take t.gY.length)).length:= aA ;have mb8:(ki k ((ij t x p i).take t.gY.length)).length<=8:= aA ;have mbl:(ki k ((ij t x p i).take t.gY.length)).length=((ij t x p i).take t.gY.length).length:= aA ;have tp:((ij t x p i).drop t.gY.length).length=t.iw-t.gY.length:=by rw[cG,og]
    exact iF (aa [tT 20 ((i:Int)<12) aA,.c (wK t (ij t x p i) jN p iu ie),ah 24 (pR t (ij t x p i) p) oA,af [jG t,hH (ij t x p i),iP p] (y5 jN iu ie iq),ah 33 ((0:Int) != 0) aC,.a (aA:0<=((t.gY.length:Int):Int)/\((t.gY.length:Int):Int)<=((ij t x p i).length:Int)),.o 40 (.e (oj aA):ai (.sl true t.gY.length 7 (E.iS (hH (ij t x p i)))) (hH ((ij t x p i).take t.gY.length))),.c (yh k ((ij t x p i).take t.gY.length) kb1 kb8 kbl.symm kbo tbo),ah 41 (sW k ((ij t x p i).take t.gY.length)) jP,.a (aA:0<=((t.gY.length:Int):Int)/\((t.gY.length:Int):Int)<=((ij t x p i).length:Int)),.o 47 (.e (oj aA):ai (.sl true t.gY.length 7 (E.iS (hH (ij t x p i)))) (hH ((ij t x p i).take t.gY.length))),af [hH k,hH ((ij t x p i).take t.gY.length)] (Az _ _ kb1 kb8 kbl.symm kbo tbo pB),.a (aA:0<=((t.gY.length:Int):Int)/\((t.gY.length:Int):Int)<=((ij t x p i).length:Int)),.o 56 (.e (oj aA):ai (.sl true t.gY.length 7 (E.iS (hH (ij t x p i)))) (hH ((ij t x p i).take t.gY.length))),.c (vk (ki k ((ij t x p i).take t.gY.length)) ((ij t x p i).take t.gY.length) mb1 mb8 mbl.symm mbo tbo),ah 57 (rU (ki k ((ij t x p i).take t.gY.length)) ((ij t x p i).take t.gY.length)) heq,.a (aA:0<=((t.gY.length:Int):Int)/\((t.gY.length:Int):Int)<=((ij t x p i).length:Int)),.o 61 (.e (yP aA):ai (.sl true ((ij t x p i).length-t.gY.length) 7 λi_ j_=>(E.iS (hH (ij t x p i))) (t.gY.length+i_) j_) (hH ((ij t x p i).drop t.gY.length))),.o 62 (.e (tM _ _):ai (.sl true 2 1 λi_ j_=>[hH (ki k ((ij t x p i).take t.gY.length)),hH ((ij t x p i).drop t.gY.length)].getD (i_*1+j_) (.v (.bool false))) (iW [ki k ((ij t x p i).take t.gY.length),(ij t x p i).drop t.gY.length])),af [iW [ki k ((ij t x p i).take t.gY.length),(ij t x p i).drop t.gY.length]] (uc (ki k ((ij t x p i).take t.gY.length)) ((ij t x p i).drop t.gY.length) aA aA),
     iA ((i:Int)+1) aA]<|.e (ae [.o 9 (.e (.iD (by rw[show ij t x p (i+1)=vG t (ij t x p i) p from rfl,jO])):ai (hH ((ki k ((ij t x p i).take t.gY.length))++((ij t x p i).drop t.gY.length))) (hH (ij t x p (i+1))))])) aD)
  (λhi=>by
    have jN:=tL hk iu ie N jj;have og:=jN.len;have xu:=jN.nR;have my:=jN.take;have sV:=my.len;have tbo:=my.ok;exact iF (ae [tT 20 ((N:Int)<12) aA,.c (wK t (ij t x p N) jN p iu ie),ah 24 (pR t (ij t x p N) p) oA,af [jG t,hH (ij t x p N),iP p] (agI jN iu ie iq),ag 33 ((15:Int) != 0) aC,.a (aA:0<=((t.gY.length:Int):Int)/\((t.gY.length:Int):Int)<=((ij t x p N).length:Int)),.o 36 (.e (oj aA):ai (.sl true t.gY.length 7 (E.iS (hH (ij t x p N)))) (hH ((ij t x p N).take t.gY.length)))]) aD) aG:jA 4 f136 (TM t x p N 0) .ret ⟨68,true,[(7,.e (iP 0)),(6,.e (hH ((ij t x p N).take t.gY.length)))],[]⟩) (ae [.o 9 (.e (.iD rfl):ai (hH x) (hH (ij t x p 0)))])]<|rR (.ik [hH ((ij t x p N).take t.gY.length),iP 0]) (.refl _:E.le (.ik [hH ((ij t x p N).take t.gY.length),iP 0]) (.ik [hH ((ij t x p N).take t.gY.length),iP 0]))) 
def ad7(t:iV)(x:List Iv)(hk:lY t x)(p:Nat)(iu:8<=p)(ie:p<=512)(N:Nat)(hN:N<12)(jj:∀ j,j<N->oE t (ij t x p j) p=none)(oA:(pR t (ij t x p N) p)=false)(k:List Iv)(iq:qZ t (ij t x p N) p=some k)(jP:(sW k ((ij t x p N).take t.gY.length))=true):gW 136 [jG t,hH x,iP p] (.ik [hH k,iP 2]):=by
 have h:=hk.tape;have h8:=h.iw;have qB:=h.gX;have qL:=h.gY;have k1:=hk.n1;have k2:=hk.nR;have hx:=hk.len;have hv:=hk.qH;have k0:1<=x.length:= aA ;exact aj call136 func136 (aa [af [hH x] (Bz (xk x aA aA)),.s (Sp.jE (TN t x p N) 0 N aA (λi hi mw=>by
    obtain⟨oA,k,iq,jP,pB,heq,jO⟩:=z8 (jj i aA);have jN:=tL hk iu ie i λj hj=>jj j aA 
    have og:=jN.len;have xu:=jN.nR;have my:=jN.take;have sV:=my.len;have tbo:=my.ok;have na:=wU jN iu ie iq;have kbo:=na.ok;have kl:=na.len;have kb1:1<=k.length:= aA ;have kb8:k.length<=8:= aA ;have kbl:k.length=((ij t x p i).take t.gY.length).length:= aA ;have pA:=Ae na my pB;have mbo:=pA.ok;have mlen:=pA.len;have mb1:1<=(ki k ((ij t x p i).take t.gY.length)).length:= aA ;have mb8:(ki k ((ij t x p i).take t.gY.length)).length<=8:= aA ;have mbl:(ki k ((ij t x p i).take t.gY.length)).length=((ij t x p i).take t.gY.length).length:= aA ;have tp:((ij t x p i).drop t.gY.length).length=t.iw-t.gY.length:=by rw[cG,og]
    exact iF (aa [tT 20 ((i:Int)<12) aA,.c (wK t (ij t x p i) jN p iu ie),ah 24 (pR t (ij t x p i) p) oA,af [jG t,hH (ij t x p i),iP p] (y5 jN iu ie iq),ah 33 ((0:Int) != 0) aC,.a (aA:0<=((t.gY.length:Int):Int)/\((t.gY.length:Int):Int)<=((ij t x p i).length:Int)),.o 40 (.e (oj aA):ai (.sl true t.gY.length 7 (E.iS (hH (ij t x p i)))) (hH ((ij t x p i).take t.gY.length))),.c (yh k ((ij t x p i).take t.gY.length) kb1 kb8 kbl.symm kbo tbo),ah 41 (sW k ((ij t x p i).take t.gY.length)) jP,.a (aA:0<=((t.gY.length:Int):Int)/\((t.gY.length:Int):Int)<=((ij t x p i).length:Int)),.o 47 (.e (oj aA):ai (.sl true t.gY.length 7 (E.iS (hH (ij t x p i)))) (hH ((ij t x p i).take t.gY.length))),af [hH k,hH ((ij t x p i).take t.gY.length)] (Az _ _ kb1 kb8 kbl.symm kbo tbo pB),.a (aA:0<=((t.gY.length:Int):Int)/\((t.gY.length:Int):Int)<=((ij t x p i).length:Int)),.o 56 (.e (oj aA):ai (.sl true t.gY.length 7 (E.iS (hH (ij t x p i)))) (hH ((ij t x p i).take t.gY.length))),.c (vk (ki k ((ij t x p i).take t.gY.length)) ((ij t x p i).take t.gY.length) mb1 mb8 mbl.symm mbo tbo),ah 57 (rU (ki k ((ij t x p i).take t.gY.length)) ((ij t x p i).take t.gY.length)) heq,.a (aA:0<=((t.gY.length:Int):Int)/\((t.gY.length:Int):Int)<=((ij t x p i).length:Int)),.o 61 (.e (yP aA):ai (.sl true ((ij t x p i).length-t.gY.length) 7 λi_ j_=>(E.iS (hH (ij t x p i))) (t.gY.length+i_) j_) (hH ((ij t x p i).drop t.gY.length))),.o 62 (.e (tM _ _):ai (.sl true 2 1 λi_ j_=>[hH (ki k ((ij t x p i).take t.gY.length)),hH ((ij t x p i).drop t.gY.length)].getD (i_*1+j_) (.v (.bool false))) (iW [ki k ((ij t x p i).take t.gY.length),(ij t x p i).drop t.gY.length])),af [iW [ki k ((ij t x p i).take t.gY.length),(ij t x p i).drop t.gY.length]] (uc (ki k ((ij t x p i).take t.gY.length)) ((ij t x p i).drop t.gY.length) aA aA),
     iA ((i:Int)+1) aA]<|.e (ae [.o 9 (.e (.iD (by rw[show ij t x p (i+1)=vG t (ij t x p i) p from rfl,jO])):ai (hH ((ki k ((ij t x p i).take t.gY.length))++((ij t x p i).drop t.gY.length))) (hH (ij t x p (i+1))))])) aD)
  (λhi=>by
    have jN:=tL hk iu ie N jj;have og:=jN.len;have xu:=jN.nR;have my:=jN.take;have sV:=my.len;have tbo:=my.ok;have na:=wU jN iu ie iq;have kbo:=na.ok;have kl:=na.len;have kb1:1<=k.length:= aA ;have kb8:k.length<=8:= aA ;have kbl:k.length=((ij t x p N).take t.gY.length).length:= aA ;exact iF (ae [tT 20 ((N:Int)<12) aA,.c (wK t (ij t x p N) jN p iu ie),ah 24 (pR t (ij t x p N) p) oA,af [jG t,hH (ij t x p N),iP p] (y5 jN iu ie iq),ah 33 ((0:Int) != 0) aC,.a (aA:0<=((t.gY.length:Int):Int)/\((t.gY.length:Int):Int)<=((ij t x p N).length:Int)),.o 40 (.e (oj aA):ai (.sl true t.gY.length 7 (E.iS (hH (ij t x p N)))) (hH ((ij t x p N).take t.gY.length))),.c (yh k ((ij t x p N).take t.gY.length) kb1 kb8 kbl.symm kbo tbo),ag 41 (sW k ((ij t x p N).take t.gY.length)) jP]) aD) aG:jA 4 f136 (TN t x p N 0) .ret ⟨68,true,[(7,.e (iP 2)),(6,.e (hH k))],[]⟩) (ae [.o 9 (.e (.iD rfl):ai (hH x) (hH (ij t x p 0)))])]<|rR (.ik [hH k,iP 2]) (.refl _:E.le (.ik [hH k,iP 2]) (.ik [hH k,iP 2]))) 
def ad8(t:iV)(x:List Iv)(hk:lY t x)(p:Nat)(iu:8<=p)(ie:p<=512)(N:Nat)(hN:N<12)(jj:∀ j,j<N->oE t (ij t x p j) p=none)(oA:(pR t (ij t x p N) p)=false)(k:List Iv)(iq:qZ t (ij t x p N) p=some k)(jP:(sW k ((ij t x p N).take t.gY.length))=false)(pB:yX k ((ij t x p N).take t.gY.length)=false):gW 136 [jG t,hH x,iP p] (.ik [.v (.slice none 0 0),iP 1]):=by
 have h:=hk.tape;have h8:=h.iw;have qB:=h.gX;have qL:=h.gY;have k1:=hk.n1;have k2:=hk.nR;have hx:=hk.len;have hv:=hk.qH;have k0:1<=x.length:= aA ;exact aj call136 func136 (aa [af [hH x] (Bz (xk x aA aA)),.s (Sp.jE (TO t x p N) 0 N aA (λi hi mw=>by
    obtain⟨oA,k,iq,jP,pB,heq,jO⟩:=z8 (jj i aA);have jN:=tL hk iu ie i λj hj=>jj j aA 
    have og:=jN.len;have xu:=jN.nR;have my:=jN.take;have sV:=my.len;have tbo:=my.ok;have na:=wU jN iu ie iq;have kbo:=na.ok;have kl:=na.len;have kb1:1<=k.length:= aA ;have kb8:k.length<=8:= aA ;have kbl:k.length=((ij t x p i).take t.gY.length).length:= aA ;have pA:=Ae na my pB;have mbo:=pA.ok;have mlen:=pA.len;have mb1:1<=(ki k ((ij t x p i).take t.gY.length)).length:= aA ;have mb8:(ki k ((ij t x p i).take t.gY.length)).length<=8:= aA ;have mbl:(ki k ((ij t x p i).take t.gY.length)).length=((ij t x p i).take t.gY.length).length:= aA ;have tp:((ij t x p i).drop t.gY.length).length=t.iw-t.gY.length:=by rw[cG,og]
    exact iF (aa [tT 20 ((i:Int)<12) aA,.c (wK t (ij t x p i) jN p iu ie),ah 24 (pR t (ij t x p i) p) oA,af [jG t,hH (ij t x p i),iP p] (y5 jN iu ie iq),ah 33 ((0:Int) != 0) aC,.a (aA:0<=((t.gY.length:Int):Int)/\((t.gY.length:Int):Int)<=((ij t x p i).length:Int)),.o 40 (.e (oj aA):ai (.sl true t.gY.length 7 (E.iS (hH (ij t x p i)))) (hH ((ij t x p i).take t.gY.length))),.c (yh k ((ij t x p i).take t.gY.length) kb1 kb8 kbl.symm kbo tbo),ah 41 (sW k ((ij t x p i).take t.gY.length)) jP,.a (aA:0<=((t.gY.length:Int):Int)/\((t.gY.length:Int):Int)<=((ij t x p i).length:Int)),.o 47 (.e (oj aA):ai (.sl true t.gY.length 7 (E.iS (hH (ij t x p i)))) (hH ((ij t x p i).take t.gY.length))),af [hH k,hH ((ij t x p i).take t.gY.length)] (Az _ _ kb1 kb8 kbl.symm kbo tbo pB),.a (aA:0<=((t.gY.length:Int):Int)/\((t.gY.length:Int):Int)<=((ij t x p i).length:Int)),.o 56 (.e (oj aA):ai (.sl true t.gY.length 7 (E.iS (hH (ij t x p i)))) (hH ((ij t x p i).take t.gY.length))),.c (vk (ki k ((ij t x p i).take t.gY.length)) ((ij t x p i).take t.gY.length) mb1 mb8 mbl.symm mbo tbo),ah 57 (rU (ki k ((ij t x p i).take t.gY.length)) ((ij t x p i).take t.gY.length)) heq,.a (aA:0<=((t.gY.length:Int):Int)/\((t.gY.length:Int):Int)<=((ij t x p i).length:Int)),.o 61 (.e (yP aA):ai (.sl true ((ij t x p i).length-t.gY.length) 7 λi_ j_=>(E.iS (hH (ij t x p i))) (t.gY.length+i_) j_) (hH ((ij t x p i).drop t.gY.length))),.o 62 (.e (tM _ _):ai (.sl true 2 1 λi_ j_=>[hH (ki k ((ij t x p i).take t.gY.length)),hH ((ij t x p i).drop t.gY.length)].getD (i_*1+j_) (.v (.bool false))) (iW [ki k ((ij t x p i).take t.gY.length),(ij t x p i).drop t.gY.length])),af [iW [ki k ((ij t x p i).take t.gY.length),(ij t x p i).drop t.gY.length]] (uc (ki k ((ij t x p i).take t.gY.length)) ((ij t x p i).drop t.gY.length) aA aA),
     iA ((i:Int)+1) aA]<|.e (ae [.o 9 (.e (.iD (by rw[show ij t x p (i+1)=vG t (ij t x p i) p from rfl,jO])):ai (hH ((ki k ((ij t x p i).take t.gY.length))++((ij t x p i).drop t.gY.length))) (hH (ij t x p (i+1))))])) aD)
  (λhi=>by
    have jN:=tL hk iu ie N jj;have og:=jN.len;have xu:=jN.nR;have my:=jN.take;have sV:=my.len;have tbo:=my.ok;have na:=wU jN iu ie iq;have kbo:=na.ok;have kl:=na.len;have kb1:1<=k.length:= aA ;have kb8:k.length<=8:= aA ;have kbl:k.length=((ij t x p N).take t.gY.length).length:= aA ;exact iF (ae [tT 20 ((N:Int)<12) aA,.c (wK t (ij t x p N) jN p iu ie),ah 24 (pR t (ij t x p N) p) oA,af [jG t,hH (ij t x p N),iP p] (y5 jN iu ie iq),ah 33 ((0:Int) != 0) aC,.a (aA:0<=((t.gY.length:Int):Int)/\((t.gY.length:Int):Int)<=((ij t x p N).length:Int)),.o 40 (.e (oj aA):ai (.sl true t.gY.length 7 (E.iS (hH (ij t x p N)))) (hH ((ij t x p N).take t.gY.length))),.c (yh k ((ij t x p N).take t.gY.length) kb1 kb8 kbl.symm kbo tbo),ah 41 (sW k ((ij t x p N).take t.gY.length)) jP,.a (aA:0<=((t.gY.length:Int):Int)/\((t.gY.length:Int):Int)<=((ij t x p N).length:Int)),.o 47 (.e (oj aA):ai (.sl true t.gY.length 7 (E.iS (hH (ij t x p N)))) (hH ((ij t x p N).take t.gY.length))),af [hH k,hH ((ij t x p N).take t.gY.length)] (YQ _ _ kb1 kb8 kbl.symm kbo tbo pB)]) aD) aG:jA 4 f136 (TO t x p N 0) .ret ⟨68,true,[(7,.e (iP 1)),(6,.e (.v (.slice none 0 0)))],[]⟩) (ae [.o 9 (.e (.iD rfl):ai (hH x) (hH (ij t x p 0)))])]<|rR (.ik [.v (.slice none 0 0),iP 1]) (.refl _:E.le (.ik [.v (.slice none 0 0),iP 1]) (.ik [.v (.slice none 0 0),iP 1]))) 
def ad9(t:iV)(x:List Iv)(hk:lY t x)(p:Nat)(iu:8<=p)(ie:p<=512)(N:Nat)(hN:N<12)(jj:∀ j,j<N->oE t (ij t x p j) p=none)(oA:(pR t (ij t x p N) p)=false)(k:List Iv)(iq:qZ t (ij t x p N) p=some k)(jP:(sW k ((ij t x p N).take t.gY.length))=false)(pB:yX k ((ij t x p N).take t.gY.length)=true)(heq:(rU (ki k ((ij t x p N).take t.gY.length)) ((ij t x p N).take t.gY.length))=true):gW 136 [jG t,hH x,iP p] (.ik [hH ((ij t x p N).take t.gY.length),iP 0]):=by
 have h:=hk.tape;have h8:=h.iw;have qB:=h.gX;have qL:=h.gY;have k1:=hk.n1;have k2:=hk.nR;have hx:=hk.len;have hv:=hk.qH;have k0:1<=x.length:= aA ;have Ic:=tL hk iu ie N jj;have Mm:=Ic.len;exact aj call136 func136 (aa [af [hH x] (Bz (xk x aA aA)),.s (Sp.jE (TP t x p N) 0 N aA (λi hi mw=>by
    obtain⟨oA,k,iq,jP,pB,heq,jO⟩:=z8 (jj i aA);have jN:=tL hk iu ie i λj hj=>jj j aA 
    have og:=jN.len;have xu:=jN.nR;have my:=jN.take;have sV:=my.len;have tbo:=my.ok;have na:=wU jN iu ie iq;have kbo:=na.ok;have kl:=na.len;have kb1:1<=k.length:= aA ;have kb8:k.length<=8:= aA ;have kbl:k.length=((ij t x p i).take t.gY.length).length:= aA ;have pA:=Ae na my pB;have mbo:=pA.ok;have mlen:=pA.len;have mb1:1<=(ki k ((ij t x p i).take t.gY.length)).length:= aA ;have mb8:(ki k ((ij t x p i).take t.gY.length)).length<=8:= aA ;have mbl:(ki k ((ij t x p i).take t.gY.length)).length=((ij t x p i).take t.gY.length).length:= aA ;have tp:((ij t x p i).drop t.gY.length).length=t.iw-t.gY.length:=by rw[cG,og]
    exact iF (aa [tT 20 ((i:Int)<12) aA,.c (wK t (ij t x p i) jN p iu ie),ah 24 (pR t (ij t x p i) p) oA,af [jG t,hH (ij t x p i),iP p] (y5 jN iu ie iq),ah 33 ((0:Int) != 0) aC,.a (aA:0<=((t.gY.length:Int):Int)/\((t.gY.length:Int):Int)<=((ij t x p i).length:Int)),.o 40 (.e (oj aA):ai (.sl true t.gY.length 7 (E.iS (hH (ij t x p i)))) (hH ((ij t x p i).take t.gY.length))),.c (yh k ((ij t x p i).take t.gY.length) kb1 kb8 kbl.symm kbo tbo),ah 41 (sW k ((ij t x p i).take t.gY.length)) jP,.a (aA:0<=((t.gY.length:Int):Int)/\((t.gY.length:Int):Int)<=((ij t x p i).length:Int)),.o 47 (.e (oj aA):ai (.sl true t.gY.length 7 (E.iS (hH (ij t x p i)))) (hH ((ij t x p i).take t.gY.length))),af [hH k,hH ((ij t x p i).take t.gY.length)] (Az _ _ kb1 kb8 kbl.symm kbo tbo pB),.a (aA:0<=((t.gY.length:Int):Int)/\((t.gY.length:Int):Int)<=((ij t x p i).length:Int)),.o 56 (.e (oj aA):ai (.sl true t.gY.length 7 (E.iS (hH (ij t x p i)))) (hH ((ij t x p i).take t.gY.length))),.c (vk (ki k ((ij t x p i).take t.gY.length)) ((ij t x p i).take t.gY.length) mb1 mb8 mbl.symm mbo tbo),ah 57 (rU (ki k ((ij t x p i).take t.gY.length)) ((ij t x p i).take t.gY.length)) heq,.a (aA:0<=((t.gY.length:Int):Int)/\((t.gY.length:Int):Int)<=((ij t x p i).length:Int)),.o 61 (.e (yP aA):ai (.sl true ((ij t x p i).length-t.gY.length) 7 λi_ j_=>(E.iS (hH (ij t x p i))) (t.gY.length+i_) j_) (hH ((ij t x p i).drop t.gY.length))),.o 62 (.e (tM _ _):ai (.sl true 2 1 λi_ j_=>[hH (ki k ((ij t x p i).take t.gY.length)),hH ((ij t x p i).drop t.gY.length)].getD (i_*1+j_) (.v (.bool false))) (iW [ki k ((ij t x p i).take t.gY.length),(ij t x p i).drop t.gY.length])),af [iW [ki k ((ij t x p i).take t.gY.length),(ij t x p i).drop t.gY.length]] (uc (ki k ((ij t x p i).take t.gY.length)) ((ij t x p i).drop t.gY.length) aA aA),
     iA ((i:Int)+1) aA]<|.e (ae [.o 9 (.e (.iD (by rw[show ij t x p (i+1)=vG t (ij t x p i) p from rfl,jO])):ai (hH ((ki k ((ij t x p i).take t.gY.length))++((ij t x p i).drop t.gY.length))) (hH (ij t x p (i+1))))])) aD)
  (λhi=>by
    have jN:=tL hk iu ie N jj;have og:=jN.len;have xu:=jN.nR;have my:=jN.take;have sV:=my.len;have tbo:=my.ok;have na:=wU jN iu ie iq;have kbo:=na.ok;have kl:=na.len;have kb1:1<=k.length:= aA ;have kb8:k.length<=8:= aA ;have kbl:k.length=((ij t x p N).take t.gY.length).length:= aA ;have pA:=Ae na my pB;have mbo:=pA.ok;have mlen:=pA.len;have mb1:1<=(ki k ((ij t x p N).take t.gY.length)).length:= aA ;have mb8:(ki k ((ij t x p N).take t.gY.length)).length<=8:= aA ;have mbl:(ki k ((ij t x p N).take t.gY.length)).length=((ij t x p N).take t.gY.length).length:= aA ;have tp:((ij t x p N).drop t.gY.length).length=t.iw-t.gY.length:=by rw[cG,og]
    exact iF (ae [tT 20 ((N:Int)<12) aA,.c (wK t (ij t x p N) jN p iu ie),ah 24 (pR t (ij t x p N) p) oA,af [jG t,hH (ij t x p N),iP p] (y5 jN iu ie iq),ah 33 ((0:Int) != 0) aC,.a (aA:0<=((t.gY.length:Int):Int)/\((t.gY.length:Int):Int)<=((ij t x p N).length:Int)),.o 40 (.e (oj aA):ai (.sl true t.gY.length 7 (E.iS (hH (ij t x p N)))) (hH ((ij t x p N).take t.gY.length))),.c (yh k ((ij t x p N).take t.gY.length) kb1 kb8 kbl.symm kbo tbo),ah 41 (sW k ((ij t x p N).take t.gY.length)) jP,.a (aA:0<=((t.gY.length:Int):Int)/\((t.gY.length:Int):Int)<=((ij t x p N).length:Int)),.o 47 (.e (oj aA):ai (.sl true t.gY.length 7 (E.iS (hH (ij t x p N)))) (hH ((ij t x p N).take t.gY.length))),af [hH k,hH ((ij t x p N).take t.gY.length)] (Az _ _ kb1 kb8 kbl.symm kbo tbo pB),.a (aA:0<=((t.gY.length:Int):Int)/\((t.gY.length:Int):Int)<=((ij t x p N).length:Int)),.o 56 (.e (oj aA):ai (.sl true t.gY.length 7 (E.iS (hH (ij t x p N)))) (hH ((ij t x p N).take t.gY.length))),.c (vk (ki k ((ij t x p N).take t.gY.length)) ((ij t x p N).take t.gY.length) mb1 mb8 mbl.symm mbo tbo),ag 57 (rU (ki k ((ij t x p N).take t.gY.length)) ((ij t x p N).take t.gY.length)) heq]) aD) aG:jA 4 f136 (TP t x p N 0) (.exit 0) ⟨68,true,[(9,.e (hH (ij t x p N))),(8,.e (iP t.gY.length))],[]⟩) (ae [.o 9 (.e (.iD rfl):ai (hH x) (hH (ij t x p 0)))]),.a (aA:0<=((t.gY.length:Int):Int)/\((t.gY.length:Int):Int)<=((ij t x p N).length:Int)),.o 67 (.e (oj aA):ai (.sl true t.gY.length 7 (E.iS (hH (ij t x p N)))) (hH ((ij t x p N).take t.gY.length)))]<|rR (.ik [hH ((ij t x p N).take t.gY.length),iP 0]) (.refl _:E.le (.ik [hH ((ij t x p N).take t.gY.length),iP 0]) (.ik [hH ((ij t x p N).take t.gY.length),iP 0]))) 
def aea(t:iV)(x:List Iv)(hk:lY t x)(p:Nat)(iu:8<=p)(ie:p<=512)(jj:∀ j,j<12->oE t (ij t x p j) p=none):gW 136 [jG t,hH x,iP p] (.ik [hH ((ij t x p 12).take t.gY.length),iP 0]):=by
 have h:=hk.tape;have h8:=h.iw;have qB:=h.gX;have qL:=h.gY;have k1:=hk.n1;have k2:=hk.nR;have hx:=hk.len;have hv:=hk.qH;have k0:1<=x.length:= aA ;have Ic:=tL hk iu ie 12 jj;have Mm:=Ic.len;exact aj call136 func136 (aa [af [hH x] (Bz (xk x aA aA)),.s (Sp.jE (TQ t x p) 0 12 aA (λi hi mw=>by
    obtain⟨oA,k,iq,jP,pB,heq,jO⟩:=z8 (jj i aA);have jN:=tL hk iu ie i λj hj=>jj j aA 
    have og:=jN.len;have xu:=jN.nR;have my:=jN.take;have sV:=my.len;have tbo:=my.ok;have na:=wU jN iu ie iq;have kbo:=na.ok;have kl:=na.len;have kb1:1<=k.length:= aA ;have kb8:k.length<=8:= aA ;have kbl:k.length=((ij t x p i).take t.gY.length).length:= aA ;have pA:=Ae na my pB;have mbo:=pA.ok;have mlen:=pA.len;have mb1:1<=(ki k ((ij t x p i).take t.gY.length)).length:= aA ;have mb8:(ki k ((ij t x p i).take t.gY.length)).length<=8:= aA ;have mbl:(ki k ((ij t x p i).take t.gY.length)).length=((ij t x p i).take t.gY.length).length:= aA ;have tp:((ij t x p i).drop t.gY.length).length=t.iw-t.gY.length:=by rw[cG,og]
    exact iF (aa [tT 20 ((i:Int)<12) aA,.c (wK t (ij t x p i) jN p iu ie),ah 24 (pR t (ij t x p i) p) oA,af [jG t,hH (ij t x p i),iP p] (y5 jN iu ie iq),ah 33 ((0:Int) != 0) aC,.a (aA:0<=((t.gY.length:Int):Int)/\((t.gY.length:Int):Int)<=((ij t x p i).length:Int)),.o 40 (.e (oj aA):ai (.sl true t.gY.length 7 (E.iS (hH (ij t x p i)))) (hH ((ij t x p i).take t.gY.length))),.c (yh k ((ij t x p i).take t.gY.length) kb1 kb8 kbl.symm kbo tbo),ah 41 (sW k ((ij t x p i).take t.gY.length)) jP,.a (aA:0<=((t.gY.length:Int):Int)/\((t.gY.length:Int):Int)<=((ij t x p i).length:Int)),.o 47 (.e (oj aA):ai (.sl true t.gY.length 7 (E.iS (hH (ij t x p i)))) (hH ((ij t x p i).take t.gY.length))),af [hH k,hH ((ij t x p i).take t.gY.length)] (Az _ _ kb1 kb8 kbl.symm kbo tbo pB),.a (aA:0<=((t.gY.length:Int):Int)/\((t.gY.length:Int):Int)<=((ij t x p i).length:Int)),.o 56 (.e (oj aA):ai (.sl true t.gY.length 7 (E.iS (hH (ij t x p i)))) (hH ((ij t x p i).take t.gY.length))),.c (vk (ki k ((ij t x p i).take t.gY.length)) ((ij t x p i).take t.gY.length) mb1 mb8 mbl.symm mbo tbo),ah 57 (rU (ki k ((ij t x p i).take t.gY.length)) ((ij t x p i).take t.gY.length)) heq,.a (aA:0<=((t.gY.length:Int):Int)/\((t.gY.length:Int):Int)<=((ij t x p i).length:Int)),.o 61 (.e (yP aA):ai (.sl true ((ij t x p i).length-t.gY.length) 7 λi_ j_=>(E.iS (hH (ij t x p i))) (t.gY.length+i_) j_) (hH ((ij t x p i).drop t.gY.length))),.o 62 (.e (tM _ _):ai (.sl true 2 1 λi_ j_=>[hH (ki k ((ij t x p i).take t.gY.length)),hH ((ij t x p i).drop t.gY.length)].getD (i_*1+j_) (.v (.bool false))) (iW [ki k ((ij t x p i).take t.gY.length),(ij t x p i).drop t.gY.length])),af [iW [ki k ((ij t x p i).take t.gY.length),(ij t x p i).drop t.gY.length]] (uc (ki k ((ij t x p i).take t.gY.length)) ((ij t x p i).drop t.gY.length) aA aA),
     iA ((i:Int)+1) aA]<|.e (ae [.o 9 (.e (.iD (by rw[show ij t x p (i+1)=vG t (ij t x p i) p from rfl,jO])):ai (hH ((ki k ((ij t x p i).take t.gY.length))++((ij t x p i).drop t.gY.length))) (hH (ij t x p (i+1))))])) aD)
  (λhi=>by
    exact iF (ae [ah 20 (decide ((12:Int)<12)) aC]) aD) aG:jA 4 f136 (TQ t x p 0) (.exit 0) ⟨68,true,[(9,.e (hH (ij t x p 12))),(8,.e (iP t.gY.length))],[]⟩) (ae [.o 9 (.e (.iD rfl):ai (hH x) (hH (ij t x p 0)))]),.a (aA:0<=((t.gY.length:Int):Int)/\((t.gY.length:Int):Int)<=((ij t x p 12).length:Int)),.o 67 (.e (oj aA):ai (.sl true t.gY.length 7 (E.iS (hH (ij t x p 12)))) (hH ((ij t x p 12).take t.gY.length)))]<|rR (.ik [hH ((ij t x p 12).take t.gY.length),iP 0]) (.refl _:E.le (.ik [hH ((ij t x p 12).take t.gY.length),iP 0]) (.ik [hH ((ij t x p 12).take t.gY.length),iP 0]))) 
def aeb(t:iV)(x:List Iv)(hk:lY t x)(p:Nat)(iu:8<=p)(ie:p<=512):gW 136 [jG t,hH x,iP p] (Ue (uJ t x p)):=by
 by_cases hx:∃ N,N<12/\(oE t (ij t x p N) p).isSome=true
 .obtain ⟨N,hN,h2,h3⟩:=tK hx;have jj:∀ j,j<N->oE t (ij t x p j) p=none:=λj hj=>by simpa using h3 j hj
  cases hr:oE t (ij t x p N) p with
  |none=>rw[hr]at h2;cases h2
  |some r=>
   have er:uJ t x p=r:=Uf hr N 12 0 aA hN jj;rw[er];clear er;unfold oE at hr;split at hr
   .rename_i oA;cases hr;exact(ad5 t x hk p iu ie N hN jj oA).jk Vp
   .rename_i oA;have oA:=aZ oA;cases iq:qZ t (ij t x p N) p with
    |none=>
     rw[iq]at hr;cases hr;exact ad6 t x hk p iu ie N hN jj oA iq
    |some k=>
     rw[iq]at hr;simp only at hr;split at hr
     .rename_i jP;cases hr;exact ad7 t x hk p iu ie N hN jj oA k iq jP
     .rename_i jP;have jP:=aZ jP;split at hr
      .rename_i pB;cases hr;exact(ad8 t x hk p iu ie N hN jj oA k iq jP (by simpa using pB)).jk Vp
      .rename_i pB;split at hr
       .rename_i heq;cases hr;exact ad9 t x hk p iu ie N hN jj oA k iq jP (by simpa using pB) heq
       .cases hr
 .have jj:∀ j,j<12->oE t (ij t x p j) p=none:=λj hj=>by
   cases h:oE t (ij t x p j) p with
   |none=>rfl
   |some r=>exact absurd ⟨j,hj,by rw[h];rfl⟩ hx
  have er:uJ t x p=(0,(ij t x p 12).take t.gY.length):=Uh 12 0 (by simpa using jj);rw[er];exact aea t x hk p iu ie jj
abbrev pe(R:List (List Iv×Bool)):Nat->Nat->E:=λi j=>([hH (R.getD i ([],false)).1,bP (R.getD i ([],false)).2]:List E).getD j .any
def uV(R:List (List Iv×Bool)):E:=.sl true R.length 2 (pe R)
def ahL{R:List (List Iv×Bool)}{i j:Nat}(hj:j<2):(pe R i j).nr 2=true:=by
 rcases j with _|_|j
 .exact EY _
 .rfl
 .omega
def F0{T n n' m:Nat}{R R':List (List Iv×Bool)}{b:List Iv}{s:Bool}{p:E}(hR:R'=R++[(b,s)])(hn:n=R.length)(hm:m=1)(sP:n'=R'.length)(hp:∀ j,j<2->p.iS 0 j=([hH b,bP s]:List E).getD j .any):
 Bx.le (.row true T (n+m) 2 λi j=>if i<n then pe R i j else(E.iS p) (i-n) j) (.row true T n' 2 (pe R')):=by
 subst hR hn hm sP;refine .row aF λi j hi hj=>⟨.iD ?_,ahL hj⟩
 by_cases h:i<R.length
 .rw [bj h];have e:(R++[(b,s)]).getD i ([],false)=R.getD i ([],false):=by simp[bk,dg h]
  show pe R i j=pe (R++[(b,s)]) i j;simp only[pe,e]
 .have kI:i=R.length:= aA ;subst kI;have e:(R++[(b,s)]).getD R.length ([],false)=(b,s):=by simp[bk]
  rw[bh h,cV,hp j hj];simp only[pe,e]
def ag8{T n:Nat}{b:List Iv}{Q:List (List Iv)}(hQ:Q=[b])(hn:n=Q.length):Bx.le (.row true T 1 1 λi_ j_=>[hH b].getD (i_*1+j_) (.v (.bool false))) (.row true T n 1 (nb Q)):=by
 subst hQ hn;refine .row rfl λi j hi hj=>⟨.iD ?_,EY _⟩
 obtain rfl:i=0:= aA ;obtain rfl:j=0:= aA ;rfl
def C8{T n:Nat}{Q Q':List (List Iv)}(hQ:Q'=Q.drop 1)(hn:n=Q'.length):Bx.le (.row true T (Q.length-1) 1 λi j=>nb Q (1+i) j) (.row true T n 1 (nb Q')):=by
 subst hQ hn;refine .row aF λi j hi hj=>⟨.iD ?_,EY _⟩
 show hH (Q.getD (1+i) [])=hH ((Q.drop 1).getD i []);congr 1;simp[bk,fk]
def ag9{T n m:Nat}{Q Q':List (List Iv)}{a b:List Iv}{p:E}(hQ:Q'=Q.drop 1++[a,b])(hm:m=2)(hn:n=Q'.length)(hp:∀ i j,i<2->j<1->p.iS i j=hH (([a,b]:List (List Iv)).getD i [])):
 Bx.le (.row true T (Q.length-1+m) 1 λi j=>if i<Q.length-1 then(λi j=>nb Q (1+i) j) i j else(E.iS p) (i-(Q.length-1)) j) (.row true T n 1 (nb Q')):=by
 subst hQ hm hn;refine .row aF λi j hi hj=>⟨.iD ?_,EY _⟩
 by_cases h:i<Q.length-1
 .rw [bj h];show hH (Q.getD (1+i) [])=hH ((Q.drop 1++[a,b]).getD i []);congr 1;simp only[bk];rw[dg (by simpa using h)];simp[fk]
 .rw [bh h,hp _ _ aA hj];show _=hH ((Q.drop 1++[a,b]).getD i []);congr 1;simp only[bk];rw[dH (by simpa using h)];simp
structure xg where
 q:List (List Iv)
 r:List (List Iv×Bool)
noncomputable def iU(t:iV)(x:List Iv)(p:Nat)(s:xg):Int×List Iv:=uJ t (s.q.getD 0 []++x.drop t.gY.length) p
def BV(most:Int)(s:xg)(i:Nat):Bool:=decide (most<((s.r.length+(s.q.length-1)+2:Nat):Int))||decide (4000<((i+1:Nat):Int))
def nB(m:List Iv)(p:Nat):List Iv:=Bo m (nn m m.length) p
def nJ(m:List Iv)(p:Nat):List Iv:=AU m (nn m m.length) p
noncomputable def nU(t:iV)(x:List Iv)(most:Int)(p i:Nat)(s:xg):xg:=
 if(iU t x p s).1=1 then⟨s.q.drop 1,s.r⟩
 else if(iU t x p s).1=2 then⟨s.q.drop 1,s.r++[((iU t x p s).2,true)]⟩
 else if BV most s i then⟨s.q.drop 1,s.r++[((iU t x p s).2,false)]⟩
 else if rU (nB (iU t x p s).2 p) (iU t x p s).2||rU (nJ (iU t x p s).2 p) (iU t x p s).2 then⟨s.q.drop 1,s.r++[((iU t x p s).2,false)]⟩
 else⟨s.q.drop 1++[nB (iU t x p s).2 p,nJ (iU t x p s).2 p],s.r⟩
noncomputable def im(t:iV)(x:List Iv)(most:Int)(p:Nat):Nat->xg
 | 0=>⟨[x.take t.gY.length],[]⟩
 |i+1=>nU t x most p i (im t x most p i)
def WW(t:iV)(x:List Iv)(most:Int)(p i:Nat)(s:xg):(nU t x most p i s).r.length<=s.r.length+1/\(nU t x most p i s).q.length<=s.q.length+2/\(nU t x most p i s).q.length+2*(4000-(i+1))<=s.q.length-1+2*(4000-i):=by
 unfold nU;split
 .simp;omega
 .split
  .simp;omega
  .split
   .simp;omega
   .rename_i h;have h:=aZ h;unfold BV at h;rw[dQ]at h;have h:=of_decide_eq_false h.2;split
    .simp;omega
    .simp;omega
def Ox(t:iV)(x:List Iv)(most:Int)(p:Nat):∀ i,(im t x most p i).r.length<=i/\(im t x most p i).q.length<=2*i+1
 | 0=>⟨bl _,bl _⟩
 |i+1=>by
  have h1:=WW t x most p i (im t x most p i);have h2:=Ox t x most p i;show(nU t x most p i (im t x most p i)).r.length<=i+1/\(nU t x most p i (im t x most p i)).q.length<=2*(i+1)+1;omega
def WX(t:iV)(x:List Iv)(most:Int)(p:Nat):∀ i,(∀ j,j<i->(im t x most p j).q.length≠0)->(im t x most p i).q.length+2*(4000-i)+i<=8001
 | 0,_=>by show[x.take t.gY.length].length+_<=_;simp
 |i+1,h=>by
  have h1:=WW t x most p i (im t x most p i);have h2:=WX t x most p i λj hj=>h j aA 
  have h3:=h i aA;show(nU t x most p i (im t x most p i)).q.length+_+_<=_;omega
def Dl(t:iV)(x:List Iv)(most:Int)(p:Nat):∃ N,N<=8001/\(im t x most p N).q.length=0/\∀ i,i<N->(im t x most p i).q.length≠0:=by
 have hx:∃ N,N<8002/\decide ((im t x most p N).q.length=0)=true:=ch λhc=>by
  have:=WX t x most p 8001 λj hj h0=>hc ⟨j,aA,bn h0⟩
  exact hc ⟨8001,aA,bn aA⟩
 obtain⟨N,h1,h2,h3⟩:=tK hx;exact⟨N,aA,cK h2,λi hi h0=>by have:=h3 i hi;rw[bn h0]at this;cases this⟩
noncomputable def tU(t:iV)(x:List Iv)(most:Int)(p:Nat):Nat:=(Dl t x most p).choose
noncomputable def zi(t:iV)(x:List Iv)(most:Int)(p:Nat):List (List Iv×Bool):=(im t x most p (tU t x most p)).r
def aeK{t:iV}{b:List Iv}(hk:lY t b){p:Nat}(iu:8<=p)(ie:p<=512){r:Int×List Iv}(h:oE t b p=some r)(h1:r.1≠1):kG t.gY.length r.2:=by
 unfold oE at h;split at h
 .cases h;exact absurd rfl h1
 .cases iq:qZ t b p with
  |none=>rw[iq]at h;cases h;exact hk.take
  |some k=>
   rw[iq]at h;simp only at h;split at h
   .cases h;exact wU hk iu ie iq
   .split at h
    .cases h;exact absurd rfl h1
    .split at h
     .cases h;exact hk.take
     .cases h
def Ug{t:iV}{x:List Iv}{p:Nat}(iu:8<=p)(ie:p<=512):∀ m i,lY t (ij t x p i)->(rn t x p m i).1≠1->kG t.gY.length (rn t x p m i).2
 | 0,i,hk,_=>hk.take
 |m+1,i,hk,h=>by
  unfold rn at h ⊢;cases hr:oE t (ij t x p i) p with
  |some r=>rw[hr]at h;exact aeK hk iu ie hr h
  |none=>rw[hr]at h;exact Ug iu ie m (i+1) (IJ hk iu ie hr) h
def yT{t:iV}{x:List Iv}{p:Nat}(hk:lY t x)(iu:8<=p)(ie:p<=512)(h:(uJ t x p).1≠1):kG t.gY.length (uJ t x p).2:=Ug iu ie 12 0 hk h
def IY{x:Iv}(hx:x.ic)(xa:x.all=false)(p:Nat):ke x.lo (j9 x p)<=0/\ke (j9 x p) x.hi<=0:=by
 have hle:ke x.lo x.hi<=0:=by
  rcases hx with h|⟨_,_,_,h⟩
  .rw [h.1]at xa;cases xa
  .exact h
 unfold j9;split
 .split
  .rename_i h;have h:=h.2;unfold yr at h;rw[bF]at h;exact⟨cK h.1,cK h.2⟩
  .exact ⟨zZ _,hle⟩
 .exact ⟨zZ _,hle⟩
def IV{n:Nat}{m:List Iv}(h:kG n m){k:Nat}(p:Nat):kG n (Bo m k p):=by
 unfold Bo;refine⟨by rw[cL];exact h.len,λi hi=>?_⟩;rw[cL]at hi;rw[IB hi];obtain⟨v,va⟩:=h.ok i hi;split
 .rename_i e;subst e;exact⟨.inr ⟨va,v.mM.1,Bt v p,(IY v va p).1⟩,va⟩
 .exact ⟨v,va⟩
def Ia{n:Nat}{m:List Iv}(h:kG n m){k:Nat}(p:Nat):kG n (AU m k p):=by
 unfold AU;refine⟨by rw[cL];exact h.len,λi hi=>?_⟩;rw[cL]at hi;rw[IB hi];obtain⟨v,va⟩:=h.ok i hi;split
 .rename_i e;subst e;exact⟨.inr ⟨va,Bt v p,v.mM.2,(IY v va p).2⟩,va⟩
 .exact ⟨v,va⟩
def vN{q:List (List Iv)}(h:q.length≠0):q.getD 0 [] ∈ q:=by
 rw[bk,bw aA];exact cz _
def aiV{t:iV}{x:List Iv}(hk:lY t x){most:Int}{p i:Nat}(iu:8<=p)(ie:p<=512){s:xg}(hs:∀ b,b ∈ s.q->kG t.gY.length b)(h0:s.q.length≠0):∀ b,b ∈ (nU t x most p i s).q->kG t.gY.length b:=by
 have hd:∀ b,b ∈ s.q.drop 1->kG t.gY.length b:=λb hb=>hs b (dE hb)
 have hb:=hk.next (hs _ (vN h0))
 intro b;unfold nU;split
 .exact hd b
 .rename_i n1;have hm:=yT hb iu ie n1;split
  .exact hd b
  .split
   .exact hd b
   .split
    .exact hd b
    .intro h;rcases cS.1 h with h|h
     .exact hd b h
     .simp only[cW,List.not_mem_nil,or_false]at h;rcases h with rfl|rfl
      .exact IV hm p
      .exact Ia hm p
def Oy{t:iV}{x:List Iv}(hk:lY t x){most:Int}{p:Nat}(iu:8<=p)(ie:p<=512):∀ i,(∀ j,j<i->(im t x most p j).q.length≠0)->∀ b,b ∈ (im t x most p i).q->kG t.gY.length b
 | 0,_=>λb hb=>by
  have hb:b ∈ [x.take t.gY.length]:=hb;rw[c9]at hb;subst hb;exact hk.take
 |i+1,h=>aiV hk iu ie (Oy hk iu ie i λj hj=>h j aA) (h i aA)
noncomputable def TV(t:iV)(x:List Iv)(most:Int)(p N:Nat)(i:Nat):PS:=⟨126,true,[(11,.own 11),(13,.e (iP i)),(12,.own 44),(10,.e (iP t.gY.length)),(4,.box 4 0),(1,.e (hH x)),(2,.e (iP most)),(3,.e (iP p))],[(11,.row true 62 ((im t x most p i).r.length) 2 (pe (im t x most p i).r)),(44,.row true 23 ((im t x most p i).q.length) 1 (nb (im t x most p i).q)),(4,.cells 29 [iP t.iw,kP t.gX,kR t.gY])]⟩
def aej(t:iV)(x:List Iv)(hk:lY t x)(most:Int)(p:Nat)(iu:8<=p)(ie:p<=512)(m1:1<=most)(m2:most<=10000)(N:Nat)(hN:N<=8001)(h0:(im t x most p N).q.length=0)(hq:∀ i,i<N->(im t x most p i).q.length≠0):gW 78 [jG t,hH x,iP most,iP p] (.ik [uV (im t x most p N).r,iP 0]):=by
 have h:=hk.tape;have h8:=h.iw;have qB:=h.gX;have qL:=h.gY;have k1:=hk.n1;have k2:=hk.nR;have hx:=hk.len;have hv:=hk.qH;have k0:1<=x.length:= aA ;have sV:(x.take t.gY.length).length=t.gY.length:= aL ;have tp:(x.drop t.gY.length).length=t.iw-t.gY.length:=by rw[cG,hx]
 exact aj call78 func78 (aa [.c (CO t x hk),.c (CP (p:Int)),ag 27 (kF (p:Int)) (oG.2 ⟨aA,aA⟩),tF 31 (most<1) aA,tF 35 (10000<most) aA,.a (aA:0<=((t.gY.length:Int):Int)/\((t.gY.length:Int):Int)<=x.length),.o 42 (.e (oj aA):ai (.sl true t.gY.length 7 (E.iS (hH x))) (hH (x.take t.gY.length))),af [hH (x.take t.gY.length)] (Bz (xk _ aA aA)),.bo,.y 11 11 true 62 2 (pe []),.s (Sp.jE (TV t x most p N) 0 N aA (λi hi mw=>by
    have vy:=hq i aA;have zN:=Ox t x most p i;have Mv:=Oy hk (most:=most) iu ie i (λj hj=>hq j aA) _ (vN vy);have sT:=Mv.len;have jN:=hk.next Mv
    exact iF (aa [tT 47 (0<((im t x most p i).q.length:Int)) aA,iX 0 ((im t x most p i).q.length) aA,.a (aA:0<(im t x most p i).q.length),.a (aA:0<=(1:Int)/\(1:Int)<=((im t x most p i).q.length:Int)),.a (aA:0<=((t.gY.length:Int):Int)/\((t.gY.length:Int):Int)<=x.length),.o 58 (.e (yP aA):ai (.sl true (x.length-t.gY.length) 7 λi_ j_=>(E.iS (hH x)) (t.gY.length+i_) j_) (hH (x.drop t.gY.length))),.o 59 (.e (tM _ _):ai (.sl true 2 1 λi_ j_=>[hH ((im t x most p i).q.getD 0 []),hH (x.drop t.gY.length)].getD (i_*1+j_) (.v (.bool false))) (iW [(im t x most p i).q.getD 0 [],x.drop t.gY.length])),af [iW [(im t x most p i).q.getD 0 [],x.drop t.gY.length]] (uc ((im t x most p i).q.getD 0 []) (x.drop t.gY.length) aA aA),.c (aeb t (((im t x most p i).q.getD 0 [])++(x.drop t.gY.length)) jN p iu ie),iA ((i:Int)+1) aA]<|.w ((iU t x p (im t x most p i)).1=1)
     (λg1=>by
      have jO:im t x most p (i+1)=⟨(im t x most p i).q.drop 1,(im t x most p i).r⟩:=by show nU _ _ _ _ _ _=_;unfold nU;rw[bj g1]
      exact aa [tB 69 (aY g1)]<|.e (ae [.b 11 (.iD (by rw[jO]):Bx.le (.row true 62 ((im t x most p i).r.length) 2 (pe (im t x most p i).r)) (.row true 62 ((im t x most p (i+1)).r.length) 2 (pe (im t x most p (i+1)).r))),.b 44 (C8 (Q:=(im t x most p i).q) (Q':=(im t x most p (i+1)).q) (by rw[jO]) rfl:Bx.le (.row true 23 ((im t x most p i).q.length-1) 1 (λi_ j_=>(nb (im t x most p i).q) (1+i_) j_)) (.row true 23 ((im t x most p (i+1)).q.length) 1 (nb (im t x most p (i+1)).q)))]))
     (λg1=>aa [tB 69 (aX g1)]<|.w ((iU t x p (im t x most p i)).1=2)
      (λg2=>by
       have hm:=yT jN iu ie g1;have mlen:(iU t x p (im t x most p i)).2.length=t.gY.length:=hm.len;have mbo:mq (iU t x p (im t x most p i)).2:=hm.ok;have mb1:1<=(iU t x p (im t x most p i)).2.length:= aA ;have mb8:(iU t x p (im t x most p i)).2.length<=8:= aA ;have jO:im t x most p (i+1)=⟨(im t x most p i).q.drop 1,(im t x most p i).r++[((iU t x p (im t x most p i)).2,true)]⟩:=by show nU _ _ _ _ _ _=_;unfold nU;rw[bh g1,bj g2]
       exact aa [tB 71 (aY g2),.a (aA:((im t x most p i).r.length+1)*32<=140737488355328)]<|.e (ae [.b 11 (F0 (R:=(im t x most p i).r) (R':=(im t x most p (i+1)).r) (by rw[jO]) rfl rfl rfl (λj hj=>by obtain rfl|rfl:j=0\/j=1:= aA <;>rfl):Bx.le (.row true 62 ((im t x most p i).r.length+1) 2 (λi_ j_=>if i_<(im t x most p i).r.length then(pe (im t x most p i).r) i_ j_ else(E.iS (.sl true 1 2 λi_ j_=>[hH ((iU t x p (im t x most p i)).2),bP true].getD (i_*2+j_) (.v (.bool false)))) (i_-(im t x most p i).r.length) j_)) (.row true 62 ((im t x most p (i+1)).r.length) 2 (pe (im t x most p (i+1)).r))),.b 44 (C8 (Q:=(im t x most p i).q) (Q':=(im t x most p (i+1)).q) (by rw[jO]) rfl:Bx.le (.row true 23 ((im t x most p i).q.length-1) 1 (λi_ j_=>(nb (im t x most p i).q) (1+i_) j_)) (.row true 23 ((im t x most p (i+1)).q.length) 1 (nb (im t x most p (i+1)).q)))]))
      (λg2=>aa [tB 71 (aX g2),iA (((im t x most p i).r.length:Int)+(((im t x most p i).q.length-1:Nat):Int)) aA,
       iA ((((im t x most p i).r.length+((im t x most p i).q.length-1):Nat):Int)+2) aA]<|.w (most<(((im t x most p i).r.length+((im t x most p i).q.length-1)+2:Nat):Int))
       (λg3=>by
        have hm:=yT jN iu ie g1;have mlen:(iU t x p (im t x most p i)).2.length=t.gY.length:=hm.len;have mbo:mq (iU t x p (im t x most p i)).2:=hm.ok;have mb1:1<=(iU t x p (im t x most p i)).2.length:= aA ;have mb8:(iU t x p (im t x most p i)).2.length<=8:= aA ;have jO:im t x most p (i+1)=⟨(im t x most p i).q.drop 1,(im t x most p i).r++[((iU t x p (im t x most p i)).2,false)]⟩:=by show nU _ _ _ _ _ _=_;unfold nU;rw[bh g1,bh g2,bj (by unfold BV;rw[bn g3];rfl)]
        exact aa [tB 84 (bn g3),.a (aA:((im t x most p i).r.length+1)*32<=140737488355328)]<|.e (ae [.b 11 (F0 (R:=(im t x most p i).r) (R':=(im t x most p (i+1)).r) (by rw[jO]) rfl rfl rfl (λj hj=>by obtain rfl|rfl:j=0\/j=1:= aA <;>rfl):Bx.le (.row true 62 ((im t x most p i).r.length+1) 2 (λi_ j_=>if i_<(im t x most p i).r.length then(pe (im t x most p i).r) i_ j_ else(E.iS (.sl true 1 2 λi_ j_=>[hH ((iU t x p (im t x most p i)).2),bP false].getD (i_*2+j_) (.v (.bool false)))) (i_-(im t x most p i).r.length) j_)) (.row true 62 ((im t x most p (i+1)).r.length) 2 (pe (im t x most p (i+1)).r))),.b 44 (C8 (Q:=(im t x most p i).q) (Q':=(im t x most p (i+1)).q) (by rw[jO]) rfl:Bx.le (.row true 23 ((im t x most p i).q.length-1) 1 (λi_ j_=>(nb (im t x most p i).q) (1+i_) j_)) (.row true 23 ((im t x most p (i+1)).q.length) 1 (nb (im t x most p (i+1)).q)))]))
       (λg3=>aa [tB 84 (bp g3)]<|.w ((4000:Int)<((i+1:Nat):Int))
        (λg3b=>by
         have hm:=yT jN iu ie g1;have mlen:(iU t x p (im t x most p i)).2.length=t.gY.length:=hm.len;have mbo:mq (iU t x p (im t x most p i)).2:=hm.ok;have mb1:1<=(iU t x p (im t x most p i)).2.length:= aA ;have mb8:(iU t x p (im t x most p i)).2.length<=8:= aA ;have jO:im t x most p (i+1)=⟨(im t x most p i).q.drop 1,(im t x most p i).r++[((iU t x p (im t x most p i)).2,false)]⟩:=by show nU _ _ _ _ _ _=_;unfold nU;rw[bh g1,bh g2,bj (by unfold BV;rw[bn g3b,Bool.or_true])]
         exact aa [tB 87 (bn g3b),.a (aA:((im t x most p i).r.length+1)*32<=140737488355328)]<|.e (ae [.b 11 (F0 (R:=(im t x most p i).r) (R':=(im t x most p (i+1)).r) (by rw[jO]) rfl rfl rfl (λj hj=>by obtain rfl|rfl:j=0\/j=1:= aA <;>rfl):Bx.le (.row true 62 ((im t x most p i).r.length+1) 2 (λi_ j_=>if i_<(im t x most p i).r.length then(pe (im t x most p i).r) i_ j_ else(E.iS (.sl true 1 2 λi_ j_=>[hH ((iU t x p (im t x most p i)).2),bP false].getD (i_*2+j_) (.v (.bool false)))) (i_-(im t x most p i).r.length) j_)) (.row true 62 ((im t x most p (i+1)).r.length) 2 (pe (im t x most p (i+1)).r))),.b 44 (C8 (Q:=(im t x most p i).q) (Q':=(im t x most p (i+1)).q) (by rw[jO]) rfl:Bx.le (.row true 23 ((im t x most p i).q.length-1) 1 (λi_ j_=>(nb (im t x most p i).q) (1+i_) j_)) (.row true 23 ((im t x most p (i+1)).q.length) 1 (nb (im t x most p (i+1)).q)))]))
        (λg3b=>aa [tB 87 (bp g3b)]<|.w ((rU (nB (iU t x p (im t x most p i)).2 p) (iU t x p (im t x most p i)).2)=true)
         (λg4=>by
          have hm:=yT jN iu ie g1;have mlen:(iU t x p (im t x most p i)).2.length=t.gY.length:=hm.len;have mbo:mq (iU t x p (im t x most p i)).2:=hm.ok;have mb1:1<=(iU t x p (im t x most p i)).2.length:= aA ;have mb8:(iU t x p (im t x most p i)).2.length<=8:= aA ;have yG:=Dw (b:=(iU t x p (im t x most p i)).2) (iU t x p (im t x most p i)).2.length aA (bl _);have jj:=IV (k:=nn (iU t x p (im t x most p i)).2 (iU t x p (im t x most p i)).2.length) hm p;have zK:=Ia (k:=nn (iU t x p (im t x most p i)).2 (iU t x p (im t x most p i)).2.length) hm p;have llen:(nB (iU t x p (im t x most p i)).2 p).length=t.gY.length:=jj.len;have hlen:(nJ (iU t x p (im t x most p i)).2 p).length=t.gY.length:=zK.len;have lbo:mq (nB (iU t x p (im t x most p i)).2 p):=jj.ok;have iN:mq (nJ (iU t x p (im t x most p i)).2 p):=zK.ok;have lb1:1<=(nB (iU t x p (im t x most p i)).2 p).length:= aA ;have lb8:(nB (iU t x p (im t x most p i)).2 p).length<=8:= aA ;have lbl:(iU t x p (im t x most p i)).2.length=(nB (iU t x p (im t x most p i)).2 p).length:= aA ;have kV:1<=(nJ (iU t x p (im t x most p i)).2 p).length:= aA ;have Hu:(nJ (iU t x p (im t x most p i)).2 p).length<=8:= aA ;have og:(iU t x p (im t x most p i)).2.length=(nJ (iU t x p (im t x most p i)).2 p).length:= aA 
          have SI:[nB (iU t x p (im t x most p i)).2 p,nJ (iU t x p (im t x most p i)).2 p].length=2:=rfl;have jO:im t x most p (i+1)=⟨(im t x most p i).q.drop 1,(im t x most p i).r++[((iU t x p (im t x most p i)).2,false)]⟩:=by show nU _ _ _ _ _ _=_;unfold nU;rw[bh g1,bh g2,bh (by unfold BV;rw[bp g3,bp g3b];decide),bj (by rw[g4];rfl)]
          exact aa [.c (KL ((iU t x p (im t x most p i)).2) mb1 mb8 mbo),.c (KK ((iU t x p (im t x most p i)).2) mb1 mb8 mbo (nn (iU t x p (im t x most p i)).2 (iU t x p (im t x most p i)).2.length) p iu ie yG),ah 104 ((0:Int) != 0) aC,.c (vk (nB (iU t x p (im t x most p i)).2 p) ((iU t x p (im t x most p i)).2) lb1 lb8 lbl lbo mbo),ag 108 (rU (nB (iU t x p (im t x most p i)).2 p) (iU t x p (im t x most p i)).2) g4,.a (aA:((im t x most p i).r.length+1)*32<=140737488355328)]<|.e (ae [.b 11 (F0 (R:=(im t x most p i).r) (R':=(im t x most p (i+1)).r) (by rw[jO]) rfl rfl rfl (λj hj=>by obtain rfl|rfl:j=0\/j=1:= aA <;>rfl):Bx.le (.row true 62 ((im t x most p i).r.length+1) 2 (λi_ j_=>if i_<(im t x most p i).r.length then(pe (im t x most p i).r) i_ j_ else(E.iS (.sl true 1 2 λi_ j_=>[hH ((iU t x p (im t x most p i)).2),bP false].getD (i_*2+j_) (.v (.bool false)))) (i_-(im t x most p i).r.length) j_)) (.row true 62 ((im t x most p (i+1)).r.length) 2 (pe (im t x most p (i+1)).r))),.b 44 (C8 (Q:=(im t x most p i).q) (Q':=(im t x most p (i+1)).q) (by rw[jO]) rfl:Bx.le (.row true 23 ((im t x most p i).q.length-1) 1 (λi_ j_=>(nb (im t x most p i).q) (1+i_) j_)) (.row true 23 ((im t x most p (i+1)).q.length) 1 (nb (im t x most p (i+1)).q)))]))
         (λg4=>.w ((rU (nJ (iU t x p (im t x most p i)).2 p) (iU t x p (im t x most p i)).2)=true)
          (λg5=>by
           have hm:=yT jN iu ie g1;have mlen:(iU t x p (im t x most p i)).2.length=t.gY.length:=hm.len;have mbo:mq (iU t x p (im t x most p i)).2:=hm.ok;have mb1:1<=(iU t x p (im t x most p i)).2.length:= aA ;have mb8:(iU t x p (im t x most p i)).2.length<=8:= aA ;have yG:=Dw (b:=(iU t x p (im t x most p i)).2) (iU t x p (im t x most p i)).2.length aA (bl _);have jj:=IV (k:=nn (iU t x p (im t x most p i)).2 (iU t x p (im t x most p i)).2.length) hm p;have zK:=Ia (k:=nn (iU t x p (im t x most p i)).2 (iU t x p (im t x most p i)).2.length) hm p;have llen:(nB (iU t x p (im t x most p i)).2 p).length=t.gY.length:=jj.len;have hlen:(nJ (iU t x p (im t x most p i)).2 p).length=t.gY.length:=zK.len;have lbo:mq (nB (iU t x p (im t x most p i)).2 p):=jj.ok;have iN:mq (nJ (iU t x p (im t x most p i)).2 p):=zK.ok;have lb1:1<=(nB (iU t x p (im t x most p i)).2 p).length:= aA ;have lb8:(nB (iU t x p (im t x most p i)).2 p).length<=8:= aA ;have lbl:(iU t x p (im t x most p i)).2.length=(nB (iU t x p (im t x most p i)).2 p).length:= aA ;have kV:1<=(nJ (iU t x p (im t x most p i)).2 p).length:= aA ;have Hu:(nJ (iU t x p (im t x most p i)).2 p).length<=8:= aA ;have og:(iU t x p (im t x most p i)).2.length=(nJ (iU t x p (im t x most p i)).2 p).length:= aA 
           have SI:[nB (iU t x p (im t x most p i)).2 p,nJ (iU t x p (im t x most p i)).2 p].length=2:=rfl;have jO:im t x most p (i+1)=⟨(im t x most p i).q.drop 1,(im t x most p i).r++[((iU t x p (im t x most p i)).2,false)]⟩:=by show nU _ _ _ _ _ _=_;unfold nU;rw[bh g1,bh g2,bh (by unfold BV;rw[bp g3,bp g3b];decide),bj (by rw[g5,Bool.or_true])]
           exact aa [.c (KL ((iU t x p (im t x most p i)).2) mb1 mb8 mbo),.c (KK ((iU t x p (im t x most p i)).2) mb1 mb8 mbo (nn (iU t x p (im t x most p i)).2 (iU t x p (im t x most p i)).2.length) p iu ie yG),ah 104 ((0:Int) != 0) aC,.c (vk (nB (iU t x p (im t x most p i)).2 p) ((iU t x p (im t x most p i)).2) lb1 lb8 lbl lbo mbo),tB 108 (aZ g4),.c (vk (nJ (iU t x p (im t x most p i)).2 p) ((iU t x p (im t x most p i)).2) kV Hu og iN mbo),ag 113 (rU (nJ (iU t x p (im t x most p i)).2 p) (iU t x p (im t x most p i)).2) g5,.a (aA:((im t x most p i).r.length+1)*32<=140737488355328)]<|.e (ae [.b 11 (F0 (R:=(im t x most p i).r) (R':=(im t x most p (i+1)).r) (by rw[jO]) rfl rfl rfl (λj hj=>by obtain rfl|rfl:j=0\/j=1:= aA <;>rfl):Bx.le (.row true 62 ((im t x most p i).r.length+1) 2 (λi_ j_=>if i_<(im t x most p i).r.length then(pe (im t x most p i).r) i_ j_ else(E.iS (.sl true 1 2 λi_ j_=>[hH ((iU t x p (im t x most p i)).2),bP false].getD (i_*2+j_) (.v (.bool false)))) (i_-(im t x most p i).r.length) j_)) (.row true 62 ((im t x most p (i+1)).r.length) 2 (pe (im t x most p (i+1)).r))),.b 44 (C8 (Q:=(im t x most p i).q) (Q':=(im t x most p (i+1)).q) (by rw[jO]) rfl:Bx.le (.row true 23 ((im t x most p i).q.length-1) 1 (λi_ j_=>(nb (im t x most p i).q) (1+i_) j_)) (.row true 23 ((im t x most p (i+1)).q.length) 1 (nb (im t x most p (i+1)).q)))]))
          (λg5=>by
           have hm:=yT jN iu ie g1;have mlen:(iU t x p (im t x most p i)).2.length=t.gY.length:=hm.len;have mbo:mq (iU t x p (im t x most p i)).2:=hm.ok;have mb1:1<=(iU t x p (im t x most p i)).2.length:= aA ;have mb8:(iU t x p (im t x most p i)).2.length<=8:= aA ;have yG:=Dw (b:=(iU t x p (im t x most p i)).2) (iU t x p (im t x most p i)).2.length aA (bl _);have jj:=IV (k:=nn (iU t x p (im t x most p i)).2 (iU t x p (im t x most p i)).2.length) hm p;have zK:=Ia (k:=nn (iU t x p (im t x most p i)).2 (iU t x p (im t x most p i)).2.length) hm p;have llen:(nB (iU t x p (im t x most p i)).2 p).length=t.gY.length:=jj.len;have hlen:(nJ (iU t x p (im t x most p i)).2 p).length=t.gY.length:=zK.len;have lbo:mq (nB (iU t x p (im t x most p i)).2 p):=jj.ok;have iN:mq (nJ (iU t x p (im t x most p i)).2 p):=zK.ok;have lb1:1<=(nB (iU t x p (im t x most p i)).2 p).length:= aA ;have lb8:(nB (iU t x p (im t x most p i)).2 p).length<=8:= aA ;have lbl:(iU t x p (im t x most p i)).2.length=(nB (iU t x p (im t x most p i)).2 p).length:= aA ;have kV:1<=(nJ (iU t x p (im t x most p i)).2 p).length:= aA ;have Hu:(nJ (iU t x p (im t x most p i)).2 p).length<=8:= aA ;have og:(iU t x p (im t x most p i)).2.length=(nJ (iU t x p (im t x most p i)).2 p).length:= aA 
           have SI:[nB (iU t x p (im t x most p i)).2 p,nJ (iU t x p (im t x most p i)).2 p].length=2:=rfl;have jO:im t x most p (i+1)=⟨(im t x most p i).q.drop 1++[nB (iU t x p (im t x most p i)).2 p,nJ (iU t x p (im t x most p i)).2 p],(im t x most p i).r⟩:=by show nU _ _ _ _ _ _=_;unfold nU;rw[bh g1,bh g2,bh (by unfold BV;rw[bp g3,bp g3b];decide),bh (by rw[aZ g4,aZ g5];decide)]
           exact aa [.c (KL ((iU t x p (im t x most p i)).2) mb1 mb8 mbo),.c (KK ((iU t x p (im t x most p i)).2) mb1 mb8 mbo (nn (iU t x p (im t x most p i)).2 (iU t x p (im t x most p i)).2.length) p iu ie yG),ah 104 ((0:Int) != 0) aC,.c (vk (nB (iU t x p (im t x most p i)).2 p) ((iU t x p (im t x most p i)).2) lb1 lb8 lbl lbo mbo),tB 108 (aZ g4),.c (vk (nJ (iU t x p (im t x most p i)).2 p) ((iU t x p (im t x most p i)).2) kV Hu og iN mbo),tB 113 (aZ g5),.o 123 (.e (tM _ _):ai (.sl true 2 1 λi_ j_=>[hH (nB (iU t x p (im t x most p i)).2 p),hH (nJ (iU t x p (im t x most p i)).2 p)].getD (i_*1+j_) (.v (.bool false))) (iW [nB (iU t x p (im t x most p i)).2 p,nJ (iU t x p (im t x most p i)).2 p])),.a (aA:(((im t x most p i).q.length-1)+[nB (iU t x p (im t x most p i)).2 p,nJ (iU t x p (im t x most p i)).2 p].length)*24<=140737488355328)]<|.e (ae [.b 11 (.iD (by rw[jO]):Bx.le (.row true 62 ((im t x most p i).r.length) 2 (pe (im t x most p i).r)) (.row true 62 ((im t x most p (i+1)).r.length) 2 (pe (im t x most p (i+1)).r))),.b 44 (ag9 (Q:=(im t x most p i).q) (Q':=(im t x most p (i+1)).q) (by rw[jO]) rfl rfl (λi j hi hj=>by obtain rfl:j=0:= aA;obtain rfl|rfl:i=0\/i=1:= aA <;>rfl):Bx.le (.row true 23 (((im t x most p i).q.length-1)+[nB (iU t x p (im t x most p i)).2 p,nJ (iU t x p (im t x most p i)).2 p].length) 1 (λi_ j_=>if i_<((im t x most p i).q.length-1)then(λi_ j_=>(nb (im t x most p i).q) (1+i_) j_) i_ j_ else(E.iS (iW [nB (iU t x p (im t x most p i)).2 p,nJ (iU t x p (im t x most p i)).2 p])) (i_-((im t x most p i).q.length-1)) j_)) (.row true 23 ((im t x most p (i+1)).q.length) 1 (nb (im t x most p (i+1)).q)))])))))))) aD)
  (λhi=>by
    exact iF (ae [tF 47 (0<((im t x most p N).q.length:Int)) aA,.z 11]) aD) aG:jA 9 Tryz.f78 (TV t x most p N 0) (.exit 1) ⟨126,true,[(11,.e (.sl true ((im t x most p N).r.length) 2 (pe (im t x most p N).r)))],[]⟩) (ae [.b 11 (.iD rfl:Bx.le (.row true 62 0 2 (pe [])) (.row true 62 ((im t x most p 0).r.length) 2 (pe (im t x most p 0).r))),.b 44 (ag8 rfl rfl:Bx.le (.row true 23 1 1 (λi_ j_=>[hH (x.take t.gY.length)].getD (i_*1+j_) (.v (.bool false)))) (.row true 23 ((im t x most p 0).q.length) 1 (nb (im t x most p 0).q)))])]<|rR (.ik [uV (im t x most p N).r,iP 0]) (.refl _:E.le (.ik [.sl true ((im t x most p N).r.length) 2 (pe (im t x most p N).r),iP 0]) (.ik [uV (im t x most p N).r,iP 0]))) 
def aek(t:iV)(x:List Iv)(hk:lY t x)(most:Int)(p:Nat)(iu:8<=p)(ie:p<=512)(m1:1<=most)(m2:most<=10000):gW 78 [jG t,hH x,iP most,iP p] (.ik [uV (zi t x most p),iP 0]):=by
 obtain⟨h1,h2,h3⟩:=(Dl t x most p).choose_spec;exact aej t x hk most p iu ie m1 m2 _ h1 h2 h3
def ai6{s:me}{x:List Iv}(h:oK s)(hx:kG s.jU x):lY s.tape (x++s.params):=by
 have h1:=h.s1;have h2:=h.iw;have h3:=h.gY;have h4:=hx.len;refine⟨h.tape,aA,aA,by rw[bY];omega,λi hi=>?_⟩;by_cases kI:i<x.length
 .have e:(x++s.params).getD i gZ=x.getD i gZ:=by simp only[bk];rw[dg kI]
  rw[e];exact hx.ok i kI
 .have e:(x++s.params).getD i gZ=s.params.getD (i-x.length) gZ:=by simp only[bk];rw[dH aA]
  rw[e];rw[bY]at hi;exact h.params _ aA 
noncomputable def pL(s:me)(x:List Iv)(most:Int)(p:Nat):List (List Iv×Bool):=zi s.tape (x++s.params) most p
def F8(R:List (List Iv×Bool)):Bool:=(List.range R.length).all λi=>(R.getD i ([],false)).2
def wX(R:List (List Iv×Bool)):List (List Iv):=(List.range R.length).map λi=>(R.getD i ([],false)).1
def JA(R:List (List Iv×Bool)):E:=if F8 R then .ik [iW (wX R),iP 0]else .ik [.v (.slice none 0 0),iP 15]
def WV(t:iV)(x:List Iv)(most:Int)(p:Nat):(zi t x most p).length<=8001:=by
 obtain⟨h1,h2,h3⟩:=(Dl t x most p).choose_spec;have:=(Ox t x most p (tU t x most p)).1;exact bK this h1
def We(R:List (List Iv×Bool))(i:Nat):PS:=⟨42,true,[(12,.own 12),(28,.e (iP i)),(27,.e (iP R.length)),(26,.e (uV R))],[(12,.row true 23 i 1 (nb ((List.range i).map (λi=>(R.getD i ([],false)).1))))]⟩
def Wd(R:List (List Iv×Bool))(N:Nat)(i:Nat):PS:=⟨42,true,[(12,.own 12),(28,.e (iP i)),(27,.e (iP R.length)),(26,.e (uV R))],[(12,.row true 23 i 1 (nb ((List.range i).map (λi=>(R.getD i ([],false)).1))))]⟩
def ad3(s:me)(x:List Iv)(h:oK s)(hx:kG s.jU x)(most:Int)(p:Nat)(iu:8<=p)(ie:p<=512)(m1:1<=most)(m2:most<=10000):gW 27 [jK s,hH x,iP most,iP p] (.ik [uV (pL s x most p),iP 0]):=by
 have s1:=h.s1;have s4:=h.s4;have p4:=h.p4;have hl:=hx.len;exact aj call27 func27 (aa [.c (J3 s aB),ah 18 ((x.length:Int) != (s.jU:Int)) (r8 hl),.o 25 (.e (tM _ _):ai (.sl true 2 1 λi_ j_=>[hH x,hH s.params].getD (i_*1+j_) (.v (.bool false))) (iW [x,s.params])),af [iW [x,s.params]] (uc x s.params aA aA),.c (aek s.tape (x++s.params) (ai6 h hx) most p iu ie m1 m2)]<|rR (.ik [uV (pL s x most p),iP 0]) (.refl _:E.le (.ik [uV (pL s x most p),iP 0]) (.ik [uV (pL s x most p),iP 0]))) 
def ahG(s:me)(x:List Iv)(most:Int)(p:Nat)(R:List (List Iv×Bool))(hR:R.length<=8001)(hE:gW 27 [jK s,hH x,iP most,iP (p:Int)] (.ik [uV R,iP 0]))(lg:∀ i,i<R.length->(R.getD i ([],false)).2=true):gW 26 [jK s,hH x,iP most,iP p] (.ik [iW (wX R),iP 0]):=
 aj call26 func26 (aa [af [jK s,hH x,iP most,iP p] hE,ah 24 ((0:Int) != 0) aC,.y 12 12 true 23 1 (nb ((List.range 0).map (λi=>(R.getD i ([],false)).1))),.s (Sp.jE (We R) 0 R.length aA (λi hi mw=>by
    have hs:=lg i aA;have oY:=nS (R.getD i ([],false)).1;exact iF (aa [tT 29 ((i:Int)<R.length) aA,iX (i:Int) (R.length) aA,ag 33 ((R.getD i ([],false)).2) hs,.a (aA:(i+1)*24<=140737488355328),
     iA ((i:Int)+1) aA]<|.e (ae [.b 12 (UP rfl rfl rfl (λj hj=>by obtain rfl:j=0:= aA;rfl):Bx.le (.row true 23 (i+1) 1 (λi_ j_=>if i_<i then(nb ((List.range i).map (λi=>(R.getD i ([],false)).1))) i_ j_ else(E.iS (.sl true 1 1 λi_ j_=>[hH ((R.getD i ([],false)).1)].getD (i_*1+j_) (.v (.bool false)))) (i_-i) j_)) (.row true 23 (i+1) 1 (nb ((List.range (i+1)).map (λi=>(R.getD i ([],false)).1)))))])) aD)
  (λhi=>by
    exact iF (ae [tF 29 ((R.length:Int)<R.length) aA,.z 12]) aD) aG:jA 6 Tryz.f26 (We R 0) (.exit 0) ⟨42,true,[(12,.e (.sl true R.length 1 (nb ((List.range R.length).map (λi=>(R.getD i ([],false)).1)))))],[]⟩) .nil]<|rR (.ik [iW (wX R),iP 0]) (.ik (.cons (afq aF) (.cons (.refl _) .nil)):E.le (.ik [.sl true R.length 1 (nb ((List.range R.length).map (λi=>(R.getD i ([],false)).1))),iP 0]) (.ik [iW (wX R),iP 0]))) 
def ahE(s:me)(x:List Iv)(most:Int)(p:Nat)(R:List (List Iv×Bool))(hR:R.length<=8001)(hE:gW 27 [jK s,hH x,iP most,iP (p:Int)] (.ik [uV R,iP 0]))(N:Nat)(hN:N<R.length)(lg:∀ i,i<N->(R.getD i ([],false)).2=true)(pM:(R.getD N ([],false)).2=false):gW 26 [jK s,hH x,iP most,iP p] (.ik [.v (.slice none 0 0),iP 15]):=
 aj call26 func26 (aa [af [jK s,hH x,iP most,iP p] hE,ah 24 ((0:Int) != 0) aC,.y 12 12 true 23 1 (nb ((List.range 0).map (λi=>(R.getD i ([],false)).1))),.s (Sp.jE (Wd R N) 0 N aA (λi hi mw=>by
    have hs:=lg i aA;have oY:=nS (R.getD i ([],false)).1;exact iF (aa [tT 29 ((i:Int)<R.length) aA,iX (i:Int) (R.length) aA,ag 33 ((R.getD i ([],false)).2) hs,.a (aA:(i+1)*24<=140737488355328),
     iA ((i:Int)+1) aA]<|.e (ae [.b 12 (UP rfl rfl rfl (λj hj=>by obtain rfl:j=0:= aA;rfl):Bx.le (.row true 23 (i+1) 1 (λi_ j_=>if i_<i then(nb ((List.range i).map (λi=>(R.getD i ([],false)).1))) i_ j_ else(E.iS (.sl true 1 1 λi_ j_=>[hH ((R.getD i ([],false)).1)].getD (i_*1+j_) (.v (.bool false)))) (i_-i) j_)) (.row true 23 (i+1) 1 (nb ((List.range (i+1)).map (λi=>(R.getD i ([],false)).1)))))])) aD)
  (λhi=>by
    exact iF (ae [tT 29 ((N:Int)<R.length) aA,iX (N:Int) (R.length) aA,ah 33 ((R.getD N ([],false)).2) pM]) aD) aG:jA 6 Tryz.f26 (Wd R N 0) .ret ⟨42,true,[(9,.e (iP 15)),(8,.e (.v (.slice none 0 0)))],[]⟩) .nil]<|rR (.ik [.v (.slice none 0 0),iP 15]) (.refl _:E.le (.ik [.v (.slice none 0 0),iP 15]) (.ik [.v (.slice none 0 0),iP 15]))) 
def ahF(s:me)(x:List Iv)(most:Int)(p:Nat)(R:List (List Iv×Bool))(hR:R.length<=8001)(hE:gW 27 [jK s,hH x,iP most,iP (p:Int)] (.ik [uV R,iP 0])):gW 26 [jK s,hH x,iP most,iP p] (JA R):=by
 unfold JA;by_cases c:F8 R=true
 .rw [bj c];exact ahG s x most p R hR hE λi hi=>bG.1 c i (bJ.2 hi)
 .rw [bh c];obtain⟨i,hi,hn⟩:=aku.1 (aZ c);obtain⟨N,h1,h2,h3⟩:=tK (p:=λi=>!(R.getD i ([],false)).2) ⟨i,bJ.1 hi,by simpa using hn⟩;exact ahE s x most p R hR hE N h1 (λi hi=>by simpa using h3 i hi) (by simpa using h2)
def ahD(s:me)(x:List Iv)(h:oK s)(hx:kG s.jU x)(most:Int)(p:Nat)(iu:8<=p)(ie:p<=512)(m1:1<=most)(m2:most<=10000):gW 26 [jK s,hH x,iP most,iP p] (JA (pL s x most p)):=ahF s x most p _ (WV _ _ _ _) (ad3 s x h hx most p iu ie m1 m2)
def jY:iV:=⟨1,[⟨1,0,0,0,1,1⟩,⟨4,1,0,0,0,0⟩,⟨5,0,2,0,0,0⟩],[3]⟩
def kA:me:=⟨jY,1,[]⟩
def Uz:wb jY:=by
 refine⟨aC,aC,aC,λi hi=>?_,λi hi=>?_⟩
 .have hi:i<3:=hi;obtain rfl|rfl|rfl:i=0\/i=1\/i=2:= aA 
  .exact ⟨.inl rfl,aC,aC,aC,aC,aC,.inl aC⟩
  .exact ⟨.inr aC,aC,aC,aC,aC,aC,.inl aC⟩
  .exact ⟨.inr aC,aC,aC,aC,aC,aC,.inl aC⟩
 .have hi:i<1:=hi;obtain rfl:i=0:= aA ;decide
def Ff:oK kA:=⟨Uz,aC,aC,rfl,rfl,aC,λi hi=>absurd hi (bu i)⟩
def FH:Iv:=rO 1 1 60
def E9(B:Iv):Iv:=ky FH B 60
def vE(B:Iv):Iv:=kJ B (E9 B) 60
def E8(B:Iv):Iv:=if(E9 B).all then gZ else ky (if FH.all then gZ else lM 0) (lM 1) 60
def yS(B:Iv):Iv:=if(vE B).all then gZ else kU (kJ (lM 1) (E9 B) 60) (kJ B (E8 B) 60) 60
def aew(B:Iv):jT jY [B] 60=[vE B]:=rfl
def VB:FH=lM 1:= aD 
def VC:FH.ic:=by rw[VB];exact FC
def T7{B:Iv}(h:B.ic):(E9 B).ic:=pT VC (qX h) aC aC 
def T5(B:Iv):(vE B).ic:=nQ _ _ aC aC 
def aev(B:Iv):(E8 B).ic:=by
 unfold E8;refine r6 lX (pT (r6 lX FB) (qX FC) aC aC)
def T8(B:Iv):(yS B).ic:=r6 lX (pT (nQ _ _ aC aC) (nQ _ _ aC aC) aC aC)
def agB:FH.j8 1:=by rw[VB];exact Ja 1
def T6{B:Iv}(h:B.ic){t:Rat}(ht:B.j8 t):(E9 B).j8 (1-t):=Dk VC h aC aC agB ht
def M8{B:Iv}(h:B.ic){t:Rat}(ht:B.j8 t):(vE B).j8 (t*(1-t)):=Bv h (T7 h) aC aC ht (T6 h ht)
def OT(r:Rat):gZ.j8 r:=.inl rfl
def aeu(B:Iv):(E8 B).j8 (0-1):=by
 unfold E8;split
 .exact OT _
 .refine Dk (r6 lX FB) FC aC aC ?_ (Ja 1);split
  .exact OT _
  .exact Ja 0
def M9{B:Iv}(h:B.ic){s t:Rat}(hs:B.j8 s)(ht:B.j8 t):(yS B).j8 (1*(1-s)+t*(0-1)):=by
 unfold yS;split
 .exact OT _
 .exact Gr (nQ _ _ aC aC) (nQ _ _ aC aC) aC aC (Bv FC (T7 h) aC aC (Ja 1) (T6 h hs)) (Bv h (aev B) aC aC ht (aeu B))
def L5{x:Iv}{d:Dy}(h:x.j8 d.q):pv x d=true:=by
 unfold pv yr;rcases h with h|⟨h1,h2⟩
 .rw [h];rfl
 .rw [bn ((s7 _ _).2 h1),bn ((s7 _ _).2 h2)];simp
def Nq{x y:Iv}{r:Rat}(xa:x.all=false)(ya:y.all=false)(hx:x.j8 r)(hy:y.j8 r):uN x y=true/\(oo x y).j8 r:=by
 obtain⟨a1,a2⟩:=hx.mM xa;obtain⟨b1,b2⟩:=hy.mM ya;have e1:(jv x.lo y.lo).q<=r:=by rcases(FQ x.lo y.lo).2.2 with h|h<;>rw[h]<;>assumption
 have e2:r<=(jy x.hi y.hi).q:=by rcases(C9 x.hi y.hi).2.2 with h|h<;>rw[h]<;>assumption
 exact⟨bn ((s7 _ _).2 (dt e1 e2)),.inr ⟨e1,e2⟩⟩
def afG{x y:Iv}{r:Rat}(hx:x.j8 r)(hy:y.j8 r):(pH x y).j8 r:=by
 unfold pH;split
 .exact hy
 .split
  .exact hx
  .rename_i h1 h2;obtain⟨g1,g2⟩:=Nq (aZ h1) (aZ h2) hx hy;rw[bj g1];exact g2
def Zr(z:Rat):Prop:=z*(1-z)=0
abbrev cP(B:Iv):Iv:=iY (j9 B 60)
def zt{B:Iv}(h:B.ic):(cP B).ic:=tO (Bt h 60)
def UR{B:Iv}(h:B.ic)(ha:B.all=false):B.j8 (j9 B 60).q:=.inr ⟨(s7 _ _).1 (IY h ha 60).1,(s7 _ _).1 (IY h ha 60).2⟩
def aey{B:Iv}(h:B.ic)(ha:B.all=false){z:Rat}(hz:Zr z)(hB:B.j8 z):pR jY [B] 60=false:=by
 have h0:(iL).q=0:= aJ ;have f0:(vE B).j8 (iL).q:=by rw[h0,<-(show z*(1-z)=0 from hz)];exact M8 h hB
 have hc:=UR h ha;have em:vI jY [B] 60=[pH (kU (vE (cP B)) (kJ (yS B) (ky B (cP B) 60) 60) 60) (vE B)]:= aD ;have m0:(kU (vE (cP B)) (kJ (yS B) (ky B (cP B) 60) 60) 60).j8 (iL).q:=by
  have e:(iL).q=(j9 B 60).q*(1-(j9 B 60).q)+(1*(1-z)+(j9 B 60).q*(0-1))*(z-(j9 B 60).q):=by
   rw[h0];have hz:z*(1-z)=0:=hz
   grind
  rw[e];exact Gr (T5 _) (nQ _ _ aC aC) aC aC (M8 (zt h) (y6 _))
   (Bv (T8 _) (pT h (qX (zt h)) aC aC) aC aC (M9 h hB hc) (Dk h (zt h) aC aC hB (y6 _)))
 unfold pR;rw[aew,em];have g1:vM [vE B]=false:=by
  unfold vM;rw[cw];intro i hi;have hi:i<1:=bJ.1 hi;obtain rfl:i=0:= aA ;have:=L5 f0;simp[this]
 have g2:vM [pH (kU (vE (cP B)) (kJ (yS B) (ky B (cP B) 60) 60) 60) (vE B)]=false:=by
  unfold vM;rw[cw];intro i hi;have hi:i<1:=bJ.1 hi;obtain rfl:i=0:= aA ;have:=L5 (afG m0 f0);simp[this]
 rw[g1,g2];rfl
def E7(B:Iv)(y:Dy):Iv:=ky (iY uT) (kJ (iY y) (yS B) 60) 60
def vF(B:Iv)(y:Dy):Iv:=kU (ky (cP B) (kJ (iY y) (vE (cP B)) 60) 60) (kJ (E7 B y) (ky B (cP B) 60) 60) 60
def aex(B:Iv)(y:Dy):qp jY [B] 60 [[y]]=[vF B y]:= aD 
def aet{B:Iv}(y:Dy):(E7 B y).ic:=by
 unfold E7 ky;exact pT (tO NN) (qX (nQ _ _ aC aC)) aC aC 
def agC:(iY uT).j8 1:=by
 have h:=y6 uT;rwa[show uT.q=1 by decide +kernel]at h
def aes{B:Iv}{y:Dy}(hy:y.ic){j:Rat}(hj:(yS B).j8 j):(E7 B y).j8 (1-y.q*j):=by
 unfold E7;exact Dk (tO NN) (nQ _ _ aC aC) aC aC agC (Bv (tO hy) (T8 B) aC aC (y6 y) hj)
def Ua{B:Iv}(h:B.ic){y:Dy}(hy:y.ic){j t:Rat}(hj:(yS B).j8 j)(ht:B.j8 t):
 (vF B y).j8 ((j9 B 60).q-y.q*((j9 B 60).q*(1-(j9 B 60).q))+(1-y.q*j)*(t-(j9 B 60).q)):=by
 unfold vF;exact Gr (pT (zt h) (qX (nQ _ _ aC aC)) aC aC) (nQ _ _ aC aC) aC aC 
  (Dk (zt h) (nQ _ _ aC aC) aC aC (y6 _) (Bv (tO hy) (T5 _) aC aC (y6 y) (M8 (zt h) (y6 _))))
  (Bv (aet y) (pT h (qX (zt h)) aC aC) aC aC (aes hy hj) (Dk h (zt h) aC aC ht (y6 _)))
def Ub{B:Iv}(h:B.ic)(ha:B.all=false){y:Dy}(hy:y.ic){z:Rat}(hz:Zr z)(hB:B.j8 z):(vF B y).j8 z:=by
 have hc:=UR h ha;have:=Ua h hy (M9 h hB hc) hB;have e:(j9 B 60).q-y.q*((j9 B 60).q*(1-(j9 B 60).q))+(1-y.q*(1*(1-z)+(j9 B 60).q*(0-1)))*(z-(j9 B 60).q)=z:=by
  have hz:z*(1-z)=0:=hz
  grind
 rwa[e]at this
def T9{B:Iv}(h:B.ic){y:Dy}(hy:y.ic)(h0:B.j8 0)(h1:B.j8 1){t:Rat}(ht:B.j8 t):(vF B y).j8 (t-y.q*((j9 B 60).q*(1-(j9 B 60).q))):=by
 have:=Ua h hy (M9 h h0 h1) ht;have e:(j9 B 60).q-y.q*((j9 B 60).q*(1-(j9 B 60).q))+(1-y.q*(1*(1-0)+1*(0-1)))*(t-(j9 B 60).q)=t-y.q*((j9 B 60).q*(1-(j9 B 60).q)):= aI ;rwa[e]at this
def Ca{b:List Iv}(h:kG 1 b):∃ B,b=[B]/\B.ic/\B.all=false:=by
 obtain⟨hl,ho⟩:=h
 match b,hl with
 | [B],_=>exact⟨B,rfl,(ho 0 (eD _)).1,(ho 0 (eD _)).2⟩
def Je{B:Iv}(h:B.ic)(ha:B.all=false):kG 1 [B]:=⟨rfl,λi hi=>by
 have hi:i<1:=hi;obtain rfl:i=0:= aA ;exact⟨h,ha⟩⟩
def oe(b:List Iv)(z:Rat):Prop:=(b.getD 0 gZ).j8 z
def CQ{b:List Iv}(h:kG 1 b):lY jY b:=⟨Uz,aC,aC,h.len,h.ok⟩
def y1{y:List (List Dy)}(h:Kv y 1):∃ d,y=[[d]]/\d.ic:=by
 obtain⟨hd,hl⟩:=h
 match y,hl with
 | [r],_=>
  have hr:r.length=1:=hd.row 0 (eD _)
  match r,hr with
  | [d],_=>exact⟨d,rfl,hd.ok 0 0⟩
def NO{B:Iv}{k:List Iv}(h:B.ic)(ha:B.all=false)(ho:qZ jY [B] 60=some k):∃ y:Dy,y.ic/\k=[vF B y]/\(vF B y).ic/\(vF B y).all=false:=by
 have hk:=CQ (Je h ha);obtain⟨y,q1,_,_,q4,q5,q6⟩:=VG hk aC aC ho;have hy:=MQ q1 aC aC aC aC;obtain⟨d,rfl,hd⟩:=y1 hy;rw[aex]at q4;subst q4;have:=q6 0 (eD _);exact⟨d,hd,rfl,this.1,this.2⟩
def Nb(B:Iv):[B].take jY.gY.length=[B]:=rfl
def aeI(B:Iv):[B].drop jY.gY.length=[]:=rfl
def aeM{B:Iv}(h:B.ic)(ha:B.all=false){z:Rat}(hz:Zr z)(hB:B.j8 z){r:Int×List Iv}(hr:oE jY [B] 60=some r):r.1≠1/\oe r.2 z:=by
 unfold oE at hr;rw[aey h ha hz hB,bh aC]at hr;cases ho:qZ jY [B] 60 with
 |none=>
  rw[ho]at hr;cases hr;exact⟨by show(0:Int)≠1;decide,hB⟩
 |some k=>
  obtain⟨y,hy,rfl,kv,ka⟩:=NO h ha ho;have hk:=Ub h ha hy hz hB;rw[ho]at hr;simp only at hr;split at hr
  .cases hr;exact⟨by show(2:Int)≠1;decide,hk⟩
  .split at hr
   .rename_i hm;have:yX [vF B y] ([B].take jY.gY.length)=true:=by
     rw[Nb];unfold yX;rw[bG];intro i hi;have hi:i<1:=bJ.1 hi;obtain rfl:i=0:= aA ;exact(Nq ka ha hk hB).1
    rw[this]at hm;cases hm
   .split at hr
    .cases hr;exact⟨by show(0:Int)≠1;decide,hB⟩
    .cases hr
def aeJ{B:Iv}(h:B.ic)(ha:B.all=false){z:Rat}(hz:Zr z)(hB:B.j8 z)(hr:oE jY [B] 60=none):oe (vG jY [B] 60) z:=by
 obtain⟨_,k,ho,_,_,_,hn⟩:=z8 hr;obtain⟨y,hy,rfl,kv,ka⟩:=NO h ha ho;have hk:=Ub h ha hy hz hB;rw[hn,Nb,aeI];exact(Nq ka ha hk hB).2
def Uj{x:List Iv}{z:Rat}(hz:Zr z):∀ m i,kG 1 (ij jY x 60 i)->oe (ij jY x 60 i) z->(rn jY x 60 m i).1≠1/\oe (rn jY x 60 m i).2 z
 | 0,i,hb,hh=>by
  obtain⟨B,e,hv,ha⟩:=Ca hb;unfold rn;rw[e]at hh ⊢;exact⟨by show(0:Int)≠1;decide,hh⟩
 |m+1,i,hb,hh=>by
  obtain⟨B,e,hv,ha⟩:=Ca hb;unfold rn;cases hr:oE jY (ij jY x 60 i) 60 with
  |some r=>
   rw[e]at hr hh;exact aeM hv ha hz hh hr
  |none=>
   have nh:=IJ (CQ hb) (p:=60) aC aC hr;refine Uj hz m (i+1) ⟨nh.len,nh.ok⟩ ?_;show oe (vG jY (ij jY x 60 i) 60) z;rw[e]at hr hh ⊢;exact aeJ hv ha hz hh hr
def afd{b:List Iv}(hb:kG 1 b){z:Rat}(hz:Zr z)(hh:oe b z):(uJ jY b 60).1≠1/\oe (uJ jY b 60).2 z:=Uj hz 12 0 hb hh
def aeL{B:Iv}(h:B.ic)(ha:B.all=false){r:Int×List Iv}(hr:oE jY [B] 60=some r)(h2:r.1=2):¬(oe r.2 0/\oe r.2 1):=by
 unfold oE at hr;split at hr
 .cases hr;exact absurd (show(_:Int)=2 from h2) (by show ¬(_:Int)=2;first|exact(aC:¬(0:Int)=2)|exact(aC:¬(1:Int)=2))
 .cases ho:qZ jY [B] 60 with
  |none=>rw[ho]at hr;cases hr;exact absurd (show(_:Int)=2 from h2) (by show ¬(_:Int)=2;first|exact(aC:¬(0:Int)=2)|exact(aC:¬(1:Int)=2))
  |some k=>
   obtain⟨y,hy,rfl,kv,ka⟩:=NO h ha ho;rw[ho]at hr;simp only at hr;split at hr
   .rename_i jP;cases hr;rintro⟨g0,g1⟩;have g0:(vF B y).j8 0:=g0;have g1:(vF B y).j8 1:=g1;have jP:uD (vF B y) B=true:=by
     rw[Nb]at jP;exact bG.1 jP 0 (bJ.2 (eD _))
    unfold uD at jP;rw[ha,ka,eG,dZ,ej,bF]at jP;have i1:=(V0 _ _).1 (cK jP.1);have i2:=(V0 _ _).1 (cK jP.2);obtain⟨a1,a2⟩:=g0.mM ka;obtain⟨b1,b2⟩:=g1.mM ka;have B0:B.j8 0:=.inr ⟨aI,aI⟩;have B1:B.j8 1:=.inr ⟨aI,aI⟩;obtain⟨c1,c2⟩:=(T9 h hy B0 B1 h.Cq).mM ka;obtain⟨d1,d2⟩:=(T9 h hy B0 B1 h.Eh).mM ka
    grind
   .split at hr
    .cases hr;exact absurd (show(_:Int)=2 from h2) (by show ¬(_:Int)=2;first|exact(aC:¬(0:Int)=2)|exact(aC:¬(1:Int)=2))
    .split at hr
     .cases hr;exact absurd (show(_:Int)=2 from h2) (by show ¬(_:Int)=2;first|exact(aC:¬(0:Int)=2)|exact(aC:¬(1:Int)=2))
     .cases hr
def Ui{x:List Iv}:∀ m i,kG 1 (ij jY x 60 i)->(rn jY x 60 m i).1=2->¬(oe (rn jY x 60 m i).2 0/\oe (rn jY x 60 m i).2 1)
 | 0,i,_,h=>by unfold rn at h;exact absurd (show(0:Int)=2 from h) aC 
 |m+1,i,hb,h=>by
  obtain⟨B,e,hv,ha⟩:=Ca hb;unfold rn at h ⊢;cases hr:oE jY (ij jY x 60 i) 60 with
  |some r=>
   rw[hr]at h;rw[e]at hr;exact aeL hv ha hr h
  |none=>
   rw[hr]at h;have nh:=IJ (CQ hb) (p:=60) aC aC hr;exact Ui m (i+1) ⟨nh.len,nh.ok⟩ h
def afc{b:List Iv}(hb:kG 1 b)(h:(uJ jY b 60).1=2):¬(oe (uJ jY b 60).2 0/\oe (uJ jY b 60).2 1):=Ui 12 0 hb h
def Xv(B:Iv):nn [B] [B].length=0:=by
 have:=Dw (b:=[B]) [B].length (eD _) (bl _);have h:nn [B] [B].length<1:=this;omega
def afe(B:Iv):nB [B] 60=[⟨B.lo,j9 B 60,B.all⟩]:=by
 unfold nB Bo;rw[Xv];rfl
def acW(B:Iv):nJ [B] 60=[⟨j9 B 60,B.hi,B.all⟩]:=by
 unfold nJ AU;rw[Xv];rfl
def aix{b:List Iv}(hb:kG 1 b){z:Rat}(hh:oe b z):oe (nB b 60) z\/oe (nJ b 60) z:=by
 obtain⟨B,rfl,hv,ha⟩:=Ca hb;obtain⟨h1,h2⟩:=Iv.j8.mM (x:=B) hh ha;rw[afe,acW];rcases Rat.le_total (a:=z) (b:=(j9 B 60).q)with h|h
 .exact .inl (.inr ⟨h1,h⟩)
 .exact .inr (.inr ⟨h,h2⟩)
def M3(s:xg)(z:Rat):Prop:=(∃ b,b ∈ s.q/\oe b z)\/(∃ e,e ∈ s.r/\oe e.1 z)
section
variable {x:List Iv} {most:Int} {i:Nat} {s:xg}
def aiI:∀ e,e ∈ s.r->e ∈ (nU jY x most 60 i s).r:=λe he=>by
 unfold nU
 repeat' split
 all_goals first|exact he|exact gP _ he
def aiH:∀ b,b ∈ s.q.drop 1->b ∈ (nU jY x most 60 i s).q:=λe he=>by
 unfold nU
 repeat' split
 all_goals first|exact he|exact gP _ he
def acQ{b:List Iv}(h:b ∈ s.q):b=s.q.getD 0 []\/b ∈ s.q.drop 1:=by
 cases hq:s.q with
 |nil=>rw[hq]at h;cases h
 |cons a l=>
  rw[hq]at h;rcases cW.1 h with rfl|h
  .exact .inl rfl
  .exact .inr h
def aiG(hx:x.drop jY.gY.length=[])(hs:∀ b,b ∈ s.q->kG 1 b){z:Rat}(hz:Zr z)(hk:M3 s z):M3 (nU jY x most 60 i s) z:=by
 rcases hk with⟨b,hb,hh⟩|⟨e,he,hh⟩
 .rcases acQ hb with rfl|h
  .have jf:=hs _ hb;obtain⟨g1,g2⟩:=afd jf hz hh;have el:iU jY x 60 s=uJ jY (s.q.getD 0 []) 60:=by unfold iU;rw[hx,ep]
   rw[<-el]at g1 g2;have hm:kG 1 (iU jY x 60 s).2:=by
    have:=yT (CQ jf) (p:=60) aC aC (by rw[<-el];exact g1);rw[<-el]at this;exact⟨this.len,this.ok⟩
   unfold nU;rw[bh g1];split
   .exact .inr ⟨_,fL _ (c9.2 rfl),g2⟩
   .split
    .exact .inr ⟨_,fL _ (c9.2 rfl),g2⟩
    .split
     .exact .inr ⟨_,fL _ (c9.2 rfl),g2⟩
     .rcases aix hm g2 with h|h
      .exact .inl ⟨_,fL _ (List.mem_cons_self ..),h⟩
      .exact .inl ⟨_,fL _ (List.mem_cons_of_mem _ (c9.2 rfl)),h⟩
  .exact .inl ⟨b,aiH b h,hh⟩
 .exact .inr ⟨e,aiI e he,hh⟩
def Oj(s:xg):Prop:=∀ e,e ∈ s.r->kG 1 e.1/\(e.2=true->¬(oe e.1 0/\oe e.1 1))
def aiJ(hx:x.drop jY.gY.length=[])(hs:∀ b,b ∈ s.q->kG 1 b)(h0:s.q.length≠0)(hk:Oj s):Oj (nU jY x most 60 i s):=by
 have jf:=hs _ (vN h0);have el:iU jY x 60 s=uJ jY (s.q.getD 0 []) 60:=by unfold iU;rw[hx,ep]
 have hm:(iU jY x 60 s).1≠1->kG 1 (iU jY x 60 s).2:=λh=>by
  have:=yT (CQ jf) (p:=60) aC aC (by rw[<-el];exact h);rw[<-el]at this;exact⟨this.len,this.ok⟩
 intro e;unfold nU;split
 .exact hk e
 .rename_i n1;split
  .rename_i n2;intro he;rcases cS.1 he with he|he
   .exact hk e he
   .obtain rfl:=c9.1 he;refine⟨hm n1,λ_=>?_⟩;have:=afc jf (by rw[<-el];exact n2);rwa[<-el]at this
  .split
   .intro he;rcases cS.1 he with he|he
    .exact hk e he
    .obtain rfl:=c9.1 he;exact⟨hm n1,λh=>by cases h⟩
   .split
    .intro he;rcases cS.1 he with he|he
     .exact hk e he
     .obtain rfl:=c9.1 he;exact⟨hm n1,λh=>by cases h⟩
    .exact hk e
end
def J2{x:List Iv}(hb:kG 1 x){most:Int}{z:Rat}(hz:Zr z)(hh:oe x z):∀ i,(∀ j,j<i->(im jY x most 60 j).q.length≠0)->M3 (im jY x most 60 i) z/\Oj (im jY x most 60 i)
 | 0,_=>by
  obtain⟨B,rfl,hv,ha⟩:=Ca hb;exact⟨.inl ⟨_,c9.2 rfl,hh⟩,λe he=>by cases he⟩
 |i+1,h=>by
  obtain⟨h1,h2⟩:=J2 hb (most:=most) hz hh i λj hj=>h j aA 
  have hs:∀ b,b ∈ (im jY x most 60 i).q->kG 1 b:=λb hq=>by
   have:=Oy (CQ hb) (most:=most) (p:=60) aC aC i (λj hj=>h j aA) b hq;exact⟨this.len,this.ok⟩
  have hx:x.drop jY.gY.length=[]:=by
   obtain⟨B,rfl,hv,ha⟩:=Ca hb;rfl
  exact⟨aiG hx hs hz h1,aiJ hx hs (h i aA) h2⟩
def OW:Zr 0:=by unfold Zr;grind
def OX:Zr 1:=by unfold Zr;grind
def Nf{x:List Iv}(hb:kG 1 x)(most:Int){z:Rat}(hz:Zr z)(hh:oe x z):∃ i,i<(pL kA x most 60).length/\kG 1 ((pL kA x most 60).getD i ([],false)).1/\oe ((pL kA x most 60).getD i ([],false)).1 z:=by
 have ex:pL kA x most 60=zi jY x most 60:=by unfold pL;rw[show x++kA.params=x from ep x];rfl
 rw[ex];obtain⟨_,h2,h3⟩:=(Dl jY x most 60).choose_spec;obtain⟨k1,k2⟩:=J2 hb (most:=most) hz hh (tU jY x most 60) h3;rcases k1 with⟨b,hq,_⟩|⟨e,he,hz⟩
 .have:=List.length_pos_of_mem hq;exact absurd h2 (by show(im jY x most 60 (tU jY x most 60)).q.length≠0;omega)
 .obtain ⟨i,hi,rfl⟩:=fQ he;refine⟨i,hi,?_⟩;have e:(zi jY x most 60).getD i ([],false)=(im jY x most 60 (tU jY x most 60)).r[i]:=by
   rw[bk];show((im jY x most 60 (tU jY x most 60)).r[i]?).getD ([],false)=_;rw[bw hi];rfl
  rw[e];exact⟨(k2 _ he).1,hz⟩
def ae7{x:List Iv}(hb:kG 1 x)(most:Int)(hs:F8 (pL kA x most 60)=true)(hh:oe x 0){i:Nat}(hi:i<(pL kA x most 60).length):¬(oe ((pL kA x most 60).getD i ([],false)).1 0/\oe ((pL kA x most 60).getD i ([],false)).1 1):=by
 have ex:pL kA x most 60=zi jY x most 60:=by unfold pL;rw[show x++kA.params=x from ep x];rfl
 have h1:=bG.1 hs i (bJ.2 hi);rw[ex]at hi h1 ⊢;obtain⟨_,_,h3⟩:=(Dl jY x most 60).choose_spec;obtain⟨_,k2⟩:=J2 hb (most:=most) OW hh (tU jY x most 60) h3;have hi:i<(im jY x most 60 (tU jY x most 60)).r.length:=hi;have e:(zi jY x most 60).getD i ([],false)=(im jY x most 60 (tU jY x most 60)).r[i]:=by
  rw[bk];show((im jY x most 60 (tU jY x most 60)).r[i]?).getD ([],false)=_;rw[bw hi];rfl
 rw[e]at h1 ⊢;exact(k2 _ (cz hi)).2 h1
def ae4{x:List Iv}(hb:kG 1 x)(most:Int){z:Rat}(hz:Zr z)(hh:oe x z){i:Nat}(hi:i<(pL kA x most 60).length):kG 1 ((pL kA x most 60).getD i ([],false)).1:=by
 have ex:pL kA x most 60=zi jY x most 60:=by unfold pL;rw[show x++kA.params=x from ep x];rfl
 rw[ex]at hi ⊢;obtain⟨_,_,h3⟩:=(Dl jY x most 60).choose_spec;obtain⟨_,k2⟩:=J2 hb (most:=most) hz hh (tU jY x most 60) h3;have hi:i<(im jY x most 60 (tU jY x most 60)).r.length:=hi;have e:(zi jY x most 60).getD i ([],false)=(im jY x most 60 (tU jY x most 60)).r[i]:=by
  rw[bk];show((im jY x most 60 (tU jY x most 60)).r[i]?).getD ([],false)=_;rw[bw hi];rfl
 rw[e];exact(k2 _ (cz hi)).1
def kS(M:List (List Iv))(d:Dy):Nat->Nat
 | 0=>0
 |k+1=>if pv ((M.getD k []).getD 0 gZ) d=true then kS M d k+1 else kS M d k
def Qg{M:List (List Iv)}{d:Dy}{i:Nat}(h:pv ((M.getD i []).getD 0 gZ) d=true):∀ k,i<k->1<=kS M d k
 |k+1,hk=>by
  unfold kS;by_cases e:i=k
  .subst e;rw[bj h];omega
  .have:=Qg h k aA ;split<;>omega
def DU{M:List (List Iv)}{d:Dy}:∀ k,kS M d k<=k
 | 0=>bl _
 |k+1=>by have:=DU (M:=M) (d:=d) k;unfold kS;split<;>omega
def FW(R:List (List Iv×Bool)):(wX R).length=R.length:=by simp[wX]
def Wf{R:List (List Iv×Bool)}{i:Nat}(h:i<R.length):(wX R).getD i []=(R.getD i ([],false)).1:=by unfold wX;rw[JI h]
structure DB(x:List Iv)(M:List (List Iv))(z:Rat)(d:Dy):Prop where
 box:∀ i,i<M.length->kG 1 (M.getD i [])
 GO:1<=kS M d M.length
 len:1<=M.length
def Ng{x:List Iv}(hb:kG 1 x)(most:Int){z:Rat}(hz:Zr z)(hh:oe x z){d:Dy}(hd:d.q=z):DB x (wX (pL kA x most 60)) z d:=by
 obtain⟨i,h1,h2,h3⟩:=Nf hb most hz hh;refine⟨λi hi=>?_,?_,?_⟩
 .rw [FW]at hi;rw[Wf hi];exact ae4 hb most hz hh hi
 .refine Qg (i:=i) ?_ _ (by rw[FW];exact h1);rw[Wf h1];exact L5 (by rw[hd];exact h3)
 .rw [FW];omega
def ae8{x:List Iv}(hb:kG 1 x)(most:Int)(hs:F8 (pL kA x most 60)=true)(h0:oe x 0)(h1:oe x 1):2<=(wX (pL kA x most 60)).length:=by
 obtain⟨i,a1,_,a3⟩:=Nf hb most OW h0;obtain⟨j,b1,_,b3⟩:=Nf hb most OX h1;have jQ:i≠j:=λe=>by
  subst e;exact ae7 hb most hs h0 a1 ⟨a3,b3⟩
 rw[FW];omega
abbrev BE:List Iv:=[iY (iK 0 0)]
abbrev BF:List Iv:=[iY (iK 1 0)]
def VS:kG 1 BE:=Je (tO (wc aC aC aC)) rfl
def VT:kG 1 BF:=Je (tO (wc aC aC aC)) rfl
def ae9:Gf kA BE 60=true:= aJ 
def ae5:Di kA BE 60=false:= aJ 
def ae6:Di kA BF 60=true:= aJ 
def afa:Gf kA BF 60=false:= aJ 
def BH(n:Int):(iK n 0).q=(n:Rat):=N4 n
def YX : gW 142 [.v (.string ⟨#[120]⟩)] (.agg [iP 2,iP 0,iP 0,.v (.string ⟨#[120]⟩),iP 0,.v (.slice none 0 0)]):=
 aj call142 func142 (.nil) 
def Y4 : gW 142 [.v (.string ⟨#[121]⟩)] (.agg [iP 2,iP 0,iP 0,.v (.string ⟨#[121]⟩),iP 0,.v (.slice none 0 0)]):=
 aj call142 func142 (.nil) 
def Y9 : gW 142 [.v (.string ⟨#[116]⟩)] (.agg [iP 2,iP 0,iP 0,.v (.string ⟨#[116]⟩),iP 0,.v (.slice none 0 0)]):=
 aj call142 func142 (.nil) 
def Za : gW 142 [.v (.string ⟨#[97]⟩)] (.agg [iP 2,iP 0,iP 0,.v (.string ⟨#[97]⟩),iP 0,.v (.slice none 0 0)]):=
 aj call142 func142 (.nil) 
def KR : gW 154 [.sl true (1+0) 1 (λi_ j_=>if i_<1 then(λi_ j_=>if i_<0 then(λi_ j_=>([]:List E).getD (i_*1+j_) (.v (.bool false))) i_ j_ else(E.iS (.sl true 1 1 λi_ j_=>[.v (.string ⟨#[120]⟩)].getD (i_*1+j_) (.v (.bool false)))) (i_-0) j_) i_ j_ else(E.iS (.sl true 0 1 λ_ _=>.any)) (i_-1) j_),.v (.string ⟨#[120]⟩)] (iP 0):=
 aj call154 func154 (ae [.u 12,ag 9 (decide ((0:Int)<1)) aC,iX 0 1 aA,.g (Jj (akv _):lN prog .eql 9 (.v (.string ⟨#[120]⟩)) (.v (.string ⟨#[120]⟩)) (.bool true))]) 
def Zb : gW 90 [.agg [iP 1,.v (.slice none 0 0),.v (.slice none 0 0)],.agg [iP 2,iP 0,iP 0,.v (.string ⟨#[120]⟩),iP 0,.v (.slice none 0 0)],.sl true (1+0) 1 (λi_ j_=>if i_<1 then(λi_ j_=>if i_<0 then(λi_ j_=>([]:List E).getD (i_*1+j_) (.v (.bool false))) i_ j_ else(E.iS (.sl true 1 1 λi_ j_=>[.v (.string ⟨#[120]⟩)].getD (i_*1+j_) (.v (.bool false)))) (i_-0) j_) i_ j_ else(E.iS (.sl true 0 1 λ_ _=>.any)) (i_-1) j_)] (.ik [.agg [iP 1,.v (.slice none 0 0),.v (.slice none 0 0)],iP 0]):=
 aj call90 func90 (ae [ag 15 ((2:Int)==2) aC,af [.sl true (1+0) 1 (λi_ j_=>if i_<1 then(λi_ j_=>if i_<0 then(λi_ j_=>([]:List E).getD (i_*1+j_) (.v (.bool false))) i_ j_ else(E.iS (.sl true 1 1 λi_ j_=>[.v (.string ⟨#[120]⟩)].getD (i_*1+j_) (.v (.bool false)))) (i_-0) j_) i_ j_ else(E.iS (.sl true 0 1 λ_ _=>.any)) (i_-1) j_),.v (.string ⟨#[120]⟩)] KR]) 
def VH{a b c d e f:Int}(ha:kQ .i64 a)(hb:kQ .i64 b)(hc:kQ .i64 c)(hd:kQ .i64 d)(he:kQ .i64 e)(hf:kQ .i64 f):
 prog.keyLits 10 153 [.int .i64 a,.int .i64 b,.int .i64 c,.int .i64 d,.int .i64 e,.int .i64 f]=some [.int .i64 a,.int .i64 b,.int .i64 c,.int .i64 d,.int .i64 e,.int .i64 f]:=by
 have c1:prog.cellsOf 153=6:= aD ;have c2:prog.cellsOf 3=1:= aD ;have c3:prog.cellsOf 78=2:= aD ;have r:prog.keyLits 9 78 [.int .i64 e,.int .i64 f]=some [.int .i64 e,.int .i64 f]:=by
  unfold Program.keyLits;rw[underlying78];simp[c3,c2,eh,zW he,zW hf]
 unfold Program.keyLits;rw[underlying153];simp[c1,c2,c3,eh,zW ha,zW hb,zW hc,zW hd,r]
def agE{a b c d e f a' b' c' d' e' f':Int}(ha:kQ .i64 a)(hb:kQ .i64 b)(hc:kQ .i64 c)(hd:kQ .i64 d)(he:kQ .i64 e)(hf:kQ .i64 f)
 (uo:kQ .i64 a') (px:kQ .i64 b') (Ej:kQ .i64 c') (AR:kQ .i64 d') (he':kQ .i64 e') (hf':kQ .i64 f'):
 lN prog .eql 153 (.agg [iP a,iP b,iP c,iP d,iP e,iP f]) (.agg [iP a',iP b',iP c',iP d',iP e',iP f']) (.bool (decide (a=a'/\b=b'/\c=c'/\d=d'/\e=e'/\f=f'))):=
 Ji (VH ha hb hc hd he hf) (VH uo px Ej AR he' hf') aD aD rfl
inductive lR where
 |num (n:Int)
 |var (y:Bool)
 |un (k n:Nat) (e:lR)
 |iE (k:Nat) (a b:lR)
def jo:lR->List E
 | .num n=>[iP 1,iP n,iP 1,.v (.string ⟨#[]⟩),iP 0,.v (.slice none 0 0)]
 | .var true=>[iP 2,iP 0,iP 0,.v (.string ⟨#[121]⟩),iP 0,.v (.slice none 0 0)]
 | .var false=>[iP 2,iP 0,iP 0,.v (.string ⟨#[120]⟩),iP 0,.v (.slice none 0 0)]
 | .un k n e=>[iP (k:Int),iP 0,iP 0,.v (.string ⟨#[]⟩),iP (n:Int),.sl true 1 6 λi j=>(jo e).getD (i*6+j) (.v (.bool false))]
 | .iE k a b=>[iP (k:Int),iP 0,iP 0,.v (.string ⟨#[]⟩),iP 0,.sl true 2 6 λi j=>(jo a++jo b).getD (i*6+j) (.v (.bool false))]
def je(e:lR):E:=.agg (jo e)
def mU:E:=.sl true 2 1 λi j=>[.v (.string ⟨#[120]⟩),.v (.string ⟨#[121]⟩)].getD (i*1+j) (.v (.bool false))
def nj(q o:ji):Bool:=decide ((q.kind:Int)=o.kind/\(q.a:Int)=o.a/\(q.b:Int)=o.b/\(q.n:Int)=o.n/\q.cn=o.cn/\q.cd=o.cd)
def yo(l:List ji)(o:ji):Nat->Option Nat
 | 0=>none
 |k+1=>match yo l o k with
  |some i=>some i
  |none=>if nj (l.getD k iG) o then some k else none
def qy(t:iV)(o:ji):iV×Nat:=match yo t.gX o t.gX.length with
 |some i=>(t,t.iw+i)
 |none=>({ t with gX:=t.gX++[o] },t.iw+t.gX.length)
def ig(t:iV):lR->iV×Nat
 | .num n=>qy t ⟨1,0,0,0,n,1⟩
 | .var y=>(t,if y then 1 else 0)
 | .un k n e=>qy (ig t e).1 ⟨k,(ig t e).2,0,n,0,0⟩
 | .iE k a b=>qy (ig (ig t a).1 b).1 ⟨k,(ig t a).2,(ig (ig t a).1 b).2,0,0,0⟩
def Ly{l:List ji}{o:ji}:∀ {k:Nat},yo l o k=none->∀ i,i<k->nj (l.getD i iG) o=false
 | 0,_,i,hi=>absurd hi (bu i)
 |k+1,h,i,hi=>by
  unfold yo at h;split at h
  .cases h
  .rename_i h1;split at h
   .cases h
   .rename_i h2;by_cases e:i=k
    .subst e;exact aZ h2
    .exact Ly h1 i aA 
def Lz{l:List ji}{o:ji}{N:Nat}:∀ {k:Nat},yo l o k=some N->N<k/\nj (l.getD N iG) o=true/\∀ i,i<N->nj (l.getD i iG) o=false
 | 0,h=>by cases h
 |k+1,h=>by
  unfold yo at h;split at h
  .rename_i i h1;cases h;obtain⟨a,b,c⟩:=Lz h1;exact⟨aA,b,c⟩
  .rename_i h1;split at h
   .rename_i h2;cases h;exact⟨aA,h2,Ly h1⟩
   .cases h
structure ve(o:ji):Prop where
 k:o.kind<=1000
 a:o.a<=1000
 b:o.b<=1000
 n:o.n<=1000
 c1:-1099511627776<=o.cn
 c2:o.cn<=1099511627776
 d1:-1099511627776<=o.cd
 d2:o.cd<=1099511627776
def y3(q o:ji)(hq:ve q)(ho:ve o):lN prog .eql 153 (qq q) (qq o) (.bool (nj q o)):=by
 obtain⟨a1,a2,a3,a4,a5,a6,a7,a8⟩:=hq;obtain⟨b1,b2,b3,b4,b5,b6,b7,b8⟩:=ho;exact agE aP aP aP aP aP aP aP aP aP aP aP aP 
def NU{l:List ji}{o:ji}{p:E}(hp:∀ j,j<6->p.iS 0 j=(y4 o).getD j .any):E.le (.sl true (0+l.length+1) 6 λi j=>if i<0+l.length then(λi_ j_=>if i_<0 then(λi_ j_=>([]:List E).getD (i_*6+j_) (.v (.bool false))) i_ j_ else(E.iS (kP l)) (i_-0) j_) i j else(E.iS p) (i-(0+l.length)) j) (kP (l++[o])):=by
 have e:kP (l++[o]) = .sl true (0+l.length+1) 6 λi j=>(y4 ((l++[o]).getD i iG)).getD j .any:=by unfold kP;rw[bY,bX];rfl
 rw[e];refine .sl λi j hi hj=>⟨.iD ?_,?_⟩
 .rw [bX]at *
  by_cases h:i<l.length
  .rw [bj h];show(y4 (l.getD i iG)).getD j .any=(y4 ((l++[o]).getD i iG)).getD j .any;congr 2;simp[bk,dg h]
  .have kI:i=l.length:= aA ;subst kI;rw[bh h,cV,hp j hj];congr 2;simp[bk]
 .unfold y4;rcases j with _|_|_|_|_|_|j
  all_goals first|rfl|omega
def lR.sz:lR->Nat
 | .num _=>1
 | .var _=>1
 | .un _ _ e=>e.sz+1
 | .iE _ a b=>a.sz+b.sz+1
def lR.Ok:lR->Prop
 | .num n=>-1073741824<=n/\n<=1073741824
 | .var _=>True
 | .un k n e=>7<=k/\k<=8/\(if k=8 then n<=16 else n=0)/\e.Ok
 | .iE k a b=>3<=k/\k<=6/\a.Ok/\b.Ok
structure pr(t:iV):Prop where
 iw:t.iw=2
 op:∀ i,i<t.gX.length->oJ (t.gX.getD i iG) (t.iw+i)
def pr.sm{t:iV}(h:pr t)(hl:t.gX.length<=900)(i:Nat)(hi:i<t.gX.length):ve (t.gX.getD i iG):=by
 have ho:=h.op i hi;have h2:=h.iw;obtain⟨k3,Bj,oa,ob,on,oc⟩:=ho;refine⟨aA,?_,?_,?_,?_,?_,?_,?_⟩
 .split at oa<;>omega
 .split at ob<;>omega
 .split at on<;>omega
 all_goals
  split at oc
  .have:=Js oc;omega
  .omega
def pr.add{t:iV}(h:pr t){o:ji}(ho:oJ o (t.iw+t.gX.length)):pr (qy t o).1/\(qy t o).2<(qy t o).1.iw+(qy t o).1.gX.length/\(qy t o).1.gX.length<=t.gX.length+1/\t.gX.length<=(qy t o).1.gX.length/\(qy t o).1.gY=t.gY:=by
 unfold qy;split
 .rename_i i hi;obtain⟨q,_⟩:=Lz hi;exact⟨h,by show t.iw+i<t.iw+t.gX.length;omega,by show t.gX.length<=_;omega,bl _,rfl⟩
 .refine ⟨⟨h.iw,λi hi=>?_⟩,?_,?_,?_,rfl⟩
  .have hi:i<(t.gX++[o]).length:=hi;show oJ ((t.gX++[o]).getD i iG) (t.iw+i);rw[bY,fh]at hi;by_cases e:i<t.gX.length
   .rw [bk,dg e,<-bk];exact h.op i e
   .obtain rfl:i=t.gX.length:= aA ;simpa[bk]using ho
  .show t.iw+t.gX.length<t.iw+(t.gX++[o]).length;simp
  .show (t.gX++[o]).length<=_;simp
  .show _<=(t.gX++[o]).length;simp
def ahc{n:Int}(h1:-1073741824<=n)(h2:n<=1073741824):qt n 1=true:=by
 unfold qt;simp[h1,h2]
def agh{n:Int}{m:Nat}(h1:-1073741824<=n)(h2:n<=1073741824):oJ ⟨1,0,0,0,n,1⟩ m:=by
 refine⟨.inl rfl,by show 1<=13;decide,?_,?_,?_,?_,.inl (by show 1<=8;decide)⟩
 .rw [bj rfl]
 .rw [bh (by show ¬(3<=1/\1<=6);decide)]
 .rw [bh (by show ¬1=8;decide)]
 .rw [bj rfl];exact ahc h1 h2
def ajz{k n a m:Nat}(h7:7<=k)(h8:k<=8)(hn:if k=8 then n<=16 else n=0)(ha:a<m):oJ ⟨k,a,0,n,0,0⟩ m:=by
 refine⟨.inr (by show 3<=k;omega),by show k<=13;omega,?_,?_,hn,?_,.inl h8⟩
 .rw [bh (by show ¬k=1;omega)];exact ha
 .rw [bh (by show ¬(3<=k/\k<=6);omega)]
 .rw [bh (by show ¬k=1;omega)];exact⟨rfl,rfl⟩
def YB{k a b m:Nat}(h3:3<=k)(h6:k<=6)(ha:a<m)(hb:b<m):oJ ⟨k,a,b,0,0,0⟩ m:=by
 refine⟨.inr h3,by show k<=13;omega,?_,?_,?_,?_,.inl (by show k<=8;omega)⟩
 .rw [bh (by show ¬k=1;omega)];exact ha
 .rw [bj ⟨h3,h6⟩];exact hb
 .rw [bh (by show ¬k=8;omega)]
 .rw [bh (by show ¬k=1;omega)];exact⟨rfl,rfl⟩
def wS:∀ (e:lR) {t:iV},e.Ok->pr t->pr (ig t e).1/\(ig t e).2<(ig t e).1.iw+(ig t e).1.gX.length/\(ig t e).1.gX.length<=t.gX.length+e.sz/\t.gX.length<=(ig t e).1.gX.length/\(ig t e).1.gY=t.gY
 | .num n,t,h,k=>k.add (agh h.1 h.2)
 | .var y,t,_,k=>by
  have:=k.iw;refine⟨k,?_,?_,?_,rfl⟩
  .show (if y then 1 else 0)<t.iw+t.gX.length;cases y<;>simp<;>omega
  .show t.gX.length<=t.gX.length+1;omega
  .show t.gX.length<=t.gX.length;omega
 | .un c n e,t,⟨h7,h8,hn,he⟩,k=>by
  obtain⟨k1,k2,k3,k4,k5⟩:=wS e he k;obtain⟨q1,q2,q3,q4,q5⟩:=k1.add (ajz (n:=n) h7 h8 hn k2);exact⟨q1,q2,by show(qy _ _).1.gX.length<=t.gX.length+(e.sz+1);omega,bK k4 q4,q5.trans k5⟩
 | .iE c a b,t,⟨h3,h6,ha,hb⟩,k=>by
  obtain⟨k1,k2,k3,k4,k5⟩:=wS a ha k;obtain⟨l1,l2,l3,l4,l5⟩:=wS b hb k1;have e1:=k1.iw;have e2:=l1.iw;obtain⟨q1,q2,q3,q4,q5⟩:=l1.add (YB h3 h6 (show(ig t a).2<_ by omega) l2);exact⟨q1,q2,by show(qy _ _).1.gX.length<=t.gX.length+(a.sz+b.sz+1);omega,bK k4 (bK l4 q4),q5.trans (l5.trans k5)⟩
def kX:iV:=⟨2,[],[]⟩
def sC(a b:lR):me:=⟨⟨2,(ig (ig kX a).1 b).1.gX,[(ig kX a).2,(ig (ig kX a).1 b).2]⟩,2,[]⟩
def W0{a b:lR}(ha:a.Ok)(hb:b.Ok)(hs:a.sz+b.sz<=200):oK (sC a b):=by
 have k:pr kX:=⟨rfl,λi hi=>absurd hi (bu i)⟩
 obtain⟨k1,k2,k3,k4,k5⟩:=wS a ha k;obtain⟨l1,l2,l3,l4,l5⟩:=wS b hb k1;have e1:=k1.iw;have e2:=l1.iw;have k3':(ig kX a).1.gX.length<=0+a.sz:=k3;refine⟨⟨by show 2<=8;decide,by show(ig (ig kX a).1 b).1.gX.length<=200;omega,by show 2<=200;decide,λi hi=>?_,λi hi=>?_⟩,by show 1<=2;decide,by show 2<=4;decide,rfl,rfl,by show 0<=4;decide,λi hi=>absurd hi (bu i)⟩
 .have:=l1.op i hi;rw[e2]at this;exact this
 .have hi:i<2:=hi;show[(ig kX a).2,(ig (ig kX a).1 b).2].getD i 0<2+(ig (ig kX a).1 b).1.gX.length;obtain rfl|rfl:i=0\/i=1:= aA 
  .show (ig kX a).2<_;omega
  .show (ig (ig kX a).1 b).2<_;omega
def Vv(t:iV)(n:Int)(N:Nat)(x:Nat):PS:=⟨88,true,[(12,.e (iP x)),(8,.box 8 0),(6,.box 6 0),(3,.box 3 0)],[(8,.cells 153 [iP 1,iP 0,iP 0,iP 0,iP n,iP 1]),(6,.cells 29 [iP 0,.v (.slice none 0 0),.v (.slice none 0 0)]),(3,.cells 29 [iP t.iw,kP t.gX,kR t.gY])]⟩
def Vu(t:iV)(n:Int)(x:Nat):PS:=⟨88,true,[(12,.e (iP x)),(8,.box 8 0),(6,.box 6 0),(3,.box 3 0)],[(8,.cells 153 [iP 1,iP 0,iP 0,iP 0,iP n,iP 1]),(6,.cells 29 [iP 0,.v (.slice none 0 0),.v (.slice none 0 0)]),(3,.cells 29 [iP t.iw,kP t.gX,kR t.gY])]⟩
def Vx(t:iV)(k n:Nat)(e:lR)(N:Nat)(x:Nat):PS:=⟨88,true,[(12,.e (iP x)),(8,.box 8 0),(6,.box 6 0),(3,.box 3 0)],[(8,.cells 153 [iP k,iP (((ig t e).2:Nat):Int),iP 0,iP n,iP 0,iP 0]),(3,.cells 29 [iP (((ig t e).1).iw:Int),kP (((ig t e).1).gX),kR (((ig t e).1).gY)]),(6,.cells 29 [iP 0,.v (.slice none 0 0),.v (.slice none 0 0)])]⟩
def Vw(t:iV)(k n:Nat)(e:lR)(x:Nat):PS:=⟨88,true,[(12,.e (iP x)),(8,.box 8 0),(6,.box 6 0),(3,.box 3 0)],[(8,.cells 153 [iP k,iP (((ig t e).2:Nat):Int),iP 0,iP n,iP 0,iP 0]),(3,.cells 29 [iP (((ig t e).1).iw:Int),kP (((ig t e).1).gX),kR (((ig t e).1).gY)]),(6,.cells 29 [iP 0,.v (.slice none 0 0),.v (.slice none 0 0)])]⟩
def Vt(t:iV)(k:Nat)(a b:lR)(N:Nat)(x:Nat):PS:=⟨88,true,[(12,.e (iP x)),(8,.box 8 0),(6,.box 6 0),(3,.box 3 0)],[(8,.cells 153 [iP k,iP (((ig t a).2:Nat):Int),iP (((ig (ig t a).1 b).2:Nat):Int),iP 0,iP 0,iP 0]),(3,.cells 29 [iP (((ig (ig t a).1 b).1).iw:Int),kP (((ig (ig t a).1 b).1).gX),kR (((ig (ig t a).1 b).1).gY)]),(6,.cells 29 [iP 0,.v (.slice none 0 0),.v (.slice none 0 0)])]⟩
def Vs(t:iV)(k:Nat)(a b:lR)(x:Nat):PS:=⟨88,true,[(12,.e (iP x)),(8,.box 8 0),(6,.box 6 0),(3,.box 3 0)],[(8,.cells 153 [iP k,iP (((ig t a).2:Nat):Int),iP (((ig (ig t a).1 b).2:Nat):Int),iP 0,iP 0,iP 0]),(3,.cells 29 [iP (((ig (ig t a).1 b).1).iw:Int),kP (((ig (ig t a).1 b).1).gX),kR (((ig (ig t a).1 b).1).gY)]),(6,.cells 29 [iP 0,.v (.slice none 0 0),.v (.slice none 0 0)])]⟩
def aiK:((⟨#[120]⟩:ByteArray).toList==(⟨#[121]⟩:ByteArray).toList)=false:= aJ 
def agU : gW 154 [mU,.v (.string ⟨#[120]⟩)] (iP 0):=
 aj call154 func154 (ae [.u 4,ag 9 (decide ((0:Int)<2)) aC,iX 0 2 aA,.g (Jj (akv _):lN prog .eql 9 (.v (.string ⟨#[120]⟩)) (.v (.string ⟨#[120]⟩)) (.bool true))]) 
def agV : gW 154 [mU,.v (.string ⟨#[121]⟩)] (iP 1):=
 aj call154 func154 (ae [.u 4,ag 9 (decide ((0:Int)<2)) aC,iX 0 2 aA,.g (Jj aiK:lN prog .eql 9 (.v (.string ⟨#[120]⟩)) (.v (.string ⟨#[121]⟩)) (.bool false)),iA (0+1) aA,ag 9 (decide (((0+1):Int)<2)) aC,iX (0+1) 2 aA,.g (Jj (akv _):lN prog .eql 9 (.v (.string ⟨#[121]⟩)) (.v (.string ⟨#[121]⟩)) (.bool true))]) 
abbrev ym(e:lR):E:=.sl true 1 6 λi j=>(jo e).getD (i*6+j) (.v (.bool false))
abbrev mj(a b:lR):E:=.sl true 2 6 λi j=>(jo a++jo b).getD (i*6+j) (.v (.bool false))
def Hf(e:lR):(jo e).length=6:=by
 cases e with
 |var y=>cases y<;>rfl
 |_=>rfl
def JV{l:List E}(h:l.length=6):∃ a b c d e f,l=[a,b,c,d,e,f]:=by
 rcases l with _|⟨a,_|⟨b,_|⟨c,_|⟨d,_|⟨e,_|⟨f,_|⟨g,l⟩⟩⟩⟩⟩⟩⟩<;>first|exact⟨_,_,_,_,_,_,rfl⟩|(simp at h;done)|(simp at h;omega)
def Q9(e:lR):E.agg [(jo e).getD (0*6+0) (.v (.bool false)),(jo e).getD (0*6+1) (.v (.bool false)),(jo e).getD (0*6+2) (.v (.bool false)),(jo e).getD (0*6+3) (.v (.bool false)),(jo e).getD (0*6+4) (.v (.bool false)),(jo e).getD (0*6+5) (.v (.bool false))]=je e:=by
 unfold je;obtain⟨a,b,c,d,e,f,h⟩:=JV (Hf e);rw[h];rfl
def Ls(a b:lR):E.agg [(jo a++jo b).getD (0*6+0) (.v (.bool false)),(jo a++jo b).getD (0*6+1) (.v (.bool false)),(jo a++jo b).getD (0*6+2) (.v (.bool false)),(jo a++jo b).getD (0*6+3) (.v (.bool false)),(jo a++jo b).getD (0*6+4) (.v (.bool false)),(jo a++jo b).getD (0*6+5) (.v (.bool false))]=je a:=by
 unfold je;obtain⟨a,b,c,d,e,f,h⟩:=JV (Hf a);rw[h];rfl
def Lt(a b:lR):E.agg [(jo a++jo b).getD (1*6+0) (.v (.bool false)),(jo a++jo b).getD (1*6+1) (.v (.bool false)),(jo a++jo b).getD (1*6+2) (.v (.bool false)),(jo a++jo b).getD (1*6+3) (.v (.bool false)),(jo a++jo b).getD (1*6+4) (.v (.bool false)),(jo a++jo b).getD (1*6+5) (.v (.bool false))]=je b:=by
 unfold je;obtain⟨a',b',c',d',e',f',h'⟩:=JV (Hf b);obtain⟨a,b,c,d,e,f,h⟩:=JV (Hf a);rw[h,h'];rfl
def agp(t:iV)(ht:pr t):gW 90 [jG t,je (.var true),mU] (.ik [jG t,iP 1]):=
 aj call90 func90 (ae [ag 15 ((2:Int)==2) aC,af [mU,.v (.string ⟨#[121]⟩)] agV]) 
def ago(t:iV)(ht:pr t):gW 90 [jG t,je (.var false),mU] (.ik [jG t,iP 0]):=
 aj call90 func90 (ae [ag 15 ((2:Int)==2) aC,af [mU,.v (.string ⟨#[120]⟩)] agU]) 
def agl(t:iV)(ht:pr t)(n:Int)(he:(lR.num n).Ok)(hu:pr t)(hl:t.gX.length<=800)(pE:ve (ji.mk 1 0 0 0 n 1))(N:Nat)(pV:N<t.gX.length)(jj:∀ i,i<N->nj (t.gX.getD i iG) (ji.mk 1 0 0 0 n 1)=false)(hN:nj (t.gX.getD N iG) (ji.mk 1 0 0 0 n 1)=true):gW 90 [jG t,je (.num n),mU] (.ik [jG t,iP ((t.iw+N:Nat):Int)]):=by
 have tD:=hu.sm aA;have EM:=hu.iw;exact aj call90 func90 (ae [ah 15 ((1:Int)==2) aC,.u 4,ah 32 (decide ((0:Int)<0)) aC,.s (Sp.jE (Vv t n N) 0 N aA (λx hx nF=>by
    have qS:=tD x aA;exact iF (ae [tT 57 ((x:Int)<t.gX.length) aA,iX (x:Int) (t.gX.length) aA,.g (y3 _ (ji.mk 1 0 0 0 n 1) qS pE:lN prog .eql 153 (qq (t.gX.getD x iG)) (.agg [iP 1,iP 0,iP 0,iP 0,iP n,iP 1]) (.bool (nj (t.gX.getD x iG) (ji.mk 1 0 0 0 n 1)))),ah 66 (nj (t.gX.getD x iG) (ji.mk 1 0 0 0 n 1)) (jj x aA),iA ((x:Int)+1) aA]) aD)
  (λhx=>by
    have qS:=tD N aA;exact iF (ae [tT 57 ((N:Int)<t.gX.length) aA,iX (N:Int) (t.gX.length) aA,.g (y3 _ (ji.mk 1 0 0 0 n 1) qS pE:lN prog .eql 153 (qq (t.gX.getD N iG)) (.agg [iP 1,iP 0,iP 0,iP 0,iP n,iP 1]) (.bool (nj (t.gX.getD N iG) (ji.mk 1 0 0 0 n 1)))),ag 66 (nj (t.gX.getD N iG) (ji.mk 1 0 0 0 n 1)) hN,iA ((t.iw:Int)+N) aA]) aD) aG:jA 13 Tryz.f90 (Vv t n N 0) .ret ⟨88,true,[(7,.e (iP ((t.iw+N:Nat):Int))),(6,.box 6 0)],[(6,.cells 29 [iP t.iw,kP t.gX,kR t.gY])]⟩) .nil]) 
def agk(t:iV)(ht:pr t)(n:Int)(he:(lR.num n).Ok)(hu:pr t)(hl:t.gX.length<=800)(pE:ve (ji.mk 1 0 0 0 n 1))(jj:∀ i,i<t.gX.length->nj (t.gX.getD i iG) (ji.mk 1 0 0 0 n 1)=false):gW 90 [jG t,je (.num n),mU] (.ik [jG { t with gX:=t.gX++[ji.mk 1 0 0 0 n 1] },iP ((t.iw+t.gX.length:Nat):Int)]):=by
 have tD:=hu.sm aA;have EM:=hu.iw;have lF:(t.gX++[ji.mk 1 0 0 0 n 1]).length=t.gX.length+1:=by rw[bY];rfl
 exact aj call90 func90 (ae [ah 15 ((1:Int)==2) aC,.u 4,ah 32 (decide ((0:Int)<0)) aC,.s (Sp.jE (Vu t n) 0 t.gX.length aA (λx hx nF=>by
    have qS:=tD x aA;exact iF (ae [tT 57 ((x:Int)<t.gX.length) aA,iX (x:Int) (t.gX.length) aA,.g (y3 _ (ji.mk 1 0 0 0 n 1) qS pE:lN prog .eql 153 (qq (t.gX.getD x iG)) (.agg [iP 1,iP 0,iP 0,iP 0,iP n,iP 1]) (.bool (nj (t.gX.getD x iG) (ji.mk 1 0 0 0 n 1)))),ah 66 (nj (t.gX.getD x iG) (ji.mk 1 0 0 0 n 1)) (jj x aA),iA ((x:Int)+1) aA]) aD)
  (λhx=>by
    exact iF (ae [tF 57 ((t.gX.length:Int)<t.gX.length) aA]) aD) aG:jA 13 Tryz.f90 (Vu t n 0) (.exit 2) ⟨88,true,[(8,.box 8 0),(6,.box 6 0),(3,.box 3 0)],[(8,.cells 153 [iP 1,iP 0,iP 0,iP 0,iP n,iP 1]),(6,.cells 29 [iP 0,.v (.slice none 0 0),.v (.slice none 0 0)]),(3,.cells 29 [iP t.iw,kP t.gX,kR t.gY])]⟩) .nil,
  .bo,.a (aA:(0+t.gX.length)*48<=140737488355328),.o 77 (.refl _:ai (.sl true 1 6 λi_ j_=>[iP 1,iP 0,iP 0,iP 0,iP n,iP 1].getD (i_*6+j_) (.v (.bool false))) (.sl true 1 6 λi_ j_=>[iP 1,iP 0,iP 0,iP 0,iP n,iP 1].getD (i_*6+j_) (.v (.bool false)))),
  .bo,.a (aA:((0+t.gX.length)+1)*48<=140737488355328),.o 78 (.e (NU λj hj=>by rcases j with _|_|_|_|_|_|j<;>first|rfl|omega):ai (.sl true ((0+t.gX.length)+1) 6 (λi_ j_=>if i_<(0+t.gX.length)then(λi_ j_=>if i_<0 then(λi_ j_=>([]:List E).getD (i_*6+j_) (.v (.bool false))) i_ j_ else(E.iS (kP t.gX)) (i_-0) j_) i_ j_ else(E.iS (.sl true 1 6 λi_ j_=>[iP 1,iP 0,iP 0,iP 0,iP n,iP 1].getD (i_*6+j_) (.v (.bool false)))) (i_-(0+t.gX.length)) j_)) (kP (t.gX++[ji.mk 1 0 0 0 n 1]))),
  iA ((t.iw:Int)+((t.gX++[ji.mk 1 0 0 0 n 1]).length:Int)) aA,iA (((t.iw+(t.gX++[ji.mk 1 0 0 0 n 1]).length:Nat):Int)-1) aA,.o 87 (al (((t.iw+(t.gX++[ji.mk 1 0 0 0 n 1]).length:Nat):Int)-1) ((t.iw+t.gX.length:Nat):Int) aQ)]) 
def agn(t:iV)(ht:pr t)(k n:Nat)(e:lR)(he:(lR.un k n e).Ok)(ih:gW 90 [jG t,je e,mU] (.ik [jG (ig t e).1,iP (((ig t e).2:Nat):Int)]))(hu:pr ((ig t e).1))(hl:((ig t e).1).gX.length<=800)(pE:ve (ji.mk k (ig t e).2 0 n 0 0))(N:Nat)(pV:N<((ig t e).1).gX.length)(jj:∀ i,i<N->nj (((ig t e).1).gX.getD i iG) (ji.mk k (ig t e).2 0 n 0 0)=false)(hN:nj (((ig t e).1).gX.getD N iG) (ji.mk k (ig t e).2 0 n 0 0)=true):gW 90 [jG t,je (.un k n e),mU] (.ik [jG ((ig t e).1),iP ((((ig t e).1).iw+N:Nat):Int)]):=by
 have tD:=hu.sm aA;have EM:=hu.iw;have rf:=he.1;have nN:=he.2.1;exact aj call90 func90 (ae [ah 15 ((k:Int)==2) (aX aA),.u 4,ag 32 (decide ((0:Int)<1)) aC,iX 0 1 aA,.o 41 (.e (.iD (Q9 e)):ai (.agg [(jo e).getD (0*6+0) (.v (.bool false)),(jo e).getD (0*6+1) (.v (.bool false)),(jo e).getD (0*6+2) (.v (.bool false)),(jo e).getD (0*6+3) (.v (.bool false)),(jo e).getD (0*6+4) (.v (.bool false)),(jo e).getD (0*6+5) (.v (.bool false))]) (je e)),af [jG t,je e,mU] ih,ag 48 ((0:Int)==0) aC,iA (0+1) aA,.k [9,8,6,4,3,2] [8,3,6,4],ah 32 (decide (((0+1):Int)<1)) aC,.s (Sp.jE (Vx t k n e N) 0 N aA (λx hx nF=>by
    have qS:=tD x aA;exact iF (ae [tT 57 ((x:Int)<((((ig t e).1).gX).length:Int)) aA,iX (x:Int) ((((ig t e).1).gX).length) aA,.g (y3 _ (ji.mk k (ig t e).2 0 n 0 0) qS pE:lN prog .eql 153 (qq ((((ig t e).1).gX).getD x iG)) (.agg [iP k,iP (((ig t e).2:Nat):Int),iP 0,iP n,iP 0,iP 0]) (.bool (nj ((((ig t e).1).gX).getD x iG) (ji.mk k (ig t e).2 0 n 0 0)))),ah 66 (nj ((((ig t e).1).gX).getD x iG) (ji.mk k (ig t e).2 0 n 0 0)) (jj x aA),iA ((x:Int)+1) aA]) aD)
  (λhx=>by
    have qS:=tD N aA;exact iF (ae [tT 57 ((N:Int)<((((ig t e).1).gX).length:Int)) aA,iX (N:Int) ((((ig t e).1).gX).length) aA,.g (y3 _ (ji.mk k (ig t e).2 0 n 0 0) qS pE:lN prog .eql 153 (qq ((((ig t e).1).gX).getD N iG)) (.agg [iP k,iP (((ig t e).2:Nat):Int),iP 0,iP n,iP 0,iP 0]) (.bool (nj ((((ig t e).1).gX).getD N iG) (ji.mk k (ig t e).2 0 n 0 0)))),ag 66 (nj ((((ig t e).1).gX).getD N iG) (ji.mk k (ig t e).2 0 n 0 0)) hN,iA ((((ig t e).1).iw:Int)+N) aA]) aD) aG:jA 13 Tryz.f90 (Vx t k n e N 0) .ret ⟨88,true,[(7,.e (iP ((((ig t e).1).iw+N:Nat):Int))),(6,.box 6 0)],[(6,.cells 29 [iP (((ig t e).1).iw:Int),kP (((ig t e).1).gX),kR (((ig t e).1).gY)])]⟩) .nil]) 
def agm(t:iV)(ht:pr t)(k n:Nat)(e:lR)(he:(lR.un k n e).Ok)(ih:gW 90 [jG t,je e,mU] (.ik [jG (ig t e).1,iP (((ig t e).2:Nat):Int)]))(hu:pr ((ig t e).1))(hl:((ig t e).1).gX.length<=800)(pE:ve (ji.mk k (ig t e).2 0 n 0 0))(jj:∀ i,i<((ig t e).1).gX.length->nj (((ig t e).1).gX.getD i iG) (ji.mk k (ig t e).2 0 n 0 0)=false):gW 90 [jG t,je (.un k n e),mU] (.ik [jG { (ig t e).1 with gX:=((ig t e).1).gX++[ji.mk k (ig t e).2 0 n 0 0] },iP ((((ig t e).1).iw+((ig t e).1).gX.length:Nat):Int)]):=by
 have tD:=hu.sm aA;have EM:=hu.iw;have rf:=he.1;have nN:=he.2.1;have lF:(((ig t e).1).gX++[ji.mk k (ig t e).2 0 n 0 0]).length=((ig t e).1).gX.length+1:=by rw[bY];rfl
 exact aj call90 func90 (ae [ah 15 ((k:Int)==2) (aX aA),.u 4,ag 32 (decide ((0:Int)<1)) aC,iX 0 1 aA,.o 41 (.e (.iD (Q9 e)):ai (.agg [(jo e).getD (0*6+0) (.v (.bool false)),(jo e).getD (0*6+1) (.v (.bool false)),(jo e).getD (0*6+2) (.v (.bool false)),(jo e).getD (0*6+3) (.v (.bool false)),(jo e).getD (0*6+4) (.v (.bool false)),(jo e).getD (0*6+5) (.v (.bool false))]) (je e)),af [jG t,je e,mU] ih,ag 48 ((0:Int)==0) aC,iA (0+1) aA,.k [9,8,6,4,3,2] [8,3,6,4],ah 32 (decide (((0+1):Int)<1)) aC,.s (Sp.jE (Vw t k n e) 0 (((ig t e).1).gX.length) aA (λx hx nF=>by
    have qS:=tD x aA;exact iF (ae [tT 57 ((x:Int)<((((ig t e).1).gX).length:Int)) aA,iX (x:Int) ((((ig t e).1).gX).length) aA,.g (y3 _ (ji.mk k (ig t e).2 0 n 0 0) qS pE:lN prog .eql 153 (qq ((((ig t e).1).gX).getD x iG)) (.agg [iP k,iP (((ig t e).2:Nat):Int),iP 0,iP n,iP 0,iP 0]) (.bool (nj ((((ig t e).1).gX).getD x iG) (ji.mk k (ig t e).2 0 n 0 0)))),ah 66 (nj ((((ig t e).1).gX).getD x iG) (ji.mk k (ig t e).2 0 n 0 0)) (jj x aA),iA ((x:Int)+1) aA]) aD)
  (λhx=>by
    exact iF (ae [tF 57 ((((ig t e).1).gX.length:Int)<((((ig t e).1).gX).length:Int)) aA]) aD) aG:jA 13 Tryz.f90 (Vw t k n e 0) (.exit 2) ⟨88,true,[(8,.box 8 0),(6,.box 6 0),(3,.box 3 0)],[(8,.cells 153 [iP k,iP (((ig t e).2:Nat):Int),iP 0,iP n,iP 0,iP 0]),(3,.cells 29 [iP (((ig t e).1).iw:Int),kP (((ig t e).1).gX),kR (((ig t e).1).gY)]),(6,.cells 29 [iP 0,.v (.slice none 0 0),.v (.slice none 0 0)])]⟩) .nil,
  .bo,.a (aA:(0+(((ig t e).1).gX).length)*48<=140737488355328),.o 77 (.refl _:ai (.sl true 1 6 λi_ j_=>[iP k,iP (((ig t e).2:Nat):Int),iP 0,iP n,iP 0,iP 0].getD (i_*6+j_) (.v (.bool false))) (.sl true 1 6 λi_ j_=>[iP k,iP (((ig t e).2:Nat):Int),iP 0,iP n,iP 0,iP 0].getD (i_*6+j_) (.v (.bool false)))),
  .bo,.a (aA:((0+(((ig t e).1).gX).length)+1)*48<=140737488355328),.o 78 (.e (NU λj hj=>by rcases j with _|_|_|_|_|_|j<;>first|rfl|omega):ai (.sl true ((0+(((ig t e).1).gX).length)+1) 6 (λi_ j_=>if i_<(0+(((ig t e).1).gX).length)then(λi_ j_=>if i_<0 then(λi_ j_=>([]:List E).getD (i_*6+j_) (.v (.bool false))) i_ j_ else(E.iS (kP (((ig t e).1).gX))) (i_-0) j_) i_ j_ else(E.iS (.sl true 1 6 λi_ j_=>[iP k,iP (((ig t e).2:Nat):Int),iP 0,iP n,iP 0,iP 0].getD (i_*6+j_) (.v (.bool false)))) (i_-(0+(((ig t e).1).gX).length)) j_)) (kP (((ig t e).1).gX++[ji.mk k (ig t e).2 0 n 0 0]))),
  iA ((((ig t e).1).iw:Int)+((((ig t e).1).gX++[ji.mk k (ig t e).2 0 n 0 0]).length:Int)) aA,
  iA (((((ig t e).1).iw+(((ig t e).1).gX++[ji.mk k (ig t e).2 0 n 0 0]).length:Nat):Int)-1) aA,.o 87 (al (((((ig t e).1).iw+(((ig t e).1).gX++[ji.mk k (ig t e).2 0 n 0 0]).length:Nat):Int)-1) ((((ig t e).1).iw+((ig t e).1).gX.length:Nat):Int) aQ)]) 
def agj(t:iV)(ht:pr t)(k:Nat)(a b:lR)(he:(lR.iE k a b).Ok)(CI:gW 90 [jG t,je a,mU] (.ik [jG (ig t a).1,iP (((ig t a).2:Nat):Int)]))(CJ:gW 90 [jG ((ig t a).1),je b,mU] (.ik [jG (ig ((ig t a).1) b).1,iP (((ig ((ig t a).1) b).2:Nat):Int)]))(hu:pr ((ig (ig t a).1 b).1))(hl:((ig (ig t a).1 b).1).gX.length<=800)(pE:ve (ji.mk k (ig t a).2 (ig (ig t a).1 b).2 0 0 0))(N:Nat)(pV:N<((ig (ig t a).1 b).1).gX.length)(jj:∀ i,i<N->nj (((ig (ig t a).1 b).1).gX.getD i iG) (ji.mk k (ig t a).2 (ig (ig t a).1 b).2 0 0 0)=false)(hN:nj (((ig (ig t a).1 b).1).gX.getD N iG) (ji.mk k (ig t a).2 (ig (ig t a).1 b).2 0 0 0)=true):gW 90 [jG t,je (.iE k a b),mU] (.ik [jG ((ig (ig t a).1 b).1),iP ((((ig (ig t a).1 b).1).iw+N:Nat):Int)]):=by
 have tD:=hu.sm aA;have EM:=hu.iw;have rf:=he.1;have nN:=he.2.1;exact aj call90 func90 (ae [ah 15 ((k:Int)==2) (aX aA),.u 4,ag 32 (decide ((0:Int)<2)) aC,iX 0 2 aA,.o 41 (.e (.iD (Ls a b)):ai (.agg [(jo a++jo b).getD (0*6+0) (.v (.bool false)),(jo a++jo b).getD (0*6+1) (.v (.bool false)),(jo a++jo b).getD (0*6+2) (.v (.bool false)),(jo a++jo b).getD (0*6+3) (.v (.bool false)),(jo a++jo b).getD (0*6+4) (.v (.bool false)),(jo a++jo b).getD (0*6+5) (.v (.bool false))]) (je a)),af [jG t,je a,mU] CI,ag 48 ((0:Int)==0) aC,iA (0+1) aA,.k [9,8,6,4,3,2] [8,3,6,4],ag 32 (decide (((0+1):Int)<2)) aC,
  iX (0+1) 2 aA,.o 41 (.e (.iD (Lt a b)):ai (.agg [(jo a++jo b).getD (1*6+0) (.v (.bool false)),(jo a++jo b).getD (1*6+1) (.v (.bool false)),(jo a++jo b).getD (1*6+2) (.v (.bool false)),(jo a++jo b).getD (1*6+3) (.v (.bool false)),(jo a++jo b).getD (1*6+4) (.v (.bool false)),(jo a++jo b).getD (1*6+5) (.v (.bool false))]) (je b)),af [jG ((ig t a).1),je b,mU] CJ,ah 48 (((0+1):Int)==0) aC,iA ((0+1)+1) aA,.k [9,8,6,4,3,2] [8,3,6,4],ah 32 (decide ((((0+1)+1):Int)<2)) aC,.s (Sp.jE (Vt t k a b N) 0 N aA (λx hx nF=>by
    have qS:=tD x aA;exact iF (ae [tT 57 ((x:Int)<(((((ig (ig t a).1 b).1).gX).length:Nat):Int)) aA,iX (x:Int) ((((ig (ig t a).1 b).1).gX).length) aA,.g (y3 _ (ji.mk k (ig t a).2 (ig (ig t a).1 b).2 0 0 0) qS pE:lN prog .eql 153 (qq ((((ig (ig t a).1 b).1).gX).getD x iG)) (.agg [iP k,iP (((ig t a).2:Nat):Int),iP (((ig (ig t a).1 b).2:Nat):Int),iP 0,iP 0,iP 0]) (.bool (nj ((((ig (ig t a).1 b).1).gX).getD x iG) (ji.mk k (ig t a).2 (ig (ig t a).1 b).2 0 0 0)))),ah 66 (nj ((((ig (ig t a).1 b).1).gX).getD x iG) (ji.mk k (ig t a).2 (ig (ig t a).1 b).2 0 0 0)) (jj x aA),iA ((x:Int)+1) aA]) aD)
  (λhx=>by
    have qS:=tD N aA;exact iF (ae [tT 57 ((N:Int)<(((((ig (ig t a).1 b).1).gX).length:Nat):Int)) aA,iX (N:Int) ((((ig (ig t a).1 b).1).gX).length) aA,.g (y3 _ (ji.mk k (ig t a).2 (ig (ig t a).1 b).2 0 0 0) qS pE:lN prog .eql 153 (qq ((((ig (ig t a).1 b).1).gX).getD N iG)) (.agg [iP k,iP (((ig t a).2:Nat):Int),iP (((ig (ig t a).1 b).2:Nat):Int),iP 0,iP 0,iP 0]) (.bool (nj ((((ig (ig t a).1 b).1).gX).getD N iG) (ji.mk k (ig t a).2 (ig (ig t a).1 b).2 0 0 0)))),ag 66 (nj ((((ig (ig t a).1 b).1).gX).getD N iG) (ji.mk k (ig t a).2 (ig (ig t a).1 b).2 0 0 0)) hN,iA ((((ig (ig t a).1 b).1).iw:Int)+N) aA]) aD) aG:jA 13 Tryz.f90 (Vt t k a b N 0) .ret ⟨88,true,[(7,.e (iP ((((ig (ig t a).1 b).1).iw+N:Nat):Int))),(6,.box 6 0)],[(6,.cells 29 [iP (((ig (ig t a).1 b).1).iw:Int),kP (((ig (ig t a).1 b).1).gX),kR (((ig (ig t a).1 b).1).gY)])]⟩) .nil]) 
def agi(t:iV)(ht:pr t)(k:Nat)(a b:lR)(he:(lR.iE k a b).Ok)(CI:gW 90 [jG t,je a,mU] (.ik [jG (ig t a).1,iP (((ig t a).2:Nat):Int)]))(CJ:gW 90 [jG ((ig t a).1),je b,mU] (.ik [jG (ig ((ig t a).1) b).1,iP (((ig ((ig t a).1) b).2:Nat):Int)]))(hu:pr ((ig (ig t a).1 b).1))(hl:((ig (ig t a).1 b).1).gX.length<=800)(pE:ve (ji.mk k (ig t a).2 (ig (ig t a).1 b).2 0 0 0))(jj:∀ i,i<((ig (ig t a).1 b).1).gX.length->nj (((ig (ig t a).1 b).1).gX.getD i iG) (ji.mk k (ig t a).2 (ig (ig t a).1 b).2 0 0 0)=false):gW 90 [jG t,je (.iE k a b),mU] (.ik [jG { (ig (ig t a).1 b).1 with gX:=((ig (ig t a).1 b).1).gX++[ji.mk k (ig t a).2 (ig (ig t a).1 b).2 0 0 0] },iP ((((ig (ig t a).1 b).1).iw+((ig (ig t a).1 b).1).gX.length:Nat):Int)]):=by
 have tD:=hu.sm aA;have EM:=hu.iw;have rf:=he.1;have nN:=he.2.1;have lF:(((ig (ig t a).1 b).1).gX++[ji.mk k (ig t a).2 (ig (ig t a).1 b).2 0 0 0]).length=((ig (ig t a).1 b).1).gX.length+1:=by rw[bY];rfl
 exact aj call90 func90 (ae [ah 15 ((k:Int)==2) (aX aA),.u 4,ag 32 (decide ((0:Int)<2)) aC,iX 0 2 aA,.o 41 (.e (.iD (Ls a b)):ai (.agg [(jo a++jo b).getD (0*6+0) (.v (.bool false)),(jo a++jo b).getD (0*6+1) (.v (.bool false)),(jo a++jo b).getD (0*6+2) (.v (.bool false)),(jo a++jo b).getD (0*6+3) (.v (.bool false)),(jo a++jo b).getD (0*6+4) (.v (.bool false)),(jo a++jo b).getD (0*6+5) (.v (.bool false))]) (je a)),af [jG t,je a,mU] CI,ag 48 ((0:Int)==0) aC,iA (0+1) aA,.k [9,8,6,4,3,2] [8,3,6,4],ag 32 (decide (((0+1):Int)<2)) aC,
  iX (0+1) 2 aA,.o 41 (.e (.iD (Lt a b)):ai (.agg [(jo a++jo b).getD (1*6+0) (.v (.bool false)),(jo a++jo b).getD (1*6+1) (.v (.bool false)),(jo a++jo b).getD (1*6+2) (.v (.bool false)),(jo a++jo b).getD (1*6+3) (.v (.bool false)),(jo a++jo b).getD (1*6+4) (.v (.bool false)),(jo a++jo b).getD (1*6+5) (.v (.bool false))]) (je b)),af [jG ((ig t a).1),je b,mU] CJ,ah 48 (((0+1):Int)==0) aC,iA ((0+1)+1) aA,.k [9,8,6,4,3,2] [8,3,6,4],ah 32 (decide ((((0+1)+1):Int)<2)) aC,.s (Sp.jE (Vs t k a b) 0 (((ig (ig t a).1 b).1).gX.length) aA (λx hx nF=>by
    have qS:=tD x aA;exact iF (ae [tT 57 ((x:Int)<(((((ig (ig t a).1 b).1).gX).length:Nat):Int)) aA,iX (x:Int) ((((ig (ig t a).1 b).1).gX).length) aA,.g (y3 _ (ji.mk k (ig t a).2 (ig (ig t a).1 b).2 0 0 0) qS pE:lN prog .eql 153 (qq ((((ig (ig t a).1 b).1).gX).getD x iG)) (.agg [iP k,iP (((ig t a).2:Nat):Int),iP (((ig (ig t a).1 b).2:Nat):Int),iP 0,iP 0,iP 0]) (.bool (nj ((((ig (ig t a).1 b).1).gX).getD x iG) (ji.mk k (ig t a).2 (ig (ig t a).1 b).2 0 0 0)))),ah 66 (nj ((((ig (ig t a).1 b).1).gX).getD x iG) (ji.mk k (ig t a).2 (ig (ig t a).1 b).2 0 0 0)) (jj x aA),iA ((x:Int)+1) aA]) aD)
  (λhx=>by
    exact iF (ae [tF 57 ((((ig (ig t a).1 b).1).gX.length:Int)<(((((ig (ig t a).1 b).1).gX).length:Nat):Int)) aA]) aD) aG:jA 13 Tryz.f90 (Vs t k a b 0) (.exit 2) ⟨88,true,[(8,.box 8 0),(6,.box 6 0),(3,.box 3 0)],[(8,.cells 153 [iP k,iP (((ig t a).2:Nat):Int),iP (((ig (ig t a).1 b).2:Nat):Int),iP 0,iP 0,iP 0]),(3,.cells 29 [iP (((ig (ig t a).1 b).1).iw:Int),kP (((ig (ig t a).1 b).1).gX),kR (((ig (ig t a).1 b).1).gY)]),(6,.cells 29 [iP 0,.v (.slice none 0 0),.v (.slice none 0 0)])]⟩) .nil,
  .bo,.a (aA:(0+(((ig (ig t a).1 b).1).gX).length)*48<=140737488355328),.o 77 (.refl _:ai (.sl true 1 6 λi_ j_=>[iP k,iP (((ig t a).2:Nat):Int),iP (((ig (ig t a).1 b).2:Nat):Int),iP 0,iP 0,iP 0].getD (i_*6+j_) (.v (.bool false))) (.sl true 1 6 λi_ j_=>[iP k,iP (((ig t a).2:Nat):Int),iP (((ig (ig t a).1 b).2:Nat):Int),iP 0,iP 0,iP 0].getD (i_*6+j_) (.v (.bool false)))),
  .bo,.a (aA:((0+(((ig (ig t a).1 b).1).gX).length)+1)*48<=140737488355328),.o 78 (.e (NU λj hj=>by rcases j with _|_|_|_|_|_|j<;>first|rfl|omega):ai (.sl true ((0+(((ig (ig t a).1 b).1).gX).length)+1) 6 (λi_ j_=>if i_<(0+(((ig (ig t a).1 b).1).gX).length)then(λi_ j_=>if i_<0 then(λi_ j_=>([]:List E).getD (i_*6+j_) (.v (.bool false))) i_ j_ else(E.iS (kP (((ig (ig t a).1 b).1).gX))) (i_-0) j_) i_ j_ else(E.iS (.sl true 1 6 λi_ j_=>[iP k,iP (((ig t a).2:Nat):Int),iP (((ig (ig t a).1 b).2:Nat):Int),iP 0,iP 0,iP 0].getD (i_*6+j_) (.v (.bool false)))) (i_-(0+(((ig (ig t a).1 b).1).gX).length)) j_)) (kP (((ig (ig t a).1 b).1).gX++[ji.mk k (ig t a).2 (ig (ig t a).1 b).2 0 0 0]))),
  iA ((((ig (ig t a).1 b).1).iw:Int)+(((((ig (ig t a).1 b).1).gX++[ji.mk k (ig t a).2 (ig (ig t a).1 b).2 0 0 0]).length:Nat):Int)) aA,
  iA (((((ig (ig t a).1 b).1).iw+(((ig (ig t a).1 b).1).gX++[ji.mk k (ig t a).2 (ig (ig t a).1 b).2 0 0 0]).length:Nat):Int)-1) aA,.o 87 (al (((((ig (ig t a).1 b).1).iw+(((ig (ig t a).1 b).1).gX++[ji.mk k (ig t a).2 (ig (ig t a).1 b).2 0 0 0]).length:Nat):Int)-1) ((((ig (ig t a).1 b).1).iw+((ig (ig t a).1 b).1).gX.length:Nat):Int) aQ)]) 
def NJ{t u:iV}{o:ji}{v:lR}{F:FuncId}(h1:∀ N,N<u.gX.length->(∀ i,i<N->nj (u.gX.getD i iG) o=false)->nj (u.gX.getD N iG) o=true->gW F [jG t,je v,mU] (.ik [jG u,iP ((u.iw+N:Nat):Int)]))
 (h2:(∀ i,i<u.gX.length->nj (u.gX.getD i iG) o=false)->gW F [jG t,je v,mU] (.ik [jG { u with gX:=u.gX++[o] },iP ((u.iw+u.gX.length:Nat):Int)])):
 gW F [jG t,je v,mU] (.ik [jG (qy u o).1,iP (((qy u o).2:Nat):Int)]):=by
 unfold qy;split
 .rename_i i hi;obtain⟨a,b,c⟩:=Lz hi;exact h1 i a c b
 .rename_i hi;exact h2 (Ly hi)
def FD:∀ (e:lR) (t:iV),e.Ok->pr t->t.gX.length+e.sz<=800->gW 90 [jG t,je e,mU] (.ik [jG (ig t e).1,iP (((ig t e).2:Nat):Int)])
 | .var true,t,_,ht,_=>agp t ht
 | .var false,t,_,ht,_=>ago t ht
 | .num n,t,he,ht,hl=>by
  have hs:t.gX.length+1<=800:=hl;have pE:ve ⟨1,0,0,0,n,1⟩:=⟨by show 1<=1000;decide,cg _,cg _,cg _,by have:=he.1;show -1099511627776<=n;omega,by have:=he.2;show n<=1099511627776;omega,by show -1099511627776<=1;decide,by show 1<=1099511627776;decide⟩
  exact NJ (λN a c b=>agl t ht n he ht aA pE N a c b) (λh=>agk t ht n he ht aA pE h)
 | .un k n e,t,he,ht,hl=>by
  have hs:t.gX.length+(e.sz+1)<=800:=hl;obtain⟨h7,h8,hn,h⟩:=he;obtain⟨k1,k2,k3,k4,k5⟩:=wS e h ht;have ih:=FD e t h ht aA;have e1:=k1.iw;have pE:ve ⟨k,(ig t e).2,0,n,0,0⟩:=⟨by show k<=1000;omega,by show(ig t e).2<=1000;omega,cg _,by show n<=1000;split at hn<;>omega,by show -1099511627776<=(0:Int);decide,by show(0:Int)<=1099511627776;decide,by show -1099511627776<=(0:Int);decide,by show(0:Int)<=1099511627776;decide⟩
  exact NJ (λN a c b=>agn t ht k n e ⟨h7,h8,hn,h⟩ ih k1 aA pE N a c b) (λq=>agm t ht k n e ⟨h7,h8,hn,h⟩ ih k1 aA pE q)
 | .iE k a b,t,he,ht,hl=>by
  have hs:t.gX.length+(a.sz+b.sz+1)<=800:=hl;obtain⟨h3,h6,ha,hb⟩:=he;obtain⟨k1,k2,k3,k4,k5⟩:=wS a ha ht;obtain⟨l1,l2,l3,l4,l5⟩:=wS b hb k1;have CI:=FD a t ha ht aA;have CJ:=FD b _ hb k1 aA;have e1:=k1.iw;have e2:=l1.iw;have pE:ve ⟨k,(ig t a).2,(ig (ig t a).1 b).2,0,0,0⟩:=⟨by show k<=1000;omega,by show(ig t a).2<=1000;omega,by show(ig (ig t a).1 b).2<=1000;omega,cg _,by show -1099511627776<=(0:Int);decide,by show(0:Int)<=1099511627776;decide,by show -1099511627776<=(0:Int);decide,by show(0:Int)<=1099511627776;decide⟩
  exact NJ (λN x c y=>agj t ht k a b ⟨h3,h6,ha,hb⟩ CI CJ l1 aA pE N x c y) (λq=>agi t ht k a b ⟨h3,h6,ha,hb⟩ CI CJ l1 aA pE q)
def ajb:E.le (.agg [iP 2,.v (.slice none 0 0),.v (.slice none 0 0)]) (jG kX):=.agg (.cons (.refl _) (.cons (.nil _ _ _) (.cons (.nil _ _ _) .nil)))
def Jb(l:List Nat):∀ (e:lR) (t:iV),ig { t with gY:=l } e=({ (ig t e).1 with gY:=l },(ig t e).2)
 | .var _,_=>rfl
 | .num n,t=>by
  unfold ig qy;dsimp only;cases yo t.gX ⟨1,0,0,0,n,1⟩ t.gX.length<;>rfl
 | .un k n e,t=>by
  unfold ig;rw[Jb l e t];unfold qy;dsimp only;cases yo (ig t e).1.gX ⟨k,(ig t e).2,0,n,0,0⟩ (ig t e).1.gX.length<;>rfl
 | .iE k a b,t=>by
  unfold ig;rw[Jb l a t];dsimp only;rw[Jb l b (ig t a).1];unfold qy;dsimp only;cases yo (ig (ig t a).1 b).1.gX ⟨k,(ig t a).2,(ig (ig t a).1 b).2,0,0,0⟩ (ig (ig t a).1 b).1.gX.length<;>rfl
def vS(a:lR):iV:=⟨2,(ig kX a).1.gX,[]⟩
def Gc(a:lR):iV:=⟨2,(ig kX a).1.gX,[(ig kX a).2]⟩
def vT(a b:lR):iV:=⟨2,(ig (ig kX a).1 b).1.gX,[(ig kX a).2]⟩
def ajj{a:lR}(ha:a.Ok)(hs:a.sz<=400):gW 90 [jG kX,je a,mU] (.ik [jG (vS a),iP (((ig kX a).2:Nat):Int)]):=by
 have k:pr kX:=⟨rfl,λi hi=>absurd hi (bu i)⟩
 obtain⟨k1,k2,k3,k4,k5⟩:=wS a ha k;have:=FD a kX ha k (by show 0+a.sz<=800;omega);rwa[show(ig kX a).1=vS a from by
  have e1:=k1.iw;have e2:(ig kX a).1.gY=[]:=k5;unfold vS;generalize (ig kX a).1=q at e1 e2 ⊢;obtain⟨i,o,u⟩:=q;simp only at e1 e2;subst e1 e2;rfl]at this
def ajk{a b:lR}(ha:a.Ok)(hb:b.Ok)(hs:a.sz+b.sz<=400):gW 90 [jG (Gc a),je b,mU] (.ik [jG (vT a b),iP (((ig (ig kX a).1 b).2:Nat):Int)]):=by
 have k:pr kX:=⟨rfl,λi hi=>absurd hi (bu i)⟩
 obtain⟨k1,k2,k3,k4,k5⟩:=wS a ha k;obtain⟨l1,l2,l3,l4,l5⟩:=wS b hb k1;have e1:=k1.iw;have k3':(ig kX a).1.gX.length<=0+a.sz:=k3;have hq:Gc a=⟨(ig kX a).1.iw,(ig kX a).1.gX,[(ig kX a).2]⟩:=by unfold Gc;rw[e1]
 have ho:pr (Gc a):=⟨rfl,λi hi=>by have:=k1.op i hi;rw[e1]at this;exact this⟩
 have:=FD b (Gc a) hb ho (by show(ig kX a).1.gX.length+b.sz<=800;omega);have e2:=l1.iw;have e:(⟨(ig (ig kX a).1 b).1.iw,(ig (ig kX a).1 b).1.gX,[(ig kX a).2]⟩:iV)=vT a b:=by unfold vT;rw[e2]
 have h3:ig ⟨(ig kX a).1.iw,(ig kX a).1.gX,[(ig kX a).2]⟩ b=(⟨(ig (ig kX a).1 b).1.iw,(ig (ig kX a).1 b).1.gX,[(ig kX a).2]⟩,(ig (ig kX a).1 b).2):=Jb [(ig kX a).2] b (ig kX a).1;rw[<-hq,e]at h3;rwa[h3]at this
def Vh{l:List Nat}{k:Nat}{p:E}(hp:∀ j,j<1->p.iS 0 j=iP (k:Int)):E.le (.sl true (0+l.length+1) 1 λi j=>if i<0+l.length then(λi_ j_=>if i_<0 then(λi_ j_=>([]:List E).getD (i_*1+j_) (.v (.bool false))) i_ j_ else(E.iS (kR l)) (i_-0) j_) i j else(E.iS p) (i-(0+l.length)) j) (kR (l++[k])):=by
 have e:kR (l++[k]) = .sl true (0+l.length+1) 1 λi _=>iP (((l++[k]).getD i 0:Nat):Int):=by unfold kR;rw[bY,bX];rfl
 rw[e];refine .sl λi j hi hj=>⟨.iD ?_,rfl⟩
 rw[bX]at *
 by_cases h:i<l.length
 .rw [bj h];show iP (l.getD i 0:Int)=iP (((l++[k]).getD i 0:Nat):Int);congr 2;simp[bk,dg h]
 .have kI:i=l.length:= aA ;subst kI;rw[bh h,cV,hp j hj];congr 2;simp[bk]
def W3(a b:lR)(ha:a.Ok)(hb:b.Ok)(hs:a.sz+b.sz<=200):gW 46 [mj a b,mU] (jG (sC a b).tape):=by
 have ho1:(vS a).gY.length=0:=rfl;have Cz:(vT a b).gY.length=1:=rfl;exact aj call46 func46 (aa [.u 4,ag 15 (decide ((0:Int)<2)) aC,.o 19 (.e ajb:ai (.agg [iP 2,.v (.slice none 0 0),.v (.slice none 0 0)]) (jG kX)),iX 0 2 aA,.o 23 (.e (.iD (Ls a b)):ai (.agg [(jo a++jo b).getD (0*6+0) (.v (.bool false)),(jo a++jo b).getD (0*6+1) (.v (.bool false)),(jo a++jo b).getD (0*6+2) (.v (.bool false)),(jo a++jo b).getD (0*6+3) (.v (.bool false)),(jo a++jo b).getD (0*6+4) (.v (.bool false)),(jo a++jo b).getD (0*6+5) (.v (.bool false))]) (je a)),af [jG kX,je a,mU] (ajj ha aA),.bo,.a (aA:(0+((vS a).gY).length)*8<=140737488355328),.o 34 (.refl _:ai (.sl true 1 1 λi_ j_=>[iP (((ig kX a).2:Nat):Int)].getD (i_*1+j_) (.v (.bool false))) (.sl true 1 1 λi_ j_=>[iP (((ig kX a).2:Nat):Int)].getD (i_*1+j_) (.v (.bool false)))),
  .bo,.a (aA:((0+((vS a).gY).length)+1)*8<=140737488355328),.o 35 (.e (Vh (l:=[]) λj hj=>by obtain rfl:=Nat.lt_one_iff.1 hj;rfl):ai (.sl true ((0+((vS a).gY).length)+1) 1 (λi_ j_=>if i_<(0+((vS a).gY).length)then(λi_ j_=>if i_<0 then(λi_ j_=>([]:List E).getD (i_*1+j_) (.v (.bool false))) i_ j_ else(E.iS (kR ((vS a).gY))) (i_-0) j_) i_ j_ else(E.iS (.sl true 1 1 λi_ j_=>[iP (((ig kX a).2:Nat):Int)].getD (i_*1+j_) (.v (.bool false)))) (i_-(0+((vS a).gY).length)) j_)) (kR [(ig kX a).2])),
  iA (0+1) aA,.k [6,5,4,0,1] [5,4],ag 15 (decide (((0+1):Int)<2)) aC,iX (0+1) 2 aA,.o 23 (.e (.iD (Lt a b)):ai (.agg [(jo a++jo b).getD (1*6+0) (.v (.bool false)),(jo a++jo b).getD (1*6+1) (.v (.bool false)),(jo a++jo b).getD (1*6+2) (.v (.bool false)),(jo a++jo b).getD (1*6+3) (.v (.bool false)),(jo a++jo b).getD (1*6+4) (.v (.bool false)),(jo a++jo b).getD (1*6+5) (.v (.bool false))]) (je b)),af [.agg [iP ((vS a).iw:Int),kP ((vS a).gX),kR [(ig kX a).2]],je b,mU] (ajk ha hb aA),.bo,.a (aA:(0+((vT a b).gY).length)*8<=140737488355328),.o 34 (.refl _:ai (.sl true 1 1 λi_ j_=>[iP (((ig (ig kX a).1 b).2:Nat):Int)].getD (i_*1+j_) (.v (.bool false))) (.sl true 1 1 λi_ j_=>[iP (((ig (ig kX a).1 b).2:Nat):Int)].getD (i_*1+j_) (.v (.bool false)))),
  .bo,.a (aA:((0+((vT a b).gY).length)+1)*8<=140737488355328),.o 35 (.e (Vh (l:=[(ig kX a).2]) λj hj=>by obtain rfl:=Nat.lt_one_iff.1 hj;rfl):ai (.sl true ((0+((vT a b).gY).length)+1) 1 (λi_ j_=>if i_<(0+((vT a b).gY).length)then(λi_ j_=>if i_<0 then(λi_ j_=>([]:List E).getD (i_*1+j_) (.v (.bool false))) i_ j_ else(E.iS (kR ((vT a b).gY))) (i_-0) j_) i_ j_ else(E.iS (.sl true 1 1 λi_ j_=>[iP (((ig (ig kX a).1 b).2:Nat):Int)].getD (i_*1+j_) (.v (.bool false)))) (i_-(0+((vT a b).gY).length)) j_)) (kR [(ig kX a).2,(ig (ig kX a).1 b).2])),
  iA ((0+1)+1) aA,.k [6,5,4,0,1] [5,4],ah 15 (decide ((((0+1)+1):Int)<2)) aC]<|rR (jG (sC a b).tape) (.refl _:E.le (.agg [iP ((vT a b).iw:Int),kP ((vT a b).gX),kR [(ig kX a).2,(ig (ig kX a).1 b).2]]) (jG (sC a b).tape))) 
def W2(a b:lR):E.le (.agg [iP ((sC a b).tape.iw:Int),kP (sC a b).tape.gX,kR (sC a b).tape.gY,iP 2,.v (.slice none 0 0)]) (jK (sC a b)):=.agg (.cons (.refl _) (.cons (.refl _) (.cons (.refl _) (.cons (.refl _) (.cons (.nil _ _ _) .nil)))))
abbrev K4:lR:=.iE 3 (.un 7 0 (.var true)) (.iE 5 (.var false) (.iE 4 (.iE 4 (.num 1) (.un 8 2 (.var false))) (.un 8 2 (.var true))))
abbrev K5:lR:=.iE 3 (.var false) (.iE 5 (.var true) (.iE 4 (.iE 4 (.num 1) (.un 8 2 (.var false))) (.un 8 2 (.var true))))
abbrev Fc(p0 q0:Int):lR:=.iE 3 (.iE 5 (.num p0) (.var false)) (.iE 5 (.num q0) (.var true))
def ud:me:=sC K4 K5
def xH(p0 q0 r0 t0:Int):me:=sC (Fc p0 q0) (Fc r0 t0)
def xf(n:Int):Prop:=-1073741824<=n/\n<=1073741824
def Qq:K4.Ok:=by simp[lR.Ok]
def Qr:K5.Ok:=by simp[lR.Ok]
def II{p0 q0:Int}(h1:xf p0)(h2:xf q0):(Fc p0 q0).Ok:=⟨aC,aC,⟨aC,aC,h1,trivial⟩,⟨aC,aC,h2,trivial⟩⟩
def Qp:oK ud:=W0 Qq Qr aC 
def aeG{p0 q0 r0 t0:Int}(h1:xf p0)(h2:xf q0)(h3:xf r0)(h4:xf t0):oK (xH p0 q0 r0 t0):=W0 (II h1 h2) (II h3 h4) (by show 7+7<=200;decide)
def Rd : gW 43 [.v (.string ⟨#[120]⟩)] (je (.var false)):=
 aj call43 func43 (ae [.o 4 (.e (.iD rfl):ai (.agg [iP 2,iP 0,iP 0,.v (.string ⟨#[120]⟩),iP 0,.v (.slice none 0 0)]) (je (.var false)))]) 
def Re : gW 43 [.v (.string ⟨#[121]⟩)] (je (.var true)):=
 aj call43 func43 (ae [.o 4 (.e (.iD rfl):ai (.agg [iP 2,iP 0,iP 0,.v (.string ⟨#[121]⟩),iP 0,.v (.slice none 0 0)]) (je (.var true)))]) 
def aa9 : gW 45 [iP 1] (je (.num 1)):=
 aj call45 func45 (ae [.o 5 (.e (.iD rfl):ai (.agg [iP 1,iP 1,iP 1,.v (.string ⟨#[]⟩),iP 0,.v (.slice none 0 0)]) (je (.num 1)))]) 
def abr : gW 86 [je (.var false)] (je (.un 8 2 (.var false))):=
 aj call86 func86 (ae [.o 4 (.e (.iD rfl):ai (.sl true 1 6 λi_ j_=>[iP 2,iP 0,iP 0,.v (.string ⟨#[120]⟩),iP 0,.v (.slice none 0 0)].getD (i_*6+j_) (.v (.bool false))) (ym (.var false))),.o 5 (.e (.iD rfl):ai (.agg [iP 8,iP 0,iP 0,.v (.string ⟨#[]⟩),iP 2,ym (.var false)]) (je (.un 8 2 (.var false))))]) 
def abe : gW 44 [iP 4,je (.num 1),je (.un 8 2 (.var false))] (je (.iE 4 (.num 1) (.un 8 2 (.var false)))):=
 aj call44 func44 (ae [.o 10 (.e (.iD rfl):ai (.sl true 2 6 λi_ j_=>[iP 1,iP 1,iP 1,.v (.string ⟨#[]⟩),iP 0,.v (.slice none 0 0),iP 8,iP 0,iP 0,.v (.string ⟨#[]⟩),iP 2,ym (.var false)].getD (i_*6+j_) (.v (.bool false))) (mj (.num 1) (.un 8 2 (.var false)))),.o 11 (.e (.iD rfl):ai (.agg [iP 4,iP 0,iP 0,.v (.string ⟨#[]⟩),iP 0,mj (.num 1) (.un 8 2 (.var false))]) (je (.iE 4 (.num 1) (.un 8 2 (.var false)))))]) 
def abt : gW 86 [je (.var true)] (je (.un 8 2 (.var true))):=
 aj call86 func86 (ae [.o 4 (.e (.iD rfl):ai (.sl true 1 6 λi_ j_=>[iP 2,iP 0,iP 0,.v (.string ⟨#[121]⟩),iP 0,.v (.slice none 0 0)].getD (i_*6+j_) (.v (.bool false))) (ym (.var true))),.o 5 (.e (.iD rfl):ai (.agg [iP 8,iP 0,iP 0,.v (.string ⟨#[]⟩),iP 2,ym (.var true)]) (je (.un 8 2 (.var true))))]) 
def abf : gW 44 [iP 4,je (.iE 4 (.num 1) (.un 8 2 (.var false))),je (.un 8 2 (.var true))] (je (.iE 4 (.iE 4 (.num 1) (.un 8 2 (.var false))) (.un 8 2 (.var true)))):=
 aj call44 func44 (ae [.o 10 (.e (.iD rfl):ai (.sl true 2 6 λi_ j_=>[iP 4,iP 0,iP 0,.v (.string ⟨#[]⟩),iP 0,mj (.num 1) (.un 8 2 (.var false)),iP 8,iP 0,iP 0,.v (.string ⟨#[]⟩),iP 2,ym (.var true)].getD (i_*6+j_) (.v (.bool false))) (mj (.iE 4 (.num 1) (.un 8 2 (.var false))) (.un 8 2 (.var true)))),.o 11 (.e (.iD rfl):ai (.agg [iP 4,iP 0,iP 0,.v (.string ⟨#[]⟩),iP 0,mj (.iE 4 (.num 1) (.un 8 2 (.var false))) (.un 8 2 (.var true))]) (je (.iE 4 (.iE 4 (.num 1) (.un 8 2 (.var false))) (.un 8 2 (.var true)))))]) 
def abi : gW 44 [iP 5,je (.var false),je (.iE 4 (.iE 4 (.num 1) (.un 8 2 (.var false))) (.un 8 2 (.var true)))] (je (.iE 5 (.var false) (.iE 4 (.iE 4 (.num 1) (.un 8 2 (.var false))) (.un 8 2 (.var true))))):=
 aj call44 func44 (ae [.o 10 (.e (.iD rfl):ai (.sl true 2 6 λi_ j_=>[iP 2,iP 0,iP 0,.v (.string ⟨#[120]⟩),iP 0,.v (.slice none 0 0),iP 4,iP 0,iP 0,.v (.string ⟨#[]⟩),iP 0,mj (.iE 4 (.num 1) (.un 8 2 (.var false))) (.un 8 2 (.var true))].getD (i_*6+j_) (.v (.bool false))) (mj (.var false) (.iE 4 (.iE 4 (.num 1) (.un 8 2 (.var false))) (.un 8 2 (.var true))))),.o 11 (.e (.iD rfl):ai (.agg [iP 5,iP 0,iP 0,.v (.string ⟨#[]⟩),iP 0,mj (.var false) (.iE 4 (.iE 4 (.num 1) (.un 8 2 (.var false))) (.un 8 2 (.var true)))]) (je (.iE 5 (.var false) (.iE 4 (.iE 4 (.num 1) (.un 8 2 (.var false))) (.un 8 2 (.var true))))))]) 
def abj : gW 44 [iP 3,je (.un 7 0 (.var true)),je (.iE 5 (.var false) (.iE 4 (.iE 4 (.num 1) (.un 8 2 (.var false))) (.un 8 2 (.var true))))] (je (.iE 3 (.un 7 0 (.var true)) (.iE 5 (.var false) (.iE 4 (.iE 4 (.num 1) (.un 8 2 (.var false))) (.un 8 2 (.var true)))))):=
 aj call44 func44 (ae [.o 10 (.e (.iD rfl):ai (.sl true 2 6 λi_ j_=>[iP 7,iP 0,iP 0,.v (.string ⟨#[]⟩),iP 0,ym (.var true),iP 5,iP 0,iP 0,.v (.string ⟨#[]⟩),iP 0,mj (.var false) (.iE 4 (.iE 4 (.num 1) (.un 8 2 (.var false))) (.un 8 2 (.var true)))].getD (i_*6+j_) (.v (.bool false))) (mj (.un 7 0 (.var true)) (.iE 5 (.var false) (.iE 4 (.iE 4 (.num 1) (.un 8 2 (.var false))) (.un 8 2 (.var true)))))),.o 11 (.e (.iD rfl):ai (.agg [iP 3,iP 0,iP 0,.v (.string ⟨#[]⟩),iP 0,mj (.un 7 0 (.var true)) (.iE 5 (.var false) (.iE 4 (.iE 4 (.num 1) (.un 8 2 (.var false))) (.un 8 2 (.var true))))]) (je (.iE 3 (.un 7 0 (.var true)) (.iE 5 (.var false) (.iE 4 (.iE 4 (.num 1) (.un 8 2 (.var false))) (.un 8 2 (.var true)))))))]) 
def abk : gW 44 [iP 5,je (.var true),je (.iE 4 (.iE 4 (.num 1) (.un 8 2 (.var false))) (.un 8 2 (.var true)))] (je (.iE 5 (.var true) (.iE 4 (.iE 4 (.num 1) (.un 8 2 (.var false))) (.un 8 2 (.var true))))):=
 aj call44 func44 (ae [.o 10 (.e (.iD rfl):ai (.sl true 2 6 λi_ j_=>[iP 2,iP 0,iP 0,.v (.string ⟨#[121]⟩),iP 0,.v (.slice none 0 0),iP 4,iP 0,iP 0,.v (.string ⟨#[]⟩),iP 0,mj (.iE 4 (.num 1) (.un 8 2 (.var false))) (.un 8 2 (.var true))].getD (i_*6+j_) (.v (.bool false))) (mj (.var true) (.iE 4 (.iE 4 (.num 1) (.un 8 2 (.var false))) (.un 8 2 (.var true))))),.o 11 (.e (.iD rfl):ai (.agg [iP 5,iP 0,iP 0,.v (.string ⟨#[]⟩),iP 0,mj (.var true) (.iE 4 (.iE 4 (.num 1) (.un 8 2 (.var false))) (.un 8 2 (.var true)))]) (je (.iE 5 (.var true) (.iE 4 (.iE 4 (.num 1) (.un 8 2 (.var false))) (.un 8 2 (.var true))))))]) 
def abl : gW 44 [iP 3,je (.var false),je (.iE 5 (.var true) (.iE 4 (.iE 4 (.num 1) (.un 8 2 (.var false))) (.un 8 2 (.var true))))] (je (.iE 3 (.var false) (.iE 5 (.var true) (.iE 4 (.iE 4 (.num 1) (.un 8 2 (.var false))) (.un 8 2 (.var true)))))):=
 aj call44 func44 (ae [.o 10 (.e (.iD rfl):ai (.sl true 2 6 λi_ j_=>[iP 2,iP 0,iP 0,.v (.string ⟨#[120]⟩),iP 0,.v (.slice none 0 0),iP 5,iP 0,iP 0,.v (.string ⟨#[]⟩),iP 0,mj (.var true) (.iE 4 (.iE 4 (.num 1) (.un 8 2 (.var false))) (.un 8 2 (.var true)))].getD (i_*6+j_) (.v (.bool false))) (mj (.var false) (.iE 5 (.var true) (.iE 4 (.iE 4 (.num 1) (.un 8 2 (.var false))) (.un 8 2 (.var true)))))),.o 11 (.e (.iD rfl):ai (.agg [iP 3,iP 0,iP 0,.v (.string ⟨#[]⟩),iP 0,mj (.var false) (.iE 5 (.var true) (.iE 4 (.iE 4 (.num 1) (.un 8 2 (.var false))) (.un 8 2 (.var true))))]) (je (.iE 3 (.var false) (.iE 5 (.var true) (.iE 4 (.iE 4 (.num 1) (.un 8 2 (.var false))) (.un 8 2 (.var true)))))))]) 
def Qs : gW 38 [] (jK ud):=by
 have ha:=Qq;have hb:=Qr;have hs:K4.sz+K5.sz<=200:= aC 
 exact aj call38 func38 (aa [af [.v (.string ⟨#[120]⟩)] Rd,af [.v (.string ⟨#[121]⟩)] Re,af [iP 1] aa9,af [je (.var false)] abr,af [iP 4,je (.num 1),je (.un 8 2 (.var false))] abe,af [je (.var true)] abt,af [iP 4,je (.iE 4 (.num 1) (.un 8 2 (.var false))),je (.un 8 2 (.var true))] abf,.o 16 (.e (.iD rfl):ai (.sl true 1 6 λi_ j_=>[iP 2,iP 0,iP 0,.v (.string ⟨#[121]⟩),iP 0,.v (.slice none 0 0)].getD (i_*6+j_) (.v (.bool false))) (ym (.var true))),.o 17 (.e (.iD rfl):ai (.agg [iP 7,iP 0,iP 0,.v (.string ⟨#[]⟩),iP 0,ym (.var true)]) (je (.un 7 0 (.var true)))),af [iP 5,je (.var false),je (.iE 4 (.iE 4 (.num 1) (.un 8 2 (.var false))) (.un 8 2 (.var true)))] abi,af [iP 3,je (.un 7 0 (.var true)),je (.iE 5 (.var false) (.iE 4 (.iE 4 (.num 1) (.un 8 2 (.var false))) (.un 8 2 (.var true))))] abj,af [iP 5,je (.var true),je (.iE 4 (.iE 4 (.num 1) (.un 8 2 (.var false))) (.un 8 2 (.var true)))] abk,af [iP 3,je (.var false),je (.iE 5 (.var true) (.iE 4 (.iE 4 (.num 1) (.un 8 2 (.var false))) (.un 8 2 (.var true))))] abl,.o 28 (.e (.iD rfl):ai (.sl true 2 6 λi_ j_=>[iP 3,iP 0,iP 0,.v (.string ⟨#[]⟩),iP 0,mj (.un 7 0 (.var true)) (.iE 5 (.var false) (.iE 4 (.iE 4 (.num 1) (.un 8 2 (.var false))) (.un 8 2 (.var true)))),iP 3,iP 0,iP 0,.v (.string ⟨#[]⟩),iP 0,mj (.var false) (.iE 5 (.var true) (.iE 4 (.iE 4 (.num 1) (.un 8 2 (.var false))) (.un 8 2 (.var true))))].getD (i_*6+j_) (.v (.bool false))) (mj (.iE 3 (.un 7 0 (.var true)) (.iE 5 (.var false) (.iE 4 (.iE 4 (.num 1) (.un 8 2 (.var false))) (.un 8 2 (.var true))))) (.iE 3 (.var false) (.iE 5 (.var true) (.iE 4 (.iE 4 (.num 1) (.un 8 2 (.var false))) (.un 8 2 (.var true))))))),.o 30 (.e (.iD rfl):ai (.sl true 2 1 λi_ j_=>[.v (.string ⟨#[120]⟩),.v (.string ⟨#[121]⟩)].getD (i_*1+j_) (.v (.bool false))) mU),af [mj (.iE 3 (.un 7 0 (.var true)) (.iE 5 (.var false) (.iE 4 (.iE 4 (.num 1) (.un 8 2 (.var false))) (.un 8 2 (.var true))))) (.iE 3 (.var false) (.iE 5 (.var true) (.iE 4 (.iE 4 (.num 1) (.un 8 2 (.var false))) (.un 8 2 (.var true))))),mU] (W3 _ _ ha hb hs)]<|rR (jK ud) (by
  unfold ud;exact W2 _ _:E.le (.agg [iP ((((sC (.iE 3 (.un 7 0 (.var true)) (.iE 5 (.var false) (.iE 4 (.iE 4 (.num 1) (.un 8 2 (.var false))) (.un 8 2 (.var true))))) (.iE 3 (.var false) (.iE 5 (.var true) (.iE 4 (.iE 4 (.num 1) (.un 8 2 (.var false))) (.un 8 2 (.var true)))))).tape).iw:Nat):Int),kP (((sC (.iE 3 (.un 7 0 (.var true)) (.iE 5 (.var false) (.iE 4 (.iE 4 (.num 1) (.un 8 2 (.var false))) (.un 8 2 (.var true))))) (.iE 3 (.var false) (.iE 5 (.var true) (.iE 4 (.iE 4 (.num 1) (.un 8 2 (.var false))) (.un 8 2 (.var true)))))).tape).gX),kR (((sC (.iE 3 (.un 7 0 (.var true)) (.iE 5 (.var false) (.iE 4 (.iE 4 (.num 1) (.un 8 2 (.var false))) (.un 8 2 (.var true))))) (.iE 3 (.var false) (.iE 5 (.var true) (.iE 4 (.iE 4 (.num 1) (.un 8 2 (.var false))) (.un 8 2 (.var true)))))).tape).gY),iP 2,.v (.slice none 0 0)]) (jK ud))) 
def aba(p0:Int) : gW 45 [iP p0] (je (.num p0)):=
 aj call45 func45 (ae [.o 5 (.e (.iD rfl):ai (.agg [iP 1,iP p0,iP 1,.v (.string ⟨#[]⟩),iP 0,.v (.slice none 0 0)]) (je (.num p0)))]) 
def abm(p0:Int) : gW 44 [iP 5,je (.num p0),je (.var false)] (je (.iE 5 (.num p0) (.var false))):=
 aj call44 func44 (ae [.o 10 (.e (.iD rfl):ai (.sl true 2 6 λi_ j_=>[iP 1,iP p0,iP 1,.v (.string ⟨#[]⟩),iP 0,.v (.slice none 0 0),iP 2,iP 0,iP 0,.v (.string ⟨#[120]⟩),iP 0,.v (.slice none 0 0)].getD (i_*6+j_) (.v (.bool false))) (mj (.num p0) (.var false))),.o 11 (.e (.iD rfl):ai (.agg [iP 5,iP 0,iP 0,.v (.string ⟨#[]⟩),iP 0,mj (.num p0) (.var false)]) (je (.iE 5 (.num p0) (.var false))))]) 
def abb(q0:Int) : gW 45 [iP q0] (je (.num q0)):=
 aj call45 func45 (ae [.o 5 (.e (.iD rfl):ai (.agg [iP 1,iP q0,iP 1,.v (.string ⟨#[]⟩),iP 0,.v (.slice none 0 0)]) (je (.num q0)))]) 
def abn(q0:Int) : gW 44 [iP 5,je (.num q0),je (.var true)] (je (.iE 5 (.num q0) (.var true))):=
 aj call44 func44 (ae [.o 10 (.e (.iD rfl):ai (.sl true 2 6 λi_ j_=>[iP 1,iP q0,iP 1,.v (.string ⟨#[]⟩),iP 0,.v (.slice none 0 0),iP 2,iP 0,iP 0,.v (.string ⟨#[121]⟩),iP 0,.v (.slice none 0 0)].getD (i_*6+j_) (.v (.bool false))) (mj (.num q0) (.var true))),.o 11 (.e (.iD rfl):ai (.agg [iP 5,iP 0,iP 0,.v (.string ⟨#[]⟩),iP 0,mj (.num q0) (.var true)]) (je (.iE 5 (.num q0) (.var true))))]) 
def abo(p0:Int)(q0:Int) : gW 44 [iP 3,je (.iE 5 (.num p0) (.var false)),je (.iE 5 (.num q0) (.var true))] (je (.iE 3 (.iE 5 (.num p0) (.var false)) (.iE 5 (.num q0) (.var true)))):=
 aj call44 func44 (ae [.o 10 (.e (.iD rfl):ai (.sl true 2 6 λi_ j_=>[iP 5,iP 0,iP 0,.v (.string ⟨#[]⟩),iP 0,mj (.num p0) (.var false),iP 5,iP 0,iP 0,.v (.string ⟨#[]⟩),iP 0,mj (.num q0) (.var true)].getD (i_*6+j_) (.v (.bool false))) (mj (.iE 5 (.num p0) (.var false)) (.iE 5 (.num q0) (.var true)))),.o 11 (.e (.iD rfl):ai (.agg [iP 3,iP 0,iP 0,.v (.string ⟨#[]⟩),iP 0,mj (.iE 5 (.num p0) (.var false)) (.iE 5 (.num q0) (.var true))]) (je (.iE 3 (.iE 5 (.num p0) (.var false)) (.iE 5 (.num q0) (.var true)))))]) 
def abc(r0:Int) : gW 45 [iP r0] (je (.num r0)):=
 aj call45 func45 (ae [.o 5 (.e (.iD rfl):ai (.agg [iP 1,iP r0,iP 1,.v (.string ⟨#[]⟩),iP 0,.v (.slice none 0 0)]) (je (.num r0)))]) 
def abp(r0:Int) : gW 44 [iP 5,je (.num r0),je (.var false)] (je (.iE 5 (.num r0) (.var false))):=
 aj call44 func44 (ae [.o 10 (.e (.iD rfl):ai (.sl true 2 6 λi_ j_=>[iP 1,iP r0,iP 1,.v (.string ⟨#[]⟩),iP 0,.v (.slice none 0 0),iP 2,iP 0,iP 0,.v (.string ⟨#[120]⟩),iP 0,.v (.slice none 0 0)].getD (i_*6+j_) (.v (.bool false))) (mj (.num r0) (.var false))),.o 11 (.e (.iD rfl):ai (.agg [iP 5,iP 0,iP 0,.v (.string ⟨#[]⟩),iP 0,mj (.num r0) (.var false)]) (je (.iE 5 (.num r0) (.var false))))]) 
def abd(t0:Int) : gW 45 [iP t0] (je (.num t0)):=
 aj call45 func45 (ae [.o 5 (.e (.iD rfl):ai (.agg [iP 1,iP t0,iP 1,.v (.string ⟨#[]⟩),iP 0,.v (.slice none 0 0)]) (je (.num t0)))]) 
def abg(t0:Int) : gW 44 [iP 5,je (.num t0),je (.var true)] (je (.iE 5 (.num t0) (.var true))):=
 aj call44 func44 (ae [.o 10 (.e (.iD rfl):ai (.sl true 2 6 λi_ j_=>[iP 1,iP t0,iP 1,.v (.string ⟨#[]⟩),iP 0,.v (.slice none 0 0),iP 2,iP 0,iP 0,.v (.string ⟨#[121]⟩),iP 0,.v (.slice none 0 0)].getD (i_*6+j_) (.v (.bool false))) (mj (.num t0) (.var true))),.o 11 (.e (.iD rfl):ai (.agg [iP 5,iP 0,iP 0,.v (.string ⟨#[]⟩),iP 0,mj (.num t0) (.var true)]) (je (.iE 5 (.num t0) (.var true))))]) 
def abh(r0:Int)(t0:Int) : gW 44 [iP 3,je (.iE 5 (.num r0) (.var false)),je (.iE 5 (.num t0) (.var true))] (je (.iE 3 (.iE 5 (.num r0) (.var false)) (.iE 5 (.num t0) (.var true)))):=
 aj call44 func44 (ae [.o 10 (.e (.iD rfl):ai (.sl true 2 6 λi_ j_=>[iP 5,iP 0,iP 0,.v (.string ⟨#[]⟩),iP 0,mj (.num r0) (.var false),iP 5,iP 0,iP 0,.v (.string ⟨#[]⟩),iP 0,mj (.num t0) (.var true)].getD (i_*6+j_) (.v (.bool false))) (mj (.iE 5 (.num r0) (.var false)) (.iE 5 (.num t0) (.var true)))),.o 11 (.e (.iD rfl):ai (.agg [iP 3,iP 0,iP 0,.v (.string ⟨#[]⟩),iP 0,mj (.iE 5 (.num r0) (.var false)) (.iE 5 (.num t0) (.var true))]) (je (.iE 3 (.iE 5 (.num r0) (.var false)) (.iE 5 (.num t0) (.var true)))))]) 
def aeH(p0 q0 r0 t0:Int)(h1:xf p0)(h2:xf q0)(h3:xf r0)(h4:xf t0):gW 10 [iP p0,iP q0,iP r0,iP t0] (jK (xH p0 q0 r0 t0)):=by
 have ha:=II h1 h2;have hb:=II h3 h4;have hs:(Fc p0 q0).sz+(Fc r0 t0).sz<=200:=by show 7+7<=200;decide
 exact aj call10 func10 (aa [af [.v (.string ⟨#[120]⟩)] Rd,af [.v (.string ⟨#[121]⟩)] Re,af [iP p0] (aba p0),af [iP 5,je (.num p0),je (.var false)] (abm p0),af [iP q0] (abb q0),af [iP 5,je (.num q0),je (.var true)] (abn q0),af [iP 3,je (.iE 5 (.num p0) (.var false)),je (.iE 5 (.num q0) (.var true))] (abo p0 q0),af [iP r0] (abc r0),af [iP 5,je (.num r0),je (.var false)] (abp r0),af [iP t0] (abd t0),af [iP 5,je (.num t0),je (.var true)] (abg t0),af [iP 3,je (.iE 5 (.num r0) (.var false)),je (.iE 5 (.num t0) (.var true))] (abh r0 t0),.o 32 (.e (.iD rfl):ai (.sl true 2 6 λi_ j_=>[iP 3,iP 0,iP 0,.v (.string ⟨#[]⟩),iP 0,mj (.iE 5 (.num p0) (.var false)) (.iE 5 (.num q0) (.var true)),iP 3,iP 0,iP 0,.v (.string ⟨#[]⟩),iP 0,mj (.iE 5 (.num r0) (.var false)) (.iE 5 (.num t0) (.var true))].getD (i_*6+j_) (.v (.bool false))) (mj (.iE 3 (.iE 5 (.num p0) (.var false)) (.iE 5 (.num q0) (.var true))) (.iE 3 (.iE 5 (.num r0) (.var false)) (.iE 5 (.num t0) (.var true))))),.o 34 (.e (.iD rfl):ai (.sl true 2 1 λi_ j_=>[.v (.string ⟨#[120]⟩),.v (.string ⟨#[121]⟩)].getD (i_*1+j_) (.v (.bool false))) mU),af [mj (.iE 3 (.iE 5 (.num p0) (.var false)) (.iE 5 (.num q0) (.var true))) (.iE 3 (.iE 5 (.num r0) (.var false)) (.iE 5 (.num t0) (.var true))),mU] (W3 _ _ ha hb hs)]<|rR (jK (xH p0 q0 r0 t0)) (by
  unfold xH;exact W2 _ _:E.le (.agg [iP ((((sC (.iE 3 (.iE 5 (.num p0) (.var false)) (.iE 5 (.num q0) (.var true))) (.iE 3 (.iE 5 (.num r0) (.var false)) (.iE 5 (.num t0) (.var true)))).tape).iw:Nat):Int),kP (((sC (.iE 3 (.iE 5 (.num p0) (.var false)) (.iE 5 (.num q0) (.var true))) (.iE 3 (.iE 5 (.num r0) (.var false)) (.iE 5 (.num t0) (.var true)))).tape).gX),kR (((sC (.iE 3 (.iE 5 (.num p0) (.var false)) (.iE 5 (.num q0) (.var true))) (.iE 3 (.iE 5 (.num r0) (.var false)) (.iE 5 (.num t0) (.var true)))).tape).gY),iP 2,.v (.slice none 0 0)]) (jK (xH p0 q0 r0 t0)))) 
abbrev tW:List Iv:=[iY (iK 0 0),iY (iK 0 0)]
def OU:kG 2 tW:=⟨rfl,λi hi=>by
 have hi:i<2:=hi;have hv:(iY (iK 0 0)).ic:=tO (wc aC aC aC);obtain rfl|rfl:i=0\/i=1:= aA 
 all_goals exact⟨hv,rfl⟩⟩
def aa8:Gf ud tW 60=true:= aJ 
def aa7:Di ud tW 60=false:= aJ 
def aa6:Di (xH (-3) 1 1 (-2)) tW 60=true:= aJ 
def YY : gW 146 [iP 1] (.agg [iP 1,iP 1,iP 1,.v (.string ⟨#[]⟩),iP 0,.v (.slice none 0 0)]):=
 aj call146 func146 (.nil) 
def YZ : gW 145 [iP 4,.agg [iP 1,iP 1,iP 1,.v (.string ⟨#[]⟩),iP 0,.v (.slice none 0 0)],.agg [iP 2,iP 0,iP 0,.v (.string ⟨#[120]⟩),iP 0,.v (.slice none 0 0)]] (.agg [iP 4,iP 0,iP 0,.v (.string ⟨#[]⟩),iP 0,(.sl true 2 6 λi_ j_=>[iP 1,iP 1,iP 1,.v (.string ⟨#[]⟩),iP 0,.v (.slice none 0 0),iP 2,iP 0,iP 0,.v (.string ⟨#[120]⟩),iP 0,.v (.slice none 0 0)].getD (i_*6+j_) (.v (.bool false)))]):=
 aj call145 func145 (.nil) 
def Y0 : gW 145 [iP 5,.agg [iP 2,iP 0,iP 0,.v (.string ⟨#[120]⟩),iP 0,.v (.slice none 0 0)],.agg [iP 4,iP 0,iP 0,.v (.string ⟨#[]⟩),iP 0,(.sl true 2 6 λi_ j_=>[iP 1,iP 1,iP 1,.v (.string ⟨#[]⟩),iP 0,.v (.slice none 0 0),iP 2,iP 0,iP 0,.v (.string ⟨#[120]⟩),iP 0,.v (.slice none 0 0)].getD (i_*6+j_) (.v (.bool false)))]] (.agg [iP 5,iP 0,iP 0,.v (.string ⟨#[]⟩),iP 0,(.sl true 2 6 λi_ j_=>[iP 2,iP 0,iP 0,.v (.string ⟨#[120]⟩),iP 0,.v (.slice none 0 0),iP 4,iP 0,iP 0,.v (.string ⟨#[]⟩),iP 0,(.sl true 2 6 λi_ j_=>[iP 1,iP 1,iP 1,.v (.string ⟨#[]⟩),iP 0,.v (.slice none 0 0),iP 2,iP 0,iP 0,.v (.string ⟨#[120]⟩),iP 0,.v (.slice none 0 0)].getD (i_*6+j_) (.v (.bool false)))].getD (i_*6+j_) (.v (.bool false)))]):=
 aj call145 func145 (.nil) 
def Y1 : gW 82 [iP 6] (.ik [(.sl true 1 1 λi_ j_=>[.v (.string ⟨#[120]⟩)].getD (i_*1+j_) (.v (.bool false))),.v (.slice none 0 0),(.sl true 1 6 λi_ j_=>[iP 5,iP 0,iP 0,.v (.string ⟨#[]⟩),iP 0,(.sl true 2 6 λi_ j_=>[iP 2,iP 0,iP 0,.v (.string ⟨#[120]⟩),iP 0,.v (.slice none 0 0),iP 4,iP 0,iP 0,.v (.string ⟨#[]⟩),iP 0,(.sl true 2 6 λi_ j_=>[iP 1,iP 1,iP 1,.v (.string ⟨#[]⟩),iP 0,.v (.slice none 0 0),iP 2,iP 0,iP 0,.v (.string ⟨#[120]⟩),iP 0,.v (.slice none 0 0)].getD (i_*6+j_) (.v (.bool false)))].getD (i_*6+j_) (.v (.bool false)))].getD (i_*6+j_) (.v (.bool false)))]):=
 aj call82 func82 (ae [.c YX,.c Y4,.c Y9,.c Za,ah 15 ((6:Int)==0) aC,ah 22 ((6:Int)==1) aC,ah 29 ((6:Int)==2) aC,ah 39 ((6:Int)==3) aC,ah 50 ((6:Int)==4) aC,ah 58 ((6:Int)==5) aC,ag 65 ((6:Int)==6) aC,.c YY,.c YZ,.c Y0]) 
def Y2 : gW 90 [.agg [iP 1,.v (.slice none 0 0),.v (.slice none 0 0)],.agg [iP 1,iP 1,iP 1,.v (.string ⟨#[]⟩),iP 0,.v (.slice none 0 0)],.sl true (1+0) 1 (λi_ j_=>if i_<1 then(λi_ j_=>if i_<0 then(λi_ j_=>([]:List E).getD (i_*1+j_) (.v (.bool false))) i_ j_ else(E.iS (.sl true 1 1 λi_ j_=>[.v (.string ⟨#[120]⟩)].getD (i_*1+j_) (.v (.bool false)))) (i_-0) j_) i_ j_ else(E.iS (.sl true 0 1 λ_ _=>.any)) (i_-1) j_)] (.ik [.agg [iP 1,.sl true (0+1) 6 (λi_ j_=>if i_<0 then(λi_ j_=>if i_<0 then(λi_ j_=>([]:List E).getD (i_*6+j_) (.v (.bool false))) i_ j_ else(E.iS (.sl true 0 6 λ_ _=>.any)) (i_-0) j_) i_ j_ else(E.iS (.sl true 1 6 λi_ j_=>[iP 1,iP 0,iP 0,iP 0,iP 1,iP 1].getD (i_*6+j_) (.v (.bool false)))) (i_-0) j_),.v (.slice none 0 0)],iP ((1+1)-1)]):=
 aj call90 func90 (ae [ah 15 ((1:Int)==2) aC,.u 12,ah 32 (decide ((0:Int)<0)) aC,.u 12,.o 55 (.e (.nil _ _ _):ai (.v (.slice none 0 0)) (.sl true 0 6 λ_ _=>.any)),ah 57 (decide ((0:Int)<0)) aC,.bo,.o 74 (.e (.nil _ _ _):ai (.v (.slice none 0 0)) (.sl true 0 6 λ_ _=>.any)),.a (aA:(0+0)*48<=140737488355328),.o 77 (.refl _:ai (.sl true 1 6 λi_ j_=>[iP 1,iP 0,iP 0,iP 0,iP 1,iP 1].getD (i_*6+j_) (.v (.bool false))) (.sl true 1 6 λi_ j_=>[iP 1,iP 0,iP 0,iP 0,iP 1,iP 1].getD (i_*6+j_) (.v (.bool false)))),
  .bo,.a (aA:(0+1)*48<=140737488355328),iA (1+1) aA,iA ((1+1)-1) aA]) 
def Y3 : gW 90 [.agg [iP 1,.sl true (0+1) 6 (λi_ j_=>if i_<0 then(λi_ j_=>if i_<0 then(λi_ j_=>([]:List E).getD (i_*6+j_) (.v (.bool false))) i_ j_ else(E.iS (.sl true 0 6 λ_ _=>.any)) (i_-0) j_) i_ j_ else(E.iS (.sl true 1 6 λi_ j_=>[iP 1,iP 0,iP 0,iP 0,iP 1,iP 1].getD (i_*6+j_) (.v (.bool false)))) (i_-0) j_),.v (.slice none 0 0)],.agg [iP 2,iP 0,iP 0,.v (.string ⟨#[120]⟩),iP 0,.v (.slice none 0 0)],.sl true (1+0) 1 (λi_ j_=>if i_<1 then(λi_ j_=>if i_<0 then(λi_ j_=>([]:List E).getD (i_*1+j_) (.v (.bool false))) i_ j_ else(E.iS (.sl true 1 1 λi_ j_=>[.v (.string ⟨#[120]⟩)].getD (i_*1+j_) (.v (.bool false)))) (i_-0) j_) i_ j_ else(E.iS (.sl true 0 1 λ_ _=>.any)) (i_-1) j_)] (.ik [.agg [iP 1,.sl true (0+1) 6 (λi_ j_=>if i_<0 then(λi_ j_=>if i_<0 then(λi_ j_=>([]:List E).getD (i_*6+j_) (.v (.bool false))) i_ j_ else(E.iS (.sl true 0 6 λ_ _=>.any)) (i_-0) j_) i_ j_ else(E.iS (.sl true 1 6 λi_ j_=>[iP 1,iP 0,iP 0,iP 0,iP 1,iP 1].getD (i_*6+j_) (.v (.bool false)))) (i_-0) j_),.v (.slice none 0 0)],iP 0]):=
 aj call90 func90 (ae [ag 15 ((2:Int)==2) aC,.c KR]) 
def Y5 : gW 90 [.agg [iP 1,.v (.slice none 0 0),.v (.slice none 0 0)],.agg [iP 4,iP 0,iP 0,.v (.string ⟨#[]⟩),iP 0,(.sl true 2 6 λi_ j_=>[iP 1,iP 1,iP 1,.v (.string ⟨#[]⟩),iP 0,.v (.slice none 0 0),iP 2,iP 0,iP 0,.v (.string ⟨#[120]⟩),iP 0,.v (.slice none 0 0)].getD (i_*6+j_) (.v (.bool false)))],.sl true (1+0) 1 (λi_ j_=>if i_<1 then(λi_ j_=>if i_<0 then(λi_ j_=>([]:List E).getD (i_*1+j_) (.v (.bool false))) i_ j_ else(E.iS (.sl true 1 1 λi_ j_=>[.v (.string ⟨#[120]⟩)].getD (i_*1+j_) (.v (.bool false)))) (i_-0) j_) i_ j_ else(E.iS (.sl true 0 1 λ_ _=>.any)) (i_-1) j_)] (.ik [.agg [iP 1,.sl true (1+1) 6 (λi_ j_=>if i_<1 then(λi_ j_=>if i_<0 then(λi_ j_=>([]:List E).getD (i_*6+j_) (.v (.bool false))) i_ j_ else(E.iS (.sl true (0+1) 6 (λi_ j_=>if i_<0 then(λi_ j_=>if i_<0 then(λi_ j_=>([]:List E).getD (i_*6+j_) (.v (.bool false))) i_ j_ else(E.iS (.sl true 0 6 λ_ _=>.any)) (i_-0) j_) i_ j_ else(E.iS (.sl true 1 6 λi_ j_=>[iP 1,iP 0,iP 0,iP 0,iP 1,iP 1].getD (i_*6+j_) (.v (.bool false)))) (i_-0) j_))) (i_-0) j_) i_ j_ else(E.iS (.sl true 1 6 λi_ j_=>[iP 4,iP ((1+1)-1),iP 0,iP 0,iP 0,iP 0].getD (i_*6+j_) (.v (.bool false)))) (i_-1) j_),.v (.slice none 0 0)],iP ((1+2)-1)]):=
 aj call90 func90 (ae [ah 15 ((4:Int)==2) aC,.u 12,ag 32 (decide ((0:Int)<2)) aC,iX 0 2 aA,.c Y2,ag 48 ((0:Int)==0) aC,iA (0+1) aA,.k [9,8,6,4,3,2] [8,3,6,4],ag 32 (decide (((0+1):Int)<2)) aC,iX (0+1) 2 aA,.c Y3,ah 48 (((0+1):Int)==0) aC,iA ((0+1)+1) aA,.k [9,8,6,4,3,2] [8,3,6,4],ah 32 (decide ((((0+1)+1):Int)<2)) aC,.u 12,ag 57 (decide ((0:Int)<1)) aC,iX 0 1 aA,.g (Ji aD aD aD aD aC:lN prog .eql 153 (.agg [iP 1,iP 0,iP 0,iP 0,iP 1,iP 1]) (.agg [iP 4,iP ((1+1)-1),iP 0,iP 0,iP 0,iP 0]) (.bool false)),
  iA (0+1) aA,.k [12,8,6,3] [8,3,6],ah 57 (decide (((0+1):Int)<1)) aC,.bo,.a (aA:(0+1)*48<=140737488355328),.o 77 (.refl _:ai (.sl true 1 6 λi_ j_=>[iP 4,iP ((1+1)-1),iP 0,iP 0,iP 0,iP 0].getD (i_*6+j_) (.v (.bool false))) (.sl true 1 6 λi_ j_=>[iP 4,iP ((1+1)-1),iP 0,iP 0,iP 0,iP 0].getD (i_*6+j_) (.v (.bool false)))),
  .bo,.a (aA:(1+1)*48<=140737488355328),iA (1+2) aA,iA ((1+2)-1) aA]) 
def Y6 : gW 90 [.agg [iP 1,.v (.slice none 0 0),.v (.slice none 0 0)],.agg [iP 5,iP 0,iP 0,.v (.string ⟨#[]⟩),iP 0,(.sl true 2 6 λi_ j_=>[iP 2,iP 0,iP 0,.v (.string ⟨#[120]⟩),iP 0,.v (.slice none 0 0),iP 4,iP 0,iP 0,.v (.string ⟨#[]⟩),iP 0,(.sl true 2 6 λi_ j_=>[iP 1,iP 1,iP 1,.v (.string ⟨#[]⟩),iP 0,.v (.slice none 0 0),iP 2,iP 0,iP 0,.v (.string ⟨#[120]⟩),iP 0,.v (.slice none 0 0)].getD (i_*6+j_) (.v (.bool false)))].getD (i_*6+j_) (.v (.bool false)))],.sl true (1+0) 1 (λi_ j_=>if i_<1 then(λi_ j_=>if i_<0 then(λi_ j_=>([]:List E).getD (i_*1+j_) (.v (.bool false))) i_ j_ else(E.iS (.sl true 1 1 λi_ j_=>[.v (.string ⟨#[120]⟩)].getD (i_*1+j_) (.v (.bool false)))) (i_-0) j_) i_ j_ else(E.iS (.sl true 0 1 λ_ _=>.any)) (i_-1) j_)] (.ik [.agg [iP 1,.sl true (2+1) 6 (λi_ j_=>if i_<2 then(λi_ j_=>if i_<0 then(λi_ j_=>([]:List E).getD (i_*6+j_) (.v (.bool false))) i_ j_ else(E.iS (.sl true (1+1) 6 (λi_ j_=>if i_<1 then(λi_ j_=>if i_<0 then(λi_ j_=>([]:List E).getD (i_*6+j_) (.v (.bool false))) i_ j_ else(E.iS (.sl true (0+1) 6 (λi_ j_=>if i_<0 then(λi_ j_=>if i_<0 then(λi_ j_=>([]:List E).getD (i_*6+j_) (.v (.bool false))) i_ j_ else(E.iS (.sl true 0 6 λ_ _=>.any)) (i_-0) j_) i_ j_ else(E.iS (.sl true 1 6 λi_ j_=>[iP 1,iP 0,iP 0,iP 0,iP 1,iP 1].getD (i_*6+j_) (.v (.bool false)))) (i_-0) j_))) (i_-0) j_) i_ j_ else(E.iS (.sl true 1 6 λi_ j_=>[iP 4,iP ((1+1)-1),iP 0,iP 0,iP 0,iP 0].getD (i_*6+j_) (.v (.bool false)))) (i_-1) j_))) (i_-0) j_) i_ j_ else(E.iS (.sl true 1 6 λi_ j_=>[iP 5,iP 0,iP ((1+2)-1),iP 0,iP 0,iP 0].getD (i_*6+j_) (.v (.bool false)))) (i_-2) j_),.v (.slice none 0 0)],iP ((1+3)-1)]):=
 aj call90 func90 (ae [ah 15 ((5:Int)==2) aC,.u 12,ag 32 (decide ((0:Int)<2)) aC,iX 0 2 aA,.c Zb,ag 48 ((0:Int)==0) aC,iA (0+1) aA,.k [9,8,6,4,3,2] [8,3,6,4],ag 32 (decide (((0+1):Int)<2)) aC,iX (0+1) 2 aA,.c Y5,ah 48 (((0+1):Int)==0) aC,iA ((0+1)+1) aA,.k [9,8,6,4,3,2] [8,3,6,4],ah 32 (decide ((((0+1)+1):Int)<2)) aC,.u 12,ag 57 (decide ((0:Int)<2)) aC,iX 0 2 aA,.g (Ji aD aD aD aD aC:lN prog .eql 153 (.agg [iP 1,iP 0,iP 0,iP 0,iP 1,iP 1]) (.agg [iP 5,iP 0,iP ((1+2)-1),iP 0,iP 0,iP 0]) (.bool false)),
  iA (0+1) aA,.k [12,8,6,3] [8,3,6],ag 57 (decide (((0+1):Int)<2)) aC,iX (0+1) 2 aA,.g (Ji aD aD aD aD aC:lN prog .eql 153 (.agg [iP 4,iP ((1+1)-1),iP 0,iP 0,iP 0,iP 0]) (.agg [iP 5,iP 0,iP ((1+2)-1),iP 0,iP 0,iP 0]) (.bool false)),
  iA ((0+1)+1) aA,ah 57 (decide ((((0+1)+1):Int)<2)) aC,.bo,.a (aA:(0+2)*48<=140737488355328),.o 77 (.refl _:ai (.sl true 1 6 λi_ j_=>[iP 5,iP 0,iP ((1+2)-1),iP 0,iP 0,iP 0].getD (i_*6+j_) (.v (.bool false))) (.sl true 1 6 λi_ j_=>[iP 5,iP 0,iP ((1+2)-1),iP 0,iP 0,iP 0].getD (i_*6+j_) (.v (.bool false)))),
  .bo,.a (aA:(2+1)*48<=140737488355328),iA (1+3) aA,iA ((1+3)-1) aA]) 
def Y7 : gW 46 [(.sl true 1 6 λi_ j_=>[iP 5,iP 0,iP 0,.v (.string ⟨#[]⟩),iP 0,(.sl true 2 6 λi_ j_=>[iP 2,iP 0,iP 0,.v (.string ⟨#[120]⟩),iP 0,.v (.slice none 0 0),iP 4,iP 0,iP 0,.v (.string ⟨#[]⟩),iP 0,(.sl true 2 6 λi_ j_=>[iP 1,iP 1,iP 1,.v (.string ⟨#[]⟩),iP 0,.v (.slice none 0 0),iP 2,iP 0,iP 0,.v (.string ⟨#[120]⟩),iP 0,.v (.slice none 0 0)].getD (i_*6+j_) (.v (.bool false)))].getD (i_*6+j_) (.v (.bool false)))].getD (i_*6+j_) (.v (.bool false))),.sl true (1+0) 1 (λi_ j_=>if i_<1 then(λi_ j_=>if i_<0 then(λi_ j_=>([]:List E).getD (i_*1+j_) (.v (.bool false))) i_ j_ else(E.iS (.sl true 1 1 λi_ j_=>[.v (.string ⟨#[120]⟩)].getD (i_*1+j_) (.v (.bool false)))) (i_-0) j_) i_ j_ else(E.iS (.sl true 0 1 λ_ _=>.any)) (i_-1) j_)] (.agg [iP 1,.sl true (2+1) 6 (λi_ j_=>if i_<2 then(λi_ j_=>if i_<0 then(λi_ j_=>([]:List E).getD (i_*6+j_) (.v (.bool false))) i_ j_ else(E.iS (.sl true (1+1) 6 (λi_ j_=>if i_<1 then(λi_ j_=>if i_<0 then(λi_ j_=>([]:List E).getD (i_*6+j_) (.v (.bool false))) i_ j_ else(E.iS (.sl true (0+1) 6 (λi_ j_=>if i_<0 then(λi_ j_=>if i_<0 then(λi_ j_=>([]:List E).getD (i_*6+j_) (.v (.bool false))) i_ j_ else(E.iS (.sl true 0 6 λ_ _=>.any)) (i_-0) j_) i_ j_ else(E.iS (.sl true 1 6 λi_ j_=>[iP 1,iP 0,iP 0,iP 0,iP 1,iP 1].getD (i_*6+j_) (.v (.bool false)))) (i_-0) j_))) (i_-0) j_) i_ j_ else(E.iS (.sl true 1 6 λi_ j_=>[iP 4,iP ((1+1)-1),iP 0,iP 0,iP 0,iP 0].getD (i_*6+j_) (.v (.bool false)))) (i_-1) j_))) (i_-0) j_) i_ j_ else(E.iS (.sl true 1 6 λi_ j_=>[iP 5,iP 0,iP ((1+2)-1),iP 0,iP 0,iP 0].getD (i_*6+j_) (.v (.bool false)))) (i_-2) j_),.sl true (0+1) 1 (λi_ j_=>if i_<0 then(λi_ j_=>if i_<0 then(λi_ j_=>([]:List E).getD (i_*1+j_) (.v (.bool false))) i_ j_ else(E.iS (.sl true 0 1 λ_ _=>.any)) (i_-0) j_) i_ j_ else(E.iS (.sl true 1 1 λi_ j_=>[iP ((1+3)-1)].getD (i_*1+j_) (.v (.bool false)))) (i_-0) j_)]):=
 aj call46 func46 (ae [.u 12,ag 15 (decide ((0:Int)<1)) aC,iX 0 1 aA,.c Y6,.bo,.o 31 (.e (.nil _ _ _):ai (.v (.slice none 0 0)) (.sl true 0 1 λ_ _=>.any)),.a (aA:(0+0)*8<=140737488355328),.o 34 (.refl _:ai (.sl true 1 1 λi_ j_=>[iP ((1+3)-1)].getD (i_*1+j_) (.v (.bool false))) (.sl true 1 1 λi_ j_=>[iP ((1+3)-1)].getD (i_*1+j_) (.v (.bool false)))),.bo,.a (aA:(0+1)*8<=140737488355328),iA (0+1) aA,.k [6,5,4,0,1] [5,4],ah 15 (decide (((0+1):Int)<1)) aC]) 
def Y8 : gW 34 [iP 6,.v (.slice none 0 0)] (.agg [iP 1,.sl true (2+1) 6 (λi_ j_=>if i_<2 then(λi_ j_=>if i_<0 then(λi_ j_=>([]:List E).getD (i_*6+j_) (.v (.bool false))) i_ j_ else(E.iS (.sl true (1+1) 6 (λi_ j_=>if i_<1 then(λi_ j_=>if i_<0 then(λi_ j_=>([]:List E).getD (i_*6+j_) (.v (.bool false))) i_ j_ else(E.iS (.sl true (0+1) 6 (λi_ j_=>if i_<0 then(λi_ j_=>if i_<0 then(λi_ j_=>([]:List E).getD (i_*6+j_) (.v (.bool false))) i_ j_ else(E.iS (.sl true 0 6 λ_ _=>.any)) (i_-0) j_) i_ j_ else(E.iS (.sl true 1 6 λi_ j_=>[iP 1,iP 0,iP 0,iP 0,iP 1,iP 1].getD (i_*6+j_) (.v (.bool false)))) (i_-0) j_))) (i_-0) j_) i_ j_ else(E.iS (.sl true 1 6 λi_ j_=>[iP 4,iP ((1+1)-1),iP 0,iP 0,iP 0,iP 0].getD (i_*6+j_) (.v (.bool false)))) (i_-1) j_))) (i_-0) j_) i_ j_ else(E.iS (.sl true 1 6 λi_ j_=>[iP 5,iP 0,iP ((1+2)-1),iP 0,iP 0,iP 0].getD (i_*6+j_) (.v (.bool false)))) (i_-2) j_),.sl true (0+1) 1 (λi_ j_=>if i_<0 then(λi_ j_=>if i_<0 then(λi_ j_=>([]:List E).getD (i_*1+j_) (.v (.bool false))) i_ j_ else(E.iS (.sl true 0 1 λ_ _=>.any)) (i_-0) j_) i_ j_ else(E.iS (.sl true 1 1 λi_ j_=>[iP ((1+3)-1)].getD (i_*1+j_) (.v (.bool false)))) (i_-0) j_),iP 1,.v (.slice none 0 0)]):=
 aj call34 func34 (ae [.c Y1,.bo,.a (aA:(0+1)*16<=140737488355328),.o 18 (.e (.nil _ _ _):ai (.v (.slice none 0 0)) (.sl true 0 1 λ_ _=>.any)),.bo,.a (aA:(1+0)*16<=140737488355328),.c Y7]) 
def Cb:gW 34 [iP 6,.v (.slice none 0 0)] (jK kA):=by
 refine Y8.jk (.agg (.cons (.refl _) (.cons ?_ (.cons ?_ (.cons (.refl _) (.cons (.nil _ _ _) .nil))))))
 .refine .sl λi j hi hj=>?_
  have hi:i<3:=hi;obtain rfl|rfl|rfl:i=0\/i=1\/i=2:= aA 
  all_goals
   rcases j with _|_|_|_|_|_|j
   all_goals first|exact⟨.iD rfl,rfl⟩|omega
 .refine .sl λi j hi hj=>?_
  have hi:i<1:=hi;obtain rfl:i=0:= aA ;obtain rfl:j=0:= aA ;exact⟨.iD rfl,rfl⟩
def r7(n e:Int)(h1:n.natAbs<4294967296)(h2:-1000<=e)(h3:e<=1000):gW 35 [iP n,iP e] (ib (iK n e)):=by
 have hrg:oC (canon (Dy.neg (kO n)) (Dy.m (kO n)) ((Dy.e (kO n))+e)):=by rw[PO];exact(wc h1 h2 h3).range
 exact aj call35 func35 (aa [af [iP n] (ahp _ aA),af [ib (kO n),iP e] (aht _ _ (Is aA) aA aA hrg)]<|rQ (ib (canon (Dy.neg (kO n)) (Dy.m (kO n)) ((Dy.e (kO n))+e))) (ib (iK n e)) (by rw[PO])) 
def aeo(d:Dy):gW 85 [ib d] (ix (iY d)):=
 aj call85 func85 (rR (ix (iY d)) (.iD rfl:E.le (ix (Iv.mk d d false)) (ix (iY d)))) 
def tJ(n e:Int)(h1:n.natAbs<4294967296)(h2:-1000<=e)(h3:e<=1000):gW 36 [iP n,iP e] (ix (iY (iK n e))):=
 aj call36 func36 (ae [.c (r7 n e aA aA aA),.c (aeo (iK n e))]) 
def aa5:gW 12 [jK ud,hH tW,iP 60] (bP true):=by
 have:=OI ud tW 60 Qp OU aC aC;rwa[aa8]at this
def aa4:gW 11 [jK ud,hH tW,iP 60] (bP false):=by
 have:=JY ud tW 60 Qp OU aC aC;rwa[aa7]at this
def aa2:gW 11 [jK (xH (-3) 1 1 (-2)),hH tW,iP 60] (bP true):=by
 have:=JY (xH (-3) 1 1 (-2)) tW 60 (aeG ⟨aC,aC⟩ ⟨aC,aC⟩ ⟨aC,aC⟩ ⟨aC,aC⟩) OU aC aC;rwa[aa6]at this
def aa3:gW 10 [iP (-3),iP 1,iP 1,iP (-2)] (jK (xH (-3) 1 1 (-2))):=aeH _ _ _ _ ⟨aC,aC⟩ ⟨aC,aC⟩ ⟨aC,aC⟩ ⟨aC,aC⟩
def Bk : gW 7 [] (bP true):=
 aj call7 func7 (ae [.c (tJ 0 0 aC aC aC),.c (tJ 0 0 aC aC aC),.o 4 (.e (zY _ _):ai (.sl true 2 7 λi_ j_=>(iQ (iY (iK 0 0))++iQ (iY (iK 0 0))).getD (i_*7+j_) (.v (.bool false))) (hH tW)),.c Qs,af [jK ud,hH tW,iP 60] aa5,.c Qs,af [jK ud,hH tW,iP 60] aa4,af [iP (-3),iP 1,iP 1,iP (-2)] aa3,af [jK (xH (-3) 1 1 (-2)),hH tW,iP 60] aa2]) 
def Uv(a b:Int)(M:List (List Iv))(k:Nat):PS:=⟨120,true,[(95,.e (iP k)),(94,.e (iP M.length)),(93,.e (iW M)),(16,.e (iP (kS M (iK 0 0) k:Int))),(13,.e (iP (0+1))),(89,.e (bP false)),(88,.e (iP 0)),(87,.e (iP b)),(86,.e (.v (.int .i8 b))),(15,.e (iP 0)),(77,.e (iP 0)),(76,.e (iP 2)),(75,.e (.sl true 2 1 λi_ j_=>[iP 0,iP 1].getD (i_*1+j_) (.v (.bool false)))),(11,.e (iW M)),(0,.e (.v (.int .i8 a))),(1,.e (.v (.int .i8 b)))],[]⟩
def Uw(a b:Int)(M:List (List Iv))(k:Nat):PS:=⟨120,true,[(95,.e (iP k)),(94,.e (iP M.length)),(93,.e (iW M)),(16,.e (iP (kS M (iK 1 0) k:Int))),(13,.e (iP ((0+1)+1))),(89,.e (bP false)),(88,.e (iP 1)),(87,.e (iP b)),(86,.e (.v (.int .i8 b))),(15,.e (iP 1)),(77,.e (iP (0+1))),(76,.e (iP 2)),(75,.e (.sl true 2 1 λi_ j_=>[iP 0,iP 1].getD (i_*1+j_) (.v (.bool false)))),(11,.e (iW M)),(0,.e (.v (.int .i8 a))),(1,.e (.v (.int .i8 b)))],[]⟩
def Uy(a b:Int)(M:List (List Iv))(k:Nat):PS:=⟨120,true,[(95,.e (iP k)),(94,.e (iP M.length)),(93,.e (iW M)),(16,.e (iP (kS M (iK 0 0) k:Int))),(13,.e (iP (0+1))),(89,.e (bP false)),(88,.e (iP 0)),(87,.e (iP b)),(86,.e (.v (.int .i8 b))),(15,.e (iP 0)),(77,.e (iP 0)),(76,.e (iP 2)),(75,.e (.sl true 2 1 λi_ j_=>[iP 0,iP 1].getD (i_*1+j_) (.v (.bool false)))),(11,.e (iW M)),(0,.e (.v (.int .i8 a))),(1,.e (.v (.int .i8 b)))],[]⟩
def Ux(a b:Int)(M:List (List Iv))(k:Nat):PS:=⟨120,true,[(95,.e (iP k)),(94,.e (iP M.length)),(93,.e (iW M)),(16,.e (iP (kS M (iK 1 0) k:Int))),(13,.e (iP (0+1))),(89,.e (bP false)),(88,.e (iP 1)),(87,.e (iP b)),(86,.e (.v (.int .i8 b))),(15,.e (iP 1)),(77,.e (iP (0+1))),(76,.e (iP 2)),(75,.e (.sl true 2 1 λi_ j_=>[iP 0,iP 1].getD (i_*1+j_) (.v (.bool false)))),(11,.e (iW M)),(0,.e (.v (.int .i8 a))),(1,.e (.v (.int .i8 b)))],[]⟩
def ae0(a b m:Int)(a1:-128<=a)(a2:a<=127)(b1:-128<=b)(b2:b<=127)(m1:0<=m)(m2:m<=255)(h:b<a):gW 6 [.v (.int .i8 a),.v (.int .i8 b),.v (.int .u8 m)] (bP true):=
 aj call6 func6 (ae [.c Bk,tB 23 (bn h)]) 
def CU:gW 12 [jK kA,hH BE,iP 60] (bP true):=by
 have:=OI kA BE 60 Ff VS aC aC;rwa[ae9]at this
def CS:gW 11 [jK kA,hH BE,iP 60] (bP false):=by
 have:=JY kA BE 60 Ff VS aC aC;rwa[ae5]at this
def CT:gW 11 [jK kA,hH BF,iP 60] (bP true):=by
 have:=JY kA BF 60 Ff VT aC aC;rwa[ae6]at this
def CW:gW 12 [jK kA,hH BF,iP 60] (bP false):=by
 have:=OI kA BF 60 Ff VT aC aC;rwa[afa]at this
def ae1(a b m:Int)(a1:-128<=a)(a2:a<=127)(b1:-128<=b)(b2:b<=127)(m1:0<=m)(m2:m<=255)(h:a<=b)(x:List Iv)(hX:E.le (.sl true 1 7 λi_ j_=>(iQ (Iv.mk (iK a 0) (iK b 0) false)).getD (i_*7+j_) (.v (.bool false))) (hH x))(hR:gW 26 [jK kA,hH x,iP (1+m),iP 60] (.ik [.v (.slice none 0 0),iP 15])):gW 6 [.v (.int .i8 a),.v (.int .i8 b),.v (.int .u8 m)] (bP true):=
 aj call6 func6 (ae [.c Bk,tF 23 (b<a) aA,af [iP 6,.v (.slice none 0 0)] Cb,.o 26 (al (IntKind.i64.wrap a) a (i64_in _ aA aA)),.c (r7 a 0 aA aA aA),.o 29 (al (IntKind.i64.wrap b) b (i64_in _ aA aA)),.c (r7 b 0 aA aA aA),.o 32 (.e hX:ai (.sl true 1 7 λi_ j_=>(iQ (Iv.mk (iK a 0) (iK b 0) false)).getD (i_*7+j_) (.v (.bool false))) (hH x)),.c (tJ 0 0 aC aC aC),.o 34 (.e (kT _):ai (.sl true 1 7 λi_ j_=>(iQ (iY (iK 0 0))).getD (i_*7+j_) (.v (.bool false))) (hH [iY (iK 0 0)])),.c (tJ 1 0 aC aC aC),.o 36 (.e (kT _):ai (.sl true 1 7 λi_ j_=>(iQ (iY (iK 1 0))).getD (i_*7+j_) (.v (.bool false))) (hH [iY (iK 1 0)])),af [jK kA,hH [iY (iK 0 0)],iP 60] CU,af [jK kA,hH [iY (iK 0 0)],iP 60] CS,af [jK kA,hH [iY (iK 1 0)],iP 60] CT,af [jK kA,hH [iY (iK 1 0)],iP 60] CW,.o 61 (al (IntKind.i64.wrap m) m (i64_in _ aA aA)),iA (1+m) aA,af [jK kA,hH x,iP (1+m),iP 60] hR,ag 67 ((15:Int) != 0) aC,ag 69 ((15:Int)==15) aC,ag 73 ((0:Int)==0) aC]) 
def aeZ(a b m:Int)(a1:-128<=a)(a2:a<=127)(b1:-128<=b)(b2:b<=127)(m1:0<=m)(m2:m<=255)(h:a<=b)(x:List Iv)(hX:E.le (.sl true 1 7 λi_ j_=>(iQ (Iv.mk (iK a 0) (iK b 0) false)).getD (i_*7+j_) (.v (.bool false))) (hH x))(M:List (List Iv))(hR:gW 26 [jK kA,hH x,iP (1+m),iP 60] (.ik [iW M,iP 0]))(c0:a<=0)(d0:0<=b)(ss:DB x M 0 (iK 0 0))(c1:a<=1)(d1:1<=b)(rJ:DB x M 1 (iK 1 0))(hM:M.length<=8001)(h2:2<=M.length):gW 6 [.v (.int .i8 a),.v (.int .i8 b),.v (.int .u8 m)] (bP true):=by
 have acM:=ss.GO;have ac3:=ss.len;have acN:=rJ.GO;have ac4:=rJ.len;exact aj call6 func6 (aa [.c Bk,tF 23 (b<a) aA,af [iP 6,.v (.slice none 0 0)] Cb,.o 26 (al (IntKind.i64.wrap a) a (i64_in _ aA aA)),.c (r7 a 0 aO aA aA),.o 29 (al (IntKind.i64.wrap b) b (i64_in _ aA aA)),.c (r7 b 0 aO aA aA),.o 32 (.e hX:ai (.sl true 1 7 λi_ j_=>(iQ (Iv.mk (iK a 0) (iK b 0) false)).getD (i_*7+j_) (.v (.bool false))) (hH x)),.c (tJ 0 0 aC aC aC),.o 34 (.e (kT _):ai (.sl true 1 7 λi_ j_=>(iQ (iY (iK 0 0))).getD (i_*7+j_) (.v (.bool false))) (hH [iY (iK 0 0)])),.c (tJ 1 0 aC aC aC),.o 36 (.e (kT _):ai (.sl true 1 7 λi_ j_=>(iQ (iY (iK 1 0))).getD (i_*7+j_) (.v (.bool false))) (hH [iY (iK 1 0)])),af [jK kA,hH [iY (iK 0 0)],iP 60] CU,af [jK kA,hH [iY (iK 0 0)],iP 60] CS,af [jK kA,hH [iY (iK 1 0)],iP 60] CT,af [jK kA,hH [iY (iK 1 0)],iP 60] CW,.o 61 (al (IntKind.i64.wrap m) m (i64_in _ aA aA)),iA (1+m) aA,af [jK kA,hH x,iP (1+m),iP 60] hR,ah 67 ((0:Int) != 0) aC,.u 4,ag 78 (decide ((0:Int)<2)) aC,iX 0 2 aA,.o 82 (al (IntKind.i64.wrap a) a (i64_in _ aA aA)),tF 84 (0<a) aA,.o 87 (al (IntKind.i64.wrap b) b (i64_in _ aA aA)),tF 89 (b<0) aA,iA (0+1) aA,.s (Sp.jE (Uv a b M) 0 M.length aA (λk hk ql=>by
    have zG:=(ss.box k aA).len;have hv:=((ss.box k aA).ok 0 aA).1;have hd:(iK 0 0).ic:=wc aC aC aC;have rX:=DU (M:=M) (d:=(iK 0 0)) k;exact iF (aa [tT 96 ((k:Int)<M.length) aA,iX (k:Int) (M.length) aA,ag 101 (((M.getD k []).length:Int)==1) (aY aA),iX 0 ((M.getD k []).length) aA,.c (r7 0 0 aO aA aA),.c (CL ((M.getD k []).getD 0 gZ) (iK 0 0) hv hd)]<|.w ((pv ((M.getD k []).getD 0 gZ) (iK 0 0))=true)
     (λhc=>by
      have jO:kS M (iK 0 0) (k+1)=kS M (iK 0 0) k+1:=by show(if _ then _ else _)=_;rw[bj hc]
      exact aa [ag 108 (pv ((M.getD k []).getD 0 gZ) (iK 0 0)) hc,iA ((kS M (iK 0 0) k:Int)+1) aA,iA ((k:Int)+1) aA]<|.e (ae [.o 16 (al (((kS M (iK 0 0) k)+1:Nat):Int) (kS M (iK 0 0) (k+1):Int) (by rw[jO]))]))
     (λhc=>by
      have jO:kS M (iK 0 0) (k+1)=kS M (iK 0 0) k:=by show(if _ then _ else _)=_;rw[bh hc]
      exact aa [tB 108 (aZ hc),iA ((k:Int)+1) aA]<|.e (ae [.o 16 (al (kS M (iK 0 0) k:Int) (kS M (iK 0 0) (k+1):Int) (by rw[jO]))]))) aD)
  (λhk=>by
    exact iF (ae [tF 96 ((M.length:Int)<M.length) aA]) aD) aG:jA 21 Tryz.f6 (Uv a b M 0) (.exit 2) ⟨120,true,[(16,.e (iP (kS M (iK 0 0) M.length:Int))),(13,.e (iP (0+1))),(89,.e (bP false)),(88,.e (iP 0)),(87,.e (iP b)),(86,.e (.v (.int .i8 b))),(77,.e (iP 0)),(76,.e (iP 2)),(75,.e (.sl true 2 1 λi_ j_=>[iP 0,iP 1].getD (i_*1+j_) (.v (.bool false)))),(11,.e (iW M)),(0,.e (.v (.int .i8 a))),(1,.e (.v (.int .i8 b)))],[]⟩) (ae [.o 16 (al 0 (kS M (iK 0 0) 0:Int) rfl)]),tF 114 ((kS M (iK 0 0) M.length:Int)<1) aA,iA (0+1) aA,ag 78 (decide (((0+1):Int)<2)) aC,iX (0+1) 2 aA,.o 82 (al (IntKind.i64.wrap a) a (i64_in _ aA aA)),tF 84 (1<a) aA,.o 87 (al (IntKind.i64.wrap b) b (i64_in _ aA aA)),tF 89 (b<1) aA,iA ((0+1)+1) aA,.s (Sp.jE (Uw a b M) 0 M.length aA (λk hk ql=>by
    have zG:=(rJ.box k aA).len;have hv:=((rJ.box k aA).ok 0 aA).1;have hd:(iK 1 0).ic:=wc aC aC aC;have rX:=DU (M:=M) (d:=(iK 1 0)) k;exact iF (aa [tT 96 ((k:Int)<M.length) aA,iX (k:Int) (M.length) aA,ag 101 (((M.getD k []).length:Int)==1) (aY aA),iX 0 ((M.getD k []).length) aA,.c (r7 1 0 aO aA aA),.c (CL ((M.getD k []).getD 0 gZ) (iK 1 0) hv hd)]<|.w ((pv ((M.getD k []).getD 0 gZ) (iK 1 0))=true)
     (λhc=>by
      have jO:kS M (iK 1 0) (k+1)=kS M (iK 1 0) k+1:=by show(if _ then _ else _)=_;rw[bj hc]
      exact aa [ag 108 (pv ((M.getD k []).getD 0 gZ) (iK 1 0)) hc,iA ((kS M (iK 1 0) k:Int)+1) aA,iA ((k:Int)+1) aA]<|.e (ae [.o 16 (al (((kS M (iK 1 0) k)+1:Nat):Int) (kS M (iK 1 0) (k+1):Int) (by rw[jO]))]))
     (λhc=>by
      have jO:kS M (iK 1 0) (k+1)=kS M (iK 1 0) k:=by show(if _ then _ else _)=_;rw[bh hc]
      exact aa [tB 108 (aZ hc),iA ((k:Int)+1) aA]<|.e (ae [.o 16 (al (kS M (iK 1 0) k:Int) (kS M (iK 1 0) (k+1):Int) (by rw[jO]))]))) aD)
  (λhk=>by
    exact iF (ae [tF 96 ((M.length:Int)<M.length) aA]) aD) aG:jA 21 Tryz.f6 (Uw a b M 0) (.exit 2) ⟨120,true,[(16,.e (iP (kS M (iK 1 0) M.length:Int))),(13,.e (iP ((0+1)+1))),(89,.e (bP false)),(88,.e (iP 1)),(87,.e (iP b)),(86,.e (.v (.int .i8 b))),(77,.e (iP (0+1))),(76,.e (iP 2)),(75,.e (.sl true 2 1 λi_ j_=>[iP 0,iP 1].getD (i_*1+j_) (.v (.bool false)))),(11,.e (iW M)),(0,.e (.v (.int .i8 a))),(1,.e (.v (.int .i8 b)))],[]⟩) (ae [.o 16 (al 0 (kS M (iK 1 0) 0:Int) rfl)]),tF 114 ((kS M (iK 1 0) M.length:Int)<1) aA,iA ((0+1)+1) aA,ah 78 (decide ((((0+1)+1):Int)<2)) aC]<|rQ (bP (decide (((0+1)+1)<=(M.length:Int)))) (bP true) (congrArg bP (bn aA))) 
def ae3(a b m:Int)(a1:-128<=a)(a2:a<=127)(b1:-128<=b)(b2:b<=127)(m1:0<=m)(m2:m<=255)(h:a<=b)(x:List Iv)(hX:E.le (.sl true 1 7 λi_ j_=>(iQ (Iv.mk (iK a 0) (iK b 0) false)).getD (i_*7+j_) (.v (.bool false))) (hH x))(M:List (List Iv))(hR:gW 26 [jK kA,hH x,iP (1+m),iP 60] (.ik [iW M,iP 0]))(c0:a<=0)(d0:0<=b)(ss:DB x M 0 (iK 0 0))(c1:b<1)(hM:M.length<=8001):gW 6 [.v (.int .i8 a),.v (.int .i8 b),.v (.int .u8 m)] (bP true):=by
 have acM:=ss.GO;have ac3:=ss.len;exact aj call6 func6 (aa [.c Bk,tF 23 (b<a) aA,af [iP 6,.v (.slice none 0 0)] Cb,.o 26 (al (IntKind.i64.wrap a) a (i64_in _ aA aA)),.c (r7 a 0 aO aA aA),.o 29 (al (IntKind.i64.wrap b) b (i64_in _ aA aA)),.c (r7 b 0 aO aA aA),.o 32 (.e hX:ai (.sl true 1 7 λi_ j_=>(iQ (Iv.mk (iK a 0) (iK b 0) false)).getD (i_*7+j_) (.v (.bool false))) (hH x)),.c (tJ 0 0 aC aC aC),.o 34 (.e (kT _):ai (.sl true 1 7 λi_ j_=>(iQ (iY (iK 0 0))).getD (i_*7+j_) (.v (.bool false))) (hH [iY (iK 0 0)])),.c (tJ 1 0 aC aC aC),.o 36 (.e (kT _):ai (.sl true 1 7 λi_ j_=>(iQ (iY (iK 1 0))).getD (i_*7+j_) (.v (.bool false))) (hH [iY (iK 1 0)])),af [jK kA,hH [iY (iK 0 0)],iP 60] CU,af [jK kA,hH [iY (iK 0 0)],iP 60] CS,af [jK kA,hH [iY (iK 1 0)],iP 60] CT,af [jK kA,hH [iY (iK 1 0)],iP 60] CW,.o 61 (al (IntKind.i64.wrap m) m (i64_in _ aA aA)),iA (1+m) aA,af [jK kA,hH x,iP (1+m),iP 60] hR,ah 67 ((0:Int) != 0) aC,.u 4,ag 78 (decide ((0:Int)<2)) aC,iX 0 2 aA,.o 82 (al (IntKind.i64.wrap a) a (i64_in _ aA aA)),tF 84 (0<a) aA,.o 87 (al (IntKind.i64.wrap b) b (i64_in _ aA aA)),tF 89 (b<0) aA,iA (0+1) aA,.s (Sp.jE (Uy a b M) 0 M.length aA (λk hk ql=>by
    have zG:=(ss.box k aA).len;have hv:=((ss.box k aA).ok 0 aA).1;have hd:(iK 0 0).ic:=wc aC aC aC;have rX:=DU (M:=M) (d:=(iK 0 0)) k;exact iF (aa [tT 96 ((k:Int)<M.length) aA,iX (k:Int) (M.length) aA,ag 101 (((M.getD k []).length:Int)==1) (aY aA),iX 0 ((M.getD k []).length) aA,.c (r7 0 0 aO aA aA),.c (CL ((M.getD k []).getD 0 gZ) (iK 0 0) hv hd)]<|.w ((pv ((M.getD k []).getD 0 gZ) (iK 0 0))=true)
     (λhc=>by
      have jO:kS M (iK 0 0) (k+1)=kS M (iK 0 0) k+1:=by show(if _ then _ else _)=_;rw[bj hc]
      exact aa [ag 108 (pv ((M.getD k []).getD 0 gZ) (iK 0 0)) hc,iA ((kS M (iK 0 0) k:Int)+1) aA,iA ((k:Int)+1) aA]<|.e (ae [.o 16 (al (((kS M (iK 0 0) k)+1:Nat):Int) (kS M (iK 0 0) (k+1):Int) (by rw[jO]))]))
     (λhc=>by
      have jO:kS M (iK 0 0) (k+1)=kS M (iK 0 0) k:=by show(if _ then _ else _)=_;rw[bh hc]
      exact aa [tB 108 (aZ hc),iA ((k:Int)+1) aA]<|.e (ae [.o 16 (al (kS M (iK 0 0) k:Int) (kS M (iK 0 0) (k+1):Int) (by rw[jO]))]))) aD)
  (λhk=>by
    exact iF (ae [tF 96 ((M.length:Int)<M.length) aA]) aD) aG:jA 21 Tryz.f6 (Uy a b M 0) (.exit 2) ⟨120,true,[(16,.e (iP (kS M (iK 0 0) M.length:Int))),(13,.e (iP (0+1))),(89,.e (bP false)),(88,.e (iP 0)),(87,.e (iP b)),(86,.e (.v (.int .i8 b))),(77,.e (iP 0)),(76,.e (iP 2)),(75,.e (.sl true 2 1 λi_ j_=>[iP 0,iP 1].getD (i_*1+j_) (.v (.bool false)))),(11,.e (iW M)),(0,.e (.v (.int .i8 a))),(1,.e (.v (.int .i8 b)))],[]⟩) (ae [.o 16 (al 0 (kS M (iK 0 0) 0:Int) rfl)]),tF 114 ((kS M (iK 0 0) M.length:Int)<1) aA,iA (0+1) aA,ag 78 (decide (((0+1):Int)<2)) aC,iX (0+1) 2 aA,.o 82 (al (IntKind.i64.wrap a) a (i64_in _ aA aA)),tF 84 (1<a) aA,.o 87 (al (IntKind.i64.wrap b) b (i64_in _ aA aA)),tT 89 (b<1) aA,iA ((0+1)+1) aA,ah 78 (decide ((((0+1)+1):Int)<2)) aC]<|rQ (bP (decide ((0+1)<=(M.length:Int)))) (bP true) (congrArg bP (bn aA))) 
def ae2(a b m:Int)(a1:-128<=a)(a2:a<=127)(b1:-128<=b)(b2:b<=127)(m1:0<=m)(m2:m<=255)(h:a<=b)(x:List Iv)(hX:E.le (.sl true 1 7 λi_ j_=>(iQ (Iv.mk (iK a 0) (iK b 0) false)).getD (i_*7+j_) (.v (.bool false))) (hH x))(M:List (List Iv))(hR:gW 26 [jK kA,hH x,iP (1+m),iP 60] (.ik [iW M,iP 0]))(c0:0<a)(c1:a<=1)(d1:1<=b)(rJ:DB x M 1 (iK 1 0))(hM:M.length<=8001):gW 6 [.v (.int .i8 a),.v (.int .i8 b),.v (.int .u8 m)] (bP true):=by
 have acN:=rJ.GO;have ac4:=rJ.len;exact aj call6 func6 (aa [.c Bk,tF 23 (b<a) aA,af [iP 6,.v (.slice none 0 0)] Cb,.o 26 (al (IntKind.i64.wrap a) a (i64_in _ aA aA)),.c (r7 a 0 aO aA aA),.o 29 (al (IntKind.i64.wrap b) b (i64_in _ aA aA)),.c (r7 b 0 aO aA aA),.o 32 (.e hX:ai (.sl true 1 7 λi_ j_=>(iQ (Iv.mk (iK a 0) (iK b 0) false)).getD (i_*7+j_) (.v (.bool false))) (hH x)),.c (tJ 0 0 aC aC aC),.o 34 (.e (kT _):ai (.sl true 1 7 λi_ j_=>(iQ (iY (iK 0 0))).getD (i_*7+j_) (.v (.bool false))) (hH [iY (iK 0 0)])),.c (tJ 1 0 aC aC aC),.o 36 (.e (kT _):ai (.sl true 1 7 λi_ j_=>(iQ (iY (iK 1 0))).getD (i_*7+j_) (.v (.bool false))) (hH [iY (iK 1 0)])),af [jK kA,hH [iY (iK 0 0)],iP 60] CU,af [jK kA,hH [iY (iK 0 0)],iP 60] CS,af [jK kA,hH [iY (iK 1 0)],iP 60] CT,af [jK kA,hH [iY (iK 1 0)],iP 60] CW,.o 61 (al (IntKind.i64.wrap m) m (i64_in _ aA aA)),iA (1+m) aA,af [jK kA,hH x,iP (1+m),iP 60] hR,ah 67 ((0:Int) != 0) aC,.u 4,ag 78 (decide ((0:Int)<2)) aC,iX 0 2 aA,.o 82 (al (IntKind.i64.wrap a) a (i64_in _ aA aA)),tT 84 (0<a) aA,iA (0+1) aA,.k [77,89,88,87,86,76,75,13,11,0,1] [],ag 78 (decide (((0+1):Int)<2)) aC,iX (0+1) 2 aA,.o 82 (al (IntKind.i64.wrap a) a (i64_in _ aA aA)),tF 84 (1<a) aA,.o 87 (al (IntKind.i64.wrap b) b (i64_in _ aA aA)),tF 89 (b<1) aA,iA (0+1) aA,.s (Sp.jE (Ux a b M) 0 M.length aA (λk hk ql=>by
    have zG:=(rJ.box k aA).len;have hv:=((rJ.box k aA).ok 0 aA).1;have hd:(iK 1 0).ic:=wc aC aC aC;have rX:=DU (M:=M) (d:=(iK 1 0)) k;exact iF (aa [tT 96 ((k:Int)<M.length) aA,iX (k:Int) (M.length) aA,ag 101 (((M.getD k []).length:Int)==1) (aY aA),iX 0 ((M.getD k []).length) aA,.c (r7 1 0 aO aA aA),.c (CL ((M.getD k []).getD 0 gZ) (iK 1 0) hv hd)]<|.w ((pv ((M.getD k []).getD 0 gZ) (iK 1 0))=true)
     (λhc=>by
      have jO:kS M (iK 1 0) (k+1)=kS M (iK 1 0) k+1:=by show(if _ then _ else _)=_;rw[bj hc]
      exact aa [ag 108 (pv ((M.getD k []).getD 0 gZ) (iK 1 0)) hc,iA ((kS M (iK 1 0) k:Int)+1) aA,iA ((k:Int)+1) aA]<|.e (ae [.o 16 (al (((kS M (iK 1 0) k)+1:Nat):Int) (kS M (iK 1 0) (k+1):Int) (by rw[jO]))]))
     (λhc=>by
      have jO:kS M (iK 1 0) (k+1)=kS M (iK 1 0) k:=by show(if _ then _ else _)=_;rw[bh hc]
      exact aa [tB 108 (aZ hc),iA ((k:Int)+1) aA]<|.e (ae [.o 16 (al (kS M (iK 1 0) k:Int) (kS M (iK 1 0) (k+1):Int) (by rw[jO]))]))) aD)
  (λhk=>by
    exact iF (ae [tF 96 ((M.length:Int)<M.length) aA]) aD) aG:jA 21 Tryz.f6 (Ux a b M 0) (.exit 2) ⟨120,true,[(16,.e (iP (kS M (iK 1 0) M.length:Int))),(13,.e (iP (0+1))),(89,.e (bP false)),(88,.e (iP 1)),(87,.e (iP b)),(86,.e (.v (.int .i8 b))),(77,.e (iP (0+1))),(76,.e (iP 2)),(75,.e (.sl true 2 1 λi_ j_=>[iP 0,iP 1].getD (i_*1+j_) (.v (.bool false)))),(11,.e (iW M)),(0,.e (.v (.int .i8 a))),(1,.e (.v (.int .i8 b)))],[]⟩) (ae [.o 16 (al 0 (kS M (iK 1 0) 0:Int) rfl)]),tF 114 ((kS M (iK 1 0) M.length:Int)<1) aA,iA ((0+1)+1) aA,ah 78 (decide ((((0+1)+1):Int)<2)) aC]<|rQ (bP (decide ((0+1)<=(M.length:Int)))) (bP true) (congrArg bP (bn aA))) 
def aeX(a b m:Int)(a1:-128<=a)(a2:a<=127)(b1:-128<=b)(b2:b<=127)(m1:0<=m)(m2:m<=255)(h:a<=b)(x:List Iv)(hX:E.le (.sl true 1 7 λi_ j_=>(iQ (Iv.mk (iK a 0) (iK b 0) false)).getD (i_*7+j_) (.v (.bool false))) (hH x))(M:List (List Iv))(hR:gW 26 [jK kA,hH x,iP (1+m),iP 60] (.ik [iW M,iP 0]))(c0:0<a)(c1:1<a)(hM:M.length<=8001):gW 6 [.v (.int .i8 a),.v (.int .i8 b),.v (.int .u8 m)] (bP true):=
 aj call6 func6 (aa [.c Bk,tF 23 (b<a) aA,af [iP 6,.v (.slice none 0 0)] Cb,.o 26 (al (IntKind.i64.wrap a) a (i64_in _ aA aA)),.c (r7 a 0 aO aA aA),.o 29 (al (IntKind.i64.wrap b) b (i64_in _ aA aA)),.c (r7 b 0 aO aA aA),.o 32 (.e hX:ai (.sl true 1 7 λi_ j_=>(iQ (Iv.mk (iK a 0) (iK b 0) false)).getD (i_*7+j_) (.v (.bool false))) (hH x)),.c (tJ 0 0 aC aC aC),.o 34 (.e (kT _):ai (.sl true 1 7 λi_ j_=>(iQ (iY (iK 0 0))).getD (i_*7+j_) (.v (.bool false))) (hH [iY (iK 0 0)])),.c (tJ 1 0 aC aC aC),.o 36 (.e (kT _):ai (.sl true 1 7 λi_ j_=>(iQ (iY (iK 1 0))).getD (i_*7+j_) (.v (.bool false))) (hH [iY (iK 1 0)])),af [jK kA,hH [iY (iK 0 0)],iP 60] CU,af [jK kA,hH [iY (iK 0 0)],iP 60] CS,af [jK kA,hH [iY (iK 1 0)],iP 60] CT,af [jK kA,hH [iY (iK 1 0)],iP 60] CW,.o 61 (al (IntKind.i64.wrap m) m (i64_in _ aA aA)),iA (1+m) aA,af [jK kA,hH x,iP (1+m),iP 60] hR,ah 67 ((0:Int) != 0) aC,.u 4,ag 78 (decide ((0:Int)<2)) aC,iX 0 2 aA,.o 82 (al (IntKind.i64.wrap a) a (i64_in _ aA aA)),tT 84 (0<a) aA,iA (0+1) aA,.k [77,89,88,87,86,76,75,13,11,0,1] [],ag 78 (decide (((0+1):Int)<2)) aC,iX (0+1) 2 aA,.o 82 (al (IntKind.i64.wrap a) a (i64_in _ aA aA)),tT 84 (1<a) aA,iA ((0+1)+1) aA,ah 78 (decide ((((0+1)+1):Int)<2)) aC]<|rQ (bP (decide (0<=(M.length:Int)))) (bP true) (congrArg bP (bn aA))) 
def aeY(a b m:Int)(a1:-128<=a)(a2:a<=127)(b1:-128<=b)(b2:b<=127)(m1:0<=m)(m2:m<=255)(h:a<=b)(x:List Iv)(hX:E.le (.sl true 1 7 λi_ j_=>(iQ (Iv.mk (iK a 0) (iK b 0) false)).getD (i_*7+j_) (.v (.bool false))) (hH x))(M:List (List Iv))(hR:gW 26 [jK kA,hH x,iP (1+m),iP 60] (.ik [iW M,iP 0]))(c0:b<0)(c1:b<1)(hM:M.length<=8001):gW 6 [.v (.int .i8 a),.v (.int .i8 b),.v (.int .u8 m)] (bP true):=
 aj call6 func6 (aa [.c Bk,tF 23 (b<a) aA,af [iP 6,.v (.slice none 0 0)] Cb,.o 26 (al (IntKind.i64.wrap a) a (i64_in _ aA aA)),.c (r7 a 0 aO aA aA),.o 29 (al (IntKind.i64.wrap b) b (i64_in _ aA aA)),.c (r7 b 0 aO aA aA),.o 32 (.e hX:ai (.sl true 1 7 λi_ j_=>(iQ (Iv.mk (iK a 0) (iK b 0) false)).getD (i_*7+j_) (.v (.bool false))) (hH x)),.c (tJ 0 0 aC aC aC),.o 34 (.e (kT _):ai (.sl true 1 7 λi_ j_=>(iQ (iY (iK 0 0))).getD (i_*7+j_) (.v (.bool false))) (hH [iY (iK 0 0)])),.c (tJ 1 0 aC aC aC),.o 36 (.e (kT _):ai (.sl true 1 7 λi_ j_=>(iQ (iY (iK 1 0))).getD (i_*7+j_) (.v (.bool false))) (hH [iY (iK 1 0)])),af [jK kA,hH [iY (iK 0 0)],iP 60] CU,af [jK kA,hH [iY (iK 0 0)],iP 60] CS,af [jK kA,hH [iY (iK 1 0)],iP 60] CT,af [jK kA,hH [iY (iK 1 0)],iP 60] CW,.o 61 (al (IntKind.i64.wrap m) m (i64_in _ aA aA)),iA (1+m) aA,af [jK kA,hH x,iP (1+m),iP 60] hR,ah 67 ((0:Int) != 0) aC,.u 4,ag 78 (decide ((0:Int)<2)) aC,iX 0 2 aA,.o 82 (al (IntKind.i64.wrap a) a (i64_in _ aA aA)),tF 84 (0<a) aA,.o 87 (al (IntKind.i64.wrap b) b (i64_in _ aA aA)),tT 89 (b<0) aA,iA (0+1) aA,.k [77,89,88,87,86,76,75,13,11,0,1] [],ag 78 (decide (((0+1):Int)<2)) aC,iX (0+1) 2 aA,.o 82 (al (IntKind.i64.wrap a) a (i64_in _ aA aA)),tF 84 (1<a) aA,.o 87 (al (IntKind.i64.wrap b) b (i64_in _ aA aA)),tT 89 (b<1) aA,iA ((0+1)+1) aA,ah 78 (decide ((((0+1)+1):Int)<2)) aC]<|rQ (bP (decide (0<=(M.length:Int)))) (bP true) (congrArg bP (bn aA))) 
def MP{a b:Int}(h:a<=b):(a:Rat)<=(b:Rat):=Rat.intCast_le_intCast.2 h
def aep(a b m:Int)(a1:-128<=a/\a<=127)(b1:-128<=b/\b<=127)(m1:0<=m/\m<=255):gW 6 [.v (.int .i8 a),.v (.int .i8 b),.v (.int .u8 m)] (bP true):=by
 obtain⟨a1,a2⟩:=a1;obtain⟨b1,b2⟩:=b1;obtain⟨m1,m2⟩:=m1;by_cases h:b<a
 .exact ae0 a b m a1 a2 b1 b2 m1 m2 h
 have h:a<=b:= aA ;have va:(iK a 0).ic:=wc aA aC aC;have vb:(iK b 0).ic:=wc aA aC aC;have hb:kG 1 [(⟨iK a 0,iK b 0,false⟩:Iv)]:=Je (.inr ⟨rfl,va,vb,(s7 _ _).2 (by rw[BH,BH];exact MP h)⟩) rfl;have hR:=ahD kA [(⟨iK a 0,iK b 0,false⟩:Iv)] Ff hb (1+m) 60 aC aC aA aA;have hX:E.le (.sl true 1 7 λi_ j_=>(iQ (Iv.mk (iK a 0) (iK b 0) false)).getD (i_*7+j_) (.v (.bool false))) (hH [(⟨iK a 0,iK b 0,false⟩:Iv)]):=kT _;have hh:∀ z:Int,a<=z->z<=b->oe [(⟨iK a 0,iK b 0,false⟩:Iv)] (z:Rat):=λz h1 h2=>.inr ⟨by show(iK a 0).q<=_;rw[BH];exact MP h1,by show _<=(iK b 0).q;rw[BH];exact MP h2⟩
 have e0:((0:Int):Rat)=0:=rfl;have e1:((1:Int):Rat)=1:=rfl;unfold JA at hR;by_cases hs:F8 (pL kA [(⟨iK a 0,iK b 0,false⟩:Iv)] (1+m) 60)=true
 .rw [bj hs]at hR;have hM:(wX (pL kA [(⟨iK a 0,iK b 0,false⟩:Iv)] (1+m) 60)).length<=8001:=by rw[FW];exact WV _ _ _ _
  by_cases c0:0<a
  .by_cases c1:1<a
   .exact aeX a b m a1 a2 b1 b2 m1 m2 h _ hX _ hR c0 c1 hM
   .exact ae2 a b m a1 a2 b1 b2 m1 m2 h _ hX _ hR c0 aA aA (Ng hb _ OX (by have:=hh 1 aA aA;rwa[e1]at this) (BH 1)) hM
  .by_cases d0:b<0
   .exact aeY a b m a1 a2 b1 b2 m1 m2 h _ hX _ hR d0 aA hM
   .have g0:=hh 0 aA aA ;rw[e0]at g0;have l0:=Ng hb (1+m) OW g0 (BH 0);by_cases d1:b<1
    .exact ae3 a b m a1 a2 b1 b2 m1 m2 h _ hX _ hR aA aA l0 d1 hM
    .have g1:=hh 1 aA aA ;rw[e1]at g1;exact aeZ a b m a1 a2 b1 b2 m1 m2 h _ hX _ hR aA aA l0 aA aA (Ng hb (1+m) OX g1 (BH 1)) hM (ae8 hb (1+m) hs g0 g1)
 .rw [bh hs]at hR;exact ae1 a b m a1 a2 b1 b2 m1 m2 h _ hX hR
open Go.ChangeShapes Go.WideShapes Go.ChangeAt
def By:Array Value:=#[.int .i8 0,.int .i8 0,.int .u8 0]
set_option maxRecDepth 100000 in
def agu(H:Type)(enc:TypeId×Value->H)(W:World)(base:Nat)(args:Array Value)(ds gs:List (DataW H))(before:List MemPlace)
 (mm:∀ (j:Nat) t v,Tryz.f6.params[j]? = some t->args[j]? = some v->Value.okWide prog W .any base t v)
 (hW:DataW.Whole enc prog Tryz.f6.params.toList Rows.orbitLogisticSpec.vars false W args.toList ds gs before) (hL:laidMetH prog Rows.orbitLogisticRow.laid W):
 Calls prog 6 args W λe W'=>∃ v,e = .returned v/\Rows.orbitLogisticSpec.post enc prog Tryz.f6 false true false false W args v W':=by
 have hW':=hW;obtain⟨p,q,Cn,hV,rfl,hfz,hnd⟩:=hW;have hA:DataW.TrodAll enc prog W 0 (λ_=>true) true Tryz.f6.params.toList args.toList ds p:=Cn;rw[Tryz.params6]at hA mm;obtain⟨v0,vs0,d0,ds0,p0,q0,CE,rfl,rfl,h0,Cn⟩:=trodAll_cons hA;obtain⟨v1,vs1,d1,ds1,p1,q1,rfl,rfl,rfl,h1,hA1⟩:=trodAll_cons Cn;obtain⟨v2,vs2,d2,ds2,p2,q2,rfl,rfl,rfl,h2,hA2⟩:=trodAll_cons hA1;obtain⟨rfl,rfl,rfl⟩:=trodAll_nil hA2;obtain rfl:args = #[v0,v1,v2]:=by cases args;simp_all
 obtain⟨rfl,rfl⟩:=trodVars_none hV;obtain⟨x0,rfl,rfl,rfl,b0⟩:=open_int underlying22 (mm 0 22 v0 rfl rfl) h0;obtain⟨x1,rfl,rfl,rfl,b1⟩:=open_int underlying22 (mm 1 22 v1 rfl rfl) h1;obtain⟨x2,rfl,rfl,rfl,b2⟩:=open_int underlying5 (mm 2 5 v2 rfl rfl) h2;clear Cn;have jX:=(aep x0 x1 x2 (OR b0) (OR b1) (OR b2)).run W noB [.int .i8 x0,.int .i8 x1,.int .u8 x2] (aje rfl hL) (λ_ h=>h.elim) (.cons (.v _) (.cons (.v _) (.cons (.v _) (.nil _ _ _))));refine jX.mono λr W' ⟨v,hr,hb,rj⟩=>?_
 obtain rfl:=iC.kD rj;subst hr;refine⟨_,rfl,_,_,_,[],[]++([]++([])),[],hW',?_,?_,rfl,hb.frame _,λh=>by cases h⟩
 .exact trodAll_mk1 (shut_bool underlying4 _)
 .exact ⟨[],_,Below.trod M4 aD (cK aD) h0 hb (λ_ h=>by cases h),⟨[],_,Below.trod M4 aD (cK aD) h1 hb (λ_ h=>by cases h),trodAll_mk1 (Below.trod M4 aD (cK aD) h2 hb (λ_ h=>by cases h)),rfl⟩,rfl⟩
def agx(os:Os):laidMet prog Rows.orbitLogisticRow.laid ((M5 os By).forCall (λ_ _=>0) ⟨#[],By,[]⟩).memory:=
 laidMet_of_run' 8 aD aD 
def agz(os:Os){H:Type}(enc:TypeId×Value->H):∃ places,DataW.whole enc prog ((M5 os By).forCall (λ_ _=>0) ⟨#[],By,[]⟩).memory Tryz.f6.params.toList Rows.orbitLogisticSpec.vars false By.toList 8=some ([.lit (.int .i8 0),.lit (.int .i8 0),.lit (.int .u8 0)],[],places):=
 ⟨[],aD⟩
set_option maxRecDepth 100000 in
def agw(os:Os)(started:os.Started)(H:Type)(enc:TypeId×Value->H)(F:Stop.Interp):
  ReturnsInHanded {} Tryz.checked os 6 .any ((OpenSpec.ofChange Rows.orbitLogisticSpec).preRow enc prog Tryz.f6 Rows.orbitLogisticRow.domain false Rows.orbitLogisticRow.laid) (((OpenSpec.ofChange Rows.orbitLogisticSpec).at F).post enc prog Tryz.f6 false true false false):=by
 obtain⟨places,hx⟩:=agz os enc;refine returnsInHanded_of_row (C:=Tryz.checked) (s:=OpenSpec.ofChange Rows.orbitLogisticSpec) own started aD func6
  (witness_row_at (enc:=enc) (C:=Tryz.checked) false (M5 os By) By rfl aD aD aD 
   (OpenSpec.preRow_of_cond 8 hx aD (λk hk=>by cases hk) aD (agx os))) ?_
 intro W base args ds gs before mm hW _ _ _ hL _ _;exact agu H enc W base args ds gs before mm hW hL
set_option maxHeartbeats 100000000 in
def agv:joinedFacts prog 6 Tryz.f6 (OpenSpec.ofChange Rows.orbitLogisticSpec).bare Rows.orbitLogisticRow=true:=by
 unfold joinedFacts;simp only[bF]
 and_intros<;>decide +kernel
def agA:Rows.OrbitLogisticSaid:=
 OpenClaim.holds_of_cond 6 Tryz.f6 rfl rfl rfl rfl rfl rfl rfl ⟨rfl,rfl,rfl,rfl,rfl⟩ rfl rfl rfl rfl rfl aD func6 agv
  (cK aD) (by unfold Func.isWrapper;first|(rw[bj aJ];kernel_rfl)|(rw[bh aJ];exact⟨rfl,rfl⟩))
  (λos started H enc _ F=>by rw[OpenClaim.pre_eq_preRow];exact agw os started H enc F)
def agy (f:FuncId) (fn:Func) (hf:Tryz.pinned.checked.prog.funcNamed "flowpipe/flowpipelaw44.OrbitLogistic" = some f) (hfn:Tryz.pinned.checked.prog.funcs[f]? = some fn):
 false=Tryz.pinned.checked.prog.looks []/\∀ (j:Nat) t,fn.params[j]? = some t->Tryz.pinned.checked.prog.wantsStandIn t=false:=by
 obtain rfl:f=6:=gS ((show prog.funcNamed "flowpipe/flowpipelaw44.OrbitLogistic" = some 6 by kernel_rfl).symm.trans hf) |>.symm
 obtain rfl:fn=Tryz.f6:=(gS (func6.symm.trans hfn)).symm;refine⟨aD,λj t ht=>?_⟩;rw[Tryz.params6]at ht;have:t=22\/t=5:=by
  have:=dI ht;simp only[fV,cW,List.not_mem_nil,or_false]at this;rcases this with h|h|h<;>subst h<;>simp
 rcases this with rfl|rfl
 .exact (show prog.wantsStandIn 22=false by kernel_rfl)
 .exact (show prog.wantsStandIn 5=false by kernel_rfl)
theorem olog_card:Rows.OrbitLogisticCardSaid:=
 Claim7.holds_tied_plain_at .later [] _ _ _ _ agA (λ_ h=>by cases h) aD (λ_ h=>by cases h) orbitLogistic_row_tie rfl ⟨rfl,rfl⟩ aD rfl agy (acr abF rfl)
end Go.Proofs.YtjkmahljfblobaaGreatDoor
