/- Lemmas that the last file uses. -/
import Derived.Test.YtgdahmmlddfimaaGreatDoorM03
set_option linter.unusedSimpArgs false
set_option linter.unusedVariables false
set_option linter.defProp false
set_option maxHeartbeats 4000000
open Go.Proofs.Tryz
namespace Go.Proofs.YtgdahmmlddfimaaGreatDoor
open Go.RowKit Fp Pu
def LN:Iv:=⟨iA,iA,false⟩
def anh:LN.ib:=.inr ⟨rfl,su,su,aQ⟩
abbrev kg(n:Nat):Iv:=mJ (ja (n:Int))
def my(p:Nat)(T:Nat->Iv)(a:Nat):Nat->Iv
 | 0=>T a
 |n+1=>jS (my p T a n) (T (a+n+1)) p
def pL(p:Nat)(s:Iv)(T:Nat->Iv)(a:Nat):Nat->Iv
 | 0=>s
 |n+1=>sJ (pL p s T a n) (T (a+n)) p
def oj(x:Iv)(k:Nat):List Iv:=x::List.replicate k LN
structure kQ(n:Nat)(a:List Iv):Prop where
 len:a.length=n
 ok:mH a
def kt(f:Nat->Iv)(n:Nat):List Iv:=(List.range n).map f
def D6(a b:List Iv)(p:Nat):List Iv:=kt (λi=>jS (a.getD i gY) (b.getD i gY) p) a.length
def FD(a b:List Iv)(p:Nat):List Iv:=kt (λi=>sJ (a.getD i gY) (b.getD i gY) p) a.length
def E9(a:List Iv):List Iv:=kt (λi=>qh (a.getD i gY)) a.length
def tK(a b:List Iv)(p:Nat):List Iv:=kt (λk=>my p (λi=>iH (a.getD i gY) (b.getD (k-i) gY) p) 0 k) a.length
def je(f:Nat->List Iv->Iv):Nat->List Iv
 | 0=>[]
 |k+1=>je f k++[f k (je f k)]
def rZ(a b:List Iv)(p k:Nat)(out:List Iv):Iv:=jt (pL p (a.getD k gY) (λi=>iH (out.getD i gY) (b.getD (k-i) gY) p) 0 k) (b.getD 0 gY) p
def Bd(a b:List Iv)(p:Nat):List Iv:=je (rZ a b p) a.length
def pF(a:List Iv)(p:Nat):Nat->List Iv
 | 0=>a
 |k+1=>tK (pF a p k) a p
def Fl(a:List Iv)(n p:Nat):List Iv:=if n=0 then kt (λi=>iH (kg 0) (a.getD i gY) p) a.length else pF a p (n-1)
def tR(a:List Iv)(n p:Nat):List Iv:=(Fl a n p).set 0 (na (a.getD 0 gY) n p)
noncomputable def qD(a:List Iv)(p k:Nat)(out:List Iv):Iv:=
 if k=0 then vH (a.getD 0 gY) p else jt (my p (λi=>iH (iH (kg i) (a.getD i gY) p) (out.getD (k-i) gY) p) 1 (k-1)) (kg k) p
noncomputable def Bj(a:List Iv)(p:Nat):List Iv:=je (qD a p) a.length
def si(a out:List Iv)(p k:Nat):Nat->Iv
 | 0=>kg 0
 |n+1=>jS (si a out p k n) (iH (iH (kg (n+1)) (out.getD (n+1) gY) p) (a.getD (k-(n+1)) gY) p) p
noncomputable def nh(a:List Iv)(p k:Nat)(out:List Iv):Iv:=
 if k=0 then vI (a.getD 0 gY) p else jt (sJ (a.getD k gY) (jt (si a out p k (k-1)) (kg k) p) p) (a.getD 0 gY) p
noncomputable def EZ(a:List Iv)(p:Nat):List Iv:=je (nh a p) a.length
def rK(a:List Iv)(p k:Nat)(f:List Iv):Iv:=jt (my p (λi=>iH (iH (kg i) (a.getD i gY) p) (f.getD (k-i) gY) p) 1 (k-1)) (kg k) p
noncomputable def mf(a:List Iv)(p:Nat):Nat->List Iv×List Iv
 | 0=>([vJ (a.getD 0 gY) p],[vG (a.getD 0 gY) p])
 |k+1=>((mf a p k).1++[rK a p (k+1) (mf a p k).2],(mf a p k).2++[qh (rK a p (k+1) (mf a p k).1)])
noncomputable def oD(a:List Iv)(p k:Nat)(out:List Iv):Iv:=
 if k=0 then pM (a.getD 0 gY) p else jt (pL p (a.getD k gY) (λi=>iH (out.getD i gY) (out.getD (k-i) gY) p) 1 (k-1)) (mr (pM (a.getD 0 gY) p) 1) p
noncomputable def Ce(a:List Iv)(p:Nat):List Iv:=je (oD a p) a.length
noncomputable def nN(o:np)(a b:List Iv)(p:Nat):List Iv:=
 if o.kind=3 then D6 a b p else if o.kind=4 then FD a b p else if o.kind=5 then tK a b p else if o.kind=6 then Bd a b p
 else if o.kind=7 then E9 a else if o.kind=8 then tR a o.n p else if o.kind=9 then Bj a p else if o.kind=10 then EZ a p
 else if o.kind=11 then(mf a p (a.length-1)).1 else if o.kind=12 then(mf a p (a.length-1)).2 else if o.kind=13 then Ce a p else[]
noncomputable def rJ(o:np)(l:List (List Iv))(k p:Nat):List Iv:=if o.kind=1 then oj (rN o.cn o.cd p) k else nN o (l.getD o.a []) (l.getD (if yG o then o.b else o.a) []) p
noncomputable def iU(gX:List np)(ik:List (List Iv))(k p:Nat):Nat->List (List Iv)
 | 0=>ik
 |i+1=>iU gX ik k p i++[rJ (gX.getD i iE) (iU gX ik k p i) k p]
noncomputable def r6(t:qa)(ik:List (List Iv))(k p:Nat):List (List Iv):=t.iu.map λj=>(iU t.gX ik k p t.gX.length).getD j []
def re(s:jM)(x:List (List Iv))(k:Nat):List (List Iv):=x.map (λc=>c.take (k+1))++s.params.map λa=>oj a k
noncomputable def yh(s:jM)(x:List (List Iv))(p n i:Nat):Iv:=jt (((r6 s.tape (re s x n) n p).getD i []).getD n gY) (kg (n+1)) p
noncomputable def ji(s:jM)(x:List Iv)(p:Nat):Nat->List (List Iv)
 | 0=>x.map λy=>[y]
 |n+1=>(List.range x.length).map λi=>(ji s x p n).getD i []++[yh s (ji s x p n) p n i]
def mH.nil:mH []:=λ_=>mg
def getD_map{α:Type}{n i:Nat}{f:Nat->α}{d:α}(h:i<n):((List.range n).map f).getD i d=f i:=by simp[bw,h]
def Gt{f:Nat->Iv}{n i:Nat}(h:i<n):(kt f n).getD i gY=f i:=getD_map h
def wT(f:Nat->Iv)(n:Nat):(kt f n).length=n:=by simp[kt]
def Gu{f:Nat->Iv}{n:Nat}(h:∀ i,i<n->(f i).ib):kQ n (kt f n):=⟨wT _ _,λi=>by
 by_cases hi:i<n
 .rw [Gt hi];exact h i hi
 .rw [bw,ch (by rw[wT];omega)];exact mg⟩
def zo(f:Nat->List Iv->Iv):∀ n,(je f n).length=n
 | 0=>rfl
 |n+1=>by simp[je,zo f n]
def B3{f:Nat->List Iv->Iv}(n:Nat)(h:∀ k l,k<n->kQ k l->(f k l).ib):kQ n (je f n):=by
 induction n with
 |zero=>exact⟨rfl,mH.nil⟩
 |succ n ih=>
  have:=ih λk l hk=>h k l aE 
  exact⟨zo _ _,this.ok.push (h n _ aE this)⟩
def apO(k:Nat):mH (List.replicate k LN):=λi=>by
 rw[bw,eZ];split
 .exact anh
 .exact mg
def Tx{x:Iv}(hx:x.ib)(k:Nat):kQ (k+1) (oj x k):=⟨by simp[oj],(mH.push mH.nil hx).append (apO k)⟩
def zC(n:Nat)(h:n<4294967296):(kg n).ib:=wA (EU n h)
section
variable {p:Nat} (hp:1<=p) (ic:p<=4096)
include hp ic
def Q6{x y:Iv}(hx:x.ib)(hy:y.ib):(sJ x y p).ib:=rU hx (Dz hy) hp ic
def IK{T:Nat->Iv}{a:Nat}:∀ n,(∀ i,a<=i->i<=a+n->(T i).ib)->(my p T a n).ib
 | 0,h=>h a (bu _) (bu _)
 |n+1,h=>rU (IK n λi h1 h2=>h i h1 aE) (h _ aE aE) hp ic
def KZ{s:Iv}(hs:s.ib){T:Nat->Iv}{a:Nat}:∀ n,(∀ i,a<=i->i<a+n->(T i).ib)->(pL p s T a n).ib
 | 0,_=>hs
 |n+1,h=>Q6 hp ic (KZ hs n λi h1 h2=>h i h1 aE) (h _ aE aE)
def ab7{n:Nat}{a b:List Iv}(ha:kQ n a)(hb:kQ n b):kQ n (D6 a b p):=ha.len▸Gu λi _=>rU (ha.ok i) (hb.ok i) hp ic
def aoa{n:Nat}{a b:List Iv}(ha:kQ n a)(hb:kQ n b):kQ n (FD a b p):=ha.len▸Gu λi _=>Q6 hp ic (ha.ok i) (hb.ok i)
end
def akU{n:Nat}{a:List Iv}(ha:kQ n a):kQ n (E9 a):=ha.len▸Gu λi _=>Dz (ha.ok i)
section
variable {p:Nat} (hp:1<=p) (ic:p<=4096)
include hp ic
def X7{n:Nat}{a:List Iv}(ha:kQ n a)(b:List Iv):kQ n (tK a b p):=ha.len▸Gu λi _=>IK hp ic _ λ_ _ _=>oL _ _ hp ic
def afx{n:Nat}{a:List Iv}(ha:kQ n a)(b:List Iv):kQ n (Bd a b p):=ha.len▸B3 _ λ_ _ _ _=>qS _ _ hp ic
def PI{n:Nat}{a:List Iv}(ha:kQ n a):∀ k,kQ n (pF a p k)
 | 0=>ha
 |k+1=>X7 hp ic (PI ha k) a
def alK{n:Nat}{a:List Iv}(ha:kQ n a)(k:Nat):kQ n (Fl a k p):=by
 unfold Fl;split
 .exact ha.len▸Gu λi _=>oL _ _ hp ic
 .exact PI hp ic ha _
end
def kQ.set{n:Nat}{a:List Iv}(ha:kQ n a)(i:Nat){x:Iv}(hx:x.ib):kQ n (a.set i x):=⟨by simp[ha.len],λj=>by
 rw[bw,List.getElem?_set];split
 .split
  .exact hx
  .exact mg
 .have:=ha.ok j;rwa[bw]at this⟩
section
variable {p:Nat} (hp:1<=p) (ic:p<=4096)
include hp ic
def alL{n:Nat}{a:List Iv}(ha:kQ n a)(k:Nat):kQ n (tR a k p):=(alK hp ic ha k).set 0 (Zb (ha.ok 0) k hp ic)
def agf{n:Nat}{a:List Iv}(ha:kQ n a):kQ n (Bj a p):=ha.len▸B3 _ λk l _ _=>by
 unfold qD;split
 .exact Nu _ _
 .exact qS _ _ hp ic
def aj7{n:Nat}{a:List Iv}(ha:kQ n a):kQ n (EZ a p):=ha.len▸B3 _ λk l _ _=>by
 unfold nh;split
 .exact Nv _ _
 .exact qS _ _ hp ic
def an8{n:Nat}{a:List Iv}(ha:kQ n a):kQ n (Ce a p):=ha.len▸B3 _ λk l _ _=>by
 unfold oD;split
 .exact Gn _ _
 .exact qS _ _ hp ic
def Qf(a f:List Iv)(k:Nat):(rK a p k f).ib:=qS _ _ hp ic
def IB(a:List Iv):∀ k,kQ (k+1) (mf a p k).1/\kQ (k+1) (mf a p k).2
 | 0=>⟨⟨rfl,mH.push mH.nil (Uz _ _)⟩,⟨rfl,mH.push mH.nil (Uv _ _)⟩⟩
 |k+1=>by
  obtain⟨h1,h2⟩:=IB a k;exact⟨⟨by simp[mf,h1.len],h1.ok.push (Qf hp ic _ _ _)⟩,⟨by simp[mf,h2.len],h2.ok.push (Dz (Qf hp ic _ _ _))⟩⟩
def acf(o:np){n:Nat}{a b:List Iv}(ha:kQ (n+1) a)(hb:kQ (n+1) b)(hk:3<=o.kind)(xM:o.kind<=13):kQ (n+1) (nN o a b p):=by
 have hl:a.length-1+1=n+1:=by rw[ha.len];rfl
 unfold nN;split
 .exact ab7 hp ic ha hb
 split
 .exact aoa hp ic ha hb
 split
 .exact X7 hp ic ha b
 split
 .exact afx hp ic ha b
 split
 .exact akU ha
 split
 .exact alL hp ic ha _
 split
 .exact agf hp ic ha
 split
 .exact aj7 hp ic ha
 split
 .exact hl▸(IB hp ic a _).1
 split
 .exact hl▸(IB hp ic a _).2
 split
 .exact an8 hp ic ha
 .omega
def wM(n:Nat)(l:List (List Iv)):Prop:=∀ i,i<l.length->kQ n (l.getD i [])
end
def wM.push{n:Nat}{l:List (List Iv)}(h:wM n l){y:List Iv}(hy:kQ n y):wM n (l++[y]):=λi hi=>by
 rw[bw,eU];split
 .rename_i h1;have:=h i h1;rwa[bw]at this
 .obtain rfl:i=l.length:=by simp at hi;omega
  simpa using hy
section
variable {p:Nat} (hp:1<=p) (ic:p<=4096)
include hp ic
end
def IA{p:Nat}(gX:List np)(ik:List (List Iv))(k:Nat):∀ i,(iU gX ik k p i).length=ik.length+i
 | 0=>rfl
 |i+1=>by simp only[iU,cz,IA gX ik k i,cY,aqA];omega
section
variable {p:Nat} (hp:1<=p) (ic:p<=4096)
include hp ic
def alb{o:np}{m n:Nat}(h:oh o m){l:List (List Iv)}(hl:wM (n+1) l)(hm:l.length=m):kQ (n+1) (rJ o l n p):=by
 have h3:=h.k3;have ha:=h.a;have hb:=h.b;unfold rJ;split
 .exact Tx (QQ _ _ hp ic) n
 .rename_i hk;rw[bj hk]at ha;refine acf hp ic o (hl _ aE) (hl _ ?_) (h3.resolve_left hk) h.xY;unfold yG;by_cases h6:o.kind<=6
  .rw [bk ⟨h3.resolve_left hk,h6⟩]at hb;simp only[h6,fI,bJ];omega
  .simp only[h6,gQ,bK,bC];omega
def LI{t:qa}(h:zJ t){ik:List (List Iv)}{n:Nat}(hi:wM (n+1) ik)(hl:ik.length=t.ik):∀ i,i<=t.gX.length->wM (n+1) (iU t.gX ik n p i)
 | 0,_=>hi
 |i+1,hle=>(LI h hi hl i aE).push (alb hp ic (h.op i aE) (LI h hi hl i aE) (by rw[IA,hl]))
def agv{t:qa}(h:zJ t){ik:List (List Iv)}{n:Nat}(hi:wM (n+1) ik)(hl:ik.length=t.ik):wM (n+1) (r6 t ik n p):=λi iC=>by
 unfold r6 at iC ⊢;have Oz:i<t.iu.length:=by simpa using iC
 have:=h.out i Oz;rw[bw,cF,bF Oz];rw[bw,bF Oz]at this;exact LI hp ic h hi hl _ (bu _) _ (by rw[IA,hl];exact this)
end
def afh:jz 1=0:= aQ 
def MX(e:Int):canon false 1 e=⟨false,1,e⟩:=by
 unfold canon;rw[bj aG,afh];simp
def iS(k:Int):Dy:=⟨false,1,k⟩
def Rk{k:Int}(h1:-100<=k)(h2:k<=100):mT (iS k):=.inr ⟨by show ie 1<=4096;rw[yI];decide,by show -16384<=k;omega,by show k<=16384;omega,by show(ie 1:Int)+k<=16384;rw[yI];omega⟩
def IQ{k:Int}(h1:-100<=k)(h2:k<=100):(iS k).ib:=⟨by have:=rY false 1 k;rwa[MX]at this,Rk h1 h2⟩
def Rl(k:Int):¬(iS k).iI<0:=by
 rw[(sI _).2,pv];show ¬(if false=true then _ else((1:Nat):Rat)*P2 k)<0;rw[bj aG];have:=mF k
 grind
def aaG{d:Dy}(h:¬d.iI<0):0<=d.q:=by
 rw[(sI d).2]at h
 grind
noncomputable def sM(s:jM)(x:List Iv)(h:Dy)(p:Nat)(k:Int):Bool:=sB x (iS k)&&s7 s x h (sO x (iS k)) p
def AG(d:Dy):Dy:=jC (canon d.neg d.m (d.e + -3))
def QU(d:Dy):Int:=kC (canon d.neg d.m (d.e + -3))
def sW(x:List Iv)(p:Nat):Dy:=if IX x p then og x p x.length else iA
noncomputable def lQ(s:jM)(x:List Iv)(h:Dy)(b:List Iv)(p:Nat):List Iv:=
 if lG s x h b p=[]then[]else
 if IX (nK x (lG s x h b p)) p=false\/(sW (nK x (lG s x h b p)) p).iI=0 then nK x (lG s x h b p)else
 if QU (sW (nK x (lG s x h b p)) p)≠0 then nK x (lG s x h b p)else
 if sB (nK x (lG s x h b p)) (AG (sW (nK x (lG s x h b p)) p))then sO (nK x (lG s x h b p)) (AG (sW (nK x (lG s x h b p)) p))else nK x (lG s x h b p)
noncomputable def lM(s:jM)(x:List Iv)(h:Dy)(p:Nat):Nat->List Iv
 | 0=>x
 |j+1=>lQ s x h (lM s x h p j) p
def Z7(d:Dy):(AG d).ib:=F2 (rY _ _ _)
def Z6{d:Dy}(h:0<=d.q):0<=(AG d).q:=by
 unfold AG jC;split
 .rw [qy];rw[pv]at h;have p1:=mF d.e;have p2:=mF (d.e + -3);have m0:(0:Rat)<=(d.m:Rat):=by exact_mod_cast bS d.m
  split
  .rename_i hn;rw[bk hn]at h;have hm:(d.m:Rat)*P2 d.e=0:=by
    have:=b6 m0 (bN p1)
    grind
   have yX:(d.m:Rat)=0:=by
    rcases Rat.mul_eq_zero.1 hm with q|q
    .exact q
    .grind
   rw[yX]
   grind
  .exact b6 m0 (bN p2)
 .rw [uD];exact cg
def abC(x:List Iv)(p:Nat):∀ k,0<=(og x p k).q
 | 0=>by show 0<=iA.q;rw[uD];exact cg
 |k+1=>by
  have ih:=abC x p k;show 0<=(if 0<iL (pd (x.getD k gY) p) (og x p k)then pd (x.getD k gY) p else og x p k).q;split
  .rename_i h;have:¬iL (pd (x.getD k gY) p) (og x p k)<=0:= aE ;rw[oY]at this
   grind
  .exact ih
def abD(x:List Iv)(p:Nat):0<=(sW x p).q:=by
 unfold sW;split
 .exact abC x p _
 .rw [uD];exact cg
def alQ{d:Dy}(h:0<=d.q):¬d.iI<0:=by
 rw[(sI d).2]
 grind
def D0{s:jM}{x b:List Iv}{h:Dy}{p n:Nat}(hx:kG n x)(hp:1<=p)(ic:p<=4096)(ju:lQ s x h b p≠[]):kG n (lQ s x h b p):=by
 unfold lQ at ju ⊢;split at ju
 .exact absurd rfl ju
 .rename_i h1;rw[bj h1];have hh:=Wo hx (O6 hx hp ic h1);split
  .exact hh
  .split
   .exact hh
   .split
    .rename_i hg;exact NI hh (Z7 _) (Z6 (abD _ _)) hg
    .exact hh
def Sg(a b:List Iv)(g:FuncId)(cap:List E)(i:Nat):PS:=⟨32,false,[(17,.e (iP i)),(16,.e (iP a.length)),(15,.e (ig a)),(1,.e (ig b)),(2,.e (.fn g cap))],[]⟩
def Sf(a b:List Iv)(g:FuncId)(cap:List E)(N:Nat)(i:Nat):PS:=⟨32,false,[(17,.e (iP i)),(16,.e (iP a.length)),(15,.e (ig a)),(1,.e (ig b)),(2,.e (.fn g cap))],[]⟩
def Sj(x:List Iv)(d:Dy)(i:Nat):PS:=⟨60,true,[(6,.own 6),(28,.e (iP i)),(27,.e (iP x.length)),(26,.e (ig x)),(3,.box 3 0)],[(6,.row true 39 i 7 (iM ((List.range i).map (λj_=>rB (x.getD j_ gY) d)))),(3,.cells 31 (ix d))]⟩
def Sh(x:List Iv)(d:Dy)(N:Nat)(i:Nat):PS:=⟨60,true,[(6,.own 6),(28,.e (iP i)),(27,.e (iP x.length)),(26,.e (ig x)),(3,.box 3 0)],[(6,.row true 39 i 7 (iM ((List.range i).map (λj_=>rB (x.getD j_ gY) d)))),(3,.cells 31 (ix d))]⟩
def Si(x:List Iv)(d:Dy)(N:Nat)(i:Nat):PS:=⟨60,true,[(6,.own 6),(28,.e (iP i)),(27,.e (iP x.length)),(26,.e (ig x)),(3,.box 3 0)],[(6,.row true 39 i 7 (iM ((List.range i).map (λj_=>rB (x.getD j_ gY) d)))),(3,.cells 31 (ix d))]⟩
def Sk(a b:List Iv)(i:Nat):PS:=⟨30,true,[(5,.own 5),(13,.e (iP i)),(12,.e (iP a.length)),(0,.e (ig a)),(1,.e (ig b))],[(5,.row true 39 i 7 (iM ((List.range i).map (λj_=>qI (a.getD j_ gY) (b.getD j_ gY)))))]⟩
def Sx(x:List Iv)(p:Nat)(i:Nat):PS:=⟨42,true,[(22,.e (iP i)),(21,.e (iP x.length)),(20,.e (ig x)),(6,.box 6 0),(4,.box 4 0),(1,.e (iP p))],[(6,.cells 31 (ix (og x p i))),(4,.cells 31 ar)]⟩
def Sw(x:List Iv)(p:Nat)(N:Nat)(i:Nat):PS:=⟨42,true,[(22,.e (iP i)),(21,.e (iP x.length)),(20,.e (ig x)),(6,.box 6 0),(4,.box 4 0),(1,.e (iP p))],[(6,.cells 31 (ix (og x p i))),(4,.cells 31 ar)]⟩
def adt(x:Iv)(hx:x.ib)(xa:x.all=false):gV 181 [ij x] (bP false):=
 ak call181 func181 (af [ai 4 x.all xa,.c (se x aF)]) 
def vC(b:List Iv)(h1:1<=b.length)(h8:b.length<=8)(hb:qP b):gV 106 [ig b] (bP true):=
 ak call106 func106 (af [tT 5 (1<=(b.length:Int)) aE,tT 9 ((b.length:Int)<=8) aE,.c (Di true _ _ 181 [] (λ_=>false) (λi hi=>adt _ (hb i hi).1 (hb i hi).2) aE (λ_ _=>rfl):gV 53 [ig b,.fn 181 []] _)]) 
def SI(a b:List Iv)(a1:1<=a.length)(a8:a.length<=8)(hl:b.length=a.length)(ha:qP a)(hb:qP b):gV 151 [ig a,ig b] (bP true):=
 ak call151 func151 (af [.c (vC a aE aE aF),.c (vC b aE aE aF),ah 16 ((a.length:Int)==b.length) (PR aE)]) 
def acu(a b:List Iv)(g:FuncId)(cap:List E)(f:Nat->Bool)(hl:b.length=a.length)(h8:a.length<=1000)(hp:∀ i,i<a.length->gV g ((ij (a.getD i gY))::(ij (b.getD i gY))::cap) (bP (f i)))(jm:∀ i,i<a.length->f i=true):gV 98 [ig a,ig b,.fn g cap] (bP true):=
 an call98 func98 (af [ai 14 ((a.length:Int) != (b.length:Int)) (wk aE),.s (Sp.jc (Sg a b g cap) 0 a.length aE (λi hi oK=>by
    exact iy (af [tT 18 ((i:Int)<a.length) aE,iX (i:Int) (a.length) aE,iX (i:Int) (b.length) aE,.c (hp i aE:gV g ((ij (a.getD i gY))::(ij (b.getD i gY))::cap) _),ah 29 (f i) (jm i aE),iq ((i:Int)+1) aE]) aI)
  (λhi=>by
    exact iy (af [tF 18 ((a.length:Int)<a.length) aE]) aI) aM:jb 4 Tryz.f98 (Sg a b g cap 0) (.exit 0) ⟨32,false,[],[]⟩) .nil]) 
def acr(a b:List Iv)(g:FuncId)(cap:List E)(f:Nat->Bool)(hl:b.length=a.length)(h8:a.length<=1000)(hp:∀ i,i<a.length->gV g ((ij (a.getD i gY))::(ij (b.getD i gY))::cap) (bP (f i)))(N:Nat)(oR:N<a.length)(jm:∀ i,i<N->f i=true)(hN:f N=false):gV 98 [ig a,ig b,.fn g cap] (bP false):=
 an call98 func98 (af [ai 14 ((a.length:Int) != (b.length:Int)) (wk aE),.s (Sp.jc (Sf a b g cap N) 0 N aE (λi hi oK=>by
    exact iy (af [tT 18 ((i:Int)<a.length) aE,iX (i:Int) (a.length) aE,iX (i:Int) (b.length) aE,.c (hp i aE:gV g ((ij (a.getD i gY))::(ij (b.getD i gY))::cap) _),ah 29 (f i) (jm i aE),iq ((i:Int)+1) aE]) aI)
  (λhi=>by
    exact iy (af [tT 18 ((N:Int)<a.length) aE,iX (N:Int) (a.length) aE,iX (N:Int) (b.length) aE,.c (hp N aE:gV g ((ij (a.getD N gY))::(ij (b.getD N gY))::cap) _),ai 29 (f N) hN]) aI) aM:jb 4 Tryz.f98 (Sf a b g cap N 0) .ret ⟨32,false,[(6,.e (bP false))],[]⟩) .nil]) 
def acs(a b:List Iv)(g:FuncId)(cap:List E)(f:Nat->Bool)(hl:b.length=a.length)(h8:a.length<=1000)(hp:∀ i,i<a.length->gV g ((ij (a.getD i gY))::(ij (b.getD i gY))::cap) (bP (f i))):gV 98 [ig a,ig b,.fn g cap] (bP ((List.range a.length).all f)):=by
 by_cases h:∃ i,i<a.length/\(!(f i))=true
 .obtain ⟨N,h1,h2,h3⟩:=tI (p:=λi=>!(f i)) h;refine(acr a b g cap f hl h8 hp N h1 (λi hi=>by simpa using h3 i hi) (by simpa using h2)).kf (.iT ?_);rw[show(List.range a.length).all f=false from aqS.2 ⟨N,b5.2 h1,by simpa using h2⟩]
 .have hh:∀ i,i<a.length->f i=true:=λi hi=>by
   cases hf:f i
   .exact absurd ⟨i,hi,by rw[hf];rfl⟩ h
   .rfl
  refine(acu a b g cap f hl h8 hp hh).kf (.iT ?_);rw[show(List.range a.length).all f=true from bX.2 λi hi=>hh i (b5.1 hi)]
def SG(a b:List Iv)(a1:1<=a.length)(a8:a.length<=8)(hl:b.length=a.length)(ha:qP a)(hb:qP b):gV 131 [ig a,ig b] (bP (we a b)):=
 ak call131 func131 (af [.c (SI a b aE aE aE aF aF),.c (acs a b 82 [] (λi=>BI (a.getD i gY) (b.getD i gY)) hl aE (λi hi=>acz _ _ (ha i hi).1 (hb i aE).1))]) 
def NJ{x:Iv}{d:Dy}(h:wU x d=true):kC (iJ x.lo (jf d))=0/\kC (iJ x.hi d)=0:=by
 unfold wU at h;rwa[bO,cv,cv]at h
def adp(x:List Iv)(d:Dy)(x1:1<=x.length)(x8:x.length<=8)(hx:qP x)(hd:d.ib)(h0:¬d.iI<0)(jm:∀ i,i<x.length->wU (x.getD i gY) d=true):gV 196 [ig x,gZ d] (.iw [ig ((List.range x.length).map (λj_=>rB (x.getD j_ gY) d)),iP 0]):=
 ak call196 func196 (af [.c (vC x aE aE aF),ag [gZ d] (nB _ aF),ag [gZ d] (nA _ aF),tB 24 (bt h0),.y 6 6 true 39 7 (iM ((List.range 0).map (λj_=>rB (x.getD j_ gY) d))),.s (Sp.jc (Sj x d) 0 x.length aE (λi hi oK=>by
    obtain⟨w1,w2⟩:=(hx i aE).1.ko;obtain⟨g1,g2⟩:=NJ (jm i aE);have qq:=qj (Iv.mk (jC (iJ (x.getD i gY).lo (jf d))) (jC (iJ (x.getD i gY).hi d)) false);exact iy (ae [tT 29 ((i:Int)<x.length) aE,iX (i:Int) (x.length) aE,.c (FY ((x.getD i gY).lo) d aF aF),.c (FU ((x.getD i gY).hi) d aF aF),ai 47 ((kC (iJ ((x.getD i gY).lo) (jf d))) != 0) (by rw[g1];rfl),ai 50 ((kC (iJ ((x.getD i gY).hi) d)) != 0) (by rw[g2];rfl),.o 56 (.e (lV _):aj (.sl true 1 7 λi_ j_=>(iO (Iv.mk (jC (iJ ((x.getD i gY).lo) (jf d))) (jC (iJ ((x.getD i gY).hi) d)) false)).getD (i_*7+j_) (.v (.bool false))) (ig [Iv.mk (jC (iJ ((x.getD i gY).lo) (jf d))) (jC (iJ ((x.getD i gY).hi) d)) false])),.a (aE:(i+[Iv.mk (jC (iJ ((x.getD i gY).lo) (jf d))) (jC (iJ ((x.getD i gY).hi) d)) false].length)*88<=140737488355328),iq ((i:Int)+1) aE]<|.e (af [.b 6 (Dj rfl rfl rfl:Bx.le (.row true 39 (i+[Iv.mk (jC (iJ ((x.getD i gY).lo) (jf d))) (jC (iJ ((x.getD i gY).hi) d)) false].length) 7 (λi_ j_=>if i_<i then(iM ((List.range i).map (λj_=>rB (x.getD j_ gY) d))) i_ j_ else(E.kR (ig [Iv.mk (jC (iJ ((x.getD i gY).lo) (jf d))) (jC (iJ ((x.getD i gY).hi) d)) false])) (i_-i) j_)) (.row true 39 (i+1) 7 (iM ((List.range (i+1)).map (λj_=>rB (x.getD j_ gY) d)))))])) aI)
  (λhi=>by
    exact iy (ae [tF 29 ((x.length:Int)<x.length) aE,.z 6]<|.e (af [.o 6 (.e (EV aK):aj (.sl true x.length 7 (iM ((List.range x.length).map (λj_=>rB (x.getD j_ gY) d)))) (ig ((List.range x.length).map (λj_=>rB (x.getD j_ gY) d))))])) aI) aM:jb 5 f196 (Sj x d 0) (.exit 0) ⟨60,true,[(6,.e (ig ((List.range x.length).map (λj_=>rB (x.getD j_ gY) d))))],[]⟩) .nil]) 
def adm(x:List Iv)(d:Dy)(x1:1<=x.length)(x8:x.length<=8)(hx:qP x)(hd:d.ib)(h0:¬d.iI<0)(N:Nat)(oR:N<x.length)(jm:∀ i,i<N->wU (x.getD i gY) d=true)(hN:kC (iJ (x.getD N gY).lo (jf d))≠0):gV 196 [ig x,gZ d] (.iw [.v (.slice none 0 0),iP 9]):=
 ak call196 func196 (af [.c (vC x aE aE aF),ag [gZ d] (nB _ aF),ag [gZ d] (nA _ aF),tB 24 (bt h0),.y 6 6 true 39 7 (iM ((List.range 0).map (λj_=>rB (x.getD j_ gY) d))),.s (Sp.jc (Sh x d N) 0 N aE (λi hi oK=>by
    obtain⟨w1,w2⟩:=(hx i aE).1.ko;obtain⟨g1,g2⟩:=NJ (jm i aE);have qq:=qj (Iv.mk (jC (iJ (x.getD i gY).lo (jf d))) (jC (iJ (x.getD i gY).hi d)) false);exact iy (ae [tT 29 ((i:Int)<x.length) aE,iX (i:Int) (x.length) aE,.c (FY ((x.getD i gY).lo) d aF aF),.c (FU ((x.getD i gY).hi) d aF aF),ai 47 ((kC (iJ ((x.getD i gY).lo) (jf d))) != 0) (by rw[g1];rfl),ai 50 ((kC (iJ ((x.getD i gY).hi) d)) != 0) (by rw[g2];rfl),.o 56 (.e (lV _):aj (.sl true 1 7 λi_ j_=>(iO (Iv.mk (jC (iJ ((x.getD i gY).lo) (jf d))) (jC (iJ ((x.getD i gY).hi) d)) false)).getD (i_*7+j_) (.v (.bool false))) (ig [Iv.mk (jC (iJ ((x.getD i gY).lo) (jf d))) (jC (iJ ((x.getD i gY).hi) d)) false])),.a (aE:(i+[Iv.mk (jC (iJ ((x.getD i gY).lo) (jf d))) (jC (iJ ((x.getD i gY).hi) d)) false].length)*88<=140737488355328),iq ((i:Int)+1) aE]<|.e (af [.b 6 (Dj rfl rfl rfl:Bx.le (.row true 39 (i+[Iv.mk (jC (iJ ((x.getD i gY).lo) (jf d))) (jC (iJ ((x.getD i gY).hi) d)) false].length) 7 (λi_ j_=>if i_<i then(iM ((List.range i).map (λj_=>rB (x.getD j_ gY) d))) i_ j_ else(E.kR (ig [Iv.mk (jC (iJ ((x.getD i gY).lo) (jf d))) (jC (iJ ((x.getD i gY).hi) d)) false])) (i_-i) j_)) (.row true 39 (i+1) 7 (iM ((List.range (i+1)).map (λj_=>rB (x.getD j_ gY) d)))))])) aI)
  (λhi=>by
    obtain⟨w1,w2⟩:=(hx N aE).1.ko;exact iy (af [tT 29 ((N:Int)<x.length) aE,iX (N:Int) (x.length) aE,.c (FY ((x.getD N gY).lo) d aF aF),.c (FU ((x.getD N gY).hi) d aF aF),ah 47 ((kC (iJ ((x.getD N gY).lo) (jf d))) != 0) (by simpa using hN)]) aI) aM:jb 5 f196 (Sh x d N 0) .ret ⟨60,true,[(5,.e (iP 9)),(4,.e (.v (.slice none 0 0)))],[]⟩) .nil]) 
def adn(x:List Iv)(d:Dy)(x1:1<=x.length)(x8:x.length<=8)(hx:qP x)(hd:d.ib)(h0:¬d.iI<0)(N:Nat)(oR:N<x.length)(jm:∀ i,i<N->wU (x.getD i gY) d=true)(hM:kC (iJ (x.getD N gY).lo (jf d))=0)(hN:kC (iJ (x.getD N gY).hi d)≠0):gV 196 [ig x,gZ d] (.iw [.v (.slice none 0 0),iP 9]):=
 ak call196 func196 (af [.c (vC x aE aE aF),ag [gZ d] (nB _ aF),ag [gZ d] (nA _ aF),tB 24 (bt h0),.y 6 6 true 39 7 (iM ((List.range 0).map (λj_=>rB (x.getD j_ gY) d))),.s (Sp.jc (Si x d N) 0 N aE (λi hi oK=>by
    obtain⟨w1,w2⟩:=(hx i aE).1.ko;obtain⟨g1,g2⟩:=NJ (jm i aE);have qq:=qj (Iv.mk (jC (iJ (x.getD i gY).lo (jf d))) (jC (iJ (x.getD i gY).hi d)) false);exact iy (ae [tT 29 ((i:Int)<x.length) aE,iX (i:Int) (x.length) aE,.c (FY ((x.getD i gY).lo) d aF aF),.c (FU ((x.getD i gY).hi) d aF aF),ai 47 ((kC (iJ ((x.getD i gY).lo) (jf d))) != 0) (by rw[g1];rfl),ai 50 ((kC (iJ ((x.getD i gY).hi) d)) != 0) (by rw[g2];rfl),.o 56 (.e (lV _):aj (.sl true 1 7 λi_ j_=>(iO (Iv.mk (jC (iJ ((x.getD i gY).lo) (jf d))) (jC (iJ ((x.getD i gY).hi) d)) false)).getD (i_*7+j_) (.v (.bool false))) (ig [Iv.mk (jC (iJ ((x.getD i gY).lo) (jf d))) (jC (iJ ((x.getD i gY).hi) d)) false])),.a (aE:(i+[Iv.mk (jC (iJ ((x.getD i gY).lo) (jf d))) (jC (iJ ((x.getD i gY).hi) d)) false].length)*88<=140737488355328),iq ((i:Int)+1) aE]<|.e (af [.b 6 (Dj rfl rfl rfl:Bx.le (.row true 39 (i+[Iv.mk (jC (iJ ((x.getD i gY).lo) (jf d))) (jC (iJ ((x.getD i gY).hi) d)) false].length) 7 (λi_ j_=>if i_<i then(iM ((List.range i).map (λj_=>rB (x.getD j_ gY) d))) i_ j_ else(E.kR (ig [Iv.mk (jC (iJ ((x.getD i gY).lo) (jf d))) (jC (iJ ((x.getD i gY).hi) d)) false])) (i_-i) j_)) (.row true 39 (i+1) 7 (iM ((List.range (i+1)).map (λj_=>rB (x.getD j_ gY) d)))))])) aI)
  (λhi=>by
    obtain⟨w1,w2⟩:=(hx N aE).1.ko;exact iy (af [tT 29 ((N:Int)<x.length) aE,iX (N:Int) (x.length) aE,.c (FY ((x.getD N gY).lo) d aF aF),.c (FU ((x.getD N gY).hi) d aF aF),ai 47 ((kC (iJ ((x.getD N gY).lo) (jf d))) != 0) (by rw[hM];rfl),ah 50 ((kC (iJ ((x.getD N gY).hi) d)) != 0) (by simpa using hN)]) aI) aM:jb 5 f196 (Si x d N 0) .ret ⟨60,true,[(5,.e (iP 9)),(4,.e (.v (.slice none 0 0)))],[]⟩) .nil]) 
def Bn(x:List Iv)(d:Dy):Int:=if sB x d then 0 else 9
def SE(x:List Iv)(d:Dy)(x1:1<=x.length)(x8:x.length<=8)(hx:qP x)(hd:d.ib)(h0:¬d.iI<0):gV 196 [ig x,gZ d] (.iw [ig (sO x d),iP (Bn x d)]):=by
 unfold sO Bn;cases hg:sB x d with
 |true=>
  rw[bk rfl,bk rfl];exact adp x d x1 x8 hx hd h0 λi hi=>bX.1 hg i (b5.2 hi)
 |false=>
  rw[bj aG,bj aG];obtain⟨i,hi,hb⟩:=aqS.1 hg;obtain⟨N,h1,h2,h3⟩:=tI (p:=λi=>!(wU (x.getD i gY) d)) ⟨i,b5.1 hi,by simpa using hb⟩;have jm:∀ i,i<N->wU (x.getD i gY) d=true:=λi hi=>by simpa using h3 i hi
  have h2:wU (x.getD N gY) d=false:=by simpa using h2
  have key:gV 196 [ig x,gZ d] (.iw [.v (.slice none 0 0),iP 9]):=by
   by_cases hM:kC (iJ (x.getD N gY).lo (jf d))=0
   .exact adn x d x1 x8 hx hd h0 N h1 jm hM λq=>by
     unfold wU at h2;rw[hM,q]at h2;exact absurd h2 aG 
   .exact adm x d x1 x8 hx hd h0 N h1 jm hM
  exact key.kf (.iw (.cons (.nil _ _ _) (.cons (.refl _) .nil)))
def adq(a b:List Iv)(a1:1<=a.length)(a8:a.length<=8)(hl:b.length=a.length)(ha:qP a)(hb:qP b):gV 197 [ig a,ig b] (ig (nK a b)):=
 ak call197 func197 (ae [.c (SI a b aE aE aE aF aF),.y 5 5 true 39 7 (iM ((List.range 0).map (λj_=>qI (a.getD j_ gY) (b.getD j_ gY)))),.s (Sp.jc (Sk a b) 0 a.length aE (λi hi oK=>by
    obtain⟨w1,w2⟩:=ha i aE;obtain⟨w3,w4⟩:=hb i aE;have qq:=qj (qI (a.getD i gY) (b.getD i gY));exact iy (ae [tT 14 ((i:Int)<a.length) aE,iX (i:Int) (a.length) aE,iX (i:Int) (b.length) aE,.c (Sm (a.getD i gY) (b.getD i gY) aF aF aF aF),.o 26 (.e (lV _):aj (.sl true 1 7 λi_ j_=>(iO (qI (a.getD i gY) (b.getD i gY))).getD (i_*7+j_) (.v (.bool false))) (ig [qI (a.getD i gY) (b.getD i gY)])),.a (aE:(i+[qI (a.getD i gY) (b.getD i gY)].length)*88<=140737488355328),iq ((i:Int)+1) aE]<|.e (af [.b 5 (Dj rfl rfl rfl:Bx.le (.row true 39 (i+[qI (a.getD i gY) (b.getD i gY)].length) 7 (λi_ j_=>if i_<i then(iM ((List.range i).map (λj_=>qI (a.getD j_ gY) (b.getD j_ gY)))) i_ j_ else(E.kR (ig [qI (a.getD i gY) (b.getD i gY)])) (i_-i) j_)) (.row true 39 (i+1) 7 (iM ((List.range (i+1)).map (λj_=>qI (a.getD j_ gY) (b.getD j_ gY))))))])) aI)
  (λhi=>by
    exact iy (ae [tF 14 ((a.length:Int)<a.length) aE,.z 5]<|.e (af [.o 5 (.e (EV aK):aj (.sl true a.length 7 (iM ((List.range a.length).map (λj_=>qI (a.getD j_ gY) (b.getD j_ gY))))) (ig ((List.range a.length).map (λj_=>qI (a.getD j_ gY) (b.getD j_ gY)))))])) aI) aM:jb 5 f197 (Sk a b 0) (.exit 0) ⟨30,true,[(5,.e (ig ((List.range a.length).map (λj_=>qI (a.getD j_ gY) (b.getD j_ gY)))))],[]⟩) .nil]<|rR (ig (nK a b)) (.refl _:E.le (ig ((List.range a.length).map (λj_=>qI (a.getD j_ gY) (b.getD j_ gY)))) (ig (nK a b)))) 
def SH(p:Int):gV 243 [iP p] (bP (nj p)):=
 ak call243 func243 (.w (8<=p)
  (λk1=>ae [tB 4 (bn k1)]<|rQ (bP (decide (p<=512))) (bP (nj p)) (by unfold nj;simp[k1]))
  (λk1=>ae [tB 4 (bt k1)]<|rQ (bP false) (bP (nj p)) (by unfold nj;simp[k1]))) 
def SJ:uJ ar (ix iA):=.cons (.refl _) (.cons DA (.cons (.refl _) .nil))
def Mk(x:List Iv)(p k:Nat):og x p (k+1)=if 0<iL (pd (x.getD k gY) p) (og x p k)then pd (x.getD k gY) p else og x p k:=rfl
def Rt(x:Iv){p:Nat}(hp:1<=p)(ic:p<=4096):(pd x p).ib:=xq _ hp ic _
def Ml(x:List Iv){p:Nat}(hp:1<=p)(ic:p<=4096):∀ k,(og x p k).ib
 | 0=>su
 |k+1=>by
  unfold og;split
  .exact Rt _ hp ic
  .exact Ml x hp ic k
def adw(x:List Iv)(p:Nat)(x1:1<=x.length)(x8:x.length<=8)(hx:qP x)(il:8<=p)(ic:p<=512)(jm:∀ i,i<x.length->wJ (x.getD i gY) p=0):gV 198 [ig x,iP p] (.iw [gZ (og x p x.length),bP true]):=
 ak call198 func198 (af [.c (vC x aE aE aF),.c (SH (p:Int)),ah 16 (nj (p:Int)) (sT.2 ⟨aE,aE⟩),.s (Sp.jc (Sx x p) 0 x.length aE (λi hi oK=>by
    obtain⟨w1,w2⟩:=hx i aE;have Oy:=jm i aE;have w3:=Rt (x.getD i gY) (aE:1<=p) (aE:p<=4096);have w4:=Ml x (aE:1<=p) (aE:p<=4096) i;exact iy (ae [tT 23 ((i:Int)<x.length) aE,iX (i:Int) (x.length) aE,.c (Ec (x.getD i gY) p aF aF aE aE),tB 31 (bn Oy),ag [gZ (pd (x.getD i gY) p),gZ (og x p i)] (lp _ _ aF aF)]<|.w (0<iL (pd (x.getD i gY) p) (og x p i))
     (λhc=>by
      have C0:og x p (i+1)=pd (x.getD i gY) p:=by rw[Mk,bk hc]
      exact ae [tB 38 (bn hc),iq ((i:Int)+1) aE]<|.e (af [.b 6 (.iT (by rw[C0]):Bx.le (.cells 31 (ix (pd (x.getD i gY) p))) (.cells 31 (ix (og x p (i+1)))))]))
     (λhc=>by
      have C0:og x p (i+1)=og x p i:=by rw[Mk,bj hc]
      exact ae [tB 38 (bt hc),iq ((i:Int)+1) aE]<|.e (af [.b 6 (.iT (by rw[C0]):Bx.le (.cells 31 (ix (og x p i))) (.cells 31 (ix (og x p (i+1)))))]))) aI)
  (λhi=>by
    exact iy (af [tF 23 ((x.length:Int)<x.length) aE]) aI) aM:jb 5 f198 (Sx x p 0) (.exit 0) ⟨42,true,[(6,.box 6 0),(4,.box 4 0)],[(6,.cells 31 (ix (og x p x.length))),(4,.cells 31 ar)]⟩) (af [.b 6 (.cells (λ_=>rfl) SJ:Bx.le (.cells 31 ar) (.cells 31 (ix (og x p 0))))])]) 
def adu(x:List Iv)(p:Nat)(x1:1<=x.length)(x8:x.length<=8)(hx:qP x)(il:8<=p)(ic:p<=512)(N:Nat)(oR:N<x.length)(jm:∀ i,i<N->wJ (x.getD i gY) p=0)(hN:wJ (x.getD N gY) p≠0):gV 198 [ig x,iP p] (.iw [gZ iA,bP false]):=
 ak call198 func198 (af [.c (vC x aE aE aF),.c (SH (p:Int)),ah 16 (nj (p:Int)) (sT.2 ⟨aE,aE⟩),.s (Sp.jc (Sw x p N) 0 N aE (λi hi oK=>by
    obtain⟨w1,w2⟩:=hx i aE;have Oy:=jm i aE;have w3:=Rt (x.getD i gY) (aE:1<=p) (aE:p<=4096);have w4:=Ml x (aE:1<=p) (aE:p<=4096) i;exact iy (ae [tT 23 ((i:Int)<x.length) aE,iX (i:Int) (x.length) aE,.c (Ec (x.getD i gY) p aF aF aE aE),tB 31 (bn Oy),ag [gZ (pd (x.getD i gY) p),gZ (og x p i)] (lp _ _ aF aF)]<|.w (0<iL (pd (x.getD i gY) p) (og x p i))
     (λhc=>by
      have C0:og x p (i+1)=pd (x.getD i gY) p:=by rw[Mk,bk hc]
      exact ae [tB 38 (bn hc),iq ((i:Int)+1) aE]<|.e (af [.b 6 (.iT (by rw[C0]):Bx.le (.cells 31 (ix (pd (x.getD i gY) p))) (.cells 31 (ix (og x p (i+1)))))]))
     (λhc=>by
      have C0:og x p (i+1)=og x p i:=by rw[Mk,bj hc]
      exact ae [tB 38 (bt hc),iq ((i:Int)+1) aE]<|.e (af [.b 6 (.iT (by rw[C0]):Bx.le (.cells 31 (ix (og x p i))) (.cells 31 (ix (og x p (i+1)))))]))) aI)
  (λhi=>by
    obtain⟨w1,w2⟩:=hx N aE;exact iy (af [tT 23 ((N:Int)<x.length) aE,iX (N:Int) (x.length) aE,.c (Ec (x.getD N gY) p aF aF aE aE),tB 31 (bt hN),.o 34 (.e qO:aj (.agg ar) (gZ iA))]) aI) aM:jb 5 f198 (Sw x p N 0) .ret ⟨42,true,[(5,.e (bP false)),(4,.box 4 0)],[(4,.cells 31 (ix iA))]⟩) (af [.b 6 (.cells (λ_=>rfl) SJ:Bx.le (.cells 31 ar) (.cells 31 (ix (og x p 0))))])]) 
def apr(x:List Iv){p:Nat}(hp:1<=p)(ic:p<=4096):(sW x p).ib:=by
 unfold sW;split
 .exact Ml x hp ic _
 .exact su
def adv(x:List Iv)(p:Nat)(x1:1<=x.length)(x8:x.length<=8)(hx:qP x)(il:8<=p)(ic:p<=512):gV 198 [ig x,iP (p:Int)] (.iw [gZ (sW x p),bP (IX x p)]):=by
 unfold sW;cases hw:IX x p with
 |true=>
  rw[bk rfl];exact adw x p x1 x8 hx il ic λi hi=>cT (bX.1 hw i (b5.2 hi))
 |false=>
  rw[bj aG];obtain⟨i,hi,hb⟩:=aqS.1 hw;obtain⟨N,h1,h2,h3⟩:=tI (p:=λi=>!(decide (wJ (x.getD i gY) p=0))) ⟨i,b5.1 hi,by simpa using hb⟩;exact adu x p x1 x8 hx il ic N h1 (λi hi=>by simpa using h3 i hi) (by simpa using h2)
def YT{t:TypeId}{m:Nat}(hm:m<=10000)(hk:prog.keyTypeAt m t=true)(hg:prog.eqGuardType prog.depth t=false){xs:List Value}(hx:(prog.keyLits 10 t xs).isSome=true)
 (fx:(Value.agg xs.toArray).formed prog t=true):pH prog .eql t (.agg (xs.map E.v)) (.agg (xs.map E.v)) (.bool true):=by
 obtain⟨l,hl⟩:=fF.1 hx;exact P8 hm hk hg hl hl fx fx aK 
def Lh{a b c d e f:Int}(h:a=0/\b=0/\c=0/\d=0/\e=0/\f=0):
 pH prog .eql 107 (.agg [iP a,iP b,iP c,iP d,iP e,iP f]) (.agg [iP 0,iP 0,iP 0,iP 0,iP 0,iP 0]) (.bool true):=by
 obtain⟨rfl,rfl,rfl,rfl,rfl,rfl⟩:=h;exact YT (m:=10) (xs:=[.int .i64 0,.int .i64 0,.int .i64 0,.int .i64 0,.int .i64 0,.int .i64 0]) aG aI aI aI aI 
def P7{a b:Int}(h:a=0/\b=0):pH prog .eql 93 (.agg [iP a,iP b]) (.agg [iP 0,iP 0]) (.bool true):=by
 obtain⟨rfl,rfl⟩:=h;exact YT (m:=10) (xs:=[.int .i64 0,.int .i64 0]) aG aI aI aI aI 
def BK{d:Nat}{n:Int}(h:ku .i64 n):prog.keyLits (d+1) 3 [.int .i64 n]=some [.int .i64 n]:=by
 have hw:(Lit.int .i64 n).wf=true:=by
  unfold ku at h;simp[Lit.wf,IntKind.min,IntKind.max,IntKind.signed,IntKind.bits];omega
 unfold Program.keyLits;rw[underlying3];simp[hw]
def Zf{a b:Int}(ha:ku .i64 a)(hb:ku .i64 b):prog.keyLits 10 93 [.int .i64 a,.int .i64 b]=some [.int .i64 a,.int .i64 b]:=by
 have c1:prog.cellsOf 93=2:= aI ;have c2:prog.cellsOf 3=1:= aI ;unfold Program.keyLits;rw[underlying93];simp[c1,c2,fD,BK ha,BK hb]
def YS{a b:Int}{r:Bool}(ha:ku .i64 a)(hb:ku .i64 b)(h:decide (a=0/\b=0)=r):pH prog .eql 93 (.agg [iP a,iP b]) (.agg [iP 0,iP 0]) (.bool r):=
 P8 (m:=10) (xs:=[.int .i64 a,.int .i64 b]) (ys:=[.int .i64 0,.int .i64 0]) aG aI aI (Zf ha hb) (Zf a6 a6) aI aI (by subst h;simp)
def ak8{a b c d e f a' b' c' d' e' f':Int}{r:Bool}(hx:prog.keyLits 10 107 [.int .i64 a,.int .i64 b,.int .i64 c,.int .i64 d,.int .i64 e,.int .i64 f]=some [.int .i64 a,.int .i64 b,.int .i64 c,.int .i64 d,.int .i64 e,.int .i64 f])(hy:prog.keyLits 10 107 [.int .i64 a',.int .i64 b',.int .i64 c',.int .i64 d',.int .i64 e',.int .i64 f']=some [.int .i64 a',.int .i64 b',.int .i64 c',.int .i64 d',.int .i64 e',.int .i64 f'])
 (fx:(Value.agg (List.toArray [.int .i64 a,.int .i64 b,.int .i64 c,.int .i64 d,.int .i64 e,.int .i64 f])).formed prog 107=true) (fy:(Value.agg (List.toArray [.int .i64 a',.int .i64 b',.int .i64 c',.int .i64 d',.int .i64 e',.int .i64 f'])).formed prog 107=true) (h:decide (a=a'/\b=b'/\c=c'/\d=d'/\e=e'/\f=f')=r):
 pH prog .eql 107 (.agg [iP a,iP b,iP c,iP d,iP e,iP f]) (.agg [iP a',iP b',iP c',iP d',iP e',iP f']) (.bool r):=
 P8 (m:=10) (xs:=[.int .i64 a,.int .i64 b,.int .i64 c,.int .i64 d,.int .i64 e,.int .i64 f]) (ys:=[.int .i64 a',.int .i64 b',.int .i64 c',.int .i64 d',.int .i64 e',.int .i64 f']) aG aI aI hx hy fx fy (by subst h;simp)
def anf{P:Program}(w:World)(t tx ty e:TypeId)(i:TypeInfo)(z:Value)(ht:P.underlying t=some (.slice e))(hx:P.underlying tx=some (.int .i64))(hi:P.info? e=some i)(hz:i.zero=some z)
 (uj:i.size≠0) (n:Nat) (h0:0<n) (Gy:n<=1000000) (Vp:n*i.bytes<=281474976710656):
 (Builtin.append_ #[t,tx] ty #[.slice none 0 0,.int .i64 (n:Int)]).run P w =
  .ok (.slice (some ⟨w.heap.size,0,none⟩) n (grownCap w n 0 e)) (w.drew.alloc (.cells (Builtin.zeroCells z.cells n++Builtin.zeroCells z.cells (grownCap w n 0 e-n)) e)):=by
 have hn:n≠0:= aE ;have hns:n*i.size≠0:=dm hn uj;have ahG:¬(9223372036854775807<(n:Int)):= aE ;have ahE:¬(281474976710656<Builtin.nextslicecap n 0*i.bytes):=by rw[nextslicecap_zero h0];omega
 have hw:IntKind.i64.wrap (n:Int)=n:=i64_in _ aE aE;have GU:¬((n:Int)<0):= aE ;have ahF:¬(281474976710656<(n:Int)*(i.bytes:Int)):=by
  have:(n:Int)*(i.bytes:Int)=((n*i.bytes:Nat):Int):= aK ;rw[this];omega
 simp[Builtin.append_,run_underlying ht,run_underlying hx,sizeOf,typeInfo,zeroValue,hi,hz,asInt,asIntOf,hw,GU,ahF,hn,hns,ahG,ahE,Question.forced,run_firstCells_none,newRow,grownCap]
def apu{P:Program}{w:World}{gX:Array Oper}{rest:List Oper}{o:Oper}{a:Act}{Q:Exit->Act->World->Prop}(CR:o.guard=none)(s x:Operand)(t tx:TypeId)
 (ho:o.op = .call { callee:=.builtin .append,args:=#[s,x],argTypes:=#[t,tx] })
 (e:TypeId) (i:TypeInfo) (z:Value) (ht:P.underlying t=some (.slice e)) (hx:P.underlying tx=some (.int .i64)) (hi:P.info? e=some i) (hz:i.zero=some z)
 (uj:i.size≠0) (n:Nat) (h0:0<n) (Gy:n<=1000000) (Vp:n*i.bytes<=281474976710656) (hs:a.eval s = .slice none 0 0) (hxx:a.eval x = .int .i64 (n:Int))
 (h:wpList P gX Q rest (a.put o.dst (.slice (some ⟨w.heap.size,0,none⟩) n (grownCap w n 0 e))) (w.drew.alloc (.cells (Builtin.zeroCells z.cells n++Builtin.zeroCells z.cells (grownCap w n 0 e-n)) e))):wpList P gX Q (o::rest) a w:=by
 refine wpList_plain CR λK hK=>?_
 have kS:=anf (P:=P) w t tx o.type e i z ht hx hi hz uj n h0 Gy Vp;unfold Oper.wp;simp[execOp,ho,resolve,invoke,builtin,hs,hxx,kS,Result.andThen];exact hK _ _ h
def aca(w:World)(o:Obj):Below w.heap.size w (w.alloc o).drew:=⟨rfl,rfl,rfl,by rw[show(w.alloc o).drew.heap=w.heap.push o from rfl,Array.size_push];omega,λx hx=>Below.heap_alloc w _ x hx⟩
def acb(w:World)(o:Obj):w.heap.size<(w.alloc o).drew.heap.size:=by rw[show(w.alloc o).drew.heap=w.heap.push o from rfl,Array.size_push];omega
def ais:(prog.info? 39).map (λi=>(i.zero,i.size,i.bytes))=some (some (.agg #[.bool false,.slice none 0 0,.int .i64 0,.bool false,.slice none 0 0,.int .i64 0,.bool false]),7,88):= aI 
def abK(n:Nat):∀ u,u ∈ Builtin.zeroCells (Value.cells (.agg #[.bool false,.slice none 0 0,.int .i64 0,.bool false,.slice none 0 0,.int .i64 0,.bool false])) n->rf u=false:=by
 intro u hu;simp only[Builtin.zeroCells,gj,gl]at hu;obtain⟨q,hq,rfl⟩:=hu;have hc:Value.cells (.agg #[.bool false,.slice none 0 0,.int .i64 0,.bool false,.slice none 0 0,.int .i64 0,.bool false]) = #[.bool false,.slice none 0 0,.int .i64 0,.bool false,.slice none 0 0,.int .i64 0,.bool false]:=rfl;rw[hc]at hq ⊢;have hs:(#[Value.bool false,.slice none 0 0,.int .i64 0,.bool false,.slice none 0 0,.int .i64 0,.bool false]:Array Value).size=7:=rfl;rw[hs];have h7:q%7<7:=bM _ aG;generalize q%7=k at h7;rcases k with _|_|_|_|_|_|_|k
 all_goals first|rfl|omega
set_option maxRecDepth 100000 in
def ahx(n:Nat)(hn:n<=1000000):wL prog Tb 326 [.v (.slice none 0 0),iP (n:Int)] true 39 0 7 (iM []):=by
 refine⟨call326,λw B vs hK hB hr=>?_⟩;obtain⟨v1,vs,rfl,h1,hr⟩:=hr.mG;obtain⟨v2,vs,rfl,h2,hr⟩:=hr.mG;obtain rfl:=hr.rj;obtain rfl:=iD.kJ h1;obtain rfl:=iD.kJ h2;show Calls _ _ #[.slice none 0 0,.int .i64 (n:Int)] w _;clear h1 h2 hr hB hK;by_cases h0:n=0
 .subst h0;go_enter func326,ntmps326;go_wp2;go_ret;exact⟨_,rfl,Below.refl _ _,λ_ _=>undef,.inl ⟨rfl,rfl⟩,λx hx=>by simp[Value.ownBlock]at hx,λi j hi=>absurd hi (bE _)⟩
 .obtain ⟨i,hi,hz,h1,h2⟩:=info_parts ais;have hw:IntKind.i64.wrap ((n:Int)-0)=n:=i64_in _ aE aE;have OV:IntKind.i64.wrap (n:Int)=n:=i64_in _ aE aE;have e2:decide ((n:Int)<0)=false:=bt aE;have e3:decide ((0:Int)<n)=true:=bn aE;have Ez:n<=grownCap w n 0 39:=grownCap_ge w n 0 _;go_enter func326,ntmps326;go_wp2_with (at_builtin;go_must (refine apu aJ _ _ _ _ aJ _ i _ underlying26 underlying3 hi hz aE n aE aE (by rw[h2];omega) aJ aJ ?_))
  go_ret;have hz7:(#[Value.bool false,.slice none 0 0,.int .i64 0,.bool false,.slice none 0 0,.int .i64 0,.bool false]:Array Value).size=7:=rfl;refine⟨_,rfl,aca w _,λ_ _=>undef,.inr ⟨w.heap.size,grownCap w n 0 39,_,rfl,heap_alloc_new w _,bS _,grownCap_le_maxLen w n 0 _ (by unfold maxLen;omega),?_,λi j hi=>absurd hi (bE _),λ_ u hu=>?_⟩,λx hx=>?_,λi j hi=>absurd hi (bE _)⟩
  .simp only[aqx,size_zeroCells,hz7,<-b8];congr 1;omega
  .rcases fw.1 hu with hu|hu
   .exact abK _ u hu
   .exact abK _ u hu
  .simp [Value.ownBlock]at hx;subst hx;exact⟨bu _,acb w _⟩
abbrev yB(f:FuncId)(args:List E)(nl:Bool)(T:TypeId)(n sz:Nat)(el:Nat->Nat->E):Prop:=wL prog Tb f args nl T n sz el
def trn{f:FuncId}{fn:Func}{args:List E}{nl:Bool}{T0:TypeId}{n sz:Nat}{el:Nat->Nat->E}(xK:∀ (vs:Array Value) (w:World),(callFunc f vs).run prog w = .ok (.enter f vs) w)
 (hf:prog.funcs[f]? = some fn) (t:Tr prog Tb) (h:Qx TT fn args (.row nl T0 n sz el) t=t.ex λ_=>.a (Bx.le (.row nl T0 n sz el) (.row nl T0 n sz el)) .nil):yB f args nl T0 n sz el:=
 wL.Rj MB mixed RP xK hf t h
def aba(t:qa)(x:Nat):PS:=⟨46,true,[(28,.e (iP x)),(27,.e (iP t.gX.length)),(26,.e (kZ t.gX)),(1,.box 1 0)],[(1,.cells 25 [iP t.ik,kZ t.gX,kY t.iu])]⟩
def aa6(s:jM)(x:Nat):PS:=⟨85,true,[(31,.e (iP x)),(30,.e (iP s.tape.gX.length)),(29,.e (kZ s.tape.gX)),(3,.box 3 0),(1,.box 1 0)],[(3,.cells 25 [iP s.tape.ik,kZ s.tape.gX,kY s.tape.iu]),(1,.cells 28 [iP s.tape.ik,kZ s.tape.gX,kY s.tape.iu,iP s.iz,ig s.params])]⟩
noncomputable def aa9(t:qa)(xs:List Iv)(p:Nat)(x:Nat):PS:=⟨75,true,[(26,.e (iP x)),(25,.e (iP t.gX.length)),(24,.e (kZ t.gX)),(7,.own 22),(2,.e (iP p))],[(22,.row true 39 ((jU t.gX xs p x).length) 7 (iM (jU t.gX xs p x)))]⟩
def YX(k:Nat)(h1:3<=k)(h2:k<=6):gV 152 [iP k] (iP 2):=
 ak call152 func152 (ae [ai 5 ((k:Int)==1) (a7 aE)]<|.w ((k:Int)=3)
  (λk1=>af [tB 7 (bc k1)])
  (λk1=>ae [tB 7 (a7 k1)]<|.w ((k:Int)=4)
   (λk2=>af [tB 8 (bc k2)])
   (λk2=>ae [tB 8 (a7 k2)]<|.w ((k:Int)=5)
    (λk3=>af [tB 9 (bc k3)])
    (λk3=>ae [tB 9 (a7 k3)]<|.w ((k:Int)=6)
     (λk4=>af [tB 10 (bc k4)])
     (λk4=>.x aE))))) 
def Qb(k:Nat)(h1:7<=k)(h2:k<=13):gV 152 [iP k] (iP 1):=
 ak call152 func152 (ae [ai 5 ((k:Int)==1) (a7 aE),ai 7 ((k:Int)==3) (a7 aE),ai 8 ((k:Int)==4) (a7 aE),ai 9 ((k:Int)==5) (a7 aE),ai 10 ((k:Int)==6) (a7 aE)]<|.w ((k:Int)=7)
  (λk1=>af [tB 12 (bc k1)])
  (λk1=>ae [tB 12 (a7 k1)]<|.w ((k:Int)=8)
   (λk2=>af [tB 13 (bc k2)])
   (λk2=>ae [tB 13 (a7 k2)]<|.w ((k:Int)=9)
    (λk3=>af [tB 14 (bc k3)])
    (λk3=>ae [tB 14 (a7 k3)]<|.w ((k:Int)=10)
     (λk4=>af [tB 15 (bc k4)])
     (λk4=>ae [tB 15 (a7 k4)]<|.w ((k:Int)=11)
      (λk5=>af [tB 16 (bc k5)])
      (λk5=>ae [tB 16 (a7 k5)]<|.w ((k:Int)=12)
       (λk6=>af [tB 17 (bc k6)])
       (λk6=>ae [tB 17 (a7 k6)]<|.w ((k:Int)=13)
        (λk7=>af [tB 18 (bc k7)])
        (λk7=>.x aE)))))))) 
def YW(k:Nat)(h1:k=1):gV 152 [iP k] (iP 0):=
 ak call152 func152 (af [ah 5 ((k:Int)==1) (bc aE)]) 
def ak9{a b:Int}(h:nM a b=true):pH prog .eql 93 (.agg [iP a,iP b]) (.agg [iP 0,iP 0]) (.bool false):=by
 obtain⟨h1,h2,h3,h4⟩:=Qq h;exact YS a6 a6 (bt aE)
def oh.Cp{o:np}{m:Nat}(h:oh o m)(oJ:o.kind≠1)(hk:o.kind<=6):3<=o.kind/\o.a<m/\o.b<m/\o.n=0/\o.cn=0/\o.cd=0:=by
 have h3:=h.k3.resolve_left oJ;have ha:=h.a;have hb:=h.b;have hn:=h.n;have hc:=h.c;rw[bj oJ]at ha hc;rw[bk ⟨h3,hk⟩]at hb;rw[bj aE]at hn;exact⟨h3,ha,hb,hn,hc.1,hc.2⟩
def oh.pow{o:np}{m:Nat}(h:oh o m)(hk:o.kind=8):o.a<m/\o.b=0/\o.n<=16/\o.cn=0/\o.cd=0:=by
 have ha:=h.a;have hb:=h.b;have hn:=h.n;have hc:=h.c;rw[bj aE]at ha hb hc;rw[bk hk]at hn;exact⟨ha,hb,hn,hc.1,hc.2⟩
def oh.un{o:np}{m:Nat}(h:oh o m)(hk:¬o.kind<=6)(wZ:o.kind≠8):o.kind<=13/\o.a<m/\o.b=0/\o.n=0/\o.cn=0/\o.cd=0:=by
 have ha:=h.a;have hb:=h.b;have hn:=h.n;have hc:=h.c;rw[bj aE]at ha hb hc;rw[bj wZ]at hn;exact⟨h.xY,ha,hb,hn,hc.1,hc.2⟩
def oh.num{o:np}{m:Nat}(h:oh o m)(hk:o.kind=1):o.a=0/\o.b=0/\o.n=0/\nM o.cn o.cd=true:=by
 have ha:=h.a;have hb:=h.b;have hn:=h.n;have hc:=h.c;rw[bk hk]at ha hc;rw[bj aE]at hb hn;exact⟨ha,hb,hn,hc⟩
def oh.D4{o:np}{m:Nat}(h:oh o m)(hk:o.kind≠1):o.a<m:=by
 have ha:=h.a;rwa[bj hk]at ha
def alF(o:np)(m:Nat)(h:oh o m)(hk:o.kind=1):gV 66 [xm o,iP m] (bP true):=by
 obtain⟨h2,h3,h4,tC⟩:=h.num hk;exact ak call66 func66 (af [.c (YW o.kind aE),ai 14 (decide ((0:Int)<0)) aG,ah 17 ((0:Int)==0) aG,.c (Lt o.cn o.cd),ah 20 (nM o.cn o.cd) tC,ai 26 ((o.kind:Int)==8) (a7 aE),ai 37 (decide ((0:Int)<0)) aG,ai 49 (decide ((1:Int)<0)) aG,.g (Lh ⟨aE,aE,aE,aE,aE,aE⟩:pH prog .eql 107 (.agg [iP 0,iP o.a,iP o.b,iP o.n,iP 0,iP 0]) (.agg [iP 0,iP 0,iP 0,iP 0,iP 0,iP 0]) (.bool true))]) 
def alE(o:np)(m:Nat)(h:oh o m)(oJ:o.kind≠1)(hk:o.kind<=6):gV 66 [xm o,iP m] (bP true):=by
 obtain⟨h1,h2,h3,h4,h5,h6⟩:=h.Cp oJ hk;exact ak call66 func66 (af [.c (YX o.kind aE aE),ai 14 (decide ((2:Int)<0)) aG,ai 17 ((2:Int)==0) aG,ai 26 ((o.kind:Int)==8) (a7 aE),ah 37 (decide ((0:Int)<2)) aG,tF 40 ((o.a:Int)<0) aE,tF 45 ((m:Int)<=o.a) aE,ah 49 (decide ((1:Int)<2)) aG,tF 52 ((o.b:Int)<0) aE,tF 57 ((m:Int)<=o.b) aE,.g (Lh ⟨aE,aE,aE,aE,aE,aE⟩:pH prog .eql 107 (.agg [iP 0,iP 0,iP 0,iP o.n,iP o.cn,iP o.cd]) (.agg [iP 0,iP 0,iP 0,iP 0,iP 0,iP 0]) (.bool true))]) 
def alH(o:np)(m:Nat)(h:oh o m)(hk:o.kind=8):gV 66 [xm o,iP m] (bP true):=by
 obtain⟨h2,h3,h4,h5,h6⟩:=h.pow hk;exact ak call66 func66 (af [.c (Qb o.kind aE aE),ai 14 (decide ((1:Int)<0)) aG,ai 17 ((1:Int)==0) aG,ah 26 ((o.kind:Int)==8) (bc aE),tF 29 ((o.n:Int)<0) aE,tF 33 (16<(o.n:Int)) aE,ah 37 (decide ((0:Int)<1)) aG,tF 40 ((o.a:Int)<0) aE,tF 45 ((m:Int)<=o.a) aE,ai 49 (decide ((1:Int)<1)) aG,.g (Lh ⟨aE,aE,aE,aE,aE,aE⟩:pH prog .eql 107 (.agg [iP 0,iP 0,iP o.b,iP 0,iP o.cn,iP o.cd]) (.agg [iP 0,iP 0,iP 0,iP 0,iP 0,iP 0]) (.bool true))]) 
def alI(o:np)(m:Nat)(h:oh o m)(hk:¬o.kind<=6)(wZ:o.kind≠8):gV 66 [xm o,iP m] (bP true):=by
 obtain⟨h1,h2,h3,h4,h5,h6⟩:=h.un hk wZ;exact ak call66 func66 (af [.c (Qb o.kind aE aE),ai 14 (decide ((1:Int)<0)) aG,ai 17 ((1:Int)==0) aG,ai 26 ((o.kind:Int)==8) (a7 aE),ah 37 (decide ((0:Int)<1)) aG,tF 40 ((o.a:Int)<0) aE,tF 45 ((m:Int)<=o.a) aE,ai 49 (decide ((1:Int)<1)) aG,.g (Lh ⟨aE,aE,aE,aE,aE,aE⟩:pH prog .eql 107 (.agg [iP 0,iP 0,iP o.b,iP o.n,iP o.cn,iP o.cd]) (.agg [iP 0,iP 0,iP 0,iP 0,iP 0,iP 0]) (.bool true))]) 
def aol(o:np)(m:Nat)(h:oh o m)(hk:o.kind=1):gV 178 [xm o,iP m] (bP true):=by
 obtain⟨h2,h3,h4,tC⟩:=h.num hk;exact ak call178 func178 (af [tF 8 ((o.a:Int)<0) aE,tF 12 ((o.b:Int)<0) aE,.g (ak9 tC:pH prog .eql 93 (.agg [iP o.cn,iP o.cd]) (.agg [iP 0,iP 0]) (.bool false)),ah 21 ((o.kind:Int)==1) (bc aE),.c (Lt o.cn o.cd),ah 24 (nM o.cn o.cd) tC,ah 28 ((o.a:Int)==0) (bc aE),ah 33 ((o.b:Int)==0) (bc aE),ah 38 ((o.n:Int)==0) (bc aE)]) 
def aok(o:np)(m:Nat)(h:oh o m)(oJ:o.kind≠1)(hk:o.kind<=6):gV 178 [xm o,iP m] (bP true):=by
 obtain⟨h1,h2,h3,h4,h5,h6⟩:=h.Cp oJ hk;exact ak call178 func178 (ae [tF 8 ((o.a:Int)<0) aE,tF 12 ((o.b:Int)<0) aE,.g (P7 ⟨aE,aE⟩:pH prog .eql 93 (.agg [iP o.cn,iP o.cd]) (.agg [iP 0,iP 0]) (.bool true)),ai 21 ((o.kind:Int)==1) (a7 aE)]<|.w ((o.kind:Int)=3)
  (λk1=>af [tB 41 (bc k1),tT 50 ((o.a:Int)<m) aE,tT 56 ((o.b:Int)<m) aE,ah 61 ((o.n:Int)==0) (bc aE)])
  (λk1=>ae [tB 41 (a7 k1)]<|.w ((o.kind:Int)=4)
   (λk2=>af [tB 42 (bc k2),tT 50 ((o.a:Int)<m) aE,tT 56 ((o.b:Int)<m) aE,ah 61 ((o.n:Int)==0) (bc aE)])
   (λk2=>ae [tB 42 (a7 k2)]<|.w ((o.kind:Int)=5)
    (λk3=>af [tB 43 (bc k3),tT 50 ((o.a:Int)<m) aE,tT 56 ((o.b:Int)<m) aE,ah 61 ((o.n:Int)==0) (bc aE)])
    (λk3=>ae [tB 43 (a7 k3)]<|.w ((o.kind:Int)=6)
     (λk4=>af [tB 44 (bc k4),tT 50 ((o.a:Int)<m) aE,tT 56 ((o.b:Int)<m) aE,ah 61 ((o.n:Int)==0) (bc aE)])
     (λk4=>.x aE))))) 
def aon(o:np)(m:Nat)(h:oh o m)(hk:o.kind=8):gV 178 [xm o,iP m] (bP true):=by
 obtain⟨h2,h3,h4,h5,h6⟩:=h.pow hk;exact ak call178 func178 (af [tF 8 ((o.a:Int)<0) aE,tF 12 ((o.b:Int)<0) aE,.g (P7 ⟨aE,aE⟩:pH prog .eql 93 (.agg [iP o.cn,iP o.cd]) (.agg [iP 0,iP 0]) (.bool true)),ai 21 ((o.kind:Int)==1) (a7 aE),ai 41 ((o.kind:Int)==3) (a7 aE),ai 42 ((o.kind:Int)==4) (a7 aE),ai 43 ((o.kind:Int)==5) (a7 aE),ai 44 ((o.kind:Int)==6) (a7 aE),ah 64 ((o.kind:Int)==8) (bc aE),tT 70 ((o.a:Int)<m) aE,ah 75 ((o.b:Int)==0) (bc aE),tT 80 (0<=(o.n:Int)) aE,tT 85 ((o.n:Int)<=16) aE]) 
def aoo(o:np)(m:Nat)(h:oh o m)(hk:¬o.kind<=6)(wZ:o.kind≠8):gV 178 [xm o,iP m] (bP true):=by
 obtain⟨h1,h2,h3,h4,h5,h6⟩:=h.un hk wZ;exact ak call178 func178 (ae [tF 8 ((o.a:Int)<0) aE,tF 12 ((o.b:Int)<0) aE,.g (P7 ⟨aE,aE⟩:pH prog .eql 93 (.agg [iP o.cn,iP o.cd]) (.agg [iP 0,iP 0]) (.bool true)),ai 21 ((o.kind:Int)==1) (a7 aE),ai 41 ((o.kind:Int)==3) (a7 aE),ai 42 ((o.kind:Int)==4) (a7 aE),ai 43 ((o.kind:Int)==5) (a7 aE),ai 44 ((o.kind:Int)==6) (a7 aE),ai 64 ((o.kind:Int)==8) (a7 aE)]<|.w ((o.kind:Int)=7)
  (λk1=>af [tB 88 (bc k1),tT 99 ((o.a:Int)<m) aE,ah 104 ((o.b:Int)==0) (bc aE),ah 109 ((o.n:Int)==0) (bc aE)])
  (λk1=>ae [tB 88 (a7 k1)]<|.w ((o.kind:Int)=9)
   (λk2=>af [tB 89 (bc k2),tT 99 ((o.a:Int)<m) aE,ah 104 ((o.b:Int)==0) (bc aE),ah 109 ((o.n:Int)==0) (bc aE)])
   (λk2=>ae [tB 89 (a7 k2)]<|.w ((o.kind:Int)=10)
    (λk3=>af [tB 90 (bc k3),tT 99 ((o.a:Int)<m) aE,ah 104 ((o.b:Int)==0) (bc aE),ah 109 ((o.n:Int)==0) (bc aE)])
    (λk3=>ae [tB 90 (a7 k3)]<|.w ((o.kind:Int)=11)
     (λk4=>af [tB 91 (bc k4),tT 99 ((o.a:Int)<m) aE,ah 104 ((o.b:Int)==0) (bc aE),ah 109 ((o.n:Int)==0) (bc aE)])
     (λk4=>ae [tB 91 (a7 k4)]<|.w ((o.kind:Int)=12)
      (λk5=>af [tB 92 (bc k5),tT 99 ((o.a:Int)<m) aE,ah 104 ((o.b:Int)==0) (bc aE),ah 109 ((o.n:Int)==0) (bc aE)])
      (λk5=>ae [tB 92 (a7 k5)]<|.w ((o.kind:Int)=13)
       (λk6=>af [tB 93 (bc k6),tT 99 ((o.a:Int)<m) aE,ah 104 ((o.b:Int)==0) (bc aE),ah 109 ((o.n:Int)==0) (bc aE)])
       (λk6=>.x aE))))))) 
def alG(o:np)(m:Nat)(h:oh o m):gV 66 [xm o,iP (m:Int)] (bP true):=by
 by_cases oJ:o.kind=1
 .exact alF o m h oJ
 by_cases hk:o.kind<=6
 .exact alE o m h oJ hk
 .by_cases wZ:o.kind=8
  .exact alH o m h wZ
  .exact alI o m h hk wZ
def aom(o:np)(m:Nat)(h:oh o m):gV 178 [xm o,iP (m:Int)] (bP true):=by
 by_cases oJ:o.kind=1
 .exact aol o m h oJ
 by_cases hk:o.kind<=6
 .exact aok o m h oJ hk
 .by_cases wZ:o.kind=8
  .exact aon o m h wZ
  .exact aoo o m h hk wZ
def aoH(t:qa)(k:Nat)(hk:k<t.ik+t.gX.length)(h8:t.ik<=8)(ahC:t.gX.length<=200):gV 68 [iP k,(.iV 3 λj_=>[iP t.ik,kZ t.gX,kY t.iu].getD j_ .any)] (bP false):=
 ak call68 func68 (af [tF 5 ((k:Int)<0) aE,iq ((t.ik:Int)+t.gX.length) aE,tF 14 (((t.ik+t.gX.length:Nat):Int)<=k) aE]) 
def abb(t:qa)(h:zJ t):gV 12 [IL t] (bP true):=by
 have h8:=h.ik;have EN:=h.gX;have qH:=h.iu;exact ak call12 func12 (af [tF 7 ((t.ik:Int)<0) aE,tF 11 (8<(t.ik:Int)) aE,tF 17 (200<(t.gX.length:Int)) aE,tF 23 (200<(t.iu.length:Int)) aE,.s (Sp.jc (aba t) 0 t.gX.length aE (λx hx kW=>by
    have iB:=h.op x aE;exact iy (af [tT 29 ((x:Int)<t.gX.length) aE,iX (x:Int) (t.gX.length) aE,iq ((t.ik:Int)+x) aE,ag [xm (t.gX.getD x iE),iP ((t.ik+x:Nat):Int)] (alG _ _ iB),iq ((x:Int)+1) aE]) aI)
  (λhx=>by
    exact iy (af [tF 29 ((t.gX.length:Int)<t.gX.length) aE]) aI) aM:jb 4 Tryz.f12 (aba t 0) (.exit 0) ⟨46,true,[(1,.box 1 0)],[(1,.cells 25 [iP t.ik,kZ t.gX,kY t.iu])]⟩) .nil,.c (Pa true _ _ 68 [(.iV 3 λj_=>[iP t.ik,kZ t.gX,kY t.iu].getD j_ .any)] (λ_=>false) (λi hi=>aoH t _ (h.out i hi) h8 EN) aE (λ_ _=>rfl):gV 67 [kY t.iu,.fn 68 [(.iV 3 λj_=>[iP t.ik,kZ t.gX,kY t.iu].getD j_ .any)]] _)]) 
def aoq(t:qa)(k:Nat)(hk:k<t.ik+t.gX.length)(h8:t.ik<=8)(ahC:t.gX.length<=200):gV 179 [iP k,(.iV 3 λj_=>[iP t.ik,kZ t.gX,kY t.iu].getD j_ .any)] (bP false):=
 ak call179 func179 (af [tF 5 ((k:Int)<0) aE,iq ((t.ik:Int)+t.gX.length) aE,tF 14 (((t.ik+t.gX.length:Nat):Int)<=k) aE]) 
def aos(x:Iv)(hx:x.ib)(xa:x.all=false):gV 180 [ij x] (bP false):=by
 obtain⟨w1,w2,w3⟩:=uq hx xa;exact ak call180 func180 (af [ai 4 x.all xa,ag [gZ x.lo] (nB _ aF),ag [gZ x.hi] (nB _ aF),ag [gZ x.lo,gZ x.hi] (lp _ _ aF aF),tF 23 (0<(iL x.lo x.hi)) aE]) 
def AL(s:jM)(h:mh s):gV 105 [lE s] (bP true):=by
 have h8:=h.tape.ik;have EN:=h.tape.gX;have qH:=h.tape.iu;have s1:=h.s1;have s4:=h.s4;have ho:=h.iu;have hi:=h.ik;have p4:=h.p4;exact ak call105 func105 (af [tF 10 ((s.tape.ik:Int)<0) aE,tF 14 (8<(s.tape.ik:Int)) aE,tF 20 (200<(s.tape.gX.length:Int)) aE,tF 26 (200<(s.tape.iu.length:Int)) aE,.s (Sp.jc (aa6 s) 0 s.tape.gX.length aE (λx hx kW=>by
    have iB:=h.tape.op x aE;exact iy (af [tT 32 ((x:Int)<s.tape.gX.length) aE,iX (x:Int) (s.tape.gX.length) aE,iq ((s.tape.ik:Int)+x) aE,ag [xm (s.tape.gX.getD x iE),iP ((s.tape.ik+x:Nat):Int)] (aom _ _ iB),iq ((x:Int)+1) aE]) aI)
  (λhx=>by
    exact iy (af [tF 32 ((s.tape.gX.length:Int)<s.tape.gX.length) aE]) aI) aM:jb 5 f105 (aa6 s 0) (.exit 0) ⟨85,true,[(3,.box 3 0),(1,.box 1 0)],[(3,.cells 25 [iP s.tape.ik,kZ s.tape.gX,kY s.tape.iu]),(1,.cells 28 [iP s.tape.ik,kZ s.tape.gX,kY s.tape.iu,iP s.iz,ig s.params])]⟩) .nil,.c (Pa true _ _ 179 [(.iV 3 λj_=>[iP s.tape.ik,kZ s.tape.gX,kY s.tape.iu].getD j_ .any)] (λ_=>false) (λi hi=>aoq s.tape _ (h.tape.out i hi) h8 EN) aE (λ_ _=>rfl):gV 67 [kY s.tape.iu,.fn 179 [(.iV 3 λj_=>[iP s.tape.ik,kZ s.tape.gX,kY s.tape.iu].getD j_ .any)]] _),tF 50 ((s.iz:Int)<1) aE,tF 54 (4<(s.iz:Int)) aE,ai 62 ((s.tape.iu.length:Int) != (s.iz:Int)) (wk aE),
  iq ((s.iz:Int)+s.params.length) aE,ai 73 ((s.tape.ik:Int) != ((s.iz+s.params.length:Nat):Int)) (wk aE),tF 79 (4<(s.params.length:Int)) aE,.c (Di true _ _ 180 [] (λ_=>false) (λi hi=>aos _ (h.params i hi).1 (h.params i hi).2) aE (λ_ _=>rfl):gV 53 [ig s.params,.fn 180 []] _)]) 
def R1(o:np)(x y:Iv)(p:Nat)(hx:x.ib)(hy:y.ib)(r1:3<=o.kind)(r2:o.kind<=13)(r3:o.n<=16)(il:8<=p)(ic:p<=512)(hF:o.kind<=8\/vu):gV 280 [iP o.kind,iP o.n,ij x,ij y,iP p] (ij (nf o x y p)):=
 ak call280 func280 (.w ((o.kind:Int)=3)
  (λk1=>ae [tB 13 (bc k1),.c (Am x y p aF aF aE aE)]<|rQ (ij (jS x y p)) (ij (nf o x y p)) (by unfold nf;simp[(aE:o.kind=3)]))
  (λk1=>ae [tB 13 (a7 k1)]<|.w ((o.kind:Int)=4)
   (λk2=>ae [tB 19 (bc k2),.c (KV x y p aF aF aE aE)]<|rQ (ij (sJ x y p)) (ij (nf o x y p)) (by unfold nf;simp[(aE:¬o.kind=3),(aE:o.kind=4)]))
   (λk2=>ae [tB 19 (a7 k2)]<|.w ((o.kind:Int)=5)
    (λk3=>ae [tB 25 (bc k3),.c (um x y p aF aF aE aE)]<|rQ (ij (iH x y p)) (ij (nf o x y p)) (by unfold nf;simp[(aE:¬o.kind=3),(aE:¬o.kind=4),(aE:o.kind=5)]))
    (λk3=>ae [tB 25 (a7 k3)]<|.w ((o.kind:Int)=6)
     (λk4=>ae [tB 31 (bc k4),.c (An x y p aF aF aE aE)]<|rQ (ij (jt x y p)) (ij (nf o x y p)) (by unfold nf;simp[(aE:¬o.kind=3),(aE:¬o.kind=4),(aE:¬o.kind=5),(aE:o.kind=6)]))
     (λk4=>ae [tB 31 (a7 k4)]<|.w ((o.kind:Int)=7)
      (λk5=>ae [tB 37 (bc k5),.c (KS x aF)]<|rQ (ij (qh x)) (ij (nf o x y p)) (by unfold nf;simp[(aE:¬o.kind=3),(aE:¬o.kind=4),(aE:¬o.kind=5),(aE:¬o.kind=6),(aE:o.kind=7)]))
      (λk5=>ae [tB 37 (a7 k5)]<|.w ((o.kind:Int)=8)
       (λk6=>ae [tB 41 (bc k6),ag [ij x,iP o.n,iP p] (Jn _ _ _ aF aE aE aE)]<|rQ (ij (na x o.n p)) (ij (nf o x y p)) (by unfold nf;simp[(aE:¬o.kind=3),(aE:¬o.kind=4),(aE:¬o.kind=5),(aE:¬o.kind=6),(aE:¬o.kind=7),(aE:o.kind=8)]))
       (λk6=>ae [tB 41 (a7 k6)]<|.w ((o.kind:Int)=9)
        (λk7=>ae [tB 47 (bc k7),ag [ij x,iP p] (Uw _ aF _ aE aE (hF.resolve_left aE))]<|rQ (ij (vH x p)) (ij (nf o x y p)) (by unfold nf;simp[(aE:¬o.kind=3),(aE:¬o.kind=4),(aE:¬o.kind=5),(aE:¬o.kind=6),(aE:¬o.kind=7),(aE:¬o.kind=8),(aE:o.kind=9)]))
        (λk7=>ae [tB 47 (a7 k7)]<|.w ((o.kind:Int)=10)
         (λk8=>ae [tB 52 (bc k8),ag [ij x,iP p] (Ux _ aF _ aE aE (hF.resolve_left aE))]<|rQ (ij (vI x p)) (ij (nf o x y p)) (by unfold nf;simp[(aE:¬o.kind=3),(aE:¬o.kind=4),(aE:¬o.kind=5),(aE:¬o.kind=6),(aE:¬o.kind=7),(aE:¬o.kind=8),(aE:¬o.kind=9),(aE:o.kind=10)]))
         (λk8=>ae [tB 52 (a7 k8)]<|.w ((o.kind:Int)=11)
          (λk9=>ae [tB 57 (bc k9),ag [ij x,iP p] (Uy _ aF _ aE aE (hF.resolve_left aE))]<|rQ (ij (vJ x p)) (ij (nf o x y p)) (by unfold nf;simp[(aE:¬o.kind=3),(aE:¬o.kind=4),(aE:¬o.kind=5),(aE:¬o.kind=6),(aE:¬o.kind=7),(aE:¬o.kind=8),(aE:¬o.kind=9),(aE:¬o.kind=10),(aE:o.kind=11)]))
          (λk9=>ae [tB 57 (a7 k9)]<|.w ((o.kind:Int)=12)
           (λk10=>ae [tB 62 (bc k10),ag [ij x,iP p] (Uu _ aF _ aE aE (hF.resolve_left aE))]<|rQ (ij (vG x p)) (ij (nf o x y p)) (by unfold nf;simp[(aE:¬o.kind=3),(aE:¬o.kind=4),(aE:¬o.kind=5),(aE:¬o.kind=6),(aE:¬o.kind=7),(aE:¬o.kind=8),(aE:¬o.kind=9),(aE:¬o.kind=10),(aE:¬o.kind=11),(aE:o.kind=12)]))
           (λk10=>ae [tB 62 (a7 k10)]<|.w ((o.kind:Int)=13)
            (λk11=>ae [tB 67 (bc k11),ag [ij x,iP p] (UA _ aF _ aE aE (hF.resolve_left aE))]<|rQ (ij (pM x p)) (ij (nf o x y p)) (by unfold nf;simp[(aE:¬o.kind=3),(aE:¬o.kind=4),(aE:¬o.kind=5),(aE:¬o.kind=6),(aE:¬o.kind=7),(aE:¬o.kind=8),(aE:¬o.kind=9),(aE:¬o.kind=10),(aE:¬o.kind=11),(aE:¬o.kind=12),(aE:o.kind=13)]))
            (λk11=>.x aE)))))))))))) 
def adx{nl:Bool}{T n n' sz:Nat}{f g h:Nat->Nat->E}(hn:n=n')(hh:∀ i j,i<n->j<sz->g i j=h i j/\(h i j).nr 2=true):Bx.le (.row nl T (0+n) sz λi j=>if i<0 then f i j else g (i-0) j) (.row nl T n' sz h):=
 .row aE λi j hi hj=>by
  have mS:i<n:= aE ;simp only[bE,bC,dE];exact⟨.iT (hh i j mS hj).1,(hh i j mS hj).2⟩
def Jk(r:List Iv)(h0:0<r.length)(hl:r.length<=1000):yB 63 [ig r] true 39 r.length 7 (iM r):=
 trn call63 func63 (ae [.a (aE:0<r.length),.bo,.a (aE:(0+r.length)*88<=140737488355328)]<|.rb (adx rfl λi j hi hj=>⟨rfl,uk _ _ hj⟩:Bx.le (.row true 39 (0+r.length) 7 (λi_ j_=>if i_<0 then(λi_ j_=>([]:List E).getD (i_*7+j_) (.v (.bool false))) i_ j_ else(E.kR (ig r)) (i_-0) j_)) (.row true 39 r.length 7 (iM r)))) aI 
def Rs{T n n' x:Nat}{t:qa}{xs:List Iv}{p:Nat}{y:Iv}(hn:n=(jU t.gX xs p x).length)(vW:n'=(jU t.gX xs p (x+1)).length)(hy:yF (t.gX.getD x iE) (jU t.gX xs p x) p=y):
 Bx.le (.row true T (n+[y].length) 7 λi j=>if i<n then iM (jU t.gX xs p x) i j else(E.kR (ig [y])) (i-n) j) (.row true T n' 7 (iM (jU t.gX xs p (x+1)))):=by
 subst vW hy;exact KW hn
def Fh{o:np}{m:Nat}(h:oh o m):o.n<=16:=by
 have:=h.n;split at this<;>omega
def aoF(t:qa)(xs:List Iv)(p:Nat)(h:zJ t)(h1:1<=xs.length)(hx:xs.length=t.ik)(hv:mH xs)(il:8<=p)(ic:p<=512):gV 246 [IL t,ig xs,iP p] (ig (jU t.gX xs p t.gX.length)):=by
 have h8:=h.ik;have EN:=h.gX;exact ak call246 func246 (af [.c (abb t aF),ai 19 ((xs.length:Int) != (t.ik:Int)) (wk hx),.cn (Jk _ aE aE:yB 63 [ig xs] true 39 xs.length 7 (iM xs)),.s (Sp.jc (aa9 t xs p) 0 t.gX.length aE (λx hx kW=>by
    have iB:=h.op x aE;have sG:=Mf t.gX hv (aE:1<=p) (aE:p<=4096) x;have Kv:=Rr t.gX xs p x;have w1:=sG (t.gX.getD x iE).a;by_cases oJ:((t.gX.getD x iE)).kind=1
    .have ot:((t.gX.getD x iE)).kind=1:=oJ;obtain⟨o1,o2,o3,tC⟩:=iB.num ot;have qe:yF (t.gX.getD x iE) (jU t.gX xs p x) p=(rN (t.gX.getD x iE).cn (t.gX.getD x iE).cd p):=by unfold yF;rw[bk ot]
     have qq:=qj (rN (t.gX.getD x iE).cn (t.gX.getD x iE).cd p);exact iy (ae [tT 27 ((x:Int)<t.gX.length) aE,iX (x:Int) (t.gX.length) aE,.c (YW ((t.gX.getD x iE).kind:Nat) aE),ah 50 ((0:Int)==0) aG,.c (Ze ((t.gX.getD x iE).cn) ((t.gX.getD x iE).cd) p aF aE aE),.o 71 (.e (lV _):aj (.sl true 1 7 λi_ j_=>(iO (rN ((t.gX.getD x iE).cn) ((t.gX.getD x iE).cd) p)).getD (i_*7+j_) (.v (.bool false))) (ig [rN ((t.gX.getD x iE).cn) ((t.gX.getD x iE).cd) p])),.a (aE:((jU t.gX xs p x).length+[rN ((t.gX.getD x iE).cn) ((t.gX.getD x iE).cd) p].length)*88<=140737488355328),iq ((x:Int)+1) aE]<|.e (af [.b 22 (Rs rfl rfl qe:Bx.le (.row true 39 ((jU t.gX xs p x).length+[rN ((t.gX.getD x iE).cn) ((t.gX.getD x iE).cd) p].length) 7 (λi_ j_=>if i_<(jU t.gX xs p x).length then(iM (jU t.gX xs p x)) i_ j_ else(E.kR (ig [rN ((t.gX.getD x iE).cn) ((t.gX.getD x iE).cd) p])) (i_-(jU t.gX xs p x).length) j_)) (.row true 39 ((jU t.gX xs p (x+1)).length) 7 (iM (jU t.gX xs p (x+1)))))])) aI 
    .by_cases hk:((t.gX.getD x iE)).kind<=6
     .have ph:((t.gX.getD x iE)).kind≠1:=oJ;have ot:((t.gX.getD x iE)).kind<=6:=hk;have qe:yF (t.gX.getD x iE) (jU t.gX xs p x) p=(nf (t.gX.getD x iE) ((jU t.gX xs p x).getD ((t.gX.getD x iE).a) gY) ((jU t.gX xs p x).getD ((t.gX.getD x iE).b) gY) p):=by unfold yF yG;rw[bj ph,bn ot];rfl
      obtain⟨o1,o2,o3,o4,o5,o6⟩:=iB.Cp ph ot;have w2:=sG (t.gX.getD x iE).b;have o7:=iB.xY;have qq:=qj (nf (t.gX.getD x iE) ((jU t.gX xs p x).getD ((t.gX.getD x iE).a) gY) ((jU t.gX xs p x).getD ((t.gX.getD x iE).b) gY) p);exact iy (ae [tT 27 ((x:Int)<t.gX.length) aE,iX (x:Int) (t.gX.length) aE,.c (YX ((t.gX.getD x iE).kind:Nat) aE aE),ai 50 ((2:Int)==0) aG,ai 56 ((2:Int)==1) aG,iX ((t.gX.getD x iE).a:Int) ((jU t.gX xs p x).length) aE,.a (aE:(t.gX.getD x iE).a<(jU t.gX xs p x).length),
       iX ((t.gX.getD x iE).b:Int) ((jU t.gX xs p x).length) aE,.a (aE:(t.gX.getD x iE).b<(jU t.gX xs p x).length),ag [iP ((t.gX.getD x iE).kind:Int),iP ((t.gX.getD x iE).n:Int),ij ((jU t.gX xs p x).getD (t.gX.getD x iE).a gY),ij ((jU t.gX xs p x).getD (t.gX.getD x iE).b gY),iP p] (R1 (t.gX.getD x iE) _ _ _ aF aF aE aE aE aE aE iB.f),.o 71 (.e (lV _):aj (.sl true 1 7 λi_ j_=>(iO (nf (t.gX.getD x iE) ((jU t.gX xs p x).getD (t.gX.getD x iE).a gY) ((jU t.gX xs p x).getD (t.gX.getD x iE).b gY) p)).getD (i_*7+j_) (.v (.bool false))) (ig [nf (t.gX.getD x iE) ((jU t.gX xs p x).getD (t.gX.getD x iE).a gY) ((jU t.gX xs p x).getD (t.gX.getD x iE).b gY) p])),.a (aE:((jU t.gX xs p x).length+[nf (t.gX.getD x iE) ((jU t.gX xs p x).getD (t.gX.getD x iE).a gY) ((jU t.gX xs p x).getD (t.gX.getD x iE).b gY) p].length)*88<=140737488355328),
       iq ((x:Int)+1) aE]<|.e (af [.b 22 (Rs rfl rfl qe:Bx.le (.row true 39 ((jU t.gX xs p x).length+[nf (t.gX.getD x iE) ((jU t.gX xs p x).getD (t.gX.getD x iE).a gY) ((jU t.gX xs p x).getD (t.gX.getD x iE).b gY) p].length) 7 (λi_ j_=>if i_<(jU t.gX xs p x).length then(iM (jU t.gX xs p x)) i_ j_ else(E.kR (ig [nf (t.gX.getD x iE) ((jU t.gX xs p x).getD (t.gX.getD x iE).a gY) ((jU t.gX xs p x).getD (t.gX.getD x iE).b gY) p])) (i_-(jU t.gX xs p x).length) j_)) (.row true 39 ((jU t.gX xs p (x+1)).length) 7 (iM (jU t.gX xs p (x+1)))))])) aI 
     .have ph:((t.gX.getD x iE)).kind≠1:=oJ;have ot:¬((t.gX.getD x iE)).kind<=6:=hk;have qe:yF (t.gX.getD x iE) (jU t.gX xs p x) p=(nf (t.gX.getD x iE) ((jU t.gX xs p x).getD ((t.gX.getD x iE).a) gY) gY p):=by unfold yF yG;rw[bj ph,bt ot];rfl
      have w2:=mg;have o2:=iB.D4 ph;have o7:=iB.xY;have o8:=Fh iB;have qq:=qj (nf (t.gX.getD x iE) ((jU t.gX xs p x).getD ((t.gX.getD x iE).a) gY) gY p);exact iy (ae [tT 27 ((x:Int)<t.gX.length) aE,iX (x:Int) (t.gX.length) aE,.c (Qb ((t.gX.getD x iE).kind:Nat) aE aE),ai 50 ((1:Int)==0) aG,ah 56 ((1:Int)==1) aG,iX ((t.gX.getD x iE).a:Int) ((jU t.gX xs p x).length) aE,.a (aE:(t.gX.getD x iE).a<(jU t.gX xs p x).length),.o 66 (.e Mj:aj (.agg [bP false,.v (.slice none 0 0),iP 0,bP false,.v (.slice none 0 0),iP 0,bP true]) (ij gY)),ag [iP ((t.gX.getD x iE).kind:Int),iP ((t.gX.getD x iE).n:Int),ij ((jU t.gX xs p x).getD (t.gX.getD x iE).a gY),ij gY,iP p] (R1 (t.gX.getD x iE) _ _ _ aF aF aE aE aE aE aE iB.f),.o 71 (.e (lV _):aj (.sl true 1 7 λi_ j_=>(iO (nf (t.gX.getD x iE) ((jU t.gX xs p x).getD (t.gX.getD x iE).a gY) gY p)).getD (i_*7+j_) (.v (.bool false))) (ig [nf (t.gX.getD x iE) ((jU t.gX xs p x).getD (t.gX.getD x iE).a gY) gY p])),.a (aE:((jU t.gX xs p x).length+[nf (t.gX.getD x iE) ((jU t.gX xs p x).getD (t.gX.getD x iE).a gY) gY p].length)*88<=140737488355328),iq ((x:Int)+1) aE]<|.e (af [.b 22 (Rs rfl rfl qe:Bx.le (.row true 39 ((jU t.gX xs p x).length+[nf (t.gX.getD x iE) ((jU t.gX xs p x).getD (t.gX.getD x iE).a gY) gY p].length) 7 (λi_ j_=>if i_<(jU t.gX xs p x).length then(iM (jU t.gX xs p x)) i_ j_ else(E.kR (ig [nf (t.gX.getD x iE) ((jU t.gX xs p x).getD (t.gX.getD x iE).a gY) gY p])) (i_-(jU t.gX xs p x).length) j_)) (.row true 39 ((jU t.gX xs p (x+1)).length) 7 (iM (jU t.gX xs p (x+1)))))])) aI)
  (λhx=>by
    exact iy (ae [tF 27 ((t.gX.length:Int)<t.gX.length) aE,.z 22]<|.e (af [.o 7 (.e (EV aK):aj (.sl true ((jU t.gX xs p t.gX.length).length) 7 (iM (jU t.gX xs p t.gX.length))) (ig (jU t.gX xs p t.gX.length)))])) aI) aM:jb 5 f246 (aa9 t xs p 0) (.exit 0) ⟨75,true,[(7,.e (ig (jU t.gX xs p t.gX.length)))],[]⟩) (af [.b 22 (.iT rfl:Bx.le (.row true 39 xs.length 7 (iM xs)) (.row true 39 ((jU t.gX xs p 0).length) 7 (iM (jU t.gX xs p 0))))])]) 
def oH(m:List (List Iv)):Nat->List Iv
 | 0=>[]
 |k+1=>oH m k++m.getD k []
def M0(m:List (List Iv))(k:Nat):(oH m (k+1)).length=(oH m k).length+(m.getD k []).length:=by simp[oH]
def aiW{T n n':Nat}{xs r:List Iv}(hn:n=xs.length)(vW:n'=(xs++r).length):Bx.le (.row true T (n+r.length) 7 λi j=>if i<n then iM xs i j else(E.kR (ig r)) (i-n) j) (.row true T n' 7 (iM (xs++r))):=by
 subst hn vW;refine .row aK λi j hi hj=>⟨.iT ?_,uk _ _ hj⟩
 by_cases h:i<xs.length
 .rw [bk h];show(iO (xs.getD i gY)).getD j .any=(iO ((xs++r).getD i gY)).getD j .any;congr 2;simp[bw,dH h]
 .rw [bj h];show(iO (r.getD (i-xs.length) gY)).getD j .any=(iO ((xs++r).getD i gY)).getD j .any;congr 2;simp[bw,fu (aE:xs.length<=i)]
def E5(a b:List Iv):E.le (.sl true 2 1 λi j=>[ig a,ig b].getD (i*1+j) (.v (.bool false))) (kX [a,b]):=.sl λi j hi hj=>by
 obtain rfl:j=0:= aE ;obtain rfl|rfl:i=0\/i=1:= aE 
 all_goals exact⟨.refl _,rfl⟩
def am6{n:Nat}:E.le (.sl true n 1 λk _=>.sl true ((λ_=>0) k) 7 ((λ_ _ _=>.any) k)) (kX (List.replicate n [])):=by
 have h:kX (List.replicate n []) = .sl true n 1 λi _=>ig ((List.replicate n []).getD i []):=by unfold kX;rw[List.length_replicate]
 rw[h];refine .sl λi j hi hj=>⟨?_,rfl⟩
 have e:(List.replicate n ([]:List Iv)).getD i []=[]:=by simp[bw,hi]
 rw[e];exact .sl λq _ hq _=>absurd hq (bE _)
def SW(m:List (List Iv))(x:Nat):PS:=⟨36,true,[(11,.e (iP x)),(10,.e (iP m.length)),(9,.e (kX m)),(3,.e (iP ((oH m x).length:Int))),(0,.e (kX m))],[]⟩
def SX(m:List (List Iv))(x:Nat):PS:=⟨36,true,[(27,.e (iP x)),(26,.e (iP m.length)),(25,.e (kX m)),(6,.own 24)],[(24,.row true 39 ((oH m x).length) 7 (iM (oH m x)))]⟩
noncomputable def Vg(t:qa)(xs:List Iv)(p:Nat)(x:Nat):PS:=⟨91,true,[(43,.e (iP x)),(42,.e (iP 0)),(11,.own 41),(10,.e (ig (jU t.gX xs p t.gX.length))),(4,.box 4 0),(3,.e (iP p))],[(41,.jR true 26 39 t.iu.length 7 (λ_=>0) (λ_ _ _=>.any) .none),(4,.cells 25 [iP t.ik,kZ t.gX,kY t.iu])]⟩
noncomputable def Vf(t:qa)(xs:List Iv)(p:Nat)(x:Nat):PS:=⟨91,true,[(16,.own 16),(77,.e (iP x)),(76,.e (iP t.iu.length)),(75,.e (kY t.iu)),(11,.own 41),(10,.e (ig (jU t.gX xs p t.gX.length)))],[(16,.row true 39 x 7 (iM ((List.range x).map (λj_=>(jU t.gX xs p t.gX.length).getD (t.iu.getD j_ 0) gY)))),(41,.jR true 26 39 t.iu.length 7 (λ_=>0) (λ_ _ _=>.any) .none)]⟩
def ae8(m:List (List Iv))(hl:m.length<=1000)(hb:∀ k,k<=m.length->(oH m k).length<=1000):gV 301 [kX m] (ig (oH m m.length)):=by
 have Bs:=hb m.length (bu _);exact ak call301 func301 (af [.s (Sp.jc (SW m) 0 m.length aE (λx hx kW=>by
    have kD:=hb (x+1) aE;rw[M0]at kD;exact iy (ae [tT 12 ((x:Int)<m.length) aE,iX (x:Int) (m.length) aE,iq (((oH m x).length:Int)+((m.getD x []).length:Int)) aE,tF 20 ((((oH m x).length+(m.getD x []).length:Nat):Int)<0) aE,iq ((x:Int)+1) aE]<|.e (af [.o 3 (aq (((oH m x).length+(m.getD x []).length:Nat):Int) ((oH m (x+1)).length:Int) (by rw[M0]))])) aI)
  (λhx=>by
    exact iy (af [tF 12 ((m.length:Int)<m.length) aE]) aI) aM:jb 3 f301 (SW m 0) (.exit 0) ⟨36,true,[(3,.e (iP ((oH m m.length).length:Int))),(0,.e (kX m))],[]⟩) (af [.o 3 (aq 0 ((oH m 0).length:Int) rfl)]),.cn (ahx _ aE:yB 326 [.v (.slice none 0 0),iP ((oH m m.length).length:Int)] true 39 0 7 (iM [])),.s (Sp.jc (SX m) 0 m.length aE (λx hx kW=>by
    have kD:=hb (x+1) aE;rw[M0]at kD;exact iy (ae [tT 28 ((x:Int)<m.length) aE,iX (x:Int) (m.length) aE,.a (aE:((oH m x).length+(m.getD x []).length)*88<=140737488355328),iq ((x:Int)+1) aE]<|.e (af [.b 24 (aiW rfl rfl:Bx.le (.row true 39 ((oH m x).length+(m.getD x []).length) 7 (λi_ j_=>if i_<(oH m x).length then(iM (oH m x)) i_ j_ else(E.kR (ig (m.getD x []))) (i_-(oH m x).length) j_)) (.row true 39 ((oH m (x+1)).length) 7 (iM (oH m (x+1)))))])) aI)
  (λhx=>by
    exact iy (ae [tF 28 ((m.length:Int)<m.length) aE,.z 24]<|.e (af [.o 6 (.e (EV aK):aj (.sl true ((oH m m.length).length) 7 (iM (oH m m.length))) (ig (oH m m.length)))])) aI) aM:jb 11 f301 (SX m 0) (.exit 2) ⟨36,true,[(6,.e (ig (oH m m.length)))],[]⟩) (af [.b 24 (.iT rfl:Bx.le (.row true 39 0 7 (iM [])) (.row true 39 ((oH m 0).length) 7 (iM (oH m 0))))])]) 
def Tw(a b:List Iv)(ha:a.length<=400)(hb:b.length<=400):gV 301 [kX [a,b]] (ig (a++b)):=by
 have e1:oH [a,b] 1=a:=rfl;have e2:oH [a,b] 2=a++b:=rfl;have:=ae8 [a,b] aK λk hk=>by
  have hk:k<=2:=hk;rcases k with _|_|_|k
  .exact bS _
  .rw [e1];omega
  .rw [e2,cz];omega
  .omega
 rwa[show[a,b].length=2 from rfl,e2]at this
def ND(p:Int):gV 299 [iP p] (bP (nj p)):=
 ak call299 func299 (.w (8<=p)
  (λk1=>ae [tB 4 (bn k1)]<|rQ (bP (decide (p<=512))) (bP (nj p)) (by unfold nj;simp[k1]))
  (λk1=>ae [tB 4 (bt k1)]<|rQ (bP false) (bP (nj p)) (by unfold nj;simp[k1]))) 
def agK(x:Iv)(hx:x.ib):gV 339 [ij x] (bP false):=
 ak call339 func339 (af [.c (se x aF)]) 
def agL(t:qa)(xs:List Iv)(p:Nat)(h:zJ t)(h1:1<=xs.length)(hx:xs.length=t.ik)(hv:mH xs)(il:8<=p)(ic:p<=512):gV 324 [IL t,ig xs,iP p] (bP true):=by
 have h8:=h.ik;exact ak call324 func324 (af [.c (abb t aF),ah 14 ((xs.length:Int)==t.ik) (PR hx),.c (ND (p:Int)),ah 18 (nj (p:Int)) (sT.2 ⟨aE,aE⟩),.c (Di true _ _ 339 [] (λ_=>false) (λi hi=>agK _ (hv i)) aE (λ_ _=>rfl):gV 53 [ig xs,.fn 339 []] _)]) 
def agw(t:qa)(xs:List Iv)(p:Nat):(List.range t.iu.length).map (λj=>(jU t.gX xs p t.gX.length).getD (t.iu.getD j 0) gY)=kH t xs p:=by
 unfold kH;apply fZ;intro i;rw[cF,cF];by_cases hi:i<t.iu.length
 .rw [bF (by simpa using hi),bF hi];simp[bw,hi]
 .rw [ch (by simpa using hi),ch aE];rfl
def Vh(t:qa)(xs:List Iv)(p:Nat)(h:zJ t)(h1:1<=xs.length)(hx:xs.length=t.ik)(hv:mH xs)(il:8<=p)(ic:p<=512):gV 300 [IL t,ig xs,iP 0,iP p] (.iw [ig (kH t xs p),kX (List.replicate t.iu.length [])]):=by
 have h8:=h.ik;have EN:=h.gX;have qH:=h.iu;exact ak call300 func300 (ae [.c (agL t xs p h h1 hx hv aE aE),ai 26 (decide ((0:Int)<0)) aG,tF 32 ((t.ik:Int)<0) aE,.c (aoF t xs p h h1 hx hv aE aE),.a (aE:0<=((t.iu.length:Int):Int)/\((t.iu.length:Int):Int)<=((t.iu.length:Int):Int)),.a (aE:((24:Nat):Int)*(t.iu.length:Int)<=281474976710656/\((t.iu.length:Int):Int)<=9223372036854775807),.s (Sp.jc (Vg t xs p) 0 0 aE (λx hx kW=>by
    exact absurd kW (bE _))
  (λhx=>by
    exact iy (af [ai 44 (decide ((0:Int)<0)) aG]) aI) aM:jb 6 f300 (Vg t xs p 0) (.exit 0) ⟨91,true,[(11,.own 41),(10,.e (ig (jU t.gX xs p t.gX.length))),(4,.box 4 0)],[(41,.jR true 26 39 t.iu.length 7 (λ_=>0) (λ_ _ _=>.any) .none),(4,.cells 25 [iP t.ik,kZ t.gX,kY t.iu])]⟩) .nil,.y 16 16 true 39 7 (iM ((List.range 0).map (λj_=>(jU t.gX xs p t.gX.length).getD (t.iu.getD j_ 0) gY))),.s (Sp.jc (Vf t xs p) 0 t.iu.length aE (λx hx kW=>by
    have hot:=h.out x aE;have Kv:=Rr t.gX xs p t.gX.length;have qq:=qj ((jU t.gX xs p t.gX.length).getD (t.iu.getD x 0) gY);exact iy (ae [tT 78 ((x:Int)<t.iu.length) aE,iX (x:Int) (t.iu.length) aE,iX (t.iu.getD x 0:Int) ((jU t.gX xs p t.gX.length).length) aE,.o 86 (.e (lV _):aj (.sl true 1 7 λi_ j_=>(iO ((jU t.gX xs p t.gX.length).getD (t.iu.getD x 0) gY)).getD (i_*7+j_) (.v (.bool false))) (ig [(jU t.gX xs p t.gX.length).getD (t.iu.getD x 0) gY])),.a (aE:(x+[(jU t.gX xs p t.gX.length).getD (t.iu.getD x 0) gY].length)*88<=140737488355328),iq ((x:Int)+1) aE]<|.e (af [.b 16 (Dj rfl rfl rfl:Bx.le (.row true 39 (x+[(jU t.gX xs p t.gX.length).getD (t.iu.getD x 0) gY].length) 7 (λi_ j_=>if i_<x then(iM ((List.range x).map (λj_=>(jU t.gX xs p t.gX.length).getD (t.iu.getD j_ 0) gY))) i_ j_ else(E.kR (ig [(jU t.gX xs p t.gX.length).getD (t.iu.getD x 0) gY])) (i_-x) j_)) (.row true 39 (x+1) 7 (iM ((List.range (x+1)).map (λj_=>(jU t.gX xs p t.gX.length).getD (t.iu.getD j_ 0) gY)))))])) aI)
  (λhx=>by
    exact iy (ae [tF 78 ((t.iu.length:Int)<t.iu.length) aE,.z 16]<|.e (af [.o 16 (.e (EV aK):aj (.sl true t.iu.length 7 (iM ((List.range t.iu.length).map (λj_=>(jU t.gX xs p t.gX.length).getD (t.iu.getD j_ 0) gY)))) (ig ((List.range t.iu.length).map (λj_=>(jU t.gX xs p t.gX.length).getD (t.iu.getD j_ 0) gY))))])) aI) aM:jb 17 f300 (Vf t xs p 0) (.exit 4) ⟨91,true,[(16,.e (ig ((List.range t.iu.length).map (λj_=>(jU t.gX xs p t.gX.length).getD (t.iu.getD j_ 0) gY)))),(11,.own 41)],[(41,.jR true 26 39 t.iu.length 7 (λ_=>0) (λ_ _ _=>.any) .none)]⟩) .nil]<|rR (.iw [ig (kH t xs p),kX (List.replicate t.iu.length [])]) (.iw (.cons (.iT (by rw[agw])) (.cons am6 .nil)):E.le (.iw [ig ((List.range t.iu.length).map (λj_=>(jU t.gX xs p t.gX.length).getD (t.iu.getD j_ 0) gY)),(.sl true t.iu.length 1 λk_ _=>.sl true ((λ_=>0) k_) 7 ((λ_ _ _=>.any) k_))]) (.iw [ig (kH t xs p),kX (List.replicate t.iu.length [])]))) 
def agG(x:Iv):gV 323 [ij x] (bP x.all):=
 ak call323 func323 (.nil) 
def Gs(l:List Iv)(hl:l.length<=1000):gV 297 [ig l] (bP (rC l)):=
 ak call297 func297 (af [.c (Pf true _ _ 323 [] (λi=>(l.getD i gY).all) (λi hi=>agG _) aE:gV 53 [ig l,.fn 323 []] _)]) 
def Vc(x:Iv)(hx:x.ib):gV 298 [ij x] (bP false):=
 ak call298 func298 (af [.c (se x aF)]) 
def amJ(n:Nat)(hn:n<=1000):gV 50 [kX (List.replicate n []),.fn 297 []] (bP false):=by
 have e:∀ i,i<n->(List.replicate n ([]:List Iv)).getD i []=[]:=λi hi=>by simp[bw,hi]
 refine am2 true _ _ 297 [] (λ_=>false) (λi hi=>?_) (by simpa using by omega) (λ_ _=>rfl);have mS:i<n:=by simpa using hi
 show gV 297 [ig ((List.replicate n []).getD i [])] _;rw[e i mS];exact Gs [] aK 
def YI{l:List Iv}(h:qP l):rC l=false:=by
 unfold rC;rw[dp];intro i hi;rw[(h i (b5.1 hi)).2];decide
def Jw{s:jM}{b:List Iv}(h:mh s)(hb:kG s.iz b):zJ s.tape/\1<=(b++s.params).length/\(b++s.params).length=s.tape.ik/\mH (b++s.params):=by
 have h1:=h.s1;have h2:=h.ik;have h3:=hb.len;refine⟨h.tape,?_,?_,hb.ok.Rq.append h.params.Rq⟩
 .rw [cz];omega
 .rw [cz];omega
def agH(s:jM)(b:List Iv)(p:Nat)(h:mh s)(hb:kG s.iz b)(il:8<=p)(ic:p<=512)(hn:rC (kH s.tape (b++s.params) p)=true):gV 266 [lE s,ig b,iP 0,iP p] (.iw [.v (.slice none 0 0),.v (.slice none 0 0),iP 11]):=by
 have s4:=h.s4;have p4:=h.p4;have GR:=hb.len;have qH:=h.tape.iu;have CY:=YI hb.ok;have Bw:=JY s.tape (b++s.params) p;obtain⟨f1,f2,f3,f4⟩:=Jw h hb;exact ak call266 func266 (af [.c (AL s aF),ai 21 ((b.length:Int) != (s.iz:Int)) (wk hb.len),.c (Gs b aE),ai 25 (rC b) CY,.c (Di true _ _ 298 [] (λ_=>false) (λi hi=>Vc _ (hb.ok i hi).1) aE (λ_ _=>rfl):gV 53 [ig b,.fn 298 []] _),.c (ND (p:Int)),ah 32 (nj (p:Int)) (sT.2 ⟨aE,aE⟩),.o 40 (.e (E5 _ _):aj (.sl true 2 1 λi_ j_=>[ig b,ig s.params].getD (i_*1+j_) (.v (.bool false))) (kX [b,s.params])),ag [kX [b,s.params]] (Tw b s.params aE aE),.c (Vh s.tape (b++s.params) p f1 f2 f3 f4 aE aE),.c (Gs (kH s.tape (b++s.params) p) aE),ah 48 (rC (kH s.tape (b++s.params) p)) hn]) 
def agI(s:jM)(b:List Iv)(p:Nat)(h:mh s)(hb:kG s.iz b)(il:8<=p)(ic:p<=512)(hn:rC (kH s.tape (b++s.params) p)=false):gV 266 [lE s,ig b,iP 0,iP p] (.iw [ig (kH s.tape (b++s.params) p),kX (List.replicate s.tape.iu.length []),iP 0]):=by
 have s4:=h.s4;have p4:=h.p4;have GR:=hb.len;have qH:=h.tape.iu;have CY:=YI hb.ok;have Bw:=JY s.tape (b++s.params) p;obtain⟨f1,f2,f3,f4⟩:=Jw h hb;exact ak call266 func266 (af [.c (AL s aF),ai 21 ((b.length:Int) != (s.iz:Int)) (wk hb.len),.c (Gs b aE),ai 25 (rC b) CY,.c (Di true _ _ 298 [] (λ_=>false) (λi hi=>Vc _ (hb.ok i hi).1) aE (λ_ _=>rfl):gV 53 [ig b,.fn 298 []] _),.c (ND (p:Int)),ah 32 (nj (p:Int)) (sT.2 ⟨aE,aE⟩),.o 40 (.e (E5 _ _):aj (.sl true 2 1 λi_ j_=>[ig b,ig s.params].getD (i_*1+j_) (.v (.bool false))) (kX [b,s.params])),ag [kX [b,s.params]] (Tw b s.params aE aE),.c (Vh s.tape (b++s.params) p f1 f2 f3 f4 aE aE),.c (Gs (kH s.tape (b++s.params) p) aE),ai 48 (rC (kH s.tape (b++s.params) p)) hn,ag [kX (List.replicate s.tape.iu.length []),.fn 297 []] (amJ _ aE)]) 
def agJ(s:jM)(b:List Iv)(p:Nat)(h:mh s)(hb:kG s.iz b)(il:8<=p)(ic:p<=512)(hn:rC (kH s.tape (b++s.params) p)=true):gV 226 [lE s,ig b,iP p] (.iw [.v (.slice none 0 0),iP 11]):=
 ak call226 func226 (af [.c (agH s b p h hb il ic hn)]) 
def Vd(s:jM)(b:List Iv)(p:Nat)(h:mh s)(hb:kG s.iz b)(il:8<=p)(ic:p<=512)(hn:rC (kH s.tape (b++s.params) p)=false):gV 226 [lE s,ig b,iP p] (.iw [ig (kH s.tape (b++s.params) p),iP 0]):=
 ak call226 func226 (af [.c (agI s b p h hb il ic hn)]) 
noncomputable def WJ(s:jM)(x:List Iv)(d:Dy)(b:List Iv)(p:Nat)(N:Nat)(i:Nat):PS:=⟨66,true,[(14,.own 14),(42,.e (iP i)),(41,.e (iP x.length)),(13,.box 13 0),(11,.e (ig (kH s.tape (b++s.params) p))),(1,.e (ig x)),(4,.e (iP p))],[(14,.row true 39 i 7 (iM ((List.range i).map (λj_=>(jS (x.getD j_ gY) (iH (mK d) ((kH s.tape (b++s.params) p).getD j_ gY) p) p))))),(13,.cells 39 (ar++ix d++[bP false]))]⟩
noncomputable def WK(s:jM)(x:List Iv)(d:Dy)(b:List Iv)(p:Nat)(i:Nat):PS:=⟨66,true,[(14,.own 14),(42,.e (iP i)),(41,.e (iP x.length)),(13,.box 13 0),(11,.e (ig (kH s.tape (b++s.params) p))),(1,.e (ig x)),(4,.e (iP p))],[(14,.row true 39 i 7 (iM ((List.range i).map (λj_=>(jS (x.getD j_ gY) (iH (mK d) ((kH s.tape (b++s.params) p).getD j_ gY) p) p))))),(13,.cells 39 (ar++ix d++[bP false]))]⟩
def T8(s:jM)(x:List Iv)(d:Dy)(p:Nat)(N:Nat)(k:Nat):PS:=⟨55,true,[(22,.e (iP k)),(10,.pI 121 [.box 5,.box 4,.box 6,.box 7]),(7,.box 7 0),(6,.box 6 0),(5,.box 5 0),(4,.box 4 0)],[(7,.cells 3 [iP p]),(6,.cells 31 (ix d)),(5,.cells 26 [ig x]),(4,.cells 28 [iP s.tape.ik,kZ s.tape.gX,kY s.tape.iu,iP s.iz,ig s.params])]⟩
def T9(s:jM)(x:List Iv)(d:Dy)(p:Nat)(k:Nat):PS:=⟨55,true,[(22,.e (iP k)),(10,.pI 121 [.box 5,.box 4,.box 6,.box 7]),(7,.box 7 0),(6,.box 6 0),(5,.box 5 0),(4,.box 4 0)],[(7,.cells 3 [iP p]),(6,.cells 31 (ix d)),(5,.cells 26 [ig x]),(4,.cells 28 [iP s.tape.ik,kZ s.tape.gX,kY s.tape.iu,iP s.iz,ig s.params])]⟩
noncomputable def Uc(s:jM)(x:List Iv)(d:Dy)(p:Nat)(N:Nat)(j:Nat):PS:=⟨55,true,[(36,.e (iP j)),(14,.e (ig (lM s x d p j))),(7,.box 7 0),(6,.box 6 0),(5,.box 5 0),(4,.box 4 0)],[(7,.cells 3 [iP p]),(6,.cells 31 (ix d)),(5,.cells 26 [ig x]),(4,.cells 28 [iP s.tape.ik,kZ s.tape.gX,kY s.tape.iu,iP s.iz,ig s.params])]⟩
def Ua(s:jM)(x:List Iv)(d:Dy)(p:Nat)(k:Nat):PS:=⟨55,true,[(22,.e (iP k)),(10,.pI 121 [.box 5,.box 4,.box 6,.box 7]),(7,.box 7 0),(6,.box 6 0),(5,.box 5 0),(4,.box 4 0)],[(7,.cells 3 [iP p]),(6,.cells 31 (ix d)),(5,.cells 26 [ig x]),(4,.cells 28 [iP s.tape.ik,kZ s.tape.gX,kY s.tape.iu,iP s.iz,ig s.params])]⟩
noncomputable def Ud(s:jM)(x:List Iv)(d:Dy)(p:Nat)(j:Nat):PS:=⟨55,true,[(36,.e (iP j)),(14,.e (ig (lM s x d p j))),(7,.box 7 0),(6,.box 6 0),(5,.box 5 0),(4,.box 4 0)],[(7,.cells 3 [iP p]),(6,.cells 31 (ix d)),(5,.cells 26 [ig x]),(4,.cells 28 [iP s.tape.ik,kZ s.tape.gX,kY s.tape.iu,iP s.iz,ig s.params])]⟩
def ac4(x:Iv)(hx:x.ib)(xa:x.all=false):gV 240 [ij x] (bP false):=
 ak call240 func240 (af [.c (se x aF),ai 8 x.all xa]) 
def Js(s:jM)(b:List Iv)(hb:kG s.iz b)(h4:s.iz<=4):gV 195 [lE s,ig b] (bP true):=by
 have GR:=hb.len;exact ak call195 func195 (af [ah 9 ((b.length:Int)==s.iz) (PR hb.len),.c (Di true _ _ 240 [] (λ_=>false) (λi hi=>ac4 _ (hb.ok i hi).1 (hb.ok i hi).2) aE (λ_ _=>rfl):gV 53 [ig b,.fn 240 []] _)]) 
def CF(s:jM)(x:List Iv)(d:Dy)(p:Nat)(h:mh s)(hx:kG s.iz x)(hd:d.ib)(h0:0<d.iI)(il:8<=p)(ic:p<=512):gV 120 [lE s,ig x,gZ d,iP p] (bP true):=by
 have s4:=h.s4;exact ak call120 func120 (af [.c (AL s aF),.c (Js s x hx aE),ag [gZ d] (nB _ aF),ag [gZ d] (nA _ aF),tB 23 (bn h0),tT 27 (8<=(p:Int)) aE,tT 31 ((p:Int)<=512) aE]) 
def ail(s:jM)(x:List Iv)(d:Dy)(b:List Iv)(p:Nat)(h:mh s)(hx:kG s.iz x)(hd:d.ib)(h0:0<d.iI)(hb:kG s.iz b)(il:8<=p)(ic:p<=512)(hn:rC (kH s.tape (b++s.params) p)=true):gV 167 [lE s,ig x,gZ d,ig b,iP p] (.v (.slice none 0 0)):=by
 have s4:=h.s4;exact ak call167 func167 (af [.c (CF s x d p h hx hd h0 il ic),.c (Js s b hb s4),.c (agJ s b p h hb il ic hn),ah 37 ((11:Int) != 0) aG]) 
def Q5(d:Dy):E.le (.agg (ar++ix d++[bP false])) (ij (mK d)):=
 .agg (.cons (.refl _) (.cons DA (.cons (.refl _) (.cons (.refl _) (.cons (.refl _) (.cons (.refl _) (.cons (.refl _) .nil)))))))
def aim(s:jM)(x:List Iv)(d:Dy)(b:List Iv)(p:Nat)(h:mh s)(hx:kG s.iz x)(hd:d.ib)(h0:0<d.iI)(hb:kG s.iz b)(il:8<=p)(ic:p<=512)(hn:rC (kH s.tape (b++s.params) p)=false)(N:Nat)(oR:N<x.length)(jm:∀ i,i<N->(jS (x.getD i gY) (iH (mK d) ((kH s.tape (b++s.params) p).getD i gY) p) p).all=false)(hN:(jS (x.getD N gY) (iH (mK d) ((kH s.tape (b++s.params) p).getD N gY) p) p).all=true):gV 167 [lE s,ig x,gZ d,ig b,iP p] (.v (.slice none 0 0)):=by
 have s4:=h.s4;have Af:=hx.len;have qH:=h.iu;have Bw:=JY s.tape (b++s.params) p;obtain⟨f1,f2,f3,f4⟩:=Jw h hb;have fv:=UC s.tape f4 (aE:1<=p) (aE:p<=4096);have hq:0<d.q:=(sI d).1.1 h0;have hst:=aaX hd (bN hq);exact ak call167 func167 (af [.c (CF s x d p h hx hd h0 il ic),.c (Js s b hb s4),.c (Vd s b p h hb il ic hn),ai 37 ((0:Int) != 0) aG,.y 14 14 true 39 7 (iM ((List.range 0).map (λj_=>(jS (x.getD j_ gY) (iH (mK d) ((kH s.tape (b++s.params) p).getD j_ gY) p) p)))),.s (Sp.jc (WJ s x d b p N) 0 N aE (λi hi oK=>by
    have w1:=(hx.ok i aE).1;have w2:=fv i;have w3:=oL (mK d) ((kH s.tape (b++s.params) p).getD i gY) (aE:1<=p) (aE:p<=4096);have qq:=qj (jS (x.getD i gY) (iH (mK d) ((kH s.tape (b++s.params) p).getD i gY) p) p);exact iy (ae [tT 43 ((i:Int)<x.length) aE,iX (i:Int) (x.length) aE,.o 49 (.e (Q5 d):aj (.agg (ar++ix d++[bP false])) (ij (mK d))),iX (i:Int) ((kH s.tape (b++s.params) p).length) aE,.c (um (mK d) ((kH s.tape (b++s.params) p).getD i gY) p aF aF aE aE),.c (Am (x.getD i gY) (iH (mK d) ((kH s.tape (b++s.params) p).getD i gY) p) p aF aF aE aE),ai 59 ((jS (x.getD i gY) (iH (mK d) ((kH s.tape (b++s.params) p).getD i gY) p) p).all) (jm i aE),.o 62 (.e (lV _):aj (.sl true 1 7 λi_ j_=>(iO (jS (x.getD i gY) (iH (mK d) ((kH s.tape (b++s.params) p).getD i gY) p) p)).getD (i_*7+j_) (.v (.bool false))) (ig [jS (x.getD i gY) (iH (mK d) ((kH s.tape (b++s.params) p).getD i gY) p) p])),.a (aE:(i+[jS (x.getD i gY) (iH (mK d) ((kH s.tape (b++s.params) p).getD i gY) p) p].length)*88<=140737488355328),iq ((i:Int)+1) aE]<|.e (af [.b 14 (Dj rfl rfl rfl:Bx.le (.row true 39 (i+[jS (x.getD i gY) (iH (mK d) ((kH s.tape (b++s.params) p).getD i gY) p) p].length) 7 (λi_ j_=>if i_<i then(iM ((List.range i).map (λj_=>(jS (x.getD j_ gY) (iH (mK d) ((kH s.tape (b++s.params) p).getD j_ gY) p) p)))) i_ j_ else(E.kR (ig [jS (x.getD i gY) (iH (mK d) ((kH s.tape (b++s.params) p).getD i gY) p) p])) (i_-i) j_)) (.row true 39 (i+1) 7 (iM ((List.range (i+1)).map (λj_=>(jS (x.getD j_ gY) (iH (mK d) ((kH s.tape (b++s.params) p).getD j_ gY) p) p))))))])) aI)
  (λhi=>by
    have w1:=(hx.ok N aE).1;have w2:=fv N;have w3:=oL (mK d) ((kH s.tape (b++s.params) p).getD N gY) (aE:1<=p) (aE:p<=4096);exact iy (af [tT 43 ((N:Int)<x.length) aE,iX (N:Int) (x.length) aE,.o 49 (.e (Q5 d):aj (.agg (ar++ix d++[bP false])) (ij (mK d))),iX (N:Int) ((kH s.tape (b++s.params) p).length) aE,.c (um (mK d) ((kH s.tape (b++s.params) p).getD N gY) p aF aF aE aE),.c (Am (x.getD N gY) (iH (mK d) ((kH s.tape (b++s.params) p).getD N gY) p) p aF aF aE aE),ah 59 ((jS (x.getD N gY) (iH (mK d) ((kH s.tape (b++s.params) p).getD N gY) p) p).all) hN]) aI) aM:jb 9 f167 (WJ s x d b p N 0) .ret ⟨66,true,[(10,.e (.v (.slice none 0 0)))],[]⟩) .nil]) 
def ain(s:jM)(x:List Iv)(d:Dy)(b:List Iv)(p:Nat)(h:mh s)(hx:kG s.iz x)(hd:d.ib)(h0:0<d.iI)(hb:kG s.iz b)(il:8<=p)(ic:p<=512)(hn:rC (kH s.tape (b++s.params) p)=false)(jm:∀ i,i<x.length->(jS (x.getD i gY) (iH (mK d) ((kH s.tape (b++s.params) p).getD i gY) p) p).all=false):gV 167 [lE s,ig x,gZ d,ig b,iP p] (ig ((List.range x.length).map (λj_=>(jS (x.getD j_ gY) (iH (mK d) ((kH s.tape (b++s.params) p).getD j_ gY) p) p)))):=by
 have s4:=h.s4;have Af:=hx.len;have qH:=h.iu;have Bw:=JY s.tape (b++s.params) p;obtain⟨f1,f2,f3,f4⟩:=Jw h hb;have fv:=UC s.tape f4 (aE:1<=p) (aE:p<=4096);have hq:0<d.q:=(sI d).1.1 h0;have hst:=aaX hd (bN hq);exact ak call167 func167 (af [.c (CF s x d p h hx hd h0 il ic),.c (Js s b hb s4),.c (Vd s b p h hb il ic hn),ai 37 ((0:Int) != 0) aG,.y 14 14 true 39 7 (iM ((List.range 0).map (λj_=>(jS (x.getD j_ gY) (iH (mK d) ((kH s.tape (b++s.params) p).getD j_ gY) p) p)))),.s (Sp.jc (WK s x d b p) 0 x.length aE (λi hi oK=>by
    have w1:=(hx.ok i aE).1;have w2:=fv i;have w3:=oL (mK d) ((kH s.tape (b++s.params) p).getD i gY) (aE:1<=p) (aE:p<=4096);have qq:=qj (jS (x.getD i gY) (iH (mK d) ((kH s.tape (b++s.params) p).getD i gY) p) p);exact iy (ae [tT 43 ((i:Int)<x.length) aE,iX (i:Int) (x.length) aE,.o 49 (.e (Q5 d):aj (.agg (ar++ix d++[bP false])) (ij (mK d))),iX (i:Int) ((kH s.tape (b++s.params) p).length) aE,.c (um (mK d) ((kH s.tape (b++s.params) p).getD i gY) p aF aF aE aE),.c (Am (x.getD i gY) (iH (mK d) ((kH s.tape (b++s.params) p).getD i gY) p) p aF aF aE aE),ai 59 ((jS (x.getD i gY) (iH (mK d) ((kH s.tape (b++s.params) p).getD i gY) p) p).all) (jm i aE),.o 62 (.e (lV _):aj (.sl true 1 7 λi_ j_=>(iO (jS (x.getD i gY) (iH (mK d) ((kH s.tape (b++s.params) p).getD i gY) p) p)).getD (i_*7+j_) (.v (.bool false))) (ig [jS (x.getD i gY) (iH (mK d) ((kH s.tape (b++s.params) p).getD i gY) p) p])),.a (aE:(i+[jS (x.getD i gY) (iH (mK d) ((kH s.tape (b++s.params) p).getD i gY) p) p].length)*88<=140737488355328),iq ((i:Int)+1) aE]<|.e (af [.b 14 (Dj rfl rfl rfl:Bx.le (.row true 39 (i+[jS (x.getD i gY) (iH (mK d) ((kH s.tape (b++s.params) p).getD i gY) p) p].length) 7 (λi_ j_=>if i_<i then(iM ((List.range i).map (λj_=>(jS (x.getD j_ gY) (iH (mK d) ((kH s.tape (b++s.params) p).getD j_ gY) p) p)))) i_ j_ else(E.kR (ig [jS (x.getD i gY) (iH (mK d) ((kH s.tape (b++s.params) p).getD i gY) p) p])) (i_-i) j_)) (.row true 39 (i+1) 7 (iM ((List.range (i+1)).map (λj_=>(jS (x.getD j_ gY) (iH (mK d) ((kH s.tape (b++s.params) p).getD j_ gY) p) p))))))])) aI)
  (λhi=>by
    exact iy (ae [tF 43 ((x.length:Int)<x.length) aE,.z 14]<|.e (af [.o 14 (.e (EV aK):aj (.sl true x.length 7 (iM ((List.range x.length).map (λj_=>(jS (x.getD j_ gY) (iH (mK d) ((kH s.tape (b++s.params) p).getD j_ gY) p) p))))) (ig ((List.range x.length).map (λj_=>(jS (x.getD j_ gY) (iH (mK d) ((kH s.tape (b++s.params) p).getD j_ gY) p) p)))))])) aI) aM:jb 9 f167 (WK s x d b p 0) (.exit 0) ⟨66,true,[(14,.e (ig ((List.range x.length).map (λj_=>(jS (x.getD j_ gY) (iH (mK d) ((kH s.tape (b++s.params) p).getD j_ gY) p) p)))))],[]⟩) .nil]) 
def KN(s:jM)(x:List Iv)(d:Dy)(b:List Iv)(p:Nat)(h:mh s)(hx:kG s.iz x)(hd:d.ib)(h0:0<d.iI)(hb:kG s.iz b)(il:8<=p)(ic:p<=512):gV 167 [lE s,ig x,gZ d,ig b,iP p] (ig (lG s x d b p)):=by
 unfold lG;cases hn:rC (kH s.tape (b++s.params) p)with
 |true=>rw[bk rfl];exact(ail s x d b p h hx hd h0 hb il ic hn).kf (.nil _ _ _)
 |false=>
  rw[bj aG];cases ha:rC (Ak x (kH s.tape (b++s.params) p) d p)with
  |true=>
   rw[bk rfl];unfold rC at ha;rw[dY,KP]at ha;obtain⟨i,hi,lZ⟩:=ha;obtain⟨N,h1,h2,h3⟩:=tI (p:=λi=>((Ak x (kH s.tape (b++s.params) p) d p).getD i gY).all) ⟨i,b5.1 hi,lZ⟩;refine(aim s x d b p h hx hd h0 hb il ic hn N h1 (λi hi=>?_) ?_).kf (.nil _ _ _)
   .have:=h3 i hi;rw[KO (aE:i<x.length)]at this;exact this
   .rw [KO h1]at h2;exact h2
  |false=>
   rw[bj aG];refine ain s x d b p h hx hd h0 hb il ic hn λi hi=>?_
   unfold rC at ha;rw[dp,KP]at ha;have:=ha i (b5.2 hi);rw[KO hi]at this;exact bd this
def aia(s:jM)(x:List Iv)(d:Dy)(b:List Iv)(p:Nat)(h:mh s)(hx:kG s.iz x)(hd:d.ib)(h0:0<d.iI)(hb:kG s.iz b)(il:8<=p)(ic:p<=512)(hi:(lG s x d b p)=[]):gV 123 [lE s,ig x,gZ d,ig b,iP p] (bP false):=
 ak call123 func123 (af [.c (KN s x d b p h hx hd h0 hb il ic),ai 20 (decide (0<((lG s x d b p).length:Int))) (by rw[hi];rfl)]) 
def zO{n:Nat}{b:List Iv}(h:kG n b)(h1:1<=n)(h4:n<=4):1<=b.length/\b.length<=4/\qP b:=⟨by rw[h.len];exact h1,by rw[h.len];exact h4,h.ok⟩
def aib(s:jM)(x:List Iv)(d:Dy)(b:List Iv)(p:Nat)(h:mh s)(hx:kG s.iz x)(hd:d.ib)(h0:0<d.iI)(hb:kG s.iz b)(il:8<=p)(ic:p<=512)(hi:(lG s x d b p)≠[]):gV 123 [lE s,ig x,gZ d,ig b,iP p] (bP (we x b&&we (lG s x d b p) b)):=by
 have s1:=h.s1;have s4:=h.s4;obtain⟨x1,x4,xo⟩:=zO hx s1 s4;obtain⟨b1,b4,bo⟩:=zO hb s1 s4;have Af:=hx.len;have GR:=hb.len;have EB:=O6 hx (aE:1<=p) (aE:p<=4096) hi;obtain⟨i1,i4,io⟩:=zO EB s1 s4;have hli:=EB.len;exact ak call123 func123 (ae [.c (KN s x d b p h hx hd h0 hb il ic),tT 20 (0<((lG s x d b p).length:Int)) aE,.c (SG x b aE aE aE aF aF)]<|.w (we x b=true)
  (λk1=>ae [tB 24 k1,.c (SG (lG s x d b p) b aE aE aE aF aF)]<|rQ (bP (we (lG s x d b p) b)) (bP (we x b&&we (lG s x d b p) b)) (by simp[k1]))
  (λk1=>ae [tB 24 (bd k1)]<|rQ (bP false) (bP (we x b&&we (lG s x d b p) b)) (by simp[k1]))) 
def GX(s:jM)(x:List Iv)(d:Dy)(b:List Iv)(p:Nat)(h:mh s)(hx:kG s.iz x)(hd:d.ib)(h0:0<d.iI)(hb:kG s.iz b)(il:8<=p)(ic:p<=512):gV 123 [lE s,ig x,gZ d,ig b,iP p] (bP (s7 s x d b p)):=by
 unfold s7;by_cases hi:(lG s x d b p)=[]
 .have:=aia s x d b p h hx hd h0 hb il ic hi;rwa[hi,show(!([]:List Iv).isEmpty&&(we x b&&we [] b))=false from rfl]
 .have:=aib s x d b p h hx hd h0 hb il ic hi;have e:((lG s x d b p)).isEmpty=false:=by
   cases q:(lG s x d b p)with
   |nil=>exact absurd q hi
   |cons _ _=>rfl
  rwa[e,ew,dX]
def aoU(k:Int)(h1:-100<=k)(h2:k<=100):gV 177 [gZ ⟨false,1,0⟩,iP k] (.iw [gZ (iS k),iP 0]):=by
 have:=Eb ⟨false,1,0⟩ k Fg aE aE;have e:canon false 1 (0+k)=iS k:=by rw[Int.zero_add];exact MX k
 have e2:jC (canon false 1 (0+k))=iS k:=by rw[e];exact yJ (Rk h1 h2)
 have e3:kC (canon false 1 (0+k))=0:=by rw[e];exact Cy (Rk h1 h2)
 change gV 177 [gZ ⟨false,1,0⟩,iP k] (.iw [gZ (jC (canon false 1 (0+k))),iP (kC (canon false 1 (0+k)))])at this;rwa[e2,e3]at this
def ahw(x:List Iv)(d:Dy):(Bn x d==0)=sB x d:=by
 unfold Bn;cases sB x d<;>rfl
def Vn(x:List Iv)(k:Int)(x1:1<=x.length)(x8:x.length<=8)(hx:qP x)(k1:-100<=k)(k2:k<=100):gV 122 [ig x,iP k] (.iw [ig (sO x (iS k)),bP (sB x (iS k))]):=by
 have v:=IQ k1 k2;have sg:=Rl k;exact ak call122 func122 (ae [ag [iP 1] (rW _ aE),ag [gZ (ja 1),iP k] (aoU _ aE aE),ai 16 ((0:Int) != 0) aG,ag [ig x,gZ (iS k)] (SE _ _ aE aE aF aF aF)]<|rR (.iw [ig (sO x (iS k)),bP (sB x (iS k))]) (.iw (.cons (.refl _) (.cons (.iT (by rw[ahw])) .nil)):E.le (.iw [ig (sO x (iS k)),bP ((Bn x (iS k))==0)]) (.iw [ig (sO x (iS k)),bP (sB x (iS k))]))) 
def ack(s:jM)(x:List Iv)(d:Dy)(p:Nat)(h:mh s)(hx:kG s.iz x)(hd:d.ib)(h0:0<d.iI)(il:8<=p)(ic:p<=512)(k:Int)(k1:-100<=k)(k2:k<=100)(hg:(sB x (iS k))=false):gV 121 [iP k,(.iV 1 λj_=>[ig x].getD j_ .any),(.iV 5 λj_=>[iP s.tape.ik,kZ s.tape.gX,kY s.tape.iu,iP s.iz,ig s.params].getD j_ .any),(.iV 3 λj_=>[bP d.neg,ia (gW d.m),iP d.e].getD j_ .any),(.iV 1 λj_=>[iP p].getD j_ .any)] (.iw [ig (sO x (iS k)),bP false]):=by
 have s1:=h.s1;have s4:=h.s4;obtain⟨x1,x4,xo⟩:=zO hx s1 s4;exact ak call121 func121 (af [.c (Vn x k aE aE xo aE aE),ai 15 (sB x (iS k)) hg]) 
def acm(s:jM)(x:List Iv)(d:Dy)(p:Nat)(h:mh s)(hx:kG s.iz x)(hd:d.ib)(h0:0<d.iI)(il:8<=p)(ic:p<=512)(k:Int)(k1:-100<=k)(k2:k<=100)(hg:(sB x (iS k))=true):gV 121 [iP k,(.iV 1 λj_=>[ig x].getD j_ .any),(.iV 5 λj_=>[iP s.tape.ik,kZ s.tape.gX,kY s.tape.iu,iP s.iz,ig s.params].getD j_ .any),(.iV 3 λj_=>[bP d.neg,ia (gW d.m),iP d.e].getD j_ .any),(.iV 1 λj_=>[iP p].getD j_ .any)] (.iw [ig (sO x (iS k)),bP (s7 s x d (sO x (iS k)) p)]):=by
 have s1:=h.s1;have s4:=h.s4;obtain⟨x1,x4,xo⟩:=zO hx s1 s4;have hb:=NI hx (IQ k1 k2) (aaG (Rl k)) hg;exact ak call121 func121 (af [.c (Vn x k aE aE xo aE aE),ah 15 (sB x (iS k)) hg,.c (GX s x d (sO x (iS k)) p h hx hd h0 hb il ic)]) 
def FT(s:jM)(x:List Iv)(d:Dy)(p:Nat)(h:mh s)(hx:kG s.iz x)(hd:d.ib)(h0:0<d.iI)(il:8<=p)(ic:p<=512)(k:Int)(k1:-100<=k)(k2:k<=100):gV 121 [iP k,(.iV 1 λj_=>[ig x].getD j_ .any),(.iV 5 λj_=>[iP s.tape.ik,kZ s.tape.gX,kY s.tape.iu,iP s.iz,ig s.params].getD j_ .any),(.iV 3 λj_=>[bP d.neg,ia (gW d.m),iP d.e].getD j_ .any),(.iV 1 λj_=>[iP p].getD j_ .any)] (.iw [ig (sO x (iS k)),bP (sM s x d p k)]):=by
 unfold sM;cases hg:sB x (iS k)with
 |false=>exact ack s x d p h hx hd h0 il ic k k1 k2 hg
 |true=>exact acm s x d p h hx hd h0 il ic k k1 k2 hg
def ann(d:Dy)(hd:d.ib):gV 177 [gZ d,iP (-3)] (.iw [gZ (AG d),iP (QU d)]):=Eb d (-3) hd aG aG 
def Vm{x:List Iv}{d:Dy}:Bn x d=0↔sB x d=true:=by
 unfold Bn;cases sB x d<;>simp
def aps(s:jM)(x:List Iv)(d:Dy)(b:List Iv)(p:Nat)(h:mh s)(hx:kG s.iz x)(hd:d.ib)(h0:0<d.iI)(hb:kG s.iz b)(il:8<=p)(ic:p<=512)(hi:(lG s x d b p)=[]):gV 124 [lE s,ig x,gZ d,ig b,iP p] (.v (.slice none 0 0)):=
 ak call124 func124 (af [.c (KN s x d b p h hx hd h0 hb il ic),ah 26 (((lG s x d b p).length:Int)==0) (by rw[hi];rfl)]) 
def Hn{l:List Iv}(h:l≠[]):((l.length:Int)==0)=false:=ni λq=>h (gT.1 q)
def apt(s:jM)(x:List Iv)(d:Dy)(b:List Iv)(p:Nat)(h:mh s)(hx:kG s.iz x)(hd:d.ib)(h0:0<d.iI)(hb:kG s.iz b)(il:8<=p)(ic:p<=512)(hi:(lG s x d b p)≠[]):gV 124 [lE s,ig x,gZ d,ig b,iP p] (ig (lQ s x d b p)):=by
 have s1:=h.s1;have s4:=h.s4;obtain⟨x1,x4,xo⟩:=zO hx s1 s4;obtain⟨b1,b4,bo⟩:=zO hb s1 s4;have Af:=hx.len;have GR:=hb.len;have EB:=O6 hx (aE:1<=p) (aE:p<=4096) hi;obtain⟨i1,i4,io⟩:=zO EB s1 s4;have hli:=EB.len;have hho:=Wo hx EB;obtain⟨u1,u4,uo⟩:=zO hho s1 s4;have wv:=apr (nK x (lG s x d b p)) (aE:1<=p) (aE:p<=4096);have sv:=Z7 (sW (nK x (lG s x d b p)) p);have sn:=alQ (Z6 (abD (nK x (lG s x d b p)) p));exact ak call124 func124 (ae [.c (KN s x d b p h hx hd h0 hb il ic),ai 26 (((lG s x d b p).length:Int)==0) (Hn hi),.c (adq x (lG s x d b p) aE aE aE aF aF),ag [ig (nK x (lG s x d b p)),iP p] (adv _ _ aE aE aF aE aE)]<|.w (IX (nK x (lG s x d b p)) p=true)
  (λk1=>ae [tB 35 k1,ag [gZ (sW (nK x (lG s x d b p)) p)] (nA _ aF)]<|.w ((Dy.iI (sW (nK x (lG s x d b p)) p))=0)
   (λk2=>ae [tB 41 (bc k2)]<|rQ (ig (nK x (lG s x d b p))) (ig (lQ s x d b p)) (by unfold lQ;rw[bj hi];simp[k1,k2]))
   (λk2=>ae [tB 41 (a7 k2),ag [gZ (sW (nK x (lG s x d b p)) p),iP (-3)] (ann _ aF)]<|.w ((QU (sW (nK x (lG s x d b p)) p))=0)
    (λk3=>ae [tB 50 (bg k3),ag [ig (nK x (lG s x d b p)),gZ (AG (sW (nK x (lG s x d b p)) p))] (SE _ _ aE aE aF aF aF)]<|.w ((Bn (nK x (lG s x d b p)) (AG (sW (nK x (lG s x d b p)) p)))=0)
     (λk4=>ae [tB 59 (bc k4)]<|rQ (ig (sO (nK x (lG s x d b p)) (AG (sW (nK x (lG s x d b p)) p)))) (ig (lQ s x d b p)) (by unfold lQ;rw[bj hi];simp[k1,k2,k3,Vm.1 k4]))
     (λk4=>ae [tB 59 (a7 k4)]<|rQ (ig (nK x (lG s x d b p))) (ig (lQ s x d b p)) (by unfold lQ;rw[bj hi];simp[k1,k2,k3,show ¬sB _ _=true from λq=>k4 (Vm.2 q)])))
    (λk3=>ae [tB 50 (bh k3)]<|rQ (ig (nK x (lG s x d b p))) (ig (lQ s x d b p)) (by unfold lQ;rw[bj hi];simp[k1,k2,k3]))))
  (λk1=>ae [tB 35 (bd k1)]<|rQ (ig (nK x (lG s x d b p))) (ig (lQ s x d b p)) (by unfold lQ;rw[bj hi];simp[k1]))) 
def IY(s:jM)(x:List Iv)(d:Dy)(b:List Iv)(p:Nat)(h:mh s)(hx:kG s.iz x)(hd:d.ib)(h0:0<d.iI)(hb:kG s.iz b)(il:8<=p)(ic:p<=512):gV 124 [lE s,ig x,gZ d,ig b,iP p] (ig (lQ s x d b p)):=by
 by_cases hi:(lG s x d b p)=[]
 .have:=aps s x d b p h hx hd h0 hb il ic hi;unfold lQ;rw[bk hi];exact this.kf (.nil _ _ _)
 .exact apt s x d b p h hx hd h0 hb il ic hi
def afW(s:jM)(x:List Iv)(d:Dy)(p:Nat)(h:mh s)(hx:kG s.iz x)(hd:d.ib)(h0:0<d.iI)(il:8<=p)(ic:p<=512)(N:Nat)(oR:N<24)(jm:∀ k:Nat,k<N->sM s x d p ((k:Int)-20)=false)(hN:sM s x d p ((N:Int)-20)=true):gV 43 [lE s,ig x,gZ d,iP p] (.iw [ig (sO x (iS ((N:Int)-20))),iP 0]):=
 ak call43 func43 (af [.c (CF s x d p h hx hd h0 il ic),.s (Sp.jc (T8 s x d p N) 0 N aE (λk hk Kw=>by
    exact iy (af [tT 23 ((k:Int)<24) aE,iq ((k:Int)-20) aE,ag [iP ((k:Int)-20),(.iV 1 λj_=>[ig x].getD j_ .any),(.iV 5 λj_=>[iP s.tape.ik,kZ s.tape.gX,kY s.tape.iu,iP s.iz,ig s.params].getD j_ .any),(.iV 3 λj_=>[bP d.neg,ia (gW d.m),iP d.e].getD j_ .any),(.iV 1 λj_=>[iP p].getD j_ .any)] (FT _ _ _ _ h hx hd h0 il ic _ aE aE),ai 31 (sM s x d p ((k:Int)-20)) (jm k aE),iq ((k:Int)+1) aE]) aI)
  (λhk=>by
    exact iy (af [tT 23 ((N:Int)<24) aE,iq ((N:Int)-20) aE,ag [iP ((N:Int)-20),(.iV 1 λj_=>[ig x].getD j_ .any),(.iV 5 λj_=>[iP s.tape.ik,kZ s.tape.gX,kY s.tape.iu,iP s.iz,ig s.params].getD j_ .any),(.iV 3 λj_=>[bP d.neg,ia (gW d.m),iP d.e].getD j_ .any),(.iV 1 λj_=>[iP p].getD j_ .any)] (FT _ _ _ _ h hx hd h0 il ic _ aE aE),ah 31 (sM s x d p ((N:Int)-20)) hN]) aI) aM:jb 5 Tryz.f43 (T8 s x d p N 0) .ret ⟨55,true,[(9,.e (iP 0)),(8,.e (ig (sO x (iS ((N:Int)-20)))))],[]⟩) .nil]) 
def afY(s:jM)(x:List Iv)(d:Dy)(p:Nat)(h:mh s)(hx:kG s.iz x)(hd:d.ib)(h0:0<d.iI)(il:8<=p)(ic:p<=512)(jm:∀ k:Nat,k<24->sM s x d p ((k:Int)-20)=false)(N:Nat)(oR:N<10)(uS:∀ j,j<=N->kG s.iz (lM s x d p j))(hw:∀ j,j<N->lQ s x d (lM s x d p j) p≠[]/\s7 s x d (lQ s x d (lM s x d p j) p) p=false)(hN:lQ s x d (lM s x d p N) p=[]):gV 43 [lE s,ig x,gZ d,iP p] (.iw [.v (.slice none 0 0),iP 12]):=
 ak call43 func43 (af [.c (CF s x d p h hx hd h0 il ic),.s (Sp.jc (T9 s x d p) 0 24 aE (λk hk Kw=>by
    exact iy (af [tT 23 ((k:Int)<24) aE,iq ((k:Int)-20) aE,ag [iP ((k:Int)-20),(.iV 1 λj_=>[ig x].getD j_ .any),(.iV 5 λj_=>[iP s.tape.ik,kZ s.tape.gX,kY s.tape.iu,iP s.iz,ig s.params].getD j_ .any),(.iV 3 λj_=>[bP d.neg,ia (gW d.m),iP d.e].getD j_ .any),(.iV 1 λj_=>[iP p].getD j_ .any)] (FT _ _ _ _ h hx hd h0 il ic _ aE aE),ai 31 (sM s x d p ((k:Int)-20)) (jm k aE),iq ((k:Int)+1) aE]) aI)
  (λhk=>by
    exact iy (af [ai 23 (decide ((24:Int)<24)) aG]) aI) aM:jb 5 Tryz.f43 (T9 s x d p 0) (.exit 0) ⟨55,true,[(7,.box 7 0),(6,.box 6 0),(5,.box 5 0),(4,.box 4 0)],[(7,.cells 3 [iP p]),(6,.cells 31 (ix d)),(5,.cells 26 [ig x]),(4,.cells 28 [iP s.tape.ik,kZ s.tape.gX,kY s.tape.iu,iP s.iz,ig s.params])]⟩) .nil,.s (Sp.jc (Uc s x d p N) 0 N aE (λj hj V7=>by
    have zZ:=uS j aE;obtain⟨ju,GV⟩:=hw j aE;have lZ:=D0 hx (aE:1<=p) (aE:p<=4096) ju;exact iy (ae [tT 37 ((j:Int)<10) aE,.c (IY s x d (lM s x d p j) p h hx hd h0 zZ il ic),ai 46 (((lQ s x d (lM s x d p j) p).length:Int)==0) (Hn ju),.c (GX s x d (lQ s x d (lM s x d p j) p) p h hx hd h0 lZ il ic),ai 52 (s7 s x d (lQ s x d (lM s x d p j) p) p) GV,iq ((j:Int)+1) aE]<|.e (af [.o 14 (.e (.iT rfl):aj (ig (lQ s x d (lM s x d p j) p)) (ig (lM s x d p (j+1))))])) aI)
  (λhj=>by
    have zZ:=uS N (bu _);exact iy (af [tT 37 ((N:Int)<10) aE,.c (IY s x d (lM s x d p N) p h hx hd h0 zZ il ic),ah 46 (((lQ s x d (lM s x d p N) p).length:Int)==0) (by rw[hN];rfl)]) aI) aM:jb 13 Tryz.f43 (Uc s x d p N 0) (.exit 2) ⟨55,true,[],[]⟩) (af [.o 14 (.e (.iT rfl):aj (ig x) (ig (lM s x d p 0)))])]) 
def afV(s:jM)(x:List Iv)(d:Dy)(p:Nat)(h:mh s)(hx:kG s.iz x)(hd:d.ib)(h0:0<d.iI)(il:8<=p)(ic:p<=512)(jm:∀ k:Nat,k<24->sM s x d p ((k:Int)-20)=false)(uS:∀ j,j<=10->kG s.iz (lM s x d p j))(hw:∀ j,j<10->lQ s x d (lM s x d p j) p≠[]/\s7 s x d (lQ s x d (lM s x d p j) p) p=false):gV 43 [lE s,ig x,gZ d,iP p] (.iw [.v (.slice none 0 0),iP 12]):=
 ak call43 func43 (af [.c (CF s x d p h hx hd h0 il ic),.s (Sp.jc (Ua s x d p) 0 24 aE (λk hk Kw=>by
    exact iy (af [tT 23 ((k:Int)<24) aE,iq ((k:Int)-20) aE,ag [iP ((k:Int)-20),(.iV 1 λj_=>[ig x].getD j_ .any),(.iV 5 λj_=>[iP s.tape.ik,kZ s.tape.gX,kY s.tape.iu,iP s.iz,ig s.params].getD j_ .any),(.iV 3 λj_=>[bP d.neg,ia (gW d.m),iP d.e].getD j_ .any),(.iV 1 λj_=>[iP p].getD j_ .any)] (FT _ _ _ _ h hx hd h0 il ic _ aE aE),ai 31 (sM s x d p ((k:Int)-20)) (jm k aE),iq ((k:Int)+1) aE]) aI)
  (λhk=>by
    exact iy (af [ai 23 (decide ((24:Int)<24)) aG]) aI) aM:jb 5 Tryz.f43 (Ua s x d p 0) (.exit 0) ⟨55,true,[(7,.box 7 0),(6,.box 6 0),(5,.box 5 0),(4,.box 4 0)],[(7,.cells 3 [iP p]),(6,.cells 31 (ix d)),(5,.cells 26 [ig x]),(4,.cells 28 [iP s.tape.ik,kZ s.tape.gX,kY s.tape.iu,iP s.iz,ig s.params])]⟩) .nil,.s (Sp.jc (Ud s x d p) 0 10 aE (λj hj V7=>by
    have zZ:=uS j aE;obtain⟨ju,GV⟩:=hw j aE;have lZ:=D0 hx (aE:1<=p) (aE:p<=4096) ju;exact iy (ae [tT 37 ((j:Int)<10) aE,.c (IY s x d (lM s x d p j) p h hx hd h0 zZ il ic),ai 46 (((lQ s x d (lM s x d p j) p).length:Int)==0) (Hn ju),.c (GX s x d (lQ s x d (lM s x d p j) p) p h hx hd h0 lZ il ic),ai 52 (s7 s x d (lQ s x d (lM s x d p j) p) p) GV,iq ((j:Int)+1) aE]<|.e (af [.o 14 (.e (.iT rfl):aj (ig (lQ s x d (lM s x d p j) p)) (ig (lM s x d p (j+1))))])) aI)
  (λhj=>by
    exact iy (af [ai 37 (decide ((10:Int)<10)) aG]) aI) aM:jb 13 Tryz.f43 (Ud s x d p 0) (.exit 2) ⟨55,true,[],[]⟩) (af [.o 14 (.e (.iT rfl):aj (ig x) (ig (lM s x d p 0)))])]) 
def iQ(f:Nat->Rat):Nat->Rat
 | 0=>0
 |n+1=>iQ f n+f n
def qM{f g:Nat->Rat}:∀ n,(∀ i,i<n->f i=g i)->iQ f n=iQ g n
 | 0,_=>rfl
 |n+1,h=>by rw[iQ,iQ,qM n (λi hi=>h i aE),h n aE]
def DU{f g:Nat->Rat}:∀ n,(∀ i,i<n->f i<=g i)->iQ f n<=iQ g n
 | 0,_=>cg
 |n+1,h=>by
  have h1:=DU n (λi hi=>h i aE);have h2:=h n aE;rw[iQ,iQ];grind
def DW{f:Nat->Rat}(n:Nat)(h:∀ i,i<n->0<=f i):0<=iQ f n:=by
 induction n with
 |zero=>exact cg
 |succ n ih=>
  have h1:=ih (λi hi=>h i aE);have h2:=h n aE;rw[iQ];grind
def Cf(f:Nat->Rat)(c:Rat):∀ n,iQ (λi=>c*f i) n=c*iQ f n
 | 0=>by simp[iQ]
 |n+1=>by rw[iQ,iQ,Cf f c n];grind
def FE(f:Nat->Rat)(c:Rat):∀ n,iQ (λi=>f i*c) n=iQ f n*c
 | 0=>by simp[iQ]
 |n+1=>by rw[iQ,iQ,FE f c n];grind
def IH(f g:Nat->Rat):∀ n,iQ (λi=>f i+g i) n=iQ f n+iQ g n
 | 0=>by simp only[iQ];grind
 |n+1=>by rw[iQ,iQ,iQ,IH f g n];grind
def II(f:Nat->Nat->Rat)(m:Nat):∀ n,iQ (λi=>iQ (λj=>f i j) m) n=iQ (λj=>iQ (λi=>f i j) n) m
 | 0=>by
  have:∀ m,iQ (λ_=>(0:Rat)) m=0:=by
   intro m
   induction m with
   |zero=>rfl
   |succ m ih=>rw[iQ,ih];grind
  exact(this m).symm
 |n+1=>by
  rw[iQ,II f m n,<-IH];rfl
def aa2(f:Nat->Rat):∀ n,iQ f (n+1)=f 0+iQ (λi=>f (i+1)) n
 | 0=>by simp only[iQ];grind
 |n+1=>by rw[iQ,aa2 f n,iQ];grind
def iZ(x:Rat):Rat:=if 0<=x then x else -x
def ns(x:Rat):0<=iZ x/\x<=iZ x /\ -x<=iZ x/\(iZ x=x/\0<=x\/iZ x = -x/\x<=0):=by unfold iZ;split<;>grind
def yE{x b:Rat}(h1:x<=b)(h2:-x<=b):iZ x<=b:=by unfold iZ;split<;>grind
def RR(x y:Rat):iZ (x+y)<=iZ x+iZ y:=by
 obtain⟨a1,a2,a3,_⟩:=ns x;obtain⟨b1,b2,b3,_⟩:=ns y;exact yE aP aP 
def zK(x y:Rat):iZ (x*y)=iZ x*iZ y:=by
 obtain⟨_,_,_,a⟩:=ns x;obtain⟨_,_,_,b⟩:=ns y;obtain⟨c1,_,_,c⟩:=ns (x*y);rcases a with⟨e1,h1⟩|⟨e1,h1⟩<;>rcases b with⟨e2,h2⟩|⟨e2,h2⟩<;>rw[e1,e2]
 .have:=b6 h1 h2;grind
 .have:=b6 h1 (show 0 <= -y by grind);grind
 .have:=b6 (show 0 <= -x by grind) h2;grind
 .have:=b6 (show 0 <= -x by grind) (show 0 <= -y by grind);grind
def D5(f:Nat->Rat):∀ n,iZ (iQ f n)<=iQ (λi=>iZ (f i)) n
 | 0=>by simp[iQ,iZ]
 |n+1=>by
  have h1:=D5 f n;have h2:=RR (iQ f n) (f n);rw[iQ,iQ];grind
def RS:iZ 0=0:=rfl
abbrev QM:=Nat->Nat->Rat
def rh(n:Nat)(A B:QM):QM:=λi j=>iQ (λq=>A i q*B q j) n
def zg:QM:=λi j=>if i=j then 1 else 0
def TQ(n:Nat)(M:QM)(t:Rat):Nat->QM
 | 0=>zg
 |j+1=>λi l=>t/((j+1:Nat):Rat)*rh n (TQ n M t j) M i l
def SQ(n:Nat)(M:QM)(t:Rat):Nat->QM
 | 0=>zg
 |j+1=>λi l=>SQ n M t j i l+TQ n M t (j+1) i l
def YL(j:Nat):(jv (j:Int)).jZ ((j:Nat):Rat):=by have:=Az (j:Int);rwa[eh]at this
section
variable {m:List (List Iv)} {h:Iv} {M:QM} {t:Rat} {n p:Nat}
def AX(n:Nat)(A:QM)(b:Rat):Prop:=∀ i,i<n->iQ (λl=>iZ (A i l)) n<=b
def am3{A B:QM}{a b:Rat}(_h0:0<=a)(hb:0<=b)(h1:AX n A a)(h2:AX n B b):AX n (rh n A B) (a*b):=by
 intro i hi;have e1:iQ (λl=>iZ (rh n A B i l)) n<=iQ (λl=>iQ (λq=>iZ (A i q)*iZ (B q l)) n) n:=
  DU n λl _=>by
   have:=D5 (λq=>A i q*B q l) n;rw[show(λq=>iZ (A i q*B q l))=λq=>iZ (A i q)*iZ (B q l)from funext λq=>zK _ _]at this;exact this
 rw[II]at e1;have e2:iQ (λq=>iQ (λl=>iZ (A i q)*iZ (B q l)) n) n<=iQ (λq=>iZ (A i q)*b) n:=
  DU n λq hq=>by
   rw[Cf];exact cJ (h2 q hq) (ns _).1
 rw[FE]at e2;exact bQ e1 (bQ e2 (ct (h1 i hi) hb))
def eQ(c:Rat):Nat->Rat
 | 0=>1
 |j+1=>eQ c j*(c/((j+1:Nat):Rat))
def BS(j:Nat):(0:Rat)<((j+1:Nat):Rat):=gv.2 aE 
def TO{a b:Rat}(h1:0<=a)(h2:0<b):0<=a/b:=by
 rw[cX];exact b6 h1 (bN (fP.2 h2))
def wQ{c:Rat}(h:0<=c):∀ j,0<=eQ c j
 | 0=>by simp only[eQ];decide
 |j+1=>b6 (wQ h j) (TO h (BS j))
def aoe(n i:Nat):iQ (λl=>iZ (zg i l)) n<=1/\(n<=i->iQ (λl=>iZ (zg i l)) n=0):=by
 induction n with
 |zero=>exact⟨by simp only[iQ];grind,λ_=>rfl⟩
 |succ n ih=>
  have e1:iZ 1=1:= aG ;simp only[iQ,zg]at ih ⊢;by_cases h:i=n
  .have:=ih.2 aE ;rw[this,bk h,e1];exact⟨aP,λh'=>absurd h' aE⟩
  .rw [bj h,RS,Rat.add_zero];exact⟨ih.1,λh'=>ih.2 aE⟩
def am0{A:QM}{b:Rat}(h:AX n A b){i l:Nat}(hi:i<n)(hl:l<n):iZ (A i l)<=b:=by
 have h1:=h i hi;have:∀ m,l<m->iZ (A i l)<=iQ (λl=>iZ (A i l)) m:=by
  intro m hm
  induction m with
  |zero=>omega
  |succ m ih=>
   rw[iQ];have h0:=DW m (f:=λl=>iZ (A i l)) λi _=>(ns _).1
   have h2:=(ns (A i m)).1;by_cases hq:l=m
   .subst hq;grind
   .have:=ih aE;grind
 exact bQ (this n hl) h1
end
def LZ(g:Nat->Nat->Rat):∀ m,iQ (λj=>iQ (g j) (m-j)) m=iQ (λs=>iQ (λj=>g j (s-j)) (s+1)) m
 | 0=>rfl
 |m+1=>by
  have ih:=LZ g m;have e1:iQ (λj=>iQ (g j) (m+1-j)) m=iQ (λj=>iQ (g j) (m-j)+g j (m-j)) m:=
   qM m λj hj=>by rw[(aE:m+1-j=m-j+1)];rfl
  have h1:iQ (g m) (m+1-m)=g m 0:=by
   rw[(aE:m+1-m=0+1)];simp only[iQ];grind
  have h2:iQ (λj=>g j (m-j)) (m+1)=iQ (λj=>g j (m-j)) m+g m (m-m):=rfl;show iQ (λj=>iQ (g j) (m+1-j)) m+iQ (g m) (m+1-m)=iQ (λs=>iQ (λj=>g j (s-j)) (s+1)) m+iQ (λj=>g j (m-j)) (m+1);rw[e1,IH,h1,h2,ih,dq]
  grind
def IJ{f:Nat->Rat}(h:∀ i,0<=f i){m k:Nat}(hk:m<=k):iQ f m<=iQ f k:=by
 induction k with
 |zero=>
  have:m=0:= aE ;rw[this];exact cg
 |succ k ih=>
  by_cases hm:m=k+1
  .rw [hm];exact cg
  .have:=ih aE ;have:=h k;rw[iQ];grind
def FF(f:Nat->Rat)(m:Nat):∀ d,iQ f (m+d)=iQ f m+iQ (λi=>f (m+i)) d
 | 0=>by simp only[iQ,bY];grind
 |d+1=>by
  show iQ f (m+d)+f (m+d)=_;rw[FF f m d,iQ];grind
def JR(c:Rat)(j:Nat):eQ c (j+1)*((j+1:Nat):Rat)=c*eQ c j:=by
 have h:c/((j+1:Nat):Rat)*((j+1:Nat):Rat)=c:=dM (by have:=BS j;grind);simp only[eQ];grind
def Jt(a b:Rat):∀ s,iQ (λj=>eQ b j*eQ a (s-j)) (s+1)=eQ (a+b) s
 | 0=>by
  show 0+eQ b 0*eQ a 0=1;simp only[eQ];grind
 |s+1=>by
  have ih:=Jt a b s;have hp:=BS s;have key:iQ (λj=>eQ b j*eQ a (s+1-j)) (s+2)*((s+1:Nat):Rat)=(a+b)*eQ (a+b) s:=by
   have e0:iQ (λj=>eQ b j*eQ a (s+1-j)) (s+2)*((s+1:Nat):Rat)=iQ (λj=>(j:Rat)*(eQ b j*eQ a (s+1-j))+eQ b j*(((s+1-j:Nat):Rat)*eQ a (s+1-j))) (s+2):=by
    rw[<-FE];refine qM _ λj hj=>?_
    have:((s+1:Nat):Rat)=(j:Rat)+((s+1-j:Nat):Rat):=by rw[<-ek];congr 1;omega
    rw[this];grind
   rw[e0,IH];have e1:iQ (λj=>(j:Rat)*(eQ b j*eQ a (s+1-j))) (s+2)=b*eQ (a+b) s:=by
    rw[aa2,<-ih,<-Cf];have z:(((0:Nat):Rat))=0:=rfl;rw[z,Rat.zero_mul,Rat.zero_add];refine qM _ λj hj=>?_
    have h1:=JR b j;rw[(aE:s+1-(j+1)=s-j)]
    grind
   have e2:iQ (λj=>eQ b j*(((s+1-j:Nat):Rat)*eQ a (s+1-j))) (s+2)=a*eQ (a+b) s:=by
    rw[(aE:s+2=(s+1)+1),iQ,dq,<-ih,<-Cf];have z:(((0:Nat):Rat))=0:=rfl;rw[z,Rat.zero_mul,Rat.mul_zero,Rat.add_zero];refine qM _ λj hj=>?_
    have h1:=JR a (s-j);rw[(aE:s+1-j=s-j+1)]
    grind
   rw[e1,e2];grind
  have h2:=JR (a+b) s;have h3:iQ (λj=>eQ b j*eQ a (s+1-j)) (s+2)*((s+1:Nat):Rat)=eQ (a+b) (s+1)*((s+1:Nat):Rat):=by rw[key,h2]
  exact fg (fK (by rw[h3];exact cg) hp) (fK (by rw[h3];exact cg) hp)
def Gg(c:Rat):∀ j,iZ (eQ c j)=eQ (iZ c) j
 | 0=>by simp only[eQ];decide
 |j+1=>by
  simp only[eQ];rw[zK,Gg c j];congr 1;rw[cX,cX,zK];congr 1;have:=fP.2 (BS j);unfold iZ;rw[bk (bN this)]
def wB(v:Rat):Nat->Rat
 | 0=>1
 |j+1=>wB v j*v
def Y4(v:Rat)(i:Nat):∀ j,wB v (i+j)=wB v i*wB v j
 | 0=>by simp only[wB,bY];grind
 |j+1=>by
  show wB v (i+j)*v=_;rw[Y4 v i j,wB];grind
def Y5{v:Rat}(h:0<=v):∀ j,0<=wB v j
 | 0=>by simp only[wB];decide
 |j+1=>b6 (Y5 h j) h
def Nh(c v:Rat):∀ j,eQ (c*v) j=eQ c j*wB v j
 | 0=>by simp only[eQ,wB];grind
 |j+1=>by
  simp only[eQ,wB];rw[Nh c v j];simp only[cX];grind
def R2(q:Rat):∃ n:Nat,q<=(n:Rat):=by
 refine⟨q.ceil.toNat,?_⟩;have h1:q<=(q.ceil:Rat):=Rat.le_ceil;have h2:((q.ceil:Int):Rat)<=((q.ceil.toNat:Nat):Rat):=by
  rw[<-eh,gr];omega
 exact bQ h1 h2
def Rd{z:Rat}{J:Nat}(hz:0<=z)(hJ:z*2<=(J:Rat)){m:Nat}(hm:J<=m):eQ z (m+1)*2<=eQ z m:=by
 have h0:=wQ hz m;have h1:=JR z m;have hp:=BS m;have NP:z*2<=((m+1:Nat):Rat):=bQ hJ (dF.2 aE);apply fK (c:=((m+1:Nat):Rat)) _ hp;have h2:=cJ NP h0
 grind
def Re{z:Rat}{J:Nat}(hz:0<=z)(hJ:z*2<=(J:Rat)){m:Nat}(hm:J<=m):∀ d,iQ (λi=>eQ z (m+i)) d+eQ z (m+d)*2<=eQ z m*2
 | 0=>by simp only[iQ,bY];grind
 |d+1=>by
  have ih:=Re hz hJ hm d;have h1:=Rd hz hJ (aE:J<=m+d);rw[iQ,(aE:m+(d+1)=m+d+1)]
  grind
def aa7{z:Rat}{J:Nat}(hz:0<=z)(hJ:z*2<=(J:Rat)):∀ r:Nat,eQ z (J+r)*((2^r:Nat):Rat)<=eQ z J
 | 0=> aK 
 |r+1=>by
  have ih:=aa7 hz hJ r;have h1:=Rd hz hJ (aE:J<=J+r);have hp:(0:Rat)<=((2^r:Nat):Rat):=cV;have h2:=ct h1 hp;rw[show(2^(r+1):Nat)=2^r*2 from bI _ _,dg,(aE:J+(r+1)=J+r+1)];have e:((2:Nat):Rat)=2:=rfl;rw[e];grind
def aa8{z ε:Rat}(hz:0<=z)(hε:0<ε):∃ m0,∀ m,m0<=m->∀ d,iQ (λi=>eQ z (m+i)) d<=ε:=by
 obtain⟨J,hJ⟩:=R2 (z*2);obtain⟨r,hr⟩:=R2 (eQ z J*2/ε);refine⟨J+r,λm hm d=>?_⟩;obtain⟨t,rfl⟩:∃ t,m=J+t:=⟨m-J,aE⟩
 have h1:=Re hz hJ (aE:J<=J+t) d;have h2:=aa7 hz hJ t;have h3:=wQ hz (J+t+d);have h4:=wQ hz (J+t);have tC:(r:Rat)<=((2^t:Nat):Rat):=dF.2 (dt (cC (aE:r<=t) Nat.lt_two_pow_self));have h5:eQ z J*2<=ε*((2^t:Nat):Rat):=by
  have h6:eQ z J*2/ε*ε=eQ z J*2:=dM aP;have h7:=ct (bQ hr tC) (bN hε)
  grind
 have hp:(0:Rat)<((2^t:Nat):Rat):=gv.2 (bD aG);have h8:eQ z (J+t)*2<=ε:=by
  apply fK (c:=((2^t:Nat):Rat)) _ hp
  grind
 grind
def MP(n:Nat)(M:QM):Nat->QM
 | 0=>zg
 |j+1=>rh n (MP n M j) M
section
variable {n:Nat} {M:QM}
def MA(t:Rat):∀ j i l,TQ n M t j i l=eQ t j*MP n M j i l
 | 0,i,l=>by simp only[TQ,eQ,MP];grind
 |j+1,i,l=>by
  show t/((j+1:Nat):Rat)*iQ (λq=>TQ n M t j i q*M q l) n=eQ t j*(t/((j+1:Nat):Rat))*iQ (λq=>MP n M j i q*M q l) n;rw[qM n λq _=>show TQ n M t j i q*M q l=eQ t j*(MP n M j i q*M q l)by rw[MA t j i q];grind,Cf]
  grind
def FP(t:Rat)(i l:Nat):∀ N,SQ n M t N i l=iQ (λj=>eQ t j*MP n M j i l) (N+1)
 | 0=>by simp only[SQ,iQ,eQ,MP];grind
 |N+1=>by
  show SQ n M t N i l+TQ n M t (N+1) i l=_;rw[FP t i l N,MA];rfl
def akw(A:QM)(i:Nat){l:Nat}(hl:l<n):rh n A zg i l=A i l:=by
 have:∀ m,iQ (λq=>A i q*zg q l) m=if l<m then A i l else 0:=by
  intro m
  induction m with
  |zero=>simp[iQ]
  |succ m ih=>
   rw[iQ,ih];unfold zg;by_cases h1:l<m
   .rw [bk h1,bj (aE:¬m=l),bk (aE:l<m+1)];grind
   .by_cases h2:m=l
    .subst h2;rw[bj h1,bk rfl,bk (aE:m<m+1)];grind
    .rw [bj h1,bj h2,bj (aE:¬l<m+1)];grind
 unfold rh;rw[this,bk hl]
def akv(A B C:QM)(i l:Nat):rh n A (rh n B C) i l=rh n (rh n A B) C i l:=by
 unfold rh;have e1:∀ q,A i q*iQ (λr=>B q r*C r l) n=iQ (λr=>A i q*(B q r*C r l)) n:=λq=>(Cf _ _ n).symm
 have e2:∀ r,iQ (λq=>A i q*B q r) n*C r l=iQ (λq=>A i q*B q r*C r l) n:=λr=>(FE _ _ n).symm
 rw[qM n λq _=>e1 q,qM (f:=λq=>iQ (λq_1=>A i q_1*B q_1 q) n*C q l) n λr _=>e2 r,II];exact qM n λr _=>qM n λq _=> aP 
def RG(j:Nat):∀ k i l,l<n->rh n (MP n M j) (MP n M k) i l=MP n M (j+k) i l
 | 0,i,l,hl=>akw _ i hl
 |k+1,i,l,hl=>by
  show rh n (MP n M j) (rh n (MP n M k) M) i l=rh n (MP n M (j+k)) M i l;rw[akv];exact qM n λq hq=>by rw[RG j k i q hq]
def RH{v:Rat}(hv:0<=v)(h:AX n M v):∀ j,AX n (MP n M j) (wB v j)
 | 0=>λi _=>(aoe n i).1
 |j+1=>am3 (Y5 hv j) hv (RH hv h j) h
def am1(n:Nat)(M:QM):∃ v,0<=v/\AX n M v:=by
 refine⟨iQ (λi=>iQ (λl=>iZ (M i l)) n) n,DW n λi _=>DW n λl _=>(ns _).1,λi hi=>?_⟩;have:∀ m,i<m->iQ (λl=>iZ (M i l)) n<=iQ (λi=>iQ (λl=>iZ (M i l)) n) m:=by
  intro m hm
  induction m with
  |zero=>omega
  |succ m ih=>
   rw[iQ];have h0:0<=iQ (λl=>iZ (M m l)) n:=DW n λl _=>(ns _).1
   have h1:0<=iQ (λi=>iQ (λl=>iZ (M i l)) n) m:=DW m λi _=>DW n λl _=>(ns _).1
   by_cases hq:i=m
   .subst hq;grind
   .have:=ih aE;grind
 exact this n hi
def alD(a b:Rat)(N:Nat)(i:Nat){l:Nat}(hl:l<n):rh n (SQ n M b N) (SQ n M a N) i l=iQ (λj=>iQ (λk=>eQ b j*eQ a k*MP n M (j+k) i l) (N+1)) (N+1):=by
 unfold rh;have e1:∀ q,SQ n M b N i q*SQ n M a N q l=iQ (λj=>iQ (λk=>eQ b j*eQ a k*(MP n M j i q*MP n M k q l)) (N+1)) (N+1):=by
  intro q;rw[FP,FP,<-FE];refine qM _ λj _=>?_
  rw[<-Cf];exact qM _ λk _=> aP 
 rw[qM n λq _=>e1 q,II];refine qM _ λj _=>?_
 rw[II];refine qM _ λk _=>?_
 rw[<-RG j k i l hl,Cf];rfl
def aoR(a b:Rat)(N:Nat)(i l:Nat):iQ (λj=>iQ (λk=>eQ b j*eQ a k*MP n M (j+k) i l) (N+1-j)) (N+1)=SQ n M (a+b) N i l:=by
 rw[LZ (λj k=>eQ b j*eQ a k*MP n M (j+k) i l),FP];refine qM _ λs _=>?_
 rw[<-Jt,<-FE];exact qM _ λj hj=>by rw[(aE:j+(s-j)=s)]
def aaO(g:Nat->Nat->Rat)(m:Nat):iQ (λj=>iQ (g j) m) m=iQ (λj=>iQ (g j) (m-j)) m+iQ (λj=>iQ (λk=>g j (m-j+k)) j) m:=by
 rw[<-IH];refine qM _ λj hj=>?_
 rw[<-FF,(aE:m-j+j=m)]
def ahu{v:Rat}(hv:0<=v)(h:AX n M v)(a b:Rat)(N:Nat){i l:Nat}(hi:i<n)(hl:l<n):
 iZ (rh n (SQ n M b N) (SQ n M a N) i l-SQ n M (a+b) N i l)<=iQ (λs=>eQ (iZ a*v+iZ b*v) (N+1+s)) (N+1):=by
 have hx:0<=iZ a*v:=b6 (ns a).1 hv;have hy:0<=iZ b*v:=b6 (ns b).1 hv;have e1:rh n (SQ n M b N) (SQ n M a N) i l=SQ n M (a+b) N i l+iQ (λj=>iQ (λk=>eQ b j*eQ a (N+1-j+k)*MP n M (j+(N+1-j+k)) i l) j) (N+1):=by
  have:=aaO (λj k=>eQ b j*eQ a k*MP n M (j+k) i l) (N+1);rw[aoR,<-alD a b N i hl]at this;exact this
 have e2:rh n (SQ n M b N) (SQ n M a N) i l-SQ n M (a+b) N i l=iQ (λj=>iQ (λk=>eQ b j*eQ a (N+1-j+k)*MP n M (j+(N+1-j+k)) i l) j) (N+1):= aP ;rw[e2];have e3:iZ (iQ (λj=>iQ (λk=>eQ b j*eQ a (N+1-j+k)*MP n M (j+(N+1-j+k)) i l) j) (N+1))<=iQ (λj=>iQ (λk=>eQ (iZ b*v) j*eQ (iZ a*v) (N+1-j+k)) j) (N+1):=by
  refine bQ (D5 _ _) (DU _ λj _=>bQ (D5 _ _) (DU _ λk _=>?_));rw[zK,zK,Gg,Gg,Nh,Nh];have hr:=am0 (RH hv h (j+(N+1-j+k))) hi hl;rw[Y4]at hr;have h1:=wQ (ns b).1 j;have h2:=wQ (ns a).1 (N+1-j+k);have h3:=cJ hr (b6 h1 h2)
  grind
 refine bQ e3 ?_;have q1:iQ (λj=>iQ (λk=>eQ (iZ b*v) j*eQ (iZ a*v) k) (N+1)) (N+1)=iQ (λj=>iQ (λk=>eQ (iZ b*v) j*eQ (iZ a*v) k) (N+1-j)) (N+1)+iQ (λj=>iQ (λk=>eQ (iZ b*v) j*eQ (iZ a*v) (N+1-j+k)) j) (N+1):=
  aaO (λj k=>eQ (iZ b*v) j*eQ (iZ a*v) k) (N+1)
 have q2:iQ (λj=>iQ (λk=>eQ (iZ b*v) j*eQ (iZ a*v) k) (N+1-j)) (N+1)=iQ (λs=>eQ (iZ a*v+iZ b*v) s) (N+1):=by
  rw[LZ (λj k=>eQ (iZ b*v) j*eQ (iZ a*v) k)];exact qM _ λs _=>Jt _ _ s
 have G0:∀ j k,0<=eQ (iZ b*v) j*eQ (iZ a*v) k:=λj k=>b6 (wQ hy j) (wQ hx k)
 have q3:iQ (λj=>iQ (λk=>eQ (iZ b*v) j*eQ (iZ a*v) k) (N+1)) (N+1)<=iQ (λs=>eQ (iZ a*v+iZ b*v) s) (N+1+(N+1)):=by
  rw[<-qM (f:=λs=>iQ (λj=>eQ (iZ b*v) j*eQ (iZ a*v) (s-j)) (s+1)) _ λs _=>Jt _ _ s,<-LZ (λj k=>eQ (iZ b*v) j*eQ (iZ a*v) k)];refine bQ (DU _ λj hj=>IJ (λk=>G0 j k) (aE:N+1<=N+1+(N+1)-j)) ?_;exact IJ (λj=>DW _ λk _=>G0 j k) aE 
 rw[FF (λs=>eQ (iZ a*v+iZ b*v) s) (N+1) (N+1),q1,q2]at q3;have cancel:∀ A B C:Rat,A+B<=A+C->B<=C:=by intro A B C h;grind
 exact cancel _ _ _ q3
def ahv(n:Nat)(M:QM)(a b:Rat){ε:Rat}(hε:0<ε):∃ N0,∀ N,N0<=N->∀ i l,i<n->l<n->iZ (rh n (SQ n M b N) (SQ n M a N) i l-SQ n M (a+b) N i l)<=ε:=by
 obtain⟨v,hv,h⟩:=am1 n M;have hz:0<=iZ a*v+iZ b*v:=by
  have hx:0<=iZ a*v:=b6 (ns a).1 hv;have hy:0<=iZ b*v:=b6 (ns b).1 hv
  grind
 obtain⟨m0,h0⟩:=aa8 hz hε;exact⟨m0,λN hN i l hi hl=>bQ (ahu hv h a b N hi hl) (h0 (N+1) aE (N+1))⟩
def abZ(N:Nat)(i l:Nat):SQ n M 0 N i l=zg i l:=by
 induction N with
 |zero=>rfl
 |succ N ih=>
  show SQ n M 0 N i l+TQ n M 0 (N+1) i l=_;rw[ih,MA];simp only[eQ,cX];grind
end
def pZ(f:Nat->Rat)(X:Iv):Prop:=∀ ε,0<ε->∃ N0,∀ N,N0<=N->∃ r,X.jZ r/\iZ (f N-r)<=ε
def pZ.P4{f:Nat->Rat}{X:Iv}{k:Nat}(h:∀ N,k<=N->X.jZ (f N)):pZ f X:=λε hε=>
 ⟨k,λN hN=>⟨f N,h N hN,by rw[Rat.sub_self,RS];exact bN hε⟩⟩
def pZ.all{f:Nat->Rat}{X:Iv}(h:X.all=true):pZ f X:=pZ.P4 (k:=0) λ_ _=>.inl h
def pZ.shift{f g:Nat->Rat}{X:Iv}(h:pZ f X)(k:∀ ε,0<ε->∃ N0,∀ N,N0<=N->iZ (g N-f N)<=ε):pZ g X:=λε hε=>by
 obtain⟨N1,h1⟩:=h (ε/2) aP;obtain⟨N2,h2⟩:=k (ε/2) aP;refine⟨max N1 N2,λN hN=>?_⟩;obtain⟨r,hr,hd⟩:=h1 N aE;have hg:=h2 N aE;refine⟨r,hr,?_⟩;have:=RR (g N-f N) (f N-r);rw[show g N-f N+(f N-r)=g N-r by grind]at this
 grind
def EQ(c:Rat)(N:Nat):Rat:=iQ (eQ c) (N+1)
def ak7(j:Nat):MP 1 (λ_ _=>1) j 0 0=1:=by
 induction j with
 |zero=>rfl
 |succ j ih=>
  show iQ (λq=>MP 1 (λ_ _=>1) j 0 q*1) 1=1;simp only[iQ];rw[ih];grind
def I4(c:Rat)(N:Nat):SQ 1 (λ_ _=>1) c N 0 0=EQ c N:=by
 rw[FP];exact qM _ λj _=>by rw[ak7];grind
def Mr(a b:Rat){ε:Rat}(hε:0<ε):∃ N0,∀ N,N0<=N->iZ (EQ (a+b) N-EQ a N*EQ b N)<=ε:=by
 obtain⟨N0,h0⟩:=ahv 1 (λ_ _=>1) a b hε;refine⟨N0,λN hN=>?_⟩;have:=h0 N hN 0 0 aG aG;rw[show rh 1 (SQ 1 (λ_ _=>1) b N) (SQ 1 (λ_ _=>1) a N) 0 0=EQ a N*EQ b N by
  show iQ (λq=>SQ 1 (λ_ _=>1) b N 0 q*SQ 1 (λ_ _=>1) a N q 0) 1=_;simp only[iQ];rw[I4,I4];grind,I4]at this
 obtain⟨_,a2,a3,_⟩:=ns (EQ a N*EQ b N-EQ (a+b) N);exact yE aP aP 
def abR(N:Nat):EQ 0 N=1:=by
 rw[<-I4,abZ];rfl
def R7{x:Iv}{r s:Rat}(hx:x.ib)(h:x.jZ r)(hs:iZ s<=iZ r):(rV x).jZ s:=by
 unfold rV;cases xa:x.all
 .obtain ⟨h1,h2⟩:=h.ko xa;obtain⟨m1,m2,_⟩:=Ds hx.q;obtain⟨_,a2,a3,a4⟩:=ns r;obtain⟨_,b2,b3,_⟩:=ns s;have hr:iZ r<=(iR x).q:= aP ;refine .inr ⟨?_,?_⟩
  .show (jf (iR x)).q<=s;rw[rM];grind
  .show s<=(iR x).q
   grind
 .rw [bk rfl];exact .inl xa
def Cj{a b:Int}(h:a<=b):P2 a<=P2 b:=by
 rw[FO h];have h1:(1:Rat)<=((2^(b-a).toNat:Nat):Rat):=by
  have:=dF.2 (Nat.one_le_two_pow (n:=(b-a).toNat));exact this
 have:=ct h1 (bN (mF a))
 grind
def jD(j:Int):Nat:=4+(j%4).toNat
def nD(j:Int):Dy:=canon false (jD j) (j/4)
def Fb(j:Int):4<=jD j/\jD j<=7:=by unfold jD;omega
def PM(j:Int):(nD j).q=(jD j:Rat)*P2 (j/4):=by
 unfold nD;rw[qy];rfl
def akB(j:Int):0<(nD j).q:=by
 rw[PM];refine ej ?_ (mF _);have:=(Fb j).1
 exact_mod_cast (aE:0<jD j)
def Dw(j:Int):0<(nD j).iI:=(sI _).1.2 (akB j)
def Yi(j:Int):(nD j).q<(nD (j+1)).q:=by
 rw[PM,PM];have p:=mF (j/4);by_cases h:j%4=3
 .have e1:(j+1)/4=j/4+1:= aE ;have e2:jD (j+1)=4:=by unfold jD;omega
  have e3:jD j=7:=by unfold jD;omega
  rw[e1,e2,e3,oP,show P2 1=2 by have:=uK 1;simpa using this];have h1:((7:Nat):Rat)*P2 (j/4)<((8:Nat):Rat)*P2 (j/4):=dG (by exact_mod_cast (aG:7<8)) p;have h2:((8:Nat):Rat)*P2 (j/4)=((4:Nat):Rat)*(P2 (j/4)*2):=by
   rw[show((8:Nat):Rat)=8 from rfl,show((4:Nat):Rat)=4 from rfl]
   grind
  rw[<-h2];exact h1
 .have e1:(j+1)/4=j/4:= aE ;have e2:jD (j+1)=jD j+1:=by unfold jD;omega
  rw[e1,e2];exact dG (by exact_mod_cast eC _) p
def Yg(j:Int):∀ n:Nat,(nD j).q<(nD (j+((n+1:Nat):Int))).q
 | 0=>Yi j
 |n+1=>by
  have h1:=Yg j n;have h2:=Yi (j+((n+1:Nat):Int));rw[(aE:j+((n+1:Nat):Int)+1=j+((n+1+1:Nat):Int))]at h2
  grind
def PK{i j:Int}(h:i<j):(nD i).q<(nD j).q:=by
 have:=Yg i (j-i-1).toNat
 rwa[(aE:i+(((j-i-1).toNat+1:Nat):Int)=j)]at this
def aky{i j:Int}(h:i<=j):(nD i).q<=(nD j).q:=by
 by_cases e:i=j
 .subst e;exact cg
 .exact bN (PK aE)
def K4{i j:Int}:iL (nD i) (nD j)<0↔i<j:=by
 rw[alO];refine⟨λh=>?_,PK⟩;by_cases q:i<j
 .exact q
 .exact absurd h (dB.2 (aky (aE:j<=i)))
def BR(k:Int):nD (4*(k-2))=iS k:=by
 unfold nD;rw[show jD (4*(k-2))=4 by unfold jD;omega,(aE:4*(k-2)/4=k-2)];show canon false 4 (k-2)=⟨false,1,k⟩
 have e:canon false 4 (k-2)=⟨false,4/2^jz 4,k-2+jz 4⟩:=rfl;rw[e,show jz 4=2 by decide +kernel];simp
def Yc{j e:Int}(h:j=4*e):nD j=⟨false,1,e+2⟩:=by
 have:=BR (e+2);rw[(aE:4*(e+2-2)=j)]at this;rw[this];rfl
def Yd{j e:Int}(h:j=4*e+1):nD j=⟨false,5,e⟩:=by
 unfold nD;rw[show jD j=5 by unfold jD;omega,(aE:j/4=e)];have e:canon false 5 e=⟨false,5/2^jz 5,e+jz 5⟩:=rfl;rw[e,show jz 5=0 by decide +kernel];simp
def Ye{j e:Int}(h:j=4*e+2):nD j=⟨false,3,e+1⟩:=by
 unfold nD;rw[show jD j=6 by unfold jD;omega,(aE:j/4=e)];have e:canon false 6 e=⟨false,6/2^jz 6,e+jz 6⟩:=rfl;rw[e,show jz 6=1 by decide +kernel];simp
def Yf{j e:Int}(h:j=4*e+3):nD j=⟨false,7,e⟩:=by
 unfold nD;rw[show jD j=7 by unfold jD;omega,(aE:j/4=e)];have e:canon false 7 e=⟨false,7/2^jz 7,e+jz 7⟩:=rfl;rw[e,show jz 7=0 by decide +kernel];simp
def E7(j:Int):∃ e:Int,(j=4*e/\nD j=⟨false,1,e+2⟩)\/(j=4*e+1/\nD j=⟨false,5,e⟩)\/(j=4*e+2/\nD j=⟨false,3,e+1⟩)\/(j=4*e+3/\nD j=⟨false,7,e⟩):=by
 refine⟨j/4,?_⟩;have:j%4=0\/j%4=1\/j%4=2\/j%4=3:= aE ;rcases this with h|h|h|h
 .exact .inl ⟨aE,Yc aE⟩
 .exact .inr (.inl ⟨aE,Yd aE⟩)
 .exact .inr (.inr (.inl ⟨aE,Ye aE⟩))
 .exact .inr (.inr (.inr ⟨aE,Yf aE⟩))
def Hz(j:Int):ie (nD j).m<=3:=by
 obtain⟨e,⟨_,h⟩|⟨_,h⟩|⟨_,h⟩|⟨_,h⟩⟩:=E7 j<;>rw[h]<;>simp only<;>decide +kernel
def E8(j:Int):(nD j).m≠0:=by
 obtain⟨e,⟨_,h⟩|⟨_,h⟩|⟨_,h⟩|⟨_,h⟩⟩:=E7 j<;>rw[h]<;>simp only<;>decide
def akz(j:Int):(nD j).neg=false:=by
 obtain⟨e,⟨_,h⟩|⟨_,h⟩|⟨_,h⟩|⟨_,h⟩⟩:=E7 j<;>rw[h]
def HI(j:Int):j/4<=(nD j).e/\(nD j).e<=j/4+2:=by
 obtain⟨e,⟨g,h⟩|⟨g,h⟩|⟨g,h⟩|⟨g,h⟩⟩:=E7 j<;>rw[h]<;>simp only<;>omega
def ri{j:Int}(h1:-60000<=j)(h2:j<=60000):(nD j).ib:=by
 have hb:=Hz j;have he:=HI j;refine⟨rY _ _ _,.inr ⟨aE,aE,aE,aE⟩⟩
def uB(j:Int):(nD j).im=j/4+3:=by
 obtain⟨e,⟨g,h⟩|⟨g,h⟩|⟨g,h⟩|⟨g,h⟩⟩:=E7 j
 .rw [h,show Dy.im ⟨false,1,e+2⟩=(ie 1:Int)+(e+2)from rfl,show ie 1=1 by decide +kernel];omega
 .rw [h,show Dy.im ⟨false,5,e⟩=(ie 5:Int)+e from rfl,show ie 5=3 by decide +kernel];omega
 .rw [h,show Dy.im ⟨false,3,e+1⟩=(ie 3:Int)+(e+1)from rfl,show ie 3=2 by decide +kernel];omega
 .rw [h,show Dy.im ⟨false,7,e⟩=(ie 7:Int)+e from rfl,show ie 7=3 by decide +kernel];omega
def qi(m:Nat)(e:Int):Dy:=if ie m<=3 then⟨false,m,e⟩else canon false (m/2^(ie m-3)) (e+((ie m-3:Nat):Int))
def akA{j:Int}(h1:-16384<=(nD j).e)(h2:j/4+3<=16384):(nD j).ib:=by
 have ht:=uB j;unfold Dy.im at ht;rw[bj (E8 j)]at ht;have hb:=ny (E8 j);have hc:=Hz j;exact⟨rY _ _ _,.inr ⟨aE,h1,aE,aE⟩⟩
def Fa{d:Dy}(hd:d.ib)(hs:0<d.iI):∃ j:Int,qi d.m d.e=nD j/\(nD j).ib/\(nD j).q<=d.q:=by
 have hm:d.m≠0/\d.neg=false:=by
  rcases AJ d with⟨_,h⟩|⟨_,_,h⟩|⟨h0,hn,_⟩
  .omega
  .omega
  .exact ⟨h0,hn⟩
 obtain⟨h0,hn⟩:=hm;have ho:d.m%2=1:=by
  rcases hd.canon with⟨h,_⟩|h
  .exact absurd h h0
  .exact h
 have hr:=hd.range;unfold mT at hr;obtain⟨r1,r2,r3,r4⟩:=hr.resolve_left h0;obtain⟨neg,m,e⟩:=d;simp only at h0 hn ho r1 r2 r3 r4 ⊢;subst hn;by_cases hb:ie m<=3
 .unfold qi;rw[bk hb];have h8:m<8:=bV (qw m) (bR aG hb);have key:∃ j:Int,(⟨false,m,e⟩:Dy)=nD j:=by
   have:m=1\/m=3\/m=5\/m=7:= aE ;rcases this with rfl|rfl|rfl|rfl
   .exact ⟨4*(e-2),by rw[Yc (e:=e-2) aE];congr 1;omega⟩
   .exact ⟨4*(e-1)+2,by rw[Ye (e:=e-1) aE];congr 1;omega⟩
   .exact ⟨4*e+1,(Yd rfl).symm⟩
   .exact ⟨4*e+3,(Yf rfl).symm⟩
  obtain⟨j,hj⟩:=key;refine⟨j,hj,?_,?_⟩
  .rw [<-hj];exact hd
  .rw [<-hj];exact cg
 .obtain ⟨k,hk⟩:∃ k,ie m=k+3:=⟨ie m-3,aE⟩
  have BC:4<=m/2^k:=by
   have:=rP h0;rw[hk,(aE:k+3-1=2+k),bB]at this;rw[cW (bD aG)];exact this
  have ui:m/2^k<8:=by
   have:=qw m;rw[hk,(aE:k+3=3+k),bB]at this;rw[cA (bD aG)];exact this
  have hj:qi m e=nD (4*(e+(k:Int))+((m/2^k:Nat):Int)-4):=by
   unfold qi;rw[bj hb,(aE:ie m-3=k)];generalize m/2^k=q at BC ui;unfold nD;rw[show jD (4*(e+(k:Int))+(q:Int)-4)=q by unfold jD;omega,show(4*(e+(k:Int))+(q:Int)-4)/4=e+(k:Int)by omega]
  refine⟨_,hj,?_,?_⟩
  .have h1:=(HI (4*(e+(k:Int))+((m/2^k:Nat):Int)-4)).1;exact akA aE aE 
  .rw [<-hj];unfold qi;rw[bj hb,(aE:ie m-3=k),qy,pv];show((m/2^k:Nat):Rat)*P2 (e+(k:Int))<=(m:Rat)*P2 e;rw[Int.add_comm,oP,uK,<-eF];refine(tc e).2 ?_;have:=dh m (2^k)
   exact_mod_cast this
def rA(h:Dy)(jy:Int):Nat->Dy->Bool
 | 0,m=>decide (iL m (iS (0-jy))<=0)
 |r+1,m=>if kC (iY m h)=0 then rA h jy r (jC (iY m h))else decide (m.im+((r+1:Nat):Int)*h.im<=0-jy)
def jK(h:Dy):Nat->Dy->Dy
 | 0,m=>m
 |i+1,m=>jC (iY (jK h i m) h)
def rI(h:Dy)(i:Nat)(m:Dy):Bool:=kC (iY (jK h i m) h)==0
def PH(h:Dy):∀ i m,jK h (i+1) m=jK h i (jC (iY m h))
 | 0,_=>rfl
 |i+1,m=>by
  show jC (iY (jK h (i+1) m) h)=jC (iY (jK h i (jC (iY m h))) h);rw[PH h i m]
def ak6(h:Dy)(i:Nat)(m:Dy):rI h (i+1) m=rI h i (jC (iY m h)):=by
 unfold rI;rw[PH]
def tJ{h m:Dy}(hm:m.ib):∀ i,(jK h i m).ib
 | 0=>hm
 |_+1=>F2 (rY _ _ _)
def NA{h:Dy}{jy:Int}:∀ (N k:Nat) (m:Dy),N<=k->(∀ i,i<N->rI h i m=true)->rA h jy k m=rA h jy (k-N) (jK h N m)
 | 0,_,_,_,_=>rfl
 |N+1,k,m,hN,ho=>by
  obtain⟨k,rfl⟩:∃ k',k=k'+1:=⟨k-1,aE⟩
  have h0:=ho 0 aE;have e:rA h jy (k+1) m=rA h jy k (jC (iY m h)):=bk (gq.1 h0);rw[e,NA N k _ aE λi hi=>by rw[<-ak6];exact ho (i+1) aE,<-PH,(aE:k+1-(N+1)=k-N)]
def JZ{h:Dy}{jy:Int}{k:Nat}{m:Dy}(ho:∀ i,i<k->rI h i m=true):rA h jy k m=decide (iL (jK h k m) (iS (0-jy))<=0):=by
 rw[NA k k m (bu _) ho,dq];rfl
def J0{h:Dy}{jy:Int}{k N:Nat}{m:Dy}(hN:N<k)(ho:∀ i,i<N->rI h i m=true)(hn:rI h N m=false):
 rA h jy k m=decide ((jK h N m).im+((k:Int)-N)*h.im<=0-jy):=by
 rw[NA N k m aE ho];obtain⟨r,hr⟩:∃ r,k-N=r+1:=⟨k-N-1,aE⟩
 rw[hr];have e:rA h jy (r+1) (jK h N m)=decide ((jK h N m).im+((r+1:Nat):Int)*h.im<=0-jy):=bj (beq_eq_false_iff_ne.1 hn);rw[e,show((r+1:Nat):Int)=k-(N:Int)by omega]
def Lf(h m:Dy)(k:Nat):(∀ i,i<k->rI h i m=true)\/∃ N,N<k/\(∀ i,i<N->rI h i m=true)/\rI h N m=false:=by
 induction k with
 |zero=>exact .inl λi hi=>absurd hi (bE i)
 |succ k ih=>
  rcases ih with h1|⟨N,h1,h2,h3⟩
  .cases hk:rI h k m with
   |true=>
    refine .inl λi hi=>?_
    by_cases q:i=k
    .subst q;exact hk
    .exact h1 i aE 
   |false=>exact .inr ⟨k,eC _,h1,hk⟩
  .exact .inr ⟨N,aE,h2,h3⟩
def qE(l:List Dy)(h:Dy)(k:Nat)(jy:Int):Bool:=(List.range l.length).all λi=>rA h jy k (l.getD i iA)
structure Mu(F E:Int->Bool)(j0:Int)(n1 n2:Nat):Prop where
 a:∀ n:Nat,n<n1 -> -248<=j0-n/\F (j0-n)=false
 b:j0-n1 < -248\/F (j0-n1)=true
 c:n2<=40
 d:∀ n:Nat,n<n2 -> -248<=j0-n1-n/\E (j0-n1-n)=false
 e:n2=40\/j0-n1-n2 < -248\/E (j0-n1-n2)=true
def Po{P:Nat->Bool}{n:Nat}(h:P n=true):∃ N,N<=n/\P N=true/\∀ k,k<N->P k=false:=by
 induction n using Nat.strongRecOn with
 |ind n ih=>
  by_cases q:∃ k,k<n/\P k=true
  .obtain ⟨k,h1,h2⟩:=q;obtain⟨N,h3,h4,h5⟩:=ih k h1 h2;exact⟨N,aE,h4,h5⟩
  .exact ⟨n,bu _,h,λk hk=>by
    cases hp:P k with
    |false=>rfl
    |true=>exact absurd ⟨k,hk,hp⟩ q⟩
def aj9(F E:Int->Bool)(j0:Int):∃ n1 n2,Mu F E j0 n1 n2:=by
 obtain⟨n1,_,h1,h2⟩:=Po (P:=λn=>decide (j0-(n:Int) < -248)||F (j0-(n:Int))) (n:=(j0+249).toNat) (by
  rw[dI];exact .inl (bn aE))
 obtain⟨n2,h3,h4,h5⟩:=Po (P:=λn=>decide (n=40)||decide (j0-(n1:Int)-n < -248)||E (j0-(n1:Int)-n)) (n:=40) aK ;simp only[dI,cv,eW,aq4]at h1 h2 h4 h5;refine⟨n1,n2,λn hn=>⟨by have:=(h2 n hn).1;omega,(h2 n hn).2⟩,h1,h3,λn hn=>⟨by have:=(h5 n hn).1.2;omega,(h5 n hn).2⟩,?_⟩;rcases h4 with(h|h)|h
 .exact .inl h
 .exact .inr (.inl h)
 .exact .inr (.inr h)
def I5(j0:Int)(n1 n2:Nat):Prop:=n2<40 /\ -248<=j0-n1-n2
def akq(a b:Dy):jj a b=a\/jj a b=b:=by unfold jj;split;exact .inr rfl;exact .inl rfl
def Pz(a b:Dy):iW a b=a\/iW a b=b:=by unfold iW;split;exact .inr rfl;exact .inl rfl
def afj(neg:Bool)(m:Nat)(e:Int)(more:Bool)(p:Nat)(up:Bool)(hp:1<=p):ie (kn neg m e more p up).m<=p:=by
 unfold kn;split
 .split
  .exact bS _
  .exact MY (dz _ _) hp
 .exact MY (M9 m e more p (neg != up)) hp
def Be(a b:Dy){p:Nat}(hp:1<=p)(up:Bool):ie (pA a b p up).m<=p:=by
 unfold pA;split
 .exact bS _
 .exact afj _ _ _ _ _ _ hp
def afw(x y:Iv){p:Nat}(hp:1<=p):ie (jt x y p).lo.m<=p/\ie (jt x y p).hi.m<=p:=by
 have hw:ie gY.lo.m<=p/\ie gY.hi.m<=p:=⟨bS _,bS _⟩
 have mn:∀ {a b:Dy},ie a.m<=p->ie b.m<=p->ie (jj a b).m<=p:=fun {a b} h1 h2=>by rcases akq a b with q|q<;>rw[q]<;>assumption
 have mx:∀ {a b:Dy},ie a.m<=p->ie b.m<=p->ie (iW a b).m<=p:=fun {a b} h1 h2=>by rcases Pz a b with q|q<;>rw[q]<;>assumption
 unfold jt;split
 .exact hw
 .unfold pB;split
  .exact ⟨mn (mn (mn (Be _ _ hp _) (Be _ _ hp _)) (Be _ _ hp _)) (Be _ _ hp _),mx (mx (mx (Be _ _ hp _) (Be _ _ hp _)) (Be _ _ hp _)) (Be _ _ hp _)⟩
  .exact hw
def akj(x y:Iv){p:Nat}(hp:1<=p):ie (iR (jt x y p)).m<=p:=by
 obtain⟨h1,h2⟩:=afw x y hp;unfold iR;rcases Pz (kU (jt x y p).lo) (kU (jt x y p).hi)with q|q<;>rw[q]
 .exact h1
 .exact h2
def akg(x:Iv):(iR x).neg=false:=by
 unfold iR;rcases Pz (kU x.lo) (kU x.hi)with q|q<;>rw[q]<;>rfl
def jF(h:Dy):Nat->Dy->Dy
 | 0,m=>m
 |i+1,m=>iY (jF h i m) h
def Y6(h:Dy):∀ i m,jF h (i+1) m=jF h i (iY m h)
 | 0,_=>rfl
 |i+1,m=>by
  show iY (jF h (i+1) m) h=iY (jF h i (iY m h)) h;rw[Y6 h i m]
def K2{a b:Dy}(ha:a.neg=false)(hb:b.neg=false):(iY a b).neg=false/\(iY a b).q=a.q*b.q:=by
 have e:(a.neg != b.neg)=false:=by rw[ha,hb];rfl
 refine⟨?_,?_⟩
 .unfold iY canon;split
  .rfl
  .exact e
 .unfold iY;rw[e,qy,pv a,pv b,ha,hb,oP];simp only[bK,bC];rw[show((a.m*b.m:Nat):Rat)=(a.m:Rat)*(b.m:Rat)from dg _ _]
  grind
def Lp{h m:Dy}(hm:m.neg=false)(hh:h.neg=false):∀ i,(jF h i m).neg=false
 | 0=>hm
 |i+1=>(K2 (Lp hm hh i) hh).1
def Qj{d:Dy}(h:d.neg=false):d.q=(d.m:Rat)*P2 d.e:=by rw[pv,h];rfl
def q0{d:Dy}(h:d.neg=false):0<=d.q:=by
 rw[Qj h];exact b6 cV (bN (mF _))
def Rh{d:Dy}(hn:d.neg=false)(h:d.m≠0):d.q<=P2 d.im:=by
 rw[Qj hn];have ht:d.im=(ie d.m:Int)+d.e:=by unfold Dy.im;rw[bj h]
 rw[ht,oP,uK];refine(tc d.e).2 ?_
 exact_mod_cast dt (qw d.m)
def Ri{d:Dy}(hn:d.neg=false)(h:d.m≠0):P2 (d.im-1)<=d.q:=by
 rw[Qj hn];have ht:d.im-1=((ie d.m-1:Nat):Int)+d.e:=by unfold Dy.im;rw[bj h];have:=ny h;omega
 rw[ht,oP,uK];refine(tc d.e).2 ?_
 exact_mod_cast rP h
def Y9{h:Dy}(hh:h.neg=false){b:Int}(hb:P2 b<=h.q):∀ (i:Nat) {m:Dy} (_:m.neg=false) {a:Int} (_:P2 a<=m.q),P2 (a+(i:Int)*b)<=(jF h i m).q
 | 0,m,_,a,ha=>by
  rw[(aE:a+((0:Nat):Int)*b=a)];exact ha
 |i+1,m,hm,a,ha=>by
  have ih:=Y9 hh hb i hm ha;show P2 (a+((i+1:Nat):Int)*b)<=(iY (jF h i m) h).q;rw[(K2 (Lp hm hh i) hh).2,show a+((i+1:Nat):Int)*b=(a+(i:Int)*b)+b by rw[dJ,gR];omega,oP];exact bQ (ct ih (bN (mF b))) (cJ hb (q0 (Lp hm hh i)))
def Y8{h:Dy}(hh:h.neg=false){b:Int}(hb:h.q<=P2 b):∀ (i:Nat) {m:Dy} (_:m.neg=false) {a:Int} (_:m.q<=P2 a),(jF h i m).q<=P2 (a+(i:Int)*b)
 | 0,m,_,a,ha=>by
  rw[(aE:a+((0:Nat):Int)*b=a)];exact ha
 |i+1,m,hm,a,ha=>by
  have ih:=Y8 hh hb i hm ha;show(iY (jF h i m) h).q<=P2 (a+((i+1:Nat):Int)*b);rw[(K2 (Lp hm hh i) hh).2,show a+((i+1:Nat):Int)*b=(a+(i:Int)*b)+b by rw[dJ,gR];omega,oP];exact bQ (ct ih (q0 hh)) (cJ hb (bN (mF _)))
def Rm(z:Int):(iS z).q=P2 z:=by rw[pv];show((1:Nat):Rat)*P2 z=P2 z;simp
def Mw{a b:Int}(h:a<b):P2 a<P2 b:=by
 have h1:=Cj (aE:a+1<=b);have h2:P2 (a+1)=P2 a*2:=by rw[oP,show P2 1=2 by have:=uK 1;simpa using this]
 have h3:=mF a
 grind
def Ya{r:Nat}{b:Int}(hr:r<=20)(h1:-70<=b)(h2:b<=30):-1400<=(r:Int)*b/\(r:Int)*b<=600:=by
 have e:r=0\/r=1\/r=2\/r=3\/r=4\/r=5\/r=6\/r=7\/r=8\/r=9\/r=10\/r=11\/r=12\/r=13\/r=14\/r=15\/r=16\/r=17\/r=18\/r=19\/r=20:= aE ;rcases e with rfl|rfl|rfl|rfl|rfl|rfl|rfl|rfl|rfl|rfl|rfl|rfl|rfl|rfl|rfl|rfl|rfl|rfl|rfl|rfl|rfl<;>omega
def US{j:Int}(j1:-248<=j)(j2:j<=72){t:Int}(t0:0<=t)(t2:t<=200):∀ (r:Nat) (m:Dy),r<=16->m.ib->m.neg=false->ie m.m+3*r<=400->rA (nD j) t r m=decide (iL (jF (nD j) r m) (iS (0-t))<=0)
 | 0,m,_,_,_,_=>rfl
 |r+1,m,hr,hm,hn,hb=>by
  have hN:=akz j;have hnt:=uB j;obtain⟨p1,p2⟩:=K2 hn hN;have hbm:ie (iY m (nD j)).m<=ie m.m+3:=by
   by_cases h0:m.m*(nD j).m=0
   .have:(iY m (nD j)).m=0:=by unfold iY canon;rw[bk h0]
    rw[this];exact bS _
   .have h1:=(zQ (s:=m.neg != (nD j).neg) (e:=m.e+(nD j).e) h0).2.2.2;have h2:=Jv m.m (nD j).m;have h3:=Hz j;show ie (canon _ _ _).m<=_;omega
  rw[Y6];by_cases hc:kC (iY m (nD j))=0
  .have GL:mT (iY m (nD j)):=bT λq=>by rw[Eg q]at hc;cases hc
   have e:rA (nD j) t (r+1) m=rA (nD j) t r (jC (iY m (nD j))):=bk hc;rw[e,yJ GL];exact US j1 j2 t0 t2 r _ aE ⟨rY _ _ _,GL⟩ p1 aE 
  .have GL:¬mT (iY m (nD j)):=λq=>hc (Cy q)
   have e:rA (nD j) t (r+1) m=decide (m.im+((r+1:Nat):Int)*(nD j).im<=0-t):=bj hc;have h0:(iY m (nD j)).m≠0:=λq=>GL (.inl q)
   have yX:m.m≠0:=λq=>h0 (by unfold iY canon;rw[q,cM,bk rfl])
   have ht:(iY m (nD j)).im=((ie (iY m (nD j)).m:Nat):Int)+(iY m (nD j)).e:=by unfold Dy.im;rw[bj h0]
   have pO:=ny h0;have a1:=Ri hn yX;have a2:=Rh hn yX;have b1:=Ri hN (E8 j);have b2:=Rh hN (E8 j);have c1:=Ri p1 h0;have c2:=Rh p1 h0;rw[p2]at c1 c2;have s1:m.im+(nD j).im-2<(iY m (nD j)).im+1:=by
    apply bT;intro q;have h1:P2 (m.im-1+((nD j).im-1))<=m.q*(nD j).q:=by
     rw[oP];exact bQ (ct a1 (bN (mF _))) (cJ b1 (q0 hn))
    have h2:=bQ h1 c2;have h3:=Mw (show(iY m (nD j)).im<m.im-1+((nD j).im-1)by omega);exact absurd h2 (ff.2 h3)
   have s2:(iY m (nD j)).im-1<=m.im+(nD j).im:=by
    apply bT;intro q;have h1:m.q*(nD j).q<=P2 (m.im+(nD j).im):=by
     rw[oP];exact bQ (ct a2 (q0 hN)) (cJ b2 (bN (mF _)))
    have h2:=bQ c1 h1;have h3:=Mw (aE:m.im+(nD j).im<(iY m (nD j)).im-1);exact absurd h2 (ff.2 h3)
   have hmul:((r+1:Nat):Int)*(nD j).im=(r:Int)*(nD j).im+(nD j).im:=by rw[dJ,gR];omega
   have V9:=Ya (r:=r) (b:=(nD j).im) aE aE aE;have sE:=Ya (r:=r) (b:=(nD j).im-1) aE aE aE;rw[e];rw[<-p2]at c1 c2;by_cases yT:16384<(iY m (nD j)).im
   .have f1:¬m.im+((r+1:Nat):Int)*(nD j).im<=0-t:= aE ;have f2:¬iL (jF (nD j) r (iY m (nD j))) (iS (0-t))<=0:=by
     rw[oY,Rm];have h1:=Y9 hN b1 r p1 c1;have h2:=Mw (aE:0-t<(iY m (nD j)).im-1+(r:Int)*((nD j).im-1));exact ff.2 aP 
    rw[bt f1,bt f2]
   .have CW:(iY m (nD j)).e < -16384:=by
     apply bT;intro q;exact GL (.inr ⟨aE,aE,aE,aE⟩)
    have f1:m.im+((r+1:Nat):Int)*(nD j).im<=0-t:= aE ;have f2:iL (jF (nD j) r (iY m (nD j))) (iS (0-t))<=0:=by
     rw[oY,Rm];have h1:=Y8 hN b2 r p1 c2;exact bQ h1 (Cj aE)
    rw[bn f1,bn f2]
def R3(m:List (List Iv))(x:Nat):PS:=⟨29,true,[(7,.e (iP x)),(6,.e (iP m.length)),(5,.e (kX m)),(0,.e (kX m))],[]⟩
def aas(p:Nat)(z:Int)(g:FuncId)(cap:List E)(T:Nat->Iv)(A:Nat)(x:Nat):PS:=⟨28,true,[(10,.e (iP ((A+x+1:Nat):Int))),(9,.box 9 0),(8,.box 8 0),(1,.e (iP z)),(2,.e (iP p)),(3,.e (.fn g cap))],[(9,.cells 39 (iO (my p T A x))),(8,.cells 39 au)]⟩
def aad(p:Nat)(z:Int)(g:FuncId)(cap:List E)(s:Iv)(T:Nat->Iv)(A:Nat)(x:Nat):PS:=⟨25,true,[(11,.e (iP ((A+x:Nat):Int))),(10,.box 10 0),(5,.box 5 0),(2,.e (iP z)),(3,.e (iP p)),(4,.e (.fn g cap))],[(10,.cells 39 au),(5,.cells 39 (iO (pL p s T A x)))]⟩
def aaa(a b:List Iv)(g:FuncId)(cap:List E)(T:Nat->Iv)(x:Nat):PS:=⟨37,true,[(19,.e (iP x)),(18,.e (iP a.length)),(7,.own 16),(0,.e (ig a)),(1,.e (ig b)),(2,.e (.fn g cap))],[(16,.row true 39 x 7 (iM (kt T x)))]⟩
def aai(a b:List Iv)(p:Nat)(x:Nat):PS:=⟨31,true,[(19,.e (iP x)),(18,.e (iP a.length)),(7,.own 16),(5,.box 5 0),(4,.box 4 0),(3,.box 3 0)],[(16,.row true 39 x 7 (iM (kt (λk=>my p (λi=>iH (a.getD i gY) (b.getD (k-i) gY) p) 0 k) x))),(5,.cells 3 [iP p]),(4,.cells 26 [ig b]),(3,.cells 26 [ig a])]⟩
def Z9(a b:List Iv)(p:Nat)(x:Nat):PS:=⟨43,true,[(20,.e (iP x)),(19,.e (iP a.length)),(7,.nF 7 1 0 0),(5,.box 5 0),(4,.box 4 0),(0,.e (ig a))],[(7,.jR true 26 39 1 7 (λ_=>x) (λ_=>iM (je (rZ a b p) x)) .none),(5,.cells 3 [iP p]),(4,.cells 26 [ig b])]⟩
def xC(m:List (List Iv))(n:Nat)(ug:1<=n)(hn:n<=17)(hl:m.length<=100)(hm:∀ i,i<m.length->(m.getD i []).length=n):gV 213 [kX m] (bP true):=
 ak call213 func213 (af [.s (Sp.jc (R3 m) 0 m.length aE (λx hx kW=>by
    have e1:=hm x aE;have e0:=hm 0 aE;exact iy (af [tT 8 ((x:Int)<m.length) aE,iX (x:Int) (m.length) aE,tF 13 (((m.getD x []).length:Int)<1) aE,tF 17 (17<((m.getD x []).length:Int)) aE,
     iX 0 (m.length) aE,ai 26 (((m.getD x []).length:Int) != ((m.getD 0 []).length:Int)) (wk aE),iq ((x:Int)+1) aE]) aI)
  (λhx=>by
    exact iy (af [tF 8 ((m.length:Int)<m.length) aE]) aI) aM:jb 2 f213 (R3 m 0) (.exit 0) ⟨29,true,[],[]⟩) .nil]) 
def Cn{a:List Iv}{n:Nat}(ha:a.length=n)(i:Nat)(hi:i<[a].length):([a].getD i []).length=n:=by
 obtain rfl:i=0:=by simp at hi;omega
 exact ha
def Ji{a b:List Iv}{n:Nat}(ha:a.length=n)(hb:b.length=n)(i:Nat)(hi:i<[a,b].length):([a,b].getD i []).length=n:=by
 rcases i with _|_|i
 .exact ha
 .exact hb
 .simp at hi;omega
def Du(a:List Iv):E.le (.sl true 1 1 λi j=>[ig a].getD (i*1+j) (.v (.bool false))) (kX [a]):=.sl λi j hi hj=>by
 obtain rfl:i=0:= aE ;obtain rfl:j=0:= aE ;exact⟨.iT rfl,rfl⟩
def Gv{T i n:Nat}{f:Nat->Iv}{y:Iv}(hn:n=i)(hy:y=f i):
 Bx.le (.row true T (n+[y].length) 7 λa j=>if a<n then iM (kt f i) a j else(E.kR (ig [y])) (a-n) j) (.row true T (i+1) 7 (iM (kt f (i+1)))):=by
 subst hy;have e:kt f (i+1)=kt f i++[f i]:=by simp[kt,aqQ]
 have h:=KW (T:=T) (n:=n) (xs:=kt f i) (y:=f i) (by rw[wT];exact hn);rw[<-e]at h;have e2:(kt f (i+1)).length=i+1:=wT _ _;rw[e2]at h;exact h
def amd{T i n:Nat}{f:Nat->List Iv->Iv}{y:Iv}(hn:n=i)(hy:y=f i (je f i)):
 Bx.le (.row true T (n+[y].length) 7 λa j=>if a<n then iM (je f i) a j else(E.kR (ig [y])) (a-n) j) (.row true T (i+1) 7 (iM (je f (i+1)))):=by
 subst hy;have h:=KW (T:=T) (n:=n) (xs:=je f i) (y:=f i (je f i)) (by rw[zo];exact hn);have e2:(je f i++[f i (je f i)]).length=i+1:=zo f (i+1);rw[e2]at h;exact h
def Iy{T:Nat}{el el':Nat->Nat->E}:Bx.le (.row true T 0 7 el) (.row true T 0 7 el'):=.row rfl λi j hi=>absurd hi (bE i)
def zw{n:Nat}{xs:List Iv}(h:n=xs.length):E.le (.sl true n 7 (iM xs)) (ig xs):=by subst h;exact .refl _
def ajW(L:List Nat):wK (ia L):=by
 intro bs bs' br w v h hv;cases hv with
 |sl _ _ _ _ A c f hc hm h0 hl hr cell k=>
  refine .sl _ _ _ _ A c f hc hm h0 hl hr (λi j hi hj=>?_) (λi j hi hj=>?_)
  .obtain ⟨b,o,e,hb,iC,ky⟩:=cell i j hi hj;refine⟨b,o,e,λhx=>?_,iC,ky⟩;rcases h b hx with q|q
   .exact hb q
   .have e:=iD.kJ (k i j hi hj);rw[e]at ky;exact q _ _ ky
  .have e:=iD.kJ (k i j hi hj);rw[e];exact .v _
def ajX(x:Value):wK (.v x):=λbs bs' br w v _ hv=>(iD.kJ hv) ▸ .v _
def XC(x:Iv)(j:Nat)(hj:j<7):wK ((iO x).getD j .any):=by
 rcases j with _|_|_|_|_|_|_|j
 all_goals first|exact ajX _|exact ajW _|omega
def Hp(x:Iv):wK (ij x):=by
 intro bs bs' br w v h hv;obtain⟨vs,rfl,hr⟩:=hv.Cm;refine kr.agg ⟨hr.len,λi p y hp hy=>?_⟩;have hi:i<7:=by
  rcases fT i 7 with q|q
  .exact q
  .rw [ch (by exact q)]at hp;cases hp
 have hq:=XC x i hi bs bs' br w y h;rw[bw,hp]at hq;exact hq (hr.kT i p y hp hy)
def XD{n:Nat}(xs:List Iv):FN n 7 (iM xs):=λi j _ hj=>XC _ j hj
def LP(A n p:Nat)(z:Int)(hz:z=((A+n:Nat):Int))(g:FuncId)(cap:List E)(T:Nat->Iv)(hA:A+n<=1000)(il:8<=p)(ic:p<=512)(hT:∀ i,A<=i->i<=A+n->(T i).ib/\gV g (iP (i:Int)::cap) (ij (T i))):gV 306 [iP A,iP z,iP p,.fn g cap] (ij (my p T A n)):=by
 have v0:=(hT A aE aE).1;exact ak call306 func306 (af [.c ((hT A aE aE).2:gV g ((iP A)::cap) _),iq ((A:Int)+1) aE,.s (Sp.jc (aas p z g cap T A) 0 n aE (λx hx kW=>by
    have v1:=IK (aE:1<=p) (aE:p<=4096) x λi h1 h2=>(hT i h1 aE).1
    have v2:=(hT (A+x+1) aE aE).1;exact iy (ae [tT 18 (((A+x+1:Nat):Int)<=z) aE,.c ((hT (A+x+1) aE aE).2:gV g ((iP ((A+x+1:Nat):Int))::cap) _),.c (Am (my p T A x) (T (A+x+1)) p aF aF aE aE),iq (((A+x+1:Nat):Int)+1) aE]<|.e (af [.o 10 (aq (((A+x+1)+1:Nat):Int) ((A+(x+1)+1:Nat):Int) aT),.b 9 (.iT rfl:Bx.le (.cells 39 (iO (jS (my p T A x) (T (A+x+1)) p))) (.cells 39 (iO (my p T A (x+1)))))])) aI)
  (λhx=>by
    exact iy (af [tF 18 (((A+n+1:Nat):Int)<=z) aE]) aI) aM:jb 3 f306 (aas p z g cap T A 0) (.exit 0) ⟨28,true,[(9,.box 9 0),(8,.box 8 0)],[(9,.cells 39 (iO (my p T A n))),(8,.cells 39 au)]⟩) (af [.o 10 (aq ((A+1:Nat):Int) ((A+0+1:Nat):Int) aT),.b 9 (.iT rfl:Bx.le (.cells 39 (iO (T A))) (.cells 39 (iO (my p T A 0))))])]) 
def aae(s:Iv)(hs:s.ib)(A n p:Nat)(z:Int)(hz:z=((A+n:Nat):Int)-1)(g:FuncId)(cap:List E)(T:Nat->Iv)(hA:A+n<=1000)(il:8<=p)(ic:p<=512)(hT:∀ i,A<=i->i<A+n->(T i).ib/\gV g (iP (i:Int)::cap) (ij (T i))):gV 308 [ij s,iP A,iP z,iP p,.fn g cap] (ij (pL p s T A n)):=
 ak call308 func308 (af [.s (Sp.jc (aad p z g cap s T A) 0 n aE (λx hx kW=>by
    have v1:=KZ (aE:1<=p) (aE:p<=4096) hs x λi h1 h2=>(hT i h1 aE).1
    have v2:=(hT (A+x) aE aE).1;exact iy (ae [tT 15 (((A+x:Nat):Int)<=z) aE,.c ((hT (A+x) aE aE).2:gV g ((iP ((A+x:Nat):Int))::cap) _),.c (KV (pL p s T A x) (T (A+x)) p aF aF aE aE),
     iq (((A+x:Nat):Int)+1) aE]<|.e (af [.o 11 (aq (((A+x)+1:Nat):Int) ((A+(x+1):Nat):Int) aT),.b 5 (.iT rfl:Bx.le (.cells 39 (iO (sJ (pL p s T A x) (T (A+x)) p))) (.cells 39 (iO (pL p s T A (x+1)))))])) aI)
  (λhx=>by
    exact iy (af [tF 15 (((A+n:Nat):Int)<=z) aE]) aI) aM:jb 2 f308 (aad p z g cap s T A 0) (.exit 0) ⟨25,true,[(10,.box 10 0),(5,.box 5 0)],[(10,.cells 39 au),(5,.cells 39 (iO (pL p s T A n)))]⟩) (af [.o 11 (aq A ((A+0:Nat):Int) aT),.b 5 (.iT rfl:Bx.le (.cells 39 (iO s)) (.cells 39 (iO (pL p s T A 0))))])]) 
def Ca(n:Nat)(hn:n<4294967296):gV 311 [iP n] (ij (kg n)):=
 ak call311 func311 (af [.c (FW n aE),.c (BL (ja (n:Int)) (EU _ aE))]) 
def afa{x:Iv}{k:Nat}:E.le (.sl true (k+1) 7 λi' j'=>if i'=0/\0<=j'/\j'<0+7 then(iO x).getD (j'-0) .any else au.getD j' .any) (ig (oj x k)):=by
 have hl:(oj x k).length=k+1:=by simp[oj]
 unfold ig;rw[hl];refine .sl λi j hi hj=>⟨?_,uk _ _ hj⟩
 by_cases h:i=0
 .subst h;rw[bk ⟨rfl,bS _,aE⟩];exact .iT rfl
 .rw [bj λq=>h q.1];obtain⟨m,rfl⟩:∃ m,i=m+1:=⟨i-1,aE⟩
  have e:(oj x k).getD (m+1) gY=LN:=by
   simp only[oj,bw,aqu,eZ];rw[bk aE];rfl
  rw[e];have e1:E.le (.v (.slice none 0 0)) (ia (gW 0)):=by rw[oz];exact .nil _ _ _
  rcases j with _|_|_|_|_|_|_|j
  all_goals first|exact e1|exact .refl _|omega
def Z8(x:Iv)(hx:x.ib)(k:Nat)(hk:k<=16):gV 235 [ij x,iP k] (ig (oj x k)):=
 ak call235 func235 (ae [tF 7 ((k:Int)<0) aE,tF 10 (16<(k:Int)) aE,iq ((k:Int)+1) aE,.a (aE:0<=(((k+1:Nat):Int):Int)/\(((k+1:Nat):Int):Int)<=(((k+1:Nat):Int):Int)),.a (aE:((88:Nat):Int)*((k+1:Nat):Int)<=281474976710656/\(((k+1:Nat):Int):Int)<=9223372036854775807),iX 0 (k+1) aE,.a (aE:0<(k+1))]<|rR (ig (oj x k)) (afa:E.le (.sl true (k+1) 7 (λi' j'=>if i'=0/\0<=j'/\j'<0+7 then[bP x.lo.neg,ia (gW x.lo.m),iP x.lo.e,bP x.hi.neg,ia (gW x.hi.m),iP x.hi.e,bP x.all].getD (j'-0) .any else(λ_ j_=>au.getD j_ .any) i' j')) (ig (oj x k)))) 
def QW(a b:List Iv)(n:Nat)(h1:1<=n)(nW:n<=17)(ha:a.length=n)(hb:b.length=n)(g:FuncId)(cap:List E)(T:Nat->Iv)(hf:∀ i,i<n->gV g (ij (a.getD i gY)::ij (b.getD i gY)::cap) (ij (T i))):gV 303 [ig a,ig b,.fn g cap] (ig (kt T a.length)):=
 ak call303 func303 (af [.o 11 (.e (E5 _ _):aj (.sl true 2 1 λi_ j_=>[ig a,ig b].getD (i_*1+j_) (.v (.bool false))) (kX [a,b])),.c (xC [a,b] n aE aE aK (Ji aF aF)),.a (aE:0<=(0:Int)/\(0:Int)<=((a.length:Int):Int)),.a (aE:((88:Nat):Int)*(a.length:Int)<=281474976710656/\((a.length:Int):Int)<=9223372036854775807),.s (Sp.jc (aaa a b g cap T) 0 a.length aE (λx hx kW=>by
    have qq:=qj (T x);exact iy (ae [tT 20 ((x:Int)<a.length) aE,iX (x:Int) (a.length) aE,iX (x:Int) (b.length) aE,.c (hf x aE:gV g ((ij (a.getD x gY))::(ij (b.getD x gY))::cap) _),.o 33 (.e (lV _):aj (.sl true 1 7 λi_ j_=>(iO (T x)).getD (i_*7+j_) (.v (.bool false))) (ig [T x])),.a (aE:(x+[T x].length)*88<=140737488355328),iq ((x:Int)+1) aE]<|.e (af [.b 16 (Gv rfl rfl:Bx.le (.row true 39 (x+[T x].length) 7 (λi_ j_=>if i_<x then(iM (kt T x)) i_ j_ else(E.kR (ig [T x])) (i_-x) j_)) (.row true 39 (x+1) 7 (iM (kt T (x+1)))))])) aI)
  (λhx=>by
    exact iy (ae [tF 20 ((a.length:Int)<a.length) aE,.z 16]<|.e (af [.o 7 (.e (zw (wT _ _).symm):aj (.sl true a.length 7 (iM (kt T a.length))) (ig (kt T a.length)))])) aI) aM:jb 5 f303 (aaa a b g cap T 0) (.exit 0) ⟨37,true,[(7,.e (ig (kt T a.length)))],[]⟩) (af [.b 16 (Iy:Bx.le (.row true 39 0 7 (λ_ j_=>au.getD j_ .any)) (.row true 39 0 7 (iM (kt T 0))))])]) 
def anp(x y:Iv)(p:Nat)(hx:x.ib)(hy:y.ib)(il:8<=p)(ic:p<=512):gV 304 [ij x,ij y,(.iV 1 λj_=>[iP p].getD j_ .any)] (ij (jS x y p)):=
 ak call304 func304 (af [.c (Am x y p aF aF aE aE)]) 
def anq(a b:List Iv)(n p:Nat)(h1:1<=n)(nW:n<=17)(ha:kQ n a)(hb:kQ n b)(il:8<=p)(ic:p<=512):gV 270 [ig a,ig b,iP p] (ig (D6 a b p)):=by
 have la:=ha.len;have lb:=hb.len;exact ak call270 func270 (ae [.c (QW a b n h1 nW la lb _ _ (λi=>jS (a.getD i gY) (b.getD i gY) p) λi hi=>anp _ _ p (ha.ok i) (hb.ok i) il ic:gV 303 [ig a,ig b,.fn 304 [(.iV 1 λj_=>[iP p].getD j_ .any)]] _)]<|rR (ig (D6 a b p)) (.iT rfl:E.le (ig (kt (λi=>jS (a.getD i gY) (b.getD i gY) p) a.length)) (ig (D6 a b p)))) 
def anH(x y:Iv)(p:Nat)(hx:x.ib)(hy:y.ib)(il:8<=p)(ic:p<=512):gV 305 [ij x,ij y,(.iV 1 λj_=>[iP p].getD j_ .any)] (ij (sJ x y p)):=
 ak call305 func305 (af [.c (KV x y p aF aF aE aE)]) 
def anI(a b:List Iv)(n p:Nat)(h1:1<=n)(nW:n<=17)(ha:kQ n a)(hb:kQ n b)(il:8<=p)(ic:p<=512):gV 271 [ig a,ig b,iP p] (ig (FD a b p)):=by
 have la:=ha.len;have lb:=hb.len;exact ak call271 func271 (ae [.c (QW a b n h1 nW la lb _ _ (λi=>sJ (a.getD i gY) (b.getD i gY) p) λi hi=>anH _ _ p (ha.ok i) (hb.ok i) il ic:gV 303 [ig a,ig b,.fn 305 [(.iV 1 λj_=>[iP p].getD j_ .any)]] _)]<|rR (ig (FD a b p)) (.iT rfl:E.le (ig (kt (λi=>sJ (a.getD i gY) (b.getD i gY) p) a.length)) (ig (FD a b p)))) 
def anx(x y:Iv)(hx:x.ib):gV 310 [ij x,ij y] (ij (qh x)):=
 ak call310 func310 (af [.c (KS x aF)]) 
def anz(a:List Iv)(n:Nat)(h1:1<=n)(nW:n<=17)(ha:kQ n a):gV 274 [ig a] (ig (E9 a)):=by
 have la:=ha.len;exact ak call274 func274 (ae [.c (QW a a n h1 nW la la _ _ (λi=>qh (a.getD i gY)) λi hi=>anx _ _ (ha.ok i):gV 303 [ig a,ig a,.fn 310 []] _)]<|rR (ig (E9 a)) (.iT rfl:E.le (ig (kt (λi=>qh (a.getD i gY)) a.length)) (ig (E9 a)))) 
def aah(a b:List Iv)(i k p:Nat)(hi:i<=k)(hk:k<a.length)(Ov:k<b.length)(l17:b.length<=17)(va:mH a)(vb:mH b)(il:8<=p)(ic:p<=512):gV 307 [iP i,(.iV 1 λj_=>[ig a].getD j_ .any),(.iV 1 λj_=>[ig b].getD j_ .any),(.iV 1 λj_=>[iP k].getD j_ .any),(.iV 1 λj_=>[iP p].getD j_ .any)] (ij (iH (a.getD i gY) (b.getD (k-i) gY) p)):=by
 have v1:=va i;have v2:=vb (k-i);exact ak call307 func307 (af [iX (i:Int) (a.length) aE,iq ((k:Int)-i) aE,.o 14 (aq ((k:Int)-i) ((k-i:Nat):Int) aE),
  iX ((k-i:Nat):Int) (b.length) aE,.c (um (a.getD i gY) (b.getD (k-i) gY) p aF aF aE aE)]) 
def anw(a b:List Iv)(n p:Nat)(h1:1<=n)(nW:n<=17)(ha:kQ n a)(hb:kQ n b)(il:8<=p)(ic:p<=512):gV 272 [ig a,ig b,iP p] (ig (tK a b p)):=by
 have la:=ha.len;have lb:=hb.len;exact ak call272 func272 (ae [.o 11 (.e (E5 _ _):aj (.sl true 2 1 λi_ j_=>[ig a,ig b].getD (i_*1+j_) (.v (.bool false))) (kX [a,b])),.c (xC [a,b] n aE aE aK (Ji aF aF)),.a (aE:0<=(0:Int)/\(0:Int)<=((a.length:Int):Int)),.a (aE:((88:Nat):Int)*(a.length:Int)<=281474976710656/\((a.length:Int):Int)<=9223372036854775807),.s (Sp.jc (aai a b p) 0 a.length aE (λx hx kW=>by
    have qq:=qj (my p (λi=>iH (a.getD i gY) (b.getD (x-i) gY) p) 0 x);exact iy (ae [tT 20 ((x:Int)<a.length) aE,.c (LP 0 x p _ aE _ _ (λi=>iH (a.getD i gY) (b.getD (x-i) gY) p) aE il ic λi h1 h2=>⟨oL _ _ aE aE,aah a b i x p aE aE aE aE ha.ok hb.ok il ic⟩:gV 306 [iP 0,iP x,iP p,.fn 307 [(.iV 1 λj_=>[ig a].getD j_ .any),(.iV 1 λj_=>[ig b].getD j_ .any),(.iV 1 λj_=>[iP x].getD j_ .any),(.iV 1 λj_=>[iP p].getD j_ .any)]] _),.o 27 (.e (lV _):aj (.sl true 1 7 λi_ j_=>(iO (my p (λi=>iH (a.getD i gY) (b.getD (x-i) gY) p) 0 x)).getD (i_*7+j_) (.v (.bool false))) (ig [my p (λi=>iH (a.getD i gY) (b.getD (x-i) gY) p) 0 x])),.a (aE:(x+[my p (λi=>iH (a.getD i gY) (b.getD (x-i) gY) p) 0 x].length)*88<=140737488355328),iq ((x:Int)+1) aE]<|.e (af [.b 16 (Gv rfl rfl:Bx.le (.row true 39 (x+[my p (λi=>iH (a.getD i gY) (b.getD (x-i) gY) p) 0 x].length) 7 (λi_ j_=>if i_<x then(iM (kt (λk=>my p (λi=>iH (a.getD i gY) (b.getD (k-i) gY) p) 0 k) x)) i_ j_ else(E.kR (ig [my p (λi=>iH (a.getD i gY) (b.getD (x-i) gY) p) 0 x])) (i_-x) j_)) (.row true 39 (x+1) 7 (iM (kt (λk=>my p (λi=>iH (a.getD i gY) (b.getD (k-i) gY) p) 0 k) (x+1)))))])) aI)
  (λhx=>by
    exact iy (ae [tF 20 ((a.length:Int)<a.length) aE,.z 16]<|.e (af [.o 7 (.e (zw (wT _ _).symm):aj (.sl true a.length 7 (iM (kt (λk=>my p (λi=>iH (a.getD i gY) (b.getD (k-i) gY) p) 0 k) a.length))) (ig (kt (λk=>my p (λi=>iH (a.getD i gY) (b.getD (k-i) gY) p) 0 k) a.length)))])) aI) aM:jb 5 f272 (aai a b p 0) (.exit 0) ⟨31,true,[(7,.e (ig (kt (λk=>my p (λi=>iH (a.getD i gY) (b.getD (k-i) gY) p) 0 k) a.length)))],[]⟩) (af [.b 16 (Iy:Bx.le (.row true 39 0 7 (λ_ j_=>au.getD j_ .any)) (.row true 39 0 7 (iM (kt (λk=>my p (λi=>iH (a.getD i gY) (b.getD (k-i) gY) p) 0 k) 0))))])]<|rR (ig (tK a b p)) (.iT rfl:E.le (ig (kt (λk=>my p (λi=>iH (a.getD i gY) (b.getD (k-i) gY) p) 0 k) a.length)) (ig (tK a b p)))) 
def QA{T1 T0 x:Nat}{f:Nat->List Iv->Iv}{y:Iv}(hy:y=f x (je f x)):Bx.le (.jR true T1 T0 1 7 (λq=>if q=0 then x+[y].length else x) (λq i j=>if q=0 then(if i<x then iM (je f x) i j else(E.kR (ig [y])) (i-x) j)else iM (je f x) i j) none)
 (.jR true T1 T0 1 7 (λ_=>x+1) (λ_=>iM (je f (x+1))) none):=by
 subst hy;refine .jR rfl (λk hk=>?_) (λk i j hk hi hj=>?_)
 .obtain rfl:k=0:= aE ;rfl
 .obtain rfl:k=0:= aE ;refine⟨.iT ?_,uk _ _ hj⟩;rw[bk rfl];have hi:i<x+1:=hi;by_cases h:i<x
  .rw [bk h];show(iO ((je f x).getD i gY)).getD j .any=(iO ((je f x++[f x (je f x)]).getD i gY)).getD j .any;congr 2;simp[bw,dH (show i<(je f x).length by rw[zo];exact h)]
  .obtain rfl:i=x:= aE ;rw[bj h,dq];show(iO (f i (je f i))).getD j .any=(iO ((je f i++[f i (je f i)]).getD i gY)).getD j .any;congr 2;have e:=zo f i;simp[bw,e]
def amb{T1 T0:Nat}{ln:Nat->Nat}{el el':Nat->Nat->Nat->E}(h:∀ k,k<1->ln k=0):Bx.le (.jR true T1 T0 1 7 ln el none) (.jR true T1 T0 1 7 (λ_=>0) el' none):=
 .jR rfl h λk i j hk hi=>by rw[h k hk]at hi;exact absurd hi (bE i)
def anr(out b:List Iv)(i k p m:Nat)(hi:i<m)(hik:i<=k)(Ov:k<b.length)(l17:b.length<=17)(vo:mH out)(vb:mH b)(il:8<=p)(ic:p<=512):gV 309 [iP i,(.iV 1 λ_=>.sl true m 7 (iM out)),(.iV 1 λj_=>[ig b].getD j_ .any),(.iV 1 λj_=>[iP k].getD j_ .any),(.iV 1 λj_=>[iP p].getD j_ .any)] (ij (iH (out.getD i gY) (b.getD (k-i) gY) p)):=by
 have v1:=vo i;have v2:=vb (k-i);exact ak call309 func309 (af [iX (i:Int) m aE,iq ((k:Int)-i) aE,.o 14 (aq ((k:Int)-i) ((k-i:Nat):Int) aE),
  iX ((k-i:Nat):Int) (b.length) aE,.c (um (out.getD i gY) (b.getD (k-i) gY) p aF aF aE aE)]) 
def ans(a b:List Iv)(n p:Nat)(h1:1<=n)(nW:n<=17)(ha:kQ n a)(hb:kQ n b)(il:8<=p)(ic:p<=512):gV 273 [ig a,ig b,iP p] (ig (Bd a b p)):=by
 have la:=ha.len;have lb:=hb.len;have vb0:=hb.ok 0;exact ak call273 func273 (ae [.o 12 (.e (E5 _ _):aj (.sl true 2 1 λi_ j_=>[ig a,ig b].getD (i_*1+j_) (.v (.bool false))) (kX [a,b])),.c (xC [a,b] n aE aE aK (Ji aF aF)),.a (aE:0<=(0:Int)/\(0:Int)<=((a.length:Int):Int)),.a (aE:((88:Nat):Int)*(a.length:Int)<=281474976710656/\((a.length:Int):Int)<=9223372036854775807),.s (Sp.jc (Z9 a b p) 0 a.length aE (λx hx kW=>by
    have pK:kQ x (je (rZ a b p) x):=B3 x λk l _ _=>qS _ _ aE aE 
    have oF:(λ_:Nat=>x) 0=x:=rfl;have qq:=qj (jt (pL p (a.getD x gY) (λi=>iH ((je (rZ a b p) x).getD i gY) (b.getD (x-i) gY) p) 0 x) (b.getD 0 gY) p);have vls:=KZ (aE:1<=p) (aE:p<=4096) (ha.ok x) (T:=(λi=>iH ((je (rZ a b p) x).getD i gY) (b.getD (x-i) gY) p)) (a:=0) x λ_ _ _=>oL _ _ aE aE 
    exact iy (ae [tT 21 ((x:Int)<a.length) aE,iX (x:Int) (a.length) aE,iq ((x:Int)-1) aE,.c (aae _ (ha.ok x) 0 x p _ aE _ _ (λi=>iH ((je (rZ a b p) x).getD i gY) (b.getD (x-i) gY) p) aE il ic λi h1 h2=>⟨oL _ _ aE aE,anr _ b i x p _ (aE:i<x) aE aE aE pK.ok hb.ok il ic⟩:gV 308 [ij (a.getD x gY),iP 0,iP ((x:Int)-1),iP p,.fn 309 [(.iV 1 λ_=>(.sl true ((λ_=>x) 0) 7 ((λ_=>iM (je (rZ a b p) x)) 0))),(.iV 1 λj_=>[ig b].getD j_ .any),(.iV 1 λj_=>[iP x].getD j_ .any),(.iV 1 λj_=>[iP p].getD j_ .any)]] _),.a (Hp _:wK (ij (pL p (a.getD x gY) (λi=>iH ((je (rZ a b p) x).getD i gY) (b.getD (x-i) gY) p) 0 x))),.a (aE:0<1),iX 0 (b.length) aE,.c (An (pL p (a.getD x gY) (λi=>iH ((je (rZ a b p) x).getD i gY) (b.getD (x-i) gY) p) 0 x) (b.getD 0 gY) p aF aF aE aE),.o 39 (.e (lV _):aj (.sl true 1 7 λi_ j_=>(iO (jt (pL p (a.getD x gY) (λi=>iH ((je (rZ a b p) x).getD i gY) (b.getD (x-i) gY) p) 0 x) (b.getD 0 gY) p)).getD (i_*7+j_) (.v (.bool false))) (ig [jt (pL p (a.getD x gY) (λi=>iH ((je (rZ a b p) x).getD i gY) (b.getD (x-i) gY) p) 0 x) (b.getD 0 gY) p])),.a (aE:0<1),.a (aE:((λ_=>x) 0+[jt (pL p (a.getD x gY) (λi=>iH ((je (rZ a b p) x).getD i gY) (b.getD (x-i) gY) p) 0 x) (b.getD 0 gY) p].length)*88<=140737488355328),.a (rfl:0=0),.a (rfl:0=0),.a (aE:0<1),iq ((x:Int)+1) aE]<|.e (af [.b 7 (QA rfl:Bx.le (.jR true 26 39 1 7 (λq=>if q=0 then(λ_=>x) q+[jt (pL p (a.getD x gY) (λi=>iH ((je (rZ a b p) x).getD i gY) (b.getD (x-i) gY) p) 0 x) (b.getD 0 gY) p].length else(λ_=>x) q) (λq i j=>if q=0 then(if i<(λ_=>x) q then(λ_=>iM (je (rZ a b p) x)) q i j else(E.kR (ig [jt (pL p (a.getD x gY) (λi=>iH ((je (rZ a b p) x).getD i gY) (b.getD (x-i) gY) p) 0 x) (b.getD 0 gY) p])) (i-(λ_=>x) q) j)else(λ_=>iM (je (rZ a b p) x)) q i j) .none) (.jR true 26 39 1 7 (λ_=>(x+1)) (λ_=>iM (je (rZ a b p) (x+1))) .none))])) aI)
  (λhx=>by
    exact iy (af [tF 21 ((a.length:Int)<a.length) aE]) aI) aM:jb 5 f273 (Z9 a b p 0) (.exit 0) ⟨43,true,[(7,.nF 7 1 0 0)],[(7,.jR true 26 39 1 7 (λ_=>a.length) (λ_=>iM (je (rZ a b p) a.length)) .none)]⟩) (af [.b 7 (amb (λ_ _=>rfl):Bx.le (.jR true 26 39 1 7 (λ_=>0) (λ_=>λ_ j_=>au.getD j_ .any) .none) (.jR true 26 39 1 7 (λ_=>0) (λ_=>iM (je (rZ a b p) 0)) .none))]),.a (aE:0<1)]<|rR (ig (Bd a b p)) (zw (xs:=Bd a b p) (by unfold Bd;rw[zo]):E.le (.sl true ((λ_=>a.length) 0) 7 ((λ_=>iM (je (rZ a b p) a.length)) 0)) (ig (Bd a b p)))) 
def aaj(a b:List Iv)(p:Nat)(x:Nat):PS:=⟨31,true,[(19,.e (iP x)),(18,.e (iP a.length)),(7,.own 16),(5,.box 5 0),(4,.box 4 0),(3,.box 3 0)],[(16,.row true 39 x 7 (iM (kt (λk=>my p (λi=>iH (a.getD i gY) (b.getD (k-i) gY) p) 0 k) x))),(5,.cells 3 [iP p]),(4,.cells 26 [ig b]),(3,.cells 26 [ig a])]⟩
def aam(a:List Iv)(p k:Nat)(x:Nat):PS:=⟨71,true,[(39,.e (iP x)),(38,.e (iP a.length)),(7,.own 15),(0,.e (ig a)),(1,.e (iP k)),(2,.e (iP p))],[(15,.row true 39 a.length 7 (iM (kt (λi=>if i<x then(λi=>iH (kg 0) (a.getD i gY) p) i else(λi=>a.getD i gY) i) a.length)))]⟩
def aan(a:List Iv)(p k:Nat)(x:Nat):PS:=⟨71,true,[(55,.e (iP x)),(7,.own 60),(54,.e (iP ((k:Int)-1))),(0,.e (ig a)),(1,.e (iP k)),(2,.e (iP p))],[(60,.row true 39 ((pF a p x).length) 7 (iM (pF a p x)))]⟩
noncomputable def aab(a:List Iv)(p:Nat)(x:Nat):PS:=⟨43,true,[(6,.box 6 0),(5,.nF 5 1 0 0),(3,.box 3 0),(2,.box 2 0)],[(6,.cells 3 [iP x]),(5,.jR true 26 39 1 7 (λ_=>x) (λ_=>iM (je (qD a p) x)) .none),(3,.cells 3 [iP p]),(2,.cells 26 [ig a])]⟩
def aak(a b:List Iv)(n p:Nat)(h1:1<=n)(nW:n<=17)(ha:kQ n a)(hb:kQ n b)(il:8<=p)(ic:p<=512):yB 272 [ig a,ig b,iP p] true 39 a.length 7 (iM (tK a b p)):=by
 have la:=ha.len;have lb:=hb.len;exact trn call272 func272 (ae [.o 11 (.e (E5 _ _):aj (.sl true 2 1 λi_ j_=>[ig a,ig b].getD (i_*1+j_) (.v (.bool false))) (kX [a,b])),.c (xC [a,b] n aE aE aK (Ji aF aF)),.a (aE:0<=(0:Int)/\(0:Int)<=((a.length:Int):Int)),.a (aE:((88:Nat):Int)*(a.length:Int)<=281474976710656/\((a.length:Int):Int)<=9223372036854775807),.s (Sp.jc (aaj a b p) 0 a.length aE (λx hx kW=>by
    have qq:=qj (my p (λi=>iH (a.getD i gY) (b.getD (x-i) gY) p) 0 x);exact iy (ae [tT 20 ((x:Int)<a.length) aE,.c (LP 0 x p _ aE _ _ (λi=>iH (a.getD i gY) (b.getD (x-i) gY) p) aE il ic λi h1 h2=>⟨oL _ _ aE aE,aah a b i x p aE aE aE aE ha.ok hb.ok il ic⟩:gV 306 [iP 0,iP x,iP p,.fn 307 [(.iV 1 λj_=>[ig a].getD j_ .any),(.iV 1 λj_=>[ig b].getD j_ .any),(.iV 1 λj_=>[iP x].getD j_ .any),(.iV 1 λj_=>[iP p].getD j_ .any)]] _),.o 27 (.e (lV _):aj (.sl true 1 7 λi_ j_=>(iO (my p (λi=>iH (a.getD i gY) (b.getD (x-i) gY) p) 0 x)).getD (i_*7+j_) (.v (.bool false))) (ig [my p (λi=>iH (a.getD i gY) (b.getD (x-i) gY) p) 0 x])),.a (aE:(x+[my p (λi=>iH (a.getD i gY) (b.getD (x-i) gY) p) 0 x].length)*88<=140737488355328),iq ((x:Int)+1) aE]<|.e (af [.b 16 (Gv rfl rfl:Bx.le (.row true 39 (x+[my p (λi=>iH (a.getD i gY) (b.getD (x-i) gY) p) 0 x].length) 7 (λi_ j_=>if i_<x then(iM (kt (λk=>my p (λi=>iH (a.getD i gY) (b.getD (k-i) gY) p) 0 k) x)) i_ j_ else(E.kR (ig [my p (λi=>iH (a.getD i gY) (b.getD (x-i) gY) p) 0 x])) (i_-x) j_)) (.row true 39 (x+1) 7 (iM (kt (λk=>my p (λi=>iH (a.getD i gY) (b.getD (k-i) gY) p) 0 k) (x+1)))))])) aI)
  (λhx=>by
    exact iy (af [tF 20 ((a.length:Int)<a.length) aE]) aI) aM:jb 5 f272 (aaj a b p 0) (.exit 0) ⟨31,true,[(7,.own 16)],[(16,.row true 39 a.length 7 (iM (kt (λk=>my p (λi=>iH (a.getD i gY) (b.getD (k-i) gY) p) 0 k) a.length)))]⟩) (af [.b 16 (Iy:Bx.le (.row true 39 0 7 (λ_ j_=>au.getD j_ .any)) (.row true 39 0 7 (iM (kt (λk=>my p (λi=>iH (a.getD i gY) (b.getD (k-i) gY) p) 0 k) 0))))])]<|.rb (.refl _:Bx.le (.row true 39 a.length 7 (iM (kt (λk=>my p (λi=>iH (a.getD i gY) (b.getD (k-i) gY) p) 0 k) a.length))) (.row true 39 a.length 7 (iM (tK a b p))))) aI 
def QY{n:Nat}{xs:List Iv}{y:Iv}(h:n=xs.length):E.le (.sl true n 7 λi' j'=>if i'=0/\0<=j'/\j'<0+7 then(iO y).getD (j'-0) .any else iM xs i' j') (ig (xs.set 0 y)):=by
 have hl:(xs.set 0 y).length=n:=by simp[h]
 unfold ig;rw[hl];refine .sl λi j hi hj=>⟨?_,uk _ _ hj⟩
 by_cases h0:i=0
 .subst h0;rw[bk ⟨rfl,bS _,aE⟩];have e:(xs.set 0 y).getD 0 gY=y:=by
   cases xs with
   |nil=>simp at h;omega
   |cons x xs=>rfl
  rw[e];exact .refl _
 .rw [bj λq=>h0 q.1];have e:(xs.set 0 y).getD i gY=xs.getD i gY:=by
   simp only[bw,List.getElem?_set,bj λq:0=i=>h0 q.symm]
  rw[e];exact .refl _
def anJ{T n x:Nat}{f g:Nat->Iv}{y:Iv}(hy:y=f x):Bx.le (.row true T n 7 λi' j'=>if i'=x/\0<=j'/\j'<0+7 then(iO y).getD (j'-0) .any else iM (kt (λi=>if i<x then f i else g i) n) i' j')
 (.row true T n 7 (iM (kt (λi=>if i<x+1 then f i else g i) n))):=.row rfl λi j hi hj=>⟨.iT (by
 subst hy;by_cases h:i=x
 .subst h;rw[bk ⟨rfl,bS _,aE⟩];show _=(iO ((kt _ n).getD i gY)).getD j .any;rw[Gt hi,bk (eC _)];rfl
 .rw [bj λq=>h q.1];show(iO ((kt _ n).getD i gY)).getD j .any=(iO ((kt _ n).getD i gY)).getD j .any;rw[Gt hi,Gt hi];by_cases q:i<x
  .rw [bk q,bk aE]
  .rw [bj q,bj aE]),uk _ _ hj⟩
def agS(a:List Iv):kt (λi=>a.getD i gY) a.length=a:=by
 apply gw (wT _ _);intro i h1 h2;simp[kt,bw,h2]
def agR{f g:Nat->Iv}{n:Nat}(h:∀ i,i<n->f i=g i):kt f n=kt g n:=by
 unfold kt;exact eX λi hi=>h i (b5.1 hi)
def Hw{a:List Iv}{p:Nat}:∀ k,(pF a p k).length=a.length
 | 0=>rfl
 |k+1=>by simp only[pF,tK,wT];exact Hw k
def anB(a:List Iv)(n p k:Nat)(h1:1<=n)(nW:n<=17)(ha:kQ n a)(il:8<=p)(ic:p<=512)(hk:k<=16)(h0:k=0):gV 275 [ig a,iP k,iP p] (ig (tR a k p)):=by
 have la:=ha.len;have va0:=ha.ok 0;exact ak call275 func275 (ae [.o 11 (.e (Du _):aj (.sl true 1 1 λi_ j_=>[ig a].getD (i_*1+j_) (.v (.bool false))) (kX [a])),.c (xC [a] n aE aE aK (Cn aF)),.cn (Jk _ aE aE:yB 63 [ig a] true 39 a.length 7 (iM a)),tF 18 ((k:Int)<0) aE,tF 21 (16<(k:Int)) aE,ah 36 ((k:Int)==0) (bc aE),.s (Sp.jc (aam a p k) 0 a.length aE (λx hx kW=>by
    have vx:=ha.ok x;have v0:=zC 0 aE;exact iy (ae [tT 40 ((x:Int)<a.length) aE,.c (Ca 0 aE),iX (x:Int) (a.length) aE,.c (um (kg 0) (a.getD x gY) p aF aF aE aE),
     iX (x:Int) (a.length) aE,.a (aE:x<a.length),iq ((x:Int)+1) aE]<|.e (af [.b 15 (anJ rfl:Bx.le (.row true 39 a.length 7 (λi' j'=>if i'=x/\0<=j'/\j'<0+7 then[bP (((iH (kg 0) (a.getD x gY) p).lo).neg),ia (gW (((iH (kg 0) (a.getD x gY) p).lo).m)),iP (((iH (kg 0) (a.getD x gY) p).lo).e),bP (((iH (kg 0) (a.getD x gY) p).hi).neg),ia (gW (((iH (kg 0) (a.getD x gY) p).hi).m)),iP (((iH (kg 0) (a.getD x gY) p).hi).e),bP ((iH (kg 0) (a.getD x gY) p).all)].getD (j'-0) .any else(iM (kt (λi=>if i<x then(λi=>iH (kg 0) (a.getD i gY) p) i else(λi=>a.getD i gY) i) a.length)) i' j')) (.row true 39 a.length 7 (iM (kt (λi=>if i<(x+1)then(λi=>iH (kg 0) (a.getD i gY) p) i else(λi=>a.getD i gY) i) a.length))))])) aI)
  (λhx=>by
    exact iy (af [tF 40 ((a.length:Int)<a.length) aE]) aI) aM:jb 13 f275 (aam a p k 0) (.exit 3) ⟨71,true,[(7,.own 15),(0,.e (ig a)),(1,.e (iP k)),(2,.e (iP p))],[(15,.row true 39 a.length 7 (iM (kt (λi=>if i<a.length then(λi=>iH (kg 0) (a.getD i gY) p) i else(λi=>a.getD i gY) i) a.length)))]⟩) (af [.b 15 (.iT (by simp only[bE,bC,agS]):Bx.le (.row true 39 a.length 7 (iM a)) (.row true 39 a.length 7 (iM (kt (λi=>if i<0 then(λi=>iH (kg 0) (a.getD i gY) p) i else(λi=>a.getD i gY) i) a.length))))]),
  iq ((k:Int)-1) aE,.u 2,tF 56 (0<((k:Int)-1)) aE,iX 0 (a.length) aE,ag [ij (a.getD 0 gY),iP k,iP p] (Jn _ _ _ aF aE aE aE),iX 0 (a.length) aE,.a (aE:0<a.length)]<|rR (ig (tR a k p)) ((QY (wT _ _).symm).trans (.iT (by unfold tR Fl;rw[bk h0,agR λi hi=>bk hi])):E.le (.sl true a.length 7 (λi' j'=>if i'=0/\0<=j'/\j'<0+7 then[bP (((na (a.getD 0 gY) k p).lo).neg),ia (gW (((na (a.getD 0 gY) k p).lo).m)),iP (((na (a.getD 0 gY) k p).lo).e),bP (((na (a.getD 0 gY) k p).hi).neg),ia (gW (((na (a.getD 0 gY) k p).hi).m)),iP (((na (a.getD 0 gY) k p).hi).e),bP ((na (a.getD 0 gY) k p).all)].getD (j'-0) .any else(iM (kt (λi=>if i<a.length then(λi=>iH (kg 0) (a.getD i gY) p) i else(λi=>a.getD i gY) i) a.length)) i' j')) (ig (tR a k p)))) 
def anC(a:List Iv)(n p k:Nat)(h1:1<=n)(nW:n<=17)(ha:kQ n a)(il:8<=p)(ic:p<=512)(hk:k<=16)(h0:k=1):gV 275 [ig a,iP k,iP p] (ig (tR a k p)):=by
 have la:=ha.len;have va0:=ha.ok 0;exact ak call275 func275 (ae [.o 11 (.e (Du _):aj (.sl true 1 1 λi_ j_=>[ig a].getD (i_*1+j_) (.v (.bool false))) (kX [a])),.c (xC [a] n aE aE aK (Cn aF)),.cn (Jk _ aE aE:yB 63 [ig a] true 39 a.length 7 (iM a)),tF 18 ((k:Int)<0) aE,tF 21 (16<(k:Int)) aE,ai 36 ((k:Int)==0) (a7 aE),iq ((k:Int)-1) aE,.u 2,tF 56 (0<((k:Int)-1)) aE,iX 0 (a.length) aE,ag [ij (a.getD 0 gY),iP k,iP p] (Jn _ _ _ aF aE aE aE),iX 0 (a.length) aE,.a (aE:0<a.length)]<|rR (ig (tR a k p)) ((QY rfl).trans (.iT (by unfold tR Fl;rw[bj aE,h0];rfl)):E.le (.sl true a.length 7 (λi' j'=>if i'=0/\0<=j'/\j'<0+7 then[bP (((na (a.getD 0 gY) k p).lo).neg),ia (gW (((na (a.getD 0 gY) k p).lo).m)),iP (((na (a.getD 0 gY) k p).lo).e),bP (((na (a.getD 0 gY) k p).hi).neg),ia (gW (((na (a.getD 0 gY) k p).hi).m)),iP (((na (a.getD 0 gY) k p).hi).e),bP ((na (a.getD 0 gY) k p).all)].getD (j'-0) .any else(iM a) i' j')) (ig (tR a k p)))) 
def ZQ{T n n':Nat}{xs:List Iv}(h:n=n'):Bx.le (.row true T n 7 (iM xs)) (.row true T n' 7 (iM xs)):=.row h λi j _ hj=>⟨.refl _,uk _ _ hj⟩
def anD(a:List Iv)(n p k:Nat)(h1:1<=n)(nW:n<=17)(ha:kQ n a)(il:8<=p)(ic:p<=512)(hk:k<=16)(h0:2<=k):gV 275 [ig a,iP k,iP p] (ig (tR a k p)):=by
 have la:=ha.len;have va0:=ha.ok 0;have EJ:=Hw (a:=a) (p:=p) (k-1);exact ak call275 func275 (ae [.o 11 (.e (Du _):aj (.sl true 1 1 λi_ j_=>[ig a].getD (i_*1+j_) (.v (.bool false))) (kX [a])),.c (xC [a] n aE aE aK (Cn aF)),.cn (Jk _ aE aE:yB 63 [ig a] true 39 a.length 7 (iM a)),tF 18 ((k:Int)<0) aE,tF 21 (16<(k:Int)) aE,ai 36 ((k:Int)==0) (a7 aE),iq ((k:Int)-1) aE,.u 2,tT 56 (0<((k:Int)-1)) aE,.cn (aak a a n p h1 nW ha ha il ic:yB 272 [.sl true a.length 7 (iM a),ig a,iP p] true 39 a.length 7 (iM (tK a a p))),.a (XD _:FN a.length 7 (iM (tK a a p))),
  iq (0+1) aE,.k [55,7,54,0,1,2] [60],.s (Sp.jc (aan a p k) 1 (k-1) aE (λx hx kW=>by
    have EJ:=Hw (a:=a) (p:=p) x;exact iy (ae [tT 56 ((x:Int)<((k:Int)-1)) aE,.cn (aak (pF a p x) a n p h1 nW (PI aE aE ha x) ha il ic:yB 272 [.sl true ((pF a p x).length) 7 (iM (pF a p x)),ig a,iP p] true 39 ((pF a p x).length) 7 (iM (tK (pF a p x) a p))),.a (XD _:FN ((pF a p x).length) 7 (iM (tK (pF a p x) a p))),iq ((x:Int)+1) aE]<|.e (af [.b 60 (ZQ (xs:=(pF a p (x+1))) (by simp only[Hw]):Bx.le (.row true 39 ((pF a p x).length) 7 (iM (tK (pF a p x) a p))) (.row true 39 ((pF a p (x+1)).length) 7 (iM (pF a p (x+1)))))])) aI)
  (λhx=>by
    exact iy (af [tF 56 (((k-1:Nat):Int)<((k:Int)-1)) aE]) aI) aM:jb 18 f275 (aan a p k 1) (.exit 5) ⟨71,true,[(7,.own 60),(0,.e (ig a)),(1,.e (iP k)),(2,.e (iP p))],[(60,.row true 39 ((pF a p (k-1)).length) 7 (iM (pF a p (k-1))))]⟩) (af [.o 55 (aq (0+1) 1 aT),.b 60 (ZQ (xs:=(pF a p 1)) (by simp only[Hw]):Bx.le (.row true 39 a.length 7 (iM (tK a a p))) (.row true 39 ((pF a p 1).length) 7 (iM (pF a p 1))))]),
  iX 0 (a.length) aE,ag [ij (a.getD 0 gY),iP k,iP p] (Jn _ _ _ aF aE aE aE),iX 0 ((pF a p (k-1)).length) aE,.a (aE:0<(pF a p (k-1)).length)]<|rR (ig (tR a k p)) ((QY rfl).trans (.iT (by unfold tR Fl;rw[bj aE])):E.le (.sl true ((pF a p (k-1)).length) 7 (λi' j'=>if i'=0/\0<=j'/\j'<0+7 then[bP (((na (a.getD 0 gY) k p).lo).neg),ia (gW (((na (a.getD 0 gY) k p).lo).m)),iP (((na (a.getD 0 gY) k p).lo).e),bP (((na (a.getD 0 gY) k p).hi).neg),ia (gW (((na (a.getD 0 gY) k p).hi).m)),iP (((na (a.getD 0 gY) k p).hi).e),bP ((na (a.getD 0 gY) k p).all)].getD (j'-0) .any else(iM (pF a p (k-1))) i' j')) (ig (tR a k p)))) 
def anE(a:List Iv)(n p k:Nat)(h1:1<=n)(nW:n<=17)(ha:kQ n a)(il:8<=p)(ic:p<=512)(hk:k<=16):gV 275 [ig a,iP (k:Int),iP (p:Int)] (ig (tR a k p)):=by
 by_cases h0:k=0
 .exact anB a n p k h1 nW ha il ic hk h0
 by_cases h2:k=1
 .exact anC a n p k h1 nW ha il ic hk h2
 .exact anD a n p k h1 nW ha il ic hk aE 
def Zq{T1 T0:Nat}{f:Nat->List Iv->Iv}{y:Iv}{e0 e1:Nat->Nat->Nat->E}(hy:y=f 0 []):Bx.le (.jR true T1 T0 1 7 (λq=>if q=0 then 0+[y].length else 0) (λq i j=>if q=0 then(if i<0 then e0 q i j else(E.kR (ig [y])) (i-0) j)else e1 q i j) none)
 (.jR true T1 T0 1 7 (λ_=>1) (λ_=>iM (je f 1)) none):=by
 subst hy;refine .jR rfl (λk hk=>?_) (λk i j hk hi hj=>?_)
 .obtain rfl:k=0:= aE ;rfl
 .obtain rfl:k=0:= aE ;rw[bk rfl]at hi;have hi:i<0+1:=hi;obtain rfl:i=0:= aE ;exact⟨.iT rfl,uk _ _ hj⟩
def amc{T:Nat}{f:Nat->List Iv->Iv}{y:Iv}{e:Nat->Nat->E}(hy:y=f 0 []):Bx.le (.row true T (0+[y].length) 7 λa j=>if a<0 then e a j else(E.kR (ig [y])) (a-0) j) (.row true T 1 7 (iM (je f 1))):=by
 subst hy;refine .row rfl λi j hi hj=>?_
 have hi:i<0+1:=hi;obtain rfl:i=0:= aE ;exact⟨.iT rfl,uk _ _ hj⟩
def ant(a out:List Iv)(i k p m:Nat)(VY:1<=i)(hi:i<=k)(hk:k<a.length)(hm:k<=m)(l17:a.length<=17)(va:mH a)(vo:mH out)(il:8<=p)(ic:p<=512):gV 313 [iP i,(.iV 1 λj_=>[ig a].getD j_ .any),(.iV 1 λj_=>[iP p].getD j_ .any),(.iV 1 λ_=>.sl true m 7 (iM out)),(.iV 1 λj_=>[iP k].getD j_ .any)] (ij (iH (iH (kg i) (a.getD i gY) p) (out.getD (k-i) gY) p)):=by
 have v1:=va i;have v2:=vo (k-i);have v3:=zC i aE;have v4:(iH (kg i) (a.getD i gY) p).ib:=oL _ _ aE aE;exact ak call313 func313 (af [.c (Ca i aE),iX (i:Int) (a.length) aE,.c (um (kg i) (a.getD i gY) p aF aF aE aE),iq ((k:Int)-i) aE,.o 18 (aq ((k:Int)-i) ((k-i:Nat):Int) aE),iX ((k-i:Nat):Int) m aE,.c (um (iH (kg i) (a.getD i gY) p) (out.getD (k-i) gY) p aF aF aE aE)]) 
def anu(a:List Iv)(n p:Nat)(h1:1<=n)(nW:n<=17)(ha:kQ n a)(il:8<=p)(ic:p<=512)(hF:vu):gV 276 [ig a,iP p] (ig (Bj a p)):=by
 have la:=ha.len;have va0:=ha.ok 0;have pQ:(λ_:Nat=>(0:Nat)) 0=0:=rfl;have Wd:=qj (vH (a.getD 0 gY) p);exact ak call276 func276 (ae [.o 9 (.e (Du _):aj (.sl true 1 1 λi_ j_=>[ig a].getD (i_*1+j_) (.v (.bool false))) (kX [a])),.c (xC [a] n aE aE aK (Cn aF)),.a (aE:0<=(0:Int)/\(0:Int)<=((a.length:Int):Int)),.a (aE:((88:Nat):Int)*(a.length:Int)<=281474976710656/\((a.length:Int):Int)<=9223372036854775807),.a (aE:0<1),
  iX 0 (a.length) aE,ag [ij (a.getD 0 gY),iP p] (Uw _ aF _ aE aE hF),.o 21 (.e (lV _):aj (.sl true 1 7 λi_ j_=>(iO (vH (a.getD 0 gY) p)).getD (i_*7+j_) (.v (.bool false))) (ig [vH (a.getD 0 gY) p])),.a (aE:0<1),.a (aE:((λ_=>0) 0+[vH (a.getD 0 gY) p].length)*88<=140737488355328),.a (rfl:0=0),.a (rfl:0=0),.a (aE:0<1),.s (Sp.jc (aab a p) 1 a.length aE (λx hx kW=>by
    have oF:(λ_:Nat=>x) 0=x:=rfl;have pK:kQ x (je (qD a p) x):=B3 x λk l _ _=>by unfold qD;split<;>first|exact Nu _ _|exact qS _ _ aE aE 
    have vs:=IK (aE:1<=p) (aE:p<=4096) (T:=(λi=>(iH (iH (kg i) (a.getD i gY) p) ((je (qD a p) x).getD (x-i) gY) p))) (a:=1) (x-1) λ_ _ _=>oL _ _ aE aE 
    have vw:=zC x aE;have qq:=qj (jt (my p (λi=>(iH (iH (kg i) (a.getD i gY) p) ((je (qD a p) x).getD (x-i) gY) p)) 1 (x-1)) (kg x) p);exact iy (ae [tT 26 ((x:Int)<a.length) aE,.c (LP 1 (x-1) p _ aE _ _ (λi=>(iH (iH (kg i) (a.getD i gY) p) ((je (qD a p) x).getD (x-i) gY) p)) aE il ic λi h1 h2=>⟨oL _ _ aE aE,ant a _ i x p _ h1 aE aE aE aE ha.ok pK.ok il ic⟩:gV 306 [iP 1,iP x,iP p,.fn 313 [(.iV 1 λj_=>[ig a].getD j_ .any),(.iV 1 λj_=>[iP p].getD j_ .any),(.iV 1 λ_=>(.sl true ((λ_=>x) 0) 7 ((λ_=>iM (je (qD a p) x)) 0))),(.iV 1 λj_=>[iP x].getD j_ .any)]] _),.a (Hp _:wK (ij (my p (λi=>(iH (iH (kg i) (a.getD i gY) p) ((je (qD a p) x).getD (x-i) gY) p)) 1 (x-1)))),.a (aE:0<1),.c (Ca x aE),.c (An (my p (λi=>(iH (iH (kg i) (a.getD i gY) p) ((je (qD a p) x).getD (x-i) gY) p)) 1 (x-1)) (kg x) p aF aF aE aE),.o 39 (.e (lV _):aj (.sl true 1 7 λi_ j_=>(iO (jt (my p (λi=>(iH (iH (kg i) (a.getD i gY) p) ((je (qD a p) x).getD (x-i) gY) p)) 1 (x-1)) (kg x) p)).getD (i_*7+j_) (.v (.bool false))) (ig [jt (my p (λi=>(iH (iH (kg i) (a.getD i gY) p) ((je (qD a p) x).getD (x-i) gY) p)) 1 (x-1)) (kg x) p])),.a (aE:0<1),.a (aE:((λ_=>x) 0+[jt (my p (λi=>(iH (iH (kg i) (a.getD i gY) p) ((je (qD a p) x).getD (x-i) gY) p)) 1 (x-1)) (kg x) p].length)*88<=140737488355328),.a (rfl:0=0),.a (rfl:0=0),.a (aE:0<1),iq ((x:Int)+1) aE]<|.e (af [.b 5 (QA (by unfold qD;rw[bj aE]):Bx.le (.jR true 26 39 1 7 (λq=>if q=0 then(λ_=>x) q+[jt (my p (λi=>(iH (iH (kg i) (a.getD i gY) p) ((je (qD a p) x).getD (x-i) gY) p)) 1 (x-1)) (kg x) p].length else(λ_=>x) q) (λq i j=>if q=0 then(if i<(λ_=>x) q then(λ_=>iM (je (qD a p) x)) q i j else(E.kR (ig [jt (my p (λi=>(iH (iH (kg i) (a.getD i gY) p) ((je (qD a p) x).getD (x-i) gY) p)) 1 (x-1)) (kg x) p])) (i-(λ_=>x) q) j)else(λ_=>iM (je (qD a p) x)) q i j) .none) (.jR true 26 39 1 7 (λ_=>(x+1)) (λ_=>iM (je (qD a p) (x+1))) .none))])) aI)
  (λhx=>by
    exact iy (af [tF 26 ((a.length:Int)<a.length) aE]) aI) aM:jb 6 f276 (aab a p 1) (.exit 0) ⟨43,true,[(5,.nF 5 1 0 0)],[(5,.jR true 26 39 1 7 (λ_=>a.length) (λ_=>iM (je (qD a p) a.length)) .none)]⟩) (af [.b 5 (Zq rfl:Bx.le (.jR true 26 39 1 7 (λq=>if q=0 then(λ_=>0) q+[vH (a.getD 0 gY) p].length else(λ_=>0) q) (λq i j=>if q=0 then(if i<(λ_=>0) q then(λ_=>λ_ j_=>au.getD j_ .any) q i j else(E.kR (ig [vH (a.getD 0 gY) p])) (i-(λ_=>0) q) j)else(λ_=>λ_ j_=>au.getD j_ .any) q i j) .none) (.jR true 26 39 1 7 (λ_=>1) (λ_=>iM (je (qD a p) 1)) .none))]),.a (aE:0<1)]<|rR (ig (Bj a p)) (zw (xs:=Bj a p) (by unfold Bj;rw[zo]):E.le (.sl true ((λ_=>a.length) 0) 7 ((λ_=>iM (je (qD a p) a.length)) 0)) (ig (Bj a p)))) 
def L7{i:Nat}(h:i<2):i=0\/i=1:= aE 
def Mv(d:Rat)(f g:Nat->Rat):Prop:=∃ N0,∀ N,N0<=N->iZ (f N-g N)<=d
def Mv.neg{d:Rat}{f g:Nat->Rat}(h:Mv d f g):Mv d (λN=>-f N) (λN=>-g N):=by
 obtain⟨N1,h1⟩:=h;refine⟨N1,λN hN=>?_⟩;obtain⟨_,a2,a3,_⟩:=ns (f N-g N);have:=h1 N hN;exact yE aP aP 
def HF1:Dy:=⟨false,1014047155841371404857783918912611814895143950022408150448898879701903863171748812343190420115852101928445847465915947005,-398⟩
def HF2:Dy:=⟨false,2028094311682742809715567837825223629790287900044816300897797759403807726343497624686380840231704203856891694931831894109,-399⟩
def HF:Iv:=⟨HF1,HF2,false⟩
def after{N:Nat}(h:100<=N):∃ d,N=100+d:=⟨N-100,aE⟩
def zq(k:Int):Rat×Rat:=if k%4=0 then(1,0)else if k%4=1 then(0,1)else if k%4=2 then(-1,0)else(0,-1)
def lL(r:Iv)(p:Nat):Nat->Iv
 | 0=>jv 1
 |j+1=>jt (iH (lL r p j) r p) (jv ((j+1:Nat):Int)) p
def QV(r:Iv)(p j:Nat):Iv:=if 2<=j%4 then qh (lL r p j)else lL r p j
def LO(r:Iv)(p:Nat):Nat->Iv
 | 0=>jv 0
 |j+1=>if(j+1)%2=1 then jS (LO r p j) (QV r p (j+1)) p else LO r p j
def rL(n:Int):(qx n).q=P2 n:=by unfold qx;rw[qy];simp
def xt{r:Iv}{p:Nat}(_hr:r.ib)(il:8<=p)(ic:p<=512):∀ j,(lL r p j).ib
 | 0=>DB 1 aG 
 |j+1=>qS _ _ aE aE 
def ano{r:Iv}{p:Nat}(hr:r.ib)(il:8<=p)(ic:p<=512)(j:Nat):(QV r p j).ib:=by
 unfold QV;split
 .exact Dz (xt hr il ic j)
 .exact xt hr il ic j
def aap{r:Iv}{p:Nat}(hr:r.ib)(il:8<=p)(ic:p<=512):∀ j,(LO r p j).ib
 | 0=>DB 0 aG 
 |j+1=>by
  unfold LO;split
  .exact rU (aap hr il ic j) (ano hr il ic _) aE aE 
  .exact aap hr il ic j
def QX{r:Iv}{p:Nat}(hr:r.ib)(il:8<=p)(ic:p<=512){ρ:Rat}(h:r.jZ ρ):∀ j,j<4294967296->(lL r p j).jZ (eQ ρ j)
 | 0,_=>Az 1
 |j+1,hj=>by
  have e:eQ ρ (j+1)=eQ ρ j*ρ/((j+1:Nat):Rat):=by simp only[eQ,cX];grind
  rw[e];exact JM (oL _ _ aE aE) (Ie (j+1) hj) aE aE (PG (xt hr il ic j) hr aE aE (QX hr il ic h j aE) h) (YL (j+1))
def aat{r:Iv}{p:Nat}:∀ {j d:Nat},(lL r p (j+d)).all=false->(lL r p j).all=false
 |_,0,h=>h
 |j,d+1,h=>by
  apply aat (d:=d);cases ha:(lL r p (j+d)).all
  .rfl
  .exfalso;have:lL r p (j+(d+1))=gY:=by
    show jt (iH (lL r p (j+d)) r p) _ p=_;rw[K3 p (.inl ha),Gb p (.inl rfl)]
   rw[this]at h;cases h
def qb(n:Int):Iv:=⟨jf (qx n),qx n,false⟩
def Ed{n:Int}{r:Rat}:(qb n).jZ r ↔ -P2 n<=r/\r<=P2 n:=by
 unfold Iv.jZ qb;simp only[bK,false_or];rw[rM,rL]
def AV{p:Nat}(hp:1<=p){n:Int}(h1:-1000<=n)(h2:n<=1000):G p (P2 n):=.inl ⟨1,n,by rw[yI];exact hp,aE,by rw[yI];omega,aK⟩
def FZ{p:Nat}{S:Rat->Prop}{X:Iv}(h:FM p S X)(hp:1<=p){n:Int}(h1:-1000<=n)(h2:n<=1000)(hs:∀ r,S r -> -P2 n<=r/\r<=P2 n):Sub X (qb n):=by
 obtain⟨a,b,c⟩:=h.y5 _ _ (AV hp h1 h2).neg (AV hp h1 h2) hs;refine .inr ⟨a,?_,?_⟩
 .show (jf (qx n)).q<=_;rw[rM,rL];exact b
 .show _<=(qx n).q;rw[rL];exact c
def RT{a b u v:Rat}(h1:-u<=a)(h2:a<=u)(h3:-v<=b)(h4:b<=v):-(u*v)<=a*b/\a*b<=u*v:=by
 have ha:iZ a<=u:=yE h2 aP;have hb:iZ b<=v:=yE h4 aP;have hm:=zK a b;have h0:=(ns b).1;have hu:0<=u:=bQ (ns a).1 ha;have m1:=ct ha h0;have m2:=cJ hb hu;obtain⟨_,c2,c3,_⟩:=ns (a*b);constructor<;>grind
def VM(j:Nat):P2 (-(j:Int))*P2 (-1)=P2 (-((j+1:Nat):Int)):=by
 rw[<-oP];congr 1;omega
def afy{a u:Rat}{n:Nat}(h1:-u<=a)(h2:a<=u):-u<=a/((n+1:Nat):Rat)/\a/((n+1:Nat):Rat)<=u:=by
 have hp:=BS n;have Vo:(1:Rat)<=((n+1:Nat):Rat):=by
  have:=dF (a:=1) (b:=n+1);exact this.2 aE 
 have e:=dM (a:=a) (b:=((n+1:Nat):Rat)) aP;have hu:0<=u:= aP ;generalize a/((n+1:Nat):Rat)=x at *
 generalize ((n+1:Nat):Rat)=c at *
 constructor
 .apply dB.1;intro iC;have m:=dG iC hp;have m2:=cJ Vo hu
  grind
 .apply dB.1;intro iC;have m:=dG iC hp;have m2:=cJ Vo hu
  grind
def aav{y:Iv}(hy:y.ib)(h:Sub y (qb (-1))){p:Nat}(il:8<=p)(ic:p<=512):∀ j,j<=900->Sub (lL y p j) (qb (-(j:Int)))
 | 0,_=>by
  have e:(jv 1).lo.q=1/\(jv 1).hi.q=1/\(jv 1).all=false:=YK 1;refine .inr ⟨e.2.2,?_,?_⟩
  .show (jf (qx _)).q<=_;rw[rM,rL,show(lL y p 0).lo.q=1 from e.1];decide +kernel
  .show _<=(qx _).q;rw[rL,show(lL y p 0).hi.q=1 from e.2.1];decide +kernel
 |j+1,hj=>by
  have ih:=aav hy h il ic j aE;have vT:=xt hy il ic j;obtain⟨ta,_⟩:=ih.xZ rfl;obtain⟨ya,_⟩:=h.xZ rfl;have B:=PF vT hy ta ya (aE:1<=p) aE;have s1:Sub (iH (lL y p j) y p) (qb (-((j+1:Nat):Int))):=FZ B aE aE aE (by
   rintro r ⟨a,b,ha,hb,rfl⟩;obtain⟨a1,a2⟩:=Ed.1 (ih.jZ ha);obtain⟨b1,b2⟩:=Ed.1 (h.jZ hb);rw[<-VM];exact RT a1 a2 b1 b2)
  have vm:(iH (lL y p j) y p).ib:=oL _ _ aE aE;obtain⟨ma,_⟩:=s1.xZ rfl;have vn:=Ie (j+1) aE;have hs:nV (jv ((j+1:Nat):Int))≠0:=by rw[ak3 aE];decide
  exact FZ (JL vm vn ma hs (aE:1<=p) aE) aE aE aE (by
   rintro r ⟨a,b,ha,hb,rfl⟩;obtain⟨a1,a2⟩:=Ed.1 (s1.jZ ha);obtain⟨b1,b2⟩:=hb.ko rfl;have e:=YK (j+1);rw[e.1]at b1;rw[e.2.1]at b2;rw[show b=((j+1:Nat):Rat)from fg b2 b1];exact afy a1 a2)
def px(x:Iv)(p:Nat):Bool:=x.all||(decide ((iR x).m=0)||decide ((iR x).im <= -(p:Int)))
def abf{d:Dy}(hm:d.m≠0){n:Int}(h:iZ d.q<=P2 n):d.im<=n+1:=by
 apply bT;intro iC;have hT:d.im=(ie d.m:Int)+d.e:=by unfold Dy.im;rw[bj hm]
 have hb:0<ie d.m:=xg.2 (by rw[cI];omega);have h1:2^(ie d.m-1)<=d.m:=xg.1 aE;have h2:((2^(ie d.m-1):Nat):Rat)<=(d.m:Rat):=dF.2 h1;have h3:=ct h2 (bN (mF d.e));rw[<-uK,<-oP,show((ie d.m-1:Nat):Int)+d.e=d.im-1 by rw[hT];omega]at h3;have h4:iZ d.q=(d.m:Rat)*P2 d.e:=by
  have h0:0<=(d.m:Rat)*P2 d.e:=b6 cV (bN (mF _));rw[pv];unfold iZ;cases d.neg
  .simp only[bK,bC];rw[bk h0]
  .simp only[bJ];split<;>grind
 have h5:=Cj (aE:n+1<=d.im-1);have h6:P2 (n+1)=P2 n*2:=by rw[oP];congr 1
 have:=mF n
 grind
def abd{x:Iv}(hx:x.ib){p:Nat}(h:Sub x (qb (-((p+1:Nat):Int)))):px x p=true:=by
 unfold px;cases ha:x.all
 .by_cases hm:(iR x).m=0
  .rw [bn hm];rfl
  .obtain ⟨_,k1,k2⟩:=h.xZ rfl;obtain⟨m1,m2,m3⟩:=Ds hx.q;replace k1:(jf (qx (-((p+1:Nat):Int)))).q<=x.lo.q:=k1;replace k2:x.hi.q<=(qx (-((p+1:Nat):Int))).q:=k2;rw[rM,rL]at k1;rw[rL]at k2;have hq:=hx.q;have qY:=mF (-((p+1:Nat):Int));generalize hu:P2 (-((p+1:Nat):Int))=u at *
   have hle:iZ (iR x).q<=u:=yE (by rcases m3 with m3|m3<;>grind) (by rcases m3 with m3|m3<;>grind);have:=abf hm (hu▸hle);rw[bn (show(iR x).im <= -(p:Int)by omega)];simp
 .rfl
def aau{y:Iv}(h:y.all=true)(p:Nat):lL y p 1=gY:=by
 show jt (iH (jv 1) y p) _ p=_;rw[K3 p (.inr h),Gb p (.inl rfl)]
def agm{y:Iv}(hy:y.ib)(h:y.all=true\/Sub y (qb (-1))){p:Nat}(il:8<=p)(ic:p<=512):∃ N,1<=N/\N<=1000/\(∀ x,1<=x->x<N->px (lL y p x) p=false)/\px (lL y p N) p=true:=by
 have ex:∃ x,x<900/\decide (1<=x/\px (lL y p x) p=true)=true:=by
  rcases h with h|h
  .exact ⟨1,aE,bn ⟨aE,by rw[aau h];rfl⟩⟩
  .exact ⟨p+1,aE,bn ⟨aE,abd (xt hy il ic _) (aav hy h il ic (p+1) aE)⟩⟩
 obtain⟨N,n1,n2,n3⟩:=tI (p:=λx=>decide (1<=x/\px (lL y p x) p=true)) ex;have n2':=cT n2;refine⟨N,n2'.1,aE,λx h1 h2=>?_,n2'.2⟩;have:=gy (n3 x h2);cases hc:px (lL y p x) p
 .rfl
 .exact absurd ⟨h1,hc⟩ this
def uP(y:Iv)(p:Nat):Nat->Iv
 | 0=>jv 1
 |j+1=>jS (uP y p j) (lL y p (j+1)) p
def zW(y:Iv)(p N:Nat):Iv:=jS (uP y p N) (rV (lL y p N)) p
def Ep{y:Iv}(hy:y.ib){p:Nat}(il:8<=p)(ic:p<=512):∀ j,(uP y p j).ib
 | 0=>DB 1 aG 
 |j+1=>rU (Ep hy il ic j) (xt hy il ic _) aE aE 
def agl{y:Iv}(hy:y.ib){p:Nat}(il:8<=p)(ic:p<=512)(N:Nat):(zW y p N).ib:=rU (Ep hy il ic N) (D9 (xt hy il ic N)) aE aE 
def mq(x:Iv)(p:Nat):Iv:=if x.all then gY else mj (kp x.lo p false) (j8 x.lo p false) (kp x.hi p true) (j8 x.hi p true)
def vD(a b:Iv):Iv:=if a.all||b.all then gY else⟨a.lo,b.hi,false⟩
def Fx{x:Iv}(hx:x.ib){p:Nat}(hp:1<=p)(ic:p<=4096):(mq x p).ib:=by
 unfold mq;cases xa:x.all
 .obtain ⟨c1,c2⟩:=hx.zT;simp only[bK,bC];unfold mj;split
  .exact mg
  .rename_i he;have A:=yp c1 hp ic;have B:=yr c2 hp ic;refine .inr ⟨rfl,xq _ hp ic _,xq _ hp ic _,?_⟩;rw[oY];exact bQ (A.1 aE).2 (bQ hx.q (B.1 aE).2)
 .exact mg
def Ix{x:Iv}(hx:x.ib){p:Nat}(hp:1<=p)(ic:p<=4096){r:Rat}(h:x.jZ r):(mq x p).jZ r:=by
 unfold mq;cases xa:x.all
 .obtain ⟨c1,c2⟩:=hx.zT;obtain⟨h1,h2⟩:=h.ko xa;simp only[bK,bC];unfold mj;split
  .exact .inl rfl
  .rename_i he;have A:=yp c1 hp ic;have B:=yr c2 hp ic;exact .inr ⟨bQ (A.1 aE).2 h1,bQ h2 (B.1 aE).2⟩
 .exact .inl rfl
def amY{x:Iv}(hx:x.ib){p:Nat}(hp:1<=p)(ic:p<=4096){n:Int}(h1:-1000<=n)(h2:n<=1000)(h:Sub x (qb n)):Sub (mq x p) (qb n):=by
 obtain⟨xa,k1,k2⟩:=h.xZ rfl;replace k1:(jf (qx n)).q<=x.lo.q:=k1;replace k2:x.hi.q<=(qx n).q:=k2;rw[rM,rL]at k1;rw[rL]at k2;obtain⟨c1,c2⟩:=hx.zT;have A:=(yp c1 hp ic).2 _ (AV hp h1 h2).neg k1;have B:=(yr c2 hp ic).2 _ (AV hp h1 h2) k2;unfold mq mj;rw[xa];simp only[bK,bC];rw[bj aE];refine .inr ⟨rfl,?_,?_⟩
 .show (jf (qx n)).q<=_;rw[rM,rL];exact A.2
 .show _<=(qx n).q;rw[rL];exact B.2
def ajN{f g:Nat->Rat}{A B:Iv}(hA:pZ f A)(hB:pZ g B)(h:∀ ε,0<ε->∃ N0,∀ N,N0<=N->f N<=g N+ε)(aa:A.all=false)(ba:B.all=false):A.lo.q<=B.hi.q:=by
 apply dB.1;intro iC;obtain⟨ε,hε⟩:∃ ε,ε=(A.lo.q-B.hi.q)/4:=⟨_,rfl⟩
 have h0:0<ε:=by rw[hε];grind
 obtain⟨N1,h1⟩:=hA ε h0;obtain⟨N2,h2⟩:=hB ε h0;obtain⟨N3,h3⟩:=h ε h0;obtain⟨r,hr,hd⟩:=h1 (max N1 (max N2 N3)) aE;obtain⟨s,hs,he⟩:=h2 (max N1 (max N2 N3)) aE;have h4:=h3 (max N1 (max N2 N3)) aE;obtain⟨r1,r2⟩:=hr.ko aa;obtain⟨s1,s2⟩:=hs.ko ba;obtain⟨_,a2,a3,_⟩:=ns (f (max N1 (max N2 N3))-r);obtain⟨_,b2,b3,_⟩:=ns (g (max N1 (max N2 N3))-s)
 grind
def abQ{c:Rat}(h:0<=c)(N:Nat):1<=EQ c N:=by
 have:=IJ (f:=eQ c) (λi=>wQ h i) (aE:1<=N+1);have e:iQ (eQ c) 1=1:=by show 0+1=1;grind
 unfold EQ;rw[e]at this;exact this
def abP(c:Rat){ε:Rat}(hε:0<ε):∃ N0,∀ N,N0<=N -> -ε<=EQ c N:=by
 obtain⟨N0,h0⟩:=Mr (c/2) (c/2) hε;rw[show c/2+c/2=c by grind]at h0;refine⟨N0,λN hN=>?_⟩;have h:=h0 N hN;have hs:0<=EQ (c/2) N*EQ (c/2) N:=by
  by_cases k:0<=EQ (c/2) N
  .exact b6 k k
  .have:=b6 (show 0 <= -EQ (c/2) N by grind) (show 0 <= -EQ (c/2) N by grind)
   grind
 obtain⟨_,a2,a3,_⟩:=ns (EQ c N-EQ (c/2) N*EQ (c/2) N)
 grind
def abM{c:Rat}(h:0<=c):∃ M:Rat,0<M/\∀ N,EQ c N<=M:=by
 obtain⟨m0,h0⟩:=aa8 h (show(0:Rat)<1 by decide);have hs:0<=iQ (eQ c) m0:=by
  have:=IJ (f:=eQ c) (λi=>wQ h i) (bS m0);exact this
 refine⟨iQ (eQ c) m0+1,aP,λN=>?_⟩;unfold EQ;by_cases hN:m0<=N+1
 .obtain ⟨d,hd⟩:∃ d,N+1=m0+d:=⟨N+1-m0,aE⟩
  rw[hd,FF];have:=h0 m0 (bu _) d
  grind
 .have:=IJ (f:=eQ c) (λi=>wQ h i) (aE:N+1<=m0)
  grind
def abO{a b:Rat}(h:a<=b){ε:Rat}(hε:0<ε):∃ N0,∀ N,N0<=N->EQ a N<=EQ b N+ε:=by
 have hd:0<=b-a:= aP ;obtain⟨N1,h1⟩:=Mr a (b-a) (show 0<ε/2 by grind);rw[show a+(b-a)=b by grind]at h1;obtain⟨M,ue,hM⟩:∃ M:Rat,0<M/\∀ N,EQ (b-a) N<=M:=abM hd;obtain⟨N2,h2⟩:=abP a (show 0<ε/(2*M)by rw[cX];exact ej hε (fP.2 aP));refine⟨max N1 N2,λN hN=>?_⟩;have k1:=h1 N aE;have k2:=h2 N aE;have e:ε/(2*M)*M=ε/2:=by
  have:=dM (a:=ε) (b:=2*M) aP 
  grind
 have k3:=abQ hd N;have k4:=hM N;obtain⟨_,a2,a3,_⟩:=ns (EQ b N-EQ a N*EQ (b-a) N);generalize EQ a N=x at *
 generalize EQ (b-a) N=y at *
 generalize EQ b N=z at *
 generalize ε/(2*M)=δ at *
 have m1:=b6 (show 0<=x+δ by grind) (show 0<=y-1 by grind);have hδ:0<=δ:=by
  apply dB.1;intro iC;have:=dG iC ue
  grind
 have m2:=cJ (show y-1<=M by grind) hδ
 grind
def Uo{y:Iv}{r:Rat}(hy:y.ib)(h:y.jZ r){p:Nat}(il:8<=p)(ic:p<=512):∀ j,j<4294967296->(uP y p j).jZ (EQ r j)
 | 0,_=>by
  have:EQ r 0=1:=by unfold EQ;simp only[iQ,eQ];grind
  rw[this];exact Az 1
 |j+1,hj=>Ck (Ep hy il ic j) (xt hy il ic (j+1)) aE aE (Uo hy h il ic j aE) (QX hy il ic h (j+1) hj)
def agi{y:Iv}(h:y.all=true){p N:Nat}(hN:1<=N):(zW y p N).all=true:=by
 have ht:(lL y p N).all=true:=by
  cases hc:(lL y p N).all
  .obtain ⟨d,rfl⟩:∃ d,N=1+d:=⟨N-1,aE⟩
   have:=aat hc;rw[aau h]at this;cases this
  .rfl
 unfold zW;rw[Jd p (.inr (by unfold rV;rw[ht];simpa using ht))];rfl
def agj{y:Iv}{r:Rat}(hy:y.ib)(h:y.jZ r)(hr:iZ r*2<=1){p:Nat}(il:8<=p)(ic:p<=512){N:Nat}(hN:1<=N)(tp:N<=1000)(M:Nat)(hM:N<=M):(zW y p N).jZ (EQ r M):=by
 obtain⟨d,rfl⟩:∃ d,M=N+d:=⟨M-N,aE⟩
 have e1:EQ r (N+d)=EQ r N+iQ (λi=>eQ r (N+1+i)) d:=by
  unfold EQ;rw[(aE:N+d+1=N+1+d),FF]
 have hz:=(ns r).1;have t:=Re hz (J:=1) (by exact hr) (aE:1<=N+1) d;have p0:=wQ hz (N+1+d);have b1:iZ (iQ (λi=>eQ r (N+1+i)) d)<=iQ (λi=>eQ (iZ r) (N+1+i)) d:=by
  have:=D5 (λi=>eQ r (N+1+i)) d;rwa[qM d λi _=>Gg r (N+1+i)]at this
 have e3:eQ (iZ r) (N+1)*2<=eQ (iZ r) N:=Rd hz (J:=1) (by exact hr) (aE:1<=N);rw[e1];refine Ck (Ep hy il ic N) (D9 (xt hy il ic N)) aE aE (Uo hy h il ic N aE) (R7 (xt hy il ic N) (QX hy il ic h N aE) ?_);rw[Gg];grind
def agk{y:Iv}{r:Rat}(hy:y.ib)(h:y.jZ r)(hb:y.all=true\/Sub y (qb (-1))){p:Nat}(il:8<=p)(ic:p<=512){N:Nat}(hN:1<=N)(tp:N<=1000):pZ (EQ r) (zW y p N):=by
 rcases hb with hb|hb
 .exact pZ.all (agi hb hN)
 .refine pZ.P4 (k:=N) λM hM=>agj hy h ?_ il ic hN tp M hM
  obtain⟨b1,b2⟩:=Ed.1 (hb.jZ h);have e:P2 (-1)=1/2:= aQ ;rw[e]at b1 b2;have:=yE (x:=r) (b:=1/2) aP aP 
  grind
def o9(x:Iv)(p:Nat):Iv:=if(ke x).all then gY else mj (kp (yj (ke x).lo (ke x).lo) p false) (j8 (yj (ke x).lo (ke x).lo) p false) (kp (yj (ke x).hi (ke x).hi) p true) (j8 (yj (ke x).hi (ke x).hi) p true)
def RQ{x:Iv}(xa:x.all=false):0<=(ke x).lo.q:=by
 unfold ke;rw[xa];show 0<=(pt x).q;unfold pt;split
 .rw [uD];exact cg
 .obtain ⟨_,_,m⟩:=DH (kU x.lo) (kU x.hi);rcases m with m|m<;>rw[m]
  .exact (AD x.lo).1
  .exact (AD x.hi).1
def A0(x:Iv):(ke x).all=x.all:=by unfold ke;cases h:x.all<;>simp[h,gY]
def Q2{x:Iv}(hx:x.ib){p:Nat}(hp:1<=p)(ic:p<=4096){r:Rat}(h:x.jZ r):(o9 x p).jZ (r*r):=by
 unfold o9;rw[A0];cases xa:x.all
 .simp only[bK,bC];obtain⟨s,hs,h0,e⟩:∃ s,(ke x).jZ s/\0<=s/\r*r=s*s:=by
   by_cases hr:0<=r
   .exact ⟨r,Ja hx h (.inl ⟨rfl,hr⟩),hr,rfl⟩
   .exact ⟨-r,Ja hx h (.inr ⟨rfl,aP⟩),aP,aP⟩
  have hl:=RQ xa;have ya:(ke x).all=false:=by rw[A0];exact xa
  obtain⟨s1,s2⟩:=hs.ko ya;rw[e];unfold mj;split
  .exact .inl rfl
  .rename_i he;have A:=yp (A8 (ke x).lo (ke x).lo) hp ic;have B:=yr (A8 (ke x).hi (ke x).hi) hp ic;rw[Fm]at A B;have a1:=(A.1 aE).2;have b1:=(B.1 aE).2;refine .inr ⟨?_,?_⟩
   .have m1:=ct s1 hl;have m2:=cJ s1 h0;show _<=s*s;exact bQ a1 (bQ m1 (by rw[fN s];rw[fN (ke x).lo.q s];exact m2))
   .have m1:=ct s2 h0;have m2:=cJ s2 (bQ h0 s2);exact bQ (bQ m1 m2) b1
 .exact .inl rfl
def LW{x:Iv}(hx:x.ib){p:Nat}(hp:1<=p)(ic:p<=4096):(o9 x p).ib:=by
 cases xa:x.all
 .have h1:=Q2 hx hp ic hx.Bq;unfold o9 at h1 ⊢;rw[A0,xa]at h1 ⊢;simp only[bK,bC]at h1 ⊢;unfold mj at h1 ⊢;split
  .exact mg
  .rename_i he;rw[bj he]at h1;obtain⟨h2,h3⟩:=h1.ko rfl;refine .inr ⟨rfl,xq _ hp ic _,xq _ hp ic _,?_⟩;rw[oY];exact bQ h2 h3
 .unfold o9;rw[A0,xa];exact mg
def pZ.sqr{f:Nat->Rat}{X:Iv}(hx:X.ib)(h:pZ f X){p:Nat}(hp:1<=p)(ic:p<=4096):pZ (λN=>f N*f N) (o9 X p):=by
 cases xa:X.all
 .intro ε hε;obtain⟨B,hB⟩:∃ B,B=iZ X.lo.q+iZ X.hi.q+1:=⟨_,rfl⟩
  have a0:=ns X.lo.q;have b0:=ns X.hi.q;have uQ:1<=B:= aP ;have NM:0<2*B:= aP ;obtain⟨δ,hδ⟩:∃ δ,δ=min 1 (ε/(2*B)):=⟨_,rfl⟩
  have hεB:0<ε/(2*B):=by rw[cX];exact ej hε (fP.2 NM)
  have WI:0<δ:=by rw[hδ];grind
  have hδ1:δ<=1:=by rw[hδ];grind
  have hδ2:δ*(2*B)<=ε:=by
   have h1:δ<=ε/(2*B):=by rw[hδ];grind
   have h2:=ct h1 (bN NM);rwa[dM aP]at h2
  obtain⟨N0,h0⟩:=h δ WI;refine⟨N0,λN hN=>?_⟩;obtain⟨r,hr,hd⟩:=h0 N hN;refine⟨r*r,Q2 hx hp ic hr,?_⟩;obtain⟨r1,r2⟩:=hr.ko xa;rw[show f N*f N-r*r=(f N-r)*(f N+r)by grind,zK];have hs:iZ (f N+r)<=2*B:=by
   obtain⟨_,c2,c3,_⟩:=ns (f N-r);exact yE aP aP 
  have h3:=cJ hs (ns (f N-r)).1;have h4:=ct hd (bN NM)
  grind
 .exact pZ.all (by unfold o9;rw[A0,xa];rfl)
def abN(r:Rat):∀ ε,0<ε->∃ N0,∀ N,N0<=N->iZ (EQ r N-EQ (r*P2 (-1)) N*EQ (r*P2 (-1)) N)<=ε:=by
 intro ε hε;have e:r*P2 (-1)+r*P2 (-1)=r:=by
  have:P2 (-1)=1/2:= aQ ;rw[this];grind
 have:=Mr (r*P2 (-1)) (r*P2 (-1)) hε;rwa[e]at this
def ajM{r:Rat}{X:Iv}(hx:X.ib)(h:pZ (EQ (r*P2 (-1))) X){p:Nat}(hp:1<=p)(ic:p<=4096):pZ (EQ r) (o9 X p):=(h.sqr hx hp ic).shift (abN r)
def anm{y:Iv}{n:Int}(h:Sub y (qb n)):(mr y (-1)).all=true\/Sub (mr y (-1)) (qb (n-1)):=by
 obtain⟨ya,k1,k2⟩:=h.xZ rfl;replace k1:(jf (qx n)).q<=y.lo.q:=k1;replace k2:y.hi.q<=(qx n).q:=k2;rw[rM,rL]at k1;rw[rL]at k2;unfold mr mj;rw[ya];simp only[bK,bC];split
 .exact .inl rfl
 .rename_i he;have e:P2 (n-1)=P2 n*P2 (-1):=by rw[<-oP];congr 1
  refine .inr (.inr ⟨rfl,?_,?_⟩)
  .show (jf (qx (n-1))).q<=(uF y.lo (-1)).q;rw[rM,rL,B9 aE,e,<-apI,tc];exact k1
  .show (uF y.hi (-1)).q<=(qx (n-1)).q;rw[rL,B9 aE,e,tc];exact k2
def uN(z:Rat)(k:Nat):Rat:=oe z (2*k+1)/((2*k+1:Nat):Rat)
def AQ(z:Rat)(N:Nat):Rat:=iQ (uN z) (N+1)
def oG(z:Iv)(p:Nat):Nat->Iv
 | 0=>z
 |k+1=>iH (oG z p k) (o9 z p) p
def wi(z:Iv)(p:Nat):Nat->Iv
 | 0=>z
 |k+1=>jS (wi z p k) (jt (oG z p (k+1)) (jv ((2*k+3:Nat):Int)) p) p
noncomputable def EY(z:Iv)(p N:Nat):Iv:=mr (jS (wi z p N) (rV (oG z p N)) p) 1
def y6{z:Iv}(hz:z.ib){p:Nat}(il:8<=p)(ic:p<=512):∀ k,(oG z p k).ib
 | 0=>hz
 |_+1=>oL _ _ aE aE 
def Dp{z:Iv}(hz:z.ib){p:Nat}(il:8<=p)(ic:p<=512):∀ k,(wi z p k).ib
 | 0=>hz
 |k+1=>rU (Dp hz il ic k) (qS _ _ aE aE) aE aE 
def ajK{z:Iv}(hz:z.ib){p:Nat}(il:8<=p)(ic:p<=512)(N:Nat):(EY z p N).ib:=IC (rU (Dp hz il ic N) (D9 (y6 hz il ic N)) aE aE) 1
def QN(r:Rat)(k:Nat):oe r (2*(k+1)+1)=oe r (2*k+1)*(r*r):=by
 show oe r (2*k+1)*r*r=_
 grind
def Pp{z:Iv}{r:Rat}(hz:z.ib)(h:z.jZ r){p:Nat}(il:8<=p)(ic:p<=512):∀ k,(oG z p k).jZ (oe r (2*k+1))
 | 0=>by
  have e:oe r (2*0+1)=r:=by show 1*r=r;grind
  rw[e];exact h
 |k+1=>by
  rw[QN];exact PG (y6 hz il ic k) (LW hz aE aE) aE aE (Pp hz h il ic k) (Q2 hz aE aE h)
def Xu{z:Iv}{r:Rat}(hz:z.ib)(h:z.jZ r){p:Nat}(il:8<=p)(ic:p<=512):∀ k,k<1000000->(wi z p k).jZ (AQ r k)
 | 0,_=>by
  have e:AQ r 0=r:=by
   show 0+1*r/((2*0+1:Nat):Rat)=r;have:((2*0+1:Nat):Rat)=1:=rfl;rw[this,cX,show(1:Rat)⁻¹=1 by decide +kernel];grind
  rw[e];exact h
 |k+1,hk=>Ck (Dp hz il ic k) (qS _ _ aE aE) aE aE (Xu hz h il ic k aE)
  (JM (y6 hz il ic (k+1)) (Ie (2*k+3) aE) aE aE (Pp hz h il ic (k+1)) (YL (2*k+3)))
def MD(r:Rat):∀ n,iZ (oe r n)=oe (iZ r) n
 | 0=>by show iZ 1=1;decide +kernel
 |n+1=>by simp only[oe];rw[zK,MD r n]
def ab3(r:Rat)(k:Nat):iZ (uN r k)<=oe (iZ r) (2*k+1):=by
 unfold uN;have hp:(0:Rat)<((2*k+1:Nat):Rat):=BS (2*k);have h1:(1:Rat)<=((2*k+1:Nat):Rat):=by
  have:=dF (a:=1) (b:=2*k+1);exact this.2 aE 
 have h0:=DS (ns r).1 (2*k+1);rw[cX,zK,MD];have hi:=fP.2 hp;have e:iZ (((2*k+1:Nat):Rat)⁻¹)=((2*k+1:Nat):Rat)⁻¹:=by unfold iZ;rw[bk (bN hi)]
 rw[e,<-cX];have x0:=TO h0 hp;have xc:=dM (a:=oe (iZ r) (2*k+1)) (b:=((2*k+1:Nat):Rat)) aP;generalize oe (iZ r) (2*k+1)/((2*k+1:Nat):Rat)=x at *
 have:=cJ h1 x0
 grind
def R8{r:Rat}(hr:iZ r*2<=1)(N:Nat):∀ d,iQ (λi=>iZ (uN r (N+1+i))) d+oe (iZ r) (2*(N+d)+1)<=oe (iZ r) (2*N+1)
 | 0=>by simp only[iQ,bY];grind
 |d+1=>by
  have ih:=R8 hr N d;have h1:=ab3 r (N+1+d);have e:2*(N+1+d)+1=2*(N+d+1)+1:= aE ;rw[e,QN]at h1;have e2:2*(N+(d+1))+1=2*(N+d+1)+1:= aE ;rw[e2,QN,iQ];have h0:=DS (ns r).1 (2*(N+d)+1);have hz:=(ns r).1;have hs:iZ r*iZ r*4<=1:=by
   have m:=cJ hr (show 0<=iZ r*2 by grind)
   grind
  generalize oe (iZ r) (2*(N+d)+1)=u at *
  generalize iZ r*iZ r=v at *
  have m2:=cJ hs h0
  grind
def ajJ{z:Iv}{r:Rat}(hz:z.ib)(h:z.jZ r)(hr:iZ r*2<=1){p:Nat}(il:8<=p)(ic:p<=512){N:Nat}(hN:N<=1000):∀ M,N<=M->(EY z p N).jZ (AQ r M*2):=by
 intro M hM;obtain⟨d,rfl⟩:∃ d,M=N+d:=⟨M-N,aE⟩
 have e1:AQ r (N+d)=AQ r N+iQ (λi=>uN r (N+1+i)) d:=by
  unfold AQ;rw[(aE:N+d+1=N+1+d),FF]
 have t:=R8 hr N d;have b1:=D5 (λi=>uN r (N+1+i)) d;have p0:=DS (ns r).1 (2*(N+d)+1);have e2:P2 1=2:= aQ ;rw[<-e2,e1];refine QT (Ck (Dp hz il ic N) (D9 (y6 hz il ic N)) aE aE (Xu hz h il ic N aE) (R7 (y6 hz il ic N) (Pp hz h il ic N) ?_)) 1;rw[MD];grind
def an7{z:Iv}(hz:z.ib)(h:Sub z (qb (-1))){p:Nat}(il:8<=p)(ic:p<=512):Sub (o9 z p) (qb (-1)):=by
 obtain⟨za,k1,k2⟩:=h.xZ rfl;replace k1:(jf (qx (-1))).q<=z.lo.q:=k1;replace k2:z.hi.q<=(qx (-1)).q:=k2;have e:P2 (-1)=1/2:= aQ ;rw[rM,rL,e]at k1;rw[rL,e]at k2;have hl:=RQ za;have ha:(ke z).ib:=Jb hz;have hq:=ha.q;have hh:(ke z).hi.q<=1/2:=by
  unfold ke;rw[za];show(iR z).q<=1/2;obtain⟨_,_,m⟩:=Ds hz.q;have:=hz.q;rcases m with m|m<;>grind
 have G1:=AV (p:=p) aE (n:=-1) aG aG;have A:=yp (A8 (ke z).lo (ke z).lo) (p:=p) aE aE;have B:=yr (A8 (ke z).hi (ke z).hi) (p:=p) aE aE;rw[Fm]at A B;rw[e]at G1;have jm:0<=(ke z).lo.q*(ke z).lo.q:=b6 hl hl;have hhi:(ke z).hi.q*(ke z).hi.q<=1/2:=by
  have h0:0<=(ke z).hi.q:=bQ hl hq;have m:=cJ hh h0
  grind
 have a1:=A.2 (-(1/2)) G1.neg aP;have b1:=B.2 (1/2) G1 hhi;unfold o9 mj;rw[A0,za];simp only[bK,bC];rw[bj aE];refine .inr ⟨rfl,?_,?_⟩
 .show (jf (qx (-1))).q<=_;rw[rM,rL,e];exact a1.2
 .show _<=(qx (-1)).q;rw[rL,e];exact b1.2
def Xt{z:Iv}(hz:z.ib)(h:Sub z (qb (-1))){p:Nat}(il:8<=p)(ic:p<=512):∀ k,k<=900->Sub (oG z p k) (qb (-((k+1:Nat):Int)))
 | 0,_=>h
 |k+1,hk=>by
  have ih:=Xt hz h il ic k aE;have sq:=an7 hz h il ic;have vT:=y6 hz il ic k;obtain⟨ta,_⟩:=ih.xZ rfl;obtain⟨ya,_⟩:=sq.xZ rfl;exact FZ (PF vT (LW hz aE aE) ta ya (aE:1<=p) aE) aE aE aE (by
   rintro r ⟨a,b,ha,hb,rfl⟩;obtain⟨a1,a2⟩:=Ed.1 (ih.jZ ha);obtain⟨b1,b2⟩:=Ed.1 (sq.jZ hb);rw[<-VM];exact RT a1 a2 b1 b2)
def ajL{z:Iv}(hz:z.ib)(h:z.all=true\/Sub z (qb (-1))){p:Nat}(il:8<=p)(ic:p<=512):∃ N,N<=1000/\(∀ x,x<N->px (oG z p x) p=false)/\px (oG z p N) p=true:=by
 have ex:∃ x,x<900/\px (oG z p x) p=true:=by
  rcases h with h|h
  .exact ⟨0,aE,by show px z p=true;unfold px;rw[h];rfl⟩
  .exact ⟨p,aE,abd (y6 hz il ic _) (Xt hz h il ic p aE)⟩
 obtain⟨N,n1,n2,n3⟩:=tI ex;exact⟨N,aE,n3,n2⟩
def acj{a b:Rat}(h:a<=b)(k:Nat):uN a k<=uN b k:=by
 unfold uN;rw[cX,cX];exact ct (QL aE h) (bN (fP.2 (BS (2*k))))
def I2{a b:Rat}(h:a<=b)(N:Nat):AQ a N<=AQ b N:=DU _ λk _=>acj h k
def Ir{d:Dy}(h:d.m≠0):iZ d.q<P2 d.im:=by
 have hT:d.im=(ie d.m:Int)+d.e:=by unfold Dy.im;rw[bj h]
 have h1:(d.m:Rat)<((2^ie d.m:Nat):Rat):=Rat.natCast_lt_natCast.2 (qw d.m);have h2:=dG h1 (mF d.e);rw[<-uK,<-oP]at h2;have h0:0<=(d.m:Rat)*P2 d.e:=b6 cV (bN (mF _));have h4:iZ d.q=(d.m:Rat)*P2 d.e:=by
  rw[pv];unfold iZ;cases d.neg
  .simp only[bK,bC];rw[bk h0]
  .simp only[bJ];split<;>grind
 rw[h4,hT];exact h2
def Qo{d:Dy}(h:d.m≠0):P2 (d.im-1)<=iZ d.q:=by
 have hT:d.im=(ie d.m:Int)+d.e:=by unfold Dy.im;rw[bj h]
 have hb:0<ie d.m:=xg.2 (by rw[cI];omega);have h1:2^(ie d.m-1)<=d.m:=xg.1 aE;have h2:((2^(ie d.m-1):Nat):Rat)<=(d.m:Rat):=dF.2 h1;have h3:=ct h2 (bN (mF d.e));rw[<-uK,<-oP,show((ie d.m-1:Nat):Int)+d.e=d.im-1 by rw[hT];omega]at h3;have h4:iZ d.q=(d.m:Rat)*P2 d.e:=by
  have h0:0<=(d.m:Rat)*P2 d.e:=b6 cV (bN (mF _));rw[pv];unfold iZ;cases d.neg
  .simp only[bK,bC];rw[bk h0]
  .simp only[bJ];split<;>grind
 rw[h4];exact h3
def Fk{d:Dy}(h:0<d.q):d.m≠0:=λe=>by
 have:d.q=0:=by rw[pv,e];simp
 grind
def Jc{r:Rat}(h:0<r):iZ r=r:=by unfold iZ;rw[bk (bN h)]
def xi(d:Dy):Rat:=d.q*P2 (-d.im)
def AT(d:Dy):Rat:=(xi d-1)/(xi d+1)
def RJ(k:Int):P2 k*P2 (-k)=1:=by rw[<-oP,(aE:k + -k=0),Mx]
def X4{d:Dy}(h:0<d.q):1/2<=xi d/\xi d<1:=by
 have h1:=Qo (Fk h);have h2:=Ir (Fk h);rw[Jc h]at h1 h2;have hp:=mF (-d.im);have e1:=RJ d.im;have e2:P2 (d.im-1)*P2 (-d.im)=1/2:=by
  rw[<-oP,(aE:d.im-1 + -d.im = -1)];decide +kernel
 have m1:=ct h1 (bN hp);have m2:=dG h2 hp;unfold xi;constructor<;>grind
def NC{a b:Rat}(ha:0<=a)(h:a<=b):(a-1)/(a+1)<=(b-1)/(b+1):=by
 have h1:0<a+1:= aP ;have h2:0<b+1:= aP ;have e1:=dM (a:=a-1) (b:=a+1) aP;have e2:=dM (a:=b-1) (b:=b+1) aP;generalize (a-1)/(a+1)=x at *
 generalize (b-1)/(b+1)=y at *
 apply dB.1;intro iC;have m1:=dG iC h1;have hy:y<1:=by
  apply ff.1;intro hle;have:=ct hle (bN h2)
  grind
 have m2:=cJ h (show 0<=1-y by grind)
 grind
def Ry{d:Dy}(h:0<d.q):-(1/3)<=AT d/\AT d<=0:=by
 obtain⟨h1,h2⟩:=X4 h;have a:=NC (show(0:Rat)<=1/2 by decide +kernel) h1;have b:=NC (show 0<=xi d by grind) (bN h2);have e1:((1:Rat)/2-1)/(1/2+1) = -(1/3):= aQ ;have e2:((1:Rat)-1)/(1+1)=0:= aQ ;rw[e1]at a;rw[e2]at b;exact⟨a,b⟩
def Mp(z:Rat)(N:Nat):AQ (-z) N = -AQ z N:=by
 have:∀ n,iQ (uN (-z)) n = -iQ (uN z) n:=by
  intro n
  induction n with
  |zero=>simp[iQ]
  |succ n ih=>
   rw[iQ,iQ,ih];have:uN (-z) n = -uN z n:=by
    unfold uN;rw[DR,bj aE];simp only[cX];grind
   rw[this];grind
 exact this _
def Rz(N:Nat):AQ 0 N=0:=by
 have:=Mp 0 N;rw[show -(0:Rat)=0 by decide +kernel]at this
 grind
def abL(N:Nat):0<=AQ (1/3) N:=by
 have:=I2 (show(0:Rat)<=1/3 by decide +kernel) N;rwa[Rz]at this
def LQ(d:Dy)(N:Nat):Rat:=AQ (AT d) N*2+(d.im:Rat)*(AQ (1/3) N*2)
def aoN{a b:Dy}(ha:0<a.q)(h:a.q<=b.q):a.im<=b.im:=by
 have hb:0<b.q:= aP ;have h1:=Qo (Fk ha);have h2:=Ir (Fk hb);rw[Jc ha]at h1;rw[Jc hb]at h2;apply bT;intro iC;have:=Cj (aE:b.im<=a.im-1)
 grind
def abU{a b:Dy}(ha:0<a.q)(h:a.q<=b.q)(N:Nat):LQ a N<=LQ b N:=by
 have hb:0<b.q:= aP ;have ht:=aoN ha h;obtain⟨a1,a2⟩:=Ry ha;obtain⟨b1,b2⟩:=Ry hb;have c0:=abL N;unfold LQ;rcases Int.lt_or_eq_of_le ht with iC|heq
 .have k1:=I2 a2 N;rw[Rz]at k1;have k2:=I2 b1 N;rw[Mp]at k2;have k3:(a.im:Rat)+1<=(b.im:Rat):=by
   have:=gr (a:=a.im+1) (b:=b.im);have:=this.2 aE;rwa[Rat.intCast_add]at this
  have k4:=ct k3 (show 0<=AQ (1/3) N*2 by grind)
  grind
 .have hm:xi a<=xi b:=by
   unfold xi;rw[heq];exact ct h (bN (mF _))
  have hz:AT a<=AT b:=NC (by have:=(X4 ha).1;grind) hm;have:=I2 hz N;rw[heq]
  grind
def abV(N:Nat):LQ ⟨false,1,0⟩ N=0:=by
 have e1:AT ⟨false,1,0⟩ = -(1/3):= aQ ;have e2:((⟨false,1,0⟩:Dy).im:Rat)=1:= aQ ;unfold LQ;rw[e1,e2,Mp];grind
noncomputable def vc(d:Dy)(p:Nat):Iv:=mr (mq (mJ d) p) (-d.im)
noncomputable def E3(d:Dy)(p:Nat):Iv:=jt (jS (vc d p) (jv (-1)) p) (jS (vc d p) (jv 1) p) p
def abg{d:Dy}(hd:d.ib)(h:d.m≠0):-16384<=d.im-1/\d.im<=16384:=by
 have hT:d.im=(ie d.m:Int)+d.e:=by unfold Dy.im;rw[bj h]
 have hb:0<ie d.m:=xg.2 (by rw[cI];omega);have h1:=hd.range;unfold mT at h1;have h2:=hd.exp;constructor
 .omega
 .rw [hT]
  first|omega|(rcases h1 with h1|h1<;>first|omega|exact absurd h1 h)
def amZ{d:Dy}(hd:d.ib)(h:0<d.q){p:Nat}(il:8<=p)(ic:p<=512)(ha:(mq (mJ d) p).all=false):P2 (d.im-1)<=(mq (mJ d) p).lo.q/\(mq (mJ d) p).hi.q<=P2 d.im:=by
 have hm:=Fk h;obtain⟨t1,t2⟩:=abg hd hm;have q1:=Qo hm;have q2:=Ir hm;rw[Jc h]at q1 q2;have A:=yp hd.canon (p:=p) aE aE;have B:=yr hd.canon (p:=p) aE aE;have G1:G p (P2 (d.im-1)):=.inl ⟨1,d.im-1,by rw[yI];omega,t1,by rw[yI];omega,aK⟩;have he:¬(j8 d p false≠0\/j8 d p true≠0):=by
  intro hc;unfold mq mj at ha;rw[show(mJ d).all=false from rfl]at ha;simp only[bK,bC]at ha;rw[bk (show j8 (mJ d).lo p false≠0\/j8 (mJ d).hi p true≠0 from hc)]at ha;cases ha
 have e1:(mq (mJ d) p).lo=kp d p false/\(mq (mJ d) p).hi=kp d p true:=by
  unfold mq mj;rw[show(mJ d).all=false from rfl];simp only[bK,bC];rw[bj (show ¬(j8 (mJ d).lo p false≠0\/j8 (mJ d).hi p true≠0)from he)];exact⟨rfl,rfl⟩
 rw[e1.1,e1.2];refine⟨(A.2 _ G1 q1).2,?_⟩;by_cases ht:d.im<=16383
 .have G2:G p (P2 d.im):=.inl ⟨1,d.im,by rw[yI];omega,aE,by rw[yI];omega,aK⟩;exact(B.2 _ G2 (bN q2)).2
 .obtain ⟨g,_⟩:=B.1 aE ;have Wf:0<=(kp d p true).q:=bQ (bN h) (B.1 aE).2;obtain⟨m,e,hb,_,hr,hv⟩:=g.pos Wf;rw[hv];have h1:(m:Rat)<=((2^ie m:Nat):Rat):=dF.2 (dt (qw m));have h2:=ct h1 (bN (mF e));rw[<-uK,<-oP]at h2;exact bQ h2 (Cj aE)
def aj4{d:Dy}(hd:d.ib){p:Nat}(il:8<=p)(ic:p<=512):(vc d p).jZ (xi d):=QT (Ix (wA hd) aE aE (Qi d)) _
def aj6{d:Dy}(hd:d.ib){p:Nat}(il:8<=p)(ic:p<=512):(vc d p).ib:=IC (Fx (wA hd) aE aE) _
def aj5{d:Dy}(hd:d.ib)(h:0<d.q){p:Nat}(il:8<=p)(ic:p<=512)(ha:(vc d p).all=false):1/2<=(vc d p).lo.q/\(vc d p).hi.q<=1:=by
 unfold vc mr at ha ⊢;cases ra:(mq (mJ d) p).all
 .rw [ra]at ha;obtain⟨h1,h2⟩:=amZ hd h il ic ra;simp only[bK,bC]at ha ⊢;unfold mj at ha ⊢;split
  .rename_i he;rw[bk he]at ha;cases ha
  .rename_i he;have e1:=RJ d.im;have e2:P2 (d.im-1)*P2 (-d.im)=1/2:=by
    rw[<-oP,(aE:d.im-1 + -d.im = -1)];decide +kernel
   refine⟨?_,?_⟩
   .show 1/2<=(uF _ _).q;rw[B9 aE,<-e2,tc];exact h1
   .show (uF _ _).q<=1;rw[B9 aE,<-e1,tc];exact h2
 .rw [ra]at ha;cases ha
def ahJ{a b:Rat}(h1:-(1/2)<=a)(h2:a<=1/2)(hb:1<=b):-(1/2)<=a/b/\a/b<=1/2:=by
 have e:=dM (a:=a) (b:=b) aP;generalize a/b=x at *
 constructor
 .apply dB.1;intro iC;have:=dG iC (show 0<b by grind)
  grind
 .apply dB.1;intro iC;have:=dG iC (show 0<b by grind)
  grind
def aj8{d:Dy}(hd:d.ib)(h:0<d.q){p:Nat}(il:8<=p)(ic:p<=512):(E3 d p).ib/\(E3 d p).jZ (AT d)/\((E3 d p).all=true\/Sub (E3 d p) (qb (-1))):=by
 have vM:=aj6 hd il ic;have hM:=aj4 hd il ic;have vn:(jv (-1)).ib:=xj aG;have v1:(jv 1).ib:=xj aG;have vA:(jS (vc d p) (jv (-1)) p).ib:=rU vM vn aE aE;have vB:(jS (vc d p) (jv 1) p).ib:=rU vM v1 aE aE;have e1:((-1:Int):Rat) = -1:= aQ ;have e2:((1:Int):Rat)=1:= aQ ;have hA:=Ck vM vn (p:=p) aE aE hM (Az (-1));have hB:=Ck vM v1 (p:=p) aE aE hM (Az 1);rw[e1,show xi d + -1=xi d-1 by grind]at hA;rw[e2]at hB;refine⟨qS _ _ aE aE,JM vA vB aE aE hA hB,?_⟩;cases ma:(vc d p).all
 .right;obtain⟨m1,m2⟩:=aj5 hd h il ic ma;have one:∀ (n:Int) r,(jv n).jZ r->r=(n:Rat):=λn r hr=>by
   obtain⟨r1,r2⟩:=hr.ko rfl;replace r1:(ja n).q<=r:=r1;replace r2:r<=(ja n).q:=r2;rw[BZ]at r1 r2;exact fg r2 r1
  have g1:G p (1/2):=by have:=AV (p:=p) aE (n:=-1) aG aG;rwa[show P2 (-1)=1/2 by decide +kernel]at this
  have g2:G p 1:=by have:=AV (p:=p) aE (n:=0) aG aG;rwa[Mx]at this
  have g4:G p 2:=by have:=AV (p:=p) aE (n:=1) aG aG;rwa[show P2 1=2 by decide +kernel]at this
  obtain⟨aa,a1,a2⟩:=(ME vM vn ma rfl (aE:1<=p) aE).y5 (-(1/2)) (1/2) g1.neg g1 (by
   rintro r ⟨a,b,ha,hb,rfl⟩;obtain⟨b1,b2⟩:=ha.ko ma;rw[one _ b hb,e1];constructor<;>grind)
  obtain⟨ba,b1,b2⟩:=(ME vM v1 ma rfl (aE:1<=p) aE).y5 1 2 g2 g4 (by
   rintro r ⟨a,b,ha,hb,rfl⟩;obtain⟨b1,b2⟩:=ha.ko ma;rw[one _ b hb,e2];constructor<;>grind)
  refine FZ (JL vA vB aa (Q1 ba (.inl aP)) (aE:1<=p) aE) aE aG aG ?_;rintro r ⟨a,b,ha,hb,rfl⟩;obtain⟨x1,x2⟩:=ha.ko aa;obtain⟨y1,y2⟩:=hb.ko ba;rw[show P2 (-1)=1/2 by decide +kernel];exact ahJ aP aP aP 
 .left;show(jt (jS (vc d p) (jv (-1)) p) (jS (vc d p) (jv 1) p) p).all=true;rw[Jd p (.inl ma),Gb p (.inl rfl)];rfl
def agh{d:Dy}(hd:d.ib)(h:d.m≠0){p:Nat}(il:8<=p)(ic:p<=512){n:Int}(h1:d.im<=n)(h2:-1000<=n)(h3:n<=1000):Sub (mq (mJ d) p) (qb n):=by
 refine amY (wA hd) aE aE h2 h3 (.inr ⟨rfl,?_,?_⟩)
 .show (jf (qx n)).q<=d.q;rw[rM,rL];have:=Ir h;have hl:=Cj h1;obtain⟨_,a2,a3,_⟩:=ns d.q
  grind
 .show d.q<=(qx n).q;rw[rL];have:=Ir h;have hl:=Cj h1;obtain⟨_,a2,a3,_⟩:=ns d.q
  grind
def abw(y:Iv)(p n:Nat)(x:Nat):PS:=⟨32,true,[(7,.e (iP ((x+1:Nat):Int))),(6,.box 6 0),(5,.box 5 0),(4,.box 4 0),(3,.box 3 0),(2,.box 2 0)],[(6,.cells 39 (iO (uP y p x))),(5,.cells 39 (iO (lL y p x))),(4,.cells 39 au),(3,.cells 39 (iO y)),(2,.cells 272 [iP p])]⟩
def ajO{f:Nat->Rat}{X Y:Iv}(h:pZ f X)(k:∀ r,X.jZ r->Y.jZ r):pZ f Y:=λε hε=>by
 obtain⟨N0,h0⟩:=h ε hε;exact⟨N0,λN hN=>by obtain⟨r,h1,h2⟩:=h0 N hN;exact⟨r,k r h1,h2⟩⟩
def ivW{x:Iv}(hx:x.ib)(ha:x.all=true):x=gY:=by
 obtain⟨h1,h2⟩:=WY hx ha;obtain⟨a,b,c⟩:=x;simp only at h1 h2 ha;rw[h1,h2,ha];rfl
def acC(x:Iv)(hx:x.ib)(xa:x.all=true)(k:Int)(k1:-32768<=k)(k2:k<=32768):gV 320 [ij x,iP k] (ij (mr x k)):=
 ak call320 func320 (ae [.o 10 (.e (lV _):aj (.sl true 1 7 λi_ j_=>(iO x).getD (i_*7+j_) (.v (.bool false))) (ig [x])),ag [ig [x]] (qu _ aF),ai 11 (!x.all) (by rw[xa];rfl),.c nZ]<|rQ (ij gY) (ij (mr x k)) (by rw[show(mr x k)=gY by unfold mr;rw[bk xa]])) 
def acD(x:Iv)(hx:x.ib)(xa:x.all=false)(k:Int)(k1:-32768<=k)(k2:k<=32768):gV 320 [ij x,iP k] (ij (mr x k)):=by
 obtain⟨v1,v2⟩:=hx.ko;exact ak call320 func320 (ae [.o 10 (.e (lV _):aj (.sl true 1 7 λi_ j_=>(iO x).getD (i_*7+j_) (.v (.bool false))) (ig [x])),ag [ig [x]] (qu _ aF),ah 11 (!x.all) (by rw[xa];rfl),.c (Eb x.lo k aF aE aE),.c (Eb x.hi k aF aE aE),.c (Dh (jC (canon x.lo.neg x.lo.m (x.lo.e+k))) (jC (canon x.hi.neg x.hi.m (x.hi.e+k))) (kC (canon x.lo.neg x.lo.m (x.lo.e+k))) (kC (canon x.hi.neg x.hi.m (x.hi.e+k))))]<|rQ (ij (mj (jC (canon x.lo.neg x.lo.m (x.lo.e+k))) (kC (canon x.lo.neg x.lo.m (x.lo.e+k))) (jC (canon x.hi.neg x.hi.m (x.hi.e+k))) (kC (canon x.hi.neg x.hi.m (x.hi.e+k))))) (ij (mr x k)) (by unfold mr;rw[bj (by rw[xa];decide)];simp only[anj,ank])) 
def Jm(x:Iv)(hx:x.ib)(k:Int)(k1:-32768<=k)(k2:k<=32768):gV 320 [ij x,iP k] (ij (mr x k)):=by
 cases xa:x.all with
 |true=>exact acC x hx xa k k1 k2
 |false=>exact acD x hx xa k k1 k2
def acA(x:Iv)(hx:x.ib)(xa:x.all=true)(p:Nat)(il:8<=p)(ic:p<=512):gV 344 [ij x,iP p] (ij (mq x p)):=
 ak call344 func344 (ae [.o 10 (.e (lV _):aj (.sl true 1 7 λi_ j_=>(iO x).getD (i_*7+j_) (.v (.bool false))) (ig [x])),ag [ig [x]] (qu _ aF),ai 11 (!x.all) (by rw[xa];rfl),.c nZ]<|rQ (ij gY) (ij (mq x p)) (by rw[show(mq x p)=gY by unfold mq;rw[bk xa]])) 
def acB(x:Iv)(hx:x.ib)(xa:x.all=false)(p:Nat)(il:8<=p)(ic:p<=512):gV 344 [ij x,iP p] (ij (mq x p)):=by
 obtain⟨v1,v2⟩:=hx.ko;exact ak call344 func344 (ae [.o 10 (.e (lV _):aj (.sl true 1 7 λi_ j_=>(iO x).getD (i_*7+j_) (.v (.bool false))) (ig [x])),ag [ig [x]] (qu _ aF),ah 11 (!x.all) (by rw[xa];rfl),ag [iP p] (xf _),ah 15 (nj (p:Int)) (sT.2 ⟨aE,aE⟩),.c (Jo x.lo p aF aE aE),.c (Jp x.hi p aF aE aE),.c (Dh (kp x.lo p false) (kp x.hi p true) (j8 x.lo p false) (j8 x.hi p true))]<|rQ (ij (mj (kp x.lo p false) (j8 x.lo p false) (kp x.hi p true) (j8 x.hi p true))) (ij (mq x p)) (by unfold mq;rw[bj (by rw[xa];decide)])) 
def FX(x:Iv)(hx:x.ib)(p:Nat)(il:8<=p)(ic:p<=512):gV 344 [ij x,iP p] (ij (mq x p)):=by
 cases xa:x.all with
 |true=>exact acA x hx xa p il ic
 |false=>exact acB x hx xa p il ic
def acE(x:Iv)(hx:x.ib)(xa:x.all=true)(p:Nat)(il:8<=p)(ic:p<=512):gV 371 [ij x,iP p] (ij (o9 x p)):=by
 have ha:(ke x).all=true:=by rw[A0,xa]
 exact ak call371 func371 (ae [.c (Pd x aF),ah 13 ((ke x).all) ha,.c nZ]<|rQ (ij gY) (ij (o9 x p)) (by unfold o9;rw[bk ha])) 
def acF(x:Iv)(hx:x.ib)(xa:x.all=false)(p:Nat)(il:8<=p)(ic:p<=512):gV 371 [ij x,iP p] (ij (o9 x p)):=by
 have ha:(ke x).all=false:=by rw[A0,xa]
 have hv:=Jb hx;obtain⟨v1,v2⟩:=hv.ko;exact ak call371 func371 (ae [.c (Pd x aF),ai 13 ((ke x).all) ha,ag [iP p] (xf _),ah 16 (nj (p:Int)) (sT.2 ⟨aE,aE⟩),.c (Lu ((ke x).lo) ((ke x).lo) p aF aF aE aE),.c (Lv ((ke x).hi) ((ke x).hi) p aF aF aE aE),.c (Dh (kp (iY ((ke x).lo) ((ke x).lo)) p false) (kp (iY ((ke x).hi) ((ke x).hi)) p true) (j8 (iY ((ke x).lo) ((ke x).lo)) p false) (j8 (iY ((ke x).hi) ((ke x).hi)) p true))]<|rQ (ij (mj (kp (iY ((ke x).lo) ((ke x).lo)) p false) (j8 (iY ((ke x).lo) ((ke x).lo)) p false) (kp (iY ((ke x).hi) ((ke x).hi)) p true) (j8 (iY ((ke x).hi) ((ke x).hi)) p true))) (ij (o9 x p)) (by unfold o9;rw[bj (by rw[ha];decide)];rfl)) 
def Sn(x:Iv)(hx:x.ib)(p:Nat)(il:8<=p)(ic:p<=512):gV 371 [ij x,iP (p:Int)] (ij (o9 x p)):=by
 cases xa:x.all with
 |true=>exact acE x hx xa p il ic
 |false=>exact acF x hx xa p il ic
def MJ(x:Iv)(hx:x.ib)(xa:x.all=true):gV 182 [ij x] (.iw [gZ iA,bP false]):=
 ak call182 func182 (af [.o 5 (.e (lV _):aj (.sl true 1 7 λi_ j_=>(iO x).getD (i_*7+j_) (.v (.bool false))) (ig [x])),ag [ig [x]] (qu _ aF),ai 6 (!x.all) (by rw[xa];rfl),.o 8 (.e qO:aj (.agg ar) (gZ iA))]) 
def yz(n:Int)(h:n.natAbs<4294967296):gV 342 [iP n] (ij (jv n)):=by
 have hv:=tH h;exact ak call342 func342 (af [ag [iP n] (rW _ aE),.c (BL (ja n) aF)]) 
def Ch(p:Nat)(x y:Iv)(hx:x.ib)(hy:y.ib)(il:8<=p)(ic:p<=512):gV 347 [.agg [iP p],ij x,ij y] (ij (jS x y p)):=
 ak call347 func347 (af [.c (Am x y p aF aF aE aE)]) 
def Mh(p:Nat)(x y:Iv)(hx:x.ib)(hy:y.ib)(il:8<=p)(ic:p<=512):gV 349 [.agg [iP p],ij x,ij y] (ij (iH x y p)):=
 ak call349 func349 (af [.c (um x y p aF aF aE aE)]) 
def IW(p:Nat)(x y:Iv)(hx:x.ib)(hy:y.ib)(il:8<=p)(ic:p<=512):gV 346 [.agg [iP p],ij x,ij y] (ij (jt x y p)):=
 ak call346 func346 (af [.c (An x y p aF aF aE aE)]) 
def apn(p:Nat)(x:Iv)(hx:x.ib)(xa:x.all=true)(il:8<=p)(ic:p<=512):gV 372 [.agg [iP p],ij x] (bP (px x p)):=
 ak call372 func372 (ae [.c (MJ x hx xa)]<|rQ (bP true) (bP (px x p)) (by unfold px;rw[xa];rfl)) 
def abc{x:Iv}(xa:x.all=false)(p:Nat):px x p=(((iR x).iI==0)||decide ((iR x).im<=0-(p:Int))):=by
 unfold px;rw[xa,aqM];congr 1
 .unfold Dy.iI;by_cases h:(iR x).m=0
  .simp [h]
  .simp only[h,bC,gQ];split<;>rfl
 .rw [show(0:Int)-p = -(p:Int)by omega]
def apo(p:Nat)(x:Iv)(hx:x.ib)(xa:x.all=false)(il:8<=p)(ic:p<=512):gV 372 [.agg [iP p],ij x] (bP (px x p)):=by
 have hm:=Dt hx.ko.1 hx.ko.2;exact ak call372 func372 (ae [.c (Hh x hx xa),ag [gZ (iR x)] (nA _ aF)]<|.w ((Dy.iI (iR x))=0)
  (λk1=>ae [tB 17 (bc k1)]<|rQ (bP true) (bP (px x p)) (by rw[abc xa];simp[k1]))
  (λk1=>ae [tB 17 (a7 k1),ag [gZ (iR x)] (mW _ aF),iq (0-(p:Int)) aE]<|rQ (bP (decide ((Dy.im (iR x))<=(0-(p:Int))))) (bP (px x p)) (by rw[abc xa];simp[k1]))) 
def Mi(p:Nat)(x:Iv)(hx:x.ib)(il:8<=p)(ic:p<=512):gV 372 [.agg [iP p],ij x] (bP (px x p)):=by
 cases xa:x.all with
 |true=>exact apn p x hx xa il ic
 |false=>exact apo p x hx xa il ic
def apv(x:Iv)(hx:x.ib)(xa:x.all=true):gV 373 [ij x] (ij (rV x)):=
 ak call373 func373 (ae [.c (MJ x hx xa),.c nZ]<|rQ (ij gY) (ij (rV x)) (by rw[show rV x=gY by unfold rV;rw[bk xa];exact ivW hx xa])) 
def apw(x:Iv)(hx:x.ib)(xa:x.all=false):gV 373 [ij x] (ij (rV x)):=by
 have hm:=Dt hx.ko.1 hx.ko.2;exact ak call373 func373 (ae [.c (Hh x hx xa),ag [gZ (iR x)] (yM _ aF)]<|rQ (ij (Iv.mk (jf (iR x)) (iR x) false)) (ij (rV x)) (by unfold rV;rw[bj (by rw[xa];decide)];try rfl)) 
def abF(x:Iv)(hx:x.ib):gV 373 [ij x] (ij (rV x)):=by
 cases xa:x.all with
 |true=>exact apv x hx xa
 |false=>exact apw x hx xa
def aph(y:Iv)(p n:Nat)(hy:y.ib)(il:8<=p)(ic:p<=512)(h2:n<=1000)(jm:∀ x,x<n->px (lL y p (x+1)) p=false)(hN:px (lL y p (n+1)) p=true):gV 370 [.agg [iP p],ij y] (ij (zW y p (n+1))):=by
 have t0:=xt hy il ic n;have s0:=Ep hy il ic n;have t1:(iH (lL y p n) y p).ib:=oL _ _ aE aE;have n1:(jv ((n+1:Nat):Int)).ib:=DB _ aE;have t2:(jt (iH (lL y p n) y p) (jv ((n+1:Nat):Int)) p).ib:=qS _ _ aE aE;have a1:(jS (uP y p n) (jt (iH (lL y p n) y p) (jv ((n+1:Nat):Int)) p) p).ib:=rU s0 t2 aE aE;have r1:=D9 t2;exact ak call370 func370 (ae [.c (yz 1 aE),.c (yz 1 aE),.s (Sp.jc (abw y p n) 0 n aE (λx hx kW=>by
    have t0:=xt hy il ic x;have s0:=Ep hy il ic x;have t1:(iH (lL y p x) y p).ib:=oL _ _ aE aE;have n1:(jv ((x+1:Nat):Int)).ib:=DB _ aE;have t2:(jt (iH (lL y p x) y p) (jv ((x+1:Nat):Int)) p).ib:=qS _ _ aE aE;exact iy (ae [.c (Mh p (lL y p x) y aF aF aE aE),.c (yz ((x+1:Nat):Int) aE),.c (IW p (iH (lL y p x) y p) (jv ((x+1:Nat):Int)) aF aF aE aE),.c (Ch p (uP y p x) (jt (iH (lL y p x) y p) (jv ((x+1:Nat):Int)) p) aF aF aE aE),.c (Mi p (jt (iH (lL y p x) y p) (jv ((x+1:Nat):Int)) p) aF aE aE),ai 26 (px (jt (iH (lL y p x) y p) (jv ((x+1:Nat):Int)) p) p) (jm x aE),
     iq (((x+1:Nat):Int)+1) aE]<|.e (af [.b 6 (.iT rfl:Bx.le (.cells 39 (iO (jS (uP y p x) (jt (iH (lL y p x) y p) (jv ((x+1:Nat):Int)) p) p))) (.cells 39 (iO (uP y p (x+1))))),.b 5 (.iT rfl:Bx.le (.cells 39 (iO (jt (iH (lL y p x) y p) (jv ((x+1:Nat):Int)) p))) (.cells 39 (iO (lL y p (x+1)))))])) aI)
  (λhx=>by
    exact iy (af [.c (Mh p (lL y p n) y aF aF aE aE),.c (yz ((n+1:Nat):Int) aE),.c (IW p (iH (lL y p n) y p) (jv ((n+1:Nat):Int)) aF aF aE aE),.c (Ch p (uP y p n) (jt (iH (lL y p n) y p) (jv ((n+1:Nat):Int)) p) aF aF aE aE),.c (Mi p (jt (iH (lL y p n) y p) (jv ((n+1:Nat):Int)) p) aF aE aE),ah 26 (px (jt (iH (lL y p n) y p) (jv ((n+1:Nat):Int)) p) p) hN]) aI) aM:jb 4 f370 (abw y p n 0) (.exit 0) ⟨32,true,[(6,.box 6 0),(5,.box 5 0),(4,.box 4 0),(2,.box 2 0)],[(6,.cells 39 (iO (jS (uP y p n) (jt (iH (lL y p n) y p) (jv ((n+1:Nat):Int)) p) p))),(5,.cells 39 (iO (jt (iH (lL y p n) y p) (jv ((n+1:Nat):Int)) p))),(4,.cells 39 au),(2,.cells 272 [iP p])]⟩) (af [.o 7 (aq 1 ((0+1:Nat):Int) aT),.b 6 (.iT rfl:Bx.le (.cells 39 (iO (jv 1))) (.cells 39 (iO (uP y p 0)))),.b 5 (.iT rfl:Bx.le (.cells 39 (iO (jv 1))) (.cells 39 (iO (lL y p 0))))]),ag [ij (jt (iH (lL y p n) y p) (jv ((n+1:Nat):Int)) p)] (abF _ aF),.c (Ch p (jS (uP y p n) (jt (iH (lL y p n) y p) (jv ((n+1:Nat):Int)) p) p) (rV (jt (iH (lL y p n) y p) (jv ((n+1:Nat):Int)) p)) aF aF aE aE)]<|rR (ij (zW y p (n+1))) (.iT rfl:E.le (ij (jS (jS (uP y p n) (jt (iH (lL y p n) y p) (jv ((n+1:Nat):Int)) p) p) (rV (jt (iH (lL y p n) y p) (jv ((n+1:Nat):Int)) p)) p)) (ij (zW y p (n+1))))) 
def apj{y:Iv}(hy:y.ib)(hb:y.all=true\/Sub y (qb (-1))){p:Nat}(il:8<=p)(ic:p<=512):∃ Z,Z.ib/\(∀ r,y.jZ r->pZ (EQ r) Z)/\gV 370 [.agg [iP (p:Int)],ij y] (ij Z):=by
 obtain⟨N,h1,h2,h3,h4⟩:=agm hy hb il ic;obtain⟨n,rfl⟩:∃ n,N=n+1:=⟨N-1,aE⟩
 exact⟨zW y p (n+1),agl hy il ic _,λr hr=>agk hy hr hb il ic h1 h2,aph y p n hy il ic aE (λx hx=>h3 (x+1) aE aE) h4⟩
def apl(y Z:Iv)(p:Nat)(ahH:gV 370 [.agg [iP (p:Int)],ij y] (ij Z)):gV 345 [.agg [iP p],ij y,iP 0] (ij Z):=
 ak call345 func345 (af [ah 8 ((0:Int)==0) aG,ag [.agg [iP p],ij y] ahH]) 
def apk(y Z:Iv)(p n:Nat)(hy:y.ib)(hZ:Z.ib)(hn:n<=1000)(hH:gV 345 [.agg [iP (p:Int)],ij (mr y (-1)),iP (n:Int)] (ij Z))(il:8<=p)(ic:p<=512):gV 345 [.agg [iP p],ij y,iP ((n+1:Nat):Int)] (ij (o9 Z p)):=
 ak call345 func345 (af [ai 8 (((n+1:Nat):Int)==0) (ni aE),.c (Jm y aF (-1) aE aE),iq (((n+1:Nat):Int)-1) aE,.c (by rw[show(((n+1:Nat):Int)-1)=(n:Int)by omega];exact hH:gV 345 [.agg [iP p],ij (mr y (-1)),iP (((n+1:Nat):Int)-1)] (ij Z)),ag [ij Z,iP p] (Sn _ aF _ aE aE)]) 
def abx{p:Nat}(il:8<=p)(ic:p<=512):∀ (n:Nat) {y:Iv},n<=500->y.ib->(y.all=true\/Sub y (qb ((n:Int)-1)))->∃ Z,Z.ib/\(∀ r,y.jZ r->pZ (EQ r) Z)/\gV 345 [.agg [iP (p:Int)],ij y,iP (n:Int)] (ij Z)
 | 0,y,_,hy,hb=>by
  obtain⟨Z,h1,h2,h3⟩:=apj hy (by simpa using hb) il ic;exact⟨Z,h1,h2,apl y Z p h3⟩
 |n+1,y,hn,hy,hb=>by
  have hs:=IC hy (-1);have mR:(mr y (-1)).all=true\/Sub (mr y (-1)) (qb ((n:Int)-1)):=by
   rcases hb with hb|hb
   .left;unfold mr;rw[bk hb];rfl
   .have:=anm hb;rwa[show(((n+1:Nat):Int)-1-1)=(n:Int)-1 by omega]at this
  obtain⟨Z,h1,h2,h3⟩:=abx il ic n aE hs mR;exact⟨o9 Z p,LW h1 aE aE,λr hr=>ajM h1 (h2 _ (QT hr (-1))) aE aE,apk y Z p n hy h1 aE h3 il ic⟩
def Ru(p m:Nat)(h1:p<=512)(h2:m<=1000):gV 343 [iP p,iP m] (.agg [iP ((min (p+m) 512:Nat):Int)]):=
 ak call343 func343 (af [iq ((p:Int)+m) aE,.o 8 (aq (if 512<((p+m:Nat):Int)then 512 else((p+m:Nat):Int)) ((min (p+m) 512:Nat):Int) aR)]) 
def apM(d:Dy)(p:Nat)(hd:d.ib)(h0:d.iI=0)(il:8<=p)(ic:p<=512):gV 330 [gZ d,iP p] (ij (jv 1)):=
 ak call330 func330 (af [ag [gZ d] (nA _ aF),ah 9 ((Dy.iI d)==0) (by rw[h0];rfl),.c (yz 1 aE)]) 
def IN{d:Dy}(hd:d.ib):-100000<=d.im:=by
 unfold Dy.im;have:=hd.exp;split<;>omega
def aoP{d:Dy}(h:d.m=0):d.im=0:=by unfold Dy.im;rw[bk h]
def apL(d:Dy)(p:Nat)(Z:Iv)(hd:d.ib)(h0:d.iI≠0)(ht:d.im<=100)(hZ:Z.ib)(hH:gV 345 [.agg [iP (((min (p+(((d.im+1).toNat)+24)) 512):Nat):Int)],ij (mq (mJ d) (min (p+(((d.im+1).toNat)+24)) 512)),iP ((((d.im+1).toNat):Nat):Int)] (ij Z))(il:8<=p)(ic:p<=512):gV 330 [gZ d,iP p] (ij (mq Z p)):=by
 have tE:-100000<=d.im:=IN hd;have vp:=wA hd;exact ak call330 func330 (af [ag [gZ d] (nA _ aF),ai 9 ((Dy.iI d)==0) (by simpa using h0),ag [gZ d] (mW _ aF),iq ((Dy.im d)+1) aE,.o 14 (aq (if 0>((Dy.im d)+1)then 0 else((Dy.im d)+1)) ((d.im+1).toNat:Int) aR),iq (((d.im+1).toNat:Int)+24) aE,.c (Ru p (((d.im+1).toNat)+24) aE aE),.c (BL d aF),.c (FX (mJ d) aF (min (p+(((d.im+1).toNat)+24)) 512) aE aE),ag [.agg [iP ((min (p+(((d.im+1).toNat)+24)) 512:Nat):Int)],ij (mq (mJ d) (min (p+(((d.im+1).toNat)+24)) 512)),iP ((d.im+1).toNat:Int)] hH,.c (FX Z aF p aE aE)]) 
def anU{d:Dy}(h:d.iI≠0):d.m≠0:=λq=>h (by unfold Dy.iI;rw[bk q])
def abI{d:Dy}(hd:d.ib)(ht:d.im<=100){p:Nat}(il:8<=p)(ic:p<=512):∃ Z,Z.ib/\pZ (EQ d.q) Z/\gV 330 [gZ d,iP (p:Int)] (ij Z):=by
 by_cases h0:d.iI=0
 .refine ⟨jv 1,xj aG,?_,apM d p hd h0 il ic⟩;have hq:d.q=0:=by
   have h1:=sI d;rw[h0]at h1;have a:=h1.1.2;have b:=h1.2.2;have:¬0<d.q:=λq=>absurd (a q) aG 
   have:¬d.q<0:=λq=>absurd (b q) aG 
   grind
  rw[hq];exact pZ.P4 (k:=0) λN _=>by rw[abR];exact Az 1
 .have hm:=anU h0;obtain⟨P,hP⟩:∃ P,P=min (p+((d.im+1).toNat+24)) 512:=⟨_,rfl⟩
  have hb:=agh hd hm (p:=P) aE aE (n:=((d.im+1).toNat:Int)-1) aE aE aE;obtain⟨Z,h1,h2,h3⟩:=abx (p:=P) aE aE ((d.im+1).toNat) aE (Fx (wA hd) aE aE) (.inr hb);subst hP;refine⟨mq Z p,Fx h1 aE aE,?_,apL d p Z hd h0 ht h1 h3 il ic⟩;have hl:=h2 _ (Ix (wA hd) aE aE (Qi d));exact ajO hl λr hr=>Ix h1 aE aE hr
def abG(a b:Iv)(ha:a.ib)(hb:b.ib):gV 329 [ij a,ij b] (ij (vD a b)):=
 ak call329 func329 (.w (a.all=true)
  (λk1=>ae [tB 6 k1,.c nZ]<|rQ (ij gY) (ij (vD a b)) (by unfold vD;simp[k1]))
  (λk1=>ae [tB 6 (bd k1)]<|.w (b.all=true)
   (λk2=>ae [tB 9 k2,.c nZ]<|rQ (ij gY) (ij (vD a b)) (by unfold vD;simp[k1,k2]))
   (λk2=>ae [tB 9 (bd k2)]<|rQ (ij (Iv.mk a.lo b.hi false)) (ij (vD a b)) (by unfold vD;simp[k1,k2])))) 
def uA(d:Dy):Bool:=decide (iL (kU d) (ja 1000)<=0)
def I0(d:Dy)(hd:d.ib):gV 328 [gZ d] (bP (uA d)):=by
 have ha:=vy hd;have hi:(ja 1000).ib:=tH aG;exact ak call328 func328 (af [.c (El d aF),ag [iP 1000] (rW _ aE),ag [gZ (kU d),gZ (ja 1000)] (lp _ _ aF aF)]) 
def D1(x:Iv)(p:Nat)(hx:x.ib)(il:8<=p)(ic:p<=512):gV 327 [ij x,iP p] (bP (!x.all)):=
 ak call327 func327 (.w (x.all=true)
  (λk1=>ae [tB 6 k1]<|rQ (bP false) (bP (!x.all)) (by simp[k1]))
  (λk1=>ae [tB 6 (bd k1),.c (se x aF),tT 14 (8<=(p:Int)) aE,tT 18 ((p:Int)<=512) aE]<|rQ (bP true) (bP (!x.all)) (by simp[k1]))) 
def apx(x:Iv)(p:Nat)(hx:x.ib)(il:8<=p)(ic:p<=512)(xa:x.all=true):gV 312 [ij x,iP p] (ij gY):=
 ak call312 func312 (af [.c (D1 x p aF aE aE),ai 7 (!x.all) (by rw[xa];rfl),.c nZ]) 
def apB(x:Iv)(p:Nat)(hx:x.ib)(il:8<=p)(ic:p<=512)(xa:x.all=false)(h1:uA x.lo=false):gV 312 [ij x,iP p] (ij gY):=by
 obtain⟨w1,w2⟩:=hx.ko;exact ak call312 func312 (af [.c (D1 x p aF aE aE),ah 7 (!x.all) (by rw[xa];rfl),.c (I0 x.lo aF),ai 12 (uA x.lo) h1,.c nZ]) 
def apz(x:Iv)(p:Nat)(hx:x.ib)(il:8<=p)(ic:p<=512)(xa:x.all=false)(h1:uA x.lo=true)(h2:uA x.hi=false):gV 312 [ij x,iP p] (ij gY):=by
 obtain⟨w1,w2⟩:=hx.ko;exact ak call312 func312 (af [.c (D1 x p aF aE aE),ah 7 (!x.all) (by rw[xa];rfl),.c (I0 x.lo aF),ah 12 (uA x.lo) h1,.c (I0 x.hi aF),ai 18 (uA x.hi) h2,.c nZ]) 
def apA(x:Iv)(p:Nat)(hx:x.ib)(il:8<=p)(ic:p<=512)(xa:x.all=false)(h1:uA x.lo=true)(h2:uA x.hi=true)(Z1 Z2:Iv)(z1:Z1.ib)(z2:Z2.ib)(k1:gV 330 [gZ x.lo,iP (p:Int)] (ij Z1))(k2:gV 330 [gZ x.hi,iP (p:Int)] (ij Z2)):gV 312 [ij x,iP p] (ij (vD Z1 Z2)):=by
 obtain⟨w1,w2⟩:=hx.ko;exact ak call312 func312 (af [.c (D1 x p aF aE aE),ah 7 (!x.all) (by rw[xa];rfl),.c (I0 x.lo aF),ah 12 (uA x.lo) h1,.c (I0 x.hi aF),ah 18 (uA x.hi) h2,ag [gZ x.lo,iP p] k1,ag [gZ x.hi,iP p] k2,.c (abG Z1 Z2 aF aF)]) 
def X2{d:Dy}(hd:d.ib)(h:uA d=true):d.im<=100:=by
 by_cases h0:d.m=0
 .rw [aoP h0];decide
 .unfold uA at h;rw[cv,oY,BZ]at h;have hq:=AD d;have ha:iZ d.q<=P2 10:=by
   have:P2 10=1024:= aQ ;rw[this];have ahB:((1000:Int):Rat)=1000:=rfl;rw[ahB]at h;exact yE aP aP 
  have:=abf h0 ha;omega
def Uj{a b:Iv}(ha:a.ib)(hb:b.ib)(h:a.all=false->b.all=false->a.lo.q<=b.hi.q):(vD a b).ib:=by
 unfold vD;cases xa:a.all
 .cases xb:b.all
  .exact .inr ⟨rfl,ha.ko.1,hb.ko.2,(oY _ _).2 (h xa xb)⟩
  .exact mg
 .exact mg
def apy{x:Iv}(hx:x.ib){p:Nat}(il:8<=p)(ic:p<=512):∃ Z,Z.ib/\gV 312 [ij x,iP (p:Int)] (ij Z):=by
 cases xa:x.all with
 |true=>exact⟨gY,mg,apx x p hx il ic xa⟩
 |false=>
  cases h1:uA x.lo with
  |false=>exact⟨gY,mg,apB x p hx il ic xa h1⟩
  |true=>
   cases h2:uA x.hi with
   |false=>exact⟨gY,mg,apz x p hx il ic xa h1 h2⟩
   |true=>
    obtain⟨w1,w2⟩:=hx.ko;obtain⟨Z1,z1,l1,k1⟩:=abI w1 (X2 w1 h1) il ic;obtain⟨Z2,z2,l2,k2⟩:=abI w2 (X2 w2 h2) il ic;exact⟨vD Z1 Z2,Uj z1 z2 λa b=>ajN l1 l2 (λε hε=>abO hx.q hε) a b,apA x p hx il ic xa h1 h2 Z1 Z2 z1 z2 k1 k2⟩
noncomputable def aaf(a:List Iv)(p:Nat)(x:Nat):PS:=⟨76,true,[(6,.e (iP x)),(5,.own 15),(0,.e (ig a)),(1,.e (iP p))],[(15,.row true 39 x 7 (iM (je (nh a p) x)))]⟩
noncomputable def aag(a:List Iv)(p x:Nat)(z:Nat):PS:=⟨76,true,[(8,.e (iP ((z+1:Nat):Int))),(7,.box 7 0),(6,.e (iP x)),(5,.own 15),(0,.e (ig a)),(1,.e (iP p))],[(7,.cells 39 (iO (si a (je (nh a p) x) p x z))),(15,.row true 39 x 7 (iM (je (nh a p) x)))]⟩
noncomputable def aaq(a:List Iv)(p:Nat)(y:Nat):PS:=⟨59,true,[(6,.box 6 0),(5,.own 26),(4,.own 16),(3,.box 3 0),(2,.box 2 0)],[(6,.cells 3 [iP ((y+1:Nat):Int)]),(26,.row true 39 (y+1) 7 (iM (mf a p y).2)),(16,.row true 39 (y+1) 7 (iM (mf a p y).1)),(3,.cells 3 [iP p]),(2,.cells 26 [ig a])]⟩
noncomputable def aar(a:List Iv)(p:Nat)(x:Nat):PS:=⟨52,true,[(7,.box 7 0),(6,.box 6 0),(5,.nF 5 1 0 0),(3,.box 3 0),(0,.e (ig a))],[(7,.cells 3 [iP x]),(6,.cells 39 (iO (mr (pM (a.getD 0 gY) p) 1))),(5,.jR true 26 39 1 7 (λ_=>x) (λ_=>iM (je (oD a p) x)) .none),(3,.cells 3 [iP p])]⟩
def Pt{a out:List Iv}{p k:Nat}(hp:1<=p)(ic:p<=4096):∀ n,(si a out p k n).ib
 | 0=>zC 0 aG 
 |n+1=>rU (Pt hp ic n) (oL _ _ hp ic) hp ic
def anv(a:List Iv)(n p:Nat)(h1:1<=n)(nW:n<=17)(ha:kQ n a)(il:8<=p)(ic:p<=512)(hF:vu):gV 277 [ig a,iP p] (ig (EZ a p)):=by
 have la:=ha.len;have va0:=ha.ok 0;have pQ:(λ_:Nat=>(0:Nat)) 0=0:=rfl;have Wd:=qj (vI (a.getD 0 gY) p);exact ak call277 func277 (ae [.o 10 (.e (Du _):aj (.sl true 1 1 λi_ j_=>[ig a].getD (i_*1+j_) (.v (.bool false))) (kX [a])),.c (xC [a] n aE aE aK (Cn aF)),.a (aE:0<=(0:Int)/\(0:Int)<=((a.length:Int):Int)),.a (aE:((88:Nat):Int)*(a.length:Int)<=281474976710656/\((a.length:Int):Int)<=9223372036854775807),
  iX 0 (a.length) aE,ag [ij (a.getD 0 gY),iP p] (Ux _ aF _ aE aE hF),.o 22 (.e (lV _):aj (.sl true 1 7 λi_ j_=>(iO (vI (a.getD 0 gY) p)).getD (i_*7+j_) (.v (.bool false))) (ig [vI (a.getD 0 gY) p])),.a (aE:(0+[vI (a.getD 0 gY) p].length)*88<=140737488355328),.s (Sp.jc (aaf a p) 1 a.length aE (λx hx kW=>by
    have oF:(λ_:Nat=>x) 0=x:=rfl;have pK:kQ x (je (nh a p) x):=B3 x λk l _ _=>by unfold nh;split<;>first|exact Nv _ _|exact qS _ _ aE aE 
    have v0:=zC 0 aE;have vw:=zC x aE;have vx:=ha.ok x;have vg:=Pt (a:=a) (out:=(je (nh a p) x)) (k:=x) (aE:1<=p) (aE:p<=4096) (x-1);have vd:(jt (si a (je (nh a p) x) p x (x-1)) (kg x) p).ib:=qS _ _ aE aE;have vs:(sJ (a.getD x gY) (jt (si a (je (nh a p) x) p x (x-1)) (kg x) p) p).ib:=Q6 aE aE vx vd;have qq:=qj (jt (sJ (a.getD x gY) (jt (si a (je (nh a p) x) p x (x-1)) (kg x) p) p) (a.getD 0 gY) p);exact iy (ae [tT 27 ((x:Int)<a.length) aE,.c (Ca 0 aE),.s (Sp.jc (aag a p x) 0 (x-1) aE (λz hz ap3=>by
    have v1:=Pt (a:=a) (out:=(je (nh a p) x)) (k:=x) (aE:1<=p) (aE:p<=4096) z;have v2:=zC (z+1) aE;have v3:=pK.ok (z+1);have v4:=ha.ok (x-(z+1));have v5:(iH (kg (z+1)) ((je (nh a p) x).getD (z+1) gY) p).ib:=oL _ _ aE aE;have v6:(iH (iH (kg (z+1)) ((je (nh a p) x).getD (z+1) gY) p) (a.getD (x-(z+1)) gY) p).ib:=oL _ _ aE aE;exact iy (ae [tT 33 (((z+1:Nat):Int)<x) aE,.c (Ca (z+1) aE),iX ((z+1:Nat):Int) x aE,.a (aE:(z+1)<x),.c (um (kg (z+1)) ((je (nh a p) x).getD (z+1) gY) p aF aF aE aE),iq ((x:Int)-((z+1:Nat):Int)) aE,.o 48 (aq ((x:Int)-((z+1:Nat):Int)) ((x-(z+1):Nat):Int) aE),iX ((x-(z+1):Nat):Int) (a.length) aE,.c (um (iH (kg (z+1)) ((je (nh a p) x).getD (z+1) gY) p) (a.getD (x-(z+1)) gY) p aF aF aE aE),.c (Am (si a (je (nh a p) x) p x z) (iH (iH (kg (z+1)) ((je (nh a p) x).getD (z+1) gY) p) (a.getD (x-(z+1)) gY) p) p aF aF aE aE),
     iq (((z+1:Nat):Int)+1) aE]<|.e (af [.b 7 (.iT rfl:Bx.le (.cells 39 (iO (jS (si a (je (nh a p) x) p x z) (iH (iH (kg (z+1)) ((je (nh a p) x).getD (z+1) gY) p) (a.getD (x-(z+1)) gY) p) p))) (.cells 39 (iO (si a (je (nh a p) x) p x (z+1)))))])) aI)
  (λhz=>by
    exact iy (af [tF 33 ((((x-1)+1:Nat):Int)<x) aE]) aI) aM:jb 10 f277 (aag a p x 0) (.exit 2) ⟨76,true,[(7,.box 7 0),(6,.e (iP x)),(5,.own 15),(0,.e (ig a)),(1,.e (iP p))],[(7,.cells 39 (iO (si a (je (nh a p) x) p x (x-1)))),(15,.row true 39 x 7 (iM (je (nh a p) x)))]⟩) (af [.o 8 (aq 1 ((0+1:Nat):Int) aT),.b 7 (.iT rfl:Bx.le (.cells 39 (iO (kg 0))) (.cells 39 (iO (si a (je (nh a p) x) p x 0))))]),
     iX (x:Int) (a.length) aE,.c (Ca x aE),.c (An (si a (je (nh a p) x) p x (x-1)) (kg x) p aF aF aE aE),.c (KV (a.getD x gY) (jt (si a (je (nh a p) x) p x (x-1)) (kg x) p) p aF aF aE aE),iX 0 (a.length) aE,.c (An (sJ (a.getD x gY) (jt (si a (je (nh a p) x) p x (x-1)) (kg x) p) p) (a.getD 0 gY) p aF aF aE aE),.o 73 (.e (lV _):aj (.sl true 1 7 λi_ j_=>(iO (jt (sJ (a.getD x gY) (jt (si a (je (nh a p) x) p x (x-1)) (kg x) p) p) (a.getD 0 gY) p)).getD (i_*7+j_) (.v (.bool false))) (ig [jt (sJ (a.getD x gY) (jt (si a (je (nh a p) x) p x (x-1)) (kg x) p) p) (a.getD 0 gY) p])),.a (aE:(x+[jt (sJ (a.getD x gY) (jt (si a (je (nh a p) x) p x (x-1)) (kg x) p) p) (a.getD 0 gY) p].length)*88<=140737488355328),iq ((x:Int)+1) aE]<|.e (af [.b 15 (amd rfl (by unfold nh;rw[bj aE]):Bx.le (.row true 39 (x+[jt (sJ (a.getD x gY) (jt (si a (je (nh a p) x) p x (x-1)) (kg x) p) p) (a.getD 0 gY) p].length) 7 (λi_ j_=>if i_<x then(iM (je (nh a p) x)) i_ j_ else(E.kR (ig [jt (sJ (a.getD x gY) (jt (si a (je (nh a p) x) p x (x-1)) (kg x) p) p) (a.getD 0 gY) p])) (i_-x) j_)) (.row true 39 (x+1) 7 (iM (je (nh a p) (x+1)))))])) aI)
  (λhx=>by
    exact iy (ae [tF 27 ((a.length:Int)<a.length) aE,.z 15]<|.e (af [.o 5 (.e (zw (zo _ _).symm):aj (.sl true a.length 7 (iM (je (nh a p) a.length))) (ig (je (nh a p) a.length)))])) aI) aM:jb 6 f277 (aaf a p 1) (.exit 0) ⟨76,true,[(5,.e (ig (je (nh a p) a.length)))],[]⟩) (af [.b 15 (amc rfl:Bx.le (.row true 39 (0+[vI (a.getD 0 gY) p].length) 7 (λi_ j_=>if i_<0 then(λ_ j_=>au.getD j_ .any) i_ j_ else(E.kR (ig [vI (a.getD 0 gY) p])) (i_-0) j_)) (.row true 39 1 7 (iM (je (nh a p) 1))))])]<|rR (ig (EZ a p)) (.iT rfl:E.le (ig (je (nh a p) a.length)) (ig (EZ a p)))) 
def anA(a out:List Iv)(i k p m:Nat)(VY:1<=i)(hi:i<=k)(hk:k<a.length)(hm:k<=m)(l17:a.length<=17)(va:mH a)(vo:mH out)(il:8<=p)(ic:p<=512):gV 318 [iP i,(.iV 1 λj_=>[ig a].getD j_ .any),(.iV 1 λj_=>[iP p].getD j_ .any),(.iV 1 λj_=>[.sl true m 7 (iM out)].getD j_ .any),(.iV 1 λj_=>[iP k].getD j_ .any)] (ij (iH (iH (kg i) (a.getD i gY) p) (out.getD (k-i) gY) p)):=by
 have v1:=va i;have v2:=vo (k-i);have v3:=zC i aE;have v4:(iH (kg i) (a.getD i gY) p).ib:=oL _ _ aE aE;exact ak call318 func318 (af [.c (Ca i aE),iX (i:Int) (a.length) aE,.c (um (kg i) (a.getD i gY) p aF aF aE aE),iq ((k:Int)-i) aE,.o 18 (aq ((k:Int)-i) ((k-i:Nat):Int) aE),iX ((k-i:Nat):Int) m aE,.c (um (iH (kg i) (a.getD i gY) p) (out.getD (k-i) gY) p aF aF aE aE)]) 
def aal(a out:List Iv)(k p m:Nat)(oJ:1<=k)(hk:k<a.length)(hm:k<=m)(l17:a.length<=17)(va:mH a)(vo:mH out)(il:8<=p)(ic:p<=512):gV 317 [.sl true m 7 (iM out),(.iV 1 λj_=>[iP k].getD j_ .any),(.iV 1 λj_=>[iP p].getD j_ .any),(.iV 1 λj_=>[ig a].getD j_ .any)] (ij (rK a p k out)):=by
 have vs:=IK (aE:1<=p) (aE:p<=4096) (T:=(λi=>(iH (iH (kg i) (a.getD i gY) p) (out.getD (k-i) gY) p))) (a:=1) (k-1) λ_ _ _=>oL _ _ aE aE 
 have vw:=zC k aE;exact ak call317 func317 (ae [.c (LP 1 (k-1) p _ aE _ _ (λi=>(iH (iH (kg i) (a.getD i gY) p) (out.getD (k-i) gY) p)) aE il ic λi h1 h2=>⟨oL _ _ aE aE,anA a out i k p m h1 aE hk hm l17 va vo il ic⟩:gV 306 [iP 1,iP k,iP p,.fn 318 [(.iV 1 λj_=>[ig a].getD j_ .any),(.iV 1 λj_=>[iP p].getD j_ .any),(.iV 1 λj_=>[.sl true m 7 (iM out)].getD j_ .any),(.iV 1 λj_=>[iP k].getD j_ .any)]] _),.c (Ca k aE),.c (An (my p (λi=>(iH (iH (kg i) (a.getD i gY) p) (out.getD (k-i) gY) p)) 1 (k-1)) (kg k) p aF aF aE aE)]<|rR (ij (rK a p k out)) (.iT rfl:E.le (ij (jt (my p (λi=>(iH (iH (kg i) (a.getD i gY) p) (out.getD (k-i) gY) p)) 1 (k-1)) (kg k) p)) (ij (rK a p k out)))) 
def Z4{T y:Nat}{xs:List Iv}{v:Iv}(h:xs.length=y+1):Bx.le (.row true T ((y+1)+[v].length) 7 λi j=>if i<y+1 then iM xs i j else(E.kR (ig [v])) (i-(y+1)) j) (.row true T (y+1+1) 7 (iM (xs++[v]))):=by
 have e:=KW (T:=T) (n:=y+1) (xs:=xs) (y:=v) h.symm;have e2:(xs++[v]).length=y+1+1:=by simp[h]
 rw[e2]at e;exact e
def Z3{T:Nat}{v:Iv}{e:Nat->Nat->E}:Bx.le (.row true T (0+[v].length) 7 λa j=>if a<0 then e a j else(E.kR (ig [v])) (a-0) j) (.row true T (0+1) 7 (iM [v])):=.row rfl λi j hi hj=>by
 have hi:i<0+1:=hi;obtain rfl:i=0:= aE ;exact⟨.iT rfl,uk _ _ hj⟩
def aao(a:List Iv)(n p:Nat)(h1:1<=n)(nW:n<=17)(ha:kQ n a)(il:8<=p)(ic:p<=512)(hF:vu):gV 278 [ig a,iP p] (.iw [ig (mf a p (a.length-1)).1,ig (mf a p (a.length-1)).2]):=by
 have la:=ha.len;have va0:=ha.ok 0;have pK:=IB (aE:1<=p) (aE:p<=4096) a (a.length-1);have ah8:=qj (vJ (a.getD 0 gY) p);have ah9:=qj (vG (a.getD 0 gY) p);exact ak call278 func278 (ae [.o 11 (.e (Du _):aj (.sl true 1 1 λi_ j_=>[ig a].getD (i_*1+j_) (.v (.bool false))) (kX [a])),.c (xC [a] n aE aE aK (Cn aF)),.a (aE:0<=(0:Int)/\(0:Int)<=((a.length:Int):Int)),.a (aE:((88:Nat):Int)*(a.length:Int)<=281474976710656/\((a.length:Int):Int)<=9223372036854775807),
  iX 0 (a.length) aE,ag [ij (a.getD 0 gY),iP p] (Uy _ aF _ aE aE hF),.o 22 (.e (lV _):aj (.sl true 1 7 λi_ j_=>(iO (vJ (a.getD 0 gY) p)).getD (i_*7+j_) (.v (.bool false))) (ig [vJ (a.getD 0 gY) p])),.a (aE:(0+[vJ (a.getD 0 gY) p].length)*88<=140737488355328),.a (aE:0<=(0:Int)/\(0:Int)<=((a.length:Int):Int)),.a (aE:((88:Nat):Int)*(a.length:Int)<=281474976710656/\((a.length:Int):Int)<=9223372036854775807),iX 0 (a.length) aE,ag [ij (a.getD 0 gY),iP p] (Uu _ aF _ aE aE hF),.o 32 (.e (lV _):aj (.sl true 1 7 λi_ j_=>(iO (vG (a.getD 0 gY) p)).getD (i_*7+j_) (.v (.bool false))) (ig [vG (a.getD 0 gY) p])),.a (aE:(0+[vG (a.getD 0 gY) p].length)*88<=140737488355328),.s (Sp.jc (aaq a p) 0 (a.length-1) aE (λy hy ap2=>by
    have pK:=IB (aE:1<=p) (aE:p<=4096) a y;have vp:=Qf (aE:1<=p) (aE:p<=4096) a (mf a p y).1 (y+1);have ah8:=qj (rK a p (y+1) (mf a p y).2);have ah9:=qj (qh (rK a p (y+1) (mf a p y).1));exact iy (ae [tT 37 (((y+1:Nat):Int)<a.length) aE,ag [.sl true (y+1) 7 (iM (mf a p y).2),(.iV 1 λj_=>[iP ((y+1:Nat):Int)].getD j_ .any),(.iV 1 λj_=>[iP p].getD j_ .any),(.iV 1 λj_=>[ig a].getD j_ .any)] (aal a (mf a p y).2 (y+1) p _ aE aE aE aE ha.ok pK.2.ok il ic),.a (Hp _:wK (ij (rK a p (y+1) (mf a p y).2))),ag [.sl true (y+1) 7 (iM (mf a p y).1),(.iV 1 λj_=>[iP ((y+1:Nat):Int)].getD j_ .any),(.iV 1 λj_=>[iP p].getD j_ .any),(.iV 1 λj_=>[ig a].getD j_ .any)] (aal a (mf a p y).1 (y+1) p _ aE aE aE aE ha.ok pK.1.ok il ic),.a (Hp _:wK (ij (rK a p (y+1) (mf a p y).1))),.c (KS (rK a p (y+1) (mf a p y).1) aF),.o 50 (.e (lV _):aj (.sl true 1 7 λi_ j_=>(iO (rK a p (y+1) (mf a p y).2)).getD (i_*7+j_) (.v (.bool false))) (ig [rK a p (y+1) (mf a p y).2])),.a (aE:((y+1)+[rK a p (y+1) (mf a p y).2].length)*88<=140737488355328),.o 54 (.e (lV _):aj (.sl true 1 7 λi_ j_=>(iO (qh (rK a p (y+1) (mf a p y).1))).getD (i_*7+j_) (.v (.bool false))) (ig [qh (rK a p (y+1) (mf a p y).1)])),.a (aE:((y+1)+[qh (rK a p (y+1) (mf a p y).1)].length)*88<=140737488355328),iq (((y+1:Nat):Int)+1) aE]<|.e (af [.b 26 (Z4 pK.2.len:Bx.le (.row true 39 ((y+1)+[qh (rK a p (y+1) (mf a p y).1)].length) 7 (λi_ j_=>if i_<(y+1)then(iM (mf a p y).2) i_ j_ else(E.kR (ig [qh (rK a p (y+1) (mf a p y).1)])) (i_-(y+1)) j_)) (.row true 39 ((y+1)+1) 7 (iM (mf a p (y+1)).2))),.b 16 (Z4 pK.1.len:Bx.le (.row true 39 ((y+1)+[rK a p (y+1) (mf a p y).2].length) 7 (λi_ j_=>if i_<(y+1)then(iM (mf a p y).1) i_ j_ else(E.kR (ig [rK a p (y+1) (mf a p y).2])) (i_-(y+1)) j_)) (.row true 39 ((y+1)+1) 7 (iM (mf a p (y+1)).1)))])) aI)
  (λhy=>by
    exact iy (af [tF 37 ((((a.length-1)+1:Nat):Int)<a.length) aE]) aI) aM:jb 6 f278 (aaq a p 0) (.exit 0) ⟨59,true,[(5,.own 26),(4,.own 16)],[(26,.row true 39 ((a.length-1)+1) 7 (iM (mf a p (a.length-1)).2)),(16,.row true 39 ((a.length-1)+1) 7 (iM (mf a p (a.length-1)).1))]⟩) (af [.b 6 (.iT rfl:Bx.le (.cells 3 [iP 1]) (.cells 3 [iP ((0+1:Nat):Int)])),.b 26 (Z3:Bx.le (.row true 39 (0+[vG (a.getD 0 gY) p].length) 7 (λi_ j_=>if i_<0 then(λ_ j_=>au.getD j_ .any) i_ j_ else(E.kR (ig [vG (a.getD 0 gY) p])) (i_-0) j_)) (.row true 39 (0+1) 7 (iM (mf a p 0).2))),.b 16 (Z3:Bx.le (.row true 39 (0+[vJ (a.getD 0 gY) p].length) 7 (λi_ j_=>if i_<0 then(λ_ j_=>au.getD j_ .any) i_ j_ else(E.kR (ig [vJ (a.getD 0 gY) p])) (i_-0) j_)) (.row true 39 (0+1) 7 (iM (mf a p 0).1)))])]<|rR (.iw [ig (mf a p (a.length-1)).1,ig (mf a p (a.length-1)).2]) (.iw (.cons (zw (by rw[pK.1.len])) (.cons (zw (by rw[pK.2.len])) .nil)):E.le (.iw [.sl true ((a.length-1)+1) 7 (iM (mf a p (a.length-1)).1),.sl true ((a.length-1)+1) 7 (iM (mf a p (a.length-1)).2)]) (.iw [ig (mf a p (a.length-1)).1,ig (mf a p (a.length-1)).2]))) 
def anF(out:List Iv)(i k p m:Nat)(VY:1<=i)(hi:i<k)(hm:k<=m)(k17:k<=17)(vo:mH out)(il:8<=p)(ic:p<=512):gV 321 [iP i,(.iV 1 λ_=>.sl true m 7 (iM out)),(.iV 1 λj_=>[iP k].getD j_ .any),(.iV 1 λj_=>[iP p].getD j_ .any)] (ij (iH (out.getD i gY) (out.getD (k-i) gY) p)):=by
 have v1:=vo i;have v2:=vo (k-i);exact ak call321 func321 (af [iX (i:Int) m aE,iq ((k:Int)-i) aE,.o 13 (aq ((k:Int)-i) ((k-i:Nat):Int) aE),
  iX ((k-i:Nat):Int) m aE,.c (um (out.getD i gY) (out.getD (k-i) gY) p aF aF aE aE)]) 
def anG(a:List Iv)(n p:Nat)(h1:1<=n)(nW:n<=17)(ha:kQ n a)(il:8<=p)(ic:p<=512)(hF:vu):gV 279 [ig a,iP p] (ig (Ce a p)):=by
 have la:=ha.len;have va0:=ha.ok 0;have pQ:(λ_:Nat=>(0:Nat)) 0=0:=rfl;have Wd:=qj (pM (a.getD 0 gY) p);exact ak call279 func279 (ae [.o 10 (.e (Du _):aj (.sl true 1 1 λi_ j_=>[ig a].getD (i_*1+j_) (.v (.bool false))) (kX [a])),.c (xC [a] n aE aE aK (Cn aF)),.a (aE:0<=(0:Int)/\(0:Int)<=((a.length:Int):Int)),.a (aE:((88:Nat):Int)*(a.length:Int)<=281474976710656/\((a.length:Int):Int)<=9223372036854775807),.a (aE:0<1),
  iX 0 (a.length) aE,ag [ij (a.getD 0 gY),iP p] (UA _ aF _ aE aE hF),.o 22 (.e (lV _):aj (.sl true 1 7 λi_ j_=>(iO (pM (a.getD 0 gY) p)).getD (i_*7+j_) (.v (.bool false))) (ig [pM (a.getD 0 gY) p])),.a (aE:0<1),.a (aE:((λ_=>0) 0+[pM (a.getD 0 gY) p].length)*88<=140737488355328),.a (rfl:0=0),.a (rfl:0=0),.a (aE:0<1),.a (aE:0<1),.a (aE:0<1),.a (aK:0<=(0:Int)/\(0:Int)<(((λq=>if q=0 then(λ_=>0) q+[pM (a.getD 0 gY) p].length else(λ_=>0) q) 0:Nat):Int)),.a (aE:0<1),.a (aK:0<(λq=>if q=0 then(λ_=>0) q+[pM (a.getD 0 gY) p].length else(λ_=>0) q) 0),.c (Jm ([pM (a.getD 0 gY) p].getD 0 gY) (Gn _ _) 1 aG aG),.s (Sp.jc (aar a p) 1 a.length aE (λx hx kW=>by
    have oF:(λ_:Nat=>x) 0=x:=rfl;have pK:kQ x (je (oD a p) x):=B3 x λk l _ _=>by unfold oD;split<;>first|exact Gn _ _|exact qS _ _ aE aE 
    have vls:=KZ (aE:1<=p) (aE:p<=4096) (ha.ok x) (T:=(λi=>iH ((je (oD a p) x).getD i gY) ((je (oD a p) x).getD (x-i) gY) p)) (a:=1) (x-1) λ_ _ _=>oL _ _ aE aE 
    have vx:=ha.ok x;have vsc:(mr (pM (a.getD 0 gY) p) 1).ib:=IC (Gn _ _) 1;have qq:=qj (jt (pL p (a.getD x gY) (λi=>iH ((je (oD a p) x).getD i gY) ((je (oD a p) x).getD (x-i) gY) p) 1 (x-1)) (mr (pM (a.getD 0 gY) p) 1) p);exact iy (ae [tT 31 ((x:Int)<a.length) aE,iX (x:Int) (a.length) aE,iq ((x:Int)-1) aE,.c (aae _ (ha.ok x) 1 (x-1) p _ aE _ _ (λi=>iH ((je (oD a p) x).getD i gY) ((je (oD a p) x).getD (x-i) gY) p) aE il ic λi h1 h2=>⟨oL _ _ aE aE,anF _ i x p _ h1 aE aE aE pK.ok il ic⟩:gV 308 [ij (a.getD x gY),iP 1,iP ((x:Int)-1),iP p,.fn 321 [(.iV 1 λ_=>(.sl true ((λ_=>x) 0) 7 ((λ_=>iM (je (oD a p) x)) 0))),(.iV 1 λj_=>[iP x].getD j_ .any),(.iV 1 λj_=>[iP p].getD j_ .any)]] _),.a (Hp _:wK (ij (pL p (a.getD x gY) (λi=>iH ((je (oD a p) x).getD i gY) ((je (oD a p) x).getD (x-i) gY) p) 1 (x-1)))),.a (aE:0<1),.c (An (pL p (a.getD x gY) (λi=>iH ((je (oD a p) x).getD i gY) ((je (oD a p) x).getD (x-i) gY) p) 1 (x-1)) (mr (pM (a.getD 0 gY) p) 1) p aF aF aE aE),.o 48 (.e (lV _):aj (.sl true 1 7 λi_ j_=>(iO (jt (pL p (a.getD x gY) (λi=>iH ((je (oD a p) x).getD i gY) ((je (oD a p) x).getD (x-i) gY) p) 1 (x-1)) (mr (pM (a.getD 0 gY) p) 1) p)).getD (i_*7+j_) (.v (.bool false))) (ig [jt (pL p (a.getD x gY) (λi=>iH ((je (oD a p) x).getD i gY) ((je (oD a p) x).getD (x-i) gY) p) 1 (x-1)) (mr (pM (a.getD 0 gY) p) 1) p])),.a (aE:0<1),.a (aE:((λ_=>x) 0+[jt (pL p (a.getD x gY) (λi=>iH ((je (oD a p) x).getD i gY) ((je (oD a p) x).getD (x-i) gY) p) 1 (x-1)) (mr (pM (a.getD 0 gY) p) 1) p].length)*88<=140737488355328),.a (rfl:0=0),.a (rfl:0=0),.a (aE:0<1),iq ((x:Int)+1) aE]<|.e (af [.b 5 (QA (by unfold oD;rw[bj aE]):Bx.le (.jR true 26 39 1 7 (λq=>if q=0 then(λ_=>x) q+[jt (pL p (a.getD x gY) (λi=>iH ((je (oD a p) x).getD i gY) ((je (oD a p) x).getD (x-i) gY) p) 1 (x-1)) (mr (pM (a.getD 0 gY) p) 1) p].length else(λ_=>x) q) (λq i j=>if q=0 then(if i<(λ_=>x) q then(λ_=>iM (je (oD a p) x)) q i j else(E.kR (ig [jt (pL p (a.getD x gY) (λi=>iH ((je (oD a p) x).getD i gY) ((je (oD a p) x).getD (x-i) gY) p) 1 (x-1)) (mr (pM (a.getD 0 gY) p) 1) p])) (i-(λ_=>x) q) j)else(λ_=>iM (je (oD a p) x)) q i j) .none) (.jR true 26 39 1 7 (λ_=>(x+1)) (λ_=>iM (je (oD a p) (x+1))) .none))])) aI)
  (λhx=>by
    exact iy (af [tF 31 ((a.length:Int)<a.length) aE]) aI) aM:jb 7 f279 (aar a p 1) (.exit 0) ⟨52,true,[(5,.nF 5 1 0 0)],[(5,.jR true 26 39 1 7 (λ_=>a.length) (λ_=>iM (je (oD a p) a.length)) .none)]⟩) (af [.b 5 (Zq rfl:Bx.le (.jR true 26 39 1 7 (λq=>if q=0 then(λ_=>0) q+[pM (a.getD 0 gY) p].length else(λ_=>0) q) (λq i j=>if q=0 then(if i<(λ_=>0) q then(λ_=>λ_ j_=>au.getD j_ .any) q i j else(E.kR (ig [pM (a.getD 0 gY) p])) (i-(λ_=>0) q) j)else(λ_=>λ_ j_=>au.getD j_ .any) q i j) .none) (.jR true 26 39 1 7 (λ_=>1) (λ_=>iM (je (oD a p) 1)) .none))]),.a (aE:0<1)]<|rR (ig (Ce a p)) (zw (xs:=Ce a p) (by unfold Ce;rw[zo]):E.le (.sl true ((λ_=>a.length) 0) 7 ((λ_=>iM (je (oD a p) a.length)) 0)) (ig (Ce a p)))) 
def ID(o:np)(a b:List Iv)(n p:Nat)(h1:1<=n)(nW:n<=17)(ha:kQ n a)(hb:kQ n b)(il:8<=p)(ic:p<=512)(r1:3<=o.kind)(r2:o.kind<=13)(r3:o.n<=16)(hF:o.kind<=8\/vu):gV 237 [iP o.kind,iP o.n,ig a,ig b,iP p] (ig (nN o a b p)):=
 ak call237 func237 (.w ((o.kind:Int)=3)
  (λk1=>ae [tB 17 (bc k1),.c (anq a b n p h1 nW ha hb il ic)]<|rQ (ig (D6 a b p)) (ig (nN o a b p)) (by unfold nN;simp[(aE:o.kind=3)]))
  (λk1=>ae [tB 17 (a7 k1)]<|.w ((o.kind:Int)=4)
   (λk2=>ae [tB 23 (bc k2),.c (anI a b n p h1 nW ha hb il ic)]<|rQ (ig (FD a b p)) (ig (nN o a b p)) (by unfold nN;simp[(aE:¬o.kind=3),(aE:o.kind=4)]))
   (λk2=>ae [tB 23 (a7 k2)]<|.w ((o.kind:Int)=5)
    (λk3=>ae [tB 29 (bc k3),.c (anw a b n p h1 nW ha hb il ic)]<|rQ (ig (tK a b p)) (ig (nN o a b p)) (by unfold nN;simp[(aE:¬o.kind=3),(aE:¬o.kind=4),(aE:o.kind=5)]))
    (λk3=>ae [tB 29 (a7 k3)]<|.w ((o.kind:Int)=6)
     (λk4=>ae [tB 35 (bc k4),.c (ans a b n p h1 nW ha hb il ic)]<|rQ (ig (Bd a b p)) (ig (nN o a b p)) (by unfold nN;simp[(aE:¬o.kind=3),(aE:¬o.kind=4),(aE:¬o.kind=5),(aE:o.kind=6)]))
     (λk4=>ae [tB 35 (a7 k4)]<|.w ((o.kind:Int)=7)
      (λk5=>ae [tB 41 (bc k5),.c (anz a n h1 nW ha)]<|rQ (ig (E9 a)) (ig (nN o a b p)) (by unfold nN;simp[(aE:¬o.kind=3),(aE:¬o.kind=4),(aE:¬o.kind=5),(aE:¬o.kind=6),(aE:o.kind=7)]))
      (λk5=>ae [tB 41 (a7 k5)]<|.w ((o.kind:Int)=8)
       (λk6=>ae [tB 45 (bc k6),ag [ig a,iP o.n,iP p] (anE a n p o.n h1 nW ha il ic r3)]<|rQ (ig (tR a o.n p)) (ig (nN o a b p)) (by unfold nN;simp[(aE:¬o.kind=3),(aE:¬o.kind=4),(aE:¬o.kind=5),(aE:¬o.kind=6),(aE:¬o.kind=7),(aE:o.kind=8)]))
       (λk6=>ae [tB 45 (a7 k6)]<|.w ((o.kind:Int)=9)
        (λk7=>ae [tB 51 (bc k7),.c (anu a n p h1 nW ha il ic (hF.resolve_left aE))]<|rQ (ig (Bj a p)) (ig (nN o a b p)) (by unfold nN;simp[(aE:¬o.kind=3),(aE:¬o.kind=4),(aE:¬o.kind=5),(aE:¬o.kind=6),(aE:¬o.kind=7),(aE:¬o.kind=8),(aE:o.kind=9)]))
        (λk7=>ae [tB 51 (a7 k7)]<|.w ((o.kind:Int)=10)
         (λk8=>ae [tB 56 (bc k8),.c (anv a n p h1 nW ha il ic (hF.resolve_left aE))]<|rQ (ig (EZ a p)) (ig (nN o a b p)) (by unfold nN;simp[(aE:¬o.kind=3),(aE:¬o.kind=4),(aE:¬o.kind=5),(aE:¬o.kind=6),(aE:¬o.kind=7),(aE:¬o.kind=8),(aE:¬o.kind=9),(aE:o.kind=10)]))
         (λk8=>ae [tB 56 (a7 k8)]<|.w ((o.kind:Int)=11)
          (λk9=>ae [tB 61 (bc k9),.c (aao a n p h1 nW ha il ic (hF.resolve_left aE))]<|rQ (ig ((mf a p (a.length-1)).1)) (ig (nN o a b p)) (by unfold nN;simp[(aE:¬o.kind=3),(aE:¬o.kind=4),(aE:¬o.kind=5),(aE:¬o.kind=6),(aE:¬o.kind=7),(aE:¬o.kind=8),(aE:¬o.kind=9),(aE:¬o.kind=10),(aE:o.kind=11)]))
          (λk9=>ae [tB 61 (a7 k9)]<|.w ((o.kind:Int)=12)
           (λk10=>ae [tB 70 (bc k10),.c (aao a n p h1 nW ha il ic (hF.resolve_left aE))]<|rQ (ig ((mf a p (a.length-1)).2)) (ig (nN o a b p)) (by unfold nN;simp[(aE:¬o.kind=3),(aE:¬o.kind=4),(aE:¬o.kind=5),(aE:¬o.kind=6),(aE:¬o.kind=7),(aE:¬o.kind=8),(aE:¬o.kind=9),(aE:¬o.kind=10),(aE:¬o.kind=11),(aE:o.kind=12)]))
           (λk10=>ae [tB 70 (a7 k10)]<|.w ((o.kind:Int)=13)
            (λk11=>ae [tB 79 (bc k11),.c (anG a n p h1 nW ha il ic (hF.resolve_left aE))]<|rQ (ig (Ce a p)) (ig (nN o a b p)) (by unfold nN;simp[(aE:¬o.kind=3),(aE:¬o.kind=4),(aE:¬o.kind=5),(aE:¬o.kind=6),(aE:¬o.kind=7),(aE:¬o.kind=8),(aE:¬o.kind=9),(aE:¬o.kind=10),(aE:¬o.kind=11),(aE:¬o.kind=12),(aE:o.kind=13)]))
            (λk11=>.x aE)))))))))))) 
noncomputable def W7(t:qa)(ik:List (List Iv))(k p:Nat)(x:Nat):PS:=⟨98,true,[(21,.e (iP x)),(20,.e (iP t.gX.length)),(19,.e (kZ t.gX)),(9,.own 15),(4,.box 4 0),(2,.e (iP k)),(3,.e (iP p))],[(15,.row true 26 ((iU t.gX ik k p x).length) 1 (mI (iU t.gX ik k p x))),(4,.cells 25 [iP t.ik,kZ t.gX,kY t.iu])]⟩
noncomputable def W8(t:qa)(ik:List (List Iv))(k p:Nat)(x:Nat):PS:=⟨98,true,[(12,.own 12),(85,.e (iP x)),(84,.e (iP t.iu.length)),(83,.e (kY t.iu)),(9,.own 15)],[(12,.row true 26 (((t.iu.take x).map λj=>(iU t.gX ik k p t.gX.length).getD j []).length) 1 (mI ((t.iu.take x).map λj=>(iU t.gX ik k p t.gX.length).getD j []))),(15,.row true 26 ((iU t.gX ik k p t.gX.length).length) 1 (mI (iU t.gX ik k p t.gX.length)))]⟩
abbrev Xq(n:Nat)(M:List (List Iv)):E:=.nO false true n 1 λk _=>.nO true true (nu M k) 7 (oM M k)
def W5(s:jM)(n:Nat)(M:List (List Iv))(k:Nat)(x:Nat):PS:=⟨43,true,[(7,.own 7),(14,.e (iP x)),(13,.e (iP n)),(12,.e (Xq n M)),(3,.box 3 0),(2,.e (iP k))],[(7,.row true 26 (((M.take x).map λc=>c.take (k+1)).length) 1 (mI ((M.take x).map λc=>c.take (k+1)))),(3,.cells 28 [iP s.tape.ik,kZ s.tape.gX,kY s.tape.iu,iP s.iz,ig s.params])]⟩
def W6(s:jM)(n:Nat)(M:List (List Iv))(k:Nat)(x:Nat):PS:=⟨43,true,[(31,.e (iP x)),(30,.e (iP s.params.length)),(29,.e (ig s.params)),(7,.own 7),(2,.e (iP k))],[(7,.row true 26 (((M.map λc=>c.take (k+1))++(s.params.take x).map λa=>oj a k).length) 1 (mI ((M.map λc=>c.take (k+1))++(s.params.take x).map λa=>oj a k)))]⟩
noncomputable def oc(s:jM)(x:List Iv)(p n i:Nat):List (List Iv):=(List.range x.length).map λq=>(ji s x p n).getD q []++(if q<i then[yh s (ji s x p n) p n q]else[])
def Xa(s:jM)(x:List Iv)(k p:Nat)(w:Nat):PS:=⟨72,true,[(9,.own 9),(18,.e (iP w)),(17,.e (iP x.length)),(16,.e (ig x)),(4,.box 4 0),(2,.e (iP k)),(3,.e (iP p))],[(9,.jR true 26 39 w 7 (nu (x.map λy=>[y])) (oM (x.map λy=>[y])) .none),(4,.cells 28 [iP s.tape.ik,kZ s.tape.gX,kY s.tape.iu,iP s.iz,ig s.params])]⟩
noncomputable def Xb(s:jM)(x:List Iv)(k p:Nat)(m:Nat):PS:=⟨72,true,[(29,.e (iP m)),(28,.e (iP k)),(9,.own 9),(4,.box 4 0),(3,.e (iP p))],[(9,.jR true 26 39 x.length 7 (nu (ji s x p m)) (oM (ji s x p m)) .none),(4,.cells 28 [iP s.tape.ik,kZ s.tape.gX,kY s.tape.iu,iP s.iz,ig s.params])]⟩
noncomputable def Xc(s:jM)(x:List Iv)(k p m:Nat)(w:Nat):PS:=⟨72,true,[(47,.e (iP w)),(46,.e (iP x.length)),(14,.box 14 0),(13,.e (kX (r6 s.tape (re s (ji s x p m) m) m p))),(12,.e (iP m)),(29,.e (iP m)),(28,.e (iP k)),(9,.own 9),(4,.box 4 0),(3,.e (iP p))],[(14,.cells 39 (iO (kg (m+1)))),(9,.jR true 26 39 x.length 7 (nu (oc s x p m w)) (oM (oc s x p m w)) .none),(4,.cells 28 [iP s.tape.ik,kZ s.tape.gX,kY s.tape.iu,iP s.iz,ig s.params])]⟩
def At{T n n':Nat}{M M':List (List Iv)}{r:List Iv}{p:E}(hn:n=M.length)(vW:n'=M'.length)(hp:∀ j,j<1->p.kR 0 j=ig r)(hM:M'=M++[r]):
 Bx.le (.row true T (n+1) 1 λi j=>if i<n then mI M i j else(E.kR p) (i-n) j) (.row true T n' 1 (mI M')):=by
 subst hM vW;exact ako hn rfl hp
def akm{T n n':Nat}{M:List (List Iv)}{e:Nat->Nat->E}(hn:n=M.length)(vW:n'=M.length):Bx.le (.row true T (0+n) 1 λi j=>if i<0 then e i j else(E.kR (kX M)) (i-0) j) (.row true T n' 1 (mI M)):=by
 subst vW;refine .row aE λi j hi hj=>?_
 rw[bj (bE i),dE];exact⟨.iT rfl,W3 _⟩
def XT{T n:Nat}{e:Nat->Nat->E}{M:List (List Iv)}(h:M=[])(hn:n=M.length):Bx.le (.row true T 0 1 e) (.row true T n 1 (mI M)):=by
 subst hn h;exact .row rfl λi j hi=>absurd hi (bE i)
def Py{α β:Type}(f:α->β)(l:List α)(d:α){x:Nat}(hx:x<l.length):(l.take (x+1)).map f=(l.take x).map f++[f (l.getD x d)]:=by
 rw[aqH,bF hx,fV];congr 1;rw[bw,bF hx];rfl
def aiY(t:qa)(ik:List (List Iv))(k p:Nat)(h:zJ t)(hi:wM (k+1) ik)(hl:ik.length=t.ik)(hk:k<=16)(il:8<=p)(ic:p<=512):gV 187 [IL t,kX ik,iP k,iP p] (kX (r6 t ik k p)):=by
 have h8:=h.ik;have EN:=h.gX;have ap8:=h.iu;have Kv:=IA (p:=p) t.gX ik k t.gX.length;exact ak call187 func187 (ae [.bo,.a (aE:(0+ik.length)*24<=140737488355328),.s (Sp.jc (W7 t ik k p) 0 t.gX.length aE (λx hx kW=>by
    have iB:=h.op x aE;have Kv:=IA (p:=p) t.gX ik k x;have pK:=LI (aE:1<=p) (aE:p<=4096) h hi hl x aE;by_cases oJ:((t.gX.getD x iE)).kind=1
    .have qe:(iU t.gX ik k p (x+1))=(iU t.gX ik k p x)++[rJ (t.gX.getD x iE) (iU t.gX ik k p x) k p]:=rfl;have ot:((t.gX.getD x iE)).kind=1:=oJ;obtain⟨o1,o2,o3,tC⟩:=iB.num ot;rw[show rJ (t.gX.getD x iE) (iU t.gX ik k p x) k p=(oj (rN (t.gX.getD x iE).cn (t.gX.getD x iE).cd p) k)by unfold rJ;rw[bk ot]]at qe;exact iy (ae [tT 22 ((x:Int)<t.gX.length) aE,iX (x:Int) (t.gX.length) aE,ah 47 (((t.gX.getD x iE).kind:Int)==1) (bc aE),.c (Ze ((t.gX.getD x iE).cn) ((t.gX.getD x iE).cd) p aF aE aE),.c (Z8 (rN ((t.gX.getD x iE).cn) ((t.gX.getD x iE).cd) p) (QQ _ _ aE aE) k aE),.a (aE:((iU t.gX ik k p x).length+1)*24<=140737488355328),iq ((x:Int)+1) aE]<|.e (af [.b 15 (At rfl rfl (λj hj=>by obtain rfl:j=0:= aE;rfl) qe:Bx.le (.row true 26 ((iU t.gX ik k p x).length+1) 1 (λi_ j_=>if i_<(iU t.gX ik k p x).length then(mI (iU t.gX ik k p x)) i_ j_ else(E.kR (.sl true 1 1 λi_ j_=>[ig (oj (rN ((t.gX.getD x iE).cn) ((t.gX.getD x iE).cd) p) k)].getD (i_*1+j_) (.v (.bool false)))) (i_-(iU t.gX ik k p x).length) j_)) (.row true 26 ((iU t.gX ik k p (x+1)).length) 1 (mI (iU t.gX ik k p (x+1)))))])) aI 
    .by_cases hk:((t.gX.getD x iE)).kind<=6
     .by_cases h3:((t.gX.getD x iE)).kind=3
      .have qe:(iU t.gX ik k p (x+1))=(iU t.gX ik k p x)++[rJ (t.gX.getD x iE) (iU t.gX ik k p x) k p]:=rfl
       have ph:((t.gX.getD x iE)).kind≠1:=oJ;have ot:((t.gX.getD x iE)).kind<=6:=hk;have Ks:=iB.xY;have Kt:=iB.k3.resolve_left ph;have Kf:=iB.D4 ph;have KA:=Fh iB;have s1:=pK (t.gX.getD x iE).a aE;obtain⟨o1,o2,o3,o4,o5,o6⟩:=iB.Cp ph ot;have s2:=pK (t.gX.getD x iE).b aE;rw[show rJ (t.gX.getD x iE) (iU t.gX ik k p x) k p=(nN (t.gX.getD x iE) ((iU t.gX ik k p x).getD (t.gX.getD x iE).a []) ((iU t.gX ik k p x).getD ((t.gX.getD x iE).b) []) p)by unfold rJ yG;rw[bj ph,bn ot];rfl]at qe;exact iy (ae [tT 22 ((x:Int)<t.gX.length) aE,iX (x:Int) (t.gX.length) aE,ai 47 (((t.gX.getD x iE).kind:Int)==1) (a7 aE),ah 58 (((t.gX.getD x iE).kind:Int)==3) (bc aE),iX ((t.gX.getD x iE).a:Int) ((iU t.gX ik k p x).length) aE,.a (aE:(t.gX.getD x iE).a<(iU t.gX ik k p x).length),iX ((t.gX.getD x iE).b:Int) ((iU t.gX ik k p x).length) aE,.a (aE:(t.gX.getD x iE).b<(iU t.gX ik k p x).length),ag [iP ((t.gX.getD x iE).kind:Int),iP ((t.gX.getD x iE).n:Int),ig ((iU t.gX ik k p x).getD ((t.gX.getD x iE).a) []),ig ((iU t.gX ik k p x).getD ((t.gX.getD x iE).b) []),iP p] (ID (t.gX.getD x iE) _ _ (k+1) p aE aE aF aF il ic aE aE aE iB.f),.a (aE:((iU t.gX ik k p x).length+1)*24<=140737488355328),iq ((x:Int)+1) aE]<|.e (af [.b 15 (At rfl rfl (λj hj=>by obtain rfl:j=0:= aE;rfl) qe:Bx.le (.row true 26 ((iU t.gX ik k p x).length+1) 1 (λi_ j_=>if i_<(iU t.gX ik k p x).length then(mI (iU t.gX ik k p x)) i_ j_ else(E.kR (.sl true 1 1 λi_ j_=>[ig (nN (t.gX.getD x iE) ((iU t.gX ik k p x).getD ((t.gX.getD x iE).a) []) ((iU t.gX ik k p x).getD ((t.gX.getD x iE).b) []) p)].getD (i_*1+j_) (.v (.bool false)))) (i_-(iU t.gX ik k p x).length) j_)) (.row true 26 ((iU t.gX ik k p (x+1)).length) 1 (mI (iU t.gX ik k p (x+1)))))])) aI 
      .by_cases h4:((t.gX.getD x iE)).kind=4
       .have qe:(iU t.gX ik k p (x+1))=(iU t.gX ik k p x)++[rJ (t.gX.getD x iE) (iU t.gX ik k p x) k p]:=rfl;have ph:((t.gX.getD x iE)).kind≠1:=oJ;have ot:((t.gX.getD x iE)).kind<=6:=hk;have Ks:=iB.xY;have Kt:=iB.k3.resolve_left ph;have Kf:=iB.D4 ph;have KA:=Fh iB;have s1:=pK (t.gX.getD x iE).a aE;obtain⟨o1,o2,o3,o4,o5,o6⟩:=iB.Cp ph ot;have s2:=pK (t.gX.getD x iE).b aE;rw[show rJ (t.gX.getD x iE) (iU t.gX ik k p x) k p=(nN (t.gX.getD x iE) ((iU t.gX ik k p x).getD (t.gX.getD x iE).a []) ((iU t.gX ik k p x).getD ((t.gX.getD x iE).b) []) p)by unfold rJ yG;rw[bj ph,bn ot];rfl]at qe;exact iy (ae [tT 22 ((x:Int)<t.gX.length) aE,iX (x:Int) (t.gX.length) aE,ai 47 (((t.gX.getD x iE).kind:Int)==1) (a7 aE),ai 58 (((t.gX.getD x iE).kind:Int)==3) (a7 aE),ah 59 (((t.gX.getD x iE).kind:Int)==4) (bc aE),
         iX ((t.gX.getD x iE).a:Int) ((iU t.gX ik k p x).length) aE,.a (aE:(t.gX.getD x iE).a<(iU t.gX ik k p x).length),
         iX ((t.gX.getD x iE).b:Int) ((iU t.gX ik k p x).length) aE,.a (aE:(t.gX.getD x iE).b<(iU t.gX ik k p x).length),ag [iP ((t.gX.getD x iE).kind:Int),iP ((t.gX.getD x iE).n:Int),ig ((iU t.gX ik k p x).getD ((t.gX.getD x iE).a) []),ig ((iU t.gX ik k p x).getD ((t.gX.getD x iE).b) []),iP p] (ID (t.gX.getD x iE) _ _ (k+1) p aE aE aF aF il ic aE aE aE iB.f),.a (aE:((iU t.gX ik k p x).length+1)*24<=140737488355328),iq ((x:Int)+1) aE]<|.e (af [.b 15 (At rfl rfl (λj hj=>by obtain rfl:j=0:= aE;rfl) qe:Bx.le (.row true 26 ((iU t.gX ik k p x).length+1) 1 (λi_ j_=>if i_<(iU t.gX ik k p x).length then(mI (iU t.gX ik k p x)) i_ j_ else(E.kR (.sl true 1 1 λi_ j_=>[ig (nN (t.gX.getD x iE) ((iU t.gX ik k p x).getD ((t.gX.getD x iE).a) []) ((iU t.gX ik k p x).getD ((t.gX.getD x iE).b) []) p)].getD (i_*1+j_) (.v (.bool false)))) (i_-(iU t.gX ik k p x).length) j_)) (.row true 26 ((iU t.gX ik k p (x+1)).length) 1 (mI (iU t.gX ik k p (x+1)))))])) aI 
       .by_cases h5:((t.gX.getD x iE)).kind=5
        .have qe:(iU t.gX ik k p (x+1))=(iU t.gX ik k p x)++[rJ (t.gX.getD x iE) (iU t.gX ik k p x) k p]:=rfl
         have ph:((t.gX.getD x iE)).kind≠1:=oJ;have ot:((t.gX.getD x iE)).kind<=6:=hk;have Ks:=iB.xY;have Kt:=iB.k3.resolve_left ph;have Kf:=iB.D4 ph;have KA:=Fh iB;have s1:=pK (t.gX.getD x iE).a aE;obtain⟨o1,o2,o3,o4,o5,o6⟩:=iB.Cp ph ot;have s2:=pK (t.gX.getD x iE).b aE;rw[show rJ (t.gX.getD x iE) (iU t.gX ik k p x) k p=(nN (t.gX.getD x iE) ((iU t.gX ik k p x).getD (t.gX.getD x iE).a []) ((iU t.gX ik k p x).getD ((t.gX.getD x iE).b) []) p)by unfold rJ yG;rw[bj ph,bn ot];rfl]at qe;exact iy (ae [tT 22 ((x:Int)<t.gX.length) aE,iX (x:Int) (t.gX.length) aE,ai 47 (((t.gX.getD x iE).kind:Int)==1) (a7 aE),ai 58 (((t.gX.getD x iE).kind:Int)==3) (a7 aE),ai 59 (((t.gX.getD x iE).kind:Int)==4) (a7 aE),ah 60 (((t.gX.getD x iE).kind:Int)==5) (bc aE),iX ((t.gX.getD x iE).a:Int) ((iU t.gX ik k p x).length) aE,.a (aE:(t.gX.getD x iE).a<(iU t.gX ik k p x).length),iX ((t.gX.getD x iE).b:Int) ((iU t.gX ik k p x).length) aE,.a (aE:(t.gX.getD x iE).b<(iU t.gX ik k p x).length),ag [iP ((t.gX.getD x iE).kind:Int),iP ((t.gX.getD x iE).n:Int),ig ((iU t.gX ik k p x).getD ((t.gX.getD x iE).a) []),ig ((iU t.gX ik k p x).getD ((t.gX.getD x iE).b) []),iP p] (ID (t.gX.getD x iE) _ _ (k+1) p aE aE aF aF il ic aE aE aE iB.f),.a (aE:((iU t.gX ik k p x).length+1)*24<=140737488355328),iq ((x:Int)+1) aE]<|.e (af [.b 15 (At rfl rfl (λj hj=>by obtain rfl:j=0:= aE;rfl) qe:Bx.le (.row true 26 ((iU t.gX ik k p x).length+1) 1 (λi_ j_=>if i_<(iU t.gX ik k p x).length then(mI (iU t.gX ik k p x)) i_ j_ else(E.kR (.sl true 1 1 λi_ j_=>[ig (nN (t.gX.getD x iE) ((iU t.gX ik k p x).getD ((t.gX.getD x iE).a) []) ((iU t.gX ik k p x).getD ((t.gX.getD x iE).b) []) p)].getD (i_*1+j_) (.v (.bool false)))) (i_-(iU t.gX ik k p x).length) j_)) (.row true 26 ((iU t.gX ik k p (x+1)).length) 1 (mI (iU t.gX ik k p (x+1)))))])) aI 
        .have qe:(iU t.gX ik k p (x+1))=(iU t.gX ik k p x)++[rJ (t.gX.getD x iE) (iU t.gX ik k p x) k p]:=rfl;have ph:((t.gX.getD x iE)).kind≠1:=oJ;have ot:((t.gX.getD x iE)).kind<=6:=hk;have Ks:=iB.xY;have Kt:=iB.k3.resolve_left ph;have Kf:=iB.D4 ph;have KA:=Fh iB;have s1:=pK (t.gX.getD x iE).a aE;obtain⟨o1,o2,o3,o4,o5,o6⟩:=iB.Cp ph ot;have s2:=pK (t.gX.getD x iE).b aE;rw[show rJ (t.gX.getD x iE) (iU t.gX ik k p x) k p=(nN (t.gX.getD x iE) ((iU t.gX ik k p x).getD (t.gX.getD x iE).a []) ((iU t.gX ik k p x).getD ((t.gX.getD x iE).b) []) p)by unfold rJ yG;rw[bj ph,bn ot];rfl]at qe;exact iy (ae [tT 22 ((x:Int)<t.gX.length) aE,iX (x:Int) (t.gX.length) aE,ai 47 (((t.gX.getD x iE).kind:Int)==1) (a7 aE),ai 58 (((t.gX.getD x iE).kind:Int)==3) (a7 aE),ai 59 (((t.gX.getD x iE).kind:Int)==4) (a7 aE),ai 60 (((t.gX.getD x iE).kind:Int)==5) (a7 aE),ah 61 (((t.gX.getD x iE).kind:Int)==6) (bc aE),
          iX ((t.gX.getD x iE).a:Int) ((iU t.gX ik k p x).length) aE,.a (aE:(t.gX.getD x iE).a<(iU t.gX ik k p x).length),
          iX ((t.gX.getD x iE).b:Int) ((iU t.gX ik k p x).length) aE,.a (aE:(t.gX.getD x iE).b<(iU t.gX ik k p x).length),ag [iP ((t.gX.getD x iE).kind:Int),iP ((t.gX.getD x iE).n:Int),ig ((iU t.gX ik k p x).getD ((t.gX.getD x iE).a) []),ig ((iU t.gX ik k p x).getD ((t.gX.getD x iE).b) []),iP p] (ID (t.gX.getD x iE) _ _ (k+1) p aE aE aF aF il ic aE aE aE iB.f),.a (aE:((iU t.gX ik k p x).length+1)*24<=140737488355328),iq ((x:Int)+1) aE]<|.e (af [.b 15 (At rfl rfl (λj hj=>by obtain rfl:j=0:= aE;rfl) qe:Bx.le (.row true 26 ((iU t.gX ik k p x).length+1) 1 (λi_ j_=>if i_<(iU t.gX ik k p x).length then(mI (iU t.gX ik k p x)) i_ j_ else(E.kR (.sl true 1 1 λi_ j_=>[ig (nN (t.gX.getD x iE) ((iU t.gX ik k p x).getD ((t.gX.getD x iE).a) []) ((iU t.gX ik k p x).getD ((t.gX.getD x iE).b) []) p)].getD (i_*1+j_) (.v (.bool false)))) (i_-(iU t.gX ik k p x).length) j_)) (.row true 26 ((iU t.gX ik k p (x+1)).length) 1 (mI (iU t.gX ik k p (x+1)))))])) aI 
     .have qe:(iU t.gX ik k p (x+1))=(iU t.gX ik k p x)++[rJ (t.gX.getD x iE) (iU t.gX ik k p x) k p]:=rfl;have ph:((t.gX.getD x iE)).kind≠1:=oJ;have ot:¬((t.gX.getD x iE)).kind<=6:=hk;have Ks:=iB.xY;have Kt:=iB.k3.resolve_left ph;have Kf:=iB.D4 ph;have KA:=Fh iB;have s1:=pK (t.gX.getD x iE).a aE;rw[show rJ (t.gX.getD x iE) (iU t.gX ik k p x) k p=(nN (t.gX.getD x iE) ((iU t.gX ik k p x).getD (t.gX.getD x iE).a []) ((iU t.gX ik k p x).getD ((t.gX.getD x iE).a) []) p)by unfold rJ yG;rw[bj ph,bt ot];rfl]at qe;exact iy (ae [tT 22 ((x:Int)<t.gX.length) aE,iX (x:Int) (t.gX.length) aE,ai 47 (((t.gX.getD x iE).kind:Int)==1) (a7 aE),ai 58 (((t.gX.getD x iE).kind:Int)==3) (a7 aE),ai 59 (((t.gX.getD x iE).kind:Int)==4) (a7 aE),ai 60 (((t.gX.getD x iE).kind:Int)==5) (a7 aE),ai 61 (((t.gX.getD x iE).kind:Int)==6) (a7 aE),
       iX ((t.gX.getD x iE).a:Int) ((iU t.gX ik k p x).length) aE,.a (aE:(t.gX.getD x iE).a<(iU t.gX ik k p x).length),
       iX ((t.gX.getD x iE).a:Int) ((iU t.gX ik k p x).length) aE,.a (aE:(t.gX.getD x iE).a<(iU t.gX ik k p x).length),ag [iP ((t.gX.getD x iE).kind:Int),iP ((t.gX.getD x iE).n:Int),ig ((iU t.gX ik k p x).getD ((t.gX.getD x iE).a) []),ig ((iU t.gX ik k p x).getD ((t.gX.getD x iE).a) []),iP p] (ID (t.gX.getD x iE) _ _ (k+1) p aE aE aF aF il ic aE aE aE iB.f),.a (aE:((iU t.gX ik k p x).length+1)*24<=140737488355328),iq ((x:Int)+1) aE]<|.e (af [.b 15 (At rfl rfl (λj hj=>by obtain rfl:j=0:= aE;rfl) qe:Bx.le (.row true 26 ((iU t.gX ik k p x).length+1) 1 (λi_ j_=>if i_<(iU t.gX ik k p x).length then(mI (iU t.gX ik k p x)) i_ j_ else(E.kR (.sl true 1 1 λi_ j_=>[ig (nN (t.gX.getD x iE) ((iU t.gX ik k p x).getD ((t.gX.getD x iE).a) []) ((iU t.gX ik k p x).getD ((t.gX.getD x iE).a) []) p)].getD (i_*1+j_) (.v (.bool false)))) (i_-(iU t.gX ik k p x).length) j_)) (.row true 26 ((iU t.gX ik k p (x+1)).length) 1 (mI (iU t.gX ik k p (x+1)))))])) aI)
  (λhx=>by
    exact iy (af [tF 22 ((t.gX.length:Int)<t.gX.length) aE]) aI) aM:jb 3 f187 (W7 t ik k p 0) (.exit 0) ⟨98,true,[(9,.own 15),(4,.box 4 0)],[(15,.row true 26 ((iU t.gX ik k p t.gX.length).length) 1 (mI (iU t.gX ik k p t.gX.length))),(4,.cells 25 [iP t.ik,kZ t.gX,kY t.iu])]⟩) (af [.b 15 (akm rfl rfl:Bx.le (.row true 26 (0+ik.length) 1 (λi_ j_=>if i_<0 then(λi_ j_=>([]:List E).getD (i_*1+j_) (.v (.bool false))) i_ j_ else(E.kR (kX ik)) (i_-0) j_)) (.row true 26 ((iU t.gX ik k p 0).length) 1 (mI (iU t.gX ik k p 0))))]),.y 12 12 true 26 1 (mI []),.s (Sp.jc (W8 t ik k p) 0 t.iu.length aE (λx hx kW=>by
    have ho_:=h.out x aE;have ap1:((t.iu.take x).map λj=>(iU t.gX ik k p t.gX.length).getD j []).length<=200:=by rw[cB,cw];omega
    exact iy (ae [tT 86 ((x:Int)<t.iu.length) aE,iX (x:Int) (t.iu.length) aE,iX (t.iu.getD x 0:Int) ((iU t.gX ik k p t.gX.length).length) aE,.a (aE:(t.iu.getD x 0)<(iU t.gX ik k p t.gX.length).length),.a (aE:(((t.iu.take x).map λj=>(iU t.gX ik k p t.gX.length).getD j []).length+1)*24<=140737488355328),
     iq ((x:Int)+1) aE]<|.e (af [.b 12 (At rfl rfl (λj hj=>by obtain rfl:j=0:= aE;rfl) (Py _ t.iu 0 aE):Bx.le (.row true 26 (((t.iu.take x).map λj=>(iU t.gX ik k p t.gX.length).getD j []).length+1) 1 (λi_ j_=>if i_<((t.iu.take x).map λj=>(iU t.gX ik k p t.gX.length).getD j []).length then(mI ((t.iu.take x).map λj=>(iU t.gX ik k p t.gX.length).getD j [])) i_ j_ else(E.kR (.sl true 1 1 λi_ j_=>[ig ((iU t.gX ik k p t.gX.length).getD (t.iu.getD x 0) [])].getD (i_*1+j_) (.v (.bool false)))) (i_-((t.iu.take x).map λj=>(iU t.gX ik k p t.gX.length).getD j []).length) j_)) (.row true 26 (((t.iu.take (x+1)).map λj=>(iU t.gX ik k p t.gX.length).getD j []).length) 1 (mI ((t.iu.take (x+1)).map λj=>(iU t.gX ik k p t.gX.length).getD j []))))])) aI)
  (λhx=>by
    exact iy (ae [tF 86 ((t.iu.length:Int)<t.iu.length) aE,.z 12]<|.e (af [.o 12 (.e (XU rfl):aj (.sl true (((t.iu.take t.iu.length).map λj=>(iU t.gX ik k p t.gX.length).getD j []).length) 1 (mI ((t.iu.take t.iu.length).map λj=>(iU t.gX ik k p t.gX.length).getD j []))) (kX ((t.iu.take t.iu.length).map λj=>(iU t.gX ik k p t.gX.length).getD j [])))])) aI) aM:jb 17 f187 (W8 t ik k p 0) (.exit 3) ⟨98,true,[(12,.e (kX ((t.iu.take t.iu.length).map λj=>(iU t.gX ik k p t.gX.length).getD j [])))],[]⟩) (af [.b 12 (XT aK rfl:Bx.le (.row true 26 0 1 (mI [])) (.row true 26 (((t.iu.take 0).map λj=>(iU t.gX ik k p t.gX.length).getD j []).length) 1 (mI ((t.iu.take 0).map λj=>(iU t.gX ik k p t.gX.length).getD j []))))])]<|rQ (kX ((t.iu.take t.iu.length).map λj=>(iU t.gX ik k p t.gX.length).getD j [])) (kX (r6 t ik k p)) (by unfold r6;rw[e9])) 
def aoD{M:List (List Iv)}{x q m:Nat}{e:Nat->Nat->E}(hq:q=m)(hm:m<=(M.getD x []).length):E.le (.sl true (0+q) 7 λi j=>if i<0 then e i j else oM M x (i-0) j) (ig ((M.getD x []).take m)):=by
 subst hq;have hl:((M.getD x []).take q).length=0+q:=by rw[cw];omega
 unfold ig;rw[hl];refine .sl λi j hi hj=>?_
 rw[bj (bE i),dE];refine⟨.iT ?_,uk _ _ hj⟩;show(iO ((M.getD x []).getD i gY)).getD j .any=(iO (((M.getD x []).take q).getD i gY)).getD j .any;congr 2;simp only[bw];rw[List.getElem?_take_of_lt aE]
def aiX(s:jM)(n k:Nat)(M:List (List Iv))(h:mh s)(hn:n=M.length)(hn8:n<=8)(hk:k<=16)(hM:∀ i,i<n->k+1<=(M.getD i []).length)(ahI:∀ i,i<n->(M.getD i []).length<=17):gV 188 [lE s,Xq n M,iP k] (kX (re s M k)):=by
 have p4:=h.p4;exact ak call188 func188 (ae [.y 7 7 true 26 1 (mI []),.s (Sp.jc (W5 s n M k) 0 n aE (λx hx kW=>by
    have Af:nu M x=(M.getD x []).length:=rfl;have hmx:=hM x aE;have ap6:=ahI x aE;have hla:((M.take x).map λc=>c.take (k+1)).length<=8:=by rw[cB,cw];omega
    exact iy (ae [tT 15 ((x:Int)<n) aE,iX (x:Int) n aE,.bo,iq ((k:Int)+1) aE,.a (aE:0<=(((k+1:Nat):Int):Int)/\(((k+1:Nat):Int):Int)<=(nu M x:Int)),.bo,.a (aE:(0+(k+1))*88<=140737488355328),.o 24 (.e (aoD aE hmx):aj (.sl true (0+(k+1)) 7 (λi_ j_=>if i_<0 then(λi_ j_=>([]:List E).getD (i_*7+j_) (.v (.bool false))) i_ j_ else(E.kR (.nO true true (k+1) 7 (E.kR (.nO true true (nu M x) 7 (oM M x))))) (i_-0) j_)) (ig ((M.getD x []).take (k+1)))),.o 25 (.refl _:aj (.sl true 1 1 λi_ j_=>[ig ((M.getD x []).take (k+1))].getD (i_*1+j_) (.v (.bool false))) (.sl true 1 1 λi_ j_=>[ig ((M.getD x []).take (k+1))].getD (i_*1+j_) (.v (.bool false)))),.a (aE:(((M.take x).map λc=>c.take (k+1)).length+1)*24<=140737488355328),iq ((x:Int)+1) aE]<|.e (af [.b 7 (At rfl rfl (λj hj=>by obtain rfl:j=0:= aE;rfl) (Py _ M [] aE):Bx.le (.row true 26 (((M.take x).map λc=>c.take (k+1)).length+1) 1 (λi_ j_=>if i_<((M.take x).map λc=>c.take (k+1)).length then(mI ((M.take x).map λc=>c.take (k+1))) i_ j_ else(E.kR (.sl true 1 1 λi_ j_=>[ig ((M.getD x []).take (k+1))].getD (i_*1+j_) (.v (.bool false)))) (i_-((M.take x).map λc=>c.take (k+1)).length) j_)) (.row true 26 (((M.take (x+1)).map λc=>c.take (k+1)).length) 1 (mI ((M.take (x+1)).map λc=>c.take (k+1)))))])) aI)
  (λhx=>by
    exact iy (af [tF 15 ((n:Int)<n) aE]) aI) aM:jb 3 f188 (W5 s n M k 0) (.exit 0) ⟨43,true,[(7,.own 7),(3,.box 3 0),(2,.e (iP k))],[(7,.row true 26 (((M.take n).map λc=>c.take (k+1)).length) 1 (mI ((M.take n).map λc=>c.take (k+1)))),(3,.cells 28 [iP s.tape.ik,kZ s.tape.gX,kY s.tape.iu,iP s.iz,ig s.params])]⟩) (af [.b 7 (XT aK rfl:Bx.le (.row true 26 0 1 (mI [])) (.row true 26 (((M.take 0).map λc=>c.take (k+1)).length) 1 (mI ((M.take 0).map λc=>c.take (k+1)))))]),.s (Sp.jc (W6 s n M k) 0 s.params.length aE (λx hx kW=>by
    have vp:=(h.params x aE).1;have GR:((M.map λc=>c.take (k+1))++(s.params.take x).map λa=>oj a k).length<=16:=by rw[cz,cB,cB,cw];omega
    exact iy (ae [tT 32 ((x:Int)<s.params.length) aE,iX (x:Int) (s.params.length) aE,.c (Z8 (s.params.getD x gY) aF k aE),.a (aE:(((M.map λc=>c.take (k+1))++(s.params.take x).map λa=>oj a k).length+1)*24<=140737488355328),iq ((x:Int)+1) aE]<|.e (af [.b 7 (At rfl rfl (λj hj=>by obtain rfl:j=0:= aE;rfl) (by rw[Py (λa=>oj a k) s.params gY aE,aqz]):Bx.le (.row true 26 (((M.map λc=>c.take (k+1))++(s.params.take x).map λa=>oj a k).length+1) 1 (λi_ j_=>if i_<((M.map λc=>c.take (k+1))++(s.params.take x).map λa=>oj a k).length then(mI ((M.map λc=>c.take (k+1))++(s.params.take x).map λa=>oj a k)) i_ j_ else(E.kR (.sl true 1 1 λi_ j_=>[ig (oj (s.params.getD x gY) k)].getD (i_*1+j_) (.v (.bool false)))) (i_-((M.map λc=>c.take (k+1))++(s.params.take x).map λa=>oj a k).length) j_)) (.row true 26 (((M.map λc=>c.take (k+1))++(s.params.take (x+1)).map λa=>oj a k).length) 1 (mI ((M.map λc=>c.take (k+1))++(s.params.take (x+1)).map λa=>oj a k))))])) aI)
  (λhx=>by
    exact iy (ae [tF 32 ((s.params.length:Int)<s.params.length) aE,.z 7]<|.e (af [.o 7 (.e (XU rfl):aj (.sl true (((M.map λc=>c.take (k+1))++(s.params.take s.params.length).map λa=>oj a k).length) 1 (mI ((M.map λc=>c.take (k+1))++(s.params.take s.params.length).map λa=>oj a k))) (kX ((M.map λc=>c.take (k+1))++(s.params.take s.params.length).map λa=>oj a k)))])) aI) aM:jb 8 f188 (W6 s n M k 0) (.exit 2) ⟨43,true,[(7,.e (kX ((M.map λc=>c.take (k+1))++(s.params.take s.params.length).map λa=>oj a k)))],[]⟩) (af [.b 7 (Bx.le.iT (by rw[hn,e9];simp):Bx.le (.row true 26 (((M.take n).map λc=>c.take (k+1)).length) 1 (mI ((M.take n).map λc=>c.take (k+1)))) (.row true 26 (((M.map λc=>c.take (k+1))++(s.params.take 0).map λa=>oj a k).length) 1 (mI ((M.map λc=>c.take (k+1))++(s.params.take 0).map λa=>oj a k))))])]<|rQ (kX ((M.map λc=>c.take (k+1))++(s.params.take s.params.length).map λa=>oj a k)) (kX (re s M k)) (by unfold re;rw[e9])) 
def ur(s:jM)(x:List Iv)(p:Nat):∀ n,(ji s x p n).length=x.length
 | 0=>by simp[ji]
 |n+1=>by simp[ji]
def W9(s:jM)(x:List Iv)(p n i:Nat):(oc s x p n i).length=x.length:=by simp[oc]
def KX{s:jM}{x:List Iv}{p n i q:Nat}(h:q<x.length):(oc s x p n i).getD q []=(ji s x p n).getD q []++(if q<i then[yh s (ji s x p n) p n q]else[]):=by
 simp[oc,bw,h]
def ai2(s:jM)(x:List Iv)(p n:Nat):oc s x p n 0=ji s x p n:=by
 have hl:=ur s x p n;apply gw (by rw[W9,hl]);intro q h1 h2;have h3:q<x.length:=by rw[W9]at h1;exact h1
 have e:=KX (s:=s) (p:=p) (n:=n) (i:=0) h3;rw[bj (bE q),fW]at e;rw[bw,bF h1,bw,bF h2]at e;exact e
def ai0(s:jM)(x:List Iv)(p n:Nat):oc s x p n x.length=ji s x p (n+1):=by
 unfold oc;show _=(List.range x.length).map λi=>(ji s x p n).getD i []++[yh s (ji s x p n) p n i]
 exact eX λq hq=>by rw[bk (b5.1 hq)]
def Dk{s:jM}(h:mh s){x:List Iv}(hx:kG s.iz x){p:Nat}(il:8<=p)(ic:p<=512):∀ n,n<=16->wM (n+1) (ji s x p n)
 | 0,_=>λi hi=>by
  have mS:i<x.length:=by rw[ur]at hi;exact hi
  have e:(ji s x p 0).getD i []=[x.getD i gY]:=by simp[ji,bw,mS]
  rw[e];exact⟨rfl,mH.push mH.nil (hx.ok i mS).1⟩
 |n+1,hn=>λi hi=>by
  have mS:i<x.length:=by rw[ur]at hi;exact hi
  have e:(ji s x p (n+1)).getD i []=(ji s x p n).getD i []++[yh s (ji s x p n) p n i]:=by simp[ji,bw,mS]
  have hs:=Dk h hx il ic n aE i (by rw[ur];exact mS);rw[e];refine⟨by rw[cz,hs.len];rfl,hs.ok.push ?_⟩;unfold yh;exact qS _ _ aE aE 
def aiu{s:jM}(h:mh s){M:List (List Iv)}{n:Nat}(hM:wM (n+1) M)(hl:M.length=s.iz):wM (n+1) (re s M n)/\(re s M n).length=s.tape.ik:=by
 refine⟨λi hi=>?_,by unfold re;rw[cz,cB,cB,h.ik,hl]⟩;unfold re at hi ⊢;rw[cz,cB,cB]at hi;rw[bw,eU,cB];split
 .rename_i h1;rw[cF,bF h1];have:=hM i h1;rw[bw,bF h1]at this;show kQ (n+1) ((M[i]).take (n+1));rw[cK (by have:=this.len;simp at this;omega)];exact this
 .rename_i h1;have h2:i-M.length<s.params.length:= aE ;rw[cF,bF h2];have:=(h.params _ h2).1;rw[bw,bF h2]at this;exact Tx this n
def am9{T1 T0 n x:Nat}{M M':List (List Iv)}{y:Iv}(h:∀ q,q<n->M'.getD q []=if q=x then M.getD q []++[y]else M.getD q []):
 Bx.le (.jR true T1 T0 n 7 (λq=>if q=x then nu M q+[y].length else nu M q) (λq i j=>if q=x then(if i<nu M q then oM M q i j else(E.kR (ig [y])) (i-nu M q) j)else oM M q i j) none)
  (.jR true T1 T0 n 7 (nu M') (oM M') none):=by
 refine .jR rfl (λq hq=>?_) (λq i j hq hi hj=>⟨.iT ?_,uk _ _ hj⟩)
 .simp only[nu,h q hq];split
  .rw [cz]
  .rfl
 .simp only[oM,nu,h q hq]at hi ⊢;by_cases e:q=x
  .rw [bk e]at hi;rw[bk e,bk e];by_cases iC:i<(M.getD q []).length
   .rw [bk iC];congr 2;simp only[bw]at iC ⊢;rw[dH iC]
   .rw [bj iC];have CT:i=(M.getD q []).length:=by
     rw[fR]at hi;omega
    subst CT;rw[dq];show(iO y).getD j .any=_;congr 2;simp[bw]
  .rw [bj e,bj e]
def aiJ(y:Iv)(j:Nat)(hj:j<7):(iO y).getD (0*7+j) (.v (.bool false))=(iO y).getD j .any:=by
 rcases j with _|_|_|_|_|_|_|j
 all_goals first|rfl|omega
def am8{T1 T0 x:Nat}{X:List Iv}{e:Nat->Nat->E}(hx:x<X.length)(he:∀ j,j<7->e 0 j=(iO (X.getD x gY)).getD j .any):
 Bx.le (.jR true T1 T0 (x+1) 7 (λk=>if k<x then nu (X.map λy=>[y]) k else 1) (λk=>if k<x then oM (X.map λy=>[y]) k else e) none) (.jR true T1 T0 (x+1) 7 (nu (X.map λy=>[y])) (oM (X.map λy=>[y])) none):=by
 have e0:(X.map λy=>[y]).getD x []=[X.getD x gY]:=by simp[bw,hx]
 refine .jR rfl (λk hk=>?_) (λk i j hk hi hj=>⟨.iT ?_,uk _ _ hj⟩)
 .by_cases h:k<x
  .rw [bk h]
  .obtain rfl:k=x:= aE ;rw[bj h];simp only[nu,e0];rfl
 .by_cases h:k<x
  .rw [bk h]
  .obtain rfl:k=x:= aE ;simp only[h,bC]at hi ⊢;obtain rfl:i=0:= aE ;rw[he j hj];simp only[oM,e0];rfl
def ai1{s:jM}{x:List Iv}{p n i:Nat}(q:Nat)(hq:q<x.length):(oc s x p n (i+1)).getD q []=if q=i then(oc s x p n i).getD q []++[yh s (ji s x p n) p n q]else(oc s x p n i).getD q []:=by
 rw[KX hq,KX hq];by_cases h:q=i
 .subst h;rw[bk rfl,bk (eC _),bj (Nat.lt_irrefl _),fW]
 .rw [bj h];by_cases h2:q<i
  .rw [bk h2,bk aE]
  .rw [bj h2,bj aE]
def ai4(s:jM)(x:List Iv)(k p:Nat)(h:mh s)(hx:kG s.iz x)(hk:k<=16)(il:8<=p)(ic:p<=512):gV 115 [lE s,ig x,iP k,iP p] (kX (ji s x p k)):=by
 have s4:=h.s4;have lx:=hx.len;exact ak call115 func115 (ae [.y 9 9 true 26 1 (mI []),.s (Sp.jc (Xa s x k p) 0 x.length aE (λw hw ah2=>by
    have vx:=hx.ok w aE;exact iy (ae [tT 19 ((w:Int)<x.length) aE,iX (w:Int) (x.length) aE,.bo,.a (aE:0<1),.a (aE:(w+1)*24<=140737488355328),iq ((w:Int)+1) aE]<|.e (af [.b 9 (am8 aE λj hj=>aiJ _ j hj:Bx.le (.jR true 26 39 (w+1) 7 (λk_=>if k_<w then(nu (x.map λy=>[y])) k_ else(λ_=>1) (k_-w)) (λk_=>if k_<w then(oM (x.map λy=>[y])) k_ else(λ_=>λi_ j_=>(iO (x.getD w gY)).getD (i_*7+j_) (.v (.bool false))) (k_-w)) .none) (.jR true 26 39 (w+1) 7 (nu (x.map λy=>[y])) (oM (x.map λy=>[y])) .none))])) aI)
  (λhw=>by
    exact iy (af [tF 19 ((x.length:Int)<x.length) aE]) aI) aM:jb 3 f115 (Xa s x k p 0) (.exit 0) ⟨72,true,[(9,.own 9),(4,.box 4 0),(2,.e (iP k)),(3,.e (iP p))],[(9,.jR true 26 39 x.length 7 (nu (x.map λy=>[y])) (oM (x.map λy=>[y])) .none),(4,.cells 28 [iP s.tape.ik,kZ s.tape.gX,kY s.tape.iu,iP s.iz,ig s.params])]⟩) (af [.b 9 (Bx.le.am7:Bx.le (.row true 26 0 1 (mI [])) (.jR true 26 39 0 7 (nu (x.map λy=>[y])) (oM (x.map λy=>[y])) .none))]),.s (Sp.jc (Xb s x k p) 0 k aE (λm hm Ae=>by
    have Kq:=Dk h hx il ic m aE;have lO:=aiu h Kq (by rw[ur,hx.len]);have hfs:=agv (aE:1<=p) (aE:p<=4096) h.tape lO.1 lO.2;have Bw:(r6 s.tape (re s (ji s x p m) m) m p).length=x.length:=by unfold r6;rw[cB,h.iu,hx.len]
    have hwv:=zC (m+1) aE;exact iy (ae [tT 30 ((m:Int)<k) aE,.c (aiX s x.length m (ji s x p m) h (ur _ _ _ _).symm aE aE (λi hi=>by rw[(Kq i (by rw[ur];exact hi)).len];exact bu _) (λi hi=>by rw[(Kq i (by rw[ur];exact hi)).len];omega):gV 188 [lE s,(.nO false true x.length 1 λk_ _=>.nO true true ((nu (ji s x p m)) k_) 7 ((oM (ji s x p m)) k_)),iP m] _),.c (aiY s.tape (re s (ji s x p m) m) m p h.tape lO.1 lO.2 aE il ic),iq ((m:Int)+1) aE,.c (FW (m+1) aE),.c (BL (ja ((m+1:Nat):Int)) (EU _ aE)),.s (Sp.jc (Xc s x k p m) 0 x.length aE (λw hw ah2=>by
    have GH:=hfs w (by rw[Bw];omega);have apX:=GH.len;have apY:=GH.ok m;have C6:∀ q,q<x.length->(oc s x p m (w+1)).getD q []=if q=w then(oc s x p m w).getD q []++[jt (((r6 s.tape (re s (ji s x p m) m) m p).getD w []).getD m gY) (kg (m+1)) p]else(oc s x p m w).getD q []:=λq hq=>by
     rw[ai1 q hq];by_cases e:q=w
     .subst e;rw[bk rfl,bk rfl];rfl
     .rw [bj e,bj e]
    have Kv:nu (oc s x p m w) w=m+1:=by
     show(List.getD (oc s x p m w) w []).length=m+1;rw[KX aE,bj (Nat.lt_irrefl _),fW];exact(Kq w (by rw[ur];omega)).len
    have qq:=qj (jt (((r6 s.tape (re s (ji s x p m) m) m p).getD w []).getD m gY) (kg (m+1)) p);exact iy (ae [tT 48 ((w:Int)<x.length) aE,iX (w:Int) (x.length) aE,.a (aE:w<x.length),iX (w:Int) ((r6 s.tape (re s (ji s x p m) m) m p).length) aE,
     iX (m:Int) (((r6 s.tape (re s (ji s x p m) m) m p).getD w []).length) aE,.c (An (((r6 s.tape (re s (ji s x p m) m) m p).getD w []).getD m gY) (kg (m+1)) p aF aF aE aE),.o 66 (.e (lV _):aj (.sl true 1 7 λi_ j_=>(iO (jt (((r6 s.tape (re s (ji s x p m) m) m p).getD w []).getD m gY) (kg (m+1)) p)).getD (i_*7+j_) (.v (.bool false))) (ig [jt (((r6 s.tape (re s (ji s x p m) m) m p).getD w []).getD m gY) (kg (m+1)) p])),.a (aE:w<x.length),.a (aE:((nu (oc s x p m w)) w+[jt (((r6 s.tape (re s (ji s x p m) m) m p).getD w []).getD m gY) (kg (m+1)) p].length)*88<=140737488355328),
     iX (w:Int) (x.length) aE,.a (rfl:w=w),.a (rfl:w=w),.a (aE:w<x.length),iq ((w:Int)+1) aE]<|.e (af [.b 9 (am9 (M:=(oc s x p m w)) (M':=(oc s x p m (w+1))) (x:=w) (y:=(jt (((r6 s.tape (re s (ji s x p m) m) m p).getD w []).getD m gY) (kg (m+1)) p)) C6:Bx.le (.jR true 26 39 x.length 7 (λq=>if q=w then(nu (oc s x p m w)) q+[jt (((r6 s.tape (re s (ji s x p m) m) m p).getD w []).getD m gY) (kg (m+1)) p].length else(nu (oc s x p m w)) q) (λq i j=>if q=w then(if i<(nu (oc s x p m w)) q then(oM (oc s x p m w)) q i j else(E.kR (ig [jt (((r6 s.tape (re s (ji s x p m) m) m p).getD w []).getD m gY) (kg (m+1)) p])) (i-(nu (oc s x p m w)) q) j)else(oM (oc s x p m w)) q i j) .none) (.jR true 26 39 x.length 7 (nu (oc s x p m (w+1))) (oM (oc s x p m (w+1))) .none))])) aI)
  (λhw=>by
    exact iy (af [tF 48 ((x.length:Int)<x.length) aE]) aI) aM:jb 13 f115 (Xc s x k p m 0) (.exit 4) ⟨72,true,[(29,.e (iP m)),(28,.e (iP k)),(9,.own 9),(4,.box 4 0),(3,.e (iP p))],[(9,.jR true 26 39 x.length 7 (nu (oc s x p m x.length)) (oM (oc s x p m x.length)) .none),(4,.cells 28 [iP s.tape.ik,kZ s.tape.gX,kY s.tape.iu,iP s.iz,ig s.params])]⟩) (af [.b 9 (.iT (by rw[ai2]):Bx.le (.jR true 26 39 x.length 7 (nu (ji s x p m)) (oM (ji s x p m)) .none) (.jR true 26 39 x.length 7 (nu (oc s x p m 0)) (oM (oc s x p m 0)) .none))]),
     iq ((m:Int)+1) aE]<|.e (af [.b 9 (.iT (by rw[ai0]):Bx.le (.jR true 26 39 x.length 7 (nu (oc s x p m x.length)) (oM (oc s x p m x.length)) .none) (.jR true 26 39 x.length 7 (nu (ji s x p (m+1))) (oM (ji s x p (m+1))) .none))])) aI)
  (λhm=>by
    exact iy (af [tF 30 ((k:Int)<k) aE]) aI) aM:jb 8 f115 (Xb s x k p 0) (.exit 2) ⟨72,true,[(9,.own 9)],[(9,.jR true 26 39 x.length 7 (nu (ji s x p k)) (oM (ji s x p k)) .none)]⟩) (af [.b 9 (.iT rfl:Bx.le (.jR true 26 39 x.length 7 (nu (x.map λy=>[y])) (oM (x.map λy=>[y])) .none) (.jR true 26 39 x.length 7 (nu (ji s x p 0)) (oM (ji s x p 0)) .none))])]<|rR (kX (ji s x p k)) (akn (ur _ _ _ _).symm:E.le (.sl true x.length 1 λk_ _=>.sl true ((nu (ji s x p k)) k_) 7 ((oM (ji s x p k)) k_)) (kX (ji s x p k)))) 
def aiZ(s:jM)(x:List Iv)(p:Nat)(h:mh s)(hx:kG s.iz x)(il:8<=p)(ic:p<=512):gV 114 [lE s,ig x,iP p] (bP true):=by
 have s1:=h.s1;have s4:=h.s4;have lx:=hx.len;exact ak call114 func114 (af [.c (AL s aF),.c (vC x aE aE hx.ok),ah 18 ((x.length:Int)==s.iz) (bc aE),tT 22 (8<=(p:Int)) aE,tT 26 ((p:Int)<=512) aE]) 
def M5(s:jM)(x:List Iv)(k p:Nat)(h:mh s)(hx:kG s.iz x)(il:8<=p)(ic:p<=512)(hk:k<=16):gV 41 [lE s,ig x,iP k,iP p] (.iw [kX (ji s x p k),iP 0]):=by
 have s1:=h.s1;have s4:=h.s4;have lx:=hx.len;exact ak call41 func41 (af [.c (aiZ s x p h hx il ic),tF 16 ((k:Int)<0) aE,tF 19 (16<(k:Int)) aE,.c (ai4 s x k p h hx hk il ic)]) 
end Go.Proofs.YtgdahmmlddfimaaGreatDoor
