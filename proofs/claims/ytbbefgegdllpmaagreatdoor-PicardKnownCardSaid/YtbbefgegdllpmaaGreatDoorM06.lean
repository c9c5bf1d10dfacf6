/- Enclose's tubes hold the known solutions of ten of the catalog's systems. -/
import Derived.Test.YtbbefgegdllpmaaGreatDoorM05
set_option linter.unusedSimpArgs false
set_option linter.unusedVariables false
set_option linter.defProp false
set_option maxHeartbeats 4000000
open Go.Proofs.Tryz
namespace Go.Proofs.YtbbefgegdllpmaaGreatDoor
open Go.RowKit Fp Pu
def acJ{d:Dy}(hd:d.iD)(h:iR d.q<=1073741824):uC d 1=0:=by
 unfold uC;rw[bA];by_cases hm:d.m=0
 .left;rw[hm];unfold canon;rw[bA rfl]
 .have hc:=hd.canon.BK;have e0:∀ e,canon d.neg d.m e=⟨d.neg,d.m/2^kq d.m,e+(kq d.m:Nat)⟩:=λe=>by unfold canon;rw[bw hm]
  rw[e0]at hc;have h1:d.m/2^kq d.m=d.m:=congrArg Dy.m hc;have h2:d.e+(kq d.m:Nat)=d.e:=congrArg Dy.e hc;rw[e0,h1];right;obtain⟨r1,r2,r3,r4⟩:=hd.range.resolve_left hm;have g1:=So hm;have hT:d.jb=(iE d.m:Int)+d.e:=by unfold Dy.jb;rw[bw hm]
  have ht:d.jb<=31:=by
   apply cF;intro q;have:=BF (aI:31<=d.jb-1);rw[show P2 31=2147483648 by decide +kernel]at this
   grind
  have hb:=og hm;exact⟨r1,by show -16384<=d.e+1+(kq d.m:Nat);omega,by show d.e+1+(kq d.m:Nat)<=16384;omega,by show(iE d.m:Int)+(d.e+1+(kq d.m:Nat))<=16384;omega⟩
def aq1{x:Iv}(ha:x.all=false)(v1:x.lo.iD)(v2:x.hi.iD)(h0:0<=x.lo.q)(h1:x.lo.q<=x.hi.q)(h2:x.hi.q<=1073741824):(kI x 1).all=false/\(kI x 1).lo.q=x.lo.q*2/\(kI x 1).hi.q=x.hi.q*2:=by
 have e1:=acJ v1<|qA aS aS;have e2:=acJ v2<|qA aS aS;unfold kI ns;rw[bw<|by rw[ha];decide,bw<|by rw[e1,e2];decide];have p:P2 1=2:= aT ;exact⟨rfl,by show(th x.lo 1).q=_;rw[Gc e1,p],by show(th x.hi 1).q=_;rw[Gc e2,p]⟩
section
variable {a b c d e f n m:Int} {t:Rat}
def wQ(k:Int)(st pr:List<|Int×Int)(n m:Int)(K:List Iv)(ex:Bool):Prop:=iA 16 [iP k,kF st,kF pr,.agg [iP n,iP m]]<|.iK [iQ K,bP ex]
section
variable(r1:jG a b=true)
def kn0(h:qy n m t):∃ K ex,wQ 0 [(a,b)] [] n m [K] ex/\K.iD/\K.ja ((a:Rat)/(b:Rat)/(1+(a:Rat)/(b:Rat)*t))/\(0<1+(a:Rat)/(b:Rat)*t->ex=true):=by
 have X:=sI r1;have H:=h.enc;exact⟨_,_,amh a b n m _ _ X.val H.val h.n0 (qe _ _ r1)<|qe _ _ h.r,Hh _ _,ad X.val (xK wI<|mW _ _) X.ja<|aa wI (mW _ _) FU<|am X.val H.val X.ja H.ja,λq=>abj r1 h q⟩
section
variable(r2:jG c d=true)
def kn1(r3:jG e f=true)(h:qy n m t):∃ K L ex,wQ 1 [(a,b),(c,d)] [(e,f)] n m [K,L] ex/\K.iD/\L.iD /\
 K.ja ((a:Rat)/(b:Rat)+(c:Rat)/(d:Rat)*t+(e:Rat)/(f:Rat)*(t*t)/2)/\L.ja ((c:Rat)/(d:Rat)+(e:Rat)/(f:Rat)*t):=by
 have X:=sI r1;have Y:=sI r2;have A:=sI r3;have H:=h.enc;have s1:=SW (am A.val (mW _ _) A.ja<|Ni H.val H.ja) (-1);rw[show P2 (-1)=1/2 by decide +kernel]at s1;refine⟨_,_,_,ami a b c d e f n m _ _ _ _ X.val H.val Y.val A.val h.n0 (qe _ _ r1) (qe _ _ h.r) (qe _ _ r2)<|qe _ _ r3,xK (xK X.val<|mW _ _)<|rB (mW _ _) _,xK Y.val<|mW _ _,?_,aa Y.val (mW _ _) Y.ja<|am A.val H.val A.ja H.ja⟩;have:=aa (xK X.val<|mW _ _) (rB (mW _ _) _) (aa X.val (mW _ _) X.ja<|am Y.val H.val Y.ja H.ja) s1;rwa[show(e:Rat)/(f:Rat)*(t*t)*(1/2)=(e:Rat)/(f:Rat)*(t*t)/2 by grind]at this
def kn2(h:qy n m t):∃ K L ex,wQ 2 [(a,b),(c,d)] [] n m [K,L] ex/\K.iD/\L.iD /\
 K.ja ((a:Rat)/(b:Rat)*(1+(c:Rat)/(d:Rat)*t))/\L.ja ((c:Rat)/(d:Rat)/(1+(c:Rat)/(d:Rat)*t))/\(0<1+(c:Rat)/(d:Rat)*t->ex=true):=by
 have X:=sI r1;have Y:=sI r2;have H:=h.enc;have hd:=aa wI (mW _ _) FU<|am Y.val H.val Y.ja H.ja;exact⟨_,_,_,amj a b c d n m _ _ _ X.val H.val Y.val h.n0 (qe _ _ r1) (qe _ _ h.r)<|qe _ _ r2,mW _ _,Hh _ _,am X.val (xK wI<|mW _ _) X.ja hd,ad Y.val (xK wI<|mW _ _) Y.ja hd,λq=>abj r2 h q⟩
def kn3(h:qy n m t):∃ K L ex,wQ 3 [(a,b),(c,d)] [] n m [K,L] ex/\K.iD/\L.iD /\
 K.ja ((a:Rat)/(b:Rat)+t)/\L.ja ((c:Rat)/(d:Rat)/(1-(c:Rat)/(d:Rat)*(((a:Rat)/(b:Rat)+t)*((a:Rat)/(b:Rat)+t)-(a:Rat)/(b:Rat)*((a:Rat)/(b:Rat))))) /\
 (ex=true->0<1-(c:Rat)/(d:Rat)*(((a:Rat)/(b:Rat)+t)*((a:Rat)/(b:Rat)+t)-(a:Rat)/(b:Rat)*((a:Rat)/(b:Rat)))):=by
 have X:=sI r1;have Y:=sI r2;have H:=h.enc;have he:=aa X.val H.val X.ja H.ja;have ve:=xK X.val H.val;have hd:=Oz wI (mW _ _) FU<|am Y.val (Gb (mW _ _)<|mW _ _) Y.ja<|Oz (mW _ _) (mW _ _) (Ni ve he)<|Ni X.val X.ja;refine⟨_,_,_,amk a b c d n m _ _ _ X.val H.val Y.val h.n0 (qe _ _ r1) (qe _ _ h.r)<|qe _ _ r2,ve,Hh _ _,he,ad Y.val (Gb wI<|mW _ _) Y.ja hd,λq=>?_⟩;rw[cr]at q;obtain⟨q1,q2⟩:=MI q.2;have:=(hd.kA q1).1
 grind
end
def kn4(r3:jG e f=true)(h:qy n m t):∃ K ex,wQ 4 [(a,b)] [(e,f)] n m [K] ex/\K.iD/\jr (λM=>(a:Rat)/(b:Rat)*EQ ((e:Rat)/(f:Rat)*t) M) K:=by
 have X:=sI r1;have A:=sI r3;have H:=h.enc;obtain⟨V,vV,hV,_,lV⟩:=Mh (iO (kH e f 320) (kH n m 320) 320)<|mW _ _;exact⟨_,_,aml a b e f n m _ _ _ X.val H.val A.val h.n0 (qe _ _ r1) (qe _ _ h.r) (qe _ _ r3) V vV hV,mW _ _,
  jr.mul X.val vV (jr.pd X.ja) (lV _<|am A.val H.val A.ja H.ja) aK aK⟩
end
def adK(h:qy n m t):∃ S Z:Iv,S.iD/\Z.iD/\iA 46 [iC<|kH n m 320] (.iK [iC S,iC Z])/\(t<=1->jr (SN t) S/\jr (CS t) Z):=by
 have H:=h.enc;obtain⟨vH,aH,lH,uH⟩:=h.exact;obtain⟨z,z1,hz⟩:=h.g;have t0:=h.nn;have z0:0<=z:=(cY (a:=0) (b:=z)).1 (by rw[show((0:Int):Rat)=0 from rfl];grind);by_cases ht:(kH n m 320).lo.jb<=30
 .obtain ⟨S,Z,vS,vZ,lS,lZ,pS,pZ⟩:=ao0 (kH n m 320).lo H.val.kA.1 (by rw[lH];exact hz) z0 z1 ht;rw[lH]at lS lZ;exact⟨_,_,C4 vS H.val,C4 vZ H.val,ZZ _ H.val S Z vS vZ pS pZ,λ_=>⟨lS.U4 vS H.val,lZ.U4 vZ H.val⟩⟩
 .have hm:(kH n m 320).lo.m≠0:=λq=>by
   apply ht;unfold Dy.jb;rw[bA q];decide
  have g1:=So hm;have v1:(Iv.mk (jl<|kV 1) (kV 1) false).iD:=by
   have w:=IT (n:=1) aK;refine .inr ⟨rfl,ru w,w,?_⟩;show jI _ _<=0;rw[qf,oX,uA];decide +kernel
  refine⟨_,_,C4 v1 H.val,C4 v1 H.val,ZZ _ H.val _ _ v1 v1 (aoX _ H.val.kA.1 hm ht)<|aoN _ H.val.kA.1 hm ht,λq=>?_⟩;exfalso;have:=BF (aI:30<=(kH n m 320).lo.jb-1);rw[show P2 30=1073741824 by decide +kernel]at this;rw[lH]at g1;obtain⟨_,_,_,q3⟩:=jH t
  grind
section
variable(r1:jG a b=true)
def kn5(r2:jG c d=true)(h:qy n m t):∃ K L ex,wQ 5 [(a,b),(c,d)] [] n m [K,L] ex/\K.iD/\L.iD/\(t<=1\/(a:Rat)/(b:Rat)=0/\(c:Rat)/(d:Rat)=0 ->
 jr (λM=>(a:Rat)/(b:Rat)*CS t M-(c:Rat)/(d:Rat)*SN t M) K/\jr (λM=>(a:Rat)/(b:Rat)*SN t M+(c:Rat)/(d:Rat)*CS t M) L):=by
 have X:=sI r1;have Y:=sI r2;have H:=h.enc;obtain⟨S,Z,vS,vZ,hT,hl⟩:=adK h;refine⟨_,_,_,amm a b c d n m _ _ _ X.val H.val Y.val h.n0 (qe _ _ r1) (qe _ _ h.r) (qe _ _ r2) S Z vS vZ hT,Gb (mW _ _)<|mW _ _,xK (mW _ _)<|mW _ _,λq=>?_⟩;rcases q with q|⟨q1,q2⟩
 .obtain ⟨l1,l2⟩:=hl q;exact⟨jr.sub (mW _ _) (mW _ _) (jr.mul X.val vZ (jr.pd X.ja) l2 aK aK) (jr.mul Y.val vS (jr.pd Y.ja) l1 aK aK) aK aK,
   jr.add (mW _ _) (mW _ _) (jr.mul X.val vS (jr.pd X.ja) l1 aK aK) (jr.mul Y.val vZ (jr.pd Y.ja) l2 aK aK) aK aK⟩
 .have hx:=X.ja;have hy:=Y.ja;rw[q1]at hx;rw[q2]at hy;have k1:=Oz (mW _ _) (mW _ _) (am X.val vZ hx vZ.tK)<|am Y.val vS hy vS.tK;have k2:=aa (mW _ _) (mW _ _) (am X.val vS hx vS.tK)<|am Y.val vZ hy vZ.tK;rw[show(0:Rat)*Z.lo.q-0*S.lo.q=0 by grind]at k1;rw[show(0:Rat)*S.lo.q+0*Z.lo.q=0 by grind]at k2;rw[q1,q2];exact⟨jr.Ct (k:=0) λN _=>by rw[show(0:Rat)*CS t N-0*SN t N=0 by grind];exact k1,jr.Ct (k:=0) λN _=>by rw[show(0:Rat)*SN t N+0*CS t N=0 by grind];exact k2⟩
def kn7(h:qy n m t):∃ K ex,wQ 7 [(a,b)] [] n m [K] ex/\K.iD/\(t<=1->jr (λM=>((a:Rat)/(b:Rat)*CS t M+SN t M)/(CS t M-(a:Rat)/(b:Rat)*SN t M)) K /\
 (ex=true->∃ c,0<c/\Ev λM=>c<=CS t M-(a:Rat)/(b:Rat)*SN t M)):=by
 have X:=sI r1;have H:=h.enc;obtain⟨S,Z,vS,vZ,hT,hl⟩:=adK h;obtain⟨U,vU,hU⟩:=aoJ (kH a b 320).lo X.val.kA.1;obtain⟨P,vP,hP⟩:=aoT;refine⟨_,_,amo a b n m _ _ X.val H.val h.n0 (qe _ _ r1) (qe _ _ h.r) S Z vS vZ hT U P vU vP hU hP,Hh _ _,λq=>?_⟩;obtain⟨l1,l2⟩:=hl q;have ld:=jr.sub vZ (mW _ _) l2 (jr.mul X.val vS (jr.pd X.ja) l1 (p:=320) aK aK) (p:=320) aK aK;refine⟨jr.div (xK (mW _ _) vS) (Gb vZ<|mW _ _) (jr.add (mW _ _) vS (jr.mul X.val vZ (jr.pd X.ja) l2 aK aK) l1 aK aK) ld aK aK,λq=>?_⟩;rw[cr]at q;obtain⟨q1,q2⟩:=MI q.1;exact ld.lf q1 q2
def kn6(h:qy n m t):∃ K ex,wQ 6 [(a,b)] [] n m [K] ex/\K.iD/\jr (λM=>(a:Rat)/(b:Rat)*EQ t M/(1+(a:Rat)/(b:Rat)*(EQ t M-1))) K /\
 (ex=true->∃ c,0<c/\Ev λM=>c<=1+(a:Rat)/(b:Rat)*(EQ t M-1)):=by
 have X:=sI r1;have H:=h.enc;obtain⟨V,vV,hV,_,lV⟩:=Mh (kH n m 320) H.val;have lv:=lV t H.ja;have ld:=jr.add wI (mW _ _) (jr.pd FU) (jr.mul X.val (Gb vV wI) (jr.pd X.ja) (jr.sub vV wI lv (jr.pd FU) (p:=320) aK aK) (p:=320) aK aK) (p:=320) aK aK;refine⟨_,_,amn a b n m _ _ X.val H.val h.n0 (qe _ _ r1) (qe _ _ h.r) V vV hV,Hh _ _,jr.div (mW _ _) (xK wI<|mW _ _) (jr.mul X.val vV (jr.pd X.ja) lv aK aK) ld aK aK,λq=>?_⟩;obtain⟨q1,q2⟩:=MI q;exact ld.lf q1 q2
def kn8(r2:jG c d=true)(h:qy n m t):∃ K L ex,wQ 8 [(a,b),(c,d)] [] n m [K,L] ex/\K.iD/\L.iD /\
 jr (λM=>(a:Rat)/(b:Rat)*EQ t M) K/\jr (λM=>(c:Rat)/(d:Rat)*EQ ((a:Rat)/(b:Rat)*(EQ t M-1)) M) L:=by
 have X:=sI r1;have Y:=sI r2;have H:=h.enc;obtain⟨V,vV,hV,_,lV⟩:=Mh (kH n m 320) H.val;have lv:=lV t H.ja;obtain⟨W,vW,hW,aW,lW⟩:=Mh (iO (kH a b 320) (jP V (iT 1) 320) 320)<|mW _ _;have ls:=jr.mul X.val (Gb vV wI) (jr.pd X.ja) (jr.sub vV wI lv (jr.pd FU) (p:=320) aK aK) (p:=320) aK aK;refine⟨_,_,_,amp a b c d n m _ _ _ X.val H.val Y.val h.n0 (qe _ _ r1) (qe _ _ h.r) (qe _ _ r2) V vV hV W vW hW,mW _ _,mW _ _,jr.mul X.val vV (jr.pd X.ja) lv aK aK,
  jr.mul Y.val vW (jr.pd Y.ja) (ls.exp aW lW λε hε=>?_) aK aK⟩
 have x0:=(jH<|(a:Rat)/(b:Rat)).1;have hK:0<iR ((a:Rat)/(b:Rat))+1:= aS ;have hd:0<ε/(iR ((a:Rat)/(b:Rat))+1):=by rw[cB];exact cR hε<|dw.2 hK
 have e1:ε/(iR ((a:Rat)/(b:Rat))+1)*(iR ((a:Rat)/(b:Rat))+1)=ε:=cV aS;obtain⟨N0,h0⟩:=aed (c:=t) hd;refine⟨N0,λN hN=>?_⟩;have k:=mL (bH (a:=iR<|(a:Rat)/(b:Rat)))<|h0 N hN;rw[show(a:Rat)/(b:Rat)*(EQ t N-EQ t N0)=(a:Rat)/(b:Rat)*(EQ t N-1)-(a:Rat)/(b:Rat)*(EQ t N0-1)by grind]at k
 grind
def kn9(h:qy n m t):∃ K ex,wQ 9 [(a,b)] [] n m [K] ex/\K.iD/\(ex=true->0<(a:Rat)/(b:Rat)) /\
 (K.all=true\/0<=K.lo.q/\0<=K.hi.q/\K.lo.q*K.lo.q<=(a:Rat)/(b:Rat)*((a:Rat)/(b:Rat))+2*t/\(a:Rat)/(b:Rat)*((a:Rat)/(b:Rat))+2*t<=K.hi.q*K.hi.q)/\(0<a->ex=true):=by
 have X:=sI r1;have H:=h.enc;have vs:(iZ (iO (iW<|kH a b 320) (iW<|kH a b 320) 320) (kI (kH n m 320) 1) 320).iD:=xK (mW _ _)<|rB H.val _;have hs:=SW H.ja 1;rw[show P2 1=2 by decide +kernel]at hs;have hv:=aa (mW _ _) (rB H.val _) (Ni X.val X.ja) hs;rw[show t*2=2*t by grind]at hv;refine⟨_,_,amq a b n m _ _ X.val H.val h.n0 (qe _ _ r1)<|qe _ _ h.r,Gh vs aK aK,λq=>?_,arH vs aK aK hv,λq=>?_⟩
 .rw [cr]at q;obtain⟨q1,q2⟩:=MI q.1;have:=(X.ja.kA q1).1
  grind
 .obtain ⟨b0,b1,x1,x2,xb⟩:=Bq r1;have a1:(1:Rat)<=(a:Rat):=by have:=cY (a:=1) (b:=a);exact this.2 aI 
  have g1:G 320<|1/2147483648:=by
   have:=xG (z:=1) (e:=-31) aK aK aK;rwa[show P2 (-31)=1/2147483648 by decide +kernel,show((1:Int):Rat)=1 from rfl,eI]at this
  have g2:G 320 2147483648:=by
   have:=xG (z:=2147483648) (e:=0) aK aK aK;rwa[tC,dL]at this
  have xl:1/2147483648<=(a:Rat)/(b:Rat):=I3 b0 aS;obtain⟨k1,k2,k3⟩:=SP r1 g1 g2 xl aS;have lo0:0<(kH a b 320).lo.q:= aS ;have p1:=Se k1 lo0;obtain⟨vH,aH,lH,uH⟩:=h.exact;have t0:=h.nn;have t1:=h.le;have aa':(iW<|kH a b 320).all=false:=by unfold iW;rw[k1];rfl
  have al:(iW<|kH a b 320).lo.q=(kH a b 320).lo.q:=by
   have e:(iW<|kH a b 320).lo=nV (kH a b 320):=by unfold iW;rw[k1];rfl
   rw[e];exact(Cm X.val k1).2.2.1 lo0
  have au:(iW<|kH a b 320).hi.q<=2147483648:=by
   have e:(iW<|kH a b 320).hi=mB (kH a b 320):=by unfold iW;rw[k1];rfl
   rw[e];obtain⟨m1,m2,m3⟩:=yf X.val.q;rcases m3 with m3|m3<;>grind
  have va:=uK X.val;have g3:G 320<|1/4611686018427387904:=by
   have:=xG (z:=1) (e:=-62) aK aK aK;rwa[show P2 (-62)=1/4611686018427387904 by decide +kernel,show((1:Int):Rat)=1 from rfl,eI]at this
  have g4:G 320 4611686018427387904:=by
   have:=xG (z:=4611686018427387904) (e:=0) aK aK aK;rwa[tC,dL]at this
  obtain⟨ma,ml,mh⟩:=(Co va va aa' aa' (show 1<=320 by decide) aK).s9 _ _ g3 g4 λr ⟨u,w,hu,hw,e⟩=>by
   obtain⟨u1,u2⟩:=hu.kA aa';obtain⟨w1,w2⟩:=hw.kA aa';have f1:=bY (show 1/2147483648<=w by grind) (show 0<=u by grind);have f2:=bY (show w<=2147483648 by grind) (show 0<=u by grind);rw[e];constructor<;>grind
  have vsc:=rB H.val 1;have sc:(kI (kH n m 320) 1).all=true\/(kI (kH n m 320) 1).all=false:=by cases(kI (kH n m 320) 1).all<;>simp
  have scf:(kI (kH n m 320) 1).all=false/\0<=(kI (kH n m 320) 1).lo.q/\(kI (kH n m 320) 1).hi.q<=4611686018427387904:=by
   obtain⟨q1,q2,q3⟩:=aq1 aH H.val.kA.1 H.val.kA.2 (by rw[lH];exact t0) (by rw[lH,uH];exact bH) (by rw[uH];exact t1);exact⟨q1,by rw[q2];grind,by rw[q3];grind⟩
  obtain⟨sa,sl,sh⟩:=scf;have g5:G 320 9223372036854775808:=by
   have:=xG (z:=9223372036854775808) (e:=0) aK aK aK;rwa[tC,dL]at this
  obtain⟨da,dl,_⟩:=(C1 (mW _ _) vsc ma sa (show 1<=320 by decide) aK).s9 _ _ g3 g5 λr ⟨u,w,hu,hw,e⟩=>by
   obtain⟨u1,u2⟩:=hu.kA ma;obtain⟨w1,w2⟩:=hw.kA sa;rw[e];constructor<;>grind
  rw[cr];have hz:(0:Rat)<1/4611686018427387904:=aT;exact⟨p1,Se da (by grind)⟩
end
end
def nA(l:List E):E:=.sl true l.length 1 λi _=>l.getD i .any
def Mk{α:Type}{n i:Nat}(f:Nat->α)(d:α)(h:i<n):((List.range n).map f).getD i d=f i:=by
 rw[bJ,dA,at5 h];rfl
section
variable{n:Nat}{el:Nat->Nat->E}
def sT{l:List oG}(hn:n=l.length)(h:(List.range l.length).map (λi=>(List.range 6).map<|el i)=l.map Jp):E.le (.sl true n 6 el)<|kT l:=by
 subst hn;refine .sl λi j hi hj=>?_
 have e:=congrArg (λL=>(L.getD i []).getD j .any) h;have e3:(l.map Jp).getD i []=Jp (l.getD i kJ):=by simp[bJ,bS hi]
 rw[Mk _ _ hi,Mk _ _ hj,e3]at e;rw[e];refine⟨.refl _,?_⟩;obtain rfl|rfl|rfl|rfl|rfl|rfl:j=0\/j=1\/j=2\/j=3\/j=4\/j=5:= aI 
 all_goals exact rfl
def vk{l:List Nat}(hn:n=l.length)(h:(List.range l.length).map (λi=>el i 0)=l.map λ(x:Nat)=>iP (x:Int)):E.le (.sl true n 1 el)<|kB l:=by
 subst hn;refine .sl λi j hi hj=>?_
 obtain rfl:j=0:= aI ;have e:=congrArg (λL=>L.getD i .any) h;rw[Mk _ _ hi,bJ,dA,bS hi]at e;have e2:el i 0=iP (l.getD i 0:Int):=by rw[e,bJ,bS hi];rfl
 rw[e2];exact⟨.refl _,rfl⟩
def Aq{l:List E}(hn:n=l.length)(hr:∀ i,i<l.length->E.nr 2 (l.getD i .any)=true)(h:(List.range l.length).map (λi=>el i 0)=l):E.le (.sl true n 1 el)<|nA l:=by
 subst hn;refine .sl λi j hi hj=>?_
 obtain rfl:j=0:= aI ;have e:=congrArg (λL=>L.getD i .any) h;rw[Mk _ _ hi]at e;rw[e];exact⟨.refl _,hr i hi⟩
end
abbrev NG:E:=.sl true 1 6 λi_ j_=>[iP 2,iP 0,iP 0,.v<|.string ⟨#[120]⟩,iP 0,.v<|.slice none 0 0].getD (i_*6+j_)<|.v<|.bool false
abbrev NH:E:=.sl true 2 6 λi_ j_=>[iP 1,iP 1,iP 1,.v<|.string ⟨#[]⟩,iP 0,.v<|.slice none 0 0,iP 2,iP 0,iP 0,.v<|.string ⟨#[120]⟩,iP 0,.v<|.slice none 0 0].getD (i_*6+j_)<|.v<|.bool false
abbrev oF:E:=.agg [iP 2,iP 0,iP 0,.v<|.string ⟨#[120]⟩,iP 0,.v<|.slice none 0 0]
abbrev J7:E:=.sl true 1 6 λi_ j_=>[iP 2,iP 0,iP 0,.v<|.string ⟨#[121]⟩,iP 0,.v<|.slice none 0 0].getD (i_*6+j_)<|.v<|.bool false
abbrev TK:E:=.sl true 2 6 λi_ j_=>[iP 2,iP 0,iP 0,.v<|.string ⟨#[120]⟩,iP 0,.v<|.slice none 0 0,iP 2,iP 0,iP 0,.v<|.string ⟨#[121]⟩,iP 0,.v<|.slice none 0 0].getD (i_*6+j_)<|.v<|.bool false
abbrev xE5:E:=.sl true 2 6 λi_ j_=>[iP 1,iP 2,iP 1,.v<|.string ⟨#[]⟩,iP 0,.v<|.slice none 0 0,iP 2,iP 0,iP 0,.v<|.string ⟨#[116]⟩,iP 0,.v<|.slice none 0 0].getD (i_*6+j_)<|.v<|.bool false
abbrev nG:E:=nA [.v<|.string ⟨#[120]⟩,.v<|.string ⟨#[121]⟩]
abbrev BD:Nat->Nat->E:=(λi_ j_=>([]:List E).getD (i_*1+j_)<|.v<|.bool false)
abbrev tY:E:=.agg [iP 2,iP 0,iP 0,.v<|.string ⟨#[121]⟩,iP 0,.v<|.slice none 0 0]
abbrev rF:E:=.agg [iP 2,.v<|.slice none 0 0,.v<|.slice none 0 0]
abbrev yq:E:=.sl true 1 1 λi_ j_=>[iP<|(2+1)-1].getD (i_*1+j_)<|.v<|.bool false
abbrev ad0:E:=.sl true 2 6 λi_ j_=>[iP 2,iP 0,iP 0,.v<|.string ⟨#[97]⟩,iP 0,.v<|.slice none 0 0,iP 2,iP 0,iP 0,.v<|.string ⟨#[120]⟩,iP 0,.v<|.slice none 0 0].getD (i_*6+j_)<|.v<|.bool false
abbrev sD:E:=.agg [iP 1,.v<|.slice none 0 0,.v<|.slice none 0 0]
abbrev AB:Nat->Nat->E:=(λi_ j_=>([]:List E).getD (i_*6+j_)<|.v<|.bool false)
abbrev sj:E:=nA [.v<|.string ⟨#[116]⟩,.v<|.string ⟨#[120]⟩]
abbrev ad6:E:=.sl true 2 6 λi_ j_=>[iP 2,iP 0,iP 0,.v<|.string ⟨#[120]⟩,iP 0,.v<|.slice none 0 0,iP 4,iP 0,iP 0,.v<|.string ⟨#[]⟩,iP 0,NH].getD (i_*6+j_)<|.v<|.bool false
abbrev ad7:E:=.sl true 2 6 λi_ j_=>[iP 1,iP 1,iP 1,.v<|.string ⟨#[]⟩,iP 0,.v<|.slice none 0 0,iP 8,iP 0,iP 0,.v<|.string ⟨#[]⟩,iP 2,NG].getD (i_*6+j_)<|.v<|.bool false
abbrev xC:E:=.agg [iP 1,iP 1,iP 1,.v<|.string ⟨#[]⟩,iP 0,.v<|.slice none 0 0]
abbrev ad8:E:=.sl true 2 6 λi_ j_=>[iP 5,iP 0,iP 0,.v<|.string ⟨#[]⟩,iP 0,xE5,iP 8,iP 0,iP 0,.v<|.string ⟨#[]⟩,iP 2,NG].getD (i_*6+j_)<|.v<|.bool false
abbrev J4:Nat->Nat->E:=(λi_ j_=>if i_<0 then BD i_ j_ else(E.jV<|.sl true 0 1 λ_ _=>.any) (i_-0) j_)
abbrev EB:E:=.sl true 1 1 λi_ j_=>[.v<|.string ⟨#[120]⟩].getD (i_*1+j_)<|.v<|.bool false
abbrev NI:E:=.sl true (1+0) 1 λi_ j_=>if i_<1 then(λi_ j_=>if i_<0 then BD i_ j_ else(E.jV EB) (i_-0) j_) i_ j_ else(E.jV<|.sl true 0 1 λ_ _=>.any) (i_-1) j_
abbrev Gr:E:=.sl true 2 1 λi_ j_=>[.v<|.string ⟨#[120]⟩,.v<|.string ⟨#[121]⟩].getD (i_*1+j_)<|.v<|.bool false
abbrev zx:E:=nA [.v<|.string ⟨#[120]⟩,.v<|.string ⟨#[121]⟩,.v<|.string ⟨#[97]⟩]
abbrev xD:E:=.agg [iP 8,iP 0,iP 0,.v<|.string ⟨#[]⟩,iP 2,NG]
abbrev xE:E:=nA [.v<|.string ⟨#[120]⟩,.v<|.string ⟨#[97]⟩]
abbrev TF:E:=.sl true 2 6 λi_ j_=>[iP 5,iP 0,iP 0,.v<|.string ⟨#[]⟩,iP 0,TK,iP 7,iP 0,iP 0,.v<|.string ⟨#[]⟩,iP 0,(.sl true 1 6 λi_ j_=>[iP 8,iP 0,iP 0,.v<|.string ⟨#[]⟩,iP 2,J7].getD (i_*6+j_)<|.v<|.bool false)].getD (i_*6+j_)<|.v<|.bool false
abbrev ad9:E:=.sl true 1 6 λi_ j_=>[iP 8,iP 0,iP 0,.v<|.string ⟨#[]⟩,iP 2,NG].getD (i_*6+j_)<|.v<|.bool false
abbrev Gs:E:=.sl true 1 6 λi_ j_=>[iP 8,iP<|0+1,iP 0,iP 2,iP 0,iP 0].getD (i_*6+j_)<|.v<|.bool false
abbrev J5:E:=.sl true 1 6 λi_ j_=>[iP 5,iP 0,iP<|0+1,iP 0,iP 0,iP 0].getD (i_*6+j_)<|.v<|.bool false
abbrev J6:Nat->Nat->E:=(λi_ j_=>if i_<0 then AB i_ j_ else(E.jV<|.sl true 0 6 λ_ _=>.any) (i_-0) j_)
abbrev Gt:E:=.sl true 1 6 λi_ j_=>[iP 8,iP 0,iP 0,iP 2,iP 0,iP 0].getD (i_*6+j_)<|.v<|.bool false
abbrev J8:E:=.sl true 1 6 λi_ j_=>[iP 1,iP 0,iP 0,iP 0,iP 1,iP 1].getD (i_*6+j_)<|.v<|.bool false
abbrev EA:E:=.agg [iP 2,iP 0,iP 0,.v<|.string ⟨#[97]⟩,iP 0,.v<|.slice none 0 0]
abbrev TD:E:=kT [⟨1,0,0,0,1,1⟩,⟨1,0,0,0,2,1⟩,⟨5,3,0,0,0,0⟩]
abbrev Gu:E:=.agg [iP 2,TD,kB [2]]
abbrev TG:E:=.sl true 2 6 λi_ j_=>[iP 2,iP 0,iP 0,.v<|.string ⟨#[121]⟩,iP 0,.v<|.slice none 0 0,iP 2,iP 0,iP 0,.v<|.string ⟨#[97]⟩,iP 0,.v<|.slice none 0 0].getD (i_*6+j_)<|.v<|.bool false
abbrev CQ:E:=.agg [iP 1,kT [⟨1,0,0,0,1,1⟩],.v<|.slice none 0 0]
abbrev TH:E:=.sl true 2 6 λi_ j_=>[iP 7,iP 0,iP 0,.v<|.string ⟨#[]⟩,iP 0,J7,iP 2,iP 0,iP 0,.v<|.string ⟨#[120]⟩,iP 0,.v<|.slice none 0 0].getD (i_*6+j_)<|.v<|.bool false
abbrev TJ:E:=.sl true 2 6 λi_ j_=>[iP 2,iP 0,iP 0,.v<|.string ⟨#[120]⟩,iP 0,.v<|.slice none 0 0,iP 5,iP 0,iP 0,.v<|.string ⟨#[]⟩,iP 0,TK].getD (i_*6+j_)<|.v<|.bool false
abbrev J9:E:=.sl true 1 1 λi_ j_=>[iP<|(1+3)-1].getD (i_*1+j_)<|.v<|.bool false
abbrev Ka:E:=.sl true 1 1 λi_ j_=>[iP<|(1+2)-1].getD (i_*1+j_)<|.v<|.bool false
abbrev TL:E:=.sl true 2 6 λi_ j_=>[iP 1,iP 1,iP 1,.v<|.string ⟨#[]⟩,iP 0,.v<|.slice none 0 0,iP 5,iP 0,iP 0,.v<|.string ⟨#[]⟩,iP 0,ad8].getD (i_*6+j_)<|.v<|.bool false
abbrev BC:E:=.agg [iP 1,iP 0,iP 0,iP 0,iP 1,iP 1]
abbrev TM:E:=.agg [iP 7,iP 0,iP 0,.v<|.string ⟨#[]⟩,iP 0,(.sl true 1 6 λi_ j_=>[iP 8,iP 0,iP 0,.v<|.string ⟨#[]⟩,iP 2,J7].getD (i_*6+j_)<|.v<|.bool false)]
abbrev TN:E:=.sl true (2+0) 1 λi_ j_=>if i_<2 then(λi_ j_=>if i_<0 then BD i_ j_ else(E.jV Gr) (i_-0) j_) i_ j_ else(E.jV<|.sl true 0 1 λ_ _=>.any) (i_-2) j_
abbrev Gv:E:=.sl true 1 1 λi_ j_=>[iP 0].getD (i_*1+j_)<|.v<|.bool false
abbrev Kb:E:=.agg [iP 2,iP 0,iP 0,.v<|.string ⟨#[116]⟩,iP 0,.v<|.slice none 0 0]
abbrev CR:E:=.agg [iP 2,.v<|.slice none 0 0,kB [0]]
abbrev Kd:E:=.agg [iP 1,iP 2,iP 1,.v<|.string ⟨#[]⟩,iP 0,.v<|.slice none 0 0]
abbrev EC:E:=.agg [iP 2,kT [⟨5,0,1,0,0,0⟩],kB [2]]
abbrev NJ:E:=kT [⟨1,0,0,0,1,1⟩,⟨1,0,0,0,2,1⟩,⟨5,3,0,0,0,0⟩,⟨8,1,0,2,0,0⟩,⟨5,4,5,0,0,0⟩]
abbrev Gw:E:=.agg [iP 8,iP<|0+1,iP 0,iP 2,iP 0,iP 0]
abbrev TO:E:=.sl true 1 6 λi_ j_=>[iP 5,iP<|(2+3)-1,iP<|(2+4)-1,iP 0,iP 0,iP 0].getD (i_*6+j_)<|.v<|.bool false
abbrev TP:E:=.sl true 1 6 λi_ j_=>[iP 3,iP<|(1+1)-1,iP<|(1+2)-1,iP 0,iP 0,iP 0].getD (i_*6+j_)<|.v<|.bool false
abbrev NK:Nat->Nat->E:=(λi_ j_=>if i_<0 then AB i_ j_ else(E.jV<|kT [⟨1,0,0,0,1,1⟩]) (i_-0) j_)
abbrev NL:E:=.sl true (0+1) 1 λi_ j_=>if i_<0 then J4 i_ j_ else(E.jV yq) (i_-0) j_
abbrev Gx:E:=.agg [iP 2,kT [⟨1,0,0,0,1,1⟩],kB [2]]
abbrev NM:E:=.sl true 1 1 λi_ j_=>[.v<|.string ⟨#[97]⟩].getD (i_*1+j_)<|.v<|.bool false
abbrev TR:E:=.sl true 1 6 λi_ j_=>[iP 7,iP 0,iP 0,.v<|.string ⟨#[]⟩,iP 0,ad9].getD (i_*6+j_)<|.v<|.bool false
abbrev TS:E:=.sl true 1 6 λi_ j_=>[iP 7,iP<|(2+2)-1,iP 0,iP 0,iP 0,iP 0].getD (i_*6+j_)<|.v<|.bool false
abbrev TU:E:=.sl true 1 6 λi_ j_=>[iP 7,iP<|(1+1)-1,iP 0,iP 0,iP 0,iP 0].getD (i_*6+j_)<|.v<|.bool false
abbrev TV:E:=.sl true 1 6 λi_ j_=>[iP 6,iP<|(1+1)-1,iP 0,iP 0,iP 0,iP 0].getD (i_*6+j_)<|.v<|.bool false
abbrev TW:E:=.sl true 1 6 λi_ j_=>[iP 5,iP 0,iP 0,.v<|.string ⟨#[]⟩,iP 0,ad6].getD (i_*6+j_)<|.v<|.bool false
abbrev TX:E:=.sl true 1 6 λi_ j_=>[iP 5,iP 0,iP 0,.v<|.string ⟨#[]⟩,iP 0,ad0].getD (i_*6+j_)<|.v<|.bool false
abbrev TY:E:=.sl true 1 6 λi_ j_=>[iP 5,iP 0,iP<|(1+2)-1,iP 0,iP 0,iP 0].getD (i_*6+j_)<|.v<|.bool false
abbrev TZ:E:=.sl true 1 6 λi_ j_=>[iP 5,iP<|(2+2)-1,iP 0,iP 0,iP 0,iP 0].getD (i_*6+j_)<|.v<|.bool false
abbrev T3:E:=.sl true 1 6 λi_ j_=>[iP 4,iP<|(1+1)-1,iP 0,iP 0,iP 0,iP 0].getD (i_*6+j_)<|.v<|.bool false
abbrev T4:E:=.sl true 1 6 λi_ j_=>[iP 3,iP 0,iP 0,.v<|.string ⟨#[]⟩,iP 0,ad7].getD (i_*6+j_)<|.v<|.bool false
abbrev Ke:E:=.agg [iP 8,iP 0,iP 0,.v<|.string ⟨#[]⟩,iP 2,J7]
abbrev Kf:E:=.agg [iP 5,iP 0,iP 0,.v<|.string ⟨#[]⟩,iP 0,xE5]
abbrev Kg:E:=.agg [iP 5,iP 0,iP 0,.v<|.string ⟨#[]⟩,iP 0,TK]
abbrev Kh:E:=.agg [iP 4,iP 0,iP 0,.v<|.string ⟨#[]⟩,iP 0,NH]
abbrev T5:E:=.sl true 1 6 λi_ j_=>[iP 6,iP 0,iP 0,.v<|.string ⟨#[]⟩,iP 0,NH].getD (i_*6+j_)<|.v<|.bool false
abbrev T6:E:=.sl true 1 6 λi_ j_=>[iP 7,iP<|0+1,iP 0,iP 0,iP 0,iP 0].getD (i_*6+j_)<|.v<|.bool false
abbrev T7:E:=.sl true 1 6 λi_ j_=>[iP 5,iP<|0+1,iP 0,iP 0,iP 0,iP 0].getD (i_*6+j_)<|.v<|.bool false
abbrev NO:E:=.agg [iP 5,iP<|(2+3)-1,iP<|(2+4)-1,iP 0,iP 0,iP 0]
abbrev T8:E:=.sl true 1 6 λi_ j_=>[iP 1,iP 0,iP 0,iP 0,iP 2,iP 1].getD (i_*6+j_)<|.v<|.bool false
abbrev TE:E:=kT [⟨1,0,0,0,1,1⟩,⟨1,0,0,0,2,1⟩]
abbrev NP:E:=.agg [iP 2,TE,kB [2]]
abbrev NQ:E:=kT [⟨5,0,1,0,0,0⟩,⟨8,1,0,2,0,0⟩,⟨7,3,0,0,0,0⟩]
abbrev NR:E:=kT [⟨1,0,0,0,1,1⟩,⟨8,0,0,2,0,0⟩,⟨3,1,2,0,0,0⟩]
abbrev NS:E:=kT [⟨1,0,0,0,1,1⟩,⟨4,1,0,0,0,0⟩,⟨5,0,2,0,0,0⟩]
abbrev NT:E:=.agg [iP 5,iP<|(2+2)-1,iP 0,iP 0,iP 0,iP 0]
abbrev T9:E:=kT [⟨1,0,0,0,1,1⟩,⟨1,0,0,0,2,1⟩,⟨5,3,0,0,0,0⟩,⟨8,1,0,2,0,0⟩]
abbrev Ua:E:=.sl true 1 1 λi_ j_=>[iP<|(2+5)-1].getD (i_*1+j_)<|.v<|.bool false
abbrev Uc:E:=.sl true 1 1 λi_ j_=>[iP<|(2+3)-1].getD (i_*1+j_)<|.v<|.bool false
abbrev Ud:E:=.sl true 1 1 λi_ j_=>[iP<|(0+1)+1].getD (i_*1+j_)<|.v<|.bool false
abbrev Ue:E:=.sl true 1 1 λi_ j_=>[iP<|0+1].getD (i_*1+j_)<|.v<|.bool false
abbrev NU:E:=.agg [iP 1,iP 0,iP 0,iP 0,iP 2,iP 1]
abbrev Uf:Nat->Nat->E:=(λi_ j_=>if i_<0 then BD i_ j_ else(E.jV<|kB [2]) (i_-0) j_)
abbrev NV:E:=kT [⟨8,0,0,2,0,0⟩,⟨7,1,0,0,0,0⟩]
abbrev NW:E:=kT [⟨1,0,0,0,1,1⟩,⟨6,1,0,0,0,0⟩]
abbrev Ug:E:=.agg [iP 7,iP 0,iP 0,.v<|.string ⟨#[]⟩,iP 0,ad9]
abbrev Uh:E:=.agg [iP 5,iP 0,iP 0,.v<|.string ⟨#[]⟩,iP 0,ad8]
abbrev Ui:E:=.agg [iP 5,iP 0,iP 0,.v<|.string ⟨#[]⟩,iP 0,ad6]
abbrev Uj:E:=.agg [iP 5,iP 0,iP 0,.v<|.string ⟨#[]⟩,iP 0,ad0]
abbrev Uk:E:=.agg [iP 3,iP 0,iP 0,.v<|.string ⟨#[]⟩,iP 0,ad7]
abbrev Ul:E:=.agg [iP 7,iP 0,iP 0,.v<|.string ⟨#[]⟩,iP 0,J7]
abbrev Um:E:=.agg [iP 6,iP 0,iP 0,.v<|.string ⟨#[]⟩,iP 0,NH]
abbrev Un:E:=.agg [iP 3,.v<|.slice none 0 0,.v<|.slice none 0 0]
abbrev aea:E:=.sl true 2 1 λi_ j_=>[.v<|.string ⟨#[116]⟩,.v<|.string ⟨#[120]⟩].getD (i_*1+j_)<|.v<|.bool false
abbrev Tx:E:=.agg [iP 2,kT [⟨7,1,0,0,0,0⟩],kB [2]]
abbrev Ty:E:=.agg [iP 8,iP 0,iP 0,iP 2,iP 0,iP 0]
abbrev Tz:E:=.agg [iP 3,.v<|.slice none 0 0,kB [1]]
abbrev adW:E:=.sl true (0+1) 6 λi_ j_=>if i_<0 then J6 i_ j_ else(E.jV J8) (i_-0) j_
abbrev adX:E:=.sl true (0+1) 6 λi_ j_=>if i_<0 then J6 i_ j_ else(E.jV J5) (i_-0) j_
abbrev adY:E:=.sl true (0+1) 1 λi_ j_=>if i_<0 then J4 i_ j_ else(E.jV Ka) (i_-0) j_
abbrev adZ:E:=.sl true (0+1) 1 λi_ j_=>if i_<0 then J4 i_ j_ else(E.jV J9) (i_-0) j_
abbrev TA:E:=kT [⟨5,0,1,0,0,0⟩,⟨8,1,0,2,0,0⟩]
abbrev TB:E:=kT [⟨1,0,0,0,1,1⟩,⟨8,0,0,2,0,0⟩]
abbrev TC:E:=kT [⟨1,0,0,0,1,1⟩,⟨4,1,0,0,0,0⟩]
abbrev ad1:E:=.agg [iP 3,iP<|(1+1)-1,iP<|(1+2)-1,iP 0,iP 0,iP 0]
abbrev ad2:E:=.agg [iP 7,iP<|(2+2)-1,iP 0,iP 0,iP 0,iP 0]
abbrev ad3:E:=.agg [iP 5,iP 0,iP<|(1+2)-1,iP 0,iP 0,iP 0]
abbrev ad4:E:=.agg [iP 4,iP<|(1+1)-1,iP 0,iP 0,iP 0,iP 0]
abbrev ad5:E:=.agg [iP 5,iP 0,iP<|0+1,iP 0,iP 0,iP 0]
def zH : iA 64 [.v<|.string ⟨#[120]⟩] oF:=
 iM (.nil)
def zI : iA 64 [.v<|.string ⟨#[121]⟩] tY:=
 iM (.nil)
def zJ : iA 64 [.v<|.string ⟨#[116]⟩] Kb:=
 iM (.nil)
def zK : iA 64 [.v<|.string ⟨#[97]⟩] EA:=
 iM (.nil)
def OW : iA 66 [oF] xD:=
 iM (.nil)
def cc6 : iA 65 [iP 7,xD] Ug:=
 iM (.nil)
def cc7 : iA 28 [iP 0]<|.iK [EB,.v<|.slice none 0 0,TR]:=
 iM (af [.c zH,.c zI,.c zJ,.c zK,ah 15 ((0:Int)==0) aK,ag [oF] OW,ag [iP 7,xD] cc6])
def V2 : iA 111 [nA [.v<|.string ⟨#[120]⟩],.v<|.string ⟨#[120]⟩]<|iP 0:=
 iM (af [.u 12,ah 9 (decide ((0:Int)<1)) aK,iX 0 1,.g (vm<|eV _:mi prog .eql 9 (.v<|.string ⟨#[120]⟩) (.v<|.string ⟨#[120]⟩)<|.bool true)])
def V3 : iA 69 [sD,oF,nA [.v<|.string ⟨#[120]⟩]]<|.iK [sD,iP 0]:=
 iM (af [ah 15 ((2:Int)==2) aK,.c V2])
def af7 : iA 69 [sD,xD,nA [.v<|.string ⟨#[120]⟩]]<|.iK [.agg [iP 1,kT [⟨8,0,0,2,0,0⟩],.v<|.slice none 0 0],iP<|(1+1)-1]:=
 iM (af [ai 15 ((8:Int)==2) aK,.u 12,ah 32 (decide ((0:Int)<1)) aK,iX 0 1,ag [sD,oF,nA [.v<|.string ⟨#[120]⟩]] V3,ah 48 ((0:Int)==0) aK,iL<|0+1,.k [9,8,6,4,3,2] [8,3,6,4],ai 32 (decide (((0+1):Int)<1)) aK,.u 12,.o 55 (.e<|.nil _ _ _:aj (.v<|.slice none 0 0)<|.sl true 0 6 λ_ _=>.any),ai 57 (decide ((0:Int)<0)) aK,.bo,.o 74 (.e<|.nil _ _ _:aj (.v<|.slice none 0 0)<|.sl true 0 6 λ_ _=>.any),.a (aI:(0+0)*48<=140737488355328),.o 77 (.refl _:aj Gt Gt),
  .bo,.a (aI:(0+1)*48<=140737488355328),.o 78 (.e<|sT rfl rfl:aj (.sl true (0+1) 6 λi_ j_=>if i_<0 then J6 i_ j_ else(E.jV Gt) (i_-0) j_)<|kT [⟨8,0,0,2,0,0⟩]),
  iL (1+1),iL<|(1+1)-1])
def af8 : iA 69 [sD,Ug,nA [.v<|.string ⟨#[120]⟩]]<|.iK [.agg [iP 1,NV,.v<|.slice none 0 0],iP<|(1+2)-1]:=
 iM (af [ai 15 ((7:Int)==2) aK,.u 12,ah 32 (decide ((0:Int)<1)) aK,iX 0 1,ag [sD,xD,nA [.v<|.string ⟨#[120]⟩]] af7,ah 48 ((0:Int)==0) aK,iL<|0+1,.k [9,8,6,4,3,2] [8,3,6,4],ai 32 (decide (((0+1):Int)<1)) aK,.u 12,ah 57 (decide ((0:Int)<1)) aK,
  iX 0 1,.g (rZ aM aM aM aM aK:mi prog .eql 134 Ty (.agg [iP 7,iP<|(1+1)-1,iP 0,iP 0,iP 0,iP 0])<|.bool false),
  iL (0+1),.k [12,8,6,3] [8,3,6],ai 57 (decide (((0+1):Int)<1)) aK,.bo,.a (aI:(0+1)*48<=140737488355328),.o 77 (.refl _:aj TU TU),
  .bo,.a (aI:(1+1)*48<=140737488355328),.o 78 (.e<|sT rfl rfl:aj (.sl true (1+1) 6 λi_ j_=>if i_<1 then(λi_ j_=>if i_<0 then AB i_ j_ else(E.jV<|kT [⟨8,0,0,2,0,0⟩]) (i_-0) j_) i_ j_ else(E.jV TU) (i_-1) j_) NV),
  iL (1+2),iL<|(1+2)-1])
def af9 : iA 29 [TR,nA [.v<|.string ⟨#[120]⟩]]<|.agg [iP 1,NV,kB [2]]:=
 iM (af [.u 12,ah 15 (decide ((0:Int)<1)) aK,iX 0 1,ag [sD,Ug,nA [.v<|.string ⟨#[120]⟩]] af8,
  .bo,.o 31 (.e<|.nil _ _ _:aj (.v<|.slice none 0 0)<|.sl true 0 1 λ_ _=>.any),.a (aI:(0+0)*8<=140737488355328),.o 34 (.refl _:aj Ka Ka),.bo,.a (aI:(0+1)*8<=140737488355328),.o 35 (.e<|vk rfl rfl:aj adY<|kB [2]),
  iL (0+1),.k [6,5,4,0,1] [5,4],ai 15 (decide (((0+1):Int)<1)) aK])
def aga : iA 13 [iP 0,iQ []]<|.agg [iP 1,NV,kB [2],iP 1,iQ []]:=
 iM (af [.c cc7,.bo,.a (aI:(0+1)*16<=140737488355328),.o 18 (.e<|.nil _ _ _:aj (.v<|.slice none 0 0)<|.sl true 0 1 λ_ _=>.any),.bo,.a (aI:(1+0)*16<=140737488355328),.o 19 (.e<|Aq rfl aK rfl:aj NI<|nA [.v<|.string ⟨#[120]⟩]),ag [TR,nA [.v<|.string ⟨#[120]⟩]] af9])
def afX:iA 13 [iP 0,iQ []]<|lk G5:=by
 refine aga.jQ<|.agg<|.cons (.refl _)<|.cons ?_ (.cons ?_ (.cons (.refl _)<|.cons (.refl _) .nil))
 .exact .refl _
 .exact .refl _
def agb : iA 28 [iP 1]<|.iK [Gr,NM,TG]:=
 iM (af [.c zH,.c zI,.c zJ,.c zK,ai 15 ((1:Int)==0) aK,ah 22 ((1:Int)==1) aK])
def agc : iA 111 [zx,.v<|.string ⟨#[121]⟩]<|iP<|0+1:=
 iM (af [.u 12,ah 9 (decide ((0:Int)<3)) aK,iX 0 3,.g (vm aT:mi prog .eql 9 (.v<|.string ⟨#[120]⟩) (.v<|.string ⟨#[121]⟩)<|.bool false),iL<|0+1,ah 9 (decide (((0+1):Int)<3)) aK,iX (0+1) 3,.g (vm<|eV _:mi prog .eql 9 (.v<|.string ⟨#[121]⟩) (.v<|.string ⟨#[121]⟩)<|.bool true)])
def agd : iA 69 [Un,tY,zx]<|.iK [Un,iP<|0+1]:=
 iM (af [ah 15 ((2:Int)==2) aK,ag [zx,.v<|.string ⟨#[121]⟩] agc])
def age : iA 111 [zx,.v<|.string ⟨#[97]⟩]<|iP<|(0+1)+1:=
 iM (af [.u 12,ah 9 (decide ((0:Int)<3)) aK,iX 0 3,.g (vm aT:mi prog .eql 9 (.v<|.string ⟨#[120]⟩) (.v<|.string ⟨#[97]⟩)<|.bool false),iL<|0+1,ah 9 (decide (((0+1):Int)<3)) aK,iX (0+1) 3,.g (vm aT:mi prog .eql 9 (.v<|.string ⟨#[121]⟩) (.v<|.string ⟨#[97]⟩)<|.bool false),iL<|(0+1)+1,ah 9 (decide ((((0+1)+1):Int)<3)) aK,iX ((0+1)+1) 3,.g (vm<|eV _:mi prog .eql 9 (.v<|.string ⟨#[97]⟩) (.v<|.string ⟨#[97]⟩)<|.bool true)])
def agf : iA 69 [Tz,EA,zx]<|.iK [Tz,iP<|(0+1)+1]:=
 iM (af [ah 15 ((2:Int)==2) aK,ag [zx,.v<|.string ⟨#[97]⟩] age])
def agh : iA 29 [TG,zx]<|.agg [iP 3,.v<|.slice none 0 0,kB [1,2]]:=
 iM (af [.u 12,ah 15 (decide ((0:Int)<2)) aK,iX 0 2,ag [Un,tY,zx] agd,
  .bo,.o 31 (.e<|.nil _ _ _:aj (.v<|.slice none 0 0)<|.sl true 0 1 λ_ _=>.any),.a (aI:(0+0)*8<=140737488355328),.o 34 (.refl _:aj Ue Ue),.bo,.a (aI:(0+1)*8<=140737488355328),.o 35 (.e<|vk rfl rfl:aj (.sl true (0+1) 1 λi_ j_=>if i_<0 then J4 i_ j_ else(E.jV Ue) (i_-0) j_)<|kB [1]),
  iL (0+1),.k [6,5,4,0,1] [5,4],ah 15 (decide (((0+1):Int)<2)) aK,iX (0+1) 2,ag [Tz,EA,zx] agf,
  .bo,.a (aI:(0+1)*8<=140737488355328),.o 34 (.refl _:aj Ud Ud),.bo,.a (aI:(1+1)*8<=140737488355328),.o 35 (.e<|vk rfl rfl:aj (.sl true (1+1) 1 λi_ j_=>if i_<1 then(λi_ j_=>if i_<0 then BD i_ j_ else(E.jV<|kB [1]) (i_-0) j_) i_ j_ else(E.jV Ud) (i_-1) j_)<|kB [1,2]),
  iL ((0+1)+1),.k [6,5,4,0,1] [5,4],ai 15 (decide ((((0+1)+1):Int)<2)) aK])
def agi(A:Iv):iA 13 [iP 1,iQ [A]]<|.agg [iP 3,.v<|.slice none 0 0,kB [1,2],iP 2,iQ [A]]:=
 iM (af [.c agb,.bo,.a (aI:(0+2)*16<=140737488355328),.bo,.a (aI:(2+1)*16<=140737488355328),.o 19 (.e<|Aq rfl aK rfl:aj (.sl true (2+1) 1 λi_ j_=>if i_<2 then(λi_ j_=>if i_<0 then BD i_ j_ else(E.jV Gr) (i_-0) j_) i_ j_ else(E.jV NM) (i_-2) j_) zx),ag [TG,zx] agh])
def afY(A:Iv):iA 13 [iP 1,iQ [A]]<|lk<|G6 A:=by
 refine(agi A).jQ<|.agg<|.cons (.refl _)<|.cons ?_ (.cons ?_ (.cons (.refl _)<|.cons (.refl _) .nil))
 .exact .nil _ _ _
 .exact .refl _
def VY : iA 67 [iP 5,oF,tY] Kg:=
 iM (.nil)
def agj : iA 66 [tY] Ke:=
 iM (.nil)
def agk : iA 65 [iP 7,Ke] TM:=
 iM (.nil)
def agl : iA 28 [iP 2]<|.iK [Gr,.v<|.slice none 0 0,TF]:=
 iM (af [.c zH,.c zI,.c zJ,.c zK,ai 15 ((2:Int)==0) aK,ai 22 ((2:Int)==1) aK,ah 29 ((2:Int)==2) aK,ag [iP 5,oF,tY] VY,ag [tY] agj,ag [iP 7,Ke] agk])
def OU : iA 111 [nG,.v<|.string ⟨#[120]⟩]<|iP 0:=
 iM (af [.u 12,ah 9 (decide ((0:Int)<2)) aK,iX 0 2,.g (vm<|eV _:mi prog .eql 9 (.v<|.string ⟨#[120]⟩) (.v<|.string ⟨#[120]⟩)<|.bool true)])
def VZ : iA 69 [rF,oF,nG]<|.iK [rF,iP 0]:=
 iM (af [ah 15 ((2:Int)==2) aK,ag [nG,.v<|.string ⟨#[120]⟩] OU])
def OV : iA 111 [nG,.v<|.string ⟨#[121]⟩]<|iP<|0+1:=
 iM (af [.u 12,ah 9 (decide ((0:Int)<2)) aK,iX 0 2,.g (vm aT:mi prog .eql 9 (.v<|.string ⟨#[120]⟩) (.v<|.string ⟨#[121]⟩)<|.bool false),iL<|0+1,ah 9 (decide (((0+1):Int)<2)) aK,iX (0+1) 2,.g (vm<|eV _:mi prog .eql 9 (.v<|.string ⟨#[121]⟩) (.v<|.string ⟨#[121]⟩)<|.bool true)])
def V1 : iA 69 [rF,tY,nG]<|.iK [rF,iP<|0+1]:=
 iM (af [ah 15 ((2:Int)==2) aK,ag [nG,.v<|.string ⟨#[121]⟩] OV])
def agm : iA 69 [rF,Kg,nG]<|.iK [.agg [iP 2,kT [⟨5,0,1,0,0,0⟩],.v<|.slice none 0 0],iP<|(2+1)-1]:=
 iM (af [ai 15 ((5:Int)==2) aK,.u 12,ah 32 (decide ((0:Int)<2)) aK,iX 0 2,ag [rF,oF,nG] VZ,ah 48 ((0:Int)==0) aK,iL<|0+1,.k [9,8,6,4,3,2] [8,3,6,4],ah 32 (decide (((0+1):Int)<2)) aK,iX (0+1) 2,ag [rF,tY,nG] V1,ai 48 (((0+1):Int)==0) aK,iL<|(0+1)+1,.k [9,8,6,4,3,2] [8,3,6,4],ai 32 (decide ((((0+1)+1):Int)<2)) aK,.u 12,.o 55 (.e<|.nil _ _ _:aj (.v<|.slice none 0 0)<|.sl true 0 6 λ_ _=>.any),ai 57 (decide ((0:Int)<0)) aK,.bo,.o 74 (.e<|.nil _ _ _:aj (.v<|.slice none 0 0)<|.sl true 0 6 λ_ _=>.any),.a (aI:(0+0)*48<=140737488355328),.o 77 (.refl _:aj J5 J5),
  .bo,.a (aI:(0+1)*48<=140737488355328),.o 78 (.e<|sT rfl rfl:aj adX<|kT [⟨5,0,1,0,0,0⟩]),
  iL (2+1),iL<|(2+1)-1])
def agn : iA 69 [EC,tY,nG]<|.iK [EC,iP<|0+1]:=
 iM (af [ah 15 ((2:Int)==2) aK,ag [nG,.v<|.string ⟨#[121]⟩] OV])
def ago : iA 69 [EC,Ke,nG]<|.iK [.agg [iP 2,TA,kB [2]],iP<|(2+2)-1]:=
 iM (af [ai 15 ((8:Int)==2) aK,.u 12,ah 32 (decide ((0:Int)<1)) aK,iX 0 1,ag [EC,tY,nG] agn,ah 48 ((0:Int)==0) aK,iL<|0+1,.k [9,8,6,4,3,2] [8,3,6,4],ai 32 (decide (((0+1):Int)<1)) aK,.u 12,ah 57 (decide ((0:Int)<1)) aK,
  iX 0 1,.g (rZ aM aM aM aM aK:mi prog .eql 134 ad5 Gw<|.bool false),
  iL (0+1),.k [12,8,6,3] [8,3,6],ai 57 (decide (((0+1):Int)<1)) aK,.bo,.a (aI:(0+1)*48<=140737488355328),.o 77 (.refl _:aj Gs Gs),
  .bo,.a (aI:(1+1)*48<=140737488355328),.o 78 (.e<|sT rfl rfl:aj (.sl true (1+1) 6 λi_ j_=>if i_<1 then(λi_ j_=>if i_<0 then AB i_ j_ else(E.jV<|kT [⟨5,0,1,0,0,0⟩]) (i_-0) j_) i_ j_ else(E.jV Gs) (i_-1) j_) TA),
  iL (2+2),iL<|(2+2)-1])
def agp : iA 69 [EC,TM,nG]<|.iK [.agg [iP 2,NQ,kB [2]],iP<|(2+3)-1]:=
 iM (af [ai 15 ((7:Int)==2) aK,.u 12,ah 32 (decide ((0:Int)<1)) aK,iX 0 1,ag [EC,Ke,nG] ago,ah 48 ((0:Int)==0) aK,iL<|0+1,.k [9,8,6,4,3,2] [8,3,6,4],ai 32 (decide (((0+1):Int)<1)) aK,.u 12,ah 57 (decide ((0:Int)<2)) aK,
  iX 0 2,.g (rZ aM aM aM aM aK:mi prog .eql 134 ad5 ad2<|.bool false),
  iL (0+1),.k [12,8,6,3] [8,3,6],ah 57 (decide (((0+1):Int)<2)) aK,iX (0+1) 2,.g (rZ aM aM aM aM aK:mi prog .eql 134 Gw ad2<|.bool false),
  iL ((0+1)+1),ai 57 (decide ((((0+1)+1):Int)<2)) aK,.bo,.a (aI:(0+2)*48<=140737488355328),.o 77 (.refl _:aj TS TS),
  .bo,.a (aI:(2+1)*48<=140737488355328),.o 78 (.e<|sT rfl rfl:aj (.sl true (2+1) 6 λi_ j_=>if i_<2 then(λi_ j_=>if i_<0 then AB i_ j_ else(E.jV TA) (i_-0) j_) i_ j_ else(E.jV TS) (i_-2) j_) NQ),
  iL (2+3),iL<|(2+3)-1])
def agq : iA 29 [TF,nG]<|.agg [iP 2,NQ,kB [2,4]]:=
 iM (af [.u 12,ah 15 (decide ((0:Int)<2)) aK,iX 0 2,ag [rF,Kg,nG] agm,
  .bo,.o 31 (.e<|.nil _ _ _:aj (.v<|.slice none 0 0)<|.sl true 0 1 λ_ _=>.any),.a (aI:(0+0)*8<=140737488355328),.o 34 (.refl _:aj yq yq),.bo,.a (aI:(0+1)*8<=140737488355328),.o 35 (.e<|vk rfl rfl:aj NL<|kB [2]),
  iL (0+1),.k [6,5,4,0,1] [5,4],ah 15 (decide (((0+1):Int)<2)) aK,iX (0+1) 2,ag [EC,TM,nG] agp,
  .bo,.a (aI:(0+1)*8<=140737488355328),.o 34 (.refl _:aj Uc Uc),.bo,.a (aI:(1+1)*8<=140737488355328),.o 35 (.e<|vk rfl rfl:aj (.sl true (1+1) 1 λi_ j_=>if i_<1 then Uf i_ j_ else(E.jV Uc) (i_-1) j_)<|kB [2,4]),
  iL ((0+1)+1),.k [6,5,4,0,1] [5,4],ai 15 (decide ((((0+1)+1):Int)<2)) aK])
def agr : iA 13 [iP 2,iQ []]<|.agg [iP 2,NQ,kB [2,4],iP 2,iQ []]:=
 iM (af [.c agl,.bo,.a (aI:(0+2)*16<=140737488355328),.o 18 (.e<|.nil _ _ _:aj (.v<|.slice none 0 0)<|.sl true 0 1 λ_ _=>.any),.bo,.a (aI:(2+0)*16<=140737488355328),.o 19 (.e<|Aq rfl aK rfl:aj TN nG),ag [TF,nG] agq])
def afZ:iA 13 [iP 2,iQ []]<|lk G7:=by
 refine agr.jQ<|.agg<|.cons (.refl _)<|.cons ?_ (.cons ?_ (.cons (.refl _)<|.cons (.refl _) .nil))
 .exact .refl _
 .exact .refl _
def KO : iA 68 [iP 1] xC:=
 iM (.nil)
def ags : iA 68 [iP 2] Kd:=
 iM (.nil)
def agt : iA 67 [iP 5,Kd,Kb] Kf:=
 iM (.nil)
def agu : iA 67 [iP 5,Kf,xD] Uh:=
 iM (.nil)
def agv : iA 28 [iP 3]<|.iK [aea,.v<|.slice none 0 0,TL]:=
 iM (af [.c zH,.c zI,.c zJ,.c zK,ai 15 ((3:Int)==0) aK,ai 22 ((3:Int)==1) aK,ai 29 ((3:Int)==2) aK,ah 39 ((3:Int)==3) aK,.c KO,.c ags,ag [iP 5,Kd,Kb] agt,ag [oF] OW,ag [iP 5,Kf,xD] agu])
def agw : iA 69 [rF,xC,sj]<|.iK [.agg [iP 2,kT [⟨1,0,0,0,1,1⟩],.v<|.slice none 0 0],iP<|(2+1)-1]:=
 iM (af [ai 15 ((1:Int)==2) aK,.u 12,ai 32 (decide ((0:Int)<0)) aK,.u 12,.o 55 (.e<|.nil _ _ _:aj (.v<|.slice none 0 0)<|.sl true 0 6 λ_ _=>.any),ai 57 (decide ((0:Int)<0)) aK,.bo,.o 74 (.e<|.nil _ _ _:aj (.v<|.slice none 0 0)<|.sl true 0 6 λ_ _=>.any),.a (aI:(0+0)*48<=140737488355328),.o 77 (.refl _:aj J8 J8),
  .bo,.a (aI:(0+1)*48<=140737488355328),.o 78 (.e<|sT rfl rfl:aj adW<|kT [⟨1,0,0,0,1,1⟩]),
  iL (2+1),iL<|(2+1)-1])
def agx : iA 69 [Gx,Kd,sj]<|.iK [NP,iP<|(2+2)-1]:=
 iM (af [ai 15 ((1:Int)==2) aK,.u 12,ai 32 (decide ((0:Int)<0)) aK,.u 12,ah 57 (decide ((0:Int)<1)) aK,iX 0 1,.g (rZ aM aM aM aM aK:mi prog .eql 134 BC NU<|.bool false),
  iL (0+1),.k [12,8,6,3] [8,6,3],ai 57 (decide (((0+1):Int)<1)) aK,.bo,.a (aI:(0+1)*48<=140737488355328),.o 77 (.refl _:aj T8 T8),
  .bo,.a (aI:(1+1)*48<=140737488355328),.o 78 (.e<|sT rfl rfl:aj (.sl true (1+1) 6 λi_ j_=>if i_<1 then NK i_ j_ else(E.jV T8) (i_-1) j_) TE),
  iL (2+2),iL<|(2+2)-1])
def agy : iA 111 [sj,.v<|.string ⟨#[116]⟩]<|iP 0:=
 iM (af [.u 12,ah 9 (decide ((0:Int)<2)) aK,iX 0 2,.g (vm<|eV _:mi prog .eql 9 (.v<|.string ⟨#[116]⟩) (.v<|.string ⟨#[116]⟩)<|.bool true)])
def agz : iA 69 [NP,Kb,sj]<|.iK [NP,iP 0]:=
 iM (af [ah 15 ((2:Int)==2) aK,ag [sj,.v<|.string ⟨#[116]⟩] agy])
def agA : iA 69 [Gx,Kf,sj]<|.iK [Gu,iP<|(2+3)-1]:=
 iM (af [ai 15 ((5:Int)==2) aK,.u 12,ah 32 (decide ((0:Int)<2)) aK,iX 0 2,ag [Gx,Kd,sj] agx,ah 48 ((0:Int)==0) aK,iL<|0+1,.k [9,8,6,4,3,2] [8,3,6,4],ah 32 (decide (((0+1):Int)<2)) aK,iX (0+1) 2,ag [NP,Kb,sj] agz,ai 48 (((0+1):Int)==0) aK,iL<|(0+1)+1,.k [9,8,6,4,3,2] [8,3,6,4],ai 32 (decide ((((0+1)+1):Int)<2)) aK,.u 12,ah 57 (decide ((0:Int)<2)) aK,iX 0 2,.g (rZ aM aM aM aM aK:mi prog .eql 134 BC NT<|.bool false),
  iL (0+1),.k [12,8,6,3] [8,3,6],ah 57 (decide (((0+1):Int)<2)) aK,iX (0+1) 2,.g (rZ aM aM aM aM aK:mi prog .eql 134 NU NT<|.bool false),
  iL ((0+1)+1),ai 57 (decide ((((0+1)+1):Int)<2)) aK,.bo,.a (aI:(0+2)*48<=140737488355328),.o 77 (.refl _:aj TZ TZ),
  .bo,.a (aI:(2+1)*48<=140737488355328),.o 78 (.e<|sT rfl rfl:aj (.sl true (2+1) 6 λi_ j_=>if i_<2 then(λi_ j_=>if i_<0 then AB i_ j_ else(E.jV TE) (i_-0) j_) i_ j_ else(E.jV TZ) (i_-2) j_) TD),
  iL (2+3),iL<|(2+3)-1])
def agB : iA 111 [sj,.v<|.string ⟨#[120]⟩]<|iP<|0+1:=
 iM (af [.u 12,ah 9 (decide ((0:Int)<2)) aK,iX 0 2,.g (vm aT:mi prog .eql 9 (.v<|.string ⟨#[116]⟩) (.v<|.string ⟨#[120]⟩)<|.bool false),iL<|0+1,ah 9 (decide (((0+1):Int)<2)) aK,iX (0+1) 2,.g (vm<|eV _:mi prog .eql 9 (.v<|.string ⟨#[120]⟩) (.v<|.string ⟨#[120]⟩)<|.bool true)])
def agC : iA 69 [Gu,oF,sj]<|.iK [Gu,iP<|0+1]:=
 iM (af [ah 15 ((2:Int)==2) aK,ag [sj,.v<|.string ⟨#[120]⟩] agB])
def agD : iA 69 [Gu,xD,sj]<|.iK [.agg [iP 2,T9,kB [2]],iP<|(2+4)-1]:=
 iM (af [ai 15 ((8:Int)==2) aK,.u 12,ah 32 (decide ((0:Int)<1)) aK,iX 0 1,ag [Gu,oF,sj] agC,ah 48 ((0:Int)==0) aK,iL<|0+1,.k [9,8,6,4,3,2] [8,3,6,4],ai 32 (decide (((0+1):Int)<1)) aK,.u 12,ah 57 (decide ((0:Int)<3)) aK,
  iX 0 3,.g (rZ aM aM aM aM aK:mi prog .eql 134 BC Gw<|.bool false),
  iL (0+1),.k [12,8,6,3] [8,3,6],ah 57 (decide (((0+1):Int)<3)) aK,iX (0+1) 3,.g (rZ aM aM aM aM aK:mi prog .eql 134 NU Gw<|.bool false),
  iL ((0+1)+1),ah 57 (decide ((((0+1)+1):Int)<3)) aK,iX ((0+1)+1) 3,.g (rZ aM aM aM aM aK:mi prog .eql 134 NT Gw<|.bool false),
  iL (((0+1)+1)+1),ai 57 (decide (((((0+1)+1)+1):Int)<3)) aK,.bo,.a (aI:(0+3)*48<=140737488355328),.o 77 (.refl _:aj Gs Gs),
  .bo,.a (aI:(3+1)*48<=140737488355328),.o 78 (.e<|sT rfl rfl:aj (.sl true (3+1) 6 λi_ j_=>if i_<3 then(λi_ j_=>if i_<0 then AB i_ j_ else(E.jV TD) (i_-0) j_) i_ j_ else(E.jV Gs) (i_-3) j_) T9),
  iL (2+4),iL<|(2+4)-1])
def agE : iA 69 [Gx,Uh,sj]<|.iK [.agg [iP 2,NJ,kB [2]],iP<|(2+5)-1]:=
 iM (af [ai 15 ((5:Int)==2) aK,.u 12,ah 32 (decide ((0:Int)<2)) aK,iX 0 2,ag [Gx,Kf,sj] agA,ah 48 ((0:Int)==0) aK,iL<|0+1,.k [9,8,6,4,3,2] [8,3,6,4],ah 32 (decide (((0+1):Int)<2)) aK,iX (0+1) 2,ag [Gu,xD,sj] agD,ai 48 (((0+1):Int)==0) aK,iL<|(0+1)+1,.k [9,8,6,4,3,2] [8,3,6,4],ai 32 (decide ((((0+1)+1):Int)<2)) aK,.u 12,ah 57 (decide ((0:Int)<4)) aK,iX 0 4,.g (rZ aM aM aM aM aK:mi prog .eql 134 BC NO<|.bool false),
  iL (0+1),.k [12,8,6,3] [8,3,6],ah 57 (decide (((0+1):Int)<4)) aK,iX (0+1) 4,.g (rZ aM aM aM aM aK:mi prog .eql 134 NU NO<|.bool false),
  iL ((0+1)+1),ah 57 (decide ((((0+1)+1):Int)<4)) aK,iX ((0+1)+1) 4,.g (rZ aM aM aM aM aK:mi prog .eql 134 NT NO<|.bool false),
  iL (((0+1)+1)+1),ah 57 (decide (((((0+1)+1)+1):Int)<4)) aK,iX (((0+1)+1)+1) 4,.g (rZ aM aM aM aM aK:mi prog .eql 134 Gw NO<|.bool false),
  iL ((((0+1)+1)+1)+1),ai 57 (decide ((((((0+1)+1)+1)+1):Int)<4)) aK,.bo,.a (aI:(0+4)*48<=140737488355328),.o 77 (.refl _:aj TO TO),
  .bo,.a (aI:(4+1)*48<=140737488355328),.o 78 (.e<|sT rfl rfl:aj (.sl true (4+1) 6 λi_ j_=>if i_<4 then(λi_ j_=>if i_<0 then AB i_ j_ else(E.jV T9) (i_-0) j_) i_ j_ else(E.jV TO) (i_-4) j_) NJ),
  iL (2+5),iL<|(2+5)-1])
def agF : iA 29 [TL,sj]<|.agg [iP 2,NJ,kB [2,6]]:=
 iM (af [.u 12,ah 15 (decide ((0:Int)<2)) aK,iX 0 2,ag [rF,xC,sj] agw,.bo,.o 31 (.e<|.nil _ _ _:aj (.v<|.slice none 0 0)<|.sl true 0 1 λ_ _=>.any),.a (aI:(0+0)*8<=140737488355328),.o 34 (.refl _:aj yq yq),.bo,.a (aI:(0+1)*8<=140737488355328),.o 35 (.e<|vk rfl rfl:aj NL<|kB [2]),
  iL (0+1),.k [6,5,4,0,1] [5,4],ah 15 (decide (((0+1):Int)<2)) aK,iX (0+1) 2,ag [Gx,Uh,sj] agE,
  .bo,.a (aI:(0+1)*8<=140737488355328),.o 34 (.refl _:aj Ua Ua),.bo,.a (aI:(1+1)*8<=140737488355328),.o 35 (.e<|vk rfl rfl:aj (.sl true (1+1) 1 λi_ j_=>if i_<1 then Uf i_ j_ else(E.jV Ua) (i_-1) j_)<|kB [2,6]),
  iL ((0+1)+1),.k [6,5,4,0,1] [5,4],ai 15 (decide ((((0+1)+1):Int)<2)) aK])
def agG : iA 13 [iP 3,iQ []]<|.agg [iP 2,NJ,kB [2,6],iP 2,iQ []]:=
 iM (af [.c agv,.bo,.a (aI:(0+2)*16<=140737488355328),.o 18 (.e<|.nil _ _ _:aj (.v<|.slice none 0 0)<|.sl true 0 1 λ_ _=>.any),.bo,.a (aI:(2+0)*16<=140737488355328),.o 19 (.e<|Aq rfl aK rfl:aj (.sl true (2+0) 1 λi_ j_=>if i_<2 then(λi_ j_=>if i_<0 then BD i_ j_ else(E.jV aea) (i_-0) j_) i_ j_ else(E.jV<|.sl true 0 1 λ_ _=>.any) (i_-2) j_) sj),ag [TL,sj] agF])
def af0:iA 13 [iP 3,iQ []]<|lk BM:=by
 refine agG.jQ<|.agg<|.cons (.refl _)<|.cons ?_ (.cons ?_ (.cons (.refl _)<|.cons (.refl _) .nil))
 .exact .refl _
 .exact .refl _
def agH : iA 67 [iP 5,EA,oF] Uj:=
 iM (.nil)
def agI : iA 28 [iP 4]<|.iK [EB,NM,TX]:=
 iM (af [.c zH,.c zI,.c zJ,.c zK,ai 15 ((4:Int)==0) aK,ai 22 ((4:Int)==1) aK,ai 29 ((4:Int)==2) aK,ai 39 ((4:Int)==3) aK,ah 50 ((4:Int)==4) aK,ag [iP 5,EA,oF] agH])
def agJ : iA 111 [xE,.v<|.string ⟨#[97]⟩]<|iP<|0+1:=
 iM (af [.u 12,ah 9 (decide ((0:Int)<2)) aK,iX 0 2,.g (vm aT:mi prog .eql 9 (.v<|.string ⟨#[120]⟩) (.v<|.string ⟨#[97]⟩)<|.bool false),iL<|0+1,ah 9 (decide (((0+1):Int)<2)) aK,iX (0+1) 2,.g (vm<|eV _:mi prog .eql 9 (.v<|.string ⟨#[97]⟩) (.v<|.string ⟨#[97]⟩)<|.bool true)])
def agK : iA 69 [rF,EA,xE]<|.iK [rF,iP<|0+1]:=
 iM (af [ah 15 ((2:Int)==2) aK,ag [xE,.v<|.string ⟨#[97]⟩] agJ])
def agL : iA 111 [xE,.v<|.string ⟨#[120]⟩]<|iP 0:=
 iM (af [.u 12,ah 9 (decide ((0:Int)<2)) aK,iX 0 2,.g (vm<|eV _:mi prog .eql 9 (.v<|.string ⟨#[120]⟩) (.v<|.string ⟨#[120]⟩)<|.bool true)])
def agM : iA 69 [rF,oF,xE]<|.iK [rF,iP 0]:=
 iM (af [ah 15 ((2:Int)==2) aK,ag [xE,.v<|.string ⟨#[120]⟩] agL])
def agN : iA 69 [rF,Uj,xE]<|.iK [.agg [iP 2,kT [⟨5,1,0,0,0,0⟩],.v<|.slice none 0 0],iP<|(2+1)-1]:=
 iM (af [ai 15 ((5:Int)==2) aK,.u 12,ah 32 (decide ((0:Int)<2)) aK,iX 0 2,ag [rF,EA,xE] agK,ah 48 ((0:Int)==0) aK,iL<|0+1,.k [9,8,6,4,3,2] [8,3,6,4],ah 32 (decide (((0+1):Int)<2)) aK,iX (0+1) 2,ag [rF,oF,xE] agM,ai 48 (((0+1):Int)==0) aK,iL<|(0+1)+1,.k [9,8,6,4,3,2] [8,3,6,4],ai 32 (decide ((((0+1)+1):Int)<2)) aK,.u 12,.o 55 (.e<|.nil _ _ _:aj (.v<|.slice none 0 0)<|.sl true 0 6 λ_ _=>.any),ai 57 (decide ((0:Int)<0)) aK,.bo,.o 74 (.e<|.nil _ _ _:aj (.v<|.slice none 0 0)<|.sl true 0 6 λ_ _=>.any),.a (aI:(0+0)*48<=140737488355328),.o 77 (.refl _:aj T7 T7),
  .bo,.a (aI:(0+1)*48<=140737488355328),.o 78 (.e<|sT rfl rfl:aj (.sl true (0+1) 6 λi_ j_=>if i_<0 then J6 i_ j_ else(E.jV T7) (i_-0) j_)<|kT [⟨5,1,0,0,0,0⟩]),
  iL (2+1),iL<|(2+1)-1])
def agO : iA 29 [TX,xE]<|.agg [iP 2,kT [⟨5,1,0,0,0,0⟩],kB [2]]:=
 iM (af [.u 12,ah 15 (decide ((0:Int)<1)) aK,iX 0 1,ag [rF,Uj,xE] agN,
  .bo,.o 31 (.e<|.nil _ _ _:aj (.v<|.slice none 0 0)<|.sl true 0 1 λ_ _=>.any),.a (aI:(0+0)*8<=140737488355328),.o 34 (.refl _:aj yq yq),.bo,.a (aI:(0+1)*8<=140737488355328),.o 35 (.e<|vk rfl rfl:aj NL<|kB [2]),
  iL (0+1),.k [6,5,4,0,1] [5,4],ai 15 (decide (((0+1):Int)<1)) aK])
def agP(A:Iv):iA 13 [iP 4,iQ [A]]<|.agg [iP 2,kT [⟨5,1,0,0,0,0⟩],kB [2],iP 1,iQ [A]]:=
 iM (af [.c agI,.bo,.a (aI:(0+1)*16<=140737488355328),.bo,.a (aI:(1+1)*16<=140737488355328),.o 19 (.e<|Aq rfl aK rfl:aj (.sl true (1+1) 1 λi_ j_=>if i_<1 then(λi_ j_=>if i_<0 then BD i_ j_ else(E.jV EB) (i_-0) j_) i_ j_ else(E.jV NM) (i_-1) j_) xE),ag [TX,xE] agO])
def af1(A:Iv):iA 13 [iP 4,iQ [A]]<|lk<|G8 A:=by
 refine(agP A).jQ<|.agg<|.cons (.refl _)<|.cons ?_ (.cons ?_ (.cons (.refl _)<|.cons (.refl _) .nil))
 .exact .refl _
 .exact .refl _
def agQ : iA 65 [iP 7,tY] Ul:=
 iM (.nil)
def agR : iA 28 [iP 5]<|.iK [Gr,.v<|.slice none 0 0,TH]:=
 iM (af [.c zH,.c zI,.c zJ,.c zK,ai 15 ((5:Int)==0) aK,ai 22 ((5:Int)==1) aK,ai 29 ((5:Int)==2) aK,ai 39 ((5:Int)==3) aK,ai 50 ((5:Int)==4) aK,ah 58 ((5:Int)==5) aK,ag [iP 7,tY] agQ])
def agS : iA 69 [rF,Ul,nG]<|.iK [.agg [iP 2,kT [⟨7,1,0,0,0,0⟩],.v<|.slice none 0 0],iP<|(2+1)-1]:=
 iM (af [ai 15 ((7:Int)==2) aK,.u 12,ah 32 (decide ((0:Int)<1)) aK,iX 0 1,ag [rF,tY,nG] V1,ah 48 ((0:Int)==0) aK,iL<|0+1,.k [9,8,6,4,3,2] [8,3,6,4],ai 32 (decide (((0+1):Int)<1)) aK,.u 12,.o 55 (.e<|.nil _ _ _:aj (.v<|.slice none 0 0)<|.sl true 0 6 λ_ _=>.any),ai 57 (decide ((0:Int)<0)) aK,.bo,.o 74 (.e<|.nil _ _ _:aj (.v<|.slice none 0 0)<|.sl true 0 6 λ_ _=>.any),.a (aI:(0+0)*48<=140737488355328),.o 77 (.refl _:aj T6 T6),
  .bo,.a (aI:(0+1)*48<=140737488355328),.o 78 (.e<|sT rfl rfl:aj (.sl true (0+1) 6 λi_ j_=>if i_<0 then J6 i_ j_ else(E.jV T6) (i_-0) j_)<|kT [⟨7,1,0,0,0,0⟩]),
  iL (2+1),iL<|(2+1)-1])
def agT : iA 69 [Tx,oF,nG]<|.iK [Tx,iP 0]:=
 iM (af [ah 15 ((2:Int)==2) aK,ag [nG,.v<|.string ⟨#[120]⟩] OU])
def agU : iA 29 [TH,nG]<|.agg [iP 2,kT [⟨7,1,0,0,0,0⟩],kB [2,0]]:=
 iM (af [.u 12,ah 15 (decide ((0:Int)<2)) aK,iX 0 2,ag [rF,Ul,nG] agS,
  .bo,.o 31 (.e<|.nil _ _ _:aj (.v<|.slice none 0 0)<|.sl true 0 1 λ_ _=>.any),.a (aI:(0+0)*8<=140737488355328),.o 34 (.refl _:aj yq yq),.bo,.a (aI:(0+1)*8<=140737488355328),.o 35 (.e<|vk rfl rfl:aj NL<|kB [2]),
  iL (0+1),.k [6,5,4,0,1] [5,4],ah 15 (decide (((0+1):Int)<2)) aK,iX (0+1) 2,ag [Tx,oF,nG] agT,.bo,.a (aI:(0+1)*8<=140737488355328),.o 34 (.refl _:aj Gv Gv),.bo,.a (aI:(1+1)*8<=140737488355328),.o 35 (.e<|vk rfl rfl:aj (.sl true (1+1) 1 λi_ j_=>if i_<1 then Uf i_ j_ else(E.jV Gv) (i_-1) j_)<|kB [2,0]),
  iL ((0+1)+1),.k [6,5,4,0,1] [5,4],ai 15 (decide ((((0+1)+1):Int)<2)) aK])
def agV : iA 13 [iP 5,iQ []]<|.agg [iP 2,kT [⟨7,1,0,0,0,0⟩],kB [2,0],iP 2,iQ []]:=
 iM (af [.c agR,.bo,.a (aI:(0+2)*16<=140737488355328),.o 18 (.e<|.nil _ _ _:aj (.v<|.slice none 0 0)<|.sl true 0 1 λ_ _=>.any),.bo,.a (aI:(2+0)*16<=140737488355328),.o 19 (.e<|Aq rfl aK rfl:aj TN nG),ag [TH,nG] agU])
def af2:iA 13 [iP 5,iQ []]<|lk EU:=by
 refine agV.jQ<|.agg<|.cons (.refl _)<|.cons ?_ (.cons ?_ (.cons (.refl _)<|.cons (.refl _) .nil))
 .exact .refl _
 .exact .refl _
def agW : iA 67 [iP 4,xC,oF] Kh:=
 iM (.nil)
def agX : iA 67 [iP 5,oF,Kh] Ui:=
 iM (.nil)
def agY : iA 28 [iP 6]<|.iK [EB,.v<|.slice none 0 0,TW]:=
 iM (af [.c zH,.c zI,.c zJ,.c zK,ai 15 ((6:Int)==0) aK,ai 22 ((6:Int)==1) aK,ai 29 ((6:Int)==2) aK,ai 39 ((6:Int)==3) aK,ai 50 ((6:Int)==4) aK,ai 58 ((6:Int)==5) aK,ah 65 ((6:Int)==6) aK,.c KO,ag [iP 4,xC,oF] agW,ag [iP 5,oF,Kh] agX])
def OX : iA 69 [sD,xC,nA [.v<|.string ⟨#[120]⟩]]<|.iK [CQ,iP<|(1+1)-1]:=
 iM (af [ai 15 ((1:Int)==2) aK,.u 12,ai 32 (decide ((0:Int)<0)) aK,.u 12,.o 55 (.e<|.nil _ _ _:aj (.v<|.slice none 0 0)<|.sl true 0 6 λ_ _=>.any),ai 57 (decide ((0:Int)<0)) aK,.bo,.o 74 (.e<|.nil _ _ _:aj (.v<|.slice none 0 0)<|.sl true 0 6 λ_ _=>.any),.a (aI:(0+0)*48<=140737488355328),.o 77 (.refl _:aj J8 J8),
  .bo,.a (aI:(0+1)*48<=140737488355328),.o 78 (.e<|sT rfl rfl:aj adW<|kT [⟨1,0,0,0,1,1⟩]),
  iL (1+1),iL<|(1+1)-1])
def OY : iA 69 [CQ,oF,nA [.v<|.string ⟨#[120]⟩]]<|.iK [CQ,iP 0]:=
 iM (af [ah 15 ((2:Int)==2) aK,.c V2])
def agZ : iA 69 [sD,Kh,nA [.v<|.string ⟨#[120]⟩]]<|.iK [.agg [iP 1,TC,.v<|.slice none 0 0],iP<|(1+2)-1]:=
 iM (af [ai 15 ((4:Int)==2) aK,.u 12,ah 32 (decide ((0:Int)<2)) aK,iX 0 2,ag [sD,xC,nA [.v<|.string ⟨#[120]⟩]] OX,ah 48 ((0:Int)==0) aK,iL<|0+1,.k [9,8,6,4,3,2] [8,3,6,4],ah 32 (decide (((0+1):Int)<2)) aK,iX (0+1) 2,ag [CQ,oF,nA [.v<|.string ⟨#[120]⟩]] OY,ai 48 (((0+1):Int)==0) aK,iL<|(0+1)+1,.k [9,8,6,4,3,2] [8,3,6,4],ai 32 (decide ((((0+1)+1):Int)<2)) aK,.u 12,ah 57 (decide ((0:Int)<1)) aK,iX 0 1,.g (rZ aM aM aM aM aK:mi prog .eql 134 BC ad4<|.bool false),
  iL (0+1),.k [12,8,6,3] [8,3,6],ai 57 (decide (((0+1):Int)<1)) aK,.bo,.a (aI:(0+1)*48<=140737488355328),.o 77 (.refl _:aj T3 T3),
  .bo,.a (aI:(1+1)*48<=140737488355328),.o 78 (.e<|sT rfl rfl:aj (.sl true (1+1) 6 λi_ j_=>if i_<1 then NK i_ j_ else(E.jV T3) (i_-1) j_) TC),
  iL (1+2),iL<|(1+2)-1])
def ag0 : iA 69 [sD,Ui,nA [.v<|.string ⟨#[120]⟩]]<|.iK [.agg [iP 1,NS,.v<|.slice none 0 0],iP<|(1+3)-1]:=
 iM (af [ai 15 ((5:Int)==2) aK,.u 12,ah 32 (decide ((0:Int)<2)) aK,iX 0 2,ag [sD,oF,nA [.v<|.string ⟨#[120]⟩]] V3,ah 48 ((0:Int)==0) aK,iL<|0+1,.k [9,8,6,4,3,2] [8,3,6,4],ah 32 (decide (((0+1):Int)<2)) aK,iX (0+1) 2,ag [sD,Kh,nA [.v<|.string ⟨#[120]⟩]] agZ,ai 48 (((0+1):Int)==0) aK,iL<|(0+1)+1,.k [9,8,6,4,3,2] [8,3,6,4],ai 32 (decide ((((0+1)+1):Int)<2)) aK,.u 12,ah 57 (decide ((0:Int)<2)) aK,iX 0 2,.g (rZ aM aM aM aM aK:mi prog .eql 134 BC ad3<|.bool false),
  iL (0+1),.k [12,8,6,3] [8,3,6],ah 57 (decide (((0+1):Int)<2)) aK,iX (0+1) 2,.g (rZ aM aM aM aM aK:mi prog .eql 134 ad4 ad3<|.bool false),
  iL ((0+1)+1),ai 57 (decide ((((0+1)+1):Int)<2)) aK,.bo,.a (aI:(0+2)*48<=140737488355328),.o 77 (.refl _:aj TY TY),
  .bo,.a (aI:(2+1)*48<=140737488355328),.o 78 (.e<|sT rfl rfl:aj (.sl true (2+1) 6 λi_ j_=>if i_<2 then(λi_ j_=>if i_<0 then AB i_ j_ else(E.jV TC) (i_-0) j_) i_ j_ else(E.jV TY) (i_-2) j_) NS),
  iL (1+3),iL<|(1+3)-1])
def ag1 : iA 29 [TW,nA [.v<|.string ⟨#[120]⟩]]<|.agg [iP 1,NS,kB [3]]:=
 iM (af [.u 12,ah 15 (decide ((0:Int)<1)) aK,iX 0 1,ag [sD,Ui,nA [.v<|.string ⟨#[120]⟩]] ag0,
  .bo,.o 31 (.e<|.nil _ _ _:aj (.v<|.slice none 0 0)<|.sl true 0 1 λ_ _=>.any),.a (aI:(0+0)*8<=140737488355328),.o 34 (.refl _:aj J9 J9),.bo,.a (aI:(0+1)*8<=140737488355328),.o 35 (.e<|vk rfl rfl:aj adZ<|kB [3]),
  iL (0+1),.k [6,5,4,0,1] [5,4],ai 15 (decide (((0+1):Int)<1)) aK])
def ag2 : iA 13 [iP 6,iQ []]<|.agg [iP 1,NS,kB [3],iP 1,iQ []]:=
 iM (af [.c agY,.bo,.a (aI:(0+1)*16<=140737488355328),.o 18 (.e<|.nil _ _ _:aj (.v<|.slice none 0 0)<|.sl true 0 1 λ_ _=>.any),.bo,.a (aI:(1+0)*16<=140737488355328),.o 19 (.e<|Aq rfl aK rfl:aj NI<|nA [.v<|.string ⟨#[120]⟩]),ag [TW,nA [.v<|.string ⟨#[120]⟩]] ag1])
def af3:iA 13 [iP 6,iQ []]<|lk G9:=by
 refine ag2.jQ<|.agg<|.cons (.refl _)<|.cons ?_ (.cons ?_ (.cons (.refl _)<|.cons (.refl _) .nil))
 .exact .refl _
 .exact .refl _
def ag3 : iA 67 [iP 3,xC,xD] Uk:=
 iM (.nil)
def ag4 : iA 28 [iP 7]<|.iK [EB,.v<|.slice none 0 0,T4]:=
 iM (af [.c zH,.c zI,.c zJ,.c zK,ai 15 ((7:Int)==0) aK,ai 22 ((7:Int)==1) aK,ai 29 ((7:Int)==2) aK,ai 39 ((7:Int)==3) aK,ai 50 ((7:Int)==4) aK,ai 58 ((7:Int)==5) aK,ai 65 ((7:Int)==6) aK,ah 74 ((7:Int)==7) aK,.c KO,ag [oF] OW,ag [iP 3,xC,xD] ag3])
def ag5 : iA 69 [CQ,xD,nA [.v<|.string ⟨#[120]⟩]]<|.iK [.agg [iP 1,TB,.v<|.slice none 0 0],iP<|(1+2)-1]:=
 iM (af [ai 15 ((8:Int)==2) aK,.u 12,ah 32 (decide ((0:Int)<1)) aK,iX 0 1,ag [CQ,oF,nA [.v<|.string ⟨#[120]⟩]] OY,ah 48 ((0:Int)==0) aK,iL<|0+1,.k [9,8,6,4,3,2] [8,3,6,4],ai 32 (decide (((0+1):Int)<1)) aK,.u 12,ah 57 (decide ((0:Int)<1)) aK,
  iX 0 1,.g (rZ aM aM aM aM aK:mi prog .eql 134 BC Ty<|.bool false),
  iL (0+1),.k [12,8,6,3] [8,3,6],ai 57 (decide (((0+1):Int)<1)) aK,.bo,.a (aI:(0+1)*48<=140737488355328),.o 77 (.refl _:aj Gt Gt),
  .bo,.a (aI:(1+1)*48<=140737488355328),.o 78 (.e<|sT rfl rfl:aj (.sl true (1+1) 6 λi_ j_=>if i_<1 then NK i_ j_ else(E.jV Gt) (i_-1) j_) TB),
  iL (1+2),iL<|(1+2)-1])
def ag6 : iA 69 [sD,Uk,nA [.v<|.string ⟨#[120]⟩]]<|.iK [.agg [iP 1,NR,.v<|.slice none 0 0],iP<|(1+3)-1]:=
 iM (af [ai 15 ((3:Int)==2) aK,.u 12,ah 32 (decide ((0:Int)<2)) aK,iX 0 2,ag [sD,xC,nA [.v<|.string ⟨#[120]⟩]] OX,ah 48 ((0:Int)==0) aK,iL<|0+1,.k [9,8,6,4,3,2] [8,3,6,4],ah 32 (decide (((0+1):Int)<2)) aK,iX (0+1) 2,ag [CQ,xD,nA [.v<|.string ⟨#[120]⟩]] ag5,ai 48 (((0+1):Int)==0) aK,iL<|(0+1)+1,.k [9,8,6,4,3,2] [8,3,6,4],ai 32 (decide ((((0+1)+1):Int)<2)) aK,.u 12,ah 57 (decide ((0:Int)<2)) aK,iX 0 2,.g (rZ aM aM aM aM aK:mi prog .eql 134 BC ad1<|.bool false),
  iL (0+1),.k [12,8,6,3] [8,3,6],ah 57 (decide (((0+1):Int)<2)) aK,iX (0+1) 2,.g (rZ aM aM aM aM aK:mi prog .eql 134 Ty ad1<|.bool false),
  iL ((0+1)+1),ai 57 (decide ((((0+1)+1):Int)<2)) aK,.bo,.a (aI:(0+2)*48<=140737488355328),.o 77 (.refl _:aj TP TP),
  .bo,.a (aI:(2+1)*48<=140737488355328),.o 78 (.e<|sT rfl rfl:aj (.sl true (2+1) 6 λi_ j_=>if i_<2 then(λi_ j_=>if i_<0 then AB i_ j_ else(E.jV TB) (i_-0) j_) i_ j_ else(E.jV TP) (i_-2) j_) NR),
  iL (1+3),iL<|(1+3)-1])
def ag7 : iA 29 [T4,nA [.v<|.string ⟨#[120]⟩]]<|.agg [iP 1,NR,kB [3]]:=
 iM (af [.u 12,ah 15 (decide ((0:Int)<1)) aK,iX 0 1,ag [sD,Uk,nA [.v<|.string ⟨#[120]⟩]] ag6,
  .bo,.o 31 (.e<|.nil _ _ _:aj (.v<|.slice none 0 0)<|.sl true 0 1 λ_ _=>.any),.a (aI:(0+0)*8<=140737488355328),.o 34 (.refl _:aj J9 J9),.bo,.a (aI:(0+1)*8<=140737488355328),.o 35 (.e<|vk rfl rfl:aj adZ<|kB [3]),
  iL (0+1),.k [6,5,4,0,1] [5,4],ai 15 (decide (((0+1):Int)<1)) aK])
def ag8 : iA 13 [iP 7,iQ []]<|.agg [iP 1,NR,kB [3],iP 1,iQ []]:=
 iM (af [.c ag4,.bo,.a (aI:(0+1)*16<=140737488355328),.o 18 (.e<|.nil _ _ _:aj (.v<|.slice none 0 0)<|.sl true 0 1 λ_ _=>.any),.bo,.a (aI:(1+0)*16<=140737488355328),.o 19 (.e<|Aq rfl aK rfl:aj NI<|nA [.v<|.string ⟨#[120]⟩]),ag [T4,nA [.v<|.string ⟨#[120]⟩]] ag7])
def af4:iA 13 [iP 7,iQ []]<|lk EV:=by
 refine ag8.jQ<|.agg<|.cons (.refl _)<|.cons ?_ (.cons ?_ (.cons (.refl _)<|.cons (.refl _) .nil))
 .exact .refl _
 .exact .refl _
def ag9 : iA 28 [iP 8]<|.iK [Gr,.v<|.slice none 0 0,TJ]:=
 iM (af [.c zH,.c zI,.c zJ,.c zK,ai 15 ((8:Int)==0) aK,ai 22 ((8:Int)==1) aK,ai 29 ((8:Int)==2) aK,ai 39 ((8:Int)==3) aK,ai 50 ((8:Int)==4) aK,ai 58 ((8:Int)==5) aK,ai 65 ((8:Int)==6) aK,ai 74 ((8:Int)==7) aK,ah 82 ((8:Int)==8) aK,ag [iP 5,oF,tY] VY])
def aha : iA 69 [CR,oF,nG]<|.iK [CR,iP 0]:=
 iM (af [ah 15 ((2:Int)==2) aK,ag [nG,.v<|.string ⟨#[120]⟩] OU])
def ahb : iA 69 [CR,tY,nG]<|.iK [CR,iP<|0+1]:=
 iM (af [ah 15 ((2:Int)==2) aK,ag [nG,.v<|.string ⟨#[121]⟩] OV])
def ahc : iA 69 [CR,Kg,nG]<|.iK [.agg [iP 2,kT [⟨5,0,1,0,0,0⟩],kB [0]],iP<|(2+1)-1]:=
 iM (af [ai 15 ((5:Int)==2) aK,.u 12,ah 32 (decide ((0:Int)<2)) aK,iX 0 2,ag [CR,oF,nG] aha,ah 48 ((0:Int)==0) aK,iL<|0+1,.k [9,8,6,4,3,2] [8,3,6,4],ah 32 (decide (((0+1):Int)<2)) aK,iX (0+1) 2,ag [CR,tY,nG] ahb,ai 48 (((0+1):Int)==0) aK,iL<|(0+1)+1,.k [9,8,6,4,3,2] [8,3,6,4],ai 32 (decide ((((0+1)+1):Int)<2)) aK,.u 12,.o 55 (.e<|.nil _ _ _:aj (.v<|.slice none 0 0)<|.sl true 0 6 λ_ _=>.any),ai 57 (decide ((0:Int)<0)) aK,.bo,.o 74 (.e<|.nil _ _ _:aj (.v<|.slice none 0 0)<|.sl true 0 6 λ_ _=>.any),.a (aI:(0+0)*48<=140737488355328),.o 77 (.refl _:aj J5 J5),
  .bo,.a (aI:(0+1)*48<=140737488355328),.o 78 (.e<|sT rfl rfl:aj adX<|kT [⟨5,0,1,0,0,0⟩]),
  iL (2+1),iL<|(2+1)-1])
def ahd : iA 29 [TJ,nG]<|.agg [iP 2,kT [⟨5,0,1,0,0,0⟩],kB [0,2]]:=
 iM (af [.u 12,ah 15 (decide ((0:Int)<2)) aK,iX 0 2,ag [rF,oF,nG] VZ,
  .bo,.o 31 (.e<|.nil _ _ _:aj (.v<|.slice none 0 0)<|.sl true 0 1 λ_ _=>.any),.a (aI:(0+0)*8<=140737488355328),.o 34 (.refl _:aj Gv Gv),.bo,.a (aI:(0+1)*8<=140737488355328),.o 35 (.e<|vk rfl rfl:aj (.sl true (0+1) 1 λi_ j_=>if i_<0 then J4 i_ j_ else(E.jV Gv) (i_-0) j_)<|kB [0]),
  iL (0+1),.k [6,5,4,0,1] [5,4],ah 15 (decide (((0+1):Int)<2)) aK,iX (0+1) 2,ag [CR,Kg,nG] ahc,
  .bo,.a (aI:(0+1)*8<=140737488355328),.o 34 (.refl _:aj yq yq),.bo,.a (aI:(1+1)*8<=140737488355328),.o 35 (.e<|vk rfl rfl:aj (.sl true (1+1) 1 λi_ j_=>if i_<1 then(λi_ j_=>if i_<0 then BD i_ j_ else(E.jV<|kB [0]) (i_-0) j_) i_ j_ else(E.jV yq) (i_-1) j_)<|kB [0,2]),
  iL ((0+1)+1),.k [6,5,4,0,1] [5,4],ai 15 (decide ((((0+1)+1):Int)<2)) aK])
def ahe : iA 13 [iP 8,iQ []]<|.agg [iP 2,kT [⟨5,0,1,0,0,0⟩],kB [0,2],iP 2,iQ []]:=
 iM (af [.c ag9,.bo,.a (aI:(0+2)*16<=140737488355328),.o 18 (.e<|.nil _ _ _:aj (.v<|.slice none 0 0)<|.sl true 0 1 λ_ _=>.any),.bo,.a (aI:(2+0)*16<=140737488355328),.o 19 (.e<|Aq rfl aK rfl:aj TN nG),ag [TJ,nG] ahd])
def af5:iA 13 [iP 8,iQ []]<|lk Ha:=by
 refine ahe.jQ<|.agg<|.cons (.refl _)<|.cons ?_ (.cons ?_ (.cons (.refl _)<|.cons (.refl _) .nil))
 .exact .refl _
 .exact .refl _
def ahf : iA 67 [iP 6,xC,oF] Um:=
 iM (.nil)
def ahg : iA 28 [iP 9]<|.iK [EB,.v<|.slice none 0 0,T5]:=
 iM (af [.c zH,.c zI,.c zJ,.c zK,ai 15 ((9:Int)==0) aK,ai 22 ((9:Int)==1) aK,ai 29 ((9:Int)==2) aK,ai 39 ((9:Int)==3) aK,ai 50 ((9:Int)==4) aK,ai 58 ((9:Int)==5) aK,ai 65 ((9:Int)==6) aK,ai 74 ((9:Int)==7) aK,ai 82 ((9:Int)==8) aK,.c KO,ag [iP 6,xC,oF] ahf])
def ahh : iA 69 [sD,Um,nA [.v<|.string ⟨#[120]⟩]]<|.iK [.agg [iP 1,NW,.v<|.slice none 0 0],iP<|(1+2)-1]:=
 iM (af [ai 15 ((6:Int)==2) aK,.u 12,ah 32 (decide ((0:Int)<2)) aK,iX 0 2,ag [sD,xC,nA [.v<|.string ⟨#[120]⟩]] OX,ah 48 ((0:Int)==0) aK,iL<|0+1,.k [9,8,6,4,3,2] [8,3,6,4],ah 32 (decide (((0+1):Int)<2)) aK,iX (0+1) 2,ag [CQ,oF,nA [.v<|.string ⟨#[120]⟩]] OY,ai 48 (((0+1):Int)==0) aK,iL<|(0+1)+1,.k [9,8,6,4,3,2] [8,3,6,4],ai 32 (decide ((((0+1)+1):Int)<2)) aK,.u 12,ah 57 (decide ((0:Int)<1)) aK,iX 0 1,.g (rZ aM aM aM aM aK:mi prog .eql 134 BC (.agg [iP 6,iP<|(1+1)-1,iP 0,iP 0,iP 0,iP 0])<|.bool false),
  iL (0+1),.k [12,8,6,3] [8,3,6],ai 57 (decide (((0+1):Int)<1)) aK,.bo,.a (aI:(0+1)*48<=140737488355328),.o 77 (.refl _:aj TV TV),
  .bo,.a (aI:(1+1)*48<=140737488355328),.o 78 (.e<|sT rfl rfl:aj (.sl true (1+1) 6 λi_ j_=>if i_<1 then NK i_ j_ else(E.jV TV) (i_-1) j_) NW),
  iL (1+2),iL<|(1+2)-1])
def ahi : iA 29 [T5,nA [.v<|.string ⟨#[120]⟩]]<|.agg [iP 1,NW,kB [2]]:=
 iM (af [.u 12,ah 15 (decide ((0:Int)<1)) aK,iX 0 1,ag [sD,Um,nA [.v<|.string ⟨#[120]⟩]] ahh,
  .bo,.o 31 (.e<|.nil _ _ _:aj (.v<|.slice none 0 0)<|.sl true 0 1 λ_ _=>.any),.a (aI:(0+0)*8<=140737488355328),.o 34 (.refl _:aj Ka Ka),.bo,.a (aI:(0+1)*8<=140737488355328),.o 35 (.e<|vk rfl rfl:aj adY<|kB [2]),
  iL (0+1),.k [6,5,4,0,1] [5,4],ai 15 (decide (((0+1):Int)<1)) aK])
def ahj : iA 13 [iP 9,iQ []]<|.agg [iP 1,NW,kB [2],iP 1,iQ []]:=
 iM (af [.c ahg,.bo,.a (aI:(0+1)*16<=140737488355328),.o 18 (.e<|.nil _ _ _:aj (.v<|.slice none 0 0)<|.sl true 0 1 λ_ _=>.any),.bo,.a (aI:(1+0)*16<=140737488355328),.o 19 (.e<|Aq rfl aK rfl:aj NI<|nA [.v<|.string ⟨#[120]⟩]),ag [T5,nA [.v<|.string ⟨#[120]⟩]] ahi])
def af6:iA 13 [iP 9,iQ []]<|lk Hb:=by
 refine ahj.jQ<|.agg<|.cons (.refl _)<|.cons ?_ (.cons ?_ (.cons (.refl _)<|.cons (.refl _) .nil))
 .exact .refl _
 .exact .refl _
abbrev uQ:List Iv:=[⟨mz 1 0,mz 1 0,false⟩]
abbrev wb:Dy:=mz 1 (-2)
abbrev Ld:List Iv:=[⟨mz 2 (-1),mz 3 (-1),false⟩]
abbrev Le:List Iv:=[⟨mz 4 (-2),mz 5 (-2),false⟩]
def aje:∀ k:Nat,k<19->rI sX uQ wb 60 ((k:Int)-20)=false:=by
 have h:((List.range 19).all λk:Nat=>!(rI sX uQ wb 60<|(k:Int)-20))=true:= aT ;intro k hk;simpa using List.all_eq_true.1 h k (dr.2 hk)
def ajf:rI sX uQ wb 60 (((19:Nat):Int)-20)=true:= aT 
def ajd:(rL uQ<|oZ<|((19:Nat):Int)-20).length=1:= aT 
def ajb:nh sX uQ wb Ld 60=true:= aT 
def ajc:nh sX uQ wb Le 60=false:= aT 
def PF{a b e:Int}(h1:a.natAbs<4294967296)(h2:b.natAbs<4294967296)(h3:-1000<=e)(h4:e<=1000)(h:jI (mz a e) (mz b e)<=0):lR 1 [⟨mz a e,mz b e,false⟩]:=
 Er (.inr ⟨rfl,AL h1 h3 h4,AL h2 h3 h4,h⟩) rfl
def PE:lR 1 uQ:=PF aK aK aK aK aT 
def ai4:lR 1 Ld:=PF aK aK aK aK aT 
def ai5:lR 1 Le:=PF aK aK aK aK aT 
def PD:wb.iD:=AL aK aK aK 
def PB:0<wb.jB:= aT 
def I1(n e:Int)(h1:n.natAbs<4294967296)(h2:-1000<=e)(h3:e<=1000):iA 19 [iP n,iP e]<|iF<|mz n e:=by
 have hrg:oC<|canon (Dy.neg<|kV n) (Dy.m<|kV n)<|(Dy.e<|kV n)+e:=by rw[VR];exact(AL h1 h2 h3).range
 exact iM<|ae [.c<|F4 n,.c<|aqh (kV n) e (IT aI) aI aI hrg]<|rQ (iF<|canon (Dy.neg<|kV n) (Dy.m<|kV n)<|(Dy.e<|kV n)+e) (iF<|mz n e)<|by rw[VR]
def RA(a b e:Int)(h1:a.natAbs<4294967296)(h4:b.natAbs<4294967296)(h2:-1000<=e)(h3:e<=1000):iA 18 [iP a,iP b,iP e]<|iC<|Iv.mk (mz a e) (mz b e) false:=
 iM (af [ag [iP a,iP e]<|I1 _ _ aI aI aI,ag [iP b,iP e]<|I1 _ _ aI aI aI])
def Tc:E.le (.agg [iP 1,.v<|.slice none 0 0,.sl true 1 1 λi j=>[iP 0].getD (i*1+j)<|.v<|.bool false,iP 1,.v<|.slice none 0 0])<|lk sX:=
 .agg (.cons (.refl _) (.cons (.nil _ _ _) (.cons (.sl λi j hi hj=>by
  obtain rfl:i=0:= aI ;obtain rfl:j=0:= aI ;exact⟨.jm rfl,rfl⟩)<|.cons (.refl _)<|.cons (.nil _ _ _) .nil)))
def ai6:iA 14 [lk sX,iQ uQ,iF wb,iP 60]<|.iK [iQ<|rL uQ<|oZ<|((19:Nat):Int)-20,iP 0]:=
 Xf sX uQ wb 60 Td PE PD PB aK aK 19 aK aje ajf
def ai7:iA 20 [lk sX,iQ uQ,iF wb,iQ Ld,iP 60]<|bP true:=by
 have:=DH sX uQ wb Ld 60 Td PE PD PB ai4 aK aK;rwa[ajb]at this
def ai8:iA 20 [lk sX,iQ uQ,iF wb,iQ Le,iP 60]<|bP false:=by
 have:=DH sX uQ wb Le 60 Td PE PD PB ai5 aK aK;rwa[ajc]at this
def I0 : iA 4 []<|bP true:=
 iM (af [ag [iP 1,iP 1,iP 0]<|RA _ _ _ aK aK aK aK,.o 9<|.e<|nT<|Iv.mk (mz 1 0) (mz 1 0) false,.o 11 (.e Tc:aj (.agg [iP 1,.v<|.slice none 0 0,(.sl true 1 1 λi_ j_=>[iP 0].getD (i_*1+j_)<|.v<|.bool false),iP 1,.v<|.slice none 0 0])<|lk sX),ag [iP 1,iP (-2)]<|I1 _ _ aK aK aK,ag [lk sX,iQ [Iv.mk (mz 1 0) (mz 1 0) false],iF<|mz 1 (-2),iP 60] ai6,.o 17 (.e Tc:aj (.agg [iP 1,.v<|.slice none 0 0,(.sl true 1 1 λi_ j_=>[iP 0].getD (i_*1+j_)<|.v<|.bool false),iP 1,.v<|.slice none 0 0])<|lk sX),ag [iP 1,iP (-2)]<|I1 _ _ aK aK aK,ag [iP 2,iP 3,iP (-1)]<|RA _ _ _ aK aK aK aK,.o 21<|.e<|nT<|Iv.mk (mz 2 (-1)) (mz 3 (-1)) false,ag [lk sX,iQ [Iv.mk (mz 1 0) (mz 1 0) false],iF<|mz 1 (-2),iQ [Iv.mk (mz 2 (-1)) (mz 3 (-1)) false],iP 60] ai7,.o 24 (.e Tc:aj (.agg [iP 1,.v<|.slice none 0 0,(.sl true 1 1 λi_ j_=>[iP 0].getD (i_*1+j_)<|.v<|.bool false),iP 1,.v<|.slice none 0 0])<|lk sX),ag [iP 1,iP (-2)]<|I1 _ _ aK aK aK,ag [iP 4,iP 5,iP (-2)]<|RA _ _ _ aK aK aK aK,.o 28<|.e<|nT<|Iv.mk (mz 4 (-2)) (mz 5 (-2)) false,ag [lk sX,iQ [Iv.mk (mz 1 0) (mz 1 0) false],iF<|mz 1 (-2),iQ [Iv.mk (mz 4 (-2)) (mz 5 (-2)) false],iP 60] ai8,ah 34 ((0:Int)==0) aK,ah 39 ((((rL uQ<|oZ<|((19:Nat):Int)-20).length:Nat):Int)==1)<|by rw[ajd];rfl])
def acC(nl:Bool)(n N:Nat)(el:Nat->Nat->E)(g:FuncId)(cap:List E)(i:Nat):PS:=⟨19,false,[(8,.e<|iP i),(7,.e<|iP n),(0,.e<|.sl nl n 2 el),(1,.e<|.fn g cap)],[]⟩
def acB(nl:Bool)(n:Nat)(el:Nat->Nat->E)(g:FuncId)(cap:List E)(i:Nat):PS:=⟨19,false,[(8,.e<|iP i),(7,.e<|iP n),(0,.e<|.sl nl n 2 el),(1,.e<|.fn g cap)],[]⟩
def an7(a b:Int)(i:Nat)(n1 d1 e1 n2 d2 e2:Int)(h1:iA 34 [iP (i:Int),iP 8]<|.iK [.agg [iP n1,iP d1],iP e1])(h2:iA 35 [.agg [iP a,iP b],.agg [iP n1,iP d1]]<|.iK [.agg [iP n2,iP d2],iP e2]):iA 15 [.agg [iP a,iP b],iP i]<|.iK [.agg [iP n2,iP d2],bP<|decide (e1=0/\e2=0)]:=
 iM (ae [ag [iP i,iP 8] h1,ag [.agg [iP a,iP b],.agg [iP n1,iP d1]] h2]<|.w (e1=0)
  (λk1=>ae [tB 23<|bl k1]<|rQ (.iK [.agg [iP n2,iP d2],bP<|e2==0]) (.iK [.agg [iP n2,iP d2],bP<|decide (e1=0/\e2=0)])<|by first|(simp[k1];done)|(simp[k1];rw[fM];simp))
  (λk1=>ae [tB 23<|bk k1]<|rQ (.iK [.agg [iP n2,iP d2],bP false]) (.iK [.agg [iP n2,iP d2],bP<|decide (e1=0/\e2=0)])<|by first|(simp[k1];done)|(simp[k1];rw[fM];simp)))
def an5(a b:Int)(i:Nat)(hi:i<=1000):∃ n m x,iA 15 [.agg [iP a,iP b],iP (i:Int)] (.iK [.agg [iP n,iP m],bP x])/\(x=true->jG n m=true/\(n:Rat)/(m:Rat)=(a:Rat)/(b:Rat)*((i:Rat)*(1/8))):=by
 obtain⟨n1,d1,e1,hC,hx⟩:=V8 false i 8 aK aI aK;obtain⟨n2,d2,e2,h2,w2⟩:=ana a b n1 d1;refine⟨_,_,_,an7 a b i n1 d1 e1 n2 d2 e2 (apz i hi n1 d1 e1 hC) h2,λq=>?_⟩;obtain⟨q1,q2⟩:=dK q;obtain⟨u1,u2⟩:=hx.ok q1;obtain⟨_,_,v3,v4⟩:=w2 q2;refine⟨v3,?_⟩;have d0:(d1:Rat)≠0:=by
  have:=(sW u1).1;have:=cY (a:=1) (b:=d1);have:=this.2 aI;intro q;rw[q]at this;exact absurd this aK 
 have e:(n1:Rat)/(d1:Rat)=(i:Rat)*(1/8):=by
  rw[u2,gv d0];show((xx false i:Int):Rat)/((8:Nat):Rat)=_;have e1:((xx false i:Int):Rat)=(i:Rat):=by unfold xx;rw[bw aK,dj]
  rw[e1,show((8:Nat):Rat)=8 from rfl];grind
 rw[v4,e]
def aot{k:Nat}(h:k<=30):((2^k:Nat):Rat)*((2^(30-k):Nat):Rat)=1073741824:=by
 rw[<-cQ,<-bG,(aI:k+(30-k)=30)];decide +kernel
def an8{a b n m:Int}{i:Nat}(hi:i<=8)(ha:0<=a)(hr:jG a b=true){k:Nat}(k1:k<=30)(hb:b=((2^k:Nat):Int))(r:jG n m=true)(e:(n:Rat)/(m:Rat)=(a:Rat)/(b:Rat)*((i:Rat)*(1/8))):qy n m<|(n:Rat)/(m:Rat):=by
 obtain⟨b0,b1,x1,x2,xb⟩:=Bq hr;obtain⟨m0,m1,y1,y2,ym⟩:=Bq r;have aq:(0:Rat)<=(a:Rat):=by have:=cY (a:=0) (b:=a);exact this.2 ha
 have i0:(0:Rat)<=(i:Rat):=cE;have t0:0<=(n:Rat)/(m:Rat):=by
  rw[e];exact bD (yG aq b0) aS 
 refine⟨r,?_,rfl,a*((i*2^(30-k):Nat):Int),?_,?_⟩
 .have:=bD t0<|bF m0;rw[ym]at this;exact(cY (a:=0) (b:=n)).1 this
 .obtain ⟨_,_,_,h4⟩:=sW hr;have h5:i*2^(30-k)<=8*2^30:=dE hi<|bZ aK aI;have h6:a*((i*2^(30-k):Nat):Int)<=a*((8*2^30:Nat):Int):=Int.mul_le_mul_of_nonneg_left aI ha;have h7:a*((8*2^30:Nat):Int)<=1073741824*((8*2^30:Nat):Int):=Int.mul_le_mul_of_nonneg_right h4 aI;have:(1073741824:Int)*((8*2^30:Nat):Int)=2^63:= aK ;omega
 .rw [e,gQ,dj,cQ];have hp:=aot k1;have uU:(b:Rat)=((2^k:Nat):Rat):=by rw[hb,dj]
  rw[<-uU]at hp;generalize (a:Rat)/(b:Rat)=x at *
  rw[<-xb];have:x*(b:Rat)*((i:Rat)*((2^(30-k):Nat):Rat))=x*(i:Rat)*((b:Rat)*((2^(30-k):Nat):Rat)):= aS ;rw[this,hp];grind
def tg(l:List<|Int×Int):Nat->Nat->E:=λi j=>(El<|l.getD i mZ).getD j .any
def apP(r:Int×Int)(j:Nat)(hj:j<2):((El r).getD j .any).nr 2=true:=by
 rcases j with _|_|j
 all_goals first|rfl|omega
def EP(r:List<|Int×Int)(h0:0<r.length:=by omega)(hl:r.length<=1000:=by omega):yw 10 [kF r] true 24 r.length 2<|tg r:=
 trn call10 func10 (ae [.a (aI:0<r.length),.bo,.a (aI:(0+r.length)*16<=140737488355328)]<|.rb (VO rfl λi j hi hj=>⟨rfl,apP _ _ hj⟩:Bx.le (.row true 24 (0+r.length) 2 λi_ j_=>if i_<0 then(λi_ j_=>([]:List E).getD (i_*2+j_)<|.v<|.bool false) i_ j_ else(E.jV<|kF r) (i_-0) j_)<|.row true 24 r.length 2<|tg r)) aM 
section
variable(nl:Bool)(n:Nat)(el:Nat->Nat->E)(g:FuncId)(cap:List E)(p:Nat->Bool)(hp:∀ i,i<n->iA g ((.agg [el i 0,el i 1])::cap) (bP<|p i))
def aqU(N:Nat)(hl:n<=1000000)(qD:N<n)(jA:∀ i,i<N->p i=false)(hN:p N=true):iA 25 [.sl nl n 2 el,.fn g cap]<|iP N:=
 oY (af [.s (Sp.kj (acC nl n N el g cap) 0 N aI (λi hi qn=>by
    exact jg (af [tT 9 ((i:Int)<n) aI,iX (i:Int) n,.c (hp i aI:iA g ((.agg [el i 0,el i 1])::cap) _),ai 16 (p i)<|jA i aI,
     iL ((i:Int)+1)]) aM)
  (λhi=>by
    exact jg (af [tT 9 ((N:Int)<n) aI,iX (N:Int) n,.c (hp N aI:iA g ((.agg [el N 0,el N 1])::cap) _),ah 16 (p N) hN]) aM) aQ:ki 2 Tryz.f25 (acC nl n N el g cap 0) .ret ⟨19,false,[(4,.e<|iP N)],[]⟩) .nil])
def aqX(hl:n<=1000000)(jA:∀ i,i<n->p i=false):iA 25 [.sl nl n 2 el,.fn g cap]<|iP (-1):=
 oY (af [.s (Sp.kj (acB nl n el g cap) 0 n aI (λi hi qn=>by
    exact jg (af [tT 9 ((i:Int)<n) aI,iX (i:Int) n,.c (hp i aI:iA g ((.agg [el i 0,el i 1])::cap) _),ai 16 (p i)<|jA i aI,
     iL ((i:Int)+1)]) aM)
  (λhi=>by
    exact jg (af [tF 9 ((n:Int)<n) aI]) aM) aQ:ki 2 Tryz.f25 (acB nl n el g cap 0) (.exit 0) ⟨19,false,[],[]⟩) .nil])
def aqV(N:Nat)(hl:n<=1000000)(qD:N<n)(jA:∀ i,i<N->p i=false)(hN:p N=true):iA 9 [.sl nl n 2 el,.fn g cap]<|bP true:=
 oY (af [ag [.sl nl n 2 el,.fn g cap]<|aqU nl n el g cap p hp N hl qD jA hN,tT 8 (0<=(N:Int)) aI])
def aqW(hl:n<=1000000)(jA:∀ i,i<n->p i=false):iA 9 [.sl nl n 2 el,.fn g cap]<|bP false:=
 oY (af [ag [.sl nl n 2 el,.fn g cap]<|aqX nl n el g cap p hp hl jA,ai 8 (decide ((0:Int)<=(-1))) aK])
def aqT(hl:n<=1000000):iA 9 [.sl nl n 2 el,.fn g cap]<|bP<|(List.range n).any p:=by
 by_cases h:∃ i,i<n/\p i=true
 .obtain ⟨N,h1,h2,h3⟩:∃ N,N<n/\p N=true/\∀ i,i<N->p i=false:=ur h;refine(aqV nl n el g cap p hp N hl h1 h3 h2).jQ<|.jm ?_;rw[eE.2 ⟨N,dr.2 h1,h2⟩]
 .refine (aqW nl n el g cap p hp hl λi hi=>by simpa using λq=>h ⟨i,hi,q⟩).jQ<|.jm ?_;rw[dW.2 λi hi q=>h ⟨i,dr.1 hi,q⟩]
end
def FX(a b:Int):iA 6 [.agg [iP a,iP b]]<|bP<|jG a b:=
 iM (af [.c<|y9 a b])
def abg(a b:Int):iA 11 [.agg [iP a,iP b],(.ky 1 λj_=>[.fn 6 []].getD j_ .any)]<|bP<|!jG a b:=
 iM (af [ag [.agg [iP a,iP b]]<|FX _ _])
def al3(x y:Iv)(hx:x.iD)(hy:y.iD)(hm:qX x y):iA 17 [iC x,iC y]<|.iK [iC<|Cl x y,bP true]:=by
 obtain⟨w1,w2⟩:=hx.kA;obtain⟨w3,w4⟩:=hy.kA;have w5:=qM w1 w3;have w6:=rX w2 w4;exact iM (ae [.c<|z8 x aJ,.c<|z8 y aJ]<|.w (x.all=true)
  (λk1=>ae [tB 19 k1]<|rQ (.iK [iC y,bP true]) (.iK [iC<|Cl x y,bP true])<|by unfold Cl;simp[k1])
  (λk1=>ae [tB 19<|bn k1]<|.w (y.all=true)
   (λk2=>ae [tB 23 k2]<|rQ (.iK [iC x,bP true]) (.iK [iC<|Cl x y,bP true])<|by unfold Cl;simp[k1,k2])
   (λk2=>by
    have hmc:=am0 hx hy hm (bn k1)<|bn k2;exact ae [tB 23<|bn k2,.c<|Rs x.lo y.lo aJ aJ,.c<|Rq x.hi y.hi aJ aJ,.c<|ss (jq x.lo y.lo) (jv x.hi y.hi) aJ aJ]<|.w (0<(jI (jq x.lo y.lo)<|jv x.hi y.hi))
     (λk3=>.x<|by exact absurd hmc aI)
     (λk3=>ae [tB 41<|bE k3]<|rQ (.iK [iC<|Iv.mk (jq x.lo y.lo) (jv x.hi y.hi) false,bP true]) (.iK [iC<|Cl x y,bP true])<|by unfold Cl;simp[k1,k2]))))
noncomputable def lU(l:List<|Int×Int)(i:Nat):Iv:=kH (l.getD i mZ).1 (l.getD i mZ).2 60
noncomputable def MG(k u:Int)(start params:List<|Int×Int)(N D:Int)(c:Nat)(E0:Dy)(i:Nat):PS:=⟨188,true,[(17,.own 17),(85,.e<|iP i),(84,.e<|iP start.length),(83,.e<|kF start),(18,.e<|.v<|.slice none 0 0),(15,.box 15 0),(11,.e<|iP c),(8,.box 8 0),(1,.e<|kF start),(2,.e<|kF params),(4,.e<|.v<|.int .u8 u)],[(17,.row true 38 i 7<|kK<|(List.range i).map<|lU start),(15,.cells 31<|ke E0),(8,.cells 24 [iP N,iP D])]⟩
noncomputable def MF(k u:Int)(start params:List<|Int×Int)(N D:Int)(c:Nat)(E0:Dy)(i:Nat):PS:=⟨188,true,[(18,.own 18),(97,.e<|iP i),(96,.e<|iP params.length),(95,.e<|kF params),(17,.e<|iQ<|(List.range start.length).map<|lU start),(15,.box 15 0),(11,.e<|iP c),(8,.box 8 0),(1,.e<|kF start),(2,.e<|kF params),(4,.e<|.v<|.int .u8 u)],[(18,.row true 38 i 7<|kK<|(List.range i).map<|lU params),(15,.cells 31<|ke E0),(8,.cells 24 [iP N,iP D])]⟩
def abi(k u:Int)(start params:List<|Int×Int)(N D:Int)(c r:Nat)(E0:Dy)(S:lr)(U:List Iv)(i:Nat):PS:=⟨188,true,[(130,.e<|iP i),(129,.e<|iP ((r+1:Nat):Int)),(24,.e<|iQ U),(11,.e<|iP c),(8,.box 8 0),(1,.e<|kF start),(2,.e<|kF params)],[(8,.cells 24 [iP N,iP D])]⟩
def abh(k u:Int)(start params:List<|Int×Int)(N D:Int)(c r:Nat)(E0:Dy)(S:lr)(U:List Iv)(tn td:Nat->Int)(kn:Nat->List Iv)(i:Nat)(j:Nat):PS:=⟨188,true,[(170,.e<|iP j),(169,.e<|iP ((kn i).length:Int)),(168,.e<|iQ<|kn i),(130,.e<|iP i),(129,.e<|iP ((r+1:Nat):Int)),(24,.e<|iQ U),(11,.e<|iP c),(8,.box 8 0),(1,.e<|kF start),(2,.e<|kF params)],[(8,.cells 24 [iP N,iP D])]⟩
section
variable{a b:Nat}
def wJ(h:a=b):((a:Int) != (b:Int))=false:=by subst h;simp
def aaC(h:a≠b):((a:Int) != (b:Int))=true:=by
 rw[bne_iff_ne];omega
def Jh(h:a≠b):((a:Int)==b)=false:=by
 rw[beq_eq_false_iff_ne];omega
def anj(h:a=b):((a:Int)==b)=true:=by subst h;simp
end
section
variable(k u:Int)(start params:List<|Int×Int)(N D:Int)(c s q r:Nat)(E0:Dy)
section
variable(x:Bool)(oM:0<=k/\k<=255)(hu:0<=u/\u<=255)(hc:Int.tmod k 10=(c:Int))
def aoi(hr:Int.tmod u 9=(r:Int))(zV:r<=8)(s1:1<=s)(s2:s<=2)(q1:q<=1)(hS:iA 5 [iP (c:Int)]<|.iK [iP (s:Int),iP (q:Int)])(hE:iA 8 [.agg [iP N,iP D]]<|.iK [iF E0,bP x])(h:start.length≠s):iA 3 [.v<|.int .u8 k,kF start,kF params,.agg [iP N,iP D],.v<|.int .u8 u]<|bP true:=by
 obtain⟨k1_,k2_⟩:=oM;obtain⟨u1_,u2_⟩:=hu;exact iM<|af [.c I0,.o 38<|ar (IntKind.i64.wrap k) k<|i64_in _,.a (aI:0<(10:Int)),.o 39<|ar (Int.tmod k 10) c hc,ag [iP c] hS,ag [.agg [iP N,iP D]] hE,ah 53 ((start.length:Int) != (s:Int))<|aaC h]
def aoj(hr:Int.tmod u 9=(r:Int))(zV:r<=8)(s1:1<=s)(s2:s<=2)(q1:q<=1)(hS:iA 5 [iP (c:Int)]<|.iK [iP (s:Int),iP (q:Int)])(hE:iA 8 [.agg [iP N,iP D]]<|.iK [iF E0,bP x])(l1:start.length=s)(h:params.length≠q):iA 3 [.v<|.int .u8 k,kF start,kF params,.agg [iP N,iP D],.v<|.int .u8 u]<|bP true:=by
 obtain⟨k1_,k2_⟩:=oM;obtain⟨u1_,u2_⟩:=hu;exact iM<|af [.c I0,.o 38<|ar (IntKind.i64.wrap k) k<|i64_in _,.a (aI:0<(10:Int)),.o 39<|ar (Int.tmod k 10) c hc,ag [iP c] hS,ag [.agg [iP N,iP D]] hE,ai 53 ((start.length:Int) != (s:Int))<|wJ l1,ah 58 ((params.length:Int) != (q:Int))<|aaC h]
end
section
variable(x jx:Bool)(oM:0<=k/\k<=255)(hu:0<=u/\u<=255)(hc:Int.tmod k 10=(c:Int))
def aof(hr:Int.tmod u 9=(r:Int))(zV:r<=8)(s1:1<=s)(s2:s<=2)(q1:q<=1)(hS:iA 5 [iP (c:Int)]<|.iK [iP (s:Int),iP (q:Int)])(hE:iA 8 [.agg [iP N,iP D]]<|.iK [iF E0,bP x])(l1:start.length=s)(l2:params.length=q)(qR:iA 9 [.sl true (start.length+params.length) 2 λi_ j_=>if i_<start.length then(tg start) i_ j_ else(E.jV<|kF params) (i_-start.length) j_,.fn 11 [(.ky 1 λj_=>[.fn 6 []].getD j_ .any)]]<|bP jx)(hn:¬(jx=false/\jG N D=true/\x=true/\0<N)):iA 3 [.v<|.int .u8 k,kF start,kF params,.agg [iP N,iP D],.v<|.int .u8 u]<|bP true:=by
 obtain⟨k1_,k2_⟩:=oM;obtain⟨u1_,u2_⟩:=hu;exact iM (ae [.c I0,.o 38<|ar (IntKind.i64.wrap k) k<|i64_in _,.a (aI:0<(10:Int)),.o 39<|ar (Int.tmod k 10) c hc,ag [iP c] hS,ag [.agg [iP N,iP D]] hE]<|.w (jx=true)
  (λk1=>af [ai 53 ((start.length:Int) != (s:Int))<|wJ l1,ai 58 ((params.length:Int) != (q:Int))<|wJ l2,.cn (EP _:yw 10 [kF start] true 24 start.length 2<|tg start),.a (aI:(start.length+params.length)*16<=140737488355328),ag [.sl true (start.length+params.length) 2 λi_ j_=>if i_<start.length then(tg start) i_ j_ else(E.jV<|kF params) (i_-start.length) j_,.fn 11 [(.ky 1 λj_=>[.fn 6 []].getD j_ .any)]] qR,tB 66 k1])
  (λk1=>.w (jG N D=true)
   (λk2=>.w (x=true)
    (λk3=>ae [tB 49 k3,ai 53 ((start.length:Int) != (s:Int))<|wJ l1,ai 58 ((params.length:Int) != (q:Int))<|wJ l2,.cn (EP _:yw 10 [kF start] true 24 start.length 2<|tg start),.a (aI:(start.length+params.length)*16<=140737488355328),ag [.sl true (start.length+params.length) 2 λi_ j_=>if i_<start.length then(tg start) i_ j_ else(E.jV<|kF params) (i_-start.length) j_,.fn 11 [(.ky 1 λj_=>[.fn 6 []].getD j_ .any)]] qR,tB 66<|bn k1,.c<|FX N D,tB 71 k2]<|.w (N<=0)
     (λk4=>af [tB 81<|bC k4])
     (λk4=>.x<|by exact absurd ⟨bn k1,k2,k3,aI⟩ hn))
    (λk3=>af [tB 49<|bn k3,ai 53 ((start.length:Int) != (s:Int))<|wJ l1,ai 58 ((params.length:Int) != (q:Int))<|wJ l2,.cn (EP _:yw 10 [kF start] true 24 start.length 2<|tg start),.a (aI:(start.length+params.length)*16<=140737488355328),ag [.sl true (start.length+params.length) 2 λi_ j_=>if i_<start.length then(tg start) i_ j_ else(E.jV<|kF params) (i_-start.length) j_,.fn 11 [(.ky 1 λj_=>[.fn 6 []].getD j_ .any)]] qR,tB 66<|bn k1,.c<|FX N D,tB 71 k2]))
   (λk2=>af [ai 53 ((start.length:Int) != (s:Int))<|wJ l1,ai 58 ((params.length:Int) != (q:Int))<|wJ l2,.cn (EP _:yw 10 [kF start] true 24 start.length 2<|tg start),.a (aI:(start.length+params.length)*16<=140737488355328),ag [.sl true (start.length+params.length) 2 λi_ j_=>if i_<start.length then(tg start) i_ j_ else(E.jV<|kF params) (i_-start.length) j_,.fn 11 [(.ky 1 λj_=>[.fn 6 []].getD j_ .any)]] qR,tB 66<|bn k1,.c<|FX N D,tB 71<|bn k2])))
def aog(hr:Int.tmod u 9=(r:Int))(zV:r<=8)(s1:1<=s)(s2:s<=2)(q1:q<=1)(hS:iA 5 [iP (c:Int)]<|.iK [iP (s:Int),iP (q:Int)])(hE:iA 8 [.agg [iP N,iP D]]<|.iK [iF E0,bP x])(l1:start.length=s)(l2:params.length=q)(qR:iA 9 [.sl true (start.length+params.length) 2 λi_ j_=>if i_<start.length then(tg start) i_ j_ else(E.jV<|kF params) (i_-start.length) j_,.fn 11 [(.ky 1 λj_=>[.fn 6 []].getD j_ .any)]]<|bP jx)(d3:jx=false)(d4:jG N D=true)(d5:x=true)(hN:0<N)(oB:∀ i,i<start.length->jG (start.getD i mZ).1 (start.getD i mZ).2=true)(zW:∀ i,i<params.length->jG (params.getD i mZ).1 (params.getD i mZ).2=true)(S:lr)(Fc:iA 13 [iP (c:Int),iQ<|(List.range params.length).map<|lU params]<|lk S)(U:List Iv)(e:Int)(P4:iA 14 [lk S,iQ<|(List.range start.length).map<|lU start,iF E0,iP 60]<|.iK [iQ U,iP e])(d6:e=12):iA 3 [.v<|.int .u8 k,kF start,kF params,.agg [iP N,iP D],.v<|.int .u8 u]<|bP true:=by
 obtain⟨k1_,k2_⟩:=oM;obtain⟨u1_,u2_⟩:=hu;exact iM (ae [.c I0,.o 38<|ar (IntKind.i64.wrap k) k<|i64_in _,.a (aI:0<(10:Int)),.o 39<|ar (Int.tmod k 10) c hc,ag [iP c] hS,ag [.agg [iP N,iP D]] hE,ah 49 x d5,ai 53 ((start.length:Int) != (s:Int))<|wJ l1,ai 58 ((params.length:Int) != (q:Int))<|wJ l2,.cn (EP _:yw 10 [kF start] true 24 start.length 2<|tg start),.a (aI:(start.length+params.length)*16<=140737488355328),ag [.sl true (start.length+params.length) 2 λi_ j_=>if i_<start.length then(tg start) i_ j_ else(E.jV<|kF params) (i_-start.length) j_,.fn 11 [(.ky 1 λj_=>[.fn 6 []].getD j_ .any)]] qR,ai 66 jx d3,.c<|FX N D,ah 71 (jG N D) d4,tF 81 (N<=0) aI,.y 17 17 true 38 7<|kK<|(List.range 0).map<|lU start,.s (Sp.kj (MG k u start params N D c E0) 0 start.length aI (λi hi qn=>by
    have xi:=wM<|lU start i;exact jg (ae [tT 86 ((i:Int)<start.length) aI,iX (i:Int)<|start.length,.c<|Hp ((start.getD i mZ).1) ((start.getD i mZ).2) 60 (oB i aI) aK aK,.o 92<|.e<|nT<|lU start i,.a (aI:(i+[lU start i].length)*88<=140737488355328),iL<|(i:Int)+1]<|.e<|af [.b 17 (yZ rfl rfl rfl:Bx.le (.row true 38 (i+[lU start i].length) 7 λi_ j_=>if i_<i then(kK<|(List.range i).map<|lU start) i_ j_ else(E.jV<|iQ [lU start i]) (i_-i) j_)<|.row true 38 (i+1) 7<|kK<|(List.range<|i+1).map<|lU start)]) aM)
  (λhi=>by
    exact jg (ae [tF 86 ((start.length:Int)<start.length) aI,.z 17]<|.e<|af [.o 17 (.e<|Aa aP:aj (.sl true start.length 7<|kK<|(List.range start.length).map<|lU start)<|iQ<|(List.range start.length).map<|lU start)]) aM) aQ:ki 11 Tryz.f3 (MG k u start params N D c E0 0) (.exit 0) ⟨188,true,[(17,.e<|iQ<|(List.range start.length).map<|lU start),(18,.e<|.v<|.slice none 0 0),(15,.box 15 0),(11,.e<|iP c),(8,.box 8 0),(1,.e<|kF start),(2,.e<|kF params),(4,.e<|.v<|.int .u8 u)],[(15,.cells 31<|ke E0),(8,.cells 24 [iP N,iP D])]⟩) .nil,.y 18 18 true 38 7<|kK<|(List.range 0).map<|lU params,.s (Sp.kj (MF k u start params N D c E0) 0 params.length aI (λi hi qn=>by
    have xi:=wM<|lU params i;exact jg (ae [tT 98 ((i:Int)<params.length) aI,iX (i:Int)<|params.length,.c<|Hp ((params.getD i mZ).1) ((params.getD i mZ).2) 60 (zW i aI) aK aK,.o 104<|.e<|nT<|lU params i,.a (aI:(i+[lU params i].length)*88<=140737488355328),iL<|(i:Int)+1]<|.e<|af [.b 18 (yZ rfl rfl rfl:Bx.le (.row true 38 (i+[lU params i].length) 7 λi_ j_=>if i_<i then(kK<|(List.range i).map<|lU params) i_ j_ else(E.jV<|iQ [lU params i]) (i_-i) j_)<|.row true 38 (i+1) 7<|kK<|(List.range<|i+1).map<|lU params)]) aM)
  (λhi=>by
    exact jg (ae [tF 98 ((params.length:Int)<params.length) aI,.z 18]<|.e<|af [.o 18 (.e<|Aa aP:aj (.sl true params.length 7<|kK<|(List.range params.length).map<|lU params)<|iQ<|(List.range params.length).map<|lU params)]) aM) aQ:ki 16 Tryz.f3 (MF k u start params N D c E0 0) (.exit 2) ⟨188,true,[(18,.e<|iQ<|(List.range params.length).map<|lU params),(17,.e<|iQ<|(List.range start.length).map<|lU start),(15,.box 15 0),(11,.e<|iP c),(8,.box 8 0),(1,.e<|kF start),(2,.e<|kF params),(4,.e<|.v<|.int .u8 u)],[(15,.cells 31<|ke E0),(8,.cells 24 [iP N,iP D])]⟩) .nil,ag [iP c,iQ<|(List.range params.length).map<|lU params] Fc,ag [lk S,iQ<|(List.range start.length).map<|lU start,iF E0,iP 60] P4,ah 118 (e != 0)<|by rw[d6];rfl]<|rQ (bP<|e==12) (bP true)<|by rw[d6];rfl)
def aoh(hr:Int.tmod u 9=(r:Int))(zV:r<=8)(s1:1<=s)(s2:s<=2)(q1:q<=1)(hS:iA 5 [iP (c:Int)]<|.iK [iP (s:Int),iP (q:Int)])(hE:iA 8 [.agg [iP N,iP D]]<|.iK [iF E0,bP x])(l1:start.length=s)(l2:params.length=q)(qR:iA 9 [.sl true (start.length+params.length) 2 λi_ j_=>if i_<start.length then(tg start) i_ j_ else(E.jV<|kF params) (i_-start.length) j_,.fn 11 [(.ky 1 λj_=>[.fn 6 []].getD j_ .any)]]<|bP jx)(d3:jx=false)(d4:jG N D=true)(d5:x=true)(hN:0<N)(oB:∀ i,i<start.length->jG (start.getD i mZ).1 (start.getD i mZ).2=true)(zW:∀ i,i<params.length->jG (params.getD i mZ).1 (params.getD i mZ).2=true)(S:lr)(Fc:iA 13 [iP (c:Int),iQ<|(List.range params.length).map<|lU params]<|lk S)(U:List Iv)(e:Int)(P4:iA 14 [lk S,iQ<|(List.range start.length).map<|lU start,iF E0,iP 60]<|.iK [iQ U,iP e])(d6:e=0)(d7:U.length=start.length)(tn td:Nat->Int)(tk:Nat->Bool)(kn:Nat->List Iv)(ex:Nat->Bool)(hP:∀ i,i<r+1->iA 15 [.agg [iP N,iP D],iP (i:Int)] (.iK [.agg [iP<|tn i,iP<|td i],bP<|tk i]))(P6:∀ i,i<r+1->tk i=true->iA 16 [iP (c:Int),kF start,kF params,.agg [iP<|tn i,iP<|td i]] (.iK [iQ<|kn i,bP<|ex i]))(hlen:∀ i,i<r+1->tk i=true->ex i=true->(kn i).length<=U.length)(Ln:∀ i,i<r+1->tk i=true->ex i=true->∀ j,j<(kn i).length->iA 17 [iC<|(kn i).getD j iH,iC<|U.getD j iH] (.iK [iC<|Cl ((kn i).getD j iH)<|U.getD j iH,bP true]))(kY:∀ i,i<r+1->tk i=true->ex i=false->c≠0/\c≠2/\(c=9->(start.getD 0 mZ).1<=0)):iA 3 [.v<|.int .u8 k,kF start,kF params,.agg [iP N,iP D],.v<|.int .u8 u]<|bP true:=by
 obtain⟨k1_,k2_⟩:=oM;obtain⟨u1_,u2_⟩:=hu;exact iM (af [.c I0,.o 38<|ar (IntKind.i64.wrap k) k<|i64_in _,.a (aI:0<(10:Int)),.o 39<|ar (Int.tmod k 10) c hc,ag [iP c] hS,ag [.agg [iP N,iP D]] hE,ah 49 x d5,ai 53 ((start.length:Int) != (s:Int))<|wJ l1,ai 58 ((params.length:Int) != (q:Int))<|wJ l2,.cn (EP _:yw 10 [kF start] true 24 start.length 2<|tg start),.a (aI:(start.length+params.length)*16<=140737488355328),ag [.sl true (start.length+params.length) 2 λi_ j_=>if i_<start.length then(tg start) i_ j_ else(E.jV<|kF params) (i_-start.length) j_,.fn 11 [(.ky 1 λj_=>[.fn 6 []].getD j_ .any)]] qR,ai 66 jx d3,.c<|FX N D,ah 71 (jG N D) d4,tF 81 (N<=0) aI,.y 17 17 true 38 7<|kK<|(List.range 0).map<|lU start,.s (Sp.kj (MG k u start params N D c E0) 0 start.length aI (λi hi qn=>by
    have xi:=wM<|lU start i;exact jg (ae [tT 86 ((i:Int)<start.length) aI,iX (i:Int)<|start.length,.c<|Hp ((start.getD i mZ).1) ((start.getD i mZ).2) 60 (oB i aI) aK aK,.o 92<|.e<|nT<|lU start i,.a (aI:(i+[lU start i].length)*88<=140737488355328),iL<|(i:Int)+1]<|.e<|af [.b 17 (yZ rfl rfl rfl:Bx.le (.row true 38 (i+[lU start i].length) 7 λi_ j_=>if i_<i then(kK<|(List.range i).map<|lU start) i_ j_ else(E.jV<|iQ [lU start i]) (i_-i) j_)<|.row true 38 (i+1) 7<|kK<|(List.range<|i+1).map<|lU start)]) aM)
  (λhi=>by
    exact jg (ae [tF 86 ((start.length:Int)<start.length) aI,.z 17]<|.e<|af [.o 17 (.e<|Aa aP:aj (.sl true start.length 7<|kK<|(List.range start.length).map<|lU start)<|iQ<|(List.range start.length).map<|lU start)]) aM) aQ:ki 11 Tryz.f3 (MG k u start params N D c E0 0) (.exit 0) ⟨188,true,[(17,.e<|iQ<|(List.range start.length).map<|lU start),(18,.e<|.v<|.slice none 0 0),(15,.box 15 0),(11,.e<|iP c),(8,.box 8 0),(1,.e<|kF start),(2,.e<|kF params),(4,.e<|.v<|.int .u8 u)],[(15,.cells 31<|ke E0),(8,.cells 24 [iP N,iP D])]⟩) .nil,.y 18 18 true 38 7<|kK<|(List.range 0).map<|lU params,.s (Sp.kj (MF k u start params N D c E0) 0 params.length aI (λi hi qn=>by
    have xi:=wM<|lU params i;exact jg (ae [tT 98 ((i:Int)<params.length) aI,iX (i:Int)<|params.length,.c<|Hp ((params.getD i mZ).1) ((params.getD i mZ).2) 60 (zW i aI) aK aK,.o 104<|.e<|nT<|lU params i,.a (aI:(i+[lU params i].length)*88<=140737488355328),iL<|(i:Int)+1]<|.e<|af [.b 18 (yZ rfl rfl rfl:Bx.le (.row true 38 (i+[lU params i].length) 7 λi_ j_=>if i_<i then(kK<|(List.range i).map<|lU params) i_ j_ else(E.jV<|iQ [lU params i]) (i_-i) j_)<|.row true 38 (i+1) 7<|kK<|(List.range<|i+1).map<|lU params)]) aM)
  (λhi=>by
    exact jg (ae [tF 98 ((params.length:Int)<params.length) aI,.z 18]<|.e<|af [.o 18 (.e<|Aa aP:aj (.sl true params.length 7<|kK<|(List.range params.length).map<|lU params)<|iQ<|(List.range params.length).map<|lU params)]) aM) aQ:ki 16 Tryz.f3 (MF k u start params N D c E0 0) (.exit 2) ⟨188,true,[(18,.e<|iQ<|(List.range params.length).map<|lU params),(17,.e<|iQ<|(List.range start.length).map<|lU start),(15,.box 15 0),(11,.e<|iP c),(8,.box 8 0),(1,.e<|kF start),(2,.e<|kF params),(4,.e<|.v<|.int .u8 u)],[(15,.cells 31<|ke E0),(8,.cells 24 [iP N,iP D])]⟩) .nil,ag [iP c,iQ<|(List.range params.length).map<|lU params] Fc,ag [lk S,iQ<|(List.range start.length).map<|lU start,iF E0,iP 60] P4,ai 118 (e != 0)<|by rw[d6];rfl,ai 125 ((U.length:Int) != (((List.range start.length).map<|lU start).length:Int))<|wJ<|by simpa using d7,.o 127<|ar (IntKind.i64.wrap u) u<|i64_in _,.a (aI:0<(9:Int)),.o 128<|ar (Int.tmod u 9) r hr,
  iL ((r:Int)+1),.o 129<|ar ((r:Int)+1) ((r+1:Nat):Int),.s (Sp.kj (abi k u start params N D c r E0 S U) 0 (r+1) aI (λi hi qn=>by
    by_cases hk:tk i=true
    .by_cases hx:ex i=true
     .exact jg (af [tT 131 ((i:Int)<((r+1:Nat):Int)) aI,ag [.agg [iP N,iP D],iP i]<|hP i aI,ah 138 (tk i) hk,ag [iP c,kF start,kF params,.agg [iP<|tn i,iP<|td i]]<|P6 i aI hk,ah 148 (ex i) hx,.s (Sp.kj (abh k u start params N D c r E0 S U tn td kn i) 0 ((kn i).length) aI (λj hj QS=>by
    have Y6:=hlen i aI hk hx;exact jg (af [tT 171 ((j:Int)<((kn i).length:Int)) aI,iX (j:Int)<|(kn i).length,iX (j:Int)<|U.length,ag [iC<|(kn i).getD j iH,iC<|U.getD j iH]<|Ln i aI hk hx j aI,iL<|(j:Int)+1]) aM)
  (λhj=>by
    exact jg (af [tF 171 (((kn i).length:Int)<((kn i).length:Int)) aI]) aM) aQ:ki 36 Tryz.f3 (abh k u start params N D c r E0 S U tn td kn i 0) (.exit 6) ⟨188,true,[(130,.e<|iP i),(129,.e<|iP ((r+1:Nat):Int)),(24,.e<|iQ U),(11,.e<|iP c),(8,.box 8 0),(1,.e<|kF start),(2,.e<|kF params)],[(8,.cells 24 [iP N,iP D])]⟩) .nil,
       iL ((i:Int)+1)]) aM 
     .by_cases h9:c=9
      .obtain ⟨h0,h2,YP⟩:=kY i aI hk<|bn hx;exact jg (af [tT 131 ((i:Int)<((r+1:Nat):Int)) aI,ag [.agg [iP N,iP D],iP i]<|hP i aI,ah 138 (tk i) hk,ag [iP c,kF start,kF params,.agg [iP<|tn i,iP<|td i]]<|P6 i aI hk,tB 148<|bn hx,ai 152 ((c:Int)==0)<|Jh h0,ai 155 ((c:Int)==2)<|Jh h2,ah 159 ((c:Int)==9)<|anj h9,iX 0<|start.length,tF 165 (0<(start.getD 0 mZ).1)<|by have:=YP h9;omega,
        iL ((i:Int)+1)]) aM 
      .obtain ⟨h0,h2,YP⟩:=kY i aI hk<|bn hx;exact jg (af [tT 131 ((i:Int)<((r+1:Nat):Int)) aI,ag [.agg [iP N,iP D],iP i]<|hP i aI,ah 138 (tk i) hk,ag [iP c,kF start,kF params,.agg [iP<|tn i,iP<|td i]]<|P6 i aI hk,tB 148<|bn hx,ai 152 ((c:Int)==0)<|Jh h0,ai 155 ((c:Int)==2)<|Jh h2,ai 159 ((c:Int)==9)<|Jh h9,iL<|(i:Int)+1]) aM 
    .exact jg (af [tT 131 ((i:Int)<((r+1:Nat):Int)) aI,ag [.agg [iP N,iP D],iP i]<|hP i aI,tB 138<|bn hk,iL<|(i:Int)+1]) aM)
  (λhi=>by
    exact jg (af [tF 131 (((r+1:Nat):Int)<((r+1:Nat):Int)) aI]) aM) aQ:ki 27 Tryz.f3 (abi k u start params N D c r E0 S U 0) (.exit 4) ⟨188,true,[],[]⟩) .nil])
end
end
def aqR{n d:Int}{p:Nat}(hr:jG n d=true)(hp:8<=p)(iJ:p<=512):(kH n d p).all=false:=by
 obtain⟨r1,r2,r3,r4⟩:=sW hr;obtain⟨e,rfl⟩:=eh (aI:0<=d);by_cases h0:n=0
 .subst h0;rw[acA hp iJ hr]
 by_cases h1:0<n
 .obtain ⟨k,rfl⟩:=eh (aI:0<=n);obtain⟨K,k1,_,k2⟩:=K5 (n:=k) (d:=e) aI aI aI p;rw[acz aI aI hp iJ k1 k2 hr]
 .obtain ⟨k,rfl⟩:∃ k:Nat,n = -(k:Int):=⟨n.natAbs,aI⟩
  obtain⟨K,k1,_,k2⟩:=K5 (n:=k) (d:=e) aI aI aI p;rw[acy aI aI hp iJ k1 k2 hr]
structure E60(a b:Int):Prop where
 v:(kH a b 60).iD
 f:(kH a b 60).all=false
 h:(kH a b 60).ja<|(a:Rat)/(b:Rat)
def rm{a b:Int}(hr:jG a b=true):E60 a b:=⟨Ak _ _ aK aK,aqR hr aK aK,M6 hr aK aK⟩
def GX{U:List Iv}(h:lR 2 U):∃ A B,U=[A,B]/\A.iD/\A.all=false/\B.iD/\B.all=false:=by
 obtain⟨hl,ho⟩:=h;rcases U with _|⟨A,_|⟨B,_|⟨C,l⟩⟩⟩
 .simp at hl
 .simp at hl
 .exact ⟨A,B,rfl,(ho 0 aP).1,(ho 0 aP).2,(ho 1 aP).1,(ho 1 aP).2⟩
 .simp at hl
section
variable(c:Nat)(start params:List<|Int×Int)
def Ki(U:List Iv)(n m:Int)(K:List Iv)(ex:Bool):Prop:=
 wQ (c:Int) start params n m K ex/\K.length<=U.length/\(∀ j,j<K.length->(K.getD j iH).iD)/\(ex=true->∀ j,j<K.length->qX (K.getD j iH) (U.getD j iH))/\(ex=false->c≠0/\c≠2/\(c=9->(start.getD 0 mZ).1<=0))
def pX(E0:Dy):Prop:=
 ∃ S:lr,iA 13 [iP (c:Int),iQ<|(List.range params.length).map<|lU params] (lk S)/\nQ S/\S.kO=start.length /\
  ∀ U,lR start.length U->nh S ((List.range start.length).map<|lU start) E0 U 60=true->∀ n m t,qy n m t->t<=E0.q->∃ K ex,Ki c start params U n m K ex
end
section
variable{c:Nat}{start params:List<|Int×Int}
def GL{B K:Iv}{n m:Int}{ex:Bool}(h:wQ (c:Int) start params n m [K] ex)(v:K.iD)(hm:ex=true->qX K B)(hx:ex=false->c≠0/\c≠2/\(c=9->(start.getD 0 mZ).1<=0)):∃ K ex,Ki c start params [B] n m K ex:=
 ⟨[K],ex,h,bB _,λj hj=>by
  obtain rfl:j=0:=by have:j<1:=hj;omega
  exact v,λq j hj=>by
  obtain rfl:j=0:=by have:j<1:=hj;omega
  exact hm q,hx⟩
def GN{B C K L:Iv}{n m:Int}{ex:Bool}(h:wQ (c:Int) start params n m [K,L] ex)(v:K.iD)(w:L.iD)(hm:ex=true->qX K B/\qX L C)(hx:ex=false->c≠0/\c≠2/\(c=9->(start.getD 0 mZ).1<=0)):∃ K ex,Ki c start params [B,C] n m K ex:=
 ⟨[K,L],ex,h,bB _,λj hj=>by
  obtain rfl|rfl:j=0\/j=1:=by have:j<2:=hj;omega
  .exact v
  .exact w,λq j hj=>by
  obtain rfl|rfl:j=0\/j=1:=by have:j<2:=hj;omega
  .exact (hm q).1
  .exact (hm q).2,hx⟩
end
def D9{c:Nat}(h0:c≠0)(h2:c≠2)(h9:c≠9){p:Prop}:c≠0/\c≠2/\(c=9->p):=⟨h0,h2,λq=>absurd q h9⟩
section
variable {a b c d e f:Int} {E0:Dy} (vE:E0.iD) (r1:jG a b=true) (r2:jG c d=true) (r3:jG e f=true)
include vE r1
def akq:pX 0 [(a,b)] [] E0:=⟨G5,afX,ahB,rfl,λU hU hc n m t ht hle=>by
 obtain⟨B,rfl,vB,aB⟩:=GY hU;obtain⟨K,ex,hK,vK,h1,h2⟩:=kn0 r1 ht;have X:=rm r1;obtain⟨w,hm⟩:=pk0 X.v X.f vB aB vE X.h ht.nn hle hc;exact GL hK vK (λ_=>hm K h1) λq=>by rw[h2 w]at q;cases q⟩
def akw:pX 6 [(a,b)] [] E0:=⟨G9,af3,ahH,rfl,λU hU hc n m t ht hle=>by
 obtain⟨B,rfl,vB,aB⟩:=GY hU;obtain⟨K,ex,hK,vK,h1,h2⟩:=kn6 r1 ht;have X:=rm r1;exact GL hK vK (λq=>pk6 X.v X.f vB aB vE X.h ht.nn hle hc (h2 q) h1) λ_=>D9 aK aK aK⟩
def akx:pX 7 [(a,b)] [] E0:=⟨EV,af4,ahI,rfl,λU hU hc n m t ht hle=>by
 obtain⟨B,rfl,vB,aB⟩:=GY hU;obtain⟨K,ex,hK,vK,h1⟩:=kn7 r1 ht;have X:=rm r1;obtain⟨h1,h2⟩:=h1<|aoe X.v X.f vB aB vE X.h ht.nn hle hc;exact GL hK vK (λq=>pk7 X.v X.f vB aB vE X.h ht.nn hle hc (h2 q) h1) λ_=>D9 aK aK aK⟩
def akz:pX 9 [(a,b)] [] E0:=⟨Hb,af6,ahK,rfl,λU hU hc n m t ht hle=>by
 obtain⟨B,rfl,vB,aB⟩:=GY hU;obtain⟨K,ex,hK,vK,h1,h2,h3⟩:=kn9 r1 ht;have X:=rm r1;exact GL hK vK (λq=>pk9 X.v X.f vB aB vE X.h ht.nn hle hc (h1 q) h2) λq=>⟨aK,aK,λ_=>by
  apply Int.not_lt.1;intro k;rw[h3 k]at q;cases q⟩⟩
include r3
def aku:pX 4 [(a,b)] [(e,f)] E0:=⟨G8<|kH e f 60,af1<|kH e f 60,ahF (rm r3).v (rm r3).f,rfl,λU hU hc n m t ht hle=>by
 obtain⟨B,rfl,vB,aB⟩:=GY hU;obtain⟨K,ex,hK,vK,h1⟩:=kn4 r1 r3 ht;have X:=rm r1;have A:=rm r3;exact GL hK vK (λ_=>pk4 X.v X.f vB aB vE X.h ht.nn hle A.v A.h hc h1) λ_=>D9 aK aK aK⟩
omit r3
include r2
def aks:pX 2 [(a,b),(c,d)] [] E0:=⟨G7,afZ,ahD,rfl,λU hU hc n m t ht hle=>by
 obtain⟨B,C,rfl,vB,aB,vC,aC⟩:=GX hU;obtain⟨K,L,ex,hK,vK,vL,h1,h2,h3⟩:=kn2 r1 r2 ht;have X:=rm r1;have Y:=rm r2;obtain⟨w,hm⟩:=pk2 X.v X.f Y.v Y.f vB aB vC aC vE X.h Y.h ht.nn hle hc;exact GN hK vK vL (λ_=>hm K L h1 h2) λq=>by rw[h3 w]at q;cases q⟩
def akt:pX 3 [(a,b),(c,d)] [] E0:=⟨BM,af0,ahE,rfl,λU hU hc n m t ht hle=>by
 obtain⟨B,C,rfl,vB,aB,vC,aC⟩:=GX hU;obtain⟨K,L,ex,hK,vK,vL,h1,h2,h3⟩:=kn3 r1 r2 ht;have X:=rm r1;have Y:=rm r2;exact GN hK vK vL (λq=>pk3 X.v X.f Y.v Y.f vB aB vC aC vE X.h Y.h ht.nn hle hc (h3 q) h1 h2) λ_=>D9 aK aK aK⟩
def akv:pX 5 [(a,b),(c,d)] [] E0:=⟨EU,af2,ahG,rfl,λU hU hc n m t ht hle=>by
 obtain⟨B,C,rfl,vB,aB,vC,aC⟩:=GX hU;obtain⟨K,L,ex,hK,vK,vL,h1⟩:=kn5 r1 r2 ht;have X:=rm r1;have Y:=rm r2;obtain⟨h1,h2⟩:=h1<|aod X.v X.f Y.v Y.f vB aB vC aC vE X.h Y.h ht.nn hle hc;exact GN hK vK vL (λ_=>pk5 X.v X.f Y.v Y.f vB aB vC aC vE X.h Y.h ht.nn hle hc h1 h2) λ_=>D9 aK aK aK⟩
def aky:pX 8 [(a,b),(c,d)] [] E0:=⟨Ha,af5,ahJ,rfl,λU hU hc n m t ht hle=>by
 obtain⟨B,C,rfl,vB,aB,vC,aC⟩:=GX hU;obtain⟨K,L,ex,hK,vK,vL,h1,h2⟩:=kn8 r1 r2 ht;have X:=rm r1;have Y:=rm r2;exact GN hK vK vL (λ_=>pk8 X.v X.f Y.v Y.f vB aB vC aC vE X.h Y.h ht.nn hle hc h1 h2) λ_=>D9 aK aK aK⟩
include r3
def akr:pX 1 [(a,b),(c,d)] [(e,f)] E0:=⟨G6<|kH e f 60,afY<|kH e f 60,ahC (rm r3).v (rm r3).f,rfl,λU hU hc n m t ht hle=>by
 obtain⟨B,C,rfl,vB,aB,vC,aC⟩:=GX hU;obtain⟨K,L,ex,hK,vK,vL,h1,h2⟩:=kn1 r1 r2 r3 ht;have X:=rm r1;have Y:=rm r2;have A:=rm r3;exact GN hK vK vL (λ_=>pk1 X.v X.f Y.v Y.f vB aB vC aC vE X.h Y.h ht.nn hle A.v A.h hc h1 h2) λ_=>D9 aK aK aK⟩
end
def An(c:Nat):Nat×Nat:=if c=1 then(2,1)else if c=4 then(1,1)else if c=2\/c=3\/c=5\/c=8 then(2,0)else(1,0)
def arJ{c:Nat}(h:c<=9):iA 5 [iP (c:Int)]<|.iK [iP (((An c).1:Nat):Int),iP (((An c).2:Nat):Int)]:=by
 have:c=0\/c=1\/c=2\/c=3\/c=4\/c=5\/c=6\/c=7\/c=8\/c=9:= aI ;rcases this with h|h|h|h|h|h|h|h|h|h<;>subst h
 .exact ZP
 .exact ZQ
 .exact ZR
 .exact ZS
 .exact ZT
 .exact ZU
 .exact ZV
 .exact ZW
 .exact ZX
 .exact ZY
def arI(c:Nat):1<=(An c).1/\(An c).1<=2/\(An c).2<=1:=by
 unfold An;split
 .decide
 .split
  .decide
  .split<;>decide
def D2{l:List<|Int×Int}(h:l.length=1):∃ a b,l=[(a,b)]:=by
 rcases l with _|⟨⟨a,b⟩,_|⟨y,l⟩⟩
 .simp at h
 .exact ⟨a,b,rfl⟩
 .simp at h
def I7{l:List<|Int×Int}(h:l.length=2):∃ a b c d,l=[(a,b),(c,d)]:=by
 rcases l with _|⟨⟨a,b⟩,_|⟨⟨c,d⟩,_|⟨y,l⟩⟩⟩
 .simp at h
 .simp at h
 .exact ⟨a,b,c,d,rfl⟩
 .simp at h
def akA{c:Nat}(hc:c<=9){start params:List<|Int×Int}{E0:Dy}(vE:E0.iD)(l1:start.length=(An c).1)(l2:params.length=(An c).2)
 (oB:∀ i,i<start.length->jG (start.getD i mZ).1 (start.getD i mZ).2=true) (zW:∀ i,i<params.length->jG (params.getD i mZ).1 (params.getD i mZ).2=true):pX c start params E0:=by
 have:c=0\/c=1\/c=2\/c=3\/c=4\/c=5\/c=6\/c=7\/c=8\/c=9:= aI ;rcases this with h|h|h|h|h|h|h|h|h|h<;>subst h
 .obtain ⟨a,b,rfl⟩:=D2 l1;obtain rfl:=eG.1 l2;exact akq vE<|oB 0<|by show 0<1;decide
 .obtain ⟨a,b,c,d,rfl⟩:=I7 l1;obtain⟨e,f,rfl⟩:=D2 l2;exact akr vE (oB 0<|by show 0<2;decide) (oB 1<|by show 1<2;decide)<|zW 0<|by show 0<1;decide
 .obtain ⟨a,b,c,d,rfl⟩:=I7 l1;obtain rfl:=eG.1 l2;exact aks vE (oB 0<|by show 0<2;decide)<|oB 1<|by show 1<2;decide
 .obtain ⟨a,b,c,d,rfl⟩:=I7 l1;obtain rfl:=eG.1 l2;exact akt vE (oB 0<|by show 0<2;decide)<|oB 1<|by show 1<2;decide
 .obtain ⟨a,b,rfl⟩:=D2 l1;obtain⟨e,f,rfl⟩:=D2 l2;exact aku vE (oB 0<|by show 0<1;decide)<|zW 0<|by show 0<1;decide
 .obtain ⟨a,b,c,d,rfl⟩:=I7 l1;obtain rfl:=eG.1 l2;exact akv vE (oB 0<|by show 0<2;decide)<|oB 1<|by show 1<2;decide
 .obtain ⟨a,b,rfl⟩:=D2 l1;obtain rfl:=eG.1 l2;exact akw vE<|oB 0<|by show 0<1;decide
 .obtain ⟨a,b,rfl⟩:=D2 l1;obtain rfl:=eG.1 l2;exact akx vE<|oB 0<|by show 0<1;decide
 .obtain ⟨a,b,c,d,rfl⟩:=I7 l1;obtain rfl:=eG.1 l2;exact aky vE (oB 0<|by show 0<2;decide)<|oB 1<|by show 1<2;decide
 .obtain ⟨a,b,rfl⟩:=D2 l1;obtain rfl:=eG.1 l2;exact akz vE<|oB 0<|by show 0<1;decide
def afR{l:List<|Int×Int}(h:∀ i,i<l.length->jG (l.getD i mZ).1 (l.getD i mZ).2=true):lR l.length<|(List.range l.length).map<|lU l:=by
 refine⟨aP,λi hi=>?_⟩;have hi:i<l.length:=by simpa using hi
 rw[MR hi];have:=rm<|h i hi;exact⟨this.v,this.f⟩
def ams(k:Int)(start params:List<|Int×Int)(st:Int×Int)(u:Int)(oM:0<=k/\k<=255)(hu:0<=u/\u<=255):
 iA 3 [.v<|.int .u8 k,kF start,kF params,.agg [iP st.1,iP st.2],.v<|.int .u8 u] (bP true):=by
 obtain⟨N,D⟩:=st;show iA 3 [.v<|.int .u8 k,kF start,kF params,.agg [iP N,iP D],.v<|.int .u8 u] (bP true);obtain⟨c,ec⟩:∃ c,c=k.toNat%10:=⟨_,rfl⟩
 obtain⟨r,er⟩:∃ r,r=u.toNat%9:=⟨_,rfl⟩
 have hc:Int.tmod k 10=(c:Int):=by rw[fP oM.1];omega
 have hr:Int.tmod u 9=(r:Int):=by rw[fP hu.1];omega
 have Yw:c<=9:= aI ;have zV:r<=8:= aI ;obtain⟨s1,s2,q1⟩:=arI c;have hS:=arJ Yw;obtain⟨E0,x,hE,wE⟩:=ajg N D;by_cases l1:start.length=(An c).1
 case neg=>exact aoi k u start params N D c _ _ r E0 x oM hu hc hr zV s1 s2 q1 hS hE l1
 by_cases l2:params.length=(An c).2
 case neg=>exact aoj k u start params N D c _ _ r E0 x oM hu hc hr zV s1 s2 q1 hS hE l1 l2
 obtain⟨p,hp⟩:∃ p:Nat->Bool,∀ i,p i = !(if i<start.length then jG (start.getD i mZ).1 (start.getD i mZ).2 else jG (params.getD (i-start.length) mZ).1 (params.getD (i-start.length) mZ).2):=⟨_,λ_=>rfl⟩
 have qR:=aqT true (start.length+params.length) (λi_ j_=>if i_<start.length then(tg start) i_ j_ else(E.jV<|kF params) (i_-start.length) j_) 11 [(.ky 1 λj_=>[.fn 6 []].getD j_ .any)] p (λi hi=>by
  rw[hp];by_cases h:i<start.length
  .have:=abg (start.getD i mZ).1 (start.getD i mZ).2;exact PC.le this (.cons (.jm<|by simp only[bA h];rfl)<|.cons (.refl _) .nil) (.jm<|by simp only[bA h])
  .have:=abg (params.getD (i-start.length) mZ).1 (params.getD (i-start.length) mZ).2;exact PC.le this (.cons (.jm<|by simp only[bw h];rfl)<|.cons (.refl _) .nil)<|.jm<|by simp only[bw h]) aI 
 generalize hb:(List.range<|start.length+params.length).any p=jx at qR;by_cases hn:jx=false/\jG N D=true/\x=true/\0<N
 case neg=>exact aof k u start params N D c _ _ r E0 x jx oM hu hc hr zV s1 s2 q1 hS hE l1 l2 qR hn
 obtain⟨d3,d4,d5,hN⟩:=hn;have yN:∀ i,i<start.length+params.length->p i=false:=λi hi=>by
  cases h:p i
  .rfl
  .have:=eE.2 ⟨i,dr.2 hi,h⟩;rw[hb,d3]at this;cases this
 have oB:∀ i,i<start.length->jG (start.getD i mZ).1 (start.getD i mZ).2=true:=λi hi=>by
  have:=yN i aI;rw[hp,bA hi]at this;simpa using this
 have zW:∀ i,i<params.length->jG (params.getD i mZ).1 (params.getD i mZ).2=true:=λi hi=>by
  have:=yN (start.length+i) aI;rw[hp,bw aI,(aI:start.length+i-start.length=i)]at this;simpa using this
 obtain⟨_,vE,qE,j,j30,hD⟩:=wE d5;obtain⟨S,Fc,okS,sS,ald⟩:=akA Yw vE l1 l2 oB zW;have bX:=afR oB;have dq:0<(D:Rat):=(Bq d4).1;have nq:(0:Rat)<(N:Rat):=Rat.intCast_pos.2 hN;have e0:0<E0.q:=by rw[qE,cB];exact cR nq<|dw.2 dq
 obtain⟨o,pE,hU,_⟩:=aiM S ((List.range start.length).map<|lU start) E0 60 okS (by rw[sS];exact bX) vE ((rA E0).1.2 e0) aK aK;cases o with
 |none=>exact aog k u start params N D c _ _ r E0 x jx oM hu hc hr zV s1 s2 q1 hS hE l1 l2 qR d3 d4 d5 hN oB zW S Fc [] 12 (PC.le pE (.refl _)<|.iK<|.cons (.nil _ _ _)<|.cons (.refl _) .nil) rfl
 |some U=>
  obtain⟨bU,hT⟩:=hU U rfl;rw[sS]at bU;have part:∀ i:Nat,∃ n m y,i<r+1->iA 15 [.agg [iP N,iP D],iP (i:Int)] (.iK [.agg [iP n,iP m],bP y])/\(y=true->qy n m ((n:Rat)/(m:Rat))/\(n:Rat)/(m:Rat)<=E0.q):=λi=>by
   by_cases hi:i<r+1
   .obtain ⟨n,m,y,h1,h2⟩:=an5 N D i aI ;refine⟨n,m,y,λ_=>⟨h1,λq=>?_⟩⟩;obtain⟨g1,g2⟩:=h2 q;refine⟨an8 aI aI d4 j30 hD g1 g2,?_⟩;rw[g2,qE];have i8:((i:Nat):Rat)<=8:=by have:=cX.2 (aI:i<=8);exact this
    have:=bY (show(i:Rat)*(1/8)<=1 by grind)<|yG (bF nq) dq
    grind
   .exact ⟨0,0,true,λq=>absurd q hi⟩
  obtain⟨tn,htn⟩:=gW part;obtain⟨td,htd⟩:=gW htn;obtain⟨tk,Y5⟩:=gW htd;have kns:∀ i:Nat,∃ K ex,i<r+1->tk i=true->Ki c start params U (tn i) (td i) K ex:=λi=>by
   by_cases hi:i<r+1/\tk i=true
   .obtain ⟨h1,h2⟩:=Y5 i hi.1;obtain⟨g1,g2⟩:=h2 hi.2;obtain⟨K,ex,hA⟩:=ald U bU hT _ _ _ g1 g2;exact⟨K,ex,λ_ _=>hA⟩
   .exact ⟨[],true,λa b=>absurd ⟨a,b⟩ hi⟩
  obtain⟨kn,A4⟩:=gW kns;obtain⟨ex,hex⟩:=gW A4;exact aoh k u start params N D c _ _ r E0 x jx oM hu hc hr zV s1 s2 q1 hS hE l1 l2 qR d3 d4 d5 hN oB zW S Fc U 0 pE rfl bU.len tn td tk kn ex (λi hi=>(Y5 i hi).1) (λi hi q=>(hex i hi q).1) (λi hi q _=>(hex i hi q).2.1)
   (λi hi q w j hj=>al3 _ _ ((hex i hi q).2.2.1 j hj) (bU.ok j<|by have:=(hex i hi q).2.1;omega).1<|(hex i hi q).2.2.2.1 w j hj) (λi hi q w=>(hex i hi q).2.2.2.2 w)
open Go.ChangeShapes Go.WideShapes Go.ChangeAt
def amK{α:Type}{l:List α}(h:l.length=2):∃ a b,l=[a,b]:=by
 rcases l with _|⟨a,_|⟨b,_|⟨c,l⟩⟩⟩<;>simp at h
 exact⟨a,b,rfl⟩
section
variable {H:Type} {enc:TypeId×Value->H} {W:World} {fuel:Nat} {cs:List Value} {x:DataW H×List MemPlace}
def aa7(h:DataW.trod enc prog W 0 (λ_=>true) true fuel 3 cs=some x):∃ z,cs=[.int .i64 z]/\ny .i64 z:=by
 obtain⟨z,hz,_,hw⟩:=DataW.trod_int underlying3 h;exact⟨z,hz,Tv hw⟩
def aa8(h:DataW.trod enc prog W 0 (λ_=>true) true fuel 24 cs=some x):∃ n d,cs=[.int .i64 n,.int .i64 d]/\ny .i64 n/\ny .i64 d:=by
 obtain⟨xs,n,rfl,rfl,hl,vj,hf⟩:=DataW.trod_struct underlying24 h;have hC:prog.cellsOf 24=2:= aM ;have hI:prog.cellsOf 3=1:= aM ;rw[hC]at hl;obtain⟨c0,c1,rfl⟩:=amK hl;have h0:=hf 0 _ rfl;have h1:=hf 1 _ rfl;simp only[List.getElem_toArray,List.getElem_cons_zero,atC]at h0 h1;simp only[hI,List.drop_zero,List.drop_succ_cons,List.take_succ_cons,List.take_zero]at h0 h1;rw[bS<|by rw[vj];decide]at h0 h1;obtain⟨z0,e0,w0⟩:=aa7 h0;obtain⟨z1,e1,w1⟩:=aa7 h1;simp at e0 e1;subst e0 e1;exact⟨z0,z1,rfl,w0,w1⟩
end
section
variable {H:Type} {enc:TypeId×Value->H} {W:World} {fuel:Nat} {cs:List Value} {x:DataW H×List MemPlace}
def apO(o:Int×Int)(j:Nat)(hj:j<2):((El o).getD j .any).one=true/\(((El o).getD j .any).oe=true)/\((El o).getD j .any).nr 2=true:=by
 rcases j with _|_|j
 all_goals first|exact⟨rfl,rfl,rfl⟩|omega
def aa9(h:DataW.trod enc prog W 0 (λ_=>true) true fuel 22 cs=some x)(_hlt:∀ p ∈ x.2,p.block<W.heap.size):
  ∃ l v,cs=[v]/\True/\jd tR tR W (kF l) v:=by
 have hC:prog.cellsOf 24=2:= aM ;rcases Deep.open_slice underlying22 h with⟨rfl,_⟩|⟨a,len,cap,m,n,D,Pl,rfl,hb,hl,hm,zT,rfl,hx⟩
 .exact ⟨[],_,rfl,trivial,.sl true 0 2 _ none 0 (λ_ _=>.bool false) (bB _) aK (λ_=>rfl) (λi j hi=>absurd hi<|bM i) (λi j hi=>absurd hi<|bM i) (λi j hi=>absurd hi<|bM i) λi j hi=>absurd hi<|bM i⟩
 .simp only[bW]at zT;subst zT;have ex:∀ i,∃ y:Int×Int,i<len->W.cells? 0 (a.add<|i*2) 2=some [.int .i64 y.1,.int .i64 y.2]:=by
   intro i;by_cases hi:i<len
   .obtain ⟨cs',h1,h2⟩:=hx i aI ;rw[hC]at h1;obtain⟨n,d,hy,_,_⟩:=aa8 h2;exact⟨(n,d),λ_=>by rw[h1,hy]⟩
   .exact ⟨mZ,λh=>absurd h hi⟩
  let X:Nat->Int×Int:=λi=>Classical.choose<|ex i
  have hX:∀ i,i<len->W.cells? 0 (a.add<|i*2) 2=some [.int .i64 (X i).1,.int .i64 (X i).2]:=λi=>dX<|ex i
  have hlen:((List.range len).map X).length=len:= aP ;refine⟨(List.range len).map X,_,rfl,trivial,?_⟩;have QG:∀ i,i<len->((List.range len).map X).getD i mZ=X i:=by
   intro i hi;rw[bJ,dA,at5 hi];rfl
  have:=aqv (W:=W) (a:=a) (len:=len) (cap:=m) (nl:=true) (λi j=>(El<|((List.range len).map X).getD i mZ).getD j .any) hl hm (show 0<2 by decide)
   (λi j _ hj=>let⟨h1,h2,h3⟩:=apO (((List.range len).map X).getD i mZ) j hj;⟨h1,λ_=>h2,h3⟩)
   (λi hi=>by
    refine⟨_,hX i hi,λj hj=>?_⟩;rw[QG i hi];rcases j with _|_|j
    .exact ⟨_,rfl,.v _⟩
    .exact ⟨_,rfl,.v _⟩
    .omega)
  unfold kF;rw[hlen];exact this
end
def ai9:Value:=.agg #[.int .i64 0,.int .i64 0]
def aja{H:Type}:DataW H:=.agg [.lit<|.int .i64 0,.lit<|.int .i64 0]
def anW{H:Type}{enc:TypeId×Value->H}{W:World}{fuel:Nat}{cs:List Value}{x:DataW H×List MemPlace}(h:DataW.trod enc prog W 0 (λ_=>true) true fuel 24 cs=some x):∃ p:Int×Int,cs=[.int .i64 p.1,.int .i64 p.2]:=by
 obtain⟨n,d,e,_,_⟩:=aa8 h;exact⟨(n,d),e⟩
def apR{W:World}{p:Int×Int}{cs:Array Value}(h:cs.toList=[.int .i64 p.1,.int .i64 p.2]):jd tR tR W (.agg [iP p.1,iP p.2])<|.agg cs:=by
 obtain⟨l⟩:=cs;have h:l=[.int .i64 p.1,.int .i64 p.2]:=h;subst h;exact jd.agg (bs:=tR) (br:=tR) (w:=W) [iP p.1,iP p.2] [.int .i64 p.1,.int .i64 p.2] rfl λi q v h1 h2=>by
  rcases i with _|_|i
  .cases h1;cases h2;exact .v _
  .cases h1;cases h2;exact .v _
  .cases h1
def Ee:Array Value:=#[.int .u8 0,.slice none 0 0,.slice none 0 0,ai9,.int .u8 0]
set_option maxRecDepth 100000 in
def aok(H:Type)(enc:TypeId×Value->H)(W:World)(base:Nat)(args:Array Value)(ds gs:List<|DataW H)(before:List MemPlace)
 (lI:∀ (j:Nat) t v,Tryz.f3.params[j]? = some t->args[j]? = some v->Value.okWide prog W .any base t v)
 (hW:DataW.Whole enc prog Tryz.f3.params.toList Rows.picardKnownSpec.vars false W args.toList ds gs before) (hL:laidMetH prog Rows.picardKnownRow.laid W):
 Calls prog 3 args W λe W'=>∃ v,e = .returned v/\Rows.picardKnownSpec.post enc prog Tryz.f3 false true false false W args v W':=by
 have Lw:=hW;obtain⟨p,q,Fb,hV,rfl,hfz,hnd⟩:=hW;have hA:DataW.TrodAll enc prog W 0 (λ_=>true) true Tryz.f3.params.toList args.toList ds p:=Fb;rw[Tryz.params3]at hA lI;obtain⟨v0,vs0,d0,ds0,p0,q0,FE,rfl,rfl,h0,Fb⟩:=trodAll_cons hA;obtain⟨v1,vs1,d1,ds1,p1,q1,rfl,rfl,rfl,h1,hA1⟩:=trodAll_cons Fb;obtain⟨v2,vs2,d2,ds2,p2,q2,rfl,rfl,rfl,h2,hA2⟩:=trodAll_cons hA1;obtain⟨v3,vs3,d3,ds3,p3,q3,rfl,rfl,rfl,h3,hA3⟩:=trodAll_cons hA2;obtain⟨v4,vs4,d4,ds4,p4,q4,rfl,rfl,rfl,h4,hA4⟩:=trodAll_cons hA3;obtain⟨rfl,rfl,rfl⟩:=trodAll_nil hA4;obtain rfl:args = #[v0,v1,v2,v3,v4]:=by cases args;simp_all
 obtain⟨rfl,rfl⟩:=trodVars_none hV;obtain⟨x0,rfl,rfl,rfl,b0⟩:=open_int underlying5 (lI 0 5 v0 rfl rfl) h0;obtain⟨a1,len1,cap1,rfl⟩:=okWide_slice underlying22<|lI 1 22 v1 rfl rfl;obtain⟨a2,len2,cap2,rfl⟩:=okWide_slice underlying22<|lI 2 22 v2 rfl rfl;obtain⟨BM,rfl,atc⟩:=okWide_struct underlying24<|lI 3 24 v3 rfl rfl;obtain⟨x4,rfl,rfl,rfl,b4⟩:=open_int underlying5 (lI 4 5 v4 rfl rfl) h4;have h1k:=h1;obtain⟨fuel1,QA⟩:=h1;have h2k:=h2;obtain⟨fuel2,QB⟩:=h2;have h3k:=h3;obtain⟨fuel3,hf3⟩:=h3;clear Fb;have Fv:∀ x ∈ p1,x.block<W.heap.size:=λx hx=>Lw.lt x<|by simp[hx]
 have yV:∀ x ∈ p2,x.block<W.heap.size:=λx hx=>Lw.lt x<|by simp[hx]
 have alm:∀ x ∈ p3,x.block<W.heap.size:=λx hx=>Lw.lt x<|by simp[hx]
 obtain⟨x1,w1,zX,g1,r1⟩:=aa9 QA Fv;obtain rfl:Value.slice a1 len1 cap1=w1:=by
  have:(Value.slice a1 len1 cap1).cells.toList=[Value.slice a1 len1 cap1]:=rfl;rw[this]at zX;simpa using zX
 obtain⟨x2,w2,qJ,g2,r2⟩:=aa9 QB yV;obtain rfl:Value.slice a2 len2 cap2=w2:=by
  have:(Value.slice a2 len2 cap2).cells.toList=[Value.slice a2 len2 cap2]:=rfl;rw[this]at qJ;simpa using qJ
 obtain⟨x3,g3⟩:=anW hf3;have lN:=(ams x0 x1 x2 x3 x4 (Tv b0)<|Tv b4).run W tR [.int .u8 x0,.slice a1 len1 cap1,.slice a2 len2 cap2,.agg BM,.int .u8 x4] (asa rfl hL) (λ_ h=>h.elim)<|.cons (.v _)<|.cons r1<|.cons r2<|.cons (apR (cs:=BM) g3)<|.cons (.v _)<|.nil _ _ _;refine lN.mono λr W' ⟨v,hr,hb,sN⟩=>?_
 obtain rfl:=jd.lh sN;subst hr;refine⟨_,rfl,_,_,_,[],[]++(p1++(p2++(p3++([])))),[],Lw,?_,?_,rfl,hb.frame _,λh=>by cases h⟩
 .exact trodAll_mk1<|shut_bool underlying4 _
 .exact ⟨[],_,Below.trod I2 aM (dK aM) h0 hb (λ_ h=>by cases h),⟨p1,_,Below.trod I2 aM (dK aM) h1k hb Fv,⟨p2,_,Below.trod I2 aM (dK aM) h2k hb yV,⟨p3,_,Below.trod I2 aM (dK aM) h3k hb alm,trodAll_mk1 (Below.trod I2 aM (dK aM) h4 hb λ_ h=>by cases h),rfl⟩,rfl⟩,rfl⟩,rfl⟩
def aon(os:Os):laidMet prog Rows.picardKnownRow.laid ((RB os Ee).forCall (λ_ _=>0) ⟨#[],Ee,[]⟩).memory:=
 laidMet_of_run' 8 aM aM 
def aop(os:Os){H:Type}(enc:TypeId×Value->H):∃ places,DataW.whole enc prog ((RB os Ee).forCall (λ_ _=>0) ⟨#[],Ee,[]⟩).memory Tryz.f3.params.toList Rows.picardKnownSpec.vars false Ee.toList 8=some ([.lit<|.int .u8 0,.nil,.nil,aja,.lit<|.int .u8 0],[],places):=
 ⟨[],aM⟩
set_option maxRecDepth 100000 in
def aom(os:Os)(started:os.Started)(H:Type)(enc:TypeId×Value->H)(F:Stop.Interp):
  ReturnsInHanded {} Tryz.checked os 3 .any ((OpenSpec.ofChange Rows.picardKnownSpec).preRow enc prog Tryz.f3 Rows.picardKnownRow.domain false Rows.picardKnownRow.laid) (((OpenSpec.ofChange Rows.picardKnownSpec).at F).post enc prog Tryz.f3 false true false false):=by
 obtain⟨places,hx⟩:=aop os enc;refine returnsInHanded_of_row (C:=Tryz.checked) (s:=OpenSpec.ofChange Rows.picardKnownSpec) own started aM func3
  (witness_row_at (enc:=enc) (C:=Tryz.checked) false (RB os Ee) Ee rfl aM aM aM 
   (OpenSpec.preRow_of_cond 8 hx aM (λk hk=>by cases hk) aM<|aon os)) ?_
 intro W base args ds gs before lI hW _ _ _ hL _ _;exact aok H enc W base args ds gs before lI hW hL
set_option maxHeartbeats 100000000 in
def aol:joinedFacts prog 3 Tryz.f3 (OpenSpec.ofChange Rows.picardKnownSpec).bare Rows.picardKnownRow=true:=by
 unfold joinedFacts;simp only[cr]
 and_intros<;>decide +kernel
def aoq:Rows.PicardKnownSaid:=
 OpenClaim.holds_of_cond 3 Tryz.f3 rfl rfl rfl rfl rfl rfl rfl ⟨rfl,rfl,rfl,rfl,rfl⟩ rfl rfl rfl rfl rfl aM func3 aol
  (dK aM) (by unfold Func.isWrapper;first|(rw[bA aT];kernel_rfl)|(rw[bw aT];exact⟨rfl,rfl⟩))
  (λos started H enc _ F=>by rw[OpenClaim.pre_eq_preRow];exact aom os started H enc F)
def aoo (f:FuncId) (fn:Func) (hf:Tryz.pinned.checked.prog.funcNamed "flowpipe/flowpipelaw28.PicardKnown" = some f) (hfn:Tryz.pinned.checked.prog.funcs[f]? = some fn):
 false=Tryz.pinned.checked.prog.looks []/\∀ (j:Nat) t,fn.params[j]? = some t->Tryz.pinned.checked.prog.wantsStandIn t=false:=by
 obtain rfl:f=3:=atN ((show prog.funcNamed "flowpipe/flowpipelaw28.PicardKnown" = some 3 by kernel_rfl).symm.trans hf) |>.symm
 obtain rfl:fn=Tryz.f3:=(atN<|func3.symm.trans hfn).symm;refine⟨aM,λj t ht=>?_⟩;rw[Tryz.params3]at ht;have:t=5\/t=22\/t=24:=by
  have:=eR ht;simp only[ig,dM,List.not_mem_nil,or_false]at this;rcases this with h|h|h|h|h<;>subst h<;>simp
 rcases this with rfl|rfl|rfl
 .exact (show prog.wantsStandIn 5=false by kernel_rfl)
 .exact (show prog.wantsStandIn 22=false by kernel_rfl)
 .exact (show prog.wantsStandIn 24=false by kernel_rfl)
theorem pknown_card:Rows.PicardKnownCardSaid:=
 Claim7.holds_tied_plain_at .later [] _ _ _ _ aoq (λ_ h=>by cases h) aM (λ_ h=>by cases h) picardKnown_row_tie rfl ⟨rfl,rfl⟩ aM rfl aoo (akp ajH rfl)
end Go.Proofs.YtbbefgegdllpmaaGreatDoor
