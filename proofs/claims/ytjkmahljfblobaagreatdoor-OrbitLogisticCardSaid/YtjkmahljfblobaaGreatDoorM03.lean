/- Lemmas that the last file uses. -/
import Derived.Test.YtjkmahljfblobaaGreatDoorM02
import Derived.Deep.Slices
import Derived.Carry
import Derived.Scope
set_option linter.unusedSimpArgs false
set_option linter.unusedVariables false
set_option linter.defProp false
set_option maxHeartbeats 4000000
open Go.Proofs.Tryz
namespace Go.Proofs.YtjkmahljfblobaaGreatDoor.Fp
def Qo(neg:Bool)(m:Nat)(e:Int)(more:Bool)(p:Nat)(up:Bool):
 jW neg m e more p up=jW false m e more p (up != neg) /\
 (jW false m e more p (up != neg)=0->neg=true->kB (kr false m e more p (up != neg))=kr neg m e more p up) /\
 ((jW false m e more p (up != neg)≠0\/neg=false)->kr false m e more p (up != neg)=kr neg m e more p up):=by
 have qm:(false != (up != neg))=(neg != up):=by cases up<;>cases neg<;>rfl
 have hE:jW neg m e more p up=jW false m e more p (up != neg):=by unfold jW;rw[qm]
 refine⟨hE,λh hn=>?_,λh=>?_⟩
 .have h':=DY.1 h;rw[qm]at h';have neg_canon:∀ q u,kB (canon false q u)=canon true q u:=by
   intro q u;unfold canon kB;by_cases hq:q=0
   .simp [hq]
   .rw [bh hq,bh hq];have:=FE hq;have h0:q/2^kj q≠0:= aA ;simp[h0]
  subst hn;unfold kr;rw[qm];by_cases ho:mg m e more p (true != up)=true
  .have hu:(true != up)=false:=by
    cases hq:(true != up)with
    |false=>rfl
    |true=>exact absurd ⟨ho,hq⟩ h'
   rw[bj ho,bj ho,hu];simp only[bV,bB];exact neg_canon _ _
  .rw [bh ho,bh ho];exact neg_canon _ _
 .rcases h with h|h
  .have h1:mg m e more p (neg != up)=true/\(neg != up)=true:=by
    by_cases q:mg m e more p (neg != up)=true/\(neg != up)=true
    .exact q
    .exact absurd (DY.2 (by rw[qm];exact q)) h
   unfold kr;rw[qm,bj h1.1,bj h1.2,bj h1.1,bj h1.2]
  .subst h;cases up<;>rfl
def jq(a b:Dy)(p:Nat):Int:=if a.iI-b.iI<=2 then min (min a.e (a.iI-p-8)) b.e else min a.e (a.iI-p-8)
def nI(a b:Dy)(p:Nat):Nat:=a.m*2^(a.e-jq a b p).toNat
def mJ(a b:Dy)(p:Nat):Nat:=mK b (jq a b p)+if(a.neg != b.neg&&nv b (jq a b p))=true then 1 else 0
def pI(a b:Dy)(p:Nat):Bool:=(a.neg != b.neg)&&decide (nI a b p<mJ a b p)
def lP(a b:Dy)(p:Nat):Nat:=if a.neg=b.neg then nI a b p+mJ a b p else if nI a b p<mJ a b p then mJ a b p-nI a b p else nI a b p-mJ a b p
def nc(a b:Dy)(p:Nat):Bool:=nv b (jq a b p) && !pI a b p
def Oi(a b:Dy)(p:Nat):jq a b p<=a.e/\jq a b p<=a.iI-p-8/\(jq a b p<=b.e\/3<=a.iI-b.iI):=by
 unfold jq;split<;>omega
def J6{a:Dy}(a0:a.m≠0):a.iI=iy a.m+a.e:=by unfold Dy.iI;rw[bh a0]
structure XH(a b:Dy)(p:Nat):Prop where
 lo:-17000<=jq a b p
 hi:jq a b p<=16384
 x:iy (nI a b p)<=4100
 x0:nI a b p≠0
 sh:(a.e-jq a b p).toNat<=60000
 sh2:(b.e-jq a b p).toNat<=60000
 sh3:(jq a b p-b.e).toNat<=60000
 y:iy (mK b (jq a b p))<=4100
 l:nv b (jq a b p)=true->p+8<=iy (nI a b p)/\iy (mK b (jq a b p))+3<=iy (nI a b p)
def J1{a b:Dy}{p:Nat}(ha:a.ic)(hb:b.ic)(a0:a.m≠0)(b0:b.m≠0)(ht:b.iI<=a.iI)(ie:p<=512):XH a b p:=by
 have ra:=ha.range.resolve_left a0;have rb:=hb.range.resolve_left b0;have ta:=J6 a0;have tb:=J6 b0;obtain⟨h1,h2,h3⟩:=Oi a b p;have hx:iy (nI a b p)=iy a.m+(a.e-jq a b p).toNat:=th a0 _;have Cw:jq a b p=a.e\/jq a b p=a.iI-p-8\/(a.iI-b.iI<=2/\jq a b p=b.e):=by unfold jq;split<;>omega
 have hy:iy (mK b (jq a b p))<=iy (nI a b p):=by
  unfold mK;split
  .rw [th b0];omega
  .have:iy (b.m/2^(jq a b p-b.e).toNat)<=iy b.m-(jq a b p-b.e).toNat:=by
    rw[mv,cF (bD aC),<-bA];exact mv.1 aA 
   omega
 have pa:=qf a0;have pb:=qf b0;refine⟨aA,aA,aA,?_,aA,aA,aA,aA,λhl=>?_⟩
 .intro h;unfold nI at h;exact(eo a0 (eO (bD aC))) h
 .obtain ⟨K,d,k1,k2,k3,k4,k5,k6,k7⟩:=Om (p:=p) a0 b0 h1 h2 h3;rcases k7 with rfl|⟨k7,k8⟩
  .rw [k6]at hl;simp[dO]at hl
  .rw [k5];exact⟨k7,k8⟩
def Ov{a b:Dy}{p:Nat}(ha:a.ic)(hb:b.ic)(a0:a.m≠0)(b0:b.m≠0)(ht:b.iI<=a.iI)(ie:p<=512):
 iy (mJ a b p)<=4101/\iy (lP a b p)<=4102/\(nc a b p=true->p<iy (lP a b p)):=by
 obtain⟨l1,l2,l3,l4,l5,l6,l7,l8,l9⟩:=J1 ha hb a0 b0 ht ie;have hy:mJ a b p<=mK b (jq a b p)+1:=by unfold mJ;split<;>omega
 obtain⟨K,hK⟩:∃ K:Nat,K=4100:=⟨_,rfl⟩
 have g1:4101=K+1:= aA ;have g2:4102=K+2:= aA ;rw[g1,g2];rw[<-hK]at l3 l8;have hy4:mK b (jq a b p)<2^K:=mv.1 l8;have hx4:nI a b p<2^K:=mv.1 l3;have e1:(2:Nat)^(K+1)=2*2^K:=by rw[bT];omega
 have e2:(2:Nat)^(K+2)=4*2^K:=by rw[bA];omega
 generalize (2:Nat)^K=Z at *
 refine⟨mv.2 aA,mv.2 ?_,λhl=>?_⟩
 .unfold lP;split
  .omega
  .split<;>omega
 .unfold nc at hl;simp only[bF,de]at hl;obtain⟨q1,q2⟩:=l9 hl.1;have hX:2^(iy (nI a b p)-1)<=nI a b p:=s9 l4;rw[Bp];have hY:mK b (jq a b p)<2^(iy (nI a b p)-3):=mv.1 aA;have e3:(2:Nat)^(iy (nI a b p)-1)=4*2^(iy (nI a b p)-3):=by
   rw[(aA:iy (nI a b p)-1=(iy (nI a b p)-3)+2),bA];omega
  have hp:(2:Nat)^p<=2^(iy (nI a b p)-3):=b9 aC aA;unfold lP;split
  .omega
  .rename_i hs;unfold pI at hl;rw[bh (by
    have:=hl.2;simp[hs]at this;omega)]
   omega
def WU{a b:Dy}{p:Nat}(ha:a.ic)(hb:b.ic)(a0:a.m≠0)(b0:b.m≠0)(up:Bool):
 (lP a b p=0/\nc a b p=false->iR a b=iL) /\
 (¬(lP a b p=0/\nc a b p=false)->kr (a.neg != pI a b p) (lP a b p) (jq a b p) (nc a b p) p up=jd (iR a b) p up/\jW (a.neg != pI a b p) (lP a b p) (jq a b p) (nc a b p) p up=jI (iR a b) p up):=by
 obtain⟨h1,h2,h3⟩:=Oi a b p;by_cases hs:a.neg=b.neg
 .have hn:(a.neg != b.neg)=false:=by rw[hs];simp
  have e1:pI a b p=false:=by unfold pI;rw[hn];rfl
  have e2:nc a b p=nv b (jq a b p):=by unfold nc;rw[e1];simp
  have e3:lP a b p=a.m*2^(a.e-jq a b p).toNat+mK b (jq a b p):=by unfold lP;rw[bj hs];unfold nI mJ;rw[hn];simp
  have hx:lP a b p≠0:=by
   rw[e3];have:=eo a0 (eO (bD (n:=(a.e-jq a b p).toNat) (show 0<2 by decide)));omega
  refine⟨λh=>absurd h.1 hx,λ_=>?_⟩;rw[e1,e2,e3];have:=ahR ha.canon hb.canon a0 b0 h1 h2 h3 hs up;cases hA:a.neg<;>rw[hA]at this<;>exact this
 .have hn:(a.neg != b.neg)=true:=by simpa using hs
  have eY:mJ a b p=mK b (jq a b p)+if nv b (jq a b p)=true then 1 else 0:=by unfold mJ;rw[hn];simp
  obtain⟨r1,r2⟩:=ahQ (p:=p) ha.canon hb.canon a0 b0 h1 h2 h3 hs up;rw[<-eY]at r1 r2;change nI a b p<mJ a b p->_ at r1;change mJ a b p<=nI a b p->_ at r2;by_cases hc:nI a b p<mJ a b p
  .have e1:pI a b p=true:=by unfold pI;rw[hn,bn hc];rfl
   have e2:nc a b p=false:=by unfold nc;rw[e1];simp
   have e3:lP a b p=mJ a b p-nI a b p:=by unfold lP;rw[bh hs,bj hc]
   rw[e1,e2,e3];refine⟨λh=> aA,λ_=>?_⟩;have:=r1 hc;cases hA:a.neg<;>rw[hA]at this<;>exact this
  .have e1:pI a b p=false:=by unfold pI;rw[hn,bp hc];rfl
   have e2:nc a b p=nv b (jq a b p):=by unfold nc;rw[e1];simp
   have e3:lP a b p=nI a b p-mJ a b p:=by unfold lP;rw[bh hs,bh hc]
   rw[e1,e2,e3];obtain⟨q1,q2⟩:=r2 aA;refine⟨q1,λh=>?_⟩;have:=q2 h;cases hA:a.neg<;>rw[hA]at this<;>exact this
end Go.Proofs.YtjkmahljfblobaaGreatDoor.Fp
namespace Go.Proofs.YtjkmahljfblobaaGreatDoor
open Go.RowKit Fp
def YJ(a b:Nat):iy (a*b)<=iy a+iy b:=by
 rw[mv,bA];exact Nat.mul_lt_mul'' (uK a) (uK b)
def Zi(d:Dy)(A:Option Addr)(c:Nat)(w:World)(hs:Sl w A c (ia d.m))(hl:(ia d.m).length<=100000000)(ml:-10000000<=d.e)(lH:d.e<=10000000):
 Calls prog 184 #[DV d A c] w (yc w (nf d) (qg d)):=by
 by_cases hd:oC d
 .rw [DS hd,GK hd];exact P1 d A c w hs hl ml lH hd
 .rw [KS hd,P3 hd];exact Zj d A c w hs hl ml lH hd
def yi(s:Bool)(m:Nat)(e:Int){n:Nat}(hm:(ia m).length<=n):(ia (canon s m e).m).length<=n/\e<=max (canon s m e).e e/\((canon s m e).e<=max 0 (e+32*n))/\min 0 e<=(canon s m e).e:=by
 unfold canon;by_cases h0:m=0
 .rw [bj h0];simp only[oD];exact⟨cg _,aA,aA,aA⟩
 .rw [bh h0];have h1:kj m<32*n:=by
   have h1:=Jn h0;have h2:=IW hm;rw[s6]at h2;exact(akx (aC:1<2)).1 (du h1 h2)
  exact⟨bK (Na (dA _ _)) hm,aA,by simp only;omega,by simp only;omega⟩
def PT(s:Bool)(m:Nat)(e:Int)(A:Option Addr)(c:Nat)(w:World)(hs:Sl w A c (ia m))(hl:(ia m).length<=256)(ml:-1000000<=e)(lH:e<=1000000)(tn:Tb w):
 Calls prog 123 #[.bool s,.slice A (ia m).length c,.int .i64 e] w (yb w (canon s m e)):=by
 have:=G2 s A c (ia m) e w hs aA (by have:=pJ (ia m);unfold mo at this;omega) ml lH tn;rw[lW]at this;exact this
def Vo{m:Nat}(h:m=0):(((ia m).length:Int)==0)=true:=by rw[h,oD];rfl
def agX{m:Nat}(h:m≠0):(((ia m).length:Int)==0)=false:=by
 refine aX ?_;have:ia m≠[]:=λe=>h (IG.1 e)
 have:=fC.2 this;omega
def ajS(a b:Dy)(A B:Option Addr)(c d:Nat)(w:World)(_hs:Sl w A c (ia a.m))(hr:Sl w B d (ia b.m))(tn:Tb w)(hb:b.ic)(h0:a.m=0):
 Calls prog 239 #[DV a A c,DV b B d] w (yc w (nf (iR a b)) (qg (iR a b))):=by
 have CC:iR a b=b:=by unfold iR;rw[bj h0]
 rw[CC,DS hb.range,GK hb.range];have hl:=hb.len;obtain⟨ml,lH⟩:=hb.exp;have HC:=akH (λw (h:Sl w B d (ia b.m)) (ht:Tb w)=>PT b.neg b.m b.e B d w h hl aA aA ht);rw[hb.canon.AB]at HC;have n0:=Vo h0;clear CC h0;have hE:=((iT.alloc w (.cells #[.bool b.neg,.slice B ((ia b.m).length) d,.int .i64 b.e] 37)).trans (iT.alloc (w.alloc (.cells #[.bool b.neg,.slice B ((ia b.m).length) d,.int .i64 b.e] 37)) (.cells #[.bool b.neg,.slice B ((ia b.m).length) d,.int .i64 b.e] 37))).trans (iT.alloc ((w.alloc (.cells #[.bool b.neg,.slice B ((ia b.m).length) d,.int .i64 b.e] 37)).alloc (.cells #[.bool b.neg,.slice B ((ia b.m).length) d,.int .i64 b.e] 37)) (.cells #[.bool false,.slice none 0 0,.int .i64 0] 37));have b1:=((jF.xL (W:=w) (g:=w.heap.size) aF b.neg B ((ia b.m).length) d b.e).alloc (.cells #[.bool b.neg,.slice B ((ia b.m).length) d,.int .i64 b.e] 37)).alloc (.cells #[.bool false,.slice none 0 0,.int .i64 0] 37);have b2:=(jF.xL (W:=(w.alloc (.cells #[.bool b.neg,.slice B ((ia b.m).length) d,.int .i64 b.e] 37))) (g:=w.heap.size+1) aF b.neg B ((ia b.m).length) d b.e).alloc (.cells #[.bool false,.slice none 0 0,.int .i64 0] 37);have b3:=jF.xL (W:=((w.alloc (.cells #[.bool b.neg,.slice B ((ia b.m).length) d,.int .i64 b.e] 37)).alloc (.cells #[.bool b.neg,.slice B ((ia b.m).length) d,.int .i64 b.e] 37))) (g:=w.heap.size+2) aF false none 0 0 0;replace hr:=hr.below hE;replace tn:=tn.below hE;go_enter func239,ntmps239;go_wp2_with fail
 (with_reducible refine(HC.out _ hr tn).mono ?_)
 rintro r w1 ⟨A_h4,c_h4,rfl,h4,hb⟩;replace hE:=hE.trans hb;replace hr:=hr.below hb;replace tn:=tn.below hb;replace b1:=b1.ext hb;replace b2:=b2.ext hb;replace b3:=b3.ext hb;clear hb;have aka:=b3.c0;have yb30:=b3.fr 0;have akb:=b3.c1;have yb31:=b3.fr 1;have akc:=b3.c2;have yb32:=b3.fr 2;go_wp2;exact Ce (d:=b) rfl rfl rfl rfl (b3.set _ _ _ _ _) rfl (b3.uY h4 _ _ _ _ _) (jF.tS hE aA _ _ _ _ _)
def aaB(a:Dy)(A:Option Addr)(c:Nat)(w:World)(h:Sl w A c (ia a.m))(ha:a.ic):
 Calls prog 176 #[DV a A c] w λe w'=>e = .returned (.int .i64 a.iI)/\iT w w':=by
 have:=Le a.neg A c (ia a.m) a.e w h ha.wk;rw[lW]at this;exact this
set_option maxRecDepth 100000 in
set_option maxHeartbeats 8000000 in
def aaz(a : Dy)(A : Option Addr)(c : Nat)(w : World)(hs : Sl w A c (ia a.m))(ha : a.ic):
    Calls prog 124 #[DV a A c] w (yb w (kB a)) := by
  have HV := akH (λw (h : Sl w A c (ia a.m)) => QW a A c w h ha);have hl := ha.len;by_cases h0 : a.m=0
  . have hz : Hid (kB a=iL) := by
      show kB a=iL;obtain⟨s,m,e⟩ := a;rcases ha.canon with⟨h1,h2,h3⟩|h1
      . simp only at h1 h2 h3;subst h1 h2 h3;rfl
      . simp only at h0 h1;omega
    have n0 := Vo h0;clear h0;have hE := (iT.alloc w (.cells #[.bool a.neg,.slice A ((ia a.m).length) c,.int .i64 a.e] 37)).trans (iT.alloc (w.alloc (.cells #[.bool a.neg,.slice A ((ia a.m).length) c,.int .i64 a.e] 37)) (.cells #[.bool false,.slice none 0 0,.int .i64 0] 37));have b1 := (jF.xL (W := w) (g := w.heap.size) aF a.neg A ((ia a.m).length) c a.e).alloc (.cells #[.bool false,.slice none 0 0,.int .i64 0] 37);have b2 := jF.xL (W := (w.alloc (.cells #[.bool a.neg,.slice A ((ia a.m).length) c,.int .i64 a.e] 37))) (g := w.heap.size+1) aF false none 0 0 0;replace hs := hs.below hE;go_enter func124,ntmps124;go_wp2_with fail
    (with_reducible refine(HV.out _ hs).mono ?_)
    rintro r w1 ⟨rfl,hb⟩;replace hE := hE.trans hb;replace hs := hs.below hb;replace b1 := b1.ext hb;replace b2 := b2.ext hb;clear hb;have Kj := b1.c0;have Kk := b1.c1;have Kl := b1.c2;have aj7 := b2.c0;have yb20 := b2.fr 0;have aj8 := b2.c1;have yb21 := b2.fr 1;have aj9 := b2.c2;have yb22 := b2.fr 2;go_wp2;rw[hz.out];exact yl (d := iL) rfl rfl rfl (b2.set _ _ _ _ _) (by rw[show iL.m=0 from rfl,oD];rfl) (by rw[show iL.m=0 from rfl,oD];exact Sl.nil _) (jF.tS hE aA _ _ _ _ _)
  . have n0 := agX h0
    have HN := akH (show kB a=⟨!a.neg,a.m,a.e⟩by unfold kB;simp[h0]);have HC := akH (λw (h : Sl w A c (ia a.m)) => KU A c (ia a.m) w h aA);clear h0;have hE := (iT.alloc w (.cells #[.bool a.neg,.slice A ((ia a.m).length) c,.int .i64 a.e] 37)).trans (iT.alloc (w.alloc (.cells #[.bool a.neg,.slice A ((ia a.m).length) c,.int .i64 a.e] 37)) (.cells #[.bool false,.slice none 0 0,.int .i64 0] 37));have b1 := (jF.xL (W := w) (g := w.heap.size) aF a.neg A ((ia a.m).length) c a.e).alloc (.cells #[.bool false,.slice none 0 0,.int .i64 0] 37);have b2 := jF.xL (W := (w.alloc (.cells #[.bool a.neg,.slice A ((ia a.m).length) c,.int .i64 a.e] 37))) (g := w.heap.size+1) aF false none 0 0 0;replace hs := hs.below hE;go_enter func124,ntmps124;go_wp2_with fail
    (with_reducible refine(HV.out _ hs).mono ?_)
    rintro r w1 ⟨rfl,hb⟩;replace hE := hE.trans hb;replace hs := hs.below hb;replace b1 := b1.ext hb;replace b2 := b2.ext hb;clear hb;have Kj := b1.c0;have Kk := b1.c1;have Kl := b1.c2;clear Kj Kk Kl;have Kj := b1.c0;have Kk := b1.c1;have Kl := b1.c2;go_wp2_with fail;clear Kj Kk Kl;replace hs := hs.drew;replace b1 := b1.drew;replace b2 := b2.drew;replace hE := hE.trans (iT.drew _);go_region_held3 (λw' => w'.cell? ⟨w.heap.size,0,none⟩=some (.bool a.neg)/\w'.cell? ⟨w.heap.size,1,none⟩=some (.slice A ((ia a.m).length) c)/\w'.cell? ⟨w.heap.size,2,none⟩=some (.int .i64 a.e))
      (first|with_reducible exact⟨(b1).c0,(b1).c1,(b1).c2⟩|with_reducible exact⟨(b1.ext lG).c0,(b1.ext lG).c1,(b1.ext lG).c2⟩|with_reducible exact⟨((b1.ext lG).Lv (g' := w.heap.size+1) aA _ _ _).c0,((b1.ext lG).Lv (g' := w.heap.size+1) aA _ _ _).c1,((b1.ext lG).Lv (g' := w.heap.size+1) aA _ _ _).c2⟩)
      (first
        | (go_at_call 204
           (with_reducible refine(HC.out _ hs).mono ?_)
           rintro r wx0 ⟨A_h4,c_h4,rfl,h4,lG⟩;have bz := b2.ext lG;have z0 := bz.c0;have z1 := bz.c1;have z2 := bz.c2;have y0 := bz.fr 0;have y1 := bz.fr 1;have y2 := bz.fr 2))
    replace hE := hE.trans lG;replace hs := hs.below lG;replace b1 := b1.ext lG;replace b2 := b2.ext lG;go_wp2;rw[HN.out];exact yl (d := ⟨!a.neg,a.m,a.e⟩) rfl rfl rfl (bz.set _ _ _ _ _) rfl (bz.uY h4 _ _ _ _ _) (jF.tS hE aA _ _ _ _ _)
open Pu
section
variable {f:FuncId} {L M:List Nat} {jk:E}
def FL(hk:iM L)(hc:∀ (vs:Array Value) (w:World),(callFunc f vs).run prog w = .ok (.enter f vs) w)
 {R:Option Addr->Nat->World->Ending->World->Prop} (H:∀ A c w,Sl w A c L->Tb w->Calls prog f #[.slice A L.length c] w (R A c w))
 (hR:∀ (A:Option Addr) (c:Nat) (B:Nat->Prop) w e w',Sl w A c L->(∀ b,B b->b<w.heap.size/\nC w b)->R A c w e w'->∃ v,e = .returned v/\Below w.heap.size w w'/\iC B (λ_=>True) w' jk v):gW f [iz L] jk:=by
 refine⟨hc,λw B vs hK hB hr=>?_⟩;obtain⟨v1,vs,rfl,h1,hr⟩:=hr.mW;obtain rfl:=hr.qY;obtain⟨A,c,rfl,s1⟩:=zh hk h1;exact(H A c w s1 hK).mono λe w' h=>hR A c B w e w' s1 hB h
def VO(hk:iM L){n:Int}(hc:∀ (vs:Array Value) (w:World),(callFunc f vs).run prog w = .ok (.enter f vs) w)
 {R:Option Addr->Nat->World->Ending->World->Prop} (H:∀ A c w,Sl w A c L->Tb w->Calls prog f #[.slice A L.length c,.int .i64 n] w (R A c w))
 (hR:∀ (A:Option Addr) (c:Nat) (B:Nat->Prop) w e w',Sl w A c L->(∀ b,B b->b<w.heap.size/\nC w b)->R A c w e w'->∃ v,e = .returned v/\Below w.heap.size w w'/\iC B (λ_=>True) w' jk v):gW f [iz L,iP n] jk:=by
 refine⟨hc,λw B vs hK hB hr=>?_⟩;obtain⟨v1,vs,rfl,h1,hr⟩:=hr.mW;obtain⟨v2,vs,rfl,h2,hr⟩:=hr.mW;obtain rfl:=hr.qY;obtain rfl:=iC.kD h2;obtain⟨A,c,rfl,s1⟩:=zh hk h1;exact(H A c w s1 hK).mono λe w' h=>hR A c B w e w' s1 hB h
def Jm(hk:iM L)(hm:iM M)(hc:∀ (vs:Array Value) (w:World),(callFunc f vs).run prog w = .ok (.enter f vs) w)
 {R:World->Ending->World->Prop} (H:∀ A c B d w,Sl w A c L->Sl w B d M->Tb w->Calls prog f #[.slice A L.length c,.slice B M.length d] w (R w))
 (hR:∀ (B:Nat->Prop) w e w',(∀ b,B b->b<w.heap.size/\nC w b)->R w e w'->∃ v,e = .returned v/\Below w.heap.size w w'/\iC B (λ_=>True) w' jk v):gW f [iz L,iz M] jk:=by
 refine⟨hc,λw B vs hK hB hr=>?_⟩;obtain⟨v1,vs,rfl,h1,hr⟩:=hr.mW;obtain⟨v2,vs,rfl,h2,hr⟩:=hr.mW;obtain rfl:=hr.qY;obtain⟨A,c,rfl,s1⟩:=zh hk h1;obtain⟨A',d,rfl,s2⟩:=zh hm h2;exact(H A c A' d w s1 s2 hK).mono λe w' h=>hR B w e w' hB h
end
def FZ{L:List Nat}{n:Int}(B:Nat->Prop)(w:World)(e:Ending)(w':World)(hB:∀ b,B b->b<w.heap.size/\nC w b)(h:B4 w L n e w'):∃ v,e = .returned v/\Below w.heap.size w w'/\iC B (λ_=>True) w' (.ik [iz L,iP n]) v:=
 let⟨_,_,h1,h2,h3⟩:=h
 ⟨_,h1,h3,jZ.ik (.cons (BU hB h3 h2) (.cons (.v _) (.nil _ _ _)))⟩
def rl{L:List Nat}(B:Nat->Prop)(w:World)(e:Ending)(w':World)(hB:∀ b,B b->b<w.heap.size/\nC w b)(h:xd w L e w'):∃ v,e = .returned v/\Below w.heap.size w w'/\iC B (λ_=>True) w' (iz L) v:=
 let⟨_,_,h1,h2,h3⟩:=h
 ⟨_,h1,h3,BU hB h3 h2⟩
def yY(L:List Nat)(hk:iM L):gW 235 [iz L] (iz (iH L)):=
 FL hk call235 (λA c w h _=>uQ A c L w h) λA c B w e w' h hB ⟨h1,h2⟩=>by subst h2;exact⟨_,h1,Below.refl _ _,BU hB (Below.refl _ _) h.tV⟩
def afR(L:List Nat)(hk:iM L)(hl:(iH L).length<=256):gW 233 [iz L] (.ik [iz (iH L),iP 0]):=
 FL hk call233 (λA c w h _=>Fu A c L w h hl) λA c B w e w' h hB r=>FZ B w e w' hB r
def afM(L:List Nat)(hk:iM L)(hl:L.length<=100000):gW 237 [iz L] (iP (iy (val L))):=
 FL hk call237 (λA c w h _=>Va A c L w h aA) λA c B w e w' h hB ⟨h1,h2⟩=>by subst h2;exact⟨_,h1,Below.refl _ _,.v _⟩
def Nw(L M:List Nat)(hk:iM L)(hm:iM M)(hl:L.length<=100000)(mF:M.length<=100000):gW 180 [iz L,iz M] (iP (mC (val L) (val M))):=
 Jm hk hm call180 (λA c B d w h k _=>I7 A B c d L M w h k aA aA) rv
def Ve(m n:Nat)(hl:(ia m).length<=256)(hn:n<=65536)(hf:(ia (m*2^n)).length<=256):gW 179 [iz (ia m),iP (n:Int)] (.ik [iz (ia (m*2^n)),iP 0]):=
 VO (o9 m) call179 (λA c w h _=>Vd A c (ia m) n w h hl hn (by rw[lW];exact hf)) λA c B w e w' h hB r=>by rw[lW]at r;exact FZ B w e w' hB r
def Vg(m n:Nat)(hl:(ia m).length<=256)(hn:n<=65536):gW 202 [iz (ia m),iP (n:Int)] (.ik [iz (ia (m/2^n)),iP 0]):=
 VO (o9 m) call202 (λA c w h _=>Vf A c (ia m) n w h hl hn) λA c B w e w' h hB r=>by rw[lW]at r;exact FZ B w e w' hB r
def I5(m n:Nat)(h1:(ia m).length<=256)(h2:(ia n).length<=256)(hf:(ia (m+n)).length<=256):gW 285 [iz (ia m),iz (ia n)] (.ik [iz (ia (m+n)),iP 0]):=by
 refine Jm (o9 m) (o9 n) call285 (λA c B d w h k _=>afL A B c d (ia m) (ia n) w h k h1 h2 (by rw[lW,lW];exact hf)) ?_;rw[lW,lW];exact FZ
def Fw(m n:Nat)(h1:(ia m).length<=256)(h2:(ia n).length<=256)(hf:n<=m):gW 286 [iz (ia m),iz (ia n)] (.ik [iz (ia (m-n)),iP 0]):=by
 refine Jm (o9 m) (o9 n) call286 (λA c B d w h k _=>af0 A B c d (ia m) (ia n) w h k h1 h2 (by rw[lW,lW];exact hf)) ?_;rw[lW,lW];exact FZ
def vJ(m:Nat)(hl:(ia m).length<=100000):gW 237 [iz (ia m)] (iP (iy m)):=by
 have:=afM (ia m) (o9 m) hl;rwa[lW]at this
def I6(m n:Nat)(hl:(ia m).length<=100000)(mF:(ia n).length<=100000):gW 180 [iz (ia m),iz (ia n)] (iP (mC m n)):=by
 have:=Nw (ia m) (ia n) (o9 m) (o9 n) hl mF;rwa[lW,lW]at this
def xp(a:Dy)(ha:a.ic):gW 124 [ib a] (ib (kB a)):=C5 call124 (λA c w h _=>aaz a A c w h ha) rd
def sJ(a:Dy)(ha:a.ic):gW 176 [ib a] (iP a.iI):=C5 call176 (λA c w h _=>aaB a A c w h ha) rv
def D1(s:Bool)(m:Nat)(e:Int)(hl:(ia m).length<=256)(ml:-32768<=e)(lH:e<=32768)(hd:oC (canon s m e)):gW 338 [bP s,iz (ia m),iP e] (.ik [ib (canon s m e),iP 0]):=by
 refine⟨call338,λw B vs hK hB hr=>?_⟩;obtain⟨v1,vs,rfl,h1,hr⟩:=hr.mW;obtain⟨v2,vs,rfl,h2,hr⟩:=hr.mW;obtain⟨v3,vs,rfl,h3,hr⟩:=hr.mW;obtain rfl:=hr.qY;obtain rfl:=iC.kD h1;obtain rfl:=iC.kD h3;obtain⟨A,c,rfl,s1⟩:=zh (o9 m) h2;have:=afk s A c (ia m) e w s1 hl ml lH hK (by rw[lW];exact hd);rw[lW]at this;exact this.mono λe w' h=>Ob B w e w' hB h
def Jg:E.le (.sl false 1 1 λi j=>[E.v (.int .u32 1)].getD (i*1+j) (.v (.bool false))) (iz (ia 1)):=by
 have e1:ia 1=[1]:=by rw[CR aC,show 1/4294967296=0 by decide,oD]
 rw[e1];refine .sl λi j hi hj=>?_
 obtain rfl:i=0:= aA ;obtain rfl:j=0:= aA ;exact⟨.refl _,rfl⟩
def jt(d:Dy):List E:=[bP d.neg,iz (ia d.m),iP d.e]
def kC(l:List Dy):E:=.sl true l.length 3 λi j=>(jt (l.getD i iL)).getD j .any
def Cf(a:Dy):E.le (.sl true 1 3 λi j=>[bP a.neg,iz (ia a.m),iP a.e].getD (i*3+j) (.v (.bool false))) (kC [a]):=.sl λi j hi hj=>by
 obtain rfl:i=0:= aA ;rcases j with _|_|_|j
 .exact ⟨.refl _,rfl⟩
 .exact ⟨.refl _,rfl⟩
 .exact ⟨.refl _,rfl⟩
 .omega
def wm(a b:Dy):E.le (.sl true 2 3 λi j=>[bP a.neg,iz (ia a.m),iP a.e,bP b.neg,iz (ia b.m),iP b.e].getD (i*3+j) (.v (.bool false))) (kC [a,b]):=.sl λi j hi hj=>by
 obtain rfl|rfl:i=0\/i=1:= aA 
 all_goals
  rcases j with _|_|_|j
  .exact ⟨.refl _,rfl⟩
  .exact ⟨.refl _,rfl⟩
  .exact ⟨.refl _,rfl⟩
  .omega
def oF{n:Nat}(h:n≠0):((n:Int)==0)=false:= aL 
def r9{n:Nat}(h:n=0):((n:Int)==0)=true:=by subst h;rfl
def afW{n:Nat}(h:n=0):((n:Int) != 0)=false:=by subst h;rfl
def afX{n:Nat}(h:n≠0):((n:Int) != 0)=true:= aL 
def uI{m:Nat}:(ia m).length=0↔m=0:=by rw[gq,IG]
def pQ{m:Nat}(h:m≠0):(ia m).length≠0:=λq=>h (uI.1 q)
def Fp.Dy.ic.ia{d:Dy}(h:d.ic):(ia d.m).length<=256:=by have:=h.len;omega
end Go.Proofs.YtjkmahljfblobaaGreatDoor
namespace Go.Proofs.YtjkmahljfblobaaGreatDoor.Fp
structure Iv where
 lo:Dy
 hi:Dy
 all:Bool
def gZ:Iv:=⟨iL,iL,true⟩
def Iv.ic(x:Iv):Prop:=(x.all=true/\x.lo=iL/\x.hi=iL)\/(x.all=false/\x.lo.ic/\x.hi.ic/\ke x.lo x.hi<=0)
def lX:gZ.ic:=.inl ⟨rfl,rfl,rfl⟩
def pF(lo:Dy)(e:Int)(hi:Dy)(f:Int):Iv:=if e≠0\/f≠0 then gZ else⟨lo,hi,false⟩
def BD(a b:Dy):Dy:=canon (a.neg != b.neg) (a.m*b.m) (a.e+b.e)
def rp(x:Iv):Iv:=if x.all then gZ else⟨kB x.hi,kB x.lo,false⟩
def kU(x y:Iv)(p:Nat):Iv:=
 if x.all||y.all then gZ else pF (jd (iR x.lo y.lo) p false) (jI (iR x.lo y.lo) p false) (jd (iR x.hi y.hi) p true) (jI (iR x.hi y.hi) p true)
def ky(x y:Iv)(p:Nat):Iv:=kU x (rp y) p
def Zk{x y:Int}:xl x y<=0↔x<=y:=by
 unfold xl;split
 .constructor<;>intro<;>omega
 .split<;>constructor<;>intro<;>omega
def sw{a b:Dy}{k:Int}(ha:qe a k)(hb:qe b k):ke a b<=0↔a.num k<=b.num k:=by rw[DT ha hb,Zk]
def le_trans{a b c:Dy}(h1:ke a b<=0)(h2:ke b c<=0):ke a c<=0:=by
 obtain⟨k,ka,kb,kc⟩:∃ k:Int,k<=a.e/\k<=b.e/\k<=c.e:=⟨min a.e (min b.e c.e),aA,aA,aA⟩
 rw[sw (.inr ka) (.inr kb)]at h1;rw[sw (.inr kb) (.inr kc)]at h2;rw[sw (.inr ka) (.inr kc)];omega
def zZ(a:Dy):ke a a<=0:=by rw[sw (k:=a.e) (.inr (cB _)) (.inr (cB _))];exact cB _
def aeq(a b:Dy):ke a b<=0\/ke b a<=0:=by
 obtain⟨k,ka,kb⟩:∃ k:Int,k<=a.e/\k<=b.e:=⟨min a.e b.e,aA,aA⟩
 rw[sw (.inr ka) (.inr kb),sw (.inr kb) (.inr ka)];omega
def af8{a b:Dy}(h:ke a b<=0):ke (kB b) (kB a)<=0:=by
 obtain⟨k,ka,kb⟩:∃ k:Int,k<=a.e/\k<=b.e:=⟨min a.e b.e,aA,aA⟩
 rw[sw (.inr ka) (.inr kb)]at h;rw[sw (k:=k) (Ky (.inr kb)) (Ky (.inr ka)),NI,NI];omega
def aiU{a b c d:Dy}(h1:ke a b<=0)(h2:ke c d<=0):ke (iR a c) (iR b d)<=0:=by
 obtain⟨k,ka,kb,kc,kd⟩:∃ k:Int,k<=a.e/\k<=b.e/\k<=c.e/\k<=d.e:=⟨min (min a.e b.e) (min c.e d.e),aA,aA,aA,aA⟩
 rw[sw (.inr ka) (.inr kb)]at h1;rw[sw (.inr kc) (.inr kd)]at h2;rw[sw (k:=k) (Gq (.inr ka) (.inr kc)) (Gq (.inr kb) (.inr kd)),J0 (.inr ka) (.inr kc),J0 (.inr kb) (.inr kd)];omega
def GV(m:Nat)(e:Int)(p:Nat):
 lj m e false p false*2^jJ m e p<=m/\m<=lj m e false p true*2^jJ m e p:=by
 have h:=cQ m (2^jJ m e p);have hr:=bI m (bD (n:=jJ m e p) (aC:0<2));unfold lj;simp only[bV,false_and,bB,bW,false_or,eR];rw[bM];generalize m/2^jJ m e p=q at *
 generalize 2^jJ m e p=P at *
 refine⟨aA,?_⟩;rw[bS,bM q];split
 .omega
 .omega
def KO{s:Bool}{m n:Nat}{e f K:Int}(h1:K<=e)(h2:K<=f)(h:m*2^(e-K).toNat<=n*2^(f-K).toNat):
 (s=false->ke (canon s m e) (canon s n f)<=0)/\(s=true->ke (canon s n f) (canon s m e)<=0):=by
 constructor
 .rintro rfl;rw[sw (zo h1) (zo h2),Vy h1,Vy h2]
  exact_mod_cast h
 .rintro rfl;rw[sw (zo h2) (zo h1),Bw h1,Bw h2];simp only[bC];omega
def Qn(neg:Bool)(m:Nat)(e:Int)(p:Nat)(up:Bool)(he:jW neg m e false p up=0)(_hp:1<=p):
 (up=true->ke (canon neg m e) (kr neg m e false p up)<=0)/\(up=false->ke (kr neg m e false p up) (canon neg m e)<=0):=by
 rw[DY]at he;obtain⟨c1,c2⟩:=GV m e p;have e1:(e-e).toNat=0:= aA ;have e2:(e+(jJ m e p:Int)-e).toNat=jJ m e p:= aA ;have hk:e<=e+(jJ m e p:Int):= aA ;have A:=λs:Bool=>KO (s:=s) (m:=lj m e false p false) (n:=m) (e:=e+jJ m e p) (f:=e) (K:=e) hk (cB _) (by rw[e1,e2];simpa using c1)
 have B:=λs:Bool=>KO (s:=s) (m:=m) (n:=lj m e false p true) (e:=e) (f:=e+jJ m e p) (K:=e) (cB _) hk (by rw[e1,e2];simpa using c2)
 unfold kr;by_cases ho:mg m e false p (neg != up)=true
 .have hn:¬(neg != up)=true:=λh=>he ⟨ho,h⟩
  rw[bj ho,bh hn];have SG:neg=up:=by cases neg<;>cases up<;>simp at hn ⊢
  have lI:(neg != up)=false:=by rw[SG];simp
  rw[lI]at ho;unfold mg at ho;simp only[bF,di]at ho;obtain⟨o1,o2⟩:=ho;have hq:=s9 o1;have Hv:=qf o1;obtain⟨K,k1,k2⟩:∃ K:Int,K<=e/\K<=16384-p:=⟨min e (16384-p),aA,aA⟩
  have C:(2^p-1)*2^((16384:Int)-p-K).toNat<=m*2^(e-K).toNat:=by
   have h1:2^(iy (lj m e false p false)-1)*2^jJ m e p<=m:=bK (bN _ hq) c1;have h2:=bN (2^(e-K).toNat) h1;rw[<-bA,<-bA]at h2;refine bK (bN _ (eA _ _)) (bK ?_ h2);rw[<-bA];exact b9 aC aA 
  have D:=KO (s:=neg) k2 k1 C;subst SG;cases neg
  .exact ⟨λh=>absurd h aC,λ_=>D.1 rfl⟩
  .exact ⟨λ_=>D.2 rfl,λh=>absurd h aC⟩
 .rw [bh ho];cases neg<;>cases up
  .exact ⟨λh=>absurd h aC,λ_=>(A false).1 rfl⟩
  .exact ⟨λ_=>(B false).1 rfl,λh=>absurd h aC⟩
  .exact ⟨λh=>absurd h aC,λ_=>(B true).2 rfl⟩
  .exact ⟨λ_=>(A true).2 rfl,λh=>absurd h aC⟩
def Wk{d:Dy}(hd:d.nL)(p:Nat)(hp:1<=p):
 (jI d p true=0->ke d (jd d p true)<=0)/\(jI d p false=0->ke (jd d p false) d<=0):=by
 have h:=hd.AB;constructor
 .intro he;have:=(Qn d.neg d.m d.e p true he hp).1 rfl;rwa[h]at this
 .intro he;have:=(Qn d.neg d.m d.e p false he hp).2 rfl;rwa[h]at this
def pT{x y:Iv}(hx:x.ic)(hy:y.ic){p:Nat}(hp:1<=p)(ie:p<=4096):(kU x y p).ic:=by
 unfold kU;rcases hx with⟨h,_⟩|⟨h1,h2,h3,h4⟩
 .rw [h];exact lX
 .rcases hy with⟨h,_⟩|⟨k1,k2,k3,k4⟩
  .rw [h,h1];exact lX
  .rw [h1,k1];simp only[Bool.or_self,bV,bB];unfold pF;by_cases he:jI (iR x.lo y.lo) p false≠0\/jI (iR x.hi y.hi) p true≠0
   .rw [bj he];exact lX
   .rw [bh he];have e1:jI (iR x.lo y.lo) p false=0:= aA ;have e2:jI (iR x.hi y.hi) p true=0:= aA ;refine .inr ⟨rfl,tl _ _ _ _ _ _ hp ie,tl _ _ _ _ _ _ hp ie,?_⟩;exact le_trans ((Wk (AD h2.canon k2.canon) p hp).2 e1) (le_trans (aiU h4 k4) ((Wk (AD h3.canon k3.canon) p hp).1 e2))
def qX{x:Iv}(hx:x.ic):(rp x).ic:=by
 unfold rp;rcases hx with⟨h,_⟩|⟨h1,h2,h3,h4⟩
 .rw [bj h];exact lX
 .rw [h1];exact .inr ⟨rfl,xK h3,xK h2,af8 h4⟩
def jy(a b:Dy):Dy:=if ke b a<0 then b else a
def jv(a b:Dy):Dy:=if 0<ke b a then b else a
def Fl(a b:Dy):ke (jy a b) a<=0:=by
 unfold jy;split
 .omega
 .exact zZ a
def afA(a b:Dy):ke (jy a b) b<=0:=by
 unfold jy;split
 .exact zZ b
 .rcases aeq a b with h|h
  .exact h
  .have h0:ke b a=0:= aA ;obtain⟨k,ka,kb⟩:∃ k:Int,k<=a.e/\k<=b.e:=⟨min a.e b.e,aA,aA⟩
   rw[DT (k:=k) (.inr kb) (.inr ka)]at h0;rw[sw (.inr ka) (.inr kb)];unfold xl at h0;split at h0
   .omega
   .split at h0<;>omega
def GN(a b:Dy):ke a b = -ke b a:=by
 obtain⟨k,ka,kb⟩:∃ k:Int,k<=a.e/\k<=b.e:=⟨min a.e b.e,aA,aA⟩
 rw[DT (k:=k) (.inr ka) (.inr kb),DT (k:=k) (.inr kb) (.inr ka)];unfold xl;split<;>split<;>(try split)<;>omega
def CX(a b:Dy):ke a (jv a b)<=0:=by
 unfold jv;split
 .rw [GN];omega
 .exact zZ a
def afs(a b:Dy):ke b (jv a b)<=0:=by
 unfold jv;split
 .exact zZ b
 .omega
def yU{a b:Dy}(ha:a.ic)(hb:b.ic):(jy a b).ic:=by unfold jy;split;exact hb;exact ha
def vH{a b:Dy}(ha:a.ic)(hb:b.ic):(jv a b).ic:=by unfold jv;split;exact hb;exact ha
def pk(D : Dy->Dy->Bool->Dy)(E : Dy->Dy->Bool->Int)(x y : Iv) : Iv:=
 if(E x.lo y.lo false=0/\E x.lo y.lo true=0)/\(E x.lo y.hi false=0/\E x.lo y.hi true=0)/\(E x.hi y.lo false=0/\E x.hi y.lo true=0)/\(E x.hi y.hi false=0/\E x.hi y.hi true=0)then
  ⟨jy (jy (jy (D x.lo y.lo false) (D x.lo y.hi false)) (D x.hi y.lo false)) (D x.hi y.hi false),
   jv (jv (jv (D x.lo y.lo true) (D x.lo y.hi true)) (D x.hi y.lo true)) (D x.hi y.hi true),false⟩
 else gZ
def Rt{D:Dy->Dy->Bool->Dy}{E:Dy->Dy->Bool->Int}{x y:Iv}(hv:∀ a b up,(D a b up).ic)
 (hle:E x.lo y.lo false=0->E x.lo y.lo true=0->ke (D x.lo y.lo false) (D x.lo y.lo true)<=0):(pk D E x y).ic:=by
 unfold pk;split
 .rename_i h;refine .inr ⟨rfl,yU (yU (yU (hv _ _ _) (hv _ _ _)) (hv _ _ _)) (hv _ _ _),vH (vH (vH (hv _ _ _) (hv _ _ _)) (hv _ _ _)) (hv _ _ _),?_⟩;refine le_trans (Fl _ _) (le_trans (Fl _ _) (le_trans (Fl _ _) (le_trans (hle h.1.1 h.1.2) ?_)));exact le_trans (CX _ _) (le_trans (CX _ _) (CX _ _))
 .exact lX
def kJ(x y:Iv)(p:Nat):Iv:=
 if x.all||y.all then gZ else pk (λa b up=>jd (BD a b) p up) (λa b up=>jI (BD a b) p up) x y
def nQ(x y:Iv){p:Nat}(hp:1<=p)(ie:p<=4096):(kJ x y p).ic:=by
 unfold kJ;split
 .exact lX
 .exact Rt (λ_ _ _=>tl _ _ _ _ _ _ hp ie) (λh1 h2=>Qm _ _ _ _ _ h1 h2)
def lk(a b:Dy)(p:Nat)(g:Nat):Nat:=p+g+iy b.m-iy a.m
def mi(a b:Dy)(p:Nat)(up:Bool):Dy:=
 if a.m=0 then iL else kr (a.neg != b.neg) (a.m*2^lk a b p 2/b.m) (a.e-b.e-lk a b p 2) (decide (a.m*2^lk a b p 2%b.m≠0)) p up
def mD(a b:Dy)(p:Nat)(up:Bool):Int:=
 if a.m=0 then 0 else jW (a.neg != b.neg) (a.m*2^lk a b p 2/b.m) (a.e-b.e-lk a b p 2) (decide (a.m*2^lk a b p 2%b.m≠0)) p up
def K8{a b:Dy}(a0:a.m≠0)(b0:b.m≠0)(p g:Nat)(hg:2<=g):p<iy (a.m*2^lk a b p g/b.m):=by
 have h1:=s9 a0;have h2:=uK b.m;have ha:=qf a0;have h3:2^p<=a.m*2^lk a b p g/b.m:=by
  rw[dq aA];refine bK (cM _ (dU h2)) (bK ?_ (bN _ h1));rw[<-bA,<-bA];exact b9 aC (by unfold lk;omega)
 exact Bp.2 h3
def Z7{a b:Dy}(a0:a.m≠0)(b0:b.m≠0)(p:Nat)(up:Bool):
 kr (a.neg != b.neg) (a.m*2^lk a b p 3/b.m) (a.e-lk a b p 3-b.e) (decide (a.m*2^lk a b p 3%b.m≠0)) p up=mi a b p up /\
 jW (a.neg != b.neg) (a.m*2^lk a b p 3/b.m) (a.e-lk a b p 3-b.e) (decide (a.m*2^lk a b p 3%b.m≠0)) p up=mD a b p up:=by
 obtain⟨d,hd⟩:∃ d,lk a b p 3=lk a b p 2+d:=⟨lk a b p 3-lk a b p 2,by unfold lk;omega⟩
 have hb:=K8 a0 b0 p 2 aC;unfold mi mD;rw[bh a0,bh a0,hd];generalize lk a b p 2=k at *
 have hB:0<b.m:= aA ;have hP:=bD (n:=d) (aC:0<2);have e1:a.m*2^(k+d)/b.m/2^d=a.m*2^k/b.m:=by
  rw[dv,bA,<-bE,Nat.mul_div_mul_right _ _ hP]
 have e2:(decide (a.m*2^(k+d)%b.m≠0)||decide (a.m*2^(k+d)/b.m%2^d≠0))=decide (a.m*2^k%b.m≠0):=by
  have h1:a.m*2^(k+d)%(b.m*2^d)=a.m*2^k%b.m*2^d:=by rw[bA,<-bE,Nat.mul_mod_mul_right]
  have h2:a.m*2^(k+d)%(b.m*2^d)=a.m*2^(k+d)%b.m+b.m*(a.m*2^(k+d)/b.m%2^d):=Nat.mod_mul;rw[h1]at h2;rw[aki];simp only[dK,di];constructor
  .intro h h0;rw[h0,cH]at h2;rcases h with h|h
   .omega
   .have:=fi hB (fF h);omega
  .intro h;apply ch;intro hn;have n1:a.m*2^(k+d)%b.m=0:=by
    apply ch;intro h';exact hn (.inl h')
   have n2:a.m*2^(k+d)/b.m%2^d=0:=by
    apply ch;intro h';exact hn (.inr h')
   rw[n1,n2,cT]at h2;have:=fi (fF h) hP;omega
 have h:=GU (N:=a.m*2^(k+d)/b.m) (E:=a.e-((k+d:Nat):Int)-b.e) (more:=decide (a.m*2^(k+d)%b.m≠0)) (d:=d) (p:=p) (a.neg != b.neg) up (by rw[e1];exact hb);rw[e1,e2,(aA:a.e-((k+d:Nat):Int)-b.e+(d:Int)=a.e-b.e-(k:Int))]at h;exact⟨h.1.symm,h.2.symm⟩
def oH(x:Iv):Int:=if x.all then 0 else if 0<x.lo.kf then 1 else if x.hi.kf<0 then -1 else 0
def qQ(x y:Iv)(p:Nat):Iv:=
 if x.all||y.all||decide (oH y=0)then gZ else pk (λa b up=>mi a b p up) (λa b up=>mD a b p up) x y
def GW(x y:Iv){p:Nat}(hp:1<=p)(ie:p<=4096):(qQ x y p).ic:=by
 unfold qQ;split
 .exact lX
 .refine Rt (λa b up=>?_) (λh1 h2=>?_)
  .unfold mi;split
   .exact oI
   .exact tl _ _ _ _ _ _ hp ie
  .unfold mi mD at *
   split
   .exact zZ _
   .rename_i h;rw[bh h]at h1 h2;exact Qm _ _ _ _ _ h1 h2
def lS(d:Dy):Dy:=⟨false,d.m,d.e⟩
def xi{d:Dy}(h:d.ic):(lS d).ic:=by
 refine⟨?_,h.range⟩;rcases h.canon with⟨h1,_,h3⟩|h1
 .exact .inl ⟨h1,rfl,h3⟩
 .exact .inr h1
def XI(d:Dy)(k:Int):(lS d).num k=(d.jH k:Int):=by unfold Dy.num lS Dy.jH;simp
def o0(x:Iv):Dy:=jv (lS x.lo) (lS x.hi)
def po(x:Iv):Dy:=if oH x=0 then iL else jy (lS x.lo) (lS x.hi)
def oL(x:Iv):Iv:=if x.all then gZ else⟨po x,o0 x,false⟩
def iY(d:Dy):Iv:=⟨d,d,false⟩
def tO{d:Dy}(h:d.ic):(iY d).ic:=.inr ⟨rfl,h,h,zZ d⟩
def IX{x:Iv}(h1:x.lo.ic)(h2:x.hi.ic):(o0 x).ic:=vH (xi h1) (xi h2)
def O9{x:Iv}(h:x.ic):(oL x).ic:=by
 unfold oL;rcases h with⟨h,_⟩|⟨h,h1,h2,_⟩
 .rw [h];exact lX
 .rw [h];have v1:=xi h1;have v2:=xi h2;refine .inr ⟨rfl,?_,IX h1 h2,?_⟩
  .show (po x).ic;unfold po;split
   .exact oI
   .exact yU v1 v2
  .show ke (po x) (o0 x)<=0;unfold po;split
   .refine le_trans (b:=lS x.lo) ?_ (CX _ _);rw[sw (a:=iL) (b:=lS x.lo) (k:=x.lo.e) (.inl rfl) (.inr (cB _)),vK rfl,XI];omega
   .exact le_trans (Fl _ _) (CX _ _)
structure mQ(m:List (List Iv))(n k:Nat):Prop where
 il:m.length=n
 row:∀ r,r ∈ m->r.length=k
 ok:∀ r,r ∈ m->∀ x,x ∈ r->x.ic
 n1:1<=n
 n8:n<=8
 k1:1<=k
 k8:k<=8
def zV(n:Nat):List (List Iv):=(List.range n).map λi=>(List.range n).map λj=>iY (if i=j then⟨false,1,0⟩else iL)
def G0(a b:List Iv)(p:Nat):Iv:=
 match a,b with
 |x::a,y::b=>(a.zip b).foldl (λs q=>kU s (kJ q.1 q.2 p) p) (kJ x y p)
 |_,_=>gZ
def GP(m:List (List Iv))(j:Nat):List Iv:=m.map λr=>r.getD j gZ
def wP(a b:List (List Iv))(p:Nat):List (List Iv):=a.map λr=>(List.range (b.headD []).length).map λj=>G0 r (GP b j) p
def aaj{a b:List Iv}{p:Nat}(hp:1<=p)(ie:p<=4096):(G0 a b p).ic:=by
 unfold G0
 match a,b with
 | [],[]=>exact lX
 | [],_::_=>exact lX
 |_::_,[]=>exact lX
 |x::a,y::b=>
  simp only;have:∀ (l:List (Iv×Iv)) (s:Iv),s.ic->(l.foldl (λs q=>kU s (kJ q.1 q.2 p) p) s).ic:=by
   intro l
   induction l with
   |nil=>intro s h;exact h
   |cons q l ih=>intro s h;exact ih _ (pT h (nQ _ _ hp ie) hp ie)
  exact this _ _ (nQ _ _ hp ie)
def kO(n:Int):Dy:=iK n 0
def lM(n:Int):Iv:=iY (kO n)
end Go.Proofs.YtjkmahljfblobaaGreatDoor.Fp
namespace Go.Proofs.YtjkmahljfblobaaGreatDoor
open Go.RowKit Fp Pu
def iQ(x:Iv):List E:=[bP x.lo.neg,iz (ia x.lo.m),iP x.lo.e,bP x.hi.neg,iz (ia x.hi.m),iP x.hi.e,bP x.all]
def ix(x:Iv):E:=.agg (iQ x)
def hH(l:List Iv):E:=.sl true l.length 7 λi j=>(iQ (l.getD i gZ)).getD j .any
def iW(m:List (List Iv)):E:=.sl true m.length 1 λi _=>hH (m.getD i [])
def xD(x y:Iv):Bool:=y.all||(!x.all&&(decide (ke y.lo x.lo<=0)&&decide (ke x.hi y.hi<=0)))
def Vn:E.le (.v (.slice none 0 0)) (iz (ia 0)):=by
 have:iz (ia 0) = .sl false 0 1 λi _=>.v (.int .u32 (((ia 0).getD i 0:Nat):Int)):=by unfold iz;rw[oD];rfl
 rw[this];exact .nil _ _ _
def xV:E.le (.agg [bP false,.v (.slice none 0 0),iP 0,bP false,.v (.slice none 0 0),iP 0,bP true]) (ix gZ):=
 .agg (.cons (.refl _) (.cons Vn (.cons (.refl _) (.cons (.refl _) (.cons Vn (.cons (.refl _) (.cons (.refl _) .nil)))))))
structure RD where
 neg:Bool
 L:List Nat
 e:Int
structure RI where
 lo:RD
 hi:RD
 all:Bool
def rdL(d:RD):List E:=[bP d.neg,iz d.L,iP d.e]
def Da(d:RD):E:=.agg (rdL d)
def Wi(x:RI):List E:=[bP x.lo.neg,iz x.lo.L,iP x.lo.e,bP x.hi.neg,iz x.hi.L,iP x.hi.e,bP x.all]
def BJ(x:RI):E:=.agg (Wi x)
def Dg:RD:=⟨false,[],0⟩
def sB:RI:=⟨Dg,Dg,true⟩
def FY(l:List RI):E:=.sl true l.length 7 λi j=>(Wi (l.getD i sB)).getD j .any
def BK(m:List (List RI)):E:=.sl true m.length 1 λi _=>FY (m.getD i [])
structure RD.rB(d:RD):Prop where
 ok:iM d.L
 lo:-9223372036854775808<=d.e
 hi:d.e<=9223372036854775807
structure RI.rB(x:RI):Prop where
 lo:x.lo.rB
 hi:x.hi.rB
def Wv:Dg.rB:=⟨iM.nil,aC,aC⟩
def Wu:sB.rB:=⟨Wv,Wv⟩
def RD.dy(d:RD):Dy:=⟨d.neg,val d.L,d.e⟩
def RD.Ok(d:RD):Prop:=pg d.neg d.L d.e
def RD.Zero(d:RD):Prop:=d.neg=false/\d.L=[]/\d.e=0
def RI.iv(x:RI):Iv:=⟨x.lo.dy,x.hi.dy,x.all⟩
def RI.Ok(x:RI):Prop:=(x.all=true/\x.lo.Zero/\x.hi.Zero)\/(x.all=false/\x.lo.Ok/\x.hi.Ok/\ke x.lo.dy x.hi.dy<=0)
def Fp.Dy.raw(d:Dy):RD:=⟨d.neg,ia d.m,d.e⟩
def Fp.Iv.raw(x:Iv):RI:=⟨x.lo.raw,x.hi.raw,x.all⟩
def RD.Ok.valid{d:RD}(h:d.Ok):d.dy.ic:=h.2.2
def RD.Ok.eq{d:RD}(h:d.Ok)(g:d.rB):d.dy.raw=d:=by
 obtain⟨n,L,e⟩:=d;show RD.mk n (ia (val L)) e=_;rw[<-pg.G6 h g.ok]
def RD.Zero.eq{d:RD}(h:d.Zero):d.dy=iL/\d.dy.raw=d:=by
 obtain⟨n,L,e⟩:=d;obtain⟨rfl,rfl,rfl⟩:=h;refine⟨rfl,?_⟩;show RD.mk false (ia 0) 0=_;rw[oD]
def RI.Ok.valid{x:RI}(h:x.Ok):x.iv.ic:=by
 rcases h with⟨h1,h2,h3⟩|⟨h1,h2,h3,h4⟩
 .exact .inl ⟨h1,h2.eq.1,h3.eq.1⟩
 .exact .inr ⟨h1,h2.valid,h3.valid,h4⟩
def RI.Ok.eq{x:RI}(h:x.Ok)(g:x.rB):x.iv.raw=x:=by
 obtain⟨lo,hi,a⟩:=x;rcases h with⟨h1,h2,h3⟩|⟨h1,h2,h3,h4⟩
 .show RI.mk lo.dy.raw hi.dy.raw a=_;rw[h2.eq.2,h3.eq.2]
 .show RI.mk lo.dy.raw hi.dy.raw a=_;rw[h2.eq g.lo,h3.eq g.hi]
def Fp.Dy.V2(d:Dy):d.raw.dy=d:=by show Dy.mk d.neg (val (ia d.m)) d.e=d;rw[lW]
def TC(x:Iv):BJ x.raw=ix x:=rfl
def Fp.Dy.ic.Cm{d:Dy}(h:d.ic):d.raw.rB:=⟨o9 _,by have:=h.exp;show -9223372036854775808<=d.e;omega,by have:=h.exp;show d.e<=9223372036854775807;omega⟩
def Fp.Dy.ic.uS{d:Dy}(h:d.ic):d.raw.Ok:=h.wk
def Fp.Iv.ic.uS{x:Iv}(h:x.ic):x.raw.Ok:=by
 rcases h with⟨h1,h2,h3⟩|⟨h1,h2,h3,h4⟩
 .refine .inl ⟨h1,?_,?_⟩
  .show x.lo.raw.Zero;rw[h2];exact⟨rfl,oD,rfl⟩
  .show x.hi.raw.Zero;rw[h3];exact⟨rfl,oD,rfl⟩
 .refine .inr ⟨h1,h2.uS,h3.uS,?_⟩;show ke x.lo.raw.dy x.hi.raw.dy<=0;rw[Dy.V2,Dy.V2];exact h4
def Fp.Iv.ic.mM{x:Iv}(h:x.ic):x.lo.ic/\x.hi.ic:=by
 rcases h with⟨_,h2,h3⟩|⟨_,h2,h3,_⟩
 .rw [h2,h3];exact⟨oI,oI⟩
 .exact ⟨h2,h3⟩
def Fp.Iv.ic.Cm{x:Iv}(h:x.ic):x.raw.rB:=⟨h.mM.1.Cm,h.mM.2.Cm⟩
def ajL:gZ.raw=sB:=by
 show RI.mk iL.raw iL.raw true=RI.mk Dg Dg true;have:iL.raw=Dg:=by show RD.mk false (ia 0) 0=_;rw[oD];rfl
 rw[this]
def y9(l:List Iv):List RI:=l.map Iv.raw
def uU(m:List (List Iv)):List (List RI):=m.map y9
def RO(l:List Iv)(i:Nat):(y9 l).getD i sB=(l.getD i gZ).raw:=by
 unfold y9;rw[bk,bk,cD];cases l[i]? with
 |none=>exact ajL.symm
 |some x=>rfl
def adV(l:List Iv):FY (y9 l)=hH l:=by
 unfold FY hH;rw[show(y9 l).length=l.length by simp[y9]];congr 1;funext i j;rw[RO];rfl
def afm(m:List (List Iv)):BK (uU m)=iW m:=by
 unfold BK iW;rw[show(uU m).length=m.length by simp[uU]];congr 1;funext i j;rw[<-adV];congr 1;unfold uU;rw[bk,bk,cD];cases m[i]? <;> rfl
structure DF(m:List (List RI)):Prop where
 n1:1<=m.length
 n8:m.length<=8
 k1:1<=(m.getD 0 []).length
 k8:(m.getD 0 []).length<=8
 row:∀ i,i<m.length->(m.getD i []).length=(m.getD 0 []).length
 ok:∀ i,i<m.length->∀ j,j<(m.getD i []).length->((m.getD i []).getD j sB).Ok
def DC(m:List (List RI)):Prop:=∀ r,r ∈ m->∀ x,x ∈ r->x.rB
def DC.at{m:List (List RI)}(h:DC m)(i j:Nat):((m.getD i []).getD j sB).rB:=by
 by_cases hi:i<m.length
 .rw [bk (l:=m),bw hi];show(m[i].getD j sB).rB;by_cases hj:j<m[i].length
  .rw [bk,bw hj];exact h _ (cz hi) _ (cz hj)
  .rw [bk,bR aA];exact Wu
 .rw [bk (l:=m),bR aA];exact Wu
def Lf(d:RD)(g:d.rB)(b:Bool)(hb:b=true↔d.Ok):gW 60 [Da d] (bP b):=by
 refine⟨call60,λw B vs hK hB hr=>?_⟩;obtain⟨v1,vs,rfl,h1,hr⟩:=hr.mW;obtain rfl:=hr.qY;obtain⟨us,rfl,q⟩:=iC.DI (show iC _ _ w (.agg _) v1 from h1);obtain⟨u1,us,rfl,k1,q⟩:=q.mW;obtain⟨u2,us,rfl,k2,q⟩:=q.mW;obtain⟨u3,us,rfl,k3,q⟩:=q.mW;obtain rfl:=q.qY;obtain rfl:=iC.kD k1;obtain rfl:=iC.kD k3;obtain⟨A,c,rfl,hs⟩:=zh g.ok k2;exact(AH d.neg A c d.L d.e w b hs g.lo g.hi hb).mono λe w' h=>rv B w e w' hB h
def afY{a b:Nat}(h:a≠b):((a:Int) != (b:Int))=true:= aL 
def r8{a b:Nat}(h:a=b):((a:Int) != (b:Int))=false:=by simp[h]
def Fv{a b:Nat}(h:a=b):((a:Int)==b)=true:=by simp[h]
def afS{a b:Nat}(h:a≠b):((a:Int)==b)=false:= aL 
open Classical in
noncomputable def uR(x:RI):Bool:=decide x.Ok
def Jf{x:RI}:uR x=true↔x.Ok:=by unfold uR;simp
open Classical in
noncomputable def wO(m:List (List RI)):Bool:=decide (DF m)
def Nj{m:List (List RI)}:wO m=true↔DF m:=by unfold wO;simp
def Fj{m:List (List RI)}(h:¬DF m):wO m=false:=by simpa using λq=>h (Nj.1 q)
open Go.ChangeShapes Go.WideShapes Go.ChangeAt
abbrev noB:Nat->Prop:=λ_=>False
section
variable {H:Type} {enc:TypeId×Value->H} {W:World} {fuel:Nat} {cs:List Value} {x:DataW H×List MemPlace}
end
def acr{P:Program}{c:OpenClaim}(h:P.funcs.any Func.goes=false)(hs:c.start = .entering):false=c.goesBy P:=by
 have h1:∀ g:Nat,(P.funcs[g]?).any Func.goes=false:=by
  intro g;cases hg:P.funcs[g]? with
  |none=>rfl
  |some fn=>
   rw[Option.any_some];rw[Array.any_eq_false]at h;obtain⟨hl,he⟩:=cX.1 hg;have:=h g hl;rw[he]at this;simpa using this
 have h2:∀ f,P.goes f=false:=by
  intro f;unfold Program.goes;rw[h,Bool.and_false,dP,cw];intro g _;rw[h1 g];decide
 unfold OpenClaim.goesBy Program.goesAt Program.goesFrom;rw[hs];cases P.funcNamed c.func with
 |none=>rfl
 |some f=>simp[h2 f]
def abF:Tryz.pinned.checked.prog.funcs.any Func.goes=false:= aD 
def OR{k:IntKind}{z:Int}(h:(Lit.int k z).wf=true):kQ k z:=by
 cases k<;>(simp[Lit.wf,IntKind.min,IntKind.max,IntKind.signed,IntKind.bits]at h;simp only[kQ];omega)
end Go.Proofs.YtjkmahljfblobaaGreatDoor
namespace Go.Proofs.YtjkmahljfblobaaGreatDoor.Pu
open Go.RowKit
inductive R where
 |nil
 |bad
 |a (p:Prop) (r:R)
 |w (p:Prop) (r1:p->R) (r2:¬p->R)
def R.ok:R->Prop
 | .nil=>True
 | .bad=>False
 | .a p r=>p/\r.ok
 | .w p r1 r2=>(∀ h:p,(r1 h).ok)/\(∀ h:¬p,(r2 h).ok)
inductive Tr(P:Program)(K:World->Prop) where
 |nil
 |c {f:FuncId} {args:List E} {jk:E} (h:PC P K f args jk) (t:Tr P K)
 |cf {f:FuncId} {args:List E} {jk:E} (h:Gm P K f args jk) (t:Tr P K)
 |cn {f:FuncId} {args:List E} {nl:Bool} {T:TypeId} {n sz:Nat} {el:Nat->Nat->E} (h:tZ P K f args nl T n sz el) (t:Tr P K)
 |cr {f:FuncId} {args:List E} {nl:Bool} {T1 T0:TypeId} {n sz:Nat} {len:Nat->Nat} {el:Nat->Nat->Nat->E} (h:vX P K f args nl T1 T0 n sz len el) (t:Tr P K)
 |cm {f:FuncId} {T:TypeId} {l l':List E} {args:List E} {jk:E} (h:tY P K f T l l' args jk) (t:Tr P K)
 |g {op:BinOp} {ty:TypeId} {x y:E} {v:Value} (h:lN P op ty x y v) (t:Tr P K)
 |gi {op:BinOp} {ty:TypeId} {x y:E} {v:Value} (h:lN P op ty x y v) (t:Tr P K)
 |m {l:List (Int×FuncId×List FuncId)} {z:Int} {e:E} (h:xJ l z=some e) (t:Tr P K)
 |o (d:Nat) {p q:PV} (h:PV.le p q) (t:Tr P K)
 |bo (t:Tr P K)
 |a {p:Prop} (h:p) (t:Tr P K)
 |w (p:Prop) (t1:p->Tr P K) (t2:¬p->Tr P K)
 |s {c:Code} {σ τ:PS} {e:Ex} (h:Sp P K c σ (λe' τ'=>e'=e/\τ'=τ)) (l t:Tr P K)
 |j (c:Nat) (τ:PS) (tj t:Tr P K)
 |v (d:Nat) {p q:PV} (h:PV.le p q) (t:Tr P K)
 |b (d:Nat) {p q:Bx} (h:Bx.le p q) (t:Tr P K)
 |z (id:Nat) (t:Tr P K)
 |y (s id:Nat) (nl:Bool) (T:TypeId) (sz:Nat) (el:Nat->Nat->E) (t:Tr P K)
 |yf (d off id:Nat) (nl:Bool) (T:TypeId) (sz:Nat) (el:Nat->Nat->E) (t:Tr P K)
 |e (t:Tr P K)
 |k (ts bs:List Nat) (t:Tr P K)
 |u (n:Nat) (t:Tr P K)
 |x (h:False)
 |r {p q:E} (h:E.le p q)
 |rb {p q:Bx} (h:Bx.le p q)
 |rm {p q:Bx} {r₁ s₁:E} (h:Bx.le p q) (k:E.le r₁ s₁)
section
variable {P:Program} {K:World->Prop}
def Dm:List (Nat×PV)->Tr P K->(Tr P K->R)->R
 | [],t,k=>k t
 | (d,q)::l,t,k=>match t with
  | .o d' (p:=p) (q:=q') _ t'=>if Nat.beq d' d then .a (PV.le p q') (Dm l t' k)else .a (PV.le q q) (Dm l t k)
  |t=>.a (PV.le q q) (Dm l t k)
def B9:List (Nat×Bx)->Tr P K->R->R
 | [],_,r=>r
 | (d,q)::l,t,r=>match t with
  | .b d' (p:=p) (q:=q') _ t'=>if Nat.beq d' d then .a (Bx.le p q') (B9 l t' r)else .a (Bx.le q q) (B9 l t r)
  |t=>.a (Bx.le q q) (B9 l t r)
def Dh(σ:PS)(t:Tr P K)(r:R):R:=Dm σ.t t λt=>B9 σ.b t r
def Tr.ex:Tr P K->(Tr P K->R)->R
 | .nil,fin=>fin .nil
 | .e t,fin=>fin t
 | @Tr.c _ _ f args jk _ t,fin=>.a (PC P K f args jk) (t.ex fin)
 | @Tr.cf _ _ f args jk _ t,fin=>.a (Gm P K f args jk) (t.ex fin)
 | @Tr.cn _ _ f args nl T n sz el _ t,fin=>.a (tZ P K f args nl T n sz el) (t.ex fin)
 | @Tr.cr _ _ f args nl T1 T0 n sz len el _ t,fin=>.a (vX P K f args nl T1 T0 n sz len el) (t.ex fin)
 | @Tr.cm _ _ f T l l' args jk _ t,fin=>.a (tY P K f T l l' args jk) (t.ex fin)
 | @Tr.g _ _ op₁ ty₁ xe₁ ye₁ ve₁ _ t,fin=>.a (lN P op₁ ty₁ xe₁ ye₁ ve₁) (t.ex fin)
 | @Tr.gi _ _ op₁ ty₁ xe₁ ye₁ ve₁ _ t,fin=>.a (lN P op₁ ty₁ xe₁ ye₁ ve₁) (t.ex fin)
 | @Tr.m _ _ l₁ z₁ e₁ _ t,fin=>.a (xJ l₁ z₁=some e₁) (t.ex fin)
 | .o _ (p:=p) (q:=q) _ t,fin=>.a (PV.le p q) (t.ex fin)
 | .bo t,fin=>.a True (t.ex fin)
 | .a (p:=p) _ t,fin=>.a p (t.ex fin)
 | .w p t1 t2,fin=>.w p (λh=>(t1 h).ex fin) (λh=>(t2 h).ex fin)
 | @Tr.s _ _ c₁ σ τ e₁ _ l t,fin=>Dh σ l (.a (Sp P K c₁ σ (λe' τ'=>e'=e₁/\τ'=τ)) (t.ex fin))
 | .j _ τ tj t,fin=>.a (tj.ex λt=>Dh τ t .nil).ok (t.ex fin)
 | .v _ (p:=p) (q:=q) _ t,fin=>.a (PV.le p q) (t.ex fin)
 | .b _ _ t,fin=>t.ex fin
 | .z _ t,fin=>t.ex fin
 | .y _ _ _ _ _ _ t,fin=>t.ex fin
 | .yf _ _ _ _ _ _ _ t,fin=>t.ex fin
 | .k _ _ t,fin=>t.ex fin
 | .u _ t,fin=>t.ex fin
 | .x _,fin=>.a False .nil
 | .r (p:=p) (q:=q) _,fin=>.a (E.le p q) .nil
 | .rb (p:=p) (q:=q) _,fin=>.a (Bx.le p q) .nil
 | @Tr.rm _ _ p q r₁ s₁ _ _,fin=>.a (Bx.le p q) (.a (E.le r₁ s₁) .nil)
def ai7{l:List (Nat×PV)}{t:Tr P K}{k:Tr P K->R}(hk:∀ t,(k t).ok):(Dm l t k).ok:=by
 induction l generalizing t with
 |nil=>exact hk t
 |cons x l ih=>
  obtain⟨d,q⟩:=x;cases t with
  |o d' h t'=>
   simp only[Dm];split
   .exact ⟨h,ih⟩
   .exact ⟨PV.le.refl q,ih⟩
  |_=>exact⟨PV.le.refl q,ih⟩
def X7{l:List (Nat×Bx)}{t:Tr P K}{r:R}(hr:r.ok):(B9 l t r).ok:=by
 induction l generalizing t with
 |nil=>exact hr
 |cons x l ih=>
  obtain⟨d,q⟩:=x;cases t with
  |b d' h t'=>
   simp only[B9];split
   .exact ⟨h,ih⟩
   .exact ⟨Bx.le.refl q,ih⟩
  |_=>exact⟨Bx.le.refl q,ih⟩
def Ot{σ:PS}{t:Tr P K}{r:R}(hr:r.ok):(Dh σ t r).ok:=ai7 λ_=>X7 hr
def Tr.D5{fin:Tr P K->R}(hf:∀ t,(fin t).ok)(t:Tr P K):(t.ex fin).ok:=by
 induction t generalizing fin with
 |nil=>exact hf _
 |e t=>exact hf _
 |c h t ih=>exact⟨h,ih hf⟩
 |cf h t ih=>exact⟨h,ih hf⟩
 |cn h t ih=>exact⟨h,ih hf⟩
 |cr h t ih=>exact⟨h,ih hf⟩
 |cm h t ih=>exact⟨h,ih hf⟩
 |g h t ih=>exact⟨h,ih hf⟩
 |gi h t ih=>exact⟨h,ih hf⟩
 |m h t ih=>exact⟨h,ih hf⟩
 |o d h t ih=>exact⟨h,ih hf⟩
 |bo t ih=>exact⟨trivial,ih hf⟩
 |a h t ih=>exact⟨h,ih hf⟩
 |w p t1 t2 ER ES=>exact⟨λh=>ER h hf,λh=>ES h hf⟩
 |s h l t ihl MK=>exact Ot ⟨h,MK hf⟩
 |j c τ tj t ihj MK=>exact⟨ihj λ_=>Ot trivial,MK hf⟩
 |v d h t ih=>exact⟨h,ih hf⟩
 |b d h t ih=>exact ih hf
 |z id t ih=>exact ih hf
 |y s id nl T sz el t ih=>exact ih hf
 |yf d off id nl T sz el t ih=>exact ih hf
 |k ts bs t ih=>exact ih hf
 |u n t ih=>exact ih hf
 |x h=>exact h.elim
 |r h=>exact⟨h,trivial⟩
 |rb h=>exact⟨h,trivial⟩
 |rm h k=>exact⟨h,k,trivial⟩
def OB(υ:PS):List (Nat×PV)->R->R
 | [],r=>r
 | (d,q)::l,r=>.a (PV.le (υ.get d) q) (OB υ l r)
def Gy(υ:PS):List (Nat×Bx)->R->R
 | [],r=>r
 | (d,q)::l,r=>match υ.bo d with
  |some b=>.a (Bx.le b q) (Gy υ l r)
  |none=>.bad
def JX(υ σ:PS)(r:R):R:=if Nat.beq υ.n σ.n&&(σ.b.all (λx=>x.2.nl)||(σ.nl==υ.nl))&&FV σ then OB υ σ.t (Gy υ σ.b r)else .bad
def Tr.tail:Tr P K->Tr P K
 | .c _ t=>t
 | .cf _ t=>t
 | .cn _ t=>t
 | .cr _ t=>t
 | .cm _ t=>t
 | .g _ t=>t
 | .gi _ t=>t
 | .m _ t=>t
 | .bo t=>t
 | .a _ t=>t
 |_=>.nil
def NK:List Prop->Tr P K->(Tr P K->R)->R
 | [],t,k=>k t
 |p::l,t,k=>.a p (NK l t.tail k)
def P4(d:Option Tmp)(t:Tr P K):pS:=match d with
 |some d=>match t with
  | @Tr.c _ _ _ _ jk _ _=>{ cl:=[(d,jk)] }
  | @Tr.cf _ _ _ _ jk _ _=>{ cl:=[(d,jk)] }
  | @Tr.g _ _ _ _ _ _ ve₁ _ _=>{ cl:=[(d,.v ve₁)] }
  | @Tr.gi _ _ _ _ _ _ ve₁ _ _=>{ gi:=[(d,ve₁)] }
  | @Tr.m _ _ _ _ e₁ _ _=>{ cl:=[(d,e₁)] }
  | @Tr.cn _ _ _ _ nl T n sz el _ _=>{ nw:=[(d,.row nl T n sz el)] }
  | @Tr.cr _ _ _ _ nl T1 T0 n sz len el _ _=>{ nw:=[(d,.il nl T1 T0 n sz len el none)] }
  | @Tr.cm _ _ _ _ _ l' _ jk _ _=>{ mu:=[(d,(l',jk))] }
  | .bo _=>{ nw:=[(d,.cells 0 [])] }
  |_=>{}
 |none=>{}
def FM:Tr P K->(Tr P K->R)->R
 | .w p t1 t2,k=>.w p (λh=>FM (t1 h) k) (λh=>FM (t2 h) k)
 | .x _,_=>.a False .nil
 |t,k=>k t
def NV(o:Oper)(u:kq)(t:Tr P K)(k:kq->Tr P K->R):R:=match o.dst,t with
 |some d,.o d' (q:=q) _ t'=>if Nat.beq d' d then .a (PV.le u.r q) (k { u with r:=q,ju:=PV.le u.r q::u.ju } t')else k u t
 |_,t=>k u t
def NR(T:List TI)(gX:Array Oper)(σ:PS)(o:Oper)(t:Tr P K)(k:kq->Tr P K->R):R:=
 if vD σ o.dst then match zk gX σ o with
  |some false=>k { r:=.e (.v (.tuple #[])),rd:=(looks gX o).map σ.get } t
  |some true=>FM t λt=>match jC P K T (P4 o.dst t) σ o with
   |some u=>NK u.ju t λt=>FM t λt=>NV o u t λu t=>k { u with rd:=(looks gX o).map σ.get,hb:=σ.oN u.f,ob:=σ.wT u.f } t
   |none=>.bad
  |none=>.bad
 else .bad
def NT(T:List TI)(gX:Array Oper)(k:List (Oper×kq)->PS->Tr P K->R):List Oper->List (Oper×kq)->PS->Tr P K->R
 | [],us,σ,t=>k us σ t
 |o::l,us,σ,t=>NR T gX σ o t λu t'=>NT T gX k l ((o,u)::us) (σ.app o.dst u) t'
def q7(c:Bool):Tr P K->PS->(Tr P K->PS->R)->R
 | .w p t1 t2,σ,k=>.w p (λh=>q7 c (t1 h) σ k) (λh=>q7 c (t2 h) σ k)
 | .x _,_,_=>.a False .nil
 | .v d (q:=q) _ t,σ,k=>match q with
  | .e x=>if vD σ (some d)then .a (PV.le (σ.get d) (.e x)) (q7 c t (σ.put (some d) (.e x)) k)else .bad
  |_=>.bad
 | .k ts bs t,σ,k=>if c then k (.k ts bs t) σ else if FV (σ.cut ts bs)then q7 c t (σ.cut ts bs) k else .bad
 | .z id t,σ,k=>if c then k (.z id t) σ else match σ.bo id with
  |some b=>match b.as with
   |some e=>q7 c t (σ.uk id e) k
   |none=>.bad
  |none=>.bad
 | .y s id nl T sz el t,σ,k=>if c then k (.y s id nl T sz el t) σ else match σ.bo id,σ.get s with
  |none,.e (.v (.slice none 0 0))=>if !σ.nl||nl then q7 c t (σ.B5 s id (.row nl T 0 sz el)) k else .bad
  |_,_=>.bad
 | .yf d off id nl T sz el t,σ,k=>if c then k (.yf d off id nl T sz el t) σ else match σ.KA d off id (.row nl T 0 sz el)with
  |some τ=>if !σ.nl||nl then q7 c t τ k else .bad
  |none=>.bad
 |t,σ,k=>k t σ
def JW(c:Code)(σ:PS)(t:Tr P K)(k:Ex->PS->Tr P K->R):R:=match t with
 | @Tr.s _ _ _ σ' τ e _ _ t=>JX σ σ' (.a (Sp P K c σ' (λe' τ'=>e'=e/\τ'=τ)) (k e τ t))
 |_=>.bad
def Ex.qu:Ex->Ex->Bool
 | .normal,.normal=>true
 | .ret,.ret=>true
 | .exit a,.exit b=>Nat.beq a b
 |_,_=>false
def D3(e:Ex)(τ:PS)(e':Ex)(υ:PS)(_:Tr P K):R:=if Ex.qu e' e then JX υ τ .nil else .bad
def Zu:Operand->Nat
 | .tmp t=>2*t
 |_=>1
def jn(c:Nat)(g:PS->Tr P K->(Ex->PS->Tr P K->R)->R)(σ:PS)(t:Tr P K)(k:Ex->PS->Tr P K->R):R:=match t with
 | .j c' τ tj t'=>if Nat.beq c' c then .a (g σ tj (D3 .normal τ)).ok (k .normal τ t')else g σ t k
 |t=>g σ t k
def Tr.isS:Tr P K->Bool
 | .s ..=>true
 |_=>false
def Xn(g f:PS->Tr P K->(Ex->PS->Tr P K->R)->R):Nat->PS->Tr P K->(Ex->PS->Tr P K->R)->R
 | 0,_,_,_=>.bad
 |n+1,σ,t,k=>q7 false t σ λt σ=>if t.isS then g σ t k else f σ t λe τ t=>match e with
  | .normal=>Xn g f n τ t k
  |e=>k e τ t
def ug(T:List TI):Code->PS->Tr P K->(Ex->PS->Tr P K->R)->R
 | .skip,σ,t,k=>k .normal σ t
 | .region _ gX d,σ,t,k=>NT T gX (λus τ t=>if !d||C4 gX 0 us.reverse then k .normal τ t else .bad) gX.toList [] σ t
 | .seq a b,σ,t,k=>ug T a σ t λe τ t=>match e with
  | .normal=>ug T b τ t k
  |e=>k e τ t
 | .cond c a b,σ,t,k=>q7 true t σ λt σ=>jn (Zu c) (λσ t k=>q7 true t σ λt σ=>match σ.op c with
  | .e (.v (.bool true))=>ug T a σ t k
  | .e (.v (.bool false))=>ug T b σ t k
  |_=>.bad) σ t k
 | .block id b,σ,t,k=>q7 true t σ λt σ=>jn (2*id+1) (λσ t k=>ug T b σ t λe τ t=>match e with
  | .exit i=>if Nat.beq i id then k .normal τ t else k (.exit i) τ t
  |e=>k e τ t) σ t k
 | .exit id,σ,t,k=>q7 false t σ λt σ=>k (.exit id) σ t
 | .ret,σ,t,k=>q7 false t σ λt σ=>k .ret σ t
 | .loop b,σ,t,k=>q7 false t σ λt σ=>match t with
  | .u n t=>Xn (JW (.loop b)) (ug T b) n σ t k
  |t=>JW (.loop b) σ t k
 | .label _,σ,t,k=>k .normal σ t
 | .scope b,σ,t,k=>ug T b σ t k
 |_,_,_,_=>.bad
def VP{t:Tr P K}{k:Tr P K->R}(h:(FM t k).ok):∃ t',(k t').ok:=by
 induction t with
 |w p t1 t2 ER ES=>
  by_cases hp:p
  .exact ER hp (h.1 hp)
  .exact ES hp (h.2 hp)
 |x hf=>exact hf.elim
 |_=>exact⟨_,h⟩
def agq{l:List Prop}{t:Tr P K}{k:Tr P K->R}(h:(NK l t k).ok):(∀ q,q ∈ l->q)/\∃ t',(k t').ok:=by
 induction l generalizing t with
 |nil=>exact⟨λq hq=>by simp at hq,t,h⟩
 |cons p l ih=>
  obtain⟨h1,h2⟩:=ih h.2;refine⟨λq hq=>?_,h2⟩;rcases cW.1 hq with hq|hq
  .subst hq;exact h.1
  .exact h1 q hq
variable {T:List TI} {gX:Array Oper} {σ:PS} {o:Oper}
def agM{O:pS}{u:kq}{t:Tr P K}{k:kq->Tr P K->R}(hO:O.ov=[])(hu:jC P K T O σ o=some u)(ho:∀ q,q ∈ u.ju->q)(h:(NV o u t k).ok):
 ∃ O' u' t',uh P K T O' σ o=some u'/\(∀ q,q ∈ u'.ju->q)/\(k u' t').ok:=by
 have plain:(k u t).ok->∃ O' u' t',uh P K T O' σ o=some u'/\(∀ q,q ∈ u'.ju->q)/\(k u' t').ok:=by
  intro h;refine⟨O,u,t,?_,ho,h⟩;unfold uh;rw[hu,hO];cases o.dst<;>rfl
 unfold NV at h;split at h
 .rename_i d d' p q hpq t' hd;split at h
  .obtain ⟨h1,h2⟩:=h;refine⟨⟨O.cl,[(d,q)],O.nw,O.gi,O.mu⟩,_,t',?_,λx hx=>?_,h2⟩
   .unfold uh;have he:jC P K T ⟨O.cl,[(d,q)],O.nw,O.gi,O.mu⟩ σ o=jC P K T O σ o:=by cases O;rfl
    rw[he,hu,hd];simp[look]
   .rcases cW.1 hx with hx|hx
    .subst hx;exact h1
    .exact ho x hx
  .exact plain h
 .exact plain h
def agG{t:Tr P K}{k:kq->Tr P K->R}(h:(NR T gX σ o t k).ok):∃ u t',(∃ O,qR P K T O gX σ o=some u)/\(∀ q,q ∈ u.ju->q)/\(k u t').ok:=by
 unfold NR at h;split at h
 .rename_i hi;split at h
  .rename_i hw;refine⟨_,t,⟨{},?_⟩,λq hq=>by simp at hq,h⟩;unfold qR;rw[bj hi,hw]
  .rename_i hw;obtain⟨t1,h1⟩:=VP h;split at h1
   .rename_i u hu;obtain⟨ho,t2,h2⟩:=agq h1;obtain⟨t2,h2⟩:=VP h2;obtain⟨O',u',t3,tE,ho',h3⟩:=agM (by
     unfold P4;cases o.dst with
     |none=>rfl
     |some d=>cases t1<;>rfl) hu ho h2
    refine⟨{ u' with rd:=(looks gX o).map σ.get,hb:=σ.oN u'.f,ob:=σ.wT u'.f },t3,⟨O',?_⟩,ho',h3⟩;unfold qR;rw[bj hi,hw,tE]
   .exact h1.elim
  .exact h.elim
 .exact h.elim
def agJ{k:List (Oper×kq)->PS->Tr P K->R}{l:List Oper}{us:List (Oper×kq)}{t:Tr P K}(h:(NT T gX k l us σ t).ok):
 ∃ vs τ t',wa P K T gX vs σ τ/\vs.map (·.1)=l/\(∀ x,x ∈ vs->∀ q,q ∈ x.2.ju->q)/\(k (vs.reverse++us) τ t').ok:=by
 induction l generalizing us σ t with
 |nil=>exact⟨[],σ,t,rP.refl σ,rfl,λx hx=>by simp at hx,h⟩
 |cons o l ih=>
  obtain⟨u,t1,h1,h2,h3⟩:=agG h;obtain⟨vs,τ,t',k1,k2,k3,k4⟩:=ih h3;refine⟨(o,u)::vs,τ,t',⟨h1,k1⟩,by simp[k2],λx hx=>?_,by simpa using k4⟩;rcases cW.1 hx with hx|hx
  .subst hx;exact h2
  .exact k3 x hx
def PS.le.set{σ:PS}{d:Nat}{x:E}(hd:vD σ (some d)=true)(h:PV.le (σ.get d) (.e x)):PS.le σ (σ.put (some d) (.e x)):=λw0 B a w L _ r=>by
 have AR:d<σ.n:=by simpa[vD,eV]using hd
 refine⟨L,r.hd,by rw[PS.Nv];exact r.hs,λt=>?_,λid b hb=>r.hb id b hb,r.hv,r.hn,r.hw,r.hi,r.he,r.hl⟩;rw[PS.LH];by_cases e:d=t
 .subst e;rw[bj rfl];exact h _ _ _ _ _ (r.ht d)
 .rw [bh e];exact r.ht t
def BA{c:Bool}{t:Tr P K}{σ:PS}{k:Tr P K->PS->R}(h:(q7 c t σ k).ok):∃ t' τ,PS.le σ τ/\(k t' τ).ok:=by
 induction t generalizing σ with
 |w p t1 t2 ER ES=>
  by_cases hp:p
  .exact ER hp (h.1 hp)
  .exact ES hp (h.2 hp)
 |k ts bs t ih=>
  simp only[q7]at h;split at h
  .exact ⟨_,σ,PS.le.refl σ,h⟩
  split at h
  .rename_i hr;obtain⟨t',τ,h1,h2⟩:=ih h;exact⟨t',τ,(PS.le.cut ts bs hr).trans h1,h2⟩
  .exact h.elim
 |v d h0 t ih=>
  simp only[q7]at h;split at h
  .rename_i x;split at h
   .rename_i hd;obtain⟨t',τ,h1,h2⟩:=ih h.2;exact⟨t',τ,(PS.le.set hd h.1).trans h1,h2⟩
   .exact h.elim
  .exact h.elim
 |z id t ih=>
  simp only[q7]at h;split at h
  .exact ⟨_,σ,PS.le.refl σ,h⟩
  split at h
  .rename_i b hb;split at h
   .rename_i e he;obtain⟨t',τ,h1,h2⟩:=ih h;exact⟨t',τ,(PS.le.freeze id hb he).trans h1,h2⟩
   .exact h.elim
  .exact h.elim
 |y s id nl T sz el t ih=>
  simp only[q7]at h;split at h
  .exact ⟨_,σ,PS.le.refl σ,h⟩
  split at h
  .rename_i hb hg;split at h
   .rename_i hn;obtain⟨t',τ,h1,h2⟩:=ih h;exact⟨t',τ,(PS.le.XM s id hb hg (λe=>by rw[e]at hn;simpa using hn)).trans h1,h2⟩
   .exact h.elim
  .exact h.elim
 |yf d off id nl T sz el t ih=>
  simp only[q7]at h;split at h
  .exact ⟨_,σ,PS.le.refl σ,h⟩
  split at h
  .rename_i τ0 hb;split at h
   .rename_i hn;obtain⟨t',τ,h1,h2⟩:=ih h;exact⟨t',τ,(PS.le.XN hb (λe=>by rw[e]at hn;simpa using hn)).trans h1,h2⟩
   .exact h.elim
  .exact h.elim
 |x hf=>exact hf.elim
 |_=>exact⟨_,σ,PS.le.refl σ,h⟩
def ai8{υ:PS}{l:List (Nat×PV)}{r:R}(h:(OB υ l r).ok):w9 υ l/\r.ok:=by
 induction l with
 |nil=>exact⟨trivial,h⟩
 |cons x l ih=>obtain⟨d,q⟩:=x;exact⟨⟨h.1,(ih h.2).1⟩,(ih h.2).2⟩
def Yt{υ:PS}{l:List (Nat×Bx)}{r:R}(h:(Gy υ l r).ok):vW υ l/\r.ok:=by
 induction l with
 |nil=>exact⟨trivial,h⟩
 |cons x l ih=>
  obtain⟨d,q⟩:=x;simp only[Gy]at h;split at h
  .rename_i b hb;exact⟨⟨⟨b,hb,h.1⟩,(ih h.2).1⟩,(ih h.2).2⟩
  .exact h.elim
def WM{υ σ:PS}{r:R}(h:(JX υ σ r).ok):PS.le υ σ/\r.ok:=by
 unfold JX at h;split at h
 .rename_i hc;simp only[bF,dK,beq_iff_eq]at hc;obtain⟨⟨h1,h2⟩,h3⟩:=hc;obtain⟨h4,h5⟩:=ai8 h;obtain⟨h6,h7⟩:=Yt h5;refine⟨?_,h7⟩;rcases h2 with h2|h2
  .exact PS.le.ael (kz.1 h1) h2 h3 h4 h6
  .exact PS.le.nu (kz.1 h1) h2 h3 h4 h6
 .exact h.elim
def aib(hT:lE P T){w0:lZ}{B:Nat->Prop}{a:Act}{w:World}{L:Lk}(g:Gd P K w0 B){us:List (Oper×kq)}{τ:PS}{Q:Exit->Act->World->Prop}(h:wa P K T gX us σ τ)(ho:∀ x,x ∈ us->∀ q,q ∈ x.2.ju->q)
 (r:jb w0 B σ a w L) (hq:∀ a' w' L',jb w0 B τ a' w' L'->Q .normal a' w'):wpList P gX Q (us.map (·.1)) a w:=by
 induction us generalizing σ a w L with
 |nil=>exact hq a w L (r.qu h)
 |cons x us ih=>
  obtain⟨⟨O,h1⟩,h2⟩:=h;rw[ee];unfold wpList;rcases Q8 hT g r h1 (ho x aF) (wpList P gX Q (us.map (·.1))) Q (λa' w' L' hr=>ih h2 (λy hy=>ho y (by simp[hy])) hr)with⟨p1,p2⟩|⟨p1,p2⟩
  .rw [bj p1];exact .inl p2
  .rw [bh (by rw[p1];simp)];exact p2
def ahw(hT:lE P T)(hm:P.follows .mixedOrders=true){w0:lZ}{B:Nat->Prop}{a:Act}{w:World}{L:Lk}(g:Gd P K w0 B){id:Nat}{draw:Bool}{us:List (Oper×kq)}{τ:PS}{Q:Exit->Act->World->Prop}
 (h:wa P K T gX us σ τ) (hl:us.map (·.1)=gX.toList) (ho:∀ x,x ∈ us->∀ q,q ∈ x.2.ju->q) (hp:(!draw||C4 gX 0 us)=true) (r:jb w0 B σ a w L)
 (hq:∀ a' w' L',jb w0 B τ a' w' L'->Q .normal a' w'):(Code.region id gX draw).wp P Q a w:=by
 cases draw with
 |false=>exact wp_region_list (by rw[<-hl];exact aib hT g h ho r hq)
 |true=>
  obtain⟨R,r1,r2,r3⟩:=aer hl (by simpa using hp);refine wp_region_any hm (XR hT g hq gX.size (Array.replicate gX.size false) R σ a w.drew L r2 aF r3 (λx hx=>ho x.2 ?_) (by rw[r1];exact h) r.drew);rw[<-r1];exact cI.2 ⟨x,hx,rfl⟩
def WL{c:Code}{t:Tr P K}{k:Ex->PS->Tr P K->R}(h:(JW c σ t k).ok):Sp P K c σ (λe τ=>∃ t',(k e τ t').ok):=by
 unfold JW at h;split at h
 .obtain ⟨h1,h2,h3⟩:=WM h;exact Sp.pre h1 (h2.mono λe τ ⟨q1,q2⟩=>by subst q1 q2;exact⟨_,h3⟩)
 .exact h.elim
def Ex.aic{a b:Ex}(h:Ex.qu a b=true):a=b:=by
 cases a<;>cases b<;>first|rfl|(cases h;done)|exact congrArg Ex.exit (kz.1 h)
def Q2{e e':Ex}{τ υ:PS}{t:Tr P K}(h:(D3 e τ e' υ t).ok):e'=e/\PS.le υ τ:=by
 unfold D3 at h;split at h
 .rename_i he;exact⟨Ex.aic he,(WM h).1⟩
 .exact h.elim
def TH{c:Code}{cb:Nat}{g:PS->Tr P K->(Ex->PS->Tr P K->R)->R}(hg:∀ σ t k,(g σ t k).ok->Sp P K c σ (λe τ=>∃ t',(k e τ t').ok)){σ:PS}{t:Tr P K}{k:Ex->PS->Tr P K->R}(h:(jn cb g σ t k).ok):
 Sp P K c σ (λe τ=>∃ t',(k e τ t').ok):=by
 unfold jn at h;split at h
 .rename_i c' τ tj t;split at h
  .refine (hg _ _ _ h.1).post λe υ ⟨t',ht⟩=>?_
   obtain⟨he,hl⟩:=Q2 ht;exact⟨τ,hl,t,by rw[he];exact h.2⟩
  .exact hg _ _ _ h
 .exact hg _ _ _ h
def sF(P:Program)(K:World->Prop)(b:Code)(σ:PS)(Q:Ex->PS->Prop):Prop:=
 ∀ (w0:lZ) (B:Nat->Prop) (a:Act) (w:World) (L:Lk),Gd P K w0 B->jb w0 B σ a w L->∀ bf k cs,
  ∃ e a' w',(∃ ex τ L',e=Ex.to ex/\Q ex τ/\jb w0 B τ a' w' L')/\Arrives P (lone (bf.at a (.code b :: .inLoop b::k)) cs w) bf k cs e a' w'
def sF.loop{b:Code}{σ:PS}{Q:Ex->PS->Prop}(h:sF P K b σ Q):Sp P K (.loop b) σ Q:=by
 intro w0 B a w L g r bf k cs;obtain⟨e,a',w',hq,sL⟩:=h w0 B a w L g r bf k cs;exact⟨e,a',w',hq,.of_steps (.one step_loop) sL⟩
def sF.pre{b:Code}{σ τ:PS}{Q:Ex->PS->Prop}(h:PS.le σ τ)(k:sF P K b τ Q):sF P K b σ Q:=λw0 B a w L g r=>
 let⟨L',r'⟩:=h w0 B a w L (λb hb=>(g.hB b hb).1) r;k w0 B a w L' g r'
def sF.step{b:Code}{σ:PS}{Q:Ex->PS->Prop}(h:Sp P K b σ (λe τ=>(e = .normal/\sF P K b τ Q)\/(e ≠ .normal/\Q e τ))):sF P K b σ Q:=by
 intro w0 B a w L g r bf k cs;obtain⟨e,a₁,w₁,⟨ex,υ,L2,rfl,hq,pD⟩,sL⟩:=h w0 B a w L g r bf (.inLoop b::k) cs;rcases hq with⟨rfl,hs⟩|⟨jQ,hq⟩
 .obtain ⟨e₂,a₂,w₂,Mx,L4⟩:=hs w0 B a₁ w₁ L2 g pD bf k cs;exact⟨e₂,a₂,w₂,Mx,.of_steps (Steps.trans sL (.one step_inLoop)) L4⟩
 .cases ex with
  |normal=>exact absurd rfl jQ
  |exit i=>exact⟨_,a₁,w₁,⟨.exit i,υ,L2,rfl,hq,pD⟩,.pass (x:=.inLoop b) rfl (λ_ _=>.inl (by simp[Ex.to])) sL⟩
  |ret=>exact⟨_,a₁,w₁,⟨.ret,υ,L2,rfl,hq,pD⟩,.pass (x:=.inLoop b) rfl (λ_ _=>.inl (by simp[Ex.to])) sL⟩
def Lq{id : Nat} : ∀ {k k' : List Item},exitTo id k=some k'->k'.length<=k.length
  | [],_,h => by simp[exitTo]at h
  |x::k,k',h => by
    cases x
    all_goals
      simp only[exitTo]at h
      first
        | (have := Lq h;simp only[cE];omega)
        | (split at h
           . cases h;simp
           . have := Lq h;simp only[cE];omega)
def Steps.KH{m m1 m':Machine}(hs:step P m = .next m1)(jQ:m≠m')(h:Steps P m m'):Steps P m1 m':=by
 obtain⟨n,hn⟩:=h;cases n with
 |zero=>simp only[runN,Stepped.next.injEq]at hn;exact absurd hn jQ
 |succ n=>exact⟨n,by simpa only[runN,hs]using hn⟩
def sF.agt{b:Code}{σ:PS}{Q:Ex->PS->Prop}(h:Sp P K (.loop b) σ Q):sF P K b σ Q:=by
 intro w0 B a w L g r bf k cs;obtain⟨e,a',w',⟨ex,τ,L',rfl,hq,hr⟩,sL⟩:=h w0 B a w L g r bf k cs;have todo:∀ (f g:Frame) (w w':World),lone f cs w=lone g cs w'->f.todo=g.todo:=λf g w w' e=>by
  have e1:=congrArg Machine.gs e;simp only[lone,Array.mk.injEq,List.cons.injEq,eZ]at e1;injection e1 with e2;rw[e2]
 have ne:∀ (a₁:Act) (k₁:List Item) (w₁:World),k₁.length<=k.length->lone (bf.at a (.code (.loop b)::k)) cs w≠lone (bf.at a₁ k₁) cs w₁:=λa₁ k₁ w₁ hk e=>by
  have:=congrArg List.length (todo _ _ _ _ e);simp[Frame.at]at this;omega
 refine⟨_,a',w',⟨ex,τ,L',rfl,hq,hr⟩,?_⟩;cases ex with
 |normal=>exact Steps.KH step_loop (ne _ _ _ (bl _)) sL
 |exit i=>exact λk' hk=>Steps.KH step_loop (ne _ _ _ (Lq hk)) (sL k' hk)
 |ret=>
  obtain⟨td,hs⟩:=sL;refine⟨td,Steps.KH step_loop (λe=>?_) hs⟩;have e1:=congrArg Machine.gs e;simp only[lone,Array.mk.injEq,List.cons.injEq,eZ]at e1;injection e1 with e2;have e3:=congrArg Frame.mode e2;simp[Frame.at]at e3
def D4(hT:lE P T)(hm:P.follows .mixedOrders=true){c:Code}{σ:PS}{t:Tr P K}{k:Ex->PS->Tr P K->R}(h:(ug T c σ t k).ok):Sp P K c σ (λe τ=>∃ t',(k e τ t').ok):=by
 induction c generalizing σ t k with
 |skip=>exact λw0 B a w L g r=>wp_skip ⟨.normal,_,L,rfl,⟨t,h⟩,r⟩
 |region id gX d=>
  obtain⟨vs,τ,t',h1,h2,h3,h4⟩:=agJ h;split at h4
  .rename_i hp;simp only[ep,List.reverse_reverse]at hp;exact λw0 B a w L g r=>ahw hT hm g h1 h2 h3 hp r λa' w' L' hr=>⟨.normal,τ,L',rfl,⟨t',h4⟩,hr⟩
  .exact h4.elim
 |seq x y ML MM=>
  intro w0 B a w L g r;refine wp_seq (Code.wp_mono ?_ (ML h w0 B a w L g r));rintro ex a' w' ⟨e1,τ1,L',rfl,⟨t',ht⟩,hr⟩;cases e1 with
  |normal=>exact MM ht w0 B a' w' L' g hr
  |exit i=>exact⟨.exit i,τ1,L',rfl,⟨t',ht⟩,hr⟩
  |ret=>exact⟨.ret,τ1,L',rfl,⟨t',ht⟩,hr⟩
 |cond c x y ML MM=>
  obtain⟨t1,τ,hle,h1⟩:=BA h;refine Sp.pre hle (TH (λσ t k h=>?_) h1);obtain⟨t1,τ,hle,h1⟩:=BA h;refine Sp.pre hle ?_;split at h1
  .rename_i hc;intro w0 B a w L g r;have hv:=r.op c;rw[hc]at hv;exact wp_cond_true (iC.kD hv) (ML h1 w0 B a w L g r)
  .rename_i hc;intro w0 B a w L g r;have hv:=r.op c;rw[hc]at hv;exact wp_cond_false (iC.kD hv) (MM h1 w0 B a w L g r)
  .exact h1.elim
 |block id b ih=>
  obtain⟨t1,τ,hle,h1⟩:=BA h;refine Sp.pre hle (TH (λσ t k h=>?_) h1);intro w0 B a w L g r;refine wp_block (Code.wp_mono ?_ (ih h w0 B a w L g r));rintro ex a' w' ⟨e1,τ1,L',rfl,⟨t',ht⟩,hr⟩;cases e1 with
  |normal=>exact⟨.normal,_,L',rfl,⟨t',ht⟩,hr⟩
  |ret=>exact⟨.ret,_,L',rfl,⟨t',ht⟩,hr⟩
  |exit i=>
   simp only at ht;show Exit.inBlock id _ (.exit i) a' w';split at ht
   .rename_i hi;have hi:=kz.1 hi;subst hi;simp only[Exit.inBlock,bC];exact⟨.normal,_,L',rfl,⟨t',ht⟩,hr⟩
   .rename_i hi;have hi:i≠id:=λe=>hi (kz.2 e)
    simp only[Exit.inBlock,hi,bB];exact⟨.exit i,_,L',rfl,⟨t',ht⟩,hr⟩
 |label l=>exact λw0 B a w L g r=>wp_label ⟨.normal,_,L,rfl,⟨t,h⟩,r⟩
 |scope b ih=>
  intro w0 B a w L g r;refine wp_scope_straight (Code.wp_mono ?_ (ih h w0 B a w L g r));rintro ex a' w' ⟨e1,τ1,L',rfl,⟨t',ht⟩,hr⟩;cases e1 with
  |normal=>exact⟨.normal,τ1,L',rfl,⟨t',ht⟩,hr⟩
  |ret=>exact⟨.ret,τ1,L',rfl,⟨t',ht⟩,hr⟩
  |exit i=>exact⟨.exit i,τ1,L',rfl,⟨t',ht⟩,hr⟩
 |exit id=>
  obtain⟨t1,τ,hle,h1⟩:=BA h;exact Sp.pre hle λw0 B a w L g r=>wp_exit ⟨.exit id,_,L,rfl,⟨t1,h1⟩,r⟩
 |ret=>
  obtain⟨t1,τ,hle,h1⟩:=BA h;exact Sp.pre hle λw0 B a w L g r=>wp_ret ⟨.ret,_,L,rfl,⟨t1,h1⟩,r⟩
 |loop b ih=>
  obtain⟨t1,τ,hle,h1⟩:=BA h;refine Sp.pre hle ?_;split at h1
  .rename_i n t;clear hle h;refine sF.loop ?_
   induction n generalizing τ t with
   |zero=>exact h1.elim
   |succ n ihn=>
    obtain⟨t2,τ2,hle,h1⟩:=BA h1;split at h1
    .exact sF.pre hle (sF.agt (WL h1))
    refine sF.pre hle (sF.step ((ih h1).mono λe υ ⟨t',ht⟩=>?_));cases e with
    |normal=>exact .inl ⟨rfl,ihn _ _ ht⟩
    |exit i=>exact .inr ⟨aF,t',ht⟩
    |ret=>exact .inr ⟨aF,t',ht⟩
  .exact WL h1
 |_=>exact h.elim
def Sp.tr(hT:lE P T)(hm:P.follows .mixedOrders=true){c:Code}{σ τ:PS}{e:Ex}(t:Tr P K)(h:ug T c σ t (D3 e τ)=t.ex λt=>Dh τ t .nil):
 Sp P K c σ (λe' τ'=>e'=e/\τ'=τ):=by
 have hk:=Tr.D5 (fin:=λt=>Dh τ t .nil) (λt=>Ot trivial) t;rw[<-h]at hk;refine(D4 hT hm hk).post λe' υ ⟨t',ht⟩=>?_
 obtain⟨he,hl⟩:=Q2 ht;exact⟨τ,hl,he,rfl⟩
def Ro(T:List TI)(fn:Func)(jk:E)(e:Ex)(τ:PS)(_:Tr P K):R:=match e with
 | .exit _=>.bad
 |_=>match Jz T fn τ with
  |some r=>.a (E.le r jk) .nil
  |none=>.bad
def Od(T:List TI)(fn:Func)(nl:Bool)(args:List E)(jk:E)(t:Tr P K):R:=match fn.body with
 |some c=>if Nat.ble args.length fn.ntmps then ug T c (yM fn nl args) t (Ro T fn jk)else .bad
 |none=>.bad
def PC.BW(hT:lE P T)(hm:P.follows .mixedOrders=true)(hp:∀ w w',K w->Below w.heap.size w w'->K w'){f:FuncId}{fn:Func}{args:List E}{jk:E}(qj:∀ (vs:Array Value) (w:World),(callFunc f vs).run P w = .ok (.enter f vs) w)
 (hf:P.funcs[f]? = some fn) (nl:Bool) (t:Tr P K) (h:Od T fn nl args jk t=t.ex λ_=>.a (E.le jk jk) .nil):PC P K f args jk:=by
 have hk:=Tr.D5 (fin:=λ_=>.a (E.le jk jk) .nil) (λt=>⟨E.le.refl jk,trivial⟩) t;rw[<-h]at hk;unfold Od at hk;split at hk
 .rename_i c hb;split at hk
  .rename_i hn;refine PC.Bu hT hm hp qj hf hb (cA hn) nl ((D4 hT hm hk).mono λe τ ⟨t',ht⟩=>?_);unfold Ro at ht;split at ht
   .exact ht.elim
   .rename_i jQ;split at ht
    .rename_i r hr;refine⟨?_,r,hr,ht.1⟩;cases e with
     |normal=>exact .inr rfl
     |ret=>exact .inl rfl
     |exit i=>exact absurd rfl (jQ i)
    .exact ht.elim
  .exact hk.elim
 .exact hk.elim
def Lx(fn:Func)(b:Bx)(e:Ex)(τ:PS)(_:Tr P K):R:=match e with
 | .exit _=>.bad
 |_=>match fn.results.toList with
  | [.tmp t]=>match τ.get t with
   | .own id=>match τ.bo id with
    |some c=>.a (Bx.le c b) .nil
    |none=>.bad
   |_=>.bad
  |_=>.bad
def Dc(T:List TI)(fn:Func)(args:List E)(b:Bx)(t:Tr P K):R:=match fn.body with
 |some c=>if Nat.ble args.length fn.ntmps then ug T c (yM fn true args) t (Lx fn b)else .bad
 |none=>.bad
def tZ.BW(hT:lE P T)(hm:P.follows .mixedOrders=true)(hp:∀ w w',K w->Below w.heap.size w w'->K w'){f:FuncId}{fn:Func}{args:List E}{nl:Bool}{T0:TypeId}{n sz:Nat}{el:Nat->Nat->E}(qj:∀ (vs:Array Value) (w:World),(callFunc f vs).run P w = .ok (.enter f vs) w)
 (hf:P.funcs[f]? = some fn) (t:Tr P K) (h:Dc T fn args (.row nl T0 n sz el) t=t.ex λ_=>.a (Bx.le (.row nl T0 n sz el) (.row nl T0 n sz el)) .nil):tZ P K f args nl T0 n sz el:=by
 have hk:=Tr.D5 (fin:=λ_=>.a (Bx.le (.row nl T0 n sz el) (.row nl T0 n sz el)) .nil) (λt=>⟨Bx.le.refl _,trivial⟩) t;rw[<-h]at hk;unfold Dc at hk;split at hk
 .rename_i c hb;split at hk
  .rename_i hn;refine tZ.Bu hT hm hp qj hf hb (cA hn) true ((D4 hT hm hk).mono λe τ ⟨t',ht⟩=>?_);unfold Lx at ht;split at ht
   .exact ht.elim
   .rename_i jQ;split at ht
    .rename_i t0 hr;split at ht
     .rename_i id hg;split at ht
      .rename_i c' hc;refine⟨?_,t0,id,c',hr,hg,hc,λbs br L w hk=>ht.1.2 _ _ _ _ _ hk⟩;cases e with
       |normal=>exact .inr rfl
       |ret=>exact .inl rfl
       |exit i=>exact absurd rfl (jQ i)
      .exact ht.elim
     .exact ht.elim
    .exact ht.elim
  .exact hk.elim
 .exact hk.elim
def vX.BW(hT:lE P T)(hm:P.follows .mixedOrders=true)(hp:∀ w w',K w->Below w.heap.size w w'->K w'){f:FuncId}{fn:Func}{args:List E}{nl:Bool}{T1 T0:TypeId}{n sz:Nat}{len:Nat->Nat}{el:Nat->Nat->Nat->E}(qj:∀ (vs:Array Value) (w:World),(callFunc f vs).run P w = .ok (.enter f vs) w)
 (hf:P.funcs[f]? = some fn) (t:Tr P K) (h:Dc T fn args (.il nl T1 T0 n sz len el none) t=t.ex λ_=>.a (Bx.le (.il nl T1 T0 n sz len el none) (.il nl T1 T0 n sz len el none)) .nil):vX P K f args nl T1 T0 n sz len el:=by
 have hk:=Tr.D5 (fin:=λ_=>.a (Bx.le (.il nl T1 T0 n sz len el none) (.il nl T1 T0 n sz len el none)) .nil) (λt=>⟨Bx.le.refl _,trivial⟩) t;rw[<-h]at hk;unfold Dc at hk;split at hk
 .rename_i c hb;split at hk
  .rename_i hn;refine vX.Bu hT hm hp qj hf hb (cA hn) true ((D4 hT hm hk).mono λe τ ⟨t',ht⟩=>?_);unfold Lx at ht;split at ht
   .exact ht.elim
   .rename_i jQ;split at ht
    .rename_i t0 hr;split at ht
     .rename_i id hg;split at ht
      .rename_i c' hc;refine⟨?_,t0,id,c',hr,hg,hc,λbs br L w hk=>ht.1.2 _ _ _ _ _ hk⟩;cases e with
       |normal=>exact .inr rfl
       |ret=>exact .inl rfl
       |exit i=>exact absurd rfl (jQ i)
      .exact ht.elim
     .exact ht.elim
    .exact ht.elim
  .exact hk.elim
 .exact hk.elim
def Rn(T:List TI)(fn:Func)(bx:Bx)(jk:E)(e:Ex)(τ:PS)(_:Tr P K):R:=match e with
 | .exit _=>.bad
 |_=>match fn.results.toList with
  | [.cell q t]=>match BI T τ (.cell q t),τ.bo fn.ntmps with
   |some r,some c=>.a (Bx.le c bx) (.a (E.le r jk) .nil)
   |_,_=>.bad
  |_=>.bad
def Db(T:List TI)(fn:Func)(Tv:TypeId)(b:Nat)(l l' args:List E)(jk:E)(t:Tr P K):R:=match fn.body with
 |some c=>if Nat.ble (args.length+1) fn.ntmps then ug T c (Be fn Tv b l args) t (Rn T fn (.mS Tv b l') jk)else .bad
 |none=>.bad
def tY.BW(hT:lE P T)(hm:P.follows .mixedOrders=true){f:FuncId}{fn:Func}{Tv:TypeId}{l l' args:List E}{jk:E}(qj:∀ (vs:Array Value) (w:World),(callFunc f vs).run P w = .ok (.enter f vs) w)
 (hf:P.funcs[f]? = some fn) (ha:(l.all E.mc&&(l.all (E.nr 3)&&(args.all (E.nr 3)&&l'.all (E.nr 3))))=true) (t:Nat->Tr P K)
 (h:∀ b,Db T fn Tv b l l' args jk (t b)=(t b).ex λ_=>.a (Bx.le (.mS Tv b l') (.mS Tv b l')) (.a (E.le jk jk) .nil)):tY P K f Tv l l' args jk:=by
 simp only[bF]at ha;have hk:=λb=>Tr.D5 (fin:=λ_=>.a (Bx.le (.mS Tv b l') (.mS Tv b l')) (.a (E.le jk jk) .nil)) (λt=>⟨Bx.le.refl _,E.le.refl jk,trivial⟩) (t b)
 have hk:∀ b,(Db T fn Tv b l l' args jk (t b)).ok:=λb=>by rw[h b];exact hk b
 cases hb:fn.body with
 |none=>
  have:=hk 0;unfold Db at this;rw[hb]at this;exact this.elim
 |some c=>
  have hn:Nat.ble (args.length+1) fn.ntmps=true:=by
   have:=hk 0;unfold Db at this;rw[hb]at this;simp only at this;split at this
   .assumption
   .exact this.elim
  refine tY.Bu hT hm qj hf hb (cA hn) ha.1 ha.2.1 ha.2.2.1 ha.2.2.2 λb=>?_
  have jN:=hk b;unfold Db at jN;rw[hb]at jN;simp only[hn,bC]at jN;refine(D4 hT hm jN).mono λe τ ⟨t',ht⟩=>?_
  unfold Rn at ht;split at ht
  .exact ht.elim
  .rename_i jQ;split at ht
   .rename_i q t0 hr;split at ht
    .rename_i r c' h1 h2;refine⟨?_,q,t0,r,hr,h1,λbs br w v hv=>ht.2.1 _ _ _ _ hv,c',h2,λbs br L w id hk=>ht.1.2 _ _ _ _ _ hk⟩;cases e with
     |normal=>exact .inr rfl
     |ret=>exact .inl rfl
     |exit i=>exact absurd rfl (jQ i)
    .exact ht.elim
   .exact ht.elim
def Sp.jE{b:Code}{e:Ex}{τ:PS}(f:Nat->PS)(lo hi:Nat)(h0:lo<=hi)(go:∀ x,(lo<=x/\x<=hi)->x<hi->Sp P K b (f x) (λe' υ=>e' = .normal/\υ=f (x+1)))
 (out:(lo<=hi/\hi<=hi)->Sp P K b (f hi) (λe' υ=>e'=e/\υ=τ)) (he:e ≠ .normal):Sp P K (.loop b) (f lo) (λe' υ=>e'=e/\υ=τ):=by
 refine Sp.fam f (λx=>lo<=x/\x<=hi) (λx=>hi-x) (λx hx=>?_) lo ⟨bl _,h0⟩ (PS.le.refl _);rcases Nat.lt_or_eq_of_le hx.2 with iJ|heq
 .exact Sp.abA (x+1) (go x hx iJ) ⟨aA,aA⟩ aA (PS.le.refl _)
 .subst heq;exact Sp.abB (out hx) he (PS.le.refl _)
def iA(z:Int)(h:-9223372036854775808<=z/\z<=9223372036854775807):Tr P K->Tr P K:=.a (p:=kQ .i64 z) h
def BN(z:Int)(h:0<=z/\z<=18446744073709551615):Tr P K->Tr P K:=.a (p:=kQ .u64 z) h
def iX(z:Int)(n:Nat)(h:0<=z/\z<n):Tr P K->Tr P K:=.a h
def tB(d:Nat){a b:Bool}(h:a=b):Tr P K->Tr P K:=.o d (PV.le.bool h)
def ag(d:Nat)(a:Bool)(h:a=true):Tr P K->Tr P K:=tB d h
def ah(d:Nat)(a:Bool)(h:a=false):Tr P K->Tr P K:=tB d h
def tT(d:Nat)(p:Prop)[Decidable p](h:p):Tr P K->Tr P K:=.o d (PV.le.bool (bn h))
def tF(d:Nat)(p:Prop)[Decidable p](h:¬p):Tr P K->Tr P K:=.o d (PV.le.bool (bp h))
def YN{b:Bool}(h:b=true):(!b)=false:=by rw[h];rfl
def YM{b:Bool}(h:b=false):(!b)=true:=by rw[h];rfl
def rQ(p q:E)(h:p=q):Tr P K:=.r (E.le.iD h)
def rR(q:E){p:E}(h:E.le p q):Tr P K:=.r h
def aa(l:List (Tr P K->Tr P K))(t:Tr P K):Tr P K:=l.foldr (λf t=>f t) t
def ae(l:List (Tr P K->Tr P K)):Tr P K:=aa l .nil
end
end Go.Proofs.YtjkmahljfblobaaGreatDoor.Pu
namespace Go.Proofs.YtjkmahljfblobaaGreatDoor
open Go.RowKit Fp Pu
def tr(nl:Bool){f:FuncId}{fn:Func}{args:List E}{jk:E}(qj:∀ (vs:Array Value) (w:World),(callFunc f vs).run prog w = .ok (.enter f vs) w)
 (hf:prog.funcs[f]? = some fn) (t:Tr prog Tb) (h:Od TT fn nl args jk t=t.ex λ_=>.a (E.le jk jk) .nil):gW f args jk:=
 PC.BW yd mixed Ku qj hf nl t h
def af(args:List E){f:FuncId}{ko:E}(h:gW f args ko):Tr prog Tb->Tr prog Tb:=.c h
def aj{f:FuncId}{fn:Func}{args:List E}{jk:E}(qj:∀ (vs:Array Value) (w:World),(callFunc f vs).run prog w = .ok (.enter f vs) w)
 (hf:prog.funcs[f]? = some fn) (t:Tr prog Tb) (h:Od TT fn true args jk t=t.ex λ_=>.a (E.le jk jk) .nil:=by kernel_rfl):gW f args jk:=tr true qj hf t h
def ak{f:FuncId}{fn:Func}{args:List E}{jk:E}(qj:∀ (vs:Array Value) (w:World),(callFunc f vs).run prog w = .ok (.enter f vs) w)
 (hf:prog.funcs[f]? = some fn) (t:Tr prog Tb) (h:Od TT fn false args jk t=t.ex λ_=>.a (E.le jk jk) .nil:=by kernel_rfl):gW f args jk:=tr false qj hf t h
def iF{c:Code}{σ τ:PS}{e:Ex}(t:Tr prog Tb)(h:ug TT c σ t (D3 e τ)=t.ex λt=>Dh τ t .nil):
 Sp prog Tb c σ (λe' τ'=>e'=e/\τ'=τ):=Sp.tr yd mixed t h
abbrev jA(k:Nat)(fn:Func)(σ:PS)(e:Ex)(τ:PS):Prop:=Sp prog Tb (.loop (YP k fn)) σ (λe' τ'=>e'=e/\τ'=τ)
abbrev jh(xs:List Iv):Nat->Nat->E:=λi j=>(iQ (xs.getD i gZ)).getD j .any
abbrev nb(M:List (List Iv)):Nat->Nat->E:=λi _=>hH (M.getD i [])
abbrev jx(M:List (List Iv)):Nat->Nat:=λq=>(M.getD q []).length
abbrev kp(M:List (List Iv)):Nat->Nat->Nat->E:=λq i j=>(iQ ((M.getD q []).getD i gZ)).getD j .any
def xE(x:Iv)(j:Nat)(hj:j<7):((iQ x).getD j .any).nr 2=true:=by
 rcases j with _|_|_|_|_|_|_|j
 all_goals first|rfl|omega
def EY(xs:List Iv):(hH xs).nr 2=true:=rfl
def MU{T n:Nat}{xs:List Iv}{y:Iv}(hn:n=xs.length):
 Bx.le (.row true T (n+[y].length) 7 λi j=>if i<n then jh xs i j else(E.iS (hH [y])) (i-n) j) (.row true T (xs++[y]).length 7 (jh (xs++[y]))):=by
 subst hn;refine .row aF λi j hi hj=>⟨.iD ?_,xE _ _ hj⟩
 by_cases h:i<xs.length
 .rw [bj h];show(iQ (xs.getD i gZ)).getD j .any=(iQ ((xs++[y]).getD i gZ)).getD j .any;congr 2;simp[bk,dg h]
 .have kI:i=xs.length:=by simp at hi;omega
  subst kI;rw[bh h,cV];show(iQ y).getD j .any=(iQ ((xs++[y]).getD xs.length gZ)).getD j .any;congr 2;simp[bk]
def jc(n:Nat)(c:Nat->Nat)(F:Nat->Nat->Iv)(x k:Nat):List (List Iv):=(List.range n).map λq=>(List.range (if q<x then c q else if q=x then k else 0)).map (F q)
def qv(n:Nat)(c:Nat->Nat)(F:Nat->Nat->Iv):List (List Iv):=(List.range n).map λq=>(List.range (c q)).map (F q)
def GF(n:Nat)(c:Nat->Nat)(F:Nat->Nat->Iv)(x k:Nat):(jc n c F x k).length=n:=by simp[jc]
def DN{n:Nat}{c:Nat->Nat}{F:Nat->Nat->Iv}{x k q:Nat}(h:q<n):(jc n c F x k).getD q []=(List.range (if q<x then c q else if q=x then k else 0)).map (F q):=by
 simp[jc,bk,h]
def IL{n x k:Nat}{c:Nat->Nat}{F:Nat->Nat->Iv}(h:x<n):jx (jc n c F x k) x=k:=by simp only[jx,DN h];simp
def nS{α:Type}(y:α):[y].length=1:=rfl
def rN{n i:Nat}{F:Nat->Iv}(h:i<n):((List.range n).map F).getD i gZ=F i:=by
 simp[bk,h]
def JJ{T1 T0 n n':Nat}{c:Nat->Nat}{F:Nat->Nat->Iv}(hn:n=n'):Bx.le (.il true T1 T0 n 7 (λ_=>0) (λ_ _ _=>.any) .none) (.il true T1 T0 n' 7 (jx (jc n' c F 0 0)) (kp (jc n' c F 0 0)) .none):=by
 subst hn;refine .il rfl (λk hk=>?_) (λk i j hk hi hj=>absurd hi (bu i));show 0=((jc n c F 0 0).getD k []).length;rw[DN hk];simp
def F1{T1 T0 n n' m x k:Nat}{c:Nat->Nat}{F:Nat->Nat->Iv}{y:Iv}(hn:n=n')(hm:m=n)(hx:x<n)(hy:y=F x k):
 Bx.le (.il true T1 T0 n 7 (λq=>if q=x then jx (jc m c F x k) q+[y].length else jx (jc m c F x k) q)
  (λq i j=>if q=x then(if i<jx (jc m c F x k) q then kp (jc m c F x k) q i j else(E.iS (hH [y])) (i-jx (jc m c F x k) q) j)else kp (jc m c F x k) q i j) .none)
  (.il true T1 T0 n' 7 (jx (jc m c F x (k+1))) (kp (jc m c F x (k+1))) .none):=by
 subst hn hm hy;have hl:∀ q,q<m->(if q=x then jx (jc m c F x k) q+[F x k].length else jx (jc m c F x k) q)=jx (jc m c F x (k+1)) q:=by
  intro q hq;simp only[jx,DN hq,cU,dB,cE,dR];by_cases h1:q=x
  .subst h1;simp
  .simp [h1]
 refine .il rfl hl (λq i j hq hi hj=>⟨.iD ?_,xE _ _ hj⟩);by_cases h1:q=x
 .subst h1;rw[bj rfl]at hi ⊢;simp only[jx,kp,DN hq,cU,dB,cE,dR,akj,bB,bC]at hi ⊢;by_cases h2:i<k
  .rw [bj h2,rN h2,rN aA]
  .have:i=k:= aA ;subst this;rw[bh h2,cV,rN aA];rfl
 .rw [bh h1]at hi ⊢;simp only[jx,kp,DN hq,cU,dB,h1,bB]at hi ⊢
def JK{T1 T0 n n' m x:Nat}{c:Nat->Nat}{F:Nat->Nat->Iv}(hn:n=n'):Bx.le (.il true T1 T0 n 7 (jx (jc m c F x (c x))) (kp (jc m c F x (c x))) .none) (.il true T1 T0 n' 7 (jx (jc m c F (x+1) 0)) (kp (jc m c F (x+1) 0)) .none):=by
 subst hn;have:jc m c F x (c x)=jc m c F (x+1) 0:=by
  unfold jc;congr 1;funext q;congr 2;by_cases h:q<x
  .rw [bj h,bj aA]
  .by_cases h2:q=x
   .subst h2;rw[bh h,bj rfl,bj aA]
   .rw [bh h,bh h2,bh aA];split<;>rfl
 rw[this];exact .refl _
def GD(n:Nat)(c:Nat->Nat)(F:Nat->Nat->Iv):jc n c F n 0=qv n c F:=by
 unfold jc qv;apply dx;intro q hq;rw[bj (bJ.1 hq)]
def Fk{n:Nat}{M:List (List Iv)}(hn:n=M.length):E.le (.sl true n 1 λk _=>.sl true (jx M k) 7 (kp M k)) (iW M):=by subst hn;exact .refl _
end Go.Proofs.YtjkmahljfblobaaGreatDoor
namespace Go.Proofs.YtjkmahljfblobaaGreatDoor.Fp
section
variable {a b:Dy} {k:Int}
end
def acs{m gm p:Nat}{e ge K:Int}(hp:1<=p)(hg:iy gm<=p)(tq:-16384<=ge)(k1:K<=e)(k2:K<=ge)
 (h:gm*2^(ge-K).toNat<=m*2^(e-K).toNat):gm*2^(ge-K).toNat<=lj m e false p false*2^(e+jJ m e p-K).toNat:=by
 have hq:lj m e false p false=m/2^jJ m e p:=by unfold lj;simp
 rw[hq];have hm:=cQ m (2^jJ m e p);have hr:=bI m (bD (n:=jJ m e p) (aC:0<2));obtain⟨k,hk⟩:∃ k,k=jJ m e p:=⟨_,rfl⟩
 rw[<-hk]at hm hr ⊢;have e1:(e+(k:Int)-K).toNat=k+(e-K).toNat:= aA ;rw[e1,bA];generalize hE:2^(e-K).toNat=E at *
 have LM:0<E:=by rw[<-hE];exact bD aC 
 have hmE:m*E<(m/2^k+1)*(2^k*E):=by
  rw[<-bE];refine dF ?_ LM;rw[bS,cj,bM];omega
 by_cases hc:e+k<=ge
 .
  have e2:(ge-K).toNat=(ge-(e+k)).toNat+(k+(e-K).toNat):= aA ;rw[e2,bA,bA 2 k,hE]at h ⊢;rw[<-bE]at h ⊢;generalize gm*2^(ge-(e+k)).toNat=g at *
  have:g<m/2^k+1:=by
   apply ch;intro h';have:=bN (2^k*E) (aA:m/2^k+1<=g);omega
  exact bN _ aA 
 .by_cases rf:k=0
  .subst rf;rw[cR,fG,cj];exact h
  .
   have hb:(iy m:Int)-p=k:=by unfold jJ at hk;omega
   have rh:m≠0:=by intro h0;rw[h0]at hb;simp[iy]at hb;omega
   have h1:=s9 rh;have h2:2^(iy m-1-k)<=m/2^k:=by
    rw[dq (bD aC),<-bA];exact bK (b9 aC (by have:=qf rh;omega)) h1
   have h3:gm<2^p:=mv.1 hg;refine bK (bN _ (dU h3)) (bK ?_ (bN _ h2));rw[<-hE,<-bA,<-bA,<-bA];exact b9 aC aA 
def RQ{m gm p:Nat}{e ge K:Int}(hp:1<=p)(hg:iy gm<=p)(tq:-16384<=ge)(k1:K<=e)(k2:K<=ge)
 (h:m*2^(e-K).toNat<=gm*2^(ge-K).toNat):lj m e false p true*2^(e+jJ m e p-K).toNat<=gm*2^(ge-K).toNat:=by
 have hq0:lj m e false p false=m/2^jJ m e p:=by unfold lj;simp
 have Ey:lj m e false p true=m/2^jJ m e p+if m%2^jJ m e p≠0 then 1 else 0:=by unfold lj;simp
 have hm:=cQ m (2^jJ m e p);obtain⟨k,hk⟩:∃ k,k=jJ m e p:=⟨_,rfl⟩
 rw[Ey];rw[<-hk]at hm ⊢;have e1:(e+(k:Int)-K).toNat=k+(e-K).toNat:= aA ;rw[e1,bA];generalize hE:2^(e-K).toNat=E at *
 have LM:0<E:=by rw[<-hE];exact bD aC 
 by_cases hr:m%2^k=0
 .rw [bh aA,bW,<-bE];refine bK (fp ?_) h;congr 1;rw[bM];omega
 .rw [bj hr];have rf:k≠0:=by intro h0;rw[h0,cR,dO]at hr;exact hr rfl
  have iJ:m/2^k*(2^k*E)<gm*2^(ge-K).toNat:=by
   refine bO ?_ h;rw[<-bE];refine dF ?_ LM;rw[bM];omega
  by_cases hc:e+k<=ge
  .have e2:(ge-K).toNat=(ge-(e+k)).toNat+(k+(e-K).toNat):= aA ;have e3:gm*2^(ge-K).toNat=gm*2^(ge-(e+k)).toNat*(2^k*E):=by rw[e2,bA,bA 2 k,hE,bE]
   rw[e3]at iJ ⊢;generalize gm*2^(ge-(e+k)).toNat=g at *
   have:m/2^k<g:=akF iJ;exact bN _ this
  .
   exfalso;have hb:(iy m:Int)-p=k:=by unfold jJ at hk;omega
   have rh:m≠0:=by intro h0;rw[h0]at hr;simp at hr
   have h1:=s9 rh;have Hv:=qf rh;have h3:gm<2^p:=mv.1 hg;have h4:gm*2^(ge-K).toNat<=2^(iy m-1)*E:=by
    refine bK (bN _ (dU h3)) ?_;rw[<-hE,<-bA,<-bA];exact b9 aC aA 
   have h5:2^(iy m-1-k)<=m/2^k:=by
    rw[dq (bD aC),<-bA];exact bK (b9 aC aA) h1
   have h6:2^(iy m-1)*E<=m/2^k*(2^k*E):=by
    rw[<-bE];refine bN _ ?_;have:=bN (2^k) h5;rw[<-bA]at this;exact bK (b9 aC aA) this
   omega
def P2(k:Int):Rat:=(2:Rat)^k
def vf(k:Int):0<P2 k:=Rat.zpow_pos aC 
def B3(a b:Int):P2 (a+b)=P2 a*P2 b:=Rat.zpow_add aC a b
def Gk(n:Nat):P2 (n:Int)=((2^n:Nat):Rat):=by unfold P2;rw[Rat.zpow_natCast];simp
def XF:P2 0=1:=by have:=Gk 0;simpa using this
def Gl{e k:Int}(h:k<=e):P2 e=((2^(e-k).toNat:Nat):Rat)*P2 k:=by
 rw[<-Gk,<-B3];congr 1;omega
def Ns{x y:Rat}(k:Int):x*P2 k<=y*P2 k↔x<=y:=
 ⟨λh=>Rat.le_of_mul_le_mul_right h (vf k),λh=>fH h (dV (vf k))⟩
def uL{m n:Nat}{e f K:Int}(h1:K<=e)(h2:K<=f):(m:Rat)*P2 e<=(n:Rat)*P2 f↔m*2^(e-K).toNat<=n*2^(f-K).toNat:=by
 rw[Gl h1,Gl h2,<-gv,<-gv,Ns,<-eH,<-eH,Rat.natCast_le_natCast]
def Dy.q(d:Dy):Rat:=((d.num d.e:Int):Rat)*P2 d.e
def vN{d:Dy}{k:Int}(h:qe d k):d.q=((d.num k:Int):Rat)*P2 k:=by
 unfold Dy.q;rcases h with h|h
 .rw [vK h,vK h];simp
 .rw [Jd h (cB _),Gl h,<-gv,Rat.intCast_mul,akk]
def s7(a b:Dy):ke a b<=0↔a.q<=b.q:=by
 obtain⟨k,ka,kb⟩:∃ k:Int,k<=a.e/\k<=b.e:=⟨min a.e b.e,aA,aA⟩
 rw[sw (.inr ka) (.inr kb),vN (.inr ka),vN (.inr kb),Ns,Rat.intCast_le_intCast]
def V0(a b:Dy):ke a b<0↔a.q<b.q:=by
 have h:=s7 b a;rw[GN b a]at h;constructor
 .intro h1;apply Rat.not_le.1;intro h2;have:=h.2 h2;omega
 .intro h1;apply ch;intro h2;exact Rat.not_le.2 h1 (h.1 aA)
def aha(a b:Dy):(iR a b).q=a.q+b.q:=by
 obtain⟨k,ka,kb⟩:∃ k:Int,k<=a.e/\k<=b.e:=⟨min a.e b.e,aA,aA⟩
 rw[vN (Gq (.inr ka) (.inr kb)),vN (.inr ka),vN (.inr kb),J0 (.inr ka) (.inr kb),Rat.intCast_add,Rat.add_mul]
def y8(a:Dy):(kB a).q = -a.q:=by
 rw[vN (Ky (.inr (cB a.e))),NI,akl,Rat.neg_mul];rfl
def vO(s:Bool)(m:Nat)(e:Int):(canon s m e).q=if s then -((m:Rat)*P2 e)else(m:Rat)*P2 e:=by
 rw[vN (zo (cB e)),Bw (cB e)];have:(e-e).toNat=0:= aA ;rw[this];cases s<;>simp[akl,Rat.neg_mul,akk]
def vP(a:Dy):a.q=if a.neg then -((a.m:Rat)*P2 a.e)else(a.m:Rat)*P2 a.e:=by
 unfold Dy.q Dy.num Dy.jH;have:(a.e-a.e).toNat=0:= aA ;rw[this];cases a.neg<;>simp[akl,Rat.neg_mul,akk]
def Jq(a b:Dy):(BD a b).q=a.q*b.q:=by
 unfold BD;rw[vO,vP a,vP b,B3,eH];cases a.neg<;>cases b.neg<;>simp<;>grind
def Ak:iL.q=0:=by rw[vP];simp[iL]
def N4(n:Int):(kO n).q=(n:Rat):=by
 unfold kO;rw[vN (k:=0) (Kx (cB 0)),NH (cB 0),XF];simp
def C7(d:Dy):0<=(lS d).q/\d.q<=(lS d).q /\ -d.q<=(lS d).q/\((lS d).q=d.q\/(lS d).q = -d.q):=by
 have h:(lS d).q=(d.m:Rat)*P2 d.e:=by rw[vP];rfl
 have h0:0<=(d.m:Rat)*P2 d.e:=eI fI (dV (vf _));rw[h,vP d];cases d.neg<;>simp<;>grind
def xP(d:Dy):(0<d.kf↔0<d.q)/\(d.kf<0↔d.q<0):=by
 have h:=vf d.e;have hm:d.m≠0->0<(d.m:Rat)*P2 d.e:=λh0=>fJ (akm.2 aA) h
 rw[vP];unfold Dy.kf;by_cases h0:d.m=0
 .simp [h0]
 .have:=hm h0;rw[bh h0];cases d.neg<;>simp<;>grind
def FQ(a b:Dy):a.q<=(jv a b).q/\b.q<=(jv a b).q/\((jv a b).q=a.q\/(jv a b).q=b.q):=
 ⟨(s7 _ _).1 (CX a b),(s7 _ _).1 (afs a b),by unfold jv;split;exact .inr rfl;exact .inl rfl⟩
def C9(a b:Dy):(jy a b).q<=a.q/\(jy a b).q<=b.q/\((jy a b).q=a.q\/(jy a b).q=b.q):=
 ⟨(s7 _ _).1 (Fl a b),(s7 _ _).1 (afA a b),by unfold jy;split;exact .inr rfl;exact .inl rfl⟩
def GM(p:Nat)(g:Rat):Prop:=∃ (m:Nat) (e:Int),iy m<=p /\ -16384<=e/\(iy m:Int)+e<=16384/\g=(m:Rat)*P2 e
def G(p:Nat)(g:Rat):Prop:=GM p g\/GM p (-g)
def GM.Fz{p:Nat}{g:Rat}(h:GM p g):0<=g:=by
 obtain⟨m,e,_,_,_,rfl⟩:=h;exact eI fI (dV (vf _))
def B2(p:Nat):GM p 0:=⟨0,0,by simp[vi],aA,by simp[vi],aF⟩
def G.neg{p:Nat}{g:Rat}(h:G p g):G p (-g):=by
 rcases h with h|h
 .exact .inr (by rw[ff];exact h)
 .exact .inl h
def G.pos{p:Nat}{g:Rat}(h:G p g)(h0:0<=g):GM p g:=by
 rcases h with h|h
 .exact h
 .have:=h.Fz;have:g=0:= aI ;rw[this];exact B2 p
def PG(k:Nat):iy (2^k)=k+1:=yg (bl _) (akd aC aA)
def PF:iy 1=1:=PG 0
section
variable {m p:Nat} {e:Int}
def Xf(hp:1<=p)(ie:p<=4096)(ho:mg m e false p false=true):
 GM p (((2^p-1:Nat):Rat)*P2 (16384-p))/\((2^p-1:Nat):Rat)*P2 (16384-p)<=(m:Rat)*P2 e/\∀ g,GM p g->g<=((2^p-1:Nat):Rat)*P2 (16384-p):=by
 have hpp:2<=2^p:=by
  have:=b9 (n:=2) aC hp;omega
 have hb:iy (2^p-1)=p:=by
  obtain⟨j,rfl⟩:∃ j,p=j+1:=⟨p-1,aA⟩
  have h2:2^(j+1)=2^j*2:=bT _ _;have h3:=bD (n:=j) (aC:0<2);exact yg aA aA 
 refine⟨⟨_,_,fp hb,aA,aA,rfl⟩,?_,?_⟩
 .obtain ⟨c1,c2⟩:=GV m e p;unfold mg at ho;simp only[bF,di]at ho;obtain⟨o1,o2⟩:=ho;have hq:=s9 o1;have Hv:=qf o1;obtain⟨K,k1,k2⟩:∃ K:Int,K<=e/\K<=16384-p:=⟨min e (16384-p),aA,aA⟩
  rw[uL k2 k1];have h1:2^(iy (lj m e false p false)-1)*2^jJ m e p<=m:=bK (bN _ hq) c1;have h2:=bN (2^(e-K).toNat) h1;rw[<-bA,<-bA]at h2;refine bK (bN _ (eA _ _)) (bK ?_ h2);rw[<-bA];exact b9 aC aA 
 .rintro g ⟨gm,ge,b1,b2,b3,rfl⟩;by_cases hc:ge<=16384-p
  .have:gm<2^p:=mv.1 b1;rw[uL (K:=ge) (cB _) hc];have e0:(ge-ge).toNat=0:= aA ;rw[e0,cR,cv];exact bK (aA:gm<=2^p-1) (fS _ (bD aC))
  .rw [uL (K:=16384-p) aA (cB _)];have e0:((16384:Int)-p-(16384-p)).toNat=0:= aA ;rw[e0,cR,cv];have h1:gm<2^(16384-ge).toNat:=by
    by_cases h0:gm=0
    .rw [h0];exact bD aC 
    .exact mv.1 aA 
   have h2:=dF h1 (bD (n:=(ge-(16384-p)).toNat) (aC:0<2));by_cases hg:ge<=16384
   .rw [<-bA,show(16384-ge).toNat+(ge-(16384-(p:Int))).toNat=p by omega]at h2;omega
   .have:gm=0:=by
     rw[show(16384-ge).toNat=0 by omega]at h1;simpa using h1
    rw[this,cH];omega
def Xe(hp:1<=p)(ho:¬mg m e false p false=true):
 GM p (((lj m e false p false:Nat):Rat)*P2 (e+jJ m e p))/\((lj m e false p false:Nat):Rat)*P2 (e+jJ m e p)<=(m:Rat)*P2 e /\
 ∀ g,GM p g->g<=(m:Rat)*P2 e->g<=((lj m e false p false:Nat):Rat)*P2 (e+jJ m e p):=by
 obtain⟨c1,c2⟩:=GV m e p;have hk:-16384<=e+(jJ m e p:Int):=by unfold jJ;omega
 refine⟨?_,?_,?_⟩
 .by_cases h0:lj m e false p false=0
  .rw [h0];simpa using B2 p
  .have hq:lj m e false p false<2^p:=by
    have:=QF m e p;unfold lj;simpa using this
   unfold mg at ho;simp only[cO,h0,eg,fE,ej,di]at ho;exact⟨_,_,mv.2 hq,hk,aA,rfl⟩
 .rw [uL (K:=e) aA (cB _)];rw[show(e-e).toNat=0 by omega,show(e+(jJ m e p:Int)-e).toNat=jJ m e p by omega,cR,cv];exact c1
 .rintro g ⟨gm,ge,b1,b2,b3,rfl⟩ h;obtain⟨K,k1,k2⟩:∃ K:Int,K<=e/\K<=ge:=⟨min e ge,aA,aA⟩
  rw[uL k2 k1]at h;rw[uL (K:=K) k2 aA];exact acs hp b1 b2 k1 k2 h
def PZ(hp:1<=p)(ho:mg m e false p true=true)(g:Rat)(hg:GM p g):¬(m:Rat)*P2 e<=g:=by
 obtain⟨gm,ge,b1,b2,b3,rfl⟩:=hg;intro h;obtain⟨K,k1,k2⟩:∃ K:Int,K<=e/\K<=ge:=⟨min e ge,aA,aA⟩
 rw[uL k1 k2]at h;have h:=RQ hp b1 b2 k1 k2 h;unfold mg at ho;simp only[bF,di]at ho;obtain⟨o1,o2⟩:=ho;have hq:=s9 o1;have Hv:=qf o1;have h3:gm<2^iy gm:=uK gm;have h4:=dF h3 (bD (n:=(ge-K).toNat) (aC:0<2));have h5:=bN (2^(e+(jJ m e p:Int)-K).toNat) hq;rw[<-bA]at h4 h5;have h6:2^(iy gm+(ge-K).toNat)<=2^(iy (lj m e false p true)-1+(e+(jJ m e p:Int)-K).toNat):=b9 aC aA;omega
def PY(hp:1<=p)(ho:¬mg m e false p true=true):
 GM p (((lj m e false p true:Nat):Rat)*P2 (e+jJ m e p))/\(m:Rat)*P2 e<=((lj m e false p true:Nat):Rat)*P2 (e+jJ m e p) /\
 ∀ g,GM p g->(m:Rat)*P2 e<=g->((lj m e false p true:Nat):Rat)*P2 (e+jJ m e p)<=g:=by
 obtain⟨c1,c2⟩:=GV m e p;have hk:-16384<=e+(jJ m e p:Int):=by unfold jJ;omega
 refine⟨?_,?_,?_⟩
 .by_cases h0:lj m e false p true=0
  .rw [h0];simpa using B2 p
  .unfold mg at ho;simp only[cO,h0,eg,fE,ej,di]at ho;rcases Nat.lt_or_eq_of_le (Ql m e false p true)with hq|hq
   .exact ⟨_,_,mv.2 hq,hk,aA,rfl⟩
   .rw [hq]at ho ⊢;rw[PG]at ho;refine⟨1,p+(e+jJ m e p),by rw[PF];exact hp,aA,by rw[PF];omega,?_⟩;rw[B3 (p:Int),Gk p,show((1:Nat):Rat)=1 from rfl,Rat.one_mul]
 .rw [uL (K:=e) (cB _) aA];rw[show(e-e).toNat=0 by omega,show(e+(jJ m e p:Int)-e).toNat=jJ m e p by omega,cR,cv];exact c2
 .rintro g ⟨gm,ge,b1,b2,b3,rfl⟩ h;obtain⟨K,k1,k2⟩:∃ K:Int,K<=e/\K<=ge:=⟨min e ge,aA,aA⟩
  rw[uL k1 k2]at h;rw[uL (K:=K) aA k2];exact RQ hp b1 b2 k1 k2 h
end
def Dn(p:Nat)(v:Rat)(D:Dy)(E:Int):Prop:=(E=0->G p D.q/\D.q<=v)/\∀ g,G p g->g<=v->E=0/\g<=D.q
def Up(p:Nat)(v:Rat)(D:Dy)(E:Int):Prop:=(E=0->G p D.q/\v<=D.q)/\∀ g,G p g->v<=g->E=0/\D.q<=g
def Dn.of{p:Nat}{v w:Rat}{D:Dy}{E:Int}(h:Dn p v D E)(k:∀ g,G p g->(g<=v↔g<=w)):Dn p w D E:=
 ⟨λe=>⟨(h.1 e).1,(k _ (h.1 e).1).1 (h.1 e).2⟩,λg hg hw=>h.2 g hg ((k g hg).2 hw)⟩
def Up.of{p:Nat}{v w:Rat}{D:Dy}{E:Int}(h:Up p v D E)(k:∀ g,G p g->(v<=g↔w<=g)):Up p w D E:=
 ⟨λe=>⟨(h.1 e).1,(k _ (h.1 e).1).1 (h.1 e).2⟩,λg hg hw=>h.2 g hg ((k g hg).2 hw)⟩
def K2(neg:Bool)(m:Nat)(e:Int){p:Nat}(hp:1<=p)(ie:p<=4096):Dn p (canon neg m e).q (kr neg m e false p false) (jW neg m e false p false):=by
 have hv:0<=(m:Rat)*P2 e:=eI fI (dV (vf _));rw[vO];cases neg
 .
  have hE:jW false m e false p false=0:=by unfold jW;simp
  rw[hE];unfold kr;simp only[akn,bV,bB];by_cases ho:mg m e false p false=true
  .obtain ⟨t1,t2,t3⟩:=Xf hp ie ho;rw[bj ho];(first|unfold Dn|unfold Up);rw[vO];simp only[bV,bB];refine⟨λ_=>⟨.inl t1,t2⟩,λg hg hle=>⟨trivial,?_⟩⟩;by_cases h0:0<=g
   .exact t3 g (hg.pos h0)
   .have:=t1.Fz;grind
  .obtain ⟨t1,t2,t3⟩:=Xe hp ho;rw[bh ho];(first|unfold Dn|unfold Up);rw[vO];simp only[bV,bB];refine⟨λ_=>⟨.inl t1,t2⟩,λg hg hle=>⟨trivial,?_⟩⟩;by_cases h0:0<=g
   .exact t3 g (hg.pos h0) hle
   .have:=t1.Fz;grind
 .unfold kr jW;simp only[Bool.bne_false,Bool.and_true,bC];by_cases ho:mg m e false p true=true
  .rw [bj ho,bj ho];refine⟨λh=>by simp at h,λg hg hle=>?_⟩;exact absurd (show(m:Rat)*P2 e <= -g by grind) (PZ hp ho _ (hg.neg.pos aI))
  .obtain ⟨t1,t2,t3⟩:=PY hp ho;rw[bh ho,bh ho];(first|unfold Dn|unfold Up);rw[vO];simp only[bC];refine⟨λ_=>⟨.inr (by rw[ff];exact t1),aI⟩,λg hg hle=>⟨trivial,?_⟩⟩;have:=t3 (-g) (hg.neg.pos aI) aI 
   grind
def K3(neg:Bool)(m:Nat)(e:Int){p:Nat}(hp:1<=p)(ie:p<=4096):Up p (canon neg m e).q (kr neg m e false p true) (jW neg m e false p true):=by
 have hv:0<=(m:Rat)*P2 e:=eI fI (dV (vf _));rw[vO];cases neg
 .unfold kr jW;simp only[Bool.bne_true,dZ,Bool.and_true,bC,bV,bB];by_cases ho:mg m e false p true=true
  .rw [bj ho,bj ho];refine⟨λh=>by simp at h,λg hg hle=>?_⟩;exact absurd hle (PZ hp ho _ (hg.pos aI))
  .obtain ⟨t1,t2,t3⟩:=PY hp ho;rw[bh ho,bh ho];(first|unfold Dn|unfold Up);rw[vO];simp only[bV,bB];exact⟨λ_=>⟨.inl t1,t2⟩,λg hg hle=>⟨trivial,t3 g (hg.pos aI) hle⟩⟩
 .have hE:jW true m e false p true=0:=by unfold jW;simp
  rw[hE];unfold kr;simp only[akn,bV,bB,bC];by_cases ho:mg m e false p false=true
  .obtain ⟨t1,t2,t3⟩:=Xf hp ie ho;rw[bj ho];(first|unfold Dn|unfold Up);rw[vO];simp only[bC];refine⟨λ_=>⟨.inr (by rw[ff];exact t1),aI⟩,λg hg hle=>⟨trivial,?_⟩⟩;by_cases h0:0 <= -g
   .have:=t3 (-g) (hg.neg.pos h0);grind
   .have:=t1.Fz;grind
  .obtain ⟨t1,t2,t3⟩:=Xe hp ho;rw[bh ho];(first|unfold Dn|unfold Up);rw[vO];simp only[bC];refine⟨λ_=>⟨.inr (by rw[ff];exact t1),aI⟩,λg hg hle=>⟨trivial,?_⟩⟩;by_cases h0:0 <= -g
   .have:=t3 (-g) (hg.neg.pos h0) aI;grind
   .have:=t1.Fz;grind
def JF{d:Dy}(hd:d.nL){p:Nat}(hp:1<=p)(ie:p<=4096):Dn p d.q (jd d p false) (jI d p false):=by
 have:=K2 d.neg d.m d.e hp ie;rwa[hd.AB]at this
def JH{d:Dy}(hd:d.nL){p:Nat}(hp:1<=p)(ie:p<=4096):Up p d.q (jd d p true) (jI d p true):=by
 have:=K3 d.neg d.m d.e hp ie;rwa[hd.AB]at this
def gap{N p:Nat}{e:Int}(hb:p<iy N){g:Rat}(hg:GM p g):g<=(N:Rat)*P2 e\/((N+1:Nat):Rat)*P2 e<=g:=by
 obtain⟨gm,ge,b1,b2,b3,rfl⟩:=hg;by_cases hc:e<=ge
 .rw [uL (K:=e) hc (cB _),uL (K:=e) (cB _) hc,show(e-e).toNat=0 by omega];omega
 .left;rw[uL (K:=ge) (cB _) aA,show(ge-ge).toNat=0 by omega,cR,cv];have h1:gm<2^p:=mv.1 b1;have h2:2^p<=N:=Bp.1 hb;exact bK (dU (bO h1 h2)) (fS _ (bD aC))
def PE{N p:Nat}{e:Int}(hb:p<iy N){x y:Rat}(x1:(N:Rat)*P2 e<x)(x2:x<((N+1:Nat):Rat)*P2 e)(y1:(N:Rat)*P2 e<y)(y2:y<((N+1:Nat):Rat)*P2 e){g:Rat}(hg:G p g):
 (g<=x↔g<=y)/\(x<=g↔y<=g)/\(g <= -x↔g <= -y)/\(-x<=g ↔ -y<=g):=by
 have hv:0<=(N:Rat)*P2 e:=eI fI (dV (vf _));have hG:∀ g,G p g->g<=(N:Rat)*P2 e\/((N+1:Nat):Rat)*P2 e<=g:=by
  intro g hg;by_cases h0:0<=g
  .exact gap hb (hg.pos h0)
  .left;grind
 have h1:=hG g hg;have h2:=hG (-g) hg.neg;generalize (N:Rat)*P2 e=A at *
 generalize ((N+1:Nat):Rat)*P2 e=B at *
 refine⟨?_,?_,?_,?_⟩<;>constructor<;>intro h<;>grind
def GS{N p:Nat}(E:Int)(hb:p<iy N)(neg up:Bool):kr neg N E true p up=kr neg (2*N+1) (E-1) false p up/\jW neg N E true p up=jW neg (2*N+1) (E-1) false p up:=by
 have h1:(2*N+1)/2^1=N:= aA ;have h:=GU (N:=2*N+1) (E:=E-1) (more:=false) (d:=1) (p:=p) neg up (by rw[h1];exact hb);have h2:decide ((2*N+1)%2^1≠0)=true:= aF ;rw[h1,h2,(aA:E-1+((1:Nat):Int)=E)]at h;exact h
def Z4{a b:Dy}(b0:b.m≠0){p:Nat}(hp:1<=p)(ie:p<=4096):Dn p (a.q/b.q) (mi a b p false) (mD a b p false)/\Up p (a.q/b.q) (mi a b p true) (mD a b p true):=by
 by_cases a0:a.m=0
 .have hq:a.q=0:=by rw[vP,a0];simp
  have h0:(0:Rat)/b.q=0:=by rw[Rat.div_def,Rat.zero_mul]
  unfold mi mD;rw[hq,h0,bj a0,bj a0,bj a0,bj a0];have hz:G p 0:=.inl (B2 p);exact⟨⟨λ_=>⟨by rw[Ak];exact hz,by rw[Ak];exact dr⟩,λg _ h=>⟨rfl,by rw[Ak];exact h⟩⟩,⟨λ_=>⟨by rw[Ak];exact hz,by rw[Ak];exact dr⟩,λg _ h=>⟨rfl,by rw[Ak];exact h⟩⟩⟩
 .have hb:=K8 a0 b0 p 2 aC ;unfold mi mD;rw[bh a0,bh a0,bh a0,bh a0];generalize hk:lk a b p 2=k at *
  generalize hs:(a.neg != b.neg)=s;generalize hE:a.e-b.e-(k:Int)=E0;have hB:(0:Rat)<(b.m:Rat):=akm.2 aA;have RX:=vf b.e;have hP:=vf E0;obtain⟨w,hw⟩:∃ w:Rat,w=(a.m:Rat)*P2 a.e/((b.m:Rat)*P2 b.e):=⟨_,rfl⟩
  have SZ:w*((b.m:Rat)*P2 b.e)=(a.m:Rat)*P2 a.e:=by
   have:(b.m:Rat)*P2 b.e≠0:=by have:=fJ hB RX;grind
   rw[hw];exact Rat.div_mul_cancel this
  have mm:a.q/b.q=if s then -w else w:=by
   have sM:b.q≠0:=by
    have:=fJ hB RX;rw[vP b];cases b.neg<;>simp<;>grind
   have hq:(if s then -w else w)*b.q=a.q:=by
    rw[vP a,vP b,<-hs,<-SZ];cases a.neg<;>cases b.neg<;>simp<;>grind
   rw[<-hq,ako sM]
  have Ma:=cQ (a.m*2^k) b.m;have hr:=bI (a.m*2^k) (aA:0<b.m);generalize hN:a.m*2^k/b.m=N at *
  generalize hR:a.m*2^k%b.m=R at *
  have acO:(b.m:Rat)*(N:Rat)+(R:Rat)=(a.m:Rat)*((2^k:Nat):Rat):=by rw[<-eH,<-eH,<-fK,Ma]
  have hae:P2 a.e=((2^k:Nat):Rat)*P2 b.e*P2 E0:=by rw[<-Gk,<-B3,<-B3];congr 1;omega
  have Ip:w*(b.m:Rat)=((b.m:Rat)*(N:Rat)+(R:Rat))*P2 E0:=by
   have:w*(b.m:Rat)*P2 b.e=((b.m:Rat)*(N:Rat)+(R:Rat))*P2 E0*P2 b.e:=by
    rw[acO,gv,SZ,hae];grind
   have jQ:P2 b.e≠0:= aI ;have h2:=congrArg (· / P2 b.e) this;simp only[ako jQ]at h2;exact h2
  by_cases h0:R=0
  .have Ba:w=(N:Rat)*P2 E0:=by
    rw[h0]at Ip;have jQ:(b.m:Rat)≠0:= aI ;have h2:w*(b.m:Rat)=((N:Rat)*P2 E0)*(b.m:Rat):=by rw[Ip];simp;grind
    have h3:=congrArg (· / (b.m:Rat)) h2;simp only[ako jQ]at h3;exact h3
   have hc:a.q/b.q=(canon s N E0).q:=by rw[mm,vO,Ba]
   rw[hc,bp (by simpa using h0)];exact⟨K2 _ _ _ hp ie,K3 _ _ _ hp ie⟩
  .have xt:(0:Rat)<(R:Rat):=akm.2 aA ;have hRb:(R:Rat)<(b.m:Rat):=Rat.natCast_lt_natCast.2 hr;have w1:(N:Rat)*P2 E0<w:=by
    apply akG (c:=(b.m:Rat)) _ (dV hB);rw[Ip];have:=fJ xt hP
    grind
   have w2:w<((N+1:Nat):Rat)*P2 E0:=by
    apply akG (c:=(b.m:Rat)) _ (dV hB);rw[Ip,fK];have:=fJ (show(0:Rat)<(b.m:Rat)-(R:Rat)by grind) hP;simp
    grind
   have hh:P2 E0=2*P2 (E0-1):=by
    rw[Gl (aA:E0-1<=E0),show(E0-(E0-1)).toNat=1 by omega];simp
   have v1:(N:Rat)*P2 E0<((2*N+1:Nat):Rat)*P2 (E0-1):=by
    have:=vf (E0-1);rw[hh,fK,eH];simp;grind
   have v2:((2*N+1:Nat):Rat)*P2 (E0-1)<((N+1:Nat):Rat)*P2 E0:=by
    have:=vf (E0-1);rw[hh,fK,eH,fK];simp;grind
   rw[bn (by simpa using h0),(GS E0 hb s false).1,(GS E0 hb s false).2,(GS E0 hb s true).1,(GS E0 hb s true).2,mm];have A:=K2 s (2*N+1) (E0-1) hp ie;have B:=K3 s (2*N+1) (E0-1) hp ie;rw[vO]at A B;refine⟨A.of λg hg=>?_,B.of λg hg=>?_⟩
   .obtain ⟨k1,k2,k3,k4⟩:=PE hb v1 v2 w1 w2 hg;cases s
    .exact k1
    .exact k3
   .obtain ⟨k1,k2,k3,k4⟩:=PE hb v1 v2 w1 w2 hg;cases s
    .exact k2
    .exact k4
def Iv.j8(x:Iv)(r:Rat):Prop:=x.all=true\/(x.lo.q<=r/\r<=x.hi.q)
def Sub(x y:Iv):Prop:=y.all=true\/(x.all=false/\y.lo.q<=x.lo.q/\x.hi.q<=y.hi.q)
def Sub.j8{x y:Iv}(h:Sub x y){r:Rat}(k:x.j8 r):y.j8 r:=by
 rcases h with h|⟨h1,h2,h3⟩
 .exact .inl h
 .rcases k with k|⟨k1,k2⟩
  .rw [h1]at k;cases k
  .exact .inr ⟨aI,aI⟩
def Sub.TZ{x y:Iv}(h:Sub x y)(k:y.all=false):x.all=false/\y.lo.q<=x.lo.q/\x.hi.q<=y.hi.q:=by
 rcases h with h|h
 .rw [h]at k;cases k
 .exact h
def Iv.ic.q{x:Iv}(h:x.ic):x.lo.q<=x.hi.q:=by
 rcases h with⟨_,h2,h3⟩|⟨_,_,_,h⟩
 .rw [h2,h3];exact dr
 .exact (s7 _ _).1 h
def Iv.ic.DQ{x:Iv}(h:x.ic):x.lo.nL/\x.hi.nL:=by
 rcases h with⟨_,h2,h3⟩|⟨_,h2,h3,_⟩
 .rw [h2,h3];exact⟨oI.canon,oI.canon⟩
 .exact ⟨h2.canon,h3.canon⟩
def Iv.ic.Cq{x:Iv}(h:x.ic):x.j8 x.lo.q:=.inr ⟨dr,h.q⟩
def Iv.ic.Eh{x:Iv}(h:x.ic):x.j8 x.hi.q:=.inr ⟨h.q,dr⟩
structure Kn(p:Nat)(S:Rat->Prop)(X:Iv):Prop where
 j8:∀ r,S r->X.j8 r
 on:X.all=false->G p X.lo.q/\G p X.hi.q
 Bl:∀ L U,G p L->G p U->(∀ r,S r->L<=r/\r<=U)->X.all=false/\L<=X.lo.q/\X.hi.q<=U
def XL{x y:Iv}(hx:x.ic)(hy:y.ic)(xa:x.all=false)(ya:y.all=false){p:Nat}(hp:1<=p)(ie:p<=4096):
 Kn p (λr=>∃ a b,x.j8 a/\y.j8 b/\r=a+b) (kU x y p):=by
 have A:=JF (AD hx.DQ.1 hy.DQ.1) hp ie;have B:=JH (AD hx.DQ.2 hy.DQ.2) hp ie;rw[aha]at A B;unfold kU pF;rw[xa,ya];simp only[Bool.or_self,bV,bB];have j8:∀ r,(∃ a b,x.j8 a/\y.j8 b/\r=a+b)->x.lo.q+y.lo.q<=r/\r<=x.hi.q+y.hi.q:=by
  rintro r ⟨a,b,ha,hb,rfl⟩;rcases ha with ha|ha
  .rw [xa]at ha;cases ha
  .rcases hb with hb|hb
   .rw [ya]at hb;cases hb
   .grind
 have Bl:∀ L U,G p L->G p U->(∀ r,(∃ a b,x.j8 a/\y.j8 b/\r=a+b)->L<=r/\r<=U) ->
  (jI (iR x.lo y.lo) p false=0/\L<=(jd (iR x.lo y.lo) p false).q)/\jI (iR x.hi y.hi) p true=0/\(jd (iR x.hi y.hi) p true).q<=U:=λL U hL hU h=>
  ⟨A.2 L hL (h _ ⟨_,_,hx.Cq,hy.Cq,rfl⟩).1,B.2 U hU (h _ ⟨_,_,hx.Eh,hy.Eh,rfl⟩).2⟩
 split
 .rename_i he;refine⟨λ_ _=>.inl rfl,λh=>absurd h aC,λL U hL hU h=>?_⟩;obtain⟨⟨e1,_⟩,e2,_⟩:=Bl L U hL hU h;rcases he with he|he
  .exact absurd e1 he
  .exact absurd e2 he
 .rename_i he;obtain⟨a1,a2⟩:=A.1 aA;obtain⟨b1,b2⟩:=B.1 aA;refine⟨λr hr=>.inr ?_,λ_=>⟨a1,b1⟩,λL U hL hU h=>?_⟩
  .obtain ⟨h1,h2⟩:=j8 r hr;exact⟨dt a2 h1,dt h2 b2⟩
  .obtain ⟨⟨_,e1⟩,_,e2⟩:=Bl L U hL hU h;exact⟨rfl,e1,e2⟩
def Pb{x y:Iv}(p:Nat)(h:x.all=true\/y.all=true):kU x y p=gZ:=by
 unfold kU;rw[bj (by rcases h with h|h<;>rw[h]<;>simp)]
def Gr{x y:Iv}(hx:x.ic)(hy:y.ic){p:Nat}(hp:1<=p)(ie:p<=4096){a b:Rat}(ha:x.j8 a)(hb:y.j8 b):(kU x y p).j8 (a+b):=by
 cases xa:x.all
 .cases ya:y.all
  .exact (XL hx hy xa ya hp ie).j8 _ ⟨a,b,ha,hb,rfl⟩
  .rw [Pb p (.inr ya)];exact .inl rfl
 .rw [Pb p (.inl xa)];exact .inl rfl
def af7{x:Iv}{a:Rat}(ha:x.j8 a):(rp x).j8 (-a):=by
 unfold rp;rcases ha with ha|⟨h1,h2⟩
 .rw [bj ha];exact .inl rfl
 .split
  .exact .inl rfl
  .refine .inr ⟨?_,?_⟩
   .show (kB x.hi).q<=_;rw[y8];grind
   .show _<=(kB x.lo).q;rw[y8];grind
def Dk{x y:Iv}(hx:x.ic)(hy:y.ic){p:Nat}(hp:1<=p)(ie:p<=4096){a b:Rat}(ha:x.j8 a)(hb:y.j8 b):(ky x y p).j8 (a-b):=by
 rw[Rat.sub_eq_add_neg];exact Gr hx (qX hy) hp ie ha (af7 hb)
def abD{p:Nat}{D:Dy->Dy->Bool->Dy}{E:Dy->Dy->Bool->Int}{f:Rat->Rat->Rat}{x y:Iv}{S:Rat->Prop}
 (hD:∀ a b,(a=x.lo\/a=x.hi)->(b=y.lo\/b=y.hi)->Dn p (f a.q b.q) (D a b false) (E a b false)/\Up p (f a.q b.q) (D a b true) (E a b true)/\S (f a.q b.q))
 (hS:∀ r,S r->(f x.lo.q y.lo.q<=r\/f x.lo.q y.hi.q<=r\/f x.hi.q y.lo.q<=r\/f x.hi.q y.hi.q<=r)/\(r<=f x.lo.q y.lo.q\/r<=f x.lo.q y.hi.q\/r<=f x.hi.q y.lo.q\/r<=f x.hi.q y.hi.q)):
 Kn p S (pk D E x y):=by
 obtain⟨a1,a2,a3⟩:=hD x.lo y.lo (.inl rfl) (.inl rfl);obtain⟨b1,b2,b3⟩:=hD x.lo y.hi (.inl rfl) (.inr rfl);obtain⟨c1,c2,c3⟩:=hD x.hi y.lo (.inr rfl) (.inl rfl);obtain⟨d1,d2,d3⟩:=hD x.hi y.hi (.inr rfl) (.inr rfl);have Bl:∀ L U,G p L->G p U->(∀ r,S r->L<=r/\r<=U) ->
  ((E x.lo y.lo false=0/\L<=(D x.lo y.lo false).q)/\E x.lo y.lo true=0/\(D x.lo y.lo true).q<=U)/\((E x.lo y.hi false=0/\L<=(D x.lo y.hi false).q)/\E x.lo y.hi true=0/\(D x.lo y.hi true).q<=U) /\
  ((E x.hi y.lo false=0/\L<=(D x.hi y.lo false).q)/\E x.hi y.lo true=0/\(D x.hi y.lo true).q<=U)/\((E x.hi y.hi false=0/\L<=(D x.hi y.hi false).q)/\E x.hi y.hi true=0/\(D x.hi y.hi true).q<=U):=λL U hL hU h=>
  ⟨⟨a1.2 L hL (h _ a3).1,a2.2 U hU (h _ a3).2⟩,⟨b1.2 L hL (h _ b3).1,b2.2 U hU (h _ b3).2⟩,⟨c1.2 L hL (h _ c3).1,c2.2 U hU (h _ c3).2⟩,⟨d1.2 L hL (h _ d3).1,d2.2 U hU (h _ d3).2⟩⟩
 unfold pk;split
 .rename_i he;obtain⟨⟨e1,e2⟩,⟨e3,e4⟩,⟨e5,e6⟩,⟨e7,e8⟩⟩:=he;obtain⟨ga,la⟩:=a1.1 e1;obtain⟨gA,lA⟩:=a2.1 e2;obtain⟨gb,lb⟩:=b1.1 e3;obtain⟨gB,lB⟩:=b2.1 e4;obtain⟨gc,lc⟩:=c1.1 e5;obtain⟨gC,lC⟩:=c2.1 e6;obtain⟨gd,ld⟩:=d1.1 e7;obtain⟨gD,lD⟩:=d2.1 e8;obtain⟨m1,m2,m3⟩:=C9 (D x.lo y.lo false) (D x.lo y.hi false);obtain⟨m4,m5,m6⟩:=C9 (jy (D x.lo y.lo false) (D x.lo y.hi false)) (D x.hi y.lo false);obtain⟨m7,m8,m9⟩:=C9 (jy (jy (D x.lo y.lo false) (D x.lo y.hi false)) (D x.hi y.lo false)) (D x.hi y.hi false);obtain⟨n1,n2,n3⟩:=FQ (D x.lo y.lo true) (D x.lo y.hi true);obtain⟨n4,n5,n6⟩:=FQ (jv (D x.lo y.lo true) (D x.lo y.hi true)) (D x.hi y.lo true);obtain⟨n7,n8,n9⟩:=FQ (jv (jv (D x.lo y.lo true) (D x.lo y.hi true)) (D x.hi y.lo true)) (D x.hi y.hi true);generalize (jy (D x.lo y.lo false) (D x.lo y.hi false))=u1 at *
  generalize (jy u1 (D x.hi y.lo false))=u2 at *
  generalize (jy u2 (D x.hi y.hi false))=u3 at *
  generalize (jv (D x.lo y.lo true) (D x.lo y.hi true))=v1 at *
  generalize (jv v1 (D x.hi y.lo true))=v2 at *
  generalize (jv v2 (D x.hi y.hi true))=v3 at *
  refine⟨λr hr=>.inr ?_,λ_=>⟨?_,?_⟩,λL U hL hU h=>⟨rfl,?_,?_⟩⟩
  .obtain ⟨h1,h2⟩:=hS r hr;constructor
   .show u3.q<=r;rcases h1 with h1|h1|h1|h1<;>grind
   .show r<=v3.q;rcases h2 with h1|h1|h1|h1<;>grind
  .show G p u3.q;rcases m9 with h|h
   .rw [h];rcases m6 with h|h
    .rw [h];rcases m3 with h|h<;>rw[h]<;>assumption
    .rw [h];assumption
   .rw [h];assumption
  .show G p v3.q;rcases n9 with h|h
   .rw [h];rcases n6 with h|h
    .rw [h];rcases n3 with h|h<;>rw[h]<;>assumption
    .rw [h];assumption
   .rw [h];assumption
  .obtain ⟨⟨⟨_,k1⟩,_,k2⟩,⟨⟨_,k3⟩,_,k4⟩,⟨⟨_,k5⟩,_,k6⟩,⟨⟨_,k7⟩,_,k8⟩⟩:=Bl L U hL hU h;show L<=u3.q;rcases m9 with h|h
   .rw [h];rcases m6 with h|h
    .rw [h];rcases m3 with h|h<;>rw[h]<;>assumption
    .rw [h];assumption
   .rw [h];assumption
  .obtain ⟨⟨⟨_,k1⟩,_,k2⟩,⟨⟨_,k3⟩,_,k4⟩,⟨⟨_,k5⟩,_,k6⟩,⟨⟨_,k7⟩,_,k8⟩⟩:=Bl L U hL hU h;show v3.q<=U;rcases n9 with h|h
   .rw [h];rcases n6 with h|h
    .rw [h];rcases n3 with h|h<;>rw[h]<;>assumption
    .rw [h];assumption
   .rw [h];assumption
 .rename_i he;refine⟨λ_ _=>.inl rfl,λh=>absurd h aC,λL U hL hU h=>?_⟩;obtain⟨⟨⟨k1,_⟩,k2,_⟩,⟨⟨k3,_⟩,k4,_⟩,⟨⟨k5,_⟩,k6,_⟩,⟨⟨k7,_⟩,k8,_⟩⟩:=Bl L U hL hU h;exact absurd ⟨⟨k1,k2⟩,⟨k3,k4⟩,⟨k5,k6⟩,k7,k8⟩ he
def Zx{a b c d x y:Rat}(h1:a<=x)(h2:x<=b)(h3:c<=y)(h4:y<=d):
 (a*c<=x*y\/a*d<=x*y\/b*c<=x*y\/b*d<=x*y)/\(x*y<=a*c\/x*y<=a*d\/x*y<=b*c\/x*y<=b*d):=by
 have mono:∀ {u v w:Rat},u<=v->0<=w->u*w<=v*w:=λh k=>fH h k
 have anti:∀ {u v w:Rat},u<=v->w<=0->v*w<=u*w:=by
  intro u v w h k;have:=mono h (show 0 <= -w by grind)
  grind
 have side:∀ t:Rat,(t*c<=t*y\/t*d<=t*y)/\(t*y<=t*c\/t*y<=t*d):=by
  intro t;rw[Rat.mul_comm t c,Rat.mul_comm t d,Rat.mul_comm t y];rcases Rat.le_total (a:=0) (b:=t)with h|h
  .exact ⟨.inl (mono h3 h),.inr (mono h4 h)⟩
  .exact ⟨.inr (anti h4 h),.inl (anti h3 h)⟩
 have sa:=side a;have sb:=side b;rcases Rat.le_total (a:=0) (b:=y)with h|h
 .have m1:=mono h1 h;have m2:=mono h2 h;clear mono anti side;constructor
  .rcases sa.1 with k|k<;>grind
  .rcases sb.2 with k|k<;>grind
 .have m1:=anti h1 h;have m2:=anti h2 h;clear mono anti side;constructor
  .rcases sb.1 with k|k<;>grind
  .rcases sa.2 with k|k<;>grind
def Iv.j8.mM{x:Iv}{r:Rat}(h:x.j8 r)(k:x.all=false):x.lo.q<=r/\r<=x.hi.q:=by
 rcases h with h|h
 .rw [k]at h;cases h
 .exact h
def GH(a b:Dy):(BD a b).nL:=vm _ _ _
def afK{x y:Iv}(hx:x.ic)(hy:y.ic)(xa:x.all=false)(ya:y.all=false){p:Nat}(hp:1<=p)(ie:p<=4096):
 Kn p (λr=>∃ a b,x.j8 a/\y.j8 b/\r=a*b) (kJ x y p):=by
 unfold kJ;rw[xa,ya];simp only[Bool.or_self,bV,bB];refine abD (f:=λa b=>a*b) (λa b ha hb=>⟨?_,?_,a.q,b.q,?_,?_,rfl⟩) (λr ⟨a,b,ha,hb,e⟩=>?_)
 .have:=JF (GH a b) hp ie;rwa[Jq]at this
 .have:=JH (GH a b) hp ie;rwa[Jq]at this
 .rcases ha with rfl|rfl;exact hx.Cq;exact hx.Eh
 .rcases hb with rfl|rfl;exact hy.Cq;exact hy.Eh
 .obtain ⟨h1,h2⟩:=ha.mM xa;obtain⟨h3,h4⟩:=hb.mM ya;rw[e];exact Zx h1 h2 h3 h4
def U3{x y:Iv}(p:Nat)(h:x.all=true\/y.all=true):kJ x y p=gZ:=by
 unfold kJ;rw[bj (by rcases h with h|h<;>rw[h]<;>simp)]
def Bv{x y:Iv}(hx:x.ic)(hy:y.ic){p:Nat}(hp:1<=p)(ie:p<=4096){a b:Rat}(ha:x.j8 a)(hb:y.j8 b):(kJ x y p).j8 (a*b):=by
 cases xa:x.all
 .cases ya:y.all
  .exact (afK hx hy xa ya hp ie).j8 _ ⟨a,b,ha,hb,rfl⟩
  .rw [U3 p (.inr ya)];exact .inl rfl
 .rw [U3 p (.inl xa)];exact .inl rfl
def ais{y:Iv}(_hy:y.ic)(h:oH y≠0):y.all=false/\(0<y.lo.q\/y.hi.q<0):=by
 unfold oH at h;cases ya:y.all
 .rw [ya]at h;simp only[bV,bB]at h;refine⟨rfl,?_⟩;split at h
  .rename_i h1;exact .inl ((xP _).1.1 h1)
  .split at h
   .rename_i h1;exact .inr ((xP _).2.1 h1)
   .exact absurd rfl h
 .rw [ya]at h;simp at h
def air{y:Iv}(ya:y.all=false)(h:0<y.lo.q\/y.hi.q<0):oH y≠0:=by
 unfold oH;rw[ya];simp only[bV,bB];rcases h with h|h
 .rw [bj ((xP _).1.2 h)];decide
 .split
  .decide
  .rw [bj ((xP _).2.2 h)];decide
def Ni{x:Iv}(h:x.lo.q<=x.hi.q):x.hi.q<=(o0 x).q /\ -x.lo.q<=(o0 x).q/\((o0 x).q=x.hi.q\/(o0 x).q = -x.lo.q):=by
 obtain⟨a1,a2,a3,a4⟩:=C7 x.lo;obtain⟨b1,b2,b3,b4⟩:=C7 x.hi;obtain⟨c1,c2,c3⟩:=FQ (lS x.lo) (lS x.hi);unfold o0;generalize (jv (lS x.lo) (lS x.hi)).q=M at *
 refine⟨aI,aI,?_⟩;rcases c3 with c3|c3
 .rcases a4 with a4|a4
  .grind
  .grind
 .rcases b4 with b4|b4
  .grind
  .grind
def afh{x x':Iv}(hx:x.ic)(uA:x'.ic)(h:Sub x x')(xa:x'.all=false):(o0 x).q<=(o0 x').q:=by
 obtain⟨h1,h2,h3⟩:=h.TZ xa;obtain⟨a1,a2,a3⟩:=Ni hx.q;obtain⟨b1,b2,b3⟩:=Ni uA.q
 grind
def Nn{x:Iv}(hx:x.ic)(xa:x.all=false):0<=(po x).q/\(x.lo.q<=0->0<=x.hi.q->(po x).q=0)/\(0<x.lo.q->(po x).q=x.lo.q)/\(x.hi.q<0->(po x).q = -x.hi.q):=by
 have hle:=hx.q;obtain⟨a1,a2,a3,a4⟩:=C7 x.lo;obtain⟨b1,b2,b3,b4⟩:=C7 x.hi;obtain⟨c1,c2,c3⟩:=C9 (lS x.lo) (lS x.hi);by_cases hs:oH x=0
 .have hn:¬(0<x.lo.q\/x.hi.q<0):=λh=>air xa h hs
  have:po x=iL:=by unfold po;rw[bj hs]
  rw[this,Ak];refine⟨dr,λ_ _=>rfl,λh=>absurd (.inl h) hn,λh=>absurd (.inr h) hn⟩
 .obtain ⟨_,h0⟩:=ais hx hs;have:po x=jy (lS x.lo) (lS x.hi):=by unfold po;rw[bh hs]
  rw[this];generalize (jy (lS x.lo) (lS x.hi)).q=M at *
  generalize (lS x.lo).q=u at *
  generalize (lS x.hi).q=v at *
  refine⟨aI,aI,aI,aI⟩
def ajR{x x':Iv}(hx:x.ic)(uA:x'.ic)(h:Sub x x'):Sub (oL x) (oL x'):=by
 cases xa:x'.all
 .obtain ⟨h1,h2,h3⟩:=h.TZ xa;unfold oL;rw[h1,xa];refine .inr ⟨rfl,?_,afh hx uA h xa⟩;show(po x').q<=(po x).q;obtain⟨a1,a2,a3,a4⟩:=Nn hx h1;obtain⟨b1,b2,b3,b4⟩:=Nn uA xa;have:=hx.q;by_cases c1:0<x'.lo.q
  .rw [b3 c1,a3 aI];exact h2
  .by_cases c2:x'.hi.q<0
   .rw [b4 c2,a4 aI];grind
   .rw [b2 aI aI];exact a1
 .refine .inl ?_;unfold oL;rw[bj xa];rfl
def O8{x:Iv}(hx:x.ic){r s:Rat}(h:x.j8 r)(hs:s=r/\0<=r\/s = -r/\r<=0):(oL x).j8 s:=by
 unfold oL;cases xa:x.all
 .obtain ⟨h1,h2⟩:=h.mM xa;obtain⟨a1,a2,a3⟩:=Ni hx.q;obtain⟨b1,b2,b3,b4⟩:=Nn hx xa;refine .inr ⟨?_,?_⟩
  .show (po x).q<=s;by_cases c1:0<x.lo.q
   .rw [b3 c1];grind
   .by_cases c2:x.hi.q<0
    .rw [b4 c2];grind
    .rw [b2 aI aI];grind
  .show s<=(o0 x).q
   grind
 .exact .inl rfl
def y6(d:Dy):(iY d).j8 d.q:=.inr ⟨dr,dr⟩
def Ja(n:Int):(lM n).j8 (n:Rat):=by have:=y6 (kO n);rwa[N4]at this
def jr(d:Dy)(p:Nat)(up:Bool):Nat->Dy×Int
 | 0=>(jd d p up,jI d p up)
 |k+1=>if(jr d p up k).2≠0 then jr d p up k else(jd (BD (jr d p up k).1 d) p up,jI (BD (jr d p up k).1 d) p up)
def ln(d:Dy)(n p:Nat)(up:Bool):Dy×Int:=if d.kf<0 then(kB (jr (kB d) p (!up) (n-1)).1,(jr (kB d) p (!up) (n-1)).2)else jr d p up (n-1)
def tP(x:Iv)(n:Nat):Iv:=if n%2=0 then oL x else x
def qs(x:Iv)(n p:Nat):Iv:=
 if x.all then gZ else if n=0 then iY ⟨false,1,0⟩
 else pF (ln (tP x n).lo n p false).1 (ln (tP x n).lo n p false).2 (ln (tP x n).hi n p true).1 (ln (tP x n).hi n p true).2
def ru(r:Rat):Nat->Rat
 | 0=>1
 |n+1=>ru r n*r
def JL{r:Rat}(h:0<=r):∀ n,0<=ru r n
 | 0=>by show(0:Rat)<=1;decide
 |n+1=>eI (JL h n) h
def F2{a b:Rat}(h0:0<=a)(h:a<=b):∀ n,ru a n<=ru b n
 | 0=>dr
 |n+1=>by
  have ih:=F2 h0 h n;have m1:=fH ih h0;have m2:=Rat.mul_le_mul_of_nonneg_left h (JL (dt h0 h) n);exact dt m1 m2
def Df(r:Rat):∀ n,ru (-r) n=if n%2=0 then ru r n else -ru r n
 | 0=>rfl
 |n+1=>by
  have ih:=Df r n;simp only[ru,ih];have:n%2=0\/n%2=1:= aA ;rcases this with h|h
  .have h':(n+1)%2=1:= aA ;rw[h,h'];simp;grind
  .have h':(n+1)%2=0:= aA ;rw[h,h'];simp;grind
def Wq{a b:Rat}{n:Nat}(hn:n%2=1)(h:a<=b):ru a n<=ru b n:=by
 by_cases h0:0<=a
 .exact F2 h0 h n
 .have ea:=Df (-a) n;rw[ff,hn]at ea;simp only[gw,bB]at ea;by_cases hb:0<=b
  .have h1:=JL (show 0 <= -a by grind) n;have h2:=JL hb n
   grind
  .have eb:=Df (-b) n;rw[ff,hn]at eb;simp only[gw,bB]at eb;have:=F2 (show 0 <= -b by grind) (show -b <= -a by grind) n
   grind
def N1{d:Dy}(hd:d.nL)(h0:0<=d.q){p:Nat}(hp:1<=p)(ie:p<=4096):∀ k,(jr d p false k).2=0->0<=(jr d p false k).1.q/\(jr d p false k).1.q<=ru d.q (k+1)
 | 0,he=>by
  have A:=JF hd hp ie;refine⟨(A.2 0 (.inl (B2 p)) h0).2,?_⟩;have:=(A.1 he).2;simp only[ru,Rat.one_mul];exact this
 |k+1,he=>by
  by_cases hk:(jr d p false k).2≠0
  .exfalso;simp only[jr,bj hk]at he;exact hk he
  .have rf:(jr d p false k).2=0:= aA ;obtain⟨i1,i2⟩:=N1 hd h0 hp ie k rf;have A:=JF (GH (jr d p false k).1 d) hp ie;rw[Jq]at A;simp only[jr,bh hk]at he ⊢;refine⟨(A.2 0 (.inl (B2 p)) (eI i1 h0)).2,?_⟩;have h1:=(A.1 he).2;have h2:=fH i2 h0;exact dt h1 h2
def N3{d:Dy}(hd:d.nL)(h0:0<=d.q){p:Nat}(hp:1<=p)(ie:p<=4096):∀ k,(jr d p true k).2=0->ru d.q (k+1)<=(jr d p true k).1.q
 | 0,he=>by
  have A:=JH hd hp ie;have:=(A.1 he).2;simp only[ru,Rat.one_mul];exact this
 |k+1,he=>by
  by_cases hk:(jr d p true k).2≠0
  .exfalso;simp only[jr,bj hk]at he;exact hk he
  .have rf:(jr d p true k).2=0:= aA ;have i2:=N3 hd h0 hp ie k rf;have A:=JH (GH (jr d p true k).1 d) hp ie;rw[Jq]at A;simp only[jr,bh hk]at he ⊢;have h1:=(A.1 he).2;have h2:=fH i2 h0;exact dt h2 h1
def aaI{d:Dy}(hd:d.nL){n p:Nat}(hn:1<=n)(hs:0<=d.q\/n%2=1)(hp:1<=p)(ie:p<=4096)(he:(ln d n p false).2=0):(ln d n p false).1.q<=ru d.q n:=by
 unfold ln at he ⊢;by_cases h:d.kf<0
 .rw [bj h]at he ⊢;have hq:=(xP d).2.1 h;have zP:=hs.resolve_left aI;have:=N3 (Nx hd) (by rw[y8];grind) hp ie (n-1) he;rw[(aA:n-1+1=n),y8,Df,zP]at this;simp only[gw,bB]at this;show(kB _).q<=_;rw[y8];simp only[dZ]
  grind
 .rw [bh h]at he ⊢;have h0:0<=d.q:=by
   apply Rat.not_lt.1;intro iJ;exact h ((xP d).2.2 iJ)
  have:=(N1 hd h0 hp ie (n-1) he).2;rwa[(aA:n-1+1=n)]at this
def aaJ{d:Dy}(hd:d.nL){n p:Nat}(hn:1<=n)(hs:0<=d.q\/n%2=1)(hp:1<=p)(ie:p<=4096)(he:(ln d n p true).2=0):ru d.q n<=(ln d n p true).1.q:=by
 unfold ln at he ⊢;by_cases h:d.kf<0
 .rw [bj h]at he ⊢;have hq:=(xP d).2.1 h;have zP:=hs.resolve_left aI;have:=(N1 (Nx hd) (by rw[y8];grind) hp ie (n-1) he).2;rw[(aA:n-1+1=n),y8,Df,zP]at this;simp only[gw,bB]at this;show _<=(kB _).q;rw[y8];simp only[eQ]
  grind
 .rw [bh h]at he ⊢;have h0:0<=d.q:=by
   apply Rat.not_lt.1;intro iJ;exact h ((xP d).2.2 iJ)
  have:=N3 hd h0 hp ie (n-1) he;rwa[(aA:n-1+1=n)]at this
def ag7{x:Iv}(hx:x.ic){n p:Nat}(hp:1<=p)(ie:p<=4096){r:Rat}(h:x.j8 r):(qs x n p).j8 (ru r n):=by
 unfold qs;cases xa:x.all
 .simp only[bV,bB];by_cases hn:n=0
  .rw [bj hn];subst hn;have e:(⟨false,1,0⟩:Dy).q=1:= aJ ;refine .inr ⟨?_,?_⟩
   .show (⟨false,1,0⟩:Dy).q<=1;rw[e];exact dr
   .show 1<=(⟨false,1,0⟩:Dy).q;rw[e];exact dr
  .rw [bh hn];obtain⟨s,hs,tA,hsn⟩:∃ s,(tP x n).j8 s/\(n%2=0->0<=(tP x n).lo.q/\0<=s)/\ru r n=ru s n:=by
    unfold tP;by_cases sk:n%2=0
    .rw [bj sk];have hl:0<=(oL x).lo.q:=by
      unfold oL;rw[xa];show 0<=(po x).q;unfold po;split
      .rw [Ak];exact dr
      .obtain ⟨_,_,m⟩:=C9 (lS x.lo) (lS x.hi);rcases m with m|m<;>rw[m]
       .exact (C7 x.lo).1
       .exact (C7 x.hi).1
     by_cases hr:0<=r
     .exact ⟨r,O8 hx h (.inl ⟨rfl,hr⟩),λ_=>⟨hl,hr⟩,rfl⟩
     .refine ⟨-r,O8 hx h (.inr ⟨rfl,aI⟩),λ_=>⟨hl,aI⟩,?_⟩;rw[Df,bj sk]
    .rw [bh sk];exact⟨r,h,λq=>absurd q sk,rfl⟩
   have yH:(tP x n).ic:=by unfold tP;split;exact O9 hx;exact hx
   have ya:(tP x n).all=false:=by
    unfold tP;split
    .unfold oL;rw[xa];rfl
    .exact xa
   rw[hsn];generalize tP x n=y at *
   obtain⟨s1,s2⟩:=hs.mM ya;obtain⟨c1,c2⟩:=yH.DQ;unfold pF;split
   .exact .inl rfl
   .rename_i he;have zP:¬n%2=0->n%2=1:=λq=> aA 
    refine .inr ⟨?_,?_⟩
    .refine dt (aaI c1 aA ?_ hp ie aA) ?_
     .by_cases sk:n%2=0
      .exact .inl (tA sk).1
      .exact .inr (zP sk)
     .by_cases sk:n%2=0
      .exact F2 (tA sk).1 s1 n
      .exact Wq (zP sk) s1
    .refine dt ?_ (aaJ c2 aA ?_ hp ie aA)
     .by_cases sk:n%2=0
      .exact F2 (tA sk).2 s2 n
      .exact Wq (zP sk) s2
     .by_cases sk:n%2=0
      .exact .inl (dt (tA sk).2 s2)
      .exact .inr (zP sk)
 .rw [bj rfl];exact .inl rfl
end Go.Proofs.YtjkmahljfblobaaGreatDoor.Fp
namespace Go.Proofs.YtjkmahljfblobaaGreatDoor
open Go.RowKit Fp Pu
structure ji where
 kind:Nat
 a:Nat
 b:Nat
 n:Nat
 cn:Int
 cd:Int
structure iV where
 iw:Nat
 gX:List ji
 gY:List Nat
structure me where
 tape:iV
 jU:Nat
 params:List Iv
def iG:ji:=⟨0,0,0,0,0,0⟩
def y4(o:ji):List E:=[iP (o.kind:Int),iP (o.a:Int),iP (o.b:Int),iP (o.n:Int),iP o.cn,iP o.cd]
def qq(o:ji):E:=.agg (y4 o)
def kP(l:List ji):E:=.sl true l.length 6 λi j=>(y4 (l.getD i iG)).getD j .any
def kR(l:List Nat):E:=.sl true l.length 1 λi _=>iP (l.getD i 0:Int)
def ajc(t:iV):List E:=[iP (t.iw:Int),kP t.gX,kR t.gY]
def jG(t:iV):E:=.agg (ajc t)
def aiY(s:me):List E:=[iP (s.tape.iw:Int),kP s.tape.gX,kR s.tape.gY,iP (s.jU:Int),hH s.params]
def jK(s:me):E:=.agg (aiY s)
def qt(n d:Int):Bool:=decide (1<=d)&&(decide (d<=1073741824)&&(decide (-1073741824<=n)&&(decide (n<=1073741824)&&decide (Nat.gcd n.natAbs d.natAbs=1))))
def Js{n d:Int}(h:qt n d=true):1<=d/\d<=1073741824 /\ -1073741824<=n/\n<=1073741824:=by
 unfold qt at h;simp only[bF,di]at h;exact⟨h.1,h.2.1,h.2.2.1,h.2.2.2.1⟩
def D9(f:FuncId)(x:Iv)(p:Nat):Prop:=∃ y:Iv,y.ic/\gW f [ix x,iP (p:Int)] (ix y)
def w8:Prop:=∀ (x:Iv) (p:Nat),x.ic->8<=p->p<=512->D9 67 x p/\D9 318 x p/\D9 319 x p/\D9 320 x p/\D9 321 x p
structure oJ(o:ji)(m:Nat):Prop where
 k3:o.kind=1\/3<=o.kind
 Bj:o.kind<=13
 a:if o.kind=1 then o.a=0 else o.a<m
 b:if 3<=o.kind/\o.kind<=6 then o.b<m else o.b=0
 n:if o.kind=8 then o.n<=16 else o.n=0
 c:if o.kind=1 then qt o.cn o.cd=true else o.cn=0/\o.cd=0
 f:o.kind<=8\/w8
structure wb(t:iV):Prop where
 iw:t.iw<=8
 gX:t.gX.length<=200
 gY:t.gY.length<=200
 op:∀ i,i<t.gX.length->oJ (t.gX.getD i iG) (t.iw+i)
 out:∀ i,i<t.gY.length->t.gY.getD i 0<t.iw+t.gX.length
def mq(l:List Iv):Prop:=∀ i,i<l.length->(l.getD i gZ).ic/\(l.getD i gZ).all=false
structure oK(s:me):Prop where
 tape:wb s.tape
 s1:1<=s.jU
 s4:s.jU<=4
 gY:s.tape.gY.length=s.jU
 iw:s.tape.iw=s.jU+s.params.length
 p4:s.params.length<=4
 params:mq s.params
structure kG(n:Nat)(b:List Iv):Prop where
 len:b.length=n
 ok:mq b
def mh(l:List Iv):Bool:=(List.range l.length).any λi=>(l.getD i gZ).all
def tQ(d:Dy){p:Nat}(hp:1<=p)(ie:p<=4096)(up:Bool):(jd d p up).ic:=tl _ _ _ _ _ _ hp ie
def y7(d:Dy){p:Nat}(hp:1<=p)(ie:p<=4096)(up:Bool):∀ k,(jr d p up k).1.ic
 | 0=>tQ _ hp ie _
 |k+1=>by
  unfold jr;split
  .exact y7 d hp ie up k
  .exact tQ _ hp ie _
def Q3(d:Dy)(n:Nat){p:Nat}(hp:1<=p)(ie:p<=4096)(up:Bool):(ln d n p up).1.ic:=by
 unfold ln;split
 .exact xK (y7 _ hp ie _ _)
 .exact y7 _ hp ie _ _
def VD:canon false 1 0=⟨false,1,0⟩:=by
 have h1:(canon false 1 0).neg=false:= aJ ;have h2:(canon false 1 0).m=1:= aJ ;have h3:(canon false 1 0).e=0:= aJ ;generalize canon false 1 0=d at *
 cases d;simp_all
def VE:(⟨false,1,0⟩:Dy).ic:=by
 have h2:oC (canon false 1 0):= aJ ;rw[<-VD];exact⟨vm _ _ _,h2⟩
def VZ{x:Iv}(hx:x.ic)(n:Nat){p:Nat}(hp:1<=p)(ie:p<=4096):(qs x n p).ic:=by
 have hh:=ag7 hx (n:=n) hp ie hx.Cq;revert hh;unfold qs;split
 .intro _;exact lX
 .split
  .intro _;exact tO VE
  .unfold pF;split
   .intro _;exact lX
   .intro hh;obtain⟨h1,h2⟩:=hh.mM rfl;exact .inr ⟨rfl,Q3 _ _ hp ie _,Q3 _ _ hp ie _,(s7 _ _).2 (dt h1 h2)⟩
def mf(l:List Iv):Prop:=∀ i,(l.getD i gZ).ic
def mf.push{l:List Iv}(h:mf l){y:Iv}(hy:y.ic):mf (l++[y]):=λi=>by
 rw[bk,dY];split
 .have:=h i;rwa[bk]at this
 .rcases i-l.length with _|j
  .exact hy
  .exact lX
def mq.qH{l:List Iv}(h:mq l):mf l:=λi=>by
 by_cases hi:i<l.length
 .exact (h i hi).1
 .rw [bk,bR aA];exact lX
def mf.append{l r:List Iv}(h:mf l)(k:mf r):mf (l++r):=λi=>by
 rw[bk,dY];split
 .have:=h i;rwa[bk]at this
 .have:=k (i-l.length);rwa[bk]at this
def acC{l:List Iv}(h:mh l=false)(v:mf l):mq l:=λi hi=>⟨v i,by simpa using List.any_eq_false.1 h i (bJ.2 hi)⟩
def QS(s:Bool)(L:List Nat)(e:Int)(hk:iM L)(hl:L.length<=256)(ml:-1000000<=e)(lH:e<=1000000):gW 123 [bP s,iz L,iP e] (ib (canon s (val L) e)):=by
 refine⟨call123,λw B vs hK hB hr=>?_⟩;obtain⟨v1,vs,rfl,h1,hr⟩:=hr.mW;obtain⟨v2,vs,rfl,h2,hr⟩:=hr.mW;obtain⟨v3,vs,rfl,h3,hr⟩:=hr.mW;obtain rfl:=hr.qY;obtain rfl:=iC.kD h1;obtain rfl:=iC.kD h3;obtain⟨A,c,rfl,s1⟩:=zh hk h2;exact(G2 s A c L e w s1 aA (by have:=pJ L;unfold mo at this;omega) ml lH hK).mono λe w' h=>rd B w e w' hB h
def Xh(x y:Nat):E.le (.sl false 2 1 λi j=>[E.v (.int .u32 (x:Int)),.v (.int .u32 (y:Int))].getD (i*1+j) (.v (.bool false))) (iz [x,y]):=.sl λi j hi hj=>by
 obtain rfl:j=0:= aA ;obtain rfl|rfl:i=0\/i=1:= aA 
 .exact ⟨.refl _,rfl⟩
 .exact ⟨.refl _,rfl⟩
def CK(n:Nat):kO (n:Int)=canon false n 0:=by
 unfold kO iK;rw[bp aA,fD]
def Ir(n:Nat)(h:n<4294967296):(kO (n:Int)).ic:=by
 rw[CK];refine⟨vm _ _ _,?_⟩;by_cases h0:n=0
 .subst h0;exact .inl rfl
 .have:=DO (s:=false) (e:=0) h0;have hb:iy n<=32:=mv.2 h;refine .inr ⟨aA,aA,?_,aA⟩;obtain⟨h1,h2,h3,h4⟩:=this;have:=qf h3;omega
def Xp(x y:Nat):val [x,y]=x+4294967296*y:=by simp[val]
abbrev nZ(xs:List Dy):Nat->Nat->E:=λi j=>(jt (xs.getD i iL)).getD j .any
def lO(m:List (List Dy)):E:=.sl true m.length 1 λi _=>kC (m.getD i [])
abbrev nE(M:List (List Dy)):Nat->Nat:=λq=>(M.getD q []).length
abbrev qJ(M:List (List Dy)):Nat->Nat->Nat->E:=λq i j=>(jt ((M.getD q []).getD i iL)).getD j .any
def yk(x:Dy)(j:Nat)(hj:j<3):((jt x).getD j .any).nr 2=true:=by
 rcases j with _|_|_|j
 all_goals first|rfl|omega
def G4{T n n' m:Nat}{F:Nat->Dy}{y:Dy}(hm:m=n)(hn:n'=n+1)(hy:y=F n):
 Bx.le (.row true T (n+[y].length) 3 λi j=>if i<n then nZ ((List.range m).map F) i j else(E.iS (kC [y])) (i-n) j) (.row true T n' 3 (nZ ((List.range (m+1)).map F))):=by
 subst hm hn hy;refine .row rfl λi j hi hj=>⟨.iD ?_,yk _ _ hj⟩
 have hi:i<m+1:=hi;by_cases h:i<m
 .rw [bj h];show(jt (((List.range m).map F).getD i iL)).getD j .any=(jt (((List.range (m+1)).map F).getD i iL)).getD j .any;congr 2;simp[bk,h,hi]
 .have kI:i=m:= aA ;subst kI;rw[bh h,cV];show(jt (F i)).getD j .any=(jt (((List.range (i+1)).map F).getD i iL)).getD j .any;congr 2;simp[bk]
def aaG{n:Nat}{xs:List Dy}(hn:n=xs.length):E.le (.sl true n 3 (nZ xs)) (kC xs):=by subst hn;exact .refl _
abbrev iO(A:Nat->Nat->Dy):Nat->Nat->Nat->E:=λk i j=>(jt (A k i)).getD j .any
def zg(M:Nat->Nat->Dy)(q j:Nat)(v:Dy):Nat->Nat->Dy:=λa b=>if a=q/\b=j then v else M a b
def zw{T1 T0 n n' q i:Nat}{len len':Nat->Nat}{A A':Nat->Nat->Dy}{v:Dy}(hn:n=n')(hl:len=len')(h:A'=zg A q i v):
 Bx.le (.il true T1 T0 n 3 len (λk' i' j'=>if k'=q/\i'=i/\0<=j'/\j'<0+3 then(jt v).getD (j'-0) .any else iO A k' i' j') none) (.il true T1 T0 n' 3 len' (iO A') none):=by
 subst hn hl h;refine .il rfl (λ_ _=>rfl) λk i' j hk hi hj=>⟨.iD ?_,yk _ _ hj⟩
 show _=(jt (zg A q i v k i')).getD j .any;unfold zg;by_cases h1:k=q/\i'=i
 .rw [bj ⟨h1.1,h1.2,cg _,aA⟩,bj h1];rfl
 .rw [bh λh=>h1 ⟨h.1,h.2.1⟩,bh h1]
def GZ{T1 T0 n n' c r m:Nat}{A A':Nat->Nat->Dy}(hn:n=n')(h:A'=λq=>A (nd c r q)):
 Bx.le (.il true T1 T0 n 3 (λq=>(λ_=>m) (nd c r q)) (λq=>iO A (nd c r q)) none) (.il true T1 T0 n' 3 (λ_=>m) (iO A') none):=by
 subst hn h;exact .il rfl (λ_ _=>rfl) λk i j hk hi hj=>⟨.refl _,yk _ _ hj⟩
def GY{T1 T0 x x' m w n:Nat}{A:Nat->Nat->Dy}{el:Nat->Nat->E}(hx:x'=x+n)(hn:n=1)(hw:w=m)(he:∀ i j,i<m->j<3->E.le (el i j) ((jt (A x i)).getD j .any)):
 Bx.le (.il true T1 T0 (x+n) 3 (λk=>if k<x then(λ_=>m) k else(λ_=>w) (k-x)) (λk=>if k<x then iO A k else(λ_=>el) (k-x)) none) (.il true T1 T0 x' 3 (λ_=>m) (iO A) none):=by
 subst hx hn hw;refine .il rfl (λk _=>by split<;>rfl) λk i j hk hi hj=>?_
 by_cases h:k<x
 .rw [bj h];exact⟨.refl _,yk _ _ hj⟩
 .obtain rfl:k=x:= aA ;rw[bh h]at hi ⊢;exact⟨he i j hi hj,yk _ _ hj⟩
def QJ{T1 T0 x m w:Nat}{A:Nat->Nat->Dy}{el:Nat->Nat->E}(hx:x=1)(hw:w=m)(he:∀ i j,i<m->j<3->E.le (el i j) ((jt (A 0 i)).getD j .any)):
 Bx.le (.il true T1 T0 1 3 (λ_=>w) (λ_=>el) none) (.il true T1 T0 x 3 (λ_=>m) (iO A) none):=by
 subst hx hw;refine .il rfl (λk _=>rfl) λk i j hk hi hj=>?_
 obtain rfl:k=0:= aA ;exact⟨he i j hi hj,yk _ _ hj⟩
def aad{n:Nat}{A:Nat->Nat->Dy}{M:List (List Dy)}(hn:n=M.length)(h:M=(List.range n).map λk=>(List.range n).map (A k)):E.le (.sl true n 1 λk _=>.sl true ((λ_=>n) k) 3 (iO A k)) (lO M):=by
 have hM:lO M = .sl true n 1 λi _=>kC (M.getD i []):=by unfold lO;rw[<-hn]
 rw[hM];refine .sl λk q hk _=>⟨?_,rfl⟩
 have hr:M.getD k []=(List.range n).map (A k):=by rw[h];simp[bk,hk]
 rw[hr];have hd:kC ((List.range n).map (A k)) = .sl true n 3 λi j=>(jt (((List.range n).map (A k)).getD i iL)).getD j .any:=by unfold kC;simp
 rw[hd];refine .sl λi j hi hj=>⟨.iD ?_,yk _ _ hj⟩
 congr 2;simp[bk,show i<n from hi]
def aar{j:Nat}:E.le (([.v (.bool false),.v (.slice none 0 0),.v (.int .i64 0)]:List E).getD j .any) ((jt iL).getD j .any):=by
 have e1:E.le (.v (.slice none 0 0)) (iz (ia 0)):=by rw[oD];exact .nil _ _ _
 rcases j with _|_|_|j
 .exact .refl _
 .exact e1
 .exact .refl _
 .exact .refl _
def q9(m:List (List Dy)):Nat->Nat->Dy:=λk i=>(m.getD k []).getD i iL
structure rA(m:List (List Dy)):Prop where
 n1:1<=m.length
 n8:m.length<=8
 row:∀ k,k<m.length->(m.getD k []).length=m.length
 ok:∀ k i,(q9 m k i).ic
def lf(n:Nat)(c:Nat->Nat)(F:Nat->Nat->Dy)(x k:Nat):List (List Dy):=(List.range n).map λq=>(List.range (if q<x then c q else if q=x then k else 0)).map (F q)
def tm(n:Nat)(c:Nat->Nat)(F:Nat->Nat->Dy):List (List Dy):=(List.range n).map λq=>(List.range (c q)).map (F q)
def ZJ(n:Nat)(c:Nat->Nat)(F:Nat->Nat->Dy)(x k:Nat):(lf n c F x k).length=n:=by simp[lf]
def DZ{n:Nat}{c:Nat->Nat}{F:Nat->Nat->Dy}{x k q:Nat}(h:q<n):(lf n c F x k).getD q []=(List.range (if q<x then c q else if q=x then k else 0)).map (F q):=by
 simp[lf,bk,h]
def Lb{n:Nat}{c:Nat->Nat}{F:Nat->Nat->Dy}{q:Nat}(h:q<n):(tm n c F).getD q []=(List.range (c q)).map (F q):=by
 simp[tm,bk,h]
def aab{n x k:Nat}{c:Nat->Nat}{F:Nat->Nat->Dy}(h:x<n):nE (lf n c F x k) x=k:=by simp only[nE,DZ h];simp
def AG{n i:Nat}{F:Nat->Dy}(h:i<n):((List.range n).map F).getD i iL=F i:=by
 simp[bk,h]
def aam{T1 T0 n n':Nat}{c:Nat->Nat}{F:Nat->Nat->Dy}(hn:n=n'):Bx.le (.il true T1 T0 n 3 (λ_=>0) (λ_ _ _=>.any) .none) (.il true T1 T0 n' 3 (nE (lf n' c F 0 0)) (qJ (lf n' c F 0 0)) .none):=by
 subst hn;refine .il rfl (λk hk=>?_) (λk i j hk hi hj=>absurd hi (bu i));show 0=((lf n c F 0 0).getD k []).length;rw[DZ hk];simp
def aao{T1 T0 n n' m x k:Nat}{c:Nat->Nat}{F:Nat->Nat->Dy}{y:Dy}(hn:n=n')(hm:m=n)(hx:x<n)(hy:y=F x k):
 Bx.le (.il true T1 T0 n 3 (λq=>if q=x then nE (lf m c F x k) q+[y].length else nE (lf m c F x k) q)
  (λq i j=>if q=x then(if i<nE (lf m c F x k) q then qJ (lf m c F x k) q i j else(E.iS (kC [y])) (i-nE (lf m c F x k) q) j)else qJ (lf m c F x k) q i j) .none)
  (.il true T1 T0 n' 3 (nE (lf m c F x (k+1))) (qJ (lf m c F x (k+1))) .none):=by
 subst hn hm hy;have hl:∀ q,q<m->(if q=x then nE (lf m c F x k) q+[F x k].length else nE (lf m c F x k) q)=nE (lf m c F x (k+1)) q:=by
  intro q hq;simp only[nE,DZ hq,cU,dB,cE,dR];by_cases h1:q=x
  .subst h1;simp
  .simp [h1]
 refine .il rfl hl (λq i j hq hi hj=>⟨.iD ?_,yk _ _ hj⟩);by_cases h1:q=x
 .subst h1;rw[bj rfl]at hi ⊢;simp only[nE,qJ,DZ hq,cU,dB,cE,dR,akj,bB,bC]at hi ⊢;by_cases h2:i<k
  .rw [bj h2,AG h2,AG aA]
  .have:i=k:= aA ;subst this;rw[bh h2,cV,AG aA];rfl
 .rw [bh h1]at hi ⊢;simp only[nE,qJ,DZ hq,cU,dB,h1,bB]at hi ⊢
def aan{T1 T0 n n' m x:Nat}{c:Nat->Nat}{F:Nat->Nat->Dy}(hn:n=n'):Bx.le (.il true T1 T0 n 3 (nE (lf m c F x (c x))) (qJ (lf m c F x (c x))) .none) (.il true T1 T0 n' 3 (nE (lf m c F (x+1) 0)) (qJ (lf m c F (x+1) 0)) .none):=by
 subst hn;have:lf m c F x (c x)=lf m c F (x+1) 0:=by
  unfold lf;congr 1;funext q;congr 2;by_cases h:q<x
  .rw [bj h,bj aA]
  .by_cases h2:q=x
   .subst h2;rw[bh h,bj rfl,bj aA]
   .rw [bh h,bh h2,bh aA];split<;>rfl
 rw[this];exact .refl _
def ZI(n:Nat)(c:Nat->Nat)(F:Nat->Nat->Dy):lf n c F n 0=tm n c F:=by
 unfold lf tm;apply dx;intro q hq;rw[bj (bJ.1 hq)]
def aaf{n:Nat}{M:List (List Dy)}(hn:n=M.length):E.le (.sl true n 1 λk _=>.sl true (nE M k) 3 (qJ M k)) (lO M):=by subst hn;exact .refl _
def aae{n:Nat}{c:Nat->Nat}{F:Nat->Nat->Dy}:E.le (.sl true n 1 λk _=>.sl true (nE (lf n c F n 0) k) 3 (qJ (lf n c F n 0) k)) (lO (tm n c F)):=
 E.le.trans (aaf (ZJ _ _ _ _ _).symm) (.iD (by rw[ZI]))
def qN(p:Nat):Nat:=if 512<p+48 then 512 else p+48
def afF{p:Nat}(h1:8<=p)(h2:p<=512):8<=qN p/\qN p<=512:=by unfold qN;split<;>omega
structure nW where
 A:Nat->Nat->Dy
 B:Nat->Nat->Dy
 bad:Bool
def nT(A:Nat->Nat->Dy)(col from_:Nat):Nat->Nat
 | 0=>from_
 |k+1=>if 0<ke (lS (A (from_+k) col)) (lS (A (nT A col from_ k) col))then from_+k else nT A col from_ k
def FP{A:Nat->Nat->Dy}{col from_ n:Nat}(h:from_<n):∀ k,from_+k<=n->nT A col from_ k<n/\from_<=nT A col from_ k
 | 0,_=>⟨h,bl _⟩
 |k+1,hk=>by
  have:=FP (A:=A) (col:=col) h k aA;unfold nT;split<;>omega
def xo(w c:Nat)(iI:Dy)(s:nW):Nat->nW
 | 0=>s
 |k+1=>⟨zg (xo w c iI s k).A c k (mi ((xo w c iI s k).A c k) iI w false),zg (xo w c iI s k).B c k (mi ((xo w c iI s k).B c k) iI w false),
  ((xo w c iI s k).bad||(mD ((xo w c iI s k).A c k) iI w false != 0))||(mD ((xo w c iI s k).B c k) iI w false != 0)⟩
def mO(a b:Dy)(w:Nat):Dy:=jd (mI a b) w false
def pf(a b:Dy)(w:Nat):Bool:=jI (mI a b) w false != 0
def uW(a b:Dy)(w:Nat):Dy:=jd (iR a (kB b)) w false
def q8(a b:Dy)(w:Nat):Bool:=jI (iR a (kB b)) w false != 0
def sg(w c i:Nat)(f:Dy)(s:nW):Nat->nW
 | 0=>s
 |k+1=>⟨zg (sg w c i f s k).A i k (uW ((sg w c i f s k).A i k) (mO f ((sg w c i f s k).A c k) w) w),zg (sg w c i f s k).B i k (uW ((sg w c i f s k).B i k) (mO f ((sg w c i f s k).B c k) w) w),
  ((((sg w c i f s k).bad||pf f ((sg w c i f s k).A c k) w)||q8 ((sg w c i f s k).A i k) (mO f ((sg w c i f s k).A c k) w) w)||pf f ((sg w c i f s k).B c k) w)||q8 ((sg w c i f s k).B i k) (mO f ((sg w c i f s k).B c k) w) w⟩
def Ao(n w c:Nat)(s:nW):Nat->nW
 | 0=>s
 |i+1=>if i=c\/((Ao n w c s i).A i c).kf=0 then Ao n w c s i else sg w c i ((Ao n w c s i).A i c) (Ao n w c s i) n
def WY(c r:Nat)(s:nW):nW:=⟨λq=>s.A (nd c r q),λq=>s.B (nd c r q),s.bad⟩
def VY(n c:Nat)(s:nW):Nat:=nT s.A c c (n-c)
def Oz(n c:Nat)(s:nW):nW:=WY c (VY n c s) s
def aap(n w c:Nat)(s:nW):nW:=xo w c ((Oz n c s).A c c) (Oz n c s) n
def Qh(n w c:Nat)(s:nW):nW:=Ao n w c (aap n w c s) n
def vR(n c:Nat)(s:nW):Bool:=decide ((s.A (VY n c s) c).kf=0)
def wh(n w:Nat)(s:nW):Nat->nW
 | 0=>s
 |c+1=>Qh n w c (wh n w s c)
def qP(k i:Nat):Dy:=if i=k then kO 1 else iL
def xC(m:List (List Dy)):nW:=⟨q9 m,qP,false⟩
def nH(d:Dy)(p:Nat):Int:=if jI d p false≠0 then jI d p false else jI d p true
def Af(d:Dy)(p:Nat):Int:=ke (nf (iR d (kB (jd d p false)))) (nf (iR (jd d p true) (kB d)))
def mV(d:Dy)(p:Nat):Dy:=if nH d p≠0 then iL else if Af d p = -1 then jd d p false else if Af d p=1 then jd d p true
 else if(jd d p true).m=0\/((jd d p false).m≠0/\(jd d p false).e<(jd d p true).e)then jd d p true else jd d p false
def I9(A:Nat->Nat->Dy)(n p:Nat):Bool:=(List.range n).all λk=>(List.range n).all λi=>decide (nH (A k i) p=0)
def xN(A:Nat->Nat->Dy)(n p:Nat):List (List Dy):=(List.range n).map λk=>(List.range n).map λi=>mV (A k i) p
def tG(m:List (List Dy))(n p:Nat):Option (List (List Dy)):=
 if(List.range n).any λc=>vR n c (wh n (qN p) (xC m) c)then none
 else if(wh n (qN p) (xC m) n).bad then none
 else if I9 (wh n (qN p) (xC m) n).B n p then some (xN (wh n (qN p) (xC m) n).B n p)else none
structure rC(s:nW):Prop where
 a:∀ k i,(s.A k i).ic
 b:∀ k i,(s.B k i).ic
def JS{M:Nat->Nat->Dy}(h:∀ k i,(M k i).ic){q j:Nat}{v:Dy}(hv:v.ic):∀ k i,(zg M q j v k i).ic:=λk i=>by
 unfold zg;split
 .exact hv
 .exact h k i
def QH(a b:Dy){p:Nat}(hp:1<=p)(ie:p<=4096)(up:Bool):(mi a b p up).ic:=by
 unfold mi;split
 .exact oI
 .exact tl _ _ _ _ _ _ hp ie
section
variable {w:Nat} (h1:8<=w) (h2:w<=512)
include h1 h2
def JO(a b:Dy):(mO a b w).ic:=tQ _ aA aA _
def Wr(a b:Dy):(uW a b w).ic:=tQ _ aA aA _
def G1{s:nW}(h:rC s)(c:Nat)(iI:Dy):∀ k,rC (xo w c iI s k)
 | 0=>h
 |k+1=>⟨JS (G1 h c iI k).a (QH _ _ aA aA _),JS (G1 h c iI k).b (QH _ _ aA aA _)⟩
def G5{s:nW}(h:rC s)(c i:Nat)(f:Dy):∀ k,rC (sg w c i f s k)
 | 0=>h
 |k+1=>⟨JS (G5 h c i f k).a (Wr h1 h2 _ _),JS (G5 h c i f k).b (Wr h1 h2 _ _)⟩
def JR{s:nW}(h:rC s)(n c:Nat):∀ i,rC (Ao n w c s i)
 | 0=>h
 |i+1=>by
  unfold Ao;split
  .exact JR h n c i
  .exact G5 h1 h2 (JR h n c i) _ _ _ _
omit h1 h2 in
def WZ{s:nW}(h:rC s)(c r:Nat):rC (WY c r s):=⟨λk i=>h.a _ i,λk i=>h.b _ i⟩
def Zq{s:nW}(h:rC s)(n c:Nat):rC (Qh n w c s):=JR h1 h2 (G1 h1 h2 (WZ h _ _) _ _ _) _ _ _
def P5{s:nW}(h:rC s)(n:Nat):∀ c,rC (wh n w s c)
 | 0=>h
 |c+1=>Zq h1 h2 (P5 h n c) n c
end
def ajA(k i:Nat):(qP k i).ic:=by
 unfold qP;split
 .exact Ir 1 aC 
 .exact oI
def ads{m:List (List Dy)}(h:∀ k i,((m.getD k []).getD i iL).ic):rC (xC m):=⟨h,ajA⟩
def agc(d:Dy){p:Nat}(h1:1<=p)(h2:p<=4096):(mV d p).ic:=by
 unfold mV;split
 .exact oI
 .split
  .exact tQ _ h1 h2 _
  .split
   .exact tQ _ h1 h2 _
   .split
    .exact tQ _ h1 h2 _
    .exact tQ _ h1 h2 _
def ady{m:List (List Dy)}{n p:Nat}{y:List (List Dy)}(h:tG m n p=some y):y.length=n/\(∀ k,k<n->(y.getD k []).length=n)/\∀ k i,1<=p->p<=4096->((y.getD k []).getD i iL).ic:=by
 unfold tG at h;split at h
 .cases h
 .split at h
  .cases h
  .split at h
   .cases h;unfold xN;refine⟨aF,λk hk=>by simp[bk,hk],λk i h1 h2=>?_⟩;by_cases hk:k<n
    .by_cases hi:i<n
     .simp only[bk];simp only[cD,akp hk,bZ,fz,akp hi];exact agc _ h1 h2
     .simp only[bk];simp only[cD,akp hk,bZ,fz];rw[bR (by simpa using Nat.not_lt.1 hi)];exact oI
    .simp only[bk];rw[bR (l:=(List.range n).map _) (by simpa using Nat.not_lt.1 hk)];exact oI
   .cases h
def Fp.mE(X Y:Nat->Iv)(p:Nat):Nat->Iv
 | 0=>kJ (X 0) (Y 0) p
 |k+1=>kU (mE X Y p k) (kJ (X (k+1)) (Y (k+1)) p) p
def K9(X Y:Nat->Iv){p:Nat}(hp:1<=p)(ie:p<=4096):∀ k,(mE X Y p k).ic
 | 0=>nQ _ _ hp ie
 |k+1=>pT (K9 X Y hp ie k) (nQ _ _ hp ie) hp ie
def Rs(x y:Iv)(p:Nat):∀ (a b:List Iv) (X Y:Nat->Iv) (s:Nat),a.length=b.length->(∀ i,i<a.length->a.getD i gZ=X (s+1+i))->(∀ i,i<b.length->b.getD i gZ=Y (s+1+i)) ->
 (a.zip b).foldl (λs q=>kU s (kJ q.1 q.2 p) p) (mE X Y p s)=mE X Y p (s+a.length)
 | [],[],X,Y,s,_,_,_=>rfl
 | [],_::_,_,_,_,h,_,_=>by simp at h
 |_::_,[],_,_,_,h,_,_=>by simp at h
 |u::a,v::b,X,Y,s,h,h1,h2=>by
  have e1:u=X (s+1):=h1 0 aF;have e2:v=Y (s+1):=h2 0 aF;rw[List.zip_cons_cons,List.foldl_cons];have:kU (mE X Y p s) (kJ u v p) p=mE X Y p (s+1):=by rw[e1,e2];rfl
  rw[this,Rs x y p a b X Y (s+1) (by simpa using h) (λi hi=>by
   have:=h1 (i+1) aL;rw[(aA:s+1+1+i=s+1+(i+1)),<-this];rfl) (λi hi=>by
   have:=h2 (i+1) aL;rw[(aA:s+1+1+i=s+1+(i+1)),<-this];rfl)]
  congr 1;simp;omega
def aai{xs ys:List Iv}{p n:Nat}(h1:xs.length=n+1)(h2:ys.length=n+1):G0 xs ys p=mE (λq=>xs.getD q gZ) (λq=>ys.getD q gZ) p n:=by
 match xs,ys,h1,h2 with
 |x::a,y::b,h1,h2=>
  have ha:a.length=n:=by simpa using h1
  have hb:b.length=n:=by simpa using h2
  have:=Rs x y p a b (λq=>(x::a).getD q gZ) (λq=>(y::b).getD q gZ) 0 aA (λi hi=>by rw[(aA:0+1+i=i+1)];rfl) (λi hi=>by rw[(aA:0+1+i=i+1)];rfl);rw[bX,ha]at this;exact this
def LD{α:Type}{l:List α}{i:Nat}{d:α}(h:i<l.length):l.getD i d=l[i]:=by
 rw[bk,bw h];rfl
def ajM{a b:List (List Iv)}{n k c p:Nat}(ra:a.length=n)(la:∀ i,i<n->(a.getD i []).length=k+1)(rb:b.length=k+1)(lb:(b.getD 0 []).length=c):
 qv n (λ_=>c) (λi j=>mE (λq=>(a.getD i []).getD q gZ) (λq=>(b.getD q []).getD j gZ) p k)=wP a b p:=by
 unfold qv wP;have hb:(b.headD []).length=c:=by
  rw[<-lb];cases b with
  |nil=>rfl
  |cons r b=>rfl
 rw[hb];apply gx
 .simp [ra]
 .intro i h1 h2;have hi:i<n:=by simp at h1;omega
  have Cu:i<a.length:= aA ;simp only[akq,akr];apply dx;intro j _;have e:=la i hi;rw[LD Cu]at e ⊢;rw[aai e (show(GP b j).length=k+1 by simp[GP,rb])];congr 1;funext q;unfold GP;by_cases hq:q<b.length
  .rw [LD (l:=b.map _) (by simpa using hq),LD hq];simp
  .rw [bk (l:=b.map _),bR (by simpa using hq),bk (l:=b),bR aA];simp
def ajN{n k:Nat}{F:Nat->Nat->Iv}(h1:1<=n)(h2:n<=8)(h3:1<=k)(h4:k<=8)(hv:∀ i j,(F i j).ic):mQ (qv n (λ_=>k) F) n k:=by
 refine⟨by simp[qv],λr hr=>?_,λr hr x hx=>?_,h1,h2,h3,h4⟩
 .obtain ⟨i,_,rfl⟩:=cI.1 hr;simp
 .obtain ⟨i,_,rfl⟩:=cI.1 hr;obtain⟨j,_,rfl⟩:=cI.1 hx;exact hv i j
def uF{T n n' k:Nat}{F:Nat->Iv}{y:Iv}(hn:n=k)(sP:n'=k+1)(hy:y=F k):
 Bx.le (.row true T (n+[y].length) 7 λi j=>if i<n then jh ((List.range k).map F) i j else(E.iS (hH [y])) (i-n) j) (.row true T n' 7 (jh ((List.range (k+1)).map F))):=by
 subst hn sP hy;refine .row rfl λi j hi hj=>⟨.iD ?_,xE _ _ hj⟩
 have hi:i<n+1:=hi;by_cases h:i<n
 .rw [bj h];simp only[jh];rw[rN h,rN hi]
 .have kI:i=n:= aA ;subst kI;rw[bh h,cV];simp only[jh];rw[rN hi];rfl
def JI{n i:Nat}{R:Nat->List Iv}(h:i<n):((List.range n).map R).getD i []=R i:=by simp[bk,h]
def UP{T n n' k m:Nat}{R:Nat->List Iv}{p:E}(hn:n=k)(sP:n'=k+1)(hm:m=1)(hp:∀ j,j<1->p.iS 0 j=hH (R k)):
 Bx.le (.row true T (n+m) 1 λi j=>if i<n then nb ((List.range k).map R) i j else(E.iS p) (i-n) j) (.row true T n' 1 (nb ((List.range (k+1)).map R))):=by
 subst hn sP hm;refine .row rfl λi j hi hj=>⟨.iD ?_,EY _⟩
 by_cases h:i<n
 .rw [bj h];simp only[nb];rw[JI h,JI hi]
 .have kI:i=n:= aA ;subst kI;rw[bh h,cV,hp j hj];simp only[nb];rw[JI hi]
def afq{n:Nat}{M:List (List Iv)}(hn:n=M.length):E.le (.sl true n 1 (nb M)) (iW M):=by subst hn;exact .refl _
def sY{n:Nat}{M:List Iv}(hn:n=M.length):E.le (.sl true n 7 (jh M)) (hH M):=by subst hn;exact .refl _
def Fp.mQ.pP{m:List (List Iv)}{n k:Nat}(h:mQ m n k){i:Nat}(hi:i<n):(m.getD i []).length=k:=by
 have kI:i<m.length:=by rw[h.il];exact hi
 rw[bk,bw kI];exact h.row _ (cz kI)
def Fp.mQ.xU{m:List (List Iv)}{n k:Nat}(h:mQ m n k){i j:Nat}(hi:i<n)(hj:j<k):((m.getD i []).getD j gZ).ic:=by
 have kI:i<m.length:=by rw[h.il];exact hi
 have hl:=h.pP hi;rw[bk (l:=m),bw kI]at hl ⊢;change m[i].length=k at hl;show(m[i].getD j gZ).ic;have pX:j<m[i].length:=by rw[hl];exact hj
 rw[bk,bw pX];exact h.ok _ (cz kI) _ (cz pX)
def Fp.mQ.M7{m:List (List Iv)}{n k:Nat}(h:mQ m n k)(i:Nat):(m.getD i []).length<=8:=by
 by_cases hi:i<n
 .rw [h.pP hi];exact h.k8
 .rw [bk,bR (by rw[h.il];omega)];exact cg _
def elV{b:List (List Iv)}{k c:Nat}(gb:mQ b k c)(q j:Nat):((b.getD q []).getD j gZ).ic:=by
 by_cases hq:q<k
 .by_cases hj:j<c
  .exact gb.xU hq hj
  .rw [bk,bR (by rw[gb.pP hq];omega)];exact lX
 .rw [bk (l:=b),bR (by rw[gb.il];omega)];exact lX
def age:(lM 1).ic:=tO (Ir 1 aC)
def MJ{n:Nat}(h1:1<=n)(h8:n<=8):mQ (zV n) n n:=
 ajN (F:=λi j=>iY (if i=j then⟨false,1,0⟩else iL)) h1 h8 h1 h8 λi j=>by
  split
  .exact age
  .exact tO oI
def acP{b:List (List Iv)}{k c:Nat}(gb:mQ b k c):(b.headD []).length=c:=by
 cases b with
 |nil=>have:=gb.il;have:=gb.n1;simp at *;omega
 |cons r b=>exact gb.row r aF 
def Nr{a b:List (List Iv)}{n k c p:Nat}(ga:mQ a n k)(gb:mQ b k c)(iu:1<=p)(ie:p<=4096):mQ (wP a b p) n c:=by
 refine⟨by simp[wP,ga.il],λr hr=>?_,λr hr x hx=>?_,ga.n1,ga.n8,gb.k1,gb.k8⟩
 .obtain ⟨q,_,rfl⟩:=cI.1 hr;rw[cU,dB,acP gb]
 .obtain ⟨q,_,rfl⟩:=cI.1 hr;obtain⟨j,_,rfl⟩:=cI.1 hx;exact aaj iu ie
section
variable {m m':List (List Iv)} {h h':Iv} {n p:Nat}
end
def ahr(n:Nat)(hn:n<4294967296):gW 84 [iP (n:Int)] (ib (canon false n 0)):=by
 refine⟨call84,λw B vs hK hB hr=>?_⟩;obtain⟨v1,vs,rfl,h1,hr⟩:=hr.mW;obtain rfl:=hr.qY;obtain rfl:=iC.kD h1;exact(ahq n w hn).mono λe w' h=>rd B w e w' hB h
end Go.Proofs.YtjkmahljfblobaaGreatDoor
namespace Go.Proofs.YtjkmahljfblobaaGreatDoor.Fp
end Go.Proofs.YtjkmahljfblobaaGreatDoor.Fp
namespace Go.Proofs.YtjkmahljfblobaaGreatDoor
open Go.RowKit Fp Pu
def aht(d:Dy)(k:Int)(hd:d.ic)(nN:-32768<=k)(xy:k<=32768)(hr:oC (canon d.neg d.m (d.e+k))):gW 83 [ib d,iP k] (.ik [ib (canon d.neg d.m (d.e+k)),iP 0]):=by
 refine⟨call83,λw B vs hK hB EC=>?_⟩;obtain⟨v1,vs,rfl,h1,EC⟩:=EC.mW;obtain⟨v2,vs,rfl,h2,EC⟩:=EC.mW;obtain rfl:=EC.qY;obtain⟨A,c,rfl,s1⟩:=G3 h1;obtain rfl:=iC.kD h2;have:=ahu d.neg A c (ia d.m) d.e k w s1 hd.wk nN xy (by rw[lW];exact hr);rw[lW]at this;exact this.mono λe w' h=>Ob B w e w' hB h
def PO{n:Int}{e:Int}:canon (kO n).neg (kO n).m ((kO n).e+e)=iK n e:=by
 unfold kO iK;by_cases h:n.natAbs=0
 .rw [h,DP,DP];show canon false 0 _=_;rw[DP]
 .have h1:=GX h;rw[show canon (decide (n<0)) n.natAbs 0=⟨decide (n<0),n.natAbs/2^kj n.natAbs,0+(kj n.natAbs:Int)⟩by unfold canon;rw[bh h]];show canon (decide (n<0)) (n.natAbs/2^kj n.natAbs) (0+(kj n.natAbs:Int)+e)=_;rw[<-KP _ _ _ (kj n.natAbs),h1];congr 1;omega
def wc{n e:Int}(h1:n.natAbs<4294967296)(h2:-1000<=e)(h3:e<=1000):(iK n e).ic:=by
 refine⟨vm _ _ _,?_⟩;unfold iK;by_cases h0:n.natAbs=0
 .rw [h0,DP];exact .inl rfl
 .have:=DO (s:=decide (n<0)) (e:=e) h0;have hb:iy n.natAbs<=32:=mv.2 h1;obtain⟨h4,h5,h6,_⟩:=this;have:=qf h6;exact .inr ⟨aA,aA,aA,aA⟩
def Is{n:Int}(h1:n.natAbs<4294967296):(kO n).ic:=wc h1 aC aC 
def aho(k:Nat)(w:World)(h0:0<k)(hn:k<4294967296):
 Calls prog 84 #[.int .i64 (-(k:Int))] w (yb w (canon true k 0)):=by
 have hm:=DJ k aA;have wB:(k:Int)%4294967296=k:= aA ;rw[wB]at hm;have hd:(k:Int)/4294967296=0:= aA ;have iJ:(-(k:Int))<0:= aA ;have xv:decide ((-(k:Int))<0)=true:=bn iJ;have hu:IntKind.u64.wrap (-(k:Int))=18446744073709551616-k:=by rw[IntKind.wrap_u64];omega
 have hs:IntKind.u64.wrap (-(18446744073709551616-(k:Int)))=k:=by rw[IntKind.wrap_u64];omega
 have HC:=akH (λ(A:Option Addr) c w (h:Sl w A c [k,0])=>Of true A c [k,0] 0 w h aF aC aC);have hv:val [k,0]=k:= aF ;rw[hv]at HC;clear hv;generalize canon true k 0=d at *
 generalize hN:(-(k:Int))=N at *
 go_enter func84,ntmps84;go_wp2_with fail;refine(HC.out _ _ _ (Sl.J9 _ _ aF _ _ k 0 rfl rfl hn aC)).mono ?_;rintro r w1 ⟨A1,c1,rfl,uy,kV⟩;have lG:iT (w.alloc (.cells #[.bool false,.slice none 0 0,.int .i64 0] 37)) w1:=(iT.alloc _ _).trans kV;have bx:=(jF.new w false none 0 0 0).ext lG;have b0:=bx.c0;have b1:=bx.c1;have b2:=bx.c2;have f0:=bx.fr 0;have f1:=bx.fr 1;have f2:=bx.fr 2;go_wp2;exact yl rfl rfl rfl (bx.set _ _ _ _ _) rfl (bx.uY uy _ _ _ _ _) (jF.tS ((iT.alloc _ _).trans lG) (bl _) _ _ _ _ _)
def Tl(k:Nat)(h0:0<k):kO (-(k:Int))=canon true k 0:=by
 unfold kO iK;rw[bn (show(-(k:Int))<0 by omega),akg,fD]
def ahp(n:Int)(h:n.natAbs<4294967296):gW 84 [iP n] (ib (kO n)):=by
 by_cases h0:0<=n
 .obtain ⟨k,rfl⟩:=gn h0;rw[CK];exact ahr k aA 
 .obtain ⟨k,rfl⟩:∃ k:Nat,n = -(k:Int):=⟨n.natAbs,aA⟩
  rw[Tl k aA];refine⟨call84,λw B vs hK hB hr=>?_⟩;obtain⟨v1,vs,rfl,h1,hr⟩:=hr.mW;obtain rfl:=hr.qY;obtain rfl:=iC.kD h1;exact(aho k w aA aA).mono λe w' h=>rd B w e w' hB h
open Classical in
noncomputable def Fp.zf(d:Dy)(k:Int):Dy:=if oC (canon d.neg d.m (d.e+k))then canon d.neg d.m (d.e+k)else iL
open Classical in
noncomputable def Fp.BR(d:Dy)(k:Int):Int:=if oC (canon d.neg d.m (d.e+k))then 0 else 9
def Wy(d:Dy)(k:Int):(zf d k).ic:=by
 unfold zf;split
 .rename_i h;exact⟨vm _ _ _,h⟩
 .exact oI
noncomputable def Fp.uX(x:Iv)(k:Int):Iv:=if x.all then gZ else pF (zf x.lo k) (BR x.lo k) (zf x.hi k) (BR x.hi k)
def aif{d:Dy}{k:Int}(h:BR d k=0):zf d k=canon d.neg d.m (d.e+k):=by
 unfold BR at h;unfold zf;split at h
 .rename_i h1;rw[bj h1]
 .cases h
def Wx{d:Dy}{k:Int}(h:BR d k=0):(zf d k).q=d.q*P2 k:=by
 rw[aif h,vO,vP d,B3];cases d.neg<;>simp<;>grind
def aih{x:Iv}(hx:x.ic)(k:Int):(uX x k).ic:=by
 unfold uX;split
 .exact lX
 .unfold pF;split
  .exact lX
  .rename_i h;refine .inr ⟨rfl,Wy _ _,Wy _ _,?_⟩;rw[s7,Wx aA,Wx aA,Ns];exact hx.q
def Tn(nl:Bool)(n N:Nat)(el:Nat->Nat->E)(g:FuncId)(cap:List E)(i:Nat):PS:=⟨19,false,[(8,.e (iP i)),(7,.e (iP n)),(0,.e (.sl nl n 1 el)),(1,.e (.fn g cap))],[]⟩
def Tm(nl:Bool)(n:Nat)(el:Nat->Nat->E)(g:FuncId)(cap:List E)(i:Nat):PS:=⟨19,false,[(8,.e (iP i)),(7,.e (iP n)),(0,.e (.sl nl n 1 el)),(1,.e (.fn g cap))],[]⟩
def Uc(nl:Bool)(n:Nat)(el:Nat->Nat->E)(g:FuncId)(cap:List E)(i:Nat):PS:=⟨19,false,[(8,.e (iP i)),(7,.e (iP n)),(0,.e (.sl nl n 1 el)),(1,.e (.fn g cap))],[]⟩
def TG(nl:Bool)(n N:Nat)(el:Nat->Nat->E)(g:FuncId)(cap:List E)(i:Nat):PS:=⟨19,false,[(8,.e (iP i)),(7,.e (iP n)),(0,.e (.sl nl n 7 el)),(1,.e (.fn g cap))],[]⟩
def TF(nl:Bool)(n:Nat)(el:Nat->Nat->E)(g:FuncId)(cap:List E)(i:Nat):PS:=⟨19,false,[(8,.e (iP i)),(7,.e (iP n)),(0,.e (.sl nl n 7 el)),(1,.e (.fn g cap))],[]⟩
def Wm(nl:Bool)(n N:Nat)(el:Nat->Nat->E)(g:FuncId)(cap:List E)(i:Nat):PS:=⟨19,false,[(8,.e (iP i)),(7,.e (iP n)),(0,.e (.sl nl n 1 el)),(1,.e (.fn g cap))],[]⟩
def Wl(nl:Bool)(n:Nat)(el:Nat->Nat->E)(g:FuncId)(cap:List E)(i:Nat):PS:=⟨19,false,[(8,.e (iP i)),(7,.e (iP n)),(0,.e (.sl nl n 1 el)),(1,.e (.fn g cap))],[]⟩
def QX(nl:Bool)(n:Nat)(el:Nat->Nat->E)(g:FuncId)(cap:List E)(i:Nat):PS:=⟨19,false,[(8,.e (iP i)),(7,.e (iP n)),(0,.e (.sl nl n 3 el)),(1,.e (.fn g cap))],[]⟩
def QY(nl:Bool)(n:Nat)(el:Nat->Nat->E)(g:FuncId)(cap:List E)(i:Nat):PS:=⟨19,false,[(8,.e (iP i)),(7,.e (iP n)),(0,.e (.sl nl n 1 el)),(1,.e (.fn g cap))],[]⟩
def tK{p:Nat->Bool}{n:Nat}(h:∃ i,i<n/\p i=true):∃ N,N<n/\p N=true/\∀ i,i<N->p i=false:=by
 induction n with
 |zero=>obtain⟨i,h1,_⟩:=h;omega
 |succ n ih=>
  by_cases hn:∃ i,i<n/\p i=true
  .obtain ⟨N,h1,h2,h3⟩:=ih hn;exact⟨N,aA,h2,h3⟩
  .obtain ⟨i,h1,h2⟩:=h;have:i=n:=by
    by_cases q:i=n
    .exact q
    .exact absurd ⟨i,aA,h2⟩ hn
   subst this;exact⟨i,h1,h2,λj hj=>by simpa using λq=>hn ⟨j,hj,q⟩⟩
def adv(nl:Bool)(n:Nat)(el:Nat->Nat->E)(g:FuncId)(cap:List E)(p:Nat->Bool)(hp:∀ i,i<n->gW g ((el i 0)::cap) (bP (p i)))(N:Nat)(hl:n<=1000000)(pV:N<n)(jj:∀ i,i<N->p i=false)(hN:p N=true):gW 207 [.sl nl n 1 el,.fn g cap] (iP N):=
 ak call207 func207 (ae [.s (Sp.jE (Tn nl n N el g cap) 0 N aA (λi hi mw=>by
    exact iF (ae [tT 9 ((i:Int)<n) aA,iX (i:Int) n aA,.c (hp i aA:gW g ((el i 0)::cap) _),ah 16 (p i) (jj i aA),iA ((i:Int)+1) aA]) aD)
  (λhi=>by
    exact iF (ae [tT 9 ((N:Int)<n) aA,iX (N:Int) n aA,.c (hp N aA:gW g ((el N 0)::cap) _),ag 16 (p N) hN]) aD) aG:jA 2 f207 (Tn nl n N el g cap 0) .ret ⟨19,false,[(4,.e (iP N))],[]⟩) .nil]) 
def adw(nl:Bool)(n:Nat)(el:Nat->Nat->E)(g:FuncId)(cap:List E)(p:Nat->Bool)(hp:∀ i,i<n->gW g ((el i 0)::cap) (bP (p i)))(hl:n<=1000000)(jj:∀ i,i<n->p i=false):gW 207 [.sl nl n 1 el,.fn g cap] (iP (-1)):=
 ak call207 func207 (ae [.s (Sp.jE (Tm nl n el g cap) 0 n aA (λi hi mw=>by
    exact iF (ae [tT 9 ((i:Int)<n) aA,iX (i:Int) n aA,.c (hp i aA:gW g ((el i 0)::cap) _),ah 16 (p i) (jj i aA),iA ((i:Int)+1) aA]) aD)
  (λhi=>by
    exact iF (ae [tF 9 ((n:Int)<n) aA]) aD) aG:jA 2 f207 (Tm nl n el g cap 0) (.exit 0) ⟨19,false,[],[]⟩) .nil]) 
def aj4(nl:Bool)(n:Nat)(el:Nat->Nat->E)(g:FuncId)(cap:List E)(p:Nat->Bool)(hp:∀ i,i<n->gW g ((el i 0)::cap) (bP (p i)))(N:Nat)(hl:n<=1000000)(pV:N<n)(jj:∀ i,i<N->p i=false)(hN:p N=true):gW 130 [.sl nl n 1 el,.fn g cap] (bP true):=
 ak call130 func130 (ae [af [.sl nl n 1 el,.fn g cap] (adv nl n el g cap p hp N hl pV jj hN),tT 8 (0<=(N:Int)) aA]) 
def To(nl:Bool)(n:Nat)(el:Nat->Nat->E)(g:FuncId)(cap:List E)(p:Nat->Bool)(hp:∀ i,i<n->gW g ((el i 0)::cap) (bP (p i)))(hl:n<=1000000)(jj:∀ i,i<n->p i=false):gW 130 [.sl nl n 1 el,.fn g cap] (bP false):=
 ak call130 func130 (ae [af [.sl nl n 1 el,.fn g cap] (adw nl n el g cap p hp hl jj),ah 8 (decide ((0:Int)<=(-1))) aC]) 
def aeE(nl:Bool)(n:Nat)(el:Nat->Nat->E)(g:FuncId)(cap:List E)(p:Nat->Bool)(hp:∀ i,i<n->gW g ((el i 0)::cap) (bP (p i)))(hl:n<=1000000)(jj:∀ i,i<n->p i=false):gW 335 [.sl nl n 1 el,.fn g cap] (iP (-1)):=
 ak call335 func335 (ae [.s (Sp.jE (Uc nl n el g cap) 0 n aA (λi hi mw=>by
    exact iF (ae [tT 9 ((i:Int)<n) aA,iX (i:Int) n aA,.c (hp i aA:gW g ((el i 0)::cap) _),ah 16 (p i) (jj i aA),iA ((i:Int)+1) aA]) aD)
  (λhi=>by
    exact iF (ae [tF 9 ((n:Int)<n) aA]) aD) aG:jA 2 f335 (Uc nl n el g cap 0) (.exit 0) ⟨19,false,[],[]⟩) .nil]) 
def aeC(nl:Bool)(n:Nat)(el:Nat->Nat->E)(g:FuncId)(cap:List E)(p:Nat->Bool)(hp:∀ i,i<n->gW g ((el i 0)::cap) (bP (p i)))(hl:n<=1000000)(jj:∀ i,i<n->p i=false):gW 282 [.sl nl n 1 el,.fn g cap] (bP false):=
 ak call282 func282 (ae [af [.sl nl n 1 el,.fn g cap] (aeE nl n el g cap p hp hl jj),ah 8 (decide ((0:Int)<=(-1))) aC]) 
def adS(nl:Bool)(n:Nat)(el:Nat->Nat->E)(g:FuncId)(cap:List E)(p:Nat->Bool)(hp:∀ i,i<n->gW g ((.agg [el i 0,el i 1,el i 2,el i 3,el i 4,el i 5,el i 6])::cap) (bP (p i)))(N:Nat)(hl:n<=1000000)(pV:N<n)(jj:∀ i,i<N->p i=false)(hN:p N=true):gW 87 [.sl nl n 7 el,.fn g cap] (iP N):=
 ak call87 func87 (ae [.s (Sp.jE (TG nl n N el g cap) 0 N aA (λi hi mw=>by
    exact iF (ae [tT 9 ((i:Int)<n) aA,iX (i:Int) n aA,.c (hp i aA:gW g ((.agg [el i 0,el i 1,el i 2,el i 3,el i 4,el i 5,el i 6])::cap) _),ah 16 (p i) (jj i aA),iA ((i:Int)+1) aA]) aD)
  (λhi=>by
    exact iF (ae [tT 9 ((N:Int)<n) aA,iX (N:Int) n aA,.c (hp N aA:gW g ((.agg [el N 0,el N 1,el N 2,el N 3,el N 4,el N 5,el N 6])::cap) _),ag 16 (p N) hN]) aD) aG:jA 2 Tryz.f87 (TG nl n N el g cap 0) .ret ⟨19,false,[(4,.e (iP N))],[]⟩) .nil]) 
def adU(nl:Bool)(n:Nat)(el:Nat->Nat->E)(g:FuncId)(cap:List E)(p:Nat->Bool)(hp:∀ i,i<n->gW g ((.agg [el i 0,el i 1,el i 2,el i 3,el i 4,el i 5,el i 6])::cap) (bP (p i)))(hl:n<=1000000)(jj:∀ i,i<n->p i=false):gW 87 [.sl nl n 7 el,.fn g cap] (iP (-1)):=
 ak call87 func87 (ae [.s (Sp.jE (TF nl n el g cap) 0 n aA (λi hi mw=>by
    exact iF (ae [tT 9 ((i:Int)<n) aA,iX (i:Int) n aA,.c (hp i aA:gW g ((.agg [el i 0,el i 1,el i 2,el i 3,el i 4,el i 5,el i 6])::cap) _),ah 16 (p i) (jj i aA),iA ((i:Int)+1) aA]) aD)
  (λhi=>by
    exact iF (ae [tF 9 ((n:Int)<n) aA]) aD) aG:jA 2 Tryz.f87 (TF nl n el g cap 0) (.exit 0) ⟨19,false,[],[]⟩) .nil]) 
def adT(nl:Bool)(n:Nat)(el:Nat->Nat->E)(g:FuncId)(cap:List E)(p:Nat->Bool)(hp:∀ i,i<n->gW g ((.agg [el i 0,el i 1,el i 2,el i 3,el i 4,el i 5,el i 6])::cap) (bP (p i)))(N:Nat)(hl:n<=1000000)(pV:N<n)(jj:∀ i,i<N->p i=false)(hN:p N=true):gW 39 [.sl nl n 7 el,.fn g cap] (bP true):=
 ak call39 func39 (ae [af [.sl nl n 7 el,.fn g cap] (adS nl n el g cap p hp N hl pV jj hN),tT 8 (0<=(N:Int)) aA]) 
def xF(nl:Bool)(n:Nat)(el:Nat->Nat->E)(g:FuncId)(cap:List E)(p:Nat->Bool)(hp:∀ i,i<n->gW g ((.agg [el i 0,el i 1,el i 2,el i 3,el i 4,el i 5,el i 6])::cap) (bP (p i)))(hl:n<=1000000)(jj:∀ i,i<n->p i=false):gW 39 [.sl nl n 7 el,.fn g cap] (bP false):=
 ak call39 func39 (ae [af [.sl nl n 7 el,.fn g cap] (adU nl n el g cap p hp hl jj),ah 8 (decide ((0:Int)<=(-1))) aC]) 
def EX(nl:Bool)(n:Nat)(el:Nat->Nat->E)(g:FuncId)(cap:List E)(p:Nat->Bool)(hp:∀ i,i<n->gW g ((.agg [el i 0,el i 1,el i 2,el i 3,el i 4,el i 5,el i 6])::cap) (bP (p i)))(hl:n<=1000000):gW 39 [.sl nl n 7 el,.fn g cap] (bP ((List.range n).any p)):=by
 by_cases h:∃ i,i<n/\p i=true
 .obtain ⟨N,h1,h2,h3⟩:∃ N,N<n/\p N=true/\∀ i,i<N->p i=false:=tK h;refine(adT nl n el g cap p hp N hl h1 h3 h2).jk (.iD ?_);rw[dT.2 ⟨N,bJ.2 h1,h2⟩]
 .refine (xF nl n el g cap p hp hl λi hi=>by simpa using λq=>h ⟨i,hi,q⟩).jk (.iD ?_);rw[cw.2 λi hi q=>h ⟨i,bJ.1 hi,q⟩]
def ahM(nl:Bool)(n:Nat)(el:Nat->Nat->E)(g:FuncId)(cap:List E)(p:Nat->Bool)(hp:∀ i,i<n->gW g ((el i 0)::cap) (bP (p i)))(N:Nat)(hl:n<=1000000)(pV:N<n)(jj:∀ i,i<N->p i=false)(hN:p N=true):gW 228 [.sl nl n 1 el,.fn g cap] (iP N):=
 ak call228 func228 (ae [.s (Sp.jE (Wm nl n N el g cap) 0 N aA (λi hi mw=>by
    exact iF (ae [tT 9 ((i:Int)<n) aA,iX (i:Int) n aA,.c (hp i aA:gW g ((el i 0)::cap) _),ah 16 (p i) (jj i aA),iA ((i:Int)+1) aA]) aD)
  (λhi=>by
    exact iF (ae [tT 9 ((N:Int)<n) aA,iX (N:Int) n aA,.c (hp N aA:gW g ((el N 0)::cap) _),ag 16 (p N) hN]) aD) aG:jA 2 f228 (Wm nl n N el g cap 0) .ret ⟨19,false,[(4,.e (iP N))],[]⟩) .nil]) 
def ahO(nl:Bool)(n:Nat)(el:Nat->Nat->E)(g:FuncId)(cap:List E)(p:Nat->Bool)(hp:∀ i,i<n->gW g ((el i 0)::cap) (bP (p i)))(hl:n<=1000000)(jj:∀ i,i<n->p i=false):gW 228 [.sl nl n 1 el,.fn g cap] (iP (-1)):=
 ak call228 func228 (ae [.s (Sp.jE (Wl nl n el g cap) 0 n aA (λi hi mw=>by
    exact iF (ae [tT 9 ((i:Int)<n) aA,iX (i:Int) n aA,.c (hp i aA:gW g ((el i 0)::cap) _),ah 16 (p i) (jj i aA),iA ((i:Int)+1) aA]) aD)
  (λhi=>by
    exact iF (ae [tF 9 ((n:Int)<n) aA]) aD) aG:jA 2 f228 (Wl nl n el g cap 0) (.exit 0) ⟨19,false,[],[]⟩) .nil]) 
def ahN(nl:Bool)(n:Nat)(el:Nat->Nat->E)(g:FuncId)(cap:List E)(p:Nat->Bool)(hp:∀ i,i<n->gW g ((el i 0)::cap) (bP (p i)))(N:Nat)(hl:n<=1000000)(pV:N<n)(jj:∀ i,i<N->p i=false)(hN:p N=true):gW 159 [.sl nl n 1 el,.fn g cap] (bP true):=
 ak call159 func159 (ae [af [.sl nl n 1 el,.fn g cap] (ahM nl n el g cap p hp N hl pV jj hN),tT 8 (0<=(N:Int)) aA]) 
def Wn(nl:Bool)(n:Nat)(el:Nat->Nat->E)(g:FuncId)(cap:List E)(p:Nat->Bool)(hp:∀ i,i<n->gW g ((el i 0)::cap) (bP (p i)))(hl:n<=1000000)(jj:∀ i,i<n->p i=false):gW 159 [.sl nl n 1 el,.fn g cap] (bP false):=
 ak call159 func159 (ae [af [.sl nl n 1 el,.fn g cap] (ahO nl n el g cap p hp hl jj),ah 8 (decide ((0:Int)<=(-1))) aC]) 
def BL(nl:Bool)(n:Nat)(el:Nat->Nat->E)(g:FuncId)(cap:List E)(p:Nat->Bool)(hp:∀ i,i<n->gW g ((el i 0)::cap) (bP (p i)))(hl:n<=1000000):gW 159 [.sl nl n 1 el,.fn g cap] (bP ((List.range n).any p)):=by
 by_cases h:∃ i,i<n/\p i=true
 .obtain ⟨N,h1,h2,h3⟩:∃ N,N<n/\p N=true/\∀ i,i<N->p i=false:=tK h;refine(ahN nl n el g cap p hp N hl h1 h3 h2).jk (.iD ?_);rw[dT.2 ⟨N,bJ.2 h1,h2⟩]
 .refine (Wn nl n el g cap p hp hl λi hi=>by simpa using λq=>h ⟨i,hi,q⟩).jk (.iD ?_);rw[cw.2 λi hi q=>h ⟨i,bJ.1 hi,q⟩]
def aaE(nl:Bool)(n:Nat)(el:Nat->Nat->E)(g:FuncId)(cap:List E)(p:Nat->Bool)(hp:∀ i,i<n->gW g ((.agg [el i 0,el i 1,el i 2])::cap) (bP (p i)))(hl:n<=1000000)(jj:∀ i,i<n->p i=false):gW 361 [.sl nl n 3 el,.fn g cap] (iP (-1)):=
 ak call361 func361 (ae [.s (Sp.jE (QX nl n el g cap) 0 n aA (λi hi mw=>by
    exact iF (ae [tT 9 ((i:Int)<n) aA,iX (i:Int) n aA,.c (hp i aA:gW g ((.agg [el i 0,el i 1,el i 2])::cap) _),ah 16 (p i) (jj i aA),
     iA ((i:Int)+1) aA]) aD)
  (λhi=>by
    exact iF (ae [tF 9 ((n:Int)<n) aA]) aD) aG:jA 2 f361 (QX nl n el g cap 0) (.exit 0) ⟨19,false,[],[]⟩) .nil]) 
def Lg(nl:Bool)(n:Nat)(el:Nat->Nat->E)(g:FuncId)(cap:List E)(p:Nat->Bool)(hp:∀ i,i<n->gW g ((.agg [el i 0,el i 1,el i 2])::cap) (bP (p i)))(hl:n<=1000000)(jj:∀ i,i<n->p i=false):gW 339 [.sl nl n 3 el,.fn g cap] (bP false):=
 ak call339 func339 (ae [af [.sl nl n 3 el,.fn g cap] (aaE nl n el g cap p hp hl jj),ah 8 (decide ((0:Int)<=(-1))) aC]) 
def aaF(nl:Bool)(n:Nat)(el:Nat->Nat->E)(g:FuncId)(cap:List E)(p:Nat->Bool)(hp:∀ i,i<n->gW g ((el i 0)::cap) (bP (p i)))(hl:n<=1000000)(jj:∀ i,i<n->p i=false):gW 362 [.sl nl n 1 el,.fn g cap] (iP (-1)):=
 ak call362 func362 (ae [.s (Sp.jE (QY nl n el g cap) 0 n aA (λi hi mw=>by
    exact iF (ae [tT 9 ((i:Int)<n) aA,iX (i:Int) n aA,.c (hp i aA:gW g ((el i 0)::cap) _),ah 16 (p i) (jj i aA),iA ((i:Int)+1) aA]) aD)
  (λhi=>by
    exact iF (ae [tF 9 ((n:Int)<n) aA]) aD) aG:jA 2 f362 (QY nl n el g cap 0) (.exit 0) ⟨19,false,[],[]⟩) .nil]) 
def QZ(nl:Bool)(n:Nat)(el:Nat->Nat->E)(g:FuncId)(cap:List E)(p:Nat->Bool)(hp:∀ i,i<n->gW g ((el i 0)::cap) (bP (p i)))(hl:n<=1000000)(jj:∀ i,i<n->p i=false):gW 341 [.sl nl n 1 el,.fn g cap] (bP false):=
 ak call341 func341 (ae [af [.sl nl n 1 el,.fn g cap] (aaF nl n el g cap p hp hl jj),ah 8 (decide ((0:Int)<=(-1))) aC]) 
def U1(a b:List Nat)(x:Nat):PS:=⟨67,false,[(20,.e (iP x)),(19,.e (iP a.length)),(18,.e (iz a)),(5,.own 17),(1,.e (iz b))],[(17,.row false 95 (a.length+b.length) 1 (qc (lv a b x)))]⟩
def U2(a b:List Nat)(x:Nat)(k:Nat):PS:=⟨67,false,[(27,.e (iP k)),(26,.e (iP b.length)),(25,.e (iz b)),(8,.e (.v (.int .u64 (((mT (a.getD x 0) x b (lv a b x) k).2:Nat):Int)))),(7,.e (.v (.int .u32 (a.getD x 0:Int)))),(6,.e (iP x)),(20,.e (iP x)),(19,.e (iP a.length)),(18,.e (iz a)),(5,.own 17),(1,.e (iz b))],[(17,.row false 95 (a.length+b.length) 1 (qc ((mT (a.getD x 0) x b (lv a b x) k).1)))]⟩
def afT(a b:List Nat)(ha:iM a)(hb:iM b)(h1:a.length<=3000)(h2:b.length<=3000):gW 234 [iz a,iz b] (iz (lv a b a.length)):=
 ak call234 func234 (aa [iA ((a.length:Int)+b.length) aA,.a (aA:0<=(((a.length:Int)+b.length):Int)/\(((a.length:Int)+b.length):Int)<=(((a.length:Int)+b.length):Int)),.a (aA:((4:Nat):Int)*((a.length:Int)+b.length)<=281474976710656/\(((a.length:Int)+b.length):Int)<=9223372036854775807),.s (Sp.jE (U1 a b) 0 a.length aA (λx hx nF=>by
    have f1:=ha.getD x;have so:=Fs ha hb x aA;have g1:=so.len;have g2:=(Fq f1 hb so.ok (i:=x) aA b.length aA).len;have g3:=(Fq f1 hb so.ok (i:=x) aA b.length aA).lt;exact iF (aa [tT 21 ((x:Int)<a.length) aA,iX (x:Int) (a.length) aA,.s (Sp.jE (U2 a b x) 0 b.length aA (λk hk ql=>by
    have f2:=hb.getD k;have q:=Fq f1 hb so.ok (i:=x) aA k aA;have f3:=q.ok.getD (x+k);have f4:=q.lt;have f5:=q.len;have f6:=U6 f1 f2;exact iF (aa [tT 28 ((k:Int)<b.length) aA,iX (k:Int) (b.length) aA,.o 33 (.int (rz _ aA):ai (.v (.int .u64 (IntKind.u64.wrap (a.getD x 0:Int)))) (.v (.int .u64 (a.getD x 0:Int)))),.o 35 (.int (rz _ aA):ai (.v (.int .u64 (IntKind.u64.wrap (b.getD k 0:Int)))) (.v (.int .u64 (b.getD k 0:Int)))),
     BN ((a.getD x 0:Int)*(b.getD k 0:Int)) aA,iA ((x:Int)+k) aA,iX ((x+k:Nat):Int) (a.length+b.length) aA,.a (aA:(x+k)<(a.length+b.length)),.o 43 (.int (rz _ aA):ai (.v (.int .u64 (IntKind.u64.wrap ((((mT (a.getD x 0) x b (lv a b x) k).1).getD (x+k) 0:Nat):Int)))) (.v (.int .u64 ((((mT (a.getD x 0) x b (lv a b x) k).1).getD (x+k) 0:Nat):Int)))),
     BN ((((a.getD x 0)*(b.getD k 0):Nat):Int)+((((mT (a.getD x 0) x b (lv a b x) k).1).getD (x+k) 0:Nat):Int)) aA,
     BN (((((a.getD x 0)*(b.getD k 0))+(((mT (a.getD x 0) x b (lv a b x) k).1).getD (x+k) 0):Nat):Int)+(((mT (a.getD x 0) x b (lv a b x) k).2:Nat):Int)) aA,
     iA ((x:Int)+k) aA,.o 52 (.int (Aq _):ai (.v (.int .u32 (IntKind.u32.wrap (((((a.getD x 0)*(b.getD k 0))+(((mT (a.getD x 0) x b (lv a b x) k).1).getD (x+k) 0))+(mT (a.getD x 0) x b (lv a b x) k).2:Nat):Int)))) (.v (.int .u32 ((((((a.getD x 0)*(b.getD k 0))+(((mT (a.getD x 0) x b (lv a b x) k).1).getD (x+k) 0))+(mT (a.getD x 0) x b (lv a b x) k).2)%4294967296:Nat):Int)))),.a (aA:0<=(32:Int)/\(32:Int)<=((64:Nat):Int)),.o 54 (.int (Oq _):ai (.v (.int .u64 ((((((a.getD x 0)*(b.getD k 0))+(((mT (a.getD x 0) x b (lv a b x) k).1).getD (x+k) 0))+(mT (a.getD x 0) x b (lv a b x) k).2:Nat):Int)/2^32))) (.v (.int .u64 ((((((a.getD x 0)*(b.getD k 0))+(((mT (a.getD x 0) x b (lv a b x) k).1).getD (x+k) 0))+(mT (a.getD x 0) x b (lv a b x) k).2)/4294967296:Nat):Int)))),
     iX ((x+k:Nat):Int) (a.length+b.length) aA,.a (aA:(x+k)<(a.length+b.length)),iA ((k:Int)+1) aA]<|.e (ae [.o 8 (.int aM:ai (.v (.int .u64 ((((((a.getD x 0)*(b.getD k 0))+(((mT (a.getD x 0) x b (lv a b x) k).1).getD (x+k) 0))+(mT (a.getD x 0) x b (lv a b x) k).2)/4294967296:Nat):Int))) (.v (.int .u64 (((mT (a.getD x 0) x b (lv a b x) (k+1)).2:Nat):Int)))),.b 17 (Ol rfl aA:Bx.le (.row false 95 (a.length+b.length) 1 (λi' j'=>if i'=(x+k)/\0<=j'/\j'<0+1 then[.v (.int .u32 ((((((a.getD x 0)*(b.getD k 0))+(((mT (a.getD x 0) x b (lv a b x) k).1).getD (x+k) 0))+(mT (a.getD x 0) x b (lv a b x) k).2)%4294967296:Nat):Int))].getD (j'-0) .any else(qc ((mT (a.getD x 0) x b (lv a b x) k).1)) i' j')) (.row false 95 (a.length+b.length) 1 (qc ((mT (a.getD x 0) x b (lv a b x) (k+1)).1))))])) aD)
  (λhk=>by
    exact iF (ae [tF 28 ((b.length:Int)<b.length) aA]) aD) aG:jA 7 f234 (U2 a b x 0) (.exit 2) ⟨67,false,[(8,.e (.v (.int .u64 (((mT (a.getD x 0) x b (lv a b x) b.length).2:Nat):Int)))),(6,.e (iP x)),(20,.e (iP x)),(19,.e (iP a.length)),(18,.e (iz a)),(5,.own 17),(1,.e (iz b))],[(17,.row false 95 (a.length+b.length) 1 (qc ((mT (a.getD x 0) x b (lv a b x) b.length).1)))]⟩) (ae [.o 8 (.int aM:ai (.v (.int .u64 0)) (.v (.int .u64 (((mT (a.getD x 0) x b (lv a b x) 0).2:Nat):Int)))),.b 17 (.iD rfl:Bx.le (.row false 95 (a.length+b.length) 1 (qc (lv a b x))) (.row false 95 (a.length+b.length) 1 (qc ((mT (a.getD x 0) x b (lv a b x) 0).1))))]),
     iA ((x:Int)+b.length) aA,.o 63 (.int (Aq _):ai (.v (.int .u32 (IntKind.u32.wrap (((mT (a.getD x 0) x b (lv a b x) b.length).2:Nat):Int)))) (.v (.int .u32 (((mT (a.getD x 0) x b (lv a b x) b.length).2%4294967296:Nat):Int)))),
     iX ((x+b.length:Nat):Int) (a.length+b.length) aA,.a (aA:(x+b.length)<(a.length+b.length)),iA ((x:Int)+1) aA]<|.e (ae [.b 17 (Ol rfl aA:Bx.le (.row false 95 (a.length+b.length) 1 (λi' j'=>if i'=(x+b.length)/\0<=j'/\j'<0+1 then[.v (.int .u32 (((mT (a.getD x 0) x b (lv a b x) b.length).2%4294967296:Nat):Int))].getD (j'-0) .any else(qc ((mT (a.getD x 0) x b (lv a b x) b.length).1)) i' j')) (.row false 95 (a.length+b.length) 1 (qc (lv a b (x+1)))))])) aD)
  (λhx=>by
    exact iF (ae [tF 21 ((a.length:Int)<a.length) aA]) aD) aG:jA 3 f234 (U1 a b 0) (.exit 0) ⟨67,false,[(5,.own 17)],[(17,.row false 95 (a.length+b.length) 1 (qc (lv a b a.length)))]⟩) (ae [.b 17 (Wo rfl (λi=>by simp[lv,bk,fB];split<;>rfl):Bx.le (.row false 95 (a.length+b.length) 1 (λ_ j_=>[.v (.int .u32 0)].getD j_ .any)) (.row false 95 (a.length+b.length) 1 (qc (lv a b 0))))])]<|rR (iz (lv a b a.length)) (WJ (by rw[(Fs ha hb a.length aA).len]):E.le (.sl false (a.length+b.length) 1 (qc (lv a b a.length))) (iz (lv a b a.length)))) 
def Vb(L:List Nat)(h:L.length<=256):gW 283 [iz L] (bP false):=
 aj call283 func283 (ae [tF 5 (256<(L.length:Int)) aA]) 
def Vc(L:List Nat)(M:List Nat)(h1:L.length<=256)(h2:M.length<=256):gW 232 [(.sl true 2 1 λi_ j_=>[iz L,iz M].getD (i_*1+j_) (.v (.bool false)))] (bP false):=
 aj call232 func232 (ae [.c (aeC true 2 _ 283 [] (λ_=>false) (λi hi=>(match i,hi with|0,_=>Vb _ h1|1,_=>Vb _ h2|n+2,hi=>absurd hi aA)) aA (λ_ _=>rfl):gW 282 [(.sl true 2 1 λi_ j_=>[iz L,iz M].getD (i_*1+j_) (.v (.bool false))),.fn 283 []] _)]) 
def afU(L M:List Nat)(hL:iM L)(hM:iM M)(h1:L.length<=256)(h2:M.length<=256)(hf:(ia (val L*val M)).length<=256):gW 178 [iz L,iz M] (.ik [iz (ia (val L*val M)),iP 0]):=by
 have ka:=hL.iH;have kb:=hM.iH;have ta:=pJ L;have tb:=pJ M;unfold mo at ta tb;have km:=(Fs ka kb _ (bl _)).ok;have he:iH (lv (iH L) (iH M) (iH L).length)=ia (val L*val M):=by rw[uZ km,ajF ka kb,qG,qG]
 have hd:(iH (lv (iH L) (iH M) (iH L).length)).length<=256:=by rw[he];exact hf
 exact aj call178 func178 (aa [.c (Vc L M aB aB),af [iz L] (yY _ hL),af [iz M] (yY _ hM),af [iz (iH L),iz (iH M)] (afT _ _ ka kb aA aA),af [iz (lv (iH L) (iH M) (iH L).length)] (afR _ km hd)]<|rQ (.ik [iz (iH (lv (iH L) (iH M) (iH L).length)),iP 0]) (.ik [iz (ia (val L*val M)),iP 0]) (by rw[he])) 
def afV(m n:Nat)(h1:(ia m).length<=256)(h2:(ia n).length<=256)(hf:(ia (m*n)).length<=256):gW 178 [iz (ia m),iz (ia n)] (.ik [iz (ia (m*n)),iP 0]):=by
 have:=afU (ia m) (ia n) (o9 m) (o9 n) h1 h2 (by rw[lW,lW];exact hf);rwa[lW,lW]at this
def xQ(m n:Nat)(h1:(ia m).length<=256)(h2:n<=65536)(h3:(ia (m*2^n)).length<=256):gW 281 [iz (ia m),iP n] (iz (ia (m*2^n))):=
 aj call281 func281 (ae [af [iz (ia m),iP n] (Ve _ _ aA aA aA)]) 
def Oa(m n:Nat)(h1:(ia m).length<=256)(h2:n<=65536):gW 295 [iz (ia m),iP n] (.ik [iz (ia (m/2^n)),bP (decide (m%2^n≠0))]):=by
 have hb:=GA h1;have hq:(ia (m/2^n)).length<=256:=qD (by have:=vh (dA m (2^n));omega);have yE:(ia (m/2^n*2^n)).length<=256:=qD (by have:=vh (eJ m (2^n));omega);have hr:(ia (m/2^iy m)).length<=256:=qD (by have:=vh (dA m (2^iy m));omega);have pD:(ia (m/2^iy m*2^iy m)).length<=256:=qD (by have:=vh (eJ m (2^iy m));omega);by_cases hn:iy m<n
 .have q1:=QG (dU hn);have q2:=QG (bl (iy m));exact aj call295 func295 (aa [af [iz (ia m)] (vJ _ aA),tT 11 ((iy m:Int)<n) aA,af [iz (ia m)] (vJ _ aA),af [iz (ia m),iP (iy m:Int)] (Vg _ _ aA aA),.c (xQ (m/2^(iy m)) (iy m) aA aA aA),af [iz (ia ((m/2^(iy m))*2^(iy m))),iz (ia m)] (I6 _ _ aA aA)]<|rQ (.ik [iz (ia (m/2^(iy m))),bP ((mC ((m/2^(iy m))*2^(iy m)) m) != 0)]) (.ik [iz (ia (m/2^n)),bP (decide (m%2^n≠0))]) (by rw[UE,q1.1,q1.2,q2.1,q2.2])) 
 .exact aj call295 func295 (aa [af [iz (ia m)] (vJ _ aA),tF 11 ((iy m:Int)<n) aA,af [iz (ia m),iP n] (Vg _ _ aA aA),.c (xQ (m/2^n) n aA aA aA),af [iz (ia ((m/2^n)*2^n)),iz (ia m)] (I6 _ _ aA aA)]<|rQ (.ik [iz (ia (m/2^n)),bP ((mC ((m/2^n)*2^n) m) != 0)]) (.ik [iz (ia (m/2^n)),bP (decide (m%2^n≠0))]) (by rw[UE])) 
abbrev OJ:E:=.sl false 1 1 λi_ j_=>[.v (.int .u32 1)].getD (i_*1+j_) (.v (.bool false))
abbrev Kd(p):=iz (ia (0*2^((0-(jm 0 0 p)).toNat)))
def nY(m:Nat)(e:Int)(p:Nat):Nat:=if jm m e p<=e then m*2^(e-jm m e p).toNat else m/2^(jm m e p-e).toNat
def rS(m:Nat)(e:Int)(more:Bool)(p:Nat):Bool:=if jm m e p<=e then more else(more||decide (m%2^(jm m e p-e).toNat≠0))
def ZC(m:Nat)(e:Int)(more:Bool)(p:Nat):nD m e more p false=nY m e p:=by unfold nD nY;simp
def K1{m:Nat}{e:Int}{more:Bool}{p:Nat}(hm:more=true->p<iy m):nD m e more p true=nY m e p+if rS m e more p=true then 1 else 0:=by
 unfold nD nY rS;by_cases hU:jm m e p<=e
 .have hmo:more=false:=by
   cases Mt:more with
   |false=>rfl
   |true=>have:=hm Mt;unfold jm at hU;omega
  simp[hU,hmo]
 .simp [hU]
def ahe(m:Nat)(e:Int)(more up:Bool)(p:Nat)(h1:(ia m).length<=256)(h0:m≠0)(iu:8<=p)(ie:p<=512)(ml:-45000<=e)(lH:e<=45000)(hm:more=true->p<iy m):gW 293 [.agg [iz (ia m),iP e,bP more],iP (p:Int),bP up] (.ik [ib (kr false m e more p up),iP (jW false m e more p up)]):=by
 have SO:=Qk (e:=e) true h0 hm (aA:1<=p);have vz:=Qk (e:=e) false h0 hm (aA:1<=p);have hb:=GA h1;have Hv:=qf h0;have Mv:=Qj (e:=e) (more:=more) (p:=p) (up:=true) h0;have hqa:=Qj (e:=e) (more:=more) (p:=p) (up:=false) h0;rw[ZC]at vz hqa;have hu1:-16384<=(jm m e p):=by unfold jm;omega
 have hu2:(jm m e p)<=60000:=by unfold jm;omega
 have hu3:(jm m e p)<=max (e+8192) (-16384):=by unfold jm;omega
 have fa:(ia (nY m e p)).length<=256:=qD aA;have fb:(ia (nD m e more p true)).length<=256:=qD aA;have f1:(ia 1).length<=256:=qD aC;cases up with
 |true=>
  exact aj call293 func293 (aa [af [iz (ia m)] (vJ _ aA),iA (e+(iy m:Int)) aA,iA ((e+(iy m:Int))-(p:Int)) aA,.o 21 (al (if(-16384)>((e+(iy m:Int))-(p:Int))then(-16384)else((e+(iy m:Int))-(p:Int))) (jm m e p) (by unfold jm;split<;>omega)),.j 58 ⟨84,true,[(9,.e (iz (ia (nY m e p)))),(10,.e (bP (rS m e more p))),(8,.e (iP (jm m e p))),(6,.box 6 0),(1,.e (iP p)),(2,.e (bP true))],[(6,.cells 37 an)]⟩
   (.w ((jm m e p)<=e)
    (λm1=>by
     have fx:(ia (m*2^(e-(jm m e p)).toNat)).length<=256:=by have:=fa;rwa[show nY m e p=_ from bj m1]at this
     exact aa [.v 29 (.bool (bn m1)),iA (e-(jm m e p)) aA,.o 35 (al (e-(jm m e p)) ((e-(jm m e p)).toNat:Int) aA),.c (xQ m ((e-(jm m e p)).toNat:Nat) aA aA aA)]<|.e (ae [.o 9 (.e (.iD (by rw[show nY m e p=_ from bj m1])):ai (iz (ia (m*2^((e-(jm m e p)).toNat)))) (iz (ia (nY m e p)))),tB 10 (by simp[rS,m1]:more=(rS m e more p))]))
    (λm1=>aa [.v 29 (.bool (bp m1)),iA ((jm m e p)-e) aA,.o 43 (al ((jm m e p)-e) (((jm m e p)-e).toNat:Int) aA),.c (Oa m (((jm m e p)-e).toNat:Nat) aA aA)]<|.w (more=true)
     (λm2=>aa [tB 48 m2]<|.e (ae [.o 9 (.e (.iD (by rw[show nY m e p=_ from bh m1])):ai (iz (ia (m/2^(((jm m e p)-e).toNat)))) (iz (ia (nY m e p)))),tB 10 (by simp[rS,m1,m2]:true=(rS m e more p))]))
     (λm2=>aa [tB 48 (aZ m2)]<|.e (ae [.o 9 (.e (.iD (by rw[show nY m e p=_ from bh m1])):ai (iz (ia (m/2^(((jm m e p)-e).toNat)))) (iz (ia (nY m e p)))),tB 10 (by simp[rS,m1,m2]:(decide (m%2^(((jm m e p)-e).toNat)≠0))=(rS m e more p))])))),.j 110 ⟨84,true,[(9,.e (iz (ia (nD m e more p true)))),(8,.e (iP (jm m e p))),(6,.box 6 0),(1,.e (iP p)),(2,.e (bP true))],[(6,.cells 37 an)]⟩
   (.w (rS m e more p=true)
    (λm1=>by
     have fx:(ia (nY m e p+1)).length<=256:=by have:=fb;rwa[K1 hm,bj m1]at this
     exact aa [.v 55 (.bool m1),.o 58 (.e Jg:ai OJ (iz (ia 1))),af [iz (ia (nY m e p)),iz (ia 1)] (I5 _ _ aA aA aA)]<|.e (ae [.o 9 (.e (.iD (by rw[K1 hm,bj m1])):ai (iz (ia ((nY m e p)+1))) (iz (ia (nD m e more p true))))]))
    (λm1=>aa [.v 55 (.bool (aZ m1))]<|.e (ae [.o 9 (.e (.iD (by rw[K1 hm,bh m1,bW])):ai (iz (ia (nY m e p))) (iz (ia (nD m e more p true))))]))),af [iz (ia (nD m e more p true))] (vJ _ aA),iA ((iy (nD m e more p true):Int)+(jm m e p)) aA]<|.w (16384<((iy (nD m e more p true):Int)+(jm m e p)))
   (λk1=>by
    have w1:=(SO.resolve_left (λh=>absurd k1 aA)).2.resolve_right (λh=>absurd h.1 aC);exact aa [tB 66 (bn k1),.o 68 (.e tc:ai (.agg an) (ib iL))]<|rQ (.ik [ib iL,iP 9]) (.ik [ib (kr false m e more p true),iP (jW false m e more p true)]) (by rw[w1.2.1,w1.2.2]))
   (λk1=>by
    have w1:=SO.resolve_right (λh=>k1 h.1);have hd:oC (canon false (nD m e more p true) (jm m e p)):=by rw[<-w1.2.1];exact(tl false m e more p true aA aA).range
    exact aa [tB 66 (bp k1),af [bP false,iz (ia (nD m e more p true)),iP (jm m e p)] (D1 _ _ _ aA aA aA aB)]<|rQ (.ik [ib (canon false (nD m e more p true) (jm m e p)),iP 0]) (.ik [ib (kr false m e more p true),iP (jW false m e more p true)]) (by rw[w1.2.1,w1.2.2]))) 
 |false=>
  exact aj call293 func293 (aa [af [iz (ia m)] (vJ _ aA),iA (e+(iy m:Int)) aA,iA ((e+(iy m:Int))-(p:Int)) aA,.o 21 (al (if(-16384)>((e+(iy m:Int))-(p:Int))then(-16384)else((e+(iy m:Int))-(p:Int))) (jm m e p) (by unfold jm;split<;>omega)),.j 58 ⟨84,true,[(9,.e (iz (ia (nY m e p)))),(10,.e (bP (rS m e more p))),(8,.e (iP (jm m e p))),(6,.box 6 0),(1,.e (iP p)),(2,.e (bP false))],[(6,.cells 37 an)]⟩
   (.w ((jm m e p)<=e)
    (λm1=>by
     have fx:(ia (m*2^(e-(jm m e p)).toNat)).length<=256:=by have:=fa;rwa[show nY m e p=_ from bj m1]at this
     exact aa [.v 29 (.bool (bn m1)),iA (e-(jm m e p)) aA,.o 35 (al (e-(jm m e p)) ((e-(jm m e p)).toNat:Int) aA),.c (xQ m ((e-(jm m e p)).toNat:Nat) aA aA aA)]<|.e (ae [.o 9 (.e (.iD (by rw[show nY m e p=_ from bj m1])):ai (iz (ia (m*2^((e-(jm m e p)).toNat)))) (iz (ia (nY m e p)))),tB 10 (by simp[rS,m1]:more=(rS m e more p))]))
    (λm1=>aa [.v 29 (.bool (bp m1)),iA ((jm m e p)-e) aA,.o 43 (al ((jm m e p)-e) (((jm m e p)-e).toNat:Int) aA),.c (Oa m (((jm m e p)-e).toNat:Nat) aA aA)]<|.w (more=true)
     (λm2=>aa [tB 48 m2]<|.e (ae [.o 9 (.e (.iD (by rw[show nY m e p=_ from bh m1])):ai (iz (ia (m/2^(((jm m e p)-e).toNat)))) (iz (ia (nY m e p)))),tB 10 (by simp[rS,m1,m2]:true=(rS m e more p))]))
     (λm2=>aa [tB 48 (aZ m2)]<|.e (ae [.o 9 (.e (.iD (by rw[show nY m e p=_ from bh m1])):ai (iz (ia (m/2^(((jm m e p)-e).toNat)))) (iz (ia (nY m e p)))),tB 10 (by simp[rS,m1,m2]:(decide (m%2^(((jm m e p)-e).toNat)≠0))=(rS m e more p))])))),af [iz (ia (nY m e p))] (vJ _ aA),iA ((iy (nY m e p):Int)+(jm m e p)) aA]<|.w (16384<((iy (nY m e p):Int)+(jm m e p)))
   (λk1=>by
    have w1:=(vz.resolve_left (λh=>absurd k1 aA)).2.resolve_left (λh=>absurd h.1 aC);have hd:oC (canon false ((1*2^p)-1) (16384-(p:Int))):=by rw[cj,<-w1.2.1];exact(tl false m e more p false aA aA).range
    have g0:iy (1*2^p)=p+1:=by rw[cj];exact yg (bl _) (akd aC aA)
    have g1:(ia 1).length<=256:=qD aC;have g2:(ia (1*2^p)).length<=256:=qD aA;have g4:1<=1*2^p:=by rw[cj];exact bD aC 
    have g3:(ia ((1*2^p)-1)).length<=256:=qD (by have:=vh (eA (1*2^p) 1);omega);exact aa [tB 66 (bn k1),.o 70 (.e Jg:ai OJ (iz (ia 1))),.c (xQ 1 p aA aA aA),.o 73 (.e Jg:ai OJ (iz (ia 1))),af [iz (ia (1*2^p)),iz (ia 1)] (Fw _ _ aA aA aA),iA (16384-(p:Int)) aA,af [bP false,iz (ia ((1*2^p)-1)),iP (16384-(p:Int))] (D1 _ _ _ aA aA aA aB)]<|rQ (.ik [ib (canon false ((1*2^p)-1) (16384-(p:Int))),iP 0]) (.ik [ib (kr false m e more p false),iP (jW false m e more p false)]) (by rw[w1.2.1,w1.2.2,cj]))
   (λk1=>by
    have w1:=vz.resolve_right (λh=>k1 h.1);have hd:oC (canon false (nY m e p) (jm m e p)):=by rw[<-w1.2.1];exact(tl false m e more p false aA aA).range
    exact aa [tB 66 (bp k1),af [bP false,iz (ia (nY m e p)),iP (jm m e p)] (D1 _ _ _ aA aA aA aB)]<|rQ (.ik [ib (canon false (nY m e p) (jm m e p)),iP 0]) (.ik [ib (kr false m e more p false),iP (jW false m e more p false)]) (by rw[w1.2.1,w1.2.2]))) 
def ahf(up:Bool)(p:Nat)(iu:8<=p)(ie:p<=512):gW 293 [.agg [iz (ia 0),iP 0,bP false],iP (p:Int),bP up] (.ik [ib (kr false 0 0 false p up),iP (jW false 0 0 false p up)]):=by
 have hU:jm 0 0 p = -(p:Int):=by unfold jm;rw[vi];omega
 have hK:jJ 0 0 p=0:=by unfold jJ;rw[vi];omega
 have hQ:lj 0 0 false p up=0:=by unfold lj;rw[hK];simp
 have hO:mg 0 0 false p up=false:=by unfold mg;rw[hQ];simp
 have qm:(false != up)=up:=by cases up<;>rfl
 have k2:kr false 0 0 false p up=iL:=by unfold kr;rw[qm,hO,bh aC,hQ];rfl
 have k3:jW false 0 0 false p up=0:=by unfold jW;rw[qm,hO];rfl
 have lz:iy 0=0:=rfl;have l0:(ia 0).length<=256:=by rw[oD];decide
 have l1:(ia (0*2^(0-jm 0 0 p).toNat)).length<=256:=by rw[cH];exact l0
 have lb:iy (0*2^(0-jm 0 0 p).toNat)=0:=by rw[cH];rfl
 have hd:oC (canon false (0*2^(0-jm 0 0 p).toNat) (jm 0 0 p)):=by rw[cH];exact .inl rfl
 by_cases SS:up=true
 .exact aj call293 func293 (aa [af [iz (ia 0)] (vJ _ aA),iA (0+(iy 0:Int)) aA,iA ((0+(iy 0:Int))-(p:Int)) aA,.o 21 (al (if(-16384)>((0+(iy 0:Int))-(p:Int))then(-16384)else((0+(iy 0:Int))-(p:Int))) (jm 0 0 p) (by unfold jm;rw[vi];split<;>omega)),tT 29 ((jm 0 0 p)<=0) aA,iA (0-(jm 0 0 p)) aA,.o 35 (al (0-(jm 0 0 p)) ((0-(jm 0 0 p)).toNat:Int) aA),.c (xQ 0 ((0-(jm 0 0 p)).toNat:Nat) aA aA aA),ag 52 up SS,af [Kd p] (vJ _ aA),
   iA ((iy (0*2^((0-(jm 0 0 p)).toNat)):Int)+(jm 0 0 p)) aA,tF 66 (16384<((iy (0*2^((0-(jm 0 0 p)).toNat)):Int)+(jm 0 0 p))) aA,af [bP false,Kd p,iP (jm 0 0 p)] (D1 _ _ _ aA aA aA aB)]<|rQ (.ik [ib (canon false (0*2^((0-(jm 0 0 p)).toNat)) (jm 0 0 p)),iP 0]) (.ik [ib (kr false 0 0 false p up),iP (jW false 0 0 false p up)]) (by rw[k2,k3,cH];rfl)) 
 .exact aj call293 func293 (aa [af [iz (ia 0)] (vJ _ aA),iA (0+(iy 0:Int)) aA,iA ((0+(iy 0:Int))-(p:Int)) aA,.o 21 (al (if(-16384)>((0+(iy 0:Int))-(p:Int))then(-16384)else((0+(iy 0:Int))-(p:Int))) (jm 0 0 p) (by unfold jm;rw[vi];split<;>omega)),tT 29 ((jm 0 0 p)<=0) aA,iA (0-(jm 0 0 p)) aA,.o 35 (al (0-(jm 0 0 p)) ((0-(jm 0 0 p)).toNat:Int) aA),.c (xQ 0 ((0-(jm 0 0 p)).toNat:Nat) aA aA aA),ah 52 up (by simpa using SS),af [Kd p] (vJ _ aA),
   iA ((iy (0*2^((0-(jm 0 0 p)).toNat)):Int)+(jm 0 0 p)) aA,tF 66 (16384<((iy (0*2^((0-(jm 0 0 p)).toNat)):Int)+(jm 0 0 p))) aA,af [bP false,Kd p,iP (jm 0 0 p)] (D1 _ _ _ aA aA aA aB)]<|rQ (.ik [ib (canon false (0*2^((0-(jm 0 0 p)).toNat)) (jm 0 0 p)),iP 0]) (.ik [ib (kr false 0 0 false p up),iP (jW false 0 0 false p up)]) (by rw[k2,k3,cH];rfl)) 
def Ju(m:Nat)(e:Int)(more up:Bool)(p:Nat)(h1:(ia m).length<=256)(h0:m≠0\/m=0/\e=0/\more=false)(iu:8<=p)(ie:p<=512)(ml:-45000<=e)(lH:e<=45000)(hm:more=true->p<iy m):gW 293 [.agg [iz (ia m),iP e,bP more],iP (p:Int),bP up] (.ik [ib (kr false m e more p up),iP (jW false m e more p up)]):=by
 rcases h0 with h0|⟨rfl,rfl,rfl⟩
 .exact ahe m e more up p h1 h0 iu ie ml lH hm
 .exact ahf up p iu ie
def kF(p:Int):Bool:=decide (8<=p)&&decide (p<=512)
def oG{p:Int}:kF p=true↔8<=p/\p<=512:=by simp[kF]
def zX(p:Int):gW 118 [iP p] (bP (kF p)):=by
 by_cases h:8<=p
 .exact aj call118 func118 (aa [tB 4 (bn h)]<|rQ (bP (decide (p<=512))) (bP (kF p)) (by simp[kF,h])) 
 .exact aj call118 func118 (aa [tB 4 (bp h)]<|rQ (bP false) (bP (kF p)) (by simp[kF,h])) 
def ahi(p:Int):gW 292 [iP p] (bP (kF p)):=by
 by_cases h:8<=p
 .exact aj call292 func292 (aa [tB 4 (bn h)]<|rQ (bP (decide (p<=512))) (bP (kF p)) (by simp[kF,h])) 
 .exact aj call292 func292 (aa [tB 4 (bp h)]<|rQ (bP false) (bP (kF p)) (by simp[kF,h])) 
def I4(p:Int):gW 164 [iP p] (bP (kF p)):=by
 by_cases h:8<=p
 .exact aj call164 func164 (aa [tB 4 (bn h)]<|rQ (bP (decide (p<=512))) (bP (kF p)) (by simp[kF,h])) 
 .exact aj call164 func164 (aa [tB 4 (bp h)]<|rQ (bP false) (bP (kF p)) (by simp[kF,h])) 
def V6(l:List Dy)(p:Nat)(i:Nat):PS:=⟨20,true,[(9,.e (iP i)),(8,.e (iP l.length)),(7,.e (kC l)),(0,.e (iP p))],[]⟩
def FU(neg:Bool)(m:Nat)(e:Int)(more up:Bool)(p:Nat)(h1:(ia m).length<=256)(h0:m≠0\/m=0/\e=0/\more=false)(iu:8<=p)(ie:p<=512)(ml:-45000<=e)(lH:e<=45000)(hm:more=true->p<iy m):gW 246 [bP neg,.agg [iz (ia m),iP e,bP more],iP p,bP up] (.ik [ib (kr neg m e more p up),iP (jW neg m e more p up)]):=by
 cases neg with
 |true=>
  have hs:=Qo true m e more p up;change _/\(jW false m e more p (!(up==true))=0->_->kB (kr false m e more p (!(up==true)))=_)/\((jW false m e more p (!(up==true))≠0\/_)->kr false m e more p (!(up==true))=_)at hs;have hE:jW true m e more p up=jW false m e more p (!(up==true)):=hs.1;have hv:=tl false m e more p (!(up==true)) (aA:1<=p) aA;by_cases hz:jW false m e more p (!(up==true))=0
  .exact aj call246 func246 (aa [af [.agg [iz (ia m),iP e,bP more],iP p,bP (!(up==true))] (Ju _ _ _ _ _ aA aB aA aA aA aA aB),ag 22 ((jW false m e more p (!(up==true)))==0) (by rw[hz];rfl),af [ib (kr false m e more p (!(up==true)))] (xp _ aB)]<|rQ (.ik [ib (kB (kr false m e more p (!(up==true)))),iP (jW false m e more p (!(up==true)))]) (.ik [ib (kr true m e more p up),iP (jW true m e more p up)]) (by rw[hs.2.1 hz rfl,hE])) 
  .exact aj call246 func246 (aa [af [.agg [iz (ia m),iP e,bP more],iP p,bP (!(up==true))] (Ju _ _ _ _ _ aA aB aA aA aA aA aB),ah 22 ((jW false m e more p (!(up==true)))==0) (by simpa using hz)]<|rQ (.ik [ib (kr false m e more p (!(up==true))),iP (jW false m e more p (!(up==true)))]) (.ik [ib (kr true m e more p up),iP (jW true m e more p up)]) (by rw[hs.2.2 (.inl hz),hE])) 
 |false=>
  have hs:=Qo false m e more p up;change _/\(jW false m e more p (!(up==false))=0->_->kB (kr false m e more p (!(up==false)))=_)/\((jW false m e more p (!(up==false))≠0\/_)->kr false m e more p (!(up==false))=_)at hs;have hE:jW false m e more p up=jW false m e more p (!(up==false)):=hs.1;have hv:=tl false m e more p (!(up==false)) (aA:1<=p) aA;by_cases hz:jW false m e more p (!(up==false))=0
  .exact aj call246 func246 (aa [af [.agg [iz (ia m),iP e,bP more],iP p,bP (!(up==false))] (Ju _ _ _ _ _ aA aB aA aA aA aA aB),ag 22 ((jW false m e more p (!(up==false)))==0) (by rw[hz];rfl)]<|rQ (.ik [ib (kr false m e more p (!(up==false))),iP (jW false m e more p (!(up==false)))]) (.ik [ib (kr false m e more p up),iP (jW false m e more p up)]) (by rw[hs.2.2 (.inr rfl),hE])) 
  .exact aj call246 func246 (aa [af [.agg [iz (ia m),iP e,bP more],iP p,bP (!(up==false))] (Ju _ _ _ _ _ aA aB aA aA aA aA aB),ah 22 ((jW false m e more p (!(up==false)))==0) (by simpa using hz)]<|rQ (.ik [ib (kr false m e more p (!(up==false))),iP (jW false m e more p (!(up==false)))]) (.ik [ib (kr false m e more p up),iP (jW false m e more p up)]) (by rw[hs.2.2 (.inl hz),hE])) 
def ahh(d:Dy):gW 294 [ib d] (.agg [iz (ia d.m),iP d.e,bP false]):=
 aj call294 func294 (.nil) 
def V7(p:Nat)(l:List Dy)(hl:l.length<=1000)(hv:∀ i,i<l.length->(l.getD i iL).ic)(iu:8<=p)(ie:p<=512):gW 245 [iP p,kC l] (iP 0):=
 aj call245 func245 (ae [.s (Sp.jE (V6 l p) 0 l.length aA (λi hi mw=>by
    have Io:=hv i mw;exact iF (ae [tT 10 ((i:Int)<l.length) aA,iX (i:Int) (l.length) aA,af [ib (l.getD i iL)] (rT _ aB),iA ((i:Int)+1) aA]) aD)
  (λhi=>by
    exact iF (ae [tF 10 ((l.length:Int)<l.length) aA]) aD) aG:jA 2 f245 (V6 l p 0) (.exit 0) ⟨20,true,[(0,.e (iP p))],[]⟩) .nil,af [iP p] (ahi _),ag 18 (kF (p:Int)) (oG.2 ⟨aA,aA⟩)]) 
def ahg(p:Nat)(a:Dy)(ha:a.ic)(iu:8<=p)(ie:p<=512):gW 245 [iP (p:Int),kC [a]] (iP 0):=
 V7 p [a] aF (λi hi=>(match i,hi with
  | 0,_=>ha
  |n+1,hi=>absurd hi aF)) iu ie
def wV(p:Nat)(a b:Dy)(ha:a.ic)(hb:b.ic)(iu:8<=p)(ie:p<=512):gW 245 [iP (p:Int),kC [a,b]] (iP 0):=
 V7 p [a,b] aF (λi hi=>(match i,hi with
  | 0,_=>ha
  | 1,_=>hb
  |n+2,hi=>absurd hi aF)) iu ie
def Jx(d:Dy)(p:Nat)(up:Bool)(hd:d.ic)(iu:8<=p)(ie:p<=512):gW 251 [ib d,iP p,bP up] (.ik [ib (jd d p up),iP (jI d p up)]):=by
 have hl:=hd.ia;have hz:d.m≠0\/d.m=0/\d.e=0/\false=false:=by
  by_cases h:d.m=0
  .rcases hd.canon with q|q
   .exact .inr ⟨h,q.2.2,rfl⟩
   .omega
  .exact .inl h
 have MG:-45000<=d.e:=by have:=hd.exp;omega
 have wH:d.e<=45000:=by have:=hd.exp;omega
 have hm:false=true->p<iy d.m:=λh=>by cases h
 exact aj call251 func251 (ae [.o 11 (.e (Cf _):ai (.sl true 1 3 λi_ j_=>(jt d).getD (i_*3+j_) (.v (.bool false))) (kC [d])),af [iP p,kC [d]] (ahg _ _ aB aA aA),ah 14 ((0:Int) != 0) aC,.c (ahh d),.c (FU d.neg d.m d.e false up p aA aB aA aA aA aA aB)]) 
def Qe{a b:Nat}:mC a b<0↔a<b:=by
 unfold mC;split
 .simp_all
 .split<;>simp_all
def Jy(a b:Dy)(p:Nat)(ha:a.ic)(hb:b.ic)(a0:a.m≠0)(b0:b.m≠0)(ht:b.iI<=a.iI)(iu:8<=p)(ie:p<=512):gW 252 [ib a,ib b,iP p] (.ik [.agg [iz (ia (lP a b p)),iP (jq a b p),bP (nc a b p)],bP (pI a b p)]):=by
 have sz:=J1 ha hb a0 b0 ht ie;have sp:=Ov ha hb a0 b0 ht ie;obtain⟨l1,l2,l3,l4,l5,l6,l7,l8,l9⟩:=sz;obtain⟨l10,l11,l12⟩:=sp;obtain⟨r1,r2,r3⟩:=Oi a b p;have va:=ha.ia;have vb:=hb.ia;have xa:=ha.exp;have xb:=hb.exp;have ta:=J6 a0;have tb:=J6 b0;have ba:=GA va;have bb:=GA vb;have z1:(ia (a.m*2^((a.e-(jq a b p)).toNat))).length<=256:=qD (aA:iy (nI a b p)<=_);have zy:(ia (mK b (jq a b p))).length<=256:=qD aA;have z3:(ia (mJ a b p)).length<=256:=qD aA;have zm:(ia (lP a b p)).length<=256:=qD aA;have z5:(ia 1).length<=256:=qD aC;exact aj call252 func252 (aa [af [ib a] (sJ _ aB),iA ((Dy.iI a)-(p:Int)) aA,iA (((Dy.iI a)-(p:Int))-8) aA,af [ib a] (sJ _ aB),af [ib b] (sJ _ aB),iA ((Dy.iI a)-(Dy.iI b)) aA,.j 62 ⟨109,true,[(8,.e (iP (jq a b p))),(6,.box 6 0),(4,.box 4 0),(3,.box 3 0)],[(6,.cells 213 [.v (.slice none 0 0),iP 0,bP false]),(4,.cells 37 (jt b)),(3,.cells 37 (jt a))]⟩
   (.w (((Dy.iI a)-(Dy.iI b))<=2)
    (λm1=>aa [.v 31 (.bool (bn m1))]<|.e (ae [.o 8 (al (if b.e<(if(((Dy.iI a)-(p:Int))-8)<a.e then(((Dy.iI a)-(p:Int))-8)else a.e)then b.e else(if(((Dy.iI a)-(p:Int))-8)<a.e then(((Dy.iI a)-(p:Int))-8)else a.e)) (jq a b p) (by unfold jq;rw[bj m1];split<;>split<;>omega))]))
    (λm1=>aa [.v 31 (.bool (bp m1))]<|.e (ae [.o 8 (al (if(((Dy.iI a)-(p:Int))-8)<a.e then(((Dy.iI a)-(p:Int))-8)else a.e) (jq a b p) (by unfold jq;rw[bh m1];split<;>omega))]))),
  iA (a.e-(jq a b p)) aA,.o 41 (al (a.e-(jq a b p)) ((a.e-(jq a b p)).toNat:Int) aA),.c (xQ a.m ((a.e-(jq a b p)).toNat) aA aA aA),.j 92 ⟨109,true,[(10,.e (iz (ia (mK b (jq a b p))))),(11,.e (bP (nv b (jq a b p)))),(9,.e (iz (ia (a.m*2^((a.e-(jq a b p)).toNat))))),(8,.e (iP (jq a b p))),(6,.box 6 0),(4,.box 4 0),(3,.box 3 0)],[(6,.cells 213 [.v (.slice none 0 0),iP 0,bP false]),(4,.cells 37 (jt b)),(3,.cells 37 (jt a))]⟩
   (.w ((jq a b p)<=b.e)
    (λm1=>by
     have z2:(ia (b.m*2^((b.e-(jq a b p)).toNat))).length<=256:=by have:=zy;rwa[show mK b (jq a b p)=_ from bj m1]at this
     exact aa [.v 46 (.bool (bn m1)),iA (b.e-(jq a b p)) aA,.o 52 (al (b.e-(jq a b p)) ((b.e-(jq a b p)).toNat:Int) aA),.c (xQ b.m ((b.e-(jq a b p)).toNat) aA aA aA)]<|.e (ae [.o 10 (.e (.iD (by rw[show mK b (jq a b p)=_ from bj m1])):ai (iz (ia (b.m*2^((b.e-(jq a b p)).toNat)))) (iz (ia (mK b (jq a b p))))),tB 11 (by simp[nv,m1]:false=(nv b (jq a b p)))]))
    (λm1=>aa [.v 46 (.bool (bp m1)),iA ((jq a b p)-b.e) aA,.o 60 (al ((jq a b p)-b.e) (((jq a b p)-b.e).toNat:Int) aA),.c (Oa b.m (((jq a b p)-b.e).toNat) aA aA)]<|.e (ae [.o 10 (.e (.iD (by rw[show mK b (jq a b p)=_ from bh m1])):ai (iz (ia (b.m/2^(((jq a b p)-b.e).toNat)))) (iz (ia (mK b (jq a b p))))),tB 11 (by simp[nv,m1]:(decide (b.m%2^(((jq a b p)-b.e).toNat)≠0))=(nv b (jq a b p)))])))]<|.w (a.neg=b.neg)
  (λk1=>by
   have eT:pI a b p=false:=by unfold pI;simp[k1]
   have eY:mJ a b p=mK b (jq a b p):=by unfold mJ;simp[k1]
   have eM:lP a b p=nI a b p+mK b (jq a b p):=by unfold lP;rw[bj k1,eY]
   have eS:nc a b p=nv b (jq a b p):=by unfold nc;rw[eT];simp
   have z4:(ia ((a.m*2^((a.e-(jq a b p)).toNat))+mK b (jq a b p))).length<=256:=by have:=zm;rwa[eM]at this
   exact aa [tB 68 (aY k1),af [iz (ia (a.m*2^((a.e-(jq a b p)).toNat))),iz (ia (mK b (jq a b p)))] (I5 _ _ aA aA aA)]<|rQ (.ik [.agg [iz (ia ((a.m*2^((a.e-(jq a b p)).toNat))+(mK b (jq a b p)))),iP (jq a b p),bP (nv b (jq a b p))],bP false]) (.ik [.agg [iz (ia (lP a b p)),iP (jq a b p),bP (nc a b p)],bP (pI a b p)]) (by rw[eM,eS,eT];rfl))
  (λk1=>aa [tB 68 (aX k1),.j 158 ⟨109,true,[(10,.e (iz (ia (mJ a b p)))),(11,.e (bP (nv b (jq a b p)))),(9,.e (iz (ia (a.m*2^((a.e-(jq a b p)).toNat))))),(8,.e (iP (jq a b p))),(6,.box 6 0)],[(6,.cells 213 [.v (.slice none 0 0),iP 0,bP false])]⟩
   (.w (nv b (jq a b p)=true)
    (λm1=>by
     have z6:(ia ((mK b (jq a b p))+1)).length<=256:=qD (by rw[show(mK b (jq a b p))+1=mJ a b p by(unfold mJ;simp[k1,m1])];omega);exact aa [.v 79 (.bool m1),.o 82 (.e Jg:ai (.sl false 1 1 λi_ j_=>[.v (.int .u32 1)].getD (i_*1+j_) (.v (.bool false))) (iz (ia 1))),af [iz (ia (mK b (jq a b p))),iz (ia 1)] (I5 _ _ aA aA aA)]<|.e (ae [.o 10 (.e (.iD (by unfold mJ;simp[k1,m1])):ai (iz (ia ((mK b (jq a b p))+1))) (iz (ia (mJ a b p))))]))
    (λm1=>aa [.v 79 (.bool (aZ m1))]<|.e (ae [.o 10 (.e (.iD (by unfold mJ;simp[k1,m1])):ai (iz (ia (mK b (jq a b p)))) (iz (ia (mJ a b p))))]))),af [iz (ia (a.m*2^((a.e-(jq a b p)).toNat))),iz (ia (mJ a b p))] (I6 _ _ aA aA)]<|.w ((mC (a.m*2^((a.e-(jq a b p)).toNat)) (mJ a b p))<0)
   (λk2=>by
    have hc:nI a b p<mJ a b p:=Qe.1 k2;have eT:pI a b p=true:=by unfold pI;simp[k1,hc]
    have eM:lP a b p=mJ a b p-nI a b p:=by unfold lP;rw[bh k1,bj hc]
    have eS:nc a b p=false:=by unfold nc;rw[eT];simp
    have z4:(ia (mJ a b p-(a.m*2^((a.e-(jq a b p)).toNat)))).length<=256:=by have:=zm;rwa[eM]at this
    have z7:(a.m*2^((a.e-(jq a b p)).toNat))<=mJ a b p:=dU hc;exact aa [tB 89 (bn k2),af [iz (ia (mJ a b p)),iz (ia (a.m*2^((a.e-(jq a b p)).toNat)))] (Fw _ _ aA aA aA)]<|rQ (.ik [.agg [iz (ia ((mJ a b p)-(a.m*2^((a.e-(jq a b p)).toNat)))),iP (jq a b p),bP false],bP true]) (.ik [.agg [iz (ia (lP a b p)),iP (jq a b p),bP (nc a b p)],bP (pI a b p)]) (by rw[eM,eS,eT];rfl))
   (λk2=>by
    have hc:¬nI a b p<mJ a b p:=λh=>k2 (Qe.2 h)
    have eT:pI a b p=false:=by unfold pI;simp[hc]
    have eM:lP a b p=nI a b p-mJ a b p:=by unfold lP;rw[bh k1,bh hc]
    have eS:nc a b p=nv b (jq a b p):=by unfold nc;rw[eT];simp
    have z4:(ia ((a.m*2^((a.e-(jq a b p)).toNat))-mJ a b p)).length<=256:=by have:=zm;rwa[eM]at this
    have z7:mJ a b p<=(a.m*2^((a.e-(jq a b p)).toNat)):=Nat.le_of_not_lt hc;exact aa [tB 89 (bp k2),af [iz (ia (a.m*2^((a.e-(jq a b p)).toNat))),iz (ia (mJ a b p))] (Fw _ _ aA aA aA)]<|rQ (.ik [.agg [iz (ia ((a.m*2^((a.e-(jq a b p)).toNat))-(mJ a b p))),iP (jq a b p),bP (nv b (jq a b p))],bP false]) (.ik [.agg [iz (ia (lP a b p)),iP (jq a b p),bP (nc a b p)],bP (pI a b p)]) (by rw[eM,eS,eT];rfl)))) 
def An(p:Nat)(up:Bool):jd iL p up=iL/\jI iL p up=0:=by
 have hK:jJ 0 0 p=0:=by unfold jJ;rw[vi];omega
 have hQ:∀ o,lj 0 0 false p o=0:=by intro o;unfold lj;rw[hK];simp
 have hO:∀ o,mg 0 0 false p o=false:=by intro o;unfold mg;rw[hQ];simp
 unfold jd jI kr jW;simp only[iL,hO,hQ];exact⟨rfl,rfl⟩
def V3(a b:Dy)(p:Nat)(up:Bool)(ha:a.ic)(hb:b.ic)(iu:8<=p)(ie:p<=512):gW 205 [ib a,ib b,iP p,bP up] (.ik [ib (jd (iR a b) p up),iP (jI (iR a b) p up)]):=by
 by_cases a0:a.m=0
 .have e1:iR a b=b:=by unfold iR;rw[bj a0]
  exact aj call205 func205 (aa [.o 16 (.e (wm _ _):ai (.sl true 2 3 λi_ j_=>(jt a++jt b).getD (i_*3+j_) (.v (.bool false))) (kC [a,b])),af [iP p,kC [a,b]] (wV _ _ _ aB aB aA aA),ah 19 ((0:Int) != 0) aC,ag 26 (((ia a.m).length:Int)==0) (r9 (uI.2 a0)),.c (Jx b p up aB aA aA)]<|rQ (.ik [ib (jd b p up),iP (jI b p up)]) (.ik [ib (jd (iR a b) p up),iP (jI (iR a b) p up)]) (by rw[e1])) 
 .by_cases b0:b.m=0
  .have e1:iR a b=a:=by unfold iR;rw[bh a0,bj b0]
   exact aj call205 func205 (aa [.o 16 (.e (wm _ _):ai (.sl true 2 3 λi_ j_=>(jt a++jt b).getD (i_*3+j_) (.v (.bool false))) (kC [a,b])),af [iP p,kC [a,b]] (wV _ _ _ aB aB aA aA),ah 19 ((0:Int) != 0) aC,ah 26 (((ia a.m).length:Int)==0) (oF (pQ a0)),ag 37 (((ia b.m).length:Int)==0) (r9 (uI.2 b0)),.c (Jx a p up aB aA aA)]<|rQ (.ik [ib (jd a p up),iP (jI a p up)]) (.ik [ib (jd (iR a b) p up),iP (jI (iR a b) p up)]) (by rw[e1])) 
  .by_cases ht:a.iI<b.iI
   .have EJ:a.iI<=b.iI:= aA ;have law:=WU (p:=p) hb ha b0 a0 up;have siz:=J1 hb ha b0 a0 EJ ie;have prt:=Ov hb ha b0 a0 EJ ie;obtain⟨l1,l2,_,_,_,_,_,_,_⟩:=siz;have z1:(ia (lP b a p)).length<=256:=qD aA;have pA:=prt.2.2;have y1:-45000<=jq b a p:= aA ;have y2:jq b a p<=45000:= aA ;by_cases hz:lP b a p=0
    .by_cases hl:nc b a p=true
     .have h0:lP b a p≠0:=by intro q;have:=pA hl;rw[q,vi]at this;omega
      exact absurd hz h0
     .replace hz:lP b a p=0/\nc b a p=false:=⟨hz,by simpa using hl⟩
      have CC:iR a b=iL:=by rw[Ou a0 b0];exact law.1 hz
      exact aj call205 func205 (aa [.o 16 (.e (wm _ _):ai (.sl true 2 3 λi_ j_=>(jt a++jt b).getD (i_*3+j_) (.v (.bool false))) (kC [a,b])),af [iP p,kC [a,b]] (wV _ _ _ aB aB aA aA),ah 19 ((0:Int) != 0) aC,ah 26 (((ia a.m).length:Int)==0) (oF (pQ a0)),ah 37 (((ia b.m).length:Int)==0) (oF (pQ b0)),af [ib a] (sJ _ aB),af [ib b] (sJ _ aB),tB 48 (bn ht),.c (Jy b a p aB aB aB aB aB aA aA),ag 61 (((ia (lP b a p)).length:Int)==0) (r9 (uI.2 hz.1)),ah 64 (nc b a p) hz.2,.o 67 (.e tc:ai (.agg an) (ib iL))]<|rQ (.ik [ib iL,iP 0]) (.ik [ib (jd (iR a b) p up),iP (jI (iR a b) p up)]) (by rw[CC,(An p up).1,(An p up).2])) 
    .have h0:lP b a p≠0\/lP b a p=0/\jq b a p=0/\nc b a p=false:=.inl hz;obtain⟨q1,q2⟩:=law.2 (λq=>hz q.1);rw[<-Ou a0 b0]at q1 q2;exact aj call205 func205 (aa [.o 16 (.e (wm _ _):ai (.sl true 2 3 λi_ j_=>(jt a++jt b).getD (i_*3+j_) (.v (.bool false))) (kC [a,b])),af [iP p,kC [a,b]] (wV _ _ _ aB aB aA aA),ah 19 ((0:Int) != 0) aC,ah 26 (((ia a.m).length:Int)==0) (oF (pQ a0)),ah 37 (((ia b.m).length:Int)==0) (oF (pQ b0)),af [ib a] (sJ _ aB),af [ib b] (sJ _ aB),tB 48 (bn ht),.c (Jy b a p aB aB aB aB aB aA aA),ah 61 (((ia (lP b a p)).length:Int)==0) (oF (pQ hz)),.c (FU (! (b.neg==(pI b a p))) (lP b a p) (jq b a p) (nc b a p) up p aA aB aA aA aA aA aB)]<|rQ (.ik [ib (kr (!(b.neg==(pI b a p))) (lP b a p) (jq b a p) (nc b a p) p up),iP (jW (!(b.neg==(pI b a p))) (lP b a p) (jq b a p) (nc b a p) p up)]) (.ik [ib (jd (iR a b) p up),iP (jI (iR a b) p up)]) (by rw[<-q1,<-q2];rfl)) 
   .have EJ:b.iI<=a.iI:= aA ;have law:=WU (p:=p) ha hb a0 b0 up;have siz:=J1 ha hb a0 b0 EJ ie;have prt:=Ov ha hb a0 b0 EJ ie;obtain⟨l1,l2,_,_,_,_,_,_,_⟩:=siz;have z1:(ia (lP a b p)).length<=256:=qD aA;have pA:=prt.2.2;have y1:-45000<=jq a b p:= aA ;have y2:jq a b p<=45000:= aA ;by_cases hz:lP a b p=0
    .by_cases hl:nc a b p=true
     .have h0:lP a b p≠0:=by intro q;have:=pA hl;rw[q,vi]at this;omega
      exact absurd hz h0
     .replace hz:lP a b p=0/\nc a b p=false:=⟨hz,by simpa using hl⟩
      have CC:iR a b=iL:=by exact law.1 hz
      exact aj call205 func205 (aa [.o 16 (.e (wm _ _):ai (.sl true 2 3 λi_ j_=>(jt a++jt b).getD (i_*3+j_) (.v (.bool false))) (kC [a,b])),af [iP p,kC [a,b]] (wV _ _ _ aB aB aA aA),ah 19 ((0:Int) != 0) aC,ah 26 (((ia a.m).length:Int)==0) (oF (pQ a0)),ah 37 (((ia b.m).length:Int)==0) (oF (pQ b0)),af [ib a] (sJ _ aB),af [ib b] (sJ _ aB),tB 48 (bp ht),.c (Jy a b p aB aB aB aB aB aA aA),ag 61 (((ia (lP a b p)).length:Int)==0) (r9 (uI.2 hz.1)),ah 64 (nc a b p) hz.2,.o 67 (.e tc:ai (.agg an) (ib iL))]<|rQ (.ik [ib iL,iP 0]) (.ik [ib (jd (iR a b) p up),iP (jI (iR a b) p up)]) (by rw[CC,(An p up).1,(An p up).2])) 
    .have h0:lP a b p≠0\/lP a b p=0/\jq a b p=0/\nc a b p=false:=.inl hz;obtain⟨q1,q2⟩:=law.2 (λq=>hz q.1);exact aj call205 func205 (aa [.o 16 (.e (wm _ _):ai (.sl true 2 3 λi_ j_=>(jt a++jt b).getD (i_*3+j_) (.v (.bool false))) (kC [a,b])),af [iP p,kC [a,b]] (wV _ _ _ aB aB aA aA),ah 19 ((0:Int) != 0) aC,ah 26 (((ia a.m).length:Int)==0) (oF (pQ a0)),ah 37 (((ia b.m).length:Int)==0) (oF (pQ b0)),af [ib a] (sJ _ aB),af [ib b] (sJ _ aB),tB 48 (bp ht),.c (Jy a b p aB aB aB aB aB aA aA),ah 61 (((ia (lP a b p)).length:Int)==0) (oF (pQ hz)),.c (FU (! (a.neg==(pI a b p))) (lP a b p) (jq a b p) (nc a b p) up p aA aB aA aA aA aA aB)]<|rQ (.ik [ib (kr (!(a.neg==(pI a b p))) (lP a b p) (jq a b p) (nc a b p) p up),iP (jW (!(a.neg==(pI a b p))) (lP a b p) (jq a b p) (nc a b p) p up)]) (.ik [ib (jd (iR a b) p up),iP (jI (iR a b) p up)]) (by rw[<-q1,<-q2];rfl)) 
def V8(a b:Dy)(p:Nat)(up:Bool)(ha:a.ic)(hb:b.ic)(iu:8<=p)(ie:p<=512):gW 198 [ib a,ib b,iP p,bP up] (.ik [ib (jd (mI a b) p up),iP (jI (mI a b) p up)]):=by
 by_cases a0:a.m=0
 .have e1:mI a b=iL:=by unfold mI;rw[a0,cH];rfl
  exact aj call198 func198 (aa [.o 16 (.e (wm _ _):ai (.sl true 2 3 λi_ j_=>(jt a++jt b).getD (i_*3+j_) (.v (.bool false))) (kC [a,b])),af [iP p,kC [a,b]] (wV _ _ _ aB aB aA aA),ah 19 ((0:Int) != 0) aC,ag 25 (((ia a.m).length:Int)==0) (r9 (uI.2 a0)),.o 32 (.e tc:ai (.agg an) (ib iL))]<|rQ (.ik [ib iL,iP 0]) (.ik [ib (jd (mI a b) p up),iP (jI (mI a b) p up)]) (by rw[e1,(An p up).1,(An p up).2])) 
 .by_cases b0:b.m=0
  .have e1:mI a b=iL:=by unfold mI;rw[b0,cT];rfl
   exact aj call198 func198 (aa [.o 16 (.e (wm _ _):ai (.sl true 2 3 λi_ j_=>(jt a++jt b).getD (i_*3+j_) (.v (.bool false))) (kC [a,b])),af [iP p,kC [a,b]] (wV _ _ _ aB aB aA aA),ah 19 ((0:Int) != 0) aC,ah 25 (((ia a.m).length:Int)==0) (oF (pQ a0)),ag 30 (((ia b.m).length:Int)==0) (r9 (uI.2 b0)),.o 32 (.e tc:ai (.agg an) (ib iL))]<|rQ (.ik [ib iL,iP 0]) (.ik [ib (jd (mI a b) p up),iP (jI (mI a b) p up)]) (by rw[e1,(An p up).1,(An p up).2])) 
  .have va:=ha.ia;have vb:=hb.ia;have xa:=ha.exp;have xb:=hb.exp;have ra:=ha.range.resolve_left a0;have rb:=hb.range.resolve_left b0;have bm:=YJ a.m b.m;have z1:(ia (a.m*b.m)).length<=256:=qD aA;have m0:a.m*b.m≠0:=eo a0 b0;have h0:a.m*b.m≠0\/a.m*b.m=0/\a.e+b.e=0/\false=false:=.inl m0;have hm:false=true->p<iy (a.m*b.m):=λh=>by cases h
   obtain⟨q1,q2⟩:=Wj (a.neg != b.neg) up (a.m*b.m) (a.e+b.e) p m0;change jd (mI a b) p up=_ at q1;change jI (mI a b) p up=_ at q2;exact aj call198 func198 (aa [.o 16 (.e (wm _ _):ai (.sl true 2 3 λi_ j_=>(jt a++jt b).getD (i_*3+j_) (.v (.bool false))) (kC [a,b])),af [iP p,kC [a,b]] (wV _ _ _ aB aB aA aA),ah 19 ((0:Int) != 0) aC,ah 25 (((ia a.m).length:Int)==0) (oF (pQ a0)),ah 30 (((ia b.m).length:Int)==0) (oF (pQ b0)),af [iz (ia a.m),iz (ia b.m)] (afV _ _ aA aA aA),iA (a.e+b.e) aA,.c (FU (! (a.neg==b.neg)) (a.m*b.m) (a.e+b.e) false up p aA aB aA aA aA aA aB)]<|rQ (.ik [ib (kr (!(a.neg==b.neg)) (a.m*b.m) (a.e+b.e) false p up),iP (jW (!(a.neg==b.neg)) (a.m*b.m) (a.e+b.e) false p up)]) (.ik [ib (jd (mI a b) p up),iP (jI (mI a b) p up)]) (by rw[q1,q2];rfl)) 
def Jt(a b:Dy)(p:Nat)(ha:a.ic)(hb:b.ic)(iu:8<=p)(ie:p<=512):gW 125 [ib a,ib b,iP p] (.ik [ib (jd (iR a b) p false),iP (jI (iR a b) p false)]):=
 aj call125 func125 (ae [.c (V3 a b p false aB aB aA aA)]) 
def FT(a b:Dy)(p:Nat)(ha:a.ic)(hb:b.ic)(iu:8<=p)(ie:p<=512):gW 126 [ib a,ib b,iP p] (.ik [ib (jd (iR a b) p true),iP (jI (iR a b) p true)]):=
 aj call126 func126 (ae [.c (V3 a b p true aB aB aA aA)]) 
def Jv(a b:Dy)(p:Nat)(ha:a.ic)(hb:b.ic)(iu:8<=p)(ie:p<=512):gW 120 [ib a,ib b,iP p] (.ik [ib (jd (mI a b) p false),iP (jI (mI a b) p false)]):=
 aj call120 func120 (ae [.c (V8 a b p false aB aB aA aA)]) 
def N9(a b:Dy)(p:Nat)(ha:a.ic)(hb:b.ic)(iu:8<=p)(ie:p<=512):gW 121 [ib a,ib b,iP p] (.ik [ib (jd (mI a b) p true),iP (jI (mI a b) p true)]):=
 aj call121 func121 (ae [.c (V8 a b p true aB aB aA aA)]) 
end Go.Proofs.YtjkmahljfblobaaGreatDoor
namespace Go.Proofs.YtjkmahljfblobaaGreatDoor.Fp
def aen{U V P q:Nat}(hP:0<P)(hV:9223372036854775808<=V/P)(hUV:U<4294967296*V)(h1:q<=4294967295)(h2:q<=U/P/(V/P))(h3:q=4294967295\/U/P/(V/P)<=q):
 U/V<=q/\q<=U/V+1:=by
 have LW:0<V/P:= aA ;have wu:0<V:=by
  apply ch;intro h;have:V=0:= aA ;rw[this,Nat.zero_div]at LW;omega
 have hVm:=cQ V P;have hVr:=bI V hP;have hUm:=cQ U P;have hUr:=bI U hP;constructor
 .
  rcases h3 with h3|h3
  .have:U/V<4294967296:=by rw[cF wu];exact hUV
   omega
  .refine bK ?_ h3;rw[dq LW,dq hP,bE];have h4:V/P*P<=V:=eJ V P;exact bK (cM _ h4) (eJ U V)
 .
  have h4:q*(V/P)<=U/P:=(dq LW).1 h2;have h5:q*V<=q*(V/P)*P+q*P:=by
   have:V<=V/P*P+P:=by rw[bM];omega
   have:=cM q this;rw[bU,<-bE]at this;exact this
  have h6:q*(V/P)*P<=U:=bK (bN P h4) (eJ U P);have h7:(q+1)*P<=V/P*P:=bN P aA;have h8:V/P*P<=V:=eJ V P;have h9:q*V<U+V:=by
   rw[bS,cj]at h7;omega
  apply ch;intro h;have mY:(U/V+2)*V<=q*V:=bN V aA;have mZ:=cQ U V;have h12:=bI U wu;rw[bS,bM (U/V)]at mY;omega
def ZN{x v w third q rest:Nat}(hx:q*v+rest=x)(hq:q<=4294967295)(hw:w<4294967296)(hv:0<v)
 (h:4294967296<=rest\/q*w<=rest*4294967296+third):q<=(x*4294967296+third)/(v*4294967296+w):=by
 rw[dq aA,bU,<-hx];have e:q*(v*4294967296)=q*v*4294967296:=by rw[bE]
 rw[e,bS];rcases h with h|h
 .have h1:q*w<=4294967295*4294967295:=eC hq aA ;omega
 .omega
def Qy{x v w third q rest:Nat}(hx:q*v+rest=x)(hv:0<v)(h:rest*4294967296+third<q*w):
 (x*4294967296+third)/(v*4294967296+w)<=q-1/\0<q/\(q-1)*v+(rest+v)=x:=by
 have hq:0<q:=by
  apply ch;intro h';have:q=0:= aA ;subst this;rw[cH]at h;omega
 obtain⟨r,rfl⟩:∃ r,q=r+1:=⟨q-1,aA⟩
 refine⟨?_,hq,?_⟩
 .have e1:(r+1)*(v*4294967296+w)=(r+1)*v*4294967296+(r+1)*w:=by rw[bU,<-bE]
  have e2:((r+1)*v+rest)*4294967296=(r+1)*v*4294967296+rest*4294967296:=bS _ _ _;have:(x*4294967296+third)/(v*4294967296+w)<r+1:=by
   have hd:0<v*4294967296+w:= aA ;have e4:x*4294967296=(r+1)*v*4294967296+rest*4294967296:=hx▸e2;refine(cF hd).2 ?_;rw[e1,e4];clear e1 e2 e4 hd hx hq;generalize (r+1)*v=a at *
   generalize (r+1)*w=z at *
   exact Nat.add_lt_add_left h _|>λh=>by rw[<-cN]at h;exact h
  omega
 .have e3:(r+1)*v=r*v+v:=Nat.succ_mul r v;rw[ek];rw[e3]at hx;clear e3 h hq;generalize r*v=a at *
  omega
def ZP{x v w third:Nat}(hv:0<v)(ht:third<4294967296):(x*4294967296+third)/(v*4294967296+w)<=x/v:=by
 have h1:(x*4294967296+third)/(v*4294967296+w)<=(x*4294967296+third)/(v*4294967296):=Nat.div_le_div_left aA aA;refine bK h1 ?_;rw[bM v,<-dv];have:(x*4294967296+third)/4294967296=x:= aA ;rw[this];exact bl _
structure xh(O0:List Nat)(j q:Nat)(V:List Nat)(k:Nat)(O:List Nat)(c b:Nat):Prop where
 len:O.length=O0.length
 ok:iM O
 vl:val O+q*(4294967296^j*val (V.take k))=val O0+4294967296^(j+k)*(c+b)
 qu:∀ i,j+k<=i->O.getD i 0=O0.getD i 0
 PN:c<4294967296
 PD:b<=1
def xh.start{O0:List Nat}(h:iM O0)(j q:Nat)(V:List Nat):xh O0 j q V 0 O0 0 0:=
 ⟨rfl,h,by simp[val],λ_ _=>rfl,aC,aC⟩
def aja{q y c b u:Nat}(hq:q<=4294967295)(hy:y<4294967296)(hc:c<4294967296)(hb:b<=1)(hu:u<4294967296):
 q*y+c<18446744073709551616/\(q*y+c)/4294967296<4294967296 /\
 ((u+18446744073709551616-(q*y+c)%4294967296-b)%18446744073709551616)/9223372036854775808<=1 /\
 ((u+18446744073709551616-(q*y+c)%4294967296-b)%18446744073709551616)%4294967296+(q*y+c)%4294967296+b =
  u+4294967296*(((u+18446744073709551616-(q*y+c)%4294967296-b)%18446744073709551616)/9223372036854775808):=by
 have h1:q*y<=4294967295*4294967295:=eC hq aA;generalize q*y=z at *
 omega
def xh.step{O0 V O:List Nat}{j q k c b:Nat}(h:xh O0 j q V k O c b){u' b':Nat}(hk:k<V.length)(hj:j+V.length<O0.length)(hu:u'<4294967296)(hc:(q*V.getD k 0+c)/4294967296<4294967296)(hb:b'<=1)
 (hd:u'+(q*V.getD k 0+c)%4294967296+b=O.getD (j+k) 0+4294967296*b'):
 xh O0 j q V (k+1) (O.set (j+k) u') ((q*V.getD k 0+c)/4294967296) b':=by
 have qk:j+k<O.length:=by rw[h.len];omega
 refine⟨by rw[cL];exact h.len,h.ok.set _ hu,?_,λi hi=>?_,hc,hb⟩
 .have e:=en (q*V.getD k 0+c) 4294967296;have h1:=BY (x:=u') qk;have h2:=h.vl;have h3:u'+(q*V.getD k 0+c)+b=O.getD (j+k) 0+4294967296*((q*V.getD k 0+c)/4294967296+b'):= aA ;have h4:=congrArg (4294967296^(j+k) * ·) h3;simp only[bU]at h4;rw[As,bU (4294967296^j),bU q,<-bE (4294967296^j),<-bA,show q*(4294967296^(j+k)*V.getD k 0)=4294967296^(j+k)*(q*V.getD k 0)from eE _ _ _,
   show j+(k+1)=j+k+1 from rfl,bT,bE,bU 4294967296,bU (4294967296^(j+k))]
  rw[bU]at h2;omega
 .rw [zC aA];exact h.qu i aA 
def xh.M6{O0 V O:List Nat}{j q c b:Nat}(h:xh O0 j q V V.length O c b)(hj:j+V.length<O0.length){t:Nat}
 (ht:t=(O.getD (j+V.length) 0+18446744073709551616-c-b)%18446744073709551616):
 (O.set (j+V.length) (t%4294967296)).length=O0.length/\iM (O.set (j+V.length) (t%4294967296))/\t/9223372036854775808<=1 /\
 val (O.set (j+V.length) (t%4294967296))+q*(4294967296^j*val V)=val O0+4294967296^(j+V.length+1)*(t/9223372036854775808) /\
 ∀ i,j+V.length<i->(O.set (j+V.length) (t%4294967296)).getD i 0=O0.getD i 0:=by
 have qk:j+V.length<O.length:=by rw[h.len];omega
 have hc:=h.PN;have hb:=h.PD;have hu:=h.ok.getD (j+V.length);have hd:t%4294967296+c+b=O.getD (j+V.length) 0+4294967296*(t/9223372036854775808):= aA ;refine⟨by rw[cL];exact h.len,h.ok.set _ (bI _ aC),aA,?_,λi hi=>by rw[zC aA];exact h.qu i aA⟩;have h1:=BY (x:=t%4294967296) qk;have h2:=h.vl;rw[gp]at h2;have h4:=congrArg (4294967296^(j+V.length) * ·) hd;simp only[bU]at h4;rw[bT,bE];rw[bU]at h2;omega
structure xc(O0:List Nat)(j:Nat)(V:List Nat)(k:Nat)(O:List Nat)(c:Nat):Prop where
 len:O.length=O0.length
 ok:iM O
 vl:val O+4294967296^(j+k)*c=val O0+4294967296^j*val (V.take k)
 qu:∀ i,j+k<=i->O.getD i 0=O0.getD i 0
 KN:c<=1
def xc.start{O0:List Nat}(h:iM O0)(j:Nat)(V:List Nat):xc O0 j V 0 O0 0:=
 ⟨rfl,h,by simp[val],λ_ _=>rfl,aC⟩
def xc.step{O0 V O:List Nat}{j k c:Nat}(h:xc O0 j V k O c)(hV:iM V)(hk:k<V.length)(hj:j+V.length<O0.length):
 xc O0 j V (k+1) (O.set (j+k) ((O.getD (j+k) 0+V.getD k 0+c)%4294967296)) ((O.getD (j+k) 0+V.getD k 0+c)/4294967296):=by
 have qk:j+k<O.length:=by rw[h.len];omega
 have hu:=h.ok.getD (j+k);have hy:=hV.getD k;have hc:=h.KN;refine⟨by rw[cL];exact h.len,h.ok.set _ (bI _ aC),?_,λi hi=>by rw[zC aA];exact h.qu i aA,aA⟩;have h1:=BY (x:=(O.getD (j+k) 0+V.getD k 0+c)%4294967296) qk;have h2:=h.vl;have h4:=congrArg (4294967296^(j+k) * ·) (en (O.getD (j+k) 0+V.getD k 0+c) 4294967296);simp only[bU]at h4;rw[As,bU (4294967296^j),<-bE (4294967296^j),<-bA,show j+(k+1)=j+k+1 from rfl,bT,bE];omega
def xc.M6{O0 V O:List Nat}{j c:Nat}(h:xc O0 j V V.length O c)(hj:j+V.length<O0.length):
 (O.set (j+V.length) ((O.getD (j+V.length) 0+c)%4294967296)).length=O0.length/\iM (O.set (j+V.length) ((O.getD (j+V.length) 0+c)%4294967296)) /\
 (∃ κ,κ<=1/\val (O.set (j+V.length) ((O.getD (j+V.length) 0+c)%4294967296))+4294967296^(j+V.length+1)*κ=val O0+4294967296^j*val V) /\
 ∀ i,j+V.length<i->(O.set (j+V.length) ((O.getD (j+V.length) 0+c)%4294967296)).getD i 0=O0.getD i 0:=by
 have qk:j+V.length<O.length:=by rw[h.len];omega
 have hu:=h.ok.getD (j+V.length);have hc:=h.KN;refine⟨by rw[cL];exact h.len,h.ok.set _ (bI _ aC),⟨(O.getD (j+V.length) 0+c)/4294967296,aA,?_⟩,λi hi=>by rw[zC aA];exact h.qu i aA⟩;have h1:=BY (x:=(O.getD (j+V.length) 0+c)%4294967296) qk;have h2:=h.vl;rw[gp]at h2;have h4:=congrArg (4294967296^(j+V.length) * ·) (en (O.getD (j+V.length) 0+c) 4294967296);simp only[bU]at h4;rw[bT,bE];omega
def Xo{O:List Nat}(h:iM O){k:Nat}(hz:∀ i,k<=i->O.getD i 0=0):val O<4294967296^k:=by
 by_cases hk:O.length<=k
 .exact bO (pq h) (b9 aC hk)
 .rw [Ds O k aA];have:val (O.drop k)=0:=by
   rw[Gh];intro x hx;obtain⟨i,hi⟩:=dh.1 hx;rw[dp]at hi;have:=hz (k+i) aA;rw[bk,hi]at this;exact this
  rw[this,cT,bW];have h1:=pq (h.take k);rw[cC,dj aA]at h1;exact h1
def aji{O:List Nat}(h:iM O){k:Nat}(hv:val O<4294967296^k){i:Nat}(hi:k<=i):O.getD i 0=0:=by
 have h1:val (O.drop k)=0:=by rw[Gg h,dk hv]
 rw[Gh]at h1;rw[bk];cases hg:O[i]? with
 |none=>rfl
 |some x=>exact h1 x (dh.2 ⟨i-k,by rw[dp,(aA:k+(i-k)=i)];exact hg⟩)
def Qz{u u' V P x:Nat}(hP:0<P)(hV:0<V)(h:u'+x*(P*V)=u)(hx:u/P/V<=x):x=u/P/V/\u'<V*P:=by
 have h1:x*V<=u/P:=by
  rw[dq hP,bE,bM V P];omega
 have h2:x<=u/P/V:=(dq hV).2 h1;have h3:x=u/P/V:= aA ;refine⟨h3,?_⟩;have e1:=cQ u P;have e2:=bI u hP;have e3:=cQ (u/P) V;have e4:=bI (u/P) hV;rw[<-h3]at e3;have e5:P*(u/P)=x*(P*V)+P*(u/P%V):=by
  rw[<-e3,bU,e3,bM V x,eE]
 have e6:P*(u/P%V)+P<=V*P:=by
  rw[bM V P,<-Nat.mul_succ];exact cM P e4
 omega
def ZO{u u' u'' V P R x κ:Nat}(hP:0<P)(hV:0<V)(h:u'+x*(P*V)=u+R)(h':u'<R)(hx:x<=u/P/V+1)
 (hk:κ<=1) (h2:u''+R*κ=u'+P*V) (h3:u''<R):0<x/\x-1=u/P/V/\u''+(x-1)*(P*V)=u/\u''<V*P:=by
 have oZ:u/P<x*V:=by
  rw[cF hP,bE,bM V P];omega
 have MG:u/P/V<x:=by rw[cF hV];exact oZ
 have wH:x=u/P/V+1:=Nat.le_antisymm hx MG;obtain⟨y,hy⟩:∃ y,y=u/P/V:=⟨_,rfl⟩
 rw[<-hy]at wH;subst wH;rw[ek];have e0:(y+1)*(P*V)=y*(P*V)+P*V:=Nat.succ_mul _ _;have e1:y*(P*V)<=u:=by
  have:y*V<=u/P:=by rw[hy];exact eJ _ _
  have:=(dq hP).1 this;rw[bE,bM V P]at this;exact this
 have hκ:κ=1:=by
  apply ch;intro q;obtain rfl:κ=0:= aA ;omega
 subst hκ;have e2:u''+y*(P*V)=u:= aA ;exact⟨aA,hy,e2,(Qz hP hV e2 aA).2⟩
def sI(q rest third v w x:Nat):Prop:=rest+x*v<4294967296/\(rest+x*v)*4294967296+third<(q-x)*w
def Qw{X q rest third v w:Nat}(hx:q*v+rest=X)(hq:q<=4294967295)(hv:2147483648<=v)(hw:w<4294967296):
 ∃ N,N<=2/\N<=q/\(∀ x,x<N->sI q rest third v w x)/\¬sI q rest third v w N/\q-N<=(X*4294967296+third)/(v*4294967296+w)/\(N=0\/(X*4294967296+third)/(v*4294967296+w)<=q-N):=by
 have stop:∀ {q' r':Nat},q'*v+r'=X->q'<=4294967295->¬(r'<4294967296/\r'*4294967296+third<q'*w)->q'<=(X*4294967296+third)/(v*4294967296+w):=fun {q' r'} h1 h2 h3=>
  ZN h1 h2 hw aA (by
   by_cases hr:4294967296<=r'
   .exact .inl hr
   .refine .inr (Nat.le_of_not_lt λhn=>h3 ⟨Nat.lt_of_not_le hr,hn⟩))
 by_cases h0:sI q rest third v w 0
 .have g0:=h0;unfold sI at g0;rw[cH,bW,dS]at g0;obtain⟨k1,k2,k3⟩:=Qy hx aA g0.2;by_cases h1:sI q rest third v w 1
  .have g1:=h1;unfold sI at g1;rw[cj]at g1;obtain⟨l1,l2,l3⟩:=Qy k3 aA g1.2;have h2:¬sI q rest third v w 2:=λh=>by unfold sI at h;omega
   refine⟨2,bl _,aA,λx hx=>?_,h2,?_,.inr l1⟩
   .obtain rfl|rfl:x=0\/x=1:= aA 
    .exact h0
    .exact h1
   .refine stop (r':=rest+v+v) l3 aA λh=> aA 
  .refine ⟨1,aC,k2,λx hx=>?_,h1,?_,.inr k1⟩
   .obtain rfl:x=0:= aA ;exact h0
   .unfold sI at h1;rw[cj]at h1;exact stop k3 aA h1
 .refine ⟨0,aC,cg _,λx hx=>absurd hx (bu x),h0,?_,.inl rfl⟩;unfold sI at h0;rw[cH,bW,dS]at h0;exact stop hx hq h0
def Z6{a b s q r:Nat}(hb:0<b)(h:r+b*2^s*q=a*2^s)(hr:r<b*2^s):q=a/b/\r=a%b*2^s:=by
 have hp:0<2^s:=bD aC;have h1:r%2^s=0:=by
  have:=congrArg (· % 2^s) h;simp only[fj]at this;rw[bE,eE,dX]at this;exact this
 obtain⟨t,ht⟩:∃ t,r=t*2^s:=⟨r/2^s,by rw[Nat.div_mul_cancel (Nat.dvd_of_mod_eq_zero h1)]⟩
 subst ht;have h2:(t+b*q)*2^s=a*2^s:=by rw[bS,<-h,fO]
 have h3:=akE hp h2;have h4:t<b:=akF hr;constructor
 .rw [<-h3,eK _ _ hb,dk h4,bX]
 .rw [<-h3,dX,ct h4]
def W7{O:List Nat}(h:iM O){j n:Nat}(hn:2<=n)(hz:∀ i,j+n<i->O.getD i 0=0):
 val O/4294967296^j/4294967296^(n-2)=(O.getD (j+n) 0*4294967296+O.getD (j+n-1) 0)*4294967296+O.getD (j+n-2) 0:=by
 rw[dv,<-bA,<-Gg h];have e:∀ (l:List Nat),iM l->(∀ i,2<i->l.getD i 0=0)->val l=(l.getD 2 0*4294967296+l.getD 1 0)*4294967296+l.getD 0 0:=by
  intro l hl hz;rcases l with _|⟨a,_|⟨b,_|⟨c,l⟩⟩⟩
  .rfl
  .simp [val]
  .simp [val];omega
  .have:val l=0:=by
    rw[Gh];intro x hx;obtain⟨i,hi⟩:=dh.1 hx;have:=hz (i+3) aA;rw[bk]at this;simp only[akw,hi]at this;exact this
   simp[val,this];omega
 have g:∀ i,(O.drop (j+(n-2))).getD i 0=O.getD (j+(n-2)+i) 0:=λi=>by
  rw[bk,dp,bk]
 rw[e _ (h.drop _) (λi hi=>by rw[g];exact hz _ aA),g,g,g];rw[(aA:j+(n-2)+2=j+n),(aA:j+(n-2)+1=j+n-1),(aA:j+(n-2)+0=j+n-2)]
def ajh{V:List Nat}(h:iM V){n:Nat}(hn:2<=n)(hl:V.length=n):val V/4294967296^(n-2)=V.getD (n-1) 0*4294967296+V.getD (n-2) 0:=by
 have:=W7 (O:=V) h (j:=0) (n:=n) hn (λi hi=>by rw[bk,bR aA];rfl);rw[cR,fG,bX]at this;rw[this,show V.getD n 0=0 by rw[bk,bR aA];rfl];omega
end Go.Proofs.YtjkmahljfblobaaGreatDoor.Fp
namespace Go.Proofs.YtjkmahljfblobaaGreatDoor
open Go.RowKit Fp
def Rx(w:World)(b:Nat)(L:List Nat)(R:List Value):Prop:=w.heap[b]? = some (.cells (oq L++R).toArray 95 (0,0))
section
variable {w w':World} {b:Nat} {L:List Nat} {R:List Value}
def Rx.lt(h:Rx w b L R):b<w.heap.size:=(cX.1 h).1
def Rx.cell(h:Rx w b L R){i:Nat}(hi:i<L.length):w.cell? ⟨b,i,none⟩=some (.int .u32 (L.getD i 0:Int)):=by
 unfold Rx at h;simp only[World.cell?,h];simp[oq,hi,dY]
def Rx.frozen(h:Rx w b L R)(i:Nat):w.frozen? ⟨b,i,none⟩=false:=by
 unfold Rx at h;simp[World.frozen?,h]
def Rx.set(h:Rx w b L R){i:Nat}(hi:i<L.length)(x:Nat):Rx (w.setCell ⟨b,i,none⟩ (.int .u32 (x:Int))) b (L.set i x) R:=by
 unfold Rx at h ⊢;simp only[World.setCell,cY,h];simp[oq,List.map_set,List.set_append,hi]
def Rx.qu(h:Rx w b L R)(hb:w'.heap[b]? = w.heap[b]?):Rx w' b L R:=by unfold Rx at h ⊢;rw[hb];exact h
end
structure sD(b:Nat)(w w':World):Prop where
 below:Below b w w'
 size:w'.heap.size=w.heap.size
 nu:∀ x,x≠b->w'.heap[x]? = w.heap[x]?
def sD.refl(b:Nat)(w:World):sD b w w:=⟨Below.refl _ _,rfl,λ_ _=>rfl⟩
def sD.F4{b:Nat}{w w':World}(h:sD b w w')(i:Nat)(v:Value):sD b w (w'.setCell ⟨b,i,none⟩ v):=
 ⟨h.below.setCell (p:=⟨b,i,none⟩) (bl _) v,by
  have:(w'.setCell ⟨b,i,none⟩ v).heap.size=w'.heap.size:=by simp[World.setCell]
  rw[this,h.size],λx hx=>by
  rw[<-h.nu x hx];simp only[World.setCell,cY];rw[bh (λe=>hx e.symm)]⟩
def OY(b:Nat)(A:Option Addr):Prop:=∀ b' o s,A=some ⟨b',o,s⟩->b'≠b
def Sl.nu{w w':World}{A:Option Addr}{c b:Nat}{L:List Nat}(h:Sl w A c L)(ha:OY b A)(ho:sD b w w'):Sl w' A c L:=
 ⟨h.cap,h.qV,h.ok,h.xM,λi x hx=>by
  obtain⟨b',o,e,h1,h2⟩:=h.cell i x hx;refine⟨b',o,e,by rw[ho.size];exact h1,?_⟩;rw[<-h2];exact(World.cell?_of_block (w:=w) (w':=w') (ho.nu b' (ha _ _ _ e)))⟩
def Xy{u m b:Nat}(hm:m<4294967296)(hb:b<=4294967296):
 IntKind.u64.wrap (IntKind.u64.wrap ((u:Int)-m)-(b:Int))=(((u+18446744073709551616-m-b)%18446744073709551616:Nat):Int):=by
 rw[IntKind.wrap_u64,IntKind.wrap_u64];omega
def ai9(b j cu c q:Nat)(O V:List Nat)(R:List Value)(A:Option Addr)(w:World)(hu:Rx w b O R)(hv:Sl w A c V)(hA:OY b A)(lg:iM O)(hj:j+V.length<O.length)(hq:q<=4294967295)(hl:O.length<=1000000):
 Calls prog 358 #[.slice (some ⟨b,j,none⟩) (V.length+1) cu,.slice A V.length c,.int .u64 q] w λe w'=>∃ (O':List Nat) (δ:Nat),e = .returned (.bool (decide (δ=1)))/\Rx w' b O' R/\O'.length=O.length/\iM O'/\δ<=1 /\
  val O'+q*(4294967296^j*val V)=val O+4294967296^(j+V.length+1)*δ/\(∀ i,j+V.length<i->O'.getD i 0=O.getD i 0)/\sD b w w':=by
 obtain⟨n,hn⟩:∃ n,n=V.length:=⟨_,rfl⟩
 rw[<-hn]at hj ⊢;have HN:=akH hn;have HJ:=akH hj;clear hn;have jB:n<=1000000:= aA ;have sO:j<=1000000:= aA ;clear hj;have HT0:=akH (xh.start lg j q V);clear lg;have HO:=akH (sD.refl b w);have HU:=akH hu;clear hu;go_enter func358,ntmps358;go_wp2;go_loopw [7,8,9,10,11,12,16] (λcy bo _ _ _ _ i wr=>∃ (k c' b':Nat) (O':List Nat),k<=n/\i = .int .i64 k/\cy = .int .u64 c'/\bo = .int .u64 b'/\xh O j q V k O' c' b'/\Rx wr b O' R/\sD b w wr) (λ_ _ _ _ _ _ i _=>n-(intOf i).toNat)
 case atStart=>
  exact⟨0,0,0,O,cg _,rfl,rfl,rfl,HT0.out,HU.out,HO.out⟩
 case round=>
  obtain⟨k,c',b',O',hk,rfl,rfl,rfl,ht,hR,ho⟩:=hrel;clear HT0 HO HU;have HTk:=akH ht;have kV:=ht.PD;have zH:=ht.PN;have HOl:=akH ht.len;clear ht;have MF:=hv.nu hA ho;by_cases iJ:k<n
  .have yA:k<V.length:=by rw[<-HN.out];exact iJ
   obtain⟨ab,ao,e1,_,c1⟩:=MF.mr yA;have qU:V.getD k 0<4294967296:=hv.ok.getD k;have S4:V[k]=V.getD k 0:=by simp[bk,yA]
   rw[S4]at c1;have qk:j+k<O'.length:=by rw[HOl.out];have:=HJ.out;omega
   have c2:=hR.cell qk;have c3:=hR.frozen (j+k);have EL:O'.getD (j+k) 0<4294967296:=HTk.out.ok.getD _;obtain⟨uy,lq,EF,SL⟩:=aja hq qU zH kV EL;have HST:=akH (HTk.out.step (b':=((O'.getD (j+k) 0+18446744073709551616-(q*V.getD k 0+c')%4294967296-b')%18446744073709551616)/9223372036854775808) yA (by rw[<-HN.out];exact HJ.out) (bI _ aC) lq EF SL);have HRS:=akH (λx:Nat=>hR.set qk x);have HOS:=akH (λ(v:Value)=>ho.F4 (j+k) v);clear hR ho HTk qk S4 yA SL HOl MF;subst e1;have Mr:q*V.getD k 0<=4294967295*4294967295:=eC hq aA;have wG:IntKind.u64.wrap ((q:Int)*(V.getD k 0:Int))=((q*V.getD k 0:Nat):Int):=by rw[<-eB];exact rz _ aA 
   generalize V.getD k 0=y at *
   generalize q*y=z at *
   have Ba:IntKind.u64.wrap ((z:Int)+c')=((z+c':Nat):Int):=by rw[<-Int.natCast_add];exact rz _ aA 
   generalize O'.getD (j+k) 0=u at *
   generalize z+c'=s at *
   have aj0:bits .and .u64 (s:Int) 4294967295=((s%4294967296:Nat):Int):=by rw[DJ s aA];omega
   have ajZ:s%4294967296<4294967296:=bI _ aC;have hd:(s:Int)/4294967296=((s/4294967296:Nat):Int):= aA ;generalize s%4294967296=m at *
   generalize s/4294967296=s2 at *
   have hsb:=Xy (u:=u) (m:=m) (b:=b') aA aA;generalize (u+18446744073709551616-m-b')%18446744073709551616=t at *
   have yx:(j:Int)+k=((j+k:Nat):Int):= aA ;go_wp2;go_roundw
   case rel=>
    have e1:((t:Int)%4294967296)=((t%4294967296:Nat):Int):= aA ;exact⟨k+1,s2,t/9223372036854775808,O'.set (j+k) (t%4294967296),aA,by go_num,by go_num,by go_num,HST.out,by rw[e1];exact HRS.out _,HOS.out _⟩
   case measure=>simp[intOf];omega
  .obtain rfl:k=n:= aA ;have Mi:j+k<O.length:=HJ.out;have HTk':=akH (show xh O j q V V.length O' c' b' by rw[<-HN.out];exact HTk.out);have HL:=HTk'.out.M6 (t:=(O'.getD (j+k) 0+18446744073709551616-c'-b')%18446744073709551616) (by rw[<-HN.out];exact Mi) (by rw[<-HN.out]);rw[<-HN.out]at HL;have HT:=akH HL;clear HL;have qk:j+k<O'.length:=by rw[HOl.out];exact Mi
   have c2:=hR.cell qk;have c3:=hR.frozen (j+k);have EL:O'.getD (j+k) 0<4294967296:=HTk.out.ok.getD _;have HRS:=akH (λx:Nat=>hR.set qk x);have HOS:=akH (λ(v:Value)=>ho.F4 (j+k) v);clear hR ho HTk HTk' qk Mi HOl MF;generalize O'.getD (j+k) 0=u at *
   have hsb:=Xy (u:=u) (m:=c') (b:=b') zH aA;have sV:(u+18446744073709551616-c'-b')%18446744073709551616<18446744073709551616:=bI _ aC;generalize (u+18446744073709551616-c'-b')%18446744073709551616=t at *
   have yx:(j:Int)+k=((j+k:Nat):Int):= aA ;go_wp2;go_ret;have e1:((t:Int)%4294967296)=((t%4294967296:Nat):Int):= aA ;obtain⟨t1,t2,t3,t4,t5⟩:=HT.out;exact⟨O'.set (j+k) (t%4294967296),t/9223372036854775808,Wg (a:=(((t:Int)/9223372036854775808)==1)) (by rw[aki,beq_iff_eq,akf];omega),by rw[e1];exact HRS.out _,t1,t2,t3,t4,t5,HOS.out _⟩
def Vi(A:Option Addr)(c:Nat)(L:List Nat)(n:Nat)(w:World)(hs:Sl w A c L)(hlen:L.length<=100000000)(hn:n<=65536):
 Calls prog 236 #[.slice A L.length c,.int .i64 n] w (λe w'=>∃ T v,e = .returned v/\val T=val L*2^n/\T.length=n/32+(iH L).length+1/\Ow w' w.heap.size v T/\iT w w'):=by
 have hT:=akH (uQ A c L w hs);have lq:=hs.tV;have mF:=pJ L;have hC:=lq.cap;have hL:=hs.qV;unfold mo at mF;have hv:=akH (qG L);generalize iH L=M at *
 obtain⟨m,hm⟩:∃ m,m=M.length:=⟨_,rfl⟩
 rw[<-hm]at hT mF hC;have HM:=akH hm;clear hm;have vt:=UK (n/32) (n/32+m+1) aA aA;rw[show((n/32:Nat):Int)=n/32 by omega,show((n/32+m+1:Nat):Int)=n/32+m+1 by omega]at vt;have LO:=akH (Ow.Ac w w.heap.size (n/32) (n/32+m+1) (bl _) aA aA);go_enter func236,ntmps236;go_wp2_with fail;refine hT.out.mono ?_;rintro e w' ⟨rfl,rfl⟩;go_wp2;go_loopw [5,6,23] (λv cy i wr=>∃ (k q:Nat) (O:List Nat),k<=m/\i = .int .i64 k/\cy = .int .u64 q/\q<2^(n%32)/\O.length=n/32+k/\val O+4294967296^(n/32+k)*q=val (M.take k)*2^(n%32)*4294967296^(n/32)/\Ow wr w.heap.size v O/\iT w wr) (λ_ _ i _=>m-(intOf i).toNat)
 case atStart=>
  exact⟨0,0,List.replicate (n/32) 0,cg _,rfl,rfl,bD aC,aF,by simp[BX],LO.out,iT.alloc _ _⟩
 case round=>
  obtain⟨k,q,O,hk,rfl,rfl,hq,hO,mm,oB,hb⟩:=hrel;have HV:=akH mm;have HO:=akH hO;have RW:O.length<=200000000:= aA ;have yE:=akH hq;clear mm hO hq;obtain⟨OA,Oc,rfl,AY⟩:=oB.sl;by_cases iJ:k<m
  .have AW:k<M.length:=by have:=HM.out;omega
   obtain⟨ab,ao,rfl,_,c1⟩:=(lq.below hb).mr AW;have ni:M[k]<4294967296:=lq.ok.get AW;have HX:=akH (WB (c:=q) (s:=n%32) (n0:=n/32) AW HO.out HV.out);generalize M[k]=x at *
   obtain⟨hw,rJ,yI⟩:=WC x q (n%32) ni (bI _ aC) yE.out;generalize x*2^(n%32)+q=z at *
   have EP:=akH yI;clear yI;have mG:O.length+[z%4294967296].length<=10000000000:= aL ;go_wp2_with (at_builtin;go_must (refine zn aE _ _ aE w.heap.size _ O aE (oB.alloc _) _ _ _ [z%4294967296] aE aE (Sl.C2 _ _ (z%4294967296) aA aA) mG (wM hb.size _) ?_);intro v' w1 wC hg sj)
   go_roundw
   case rel=>
    exact⟨k+1,z/4294967296,O++[z%4294967296],aA,by go_num,by go_num,EP.out,by rw[bY,HO.out];rfl,HX.out,wC,(hb.trans (iT.alloc _ _)).own _ _ (oB.alloc _) hg⟩
   case measure=>simp[intOf];omega
  .obtain rfl:k=m:= aA ;have mG:O.length+[q].length<=10000000000:= aL ;have adg:q<4294967296:=by
    have:=yE.out;have hp:2^(n%32)<=2^31:=b9 aC aA;have e31:(2:Nat)^31=2147483648:= aC ;omega
   have hqm:(q:Int)%4294967296=q:= aA ;go_wp2_with (at_builtin;go_must (refine zn aE _ _ aE w.heap.size _ O aE (oB.alloc _) _ _ _ [q] aE aE (Sl.C2 _ _ q aA aA) mG (wM hb.size _) ?_);intro v' w1 wC hg sj)
   go_ret;refine⟨O++[q],v',rfl,?_,by rw[bY,HO.out,<-HM.out];rfl,wC,(hb.trans (iT.alloc _ _)).own _ _ (oB.alloc _) hg⟩;have h:=HV.out;rw[df (by rw[HM.out];exact bl _)]at h;rw[Ar,HO.out,se,Kf,cT,bW,h,<-hv.out,s6,bE,<-bA];congr 2;omega
end Go.Proofs.YtjkmahljfblobaaGreatDoor
namespace Go.Proofs.YtjkmahljfblobaaGreatDoor.Fp
def oR(n k:Nat):Nat:=n/4294967296^k%4294967296
def K6(n k:Nat):oR n k<4294967296:=bI _ aC 
def ZM(k:Nat):oR 0 k=0:=by unfold oR;rw[Nat.zero_div]
def pw(k:Nat):0<4294967296^k:=bD aC 
def Hk{L:List Nat}(h:iM L)(k:Nat):L.getD k 0=oR (val L) k:=by
 unfold oR;rw[<-Gg h];by_cases hk:k<L.length
 .rw [eP hk,show val (L[k]::L.drop (k+1))=L[k]+4294967296*val (L.drop (k+1))from rfl,dX,ct (h.get hk)];simp[bk,hk]
 .rw [eN aA,bk,bR aA];rfl
def mod_succ(n k:Nat):n%4294967296^(k+1)=n%4294967296^k+4294967296^k*oR n k:=by
 rw[bT,Nat.mod_mul];rfl
def pt(n m:Nat):List Nat:=(List.range m).map (oR n)
def AF(n m:Nat):(pt n m).length=m:=by simp[pt]
def K7(n m:Nat):iM (pt n m):=λx hx=>by
 obtain⟨k,_,rfl⟩:=cI.1 hx;exact K6 n k
def ZS{n m k:Nat}(h:k<m):(pt n m).getD k 0=oR n k:=by
 simp[pt,bk,h]
def ZQ(m i:Nat):(pt 0 m).getD i 0=0:=by
 by_cases h:i<m
 .rw [ZS h,ZM]
 .rw [bk,bR (by rw[AF];omega)];rfl
def ZT(n m:Nat):pt n (m+1)=pt n m++[oR n m]:=by simp[pt,List.range_succ]
def OK(n m:Nat):val (pt n m)=n%4294967296^m:=by
 induction m with
 |zero=>simp[pt,val];omega
 |succ m ih=>
  rw[ZT,Ar,ih,AF,mod_succ];rfl
def ajD{L M:List Nat}(hL:iM L)(hM:iM M)(hl:L.length=M.length)(hv:val L=val M):L=M:=by
 apply gx hl;intro i h1 h2;have e1:=Hk hL i;have e2:=Hk hM i;rw[hv,<-e2]at e1;simpa[bk,h1,h2]using e1
def ZU{L:List Nat}(h:iM L):pt (val L) L.length=L:=
 ajD (K7 _ _) h (AF _ _) (by rw[OK,ct (pq h)])
def ZR{L:List Nat}{n m:Nat}(h:iM L)(hl:L.length=m)(hv:val L=n):pt n m=L:=by subst hl hv;exact ZU h
def pG(a b k m:Nat):List Nat:=(List.range m).map λj=>if j<k then oR a j else oR b j
def afC(a b k m:Nat):(pG a b k m).length=m:=by simp[pG]
def afE(a b m:Nat):pG a b 0 m=pt b m:=by simp[pG,pt]
def afB{a b k m:Nat}(h:m<=k):pG a b k m=pt a m:=by
 unfold pG pt;exact dx λj hj=>bj (bO (bJ.1 hj) h)
def aj5{a b k m:Nat}:(pG a b k m).set k (oR a k)=pG a b (k+1) m:=by
 apply gx
 .simp [pG]
 .intro j h1 h2;have hj:j<m:=by simpa[pG]using h2
  rw[List.getElem_set];by_cases h:k=j
  .subst h;simp[pG]
  .rw [bh h];simp only[pG,akq,akr];by_cases q:j<k
   .rw [bj q,bj aA]
   .rw [bh q,bh aA]
def afD{a b k m:Nat}:(pG a b (k+1) m).set k (oR b k)=pG a b k m:=by
 apply gx
 .simp [pG]
 .intro j h1 h2;have hj:j<m:=by simpa[pG]using h2
  rw[List.getElem_set];by_cases h:k=j
  .subst h;simp[pG]
  .rw [bh h];simp only[pG,akq,akr];by_cases q:j<k
   .rw [bj q,bj aA]
   .rw [bh q,bh aA]
def Z8(a k:Nat):a/4294967296^k=4294967296*(a/4294967296^(k+1))+oR a k:=by
 rw[bT,<-dv];unfold oR;omega
def aik{a d k:Nat}(hd:0<d)(zJ:d<4294967296):(a/4294967296^(k+1)%d*4294967296+oR a k)/d=oR (a/d) k/\(a/4294967296^(k+1)%d*4294967296+oR a k)%d=a/4294967296^k%d:=by
 have e1:=Z8 a k;have e2:=cQ (a/4294967296^(k+1)) d;have e3:=bI (a/4294967296^(k+1)) hd;have e4:=K6 a k;have e5:a/4294967296^k=d*(4294967296*(a/4294967296^(k+1)/d))+(a/4294967296^(k+1)%d*4294967296+oR a k):=by
  rw[e1,eE];omega
 have e6:(a/4294967296^(k+1)%d*4294967296+oR a k)/d<4294967296:=by
  rw[cF hd];have:=bN 4294967296 (show a/4294967296^(k+1)%d+1<=d from e3);omega
 constructor
 .conv=>rhs;unfold oR
  rw[dv,bM d,<-dv,e5,gJ hd,fo,ct e6]
 .rw [e5,fo]
structure sf(U0:Nat)(V:List Nat)(k m:Nat)(O Q:List Nat):Prop where
 T4:O.length=m
 E6:Q.length=m-V.length
 yZ:iM O
 FF:iM Q
 eq:val O+val V*val Q=U0
 lt:val O<val V*4294967296^k
 qz:∀ i,i<k->Q.getD i 0=0
def sf.step{U0 k m x:Nat}{V O Q O2:List Nat}(h:sf U0 V (k+1) m O Q)(hk:k<m-V.length)(hl:O2.length=m)(lg:iM O2)(hx:x<4294967296)
 (he:val O2+x*(4294967296^k*val V)=val O) (iJ:val O2<val V*4294967296^k):sf U0 V k m O2 (Q.set k x):=by
 have Er:k<Q.length:=by rw[h.E6];exact hk
 have hv:=BY (x:=x) Er;rw[h.qz k (fA k),cT,bW]at hv;refine⟨hl,by rw[cL];exact h.E6,lg,h.FF.set _ hx,?_,iJ,λi hi=>by rw[zC aA];exact h.qz i aA⟩;rw[hv,bU,show val V*(4294967296^k*x)=x*(4294967296^k*val V)by simp only[bM,eE,bE]];have:=h.eq;omega
def sf.zero{U0 k m:Nat}{V O Q:List Nat}(h:sf U0 V (k+1) m O Q)(hV:iM V){i:Nat}(hi:k+V.length<i):O.getD i 0=0:=by
 refine aji h.yZ (k:=k+V.length+1) ?_ hi;refine e9 h.lt ?_;have:=dF (pq hV) (pw (k+1));rw[<-bA,(aA:V.length+(k+1)=k+V.length+1)]at this;exact this
def sf.acv{U0 k m:Nat}{V O Q:List Nat}(h:sf U0 V (k+1) m O Q)(hV:iM V)(hn:2<=V.length)(hN:2147483648<=V.getD (V.length-1) 0):
 O.getD (k+V.length) 0<=V.getD (V.length-1) 0/\∀ g,g<=4294967295 ->
  g<=((O.getD (k+V.length) 0*4294967296+O.getD (k+V.length-1) 0)*4294967296+O.getD (k+V.length-2) 0)/(V.getD (V.length-1) 0*4294967296+V.getD (V.length-2) 0) ->
  (g=4294967295\/((O.getD (k+V.length) 0*4294967296+O.getD (k+V.length-1) 0)*4294967296+O.getD (k+V.length-2) 0)/(V.getD (V.length-1) 0*4294967296+V.getD (V.length-2) 0)<=g) ->
  val O/4294967296^k/val V<=g/\g<=val O/4294967296^k/val V+1:=by
 have t3:=W7 h.yZ (j:=k) hn (λi hi=>h.zero hV hi);have t2:=ajh hV hn rfl;have hU:val O/4294967296^k<4294967296*val V:=by
  rw[cF (pw k)];have:=h.lt;rw[bT]at this;rw[show 4294967296*val V*4294967296^k=val V*(4294967296^k*4294967296)by simp only[bM,eE,bE]];exact this
 have w1:=h.yZ.getD (k+V.length-1);have w2:=h.yZ.getD (k+V.length-2);have w3:=hV.getD (V.length-2);refine⟨?_,λg g1 g2 g3=>?_⟩
 .have hP:=pw (V.length-2);have h1:val V<(V.getD (V.length-1) 0*4294967296+V.getD (V.length-2) 0+1)*4294967296^(V.length-2):=by
   rw[<-t2,<-cF hP];omega
  have h2:val O/4294967296^k/4294967296^(V.length-2)<4294967296*(V.getD (V.length-1) 0*4294967296+V.getD (V.length-2) 0+1):=by
   rw[cF hP];refine bO hU ?_;rw[bE];exact cM _ (dU h1)
  rw[t3]at h2;omega
 .rw [<-t3,<-t2]at g2 g3;exact aen (pw _) (by rw[t2];omega) hU g1 g2 g3
def sf.VM{U0 k m x:Nat}{V O Q O':List Nat}(h:sf U0 V (k+1) m O Q)(hV:iM V)(lg:iM O')(hv:val O'+x*(4294967296^k*val V)=val O+4294967296^(k+V.length+1)*1)
 (hs:∀ i,k+V.length<i->O'.getD i 0=O.getD i 0):val O'<4294967296^(k+V.length+1)/\0<x:=by
 have h1:val O'<4294967296^(k+V.length+1):=Xo lg λi hi=>by rw[hs i aA];exact h.zero hV aA 
 refine⟨h1,?_⟩;rcases ev x with h0|h0
 .subst h0;rw[cH]at hv;omega
 .exact h0
def sf.YA{U0 k m x κ:Nat}{V O Q O' O2:List Nat}(h:sf U0 V (k+1) m O Q)(hV:iM V)(hk:k<m-V.length)(lg:iM O')(hv:val O'+x*(4294967296^k*val V)=val O+4294967296^(k+V.length+1)*1)
 (hs:∀ i,k+V.length<i->O'.getD i 0=O.getD i 0) (hx:x<=4294967295) (wH:x<=val O/4294967296^k/val V+1) (wu:0<val V) (mF:O2.length=m) (SH:iM O2) (hκ:κ<=1)
 (h2:val O2+4294967296^(k+V.length+1)*κ=val O'+4294967296^k*val V) (lq:∀ i,k+V.length<i->O2.getD i 0=O'.getD i 0):sf U0 V k m O2 (Q.set k (x-1)):=by
 obtain⟨h1,h0⟩:=h.VM hV lg hv hs;have h3:val O2<4294967296^(k+V.length+1):=Xo SH λi hi=>by rw[lq i aA,hs i aA];exact h.zero hV aA 
 rw[cv]at hv;obtain⟨_,_,e,l⟩:=ZO (pw k) wu hv h1 wH hκ h2 h3;exact h.step (x:=x-1) hk mF SH aA e l
def agb{L:List Nat}{x s l:Nat}(hk:iM L)(hl:L.length=l+1)(hx:L.getD l 0=x)(oZ:x≠0)(hs:s=32-iy x):
 s<32/\(ia (val L*2^s)).length=l+1/\2147483648<=(ia (val L*2^s)).getD l 0/\4294967296^l*2147483648<=val L*2^s/\val L*2^s<4294967296^(l+1):=by
 have ni:x<4294967296:=by rw[<-hx];exact hk.getD l
 have kV:=qf oZ;have nh:iy x<=32:=mv.2 ni;have h1:=s9 oZ;have h2:=uK x;have e1:2^(iy x-1)*2^s=2147483648:=by rw[<-bA,(aA:iy x-1+s=31)]
 have e2:2^iy x*2^s=4294967296:=by rw[<-bA,(aA:iy x+s=32)]
 have hp:0<2^s:=bD aC;have hv:val L=val (L.take l)+4294967296^l*x:=by
  have:=As L l;rw[df aA,hx]at this;exact this
 have Cw:val (L.take l)<4294967296^l:=by
  have:=pq (hk.take l);rw[cC,dj aA]at this;exact this
 have g1:4294967296^l*2147483648<=val L*2^s:=by
  rw[<-e1,<-bE];refine bN _ ?_;rw[hv];exact bK (cM _ h1) (Nat.le_add_left _ _)
 have g2:val L*2^s<4294967296^(l+1):=by
  have e3:4294967296^(l+1)=4294967296^l*(2^iy x*2^s):=by rw[bT,e2]
  rw[e3,<-bE];refine dF ?_ hp;rw[hv];have:=cM (4294967296^l) (show x+1<=2^iy x from h2);rw[bU,cv]at this;omega
 have hlen:(ia (val L*2^s)).length=l+1:=by
  have u1:=wN g2;have u2:¬(ia (val L*2^s)).length<=l:=λh=>by
   have:=IW h;have:=pw l;omega
  omega
 refine⟨aA,hlen,?_,g1,g2⟩;rw[Hk (o9 _),lW];unfold oR;rw[ct (by rw[cF (pw l),bM 4294967296,<-bT];exact g2),dq (pw l),bM];exact g1
def sf.start{A s:Nat}{V O:List Nat}(hO:iM O)(hv:val O=A*2^s){la:Nat}(hA:A<4294967296^la)(hl:O.length=la+1)(hs:s<32)(hn:1<=V.length)(jB:V.length<=la)(hV:4294967296^(V.length-1)*2147483648<=val V):
 sf (A*2^s) V (la+1-V.length) (la+1) O (List.replicate (la+1-V.length) 0):=by
 refine⟨hl,aF,hO,iM.Dd _,by rw[BX,cT,bW,hv],?_,λi _=>?_⟩
 .rw [hv];have Ec:2^s<=2^31:=b9 aC aA;have acy:(2:Nat)^31=2147483648:= aC ;rw[acy]at Ec;have h1:A*2^s<4294967296^la*2^s:=dF hA (bD aC);have h2:=cM (4294967296^la) Ec;have h3:=bN (4294967296^(la+1-V.length)) hV;rw[fO,<-bA,(aA:V.length-1+(la+1-V.length)=la)]at h3;omega
 .rw [bk,fB];split<;>rfl
end Go.Proofs.YtjkmahljfblobaaGreatDoor.Fp
namespace Go.Proofs.YtjkmahljfblobaaGreatDoor
open Go.RowKit Fp Pu
def F5(n:Nat)(h:n<4294967296):IntKind.u64.wrap ((n:Int)*2^32)=((n*4294967296:Nat):Int):=by rw[IntKind.wrap_u64];omega
def FK(a b:Nat)(ha:a<4294967296)(hb:b<4294967296):bits .or .u64 ((a*4294967296:Nat):Int) (b:Int)=((a*4294967296+b:Nat):Int):=by
 rw[Ka _ _ aA aA,Nat.or_comm,show a*4294967296=a*2^32 by rfl,Jk b a 32 (by simpa using hb),fk]
def ahP{T n n' p:Nat}{L L':List Nat}{z:Nat}(hn:n=n')(hp:p<L.length)(hs:L.set p z=L'):Bx.le (.row false T n 1 λi' j'=>if i'=p/\0<=j'/\j'<0+1 then[.v (.int .u32 (z:Int))].getD (j'-0) .any else(qc L) i' j') (.row false T n' 1 (qc L')):=hs▸Ol hn hp
def Qv(q rest third v w:Nat)(x:Nat):PS:=⟨32,true,[(0,.e (.v (.int .u64 ((q-x:Nat):Int)))),(1,.e (.v (.int .u64 ((rest+(x*v):Nat):Int)))),(2,.e (.v (.int .u32 (third:Int)))),(3,.e (.v (.int .u32 (v:Int)))),(4,.e (.v (.int .u32 (w:Int))))],[]⟩
def WD(L:List Nat)(d:Nat)(x:Nat):PS:=⟨34,false,[(8,.e (iP ((L.length:Int)-1-(x:Int)))),(7,.e (.v (.int .u32 ((val L/4294967296^(L.length-x)%d:Nat):Int)))),(6,.own 11),(0,.e (iz L)),(1,.e (.v (.int .u32 (d:Int))))],[(11,.row false 95 L.length 1 (qc (pG 0 (val L/d) (L.length-x) L.length)))]⟩
def Z1(h l d:Nat)(h1:h<d)(h2:l<4294967296)(h3:d<4294967296):gW 371 [.v (.int .u32 (h:Int)),.v (.int .u32 (l:Int)),.v (.int .u32 (d:Int))] (.ik [.v (.int .u32 (((h*4294967296+l)/d:Nat):Int)),.v (.int .u32 (((h*4294967296+l)%d:Nat):Int))]):=by
 have e1:(h*4294967296+l)/d<4294967296:=by rw[cF aA];omega
 have e2:(h*4294967296+l)%d<4294967296:=e9 (bI _ aA) h3;exact aj call371 func371 (aa [ag 10 ((d:Int) != 0) aL,tF 14 ((d:Int)<=h) aA,.o 18 (.int (rz _ aA):ai (.v (.int .u64 (IntKind.u64.wrap (h:Int)))) (.v (.int .u64 (h:Int)))),.a (aA:0<=(32:Int)/\(32:Int)<=((64:Nat):Int)),.o 19 (.int (F5 _ aA):ai (.v (.int .u64 (IntKind.u64.wrap ((h:Int)*2^32)))) (.v (.int .u64 ((h*4294967296:Nat):Int)))),.o 21 (.int (rz _ aA):ai (.v (.int .u64 (IntKind.u64.wrap (l:Int)))) (.v (.int .u64 (l:Int)))),.o 22 (.int (FK _ _ aA aA):ai (.v (.int .u64 (bits .or .u64 ((h*4294967296:Nat):Int) (l:Int)))) (.v (.int .u64 ((h*4294967296+l:Nat):Int)))),.o 25 (.int (rz _ aA):ai (.v (.int .u64 (IntKind.u64.wrap (d:Int)))) (.v (.int .u64 (d:Int)))),.a (aA:0<((d:Int):Int)),
  BN ((h*4294967296+l:Nat):Int) aA,.o 27 (.int (Aq _):ai (.v (.int .u32 (IntKind.u32.wrap (((h*4294967296+l)/d:Nat):Int)))) (.v (.int .u32 ((((h*4294967296+l)/d)%4294967296:Nat):Int)))),.o 30 (.int (rz _ aA):ai (.v (.int .u64 (IntKind.u64.wrap (d:Int)))) (.v (.int .u64 (d:Int)))),.a (aA:0<((d:Int):Int)),.o 32 (.int (Aq _):ai (.v (.int .u32 (IntKind.u32.wrap (((h*4294967296+l)%d:Nat):Int)))) (.v (.int .u32 ((((h*4294967296+l)%d)%4294967296:Nat):Int))))]<|rQ (.ik [.v (.int .u32 ((((h*4294967296+l)/d)%4294967296:Nat):Int)),.v (.int .u32 ((((h*4294967296+l)%d)%4294967296:Nat):Int))]) (.ik [.v (.int .u32 (((h*4294967296+l)/d:Nat):Int)),.v (.int .u32 (((h*4294967296+l)%d:Nat):Int))]) (by rw[ct e1,ct e2])) 
def aj6(q rest third v w N:Nat)(hq:q<=4294967295)(hr:rest<9223372036854775808)(ht:third<4294967296)(hv:v<4294967296)(hw:w<4294967296)(hNq:N<=q)(jj:∀ x,x<N->sI q rest third v w x)(g1:¬rest+N*v<4294967296):gW 372 [.v (.int .u64 (q:Int)),.v (.int .u64 (rest:Int)),.v (.int .u32 (third:Int)),.v (.int .u32 (v:Int)),.v (.int .u32 (w:Int))] (.v (.int .u64 ((q-N:Nat):Int))):=
 aj call372 func372 (ae [.s (Sp.jE (Qv q rest third v w) 0 N aA (λx hx nF=>by
    obtain⟨g1,g2⟩:=jj x aA;have m1:(q-x)*w<=4294967295*4294967295:=eC aA aA;have g3:0<q-x:=by
     rcases ev (q-x)with h|h
     .rw [h,cH]at g2;omega
     .exact h
    exact iF (aa [tT 12 (((rest+(x*v):Nat):Int)<4294967296) aA,.o 16 (.int (rz _ aA):ai (.v (.int .u64 (IntKind.u64.wrap (w:Int)))) (.v (.int .u64 (w:Int)))),
     BN (((q-x:Nat):Int)*(w:Int)) aA,.a (aA:0<=(32:Int)/\(32:Int)<=((64:Nat):Int)),.o 19 (.int (F5 _ aA):ai (.v (.int .u64 (IntKind.u64.wrap (((rest+(x*v):Nat):Int)*2^32)))) (.v (.int .u64 (((rest+(x*v))*4294967296:Nat):Int)))),.o 21 (.int (rz _ aA):ai (.v (.int .u64 (IntKind.u64.wrap (third:Int)))) (.v (.int .u64 (third:Int)))),.o 22 (.int (FK _ _ aA aA):ai (.v (.int .u64 (bits .or .u64 (((rest+(x*v))*4294967296:Nat):Int) (third:Int)))) (.v (.int .u64 ((((rest+(x*v))*4294967296)+third:Nat):Int)))),tT 23 (((((rest+(x*v))*4294967296)+third:Nat):Int)<(((q-x)*w:Nat):Int)) (Int.ofNat_lt.2 g2),BN (((q-x:Nat):Int)-1) aA,.o 29 (.int (rz _ aA):ai (.v (.int .u64 (IntKind.u64.wrap (v:Int)))) (.v (.int .u64 (v:Int)))),BN (((rest+(x*v):Nat):Int)+v) aA]<|.e (ae [.o 0 (.int aM:ai (.v (.int .u64 (((q-x:Nat):Int)-1))) (.v (.int .u64 ((q-(x+1):Nat):Int)))),.o 1 (.int aM:ai (.v (.int .u64 (((rest+(x*v))+v:Nat):Int))) (.v (.int .u64 ((rest+((x+1)*v):Nat):Int))))])) aD)
  (λhx=>by
    have m1:(q-N)*w<=4294967295*4294967295:=eC aA aA;exact iF (ae [tF 12 (((rest+(N*v):Nat):Int)<4294967296) aA]) aD) aG:jA 1 f372 (Qv q rest third v w 0) (.exit 0) ⟨32,true,[(0,.e (.v (.int .u64 ((q-N:Nat):Int))))],[]⟩) (ae [.o 0 (.int aM:ai (.v (.int .u64 (q:Int))) (.v (.int .u64 ((q-0:Nat):Int)))),.o 1 (.int aM:ai (.v (.int .u64 (rest:Int))) (.v (.int .u64 ((rest+(0*v):Nat):Int))))])]) 
def afZ(L:List Nat)(d:Nat)(hk:iM L)(hl:L.length<=1000000)(zI:0<d)(zJ:d<4294967296):gW 355 [iz L,.v (.int .u32 (d:Int))] (.ik [iz (pt (val L/d) L.length),.v (.int .u32 ((val L%d:Nat):Int))]):=
 ak call355 func355 (aa [.a (aA:0<=((L.length:Int):Int)/\((L.length:Int):Int)<=((L.length:Int):Int)),.a (aA:((4:Nat):Int)*(L.length:Int)<=281474976710656/\((L.length:Int):Int)<=9223372036854775807),iA ((L.length:Int)-1) aA,.s (Sp.jE (WD L d) 0 L.length aA (λx hx nF=>by
    have Sw:((L.length:Int)-1-(x:Int)).toNat=L.length-1-x:= aA ;have hld:((L.getD ((L.length:Int)-1-(x:Int)).toNat 0:Nat):Int)=(oR (val L) (L.length-1-x):Int):=by rw[Sw,Hk hk]
    have vz:=aik (a:=val L) (k:=L.length-1-x) zI zJ;have tz:L.length-1-x+1=L.length-x:= aA ;have lI:L.length-(x+1)=L.length-1-x:= aA ;rw[tz]at vz;have tw:=bI (val L/4294967296^(L.length-x)) zI;have xv:=K6 (val L) (L.length-1-x);have EH:(pG 0 (val L/d) (L.length-x) L.length).set ((L.length:Int)-1-(x:Int)).toNat ((val L/4294967296^(L.length-x)%d*4294967296+oR (val L) (L.length-1-x))/d)=pG 0 (val L/d) (L.length-(x+1)) L.length:=by
     rw[Sw,vz.1,<-tz,afD,lI]
    exact iF (aa [tT 16 (0<=((L.length:Int)-1-(x:Int))) aA,iX ((L.length:Int)-1-(x:Int)) (L.length) aA,.o 26 (.int hld:ai (.v (.int .u32 ((L.getD ((L.length:Int)-1-(x:Int)).toNat 0:Nat):Int))) (.v (.int .u32 (oR (val L) (L.length-1-x):Int)))),.c (Z1 (val L/4294967296^(L.length-x)%d) (oR (val L) (L.length-1-x)) d aA aA aA),iX ((L.length:Int)-1-(x:Int)) (L.length) aA,.a (aA:(((L.length:Int)-1-(x:Int))).toNat<L.length),iA (((L.length:Int)-1-(x:Int))-1) aA]<|.e (ae [.o 8 (al (((L.length:Int)-1-(x:Int))-1) ((L.length:Int)-1-((x+1:Nat):Int)) aM),.o 7 (.int (by rw[vz.2,lI]):ai (.v (.int .u32 ((((val L/4294967296^(L.length-x)%d)*4294967296+(oR (val L) (L.length-1-x)))%d:Nat):Int))) (.v (.int .u32 ((val L/4294967296^(L.length-(x+1))%d:Nat):Int)))),.b 11 (ahP rfl (by rw[afC];omega) EH:Bx.le (.row false 95 L.length 1 (λi' j'=>if i'=(((L.length:Int)-1-(x:Int))).toNat/\0<=j'/\j'<0+1 then[.v (.int .u32 ((((val L/4294967296^(L.length-x)%d)*4294967296+(oR (val L) (L.length-1-x)))/d:Nat):Int))].getD (j'-0) .any else(qc (pG 0 (val L/d) (L.length-x) L.length)) i' j')) (.row false 95 L.length 1 (qc (pG 0 (val L/d) (L.length-(x+1)) L.length))))])) aD)
  (λhx=>by
    exact iF (ae [tF 16 (0<=((L.length:Int)-1-(L.length:Int))) aA]) aD) aG:jA 4 f355 (WD L d 0) (.exit 0) ⟨34,false,[(7,.e (.v (.int .u32 ((val L/4294967296^(L.length-L.length)%d:Nat):Int)))),(6,.own 11)],[(11,.row false 95 L.length 1 (qc (pG 0 (val L/d) (L.length-L.length) L.length)))]⟩) (ae [.o 8 (al ((L.length:Int)-1) ((L.length:Int)-1-((0:Nat):Int)) aM),.o 7 (.int (by rw[dS,dk (pq hk),Nat.zero_mod];rfl):ai (.v (.int .u32 0)) (.v (.int .u32 ((val L/4294967296^(L.length-0)%d:Nat):Int)))),.b 11 (Wo rfl (λi=>by rw[dS,afB (bl _),ZQ]):Bx.le (.row false 95 L.length 1 (λ_ j_=>[.v (.int .u32 0)].getD j_ .any)) (.row false 95 L.length 1 (qc (pG 0 (val L/d) (L.length-0) L.length))))])]<|rR (.ik [iz (pt (val L/d) L.length),.v (.int .u32 ((val L%d:Nat):Int))]) (.ik (.cons (by rw[cV,afE];exact WJ (AF _ _).symm) (.cons (.iD (by rw[cV,cR,fG])) .nil)):E.le (.ik [.sl false L.length 1 (qc (pG 0 (val L/d) (L.length-L.length) L.length)),.v (.int .u32 ((val L/4294967296^(L.length-L.length)%d:Nat):Int))]) (.ik [iz (pt (val L/d) L.length),.v (.int .u32 ((val L%d:Nat):Int))]))) 
def XG(w:World)(T S:List Nat)(e:Ending)(w':World):Prop:=∃ A c B d,e = .returned (.tuple #[.slice A T.length c,.slice B S.length d])/\Sl w' A c T/\Sl w' B d S/\iT w w'
def Ow.rx{w:World}{base:Nat}{v:Value}{L:List Nat}(h:Ow w base v L)(hl:L≠[]):∃ g cap R,v = .slice (some ⟨g,0,none⟩) L.length cap/\base<=g/\g<w.heap.size/\Rx w g L R/\L.length<=cap/\cap<=maxLen:=by
 rcases h.row.2 with⟨_,h0⟩|⟨g,cap,cur,rfl,hb,hg,oW,nM,oh,MB⟩
 .exact absurd (dn h0) hl
 .refine ⟨g,cap,cur.toList.drop L.length,rfl,hb,(cX.1 hg).1,?_,oW,nM⟩;unfold Rx;rw[hg];rw[cv]at MB;rw[<-MB,gF]
def Rx.sl{w:World}{b cap:Nat}{L:List Nat}{R:List Value}(h:Rx w b L R)(hk:iM L)(hc:L.length<=cap)(hm:cap<=maxLen)(n:Nat):Sl w (some ⟨b,0,none⟩) cap (L.take n):=
 ⟨by rw[cC];omega,by unfold maxLen at hm;omega,hk.take n,(λh=>by cases h),λi x hx=>by
  rw[dG]at hx;split at hx
  .obtain ⟨hi,uA⟩:=ca.1 hx;refine⟨_,_,rfl,h.lt,?_⟩;rw[bX,h.cell hi];simp[bk,hx]
  .cases hx⟩
def aff(x:Nat)(hx:x<4294967296)(w:World):
 Calls prog 356 #[.int .u32 x] w λe w'=>e = .returned (.int .i64 ((32-iy x:Nat):Int))/\w=w':=by
 have nh:iy x<=32:=mv.2 hx;have H:=akH (λw=>T3 x hx w);go_enter func356,ntmps356;go_wp2_with fail;refine(H.out _).mono ?_;rintro e w' ⟨rfl,rfl⟩;go_wp2;go_ret;exact⟨qF aA,rfl⟩
def Qx(q rest third v w0 N:Nat)(w:World)(hq:q<=4294967295)(hr:rest<9223372036854775808)(ht:third<4294967296)(hv:v<4294967296)(hw:w0<4294967296)(hNq:N<=q)(jj:∀ x,x<N->sI q rest third v w0 x)(hN:¬sI q rest third v w0 N):
 Calls prog 372 #[.int .u64 q,.int .u64 rest,.int .u32 third,.int .u32 v,.int .u32 w0] w λe w'=>e = .returned (.int .u64 ((q-N:Nat):Int))/\w=w':=by
 have HLO:=akH jj;have HNN:=akH hN;clear jj hN;go_enter func372,ntmps372;go_wp2;go_loop [0,1] (λa b=>∃ k:Nat,k<=N/\a = .int .u64 ((q-k:Nat):Int)/\b = .int .u64 ((rest+k*v:Nat):Int)) (λa _=>(intOf a).toNat+0*N)
 case atStart=>exact⟨0,cg _,by go_num,by go_num⟩
 case round=>
  obtain⟨k,hk,rfl,rfl⟩:=hrel;have m1:(q-k)*w0<=4294967295*4294967295:=eC aA aA;have m2:(q-k)*w0=(q-k)*w0:=rfl;by_cases iJ:k<N
  .have hc:=HLO.out k iJ;have rI:0<q-k:= aA ;have SE:rest+(k+1)*v=rest+k*v+v:=by rw[bS,cj];omega
   have HX:=akH SE;clear SE;unfold sI at hc;have wG:IntKind.u64.wrap (((q-k:Nat):Int)*(w0:Int))=(((q-k)*w0:Nat):Int):=by rw[<-eB];exact rz _ aA 
   generalize rest+k*v=y at *
   generalize hz:(q-k)*w0=z at *
   have Ey:q-k=q-(k+1)+1:= aA ;have HQ:=akH Ey;obtain⟨p,hp⟩:∃ p,p=q-k:=⟨_,rfl⟩
   rw[<-hp]at wG rI Ey HQ ⊢;have HP:=akH hp;have A0:p<=4294967295:= aA ;clear hp hz Ey;have EI:=F5 y hc.1;have vv:=FK y third hc.1 ht;have g2:=hc.2;have g1:=hc.1;clear hc;rw[show((y*4294967296:Nat):Int)=y*4294967296 by omega]at vv EI;have d1:decide ((y:Int)<4294967296)=true:=bn aA;have d2:decide ((y:Int)*4294967296+(third:Int)<z)=true:=bn aA;have Mr:IntKind.u64.wrap ((p:Int)-1)=((p-1:Nat):Int):=by rw[IntKind.wrap_u64];omega
   go_wp2;go_round
   case rel=>
    have e1:=HP.out;exact⟨k+1,aA,by go_num,by rw[HX.out];go_num⟩
   case measure=>simp[intOf];omega
  .obtain rfl:k=N:= aA ;have hn:=HNN.out;clear HNN HLO;unfold sI at hn;have wG:IntKind.u64.wrap (((q-k:Nat):Int)*(w0:Int))=(((q-k)*w0:Nat):Int):=by rw[<-eB];exact rz _ aA 
   generalize rest+k*v=y at *
   generalize (q-k)*w0=z at *
   obtain⟨p,hp⟩:∃ p,p=q-k:=⟨_,rfl⟩
   rw[<-hp]at wG ⊢;have HP:=akH hp;clear hp;by_cases g1:y<4294967296
   .have EI:=F5 y g1;have vv:=FK y third g1 ht;rw[show((y*4294967296:Nat):Int)=y*4294967296 by omega]at vv EI;have d1:decide ((y:Int)<4294967296)=true:=bn aA;have d2:decide ((y:Int)*4294967296+(third:Int)<z)=false:=bp aA;clear hn;go_wp2;go_ret;exact⟨qF (by rw[<-HP.out]),rfl⟩
   .have d1:decide ((y:Int)<4294967296)=false:=bp aA ;clear hn wG;go_wp2;go_ret;exact⟨qF (by rw[<-HP.out]),rfl⟩
def acw(iI next third v w0:Nat)(hv:2147483648<=v)(rZ:v<4294967296)(hn:next<4294967296)(ht:third<4294967296)(hw:w0<4294967296)(SR:iI<=v):
 ∃ g,g<=4294967295/\g<=((iI*4294967296+next)*4294967296+third)/(v*4294967296+w0)/\(g=4294967295\/((iI*4294967296+next)*4294967296+third)/(v*4294967296+w0)<=g) /\
  ∀ w,Calls prog 357 #[.int .u32 iI,.int .u32 next,.int .u32 third,.int .u32 v,.int .u32 w0] w λe w'=>e = .returned (.int .u64 (g:Int))/\∃ m,w'=w.drewN m:=by
 by_cases k1:v<=iI
 .obtain ⟨N,hN3,pV,xr,wq,g1,g2⟩:=Qw (X:=iI*4294967296+next) (q:=4294967295) (rest:=(iI-v)*4294967296+next+v) (third:=third) (v:=v) (w:=w0) aA (bl _) hv hw;refine⟨4294967295-N,aA,g1,g2.elim (λh=>.inl (by rw[h])) .inr,λw=>?_⟩;clear g1 g2;have H:=λw=>Qx 4294967295 ((iI-v)*4294967296+next+v) third v w0 N w aA aA ht rZ hw pV xr wq
  clear xr wq;obtain rfl:v=iI:= aA ;have tA:(v-v)*4294967296+next+v=next+v:= aA 
  rw[tA,Int.natCast_add]at H;have HD:=akH H;clear H;have d1:decide ((v:Int)<=v)=true:=bn aA;go_enter func357,ntmps357;go_wp2_with fail;refine(HD.out _).mono ?_;rintro e w' ⟨rfl,rfl⟩;go_wp2;go_ret;exact⟨rfl,0,rfl⟩
 .have d1:=cQ (iI*4294967296+next) v;have d2:=bI (iI*4294967296+next) (aA:0<v);have d3:(iI*4294967296+next)/v<4294967296:=by rw[cF aA];omega
  obtain⟨N,hN3,pV,xr,wq,g1,g2⟩:=Qw (X:=iI*4294967296+next) (q:=(iI*4294967296+next)/v) (rest:=(iI*4294967296+next)%v) (third:=third) (v:=v) (w:=w0) (by rw[bM];exact d1) aA hv hw;have g3:=ZP (x:=iI*4294967296+next) (v:=v) (w:=w0) (third:=third) aA ht;refine⟨(iI*4294967296+next)/v-N,aA,g1,.inr ?_,λw=>?_⟩
  .rcases g2 with rfl|g2
   .exact g3
   .exact g2
  have H:=λw=>Qx ((iI*4294967296+next)/v) ((iI*4294967296+next)%v) third v w0 N w (Nat.le_of_lt_succ d3) (e9 d2 aA) ht rZ hw pV xr wq
  rw[Int.natCast_ediv,Int.natCast_emod]at H;have HD:=akH H;clear H g1 g2 g3 pV xr wq d1 d2 d3;have d1:decide ((v:Int)<=iI)=false:=bp aA;have EI:=F5 iI aA;have vv:=FK iI next aA hn
  rw[show((iI*4294967296:Nat):Int)=iI*4294967296 by omega]at vv EI;have oZ:((iI*4294967296+next:Nat):Int)<18446744073709551616:= aA ;rw[show((iI*4294967296+next:Nat):Int)=iI*4294967296+(next:Int)by omega]at vv oZ;have zS:((v:Int)==0)=false:= aL ;go_enter func357,ntmps357;go_wp2;go_quiet (exact Calls.quiet_of_same ((HD.out _).mono λ_ _ ⟨h1,h2⟩=>⟨h1,h2.symm⟩));go_wp2;go_ret;exact⟨rfl,_,rfl⟩
def Fp.iT.ajl{w0 w w':World}{g n:Nat}(h:iT w0 w)(k:sD g (w.drewN n) w')(hg:w0.heap.size<=g):iT w0 w':=
 (below_drewN h n).trans (k.below.mono hg)
def Fp.iT.only{w0 w w':World}{g:Nat}(h:iT w0 w)(k:sD g w w')(hg:w0.heap.size<=g):iT w0 w':=
 Below.trans h (k.below.mono hg)
def Sl.Rj{w:World}{g cap:Nat}{L:List Nat}(h:Sl w (some ⟨g,0,none⟩) cap L){b:Nat}(hb:g≠b)(i:Nat)(v:Value):Sl (w.setCell ⟨b,i,none⟩ v) (some ⟨g,0,none⟩) cap L:=
 h.nu (λb' o _ e=>by cases e;exact hb) (sD.F4 (sD.refl b w) i v)
def Sl.drewN{w:World}{A:Option Addr}{c:Nat}{L:List Nat}(h:Sl w A c L)(n:Nat):Sl (w.drewN n) A c L:=h.below (below_drewN (Below.refl _ _) n)
def ahb{P:Program}{f:FuncId}{args:Array Value}{w:World}{n:Nat}{v:Value}
 (h:Calls P f args (w.drewN n) λe w'=>e = .returned v/\∃ m,w'=(w.drewN n).drewN m):Calls P f args (w.drewN n) λe w''=>e = .returned v/\∃ m,w''=w.drewN m:=
 h.mono λ_ _ ⟨he,m,hm⟩=>⟨he,n+m,by rw[hm,World.drewN_drewN]⟩
set_option maxRecDepth 100000 in
set_option maxHeartbeats 8000000 in
def aaa(A B:Option Addr)(c d:Nat)(L M:List Nat)(w:World)(lx ly s:Nat)(Ig:lx=(iH L).length)(Ih:ly=(iH M).length)(vz:s=32-iy ((iH M).getD (ly-1) 0))(hs:Sl w A c L)(hr:Sl w B d M)(tn:Tb w)(h1:L.length<=100000)(h2:M.length<=100000)(tq:val M<=val L)(hlen:2<=ly):
 Calls prog 334 #[.slice A L.length c,.slice B M.length d] w (XG w (pt (val L/val M) (lx+1-ly)) (qO (s%32) ((ia (val L%val M*2^s)).drop (s/32)))):=by
 have H1:=uQ A c L w hs;have H2:=uQ B d M w hr;have RT:=pJ L;unfold mo at RT;have RU:=pJ M;unfold mo at RU;have eL:=qG L;have eM:=qG M;rw[<-eL,<-eM]at tq ⊢;have lq:=hs.tV;have pD:=hr.tV;have LN:=zj M;have Sa:iH (iH L)=iH L:=zj L;have Sd:iH (iH M)=iH M:=zj M;have H3:=I7 A B c d (iH L) (iH M) w lq pD aA aA;generalize iH L=X at *
 generalize iH M=Y at *
 have pW:0<=mC (val X) (val Y):=by unfold mC;split<;>(try split)<;>omega
 generalize mC (val X) (val Y)=cm at *
 have Sc:Y.length<=X.length:=by
  apply ch;intro h;have:=Ke lq.ok LN (aA:X.length<Y.length);omega
 clear eL eM hs hr tq;rw[<-Ig]at Sc H1 H3 RT;rw[<-Ih]at Sc H2 H3 RU;have oZ:Y.getD (ly-1) 0≠0:=by
  have:=(Ap Y).1 LN aA;have e:Y.getD (ly-1) 0=Y[Y.length-1]'(aA):=by
   rw[bk,(aA:ly-1=Y.length-1)];simp[(aA:Y.length-1<Y.length)]
  rw[e];exact this
 have HN:=agb pD.ok (l:=ly-1) aA rfl oZ vz;rw[(aA:ly-1+1=ly)]at HN;obtain⟨x,hx⟩:∃ x,x=Y.getD (ly-1) 0:=⟨_,rfl⟩
 have ni:x<4294967296:=by rw[hx];exact pD.ok.getD _
 have H4:=akH (λw=>aff x ni w);rw[<-hx]at vz;rw[<-vz]at H4;obtain⟨ab,ao,rfl,hab,c1⟩:=pD.mr (i:=ly-1) aA;have CF:Y[ly-1]'(aA)=x:=by rw[hx];simp[bk,(aA:ly-1<Y.length)]
 rw[CF]at c1;have adj:s<32:=HN.1;have HNh:=akH HN;have H5:=λw (h:Sl w A c X)=>Vi A c X s w h aA aA 
 have H6:=λw (h:Sl w (some ⟨ab,ao,none⟩) d Y)=>Vi (some ⟨ab,ao,none⟩) d Y s w h aA aA 
 rw[Sa,<-Ig,(aA:s/32+lx+1=lx+1)]at H5;rw[Sd,<-Ih,(aA:s/32+ly+1=ly+1)]at H6;have H5h:=akH H5;have H6h:=akH H6;have HX:=akH Ig;have HY:=akH Ih;have HS2:=akH lq;have HR2:=akH pD;have H1h:=akH H1;have H2h:=akH H2;have H3h:=akH H3;clear H1 H2 H3 H5 H6 Sa Sd HN Ig Ih hx CF vz oZ lq pD LN;have wG:(ly:Int)-1=((ly-1:Nat):Int):= aA ;have d0:decide (cm<0)=false:=bp aA;have d2:decide ((lx:Int)+1<=(lx:Int))=false:=bp aA;have vt:=Fi (lx+1-ly) aA;rw[show((lx+1-ly:Nat):Int)=lx+1-(ly:Int)by omega]at vt;have d1:((ly:Int)==1)=false:= aL ;go_enter func334,ntmps334;go_wp2_with fail;refine H1h.out.mono ?_;rintro e w' ⟨rfl,rfl⟩;go_wp2_with fail;refine H2h.out.mono ?_;rintro e w' ⟨rfl,rfl⟩;go_wp2_with fail;refine H3h.out.mono ?_;rintro e w1 ⟨rfl,kV⟩;have c2:=c1;rw[<-(kV.cell (p:=⟨ab,ao+(ly-1),none⟩) hab)]at c2;go_wp2_with fail;refine(H4.out _).mono ?_;rintro e w2 ⟨rfl,rfl⟩;go_wp2_with fail;refine(H5h.out _ (HS2.out.below kV)).mono ?_;rintro e w2 ⟨T,v1,he,R7,Ef,oB,nh⟩;obtain⟨g,cap,R,ME,Sr,Ss,R1,Cs,acJ⟩:=oB.rx (by intro h;rw[h]at Ef;simp at Ef);have R5:=akH oB.ok;rw[Ef]at ME Cs;subst ME;subst he;clear oB;have HTv:=akH R7;have HTl:=akH Ef;clear R7 Ef;go_wp2_with fail;refine(H6h.out _ ((HR2.out.below kV).below nh)).mono ?_;rintro e w3 ⟨S,v2,he,R4,Ee,oB,rH⟩;have Hq:=R1.qu (rH.block g Ss);obtain⟨g',cap',R',rZ,acT,ajV,_,ajU,_⟩:=oB.rx (by intro h;rw[h]at Ee;simp at Ee);obtain⟨_,_,e2,LR⟩:=oB.sl;rw[rZ]at e2;cases e2;have HW:g'≠g:= aA 
 have H7:=uQ (some ⟨g',0,none⟩) cap' S w3 LR;have hV:iH S=ia (val Y*2^s):=by rw[uZ oB.ok,R4]
 have yq:=LR.tV;rw[hV]at H7 yq;rw[HNh.out.2.1,Ee]at H7;rw[Ee]at rZ;have acE:iT w w3:=(kV.trans nh).trans rH;subst rZ;subst he;have H7h:=akH H7;clear oB LR hV R4 Ee H7 R1 nh rH;go_wp2_with fail;refine H7h.out.mono ?_;rintro e w4 ⟨rfl,rfl⟩;go_wp2;go_loop [9] (λu=>u = .slice (some ⟨g,0,none⟩) (lx+1) cap) (λ_=>0)
 case atStart=>rfl
 case round=>
  subst hrel;go_wp2;have xt:=Rw.Ac w3 (lx+1-ly);have Ii:=HNh.out.2.1;have xr:=HNh.out.2.2.1;have wq:=HNh.out.2.2.2.1;have R8:=o9 (val Y*2^s);have LX:=lW (val Y*2^s);rw[<-LX]at wq;generalize ia (val Y*2^s)=V at *
  have LL:=sf.start (A:=val X) (s:=s) (V:=V) (O:=T) R5.out HTv.out (la:=lx) (by rw[HX.out];exact pq HS2.out.ok) HTl.out adj aA aA (by rw[Ii];exact wq);have R3:=yq.alloc (.cells (oq (List.replicate (lx+1-ly) 0)).toArray 95);have R2:Rx (w3.alloc (.cells (oq (List.replicate (lx+1-ly) 0)).toArray 95)) g T R:=Hq.qu ((iT.alloc w3 _).block g (by have:=Hq.lt;omega));rw[Ii]at LL;have HD0:=akH LL;have HR0:=akH xt;have HRx:=akH R2;have HSV:=akH R3;have HE0:=akH (acE.trans (iT.alloc w3 (.cells (oq (List.replicate (lx+1-ly) 0)).toArray 95)));have HnV:=akH Ii;have HVok:=akH R8;have HVv:=akH LX;have HN1:=akH xr;have hgq:g<w3.heap.size:=Hq.lt;have St:w.heap.size<=g:=bK kV.size Sr;clear LL xt R2 R3 yq Hq Ii R8 LX xr wq HTv HTl R5 H1h H2h H3h H4 H5h H6h H7h c1 c2 d2 vt kV Sr acT Ss HNh HS2 HR2;go_loopw [13] (λj wr=>∃ (k:Nat) (O Q:List Nat),k<=lx+1-ly/\j = .int .i64 ((k:Int)-1)/\sf (val X*2^s) V k (lx+1) O Q/\Rx wr g O R/\Rw wr w3.heap.size Q/\Sl wr (some ⟨g',0,none⟩) cap' V/\iT w wr) (λj _=>(intOf j+1).toNat)
  case atStart=>
   exact⟨lx+1-ly,T,_,bl _,by go_num,HD0.out,HRx.out,HR0.out,HSV.out,HE0.out⟩
  case round=>
   clear HD0 HRx HR0 HSV HE0;obtain⟨k,O,Q,hk,rfl,hD,Co,LQ,yq,Si⟩:=hrel;have HE:=akH Si;have HSV:=akH yq;have HRQ:=akH LQ;have HRO:=akH Co;have HD:=akH hD;clear hD Si;rcases k with _|t
   .have hO:=HD.out.T4;have SN:=HRO.out.sl HD.out.yZ (cap:=cap) aA acJ ly;have HZ:=Vj (some ⟨g,0,none⟩) cap (O.take ly) s wr SN aV aA;have e1:(O.take ly).length=ly:=by rw[cC];omega
    rw[e1]at HZ;have HZh:=akH HZ;have HQs:=akH (HRQ.out.sl HD.out.FF (by rw[HD.out.E6];omega));have wu:0<val V:=by
     have:=HD.out.lt;rcases ev (val V)with h|h
     .rw [h,cH]at this;omega
     .exact h
    have Sb:0<val Y:=by
     rw[HVv.out]at wu;exact Nat.pos_of_mul_pos_right wu
    have Md:=Z6 (a:=val X) (b:=val Y) (s:=s) (q:=val Q) (r:=val O) Sb (by rw[<-HVv.out];exact HD.out.eq) (by rw[<-HVv.out];have:=HD.out.lt;rw[cR,cv]at this;exact this);have Cw:val (O.take ly)=val O:=by
     rw[ajI HD.out.yZ,ct];have:=HD.out.lt;rw[cR,cv]at this;refine e9 this ?_;have h:=pq HVok.out;rw[HnV.out]at h;exact h
    have RV:iH (O.take ly)=ia (val X%val Y*2^s):=by rw[uZ (HD.out.yZ.take ly),Cw,Md.2]
    rw[RV]at HZh;have Ho:=HD.out.E6;rw[HnV.out]at Ho;have RZ:pt (val X/val Y) (lx+1-ly)=Q:=ZR HD.out.FF Ho Md.1;have HQd:=akH RZ;generalize qO (s%32) ((ia (val X%val Y*2^s)).drop (s/32))=Z at *
    have HQl:=akH Ho;clear Md Cw RV RZ SN HZ e1 Ho hO wu Sb yq Co LQ;go_wp2_with fail;refine HZh.out.mono ?_;rintro e w5 ⟨AZ,cZ,rfl,hZs,Se⟩;go_wp2;go_ret2;have hq:=HQs.out.below Se;rw[HQl.out]at hq;exact⟨_,_,_,_,by rw[AF];rfl,by rw[HQd.out];exact hq,hZs,HE.out.trans Se⟩
   .have hO:=HD.out.T4;have c4:=Co.cell (i:=t+ly) aA;have c5:=Co.cell (i:=t+ly-1) aA;have c6:=Co.cell (i:=t+ly-2) aA;obtain⟨_,_,e1,_,c7⟩:=yq.mr (i:=ly-1) (by rw[HnV.out];omega);obtain⟨_,_,e2,_,c8⟩:=yq.mr (i:=ly-2) (by rw[HnV.out];omega);cases e1;cases e2;rw[bX]at c7 c8;have v7:V[ly-1]'(by rw[HnV.out];omega)=V.getD (ly-1) 0:=by simp[bk,HnV.out,(aA:ly-1<ly)]
    have v8:V[ly-2]'(by rw[HnV.out];omega)=V.getD (ly-2) 0:=by simp[bk,HnV.out,(aA:ly-2<ly)]
    rw[v7]at c7;rw[v8]at c8;clear v7 v8;have lg:=HD.out.yZ;have o4:=lg.getD (t+ly);have o5:=lg.getD (t+ly-1);have o6:=lg.getD (t+ly-2);have o7:=HVok.out.getD (ly-1);have o8:=HVok.out.getD (ly-2);have hG:=HD.out.acv HVok.out (by rw[HnV.out];omega) (by rw[HnV.out];exact HN1.out);rw[HnV.out]at hG;obtain⟨gd,g1,g2,g3,g4⟩:=acw (O.getD (t+ly) 0) (O.getD (t+ly-1) 0) (O.getD (t+ly-2) 0) (V.getD (ly-1) 0) (V.getD (ly-2) 0) HN1.out o7 o5 o6 o8 hG.1;have HGq:=akH (hG.2 gd g1 g2 g3);have HG:=akH g4;clear hG g2 g3 g4 lg yq Co LQ;generalize O.getD (t+ly) 0=x4 at *
    generalize O.getD (t+ly-1) 0=x5 at *
    generalize O.getD (t+ly-2) 0=x6 at *
    have HV1:=akH (rfl:V.getD (ly-1) 0=V.getD (ly-1) 0);generalize hx7:V.getD (ly-1) 0=x7 at *
    generalize V.getD (ly-2) 0=x8 at *
    clear hx7 HV1;have i1:(((t+1:Nat):Int)-1)=(t:Int):= aA ;have i2:((t:Int)+ly).toNat=t+ly:= aA ;have i3:((t:Int)+ly-1).toNat=t+ly-1:= aA ;have i4:((t:Int)+ly-2).toNat=t+ly-2:= aA ;have i6:((ly:Int)-2)=((ly-2:Nat):Int):= aA ;have p1:IntKind.i64.wrap ((t:Int)+ly)=(t:Int)+ly:=i64_in _ aA aA;have p2:IntKind.i64.wrap ((t:Int)+ly-1)=(t:Int)+ly-1:=i64_in _ aA aA;have p3:IntKind.i64.wrap ((t:Int)+ly-2)=(t:Int)+ly-2:=i64_in _ aA aA;have p4:IntKind.i64.wrap ((ly-1:Nat):Int)=((ly-1:Nat):Int):=i64_in _ aA aA;have p5:IntKind.i64.wrap ((ly-2:Nat):Int)=((ly-2:Nat):Int):=i64_in _ aA aA;have j6:((ly-1:Nat):Int)<ly:= aA ;have j7:((ly-2:Nat):Int)<ly:= aA ;have j0:0<=(t:Int)+ly:= aA ;have j1:0<=(t:Int)+ly-1:= aA ;have j2:0<=(t:Int)+ly-2:= aA ;have j3:(t:Int)+ly<lx+1:= aA ;have j4:(t:Int)+ly-1<(lx:Int)+1:= aA ;have j5:(t:Int)+ly-2<(lx:Int)+1:= aA ;rw[i1];clear i1;go_wp2;go_quiet (exact ahb (HG.out _));go_wp2_with fail;have HTk:=ai9 g t (cap-t) cap' gd O V R (some ⟨g',0,none⟩) (wr.drewN nq) (HRO.out.qu rfl) (HSV.out.drewN nq) (λb' o _ e=>by cases e;exact HW) HD.out.yZ (by rw[HnV.out];omega) g1 aA;rw[HnV.out,(aA:ly+1=t+ly+1-t)]at HTk;refine HTk.mono ?_;rintro e w5 ⟨O',δ,rfl,R0,pz,CA,hδ,mm,Im,CB⟩;have HRO':=akH R0;have HON:=akH CB;have HSV5:=akH ((HSV.out.drewN nq).nu (λb' o _ e=>by cases e;exact HW) CB);have HRQ5:=akH (show Rw w5 w3.heap.size Q from(CB.nu _ aA).trans HRQ.out);have HE5:=akH (show iT w w5 from Fp.iT.ajl HE.out CB St);have hPt:=pw t;have R9:0<val V:=by
     have:=HD.out.lt;rcases ev (val V)with h|h
     .rw [h,cH]at this;omega
     .exact h
    have wg:IntKind.u32.wrap (gd:Int)=gd:=by rw[IntKind.wrap_u32];omega
    have htm:(t:Int)<lx+1-(ly:Int):= aA ;have SQ:t<Q.length:=by rw[HD.out.E6,HnV.out];omega
    have LP:=bw SQ;have cq:=HRQ5.out.cell LP;have fq:=HRQ5.out.frozen t;generalize Q[t]=q0 at *
    have HQG:=akH LP;clear LP SQ c4 c5 c6 c7 c8 HRO HRQ HSV HE HTk R0 CB;rcases fN δ 1 with hδ0|hδ1
    .obtain rfl:δ=0:= aA ;have RS:=Qz hPt R9 (by rw[mm,cT,bW]) HGq.out.1;have HDS:=akH (HD.out.step (x:=gd) (by rw[HnV.out];omega) (by rw[pz,hO]) CA aA (by rw[mm,cT,bW]) RS.2);clear RS mm Im CA pz HD HGq;have HRQ6:=akH (λx:Nat=>HRQ5.out.set t x);have HRO6:=akH (λv:Value=>HRO'.out.qu (w':=w5.setCell ⟨w3.heap.size,t,none⟩ v) (by simp only[World.setCell,cY];rw[bh aA]));have HSV6:=akH (λv:Value=>HSV5.out.Rj (b:=w3.heap.size) aA t v);have HE6:=akH (λv:Value=>HE5.out.setCell (p:=⟨w3.heap.size,t,none⟩) (by show w.heap.size<=w3.heap.size;omega) v);go_wp2;go_roundw
     case rel=>exact⟨t,O',Q.set t gd,aA,by go_num,HDS.out,HRO6.out _,HRQ6.out _,HSV6.out _,HE6.out _⟩
     case measure=>simp[intOf]
    .obtain rfl:δ=1:= aA ;have sq:=HD.out.VM (x:=gd) HVok.out CA (by rw[HnV.out];exact mm) (by rw[HnV.out];exact Im);have AS:=sq.2;have HB:=akH (λ(κ:Nat) (O2:List Nat)=>HD.out.YA (x:=gd) (κ:=κ) (O2:=O2) HVok.out (by rw[HnV.out];omega) CA (by rw[HnV.out];exact mm) (by rw[HnV.out];exact Im) g1 HGq.out.2 R9);have HP0:=akH (xc.start CA t V);have Sz:O'.length=lx+1:=by rw[pz,hO]
     have HL':=akH Sz;have hxm:IntKind.u64.wrap ((gd:Int)-1)=((gd-1:Nat):Int):=by rw[IntKind.wrap_u64];omega
     have wg1:IntKind.u32.wrap ((gd-1:Nat):Int)=((gd-1:Nat):Int):=by rw[IntKind.wrap_u32];omega
     clear sq mm Im CA pz Sz HD HGq wg cq fq;go_wp2;go_loopw [15,125] (λcy i wr2=>∃ (k c':Nat) (O2:List Nat),k<=ly/\i = .int .i64 k/\cy = .int .u32 c'/\xc O' t V k O2 c'/\Rx wr2 g O2 R/\sD g w5 wr2) (λ_ i _=>ly-(intOf i).toNat)
     case atStart=>exact⟨0,0,O',cg _,rfl,rfl,HP0.out,HRO'.out,sD.refl _ _⟩
     case round=>
      clear HP0 HRO';obtain⟨k,c',O2,xy,rfl,rfl,hP,zD,Cz⟩:=hrel;have HP:=akH hP;have zH:=hP.KN;have mF:O2.length=lx+1:=by rw[hP.len];exact HL'.out
      have HL2:=akH mF;clear hP;by_cases iJ:k<ly
      .have yA:k<V.length:=by rw[HnV.out];exact iJ
       obtain⟨_,_,e1,_,c1⟩:=(HSV5.out.nu (λb' o _ e=>by cases e;exact HW) Cz).mr yA;cases e1;rw[bX]at c1;have v7:V[k]=V.getD k 0:=by simp[bk,yA]
       rw[v7]at c1;have qk:t+k<O2.length:= aA ;have c2:=zD.cell qk;have c3:=zD.frozen (t+k);have qU:V.getD k 0<4294967296:=HVok.out.getD k;have EL:O2.getD (t+k) 0<4294967296:=HP.out.ok.getD _;have HST:=akH (HP.out.step HVok.out yA (by rw[HL'.out,HnV.out];omega));have HRS:=akH (λx:Nat=>zD.set qk x);have HOS:=akH (λ(v:Value)=>Cz.F4 (t+k) v);have HA:=akH (λw=>DG (O2.getD (t+k) 0) (V.getD k 0) c' w EL qU zH);clear zD Cz HP v7 yA qk mF HL2;generalize O2.getD (t+k) 0=u at *
       generalize V.getD k 0=y at *
       have yx:((t:Int)+k).toNat=t+k:= aA ;have Cu:0<=(t:Int)+k:= aA ;have hi3:(t:Int)+k<lx+1:= aA ;go_wp2_with fail;refine(HA.out _).mono ?_;rintro e w6 ⟨rfl,rfl⟩;go_wp2;go_roundw
       case rel=>
        exact⟨k+1,(u+y+c')/4294967296,O2.set (t+k) ((u+y+c')%4294967296),aA,by go_num,rfl,HST.out,HRS.out _,HOS.out _⟩
       case measure=>simp[intOf];omega
      .obtain rfl:k=ly:= aA ;have RY:=(show xc O' t V V.length O2 c' by rw[HnV.out];exact HP.out).M6 (by rw[HL'.out,HnV.out];omega);rw[HnV.out]at RY;obtain⟨q1,q2,⟨κ,q3,q4⟩,q5⟩:=RY;have qk:t+k<O2.length:= aA ;have c2:=zD.cell qk;have c3:=zD.frozen (t+k);have EL:O2.getD (t+k) 0<4294967296:=HP.out.ok.getD _;have HDS:=akH (HB.out κ _ (by rw[q1];exact HL'.out) q2 q3 (by rw[HnV.out];exact q4) (by rw[HnV.out];exact q5));have HRS:=akH (λx:Nat=>zD.set qk x);have HOS:=akH (λ(v:Value)=>Cz.F4 (t+k) v);have Hp:∀ v:Value,Rw (wr.setCell ⟨g,t+k,none⟩ v) w3.heap.size Q:=λv=>((HOS.out v).nu _ aA).trans HRQ5.out
       have hcq:∀ v:Value,(wr.setCell ⟨g,t+k,none⟩ v).cell? ⟨w3.heap.size,t,none⟩=some (.int .u32 (q0:Int)):=λv=>(Hp v).cell HQG.out
       have hfq:∀ v:Value,(wr.setCell ⟨g,t+k,none⟩ v).frozen? ⟨w3.heap.size,t,none⟩=false:=λv=>(Hp v).frozen t
       have HRQ8:=akH (λ(v:Value) (x:Nat)=>(Hp v).set t x);have HRO8:=akH (λ(x:Nat) (v:Value)=>(HRS.out x).qu (w':=(wr.setCell ⟨g,t+k,none⟩ (.int .u32 (x:Int))).setCell ⟨w3.heap.size,t,none⟩ v) (by simp only[World.setCell,cY];rw[bh aA]));have HSV8:=akH (λ(v v2:Value)=>(HSV5.out.nu (λb' o _ e=>by cases e;exact HW) (HOS.out v)).Rj (b:=w3.heap.size) aA t v2);have HE8:=akH (λ(v v2:Value)=>(Fp.iT.only HE5.out (HOS.out v) St).setCell (p:=⟨w3.heap.size,t,none⟩) (by show w.heap.size<=w3.heap.size;omega) v2);clear Hp HRS HOS zD Cz HP q1 q2 q3 q4 q5 qk mF HL2;generalize O2.getD (t+k) 0=u at *
       have yx:((t:Int)+k).toNat=t+k:= aA ;have Cu:0<=(t:Int)+k:= aA ;have hi3:(t:Int)+k<lx+1:= aA ;have hi4:IntKind.u32.wrap ((u:Int)+c')=(((u+c')%4294967296:Nat):Int):=by rw[IntKind.wrap_u32];omega
       generalize (u+c')%4294967296=uu at *
       go_wp2;go_roundw
       case rel=>exact⟨t,O2.set (t+k) uu,Q.set t (gd-1),aA,by go_num,HDS.out,HRO8.out _ _,HRQ8.out _ _,HSV8.out _ _,HE8.out _ _⟩
       case measure=>simp[intOf]
def aiv:E.le (.v (.slice none 0 0)) (iz []):=λbs br w v h=>by
 obtain rfl:=iC.kD h;exact .sl false 0 1 _ none 0 (λ_ _=>undef) (bl _) aC (λ_=>rfl) (λi j hi=>absurd hi (bu i)) (λi j hi=>absurd hi (bu i)) (λi j hi=>absurd hi (bu i)) (λi j hi=>absurd hi (bu i))
def aiw{x:Nat}:E.le (.sl false 1 1 λi_ j_=>[.v (.int .u32 (x:Int))].getD (i_*1+j_) (.v (.bool false))) (iz [x]):=.sl λi j hi hj=>by
 obtain rfl:i=0:= aA ;obtain rfl:j=0:= aA ;exact⟨.refl _,rfl⟩
def P7(L:List Nat)(hk:iM L):gW 203 [iz L] (iz L):=FL hk call203 (λA c w h _=>KT A c L w h) λA c B w e w' h hB ⟨h1,h2⟩=>by
 subst h2;exact⟨_,h1,Below.refl _ _,BU hB (Below.refl _ _) ⟨bl _,h.len,h.ok,λhn=>by have:=h.xM hn;have:=h.cap;omega,h.cell⟩⟩
def P9(L:List Nat)(hk:iM L)(hl:L.length<=1000000):gW 204 [iz L] (iz L):=FL hk call204 (λA c w h _=>KU A c L w h aA) λA c B w e w' h hB r=>rl B w e w' hB r
def afO(L M:List Nat)(hL:iM L)(hM:iM M)(h1:L.length<=100000)(h2:M.length<=100000)(hc:mC (val (iH L)) (val (iH M))<0):gW 334 [iz L,iz M] (.ik [iz [],iz (iH L)]):=by
 have ta:=pJ L;have tb:=pJ M;unfold mo at ta tb;exact aj call334 func334 (aa [af [iz L] (yY _ aB),af [iz M] (yY _ aB),af [iz (iH L),iz (iH M)] (Nw _ _ (iM.iH aB) (iM.iH aB) aA aA),tB 25 (bn hc),af [iz (iH L)] (P9 _ (iM.iH aB) aA)]<|rR (.ik [iz [],iz (iH L)]) (.ik (.cons aiv (.cons (.refl _) .nil)):E.le (.ik [.v (.slice none 0 0),iz (iH L)]) (.ik [iz [],iz (iH L)]))) 
def afP(L M:List Nat)(hL:iM L)(hM:iM M)(h1:L.length<=100000)(h2:M.length<=100000)(hc:¬mC (val (iH L)) (val (iH M))<0)(hl:(iH M).length=1)(zI:0<(iH M).getD 0 0)(zJ:(iH M).getD 0 0<4294967296):gW 334 [iz L,iz M] (.ik [iz (pt (val (iH L)/(iH M).getD 0 0) (iH L).length),iz [val (iH L)%(iH M).getD 0 0]]):=by
 have ta:=pJ L;have tb:=pJ M;unfold mo at ta tb;exact aj call334 func334 (aa [af [iz L] (yY _ aB),af [iz M] (yY _ aB),af [iz (iH L),iz (iH M)] (Nw _ _ (iM.iH aB) (iM.iH aB) aA aA),tB 25 (bp hc),ag 30 (((iH M).length:Int)==1) (by rw[hl];rfl),iX 0 ((iH M).length) aA,.c (afZ (iH L) ((iH M).getD 0 0) (iM.iH aB) aA zI zJ)]<|rR (.ik [iz (pt (val (iH L)/(iH M).getD 0 0) (iH L).length),iz [val (iH L)%(iH M).getD 0 0]]) (.ik (.cons (.refl _) (.cons aiw .nil)):E.le (.ik [iz (pt (val (iH L)/((iH M).getD 0 0)) (iH L).length),(.sl false 1 1 λi_ j_=>[.v (.int .u32 ((val (iH L)%((iH M).getD 0 0):Nat):Int))].getD (i_*1+j_) (.v (.bool false)))]) (.ik [iz (pt (val (iH L)/(iH M).getD 0 0) (iH L).length),iz [val (iH L)%(iH M).getD 0 0]]))) 
def afQ(L M:List Nat)(hL:iM L)(hM:iM M)(h1:L.length<=100000)(h2:M.length<=100000)(h0:val M≠0):∃ T S:List Nat,gW 334 [iz L,iz M] (.ik [iz T,iz S])/\val T=val L/val M/\val S=val L%val M/\iM T/\iM S/\T.length<=L.length/\S.length<=L.length+1:=by
 have ta:=pJ L;have tb:=pJ M;unfold mo at ta tb;have e1:=qG L;have e2:=qG M;by_cases hc:mC (val (iH L)) (val (iH M))<0
 .refine ⟨[],iH L,afO L M hL hM h1 h2 hc,?_,?_,iM.nil,hL.iH,cg _,aA⟩
  .rw [e1,e2]at hc;have:val L<val M:=by unfold mC at hc;split at hc<;>(try split at hc)<;>omega
   rw[dk this];rfl
  .rw [e1,e2]at hc;have:val L<val M:=by unfold mC at hc;split at hc<;>(try split at hc)<;>omega
   rw[ct this,e1]
 .have tq:val M<=val L:=by rw[e1,e2]at hc;unfold mC at hc;split at hc<;>(try split at hc)<;>omega
  have jQ:iH M≠[]:=by intro h;rw[h]at e2;exact h0 e2.symm
  have hlen:(iH M).length≠0:=by simpa using jQ
  by_cases hl:(iH M).length=1
  .obtain ⟨x,hx⟩:=List.length_eq_one_iff.1 hl;have lg:=hM.iH;rw[hx]at lg;have S3:x=val M:=by rw[<-e2,hx];simp[val]
   have hg:(iH M).getD 0 0=x:=by rw[hx];rfl
   have:=afP L M hL hM h1 h2 hc hl (by rw[hg];omega) (by rw[hg];exact lg.head);rw[hg]at this;refine⟨_,_,this,?_,?_,K7 _ _,iM.cons (e9 (bI _ aA) lg.head) iM.nil,by rw[AF];exact ta,aF⟩
   .rw [OK,ct,e1,S3];exact du (dA _ _) (pq hL.iH)
   .simp [val,e1,S3]
  .refine ⟨_,_,Jm hL hM call334 (λA c B d w h k hT=>aaa A B c d L M w _ _ _ rfl rfl rfl h k hT h1 h2 tq aA) (λB w e w' hB ⟨A1,c1,B1,d1,q1,q2,q3,q4⟩=>⟨_,q1,q4,jZ.ik (.cons (BU hB q4 q2) (.cons (BU hB q4 q3) (.nil _ _ _)))⟩),?_,?_,K7 _ _,FG _ _,?_,?_⟩
   .rw [OK,ct];rw[cF aA];have g1:=pq hL.iH;rw[e1]at g1;refine bO g1 ?_;obtain⟨l,pz⟩:∃ l,(iH M).length=l+1:=⟨(iH M).length-1,aA⟩
    have g2:4294967296^l<=val M:=by
     apply ch;intro q;have q2:(ia (val M)).length<=l:=wN aA;rw[<-uZ hM]at q2;omega
    have g3:=cM (4294967296^((iH L).length+1-(iH M).length)) g2;rw[<-bA]at g3;refine bK ?_ g3;exact b9 aC aA 
   .rw [OM (o9 _),lW,dN _ (bD aC)]
   .rw [AF];omega
   .rw [JU,cG];have hb:32-iy ((iH M).getD ((iH M).length-1) 0)<33:= aA ;have:=aeD (o9 (val L%val M)) (32-iy ((iH M).getD ((iH M).length-1) 0));rw[lW]at this;have h3:(ia (val L%val M)).length<=(ia (val L)).length:=Na (Nat.mod_le _ _);rw[<-uZ hL]at h3;omega
def afN(m n:Nat)(h1:(ia m).length<=256)(h2:(ia n).length<=256)(h0:n≠0):gW 280 [iz (ia m),iz (ia n)] (.ik [iz (ia (m/n)),iz (ia (m%n)),iP 0]):=by
 obtain⟨T,S,El,hT,hS,oT,oS,_,_⟩:=afQ (ia m) (ia n) (o9 m) (o9 n) aA aA (by rw[lW];exact h0);rw[lW,lW]at hT hS;have hz:iH (ia n)=ia n:=J8 n;have hl:=pQ h0;have mF:(((iH (ia n)).length:Int)==0)=false:=by rw[hz];exact oF hl
 exact aj call280 func280 (aa [.c (Vc (ia m) (ia n) aB aB),af [iz (ia n)] (yY _ (o9 _)),ah 18 (((iH (ia n)).length:Int)==0) mF,af [iz (ia m),iz (ia n)] El,af [iz T] (yY _ aB),af [iz (iH T)] (P7 _ (iM.iH aB)),af [iz S] (yY _ aB),af [iz (iH S)] (P7 _ (iM.iH aB))]<|rQ (.ik [iz (iH T),iz (iH S),iP 0]) (.ik [iz (ia (m/n)),iz (ia (m%n)),iP 0]) (by rw[uZ oT,uZ oS,hT,hS])) 
def V5(a b:Dy)(p:Nat)(up:Bool)(ha:a.ic)(hb:b.ic)(b0:b.m≠0)(iu:8<=p)(ie:p<=512):gW 230 [ib a,ib b,iP p,bP up] (.ik [ib (mi a b p up),iP (mD a b p up)]):=by
 by_cases a0:a.m=0
 .have e1:mi a b p up=iL/\mD a b p up=0:=by unfold mi mD;rw[bj a0,bj a0];exact⟨rfl,rfl⟩
  exact aj call230 func230 (aa [.o 18 (.e (wm _ _):ai (.sl true 2 3 λi_ j_=>(jt a++jt b).getD (i_*3+j_) (.v (.bool false))) (kC [a,b])),af [iP p,kC [a,b]] (wV _ _ _ aB aB aA aA),ah 21 ((0:Int) != 0) aC,ah 28 (((ia b.m).length:Int)==0) (oF (pQ b0)),ag 34 (((ia a.m).length:Int)==0) (r9 (uI.2 a0)),.o 35 (.e tc:ai (.agg an) (ib iL))]<|rQ (.ik [ib iL,iP 0]) (.ik [ib (mi a b p up),iP (mD a b p up)]) (by rw[e1.1,e1.2])) 
 .have va:=ha.ia;have vb:=hb.ia;have xa:=ha.exp;have xb:=hb.exp;have ra:=ha.range.resolve_left a0;have rb:=hb.range.resolve_left b0;have pa:=qf a0;have pb:=qf b0;have hK:lk a b p 3=p+3+iy b.m-iy a.m:=rfl;have bs:=th a0 (lk a b p 3);have z1:(ia (a.m*2^lk a b p 3)).length<=256:=qD aA;have hq:=K8 a0 b0 p 3 aC;have q0:a.m*2^lk a b p 3/b.m≠0:=by intro q;rw[q,vi]at hq;omega
  have z2:(ia (a.m*2^lk a b p 3/b.m)).length<=256:=qD (by have:=vh (dA (a.m*2^lk a b p 3) b.m);omega);have z3:(ia (a.m*2^lk a b p 3%b.m)).length<=256:=qD (by have:=vh (dU (bI (a.m*2^lk a b p 3) (fF b0)));omega);have lG:decide (0<(iy (a.m*2^lk a b p 3%b.m):Int))=decide (a.m*2^lk a b p 3%b.m≠0):=by
   by_cases h:a.m*2^lk a b p 3%b.m=0
   .rw [h,vi];rfl
   .have:=qf h;rw[bn h,bn aA]
  obtain⟨d1,d2⟩:=Z7 a0 b0 p up;have h0:a.m*2^lk a b p 3/b.m≠0\/a.m*2^lk a b p 3/b.m=0/\a.e-(lk a b p 3:Int)-b.e=0/\decide (0<(iy (a.m*2^lk a b p 3%b.m):Int))=false:=.inl q0;have hm:decide (0<(iy (a.m*2^lk a b p 3%b.m):Int))=true->p<iy (a.m*2^lk a b p 3/b.m):=λ_=>hq
  exact aj call230 func230 (aa [.o 18 (.e (wm _ _):ai (.sl true 2 3 λi_ j_=>(jt a++jt b).getD (i_*3+j_) (.v (.bool false))) (kC [a,b])),af [iP p,kC [a,b]] (wV _ _ _ aB aB aA aA),ah 21 ((0:Int) != 0) aC,ah 28 (((ia b.m).length:Int)==0) (oF (pQ b0)),ah 34 (((ia a.m).length:Int)==0) (oF (pQ a0)),iA ((p:Int)+3) aA,af [ib b] (QR _ aB),iA (((p:Int)+3)+(iy (Dy.m b):Int)) aA,af [ib a] (QR _ aB),
   iA ((((p:Int)+3)+(iy (Dy.m b):Int))-(iy (Dy.m a):Int)) aA,.o 44 (al (if((((p:Int)+3)+(iy (Dy.m b):Int))-(iy (Dy.m a):Int))>0 then((((p:Int)+3)+(iy (Dy.m b):Int))-(iy (Dy.m a):Int))else 0) (lk a b p 3:Int) aK),.c (xQ a.m (lk a b p 3) aA aA aA),af [iz (ia (a.m*2^(lk a b p 3))),iz (ia b.m)] (afN _ _ aA aA aB),
   iA (a.e-(lk a b p 3:Int)) aA,iA ((a.e-(lk a b p 3:Int))-b.e) aA,af [iz (ia ((a.m*2^(lk a b p 3))%b.m))] (vJ _ aA),.c (FU (! (a.neg==b.neg)) ((a.m*2^(lk a b p 3))/b.m) ((a.e-(lk a b p 3:Int))-b.e) (decide (0<(iy ((a.m*2^(lk a b p 3))%b.m):Int))) up p aA aB aA aA aA aA aB)]<|rQ (.ik [ib (kr (!(a.neg==b.neg)) ((a.m*2^(lk a b p 3))/b.m) ((a.e-(lk a b p 3:Int))-b.e) (decide (0<(iy ((a.m*2^(lk a b p 3))%b.m):Int))) p up),iP (jW (!(a.neg==b.neg)) ((a.m*2^(lk a b p 3))/b.m) ((a.e-(lk a b p 3:Int))-b.e) (decide (0<(iy ((a.m*2^(lk a b p 3))%b.m):Int))) p up)]) (.ik [ib (mi a b p up),iP (mD a b p up)]) (by rw[<-d1,<-d2,<-lG];rfl)) 
def N8(a b:Dy)(p:Nat)(ha:a.ic)(hb:b.ic)(b0:b.m≠0)(iu:8<=p)(ie:p<=512):gW 169 [ib a,ib b,iP p] (.ik [ib (mi a b p false),iP (mD a b p false)]):=
 aj call169 func169 (ae [.c (V5 a b p false aB aB aB aA aA)]) 
def V4(a b:Dy)(p:Nat)(ha:a.ic)(hb:b.ic)(b0:b.m≠0)(iu:8<=p)(ie:p<=512):gW 170 [ib a,ib b,iP p] (.ik [ib (mi a b p true),iP (mD a b p true)]):=
 aj call170 func170 (ae [.c (V5 a b p true aB aB aB aA aA)]) 
def Ty(l:List Iv)(i:Nat):PS:=⟨19,true,[(7,.e (iP i)),(6,.e (iP l.length)),(5,.e (hH l))],[]⟩
def Tx(l:List Iv)(N:Nat)(i:Nat):PS:=⟨19,true,[(7,.e (iP i)),(6,.e (iP l.length)),(5,.e (hH l))],[]⟩
def kT(a:Iv):E.le (.sl true 1 7 λi j=>(iQ a).getD (i*7+j) (.v (.bool false))) (hH [a]):=.sl λi j hi hj=>by
 obtain rfl:i=0:= aA ;rcases j with _|_|_|_|_|_|_|j
 all_goals first|exact⟨.refl _,rfl⟩|omega
def zY(a b:Iv):E.le (.sl true 2 7 λi j=>(iQ a++iQ b).getD (i*7+j) (.v (.bool false))) (hH [a,b]):=.sl λi j hi hj=>by
 obtain rfl|rfl:i=0\/i=1:= aA 
 all_goals
  rcases j with _|_|_|_|_|_|_|j
  all_goals first|exact⟨.refl _,rfl⟩|omega
def tI{x:Iv}(h:x.ic)(ha:x.all=false):x.lo.ic/\x.hi.ic/\ke x.lo x.hi<=0:=by
 rcases h with⟨h1,_⟩|⟨_,h⟩
 .rw [ha]at h1;cases h1
 .exact h
def adN{x:Iv}(h:x.ic)(ha:x.all=true):x.lo=iL/\x.hi=iL:=by
 rcases h with⟨_,h⟩|⟨h1,_⟩
 .exact h
 .rw [ha]at h1;cases h1
def rL : gW 21 [] (ix gZ):=
 aj call21 func21 (ae [.o 1 (.e xV:ai (.agg [bP false,.v (.slice none 0 0),iP 0,bP false,.v (.slice none 0 0),iP 0,bP true]) (ix gZ))]) 
def Ix(lo hi:Dy)(e f:Int):gW 127 [ib lo,iP e,ib hi,iP f] (ix (pF lo e hi f)):=by
 by_cases he:e=0
 .by_cases hf:f=0
  .exact aj call127 func127 (aa [ah 10 (e != 0) (by rw[he];rfl),ah 13 (f != 0) (by rw[hf];rfl)]<|rQ (ix (Iv.mk lo hi false)) (ix (pF lo e hi f)) (by rw[show pF lo e hi f=⟨lo,hi,false⟩by unfold pF;rw[bh (by simp[he,hf])]];try rfl)) 
  .exact aj call127 func127 (aa [ah 10 (e != 0) (by rw[he];rfl),ag 13 (f != 0) (by simpa using hf),.c rL]<|rQ (ix gZ) (ix (pF lo e hi f)) (by rw[show pF lo e hi f=gZ by unfold pF;rw[bj (.inr hf)]])) 
 .exact aj call127 func127 (aa [ag 10 (e != 0) (by simpa using he),.c rL]<|rQ (ix gZ) (ix (pF lo e hi f)) (by rw[show pF lo e hi f=gZ by unfold pF;rw[bj (.inl he)]])) 
def TE : gW 113 [ib iL] (bP true):=
 aj call113 func113 (ae [ah 4 iL.neg rfl,ag 10 (((ia iL.m).length:Int)==0) (r9 (uI.2 rfl)),ag 15 (iL.e==0) rfl]) 
def sX(x:Iv)(hx:x.ic):gW 66 [ix x] (bP true):=by
 by_cases lh:x.all=true
 .obtain ⟨h1,h2⟩:=adN hx lh;exact aj call66 func66 (ae [ag 5 x.all lh,.c (by rw[h1];exact TE:gW 113 [ib x.lo] (bP true)),.c (by rw[h2];exact TE:gW 113 [ib x.hi] (bP true))]) 
 .replace lh:x.all=false:=by simpa using lh
  obtain⟨h1,h2,h3⟩:=tI hx lh;exact aj call66 func66 (ae [ah 5 x.all lh,af [ib x.lo] (rT _ aB),af [ib x.hi] (rT _ aB),af [ib x.lo,ib x.hi] (pK _ _ aB aB),tB 30 (bn h3)]) 
def Tz(l:List Iv)(hl:l.length<=1000)(hv:∀ i,i<l.length->(l.getD i gZ).ic)(ha:∀ i,i<l.length->(l.getD i gZ).all=false):gW 93 [hH l] (bP true):=
 aj call93 func93 (ae [.s (Sp.jE (Ty l) 0 l.length aA (λi hi mw=>by
    have Io:=hv i aA;have LY:=ha i aA;exact iF (ae [tT 8 ((i:Int)<l.length) aA,iX (i:Int) (l.length) aA,ah 12 ((l.getD i gZ).all) LY,.c (sX (l.getD i gZ) aB),
     iA ((i:Int)+1) aA]) aD)
  (λhi=>by
    exact iF (ae [tF 8 ((l.length:Int)<l.length) aA]) aD) aG:jA 2 Tryz.f93 (Ty l 0) (.exit 0) ⟨19,true,[],[]⟩) .nil]) 
def MS(l:List Iv)(hl:l.length<=1000)(hv:∀ i,i<l.length->(l.getD i gZ).ic)(N:Nat)(hN:N<l.length)(ha:∀ i,i<N->(l.getD i gZ).all=false)(wq:(l.getD N gZ).all=true):gW 93 [hH l] (bP false):=
 aj call93 func93 (ae [.s (Sp.jE (Tx l N) 0 N aA (λi hi mw=>by
    have Io:=hv i aA;have LY:=ha i aA;exact iF (ae [tT 8 ((i:Int)<l.length) aA,iX (i:Int) (l.length) aA,ah 12 ((l.getD i gZ).all) LY,.c (sX (l.getD i gZ) aB),
     iA ((i:Int)+1) aA]) aD)
  (λhi=>by
    exact iF (ae [tT 8 ((N:Int)<l.length) aA,iX (N:Int) (l.length) aA,ag 12 ((l.getD N gZ).all) wq]) aD) aG:jA 2 Tryz.f93 (Tx l N 0) .ret ⟨19,true,[(2,.e (bP false))],[]⟩) .nil]) 
def rK(x:Iv)(hx:x.ic):gW 93 [hH [x]] (bP (!x.all)):=by
 have hv:∀ i,i<[x].length->([x].getD i gZ).ic:=λi hi=>(match i,hi with
  | 0,_=>hx
  |n+1,hi=>absurd hi aF)
 cases lh:x.all with
 |true=>exact MS [x] aF hv 0 aF (λi hi=>absurd hi (bu i)) lh
 |false=>exact Tz [x] aF hv (λi hi=>(match i,hi with
  | 0,_=>lh
  |n+1,hi=>absurd hi aF))
def Bh(x y:Iv)(hx:x.ic)(hy:y.ic):gW 93 [hH [x,y]] (bP (!(x.all||y.all))):=by
 have hv:∀ i,i<[x,y].length->([x,y].getD i gZ).ic:=λi hi=>(match i,hi with
  | 0,_=>hx
  | 1,_=>hy
  |n+2,hi=>absurd hi aF)
 cases lh:x.all with
 |true=>exact MS [x,y] aF hv 0 aF (λi hi=>absurd hi (bu i)) lh
 |false=>cases zU:y.all with
  |true=>exact MS [x,y] aF hv 1 aF (λi hi=>(match i,hi with
   | 0,_=>lh
   |n+1,hi=>absurd hi aA)) zU
  |false=>exact Tz [x,y] aF hv (λi hi=>(match i,hi with
   | 0,_=>lh
   | 1,_=>zU
   |n+2,hi=>absurd hi aF))
def yN(x y:Iv)(p:Nat)(hx:x.ic)(hy:y.ic)(iu:8<=p)(ie:p<=512):gW 73 [ix x,ix y,iP p] (ix (kU x y p)):=by
 by_cases hk:(x.all||y.all)=true
 .exact aj call73 func73 (aa [.o 13 (.e (zY _ _):ai (.sl true 2 7 λi_ j_=>(iQ x++iQ y).getD (i_*7+j_) (.v (.bool false))) (hH [x,y])),af [hH [x,y]] (Bh _ _ aB aB),ah 14 (!(x.all||y.all)) (by rw[hk];rfl),.c rL]<|rQ (ix gZ) (ix (kU x y p)) (by rw[show kU x y p=gZ by unfold kU;rw[bj hk]])) 
 .replace hk:(x.all||y.all)=false:=by simpa using hk
  have lh:x.all=false:=by cases h:x.all;rfl;rw[h]at hk;simp at hk
  have zU:y.all=false:=by cases h:y.all;rfl;rw[h]at hk;simp at hk
  obtain⟨v1,v2,v3⟩:=tI hx lh;obtain⟨v4,v5,v6⟩:=tI hy zU;exact aj call73 func73 (aa [.o 13 (.e (zY _ _):ai (.sl true 2 7 λi_ j_=>(iQ x++iQ y).getD (i_*7+j_) (.v (.bool false))) (hH [x,y])),af [hH [x,y]] (Bh _ _ aB aB),ag 14 (!(x.all||y.all)) (by rw[hk];rfl),af [iP p] (zX _),ag 18 (kF (p:Int)) (oG.2 ⟨aA,aA⟩),.c (Jt x.lo y.lo p aB aB aA aA),.c (FT x.hi y.hi p aB aB aA aA),.c (Ix (jd (iR x.lo y.lo) p false) (jd (iR x.hi y.hi) p true) (jI (iR x.lo y.lo) p false) (jI (iR x.hi y.hi) p true))]<|rQ (ix (pF (jd (iR x.lo y.lo) p false) (jI (iR x.lo y.lo) p false) (jd (iR x.hi y.hi) p true) (jI (iR x.hi y.hi) p true))) (ix (kU x y p)) (by rw[show kU x y p=_ by unfold kU;rw[bh (by rw[hk];decide)]])) 
def IA(x:Iv)(hx:x.ic):gW 72 [ix x] (ix (rp x)):=by
 by_cases lh:x.all=true
 .exact aj call72 func72 (aa [.o 4 (.e (kT _):ai (.sl true 1 7 λi_ j_=>(iQ x).getD (i_*7+j_) (.v (.bool false))) (hH [x])),af [hH [x]] (rK _ aB),ah 5 (!x.all) (by rw[lh];rfl),.c rL]<|rQ (ix gZ) (ix (rp x)) (by rw[show rp x=gZ by unfold rp;rw[bj lh]])) 
 .replace lh:x.all=false:=by simpa using lh
  obtain⟨v1,v2,v3⟩:=tI hx lh;exact aj call72 func72 (aa [.o 4 (.e (kT _):ai (.sl true 1 7 λi_ j_=>(iQ x).getD (i_*7+j_) (.v (.bool false))) (hH [x])),af [hH [x]] (rK _ aB),ag 5 (!x.all) (by rw[lh];rfl),af [ib x.hi] (xp _ aB),af [ib x.lo] (xp _ aB)]<|rQ (ix (Iv.mk (kB x.hi) (kB x.lo) false)) (ix (rp x)) (by rw[show rp x=⟨kB x.hi,kB x.lo,false⟩by unfold rp;rw[bh (by rw[lh];decide)]];try rfl)) 
def yO(x y:Iv)(p:Nat)(hx:x.ic)(hy:y.ic)(iu:8<=p)(ie:p<=512):gW 163 [ix x,ix y,iP p] (ix (ky x y p)):=by
 have hn:=qX hy;exact aj call163 func163 (ae [.c (IA y aB),.c (yN x (rp y) p aB aB aA aA)]) 
def Bi(d:Dy)(hd:d.ic):gW 18 [ib d] (ix (iY d)):=
 aj call18 func18 (ae [af [ib d] (rT _ aB)]) 
def Cd(d:Dy)(hd:d.ic):gW 193 [ib d] (ib (lS d)):=by
 have hl:=hd.ia;by_cases h0:d.m=0
 .have e1:lS d=iL:=by
   rcases hd.canon with q|q
   .unfold lS iL;rw[q.1,q.2.2]
   .omega
  exact aj call193 func193 (aa [af [ib d] (rT _ aB),ag 10 (((ia d.m).length:Int)==0) (r9 (uI.2 h0)),.o 12 (.e tc:ai (.agg an) (ib iL))]<|rQ (ib iL) (ib (lS d)) (by rw[e1])) 
 .exact aj call193 func193 (ae [af [ib d] (rT _ aB),ah 10 (((ia d.m).length:Int)==0) (oF (pQ h0)),af [iz (ia d.m)] (P9 _ (o9 _) aA)]) 
def TA(a b:Dy)(ha:a.ic)(hb:b.ic):gW 75 [ib a,ib b] (ib (jy a b)):=by
 have hc:=GN a b;by_cases h:(ke a b<=0)
 .exact aj call75 func75 (aa [af [ib a,ib b] (pK _ _ aB aB),tB 8 (bn h)]<|rQ (ib a) (ib (jy a b)) (by unfold jy;rw[bh aA])) 
 .exact aj call75 func75 (aa [af [ib a,ib b] (pK _ _ aB aB),tB 8 (bp h)]<|rQ (ib b) (ib (jy a b)) (by unfold jy;rw[bj aA])) 
def TB(a b:Dy)(ha:a.ic)(hb:b.ic):gW 74 [ib a,ib b] (ib (jv a b)):=by
 have hc:=GN a b;by_cases h:(0<=ke a b)
 .exact aj call74 func74 (aa [af [ib a,ib b] (pK _ _ aB aB),tB 8 (bn h)]<|rQ (ib a) (ib (jv a b)) (by unfold jv;rw[bh aA])) 
 .exact aj call74 func74 (aa [af [ib a,ib b] (pK _ _ aB aB),tB 8 (bp h)]<|rQ (ib b) (ib (jv a b)) (by unfold jv;rw[bj aA])) 
def EW(x:Iv)(hx:x.ic):gW 52 [ix x] (iP (oH x)):=by
 by_cases lh:x.all=true
 .exact aj call52 func52 (aa [.o 5 (.e (kT _):ai (.sl true 1 7 λi_ j_=>(iQ x).getD (i_*7+j_) (.v (.bool false))) (hH [x])),af [hH [x]] (rK _ aB),ah 6 (!x.all) (by rw[lh];rfl)]<|rQ (iP 0) (iP (oH x)) (by rw[show oH x=0 by unfold oH;rw[bj lh]])) 
 .replace lh:x.all=false:=by simpa using lh
  obtain⟨v1,v2,v3⟩:=tI hx lh;by_cases h1:0<x.lo.kf
  .exact aj call52 func52 (aa [.o 5 (.e (kT _):ai (.sl true 1 7 λi_ j_=>(iQ x).getD (i_*7+j_) (.v (.bool false))) (hH [x])),af [hH [x]] (rK _ aB),ag 6 (!x.all) (by rw[lh];rfl),af [ib x.lo] (uf _ aB),tB 12 (bn h1)]<|rQ (iP 1) (iP (oH x)) (by rw[show oH x=1 by unfold oH;rw[bh (by rw[lh];decide)];simp[h1]])) 
  .by_cases h2:x.hi.kf<0
   .exact aj call52 func52 (aa [.o 5 (.e (kT _):ai (.sl true 1 7 λi_ j_=>(iQ x).getD (i_*7+j_) (.v (.bool false))) (hH [x])),af [hH [x]] (rK _ aB),ag 6 (!x.all) (by rw[lh];rfl),af [ib x.lo] (uf _ aB),tB 12 (bp h1),af [ib x.hi] (uf _ aB),tB 17 (bn h2)]<|rQ (iP (-1)) (iP (oH x)) (by rw[show oH x = -1 by unfold oH;rw[bh (by rw[lh];decide)];simp[h1,h2]])) 
   .exact aj call52 func52 (aa [.o 5 (.e (kT _):ai (.sl true 1 7 λi_ j_=>(iQ x).getD (i_*7+j_) (.v (.bool false))) (hH [x])),af [hH [x]] (rK _ aB),ag 6 (!x.all) (by rw[lh];rfl),af [ib x.lo] (uf _ aB),tB 12 (bp h1),af [ib x.hi] (uf _ aB),tB 17 (bp h2)]<|rQ (iP 0) (iP (oH x)) (by rw[show oH x=0 by unfold oH;rw[bh (by rw[lh];decide)];simp[h1,h2]])) 
def Iy(x:Iv)(hx:x.ic)(lh:x.all=false):gW 160 [ix x] (.ik [ib (o0 x),bP true]):=by
 obtain⟨v1,v2,v3⟩:=tI hx lh;have w1:=xi v1;have w2:=xi v2;exact aj call160 func160 (ae [.o 5 (.e (kT _):ai (.sl true 1 7 λi_ j_=>(iQ x).getD (i_*7+j_) (.v (.bool false))) (hH [x])),af [hH [x]] (rK _ aB),ag 6 (!x.all) (by rw[lh];rfl),.c (Cd x.lo aB),.c (Cd x.hi aB),.c (TB (lS x.lo) (lS x.hi) aB aB)]) 
def adM(x:Iv)(hx:x.ic)(lh:x.all=false):gW 229 [ix x] (.ik [ib (po x),bP true]):=by
 obtain⟨v1,v2,v3⟩:=tI hx lh;have w1:=xi v1;have w2:=xi v2;by_cases hs:oH x=0
 .exact aj call229 func229 (aa [.o 5 (.e (kT _):ai (.sl true 1 7 λi_ j_=>(iQ x).getD (i_*7+j_) (.v (.bool false))) (hH [x])),af [hH [x]] (rK _ aB),ag 6 (!x.all) (by rw[lh];rfl),.c (EW x aB),ag 11 ((oH x)==0) (by rw[hs];rfl),.o 12 (.e tc:ai (.agg an) (ib iL))]<|rQ (.ik [ib iL,bP true]) (.ik [ib (po x),bP true]) (by rw[show po x=iL by unfold po;rw[bj hs]])) 
 .exact aj call229 func229 (aa [.o 5 (.e (kT _):ai (.sl true 1 7 λi_ j_=>(iQ x).getD (i_*7+j_) (.v (.bool false))) (hH [x])),af [hH [x]] (rK _ aB),ag 6 (!x.all) (by rw[lh];rfl),.c (EW x aB),ah 11 ((oH x)==0) (by simpa using hs),.c (Cd x.lo aB),.c (Cd x.hi aB),.c (TA (lS x.lo) (lS x.hi) aB aB)]<|rQ (.ik [ib (jy (lS x.lo) (lS x.hi)),bP true]) (.ik [ib (po x),bP true]) (by rw[show po x=jy (lS x.lo) (lS x.hi)by unfold po;rw[bh hs]])) 
def adE(x:Iv)(hx:x.ic):gW 162 [ix x] (ix (oL x)):=by
 by_cases lh:x.all=true
 .exact aj call162 func162 (aa [.o 8 (.e (kT _):ai (.sl true 1 7 λi_ j_=>(iQ x).getD (i_*7+j_) (.v (.bool false))) (hH [x])),af [hH [x]] (rK _ aB),ah 9 (!x.all) (by rw[lh];rfl),.c rL]<|rQ (ix gZ) (ix (oL x)) (by rw[show oL x=gZ by unfold oL;rw[bj lh]])) 
 .replace lh:x.all=false:=by simpa using lh
  obtain⟨v1,v2,v3⟩:=tI hx lh;exact aj call162 func162 (aa [.o 8 (.e (kT _):ai (.sl true 1 7 λi_ j_=>(iQ x).getD (i_*7+j_) (.v (.bool false))) (hH [x])),af [hH [x]] (rK _ aB),ag 9 (!x.all) (by rw[lh];rfl),.c (adM x aB lh),.c (Iy x aB lh)]<|rQ (ix (Iv.mk (po x) (o0 x) false)) (ix (oL x)) (by rw[show oL x=⟨po x,o0 x,false⟩by unfold oL;rw[bh (by rw[lh];decide)]];try rfl)) 
end Go.Proofs.YtjkmahljfblobaaGreatDoor
