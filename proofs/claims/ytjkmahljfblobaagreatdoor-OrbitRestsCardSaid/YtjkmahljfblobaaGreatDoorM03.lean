/- Lemmas that the last file uses. -/
import Derived.Test.YtjkmahljfblobaaGreatDoorM02
import Derived.Deep.Slices
import Derived.Carry
import Derived.Scope
set_option linter.unusedSimpArgs false
set_option linter.unusedVariables false
set_option linter.defProp false
set_option maxHeartbeats 4000000
open Go.Proofs.Tryz
namespace Go.Proofs.YtjkmahljfblobaaGreatDoor.Fp
def Vy(neg:Bool)(m:Nat)(e:Int)(more:Bool)(p:Nat)(up:Bool):
 kn neg m e more p up=kn false m e more p (up != neg) /\
 (kn false m e more p (up != neg)=0->neg=true->ki (kD false m e more p<|up != neg)=kD neg m e more p up) /\
 ((kn false m e more p (up != neg)≠0\/neg=false)->kD false m e more p (up != neg)=kD neg m e more p up):=by
 have qT:(false != (up != neg))=(neg != up):=by cases up<;>cases neg<;>rfl
 have hE:kn neg m e more p up=kn false m e more p (up != neg):=by unfold kn;rw[qT]
 refine⟨hE,λh hn=>?_,λh=>?_⟩
 .have h':=Ix.1 h;rw[qT]at h';have neg_canon:∀ q u,ki (canon false q u)=canon true q u:=by
   intro q u;unfold canon ki;by_cases hq:q=0
   .simp [hq]
   .rw [bj hq,bj hq];have:=J5 hq;have h0:q/2^jZ q≠0:= aC ;simp[h0]
  subst hn;unfold kD;rw[qT];by_cases ho:mV m e more p (true != up)=true
  .have hu:(true != up)=false:=by
    cases hq:(true != up)with
    |false=>rfl
    |true=>exact absurd ⟨ho,hq⟩ h'
   rw[bk ho,bk ho,hu];simp only[bJ,bB];exact neg_canon _ _
  .rw [bj ho,bj ho];exact neg_canon _ _
 .rcases h with h|h
  .have h1:mV m e more p (neg != up)=true/\(neg != up)=true:=by
    by_cases q:mV m e more p (neg != up)=true/\(neg != up)=true
    .exact q
    .exact absurd (Ix.2<|by rw[qT];exact q) h
   unfold kD;rw[qT,bk h1.1,bk h1.2,bk h1.1,bk h1.2]
  .subst h;cases up<;>rfl
section
variable(a b:Dy)(p:Nat)
def jD:Int:=if a.iJ-b.iJ<=2 then min (min a.e<|a.iJ-p-8) b.e else min a.e (a.iJ-p-8)
def oV:Nat:=a.m*2^(a.e-jD a b p).toNat
def nm:Nat:=np b (jD a b p)+if(a.neg != b.neg&&oF b (jD a b p))=true then 1 else 0
def qL:Bool:=(a.neg != b.neg)&&decide (oV a b p<nm a b p)
def mJ:Nat:=if a.neg=b.neg then oV a b p+nm a b p else if oV a b p<nm a b p then nm a b p-oV a b p else oV a b p-nm a b p
def nY:Bool:=oF b (jD a b p) && !qL a b p
def SW:jD a b p<=a.e/\jD a b p<=a.iJ-p-8/\(jD a b p<=b.e\/3<=a.iJ-b.iJ):=by
 unfold jD;split<;>omega
end
def KL{a:Dy}(a0:a.m≠0):a.iJ=iD a.m+a.e:=by unfold Dy.iJ;rw[bj a0]
structure ad5(a b:Dy)(p:Nat):Prop where
 lo:-17000<=jD a b p
 hi:jD a b p<=16384
 x:iD (oV a b p)<=4100
 x0:oV a b p≠0
 sh:(a.e-jD a b p).toNat<=60000
 sh2:(b.e-jD a b p).toNat<=60000
 sh3:(jD a b p-b.e).toNat<=60000
 y:iD (np b<|jD a b p)<=4100
 l:oF b (jD a b p)=true->p+8<=iD (oV a b p)/\iD (np b<|jD a b p)+3<=iD (oV a b p)
section
variable{a b:Dy}{p:Nat}(ha:a.ix)(hb:b.ix)(a0:a.m≠0)(b0:b.m≠0)
section
variable(ht:b.iJ<=a.iJ)(iu:p<=512)
def N8:ad5 a b p:=by
 have ra:=ha.range.resolve_left a0;have rb:=hb.range.resolve_left b0;have ta:=KL a0;have tb:=KL b0;obtain⟨h1,h2,h3⟩:=SW a b p;have hx:iD (oV a b p)=iD a.m+(a.e-jD a b p).toNat:=s9 a0 _;have Gg:jD a b p=a.e\/jD a b p=a.iJ-p-8\/(a.iJ-b.iJ<=2/\jD a b p=b.e):=by unfold jD;split<;>omega
 have hy:iD (np b<|jD a b p)<=iD (oV a b p):=by
  unfold np;split
  .rw [s9 b0];omega
  .have:iD (b.m/2^(jD a b p-b.e).toNat)<=iD b.m-(jD a b p-b.e).toNat:=by
    rw[mU,cT<|bF aE,<-bE];exact mU.1 aC 
   omega
 have pa:=qa a0;have pb:=qa b0;refine⟨aC,aC,aC,?_,aC,aC,aC,aC,λhl=>?_⟩
 .intro h;unfold oV at h;exact(ej a0<|eP<|bF aE) h
 .obtain ⟨K,d,k1,k2,k3,k4,k5,k6,k7⟩:=S2 (p:=p) a0 b0 h1 h2 h3;rcases k7 with rfl|⟨k7,k8⟩
  .rw [k6]at hl;simp[eA]at hl
  .rw [k5];exact⟨k7,k8⟩
def Tg:
 iD (nm a b p)<=4101/\iD (mJ a b p)<=4102/\(nY a b p=true->p<iD (mJ a b p)):=by
 obtain⟨l1,l2,l3,l4,l5,l6,l7,l8,l9⟩:=N8 ha hb a0 b0 ht iu;have hy:nm a b p<=np b (jD a b p)+1:=by unfold nm;split<;>omega
 obtain⟨K,hK⟩:∃ K:Nat,K=4100:=⟨_,rfl⟩
 have g1:4101=K+1:= aC ;have g2:4102=K+2:= aC ;rw[g1,g2];rw[<-hK]at l3 l8;have hy4:np b (jD a b p)<2^K:=mU.1 l8;have hx4:oV a b p<2^K:=mU.1 l3;have e1:(2:Nat)^(K+1)=2*2^K:=by rw[bM];omega
 have e2:(2:Nat)^(K+2)=4*2^K:=by rw[bE];omega
 generalize (2:Nat)^K=Z at *
 refine⟨mU.2 aC,mU.2 ?_,λhl=>?_⟩
 .unfold mJ;split
  .omega
  .split<;>omega
 .unfold nY at hl;simp only[bK,du]at hl;obtain⟨q1,q2⟩:=l9 hl.1;have hX:2^(iD (oV a b p)-1)<=oV a b p:=vF l4;rw[yl];have hY:np b (jD a b p)<2^(iD (oV a b p)-3):=mU.1 aC;have e3:(2:Nat)^(iD (oV a b p)-1)=4*2^(iD (oV a b p)-3):=by
   rw[(aC:iD (oV a b p)-1=(iD (oV a b p)-3)+2),bE];omega
  have hp:(2:Nat)^p<=2^(iD (oV a b p)-3):=bY aE aC;unfold mJ;split
  .omega
  .rename_i hs;unfold qL at hl;rw[bj (by
    have:=hl.2;simp[hs]at this;omega)]
   omega
end
def acQ(up:Bool):
 (mJ a b p=0/\nY a b p=false->jc a b=iY) /\
 (¬(mJ a b p=0/\nY a b p=false)->kD (a.neg != qL a b p) (mJ a b p) (jD a b p) (nY a b p) p up=jd (jc a b) p up/\kn (a.neg != qL a b p) (mJ a b p) (jD a b p) (nY a b p) p up=jI (jc a b) p up):=by
 obtain⟨h1,h2,h3⟩:=SW a b p;by_cases hs:a.neg=b.neg
 .have hn:(a.neg != b.neg)=false:=by rw[hs];simp
  have e1:qL a b p=false:=by unfold qL;rw[hn];rfl
  have e2:nY a b p=oF b (jD a b p):=by unfold nY;rw[e1];simp
  have e3:mJ a b p=a.m*2^(a.e-jD a b p).toNat+np b (jD a b p):=by unfold mJ;rw[bk hs];unfold oV nm;rw[hn];simp
  have hx:mJ a b p≠0:=by
   rw[e3];have:=ej a0 (eP<|bF (n:=(a.e-jD a b p).toNat)<|show 0<2 by decide);omega
  refine⟨λh=>absurd h.1 hx,λ_=>?_⟩;rw[e1,e2,e3];have:=aqd ha.canon hb.canon a0 b0 h1 h2 h3 hs up;cases hA:a.neg<;>rw[hA]at this<;>exact this
 .have hn:(a.neg != b.neg)=true:=by simpa using hs
  have eY:nm a b p=np b (jD a b p)+if oF b (jD a b p)=true then 1 else 0:=by unfold nm;rw[hn];simp
  obtain⟨r1,r2⟩:=aqc (p:=p) ha.canon hb.canon a0 b0 h1 h2 h3 hs up;rw[<-eY]at r1 r2;change oV a b p<nm a b p->_ at r1;change nm a b p<=oV a b p->_ at r2;by_cases hc:oV a b p<nm a b p
  .have e1:qL a b p=true:=by unfold qL;rw[hn,bu hc];rfl
   have e2:nY a b p=false:=by unfold nY;rw[e1];simp
   have e3:mJ a b p=nm a b p-oV a b p:=by unfold mJ;rw[bj hs,bk hc]
   rw[e1,e2,e3];refine⟨λh=> aC,λ_=>?_⟩;have:=r1 hc;cases hA:a.neg<;>rw[hA]at this<;>exact this
  .have e1:qL a b p=false:=by unfold qL;rw[hn,bn hc];rfl
   have e2:nY a b p=oF b (jD a b p):=by unfold nY;rw[e1];simp
   have e3:mJ a b p=oV a b p-nm a b p:=by unfold mJ;rw[bj hs,bj hc]
   rw[e1,e2,e3];obtain⟨q1,q2⟩:=r2 aC;refine⟨q1,λh=>?_⟩;have:=q2 h;cases hA:a.neg<;>rw[hA]at this<;>exact this
end
end Go.Proofs.YtjkmahljfblobaaGreatDoor.Fp
namespace Go.Proofs.YtjkmahljfblobaaGreatDoor
open Go.RowKit Fp
def afe(a b:Nat):iD (a*b)<=iD a+iD b:=by
 rw[mU,bE];exact Nat.mul_lt_mul'' (tp a)<|tp b
def agi(d:Dy)(A:Option Addr)(c:Nat)(w:World)(hs:Sl w A c<|im d.m)(hl:(im d.m).length<=100000000)(nb:-10000000<=d.e)(mv:d.e<=10000000):
 Calls prog 184 #[DV d A c] w (Bi w (nZ d)<|rp d):=by
 by_cases hd:oi d
 .rw [Ir hd,Lu hd];exact Vc d A c w hs hl nb mv hd
 .rw [Po hd,Vd hd];exact agj d A c w hs hl nb mv hd
section
variable(s:Bool)(m:Nat)(e:Int)
def Bo{n:Nat}(hm:(im m).length<=n):(im (canon s m e).m).length<=n/\e<=max (canon s m e).e e/\((canon s m e).e<=max 0 (e+32*n))/\min 0 e<=(canon s m e).e:=by
 unfold canon;by_cases h0:m=0
 .rw [bk h0];simp only[px];exact⟨ck _,aC,aC,aC⟩
 .rw [bj h0];have h1:jZ m<32*n:=by
   have h1:=Kg h0;have h2:=MY hm;rw[vC]at h2;exact(at2 (aE:1<2)).1<|cO h1 h2
  exact⟨bA (nG<|cv _ _) hm,aC,by simp only;omega,by simp only;omega⟩
def U3(A:Option Addr)(c:Nat)(w:World)(hs:Sl w A c<|im m)(hl:(im m).length<=256)(nb:-1000000<=e)(mv:e<=1000000)(vL:Tb w):
 Calls prog 123 #[.bool s,.slice A (im m).length c,.int .i64 e] w (Bh w<|canon s m e):=by
 have:=LK s A c (im m) e w hs aC (by have:=qN<|im m;unfold nf at this;omega) nb mv vL;rw[lF]at this;exact this
end
def aaN{m:Nat}(h:m=0):(((im m).length:Int)==0)=true:=by rw[h,px];rfl
def aou{m:Nat}(h:m≠0):(((im m).length:Int)==0)=false:=by
 refine aY ?_;have:im m≠[]:=λe=>h<|MO.1 e
 have:=gM.2 this;omega
def asX(a b:Dy)(A B:Option Addr)(c d:Nat)(w:World)(_hs:Sl w A c<|im a.m)(hr:Sl w B d<|im b.m)(vL:Tb w)(hb:b.ix)(h0:a.m=0):
 Calls prog 239 #[DV a A c,DV b B d] w (Bi w (nZ<|jc a b)<|rp<|jc a b):=by
 have Gp:jc a b=b:=by unfold jc;rw[bk h0]
 rw[Gp,Ir hb.range,Lu hb.range];have hl:=hb.len;obtain⟨nb,mv⟩:=hb.exp;have HC:=auj λw (h:Sl w B d<|im b.m) (ht:Tb w)=>U3 b.neg b.m b.e B d w h hl aC aC ht;rw[hb.canon.DX]at HC;have n0:=aaN h0;clear Gp h0;have hE:=((ja.alloc w<|.cells #[.bool b.neg,.slice B ((im b.m).length) d,.int .i64 b.e] 37).trans<|ja.alloc (w.alloc<|.cells #[.bool b.neg,.slice B ((im b.m).length) d,.int .i64 b.e] 37)<|.cells #[.bool b.neg,.slice B ((im b.m).length) d,.int .i64 b.e] 37).trans<|ja.alloc ((w.alloc<|.cells #[.bool b.neg,.slice B ((im b.m).length) d,.int .i64 b.e] 37).alloc<|.cells #[.bool b.neg,.slice B ((im b.m).length) d,.int .i64 b.e] 37)<|.cells #[.bool false,.slice none 0 0,.int .i64 0] 37;have b1:=((jW.AU (W:=w) (g:=w.heap.size) aH b.neg B ((im b.m).length) d b.e).alloc<|.cells #[.bool b.neg,.slice B ((im b.m).length) d,.int .i64 b.e] 37).alloc<|.cells #[.bool false,.slice none 0 0,.int .i64 0] 37;have b2:=(jW.AU (W:=(w.alloc<|.cells #[.bool b.neg,.slice B ((im b.m).length) d,.int .i64 b.e] 37)) (g:=w.heap.size+1) aH b.neg B ((im b.m).length) d b.e).alloc<|.cells #[.bool false,.slice none 0 0,.int .i64 0] 37;have b3:=jW.AU (W:=((w.alloc<|.cells #[.bool b.neg,.slice B ((im b.m).length) d,.int .i64 b.e] 37).alloc<|.cells #[.bool b.neg,.slice B ((im b.m).length) d,.int .i64 b.e] 37)) (g:=w.heap.size+2) aH false none 0 0 0;replace hr:=hr.below hE;replace vL:=vL.below hE;go_enter func239,ntmps239;go_wp2_with fail
 (with_reducible refine(HC.out _ hr vL).mono ?_)
 rintro r w1 ⟨A_h4,c_h4,rfl,h4,hb⟩;replace hE:=hE.trans hb;replace hr:=hr.below hb;replace vL:=vL.below hb;replace b1:=b1.ext hb;replace b2:=b2.ext hb;replace b3:=b3.ext hb;clear hb;have atg:=b3.c0;have yb30:=b3.fr 0;have ath:=b3.c1;have yb31:=b3.fr 1;have ati:=b3.c2;have yb32:=b3.fr 2;go_wp2;exact FV (d:=b) rfl rfl rfl rfl (b3.set _ _ _ _ _) rfl (b3.xy h4 _ _ _ _ _) (jW.wq hE aC _ _ _ _ _)
def ahy(a:Dy)(A:Option Addr)(c:Nat)(w:World)(h:Sl w A c<|im a.m)(ha:a.ix):
 Calls prog 176 #[DV a A c] w λe w'=>e = .returned (.int .i64 a.iJ)/\ja w w':=by
 have:=PK a.neg A c (im a.m) a.e w h ha.yT;rw[lF]at this;exact this
set_option maxRecDepth 100000 in
set_option maxHeartbeats 8000000 in
def ahw(a : Dy)(A : Option Addr)(c : Nat)(w : World)(hs : Sl w A c<|im a.m)(ha : a.ix):
    Calls prog 124 #[DV a A c] w (Bh w<|ki a) := by
  have HV := auj λw (h : Sl w A c<|im a.m) => V8 a A c w h ha;have hl := ha.len;by_cases h0 : a.m=0
  . have hz : Hid<|ki a=iY := by
      show ki a=iY;obtain⟨s,m,e⟩ := a;rcases ha.canon with⟨h1,h2,h3⟩|h1
      . simp only at h1 h2 h3;subst h1 h2 h3;rfl
      . simp only at h0 h1;omega
    have n0 := aaN h0;clear h0;have hE := (ja.alloc w<|.cells #[.bool a.neg,.slice A ((im a.m).length) c,.int .i64 a.e] 37).trans<|ja.alloc (w.alloc<|.cells #[.bool a.neg,.slice A ((im a.m).length) c,.int .i64 a.e] 37)<|.cells #[.bool false,.slice none 0 0,.int .i64 0] 37;have b1 := (jW.AU (W := w) (g := w.heap.size) aH a.neg A ((im a.m).length) c a.e).alloc<|.cells #[.bool false,.slice none 0 0,.int .i64 0] 37;have b2 := jW.AU (W := (w.alloc<|.cells #[.bool a.neg,.slice A ((im a.m).length) c,.int .i64 a.e] 37)) (g := w.heap.size+1) aH false none 0 0 0;replace hs := hs.below hE;go_enter func124,ntmps124;go_wp2_with fail
    (with_reducible refine(HV.out _ hs).mono ?_)
    rintro r w1 ⟨rfl,hb⟩;replace hE := hE.trans hb;replace hs := hs.below hb;replace b1 := b1.ext hb;replace b2 := b2.ext hb;clear hb;have Ot := b1.c0;have Ou := b1.c1;have Ov := b1.c2;have atd := b2.c0;have yb20 := b2.fr 0;have ate := b2.c1;have yb21 := b2.fr 1;have atf := b2.c2;have yb22 := b2.fr 2;go_wp2;rw[hz.out];exact Br (d := iY) rfl rfl rfl (b2.set _ _ _ _ _) (by rw[show iY.m=0 from rfl,px];rfl) (by rw[show iY.m=0 from rfl,px];exact Sl.nil _) (jW.wq hE aC _ _ _ _ _)
  . have n0 := aou h0
    have HN := auj (show ki a=⟨!a.neg,a.m,a.e⟩by unfold ki;simp[h0]);have HC := auj λw (h : Sl w A c<|im a.m) => Pq A c (im a.m) w h aC;clear h0;have hE := (ja.alloc w<|.cells #[.bool a.neg,.slice A ((im a.m).length) c,.int .i64 a.e] 37).trans<|ja.alloc (w.alloc<|.cells #[.bool a.neg,.slice A ((im a.m).length) c,.int .i64 a.e] 37)<|.cells #[.bool false,.slice none 0 0,.int .i64 0] 37;have b1 := (jW.AU (W := w) (g := w.heap.size) aH a.neg A ((im a.m).length) c a.e).alloc<|.cells #[.bool false,.slice none 0 0,.int .i64 0] 37;have b2 := jW.AU (W := (w.alloc<|.cells #[.bool a.neg,.slice A ((im a.m).length) c,.int .i64 a.e] 37)) (g := w.heap.size+1) aH false none 0 0 0;replace hs := hs.below hE;go_enter func124,ntmps124;go_wp2_with fail
    (with_reducible refine(HV.out _ hs).mono ?_)
    rintro r w1 ⟨rfl,hb⟩;replace hE := hE.trans hb;replace hs := hs.below hb;replace b1 := b1.ext hb;replace b2 := b2.ext hb;clear hb;have Ot := b1.c0;have Ou := b1.c1;have Ov := b1.c2;clear Ot Ou Ov;have Ot := b1.c0;have Ou := b1.c1;have Ov := b1.c2;go_wp2_with fail;clear Ot Ou Ov;replace hs := hs.drew;replace b1 := b1.drew;replace b2 := b2.drew;replace hE := hE.trans<|ja.drew _;go_region_held3 (λw' => w'.cell? ⟨w.heap.size,0,none⟩=some (.bool a.neg)/\w'.cell? ⟨w.heap.size,1,none⟩=some (.slice A ((im a.m).length) c)/\w'.cell? ⟨w.heap.size,2,none⟩=some (.int .i64 a.e))
      (first|with_reducible exact⟨(b1).c0,(b1).c1,(b1).c2⟩|with_reducible exact⟨(b1.ext ml).c0,(b1.ext ml).c1,(b1.ext ml).c2⟩|with_reducible exact⟨((b1.ext ml).P6 (g' := w.heap.size+1) aC _ _ _).c0,((b1.ext ml).P6 (g' := w.heap.size+1) aC _ _ _).c1,((b1.ext ml).P6 (g' := w.heap.size+1) aC _ _ _).c2⟩)
      (first
        | (go_at_call 204
           (with_reducible refine(HC.out _ hs).mono ?_)
           rintro r wx0 ⟨A_h4,c_h4,rfl,h4,ml⟩;have bz := b2.ext ml;have z0 := bz.c0;have z1 := bz.c1;have z2 := bz.c2;have y0 := bz.fr 0;have y1 := bz.fr 1;have y2 := bz.fr 2))
    replace hE := hE.trans ml;replace hs := hs.below ml;replace b1 := b1.ext ml;replace b2 := b2.ext ml;go_wp2;rw[HN.out];exact Br (d := ⟨!a.neg,a.m,a.e⟩) rfl rfl rfl (bz.set _ _ _ _ _) rfl (bz.xy h4 _ _ _ _ _) (jW.wq hE aC _ _ _ _ _)
open Pu
section
variable {f:FuncId} {L M:List Nat} {jk:E}
def Kb(hk:iW L)(hc:∀ (vs:Array Value) (w:World),(callFunc f vs).run prog w = .ok (.enter f vs) w)
 {R:Option Addr->Nat->World->Ending->World->Prop} (H:∀ A c w,Sl w A c L->Tb w->Calls prog f #[.slice A L.length c] w (R A c w))
 (hR:∀ (A:Option Addr) (c:Nat) (B:Nat->Prop) w e w',Sl w A c L->(∀ b,B b->b<w.heap.size/\oL w b)->R A c w e w'->∃ v,e = .returned v/\Below w.heap.size w w'/\iO B (λ_=>True) w' jk v):il f [iy L] jk:=by
 refine⟨hc,λw B vs hK hB hr=>?_⟩;obtain⟨v1,vs,rfl,h1,hr⟩:=hr.nR;obtain rfl:=hr.sK;obtain⟨A,c,rfl,s1⟩:=Cn hk h1;exact(H A c w s1 hK).mono λe w' h=>hR A c B w e w' s1 hB h
def Nj(hk:iW L){n:Int}(hc:∀ (vs:Array Value) (w:World),(callFunc f vs).run prog w = .ok (.enter f vs) w)
 {R:Option Addr->Nat->World->Ending->World->Prop} (H:∀ A c w,Sl w A c L->Tb w->Calls prog f #[.slice A L.length c,.int .i64 n] w (R A c w))
 (hR:∀ (A:Option Addr) (c:Nat) (B:Nat->Prop) w e w',Sl w A c L->(∀ b,B b->b<w.heap.size/\oL w b)->R A c w e w'->∃ v,e = .returned v/\Below w.heap.size w w'/\iO B (λ_=>True) w' jk v):il f [iy L,iP n] jk:=by
 refine⟨hc,λw B vs hK hB hr=>?_⟩;obtain⟨v1,vs,rfl,h1,hr⟩:=hr.nR;obtain⟨v2,vs,rfl,h2,hr⟩:=hr.nR;obtain rfl:=hr.sK;obtain rfl:=iO.kW h2;obtain⟨A,c,rfl,s1⟩:=Cn hk h1;exact(H A c w s1 hK).mono λe w' h=>hR A c B w e w' s1 hB h
def Kd(hk:iW L)(hm:iW M)(hc:∀ (vs:Array Value) (w:World),(callFunc f vs).run prog w = .ok (.enter f vs) w)
 {R:World->Ending->World->Prop} (H:∀ A c B d w,Sl w A c L->Sl w B d M->Tb w->Calls prog f #[.slice A L.length c,.slice B M.length d] w (R w))
 (hR:∀ (B:Nat->Prop) w e w',(∀ b,B b->b<w.heap.size/\oL w b)->R w e w'->∃ v,e = .returned v/\Below w.heap.size w w'/\iO B (λ_=>True) w' jk v):il f [iy L,iy M] jk:=by
 refine⟨hc,λw B vs hK hB hr=>?_⟩;obtain⟨v1,vs,rfl,h1,hr⟩:=hr.nR;obtain⟨v2,vs,rfl,h2,hr⟩:=hr.nR;obtain rfl:=hr.sK;obtain⟨A,c,rfl,s1⟩:=Cn hk h1;obtain⟨A',d,rfl,s2⟩:=Cn hm h2;exact(H A c A' d w s1 s2 hK).mono λe w' h=>hR B w e w' hB h
end
def Kr{L:List Nat}{n:Int}(B:Nat->Prop)(w:World)(e:Ending)(w':World)(hB:∀ b,B b->b<w.heap.size/\oL w b)(h:FG w L n e w'):∃ v,e = .returned v/\Below w.heap.size w w'/\iO B (λ_=>True) w' (.iH [iy L,iP n]) v:=
 let⟨_,_,h1,h2,h3⟩:=h
 ⟨_,h1,h3,ku.iH<|.cons (DG hB h3 h2)<|.cons (.v _)<|.nil _ _ _⟩
def rl{L:List Nat}(B:Nat->Prop)(w:World)(e:Ending)(w':World)(hB:∀ b,B b->b<w.heap.size/\oL w b)(h:Aa w L e w'):∃ v,e = .returned v/\Below w.heap.size w w'/\iO B (λ_=>True) w' (iy L) v:=
 let⟨_,_,h1,h2,h3⟩:=h
 ⟨_,h1,h3,DG hB h3 h2⟩
section
variable(L:List Nat)(hk:iW L)
def we:il 235 [iy L]<|iy<|iT L:=
 Kb hk call235 (λA c w h _=>xq A c L w h) λA c B w e w' h hB ⟨h1,h2⟩=>by subst h2;exact⟨_,h1,Below.refl _ _,DG hB (Below.refl _ _) h.wu⟩
def aax(hl:(iT L).length<=256):il 233 [iy L]<|.iH [iy<|iT L,iP 0]:=
 Kb hk call233 (λA c w h _=>JY A c L w h hl) λA c B w e w' h hB r=>Kr B w e w' hB r
def am5(hl:L.length<=100000):il 237 [iy L]<|iP<|iD<|val L:=
 Kb hk call237 (λA c w h _=>aaw A c L w h aC) λA c B w e w' h hB ⟨h1,h2⟩=>by subst h2;exact⟨_,h1,Below.refl _ _,.v _⟩
end
def R2(L M:List Nat)(hk:iW L)(hm:iW M)(hl:L.length<=100000)(nj:M.length<=100000):il 180 [iy L,iy M]<|iP<|lf (val L)<|val M:=
 Kd hk hm call180 (λA c B d w h k _=>M5 A B c d L M w h k aC aC) rv
section
variable(m n:Nat)(hl:(im m).length<=256)(hn:n<=65536)
def R5(hf:(im<|m*2^n).length<=256):il 179 [iy<|im m,iP (n:Int)]<|.iH [iy<|im<|m*2^n,iP 0]:=
 Nj (nA m) call179 (λA c w h _=>aaz A c (im m) n w h hl hn<|by rw[lF];exact hf) λA c B w e w' h hB r=>by rw[lF]at r;exact Kr B w e w' hB r
def R6:il 202 [iy<|im m,iP (n:Int)]<|.iH [iy<|im<|m/2^n,iP 0]:=
 Nj (nA m) call202 (λA c w h _=>aaB A c (im m) n w h hl hn) λA c B w e w' h hB r=>by rw[lF]at r;exact Kr B w e w' hB r
end
section
variable(m n:Nat)(h1:(im m).length<=256)(h2:(im n).length<=256)
def JX(hf:(im<|m+n).length<=256):il 285 [iy<|im m,iy<|im n]<|.iH [iy<|im<|m+n,iP 0]:=by
 refine Kd (nA m) (nA n) call285 (λA c B d w h k _=>am4 A B c d (im m) (im n) w h k h1 h2<|by rw[lF,lF];exact hf) ?_;rw[lF,lF];exact Kr
def E6(hf:n<=m:=by omega):il 286 [iy<|im m,iy<|im n]<|.iH [iy<|im<|m-n,iP 0]:=by
 refine Kd (nA m) (nA n) call286 (λA c B d w h k _=>ank A B c d (im m) (im n) w h k h1 h2<|by rw[lF,lF];exact hf) ?_;rw[lF,lF];exact Kr
end
def uJ(m:Nat)(hl:(im m).length<=100000:=by omega):il 237 [iy<|im m]<|iP<|iD m:=by
 have:=am5 (im m) (nA m) hl;rwa[lF]at this
def AT(m n:Nat)(hl:(im m).length<=100000:=by omega)(nj:(im n).length<=100000:=by omega):il 180 [iy<|im m,iy<|im n]<|iP<|lf m n:=by
 have:=R2 (im m) (im n) (nA m) (nA n) hl nj;rwa[lF,lF]at this
def xL(a:Dy)(ha:a.ix):il 124 [iB a]<|iB<|ki a:=GY call124 (λA c w h _=>ahw a A c w h ha) rd
def oY(a:Dy)(ha:a.ix):il 176 [iB a]<|iP a.iJ:=GY call176 (λA c w h _=>ahy a A c w h ha) rv
def D2(s:Bool)(m:Nat)(e:Int)(hl:(im m).length<=256)(nb:-32768<=e)(mv:e<=32768)(hd:oi<|canon s m e):il 338 [bP s,iy<|im m,iP e]<|.iH [iB<|canon s m e,iP 0]:=by
 refine⟨call338,λw B vs hK hB hr=>?_⟩;obtain⟨v1,vs,rfl,h1,hr⟩:=hr.nR;obtain⟨v2,vs,rfl,h2,hr⟩:=hr.nR;obtain⟨v3,vs,rfl,h3,hr⟩:=hr.nR;obtain rfl:=hr.sK;obtain rfl:=iO.kW h1;obtain rfl:=iO.kW h3;obtain⟨A,c,rfl,s1⟩:=Cn (nA m) h2;have:=amC s A c (im m) e w s1 hl nb mv hK (by rw[lF];exact hd);rw[lF]at this;exact this.mono λe w' h=>SO B w e w' hB h
def A0:E.le (.sl false 1 1 λi j=>[E.v<|.int .u32 1].getD (i*1+j)<|.v<|.bool false)<|iy<|im 1:=by
 have e1:im 1=[1]:=by rw[GG aE,show 1/4294967296=0 by decide,px]
 rw[e1];refine .sl λi j hi hj=>?_
 obtain rfl:i=0:= aC ;obtain rfl:j=0:= aC ;exact⟨.refl _,rfl⟩
def kG(d:Dy):List E:=[bP d.neg,iy<|im d.m,iP d.e]
def na(l:List Dy):E:=.sl true l.length 3 λi j=>(kG<|l.getD i iY).getD j .any
def CK(a:Dy):E.le (.sl true 1 3 λi j=>[bP a.neg,iy<|im a.m,iP a.e].getD (i*3+j)<|.v<|.bool false)<|na [a]:=.sl λi j hi hj=>by
 obtain rfl:i=0:= aC ;rcases j with _|_|_|j
 .exact ⟨.refl _,rfl⟩
 .exact ⟨.refl _,rfl⟩
 .exact ⟨.refl _,rfl⟩
 .omega
def yU(a b:Dy):E.le (.sl true 2 3 λi j=>[bP a.neg,iy<|im a.m,iP a.e,bP b.neg,iy<|im b.m,iP b.e].getD (i*3+j)<|.v<|.bool false)<|na [a,b]:=.sl λi j hi hj=>by
 obtain rfl|rfl:i=0\/i=1:= aC 
 all_goals
  rcases j with _|_|_|j
  .exact ⟨.refl _,rfl⟩
  .exact ⟨.refl _,rfl⟩
  .exact ⟨.refl _,rfl⟩
  .omega
def oj{n:Nat}(h:n≠0):((n:Int)==0)=false:= aN 
def ua{n:Nat}(h:n=0):((n:Int)==0)=true:=by subst h;rfl
def ane{n:Nat}(h:n=0):((n:Int) != 0)=false:=by subst h;rfl
def anf{n:Nat}(h:n≠0):((n:Int) != 0)=true:= aN 
def xk{m:Nat}:(im m).length=0↔m=0:=by rw[apI,MO]
def qt{m:Nat}(h:m≠0):(im m).length≠0:=λq=>h<|xk.1 q
def Fp.Dy.ix.im{d:Dy}(h:d.ix):(im d.m).length<=256:=by have:=h.len;omega
end Go.Proofs.YtjkmahljfblobaaGreatDoor
namespace Go.Proofs.YtjkmahljfblobaaGreatDoor.Fp
structure Iv where
 lo:Dy
 hi:Dy
 all:Bool
def iw:Iv:=⟨iY,iY,true⟩
def Iv.ix(x:Iv):Prop:=(x.all=true/\x.lo=iY/\x.hi=iY)\/(x.all=false/\x.lo.ix/\x.hi.ix/\jN x.lo x.hi<=0)
def ln:iw.ix:=.inl ⟨rfl,rfl,rfl⟩
def mF(lo:Dy)(e:Int)(hi:Dy)(f:Int):Iv:=if e≠0\/f≠0 then iw else⟨lo,hi,false⟩
def zG(a b:Dy):Dy:=canon (a.neg != b.neg) (a.m*b.m)<|a.e+b.e
def tu(x:Iv):Iv:=if x.all then iw else⟨ki x.hi,ki x.lo,false⟩
def kO(x y:Iv)(p:Nat):Iv:=
 if x.all||y.all then iw else mF (jd (jc x.lo y.lo) p false) (jI (jc x.lo y.lo) p false) (jd (jc x.hi y.hi) p true) (jI (jc x.hi y.hi) p true)
def nn(x y:Iv)(p:Nat):Iv:=kO x (tu y) p
def agk{x y:Int}:Ah x y<=0↔x<=y:=by
 unfold Ah;split
 .constructor<;>intro<;>omega
 .split<;>constructor<;>intro<;>omega
def uH{a b:Dy}{k:Int}(ha:rn a k)(hb:rn b k):jN a b<=0↔a.num k<=b.num k:=by rw[Is ha hb,agk]
def le_trans{a b c:Dy}(h1:jN a b<=0)(h2:jN b c<=0):jN a c<=0:=by
 obtain⟨k,ka,kb,kc⟩:∃ k:Int,k<=a.e/\k<=b.e/\k<=c.e:=⟨min a.e<|min b.e c.e,aC,aC,aC⟩
 rw[uH (.inr ka)<|.inr kb]at h1;rw[uH (.inr kb)<|.inr kc]at h2;rw[uH (.inr ka)<|.inr kc];omega
def B2(a:Dy):jN a a<=0:=by rw[uH (k:=a.e) (.inr<|cM _)<|.inr<|cM _];exact cM _
def alV(a b:Dy):jN a b<=0\/jN b a<=0:=by
 obtain⟨k,ka,kb⟩:∃ k:Int,k<=a.e/\k<=b.e:=⟨min a.e b.e,aC,aC⟩
 rw[uH (.inr ka)<|.inr kb,uH (.inr kb)<|.inr ka];omega
def anq{a b:Dy}(h:jN a b<=0):jN (ki b) (ki a)<=0:=by
 obtain⟨k,ka,kb⟩:∃ k:Int,k<=a.e/\k<=b.e:=⟨min a.e b.e,aC,aC⟩
 rw[uH (.inr ka)<|.inr kb]at h;rw[uH (k:=k) (OP<|.inr kb)<|OP<|.inr ka,Sj,Sj];omega
def arj{a b c d:Dy}(h1:jN a b<=0)(h2:jN c d<=0):jN (jc a c) (jc b d)<=0:=by
 obtain⟨k,ka,kb,kc,kd⟩:∃ k:Int,k<=a.e/\k<=b.e/\k<=c.e/\k<=d.e:=⟨min (min a.e b.e)<|min c.e d.e,aC,aC,aC,aC⟩
 rw[uH (.inr ka)<|.inr kb]at h1;rw[uH (.inr kc)<|.inr kd]at h2;rw[uH (k:=k) (KZ (.inr ka)<|.inr kc)<|KZ (.inr kb)<|.inr kd,N6 (.inr ka)<|.inr kc,N6 (.inr kb)<|.inr kd];omega
def LB(m:Nat)(e:Int)(p:Nat):
 lQ m e false p false*2^ke m e p<=m/\m<=lQ m e false p true*2^ke m e p:=by
 have h:=cW m<|2^ke m e p;have hr:=bR m<|bF (n:=ke m e p) (aE:0<2);unfold lQ;simp only[bJ,false_and,bB,cj,false_or,fJ];rw[bQ];generalize m/2^ke m e p=q at *
 generalize 2^ke m e p=P at *
 refine⟨aC,?_⟩;rw[bT,bQ q];split
 .omega
 .omega
def Pj{s:Bool}{m n:Nat}{e f K:Int}(h1:K<=e)(h2:K<=f)(h:m*2^(e-K).toNat<=n*2^(f-K).toNat):
 (s=false->jN (canon s m e) (canon s n f)<=0)/\(s=true->jN (canon s n f) (canon s m e)<=0):=by
 constructor
 .rintro rfl;rw[uH (Cx h1)<|Cx h2,aa0 h1,aa0 h2]
  exact_mod_cast h
 .rintro rfl;rw[uH (Cx h2)<|Cx h1,E8 h1,E8 h2];simp only[bH];omega
def Vx(neg:Bool)(m:Nat)(e:Int)(p:Nat)(up:Bool)(he:kn neg m e false p up=0)(_hp:1<=p):
 (up=true->jN (canon neg m e) (kD neg m e false p up)<=0)/\(up=false->jN (kD neg m e false p up) (canon neg m e)<=0):=by
 rw[Ix]at he;obtain⟨c1,c2⟩:=LB m e p;have e1:(e-e).toNat=0:= aC ;have e2:(e+(ke m e p:Int)-e).toNat=ke m e p:= aC ;have hk:e<=e+(ke m e p:Int):= aC ;have A:=λs:Bool=>Pj (s:=s) (m:=lQ m e false p false) (n:=m) (e:=e+ke m e p) (f:=e) (K:=e) hk (cM _)<|by rw[e1,e2];simpa using c1
 have B:=λs:Bool=>Pj (s:=s) (m:=m) (n:=lQ m e false p true) (e:=e) (f:=e+ke m e p) (K:=e) (cM _) hk<|by rw[e1,e2];simpa using c2
 unfold kD;by_cases ho:mV m e false p (neg != up)=true
 .have hn:¬(neg != up)=true:=λh=>he ⟨ho,h⟩
  rw[bk ho,bj hn];have X0:neg=up:=by cases neg<;>cases up<;>simp at hn ⊢
  have mw:(neg != up)=false:=by rw[X0];simp
  rw[mw]at ho;unfold mV at ho;simp only[bK,c9]at ho;obtain⟨o1,o2⟩:=ho;have hq:=vF o1;have Mm:=qa o1;obtain⟨K,k1,k2⟩:∃ K:Int,K<=e/\K<=16384-p:=⟨min e<|16384-p,aC,aC⟩
  have C:(2^p-1)*2^((16384:Int)-p-K).toNat<=m*2^(e-K).toNat:=by
   have h1:2^(iD (lQ m e false p false)-1)*2^ke m e p<=m:=bA (bU _ hq) c1;have h2:=bU (2^(e-K).toNat) h1;rw[<-bE,<-bE]at h2;refine bA (bU _<|fm _ _)<|bA ?_ h2;rw[<-bE];exact bY aE aC 
  have D:=Pj (s:=neg) k2 k1 C;subst X0;cases neg
  .exact ⟨λh=>absurd h aE,λ_=>D.1 rfl⟩
  .exact ⟨λ_=>D.2 rfl,λh=>absurd h aE⟩
 .rw [bj ho];cases neg<;>cases up
  .exact ⟨λh=>absurd h aE,λ_=>(A false).1 rfl⟩
  .exact ⟨λ_=>(B false).1 rfl,λh=>absurd h aE⟩
  .exact ⟨λh=>absurd h aE,λ_=>(B true).2 rfl⟩
  .exact ⟨λ_=>(A true).2 rfl,λh=>absurd h aE⟩
def abP{d:Dy}(hd:d.nT)(p:Nat)(hp:1<=p):
 (jI d p true=0->jN d (jd d p true)<=0)/\(jI d p false=0->jN (jd d p false) d<=0):=by
 have h:=hd.DX;constructor
 .intro he;have:=(Vx d.neg d.m d.e p true he hp).1 rfl;rwa[h]at this
 .intro he;have:=(Vx d.neg d.m d.e p false he hp).2 rfl;rwa[h]at this
def pN{x y:Iv}(hx:x.ix)(hy:y.ix){p:Nat}(hp:1<=p)(iu:p<=4096):(kO x y p).ix:=by
 unfold kO;rcases hx with⟨h,_⟩|⟨h1,h2,h3,h4⟩
 .rw [h];exact ln
 .rcases hy with⟨h,_⟩|⟨k1,k2,k3,k4⟩
  .rw [h,h1];exact ln
  .rw [h1,k1];simp only[apV,bJ,bB];unfold mF;by_cases he:jI (jc x.lo y.lo) p false≠0\/jI (jc x.hi y.hi) p true≠0
   .rw [bk he];exact ln
   .rw [bj he];have e1:jI (jc x.lo y.lo) p false=0:= aC ;have e2:jI (jc x.hi y.hi) p true=0:= aC ;refine .inr ⟨rfl,uq _ _ _ _ _ _ hp iu,uq _ _ _ _ _ _ hp iu,?_⟩;exact le_trans ((abP (DY h2.canon k2.canon) p hp).2 e1)<|le_trans (arj h4 k4)<|(abP (DY h3.canon k3.canon) p hp).1 e2
def xr{x:Iv}(hx:x.ix):(tu x).ix:=by
 unfold tu;rcases hx with⟨h,_⟩|⟨h1,h2,h3,h4⟩
 .rw [bk h];exact ln
 .rw [h1];exact .inr ⟨rfl,yx h3,yx h2,anq h4⟩
section
variable(a b:Dy)
def jA:Dy:=if jN b a<0 then b else a
def jy:Dy:=if 0<jN b a then b else a
def JR:jN (jA a b) a<=0:=by
 unfold jA;split
 .omega
 .exact B2 a
def Z8:jN (jA a b) b<=0:=by
 unfold jA;split
 .exact B2 b
 .rcases alV a b with h|h
  .exact h
  .have h0:jN b a=0:= aC ;obtain⟨k,ka,kb⟩:∃ k:Int,k<=a.e/\k<=b.e:=⟨min a.e b.e,aC,aC⟩
   rw[Is (k:=k) (.inr kb)<|.inr ka]at h0;rw[uH (.inr ka)<|.inr kb];unfold Ah at h0;split at h0
   .omega
   .split at h0<;>omega
def It:jN a b = -jN b a:=by
 obtain⟨k,ka,kb⟩:∃ k:Int,k<=a.e/\k<=b.e:=⟨min a.e b.e,aC,aC⟩
 rw[Is (k:=k) (.inr ka)<|.inr kb,Is (k:=k) (.inr kb)<|.inr ka];unfold Ah;split<;>split<;>(try split)<;>omega
def GK:jN a (jy a b)<=0:=by
 unfold jy;split
 .rw [It];omega
 .exact B2 a
def Z3:jN b (jy a b)<=0:=by
 unfold jy;split
 .exact B2 b
 .omega
end
section
variable{a b:Dy}(ha:a.ix)(hb:b.ix)
def xo:(jA a b).ix:=by unfold jA;split;exact hb;exact ha
def uI:(jy a b).ix:=by unfold jy;split;exact hb;exact ha
end
def qo(D : Dy->Dy->Bool->Dy)(E : Dy->Dy->Bool->Int)(x y : Iv) : Iv:=
 if(E x.lo y.lo false=0/\E x.lo y.lo true=0)/\(E x.lo y.hi false=0/\E x.lo y.hi true=0)/\(E x.hi y.lo false=0/\E x.hi y.lo true=0)/\(E x.hi y.hi false=0/\E x.hi y.hi true=0)then
  ⟨jA (jA (jA (D x.lo y.lo false)<|D x.lo y.hi false)<|D x.hi y.lo false)<|D x.hi y.hi false,
   jy (jy (jy (D x.lo y.lo true)<|D x.lo y.hi true)<|D x.hi y.lo true) (D x.hi y.hi true),false⟩
 else iw
def WK{D:Dy->Dy->Bool->Dy}{E:Dy->Dy->Bool->Int}{x y:Iv}(hv:∀ a b up,(D a b up).ix)
 (hle:E x.lo y.lo false=0->E x.lo y.lo true=0->jN (D x.lo y.lo false) (D x.lo y.lo true)<=0):(qo D E x y).ix:=by
 unfold qo;split
 .rename_i h;refine .inr ⟨rfl,xo (xo (xo (hv _ _ _)<|hv _ _ _)<|hv _ _ _)<|hv _ _ _,uI (uI (uI (hv _ _ _)<|hv _ _ _)<|hv _ _ _)<|hv _ _ _,?_⟩;refine le_trans (JR _ _)<|le_trans (JR _ _)<|le_trans (JR _ _)<|le_trans (hle h.1.1 h.1.2) ?_;exact le_trans (GK _ _)<|le_trans (GK _ _)<|GK _ _
 .exact ln
def kf(x y:Iv)(p:Nat):Iv:=
 if x.all||y.all then iw else qo (λa b up=>jd (zG a b) p up) (λa b up=>jI (zG a b) p up) x y
def pI(x y:Iv){p:Nat}(hp:1<=p:=by omega)(iu:p<=4096:=by omega):(kf x y p).ix:=by
 unfold kf;split
 .exact ln
 .exact WK (λ_ _ _=>uq _ _ _ _ _ _ hp iu) λh1 h2=>Vw _ _ _ _ _ h1 h2
section
variable(a b:Dy)(p:Nat)
def lR(g:Nat):Nat:=p+g+iD b.m-iD a.m
def nv(up:Bool):Dy:=
 if a.m=0 then iY else kD (a.neg != b.neg) (a.m*2^lR a b p 2/b.m) (a.e-b.e-lR a b p 2) (decide (a.m*2^lR a b p 2%b.m≠0)) p up
def oX(up:Bool):Int:=
 if a.m=0 then 0 else kn (a.neg != b.neg) (a.m*2^lR a b p 2/b.m) (a.e-b.e-lR a b p 2) (decide (a.m*2^lR a b p 2%b.m≠0)) p up
end
section
variable{a b:Dy}(a0:a.m≠0)(b0:b.m≠0)
def PE(p g:Nat)(hg:2<=g):p<iD (a.m*2^lR a b p g/b.m):=by
 have h1:=vF a0;have h2:=tp b.m;have ha:=qa a0;have h3:2^p<=a.m*2^lR a b p g/b.m:=by
  rw[dF aC];refine bA (cV _<|dM h2)<|bA ?_ (bU _ h1);rw[<-bE,<-bE];exact bY aE<|by unfold lR;omega
 exact yl.2 h3
def ag5(p:Nat)(up:Bool):
 kD (a.neg != b.neg) (a.m*2^lR a b p 3/b.m) (a.e-lR a b p 3-b.e) (decide (a.m*2^lR a b p 3%b.m≠0)) p up=nv a b p up /\
 kn (a.neg != b.neg) (a.m*2^lR a b p 3/b.m) (a.e-lR a b p 3-b.e) (decide (a.m*2^lR a b p 3%b.m≠0)) p up=oX a b p up:=by
 obtain⟨d,hd⟩:∃ d,lR a b p 3=lR a b p 2+d:=⟨lR a b p 3-lR a b p 2,by unfold lR;omega⟩
 have hb:=PE a0 b0 p 2 aE;unfold nv oX;rw[bj a0,bj a0,hd];generalize lR a b p 2=k at *
 have hB:0<b.m:= aC ;have hP:=bF (n:=d) (aE:0<2);have e1:a.m*2^(k+d)/b.m/2^d=a.m*2^k/b.m:=by
  rw[dN,bE,<-bI,Nat.mul_div_mul_right _ _ hP]
 have e2:(decide (a.m*2^(k+d)%b.m≠0)||decide (a.m*2^(k+d)/b.m%2^d≠0))=decide (a.m*2^k%b.m≠0):=by
  have h1:a.m*2^(k+d)%(b.m*2^d)=a.m*2^k%b.m*2^d:=by rw[bE,<-bI,Nat.mul_mod_mul_right]
  have h2:a.m*2^(k+d)%(b.m*2^d)=a.m*2^(k+d)%b.m+b.m*(a.m*2^(k+d)/b.m%2^d):=Nat.mod_mul;rw[h1]at h2;rw[fw];simp only[ep,c9];constructor
  .intro h h0;rw[h0,cU]at h2;rcases h with h|h
   .omega
   .have:=gq hB<|eF h;omega
  .intro h;apply ca;intro hn;have n1:a.m*2^(k+d)%b.m=0:=by
    apply ca;intro h';exact hn<|.inl h'
   have n2:a.m*2^(k+d)/b.m%2^d=0:=by
    apply ca;intro h';exact hn<|.inr h'
   rw[n1,n2,dj]at h2;have:=gq (eF h) hP;omega
 have h:=LA (N:=a.m*2^(k+d)/b.m) (E:=a.e-((k+d:Nat):Int)-b.e) (more:=decide (a.m*2^(k+d)%b.m≠0)) (d:=d) (p:=p) (a.neg != b.neg) up (by rw[e1];exact hb);rw[e1,e2,(aC:a.e-((k+d:Nat):Int)-b.e+(d:Int)=a.e-b.e-(k:Int))]at h;exact⟨h.1.symm,h.2.symm⟩
end
def nQ(x:Iv):Int:=if x.all then 0 else if 0<x.lo.jL then 1 else if x.hi.jL<0 then -1 else 0
def lv(x y:Iv)(p:Nat):Iv:=
 if x.all||y.all||decide (nQ y=0)then iw else qo (λa b up=>nv a b p up) (λa b up=>oX a b p up) x y
def vJ(x y:Iv){p:Nat}(hp:1<=p:=by omega)(iu:p<=4096:=by omega):(lv x y p).ix:=by
 unfold lv;split
 .exact ln
 .refine WK (λa b up=>?_) (λh1 h2=>?_)
  .unfold nv;split
   .exact ph
   .exact uq _ _ _ _ _ _ hp iu
  .unfold nv oX at *
   split
   .exact B2 _
   .rename_i h;rw[bj h]at h1 h2;exact Vw _ _ _ _ _ h1 h2
def mi(d:Dy):Dy:=⟨false,d.m,d.e⟩
def yN{d:Dy}(h:d.ix):(mi d).ix:=by
 refine⟨?_,h.range⟩;rcases h.canon with⟨h1,_,h3⟩|h1
 .exact .inl ⟨h1,rfl,h3⟩
 .exact .inr h1
def ad6(d:Dy)(k:Int):(mi d).num k=(d.j8 k:Int):=by unfold Dy.num mi Dy.j8;simp
def mq(x:Iv):Dy:=jy (mi x.lo)<|mi x.hi
def pT(x:Iv):Dy:=if nQ x=0 then iY else jA (mi x.lo) (mi x.hi)
def kp(x:Iv):Iv:=if x.all then iw else⟨pT x,mq x,false⟩
def jx(d:Dy):Iv:=⟨d,d,false⟩
def tz{d:Dy}(h:d.ix):(jx d).ix:=.inr ⟨rfl,h,h,B2 d⟩
def EX{x:Iv}(h1:x.lo.ix)(h2:x.hi.ix):(mq x).ix:=uI (yN h1)<|yN h2
def K1{x:Iv}(h:x.ix):(kp x).ix:=by
 unfold kp;rcases h with⟨h,_⟩|⟨h,h1,h2,_⟩
 .rw [h];exact ln
 .rw [h];have v1:=yN h1;have v2:=yN h2;refine .inr ⟨rfl,?_,EX h1 h2,?_⟩
  .show (pT x).ix;unfold pT;split
   .exact ph
   .exact xo v1 v2
  .show jN (pT x) (mq x)<=0;unfold pT;split
   .refine le_trans (b:=mi x.lo) ?_ (GK _ _);rw[uH (a:=iY) (b:=mi x.lo) (k:=x.lo.e) (.inl rfl)<|.inr<|cM _,yz rfl,ad6];omega
   .exact le_trans (JR _ _)<|GK _ _
structure nJ(m:List<|List Iv)(n k:Nat):Prop where
 iM:m.length=n
 row:∀ r,r ∈ m->r.length=k
 ok:∀ r,r ∈ m->∀ x,x ∈ r->x.ix
 n1:1<=n
 n8:n<=8
 k1:1<=k
 k8:k<=8
def EH(n:Nat):List<|List Iv:=(List.range n).map λi=>(List.range n).map λj=>jx<|if i=j then⟨false,1,0⟩else iY
def LH(a b:List Iv)(p:Nat):Iv:=
 match a,b with
 |x::a,y::b=>(a.zip b).foldl (λs q=>kO s (kf q.1 q.2 p) p)<|kf x y p
 |_,_=>iw
def Lx(m:List<|List Iv)(j:Nat):List Iv:=m.map λr=>r.getD j iw
def AS(a b:List<|List Iv)(p:Nat):List<|List Iv:=a.map λr=>(List.range (b.headD []).length).map λj=>LH r (Lx b j) p
def ahh{a b:List Iv}{p:Nat}(hp:1<=p)(iu:p<=4096):(LH a b p).ix:=by
 unfold LH
 match a,b with
 | [],[]=>exact ln
 | [],_::_=>exact ln
 |_::_,[]=>exact ln
 |x::a,y::b=>
  simp only;have:∀ (l:List<|Iv×Iv) (s:Iv),s.ix->(l.foldl (λs q=>kO s (kf q.1 q.2 p) p) s).ix:=by
   intro l
   induction l with
   |nil=>intro s h;exact h
   |cons q l ih=>intro s h;exact ih _<|pN h (pI _ _ hp iu) hp iu
  exact this _ _<|pI _ _ hp iu
def jm(n:Int):Dy:=qQ n 0
def jj(n:Int):Iv:=jx<|jm n
end Go.Proofs.YtjkmahljfblobaaGreatDoor.Fp
namespace Go.Proofs.YtjkmahljfblobaaGreatDoor
open Go.RowKit Fp Pu
def jS(x:Iv):List E:=[bP x.lo.neg,iy<|im x.lo.m,iP x.lo.e,bP x.hi.neg,iy<|im x.hi.m,iP x.hi.e,bP x.all]
def iA(x:Iv):E:=.agg<|jS x
def iG(l:List Iv):E:=.sl true l.length 7 λi j=>(jS<|l.getD i iw).getD j .any
def j9(m:List<|List Iv):E:=.sl true m.length 1 λi _=>iG<|m.getD i []
def AE(x y:Iv):Bool:=y.all||(!x.all&&(decide (jN y.lo x.lo<=0)&&decide (jN x.hi y.hi<=0)))
def JZ:E.le (.v<|.slice none 0 0)<|iy<|im 0:=by
 have:iy (im 0) = .sl false 0 1 λi _=>.v (.int .u32 (((im 0).getD i 0:Nat):Int)):=by unfold iy;rw[px];rfl
 rw[this];exact .nil _ _ _
def Ba:E.le (.agg [bP false,.v<|.slice none 0 0,iP 0,bP false,.v<|.slice none 0 0,iP 0,bP true])<|iA iw:=
 .agg (.cons (.refl _)<|.cons JZ<|.cons (.refl _)<|.cons (.refl _)<|.cons JZ<|.cons (.refl _)<|.cons (.refl _) .nil)
structure RD where
 neg:Bool
 L:List Nat
 e:Int
structure RI where
 lo:RD
 hi:RD
 all:Bool
def rdL(d:RD):List E:=[bP d.neg,iy d.L,iP d.e]
def Cg(d:RD):E:=.agg<|rdL d
def wk(x:RI):List E:=[bP x.lo.neg,iy x.lo.L,iP x.lo.e,bP x.hi.neg,iy x.hi.L,iP x.hi.e,bP x.all]
def yC(x:RI):E:=.agg<|wk x
def Hf:RD:=⟨false,[],0⟩
def lE:RI:=⟨Hf,Hf,true⟩
def lj(l:List RI):E:=.sl true l.length 7 λi j=>(wk<|l.getD i lE).getD j .any
def ud(m:List<|List RI):E:=.sl true m.length 1 λi _=>lj<|m.getD i []
structure RD.lp(d:RD):Prop where
 ok:iW d.L
 lo:-9223372036854775808<=d.e
 hi:d.e<=9223372036854775807
structure RI.lp(x:RI):Prop where
 lo:x.lo.lp
 hi:x.hi.lp
def aca:Hf.lp:=⟨iW.nil,aE,aE⟩
def NQ:lE.lp:=⟨aca,aca⟩
def RD.dy(d:RD):Dy:=⟨d.neg,val d.L,d.e⟩
def RD.Ok(d:RD):Prop:=qk d.neg d.L d.e
def RD.Zero(d:RD):Prop:=d.neg=false/\d.L=[]/\d.e=0
def RI.iv(x:RI):Iv:=⟨x.lo.dy,x.hi.dy,x.all⟩
def RI.Ok(x:RI):Prop:=(x.all=true/\x.lo.Zero/\x.hi.Zero)\/(x.all=false/\x.lo.Ok/\x.hi.Ok/\jN x.lo.dy x.hi.dy<=0)
def Fp.Dy.raw(d:Dy):RD:=⟨d.neg,im d.m,d.e⟩
def Fp.Iv.raw(x:Iv):RI:=⟨x.lo.raw,x.hi.raw,x.all⟩
def RD.Ok.valid{d:RD}(h:d.Ok):d.dy.ix:=h.2.2
def RD.Ok.eq{d:RD}(h:d.Ok)(g:d.lp):d.dy.raw=d:=by
 obtain⟨n,L,e⟩:=d;show RD.mk n (im<|val L) e=_;rw[<-qk.LP h g.ok]
def RD.Zero.eq{d:RD}(h:d.Zero):d.dy=iY/\d.dy.raw=d:=by
 obtain⟨n,L,e⟩:=d;obtain⟨rfl,rfl,rfl⟩:=h;refine⟨rfl,?_⟩;show RD.mk false (im 0) 0=_;rw[px]
def RI.Ok.valid{x:RI}(h:x.Ok):x.iv.ix:=by
 rcases h with⟨h1,h2,h3⟩|⟨h1,h2,h3,h4⟩
 .exact .inl ⟨h1,h2.eq.1,h3.eq.1⟩
 .exact .inr ⟨h1,h2.valid,h3.valid,h4⟩
def RI.Ok.eq{x:RI}(h:x.Ok)(g:x.lp):x.iv.raw=x:=by
 obtain⟨lo,hi,a⟩:=x;rcases h with⟨h1,h2,h3⟩|⟨h1,h2,h3,h4⟩
 .show RI.mk lo.dy.raw hi.dy.raw a=_;rw[h2.eq.2,h3.eq.2]
 .show RI.mk lo.dy.raw hi.dy.raw a=_;rw[h2.eq g.lo,h3.eq g.hi]
def Fp.Dy.abu(d:Dy):d.raw.dy=d:=by show Dy.mk d.neg (val<|im d.m) d.e=d;rw[lF]
def RB(x:Iv):yC x.raw=iA x:=rfl
def Fp.Dy.ix.Ec{d:Dy}(h:d.ix):d.raw.lp:=⟨nA _,by have:=h.exp;show -9223372036854775808<=d.e;omega,by have:=h.exp;show d.e<=9223372036854775807;omega⟩
def Fp.Dy.ix.xt{d:Dy}(h:d.ix):d.raw.Ok:=h.yT
def Fp.Iv.ix.xt{x:Iv}(h:x.ix):x.raw.Ok:=by
 rcases h with⟨h1,h2,h3⟩|⟨h1,h2,h3,h4⟩
 .refine .inl ⟨h1,?_,?_⟩
  .show x.lo.raw.Zero;rw[h2];exact⟨rfl,px,rfl⟩
  .show x.hi.raw.Zero;rw[h3];exact⟨rfl,px,rfl⟩
 .refine .inr ⟨h1,h2.xt,h3.xt,?_⟩;show jN x.lo.raw.dy x.hi.raw.dy<=0;rw[Dy.abu,Dy.abu];exact h4
def Fp.Iv.ix.jX{x:Iv}(h:x.ix):x.lo.ix/\x.hi.ix:=by
 rcases h with⟨_,h2,h3⟩|⟨_,h2,h3,_⟩
 .rw [h2,h3];exact⟨ph,ph⟩
 .exact ⟨h2,h3⟩
def Fp.Iv.ix.Ec{x:Iv}(h:x.ix):x.raw.lp:=⟨h.jX.1.Ec,h.jX.2.Ec⟩
def asz:iw.raw=lE:=by
 show RI.mk iY.raw iY.raw true=RI.mk Hf Hf true;have:iY.raw=Hf:=by show RD.mk false (im 0) 0=_;rw[px];rfl
 rw[this]
def r7(l:List Iv):List RI:=l.map Iv.raw
def xx(m:List<|List Iv):List<|List RI:=m.map r7
def Qi(l:List Iv)(i:Nat):(r7 l).getD i lE=(l.getD i iw).raw:=by
 unfold r7;rw[bt,bt,cC];cases l[i]? with
 |none=>exact asz.symm
 |some x=>rfl
def MK(l:List Iv):lj (r7 l)=iG l:=by
 unfold lj iG;rw[show(r7 l).length=l.length by simp[r7]];congr 1;funext i j;rw[Qi];rfl
def amG(m:List<|List Iv):ud (xx m)=j9 m:=by
 unfold ud j9;rw[show(xx m).length=m.length by simp[xx]];congr 1;funext i j;rw[<-MK];congr 1;unfold xx;rw[bt,bt,cC];cases m[i]? <;> rfl
structure H9(m:List<|List RI):Prop where
 n1:1<=m.length
 n8:m.length<=8
 k1:1<=(m.getD 0 []).length
 k8:(m.getD 0 []).length<=8
 row:∀ i,i<m.length->(m.getD i []).length=(m.getD 0 []).length
 ok:∀ i,i<m.length->∀ j,j<(m.getD i []).length->((m.getD i []).getD j lE).Ok
def Hz(m:List<|List RI):Prop:=∀ r,r ∈ m->∀ x,x ∈ r->x.lp
def Hz.at{m:List<|List RI}(h:Hz m)(i j:Nat):((m.getD i []).getD j lE).lp:=by
 by_cases hi:i<m.length
 .rw [bt (l:=m),bD hi];show(m[i].getD j lE).lp;by_cases hj:j<m[i].length
  .rw [bt,bD hj];exact h _ (cB hi) _<|cB hj
  .rw [bt,bW aC];exact NQ
 .rw [bt (l:=m),bW aC];exact NQ
def FU(d:RD)(g:d.lp)(b:Bool)(hb:b=true↔d.Ok):il 60 [Cg d]<|bP b:=by
 refine⟨call60,λw B vs hK hB hr=>?_⟩;obtain⟨v1,vs,rfl,h1,hr⟩:=hr.nR;obtain rfl:=hr.sK;obtain⟨us,rfl,q⟩:=iO.Ic<|show iO _ _ w (.agg _) v1 from h1;obtain⟨u1,us,rfl,k1,q⟩:=q.nR;obtain⟨u2,us,rfl,k2,q⟩:=q.nR;obtain⟨u3,us,rfl,k3,q⟩:=q.nR;obtain rfl:=q.sK;obtain rfl:=iO.kW k1;obtain rfl:=iO.kW k3;obtain⟨A,c,rfl,hs⟩:=Cn g.ok k2;exact(D3 d.neg A c d.L d.e w b hs g.lo g.hi hb).mono λe w' h=>rv B w e w' hB h
section
variable{a b:Nat}
def ang(h:a≠b):((a:Int) != (b:Int))=true:= aN 
def s5(h:a=b:=by omega):((a:Int) != (b:Int))=false:=by simp[h]
def GO(h:a=b):((a:Int)==b)=true:=by simp[h]
def am9(h:a≠b):((a:Int)==b)=false:= aN 
end
open Classical in
noncomputable def tw(x:RI):Bool:=decide x.Ok
def AX{x:RI}:tw x=true↔x.Ok:=by unfold tw;simp
open Classical in
noncomputable def zw(m:List<|List RI):Bool:=decide (H9 m)
def RT{m:List<|List RI}:zw m=true↔H9 m:=by unfold zw;simp
def JP{m:List<|List RI}(h:¬H9 m):zw m=false:=by simpa using λq=>h<|RT.1 q
open Go.ChangeShapes Go.WideShapes Go.ChangeAt
abbrev oQ:Nat->Prop:=λ_=>False
def af9{W:World}{a:Addr}{v:Value}(h:W.cell? a=some v):a.spot=none:=by
 obtain⟨b,o,s⟩:=a;rcases s with _|q
 .rfl
 .exfalso;unfold World.cell? at h;split at h<;>simp at h
def SU{W:World}{a:Addr}{len cap sz:Nat}{nl:Bool}(el:Nat->Nat->E)(hl:len<=cap)(hm:cap<=maxLen)(nc:0<sz)
 (h1:∀ i j,i<len->j<sz->(el i j).one=true/\(nl=true->(el i j).mf=true)/\(el i j).nr 2=true)
 (hx:∀ i,i<len->∃ cs,W.cells? 0 (a.add<|i*sz) sz=some cs/\∀ j,j<sz->∃ v,cs[j]? = some v/\iO oQ oQ W (el i j) v):
 iO oQ oQ W (.sl nl len sz el) (.slice (some a) len cap):=by
 have XW:cap<=9223372036854775807:=by simpa[maxLen]using hm
 have cellAt:∀ i j,i<len->j<sz->∃ v,W.cell? (a.add<|i*sz+j)=some v/\iO oQ oQ W (el i j) v:=by
  intro i j hi hj;obtain⟨cs,h2,h3⟩:=hx i hi;obtain⟨v,h4,h5⟩:=h3 j hj;refine⟨v,?_,h5⟩;rw[<-Deep.add_add,(World.cells?_some h2).2.2 j hj,h4]
 by_cases h0:len=0
 .subst h0;exact .sl nl 0 sz el _ cap (λ_ _=>.bool false) aC XW (λh=>by cases h) (λi j hi=>absurd hi aC) (λi j hi=>absurd hi aC) (λi j hi=>absurd hi aC) λi j hi=>absurd hi aC
 .obtain ⟨b,o,s⟩:=a;have hs:s=none:=by
   obtain⟨v,h2,_⟩:=cellAt 0 0 aC nc;rw[cU,cw,show(⟨b,o,s⟩:Addr).add 0=⟨b,o,s⟩from rfl]at h2;exact af9 h2
  subst hs;have cell2:∀ i j,∃ v:Value,i<len->j<sz->W.cell? ⟨b,o+(i*sz+j),none⟩=some v/\iO oQ oQ W (el i j) v:=by
   intro i j;by_cases hi:i<len
   .by_cases hj:j<sz
    .obtain ⟨v,h2,h3⟩:=cellAt i j hi hj;rw[DR]at h2;exact⟨v,λ_ _=>⟨h2,h3⟩⟩
    .exact ⟨.bool false,λ_ h=>absurd h hj⟩
   .exact ⟨.bool false,λh=>absurd h hi⟩
  let f:Nat->Nat->Value:=λi j=>Classical.choose<|cell2 i j
  have hf:∀ i j,i<len->j<sz->W.cell? ⟨b,o+(i*sz+j),none⟩=some (f i j)/\iO oQ oQ W (el i j) (f i j):=λi j=>dk<|cell2 i j
  refine .sl nl len sz el _ cap f hl XW (λh=>by cases h) (λi j hi hj=>?_) (λi j hi hj=>(h1 i j hi hj).2.2) (λi j hi hj=>?_) λi j hi hj=>(hf i j hi hj).2
  .exact ⟨(hf i j hi hj).2.one (h1 i j hi hj).1,λq=>(hf i j hi hj).2.mf<|(h1 i j hi hj).2.1 q⟩
  .exact ⟨b,o,rfl,id,block_lt_of_cell (hf i j hi hj).1,(hf i j hi hj).1⟩
def adX(W:World)(d:RD)(cs:List Value):Prop:=d.lp/\cs.length=3/\∀ j,j<3->∃ v,cs[j]? = some v/\iO oQ oQ W ((rdL d).getD j .any) v
def OD(W:World)(x:RI)(cs:List Value):Prop:=x.lp/\cs.length=7/\∀ j,j<7->∃ v,cs[j]? = some v/\iO oQ oQ W ((wk x).getD j .any) v
section
variable {H:Type} {enc:TypeId×Value->H} {W:World} {fuel:Nat} {cs:List Value} {x:DataW H×List MemPlace}
def abb(h:DataW.trod enc prog W 0 (λ_=>true) true fuel 37 cs=some x)(iN:∀ p ∈ x.2,p.block<W.heap.size):∃ d,adX W d cs:=by
 obtain⟨s,A,L,cap,e,rfl,xZ,h1,h2⟩:=anZ h iN;refine⟨⟨s,L,e⟩,⟨xZ.ok,h1,h2⟩,rfl,λj hj=>?_⟩;rcases j with _|_|_|j
 .exact ⟨_,rfl,.v _⟩
 .exact ⟨_,rfl,DG (w:=W) (λ_ h=>h.elim) (.refl _) xZ⟩
 .exact ⟨_,rfl,.v _⟩
 .omega
def an3(h:DataW.trod enc prog W 0 (λ_=>true) true fuel 41 cs=some x)(iN:∀ p ∈ x.2,p.block<W.heap.size):∃ d,OD W d cs:=by
 obtain⟨xs,n,rfl,rfl,hl,qE,hf⟩:=DataW.trod_struct underlying41 h;have hC:prog.cellsOf 41=7:= aF ;have hD:prog.cellsOf 37=3:= aF ;have hB:prog.cellsOf 4=1:= aF ;rw[hC]at hl;obtain⟨c0,c1,c2,c3,c4,c5,c6,rfl⟩:=ame hl;have h0:=hf 0 _ rfl;have h1:=hf 1 _ rfl;have h2:=hf 2 _ rfl;simp only[fD,fE,eO]at h0 h1 h2;simp only[hD,hB,fF,fG,fc,fH]at h0 h1 h2;rw[bD<|by rw[qE];decide]at h0 h1 h2;obtain⟨lo,g1,_,k1⟩:=abb h0 λp hp=>iN p<|dP.2 ⟨_,cB _,hp⟩;obtain⟨hi,g2,_,k2⟩:=abb h1 λp hp=>iN p<|dP.2 ⟨_,cB _,hp⟩;obtain⟨al,e2,_⟩:=DataW.trod_bool underlying4 h2;simp at e2;subst e2;refine⟨⟨lo,hi,al⟩,⟨g1,g2⟩,rfl,λj hj=>?_⟩;rcases j with _|_|_|_|_|_|_|j
 .exact k1 0 aE 
 .exact k1 1 aE 
 .exact k1 2 aE 
 .exact k2 0 aE 
 .exact k2 1 aE 
 .exact k2 2 aE 
 .exact ⟨_,rfl,.v _⟩
 .omega
def apH(x:RI)(j:Nat)(hj:j<7):((wk x).getD j .any).one=true/\(((wk x).getD j .any).mf=true)/\((wk x).getD j .any).nr 2=true:=by
 rcases j with _|_|_|_|_|_|_|j
 all_goals first|exact⟨rfl,rfl,rfl⟩|omega
def abc(h:DataW.trod enc prog W 0 (λ_=>true) true fuel 23 cs=some x)(iN:∀ p ∈ x.2,p.block<W.heap.size):
  ∃ l v,cs=[v]/\(∀ y,y ∈ l->y.lp)/\iO oQ oQ W (lj l) v:=by
 have hC:prog.cellsOf 41=7:= aF ;rcases Deep.open_slice underlying23 h with⟨rfl,_⟩|⟨a,len,cap,m,n,D,Pl,rfl,hb,hl,hm,rT,rfl,hx⟩
 .exact ⟨[],_,rfl,(λy hy=>by cases hy),.sl true 0 7 _ none 0 (λ_ _=>.bool false) (bw _) aE (λ_=>rfl) (λi j hi=>absurd hi<|bC i) (λi j hi=>absurd hi<|bC i) (λi j hi=>absurd hi<|bC i) λi j hi=>absurd hi<|bC i⟩
 .simp only[bH]at rT;subst rT;have ex:∀ i,∃ y:RI,i<len->∃ cs',W.cells? 0 (a.add<|i*7) 7=some cs'/\OD W y cs':=by
   intro i;by_cases hi:i<len
   .obtain ⟨cs',h1,h2⟩:=hx i aC ;rw[hC]at h1;obtain⟨y,hy⟩:=an3 h2 λp hp=>iN p<|List.mem_append_right _<|dP.2 ⟨i,bN.2 aC,hp⟩;exact⟨y,λ_=>⟨cs',h1,hy⟩⟩
   .exact ⟨lE,λh=>absurd h hi⟩
  let X:Nat->RI:=λi=>Classical.choose<|ex i
  have hX:∀ i,i<len->∃ cs',W.cells? 0 (a.add<|i*7) 7=some cs'/\OD W (X i) cs':=λi=>dk<|ex i
  have hlen:((List.range len).map X).length=len:= aH ;refine⟨(List.range len).map X,_,rfl,?_,?_⟩
  .intro y hy;obtain⟨i,hi,rfl⟩:=cP.1 hy;obtain⟨cs',_,h2⟩:=hX i<|bN.1 hi;exact h2.1
  .have Em:∀ i,i<len->((List.range len).map X).getD i lE=X i:=by
    intro i hi;rw[bt,cC,fT hi];rfl
   have:=SU (W:=W) (a:=a) (len:=len) (cap:=m) (nl:=true) (λi j=>(wk<|((List.range len).map X).getD i lE).getD j .any) hl hm (show 0<7 by decide)
    (λi j _ hj=>let⟨h1,h2,h3⟩:=apH (((List.range len).map X).getD i lE) j hj;⟨h1,λ_=>h2,h3⟩)
    (λi hi=>by
     obtain⟨cs',h1,h2,_,h3⟩:=hX i hi;exact⟨cs',h1,λj hj=>by rw[Em i hi];exact h3 j hj⟩)
   unfold lj;rw[hlen];exact this
end
def ajE{P:Program}{c:OpenClaim}(h:P.funcs.any Func.goes=false)(hs:c.start = .entering):false=c.goesBy P:=by
 have h1:∀ g:Nat,(P.funcs[g]?).any Func.goes=false:=by
  intro g;cases hg:P.funcs[g]? with
  |none=>rfl
  |some fn=>
   rw[Option.any_some];rw[Array.any_eq_false]at h;obtain⟨hl,he⟩:=dq.1 hg;have:=h g hl;rw[he]at this;simpa using this
 have h2:∀ f,P.goes f=false:=by
  intro f;unfold Program.goes;rw[h,Bool.and_false,eB,cI];intro g _;rw[h1 g];decide
 unfold OpenClaim.goesBy Program.goesAt Program.goesFrom;rw[hs];cases P.funcNamed c.func with
 |none=>rfl
 |some f=>simp[h2 f]
def aiQ:Tryz.pinned.checked.prog.funcs.any Func.goes=false:= aF 
def YM(k:IntKind)(l:List Int):E:=.sl true l.length 1 λi _=>.v<|.int k<|l.getD i 0
def adF{k:IntKind}{z:Int}(h:(Lit.int k z).wf=true):kC k z:=by
 cases k<;>(simp[Lit.wf,IntKind.min,IntKind.max,IntKind.signed,IntKind.bits]at h;simp only[kC];omega)
def an0{H:Type}{enc:TypeId×Value->H}{W:World}{fuel:Nat}{cs:List Value}{x:DataW H×List MemPlace}{t e:TypeId}{k:IntKind}(hk:∀ z,qs (.int k z)=false)(ht:prog.underlying t=some (.slice e))(he:prog.underlying e=some (.int k))(hC:prog.cellsOf e=1)
  (h:DataW.trod enc prog W 0 (λ_=>true) true fuel t cs=some x):∃ l v,cs=[v]/\(∀ z,z ∈ l->kC k z)/\iO oQ oQ W (YM k l) v:=by
 rcases Deep.open_slice ht h with⟨rfl,_⟩|⟨a,len,cap,m,n,D,Pl,rfl,hb,hl,hm,rT,rfl,hx⟩
 .exact ⟨[],_,rfl,(λy hy=>by cases hy),.sl true 0 1 _ none 0 (λ_ _=>.bool false) (bw _) aE (λ_=>rfl) (λi j hi=>absurd hi<|bC i) (λi j hi=>absurd hi<|bC i) (λi j hi=>absurd hi<|bC i) λi j hi=>absurd hi<|bC i⟩
 .simp only[bH]at rT;subst rT;have ex:∀ i,∃ z:Int,i<len->W.cells? 0 (a.add<|i*1) 1=some [.int k z]/\kC k z:=by
   intro i;by_cases hi:i<len
   .obtain ⟨cs',h1,h2⟩:=hx i aC ;rw[hC]at h1;obtain⟨z,hz,_,hw⟩:=DataW.trod_int he h2;subst hz;exact⟨z,λ_=>⟨h1,adF hw⟩⟩
   .exact ⟨0,λh=>absurd h hi⟩
  let X:Nat->Int:=λi=>Classical.choose<|ex i
  have hX:∀ i,i<len->W.cells? 0 (a.add<|i*1) 1=some [.int k<|X i]/\kC k (X i):=λi=>dk<|ex i
  have hlen:((List.range len).map X).length=len:= aH ;refine⟨(List.range len).map X,_,rfl,?_,?_⟩
  .intro r hr;obtain⟨i,hi,rfl⟩:=cP.1 hr;exact(hX i<|bN.1 hi).2
  .have Em:∀ i,i<len->((List.range len).map X).getD i 0=X i:=by
    intro i hi;rw[bt,cC,fT hi];rfl
   have:=SU (W:=W) (a:=a) (len:=len) (cap:=m) (nl:=true) (λi _=>.v<|.int k<|((List.range len).map X).getD i 0) hl hm (show 0<1 by decide)
    (λi j _ hj=>⟨rfl,λ_=>by show(!qs _)=true;rw[hk];rfl,rfl⟩)
    (λi hi=>by
     refine⟨[.int k<|X i],(hX i hi).1,λj hj=>?_⟩;obtain rfl:j=0:= aC ;exact⟨_,rfl,by rw[Em i hi];exact .v _⟩)
   unfold YM;rw[hlen];exact this
end Go.Proofs.YtjkmahljfblobaaGreatDoor
namespace Go.Proofs.YtjkmahljfblobaaGreatDoor.Pu
open Go.RowKit
inductive R where
 |nil
 |bad
 |a (p:Prop) (r:R)
 |w (p:Prop) (r1:p->R) (r2:¬p->R)
def R.ok:R->Prop
 | .nil=>True
 | .bad=>False
 | .a p r=>p/\r.ok
 | .w p r1 r2=>(∀ h:p,(r1 h).ok)/\(∀ h:¬p,(r2 h).ok)
inductive Tr(P:Program)(K:World->Prop) where
 |nil
 |c {f:FuncId} {args:List E} {jk:E} (h:PC P K f args jk) (t:Tr P K)
 |cf {f:FuncId} {args:List E} {jk:E} (h:KX P K f args jk) (t:Tr P K)
 |cn {f:FuncId} {args:List E} {nl:Bool} {T:TypeId} {n sz:Nat} {el:Nat->Nat->E} (h:wD P K f args nl T n sz el) (t:Tr P K)
 |cr {f:FuncId} {args:List E} {nl:Bool} {T1 T0:TypeId} {n sz:Nat} {len:Nat->Nat} {el:Nat->Nat->Nat->E} (h:yJ P K f args nl T1 T0 n sz len el) (t:Tr P K)
 |cm {f:FuncId} {T:TypeId} {l l':List E} {args:List E} {jk:E} (h:wC P K f T l l' args jk) (t:Tr P K)
 |g {op:BinOp} {ty:TypeId} {x y:E} {v:Value} (h:mP P op ty x y v) (t:Tr P K)
 |gi {op:BinOp} {ty:TypeId} {x y:E} {v:Value} (h:mP P op ty x y v) (t:Tr P K)
 |m {l:List<|Int×FuncId×List FuncId} {z:Int} {e:E} (h:AR l z=some e) (t:Tr P K)
 |o (d:Nat) {p q:PV} (h:PV.le p q) (t:Tr P K)
 |bo (t:Tr P K)
 |a {p:Prop} (h:p) (t:Tr P K)
 |w (p:Prop) (t1:p->Tr P K) (t2:¬p->Tr P K)
 |s {c:Code} {σ τ:PS} {e:Ex} (h:Sp P K c σ λe' τ'=>e'=e/\τ'=τ) (l t:Tr P K)
 |j (c:Nat) (τ:PS) (tj t:Tr P K)
 |v (d:Nat) {p q:PV} (h:PV.le p q) (t:Tr P K)
 |b (d:Nat) {p q:Bx} (h:Bx.le p q) (t:Tr P K)
 |z (id:Nat) (t:Tr P K)
 |y (s id:Nat) (nl:Bool) (T:TypeId) (sz:Nat) (el:Nat->Nat->E) (t:Tr P K)
 |yf (d off id:Nat) (nl:Bool) (T:TypeId) (sz:Nat) (el:Nat->Nat->E) (t:Tr P K)
 |e (t:Tr P K)
 |k (ts bs:List Nat) (t:Tr P K)
 |u (n:Nat) (t:Tr P K)
 |x (h:False)
 |r {p q:E} (h:E.le p q)
 |rb {p q:Bx} (h:Bx.le p q)
 |rm {p q:Bx} {r₁ s₁:E} (h:Bx.le p q) (k:E.le r₁ s₁)
section
variable {P:Program} {K:World->Prop}
def Hn:List (Nat×PV)->Tr P K->(Tr P K->R)->R
 | [],t,k=>k t
 | (d,q)::l,t,k=>match t with
  | .o d' (p:=p) (q:=q') _ t'=>if Nat.beq d' d then .a (PV.le p q') (Hn l t' k)else .a (PV.le q q) (Hn l t k)
  |t=>.a (PV.le q q)<|Hn l t k
def FN:List (Nat×Bx)->Tr P K->R->R
 | [],_,r=>r
 | (d,q)::l,t,r=>match t with
  | .b d' (p:=p) (q:=q') _ t'=>if Nat.beq d' d then .a (Bx.le p q') (FN l t' r)else .a (Bx.le q q) (FN l t r)
  |t=>.a (Bx.le q q)<|FN l t r
def Hg(σ:PS)(t:Tr P K)(r:R):R:=Hn σ.t t λt=>FN σ.b t r
def Tr.ex:Tr P K->(Tr P K->R)->R
 | .nil,fin=>fin .nil
 | .e t,fin=>fin t
 | @Tr.c _ _ f args jk _ t,fin=>.a (PC P K f args jk)<|t.ex fin
 | @Tr.cf _ _ f args jk _ t,fin=>.a (KX P K f args jk)<|t.ex fin
 | @Tr.cn _ _ f args nl T n sz el _ t,fin=>.a (wD P K f args nl T n sz el)<|t.ex fin
 | @Tr.cr _ _ f args nl T1 T0 n sz len el _ t,fin=>.a (yJ P K f args nl T1 T0 n sz len el)<|t.ex fin
 | @Tr.cm _ _ f T l l' args jk _ t,fin=>.a (wC P K f T l l' args jk)<|t.ex fin
 | @Tr.g _ _ op₁ ty₁ xe₁ ye₁ ve₁ _ t,fin=>.a (mP P op₁ ty₁ xe₁ ye₁ ve₁)<|t.ex fin
 | @Tr.gi _ _ op₁ ty₁ xe₁ ye₁ ve₁ _ t,fin=>.a (mP P op₁ ty₁ xe₁ ye₁ ve₁)<|t.ex fin
 | @Tr.m _ _ l₁ z₁ e₁ _ t,fin=>.a (AR l₁ z₁=some e₁)<|t.ex fin
 | .o _ (p:=p) (q:=q) _ t,fin=>.a (PV.le p q)<|t.ex fin
 | .bo t,fin=>.a True<|t.ex fin
 | .a (p:=p) _ t,fin=>.a p<|t.ex fin
 | .w p t1 t2,fin=>.w p (λh=>(t1 h).ex fin) λh=>(t2 h).ex fin
 | @Tr.s _ _ c₁ σ τ e₁ _ l t,fin=>Hg σ l<|.a (Sp P K c₁ σ λe' τ'=>e'=e₁/\τ'=τ)<|t.ex fin
 | .j _ τ tj t,fin=>.a (tj.ex λt=>Hg τ t .nil).ok<|t.ex fin
 | .v _ (p:=p) (q:=q) _ t,fin=>.a (PV.le p q)<|t.ex fin
 | .b _ _ t,fin=>t.ex fin
 | .z _ t,fin=>t.ex fin
 | .y _ _ _ _ _ _ t,fin=>t.ex fin
 | .yf _ _ _ _ _ _ _ t,fin=>t.ex fin
 | .k _ _ t,fin=>t.ex fin
 | .u _ t,fin=>t.ex fin
 | .x _,fin=>.a False .nil
 | .r (p:=p) (q:=q) _,fin=>.a (E.le p q) .nil
 | .rb (p:=p) (q:=q) _,fin=>.a (Bx.le p q) .nil
 | @Tr.rm _ _ p q r₁ s₁ _ _,fin=>.a (Bx.le p q)<|.a (E.le r₁ s₁) .nil
def arG{l:List<|Nat×PV}{t:Tr P K}{k:Tr P K->R}(hk:∀ t,(k t).ok):(Hn l t k).ok:=by
 induction l generalizing t with
 |nil=>exact hk t
 |cons x l ih=>
  obtain⟨d,q⟩:=x;cases t with
  |o d' h t'=>
   simp only[Hn];split
   .exact ⟨h,ih⟩
   .exact ⟨PV.le.refl q,ih⟩
  |_=>exact⟨PV.le.refl q,ih⟩
def aeu{l:List<|Nat×Bx}{t:Tr P K}{r:R}(hr:r.ok):(FN l t r).ok:=by
 induction l generalizing t with
 |nil=>exact hr
 |cons x l ih=>
  obtain⟨d,q⟩:=x;cases t with
  |b d' h t'=>
   simp only[FN];split
   .exact ⟨h,ih⟩
   .exact ⟨Bx.le.refl q,ih⟩
  |_=>exact⟨Bx.le.refl q,ih⟩
def Te{σ:PS}{t:Tr P K}{r:R}(hr:r.ok):(Hg σ t r).ok:=arG λ_=>aeu hr
def Tr.IN{fin:Tr P K->R}(hf:∀ t,(fin t).ok)(t:Tr P K):(t.ex fin).ok:=by
 induction t generalizing fin with
 |nil=>exact hf _
 |e t=>exact hf _
 |c h t ih=>exact⟨h,ih hf⟩
 |cf h t ih=>exact⟨h,ih hf⟩
 |cn h t ih=>exact⟨h,ih hf⟩
 |cr h t ih=>exact⟨h,ih hf⟩
 |cm h t ih=>exact⟨h,ih hf⟩
 |g h t ih=>exact⟨h,ih hf⟩
 |gi h t ih=>exact⟨h,ih hf⟩
 |m h t ih=>exact⟨h,ih hf⟩
 |o d h t ih=>exact⟨h,ih hf⟩
 |bo t ih=>exact⟨trivial,ih hf⟩
 |a h t ih=>exact⟨h,ih hf⟩
 |w p t1 t2 Jt Ju=>exact⟨λh=>Jt h hf,λh=>Ju h hf⟩
 |s h l t ihl Rn=>exact Te ⟨h,Rn hf⟩
 |j c τ tj t ihj Rn=>exact⟨ihj λ_=>Te trivial,Rn hf⟩
 |v d h t ih=>exact⟨h,ih hf⟩
 |b d h t ih=>exact ih hf
 |z id t ih=>exact ih hf
 |y s id nl T sz el t ih=>exact ih hf
 |yf d off id nl T sz el t ih=>exact ih hf
 |k ts bs t ih=>exact ih hf
 |u n t ih=>exact ih hf
 |x h=>exact h.elim
 |r h=>exact⟨h,trivial⟩
 |rb h=>exact⟨h,trivial⟩
 |rm h k=>exact⟨h,k,trivial⟩
def Tm(υ:PS):List (Nat×PV)->R->R
 | [],r=>r
 | (d,q)::l,r=>.a (PV.le (υ.get d) q)<|Tm υ l r
def Lf(υ:PS):List (Nat×Bx)->R->R
 | [],r=>r
 | (d,q)::l,r=>match υ.bo d with
  |some b=>.a (Bx.le b q)<|Lf υ l r
  |none=>.bad
def NY(υ σ:PS)(r:R):R:=if Nat.beq υ.n σ.n&&(σ.b.all (λx=>x.2.nl)||(σ.nl==υ.nl))&&Kp σ then Tm υ σ.t (Lf υ σ.b r)else .bad
def Tr.tail:Tr P K->Tr P K
 | .c _ t=>t
 | .cf _ t=>t
 | .cn _ t=>t
 | .cr _ t=>t
 | .cm _ t=>t
 | .g _ t=>t
 | .gi _ t=>t
 | .m _ t=>t
 | .bo t=>t
 | .a _ t=>t
 |_=>.nil
def Sm:List Prop->Tr P K->(Tr P K->R)->R
 | [],t,k=>k t
 |p::l,t,k=>.a p<|Sm l t.tail k
def Ve(d:Option Tmp)(t:Tr P K):qY:=match d with
 |some d=>match t with
  | @Tr.c _ _ _ _ jk _ _=>{ cl:=[(d,jk)] }
  | @Tr.cf _ _ _ _ jk _ _=>{ cl:=[(d,jk)] }
  | @Tr.g _ _ _ _ _ _ ve₁ _ _=>{ cl:=[(d,.v ve₁)] }
  | @Tr.gi _ _ _ _ _ _ ve₁ _ _=>{ gi:=[(d,ve₁)] }
  | @Tr.m _ _ _ _ e₁ _ _=>{ cl:=[(d,e₁)] }
  | @Tr.cn _ _ _ _ nl T n sz el _ _=>{ nw:=[(d,.row nl T n sz el)] }
  | @Tr.cr _ _ _ _ nl T1 T0 n sz len el _ _=>{ nw:=[(d,.iM nl T1 T0 n sz len el none)] }
  | @Tr.cm _ _ _ _ _ l' _ jk _ _=>{ mu:=[(d,(l',jk))] }
  | .bo _=>{ nw:=[(d,.cells 0 [])] }
  |_=>{}
 |none=>{}
def Ke:Tr P K->(Tr P K->R)->R
 | .w p t1 t2,k=>.w p (λh=>Ke (t1 h) k) λh=>Ke (t2 h) k
 | .x _,_=>.a False .nil
 |t,k=>k t
def Sz(o:Oper)(u:kN)(t:Tr P K)(k:kN->Tr P K->R):R:=match o.dst,t with
 |some d,.o d' (q:=q) _ t'=>if Nat.beq d' d then .a (PV.le u.r q) (k { u with r:=q,jG:=PV.le u.r q::u.jG } t')else k u t
 |_,t=>k u t
def Su(T:List TI)(iq:Array Oper)(σ:PS)(o:Oper)(t:Tr P K)(k:kN->Tr P K->R):R:=
 if yg σ o.dst then match Cr iq σ o with
  |some false=>k { r:=.e<|.v<|.tuple #[],rd:=(looks iq o).map σ.get } t
  |some true=>Ke t λt=>match jR P K T (Ve o.dst t) σ o with
   |some u=>Sm u.jG t λt=>Ke t λt=>Sz o u t λu t=>k { u with rd:=(looks iq o).map σ.get,hb:=σ.pS u.f,ob:=σ.zE u.f } t
   |none=>.bad
  |none=>.bad
 else .bad
def Sw(T:List TI)(iq:Array Oper)(k:List (Oper×kN)->PS->Tr P K->R):List Oper->List (Oper×kN)->PS->Tr P K->R
 | [],us,σ,t=>k us σ t
 |o::l,us,σ,t=>Su T iq σ o t λu t'=>Sw T iq k l ((o,u)::us) (σ.app o.dst u) t'
def sM(c:Bool):Tr P K->PS->(Tr P K->PS->R)->R
 | .w p t1 t2,σ,k=>.w p (λh=>sM c (t1 h) σ k) λh=>sM c (t2 h) σ k
 | .x _,_,_=>.a False .nil
 | .v d (q:=q) _ t,σ,k=>match q with
  | .e x=>if yg σ (some d)then .a (PV.le (σ.get d)<|.e x) (sM c t (σ.put (some d)<|.e x) k)else .bad
  |_=>.bad
 | .k ts bs t,σ,k=>if c then k (.k ts bs t) σ else if Kp (σ.cut ts bs)then sM c t (σ.cut ts bs) k else .bad
 | .z id t,σ,k=>if c then k (.z id t) σ else match σ.bo id with
  |some b=>match b.as with
   |some e=>sM c t (σ.wQ id e) k
   |none=>.bad
  |none=>.bad
 | .y s id nl T sz el t,σ,k=>if c then k (.y s id nl T sz el t) σ else match σ.bo id,σ.get s with
  |none,.e (.v<|.slice none 0 0)=>if !σ.nl||nl then sM c t (σ.FI s id<|.row nl T 0 sz el) k else .bad
  |_,_=>.bad
 | .yf d off id nl T sz el t,σ,k=>if c then k (.yf d off id nl T sz el t) σ else match σ.OT d off id (.row nl T 0 sz el)with
  |some τ=>if !σ.nl||nl then sM c t τ k else .bad
  |none=>.bad
 |t,σ,k=>k t σ
def NV(c:Code)(σ:PS)(t:Tr P K)(k:Ex->PS->Tr P K->R):R:=match t with
 | @Tr.s _ _ _ σ' τ e _ _ t=>NY σ σ'<|.a (Sp P K c σ' λe' τ'=>e'=e/\τ'=τ)<|k e τ t
 |_=>.bad
def Ex.rG:Ex->Ex->Bool
 | .normal,.normal=>true
 | .ret,.ret=>true
 | .exit a,.exit b=>Nat.beq a b
 |_,_=>false
def IH(e:Ex)(τ:PS)(e':Ex)(υ:PS)(_:Tr P K):R:=if Ex.rG e' e then NY υ τ .nil else .bad
def agu:Operand->Nat
 | .tmp t=>2*t
 |_=>1
def jn(c:Nat)(g:PS->Tr P K->(Ex->PS->Tr P K->R)->R)(σ:PS)(t:Tr P K)(k:Ex->PS->Tr P K->R):R:=match t with
 | .j c' τ tj t'=>if Nat.beq c' c then .a (g σ tj<|IH .normal τ).ok (k .normal τ t')else g σ t k
 |t=>g σ t k
def Tr.isS:Tr P K->Bool
 | .s ..=>true
 |_=>false
def adr(g f:PS->Tr P K->(Ex->PS->Tr P K->R)->R):Nat->PS->Tr P K->(Ex->PS->Tr P K->R)->R
 | 0,_,_,_=>.bad
 |n+1,σ,t,k=>sM false t σ λt σ=>if t.isS then g σ t k else f σ t λe τ t=>match e with
  | .normal=>adr g f n τ t k
  |e=>k e τ t
def wM(T:List TI):Code->PS->Tr P K->(Ex->PS->Tr P K->R)->R
 | .skip,σ,t,k=>k .normal σ t
 | .region _ iq d,σ,t,k=>Sw T iq (λus τ t=>if !d||GX iq 0 us.reverse then k .normal τ t else .bad) iq.toList [] σ t
 | .seq a b,σ,t,k=>wM T a σ t λe τ t=>match e with
  | .normal=>wM T b τ t k
  |e=>k e τ t
 | .cond c a b,σ,t,k=>sM true t σ λt σ=>jn (agu c) (λσ t k=>sM true t σ λt σ=>match σ.op c with
  | .e (.v<|.bool true)=>wM T a σ t k
  | .e (.v<|.bool false)=>wM T b σ t k
  |_=>.bad) σ t k
 | .block id b,σ,t,k=>sM true t σ λt σ=>jn (2*id+1) (λσ t k=>wM T b σ t λe τ t=>match e with
  | .exit i=>if Nat.beq i id then k .normal τ t else k (.exit i) τ t
  |e=>k e τ t) σ t k
 | .exit id,σ,t,k=>sM false t σ λt σ=>k (.exit id) σ t
 | .ret,σ,t,k=>sM false t σ λt σ=>k .ret σ t
 | .loop b,σ,t,k=>sM false t σ λt σ=>match t with
  | .u n t=>adr (NV<|.loop b) (wM T b) n σ t k
  |t=>NV (.loop b) σ t k
 | .label _,σ,t,k=>k .normal σ t
 | .scope b,σ,t,k=>wM T b σ t k
 |_,_,_,_=>.bad
def abh{t:Tr P K}{k:Tr P K->R}(h:(Ke t k).ok):∃ t',(k t').ok:=by
 induction t with
 |w p t1 t2 Jt Ju=>
  by_cases hp:p
  .exact Jt hp<|h.1 hp
  .exact Ju hp<|h.2 hp
 |x hf=>exact hf.elim
 |_=>exact⟨_,h⟩
def anM{l:List Prop}{t:Tr P K}{k:Tr P K->R}(h:(Sm l t k).ok):(∀ q,q ∈ l->q)/\∃ t',(k t').ok:=by
 induction l generalizing t with
 |nil=>exact⟨λq hq=>by simp at hq,t,h⟩
 |cons p l ih=>
  obtain⟨h1,h2⟩:=ih h.2;refine⟨λq hq=>?_,h2⟩;rcases dw.1 hq with hq|hq
  .subst hq;exact h.1
  .exact h1 q hq
variable {T:List TI} {iq:Array Oper} {σ:PS} {o:Oper}
def aoh{O:qY}{u:kN}{t:Tr P K}{k:kN->Tr P K->R}(hO:O.ov=[])(hu:jR P K T O σ o=some u)(ho:∀ q,q ∈ u.jG->q)(h:(Sz o u t k).ok):
 ∃ O' u' t',wN P K T O' σ o=some u'/\(∀ q,q ∈ u'.jG->q)/\(k u' t').ok:=by
 have plain:(k u t).ok->∃ O' u' t',wN P K T O' σ o=some u'/\(∀ q,q ∈ u'.jG->q)/\(k u' t').ok:=by
  intro h;refine⟨O,u,t,?_,ho,h⟩;unfold wN;rw[hu,hO];cases o.dst<;>rfl
 unfold Sz at h;split at h
 .rename_i d d' p q hpq t' hd;split at h
  .obtain ⟨h1,h2⟩:=h;refine⟨⟨O.cl,[(d,q)],O.nw,O.gi,O.mu⟩,_,t',?_,λx hx=>?_,h2⟩
   .unfold wN;have he:jR P K T ⟨O.cl,[(d,q)],O.nw,O.gi,O.mu⟩ σ o=jR P K T O σ o:=by cases O;rfl
    rw[he,hu,hd];simp[look]
   .rcases dw.1 hx with hx|hx
    .subst hx;exact h1
    .exact ho x hx
  .exact plain h
 .exact plain h
def anW{t:Tr P K}{k:kN->Tr P K->R}(h:(Su T iq σ o t k).ok):∃ u t',(∃ O,sF P K T O iq σ o=some u)/\(∀ q,q ∈ u.jG->q)/\(k u t').ok:=by
 unfold Su at h;split at h
 .rename_i hi;split at h
  .rename_i hw;refine⟨_,t,⟨{},?_⟩,λq hq=>by simp at hq,h⟩;unfold sF;rw[bk hi,hw]
  .rename_i hw;obtain⟨t1,h1⟩:=abh h;split at h1
   .rename_i u hu;obtain⟨ho,t2,h2⟩:=anM h1;obtain⟨t2,h2⟩:=abh h2;obtain⟨O',u',t3,vW,ho',h3⟩:=aoh (by
     unfold Ve;cases o.dst with
     |none=>rfl
     |some d=>cases t1<;>rfl) hu ho h2
    refine⟨{ u' with rd:=(looks iq o).map σ.get,hb:=σ.pS u'.f,ob:=σ.zE u'.f },t3,⟨O',?_⟩,ho',h3⟩;unfold sF;rw[bk hi,hw,vW]
   .exact h1.elim
  .exact h.elim
 .exact h.elim
def an8{k:List (Oper×kN)->PS->Tr P K->R}{l:List Oper}{us:List<|Oper×kN}{t:Tr P K}(h:(Sw T iq k l us σ t).ok):
 ∃ vs τ t',yM P K T iq vs σ τ/\vs.map (·.1)=l/\(∀ x,x ∈ vs->∀ q,q ∈ x.2.jG->q)/\(k (vs.reverse++us) τ t').ok:=by
 induction l generalizing us σ t with
 |nil=>exact⟨[],σ,t,tE.refl σ,rfl,λx hx=>by simp at hx,h⟩
 |cons o l ih=>
  obtain⟨u,t1,h1,h2,h3⟩:=anW h;obtain⟨vs,τ,t',k1,k2,k3,k4⟩:=ih h3;refine⟨(o,u)::vs,τ,t',⟨h1,k1⟩,by simp[k2],λx hx=>?_,by simpa using k4⟩;rcases dw.1 hx with hx|hx
  .subst hx;exact h2
  .exact k3 x hx
def PS.le.set{σ:PS}{d:Nat}{x:E}(hd:yg σ (some d)=true)(h:PV.le (σ.get d)<|.e x):PS.le σ<|σ.put (some d)<|.e x:=λw0 B a w L _ r=>by
 have Eg:d<σ.n:=by simpa[yg,fK]using hd
 refine⟨L,r.hd,by rw[PS.R1];exact r.hs,λt=>?_,λid b hb=>r.hb id b hb,r.hv,r.hn,r.hw,r.hi,r.he,r.hl⟩;rw[PS.Ql];by_cases e:d=t
 .subst e;rw[bk rfl];exact h _ _ _ _ _<|r.ht d
 .rw [bj e];exact r.ht t
def Fe{c:Bool}{t:Tr P K}{σ:PS}{k:Tr P K->PS->R}(h:(sM c t σ k).ok):∃ t' τ,PS.le σ τ/\(k t' τ).ok:=by
 induction t generalizing σ with
 |w p t1 t2 Jt Ju=>
  by_cases hp:p
  .exact Jt hp<|h.1 hp
  .exact Ju hp<|h.2 hp
 |k ts bs t ih=>
  simp only[sM]at h;split at h
  .exact ⟨_,σ,PS.le.refl σ,h⟩
  split at h
  .rename_i hr;obtain⟨t',τ,h1,h2⟩:=ih h;exact⟨t',τ,(PS.le.cut ts bs hr).trans h1,h2⟩
  .exact h.elim
 |v d h0 t ih=>
  simp only[sM]at h;split at h
  .rename_i x;split at h
   .rename_i hd;obtain⟨t',τ,h1,h2⟩:=ih h.2;exact⟨t',τ,(PS.le.set hd h.1).trans h1,h2⟩
   .exact h.elim
  .exact h.elim
 |z id t ih=>
  simp only[sM]at h;split at h
  .exact ⟨_,σ,PS.le.refl σ,h⟩
  split at h
  .rename_i b hb;split at h
   .rename_i e he;obtain⟨t',τ,h1,h2⟩:=ih h;exact⟨t',τ,(PS.le.freeze id hb he).trans h1,h2⟩
   .exact h.elim
  .exact h.elim
 |y s id nl T sz el t ih=>
  simp only[sM]at h;split at h
  .exact ⟨_,σ,PS.le.refl σ,h⟩
  split at h
  .rename_i hb hg;split at h
   .rename_i hn;obtain⟨t',τ,h1,h2⟩:=ih h;exact⟨t',τ,(PS.le.ad9 s id hb hg (λe=>by rw[e]at hn;simpa using hn)).trans h1,h2⟩
   .exact h.elim
  .exact h.elim
 |yf d off id nl T sz el t ih=>
  simp only[sM]at h;split at h
  .exact ⟨_,σ,PS.le.refl σ,h⟩
  split at h
  .rename_i τ0 hb;split at h
   .rename_i hn;obtain⟨t',τ,h1,h2⟩:=ih h;exact⟨t',τ,(PS.le.aea hb (λe=>by rw[e]at hn;simpa using hn)).trans h1,h2⟩
   .exact h.elim
  .exact h.elim
 |x hf=>exact hf.elim
 |_=>exact⟨_,σ,PS.le.refl σ,h⟩
def arH{υ:PS}{l:List<|Nat×PV}{r:R}(h:(Tm υ l r).ok):zY υ l/\r.ok:=by
 induction l with
 |nil=>exact⟨trivial,h⟩
 |cons x l ih=>obtain⟨d,q⟩:=x;exact⟨⟨h.1,(ih h.2).1⟩,(ih h.2).2⟩
def aeZ{υ:PS}{l:List<|Nat×Bx}{r:R}(h:(Lf υ l r).ok):yI υ l/\r.ok:=by
 induction l with
 |nil=>exact⟨trivial,h⟩
 |cons x l ih=>
  obtain⟨d,q⟩:=x;simp only[Lf]at h;split at h
  .rename_i b hb;exact⟨⟨⟨b,hb,h.1⟩,(ih h.2).1⟩,(ih h.2).2⟩
  .exact h.elim
def acH{υ σ:PS}{r:R}(h:(NY υ σ r).ok):PS.le υ σ/\r.ok:=by
 unfold NY at h;split at h
 .rename_i hc;simp only[bK,ep,beq_iff_eq]at hc;obtain⟨⟨h1,h2⟩,h3⟩:=hc;obtain⟨h4,h5⟩:=arH h;obtain⟨h6,h7⟩:=aeZ h5;refine⟨?_,h7⟩;rcases h2 with h2|h2
  .exact PS.le.alL (kQ.1 h1) h2 h3 h4 h6
  .exact PS.le.oE (kQ.1 h1) h2 h3 h4 h6
 .exact h.elim
def aqy(hT:mh P T){w0:mQ}{B:Nat->Prop}{a:Act}{w:World}{L:Lk}(g:Gd P K w0 B){us:List<|Oper×kN}{τ:PS}{Q:Exit->Act->World->Prop}(h:yM P K T iq us σ τ)(ho:∀ x,x ∈ us->∀ q,q ∈ x.2.jG->q)
 (r:jh w0 B σ a w L) (hq:∀ a' w' L',jh w0 B τ a' w' L'->Q .normal a' w'):wpList P iq Q (us.map (·.1)) a w:=by
 induction us generalizing σ a w L with
 |nil=>exact hq a w L<|r.rG h
 |cons x us ih=>
  obtain⟨⟨O,h1⟩,h2⟩:=h;rw[eU];unfold wpList;rcases Wm hT g r h1 (ho x aH) (wpList P iq Q (us.map (·.1))) Q (λa' w' L' hr=>ih h2 (λy hy=>ho y<|by simp[hy]) hr)with⟨p1,p2⟩|⟨p1,p2⟩
  .rw [bk p1];exact .inl p2
  .rw [bj<|by rw[p1];simp];exact p2
def apf(hT:mh P T)(hm:P.follows .mixedOrders=true){w0:mQ}{B:Nat->Prop}{a:Act}{w:World}{L:Lk}(g:Gd P K w0 B){id:Nat}{draw:Bool}{us:List<|Oper×kN}{τ:PS}{Q:Exit->Act->World->Prop}
 (h:yM P K T iq us σ τ) (hl:us.map (·.1)=iq.toList) (ho:∀ x,x ∈ us->∀ q,q ∈ x.2.jG->q) (hp:(!draw||GX iq 0 us)=true) (r:jh w0 B σ a w L)
 (hq:∀ a' w' L',jh w0 B τ a' w' L'->Q .normal a' w'):(Code.region id iq draw).wp P Q a w:=by
 cases draw with
 |false=>exact wp_region_list<|by rw[<-hl];exact aqy hT g h ho r hq
 |true=>
  obtain⟨R,r1,r2,r3⟩:=alW hl (by simpa using hp);refine wp_region_any hm (aed hT g hq iq.size (Array.replicate iq.size false) R σ a w.drew L r2 aH r3 (λx hx=>ho x.2 ?_) (by rw[r1];exact h) r.drew);rw[<-r1];exact cP.2 ⟨x,hx,rfl⟩
def acD{c:Code}{t:Tr P K}{k:Ex->PS->Tr P K->R}(h:(NV c σ t k).ok):Sp P K c σ (λe τ=>∃ t',(k e τ t').ok):=by
 unfold NV at h;split at h
 .obtain ⟨h1,h2,h3⟩:=acH h;exact Sp.pre h1 (h2.mono λe τ ⟨q1,q2⟩=>by subst q1 q2;exact⟨_,h3⟩)
 .exact h.elim
def Ex.aqz{a b:Ex}(h:Ex.rG a b=true):a=b:=by
 cases a<;>cases b<;>first|rfl|(cases h;done)|exact congrArg Ex.exit<|kQ.1 h
def Wf{e e':Ex}{τ υ:PS}{t:Tr P K}(h:(IH e τ e' υ t).ok):e'=e/\PS.le υ τ:=by
 unfold IH at h;split at h
 .rename_i he;exact⟨Ex.aqz he,(acH h).1⟩
 .exact h.elim
def Y4{c:Code}{cb:Nat}{g:PS->Tr P K->(Ex->PS->Tr P K->R)->R}(hg:∀ σ t k,(g σ t k).ok->Sp P K c σ (λe τ=>∃ t',(k e τ t').ok)){σ:PS}{t:Tr P K}{k:Ex->PS->Tr P K->R}(h:(jn cb g σ t k).ok):
 Sp P K c σ (λe τ=>∃ t',(k e τ t').ok):=by
 unfold jn at h;split at h
 .rename_i c' τ tj t;split at h
  .refine (hg _ _ _ h.1).post λe υ ⟨t',ht⟩=>?_
   obtain⟨he,hl⟩:=Wf ht;exact⟨τ,hl,t,by rw[he];exact h.2⟩
  .exact hg _ _ _ h
 .exact hg _ _ _ h
def uT(P:Program)(K:World->Prop)(b:Code)(σ:PS)(Q:Ex->PS->Prop):Prop:=
 ∀ (w0:mQ) (B:Nat->Prop) (a:Act) (w:World) (L:Lk),Gd P K w0 B->jh w0 B σ a w L->∀ bf k cs,
  ∃ e a' w',(∃ ex τ L',e=Ex.to ex/\Q ex τ/\jh w0 B τ a' w' L')/\Arrives P (lone (bf.at a<|.code b :: .inLoop b::k) cs w) bf k cs e a' w'
def uT.loop{b:Code}{σ:PS}{Q:Ex->PS->Prop}(h:uT P K b σ Q):Sp P K (.loop b) σ Q:=by
 intro w0 B a w L g r bf k cs;obtain⟨e,a',w',hq,ve⟩:=h w0 B a w L g r bf k cs;exact⟨e,a',w',hq,.of_steps (.one step_loop) ve⟩
def uT.pre{b:Code}{σ τ:PS}{Q:Ex->PS->Prop}(h:PS.le σ τ)(k:uT P K b τ Q):uT P K b σ Q:=λw0 B a w L g r=>
 let⟨L',r'⟩:=h w0 B a w L (λb hb=>(g.hB b hb).1) r;k w0 B a w L' g r'
def uT.step{b:Code}{σ:PS}{Q:Ex->PS->Prop}(h:Sp P K b σ λe τ=>(e = .normal/\uT P K b τ Q)\/(e ≠ .normal/\Q e τ)):uT P K b σ Q:=by
 intro w0 B a w L g r bf k cs;obtain⟨e,a₁,w₁,⟨ex,υ,L2,rfl,hq,og⟩,ve⟩:=h w0 B a w L g r bf (.inLoop b::k) cs;rcases hq with⟨rfl,hs⟩|⟨jV,hq⟩
 .obtain ⟨e₂,a₂,w₂,Q9,QH⟩:=hs w0 B a₁ w₁ L2 g og bf k cs;exact⟨e₂,a₂,w₂,Q9,.of_steps (Steps.trans ve<|.one step_inLoop) QH⟩
 .cases ex with
  |normal=>exact absurd rfl jV
  |exit i=>exact⟨_,a₁,w₁,⟨.exit i,υ,L2,rfl,hq,og⟩,.pass (x:=.inLoop b) rfl (λ_ _=>.inl<|by simp[Ex.to]) ve⟩
  |ret=>exact⟨_,a₁,w₁,⟨.ret,υ,L2,rfl,hq,og⟩,.pass (x:=.inLoop b) rfl (λ_ _=>.inl<|by simp[Ex.to]) ve⟩
def PX{id : Nat} : ∀ {k k' : List Item},exitTo id k=some k'->k'.length<=k.length
  | [],_,h => by simp[exitTo]at h
  |x::k,k',h => by
    cases x
    all_goals
      simp only[exitTo]at h
      first
        | (have := PX h;simp only[cS];omega)
        | (split at h
           . cases h;simp
           . have := PX h;simp only[cS];omega)
def Steps.O7{m m1 m':Machine}(hs:step P m = .next m1)(jV:m≠m')(h:Steps P m m'):Steps P m1 m':=by
 obtain⟨n,hn⟩:=h;cases n with
 |zero=>simp only[runN,Stepped.next.injEq]at hn;exact absurd hn jV
 |succ n=>exact⟨n,by simpa only[runN,hs]using hn⟩
def uT.anO{b:Code}{σ:PS}{Q:Ex->PS->Prop}(h:Sp P K (.loop b) σ Q):uT P K b σ Q:=by
 intro w0 B a w L g r bf k cs;obtain⟨e,a',w',⟨ex,τ,L',rfl,hq,hr⟩,ve⟩:=h w0 B a w L g r bf k cs;have todo:∀ (f g:Frame) (w w':World),lone f cs w=lone g cs w'->f.todo=g.todo:=λf g w w' e=>by
  have e1:=congrArg Machine.gs e;simp only[lone,Array.mk.injEq,List.cons.injEq,fO]at e1;injection e1 with e2;rw[e2]
 have ne:∀ (a₁:Act) (k₁:List Item) (w₁:World),k₁.length<=k.length->lone (bf.at a<|.code (.loop b)::k) cs w≠lone (bf.at a₁ k₁) cs w₁:=λa₁ k₁ w₁ hk e=>by
  have:=congrArg List.length<|todo _ _ _ _ e;simp[Frame.at]at this;omega
 refine⟨_,a',w',⟨ex,τ,L',rfl,hq,hr⟩,?_⟩;cases ex with
 |normal=>exact Steps.O7 step_loop (ne _ _ _<|bw _) ve
 |exit i=>exact λk' hk=>Steps.O7 step_loop (ne _ _ _<|PX hk)<|ve k' hk
 |ret=>
  obtain⟨td,hs⟩:=ve;refine⟨td,Steps.O7 step_loop (λe=>?_) hs⟩;have e1:=congrArg Machine.gs e;simp only[lone,Array.mk.injEq,List.cons.injEq,fO]at e1;injection e1 with e2;have e3:=congrArg Frame.mode e2;simp[Frame.at]at e3
section
variable(hT:mh P T)(hm:P.follows .mixedOrders=true){c:Code}
def IM{σ:PS}{t:Tr P K}{k:Ex->PS->Tr P K->R}(h:(wM T c σ t k).ok):Sp P K c σ (λe τ=>∃ t',(k e τ t').ok):=by
 induction c generalizing σ t k with
 |skip=>exact λw0 B a w L g r=>wp_skip ⟨.normal,_,L,rfl,⟨t,h⟩,r⟩
 |region id iq d=>
  obtain⟨vs,τ,t',h1,h2,h3,h4⟩:=an8 h;split at h4
  .rename_i hp;simp only[List.append_nil,List.reverse_reverse]at hp;exact λw0 B a w L g r=>apf hT hm g h1 h2 h3 hp r λa' w' L' hr=>⟨.normal,τ,L',rfl,⟨t',h4⟩,hr⟩
  .exact h4.elim
 |seq x y Ro Rp=>
  intro w0 B a w L g r;refine wp_seq<|Code.wp_mono ?_ (Ro h w0 B a w L g r);rintro ex a' w' ⟨e1,τ1,L',rfl,⟨t',ht⟩,hr⟩;cases e1 with
  |normal=>exact Rp ht w0 B a' w' L' g hr
  |exit i=>exact⟨.exit i,τ1,L',rfl,⟨t',ht⟩,hr⟩
  |ret=>exact⟨.ret,τ1,L',rfl,⟨t',ht⟩,hr⟩
 |cond c x y Ro Rp=>
  obtain⟨t1,τ,hle,h1⟩:=Fe h;refine Sp.pre hle<|Y4 (λσ t k h=>?_) h1;obtain⟨t1,τ,hle,h1⟩:=Fe h;refine Sp.pre hle ?_;split at h1
  .rename_i hc;intro w0 B a w L g r;have hv:=r.op c;rw[hc]at hv;exact wp_cond_true (iO.kW hv)<|Ro h1 w0 B a w L g r
  .rename_i hc;intro w0 B a w L g r;have hv:=r.op c;rw[hc]at hv;exact wp_cond_false (iO.kW hv)<|Rp h1 w0 B a w L g r
  .exact h1.elim
 |block id b ih=>
  obtain⟨t1,τ,hle,h1⟩:=Fe h;refine Sp.pre hle<|Y4 (λσ t k h=>?_) h1;intro w0 B a w L g r;refine wp_block<|Code.wp_mono ?_ (ih h w0 B a w L g r);rintro ex a' w' ⟨e1,τ1,L',rfl,⟨t',ht⟩,hr⟩;cases e1 with
  |normal=>exact⟨.normal,_,L',rfl,⟨t',ht⟩,hr⟩
  |ret=>exact⟨.ret,_,L',rfl,⟨t',ht⟩,hr⟩
  |exit i=>
   simp only at ht;show Exit.inBlock id _ (.exit i) a' w';split at ht
   .rename_i hi;have hi:=kQ.1 hi;subst hi;simp only[Exit.inBlock,bH];exact⟨.normal,_,L',rfl,⟨t',ht⟩,hr⟩
   .rename_i hi;have hi:i≠id:=λe=>hi (kQ.2 e)
    simp only[Exit.inBlock,hi,bB];exact⟨.exit i,_,L',rfl,⟨t',ht⟩,hr⟩
 |label l=>exact λw0 B a w L g r=>wp_label ⟨.normal,_,L,rfl,⟨t,h⟩,r⟩
 |scope b ih=>
  intro w0 B a w L g r;refine wp_scope_straight<|Code.wp_mono ?_ (ih h w0 B a w L g r);rintro ex a' w' ⟨e1,τ1,L',rfl,⟨t',ht⟩,hr⟩;cases e1 with
  |normal=>exact⟨.normal,τ1,L',rfl,⟨t',ht⟩,hr⟩
  |ret=>exact⟨.ret,τ1,L',rfl,⟨t',ht⟩,hr⟩
  |exit i=>exact⟨.exit i,τ1,L',rfl,⟨t',ht⟩,hr⟩
 |exit id=>
  obtain⟨t1,τ,hle,h1⟩:=Fe h;exact Sp.pre hle λw0 B a w L g r=>wp_exit ⟨.exit id,_,L,rfl,⟨t1,h1⟩,r⟩
 |ret=>
  obtain⟨t1,τ,hle,h1⟩:=Fe h;exact Sp.pre hle λw0 B a w L g r=>wp_ret ⟨.ret,_,L,rfl,⟨t1,h1⟩,r⟩
 |loop b ih=>
  obtain⟨t1,τ,hle,h1⟩:=Fe h;refine Sp.pre hle ?_;split at h1
  .rename_i n t;clear hle h;refine uT.loop ?_
   induction n generalizing τ t with
   |zero=>exact h1.elim
   |succ n ihn=>
    obtain⟨t2,τ2,hle,h1⟩:=Fe h1;split at h1
    .exact uT.pre hle<|uT.anO<|acD h1
    refine uT.pre hle<|uT.step<|(ih h1).mono λe υ ⟨t',ht⟩=>?_;cases e with
    |normal=>exact .inl ⟨rfl,ihn _ _ ht⟩
    |exit i=>exact .inr ⟨aH,t',ht⟩
    |ret=>exact .inr ⟨aH,t',ht⟩
  .exact acD h1
 |_=>exact h.elim
def Sp.tr{σ τ:PS}{e:Ex}(t:Tr P K)(h:wM T c σ t (IH e τ)=t.ex λt=>Hg τ t .nil):
 Sp P K c σ (λe' τ'=>e'=e/\τ'=τ):=by
 have hk:=Tr.IN (fin:=λt=>Hg τ t .nil) (λt=>Te trivial) t;rw[<-h]at hk;refine(IM hT hm hk).post λe' υ ⟨t',ht⟩=>?_
 obtain⟨he,hl⟩:=Wf ht;exact⟨τ,hl,he,rfl⟩
end
def WD(T:List TI)(fn:Func)(jk:E)(e:Ex)(τ:PS)(_:Tr P K):R:=match e with
 | .exit _=>.bad
 |_=>match Ny T fn τ with
  |some r=>.a (E.le r jk) .nil
  |none=>.bad
def Ko(T:List TI)(fn:Func)(nl:Bool)(args:List E)(jk:E)(t:Tr P K):R:=match fn.body with
 |some c=>if Nat.ble args.length fn.ntmps then wM T c (BU fn nl args) t (WD T fn jk)else .bad
 |none=>.bad
def PC.FA(hT:mh P T)(hm:P.follows .mixedOrders=true)(hp:∀ w w',K w->Below w.heap.size w w'->K w'){f:FuncId}{fn:Func}{args:List E}{jk:E}(ru:∀ (vs:Array Value) (w:World),(callFunc f vs).run P w = .ok (.enter f vs) w)
 (hf:P.funcs[f]? = some fn) (nl:Bool) (t:Tr P K) (h:Ko T fn nl args jk t=t.ex λ_=>.a (E.le jk jk) .nil):PC P K f args jk:=by
 have hk:=Tr.IN (fin:=λ_=>.a (E.le jk jk) .nil) (λt=>⟨E.le.refl jk,trivial⟩) t;rw[<-h]at hk;unfold Ko at hk;split at hk
 .rename_i c hb;split at hk
  .rename_i hn;refine PC.E4 hT hm hp ru hf hb (cK hn) nl<|(IM hT hm hk).mono λe τ ⟨t',ht⟩=>?_;unfold WD at ht;split at ht
   .exact ht.elim
   .rename_i jV;split at ht
    .rename_i r hr;refine⟨?_,r,hr,ht.1⟩;cases e with
     |normal=>exact .inr rfl
     |ret=>exact .inl rfl
     |exit i=>exact absurd rfl (jV i)
    .exact ht.elim
  .exact hk.elim
 .exact hk.elim
def P8(fn:Func)(b:Bx)(e:Ex)(τ:PS)(_:Tr P K):R:=match e with
 | .exit _=>.bad
 |_=>match fn.results.toList with
  | [.tmp t]=>match τ.get t with
   | .own id=>match τ.bo id with
    |some c=>.a (Bx.le c b) .nil
    |none=>.bad
   |_=>.bad
  |_=>.bad
def G9(T:List TI)(fn:Func)(args:List E)(b:Bx)(t:Tr P K):R:=match fn.body with
 |some c=>if Nat.ble args.length fn.ntmps then wM T c (BU fn true args) t (P8 fn b)else .bad
 |none=>.bad
section
variable(hT:mh P T)(hm:P.follows .mixedOrders=true)(hp:∀ w w',K w->Below w.heap.size w w'->K w'){f:FuncId}{fn:Func}{args:List E}{nl:Bool}
def wD.FA{T0:TypeId}{n sz:Nat}{el:Nat->Nat->E}(ru:∀ (vs:Array Value) (w:World),(callFunc f vs).run P w = .ok (.enter f vs) w)
 (hf:P.funcs[f]? = some fn) (t:Tr P K) (h:G9 T fn args (.row nl T0 n sz el) t=t.ex λ_=>.a (Bx.le (.row nl T0 n sz el)<|.row nl T0 n sz el) .nil):wD P K f args nl T0 n sz el:=by
 have hk:=Tr.IN (fin:=λ_=>.a (Bx.le (.row nl T0 n sz el)<|.row nl T0 n sz el) .nil) (λt=>⟨Bx.le.refl _,trivial⟩) t;rw[<-h]at hk;unfold G9 at hk;split at hk
 .rename_i c hb;split at hk
  .rename_i hn;refine wD.E4 hT hm hp ru hf hb (cK hn) true<|(IM hT hm hk).mono λe τ ⟨t',ht⟩=>?_;unfold P8 at ht;split at ht
   .exact ht.elim
   .rename_i jV;split at ht
    .rename_i t0 hr;split at ht
     .rename_i id hg;split at ht
      .rename_i c' hc;refine⟨?_,t0,id,c',hr,hg,hc,λbs br L w hk=>ht.1.2 _ _ _ _ _ hk⟩;cases e with
       |normal=>exact .inr rfl
       |ret=>exact .inl rfl
       |exit i=>exact absurd rfl (jV i)
      .exact ht.elim
     .exact ht.elim
    .exact ht.elim
  .exact hk.elim
 .exact hk.elim
def yJ.FA{T1 T0:TypeId}{n sz:Nat}{len:Nat->Nat}{el:Nat->Nat->Nat->E}(ru:∀ (vs:Array Value) (w:World),(callFunc f vs).run P w = .ok (.enter f vs) w)
 (hf:P.funcs[f]? = some fn) (t:Tr P K) (h:G9 T fn args (.iM nl T1 T0 n sz len el none) t=t.ex λ_=>.a (Bx.le (.iM nl T1 T0 n sz len el none)<|.iM nl T1 T0 n sz len el none) .nil):yJ P K f args nl T1 T0 n sz len el:=by
 have hk:=Tr.IN (fin:=λ_=>.a (Bx.le (.iM nl T1 T0 n sz len el none)<|.iM nl T1 T0 n sz len el none) .nil) (λt=>⟨Bx.le.refl _,trivial⟩) t;rw[<-h]at hk;unfold G9 at hk;split at hk
 .rename_i c hb;split at hk
  .rename_i hn;refine yJ.E4 hT hm hp ru hf hb (cK hn) true<|(IM hT hm hk).mono λe τ ⟨t',ht⟩=>?_;unfold P8 at ht;split at ht
   .exact ht.elim
   .rename_i jV;split at ht
    .rename_i t0 hr;split at ht
     .rename_i id hg;split at ht
      .rename_i c' hc;refine⟨?_,t0,id,c',hr,hg,hc,λbs br L w hk=>ht.1.2 _ _ _ _ _ hk⟩;cases e with
       |normal=>exact .inr rfl
       |ret=>exact .inl rfl
       |exit i=>exact absurd rfl (jV i)
      .exact ht.elim
     .exact ht.elim
    .exact ht.elim
  .exact hk.elim
 .exact hk.elim
end
def WC(T:List TI)(fn:Func)(bx:Bx)(jk:E)(e:Ex)(τ:PS)(_:Tr P K):R:=match e with
 | .exit _=>.bad
 |_=>match fn.results.toList with
  | [.cell q t]=>match Fi T τ (.cell q t),τ.bo fn.ntmps with
   |some r,some c=>.a (Bx.le c bx)<|.a (E.le r jk) .nil
   |_,_=>.bad
  |_=>.bad
def G8(T:List TI)(fn:Func)(Tv:TypeId)(b:Nat)(l l' args:List E)(jk:E)(t:Tr P K):R:=match fn.body with
 |some c=>if Nat.ble (args.length+1) fn.ntmps then wM T c (EJ fn Tv b l args) t (WC T fn (.nN Tv b l') jk)else .bad
 |none=>.bad
def wC.FA(hT:mh P T)(hm:P.follows .mixedOrders=true){f:FuncId}{fn:Func}{Tv:TypeId}{l l' args:List E}{jk:E}(ru:∀ (vs:Array Value) (w:World),(callFunc f vs).run P w = .ok (.enter f vs) w)
 (hf:P.funcs[f]? = some fn) (ha:(l.all E.mf&&(l.all (E.nr 3)&&(args.all (E.nr 3)&&l'.all (E.nr 3))))=true) (t:Nat->Tr P K)
 (h:∀ b,G8 T fn Tv b l l' args jk (t b)=(t b).ex λ_=>.a (Bx.le (.nN Tv b l')<|.nN Tv b l')<|.a (E.le jk jk) .nil):wC P K f Tv l l' args jk:=by
 simp only[bK]at ha;have hk:=λb=>Tr.IN (fin:=λ_=>.a (Bx.le (.nN Tv b l')<|.nN Tv b l')<|.a (E.le jk jk) .nil) (λt=>⟨Bx.le.refl _,E.le.refl jk,trivial⟩)<|t b
 have hk:∀ b,(G8 T fn Tv b l l' args jk<|t b).ok:=λb=>by rw[h b];exact hk b
 cases hb:fn.body with
 |none=>
  have:=hk 0;unfold G8 at this;rw[hb]at this;exact this.elim
 |some c=>
  have hn:Nat.ble (args.length+1) fn.ntmps=true:=by
   have:=hk 0;unfold G8 at this;rw[hb]at this;simp only at this;split at this
   .assumption
   .exact this.elim
  refine wC.E4 hT hm ru hf hb (cK hn) ha.1 ha.2.1 ha.2.2.1 ha.2.2.2 λb=>?_
  have lZ:=hk b;unfold G8 at lZ;rw[hb]at lZ;simp only[hn,bH]at lZ;refine(IM hT hm lZ).mono λe τ ⟨t',ht⟩=>?_
  unfold WC at ht;split at ht
  .exact ht.elim
  .rename_i jV;split at ht
   .rename_i q t0 hr;split at ht
    .rename_i r c' h1 h2;refine⟨?_,q,t0,r,hr,h1,λbs br w v hv=>ht.2.1 _ _ _ _ hv,c',h2,λbs br L w id hk=>ht.1.2 _ _ _ _ _ hk⟩;cases e with
     |normal=>exact .inr rfl
     |ret=>exact .inl rfl
     |exit i=>exact absurd rfl (jV i)
    .exact ht.elim
   .exact ht.elim
def Sp.jP{b:Code}{e:Ex}{τ:PS}(f:Nat->PS)(lo hi:Nat)(h0:lo<=hi)(go:∀ x,(lo<=x/\x<=hi)->x<hi->Sp P K b (f x) (λe' υ=>e' = .normal/\υ=f (x+1)))
 (out:(lo<=hi/\hi<=hi)->Sp P K b (f hi) (λe' υ=>e'=e/\υ=τ)) (he:e ≠ .normal):Sp P K (.loop b) (f lo) λe' υ=>e'=e/\υ=τ:=by
 refine Sp.fam f (λx=>lo<=x/\x<=hi) (λx=>hi-x) (λx hx=>?_) lo ⟨bw _,h0⟩<|PS.le.refl _;rcases Nat.lt_or_eq_of_le hx.2 with iN|heq
 .exact Sp.aiK (x+1) (go x hx iN) ⟨aC,aC⟩ aC<|PS.le.refl _
 .subst heq;exact Sp.aiL (out hx) he<|PS.le.refl _
def iL(z:Int)(h:-9223372036854775808<=z/\z<=9223372036854775807:=by omega):Tr P K->Tr P K:=.a (p:=kC .i64 z) h
def Fo(z:Int)(h:0<=z/\z<=18446744073709551615:=by omega):Tr P K->Tr P K:=.a (p:=kC .u64 z) h
def iX(z:Int)(n:Nat)(h:0<=z/\z<n:=by omega):Tr P K->Tr P K:=.a h
def tB(d:Nat){a b:Bool}(h:a=b):Tr P K->Tr P K:=.o d<|PV.le.bool h
def ah(d:Nat)(a:Bool)(h:a=true):Tr P K->Tr P K:=tB d h
def ai(d:Nat)(a:Bool)(h:a=false):Tr P K->Tr P K:=tB d h
def tT(d:Nat)(p:Prop)[Decidable p](h:p):Tr P K->Tr P K:=.o d<|PV.le.bool<|bu h
def tF(d:Nat)(p:Prop)[Decidable p](h:¬p):Tr P K->Tr P K:=.o d<|PV.le.bool<|bn h
def bnt{b:Bool}(h:b=true):(!b)=false:=by rw[h];rfl
def bnf{b:Bool}(h:b=false):(!b)=true:=by rw[h];rfl
def rQ(p q:E)(h:p=q):Tr P K:=.r<|E.le.jq h
def rR(q:E){p:E}(h:E.le p q):Tr P K:=.r h
def ae(l:List<|Tr P K->Tr P K)(t:Tr P K):Tr P K:=l.foldr (λf t=>f t) t
def af(l:List<|Tr P K->Tr P K):Tr P K:=ae l .nil
end
end Go.Proofs.YtjkmahljfblobaaGreatDoor.Pu
namespace Go.Proofs.YtjkmahljfblobaaGreatDoor
open Go.RowKit Fp Pu
def tr(nl:Bool){f:FuncId}{fn:Func}{args:List E}{jk:E}(ru:∀ (vs:Array Value) (w:World),(callFunc f vs).run prog w = .ok (.enter f vs) w)
 (hf:prog.funcs[f]? = some fn) (t:Tr prog Tb) (h:Ko TT fn nl args jk t=t.ex λ_=>.a (E.le jk jk) .nil):il f args jk:=
 PC.FA Bj mixed OL ru hf nl t h
def ag(args:List E){f:FuncId}{ko:E}(h:il f args ko):Tr prog Tb->Tr prog Tb:=.c h
def ak{f:FuncId}{fn:Func}{args:List E}{jk:E}(ru:∀ (vs:Array Value) (w:World),(callFunc f vs).run prog w = .ok (.enter f vs) w)
 (hf:prog.funcs[f]? = some fn) (t:Tr prog Tb) (h:Ko TT fn true args jk t=t.ex λ_=>.a (E.le jk jk) .nil:=by kernel_rfl):il f args jk:=tr true ru hf t h
def an{f:FuncId}{fn:Func}{args:List E}{jk:E}(ru:∀ (vs:Array Value) (w:World),(callFunc f vs).run prog w = .ok (.enter f vs) w)
 (hf:prog.funcs[f]? = some fn) (t:Tr prog Tb) (h:Ko TT fn false args jk t=t.ex λ_=>.a (E.le jk jk) .nil:=by kernel_rfl):il f args jk:=tr false ru hf t h
noncomputable def L5(f:FuncId):Func:=(prog.funcs[f]?).getD default
noncomputable def GS(f:FuncId):Bool:=match prog.funcs[f]? with
 |some n=>!(n.name == "runtime.NumGoroutine")&&n.body.isSome
 |none=>false
section
variable{f:FuncId}(h:GS f=true)
def So:prog.funcs[f]? = some (L5 f):=by
 unfold GS at h;unfold L5;cases e:prog.funcs[f]? with
 |none=>rw[e]at h;cases h
 |some n=>rfl
def aa3(vs:Array Value)(w:World):(callFunc f vs).run prog w = .ok (.enter f vs) w:=by
 have e:=So h;unfold GS at h;rw[e]at h;simp at h;obtain⟨h1,h2⟩:=h;obtain⟨c,hc⟩:=gJ.1 h2;simp[callFunc,e,h1,hc]
end
section
variable{f:FuncId}{args:List E}{jk:E}(t:Tr prog Tb)
def iE(h:(GS f,Ko TT (L5 f) true args jk t)=(true,t.ex λ_=>.a (E.le jk jk) .nil):=by(kernel_rfl)):il f args jk:=
 tr true (aa3 (fU h).1) (So (fU h).1) t (fU h).2
def pA(h:(GS f,Ko TT (L5 f) false args jk t)=(true,t.ex λ_=>.a (E.le jk jk) .nil):=by(kernel_rfl)):il f args jk:=
 tr false (aa3 (fU h).1) (So (fU h).1) t (fU h).2
end
def iS{c:Code}{σ τ:PS}{e:Ex}(t:Tr prog Tb)(h:wM TT c σ t (IH e τ)=t.ex λt=>Hg τ t .nil):
 Sp prog Tb c σ (λe' τ'=>e'=e/\τ'=τ):=Sp.tr Bj mixed t h
abbrev jM(k:Nat)(fn:Func)(σ:PS)(e:Ex)(τ:PS):Prop:=Sp prog Tb (.loop<|O9 k fn) σ λe' τ'=>e'=e/\τ'=τ
abbrev jC(xs:List Iv):Nat->Nat->E:=λi j=>(jS<|xs.getD i iw).getD j .any
section
variable(M:List<|List Iv)
abbrev nX:Nat->Nat->E:=λi _=>iG<|M.getD i []
abbrev jJ:Nat->Nat:=λq=>(M.getD q []).length
abbrev kK:Nat->Nat->Nat->E:=λq i j=>(jS<|(M.getD q []).getD i iw).getD j .any
end
def AF(x:Iv)(j:Nat)(hj:j<7):((jS x).getD j .any).nr 2=true:=by
 rcases j with _|_|_|_|_|_|_|j
 all_goals first|rfl|omega
def JB(xs:List Iv):(iG xs).nr 2=true:=rfl
def RE{T n:Nat}{xs:List Iv}{y:Iv}(hn:n=xs.length):
 Bx.le (.row true T (n+[y].length) 7 λi j=>if i<n then jC xs i j else(E.ky<|iG [y]) (i-n) j) (.row true T (xs++[y]).length 7<|jC<|xs++[y]):=by
 subst hn;refine .row aH λi j hi hj=>⟨.jq ?_,AF _ _ hj⟩
 by_cases h:i<xs.length
 .rw [bk h];show(jS<|xs.getD i iw).getD j .any=(jS<|(xs++[y]).getD i iw).getD j .any;congr 2;simp[bt,dh h]
 .have lg:i=xs.length:=by simp at hi;omega
  subst lg;rw[bj h,dg];show(jS y).getD j .any=(jS<|(xs++[y]).getD xs.length iw).getD j .any;congr 2;simp[bt]
section
variable(n:Nat)(c:Nat->Nat)(F:Nat->Nat->Iv)
def jl(x k:Nat):List<|List Iv:=(List.range n).map λq=>(List.range<|if q<x then c q else if q=x then k else 0).map<|F q
def rI:List<|List Iv:=(List.range n).map λq=>(List.range<|c q).map<|F q
def Ln(x k:Nat):(jl n c F x k).length=n:=by simp[jl]
end
def Io{n:Nat}{c:Nat->Nat}{F:Nat->Nat->Iv}{x k q:Nat}(h:q<n):(jl n c F x k).getD q []=(List.range<|if q<x then c q else if q=x then k else 0).map (F q):=by
 simp[jl,bt,h]
def MT{n x k:Nat}{c:Nat->Nat}{F:Nat->Nat->Iv}(h:x<n:=by omega):jJ (jl n c F x k) x=k:=by simp only[jJ,Io h];simp
def pJ{α:Type}(y:α):[y].length=1:=rfl
def tC{n i:Nat}{F:Nat->Iv}(h:i<n):((List.range n).map F).getD i iw=F i:=by
 simp[bt,h]
def NJ{T1 T0 n n':Nat}{c:Nat->Nat}{F:Nat->Nat->Iv}(hn:n=n'):Bx.le (.iM true T1 T0 n 7 (λ_=>0) (λ_ _ _=>.any) .none)<|.iM true T1 T0 n' 7 (jJ<|jl n' c F 0 0) (kK<|jl n' c F 0 0) .none:=by
 subst hn;refine .iM rfl (λk hk=>?_) (λk i j hk hi hj=>absurd hi<|bC i);show 0=((jl n c F 0 0).getD k []).length;rw[Io hk];simp
def Ku{T1 T0 n n' m x k:Nat}{c:Nat->Nat}{F:Nat->Nat->Iv}{y:Iv}(hn:n=n')(hm:m=n)(hx:x<n)(hy:y=F x k):
 Bx.le (.iM true T1 T0 n 7 (λq=>if q=x then jJ (jl m c F x k) q+[y].length else jJ (jl m c F x k) q)
  (λq i j=>if q=x then(if i<jJ (jl m c F x k) q then kK (jl m c F x k) q i j else(E.ky<|iG [y]) (i-jJ (jl m c F x k) q) j)else kK (jl m c F x k) q i j) .none)
  (.iM true T1 T0 n' 7 (jJ<|jl m c F x<|k+1) (kK<|jl m c F x<|k+1) .none):=by
 subst hn hm hy;have hl:∀ q,q<m->(if q=x then jJ (jl m c F x k) q+[F x k].length else jJ (jl m c F x k) q)=jJ (jl m c F x<|k+1) q:=by
  intro q hq;simp only[jJ,Io hq,cG,dV,cS,eC];by_cases h1:q=x
  .subst h1;simp
  .simp [h1]
 refine .iM rfl hl (λq i j hq hi hj=>⟨.jq ?_,AF _ _ hj⟩);by_cases h1:q=x
 .subst h1;rw[bk rfl]at hi ⊢;simp only[jJ,kK,Io hq,cG,dV,cS,eC,atT,bB,bH]at hi ⊢;by_cases h2:i<k
  .rw [bk h2,tC h2,tC aC]
  .have:i=k:= aC ;subst this;rw[bj h2,dg,tC aC];rfl
 .rw [bj h1]at hi ⊢;simp only[jJ,kK,Io hq,cG,dV,h1,bB]at hi ⊢
def NK{T1 T0 n n' m x:Nat}{c:Nat->Nat}{F:Nat->Nat->Iv}(hn:n=n'):Bx.le (.iM true T1 T0 n 7 (jJ<|jl m c F x<|c x) (kK<|jl m c F x<|c x) .none)<|.iM true T1 T0 n' 7 (jJ<|jl m c F (x+1) 0) (kK<|jl m c F (x+1) 0) .none:=by
 subst hn;have:jl m c F x (c x)=jl m c F (x+1) 0:=by
  unfold jl;congr 1;funext q;congr 2;by_cases h:q<x
  .rw [bk h,bk aC]
  .by_cases h2:q=x
   .subst h2;rw[bj h,bk rfl,bk aC]
   .rw [bj h,bj h2,bj aC];split<;>rfl
 rw[this];exact .refl _
def Lm(n:Nat)(c:Nat->Nat)(F:Nat->Nat->Iv):jl n c F n 0=rI n c F:=by
 unfold jl rI;apply dQ;intro q hq;rw[bk<|bN.1 hq]
def JQ{n:Nat}{M:List<|List Iv}(hn:n=M.length):E.le (.sl true n 1 λk _=>.sl true (jJ M k) 7<|kK M k)<|j9 M:=by subst hn;exact .refl _
end Go.Proofs.YtjkmahljfblobaaGreatDoor
namespace Go.Proofs.YtjkmahljfblobaaGreatDoor.Fp
section
variable {a b:Dy} {k:Int}
end
section
variable{m gm p:Nat}{e ge K:Int}(hp:1<=p)(hg:iD gm<=p)(th:-16384<=ge)(k1:K<=e)(k2:K<=ge)
def ajG
 (h:gm*2^(ge-K).toNat<=m*2^(e-K).toNat):gm*2^(ge-K).toNat<=lQ m e false p false*2^(e+ke m e p-K).toNat:=by
 have hq:lQ m e false p false=m/2^ke m e p:=by unfold lQ;simp
 rw[hq];have hm:=cW m<|2^ke m e p;have hr:=bR m<|bF (n:=ke m e p) (aE:0<2);obtain⟨k,hk⟩:∃ k,k=ke m e p:=⟨_,rfl⟩
 rw[<-hk]at hm hr ⊢;have e1:(e+(k:Int)-K).toNat=k+(e-K).toNat:= aC ;rw[e1,bE];generalize hE:2^(e-K).toNat=E at *
 have Qq:0<E:=by rw[<-hE];exact bF aE 
 have hmE:m*E<(m/2^k+1)*(2^k*E):=by
  rw[<-bI];refine dI ?_ Qq;rw[bT,bX,bQ];omega
 by_cases hc:e+k<=ge
 .
  have e2:(ge-K).toNat=(ge-(e+k)).toNat+(k+(e-K).toNat):= aC ;rw[e2,bE,bE 2 k,hE]at h ⊢;rw[<-bI]at h ⊢;generalize gm*2^(ge-(e+k)).toNat=g at *
  have:g<m/2^k+1:=by
   apply ca;intro h';have:=bU (2^k*E) (aC:m/2^k+1<=g);omega
  exact bU _ aC 
 .by_cases sG:k=0
  .subst sG;rw[cR,fS,bX];exact h
  .
   have hb:(iD m:Int)-p=k:=by unfold ke at hk;omega
   have tR:m≠0:=by intro h0;rw[h0]at hb;simp[iD]at hb;omega
   have h1:=vF tR;have h2:2^(iD m-1-k)<=m/2^k:=by
    rw[dF<|bF aE,<-bE];exact bA (bY aE<|by have:=qa tR;omega) h1
   have h3:gm<2^p:=mU.1 hg;refine bA (bU _<|dM h3)<|bA ?_ (bU _ h2);rw[<-hE,<-bE,<-bE,<-bE];exact bY aE aC 
def W7
 (h:m*2^(e-K).toNat<=gm*2^(ge-K).toNat):lQ m e false p true*2^(e+ke m e p-K).toNat<=gm*2^(ge-K).toNat:=by
 have X5:lQ m e false p false=m/2^ke m e p:=by unfold lQ;simp
 have Jd:lQ m e false p true=m/2^ke m e p+if m%2^ke m e p≠0 then 1 else 0:=by unfold lQ;simp
 have hm:=cW m<|2^ke m e p;obtain⟨k,hk⟩:∃ k,k=ke m e p:=⟨_,rfl⟩
 rw[Jd];rw[<-hk]at hm ⊢;have e1:(e+(k:Int)-K).toNat=k+(e-K).toNat:= aC ;rw[e1,bE];generalize hE:2^(e-K).toNat=E at *
 have Qq:0<E:=by rw[<-hE];exact bF aE 
 by_cases hr:m%2^k=0
 .rw [bj aC,cj,<-bI];refine bA (fL ?_) h;congr 1;rw[bQ];omega
 .rw [bk hr];have sG:k≠0:=by intro h0;rw[h0,cR,eA]at hr;exact hr rfl
  have iN:m/2^k*(2^k*E)<gm*2^(ge-K).toNat:=by
   refine bV ?_ h;rw[<-bI];refine dI ?_ Qq;rw[bQ];omega
  by_cases hc:e+k<=ge
  .have e2:(ge-K).toNat=(ge-(e+k)).toNat+(k+(e-K).toNat):= aC ;have e3:gm*2^(ge-K).toNat=gm*2^(ge-(e+k)).toNat*(2^k*E):=by rw[e2,bE,bE 2 k,hE,bI]
   rw[e3]at iN ⊢;generalize gm*2^(ge-(e+k)).toNat=g at *
   have:m/2^k<g:=aud iN;exact bU _ this
  .
   exfalso;have hb:(iD m:Int)-p=k:=by unfold ke at hk;omega
   have tR:m≠0:=by intro h0;rw[h0]at hr;simp at hr
   have h1:=vF tR;have Mm:=qa tR;have h3:gm<2^p:=mU.1 hg;have h4:gm*2^(ge-K).toNat<=2^(iD m-1)*E:=by
    refine bA (bU _<|dM h3) ?_;rw[<-hE,<-bE,<-bE];exact bY aE aC 
   have h5:2^(iD m-1-k)<=m/2^k:=by
    rw[dF<|bF aE,<-bE];exact bA (bY aE aC) h1
   have h6:2^(iD m-1)*E<=m/2^k*(2^k*E):=by
    rw[<-bI];refine bU _ ?_;have:=bU (2^k) h5;rw[<-bE]at this;exact bA (bY aE aC) this
   omega
end
def P2(k:Int):Rat:=(2:Rat)^k
def pk(k:Int):0<P2 k:=Rat.zpow_pos aE 
def sD(a b:Int):P2 (a+b)=P2 a*P2 b:=Rat.zpow_add aE a b
def Bg(n:Nat):P2 (n:Int)=((2^n:Nat):Rat):=by unfold P2;rw[Rat.zpow_natCast];simp
def OH:P2 0=1:=by have:=Bg 0;simpa using this
def HW{e k:Int}(h:k<=e):P2 e=((2^(e-k).toNat:Nat):Rat)*P2 k:=by
 rw[<-Bg,<-sD];congr 1;omega
def yr{x y:Rat}(k:Int):x*P2 k<=y*P2 k↔x<=y:=
 ⟨λh=>fV h<|pk k,λh=>cN h<|b9<|pk k⟩
def xm{m n:Nat}{e f K:Int}(h1:K<=e)(h2:K<=f):(m:Rat)*P2 e<=(n:Rat)*P2 f↔m*2^(e-K).toNat<=n*2^(f-K).toNat:=by
 rw[HW h1,HW h2,<-fz,<-fz,yr,<-dG,<-dG,dW]
def Dy.q(d:Dy):Rat:=((d.num d.e:Int):Rat)*P2 d.e
def wj{d:Dy}{k:Int}(h:rn d k):d.q=((d.num k:Int):Rat)*P2 k:=by
 unfold Dy.q;rcases h with h|h
 .rw [yz h,yz h];simp
 .rw [Na h<|cM _,HW h,<-fz,Rat.intCast_mul,eG]
def r6(a b:Dy):jN a b<=0↔a.q<=b.q:=by
 obtain⟨k,ka,kb⟩:∃ k:Int,k<=a.e/\k<=b.e:=⟨min a.e b.e,aC,aC⟩
 rw[uH (.inr ka)<|.inr kb,wj<|.inr ka,wj<|.inr kb,yr,gQ]
def aoJ(a b:Dy):(jc a b).q=a.q+b.q:=by
 obtain⟨k,ka,kb⟩:∃ k:Int,k<=a.e/\k<=b.e:=⟨min a.e b.e,aC,aC⟩
 rw[wj<|KZ (.inr ka)<|.inr kb,wj<|.inr ka,wj<|.inr kb,N6 (.inr ka)<|.inr kb,Rat.intCast_add,Rat.add_mul]
def sN(a:Dy):(ki a).q = -a.q:=by
 rw[wj<|OP<|.inr<|cM a.e,Sj,atj,atk];rfl
def tA(s:Bool)(m:Nat)(e:Int):(canon s m e).q=if s then -((m:Rat)*P2 e)else(m:Rat)*P2 e:=by
 rw[wj<|Cx<|cM e,E8<|cM e];have:(e-e).toNat=0:= aC ;rw[this];cases s<;>simp[atj,atk,eG]
def sO(a:Dy):a.q=if a.neg then -((a.m:Rat)*P2 a.e)else(a.m:Rat)*P2 a.e:=by
 unfold Dy.q Dy.num Dy.j8;have:(a.e-a.e).toNat=0:= aC ;rw[this];cases a.neg<;>simp[atj,atk,eG]
def G5(a b:Dy):(zG a b).q=a.q*b.q:=by
 unfold zG;rw[tA,sO a,sO b,sD,dG];cases a.neg<;>cases b.neg<;>simp<;>grind
def zI:iY.q=0:=by rw[sO];simp[iY]
def aoH{a b:Dy}(ha:a.nT)(hb:b.nT)(h:a.q=b.q):a=b:=by
 obtain⟨k,ka,kb⟩:∃ k:Int,k<=a.e/\k<=b.e:=⟨min a.e b.e,aC,aC⟩
 refine V9 ha hb (.inr ka) (.inr kb) ?_;rw[wj<|.inr ka,wj<|.inr kb]at h;have h1:=(yr (x:=((a.num k:Int):Rat)) (y:=((b.num k:Int):Rat)) k).1 (by rw[h];exact cQ);have h2:=(yr (x:=((b.num k:Int):Rat)) (y:=((a.num k:Int):Rat)) k).1 (by rw[h];exact cQ);rw[gQ]at h1 h2;omega
def Dz(n:Int):(jm n).q=(n:Rat):=by
 unfold jm;rw[wj (k:=0)<|OO<|cM 0,Si<|cM 0,OH];simp
def Cf(d:Dy):0<=(mi d).q/\d.q<=(mi d).q /\ -d.q<=(mi d).q/\((mi d).q=d.q\/(mi d).q = -d.q):=by
 have h:(mi d).q=(d.m:Rat)*P2 d.e:=by rw[sO];rfl
 have h0:0<=(d.m:Rat)*P2 d.e:=ct dv<|b9<|pk _;rw[h,sO d];cases d.neg<;>simp<;>grind
def xw(d:Dy):(0<d.jL↔0<d.q)/\(d.jL<0↔d.q<0):=by
 have h:=pk d.e;have hm:d.m≠0->0<(d.m:Rat)*P2 d.e:=λh0=>eZ (gR.2 aC) h
 rw[sO];unfold Dy.jL;by_cases h0:d.m=0
 .simp [h0]
 .have:=hm h0;rw[bj h0];cases d.neg<;>simp<;>grind
def Kj(a b:Dy):a.q<=(jy a b).q/\b.q<=(jy a b).q/\((jy a b).q=a.q\/(jy a b).q=b.q):=
 ⟨(r6 _ _).1<|GK a b,(r6 _ _).1<|Z3 a b,by unfold jy;split;exact .inr rfl;exact .inl rfl⟩
def Fh(a b:Dy):(jA a b).q<=a.q/\(jA a b).q<=b.q/\((jA a b).q=a.q\/(jA a b).q=b.q):=
 ⟨(r6 _ _).1<|JR a b,(r6 _ _).1<|Z8 a b,by unfold jA;split;exact .inr rfl;exact .inl rfl⟩
def GM(p:Nat)(g:Rat):Prop:=∃ (m:Nat) (e:Int),iD m<=p /\ -16384<=e/\(iD m:Int)+e<=16384/\g=(m:Rat)*P2 e
def G(p:Nat)(g:Rat):Prop:=GM p g\/GM p (-g)
def GM.J2{p:Nat}{g:Rat}(h:GM p g):0<=g:=by
 obtain⟨m,e,_,_,_,rfl⟩:=h;exact ct dv<|b9<|pk _
def Cu(p:Nat):GM p 0:=⟨0,0,by simp[uo],aC,by simp[uo],aH⟩
section
variable{p:Nat}{g:Rat}(h:G p g)
def G.neg:G p (-g):=by
 rcases h with h|h
 .exact .inr<|by rw[fW];exact h
 .exact .inl h
def G.pos(h0:0<=g):GM p g:=by
 rcases h with h|h
 .exact h
 .have:=h.J2;have:g=0:= aK ;rw[this];exact Cu p
end
def UJ(k:Nat):iD (2^k)=k+1:=Bm (bw _)<|ik aE aC
def Cz:iD 1=1:=UJ 0
section
variable {m p:Nat} {e:Int}
section
variable(hp:1<=p)
def adh(iu:p<=4096)(ho:mV m e false p false=true):
 GM p (((2^p-1:Nat):Rat)*P2 (16384-p))/\((2^p-1:Nat):Rat)*P2 (16384-p)<=(m:Rat)*P2 e/\∀ g,GM p g->g<=((2^p-1:Nat):Rat)*P2 (16384-p):=by
 have y8:2<=2^p:=by
  have:=bY (n:=2) aE hp;omega
 have hb:iD (2^p-1)=p:=by
  obtain⟨j,rfl⟩:∃ j,p=j+1:=⟨p-1,aC⟩
  have h2:2^(j+1)=2^j*2:=bM _ _;have h3:=bF (n:=j) (aE:0<2);exact Bm aC aC 
 refine⟨⟨_,_,fL hb,aC,aC,rfl⟩,?_,?_⟩
 .obtain ⟨c1,c2⟩:=LB m e p;unfold mV at ho;simp only[bK,c9]at ho;obtain⟨o1,o2⟩:=ho;have hq:=vF o1;have Mm:=qa o1;obtain⟨K,k1,k2⟩:∃ K:Int,K<=e/\K<=16384-p:=⟨min e<|16384-p,aC,aC⟩
  rw[xm k2 k1];have h1:2^(iD (lQ m e false p false)-1)*2^ke m e p<=m:=bA (bU _ hq) c1;have h2:=bU (2^(e-K).toNat) h1;rw[<-bE,<-bE]at h2;refine bA (bU _<|fm _ _)<|bA ?_ h2;rw[<-bE];exact bY aE aC 
 .rintro g ⟨gm,ge,b1,b2,b3,rfl⟩;by_cases hc:ge<=16384-p
  .have:gm<2^p:=mU.1 b1;rw[xm (K:=ge) (cM _) hc];have e0:(ge-ge).toNat=0:= aC ;rw[e0,cR,cE];exact bA (aC:gm<=2^p-1)<|gX _<|bF aE
  .rw [xm (K:=16384-p) aC<|cM _];have e0:((16384:Int)-p-(16384-p)).toNat=0:= aC ;rw[e0,cR,cE];have h1:gm<2^(16384-ge).toNat:=by
    by_cases h0:gm=0
    .rw [h0];exact bF aE 
    .exact mU.1 aC 
   have h2:=dI h1<|bF (n:=(ge-(16384-p)).toNat) (aE:0<2);by_cases hg:ge<=16384
   .rw [<-bE,show(16384-ge).toNat+(ge-(16384-(p:Int))).toNat=p by omega]at h2;omega
   .have:gm=0:=by
     rw[show(16384-ge).toNat=0 by omega]at h1;simpa using h1
    rw[this,cU];omega
def adg(ho:¬mV m e false p false=true):
 GM p (((lQ m e false p false:Nat):Rat)*P2 (e+ke m e p))/\((lQ m e false p false:Nat):Rat)*P2 (e+ke m e p)<=(m:Rat)*P2 e /\
 ∀ g,GM p g->g<=(m:Rat)*P2 e->g<=((lQ m e false p false:Nat):Rat)*P2 (e+ke m e p):=by
 obtain⟨c1,c2⟩:=LB m e p;have hk:-16384<=e+(ke m e p:Int):=by unfold ke;omega
 refine⟨?_,?_,?_⟩
 .by_cases h0:lQ m e false p false=0
  .rw [h0];simpa using Cu p
  .have hq:lQ m e false p false<2^p:=by
    have:=VQ m e p;unfold lQ;simpa using this
   unfold mV at ho;simp only[df,h0,eW,gO,fk,c9]at ho;exact⟨_,_,mU.2 hq,hk,aC,rfl⟩
 .rw [xm (K:=e) aC<|cM _];rw[show(e-e).toNat=0 by omega,show(e+(ke m e p:Int)-e).toNat=ke m e p by omega,cR,cE];exact c1
 .rintro g ⟨gm,ge,b1,b2,b3,rfl⟩ h;obtain⟨K,k1,k2⟩:∃ K:Int,K<=e/\K<=ge:=⟨min e ge,aC,aC⟩
  rw[xm k2 k1]at h;rw[xm (K:=K) k2 aC];exact ajG hp b1 b2 k1 k2 h
def Va(ho:mV m e false p true=true)(g:Rat)(hg:GM p g):¬(m:Rat)*P2 e<=g:=by
 obtain⟨gm,ge,b1,b2,b3,rfl⟩:=hg;intro h;obtain⟨K,k1,k2⟩:∃ K:Int,K<=e/\K<=ge:=⟨min e ge,aC,aC⟩
 rw[xm k1 k2]at h;have h:=W7 hp b1 b2 k1 k2 h;unfold mV at ho;simp only[bK,c9]at ho;obtain⟨o1,o2⟩:=ho;have hq:=vF o1;have Mm:=qa o1;have h3:gm<2^iD gm:=tp gm;have h4:=dI h3<|bF (n:=(ge-K).toNat) (aE:0<2);have h5:=bU (2^(e+(ke m e p:Int)-K).toNat) hq;rw[<-bE]at h4 h5;have h6:2^(iD gm+(ge-K).toNat)<=2^(iD (lQ m e false p true)-1+(e+(ke m e p:Int)-K).toNat):=bY aE aC;omega
def U9(ho:¬mV m e false p true=true):
 GM p (((lQ m e false p true:Nat):Rat)*P2 (e+ke m e p))/\(m:Rat)*P2 e<=((lQ m e false p true:Nat):Rat)*P2 (e+ke m e p) /\
 ∀ g,GM p g->(m:Rat)*P2 e<=g->((lQ m e false p true:Nat):Rat)*P2 (e+ke m e p)<=g:=by
 obtain⟨c1,c2⟩:=LB m e p;have hk:-16384<=e+(ke m e p:Int):=by unfold ke;omega
 refine⟨?_,?_,?_⟩
 .by_cases h0:lQ m e false p true=0
  .rw [h0];simpa using Cu p
  .unfold mV at ho;simp only[df,h0,eW,gO,fk,c9]at ho;rcases Nat.lt_or_eq_of_le (Vv m e false p true)with hq|hq
   .exact ⟨_,_,mU.2 hq,hk,aC,rfl⟩
   .rw [hq]at ho ⊢;rw[UJ]at ho;refine⟨1,p+(e+ke m e p),by rw[Cz];exact hp,aC,by rw[Cz];omega,?_⟩;rw[sD (p:Int),Bg p,show((1:Nat):Rat)=1 from rfl,fX]
 .rw [xm (K:=e) (cM _) aC];rw[show(e-e).toNat=0 by omega,show(e+(ke m e p:Int)-e).toNat=ke m e p by omega,cR,cE];exact c2
 .rintro g ⟨gm,ge,b1,b2,b3,rfl⟩ h;obtain⟨K,k1,k2⟩:∃ K:Int,K<=e/\K<=ge:=⟨min e ge,aC,aC⟩
  rw[xm k1 k2]at h;rw[xm (K:=K) aC k2];exact W7 hp b1 b2 k1 k2 h
end
end
section
variable(p:Nat)(v:Rat)(D:Dy)(E:Int)
def Dn:Prop:=(E=0->G p D.q/\D.q<=v)/\∀ g,G p g->g<=v->E=0/\g<=D.q
def Up:Prop:=(E=0->G p D.q/\v<=D.q)/\∀ g,G p g->v<=g->E=0/\D.q<=g
end
section
variable{p:Nat}{v w:Rat}{D:Dy}{E:Int}
def Dn.of(h:Dn p v D E)(k:∀ g,G p g->(g<=v↔g<=w)):Dn p w D E:=
 ⟨λe=>⟨(h.1 e).1,(k _ (h.1 e).1).1 (h.1 e).2⟩,λg hg hw=>h.2 g hg<|(k g hg).2 hw⟩
def Up.of(h:Up p v D E)(k:∀ g,G p g->(v<=g↔w<=g)):Up p w D E:=
 ⟨λe=>⟨(h.1 e).1,(k _ (h.1 e).1).1 (h.1 e).2⟩,λg hg hw=>h.2 g hg<|(k g hg).2 hw⟩
end
section
variable(neg:Bool)(m:Nat)(e:Int){p:Nat}(hp:1<=p)(iu:p<=4096)
def Iy:Dn p (canon neg m e).q (kD neg m e false p false)<|kn neg m e false p false:=by
 have hv:0<=(m:Rat)*P2 e:=ct dv<|b9<|pk _;rw[tA];cases neg
 .
  have hE:kn false m e false p false=0:=by unfold kn;simp
  rw[hE];unfold kD;simp only[atU,bJ,bB];by_cases ho:mV m e false p false=true
  .obtain ⟨t1,t2,t3⟩:=adh hp iu ho;rw[bk ho];(first|unfold Dn|unfold Up);rw[tA];simp only[bJ,bB];refine⟨λ_=>⟨.inl t1,t2⟩,λg hg hle=>⟨trivial,?_⟩⟩;by_cases h0:0<=g
   .exact t3 g<|hg.pos h0
   .have:=t1.J2;grind
  .obtain ⟨t1,t2,t3⟩:=adg hp ho;rw[bj ho];(first|unfold Dn|unfold Up);rw[tA];simp only[bJ,bB];refine⟨λ_=>⟨.inl t1,t2⟩,λg hg hle=>⟨trivial,?_⟩⟩;by_cases h0:0<=g
   .exact t3 g (hg.pos h0) hle
   .have:=t1.J2;grind
 .unfold kD kn;simp only[Bool.bne_false,Bool.and_true,bH];by_cases ho:mV m e false p true=true
  .rw [bk ho,bk ho];refine⟨λh=>by simp at h,λg hg hle=>?_⟩;exact absurd (show(m:Rat)*P2 e <= -g by grind)<|Va hp ho _<|hg.neg.pos aK
  .obtain ⟨t1,t2,t3⟩:=U9 hp ho;rw[bj ho,bj ho];(first|unfold Dn|unfold Up);rw[tA];simp only[bH];refine⟨λ_=>⟨.inr<|by rw[fW];exact t1,aK⟩,λg hg hle=>⟨trivial,?_⟩⟩;have:=t3 (-g) (hg.neg.pos aK) aK 
   grind
def Iz:Up p (canon neg m e).q (kD neg m e false p true)<|kn neg m e false p true:=by
 have hv:0<=(m:Rat)*P2 e:=ct dv<|b9<|pk _;rw[tA];cases neg
 .unfold kD kn;simp only[Bool.bne_true,fg,Bool.and_true,bH,bJ,bB];by_cases ho:mV m e false p true=true
  .rw [bk ho,bk ho];refine⟨λh=>by simp at h,λg hg hle=>?_⟩;exact absurd hle<|Va hp ho _<|hg.pos aK
  .obtain ⟨t1,t2,t3⟩:=U9 hp ho;rw[bj ho,bj ho];(first|unfold Dn|unfold Up);rw[tA];simp only[bJ,bB];exact⟨λ_=>⟨.inl t1,t2⟩,λg hg hle=>⟨trivial,t3 g (hg.pos aK) hle⟩⟩
 .have hE:kn true m e false p true=0:=by unfold kn;simp
  rw[hE];unfold kD;simp only[atU,bJ,bB,bH];by_cases ho:mV m e false p false=true
  .obtain ⟨t1,t2,t3⟩:=adh hp iu ho;rw[bk ho];(first|unfold Dn|unfold Up);rw[tA];simp only[bH];refine⟨λ_=>⟨.inr<|by rw[fW];exact t1,aK⟩,λg hg hle=>⟨trivial,?_⟩⟩;by_cases h0:0 <= -g
   .have:=t3 (-g)<|hg.neg.pos h0;grind
   .have:=t1.J2;grind
  .obtain ⟨t1,t2,t3⟩:=adg hp ho;rw[bj ho];(first|unfold Dn|unfold Up);rw[tA];simp only[bH];refine⟨λ_=>⟨.inr<|by rw[fW];exact t1,aK⟩,λg hg hle=>⟨trivial,?_⟩⟩;by_cases h0:0 <= -g
   .have:=t3 (-g) (hg.neg.pos h0) aK;grind
   .have:=t1.J2;grind
end
section
variable{d:Dy}(hd:d.nT){p:Nat}(hp:1<=p)(iu:p<=4096)
def zP:Dn p d.q (jd d p false)<|jI d p false:=by
 have:=Iy d.neg d.m d.e hp iu;rwa[hd.DX]at this
def zQ:Up p d.q (jd d p true)<|jI d p true:=by
 have:=Iz d.neg d.m d.e hp iu;rwa[hd.DX]at this
end
section
variable{N p:Nat}{e:Int}(hb:p<iD N)
def Qf{g:Rat}(hg:GM p g):g<=(N:Rat)*P2 e\/((N+1:Nat):Rat)*P2 e<=g:=by
 obtain⟨gm,ge,b1,b2,b3,rfl⟩:=hg;by_cases hc:e<=ge
 .rw [xm (K:=e) hc<|cM _,xm (K:=e) (cM _) hc,show(e-e).toNat=0 by omega];omega
 .left;rw[xm (K:=ge) (cM _) aC,show(ge-ge).toNat=0 by omega,cR,cE];have h1:gm<2^p:=mU.1 b1;have h2:2^p<=N:=yl.1 hb;exact bA (dM<|bV h1 h2)<|gX _<|bF aE
def UI{x y:Rat}(x1:(N:Rat)*P2 e<x)(x2:x<((N+1:Nat):Rat)*P2 e)(y1:(N:Rat)*P2 e<y)(y2:y<((N+1:Nat):Rat)*P2 e){g:Rat}(hg:G p g):
 (g<=x↔g<=y)/\(x<=g↔y<=g)/\(g <= -x↔g <= -y)/\(-x<=g ↔ -y<=g):=by
 have hv:0<=(N:Rat)*P2 e:=ct dv<|b9<|pk _;have hG:∀ g,G p g->g<=(N:Rat)*P2 e\/((N+1:Nat):Rat)*P2 e<=g:=by
  intro g hg;by_cases h0:0<=g
  .exact Qf hb<|hg.pos h0
  .left;grind
 have h1:=hG g hg;have h2:=hG (-g) hg.neg;generalize (N:Rat)*P2 e=A at *
 generalize ((N+1:Nat):Rat)*P2 e=B at *
 refine⟨?_,?_,?_,?_⟩<;>constructor<;>intro h<;>grind
end
def FT{N p:Nat}(E:Int)(hb:p<iD N)(neg up:Bool):kD neg N E true p up=kD neg (2*N+1) (E-1) false p up/\kn neg N E true p up=kn neg (2*N+1) (E-1) false p up:=by
 have h1:(2*N+1)/2^1=N:= aC ;have h:=LA (N:=2*N+1) (E:=E-1) (more:=false) (d:=1) (p:=p) neg up (by rw[h1];exact hb);have h2:decide ((2*N+1)%2^1≠0)=true:= aH ;rw[h1,h2,(aC:E-1+((1:Nat):Int)=E)]at h;exact h
def VP{a b:Dy}(b0:b.m≠0){p:Nat}(hp:1<=p)(iu:p<=4096):Dn p (a.q/b.q) (nv a b p false) (oX a b p false)/\Up p (a.q/b.q) (nv a b p true) (oX a b p true):=by
 by_cases a0:a.m=0
 .have hq:a.q=0:=by rw[sO,a0];simp
  have h0:(0:Rat)/b.q=0:=by rw[dp,Rat.zero_mul]
  unfold nv oX;rw[hq,h0,bk a0,bk a0,bk a0,bk a0];have hz:G p 0:=.inl<|Cu p;exact⟨⟨λ_=>⟨by rw[zI];exact hz,by rw[zI];exact cQ⟩,λg _ h=>⟨rfl,by rw[zI];exact h⟩⟩,⟨λ_=>⟨by rw[zI];exact hz,by rw[zI];exact cQ⟩,λg _ h=>⟨rfl,by rw[zI];exact h⟩⟩⟩
 .have hb:=PE a0 b0 p 2 aE ;unfold nv oX;rw[bj a0,bj a0,bj a0,bj a0];generalize hk:lR a b p 2=k at *
  generalize hs:(a.neg != b.neg)=s;generalize hE:a.e-b.e-(k:Int)=E0;have hB:(0:Rat)<(b.m:Rat):=gR.2 aC;have Xg:=pk b.e;have hP:=pk E0;obtain⟨w,hw⟩:∃ w:Rat,w=(a.m:Rat)*P2 a.e/((b.m:Rat)*P2 b.e):=⟨_,rfl⟩
  have Ym:w*((b.m:Rat)*P2 b.e)=(a.m:Rat)*P2 a.e:=by
   have:(b.m:Rat)*P2 b.e≠0:=by have:=eZ hB Xg;grind
   rw[hw];exact ev this
  have mY:a.q/b.q=if s then -w else w:=by
   have vf:b.q≠0:=by
    have:=eZ hB Xg;rw[sO b];cases b.neg<;>simp<;>grind
   have hq:(if s then -w else w)*b.q=a.q:=by
    rw[sO a,sO b,<-hs,<-Ym];cases a.neg<;>cases b.neg<;>simp<;>grind
   rw[<-hq,atV vf]
  have QL:=cW (a.m*2^k) b.m;have hr:=bR (a.m*2^k) (aC:0<b.m);generalize hN:a.m*2^k/b.m=N at *
  generalize hR:a.m*2^k%b.m=R at *
  have aj5:(b.m:Rat)*(N:Rat)+(R:Rat)=(a.m:Rat)*((2^k:Nat):Rat):=by rw[<-dG,<-dG,<-eH,QL]
  have hae:P2 a.e=((2^k:Nat):Rat)*P2 b.e*P2 E0:=by rw[<-Bg,<-sD,<-sD];congr 1;omega
  have ME:w*(b.m:Rat)=((b.m:Rat)*(N:Rat)+(R:Rat))*P2 E0:=by
   have:w*(b.m:Rat)*P2 b.e=((b.m:Rat)*(N:Rat)+(R:Rat))*P2 E0*P2 b.e:=by
    rw[aj5,fz,Ym,hae];grind
   have jV:P2 b.e≠0:= aK ;have h2:=congrArg (· / P2 b.e) this;simp only[atV jV]at h2;exact h2
  by_cases h0:R=0
  .have ED:w=(N:Rat)*P2 E0:=by
    rw[h0]at ME;have jV:(b.m:Rat)≠0:= aK ;have h2:w*(b.m:Rat)=((N:Rat)*P2 E0)*(b.m:Rat):=by rw[ME];simp;grind
    have h3:=congrArg (· / (b.m:Rat)) h2;simp only[atV jV]at h3;exact h3
   have hc:a.q/b.q=(canon s N E0).q:=by rw[mY,tA,ED]
   rw[hc,bn<|by simpa using h0];exact⟨Iy _ _ _ hp iu,Iz _ _ _ hp iu⟩
  .have Ar:(0:Rat)<(R:Rat):=gR.2 aC ;have hRb:(R:Rat)<(b.m:Rat):=Rat.natCast_lt_natCast.2 hr;have w1:(N:Rat)*P2 E0<w:=by
    apply aue (c:=(b.m:Rat)) _<|b9 hB;rw[ME];have:=eZ Ar hP
    grind
   have w2:w<((N+1:Nat):Rat)*P2 E0:=by
    apply aue (c:=(b.m:Rat)) _<|b9 hB;rw[ME,eH];have:=eZ (show(0:Rat)<(b.m:Rat)-(R:Rat)by grind) hP;simp
    grind
   have hh:P2 E0=2*P2 (E0-1):=by
    rw[HW (aC:E0-1<=E0),show(E0-(E0-1)).toNat=1 by omega];simp
   have v1:(N:Rat)*P2 E0<((2*N+1:Nat):Rat)*P2 (E0-1):=by
    have:=pk<|E0-1;rw[hh,eH,dG];simp;grind
   have v2:((2*N+1:Nat):Rat)*P2 (E0-1)<((N+1:Nat):Rat)*P2 E0:=by
    have:=pk<|E0-1;rw[hh,eH,dG,eH];simp;grind
   rw[bu<|by simpa using h0,(FT E0 hb s false).1,(FT E0 hb s false).2,(FT E0 hb s true).1,(FT E0 hb s true).2,mY];have A:=Iy s (2*N+1) (E0-1) hp iu;have B:=Iz s (2*N+1) (E0-1) hp iu;rw[tA]at A B;refine⟨A.of λg hg=>?_,B.of λg hg=>?_⟩
   .obtain ⟨k1,k2,k3,k4⟩:=UI hb v1 v2 w1 w2 hg;cases s
    .exact k1
    .exact k3
   .obtain ⟨k1,k2,k3,k4⟩:=UI hb v1 v2 w1 w2 hg;cases s
    .exact k2
    .exact k4
def Iv.kq(x:Iv)(r:Rat):Prop:=x.all=true\/(x.lo.q<=r/\r<=x.hi.q)
def Sub(x y:Iv):Prop:=y.all=true\/(x.all=false/\y.lo.q<=x.lo.q/\x.hi.q<=y.hi.q)
def Sub.kq{x y:Iv}(h:Sub x y){r:Rat}(k:x.kq r):y.kq r:=by
 rcases h with h|⟨h1,h2,h3⟩
 .exact .inl h
 .rcases k with k|⟨k1,k2⟩
  .rw [h1]at k;cases k
  .exact .inr ⟨aK,aK⟩
def Sub.zj{x y:Iv}(h:Sub x y)(k:y.all=false):x.all=false/\y.lo.q<=x.lo.q/\x.hi.q<=y.hi.q:=by
 rcases h with h|h
 .rw [h]at k;cases k
 .exact h
def Iv.ix.q{x:Iv}(h:x.ix):x.lo.q<=x.hi.q:=by
 rcases h with⟨_,h2,h3⟩|⟨_,_,_,h⟩
 .rw [h2,h3];exact cQ
 .exact (r6 _ _).1 h
section
variable{x:Iv}(h:x.ix)
def Iv.ix.CG:x.lo.nT/\x.hi.nT:=by
 rcases h with⟨_,h2,h3⟩|⟨_,h2,h3,_⟩
 .rw [h2,h3];exact⟨ph.canon,ph.canon⟩
 .exact ⟨h2.canon,h3.canon⟩
def Iv.ix.CX:x.kq x.lo.q:=.inr ⟨cQ,h.q⟩
def Iv.ix.F9:x.kq x.hi.q:=.inr ⟨h.q,cQ⟩
end
structure Hw(p:Nat)(S:Rat->Prop)(X:Iv):Prop where
 kq:∀ r,S r->X.kq r
 on:X.all=false->G p X.lo.q/\G p X.hi.q
 AL:∀ L U,G p L->G p U->(∀ r,S r->L<=r/\r<=U)->X.all=false/\L<=X.lo.q/\X.hi.q<=U
def OR{x y:Iv}(hx:x.ix)(hy:y.ix)(xa:x.all=false)(ya:y.all=false){p:Nat}(hp:1<=p)(iu:p<=4096):
 Hw p (λr=>∃ a b,x.kq a/\y.kq b/\r=a+b) (kO x y p):=by
 have A:=zP (DY hx.CG.1 hy.CG.1) hp iu;have B:=zQ (DY hx.CG.2 hy.CG.2) hp iu;rw[aoJ]at A B;unfold kO mF;rw[xa,ya];simp only[apV,bJ,bB];have kq:∀ r,(∃ a b,x.kq a/\y.kq b/\r=a+b)->x.lo.q+y.lo.q<=r/\r<=x.hi.q+y.hi.q:=by
  rintro r ⟨a,b,ha,hb,rfl⟩;rcases ha with ha|ha
  .rw [xa]at ha;cases ha
  .rcases hb with hb|hb
   .rw [ya]at hb;cases hb
   .grind
 have AL:∀ L U,G p L->G p U->(∀ r,(∃ a b,x.kq a/\y.kq b/\r=a+b)->L<=r/\r<=U) ->
  (jI (jc x.lo y.lo) p false=0/\L<=(jd (jc x.lo y.lo) p false).q)/\jI (jc x.hi y.hi) p true=0/\(jd (jc x.hi y.hi) p true).q<=U:=λL U hL hU h=>
  ⟨A.2 L hL (h _ ⟨_,_,hx.CX,hy.CX,rfl⟩).1,B.2 U hU (h _ ⟨_,_,hx.F9,hy.F9,rfl⟩).2⟩
 split
 .rename_i he;refine⟨λ_ _=>.inl rfl,λh=>absurd h aE,λL U hL hU h=>?_⟩;obtain⟨⟨e1,_⟩,e2,_⟩:=AL L U hL hU h;rcases he with he|he
  .exact absurd e1 he
  .exact absurd e2 he
 .rename_i he;obtain⟨a1,a2⟩:=A.1 aC;obtain⟨b1,b2⟩:=B.1 aC;refine⟨λr hr=>.inr ?_,λ_=>⟨a1,b1⟩,λL U hL hU h=>?_⟩
  .obtain ⟨h1,h2⟩:=kq r hr;exact⟨bZ a2 h1,bZ h2 b2⟩
  .obtain ⟨⟨_,e1⟩,_,e2⟩:=AL L U hL hU h;exact⟨rfl,e1,e2⟩
def K3{x y:Iv}(p:Nat)(h:x.all=true\/y.all=true):kO x y p=iw:=by
 unfold kO;rw[bk<|by rcases h with h|h<;>rw[h]<;>simp]
def DQ{x y:Iv}(hx:x.ix)(hy:y.ix){p:Nat}(hp:1<=p)(iu:p<=4096){a b:Rat}(ha:x.kq a)(hb:y.kq b):(kO x y p).kq<|a+b:=by
 cases xa:x.all
 .cases ya:y.all
  .exact (OR hx hy xa ya hp iu).kq _ ⟨a,b,ha,hb,rfl⟩
  .rw [K3 p<|.inr ya];exact .inl rfl
 .rw [K3 p<|.inl xa];exact .inl rfl
def WL{p:Nat}{D:Dy->Dy->Bool->Dy}{E:Dy->Dy->Bool->Int}{f:Rat->Rat->Rat}{x y:Iv}{S:Rat->Prop}
 (hD:∀ a b,(a=x.lo\/a=x.hi)->(b=y.lo\/b=y.hi)->Dn p (f a.q b.q) (D a b false) (E a b false)/\Up p (f a.q b.q) (D a b true) (E a b true)/\S (f a.q b.q))
 (hS:∀ r,S r->(f x.lo.q y.lo.q<=r\/f x.lo.q y.hi.q<=r\/f x.hi.q y.lo.q<=r\/f x.hi.q y.hi.q<=r)/\(r<=f x.lo.q y.lo.q\/r<=f x.lo.q y.hi.q\/r<=f x.hi.q y.lo.q\/r<=f x.hi.q y.hi.q)):
 Hw p S (qo D E x y):=by
 obtain⟨a1,a2,a3⟩:=hD x.lo y.lo (.inl rfl)<|.inl rfl;obtain⟨b1,b2,b3⟩:=hD x.lo y.hi (.inl rfl)<|.inr rfl;obtain⟨c1,c2,c3⟩:=hD x.hi y.lo (.inr rfl)<|.inl rfl;obtain⟨d1,d2,d3⟩:=hD x.hi y.hi (.inr rfl)<|.inr rfl;have AL:∀ L U,G p L->G p U->(∀ r,S r->L<=r/\r<=U) ->
  ((E x.lo y.lo false=0/\L<=(D x.lo y.lo false).q)/\E x.lo y.lo true=0/\(D x.lo y.lo true).q<=U)/\((E x.lo y.hi false=0/\L<=(D x.lo y.hi false).q)/\E x.lo y.hi true=0/\(D x.lo y.hi true).q<=U) /\
  ((E x.hi y.lo false=0/\L<=(D x.hi y.lo false).q)/\E x.hi y.lo true=0/\(D x.hi y.lo true).q<=U)/\((E x.hi y.hi false=0/\L<=(D x.hi y.hi false).q)/\E x.hi y.hi true=0/\(D x.hi y.hi true).q<=U):=λL U hL hU h=>
  ⟨⟨a1.2 L hL (h _ a3).1,a2.2 U hU (h _ a3).2⟩,⟨b1.2 L hL (h _ b3).1,b2.2 U hU (h _ b3).2⟩,⟨c1.2 L hL (h _ c3).1,c2.2 U hU (h _ c3).2⟩,⟨d1.2 L hL (h _ d3).1,d2.2 U hU (h _ d3).2⟩⟩
 unfold qo;split
 .rename_i he;obtain⟨⟨e1,e2⟩,⟨e3,e4⟩,⟨e5,e6⟩,⟨e7,e8⟩⟩:=he;obtain⟨ga,la⟩:=a1.1 e1;obtain⟨gA,lA⟩:=a2.1 e2;obtain⟨gb,lb⟩:=b1.1 e3;obtain⟨gB,lB⟩:=b2.1 e4;obtain⟨gc,lc⟩:=c1.1 e5;obtain⟨gC,lC⟩:=c2.1 e6;obtain⟨gd,ld⟩:=d1.1 e7;obtain⟨gD,lD⟩:=d2.1 e8;obtain⟨m1,m2,m3⟩:=Fh (D x.lo y.lo false)<|D x.lo y.hi false;obtain⟨m4,m5,m6⟩:=Fh (jA (D x.lo y.lo false)<|D x.lo y.hi false)<|D x.hi y.lo false;obtain⟨m7,m8,m9⟩:=Fh (jA (jA (D x.lo y.lo false)<|D x.lo y.hi false)<|D x.hi y.lo false)<|D x.hi y.hi false;obtain⟨n1,n2,n3⟩:=Kj (D x.lo y.lo true)<|D x.lo y.hi true;obtain⟨n4,n5,n6⟩:=Kj (jy (D x.lo y.lo true)<|D x.lo y.hi true)<|D x.hi y.lo true;obtain⟨n7,n8,n9⟩:=Kj (jy (jy (D x.lo y.lo true)<|D x.lo y.hi true)<|D x.hi y.lo true)<|D x.hi y.hi true;generalize (jA (D x.lo y.lo false)<|D x.lo y.hi false)=u1 at *
  generalize (jA u1<|D x.hi y.lo false)=u2 at *
  generalize (jA u2<|D x.hi y.hi false)=u3 at *
  generalize (jy (D x.lo y.lo true)<|D x.lo y.hi true)=v1 at *
  generalize (jy v1<|D x.hi y.lo true)=v2 at *
  generalize (jy v2<|D x.hi y.hi true)=v3 at *
  refine⟨λr hr=>.inr ?_,λ_=>⟨?_,?_⟩,λL U hL hU h=>⟨rfl,?_,?_⟩⟩
  .obtain ⟨h1,h2⟩:=hS r hr;constructor
   .show u3.q<=r;rcases h1 with h1|h1|h1|h1<;>grind
   .show r<=v3.q;rcases h2 with h1|h1|h1|h1<;>grind
  .show G p u3.q;rcases m9 with h|h
   .rw [h];rcases m6 with h|h
    .rw [h];rcases m3 with h|h<;>rw[h]<;>assumption
    .rw [h];assumption
   .rw [h];assumption
  .show G p v3.q;rcases n9 with h|h
   .rw [h];rcases n6 with h|h
    .rw [h];rcases n3 with h|h<;>rw[h]<;>assumption
    .rw [h];assumption
   .rw [h];assumption
  .obtain ⟨⟨⟨_,k1⟩,_,k2⟩,⟨⟨_,k3⟩,_,k4⟩,⟨⟨_,k5⟩,_,k6⟩,⟨⟨_,k7⟩,_,k8⟩⟩:=AL L U hL hU h;show L<=u3.q;rcases m9 with h|h
   .rw [h];rcases m6 with h|h
    .rw [h];rcases m3 with h|h<;>rw[h]<;>assumption
    .rw [h];assumption
   .rw [h];assumption
  .obtain ⟨⟨⟨_,k1⟩,_,k2⟩,⟨⟨_,k3⟩,_,k4⟩,⟨⟨_,k5⟩,_,k6⟩,⟨⟨_,k7⟩,_,k8⟩⟩:=AL L U hL hU h;show v3.q<=U;rcases n9 with h|h
   .rw [h];rcases n6 with h|h
    .rw [h];rcases n3 with h|h<;>rw[h]<;>assumption
    .rw [h];assumption
   .rw [h];assumption
 .rename_i he;refine⟨λ_ _=>.inl rfl,λh=>absurd h aE,λL U hL hU h=>?_⟩;obtain⟨⟨⟨k1,_⟩,k2,_⟩,⟨⟨k3,_⟩,k4,_⟩,⟨⟨k5,_⟩,k6,_⟩,⟨⟨k7,_⟩,k8,_⟩⟩:=AL L U hL hU h;exact absurd ⟨⟨k1,k2⟩,⟨k3,k4⟩,⟨k5,k6⟩,k7,k8⟩ he
def Vr{a b c d x y:Rat}(h1:a<=x)(h2:x<=b)(h3:c<=y)(h4:y<=d):
 (a*c<=x*y\/a*d<=x*y\/b*c<=x*y\/b*d<=x*y)/\(x*y<=a*c\/x*y<=a*d\/x*y<=b*c\/x*y<=b*d):=by
 have mono:∀ {u v w:Rat},u<=v->0<=w->u*w<=v*w:=λh k=>cN h k
 have anti:∀ {u v w:Rat},u<=v->w<=0->v*w<=u*w:=by
  intro u v w h k;have:=mono h<|show 0 <= -w by grind
  grind
 have side:∀ t:Rat,(t*c<=t*y\/t*d<=t*y)/\(t*y<=t*c\/t*y<=t*d):=by
  intro t;rw[fY t c,fY t d,fY t y];rcases Rat.le_total (a:=0) (b:=t)with h|h
  .exact ⟨.inl<|mono h3 h,.inr<|mono h4 h⟩
  .exact ⟨.inr<|anti h4 h,.inl<|anti h3 h⟩
 have sa:=side a;have sb:=side b;rcases Rat.le_total (a:=0) (b:=y)with h|h
 .have m1:=mono h1 h;have m2:=mono h2 h;clear mono anti side;constructor
  .rcases sa.1 with k|k<;>grind
  .rcases sb.2 with k|k<;>grind
 .have m1:=anti h1 h;have m2:=anti h2 h;clear mono anti side;constructor
  .rcases sb.1 with k|k<;>grind
  .rcases sa.2 with k|k<;>grind
def Iv.kq.jX{x:Iv}{r:Rat}(h:x.kq r)(k:x.all=false):x.lo.q<=r/\r<=x.hi.q:=by
 rcases h with h|h
 .rw [k]at h;cases h
 .exact h
def CF(a b:Dy):(zG a b).nT:=uV _ _ _
def RY{x y:Iv}(hx:x.ix)(hy:y.ix)(xa:x.all=false)(ya:y.all=false){p:Nat}(hp:1<=p)(iu:p<=4096):
 Hw p (λr=>∃ a b,x.kq a/\y.kq b/\r=a*b) (kf x y p):=by
 unfold kf;rw[xa,ya];simp only[apV,bJ,bB];refine WL (f:=λa b=>a*b) (λa b ha hb=>⟨?_,?_,a.q,b.q,?_,?_,rfl⟩) λr ⟨a,b,ha,hb,e⟩=>?_
 .have:=zP (CF a b) hp iu;rwa[G5]at this
 .have:=zQ (CF a b) hp iu;rwa[G5]at this
 .rcases ha with rfl|rfl;exact hx.CX;exact hx.F9
 .rcases hb with rfl|rfl;exact hy.CX;exact hy.F9
 .obtain ⟨h1,h2⟩:=ha.jX xa;obtain⟨h3,h4⟩:=hb.jX ya;rw[e];exact Vr h1 h2 h3 h4
def M1{x y:Iv}(p:Nat)(h:x.all=true\/y.all=true):kf x y p=iw:=by
 unfold kf;rw[bk<|by rcases h with h|h<;>rw[h]<;>simp]
def RZ{x y:Iv}(hx:x.ix)(hy:y.ix){p:Nat}(hp:1<=p)(iu:p<=4096){a b:Rat}(ha:x.kq a)(hb:y.kq b):(kf x y p).kq<|a*b:=by
 cases xa:x.all
 .cases ya:y.all
  .exact (RY hx hy xa ya hp iu).kq _ ⟨a,b,ha,hb,rfl⟩
  .rw [M1 p<|.inr ya];exact .inl rfl
 .rw [M1 p<|.inl xa];exact .inl rfl
def Rt{b c:Rat}(h0:0<c)(h:c<=b):b⁻¹<=c⁻¹:=by
 have hb:0<b:= aK ;apply fV (c:=b*c) _<|eZ hb h0;have e1:b⁻¹*(b*c)=c:=by rw[<-fz,atl _ aK,fX]
 have e2:c⁻¹*(b*c)=b:=by rw[fY b c,<-fz,atl _ aK,fX]
 rw[e1,e2];exact h
def aaI(b:Rat):(-b)⁻¹ = -b⁻¹:=by
 by_cases h:b=0
 .rw [h];simp
 .have h1:(-b)⁻¹*(-b)=1:=atl _ aK ;have h2:b⁻¹*b=1:=atl _ h;have h3:(-b)⁻¹*(-b)*b⁻¹=b⁻¹:=by rw[h1,fX]
  grind
def YO{b c:Rat}(h0:b<0)(h:c<=b):b⁻¹<=c⁻¹:=by
 have:=Rt (b:=-c) (c:=-b) aK aK;rw[aaI,aaI]at this
 grind
def acy{y:Iv}(_hy:y.ix)(h:nQ y≠0):y.all=false/\(0<y.lo.q\/y.hi.q<0):=by
 unfold nQ at h;cases ya:y.all
 .rw [ya]at h;simp only[bJ,bB]at h;refine⟨rfl,?_⟩;split at h
  .rename_i h1;exact .inl<|(xw _).1.1 h1
  .split at h
   .rename_i h1;exact .inr<|(xw _).2.1 h1
   .exact absurd rfl h
 .rw [ya]at h;simp at h
def Ta{y:Iv}(ya:y.all=false)(h:0<y.lo.q\/y.hi.q<0):nQ y≠0:=by
 unfold nQ;rw[ya];simp only[bJ,bB];rcases h with h|h
 .rw [bk<|(xw _).1.2 h];decide
 .split
  .decide
  .rw [bk<|(xw _).2.2 h];decide
def amw{d:Dy}(h:d.q≠0):d.m≠0:=by
 intro h0;apply h;rw[sO,h0];simp
def LC{x y:Iv}(hx:x.ix)(hy:y.ix)(xa:x.all=false)(hs:nQ y≠0){p:Nat}(hp:1<=p)(iu:p<=4096):
 Hw p (λr=>∃ a b,x.kq a/\y.kq b/\r=a/b) (lv x y p):=by
 obtain⟨ya,h0⟩:=acy hy hs;have hle:=hy.q;unfold lv;rw[xa,ya,bn hs];simp only[apV,bJ,bB];refine WL (f:=λa b=>a/b) (λa b ha hb=>?_) λr ⟨a,b,ha,hb,e⟩=>?_
 .have b0:b.m≠0:=amw (by rcases hb with rfl|rfl<;>grind);obtain⟨h1,h2⟩:=VP (a:=a) b0 hp iu;refine⟨h1,h2,a.q,b.q,?_,?_,rfl⟩
  .rcases ha with rfl|rfl;exact hx.CX;exact hx.F9
  .rcases hb with rfl|rfl;exact hy.CX;exact hy.F9
 .obtain ⟨h1,h2⟩:=ha.jX xa;obtain⟨h3,h4⟩:=hb.jX ya;have i1:y.hi.q⁻¹<=b⁻¹:=by
   rcases h0 with h0|h0
   .exact Rt aK h4
   .exact YO aK h4
  have i2:b⁻¹<=y.lo.q⁻¹:=by
   rcases h0 with h0|h0
   .exact Rt h0 h3
   .exact YO aK h3
  obtain⟨k1,k2⟩:=Vr h1 h2 i1 i2;rw[e];simp only[dp];exact⟨aK,aK⟩
def ID{x y:Iv}(p:Nat)(h:x.all=true\/nQ y=0):lv x y p=iw:=by
 unfold lv;rw[bk<|by rcases h with h|h<;>rw[h]<;>simp]
def LD{x y:Iv}(hx:x.ix)(hy:y.ix){p:Nat}(hp:1<=p)(iu:p<=4096){a b:Rat}(ha:x.kq a)(hb:y.kq b):(lv x y p).kq<|a/b:=by
 cases xa:x.all
 .by_cases hs:nQ y=0
  .rw [ID p<|.inr hs];exact .inl rfl
  .exact (LC hx hy xa hs hp iu).kq _ ⟨a,b,ha,hb,rfl⟩
 .rw [ID p<|.inl xa];exact .inl rfl
def EW{x:Iv}(h:x.lo.q<=x.hi.q):x.hi.q<=(mq x).q /\ -x.lo.q<=(mq x).q/\((mq x).q=x.hi.q\/(mq x).q = -x.lo.q):=by
 obtain⟨a1,a2,a3,a4⟩:=Cf x.lo;obtain⟨b1,b2,b3,b4⟩:=Cf x.hi;obtain⟨c1,c2,c3⟩:=Kj (mi x.lo)<|mi x.hi;unfold mq;generalize (jy (mi x.lo)<|mi x.hi).q=M at *
 refine⟨aK,aK,?_⟩;rcases c3 with c3|c3
 .rcases a4 with a4|a4
  .grind
  .grind
 .rcases b4 with b4|b4
  .grind
  .grind
def amz{x x':Iv}(hx:x.ix)(w9:x'.ix)(h:Sub x x')(xa:x'.all=false):(mq x).q<=(mq x').q:=by
 obtain⟨h1,h2,h3⟩:=h.zj xa;obtain⟨a1,a2,a3⟩:=EW hx.q;obtain⟨b1,b2,b3⟩:=EW w9.q
 grind
def RU{x:Iv}(hx:x.ix)(xa:x.all=false):0<=(pT x).q/\(x.lo.q<=0->0<=x.hi.q->(pT x).q=0)/\(0<x.lo.q->(pT x).q=x.lo.q)/\(x.hi.q<0->(pT x).q = -x.hi.q):=by
 have hle:=hx.q;obtain⟨a1,a2,a3,a4⟩:=Cf x.lo;obtain⟨b1,b2,b3,b4⟩:=Cf x.hi;obtain⟨c1,c2,c3⟩:=Fh (mi x.lo)<|mi x.hi;by_cases hs:nQ x=0
 .have hn:¬(0<x.lo.q\/x.hi.q<0):=λh=>Ta xa h hs
  have:pT x=iY:=by unfold pT;rw[bk hs]
  rw[this,zI];refine⟨cQ,λ_ _=>rfl,λh=>absurd (.inl h) hn,λh=>absurd (.inr h) hn⟩
 .obtain ⟨_,h0⟩:=acy hx hs;have:pT x=jA (mi x.lo) (mi x.hi):=by unfold pT;rw[bj hs]
  rw[this];generalize (jA (mi x.lo)<|mi x.hi).q=M at *
  generalize (mi x.lo).q=u at *
  generalize (mi x.hi).q=v at *
  refine⟨aK,aK,aK,aK⟩
def asW{x x':Iv}(hx:x.ix)(w9:x'.ix)(h:Sub x x'):Sub (kp x)<|kp x':=by
 cases xa:x'.all
 .obtain ⟨h1,h2,h3⟩:=h.zj xa;unfold kp;rw[h1,xa];refine .inr ⟨rfl,?_,amz hx w9 h xa⟩;show(pT x').q<=(pT x).q;obtain⟨a1,a2,a3,a4⟩:=RU hx h1;obtain⟨b1,b2,b3,b4⟩:=RU w9 xa;have:=hx.q;by_cases c1:0<x'.lo.q
  .rw [b3 c1,a3 aK];exact h2
  .by_cases c2:x'.hi.q<0
   .rw [b4 c2,a4 aK];grind
   .rw [b2 aK aK];exact a1
 .refine .inl ?_;unfold kp;rw[bk xa];rfl
def K0{x:Iv}(hx:x.ix){r s:Rat}(h:x.kq r)(hs:s=r/\0<=r\/s = -r/\r<=0):(kp x).kq s:=by
 unfold kp;cases xa:x.all
 .obtain ⟨h1,h2⟩:=h.jX xa;obtain⟨a1,a2,a3⟩:=EW hx.q;obtain⟨b1,b2,b3,b4⟩:=RU hx xa;refine .inr ⟨?_,?_⟩
  .show (pT x).q<=s;by_cases c1:0<x.lo.q
   .rw [b3 c1];grind
   .by_cases c2:x.hi.q<0
    .rw [b4 c2];grind
    .rw [b2 aK aK];grind
  .show s<=(mq x).q
   grind
 .exact .inl rfl
def SB(d:Dy):(jx d).kq d.q:=.inr ⟨cQ,cQ⟩
def Cb(n:Int):(jj n).kq (n:Rat):=by have:=SB<|jm n;rwa[Dz]at this
def jE(d:Dy)(p:Nat)(up:Bool):Nat->Dy×Int
 | 0=>(jd d p up,jI d p up)
 |k+1=>if(jE d p up k).2≠0 then jE d p up k else(jd (zG (jE d p up k).1 d) p up,jI (zG (jE d p up k).1 d) p up)
def lV(d:Dy)(n p:Nat)(up:Bool):Dy×Int:=if d.jL<0 then(ki (jE (ki d) p (!up)<|n-1).1,(jE (ki d) p (!up)<|n-1).2)else jE d p up (n-1)
def wi(x:Iv)(n:Nat):Iv:=if n%2=0 then kp x else x
def rE(x:Iv)(n p:Nat):Iv:=
 if x.all then iw else if n=0 then jx ⟨false,1,0⟩
 else mF (lV (wi x n).lo n p false).1 (lV (wi x n).lo n p false).2 (lV (wi x n).hi n p true).1 (lV (wi x n).hi n p true).2
def oK(r:Rat):Nat->Rat
 | 0=>1
 |n+1=>oK r n*r
def Fm{r:Rat}(h:0<=r):∀ n,0<=oK r n
 | 0=>by show(0:Rat)<=1;decide
 |n+1=>ct (Fm h n) h
def Kw{a b:Rat}(h0:0<=a)(h:a<=b):∀ n,oK a n<=oK b n
 | 0=>cQ
 |n+1=>by
  have ih:=Kw h0 h n;have m1:=cN ih h0;have m2:=dc h<|Fm (bZ h0 h) n;exact bZ m1 m2
def Fl(r:Rat):∀ n,oK (-r) n=if n%2=0 then oK r n else -oK r n
 | 0=>rfl
 |n+1=>by
  have ih:=Fl r n;simp only[oK,ih];have:n%2=0\/n%2=1:= aC ;rcases this with h|h
  .have h':(n+1)%2=1:= aC ;rw[h,h'];simp;grind
  .have h':(n+1)%2=0:= aC ;rw[h,h'];simp;grind
def SZ{a b:Rat}{n:Nat}(hn:n%2=1)(h:a<=b):oK a n<=oK b n:=by
 by_cases h0:0<=a
 .exact Kw h0 h n
 .have ea:=Fl (-a) n;rw[fW,hn]at ea;simp only[atm,bB]at ea;by_cases hb:0<=b
  .have h1:=Fm (show 0 <= -a by grind) n;have h2:=Fm hb n
   grind
  .have eb:=Fl (-b) n;rw[fW,hn]at eb;simp only[atm,bB]at eb;have:=Kw (show 0 <= -b by grind) (show -b <= -a by grind) n
   grind
def SE{d:Dy}(hd:d.nT)(h0:0<=d.q){p:Nat}(hp:1<=p)(iu:p<=4096):∀ k,(jE d p false k).2=0->0<=(jE d p false k).1.q/\(jE d p false k).1.q<=oK d.q (k+1)
 | 0,he=>by
  have A:=zP hd hp iu;refine⟨(A.2 0 (.inl<|Cu p) h0).2,?_⟩;have:=(A.1 he).2;simp only[oK,fX];exact this
 |k+1,he=>by
  by_cases hk:(jE d p false k).2≠0
  .exfalso;simp only[jE,bk hk]at he;exact hk he
  .have sG:(jE d p false k).2=0:= aC ;obtain⟨i1,i2⟩:=SE hd h0 hp iu k sG;have A:=zP (CF (jE d p false k).1 d) hp iu;rw[G5]at A;simp only[jE,bj hk]at he ⊢;refine⟨(A.2 0 (.inl<|Cu p)<|ct i1 h0).2,?_⟩;have h1:=(A.1 he).2;have h2:=cN i2 h0;exact bZ h1 h2
def SH{d:Dy}(hd:d.nT)(h0:0<=d.q){p:Nat}(hp:1<=p)(iu:p<=4096):∀ k,(jE d p true k).2=0->oK d.q (k+1)<=(jE d p true k).1.q
 | 0,he=>by
  have A:=zQ hd hp iu;have:=(A.1 he).2;simp only[oK,fX];exact this
 |k+1,he=>by
  by_cases hk:(jE d p true k).2≠0
  .exfalso;simp only[jE,bk hk]at he;exact hk he
  .have sG:(jE d p true k).2=0:= aC ;have i2:=SH hd h0 hp iu k sG;have A:=zQ (CF (jE d p true k).1 d) hp iu;rw[G5]at A;simp only[jE,bj hk]at he ⊢;have h1:=(A.1 he).2;have h2:=cN i2 h0;exact bZ h2 h1
section
variable{d:Dy}(hd:d.nT){n p:Nat}(hn:1<=n)(hs:0<=d.q\/n%2=1)(hp:1<=p)(iu:p<=4096)
def ahE(he:(lV d n p false).2=0):(lV d n p false).1.q<=oK d.q n:=by
 unfold lV at he ⊢;by_cases h:d.jL<0
 .rw [bk h]at he ⊢;have hq:=(xw d).2.1 h;have C6:=hs.resolve_left aK;have:=SH (R8 hd) (by rw[sN];grind) hp iu (n-1) he;rw[(aC:n-1+1=n),sN,Fl,C6]at this;simp only[atm,bB]at this;show(ki _).q<=_;rw[sN];simp only[fg]
  grind
 .rw [bj h]at he ⊢;have h0:0<=d.q:=by
   apply dX.1;intro iN;exact h<|(xw d).2.2 iN
  have:=(SE hd h0 hp iu (n-1) he).2;rwa[(aC:n-1+1=n)]at this
def ahF(he:(lV d n p true).2=0):oK d.q n<=(lV d n p true).1.q:=by
 unfold lV at he ⊢;by_cases h:d.jL<0
 .rw [bk h]at he ⊢;have hq:=(xw d).2.1 h;have C6:=hs.resolve_left aK;have:=(SE (R8 hd) (by rw[sN];grind) hp iu (n-1) he).2;rw[(aC:n-1+1=n),sN,Fl,C6]at this;simp only[atm,bB]at this;show _<=(ki _).q;rw[sN];simp only[fI]
  grind
 .rw [bj h]at he ⊢;have h0:0<=d.q:=by
   apply dX.1;intro iN;exact h<|(xw d).2.2 iN
  have:=SH hd h0 hp iu (n-1) he;rwa[(aC:n-1+1=n)]at this
end
def aoF{x:Iv}(hx:x.ix){n p:Nat}(hp:1<=p)(iu:p<=4096){r:Rat}(h:x.kq r):(rE x n p).kq<|oK r n:=by
 unfold rE;cases xa:x.all
 .simp only[bJ,bB];by_cases hn:n=0
  .rw [bk hn];subst hn;have e:(⟨false,1,0⟩:Dy).q=1:= aL ;refine .inr ⟨?_,?_⟩
   .show (⟨false,1,0⟩:Dy).q<=1;rw[e];exact cQ
   .show 1<=(⟨false,1,0⟩:Dy).q;rw[e];exact cQ
  .rw [bj hn];obtain⟨s,hs,vS,hsn⟩:∃ s,(wi x n).kq s/\(n%2=0->0<=(wi x n).lo.q/\0<=s)/\oK r n=oK s n:=by
    unfold wi;by_cases rS:n%2=0
    .rw [bk rS];have hl:0<=(kp x).lo.q:=by
      unfold kp;rw[xa];show 0<=(pT x).q;unfold pT;split
      .rw [zI];exact cQ
      .obtain ⟨_,_,m⟩:=Fh (mi x.lo)<|mi x.hi;rcases m with m|m<;>rw[m]
       .exact (Cf x.lo).1
       .exact (Cf x.hi).1
     by_cases hr:0<=r
     .exact ⟨r,K0 hx h<|.inl ⟨rfl,hr⟩,λ_=>⟨hl,hr⟩,rfl⟩
     .refine ⟨-r,K0 hx h<|.inr ⟨rfl,aK⟩,λ_=>⟨hl,aK⟩,?_⟩;rw[Fl,bk rS]
    .rw [bj rS];exact⟨r,h,λq=>absurd q rS,rfl⟩
   have BP:(wi x n).ix:=by unfold wi;split;exact K1 hx;exact hx
   have ya:(wi x n).all=false:=by
    unfold wi;split
    .unfold kp;rw[xa];rfl
    .exact xa
   rw[hsn];generalize wi x n=y at *
   obtain⟨s1,s2⟩:=hs.jX ya;obtain⟨c1,c2⟩:=BP.CG;unfold mF;split
   .exact .inl rfl
   .rename_i he;have C6:¬n%2=0->n%2=1:=λq=> aC 
    refine .inr ⟨?_,?_⟩
    .refine bZ (ahE c1 aC ?_ hp iu aC) ?_
     .by_cases rS:n%2=0
      .exact .inl (vS rS).1
      .exact .inr<|C6 rS
     .by_cases rS:n%2=0
      .exact Kw (vS rS).1 s1 n
      .exact SZ (C6 rS) s1
    .refine bZ ?_ (ahF c2 aC ?_ hp iu aC)
     .by_cases rS:n%2=0
      .exact Kw (vS rS).2 s2 n
      .exact SZ (C6 rS) s2
     .by_cases rS:n%2=0
      .exact .inl<|bZ (vS rS).2 s2
      .exact .inr<|C6 rS
 .rw [bk rfl];exact .inl rfl
end Go.Proofs.YtjkmahljfblobaaGreatDoor.Fp
namespace Go.Proofs.YtjkmahljfblobaaGreatDoor
open Go.RowKit Fp Pu
structure jv where
 kind:Nat
 a:Nat
 b:Nat
 n:Nat
 cn:Int
 cd:Int
structure je where
 iI:Nat
 iq:List jv
 iz:List Nat
structure lY where
 tape:je
 jg:Nat
 params:List Iv
def iU:jv:=⟨0,0,0,0,0,0⟩
def zF(o:jv):List E:=[iP (o.kind:Int),iP (o.a:Int),iP (o.b:Int),iP (o.n:Int),iP o.cn,iP o.cd]
def rD(o:jv):E:=.agg<|zF o
def lG(l:List jv):E:=.sl true l.length 6 λi j=>(zF<|l.getD i iU).getD j .any
def lL(l:List Nat):E:=.sl true l.length 1 λi _=>iP (l.getD i 0:Int)
def arL(t:je):List E:=[iP (t.iI:Int),lG t.iq,lL t.iz]
def jT(t:je):E:=.agg<|arL t
def arp(s:lY):List E:=[iP (s.tape.iI:Int),lG s.tape.iq,lL s.tape.iz,iP (s.jg:Int),iG s.params]
def kS(s:lY):E:=.agg<|arp s
def qu(n d:Int):Bool:=decide (1<=d)&&(decide (d<=1073741824)&&(decide (-1073741824<=n)&&(decide (n<=1073741824)&&decide (Nat.gcd n.natAbs d.natAbs=1))))
def Nq{n d:Int}(h:qu n d=true):1<=d/\d<=1073741824 /\ -1073741824<=n/\n<=1073741824:=by
 unfold qu at h;simp only[bK,c9]at h;exact⟨h.1,h.2.1,h.2.2.1,h.2.2.2.1⟩
def IV(f:FuncId)(x:Iv)(p:Nat):Prop:=∃ y:Iv,y.ix/\il f [iA x,iP (p:Int)] (iA y)
def yH:Prop:=∀ (x:Iv) (p:Nat),x.ix->8<=p->p<=512->IV 67 x p/\IV 318 x p/\IV 319 x p/\IV 320 x p/\IV 321 x p
structure ns(o:jv)(m:Nat):Prop where
 k3:o.kind=1\/3<=o.kind
 BY:o.kind<=13
 a:if o.kind=1 then o.a=0 else o.a<m
 b:if 3<=o.kind/\o.kind<=6 then o.b<m else o.b=0
 n:if o.kind=8 then o.n<=16 else o.n=0
 c:if o.kind=1 then qu o.cn o.cd=true else o.cn=0/\o.cd=0
 f:o.kind<=8\/yH
structure wF(t:je):Prop where
 iI:t.iI<=8
 iq:t.iq.length<=200
 iz:t.iz.length<=200
 op:∀ i,i<t.iq.length->ns (t.iq.getD i iU) (t.iI+i)
 out:∀ i,i<t.iz.length->t.iz.getD i 0<t.iI+t.iq.length
def oW(l:List Iv):Prop:=∀ i,i<l.length->(l.getD i iw).ix/\(l.getD i iw).all=false
structure nK(s:lY):Prop where
 tape:wF s.tape
 s1:1<=s.jg
 s4:s.jg<=4
 iz:s.tape.iz.length=s.jg
 iI:s.tape.iI=s.jg+s.params.length
 p4:s.params.length<=4
 params:oW s.params
structure lN(n:Nat)(b:List Iv):Prop where
 len:b.length=n
 ok:oW b
def ni(l:List Iv):Bool:=(List.range l.length).any λi=>(l.getD i iw).all
def rF(d:Dy){p:Nat}(hp:1<=p)(iu:p<=4096)(up:Bool):(jd d p up).ix:=uq _ _ _ _ _ _ hp iu
def Ce(d:Dy){p:Nat}(hp:1<=p)(iu:p<=4096)(up:Bool):∀ k,(jE d p up k).1.ix
 | 0=>rF _ hp iu _
 |k+1=>by
  unfold jE;split
  .exact Ce d hp iu up k
  .exact rF _ hp iu _
def Wg(d:Dy)(n:Nat){p:Nat}(hp:1<=p)(iu:p<=4096)(up:Bool):(lV d n p up).1.ix:=by
 unfold lV;split
 .exact yx<|Ce _ hp iu _ _
 .exact Ce _ hp iu _ _
def aa5:canon false 1 0=⟨false,1,0⟩:=by
 have h1:(canon false 1 0).neg=false:= aL ;have h2:(canon false 1 0).m=1:= aL ;have h3:(canon false 1 0).e=0:= aL ;generalize canon false 1 0=d at *
 cases d;simp_all
def J7:(⟨false,1,0⟩:Dy).ix:=by
 have h2:oi<|canon false 1 0:= aL ;rw[<-aa5];exact⟨uV _ _ _,h2⟩
def abr{x:Iv}(hx:x.ix)(n:Nat){p:Nat}(hp:1<=p)(iu:p<=4096):(rE x n p).ix:=by
 have hh:=aoF hx (n:=n) hp iu hx.CX;revert hh;unfold rE;split
 .intro _;exact ln
 .split
  .intro _;exact tz J7
  .unfold mF;split
   .intro _;exact ln
   .intro hh;obtain⟨h1,h2⟩:=hh.jX rfl;exact .inr ⟨rfl,Wg _ _ hp iu _,Wg _ _ hp iu _,(r6 _ _).2<|bZ h1 h2⟩
def mS(l:List Iv):Prop:=∀ i,(l.getD i iw).ix
def mS.push{l:List Iv}(h:mS l){y:Iv}(hy:y.ix):mS<|l++[y]:=λi=>by
 rw[bt,eR];split
 .have:=h i;rwa[bt]at this
 .rcases i-l.length with _|j
  .exact hy
  .exact ln
def oW.sc{l:List Iv}(h:oW l):mS l:=λi=>by
 by_cases hi:i<l.length
 .exact (h i hi).1
 .rw [bt,bW aC];exact ln
def mS.append{l r:List Iv}(h:mS l)(k:mS r):mS<|l++r:=λi=>by
 rw[bt,eR];split
 .have:=h i;rwa[bt]at this
 .have:=k<|i-l.length;rwa[bt]at this
def ajU{l:List Iv}(h:ni l=false)(v:mS l):oW l:=λi hi=>⟨v i,by simpa using List.any_eq_false.1 h i (bN.2 hi)⟩
def Gr(x y:Iv):Iv:=if x.all||y.all then iw else⟨jA x.lo y.lo,jy x.hi y.hi,false⟩
def wA(x:Iv)(p:Nat):Dy:=jd (jc x.hi<|ki x.lo) p true
def DO(x:Iv)(p:Nat):Int:=jI (jc x.hi<|ki x.lo) p true
def akw{x y:Iv}(hx:x.ix)(hy:y.ix):(Gr x y).ix:=by
 unfold Gr;cases xa:x.all
 .cases ya:y.all
  .obtain ⟨x1,x2⟩:x.lo.ix/\x.hi.ix:=hx.jX;obtain⟨y1,y2⟩:y.lo.ix/\y.hi.ix:=hy.jX;refine .inr ⟨rfl,xo x1 y1,uI x2 y2,?_⟩;rw[r6];have hq:=hx.q;obtain⟨a1,a2,_⟩:=Fh x.lo y.lo;obtain⟨b1,b2,_⟩:=Kj x.hi y.hi
   grind
  .exact ln
 .exact ln
def V4(s:Bool)(L:List Nat)(e:Int)(hk:iW L)(hl:L.length<=256)(nb:-1000000<=e)(mv:e<=1000000):il 123 [bP s,iy L,iP e]<|iB<|canon s (val L) e:=by
 refine⟨call123,λw B vs hK hB hr=>?_⟩;obtain⟨v1,vs,rfl,h1,hr⟩:=hr.nR;obtain⟨v2,vs,rfl,h2,hr⟩:=hr.nR;obtain⟨v3,vs,rfl,h3,hr⟩:=hr.nR;obtain rfl:=hr.sK;obtain rfl:=iO.kW h1;obtain rfl:=iO.kW h3;obtain⟨A,c,rfl,s1⟩:=Cn hk h2;exact(LK s A c L e w s1 aC (by have:=qN L;unfold nf at this;omega) nb mv hK).mono λe w' h=>rd B w e w' hB h
def adj(x y:Nat):E.le (.sl false 2 1 λi j=>[E.v<|.int .u32 (x:Int),.v<|.int .u32 (y:Int)].getD (i*1+j)<|.v<|.bool false)<|iy [x,y]:=.sl λi j hi hj=>by
 obtain rfl:j=0:= aC ;obtain rfl|rfl:i=0\/i=1:= aC 
 .exact ⟨.refl _,rfl⟩
 .exact ⟨.refl _,rfl⟩
def BV(n:Nat):jm (n:Int)=canon false n 0:=by
 unfold jm qQ;rw[bn aC,gN]
def EL(n:Nat)(h:n<4294967296):(jm (n:Int)).ix:=by
 rw[BV];refine⟨uV _ _ _,?_⟩;by_cases h0:n=0
 .subst h0;exact .inl rfl
 .have:=FP (s:=false) (e:=0) h0;have hb:iD n<=32:=mU.2 h;refine .inr ⟨aC,aC,?_,aC⟩;obtain⟨h1,h2,h3,h4⟩:=this;have:=qa h3;omega
def adt(x y:Nat):val [x,y]=x+4294967296*y:=by simp[val]
abbrev pr(xs:List Dy):Nat->Nat->E:=λi j=>(kG<|xs.getD i iY).getD j .any
def mH(m:List<|List Dy):E:=.sl true m.length 1 λi _=>na<|m.getD i []
abbrev oO(M:List<|List Dy):Nat->Nat:=λq=>(M.getD q []).length
abbrev si(M:List<|List Dy):Nat->Nat->Nat->E:=λq i j=>(kG<|(M.getD q []).getD i iY).getD j .any
def Bq(x:Dy)(j:Nat)(hj:j<3):((kG x).getD j .any).nr 2=true:=by
 rcases j with _|_|_|j
 all_goals first|rfl|omega
def LM{T n n' m:Nat}{F:Nat->Dy}{y:Dy}(hm:m=n)(hn:n'=n+1)(hy:y=F n):
 Bx.le (.row true T (n+[y].length) 3 λi j=>if i<n then pr ((List.range m).map F) i j else(E.ky<|na [y]) (i-n) j) (.row true T n' 3<|pr<|(List.range<|m+1).map F):=by
 subst hm hn hy;refine .row rfl λi j hi hj=>⟨.jq ?_,Bq _ _ hj⟩
 have hi:i<m+1:=hi;by_cases h:i<m
 .rw [bk h];show(kG<|((List.range m).map F).getD i iY).getD j .any=(kG<|((List.range<|m+1).map F).getD i iY).getD j .any;congr 2;simp[bt,h,hi]
 .have lg:i=m:= aC ;subst lg;rw[bj h,dg];show(kG<|F i).getD j .any=(kG<|((List.range<|i+1).map F).getD i iY).getD j .any;congr 2;simp[bt]
def ahC{n:Nat}{xs:List Dy}(hn:n=xs.length):E.le (.sl true n 3<|pr xs)<|na xs:=by subst hn;exact .refl _
abbrev jF(A:Nat->Nat->Dy):Nat->Nat->Nat->E:=λk i j=>(kG<|A k i).getD j .any
def Cl(M:Nat->Nat->Dy)(q j:Nat)(v:Dy):Nat->Nat->Dy:=λa b=>if a=q/\b=j then v else M a b
def LG{T1 T0 n n' q i:Nat}{len len':Nat->Nat}{A A':Nat->Nat->Dy}{v:Dy}(hn:n=n')(hl:len=len')(h:A'=Cl A q i v):
 Bx.le (.iM true T1 T0 n 3 len (λk' i' j'=>if k'=q/\i'=i/\0<=j'/\j'<0+3 then(kG v).getD (j'-0) .any else jF A k' i' j') none) (.iM true T1 T0 n' 3 len' (jF A') none):=by
 subst hn hl h;refine .iM rfl (λ_ _=>rfl) λk i' j hk hi hj=>⟨.jq ?_,Bq _ _ hj⟩
 show _=(kG<|Cl A q i v k i').getD j .any;unfold Cl;by_cases h1:k=q/\i'=i
 .rw [bk ⟨h1.1,h1.2,ck _,aC⟩,bk h1];rfl
 .rw [bj λh=>h1 ⟨h.1,h.2.1⟩,bj h1]
def VW{T1 T0 n n' c r m:Nat}{A A':Nat->Nat->Dy}(hn:n=n')(h:A'=λq=>A<|pf c r q):
 Bx.le (.iM true T1 T0 n 3 (λq=>(λ_=>m)<|pf c r q) (λq=>jF A<|pf c r q) none) (.iM true T1 T0 n' 3 (λ_=>m) (jF A') none):=by
 subst hn h;exact .iM rfl (λ_ _=>rfl) λk i j hk hi hj=>⟨.refl _,Bq _ _ hj⟩
def LF{T1 T0 x x' m w n:Nat}{A:Nat->Nat->Dy}{el:Nat->Nat->E}(hx:x'=x+n)(hn:n=1)(hw:w=m)(he:∀ i j,i<m->j<3->E.le (el i j) ((kG<|A x i).getD j .any)):
 Bx.le (.iM true T1 T0 (x+n) 3 (λk=>if k<x then(λ_=>m) k else(λ_=>w) (k-x)) (λk=>if k<x then jF A k else(λ_=>el) (k-x)) none) (.iM true T1 T0 x' 3 (λ_=>m) (jF A) none):=by
 subst hx hn hw;refine .iM rfl (λk _=>by split<;>rfl) λk i j hk hi hj=>?_
 by_cases h:k<x
 .rw [bk h];exact⟨.refl _,Bq _ _ hj⟩
 .obtain rfl:k=x:= aC ;rw[bj h]at hi ⊢;exact⟨he i j hi hj,Bq _ _ hj⟩
def VV{T1 T0 x m w:Nat}{A:Nat->Nat->Dy}{el:Nat->Nat->E}(hx:x=1)(hw:w=m)(he:∀ i j,i<m->j<3->E.le (el i j) ((kG<|A 0 i).getD j .any)):
 Bx.le (.iM true T1 T0 1 3 (λ_=>w) (λ_=>el) none) (.iM true T1 T0 x 3 (λ_=>m) (jF A) none):=by
 subst hx hw;refine .iM rfl (λk _=>rfl) λk i j hk hi hj=>?_
 obtain rfl:k=0:= aC ;exact⟨he i j hi hj,Bq _ _ hj⟩
def ahb{n:Nat}{A:Nat->Nat->Dy}{M:List<|List Dy}(hn:n=M.length)(h:M=(List.range n).map λk=>(List.range n).map<|A k):E.le (.sl true n 1 λk _=>.sl true ((λ_=>n) k) 3<|jF A k)<|mH M:=by
 have hM:mH M = .sl true n 1 λi _=>na (M.getD i []):=by unfold mH;rw[<-hn]
 rw[hM];refine .sl λk q hk _=>⟨?_,rfl⟩
 have hr:M.getD k []=(List.range n).map (A k):=by rw[h];simp[bt,hk]
 rw[hr];have hd:na ((List.range n).map<|A k) = .sl true n 3 λi j=>(kG<|((List.range n).map<|A k).getD i iY).getD j .any:=by unfold na;simp
 rw[hd];refine .sl λi j hi hj=>⟨.jq ?_,Bq _ _ hj⟩
 congr 2;simp[bt,show i<n from hi]
def aho{j:Nat}:E.le (([.v<|.bool false,.v<|.slice none 0 0,.v<|.int .i64 0]:List E).getD j .any)<|(kG iY).getD j .any:=by
 have e1:E.le (.v<|.slice none 0 0)<|iy<|im 0:=by rw[px];exact .nil _ _ _
 rcases j with _|_|_|j
 .exact .refl _
 .exact e1
 .exact .refl _
 .exact .refl _
def uW(m:List<|List Dy):Nat->Nat->Dy:=λk i=>(m.getD k []).getD i iY
structure sS(m:List<|List Dy):Prop where
 n1:1<=m.length
 n8:m.length<=8
 row:∀ k,k<m.length->(m.getD k []).length=m.length
 ok:∀ k i,(uW m k i).ix
section
variable(n:Nat)(c:Nat->Nat)(F:Nat->Nat->Dy)
def lO(x k:Nat):List<|List Dy:=(List.range n).map λq=>(List.range<|if q<x then c q else if q=x then k else 0).map<|F q
def vK:List<|List Dy:=(List.range n).map λq=>(List.range<|c q).map<|F q
def agI(x k:Nat):(lO n c F x k).length=n:=by simp[lO]
end
section
variable{n:Nat}{c:Nat->Nat}{F:Nat->Nat->Dy}
def IA{x k q:Nat}(h:q<n):(lO n c F x k).getD q []=(List.range<|if q<x then c q else if q=x then k else 0).map (F q):=by
 simp[lO,bt,h]
def PH{q:Nat}(h:q<n):(vK n c F).getD q []=(List.range<|c q).map (F q):=by
 simp[vK,bt,h]
end
def ag9{n x k:Nat}{c:Nat->Nat}{F:Nat->Nat->Dy}(h:x<n):oO (lO n c F x k) x=k:=by simp only[oO,IA h];simp
def D0{n i:Nat}{F:Nat->Dy}(h:i<n):((List.range n).map F).getD i iY=F i:=by
 simp[bt,h]
def ahj{T1 T0 n n':Nat}{c:Nat->Nat}{F:Nat->Nat->Dy}(hn:n=n'):Bx.le (.iM true T1 T0 n 3 (λ_=>0) (λ_ _ _=>.any) .none)<|.iM true T1 T0 n' 3 (oO<|lO n' c F 0 0) (si<|lO n' c F 0 0) .none:=by
 subst hn;refine .iM rfl (λk hk=>?_) (λk i j hk hi hj=>absurd hi<|bC i);show 0=((lO n c F 0 0).getD k []).length;rw[IA hk];simp
def ahl{T1 T0 n n' m x k:Nat}{c:Nat->Nat}{F:Nat->Nat->Dy}{y:Dy}(hn:n=n')(hm:m=n)(hx:x<n)(hy:y=F x k):
 Bx.le (.iM true T1 T0 n 3 (λq=>if q=x then oO (lO m c F x k) q+[y].length else oO (lO m c F x k) q)
  (λq i j=>if q=x then(if i<oO (lO m c F x k) q then si (lO m c F x k) q i j else(E.ky<|na [y]) (i-oO (lO m c F x k) q) j)else si (lO m c F x k) q i j) .none)
  (.iM true T1 T0 n' 3 (oO<|lO m c F x<|k+1) (si<|lO m c F x<|k+1) .none):=by
 subst hn hm hy;have hl:∀ q,q<m->(if q=x then oO (lO m c F x k) q+[F x k].length else oO (lO m c F x k) q)=oO (lO m c F x<|k+1) q:=by
  intro q hq;simp only[oO,IA hq,cG,dV,cS,eC];by_cases h1:q=x
  .subst h1;simp
  .simp [h1]
 refine .iM rfl hl (λq i j hq hi hj=>⟨.jq ?_,Bq _ _ hj⟩);by_cases h1:q=x
 .subst h1;rw[bk rfl]at hi ⊢;simp only[oO,si,IA hq,cG,dV,cS,eC,atT,bB,bH]at hi ⊢;by_cases h2:i<k
  .rw [bk h2,D0 h2,D0 aC]
  .have:i=k:= aC ;subst this;rw[bj h2,dg,D0 aC];rfl
 .rw [bj h1]at hi ⊢;simp only[oO,si,IA hq,cG,dV,h1,bB]at hi ⊢
def ahk{T1 T0 n n' m x:Nat}{c:Nat->Nat}{F:Nat->Nat->Dy}(hn:n=n'):Bx.le (.iM true T1 T0 n 3 (oO<|lO m c F x<|c x) (si<|lO m c F x<|c x) .none)<|.iM true T1 T0 n' 3 (oO<|lO m c F (x+1) 0) (si<|lO m c F (x+1) 0) .none:=by
 subst hn;have:lO m c F x (c x)=lO m c F (x+1) 0:=by
  unfold lO;congr 1;funext q;congr 2;by_cases h:q<x
  .rw [bk h,bk aC]
  .by_cases h2:q=x
   .subst h2;rw[bj h,bk rfl,bk aC]
   .rw [bj h,bj h2,bj aC];split<;>rfl
 rw[this];exact .refl _
def agH(n:Nat)(c:Nat->Nat)(F:Nat->Nat->Dy):lO n c F n 0=vK n c F:=by
 unfold lO vK;apply dQ;intro q hq;rw[bk<|bN.1 hq]
def ahd{n:Nat}{M:List<|List Dy}(hn:n=M.length):E.le (.sl true n 1 λk _=>.sl true (oO M k) 3<|si M k)<|mH M:=by subst hn;exact .refl _
def ahc{n:Nat}{c:Nat->Nat}{F:Nat->Nat->Dy}:E.le (.sl true n 1 λk _=>.sl true (oO (lO n c F n 0) k) 3<|si (lO n c F n 0) k)<|mH<|vK n c F:=
 E.le.trans (ahd (agI _ _ _ _ _).symm) (.jq<|by rw[agH])
def sy(p:Nat):Nat:=if 512<p+48 then 512 else p+48
def amX{p:Nat}(h1:8<=p)(h2:p<=512):8<=sy p/\sy p<=512:=by unfold sy;split<;>omega
structure pj where
 A:Nat->Nat->Dy
 B:Nat->Nat->Dy
 bad:Bool
def o9(A:Nat->Nat->Dy)(col from_:Nat):Nat->Nat
 | 0=>from_
 |k+1=>if 0<jN (mi<|A (from_+k) col) (mi<|A (o9 A col from_ k) col)then from_+k else o9 A col from_ k
def Nn{A:Nat->Nat->Dy}{col from_ n:Nat}(h:from_<n):∀ k,from_+k<=n->o9 A col from_ k<n/\from_<=o9 A col from_ k
 | 0,_=>⟨h,bw _⟩
 |k+1,hk=>by
  have:=Nn (A:=A) (col:=col) h k aC;unfold o9;split<;>omega
def Ak(w c:Nat)(iJ:Dy)(s:pj):Nat->pj
 | 0=>s
 |k+1=>⟨Cl (Ak w c iJ s k).A c k<|nv ((Ak w c iJ s k).A c k) iJ w false,Cl (Ak w c iJ s k).B c k<|nv ((Ak w c iJ s k).B c k) iJ w false,
  ((Ak w c iJ s k).bad||(oX ((Ak w c iJ s k).A c k) iJ w false != 0))||(oX ((Ak w c iJ s k).B c k) iJ w false != 0)⟩
section
variable(a b:Dy)(w:Nat)
def sC:Dy:=jd (mI a b) w false
def wo:Bool:=jI (mI a b) w false != 0
def Cj:Dy:=jd (jc a<|ki b) w false
def A5:Bool:=jI (jc a<|ki b) w false != 0
end
def ur(w c i:Nat)(f:Dy)(s:pj):Nat->pj
 | 0=>s
 |k+1=>⟨Cl (ur w c i f s k).A i k<|Cj ((ur w c i f s k).A i k) (sC f ((ur w c i f s k).A c k) w) w,Cl (ur w c i f s k).B i k<|Cj ((ur w c i f s k).B i k) (sC f ((ur w c i f s k).B c k) w) w,
  ((((ur w c i f s k).bad||wo f ((ur w c i f s k).A c k) w)||A5 ((ur w c i f s k).A i k) (sC f ((ur w c i f s k).A c k) w) w)||wo f ((ur w c i f s k).B c k) w)||A5 ((ur w c i f s k).B i k) (sC f ((ur w c i f s k).B c k) w) w⟩
def DE(n w c:Nat)(s:pj):Nat->pj
 | 0=>s
 |i+1=>if i=c\/((DE n w c s i).A i c).jL=0 then DE n w c s i else ur w c i ((DE n w c s i).A i c) (DE n w c s i) n
def swS(c r:Nat)(s:pj):pj:=⟨λq=>s.A<|pf c r q,λq=>s.B<|pf c r q,s.bad⟩
def pvS(n c:Nat)(s:pj):Nat:=o9 s.A c c<|n-c
def Tk(n c:Nat)(s:pj):pj:=swS c (pvS n c s) s
def ahm(n w c:Nat)(s:pj):pj:=Ak w c ((Tk n c s).A c c) (Tk n c s) n
def Vq(n w c:Nat)(s:pj):pj:=DE n w c (ahm n w c s) n
def xz(n c:Nat)(s:pj):Bool:=decide ((s.A (pvS n c s) c).jL=0)
def yQ(n w:Nat)(s:pj):Nat->pj
 | 0=>s
 |c+1=>Vq n w c<|yQ n w s c
def uh(k i:Nat):Dy:=if i=k then jm 1 else iY
def AB(m:List<|List Dy):pj:=⟨uW m,uh,false⟩
section
variable(d:Dy)(p:Nat)
def oR:Int:=if jI d p false≠0 then jI d p false else jI d p true
def Dm:Int:=jN (nZ<|jc d<|ki<|jd d p false)<|nZ<|jc (jd d p true)<|ki d
def oG:Dy:=if oR d p≠0 then iY else if Dm d p = -1 then jd d p false else if Dm d p=1 then jd d p true
 else if(jd d p true).m=0\/((jd d p false).m≠0/\(jd d p false).e<(jd d p true).e)then jd d p true else jd d p false
end
section
variable(A:Nat->Nat->Dy)(n p:Nat)
def M7:Bool:=(List.range n).all λk=>(List.range n).all λi=>decide (oR (A k i) p=0)
def AW:List<|List Dy:=(List.range n).map λk=>(List.range n).map λi=>oG (A k i) p
end
def xf(m:List<|List Dy)(n p:Nat):Option<|List<|List Dy:=
 if(List.range n).any λc=>xz n c (yQ n (sy p) (AB m) c)then none
 else if(yQ n (sy p) (AB m) n).bad then none
 else if M7 (yQ n (sy p) (AB m) n).B n p then some (AW (yQ n (sy p) (AB m) n).B n p)else none
structure s8(s:pj):Prop where
 a:∀ k i,(s.A k i).ix
 b:∀ k i,(s.B k i).ix
def NS{M:Nat->Nat->Dy}(h:∀ k i,(M k i).ix){q j:Nat}{v:Dy}(hv:v.ix):∀ k i,(Cl M q j v k i).ix:=λk i=>by
 unfold Cl;split
 .exact hv
 .exact h k i
def VT(a b:Dy){p:Nat}(hp:1<=p)(iu:p<=4096)(up:Bool):(nv a b p up).ix:=by
 unfold nv;split
 .exact ph
 .exact uq _ _ _ _ _ _ hp iu
section
variable {w:Nat} (h1:8<=w) (h2:w<=512)
include h1 h2
def ab2(a b:Dy):(sC a b w).ix:=rF _ aC aC _
def ab3(a b:Dy):(Cj a b w).ix:=rF _ aC aC _
def LI{s:pj}(h:s8 s)(c:Nat)(iJ:Dy):∀ k,s8 (Ak w c iJ s k)
 | 0=>h
 |k+1=>⟨NS (LI h c iJ k).a<|VT _ _ aC aC _,NS (LI h c iJ k).b<|VT _ _ aC aC _⟩
def LO{s:pj}(h:s8 s)(c i:Nat)(f:Dy):∀ k,s8 (ur w c i f s k)
 | 0=>h
 |k+1=>⟨NS (LO h c i f k).a<|ab3 h1 h2 _ _,NS (LO h c i f k).b<|ab3 h1 h2 _ _⟩
def NP{s:pj}(h:s8 s)(n c:Nat):∀ i,s8 (DE n w c s i)
 | 0=>h
 |i+1=>by
  unfold DE;split
  .exact NP h n c i
  .exact LO h1 h2 (NP h n c i) _ _ _ _
omit h1 h2 in
def acV{s:pj}(h:s8 s)(c r:Nat):s8<|swS c r s:=⟨λk i=>h.a _ i,λk i=>h.b _ i⟩
def agp{s:pj}(h:s8 s)(n c:Nat):s8<|Vq n w c s:=NP h1 h2 (LI h1 h2 (acV h _ _) _ _ _) _ _ _
def Vf{s:pj}(h:s8 s)(n:Nat):∀ c,s8 (yQ n w s c)
 | 0=>h
 |c+1=>agp h1 h2 (Vf h n c) n c
end
def ase(k i:Nat):(uh k i).ix:=by
 unfold uh;split
 .exact EL 1 aE 
 .exact ph
def akD{m:List<|List Dy}(h:∀ k i,((m.getD k []).getD i iY).ix):s8<|AB m:=⟨h,ase⟩
def anw(d:Dy){p:Nat}(h1:1<=p)(h2:p<=4096):(oG d p).ix:=by
 unfold oG;split
 .exact ph
 .split
  .exact rF _ h1 h2 _
  .split
   .exact rF _ h1 h2 _
   .split
    .exact rF _ h1 h2 _
    .exact rF _ h1 h2 _
def akO{m:List<|List Dy}{n p:Nat}{y:List<|List Dy}(h:xf m n p=some y):y.length=n/\(∀ k,k<n->(y.getD k []).length=n)/\∀ k i,1<=p->p<=4096->((y.getD k []).getD i iY).ix:=by
 unfold xf at h;split at h
 .cases h
 .split at h
  .cases h
  .split at h
   .cases h;unfold AW;refine⟨aH,λk hk=>by simp[bt,hk],λk i h1 h2=>?_⟩;by_cases hk:k<n
    .by_cases hi:i<n
     .simp only[bt];simp only[cC,fT hk,cA,gI,fT hi];exact anw _ h1 h2
     .simp only[bt];simp only[cC,fT hk,cA,gI];rw[bW<|by simpa using Nat.not_lt.1 hi];exact ph
    .simp only[bt];rw[bW (l:=(List.range n).map _)<|by simpa using Nat.not_lt.1 hk];exact ph
   .cases h
def Fp.nD(X Y:Nat->Iv)(p:Nat):Nat->Iv
 | 0=>kf (X 0) (Y 0) p
 |k+1=>kO (nD X Y p k) (kf (X<|k+1) (Y<|k+1) p) p
def PF(X Y:Nat->Iv){p:Nat}(hp:1<=p)(iu:p<=4096):∀ k,(nD X Y p k).ix
 | 0=>pI _ _ hp iu
 |k+1=>pN (PF X Y hp iu k) (pI _ _ hp iu) hp iu
def WJ(x y:Iv)(p:Nat):∀ (a b:List Iv) (X Y:Nat->Iv) (s:Nat),a.length=b.length->(∀ i,i<a.length->a.getD i iw=X (s+1+i))->(∀ i,i<b.length->b.getD i iw=Y (s+1+i)) ->
 (a.zip b).foldl (λs q=>kO s (kf q.1 q.2 p) p) (nD X Y p s)=nD X Y p (s+a.length)
 | [],[],X,Y,s,_,_,_=>rfl
 | [],_::_,_,_,_,h,_,_=>by simp at h
 |_::_,[],_,_,_,h,_,_=>by simp at h
 |u::a,v::b,X,Y,s,h,h1,h2=>by
  have e1:u=X (s+1):=h1 0 aH;have e2:v=Y (s+1):=h2 0 aH;rw[List.zip_cons_cons,List.foldl_cons];have:kO (nD X Y p s) (kf u v p) p=nD X Y p (s+1):=by rw[e1,e2];rfl
  rw[this,WJ x y p a b X Y (s+1) (by simpa using h) (λi hi=>by
   have:=h1 (i+1) aN;rw[(aC:s+1+1+i=s+1+(i+1)),<-this];rfl) (λi hi=>by
   have:=h2 (i+1) aN;rw[(aC:s+1+1+i=s+1+(i+1)),<-this];rfl)]
  congr 1;simp;omega
def ahg{xs ys:List Iv}{p n:Nat}(h1:xs.length=n+1)(h2:ys.length=n+1):LH xs ys p=nD (λq=>xs.getD q iw) (λq=>ys.getD q iw) p n:=by
 match xs,ys,h1,h2 with
 |x::a,y::b,h1,h2=>
  have ha:a.length=n:=by simpa using h1
  have hb:b.length=n:=by simpa using h2
  have:=WJ x y p a b (λq=>(x::a).getD q iw) (λq=>(y::b).getD q iw) 0 aC (λi hi=>by rw[(aC:0+1+i=i+1)];rfl) (λi hi=>by rw[(aC:0+1+i=i+1)];rfl);rw[cw,ha]at this;exact this
def Qg{α:Type}{l:List α}{i:Nat}{d:α}(h:i<l.length):l.getD i d=l[i]:=by
 rw[bt,bD h];rfl
def asA{a b:List<|List Iv}{n k c p:Nat}(ra:a.length=n)(la:∀ i,i<n->(a.getD i []).length=k+1)(rb:b.length=k+1)(lb:(b.getD 0 []).length=c):
 rI n (λ_=>c) (λi j=>nD (λq=>(a.getD i []).getD q iw) (λq=>(b.getD q []).getD j iw) p k)=AS a b p:=by
 unfold rI AS;have hb:(b.headD []).length=c:=by
  rw[<-lb];cases b with
  |nil=>rfl
  |cons r b=>rfl
 rw[hb];apply atn
 .simp [ra]
 .intro i h1 h2;have hi:i<n:=by simp at h1;omega
  have Gc:i<a.length:= aC ;simp only[atW,atX];apply dQ;intro j _;have e:=la i hi;rw[Qg Gc]at e ⊢;rw[ahg e<|show(Lx b j).length=k+1 by simp[Lx,rb]];congr 1;funext q;unfold Lx;by_cases hq:q<b.length
  .rw [Qg (l:=b.map _)<|by simpa using hq,Qg hq];simp
  .rw [bt (l:=b.map _),bW<|by simpa using hq,bt (l:=b),bW aC];simp
def asB{n k:Nat}{F:Nat->Nat->Iv}(h1:1<=n)(h2:n<=8)(h3:1<=k)(h4:k<=8)(hv:∀ i j,(F i j).ix):nJ (rI n (λ_=>k) F) n k:=by
 refine⟨by simp[rI],λr hr=>?_,λr hr x hx=>?_,h1,h2,h3,h4⟩
 .obtain ⟨i,_,rfl⟩:=cP.1 hr;simp
 .obtain ⟨i,_,rfl⟩:=cP.1 hr;obtain⟨j,_,rfl⟩:=cP.1 hx;exact hv i j
def zi{T n n' k:Nat}{F:Nat->Iv}{y:Iv}(hn:n=k)(sU:n'=k+1)(hy:y=F k):
 Bx.le (.row true T (n+[y].length) 7 λi j=>if i<n then jC ((List.range k).map F) i j else(E.ky<|iG [y]) (i-n) j) (.row true T n' 7<|jC<|(List.range<|k+1).map F):=by
 subst hn sU hy;refine .row rfl λi j hi hj=>⟨.jq ?_,AF _ _ hj⟩
 have hi:i<n+1:=hi;by_cases h:i<n
 .rw [bk h];simp only[jC];rw[tC h,tC hi]
 .have lg:i=n:= aC ;subst lg;rw[bj h,dg];simp only[jC];rw[tC hi];rfl
def NI{n i:Nat}{R:Nat->List Iv}(h:i<n):((List.range n).map R).getD i []=R i:=by simp[bt,h]
def Z0{T n n' k m:Nat}{R:Nat->List Iv}{p:E}(hn:n=k)(sU:n'=k+1)(hm:m=1)(hp:∀ j,j<1->p.ky 0 j=iG (R k)):
 Bx.le (.row true T (n+m) 1 λi j=>if i<n then nX ((List.range k).map R) i j else(E.ky p) (i-n) j) (.row true T n' 1<|nX<|(List.range<|k+1).map R):=by
 subst hn sU hm;refine .row rfl λi j hi hj=>⟨.jq ?_,JB _⟩
 by_cases h:i<n
 .rw [bk h];simp only[nX];rw[NI h,NI hi]
 .have lg:i=n:= aC ;subst lg;rw[bj h,dg,hp j hj];simp only[nX];rw[NI hi]
def amK{n:Nat}{M:List<|List Iv}(hn:n=M.length):E.le (.sl true n 1<|nX M)<|j9 M:=by subst hn;exact .refl _
def xj{n:Nat}{M:List Iv}(hn:n=M.length):E.le (.sl true n 7<|jC M)<|iG M:=by subst hn;exact .refl _
section
variable{m:List<|List Iv}{n k:Nat}(h:nJ m n k)
def Fp.nJ.qV{i:Nat}(hi:i<n):(m.getD i []).length=k:=by
 have lg:i<m.length:=by rw[h.iM];exact hi
 rw[bt,bD lg];exact h.row _<|cB lg
def Fp.nJ.A9{i j:Nat}(hi:i<n)(hj:j<k):((m.getD i []).getD j iw).ix:=by
 have lg:i<m.length:=by rw[h.iM];exact hi
 have hl:=h.qV hi;rw[bt (l:=m),bD lg]at hl ⊢;change m[i].length=k at hl;show(m[i].getD j iw).ix;have q8:j<m[i].length:=by rw[hl];exact hj
 rw[bt,bD q8];exact h.ok _ (cB lg) _<|cB q8
def Fp.nJ.RO(i:Nat):(m.getD i []).length<=8:=by
 by_cases hi:i<n
 .rw [h.qV hi];exact h.k8
 .rw [bt,bW<|by rw[h.iM];omega];exact ck _
end
def elV{b:List<|List Iv}{k c:Nat}(gb:nJ b k c)(q j:Nat):((b.getD q []).getD j iw).ix:=by
 by_cases hq:q<k
 .by_cases hj:j<c
  .exact gb.A9 hq hj
  .rw [bt,bW<|by rw[gb.qV hq];omega];exact ln
 .rw [bt (l:=b),bW<|by rw[gb.iM];omega];exact ln
def E7(n:Nat)(h:n<4294967296:=by omega):(jj (n:Int)).ix:=tz<|EL n h
def af4(m:Nat)(e:Int):(canon false m e).neg=false:=by unfold canon;split<;>rfl
def anB:(jj 1).ix:=tz<|EL 1 aE
def akH{c:Nat}(hc:0<c):(jm (c:Int)).m≠0:=by
 rw[BV];exact(FP (s:=false) (e:=0) aC).2.2.1
def anA{c:Nat}(hc:0<c):nQ (jj (c:Int))=1:=by
 unfold nQ jj jx;simp only[bJ,bB];rw[bk];unfold Dy.jL;rw[bj<|akH hc,show(jm (c:Int)).neg=false by rw[BV];exact af4 _ _];simp
def YD{n:Nat}(h1:1<=n)(h8:n<=8):nJ (EH n) n n:=
 asB (F:=λi j=>jx<|if i=j then⟨false,1,0⟩else iY) h1 h8 h1 h8 λi j=>by
  split
  .exact anB
  .exact tz ph
def aj6{b:List<|List Iv}{k c:Nat}(gb:nJ b k c):(b.headD []).length=c:=by
 cases b with
 |nil=>have:=gb.iM;have:=gb.n1;simp at *;omega
 |cons r b=>exact gb.row r aH 
def aao{a b:List<|List Iv}{n k c p:Nat}(ga:nJ a n k)(gb:nJ b k c)(iC:1<=p)(iu:p<=4096):nJ (AS a b p) n c:=by
 refine⟨by simp[AS,ga.iM],λr hr=>?_,λr hr x hx=>?_,ga.n1,ga.n8,gb.k1,gb.k8⟩
 .obtain ⟨q,_,rfl⟩:=cP.1 hr;rw[cG,dV,aj6 gb]
 .obtain ⟨q,_,rfl⟩:=cP.1 hr;obtain⟨j,_,rfl⟩:=cP.1 hx;exact ahh iC iu
section
variable {m m':List<|List Iv} {h h':Iv} {n p:Nat}
def Sh(j:Nat)(hj:j<4294967296):(jj (j:Int)).ix:=tz<|EL j hj
end
def aaY(c:Nat):(jj (c:Int)).lo.q=(c:Rat)/\(jj (c:Int)).hi.q=(c:Rat)/\(jj (c:Int)).all=false:=by
 refine⟨?_,?_,rfl⟩
 .show (jm _).q=_;rw[Dz];exact eG c
 .show (jm _).q=_;rw[Dz];exact eG c
def apa(n:Nat)(hn:n<4294967296):il 84 [iP (n:Int)]<|iB<|canon false n 0:=by
 refine⟨call84,λw B vs hK hB hr=>?_⟩;obtain⟨v1,vs,rfl,h1,hr⟩:=hr.nR;obtain rfl:=hr.sK;obtain rfl:=iO.kW h1;exact(ao9 n w hn).mono λe w' h=>rd B w e w' hB h
def abC(a b:Dy)(r:Bool)(hr:r=true↔a=b)(ha:(im a.m).length<=100000)(hb:(im b.m).length<=100000):il 81 [iB a,iB b]<|bP r:=
 pc2 call81 (λA c A' c' w h k _=>ao5 a b A A' c c' w _ h k ha hb hr) rv
end Go.Proofs.YtjkmahljfblobaaGreatDoor
namespace Go.Proofs.YtjkmahljfblobaaGreatDoor.Fp
end Go.Proofs.YtjkmahljfblobaaGreatDoor.Fp
namespace Go.Proofs.YtjkmahljfblobaaGreatDoor
open Go.RowKit Fp Pu
def apc(d:Dy)(k:Int)(hd:d.ix)(oP:-32768<=k)(Au:k<=32768)(hr:oi<|canon d.neg d.m<|d.e+k):il 83 [iB d,iP k]<|.iH [iB<|canon d.neg d.m<|d.e+k,iP 0]:=by
 refine⟨call83,λw B vs hK hB Jh=>?_⟩;obtain⟨v1,vs,rfl,h1,Jh⟩:=Jh.nR;obtain⟨v2,vs,rfl,h2,Jh⟩:=Jh.nR;obtain rfl:=Jh.sK;obtain⟨A,c,rfl,s1⟩:=LL h1;obtain rfl:=iO.kW h2;have:=apd d.neg A c (im d.m) d.e k w s1 hd.yT oP Au (by rw[lF];exact hr);rw[lF]at this;exact this.mono λe w' h=>SO B w e w' hB h
def UZ{n:Int}{e:Int}:canon (jm n).neg (jm n).m ((jm n).e+e)=qQ n e:=by
 unfold jm qQ;by_cases h:n.natAbs=0
 .rw [h,Ip,Ip];show canon false 0 _=_;rw[Ip]
 .have h1:=IE h;rw[show canon (decide (n<0)) n.natAbs 0=⟨decide (n<0),n.natAbs/2^jZ n.natAbs,0+(jZ n.natAbs:Int)⟩by unfold canon;rw[bj h]];show canon (decide (n<0)) (n.natAbs/2^jZ n.natAbs) (0+(jZ n.natAbs:Int)+e)=_;rw[<-Pk _ _ _ (jZ n.natAbs),h1];congr 1;omega
def Ph{n e:Int}(h1:n.natAbs<4294967296)(h2:-1000<=e)(h3:e<=1000):(qQ n e).ix:=by
 refine⟨uV _ _ _,?_⟩;unfold qQ;by_cases h0:n.natAbs=0
 .rw [h0,Ip];exact .inl rfl
 .have:=FP (s:=decide (n<0)) (e:=e) h0;have hb:iD n.natAbs<=32:=mU.2 h1;obtain⟨h4,h5,h6,_⟩:=this;have:=qa h6;exact .inr ⟨aC,aC,aC,aC⟩
def tU{n:Int}(h1:n.natAbs<4294967296):(jm n).ix:=Ph h1 aE aE 
def ao7(k:Nat)(w:World)(h0:0<k)(hn:k<4294967296):
 Calls prog 84 #[.int .i64 (-(k:Int))] w (Bh w<|canon true k 0):=by
 have hm:=Ie k aC;have y4:(k:Int)%4294967296=k:= aC ;rw[y4]at hm;have hd:(k:Int)/4294967296=0:= aC ;have iN:(-(k:Int))<0:= aC ;have Eh:decide ((-(k:Int))<0)=true:=bu iN;have hu:IntKind.u64.wrap (-(k:Int))=18446744073709551616-k:=by rw[IntKind.wrap_u64];omega
 have hs:IntKind.u64.wrap (-(18446744073709551616-(k:Int)))=k:=by rw[IntKind.wrap_u64];omega
 have HC:=auj λ(A:Option Addr) c w (h:Sl w A c [k,0])=>SR true A c [k,0] 0 w h aH aE aE;have hv:val [k,0]=k:= aH ;rw[hv]at HC;clear hv;generalize canon true k 0=d at *
 generalize hN:(-(k:Int))=N at *
 go_enter func84,ntmps84;go_wp2_with fail;refine(HC.out _ _ _<|Sl.Oe _ _ aH _ _ k 0 rfl rfl hn aE).mono ?_;rintro r w1 ⟨A1,c1,rfl,w8,kI⟩;have ml:ja (w.alloc<|.cells #[.bool false,.slice none 0 0,.int .i64 0] 37) w1:=(ja.alloc _ _).trans kI;have bx:=(jW.new w false none 0 0 0).ext ml;have b0:=bx.c0;have b1:=bx.c1;have b2:=bx.c2;have f0:=bx.fr 0;have f1:=bx.fr 1;have f2:=bx.fr 2;go_wp2;exact Br rfl rfl rfl (bx.set _ _ _ _ _) rfl (bx.xy w8 _ _ _ _ _) (jW.wq ((ja.alloc _ _).trans ml) (bw _) _ _ _ _ _)
def YJ(k:Nat)(h0:0<k):jm (-(k:Int))=canon true k 0:=by
 unfold jm qQ;rw[bu<|show(-(k:Int))<0 by omega,atQ,gN]
def ao8(n:Int)(h:n.natAbs<4294967296):il 84 [iP n]<|iB<|jm n:=by
 by_cases h0:0<=n
 .obtain ⟨k,rfl⟩:=gP h0;rw[BV];exact apa k aC 
 .obtain ⟨k,rfl⟩:∃ k:Nat,n = -(k:Int):=⟨n.natAbs,aC⟩
  rw[YJ k aC];refine⟨call84,λw B vs hK hB hr=>?_⟩;obtain⟨v1,vs,rfl,h1,hr⟩:=hr.nR;obtain rfl:=hr.sK;obtain rfl:=iO.kW h1;exact(ao7 k w aC aC).mono λe w' h=>rd B w e w' hB h
open Classical in
noncomputable def Fp.vD(d:Dy)(k:Int):Dy:=if oi (canon d.neg d.m<|d.e+k)then canon d.neg d.m (d.e+k)else iY
open Classical in
noncomputable def Fp.Fu(d:Dy)(k:Int):Int:=if oi (canon d.neg d.m<|d.e+k)then 0 else 9
def acd(d:Dy)(k:Int):(vD d k).ix:=by
 unfold vD;split
 .rename_i h;exact⟨uV _ _ _,h⟩
 .exact ph
noncomputable def Fp.nd(x:Iv)(k:Int):Iv:=if x.all then iw else mF (vD x.lo k) (Fu x.lo k) (vD x.hi k) (Fu x.hi k)
def Fp.sE(x:Iv):Iv:=if x.all then x else⟨ki<|mq x,mq x,false⟩
def Fp.ri(n:Int):Dy:=canon false 1 n
def yy{n:Int}(h:n.natAbs<4294967296):(jj n).ix:=tz<|tU h
def FK{x:Iv}(hx:x.ix):(sE x).ix:=by
 unfold sE;cases lK:x.all
 .have he:=hx.jX;have hm:=EX he.1 he.2;simp only[bJ,bB];refine .inr ⟨rfl,yx hm,hm,?_⟩;show jN (ki<|mq x) (mq x)<=0;rw[r6,sN];obtain⟨a1,a2,_⟩:=EW hx.q;have:=hx.q
  grind
 .exact hx
def aqD{d:Dy}{k:Int}(h:Fu d k=0):vD d k=canon d.neg d.m (d.e+k):=by
 unfold Fu at h;unfold vD;split at h
 .rename_i h1;rw[bk h1]
 .cases h
def DF{d:Dy}{k:Int}(h:Fu d k=0:=by omega):(vD d k).q=d.q*P2 k:=by
 rw[aqD h,tA,sO d,sD];cases d.neg<;>simp<;>grind
def Ky{x:Iv}(hx:x.ix)(k:Int):(nd x k).ix:=by
 unfold nd;split
 .exact ln
 .unfold mF;split
  .exact ln
  .rename_i h;refine .inr ⟨rfl,acd _ _,acd _ _,?_⟩;rw[r6,DF,DF,yr];exact hx.q
def S5{x:Iv}{r:Rat}(h:x.kq r)(k:Int):(nd x k).kq<|r*P2 k:=by
 unfold nd;split
 .exact .inl rfl
 .rename_i ha;unfold mF;split
  .exact .inl rfl
  .obtain ⟨h1,h2⟩:=h.jX (by simpa using ha);refine .inr ⟨?_,?_⟩
   .show (vD x.lo k).q<=_;rw[DF,yr];exact h1
   .show _<=(vD x.hi k).q;rw[DF,yr];exact h2
section
variable(nl:Bool)
def YL(n N:Nat)(el:Nat->Nat->E)(g:FuncId)(cap:List E)(i:Nat):PS:=⟨19,false,[(8,.e<|iP i),(7,.e<|iP n),(0,.e<|.sl nl n 1 el),(1,.e<|.fn g cap)],[]⟩
section
variable(n:Nat)(el:Nat->Nat->E)(g:FuncId)(cap:List E)(i:Nat)
def YK:PS:=⟨19,false,[(8,.e<|iP i),(7,.e<|iP n),(0,.e<|.sl nl n 1 el),(1,.e<|.fn g cap)],[]⟩
def Zn:PS:=⟨19,false,[(8,.e<|iP i),(7,.e<|iP n),(0,.e<|.sl nl n 1 el),(1,.e<|.fn g cap)],[]⟩
end
def Y3(n N:Nat)(el:Nat->Nat->E)(g:FuncId)(cap:List E)(i:Nat):PS:=⟨19,false,[(8,.e<|iP i),(7,.e<|iP n),(0,.e<|.sl nl n 7 el),(1,.e<|.fn g cap)],[]⟩
def Y2(n:Nat)(el:Nat->Nat->E)(g:FuncId)(cap:List E)(i:Nat):PS:=⟨19,false,[(8,.e<|iP i),(7,.e<|iP n),(0,.e<|.sl nl n 7 el),(1,.e<|.fn g cap)],[]⟩
def abY(n N:Nat)(el:Nat->Nat->E)(g:FuncId)(cap:List E)(i:Nat):PS:=⟨19,false,[(8,.e<|iP i),(7,.e<|iP n),(0,.e<|.sl nl n 1 el),(1,.e<|.fn g cap)],[]⟩
section
variable(n:Nat)(el:Nat->Nat->E)(g:FuncId)(cap:List E)(i:Nat)
def abX:PS:=⟨19,false,[(8,.e<|iP i),(7,.e<|iP n),(0,.e<|.sl nl n 1 el),(1,.e<|.fn g cap)],[]⟩
def Wa:PS:=⟨19,false,[(8,.e<|iP i),(7,.e<|iP n),(0,.e<|.sl nl n 3 el),(1,.e<|.fn g cap)],[]⟩
def Wb:PS:=⟨19,false,[(8,.e<|iP i),(7,.e<|iP n),(0,.e<|.sl nl n 1 el),(1,.e<|.fn g cap)],[]⟩
end
def abV(n N:Nat)(el:Nat->Nat->E)(g:FuncId)(cap:List E)(i:Nat):PS:=⟨19,false,[(8,.e<|iP i),(7,.e<|iP n),(0,.e<|.sl nl n 2 el),(1,.e<|.fn g cap)],[]⟩
def abU(n:Nat)(el:Nat->Nat->E)(g:FuncId)(cap:List E)(i:Nat):PS:=⟨19,false,[(8,.e<|iP i),(7,.e<|iP n),(0,.e<|.sl nl n 2 el),(1,.e<|.fn g cap)],[]⟩
end
def sx{p:Nat->Bool}{n:Nat}(h:∃ i,i<n/\p i=true):∃ N,N<n/\p N=true/\∀ i,i<N->p i=false:=by
 induction n with
 |zero=>obtain⟨i,h1,_⟩:=h;omega
 |succ n ih=>
  by_cases hn:∃ i,i<n/\p i=true
  .obtain ⟨N,h1,h2,h3⟩:=ih hn;exact⟨N,aC,h2,h3⟩
  .obtain ⟨i,h1,h2⟩:=h;have:i=n:=by
    by_cases q:i=n
    .exact q
    .exact absurd ⟨i,aC,h2⟩ hn
   subst this;exact⟨i,h1,h2,λj hj=>by simpa using λq=>hn ⟨j,hj,q⟩⟩
section
variable(nl:Bool)(n:Nat)(el:Nat->Nat->E)(g:FuncId)(cap:List E)(p:Nat->Bool)
section
variable(hp:∀ i,i<n->il g ((el i 0)::cap) (bP<|p i))
def akK(N:Nat)(hl:n<=1000000)(qd:N<n)(ji:∀ i,i<N->p i=false)(hN:p N=true):il 207 [.sl nl n 1 el,.fn g cap]<|iP N:=
 pA (af [.s (Sp.jP (YL nl n N el g cap) 0 N aC (λi hi mW=>by
    exact iS (af [tT 9 ((i:Int)<n) aC,iX (i:Int) n,.c (hp i aC:il g ((el i 0)::cap) _),ai 16 (p i)<|ji i aC,iL<|(i:Int)+1]) aF)
  (λhi=>by
    exact iS (af [tT 9 ((N:Int)<n) aC,iX (N:Int) n,.c (hp N aC:il g ((el N 0)::cap) _),ah 16 (p N) hN]) aF) aI:jM 2 f207 (YL nl n N el g cap 0) .ret ⟨19,false,[(4,.e<|iP N)],[]⟩) .nil])
def akM(hl:n<=1000000)(ji:∀ i,i<n->p i=false):il 207 [.sl nl n 1 el,.fn g cap]<|iP (-1):=
 pA (af [.s (Sp.jP (YK nl n el g cap) 0 n aC (λi hi mW=>by
    exact iS (af [tT 9 ((i:Int)<n) aC,iX (i:Int) n,.c (hp i aC:il g ((el i 0)::cap) _),ai 16 (p i)<|ji i aC,iL<|(i:Int)+1]) aF)
  (λhi=>by
    exact iS (af [tF 9 ((n:Int)<n) aC]) aF) aI:jM 2 f207 (YK nl n el g cap 0) (.exit 0) ⟨19,false,[],[]⟩) .nil])
def akL(N:Nat)(hl:n<=1000000)(qd:N<n)(ji:∀ i,i<N->p i=false)(hN:p N=true):il 130 [.sl nl n 1 el,.fn g cap]<|bP true:=
 pA (af [ag [.sl nl n 1 el,.fn g cap]<|akK nl n el g cap p hp N hl qd ji hN,tT 8 (0<=(N:Int)) aC])
section
variable(hl:n<=1000000)
def Rs(ji:∀ i,i<n->p i=false):il 130 [.sl nl n 1 el,.fn g cap]<|bP false:=
 pA (af [ag [.sl nl n 1 el,.fn g cap]<|akM nl n el g cap p hp hl ji,ai 8 (decide ((0:Int)<=(-1))) aE])
def akJ:il 130 [.sl nl n 1 el,.fn g cap]<|bP<|(List.range n).any p:=by
 by_cases h:∃ i,i<n/\p i=true
 .obtain ⟨N,h1,h2,h3⟩:∃ N,N<n/\p N=true/\∀ i,i<N->p i=false:=sx h;refine(akL nl n el g cap p hp N hl h1 h3 h2).jk<|.jq ?_;rw[dE.2 ⟨N,bN.2 h1,h2⟩]
 .refine (Rs nl n el g cap p hp hl λi hi=>by simpa using λq=>h ⟨i,hi,q⟩).jk<|.jq ?_;rw[cI.2 λi hi q=>h ⟨i,bN.1 hi,q⟩]
section
variable(ji:∀ i,i<n->p i=false)
def al7:il 335 [.sl nl n 1 el,.fn g cap]<|iP (-1):=
 pA (af [.s (Sp.jP (Zn nl n el g cap) 0 n aC (λi hi mW=>by
    exact iS (af [tT 9 ((i:Int)<n) aC,iX (i:Int) n,.c (hp i aC:il g ((el i 0)::cap) _),ai 16 (p i)<|ji i aC,iL<|(i:Int)+1]) aF)
  (λhi=>by
    exact iS (af [tF 9 ((n:Int)<n) aC]) aF) aI:jM 2 f335 (Zn nl n el g cap 0) (.exit 0) ⟨19,false,[],[]⟩) .nil])
def Zo:il 282 [.sl nl n 1 el,.fn g cap]<|bP false:=
 pA (af [ag [.sl nl n 1 el,.fn g cap]<|al7 nl n el g cap p hp hl ji,ai 8 (decide ((0:Int)<=(-1))) aE])
end
end
end
section
variable(hp:∀ i,i<n->il g ((.agg [el i 0,el i 1,el i 2,el i 3,el i 4,el i 5,el i 6])::cap) (bP<|p i))
def ald(N:Nat)(hl:n<=1000000)(qd:N<n)(ji:∀ i,i<N->p i=false)(hN:p N=true):il 87 [.sl nl n 7 el,.fn g cap]<|iP N:=
 pA (af [.s (Sp.jP (Y3 nl n N el g cap) 0 N aC (λi hi mW=>by
    exact iS (af [tT 9 ((i:Int)<n) aC,iX (i:Int) n,.c (hp i aC:il g ((.agg [el i 0,el i 1,el i 2,el i 3,el i 4,el i 5,el i 6])::cap) _),ai 16 (p i)<|ji i aC,iL<|(i:Int)+1]) aF)
  (λhi=>by
    exact iS (af [tT 9 ((N:Int)<n) aC,iX (N:Int) n,.c (hp N aC:il g ((.agg [el N 0,el N 1,el N 2,el N 3,el N 4,el N 5,el N 6])::cap) _),ah 16 (p N) hN]) aF) aI:jM 2 Tryz.f87 (Y3 nl n N el g cap 0) .ret ⟨19,false,[(4,.e<|iP N)],[]⟩) .nil])
def alf(hl:n<=1000000)(ji:∀ i,i<n->p i=false):il 87 [.sl nl n 7 el,.fn g cap]<|iP (-1):=
 pA (af [.s (Sp.jP (Y2 nl n el g cap) 0 n aC (λi hi mW=>by
    exact iS (af [tT 9 ((i:Int)<n) aC,iX (i:Int) n,.c (hp i aC:il g ((.agg [el i 0,el i 1,el i 2,el i 3,el i 4,el i 5,el i 6])::cap) _),ai 16 (p i)<|ji i aC,iL<|(i:Int)+1]) aF)
  (λhi=>by
    exact iS (af [tF 9 ((n:Int)<n) aC]) aF) aI:jM 2 Tryz.f87 (Y2 nl n el g cap 0) (.exit 0) ⟨19,false,[],[]⟩) .nil])
def ale(N:Nat)(hl:n<=1000000)(qd:N<n)(ji:∀ i,i<N->p i=false)(hN:p N=true):il 39 [.sl nl n 7 el,.fn g cap]<|bP true:=
 pA (af [ag [.sl nl n 7 el,.fn g cap]<|ald nl n el g cap p hp N hl qd ji hN,tT 8 (0<=(N:Int)) aC])
def AG(hl:n<=1000000)(ji:∀ i,i<n->p i=false):il 39 [.sl nl n 7 el,.fn g cap]<|bP false:=
 pA (af [ag [.sl nl n 7 el,.fn g cap]<|alf nl n el g cap p hp hl ji,ai 8 (decide ((0:Int)<=(-1))) aE])
def Dd(hl:n<=1000000:=by omega):il 39 [.sl nl n 7 el,.fn g cap]<|bP<|(List.range n).any p:=by
 by_cases h:∃ i,i<n/\p i=true
 .obtain ⟨N,h1,h2,h3⟩:∃ N,N<n/\p N=true/\∀ i,i<N->p i=false:=sx h;refine(ale nl n el g cap p hp N hl h1 h3 h2).jk<|.jq ?_;rw[dE.2 ⟨N,bN.2 h1,h2⟩]
 .refine (AG nl n el g cap p hp hl λi hi=>by simpa using λq=>h ⟨i,hi,q⟩).jk<|.jq ?_;rw[cI.2 λi hi q=>h ⟨i,bN.1 hi,q⟩]
end
section
variable(hp:∀ i,i<n->il g ((el i 0)::cap) (bP<|p i))
def ap5(N:Nat)(hl:n<=1000000)(qd:N<n)(ji:∀ i,i<N->p i=false)(hN:p N=true):il 228 [.sl nl n 1 el,.fn g cap]<|iP N:=
 pA (af [.s (Sp.jP (abY nl n N el g cap) 0 N aC (λi hi mW=>by
    exact iS (af [tT 9 ((i:Int)<n) aC,iX (i:Int) n,.c (hp i aC:il g ((el i 0)::cap) _),ai 16 (p i)<|ji i aC,iL<|(i:Int)+1]) aF)
  (λhi=>by
    exact iS (af [tT 9 ((N:Int)<n) aC,iX (N:Int) n,.c (hp N aC:il g ((el N 0)::cap) _),ah 16 (p N) hN]) aF) aI:jM 2 f228 (abY nl n N el g cap 0) .ret ⟨19,false,[(4,.e<|iP N)],[]⟩) .nil])
def aqa(hl:n<=1000000)(ji:∀ i,i<n->p i=false):il 228 [.sl nl n 1 el,.fn g cap]<|iP (-1):=
 pA (af [.s (Sp.jP (abX nl n el g cap) 0 n aC (λi hi mW=>by
    exact iS (af [tT 9 ((i:Int)<n) aC,iX (i:Int) n,.c (hp i aC:il g ((el i 0)::cap) _),ai 16 (p i)<|ji i aC,iL<|(i:Int)+1]) aF)
  (λhi=>by
    exact iS (af [tF 9 ((n:Int)<n) aC]) aF) aI:jM 2 f228 (abX nl n el g cap 0) (.exit 0) ⟨19,false,[],[]⟩) .nil])
def ap8(N:Nat)(hl:n<=1000000)(qd:N<n)(ji:∀ i,i<N->p i=false)(hN:p N=true):il 159 [.sl nl n 1 el,.fn g cap]<|bP true:=
 pA (af [ag [.sl nl n 1 el,.fn g cap]<|ap5 nl n el g cap p hp N hl qd ji hN,tT 8 (0<=(N:Int)) aC])
def abZ(hl:n<=1000000)(ji:∀ i,i<n->p i=false):il 159 [.sl nl n 1 el,.fn g cap]<|bP false:=
 pA (af [ag [.sl nl n 1 el,.fn g cap]<|aqa nl n el g cap p hp hl ji,ai 8 (decide ((0:Int)<=(-1))) aE])
def He(hl:n<=1000000:=by omega):il 159 [.sl nl n 1 el,.fn g cap]<|bP<|(List.range n).any p:=by
 by_cases h:∃ i,i<n/\p i=true
 .obtain ⟨N,h1,h2,h3⟩:∃ N,N<n/\p N=true/\∀ i,i<N->p i=false:=sx h;refine(ap8 nl n el g cap p hp N hl h1 h3 h2).jk<|.jq ?_;rw[dE.2 ⟨N,bN.2 h1,h2⟩]
 .refine (abZ nl n el g cap p hp hl λi hi=>by simpa using λq=>h ⟨i,hi,q⟩).jk<|.jq ?_;rw[cI.2 λi hi q=>h ⟨i,bN.1 hi,q⟩]
end
section
variable(hp:∀ i,i<n->il g ((.agg [el i 0,el i 1,el i 2])::cap) (bP<|p i))(hl:n<=1000000)(ji:∀ i,i<n->p i=false)
def ahA:il 361 [.sl nl n 3 el,.fn g cap]<|iP (-1):=
 pA (af [.s (Sp.jP (Wa nl n el g cap) 0 n aC (λi hi mW=>by
    exact iS (af [tT 9 ((i:Int)<n) aC,iX (i:Int) n,.c (hp i aC:il g ((.agg [el i 0,el i 1,el i 2])::cap) _),ai 16 (p i)<|ji i aC,
     iL ((i:Int)+1)]) aF)
  (λhi=>by
    exact iS (af [tF 9 ((n:Int)<n) aC]) aF) aI:jM 2 f361 (Wa nl n el g cap 0) (.exit 0) ⟨19,false,[],[]⟩) .nil])
def PL:il 339 [.sl nl n 3 el,.fn g cap]<|bP false:=
 pA (af [ag [.sl nl n 3 el,.fn g cap]<|ahA nl n el g cap p hp hl ji,ai 8 (decide ((0:Int)<=(-1))) aE])
end
section
variable(hp:∀ i,i<n->il g ((el i 0)::cap) (bP<|p i))(hl:n<=1000000)(ji:∀ i,i<n->p i=false)
def ahB:il 362 [.sl nl n 1 el,.fn g cap]<|iP (-1):=
 pA (af [.s (Sp.jP (Wb nl n el g cap) 0 n aC (λi hi mW=>by
    exact iS (af [tT 9 ((i:Int)<n) aC,iX (i:Int) n,.c (hp i aC:il g ((el i 0)::cap) _),ai 16 (p i)<|ji i aC,iL<|(i:Int)+1]) aF)
  (λhi=>by
    exact iS (af [tF 9 ((n:Int)<n) aC]) aF) aI:jM 2 f362 (Wb nl n el g cap 0) (.exit 0) ⟨19,false,[],[]⟩) .nil])
def Wc:il 341 [.sl nl n 1 el,.fn g cap]<|bP false:=
 pA (af [ag [.sl nl n 1 el,.fn g cap]<|ahB nl n el g cap p hp hl ji,ai 8 (decide ((0:Int)<=(-1))) aE])
end
section
variable(hp:∀ i,i<n->il g ((.agg [el i 0,el i 1])::cap) (bP<|p i))
def apZ(N:Nat)(hl:n<=1000000)(qd:N<n)(ji:∀ i,i<N->p i=false)(hN:p N=true):il 80 [.sl nl n 2 el,.fn g cap]<|iP N:=
 pA (af [.s (Sp.jP (abV nl n N el g cap) 0 N aC (λi hi mW=>by
    exact iS (af [tT 9 ((i:Int)<n) aC,iX (i:Int) n,.c (hp i aC:il g ((.agg [el i 0,el i 1])::cap) _),ai 16 (p i)<|ji i aC,
     iL ((i:Int)+1)]) aF)
  (λhi=>by
    exact iS (af [tT 9 ((N:Int)<n) aC,iX (N:Int) n,.c (hp N aC:il g ((.agg [el N 0,el N 1])::cap) _),ah 16 (p N) hN]) aF) aI:jM 2 Tryz.f80 (abV nl n N el g cap 0) .ret ⟨19,false,[(4,.e<|iP N)],[]⟩) .nil])
def ap2(hl:n<=1000000)(ji:∀ i,i<n->p i=false):il 80 [.sl nl n 2 el,.fn g cap]<|iP (-1):=
 pA (af [.s (Sp.jP (abU nl n el g cap) 0 n aC (λi hi mW=>by
    exact iS (af [tT 9 ((i:Int)<n) aC,iX (i:Int) n,.c (hp i aC:il g ((.agg [el i 0,el i 1])::cap) _),ai 16 (p i)<|ji i aC,
     iL ((i:Int)+1)]) aF)
  (λhi=>by
    exact iS (af [tF 9 ((n:Int)<n) aC]) aF) aI:jM 2 Tryz.f80 (abU nl n el g cap 0) (.exit 0) ⟨19,false,[],[]⟩) .nil])
def ap0(N:Nat)(hl:n<=1000000)(qd:N<n)(ji:∀ i,i<N->p i=false)(hN:p N=true):il 28 [.sl nl n 2 el,.fn g cap]<|bP true:=
 pA (af [ag [.sl nl n 2 el,.fn g cap]<|apZ nl n el g cap p hp N hl qd ji hN,tT 8 (0<=(N:Int)) aC])
def ap1(hl:n<=1000000)(ji:∀ i,i<n->p i=false):il 28 [.sl nl n 2 el,.fn g cap]<|bP false:=
 pA (af [ag [.sl nl n 2 el,.fn g cap]<|ap2 nl n el g cap p hp hl ji,ai 8 (decide ((0:Int)<=(-1))) aE])
def abW(hl:n<=1000000):il 28 [.sl nl n 2 el,.fn g cap]<|bP<|(List.range n).any p:=by
 by_cases h:∃ i,i<n/\p i=true
 .obtain ⟨N,h1,h2,h3⟩:∃ N,N<n/\p N=true/\∀ i,i<N->p i=false:=sx h;refine(ap0 nl n el g cap p hp N hl h1 h3 h2).jk<|.jq ?_;rw[dE.2 ⟨N,bN.2 h1,h2⟩]
 .refine (ap1 nl n el g cap p hp hl λi hi=>by simpa using λq=>h ⟨i,hi,q⟩).jk<|.jq ?_;rw[cI.2 λi hi q=>h ⟨i,bN.1 hi,q⟩]
end
end
section
variable(a b:List Nat)
def aak(x:Nat):PS:=⟨67,false,[(20,.e<|iP x),(19,.e<|iP a.length),(18,.e<|iy a),(5,.own 17),(1,.e<|iy b)],[(17,.row false 95 (a.length+b.length) 1<|rC<|mr a b x)]⟩
def aal(x:Nat)(k:Nat):PS:=⟨67,false,[(27,.e<|iP k),(26,.e<|iP b.length),(25,.e<|iy b),(8,.e<|.v<|.int .u64 (((nO (a.getD x 0) x b (mr a b x) k).2:Nat):Int)),(7,.e<|.v<|.int .u32 (a.getD x 0:Int)),(6,.e<|iP x),(20,.e<|iP x),(19,.e<|iP a.length),(18,.e<|iy a),(5,.own 17),(1,.e<|iy b)],[(17,.row false 95 (a.length+b.length) 1<|rC<|(nO (a.getD x 0) x b (mr a b x) k).1)]⟩
def anb(ha:iW a)(hb:iW b)(h1:a.length<=3000)(h2:b.length<=3000):il 234 [iy a,iy b]<|iy<|mr a b a.length:=
 pA (ae [iL<|(a.length:Int)+b.length,.a (aC:0<=(((a.length:Int)+b.length):Int)/\(((a.length:Int)+b.length):Int)<=(((a.length:Int)+b.length):Int)),.a (aC:((4:Nat):Int)*((a.length:Int)+b.length)<=281474976710656/\(((a.length:Int)+b.length):Int)<=9223372036854775807),.s (Sp.jP (aak a b) 0 a.length aC (λx hx mX=>by
    have f1:=ha.getD x;have so:=JV ha hb x aC;have g1:=so.len;have g2:=(JU f1 hb so.ok (i:=x) aC b.length aC).len;have g3:=(JU f1 hb so.ok (i:=x) aC b.length aC).lt;exact iS (ae [tT 21 ((x:Int)<a.length) aC,iX (x:Int)<|a.length,.s (Sp.jP (aal a b x) 0 b.length aC (λk hk tO=>by
    have f2:=hb.getD k;have q:=JU f1 hb so.ok (i:=x) aC k aC;have f3:=q.ok.getD<|x+k;have f4:=q.lt;have f5:=q.len;have f6:=aap f1 f2;exact iS (ae [tT 28 ((k:Int)<b.length) aC,iX (k:Int)<|b.length,.o 33 (.int<|s7 _:aj (.v<|.int .u64<|IntKind.u64.wrap (a.getD x 0:Int))<|.v<|.int .u64 (a.getD x 0:Int)),.o 35 (.int<|s7 _:aj (.v<|.int .u64<|IntKind.u64.wrap (b.getD k 0:Int))<|.v<|.int .u64 (b.getD k 0:Int)),
     Fo ((a.getD x 0:Int)*(b.getD k 0:Int)),iL<|(x:Int)+k,iX ((x+k:Nat):Int)<|a.length+b.length,.a (aC:(x+k)<(a.length+b.length)),.o 43 (.int<|s7 _:aj (.v<|.int .u64<|IntKind.u64.wrap ((((nO (a.getD x 0) x b (mr a b x) k).1).getD (x+k) 0:Nat):Int))<|.v<|.int .u64 ((((nO (a.getD x 0) x b (mr a b x) k).1).getD (x+k) 0:Nat):Int)),
     Fo ((((a.getD x 0)*(b.getD k 0):Nat):Int)+((((nO (a.getD x 0) x b (mr a b x) k).1).getD (x+k) 0:Nat):Int)),
     Fo (((((a.getD x 0)*(b.getD k 0))+(((nO (a.getD x 0) x b (mr a b x) k).1).getD (x+k) 0):Nat):Int)+(((nO (a.getD x 0) x b (mr a b x) k).2:Nat):Int)),
     iL ((x:Int)+k),.o 52 (.int<|DK _:aj (.v<|.int .u32<|IntKind.u32.wrap (((((a.getD x 0)*(b.getD k 0))+(((nO (a.getD x 0) x b (mr a b x) k).1).getD (x+k) 0))+(nO (a.getD x 0) x b (mr a b x) k).2:Nat):Int))<|.v<|.int .u32 ((((((a.getD x 0)*(b.getD k 0))+(((nO (a.getD x 0) x b (mr a b x) k).1).getD (x+k) 0))+(nO (a.getD x 0) x b (mr a b x) k).2)%4294967296:Nat):Int)),.a (aC:0<=(32:Int)/\(32:Int)<=((64:Nat):Int)),.o 54 (.int<|S9 _:aj (.v<|.int .u64<|(((((a.getD x 0)*(b.getD k 0))+(((nO (a.getD x 0) x b (mr a b x) k).1).getD (x+k) 0))+(nO (a.getD x 0) x b (mr a b x) k).2:Nat):Int)/2^32)<|.v<|.int .u64 ((((((a.getD x 0)*(b.getD k 0))+(((nO (a.getD x 0) x b (mr a b x) k).1).getD (x+k) 0))+(nO (a.getD x 0) x b (mr a b x) k).2)/4294967296:Nat):Int)),
     iX ((x+k:Nat):Int) (a.length+b.length),.a (aC:(x+k)<(a.length+b.length)),iL<|(k:Int)+1]<|.e<|af [.o 8<|.int (k:=.u64) (by first|rfl|omega|(simp only[bT,bX];omega):((((((a.getD x 0)*(b.getD k 0))+(((nO (a.getD x 0) x b (mr a b x) k).1).getD (x+k) 0))+(nO (a.getD x 0) x b (mr a b x) k).2)/4294967296:Nat):Int)=(((nO (a.getD x 0) x b (mr a b x)<|k+1).2:Nat):Int)),.b 17 (SY rfl aC:Bx.le (.row false 95 (a.length+b.length) 1 λi' j'=>if i'=(x+k)/\0<=j'/\j'<0+1 then[.v<|.int .u32 ((((((a.getD x 0)*(b.getD k 0))+(((nO (a.getD x 0) x b (mr a b x) k).1).getD (x+k) 0))+(nO (a.getD x 0) x b (mr a b x) k).2)%4294967296:Nat):Int)].getD (j'-0) .any else(rC<|(nO (a.getD x 0) x b (mr a b x) k).1) i' j')<|.row false 95 (a.length+b.length) 1<|rC<|(nO (a.getD x 0) x b (mr a b x)<|k+1).1)]) aF)
  (λhk=>by
    exact iS (af [tF 28 ((b.length:Int)<b.length) aC]) aF) aI:jM 7 f234 (aal a b x 0) (.exit 2) ⟨67,false,[(8,.e<|.v<|.int .u64 (((nO (a.getD x 0) x b (mr a b x) b.length).2:Nat):Int)),(6,.e<|iP x),(20,.e<|iP x),(19,.e<|iP a.length),(18,.e<|iy a),(5,.own 17),(1,.e<|iy b)],[(17,.row false 95 (a.length+b.length) 1<|rC<|(nO (a.getD x 0) x b (mr a b x) b.length).1)]⟩)<|af [.o 8<|.int (k:=.u64) (by first|rfl|omega|(simp only[bT,bX];omega):0=(((nO (a.getD x 0) x b (mr a b x) 0).2:Nat):Int)),.b 17<|.refl<|.row false 95 (a.length+b.length) 1<|rC<|(nO (a.getD x 0) x b (mr a b x) 0).1],
     iL ((x:Int)+b.length),.o 63 (.int<|DK _:aj (.v<|.int .u32<|IntKind.u32.wrap (((nO (a.getD x 0) x b (mr a b x) b.length).2:Nat):Int))<|.v<|.int .u32 (((nO (a.getD x 0) x b (mr a b x) b.length).2%4294967296:Nat):Int)),
     iX ((x+b.length:Nat):Int) (a.length+b.length),.a (aC:(x+b.length)<(a.length+b.length)),iL<|(x:Int)+1]<|.e<|af [.b 17 (SY rfl aC:Bx.le (.row false 95 (a.length+b.length) 1 λi' j'=>if i'=(x+b.length)/\0<=j'/\j'<0+1 then[.v<|.int .u32 (((nO (a.getD x 0) x b (mr a b x) b.length).2%4294967296:Nat):Int)].getD (j'-0) .any else(rC<|(nO (a.getD x 0) x b (mr a b x) b.length).1) i' j')<|.row false 95 (a.length+b.length) 1<|rC<|mr a b<|x+1)]) aF)
  (λhx=>by
    exact iS (af [tF 21 ((a.length:Int)<a.length) aC]) aF) aI:jM 3 f234 (aak a b 0) (.exit 0) ⟨67,false,[(5,.own 17)],[(17,.row false 95 (a.length+b.length) 1<|rC<|mr a b a.length)]⟩)<|af [.b 17 (ab0 rfl (λi=>by simp[mr,bt,gL];split<;>rfl):Bx.le (.row false 95 (a.length+b.length) 1 λ_ j_=>[.v<|.int .u32 0].getD j_ .any)<|.row false 95 (a.length+b.length) 1<|rC<|mr a b 0)]]<|rR (iy<|mr a b a.length) (acB<|by rw[(JV ha hb a.length aC).len]:E.le (.sl false (a.length+b.length) 1<|rC<|mr a b a.length)<|iy<|mr a b a.length))
end
section
variable(L:List Nat)
def R4(h:L.length<=256):il 283 [iy L]<|bP false:=
 iE (af [tF 5 (256<(L.length:Int)) aC])
def ana(h1:L.length<=256):il 232 [(.sl true 1 1 λi_ j_=>[iy L].getD (i_*1+j_)<|.v<|.bool false)]<|bP false:=
 iE (af [.c (Zo true 1 _ 283 [] (λ_=>false) (λi hi=>(match i,hi with|0,_=>R4 _ h1|n+1,hi=>absurd hi aC)) aC λ_ _=>rfl:il 282 [(.sl true 1 1 λi_ j_=>[iy L].getD (i_*1+j_)<|.v<|.bool false),.fn 283 []] _)])
def aay(M:List Nat)(h1:L.length<=256)(h2:M.length<=256):il 232 [(.sl true 2 1 λi_ j_=>[iy L,iy M].getD (i_*1+j_)<|.v<|.bool false)]<|bP false:=
 iE (af [.c (Zo true 2 _ 283 [] (λ_=>false) (λi hi=>(match i,hi with|0,_=>R4 _ h1|1,_=>R4 _ h2|n+2,hi=>absurd hi aC)) aC λ_ _=>rfl:il 282 [(.sl true 2 1 λi_ j_=>[iy L,iy M].getD (i_*1+j_)<|.v<|.bool false),.fn 283 []] _)])
end
def anc(L M:List Nat)(hL:iW L)(hM:iW M)(h1:L.length<=256)(h2:M.length<=256)(hf:(im<|val L*val M).length<=256):il 178 [iy L,iy M]<|.iH [iy<|im<|val L*val M,iP 0]:=by
 have ka:=hL.iT;have kb:=hM.iT;have ta:=qN L;have tb:=qN M;unfold nf at ta tb;have km:=(JV ka kb _<|bw _).ok;have he:iT (mr (iT L) (iT M) (iT L).length)=im (val L*val M):=by rw[ug km,asm ka kb,rk,rk]
 have hd:(iT<|mr (iT L) (iT M) (iT L).length).length<=256:=by rw[he];exact hf
 exact iE<|ae [ag [(.sl true 2 1 λi_ j_=>[iy L,iy M].getD (i_*1+j_)<|.v<|.bool false)]<|aay _ _ aD aD,.c<|we L hL,.c<|we M hM,.c<|anb (iT L) (iT M) ka kb aC aC,.c<|aax (mr (iT L) (iT M) (iT L).length) km hd]<|rQ (.iH [iy<|iT<|mr (iT L) (iT M) (iT L).length,iP 0]) (.iH [iy<|im<|val L*val M,iP 0])<|by rw[he]
def Ca(m n:Nat)(h1:(im m).length<=256)(h2:(im n).length<=256)(hf:(im<|m*n).length<=256):il 178 [iy<|im m,iy<|im n]<|.iH [iy<|im<|m*n,iP 0]:=by
 have:=anc (im m) (im n) (nA m) (nA n) h1 h2 (by rw[lF,lF];exact hf);rwa[lF,lF]at this
def yA(m n:Nat)(h1:(im m).length<=256:=by omega)(h2:n<=65536:=by omega)(h3:(im<|m*2^n).length<=256:=by omega):il 281 [iy<|im m,iP n]<|iy<|im<|m*2^n:=
 iE (af [.c<|R5 m n aC aC aC])
def SN(m n:Nat)(h1:(im m).length<=256)(h2:n<=65536):il 295 [iy<|im m,iP n]<|.iH [iy<|im<|m/2^n,bP<|decide (m%2^n≠0)]:=by
 have hb:=Ik h1;have hq:(im<|m/2^n).length<=256:=qH (by have:=wH<|cv m<|2^n;omega);have BL:(im<|m/2^n*2^n).length<=256:=qH (by have:=wH<|dH m<|2^n;omega);have hr:(im<|m/2^iD m).length<=256:=qH (by have:=wH<|cv m<|2^iD m;omega);have og:(im<|m/2^iD m*2^iD m).length<=256:=qH (by have:=wH<|dH m<|2^iD m;omega);by_cases hn:iD m<n
 .have q1:=VS<|dM hn;have q2:=VS<|bw<|iD m;exact iE<|ae [.c<|uJ m,tT 11 ((iD m:Int)<n) aC,.c<|uJ m,.c<|R6 m (iD m) aC aC,ag [iy<|im<|m/2^(iD m),iP (iD m:Int)]<|yA _ _,.c<|AT ((m/2^(iD m))*2^(iD m)) m]<|rQ (.iH [iy<|im<|m/2^(iD m),bP<|(lf ((m/2^(iD m))*2^(iD m)) m) != 0]) (.iH [iy<|im<|m/2^n,bP<|decide (m%2^n≠0)])<|by rw[ZQ,q1.1,q1.2,q2.1,q2.2]
 .exact iE<|ae [.c<|uJ m,tF 11 ((iD m:Int)<n) aC,.c<|R6 m n aC aC,ag [iy<|im<|m/2^n,iP n]<|yA _ _,.c<|AT ((m/2^n)*2^n) m]<|rQ (.iH [iy<|im<|m/2^n,bP<|(lf ((m/2^n)*2^n) m) != 0]) (.iH [iy<|im<|m/2^n,bP<|decide (m%2^n≠0)])<|by rw[ZQ]
abbrev TA:E:=.sl false 1 1 λi_ j_=>[.v<|.int .u32 1].getD (i_*1+j_)<|.v<|.bool false
def pq(m:Nat)(e:Int)(p:Nat):Nat:=if jz m e p<=e then m*2^(e-jz m e p).toNat else m/2^(jz m e p-e).toNat
section
variable(m:Nat)(e:Int)(more:Bool)(p:Nat)
def tG:Bool:=if jz m e p<=e then more else(more||decide (m%2^(jz m e p-e).toNat≠0))
def agB:oN m e more p false=pq m e p:=by unfold oN pq;simp
end
def Py{m:Nat}{e:Int}{more:Bool}{p:Nat}(hm:more=true->p<iD m):oN m e more p true=pq m e p+if tG m e more p=true then 1 else 0:=by
 unfold oN pq tG;by_cases hU:jz m e p<=e
 .have hmo:more=false:=by
   cases Q4:more with
   |false=>rfl
   |true=>have:=hm Q4;unfold jz at hU;omega
  simp[hU,hmo]
 .simp [hU]
def aoO(m:Nat)(e:Int)(more up:Bool)(p:Nat)(h1:(im m).length<=256)(h0:m≠0)(iC:8<=p)(iu:p<=512)(nb:-45000<=e)(mv:e<=45000)(hm:more=true->p<iD m):il 293 [.agg [iy<|im m,iP e,bP more],iP (p:Int),bP up]<|.iH [iB<|kD false m e more p up,iP<|kn false m e more p up]:=by
 have Ya:=Vu (e:=e) true h0 hm (aC:1<=p);have xY:=Vu (e:=e) false h0 hm (aC:1<=p);have hb:=Ik h1;have Mm:=qa h0;have Q7:=Vt (e:=e) (more:=more) (p:=p) (up:=true) h0;have hqa:=Vt (e:=e) (more:=more) (p:=p) (up:=false) h0;rw[agB]at xY hqa;have hu1:-16384<=(jz m e p):=by unfold jz;omega
 have hu2:(jz m e p)<=60000:=by unfold jz;omega
 have hu3:(jz m e p)<=max (e+8192) (-16384):=by unfold jz;omega
 have fa:(im<|pq m e p).length<=256:=qH;have fb:(im<|oN m e more p true).length<=256:=qH;have f1:(im 1).length<=256:=qH aE;cases up with
 |true=>
  exact iE (ae [.c<|uJ m,iL<|e+(iD m:Int),iL<|(e+(iD m:Int))-(p:Int),.o 21<|aq (if(-16384)>((e+(iD m:Int))-(p:Int))then(-16384)else((e+(iD m:Int))-(p:Int))) (jz m e p)<|by unfold jz;split<;>omega,.j 58 ⟨84,true,[(9,.e<|iy<|im<|pq m e p),(10,.e<|bP<|tG m e more p),(8,.e<|iP<|jz m e p),(6,.box 6 0),(1,.e<|iP p),(2,.e<|bP true)],[(6,.cells 37 ar)]⟩
   (.w ((jz m e p)<=e)
    (λm1=>by
     have fx:(im<|m*2^(e-(jz m e p)).toNat).length<=256:=by have:=fa;rwa[show pq m e p=_ from bk m1]at this
     exact ae [.v 29<|.bool<|bu m1,iL<|e-(jz m e p),.o 35<|aq (e-(jz m e p)) ((e-(jz m e p)).toNat:Int),.c<|yA m ((e-(jz m e p)).toNat:Nat)]<|.e<|af [.o 9 (.e<|.jq<|by rw[show pq m e p=_ from bk m1]:aj (iy<|im<|m*2^((e-(jz m e p)).toNat))<|iy<|im<|pq m e p),tB 10 (by simp[tG,m1]:more=(tG m e more p))])
    (λm1=>ae [.v 29<|.bool<|bn m1,iL<|(jz m e p)-e,.o 43<|aq ((jz m e p)-e) (((jz m e p)-e).toNat:Int),.c<|SN m (((jz m e p)-e).toNat:Nat) aC aC]<|.w (more=true)
     (λm2=>ae [tB 48 m2]<|.e<|af [.o 9 (.e<|.jq<|by rw[show pq m e p=_ from bj m1]:aj (iy<|im<|m/2^(((jz m e p)-e).toNat))<|iy<|im<|pq m e p),tB 10 (by simp[tG,m1,m2]:true=(tG m e more p))])
     (λm2=>ae [tB 48<|bc m2]<|.e<|af [.o 9 (.e<|.jq<|by rw[show pq m e p=_ from bj m1]:aj (iy<|im<|m/2^(((jz m e p)-e).toNat))<|iy<|im<|pq m e p),tB 10 (by simp[tG,m1,m2]:(decide (m%2^(((jz m e p)-e).toNat)≠0))=(tG m e more p))]))),.j 110 ⟨84,true,[(9,.e<|iy<|im<|oN m e more p true),(8,.e<|iP<|jz m e p),(6,.box 6 0),(1,.e<|iP p),(2,.e<|bP true)],[(6,.cells 37 ar)]⟩
   (.w (tG m e more p=true)
    (λm1=>by
     have fx:(im<|pq m e p+1).length<=256:=by have:=fb;rwa[Py hm,bk m1]at this
     exact ae [.v 55<|.bool m1,.o 58 (.e A0:aj TA<|iy<|im 1),.c<|JX (pq m e p) 1 aC aC aC]<|.e<|af [.o 9 (.e<|.jq<|by rw[Py hm,bk m1]:aj (iy<|im<|(pq m e p)+1)<|iy<|im<|oN m e more p true)])
    (λm1=>ae [.v 55<|.bool<|bc m1]<|.e<|af [.o 9 (.e<|.jq<|by rw[Py hm,bj m1,cj]:aj (iy<|im<|pq m e p)<|iy<|im<|oN m e more p true)])),.c<|uJ<|oN m e more p true,iL<|(iD<|oN m e more p true:Int)+(jz m e p)]<|.w (16384<((iD<|oN m e more p true:Int)+(jz m e p)))
   (λk1=>by
    have w1:=(Ya.resolve_left λh=>absurd k1 aC).2.resolve_right λh=>absurd h.1 aE;exact ae [tB 66<|bu k1,.o 68 (.e uQ:aj (.agg ar)<|iB iY)]<|rQ (.iH [iB iY,iP 9]) (.iH [iB<|kD false m e more p true,iP<|kn false m e more p true])<|by rw[w1.2.1,w1.2.2])
   (λk1=>by
    have w1:=Ya.resolve_right λh=>k1 h.1;have hd:oi<|canon false (oN m e more p true)<|jz m e p:=by rw[<-w1.2.1];exact(uq false m e more p true).range
    exact ae [tB 66<|bn k1,.c<|D2 false (oN m e more p true) (jz m e p) aC aC aC aD]<|rQ (.iH [iB<|canon false (oN m e more p true)<|jz m e p,iP 0]) (.iH [iB<|kD false m e more p true,iP<|kn false m e more p true])<|by rw[w1.2.1,w1.2.2]))
 |false=>
  exact iE (ae [.c<|uJ m,iL<|e+(iD m:Int),iL<|(e+(iD m:Int))-(p:Int),.o 21<|aq (if(-16384)>((e+(iD m:Int))-(p:Int))then(-16384)else((e+(iD m:Int))-(p:Int))) (jz m e p)<|by unfold jz;split<;>omega,.j 58 ⟨84,true,[(9,.e<|iy<|im<|pq m e p),(10,.e<|bP<|tG m e more p),(8,.e<|iP<|jz m e p),(6,.box 6 0),(1,.e<|iP p),(2,.e<|bP false)],[(6,.cells 37 ar)]⟩
   (.w ((jz m e p)<=e)
    (λm1=>by
     have fx:(im<|m*2^(e-(jz m e p)).toNat).length<=256:=by have:=fa;rwa[show pq m e p=_ from bk m1]at this
     exact ae [.v 29<|.bool<|bu m1,iL<|e-(jz m e p),.o 35<|aq (e-(jz m e p)) ((e-(jz m e p)).toNat:Int),.c<|yA m ((e-(jz m e p)).toNat:Nat)]<|.e<|af [.o 9 (.e<|.jq<|by rw[show pq m e p=_ from bk m1]:aj (iy<|im<|m*2^((e-(jz m e p)).toNat))<|iy<|im<|pq m e p),tB 10 (by simp[tG,m1]:more=(tG m e more p))])
    (λm1=>ae [.v 29<|.bool<|bn m1,iL<|(jz m e p)-e,.o 43<|aq ((jz m e p)-e) (((jz m e p)-e).toNat:Int),.c<|SN m (((jz m e p)-e).toNat:Nat) aC aC]<|.w (more=true)
     (λm2=>ae [tB 48 m2]<|.e<|af [.o 9 (.e<|.jq<|by rw[show pq m e p=_ from bj m1]:aj (iy<|im<|m/2^(((jz m e p)-e).toNat))<|iy<|im<|pq m e p),tB 10 (by simp[tG,m1,m2]:true=(tG m e more p))])
     (λm2=>ae [tB 48<|bc m2]<|.e<|af [.o 9 (.e<|.jq<|by rw[show pq m e p=_ from bj m1]:aj (iy<|im<|m/2^(((jz m e p)-e).toNat))<|iy<|im<|pq m e p),tB 10 (by simp[tG,m1,m2]:(decide (m%2^(((jz m e p)-e).toNat)≠0))=(tG m e more p))]))),.c<|uJ<|pq m e p,iL<|(iD<|pq m e p:Int)+(jz m e p)]<|.w (16384<((iD<|pq m e p:Int)+(jz m e p)))
   (λk1=>by
    have w1:=(xY.resolve_left λh=>absurd k1 aC).2.resolve_left λh=>absurd h.1 aE;have hd:oi<|canon false ((1*2^p)-1)<|16384-(p:Int):=by rw[bX,<-w1.2.1];exact(uq false m e more p false).range
    have g0:iD (1*2^p)=p+1:=by rw[bX];exact Bm (bw _) (ik aE aC)
    have g1:(im 1).length<=256:=qH aE;have g2:(im<|1*2^p).length<=256:=qH;have g4:1<=1*2^p:=by rw[bX];exact bF aE 
    have g3:(im<|(1*2^p)-1).length<=256:=qH (by have:=wH<|fm (1*2^p) 1;omega);exact ae [tB 66<|bu k1,.o 70 (.e A0:aj TA<|iy<|im 1),.c<|yA 1 p,.o 73 (.e A0:aj TA<|iy<|im 1),.c<|E6 (1*2^p) 1 aC aC,
     iL (16384-(p:Int)),.c<|D2 false ((1*2^p)-1) (16384-(p:Int)) aC aC aC aD]<|rQ (.iH [iB<|canon false ((1*2^p)-1)<|16384-(p:Int),iP 0]) (.iH [iB<|kD false m e more p false,iP<|kn false m e more p false])<|by rw[w1.2.1,w1.2.2,bX])
   (λk1=>by
    have w1:=xY.resolve_right λh=>k1 h.1;have hd:oi<|canon false (pq m e p)<|jz m e p:=by rw[<-w1.2.1];exact(uq false m e more p false).range
    exact ae [tB 66<|bn k1,.c<|D2 false (pq m e p) (jz m e p) aC aC aC aD]<|rQ (.iH [iB<|canon false (pq m e p)<|jz m e p,iP 0]) (.iH [iB<|kD false m e more p false,iP<|kn false m e more p false])<|by rw[w1.2.1,w1.2.2]))
def aoP(up:Bool)(p:Nat)(iC:8<=p)(iu:p<=512):il 293 [.agg [iy<|im 0,iP 0,bP false],iP (p:Int),bP up]<|.iH [iB<|kD false 0 0 false p up,iP<|kn false 0 0 false p up]:=by
 have hU:jz 0 0 p = -(p:Int):=by unfold jz;rw[uo];omega
 have hK:ke 0 0 p=0:=by unfold ke;rw[uo];omega
 have hQ:lQ 0 0 false p up=0:=by unfold lQ;rw[hK];simp
 have hO:mV 0 0 false p up=false:=by unfold mV;rw[hQ];simp
 have qT:(false != up)=up:=by cases up<;>rfl
 have k2:kD false 0 0 false p up=iY:=by unfold kD;rw[qT,hO,bj aE,hQ];rfl
 have k3:kn false 0 0 false p up=0:=by unfold kn;rw[qT,hO];rfl
 have lz:iD 0=0:=rfl;have l0:(im 0).length<=256:=by rw[px];decide
 have l1:(im<|0*2^(0-jz 0 0 p).toNat).length<=256:=by rw[cU];exact l0
 have lb:iD (0*2^(0-jz 0 0 p).toNat)=0:=by rw[cU];rfl
 have hd:oi<|canon false (0*2^(0-jz 0 0 p).toNat)<|jz 0 0 p:=by rw[cU];exact .inl rfl
 by_cases Yf:up=true
 .exact iE (ae [.c<|uJ 0,iL<|0+(iD 0:Int),iL<|(0+(iD 0:Int))-(p:Int),.o 21<|aq (if(-16384)>((0+(iD 0:Int))-(p:Int))then(-16384)else((0+(iD 0:Int))-(p:Int))) (jz 0 0 p)<|by unfold jz;rw[uo];split<;>omega,tT 29 ((jz 0 0 p)<=0) aC,iL<|0-(jz 0 0 p),.o 35<|aq (0-(jz 0 0 p)) ((0-(jz 0 0 p)).toNat:Int),.c<|yA 0 ((0-(jz 0 0 p)).toNat:Nat),ah 52 up Yf,.c<|uJ<|0*2^((0-(jz 0 0 p)).toNat),
   iL ((iD<|0*2^((0-(jz 0 0 p)).toNat):Int)+(jz 0 0 p)),tF 66 (16384<((iD<|0*2^((0-(jz 0 0 p)).toNat):Int)+(jz 0 0 p))) aC,.c<|D2 false (0*2^((0-(jz 0 0 p)).toNat)) (jz 0 0 p) aC aC aC aD]<|rQ (.iH [iB<|canon false (0*2^((0-(jz 0 0 p)).toNat))<|jz 0 0 p,iP 0]) (.iH [iB<|kD false 0 0 false p up,iP<|kn false 0 0 false p up])<|by rw[k2,k3,cU];rfl)
 .exact iE (ae [.c<|uJ 0,iL<|0+(iD 0:Int),iL<|(0+(iD 0:Int))-(p:Int),.o 21<|aq (if(-16384)>((0+(iD 0:Int))-(p:Int))then(-16384)else((0+(iD 0:Int))-(p:Int))) (jz 0 0 p)<|by unfold jz;rw[uo];split<;>omega,tT 29 ((jz 0 0 p)<=0) aC,iL<|0-(jz 0 0 p),.o 35<|aq (0-(jz 0 0 p)) ((0-(jz 0 0 p)).toNat:Int),.c<|yA 0 ((0-(jz 0 0 p)).toNat:Nat),ai 52 up<|by simpa using Yf,.c<|uJ<|0*2^((0-(jz 0 0 p)).toNat),
   iL ((iD<|0*2^((0-(jz 0 0 p)).toNat):Int)+(jz 0 0 p)),tF 66 (16384<((iD<|0*2^((0-(jz 0 0 p)).toNat):Int)+(jz 0 0 p))) aC,.c<|D2 false (0*2^((0-(jz 0 0 p)).toNat)) (jz 0 0 p) aC aC aC aD]<|rQ (.iH [iB<|canon false (0*2^((0-(jz 0 0 p)).toNat))<|jz 0 0 p,iP 0]) (.iH [iB<|kD false 0 0 false p up,iP<|kn false 0 0 false p up])<|by rw[k2,k3,cU];rfl)
def G7(m:Nat)(e:Int)(more up:Bool)(p:Nat)(h1:(im m).length<=256)(h0:m≠0\/m=0/\e=0/\more=false)(iC:8<=p)(iu:p<=512)(nb:-45000<=e)(mv:e<=45000)(hm:more=true->p<iD m):il 293 [.agg [iy<|im m,iP e,bP more],iP (p:Int),bP up]<|.iH [iB<|kD false m e more p up,iP<|kn false m e more p up]:=by
 rcases h0 with h0|⟨rfl,rfl,rfl⟩
 .exact aoO m e more up p h1 h0 iC iu nb mv hm
 .exact aoP up p iC iu
def kA(p:Int):Bool:=decide (8<=p)&&decide (p<=512)
def oo{p:Int}:kA p=true↔8<=p/\p<=512:=by simp[kA]
def xi(p:Int):il 118 [iP p]<|bP<|kA p:=by
 by_cases h:8<=p
 .exact iE<|ae [tB 4<|bu h]<|rQ (bP<|decide (p<=512)) (bP<|kA p)<|by simp[kA,h]
 .exact iE<|ae [tB 4<|bn h]<|rQ (bP false) (bP<|kA p)<|by simp[kA,h]
def aoR(p:Int):il 292 [iP p]<|bP<|kA p:=by
 by_cases h:8<=p
 .exact iE<|ae [tB 4<|bu h]<|rQ (bP<|decide (p<=512)) (bP<|kA p)<|by simp[kA,h]
 .exact iE<|ae [tB 4<|bn h]<|rQ (bP false) (bP<|kA p)<|by simp[kA,h]
def M4(p:Int):il 164 [iP p]<|bP<|kA p:=by
 by_cases h:8<=p
 .exact iE<|ae [tB 4<|bu h]<|rQ (bP<|decide (p<=512)) (bP<|kA p)<|by simp[kA,h]
 .exact iE<|ae [tB 4<|bn h]<|rQ (bP false) (bP<|kA p)<|by simp[kA,h]
def aby(l:List Dy)(p:Nat)(i:Nat):PS:=⟨20,true,[(9,.e<|iP i),(8,.e<|iP l.length),(7,.e<|na l),(0,.e<|iP p)],[]⟩
def Kn(neg:Bool)(m:Nat)(e:Int)(more up:Bool)(p:Nat)(h1:(im m).length<=256)(h0:m≠0\/m=0/\e=0/\more=false)(iC:8<=p)(iu:p<=512)(nb:-45000<=e)(mv:e<=45000)(hm:more=true->p<iD m):il 246 [bP neg,.agg [iy<|im m,iP e,bP more],iP p,bP up]<|.iH [iB<|kD neg m e more p up,iP<|kn neg m e more p up]:=by
 cases neg with
 |true=>
  have hs:=Vy true m e more p up;change _/\(kn false m e more p (!(up==true))=0->_->ki (kD false m e more p<|!(up==true))=_)/\((kn false m e more p (!(up==true))≠0\/_)->kD false m e more p (!(up==true))=_)at hs;have hE:kn true m e more p up=kn false m e more p (!(up==true)):=hs.1;have hv:=uq false m e more p (!(up==true)) (aC:1<=p);by_cases hz:kn false m e more p (!(up==true))=0
  .exact iE<|ae [.c<|G7 m e more (! (up==true)) p aC aD aC aC aC aC aD,ah 22 ((kn false m e more p<|!(up==true))==0)<|by rw[hz];rfl,.c<|xL (kD false m e more p<|! (up==true)) aD]<|rQ (.iH [iB<|ki<|kD false m e more p<|!(up==true),iP<|kn false m e more p<|!(up==true)]) (.iH [iB<|kD true m e more p up,iP<|kn true m e more p up])<|by rw[hs.2.1 hz rfl,hE]
  .exact iE<|ae [.c<|G7 m e more (! (up==true)) p aC aD aC aC aC aC aD,ai 22 ((kn false m e more p<|!(up==true))==0)<|by simpa using hz]<|rQ (.iH [iB<|kD false m e more p<|!(up==true),iP<|kn false m e more p<|!(up==true)]) (.iH [iB<|kD true m e more p up,iP<|kn true m e more p up])<|by rw[hs.2.2<|.inl hz,hE]
 |false=>
  have hs:=Vy false m e more p up;change _/\(kn false m e more p (!(up==false))=0->_->ki (kD false m e more p<|!(up==false))=_)/\((kn false m e more p (!(up==false))≠0\/_)->kD false m e more p (!(up==false))=_)at hs;have hE:kn false m e more p up=kn false m e more p (!(up==false)):=hs.1;have hv:=uq false m e more p (!(up==false)) (aC:1<=p);by_cases hz:kn false m e more p (!(up==false))=0
  .exact iE<|ae [.c<|G7 m e more (! (up==false)) p aC aD aC aC aC aC aD,ah 22 ((kn false m e more p<|!(up==false))==0)<|by rw[hz];rfl]<|rQ (.iH [iB<|kD false m e more p<|!(up==false),iP<|kn false m e more p<|!(up==false)]) (.iH [iB<|kD false m e more p up,iP<|kn false m e more p up])<|by rw[hs.2.2<|.inr rfl,hE]
  .exact iE<|ae [.c<|G7 m e more (! (up==false)) p aC aD aC aC aC aC aD,ai 22 ((kn false m e more p<|!(up==false))==0)<|by simpa using hz]<|rQ (.iH [iB<|kD false m e more p<|!(up==false),iP<|kn false m e more p<|!(up==false)]) (.iH [iB<|kD false m e more p up,iP<|kn false m e more p up])<|by rw[hs.2.2<|.inl hz,hE]
def aoQ(d:Dy):il 294 [iB d]<|.agg [iy<|im d.m,iP d.e,bP false]:=
 iE (.nil)
def abz(p:Nat)(l:List Dy)(hl:l.length<=1000)(hv:∀ i,i<l.length->(l.getD i iY).ix)(iC:8<=p)(iu:p<=512):il 245 [iP p,na l]<|iP 0:=
 iE (af [.s (Sp.jP (aby l p) 0 l.length aC (λi hi mW=>by
    have MD:=hv i mW;exact iS (af [tT 10 ((i:Int)<l.length) aC,iX (i:Int)<|l.length,.c<|sj (l.getD i iY) aD,iL<|(i:Int)+1]) aF)
  (λhi=>by
    exact iS (af [tF 10 ((l.length:Int)<l.length) aC]) aF) aI:jM 2 f245 (aby l p 0) (.exit 0) ⟨20,true,[(0,.e<|iP p)],[]⟩) .nil,.c<|aoR (p:Int),ah 18 (kA (p:Int))<|oo.2 ⟨aC,aC⟩])
def SM(p:Nat)(a:Dy)(ha:a.ix)(iC:8<=p)(iu:p<=512):il 245 [iP (p:Int),na [a]]<|iP 0:=
 abz p [a] aH (λi hi=>(match i,hi with
  | 0,_=>ha
  |n+1,hi=>absurd hi aH)) iC iu
def zJ(p:Nat)(a b:Dy)(ha:a.ix)(hb:b.ix)(iC:8<=p:=by omega)(iu:p<=512:=by omega):il 245 [iP (p:Int),na [a,b]]<|iP 0:=
 abz p [a,b] aH (λi hi=>(match i,hi with
  | 0,_=>ha
  | 1,_=>hb
  |n+2,hi=>absurd hi aH)) iC iu
def Nv(d:Dy)(p:Nat)(up:Bool)(hd:d.ix)(iC:8<=p:=by omega)(iu:p<=512:=by omega):il 251 [iB d,iP p,bP up]<|.iH [iB<|jd d p up,iP<|jI d p up]:=by
 have hl:=hd.im;have hz:d.m≠0\/d.m=0/\d.e=0/\false=false:=by
  by_cases h:d.m=0
  .rcases hd.canon with q|q
   .exact .inr ⟨h,q.2.2,rfl⟩
   .omega
  .exact .inl h
 have MF:-45000<=d.e:=by have:=hd.exp;omega
 have sY:d.e<=45000:=by have:=hd.exp;omega
 have hm:false=true->p<iD d.m:=λh=>by cases h
 exact iE<|af [.o 11<|.e<|CK d,ag [iP p,na [d]]<|SM _ _ aD aC aC,ai 14 ((0:Int) != 0) aE,ag [iB d]<|aoQ _,ag [bP d.neg,.agg [iy<|im d.m,iP d.e,bP false],iP p,bP up]<|Kn _ _ _ _ _ _ aC aD aC aC aC aC aD]
def FR{a b:Nat}:lf a b<0↔a<b:=by
 unfold lf;split
 .simp_all
 .split<;>simp_all
def Nw(a b:Dy)(p:Nat)(ha:a.ix)(hb:b.ix)(a0:a.m≠0)(b0:b.m≠0)(ht:b.iJ<=a.iJ)(iC:8<=p:=by omega)(iu:p<=512:=by omega):il 252 [iB a,iB b,iP p]<|.iH [.agg [iy<|im<|mJ a b p,iP<|jD a b p,bP<|nY a b p],bP<|qL a b p]:=by
 have sz:=N8 ha hb a0 b0 ht iu;have sp:=Tg ha hb a0 b0 ht iu;obtain⟨l1,l2,l3,l4,l5,l6,l7,l8,l9⟩:=sz;obtain⟨l10,l11,l12⟩:=sp;obtain⟨r1,r2,r3⟩:=SW a b p;have va:=ha.im;have vb:=hb.im;have xa:=ha.exp;have xb:=hb.exp;have ta:=KL a0;have tb:=KL b0;have ba:=Ik va;have bb:=Ik vb;have z1:(im<|a.m*2^((a.e-(jD a b p)).toNat)).length<=256:=qH (aC:iD (oV a b p)<=_);have zy:(im<|np b<|jD a b p).length<=256:=qH;have z3:(im<|nm a b p).length<=256:=qH;have zm:(im<|mJ a b p).length<=256:=qH;have z5:(im 1).length<=256:=qH aE;exact iE (ae [.c<|oY a aD,iL<|(Dy.iJ a)-(p:Int),iL<|((Dy.iJ a)-(p:Int))-8,.c<|oY a aD,.c<|oY b aD,
  iL ((Dy.iJ a)-(Dy.iJ b)),.j 62 ⟨109,true,[(8,.e<|iP<|jD a b p),(6,.box 6 0),(4,.box 4 0),(3,.box 3 0)],[(6,.cells 213 [.v<|.slice none 0 0,iP 0,bP false]),(4,.cells 37<|kG b),(3,.cells 37<|kG a)]⟩
   (.w (((Dy.iJ a)-(Dy.iJ b))<=2)
    (λm1=>ae [.v 31<|.bool<|bu m1]<|.e<|af [.o 8<|aq (if b.e<(if(((Dy.iJ a)-(p:Int))-8)<a.e then(((Dy.iJ a)-(p:Int))-8)else a.e)then b.e else(if(((Dy.iJ a)-(p:Int))-8)<a.e then(((Dy.iJ a)-(p:Int))-8)else a.e)) (jD a b p)<|by unfold jD;rw[bk m1];split<;>split<;>omega])
    (λm1=>ae [.v 31<|.bool<|bn m1]<|.e<|af [.o 8<|aq (if(((Dy.iJ a)-(p:Int))-8)<a.e then(((Dy.iJ a)-(p:Int))-8)else a.e) (jD a b p)<|by unfold jD;rw[bj m1];split<;>omega])),
  iL (a.e-(jD a b p)),.o 41<|aq (a.e-(jD a b p)) ((a.e-(jD a b p)).toNat:Int),.c<|yA a.m<|(a.e-(jD a b p)).toNat,.j 92 ⟨109,true,[(10,.e<|iy<|im<|np b<|jD a b p),(11,.e<|bP<|oF b<|jD a b p),(9,.e<|iy<|im<|a.m*2^((a.e-(jD a b p)).toNat)),(8,.e<|iP<|jD a b p),(6,.box 6 0),(4,.box 4 0),(3,.box 3 0)],[(6,.cells 213 [.v<|.slice none 0 0,iP 0,bP false]),(4,.cells 37<|kG b),(3,.cells 37<|kG a)]⟩
   (.w ((jD a b p)<=b.e)
    (λm1=>by
     have z2:(im<|b.m*2^((b.e-(jD a b p)).toNat)).length<=256:=by have:=zy;rwa[show np b (jD a b p)=_ from bk m1]at this
     exact ae [.v 46<|.bool<|bu m1,iL<|b.e-(jD a b p),.o 52<|aq (b.e-(jD a b p)) ((b.e-(jD a b p)).toNat:Int),.c<|yA b.m<|(b.e-(jD a b p)).toNat]<|.e<|af [.o 10 (.e<|.jq<|by rw[show np b (jD a b p)=_ from bk m1]:aj (iy<|im<|b.m*2^((b.e-(jD a b p)).toNat))<|iy<|im<|np b<|jD a b p),tB 11 (by simp[oF,m1]:false=(oF b<|jD a b p))])
    (λm1=>ae [.v 46<|.bool<|bn m1,iL<|(jD a b p)-b.e,.o 60<|aq ((jD a b p)-b.e) (((jD a b p)-b.e).toNat:Int),.c<|SN b.m (((jD a b p)-b.e).toNat) aC aC]<|.e<|af [.o 10 (.e<|.jq<|by rw[show np b (jD a b p)=_ from bj m1]:aj (iy<|im<|b.m/2^(((jD a b p)-b.e).toNat))<|iy<|im<|np b<|jD a b p),tB 11 (by simp[oF,m1]:(decide (b.m%2^(((jD a b p)-b.e).toNat)≠0))=(oF b<|jD a b p))]))]<|.w (a.neg=b.neg)
  (λk1=>by
   have eT:qL a b p=false:=by unfold qL;simp[k1]
   have eY:nm a b p=np b (jD a b p):=by unfold nm;simp[k1]
   have eM:mJ a b p=oV a b p+np b (jD a b p):=by unfold mJ;rw[bk k1,eY]
   have eS:nY a b p=oF b (jD a b p):=by unfold nY;rw[eT];simp
   have z4:(im<|(a.m*2^((a.e-(jD a b p)).toNat))+np b (jD a b p)).length<=256:=by have:=zm;rwa[eM]at this
   exact ae [tB 68<|aZ k1,.c<|JX (a.m*2^((a.e-(jD a b p)).toNat)) (np b<|jD a b p) aC aC aC]<|rQ (.iH [.agg [iy<|im<|(a.m*2^((a.e-(jD a b p)).toNat))+(np b<|jD a b p),iP<|jD a b p,bP<|oF b<|jD a b p],bP false]) (.iH [.agg [iy<|im<|mJ a b p,iP<|jD a b p,bP<|nY a b p],bP<|qL a b p])<|by rw[eM,eS,eT];rfl)
  (λk1=>ae [tB 68<|aY k1,.j 158 ⟨109,true,[(10,.e<|iy<|im<|nm a b p),(11,.e<|bP<|oF b<|jD a b p),(9,.e<|iy<|im<|a.m*2^((a.e-(jD a b p)).toNat)),(8,.e<|iP<|jD a b p),(6,.box 6 0)],[(6,.cells 213 [.v<|.slice none 0 0,iP 0,bP false])]⟩
   (.w (oF b (jD a b p)=true)
    (λm1=>by
     have z6:(im<|(np b<|jD a b p)+1).length<=256:=qH (by rw[show(np b<|jD a b p)+1=nm a b p by(unfold nm;simp[k1,m1])];omega);exact ae [.v 79<|.bool m1,.o 82 (.e A0:aj (.sl false 1 1 λi_ j_=>[.v<|.int .u32 1].getD (i_*1+j_)<|.v<|.bool false)<|iy<|im 1),.c<|JX (np b<|jD a b p) 1 aC aC aC]<|.e<|af [.o 10 (.e<|.jq<|by unfold nm;simp[k1,m1]:aj (iy<|im<|(np b<|jD a b p)+1)<|iy<|im<|nm a b p)])
    (λm1=>ae [.v 79<|.bool<|bc m1]<|.e<|af [.o 10 (.e<|.jq<|by unfold nm;simp[k1,m1]:aj (iy<|im<|np b<|jD a b p)<|iy<|im<|nm a b p)])),.c<|AT (a.m*2^((a.e-(jD a b p)).toNat))<|nm a b p]<|.w ((lf (a.m*2^((a.e-(jD a b p)).toNat))<|nm a b p)<0)
   (λk2=>by
    have hc:oV a b p<nm a b p:=FR.1 k2;have eT:qL a b p=true:=by unfold qL;simp[k1,hc]
    have eM:mJ a b p=nm a b p-oV a b p:=by unfold mJ;rw[bj k1,bk hc]
    have eS:nY a b p=false:=by unfold nY;rw[eT];simp
    have z4:(im<|nm a b p-(a.m*2^((a.e-(jD a b p)).toNat))).length<=256:=by have:=zm;rwa[eM]at this
    have z7:(a.m*2^((a.e-(jD a b p)).toNat))<=nm a b p:=dM hc;exact ae [tB 89<|bu k2,.c<|E6 (nm a b p) (a.m*2^((a.e-(jD a b p)).toNat)) aC aC]<|rQ (.iH [.agg [iy<|im<|(nm a b p)-(a.m*2^((a.e-(jD a b p)).toNat)),iP<|jD a b p,bP false],bP true]) (.iH [.agg [iy<|im<|mJ a b p,iP<|jD a b p,bP<|nY a b p],bP<|qL a b p])<|by rw[eM,eS,eT];rfl)
   (λk2=>by
    have hc:¬oV a b p<nm a b p:=λh=>k2 (FR.2 h)
    have eT:qL a b p=false:=by unfold qL;simp[hc]
    have eM:mJ a b p=oV a b p-nm a b p:=by unfold mJ;rw[bj k1,bj hc]
    have eS:nY a b p=oF b (jD a b p):=by unfold nY;rw[eT];simp
    have z4:(im<|(a.m*2^((a.e-(jD a b p)).toNat))-nm a b p).length<=256:=by have:=zm;rwa[eM]at this
    have z7:nm a b p<=(a.m*2^((a.e-(jD a b p)).toNat)):=Nat.le_of_not_lt hc;exact ae [tB 89<|bn k2,.c<|E6 (a.m*2^((a.e-(jD a b p)).toNat)) (nm a b p) aC aC]<|rQ (.iH [.agg [iy<|im<|(a.m*2^((a.e-(jD a b p)).toNat))-(nm a b p),iP<|jD a b p,bP<|oF b<|jD a b p],bP false]) (.iH [.agg [iy<|im<|mJ a b p,iP<|jD a b p,bP<|nY a b p],bP<|qL a b p])<|by rw[eM,eS,eT];rfl)))
def DC(p:Nat)(up:Bool):jd iY p up=iY/\jI iY p up=0:=by
 have hK:ke 0 0 p=0:=by unfold ke;rw[uo];omega
 have hQ:∀ o,lQ 0 0 false p o=0:=by intro o;unfold lQ;rw[hK];simp
 have hO:∀ o,mV 0 0 false p o=false:=by intro o;unfold mV;rw[hQ];simp
 unfold jd jI kD kn;simp only[iY,hO,hQ];exact⟨rfl,rfl⟩
section
variable(a b:Dy)(p:Nat)(up:Bool)(ha:a.ix)(hb:b.ix)(iC:8<=p)(iu:p<=512)
def abv:il 205 [iB a,iB b,iP p,bP up]<|.iH [iB<|jd (jc a b) p up,iP<|jI (jc a b) p up]:=by
 by_cases a0:a.m=0
 .have e1:jc a b=b:=by unfold jc;rw[bk a0]
  exact iE<|ae [.o 16<|.e<|yU a b,.c<|zJ p a b aD aD,ai 19 ((0:Int) != 0) aE,ah 26 (((im a.m).length:Int)==0)<|ua<|xk.2 a0,.c<|Nv b p up aD]<|rQ (.iH [iB<|jd b p up,iP<|jI b p up]) (.iH [iB<|jd (jc a b) p up,iP<|jI (jc a b) p up])<|by rw[e1]
 .by_cases b0:b.m=0
  .have e1:jc a b=a:=by unfold jc;rw[bj a0,bk b0]
   exact iE<|ae [.o 16<|.e<|yU a b,.c<|zJ p a b aD aD,ai 19 ((0:Int) != 0) aE,ai 26 (((im a.m).length:Int)==0)<|oj<|qt a0,ah 37 (((im b.m).length:Int)==0)<|ua<|xk.2 b0,.c<|Nv a p up aD]<|rQ (.iH [iB<|jd a p up,iP<|jI a p up]) (.iH [iB<|jd (jc a b) p up,iP<|jI (jc a b) p up])<|by rw[e1]
  .by_cases ht:a.iJ<b.iJ
   .have uE:a.iJ<=b.iJ:= aC ;have law:=acQ (p:=p) hb ha b0 a0 up;have siz:=N8 hb ha b0 a0 uE iu;have prt:=Tg hb ha b0 a0 uE iu;obtain⟨l1,l2,_,_,_,_,_,_,_⟩:=siz;have z1:(im<|mJ b a p).length<=256:=qH;have rT:=prt.2.2;have y1:-45000<=jD b a p:= aC ;have y2:jD b a p<=45000:= aC ;by_cases hz:mJ b a p=0
    .by_cases hl:nY b a p=true
     .have h0:mJ b a p≠0:=by intro q;have:=rT hl;rw[q,uo]at this;omega
      exact absurd hz h0
     .replace hz:mJ b a p=0/\nY b a p=false:=⟨hz,by simpa using hl⟩
      have Gp:jc a b=iY:=by rw[Tf a0 b0];exact law.1 hz
      exact iE<|ae [.o 16<|.e<|yU a b,.c<|zJ p a b aD aD,ai 19 ((0:Int) != 0) aE,ai 26 (((im a.m).length:Int)==0)<|oj<|qt a0,ai 37 (((im b.m).length:Int)==0)<|oj<|qt b0,.c<|oY a aD,.c<|oY b aD,tB 48<|bu ht,.c<|Nw b a p aD aD aD aD aD,ah 61 (((im<|mJ b a p).length:Int)==0)<|ua<|xk.2 hz.1,ai 64 (nY b a p) hz.2,.o 67 (.e uQ:aj (.agg ar)<|iB iY)]<|rQ (.iH [iB iY,iP 0]) (.iH [iB<|jd (jc a b) p up,iP<|jI (jc a b) p up])<|by rw[Gp,(DC p up).1,(DC p up).2]
    .have h0:mJ b a p≠0\/mJ b a p=0/\jD b a p=0/\nY b a p=false:=.inl hz;obtain⟨q1,q2⟩:=law.2 λq=>hz q.1;rw[<-Tf a0 b0]at q1 q2;exact iE<|ae [.o 16<|.e<|yU a b,.c<|zJ p a b aD aD,ai 19 ((0:Int) != 0) aE,ai 26 (((im a.m).length:Int)==0)<|oj<|qt a0,ai 37 (((im b.m).length:Int)==0)<|oj<|qt b0,.c<|oY a aD,.c<|oY b aD,tB 48<|bu ht,.c<|Nw b a p aD aD aD aD aD,ai 61 (((im<|mJ b a p).length:Int)==0)<|oj<|qt hz,.c<|Kn (! (b.neg==(qL b a p))) (mJ b a p) (jD b a p) (nY b a p) up p aC aD aC aC aC aC aD]<|rQ (.iH [iB<|kD (!(b.neg==(qL b a p))) (mJ b a p) (jD b a p) (nY b a p) p up,iP<|kn (!(b.neg==(qL b a p))) (mJ b a p) (jD b a p) (nY b a p) p up]) (.iH [iB<|jd (jc a b) p up,iP<|jI (jc a b) p up])<|by rw[<-q1,<-q2];rfl
   .have uE:b.iJ<=a.iJ:= aC ;have law:=acQ (p:=p) ha hb a0 b0 up;have siz:=N8 ha hb a0 b0 uE iu;have prt:=Tg ha hb a0 b0 uE iu;obtain⟨l1,l2,_,_,_,_,_,_,_⟩:=siz;have z1:(im<|mJ a b p).length<=256:=qH;have rT:=prt.2.2;have y1:-45000<=jD a b p:= aC ;have y2:jD a b p<=45000:= aC ;by_cases hz:mJ a b p=0
    .by_cases hl:nY a b p=true
     .have h0:mJ a b p≠0:=by intro q;have:=rT hl;rw[q,uo]at this;omega
      exact absurd hz h0
     .replace hz:mJ a b p=0/\nY a b p=false:=⟨hz,by simpa using hl⟩
      have Gp:jc a b=iY:=by exact law.1 hz
      exact iE<|ae [.o 16<|.e<|yU a b,.c<|zJ p a b aD aD,ai 19 ((0:Int) != 0) aE,ai 26 (((im a.m).length:Int)==0)<|oj<|qt a0,ai 37 (((im b.m).length:Int)==0)<|oj<|qt b0,.c<|oY a aD,.c<|oY b aD,tB 48<|bn ht,.c<|Nw a b p aD aD aD aD aD,ah 61 (((im<|mJ a b p).length:Int)==0)<|ua<|xk.2 hz.1,ai 64 (nY a b p) hz.2,.o 67 (.e uQ:aj (.agg ar)<|iB iY)]<|rQ (.iH [iB iY,iP 0]) (.iH [iB<|jd (jc a b) p up,iP<|jI (jc a b) p up])<|by rw[Gp,(DC p up).1,(DC p up).2]
    .have h0:mJ a b p≠0\/mJ a b p=0/\jD a b p=0/\nY a b p=false:=.inl hz;obtain⟨q1,q2⟩:=law.2 λq=>hz q.1;exact iE<|ae [.o 16<|.e<|yU a b,.c<|zJ p a b aD aD,ai 19 ((0:Int) != 0) aE,ai 26 (((im a.m).length:Int)==0)<|oj<|qt a0,ai 37 (((im b.m).length:Int)==0)<|oj<|qt b0,.c<|oY a aD,.c<|oY b aD,tB 48<|bn ht,.c<|Nw a b p aD aD aD aD aD,ai 61 (((im<|mJ a b p).length:Int)==0)<|oj<|qt hz,.c<|Kn (! (a.neg==(qL a b p))) (mJ a b p) (jD a b p) (nY a b p) up p aC aD aC aC aC aC aD]<|rQ (.iH [iB<|kD (!(a.neg==(qL a b p))) (mJ a b p) (jD a b p) (nY a b p) p up,iP<|kn (!(a.neg==(qL a b p))) (mJ a b p) (jD a b p) (nY a b p) p up]) (.iH [iB<|jd (jc a b) p up,iP<|jI (jc a b) p up])<|by rw[<-q1,<-q2];rfl
def abA:il 198 [iB a,iB b,iP p,bP up]<|.iH [iB<|jd (mI a b) p up,iP<|jI (mI a b) p up]:=by
 by_cases a0:a.m=0
 .have e1:mI a b=iY:=by unfold mI;rw[a0,cU];rfl
  exact iE<|ae [.o 16<|.e<|yU a b,.c<|zJ p a b aD aD,ai 19 ((0:Int) != 0) aE,ah 25 (((im a.m).length:Int)==0)<|ua<|xk.2 a0,.o 32 (.e uQ:aj (.agg ar)<|iB iY)]<|rQ (.iH [iB iY,iP 0]) (.iH [iB<|jd (mI a b) p up,iP<|jI (mI a b) p up])<|by rw[e1,(DC p up).1,(DC p up).2]
 .by_cases b0:b.m=0
  .have e1:mI a b=iY:=by unfold mI;rw[b0,dj];rfl
   exact iE<|ae [.o 16<|.e<|yU a b,.c<|zJ p a b aD aD,ai 19 ((0:Int) != 0) aE,ai 25 (((im a.m).length:Int)==0)<|oj<|qt a0,ah 30 (((im b.m).length:Int)==0)<|ua<|xk.2 b0,.o 32 (.e uQ:aj (.agg ar)<|iB iY)]<|rQ (.iH [iB iY,iP 0]) (.iH [iB<|jd (mI a b) p up,iP<|jI (mI a b) p up])<|by rw[e1,(DC p up).1,(DC p up).2]
  .have va:=ha.im;have vb:=hb.im;have xa:=ha.exp;have xb:=hb.exp;have ra:=ha.range.resolve_left a0;have rb:=hb.range.resolve_left b0;have bm:=afe a.m b.m;have z1:(im<|a.m*b.m).length<=256:=qH;have m0:a.m*b.m≠0:=ej a0 b0;have h0:a.m*b.m≠0\/a.m*b.m=0/\a.e+b.e=0/\false=false:=.inl m0;have hm:false=true->p<iD (a.m*b.m):=λh=>by cases h
   obtain⟨q1,q2⟩:=abO (a.neg != b.neg) up (a.m*b.m) (a.e+b.e) p m0;change jd (mI a b) p up=_ at q1;change jI (mI a b) p up=_ at q2;exact iE<|ae [.o 16<|.e<|yU a b,.c<|zJ p a b aD aD,ai 19 ((0:Int) != 0) aE,ai 25 (((im a.m).length:Int)==0)<|oj<|qt a0,ai 30 (((im b.m).length:Int)==0)<|oj<|qt b0,.c<|Ca a.m b.m aC aC aC,iL<|a.e+b.e,.c<|Kn (! (a.neg==b.neg)) (a.m*b.m) (a.e+b.e) false up p aC aD aC aC aC aC aD]<|rQ (.iH [iB<|kD (!(a.neg==b.neg)) (a.m*b.m) (a.e+b.e) false p up,iP<|kn (!(a.neg==b.neg)) (a.m*b.m) (a.e+b.e) false p up]) (.iH [iB<|jd (mI a b) p up,iP<|jI (mI a b) p up])<|by rw[q1,q2];rfl
end
section
variable(a b:Dy)(p:Nat)(ha:a.ix)(hb:b.ix)
def Ns(iC:8<=p:=by omega)(iu:p<=512:=by omega):il 125 [iB a,iB b,iP p]<|.iH [iB<|jd (jc a b) p false,iP<|jI (jc a b) p false]:=
 iE (af [ag [iB a,iB b,iP p,bP false]<|abv _ _ _ _ aD aD aC aC])
def G6(iC:8<=p:=by omega)(iu:p<=512:=by omega):il 126 [iB a,iB b,iP p]<|.iH [iB<|jd (jc a b) p true,iP<|jI (jc a b) p true]:=
 iE (af [ag [iB a,iB b,iP p,bP true]<|abv _ _ _ _ aD aD aC aC])
def Km(iC:8<=p:=by omega)(iu:p<=512:=by omega):il 120 [iB a,iB b,iP p]<|.iH [iB<|jd (mI a b) p false,iP<|jI (mI a b) p false]:=
 iE (af [ag [iB a,iB b,iP p,bP false]<|abA _ _ _ _ aD aD aC aC])
def Nt(iC:8<=p)(iu:p<=512):il 121 [iB a,iB b,iP p]<|.iH [iB<|jd (mI a b) p true,iP<|jI (mI a b) p true]:=
 iE (af [ag [iB a,iB b,iP p,bP true]<|abA _ _ _ _ aD aD aC aC])
end
end Go.Proofs.YtjkmahljfblobaaGreatDoor
namespace Go.Proofs.YtjkmahljfblobaaGreatDoor.Fp
def alO{U V P q:Nat}(hP:0<P)(hV:9223372036854775808<=V/P)(hUV:U<4294967296*V)(h1:q<=4294967295)(h2:q<=U/P/(V/P))(h3:q=4294967295\/U/P/(V/P)<=q):
 U/V<=q/\q<=U/V+1:=by
 have QB:0<V/P:= aC ;have yY:0<V:=by
  apply ca;intro h;have:V=0:= aC ;rw[this,Nat.zero_div]at QB;omega
 have hVm:=cW V P;have hVr:=bR V hP;have hUm:=cW U P;have hUr:=bR U hP;constructor
 .
  rcases h3 with h3|h3
  .have:U/V<4294967296:=by rw[cT yY];exact hUV
   omega
  .refine bA ?_ h3;rw[dF QB,dF hP,bI];have h4:V/P*P<=V:=dH V P;exact bA (cV _ h4)<|dH U V
 .
  have h4:q*(V/P)<=U/P:=(dF QB).1 h2;have h5:q*V<=q*(V/P)*P+q*P:=by
   have:V<=V/P*P+P:=by rw[bQ];omega
   have:=cV q this;rw[ch,<-bI]at this;exact this
  have h6:q*(V/P)*P<=U:=bA (bU P h4)<|dH U P;have h7:(q+1)*P<=V/P*P:=bU P aC;have h8:V/P*P<=V:=dH V P;have h9:q*V<U+V:=by
   rw[bT,bX]at h7;omega
  apply ca;intro h;have nU:(U/V+2)*V<=q*V:=bU V aC;have nV:=cW U V;have h12:=bR U yY;rw[bT,bQ<|U/V]at nU;omega
section
variable{x v w third q rest:Nat}(hx:q*v+rest=x)
def agM(hq:q<=4294967295)(hw:w<4294967296)(hv:0<v)
 (h:4294967296<=rest\/q*w<=rest*4294967296+third):q<=(x*4294967296+third)/(v*4294967296+w):=by
 rw[dF aC,ch,<-hx];have e:q*(v*4294967296)=q*v*4294967296:=by rw[bI]
 rw[e,bT];rcases h with h|h
 .have h1:q*w<=4294967295*4294967295:=dU hq aC ;omega
 .omega
def VI(hv:0<v)(h:rest*4294967296+third<q*w):
 (x*4294967296+third)/(v*4294967296+w)<=q-1/\0<q/\(q-1)*v+(rest+v)=x:=by
 have hq:0<q:=by
  apply ca;intro h';have:q=0:= aC ;subst this;rw[cU]at h;omega
 obtain⟨r,rfl⟩:∃ r,q=r+1:=⟨q-1,aC⟩
 refine⟨?_,hq,?_⟩
 .have e1:(r+1)*(v*4294967296+w)=(r+1)*v*4294967296+(r+1)*w:=by rw[ch,<-bI]
  have e2:((r+1)*v+rest)*4294967296=(r+1)*v*4294967296+rest*4294967296:=bT _ _ _;have:(x*4294967296+third)/(v*4294967296+w)<r+1:=by
   have hd:0<v*4294967296+w:= aC ;have e4:x*4294967296=(r+1)*v*4294967296+rest*4294967296:=hx▸e2;refine(cT hd).2 ?_;rw[e1,e4];clear e1 e2 e4 hd hx hq;generalize (r+1)*v=a at *
   generalize (r+1)*w=z at *
   exact Nat.add_lt_add_left h _|>λh=>by rw[<-de]at h;exact h
  omega
 .have e3:(r+1)*v=r*v+v:=ato r v;rw[fe];rw[e3]at hx;clear e3 h hq;generalize r*v=a at *
  omega
end
def agO{x v w third:Nat}(hv:0<v)(ht:third<4294967296):(x*4294967296+third)/(v*4294967296+w)<=x/v:=by
 have h1:(x*4294967296+third)/(v*4294967296+w)<=(x*4294967296+third)/(v*4294967296):=atp aC aC;refine bA h1 ?_;rw[bQ v,<-dN];have:(x*4294967296+third)/4294967296=x:= aC ;rw[this];exact bw _
structure Ad(O0:List Nat)(j q:Nat)(V:List Nat)(k:Nat)(O:List Nat)(c b:Nat):Prop where
 len:O.length=O0.length
 ok:iW O
 vl:val O+q*(4294967296^j*val (V.take k))=val O0+4294967296^(j+k)*(c+b)
 rG:∀ i,j+k<=i->O.getD i 0=O0.getD i 0
 UY:c<4294967296
 UG:b<=1
def Ad.start{O0:List Nat}(h:iW O0)(j q:Nat)(V:List Nat):Ad O0 j q V 0 O0 0 0:=
 ⟨rfl,h,by simp[val],λ_ _=>rfl,aE,aE⟩
def arJ{q y c b u:Nat}(hq:q<=4294967295)(hy:y<4294967296)(hc:c<4294967296)(hb:b<=1)(hu:u<4294967296):
 q*y+c<18446744073709551616/\(q*y+c)/4294967296<4294967296 /\
 ((u+18446744073709551616-(q*y+c)%4294967296-b)%18446744073709551616)/9223372036854775808<=1 /\
 ((u+18446744073709551616-(q*y+c)%4294967296-b)%18446744073709551616)%4294967296+(q*y+c)%4294967296+b =
  u+4294967296*(((u+18446744073709551616-(q*y+c)%4294967296-b)%18446744073709551616)/9223372036854775808):=by
 have h1:q*y<=4294967295*4294967295:=dU hq aC;generalize q*y=z at *
 omega
def Ad.step{O0 V O:List Nat}{j q k c b:Nat}(h:Ad O0 j q V k O c b){u' b':Nat}(hk:k<V.length)(hj:j+V.length<O0.length)(hu:u'<4294967296)(hc:(q*V.getD k 0+c)/4294967296<4294967296)(hb:b'<=1)
 (hd:u'+(q*V.getD k 0+c)%4294967296+b=O.getD (j+k) 0+4294967296*b'):
 Ad O0 j q V (k+1) (O.set (j+k) u') ((q*V.getD k 0+c)/4294967296) b':=by
 have rz:j+k<O.length:=by rw[h.len];omega
 refine⟨by rw[cY];exact h.len,h.ok.set _ hu,?_,λi hi=>?_,hc,hb⟩
 .have e:=ff (q*V.getD k 0+c) 4294967296;have h1:=FC (x:=u') rz;have h2:=h.vl;have h3:u'+(q*V.getD k 0+c)+b=O.getD (j+k) 0+4294967296*((q*V.getD k 0+c)/4294967296+b'):= aC ;have h4:=congrArg (4294967296^(j+k) * ·) h3;simp only[ch]at h4;rw[DM,ch<|4294967296^j,ch q,<-bI (4294967296^j),<-bE,show q*(4294967296^(j+k)*V.getD k 0)=4294967296^(j+k)*(q*V.getD k 0)from eE _ _ _,
   show j+(k+1)=j+k+1 from rfl,bM,bI,ch 4294967296,ch<|4294967296^(j+k)]
  rw[ch]at h2;omega
 .rw [CR aC];exact h.rG i aC 
def Ad.RN{O0 V O:List Nat}{j q c b:Nat}(h:Ad O0 j q V V.length O c b)(hj:j+V.length<O0.length){t:Nat}
 (ht:t=(O.getD (j+V.length) 0+18446744073709551616-c-b)%18446744073709551616):
 (O.set (j+V.length)<|t%4294967296).length=O0.length/\iW (O.set (j+V.length)<|t%4294967296)/\t/9223372036854775808<=1 /\
 val (O.set (j+V.length)<|t%4294967296)+q*(4294967296^j*val V)=val O0+4294967296^(j+V.length+1)*(t/9223372036854775808) /\
 ∀ i,j+V.length<i->(O.set (j+V.length)<|t%4294967296).getD i 0=O0.getD i 0:=by
 have rz:j+V.length<O.length:=by rw[h.len];omega
 have hc:=h.UY;have hb:=h.UG;have hu:=h.ok.getD<|j+V.length;have hd:t%4294967296+c+b=O.getD (j+V.length) 0+4294967296*(t/9223372036854775808):= aC ;refine⟨by rw[cY];exact h.len,h.ok.set _<|bR _ aE,aC,?_,λi hi=>by rw[CR aC];exact h.rG i aC⟩;have h1:=FC (x:=t%4294967296) rz;have h2:=h.vl;rw[ado]at h2;have h4:=congrArg (4294967296^(j+V.length) * ·) hd;simp only[ch]at h4;rw[bM,bI];rw[ch]at h2;omega
structure z8(O0:List Nat)(j:Nat)(V:List Nat)(k:Nat)(O:List Nat)(c:Nat):Prop where
 len:O.length=O0.length
 ok:iW O
 vl:val O+4294967296^(j+k)*c=val O0+4294967296^j*val (V.take k)
 rG:∀ i,j+k<=i->O.getD i 0=O0.getD i 0
 Pg:c<=1
def z8.start{O0:List Nat}(h:iW O0)(j:Nat)(V:List Nat):z8 O0 j V 0 O0 0:=
 ⟨rfl,h,by simp[val],λ_ _=>rfl,aE⟩
def z8.step{O0 V O:List Nat}{j k c:Nat}(h:z8 O0 j V k O c)(hV:iW V)(hk:k<V.length)(hj:j+V.length<O0.length):
 z8 O0 j V (k+1) (O.set (j+k)<|(O.getD (j+k) 0+V.getD k 0+c)%4294967296) ((O.getD (j+k) 0+V.getD k 0+c)/4294967296):=by
 have rz:j+k<O.length:=by rw[h.len];omega
 have hu:=h.ok.getD<|j+k;have hy:=hV.getD k;have hc:=h.Pg;refine⟨by rw[cY];exact h.len,h.ok.set _<|bR _ aE,?_,λi hi=>by rw[CR aC];exact h.rG i aC,aC⟩;have h1:=FC (x:=(O.getD (j+k) 0+V.getD k 0+c)%4294967296) rz;have h2:=h.vl;have h4:=congrArg (4294967296^(j+k) * ·)<|ff (O.getD (j+k) 0+V.getD k 0+c) 4294967296;simp only[ch]at h4;rw[DM,ch<|4294967296^j,<-bI (4294967296^j),<-bE,show j+(k+1)=j+k+1 from rfl,bM,bI];omega
def z8.RN{O0 V O:List Nat}{j c:Nat}(h:z8 O0 j V V.length O c)(hj:j+V.length<O0.length):
 (O.set (j+V.length)<|(O.getD (j+V.length) 0+c)%4294967296).length=O0.length/\iW (O.set (j+V.length)<|(O.getD (j+V.length) 0+c)%4294967296) /\
 (∃ κ,κ<=1/\val (O.set (j+V.length)<|(O.getD (j+V.length) 0+c)%4294967296)+4294967296^(j+V.length+1)*κ=val O0+4294967296^j*val V) /\
 ∀ i,j+V.length<i->(O.set (j+V.length)<|(O.getD (j+V.length) 0+c)%4294967296).getD i 0=O0.getD i 0:=by
 have rz:j+V.length<O.length:=by rw[h.len];omega
 have hu:=h.ok.getD<|j+V.length;have hc:=h.Pg;refine⟨by rw[cY];exact h.len,h.ok.set _<|bR _ aE,⟨(O.getD (j+V.length) 0+c)/4294967296,aC,?_⟩,λi hi=>by rw[CR aC];exact h.rG i aC⟩;have h1:=FC (x:=(O.getD (j+V.length) 0+c)%4294967296) rz;have h2:=h.vl;rw[ado]at h2;have h4:=congrArg (4294967296^(j+V.length) * ·)<|ff (O.getD (j+V.length) 0+c) 4294967296;simp only[ch]at h4;rw[bM,bI];omega
section
variable{O:List Nat}(h:iW O){k:Nat}
def ads(hz:∀ i,k<=i->O.getD i 0=0):val O<4294967296^k:=by
 by_cases hk:O.length<=k
 .exact bV (pL h)<|bY aE hk
 .rw [Hr O k];have:val (O.drop k)=0:=by
   rw[KQ];intro x hx;obtain⟨i,hi⟩:=dD.1 hx;rw[dK]at hi;have:=hz (k+i) aC;rw[bt,hi]at this;exact this
  rw[this,dj,cj];have h1:=pL<|h.take k;rw[cJ,dA aC]at h1;exact h1
def arU(hv:val O<4294967296^k){i:Nat}(hi:k<=i):O.getD i 0=0:=by
 have h1:val (O.drop k)=0:=by rw[KP h,dB hv]
 rw[KQ]at h1;rw[bt];cases hg:O[i]? with
 |none=>rfl
 |some x=>exact h1 x<|dD.2 ⟨i-k,by rw[dK,(aC:k+(i-k)=i)];exact hg⟩
end
def VJ{u u' V P x:Nat}(hP:0<P)(hV:0<V)(h:u'+x*(P*V)=u)(hx:u/P/V<=x):x=u/P/V/\u'<V*P:=by
 have h1:x*V<=u/P:=by
  rw[dF hP,bI,bQ V P];omega
 have h2:x<=u/P/V:=(dF hV).2 h1;have h3:x=u/P/V:= aC ;refine⟨h3,?_⟩;have e1:=cW u P;have e2:=bR u hP;have e3:=cW (u/P) V;have e4:=bR (u/P) hV;rw[<-h3]at e3;have e5:P*(u/P)=x*(P*V)+P*(u/P%V):=by
  rw[<-e3,ch,e3,bQ V x,eE]
 have e6:P*(u/P%V)+P<=V*P:=by
  rw[bQ V P,<-Nat.mul_succ];exact cV P e4
 omega
def agN{u u' u'' V P R x κ:Nat}(hP:0<P)(hV:0<V)(h:u'+x*(P*V)=u+R)(h':u'<R)(hx:x<=u/P/V+1)
 (hk:κ<=1) (h2:u''+R*κ=u'+P*V) (h3:u''<R):0<x/\x-1=u/P/V/\u''+(x-1)*(P*V)=u/\u''<V*P:=by
 have qh:u/P<x*V:=by
  rw[cT hP,bI,bQ V P];omega
 have MF:u/P/V<x:=by rw[cT hV];exact qh
 have sY:x=u/P/V+1:=Nat.le_antisymm hx MF;obtain⟨y,hy⟩:∃ y,y=u/P/V:=⟨_,rfl⟩
 rw[<-hy]at sY;subst sY;rw[fe];have e0:(y+1)*(P*V)=y*(P*V)+P*V:=ato _ _;have e1:y*(P*V)<=u:=by
  have:y*V<=u/P:=by rw[hy];exact dH _ _
  have:=(dF hP).1 this;rw[bI,bQ V P]at this;exact this
 have hκ:κ=1:=by
  apply ca;intro q;obtain rfl:κ=0:= aC ;omega
 subst hκ;have e2:u''+y*(P*V)=u:= aC ;exact⟨aC,hy,e2,(VJ hP hV e2 aC).2⟩
def uY(q rest third v w x:Nat):Prop:=rest+x*v<4294967296/\(rest+x*v)*4294967296+third<(q-x)*w
def VG{X q rest third v w:Nat}(hx:q*v+rest=X)(hq:q<=4294967295)(hv:2147483648<=v)(hw:w<4294967296):
 ∃ N,N<=2/\N<=q/\(∀ x,x<N->uY q rest third v w x)/\¬uY q rest third v w N/\q-N<=(X*4294967296+third)/(v*4294967296+w)/\(N=0\/(X*4294967296+third)/(v*4294967296+w)<=q-N):=by
 have stop:∀ {q' r':Nat},q'*v+r'=X->q'<=4294967295->¬(r'<4294967296/\r'*4294967296+third<q'*w)->q'<=(X*4294967296+third)/(v*4294967296+w):=fun {q' r'} h1 h2 h3=>
  agM h1 h2 hw aC (by
   by_cases hr:4294967296<=r'
   .exact .inl hr
   .refine .inr<|Nat.le_of_not_lt λhn=>h3 ⟨Nat.lt_of_not_le hr,hn⟩)
 by_cases h0:uY q rest third v w 0
 .have g0:=h0;unfold uY at g0;rw[cU,cj,eD]at g0;obtain⟨k1,k2,k3⟩:=VI hx aC g0.2;by_cases h1:uY q rest third v w 1
  .have g1:=h1;unfold uY at g1;rw[bX]at g1;obtain⟨l1,l2,l3⟩:=VI k3 aC g1.2;have h2:¬uY q rest third v w 2:=λh=>by unfold uY at h;omega
   refine⟨2,bw _,aC,λx hx=>?_,h2,?_,.inr l1⟩
   .obtain rfl|rfl:x=0\/x=1:= aC 
    .exact h0
    .exact h1
   .refine stop (r':=rest+v+v) l3 aC λh=> aC 
  .refine ⟨1,aE,k2,λx hx=>?_,h1,?_,.inr k1⟩
   .obtain rfl:x=0:= aC ;exact h0
   .unfold uY at h1;rw[bX]at h1;exact stop k3 aC h1
 .refine ⟨0,aE,ck _,λx hx=>absurd hx<|bC x,h0,?_,.inl rfl⟩;unfold uY at h0;rw[cU,cj,eD]at h0;exact stop hx hq h0
def ag4{a b s q r:Nat}(hb:0<b)(h:r+b*2^s*q=a*2^s)(hr:r<b*2^s):q=a/b/\r=a%b*2^s:=by
 have hp:0<2^s:=bF aE;have h1:r%2^s=0:=by
  have:=congrArg (· % 2^s) h;simp only[gv]at this;rw[bI,eE,eK]at this;exact this
 obtain⟨t,ht⟩:∃ t,r=t*2^s:=⟨r/2^s,by rw[Nat.div_mul_cancel<|Nat.dvd_of_mod_eq_zero h1]⟩
 subst ht;have h2:(t+b*q)*2^s=a*2^s:=by rw[bT,<-h,gV]
 have h3:=auc hp h2;have h4:t<b:=aud hr;constructor
 .rw [<-h3,fB _ _ hb,dB h4,cw]
 .rw [<-h3,eK,cF h4]
def ac8{O:List Nat}(h:iW O){j n:Nat}(hn:2<=n)(hz:∀ i,j+n<i->O.getD i 0=0):
 val O/4294967296^j/4294967296^(n-2)=(O.getD (j+n) 0*4294967296+O.getD (j+n-1) 0)*4294967296+O.getD (j+n-2) 0:=by
 rw[dN,<-bE,<-KP h];have e:∀ (l:List Nat),iW l->(∀ i,2<i->l.getD i 0=0)->val l=(l.getD 2 0*4294967296+l.getD 1 0)*4294967296+l.getD 0 0:=by
  intro l hl hz;rcases l with _|⟨a,_|⟨b,_|⟨c,l⟩⟩⟩
  .rfl
  .simp [val]
  .simp [val];omega
  .have:val l=0:=by
    rw[KQ];intro x hx;obtain⟨i,hi⟩:=dD.1 hx;have:=hz (i+3) aC;rw[bt]at this;simp only[at1,hi]at this;exact this
   simp[val,this];omega
 have g:∀ i,(O.drop<|j+(n-2)).getD i 0=O.getD (j+(n-2)+i) 0:=λi=>by
  rw[bt,dK,bt]
 rw[e _ (h.drop _) (λi hi=>by rw[g];exact hz _ aC),g,g,g];rw[(aC:j+(n-2)+2=j+n),(aC:j+(n-2)+1=j+n-1),(aC:j+(n-2)+0=j+n-2)]
def arR{V:List Nat}(h:iW V){n:Nat}(hn:2<=n)(hl:V.length=n):val V/4294967296^(n-2)=V.getD (n-1) 0*4294967296+V.getD (n-2) 0:=by
 have:=ac8 (O:=V) h (j:=0) (n:=n) hn (λi hi=>by rw[bt,bW aC];rfl);rw[cR,fS,cw]at this;rw[this,show V.getD n 0=0 by rw[bt,bW aC];rfl];omega
end Go.Proofs.YtjkmahljfblobaaGreatDoor.Fp
namespace Go.Proofs.YtjkmahljfblobaaGreatDoor
open Go.RowKit Fp
def Rx(w:World)(b:Nat)(L:List Nat)(R:List Value):Prop:=w.heap[b]? = some (.cells (pB L++R).toArray 95 (0,0))
section
variable {w w':World} {b:Nat} {L:List Nat} {R:List Value}
def Rx.lt(h:Rx w b L R):b<w.heap.size:=(dq.1 h).1
def Rx.cell(h:Rx w b L R){i:Nat}(hi:i<L.length):w.cell? ⟨b,i,none⟩=some (.int .u32 (L.getD i 0:Int)):=by
 unfold Rx at h;simp only[World.cell?,h];simp[pB,hi,eR]
def Rx.frozen(h:Rx w b L R)(i:Nat):w.frozen? ⟨b,i,none⟩=false:=by
 unfold Rx at h;simp[World.frozen?,h]
def Rx.set(h:Rx w b L R){i:Nat}(hi:i<L.length)(x:Nat):Rx (w.setCell ⟨b,i,none⟩<|.int .u32 (x:Int)) b (L.set i x) R:=by
 unfold Rx at h ⊢;simp only[World.setCell,dr,h];simp[pB,List.map_set,List.set_append,hi]
def Rx.rG(h:Rx w b L R)(hb:w'.heap[b]? = w.heap[b]?):Rx w' b L R:=by unfold Rx at h ⊢;rw[hb];exact h
end
structure uR(b:Nat)(w w':World):Prop where
 below:Below b w w'
 size:w'.heap.size=w.heap.size
 oE:∀ x,x≠b->w'.heap[x]? = w.heap[x]?
def uR.refl(b:Nat)(w:World):uR b w w:=⟨Below.refl _ _,rfl,λ_ _=>rfl⟩
def uR.Kz{b:Nat}{w w':World}(h:uR b w w')(i:Nat)(v:Value):uR b w<|w'.setCell ⟨b,i,none⟩ v:=
 ⟨h.below.setCell (p:=⟨b,i,none⟩) (bw _) v,by
  have:(w'.setCell ⟨b,i,none⟩ v).heap.size=w'.heap.size:=by simp[World.setCell]
  rw[this,h.size],λx hx=>by
  rw[<-h.oE x hx];simp only[World.setCell,dr];rw[bj λe=>hx e.symm]⟩
def TN(b:Nat)(A:Option Addr):Prop:=∀ b' o s,A=some ⟨b',o,s⟩->b'≠b
def Sl.oE{w w':World}{A:Option Addr}{c b:Nat}{L:List Nat}(h:Sl w A c L)(ha:TN b A)(ho:uR b w w'):Sl w' A c L:=
 ⟨h.cap,h.sJ,h.ok,h.AV,λi x hx=>by
  obtain⟨b',o,e,h1,h2⟩:=h.cell i x hx;refine⟨b',o,e,by rw[ho.size];exact h1,?_⟩;rw[<-h2];exact(World.cell?_of_block (w:=w) (w':=w')<|ho.oE b'<|ha _ _ _ e)⟩
def adI{u m b:Nat}(hm:m<4294967296)(hb:b<=4294967296):
 IntKind.u64.wrap (IntKind.u64.wrap ((u:Int)-m)-(b:Int))=(((u+18446744073709551616-m-b)%18446744073709551616:Nat):Int):=by
 rw[IntKind.wrap_u64,IntKind.wrap_u64];omega
def arI(b j cu c q:Nat)(O V:List Nat)(R:List Value)(A:Option Addr)(w:World)(hu:Rx w b O R)(hv:Sl w A c V)(hA:TN b A)(lP:iW O)(hj:j+V.length<O.length)(hq:q<=4294967295)(hl:O.length<=1000000):
 Calls prog 358 #[.slice (some ⟨b,j,none⟩) (V.length+1) cu,.slice A V.length c,.int .u64 q] w λe w'=>∃ (O':List Nat) (δ:Nat),e = .returned (.bool<|decide (δ=1))/\Rx w' b O' R/\O'.length=O.length/\iW O'/\δ<=1 /\
  val O'+q*(4294967296^j*val V)=val O+4294967296^(j+V.length+1)*δ/\(∀ i,j+V.length<i->O'.getD i 0=O.getD i 0)/\uR b w w':=by
 obtain⟨n,hn⟩:∃ n,n=V.length:=⟨_,rfl⟩
 rw[<-hn]at hj ⊢;have HN:=auj hn;have HJ:=auj hj;clear hn;have jQ:n<=1000000:= aC ;have wV:j<=1000000:= aC ;clear hj;have HT0:=auj<|Ad.start lP j q V;clear lP;have HO:=auj<|uR.refl b w;have HU:=auj hu;clear hu;go_enter func358,ntmps358;go_wp2;go_loopw [7,8,9,10,11,12,16] (λcy bo _ _ _ _ i wr=>∃ (k c' b':Nat) (O':List Nat),k<=n/\i = .int .i64 k/\cy = .int .u64 c'/\bo = .int .u64 b'/\Ad O j q V k O' c' b'/\Rx wr b O' R/\uR b w wr) (λ_ _ _ _ _ _ i _=>n-(intOf i).toNat)
 case atStart=>
  exact⟨0,0,0,O,ck _,rfl,rfl,rfl,HT0.out,HU.out,HO.out⟩
 case round=>
  obtain⟨k,c',b',O',hk,rfl,rfl,rfl,ht,hR,ho⟩:=hrel;clear HT0 HO HU;have HTk:=auj ht;have kI:=ht.UG;have CZ:=ht.UY;have HOl:=auj ht.len;clear ht;have Ri:=hv.oE hA ho;by_cases iN:k<n
  .have BH:k<V.length:=by rw[<-HN.out];exact iN
   obtain⟨ab,ao,e1,_,c1⟩:=Ri.mT BH;have sI:V.getD k 0<4294967296:=hv.ok.getD k;have Yr:V[k]=V.getD k 0:=by simp[bt,BH]
   rw[Yr]at c1;have rz:j+k<O'.length:=by rw[HOl.out];have:=HJ.out;omega
   have c2:=hR.cell rz;have c3:=hR.frozen<|j+k;have Jn:O'.getD (j+k) 0<4294967296:=HTk.out.ok.getD _;obtain⟨w8,lq,Ji,X6⟩:=arJ hq sI CZ kI Jn;have HST:=auj (HTk.out.step (b':=((O'.getD (j+k) 0+18446744073709551616-(q*V.getD k 0+c')%4294967296-b')%18446744073709551616)/9223372036854775808) BH (by rw[<-HN.out];exact HJ.out) (bR _ aE) lq Ji X6);have HRS:=auj (λx:Nat=>hR.set rz x);have HOS:=auj λ(v:Value)=>ho.Kz (j+k) v;clear hR ho HTk rz Yr BH X6 HOl Ri;subst e1;have Q2:q*V.getD k 0<=4294967295*4294967295:=dU hq aC;have zf:IntKind.u64.wrap ((q:Int)*(V.getD k 0:Int))=((q*V.getD k 0:Nat):Int):=by rw[<-fo];exact s7 _ 
   generalize V.getD k 0=y at *
   generalize q*y=z at *
   have ED:IntKind.u64.wrap ((z:Int)+c')=((z+c':Nat):Int):=by rw[<-Int.natCast_add];exact s7 _ 
   generalize O'.getD (j+k) 0=u at *
   generalize z+c'=s at *
   have as5:bits .and .u64 (s:Int) 4294967295=((s%4294967296:Nat):Int):=by rw[Ie s aC];omega
   have as4:s%4294967296<4294967296:=bR _ aE;have hd:(s:Int)/4294967296=((s/4294967296:Nat):Int):= aC ;generalize s%4294967296=m at *
   generalize s/4294967296=s2 at *
   have hsb:=adI (u:=u) (m:=m) (b:=b') aC aC;generalize (u+18446744073709551616-m-b')%18446744073709551616=t at *
   have BD:(j:Int)+k=((j+k:Nat):Int):= aC ;go_wp2;go_roundw
   case rel=>
    have e1:((t:Int)%4294967296)=((t%4294967296:Nat):Int):= aC ;exact⟨k+1,s2,t/9223372036854775808,O'.set (j+k)<|t%4294967296,aC,by go_num,by go_num,by go_num,HST.out,by rw[e1];exact HRS.out _,HOS.out _⟩
   case measure=>simp[intOf];omega
  .obtain rfl:k=n:= aC ;have QX:j+k<O.length:=HJ.out;have HTk':=auj (show Ad O j q V V.length O' c' b' by rw[<-HN.out];exact HTk.out);have HL:=HTk'.out.RN (t:=(O'.getD (j+k) 0+18446744073709551616-c'-b')%18446744073709551616) (by rw[<-HN.out];exact QX) (by rw[<-HN.out]);rw[<-HN.out]at HL;have HT:=auj HL;clear HL;have rz:j+k<O'.length:=by rw[HOl.out];exact QX
   have c2:=hR.cell rz;have c3:=hR.frozen<|j+k;have Jn:O'.getD (j+k) 0<4294967296:=HTk.out.ok.getD _;have HRS:=auj (λx:Nat=>hR.set rz x);have HOS:=auj λ(v:Value)=>ho.Kz (j+k) v;clear hR ho HTk HTk' rz QX HOl Ri;generalize O'.getD (j+k) 0=u at *
   have hsb:=adI (u:=u) (m:=c') (b:=b') CZ aC;have BN:(u+18446744073709551616-c'-b')%18446744073709551616<18446744073709551616:=bR _ aE;generalize (u+18446744073709551616-c'-b')%18446744073709551616=t at *
   have BD:(j:Int)+k=((j+k:Nat):Int):= aC ;go_wp2;go_ret;have e1:((t:Int)%4294967296)=((t%4294967296:Nat):Int):= aC ;obtain⟨t1,t2,t3,t4,t5⟩:=HT.out;exact⟨O'.set (j+k)<|t%4294967296,t/9223372036854775808,NF (a:=(((t:Int)/9223372036854775808)==1))<|by rw[fw,beq_iff_eq,atP];omega,by rw[e1];exact HRS.out _,t1,t2,t3,t4,t5,HOS.out _⟩
def aaH(A:Option Addr)(c:Nat)(L:List Nat)(n:Nat)(w:World)(hs:Sl w A c L)(hlen:L.length<=100000000)(hn:n<=65536):
 Calls prog 236 #[.slice A L.length c,.int .i64 n] w (λe w'=>∃ T v,e = .returned v/\val T=val L*2^n/\T.length=n/32+(iT L).length+1/\Ow w' w.heap.size v T/\ja w w'):=by
 have hT:=auj<|xq A c L w hs;have lq:=hs.wu;have nj:=qN L;have hC:=lq.cap;have hL:=hs.sJ;unfold nf at nj;have hv:=auj<|rk L;generalize iT L=M at *
 obtain⟨m,hm⟩:∃ m,m=M.length:=⟨_,rfl⟩
 rw[<-hm]at hT nj hC;have HM:=auj hm;clear hm;have xS:=ZY (n/32) (n/32+m+1) aC aC;rw[show((n/32:Nat):Int)=n/32 by omega,show((n/32+m+1:Nat):Int)=n/32+m+1 by omega]at xS;have Qt:=auj<|Ow.Dj w w.heap.size (n/32) (n/32+m+1) (bw _) aC aC;go_enter func236,ntmps236;go_wp2_with fail;refine hT.out.mono ?_;rintro e w' ⟨rfl,rfl⟩;go_wp2;go_loopw [5,6,23] (λv cy i wr=>∃ (k q:Nat) (O:List Nat),k<=m/\i = .int .i64 k/\cy = .int .u64 q/\q<2^(n%32)/\O.length=n/32+k/\val O+4294967296^(n/32+k)*q=val (M.take k)*2^(n%32)*4294967296^(n/32)/\Ow wr w.heap.size v O/\ja w wr) (λ_ _ i _=>m-(intOf i).toNat)
 case atStart=>
  exact⟨0,0,List.replicate (n/32) 0,ck _,rfl,rfl,bF aE,aH,by simp[FB],Qt.out,ja.alloc _ _⟩
 case round=>
  obtain⟨k,q,O,hk,rfl,rfl,hq,hO,mY,pF,hb⟩:=hrel;have HV:=auj mY;have HO:=auj hO;have Xf:O.length<=200000000:= aC ;have BL:=auj hq;clear mY hO hq;obtain⟨OA,Oc,rfl,Et⟩:=pF.sl;by_cases iN:k<m
  .have Ep:k<M.length:=by have:=HM.out;omega
   obtain⟨ab,ao,rfl,_,c1⟩:=(lq.below hb).mT Ep;have oh:M[k]<4294967296:=lq.ok.get Ep;have HX:=auj<|acq (c:=q) (s:=n%32) (n0:=n/32) Ep HO.out HV.out;generalize M[k]=x at *
   obtain⟨hw,Db,BQ⟩:=acr x q (n%32) oh (bR _ aE) BL.out;generalize x*2^(n%32)+q=z at *
   have Jr:=auj BQ;clear BQ;have nc:O.length+[z%4294967296].length<=10000000000:= aN ;go_wp2_with (at_builtin;go_must (refine Cs aG _ _ aG w.heap.size _ O aG (pF.alloc _) _ _ _ [z%4294967296] aG aG (Sl.GU _ _ (z%4294967296) aC aC) nc (zo hb.size _) ?_);intro v' w1 y6 hg uy)
   go_roundw
   case rel=>
    exact⟨k+1,z/4294967296,O++[z%4294967296],aC,by go_num,by go_num,Jr.out,by rw[cz,HO.out];rfl,HX.out,y6,(hb.trans<|ja.alloc _ _).own _ _ (pF.alloc _) hg⟩
   case measure=>simp[intOf];omega
  .obtain rfl:k=m:= aC ;have nc:O.length+[q].length<=10000000000:= aN ;have akq:q<4294967296:=by
    have:=BL.out;have hp:2^(n%32)<=2^31:=bY aE aC;have e31:(2:Nat)^31=2147483648:= aE ;omega
   have hqm:(q:Int)%4294967296=q:= aC ;go_wp2_with (at_builtin;go_must (refine Cs aG _ _ aG w.heap.size _ O aG (pF.alloc _) _ _ _ [q] aG aG (Sl.GU _ _ q aC aC) nc (zo hb.size _) ?_);intro v' w1 y6 hg uy)
   go_ret;refine⟨O++[q],v',rfl,?_,by rw[cz,HO.out,<-HM.out];rfl,y6,(hb.trans<|ja.alloc _ _).own _ _ (pF.alloc _) hg⟩;have h:=HV.out;rw[dx<|by rw[HM.out];exact bw _]at h;rw[DL,HO.out,ui,Oi,dj,cj,h,<-hv.out,vC,bI,<-bE];congr 2;omega
end Go.Proofs.YtjkmahljfblobaaGreatDoor
namespace Go.Proofs.YtjkmahljfblobaaGreatDoor.Fp
def qb(n k:Nat):Nat:=n/4294967296^k%4294967296
def PB(n k:Nat):qb n k<4294967296:=bR _ aE 
def agL(k:Nat):qb 0 k=0:=by unfold qb;rw[Nat.zero_div]
def pw(k:Nat):0<4294967296^k:=bF aE 
def Ma{L:List Nat}(h:iW L)(k:Nat):L.getD k 0=qb (val L) k:=by
 unfold qb;rw[<-KP h];by_cases hk:k<L.length
 .rw [fC hk,show val (L[k]::L.drop (k+1))=L[k]+4294967296*val (L.drop<|k+1)from rfl,eK,cF<|h.get hk];simp[bt,hk]
 .rw [eN aC,bt,bW aC];rfl
def mod_succ(n k:Nat):n%4294967296^(k+1)=n%4294967296^k+4294967296^k*qb n k:=by
 rw[bM,Nat.mod_mul];rfl
def qc(n m:Nat):List Nat:=(List.range m).map<|qb n
def CJ(n m:Nat):(qc n m).length=m:=by simp[qc]
def IC(n m:Nat):iW<|qc n m:=λx hx=>by
 obtain⟨k,_,rfl⟩:=cP.1 hx;exact PB n k
def agQ{n m k:Nat}(h:k<m):(qc n m).getD k 0=qb n k:=by
 simp[qc,bt,h]
def agP(m i:Nat):(qc 0 m).getD i 0=0:=by
 by_cases h:i<m
 .rw [agQ h,agL]
 .rw [bt,bW<|by rw[CJ];omega];rfl
def agR(n m:Nat):qc n (m+1)=qc n m++[qb n m]:=by simp[qc,List.range_succ]
def KO(n m:Nat):val (qc n m)=n%4294967296^m:=by
 induction m with
 |zero=>simp[qc,val];omega
 |succ m ih=>
  rw[agR,DL,ih,CJ,mod_succ];rfl
def asj{L M:List Nat}(hL:iW L)(hM:iW M)(hl:L.length=M.length)(hv:val L=val M):L=M:=by
 apply atn hl;intro i h1 h2;have e1:=Ma hL i;have e2:=Ma hM i;rw[hv,<-e2]at e1;simpa[bt,h1,h2]using e1
def agS{L:List Nat}(h:iW L):qc (val L) L.length=L:=
 asj (IC _ _) h (CJ _ _) (by rw[KO,cF<|pL h])
def PD{L:List Nat}{n m:Nat}(h:iW L)(hl:L.length=m)(hv:val L=n):qc n m=L:=by subst hl hv;exact agS h
def qI(a b k m:Nat):List Nat:=(List.range m).map λj=>if j<k then qb a j else qb b j
def amU(a b k m:Nat):(qI a b k m).length=m:=by simp[qI]
def amW(a b m:Nat):qI a b 0 m=qc b m:=by simp[qI,qc]
section
variable{a b k m:Nat}
def amT(h:m<=k):qI a b k m=qc a m:=by
 unfold qI qc;exact dQ λj hj=>bk<|bV (bN.1 hj) h
def atb:(qI a b k m).set k (qb a k)=qI a b (k+1) m:=by
 apply atn
 .simp [qI]
 .intro j h1 h2;have hj:j<m:=by simpa[qI]using h2
  rw[List.getElem_set];by_cases h:k=j
  .subst h;simp[qI]
  .rw [bj h];simp only[qI,atW,atX];by_cases q:j<k
   .rw [bk q,bk aC]
   .rw [bj q,bj aC]
def amV:(qI a b (k+1) m).set k (qb b k)=qI a b k m:=by
 apply atn
 .simp [qI]
 .intro j h1 h2;have hj:j<m:=by simpa[qI]using h2
  rw[List.getElem_set];by_cases h:k=j
  .subst h;simp[qI]
  .rw [bj h];simp only[qI,atW,atX];by_cases q:j<k
   .rw [bk q,bk aC]
   .rw [bj q,bj aC]
end
def ag6(a k:Nat):a/4294967296^k=4294967296*(a/4294967296^(k+1))+qb a k:=by
 rw[bM,<-dN];unfold qb;omega
def aqI{a d k:Nat}(hd:0<d)(C1:d<4294967296):(a/4294967296^(k+1)%d*4294967296+qb a k)/d=qb (a/d) k/\(a/4294967296^(k+1)%d*4294967296+qb a k)%d=a/4294967296^k%d:=by
 have e1:=ag6 a k;have e2:=cW (a/4294967296^(k+1)) d;have e3:=bR (a/4294967296^(k+1)) hd;have e4:=PB a k;have e5:a/4294967296^k=d*(4294967296*(a/4294967296^(k+1)/d))+(a/4294967296^(k+1)%d*4294967296+qb a k):=by
  rw[e1,eE];omega
 have e6:(a/4294967296^(k+1)%d*4294967296+qb a k)/d<4294967296:=by
  rw[cT hd];have:=bU 4294967296<|show a/4294967296^(k+1)%d+1<=d from e3;omega
 constructor
 .conv=>rhs;unfold qb
  rw[dN,bQ d,<-dN,e5,atB hd,gF,cF e6]
 .rw [e5,gF]
structure uj(U0:Nat)(V:List Nat)(k m:Nat)(O Q:List Nat):Prop where
 Zk:O.length=m
 JG:Q.length=m-V.length
 Cc:iW O
 E9:iW Q
 eq:val O+val V*val Q=U0
 lt:val O<val V*4294967296^k
 qz:∀ i,i<k->Q.getD i 0=0
def uj.step{U0 k m x:Nat}{V O Q O2:List Nat}(h:uj U0 V (k+1) m O Q)(hk:k<m-V.length)(hl:O2.length=m)(lP:iW O2)(hx:x<4294967296)
 (he:val O2+x*(4294967296^k*val V)=val O) (iN:val O2<val V*4294967296^k):uj U0 V k m O2<|Q.set k x:=by
 have BG:k<Q.length:=by rw[h.JG];exact hk
 have hv:=FC (x:=x) BG;rw[h.qz k<|gK k,dj,cj]at hv;refine⟨hl,by rw[cY];exact h.JG,lP,h.E9.set _ hx,?_,iN,λi hi=>by rw[CR aC];exact h.qz i aC⟩;rw[hv,ch,show val V*(4294967296^k*x)=x*(4294967296^k*val V)by simp only[bQ,eE,bI]];have:=h.eq;omega
section
variable{U0 k m:Nat}{V O Q:List Nat}(h:uj U0 V (k+1) m O Q)(hV:iW V)
def uj.zero{i:Nat}(hi:k+V.length<i):O.getD i 0=0:=by
 refine arU h.Cc (k:=k+V.length+1) ?_ hi;refine fP h.lt ?_;have:=dI (pL hV)<|pw<|k+1;rw[<-bE,(aC:V.length+(k+1)=k+V.length+1)]at this;exact this
def uj.ajJ(hn:2<=V.length)(hN:2147483648<=V.getD (V.length-1) 0):
 O.getD (k+V.length) 0<=V.getD (V.length-1) 0/\∀ g,g<=4294967295 ->
  g<=((O.getD (k+V.length) 0*4294967296+O.getD (k+V.length-1) 0)*4294967296+O.getD (k+V.length-2) 0)/(V.getD (V.length-1) 0*4294967296+V.getD (V.length-2) 0) ->
  (g=4294967295\/((O.getD (k+V.length) 0*4294967296+O.getD (k+V.length-1) 0)*4294967296+O.getD (k+V.length-2) 0)/(V.getD (V.length-1) 0*4294967296+V.getD (V.length-2) 0)<=g) ->
  val O/4294967296^k/val V<=g/\g<=val O/4294967296^k/val V+1:=by
 have t3:=ac8 h.Cc (j:=k) hn λi hi=>h.zero hV hi;have t2:=arR hV hn rfl;have hU:val O/4294967296^k<4294967296*val V:=by
  rw[cT<|pw k];have:=h.lt;rw[bM]at this;rw[show 4294967296*val V*4294967296^k=val V*(4294967296^k*4294967296)by simp only[bQ,eE,bI]];exact this
 have w1:=h.Cc.getD<|k+V.length-1;have w2:=h.Cc.getD<|k+V.length-2;have w3:=hV.getD<|V.length-2;refine⟨?_,λg g1 g2 g3=>?_⟩
 .have hP:=pw<|V.length-2;have h1:val V<(V.getD (V.length-1) 0*4294967296+V.getD (V.length-2) 0+1)*4294967296^(V.length-2):=by
   rw[<-t2,<-cT hP];omega
  have h2:val O/4294967296^k/4294967296^(V.length-2)<4294967296*(V.getD (V.length-1) 0*4294967296+V.getD (V.length-2) 0+1):=by
   rw[cT hP];refine bV hU ?_;rw[bI];exact cV _<|dM h1
  rw[t3]at h2;omega
 .rw [<-t3,<-t2]at g2 g3;exact alO (pw _) (by rw[t2];omega) hU g1 g2 g3
end
def uj.abf{U0 k m x:Nat}{V O Q O':List Nat}(h:uj U0 V (k+1) m O Q)(hV:iW V)(lP:iW O')(hv:val O'+x*(4294967296^k*val V)=val O+4294967296^(k+V.length+1)*1)
 (hs:∀ i,k+V.length<i->O'.getD i 0=O.getD i 0):val O'<4294967296^(k+V.length+1)/\0<x:=by
 have h1:val O'<4294967296^(k+V.length+1):=ads lP λi hi=>by rw[hs i aC];exact h.zero hV aC 
 refine⟨h1,?_⟩;rcases fi x with h0|h0
 .subst h0;rw[cU]at hv;omega
 .exact h0
def uj.ae5{U0 k m x κ:Nat}{V O Q O' O2:List Nat}(h:uj U0 V (k+1) m O Q)(hV:iW V)(hk:k<m-V.length)(lP:iW O')(hv:val O'+x*(4294967296^k*val V)=val O+4294967296^(k+V.length+1)*1)
 (hs:∀ i,k+V.length<i->O'.getD i 0=O.getD i 0) (hx:x<=4294967295) (sY:x<=val O/4294967296^k/val V+1) (yY:0<val V) (nj:O2.length=m) (X1:iW O2) (hκ:κ<=1)
 (h2:val O2+4294967296^(k+V.length+1)*κ=val O'+4294967296^k*val V) (lq:∀ i,k+V.length<i->O2.getD i 0=O'.getD i 0):uj U0 V k m O2<|Q.set k<|x-1:=by
 obtain⟨h1,h0⟩:=h.abf hV lP hv hs;have h3:val O2<4294967296^(k+V.length+1):=ads X1 λi hi=>by rw[lq i aC,hs i aC];exact h.zero hV aC 
 rw[cE]at hv;obtain⟨_,_,e,l⟩:=agN (pw k) yY hv h1 sY hκ h2 h3;exact h.step (x:=x-1) hk nj X1 aC e l
def anv{L:List Nat}{x s l:Nat}(hk:iW L)(hl:L.length=l+1)(hx:L.getD l 0=x)(qh:x≠0)(hs:s=32-iD x):
 s<32/\(im<|val L*2^s).length=l+1/\2147483648<=(im<|val L*2^s).getD l 0/\4294967296^l*2147483648<=val L*2^s/\val L*2^s<4294967296^(l+1):=by
 have oh:x<4294967296:=by rw[<-hx];exact hk.getD l
 have kI:=qa qh;have oB:iD x<=32:=mU.2 oh;have h1:=vF qh;have h2:=tp x;have e1:2^(iD x-1)*2^s=2147483648:=by rw[<-bE,(aC:iD x-1+s=31)]
 have e2:2^iD x*2^s=4294967296:=by rw[<-bE,(aC:iD x+s=32)]
 have hp:0<2^s:=bF aE;have hv:val L=val (L.take l)+4294967296^l*x:=by
  have:=DM L l;rw[dx aC,hx]at this;exact this
 have Gg:val (L.take l)<4294967296^l:=by
  have:=pL<|hk.take l;rw[cJ,dA aC]at this;exact this
 have g1:4294967296^l*2147483648<=val L*2^s:=by
  rw[<-e1,<-bI];refine bU _ ?_;rw[hv];exact bA (cV _ h1)<|Nat.le_add_left _ _
 have g2:val L*2^s<4294967296^(l+1):=by
  have e3:4294967296^(l+1)=4294967296^l*(2^iD x*2^s):=by rw[bM,e2]
  rw[e3,<-bI];refine dI ?_ hp;rw[hv];have:=cV (4294967296^l)<|show x+1<=2^iD x from h2;rw[ch,cE]at this;omega
 have hlen:(im<|val L*2^s).length=l+1:=by
  have u1:=zp g2;have u2:¬(im<|val L*2^s).length<=l:=λh=>by
   have:=MY h;have:=pw l;omega
  omega
 refine⟨aC,hlen,?_,g1,g2⟩;rw[Ma<|nA _,lF];unfold qb;rw[cF<|by rw[cT<|pw l,bQ 4294967296,<-bM];exact g2,dF<|pw l,bQ];exact g1
def uj.start{A s:Nat}{V O:List Nat}(hO:iW O)(hv:val O=A*2^s){la:Nat}(hA:A<4294967296^la)(hl:O.length=la+1)(hs:s<32)(hn:1<=V.length)(jQ:V.length<=la)(hV:4294967296^(V.length-1)*2147483648<=val V):
 uj (A*2^s) V (la+1-V.length) (la+1) O (List.replicate (la+1-V.length) 0):=by
 refine⟨hl,aH,hO,iW.Ha _,by rw[FB,dj,cj,hv],?_,λi _=>?_⟩
 .rw [hv];have IZ:2^s<=2^31:=bY aE aC;have ajN:(2:Nat)^31=2147483648:= aE ;rw[ajN]at IZ;have h1:A*2^s<4294967296^la*2^s:=dI hA<|bF aE;have h2:=cV (4294967296^la) IZ;have h3:=bU (4294967296^(la+1-V.length)) hV;rw[gV,<-bE,(aC:V.length-1+(la+1-V.length)=la)]at h3;omega
 .rw [bt,gL];split<;>rfl
end Go.Proofs.YtjkmahljfblobaaGreatDoor.Fp
namespace Go.Proofs.YtjkmahljfblobaaGreatDoor
open Go.RowKit Fp Pu
def KA(n:Nat)(h:n<4294967296):IntKind.u64.wrap ((n:Int)*2^32)=((n*4294967296:Nat):Int):=by rw[IntKind.wrap_u64];omega
def Ka(a b:Nat)(ha:a<4294967296)(hb:b<4294967296):bits .or .u64 ((a*4294967296:Nat):Int) (b:Int)=((a*4294967296+b:Nat):Int):=by
 rw[Of _ _,Nat.or_comm,show a*4294967296=a*2^32 by rfl,Nh b a 32<|by simpa using hb,gw]
def aqb{T n n' p:Nat}{L L':List Nat}{z:Nat}(hn:n=n')(hp:p<L.length)(hs:L.set p z=L'):Bx.le (.row false T n 1 λi' j'=>if i'=p/\0<=j'/\j'<0+1 then[.v<|.int .u32 (z:Int)].getD (j'-0) .any else(rC L) i' j')<|.row false T n' 1<|rC L':=hs▸SY hn hp
def VF(q rest third v w:Nat)(x:Nat):PS:=⟨32,true,[(0,.e<|.v<|.int .u64 ((q-x:Nat):Int)),(1,.e<|.v<|.int .u64 ((rest+(x*v):Nat):Int)),(2,.e<|.v<|.int .u32 (third:Int)),(3,.e<|.v<|.int .u32 (v:Int)),(4,.e<|.v<|.int .u32 (w:Int))],[]⟩
def acs(L:List Nat)(d:Nat)(x:Nat):PS:=⟨34,false,[(8,.e<|iP<|(L.length:Int)-1-(x:Int)),(7,.e<|.v<|.int .u32 ((val L/4294967296^(L.length-x)%d:Nat):Int)),(6,.own 11),(0,.e<|iy L),(1,.e<|.v<|.int .u32 (d:Int))],[(11,.row false 95 L.length 1<|rC<|qI 0 (val L/d) (L.length-x) L.length)]⟩
def agZ(h l d:Nat)(h1:h<d)(h2:l<4294967296)(h3:d<4294967296):il 371 [.v<|.int .u32 (h:Int),.v<|.int .u32 (l:Int),.v<|.int .u32 (d:Int)]<|.iH [.v<|.int .u32 (((h*4294967296+l)/d:Nat):Int),.v<|.int .u32 (((h*4294967296+l)%d:Nat):Int)]:=by
 have e1:(h*4294967296+l)/d<4294967296:=by rw[cT aC];omega
 have e2:(h*4294967296+l)%d<4294967296:=fP (bR _ aC) h3;exact iE (ae [ah 10 ((d:Int) != 0) aN,tF 14 ((d:Int)<=h) aC,.o 18 (.int<|s7 _:aj (.v<|.int .u64<|IntKind.u64.wrap (h:Int))<|.v<|.int .u64 (h:Int)),.a (aC:0<=(32:Int)/\(32:Int)<=((64:Nat):Int)),.o 19 (.int<|KA _ aC:aj (.v<|.int .u64<|IntKind.u64.wrap<|(h:Int)*2^32)<|.v<|.int .u64 ((h*4294967296:Nat):Int)),.o 21 (.int<|s7 _:aj (.v<|.int .u64<|IntKind.u64.wrap (l:Int))<|.v<|.int .u64 (l:Int)),.o 22 (.int<|Ka _ _ aC aC:aj (.v<|.int .u64<|bits .or .u64 ((h*4294967296:Nat):Int) (l:Int))<|.v<|.int .u64 ((h*4294967296+l:Nat):Int)),.o 25 (.int<|s7 _:aj (.v<|.int .u64<|IntKind.u64.wrap (d:Int))<|.v<|.int .u64 (d:Int)),.a (aC:0<((d:Int):Int)),
  Fo ((h*4294967296+l:Nat):Int),.o 27 (.int<|DK _:aj (.v<|.int .u32<|IntKind.u32.wrap (((h*4294967296+l)/d:Nat):Int))<|.v<|.int .u32 ((((h*4294967296+l)/d)%4294967296:Nat):Int)),.o 30 (.int<|s7 _:aj (.v<|.int .u64<|IntKind.u64.wrap (d:Int))<|.v<|.int .u64 (d:Int)),.a (aC:0<((d:Int):Int)),.o 32 (.int<|DK _:aj (.v<|.int .u32<|IntKind.u32.wrap (((h*4294967296+l)%d:Nat):Int))<|.v<|.int .u32 ((((h*4294967296+l)%d)%4294967296:Nat):Int))]<|rQ (.iH [.v<|.int .u32 ((((h*4294967296+l)/d)%4294967296:Nat):Int),.v<|.int .u32 ((((h*4294967296+l)%d)%4294967296:Nat):Int)]) (.iH [.v<|.int .u32 (((h*4294967296+l)/d:Nat):Int),.v<|.int .u32 (((h*4294967296+l)%d:Nat):Int)])<|by rw[cF e1,cF e2])
def atc(q rest third v w N:Nat)(hq:q<=4294967295)(hr:rest<9223372036854775808)(ht:third<4294967296)(hv:v<4294967296)(hw:w<4294967296)(hNq:N<=q)(ji:∀ x,x<N->uY q rest third v w x)(g1:¬rest+N*v<4294967296):il 372 [.v<|.int .u64 (q:Int),.v<|.int .u64 (rest:Int),.v<|.int .u32 (third:Int),.v<|.int .u32 (v:Int),.v<|.int .u32 (w:Int)]<|.v<|.int .u64 ((q-N:Nat):Int):=
 iE (af [.s (Sp.jP (VF q rest third v w) 0 N aC (λx hx mX=>by
    obtain⟨g1,g2⟩:=ji x aC;have m1:(q-x)*w<=4294967295*4294967295:=dU aC aC;have g3:0<q-x:=by
     rcases fi (q-x)with h|h
     .rw [h,cU]at g2;omega
     .exact h
    exact iS (ae [tT 12 (((rest+(x*v):Nat):Int)<4294967296) aC,.o 16 (.int<|s7 _:aj (.v<|.int .u64<|IntKind.u64.wrap (w:Int))<|.v<|.int .u64 (w:Int)),
     Fo (((q-x:Nat):Int)*(w:Int)),.a (aC:0<=(32:Int)/\(32:Int)<=((64:Nat):Int)),.o 19 (.int<|KA _ aC:aj (.v<|.int .u64<|IntKind.u64.wrap<|((rest+(x*v):Nat):Int)*2^32)<|.v<|.int .u64 (((rest+(x*v))*4294967296:Nat):Int)),.o 21 (.int<|s7 _:aj (.v<|.int .u64<|IntKind.u64.wrap (third:Int))<|.v<|.int .u64 (third:Int)),.o 22 (.int<|Ka _ _ aC aC:aj (.v<|.int .u64<|bits .or .u64 (((rest+(x*v))*4294967296:Nat):Int) (third:Int))<|.v<|.int .u64 ((((rest+(x*v))*4294967296)+third:Nat):Int)),tT 23 (((((rest+(x*v))*4294967296)+third:Nat):Int)<(((q-x)*w:Nat):Int))<|Int.ofNat_lt.2 g2,Fo<|((q-x:Nat):Int)-1,.o 29 (.int<|s7 _:aj (.v<|.int .u64<|IntKind.u64.wrap (v:Int))<|.v<|.int .u64 (v:Int)),Fo<|((rest+(x*v):Nat):Int)+v]<|.e<|af [.o 0<|.int (k:=.u64) (by first|rfl|omega|(simp only[bT,bX];omega):(((q-x:Nat):Int)-1)=((q-(x+1):Nat):Int)),.o 1<|.int (k:=.u64) (by first|rfl|omega|(simp only[bT,bX];omega):(((rest+(x*v))+v:Nat):Int)=((rest+((x+1)*v):Nat):Int))]) aF)
  (λhx=>by
    have m1:(q-N)*w<=4294967295*4294967295:=dU aC aC;exact iS (af [tF 12 (((rest+(N*v):Nat):Int)<4294967296) aC]) aF) aI:jM 1 f372 (VF q rest third v w 0) (.exit 0) ⟨32,true,[(0,.e<|.v<|.int .u64 ((q-N:Nat):Int))],[]⟩)<|af [.o 0<|.int (k:=.u64) (by first|rfl|omega|(simp only[bT,bX];omega):(q:Int)=((q-0:Nat):Int)),.o 1<|.int (k:=.u64) (by first|rfl|omega|(simp only[bT,bX];omega):(rest:Int)=((rest+(0*v):Nat):Int))]])
def ani(L:List Nat)(d:Nat)(hk:iW L)(hl:L.length<=1000000)(C0:0<d)(C1:d<4294967296):il 355 [iy L,.v<|.int .u32 (d:Int)]<|.iH [iy<|qc (val L/d) L.length,.v<|.int .u32 ((val L%d:Nat):Int)]:=
 pA (ae [.a (aC:0<=((L.length:Int):Int)/\((L.length:Int):Int)<=((L.length:Int):Int)),.a (aC:((4:Nat):Int)*(L.length:Int)<=281474976710656/\((L.length:Int):Int)<=9223372036854775807),iL<|(L.length:Int)-1,.s (Sp.jP (acs L d) 0 L.length aC (λx hx mX=>by
    have XO:((L.length:Int)-1-(x:Int)).toNat=L.length-1-x:= aC ;have hld:((L.getD ((L.length:Int)-1-(x:Int)).toNat 0:Nat):Int)=(qb (val L)<|L.length-1-x:Int):=by rw[XO,Ma hk]
    have xY:=aqI (a:=val L) (k:=L.length-1-x) C0 C1;have vR:L.length-1-x+1=L.length-x:= aC ;have mw:L.length-(x+1)=L.length-1-x:= aC ;rw[vR]at xY;have xT:=bR (val L/4294967296^(L.length-x)) C0;have Eh:=PB (val L)<|L.length-1-x;have Jk:(qI 0 (val L/d) (L.length-x) L.length).set ((L.length:Int)-1-(x:Int)).toNat ((val L/4294967296^(L.length-x)%d*4294967296+qb (val L) (L.length-1-x))/d)=qI 0 (val L/d) (L.length-(x+1)) L.length:=by
     rw[XO,xY.1,<-vR,amV,mw]
    exact iS (ae [tT 16 (0<=((L.length:Int)-1-(x:Int))) aC,iX ((L.length:Int)-1-(x:Int))<|L.length,.o 26 (.int hld:aj (.v<|.int .u32 ((L.getD ((L.length:Int)-1-(x:Int)).toNat 0:Nat):Int))<|.v<|.int .u32 (qb (val L)<|L.length-1-x:Int)),ag [.v<|.int .u32 ((val L/4294967296^(L.length-x)%d:Nat):Int),.v<|.int .u32 (qb (val L)<|L.length-1-x:Int),.v<|.int .u32 (d:Int)]<|agZ _ _ _ aC aC aC,
     iX ((L.length:Int)-1-(x:Int)) (L.length),.a (aC:(((L.length:Int)-1-(x:Int))).toNat<L.length),iL<|((L.length:Int)-1-(x:Int))-1]<|.e<|af [.o 8<|aq (((L.length:Int)-1-(x:Int))-1) ((L.length:Int)-1-((x+1:Nat):Int)) aO,.o 7<|.int (k:=.u32) (by rw[xY.2,mw]:((((val L/4294967296^(L.length-x)%d)*4294967296+(qb (val L)<|L.length-1-x))%d:Nat):Int)=((val L/4294967296^(L.length-(x+1))%d:Nat):Int)),.b 11 (aqb rfl (by rw[amU];omega) Jk:Bx.le (.row false 95 L.length 1 λi' j'=>if i'=(((L.length:Int)-1-(x:Int))).toNat/\0<=j'/\j'<0+1 then[.v<|.int .u32 ((((val L/4294967296^(L.length-x)%d)*4294967296+(qb (val L)<|L.length-1-x))/d:Nat):Int)].getD (j'-0) .any else(rC<|qI 0 (val L/d) (L.length-x) L.length) i' j')<|.row false 95 L.length 1<|rC<|qI 0 (val L/d) (L.length-(x+1)) L.length)]) aF)
  (λhx=>by
    exact iS (af [tF 16 (0<=((L.length:Int)-1-(L.length:Int))) aC]) aF) aI:jM 4 f355 (acs L d 0) (.exit 0) ⟨34,false,[(7,.e<|.v<|.int .u32 ((val L/4294967296^(L.length-L.length)%d:Nat):Int)),(6,.own 11)],[(11,.row false 95 L.length 1<|rC<|qI 0 (val L/d) (L.length-L.length) L.length)]⟩)<|af [.o 8<|aq ((L.length:Int)-1) ((L.length:Int)-1-((0:Nat):Int)) aO,.o 7<|.int (k:=.u32) (by rw[eD,dB<|pL hk,Nat.zero_mod];rfl:0=((val L/4294967296^(L.length-0)%d:Nat):Int)),.b 11 (ab0 rfl (λi=>by rw[eD,amT<|bw _,agP]):Bx.le (.row false 95 L.length 1 λ_ j_=>[.v<|.int .u32 0].getD j_ .any)<|.row false 95 L.length 1<|rC<|qI 0 (val L/d) (L.length-0) L.length)]]<|rR (.iH [iy<|qc (val L/d) L.length,.v<|.int .u32 ((val L%d:Nat):Int)]) (.iH<|.cons (by rw[dg,amW];exact acB (CJ _ _).symm)<|.cons (.jq<|by rw[dg,cR,fS]) .nil:E.le (.iH [.sl false L.length 1<|rC<|qI 0 (val L/d) (L.length-L.length) L.length,.v<|.int .u32 ((val L/4294967296^(L.length-L.length)%d:Nat):Int)])<|.iH [iy<|qc (val L/d) L.length,.v<|.int .u32 ((val L%d:Nat):Int)]))
def ad2(w:World)(T S:List Nat)(e:Ending)(w':World):Prop:=∃ A c B d,e = .returned (.tuple #[.slice A T.length c,.slice B S.length d])/\Sl w' A c T/\Sl w' B d S/\ja w w'
def Ow.rx{w:World}{base:Nat}{v:Value}{L:List Nat}(h:Ow w base v L)(hl:L≠[]):∃ g cap R,v = .slice (some ⟨g,0,none⟩) L.length cap/\base<=g/\g<w.heap.size/\Rx w g L R/\L.length<=cap/\cap<=maxLen:=by
 rcases h.row.2 with⟨_,h0⟩|⟨g,cap,cur,rfl,hb,hg,qf,oZ,nL,Rf⟩
 .exact absurd (dJ h0) hl
 .refine ⟨g,cap,cur.toList.drop L.length,rfl,hb,(dq.1 hg).1,?_,qf,oZ⟩;unfold Rx;rw[hg];rw[cE]at Rf;rw[<-Rf,atw]
def Rx.sl{w:World}{b cap:Nat}{L:List Nat}{R:List Value}(h:Rx w b L R)(hk:iW L)(hc:L.length<=cap)(hm:cap<=maxLen)(n:Nat):Sl w (some ⟨b,0,none⟩) cap<|L.take n:=
 ⟨by rw[cJ];omega,by unfold maxLen at hm;omega,hk.take n,(λh=>by cases h),λi x hx=>by
  rw[dO]at hx;split at hx
  .obtain ⟨hi,w9⟩:=cD.1 hx;refine⟨_,_,rfl,h.lt,?_⟩;rw[cw,h.cell hi];simp[bt,hx]
  .cases hx⟩
def amv(x:Nat)(hx:x<4294967296)(w:World):
 Calls prog 356 #[.int .u32 x] w λe w'=>e = .returned (.int .i64 ((32-iD x:Nat):Int))/\w=w':=by
 have oB:iD x<=32:=mU.2 hx;have H:=auj λw=>Zj x hx w;go_enter func356,ntmps356;go_wp2_with fail;refine(H.out _).mono ?_;rintro e w' ⟨rfl,rfl⟩;go_wp2;go_ret;exact⟨qv aC,rfl⟩
def VH(q rest third v w0 N:Nat)(w:World)(hq:q<=4294967295)(hr:rest<9223372036854775808)(ht:third<4294967296)(hv:v<4294967296)(hw:w0<4294967296)(hNq:N<=q)(ji:∀ x,x<N->uY q rest third v w0 x)(hN:¬uY q rest third v w0 N):
 Calls prog 372 #[.int .u64 q,.int .u64 rest,.int .u32 third,.int .u32 v,.int .u32 w0] w λe w'=>e = .returned (.int .u64 ((q-N:Nat):Int))/\w=w':=by
 have HLO:=auj ji;have HNN:=auj hN;clear ji hN;go_enter func372,ntmps372;go_wp2;go_loop [0,1] (λa b=>∃ k:Nat,k<=N/\a = .int .u64 ((q-k:Nat):Int)/\b = .int .u64 ((rest+k*v:Nat):Int)) (λa _=>(intOf a).toNat+0*N)
 case atStart=>exact⟨0,ck _,by go_num,by go_num⟩
 case round=>
  obtain⟨k,hk,rfl,rfl⟩:=hrel;have m1:(q-k)*w0<=4294967295*4294967295:=dU aC aC;have m2:(q-k)*w0=(q-k)*w0:=rfl;by_cases iN:k<N
  .have hc:=HLO.out k iN;have tl:0<q-k:= aC ;have XY:rest+(k+1)*v=rest+k*v+v:=by rw[bT,bX];omega
   have HX:=auj XY;clear XY;unfold uY at hc;have zf:IntKind.u64.wrap (((q-k:Nat):Int)*(w0:Int))=(((q-k)*w0:Nat):Int):=by rw[<-fo];exact s7 _ 
   generalize rest+k*v=y at *
   generalize hz:(q-k)*w0=z at *
   have Jd:q-k=q-(k+1)+1:= aC ;have HQ:=auj Jd;obtain⟨p,hp⟩:∃ p,p=q-k:=⟨_,rfl⟩
   rw[<-hp]at zf tl Jd HQ ⊢;have HP:=auj hp;have Eu:p<=4294967295:= aC ;clear hp hz Jd;have Jl:=KA y hc.1;have xV:=Ka y third hc.1 ht;have g2:=hc.2;have g1:=hc.1;clear hc;rw[show((y*4294967296:Nat):Int)=y*4294967296 by omega]at xV Jl;have d1:decide ((y:Int)<4294967296)=true:=bu aC;have d2:decide ((y:Int)*4294967296+(third:Int)<z)=true:=bu aC;have Q2:IntKind.u64.wrap ((p:Int)-1)=((p-1:Nat):Int):=by rw[IntKind.wrap_u64];omega
   go_wp2;go_round
   case rel=>
    have e1:=HP.out;exact⟨k+1,aC,by go_num,by rw[HX.out];go_num⟩
   case measure=>simp[intOf];omega
  .obtain rfl:k=N:= aC ;have hn:=HNN.out;clear HNN HLO;unfold uY at hn;have zf:IntKind.u64.wrap (((q-k:Nat):Int)*(w0:Int))=(((q-k)*w0:Nat):Int):=by rw[<-fo];exact s7 _ 
   generalize rest+k*v=y at *
   generalize (q-k)*w0=z at *
   obtain⟨p,hp⟩:∃ p,p=q-k:=⟨_,rfl⟩
   rw[<-hp]at zf ⊢;have HP:=auj hp;clear hp;by_cases g1:y<4294967296
   .have Jl:=KA y g1;have xV:=Ka y third g1 ht;rw[show((y*4294967296:Nat):Int)=y*4294967296 by omega]at xV Jl;have d1:decide ((y:Int)<4294967296)=true:=bu aC;have d2:decide ((y:Int)*4294967296+(third:Int)<z)=false:=bn aC;clear hn;go_wp2;go_ret;exact⟨qv<|by rw[<-HP.out],rfl⟩
   .have d1:decide ((y:Int)<4294967296)=false:=bn aC ;clear hn zf;go_wp2;go_ret;exact⟨qv<|by rw[<-HP.out],rfl⟩
def ajK(iJ next third v w0:Nat)(hv:2147483648<=v)(tS:v<4294967296)(hn:next<4294967296)(ht:third<4294967296)(hw:w0<4294967296)(Ye:iJ<=v):
 ∃ g,g<=4294967295/\g<=((iJ*4294967296+next)*4294967296+third)/(v*4294967296+w0)/\(g=4294967295\/((iJ*4294967296+next)*4294967296+third)/(v*4294967296+w0)<=g) /\
  ∀ w,Calls prog 357 #[.int .u32 iJ,.int .u32 next,.int .u32 third,.int .u32 v,.int .u32 w0] w λe w'=>e = .returned (.int .u64 (g:Int))/\∃ m,w'=w.drewN m:=by
 by_cases k1:v<=iJ
 .obtain ⟨N,hN3,qd,Ao,ux,g1,g2⟩:=VG (X:=iJ*4294967296+next) (q:=4294967295) (rest:=(iJ-v)*4294967296+next+v) (third:=third) (v:=v) (w:=w0) aC (bw _) hv hw;refine⟨4294967295-N,aC,g1,g2.elim (λh=>.inl<|by rw[h]) .inr,λw=>?_⟩;clear g1 g2;have H:=λw=>VH 4294967295 ((iJ-v)*4294967296+next+v) third v w0 N w aC aC ht tS hw qd Ao ux
  clear Ao ux;obtain rfl:v=iJ:= aC ;have vS:(v-v)*4294967296+next+v=next+v:= aC 
  rw[vS,Int.natCast_add]at H;have HD:=auj H;clear H;have d1:decide ((v:Int)<=v)=true:=bu aC;go_enter func357,ntmps357;go_wp2_with fail;refine(HD.out _).mono ?_;rintro e w' ⟨rfl,rfl⟩;go_wp2;go_ret;exact⟨rfl,0,rfl⟩
 .have d1:=cW (iJ*4294967296+next) v;have d2:=bR (iJ*4294967296+next) (aC:0<v);have d3:(iJ*4294967296+next)/v<4294967296:=by rw[cT aC];omega
  obtain⟨N,hN3,qd,Ao,ux,g1,g2⟩:=VG (X:=iJ*4294967296+next) (q:=(iJ*4294967296+next)/v) (rest:=(iJ*4294967296+next)%v) (third:=third) (v:=v) (w:=w0) (by rw[bQ];exact d1) aC hv hw;have g3:=agO (x:=iJ*4294967296+next) (v:=v) (w:=w0) (third:=third) aC ht;refine⟨(iJ*4294967296+next)/v-N,aC,g1,.inr ?_,λw=>?_⟩
  .rcases g2 with rfl|g2
   .exact g3
   .exact g2
  have H:=λw=>VH ((iJ*4294967296+next)/v) ((iJ*4294967296+next)%v) third v w0 N w (Nat.le_of_lt_succ d3) (fP d2 aC) ht tS hw qd Ao ux
  rw[Int.natCast_ediv,Int.natCast_emod]at H;have HD:=auj H;clear H g1 g2 g3 qd Ao ux d1 d2 d3;have d1:decide ((v:Int)<=iJ)=false:=bn aC;have Jl:=KA iJ aC;have xV:=Ka iJ next aC hn
  rw[show((iJ*4294967296:Nat):Int)=iJ*4294967296 by omega]at xV Jl;have qh:((iJ*4294967296+next:Nat):Int)<18446744073709551616:= aC ;rw[show((iJ*4294967296+next:Nat):Int)=iJ*4294967296+(next:Int)by omega]at xV qh;have C8:((v:Int)==0)=false:= aN ;go_enter func357,ntmps357;go_wp2;go_quiet (exact Calls.quiet_of_same<|(HD.out _).mono λ_ _ ⟨h1,h2⟩=>⟨h1,h2.symm⟩);go_wp2;go_ret;exact⟨rfl,_,rfl⟩
def Fp.ja.arY{w0 w w':World}{g n:Nat}(h:ja w0 w)(k:uR g (w.drewN n) w')(hg:w0.heap.size<=g):ja w0 w':=
 (below_drewN h n).trans (k.below.mono hg)
def Fp.ja.only{w0 w w':World}{g:Nat}(h:ja w0 w)(k:uR g w w')(hg:w0.heap.size<=g):ja w0 w':=
 Below.trans h (k.below.mono hg)
def Sl.Wy{w:World}{g cap:Nat}{L:List Nat}(h:Sl w (some ⟨g,0,none⟩) cap L){b:Nat}(hb:g≠b)(i:Nat)(v:Value):Sl (w.setCell ⟨b,i,none⟩ v) (some ⟨g,0,none⟩) cap L:=
 h.oE (λb' o _ e=>by cases e;exact hb) (uR.Kz (uR.refl b w) i v)
def Sl.drewN{w:World}{A:Option Addr}{c:Nat}{L:List Nat}(h:Sl w A c L)(n:Nat):Sl (w.drewN n) A c L:=h.below<|below_drewN (Below.refl _ _) n
def aoK{P:Program}{f:FuncId}{args:Array Value}{w:World}{n:Nat}{v:Value}
 (h:Calls P f args (w.drewN n) λe w'=>e = .returned v/\∃ m,w'=(w.drewN n).drewN m):Calls P f args (w.drewN n) λe w''=>e = .returned v/\∃ m,w''=w.drewN m:=
 h.mono λ_ _ ⟨he,m,hm⟩=>⟨he,n+m,by rw[hm,World.drewN_drewN]⟩
set_option maxRecDepth 100000 in
set_option maxHeartbeats 8000000 in
def ag8(A B:Option Addr)(c d:Nat)(L M:List Nat)(w:World)(lx ly s:Nat)(Mw:lx=(iT L).length)(Mx:ly=(iT M).length)(xY:s=32-iD ((iT M).getD (ly-1) 0))(hs:Sl w A c L)(hr:Sl w B d M)(vL:Tb w)(h1:L.length<=100000)(h2:M.length<=100000)(th:val M<=val L)(hlen:2<=ly):
 Calls prog 334 #[.slice A L.length c,.slice B M.length d] w (ad2 w (qc (val L/val M)<|lx+1-ly)<|r9 (s%32)<|(im<|val L%val M*2^s).drop<|s/32):=by
 have H1:=xq A c L w hs;have H2:=xq B d M w hr;have Xd:=qN L;unfold nf at Xd;have xQ:=qN M;unfold nf at xQ;have eL:=rk L;have eM:=rk M;rw[<-eL,<-eM]at th ⊢;have lq:=hs.wu;have og:=hr.wu;have Qs:=Cp M;have Xs:iT (iT L)=iT L:=Cp L;have Xv:iT (iT M)=iT M:=Cp M;have H3:=M5 A B c d (iT L) (iT M) w lq og aC aC;generalize iT L=X at *
 generalize iT M=Y at *
 have pR:0<=lf (val X) (val Y):=by unfold lf;split<;>(try split)<;>omega
 generalize lf (val X) (val Y)=cm at *
 have Xu:Y.length<=X.length:=by
  apply ca;intro h;have:=Oh lq.ok Qs (aC:X.length<Y.length);omega
 clear eL eM hs hr th;rw[<-Mw]at Xu H1 H3 Xd;rw[<-Mx]at Xu H2 H3 xQ;have qh:Y.getD (ly-1) 0≠0:=by
  have:=(DI Y).1 Qs aC;have e:Y.getD (ly-1) 0=Y[Y.length-1]'(aC):=by
   rw[bt,(aC:ly-1=Y.length-1)];simp[(aC:Y.length-1<Y.length)]
  rw[e];exact this
 have HN:=anv og.ok (l:=ly-1) aC rfl qh xY;rw[(aC:ly-1+1=ly)]at HN;obtain⟨x,hx⟩:∃ x,x=Y.getD (ly-1) 0:=⟨_,rfl⟩
 have oh:x<4294967296:=by rw[hx];exact og.ok.getD _
 have H4:=auj λw=>amv x oh w;rw[<-hx]at xY;rw[<-xY]at H4;obtain⟨ab,ao,rfl,hab,c1⟩:=og.mT (i:=ly-1) aC;have Gu:Y[ly-1]'(aC)=x:=by rw[hx];simp[bt,(aC:ly-1<Y.length)]
 rw[Gu]at c1;have akt:s<32:=HN.1;have HNh:=auj HN;have H5:=λw (h:Sl w A c X)=>aaH A c X s w h aC aC 
 have H6:=λw (h:Sl w (some ⟨ab,ao,none⟩) d Y)=>aaH (some ⟨ab,ao,none⟩) d Y s w h aC aC 
 rw[Xs,<-Mw,(aC:s/32+lx+1=lx+1)]at H5;rw[Xv,<-Mx,(aC:s/32+ly+1=ly+1)]at H6;have H5h:=auj H5;have H6h:=auj H6;have HX:=auj Mw;have HY:=auj Mx;have HS2:=auj lq;have HR2:=auj og;have H1h:=auj H1;have H2h:=auj H2;have H3h:=auj H3;clear H1 H2 H3 H5 H6 Xs Xv HN Mw Mx hx Gu xY qh lq og Qs;have zf:(ly:Int)-1=((ly-1:Nat):Int):= aC ;have d0:decide (cm<0)=false:=bn aC;have d2:decide ((lx:Int)+1<=(lx:Int))=false:=bn aC;have xS:=JO (lx+1-ly) aC;rw[show((lx+1-ly:Nat):Int)=lx+1-(ly:Int)by omega]at xS;have d1:((ly:Int)==1)=false:= aN ;go_enter func334,ntmps334;go_wp2_with fail;refine H1h.out.mono ?_;rintro e w' ⟨rfl,rfl⟩;go_wp2_with fail;refine H2h.out.mono ?_;rintro e w' ⟨rfl,rfl⟩;go_wp2_with fail;refine H3h.out.mono ?_;rintro e w1 ⟨rfl,kI⟩;have c2:=c1;rw[<-(kI.cell (p:=⟨ab,ao+(ly-1),none⟩) hab)]at c2;go_wp2_with fail;refine(H4.out _).mono ?_;rintro e w2 ⟨rfl,rfl⟩;go_wp2_with fail;refine(H5h.out _<|HS2.out.below kI).mono ?_;rintro e w2 ⟨T,v1,he,F7,I0,pF,oB⟩;obtain⟨g,cap,R,Gs,XI,XJ,Xk,Ga,aj1⟩:=pF.rx (by intro h;rw[h]at I0;simp at I0);have Xo:=auj pF.ok;rw[I0]at Gs Ga;subst Gs;subst he;clear pF;have HTv:=auj F7;have HTl:=auj I0;clear F7 I0;go_wp2_with fail;refine(H6h.out _<|(HR2.out.below kI).below oB).mono ?_;rintro e w3 ⟨S,v2,he,Xn,Ed,pF,tg⟩;have Mg:=Xk.rG<|tg.block g XJ;obtain⟨g',cap',R',tS,aj9,as0,_,asZ,_⟩:=pF.rx (by intro h;rw[h]at Ed;simp at Ed);obtain⟨_,_,e2,Qw⟩:=pF.sl;rw[tS]at e2;cases e2;have Ms:g'≠g:= aC 
 have H7:=xq (some ⟨g',0,none⟩) cap' S w3 Qw;have hV:iT S=im (val Y*2^s):=by rw[ug pF.ok,Xn]
 have Bv:=Qw.wu;rw[hV]at H7 Bv;rw[HNh.out.2.1,Ed]at H7;rw[Ed]at tS;have ajW:ja w w3:=(kI.trans oB).trans tg;subst tS;subst he;have H7h:=auj H7;clear pF Qw hV Xn Ed H7 Xk oB tg;go_wp2_with fail;refine H7h.out.mono ?_;rintro e w4 ⟨rfl,rfl⟩;go_wp2;go_loop [9] (λu=>u = .slice (some ⟨g,0,none⟩) (lx+1) cap) (λ_=>0)
 case atStart=>rfl
 case round=>
  subst hrel;go_wp2;have Ar:=Rw.Dj w3<|lx+1-ly;have My:=HNh.out.2.1;have Ao:=HNh.out.2.2.1;have ux:=HNh.out.2.2.2.1;have Xq:=nA<|val Y*2^s;have QC:=lF<|val Y*2^s;rw[<-QC]at ux;generalize im (val Y*2^s)=V at *
  have An:=uj.start (A:=val X) (s:=s) (V:=V) (O:=T) Xo.out HTv.out (la:=lx) (by rw[HX.out];exact pL HS2.out.ok) HTl.out akt aC aC (by rw[My];exact ux);have Xm:=Bv.alloc<|.cells (pB<|List.replicate (lx+1-ly) 0).toArray 95;have Xl:Rx (w3.alloc<|.cells (pB<|List.replicate (lx+1-ly) 0).toArray 95) g T R:=Mg.rG ((ja.alloc w3 _).block g<|by have:=Mg.lt;omega);rw[My]at An;have HD0:=auj An;have HR0:=auj Ar;have HRx:=auj Xl;have HSV:=auj Xm;have HE0:=auj<|ajW.trans<|ja.alloc w3<|.cells (pB<|List.replicate (lx+1-ly) 0).toArray 95;have HnV:=auj My;have HVok:=auj Xq;have HVv:=auj QC;have HN1:=auj Ao;have hgq:g<w3.heap.size:=Mg.lt;have XK:w.heap.size<=g:=bA kI.size XI;clear An Ar Xl Xm Bv Mg My Xq QC Ao ux HTv HTl Xo H1h H2h H3h H4 H5h H6h H7h c1 c2 d2 xS kI XI aj9 XJ HNh HS2 HR2;go_loopw [13] (λj wr=>∃ (k:Nat) (O Q:List Nat),k<=lx+1-ly/\j = .int .i64 ((k:Int)-1)/\uj (val X*2^s) V k (lx+1) O Q/\Rx wr g O R/\Rw wr w3.heap.size Q/\Sl wr (some ⟨g',0,none⟩) cap' V/\ja w wr) (λj _=>(intOf j+1).toNat)
  case atStart=>
   exact⟨lx+1-ly,T,_,bw _,by go_num,HD0.out,HRx.out,HR0.out,HSV.out,HE0.out⟩
  case round=>
   clear HD0 HRx HR0 HSV HE0;obtain⟨k,O,Q,hk,rfl,hD,F6,Qv,Bv,XB⟩:=hrel;have HE:=auj XB;have HSV:=auj Bv;have HRQ:=auj Qv;have HRO:=auj F6;have HD:=auj hD;clear hD XB;rcases k with _|t
   .have hO:=HD.out.Zk;have X9:=HRO.out.sl HD.out.Cc (cap:=cap) aC aj1 ly;have HZ:=R7 (some ⟨g,0,none⟩) cap (O.take ly) s wr X9 aW aC;have e1:(O.take ly).length=ly:=by rw[cJ];omega
    rw[e1]at HZ;have HZh:=auj HZ;have HQs:=auj (HRQ.out.sl HD.out.E9<|by rw[HD.out.JG];omega);have yY:0<val V:=by
     have:=HD.out.lt;rcases fi (val V)with h|h
     .rw [h,cU]at this;omega
     .exact h
    have Xt:0<val Y:=by
     rw[HVv.out]at yY;exact Nat.pos_of_mul_pos_right yY
    have QP:=ag4 (a:=val X) (b:=val Y) (s:=s) (q:=val Q) (r:=val O) Xt (by rw[<-HVv.out];exact HD.out.eq) (by rw[<-HVv.out];have:=HD.out.lt;rw[cR,cE]at this;exact this);have Gg:val (O.take ly)=val O:=by
     rw[asp HD.out.Cc,cF];have:=HD.out.lt;rw[cR,cE]at this;refine fP this ?_;have h:=pL HVok.out;rw[HnV.out]at h;exact h
    have Xe:iT (O.take ly)=im (val X%val Y*2^s):=by rw[ug<|HD.out.Cc.take ly,Gg,QP.2]
    rw[Xe]at HZh;have Me:=HD.out.JG;rw[HnV.out]at Me;have Xi:qc (val X/val Y) (lx+1-ly)=Q:=PD HD.out.E9 Me QP.1;have HQd:=auj Xi;generalize r9 (s%32) ((im<|val X%val Y*2^s).drop<|s/32)=Z at *
    have HQl:=auj Me;clear QP Gg Xe Xi X9 HZ e1 Me hO yY Xt Bv F6 Qv;go_wp2_with fail;refine HZh.out.mono ?_;rintro e w5 ⟨AZ,cZ,rfl,hZs,Xw⟩;go_wp2;go_ret2;have hq:=HQs.out.below Xw;rw[HQl.out]at hq;exact⟨_,_,_,_,by rw[CJ];rfl,by rw[HQd.out];exact hq,hZs,HE.out.trans Xw⟩
   .have hO:=HD.out.Zk;have c4:=F6.cell (i:=t+ly) aC;have c5:=F6.cell (i:=t+ly-1) aC;have c6:=F6.cell (i:=t+ly-2) aC;obtain⟨_,_,e1,_,c7⟩:=Bv.mT (i:=ly-1) (by rw[HnV.out];omega);obtain⟨_,_,e2,_,c8⟩:=Bv.mT (i:=ly-2) (by rw[HnV.out];omega);cases e1;cases e2;rw[cw]at c7 c8;have v7:V[ly-1]'(by rw[HnV.out];omega)=V.getD (ly-1) 0:=by simp[bt,HnV.out,(aC:ly-1<ly)]
    have v8:V[ly-2]'(by rw[HnV.out];omega)=V.getD (ly-2) 0:=by simp[bt,HnV.out,(aC:ly-2<ly)]
    rw[v7]at c7;rw[v8]at c8;clear v7 v8;have lP:=HD.out.Cc;have o4:=lP.getD<|t+ly;have o5:=lP.getD<|t+ly-1;have o6:=lP.getD<|t+ly-2;have o7:=HVok.out.getD<|ly-1;have o8:=HVok.out.getD<|ly-2;have hG:=HD.out.ajJ HVok.out (by rw[HnV.out];omega) (by rw[HnV.out];exact HN1.out);rw[HnV.out]at hG;obtain⟨gd,g1,g2,g3,g4⟩:=ajK (O.getD (t+ly) 0) (O.getD (t+ly-1) 0) (O.getD (t+ly-2) 0) (V.getD (ly-1) 0) (V.getD (ly-2) 0) HN1.out o7 o5 o6 o8 hG.1;have HGq:=auj<|hG.2 gd g1 g2 g3;have HG:=auj g4;clear hG g2 g3 g4 lP Bv F6 Qv;generalize O.getD (t+ly) 0=x4 at *
    generalize O.getD (t+ly-1) 0=x5 at *
    generalize O.getD (t+ly-2) 0=x6 at *
    have HV1:=auj (rfl:V.getD (ly-1) 0=V.getD (ly-1) 0);generalize hx7:V.getD (ly-1) 0=x7 at *
    generalize V.getD (ly-2) 0=x8 at *
    clear hx7 HV1;have i1:(((t+1:Nat):Int)-1)=(t:Int):= aC ;have i2:((t:Int)+ly).toNat=t+ly:= aC ;have i3:((t:Int)+ly-1).toNat=t+ly-1:= aC ;have i4:((t:Int)+ly-2).toNat=t+ly-2:= aC ;have i6:((ly:Int)-2)=((ly-2:Nat):Int):= aC ;have p1:IntKind.i64.wrap ((t:Int)+ly)=(t:Int)+ly:=i64_in _;have p2:IntKind.i64.wrap ((t:Int)+ly-1)=(t:Int)+ly-1:=i64_in _;have p3:IntKind.i64.wrap ((t:Int)+ly-2)=(t:Int)+ly-2:=i64_in _;have p4:IntKind.i64.wrap ((ly-1:Nat):Int)=((ly-1:Nat):Int):=i64_in _;have p5:IntKind.i64.wrap ((ly-2:Nat):Int)=((ly-2:Nat):Int):=i64_in _;have j6:((ly-1:Nat):Int)<ly:= aC ;have j7:((ly-2:Nat):Int)<ly:= aC ;have j0:0<=(t:Int)+ly:= aC ;have j1:0<=(t:Int)+ly-1:= aC ;have j2:0<=(t:Int)+ly-2:= aC ;have j3:(t:Int)+ly<lx+1:= aC ;have j4:(t:Int)+ly-1<(lx:Int)+1:= aC ;have j5:(t:Int)+ly-2<(lx:Int)+1:= aC ;rw[i1];clear i1;go_wp2;go_quiet (exact aoK<|HG.out _);go_wp2_with fail;have HTk:=arI g t (cap-t) cap' gd O V R (some ⟨g',0,none⟩) (wr.drewN nq) (HRO.out.rG rfl) (HSV.out.drewN nq) (λb' o _ e=>by cases e;exact Ms) HD.out.Cc (by rw[HnV.out];omega) g1 aC;rw[HnV.out,(aC:ly+1=t+ly+1-t)]at HTk;refine HTk.mono ?_;rintro e w5 ⟨O',δ,rfl,Xj,qA,Gm,hδ,mY,MC,Gn⟩;have HRO':=auj Xj;have HON:=auj Gn;have HSV5:=auj ((HSV.out.drewN nq).oE (λb' o _ e=>by cases e;exact Ms) Gn);have HRQ5:=auj<|show Rw w5 w3.heap.size Q from(Gn.oE _ aC).trans HRQ.out;have HE5:=auj<|show ja w w5 from Fp.ja.arY HE.out Gn XK;have hPt:=pw t;have Xr:0<val V:=by
     have:=HD.out.lt;rcases fi (val V)with h|h
     .rw [h,cU]at this;omega
     .exact h
    have wg:IntKind.u32.wrap (gd:Int)=gd:=by rw[IntKind.wrap_u32];omega
    have htm:(t:Int)<lx+1-(ly:Int):= aC ;have Yd:t<Q.length:=by rw[HD.out.JG,HnV.out];omega
    have Qu:=bD Yd;have cq:=HRQ5.out.cell Qu;have fq:=HRQ5.out.frozen t;generalize Q[t]=q0 at *
    have HQG:=auj Qu;clear Qu Yd c4 c5 c6 c7 c8 HRO HRQ HSV HE HTk Xj Gn;rcases gU δ 1 with Yy|hδ1
    .obtain rfl:δ=0:= aC ;have Xc:=VJ hPt Xr (by rw[mY,dj,cj]) HGq.out.1;have HDS:=auj (HD.out.step (x:=gd) (by rw[HnV.out];omega) (by rw[qA,hO]) Gm aC (by rw[mY,dj,cj]) Xc.2);clear Xc mY MC Gm qA HD HGq;have HRQ6:=auj (λx:Nat=>HRQ5.out.set t x);have HRO6:=auj (λv:Value=>HRO'.out.rG (w':=w5.setCell ⟨w3.heap.size,t,none⟩ v)<|by simp only[World.setCell,dr];rw[bj aC]);have HSV6:=auj (λv:Value=>HSV5.out.Wy (b:=w3.heap.size) aC t v);have HE6:=auj (λv:Value=>HE5.out.setCell (p:=⟨w3.heap.size,t,none⟩) (by show w.heap.size<=w3.heap.size;omega) v);go_wp2;go_roundw
     case rel=>exact⟨t,O',Q.set t gd,aC,by go_num,HDS.out,HRO6.out _,HRQ6.out _,HSV6.out _,HE6.out _⟩
     case measure=>simp[intOf]
    .obtain rfl:δ=1:= aC ;have uC:=HD.out.abf (x:=gd) HVok.out Gm (by rw[HnV.out];exact mY) (by rw[HnV.out];exact MC);have El:=uC.2;have HB:=auj (λ(κ:Nat) (O2:List Nat)=>HD.out.ae5 (x:=gd) (κ:=κ) (O2:=O2) HVok.out (by rw[HnV.out];omega) Gm (by rw[HnV.out];exact mY) (by rw[HnV.out];exact MC) g1 HGq.out.2 Xr);have HP0:=auj<|z8.start Gm t V;have XS:O'.length=lx+1:=by rw[qA,hO]
     have HL':=auj XS;have hxm:IntKind.u64.wrap ((gd:Int)-1)=((gd-1:Nat):Int):=by rw[IntKind.wrap_u64];omega
     have wg1:IntKind.u32.wrap ((gd-1:Nat):Int)=((gd-1:Nat):Int):=by rw[IntKind.wrap_u32];omega
     clear uC mY MC Gm qA XS HD HGq wg cq fq;go_wp2;go_loopw [15,125] (λcy i wr2=>∃ (k c':Nat) (O2:List Nat),k<=ly/\i = .int .i64 k/\cy = .int .u32 c'/\z8 O' t V k O2 c'/\Rx wr2 g O2 R/\uR g w5 wr2) (λ_ i _=>ly-(intOf i).toNat)
     case atStart=>exact⟨0,0,O',ck _,rfl,rfl,HP0.out,HRO'.out,uR.refl _ _⟩
     case round=>
      clear HP0 HRO';obtain⟨k,c',O2,Au,rfl,rfl,hP,CT,Gl⟩:=hrel;have HP:=auj hP;have CZ:=hP.Pg;have nj:O2.length=lx+1:=by rw[hP.len];exact HL'.out
      have HL2:=auj nj;clear hP;by_cases iN:k<ly
      .have BH:k<V.length:=by rw[HnV.out];exact iN
       obtain⟨_,_,e1,_,c1⟩:=(HSV5.out.oE (λb' o _ e=>by cases e;exact Ms) Gl).mT BH;cases e1;rw[cw]at c1;have v7:V[k]=V.getD k 0:=by simp[bt,BH]
       rw[v7]at c1;have rz:t+k<O2.length:= aC ;have c2:=CT.cell rz;have c3:=CT.frozen<|t+k;have sI:V.getD k 0<4294967296:=HVok.out.getD k;have Jn:O2.getD (t+k) 0<4294967296:=HP.out.ok.getD _;have HST:=auj (HP.out.step HVok.out BH<|by rw[HL'.out,HnV.out];omega);have HRS:=auj (λx:Nat=>CT.set rz x);have HOS:=auj λ(v:Value)=>Gl.Kz (t+k) v;have HA:=auj λw=>Ib (O2.getD (t+k) 0) (V.getD k 0) c' w Jn sI CZ;clear CT Gl HP v7 BH rz nj HL2;generalize O2.getD (t+k) 0=u at *
       generalize V.getD k 0=y at *
       have BD:((t:Int)+k).toNat=t+k:= aC ;have Gc:0<=(t:Int)+k:= aC ;have hi3:(t:Int)+k<lx+1:= aC ;go_wp2_with fail;refine(HA.out _).mono ?_;rintro e w6 ⟨rfl,rfl⟩;go_wp2;go_roundw
       case rel=>
        exact⟨k+1,(u+y+c')/4294967296,O2.set (t+k)<|(u+y+c')%4294967296,aC,by go_num,rfl,HST.out,HRS.out _,HOS.out _⟩
       case measure=>simp[intOf];omega
      .obtain rfl:k=ly:= aC ;have Xh:=(show z8 O' t V V.length O2 c' by rw[HnV.out];exact HP.out).RN (by rw[HL'.out,HnV.out];omega);rw[HnV.out]at Xh;obtain⟨q1,q2,⟨κ,q3,q4⟩,q5⟩:=Xh;have rz:t+k<O2.length:= aC ;have c2:=CT.cell rz;have c3:=CT.frozen<|t+k;have Jn:O2.getD (t+k) 0<4294967296:=HP.out.ok.getD _;have HDS:=auj (HB.out κ _ (by rw[q1];exact HL'.out) q2 q3 (by rw[HnV.out];exact q4)<|by rw[HnV.out];exact q5);have HRS:=auj (λx:Nat=>CT.set rz x);have HOS:=auj λ(v:Value)=>Gl.Kz (t+k) v;have Mf:∀ v:Value,Rw (wr.setCell ⟨g,t+k,none⟩ v) w3.heap.size Q:=λv=>((HOS.out v).oE _ aC).trans HRQ5.out
       have hcq:∀ v:Value,(wr.setCell ⟨g,t+k,none⟩ v).cell? ⟨w3.heap.size,t,none⟩=some (.int .u32 (q0:Int)):=λv=>(Mf v).cell HQG.out
       have hfq:∀ v:Value,(wr.setCell ⟨g,t+k,none⟩ v).frozen? ⟨w3.heap.size,t,none⟩=false:=λv=>(Mf v).frozen t
       have HRQ8:=auj λ(v:Value) (x:Nat)=>(Mf v).set t x;have HRO8:=auj (λ(x:Nat) (v:Value)=>(HRS.out x).rG (w':=(wr.setCell ⟨g,t+k,none⟩<|.int .u32 (x:Int)).setCell ⟨w3.heap.size,t,none⟩ v)<|by simp only[World.setCell,dr];rw[bj aC]);have HSV8:=auj (λ(v v2:Value)=>(HSV5.out.oE (λb' o _ e=>by cases e;exact Ms)<|HOS.out v).Wy (b:=w3.heap.size) aC t v2);have HE8:=auj (λ(v v2:Value)=>(Fp.ja.only HE5.out (HOS.out v) XK).setCell (p:=⟨w3.heap.size,t,none⟩) (by show w.heap.size<=w3.heap.size;omega) v2);clear Mf HRS HOS CT Gl HP q1 q2 q3 q4 q5 rz nj HL2;generalize O2.getD (t+k) 0=u at *
       have BD:((t:Int)+k).toNat=t+k:= aC ;have Gc:0<=(t:Int)+k:= aC ;have hi3:(t:Int)+k<lx+1:= aC ;have hi4:IntKind.u32.wrap ((u:Int)+c')=(((u+c')%4294967296:Nat):Int):=by rw[IntKind.wrap_u32];omega
       generalize (u+c')%4294967296=uu at *
       go_wp2;go_roundw
       case rel=>exact⟨t,O2.set (t+k) uu,Q.set t<|gd-1,aC,by go_num,HDS.out,HRO8.out _ _,HRQ8.out _ _,HSV8.out _ _,HE8.out _ _⟩
       case measure=>simp[intOf]
def aqS:E.le (.v<|.slice none 0 0)<|iy []:=λbs br w v h=>by
 obtain rfl:=iO.kW h;exact .sl false 0 1 _ none 0 (λ_ _=>undef) (bw _) aE (λ_=>rfl) (λi j hi=>absurd hi<|bC i) (λi j hi=>absurd hi<|bC i) (λi j hi=>absurd hi<|bC i) λi j hi=>absurd hi<|bC i
def aqT{x:Nat}:E.le (.sl false 1 1 λi_ j_=>[.v<|.int .u32 (x:Int)].getD (i_*1+j_)<|.v<|.bool false)<|iy [x]:=.sl λi j hi hj=>by
 obtain rfl:i=0:= aC ;obtain rfl:j=0:= aC ;exact⟨.refl _,rfl⟩
def Vh(L:List Nat)(hk:iW L):il 203 [iy L]<|iy L:=Kb hk call203 (λA c w h _=>Pp A c L w h) λA c B w e w' h hB ⟨h1,h2⟩=>by
 subst h2;exact⟨_,h1,Below.refl _ _,DG hB (Below.refl _ _) ⟨bw _,h.len,h.ok,λhn=>by have:=h.AV hn;have:=h.cap;omega,h.cell⟩⟩
def Vj(L:List Nat)(hk:iW L)(hl:L.length<=1000000):il 204 [iy L]<|iy L:=Kb hk call204 (λA c w h _=>Pq A c L w h aC) λA c B w e w' h hB r=>rl B w e w' hB r
section
variable(L M:List Nat)(hL:iW L)(hM:iW M)(h1:L.length<=100000)
def am6(h2:M.length<=100000)(hc:lf (val<|iT L) (val<|iT M)<0):il 334 [iy L,iy M]<|.iH [iy [],iy<|iT L]:=by
 have ta:=qN L;have tb:=qN M;unfold nf at ta tb;exact iE<|ae [.c<|we L aD,.c<|we M aD,.c<|R2 (iT L) (iT M) (iW.iT aD) (iW.iT aD) aC aC,tB 25<|bu hc,ag [iy<|iT L]<|Vj _ (iW.iT aD) aC]<|rR (.iH [iy [],iy<|iT L]) (.iH<|.cons aqS<|.cons (.refl _) .nil:E.le (.iH [.v<|.slice none 0 0,iy<|iT L])<|.iH [iy [],iy<|iT L])
def am7(h2:M.length<=100000)(hc:¬lf (val<|iT L) (val<|iT M)<0)(hl:(iT M).length=1)(C0:0<(iT M).getD 0 0)(C1:(iT M).getD 0 0<4294967296):il 334 [iy L,iy M]<|.iH [iy<|qc (val (iT L)/(iT M).getD 0 0) (iT L).length,iy [val (iT L)%(iT M).getD 0 0]]:=by
 have ta:=qN L;have tb:=qN M;unfold nf at ta tb;exact iE<|ae [.c<|we L aD,.c<|we M aD,.c<|R2 (iT L) (iT M) (iW.iT aD) (iW.iT aD) aC aC,tB 25<|bn hc,ah 30 (((iT M).length:Int)==1)<|by rw[hl];rfl,iX 0<|(iT M).length,.c<|ani (iT L) ((iT M).getD 0 0) (iW.iT aD) aC C0 C1]<|rR (.iH [iy<|qc (val (iT L)/(iT M).getD 0 0) (iT L).length,iy [val (iT L)%(iT M).getD 0 0]]) (.iH<|.cons (.refl _)<|.cons aqT .nil:E.le (.iH [iy<|qc (val (iT L)/((iT M).getD 0 0)) (iT L).length,(.sl false 1 1 λi_ j_=>[.v<|.int .u32 ((val (iT L)%((iT M).getD 0 0):Nat):Int)].getD (i_*1+j_)<|.v<|.bool false)])<|.iH [iy<|qc (val (iT L)/(iT M).getD 0 0) (iT L).length,iy [val (iT L)%(iT M).getD 0 0]])
def R3(h2:M.length<=100000)(h0:val M≠0):∃ T S:List Nat,il 334 [iy L,iy M] (.iH [iy T,iy S])/\val T=val L/val M/\val S=val L%val M/\iW T/\iW S/\T.length<=L.length/\S.length<=L.length+1:=by
 have ta:=qN L;have tb:=qN M;unfold nf at ta tb;have e1:=rk L;have e2:=rk M;by_cases hc:lf (val<|iT L) (val<|iT M)<0
 .refine ⟨[],iT L,am6 L M hL hM h1 h2 hc,?_,?_,iW.nil,hL.iT,ck _,aC⟩
  .rw [e1,e2]at hc;have:val L<val M:=by unfold lf at hc;split at hc<;>(try split at hc)<;>omega
   rw[dB this];rfl
  .rw [e1,e2]at hc;have:val L<val M:=by unfold lf at hc;split at hc<;>(try split at hc)<;>omega
   rw[cF this,e1]
 .have th:val M<=val L:=by rw[e1,e2]at hc;unfold lf at hc;split at hc<;>(try split at hc)<;>omega
  have jV:iT M≠[]:=by intro h;rw[h]at e2;exact h0 e2.symm
  have hlen:(iT M).length≠0:=by simpa using jV
  by_cases hl:(iT M).length=1
  .obtain ⟨x,hx⟩:=List.length_eq_one_iff.1 hl;have lP:=hM.iT;rw[hx]at lP;have Yq:x=val M:=by rw[<-e2,hx];simp[val]
   have hg:(iT M).getD 0 0=x:=by rw[hx];rfl
   have:=am7 L M hL hM h1 h2 hc hl (by rw[hg];omega) (by rw[hg];exact lP.head);rw[hg]at this;refine⟨_,_,this,?_,?_,IC _ _,iW.cons (fP (bR _ aC) lP.head) iW.nil,by rw[CJ];exact ta,aH⟩
   .rw [KO,cF,e1,Yq];exact cO (cv _ _)<|pL hL.iT
   .simp [val,e1,Yq]
  .refine ⟨_,_,Kd hL hM call334 (λA c B d w h k hT=>ag8 A B c d L M w _ _ _ rfl rfl rfl h k hT h1 h2 th aC) λB w e w' hB ⟨A1,c1,B1,d1,q1,q2,q3,q4⟩=>⟨_,q1,q4,ku.iH<|.cons (DG hB q4 q2)<|.cons (DG hB q4 q3)<|.nil _ _ _⟩,?_,?_,IC _ _,Dr _ _,?_,?_⟩
   .rw [KO,cF];rw[cT aC];have g1:=pL hL.iT;rw[e1]at g1;refine bV g1 ?_;obtain⟨l,qA⟩:∃ l,(iT M).length=l+1:=⟨(iT M).length-1,aC⟩
    have g2:4294967296^l<=val M:=by
     apply ca;intro q;have q2:(im<|val M).length<=l:=zp aC;rw[<-ug hM]at q2;omega
    have g3:=cV (4294967296^((iT L).length+1-(iT M).length)) g2;rw[<-bE]at g3;refine bA ?_ g3;exact bY aE aC 
   .rw [Oj<|nA _,lF,ez _<|bF aE]
   .rw [CJ];omega
   .rw [NT,dz];have hb:32-iD ((iT M).getD ((iT M).length-1) 0)<33:= aC ;have:=al6 (nA<|val L%val M)<|32-iD ((iT M).getD ((iT M).length-1) 0);rw[lF]at this;have h3:(im<|val L%val M).length<=(im<|val L).length:=nG<|e9 _ _;rw[<-ug hL]at h3;omega
end
def B9(m n:Nat)(h1:(im m).length<=256)(h2:(im n).length<=256)(h0:n≠0):il 280 [iy<|im m,iy<|im n]<|.iH [iy<|im<|m/n,iy<|im<|m%n,iP 0]:=by
 obtain⟨T,S,Ei,hT,hS,oT,oS,_,_⟩:=R3 (im m) (im n) (nA m) (nA n) aC aC (by rw[lF];exact h0);rw[lF,lF]at hT hS;have hz:iT (im n)=im n:=DJ n;have hl:=qt h0;have nj:(((iT<|im n).length:Int)==0)=false:=by rw[hz];exact oj hl
 exact iE<|ae [.c<|aay (im m) (im n) aD aD,.c<|we (im n)<|nA _,ai 18 (((iT<|im n).length:Int)==0) nj,ag [iy<|im m,iy<|im n] Ei,.c<|we T aD,ag [iy<|iT T]<|Vh _<|iW.iT aD,.c<|we S aD,ag [iy<|iT S]<|Vh _<|iW.iT aD]<|rQ (.iH [iy<|iT T,iy<|iT S,iP 0]) (.iH [iy<|im<|m/n,iy<|im<|m%n,iP 0])<|by rw[ug oT,ug oS,hT,hS]
def abx(a b:Dy)(p:Nat)(up:Bool)(ha:a.ix)(hb:b.ix)(b0:b.m≠0)(iC:8<=p)(iu:p<=512):il 230 [iB a,iB b,iP p,bP up]<|.iH [iB<|nv a b p up,iP<|oX a b p up]:=by
 by_cases a0:a.m=0
 .have e1:nv a b p up=iY/\oX a b p up=0:=by unfold nv oX;rw[bk a0,bk a0];exact⟨rfl,rfl⟩
  exact iE<|ae [.o 18<|.e<|yU a b,.c<|zJ p a b aD aD,ai 21 ((0:Int) != 0) aE,ai 28 (((im b.m).length:Int)==0)<|oj<|qt b0,ah 34 (((im a.m).length:Int)==0)<|ua<|xk.2 a0,.o 35 (.e uQ:aj (.agg ar)<|iB iY)]<|rQ (.iH [iB iY,iP 0]) (.iH [iB<|nv a b p up,iP<|oX a b p up])<|by rw[e1.1,e1.2]
 .have va:=ha.im;have vb:=hb.im;have xa:=ha.exp;have xb:=hb.exp;have ra:=ha.range.resolve_left a0;have rb:=hb.range.resolve_left b0;have pa:=qa a0;have pb:=qa b0;have hK:lR a b p 3=p+3+iD b.m-iD a.m:=rfl;have bs:=s9 a0<|lR a b p 3;have z1:(im<|a.m*2^lR a b p 3).length<=256:=qH;have hq:=PE a0 b0 p 3 aE;have q0:a.m*2^lR a b p 3/b.m≠0:=by intro q;rw[q,uo]at hq;omega
  have z2:(im<|a.m*2^lR a b p 3/b.m).length<=256:=qH (by have:=wH<|cv (a.m*2^lR a b p 3) b.m;omega);have z3:(im<|a.m*2^lR a b p 3%b.m).length<=256:=qH (by have:=wH<|dM<|bR (a.m*2^lR a b p 3)<|eF b0;omega);have ml:decide (0<(iD<|a.m*2^lR a b p 3%b.m:Int))=decide (a.m*2^lR a b p 3%b.m≠0):=by
   by_cases h:a.m*2^lR a b p 3%b.m=0
   .rw [h,uo];rfl
   .have:=qa h;rw[bu h,bu aC]
  obtain⟨d1,d2⟩:=ag5 a0 b0 p up;have h0:a.m*2^lR a b p 3/b.m≠0\/a.m*2^lR a b p 3/b.m=0/\a.e-(lR a b p 3:Int)-b.e=0/\decide (0<(iD<|a.m*2^lR a b p 3%b.m:Int))=false:=.inl q0;have hm:decide (0<(iD<|a.m*2^lR a b p 3%b.m:Int))=true->p<iD (a.m*2^lR a b p 3/b.m):=λ_=>hq
  exact iE (ae [.o 18<|.e<|yU a b,.c<|zJ p a b aD aD,ai 21 ((0:Int) != 0) aE,ai 28 (((im b.m).length:Int)==0)<|oj<|qt b0,ai 34 (((im a.m).length:Int)==0)<|oj<|qt a0,iL<|(p:Int)+3,.c<|LJ b aD,
   iL (((p:Int)+3)+(iD<|Dy.m b:Int)),.c<|LJ a aD,iL<|(((p:Int)+3)+(iD<|Dy.m b:Int))-(iD<|Dy.m a:Int),.o 44<|aq (if((((p:Int)+3)+(iD<|Dy.m b:Int))-(iD<|Dy.m a:Int))>0 then((((p:Int)+3)+(iD<|Dy.m b:Int))-(iD<|Dy.m a:Int))else 0) (lR a b p 3:Int) aM,.c<|yA a.m<|lR a b p 3,.c<|B9 (a.m*2^(lR a b p 3)) b.m aC aC aD,iL<|a.e-(lR a b p 3:Int),
   iL ((a.e-(lR a b p 3:Int))-b.e),.c<|uJ<|(a.m*2^(lR a b p 3))%b.m,.c<|Kn (! (a.neg==b.neg)) ((a.m*2^(lR a b p 3))/b.m) ((a.e-(lR a b p 3:Int))-b.e) (decide (0<(iD<|(a.m*2^(lR a b p 3))%b.m:Int))) up p aC aD aC aC aC aC aD]<|rQ (.iH [iB<|kD (!(a.neg==b.neg)) ((a.m*2^(lR a b p 3))/b.m) ((a.e-(lR a b p 3:Int))-b.e) (decide (0<(iD<|(a.m*2^(lR a b p 3))%b.m:Int))) p up,iP<|kn (!(a.neg==b.neg)) ((a.m*2^(lR a b p 3))/b.m) ((a.e-(lR a b p 3:Int))-b.e) (decide (0<(iD<|(a.m*2^(lR a b p 3))%b.m:Int))) p up]) (.iH [iB<|nv a b p up,iP<|oX a b p up])<|by rw[<-d1,<-d2,<-ml];rfl)
section
variable(a b:Dy)(p:Nat)(ha:a.ix)(hb:b.ix)(b0:b.m≠0)(iC:8<=p)(iu:p<=512)
def SL:il 169 [iB a,iB b,iP p]<|.iH [iB<|nv a b p false,iP<|oX a b p false]:=
 iE (af [ag [iB a,iB b,iP p,bP false]<|abx _ _ _ _ aD aD aD aC aC])
def abw:il 170 [iB a,iB b,iP p]<|.iH [iB<|nv a b p true,iP<|oX a b p true]:=
 iE (af [ag [iB a,iB b,iP p,bP true]<|abx _ _ _ _ aD aD aD aC aC])
end
def YW(l:List Iv)(i:Nat):PS:=⟨19,true,[(7,.e<|iP i),(6,.e<|iP l.length),(5,.e<|iG l)],[]⟩
def YV(l:List Iv)(N:Nat)(i:Nat):PS:=⟨19,true,[(7,.e<|iP i),(6,.e<|iP l.length),(5,.e<|iG l)],[]⟩
def mn(a:Iv):E.le (.sl true 1 7 λi j=>(jS a).getD (i*7+j)<|.v<|.bool false)<|iG [a]:=.sl λi j hi hj=>by
 obtain rfl:i=0:= aC ;rcases j with _|_|_|_|_|_|_|j
 all_goals first|exact⟨.refl _,rfl⟩|omega
def AH(a b:Iv):E.le (.sl true 2 7 λi j=>(jS a++jS b).getD (i*7+j)<|.v<|.bool false)<|iG [a,b]:=.sl λi j hi hj=>by
 obtain rfl|rfl:i=0\/i=1:= aC 
 all_goals
  rcases j with _|_|_|_|_|_|_|j
  all_goals first|exact⟨.refl _,rfl⟩|omega
def vZ{x:Iv}(h:x.ix)(ha:x.all=false):x.lo.ix/\x.hi.ix/\jN x.lo x.hi<=0:=by
 rcases h with⟨h1,_⟩|⟨_,h⟩
 .rw [ha]at h1;cases h1
 .exact h
def YY{x:Iv}(h:x.ix)(ha:x.all=true):x.lo=iY/\x.hi=iY:=by
 rcases h with⟨_,h⟩|⟨h1,_⟩
 .exact h
 .rw [ha]at h1;cases h1
def oC : il 21 []<|iA iw:=
 iE (af [.o 1 (.e Ba:aj (.agg [bP false,.v<|.slice none 0 0,iP 0,bP false,.v<|.slice none 0 0,iP 0,bP true])<|iA iw)])
def EN(lo hi:Dy)(e f:Int):il 127 [iB lo,iP e,iB hi,iP f]<|iA<|mF lo e hi f:=by
 by_cases he:e=0
 .by_cases hf:f=0
  .exact iE<|ae [ai 10 (e != 0)<|by rw[he];rfl,ai 13 (f != 0)<|by rw[hf];rfl]<|rQ (iA<|Iv.mk lo hi false) (iA<|mF lo e hi f)<|by rw[show mF lo e hi f=⟨lo,hi,false⟩by unfold mF;rw[bj<|by simp[he,hf]]];try rfl
  .exact iE<|ae [ai 10 (e != 0)<|by rw[he];rfl,ah 13 (f != 0)<|by simpa using hf,ag [] oC]<|rQ (iA iw) (iA<|mF lo e hi f)<|by rw[show mF lo e hi f=iw by unfold mF;rw[bk<|.inr hf]]
 .exact iE<|ae [ah 10 (e != 0)<|by simpa using he,ag [] oC]<|rQ (iA iw) (iA<|mF lo e hi f)<|by rw[show mF lo e hi f=iw by unfold mF;rw[bk<|.inl he]]
def Y1 : il 113 [iB iY]<|bP true:=
 iE (af [ai 4 iY.neg rfl,ah 10 (((im iY.m).length:Int)==0)<|ua<|xk.2 rfl,ah 15 (iY.e==0) rfl])
def qG(x:Iv)(hx:x.ix):il 66 [iA x]<|bP true:=by
 by_cases lK:x.all=true
 .obtain ⟨h1,h2⟩:=YY hx lK;exact iE<|af [ah 5 x.all lK,.c (by rw[h1];exact Y1:il 113 [iB x.lo]<|bP true),.c (by rw[h2];exact Y1:il 113 [iB x.hi]<|bP true)]
 .replace lK:x.all=false:=by simpa using lK
  obtain⟨h1,h2,h3⟩:=vZ hx lK;exact iE<|af [ai 5 x.all lK,.c<|sj x.lo aD,.c<|sj x.hi aD,.c<|nE x.lo x.hi aD aD,tB 30<|bu h3]
section
variable(l:List Iv)(hl:l.length<=1000)(hv:∀ i,i<l.length->(l.getD i iw).ix)
def YX(ha:∀ i,i<l.length->(l.getD i iw).all=false):il 93 [iG l]<|bP true:=
 iE (af [.s (Sp.jP (YW l) 0 l.length aC (λi hi mW=>by
    have MD:=hv i aC;have QE:=ha i aC;exact iS (af [tT 8 ((i:Int)<l.length) aC,iX (i:Int)<|l.length,ai 12 ((l.getD i iw).all) QE,ag [iA<|l.getD i iw]<|qG _ aD,
     iL ((i:Int)+1)]) aF)
  (λhi=>by
    exact iS (af [tF 8 ((l.length:Int)<l.length) aC]) aF) aI:jM 2 Tryz.f93 (YW l 0) (.exit 0) ⟨19,true,[],[]⟩) .nil])
def Rz(N:Nat)(hN:N<l.length)(ha:∀ i,i<N->(l.getD i iw).all=false)(ux:(l.getD N iw).all=true):il 93 [iG l]<|bP false:=
 iE (af [.s (Sp.jP (YV l N) 0 N aC (λi hi mW=>by
    have MD:=hv i aC;have QE:=ha i aC;exact iS (af [tT 8 ((i:Int)<l.length) aC,iX (i:Int)<|l.length,ai 12 ((l.getD i iw).all) QE,ag [iA<|l.getD i iw]<|qG _ aD,
     iL ((i:Int)+1)]) aF)
  (λhi=>by
    exact iS (af [tT 8 ((N:Int)<l.length) aC,iX (N:Int)<|l.length,ah 12 ((l.getD N iw).all) ux]) aF) aI:jM 2 Tryz.f93 (YV l N 0) .ret ⟨19,true,[(2,.e<|bP false)],[]⟩) .nil])
end
def qU(x:Iv)(hx:x.ix):il 93 [iG [x]]<|bP<|!x.all:=by
 have hv:∀ i,i<[x].length->([x].getD i iw).ix:=λi hi=>(match i,hi with
  | 0,_=>hx
  |n+1,hi=>absurd hi aH)
 cases lK:x.all with
 |true=>exact Rz [x] aH hv 0 aH (λi hi=>absurd hi<|bC i) lK
 |false=>exact YX [x] aH hv (λi hi=>(match i,hi with
  | 0,_=>lK
  |n+1,hi=>absurd hi aH))
def BX(x y:Iv)(hx:x.ix)(hy:y.ix):il 93 [iG [x,y]]<|bP<|!(x.all||y.all):=by
 have hv:∀ i,i<[x,y].length->([x,y].getD i iw).ix:=λi hi=>(match i,hi with
  | 0,_=>hx
  | 1,_=>hy
  |n+2,hi=>absurd hi aH)
 cases lK:x.all with
 |true=>exact Rz [x,y] aH hv 0 aH (λi hi=>absurd hi<|bC i) lK
 |false=>cases Da:y.all with
  |true=>exact Rz [x,y] aH hv 1 aH (λi hi=>(match i,hi with
   | 0,_=>lK
   |n+1,hi=>absurd hi aC)) Da
  |false=>exact YX [x,y] aH hv (λi hi=>(match i,hi with
   | 0,_=>lK
   | 1,_=>Da
   |n+2,hi=>absurd hi aH))
def BW(x y:Iv)(p:Nat)(hx:x.ix)(hy:y.ix)(iC:8<=p:=by omega)(iu:p<=512:=by omega):il 73 [iA x,iA y,iP p]<|iA<|kO x y p:=by
 by_cases hk:(x.all||y.all)=true
 .exact iE<|ae [.o 13<|.e<|AH x y,ag [iG [x,y]]<|BX _ _ aD aD,ai 14 (!(x.all||y.all))<|by rw[hk];rfl,ag [] oC]<|rQ (iA iw) (iA<|kO x y p)<|by rw[show kO x y p=iw by unfold kO;rw[bk hk]]
 .replace hk:(x.all||y.all)=false:=by simpa using hk
  have lK:x.all=false:=by cases h:x.all;rfl;rw[h]at hk;simp at hk
  have Da:y.all=false:=by cases h:y.all;rfl;rw[h]at hk;simp at hk
  obtain⟨v1,v2,v3⟩:=vZ hx lK;obtain⟨v4,v5,v6⟩:=vZ hy Da;exact iE<|ae [.o 13<|.e<|AH x y,ag [iG [x,y]]<|BX _ _ aD aD,ah 14 (!(x.all||y.all))<|by rw[hk];rfl,.c<|xi (p:Int),ah 18 (kA (p:Int))<|oo.2 ⟨aC,aC⟩,.c<|Ns x.lo y.lo p aD aD,.c<|G6 x.hi y.hi p aD aD,ag [iB<|jd (jc x.lo y.lo) p false,iP<|jI (jc x.lo y.lo) p false,iB<|jd (jc x.hi y.hi) p true,iP<|jI (jc x.hi y.hi) p true]<|EN _ _ _ _]<|rQ (iA<|mF (jd (jc x.lo y.lo) p false) (jI (jc x.lo y.lo) p false) (jd (jc x.hi y.hi) p true)<|jI (jc x.hi y.hi) p true) (iA<|kO x y p)<|by rw[show kO x y p=_ by unfold kO;rw[bj<|by rw[hk];decide]]
def MJ(x:Iv)(hx:x.ix):il 72 [iA x]<|iA<|tu x:=by
 by_cases lK:x.all=true
 .exact iE<|ae [.o 4<|.e<|mn x,ag [iG [x]]<|qU _ aD,ai 5 (!x.all)<|by rw[lK];rfl,ag [] oC]<|rQ (iA iw) (iA<|tu x)<|by rw[show tu x=iw by unfold tu;rw[bk lK]]
 .replace lK:x.all=false:=by simpa using lK
  obtain⟨v1,v2,v3⟩:=vZ hx lK;exact iE<|ae [.o 4<|.e<|mn x,ag [iG [x]]<|qU _ aD,ah 5 (!x.all)<|by rw[lK];rfl,.c<|xL x.hi aD,.c<|xL x.lo aD]<|rQ (iA<|Iv.mk (ki x.hi) (ki x.lo) false) (iA<|tu x)<|by rw[show tu x=⟨ki x.hi,ki x.lo,false⟩by unfold tu;rw[bj<|by rw[lK];decide]];try rfl
def EO(x y:Iv)(p:Nat)(hx:x.ix)(hy:y.ix)(iC:8<=p:=by omega)(iu:p<=512:=by omega):il 163 [iA x,iA y,iP p]<|iA<|nn x y p:=by
 have hn:=xr hy;exact iE<|af [ag [iA y]<|MJ _ aD,ag [iA x,iA<|tu y,iP p]<|BW _ _ _ aD aD]
def yh(d:Dy)(hd:d.ix):il 18 [iB d]<|iA<|jx d:=
 iE (af [.c<|sj d aD])
def D1(d:Dy)(hd:d.ix):il 193 [iB d]<|iB<|mi d:=by
 have hl:=hd.im;by_cases h0:d.m=0
 .have e1:mi d=iY:=by
   rcases hd.canon with q|q
   .unfold mi iY;rw[q.1,q.2.2]
   .omega
  exact iE<|ae [.c<|sj d aD,ah 10 (((im d.m).length:Int)==0)<|ua<|xk.2 h0,.o 12 (.e uQ:aj (.agg ar)<|iB iY)]<|rQ (iB iY) (iB<|mi d)<|by rw[e1]
 .exact iE<|af [.c<|sj d aD,ai 10 (((im d.m).length:Int)==0)<|oj<|qt h0,.c<|Vj (im d.m) (nA _) aC]
section
variable(a b:Dy)(ha:a.ix)(hb:b.ix)
def Jy:il 75 [iB a,iB b]<|iB<|jA a b:=by
 have hc:=It a b;by_cases h:(jN a b<=0)
 .exact iE<|ae [.c<|nE a b aD aD,tB 8<|bu h]<|rQ (iB a) (iB<|jA a b)<|by unfold jA;rw[bj aC]
 .exact iE<|ae [.c<|nE a b aD aD,tB 8<|bn h]<|rQ (iB b) (iB<|jA a b)<|by unfold jA;rw[bk aC]
def Jz:il 74 [iB a,iB b]<|iB<|jy a b:=by
 have hc:=It a b;by_cases h:(0<=jN a b)
 .exact iE<|ae [.c<|nE a b aD aD,tB 8<|bu h]<|rQ (iB a) (iB<|jy a b)<|by unfold jy;rw[bj aC]
 .exact iE<|ae [.c<|nE a b aD aD,tB 8<|bn h]<|rQ (iB b) (iB<|jy a b)<|by unfold jy;rw[bk aC]
end
section
variable(x:Iv)(hx:x.ix)
def JA:il 52 [iA x]<|iP<|nQ x:=by
 by_cases lK:x.all=true
 .exact iE<|ae [.o 5<|.e<|mn x,ag [iG [x]]<|qU _ aD,ai 6 (!x.all)<|by rw[lK];rfl]<|rQ (iP 0) (iP<|nQ x)<|by rw[show nQ x=0 by unfold nQ;rw[bk lK]]
 .replace lK:x.all=false:=by simpa using lK
  obtain⟨v1,v2,v3⟩:=vZ hx lK;by_cases h1:0<x.lo.jL
  .exact iE<|ae [.o 5<|.e<|mn x,ag [iG [x]]<|qU _ aD,ah 6 (!x.all)<|by rw[lK];rfl,.c<|pP x.lo aD,tB 12<|bu h1]<|rQ (iP 1) (iP<|nQ x)<|by rw[show nQ x=1 by unfold nQ;rw[bj<|by rw[lK];decide];simp[h1]]
  .by_cases h2:x.hi.jL<0
   .exact iE<|ae [.o 5<|.e<|mn x,ag [iG [x]]<|qU _ aD,ah 6 (!x.all)<|by rw[lK];rfl,.c<|pP x.lo aD,tB 12<|bn h1,.c<|pP x.hi aD,tB 17<|bu h2]<|rQ (iP (-1)) (iP<|nQ x)<|by rw[show nQ x = -1 by unfold nQ;rw[bj<|by rw[lK];decide];simp[h1,h2]]
   .exact iE<|ae [.o 5<|.e<|mn x,ag [iG [x]]<|qU _ aD,ah 6 (!x.all)<|by rw[lK];rfl,.c<|pP x.lo aD,tB 12<|bn h1,.c<|pP x.hi aD,tB 17<|bn h2]<|rQ (iP 0) (iP<|nQ x)<|by rw[show nQ x=0 by unfold nQ;rw[bj<|by rw[lK];decide];simp[h1,h2]]
def Gz(lK:x.all=false):il 160 [iA x]<|.iH [iB<|mq x,bP true]:=by
 obtain⟨v1,v2,v3⟩:=vZ hx lK;have w1:=yN v1;have w2:=yN v2;exact iE<|af [.o 5<|.e<|mn x,ag [iG [x]]<|qU _ aD,ah 6 (!x.all)<|by rw[lK];rfl,ag [iB x.lo]<|D1 _ aD,ag [iB x.hi]<|D1 _ aD,ag [iB<|mi x.lo,iB<|mi x.hi]<|Jz _ _ aD aD]
def ak5(lK:x.all=false):il 229 [iA x]<|.iH [iB<|pT x,bP true]:=by
 obtain⟨v1,v2,v3⟩:=vZ hx lK;have w1:=yN v1;have w2:=yN v2;by_cases hs:nQ x=0
 .exact iE<|ae [.o 5<|.e<|mn x,ag [iG [x]]<|qU _ aD,ah 6 (!x.all)<|by rw[lK];rfl,ag [iA x]<|JA _ aD,ah 11 ((nQ x)==0)<|by rw[hs];rfl,.o 12 (.e uQ:aj (.agg ar)<|iB iY)]<|rQ (.iH [iB iY,bP true]) (.iH [iB<|pT x,bP true])<|by rw[show pT x=iY by unfold pT;rw[bk hs]]
 .exact iE<|ae [.o 5<|.e<|mn x,ag [iG [x]]<|qU _ aD,ah 6 (!x.all)<|by rw[lK];rfl,ag [iA x]<|JA _ aD,ai 11 ((nQ x)==0)<|by simpa using hs,ag [iB x.lo]<|D1 _ aD,ag [iB x.hi]<|D1 _ aD,ag [iB<|mi x.lo,iB<|mi x.hi]<|Jy _ _ aD aD]<|rQ (.iH [iB<|jA (mi x.lo)<|mi x.hi,bP true]) (.iH [iB<|pT x,bP true])<|by rw[show pT x=jA (mi x.lo) (mi x.hi)by unfold pT;rw[bj hs]]
def Ry:il 162 [iA x]<|iA<|kp x:=by
 by_cases lK:x.all=true
 .exact iE<|ae [.o 8<|.e<|mn x,ag [iG [x]]<|qU _ aD,ai 9 (!x.all)<|by rw[lK];rfl,ag [] oC]<|rQ (iA iw) (iA<|kp x)<|by rw[show kp x=iw by unfold kp;rw[bk lK]]
 .replace lK:x.all=false:=by simpa using lK
  obtain⟨v1,v2,v3⟩:=vZ hx lK;exact iE<|ae [.o 8<|.e<|mn x,ag [iG [x]]<|qU _ aD,ah 9 (!x.all)<|by rw[lK];rfl,ag [iA x]<|ak5 _ aD lK,ag [iA x]<|Gz _ aD lK]<|rQ (iA<|Iv.mk (pT x) (mq x) false) (iA<|kp x)<|by rw[show kp x=⟨pT x,mq x,false⟩by unfold kp;rw[bj<|by rw[lK];decide]];try rfl
end
end Go.Proofs.YtjkmahljfblobaaGreatDoor
