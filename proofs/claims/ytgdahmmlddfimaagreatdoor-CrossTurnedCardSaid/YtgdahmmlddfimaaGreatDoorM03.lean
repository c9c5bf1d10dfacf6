/- Lemmas that the last file uses. -/
import Derived.Test.YtgdahmmlddfimaaGreatDoorM02
import Derived.Scope
import Derived.DeepKeys
set_option linter.unusedSimpArgs false
set_option linter.unusedVariables false
set_option linter.defProp false
set_option maxHeartbeats 4000000
open Go.Proofs.Tryz
namespace Go.Proofs.YtgdahmmlddfimaaGreatDoor.Pu
open Go.RowKit
inductive R where
 |nil
 |ji
 |a (p:Prop) (r:R)
 |w (p:Prop) (r1:p->R) (r2:¬p->R)
def R.ok:R->Prop
 | .nil=>True
 | .ji=>False
 | .a p r=>p/\r.ok
 | .w p r1 r2=>(∀ h:p,(r1 h).ok)/\(∀ h:¬p,(r2 h).ok)
inductive Tr(P:Program)(K:World->Prop) where
 |nil
 |c {f:FuncId} {args:List E} {kq:E} (h:PC P K f args kq) (t:Tr P K)
 |cf {f:FuncId} {args:List E} {kq:E} (h:Hz P K f args kq) (t:Tr P K)
 |cn {f:FuncId} {args:List E} {nl:Bool} {T:TypeId} {n sz:Nat} {el:Nat->Nat->E} (h:uR P K f args nl T n sz el) (t:Tr P K)
 |g {op:BinOp} {ty:TypeId} {x y:E} {v:Value} (h:nY P op ty x y v) (t:Tr P K)
 |gi {op:BinOp} {ty:TypeId} {x y:E} {v:Value} (h:nY P op ty x y v) (t:Tr P K)
 |m {l:List (Int×FuncId×List FuncId)} {z:Int} {e:E} (h:CU l z=some e) (t:Tr P K)
 |o (d:Nat) {p q:PV} (h:PV.le p q) (t:Tr P K)
 |bo (t:Tr P K)
 |a {p:Prop} (h:p) (t:Tr P K)
 |w (p:Prop) (t1:p->Tr P K) (t2:¬p->Tr P K)
 |s {c:Code} {σ τ:PS} {e:Ex} (h:Sp P K c σ (λe' τ'=>e'=e/\τ'=τ)) (l t:Tr P K)
 |j (c:Nat) (τ:PS) (tj t:Tr P K)
 |v (d:Nat) {p q:PV} (h:PV.le p q) (t:Tr P K)
 |b (d:Nat) {p q:Bx} (h:Bx.le p q) (t:Tr P K)
 |z (id:Nat) (t:Tr P K)
 |y (s id:Nat) (nl:Bool) (T:TypeId) (sz:Nat) (el:Nat->Nat->E) (t:Tr P K)
 |yf (d off id:Nat) (nl:Bool) (T:TypeId) (sz:Nat) (el:Nat->Nat->E) (t:Tr P K)
 |e (t:Tr P K)
 |k (ts bs:List Nat) (t:Tr P K)
 |u (n:Nat) (t:Tr P K)
 |x (h:False)
 |r {p q:E} (h:E.le p q)
 |rb {p q:Bx} (h:Bx.le p q)
section
variable {P:Program} {K:World->Prop}
def ER:List (Nat×PV)->Tr P K->(Tr P K->R)->R
 | [],t,k=>k t
 | (d,q)::l,t,k=>match t with
  | .o d' (p:=p) (q:=q') _ t'=>if Nat.beq d' d then .a (PV.le p q') (ER l t' k)else .a (PV.le q q) (ER l t k)
  |t=>.a (PV.le q q) (ER l t k)
def Dx:List (Nat×Bx)->Tr P K->R->R
 | [],_,r=>r
 | (d,q)::l,t,r=>match t with
  | .b d' (p:=p) (q:=q') _ t'=>if Nat.beq d' d then .a (Bx.le p q') (Dx l t' r)else .a (Bx.le q q) (Dx l t r)
  |t=>.a (Bx.le q q) (Dx l t r)
def EM(σ:PS)(t:Tr P K)(r:R):R:=ER σ.t t λt=>Dx σ.b t r
def Tr.ex:Tr P K->(Tr P K->R)->R
 | .nil,fin=>fin .nil
 | .e t,fin=>fin t
 | @Tr.c _ _ f args kq _ t,fin=>.a (PC P K f args kq) (t.ex fin)
 | @Tr.cf _ _ f args kq _ t,fin=>.a (Hz P K f args kq) (t.ex fin)
 | @Tr.cn _ _ f args nl T n sz el _ t,fin=>.a (uR P K f args nl T n sz el) (t.ex fin)
 | @Tr.g _ _ op₁ ty₁ xe₁ ye₁ ve₁ _ t,fin=>.a (nY P op₁ ty₁ xe₁ ye₁ ve₁) (t.ex fin)
 | @Tr.gi _ _ op₁ ty₁ xe₁ ye₁ ve₁ _ t,fin=>.a (nY P op₁ ty₁ xe₁ ye₁ ve₁) (t.ex fin)
 | @Tr.m _ _ l₁ z₁ e₁ _ t,fin=>.a (CU l₁ z₁=some e₁) (t.ex fin)
 | .o _ (p:=p) (q:=q) _ t,fin=>.a (PV.le p q) (t.ex fin)
 | .bo t,fin=>.a True (t.ex fin)
 | .a (p:=p) _ t,fin=>.a p (t.ex fin)
 | .w p t1 t2,fin=>.w p (λh=>(t1 h).ex fin) (λh=>(t2 h).ex fin)
 | @Tr.s _ _ c₁ σ τ e₁ _ l t,fin=>EM σ l (.a (Sp P K c₁ σ (λe' τ'=>e'=e₁/\τ'=τ)) (t.ex fin))
 | .j _ τ tj t,fin=>.a (tj.ex λt=>EM τ t .nil).ok (t.ex fin)
 | .v _ (p:=p) (q:=q) _ t,fin=>.a (PV.le p q) (t.ex fin)
 | .b _ _ t,fin=>t.ex fin
 | .z _ t,fin=>t.ex fin
 | .y _ _ _ _ _ _ t,fin=>t.ex fin
 | .yf _ _ _ _ _ _ _ t,fin=>t.ex fin
 | .k _ _ t,fin=>t.ex fin
 | .u _ t,fin=>t.ex fin
 | .x _,fin=>.a False .nil
 | .r (p:=p) (q:=q) _,fin=>.a (E.le p q) .nil
 | .rb (p:=p) (q:=q) _,fin=>.a (Bx.le p q) .nil
def akw{l:List (Nat×PV)}{t:Tr P K}{k:Tr P K->R}(hk:∀ t,(k t).ok):(ER l t k).ok:=by
 induction l generalizing t with
 |nil=>exact hk t
 |cons x l ih=>
  obtain⟨d,q⟩:=x;cases t with
  |o d' h t'=>
   simp only[ER];split
   .exact ⟨h,ih⟩
   .exact ⟨PV.le.refl q,ih⟩
  |_=>exact⟨PV.le.refl q,ih⟩
def ZR{l:List (Nat×Bx)}{t:Tr P K}{r:R}(hr:r.ok):(Dx l t r).ok:=by
 induction l generalizing t with
 |nil=>exact hr
 |cons x l ih=>
  obtain⟨d,q⟩:=x;cases t with
  |b d' h t'=>
   simp only[Dx];split
   .exact ⟨h,ih⟩
   .exact ⟨Bx.le.refl q,ih⟩
  |_=>exact⟨Bx.le.refl q,ih⟩
def Ps{σ:PS}{t:Tr P K}{r:R}(hr:r.ok):(EM σ t r).ok:=akw λ_=>ZR hr
def Tr.LY{fin:Tr P K->R}(hf:∀ t,(fin t).ok)(t:Tr P K):(t.ex fin).ok:=by
 induction t generalizing fin with
 |nil=>exact hf _
 |e t=>exact hf _
 |c h t ih=>exact⟨h,ih hf⟩
 |cf h t ih=>exact⟨h,ih hf⟩
 |cn h t ih=>exact⟨h,ih hf⟩
 |g h t ih=>exact⟨h,ih hf⟩
 |gi h t ih=>exact⟨h,ih hf⟩
 |m h t ih=>exact⟨h,ih hf⟩
 |o d h t ih=>exact⟨h,ih hf⟩
 |bo t ih=>exact⟨trivial,ih hf⟩
 |a h t ih=>exact⟨h,ih hf⟩
 |w p t1 t2 Gh Gi=>exact⟨λh=>Gh h hf,λh=>Gi h hf⟩
 |s h l t ihl Ns=>exact Ps ⟨h,Ns hf⟩
 |j c τ tj t ihj Ns=>exact⟨ihj λ_=>Ps trivial,Ns hf⟩
 |v d h t ih=>exact⟨h,ih hf⟩
 |b d h t ih=>exact ih hf
 |z id t ih=>exact ih hf
 |y s id nl T sz el t ih=>exact ih hf
 |yf d off id nl T sz el t ih=>exact ih hf
 |k ts bs t ih=>exact ih hf
 |u n t ih=>exact ih hf
 |x h=>exact h.elim
 |r h=>exact⟨h,trivial⟩
 |rb h=>exact⟨h,trivial⟩
def Px(υ:PS):List (Nat×PV)->R->R
 | [],r=>r
 | (d,q)::l,r=>.a (PV.le (υ.get d) q) (Px υ l r)
def Im(υ:PS):List (Nat×Bx)->R->R
 | [],r=>r
 | (d,q)::l,r=>match υ.bo d with
  |some b=>.a (Bx.le b q) (Im υ l r)
  |none=>.ji
def Kq(υ σ:PS)(r:R):R:=if Nat.beq υ.n σ.n&&(σ.b.all (λx=>x.2.nl)||(σ.nl==υ.nl))&&GY σ then Px υ σ.t (Im υ σ.b r)else .ji
def Tr.tail:Tr P K->Tr P K
 | .c _ t=>t
 | .cf _ t=>t
 | .cn _ t=>t
 | .g _ t=>t
 | .gi _ t=>t
 | .m _ t=>t
 | .bo t=>t
 | .a _ t=>t
 |_=>.nil
def Oj:List Prop->Tr P K->(Tr P K->R)->R
 | [],t,k=>k t
 |p::l,t,k=>.a p (Oj l t.tail k)
def Rd(d:Option Tmp)(t:Tr P K):qy:=match d with
 |some d=>match t with
  | @Tr.c _ _ _ _ kq _ _=>{ cl:=[(d,kq)] }
  | @Tr.cf _ _ _ _ kq _ _=>{ cl:=[(d,kq)] }
  | @Tr.g _ _ _ _ _ _ ve₁ _ _=>{ cl:=[(d,.v ve₁)] }
  | @Tr.gi _ _ _ _ _ _ ve₁ _ _=>{ gi:=[(d,ve₁)] }
  | @Tr.m _ _ _ _ e₁ _ _=>{ cl:=[(d,e₁)] }
  | @Tr.cn _ _ _ _ nl T n sz el _ _=>{ nw:=[(d,.row nl T n sz el)] }
  | .bo _=>{ nw:=[(d,.cells 0 [])] }
  |_=>{}
 |none=>{}
def GR:Tr P K->(Tr P K->R)->R
 | .w p t1 t2,k=>.w p (λh=>GR (t1 h) k) (λh=>GR (t2 h) k)
 | .x _,_=>.a False .nil
 |t,k=>k t
def OB(o:Oper)(u:kC)(t:Tr P K)(k:kC->Tr P K->R):R:=match o.dst,t with
 |some d,.o d' (q:=q) _ t'=>if Nat.beq d' d then .a (PV.le u.r q) (k { u with r:=q,jL:=PV.le u.r q::u.jL } t')else k u t
 |_,t=>k u t
def Ot(T:List TI)(il:Array Oper)(σ:PS)(o:Oper)(t:Tr P K)(k:kC->Tr P K->R):R:=
 if wE σ o.dst then match Ar il σ o with
  |some false=>k { r:=.e (.v (.tuple #[])),rd:=(looks il o).map σ.get } t
  |some true=>GR t λt=>match jM P K T (Rd o.dst t) σ o with
   |some u=>Oj u.jL t λt=>GR t λt=>OB o u t λu t=>k { u with rd:=(looks il o).map σ.get,hb:=σ.pd u.f,ob:=σ.xE u.f } t
   |none=>.ji
  |none=>.ji
 else .ji
def Ov(T:List TI)(il:Array Oper)(k:List (Oper×kC)->PS->Tr P K->R):List Oper->List (Oper×kC)->PS->Tr P K->R
 | [],us,σ,t=>k us σ t
 |o::l,us,σ,t=>Ot T il σ o t λu t'=>Ov T il k l ((o,u)::us) (σ.app o.dst u) t'
def rL(c:Bool):Tr P K->PS->(Tr P K->PS->R)->R
 | .w p t1 t2,σ,k=>.w p (λh=>rL c (t1 h) σ k) (λh=>rL c (t2 h) σ k)
 | .x _,_,_=>.a False .nil
 | .v d (q:=q) _ t,σ,k=>match q with
  | .e x=>if wE σ (some d)then .a (PV.le (σ.get d) (.e x)) (rL c t (σ.put (some d) (.e x)) k)else .ji
  |_=>.ji
 | .k ts bs t,σ,k=>if c then k (.k ts bs t) σ else if GY (σ.cut ts bs)then rL c t (σ.cut ts bs) k else .ji
 | .z id t,σ,k=>if c then k (.z id t) σ else match σ.bo id with
  |some b=>match b.as with
   |some e=>rL c t (σ.vj id e) k
   |none=>.ji
  |none=>.ji
 | .y s id nl T sz el t,σ,k=>if c then k (.y s id nl T sz el t) σ else match σ.bo id,σ.get s with
  |none,.e (.v (.slice none 0 0))=>if !σ.nl||nl then rL c t (σ.Ds s id (.row nl T 0 sz el)) k else .ji
  |_,_=>.ji
 | .yf d off id nl T sz el t,σ,k=>if c then k (.yf d off id nl T sz el t) σ else match σ.K6 d off id (.row nl T 0 sz el)with
  |some τ=>if !σ.nl||nl then rL c t τ k else .ji
  |none=>.ji
 |t,σ,k=>k t σ
def Kn(c:Code)(σ:PS)(t:Tr P K)(k:Ex->PS->Tr P K->R):R:=match t with
 | @Tr.s _ _ _ σ' τ e _ _ t=>Kq σ σ' (.a (Sp P K c σ' (λe' τ'=>e'=e/\τ'=τ)) (k e τ t))
 |_=>.ji
def Ex.qJ:Ex->Ex->Bool
 | .normal,.normal=>true
 | .ret,.ret=>true
 | .exit a,.exit b=>Nat.beq a b
 |_,_=>false
def FB(e:Ex)(τ:PS)(e':Ex)(υ:PS)(_:Tr P K):R:=if Ex.qJ e' e then Kq υ τ .nil else .ji
def abK:Operand->Nat
 | .tmp t=>2*t
 |_=>1
def jn(c:Nat)(g:PS->Tr P K->(Ex->PS->Tr P K->R)->R)(σ:PS)(t:Tr P K)(k:Ex->PS->Tr P K->R):R:=match t with
 | .j c' τ tj t'=>if Nat.beq c' c then .a (g σ tj (FB .normal τ)).ok (k .normal τ t')else g σ t k
 |t=>g σ t k
def Tr.isS:Tr P K->Bool
 | .s ..=>true
 |_=>false
def YE(g f:PS->Tr P K->(Ex->PS->Tr P K->R)->R):Nat->PS->Tr P K->(Ex->PS->Tr P K->R)->R
 | 0,_,_,_=>.ji
 |n+1,σ,t,k=>rL false t σ λt σ=>if t.isS then g σ t k else f σ t λe τ t=>match e with
  | .normal=>YE g f n τ t k
  |e=>k e τ t
def wc(T:List TI):Code->PS->Tr P K->(Ex->PS->Tr P K->R)->R
 | .skip,σ,t,k=>k .normal σ t
 | .region _ il d,σ,t,k=>Ov T il (λus τ t=>if !d||Eu il 0 us.reverse then k .normal τ t else .ji) il.toList [] σ t
 | .seq a b,σ,t,k=>wc T a σ t λe τ t=>match e with
  | .normal=>wc T b τ t k
  |e=>k e τ t
 | .cond c a b,σ,t,k=>rL true t σ λt σ=>jn (abK c) (λσ t k=>rL true t σ λt σ=>match σ.op c with
  | .e (.v (.bool true))=>wc T a σ t k
  | .e (.v (.bool false))=>wc T b σ t k
  |_=>.ji) σ t k
 | .block id b,σ,t,k=>rL true t σ λt σ=>jn (2*id+1) (λσ t k=>wc T b σ t λe τ t=>match e with
  | .exit i=>if Nat.beq i id then k .normal τ t else k (.exit i) τ t
  |e=>k e τ t) σ t k
 | .exit id,σ,t,k=>rL false t σ λt σ=>k (.exit id) σ t
 | .ret,σ,t,k=>rL false t σ λt σ=>k .ret σ t
 | .loop b,σ,t,k=>rL false t σ λt σ=>match t with
  | .u n t=>YE (Kn (.loop b)) (wc T b) n σ t k
  |t=>Kn (.loop b) σ t k
 | .label _,σ,t,k=>k .normal σ t
 | .scope b,σ,t,k=>wc T b σ t k
 |_,_,_,_=>.ji
def Wh{t:Tr P K}{k:Tr P K->R}(h:(GR t k).ok):∃ t',(k t').ok:=by
 induction t with
 |w p t1 t2 Gh Gi=>
  by_cases hp:p
  .exact Gh hp (h.1 hp)
  .exact Gi hp (h.2 hp)
 |x hf=>exact hf.elim
 |_=>exact⟨_,h⟩
def ag4{l:List Prop}{t:Tr P K}{k:Tr P K->R}(h:(Oj l t k).ok):(∀ q,q ∈ l->q)/\∃ t',(k t').ok:=by
 induction l generalizing t with
 |nil=>exact⟨λq hq=>by simp at hq,t,h⟩
 |cons p l ih=>
  obtain⟨h1,h2⟩:=ih h.2;refine⟨λq hq=>?_,h2⟩;rcases dw.1 hq with hq|hq
  .subst hq;exact h.1
  .exact h1 q hq
variable {T:List TI} {il:Array Oper} {σ:PS} {o:Oper}
def aht{O:qy}{u:kC}{t:Tr P K}{k:kC->Tr P K->R}(hO:O.ov=[])(hu:jM P K T O σ o=some u)(ho:∀ q,q ∈ u.jL->q)(h:(OB o u t k).ok):
 ∃ O' u' t',uY P K T O' σ o=some u'/\(∀ q,q ∈ u'.jL->q)/\(k u' t').ok:=by
 have plain:(k u t).ok->∃ O' u' t',uY P K T O' σ o=some u'/\(∀ q,q ∈ u'.jL->q)/\(k u' t').ok:=by
  intro h;refine⟨O,u,t,?_,ho,h⟩;unfold uY;rw[hu,hO];cases o.dst<;>rfl
 unfold OB at h;split at h
 .rename_i d d' p q hpq t' hd;split at h
  .obtain ⟨h1,h2⟩:=h;refine⟨⟨O.cl,[(d,q)],O.nw,O.gi⟩,_,t',?_,λx hx=>?_,h2⟩
   .unfold uY;have he:jM P K T ⟨O.cl,[(d,q)],O.nw,O.gi⟩ σ o=jM P K T O σ o:=by cases O;rfl
    rw[he,hu,hd];simp[look]
   .rcases dw.1 hx with hx|hx
    .subst hx;exact h1
    .exact ho x hx
  .exact plain h
 .exact plain h
def ahb{t:Tr P K}{k:kC->Tr P K->R}(h:(Ot T il σ o t k).ok):∃ u t',(∃ O,rB P K T O il σ o=some u)/\(∀ q,q ∈ u.jL->q)/\(k u t').ok:=by
 unfold Ot at h;split at h
 .rename_i hi;split at h
  .rename_i hw;refine⟨_,t,⟨{},?_⟩,λq hq=>by simp at hq,h⟩;unfold rB;rw[bw hi,hw]
  .rename_i hw;obtain⟨t1,h1⟩:=Wh h;split at h1
   .rename_i u hu;obtain⟨ho,t2,h2⟩:=ag4 h1;obtain⟨t2,h2⟩:=Wh h2;obtain⟨O',u',t3,xr,ho',h3⟩:=aht (by
     unfold Rd;cases o.dst with
     |none=>rfl
     |some d=>cases t1<;>rfl) hu ho h2
    refine⟨{ u' with rd:=(looks il o).map σ.get,hb:=σ.pd u'.f,ob:=σ.xE u'.f },t3,⟨O',?_⟩,ho',h3⟩;unfold rB;rw[bw hi,hw,xr]
   .exact h1.elim
  .exact h.elim
 .exact h.elim
def ahr{k:List (Oper×kC)->PS->Tr P K->R}{l:List Oper}{us:List (Oper×kC)}{t:Tr P K}(h:(Ov T il k l us σ t).ok):
 ∃ vs τ t',wW P K T il vs σ τ/\vs.map (·.1)=l/\(∀ x,x ∈ vs->∀ q,q ∈ x.2.jL->q)/\(k (vs.reverse++us) τ t').ok:=by
 induction l generalizing us σ t with
 |nil=>exact⟨[],σ,t,sn.refl σ,rfl,λx hx=>by simp at hx,h⟩
 |cons o l ih=>
  obtain⟨u,t1,h1,h2,h3⟩:=ahb h;obtain⟨vs,τ,t',k1,k2,k3,k4⟩:=ih h3;refine⟨(o,u)::vs,τ,t',⟨h1,k1⟩,by simp[k2],λx hx=>?_,by simpa using k4⟩;rcases dw.1 hx with hx|hx
  .subst hx;exact h2
  .exact k3 x hx
def PS.le.set{σ:PS}{d:Nat}{x:E}(hd:wE σ (some d)=true)(h:PV.le (σ.get d) (.e x)):PS.le σ (σ.put (some d) (.e x)):=λw0 B a w L _ r=>by
 have Ck:d<σ.n:=by simpa[wE,fL]using hd
 refine⟨L,r.hd,by rw[PS.N6];exact r.hs,λt=>?_,λid b hb=>r.hb id b hb,r.hv,r.hn,r.hw,r.hi,r.he,r.hl⟩;rw[PS.Mh];by_cases e:d=t
 .subst e;rw[bw rfl];exact h _ _ _ _ _ (r.ht d)
 .rw [bu e];exact r.ht t
def C0{c:Bool}{t:Tr P K}{σ:PS}{k:Tr P K->PS->R}(h:(rL c t σ k).ok):∃ t' τ,PS.le σ τ/\(k t' τ).ok:=by
 induction t generalizing σ with
 |w p t1 t2 Gh Gi=>
  by_cases hp:p
  .exact Gh hp (h.1 hp)
  .exact Gi hp (h.2 hp)
 |k ts bs t ih=>
  simp only[rL]at h;split at h
  .exact ⟨_,σ,PS.le.refl σ,h⟩
  split at h
  .rename_i hr;obtain⟨t',τ,h1,h2⟩:=ih h;exact⟨t',τ,(PS.le.cut ts bs hr).trans h1,h2⟩
  .exact h.elim
 |v d h0 t ih=>
  simp only[rL]at h;split at h
  .rename_i x;split at h
   .rename_i hd;obtain⟨t',τ,h1,h2⟩:=ih h.2;exact⟨t',τ,(PS.le.set hd h.1).trans h1,h2⟩
   .exact h.elim
  .exact h.elim
 |z id t ih=>
  simp only[rL]at h;split at h
  .exact ⟨_,σ,PS.le.refl σ,h⟩
  split at h
  .rename_i b hb;split at h
   .rename_i e he;obtain⟨t',τ,h1,h2⟩:=ih h;exact⟨t',τ,(PS.le.freeze id hb he).trans h1,h2⟩
   .exact h.elim
  .exact h.elim
 |y s id nl T sz el t ih=>
  simp only[rL]at h;split at h
  .exact ⟨_,σ,PS.le.refl σ,h⟩
  split at h
  .rename_i hb hg;split at h
   .rename_i hn;obtain⟨t',τ,h1,h2⟩:=ih h;exact⟨t',τ,(PS.le.Zp s id hb hg (λe=>by rw[e]at hn;simpa using hn)).trans h1,h2⟩
   .exact h.elim
  .exact h.elim
 |yf d off id nl T sz el t ih=>
  simp only[rL]at h;split at h
  .exact ⟨_,σ,PS.le.refl σ,h⟩
  split at h
  .rename_i τ0 hb;split at h
   .rename_i hn;obtain⟨t',τ,h1,h2⟩:=ih h;exact⟨t',τ,(PS.le.Zq hb (λe=>by rw[e]at hn;simpa using hn)).trans h1,h2⟩
   .exact h.elim
  .exact h.elim
 |x hf=>exact hf.elim
 |_=>exact⟨_,σ,PS.le.refl σ,h⟩
def akx{υ:PS}{l:List (Nat×PV)}{r:R}(h:(Px υ l r).ok):xP υ l/\r.ok:=by
 induction l with
 |nil=>exact⟨trivial,h⟩
 |cons x l ih=>obtain⟨d,q⟩:=x;exact⟨⟨h.1,(ih h.2).1⟩,(ih h.2).2⟩
def aaj{υ:PS}{l:List (Nat×Bx)}{r:R}(h:(Im υ l r).ok):wU υ l/\r.ok:=by
 induction l with
 |nil=>exact⟨trivial,h⟩
 |cons x l ih=>
  obtain⟨d,q⟩:=x;simp only[Im]at h;split at h
  .rename_i b hb;exact⟨⟨⟨b,hb,h.1⟩,(ih h.2).1⟩,(ih h.2).2⟩
  .exact h.elim
def X9{υ σ:PS}{r:R}(h:(Kq υ σ r).ok):PS.le υ σ/\r.ok:=by
 unfold Kq at h;split at h
 .rename_i hc;simp only[bO,eZ,beq_iff_eq]at hc;obtain⟨⟨h1,h2⟩,h3⟩:=hc;obtain⟨h4,h5⟩:=akx h;obtain⟨h6,h7⟩:=aaj h5;refine⟨?_,h7⟩;rcases h2 with h2|h2
  .exact PS.le.afu (kS.1 h1) h2 h3 h4 h6
  .exact PS.le.pg (kS.1 h1) h2 h3 h4 h6
 .exact h.elim
def ai6(hT:mB P T){w0:World}{B:Nat->Prop}{a:Act}{w:World}{L:Lk}(g:Gd P K w0 B){us:List (Oper×kC)}{τ:PS}{Q:Exit->Act->World->Prop}(h:wW P K T il us σ τ)(ho:∀ x,x ∈ us->∀ q,q ∈ x.2.jL->q)
 (r:jq w0 B σ a w L) (hq:∀ a' w' L',jq w0 B τ a' w' L'->Q .normal a' w'):wpList P il Q (us.map (·.1)) a w:=by
 induction us generalizing σ a w L with
 |nil=>exact hq a w L (r.qJ h)
 |cons x us ih=>
  obtain⟨⟨O,h1⟩,h2⟩:=h;rw[eR];unfold wpList;rcases R1 hT g r h1 (ho x aH) (wpList P il Q (us.map (·.1))) Q (λa' w' L' hr=>ih h2 (λy hy=>ho y (by simp[hy])) hr)with⟨p1,p2⟩|⟨p1,p2⟩
  .rw [bw p1];exact .inl p2
  .rw [bu (by rw[p1];simp)];exact p2
def aiu(hT:mB P T)(hm:P.follows .mixedOrders=true){w0:World}{B:Nat->Prop}{a:Act}{w:World}{L:Lk}(g:Gd P K w0 B){id:Nat}{draw:Bool}{us:List (Oper×kC)}{τ:PS}{Q:Exit->Act->World->Prop}
 (h:wW P K T il us σ τ) (hl:us.map (·.1)=il.toList) (ho:∀ x,x ∈ us->∀ q,q ∈ x.2.jL->q) (hp:(!draw||Eu il 0 us)=true) (r:jq w0 B σ a w L)
 (hq:∀ a' w' L',jq w0 B τ a' w' L'->Q .normal a' w'):(Code.region id il draw).wp P Q a w:=by
 cases draw with
 |false=>exact wp_region_list (by rw[<-hl];exact ai6 hT g h ho r hq)
 |true=>
  obtain⟨R,r1,r2,r3⟩:=afF hl (by simpa using hp);refine wp_region_any hm (Zv hT g hq il.size (Array.replicate il.size false) R σ a w.drew L r2 aH r3 (λx hx=>ho x.2 ?_) (by rw[r1];exact h) r.drew);rw[<-r1];exact dG.2 ⟨x,hx,rfl⟩
def X3{c:Code}{t:Tr P K}{k:Ex->PS->Tr P K->R}(h:(Kn c σ t k).ok):Sp P K c σ (λe τ=>∃ t',(k e τ t').ok):=by
 unfold Kn at h;split at h
 .obtain ⟨h1,h2,h3⟩:=X9 h;exact Sp.pre h1 (h2.mono λe τ ⟨q1,q2⟩=>by subst q1 q2;exact⟨_,h3⟩)
 .exact h.elim
def Ex.ai9{a b:Ex}(h:Ex.qJ a b=true):a=b:=by
 cases a<;>cases b<;>first|rfl|(cases h;done)|exact congrArg Ex.exit (kS.1 h)
def RT{e e':Ex}{τ υ:PS}{t:Tr P K}(h:(FB e τ e' υ t).ok):e'=e/\PS.le υ τ:=by
 unfold FB at h;split at h
 .rename_i he;exact⟨Ex.ai9 he,(X9 h).1⟩
 .exact h.elim
def UO{c:Code}{cb:Nat}{g:PS->Tr P K->(Ex->PS->Tr P K->R)->R}(hg:∀ σ t k,(g σ t k).ok->Sp P K c σ (λe τ=>∃ t',(k e τ t').ok)){σ:PS}{t:Tr P K}{k:Ex->PS->Tr P K->R}(h:(jn cb g σ t k).ok):
 Sp P K c σ (λe τ=>∃ t',(k e τ t').ok):=by
 unfold jn at h;split at h
 .rename_i c' τ tj t;split at h
  .refine (hg _ _ _ h.1).post λe υ ⟨t',ht⟩=>?_
   obtain⟨he,hl⟩:=RT ht;exact⟨τ,hl,t,by rw[he];exact h.2⟩
  .exact hg _ _ _ h
 .exact hg _ _ _ h
def tA(P:Program)(K:World->Prop)(b:Code)(σ:PS)(Q:Ex->PS->Prop):Prop:=
 ∀ (w0:World) (B:Nat->Prop) (a:Act) (w:World) (L:Lk),Gd P K w0 B->jq w0 B σ a w L->∀ bf k cs,
  ∃ e a' w',(∃ ex τ L',e=Ex.to ex/\Q ex τ/\jq w0 B τ a' w' L')/\Arrives P (lone (bf.at a (.code b :: .inLoop b::k)) cs w) bf k cs e a' w'
def tA.loop{b:Code}{σ:PS}{Q:Ex->PS->Prop}(h:tA P K b σ Q):Sp P K (.loop b) σ Q:=by
 intro w0 B a w L g r bf k cs;obtain⟨e,a',w',hq,tN⟩:=h w0 B a w L g r bf k cs;exact⟨e,a',w',hq,.of_steps (.one step_loop) tN⟩
def tA.pre{b:Code}{σ τ:PS}{Q:Ex->PS->Prop}(h:PS.le σ τ)(k:tA P K b τ Q):tA P K b σ Q:=λw0 B a w L g r=>
 let⟨L',r'⟩:=h w0 B a w L (λb hb=>(g.hB b hb).1) r;k w0 B a w L' g r'
def tA.step{b:Code}{σ:PS}{Q:Ex->PS->Prop}(h:Sp P K b σ (λe τ=>(e = .normal/\tA P K b τ Q)\/(e ≠ .normal/\Q e τ))):tA P K b σ Q:=by
 intro w0 B a w L g r bf k cs;obtain⟨e,a₁,w₁,⟨ex,υ,L2,rfl,hq,od⟩,tN⟩:=h w0 B a w L g r bf (.inLoop b::k) cs;rcases hq with⟨rfl,hs⟩|⟨kj,hq⟩
 .obtain ⟨e₂,a₂,w₂,M9,MF⟩:=hs w0 B a₁ w₁ L2 g od bf k cs;exact⟨e₂,a₂,w₂,M9,.of_steps (Steps.trans tN (.one step_inLoop)) MF⟩
 .cases ex with
  |normal=>exact absurd rfl kj
  |exit i=>exact⟨_,a₁,w₁,⟨.exit i,υ,L2,rfl,hq,od⟩,.pass (x:=.inLoop b) rfl (λ_ _=>.inl (by simp[Ex.to])) tN⟩
  |ret=>exact⟨_,a₁,w₁,⟨.ret,υ,L2,rfl,hq,od⟩,.pass (x:=.inLoop b) rfl (λ_ _=>.inl (by simp[Ex.to])) tN⟩
def LZ{id : Nat} : ∀ {k k' : List Item},exitTo id k=some k'->k'.length<=k.length
  | [],_,h => by simp[exitTo]at h
  |x::k,k',h => by
    cases x
    all_goals
      simp only[exitTo]at h
      first
        | (have := LZ h;simp only[dj];omega)
        | (split at h
           . cases h;simp
           . have := LZ h;simp only[dj];omega)
def Steps.Le{m m1 m':Machine}(hs:step P m = .next m1)(kj:m≠m')(h:Steps P m m'):Steps P m1 m':=by
 obtain⟨n,hn⟩:=h;cases n with
 |zero=>simp only[runN,Stepped.next.injEq]at hn;exact absurd hn kj
 |succ n=>exact⟨n,by simpa only[runN,hs]using hn⟩
def tA.ag5{b:Code}{σ:PS}{Q:Ex->PS->Prop}(h:Sp P K (.loop b) σ Q):tA P K b σ Q:=by
 intro w0 B a w L g r bf k cs;obtain⟨e,a',w',⟨ex,τ,L',rfl,hq,hr⟩,tN⟩:=h w0 B a w L g r bf k cs;have todo:∀ (f g:Frame) (w w':World),lone f cs w=lone g cs w'->f.todo=g.todo:=λf g w w' e=>by
  have e1:=congrArg Machine.gs e;simp only[lone,Array.mk.injEq,List.cons.injEq,fO]at e1;injection e1 with e2;rw[e2]
 have ne:∀ (a₁:Act) (k₁:List Item) (w₁:World),k₁.length<=k.length->lone (bf.at a (.code (.loop b)::k)) cs w≠lone (bf.at a₁ k₁) cs w₁:=λa₁ k₁ w₁ hk e=>by
  have:=congrArg List.length (todo _ _ _ _ e);simp[Frame.at]at this;omega
 refine⟨_,a',w',⟨ex,τ,L',rfl,hq,hr⟩,?_⟩;cases ex with
 |normal=>exact Steps.Le step_loop (ne _ _ _ (bD _)) tN
 |exit i=>exact λk' hk=>Steps.Le step_loop (ne _ _ _ (LZ hk)) (tN k' hk)
 |ret=>
  obtain⟨td,hs⟩:=tN;refine⟨td,Steps.Le step_loop (λe=>?_) hs⟩;have e1:=congrArg Machine.gs e;simp only[lone,Array.mk.injEq,List.cons.injEq,fO]at e1;injection e1 with e2;have e3:=congrArg Frame.mode e2;simp[Frame.at]at e3
def LR(hT:mB P T)(hm:P.follows .mixedOrders=true){c:Code}{σ:PS}{t:Tr P K}{k:Ex->PS->Tr P K->R}(h:(wc T c σ t k).ok):Sp P K c σ (λe τ=>∃ t',(k e τ t').ok):=by
 induction c generalizing σ t k with
 |skip=>exact λw0 B a w L g r=>wp_skip ⟨.normal,_,L,rfl,⟨t,h⟩,r⟩
 |region id il d=>
  obtain⟨vs,τ,t',h1,h2,h3,h4⟩:=ahr h;split at h4
  .rename_i hp;simp only[gr,List.reverse_reverse]at hp;exact λw0 B a w L g r=>aiu hT hm g h1 h2 h3 hp r λa' w' L' hr=>⟨.normal,τ,L',rfl,⟨t',h4⟩,hr⟩
  .exact h4.elim
 |seq x y Nt Nu=>
  intro w0 B a w L g r;refine wp_seq (Code.wp_mono ?_ (Nt h w0 B a w L g r));rintro ex a' w' ⟨e1,τ1,L',rfl,⟨t',ht⟩,hr⟩;cases e1 with
  |normal=>exact Nu ht w0 B a' w' L' g hr
  |exit i=>exact⟨.exit i,τ1,L',rfl,⟨t',ht⟩,hr⟩
  |ret=>exact⟨.ret,τ1,L',rfl,⟨t',ht⟩,hr⟩
 |cond c x y Nt Nu=>
  obtain⟨t1,τ,hle,h1⟩:=C0 h;refine Sp.pre hle (UO (λσ t k h=>?_) h1);obtain⟨t1,τ,hle,h1⟩:=C0 h;refine Sp.pre hle ?_;split at h1
  .rename_i hc;intro w0 B a w L g r;have hv:=r.op c;rw[hc]at hv;exact wp_cond_true (iO.kG hv) (Nt h1 w0 B a w L g r)
  .rename_i hc;intro w0 B a w L g r;have hv:=r.op c;rw[hc]at hv;exact wp_cond_false (iO.kG hv) (Nu h1 w0 B a w L g r)
  .exact h1.elim
 |block id b ih=>
  obtain⟨t1,τ,hle,h1⟩:=C0 h;refine Sp.pre hle (UO (λσ t k h=>?_) h1);intro w0 B a w L g r;refine wp_block (Code.wp_mono ?_ (ih h w0 B a w L g r));rintro ex a' w' ⟨e1,τ1,L',rfl,⟨t',ht⟩,hr⟩;cases e1 with
  |normal=>exact⟨.normal,_,L',rfl,⟨t',ht⟩,hr⟩
  |ret=>exact⟨.ret,_,L',rfl,⟨t',ht⟩,hr⟩
  |exit i=>
   simp only at ht;show Exit.inBlock id _ (.exit i) a' w';split at ht
   .rename_i hi;have hi:=kS.1 hi;subst hi;simp only[Exit.inBlock,bL];exact⟨.normal,_,L',rfl,⟨t',ht⟩,hr⟩
   .rename_i hi;have hi:i≠id:=λe=>hi (kS.2 e)
    simp only[Exit.inBlock,hi,bE];exact⟨.exit i,_,L',rfl,⟨t',ht⟩,hr⟩
 |label l=>exact λw0 B a w L g r=>wp_label ⟨.normal,_,L,rfl,⟨t,h⟩,r⟩
 |scope b ih=>
  intro w0 B a w L g r;refine wp_scope_straight (Code.wp_mono ?_ (ih h w0 B a w L g r));rintro ex a' w' ⟨e1,τ1,L',rfl,⟨t',ht⟩,hr⟩;cases e1 with
  |normal=>exact⟨.normal,τ1,L',rfl,⟨t',ht⟩,hr⟩
  |ret=>exact⟨.ret,τ1,L',rfl,⟨t',ht⟩,hr⟩
  |exit i=>exact⟨.exit i,τ1,L',rfl,⟨t',ht⟩,hr⟩
 |exit id=>
  obtain⟨t1,τ,hle,h1⟩:=C0 h;exact Sp.pre hle λw0 B a w L g r=>wp_exit ⟨.exit id,_,L,rfl,⟨t1,h1⟩,r⟩
 |ret=>
  obtain⟨t1,τ,hle,h1⟩:=C0 h;exact Sp.pre hle λw0 B a w L g r=>wp_ret ⟨.ret,_,L,rfl,⟨t1,h1⟩,r⟩
 |loop b ih=>
  obtain⟨t1,τ,hle,h1⟩:=C0 h;refine Sp.pre hle ?_;split at h1
  .rename_i n t;clear hle h;refine tA.loop ?_
   induction n generalizing τ t with
   |zero=>exact h1.elim
   |succ n ihn=>
    obtain⟨t2,τ2,hle,h1⟩:=C0 h1;split at h1
    .exact tA.pre hle (tA.ag5 (X3 h1))
    refine tA.pre hle (tA.step ((ih h1).mono λe υ ⟨t',ht⟩=>?_));cases e with
    |normal=>exact .inl ⟨rfl,ihn _ _ ht⟩
    |exit i=>exact .inr ⟨aH,t',ht⟩
    |ret=>exact .inr ⟨aH,t',ht⟩
  .exact X3 h1
 |_=>exact h.elim
def Sp.tr(hT:mB P T)(hm:P.follows .mixedOrders=true){c:Code}{σ τ:PS}{e:Ex}(t:Tr P K)(h:wc T c σ t (FB e τ)=t.ex λt=>EM τ t .nil):
 Sp P K c σ (λe' τ'=>e'=e/\τ'=τ):=by
 have hk:=Tr.LY (fin:=λt=>EM τ t .nil) (λt=>Ps trivial) t;rw[<-h]at hk;refine(LR hT hm hk).post λe' υ ⟨t',ht⟩=>?_
 obtain⟨he,hl⟩:=RT ht;exact⟨τ,hl,he,rfl⟩
def Sj(T:List TI)(fn:Func)(kq:E)(e:Ex)(τ:PS)(_:Tr P K):R:=match e with
 | .exit _=>.ji
 |_=>match J9 T fn τ with
  |some r=>.a (E.le r kq) .nil
  |none=>.ji
def OS(T:List TI)(fn:Func)(nl:Bool)(args:List E)(kq:E)(t:Tr P K):R:=match fn.body with
 |some c=>if Nat.ble args.length fn.ntmps then wc T c (Bk fn nl args) t (Sj T fn kq)else .ji
 |none=>.ji
def PC.PE(hT:mB P T)(hm:P.follows .mixedOrders=true)(hp:∀ w w',K w->Below w.heap.size w w'->K w'){f:FuncId}{fn:Func}{args:List E}{kq:E}(xh:∀ (vs:Array Value) (w:World),(callFunc f vs).run P w = .ok (.enter f vs) w)
 (hf:P.funcs[f]? = some fn) (nl:Bool) (t:Tr P K) (h:OS T fn nl args kq t=t.ex λ_=>.a (E.le kq kq) .nil):PC P K f args kq:=by
 have hk:=Tr.LY (fin:=λ_=>.a (E.le kq kq) .nil) (λt=>⟨E.le.refl kq,trivial⟩) t;rw[<-h]at hk;unfold OS at hk;split at hk
 .rename_i c hb;split at hk
  .rename_i hn;refine PC.NW hT hm hp xh hf hb (cU hn) nl ((LR hT hm hk).mono λe τ ⟨t',ht⟩=>?_);unfold Sj at ht;split at ht
   .exact ht.elim
   .rename_i kj;split at ht
    .rename_i r hr;refine⟨?_,r,hr,ht.1⟩;cases e with
     |normal=>exact .inr rfl
     |ret=>exact .inl rfl
     |exit i=>exact absurd rfl (kj i)
    .exact ht.elim
  .exact hk.elim
 .exact hk.elim
def Si(fn:Func)(b:Bx)(e:Ex)(τ:PS)(_:Tr P K):R:=match e with
 | .exit _=>.ji
 |_=>match fn.results.toList with
  | [.tmp t]=>match τ.get t with
   | .own id=>match τ.bo id with
    |some c=>.a (Bx.le c b) .nil
    |none=>.ji
   |_=>.ji
  |_=>.ji
def OR(T:List TI)(fn:Func)(args:List E)(b:Bx)(t:Tr P K):R:=match fn.body with
 |some c=>if Nat.ble args.length fn.ntmps then wc T c (Bk fn true args) t (Si fn b)else .ji
 |none=>.ji
def uR.PE(hT:mB P T)(hm:P.follows .mixedOrders=true)(hp:∀ w w',K w->Below w.heap.size w w'->K w'){f:FuncId}{fn:Func}{args:List E}{nl:Bool}{T0:TypeId}{n sz:Nat}{el:Nat->Nat->E}(xh:∀ (vs:Array Value) (w:World),(callFunc f vs).run P w = .ok (.enter f vs) w)
 (hf:P.funcs[f]? = some fn) (t:Tr P K) (h:OR T fn args (.row nl T0 n sz el) t=t.ex λ_=>.a (Bx.le (.row nl T0 n sz el) (.row nl T0 n sz el)) .nil):uR P K f args nl T0 n sz el:=by
 have hk:=Tr.LY (fin:=λ_=>.a (Bx.le (.row nl T0 n sz el) (.row nl T0 n sz el)) .nil) (λt=>⟨Bx.le.refl _,trivial⟩) t;rw[<-h]at hk;unfold OR at hk;split at hk
 .rename_i c hb;split at hk
  .rename_i hn;refine uR.NW hT hm hp xh hf hb (cU hn) true ((LR hT hm hk).mono λe τ ⟨t',ht⟩=>?_);unfold Si at ht;split at ht
   .exact ht.elim
   .rename_i kj;split at ht
    .rename_i t0 hr;split at ht
     .rename_i id hg;split at ht
      .rename_i c' hc;refine⟨?_,t0,id,c',hr,hg,hc,λbs br L w hk=>ht.1.2 _ _ _ _ _ hk⟩;cases e with
       |normal=>exact .inr rfl
       |ret=>exact .inl rfl
       |exit i=>exact absurd rfl (kj i)
      .exact ht.elim
     .exact ht.elim
    .exact ht.elim
  .exact hk.elim
 .exact hk.elim
def Sp.kE{b:Code}{e:Ex}{τ:PS}(f:Nat->PS)(lo hi:Nat)(h0:lo<=hi)(go:∀ x,(lo<=x/\x<=hi)->x<hi->Sp P K b (f x) (λe' υ=>e' = .normal/\υ=f (x+1)))
 (out:(lo<=hi/\hi<=hi)->Sp P K b (f hi) (λe' υ=>e'=e/\υ=τ)) (he:e ≠ .normal):Sp P K (.loop b) (f lo) (λe' υ=>e'=e/\υ=τ):=by
 refine Sp.fam f (λx=>lo<=x/\x<=hi) (λx=>hi-x) (λx hx=>?_) lo ⟨bD _,h0⟩ (PS.le.refl _);rcases Nat.lt_or_eq_of_le hx.2 with iJ|heq
 .exact Sp.ac4 (x+1) (go x hx iJ) ⟨aC,aC⟩ aC (PS.le.refl _)
 .subst heq;exact Sp.ac5 (out hx) he (PS.le.refl _)
def iL(z:Int)(h:-9223372036854775808<=z/\z<=9223372036854775807):Tr P K->Tr P K:=.a (p:=kB .i64 z) h
def Da(z:Int)(h:0<=z/\z<=18446744073709551615):Tr P K->Tr P K:=.a (p:=kB .u64 z) h
def iX(z:Int)(n:Nat)(h:0<=z/\z<n):Tr P K->Tr P K:=.a h
def tB(d:Nat){a b:Bool}(h:a=b):Tr P K->Tr P K:=.o d (PV.le.bool h)
def ah(d:Nat)(a:Bool)(h:a=true):Tr P K->Tr P K:=tB d h
def ai(d:Nat)(a:Bool)(h:a=false):Tr P K->Tr P K:=tB d h
def tT(d:Nat)(p:Prop)[Decidable p](h:p):Tr P K->Tr P K:=.o d (PV.le.bool (bA h))
def tF(d:Nat)(p:Prop)[Decidable p](h:¬p):Tr P K->Tr P K:=.o d (PV.le.bool (bB h))
def rQ(p q:E)(h:p=q):Tr P K:=.r (E.le.jl h)
def rR(q:E){p:E}(h:E.le p q):Tr P K:=.r h
def ae(l:List (Tr P K->Tr P K))(t:Tr P K):Tr P K:=l.foldr (λf t=>f t) t
def af(l:List (Tr P K->Tr P K)):Tr P K:=ae l .nil
end
end Go.Proofs.YtgdahmmlddfimaaGreatDoor.Pu
namespace Go.Proofs.YtgdahmmlddfimaaGreatDoor
open Go.RowKit Fp Pu
def tr(nl:Bool){f:FuncId}{fn:Func}{args:List E}{kq:E}(xh:∀ (vs:Array Value) (w:World),(callFunc f vs).run prog w = .ok (.enter f vs) w)
 (hf:prog.funcs[f]? = some fn) (t:Tr prog Tb) (h:OS TT fn nl args kq t=t.ex λ_=>.a (E.le kq kq) .nil):ik f args kq:=
 PC.PE K0 mixed P9 xh hf nl t h
def ag(args:List E){f:FuncId}{ko:E}(h:ik f args ko):Tr prog Tb->Tr prog Tb:=.c h
def ak{f:FuncId}{fn:Func}{args:List E}{kq:E}(xh:∀ (vs:Array Value) (w:World),(callFunc f vs).run prog w = .ok (.enter f vs) w)
 (hf:prog.funcs[f]? = some fn) (t:Tr prog Tb) (h:OS TT fn true args kq t=t.ex λ_=>.a (E.le kq kq) .nil:=by kernel_rfl):ik f args kq:=tr true xh hf t h
def an{f:FuncId}{fn:Func}{args:List E}{kq:E}(xh:∀ (vs:Array Value) (w:World),(callFunc f vs).run prog w = .ok (.enter f vs) w)
 (hf:prog.funcs[f]? = some fn) (t:Tr prog Tb) (h:OS TT fn false args kq t=t.ex λ_=>.a (E.le kq kq) .nil:=by kernel_rfl):ik f args kq:=tr false xh hf t h
def jh{c:Code}{σ τ:PS}{e:Ex}(t:Tr prog Tb)(h:wc TT c σ t (FB e τ)=t.ex λt=>EM τ t .nil):
 Sp prog Tb c σ (λe' τ'=>e'=e/\τ'=τ):=Sp.tr K0 mixed t h
abbrev kD(k:Nat)(fn:Func)(σ:PS)(e:Ex)(τ:PS):Prop:=Sp prog Tb (.loop (aay k fn)) σ (λe' τ'=>e'=e/\τ'=τ)
def Uh(nl:Bool)(n N:Nat)(el:Nat->Nat->E)(g:FuncId)(cap:List E)(i:Nat):PS:=⟨19,false,[(8,.e (iP i)),(7,.e (iP n)),(0,.e (.sl nl n 1 el)),(1,.e (.fn g cap))],[]⟩
def Ug(nl:Bool)(n:Nat)(el:Nat->Nat->E)(g:FuncId)(cap:List E)(i:Nat):PS:=⟨19,false,[(8,.e (iP i)),(7,.e (iP n)),(0,.e (.sl nl n 1 el)),(1,.e (.fn g cap))],[]⟩
def U2(nl:Bool)(n:Nat)(el:Nat->Nat->E)(g:FuncId)(cap:List E)(i:Nat):PS:=⟨19,false,[(8,.e (iP i)),(7,.e (iP n)),(0,.e (.sl nl n 1 el)),(1,.e (.fn g cap))],[]⟩
def Uy(nl:Bool)(n N:Nat)(el:Nat->Nat->E)(g:FuncId)(cap:List E)(i:Nat):PS:=⟨19,false,[(8,.e (iP i)),(7,.e (iP n)),(0,.e (.sl nl n 7 el)),(1,.e (.fn g cap))],[]⟩
def Ux(nl:Bool)(n:Nat)(el:Nat->Nat->E)(g:FuncId)(cap:List E)(i:Nat):PS:=⟨19,false,[(8,.e (iP i)),(7,.e (iP n)),(0,.e (.sl nl n 7 el)),(1,.e (.fn g cap))],[]⟩
def WW(nl:Bool)(n N:Nat)(el:Nat->Nat->E)(g:FuncId)(cap:List E)(i:Nat):PS:=⟨19,false,[(8,.e (iP i)),(7,.e (iP n)),(0,.e (.sl nl n 1 el)),(1,.e (.fn g cap))],[]⟩
def WV(nl:Bool)(n:Nat)(el:Nat->Nat->E)(g:FuncId)(cap:List E)(i:Nat):PS:=⟨19,false,[(8,.e (iP i)),(7,.e (iP n)),(0,.e (.sl nl n 1 el)),(1,.e (.fn g cap))],[]⟩
def uB{p:Nat->Bool}{n:Nat}(h:∃ i,i<n/\p i=true):∃ N,N<n/\p N=true/\∀ i,i<N->p i=false:=by
 induction n with
 |zero=>obtain⟨i,h1,_⟩:=h;omega
 |succ n ih=>
  by_cases hn:∃ i,i<n/\p i=true
  .obtain ⟨N,h1,h2,h3⟩:=ih hn;exact⟨N,aC,h2,h3⟩
  .obtain ⟨i,h1,h2⟩:=h;have:i=n:=by
    by_cases q:i=n
    .exact q
    .exact absurd ⟨i,aC,h2⟩ hn
   subst this;exact⟨i,h1,h2,λj hj=>by simpa using λq=>hn ⟨j,hj,q⟩⟩
def aeZ(nl:Bool)(n:Nat)(el:Nat->Nat->E)(g:FuncId)(cap:List E)(p:Nat->Bool)(hp:∀ i,i<n->ik g ((el i 0)::cap) (bP (p i)))(N:Nat)(hl:n<=1000000)(q8:N<n)(jZ:∀ i,i<N->p i=false)(hN:p N=true):ik 154 [.sl nl n 1 el,.fn g cap] (iP N):=
 an call154 func154 (af [.s (Sp.kE (Uh nl n N el g cap) 0 N aC (λi hi rF=>by
    exact jh (af [tT 9 ((i:Int)<n) aC,iX (i:Int) n aC,.c (hp i aC:ik g ((el i 0)::cap) _),ai 16 (p i) (jZ i aC),iL ((i:Int)+1) aC]) aF)
  (λhi=>by
    exact jh (af [tT 9 ((N:Int)<n) aC,iX (N:Int) n aC,.c (hp N aC:ik g ((el N 0)::cap) _),ah 16 (p N) hN]) aF) aI:kD 2 f154 (Uh nl n N el g cap 0) .ret ⟨19,false,[(4,.e (iP N))],[]⟩) .nil]) 
def ae1(nl:Bool)(n:Nat)(el:Nat->Nat->E)(g:FuncId)(cap:List E)(p:Nat->Bool)(hp:∀ i,i<n->ik g ((el i 0)::cap) (bP (p i)))(hl:n<=1000000)(jZ:∀ i,i<n->p i=false):ik 154 [.sl nl n 1 el,.fn g cap] (iP (-1)):=
 an call154 func154 (af [.s (Sp.kE (Ug nl n el g cap) 0 n aC (λi hi rF=>by
    exact jh (af [tT 9 ((i:Int)<n) aC,iX (i:Int) n aC,.c (hp i aC:ik g ((el i 0)::cap) _),ai 16 (p i) (jZ i aC),iL ((i:Int)+1) aC]) aF)
  (λhi=>by
    exact jh (af [tF 9 ((n:Int)<n) aC]) aF) aI:kD 2 f154 (Ug nl n el g cap 0) (.exit 0) ⟨19,false,[],[]⟩) .nil]) 
def ae0(nl:Bool)(n:Nat)(el:Nat->Nat->E)(g:FuncId)(cap:List E)(p:Nat->Bool)(hp:∀ i,i<n->ik g ((el i 0)::cap) (bP (p i)))(N:Nat)(hl:n<=1000000)(q8:N<n)(jZ:∀ i,i<N->p i=false)(hN:p N=true):ik 67 [.sl nl n 1 el,.fn g cap] (bP true):=
 an call67 func67 (af [ag [.sl nl n 1 el,.fn g cap] (aeZ nl n el g cap p hp N hl q8 jZ hN),tT 8 (0<=(N:Int)) aC]) 
def Nx(nl:Bool)(n:Nat)(el:Nat->Nat->E)(g:FuncId)(cap:List E)(p:Nat->Bool)(hp:∀ i,i<n->ik g ((el i 0)::cap) (bP (p i)))(hl:n<=1000000)(jZ:∀ i,i<n->p i=false):ik 67 [.sl nl n 1 el,.fn g cap] (bP false):=
 an call67 func67 (af [ag [.sl nl n 1 el,.fn g cap] (ae1 nl n el g cap p hp hl jZ),ai 8 (decide ((0:Int)<=(-1))) aE]) 
def Ui(nl:Bool)(n:Nat)(el:Nat->Nat->E)(g:FuncId)(cap:List E)(p:Nat->Bool)(hp:∀ i,i<n->ik g ((el i 0)::cap) (bP (p i)))(hl:n<=1000000):ik 67 [.sl nl n 1 el,.fn g cap] (bP ((List.range n).any p)):=by
 by_cases h:∃ i,i<n/\p i=true
 .obtain ⟨N,h1,h2,h3⟩:∃ N,N<n/\p N=true/\∀ i,i<N->p i=false:=uB h;refine(ae0 nl n el g cap p hp N hl h1 h3 h2).kq (.jl ?_);rw[eB.2 ⟨N,cC.2 h1,h2⟩]
 .refine (Nx nl n el g cap p hp hl λi hi=>by simpa using λq=>h ⟨i,hi,q⟩).kq (.jl ?_);rw[df.2 λi hi q=>h ⟨i,cC.1 hi,q⟩]
def afT(nl:Bool)(n:Nat)(el:Nat->Nat->E)(g:FuncId)(cap:List E)(p:Nat->Bool)(hp:∀ i,i<n->ik g ((el i 0)::cap) (bP (p i)))(hl:n<=1000000)(jZ:∀ i,i<n->p i=false):ik 302 [.sl nl n 1 el,.fn g cap] (iP (-1)):=
 an call302 func302 (af [.s (Sp.kE (U2 nl n el g cap) 0 n aC (λi hi rF=>by
    exact jh (af [tT 9 ((i:Int)<n) aC,iX (i:Int) n aC,.c (hp i aC:ik g ((el i 0)::cap) _),ai 16 (p i) (jZ i aC),iL ((i:Int)+1) aC]) aF)
  (λhi=>by
    exact jh (af [tF 9 ((n:Int)<n) aC]) aF) aI:kD 2 f302 (U2 nl n el g cap 0) (.exit 0) ⟨19,false,[],[]⟩) .nil]) 
def U4(nl:Bool)(n:Nat)(el:Nat->Nat->E)(g:FuncId)(cap:List E)(p:Nat->Bool)(hp:∀ i,i<n->ik g ((el i 0)::cap) (bP (p i)))(hl:n<=1000000)(jZ:∀ i,i<n->p i=false):ik 267 [.sl nl n 1 el,.fn g cap] (bP false):=
 an call267 func267 (af [ag [.sl nl n 1 el,.fn g cap] (afT nl n el g cap p hp hl jZ),ai 8 (decide ((0:Int)<=(-1))) aE]) 
def afk(nl:Bool)(n:Nat)(el:Nat->Nat->E)(g:FuncId)(cap:List E)(p:Nat->Bool)(hp:∀ i,i<n->ik g ((.agg [el i 0,el i 1,el i 2,el i 3,el i 4,el i 5,el i 6])::cap) (bP (p i)))(N:Nat)(hl:n<=1000000)(q8:N<n)(jZ:∀ i,i<N->p i=false)(hN:p N=true):ik 130 [.sl nl n 7 el,.fn g cap] (iP N):=
 an call130 func130 (af [.s (Sp.kE (Uy nl n N el g cap) 0 N aC (λi hi rF=>by
    exact jh (af [tT 9 ((i:Int)<n) aC,iX (i:Int) n aC,.c (hp i aC:ik g ((.agg [el i 0,el i 1,el i 2,el i 3,el i 4,el i 5,el i 6])::cap) _),ai 16 (p i) (jZ i aC),iL ((i:Int)+1) aC]) aF)
  (λhi=>by
    exact jh (af [tT 9 ((N:Int)<n) aC,iX (N:Int) n aC,.c (hp N aC:ik g ((.agg [el N 0,el N 1,el N 2,el N 3,el N 4,el N 5,el N 6])::cap) _),ah 16 (p N) hN]) aF) aI:kD 2 f130 (Uy nl n N el g cap 0) .ret ⟨19,false,[(4,.e (iP N))],[]⟩) .nil]) 
def afm(nl:Bool)(n:Nat)(el:Nat->Nat->E)(g:FuncId)(cap:List E)(p:Nat->Bool)(hp:∀ i,i<n->ik g ((.agg [el i 0,el i 1,el i 2,el i 3,el i 4,el i 5,el i 6])::cap) (bP (p i)))(hl:n<=1000000)(jZ:∀ i,i<n->p i=false):ik 130 [.sl nl n 7 el,.fn g cap] (iP (-1)):=
 an call130 func130 (af [.s (Sp.kE (Ux nl n el g cap) 0 n aC (λi hi rF=>by
    exact jh (af [tT 9 ((i:Int)<n) aC,iX (i:Int) n aC,.c (hp i aC:ik g ((.agg [el i 0,el i 1,el i 2,el i 3,el i 4,el i 5,el i 6])::cap) _),ai 16 (p i) (jZ i aC),iL ((i:Int)+1) aC]) aF)
  (λhi=>by
    exact jh (af [tF 9 ((n:Int)<n) aC]) aF) aI:kD 2 f130 (Ux nl n el g cap 0) (.exit 0) ⟨19,false,[],[]⟩) .nil]) 
def afl(nl:Bool)(n:Nat)(el:Nat->Nat->E)(g:FuncId)(cap:List E)(p:Nat->Bool)(hp:∀ i,i<n->ik g ((.agg [el i 0,el i 1,el i 2,el i 3,el i 4,el i 5,el i 6])::cap) (bP (p i)))(N:Nat)(hl:n<=1000000)(q8:N<n)(jZ:∀ i,i<N->p i=false)(hN:p N=true):ik 53 [.sl nl n 7 el,.fn g cap] (bP true):=
 an call53 func53 (af [ag [.sl nl n 7 el,.fn g cap] (afk nl n el g cap p hp N hl q8 jZ hN),tT 8 (0<=(N:Int)) aC]) 
def NG(nl:Bool)(n:Nat)(el:Nat->Nat->E)(g:FuncId)(cap:List E)(p:Nat->Bool)(hp:∀ i,i<n->ik g ((.agg [el i 0,el i 1,el i 2,el i 3,el i 4,el i 5,el i 6])::cap) (bP (p i)))(hl:n<=1000000)(jZ:∀ i,i<n->p i=false):ik 53 [.sl nl n 7 el,.fn g cap] (bP false):=
 an call53 func53 (af [ag [.sl nl n 7 el,.fn g cap] (afm nl n el g cap p hp hl jZ),ai 8 (decide ((0:Int)<=(-1))) aE]) 
def NF(nl:Bool)(n:Nat)(el:Nat->Nat->E)(g:FuncId)(cap:List E)(p:Nat->Bool)(hp:∀ i,i<n->ik g ((.agg [el i 0,el i 1,el i 2,el i 3,el i 4,el i 5,el i 6])::cap) (bP (p i)))(hl:n<=1000000):ik 53 [.sl nl n 7 el,.fn g cap] (bP ((List.range n).any p)):=by
 by_cases h:∃ i,i<n/\p i=true
 .obtain ⟨N,h1,h2,h3⟩:∃ N,N<n/\p N=true/\∀ i,i<N->p i=false:=uB h;refine(afl nl n el g cap p hp N hl h1 h3 h2).kq (.jl ?_);rw[eB.2 ⟨N,cC.2 h1,h2⟩]
 .refine (NG nl n el g cap p hp hl λi hi=>by simpa using λq=>h ⟨i,hi,q⟩).kq (.jl ?_);rw[df.2 λi hi q=>h ⟨i,cC.1 hi,q⟩]
def aiR(nl:Bool)(n:Nat)(el:Nat->Nat->E)(g:FuncId)(cap:List E)(p:Nat->Bool)(hp:∀ i,i<n->ik g ((el i 0)::cap) (bP (p i)))(N:Nat)(hl:n<=1000000)(q8:N<n)(jZ:∀ i,i<N->p i=false)(hN:p N=true):ik 128 [.sl nl n 1 el,.fn g cap] (iP N):=
 an call128 func128 (af [.s (Sp.kE (WW nl n N el g cap) 0 N aC (λi hi rF=>by
    exact jh (af [tT 9 ((i:Int)<n) aC,iX (i:Int) n aC,.c (hp i aC:ik g ((el i 0)::cap) _),ai 16 (p i) (jZ i aC),iL ((i:Int)+1) aC]) aF)
  (λhi=>by
    exact jh (af [tT 9 ((N:Int)<n) aC,iX (N:Int) n aC,.c (hp N aC:ik g ((el N 0)::cap) _),ah 16 (p N) hN]) aF) aI:kD 2 f128 (WW nl n N el g cap 0) .ret ⟨19,false,[(4,.e (iP N))],[]⟩) .nil]) 
def aiW(nl:Bool)(n:Nat)(el:Nat->Nat->E)(g:FuncId)(cap:List E)(p:Nat->Bool)(hp:∀ i,i<n->ik g ((el i 0)::cap) (bP (p i)))(hl:n<=1000000)(jZ:∀ i,i<n->p i=false):ik 128 [.sl nl n 1 el,.fn g cap] (iP (-1)):=
 an call128 func128 (af [.s (Sp.kE (WV nl n el g cap) 0 n aC (λi hi rF=>by
    exact jh (af [tT 9 ((i:Int)<n) aC,iX (i:Int) n aC,.c (hp i aC:ik g ((el i 0)::cap) _),ai 16 (p i) (jZ i aC),iL ((i:Int)+1) aC]) aF)
  (λhi=>by
    exact jh (af [tF 9 ((n:Int)<n) aC]) aF) aI:kD 2 f128 (WV nl n el g cap 0) (.exit 0) ⟨19,false,[],[]⟩) .nil]) 
def aiU(nl:Bool)(n:Nat)(el:Nat->Nat->E)(g:FuncId)(cap:List E)(p:Nat->Bool)(hp:∀ i,i<n->ik g ((el i 0)::cap) (bP (p i)))(N:Nat)(hl:n<=1000000)(q8:N<n)(jZ:∀ i,i<N->p i=false)(hN:p N=true):ik 50 [.sl nl n 1 el,.fn g cap] (bP true):=
 an call50 func50 (af [ag [.sl nl n 1 el,.fn g cap] (aiR nl n el g cap p hp N hl q8 jZ hN),tT 8 (0<=(N:Int)) aC]) 
def WX(nl:Bool)(n:Nat)(el:Nat->Nat->E)(g:FuncId)(cap:List E)(p:Nat->Bool)(hp:∀ i,i<n->ik g ((el i 0)::cap) (bP (p i)))(hl:n<=1000000)(jZ:∀ i,i<n->p i=false):ik 50 [.sl nl n 1 el,.fn g cap] (bP false):=
 an call50 func50 (af [ag [.sl nl n 1 el,.fn g cap] (aiW nl n el g cap p hp hl jZ),ai 8 (decide ((0:Int)<=(-1))) aE]) 
def aiQ(nl:Bool)(n:Nat)(el:Nat->Nat->E)(g:FuncId)(cap:List E)(p:Nat->Bool)(hp:∀ i,i<n->ik g ((el i 0)::cap) (bP (p i)))(hl:n<=1000000):ik 50 [.sl nl n 1 el,.fn g cap] (bP ((List.range n).any p)):=by
 by_cases h:∃ i,i<n/\p i=true
 .obtain ⟨N,h1,h2,h3⟩:∃ N,N<n/\p N=true/\∀ i,i<N->p i=false:=uB h;refine(aiU nl n el g cap p hp N hl h1 h3 h2).kq (.jl ?_);rw[eB.2 ⟨N,cC.2 h1,h2⟩]
 .refine (WX nl n el g cap p hp hl λi hi=>by simpa using λq=>h ⟨i,hi,q⟩).kq (.jl ?_);rw[df.2 λi hi q=>h ⟨i,cC.1 hi,q⟩]
def VA(a b:List Nat)(x:Nat):PS:=⟨67,false,[(20,.e (iP x)),(19,.e (iP a.length)),(18,.e (iu a)),(5,.own 17),(1,.e (iu b))],[(17,.row false 171 (a.length+b.length) 1 (qp (lP a b x)))]⟩
def VB(a b:List Nat)(x:Nat)(k:Nat):PS:=⟨67,false,[(27,.e (iP k)),(26,.e (iP b.length)),(25,.e (iu b)),(8,.e (.v (.int .u64 (((nC (a.getD x 0) x b (lP a b x) k).2:Nat):Int)))),(7,.e (.v (.int .u32 (a.getD x 0:Int)))),(6,.e (iP x)),(20,.e (iP x)),(19,.e (iP a.length)),(18,.e (iu a)),(5,.own 17),(1,.e (iu b))],[(17,.row false 171 (a.length+b.length) 1 (qp ((nC (a.getD x 0) x b (lP a b x) k).1)))]⟩
def agF(a b:List Nat)(ha:iY a)(hb:iY b)(h1:a.length<=3000)(h2:b.length<=3000):ik 269 [iu a,iu b] (iu (lP a b a.length)):=
 an call269 func269 (ae [iL ((a.length:Int)+b.length) aC,.a (aC:0<=(((a.length:Int)+b.length):Int)/\(((a.length:Int)+b.length):Int)<=(((a.length:Int)+b.length):Int)),.a (aC:((4:Nat):Int)*((a.length:Int)+b.length)<=281474976710656/\(((a.length:Int)+b.length):Int)<=9223372036854775807),.s (Sp.kE (VA a b) 0 a.length aC (λx hx nd=>by
    have f1:=ha.getD x;have so:=GA ha hb x aC;have g1:=so.len;have g2:=(Gy f1 hb so.ok (i:=x) aC b.length aC).len;have g3:=(Gy f1 hb so.ok (i:=x) aC b.length aC).lt;exact jh (ae [tT 21 ((x:Int)<a.length) aC,iX (x:Int) (a.length) aC,.s (Sp.kE (VB a b x) 0 b.length aC (λk hk aml=>by
    have f2:=hb.getD k;have q:=Gy f1 hb so.ok (i:=x) aC k aC;have f3:=q.ok.getD (x+k);have f4:=q.lt;have f5:=q.len;have f6:=VD f1 f2;exact jh (ae [tT 28 ((k:Int)<b.length) aC,iX (k:Int) (b.length) aC,.o 33 (.int (sH _ aC):aj (.v (.int .u64 (IntKind.u64.wrap (a.getD x 0:Int)))) (.v (.int .u64 (a.getD x 0:Int)))),.o 35 (.int (sH _ aC):aj (.v (.int .u64 (IntKind.u64.wrap (b.getD k 0:Int)))) (.v (.int .u64 (b.getD k 0:Int)))),
     Da ((a.getD x 0:Int)*(b.getD k 0:Int)) aC,iL ((x:Int)+k) aC,iX ((x+k:Nat):Int) (a.length+b.length) aC,.a (aC:(x+k)<(a.length+b.length)),.o 43 (.int (sH _ aC):aj (.v (.int .u64 (IntKind.u64.wrap ((((nC (a.getD x 0) x b (lP a b x) k).1).getD (x+k) 0:Nat):Int)))) (.v (.int .u64 ((((nC (a.getD x 0) x b (lP a b x) k).1).getD (x+k) 0:Nat):Int)))),
     Da ((((a.getD x 0)*(b.getD k 0):Nat):Int)+((((nC (a.getD x 0) x b (lP a b x) k).1).getD (x+k) 0:Nat):Int)) aC,
     Da (((((a.getD x 0)*(b.getD k 0))+(((nC (a.getD x 0) x b (lP a b x) k).1).getD (x+k) 0):Nat):Int)+(((nC (a.getD x 0) x b (lP a b x) k).2:Nat):Int)) aC,
     iL ((x:Int)+k) aC,.o 52 (.int (ET _):aj (.v (.int .u32 (IntKind.u32.wrap (((((a.getD x 0)*(b.getD k 0))+(((nC (a.getD x 0) x b (lP a b x) k).1).getD (x+k) 0))+(nC (a.getD x 0) x b (lP a b x) k).2:Nat):Int)))) (.v (.int .u32 ((((((a.getD x 0)*(b.getD k 0))+(((nC (a.getD x 0) x b (lP a b x) k).1).getD (x+k) 0))+(nC (a.getD x 0) x b (lP a b x) k).2)%4294967296:Nat):Int)))),.a (aC:0<=(32:Int)/\(32:Int)<=((64:Nat):Int)),.o 54 (.int (XS _):aj (.v (.int .u64 ((((((a.getD x 0)*(b.getD k 0))+(((nC (a.getD x 0) x b (lP a b x) k).1).getD (x+k) 0))+(nC (a.getD x 0) x b (lP a b x) k).2:Nat):Int)/2^32))) (.v (.int .u64 ((((((a.getD x 0)*(b.getD k 0))+(((nC (a.getD x 0) x b (lP a b x) k).1).getD (x+k) 0))+(nC (a.getD x 0) x b (lP a b x) k).2)/4294967296:Nat):Int)))),
     iX ((x+k:Nat):Int) (a.length+b.length) aC,.a (aC:(x+k)<(a.length+b.length)),iL ((k:Int)+1) aC]<|.e (af [.o 8 (.int aP:aj (.v (.int .u64 ((((((a.getD x 0)*(b.getD k 0))+(((nC (a.getD x 0) x b (lP a b x) k).1).getD (x+k) 0))+(nC (a.getD x 0) x b (lP a b x) k).2)/4294967296:Nat):Int))) (.v (.int .u64 (((nC (a.getD x 0) x b (lP a b x) (k+1)).2:Nat):Int)))),.b 17 (O8 rfl aC:Bx.le (.row false 171 (a.length+b.length) 1 (λi' j'=>if i'=(x+k)/\0<=j'/\j'<0+1 then[.v (.int .u32 ((((((a.getD x 0)*(b.getD k 0))+(((nC (a.getD x 0) x b (lP a b x) k).1).getD (x+k) 0))+(nC (a.getD x 0) x b (lP a b x) k).2)%4294967296:Nat):Int))].getD (j'-0) .any else(qp ((nC (a.getD x 0) x b (lP a b x) k).1)) i' j')) (.row false 171 (a.length+b.length) 1 (qp ((nC (a.getD x 0) x b (lP a b x) (k+1)).1))))])) aF)
  (λhk=>by
    exact jh (af [tF 28 ((b.length:Int)<b.length) aC]) aF) aI:kD 7 f269 (VB a b x 0) (.exit 2) ⟨67,false,[(8,.e (.v (.int .u64 (((nC (a.getD x 0) x b (lP a b x) b.length).2:Nat):Int)))),(6,.e (iP x)),(20,.e (iP x)),(19,.e (iP a.length)),(18,.e (iu a)),(5,.own 17),(1,.e (iu b))],[(17,.row false 171 (a.length+b.length) 1 (qp ((nC (a.getD x 0) x b (lP a b x) b.length).1)))]⟩) (af [.o 8 (.int aP:aj (.v (.int .u64 0)) (.v (.int .u64 (((nC (a.getD x 0) x b (lP a b x) 0).2:Nat):Int)))),.b 17 (.jl rfl:Bx.le (.row false 171 (a.length+b.length) 1 (qp (lP a b x))) (.row false 171 (a.length+b.length) 1 (qp ((nC (a.getD x 0) x b (lP a b x) 0).1))))]),
     iL ((x:Int)+b.length) aC,.o 63 (.int (ET _):aj (.v (.int .u32 (IntKind.u32.wrap (((nC (a.getD x 0) x b (lP a b x) b.length).2:Nat):Int)))) (.v (.int .u32 (((nC (a.getD x 0) x b (lP a b x) b.length).2%4294967296:Nat):Int)))),
     iX ((x+b.length:Nat):Int) (a.length+b.length) aC,.a (aC:(x+b.length)<(a.length+b.length)),iL ((x:Int)+1) aC]<|.e (af [.b 17 (O8 rfl aC:Bx.le (.row false 171 (a.length+b.length) 1 (λi' j'=>if i'=(x+b.length)/\0<=j'/\j'<0+1 then[.v (.int .u32 (((nC (a.getD x 0) x b (lP a b x) b.length).2%4294967296:Nat):Int))].getD (j'-0) .any else(qp ((nC (a.getD x 0) x b (lP a b x) b.length).1)) i' j')) (.row false 171 (a.length+b.length) 1 (qp (lP a b (x+1)))))])) aF)
  (λhx=>by
    exact jh (af [tF 21 ((a.length:Int)<a.length) aC]) aF) aI:kD 3 f269 (VA a b 0) (.exit 0) ⟨67,false,[(5,.own 17)],[(17,.row false 171 (a.length+b.length) 1 (qp (lP a b a.length)))]⟩) (af [.b 17 (WY rfl (λi=>by simp[lP,bC,fC];split<;>rfl):Bx.le (.row false 171 (a.length+b.length) 1 (λ_ j_=>[.v (.int .u32 0)].getD j_ .any)) (.row false 171 (a.length+b.length) 1 (qp (lP a b 0))))])]<|rR (iu (lP a b a.length)) (X1 (by rw[(GA ha hb a.length aC).len]):E.le (.sl false (a.length+b.length) 1 (qp (lP a b a.length))) (iu (lP a b a.length)))) 
def N9(L:List Nat)(h:L.length<=256):ik 268 [iu L] (bP false):=
 ak call268 func268 (af [tF 5 (256<(L.length:Int)) aC]) 
def agE(L:List Nat)(h1:L.length<=256):ik 230 [(.sl true 1 1 λi_ j_=>[iu L].getD (i_*1+j_) (.v (.bool false)))] (bP false):=
 ak call230 func230 (af [.c (U4 true 1 _ 268 [] (λ_=>false) (λi hi=>(match i,hi with|0,_=>N9 _ h1|n+1,hi=>absurd hi aC)) aC (λ_ _=>rfl):ik 267 [(.sl true 1 1 λi_ j_=>[iu L].getD (i_*1+j_) (.v (.bool false))),.fn 268 []] _)]) 
def VI(L:List Nat)(M:List Nat)(h1:L.length<=256)(h2:M.length<=256):ik 230 [(.sl true 2 1 λi_ j_=>[iu L,iu M].getD (i_*1+j_) (.v (.bool false)))] (bP false):=
 ak call230 func230 (af [.c (U4 true 2 _ 268 [] (λ_=>false) (λi hi=>(match i,hi with|0,_=>N9 _ h1|1,_=>N9 _ h2|n+2,hi=>absurd hi aC)) aC (λ_ _=>rfl):ik 267 [(.sl true 2 1 λi_ j_=>[iu L,iu M].getD (i_*1+j_) (.v (.bool false))),.fn 268 []] _)]) 
def agG(L M:List Nat)(hL:iY L)(hM:iY M)(h1:L.length<=256)(h2:M.length<=256)(hf:(im (val L*val M)).length<=256):ik 234 [iu L,iu M] (.iE [iu (im (val L*val M)),iP 0]):=by
 have ka:=hL.iT;have kb:=hM.iT;have ta:=pW L;have tb:=pW M;unfold mT at ta tb;have km:=(GA ka kb _ (bD _)).ok;have he:iT (lP (iT L) (iT M) (iT L).length)=im (val L*val M):=by rw[sG km,als ka kb,qv,qv]
 have hd:(iT (lP (iT L) (iT M) (iT L).length)).length<=256:=by rw[he];exact hf
 exact ak call234 func234 (ae [.c (VI L M aD aD),ag [iu L] (uE _ hL),ag [iu M] (uE _ hM),ag [iu (iT L),iu (iT M)] (agF _ _ ka kb aC aC),ag [iu (lP (iT L) (iT M) (iT L).length)] (VH _ km hd)]<|rQ (.iE [iu (iT (lP (iT L) (iT M) (iT L).length)),iP 0]) (.iE [iu (im (val L*val M)),iP 0]) (by rw[he])) 
def Ab(m n:Nat)(h1:(im m).length<=256)(h2:(im n).length<=256)(hf:(im (m*n)).length<=256):ik 234 [iu (im m),iu (im n)] (.iE [iu (im (m*n)),iP 0]):=by
 have:=agG (im m) (im n) (nD m) (nD n) h1 h2 (by rw[lh,lh];exact hf);rwa[lh,lh]at this
def wO(m n:Nat)(h1:(im m).length<=256)(h2:n<=65536)(h3:(im (m*2^n)).length<=256):ik 283 [iu (im m),iP n] (iu (im (m*2^n))):=
 ak call283 func283 (af [ag [iu (im m),iP n] (VK _ _ aC aC aC)]) 
def OP(m n:Nat)(h1:(im m).length<=256)(h2:n<=65536):ik 284 [iu (im m),iP n] (.iE [iu (im (m/2^n)),bP (decide (m%2^n≠0))]):=by
 have hb:=Fg h1;have hq:(im (m/2^n)).length<=256:=pQ (by have:=wY (cv m (2^n));omega);have zG:(im (m/2^n*2^n)).length<=256:=pQ (by have:=wY (dC m (2^n));omega);have hr:(im (m/2^iD m)).length<=256:=pQ (by have:=wY (cv m (2^iD m));omega);have od:(im (m/2^iD m*2^iD m)).length<=256:=pQ (by have:=wY (dC m (2^iD m));omega);by_cases hn:iD m<n
 .have q1:=RG (dR hn);have q2:=RG (bD (iD m));exact ak call284 func284 (ae [ag [iu (im m)] (tf _ aC),tT 11 ((iD m:Int)<n) aC,ag [iu (im m)] (tf _ aC),ag [iu (im m),iP (iD m:Int)] (Oa _ _ aC aC),.c (wO (m/2^(iD m)) (iD m) aC aC aC),ag [iu (im ((m/2^(iD m))*2^(iD m))),iu (im m)] (z8 _ _ aC aC)]<|rQ (.iE [iu (im (m/2^(iD m))),bP ((lf ((m/2^(iD m))*2^(iD m)) m) != 0)]) (.iE [iu (im (m/2^n)),bP (decide (m%2^n≠0))]) (by rw[Vd,q1.1,q1.2,q2.1,q2.2])) 
 .exact ak call284 func284 (ae [ag [iu (im m)] (tf _ aC),tF 11 ((iD m:Int)<n) aC,ag [iu (im m),iP n] (Oa _ _ aC aC),.c (wO (m/2^n) n aC aC aC),ag [iu (im ((m/2^n)*2^n)),iu (im m)] (z8 _ _ aC aC)]<|rQ (.iE [iu (im (m/2^n)),bP ((lf ((m/2^n)*2^n) m) != 0)]) (.iE [iu (im (m/2^n)),bP (decide (m%2^n≠0))]) (by rw[Vd])) 
abbrev PI:E:=.sl false 1 1 λi_ j_=>[.v (.int .u32 1)].getD (i_*1+j_) (.v (.bool false))
abbrev KC(p):=iu (im (0*2^((0-(jv 0 0 p)).toNat)))
def oH(m:Nat)(e:Int)(p:Nat):Nat:=if jv m e p<=e then m*2^(e-jv m e p).toNat else m/2^(jv m e p-e).toNat
def sr(m:Nat)(e:Int)(more:Bool)(p:Nat):Bool:=if jv m e p<=e then more else(more||decide (m%2^(jv m e p-e).toNat≠0))
def abS(m:Nat)(e:Int)(more:Bool)(p:Nat):oj m e more p false=oH m e p:=by unfold oj oH;simp
def LC{m:Nat}{e:Int}{more:Bool}{p:Nat}(hm:more=true->p<iD m):oj m e more p true=oH m e p+if sr m e more p=true then 1 else 0:=by
 unfold oj oH sr;by_cases hU:jv m e p<=e
 .have hmo:more=false:=by
   cases M4:more with
   |false=>rfl
   |true=>have:=hm M4;unfold jv at hU;omega
  simp[hU,hmo]
 .simp [hU]
def ahY(m:Nat)(e:Int)(more up:Bool)(p:Nat)(h1:(im m).length<=256)(h0:m≠0)(iB:8<=p)(iw:p<=512)(mP:-45000<=e)(lW:e<=45000)(hm:more=true->p<iD m):ik 285 [.agg [iu (im m),iP e,bP more],iP (p:Int),bP up] (.iE [iA (ku false m e more p up),iP (j9 false m e more p up)]):=by
 have TG:=Rq (e:=e) true h0 hm (aC:1<=p);have wC:=Rq (e:=e) false h0 hm (aC:1<=p);have hb:=Fg h1;have I7:=pn h0;have hqb:=Rp (e:=e) (more:=more) (p:=p) (up:=true) h0;have hqa:=Rp (e:=e) (more:=more) (p:=p) (up:=false) h0;rw[abS]at wC hqa;have hu1:-16384<=(jv m e p):=by unfold jv;omega
 have hu2:(jv m e p)<=60000:=by unfold jv;omega
 have hu3:(jv m e p)<=max (e+8192) (-16384):=by unfold jv;omega
 have fa:(im (oH m e p)).length<=256:=pQ aC;have fb:(im (oj m e more p true)).length<=256:=pQ aC;have f1:(im 1).length<=256:=pQ aE;cases up with
 |true=>
  exact ak call285 func285 (ae [ag [iu (im m)] (tf _ aC),iL (e+(iD m:Int)) aC,iL ((e+(iD m:Int))-(p:Int)) aC,.o 21 (aq (if(-16384)>((e+(iD m:Int))-(p:Int))then(-16384)else((e+(iD m:Int))-(p:Int))) (jv m e p) (by unfold jv;split<;>omega)),.j 58 ⟨84,true,[(9,.e (iu (im (oH m e p)))),(10,.e (bP (sr m e more p))),(8,.e (iP (jv m e p))),(6,.box 6 0),(1,.e (iP p)),(2,.e (bP true))],[(6,.cells 31 ar)]⟩
   (.w ((jv m e p)<=e)
    (λm1=>by
     have fx:(im (m*2^(e-(jv m e p)).toNat)).length<=256:=by have:=fa;rwa[show oH m e p=_ from bw m1]at this
     exact ae [.v 29 (.bool (bA m1)),iL (e-(jv m e p)) aC,.o 35 (aq (e-(jv m e p)) ((e-(jv m e p)).toNat:Int) aC),.c (wO m ((e-(jv m e p)).toNat:Nat) aC aC aC)]<|.e (af [.o 9 (.e (.jl (by rw[show oH m e p=_ from bw m1])):aj (iu (im (m*2^((e-(jv m e p)).toNat)))) (iu (im (oH m e p)))),tB 10 (by simp[sr,m1]:more=(sr m e more p))]))
    (λm1=>ae [.v 29 (.bool (bB m1)),iL ((jv m e p)-e) aC,.o 43 (aq ((jv m e p)-e) (((jv m e p)-e).toNat:Int) aC),.c (OP m (((jv m e p)-e).toNat:Nat) aC aC)]<|.w (more=true)
     (λm2=>ae [tB 48 m2]<|.e (af [.o 9 (.e (.jl (by rw[show oH m e p=_ from bu m1])):aj (iu (im (m/2^(((jv m e p)-e).toNat)))) (iu (im (oH m e p)))),tB 10 (by simp[sr,m1,m2]:true=(sr m e more p))]))
     (λm2=>ae [tB 48 (bk m2)]<|.e (af [.o 9 (.e (.jl (by rw[show oH m e p=_ from bu m1])):aj (iu (im (m/2^(((jv m e p)-e).toNat)))) (iu (im (oH m e p)))),tB 10 (by simp[sr,m1,m2]:(decide (m%2^(((jv m e p)-e).toNat)≠0))=(sr m e more p))])))),.j 110 ⟨84,true,[(9,.e (iu (im (oj m e more p true)))),(8,.e (iP (jv m e p))),(6,.box 6 0),(1,.e (iP p)),(2,.e (bP true))],[(6,.cells 31 ar)]⟩
   (.w (sr m e more p=true)
    (λm1=>by
     have fx:(im (oH m e p+1)).length<=256:=by have:=fb;rwa[LC hm,bw m1]at this
     exact ae [.v 55 (.bool m1),.o 58 (.e yO:aj PI (iu (im 1))),ag [iu (im (oH m e p)),iu (im 1)] (JG _ _ aC aC aC)]<|.e (af [.o 9 (.e (.jl (by rw[LC hm,bw m1])):aj (iu (im ((oH m e p)+1))) (iu (im (oj m e more p true))))]))
    (λm1=>ae [.v 55 (.bool (bk m1))]<|.e (af [.o 9 (.e (.jl (by rw[LC hm,bu m1,ch])):aj (iu (im (oH m e p))) (iu (im (oj m e more p true))))]))),ag [iu (im (oj m e more p true))] (tf _ aC),iL ((iD (oj m e more p true):Int)+(jv m e p)) aC]<|.w (16384<((iD (oj m e more p true):Int)+(jv m e p)))
   (λk1=>by
    have w1:=(TG.resolve_left (λh=>absurd k1 aC)).2.resolve_right (λh=>absurd h.1 aE);exact ae [tB 66 (bA k1),.o 68 (.e Au:aj (.agg ar) (iA iS))]<|rQ (.iE [iA iS,iP 9]) (.iE [iA (ku false m e more p true),iP (j9 false m e more p true)]) (by rw[w1.2.1,w1.2.2]))
   (λk1=>by
    have w1:=TG.resolve_right (λh=>k1 h.1);have hd:oz (canon false (oj m e more p true) (jv m e p)):=by rw[<-w1.2.1];exact(sN false m e more p true aC aC).range
    exact ae [tB 66 (bB k1),ag [bP false,iu (im (oj m e more p true)),iP (jv m e p)] (B8 _ _ _ aC aC aC aD)]<|rQ (.iE [iA (canon false (oj m e more p true) (jv m e p)),iP 0]) (.iE [iA (ku false m e more p true),iP (j9 false m e more p true)]) (by rw[w1.2.1,w1.2.2]))) 
 |false=>
  exact ak call285 func285 (ae [ag [iu (im m)] (tf _ aC),iL (e+(iD m:Int)) aC,iL ((e+(iD m:Int))-(p:Int)) aC,.o 21 (aq (if(-16384)>((e+(iD m:Int))-(p:Int))then(-16384)else((e+(iD m:Int))-(p:Int))) (jv m e p) (by unfold jv;split<;>omega)),.j 58 ⟨84,true,[(9,.e (iu (im (oH m e p)))),(10,.e (bP (sr m e more p))),(8,.e (iP (jv m e p))),(6,.box 6 0),(1,.e (iP p)),(2,.e (bP false))],[(6,.cells 31 ar)]⟩
   (.w ((jv m e p)<=e)
    (λm1=>by
     have fx:(im (m*2^(e-(jv m e p)).toNat)).length<=256:=by have:=fa;rwa[show oH m e p=_ from bw m1]at this
     exact ae [.v 29 (.bool (bA m1)),iL (e-(jv m e p)) aC,.o 35 (aq (e-(jv m e p)) ((e-(jv m e p)).toNat:Int) aC),.c (wO m ((e-(jv m e p)).toNat:Nat) aC aC aC)]<|.e (af [.o 9 (.e (.jl (by rw[show oH m e p=_ from bw m1])):aj (iu (im (m*2^((e-(jv m e p)).toNat)))) (iu (im (oH m e p)))),tB 10 (by simp[sr,m1]:more=(sr m e more p))]))
    (λm1=>ae [.v 29 (.bool (bB m1)),iL ((jv m e p)-e) aC,.o 43 (aq ((jv m e p)-e) (((jv m e p)-e).toNat:Int) aC),.c (OP m (((jv m e p)-e).toNat:Nat) aC aC)]<|.w (more=true)
     (λm2=>ae [tB 48 m2]<|.e (af [.o 9 (.e (.jl (by rw[show oH m e p=_ from bu m1])):aj (iu (im (m/2^(((jv m e p)-e).toNat)))) (iu (im (oH m e p)))),tB 10 (by simp[sr,m1,m2]:true=(sr m e more p))]))
     (λm2=>ae [tB 48 (bk m2)]<|.e (af [.o 9 (.e (.jl (by rw[show oH m e p=_ from bu m1])):aj (iu (im (m/2^(((jv m e p)-e).toNat)))) (iu (im (oH m e p)))),tB 10 (by simp[sr,m1,m2]:(decide (m%2^(((jv m e p)-e).toNat)≠0))=(sr m e more p))])))),ag [iu (im (oH m e p))] (tf _ aC),iL ((iD (oH m e p):Int)+(jv m e p)) aC]<|.w (16384<((iD (oH m e p):Int)+(jv m e p)))
   (λk1=>by
    have w1:=(wC.resolve_left (λh=>absurd k1 aC)).2.resolve_left (λh=>absurd h.1 aE);have hd:oz (canon false ((1*2^p)-1) (16384-(p:Int))):=by rw[ct,<-w1.2.1];exact(sN false m e more p false aC aC).range
    have g0:iD (1*2^p)=p+1:=by rw[ct];exact y8 (bD _) (ig aE aC)
    have g1:(im 1).length<=256:=pQ aE;have g2:(im (1*2^p)).length<=256:=pQ aC;have g4:1<=1*2^p:=by rw[ct];exact bJ aE 
    have g3:(im ((1*2^p)-1)).length<=256:=pQ (by have:=wY (gH (1*2^p) 1);omega);exact ae [tB 66 (bA k1),.o 70 (.e yO:aj PI (iu (im 1))),.c (wO 1 p aC aC aC),.o 73 (.e yO:aj PI (iu (im 1))),ag [iu (im (1*2^p)),iu (im 1)] (GD _ _ aC aC aC),iL (16384-(p:Int)) aC,ag [bP false,iu (im ((1*2^p)-1)),iP (16384-(p:Int))] (B8 _ _ _ aC aC aC aD)]<|rQ (.iE [iA (canon false ((1*2^p)-1) (16384-(p:Int))),iP 0]) (.iE [iA (ku false m e more p false),iP (j9 false m e more p false)]) (by rw[w1.2.1,w1.2.2,ct]))
   (λk1=>by
    have w1:=wC.resolve_right (λh=>k1 h.1);have hd:oz (canon false (oH m e p) (jv m e p)):=by rw[<-w1.2.1];exact(sN false m e more p false aC aC).range
    exact ae [tB 66 (bB k1),ag [bP false,iu (im (oH m e p)),iP (jv m e p)] (B8 _ _ _ aC aC aC aD)]<|rQ (.iE [iA (canon false (oH m e p) (jv m e p)),iP 0]) (.iE [iA (ku false m e more p false),iP (j9 false m e more p false)]) (by rw[w1.2.1,w1.2.2]))) 
def ahZ(up:Bool)(p:Nat)(iB:8<=p)(iw:p<=512):ik 285 [.agg [iu (im 0),iP 0,bP false],iP (p:Int),bP up] (.iE [iA (ku false 0 0 false p up),iP (j9 false 0 0 false p up)]):=by
 have hU:jv 0 0 p = -(p:Int):=by unfold jv;rw[sM];omega
 have hK:jY 0 0 p=0:=by unfold jY;rw[sM];omega
 have hQ:lr 0 0 false p up=0:=by unfold lr;rw[hK];simp
 have hO:mC 0 0 false p up=false:=by unfold mC;rw[hQ];simp
 have qc:(false != up)=up:=by cases up<;>rfl
 have k2:ku false 0 0 false p up=iS:=by unfold ku;rw[qc,hO,bu aE,hQ];rfl
 have k3:j9 false 0 0 false p up=0:=by unfold j9;rw[qc,hO];rfl
 have lz:iD 0=0:=rfl;have l0:(im 0).length<=256:=by rw[px];decide
 have l1:(im (0*2^(0-jv 0 0 p).toNat)).length<=256:=by rw[c9];exact l0
 have lb:iD (0*2^(0-jv 0 0 p).toNat)=0:=by rw[c9];rfl
 have hd:oz (canon false (0*2^(0-jv 0 0 p).toNat) (jv 0 0 p)):=by rw[c9];exact .inl rfl
 by_cases TN:up=true
 .exact ak call285 func285 (ae [ag [iu (im 0)] (tf _ aC),iL (0+(iD 0:Int)) aC,iL ((0+(iD 0:Int))-(p:Int)) aC,.o 21 (aq (if(-16384)>((0+(iD 0:Int))-(p:Int))then(-16384)else((0+(iD 0:Int))-(p:Int))) (jv 0 0 p) (by unfold jv;rw[sM];split<;>omega)),tT 29 ((jv 0 0 p)<=0) aC,iL (0-(jv 0 0 p)) aC,.o 35 (aq (0-(jv 0 0 p)) ((0-(jv 0 0 p)).toNat:Int) aC),.c (wO 0 ((0-(jv 0 0 p)).toNat:Nat) aC aC aC),ah 52 up TN,ag [KC p] (tf _ aC),
   iL ((iD (0*2^((0-(jv 0 0 p)).toNat)):Int)+(jv 0 0 p)) aC,tF 66 (16384<((iD (0*2^((0-(jv 0 0 p)).toNat)):Int)+(jv 0 0 p))) aC,ag [bP false,KC p,iP (jv 0 0 p)] (B8 _ _ _ aC aC aC aD)]<|rQ (.iE [iA (canon false (0*2^((0-(jv 0 0 p)).toNat)) (jv 0 0 p)),iP 0]) (.iE [iA (ku false 0 0 false p up),iP (j9 false 0 0 false p up)]) (by rw[k2,k3,c9];rfl)) 
 .exact ak call285 func285 (ae [ag [iu (im 0)] (tf _ aC),iL (0+(iD 0:Int)) aC,iL ((0+(iD 0:Int))-(p:Int)) aC,.o 21 (aq (if(-16384)>((0+(iD 0:Int))-(p:Int))then(-16384)else((0+(iD 0:Int))-(p:Int))) (jv 0 0 p) (by unfold jv;rw[sM];split<;>omega)),tT 29 ((jv 0 0 p)<=0) aC,iL (0-(jv 0 0 p)) aC,.o 35 (aq (0-(jv 0 0 p)) ((0-(jv 0 0 p)).toNat:Int) aC),.c (wO 0 ((0-(jv 0 0 p)).toNat:Nat) aC aC aC),ai 52 up (by simpa using TN),ag [KC p] (tf _ aC),
   iL ((iD (0*2^((0-(jv 0 0 p)).toNat)):Int)+(jv 0 0 p)) aC,tF 66 (16384<((iD (0*2^((0-(jv 0 0 p)).toNat)):Int)+(jv 0 0 p))) aC,ag [bP false,KC p,iP (jv 0 0 p)] (B8 _ _ _ aC aC aC aD)]<|rQ (.iE [iA (canon false (0*2^((0-(jv 0 0 p)).toNat)) (jv 0 0 p)),iP 0]) (.iE [iA (ku false 0 0 false p up),iP (j9 false 0 0 false p up)]) (by rw[k2,k3,c9];rfl)) 
def EA(m:Nat)(e:Int)(more up:Bool)(p:Nat)(h1:(im m).length<=256)(h0:m≠0\/m=0/\e=0/\more=false)(iB:8<=p)(iw:p<=512)(mP:-45000<=e)(lW:e<=45000)(hm:more=true->p<iD m):ik 285 [.agg [iu (im m),iP e,bP more],iP (p:Int),bP up] (.iE [iA (ku false m e more p up),iP (j9 false m e more p up)]):=by
 rcases h0 with h0|⟨rfl,rfl,rfl⟩
 .exact ahY m e more up p h1 h0 iB iw mP lW hm
 .exact ahZ up p iB iw
def pT(p:Int):Bool:=decide (8<=p)&&decide (p<=512)
def uI{p:Int}:pT p=true↔8<=p/\p<=512:=by simp[pT]
def vG(p:Int):ik 144 [iP p] (bP (pT p)):=by
 by_cases h:8<=p
 .exact ak call144 func144 (ae [tB 4 (bA h)]<|rQ (bP (decide (p<=512))) (bP (pT p)) (by simp[pT,h])) 
 .exact ak call144 func144 (ae [tB 4 (bB h)]<|rQ (bP false) (bP (pT p)) (by simp[pT,h])) 
def ah2(p:Int):ik 281 [iP p] (bP (pT p)):=by
 by_cases h:8<=p
 .exact ak call281 func281 (ae [tB 4 (bA h)]<|rQ (bP (decide (p<=512))) (bP (pT p)) (by simp[pT,h])) 
 .exact ak call281 func281 (ae [tB 4 (bB h)]<|rQ (bP false) (bP (pT p)) (by simp[pT,h])) 
def Wx(l:List Dy)(p:Nat)(i:Nat):PS:=⟨20,true,[(9,.e (iP i)),(8,.e (iP l.length)),(7,.e (nZ l)),(0,.e (iP p))],[]⟩
def GX(neg:Bool)(m:Nat)(e:Int)(more up:Bool)(p:Nat)(h1:(im m).length<=256)(h0:m≠0\/m=0/\e=0/\more=false)(iB:8<=p)(iw:p<=512)(mP:-45000<=e)(lW:e<=45000)(hm:more=true->p<iD m):ik 250 [bP neg,.agg [iu (im m),iP e,bP more],iP p,bP up] (.iE [iA (ku neg m e more p up),iP (j9 neg m e more p up)]):=by
 cases neg with
 |true=>
  have hs:=Ru true m e more p up;change _/\(j9 false m e more p (!(up==true))=0->_->iK (ku false m e more p (!(up==true)))=_)/\((j9 false m e more p (!(up==true))≠0\/_)->ku false m e more p (!(up==true))=_)at hs;have hE:j9 true m e more p up=j9 false m e more p (!(up==true)):=hs.1;have hv:=sN false m e more p (!(up==true)) (aC:1<=p) aC;by_cases hz:j9 false m e more p (!(up==true))=0
  .exact ak call250 func250 (ae [ag [.agg [iu (im m),iP e,bP more],iP p,bP (!(up==true))] (EA _ _ _ _ _ aC aD aC aC aC aC aD),ah 22 ((j9 false m e more p (!(up==true)))==0) (by rw[hz];rfl),ag [iA (ku false m e more p (!(up==true)))] (um _ aD)]<|rQ (.iE [iA (iK (ku false m e more p (!(up==true)))),iP (j9 false m e more p (!(up==true)))]) (.iE [iA (ku true m e more p up),iP (j9 true m e more p up)]) (by rw[hs.2.1 hz rfl,hE])) 
  .exact ak call250 func250 (ae [ag [.agg [iu (im m),iP e,bP more],iP p,bP (!(up==true))] (EA _ _ _ _ _ aC aD aC aC aC aC aD),ai 22 ((j9 false m e more p (!(up==true)))==0) (by simpa using hz)]<|rQ (.iE [iA (ku false m e more p (!(up==true))),iP (j9 false m e more p (!(up==true)))]) (.iE [iA (ku true m e more p up),iP (j9 true m e more p up)]) (by rw[hs.2.2 (.inl hz),hE])) 
 |false=>
  have hs:=Ru false m e more p up;change _/\(j9 false m e more p (!(up==false))=0->_->iK (ku false m e more p (!(up==false)))=_)/\((j9 false m e more p (!(up==false))≠0\/_)->ku false m e more p (!(up==false))=_)at hs;have hE:j9 false m e more p up=j9 false m e more p (!(up==false)):=hs.1;have hv:=sN false m e more p (!(up==false)) (aC:1<=p) aC;by_cases hz:j9 false m e more p (!(up==false))=0
  .exact ak call250 func250 (ae [ag [.agg [iu (im m),iP e,bP more],iP p,bP (!(up==false))] (EA _ _ _ _ _ aC aD aC aC aC aC aD),ah 22 ((j9 false m e more p (!(up==false)))==0) (by rw[hz];rfl)]<|rQ (.iE [iA (ku false m e more p (!(up==false))),iP (j9 false m e more p (!(up==false)))]) (.iE [iA (ku false m e more p up),iP (j9 false m e more p up)]) (by rw[hs.2.2 (.inr rfl),hE])) 
  .exact ak call250 func250 (ae [ag [.agg [iu (im m),iP e,bP more],iP p,bP (!(up==false))] (EA _ _ _ _ _ aC aD aC aC aC aC aD),ai 22 ((j9 false m e more p (!(up==false)))==0) (by simpa using hz)]<|rQ (.iE [iA (ku false m e more p (!(up==false))),iP (j9 false m e more p (!(up==false)))]) (.iE [iA (ku false m e more p up),iP (j9 false m e more p up)]) (by rw[hs.2.2 (.inl hz),hE])) 
def ah1(d:Dy):ik 282 [iA d] (.agg [iu (im d.m),iP d.e,bP false]):=
 ak call282 func282 (.nil) 
def Wy(p:Nat)(l:List Dy)(hl:l.length<=1000)(hv:∀ i,i<l.length->(l.getD i iS).iy)(iB:8<=p)(iw:p<=512):ik 247 [iP p,nZ l] (iP 0):=
 ak call247 func247 (af [.s (Sp.kE (Wx l p) 0 l.length aC (λi hi rF=>by
    have TU:=hv i rF;exact jh (af [tT 10 ((i:Int)<l.length) aC,iX (i:Int) (l.length) aC,ag [iA (l.getD i iS)] (q7 _ aD),iL ((i:Int)+1) aC]) aF)
  (λhi=>by
    exact jh (af [tF 10 ((l.length:Int)<l.length) aC]) aF) aI:kD 2 f247 (Wx l p 0) (.exit 0) ⟨20,true,[(0,.e (iP p))],[]⟩) .nil,ag [iP p] (ah2 _),ah 18 (pT (p:Int)) (uI.2 ⟨aC,aC⟩)]) 
def OO(p:Nat)(a:Dy)(ha:a.iy)(iB:8<=p)(iw:p<=512):ik 247 [iP (p:Int),nZ [a]] (iP 0):=
 Wy p [a] aH (λi hi=>(match i,hi with
  | 0,_=>ha
  |n+1,hi=>absurd hi aH)) iB iw
def xH(p:Nat)(a b:Dy)(ha:a.iy)(hb:b.iy)(iB:8<=p)(iw:p<=512):ik 247 [iP (p:Int),nZ [a,b]] (iP 0):=
 Wy p [a,b] aH (λi hi=>(match i,hi with
  | 0,_=>ha
  | 1,_=>hb
  |n+2,hi=>absurd hi aH)) iB iw
def J5(d:Dy)(p:Nat)(up:Bool)(hd:d.iy)(iB:8<=p)(iw:p<=512):ik 248 [iA d,iP p,bP up] (.iE [iA (iM d p up),iP (jP d p up)]):=by
 have hl:=hd.im;have hz:d.m≠0\/d.m=0/\d.e=0/\false=false:=by
  by_cases h:d.m=0
  .rcases hd.canon with q|q
   .exact .inr ⟨h,q.2.2,rfl⟩
   .omega
  .exact .inl h
 have Jt:-45000<=d.e:=by have:=hd.exp;omega
 have vC:d.e<=45000:=by have:=hd.exp;omega
 have hm:false=true->p<iD d.m:=λh=>by cases h
 exact ak call248 func248 (af [.o 11 (.e (LM _):aj (.sl true 1 3 λi_ j_=>(iR d).getD (i_*3+j_) (.v (.bool false))) (nZ [d])),ag [iP p,nZ [d]] (OO _ _ aD aC aC),ai 14 ((0:Int) != 0) aE,.c (ah1 d),.c (GX d.neg d.m d.e false up p aC aD aC aC aC aC aD)]) 
def DE{a b:Nat}:lf a b<0↔a<b:=by
 unfold lf;split
 .simp_all
 .split<;>simp_all
def J6(a b:Dy)(p:Nat)(ha:a.iy)(hb:b.iy)(a0:a.m≠0)(b0:b.m≠0)(ht:b.iI<=a.iI)(iB:8<=p)(iw:p<=512):ik 249 [iA a,iA b,iP p] (.iE [.agg [iu (im (mn a b p)),iP (jy a b p),bP (nK a b p)],bP (pV a b p)]):=by
 have sz:=Kt ha hb a0 b0 ht iw;have sp:=Pv ha hb a0 b0 ht iw;obtain⟨l1,l2,l3,l4,l5,l6,l7,l8,l9⟩:=sz;obtain⟨l10,l11,l12⟩:=sp;obtain⟨r1,r2,r3⟩:=O4 a b p;have va:=ha.im;have vb:=hb.im;have xa:=ha.exp;have xb:=hb.exp;have ta:=Hn a0;have tb:=Hn b0;have ba:=Fg va;have bb:=Fg vb;have z1:(im (a.m*2^((a.e-(jy a b p)).toNat))).length<=256:=pQ (aC:iD (oA a b p)<=_);have zy:(im (mY b (jy a b p))).length<=256:=pQ aC;have z3:(im (mX a b p)).length<=256:=pQ aC;have zm:(im (mn a b p)).length<=256:=pQ aC;have z5:(im 1).length<=256:=pQ aE;exact ak call249 func249 (ae [ag [iA a] (pr _ aD),iL ((Dy.iI a)-(p:Int)) aC,iL (((Dy.iI a)-(p:Int))-8) aC,ag [iA a] (pr _ aD),ag [iA b] (pr _ aD),iL ((Dy.iI a)-(Dy.iI b)) aC,.j 62 ⟨109,true,[(8,.e (iP (jy a b p))),(6,.box 6 0),(4,.box 4 0),(3,.box 3 0)],[(6,.cells 215 [.v (.slice none 0 0),iP 0,bP false]),(4,.cells 31 (iR b)),(3,.cells 31 (iR a))]⟩
   (.w (((Dy.iI a)-(Dy.iI b))<=2)
    (λm1=>ae [.v 31 (.bool (bA m1))]<|.e (af [.o 8 (aq (if b.e<(if(((Dy.iI a)-(p:Int))-8)<a.e then(((Dy.iI a)-(p:Int))-8)else a.e)then b.e else(if(((Dy.iI a)-(p:Int))-8)<a.e then(((Dy.iI a)-(p:Int))-8)else a.e)) (jy a b p) (by unfold jy;rw[bw m1];split<;>split<;>omega))]))
    (λm1=>ae [.v 31 (.bool (bB m1))]<|.e (af [.o 8 (aq (if(((Dy.iI a)-(p:Int))-8)<a.e then(((Dy.iI a)-(p:Int))-8)else a.e) (jy a b p) (by unfold jy;rw[bu m1];split<;>omega))]))),
  iL (a.e-(jy a b p)) aC,.o 41 (aq (a.e-(jy a b p)) ((a.e-(jy a b p)).toNat:Int) aC),.c (wO a.m ((a.e-(jy a b p)).toNat) aC aC aC),.j 92 ⟨109,true,[(10,.e (iu (im (mY b (jy a b p))))),(11,.e (bP (og b (jy a b p)))),(9,.e (iu (im (a.m*2^((a.e-(jy a b p)).toNat))))),(8,.e (iP (jy a b p))),(6,.box 6 0),(4,.box 4 0),(3,.box 3 0)],[(6,.cells 215 [.v (.slice none 0 0),iP 0,bP false]),(4,.cells 31 (iR b)),(3,.cells 31 (iR a))]⟩
   (.w ((jy a b p)<=b.e)
    (λm1=>by
     have z2:(im (b.m*2^((b.e-(jy a b p)).toNat))).length<=256:=by have:=zy;rwa[show mY b (jy a b p)=_ from bw m1]at this
     exact ae [.v 46 (.bool (bA m1)),iL (b.e-(jy a b p)) aC,.o 52 (aq (b.e-(jy a b p)) ((b.e-(jy a b p)).toNat:Int) aC),.c (wO b.m ((b.e-(jy a b p)).toNat) aC aC aC)]<|.e (af [.o 10 (.e (.jl (by rw[show mY b (jy a b p)=_ from bw m1])):aj (iu (im (b.m*2^((b.e-(jy a b p)).toNat)))) (iu (im (mY b (jy a b p))))),tB 11 (by simp[og,m1]:false=(og b (jy a b p)))]))
    (λm1=>ae [.v 46 (.bool (bB m1)),iL ((jy a b p)-b.e) aC,.o 60 (aq ((jy a b p)-b.e) (((jy a b p)-b.e).toNat:Int) aC),.c (OP b.m (((jy a b p)-b.e).toNat) aC aC)]<|.e (af [.o 10 (.e (.jl (by rw[show mY b (jy a b p)=_ from bu m1])):aj (iu (im (b.m/2^(((jy a b p)-b.e).toNat)))) (iu (im (mY b (jy a b p))))),tB 11 (by simp[og,m1]:(decide (b.m%2^(((jy a b p)-b.e).toNat)≠0))=(og b (jy a b p)))])))]<|.w (a.neg=b.neg)
  (λk1=>by
   have eT:pV a b p=false:=by unfold pV;simp[k1]
   have eY:mX a b p=mY b (jy a b p):=by unfold mX;simp[k1]
   have eM:mn a b p=oA a b p+mY b (jy a b p):=by unfold mn;rw[bw k1,eY]
   have eS:nK a b p=og b (jy a b p):=by unfold nK;rw[eT];simp
   have z4:(im ((a.m*2^((a.e-(jy a b p)).toNat))+mY b (jy a b p))).length<=256:=by have:=zm;rwa[eM]at this
   exact ae [tB 68 (bj k1),ag [iu (im (a.m*2^((a.e-(jy a b p)).toNat))),iu (im (mY b (jy a b p)))] (JG _ _ aC aC aC)]<|rQ (.iE [.agg [iu (im ((a.m*2^((a.e-(jy a b p)).toNat))+(mY b (jy a b p)))),iP (jy a b p),bP (og b (jy a b p))],bP false]) (.iE [.agg [iu (im (mn a b p)),iP (jy a b p),bP (nK a b p)],bP (pV a b p)]) (by rw[eM,eS,eT];rfl))
  (λk1=>ae [tB 68 (bh k1),.j 158 ⟨109,true,[(10,.e (iu (im (mX a b p)))),(11,.e (bP (og b (jy a b p)))),(9,.e (iu (im (a.m*2^((a.e-(jy a b p)).toNat))))),(8,.e (iP (jy a b p))),(6,.box 6 0)],[(6,.cells 215 [.v (.slice none 0 0),iP 0,bP false])]⟩
   (.w (og b (jy a b p)=true)
    (λm1=>by
     have z6:(im ((mY b (jy a b p))+1)).length<=256:=pQ (by rw[show(mY b (jy a b p))+1=mX a b p by(unfold mX;simp[k1,m1])];omega);exact ae [.v 79 (.bool m1),.o 82 (.e yO:aj (.sl false 1 1 λi_ j_=>[.v (.int .u32 1)].getD (i_*1+j_) (.v (.bool false))) (iu (im 1))),ag [iu (im (mY b (jy a b p))),iu (im 1)] (JG _ _ aC aC aC)]<|.e (af [.o 10 (.e (.jl (by unfold mX;simp[k1,m1])):aj (iu (im ((mY b (jy a b p))+1))) (iu (im (mX a b p))))]))
    (λm1=>ae [.v 79 (.bool (bk m1))]<|.e (af [.o 10 (.e (.jl (by unfold mX;simp[k1,m1])):aj (iu (im (mY b (jy a b p)))) (iu (im (mX a b p))))]))),ag [iu (im (a.m*2^((a.e-(jy a b p)).toNat))),iu (im (mX a b p))] (z8 _ _ aC aC)]<|.w ((lf (a.m*2^((a.e-(jy a b p)).toNat)) (mX a b p))<0)
   (λk2=>by
    have hc:oA a b p<mX a b p:=DE.1 k2;have eT:pV a b p=true:=by unfold pV;simp[k1,hc]
    have eM:mn a b p=mX a b p-oA a b p:=by unfold mn;rw[bu k1,bw hc]
    have eS:nK a b p=false:=by unfold nK;rw[eT];simp
    have z4:(im (mX a b p-(a.m*2^((a.e-(jy a b p)).toNat)))).length<=256:=by have:=zm;rwa[eM]at this
    have z7:(a.m*2^((a.e-(jy a b p)).toNat))<=mX a b p:=dR hc;exact ae [tB 89 (bA k2),ag [iu (im (mX a b p)),iu (im (a.m*2^((a.e-(jy a b p)).toNat)))] (GD _ _ aC aC aC)]<|rQ (.iE [.agg [iu (im ((mX a b p)-(a.m*2^((a.e-(jy a b p)).toNat)))),iP (jy a b p),bP false],bP true]) (.iE [.agg [iu (im (mn a b p)),iP (jy a b p),bP (nK a b p)],bP (pV a b p)]) (by rw[eM,eS,eT];rfl))
   (λk2=>by
    have hc:¬oA a b p<mX a b p:=λh=>k2 (DE.2 h)
    have eT:pV a b p=false:=by unfold pV;simp[hc]
    have eM:mn a b p=oA a b p-mX a b p:=by unfold mn;rw[bu k1,bu hc]
    have eS:nK a b p=og b (jy a b p):=by unfold nK;rw[eT];simp
    have z4:(im ((a.m*2^((a.e-(jy a b p)).toNat))-mX a b p)).length<=256:=by have:=zm;rwa[eM]at this
    have z7:mX a b p<=(a.m*2^((a.e-(jy a b p)).toNat)):=Nat.le_of_not_lt hc;exact ae [tB 89 (bB k2),ag [iu (im (a.m*2^((a.e-(jy a b p)).toNat))),iu (im (mX a b p))] (GD _ _ aC aC aC)]<|rQ (.iE [.agg [iu (im ((a.m*2^((a.e-(jy a b p)).toNat))-(mX a b p))),iP (jy a b p),bP (og b (jy a b p))],bP false]) (.iE [.agg [iu (im (mn a b p)),iP (jy a b p),bP (nK a b p)],bP (pV a b p)]) (by rw[eM,eS,eT];rfl)))) 
def BI(p:Nat)(up:Bool):iM iS p up=iS/\jP iS p up=0:=by
 have hK:jY 0 0 p=0:=by unfold jY;rw[sM];omega
 have hQ:∀ o,lr 0 0 false p o=0:=by intro o;unfold lr;rw[hK];simp
 have hO:∀ o,mC 0 0 false p o=false:=by intro o;unfold mC;rw[hQ];simp
 unfold iM jP ku j9;simp only[iS,hO,hQ];exact⟨rfl,rfl⟩
def Wt(a b:Dy)(p:Nat)(up:Bool)(ha:a.iy)(hb:b.iy)(iB:8<=p)(iw:p<=512):ik 203 [iA a,iA b,iP p,bP up] (.iE [iA (iM (iG a b) p up),iP (jP (iG a b) p up)]):=by
 by_cases a0:a.m=0
 .have e1:iG a b=b:=by unfold iG;rw[bw a0]
  exact ak call203 func203 (ae [.o 16 (.e (w9 _ _):aj (.sl true 2 3 λi_ j_=>(iR a++iR b).getD (i_*3+j_) (.v (.bool false))) (nZ [a,b])),ag [iP p,nZ [a,b]] (xH _ _ _ aD aD aC aC),ai 19 ((0:Int) != 0) aE,ah 26 (((im a.m).length:Int)==0) (vL (yJ.2 a0)),.c (J5 b p up aD aC aC)]<|rQ (.iE [iA (iM b p up),iP (jP b p up)]) (.iE [iA (iM (iG a b) p up),iP (jP (iG a b) p up)]) (by rw[e1])) 
 .by_cases b0:b.m=0
  .have e1:iG a b=a:=by unfold iG;rw[bu a0,bw b0]
   exact ak call203 func203 (ae [.o 16 (.e (w9 _ _):aj (.sl true 2 3 λi_ j_=>(iR a++iR b).getD (i_*3+j_) (.v (.bool false))) (nZ [a,b])),ag [iP p,nZ [a,b]] (xH _ _ _ aD aD aC aC),ai 19 ((0:Int) != 0) aE,ai 26 (((im a.m).length:Int)==0) (pz (q9 a0)),ah 37 (((im b.m).length:Int)==0) (vL (yJ.2 b0)),.c (J5 a p up aD aC aC)]<|rQ (.iE [iA (iM a p up),iP (jP a p up)]) (.iE [iA (iM (iG a b) p up),iP (jP (iG a b) p up)]) (by rw[e1])) 
  .by_cases ht:a.iI<b.iI
   .have sZ:a.iI<=b.iI:= aC ;have law:=Yf (p:=p) hb ha b0 a0 up;have siz:=Kt hb ha b0 a0 sZ iw;have prt:=Pv hb ha b0 a0 sZ iw;obtain⟨l1,l2,_,_,_,_,_,_,_⟩:=siz;have z1:(im (mn b a p)).length<=256:=pQ aC;have sV:=prt.2.2;have y1:-45000<=jy b a p:= aC ;have y2:jy b a p<=45000:= aC ;by_cases hz:mn b a p=0
    .by_cases hl:nK b a p=true
     .have h0:mn b a p≠0:=by intro q;have:=sV hl;rw[q,sM]at this;omega
      exact absurd hz h0
     .replace hz:mn b a p=0/\nK b a p=false:=⟨hz,by simpa using hl⟩
      have D7:iG a b=iS:=by rw[Yd a0 b0];exact law.1 hz
      exact ak call203 func203 (ae [.o 16 (.e (w9 _ _):aj (.sl true 2 3 λi_ j_=>(iR a++iR b).getD (i_*3+j_) (.v (.bool false))) (nZ [a,b])),ag [iP p,nZ [a,b]] (xH _ _ _ aD aD aC aC),ai 19 ((0:Int) != 0) aE,ai 26 (((im a.m).length:Int)==0) (pz (q9 a0)),ai 37 (((im b.m).length:Int)==0) (pz (q9 b0)),ag [iA a] (pr _ aD),ag [iA b] (pr _ aD),tB 48 (bA ht),.c (J6 b a p aD aD aD aD aD aC aC),ah 61 (((im (mn b a p)).length:Int)==0) (vL (yJ.2 hz.1)),ai 64 (nK b a p) hz.2,.o 67 (.e Au:aj (.agg ar) (iA iS))]<|rQ (.iE [iA iS,iP 0]) (.iE [iA (iM (iG a b) p up),iP (jP (iG a b) p up)]) (by rw[D7,(BI p up).1,(BI p up).2])) 
    .have h0:mn b a p≠0\/mn b a p=0/\jy b a p=0/\nK b a p=false:=.inl hz;obtain⟨q1,q2⟩:=law.2 (λq=>hz q.1);rw[<-Yd a0 b0]at q1 q2;exact ak call203 func203 (ae [.o 16 (.e (w9 _ _):aj (.sl true 2 3 λi_ j_=>(iR a++iR b).getD (i_*3+j_) (.v (.bool false))) (nZ [a,b])),ag [iP p,nZ [a,b]] (xH _ _ _ aD aD aC aC),ai 19 ((0:Int) != 0) aE,ai 26 (((im a.m).length:Int)==0) (pz (q9 a0)),ai 37 (((im b.m).length:Int)==0) (pz (q9 b0)),ag [iA a] (pr _ aD),ag [iA b] (pr _ aD),tB 48 (bA ht),.c (J6 b a p aD aD aD aD aD aC aC),ai 61 (((im (mn b a p)).length:Int)==0) (pz (q9 hz)),.c (GX (! (b.neg==(pV b a p))) (mn b a p) (jy b a p) (nK b a p) up p aC aD aC aC aC aC aD)]<|rQ (.iE [iA (ku (!(b.neg==(pV b a p))) (mn b a p) (jy b a p) (nK b a p) p up),iP (j9 (!(b.neg==(pV b a p))) (mn b a p) (jy b a p) (nK b a p) p up)]) (.iE [iA (iM (iG a b) p up),iP (jP (iG a b) p up)]) (by rw[<-q1,<-q2];rfl)) 
   .have sZ:b.iI<=a.iI:= aC ;have law:=Yf (p:=p) ha hb a0 b0 up;have siz:=Kt ha hb a0 b0 sZ iw;have prt:=Pv ha hb a0 b0 sZ iw;obtain⟨l1,l2,_,_,_,_,_,_,_⟩:=siz;have z1:(im (mn a b p)).length<=256:=pQ aC;have sV:=prt.2.2;have y1:-45000<=jy a b p:= aC ;have y2:jy a b p<=45000:= aC ;by_cases hz:mn a b p=0
    .by_cases hl:nK a b p=true
     .have h0:mn a b p≠0:=by intro q;have:=sV hl;rw[q,sM]at this;omega
      exact absurd hz h0
     .replace hz:mn a b p=0/\nK a b p=false:=⟨hz,by simpa using hl⟩
      have D7:iG a b=iS:=by exact law.1 hz
      exact ak call203 func203 (ae [.o 16 (.e (w9 _ _):aj (.sl true 2 3 λi_ j_=>(iR a++iR b).getD (i_*3+j_) (.v (.bool false))) (nZ [a,b])),ag [iP p,nZ [a,b]] (xH _ _ _ aD aD aC aC),ai 19 ((0:Int) != 0) aE,ai 26 (((im a.m).length:Int)==0) (pz (q9 a0)),ai 37 (((im b.m).length:Int)==0) (pz (q9 b0)),ag [iA a] (pr _ aD),ag [iA b] (pr _ aD),tB 48 (bB ht),.c (J6 a b p aD aD aD aD aD aC aC),ah 61 (((im (mn a b p)).length:Int)==0) (vL (yJ.2 hz.1)),ai 64 (nK a b p) hz.2,.o 67 (.e Au:aj (.agg ar) (iA iS))]<|rQ (.iE [iA iS,iP 0]) (.iE [iA (iM (iG a b) p up),iP (jP (iG a b) p up)]) (by rw[D7,(BI p up).1,(BI p up).2])) 
    .have h0:mn a b p≠0\/mn a b p=0/\jy a b p=0/\nK a b p=false:=.inl hz;obtain⟨q1,q2⟩:=law.2 (λq=>hz q.1);exact ak call203 func203 (ae [.o 16 (.e (w9 _ _):aj (.sl true 2 3 λi_ j_=>(iR a++iR b).getD (i_*3+j_) (.v (.bool false))) (nZ [a,b])),ag [iP p,nZ [a,b]] (xH _ _ _ aD aD aC aC),ai 19 ((0:Int) != 0) aE,ai 26 (((im a.m).length:Int)==0) (pz (q9 a0)),ai 37 (((im b.m).length:Int)==0) (pz (q9 b0)),ag [iA a] (pr _ aD),ag [iA b] (pr _ aD),tB 48 (bB ht),.c (J6 a b p aD aD aD aD aD aC aC),ai 61 (((im (mn a b p)).length:Int)==0) (pz (q9 hz)),.c (GX (! (a.neg==(pV a b p))) (mn a b p) (jy a b p) (nK a b p) up p aC aD aC aC aC aC aD)]<|rQ (.iE [iA (ku (!(a.neg==(pV a b p))) (mn a b p) (jy a b p) (nK a b p) p up),iP (j9 (!(a.neg==(pV a b p))) (mn a b p) (jy a b p) (nK a b p) p up)]) (.iE [iA (iM (iG a b) p up),iP (jP (iG a b) p up)]) (by rw[<-q1,<-q2];rfl)) 
def Wz(a b:Dy)(p:Nat)(up:Bool)(ha:a.iy)(hb:b.iy)(iB:8<=p)(iw:p<=512):ik 291 [iA a,iA b,iP p,bP up] (.iE [iA (iM (mW a b) p up),iP (jP (mW a b) p up)]):=by
 by_cases a0:a.m=0
 .have e1:mW a b=iS:=by unfold mW;rw[a0,c9];rfl
  exact ak call291 func291 (ae [.o 16 (.e (w9 _ _):aj (.sl true 2 3 λi_ j_=>(iR a++iR b).getD (i_*3+j_) (.v (.bool false))) (nZ [a,b])),ag [iP p,nZ [a,b]] (xH _ _ _ aD aD aC aC),ai 19 ((0:Int) != 0) aE,ah 25 (((im a.m).length:Int)==0) (vL (yJ.2 a0)),.o 32 (.e Au:aj (.agg ar) (iA iS))]<|rQ (.iE [iA iS,iP 0]) (.iE [iA (iM (mW a b) p up),iP (jP (mW a b) p up)]) (by rw[e1,(BI p up).1,(BI p up).2])) 
 .by_cases b0:b.m=0
  .have e1:mW a b=iS:=by unfold mW;rw[b0,dg];rfl
   exact ak call291 func291 (ae [.o 16 (.e (w9 _ _):aj (.sl true 2 3 λi_ j_=>(iR a++iR b).getD (i_*3+j_) (.v (.bool false))) (nZ [a,b])),ag [iP p,nZ [a,b]] (xH _ _ _ aD aD aC aC),ai 19 ((0:Int) != 0) aE,ai 25 (((im a.m).length:Int)==0) (pz (q9 a0)),ah 30 (((im b.m).length:Int)==0) (vL (yJ.2 b0)),.o 32 (.e Au:aj (.agg ar) (iA iS))]<|rQ (.iE [iA iS,iP 0]) (.iE [iA (iM (mW a b) p up),iP (jP (mW a b) p up)]) (by rw[e1,(BI p up).1,(BI p up).2])) 
  .have va:=ha.im;have vb:=hb.im;have xa:=ha.exp;have xb:=hb.exp;have ra:=ha.range.resolve_left a0;have rb:=hb.range.resolve_left b0;have bm:=aas a.m b.m;have z1:(im (a.m*b.m)).length<=256:=pQ aC;have m0:a.m*b.m≠0:=dW a0 b0;have h0:a.m*b.m≠0\/a.m*b.m=0/\a.e+b.e=0/\false=false:=.inl m0;have hm:false=true->p<iD (a.m*b.m):=λh=>by cases h
   obtain⟨q1,q2⟩:=WM (a.neg != b.neg) up (a.m*b.m) (a.e+b.e) p m0;change iM (mW a b) p up=_ at q1;change jP (mW a b) p up=_ at q2;exact ak call291 func291 (ae [.o 16 (.e (w9 _ _):aj (.sl true 2 3 λi_ j_=>(iR a++iR b).getD (i_*3+j_) (.v (.bool false))) (nZ [a,b])),ag [iP p,nZ [a,b]] (xH _ _ _ aD aD aC aC),ai 19 ((0:Int) != 0) aE,ai 25 (((im a.m).length:Int)==0) (pz (q9 a0)),ai 30 (((im b.m).length:Int)==0) (pz (q9 b0)),ag [iu (im a.m),iu (im b.m)] (Ab _ _ aC aC aC),iL (a.e+b.e) aC,.c (GX (! (a.neg==b.neg)) (a.m*b.m) (a.e+b.e) false up p aC aD aC aC aC aC aD)]<|rQ (.iE [iA (ku (!(a.neg==b.neg)) (a.m*b.m) (a.e+b.e) false p up),iP (j9 (!(a.neg==b.neg)) (a.m*b.m) (a.e+b.e) false p up)]) (.iE [iA (iM (mW a b) p up),iP (jP (mW a b) p up)]) (by rw[q1,q2];rfl)) 
def Ws(a b:Dy)(p:Nat)(ha:a.iy)(hb:b.iy)(iB:8<=p)(iw:p<=512):ik 145 [iA a,iA b,iP p] (.iE [iA (iM (iG a b) p false),iP (jP (iG a b) p false)]):=
 ak call145 func145 (af [.c (Wt a b p false aD aD aC aC)]) 
def C4(a b:Dy)(p:Nat)(ha:a.iy)(hb:b.iy)(iB:8<=p)(iw:p<=512):ik 136 [iA a,iA b,iP p] (.iE [iA (iM (iG a b) p true),iP (jP (iG a b) p true)]):=
 ak call136 func136 (af [.c (Wt a b p true aD aD aC aC)]) 
def J3(a b:Dy)(p:Nat)(ha:a.iy)(hb:b.iy)(iB:8<=p)(iw:p<=512):ik 254 [iA a,iA b,iP p] (.iE [iA (iM (mW a b) p false),iP (jP (mW a b) p false)]):=
 ak call254 func254 (af [.c (Wz a b p false aD aD aC aC)]) 
def J4(a b:Dy)(p:Nat)(ha:a.iy)(hb:b.iy)(iB:8<=p)(iw:p<=512):ik 255 [iA a,iA b,iP p] (.iE [iA (iM (mW a b) p true),iP (jP (mW a b) p true)]):=
 ak call255 func255 (af [.c (Wz a b p true aD aD aC aC)]) 
end Go.Proofs.YtgdahmmlddfimaaGreatDoor
namespace Go.Proofs.YtgdahmmlddfimaaGreatDoor.Fp
def afB{U V P q:Nat}(hP:0<P)(hV:9223372036854775808<=V/P)(hUV:U<4294967296*V)(h1:q<=4294967295)(h2:q<=U/P/(V/P))(h3:q=4294967295\/U/P/(V/P)<=q):
 U/V<=q/\q<=U/V+1:=by
 have MA:0<V/P:= aC ;have xg:0<V:=by
  apply ck;intro h;have:V=0:= aC ;rw[this,Nat.zero_div]at MA;omega
 have hVm:=cV V P;have hVr:=bS V hP;have hUm:=cV U P;have hUr:=bS U hP;constructor
 .
  rcases h3 with h3|h3
  .have:U/V<4294967296:=by rw[cS xg];exact hUV
   omega
  .refine bI ?_ h3;rw[dB MA,dB hP,bN];have h4:V/P*P<=V:=dC V P;exact bI (cW _ h4) (dC U V)
 .
  have h4:q*(V/P)<=U/P:=(dB MA).1 h2;have h5:q*V<=q*(V/P)*P+q*P:=by
   have:V<=V/P*P+P:=by rw[bR];omega
   have:=cW q this;rw[b9,<-bN]at this;exact this
  have h6:q*(V/P)*P<=U:=bI (bW P h4) (dC U P);have h7:(q+1)*P<=V/P*P:=bW P aC;have h8:V/P*P<=V:=dC V P;have h9:q*V<U+V:=by
   rw[cj,ct]at h7;omega
  apply ck;intro h;have rU:(U/V+2)*V<=q*V:=bW V aC;have r9:=cV U V;have h12:=bS U xg;rw[cj,bR (U/V)]at rU;omega
def abX{x v w third q rest:Nat}(hx:q*v+rest=x)(hq:q<=4294967295)(hw:w<4294967296)(hv:0<v)
 (h:4294967296<=rest\/q*w<=rest*4294967296+third):q<=(x*4294967296+third)/(v*4294967296+w):=by
 rw[dB aC,b9,<-hx];have e:q*(v*4294967296)=q*v*4294967296:=by rw[bN]
 rw[e,cj];rcases h with h|h
 .have h1:q*w<=4294967295*4294967295:=dQ hq aC ;omega
 .omega
def RA{x v w third q rest:Nat}(hx:q*v+rest=x)(hv:0<v)(h:rest*4294967296+third<q*w):
 (x*4294967296+third)/(v*4294967296+w)<=q-1/\0<q/\(q-1)*v+(rest+v)=x:=by
 have hq:0<q:=by
  apply ck;intro h';have:q=0:= aC ;subst this;rw[c9]at h;omega
 obtain⟨r,rfl⟩:∃ r,q=r+1:=⟨q-1,aC⟩
 refine⟨?_,hq,?_⟩
 .have e1:(r+1)*(v*4294967296+w)=(r+1)*v*4294967296+(r+1)*w:=by rw[b9,<-bN]
  have e2:((r+1)*v+rest)*4294967296=(r+1)*v*4294967296+rest*4294967296:=cj _ _ _;have:(x*4294967296+third)/(v*4294967296+w)<r+1:=by
   have hd:0<v*4294967296+w:= aC ;have e4:x*4294967296=(r+1)*v*4294967296+rest*4294967296:=hx▸e2;refine(cS hd).2 ?_;rw[e1,e4];clear e1 e2 e4 hd hx hq;generalize (r+1)*v=a at *
   generalize (r+1)*w=z at *
   exact Nat.add_lt_add_left h _|>λh=>by rw[<-dt]at h;exact h
  omega
 .have e3:(r+1)*v=r*v+v:=amK r v;rw[fh];rw[e3]at hx;clear e3 h hq;generalize r*v=a at *
  omega
def abZ{x v w third:Nat}(hv:0<v)(ht:third<4294967296):(x*4294967296+third)/(v*4294967296+w)<=x/v:=by
 have h1:(x*4294967296+third)/(v*4294967296+w)<=(x*4294967296+third)/(v*4294967296):=amL aC aC;refine bI h1 ?_;rw[bR v,<-dL];have:(x*4294967296+third)/4294967296=x:= aC ;rw[this];exact bD _
structure xS(O0:List Nat)(j q:Nat)(V:List Nat)(k:Nat)(O:List Nat)(c b:Nat):Prop where
 len:O.length=O0.length
 ok:iY O
 vl:val O+q*(4294967296^j*val (V.take k))=val O0+4294967296^(j+k)*(c+b)
 qJ:∀ i,j+k<=i->O.getD i 0=O0.getD i 0
 Q0:c<4294967296
 QK:b<=1
def xS.start{O0:List Nat}(h:iY O0)(j q:Nat)(V:List Nat):xS O0 j q V 0 O0 0 0:=
 ⟨rfl,h,by simp[val],λ_ _=>rfl,aE,aE⟩
def akz{q y c b u:Nat}(hq:q<=4294967295)(hy:y<4294967296)(hc:c<4294967296)(hb:b<=1)(hu:u<4294967296):
 q*y+c<18446744073709551616/\(q*y+c)/4294967296<4294967296 /\
 ((u+18446744073709551616-(q*y+c)%4294967296-b)%18446744073709551616)/9223372036854775808<=1 /\
 ((u+18446744073709551616-(q*y+c)%4294967296-b)%18446744073709551616)%4294967296+(q*y+c)%4294967296+b =
  u+4294967296*(((u+18446744073709551616-(q*y+c)%4294967296-b)%18446744073709551616)/9223372036854775808):=by
 have h1:q*y<=4294967295*4294967295:=dQ hq aC;generalize q*y=z at *
 omega
def xS.step{O0 V O:List Nat}{j q k c b:Nat}(h:xS O0 j q V k O c b){u' b':Nat}(hk:k<V.length)(hj:j+V.length<O0.length)(hu:u'<4294967296)(hc:(q*V.getD k 0+c)/4294967296<4294967296)(hb:b'<=1)
 (hd:u'+(q*V.getD k 0+c)%4294967296+b=O.getD (j+k) 0+4294967296*b'):
 xS O0 j q V (k+1) (O.set (j+k) u') ((q*V.getD k 0+c)/4294967296) b':=by
 have qF:j+k<O.length:=by rw[h.len];omega
 refine⟨by rw[dA];exact h.len,h.ok.set _ hu,?_,λi hi=>?_,hc,hb⟩
 .have e:=fi (q*V.getD k 0+c) 4294967296;have h1:=Di (x:=u') qF;have h2:=h.vl;have h3:u'+(q*V.getD k 0+c)+b=O.getD (j+k) 0+4294967296*((q*V.getD k 0+c)/4294967296+b'):= aC ;have h4:=congrArg (4294967296^(j+k) * ·) h3;simp only[b9]at h4;rw[BW,b9 (4294967296^j),b9 q,<-bN (4294967296^j),<-bH,show q*(4294967296^(j+k)*V.getD k 0)=4294967296^(j+k)*(q*V.getD k 0)from eC _ _ _,
   show j+(k+1)=j+k+1 from rfl,bQ,bN,b9 4294967296,b9 (4294967296^(j+k))]
  rw[b9]at h2;omega
 .rw [AX aC];exact h.qJ i aC 
def xS.NL{O0 V O:List Nat}{j q c b:Nat}(h:xS O0 j q V V.length O c b)(hj:j+V.length<O0.length){t:Nat}
 (ht:t=(O.getD (j+V.length) 0+18446744073709551616-c-b)%18446744073709551616):
 (O.set (j+V.length) (t%4294967296)).length=O0.length/\iY (O.set (j+V.length) (t%4294967296))/\t/9223372036854775808<=1 /\
 val (O.set (j+V.length) (t%4294967296))+q*(4294967296^j*val V)=val O0+4294967296^(j+V.length+1)*(t/9223372036854775808) /\
 ∀ i,j+V.length<i->(O.set (j+V.length) (t%4294967296)).getD i 0=O0.getD i 0:=by
 have qF:j+V.length<O.length:=by rw[h.len];omega
 have hc:=h.Q0;have hb:=h.QK;have hu:=h.ok.getD (j+V.length);have hd:t%4294967296+c+b=O.getD (j+V.length) 0+4294967296*(t/9223372036854775808):= aC ;refine⟨by rw[dA];exact h.len,h.ok.set _ (bS _ aE),aC,?_,λi hi=>by rw[AX aC];exact h.qJ i aC⟩;have h1:=Di (x:=t%4294967296) qF;have h2:=h.vl;rw[eD]at h2;have h4:=congrArg (4294967296^(j+V.length) * ·) hd;simp only[b9]at h4;rw[bQ,bN];rw[b9]at h2;omega
structure xQ(O0:List Nat)(j:Nat)(V:List Nat)(k:Nat)(O:List Nat)(c:Nat):Prop where
 len:O.length=O0.length
 ok:iY O
 vl:val O+4294967296^(j+k)*c=val O0+4294967296^j*val (V.take k)
 qJ:∀ i,j+k<=i->O.getD i 0=O0.getD i 0
 Lq:c<=1
def xQ.start{O0:List Nat}(h:iY O0)(j:Nat)(V:List Nat):xQ O0 j V 0 O0 0:=
 ⟨rfl,h,by simp[val],λ_ _=>rfl,aE⟩
def xQ.step{O0 V O:List Nat}{j k c:Nat}(h:xQ O0 j V k O c)(hV:iY V)(hk:k<V.length)(hj:j+V.length<O0.length):
 xQ O0 j V (k+1) (O.set (j+k) ((O.getD (j+k) 0+V.getD k 0+c)%4294967296)) ((O.getD (j+k) 0+V.getD k 0+c)/4294967296):=by
 have qF:j+k<O.length:=by rw[h.len];omega
 have hu:=h.ok.getD (j+k);have hy:=hV.getD k;have hc:=h.Lq;refine⟨by rw[dA];exact h.len,h.ok.set _ (bS _ aE),?_,λi hi=>by rw[AX aC];exact h.qJ i aC,aC⟩;have h1:=Di (x:=(O.getD (j+k) 0+V.getD k 0+c)%4294967296) qF;have h2:=h.vl;have h4:=congrArg (4294967296^(j+k) * ·) (fi (O.getD (j+k) 0+V.getD k 0+c) 4294967296);simp only[b9]at h4;rw[BW,b9 (4294967296^j),<-bN (4294967296^j),<-bH,show j+(k+1)=j+k+1 from rfl,bQ,bN];omega
def xQ.NL{O0 V O:List Nat}{j c:Nat}(h:xQ O0 j V V.length O c)(hj:j+V.length<O0.length):
 (O.set (j+V.length) ((O.getD (j+V.length) 0+c)%4294967296)).length=O0.length/\iY (O.set (j+V.length) ((O.getD (j+V.length) 0+c)%4294967296)) /\
 (∃ κ,κ<=1/\val (O.set (j+V.length) ((O.getD (j+V.length) 0+c)%4294967296))+4294967296^(j+V.length+1)*κ=val O0+4294967296^j*val V) /\
 ∀ i,j+V.length<i->(O.set (j+V.length) ((O.getD (j+V.length) 0+c)%4294967296)).getD i 0=O0.getD i 0:=by
 have qF:j+V.length<O.length:=by rw[h.len];omega
 have hu:=h.ok.getD (j+V.length);have hc:=h.Lq;refine⟨by rw[dA];exact h.len,h.ok.set _ (bS _ aE),⟨(O.getD (j+V.length) 0+c)/4294967296,aC,?_⟩,λi hi=>by rw[AX aC];exact h.qJ i aC⟩;have h1:=Di (x:=(O.getD (j+V.length) 0+c)%4294967296) qF;have h2:=h.vl;rw[eD]at h2;have h4:=congrArg (4294967296^(j+V.length) * ·) (fi (O.getD (j+V.length) 0+c) 4294967296);simp only[b9]at h4;rw[bQ,bN];omega
def YF{O:List Nat}(h:iY O){k:Nat}(hz:∀ i,k<=i->O.getD i 0=0):val O<4294967296^k:=by
 by_cases hk:O.length<=k
 .exact bX (oX h) (bY aE hk)
 .rw [EW O k aC];have:val (O.drop k)=0:=by
   rw[Hq];intro x hx;obtain⟨i,hi⟩:=dI.1 hx;rw[dN]at hi;have:=hz (k+i) aC;rw[bC,hi]at this;exact this
  rw[this,dg,ch];have h1:=oX (h.take k);rw[cF,dE aC]at h1;exact h1
def akR{O:List Nat}(h:iY O){k:Nat}(hv:val O<4294967296^k){i:Nat}(hi:k<=i):O.getD i 0=0:=by
 have h1:val (O.drop k)=0:=by rw[Hp h,dx hv]
 rw[Hq]at h1;rw[bC];cases hg:O[i]? with
 |none=>rfl
 |some x=>exact h1 x (dI.2 ⟨i-k,by rw[dN,(aC:k+(i-k)=i)];exact hg⟩)
def RB{u u' V P x:Nat}(hP:0<P)(hV:0<V)(h:u'+x*(P*V)=u)(hx:u/P/V<=x):x=u/P/V/\u'<V*P:=by
 have h1:x*V<=u/P:=by
  rw[dB hP,bN,bR V P];omega
 have h2:x<=u/P/V:=(dB hV).2 h1;have h3:x=u/P/V:= aC ;refine⟨h3,?_⟩;have e1:=cV u P;have e2:=bS u hP;have e3:=cV (u/P) V;have e4:=bS (u/P) hV;rw[<-h3]at e3;have e5:P*(u/P)=x*(P*V)+P*(u/P%V):=by
  rw[<-e3,b9,e3,bR V x,eC]
 have e6:P*(u/P%V)+P<=V*P:=by
  rw[bR V P,<-Nat.mul_succ];exact cW P e4
 omega
def abY{u u' u'' V P R x κ:Nat}(hP:0<P)(hV:0<V)(h:u'+x*(P*V)=u+R)(h':u'<R)(hx:x<=u/P/V+1)
 (hk:κ<=1) (h2:u''+R*κ=u'+P*V) (h3:u''<R):0<x/\x-1=u/P/V/\u''+(x-1)*(P*V)=u/\u''<V*P:=by
 have oE:u/P<x*V:=by
  rw[cS hP,bN,bR V P];omega
 have Jt:u/P/V<x:=by rw[cS hV];exact oE
 have vC:x=u/P/V+1:=Nat.le_antisymm hx Jt;obtain⟨y,hy⟩:∃ y,y=u/P/V:=⟨_,rfl⟩
 rw[<-hy]at vC;subst vC;rw[fh];have e0:(y+1)*(P*V)=y*(P*V)+P*V:=amK _ _;have e1:y*(P*V)<=u:=by
  have:y*V<=u/P:=by rw[hy];exact dC _ _
  have:=(dB hP).1 this;rw[bN,bR V P]at this;exact this
 have hκ:κ=1:=by
  apply ck;intro q;obtain rfl:κ=0:= aC ;omega
 subst hκ;have e2:u''+y*(P*V)=u:= aC ;exact⟨aC,hy,e2,(RB hP hV e2 aC).2⟩
def tI(q rest third v w x:Nat):Prop:=rest+x*v<4294967296/\(rest+x*v)*4294967296+third<(q-x)*w
def Ry{X q rest third v w:Nat}(hx:q*v+rest=X)(hq:q<=4294967295)(hv:2147483648<=v)(hw:w<4294967296):
 ∃ N,N<=2/\N<=q/\(∀ x,x<N->tI q rest third v w x)/\¬tI q rest third v w N/\q-N<=(X*4294967296+third)/(v*4294967296+w)/\(N=0\/(X*4294967296+third)/(v*4294967296+w)<=q-N):=by
 have stop:∀ {q' r':Nat},q'*v+r'=X->q'<=4294967295->¬(r'<4294967296/\r'*4294967296+third<q'*w)->q'<=(X*4294967296+third)/(v*4294967296+w):=fun {q' r'} h1 h2 h3=>
  abX h1 h2 hw aC (by
   by_cases hr:4294967296<=r'
   .exact .inl hr
   .refine .inr (Nat.le_of_not_lt λhn=>h3 ⟨Nat.lt_of_not_le hr,hn⟩))
 by_cases h0:tI q rest third v w 0
 .have g0:=h0;unfold tI at g0;rw[c9,ch,dP]at g0;obtain⟨k1,k2,k3⟩:=RA hx aC g0.2;by_cases h1:tI q rest third v w 1
  .have g1:=h1;unfold tI at g1;rw[ct]at g1;obtain⟨l1,l2,l3⟩:=RA k3 aC g1.2;have h2:¬tI q rest third v w 2:=λh=>by unfold tI at h;omega
   refine⟨2,bD _,aC,λx hx=>?_,h2,?_,.inr l1⟩
   .obtain rfl|rfl:x=0\/x=1:= aC 
    .exact h0
    .exact h1
   .refine stop (r':=rest+v+v) l3 aC λh=> aC 
  .refine ⟨1,aE,k2,λx hx=>?_,h1,?_,.inr k1⟩
   .obtain rfl:x=0:= aC ;exact h0
   .unfold tI at h1;rw[ct]at h1;exact stop k3 aC h1
 .refine ⟨0,aE,cz _,λx hx=>absurd hx (bF x),h0,?_,.inl rfl⟩;unfold tI at h0;rw[c9,ch,dP]at h0;exact stop hx hq h0
def acb{a b s q r:Nat}(hb:0<b)(h:r+b*2^s*q=a*2^s)(hr:r<b*2^s):q=a/b/\r=a%b*2^s:=by
 have hp:0<2^s:=bJ aE;have h1:r%2^s=0:=by
  have:=congrArg (· % 2^s) h;simp only[gT]at this;rw[bN,eC,eK]at this;exact this
 obtain⟨t,ht⟩:∃ t,r=t*2^s:=⟨r/2^s,by rw[Nat.div_mul_cancel (Nat.dvd_of_mod_eq_zero h1)]⟩
 subst ht;have h2:(t+b*q)*2^s=a*2^s:=by rw[cj,<-h,gR]
 have h3:=anm hp h2;have h4:t<b:=ano hr;constructor
 .rw [<-h3,fH _ _ hb,dx h4,cD]
 .rw [<-h3,eK,cH h4]
def Yr{O:List Nat}(h:iY O){j n:Nat}(hn:2<=n)(hz:∀ i,j+n<i->O.getD i 0=0):
 val O/4294967296^j/4294967296^(n-2)=(O.getD (j+n) 0*4294967296+O.getD (j+n-1) 0)*4294967296+O.getD (j+n-2) 0:=by
 rw[dL,<-bH,<-Hp h];have e:∀ (l:List Nat),iY l->(∀ i,2<i->l.getD i 0=0)->val l=(l.getD 2 0*4294967296+l.getD 1 0)*4294967296+l.getD 0 0:=by
  intro l hl hz;rcases l with _|⟨a,_|⟨b,_|⟨c,l⟩⟩⟩
  .rfl
  .simp [val]
  .simp [val];omega
  .have:val l=0:=by
    rw[Hq];intro x hx;obtain⟨i,hi⟩:=dI.1 hx;have:=hz (i+3) aC;rw[bC]at this;simp only[amW,hi]at this;exact this
   simp[val,this];omega
 have g:∀ i,(O.drop (j+(n-2))).getD i 0=O.getD (j+(n-2)+i) 0:=λi=>by
  rw[bC,dN,bC]
 rw[e _ (h.drop _) (λi hi=>by rw[g];exact hz _ aC),g,g,g];rw[(aC:j+(n-2)+2=j+n),(aC:j+(n-2)+1=j+n-1),(aC:j+(n-2)+0=j+n-2)]
def akP{V:List Nat}(h:iY V){n:Nat}(hn:2<=n)(hl:V.length=n):val V/4294967296^(n-2)=V.getD (n-1) 0*4294967296+V.getD (n-2) 0:=by
 have:=Yr (O:=V) h (j:=0) (n:=n) hn (λi hi=>by rw[bC,cE aC];rfl);rw[cT,fW,cD]at this;rw[this,show V.getD n 0=0 by rw[bC,cE aC];rfl];omega
end Go.Proofs.YtgdahmmlddfimaaGreatDoor.Fp
namespace Go.Proofs.YtgdahmmlddfimaaGreatDoor
open Go.RowKit Fp
def Rx(w:World)(b:Nat)(L:List Nat)(R:List Value):Prop:=w.heap[b]? = some (.cells (oM L++R).toArray 171 (0,0))
section
variable {w w':World} {b:Nat} {L:List Nat} {R:List Value}
def Rx.lt(h:Rx w b L R):b<w.heap.size:=(du.1 h).1
def Rx.cell(h:Rx w b L R){i:Nat}(hi:i<L.length):w.cell? ⟨b,i,none⟩=some (.int .u32 (L.getD i 0:Int)):=by
 unfold Rx at h;simp only[World.cell?,h];simp[oM,hi,er]
def Rx.frozen(h:Rx w b L R)(i:Nat):w.frozen? ⟨b,i,none⟩=false:=by
 unfold Rx at h;simp[World.frozen?,h]
def Rx.set(h:Rx w b L R){i:Nat}(hi:i<L.length)(x:Nat):Rx (w.setCell ⟨b,i,none⟩ (.int .u32 (x:Int))) b (L.set i x) R:=by
 unfold Rx at h ⊢;simp only[World.setCell,fJ,h];simp[oM,List.map_set,List.set_append,hi]
def Rx.qJ(h:Rx w b L R)(hb:w'.heap[b]? = w.heap[b]?):Rx w' b L R:=by unfold Rx at h ⊢;rw[hb];exact h
end
structure tu(b:Nat)(w w':World):Prop where
 below:Below b w w'
 size:w'.heap.size=w.heap.size
 pg:∀ x,x≠b->w'.heap[x]? = w.heap[x]?
def tu.refl(b:Nat)(w:World):tu b w w:=⟨Below.refl _ _,rfl,λ_ _=>rfl⟩
def tu.Ha{b:Nat}{w w':World}(h:tu b w w')(i:Nat)(v:Value):tu b w (w'.setCell ⟨b,i,none⟩ v):=
 ⟨h.below.setCell (p:=⟨b,i,none⟩) (bD _) v,by
  have:(w'.setCell ⟨b,i,none⟩ v).heap.size=w'.heap.size:=by simp[World.setCell]
  rw[this,h.size],λx hx=>by
  rw[<-h.pg x hx];simp only[World.setCell,fJ];rw[bu (λe=>hx e.symm)]⟩
def PT(b:Nat)(A:Option Addr):Prop:=∀ b' o s,A=some ⟨b',o,s⟩->b'≠b
def Sl.pg{w w':World}{A:Option Addr}{c b:Nat}{L:List Nat}(h:Sl w A c L)(ha:PT b A)(ho:tu b w w'):Sl w' A c L:=
 ⟨h.cap,h.rH,h.ok,h.yM,λi x hx=>by
  obtain⟨b',o,e,h1,h2⟩:=h.cell i x hx;refine⟨b',o,e,by rw[ho.size];exact h1,?_⟩;rw[<-h2];exact(World.cell?_of_block (w:=w) (w':=w') (ho.pg b' (ha _ _ _ e)))⟩
def YU{u m b:Nat}(hm:m<4294967296)(hb:b<=4294967296):
 IntKind.u64.wrap (IntKind.u64.wrap ((u:Int)-m)-(b:Int))=(((u+18446744073709551616-m-b)%18446744073709551616:Nat):Int):=by
 rw[IntKind.wrap_u64,IntKind.wrap_u64];omega
def aky(b j cu c q:Nat)(O V:List Nat)(R:List Value)(A:Option Addr)(w:World)(hu:Rx w b O R)(hv:Sl w A c V)(hA:PT b A)(mv:iY O)(hj:j+V.length<O.length)(hq:q<=4294967295)(hl:O.length<=1000000):
 Calls prog 338 #[.slice (some ⟨b,j,none⟩) (V.length+1) cu,.slice A V.length c,.int .u64 q] w λe w'=>∃ (O':List Nat) (δ:Nat),e = .returned (.bool (decide (δ=1)))/\Rx w' b O' R/\O'.length=O.length/\iY O'/\δ<=1 /\
  val O'+q*(4294967296^j*val V)=val O+4294967296^(j+V.length+1)*δ/\(∀ i,j+V.length<i->O'.getD i 0=O.getD i 0)/\tu b w w':=by
 obtain⟨n,hn⟩:∃ n,n=V.length:=⟨_,rfl⟩
 rw[<-hn]at hj ⊢;have HN:=anv hn;have HJ:=anv hj;clear hn;have jQ:n<=1000000:= aC ;have Tk:j<=1000000:= aC ;clear hj;have HT0:=anv (xS.start mv j q V);clear mv;have HO:=anv (tu.refl b w);have HU:=anv hu;clear hu;go_enter func338,ntmps338;go_wp2;go_loopw [7,8,9,10,11,12,16] (λcy bo _ _ _ _ i wr=>∃ (k c' b':Nat) (O':List Nat),k<=n/\i = .int .i64 k/\cy = .int .u64 c'/\bo = .int .u64 b'/\xS O j q V k O' c' b'/\Rx wr b O' R/\tu b w wr) (λ_ _ _ _ _ _ i _=>n-(intOf i).toNat)
 case atStart=>
  exact⟨0,0,0,O,cz _,rfl,rfl,rfl,HT0.out,HU.out,HO.out⟩
 case round=>
  obtain⟨k,c',b',O',hk,rfl,rfl,rfl,ht,hR,ho⟩:=hrel;clear HT0 HO HU;have HTk:=anv ht;have kR:=ht.QK;have Ba:=ht.Q0;have HOl:=anv ht.len;clear ht;have Nk:=hv.pg hA ho;by_cases iJ:k<n
  .have zE:k<V.length:=by rw[<-HN.out];exact iJ
   obtain⟨ab,ao,e1,_,c1⟩:=Nk.nc zE;have rG:V.getD k 0<4294967296:=hv.ok.getD k;have T5:V[k]=V.getD k 0:=by simp[bC,zE]
   rw[T5]at c1;have qF:j+k<O'.length:=by rw[HOl.out];have:=HJ.out;omega
   have c2:=hR.cell qF;have c3:=hR.frozen (j+k);have Gc:O'.getD (j+k) 0<4294967296:=HTk.out.ok.getD _;obtain⟨vz,kZ,F8,TE⟩:=akz hq rG Ba kR Gc;have HST:=anv (HTk.out.step (b':=((O'.getD (j+k) 0+18446744073709551616-(q*V.getD k 0+c')%4294967296-b')%18446744073709551616)/9223372036854775808) zE (by rw[<-HN.out];exact HJ.out) (bS _ aE) kZ F8 TE);have HRS:=anv (λx:Nat=>hR.set qF x);have HOS:=anv (λ(v:Value)=>ho.Ha (j+k) v);clear hR ho HTk qF T5 zE TE HOl Nk;subst e1;have pv:q*V.getD k 0<=4294967295*4294967295:=dQ hq aC;have Cz:IntKind.u64.wrap ((q:Int)*(V.getD k 0:Int))=((q*V.getD k 0:Nat):Int):=by rw[<-fD];exact sH _ aC 
   generalize V.getD k 0=y at *
   generalize q*y=z at *
   have Nl:IntKind.u64.wrap ((z:Int)+c')=((z+c':Nat):Int):=by rw[<-Int.natCast_add];exact sH _ aC 
   generalize O'.getD (j+k) 0=u at *
   generalize z+c'=s at *
   have amq:bits .and .u64 (s:Int) 4294967295=((s%4294967296:Nat):Int):=by rw[Fa s aC];omega
   have amp:s%4294967296<4294967296:=bS _ aE;have hd:(s:Int)/4294967296=((s/4294967296:Nat):Int):= aC ;generalize s%4294967296=m at *
   generalize s/4294967296=s2 at *
   have hsb:=YU (u:=u) (m:=m) (b:=b') aC aC;generalize (u+18446744073709551616-m-b')%18446744073709551616=t at *
   have zz:(j:Int)+k=((j+k:Nat):Int):= aC ;go_wp2;go_roundw
   case rel=>
    have e1:((t:Int)%4294967296)=((t%4294967296:Nat):Int):= aC ;exact⟨k+1,s2,t/9223372036854775808,O'.set (j+k) (t%4294967296),aC,by go_num,by go_num,by go_num,HST.out,by rw[e1];exact HRS.out _,HOS.out _⟩
   case measure=>simp[intOf];omega
  .obtain rfl:k=n:= aC ;have MW:j+k<O.length:=HJ.out;have HTk':=anv (show xS O j q V V.length O' c' b' by rw[<-HN.out];exact HTk.out);have HL:=HTk'.out.NL (t:=(O'.getD (j+k) 0+18446744073709551616-c'-b')%18446744073709551616) (by rw[<-HN.out];exact MW) (by rw[<-HN.out]);rw[<-HN.out]at HL;have HT:=anv HL;clear HL;have qF:j+k<O'.length:=by rw[HOl.out];exact MW
   have c2:=hR.cell qF;have c3:=hR.frozen (j+k);have Gc:O'.getD (j+k) 0<4294967296:=HTk.out.ok.getD _;have HRS:=anv (λx:Nat=>hR.set qF x);have HOS:=anv (λ(v:Value)=>ho.Ha (j+k) v);clear hR ho HTk HTk' qF MW HOl Nk;generalize O'.getD (j+k) 0=u at *
   have hsb:=YU (u:=u) (m:=c') (b:=b') Ba aC;have htl:(u+18446744073709551616-c'-b')%18446744073709551616<18446744073709551616:=bS _ aE;generalize (u+18446744073709551616-c'-b')%18446744073709551616=t at *
   have zz:(j:Int)+k=((j+k:Nat):Int):= aC ;go_wp2;go_ret;have e1:((t:Int)%4294967296)=((t%4294967296:Nat):Int):= aC ;obtain⟨t1,t2,t3,t4,t5⟩:=HT.out;exact⟨O'.set (j+k) (t%4294967296),t/9223372036854775808,Kb (a:=(((t:Int)/9223372036854775808)==1)) (by rw[fc,beq_iff_eq,ij];omega),by rw[e1];exact HRS.out _,t1,t2,t3,t4,t5,HOS.out _⟩
def VR(A:Option Addr)(c:Nat)(L:List Nat)(n:Nat)(w:World)(hs:Sl w A c L)(hlen:L.length<=100000000)(hn:n<=65536):
 Calls prog 293 #[.slice A L.length c,.int .i64 n] w (λe w'=>∃ T v,e = .returned v/\val T=val L*2^n/\T.length=n/32+(iT L).length+1/\Ow w' w.heap.size v T/\ja w w'):=by
 have hT:=anv (vK A c L w hs);have kZ:=hs.uN;have oD:=pW L;have hC:=kZ.cap;have hL:=hs.rH;unfold mT at oD;have hv:=anv (qv L);generalize iT L=M at *
 obtain⟨m,hm⟩:∃ m,m=M.length:=⟨_,rfl⟩
 rw[<-hm]at hT oD hC;have HM:=anv hm;clear hm;have wq:=Vk (n/32) (n/32+m+1) aC aC;rw[show((n/32:Nat):Int)=n/32 by omega,show((n/32+m+1:Nat):Int)=n/32+m+1 by omega]at wq;have Ms:=anv (Ow.Bq w w.heap.size (n/32) (n/32+m+1) (bD _) aC aC);go_enter func293,ntmps293;go_wp2_with fail;refine hT.out.mono ?_;rintro e w' ⟨rfl,rfl⟩;go_wp2;go_loopw [5,6,23] (λv cy i wr=>∃ (k q:Nat) (O:List Nat),k<=m/\i = .int .i64 k/\cy = .int .u64 q/\q<2^(n%32)/\O.length=n/32+k/\val O+4294967296^(n/32+k)*q=val (M.take k)*2^(n%32)*4294967296^(n/32)/\Ow wr w.heap.size v O/\ja w wr) (λ_ _ i _=>m-(intOf i).toNat)
 case atStart=>
  exact⟨0,0,List.replicate (n/32) 0,cz _,rfl,rfl,bJ aE,aH,by simp[Dh],Ms.out,ja.alloc _ _⟩
 case round=>
  obtain⟨k,q,O,hk,rfl,rfl,hq,hO,my,oQ,hb⟩:=hrel;have HV:=anv my;have HO:=anv hO;have SG:O.length<=200000000:= aC ;have zG:=anv hq;clear my hO hq;obtain⟨OA,Oc,rfl,Cq⟩:=oQ.sl;by_cases iJ:k<m
  .have Cm:k<M.length:=by have:=HM.out;omega
   obtain⟨ab,ao,rfl,_,c1⟩:=(kZ.below hb).nc Cm;have nV:M[k]<4294967296:=kZ.ok.get Cm;have HX:=anv (XO (c:=q) (s:=n%32) (n0:=n/32) Cm HO.out HV.out);generalize M[k]=x at *
   obtain⟨hw,yB,zL⟩:=XP x q (n%32) nV (bS _ aE) zG.out;generalize x*2^(n%32)+q=z at *
   have Gg:=anv zL;clear zL;have mQ:O.length+[z%4294967296].length<=10000000000:= aN ;go_wp2_with (at_builtin;go_must (refine At aG _ _ aG w.heap.size _ O aG (oQ.alloc _) _ _ _ [z%4294967296] aG aG (Sl.Ep _ _ (z%4294967296) aC aC) mQ (xz hb.size _) ?_);intro v' w1 xn hg sT)
   go_roundw
   case rel=>
    exact⟨k+1,z/4294967296,O++[z%4294967296],aC,by go_num,by go_num,Gg.out,by rw[cg,HO.out];rfl,HX.out,xn,(hb.trans (ja.alloc _ _)).own _ _ (oQ.alloc _) hg⟩
   case measure=>simp[intOf];omega
  .obtain rfl:k=m:= aC ;have mQ:O.length+[q].length<=10000000000:= aN ;have aeH:q<4294967296:=by
    have:=zG.out;have hp:2^(n%32)<=2^31:=bY aE aC;have e31:(2:Nat)^31=2147483648:= aE ;omega
   have hqm:(q:Int)%4294967296=q:= aC ;go_wp2_with (at_builtin;go_must (refine At aG _ _ aG w.heap.size _ O aG (oQ.alloc _) _ _ _ [q] aG aG (Sl.Ep _ _ q aC aC) mQ (xz hb.size _) ?_);intro v' w1 xn hg sT)
   go_ret;refine⟨O++[q],v',rfl,?_,by rw[cg,HO.out,<-HM.out];rfl,xn,(hb.trans (ja.alloc _ _)).own _ _ (oQ.alloc _) hg⟩;have h:=HV.out;rw[dk (by rw[HM.out];exact bD _)]at h;rw[BV,HO.out,sI,KE,dg,ch,h,<-hv.out,uG,bN,<-bH];congr 2;omega
end Go.Proofs.YtgdahmmlddfimaaGreatDoor
namespace Go.Proofs.YtgdahmmlddfimaaGreatDoor.Fp
def po(n k:Nat):Nat:=n/4294967296^k%4294967296
def LF(n k:Nat):po n k<4294967296:=bS _ aE 
def abW(k:Nat):po 0 k=0:=by unfold po;rw[Nat.zero_div]
def pw(k:Nat):0<4294967296^k:=bJ aE 
def IX{L:List Nat}(h:iY L)(k:Nat):L.getD k 0=po (val L) k:=by
 unfold po;rw[<-Hp h];by_cases hk:k<L.length
 .rw [fI hk,show val (L[k]::L.drop (k+1))=L[k]+4294967296*val (L.drop (k+1))from rfl,eK,cH (h.get hk)];simp[bC,hk]
 .rw [eN aC,bC,cE aC];rfl
def mod_succ(n k:Nat):n%4294967296^(k+1)=n%4294967296^k+4294967296^k*po n k:=by
 rw[bQ,Nat.mod_mul];rfl
def pq(n m:Nat):List Nat:=(List.range m).map (po n)
def AO(n m:Nat):(pq n m).length=m:=by simp[pq]
def Fw(n m:Nat):iY (pq n m):=λx hx=>by
 obtain⟨k,_,rfl⟩:=dG.1 hx;exact LF n k
def ab1{n m k:Nat}(h:k<m):(pq n m).getD k 0=po n k:=by
 simp[pq,bC,h]
def ab0(m i:Nat):(pq 0 m).getD i 0=0:=by
 by_cases h:i<m
 .rw [ab1 h,abW]
 .rw [bC,cE (by rw[AO];omega)];rfl
def ab2(n m:Nat):pq n (m+1)=pq n m++[po n m]:=by simp[pq,List.range_succ]
def Ho(n m:Nat):val (pq n m)=n%4294967296^m:=by
 induction m with
 |zero=>simp[pq,val];omega
 |succ m ih=>
  rw[ab2,BV,ih,AO,mod_succ];rfl
def alq{L M:List Nat}(hL:iY L)(hM:iY M)(hl:L.length=M.length)(hv:val L=val M):L=M:=by
 apply gM hl;intro i h1 h2;have e1:=IX hL i;have e2:=IX hM i;rw[hv,<-e2]at e1;simpa[bC,h1,h2]using e1
def ab3{L:List Nat}(h:iY L):pq (val L) L.length=L:=
 alq (Fw _ _) h (AO _ _) (by rw[Ho,cH (oX h)])
def LG{L:List Nat}{n m:Nat}(h:iY L)(hl:L.length=m)(hv:val L=n):pq n m=L:=by subst hl hv;exact ab3 h
def pR(a b k m:Nat):List Nat:=(List.range m).map λj=>if j<k then po a j else po b j
def agq(a b k m:Nat):(pR a b k m).length=m:=by simp[pR]
def ags(a b m:Nat):pR a b 0 m=pq b m:=by simp[pR,pq]
def agp{a b k m:Nat}(h:m<=k):pR a b k m=pq a m:=by
 unfold pR pq;exact fv λj hj=>bw (bX (cC.1 hj) h)
def amz{a b k m:Nat}:(pR a b k m).set k (po a k)=pR a b (k+1) m:=by
 apply gM
 .simp [pR]
 .intro j h1 h2;have hj:j<m:=by simpa[pR]using h2
  rw[List.getElem_set];by_cases h:k=j
  .subst h;simp[pR]
  .rw [bu h];simp only[pR,List.getElem_map,List.getElem_range];by_cases q:j<k
   .rw [bw q,bw aC]
   .rw [bu q,bu aC]
def agr{a b k m:Nat}:(pR a b (k+1) m).set k (po b k)=pR a b k m:=by
 apply gM
 .simp [pR]
 .intro j h1 h2;have hj:j<m:=by simpa[pR]using h2
  rw[List.getElem_set];by_cases h:k=j
  .subst h;simp[pR]
  .rw [bu h];simp only[pR,List.getElem_map,List.getElem_range];by_cases q:j<k
   .rw [bw q,bw aC]
   .rw [bu q,bu aC]
def ace(a k:Nat):a/4294967296^k=4294967296*(a/4294967296^(k+1))+po a k:=by
 rw[bQ,<-dL];unfold po;omega
def ajL{a d k:Nat}(hd:0<d)(Bc:d<4294967296):(a/4294967296^(k+1)%d*4294967296+po a k)/d=po (a/d) k/\(a/4294967296^(k+1)%d*4294967296+po a k)%d=a/4294967296^k%d:=by
 have e1:=ace a k;have e2:=cV (a/4294967296^(k+1)) d;have e3:=bS (a/4294967296^(k+1)) hd;have e4:=LF a k;have e5:a/4294967296^k=d*(4294967296*(a/4294967296^(k+1)/d))+(a/4294967296^(k+1)%d*4294967296+po a k):=by
  rw[e1,eC];omega
 have e6:(a/4294967296^(k+1)%d*4294967296+po a k)/d<4294967296:=by
  rw[cS hd];have:=bW 4294967296 (show a/4294967296^(k+1)%d+1<=d from e3);omega
 constructor
 .conv=>rhs;unfold po
  rw[dL,bR d,<-dL,e5,amX hd,gw,cH e6]
 .rw [e5,gw]
structure sJ(U0:Nat)(V:List Nat)(k m:Nat)(O Q:List Nat):Prop where
 UW:O.length=m
 Gp:Q.length=m-V.length
 Ag:iY O
 CZ:iY Q
 eq:val O+val V*val Q=U0
 lt:val O<val V*4294967296^k
 qz:∀ i,i<k->Q.getD i 0=0
def sJ.step{U0 k m x:Nat}{V O Q O2:List Nat}(h:sJ U0 V (k+1) m O Q)(hk:k<m-V.length)(hl:O2.length=m)(mv:iY O2)(hx:x<4294967296)
 (he:val O2+x*(4294967296^k*val V)=val O) (iJ:val O2<val V*4294967296^k):sJ U0 V k m O2 (Q.set k x):=by
 have zD:k<Q.length:=by rw[h.Gp];exact hk
 have hv:=Di (x:=x) zD;rw[h.qz k (fS k),dg,ch]at hv;refine⟨hl,by rw[dA];exact h.Gp,mv,h.CZ.set _ hx,?_,iJ,λi hi=>by rw[AX aC];exact h.qz i aC⟩;rw[hv,b9,show val V*(4294967296^k*x)=x*(4294967296^k*val V)by simp only[bR,eC,bN]];have:=h.eq;omega
def sJ.zero{U0 k m:Nat}{V O Q:List Nat}(h:sJ U0 V (k+1) m O Q)(hV:iY V){i:Nat}(hi:k+V.length<i):O.getD i 0=0:=by
 refine akR h.Ag (k:=k+V.length+1) ?_ hi;refine fR h.lt ?_;have:=dF (oX hV) (pw (k+1));rw[<-bH,(aC:V.length+(k+1)=k+V.length+1)]at this;exact this
def sJ.ad2{U0 k m:Nat}{V O Q:List Nat}(h:sJ U0 V (k+1) m O Q)(hV:iY V)(hn:2<=V.length)(hN:2147483648<=V.getD (V.length-1) 0):
 O.getD (k+V.length) 0<=V.getD (V.length-1) 0/\∀ g,g<=4294967295 ->
  g<=((O.getD (k+V.length) 0*4294967296+O.getD (k+V.length-1) 0)*4294967296+O.getD (k+V.length-2) 0)/(V.getD (V.length-1) 0*4294967296+V.getD (V.length-2) 0) ->
  (g=4294967295\/((O.getD (k+V.length) 0*4294967296+O.getD (k+V.length-1) 0)*4294967296+O.getD (k+V.length-2) 0)/(V.getD (V.length-1) 0*4294967296+V.getD (V.length-2) 0)<=g) ->
  val O/4294967296^k/val V<=g/\g<=val O/4294967296^k/val V+1:=by
 have t3:=Yr h.Ag (j:=k) hn (λi hi=>h.zero hV hi);have t2:=akP hV hn rfl;have hU:val O/4294967296^k<4294967296*val V:=by
  rw[cS (pw k)];have:=h.lt;rw[bQ]at this;rw[show 4294967296*val V*4294967296^k=val V*(4294967296^k*4294967296)by simp only[bR,eC,bN]];exact this
 have w1:=h.Ag.getD (k+V.length-1);have w2:=h.Ag.getD (k+V.length-2);have w3:=hV.getD (V.length-2);refine⟨?_,λg g1 g2 g3=>?_⟩
 .have hP:=pw (V.length-2);have h1:val V<(V.getD (V.length-1) 0*4294967296+V.getD (V.length-2) 0+1)*4294967296^(V.length-2):=by
   rw[<-t2,<-cS hP];omega
  have h2:val O/4294967296^k/4294967296^(V.length-2)<4294967296*(V.getD (V.length-1) 0*4294967296+V.getD (V.length-2) 0+1):=by
   rw[cS hP];refine bX hU ?_;rw[bN];exact cW _ (dR h1)
  rw[t3]at h2;omega
 .rw [<-t3,<-t2]at g2 g3;exact afB (pw _) (by rw[t2];omega) hU g1 g2 g3
def sJ.Wd{U0 k m x:Nat}{V O Q O':List Nat}(h:sJ U0 V (k+1) m O Q)(hV:iY V)(mv:iY O')(hv:val O'+x*(4294967296^k*val V)=val O+4294967296^(k+V.length+1)*1)
 (hs:∀ i,k+V.length<i->O'.getD i 0=O.getD i 0):val O'<4294967296^(k+V.length+1)/\0<x:=by
 have h1:val O'<4294967296^(k+V.length+1):=YF mv λi hi=>by rw[hs i aC];exact h.zero hV aC 
 refine⟨h1,?_⟩;rcases eU x with h0|h0
 .subst h0;rw[c9]at hv;omega
 .exact h0
def sJ.aak{U0 k m x κ:Nat}{V O Q O' O2:List Nat}(h:sJ U0 V (k+1) m O Q)(hV:iY V)(hk:k<m-V.length)(mv:iY O')(hv:val O'+x*(4294967296^k*val V)=val O+4294967296^(k+V.length+1)*1)
 (hs:∀ i,k+V.length<i->O'.getD i 0=O.getD i 0) (hx:x<=4294967295) (vC:x<=val O/4294967296^k/val V+1) (xg:0<val V) (oD:O2.length=m) (Ty:iY O2) (hκ:κ<=1)
 (h2:val O2+4294967296^(k+V.length+1)*κ=val O'+4294967296^k*val V) (kZ:∀ i,k+V.length<i->O2.getD i 0=O'.getD i 0):sJ U0 V k m O2 (Q.set k (x-1)):=by
 obtain⟨h1,h0⟩:=h.Wd hV mv hv hs;have h3:val O2<4294967296^(k+V.length+1):=YF Ty λi hi=>by rw[kZ i aC,hs i aC];exact h.zero hV aC 
 rw[cI]at hv;obtain⟨_,_,e,l⟩:=abY (pw k) xg hv h1 vC hκ h2 h3;exact h.step (x:=x-1) hk oD Ty aC e l
def ag0{L:List Nat}{x s l:Nat}(hk:iY L)(hl:L.length=l+1)(hx:L.getD l 0=x)(oE:x≠0)(hs:s=32-iD x):
 s<32/\(im (val L*2^s)).length=l+1/\2147483648<=(im (val L*2^s)).getD l 0/\4294967296^l*2147483648<=val L*2^s/\val L*2^s<4294967296^(l+1):=by
 have nV:x<4294967296:=by rw[<-hx];exact hk.getD l
 have kR:=pn oE;have oc:iD x<=32:=mJ.2 nV;have h1:=uO oE;have h2:=sC x;have e1:2^(iD x-1)*2^s=2147483648:=by rw[<-bH,(aC:iD x-1+s=31)]
 have e2:2^iD x*2^s=4294967296:=by rw[<-bH,(aC:iD x+s=32)]
 have hp:0<2^s:=bJ aE;have hv:val L=val (L.take l)+4294967296^l*x:=by
  have:=BW L l;rw[dk aC,hx]at this;exact this
 have DW:val (L.take l)<4294967296^l:=by
  have:=oX (hk.take l);rw[cF,dE aC]at this;exact this
 have g1:4294967296^l*2147483648<=val L*2^s:=by
  rw[<-e1,<-bN];refine bW _ ?_;rw[hv];exact bI (cW _ h1) (Nat.le_add_left _ _)
 have g2:val L*2^s<4294967296^(l+1):=by
  have e3:4294967296^(l+1)=4294967296^l*(2^iD x*2^s):=by rw[bQ,e2]
  rw[e3,<-bN];refine dF ?_ hp;rw[hv];have:=cW (4294967296^l) (show x+1<=2^iD x from h2);rw[b9,cI]at this;omega
 have hlen:(im (val L*2^s)).length=l+1:=by
  have u1:=xA g2;have u2:¬(im (val L*2^s)).length<=l:=λh=>by
   have:=NQ h;have:=pw l;omega
  omega
 refine⟨aC,hlen,?_,g1,g2⟩;rw[IX (nD _),lh];unfold po;rw[cH (by rw[cS (pw l),bR 4294967296,<-bQ];exact g2),dB (pw l),bR];exact g1
def sJ.start{A s:Nat}{V O:List Nat}(hO:iY O)(hv:val O=A*2^s){la:Nat}(hA:A<4294967296^la)(hl:O.length=la+1)(hs:s<32)(hn:1<=V.length)(jQ:V.length<=la)(hV:4294967296^(V.length-1)*2147483648<=val V):
 sJ (A*2^s) V (la+1-V.length) (la+1) O (List.replicate (la+1-V.length) 0):=by
 refine⟨hl,aH,hO,iY.EB _,by rw[Dh,dg,ch,hv],?_,λi _=>?_⟩
 .rw [hv];have FM:2^s<=2^31:=bY aE aC;have ad6:(2:Nat)^31=2147483648:= aE ;rw[ad6]at FM;have h1:A*2^s<4294967296^la*2^s:=dF hA (bJ aE);have h2:=cW (4294967296^la) FM;have h3:=bW (4294967296^(la+1-V.length)) hV;rw[gR,<-bH,(aC:V.length-1+(la+1-V.length)=la)]at h3;omega
 .rw [bC,fC];split<;>rfl
end Go.Proofs.YtgdahmmlddfimaaGreatDoor.Fp
namespace Go.Proofs.YtgdahmmlddfimaaGreatDoor
open Go.RowKit Fp Pu
def Hb(n:Nat)(h:n<4294967296):IntKind.u64.wrap ((n:Int)*2^32)=((n*4294967296:Nat):Int):=by rw[IntKind.wrap_u64];omega
def GO(a b:Nat)(ha:a<4294967296)(hb:b<4294967296):bits .or .u64 ((a*4294967296:Nat):Int) (b:Int)=((a*4294967296+b:Nat):Int):=by
 rw[KA _ _ aC aC,Nat.or_comm,show a*4294967296=a*2^32 by rfl,JU b a 32 (by simpa using hb),Nat.add_comm]
def aiX{T n n' p:Nat}{L L':List Nat}{z:Nat}(hn:n=n')(hp:p<L.length)(hs:L.set p z=L'):Bx.le (.row false T n 1 λi' j'=>if i'=p/\0<=j'/\j'<0+1 then[.v (.int .u32 (z:Int))].getD (j'-0) .any else(qp L) i' j') (.row false T n' 1 (qp L')):=hs▸O8 hn hp
def Rv(q rest third v w:Nat)(x:Nat):PS:=⟨32,true,[(0,.e (.v (.int .u64 ((q-x:Nat):Int)))),(1,.e (.v (.int .u64 ((rest+(x*v):Nat):Int)))),(2,.e (.v (.int .u32 (third:Int)))),(3,.e (.v (.int .u32 (v:Int)))),(4,.e (.v (.int .u32 (w:Int))))],[]⟩
def XQ(L:List Nat)(d:Nat)(x:Nat):PS:=⟨34,false,[(8,.e (iP ((L.length:Int)-1-(x:Int)))),(7,.e (.v (.int .u32 ((val L/4294967296^(L.length-x)%d:Nat):Int)))),(6,.own 11),(0,.e (iu L)),(1,.e (.v (.int .u32 (d:Int))))],[(11,.row false 171 L.length 1 (qp (pR 0 (val L/d) (L.length-x) L.length)))]⟩
def ab4(h l d:Nat)(h1:h<d)(h2:l<4294967296)(h3:d<4294967296):ik 356 [.v (.int .u32 (h:Int)),.v (.int .u32 (l:Int)),.v (.int .u32 (d:Int))] (.iE [.v (.int .u32 (((h*4294967296+l)/d:Nat):Int)),.v (.int .u32 (((h*4294967296+l)%d:Nat):Int))]):=by
 have e1:(h*4294967296+l)/d<4294967296:=by rw[cS aC];omega
 have e2:(h*4294967296+l)%d<4294967296:=fR (bS _ aC) h3;exact ak call356 func356 (ae [ah 10 ((d:Int) != 0) aN,tF 14 ((d:Int)<=h) aC,.o 18 (.int (sH _ aC):aj (.v (.int .u64 (IntKind.u64.wrap (h:Int)))) (.v (.int .u64 (h:Int)))),.a (aC:0<=(32:Int)/\(32:Int)<=((64:Nat):Int)),.o 19 (.int (Hb _ aC):aj (.v (.int .u64 (IntKind.u64.wrap ((h:Int)*2^32)))) (.v (.int .u64 ((h*4294967296:Nat):Int)))),.o 21 (.int (sH _ aC):aj (.v (.int .u64 (IntKind.u64.wrap (l:Int)))) (.v (.int .u64 (l:Int)))),.o 22 (.int (GO _ _ aC aC):aj (.v (.int .u64 (bits .or .u64 ((h*4294967296:Nat):Int) (l:Int)))) (.v (.int .u64 ((h*4294967296+l:Nat):Int)))),.o 25 (.int (sH _ aC):aj (.v (.int .u64 (IntKind.u64.wrap (d:Int)))) (.v (.int .u64 (d:Int)))),.a (aC:0<((d:Int):Int)),
  Da ((h*4294967296+l:Nat):Int) aC,.o 27 (.int (ET _):aj (.v (.int .u32 (IntKind.u32.wrap (((h*4294967296+l)/d:Nat):Int)))) (.v (.int .u32 ((((h*4294967296+l)/d)%4294967296:Nat):Int)))),.o 30 (.int (sH _ aC):aj (.v (.int .u64 (IntKind.u64.wrap (d:Int)))) (.v (.int .u64 (d:Int)))),.a (aC:0<((d:Int):Int)),.o 32 (.int (ET _):aj (.v (.int .u32 (IntKind.u32.wrap (((h*4294967296+l)%d:Nat):Int)))) (.v (.int .u32 ((((h*4294967296+l)%d)%4294967296:Nat):Int))))]<|rQ (.iE [.v (.int .u32 ((((h*4294967296+l)/d)%4294967296:Nat):Int)),.v (.int .u32 ((((h*4294967296+l)%d)%4294967296:Nat):Int))]) (.iE [.v (.int .u32 (((h*4294967296+l)/d:Nat):Int)),.v (.int .u32 (((h*4294967296+l)%d:Nat):Int))]) (by rw[cH e1,cH e2])) 
def amA(q rest third v w N:Nat)(hq:q<=4294967295)(hr:rest<9223372036854775808)(ht:third<4294967296)(hv:v<4294967296)(hw:w<4294967296)(hNq:N<=q)(jZ:∀ x,x<N->tI q rest third v w x)(g1:¬rest+N*v<4294967296):ik 357 [.v (.int .u64 (q:Int)),.v (.int .u64 (rest:Int)),.v (.int .u32 (third:Int)),.v (.int .u32 (v:Int)),.v (.int .u32 (w:Int))] (.v (.int .u64 ((q-N:Nat):Int))):=
 ak call357 func357 (af [.s (Sp.kE (Rv q rest third v w) 0 N aC (λx hx nd=>by
    obtain⟨g1,g2⟩:=jZ x aC;have m1:(q-x)*w<=4294967295*4294967295:=dQ aC aC;have g3:0<q-x:=by
     rcases eU (q-x)with h|h
     .rw [h,c9]at g2;omega
     .exact h
    exact jh (ae [tT 12 (((rest+(x*v):Nat):Int)<4294967296) aC,.o 16 (.int (sH _ aC):aj (.v (.int .u64 (IntKind.u64.wrap (w:Int)))) (.v (.int .u64 (w:Int)))),
     Da (((q-x:Nat):Int)*(w:Int)) aC,.a (aC:0<=(32:Int)/\(32:Int)<=((64:Nat):Int)),.o 19 (.int (Hb _ aC):aj (.v (.int .u64 (IntKind.u64.wrap (((rest+(x*v):Nat):Int)*2^32)))) (.v (.int .u64 (((rest+(x*v))*4294967296:Nat):Int)))),.o 21 (.int (sH _ aC):aj (.v (.int .u64 (IntKind.u64.wrap (third:Int)))) (.v (.int .u64 (third:Int)))),.o 22 (.int (GO _ _ aC aC):aj (.v (.int .u64 (bits .or .u64 (((rest+(x*v))*4294967296:Nat):Int) (third:Int)))) (.v (.int .u64 ((((rest+(x*v))*4294967296)+third:Nat):Int)))),tT 23 (((((rest+(x*v))*4294967296)+third:Nat):Int)<(((q-x)*w:Nat):Int)) (Int.ofNat_lt.2 g2),Da (((q-x:Nat):Int)-1) aC,.o 29 (.int (sH _ aC):aj (.v (.int .u64 (IntKind.u64.wrap (v:Int)))) (.v (.int .u64 (v:Int)))),Da (((rest+(x*v):Nat):Int)+v) aC]<|.e (af [.o 0 (.int aP:aj (.v (.int .u64 (((q-x:Nat):Int)-1))) (.v (.int .u64 ((q-(x+1):Nat):Int)))),.o 1 (.int aP:aj (.v (.int .u64 (((rest+(x*v))+v:Nat):Int))) (.v (.int .u64 ((rest+((x+1)*v):Nat):Int))))])) aF)
  (λhx=>by
    have m1:(q-N)*w<=4294967295*4294967295:=dQ aC aC;exact jh (af [tF 12 (((rest+(N*v):Nat):Int)<4294967296) aC]) aF) aI:kD 1 f357 (Rv q rest third v w 0) (.exit 0) ⟨32,true,[(0,.e (.v (.int .u64 ((q-N:Nat):Int))))],[]⟩) (af [.o 0 (.int aP:aj (.v (.int .u64 (q:Int))) (.v (.int .u64 ((q-0:Nat):Int)))),.o 1 (.int aP:aj (.v (.int .u64 (rest:Int))) (.v (.int .u64 ((rest+(0*v):Nat):Int))))])]) 
def agK(L:List Nat)(d:Nat)(hk:iY L)(hl:L.length<=1000000)(Bb:0<d)(Bc:d<4294967296):ik 335 [iu L,.v (.int .u32 (d:Int))] (.iE [iu (pq (val L/d) L.length),.v (.int .u32 ((val L%d:Nat):Int))]):=
 an call335 func335 (ae [.a (aC:0<=((L.length:Int):Int)/\((L.length:Int):Int)<=((L.length:Int):Int)),.a (aC:((4:Nat):Int)*(L.length:Int)<=281474976710656/\((L.length:Int):Int)<=9223372036854775807),iL ((L.length:Int)-1) aC,.s (Sp.kE (XQ L d) 0 L.length aC (λx hx nd=>by
    have Tj:((L.length:Int)-1-(x:Int)).toNat=L.length-1-x:= aC ;have hld:((L.getD ((L.length:Int)-1-(x:Int)).toNat 0:Nat):Int)=(po (val L) (L.length-1-x):Int):=by rw[Tj,IX hk]
    have wC:=ajL (a:=val L) (k:=L.length-1-x) Bb Bc;have tU:L.length-1-x+1=L.length-x:= aC ;have mF:L.length-(x+1)=L.length-1-x:= aC ;rw[tU]at wC;have D1:=bS (val L/4294967296^(L.length-x)) Bb;have MJ:=LF (val L) (L.length-1-x);have Cw:(pR 0 (val L/d) (L.length-x) L.length).set ((L.length:Int)-1-(x:Int)).toNat ((val L/4294967296^(L.length-x)%d*4294967296+po (val L) (L.length-1-x))/d)=pR 0 (val L/d) (L.length-(x+1)) L.length:=by
     rw[Tj,wC.1,<-tU,agr,mF]
    exact jh (ae [tT 16 (0<=((L.length:Int)-1-(x:Int))) aC,iX ((L.length:Int)-1-(x:Int)) (L.length) aC,.o 26 (.int hld:aj (.v (.int .u32 ((L.getD ((L.length:Int)-1-(x:Int)).toNat 0:Nat):Int))) (.v (.int .u32 (po (val L) (L.length-1-x):Int)))),.c (ab4 (val L/4294967296^(L.length-x)%d) (po (val L) (L.length-1-x)) d aC aC aC),iX ((L.length:Int)-1-(x:Int)) (L.length) aC,.a (aC:(((L.length:Int)-1-(x:Int))).toNat<L.length),iL (((L.length:Int)-1-(x:Int))-1) aC]<|.e (af [.o 8 (aq (((L.length:Int)-1-(x:Int))-1) ((L.length:Int)-1-((x+1:Nat):Int)) aP),.o 7 (.int (by rw[wC.2,mF]):aj (.v (.int .u32 ((((val L/4294967296^(L.length-x)%d)*4294967296+(po (val L) (L.length-1-x)))%d:Nat):Int))) (.v (.int .u32 ((val L/4294967296^(L.length-(x+1))%d:Nat):Int)))),.b 11 (aiX rfl (by rw[agq];omega) Cw:Bx.le (.row false 171 L.length 1 (λi' j'=>if i'=(((L.length:Int)-1-(x:Int))).toNat/\0<=j'/\j'<0+1 then[.v (.int .u32 ((((val L/4294967296^(L.length-x)%d)*4294967296+(po (val L) (L.length-1-x)))/d:Nat):Int))].getD (j'-0) .any else(qp (pR 0 (val L/d) (L.length-x) L.length)) i' j')) (.row false 171 L.length 1 (qp (pR 0 (val L/d) (L.length-(x+1)) L.length))))])) aF)
  (λhx=>by
    exact jh (af [tF 16 (0<=((L.length:Int)-1-(L.length:Int))) aC]) aF) aI:kD 4 f335 (XQ L d 0) (.exit 0) ⟨34,false,[(7,.e (.v (.int .u32 ((val L/4294967296^(L.length-L.length)%d:Nat):Int)))),(6,.own 11)],[(11,.row false 171 L.length 1 (qp (pR 0 (val L/d) (L.length-L.length) L.length)))]⟩) (af [.o 8 (aq ((L.length:Int)-1) ((L.length:Int)-1-((0:Nat):Int)) aP),.o 7 (.int (by rw[dP,dx (oX hk),Nat.zero_mod];rfl):aj (.v (.int .u32 0)) (.v (.int .u32 ((val L/4294967296^(L.length-0)%d:Nat):Int)))),.b 11 (WY rfl (λi=>by rw[dP,agp (bD _),ab0]):Bx.le (.row false 171 L.length 1 (λ_ j_=>[.v (.int .u32 0)].getD j_ .any)) (.row false 171 L.length 1 (qp (pR 0 (val L/d) (L.length-0) L.length))))])]<|rR (.iE [iu (pq (val L/d) L.length),.v (.int .u32 ((val L%d:Nat):Int))]) (.iE (.cons (by rw[dq,ags];exact X1 (AO _ _).symm) (.cons (.jl (by rw[dq,cT,fW])) .nil)):E.le (.iE [.sl false L.length 1 (qp (pR 0 (val L/d) (L.length-L.length) L.length)),.v (.int .u32 ((val L/4294967296^(L.length-L.length)%d:Nat):Int))]) (.iE [iu (pq (val L/d) L.length),.v (.int .u32 ((val L%d:Nat):Int))]))) 
def Zg(w:World)(T S:List Nat)(e:Ending)(w':World):Prop:=∃ A c B d,e = .returned (.tuple #[.slice A T.length c,.slice B S.length d])/\Sl w' A c T/\Sl w' B d S/\ja w w'
def Ow.rx{w:World}{base:Nat}{v:Value}{L:List Nat}(h:Ow w base v L)(hl:L≠[]):∃ g cap R,v = .slice (some ⟨g,0,none⟩) L.length cap/\base<=g/\g<w.heap.size/\Rx w g L R/\L.length<=cap/\cap<=maxLen:=by
 rcases h.row.2 with⟨_,h0⟩|⟨g,cap,cur,rfl,hb,hg,oJ,nS,mE,Gb⟩
 .exact absurd (dz h0) hl
 .refine ⟨g,cap,cur.toList.drop L.length,rfl,hb,(du.1 hg).1,?_,oJ,nS⟩;unfold Rx;rw[hg];rw[cI]at Gb;rw[<-Gb,amT]
def Rx.sl{w:World}{b cap:Nat}{L:List Nat}{R:List Value}(h:Rx w b L R)(hk:iY L)(hc:L.length<=cap)(hm:cap<=maxLen)(n:Nat):Sl w (some ⟨b,0,none⟩) cap (L.take n):=
 ⟨by rw[cF];omega,by unfold maxLen at hm;omega,hk.take n,(λh=>by cases h),λi x hx=>by
  rw[dM]at hx;split at hx
  .obtain ⟨hi,xt⟩:=cw.1 hx;refine⟨_,_,rfl,h.lt,?_⟩;rw[cD,h.cell hi];simp[bC,hx]
  .cases hx⟩
def aga(x:Nat)(hx:x<4294967296)(w:World):
 Calls prog 336 #[.int .u32 x] w λe w'=>e = .returned (.int .i64 ((32-iD x:Nat):Int))/\w=w':=by
 have oc:iD x<=32:=mJ.2 hx;have H:=anv (λw=>UU x hx w);go_enter func336,ntmps336;go_wp2_with fail;refine(H.out _).mono ?_;rintro e w' ⟨rfl,rfl⟩;go_wp2;go_ret;exact⟨pJ aC,rfl⟩
def Rz(q rest third v w0 N:Nat)(w:World)(hq:q<=4294967295)(hr:rest<9223372036854775808)(ht:third<4294967296)(hv:v<4294967296)(hw:w0<4294967296)(hNq:N<=q)(jZ:∀ x,x<N->tI q rest third v w0 x)(hN:¬tI q rest third v w0 N):
 Calls prog 357 #[.int .u64 q,.int .u64 rest,.int .u32 third,.int .u32 v,.int .u32 w0] w λe w'=>e = .returned (.int .u64 ((q-N:Nat):Int))/\w=w':=by
 have HLO:=anv jZ;have HNN:=anv hN;clear jZ hN;go_enter func357,ntmps357;go_wp2;go_loop [0,1] (λa b=>∃ k:Nat,k<=N/\a = .int .u64 ((q-k:Nat):Int)/\b = .int .u64 ((rest+k*v:Nat):Int)) (λa _=>(intOf a).toNat+0*N)
 case atStart=>exact⟨0,cz _,by go_num,by go_num⟩
 case round=>
  obtain⟨k,hk,rfl,rfl⟩:=hrel;have m1:(q-k)*w0<=4294967295*4294967295:=dQ aC aC;have m2:(q-k)*w0=(q-k)*w0:=rfl;by_cases iJ:k<N
  .have hc:=HLO.out k iJ;have ux:0<q-k:= aC ;have Tw:rest+(k+1)*v=rest+k*v+v:=by rw[cj,ct];omega
   have HX:=anv Tw;clear Tw;unfold tI at hc;have Cz:IntKind.u64.wrap (((q-k:Nat):Int)*(w0:Int))=(((q-k)*w0:Nat):Int):=by rw[<-fD];exact sH _ aC 
   generalize rest+k*v=y at *
   generalize hz:(q-k)*w0=z at *
   have F6:q-k=q-(k+1)+1:= aC ;have HQ:=anv F6;obtain⟨p,hp⟩:∃ p,p=q-k:=⟨_,rfl⟩
   rw[<-hp]at Cz ux F6 HQ ⊢;have HP:=anv hp;have Cs:p<=4294967295:= aC ;clear hp hz F6;have F9:=Hb y hc.1;have wu:=GO y third hc.1 ht;have g2:=hc.2;have g1:=hc.1;clear hc;rw[show((y*4294967296:Nat):Int)=y*4294967296 by omega]at wu F9;have d1:decide ((y:Int)<4294967296)=true:=bA aC;have d2:decide ((y:Int)*4294967296+(third:Int)<z)=true:=bA aC;have pv:IntKind.u64.wrap ((p:Int)-1)=((p-1:Nat):Int):=by rw[IntKind.wrap_u64];omega
   go_wp2;go_round
   case rel=>
    have e1:=HP.out;exact⟨k+1,aC,by go_num,by rw[HX.out];go_num⟩
   case measure=>simp[intOf];omega
  .obtain rfl:k=N:= aC ;have hn:=HNN.out;clear HNN HLO;unfold tI at hn;have Cz:IntKind.u64.wrap (((q-k:Nat):Int)*(w0:Int))=(((q-k)*w0:Nat):Int):=by rw[<-fD];exact sH _ aC 
   generalize rest+k*v=y at *
   generalize (q-k)*w0=z at *
   obtain⟨p,hp⟩:∃ p,p=q-k:=⟨_,rfl⟩
   rw[<-hp]at Cz ⊢;have HP:=anv hp;clear hp;by_cases g1:y<4294967296
   .have F9:=Hb y g1;have wu:=GO y third g1 ht;rw[show((y*4294967296:Nat):Int)=y*4294967296 by omega]at wu F9;have d1:decide ((y:Int)<4294967296)=true:=bA aC;have d2:decide ((y:Int)*4294967296+(third:Int)<z)=false:=bB aC;clear hn;go_wp2;go_ret;exact⟨pJ (by rw[<-HP.out]),rfl⟩
   .have d1:decide ((y:Int)<4294967296)=false:=bB aC ;clear hn Cz;go_wp2;go_ret;exact⟨pJ (by rw[<-HP.out]),rfl⟩
def ad3(iI next third v w0:Nat)(hv:2147483648<=v)(rY:v<4294967296)(hn:next<4294967296)(ht:third<4294967296)(hw:w0<4294967296)(htv:iI<=v):
 ∃ g,g<=4294967295/\g<=((iI*4294967296+next)*4294967296+third)/(v*4294967296+w0)/\(g=4294967295\/((iI*4294967296+next)*4294967296+third)/(v*4294967296+w0)<=g) /\
  ∀ w,Calls prog 337 #[.int .u32 iI,.int .u32 next,.int .u32 third,.int .u32 v,.int .u32 w0] w λe w'=>e = .returned (.int .u64 (g:Int))/\∃ m,w'=w.drewN m:=by
 by_cases k1:v<=iI
 .obtain ⟨N,hN3,q8,yg,sS,g1,g2⟩:=Ry (X:=iI*4294967296+next) (q:=4294967295) (rest:=(iI-v)*4294967296+next+v) (third:=third) (v:=v) (w:=w0) aC (bD _) hv hw;refine⟨4294967295-N,aC,g1,g2.elim (λh=>.inl (by rw[h])) .inr,λw=>?_⟩;clear g1 g2;have H:=λw=>Rz 4294967295 ((iI-v)*4294967296+next+v) third v w0 N w aC aC ht rY hw q8 yg sS
  clear yg sS;obtain rfl:v=iI:= aC ;have uy:(v-v)*4294967296+next+v=next+v:= aC 
  rw[uy,Int.natCast_add]at H;have HD:=anv H;clear H;have d1:decide ((v:Int)<=v)=true:=bA aC;go_enter func337,ntmps337;go_wp2_with fail;refine(HD.out _).mono ?_;rintro e w' ⟨rfl,rfl⟩;go_wp2;go_ret;exact⟨rfl,0,rfl⟩
 .have d1:=cV (iI*4294967296+next) v;have d2:=bS (iI*4294967296+next) (aC:0<v);have d3:(iI*4294967296+next)/v<4294967296:=by rw[cS aC];omega
  obtain⟨N,hN3,q8,yg,sS,g1,g2⟩:=Ry (X:=iI*4294967296+next) (q:=(iI*4294967296+next)/v) (rest:=(iI*4294967296+next)%v) (third:=third) (v:=v) (w:=w0) (by rw[bR];exact d1) aC hv hw;have g3:=abZ (x:=iI*4294967296+next) (v:=v) (w:=w0) (third:=third) aC ht;refine⟨(iI*4294967296+next)/v-N,aC,g1,.inr ?_,λw=>?_⟩
  .rcases g2 with rfl|g2
   .exact g3
   .exact g2
  have H:=λw=>Rz ((iI*4294967296+next)/v) ((iI*4294967296+next)%v) third v w0 N w (Nat.le_of_lt_succ d3) (fR d2 aC) ht rY hw q8 yg sS
  rw[Int.natCast_ediv,Int.natCast_emod]at H;have HD:=anv H;clear H g1 g2 g3 q8 yg sS d1 d2 d3;have d1:decide ((v:Int)<=iI)=false:=bB aC;have F9:=Hb iI aC;have wu:=GO iI next aC hn
  rw[show((iI*4294967296:Nat):Int)=iI*4294967296 by omega]at wu F9;have oE:((iI*4294967296+next:Nat):Int)<18446744073709551616:= aC ;rw[show((iI*4294967296+next:Nat):Int)=iI*4294967296+(next:Int)by omega]at wu oE;have Bi:((v:Int)==0)=false:= aN ;go_enter func337,ntmps337;go_wp2;go_quiet (exact Calls.quiet_of_same ((HD.out _).mono λ_ _ ⟨h1,h2⟩=>⟨h1,h2.symm⟩));go_wp2;go_ret;exact⟨rfl,_,rfl⟩
def Fp.ja.akT{w0 w w':World}{g n:Nat}(h:ja w0 w)(k:tu g (w.drewN n) w')(hg:w0.heap.size<=g):ja w0 w':=
 (below_drewN h n).trans (k.below.mono hg)
def Fp.ja.only{w0 w w':World}{g:Nat}(h:ja w0 w)(k:tu g w w')(hg:w0.heap.size<=g):ja w0 w':=
 Below.trans h (k.below.mono hg)
def Sl.Sd{w:World}{g cap:Nat}{L:List Nat}(h:Sl w (some ⟨g,0,none⟩) cap L){b:Nat}(hb:g≠b)(i:Nat)(v:Value):Sl (w.setCell ⟨b,i,none⟩ v) (some ⟨g,0,none⟩) cap L:=
 h.pg (λb' o _ e=>by cases e;exact hb) (tu.Ha (tu.refl b w) i v)
def Sl.drewN{w:World}{A:Option Addr}{c:Nat}{L:List Nat}(h:Sl w A c L)(n:Nat):Sl (w.drewN n) A c L:=h.below (below_drewN (Below.refl _ _) n)
def ahX{P:Program}{f:FuncId}{args:Array Value}{w:World}{n:Nat}{v:Value}
 (h:Calls P f args (w.drewN n) λe w'=>e = .returned v/\∃ m,w'=(w.drewN n).drewN m):Calls P f args (w.drewN n) λe w''=>e = .returned v/\∃ m,w''=w.drewN m:=
 h.mono λ_ _ ⟨he,m,hm⟩=>⟨he,n+m,by rw[hm,World.drewN_drewN]⟩
set_option maxRecDepth 100000 in
set_option maxHeartbeats 8000000 in
def acf(A B:Option Addr)(c d:Nat)(L M:List Nat)(w:World)(lx ly s:Nat)(D0:lx=(iT L).length)(Jj:ly=(iT M).length)(wC:s=32-iD ((iT M).getD (ly-1) 0))(hs:Sl w A c L)(hr:Sl w B d M)(uq:Tb w)(h1:L.length<=100000)(h2:M.length<=100000)(tS:val M<=val L)(hlen:2<=ly):
 Calls prog 322 #[.slice A L.length c,.slice B M.length d] w (Zg w (pq (val L/val M) (lx+1-ly)) (qX (s%32) ((im (val L%val M*2^s)).drop (s/32)))):=by
 have H1:=vK A c L w hs;have H2:=vK B d M w hr;have SD:=pW L;unfold mT at SD;have sc:=pW M;unfold mT at sc;have eL:=qv L;have eM:=qv M;rw[<-eL,<-eM]at tS ⊢;have kZ:=hs.uN;have od:=hr.uN;have Mr:=Ao M;have SV:iT (iT L)=iT L:=Ao L;have SY:iT (iT M)=iT M:=Ao M;have H3:=JH A B c d (iT L) (iT M) w kZ od aC aC;generalize iT L=X at *
 generalize iT M=Y at *
 have oO:0<=lf (val X) (val Y):=by unfold lf;split<;>(try split)<;>omega
 generalize lf (val X) (val Y)=cm at *
 have SX:Y.length<=X.length:=by
  apply ck;intro h;have:=KD kZ.ok Mr (aC:X.length<Y.length);omega
 clear eL eM hs hr tS;rw[<-D0]at SX H1 H3 SD;rw[<-Jj]at SX H2 H3 sc;have oE:Y.getD (ly-1) 0≠0:=by
  have:=(BT Y).1 Mr aC;have e:Y.getD (ly-1) 0=Y[Y.length-1]'(aC):=by
   rw[bC,(aC:ly-1=Y.length-1)];simp[(aC:Y.length-1<Y.length)]
  rw[e];exact this
 have HN:=ag0 od.ok (l:=ly-1) aC rfl oE wC;rw[(aC:ly-1+1=ly)]at HN;obtain⟨x,hx⟩:∃ x,x=Y.getD (ly-1) 0:=⟨_,rfl⟩
 have nV:x<4294967296:=by rw[hx];exact od.ok.getD _
 have H4:=anv (λw=>aga x nV w);rw[<-hx]at wC;rw[<-wC]at H4;obtain⟨ab,ao,rfl,qD,c1⟩:=od.nc (i:=ly-1) aC;have Eb:Y[ly-1]'(aC)=x:=by rw[hx];simp[bC,(aC:ly-1<Y.length)]
 rw[Eb]at c1;have aeK:s<32:=HN.1;have HNh:=anv HN;have H5:=λw (h:Sl w A c X)=>VR A c X s w h aC aC 
 have H6:=λw (h:Sl w (some ⟨ab,ao,none⟩) d Y)=>VR (some ⟨ab,ao,none⟩) d Y s w h aC aC 
 rw[SV,<-D0,(aC:s/32+lx+1=lx+1)]at H5;rw[SY,<-Jj,(aC:s/32+ly+1=ly+1)]at H6;have H5h:=anv H5;have H6h:=anv H6;have HX:=anv D0;have HY:=anv Jj;have HS2:=anv kZ;have HR2:=anv od;have H1h:=anv H1;have H2h:=anv H2;have H3h:=anv H3;clear H1 H2 H3 H5 H6 SV SY HN D0 Jj hx Eb wC oE kZ od Mr;have Cz:(ly:Int)-1=((ly-1:Nat):Int):= aC ;have d0:decide (cm<0)=false:=bB aC;have d2:decide ((lx:Int)+1<=(lx:Int))=false:=bB aC;have wq:=Gt (lx+1-ly) aC;rw[show((lx+1-ly:Nat):Int)=lx+1-(ly:Int)by omega]at wq;have d1:((ly:Int)==1)=false:= aN ;go_enter func322,ntmps322;go_wp2_with fail;refine H1h.out.mono ?_;rintro e w' ⟨rfl,rfl⟩;go_wp2_with fail;refine H2h.out.mono ?_;rintro e w' ⟨rfl,rfl⟩;go_wp2_with fail;refine H3h.out.mono ?_;rintro e w1 ⟨rfl,kR⟩;have c2:=c1;rw[<-(kR.cell (p:=⟨ab,ao+(ly-1),none⟩) qD)]at c2;go_wp2_with fail;refine(H4.out _).mono ?_;rintro e w2 ⟨rfl,rfl⟩;go_wp2_with fail;refine(H5h.out _ (HS2.out.below kR)).mono ?_;rintro e w2 ⟨T,v1,he,DQ,FO,oQ,oc⟩;obtain⟨g,cap,R,TS,Td,Te,SL,DS,aek⟩:=oQ.rx (by intro h;rw[h]at FO;simp at FO);have SP:=anv oQ.ok;rw[FO]at TS DS;subst TS;subst he;clear oQ;have HTv:=anv DQ;have HTl:=anv FO;clear DQ FO;go_wp2_with fail;refine(H6h.out _ ((HR2.out.below kR).below oc)).mono ?_;rintro e w3 ⟨S,v2,he,SO,Cg,oQ,sd⟩;have I5:=SL.qJ (sd.block g Te);obtain⟨g',cap',R',rY,aeq,ami,_,amf,_⟩:=oQ.rx (by intro h;rw[h]at Cg;simp at Cg);obtain⟨_,_,e2,Mv⟩:=oQ.sl;rw[rY]at e2;cases e2;have Jc:g'≠g:= aC 
 have H7:=vK (some ⟨g',0,none⟩) cap' S w3 Mv;have hV:iT S=im (val Y*2^s):=by rw[sG oQ.ok,SO]
 have zi:=Mv.uN;rw[hV]at H7 zi;rw[HNh.out.2.1,Cg]at H7;rw[Cg]at rY;have aeg:ja w w3:=(kR.trans oc).trans sd;subst rY;subst he;have H7h:=anv H7;clear oQ Mv hV SO Cg H7 SL oc sd;go_wp2_with fail;refine H7h.out.mono ?_;rintro e w4 ⟨rfl,rfl⟩;go_wp2;go_loop [9] (λu=>u = .slice (some ⟨g,0,none⟩) (lx+1) cap) (λ_=>0)
 case atStart=>rfl
 case round=>
  subst hrel;go_wp2;have yj:=Rw.Bq w3 (lx+1-ly);have Jk:=HNh.out.2.1;have yg:=HNh.out.2.2.1;have sS:=HNh.out.2.2.2.1;have SS:=nD (val Y*2^s);have MB:=lh (val Y*2^s);rw[<-MB]at sS;generalize im (val Y*2^s)=V at *
  have yd:=sJ.start (A:=val X) (s:=s) (V:=V) (O:=T) SP.out HTv.out (la:=lx) (by rw[HX.out];exact oX HS2.out.ok) HTl.out aeK aC aC (by rw[Jk];exact sS);have SN:=zi.alloc (.cells (oM (List.replicate (lx+1-ly) 0)).toArray 171);have SM:Rx (w3.alloc (.cells (oM (List.replicate (lx+1-ly) 0)).toArray 171)) g T R:=I5.qJ ((ja.alloc w3 _).block g (by have:=I5.lt;omega));rw[Jk]at yd;have HD0:=anv yd;have HR0:=anv yj;have HRx:=anv SM;have HSV:=anv SN;have HE0:=anv (aeg.trans (ja.alloc w3 (.cells (oM (List.replicate (lx+1-ly) 0)).toArray 171)));have HnV:=anv Jk;have HVok:=anv SS;have HVv:=anv MB;have HN1:=anv yg;have hgq:g<w3.heap.size:=I5.lt;have Tf:w.heap.size<=g:=bI kR.size Td;clear yd yj SM SN zi I5 Jk SS MB yg sS HTv HTl SP H1h H2h H3h H4 H5h H6h H7h c1 c2 d2 wq kR Td aeq Te HNh HS2 HR2;go_loopw [13] (λj wr=>∃ (k:Nat) (O Q:List Nat),k<=lx+1-ly/\j = .int .i64 ((k:Int)-1)/\sJ (val X*2^s) V k (lx+1) O Q/\Rx wr g O R/\Rw wr w3.heap.size Q/\Sl wr (some ⟨g',0,none⟩) cap' V/\ja w wr) (λj _=>(intOf j+1).toNat)
  case atStart=>
   exact⟨lx+1-ly,T,_,bD _,by go_num,HD0.out,HRx.out,HR0.out,HSV.out,HE0.out⟩
  case round=>
   clear HD0 HRx HR0 HSV HE0;obtain⟨k,O,Q,hk,rfl,hD,DP,Mu,zi,S5⟩:=hrel;have HE:=anv S5;have HSV:=anv zi;have HRQ:=anv Mu;have HRO:=anv DP;have HD:=anv hD;clear hD S5;rcases k with _|t
   .have hO:=HD.out.UW;have TF:=HRO.out.sl HD.out.Ag (cap:=cap) aC aek ly;have HZ:=Ob (some ⟨g,0,none⟩) cap (O.take ly) s wr TF a6 aC;have e1:(O.take ly).length=ly:=by rw[cF];omega
    rw[e1]at HZ;have HZh:=anv HZ;have HQs:=anv (HRQ.out.sl HD.out.CZ (by rw[HD.out.Gp];omega));have xg:0<val V:=by
     have:=HD.out.lt;rcases eU (val V)with h|h
     .rw [h,c9]at this;omega
     .exact h
    have SW:0<val Y:=by
     rw[HVv.out]at xg;exact Nat.pos_of_mul_pos_right xg
    have MN:=acb (a:=val X) (b:=val Y) (s:=s) (q:=val Q) (r:=val O) SW (by rw[<-HVv.out];exact HD.out.eq) (by rw[<-HVv.out];have:=HD.out.lt;rw[cT,cI]at this;exact this);have DW:val (O.take ly)=val O:=by
     rw[alw HD.out.Ag,cH];have:=HD.out.lt;rw[cT,cI]at this;refine fR this ?_;have h:=oX HVok.out;rw[HnV.out]at h;exact h
    have SE:iT (O.take ly)=im (val X%val Y*2^s):=by rw[sG (HD.out.Ag.take ly),DW,MN.2]
    rw[SE]at HZh;have I3:=HD.out.Gp;rw[HnV.out]at I3;have SJ:pq (val X/val Y) (lx+1-ly)=Q:=LG HD.out.CZ I3 MN.1;have HQd:=anv SJ;generalize qX (s%32) ((im (val X%val Y*2^s)).drop (s/32))=Z at *
    have HQl:=anv I3;clear MN DW SE SJ TF HZ e1 I3 hO xg SW zi DP Mu;go_wp2_with fail;refine HZh.out.mono ?_;rintro e w5 ⟨AZ,cZ,rfl,hZs,SZ⟩;go_wp2;go_ret2;have hq:=HQs.out.below SZ;rw[HQl.out]at hq;exact⟨_,_,_,_,by rw[AO];rfl,by rw[HQd.out];exact hq,hZs,HE.out.trans SZ⟩
   .have hO:=HD.out.UW;have c4:=DP.cell (i:=t+ly) aC;have c5:=DP.cell (i:=t+ly-1) aC;have c6:=DP.cell (i:=t+ly-2) aC;obtain⟨_,_,e1,_,c7⟩:=zi.nc (i:=ly-1) (by rw[HnV.out];omega);obtain⟨_,_,e2,_,c8⟩:=zi.nc (i:=ly-2) (by rw[HnV.out];omega);cases e1;cases e2;rw[cD]at c7 c8;have v7:V[ly-1]'(by rw[HnV.out];omega)=V.getD (ly-1) 0:=by simp[bC,HnV.out,(aC:ly-1<ly)]
    have v8:V[ly-2]'(by rw[HnV.out];omega)=V.getD (ly-2) 0:=by simp[bC,HnV.out,(aC:ly-2<ly)]
    rw[v7]at c7;rw[v8]at c8;clear v7 v8;have mv:=HD.out.Ag;have o4:=mv.getD (t+ly);have o5:=mv.getD (t+ly-1);have o6:=mv.getD (t+ly-2);have o7:=HVok.out.getD (ly-1);have o8:=HVok.out.getD (ly-2);have hG:=HD.out.ad2 HVok.out (by rw[HnV.out];omega) (by rw[HnV.out];exact HN1.out);rw[HnV.out]at hG;obtain⟨gd,g1,g2,g3,g4⟩:=ad3 (O.getD (t+ly) 0) (O.getD (t+ly-1) 0) (O.getD (t+ly-2) 0) (V.getD (ly-1) 0) (V.getD (ly-2) 0) HN1.out o7 o5 o6 o8 hG.1;have HGq:=anv (hG.2 gd g1 g2 g3);have HG:=anv g4;clear hG g2 g3 g4 mv zi DP Mu;generalize O.getD (t+ly) 0=x4 at *
    generalize O.getD (t+ly-1) 0=x5 at *
    generalize O.getD (t+ly-2) 0=x6 at *
    have HV1:=anv (rfl:V.getD (ly-1) 0=V.getD (ly-1) 0);generalize hx7:V.getD (ly-1) 0=x7 at *
    generalize V.getD (ly-2) 0=x8 at *
    clear hx7 HV1;have i1:(((t+1:Nat):Int)-1)=(t:Int):= aC ;have i2:((t:Int)+ly).toNat=t+ly:= aC ;have i3:((t:Int)+ly-1).toNat=t+ly-1:= aC ;have i4:((t:Int)+ly-2).toNat=t+ly-2:= aC ;have i6:((ly:Int)-2)=((ly-2:Nat):Int):= aC ;have p1:IntKind.i64.wrap ((t:Int)+ly)=(t:Int)+ly:=i64_in _ aC aC;have p2:IntKind.i64.wrap ((t:Int)+ly-1)=(t:Int)+ly-1:=i64_in _ aC aC;have p3:IntKind.i64.wrap ((t:Int)+ly-2)=(t:Int)+ly-2:=i64_in _ aC aC;have p4:IntKind.i64.wrap ((ly-1:Nat):Int)=((ly-1:Nat):Int):=i64_in _ aC aC;have p5:IntKind.i64.wrap ((ly-2:Nat):Int)=((ly-2:Nat):Int):=i64_in _ aC aC;have j6:((ly-1:Nat):Int)<ly:= aC ;have j7:((ly-2:Nat):Int)<ly:= aC ;have j0:0<=(t:Int)+ly:= aC ;have j1:0<=(t:Int)+ly-1:= aC ;have j2:0<=(t:Int)+ly-2:= aC ;have j3:(t:Int)+ly<lx+1:= aC ;have j4:(t:Int)+ly-1<(lx:Int)+1:= aC ;have j5:(t:Int)+ly-2<(lx:Int)+1:= aC ;rw[i1];clear i1;go_wp2;go_quiet (exact ahX (HG.out _));go_wp2_with fail;have HTk:=aky g t (cap-t) cap' gd O V R (some ⟨g',0,none⟩) (wr.drewN nq) (HRO.out.qJ rfl) (HSV.out.drewN nq) (λb' o _ e=>by cases e;exact Jc) HD.out.Ag (by rw[HnV.out];omega) g1 aC;rw[HnV.out,(aC:ly+1=t+ly+1-t)]at HTk;refine HTk.mono ?_;rintro e w5 ⟨O',δ,rfl,SK,qM,D3,hδ,my,Jq,D4⟩;have HRO':=anv SK;have HON:=anv D4;have HSV5:=anv ((HSV.out.drewN nq).pg (λb' o _ e=>by cases e;exact Jc) D4);have HRQ5:=anv (show Rw w5 w3.heap.size Q from(D4.pg _ aC).trans HRQ.out);have HE5:=anv (show ja w w5 from Fp.ja.akT HE.out D4 Tf);have hPt:=pw t;have SU:0<val V:=by
     have:=HD.out.lt;rcases eU (val V)with h|h
     .rw [h,c9]at this;omega
     .exact h
    have wg:IntKind.u32.wrap (gd:Int)=gd:=by rw[IntKind.wrap_u32];omega
    have htm:(t:Int)<lx+1-(ly:Int):= aC ;have TL:t<Q.length:=by rw[HD.out.Gp,HnV.out];omega
    have Mt:=bG TL;have cq:=HRQ5.out.cell Mt;have fq:=HRQ5.out.frozen t;generalize Q[t]=q0 at *
    have HQG:=anv Mt;clear Mt TL c4 c5 c6 c7 c8 HRO HRQ HSV HE HTk SK D4;rcases gp δ 1 with Ub|hδ1
    .obtain rfl:δ=0:= aC ;have SC:=RB hPt SU (by rw[my,dg,ch]) HGq.out.1;have HDS:=anv (HD.out.step (x:=gd) (by rw[HnV.out];omega) (by rw[qM,hO]) D3 aC (by rw[my,dg,ch]) SC.2);clear SC my Jq D3 qM HD HGq;have HRQ6:=anv (λx:Nat=>HRQ5.out.set t x);have HRO6:=anv (λv:Value=>HRO'.out.qJ (w':=w5.setCell ⟨w3.heap.size,t,none⟩ v) (by simp only[World.setCell,fJ];rw[bu aC]));have HSV6:=anv (λv:Value=>HSV5.out.Sd (b:=w3.heap.size) aC t v);have HE6:=anv (λv:Value=>HE5.out.setCell (p:=⟨w3.heap.size,t,none⟩) (by show w.heap.size<=w3.heap.size;omega) v);go_wp2;go_roundw
     case rel=>exact⟨t,O',Q.set t gd,aC,by go_num,HDS.out,HRO6.out _,HRQ6.out _,HSV6.out _,HE6.out _⟩
     case measure=>simp[intOf]
    .obtain rfl:δ=1:= aC ;have sf:=HD.out.Wd (x:=gd) HVok.out D3 (by rw[HnV.out];exact my) (by rw[HnV.out];exact Jq);have pN:=sf.2;have HB:=anv (λ(κ:Nat) (O2:List Nat)=>HD.out.aak (x:=gd) (κ:=κ) (O2:=O2) HVok.out (by rw[HnV.out];omega) D3 (by rw[HnV.out];exact my) (by rw[HnV.out];exact Jq) g1 HGq.out.2 SU);have HP0:=anv (xQ.start D3 t V);have Tn:O'.length=lx+1:=by rw[qM,hO]
     have HL':=anv Tn;have hxm:IntKind.u64.wrap ((gd:Int)-1)=((gd-1:Nat):Int):=by rw[IntKind.wrap_u64];omega
     have wg1:IntKind.u32.wrap ((gd-1:Nat):Int)=((gd-1:Nat):Int):=by rw[IntKind.wrap_u32];omega
     clear sf my Jq D3 qM Tn HD HGq wg cq fq;go_wp2;go_loopw [15,125] (λcy i wr2=>∃ (k c':Nat) (O2:List Nat),k<=ly/\i = .int .i64 k/\cy = .int .u32 c'/\xQ O' t V k O2 c'/\Rx wr2 g O2 R/\tu g w5 wr2) (λ_ i _=>ly-(intOf i).toNat)
     case atStart=>exact⟨0,0,O',cz _,rfl,rfl,HP0.out,HRO'.out,tu.refl _ _⟩
     case round=>
      clear HP0 HRO';obtain⟨k,c',O2,xi,rfl,rfl,hP,A4,F4⟩:=hrel;have HP:=anv hP;have Ba:=hP.Lq;have oD:O2.length=lx+1:=by rw[hP.len];exact HL'.out
      have HL2:=anv oD;clear hP;by_cases iJ:k<ly
      .have zE:k<V.length:=by rw[HnV.out];exact iJ
       obtain⟨_,_,e1,_,c1⟩:=(HSV5.out.pg (λb' o _ e=>by cases e;exact Jc) F4).nc zE;cases e1;rw[cD]at c1;have v7:V[k]=V.getD k 0:=by simp[bC,zE]
       rw[v7]at c1;have qF:t+k<O2.length:= aC ;have c2:=A4.cell qF;have c3:=A4.frozen (t+k);have rG:V.getD k 0<4294967296:=HVok.out.getD k;have Gc:O2.getD (t+k) 0<4294967296:=HP.out.ok.getD _;have HST:=anv (HP.out.step HVok.out zE (by rw[HL'.out,HnV.out];omega));have HRS:=anv (λx:Nat=>A4.set qF x);have HOS:=anv (λ(v:Value)=>F4.Ha (t+k) v);have HA:=anv (λw=>E8 (O2.getD (t+k) 0) (V.getD k 0) c' w Gc rG Ba);clear A4 F4 HP v7 zE qF oD HL2;generalize O2.getD (t+k) 0=u at *
       generalize V.getD k 0=y at *
       have zz:((t:Int)+k).toNat=t+k:= aC ;have DT:0<=(t:Int)+k:= aC ;have hi3:(t:Int)+k<lx+1:= aC ;go_wp2_with fail;refine(HA.out _).mono ?_;rintro e w6 ⟨rfl,rfl⟩;go_wp2;go_roundw
       case rel=>
        exact⟨k+1,(u+y+c')/4294967296,O2.set (t+k) ((u+y+c')%4294967296),aC,by go_num,rfl,HST.out,HRS.out _,HOS.out _⟩
       case measure=>simp[intOf];omega
      .obtain rfl:k=ly:= aC ;have SI:=(show xQ O' t V V.length O2 c' by rw[HnV.out];exact HP.out).NL (by rw[HL'.out,HnV.out];omega);rw[HnV.out]at SI;obtain⟨q1,q2,⟨κ,q3,q4⟩,q5⟩:=SI;have qF:t+k<O2.length:= aC ;have c2:=A4.cell qF;have c3:=A4.frozen (t+k);have Gc:O2.getD (t+k) 0<4294967296:=HP.out.ok.getD _;have HDS:=anv (HB.out κ _ (by rw[q1];exact HL'.out) q2 q3 (by rw[HnV.out];exact q4) (by rw[HnV.out];exact q5));have HRS:=anv (λx:Nat=>A4.set qF x);have HOS:=anv (λ(v:Value)=>F4.Ha (t+k) v);have I4:∀ v:Value,Rw (wr.setCell ⟨g,t+k,none⟩ v) w3.heap.size Q:=λv=>((HOS.out v).pg _ aC).trans HRQ5.out
       have hcq:∀ v:Value,(wr.setCell ⟨g,t+k,none⟩ v).cell? ⟨w3.heap.size,t,none⟩=some (.int .u32 (q0:Int)):=λv=>(I4 v).cell HQG.out
       have hfq:∀ v:Value,(wr.setCell ⟨g,t+k,none⟩ v).frozen? ⟨w3.heap.size,t,none⟩=false:=λv=>(I4 v).frozen t
       have HRQ8:=anv (λ(v:Value) (x:Nat)=>(I4 v).set t x);have HRO8:=anv (λ(x:Nat) (v:Value)=>(HRS.out x).qJ (w':=(wr.setCell ⟨g,t+k,none⟩ (.int .u32 (x:Int))).setCell ⟨w3.heap.size,t,none⟩ v) (by simp only[World.setCell,fJ];rw[bu aC]));have HSV8:=anv (λ(v v2:Value)=>(HSV5.out.pg (λb' o _ e=>by cases e;exact Jc) (HOS.out v)).Sd (b:=w3.heap.size) aC t v2);have HE8:=anv (λ(v v2:Value)=>(Fp.ja.only HE5.out (HOS.out v) Tf).setCell (p:=⟨w3.heap.size,t,none⟩) (by show w.heap.size<=w3.heap.size;omega) v2);clear I4 HRS HOS A4 F4 HP q1 q2 q3 q4 q5 qF oD HL2;generalize O2.getD (t+k) 0=u at *
       have zz:((t:Int)+k).toNat=t+k:= aC ;have DT:0<=(t:Int)+k:= aC ;have hi3:(t:Int)+k<lx+1:= aC ;have hi4:IntKind.u32.wrap ((u:Int)+c')=(((u+c')%4294967296:Nat):Int):=by rw[IntKind.wrap_u32];omega
       generalize (u+c')%4294967296=uu at *
       go_wp2;go_roundw
       case rel=>exact⟨t,O2.set (t+k) uu,Q.set t (gd-1),aC,by go_num,HDS.out,HRO8.out _ _,HRQ8.out _ _,HSV8.out _ _,HE8.out _ _⟩
       case measure=>simp[intOf]
def ajX:E.le (.v (.slice none 0 0)) (iu []):=λbs br w v h=>by
 obtain rfl:=iO.kG h;exact .sl false 0 1 _ none 0 (λ_ _=>undef) (bD _) aE (λ_=>rfl) (λi j hi=>absurd hi (bF i)) (λi j hi=>absurd hi (bF i)) (λi j hi=>absurd hi (bF i)) (λi j hi=>absurd hi (bF i))
def ajY{x:Nat}:E.le (.sl false 1 1 λi_ j_=>[.v (.int .u32 (x:Int))].getD (i_*1+j_) (.v (.bool false))) (iu [x]):=.sl λi j hi hj=>by
 obtain rfl:i=0:= aC ;obtain rfl:j=0:= aC ;exact⟨.refl _,rfl⟩
def Rf(L:List Nat)(hk:iY L):ik 260 [iu L] (iu L):=GP hk call260 (λA c w h _=>Lu A c L w h) λA c B w e w' h hB ⟨h1,h2⟩=>by
 subst h2;exact⟨_,h1,Below.refl _ _,BO hB (Below.refl _ _) ⟨bD _,h.len,h.ok,λhn=>by have:=h.yM hn;have:=h.cap;omega,h.cell⟩⟩
def Rh(L:List Nat)(hk:iY L)(hl:L.length<=1000000):ik 204 [iu L] (iu L):=GP hk call204 (λA c w h _=>Lw A c L w h aC) λA c B w e w' h hB r=>rl B w e w' hB r
def agA(L M:List Nat)(hL:iY L)(hM:iY M)(h1:L.length<=100000)(h2:M.length<=100000)(hc:lf (val (iT L)) (val (iT M))<0):ik 322 [iu L,iu M] (.iE [iu [],iu (iT L)]):=by
 have ta:=pW L;have tb:=pW M;unfold mT at ta tb;exact ak call322 func322 (ae [ag [iu L] (uE _ aD),ag [iu M] (uE _ aD),ag [iu (iT L),iu (iT M)] (N7 _ _ (iY.iT aD) (iY.iT aD) aC aC),tB 25 (bA hc),ag [iu (iT L)] (Rh _ (iY.iT aD) aC)]<|rR (.iE [iu [],iu (iT L)]) (.iE (.cons ajX (.cons (.refl _) .nil)):E.le (.iE [.v (.slice none 0 0),iu (iT L)]) (.iE [iu [],iu (iT L)]))) 
def agB(L M:List Nat)(hL:iY L)(hM:iY M)(h1:L.length<=100000)(h2:M.length<=100000)(hc:¬lf (val (iT L)) (val (iT M))<0)(hl:(iT M).length=1)(Bb:0<(iT M).getD 0 0)(Bc:(iT M).getD 0 0<4294967296):ik 322 [iu L,iu M] (.iE [iu (pq (val (iT L)/(iT M).getD 0 0) (iT L).length),iu [val (iT L)%(iT M).getD 0 0]]):=by
 have ta:=pW L;have tb:=pW M;unfold mT at ta tb;exact ak call322 func322 (ae [ag [iu L] (uE _ aD),ag [iu M] (uE _ aD),ag [iu (iT L),iu (iT M)] (N7 _ _ (iY.iT aD) (iY.iT aD) aC aC),tB 25 (bB hc),ah 30 (((iT M).length:Int)==1) (by rw[hl];rfl),iX 0 ((iT M).length) aC,.c (agK (iT L) ((iT M).getD 0 0) (iY.iT aD) aC Bb Bc)]<|rR (.iE [iu (pq (val (iT L)/(iT M).getD 0 0) (iT L).length),iu [val (iT L)%(iT M).getD 0 0]]) (.iE (.cons (.refl _) (.cons ajY .nil)):E.le (.iE [iu (pq (val (iT L)/((iT M).getD 0 0)) (iT L).length),(.sl false 1 1 λi_ j_=>[.v (.int .u32 ((val (iT L)%((iT M).getD 0 0):Nat):Int))].getD (i_*1+j_) (.v (.bool false)))]) (.iE [iu (pq (val (iT L)/(iT M).getD 0 0) (iT L).length),iu [val (iT L)%(iT M).getD 0 0]]))) 
def N8(L M:List Nat)(hL:iY L)(hM:iY M)(h1:L.length<=100000)(h2:M.length<=100000)(h0:val M≠0):∃ T S:List Nat,ik 322 [iu L,iu M] (.iE [iu T,iu S])/\val T=val L/val M/\val S=val L%val M/\iY T/\iY S/\T.length<=L.length/\S.length<=L.length+1:=by
 have ta:=pW L;have tb:=pW M;unfold mT at ta tb;have e1:=qv L;have e2:=qv M;by_cases hc:lf (val (iT L)) (val (iT M))<0
 .refine ⟨[],iT L,agA L M hL hM h1 h2 hc,?_,?_,iY.nil,hL.iT,cz _,aC⟩
  .rw [e1,e2]at hc;have:val L<val M:=by unfold lf at hc;split at hc<;>(try split at hc)<;>omega
   rw[dx this];rfl
  .rw [e1,e2]at hc;have:val L<val M:=by unfold lf at hc;split at hc<;>(try split at hc)<;>omega
   rw[cH this,e1]
 .have tS:val M<=val L:=by rw[e1,e2]at hc;unfold lf at hc;split at hc<;>(try split at hc)<;>omega
  have kj:iT M≠[]:=by intro h;rw[h]at e2;exact h0 e2.symm
  have hlen:(iT M).length≠0:=by simpa using kj
  by_cases hl:(iT M).length=1
  .obtain ⟨x,hx⟩:=amM.1 hl;have mv:=hM.iT;rw[hx]at mv;have T4:x=val M:=by rw[<-e2,hx];simp[val]
   have hg:(iT M).getD 0 0=x:=by rw[hx];rfl
   have:=agB L M hL hM h1 h2 hc hl (by rw[hg];omega) (by rw[hg];exact mv.head);rw[hg]at this;refine⟨_,_,this,?_,?_,Fw _ _,iY.cons (fR (bS _ aC) mv.head) iY.nil,by rw[AO];exact ta,aH⟩
   .rw [Ho,cH,e1,T4];exact cP (cv _ _) (oX hL.iT)
   .simp [val,e1,T4]
  .refine ⟨_,_,GQ hL hM call322 (λA c B d w h k hT=>acf A B c d L M w _ _ _ rfl rfl rfl h k hT h1 h2 tS aC) (λB w e w' hB ⟨A1,c1,B1,d1,q1,q2,q3,q4⟩=>⟨_,q1,q4,ky.iE (.cons (BO hB q4 q2) (.cons (BO hB q4 q3) (.nil _ _ _)))⟩),?_,?_,Fw _ _,By _ _,?_,?_⟩
   .rw [Ho,cH];rw[cS aC];have g1:=oX hL.iT;rw[e1]at g1;refine bX g1 ?_;obtain⟨l,qM⟩:∃ l,(iT M).length=l+1:=⟨(iT M).length-1,aC⟩
    have g2:4294967296^l<=val M:=by
     apply ck;intro q;have q2:(im (val M)).length<=l:=xA aC;rw[<-sG hM]at q2;omega
    have g3:=cW (4294967296^((iT L).length+1-(iT M).length)) g2;rw[<-bH]at g3;refine bI ?_ g3;exact bY aE aC 
   .rw [KF (nD _),lh,ep _ (bJ aE)]
   .rw [AO];omega
   .rw [Kl,eV];have hb:32-iD ((iT M).getD ((iT M).length-1) 0)<33:= aC ;have:=afS (nD (val L%val M)) (32-iD ((iT M).getD ((iT M).length-1) 0));rw[lh]at this;have h3:(im (val L%val M)).length<=(im (val L)).length:=nB (fe _ _);rw[<-sG hL]at h3;omega
def Aa(m n:Nat)(h1:(im m).length<=256)(h2:(im n).length<=256)(h0:n≠0):ik 286 [iu (im m),iu (im n)] (.iE [iu (im (m/n)),iu (im (m%n)),iP 0]):=by
 obtain⟨T,S,sw,hT,hS,oT,oS,_,_⟩:=N8 (im m) (im n) (nD m) (nD n) aC aC (by rw[lh];exact h0);rw[lh,lh]at hT hS;have hz:iT (im n)=im n:=BU n;have hl:=q9 h0;have oD:(((iT (im n)).length:Int)==0)=false:=by rw[hz];exact pz hl
 exact ak call286 func286 (ae [.c (VI (im m) (im n) aD aD),ag [iu (im n)] (uE _ (nD _)),ai 18 (((iT (im n)).length:Int)==0) oD,ag [iu (im m),iu (im n)] sw,ag [iu T] (uE _ aD),ag [iu (iT T)] (Rf _ (iY.iT aD)),ag [iu S] (uE _ aD),ag [iu (iT S)] (Rf _ (iY.iT aD))]<|rQ (.iE [iu (iT T),iu (iT S),iP 0]) (.iE [iu (im (m/n)),iu (im (m%n)),iP 0]) (by rw[sG oT,sG oS,hT,hS])) 
def Ww(a b:Dy)(p:Nat)(up:Bool)(ha:a.iy)(hb:b.iy)(b0:b.m≠0)(iB:8<=p)(iw:p<=512):ik 251 [iA a,iA b,iP p,bP up] (.iE [iA (oC a b p up),iP (pZ a b p up)]):=by
 by_cases a0:a.m=0
 .have e1:oC a b p up=iS/\pZ a b p up=0:=by unfold oC pZ;rw[bw a0,bw a0];exact⟨rfl,rfl⟩
  exact ak call251 func251 (ae [.o 18 (.e (w9 _ _):aj (.sl true 2 3 λi_ j_=>(iR a++iR b).getD (i_*3+j_) (.v (.bool false))) (nZ [a,b])),ag [iP p,nZ [a,b]] (xH _ _ _ aD aD aC aC),ai 21 ((0:Int) != 0) aE,ai 28 (((im b.m).length:Int)==0) (pz (q9 b0)),ah 34 (((im a.m).length:Int)==0) (vL (yJ.2 a0)),.o 35 (.e Au:aj (.agg ar) (iA iS))]<|rQ (.iE [iA iS,iP 0]) (.iE [iA (oC a b p up),iP (pZ a b p up)]) (by rw[e1.1,e1.2])) 
 .have va:=ha.im;have vb:=hb.im;have xa:=ha.exp;have xb:=hb.exp;have ra:=ha.range.resolve_left a0;have rb:=hb.range.resolve_left b0;have pa:=pn a0;have pb:=pn b0;have hK:lG a b p 3=p+3+iD b.m-iD a.m:=rfl;have bs:=sL a0 (lG a b p 3);have z1:(im (a.m*2^lG a b p 3)).length<=256:=pQ aC;have hq:=LH a0 b0 p 3 aE;have q0:a.m*2^lG a b p 3/b.m≠0:=by intro q;rw[q,sM]at hq;omega
  have z2:(im (a.m*2^lG a b p 3/b.m)).length<=256:=pQ (by have:=wY (cv (a.m*2^lG a b p 3) b.m);omega);have z3:(im (a.m*2^lG a b p 3%b.m)).length<=256:=pQ (by have:=wY (dR (bS (a.m*2^lG a b p 3) (eE b0)));omega);have mf:decide (0<(iD (a.m*2^lG a b p 3%b.m):Int))=decide (a.m*2^lG a b p 3%b.m≠0):=by
   by_cases h:a.m*2^lG a b p 3%b.m=0
   .rw [h,sM];rfl
   .have:=pn h;rw[bA h,bA aC]
  obtain⟨d1,d2⟩:=acd a0 b0 p up;have h0:a.m*2^lG a b p 3/b.m≠0\/a.m*2^lG a b p 3/b.m=0/\a.e-(lG a b p 3:Int)-b.e=0/\decide (0<(iD (a.m*2^lG a b p 3%b.m):Int))=false:=.inl q0;have hm:decide (0<(iD (a.m*2^lG a b p 3%b.m):Int))=true->p<iD (a.m*2^lG a b p 3/b.m):=λ_=>hq
  exact ak call251 func251 (ae [.o 18 (.e (w9 _ _):aj (.sl true 2 3 λi_ j_=>(iR a++iR b).getD (i_*3+j_) (.v (.bool false))) (nZ [a,b])),ag [iP p,nZ [a,b]] (xH _ _ _ aD aD aC aC),ai 21 ((0:Int) != 0) aE,ai 28 (((im b.m).length:Int)==0) (pz (q9 b0)),ai 34 (((im a.m).length:Int)==0) (pz (q9 a0)),iL ((p:Int)+3) aC,ag [iA b] (IE _ aD),iL (((p:Int)+3)+(iD (Dy.m b):Int)) aC,ag [iA a] (IE _ aD),
   iL ((((p:Int)+3)+(iD (Dy.m b):Int))-(iD (Dy.m a):Int)) aC,.o 44 (aq (if((((p:Int)+3)+(iD (Dy.m b):Int))-(iD (Dy.m a):Int))>0 then((((p:Int)+3)+(iD (Dy.m b):Int))-(iD (Dy.m a):Int))else 0) (lG a b p 3:Int) aM),.c (wO a.m (lG a b p 3) aC aC aC),ag [iu (im (a.m*2^(lG a b p 3))),iu (im b.m)] (Aa _ _ aC aC aD),
   iL (a.e-(lG a b p 3:Int)) aC,iL ((a.e-(lG a b p 3:Int))-b.e) aC,ag [iu (im ((a.m*2^(lG a b p 3))%b.m))] (tf _ aC),.c (GX (! (a.neg==b.neg)) ((a.m*2^(lG a b p 3))/b.m) ((a.e-(lG a b p 3:Int))-b.e) (decide (0<(iD ((a.m*2^(lG a b p 3))%b.m):Int))) up p aC aD aC aC aC aC aD)]<|rQ (.iE [iA (ku (!(a.neg==b.neg)) ((a.m*2^(lG a b p 3))/b.m) ((a.e-(lG a b p 3:Int))-b.e) (decide (0<(iD ((a.m*2^(lG a b p 3))%b.m):Int))) p up),iP (j9 (!(a.neg==b.neg)) ((a.m*2^(lG a b p 3))/b.m) ((a.e-(lG a b p 3:Int))-b.e) (decide (0<(iD ((a.m*2^(lG a b p 3))%b.m):Int))) p up)]) (.iE [iA (oC a b p up),iP (pZ a b p up)]) (by rw[<-d1,<-d2,<-mf];rfl)) 
def Wu(a b:Dy)(p:Nat)(ha:a.iy)(hb:b.iy)(b0:b.m≠0)(iB:8<=p)(iw:p<=512):ik 207 [iA a,iA b,iP p] (.iE [iA (oC a b p false),iP (pZ a b p false)]):=
 ak call207 func207 (af [.c (Ww a b p false aD aD aD aC aC)]) 
def Wv(a b:Dy)(p:Nat)(ha:a.iy)(hb:b.iy)(b0:b.m≠0)(iB:8<=p)(iw:p<=512):ik 208 [iA a,iA b,iP p] (.iE [iA (oC a b p true),iP (pZ a b p true)]):=
 ak call208 func208 (af [.c (Ww a b p true aD aD aD aC aC)]) 
def Us(l:List Iv)(i:Nat):PS:=⟨19,true,[(7,.e (iP i)),(6,.e (iP l.length)),(5,.e (iq l))],[]⟩
def Ur(l:List Iv)(N:Nat)(i:Nat):PS:=⟨19,true,[(7,.e (iP i)),(6,.e (iP l.length)),(5,.e (iq l))],[]⟩
def lJ(a:Iv):E.le (.sl true 1 7 λi j=>(iQ a).getD (i*7+j) (.v (.bool false))) (iq [a]):=.sl λi j hi hj=>by
 obtain rfl:i=0:= aC ;rcases j with _|_|_|_|_|_|_|j
 all_goals first|exact⟨.refl _,rfl⟩|omega
def zT(a b:Iv):E.le (.sl true 2 7 λi j=>(iQ a++iQ b).getD (i*7+j) (.v (.bool false))) (iq [a,b]):=.sl λi j hi hj=>by
 obtain rfl|rfl:i=0\/i=1:= aC 
 all_goals
  rcases j with _|_|_|_|_|_|_|j
  all_goals first|exact⟨.refl _,rfl⟩|omega
def tZ{x:Iv}(h:x.iy)(ha:x.all=false):x.lo.iy/\x.hi.iy/\jE x.lo x.hi<=0:=by
 rcases h with⟨h1,_⟩|⟨_,h⟩
 .rw [ha]at h1;cases h1
 .exact h
def Uu{x:Iv}(h:x.iy)(ha:x.all=true):x.lo=iS/\x.hi=iS:=by
 rcases h with⟨_,h⟩|⟨h1,_⟩
 .exact h
 .rw [ha]at h1;cases h1
def nW : ik 138 [] (iz ix):=
 ak call138 func138 (af [.o 1 (.e KM:aj (.agg [bP false,.v (.slice none 0 0),iP 0,bP false,.v (.slice none 0 0),iP 0,bP true]) (iz ix))]) 
def CF(lo hi:Dy)(e f:Int):ik 146 [iA lo,iP e,iA hi,iP f] (iz (mh lo e hi f)):=by
 by_cases he:e=0
 .by_cases hf:f=0
  .exact ak call146 func146 (ae [ai 10 (e != 0) (by rw[he];rfl),ai 13 (f != 0) (by rw[hf];rfl)]<|rQ (iz (Iv.mk lo hi false)) (iz (mh lo e hi f)) (by rw[show mh lo e hi f=⟨lo,hi,false⟩by unfold mh;rw[bu (by simp[he,hf])]];try rfl)) 
  .exact ak call146 func146 (ae [ai 10 (e != 0) (by rw[he];rfl),ah 13 (f != 0) (by simpa using hf),.c nW]<|rQ (iz ix) (iz (mh lo e hi f)) (by rw[show mh lo e hi f=ix by unfold mh;rw[bw (.inr hf)]])) 
 .exact ak call146 func146 (ae [ah 10 (e != 0) (by simpa using he),.c nW]<|rQ (iz ix) (iz (mh lo e hi f)) (by rw[show mh lo e hi f=ix by unfold mh;rw[bw (.inl he)]])) 
def Uw : ik 200 [iA iS] (bP true):=
 ak call200 func200 (af [ai 4 iS.neg rfl,ah 10 (((im iS.m).length:Int)==0) (vL (yJ.2 rfl)),ah 15 (iS.e==0) rfl]) 
def qH(x:Iv)(hx:x.iy):ik 127 [iz x] (bP true):=by
 by_cases lp:x.all=true
 .obtain ⟨h1,h2⟩:=Uu hx lp;exact ak call127 func127 (af [ah 5 x.all lp,.c (by rw[h1];exact Uw:ik 200 [iA x.lo] (bP true)),.c (by rw[h2];exact Uw:ik 200 [iA x.hi] (bP true))]) 
 .replace lp:x.all=false:=by simpa using lp
  obtain⟨h1,h2,h3⟩:=tZ hx lp;exact ak call127 func127 (af [ai 5 x.all lp,ag [iA x.lo] (q7 _ aD),ag [iA x.hi] (q7 _ aD),ag [iA x.lo,iA x.hi] (nv _ _ aD aD),tB 30 (bA h3)]) 
def Ut(l:List Iv)(hl:l.length<=1000)(hv:∀ i,i<l.length->(l.getD i ix).iy)(ha:∀ i,i<l.length->(l.getD i ix).all=false):ik 143 [iq l] (bP true):=
 ak call143 func143 (af [.s (Sp.kE (Us l) 0 l.length aC (λi hi rF=>by
    have TU:=hv i aC;have MC:=ha i aC;exact jh (af [tT 8 ((i:Int)<l.length) aC,iX (i:Int) (l.length) aC,ai 12 ((l.getD i ix).all) MC,.c (qH (l.getD i ix) aD),
     iL ((i:Int)+1) aC]) aF)
  (λhi=>by
    exact jh (af [tF 8 ((l.length:Int)<l.length) aC]) aF) aI:kD 2 f143 (Us l 0) (.exit 0) ⟨19,true,[],[]⟩) .nil]) 
def NB(l:List Iv)(hl:l.length<=1000)(hv:∀ i,i<l.length->(l.getD i ix).iy)(N:Nat)(hN:N<l.length)(ha:∀ i,i<N->(l.getD i ix).all=false)(sS:(l.getD N ix).all=true):ik 143 [iq l] (bP false):=
 ak call143 func143 (af [.s (Sp.kE (Ur l N) 0 N aC (λi hi rF=>by
    have TU:=hv i aC;have MC:=ha i aC;exact jh (af [tT 8 ((i:Int)<l.length) aC,iX (i:Int) (l.length) aC,ai 12 ((l.getD i ix).all) MC,.c (qH (l.getD i ix) aD),
     iL ((i:Int)+1) aC]) aF)
  (λhi=>by
    exact jh (af [tT 8 ((N:Int)<l.length) aC,iX (N:Int) (l.length) aC,ah 12 ((l.getD N ix).all) sS]) aF) aI:kD 2 f143 (Ur l N 0) .ret ⟨19,true,[(2,.e (bP false))],[]⟩) .nil]) 
def qi(x:Iv)(hx:x.iy):ik 143 [iq [x]] (bP (!x.all)):=by
 have hv:∀ i,i<[x].length->([x].getD i ix).iy:=λi hi=>(match i,hi with
  | 0,_=>hx
  |n+1,hi=>absurd hi aH)
 cases lp:x.all with
 |true=>exact NB [x] aH hv 0 aH (λi hi=>absurd hi (bF i)) lp
 |false=>exact Ut [x] aH hv (λi hi=>(match i,hi with
  | 0,_=>lp
  |n+1,hi=>absurd hi aH))
def zS(x y:Iv)(hx:x.iy)(hy:y.iy):ik 143 [iq [x,y]] (bP (!(x.all||y.all))):=by
 have hv:∀ i,i<[x,y].length->([x,y].getD i ix).iy:=λi hi=>(match i,hi with
  | 0,_=>hx
  | 1,_=>hy
  |n+2,hi=>absurd hi aH)
 cases lp:x.all with
 |true=>exact NB [x,y] aH hv 0 aH (λi hi=>absurd hi (bF i)) lp
 |false=>cases Bj:y.all with
  |true=>exact NB [x,y] aH hv 1 aH (λi hi=>(match i,hi with
   | 0,_=>lp
   |n+1,hi=>absurd hi aC)) Bj
  |false=>exact Ut [x,y] aH hv (λi hi=>(match i,hi with
   | 0,_=>lp
   | 1,_=>Bj
   |n+2,hi=>absurd hi aH))
def wG(x y:Iv)(p:Nat)(hx:x.iy)(hy:y.iy)(iB:8<=p)(iw:p<=512):ik 61 [iz x,iz y,iP p] (iz (jO x y p)):=by
 by_cases hk:(x.all||y.all)=true
 .exact ak call61 func61 (ae [.o 13 (.e (zT _ _):aj (.sl true 2 7 λi_ j_=>(iQ x++iQ y).getD (i_*7+j_) (.v (.bool false))) (iq [x,y])),ag [iq [x,y]] (zS _ _ aD aD),ai 14 (!(x.all||y.all)) (by rw[hk];rfl),.c nW]<|rQ (iz ix) (iz (jO x y p)) (by rw[show jO x y p=ix by unfold jO;rw[bw hk]])) 
 .replace hk:(x.all||y.all)=false:=by simpa using hk
  have lp:x.all=false:=by cases h:x.all;rfl;rw[h]at hk;simp at hk
  have Bj:y.all=false:=by cases h:y.all;rfl;rw[h]at hk;simp at hk
  obtain⟨v1,v2,v3⟩:=tZ hx lp;obtain⟨v4,v5,v6⟩:=tZ hy Bj;exact ak call61 func61 (ae [.o 13 (.e (zT _ _):aj (.sl true 2 7 λi_ j_=>(iQ x++iQ y).getD (i_*7+j_) (.v (.bool false))) (iq [x,y])),ag [iq [x,y]] (zS _ _ aD aD),ah 14 (!(x.all||y.all)) (by rw[hk];rfl),ag [iP p] (vG _),ah 18 (pT (p:Int)) (uI.2 ⟨aC,aC⟩),.c (Ws x.lo y.lo p aD aD aC aC),.c (C4 x.hi y.hi p aD aD aC aC),.c (CF (iM (iG x.lo y.lo) p false) (iM (iG x.hi y.hi) p true) (jP (iG x.lo y.lo) p false) (jP (iG x.hi y.hi) p true))]<|rQ (iz (mh (iM (iG x.lo y.lo) p false) (jP (iG x.lo y.lo) p false) (iM (iG x.hi y.hi) p true) (jP (iG x.hi y.hi) p true))) (iz (jO x y p)) (by rw[show jO x y p=_ by unfold jO;rw[bu (by rw[hk];decide)]])) 
def Jw(x:Iv)(hx:x.iy):ik 205 [iz x] (iz (mz x)):=by
 by_cases lp:x.all=true
 .exact ak call205 func205 (ae [.o 4 (.e (lJ _):aj (.sl true 1 7 λi_ j_=>(iQ x).getD (i_*7+j_) (.v (.bool false))) (iq [x])),ag [iq [x]] (qi _ aD),ai 5 (!x.all) (by rw[lp];rfl),.c nW]<|rQ (iz ix) (iz (mz x)) (by rw[show mz x=ix by unfold mz;rw[bw lp]])) 
 .replace lp:x.all=false:=by simpa using lp
  obtain⟨v1,v2,v3⟩:=tZ hx lp;exact ak call205 func205 (ae [.o 4 (.e (lJ _):aj (.sl true 1 7 λi_ j_=>(iQ x).getD (i_*7+j_) (.v (.bool false))) (iq [x])),ag [iq [x]] (qi _ aD),ah 5 (!x.all) (by rw[lp];rfl),ag [iA x.hi] (um _ aD),ag [iA x.lo] (um _ aD)]<|rQ (iz (Iv.mk (iK x.hi) (iK x.lo) false)) (iz (mz x)) (by rw[show mz x=⟨iK x.hi,iK x.lo,false⟩by unfold mz;rw[bu (by rw[lp];decide)]];try rfl)) 
def yD(x y:Iv)(p:Nat)(hx:x.iy)(hy:y.iy)(iB:8<=p)(iw:p<=512):ik 140 [iz x,iz y,iP p] (iz (rm x y p)):=by
 have hn:=Bu hy;exact ak call140 func140 (af [.c (Jw y aD),.c (wG x (mz y) p aD aD aC aC)]) 
def rZ(d:Dy)(hd:d.iy):ik 62 [iA d] (iz (jF d)):=
 ak call62 func62 (af [ag [iA d] (q7 _ aD)]) 
def Fz(d:Dy)(hd:d.iy):ik 174 [iA d] (iA (mw d)):=by
 have hl:=hd.im;by_cases h0:d.m=0
 .have e1:mw d=iS:=by
   rcases hd.canon with q|q
   .unfold mw iS;rw[q.1,q.2.2]
   .omega
  exact ak call174 func174 (ae [ag [iA d] (q7 _ aD),ah 10 (((im d.m).length:Int)==0) (vL (yJ.2 h0)),.o 12 (.e Au:aj (.agg ar) (iA iS))]<|rQ (iA iS) (iA (mw d)) (by rw[e1])) 
 .exact ak call174 func174 (af [ag [iA d] (q7 _ aD),ai 10 (((im d.m).length:Int)==0) (pz (q9 h0)),ag [iu (im d.m)] (Rh _ (nD _) aC)]) 
def Ef(a b:Dy)(ha:a.iy)(hb:b.iy):ik 210 [iA a,iA b] (iA (jk a b)):=by
 have hc:=Fm a b;by_cases h:(jE a b<=0)
 .exact ak call210 func210 (ae [ag [iA a,iA b] (nv _ _ aD aD),tB 8 (bA h)]<|rQ (iA a) (iA (jk a b)) (by unfold jk;rw[bu aC])) 
 .exact ak call210 func210 (ae [ag [iA a,iA b] (nv _ _ aD aD),tB 8 (bB h)]<|rQ (iA b) (iA (jk a b)) (by unfold jk;rw[bw aC])) 
def Eg(a b:Dy)(ha:a.iy)(hb:b.iy):ik 209 [iA a,iA b] (iA (jg a b)):=by
 have hc:=Fm a b;by_cases h:(0<=jE a b)
 .exact ak call209 func209 (ae [ag [iA a,iA b] (nv _ _ aD aD),tB 8 (bA h)]<|rQ (iA a) (iA (jg a b)) (by unfold jg;rw[bu aC])) 
 .exact ak call209 func209 (ae [ag [iA a,iA b] (nv _ _ aD aD),tB 8 (bB h)]<|rQ (iA b) (iA (jg a b)) (by unfold jg;rw[bw aC])) 
def Bn(x:Iv)(hx:x.iy):ik 132 [iz x] (iP (lZ x)):=by
 by_cases lp:x.all=true
 .exact ak call132 func132 (ae [.o 5 (.e (lJ _):aj (.sl true 1 7 λi_ j_=>(iQ x).getD (i_*7+j_) (.v (.bool false))) (iq [x])),ag [iq [x]] (qi _ aD),ai 6 (!x.all) (by rw[lp];rfl)]<|rQ (iP 0) (iP (lZ x)) (by rw[show lZ x=0 by unfold lZ;rw[bw lp]])) 
 .replace lp:x.all=false:=by simpa using lp
  obtain⟨v1,v2,v3⟩:=tZ hx lp;by_cases h1:0<x.lo.jG
  .exact ak call132 func132 (ae [.o 5 (.e (lJ _):aj (.sl true 1 7 λi_ j_=>(iQ x).getD (i_*7+j_) (.v (.bool false))) (iq [x])),ag [iq [x]] (qi _ aD),ah 6 (!x.all) (by rw[lp];rfl),ag [iA x.lo] (pC _ aD),tB 12 (bA h1)]<|rQ (iP 1) (iP (lZ x)) (by rw[show lZ x=1 by unfold lZ;rw[bu (by rw[lp];decide)];simp[h1]])) 
  .by_cases h2:x.hi.jG<0
   .exact ak call132 func132 (ae [.o 5 (.e (lJ _):aj (.sl true 1 7 λi_ j_=>(iQ x).getD (i_*7+j_) (.v (.bool false))) (iq [x])),ag [iq [x]] (qi _ aD),ah 6 (!x.all) (by rw[lp];rfl),ag [iA x.lo] (pC _ aD),tB 12 (bB h1),ag [iA x.hi] (pC _ aD),tB 17 (bA h2)]<|rQ (iP (-1)) (iP (lZ x)) (by rw[show lZ x = -1 by unfold lZ;rw[bu (by rw[lp];decide)];simp[h1,h2]])) 
   .exact ak call132 func132 (ae [.o 5 (.e (lJ _):aj (.sl true 1 7 λi_ j_=>(iQ x).getD (i_*7+j_) (.v (.bool false))) (iq [x])),ag [iq [x]] (qi _ aD),ah 6 (!x.all) (by rw[lp];rfl),ag [iA x.lo] (pC _ aD),tB 12 (bB h1),ag [iA x.hi] (pC _ aD),tB 17 (bB h2)]<|rQ (iP 0) (iP (lZ x)) (by rw[show lZ x=0 by unfold lZ;rw[bu (by rw[lp];decide)];simp[h1,h2]])) 
def NC(x:Iv)(hx:x.iy)(lp:x.all=false):ik 182 [iz x] (.iE [iA (ng x),bP true]):=by
 obtain⟨v1,v2,v3⟩:=tZ hx lp;have w1:=y4 v1;have w2:=y4 v2;exact ak call182 func182 (af [.o 5 (.e (lJ _):aj (.sl true 1 7 λi_ j_=>(iQ x).getD (i_*7+j_) (.v (.bool false))) (iq [x])),ag [iq [x]] (qi _ aD),ah 6 (!x.all) (by rw[lp];rfl),.c (Fz x.lo aD),.c (Fz x.hi aD),.c (Eg (mw x.lo) (mw x.hi) aD aD)]) 
def afb(x:Iv)(hx:x.iy)(lp:x.all=false):ik 287 [iz x] (.iE [iA (ph x),bP true]):=by
 obtain⟨v1,v2,v3⟩:=tZ hx lp;have w1:=y4 v1;have w2:=y4 v2;by_cases hs:lZ x=0
 .exact ak call287 func287 (ae [.o 5 (.e (lJ _):aj (.sl true 1 7 λi_ j_=>(iQ x).getD (i_*7+j_) (.v (.bool false))) (iq [x])),ag [iq [x]] (qi _ aD),ah 6 (!x.all) (by rw[lp];rfl),.c (Bn x aD),ah 11 ((lZ x)==0) (by rw[hs];rfl),.o 12 (.e Au:aj (.agg ar) (iA iS))]<|rQ (.iE [iA iS,bP true]) (.iE [iA (ph x),bP true]) (by rw[show ph x=iS by unfold ph;rw[bw hs]])) 
 .exact ak call287 func287 (ae [.o 5 (.e (lJ _):aj (.sl true 1 7 λi_ j_=>(iQ x).getD (i_*7+j_) (.v (.bool false))) (iq [x])),ag [iq [x]] (qi _ aD),ah 6 (!x.all) (by rw[lp];rfl),.c (Bn x aD),ai 11 ((lZ x)==0) (by simpa using hs),.c (Fz x.lo aD),.c (Fz x.hi aD),.c (Ef (mw x.lo) (mw x.hi) aD aD)]<|rQ (.iE [iA (jk (mw x.lo) (mw x.hi)),bP true]) (.iE [iA (ph x),bP true]) (by rw[show ph x=jk (mw x.lo) (mw x.hi)by unfold ph;rw[bu hs]])) 
def NA(x:Iv)(hx:x.iy):ik 252 [iz x] (iz (kf x)):=by
 by_cases lp:x.all=true
 .exact ak call252 func252 (ae [.o 8 (.e (lJ _):aj (.sl true 1 7 λi_ j_=>(iQ x).getD (i_*7+j_) (.v (.bool false))) (iq [x])),ag [iq [x]] (qi _ aD),ai 9 (!x.all) (by rw[lp];rfl),.c nW]<|rQ (iz ix) (iz (kf x)) (by rw[show kf x=ix by unfold kf;rw[bw lp]])) 
 .replace lp:x.all=false:=by simpa using lp
  obtain⟨v1,v2,v3⟩:=tZ hx lp;exact ak call252 func252 (ae [.o 8 (.e (lJ _):aj (.sl true 1 7 λi_ j_=>(iQ x).getD (i_*7+j_) (.v (.bool false))) (iq [x])),ag [iq [x]] (qi _ aD),ah 9 (!x.all) (by rw[lp];rfl),.c (afb x aD lp),.c (NC x aD lp)]<|rQ (iz (Iv.mk (ph x) (ng x) false)) (iz (kf x)) (by rw[show kf x=⟨ph x,ng x,false⟩by unfold kf;rw[bu (by rw[lp];decide)]];try rfl)) 
def ae6(x y:Iv)(p:Nat)(gd gu:FuncId)(DD:Dy->Dy->Bool->Dy)(EE:Dy->Dy->Bool->Int):PS:=⟨96,true,[(41,.e (iP 0)),(40,.e (.agg (iQ (Iv.mk x.lo y.lo x.lo.neg)++[iu (im x.lo.m),iP x.lo.e]++iQ (Iv.mk y.hi x.hi y.lo.neg)++[iu (im y.lo.m),iP y.lo.e]++iR x.hi++iR y.hi))),(12,.box 12 0),(10,.box 10 0),(2,.e (iP p)),(3,.e (.fn gd [])),(4,.e (.fn gu []))],[(12,.cells 39 (iQ (Iv.mk (DD x.lo y.lo false) (DD x.lo y.lo true) false))),(10,.cells 39 au)]⟩
def ae7(x y:Iv)(p:Nat)(gd gu:FuncId)(DD:Dy->Dy->Bool->Dy)(EE:Dy->Dy->Bool->Int):PS:=⟨96,true,[(41,.e (iP (0+1))),(40,.e (.agg (iQ (Iv.mk x.lo y.lo x.lo.neg)++[iu (im x.lo.m),iP x.lo.e]++iQ (Iv.mk y.hi x.hi y.lo.neg)++[iu (im y.lo.m),iP y.lo.e]++iR x.hi++iR y.hi))),(12,.box 12 0),(10,.box 10 0),(2,.e (iP p)),(3,.e (.fn gd [])),(4,.e (.fn gu []))],[(12,.cells 39 (iQ (Iv.mk (jk (DD x.lo y.lo false) (DD x.lo y.hi false)) (jg (DD x.lo y.lo true) (DD x.lo y.hi true)) false))),(10,.cells 39 au)]⟩
def ae8(x y:Iv)(p:Nat)(gd gu:FuncId)(DD:Dy->Dy->Bool->Dy)(EE:Dy->Dy->Bool->Int):PS:=⟨96,true,[(41,.e (iP ((0+1)+1))),(40,.e (.agg (iQ (Iv.mk x.lo y.lo x.lo.neg)++[iu (im x.lo.m),iP x.lo.e]++iQ (Iv.mk y.hi x.hi y.lo.neg)++[iu (im y.lo.m),iP y.lo.e]++iR x.hi++iR y.hi))),(12,.box 12 0),(10,.box 10 0),(2,.e (iP p)),(3,.e (.fn gd [])),(4,.e (.fn gu []))],[(12,.cells 39 (iQ (Iv.mk (jk (jk (DD x.lo y.lo false) (DD x.lo y.hi false)) (DD x.hi y.lo false)) (jg (jg (DD x.lo y.lo true) (DD x.lo y.hi true)) (DD x.hi y.lo true)) false))),(10,.cells 39 au)]⟩
def ae9(x y:Iv)(p:Nat)(gd gu:FuncId)(DD:Dy->Dy->Bool->Dy)(EE:Dy->Dy->Bool->Int):PS:=⟨96,true,[(41,.e (iP (((0+1)+1)+1))),(40,.e (.agg (iQ (Iv.mk x.lo y.lo x.lo.neg)++[iu (im x.lo.m),iP x.lo.e]++iQ (Iv.mk y.hi x.hi y.lo.neg)++[iu (im y.lo.m),iP y.lo.e]++iR x.hi++iR y.hi))),(12,.box 12 0),(10,.box 10 0),(2,.e (iP p)),(3,.e (.fn gd [])),(4,.e (.fn gu []))],[(12,.cells 39 (iQ (Iv.mk (jk (jk (jk (DD x.lo y.lo false) (DD x.lo y.hi false)) (DD x.hi y.lo false)) (DD x.hi y.hi false)) (jg (jg (jg (DD x.lo y.lo true) (DD x.lo y.hi true)) (DD x.hi y.lo true)) (DD x.hi y.hi true)) false))),(10,.cells 39 au)]⟩
def Un(x y:Iv)(p:Nat)(gd gu:FuncId)(DD:Dy->Dy->Bool->Dy)(EE:Dy->Dy->Bool->Int)(hd:∀ a b,(a=x.lo\/a=x.hi)->(b=y.lo\/b=y.hi)->ik gd [iA a,iA b,iP (p:Int)] (.iE [iA (DD a b false),iP (EE a b false)]))
  (hu:∀ a b,(a=x.lo\/a=x.hi)->(b=y.lo\/b=y.hi)->ik gu [iA a,iA b,iP (p:Int)] (.iE [iA (DD a b true),iP (EE a b true)])) (hv:∀ a b up,(DD a b up).iy):ik 206 [iz x,iz y,iP p,.fn gd [],.fn gu []] (iz (pt DD EE x y)):=by
 exact ak call206 func206 (ae [.u 5,ah 42 (decide ((0:Int)<4)) aE]<|.w ((EE x.lo y.lo false)=0)
  (λk1=>.w ((EE x.lo y.lo true)=0)
   (λk2=>ae [.j 3 (ae6 x y p gd gu DD EE)
   (af [iX 0 4 aC,iX 0 2 aC,iX 1 2 aC,.c (hd _ _ (.inl rfl) (.inl rfl):ik gd ((iA x.lo)::(iA y.lo)::(iP p)::[]) _),iX 0 2 aC,iX 1 2 aC,.c (hu _ _ (.inl rfl) (.inl rfl):ik gu ((iA x.lo)::(iA y.lo)::(iP p)::[]) _),tB 66 (bn k1),tB 69 (bn k2),ah 73 ((0:Int)==0) aE,ah 84 ((0:Int)==0) aE]),
    iL (0+1) aC,ah 42 (decide (((0+1):Int)<4)) aE]<|.w ((EE x.lo y.hi false)=0)
    (λk3=>.w ((EE x.lo y.hi true)=0)
     (λk4=>ae [.j 3 (ae7 x y p gd gu DD EE)
   (ae [iX (0+1) 4 aC,iX 0 2 aC,iX 1 2 aC,.c (hd _ _ (.inl rfl) (.inr rfl):ik gd ((iA x.lo)::(iA y.hi)::(iP p)::[]) _),iX 0 2 aC,iX 1 2 aC,.c (hu _ _ (.inl rfl) (.inr rfl):ik gu ((iA x.lo)::(iA y.hi)::(iP p)::[]) _),tB 66 (bn k3),tB 69 (bn k4),ai 73 (((0+1):Int)==0) aE,ag [iA (DD x.lo y.hi false),iA (DD x.lo y.lo false)] (nv _ _ (hv _ _ _) (hv _ _ _))]<|.w ((jE (DD x.lo y.hi false) (DD x.lo y.lo false))<0)
    (λm1=>ae [tB 79 (bA m1),ai 84 (((0+1):Int)==0) aE,ag [iA (DD x.lo y.hi true),iA (DD x.lo y.lo true)] (nv _ _ (hv _ _ _) (hv _ _ _))]<|.w (0<(jE (DD x.lo y.hi true) (DD x.lo y.lo true)))
     (λm2=>ae [tB 90 (bA m2)]<|.e (af [.b 12 (.jl (by rw[show jk (DD x.lo y.lo false) (DD x.lo y.hi false)=(DD x.lo y.hi false)from bw m1,show jg (DD x.lo y.lo true) (DD x.lo y.hi true)=(DD x.lo y.hi true)from bw m2]):Bx.le (.cells 39 (iQ (Iv.mk (DD x.lo y.hi false) (DD x.lo y.hi true) false))) (.cells 39 (iQ (Iv.mk (jk (DD x.lo y.lo false) (DD x.lo y.hi false)) (jg (DD x.lo y.lo true) (DD x.lo y.hi true)) false))))]))
     (λm2=>ae [tB 90 (bB m2)]<|.e (af [.b 12 (.jl (by rw[show jk (DD x.lo y.lo false) (DD x.lo y.hi false)=(DD x.lo y.hi false)from bw m1,show jg (DD x.lo y.lo true) (DD x.lo y.hi true)=(DD x.lo y.lo true)from bu m2]):Bx.le (.cells 39 (iQ (Iv.mk (DD x.lo y.hi false) (DD x.lo y.lo true) false))) (.cells 39 (iQ (Iv.mk (jk (DD x.lo y.lo false) (DD x.lo y.hi false)) (jg (DD x.lo y.lo true) (DD x.lo y.hi true)) false))))])))
    (λm1=>ae [tB 79 (bB m1),ai 84 (((0+1):Int)==0) aE,ag [iA (DD x.lo y.hi true),iA (DD x.lo y.lo true)] (nv _ _ (hv _ _ _) (hv _ _ _))]<|.w (0<(jE (DD x.lo y.hi true) (DD x.lo y.lo true)))
     (λm2=>ae [tB 90 (bA m2)]<|.e (af [.b 12 (.jl (by rw[show jk (DD x.lo y.lo false) (DD x.lo y.hi false)=(DD x.lo y.lo false)from bu m1,show jg (DD x.lo y.lo true) (DD x.lo y.hi true)=(DD x.lo y.hi true)from bw m2]):Bx.le (.cells 39 (iQ (Iv.mk (DD x.lo y.lo false) (DD x.lo y.hi true) false))) (.cells 39 (iQ (Iv.mk (jk (DD x.lo y.lo false) (DD x.lo y.hi false)) (jg (DD x.lo y.lo true) (DD x.lo y.hi true)) false))))]))
     (λm2=>ae [tB 90 (bB m2)]<|.e (af [.b 12 (.jl (by rw[show jk (DD x.lo y.lo false) (DD x.lo y.hi false)=(DD x.lo y.lo false)from bu m1,show jg (DD x.lo y.lo true) (DD x.lo y.hi true)=(DD x.lo y.lo true)from bu m2]):Bx.le (.cells 39 (iQ (Iv.mk (DD x.lo y.lo false) (DD x.lo y.lo true) false))) (.cells 39 (iQ (Iv.mk (jk (DD x.lo y.lo false) (DD x.lo y.hi false)) (jg (DD x.lo y.lo true) (DD x.lo y.hi true)) false))))])))),
      iL ((0+1)+1) aC,ah 42 (decide ((((0+1)+1):Int)<4)) aE]<|.w ((EE x.hi y.lo false)=0)
      (λk5=>.w ((EE x.hi y.lo true)=0)
       (λk6=>ae [.j 3 (ae8 x y p gd gu DD EE)
   (ae [iX ((0+1)+1) 4 aC,iX 0 2 aC,iX 1 2 aC,.c (hd _ _ (.inr rfl) (.inl rfl):ik gd ((iA x.hi)::(iA y.lo)::(iP p)::[]) _),iX 0 2 aC,iX 1 2 aC,.c (hu _ _ (.inr rfl) (.inl rfl):ik gu ((iA x.hi)::(iA y.lo)::(iP p)::[]) _),tB 66 (bn k5),tB 69 (bn k6),ai 73 ((((0+1)+1):Int)==0) aE,ag [iA (DD x.hi y.lo false),iA (jk (DD x.lo y.lo false) (DD x.lo y.hi false))] (nv _ _ (hv _ _ _) (rJ (hv _ _ _) (hv _ _ _)))]<|.w ((jE (DD x.hi y.lo false) (jk (DD x.lo y.lo false) (DD x.lo y.hi false)))<0)
    (λm1=>ae [tB 79 (bA m1),ai 84 ((((0+1)+1):Int)==0) aE,ag [iA (DD x.hi y.lo true),iA (jg (DD x.lo y.lo true) (DD x.lo y.hi true))] (nv _ _ (hv _ _ _) (qI (hv _ _ _) (hv _ _ _)))]<|.w (0<(jE (DD x.hi y.lo true) (jg (DD x.lo y.lo true) (DD x.lo y.hi true))))
     (λm2=>ae [tB 90 (bA m2)]<|.e (af [.b 12 (.jl (by rw[show jk (jk (DD x.lo y.lo false) (DD x.lo y.hi false)) (DD x.hi y.lo false)=(DD x.hi y.lo false)from bw m1,show jg (jg (DD x.lo y.lo true) (DD x.lo y.hi true)) (DD x.hi y.lo true)=(DD x.hi y.lo true)from bw m2]):Bx.le (.cells 39 (iQ (Iv.mk (DD x.hi y.lo false) (DD x.hi y.lo true) false))) (.cells 39 (iQ (Iv.mk (jk (jk (DD x.lo y.lo false) (DD x.lo y.hi false)) (DD x.hi y.lo false)) (jg (jg (DD x.lo y.lo true) (DD x.lo y.hi true)) (DD x.hi y.lo true)) false))))]))
     (λm2=>ae [tB 90 (bB m2)]<|.e (af [.b 12 (.jl (by rw[show jk (jk (DD x.lo y.lo false) (DD x.lo y.hi false)) (DD x.hi y.lo false)=(DD x.hi y.lo false)from bw m1,show jg (jg (DD x.lo y.lo true) (DD x.lo y.hi true)) (DD x.hi y.lo true)=(jg (DD x.lo y.lo true) (DD x.lo y.hi true))from bu m2]):Bx.le (.cells 39 (iQ (Iv.mk (DD x.hi y.lo false) (jg (DD x.lo y.lo true) (DD x.lo y.hi true)) false))) (.cells 39 (iQ (Iv.mk (jk (jk (DD x.lo y.lo false) (DD x.lo y.hi false)) (DD x.hi y.lo false)) (jg (jg (DD x.lo y.lo true) (DD x.lo y.hi true)) (DD x.hi y.lo true)) false))))])))
    (λm1=>ae [tB 79 (bB m1),ai 84 ((((0+1)+1):Int)==0) aE,ag [iA (DD x.hi y.lo true),iA (jg (DD x.lo y.lo true) (DD x.lo y.hi true))] (nv _ _ (hv _ _ _) (qI (hv _ _ _) (hv _ _ _)))]<|.w (0<(jE (DD x.hi y.lo true) (jg (DD x.lo y.lo true) (DD x.lo y.hi true))))
     (λm2=>ae [tB 90 (bA m2)]<|.e (af [.b 12 (.jl (by rw[show jk (jk (DD x.lo y.lo false) (DD x.lo y.hi false)) (DD x.hi y.lo false)=(jk (DD x.lo y.lo false) (DD x.lo y.hi false))from bu m1,show jg (jg (DD x.lo y.lo true) (DD x.lo y.hi true)) (DD x.hi y.lo true)=(DD x.hi y.lo true)from bw m2]):Bx.le (.cells 39 (iQ (Iv.mk (jk (DD x.lo y.lo false) (DD x.lo y.hi false)) (DD x.hi y.lo true) false))) (.cells 39 (iQ (Iv.mk (jk (jk (DD x.lo y.lo false) (DD x.lo y.hi false)) (DD x.hi y.lo false)) (jg (jg (DD x.lo y.lo true) (DD x.lo y.hi true)) (DD x.hi y.lo true)) false))))]))
     (λm2=>ae [tB 90 (bB m2)]<|.e (af [.b 12 (.jl (by rw[show jk (jk (DD x.lo y.lo false) (DD x.lo y.hi false)) (DD x.hi y.lo false)=(jk (DD x.lo y.lo false) (DD x.lo y.hi false))from bu m1,show jg (jg (DD x.lo y.lo true) (DD x.lo y.hi true)) (DD x.hi y.lo true)=(jg (DD x.lo y.lo true) (DD x.lo y.hi true))from bu m2]):Bx.le (.cells 39 (iQ (Iv.mk (jk (DD x.lo y.lo false) (DD x.lo y.hi false)) (jg (DD x.lo y.lo true) (DD x.lo y.hi true)) false))) (.cells 39 (iQ (Iv.mk (jk (jk (DD x.lo y.lo false) (DD x.lo y.hi false)) (DD x.hi y.lo false)) (jg (jg (DD x.lo y.lo true) (DD x.lo y.hi true)) (DD x.hi y.lo true)) false))))])))),
        iL (((0+1)+1)+1) aC,ah 42 (decide (((((0+1)+1)+1):Int)<4)) aE]<|.w ((EE x.hi y.hi false)=0)
        (λk7=>.w ((EE x.hi y.hi true)=0)
         (λk8=>ae [.j 3 (ae9 x y p gd gu DD EE)
   (ae [iX (((0+1)+1)+1) 4 aC,iX 0 2 aC,iX 1 2 aC,.c (hd _ _ (.inr rfl) (.inr rfl):ik gd ((iA x.hi)::(iA y.hi)::(iP p)::[]) _),iX 0 2 aC,iX 1 2 aC,.c (hu _ _ (.inr rfl) (.inr rfl):ik gu ((iA x.hi)::(iA y.hi)::(iP p)::[]) _),tB 66 (bn k7),tB 69 (bn k8),ai 73 (((((0+1)+1)+1):Int)==0) aE,ag [iA (DD x.hi y.hi false),iA (jk (jk (DD x.lo y.lo false) (DD x.lo y.hi false)) (DD x.hi y.lo false))] (nv _ _ (hv _ _ _) (rJ (rJ (hv _ _ _) (hv _ _ _)) (hv _ _ _)))]<|.w ((jE (DD x.hi y.hi false) (jk (jk (DD x.lo y.lo false) (DD x.lo y.hi false)) (DD x.hi y.lo false)))<0)
    (λm1=>ae [tB 79 (bA m1),ai 84 (((((0+1)+1)+1):Int)==0) aE,ag [iA (DD x.hi y.hi true),iA (jg (jg (DD x.lo y.lo true) (DD x.lo y.hi true)) (DD x.hi y.lo true))] (nv _ _ (hv _ _ _) (qI (qI (hv _ _ _) (hv _ _ _)) (hv _ _ _)))]<|.w (0<(jE (DD x.hi y.hi true) (jg (jg (DD x.lo y.lo true) (DD x.lo y.hi true)) (DD x.hi y.lo true))))
     (λm2=>ae [tB 90 (bA m2)]<|.e (af [.b 12 (.jl (by rw[show jk (jk (jk (DD x.lo y.lo false) (DD x.lo y.hi false)) (DD x.hi y.lo false)) (DD x.hi y.hi false)=(DD x.hi y.hi false)from bw m1,show jg (jg (jg (DD x.lo y.lo true) (DD x.lo y.hi true)) (DD x.hi y.lo true)) (DD x.hi y.hi true)=(DD x.hi y.hi true)from bw m2]):Bx.le (.cells 39 (iQ (Iv.mk (DD x.hi y.hi false) (DD x.hi y.hi true) false))) (.cells 39 (iQ (Iv.mk (jk (jk (jk (DD x.lo y.lo false) (DD x.lo y.hi false)) (DD x.hi y.lo false)) (DD x.hi y.hi false)) (jg (jg (jg (DD x.lo y.lo true) (DD x.lo y.hi true)) (DD x.hi y.lo true)) (DD x.hi y.hi true)) false))))]))
     (λm2=>ae [tB 90 (bB m2)]<|.e (af [.b 12 (.jl (by rw[show jk (jk (jk (DD x.lo y.lo false) (DD x.lo y.hi false)) (DD x.hi y.lo false)) (DD x.hi y.hi false)=(DD x.hi y.hi false)from bw m1,show jg (jg (jg (DD x.lo y.lo true) (DD x.lo y.hi true)) (DD x.hi y.lo true)) (DD x.hi y.hi true)=(jg (jg (DD x.lo y.lo true) (DD x.lo y.hi true)) (DD x.hi y.lo true))from bu m2]):Bx.le (.cells 39 (iQ (Iv.mk (DD x.hi y.hi false) (jg (jg (DD x.lo y.lo true) (DD x.lo y.hi true)) (DD x.hi y.lo true)) false))) (.cells 39 (iQ (Iv.mk (jk (jk (jk (DD x.lo y.lo false) (DD x.lo y.hi false)) (DD x.hi y.lo false)) (DD x.hi y.hi false)) (jg (jg (jg (DD x.lo y.lo true) (DD x.lo y.hi true)) (DD x.hi y.lo true)) (DD x.hi y.hi true)) false))))])))
    (λm1=>ae [tB 79 (bB m1),ai 84 (((((0+1)+1)+1):Int)==0) aE,ag [iA (DD x.hi y.hi true),iA (jg (jg (DD x.lo y.lo true) (DD x.lo y.hi true)) (DD x.hi y.lo true))] (nv _ _ (hv _ _ _) (qI (qI (hv _ _ _) (hv _ _ _)) (hv _ _ _)))]<|.w (0<(jE (DD x.hi y.hi true) (jg (jg (DD x.lo y.lo true) (DD x.lo y.hi true)) (DD x.hi y.lo true))))
     (λm2=>ae [tB 90 (bA m2)]<|.e (af [.b 12 (.jl (by rw[show jk (jk (jk (DD x.lo y.lo false) (DD x.lo y.hi false)) (DD x.hi y.lo false)) (DD x.hi y.hi false)=(jk (jk (DD x.lo y.lo false) (DD x.lo y.hi false)) (DD x.hi y.lo false))from bu m1,show jg (jg (jg (DD x.lo y.lo true) (DD x.lo y.hi true)) (DD x.hi y.lo true)) (DD x.hi y.hi true)=(DD x.hi y.hi true)from bw m2]):Bx.le (.cells 39 (iQ (Iv.mk (jk (jk (DD x.lo y.lo false) (DD x.lo y.hi false)) (DD x.hi y.lo false)) (DD x.hi y.hi true) false))) (.cells 39 (iQ (Iv.mk (jk (jk (jk (DD x.lo y.lo false) (DD x.lo y.hi false)) (DD x.hi y.lo false)) (DD x.hi y.hi false)) (jg (jg (jg (DD x.lo y.lo true) (DD x.lo y.hi true)) (DD x.hi y.lo true)) (DD x.hi y.hi true)) false))))]))
     (λm2=>ae [tB 90 (bB m2)]<|.e (af [.b 12 (.jl (by rw[show jk (jk (jk (DD x.lo y.lo false) (DD x.lo y.hi false)) (DD x.hi y.lo false)) (DD x.hi y.hi false)=(jk (jk (DD x.lo y.lo false) (DD x.lo y.hi false)) (DD x.hi y.lo false))from bu m1,show jg (jg (jg (DD x.lo y.lo true) (DD x.lo y.hi true)) (DD x.hi y.lo true)) (DD x.hi y.hi true)=(jg (jg (DD x.lo y.lo true) (DD x.lo y.hi true)) (DD x.hi y.lo true))from bu m2]):Bx.le (.cells 39 (iQ (Iv.mk (jk (jk (DD x.lo y.lo false) (DD x.lo y.hi false)) (DD x.hi y.lo false)) (jg (jg (DD x.lo y.lo true) (DD x.lo y.hi true)) (DD x.hi y.lo true)) false))) (.cells 39 (iQ (Iv.mk (jk (jk (jk (DD x.lo y.lo false) (DD x.lo y.hi false)) (DD x.hi y.lo false)) (DD x.hi y.hi false)) (jg (jg (jg (DD x.lo y.lo true) (DD x.lo y.hi true)) (DD x.hi y.lo true)) (DD x.hi y.hi true)) false))))])))),
          iL ((((0+1)+1)+1)+1) aC,ai 42 (decide ((((((0+1)+1)+1)+1):Int)<4)) aE]<|rQ (iz (Iv.mk (jk (jk (jk (DD x.lo y.lo false) (DD x.lo y.hi false)) (DD x.hi y.lo false)) (DD x.hi y.hi false)) (jg (jg (jg (DD x.lo y.lo true) (DD x.lo y.hi true)) (DD x.hi y.lo true)) (DD x.hi y.hi true)) false)) (iz (pt DD EE x y)) (by rw[show pt DD EE x y=⟨jk (jk (jk (DD x.lo y.lo false) (DD x.lo y.hi false)) (DD x.hi y.lo false)) (DD x.hi y.hi false),jg (jg (jg (DD x.lo y.lo true) (DD x.lo y.hi true)) (DD x.hi y.lo true)) (DD x.hi y.hi true),false⟩from bw ⟨⟨k1,k2⟩,⟨k3,k4⟩,⟨k5,k6⟩,⟨k7,k8⟩⟩];try rfl))
         (λk8=>ae [iX (((0+1)+1)+1) 4 aC,iX 0 2 aC,iX 1 2 aC,.c (hd _ _ (.inr rfl) (.inr rfl):ik gd ((iA x.hi)::(iA y.hi)::(iP p)::[]) _),iX 0 2 aC,iX 1 2 aC,.c (hu _ _ (.inr rfl) (.inr rfl):ik gu ((iA x.hi)::(iA y.hi)::(iP p)::[]) _),tB 66 (bn k7),tB 69 (bt k8),.c nW]<|rQ (iz ix) (iz (pt DD EE x y)) (by rw[show pt DD EE x y=ix from bu (by rintro⟨⟨q0,r0⟩,⟨q1,r1⟩,⟨q2,r2⟩,⟨q3,r3⟩⟩;exact k8 r3)])))
        (λk7=>ae [iX (((0+1)+1)+1) 4 aC,iX 0 2 aC,iX 1 2 aC,.c (hd _ _ (.inr rfl) (.inr rfl):ik gd ((iA x.hi)::(iA y.hi)::(iP p)::[]) _),iX 0 2 aC,iX 1 2 aC,.c (hu _ _ (.inr rfl) (.inr rfl):ik gu ((iA x.hi)::(iA y.hi)::(iP p)::[]) _),tB 66 (bt k7),.c nW]<|rQ (iz ix) (iz (pt DD EE x y)) (by rw[show pt DD EE x y=ix from bu (by rintro⟨⟨q0,r0⟩,⟨q1,r1⟩,⟨q2,r2⟩,⟨q3,r3⟩⟩;exact k7 q3)])))
       (λk6=>ae [iX ((0+1)+1) 4 aC,iX 0 2 aC,iX 1 2 aC,.c (hd _ _ (.inr rfl) (.inl rfl):ik gd ((iA x.hi)::(iA y.lo)::(iP p)::[]) _),iX 0 2 aC,iX 1 2 aC,.c (hu _ _ (.inr rfl) (.inl rfl):ik gu ((iA x.hi)::(iA y.lo)::(iP p)::[]) _),tB 66 (bn k5),tB 69 (bt k6),.c nW]<|rQ (iz ix) (iz (pt DD EE x y)) (by rw[show pt DD EE x y=ix from bu (by rintro⟨⟨q0,r0⟩,⟨q1,r1⟩,⟨q2,r2⟩,⟨q3,r3⟩⟩;exact k6 r2)])))
      (λk5=>ae [iX ((0+1)+1) 4 aC,iX 0 2 aC,iX 1 2 aC,.c (hd _ _ (.inr rfl) (.inl rfl):ik gd ((iA x.hi)::(iA y.lo)::(iP p)::[]) _),iX 0 2 aC,iX 1 2 aC,.c (hu _ _ (.inr rfl) (.inl rfl):ik gu ((iA x.hi)::(iA y.lo)::(iP p)::[]) _),tB 66 (bt k5),.c nW]<|rQ (iz ix) (iz (pt DD EE x y)) (by rw[show pt DD EE x y=ix from bu (by rintro⟨⟨q0,r0⟩,⟨q1,r1⟩,⟨q2,r2⟩,⟨q3,r3⟩⟩;exact k5 q2)])))
     (λk4=>ae [iX (0+1) 4 aC,iX 0 2 aC,iX 1 2 aC,.c (hd _ _ (.inl rfl) (.inr rfl):ik gd ((iA x.lo)::(iA y.hi)::(iP p)::[]) _),iX 0 2 aC,iX 1 2 aC,.c (hu _ _ (.inl rfl) (.inr rfl):ik gu ((iA x.lo)::(iA y.hi)::(iP p)::[]) _),tB 66 (bn k3),tB 69 (bt k4),.c nW]<|rQ (iz ix) (iz (pt DD EE x y)) (by rw[show pt DD EE x y=ix from bu (by rintro⟨⟨q0,r0⟩,⟨q1,r1⟩,⟨q2,r2⟩,⟨q3,r3⟩⟩;exact k4 r1)])))
    (λk3=>ae [iX (0+1) 4 aC,iX 0 2 aC,iX 1 2 aC,.c (hd _ _ (.inl rfl) (.inr rfl):ik gd ((iA x.lo)::(iA y.hi)::(iP p)::[]) _),iX 0 2 aC,iX 1 2 aC,.c (hu _ _ (.inl rfl) (.inr rfl):ik gu ((iA x.lo)::(iA y.hi)::(iP p)::[]) _),tB 66 (bt k3),.c nW]<|rQ (iz ix) (iz (pt DD EE x y)) (by rw[show pt DD EE x y=ix from bu (by rintro⟨⟨q0,r0⟩,⟨q1,r1⟩,⟨q2,r2⟩,⟨q3,r3⟩⟩;exact k3 q1)])))
   (λk2=>ae [iX 0 4 aC,iX 0 2 aC,iX 1 2 aC,.c (hd _ _ (.inl rfl) (.inl rfl):ik gd ((iA x.lo)::(iA y.lo)::(iP p)::[]) _),iX 0 2 aC,iX 1 2 aC,.c (hu _ _ (.inl rfl) (.inl rfl):ik gu ((iA x.lo)::(iA y.lo)::(iP p)::[]) _),tB 66 (bn k1),tB 69 (bt k2),.c nW]<|rQ (iz ix) (iz (pt DD EE x y)) (by rw[show pt DD EE x y=ix from bu (by rintro⟨⟨q0,r0⟩,⟨q1,r1⟩,⟨q2,r2⟩,⟨q3,r3⟩⟩;exact k2 r0)])))
  (λk1=>ae [iX 0 4 aC,iX 0 2 aC,iX 1 2 aC,.c (hd _ _ (.inl rfl) (.inl rfl):ik gd ((iA x.lo)::(iA y.lo)::(iP p)::[]) _),iX 0 2 aC,iX 1 2 aC,.c (hu _ _ (.inl rfl) (.inl rfl):ik gu ((iA x.lo)::(iA y.lo)::(iP p)::[]) _),tB 66 (bt k1),.c nW]<|rQ (iz ix) (iz (pt DD EE x y)) (by rw[show pt DD EE x y=ix from bu (by rintro⟨⟨q0,r0⟩,⟨q1,r1⟩,⟨q2,r2⟩,⟨q3,r3⟩⟩;exact k1 q0)]))) 
def ajS{y:Iv}(hy:y.iy)(hs:lZ y≠0):y.lo.m≠0/\y.hi.m≠0:=by
 unfold lZ at hs;have ha:y.all=false:=by
  cases h:y.all with
  |false=>rfl
  |true=>rw[h]at hs;exact absurd rfl hs
 obtain⟨v1,v2,v3⟩:=tZ hy ha;rw[ha]at hs;simp only[bM,bE]at hs;have z:∀ d:Dy,d.m=0->d.jG=0:=λd h=>by unfold Dy.jG;rw[bw h]
 have hc:=Ri y.lo y.hi;rw[hc]at v3;constructor
 .intro h0;have:=z _ h0;rw[this]at hs v3;split at hs
  .omega
  .split at hs
   .split at v3<;>omega
   .exact hs rfl
 .intro h0;have:=z _ h0;rw[this]at hs v3;split at hs
  .split at v3<;>omega
  .split at hs
   .omega
   .exact hs rfl
def ab6(a b:Dy){p:Nat}(up:Bool)(hp:1<=p)(iw:p<=4096):(oC a b p up).iy:=by
 unfold oC;split
 .exact sk
 .exact sN _ _ _ _ _ _ hp iw
def uA(x y:Iv)(p:Nat)(hx:x.iy)(hy:y.iy)(iB:8<=p)(iw:p<=512):ik 212 [iz x,iz y,iP p] (iz (iV x y p)):=by
 by_cases hk:(x.all||y.all)=true
 .exact ak call212 func212 (ae [.o 9 (.e (zT _ _):aj (.sl true 2 7 λi_ j_=>(iQ x++iQ y).getD (i_*7+j_) (.v (.bool false))) (iq [x,y])),ag [iq [x,y]] (zS _ _ aD aD),ai 10 (!(x.all||y.all)) (by rw[hk];rfl),.c nW]<|rQ (iz ix) (iz (iV x y p)) (by rw[show iV x y p=ix by unfold iV;rw[bw hk]])) 
 .replace hk:(x.all||y.all)=false:=by simpa using hk
  have lp:x.all=false:=by cases h:x.all;rfl;rw[h]at hk;simp at hk
  have Bj:y.all=false:=by cases h:y.all;rfl;rw[h]at hk;simp at hk
  obtain⟨v1,v2,v3⟩:=tZ hx lp;obtain⟨v4,v5,v6⟩:=tZ hy Bj;exact ak call212 func212 (ae [.o 9 (.e (zT _ _):aj (.sl true 2 7 λi_ j_=>(iQ x++iQ y).getD (i_*7+j_) (.v (.bool false))) (iq [x,y])),ag [iq [x,y]] (zS _ _ aD aD),ah 10 (!(x.all||y.all)) (by rw[hk];rfl),ag [iP p] (vG _),ah 14 (pT (p:Int)) (uI.2 ⟨aC,aC⟩),.c (Un x y p 254 255 (λa b up=>iM (mW a b) p up) (λa b up=>jP (mW a b) p up) (λa b ha hb=>J3 a b p (by rcases ha with rfl|rfl;exact v1;exact v2) (by rcases hb with rfl|rfl;exact v4;exact v5) iB iw) (λa b ha hb=>J4 a b p (by rcases ha with rfl|rfl;exact v1;exact v2) (by rcases hb with rfl|rfl;exact v4;exact v5) iB iw) (λa b up=>sN _ _ _ _ _ _ aC aC))]<|rQ (iz (pt (λa b up=>iM (mW a b) p up) (λa b up=>jP (mW a b) p up) x y)) (iz (iV x y p)) (by rw[show iV x y p=_ by unfold iV;rw[bu (by rw[hk];decide)]];rfl)) 
def tY(x y:Iv)(p:Nat)(hx:x.iy)(hy:y.iy)(iB:8<=p)(iw:p<=512):ik 141 [iz x,iz y,iP p] (iz (jz x y p)):=by
 by_cases hk:(x.all||y.all)=true
 .exact ak call141 func141 (ae [.o 9 (.e (zT _ _):aj (.sl true 2 7 λi_ j_=>(iQ x++iQ y).getD (i_*7+j_) (.v (.bool false))) (iq [x,y])),ag [iq [x,y]] (zS _ _ aD aD),ai 10 (!(x.all||y.all)) (by rw[hk];rfl),.c nW]<|rQ (iz ix) (iz (jz x y p)) (by rw[show jz x y p=ix by unfold jz;rw[bw (by rw[hk];rfl)]])) 
 .replace hk:(x.all||y.all)=false:=by simpa using hk
  have lp:x.all=false:=by cases h:x.all;rfl;rw[h]at hk;simp at hk
  have Bj:y.all=false:=by cases h:y.all;rfl;rw[h]at hk;simp at hk
  obtain⟨v1,v2,v3⟩:=tZ hx lp;obtain⟨v4,v5,v6⟩:=tZ hy Bj;by_cases hs:lZ y=0
  .exact ak call141 func141 (ae [.o 9 (.e (zT _ _):aj (.sl true 2 7 λi_ j_=>(iQ x++iQ y).getD (i_*7+j_) (.v (.bool false))) (iq [x,y])),ag [iq [x,y]] (zS _ _ aD aD),ah 10 (!(x.all||y.all)) (by rw[hk];rfl),ag [iP p] (vG _),ah 14 (pT (p:Int)) (uI.2 ⟨aC,aC⟩),.c (Bn y aD),ah 20 ((lZ y)==0) (by rw[hs];rfl),.c nW]<|rQ (iz ix) (iz (jz x y p)) (by rw[show jz x y p=ix by unfold jz;rw[bw (by rw[hk,bA hs];rfl)]])) 
  .obtain ⟨n1,n2⟩:=ajS hy hs;exact ak call141 func141 (ae [.o 9 (.e (zT _ _):aj (.sl true 2 7 λi_ j_=>(iQ x++iQ y).getD (i_*7+j_) (.v (.bool false))) (iq [x,y])),ag [iq [x,y]] (zS _ _ aD aD),ah 10 (!(x.all||y.all)) (by rw[hk];rfl),ag [iP p] (vG _),ah 14 (pT (p:Int)) (uI.2 ⟨aC,aC⟩),.c (Bn y aD),ai 20 ((lZ y)==0) (by simpa using hs),.c (Un x y p 207 208 (λa b up=>oC a b p up) (λa b up=>pZ a b p up) (λa b ha hb=>Wu a b p (by rcases ha with rfl|rfl;exact v1;exact v2) (by rcases hb with rfl|rfl;exact v4;exact v5) (by rcases hb with rfl|rfl;exact n1;exact n2) iB iw) (λa b ha hb=>Wv a b p (by rcases ha with rfl|rfl;exact v1;exact v2) (by rcases hb with rfl|rfl;exact v4;exact v5) (by rcases hb with rfl|rfl;exact n1;exact n2) iB iw) (λa b up=>ab6 a b up aC aC))]<|rQ (iz (pt (λa b up=>oC a b p up) (λa b up=>pZ a b p up) x y)) (iz (jz x y p)) (by rw[show jz x y p=_ by unfold jz;rw[bu (by rw[hk,bB hs];decide)]])) 
def afj(d:RD)(h:d.Zero):ik 200 [tl d] (bP true):=by
 obtain⟨h1,h2,h3⟩:=h;exact ak call200 func200 (af [ai 4 d.neg h1,ah 10 ((d.L.length:Int)==0) (vL (by rw[h2];rfl)),ah 15 (d.e==0) (by rw[h3];rfl)]) 
def Uv(d:RD)(h:¬d.Zero):ik 200 [tl d] (bP false):=by
 by_cases h1:d.neg=true
 .exact ak call200 func200 (af [ah 4 d.neg h1]) 
 .replace h1:d.neg=false:=by simpa using h1
  by_cases h2:d.L=[]
  .have h3:¬d.e=0:=λq=>h ⟨h1,h2,q⟩
   exact ak call200 func200 (af [ai 4 d.neg h1,ah 10 ((d.L.length:Int)==0) (vL (by rw[h2];rfl)),ai 15 (d.e==0) (by simpa using h3)]) 
  .exact ak call200 func200 (af [ai 4 d.neg h1,ai 10 ((d.L.length:Int)==0) (pz (λq=>h2 (ann.1 q)))]) 
def afi(x:RI)(g:x.jB)(h:x.Ok):ik 127 [xJ x] (bP true):=by
 have:=qH x.iv h.valid;rwa[<-ND,h.eq g]at this
def afg(x:RI)(g:x.jB)(h:¬x.Ok):ik 127 [xJ x] (bP false):=by
 have ga:=g.lo;have gb:=g.hi;by_cases ha:x.all=true
 .by_cases h1:x.lo.Zero
  .have h2:¬x.hi.Zero:=λq=>h (.inl ⟨ha,h1,q⟩)
   exact ak call127 func127 (af [ah 5 x.all ha,.c (afj x.lo h1),.c (Uv x.hi h2)]) 
  .exact ak call127 func127 (af [ah 5 x.all ha,.c (Uv x.lo h1)]) 
 .replace ha:x.all=false:=by simpa using ha
  by_cases h1:x.lo.Ok
  .by_cases h2:x.hi.Ok
   .have h3:¬jE x.lo.dy x.hi.dy<=0:=λq=>h (.inr ⟨ha,h1,h2,q⟩)
    have v1:=h1.valid;have v2:=h2.valid;have e1:xJ x=iz x.iv:=by rw[<-ND,show x.iv.raw=x by show RI.mk x.lo.dy.raw x.hi.dy.raw x.all=x;rw[h1.eq ga,h2.eq gb]]
    rw[e1];exact ak call127 func127 (af [ai 5 x.iv.all ha,ag [iA x.iv.lo] (q7 _ aD),ag [iA x.iv.hi] (q7 _ aD),ag [iA x.iv.lo,iA x.iv.hi] (nv _ _ aD aD),tB 30 (bB h3)]) 
   .exact ak call127 func127 (af [ai 5 x.all ha,ag [tl x.lo] (AR _ aD true (by simp[h1])),ag [tl x.hi] (AR _ aD false (by simp[h2]))]) 
  .exact ak call127 func127 (af [ai 5 x.all ha,ag [tl x.lo] (AR _ aD false (by simp[h1]))]) 
def afh(x:RI)(g:x.jB):ik 127 [xJ x] (bP (Af x)):=by
 by_cases h:x.Ok
 .rw [Bw.2 h];exact afi x g h
 .rw [show Af x=false by simpa using λq=>h (Bw.1 q)];exact afg x g h
abbrev jc(xs:List Iv):Nat->Nat->E:=λi j=>(iQ (xs.getD i ix)).getD j .any
abbrev lj(M:List (List Iv)):Nat->Nat->E:=λi _=>iq (M.getD i [])
abbrev nf(M:List (List Iv)):Nat->Nat:=λq=>(M.getD q []).length
abbrev oL(M:List (List Iv)):Nat->Nat->Nat->E:=λq i j=>(iQ ((M.getD q []).getD i ix)).getD j .any
def s7(x:Iv)(j:Nat)(hj:j<7):((iQ x).getD j .any).nr 2=true:=by
 rcases j with _|_|_|_|_|_|_|j
 all_goals first|rfl|omega
def Uz(xs:List Iv):(iq xs).nr 2=true:=rfl
def Jx{T n:Nat}{xs:List Iv}{y:Iv}(hn:n=xs.length):
 Bx.le (.row true T (n+[y].length) 7 λi j=>if i<n then jc xs i j else(E.kT (iq [y])) (i-n) j) (.row true T (xs++[y]).length 7 (jc (xs++[y]))):=by
 subst hn;refine .row aH λi j hi hj=>⟨.jl ?_,s7 _ _ hj⟩
 by_cases h:i<xs.length
 .rw [bw h];show(iQ (xs.getD i ix)).getD j .any=(iQ ((xs++[y]).getD i ix)).getD j .any;congr 2;simp[bC,dp h]
 .have nJ:i=xs.length:=by simp at hi;omega
  subst nJ;rw[bu h,dq];show(iQ y).getD j .any=(iQ ((xs++[y]).getD xs.length ix)).getD j .any;congr 2;simp[bC]
def agl{T n:Nat}{M:List (List Iv)}{r:List Iv}{p:E}{m:Nat}(hn:n=M.length)(hm:m=1)(hp:∀ j,j<1->p.kT 0 j=iq r):
 Bx.le (.row true T (n+m) 1 λi j=>if i<n then lj M i j else(E.kT p) (i-n) j) (.row true T (M++[r]).length 1 (lj (M++[r]))):=by
 subst hn hm;refine .row aH λi j hi hj=>⟨.jl ?_,Uz _⟩
 by_cases h:i<M.length
 .rw [bw h];show iq (M.getD i [])=iq ((M++[r]).getD i []);congr 1;simp[bC,dp h]
 .have nJ:i=M.length:= aC ;subst nJ;rw[bu h,dq,hp j hj];show iq r=iq ((M++[r]).getD M.length []);congr 1;simp[bC]
def qj{α:Type}(y:α):[y].length=1:=rfl
def OM{n i:Nat}{F:Nat->Iv}(h:i<n):((List.range n).map F).getD i ix=F i:=by
 simp[bC,h]
def agk{n:Nat}{M:List (List Iv)}(hn:n=M.length):E.le (.sl true n 1 λk _=>.sl true (nf M k) 7 (oL M k)) (lv M):=by subst hn;exact .refl _
end Go.Proofs.YtgdahmmlddfimaaGreatDoor
namespace Go.Proofs.YtgdahmmlddfimaaGreatDoor.Fp
section
variable {a b:Dy} {k:Int}
end
def adW{m gm p:Nat}{e ge K:Int}(hp:1<=p)(hg:iD gm<=p)(tS:-16384<=ge)(k1:K<=e)(k2:K<=ge)
 (h:gm*2^(ge-K).toNat<=m*2^(e-K).toNat):gm*2^(ge-K).toNat<=lr m e false p false*2^(e+jY m e p-K).toNat:=by
 have hq:lr m e false p false=m/2^jY m e p:=by unfold lr;simp
 rw[hq];have hm:=cV m (2^jY m e p);have hr:=bS m (bJ (n:=jY m e p) (aE:0<2));obtain⟨k,hk⟩:∃ k,k=jY m e p:=⟨_,rfl⟩
 rw[<-hk]at hm hr ⊢;have e1:(e+(k:Int)-K).toNat=k+(e-K).toNat:= aC ;rw[e1,bH];generalize hE:2^(e-K).toNat=E at *
 have Mn:0<E:=by rw[<-hE];exact bJ aE 
 have hmE:m*E<(m/2^k+1)*(2^k*E):=by
  rw[<-bN];refine dF ?_ Mn;rw[cj,ct,bR];omega
 by_cases hc:e+k<=ge
 .
  have e2:(ge-K).toNat=(ge-(e+k)).toNat+(k+(e-K).toNat):= aC ;rw[e2,bH,bH 2 k,hE]at h ⊢;rw[<-bN]at h ⊢;generalize gm*2^(ge-(e+k)).toNat=g at *
  have:g<m/2^k+1:=by
   apply ck;intro h';have:=bW (2^k*E) (aC:m/2^k+1<=g);omega
  exact bW _ aC 
 .by_cases oo:k=0
  .subst oo;rw[cT,fW,ct];exact h
  .
   have hb:(iD m:Int)-p=k:=by unfold jY at hk;omega
   have F2:m≠0:=by intro h0;rw[h0]at hb;simp[iD]at hb;omega
   have h1:=uO F2;have h2:2^(iD m-1-k)<=m/2^k:=by
    rw[dB (bJ aE),<-bH];exact bI (bY aE (by have:=pn F2;omega)) h1
   have h3:gm<2^p:=mJ.1 hg;refine bI (bW _ (dR h3)) (bI ?_ (bW _ h2));rw[<-hE,<-bH,<-bH,<-bH];exact bY aE aC 
def Sy{m gm p:Nat}{e ge K:Int}(hp:1<=p)(hg:iD gm<=p)(tS:-16384<=ge)(k1:K<=e)(k2:K<=ge)
 (h:m*2^(e-K).toNat<=gm*2^(ge-K).toNat):lr m e false p true*2^(e+jY m e p-K).toNat<=gm*2^(ge-K).toNat:=by
 have TD:lr m e false p false=m/2^jY m e p:=by unfold lr;simp
 have F6:lr m e false p true=m/2^jY m e p+if m%2^jY m e p≠0 then 1 else 0:=by unfold lr;simp
 have hm:=cV m (2^jY m e p);obtain⟨k,hk⟩:∃ k,k=jY m e p:=⟨_,rfl⟩
 rw[F6];rw[<-hk]at hm ⊢;have e1:(e+(k:Int)-K).toNat=k+(e-K).toNat:= aC ;rw[e1,bH];generalize hE:2^(e-K).toNat=E at *
 have Mn:0<E:=by rw[<-hE];exact bJ aE 
 by_cases hr:m%2^k=0
 .rw [bu aC,ch,<-bN];refine bI (amH ?_) h;congr 1;rw[bR];omega
 .rw [bw hr];have oo:k≠0:=by intro h0;rw[h0,cT,dX]at hr;exact hr rfl
  have iJ:m/2^k*(2^k*E)<gm*2^(ge-K).toNat:=by
   refine bX ?_ h;rw[<-bN];refine dF ?_ Mn;rw[bR];omega
  by_cases hc:e+k<=ge
  .have e2:(ge-K).toNat=(ge-(e+k)).toNat+(k+(e-K).toNat):= aC ;have e3:gm*2^(ge-K).toNat=gm*2^(ge-(e+k)).toNat*(2^k*E):=by rw[e2,bH,bH 2 k,hE,bN]
   rw[e3]at iJ ⊢;generalize gm*2^(ge-(e+k)).toNat=g at *
   have:m/2^k<g:=ano iJ;exact bW _ this
  .
   exfalso;have hb:(iD m:Int)-p=k:=by unfold jY at hk;omega
   have F2:m≠0:=by intro h0;rw[h0]at hr;simp at hr
   have h1:=uO F2;have I7:=pn F2;have h3:gm<2^p:=mJ.1 hg;have h4:gm*2^(ge-K).toNat<=2^(iD m-1)*E:=by
    refine bI (bW _ (dR h3)) ?_;rw[<-hE,<-bH,<-bH];exact bY aE aC 
   have h5:2^(iD m-1-k)<=m/2^k:=by
    rw[dB (bJ aE),<-bH];exact bI (bY aE aC) h1
   have h6:2^(iD m-1)*E<=m/2^k*(2^k*E):=by
    rw[<-bN];refine bW _ ?_;have:=bW (2^k) h5;rw[<-bH]at this;exact bI (bY aE aC) this
   omega
def P2(k:Int):Rat:=(2:Rat)^k
def oG(k:Int):0<P2 k:=Rat.zpow_pos aE 
def rq(a b:Int):P2 (a+b)=P2 a*P2 b:=Rat.zpow_add aE a b
def yY(n:Nat):P2 (n:Int)=((2^n:Nat):Rat):=by unfold P2;rw[Rat.zpow_natCast];simp
def KV:P2 0=1:=by have:=yY 0;simpa using this
def E5{e k:Int}(h:k<=e):P2 e=((2^(e-k).toNat:Nat):Rat)*P2 k:=by
 rw[<-yY,<-rq];congr 1;omega
def wI{x y:Rat}(k:Int):x*P2 k<=y*P2 k↔x<=y:=
 ⟨λh=>fX h (oG k),λh=>cN h (bZ (oG k))⟩
def vJ{m n:Nat}{e f K:Int}(h1:K<=e)(h2:K<=f):(m:Rat)*P2 e<=(n:Rat)*P2 f↔m*2^(e-K).toNat<=n*2^(f-K).toNat:=by
 rw[E5 h1,E5 h2,<-fF,<-fF,wI,<-dD,<-dD,dU]
def Dy.q(d:Dy):Rat:=((d.num d.e:Int):Rat)*P2 d.e
def yP{d:Dy}{k:Int}(h:qx d k):d.q=((d.num k:Int):Rat)*P2 k:=by
 unfold Dy.q;rcases h with h|h
 .rw [wK h,wK h];simp
 .rw [JL h (cM _),E5 h,<-fF,Rat.intCast_mul,eF]
def pA(a b:Dy):jE a b<=0↔a.q<=b.q:=by
 obtain⟨k,ka,kb⟩:∃ k:Int,k<=a.e/\k<=b.e:=⟨min a.e b.e,aC,aC⟩
 rw[s8 (.inr ka) (.inr kb),yP (.inr ka),yP (.inr kb),wI,gN]
def Wp(a b:Dy):(iG a b).q=a.q+b.q:=by
 obtain⟨k,ka,kb⟩:∃ k:Int,k<=a.e/\k<=b.e:=⟨min a.e b.e,aC,aC⟩
 rw[yP (HW (.inr ka) (.inr kb)),yP (.inr ka),yP (.inr kb),Kr (.inr ka) (.inr kb),Rat.intCast_add,Rat.add_mul]
def ri(a:Dy):(iK a).q = -a.q:=by
 rw[yP (K2 (.inr (cM a.e))),Oi,amN,amO];rfl
def si(s:Bool)(m:Nat)(e:Int):(canon s m e).q=if s then -((m:Rat)*P2 e)else(m:Rat)*P2 e:=by
 rw[yP (AB (cM e)),CY (cM e)];have:(e-e).toNat=0:= aC ;rw[this];cases s<;>simp[amN,amO,eF]
def rM(a:Dy):a.q=if a.neg then -((a.m:Rat)*P2 a.e)else(a.m:Rat)*P2 a.e:=by
 unfold Dy.q Dy.num Dy.kA;have:(a.e-a.e).toNat=0:= aC ;rw[this];cases a.neg<;>simp[amN,amO,eF]
def Ez(a b:Dy):(xF a b).q=a.q*b.q:=by
 unfold xF;rw[si,rM a,rM b,rq,dD];cases a.neg<;>cases b.neg<;>simp<;>grind
def wM:iS.q=0:=by rw[rM];simp[iS]
def OK{a b:Dy}(ha:a.nM)(hb:b.nM)(h:a.q=b.q):a=b:=by
 obtain⟨k,ka,kb⟩:∃ k:Int,k<=a.e/\k<=b.e:=⟨min a.e b.e,aC,aC⟩
 refine RR ha hb (.inr ka) (.inr kb) ?_;rw[yP (.inr ka),yP (.inr kb)]at h;have h1:=(wI (x:=((a.num k:Int):Rat)) (y:=((b.num k:Int):Rat)) k).1 (by rw[h];exact cR);have h2:=(wI (x:=((b.num k:Int):Rat)) (y:=((a.num k:Int):Rat)) k).1 (by rw[h];exact cR);rw[gN]at h1 h2;omega
def BE(n:Int):(jo n).q=(n:Rat):=by
 unfold jo;rw[yP (k:=0) (K1 (cM 0)),Oh (cM 0),KV];simp
def Ai(d:Dy):0<=(mw d).q/\d.q<=(mw d).q /\ -d.q<=(mw d).q/\((mw d).q=d.q\/(mw d).q = -d.q):=by
 have h:(mw d).q=(d.m:Rat)*P2 d.e:=by rw[rM];rfl
 have h0:0<=(d.m:Rat)*P2 d.e:=cr dr (bZ (oG _));rw[h,rM d];cases d.neg<;>simp<;>grind
def sF(d:Dy):(0<d.jG↔0<d.q)/\(d.jG<0↔d.q<0):=by
 have h:=oG d.e;have hm:d.m≠0->0<(d.m:Rat)*P2 d.e:=λh0=>ff (gO.2 aC) h
 rw[rM];unfold Dy.jG;by_cases h0:d.m=0
 .simp [h0]
 .have:=hm h0;rw[bu h0];cases d.neg<;>simp<;>grind
def xG(a b:Dy):a.q<=(jg a b).q/\b.q<=(jg a b).q/\((jg a b).q=a.q\/(jg a b).q=b.q):=
 ⟨(pA _ _).1 (CT a b),(pA _ _).1 (Vn a b),by unfold jg;split;exact .inr rfl;exact .inl rfl⟩
def vP(a b:Dy):(jk a b).q<=a.q/\(jk a b).q<=b.q/\((jk a b).q=a.q\/(jk a b).q=b.q):=
 ⟨(pA _ _).1 (Gv a b),(pA _ _).1 (Vp a b),by unfold jk;split;exact .inr rfl;exact .inl rfl⟩
def GM(p:Nat)(g:Rat):Prop:=∃ (m:Nat) (e:Int),iD m<=p /\ -16384<=e/\(iD m:Int)+e<=16384/\g=(m:Rat)*P2 e
def G(p:Nat)(g:Rat):Prop:=GM p g\/GM p (-g)
def GM.GH{p:Nat}{g:Rat}(h:GM p g):0<=g:=by
 obtain⟨m,e,_,_,_,rfl⟩:=h;exact cr dr (bZ (oG _))
def Aw(p:Nat):GM p 0:=⟨0,0,by simp[sM],aC,by simp[sM],aH⟩
def G.neg{p:Nat}{g:Rat}(h:G p g):G p (-g):=by
 rcases h with h|h
 .exact .inr (by rw[fY];exact h)
 .exact .inl h
def G.pos{p:Nat}{g:Rat}(h:G p g)(h0:0<=g):GM p g:=by
 rcases h with h|h
 .exact h
 .have:=h.GH;have:g=0:= aK ;rw[this];exact Aw p
def QP(k:Nat):iD (2^k)=k+1:=y8 (bD _) (ig aE aC)
def AF:iD 1=1:=QP 0
section
variable {m p:Nat} {e:Int}
def Yy(hp:1<=p)(iw:p<=4096)(ho:mC m e false p false=true):
 GM p (((2^p-1:Nat):Rat)*P2 (16384-p))/\((2^p-1:Nat):Rat)*P2 (16384-p)<=(m:Rat)*P2 e/\∀ g,GM p g->g<=((2^p-1:Nat):Rat)*P2 (16384-p):=by
 have xo:2<=2^p:=by
  have:=bY (n:=2) aE hp;omega
 have hb:iD (2^p-1)=p:=by
  obtain⟨j,rfl⟩:∃ j,p=j+1:=⟨p-1,aC⟩
  have h2:2^(j+1)=2^j*2:=bQ _ _;have h3:=bJ (n:=j) (aE:0<2);exact y8 aC aC 
 refine⟨⟨_,_,amH hb,aC,aC,rfl⟩,?_,?_⟩
 .obtain ⟨c1,c2⟩:=IA m e p;unfold mC at ho;simp only[bO,cL]at ho;obtain⟨o1,o2⟩:=ho;have hq:=uO o1;have I7:=pn o1;obtain⟨K,k1,k2⟩:∃ K:Int,K<=e/\K<=16384-p:=⟨min e (16384-p),aC,aC⟩
  rw[vJ k2 k1];have h1:2^(iD (lr m e false p false)-1)*2^jY m e p<=m:=bI (bW _ hq) c1;have h2:=bW (2^(e-K).toNat) h1;rw[<-bH,<-bH]at h2;refine bI (bW _ (gH _ _)) (bI ?_ h2);rw[<-bH];exact bY aE aC 
 .rintro g ⟨gm,ge,b1,b2,b3,rfl⟩;by_cases hc:ge<=16384-p
  .have:gm<2^p:=mJ.1 b1;rw[vJ (K:=ge) (cM _) hc];have e0:(ge-ge).toNat=0:= aC ;rw[e0,cT,cI];exact bI (aC:gm<=2^p-1) (gU _ (bJ aE))
  .rw [vJ (K:=16384-p) aC (cM _)];have e0:((16384:Int)-p-(16384-p)).toNat=0:= aC ;rw[e0,cT,cI];have h1:gm<2^(16384-ge).toNat:=by
    by_cases h0:gm=0
    .rw [h0];exact bJ aE 
    .exact mJ.1 aC 
   have h2:=dF h1 (bJ (n:=(ge-(16384-p)).toNat) (aE:0<2));by_cases hg:ge<=16384
   .rw [<-bH,show(16384-ge).toNat+(ge-(16384-(p:Int))).toNat=p by omega]at h2;omega
   .have:gm=0:=by
     rw[show(16384-ge).toNat=0 by omega]at h1;simpa using h1
    rw[this,c9];omega
def Yx(hp:1<=p)(ho:¬mC m e false p false=true):
 GM p (((lr m e false p false:Nat):Rat)*P2 (e+jY m e p))/\((lr m e false p false:Nat):Rat)*P2 (e+jY m e p)<=(m:Rat)*P2 e /\
 ∀ g,GM p g->g<=(m:Rat)*P2 e->g<=((lr m e false p false:Nat):Rat)*P2 (e+jY m e p):=by
 obtain⟨c1,c2⟩:=IA m e p;have hk:-16384<=e+(jY m e p:Int):=by unfold jY;omega
 refine⟨?_,?_,?_⟩
 .by_cases h0:lr m e false p false=0
  .rw [h0];simpa using Aw p
  .have hq:lr m e false p false<2^p:=by
    have:=RE m e p;unfold lr;simpa using this
   unfold mC at ho;simp only[dv,h0,eX,fU,e9,cL]at ho;exact⟨_,_,mJ.2 hq,hk,aC,rfl⟩
 .rw [vJ (K:=e) aC (cM _)];rw[show(e-e).toNat=0 by omega,show(e+(jY m e p:Int)-e).toNat=jY m e p by omega,cT,cI];exact c1
 .rintro g ⟨gm,ge,b1,b2,b3,rfl⟩ h;obtain⟨K,k1,k2⟩:∃ K:Int,K<=e/\K<=ge:=⟨min e ge,aC,aC⟩
  rw[vJ k2 k1]at h;rw[vJ (K:=K) k2 aC];exact adW hp b1 b2 k1 k2 h
def Q7(hp:1<=p)(ho:mC m e false p true=true)(g:Rat)(hg:GM p g):¬(m:Rat)*P2 e<=g:=by
 obtain⟨gm,ge,b1,b2,b3,rfl⟩:=hg;intro h;obtain⟨K,k1,k2⟩:∃ K:Int,K<=e/\K<=ge:=⟨min e ge,aC,aC⟩
 rw[vJ k1 k2]at h;have h:=Sy hp b1 b2 k1 k2 h;unfold mC at ho;simp only[bO,cL]at ho;obtain⟨o1,o2⟩:=ho;have hq:=uO o1;have I7:=pn o1;have h3:gm<2^iD gm:=sC gm;have h4:=dF h3 (bJ (n:=(ge-K).toNat) (aE:0<2));have h5:=bW (2^(e+(jY m e p:Int)-K).toNat) hq;rw[<-bH]at h4 h5;have h6:2^(iD gm+(ge-K).toNat)<=2^(iD (lr m e false p true)-1+(e+(jY m e p:Int)-K).toNat):=bY aE aC;omega
def Q6(hp:1<=p)(ho:¬mC m e false p true=true):
 GM p (((lr m e false p true:Nat):Rat)*P2 (e+jY m e p))/\(m:Rat)*P2 e<=((lr m e false p true:Nat):Rat)*P2 (e+jY m e p) /\
 ∀ g,GM p g->(m:Rat)*P2 e<=g->((lr m e false p true:Nat):Rat)*P2 (e+jY m e p)<=g:=by
 obtain⟨c1,c2⟩:=IA m e p;have hk:-16384<=e+(jY m e p:Int):=by unfold jY;omega
 refine⟨?_,?_,?_⟩
 .by_cases h0:lr m e false p true=0
  .rw [h0];simpa using Aw p
  .unfold mC at ho;simp only[dv,h0,eX,fU,e9,cL]at ho;rcases Nat.lt_or_eq_of_le (Rr m e false p true)with hq|hq
   .exact ⟨_,_,mJ.2 hq,hk,aC,rfl⟩
   .rw [hq]at ho ⊢;rw[QP]at ho;refine⟨1,p+(e+jY m e p),by rw[AF];exact hp,aC,by rw[AF];omega,?_⟩;rw[rq (p:Int),yY p,show((1:Nat):Rat)=1 from rfl,fZ]
 .rw [vJ (K:=e) (cM _) aC];rw[show(e-e).toNat=0 by omega,show(e+(jY m e p:Int)-e).toNat=jY m e p by omega,cT,cI];exact c2
 .rintro g ⟨gm,ge,b1,b2,b3,rfl⟩ h;obtain⟨K,k1,k2⟩:∃ K:Int,K<=e/\K<=ge:=⟨min e ge,aC,aC⟩
  rw[vJ k1 k2]at h;rw[vJ (K:=K) aC k2];exact Sy hp b1 b2 k1 k2 h
end
def Dn(p:Nat)(v:Rat)(D:Dy)(E:Int):Prop:=(E=0->G p D.q/\D.q<=v)/\∀ g,G p g->g<=v->E=0/\g<=D.q
def Up(p:Nat)(v:Rat)(D:Dy)(E:Int):Prop:=(E=0->G p D.q/\v<=D.q)/\∀ g,G p g->v<=g->E=0/\D.q<=g
def Dn.of{p:Nat}{v w:Rat}{D:Dy}{E:Int}(h:Dn p v D E)(k:∀ g,G p g->(g<=v↔g<=w)):Dn p w D E:=
 ⟨λe=>⟨(h.1 e).1,(k _ (h.1 e).1).1 (h.1 e).2⟩,λg hg hw=>h.2 g hg ((k g hg).2 hw)⟩
def Up.of{p:Nat}{v w:Rat}{D:Dy}{E:Int}(h:Up p v D E)(k:∀ g,G p g->(v<=g↔w<=g)):Up p w D E:=
 ⟨λe=>⟨(h.1 e).1,(k _ (h.1 e).1).1 (h.1 e).2⟩,λg hg hw=>h.2 g hg ((k g hg).2 hw)⟩
def Ft(neg:Bool)(m:Nat)(e:Int){p:Nat}(hp:1<=p)(iw:p<=4096):Dn p (canon neg m e).q (ku neg m e false p false) (j9 neg m e false p false):=by
 have hv:0<=(m:Rat)*P2 e:=cr dr (bZ (oG _));rw[si];cases neg
 .
  have hE:j9 false m e false p false=0:=by unfold j9;simp
  rw[hE];unfold ku;simp only[bne_self_eq_false,bM,bE];by_cases ho:mC m e false p false=true
  .obtain ⟨t1,t2,t3⟩:=Yy hp iw ho;rw[bw ho];(first|unfold Dn|unfold Up);rw[si];simp only[bM,bE];refine⟨λ_=>⟨.inl t1,t2⟩,λg hg hle=>⟨trivial,?_⟩⟩;by_cases h0:0<=g
   .exact t3 g (hg.pos h0)
   .have:=t1.GH;grind
  .obtain ⟨t1,t2,t3⟩:=Yx hp ho;rw[bu ho];(first|unfold Dn|unfold Up);rw[si];simp only[bM,bE];refine⟨λ_=>⟨.inl t1,t2⟩,λg hg hle=>⟨trivial,?_⟩⟩;by_cases h0:0<=g
   .exact t3 g (hg.pos h0) hle
   .have:=t1.GH;grind
 .unfold ku j9;simp only[Bool.bne_false,Bool.and_true,bL];by_cases ho:mC m e false p true=true
  .rw [bw ho,bw ho];refine⟨λh=>by simp at h,λg hg hle=>?_⟩;exact absurd (show(m:Rat)*P2 e <= -g by grind) (Q7 hp ho _ (hg.neg.pos aK))
  .obtain ⟨t1,t2,t3⟩:=Q6 hp ho;rw[bu ho,bu ho];(first|unfold Dn|unfold Up);rw[si];simp only[bL];refine⟨λ_=>⟨.inr (by rw[fY];exact t1),aK⟩,λg hg hle=>⟨trivial,?_⟩⟩;have:=t3 (-g) (hg.neg.pos aK) aK 
   grind
def Fu(neg:Bool)(m:Nat)(e:Int){p:Nat}(hp:1<=p)(iw:p<=4096):Up p (canon neg m e).q (ku neg m e false p true) (j9 neg m e false p true):=by
 have hv:0<=(m:Rat)*P2 e:=cr dr (bZ (oG _));rw[si];cases neg
 .unfold ku j9;simp only[Bool.bne_true,fu,Bool.and_true,bL,bM,bE];by_cases ho:mC m e false p true=true
  .rw [bw ho,bw ho];refine⟨λh=>by simp at h,λg hg hle=>?_⟩;exact absurd hle (Q7 hp ho _ (hg.pos aK))
  .obtain ⟨t1,t2,t3⟩:=Q6 hp ho;rw[bu ho,bu ho];(first|unfold Dn|unfold Up);rw[si];simp only[bM,bE];exact⟨λ_=>⟨.inl t1,t2⟩,λg hg hle=>⟨trivial,t3 g (hg.pos aK) hle⟩⟩
 .have hE:j9 true m e false p true=0:=by unfold j9;simp
  rw[hE];unfold ku;simp only[bne_self_eq_false,bM,bE,bL];by_cases ho:mC m e false p false=true
  .obtain ⟨t1,t2,t3⟩:=Yy hp iw ho;rw[bw ho];(first|unfold Dn|unfold Up);rw[si];simp only[bL];refine⟨λ_=>⟨.inr (by rw[fY];exact t1),aK⟩,λg hg hle=>⟨trivial,?_⟩⟩;by_cases h0:0 <= -g
   .have:=t3 (-g) (hg.neg.pos h0);grind
   .have:=t1.GH;grind
  .obtain ⟨t1,t2,t3⟩:=Yx hp ho;rw[bu ho];(first|unfold Dn|unfold Up);rw[si];simp only[bL];refine⟨λ_=>⟨.inr (by rw[fY];exact t1),aK⟩,λg hg hle=>⟨trivial,?_⟩⟩;by_cases h0:0 <= -g
   .have:=t3 (-g) (hg.neg.pos h0) aK;grind
   .have:=t1.GH;grind
def xL{d:Dy}(hd:d.nM){p:Nat}(hp:1<=p)(iw:p<=4096):Dn p d.q (iM d p false) (jP d p false):=by
 have:=Ft d.neg d.m d.e hp iw;rwa[hd.Iu]at this
def xM{d:Dy}(hd:d.nM){p:Nat}(hp:1<=p)(iw:p<=4096):Up p d.q (iM d p true) (jP d p true):=by
 have:=Fu d.neg d.m d.e hp iw;rwa[hd.Iu]at this
def Md{N p:Nat}{e:Int}(hb:p<iD N){g:Rat}(hg:GM p g):g<=(N:Rat)*P2 e\/((N+1:Nat):Rat)*P2 e<=g:=by
 obtain⟨gm,ge,b1,b2,b3,rfl⟩:=hg;by_cases hc:e<=ge
 .rw [vJ (K:=e) hc (cM _),vJ (K:=e) (cM _) hc,show(e-e).toNat=0 by omega];omega
 .left;rw[vJ (K:=ge) (cM _) aC,show(ge-ge).toNat=0 by omega,cT,cI];have h1:gm<2^p:=mJ.1 b1;have h2:2^p<=N:=xB.1 hb;exact bI (dR (bX h1 h2)) (gU _ (bJ aE))
def QN{N p:Nat}{e:Int}(hb:p<iD N){x y:Rat}(x1:(N:Rat)*P2 e<x)(x2:x<((N+1:Nat):Rat)*P2 e)(y1:(N:Rat)*P2 e<y)(y2:y<((N+1:Nat):Rat)*P2 e){g:Rat}(hg:G p g):
 (g<=x↔g<=y)/\(x<=g↔y<=g)/\(g <= -x↔g <= -y)/\(-x<=g ↔ -y<=g):=by
 have hv:0<=(N:Rat)*P2 e:=cr dr (bZ (oG _));have hG:∀ g,G p g->g<=(N:Rat)*P2 e\/((N+1:Nat):Rat)*P2 e<=g:=by
  intro g hg;by_cases h0:0<=g
  .exact Md hb (hg.pos h0)
  .left;grind
 have h1:=hG g hg;have h2:=hG (-g) hg.neg;generalize (N:Rat)*P2 e=A at *
 generalize ((N+1:Nat):Rat)*P2 e=B at *
 refine⟨?_,?_,?_,?_⟩<;>constructor<;>intro h<;>grind
def DF{N p:Nat}(E:Int)(hb:p<iD N)(neg up:Bool):ku neg N E true p up=ku neg (2*N+1) (E-1) false p up/\j9 neg N E true p up=j9 neg (2*N+1) (E-1) false p up:=by
 have h1:(2*N+1)/2^1=N:= aC ;have h:=Iz (N:=2*N+1) (E:=E-1) (more:=false) (d:=1) (p:=p) neg up (by rw[h1];exact hb);have h2:decide ((2*N+1)%2^1≠0)=true:= aH ;rw[h1,h2,(aC:E-1+((1:Nat):Int)=E)]at h;exact h
def RC{a b:Dy}(b0:b.m≠0){p:Nat}(hp:1<=p)(iw:p<=4096):Dn p (a.q/b.q) (oC a b p false) (pZ a b p false)/\Up p (a.q/b.q) (oC a b p true) (pZ a b p true):=by
 by_cases a0:a.m=0
 .have hq:a.q=0:=by rw[rM,a0];simp
  have h0:(0:Rat)/b.q=0:=by rw[di,Rat.zero_mul]
  unfold oC pZ;rw[hq,h0,bw a0,bw a0,bw a0,bw a0];have hz:G p 0:=.inl (Aw p);exact⟨⟨λ_=>⟨by rw[wM];exact hz,by rw[wM];exact cR⟩,λg _ h=>⟨rfl,by rw[wM];exact h⟩⟩,⟨λ_=>⟨by rw[wM];exact hz,by rw[wM];exact cR⟩,λg _ h=>⟨rfl,by rw[wM];exact h⟩⟩⟩
 .have hb:=LH a0 b0 p 2 aE ;unfold oC pZ;rw[bu a0,bu a0,bu a0,bu a0];generalize hk:lG a b p 2=k at *
  generalize hs:(a.neg != b.neg)=s;generalize hE:a.e-b.e-(k:Int)=E0;have hB:(0:Rat)<(b.m:Rat):=gO.2 aC;have SH:=oG b.e;have hP:=oG E0;obtain⟨w,hw⟩:∃ w:Rat,w=(a.m:Rat)*P2 a.e/((b.m:Rat)*P2 b.e):=⟨_,rfl⟩
  have TX:w*((b.m:Rat)*P2 b.e)=(a.m:Rat)*P2 a.e:=by
   have:(b.m:Rat)*P2 b.e≠0:=by have:=ff hB SH;grind
   rw[hw];exact eh this
  have my:a.q/b.q=if s then -w else w:=by
   have tR:b.q≠0:=by
    have:=ff hB SH;rw[rM b];cases b.neg<;>simp<;>grind
   have hq:(if s then -w else w)*b.q=a.q:=by
    rw[rM a,rM b,<-hs,<-TX];cases a.neg<;>cases b.neg<;>simp<;>grind
   rw[<-hq,anc tR]
  have MK:=cV (a.m*2^k) b.m;have hr:=bS (a.m*2^k) (aC:0<b.m);generalize hN:a.m*2^k/b.m=N at *
  generalize hR:a.m*2^k%b.m=R at *
  have aen:(b.m:Rat)*(N:Rat)+(R:Rat)=(a.m:Rat)*((2^k:Nat):Rat):=by rw[<-dD,<-dD,<-eG,MK]
  have hae:P2 a.e=((2^k:Nat):Rat)*P2 b.e*P2 E0:=by rw[<-yY,<-rq,<-rq];congr 1;omega
  have Js:w*(b.m:Rat)=((b.m:Rat)*(N:Rat)+(R:Rat))*P2 E0:=by
   have:w*(b.m:Rat)*P2 b.e=((b.m:Rat)*(N:Rat)+(R:Rat))*P2 E0*P2 b.e:=by
    rw[aen,fF,TX,hae];grind
   have kj:P2 b.e≠0:= aK ;have h2:=congrArg (· / P2 b.e) this;simp only[anc kj]at h2;exact h2
  by_cases h0:R=0
  .have Nl:w=(N:Rat)*P2 E0:=by
    rw[h0]at Js;have kj:(b.m:Rat)≠0:= aK ;have h2:w*(b.m:Rat)=((N:Rat)*P2 E0)*(b.m:Rat):=by rw[Js];simp;grind
    have h3:=congrArg (· / (b.m:Rat)) h2;simp only[anc kj]at h3;exact h3
   have hc:a.q/b.q=(canon s N E0).q:=by rw[my,si,Nl]
   rw[hc,bB (by simpa using h0)];exact⟨Ft _ _ _ hp iw,Fu _ _ _ hp iw⟩
  .have yj:(0:Rat)<(R:Rat):=gO.2 aC ;have hRb:(R:Rat)<(b.m:Rat):=Rat.natCast_lt_natCast.2 hr;have w1:(N:Rat)*P2 E0<w:=by
    apply anp (c:=(b.m:Rat)) _ (bZ hB);rw[Js];have:=ff yj hP
    grind
   have w2:w<((N+1:Nat):Rat)*P2 E0:=by
    apply anp (c:=(b.m:Rat)) _ (bZ hB);rw[Js,eG];have:=ff (show(0:Rat)<(b.m:Rat)-(R:Rat)by grind) hP;simp
    grind
   have hh:P2 E0=2*P2 (E0-1):=by
    rw[E5 (aC:E0-1<=E0),show(E0-(E0-1)).toNat=1 by omega];simp
   have v1:(N:Rat)*P2 E0<((2*N+1:Nat):Rat)*P2 (E0-1):=by
    have:=oG (E0-1);rw[hh,eG,dD];simp;grind
   have v2:((2*N+1:Nat):Rat)*P2 (E0-1)<((N+1:Nat):Rat)*P2 E0:=by
    have:=oG (E0-1);rw[hh,eG,dD,eG];simp;grind
   rw[bA (by simpa using h0),(DF E0 hb s false).1,(DF E0 hb s false).2,(DF E0 hb s true).1,(DF E0 hb s true).2,my];have A:=Ft s (2*N+1) (E0-1) hp iw;have B:=Fu s (2*N+1) (E0-1) hp iw;rw[si]at A B;refine⟨A.of λg hg=>?_,B.of λg hg=>?_⟩
   .obtain ⟨k1,k2,k3,k4⟩:=QN hb v1 v2 w1 w2 hg;cases s
    .exact k1
    .exact k3
   .obtain ⟨k1,k2,k3,k4⟩:=QN hb v1 v2 w1 w2 hg;cases s
    .exact k2
    .exact k4
def Iv.ki(x:Iv)(r:Rat):Prop:=x.all=true\/(x.lo.q<=r/\r<=x.hi.q)
def Sub(x y:Iv):Prop:=y.all=true\/(x.all=false/\y.lo.q<=x.lo.q/\x.hi.q<=y.hi.q)
def Sub.ki{x y:Iv}(h:Sub x y){r:Rat}(k:x.ki r):y.ki r:=by
 rcases h with h|⟨h1,h2,h3⟩
 .exact .inl h
 .rcases k with k|⟨k1,k2⟩
  .rw [h1]at k;cases k
  .exact .inr ⟨aK,aK⟩
def Sub.xy{x y:Iv}(h:Sub x y)(k:y.all=false):x.all=false/\y.lo.q<=x.lo.q/\x.hi.q<=y.hi.q:=by
 rcases h with h|h
 .rw [h]at k;cases k
 .exact h
def Iv.iy.q{x:Iv}(h:x.iy):x.lo.q<=x.hi.q:=by
 rcases h with⟨_,h2,h3⟩|⟨_,_,_,h⟩
 .rw [h2,h3];exact cR
 .exact (pA _ _).1 h
def Iv.iy.AM{x:Iv}(h:x.iy):x.lo.nM/\x.hi.nM:=by
 rcases h with⟨_,h2,h3⟩|⟨_,h2,h3,_⟩
 .rw [h2,h3];exact⟨sk.canon,sk.canon⟩
 .exact ⟨h2.canon,h3.canon⟩
def Iv.iy.A7{x:Iv}(h:x.iy):x.ki x.lo.q:=.inr ⟨cR,h.q⟩
def Iv.iy.DR{x:Iv}(h:x.iy):x.ki x.hi.q:=.inr ⟨h.q,cR⟩
structure EZ(p:Nat)(S:Rat->Prop)(X:Iv):Prop where
 ki:∀ r,S r->X.ki r
 on:X.all=false->G p X.lo.q/\G p X.hi.q
 yG:∀ L U,G p L->G p U->(∀ r,S r->L<=r/\r<=U)->X.all=false/\L<=X.lo.q/\X.hi.q<=U
def K4{x y:Iv}(hx:x.iy)(hy:y.iy)(xa:x.all=false)(ya:y.all=false){p:Nat}(hp:1<=p)(iw:p<=4096):
 EZ p (λr=>∃ a b,x.ki a/\y.ki b/\r=a+b) (jO x y p):=by
 have A:=xL (DC hx.AM.1 hy.AM.1) hp iw;have B:=xM (DC hx.AM.2 hy.AM.2) hp iw;rw[Wp]at A B;unfold jO mh;rw[xa,ya];simp only[gL,bM,bE];have ki:∀ r,(∃ a b,x.ki a/\y.ki b/\r=a+b)->x.lo.q+y.lo.q<=r/\r<=x.hi.q+y.hi.q:=by
  rintro r ⟨a,b,ha,hb,rfl⟩;rcases ha with ha|ha
  .rw [xa]at ha;cases ha
  .rcases hb with hb|hb
   .rw [ya]at hb;cases hb
   .grind
 have yG:∀ L U,G p L->G p U->(∀ r,(∃ a b,x.ki a/\y.ki b/\r=a+b)->L<=r/\r<=U) ->
  (jP (iG x.lo y.lo) p false=0/\L<=(iM (iG x.lo y.lo) p false).q)/\jP (iG x.hi y.hi) p true=0/\(iM (iG x.hi y.hi) p true).q<=U:=λL U hL hU h=>
  ⟨A.2 L hL (h _ ⟨_,_,hx.A7,hy.A7,rfl⟩).1,B.2 U hU (h _ ⟨_,_,hx.DR,hy.DR,rfl⟩).2⟩
 split
 .rename_i he;refine⟨λ_ _=>.inl rfl,λh=>absurd h aE,λL U hL hU h=>?_⟩;obtain⟨⟨e1,_⟩,e2,_⟩:=yG L U hL hU h;rcases he with he|he
  .exact absurd e1 he
  .exact absurd e2 he
 .rename_i he;obtain⟨a1,a2⟩:=A.1 aC;obtain⟨b1,b2⟩:=B.1 aC;refine⟨λr hr=>.inr ?_,λ_=>⟨a1,b1⟩,λL U hL hU h=>?_⟩
  .obtain ⟨h1,h2⟩:=ki r hr;exact⟨bV a2 h1,bV h2 b2⟩
  .obtain ⟨⟨_,e1⟩,_,e2⟩:=yG L U hL hU h;exact⟨rfl,e1,e2⟩
def Ib{x y:Iv}(p:Nat)(h:x.all=true\/y.all=true):jO x y p=ix:=by
 unfold jO;rw[bw (by rcases h with h|h<;>rw[h]<;>simp)]
def B0{x y:Iv}(hx:x.iy)(hy:y.iy){p:Nat}(hp:1<=p)(iw:p<=4096){a b:Rat}(ha:x.ki a)(hb:y.ki b):(jO x y p).ki (a+b):=by
 cases xa:x.all
 .cases ya:y.all
  .exact (K4 hx hy xa ya hp iw).ki _ ⟨a,b,ha,hb,rfl⟩
  .rw [Ib p (.inr ya)];exact .inl rfl
 .rw [Ib p (.inl xa)];exact .inl rfl
def Sr{p:Nat}{D:Dy->Dy->Bool->Dy}{E:Dy->Dy->Bool->Int}{f:Rat->Rat->Rat}{x y:Iv}{S:Rat->Prop}
 (hD:∀ a b,(a=x.lo\/a=x.hi)->(b=y.lo\/b=y.hi)->Dn p (f a.q b.q) (D a b false) (E a b false)/\Up p (f a.q b.q) (D a b true) (E a b true)/\S (f a.q b.q))
 (hS:∀ r,S r->(f x.lo.q y.lo.q<=r\/f x.lo.q y.hi.q<=r\/f x.hi.q y.lo.q<=r\/f x.hi.q y.hi.q<=r)/\(r<=f x.lo.q y.lo.q\/r<=f x.lo.q y.hi.q\/r<=f x.hi.q y.lo.q\/r<=f x.hi.q y.hi.q)):
 EZ p S (pt D E x y):=by
 obtain⟨a1,a2,a3⟩:=hD x.lo y.lo (.inl rfl) (.inl rfl);obtain⟨b1,b2,b3⟩:=hD x.lo y.hi (.inl rfl) (.inr rfl);obtain⟨c1,c2,c3⟩:=hD x.hi y.lo (.inr rfl) (.inl rfl);obtain⟨d1,d2,d3⟩:=hD x.hi y.hi (.inr rfl) (.inr rfl);have yG:∀ L U,G p L->G p U->(∀ r,S r->L<=r/\r<=U) ->
  ((E x.lo y.lo false=0/\L<=(D x.lo y.lo false).q)/\E x.lo y.lo true=0/\(D x.lo y.lo true).q<=U)/\((E x.lo y.hi false=0/\L<=(D x.lo y.hi false).q)/\E x.lo y.hi true=0/\(D x.lo y.hi true).q<=U) /\
  ((E x.hi y.lo false=0/\L<=(D x.hi y.lo false).q)/\E x.hi y.lo true=0/\(D x.hi y.lo true).q<=U)/\((E x.hi y.hi false=0/\L<=(D x.hi y.hi false).q)/\E x.hi y.hi true=0/\(D x.hi y.hi true).q<=U):=λL U hL hU h=>
  ⟨⟨a1.2 L hL (h _ a3).1,a2.2 U hU (h _ a3).2⟩,⟨b1.2 L hL (h _ b3).1,b2.2 U hU (h _ b3).2⟩,⟨c1.2 L hL (h _ c3).1,c2.2 U hU (h _ c3).2⟩,⟨d1.2 L hL (h _ d3).1,d2.2 U hU (h _ d3).2⟩⟩
 unfold pt;split
 .rename_i he;obtain⟨⟨e1,e2⟩,⟨e3,e4⟩,⟨e5,e6⟩,⟨e7,e8⟩⟩:=he;obtain⟨ga,la⟩:=a1.1 e1;obtain⟨gA,lA⟩:=a2.1 e2;obtain⟨gb,lb⟩:=b1.1 e3;obtain⟨gB,lB⟩:=b2.1 e4;obtain⟨gc,lc⟩:=c1.1 e5;obtain⟨gC,lC⟩:=c2.1 e6;obtain⟨gd,ld⟩:=d1.1 e7;obtain⟨gD,lD⟩:=d2.1 e8;obtain⟨m1,m2,m3⟩:=vP (D x.lo y.lo false) (D x.lo y.hi false);obtain⟨m4,m5,m6⟩:=vP (jk (D x.lo y.lo false) (D x.lo y.hi false)) (D x.hi y.lo false);obtain⟨m7,m8,m9⟩:=vP (jk (jk (D x.lo y.lo false) (D x.lo y.hi false)) (D x.hi y.lo false)) (D x.hi y.hi false);obtain⟨n1,n2,n3⟩:=xG (D x.lo y.lo true) (D x.lo y.hi true);obtain⟨n4,n5,n6⟩:=xG (jg (D x.lo y.lo true) (D x.lo y.hi true)) (D x.hi y.lo true);obtain⟨n7,n8,n9⟩:=xG (jg (jg (D x.lo y.lo true) (D x.lo y.hi true)) (D x.hi y.lo true)) (D x.hi y.hi true);generalize (jk (D x.lo y.lo false) (D x.lo y.hi false))=u1 at *
  generalize (jk u1 (D x.hi y.lo false))=u2 at *
  generalize (jk u2 (D x.hi y.hi false))=u3 at *
  generalize (jg (D x.lo y.lo true) (D x.lo y.hi true))=v1 at *
  generalize (jg v1 (D x.hi y.lo true))=v2 at *
  generalize (jg v2 (D x.hi y.hi true))=v3 at *
  refine⟨λr hr=>.inr ?_,λ_=>⟨?_,?_⟩,λL U hL hU h=>⟨rfl,?_,?_⟩⟩
  .obtain ⟨h1,h2⟩:=hS r hr;constructor
   .show u3.q<=r;rcases h1 with h1|h1|h1|h1<;>grind
   .show r<=v3.q;rcases h2 with h1|h1|h1|h1<;>grind
  .show G p u3.q;rcases m9 with h|h
   .rw [h];rcases m6 with h|h
    .rw [h];rcases m3 with h|h<;>rw[h]<;>assumption
    .rw [h];assumption
   .rw [h];assumption
  .show G p v3.q;rcases n9 with h|h
   .rw [h];rcases n6 with h|h
    .rw [h];rcases n3 with h|h<;>rw[h]<;>assumption
    .rw [h];assumption
   .rw [h];assumption
  .obtain ⟨⟨⟨_,k1⟩,_,k2⟩,⟨⟨_,k3⟩,_,k4⟩,⟨⟨_,k5⟩,_,k6⟩,⟨⟨_,k7⟩,_,k8⟩⟩:=yG L U hL hU h;show L<=u3.q;rcases m9 with h|h
   .rw [h];rcases m6 with h|h
    .rw [h];rcases m3 with h|h<;>rw[h]<;>assumption
    .rw [h];assumption
   .rw [h];assumption
  .obtain ⟨⟨⟨_,k1⟩,_,k2⟩,⟨⟨_,k3⟩,_,k4⟩,⟨⟨_,k5⟩,_,k6⟩,⟨⟨_,k7⟩,_,k8⟩⟩:=yG L U hL hU h;show v3.q<=U;rcases n9 with h|h
   .rw [h];rcases n6 with h|h
    .rw [h];rcases n3 with h|h<;>rw[h]<;>assumption
    .rw [h];assumption
   .rw [h];assumption
 .rename_i he;refine⟨λ_ _=>.inl rfl,λh=>absurd h aE,λL U hL hU h=>?_⟩;obtain⟨⟨⟨k1,_⟩,k2,_⟩,⟨⟨k3,_⟩,k4,_⟩,⟨⟨k5,_⟩,k6,_⟩,⟨⟨k7,_⟩,k8,_⟩⟩:=yG L U hL hU h;exact absurd ⟨⟨k1,k2⟩,⟨k3,k4⟩,⟨k5,k6⟩,k7,k8⟩ he
def Rn{a b c d x y:Rat}(h1:a<=x)(h2:x<=b)(h3:c<=y)(h4:y<=d):
 (a*c<=x*y\/a*d<=x*y\/b*c<=x*y\/b*d<=x*y)/\(x*y<=a*c\/x*y<=a*d\/x*y<=b*c\/x*y<=b*d):=by
 have mono:∀ {u v w:Rat},u<=v->0<=w->u*w<=v*w:=λh k=>cN h k
 have anti:∀ {u v w:Rat},u<=v->w<=0->v*w<=u*w:=by
  intro u v w h k;have:=mono h (show 0 <= -w by grind)
  grind
 have side:∀ t:Rat,(t*c<=t*y\/t*d<=t*y)/\(t*y<=t*c\/t*y<=t*d):=by
  intro t;rw[gh t c,gh t d,gh t y];rcases Rat.le_total (a:=0) (b:=t)with h|h
  .exact ⟨.inl (mono h3 h),.inr (mono h4 h)⟩
  .exact ⟨.inr (anti h4 h),.inl (anti h3 h)⟩
 have sa:=side a;have sb:=side b;rcases Rat.le_total (a:=0) (b:=y)with h|h
 .have m1:=mono h1 h;have m2:=mono h2 h;clear mono anti side;constructor
  .rcases sa.1 with k|k<;>grind
  .rcases sb.2 with k|k<;>grind
 .have m1:=anti h1 h;have m2:=anti h2 h;clear mono anti side;constructor
  .rcases sb.1 with k|k<;>grind
  .rcases sa.2 with k|k<;>grind
def Iv.ki.kr{x:Iv}{r:Rat}(h:x.ki r)(k:x.all=false):x.lo.q<=r/\r<=x.hi.q:=by
 rcases h with h|h
 .rw [k]at h;cases h
 .exact h
def AL(a b:Dy):(xF a b).nM:=tG _ _ _
def NY{x y:Iv}(hx:x.iy)(hy:y.iy)(xa:x.all=false)(ya:y.all=false){p:Nat}(hp:1<=p)(iw:p<=4096):
 EZ p (λr=>∃ a b,x.ki a/\y.ki b/\r=a*b) (iV x y p):=by
 unfold iV;rw[xa,ya];simp only[gL,bM,bE];refine Sr (f:=λa b=>a*b) (λa b ha hb=>⟨?_,?_,a.q,b.q,?_,?_,rfl⟩) (λr ⟨a,b,ha,hb,e⟩=>?_)
 .have:=xL (AL a b) hp iw;rwa[Ez]at this
 .have:=xM (AL a b) hp iw;rwa[Ez]at this
 .rcases ha with rfl|rfl;exact hx.A7;exact hx.DR
 .rcases hb with rfl|rfl;exact hy.A7;exact hy.DR
 .obtain ⟨h1,h2⟩:=ha.kr xa;obtain⟨h3,h4⟩:=hb.kr ya;rw[e];exact Rn h1 h2 h3 h4
def JF{x y:Iv}(p:Nat)(h:x.all=true\/y.all=true):iV x y p=ix:=by
 unfold iV;rw[bw (by rcases h with h|h<;>rw[h]<;>simp)]
def N4{x y:Iv}(hx:x.iy)(hy:y.iy){p:Nat}(hp:1<=p)(iw:p<=4096){a b:Rat}(ha:x.ki a)(hb:y.ki b):(iV x y p).ki (a*b):=by
 cases xa:x.all
 .cases ya:y.all
  .exact (NY hx hy xa ya hp iw).ki _ ⟨a,b,ha,hb,rfl⟩
  .rw [JF p (.inr ya)];exact .inl rfl
 .rw [JF p (.inl xa)];exact .inl rfl
def Ny{b c:Rat}(h0:0<c)(h:c<=b):b⁻¹<=c⁻¹:=by
 have hb:0<b:= aK ;apply fX (c:=b*c) _ (ff hb h0);have e1:b⁻¹*(b*c)=c:=by rw[<-fF,amP _ aK,fZ]
 have e2:c⁻¹*(b*c)=b:=by rw[gh b c,<-fF,amP _ aK,fZ]
 rw[e1,e2];exact h
def VT(b:Rat):(-b)⁻¹ = -b⁻¹:=by
 by_cases h:b=0
 .rw [h];simp
 .have h1:(-b)⁻¹*(-b)=1:=amP _ aK ;have h2:b⁻¹*b=1:=amP _ h;have h3:(-b)⁻¹*(-b)*b⁻¹=b⁻¹:=by rw[h1,fZ]
  grind
def Ul{b c:Rat}(h0:b<0)(h:c<=b):b⁻¹<=c⁻¹:=by
 have:=Ny (b:=-c) (c:=-b) aK aK;rw[VT,VT]at this
 grind
def XX{y:Iv}(_hy:y.iy)(h:lZ y≠0):y.all=false/\(0<y.lo.q\/y.hi.q<0):=by
 unfold lZ at h;cases ya:y.all
 .rw [ya]at h;simp only[bM,bE]at h;refine⟨rfl,?_⟩;split at h
  .rename_i h1;exact .inl ((sF _).1.1 h1)
  .split at h
   .rename_i h1;exact .inr ((sF _).2.1 h1)
   .exact absurd rfl h
 .rw [ya]at h;simp at h
def Pq{y:Iv}(ya:y.all=false)(h:0<y.lo.q\/y.hi.q<0):lZ y≠0:=by
 unfold lZ;rw[ya];simp only[bM,bE];rcases h with h|h
 .rw [bw ((sF _).1.2 h)];decide
 .split
  .decide
  .rw [bw ((sF _).2.2 h)];decide
def agb{d:Dy}(h:d.q≠0):d.m≠0:=by
 intro h0;apply h;rw[rM,h0];simp
def IB{x y:Iv}(hx:x.iy)(hy:y.iy)(xa:x.all=false)(hs:lZ y≠0){p:Nat}(hp:1<=p)(iw:p<=4096):
 EZ p (λr=>∃ a b,x.ki a/\y.ki b/\r=a/b) (jz x y p):=by
 obtain⟨ya,h0⟩:=XX hy hs;have hle:=hy.q;unfold jz;rw[xa,ya,bB hs];simp only[gL,bM,bE];refine Sr (f:=λa b=>a/b) (λa b ha hb=>?_) (λr ⟨a,b,ha,hb,e⟩=>?_)
 .have b0:b.m≠0:=agb (by rcases hb with rfl|rfl<;>grind);obtain⟨h1,h2⟩:=RC (a:=a) b0 hp iw;refine⟨h1,h2,a.q,b.q,?_,?_,rfl⟩
  .rcases ha with rfl|rfl;exact hx.A7;exact hx.DR
  .rcases hb with rfl|rfl;exact hy.A7;exact hy.DR
 .obtain ⟨h1,h2⟩:=ha.kr xa;obtain⟨h3,h4⟩:=hb.kr ya;have i1:y.hi.q⁻¹<=b⁻¹:=by
   rcases h0 with h0|h0
   .exact Ny aK h4
   .exact Ul aK h4
  have i2:b⁻¹<=y.lo.q⁻¹:=by
   rcases h0 with h0|h0
   .exact Ny h0 h3
   .exact Ul aK h3
  obtain⟨k1,k2⟩:=Rn h1 h2 i1 i2;rw[e];simp only[di];exact⟨aK,aK⟩
def Fx{x y:Iv}(p:Nat)(h:x.all=true\/lZ y=0):jz x y p=ix:=by
 unfold jz;rw[bw (by rcases h with h|h<;>rw[h]<;>simp)]
def IC{x y:Iv}(hx:x.iy)(hy:y.iy){p:Nat}(hp:1<=p)(iw:p<=4096){a b:Rat}(ha:x.ki a)(hb:y.ki b):(jz x y p).ki (a/b):=by
 cases xa:x.all
 .by_cases hs:lZ y=0
  .rw [Fx p (.inr hs)];exact .inl rfl
  .exact (IB hx hy xa hs hp iw).ki _ ⟨a,b,ha,hb,rfl⟩
 .rw [Fx p (.inl xa)];exact .inl rfl
def CP{x:Iv}(h:x.lo.q<=x.hi.q):x.hi.q<=(ng x).q /\ -x.lo.q<=(ng x).q/\((ng x).q=x.hi.q\/(ng x).q = -x.lo.q):=by
 obtain⟨a1,a2,a3,a4⟩:=Ai x.lo;obtain⟨b1,b2,b3,b4⟩:=Ai x.hi;obtain⟨c1,c2,c3⟩:=xG (mw x.lo) (mw x.hi);unfold ng;generalize (jg (mw x.lo) (mw x.hi)).q=M at *
 refine⟨aK,aK,?_⟩;rcases c3 with c3|c3
 .rcases a4 with a4|a4
  .grind
  .grind
 .rcases b4 with b4|b4
  .grind
  .grind
def age{x x':Iv}(hx:x.iy)(xt:x'.iy)(h:Sub x x')(xa:x'.all=false):(ng x).q<=(ng x').q:=by
 obtain⟨h1,h2,h3⟩:=h.xy xa;obtain⟨a1,a2,a3⟩:=CP hx.q;obtain⟨b1,b2,b3⟩:=CP xt.q
 grind
def NT{x:Iv}(hx:x.iy)(xa:x.all=false):0<=(ph x).q/\(x.lo.q<=0->0<=x.hi.q->(ph x).q=0)/\(0<x.lo.q->(ph x).q=x.lo.q)/\(x.hi.q<0->(ph x).q = -x.hi.q):=by
 have hle:=hx.q;obtain⟨a1,a2,a3,a4⟩:=Ai x.lo;obtain⟨b1,b2,b3,b4⟩:=Ai x.hi;obtain⟨c1,c2,c3⟩:=vP (mw x.lo) (mw x.hi);by_cases hs:lZ x=0
 .have hn:¬(0<x.lo.q\/x.hi.q<0):=λh=>Pq xa h hs
  have:ph x=iS:=by unfold ph;rw[bw hs]
  rw[this,wM];refine⟨cR,λ_ _=>rfl,λh=>absurd (.inl h) hn,λh=>absurd (.inr h) hn⟩
 .obtain ⟨_,h0⟩:=XX hx hs;have:ph x=jk (mw x.lo) (mw x.hi):=by unfold ph;rw[bu hs]
  rw[this];generalize (jk (mw x.lo) (mw x.hi)).q=M at *
  generalize (mw x.lo).q=u at *
  generalize (mw x.hi).q=v at *
  refine⟨aK,aK,aK,aK⟩
def amb{x x':Iv}(hx:x.iy)(xt:x'.iy)(h:Sub x x'):Sub (kf x) (kf x'):=by
 cases xa:x'.all
 .obtain ⟨h1,h2,h3⟩:=h.xy xa;unfold kf;rw[h1,xa];refine .inr ⟨rfl,?_,age hx xt h xa⟩;show(ph x').q<=(ph x).q;obtain⟨a1,a2,a3,a4⟩:=NT hx h1;obtain⟨b1,b2,b3,b4⟩:=NT xt xa;have:=hx.q;by_cases c1:0<x'.lo.q
  .rw [b3 c1,a3 aK];exact h2
  .by_cases c2:x'.hi.q<0
   .rw [b4 c2,a4 aK];grind
   .rw [b2 aK aK];exact a1
 .refine .inl ?_;unfold kf;rw[bw xa];rfl
def H8{x:Iv}(hx:x.iy){r s:Rat}(h:x.ki r)(hs:s=r/\0<=r\/s = -r/\r<=0):(kf x).ki s:=by
 unfold kf;cases xa:x.all
 .obtain ⟨h1,h2⟩:=h.kr xa;obtain⟨a1,a2,a3⟩:=CP hx.q;obtain⟨b1,b2,b3,b4⟩:=NT hx xa;refine .inr ⟨?_,?_⟩
  .show (ph x).q<=s;by_cases c1:0<x.lo.q
   .rw [b3 c1];grind
   .by_cases c2:x.hi.q<0
    .rw [b4 c2];grind
    .rw [b2 aK aK];grind
  .show s<=(ng x).q
   grind
 .exact .inl rfl
def OF(d:Dy):(jF d).ki d.q:=.inr ⟨cR,cR⟩
def Ae(n:Int):(jI n).ki (n:Rat):=by have:=OF (jo n);rwa[BE]at this
def jA(d:Dy)(p:Nat)(up:Bool):Nat->Dy×Int
 | 0=>(iM d p up,jP d p up)
 |k+1=>if(jA d p up k).2≠0 then jA d p up k else(iM (xF (jA d p up k).1 d) p up,jP (xF (jA d p up k).1 d) p up)
def lH(d:Dy)(n p:Nat)(up:Bool):Dy×Int:=if d.jG<0 then(iK (jA (iK d) p (!up) (n-1)).1,(jA (iK d) p (!up) (n-1)).2)else jA d p up (n-1)
def uH(x:Iv)(n:Nat):Iv:=if n%2=0 then kf x else x
def lk(x:Iv)(n p:Nat):Iv:=
 if x.all then ix else if n=0 then jF ⟨false,1,0⟩
 else mh (lH (uH x n).lo n p false).1 (lH (uH x n).lo n p false).2 (lH (uH x n).hi n p true).1 (lH (uH x n).hi n p true).2
def oh(r:Rat):Nat->Rat
 | 0=>1
 |n+1=>oh r n*r
def C9{r:Rat}(h:0<=r):∀ n,0<=oh r n
 | 0=>by show(0:Rat)<=1;decide
 |n+1=>cr (C9 h n) h
def G6{a b:Rat}(h0:0<=a)(h:a<=b):∀ n,oh a n<=oh b n
 | 0=>cR
 |n+1=>by
  have ih:=G6 h0 h n;have m1:=cN ih h0;have m2:=de h (C9 (bV h0 h) n);exact bV m1 m2
def C8(r:Rat):∀ n,oh (-r) n=if n%2=0 then oh r n else -oh r n
 | 0=>rfl
 |n+1=>by
  have ih:=C8 r n;simp only[oh,ih];have:n%2=0\/n%2=1:= aC ;rcases this with h|h
  .have h':(n+1)%2=1:= aC ;rw[h,h'];simp;grind
  .have h':(n+1)%2=0:= aC ;rw[h,h'];simp;grind
def O9{a b:Rat}{n:Nat}(hn:n%2=1)(h:a<=b):oh a n<=oh b n:=by
 by_cases h0:0<=a
 .exact G6 h0 h n
 .have ea:=C8 (-a) n;rw[fY,hn]at ea;simp only[amQ,bE]at ea;by_cases hb:0<=b
  .have h1:=C9 (show 0 <= -a by grind) n;have h2:=C9 hb n
   grind
  .have eb:=C8 (-b) n;rw[fY,hn]at eb;simp only[amQ,bE]at eb;have:=G6 (show 0 <= -b by grind) (show -b <= -a by grind) n
   grind
def OH{d:Dy}(hd:d.nM)(h0:0<=d.q){p:Nat}(hp:1<=p)(iw:p<=4096):∀ k,(jA d p false k).2=0->0<=(jA d p false k).1.q/\(jA d p false k).1.q<=oh d.q (k+1)
 | 0,he=>by
  have A:=xL hd hp iw;refine⟨(A.2 0 (.inl (Aw p)) h0).2,?_⟩;have:=(A.1 he).2;simp only[oh,fZ];exact this
 |k+1,he=>by
  by_cases hk:(jA d p false k).2≠0
  .exfalso;simp only[jA,bw hk]at he;exact hk he
  .have oo:(jA d p false k).2=0:= aC ;obtain⟨i1,i2⟩:=OH hd h0 hp iw k oo;have A:=xL (AL (jA d p false k).1 d) hp iw;rw[Ez]at A;simp only[jA,bu hk]at he ⊢;refine⟨(A.2 0 (.inl (Aw p)) (cr i1 h0)).2,?_⟩;have h1:=(A.1 he).2;have h2:=cN i2 h0;exact bV h1 h2
def OJ{d:Dy}(hd:d.nM)(h0:0<=d.q){p:Nat}(hp:1<=p)(iw:p<=4096):∀ k,(jA d p true k).2=0->oh d.q (k+1)<=(jA d p true k).1.q
 | 0,he=>by
  have A:=xM hd hp iw;have:=(A.1 he).2;simp only[oh,fZ];exact this
 |k+1,he=>by
  by_cases hk:(jA d p true k).2≠0
  .exfalso;simp only[jA,bw hk]at he;exact hk he
  .have oo:(jA d p true k).2=0:= aC ;have i2:=OJ hd h0 hp iw k oo;have A:=xM (AL (jA d p true k).1 d) hp iw;rw[Ez]at A;simp only[jA,bu hk]at he ⊢;have h1:=(A.1 he).2;have h2:=cN i2 h0;exact bV h2 h1
def acw{d:Dy}(hd:d.nM){n p:Nat}(hn:1<=n)(hs:0<=d.q\/n%2=1)(hp:1<=p)(iw:p<=4096)(he:(lH d n p false).2=0):(lH d n p false).1.q<=oh d.q n:=by
 unfold lH at he ⊢;by_cases h:d.jG<0
 .rw [bw h]at he ⊢;have hq:=(sF d).2.1 h;have Bf:=hs.resolve_left aK;have:=OJ (Od hd) (by rw[ri];grind) hp iw (n-1) he;rw[(aC:n-1+1=n),ri,C8,Bf]at this;simp only[amQ,bE]at this;show(iK _).q<=_;rw[ri];simp only[fu]
  grind
 .rw [bu h]at he ⊢;have h0:0<=d.q:=by
   apply dV.1;intro iJ;exact h ((sF d).2.2 iJ)
  have:=(OH hd h0 hp iw (n-1) he).2;rwa[(aC:n-1+1=n)]at this
def acx{d:Dy}(hd:d.nM){n p:Nat}(hn:1<=n)(hs:0<=d.q\/n%2=1)(hp:1<=p)(iw:p<=4096)(he:(lH d n p true).2=0):oh d.q n<=(lH d n p true).1.q:=by
 unfold lH at he ⊢;by_cases h:d.jG<0
 .rw [bw h]at he ⊢;have hq:=(sF d).2.1 h;have Bf:=hs.resolve_left aK;have:=(OH (Od hd) (by rw[ri];grind) hp iw (n-1) he).2;rw[(aC:n-1+1=n),ri,C8,Bf]at this;simp only[amQ,bE]at this;show _<=(iK _).q;rw[ri];simp only[fK]
  grind
 .rw [bu h]at he ⊢;have h0:0<=d.q:=by
   apply dV.1;intro iJ;exact h ((sF d).2.2 iJ)
  have:=OJ hd h0 hp iw (n-1) he;rwa[(aC:n-1+1=n)]at this
def ahV{x:Iv}(hx:x.iy){n p:Nat}(hp:1<=p)(iw:p<=4096){r:Rat}(h:x.ki r):(lk x n p).ki (oh r n):=by
 unfold lk;cases xa:x.all
 .simp only[bM,bE];by_cases hn:n=0
  .rw [bw hn];subst hn;have e:(⟨false,1,0⟩:Dy).q=1:= aL ;refine .inr ⟨?_,?_⟩
   .show (⟨false,1,0⟩:Dy).q<=1;rw[e];exact cR
   .show 1<=(⟨false,1,0⟩:Dy).q;rw[e];exact cR
  .rw [bu hn];obtain⟨s,hs,uy,hsn⟩:∃ s,(uH x n).ki s/\(n%2=0->0<=(uH x n).lo.q/\0<=s)/\oh r n=oh s n:=by
    unfold uH;by_cases qL:n%2=0
    .rw [bw qL];have hl:0<=(kf x).lo.q:=by
      unfold kf;rw[xa];show 0<=(ph x).q;unfold ph;split
      .rw [wM];exact cR
      .obtain ⟨_,_,m⟩:=vP (mw x.lo) (mw x.hi);rcases m with m|m<;>rw[m]
       .exact (Ai x.lo).1
       .exact (Ai x.hi).1
     by_cases hr:0<=r
     .exact ⟨r,H8 hx h (.inl ⟨rfl,hr⟩),λ_=>⟨hl,hr⟩,rfl⟩
     .refine ⟨-r,H8 hx h (.inr ⟨rfl,aK⟩),λ_=>⟨hl,aK⟩,?_⟩;rw[C8,bw qL]
    .rw [bu qL];exact⟨r,h,λq=>absurd q qL,rfl⟩
   have zK:(uH x n).iy:=by unfold uH;split;exact H9 hx;exact hx
   have ya:(uH x n).all=false:=by
    unfold uH;split
    .unfold kf;rw[xa];rfl
    .exact xa
   rw[hsn];generalize uH x n=y at *
   obtain⟨s1,s2⟩:=hs.kr ya;obtain⟨c1,c2⟩:=zK.AM;unfold mh;split
   .exact .inl rfl
   .rename_i he;have Bf:¬n%2=0->n%2=1:=λq=> aC 
    refine .inr ⟨?_,?_⟩
    .refine bV (acw c1 aC ?_ hp iw aC) ?_
     .by_cases qL:n%2=0
      .exact .inl (uy qL).1
      .exact .inr (Bf qL)
     .by_cases qL:n%2=0
      .exact G6 (uy qL).1 s1 n
      .exact O9 (Bf qL) s1
    .refine bV ?_ (acx c2 aC ?_ hp iw aC)
     .by_cases qL:n%2=0
      .exact G6 (uy qL).2 s2 n
      .exact O9 (Bf qL) s2
     .by_cases qL:n%2=0
      .exact .inl (bV (uy qL).2 s2)
      .exact .inr (Bf qL)
 .rw [bw rfl];exact .inl rfl
end Go.Proofs.YtgdahmmlddfimaaGreatDoor.Fp
namespace Go.Proofs.YtgdahmmlddfimaaGreatDoor
open Go.RowKit Fp Pu
structure lF where
 kind:Nat
 a:Nat
 b:Nat
 n:Nat
 cn:Int
 cd:Int
structure j8 where
 iC:Nat
 il:List lF
 iF:List Nat
structure jH where
 tape:j8
 iZ:Nat
 params:List Iv
def iN:lF:=⟨0,0,0,0,0,0⟩
def JQ(o:lF):List E:=[iP (o.kind:Int),iP (o.a:Int),iP (o.b:Int),iP (o.n:Int),iP o.cn,iP o.cd]
def wL(o:lF):E:=.agg (JQ o)
def mH(l:List lF):E:=.sl true l.length 6 λi j=>(JQ (l.getD i iN)).getD j .any
def mG(l:List Nat):E:=.sl true l.length 1 λi _=>iP (l.getD i 0:Int)
def akE(t:j8):List E:=[iP (t.iC:Int),mH t.il,mG t.iF]
def jJ(t:j8):E:=.agg (akE t)
def ake(s:jH):List E:=[iP (s.tape.iC:Int),mH s.tape.il,mG s.tape.iF,iP (s.iZ:Int),iq s.params]
def jD(s:jH):E:=.agg (ake s)
def pU(n d:Int):Bool:=decide (1<=d)&&(decide (d<=1073741824)&&(decide (-1073741824<=n)&&(decide (n<=1073741824)&&decide (Nat.gcd n.natAbs d.natAbs=1))))
def ON{n d:Int}(h:pU n d=true):1<=d/\d<=1073741824 /\ -1073741824<=n/\n<=1073741824:=by
 unfold pU at h;simp only[bO,cL]at h;exact⟨h.1,h.2.1,h.2.2.1,h.2.2.2.1⟩
def FH(f:FuncId)(x:Iv)(p:Nat):Prop:=∃ y:Iv,y.iy/\ik f [iz x,iP (p:Int)] (iz y)
def uQ:Prop:=∀ (x:Iv) (p:Nat),x.iy->8<=p->p<=512->FH 312 x p/\FH 314 x p/\FH 315 x p/\FH 316 x p/\FH 319 x p
structure ns(o:lF)(m:Nat):Prop where
 k3:o.kind=1\/3<=o.kind
 xw:o.kind<=13
 a:if o.kind=1 then o.a=0 else o.a<m
 b:if 3<=o.kind/\o.kind<=6 then o.b<m else o.b=0
 n:if o.kind=8 then o.n<=16 else o.n=0
 c:if o.kind=1 then pU o.cn o.cd=true else o.cn=0/\o.cd=0
 f:o.kind<=8\/uQ
structure uT(t:j8):Prop where
 iC:t.iC<=8
 il:t.il.length<=200
 iF:t.iF.length<=200
 op:∀ i,i<t.il.length->ns (t.il.getD i iN) (t.iC+i)
 out:∀ i,i<t.iF.length->t.iF.getD i 0<t.iC+t.il.length
def sK(l:List Iv):Prop:=∀ i,i<l.length->(l.getD i ix).iy/\(l.getD i ix).all=false
structure lM(s:jH):Prop where
 tape:uT s.tape
 s1:1<=s.iZ
 s4:s.iZ<=4
 iF:s.tape.iF.length=s.iZ
 iC:s.tape.iC=s.iZ+s.params.length
 p4:s.params.length<=4
 params:sK s.params
structure jT(n:Nat)(b:List Iv):Prop where
 len:b.length=n
 ok:sK b
def rC(l:List Iv):Bool:=(List.range l.length).any λi=>(l.getD i ix).all
def vQ(d:Dy){p:Nat}(hp:1<=p)(iw:p<=4096)(up:Bool):(iM d p up).iy:=sN _ _ _ _ _ _ hp iw
def Ah(d:Dy){p:Nat}(hp:1<=p)(iw:p<=4096)(up:Bool):∀ k,(jA d p up k).1.iy
 | 0=>vQ _ hp iw _
 |k+1=>by
  unfold jA;split
  .exact Ah d hp iw up k
  .exact vQ _ hp iw _
def RU(d:Dy)(n:Nat){p:Nat}(hp:1<=p)(iw:p<=4096)(up:Bool):(lH d n p up).1.iy:=by
 unfold lH;split
 .exact vN (Ah _ hp iw _ _)
 .exact Ah _ hp iw _ _
def V6:canon false 1 0=⟨false,1,0⟩:=by
 have h1:(canon false 1 0).neg=false:= aL ;have h2:(canon false 1 0).m=1:= aL ;have h3:(canon false 1 0).e=0:= aL ;generalize canon false 1 0=d at *
 cases d;simp_all
def GK:(⟨false,1,0⟩:Dy).iy:=by
 have h2:oz (canon false 1 0):= aL ;rw[<-V6];exact⟨tG _ _ _,h2⟩
def J2{x:Iv}(hx:x.iy)(n:Nat){p:Nat}(hp:1<=p)(iw:p<=4096):(lk x n p).iy:=by
 have hh:=ahV hx (n:=n) hp iw hx.A7;revert hh;unfold lk;split
 .intro _;exact mc
 .split
  .intro _;exact qV GK
  .unfold mh;split
   .intro _;exact mc
   .intro hh;obtain⟨h1,h2⟩:=hh.kr rfl;exact .inr ⟨rfl,RU _ _ hp iw _,RU _ _ hp iw _,(pA _ _).2 (bV h1 h2)⟩
def mZ(l:List Iv):Prop:=∀ i,(l.getD i ix).iy
def mZ.push{l:List Iv}(h:mZ l){y:Iv}(hy:y.iy):mZ (l++[y]):=λi=>by
 rw[bC,er];split
 .have:=h i;rwa[bC]at this
 .rcases i-l.length with _|j
  .exact hy
  .exact mc
def sK.KG{l:List Iv}(h:sK l):mZ l:=λi=>by
 by_cases hi:i<l.length
 .exact (h i hi).1
 .rw [bC,cE aC];exact mc
def mZ.append{l r:List Iv}(h:mZ l)(k:mZ r):mZ (l++r):=λi=>by
 rw[bC,er];split
 .have:=h i;rwa[bC]at this
 .have:=k (i-l.length);rwa[bC]at this
def yC(a b:List Iv):Bool:=(List.range a.length).all λi=>Bl (a.getD i ix) (b.getD i ix)
def D8(x y:Iv):Iv:=if x.all||y.all then ix else⟨jk x.lo y.lo,jg x.hi y.hi,false⟩
def uP(x:Iv)(p:Nat):Dy:=iM (iG x.hi (iK x.lo)) p true
def BY(x:Iv)(p:Nat):Int:=jP (iG x.hi (iK x.lo)) p true
def aeN{x y:Iv}(hx:x.iy)(hy:y.iy):(D8 x y).iy:=by
 unfold D8;cases xa:x.all
 .cases ya:y.all
  .obtain ⟨x1,x2⟩:x.lo.iy/\x.hi.iy:=hx.kr;obtain⟨y1,y2⟩:y.lo.iy/\y.hi.iy:=hy.kr;refine .inr ⟨rfl,rJ x1 y1,qI x2 y2,?_⟩;rw[pA];have hq:=hx.q;obtain⟨a1,a2,_⟩:=vP x.lo y.lo;obtain⟨b1,b2,_⟩:=xG x.hi y.hi
   grind
  .exact mc
 .exact mc
def acj(s:Bool)(L:List Nat)(e:Int)(hk:iY L)(hl:L.length<=256)(mP:-1000000<=e)(lW:e<=1000000):ik 219 [bP s,iu L,iP e] (iA (canon s (val L) e)):=by
 refine⟨call219,λw B vs hK hB hr=>?_⟩;obtain⟨v1,vs,rfl,h1,hr⟩:=hr.nE;obtain⟨v2,vs,rfl,h2,hr⟩:=hr.nE;obtain⟨v3,vs,rfl,h3,hr⟩:=hr.nE;obtain rfl:=hr.r6;obtain rfl:=iO.kG h1;obtain rfl:=iO.kG h3;obtain⟨A,c,rfl,s1⟩:=Am hk h2;exact(IF s A c L e w s1 aC (by have:=pW L;unfold mT at this;omega) mP lW hK).mono λe w' h=>rd B w e w' hB h
def ald(x y:Nat):E.le (.sl false 2 1 λi j=>[E.v (.int .u32 (x:Int)),.v (.int .u32 (y:Int))].getD (i*1+j) (.v (.bool false))) (iu [x,y]):=.sl λi j hi hj=>by
 obtain rfl:j=0:= aC ;obtain rfl|rfl:i=0\/i=1:= aC 
 .exact ⟨.refl _,rfl⟩
 .exact ⟨.refl _,rfl⟩
def CD(n:Nat):jo (n:Int)=canon false n 0:=by
 unfold jo kH;rw[bB aC,gJ]
def Ee(n:Nat)(h:n<4294967296):(jo (n:Int)).iy:=by
 rw[CD];refine⟨tG _ _ _,?_⟩;by_cases h0:n=0
 .subst h0;exact .inl rfl
 .have:=DB (s:=false) (e:=0) h0;have hb:iD n<=32:=mJ.2 h;refine .inr ⟨aC,aC,?_,aC⟩;obtain⟨h1,h2,h3,h4⟩:=this;have:=pn h3;omega
def alx(x y:Nat):val [x,y]=x+4294967296*y:=by simp[val]
def QF(d:Dy)(n p:Nat)(x:Nat):PS:=⟨41,true,[(14,.e (iP ((x+1:Nat):Int))),(13,.e (iP ((jA d p false x).2))),(12,.box 12 0),(10,.box 10 0),(5,.box 5 0),(1,.e (iP n)),(2,.e (iP p)),(4,.e (.fn 254 []))],[(12,.cells 31 (iR ((jA d p false x).1))),(10,.cells 31 ar),(5,.cells 31 (iR d))]⟩
def QG(d:Dy)(n N p:Nat)(x:Nat):PS:=⟨41,true,[(14,.e (iP ((x+1:Nat):Int))),(13,.e (iP ((jA d p false x).2))),(12,.box 12 0),(10,.box 10 0),(5,.box 5 0),(1,.e (iP n)),(2,.e (iP p)),(4,.e (.fn 254 []))],[(12,.cells 31 (iR ((jA d p false x).1))),(10,.cells 31 ar),(5,.cells 31 (iR d))]⟩
def QH(d:Dy)(n p:Nat)(x:Nat):PS:=⟨41,true,[(14,.e (iP ((x+1:Nat):Int))),(13,.e (iP ((jA d p true x).2))),(12,.box 12 0),(10,.box 10 0),(5,.box 5 0),(1,.e (iP n)),(2,.e (iP p)),(4,.e (.fn 255 []))],[(12,.cells 31 (iR ((jA d p true x).1))),(10,.cells 31 ar),(5,.cells 31 (iR d))]⟩
def QI(d:Dy)(n N p:Nat)(x:Nat):PS:=⟨41,true,[(14,.e (iP ((x+1:Nat):Int))),(13,.e (iP ((jA d p true x).2))),(12,.box 12 0),(10,.box 10 0),(5,.box 5 0),(1,.e (iP n)),(2,.e (iP p)),(4,.e (.fn 255 []))],[(12,.cells 31 (iR ((jA d p true x).1))),(10,.cells 31 ar),(5,.cells 31 (iR d))]⟩
def ZG(s:Bool)(m:Nat)(e:Int)(hl:(im m).length<=256)(mP:-1000000<=e)(lW:e<=1000000):ik 219 [bP s,iu (im m),iP e] (iA (canon s m e)):=by
 refine⟨call219,λw B vs hK hB hr=>?_⟩;obtain⟨v1,vs,rfl,h1,hr⟩:=hr.nE;obtain⟨v2,vs,rfl,h2,hr⟩:=hr.nE;obtain⟨v3,vs,rfl,h3,hr⟩:=hr.nE;obtain rfl:=hr.r6;obtain rfl:=iO.kG h1;obtain rfl:=iO.kG h3;obtain⟨A,c,rfl,s1⟩:=Am (nD m) h2;exact(Q4 s m e A c w s1 hl mP lW hK).mono λe w' h=>rd B w e w' hB h
def ZH(d:Dy)(hl:(im d.m).length<=100000000)(mP:-10000000<=d.e)(lW:d.e<=10000000):ik 222 [iA d] (.iE [iA (r8 d),iP (uk d)]):=
 Ev call222 (λA c w h _=>abw d A c w h aC aC aC) OQ
def ZS(k:Int)(h1:-32768<=k)(h2:k<=32768):ik 233 [iP k] (bP true):=
 ak call233 func233 (af [tT 4 ((-32768)<=k) aC,tT 7 (k<=32768) aC]) 
def Lb(d:Dy)(k:Int)(hv:d.iy)(h1:-32768<=k)(h2:k<=32768):ik 177 [iA d,iP k] (.iE [iA (r8 (canon d.neg d.m (d.e+k))),iP (uk (canon d.neg d.m (d.e+k)))]):=by
 have hl:=hv.im;have he:=hv.exp;have kR:=Q3 (nD d.m) hl d.neg (d.e+k);obtain⟨oc,sd⟩:=Q2 (nD d.m) hl d.neg (d.e+k) aC aC;rw[lh]at kR oc sd;exact ak call177 func177 (af [ag [iA d] (q7 _ aD),.c (ZS k aC aC),iL (d.e+k) aC,ag [bP d.neg,iu (im d.m),iP (d.e+k)] (ZG _ _ _ aC aC aC),ag [iA (canon d.neg d.m (d.e+k))] (ZH _ aC aC aC)]) 
def Fb(n:Nat)(h:n<4294967296):ik 189 [iP n] (iA (jo (n:Int))):=by
 have ok2:iY [n%4294967296,n/4294967296%4294967296]:=iY.cons (bS _ aE) (iY.cons (bS _ aE) iY.nil);exact ak call189 func189 (ae [.o 5 (.int (sH _ aC):aj (.v (.int .u64 (IntKind.u64.wrap (n:Int)))) (.v (.int .u64 (n:Int)))),tF 7 ((n:Int)<0) aC,tF 11 ((n:Int)<0) aC,.o 13 (.int (ET _):aj (.v (.int .u32 (IntKind.u32.wrap (n:Int)))) (.v (.int .u32 ((n%4294967296:Nat):Int)))),.a (aC:0<=(32:Int)/\(32:Int)<=((64:Nat):Int)),.o 15 (.int (XS _):aj (.v (.int .u64 ((n:Int)/2^32))) (.v (.int .u64 ((n/4294967296:Nat):Int)))),.o 16 (.int (ET _):aj (.v (.int .u32 (IntKind.u32.wrap ((n/4294967296:Nat):Int)))) (.v (.int .u32 (((n/4294967296)%4294967296:Nat):Int)))),.o 17 (.e (ald _ _):aj (.sl false 2 1 λi_ j_=>[.v (.int .u32 ((n%4294967296:Nat):Int)),.v (.int .u32 (((n/4294967296)%4294967296:Nat):Int))].getD (i_*1+j_) (.v (.bool false))) (iu [n%4294967296,(n/4294967296)%4294967296])),ag [bP false,iu [n%4294967296,(n/4294967296)%4294967296],iP 0] (acj _ _ _ ok2 aH aE aE)]<|rQ (iA (canon false (val [n%4294967296,(n/4294967296)%4294967296]) 0)) (iA (jo (n:Int))) (by rw[alx,(aC:n%4294967296+4294967296*(n/4294967296%4294967296)=n),CD])) 
def ae2:jo 1=⟨false,1,0⟩:=by rw[show(1:Int)=((1:Nat):Int)from rfl,CD];exact V6
def La:ik 189 [iP 1] (iA ⟨false,1,0⟩):=by
 have:=Fb 1 aE;rwa[show((1:Nat):Int)=1 from rfl,ae2]at this
def Ik(d:Dy)(p:Nat)(hd:d.iy)(iB:8<=p)(iw:p<=512):ik 290 [iA d,iP p] (.iE [iA (iM d p false),iP (jP d p false)]):=
 ak call290 func290 (af [.c (J5 d p false aD aC aC)]) 
def Il(d:Dy)(p:Nat)(hd:d.iy)(iB:8<=p)(iw:p<=512):ik 289 [iA d,iP p] (.iE [iA (iM d p true),iP (jP d p true)]):=
 ak call289 func289 (af [.c (J5 d p true aD aC aC)]) 
def OI(d:Dy)(p:Nat)(up:Bool)(N:Nat)(h:(jA d p up N).2≠0):∀ k,jA d p up (N+k)=jA d p up N
 | 0=>rfl
 |k+1=>by
  have ih:=OI d p up N h k;show(if(jA d p up (N+k)).2≠0 then jA d p up (N+k)else _)=_;rw[ih,bw h]
def BD{d:Dy}{p:Nat}{up:Bool}{k:Nat}(h:(jA d p up k).2=0):jA d p up (k+1)=(iM (mW (jA d p up k).1 d) p up,jP (mW (jA d p up k).1 d) p up):=by
 show(if(jA d p up k).2≠0 then _ else _)=_;rw[bu (not_not_intro h)];rfl
def Z9(d:Dy)(n p:Nat)(hd:d.iy)(hn:1<=n)(mF:n<=16)(iB:8<=p)(iw:p<=512)(jZ:∀ x,x<n-1->(jA d p false x).2=0):ik 288 [iA d,iP n,iP p,.fn 290 [],.fn 254 []] (.iE [iA (jA d p false (n-1)).1,iP (jA d p false (n-1)).2]):=
 ak call288 func288 (af [.c (Ik d p aD aC aC),.s (Sp.kE (QF d n p) 0 (n-1) aC (λx hx nd=>by
    have oE:=jZ x aC;have hv:=Ah d (aC:1<=p) (aC:p<=4096) false x;exact jh (ae [tT 24 (((x+1:Nat):Int)<n) aC,ah 27 (((jA d p false x).2)==0) (by rw[oE];rfl),.c (J3 ((jA d p false x).1) d p aD aD aC aC),
     iL (((x+1:Nat):Int)+1) aC]<|.e (af [.o 13 (aq (jP (mW ((jA d p false x).1) d) p false) ((jA d p false (x+1)).2) (by rw[BD oE])),.b 12 (.jl (by rw[BD oE]):Bx.le (.cells 31 (iR (iM (mW ((jA d p false x).1) d) p false))) (.cells 31 (iR ((jA d p false (x+1)).1))))])) aF)
  (λhx=>by
    exact jh (af [tF 24 ((((n-1)+1:Nat):Int)<n) aC]) aF) aI:kD 3 f288 (QF d n p 0) (.exit 0) ⟨41,true,[(13,.e (iP ((jA d p false (n-1)).2))),(12,.box 12 0),(10,.box 10 0)],[(12,.cells 31 (iR ((jA d p false (n-1)).1))),(10,.cells 31 ar)]⟩) (af [.o 14 (aq 1 ((0+1:Nat):Int) rfl),.o 13 (aq (jP d p false) ((jA d p false 0).2) rfl),.b 12 (.jl rfl:Bx.le (.cells 31 (iR (iM d p false))) (.cells 31 (iR ((jA d p false 0).1))))])]) 
def aaa(d:Dy)(n N p:Nat)(hd:d.iy)(hn:1<=n)(mF:n<=16)(iB:8<=p)(iw:p<=512)(q8:N<n-1)(jZ:∀ x,x<N->(jA d p false x).2=0)(hN:(jA d p false N).2≠0):ik 288 [iA d,iP n,iP p,.fn 290 [],.fn 254 []] (.iE [iA (jA d p false N).1,iP (jA d p false N).2]):=
 ak call288 func288 (af [.c (Ik d p aD aC aC),.s (Sp.kE (QG d n N p) 0 N aC (λx hx nd=>by
    have oE:=jZ x aC;have hv:=Ah d (aC:1<=p) (aC:p<=4096) false x;exact jh (ae [tT 24 (((x+1:Nat):Int)<n) aC,ah 27 (((jA d p false x).2)==0) (by rw[oE];rfl),.c (J3 ((jA d p false x).1) d p aD aD aC aC),
     iL (((x+1:Nat):Int)+1) aC]<|.e (af [.o 13 (aq (jP (mW ((jA d p false x).1) d) p false) ((jA d p false (x+1)).2) (by rw[BD oE])),.b 12 (.jl (by rw[BD oE]):Bx.le (.cells 31 (iR (iM (mW ((jA d p false x).1) d) p false))) (.cells 31 (iR ((jA d p false (x+1)).1))))])) aF)
  (λhx=>by
    exact jh (af [tT 24 (((N+1:Nat):Int)<n) aC,ai 27 (((jA d p false N).2)==0) (by simpa using hN)]) aF) aI:kD 3 f288 (QG d n N p 0) (.exit 0) ⟨41,true,[(13,.e (iP ((jA d p false N).2))),(12,.box 12 0),(10,.box 10 0)],[(12,.cells 31 (iR ((jA d p false N).1))),(10,.cells 31 ar)]⟩) (af [.o 14 (aq 1 ((0+1:Nat):Int) rfl),.o 13 (aq (jP d p false) ((jA d p false 0).2) rfl),.b 12 (.jl rfl:Bx.le (.cells 31 (iR (iM d p false))) (.cells 31 (iR ((jA d p false 0).1))))])]) 
def aab(d:Dy)(n p:Nat)(hd:d.iy)(hn:1<=n)(mF:n<=16)(iB:8<=p)(iw:p<=512):ik 288 [iA d,iP n,iP p,.fn 290 [],.fn 254 []] (.iE [iA (jA d p false (n-1)).1,iP (jA d p false (n-1)).2]):=by
 by_cases h:∃ x,x<n-1/\decide ((jA d p false x).2≠0)=true
 .obtain ⟨N,h1,h2,h3⟩:=uB h;have hN:(jA d p false N).2≠0:=cQ h2;have:=aaa d n N p hd hn mF iB iw h1 (λx hx=>by simpa using h3 x hx) hN;have e:=OI d p false N hN (n-1-N);rw[(aC:N+(n-1-N)=n-1)]at e;rw[e];exact this
 .exact Z9 d n p hd hn mF iB iw λx hx=>ck λq=>h ⟨x,hx,bA q⟩
def aac(d:Dy)(n p:Nat)(hd:d.iy)(hn:1<=n)(mF:n<=16)(iB:8<=p)(iw:p<=512)(jZ:∀ x,x<n-1->(jA d p true x).2=0):ik 288 [iA d,iP n,iP p,.fn 289 [],.fn 255 []] (.iE [iA (jA d p true (n-1)).1,iP (jA d p true (n-1)).2]):=
 ak call288 func288 (af [.c (Il d p aD aC aC),.s (Sp.kE (QH d n p) 0 (n-1) aC (λx hx nd=>by
    have oE:=jZ x aC;have hv:=Ah d (aC:1<=p) (aC:p<=4096) true x;exact jh (ae [tT 24 (((x+1:Nat):Int)<n) aC,ah 27 (((jA d p true x).2)==0) (by rw[oE];rfl),.c (J4 ((jA d p true x).1) d p aD aD aC aC),
     iL (((x+1:Nat):Int)+1) aC]<|.e (af [.o 13 (aq (jP (mW ((jA d p true x).1) d) p true) ((jA d p true (x+1)).2) (by rw[BD oE])),.b 12 (.jl (by rw[BD oE]):Bx.le (.cells 31 (iR (iM (mW ((jA d p true x).1) d) p true))) (.cells 31 (iR ((jA d p true (x+1)).1))))])) aF)
  (λhx=>by
    exact jh (af [tF 24 ((((n-1)+1:Nat):Int)<n) aC]) aF) aI:kD 3 f288 (QH d n p 0) (.exit 0) ⟨41,true,[(13,.e (iP ((jA d p true (n-1)).2))),(12,.box 12 0),(10,.box 10 0)],[(12,.cells 31 (iR ((jA d p true (n-1)).1))),(10,.cells 31 ar)]⟩) (af [.o 14 (aq 1 ((0+1:Nat):Int) rfl),.o 13 (aq (jP d p true) ((jA d p true 0).2) rfl),.b 12 (.jl rfl:Bx.le (.cells 31 (iR (iM d p true))) (.cells 31 (iR ((jA d p true 0).1))))])]) 
def aad(d:Dy)(n N p:Nat)(hd:d.iy)(hn:1<=n)(mF:n<=16)(iB:8<=p)(iw:p<=512)(q8:N<n-1)(jZ:∀ x,x<N->(jA d p true x).2=0)(hN:(jA d p true N).2≠0):ik 288 [iA d,iP n,iP p,.fn 289 [],.fn 255 []] (.iE [iA (jA d p true N).1,iP (jA d p true N).2]):=
 ak call288 func288 (af [.c (Il d p aD aC aC),.s (Sp.kE (QI d n N p) 0 N aC (λx hx nd=>by
    have oE:=jZ x aC;have hv:=Ah d (aC:1<=p) (aC:p<=4096) true x;exact jh (ae [tT 24 (((x+1:Nat):Int)<n) aC,ah 27 (((jA d p true x).2)==0) (by rw[oE];rfl),.c (J4 ((jA d p true x).1) d p aD aD aC aC),
     iL (((x+1:Nat):Int)+1) aC]<|.e (af [.o 13 (aq (jP (mW ((jA d p true x).1) d) p true) ((jA d p true (x+1)).2) (by rw[BD oE])),.b 12 (.jl (by rw[BD oE]):Bx.le (.cells 31 (iR (iM (mW ((jA d p true x).1) d) p true))) (.cells 31 (iR ((jA d p true (x+1)).1))))])) aF)
  (λhx=>by
    exact jh (af [tT 24 (((N+1:Nat):Int)<n) aC,ai 27 (((jA d p true N).2)==0) (by simpa using hN)]) aF) aI:kD 3 f288 (QI d n N p 0) (.exit 0) ⟨41,true,[(13,.e (iP ((jA d p true N).2))),(12,.box 12 0),(10,.box 10 0)],[(12,.cells 31 (iR ((jA d p true N).1))),(10,.cells 31 ar)]⟩) (af [.o 14 (aq 1 ((0+1:Nat):Int) rfl),.o 13 (aq (jP d p true) ((jA d p true 0).2) rfl),.b 12 (.jl rfl:Bx.le (.cells 31 (iR (iM d p true))) (.cells 31 (iR ((jA d p true 0).1))))])]) 
def aae(d:Dy)(n p:Nat)(hd:d.iy)(hn:1<=n)(mF:n<=16)(iB:8<=p)(iw:p<=512):ik 288 [iA d,iP n,iP p,.fn 289 [],.fn 255 []] (.iE [iA (jA d p true (n-1)).1,iP (jA d p true (n-1)).2]):=by
 by_cases h:∃ x,x<n-1/\decide ((jA d p true x).2≠0)=true
 .obtain ⟨N,h1,h2,h3⟩:=uB h;have hN:(jA d p true N).2≠0:=cQ h2;have:=aad d n N p hd hn mF iB iw h1 (λx hx=>by simpa using h3 x hx) hN;have e:=OI d p true N hN (n-1-N);rw[(aC:N+(n-1-N)=n-1)]at e;rw[e];exact this
 .exact aac d n p hd hn mF iB iw λx hx=>ck λq=>h ⟨x,hx,bA q⟩
def Qx(d:Dy)(n p:Nat)(hd:d.iy)(h0:¬d.jG<0)(hn:1<=n)(mF:n<=16)(iB:8<=p)(iw:p<=512):ik 253 [iA d,iP n,iP p,bP false] (.iE [iA (lH d n p false).1,iP (lH d n p false).2]):=
 ak call253 func253 (ae [ag [iA d] (pC _ aD),tB 14 (bB h0),.c (aab d n p aD aC aC aC aC)]<|rQ (.iE [iA ((jA d p false (n-1)).1),iP ((jA d p false (n-1)).2)]) (.iE [iA (lH d n p false).1,iP (lH d n p false).2]) (by unfold lH;rw[bu h0])) 
def Qy(d:Dy)(n p:Nat)(hd:d.iy)(h0:¬d.jG<0)(hn:1<=n)(mF:n<=16)(iB:8<=p)(iw:p<=512):ik 253 [iA d,iP n,iP p,bP true] (.iE [iA (lH d n p true).1,iP (lH d n p true).2]):=
 ak call253 func253 (ae [ag [iA d] (pC _ aD),tB 14 (bB h0),.c (aae d n p aD aC aC aC aC)]<|rQ (.iE [iA ((jA d p true (n-1)).1),iP ((jA d p true (n-1)).2)]) (.iE [iA (lH d n p true).1,iP (lH d n p true).2]) (by unfold lH;rw[bu h0])) 
def XV{d:Dy}(h:d.jG<0):¬(iK d).jG<0:=by
 rw[(sF _).2,ri];have:=(sF d).2.1 h
 grind
def ZM(d:Dy)(n p:Nat)(hd:d.iy)(h0:¬d.jG<0)(hn:1<=n)(mF:n<=16)(iB:8<=p)(iw:p<=512):ik 253 [iA d,iP (n:Int),iP (p:Int),bP false] (.iE [iA (jA d p false (n-1)).1,iP (jA d p false (n-1)).2]):=by
 have:=Qx d n p hd h0 hn mF iB iw;unfold lH at this;rwa[bu h0]at this
def ZN(d:Dy)(n p:Nat)(hd:d.iy)(h0:¬d.jG<0)(hn:1<=n)(mF:n<=16)(iB:8<=p)(iw:p<=512):ik 253 [iA d,iP (n:Int),iP (p:Int),bP true] (.iE [iA (jA d p true (n-1)).1,iP (jA d p true (n-1)).2]):=by
 have:=Qy d n p hd h0 hn mF iB iw;unfold lH at this;rwa[bu h0]at this
def ZK(d:Dy)(n p:Nat)(hd:d.iy)(h0:d.jG<0)(hn:1<=n)(mF:n<=16)(iB:8<=p)(iw:p<=512):ik 253 [iA d,iP n,iP p,bP false] (.iE [iA (lH d n p false).1,iP (lH d n p false).2]):=by
 have F3:=vN hd;have h1:=XV h0;have hv:=Ah (iK d) (aC:1<=p) (aC:p<=4096) true (n-1);exact ak call253 func253 (ae [ag [iA d] (pC _ aD),tB 14 (bA h0),ag [iA d] (um _ aD),ag [iA (iK d),iP n,iP p,bP true] (ZN _ _ _ F3 h1 hn mF iB iw),ag [iA ((jA (iK d) p true (n-1)).1)] (um _ aD)]<|rQ (.iE [iA (iK ((jA (iK d) p true (n-1)).1)),iP ((jA (iK d) p true (n-1)).2)]) (.iE [iA (lH d n p false).1,iP (lH d n p false).2]) (by unfold lH;rw[bw h0];rfl)) 
def Qz(d:Dy)(n p:Nat)(hd:d.iy)(hn:1<=n)(mF:n<=16)(iB:8<=p)(iw:p<=512):ik 253 [iA d,iP (n:Int),iP (p:Int),bP false] (.iE [iA (lH d n p false).1,iP (lH d n p false).2]):=by
 by_cases h0:d.jG<0
 .exact ZK d n p hd h0 hn mF iB iw
 .exact Qx d n p hd h0 hn mF iB iw
def ZL(d:Dy)(n p:Nat)(hd:d.iy)(h0:d.jG<0)(hn:1<=n)(mF:n<=16)(iB:8<=p)(iw:p<=512):ik 253 [iA d,iP n,iP p,bP true] (.iE [iA (lH d n p true).1,iP (lH d n p true).2]):=by
 have F3:=vN hd;have h1:=XV h0;have hv:=Ah (iK d) (aC:1<=p) (aC:p<=4096) false (n-1);exact ak call253 func253 (ae [ag [iA d] (pC _ aD),tB 14 (bA h0),ag [iA d] (um _ aD),ag [iA (iK d),iP n,iP p,bP false] (ZM _ _ _ F3 h1 hn mF iB iw),ag [iA ((jA (iK d) p false (n-1)).1)] (um _ aD)]<|rQ (.iE [iA (iK ((jA (iK d) p false (n-1)).1)),iP ((jA (iK d) p false (n-1)).2)]) (.iE [iA (lH d n p true).1,iP (lH d n p true).2]) (by unfold lH;rw[bw h0];rfl)) 
def QA(d:Dy)(n p:Nat)(hd:d.iy)(hn:1<=n)(mF:n<=16)(iB:8<=p)(iw:p<=512):ik 253 [iA d,iP (n:Int),iP (p:Int),bP true] (.iE [iA (lH d n p true).1,iP (lH d n p true).2]):=by
 by_cases h0:d.jG<0
 .exact ZL d n p hd h0 hn mF iB iw
 .exact Qy d n p hd h0 hn mF iB iw
def aaf(x:Iv)(n p:Nat)(hx:x.iy)(ha:x.all=true)(hn:n<=16)(iB:8<=p)(iw:p<=512):ik 211 [iz x,iP n,iP p] (iz (lk x n p)):=
 ak call211 func211 (ae [.o 12 (.e (lJ _):aj (.sl true 1 7 λi_ j_=>(iQ x).getD (i_*7+j_) (.v (.bool false))) (iq [x])),ag [iq [x]] (qi _ aD),ai 13 (!x.all) (by rw[ha];rfl),.c nW]<|rQ (iz ix) (iz (lk x n p)) (by unfold lk;rw[bw ha])) 
def aai(x:Iv)(n p:Nat)(hx:x.iy)(ha:x.all=false)(h0:n=0)(iB:8<=p)(iw:p<=512):ik 211 [iz x,iP n,iP p] (iz (lk x n p)):=by
 have v1:=GK;exact ak call211 func211 (ae [.o 12 (.e (lJ _):aj (.sl true 1 7 λi_ j_=>(iQ x).getD (i_*7+j_) (.v (.bool false))) (iq [x])),ag [iq [x]] (qi _ aD),ah 13 (!x.all) (by rw[ha];rfl),ag [iP p] (vG _),ah 17 (pT (p:Int)) (uI.2 ⟨aC,aC⟩),tF 22 ((n:Int)<0) aC,tF 26 (16<(n:Int)) aC,ah 30 ((n:Int)==0) (vL h0),ag [iP 1] La,.c (rZ (Dy.mk false 1 0) aD)]<|rQ (iz (jF (Dy.mk false 1 0))) (iz (lk x n p)) (by unfold lk;rw[bu (by rw[ha];decide),bw h0])) 
def aag(x:Iv)(n p:Nat)(hx:x.iy)(ha:x.all=false)(h0:n≠0)(hn:n<=16)(he:n%2=0)(iB:8<=p)(iw:p<=512):ik 211 [iz x,iP n,iP p] (iz (lk x n p)):=by
 have va:=H9 hx;obtain⟨w1,w2⟩:=va.kr;exact ak call211 func211 (ae [.o 12 (.e (lJ _):aj (.sl true 1 7 λi_ j_=>(iQ x).getD (i_*7+j_) (.v (.bool false))) (iq [x])),ag [iq [x]] (qi _ aD),ah 13 (!x.all) (by rw[ha];rfl),ag [iP p] (vG _),ah 17 (pT (p:Int)) (uI.2 ⟨aC,aC⟩),tF 22 ((n:Int)<0) aC,tF 26 (16<(n:Int)) aC,ai 30 ((n:Int)==0) (pz h0),.a (aC:0<(2:Int)),.o 34 (aq (Int.tmod (n:Int) 2) ((n%2:Nat):Int) (by rw[anq aC];omega)),ah 35 (((n%2:Nat):Int)==0) (vL he),.c (NA x aD),ag [iA ((kf x).lo),iP n,iP p,bP false] (Qz _ _ _ aD aC aC aC aC),ag [iA ((kf x).hi),iP n,iP p,bP true] (QA _ _ _ aD aC aC aC aC),.c (CF ((lH ((kf x).lo) n p false).1) ((lH ((kf x).hi) n p true).1) ((lH ((kf x).lo) n p false).2) ((lH ((kf x).hi) n p true).2))]<|rQ (iz (mh ((lH ((kf x).lo) n p false).1) ((lH ((kf x).lo) n p false).2) ((lH ((kf x).hi) n p true).1) ((lH ((kf x).hi) n p true).2))) (iz (lk x n p)) (by unfold lk uH;rw[bu (by rw[ha];decide),bu h0,bw he])) 
def aah(x:Iv)(n p:Nat)(hx:x.iy)(ha:x.all=false)(h0:n≠0)(hn:n<=16)(he:¬n%2=0)(iB:8<=p)(iw:p<=512):ik 211 [iz x,iP n,iP p] (iz (lk x n p)):=by
 have va:=hx;obtain⟨w1,w2⟩:=va.kr;exact ak call211 func211 (ae [.o 12 (.e (lJ _):aj (.sl true 1 7 λi_ j_=>(iQ x).getD (i_*7+j_) (.v (.bool false))) (iq [x])),ag [iq [x]] (qi _ aD),ah 13 (!x.all) (by rw[ha];rfl),ag [iP p] (vG _),ah 17 (pT (p:Int)) (uI.2 ⟨aC,aC⟩),tF 22 ((n:Int)<0) aC,tF 26 (16<(n:Int)) aC,ai 30 ((n:Int)==0) (pz h0),.a (aC:0<(2:Int)),.o 34 (aq (Int.tmod (n:Int) 2) ((n%2:Nat):Int) (by rw[anq aC];omega)),ai 35 (((n%2:Nat):Int)==0) (pz he),ag [iA x.lo,iP n,iP p,bP false] (Qz _ _ _ aD aC aC aC aC),ag [iA x.hi,iP n,iP p,bP true] (QA _ _ _ aD aC aC aC aC),.c (CF ((lH x.lo n p false).1) ((lH x.hi n p true).1) ((lH x.lo n p false).2) ((lH x.hi n p true).2))]<|rQ (iz (mh ((lH x.lo n p false).1) ((lH x.lo n p false).2) ((lH x.hi n p true).1) ((lH x.hi n p true).2))) (iz (lk x n p)) (by unfold lk uH;rw[bu (by rw[ha];decide),bu h0,bu he])) 
def Fe(x:Iv)(n p:Nat)(hx:x.iy)(hn:n<=16)(iB:8<=p)(iw:p<=512):ik 211 [iz x,iP (n:Int),iP (p:Int)] (iz (lk x n p)):=by
 cases ha:x.all with
 |true=>exact aaf x n p hx ha hn iB iw
 |false=>
  by_cases h0:n=0
  .exact aai x n p hx ha h0 iB iw
  .by_cases he:n%2=0
   .exact aag x n p hx ha h0 hn he iB iw
   .exact aah x n p hx ha h0 hn he iB iw
def ZV(x y:Iv)(hx:x.iy)(hy:y.iy)(xa:x.all=false)(ya:y.all=false):ik 242 [iz x,iz y] (iz (D8 x y)):=by
 obtain⟨v1,v2⟩:=hx.kr;obtain⟨v3,v4⟩:=hy.kr;exact ak call242 func242 (ae [.o 7 (.e (zT _ _):aj (.sl true 2 7 λi_ j_=>(iQ x++iQ y).getD (i_*7+j_) (.v (.bool false))) (iq [x,y])),ag [iq [x,y]] (zS _ _ aD aD),ah 8 (!(x.all||y.all)) (by rw[xa,ya];rfl),.c (Ef x.lo y.lo aD aD),.c (Eg x.hi y.hi aD aD)]<|rQ (iz (Iv.mk (jk x.lo y.lo) (jg x.hi y.hi) false)) (iz (D8 x y)) (by unfold D8;rw[xa,ya];rfl)) 
def QL(z:Int):(z==0)=decide (z=0):=by by_cases h:z=0<;>simp[h]
def Lc(x:Iv)(p:Nat)(hx:x.iy)(xa:x.all=false)(iB:8<=p)(iw:p<=512):ik 244 [iz x,iP p] (.iE [iA (uP x p),bP (decide (BY x p=0))]):=by
 obtain⟨v1,v2⟩:=hx.kr;have v3:=vN v1;exact ak call244 func244 (ae [.o 9 (.e (lJ _):aj (.sl true 1 7 λi_ j_=>(iQ x).getD (i_*7+j_) (.v (.bool false))) (iq [x])),ag [iq [x]] (qi _ aD),ah 10 (!x.all) (by rw[xa];rfl),ag [iP p] (vG _),ah 14 (pT (p:Int)) (uI.2 ⟨aC,aC⟩),ag [iA x.lo] (um _ aD),.c (C4 x.hi (iK x.lo) p aD aD aC aC)]<|rQ (.iE [iA (iM (iG x.hi (iK x.lo)) p true),bP ((jP (iG x.hi (iK x.lo)) p true)==0)]) (.iE [iA (uP x p),bP (decide (BY x p=0))]) (by rw[QL];rfl)) 
def Ii(x y:Iv):Bl x y=(y.all||(!x.all&&(decide (jE y.lo x.lo<=0)&&decide (jE x.hi y.hi<=0)))):=rfl
def ZW(x y:Iv)(hx:x.iy)(hy:y.iy):ik 82 [iz x,iz y] (bP (Bl x y)):=by
 obtain⟨v1,v2⟩:=hx.kr;obtain⟨v3,v4⟩:=hy.kr;exact ak call82 func82 (ae [.c (qH x aD),.c (qH y aD)]<|.w (y.all=true)
  (λk1=>ae [tB 14 k1]<|rQ (bP true) (bP (Bl x y)) (by rw[Ii];simp[k1]))
  (λk1=>ae [tB 14 (bk k1)]<|.w (x.all=true)
   (λk2=>ae [tB 17 k2]<|rQ (bP false) (bP (Bl x y)) (by rw[Ii];simp[k1,k2]))
   (λk2=>ae [tB 17 (bk k2),ag [iA y.lo,iA x.lo] (nv _ _ aD aD)]<|.w ((jE y.lo x.lo)<=0)
    (λk3=>ae [tB 25 (bA k3),ag [iA x.hi,iA y.hi] (nv _ _ aD aD)]<|rQ (bP (decide ((jE x.hi y.hi)<=0))) (bP (Bl x y)) (by rw[Ii];simp[k1,k2,k3]))
    (λk3=>ae [tB 25 (bB k3)]<|rQ (bP false) (bP (Bl x y)) (by rw[Ii];simp[k1,k2,k3]))))) 
def amd{α:Type}{l:List α}{i:Nat}{d:α}(h:i<l.length):l.getD i d=l[i]:=by
 rw[bC,bG h];rfl
def CI{T n n' k:Nat}{F:Nat->Iv}{y:Iv}(hn:n=k)(xm:n'=k+1)(hy:y=F k):
 Bx.le (.row true T (n+[y].length) 7 λi j=>if i<n then jc ((List.range k).map F) i j else(E.kT (iq [y])) (i-n) j) (.row true T n' 7 (jc ((List.range (k+1)).map F))):=by
 subst hn xm hy;refine .row rfl λi j hi hj=>⟨.jl ?_,s7 _ _ hj⟩
 have hi:i<n+1:=hi;by_cases h:i<n
 .rw [bw h];simp only[jc];rw[OM h,OM hi]
 .have nJ:i=n:= aC ;subst nJ;rw[bu h,dq];simp only[jc];rw[OM hi];rfl
def NS{n:Nat}{M:List (List Iv)}(hn:n=M.length):E.le (.sl true n 1 (lj M)) (lv M):=by subst hn;exact .refl _
def CH{n:Nat}{M:List Iv}(hn:n=M.length):E.le (.sl true n 7 (jc M)) (iq M):=by subst hn;exact .refl _
def CX(n:Nat)(h:n<4294967296):(jI (n:Int)).iy:=qV (Ee n h)
def abl(m:Nat)(e:Int):(canon false m e).neg=false:=by unfold canon;split<;>rfl
def aeX{c:Nat}(hc:0<c):(jo (c:Int)).m≠0:=by
 rw[CD];exact(DB (s:=false) (e:=0) aC).2.2.1
def ag1{c:Nat}(hc:0<c):lZ (jI (c:Int))=1:=by
 unfold lZ jI jF;simp only[bM,bE];rw[bw];unfold Dy.jG;rw[bu (aeX hc),show(jo (c:Int)).neg=false by rw[CD];exact abl _ _];simp
section
variable {m m':List (List Iv)} {h h':Iv} {n p:Nat}
def Og(j:Nat)(hj:j<4294967296):(jI (j:Int)).iy:=qV (Ee j hj)
end
def V2(c:Nat):(jI (c:Int)).lo.q=(c:Rat)/\(jI (c:Int)).hi.q=(c:Rat)/\(jI (c:Int)).all=false:=by
 refine⟨?_,?_,rfl⟩
 .show (jo _).q=_;rw[BE];exact eF c
 .show (jo _).q=_;rw[BE];exact eF c
def aip(n:Nat)(hn:n<4294967296):ik 126 [iP (n:Int)] (iA (canon false n 0)):=by
 refine⟨call126,λw B vs hK hB hr=>?_⟩;obtain⟨v1,vs,rfl,h1,hr⟩:=hr.nE;obtain rfl:=hr.r6;obtain rfl:=iO.kG h1;exact(aio n w hn).mono λe w' h=>rd B w e w' hB h
def WC(a b:Dy)(r:Bool)(hr:r=true↔a=b)(ha:(im a.m).length<=100000)(hb:(im b.m).length<=100000):ik 34 [iA a,iA b] (bP r):=
 Wg call34 (λA c A' c' w h k _=>aik a b A A' c c' w _ h k ha hb hr) rv
end Go.Proofs.YtgdahmmlddfimaaGreatDoor
namespace Go.Proofs.YtgdahmmlddfimaaGreatDoor.Fp
end Go.Proofs.YtgdahmmlddfimaaGreatDoor.Fp
namespace Go.Proofs.YtgdahmmlddfimaaGreatDoor
open Go.RowKit Fp Pu
def air(d:Dy)(k:Int)(hd:d.iy)(nT:-32768<=k)(xi:k<=32768)(hr:oz (canon d.neg d.m (d.e+k))):ik 125 [iA d,iP k] (.iE [iA (canon d.neg d.m (d.e+k)),iP 0]):=by
 refine⟨call125,λw B vs hK hB D6=>?_⟩;obtain⟨v1,vs,rfl,h1,D6⟩:=D6.nE;obtain⟨v2,vs,rfl,h2,D6⟩:=D6.nE;obtain rfl:=D6.r6;obtain⟨A,c,rfl,s1⟩:=IG h1;obtain rfl:=iO.kG h2;have:=ais d.neg A c (im d.m) d.e k w s1 hd.xX nT xi (by rw[lh];exact hr);rw[lh]at this;exact this.mono λe w' h=>OQ B w e w' hB h
def Q1{n:Int}{e:Int}:canon (jo n).neg (jo n).m ((jo n).e+e)=kH n e:=by
 unfold jo kH;by_cases h:n.natAbs=0
 .rw [h,Fk,Fk];show canon false 0 _=_;rw[Fk]
 .have h1:=Fy h;rw[show canon (decide (n<0)) n.natAbs 0=⟨decide (n<0),n.natAbs/2^jX n.natAbs,0+(jX n.natAbs:Int)⟩by unfold canon;rw[bu h]];show canon (decide (n<0)) (n.natAbs/2^jX n.natAbs) (0+(jX n.natAbs:Int)+e)=_;rw[<-Ls _ _ _ (jX n.natAbs),h1];congr 1;omega
def xU{n e:Int}(h1:n.natAbs<4294967296)(h2:-1000<=e)(h3:e<=1000):(kH n e).iy:=by
 refine⟨tG _ _ _,?_⟩;unfold kH;by_cases h0:n.natAbs=0
 .rw [h0,Fk];exact .inl rfl
 .have:=DB (s:=decide (n<0)) (e:=e) h0;have hb:iD n.natAbs<=32:=mJ.2 h1;obtain⟨h4,h5,h6,_⟩:=this;have:=pn h6;exact .inr ⟨aC,aC,aC,aC⟩
def s6{n:Int}(h1:n.natAbs<4294967296):(jo n).iy:=xU h1 aE aE 
def aim(k:Nat)(w:World)(h0:0<k)(hn:k<4294967296):
 Calls prog 126 #[.int .i64 (-(k:Int))] w (yZ w (canon true k 0)):=by
 have hm:=Fa k aC;have qb:(k:Int)%4294967296=k:= aC ;rw[qb]at hm;have hd:(k:Int)/4294967296=0:= aC ;have iJ:(-(k:Int))<0:= aC ;have MJ:decide ((-(k:Int))<0)=true:=bA iJ;have hu:IntKind.u64.wrap (-(k:Int))=18446744073709551616-k:=by rw[IntKind.wrap_u64];omega
 have hs:IntKind.u64.wrap (-(18446744073709551616-(k:Int)))=k:=by rw[IntKind.wrap_u64];omega
 have HC:=anv (λ(A:Option Addr) c w (h:Sl w A c [k,0])=>OV true A c [k,0] 0 w h aH aE aE);have hv:val [k,0]=k:= aH ;rw[hv]at HC;clear hv;generalize canon true k 0=d at *
 generalize hN:(-(k:Int))=N at *
 go_enter func126,ntmps126;go_wp2_with fail;refine(HC.out _ _ _ (Sl.Kz _ _ aH _ _ k 0 rfl rfl hn aE)).mono ?_;rintro r w1 ⟨A1,c1,rfl,vz,kR⟩;have mf:ja (w.alloc (.cells #[.bool false,.slice none 0 0,.int .i64 0] 31)) w1:=(ja.alloc _ _).trans kR;have bx:=(jV.new w false none 0 0 0).ext mf;have b0:=bx.c0;have b1:=bx.c1;have b2:=bx.c2;have f0:=bx.fr 0;have f1:=bx.fr 1;have f2:=bx.fr 2;go_wp2;exact zg rfl rfl rfl (bx.set _ _ _ _ _) rfl (bx.vR vz _ _ _ _ _) (jV.uK ((ja.alloc _ _).trans mf) (bD _) _ _ _ _ _)
def Uf(k:Nat)(h0:0<k):jo (-(k:Int))=canon true k 0:=by
 unfold jo kH;rw[bA (show(-(k:Int))<0 by omega),am9,gJ]
def ain(n:Int)(h:n.natAbs<4294967296):ik 126 [iP n] (iA (jo n)):=by
 by_cases h0:0<=n
 .obtain ⟨k,rfl⟩:=gK h0;rw[CD];exact aip k aC 
 .obtain ⟨k,rfl⟩:∃ k:Nat,n = -(k:Int):=⟨n.natAbs,aC⟩
  rw[Uf k aC];refine⟨call126,λw B vs hK hB hr=>?_⟩;obtain⟨v1,vs,rfl,h1,hr⟩:=hr.nE;obtain rfl:=hr.r6;obtain rfl:=iO.kG h1;exact(aim k w aC aC).mono λe w' h=>rd B w e w' hB h
open Classical in
noncomputable def Fp.ug(d:Dy)(k:Int):Dy:=if oz (canon d.neg d.m (d.e+k))then canon d.neg d.m (d.e+k)else iS
open Classical in
noncomputable def Fp.Db(d:Dy)(k:Int):Int:=if oz (canon d.neg d.m (d.e+k))then 0 else 9
def Xh(d:Dy)(k:Int):(ug d k).iy:=by
 unfold ug;split
 .rename_i h;exact⟨tG _ _ _,h⟩
 .exact sk
noncomputable def Fp.mj(x:Iv)(k:Int):Iv:=if x.all then ix else mh (ug x.lo k) (Db x.lo k) (ug x.hi k) (Db x.hi k)
def Fp.ru(x:Iv):Iv:=if x.all then x else⟨iK (ng x),ng x,false⟩
def Fp.qt(n:Int):Dy:=canon false 1 n
def wJ{n:Int}(h:n.natAbs<4294967296):(jI n).iy:=qV (s6 h)
def Dv{x:Iv}(hx:x.iy):(ru x).iy:=by
 unfold ru;cases lp:x.all
 .have he:=hx.kr;have hm:=JD he.1 he.2;simp only[bM,bE];refine .inr ⟨rfl,vN hm,hm,?_⟩;show jE (iK (ng x)) (ng x)<=0;rw[pA,ri];obtain⟨a1,a2,_⟩:=CP hx.q;have:=hx.q
  grind
 .exact hx
def ajc{d:Dy}{k:Int}(h:Db d k=0):ug d k=canon d.neg d.m (d.e+k):=by
 unfold Db at h;unfold ug;split at h
 .rename_i h1;rw[bw h1]
 .cases h
def BK{d:Dy}{k:Int}(h:Db d k=0):(ug d k).q=d.q*P2 k:=by
 rw[ajc h,si,rM d,rq];cases d.neg<;>simp<;>grind
def G8{x:Iv}(hx:x.iy)(k:Int):(mj x k).iy:=by
 unfold mj;split
 .exact mc
 .unfold mh;split
  .exact mc
  .rename_i h;refine .inr ⟨rfl,Xh _ _,Xh _ _,?_⟩;rw[pA,BK aC,BK aC,wI];exact hx.q
def Ph{x:Iv}{r:Rat}(h:x.ki r)(k:Int):(mj x k).ki (r*P2 k):=by
 unfold mj;split
 .exact .inl rfl
 .rename_i ha;unfold mh;split
  .exact .inl rfl
  .obtain ⟨h1,h2⟩:=h.kr (by simpa using ha);refine .inr ⟨?_,?_⟩
   .show (ug x.lo k).q<=_;rw[BK aC,wI];exact h1
   .show _<=(ug x.hi k).q;rw[BK aC,wI];exact h2
def aco(k:Nat)(w:World)(h0:0<k)(hn:k<4294967296)(uq:Tb w):
 Calls prog 189 #[.int .i64 (-(k:Int))] w (yZ w (canon true k 0)):=by
 have hd:(k:Int)/4294967296=0:= aC ;have iJ:(-(k:Int))<0:= aC ;have MJ:decide ((-(k:Int))<0)=true:=bA iJ;have hu:IntKind.u64.wrap (-(k:Int))=18446744073709551616-k:=by rw[IntKind.wrap_u64];omega
 have hs:IntKind.u64.wrap (-(18446744073709551616-(k:Int)))=k:=by rw[IntKind.wrap_u64];omega
 have I1:IntKind.u32.wrap (k:Int)=k:=by rw[IntKind.wrap_u32];omega
 have ht:(iT [k,0]).length<=256:=by have:=pW [k,0];unfold mT at this;simp at this;omega
 have HC:=anv (λ(A:Option Addr) c w (h:Sl w A c [k,0]) (hT:Tb w)=>IF true A c [k,0] 0 w h aH ht aE aE hT);have hv:val [k,0]=k:= aH ;rw[hv]at HC;clear hv ht;generalize canon true k 0=d at *
 generalize hN:(-(k:Int))=N at *
 go_enter func189,ntmps189;go_wp2_with fail;refine(HC.out _ _ _ (Sl.Kz _ _ aH _ _ k 0 rfl rfl hn aE) (uq.below (by first|exact(ja.alloc _ _).trans (ja.alloc _ _)|exact ja.alloc _ _))).mono ?_;rintro r w1 ⟨A1,c1,rfl,vz,kR⟩;have mf:ja (w.alloc (.cells #[.bool false,.slice none 0 0,.int .i64 0] 31)) w1:=(ja.alloc _ _).trans kR;have bx:=(jV.new w false none 0 0 0).ext mf;have b0:=bx.c0;have b1:=bx.c1;have b2:=bx.c2;have f0:=bx.fr 0;have f1:=bx.fr 1;have f2:=bx.fr 2;go_wp2;exact zg rfl rfl rfl (bx.set _ _ _ _ _) rfl (bx.vR vz _ _ _ _ _) (jV.uK ((ja.alloc _ _).trans mf) (bD _) _ _ _ _ _)
def rT(n:Int)(h:n.natAbs<4294967296):ik 189 [iP n] (iA (jo n)):=by
 by_cases h0:0<=n
 .obtain ⟨k,rfl⟩:=gK h0;exact Fb k aC 
 .obtain ⟨k,rfl⟩:∃ k:Nat,n = -(k:Int):=⟨n.natAbs,aC⟩
  rw[Uf k aC];refine⟨call189,λw B vs hK hB hr=>?_⟩;obtain⟨v1,vs,rfl,h1,hr⟩:=hr.nE;obtain rfl:=hr.r6;obtain rfl:=iO.kG h1;exact(aco k w aC aC hK).mono λe w' h=>rd B w e w' hB h
def aja(d:Dy)(k:Int):r8 (canon d.neg d.m (d.e+k))=ug d k:=by unfold r8 ug;split<;>simp_all
def ajb(d:Dy)(k:Int):uk (canon d.neg d.m (d.e+k))=Db d k:=by unfold uk Db;split<;>simp_all
def oI(a b:Nat):Nat->Nat×Nat
 | 0=>(a,b)
 |k+1=>((oI a b k).2,(oI a b k).1%(oI a b k).2)
def LO(a b:Nat):∀ k,oI a b (k+1)=oI b (a%b) k
 | 0=>rfl
 |k+1=>by
  show((oI a b (k+1)).2,(oI a b (k+1)).1%(oI a b (k+1)).2)=_;rw[LO a b k];rfl
def RX(a b:Nat):∀ k,Nat.gcd (oI a b k).1 (oI a b k).2=Nat.gcd a b
 | 0=>rfl
 |k+1=>by
  show Nat.gcd (oI a b k).2 ((oI a b k).1%(oI a b k).2)=_;rw[<-RX a b k];exact(Nat.gcd_comm _ _).trans ((Nat.gcd_rec _ _).symm.trans (Nat.gcd_comm _ _))
def acy:∀ (b a:Nat),∃ N,(∀ k,k<N->(oI a b k).2≠0)/\(oI a b N).2=0:=by
 intro b
 induction b using Nat.strongRecOn with
 |ind b ih=>
  intro a;by_cases h:b=0
  .exact ⟨0,λk hk=>absurd hk (bF k),h⟩
  .obtain ⟨N,h1,h2⟩:=ih (a%b) (bS a (eE h)) b;refine⟨N+1,λk hk=>?_,by rw[LO];exact h2⟩;rcases k with _|k
   .exact h
   .rw [LO];exact h1 k aC 
def rj(n d:Int)(p:Nat):Iv:=if pU n d then mh (oC (jo n) (jo d) p false) (pZ (jo n) (jo d) p false) (oC (jo n) (jo d) p true) (pZ (jo n) (jo d) p true)else ix
def Ue{d:Int}(h:d≠0):(jo d).m≠0:=by
 intro q;have hq:=BE d;rw[rM,q]at hq;have e:(d:Rat)=0:=by
  rw[<-hq];split<;>simp
 rw[show(0:Rat)=((0:Int):Rat)from rfl,Rat.intCast_inj]at e;exact h e
def RH{a b:Dy}(b0:b.m≠0){p:Nat}(hp:1<=p)(iw:p<=4096)(up:Bool):(oC a b p up).iy:=by
 unfold oC;split
 .exact sk
 .exact sN _ _ _ _ _ _ hp iw
def Pd(n d:Int){p:Nat}(hp:1<=p)(iw:p<=4096):(rj n d p).iy:=by
 unfold rj;split
 .rename_i h;obtain⟨r1,_⟩:=ON h;have d0:(jo d).m≠0:=Ue aC;unfold mh;split
  .exact mc
  .rename_i he;obtain⟨A,B⟩:=RC (a:=jo n) d0 hp iw;refine .inr ⟨rfl,RH d0 hp iw _,RH d0 hp iw _,?_⟩;rw[pA];exact bV (A.1 aC).2 (B.1 aC).2
 .exact mc
def Sw(a b:Nat)(x:Nat):PS:=⟨12,true,[(0,.e (.v (.int .u64 (((oI a b x).1:Nat):Int)))),(1,.e (.v (.int .u64 (((oI a b x).2:Nat):Int))))],[]⟩
def adi(a b N:Nat)(ha:a<18446744073709551616)(hb:b<18446744073709551616)(jZ:∀ k,k<N->(oI a b k).2≠0)(hN:(oI a b N).2=0):ik 215 [.v (.int .u64 (a:Int)),.v (.int .u64 (b:Int))] (.v (.int .u64 (((oI a b N).1:Nat):Int))):=
 ak call215 func215 (af [.s (Sp.kE (Sw a b) 0 N aC (λx hx nd=>by
    have mf:=jZ x aC;exact jh (ae [ah 6 ((((oI a b x).2:Nat):Int) != 0) (agI (jZ x aC)),.a (aC:0<((((oI a b x).2:Nat):Int):Int))]<|.e (af [.o 0 (.int aP:aj (.v (.int .u64 (((oI a b x).2:Nat):Int))) (.v (.int .u64 (((oI a b (x+1)).1:Nat):Int)))),.o 1 (.int aP:aj (.v (.int .u64 ((((oI a b x).1)%((oI a b x).2):Nat):Int))) (.v (.int .u64 (((oI a b (x+1)).2:Nat):Int))))])) aF)
  (λhx=>by
    exact jh (af [ai 6 ((((oI a b N).2:Nat):Int) != 0) (agH hN)]) aF) aI:kD 1 f215 (Sw a b 0) (.exit 0) ⟨12,true,[(0,.e (.v (.int .u64 (((oI a b N).1:Nat):Int))))],[]⟩) (af [.o 0 (.int aP:aj (.v (.int .u64 (a:Int))) (.v (.int .u64 (((oI a b 0).1:Nat):Int)))),.o 1 (.int aP:aj (.v (.int .u64 (b:Int))) (.v (.int .u64 (((oI a b 0).2:Nat):Int))))])]) 
def adj(a b:Nat)(ha:a<18446744073709551616)(hb:b<18446744073709551616):ik 215 [.v (.int .u64 (a:Int)),.v (.int .u64 (b:Int))] (.v (.int .u64 (Nat.gcd a b:Int))):=by
 obtain⟨N,h1,h2⟩:=acy b a;have hg:=RX a b N;rw[h2,Nat.gcd_zero_right]at hg;rw[<-hg];exact adi a b N ha hb h1 h2
def ajW(m:Nat)(h:m<=1073741824):ik 216 [iP m] (.v (.int .u64 (m:Int))):=
 ak call216 func216 (af [tF 4 ((m:Int)<0) aC,.o 9 (.int (sH _ aC):aj (.v (.int .u64 (IntKind.u64.wrap (m:Int)))) (.v (.int .u64 (m:Int))))]) 
def ajV(m:Nat)(h0:0<m)(h:m<=1073741824):ik 216 [iP (-(m:Int))] (.v (.int .u64 (m:Int))):=
 ak call216 func216 (af [tT 4 ((-(m:Int))<0) aC,iL (0-(-(m:Int))) aC,.o 6 (aq (0-(-(m:Int))) m aC),.o 7 (.int (sH _ aC):aj (.v (.int .u64 (IntKind.u64.wrap (m:Int)))) (.v (.int .u64 (m:Int))))]) 
def X0(n:Int)(h1:-1073741824<=n)(h2:n<=1073741824):ik 216 [iP n] (.v (.int .u64 (n.natAbs:Int))):=by
 by_cases h:0<=n
 .obtain ⟨m,rfl⟩:=gK h;exact ajW m aC 
 .obtain ⟨m,rfl⟩:∃ m:Nat,n = -(m:Int):=⟨n.natAbs,aC⟩
  rw[am9,gJ];exact ajV m aC aC 
def GJ(g:Nat):((g:Int)==1)=decide (g=1):=by
 by_cases h:g=1
 .subst h;rfl
 .rw [bB h];exact bh aC 
def GW(n d:Int):ik 153 [.agg [iP n,iP d]] (bP (pU n d)):=
 ak call153 func153 (.w (1<=d)
  (λk1=>ae [tB 5 (bA k1)]<|.w (d<=1073741824)
   (λk2=>ae [tB 9 (bA k2)]<|.w ((-1073741824)<=n)
    (λk3=>ae [tB 14 (bA k3)]<|.w (n<=1073741824)
     (λk4=>ae [tB 19 (bA k4),ag [iP n] (X0 _ aC aC),ag [iP d] (X0 _ aC aC),.c (adj (Int.natAbs n) (Int.natAbs d) aC aC)]<|rQ (bP ((Nat.gcd (Int.natAbs n) (Int.natAbs d):Int)==1)) (bP (pU n d)) (by unfold pU;simp[GJ,k1,k2,k3,k4]))
     (λk4=>ae [tB 19 (bB k4)]<|rQ (bP false) (bP (pU n d)) (by unfold pU;simp[GJ,k1,k2,k3,k4])))
    (λk3=>ae [tB 14 (bB k3)]<|rQ (bP false) (bP (pU n d)) (by unfold pU;simp[GJ,k1,k2,k3])))
   (λk2=>ae [tB 9 (bB k2)]<|rQ (bP false) (bP (pU n d)) (by unfold pU;simp[GJ,k1,k2])))
  (λk1=>ae [tB 5 (bB k1)]<|rQ (bP false) (bP (pU n d)) (by unfold pU;simp[GJ,k1]))) 
def Vh{lo hi:Dy}{e f:Int}(h:e≠0\/f≠0):mh lo e hi f=ix:=bw h
def agd{lo hi:Dy}{e f:Int}(h:e=0)(k:f=0):mh lo e hi f=⟨lo,hi,false⟩:=bu (by rw[h,k];decide)
def Wq(n d:Int)(p:Nat)(h:pU n d=true)(iB:8<=p)(iw:p<=512):ik 236 [.agg [iP n,iP d],iP p] (iz (rj n d p)):=by
 obtain⟨r1,r2,r3,r4⟩:=ON h;have v1:=s6 (n:=n) aC;have v2:=s6 (n:=d) aC;have d0:(jo d).m≠0:=Ue aC;exact ak call236 func236 (ae [.c (GW n d),ai 11 (!(pU n d)) (by rw[h];rfl),ag [iP n] (rT _ aC),ag [iP d] (rT _ aC),.c (Wu (jo n) (jo d) p aD aD aD aC aC),ag [iP n] (rT _ aC),ag [iP d] (rT _ aC),.c (Wv (jo n) (jo d) p aD aD aD aC aC)]<|.w ((pZ (jo n) (jo d) p false)=0)
  (λk1=>ae [tB 36 (bn k1)]<|.w ((pZ (jo n) (jo d) p true)=0)
   (λk2=>ae [tB 39 (bn k2)]<|rQ (iz (Iv.mk (oC (jo n) (jo d) p false) (oC (jo n) (jo d) p true) false)) (iz (rj n d p)) (by unfold rj;rw[bw h,agd k1 k2]))
   (λk2=>ae [tB 39 (bt k2),.o 41 (.e KM:aj (.agg [bP false,.v (.slice none 0 0),iP 0,bP false,.v (.slice none 0 0),iP 0,bP true]) (iz ix))]<|rQ (iz ix) (iz (rj n d p)) (by unfold rj;rw[bw h,Vh (.inr k2)])))
  (λk1=>ae [tB 36 (bt k1),.o 41 (.e KM:aj (.agg [bP false,.v (.slice none 0 0),iP 0,bP false,.v (.slice none 0 0),iP 0,bP true]) (iz ix))]<|rQ (iz ix) (iz (rj n d p)) (by unfold rj;rw[bw h,Vh (.inl k1)]))) 
noncomputable def ve(x:Iv)(p:Nat):Iv:=@dite Iv (∃ y:Iv,y.iy/\ik 312 [iz x,iP (p:Int)] (iz y)) (Classical.propDecidable _) Classical.choose (λ_=>ix)
def L4(x:Iv)(p:Nat):(ve x p).iy:=by
 unfold ve;split
 .rename_i h;exact(dh h).1
 .exact mc
def R8(x:Iv)(hx:x.iy)(p:Nat)(iB:8<=p)(iw:p<=512)(hF:uQ):ik 312 [iz x,iP (p:Int)] (iz (ve x p)):=by
 have h:∃ y:Iv,y.iy/\ik 312 [iz x,iP (p:Int)] (iz y):=(hF x p hx iB iw).1;unfold ve;rw[dif_pos h];exact(dh h).2
noncomputable def vf(x:Iv)(p:Nat):Iv:=@dite Iv (∃ y:Iv,y.iy/\ik 314 [iz x,iP (p:Int)] (iz y)) (Classical.propDecidable _) Classical.choose (λ_=>ix)
def L5(x:Iv)(p:Nat):(vf x p).iy:=by
 unfold vf;split
 .rename_i h;exact(dh h).1
 .exact mc
def R9(x:Iv)(hx:x.iy)(p:Nat)(iB:8<=p)(iw:p<=512)(hF:uQ):ik 314 [iz x,iP (p:Int)] (iz (vf x p)):=by
 have h:∃ y:Iv,y.iy/\ik 314 [iz x,iP (p:Int)] (iz y):=(hF x p hx iB iw).2.1;unfold vf;rw[dif_pos h];exact(dh h).2
noncomputable def vh(x:Iv)(p:Nat):Iv:=@dite Iv (∃ y:Iv,y.iy/\ik 315 [iz x,iP (p:Int)] (iz y)) (Classical.propDecidable _) Classical.choose (λ_=>ix)
def Sb(x:Iv)(p:Nat):(vh x p).iy:=by
 unfold vh;split
 .rename_i h;exact(dh h).1
 .exact mc
def Sa(x:Iv)(hx:x.iy)(p:Nat)(iB:8<=p)(iw:p<=512)(hF:uQ):ik 315 [iz x,iP (p:Int)] (iz (vh x p)):=by
 have h:∃ y:Iv,y.iy/\ik 315 [iz x,iP (p:Int)] (iz y):=(hF x p hx iB iw).2.2.1;unfold vh;rw[dif_pos h];exact(dh h).2
noncomputable def vc(x:Iv)(p:Nat):Iv:=@dite Iv (∃ y:Iv,y.iy/\ik 316 [iz x,iP (p:Int)] (iz y)) (Classical.propDecidable _) Classical.choose (λ_=>ix)
def R7(x:Iv)(p:Nat):(vc x p).iy:=by
 unfold vc;split
 .rename_i h;exact(dh h).1
 .exact mc
def R6(x:Iv)(hx:x.iy)(p:Nat)(iB:8<=p)(iw:p<=512)(hF:uQ):ik 316 [iz x,iP (p:Int)] (iz (vc x p)):=by
 have h:∃ y:Iv,y.iy/\ik 316 [iz x,iP (p:Int)] (iz y):=(hF x p hx iB iw).2.2.2.1;unfold vc;rw[dif_pos h];exact(dh h).2
noncomputable def pK(x:Iv)(p:Nat):Iv:=@dite Iv (∃ y:Iv,y.iy/\ik 319 [iz x,iP (p:Int)] (iz y)) (Classical.propDecidable _) Classical.choose (λ_=>ix)
def FF(x:Iv)(p:Nat):(pK x p).iy:=by
 unfold pK;split
 .rename_i h;exact(dh h).1
 .exact mc
def Sc(x:Iv)(hx:x.iy)(p:Nat)(iB:8<=p)(iw:p<=512)(hF:uQ):ik 319 [iz x,iP (p:Int)] (iz (pK x p)):=by
 have h:∃ y:Iv,y.iy/\ik 319 [iz x,iP (p:Int)] (iz y):=(hF x p hx iB iw).2.2.2.2;unfold pK;rw[dif_pos h];exact(dh h).2
def xT(o:lF):Bool:=decide (o.kind<=6)
noncomputable def mU(o:lF)(x y:Iv)(p:Nat):Iv:=
 if o.kind=3 then jO x y p else if o.kind=4 then rm x y p else if o.kind=5 then iV x y p else if o.kind=6 then jz x y p
 else if o.kind=7 then mz x else if o.kind=8 then lk x o.n p else if o.kind=9 then ve x p else if o.kind=10 then vf x p
 else if o.kind=11 then vh x p else if o.kind=12 then vc x p else if o.kind=13 then pK x p else ix
noncomputable def uV(o:lF)(l:List Iv)(p:Nat):Iv:=if o.kind=1 then rj o.cn o.cd p else mU o (l.getD o.a ix) (if xT o then l.getD o.b ix else ix) p
noncomputable def jR(il:List lF)(xs:List Iv)(p:Nat):Nat->List Iv
 | 0=>xs
 |k+1=>jR il xs p k++[uV (il.getD k iN) (jR il xs p k) p]
noncomputable def xZ(t:j8)(xs:List Iv)(p:Nat):List Iv:=t.iF.map λk=>(jR t.il xs p t.il.length).getD k ix
def Hr(il:List lF)(xs:List Iv)(p:Nat):∀ k,(jR il xs p k).length=xs.length+k
 | 0=>rfl
 |k+1=>by simp only[jR,cg,Hr il xs p k,dj,am0];omega
def Zw(o:lF){x y:Iv}(hx:x.iy)(hy:y.iy){p:Nat}(hp:1<=p)(iw:p<=4096):(mU o x y p).iy:=by
 unfold mU;split
 .exact qk hx hy hp iw
 split
 .exact qk hx (Bu hy) hp iw
 split
 .exact oV _ _ hp iw
 split
 .exact oZ _ _ hp iw
 split
 .exact Bu hx
 split
 .exact J2 hx _ hp iw
 split
 .exact L4 _ _
 split
 .exact L5 _ _
 split
 .exact Sb _ _
 split
 .exact R7 _ _
 split
 .exact FF _ _
 .exact mc
def Zy(o:lF){l:List Iv}(hl:mZ l){p:Nat}(hp:1<=p)(iw:p<=4096):(uV o l p).iy:=by
 unfold uV;split
 .exact Pd _ _ hp iw
 .exact Zw o (hl _) (by split;exact hl _;exact mc) hp iw
def KH(il:List lF){xs:List Iv}(h:mZ xs){p:Nat}(hp:1<=p)(iw:p<=4096):∀ k,mZ (jR il xs p k)
 | 0=>h
 |k+1=>(KH il h hp iw k).push (Zy _ (KH il h hp iw k) hp iw)
def ac6(t:j8)(xs:List Iv)(p:Nat):(xZ t xs p).length=t.iF.length:=by simp[xZ]
def ajU{d:Dy}(h:¬d.jG<0):0<=d.q:=by
 rw[(sF d).2]at h
 grind
def ahW{d:Dy}(h:0<=d.q):¬d.jG<0:=by
 rw[(sF d).2]
 grind
def QC(a b:List Iv)(g:FuncId)(cap:List E)(i:Nat):PS:=⟨32,false,[(17,.e (iP i)),(16,.e (iP a.length)),(15,.e (iq a)),(1,.e (iq b)),(2,.e (.fn g cap))],[]⟩
def QB(a b:List Iv)(g:FuncId)(cap:List E)(N:Nat)(i:Nat):PS:=⟨32,false,[(17,.e (iP i)),(16,.e (iP a.length)),(15,.e (iq a)),(1,.e (iq b)),(2,.e (.fn g cap))],[]⟩
def aaF(x:Iv)(hx:x.iy)(xa:x.all=false):ik 181 [iz x] (bP false):=
 ak call181 func181 (af [ai 4 x.all xa,.c (qH x aD)]) 
def Iq(b:List Iv)(h1:1<=b.length)(h8:b.length<=8)(hb:sK b):ik 106 [iq b] (bP true):=
 ak call106 func106 (af [tT 5 (1<=(b.length:Int)) aC,tT 9 ((b.length:Int)<=8) aC,.c (NG true _ _ 181 [] (λ_=>false) (λi hi=>aaF _ (hb i hi).1 (hb i hi).2) aC (λ_ _=>rfl):ik 53 [iq b,.fn 181 []] _)]) 
def Li(a b:List Iv)(a1:1<=a.length)(a8:a.length<=8)(hl:b.length=a.length)(ha:sK a)(hb:sK b):ik 151 [iq a,iq b] (bP true):=
 ak call151 func151 (af [.c (Iq a aC aC aD),.c (Iq b aC aC aD),ah 16 ((a.length:Int)==b.length) (agD aC)]) 
def ZQ(a b:List Iv)(g:FuncId)(cap:List E)(f:Nat->Bool)(hl:b.length=a.length)(h8:a.length<=1000)(hp:∀ i,i<a.length->ik g ((iz (a.getD i ix))::(iz (b.getD i ix))::cap) (bP (f i)))(jZ:∀ i,i<a.length->f i=true):ik 98 [iq a,iq b,.fn g cap] (bP true):=
 an call98 func98 (af [ai 14 ((a.length:Int) != (b.length:Int)) (yK aC),.s (Sp.kE (QC a b g cap) 0 a.length aC (λi hi rF=>by
    exact jh (af [tT 18 ((i:Int)<a.length) aC,iX (i:Int) (a.length) aC,iX (i:Int) (b.length) aC,.c (hp i aC:ik g ((iz (a.getD i ix))::(iz (b.getD i ix))::cap) _),ah 29 (f i) (jZ i aC),iL ((i:Int)+1) aC]) aF)
  (λhi=>by
    exact jh (af [tF 18 ((a.length:Int)<a.length) aC]) aF) aI:kD 4 Tryz.f98 (QC a b g cap 0) (.exit 0) ⟨32,false,[],[]⟩) .nil]) 
def ZO(a b:List Iv)(g:FuncId)(cap:List E)(f:Nat->Bool)(hl:b.length=a.length)(h8:a.length<=1000)(hp:∀ i,i<a.length->ik g ((iz (a.getD i ix))::(iz (b.getD i ix))::cap) (bP (f i)))(N:Nat)(q8:N<a.length)(jZ:∀ i,i<N->f i=true)(hN:f N=false):ik 98 [iq a,iq b,.fn g cap] (bP false):=
 an call98 func98 (af [ai 14 ((a.length:Int) != (b.length:Int)) (yK aC),.s (Sp.kE (QB a b g cap N) 0 N aC (λi hi rF=>by
    exact jh (af [tT 18 ((i:Int)<a.length) aC,iX (i:Int) (a.length) aC,iX (i:Int) (b.length) aC,.c (hp i aC:ik g ((iz (a.getD i ix))::(iz (b.getD i ix))::cap) _),ah 29 (f i) (jZ i aC),iL ((i:Int)+1) aC]) aF)
  (λhi=>by
    exact jh (af [tT 18 ((N:Int)<a.length) aC,iX (N:Int) (a.length) aC,iX (N:Int) (b.length) aC,.c (hp N aC:ik g ((iz (a.getD N ix))::(iz (b.getD N ix))::cap) _),ai 29 (f N) hN]) aF) aI:kD 4 Tryz.f98 (QB a b g cap N 0) .ret ⟨32,false,[(6,.e (bP false))],[]⟩) .nil]) 
def ZP(a b:List Iv)(g:FuncId)(cap:List E)(f:Nat->Bool)(hl:b.length=a.length)(h8:a.length<=1000)(hp:∀ i,i<a.length->ik g ((iz (a.getD i ix))::(iz (b.getD i ix))::cap) (bP (f i))):ik 98 [iq a,iq b,.fn g cap] (bP ((List.range a.length).all f)):=by
 by_cases h:∃ i,i<a.length/\(!(f i))=true
 .obtain ⟨N,h1,h2,h3⟩:=uB (p:=λi=>!(f i)) h;refine(ZO a b g cap f hl h8 hp N h1 (λi hi=>by simpa using h3 i hi) (by simpa using h2)).kq (.jl ?_);rw[show(List.range a.length).all f=false from List.all_eq_false.2 ⟨N,cC.2 h1,by simpa using h2⟩]
 .have hh:∀ i,i<a.length->f i=true:=λi hi=>by
   cases hf:f i
   .exact absurd ⟨i,hi,by rw[hf];rfl⟩ h
   .rfl
  refine(ZQ a b g cap f hl h8 hp hh).kq (.jl ?_);rw[show(List.range a.length).all f=true from bT.2 λi hi=>hh i (cC.1 hi)]
def Lh(a b:List Iv)(a1:1<=a.length)(a8:a.length<=8)(hl:b.length=a.length)(ha:sK a)(hb:sK b):ik 131 [iq a,iq b] (bP (yC a b)):=
 ak call131 func131 (af [.c (Li a b aC aC aC aD aD),.c (ZP a b 82 [] (λi=>Bl (a.getD i ix) (b.getD i ix)) hl aC (λi hi=>ZW _ _ (ha i hi).1 (hb i aC).1))]) 
end Go.Proofs.YtgdahmmlddfimaaGreatDoor
namespace Go.Proofs.YtgdahmmlddfimaaGreatDoor.Pu
open Go.RowKit
def WH{bs br:Nat->Prop}{w:World}{xs:List Value}{a:Value}(h:iO bs br w (.agg (xs.map E.v)) a):a = .agg xs.toArray:=by
 generalize he:E.agg (xs.map E.v)=e at h;cases h with
 |agg l vs hl k=>
  cases he;rw[b6]at hl;have:vs=xs:=gE λi=>by
   cases hx:xs[i]? with
   |none=>rw[List.getElem?_eq_none_iff]at hx ⊢;omega
   |some x=>
    obtain⟨v,hv⟩:∃ v,vs[i]? = some v:=by
     have hi:i<xs.length:=(cw.1 hx).1;exact⟨vs[i]'(aC),bG aC⟩
    rw[hv,iO.kG (k i (.v x) v (by rw[cG,hx];rfl) hv)]
  rw[this]
 |_=>cases he
def Oq{P:Program}{t:TypeId}{m D D':Nat}(hm:m<=10000)(hk:P.keyTypeAt m t=true)(hg:P.eqGuardType P.depth t=false){xs ys:List Value}{la lb:List Lit}
 (hx:P.keyLits D t xs=some la) (hy:P.keyLits D' t ys=some lb) (fx:(Value.agg xs.toArray).formed P t=true) (fy:(Value.agg ys.toArray).formed P t=true) {c:Bool} (hc:c=true↔la=lb):
 nY P .eql t (.agg (xs.map E.v)) (.agg (ys.map E.v)) (.bool c):=by
 intro bs br w a b ox oy ha hb;obtain rfl:=WH ha;obtain rfl:=WH hb;constructor
 .simp only[eqGuard,fK,bM,bE,Sem.run_bind,run_program,Result.andThen_ok,hg,fu,bL,Sem.run_pure]
 .obtain ⟨r,hr,aer⟩:=run_equalIn_deep (10000-m) m t hk w _ _ _ _ la lb fx fy (by simpa[Value.cells]using hx) (by simpa[Value.cells]using hy);rw[(aC:10000-m+m=10000)]at hr;have e:r=c:=by rw[fc,aer,hc]
  subst e;have:(Op.equal t (.agg xs.toArray) (.agg ys.toArray)).run P w = .ok r w:=hr;simp only[binOp,Sem.run_bind,this,Result.andThen_ok,Sem.run_pure]
end Go.Proofs.YtgdahmmlddfimaaGreatDoor.Pu
namespace Go.Proofs.YtgdahmmlddfimaaGreatDoor
open Go.RowKit Fp Pu
def V8{t:TypeId}{m:Nat}(hm:m<=10000)(hk:prog.keyTypeAt m t=true)(hg:prog.eqGuardType prog.depth t=false){xs:List Value}(hx:(prog.keyLits 10 t xs).isSome=true)
 (fx:(Value.agg xs.toArray).formed prog t=true):nY prog .eql t (.agg (xs.map E.v)) (.agg (xs.map E.v)) (.bool true):=by
 obtain⟨l,hl⟩:=ia.1 hx;exact Oq hm hk hg hl hl fx fx aH 
def JP{a b c d e f:Int}(h:a=0/\b=0/\c=0/\d=0/\e=0/\f=0):
 nY prog .eql 107 (.agg [iP a,iP b,iP c,iP d,iP e,iP f]) (.agg [iP 0,iP 0,iP 0,iP 0,iP 0,iP 0]) (.bool true):=by
 obtain⟨rfl,rfl,rfl,rfl,rfl,rfl⟩:=h;exact V8 (m:=10) (xs:=[.int .i64 0,.int .i64 0,.int .i64 0,.int .i64 0,.int .i64 0,.int .i64 0]) aE aF aF aF aF 
def Oo{a b:Int}(h:a=0/\b=0):nY prog .eql 93 (.agg [iP a,iP b]) (.agg [iP 0,iP 0]) (.bool true):=by
 obtain⟨rfl,rfl⟩:=h;exact V8 (m:=10) (xs:=[.int .i64 0,.int .i64 0]) aE aF aF aF aF 
def Bm{d:Nat}{n:Int}(h:kB .i64 n):prog.keyLits (d+1) 3 [.int .i64 n]=some [.int .i64 n]:=by
 have hw:(Lit.int .i64 n).wf=true:=by
  unfold kB at h;simp[Lit.wf,IntKind.min,IntKind.max,IntKind.signed,IntKind.bits];omega
 unfold Program.keyLits;rw[underlying3];simp[hw]
def Wr{a b:Int}(ha:kB .i64 a)(hb:kB .i64 b):prog.keyLits 10 93 [.int .i64 a,.int .i64 b]=some [.int .i64 a,.int .i64 b]:=by
 have c1:prog.cellsOf 93=2:= aF ;have c2:prog.cellsOf 3=1:= aF ;unfold Program.keyLits;rw[underlying93];simp[c1,c2,fQ,Bm ha,Bm hb]
def V7{a b:Int}{r:Bool}(ha:kB .i64 a)(hb:kB .i64 b)(h:decide (a=0/\b=0)=r):nY prog .eql 93 (.agg [iP a,iP b]) (.agg [iP 0,iP 0]) (.bool r):=
 Oq (m:=10) (xs:=[.int .i64 a,.int .i64 b]) (ys:=[.int .i64 0,.int .i64 0]) aE aF aF (Wr ha hb) (Wr bg bg) aF aF (by subst h;simp)
def ag7{a b c d e f a' b' c' d' e' f':Int}{r:Bool}(hx:prog.keyLits 10 107 [.int .i64 a,.int .i64 b,.int .i64 c,.int .i64 d,.int .i64 e,.int .i64 f]=some [.int .i64 a,.int .i64 b,.int .i64 c,.int .i64 d,.int .i64 e,.int .i64 f])(hy:prog.keyLits 10 107 [.int .i64 a',.int .i64 b',.int .i64 c',.int .i64 d',.int .i64 e',.int .i64 f']=some [.int .i64 a',.int .i64 b',.int .i64 c',.int .i64 d',.int .i64 e',.int .i64 f'])
 (fx:(Value.agg (List.toArray [.int .i64 a,.int .i64 b,.int .i64 c,.int .i64 d,.int .i64 e,.int .i64 f])).formed prog 107=true) (fy:(Value.agg (List.toArray [.int .i64 a',.int .i64 b',.int .i64 c',.int .i64 d',.int .i64 e',.int .i64 f'])).formed prog 107=true) (h:decide (a=a'/\b=b'/\c=c'/\d=d'/\e=e'/\f=f')=r):
 nY prog .eql 107 (.agg [iP a,iP b,iP c,iP d,iP e,iP f]) (.agg [iP a',iP b',iP c',iP d',iP e',iP f']) (.bool r):=
 Oq (m:=10) (xs:=[.int .i64 a,.int .i64 b,.int .i64 c,.int .i64 d,.int .i64 e,.int .i64 f]) (ys:=[.int .i64 a',.int .i64 b',.int .i64 c',.int .i64 d',.int .i64 e',.int .i64 f']) aE aF aF hx hy fx fy (by subst h;simp)
def ai5{P:Program}(w:World)(t tx ty e:TypeId)(i:TypeInfo)(z:Value)(ht:P.underlying t=some (.slice e))(hx:P.underlying tx=some (.int .i64))(hi:P.info? e=some i)(hz:i.zero=some z)
 (tX:i.size≠0) (n:Nat) (h0:0<n) (FM:n<=1000000) (SA:n*i.bytes<=281474976710656):
 (Builtin.append_ #[t,tx] ty #[.slice none 0 0,.int .i64 (n:Int)]).run P w =
  .ok (.slice (some ⟨w.heap.size,0,none⟩) n (grownCap w n 0 e)) (w.drew.alloc (.cells (Builtin.zeroCells z.cells n++Builtin.zeroCells z.cells (grownCap w n 0 e-n)) e)):=by
 have hn:n≠0:= aC ;have hns:n*i.size≠0:=dW hn tX;have ad9:¬(9223372036854775807<(n:Int)):= aC ;have ad7:¬(281474976710656<Builtin.nextslicecap n 0*i.bytes):=by rw[nextslicecap_zero h0];omega
 have hw:IntKind.i64.wrap (n:Int)=n:=i64_in _ aC aC;have F3:¬((n:Int)<0):= aC ;have ad8:¬(281474976710656<(n:Int)*(i.bytes:Int)):=by
  have:(n:Int)*(i.bytes:Int)=((n*i.bytes:Nat):Int):= aH ;rw[this];omega
 simp[Builtin.append_,run_underlying ht,run_underlying hx,sizeOf,typeInfo,zeroValue,hi,hz,asInt,asIntOf,hw,F3,ad8,hn,hns,ad9,ad7,Question.forced,run_firstCells_none,newRow,grownCap]
def alQ{P:Program}{w:World}{il:Array Oper}{rest:List Oper}{o:Oper}{a:Act}{Q:Exit->Act->World->Prop}(pN:o.guard=none)(s x:Operand)(t tx:TypeId)
 (ho:o.op = .call { callee:=.builtin .append,args:=#[s,x],argTypes:=#[t,tx] })
 (e:TypeId) (i:TypeInfo) (z:Value) (ht:P.underlying t=some (.slice e)) (hx:P.underlying tx=some (.int .i64)) (hi:P.info? e=some i) (hz:i.zero=some z)
 (tX:i.size≠0) (n:Nat) (h0:0<n) (FM:n<=1000000) (SA:n*i.bytes<=281474976710656) (hs:a.eval s = .slice none 0 0) (No:a.eval x = .int .i64 (n:Int))
 (h:wpList P il Q rest (a.put o.dst (.slice (some ⟨w.heap.size,0,none⟩) n (grownCap w n 0 e))) (w.drew.alloc (.cells (Builtin.zeroCells z.cells n++Builtin.zeroCells z.cells (grownCap w n 0 e-n)) e))):wpList P il Q (o::rest) a w:=by
 refine wpList_plain pN λK hK=>?_
 have kP:=ai5 (P:=P) w t tx o.type e i z ht hx hi hz tX n h0 FM SA;unfold Oper.wp;simp[execOp,ho,resolve,invoke,builtin,hs,No,kP,Result.andThen];exact hK _ _ h
def Zs(w:World)(o:Obj):Below w.heap.size w (w.alloc o).drew:=⟨rfl,rfl,rfl,by rw[show(w.alloc o).drew.heap=w.heap.push o from rfl,amR];omega,λx hx=>Below.heap_alloc w _ x hx⟩
def Zt(w:World)(o:Obj):w.heap.size<(w.alloc o).drew.heap.size:=by rw[show(w.alloc o).drew.heap=w.heap.push o from rfl,amR];omega
set_option maxRecDepth 100000 in
abbrev tv(f:FuncId)(args:List E)(nl:Bool)(T:TypeId)(n sz:Nat)(el:Nat->Nat->E):Prop:=uR prog Tb f args nl T n sz el
def PF{f:FuncId}{fn:Func}{args:List E}{nl:Bool}{T0:TypeId}{n sz:Nat}{el:Nat->Nat->E}(xh:∀ (vs:Array Value) (w:World),(callFunc f vs).run prog w = .ok (.enter f vs) w)
 (hf:prog.funcs[f]? = some fn) (t:Tr prog Tb) (h:OR TT fn args (.row nl T0 n sz el) t=t.ex λ_=>.a (Bx.le (.row nl T0 n sz el) (.row nl T0 n sz el)) .nil):tv f args nl T0 n sz el:=
 uR.PE K0 mixed P9 xh hf t h
end Go.Proofs.YtgdahmmlddfimaaGreatDoor
