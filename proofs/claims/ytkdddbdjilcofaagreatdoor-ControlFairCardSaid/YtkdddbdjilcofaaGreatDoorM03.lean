/- Lemmas that the last file uses. -/
import Derived.Test.YtkdddbdjilcofaaGreatDoorM02
import Derived.Scope
set_option linter.unusedSimpArgs false
set_option linter.unusedVariables false
set_option linter.defProp false
set_option maxHeartbeats 4000000
open Go.Proofs.Tryz
namespace Go.Proofs.YtkdddbdjilcofaaGreatDoor.Pu
open Go.RowKit
inductive R where
 |nil
 |iY
 |a (p:Prop) (r:R)
 |w (p:Prop) (r1:p->R) (r2:¬p->R)
def R.ok:R->Prop
 | .nil=>True
 | .iY=>False
 | .a p r=>p/\r.ok
 | .w p r1 r2=>(∀ h:p,(r1 h).ok)/\(∀ h:¬p,(r2 h).ok)
inductive Tr(P:Program)(K:World->Prop) where
 |nil
 |c {f:FuncId} {args:List E} {jP:E} (h:PC P K f args jP) (t:Tr P K)
 |cf {f:FuncId} {args:List E} {jP:E} (h:G3 P K f args jP) (t:Tr P K)
 |cn {f:FuncId} {args:List E} {nl:Bool} {T:TypeId} {n sz:Nat} {el:Nat->Nat->E} (h:vh P K f args nl T n sz el) (t:Tr P K)
 |g {op:BinOp} {ty:TypeId} {x y:E} {v:Value} (h:qk P op ty x y v) (t:Tr P K)
 |gi {op:BinOp} {ty:TypeId} {x y:E} {v:Value} (h:qk P op ty x y v) (t:Tr P K)
 |m {l:List (Int×FuncId×List FuncId)} {z:Int} {e:E} (h:Cj l z=some e) (t:Tr P K)
 |o (d:Nat) {p q:PV} (h:PV.le p q) (t:Tr P K)
 |bo (t:Tr P K)
 |a {p:Prop} (h:p) (t:Tr P K)
 |w (p:Prop) (t1:p->Tr P K) (t2:¬p->Tr P K)
 |s {c:Code} {σ τ:PS} {e:Ex} (h:Sp P K c σ (λe' τ'=>e'=e/\τ'=τ)) (l t:Tr P K)
 |j (c:Nat) (τ:PS) (tj t:Tr P K)
 |v (d:Nat) {p q:PV} (h:PV.le p q) (t:Tr P K)
 |b (d:Nat) {p q:Bx} (h:Bx.le p q) (t:Tr P K)
 |z (id:Nat) (t:Tr P K)
 |y (s id:Nat) (nl:Bool) (T:TypeId) (sz:Nat) (el:Nat->Nat->E) (t:Tr P K)
 |e (t:Tr P K)
 |k (ts bs:List Nat) (t:Tr P K)
 |u (n:Nat) (t:Tr P K)
 |x (h:False)
 |r {p q:E} (h:E.le p q)
 |rb {p q:Bx} (h:Bx.le p q)
section
variable {P:Program} {K:World->Prop}
def D8:List (Nat×PV)->Tr P K->(Tr P K->R)->R
 | [],t,k=>k t
 | (d,q)::l,t,k=>match t with
  | .o d' (p:=p) (q:=q') _ t'=>if Nat.beq d' d then .a (PV.le p q') (D8 l t' k)else .a (PV.le q q) (D8 l t k)
  |t=>.a (PV.le q q) (D8 l t k)
def CT:List (Nat×Bx)->Tr P K->R->R
 | [],_,r=>r
 | (d,q)::l,t,r=>match t with
  | .b d' (p:=p) (q:=q') _ t'=>if Nat.beq d' d then .a (Bx.le p q') (CT l t' r)else .a (Bx.le q q) (CT l t r)
  |t=>.a (Bx.le q q) (CT l t r)
def D4(σ:PS)(t:Tr P K)(r:R):R:=D8 σ.t t λt=>CT σ.b t r
def Tr.ex:Tr P K->(Tr P K->R)->R
 | .nil,fin=>fin .nil
 | .e t,fin=>fin t
 | @Tr.c _ _ f args jP _ t,fin=>.a (PC P K f args jP) (t.ex fin)
 | @Tr.cf _ _ f args jP _ t,fin=>.a (G3 P K f args jP) (t.ex fin)
 | @Tr.cn _ _ f args nl T n sz el _ t,fin=>.a (vh P K f args nl T n sz el) (t.ex fin)
 | @Tr.g _ _ op₁ ty₁ xe₁ ye₁ ve₁ _ t,fin=>.a (qk P op₁ ty₁ xe₁ ye₁ ve₁) (t.ex fin)
 | @Tr.gi _ _ op₁ ty₁ xe₁ ye₁ ve₁ _ t,fin=>.a (qk P op₁ ty₁ xe₁ ye₁ ve₁) (t.ex fin)
 | @Tr.m _ _ l₁ z₁ e₁ _ t,fin=>.a (Cj l₁ z₁=some e₁) (t.ex fin)
 | .o _ (p:=p) (q:=q) _ t,fin=>.a (PV.le p q) (t.ex fin)
 | .bo t,fin=>.a True (t.ex fin)
 | .a (p:=p) _ t,fin=>.a p (t.ex fin)
 | .w p t1 t2,fin=>.w p (λh=>(t1 h).ex fin) (λh=>(t2 h).ex fin)
 | @Tr.s _ _ c₁ σ τ e₁ _ l t,fin=>D4 σ l (.a (Sp P K c₁ σ (λe' τ'=>e'=e₁/\τ'=τ)) (t.ex fin))
 | .j _ τ tj t,fin=>.a (tj.ex λt=>D4 τ t .nil).ok (t.ex fin)
 | .v _ (p:=p) (q:=q) _ t,fin=>.a (PV.le p q) (t.ex fin)
 | .b _ _ t,fin=>t.ex fin
 | .z _ t,fin=>t.ex fin
 | .y _ _ _ _ _ _ t,fin=>t.ex fin
 | .k _ _ t,fin=>t.ex fin
 | .u _ t,fin=>t.ex fin
 | .x _,fin=>.a False .nil
 | .r (p:=p) (q:=q) _,fin=>.a (E.le p q) .nil
 | .rb (p:=p) (q:=q) _,fin=>.a (Bx.le p q) .nil
def akE{l:List (Nat×PV)}{t:Tr P K}{k:Tr P K->R}(hk:∀ t,(k t).ok):(D8 l t k).ok:=by
 induction l generalizing t with
 |nil=>exact hk t
 |cons x l ih=>
  obtain⟨d,q⟩:=x;cases t with
  |o d' h t'=>
   simp only[D8];split
   .exact ⟨h,ih⟩
   .exact ⟨PV.le.refl q,ih⟩
  |_=>exact⟨PV.le.refl q,ih⟩
def ZH{l:List (Nat×Bx)}{t:Tr P K}{r:R}(hr:r.ok):(CT l t r).ok:=by
 induction l generalizing t with
 |nil=>exact hr
 |cons x l ih=>
  obtain⟨d,q⟩:=x;cases t with
  |b d' h t'=>
   simp only[CT];split
   .exact ⟨h,ih⟩
   .exact ⟨Bx.le.refl q,ih⟩
  |_=>exact⟨Bx.le.refl q,ih⟩
def O6{σ:PS}{t:Tr P K}{r:R}(hr:r.ok):(D4 σ t r).ok:=akE λ_=>ZH hr
def Tr.LC{fin:Tr P K->R}(hf:∀ t,(fin t).ok)(t:Tr P K):(t.ex fin).ok:=by
 induction t generalizing fin with
 |nil=>exact hf _
 |e t=>exact hf _
 |c h t ih=>exact⟨h,ih hf⟩
 |cf h t ih=>exact⟨h,ih hf⟩
 |cn h t ih=>exact⟨h,ih hf⟩
 |g h t ih=>exact⟨h,ih hf⟩
 |gi h t ih=>exact⟨h,ih hf⟩
 |m h t ih=>exact⟨h,ih hf⟩
 |o d h t ih=>exact⟨h,ih hf⟩
 |bo t ih=>exact⟨trivial,ih hf⟩
 |a h t ih=>exact⟨h,ih hf⟩
 |w p t1 t2 FC FD=>exact⟨λh=>FC h hf,λh=>FD h hf⟩
 |s h l t ihl M4=>exact O6 ⟨h,M4 hf⟩
 |j c τ tj t ihj M4=>exact⟨ihj λ_=>O6 trivial,M4 hf⟩
 |v d h t ih=>exact⟨h,ih hf⟩
 |b d h t ih=>exact ih hf
 |z id t ih=>exact ih hf
 |y s id nl T sz el t ih=>exact ih hf
 |k ts bs t ih=>exact ih hf
 |u n t ih=>exact ih hf
 |x h=>exact h.elim
 |r h=>exact⟨h,trivial⟩
 |rb h=>exact⟨h,trivial⟩
def Pb(υ:PS):List (Nat×PV)->R->R
 | [],r=>r
 | (d,q)::l,r=>.a (PV.le (υ.get d) q) (Pb υ l r)
def Hl(υ:PS):List (Nat×Bx)->R->R
 | [],r=>r
 | (d,q)::l,r=>match υ.bo d with
  |some b=>.a (Bx.le b q) (Hl υ l r)
  |none=>.iY
def Kg(υ σ:PS)(r:R):R:=if Nat.beq υ.n σ.n&&(σ.b.all (λx=>x.2.nl)||(σ.nl==υ.nl))&&Gn σ then Pb υ σ.t (Hl υ σ.b r)else .iY
def Tr.tail:Tr P K->Tr P K
 | .c _ t=>t
 | .cf _ t=>t
 | .cn _ t=>t
 | .g _ t=>t
 | .gi _ t=>t
 | .m _ t=>t
 | .bo t=>t
 | .a _ t=>t
 |_=>.nil
def NY:List Prop->Tr P K->(Tr P K->R)->R
 | [],t,k=>k t
 |p::l,t,k=>.a p (NY l t.tail k)
def Q8(d:Option Tmp)(t:Tr P K):pK:=match d with
 |some d=>match t with
  | @Tr.c _ _ _ _ jP _ _=>{ cl:=[(d,jP)] }
  | @Tr.cf _ _ _ _ jP _ _=>{ cl:=[(d,jP)] }
  | @Tr.g _ _ _ _ _ _ ve₁ _ _=>{ cl:=[(d,.v ve₁)] }
  | @Tr.gi _ _ _ _ _ _ ve₁ _ _=>{ gi:=[(d,ve₁)] }
  | @Tr.m _ _ _ _ e₁ _ _=>{ cl:=[(d,e₁)] }
  | @Tr.cn _ _ _ _ nl T n sz el _ _=>{ nw:=[(d,.row nl T n sz el)] }
  | .bo _=>{ nw:=[(d,.cells 0 [])] }
  |_=>{}
 |none=>{}
def Gf:Tr P K->(Tr P K->R)->R
 | .w p t1 t2,k=>.w p (λh=>Gf (t1 h) k) (λh=>Gf (t2 h) k)
 | .x _,_=>.a False .nil
 |t,k=>k t
def Of(o:Oper)(u:kp)(t:Tr P K)(k:kp->Tr P K->R):R:=match o.dst,t with
 |some d,.o d' (q:=q) _ t'=>if Nat.beq d' d then .a (PV.le u.r q) (k { u with r:=q,jo:=PV.le u.r q::u.jo } t')else k u t
 |_,t=>k u t
def N9(T:List TI)(gS:Array Oper)(σ:PS)(o:Oper)(t:Tr P K)(k:kp->Tr P K->R):R:=
 if vN σ o.dst then match zC gS σ o with
  |some false=>k { r:=.e (.v (.tuple #[])),rd:=(looks gS o).map σ.get } t
  |some true=>Gf t λt=>match jk P K T (Q8 o.dst t) σ o with
   |some u=>NY u.jo t λt=>Gf t λt=>Of o u t λu t=>k { u with rd:=(looks gS o).map σ.get } t
   |none=>.iY
  |none=>.iY
 else .iY
def Od(T:List TI)(gS:Array Oper)(k:List (Oper×kp)->PS->Tr P K->R):List Oper->List (Oper×kp)->PS->Tr P K->R
 | [],us,σ,t=>k us σ t
 |o::l,us,σ,t=>N9 T gS σ o t λu t'=>Od T gS k l ((o,u)::us) (σ.app o.dst u) t'
def rN(c:Bool):Tr P K->PS->(Tr P K->PS->R)->R
 | .w p t1 t2,σ,k=>.w p (λh=>rN c (t1 h) σ k) (λh=>rN c (t2 h) σ k)
 | .x _,_,_=>.a False .nil
 | .v d (q:=q) _ t,σ,k=>match q with
  | .e x=>if vN σ (some d)then .a (PV.le (σ.get d) (.e x)) (rN c t (σ.put (some d) (.e x)) k)else .iY
  |_=>.iY
 | .k ts bs t,σ,k=>if c then k (.k ts bs t) σ else if Gn (σ.cut ts bs)then rN c t (σ.cut ts bs) k else .iY
 | .z id t,σ,k=>if c then k (.z id t) σ else match σ.bo id with
  |some b=>match b.as with
   |some e=>rN c t (σ.xw id e) k
   |none=>.iY
  |none=>.iY
 | .y s id nl T sz el t,σ,k=>if c then k (.y s id nl T sz el t) σ else match σ.bo id,σ.get s with
  |none,.e (.v (.slice none 0 0))=>if !σ.nl||nl then rN c t (σ.CP s id (.row nl T 0 sz el)) k else .iY
  |_,_=>.iY
 |t,σ,k=>k t σ
def Kd(c:Code)(σ:PS)(t:Tr P K)(k:Ex->PS->Tr P K->R):R:=match t with
 | @Tr.s _ _ _ σ' τ e _ _ t=>Kg σ σ' (.a (Sp P K c σ' (λe' τ'=>e'=e/\τ'=τ)) (k e τ t))
 |_=>.iY
def Ex.pR:Ex->Ex->Bool
 | .normal,.normal=>true
 | .ret,.ret=>true
 | .exit a,.exit b=>Nat.beq a b
 |_,_=>false
def EP(e:Ex)(τ:PS)(e':Ex)(υ:PS)(_:Tr P K):R:=if Ex.pR e' e then Kg υ τ .nil else .iY
def ab9:Operand->Nat
 | .tmp t=>2*t
 |_=>1
def jn(c:Nat)(g:PS->Tr P K->(Ex->PS->Tr P K->R)->R)(σ:PS)(t:Tr P K)(k:Ex->PS->Tr P K->R):R:=match t with
 | .j c' τ tj t'=>if Nat.beq c' c then .a (g σ tj (EP .normal τ)).ok (k .normal τ t')else g σ t k
 |t=>g σ t k
def Tr.isS:Tr P K->Bool
 | .s ..=>true
 |_=>false
def YH(g f:PS->Tr P K->(Ex->PS->Tr P K->R)->R):Nat->PS->Tr P K->(Ex->PS->Tr P K->R)->R
 | 0,_,_,_=>.iY
 |n+1,σ,t,k=>rN false t σ λt σ=>if t.isS then g σ t k else f σ t λe τ t=>match e with
  | .normal=>YH g f n τ t k
  |e=>k e τ t
def vt(T:List TI):Code->PS->Tr P K->(Ex->PS->Tr P K->R)->R
 | .skip,σ,t,k=>k .normal σ t
 | .region _ gS d,σ,t,k=>Od T gS (λus τ t=>if !d||DR gS 0 us.reverse then k .normal τ t else .iY) gS.toList [] σ t
 | .seq a b,σ,t,k=>vt T a σ t λe τ t=>match e with
  | .normal=>vt T b τ t k
  |e=>k e τ t
 | .cond c a b,σ,t,k=>rN true t σ λt σ=>jn (ab9 c) (λσ t k=>rN true t σ λt σ=>match σ.op c with
  | .e (.v (.bool true))=>vt T a σ t k
  | .e (.v (.bool false))=>vt T b σ t k
  |_=>.iY) σ t k
 | .block id b,σ,t,k=>rN true t σ λt σ=>jn (2*id+1) (λσ t k=>vt T b σ t λe τ t=>match e with
  | .exit i=>if Nat.beq i id then k .normal τ t else k (.exit i) τ t
  |e=>k e τ t) σ t k
 | .exit id,σ,t,k=>rN false t σ λt σ=>k (.exit id) σ t
 | .ret,σ,t,k=>rN false t σ λt σ=>k .ret σ t
 | .loop b,σ,t,k=>rN false t σ λt σ=>match t with
  | .u n t=>YH (Kd (.loop b)) (vt T b) n σ t k
  |t=>Kd (.loop b) σ t k
 | .label _,σ,t,k=>k .normal σ t
 | .scope b,σ,t,k=>vt T b σ t k
 |_,_,_,_=>.iY
def WG{t:Tr P K}{k:Tr P K->R}(h:(Gf t k).ok):∃ t',(k t').ok:=by
 induction t with
 |w p t1 t2 FC FD=>
  by_cases hp:p
  .exact FC hp (h.1 hp)
  .exact FD hp (h.2 hp)
 |x hf=>exact hf.elim
 |_=>exact⟨_,h⟩
def ahD{l:List Prop}{t:Tr P K}{k:Tr P K->R}(h:(NY l t k).ok):(∀ q,q ∈ l->q)/\∃ t',(k t').ok:=by
 induction l generalizing t with
 |nil=>exact⟨λq hq=>by simp at hq,t,h⟩
 |cons p l ih=>
  obtain⟨h1,h2⟩:=ih h.2;refine⟨λq hq=>?_,h2⟩;rcases cV.1 hq with hq|hq
  .subst hq;exact h.1
  .exact h1 q hq
variable {T:List TI} {gS:Array Oper} {σ:PS} {o:Oper}
def ahX{O:pK}{u:kp}{t:Tr P K}{k:kp->Tr P K->R}(hO:O.ov=[])(hu:jk P K T O σ o=some u)(ho:∀ q,q ∈ u.jo->q)(h:(Of o u t k).ok):
 ∃ O' u' t',ui P K T O' σ o=some u'/\(∀ q,q ∈ u'.jo->q)/\(k u' t').ok:=by
 have plain:(k u t).ok->∃ O' u' t',ui P K T O' σ o=some u'/\(∀ q,q ∈ u'.jo->q)/\(k u' t').ok:=by
  intro h;refine⟨O,u,t,?_,ho,h⟩;unfold ui;rw[hu,hO];cases o.dst<;>rfl
 unfold Of at h;split at h
 .rename_i d d' p q hpq t' hd;split at h
  .obtain ⟨h1,h2⟩:=h;refine⟨⟨O.cl,[(d,q)],O.nw,O.gi⟩,_,t',?_,λx hx=>?_,h2⟩
   .unfold ui;have he:jk P K T ⟨O.cl,[(d,q)],O.nw,O.gi⟩ σ o=jk P K T O σ o:=by cases O;rfl
    rw[he,hu,hd];simp[look]
   .rcases cV.1 hx with hx|hx
    .subst hx;exact h1
    .exact ho x hx
  .exact plain h
 .exact plain h
def ahK{t:Tr P K}{k:kp->Tr P K->R}(h:(N9 T gS σ o t k).ok):∃ u t',(∃ O,rk P K T O gS σ o=some u)/\(∀ q,q ∈ u.jo->q)/\(k u t').ok:=by
 unfold N9 at h;split at h
 .rename_i hi;split at h
  .rename_i hw;refine⟨_,t,⟨{},?_⟩,λq hq=>by simp at hq,h⟩;unfold rk;rw[aZ hi,hw]
  .rename_i hw;obtain⟨t1,h1⟩:=WG h;split at h1
   .rename_i u hu;obtain⟨ho,t2,h2⟩:=ahD h1;obtain⟨t2,h2⟩:=WG h2;obtain⟨O',u',t3,wP,ho',h3⟩:=ahX (by
     unfold Q8;cases o.dst with
     |none=>rfl
     |some d=>cases t1<;>rfl) hu ho h2
    refine⟨{ u' with rd:=(looks gS o).map σ.get },t3,⟨O',?_⟩,ho',h3⟩;unfold rk;rw[aZ hi,hw,wP]
   .exact h1.elim
  .exact h.elim
 .exact h.elim
def ahW{k:List (Oper×kp)->PS->Tr P K->R}{l:List Oper}{us:List (Oper×kp)}{t:Tr P K}(h:(Od T gS k l us σ t).ok):
 ∃ vs τ t',wi P K T gS vs σ τ/\vs.map (·.1)=l/\(∀ x,x ∈ vs->∀ q,q ∈ x.2.jo->q)/\(k (vs.reverse++us) τ t').ok:=by
 induction l generalizing us σ t with
 |nil=>exact⟨[],σ,t,rU.refl σ,rfl,λx hx=>by simp at hx,h⟩
 |cons o l ih=>
  obtain⟨u,t1,h1,h2,h3⟩:=ahK h;obtain⟨vs,τ,t',k1,k2,k3,k4⟩:=ih h3;refine⟨(o,u)::vs,τ,t',⟨h1,k1⟩,by simp[k2],λx hx=>?_,by simpa using k4⟩;rcases cV.1 hx with hx|hx
  .subst hx;exact h2
  .exact k3 x hx
def PS.le.set{σ:PS}{d:Nat}{x:E}(hd:vN σ (some d)=true)(h:PV.le (σ.get d) (.e x)):PS.le σ (σ.put (some d) (.e x)):=λw0 B a w L _ r=>by
 have Fa:d<σ.n:=by simpa[vN,fG]using hd
 refine⟨L,r.hd,by rw[PS.NK];exact r.hs,λt=>?_,λid b hb=>r.hb id b hb,r.hv,r.hn,r.hw,r.hi,r.he,r.hl⟩;rw[PS.LW];by_cases e:d=t
 .subst e;rw[aZ rfl];exact h _ _ _ _ _ (r.ht d)
 .rw [aY e];exact r.ht t
def Cs{c:Bool}{t:Tr P K}{σ:PS}{k:Tr P K->PS->R}(h:(rN c t σ k).ok):∃ t' τ,PS.le σ τ/\(k t' τ).ok:=by
 induction t generalizing σ with
 |w p t1 t2 FC FD=>
  by_cases hp:p
  .exact FC hp (h.1 hp)
  .exact FD hp (h.2 hp)
 |k ts bs t ih=>
  simp only[rN]at h;split at h
  .exact ⟨_,σ,PS.le.refl σ,h⟩
  split at h
  .rename_i hr;obtain⟨t',τ,h1,h2⟩:=ih h;exact⟨t',τ,(PS.le.cut ts bs hr).trans h1,h2⟩
  .exact h.elim
 |v d h0 t ih=>
  simp only[rN]at h;split at h
  .rename_i x;split at h
   .rename_i hd;obtain⟨t',τ,h1,h2⟩:=ih h.2;exact⟨t',τ,(PS.le.set hd h.1).trans h1,h2⟩
   .exact h.elim
  .exact h.elim
 |z id t ih=>
  simp only[rN]at h;split at h
  .exact ⟨_,σ,PS.le.refl σ,h⟩
  split at h
  .rename_i b hb;split at h
   .rename_i e he;obtain⟨t',τ,h1,h2⟩:=ih h;exact⟨t',τ,(PS.le.freeze id hb he).trans h1,h2⟩
   .exact h.elim
  .exact h.elim
 |y s id nl T sz el t ih=>
  simp only[rN]at h;split at h
  .exact ⟨_,σ,PS.le.refl σ,h⟩
  split at h
  .rename_i hb hg;split at h
   .rename_i hn;obtain⟨t',τ,h1,h2⟩:=ih h;exact⟨t',τ,(PS.le.Zn s id hb hg (λe=>by rw[e]at hn;simpa using hn)).trans h1,h2⟩
   .exact h.elim
  .exact h.elim
 |x hf=>exact hf.elim
 |_=>exact⟨_,σ,PS.le.refl σ,h⟩
def akF{υ:PS}{l:List (Nat×PV)}{r:R}(h:(Pb υ l r).ok):w9 υ l/\r.ok:=by
 induction l with
 |nil=>exact⟨trivial,h⟩
 |cons x l ih=>obtain⟨d,q⟩:=x;exact⟨⟨h.1,(ih h.2).1⟩,(ih h.2).2⟩
def aac{υ:PS}{l:List (Nat×Bx)}{r:R}(h:(Hl υ l r).ok):wb υ l/\r.ok:=by
 induction l with
 |nil=>exact⟨trivial,h⟩
 |cons x l ih=>
  obtain⟨d,q⟩:=x;simp only[Hl]at h;split at h
  .rename_i b hb;exact⟨⟨⟨b,hb,h.1⟩,(ih h.2).1⟩,(ih h.2).2⟩
  .exact h.elim
def Yd{υ σ:PS}{r:R}(h:(Kg υ σ r).ok):PS.le υ σ/\r.ok:=by
 unfold Kg at h;split at h
 .rename_i hc;simp only[bE,dx,fP]at hc;obtain⟨⟨h1,h2⟩,h3⟩:=hc;obtain⟨h4,h5⟩:=akF h;obtain⟨h6,h7⟩:=aac h5;refine⟨?_,h7⟩;rcases h2 with h2|h2
  .exact PS.le.agh (kG.1 h1) h2 h3 h4 h6
  .exact PS.le.oE (kG.1 h1) h2 h3 h4 h6
 .exact h.elim
def ajo(hT:lY P T){w0:World}{B:Nat->Prop}{a:Act}{w:World}{L:Lk}(g:Gd P K w0 B){us:List (Oper×kp)}{τ:PS}{Q:Exit->Act->World->Prop}(h:wi P K T gS us σ τ)(ho:∀ x,x ∈ us->∀ q,q ∈ x.2.jo->q)
 (r:iS w0 B σ a w L) (hq:∀ a' w' L',iS w0 B τ a' w' L'->Q .normal a' w'):wpList P gS Q (us.map (·.1)) a w:=by
 induction us generalizing σ a w L with
 |nil=>exact hq a w L (r.pR h)
 |cons x us ih=>
  obtain⟨⟨O,h1⟩,h2⟩:=h;rw[dX];unfold wpList;rcases Sb hT g r h1 (ho x aH) (wpList P gS Q (us.map (·.1))) Q (λa' w' L' hr=>ih h2 (λy hy=>ho y (by simp[hy])) hr)with⟨p1,p2⟩|⟨p1,p2⟩
  .rw [aZ p1];exact .inl p2
  .rw [aY (by rw[p1];simp)];exact p2
def aiP(hT:lY P T)(hm:P.follows .mixedOrders=true){w0:World}{B:Nat->Prop}{a:Act}{w:World}{L:Lk}(g:Gd P K w0 B){id:Nat}{draw:Bool}{us:List (Oper×kp)}{τ:PS}{Q:Exit->Act->World->Prop}
 (h:wi P K T gS us σ τ) (hl:us.map (·.1)=gS.toList) (ho:∀ x,x ∈ us->∀ q,q ∈ x.2.jo->q) (hp:(!draw||DR gS 0 us)=true) (r:iS w0 B σ a w L)
 (hq:∀ a' w' L',iS w0 B τ a' w' L'->Q .normal a' w'):(Code.region id gS draw).wp P Q a w:=by
 cases draw with
 |false=>exact wp_region_list (by rw[<-hl];exact ajo hT g h ho r hq)
 |true=>
  obtain⟨R,r1,r2,r3⟩:=agn hl (by simpa using hp);refine wp_region_any hm (Zr hT g hq gS.size (Array.replicate gS.size false) R σ a w.drew L r2 aH r3 (λx hx=>ho x.2 ?_) (by rw[r1];exact h) r.drew);rw[<-r1];exact dg.2 ⟨x,hx,rfl⟩
def X8{c:Code}{t:Tr P K}{k:Ex->PS->Tr P K->R}(h:(Kd c σ t k).ok):Sp P K c σ (λe τ=>∃ t',(k e τ t').ok):=by
 unfold Kd at h;split at h
 .obtain ⟨h1,h2,h3⟩:=Yd h;exact Sp.pre h1 (h2.mono λe τ ⟨q1,q2⟩=>by subst q1 q2;exact⟨_,h3⟩)
 .exact h.elim
def Ex.ajq{a b:Ex}(h:Ex.pR a b=true):a=b:=by
 cases a<;>cases b<;>first|rfl|(cases h;done)|exact congrArg Ex.exit (kG.1 h)
def R5{e e':Ex}{τ υ:PS}{t:Tr P K}(h:(EP e τ e' υ t).ok):e'=e/\PS.le υ τ:=by
 unfold EP at h;split at h
 .rename_i he;exact⟨Ex.ajq he,(Yd h).1⟩
 .exact h.elim
def U5{c:Code}{cb:Nat}{g:PS->Tr P K->(Ex->PS->Tr P K->R)->R}(hg:∀ σ t k,(g σ t k).ok->Sp P K c σ (λe τ=>∃ t',(k e τ t').ok)){σ:PS}{t:Tr P K}{k:Ex->PS->Tr P K->R}(h:(jn cb g σ t k).ok):
 Sp P K c σ (λe τ=>∃ t',(k e τ t').ok):=by
 unfold jn at h;split at h
 .rename_i c' τ tj t;split at h
  .refine (hg _ _ _ h.1).post λe υ ⟨t',ht⟩=>?_
   obtain⟨he,hl⟩:=R5 ht;exact⟨τ,hl,t,by rw[he];exact h.2⟩
  .exact hg _ _ _ h
 .exact hg _ _ _ h
def sT(P:Program)(K:World->Prop)(b:Code)(σ:PS)(Q:Ex->PS->Prop):Prop:=
 ∀ (w0:World) (B:Nat->Prop) (a:Act) (w:World) (L:Lk),Gd P K w0 B->iS w0 B σ a w L->∀ bf k cs,
  ∃ e a' w',(∃ ex τ L',e=Ex.to ex/\Q ex τ/\iS w0 B τ a' w' L')/\Arrives P (lone (bf.at a (.code b :: .inLoop b::k)) cs w) bf k cs e a' w'
def sT.loop{b:Code}{σ:PS}{Q:Ex->PS->Prop}(h:sT P K b σ Q):Sp P K (.loop b) σ Q:=by
 intro w0 B a w L g r bf k cs;obtain⟨e,a',w',hq,s5⟩:=h w0 B a w L g r bf k cs;exact⟨e,a',w',hq,.of_steps (.one step_loop) s5⟩
def sT.pre{b:Code}{σ τ:PS}{Q:Ex->PS->Prop}(h:PS.le σ τ)(k:sT P K b τ Q):sT P K b σ Q:=λw0 B a w L g r=>
 let⟨L',r'⟩:=h w0 B a w L (λb hb=>(g.hB b hb).1) r;k w0 B a w L' g r'
def sT.step{b:Code}{σ:PS}{Q:Ex->PS->Prop}(h:Sp P K b σ (λe τ=>(e = .normal/\sT P K b τ Q)\/(e ≠ .normal/\Q e τ))):sT P K b σ Q:=by
 intro w0 B a w L g r bf k cs;obtain⟨e,a₁,w₁,⟨ex,υ,L2,rfl,hq,nk⟩,s5⟩:=h w0 B a w L g r bf (.inLoop b::k) cs;rcases hq with⟨rfl,hs⟩|⟨jf,hq⟩
 .obtain ⟨e₂,a₂,w₂,ML,Mk⟩:=hs w0 B a₁ w₁ L2 g nk bf k cs;exact⟨e₂,a₂,w₂,ML,.of_steps (Steps.trans s5 (.one step_inLoop)) Mk⟩
 .cases ex with
  |normal=>exact absurd rfl jf
  |exit i=>exact⟨_,a₁,w₁,⟨.exit i,υ,L2,rfl,hq,nk⟩,.pass (x:=.inLoop b) rfl (λ_ _=>.inl (by simp[Ex.to])) s5⟩
  |ret=>exact⟨_,a₁,w₁,⟨.ret,υ,L2,rfl,hq,nk⟩,.pass (x:=.inLoop b) rfl (λ_ _=>.inl (by simp[Ex.to])) s5⟩
def LD{id : Nat} : ∀ {k k' : List Item},exitTo id k=some k'->k'.length<=k.length
  | [],_,h => by simp[exitTo]at h
  |x::k,k',h => by
    cases x
    all_goals
      simp only[exitTo]at h
      first
        | (have := LD h;simp only[cM];omega)
        | (split at h
           . cases h;simp
           . have := LD h;simp only[cM];omega)
def Steps.KZ{m m1 m':Machine}(hs:step P m = .next m1)(jf:m≠m')(h:Steps P m m'):Steps P m1 m':=by
 obtain⟨n,hn⟩:=h;cases n with
 |zero=>simp only[runN,Stepped.next.injEq]at hn;exact absurd hn jf
 |succ n=>exact⟨n,by simpa only[runN,hs]using hn⟩
def sT.ahE{b:Code}{σ:PS}{Q:Ex->PS->Prop}(h:Sp P K (.loop b) σ Q):sT P K b σ Q:=by
 intro w0 B a w L g r bf k cs;obtain⟨e,a',w',⟨ex,τ,L',rfl,hq,hr⟩,s5⟩:=h w0 B a w L g r bf k cs;have todo:∀ (f g:Frame) (w w':World),lone f cs w=lone g cs w'->f.todo=g.todo:=λf g w w' e=>by
  have e1:=congrArg Machine.gs e;simp only[lone,Array.mk.injEq,List.cons.injEq,eX]at e1;injection e1 with e2;rw[e2]
 have ne:∀ (a₁:Act) (k₁:List Item) (w₁:World),k₁.length<=k.length->lone (bf.at a (.code (.loop b)::k)) cs w≠lone (bf.at a₁ k₁) cs w₁:=λa₁ k₁ w₁ hk e=>by
  have:=congrArg List.length (todo _ _ _ _ e);simp[Frame.at]at this;omega
 refine⟨_,a',w',⟨ex,τ,L',rfl,hq,hr⟩,?_⟩;cases ex with
 |normal=>exact Steps.KZ step_loop (ne _ _ _ (bc _)) s5
 |exit i=>exact λk' hk=>Steps.KZ step_loop (ne _ _ _ (LD hk)) (s5 k' hk)
 |ret=>
  obtain⟨td,hs⟩:=s5;refine⟨td,Steps.KZ step_loop (λe=>?_) hs⟩;have e1:=congrArg Machine.gs e;simp only[lone,Array.mk.injEq,List.cons.injEq,eX]at e1;injection e1 with e2;have e3:=congrArg Frame.mode e2;simp[Frame.at]at e3
def Lx(hT:lY P T)(hm:P.follows .mixedOrders=true){c:Code}{σ:PS}{t:Tr P K}{k:Ex->PS->Tr P K->R}(h:(vt T c σ t k).ok):Sp P K c σ (λe τ=>∃ t',(k e τ t').ok):=by
 induction c generalizing σ t k with
 |skip=>exact λw0 B a w L g r=>wp_skip ⟨.normal,_,L,rfl,⟨t,h⟩,r⟩
 |region id gS d=>
  obtain⟨vs,τ,t',h1,h2,h3,h4⟩:=ahW h;split at h4
  .rename_i hp;simp only[fE,List.reverse_reverse]at hp;exact λw0 B a w L g r=>aiP hT hm g h1 h2 h3 hp r λa' w' L' hr=>⟨.normal,τ,L',rfl,⟨t',h4⟩,hr⟩
  .exact h4.elim
 |seq x y M5 M6=>
  intro w0 B a w L g r;refine wp_seq (Code.wp_mono ?_ (M5 h w0 B a w L g r));rintro ex a' w' ⟨e1,τ1,L',rfl,⟨t',ht⟩,hr⟩;cases e1 with
  |normal=>exact M6 ht w0 B a' w' L' g hr
  |exit i=>exact⟨.exit i,τ1,L',rfl,⟨t',ht⟩,hr⟩
  |ret=>exact⟨.ret,τ1,L',rfl,⟨t',ht⟩,hr⟩
 |cond c x y M5 M6=>
  obtain⟨t1,τ,hle,h1⟩:=Cs h;refine Sp.pre hle (U5 (λσ t k h=>?_) h1);obtain⟨t1,τ,hle,h1⟩:=Cs h;refine Sp.pre hle ?_;split at h1
  .rename_i hc;intro w0 B a w L g r;have hv:=r.op c;rw[hc]at hv;exact wp_cond_true (ix.ku hv) (M5 h1 w0 B a w L g r)
  .rename_i hc;intro w0 B a w L g r;have hv:=r.op c;rw[hc]at hv;exact wp_cond_false (ix.ku hv) (M6 h1 w0 B a w L g r)
  .exact h1.elim
 |block id b ih=>
  obtain⟨t1,τ,hle,h1⟩:=Cs h;refine Sp.pre hle (U5 (λσ t k h=>?_) h1);intro w0 B a w L g r;refine wp_block (Code.wp_mono ?_ (ih h w0 B a w L g r));rintro ex a' w' ⟨e1,τ1,L',rfl,⟨t',ht⟩,hr⟩;cases e1 with
  |normal=>exact⟨.normal,_,L',rfl,⟨t',ht⟩,hr⟩
  |ret=>exact⟨.ret,_,L',rfl,⟨t',ht⟩,hr⟩
  |exit i=>
   simp only at ht;show Exit.inBlock id _ (.exit i) a' w';split at ht
   .rename_i hi;have hi:=kG.1 hi;subst hi;simp only[Exit.inBlock,bw];exact⟨.normal,_,L',rfl,⟨t',ht⟩,hr⟩
   .rename_i hi;have hi:i≠id:=λe=>hi (kG.2 e)
    simp only[Exit.inBlock,hi,bj];exact⟨.exit i,_,L',rfl,⟨t',ht⟩,hr⟩
 |label l=>exact λw0 B a w L g r=>wp_label ⟨.normal,_,L,rfl,⟨t,h⟩,r⟩
 |scope b ih=>
  intro w0 B a w L g r;refine wp_scope_straight (Code.wp_mono ?_ (ih h w0 B a w L g r));rintro ex a' w' ⟨e1,τ1,L',rfl,⟨t',ht⟩,hr⟩;cases e1 with
  |normal=>exact⟨.normal,τ1,L',rfl,⟨t',ht⟩,hr⟩
  |ret=>exact⟨.ret,τ1,L',rfl,⟨t',ht⟩,hr⟩
  |exit i=>exact⟨.exit i,τ1,L',rfl,⟨t',ht⟩,hr⟩
 |exit id=>
  obtain⟨t1,τ,hle,h1⟩:=Cs h;exact Sp.pre hle λw0 B a w L g r=>wp_exit ⟨.exit id,_,L,rfl,⟨t1,h1⟩,r⟩
 |ret=>
  obtain⟨t1,τ,hle,h1⟩:=Cs h;exact Sp.pre hle λw0 B a w L g r=>wp_ret ⟨.ret,_,L,rfl,⟨t1,h1⟩,r⟩
 |loop b ih=>
  obtain⟨t1,τ,hle,h1⟩:=Cs h;refine Sp.pre hle ?_;split at h1
  .rename_i n t;clear hle h;refine sT.loop ?_
   induction n generalizing τ t with
   |zero=>exact h1.elim
   |succ n ihn=>
    obtain⟨t2,τ2,hle,h1⟩:=Cs h1;split at h1
    .exact sT.pre hle (sT.ahE (X8 h1))
    refine sT.pre hle (sT.step ((ih h1).mono λe υ ⟨t',ht⟩=>?_));cases e with
    |normal=>exact .inl ⟨rfl,ihn _ _ ht⟩
    |exit i=>exact .inr ⟨aH,t',ht⟩
    |ret=>exact .inr ⟨aH,t',ht⟩
  .exact X8 h1
 |_=>exact h.elim
def Sp.tr(hT:lY P T)(hm:P.follows .mixedOrders=true){c:Code}{σ τ:PS}{e:Ex}(t:Tr P K)(h:vt T c σ t (EP e τ)=t.ex λt=>D4 τ t .nil):
 Sp P K c σ (λe' τ'=>e'=e/\τ'=τ):=by
 have hk:=Tr.LC (fin:=λt=>D4 τ t .nil) (λt=>O6 trivial) t;rw[<-h]at hk;refine(Lx hT hm hk).post λe' υ ⟨t',ht⟩=>?_
 obtain⟨he,hl⟩:=R5 ht;exact⟨τ,hl,he,rfl⟩
def Sv(T:List TI)(fn:Func)(jP:E)(e:Ex)(τ:PS)(_:Tr P K):R:=match e with
 | .exit _=>.iY
 |_=>match J0 T fn τ with
  |some r=>.a (E.le r jP) .nil
  |none=>.iY
def OB(T:List TI)(fn:Func)(nl:Bool)(args:List E)(jP:E)(t:Tr P K):R:=match fn.body with
 |some c=>if Nat.ble args.length fn.ntmps then vt T c (Aw fn nl args) t (Sv T fn jP)else .iY
 |none=>.iY
def PC.Pg(hT:lY P T)(hm:P.follows .mixedOrders=true)(hp:∀ w w',K w->Below w.heap.size w w'->K w'){f:FuncId}{fn:Func}{args:List E}{jP:E}(wE:∀ (vs:Array Value) (w:World),(callFunc f vs).run P w = .ok (.enter f vs) w)
 (hf:P.funcs[f]? = some fn) (nl:Bool) (t:Tr P K) (h:OB T fn nl args jP t=t.ex λ_=>.a (E.le jP jP) .nil):PC P K f args jP:=by
 have hk:=Tr.LC (fin:=λ_=>.a (E.le jP jP) .nil) (λt=>⟨E.le.refl jP,trivial⟩) t;rw[<-h]at hk;unfold OB at hk;split at hk
 .rename_i c hb;split at hk
  .rename_i hn;refine PC.NA hT hm hp wE hf hb (cE hn) nl ((Lx hT hm hk).mono λe τ ⟨t',ht⟩=>?_);unfold Sv at ht;split at ht
   .exact ht.elim
   .rename_i jf;split at ht
    .rename_i r hr;refine⟨?_,r,hr,ht.1⟩;cases e with
     |normal=>exact .inr rfl
     |ret=>exact .inl rfl
     |exit i=>exact absurd rfl (jf i)
    .exact ht.elim
  .exact hk.elim
 .exact hk.elim
def Su(fn:Func)(b:Bx)(e:Ex)(τ:PS)(_:Tr P K):R:=match e with
 | .exit _=>.iY
 |_=>match fn.results.toList with
  | [.tmp t]=>match τ.get t with
   | .own id=>match τ.bo id with
    |some c=>.a (Bx.le c b) .nil
    |none=>.iY
   |_=>.iY
  |_=>.iY
def Oz(T:List TI)(fn:Func)(args:List E)(b:Bx)(t:Tr P K):R:=match fn.body with
 |some c=>if Nat.ble args.length fn.ntmps then vt T c (Aw fn true args) t (Su fn b)else .iY
 |none=>.iY
def vh.Pg(hT:lY P T)(hm:P.follows .mixedOrders=true)(hp:∀ w w',K w->Below w.heap.size w w'->K w'){f:FuncId}{fn:Func}{args:List E}{nl:Bool}{T0:TypeId}{n sz:Nat}{el:Nat->Nat->E}(wE:∀ (vs:Array Value) (w:World),(callFunc f vs).run P w = .ok (.enter f vs) w)
 (hf:P.funcs[f]? = some fn) (t:Tr P K) (h:Oz T fn args (.row nl T0 n sz el) t=t.ex λ_=>.a (Bx.le (.row nl T0 n sz el) (.row nl T0 n sz el)) .nil):vh P K f args nl T0 n sz el:=by
 have hk:=Tr.LC (fin:=λ_=>.a (Bx.le (.row nl T0 n sz el) (.row nl T0 n sz el)) .nil) (λt=>⟨Bx.le.refl _,trivial⟩) t;rw[<-h]at hk;unfold Oz at hk;split at hk
 .rename_i c hb;split at hk
  .rename_i hn;refine vh.NA hT hm hp wE hf hb (cE hn) true ((Lx hT hm hk).mono λe τ ⟨t',ht⟩=>?_);unfold Su at ht;split at ht
   .exact ht.elim
   .rename_i jf;split at ht
    .rename_i t0 hr;split at ht
     .rename_i id hg;split at ht
      .rename_i c' hc;refine⟨?_,t0,id,c',hr,hg,hc,λbs br L w hk=>ht.1.2 _ _ _ _ _ hk⟩;cases e with
       |normal=>exact .inr rfl
       |ret=>exact .inl rfl
       |exit i=>exact absurd rfl (jf i)
      .exact ht.elim
     .exact ht.elim
    .exact ht.elim
  .exact hk.elim
 .exact hk.elim
def Sp.jE{b:Code}{e:Ex}{τ:PS}(f:Nat->PS)(lo hi:Nat)(h0:lo<=hi)(go:∀ x,(lo<=x/\x<=hi)->x<hi->Sp P K b (f x) (λe' υ=>e' = .normal/\υ=f (x+1)))
 (out:(lo<=hi/\hi<=hi)->Sp P K b (f hi) (λe' υ=>e'=e/\υ=τ)) (he:e ≠ .normal):Sp P K (.loop b) (f lo) (λe' υ=>e'=e/\υ=τ):=by
 refine Sp.fam f (λx=>lo<=x/\x<=hi) (λx=>hi-x) (λx hx=>?_) lo ⟨bc _,h0⟩ (PS.le.refl _);rcases Nat.lt_or_eq_of_le hx.2 with im|heq
 .exact Sp.adE (x+1) (go x hx im) ⟨aC,aC⟩ aC (PS.le.refl _)
 .subst heq;exact Sp.adF (out hx) he (PS.le.refl _)
def ij(z:Int)(h:-9223372036854775808<=z/\z<=9223372036854775807):Tr P K->Tr P K:=.a (p:=kP .i64 z) h
def CA(z:Int)(h:0<=z/\z<=18446744073709551615):Tr P K->Tr P K:=.a (p:=kP .u64 z) h
def iX(z:Int)(n:Nat)(h:0<=z/\z<n):Tr P K->Tr P K:=.a h
def tB(d:Nat){a b:Bool}(h:a=b):Tr P K->Tr P K:=.o d (PV.le.bool h)
def ah(d:Nat)(a:Bool)(h:a=true):Tr P K->Tr P K:=tB d h
def ai(d:Nat)(a:Bool)(h:a=false):Tr P K->Tr P K:=tB d h
def tT(d:Nat)(p:Prop)[Decidable p](h:p):Tr P K->Tr P K:=.o d (PV.le.bool (a6 h))
def tF(d:Nat)(p:Prop)[Decidable p](h:¬p):Tr P K->Tr P K:=.o d (PV.le.bool (a7 h))
def rQ(p q:E)(h:p=q):Tr P K:=.r (E.le.iL h)
def rR(q:E){p:E}(h:E.le p q):Tr P K:=.r h
def ae(l:List (Tr P K->Tr P K))(t:Tr P K):Tr P K:=l.foldr (λf t=>f t) t
def af(l:List (Tr P K->Tr P K)):Tr P K:=ae l .nil
end
end Go.Proofs.YtkdddbdjilcofaaGreatDoor.Pu
namespace Go.Proofs.YtkdddbdjilcofaaGreatDoor
open Go.RowKit Fp Pu
def tr(nl:Bool){f:FuncId}{fn:Func}{args:List E}{jP:E}(wE:∀ (vs:Array Value) (w:World),(callFunc f vs).run prog w = .ok (.enter f vs) w)
 (hf:prog.funcs[f]? = some fn) (t:Tr prog Tb) (h:OB TT fn nl args jP t=t.ex λ_=>.a (E.le jP jP) .nil):gQ f args jP:=
 PC.Pg KO mixed PL wE hf nl t h
def ag(args:List E){f:FuncId}{ko:E}(h:gQ f args ko):Tr prog Tb->Tr prog Tb:=.c h
def ak{f:FuncId}{fn:Func}{args:List E}{jP:E}(wE:∀ (vs:Array Value) (w:World),(callFunc f vs).run prog w = .ok (.enter f vs) w)
 (hf:prog.funcs[f]? = some fn) (t:Tr prog Tb) (h:OB TT fn true args jP t=t.ex λ_=>.a (E.le jP jP) .nil:=by kernel_rfl):gQ f args jP:=tr true wE hf t h
def an{f:FuncId}{fn:Func}{args:List E}{jP:E}(wE:∀ (vs:Array Value) (w:World),(callFunc f vs).run prog w = .ok (.enter f vs) w)
 (hf:prog.funcs[f]? = some fn) (t:Tr prog Tb) (h:OB TT fn false args jP t=t.ex λ_=>.a (E.le jP jP) .nil:=by kernel_rfl):gQ f args jP:=tr false wE hf t h
def iA{c:Code}{σ τ:PS}{e:Ex}(t:Tr prog Tb)(h:vt TT c σ t (EP e τ)=t.ex λt=>D4 τ t .nil):
 Sp prog Tb c σ (λe' τ'=>e'=e/\τ'=τ):=Sp.tr KO mixed t h
abbrev jB(k:Nat)(fn:Func)(σ:PS)(e:Ex)(τ:PS):Prop:=Sp prog Tb (.loop (aat k fn)) σ (λe' τ'=>e'=e/\τ'=τ)
def UG(nl:Bool)(n N:Nat)(el:Nat->Nat->E)(g:FuncId)(cap:List E)(i:Nat):PS:=⟨19,false,[(8,.e (iP i)),(7,.e (iP n)),(0,.e (.sl nl n 1 el)),(1,.e (.fn g cap))],[]⟩
def UF(nl:Bool)(n:Nat)(el:Nat->Nat->E)(g:FuncId)(cap:List E)(i:Nat):PS:=⟨19,false,[(8,.e (iP i)),(7,.e (iP n)),(0,.e (.sl nl n 1 el)),(1,.e (.fn g cap))],[]⟩
def Vh(nl:Bool)(n:Nat)(el:Nat->Nat->E)(g:FuncId)(cap:List E)(i:Nat):PS:=⟨19,false,[(8,.e (iP i)),(7,.e (iP n)),(0,.e (.sl nl n 1 el)),(1,.e (.fn g cap))],[]⟩
def US(nl:Bool)(n N:Nat)(el:Nat->Nat->E)(g:FuncId)(cap:List E)(i:Nat):PS:=⟨19,false,[(8,.e (iP i)),(7,.e (iP n)),(0,.e (.sl nl n 7 el)),(1,.e (.fn g cap))],[]⟩
def UR(nl:Bool)(n:Nat)(el:Nat->Nat->E)(g:FuncId)(cap:List E)(i:Nat):PS:=⟨19,false,[(8,.e (iP i)),(7,.e (iP n)),(0,.e (.sl nl n 7 el)),(1,.e (.fn g cap))],[]⟩
def Xd(nl:Bool)(n:Nat)(el:Nat->Nat->E)(g:FuncId)(cap:List E)(i:Nat):PS:=⟨19,false,[(8,.e (iP i)),(7,.e (iP n)),(0,.e (.sl nl n 1 el)),(1,.e (.fn g cap))],[]⟩
def sG{p:Nat->Bool}{n:Nat}(h:∃ i,i<n/\p i=true):∃ N,N<n/\p N=true/\∀ i,i<N->p i=false:=by
 induction n with
 |zero=>obtain⟨i,h1,_⟩:=h;omega
 |succ n ih=>
  by_cases hn:∃ i,i<n/\p i=true
  .obtain ⟨N,h1,h2,h3⟩:=ih hn;exact⟨N,aC,h2,h3⟩
  .obtain ⟨i,h1,h2⟩:=h;have:i=n:=by
    by_cases q:i=n
    .exact q
    .exact absurd ⟨i,aC,h2⟩ hn
   subst this;exact⟨i,h1,h2,λj hj=>by simpa using λq=>hn ⟨j,hj,q⟩⟩
def afH(nl:Bool)(n:Nat)(el:Nat->Nat->E)(g:FuncId)(cap:List E)(p:Nat->Bool)(hp:∀ i,i<n->gQ g ((el i 0)::cap) (bP (p i)))(N:Nat)(hl:n<=1000000)(pN:N<n)(jG:∀ i,i<N->p i=false)(hN:p N=true):gQ 111 [.sl nl n 1 el,.fn g cap] (iP N):=
 an call111 func111 (af [.s (Sp.jE (UG nl n N el g cap) 0 N aC (λi hi oM=>by
    exact iA (af [tT 9 ((i:Int)<n) aC,iX (i:Int) n aC,.c (hp i aC:gQ g ((el i 0)::cap) _),ai 16 (p i) (jG i aC),ij ((i:Int)+1) aC]) aF)
  (λhi=>by
    exact iA (af [tT 9 ((N:Int)<n) aC,iX (N:Int) n aC,.c (hp N aC:gQ g ((el N 0)::cap) _),ah 16 (p N) hN]) aF) aI:jB 2 f111 (UG nl n N el g cap 0) .ret ⟨19,false,[(4,.e (iP N))],[]⟩) .nil]) 
def afJ(nl:Bool)(n:Nat)(el:Nat->Nat->E)(g:FuncId)(cap:List E)(p:Nat->Bool)(hp:∀ i,i<n->gQ g ((el i 0)::cap) (bP (p i)))(hl:n<=1000000)(jG:∀ i,i<n->p i=false):gQ 111 [.sl nl n 1 el,.fn g cap] (iP (-1)):=
 an call111 func111 (af [.s (Sp.jE (UF nl n el g cap) 0 n aC (λi hi oM=>by
    exact iA (af [tT 9 ((i:Int)<n) aC,iX (i:Int) n aC,.c (hp i aC:gQ g ((el i 0)::cap) _),ai 16 (p i) (jG i aC),ij ((i:Int)+1) aC]) aF)
  (λhi=>by
    exact iA (af [tF 9 ((n:Int)<n) aC]) aF) aI:jB 2 f111 (UF nl n el g cap 0) (.exit 0) ⟨19,false,[],[]⟩) .nil]) 
def afI(nl:Bool)(n:Nat)(el:Nat->Nat->E)(g:FuncId)(cap:List E)(p:Nat->Bool)(hp:∀ i,i<n->gQ g ((el i 0)::cap) (bP (p i)))(N:Nat)(hl:n<=1000000)(pN:N<n)(jG:∀ i,i<N->p i=false)(hN:p N=true):gQ 60 [.sl nl n 1 el,.fn g cap] (bP true):=
 an call60 func60 (af [ag [.sl nl n 1 el,.fn g cap] (afH nl n el g cap p hp N hl pN jG hN),tT 8 (0<=(N:Int)) aC]) 
def Nb(nl:Bool)(n:Nat)(el:Nat->Nat->E)(g:FuncId)(cap:List E)(p:Nat->Bool)(hp:∀ i,i<n->gQ g ((el i 0)::cap) (bP (p i)))(hl:n<=1000000)(jG:∀ i,i<n->p i=false):gQ 60 [.sl nl n 1 el,.fn g cap] (bP false):=
 an call60 func60 (af [ag [.sl nl n 1 el,.fn g cap] (afJ nl n el g cap p hp hl jG),ai 8 (decide ((0:Int)<=(-1))) aE]) 
def afG(nl:Bool)(n:Nat)(el:Nat->Nat->E)(g:FuncId)(cap:List E)(p:Nat->Bool)(hp:∀ i,i<n->gQ g ((el i 0)::cap) (bP (p i)))(hl:n<=1000000):gQ 60 [.sl nl n 1 el,.fn g cap] (bP ((List.range n).any p)):=by
 by_cases h:∃ i,i<n/\p i=true
 .obtain ⟨N,h1,h2,h3⟩:∃ N,N<n/\p N=true/\∀ i,i<N->p i=false:=sG h;refine(afI nl n el g cap p hp N hl h1 h3 h2).jP (.iL ?_);rw[dJ.2 ⟨N,bW.2 h1,h2⟩]
 .refine (Nb nl n el g cap p hp hl λi hi=>by simpa using λq=>h ⟨i,hi,q⟩).jP (.iL ?_);rw[cW.2 λi hi q=>h ⟨i,bW.1 hi,q⟩]
def agx(nl:Bool)(n:Nat)(el:Nat->Nat->E)(g:FuncId)(cap:List E)(p:Nat->Bool)(hp:∀ i,i<n->gQ g ((el i 0)::cap) (bP (p i)))(hl:n<=1000000)(jG:∀ i,i<n->p i=false):gQ 176 [.sl nl n 1 el,.fn g cap] (iP (-1)):=
 an call176 func176 (af [.s (Sp.jE (Vh nl n el g cap) 0 n aC (λi hi oM=>by
    exact iA (af [tT 9 ((i:Int)<n) aC,iX (i:Int) n aC,.c (hp i aC:gQ g ((el i 0)::cap) _),ai 16 (p i) (jG i aC),ij ((i:Int)+1) aC]) aF)
  (λhi=>by
    exact iA (af [tF 9 ((n:Int)<n) aC]) aF) aI:jB 2 f176 (Vh nl n el g cap 0) (.exit 0) ⟨19,false,[],[]⟩) .nil]) 
def Vj(nl:Bool)(n:Nat)(el:Nat->Nat->E)(g:FuncId)(cap:List E)(p:Nat->Bool)(hp:∀ i,i<n->gQ g ((el i 0)::cap) (bP (p i)))(hl:n<=1000000)(jG:∀ i,i<n->p i=false):gQ 143 [.sl nl n 1 el,.fn g cap] (bP false):=
 an call143 func143 (af [ag [.sl nl n 1 el,.fn g cap] (agx nl n el g cap p hp hl jG),ai 8 (decide ((0:Int)<=(-1))) aE]) 
def af1(nl:Bool)(n:Nat)(el:Nat->Nat->E)(g:FuncId)(cap:List E)(p:Nat->Bool)(hp:∀ i,i<n->gQ g ((.agg [el i 0,el i 1,el i 2,el i 3,el i 4,el i 5,el i 6])::cap) (bP (p i)))(N:Nat)(hl:n<=1000000)(pN:N<n)(jG:∀ i,i<N->p i=false)(hN:p N=true):gQ 58 [.sl nl n 7 el,.fn g cap] (iP N):=
 an call58 func58 (af [.s (Sp.jE (US nl n N el g cap) 0 N aC (λi hi oM=>by
    exact iA (af [tT 9 ((i:Int)<n) aC,iX (i:Int) n aC,.c (hp i aC:gQ g ((.agg [el i 0,el i 1,el i 2,el i 3,el i 4,el i 5,el i 6])::cap) _),ai 16 (p i) (jG i aC),ij ((i:Int)+1) aC]) aF)
  (λhi=>by
    exact iA (af [tT 9 ((N:Int)<n) aC,iX (N:Int) n aC,.c (hp N aC:gQ g ((.agg [el N 0,el N 1,el N 2,el N 3,el N 4,el N 5,el N 6])::cap) _),ah 16 (p N) hN]) aF) aI:jB 2 Tryz.f58 (US nl n N el g cap 0) .ret ⟨19,false,[(4,.e (iP N))],[]⟩) .nil]) 
def af3(nl:Bool)(n:Nat)(el:Nat->Nat->E)(g:FuncId)(cap:List E)(p:Nat->Bool)(hp:∀ i,i<n->gQ g ((.agg [el i 0,el i 1,el i 2,el i 3,el i 4,el i 5,el i 6])::cap) (bP (p i)))(hl:n<=1000000)(jG:∀ i,i<n->p i=false):gQ 58 [.sl nl n 7 el,.fn g cap] (iP (-1)):=
 an call58 func58 (af [.s (Sp.jE (UR nl n el g cap) 0 n aC (λi hi oM=>by
    exact iA (af [tT 9 ((i:Int)<n) aC,iX (i:Int) n aC,.c (hp i aC:gQ g ((.agg [el i 0,el i 1,el i 2,el i 3,el i 4,el i 5,el i 6])::cap) _),ai 16 (p i) (jG i aC),ij ((i:Int)+1) aC]) aF)
  (λhi=>by
    exact iA (af [tF 9 ((n:Int)<n) aC]) aF) aI:jB 2 Tryz.f58 (UR nl n el g cap 0) (.exit 0) ⟨19,false,[],[]⟩) .nil]) 
def af2(nl:Bool)(n:Nat)(el:Nat->Nat->E)(g:FuncId)(cap:List E)(p:Nat->Bool)(hp:∀ i,i<n->gQ g ((.agg [el i 0,el i 1,el i 2,el i 3,el i 4,el i 5,el i 6])::cap) (bP (p i)))(N:Nat)(hl:n<=1000000)(pN:N<n)(jG:∀ i,i<N->p i=false)(hN:p N=true):gQ 22 [.sl nl n 7 el,.fn g cap] (bP true):=
 an call22 func22 (af [ag [.sl nl n 7 el,.fn g cap] (af1 nl n el g cap p hp N hl pN jG hN),tT 8 (0<=(N:Int)) aC]) 
def Cb(nl:Bool)(n:Nat)(el:Nat->Nat->E)(g:FuncId)(cap:List E)(p:Nat->Bool)(hp:∀ i,i<n->gQ g ((.agg [el i 0,el i 1,el i 2,el i 3,el i 4,el i 5,el i 6])::cap) (bP (p i)))(hl:n<=1000000)(jG:∀ i,i<n->p i=false):gQ 22 [.sl nl n 7 el,.fn g cap] (bP false):=
 an call22 func22 (af [ag [.sl nl n 7 el,.fn g cap] (af3 nl n el g cap p hp hl jG),ai 8 (decide ((0:Int)<=(-1))) aE]) 
def Ni(nl:Bool)(n:Nat)(el:Nat->Nat->E)(g:FuncId)(cap:List E)(p:Nat->Bool)(hp:∀ i,i<n->gQ g ((.agg [el i 0,el i 1,el i 2,el i 3,el i 4,el i 5,el i 6])::cap) (bP (p i)))(hl:n<=1000000):gQ 22 [.sl nl n 7 el,.fn g cap] (bP ((List.range n).any p)):=by
 by_cases h:∃ i,i<n/\p i=true
 .obtain ⟨N,h1,h2,h3⟩:∃ N,N<n/\p N=true/\∀ i,i<N->p i=false:=sG h;refine(af2 nl n el g cap p hp N hl h1 h3 h2).jP (.iL ?_);rw[dJ.2 ⟨N,bW.2 h1,h2⟩]
 .refine (Cb nl n el g cap p hp hl λi hi=>by simpa using λq=>h ⟨i,hi,q⟩).jP (.iL ?_);rw[cW.2 λi hi q=>h ⟨i,bW.1 hi,q⟩]
def aje(nl:Bool)(n:Nat)(el:Nat->Nat->E)(g:FuncId)(cap:List E)(p:Nat->Bool)(hp:∀ i,i<n->gQ g ((el i 0)::cap) (bP (p i)))(hl:n<=1000000)(jG:∀ i,i<n->p i=false):gQ 222 [.sl nl n 1 el,.fn g cap] (iP (-1)):=
 an call222 func222 (af [.s (Sp.jE (Xd nl n el g cap) 0 n aC (λi hi oM=>by
    exact iA (af [tT 9 ((i:Int)<n) aC,iX (i:Int) n aC,.c (hp i aC:gQ g ((el i 0)::cap) _),ai 16 (p i) (jG i aC),ij ((i:Int)+1) aC]) aF)
  (λhi=>by
    exact iA (af [tF 9 ((n:Int)<n) aC]) aF) aI:jB 2 f222 (Xd nl n el g cap 0) (.exit 0) ⟨19,false,[],[]⟩) .nil]) 
def ajc(nl:Bool)(n:Nat)(el:Nat->Nat->E)(g:FuncId)(cap:List E)(p:Nat->Bool)(hp:∀ i,i<n->gQ g ((el i 0)::cap) (bP (p i)))(hl:n<=1000000)(jG:∀ i,i<n->p i=false):gQ 184 [.sl nl n 1 el,.fn g cap] (bP false):=
 an call184 func184 (af [ag [.sl nl n 1 el,.fn g cap] (aje nl n el g cap p hp hl jG),ai 8 (decide ((0:Int)<=(-1))) aE]) 
def VO(a b:List Nat)(x:Nat):PS:=⟨67,false,[(20,.e (iP x)),(19,.e (iP a.length)),(18,.e (gV a)),(5,.own 17),(1,.e (gV b))],[(17,.row false 96 (a.length+b.length) 1 (pG (kZ a b x)))]⟩
def VP(a b:List Nat)(x:Nat)(k:Nat):PS:=⟨67,false,[(27,.e (iP k)),(26,.e (iP b.length)),(25,.e (gV b)),(8,.e (.v (.int .u64 (((mU (a.getD x 0) x b (kZ a b x) k).2:Nat):Int)))),(7,.e (.v (.int .u32 (a.getD x 0:Int)))),(6,.e (iP x)),(20,.e (iP x)),(19,.e (iP a.length)),(18,.e (gV a)),(5,.own 17),(1,.e (gV b))],[(17,.row false 96 (a.length+b.length) 1 (pG ((mU (a.getD x 0) x b (kZ a b x) k).1)))]⟩
def ahh(a b:List Nat)(ha:iD a)(hb:iD b)(h1:a.length<=3000)(h2:b.length<=3000):gQ 158 [gV a,gV b] (gV (kZ a b a.length)):=
 an call158 func158 (ae [ij ((a.length:Int)+b.length) aC,.a (aC:0<=(((a.length:Int)+b.length):Int)/\(((a.length:Int)+b.length):Int)<=(((a.length:Int)+b.length):Int)),.a (aC:((4:Nat):Int)*((a.length:Int)+b.length)<=281474976710656/\(((a.length:Int)+b.length):Int)<=9223372036854775807),.s (Sp.jE (VO a b) 0 a.length aC (λx hx mn=>by
    have f1:=ha.getD x;have so:=FY ha hb x aC;have g1:=so.len;have g2:=(FW f1 hb so.ok (i:=x) aC b.length aC).len;have g3:=(FW f1 hb so.ok (i:=x) aC b.length aC).lt;exact iA (ae [tT 21 ((x:Int)<a.length) aC,iX (x:Int) (a.length) aC,.s (Sp.jE (VP a b x) 0 b.length aC (λk hk I0=>by
    have f2:=hb.getD k;have q:=FW f1 hb so.ok (i:=x) aC k aC;have f3:=q.ok.getD (x+k);have f4:=q.lt;have f5:=q.len;have f6:=VS f1 f2;exact iA (ae [tT 28 ((k:Int)<b.length) aC,iX (k:Int) (b.length) aC,.o 33 (.int (sd _ aC):aj (.v (.int .u64 (IntKind.u64.wrap (a.getD x 0:Int)))) (.v (.int .u64 (a.getD x 0:Int)))),.o 35 (.int (sd _ aC):aj (.v (.int .u64 (IntKind.u64.wrap (b.getD k 0:Int)))) (.v (.int .u64 (b.getD k 0:Int)))),
     CA ((a.getD x 0:Int)*(b.getD k 0:Int)) aC,ij ((x:Int)+k) aC,iX ((x+k:Nat):Int) (a.length+b.length) aC,.a (aC:(x+k)<(a.length+b.length)),.o 43 (.int (sd _ aC):aj (.v (.int .u64 (IntKind.u64.wrap ((((mU (a.getD x 0) x b (kZ a b x) k).1).getD (x+k) 0:Nat):Int)))) (.v (.int .u64 ((((mU (a.getD x 0) x b (kZ a b x) k).1).getD (x+k) 0:Nat):Int)))),
     CA ((((a.getD x 0)*(b.getD k 0):Nat):Int)+((((mU (a.getD x 0) x b (kZ a b x) k).1).getD (x+k) 0:Nat):Int)) aC,
     CA (((((a.getD x 0)*(b.getD k 0))+(((mU (a.getD x 0) x b (kZ a b x) k).1).getD (x+k) 0):Nat):Int)+(((mU (a.getD x 0) x b (kZ a b x) k).2:Nat):Int)) aC,
     ij ((x:Int)+k) aC,.o 52 (.int (Ea _):aj (.v (.int .u32 (IntKind.u32.wrap (((((a.getD x 0)*(b.getD k 0))+(((mU (a.getD x 0) x b (kZ a b x) k).1).getD (x+k) 0))+(mU (a.getD x 0) x b (kZ a b x) k).2:Nat):Int)))) (.v (.int .u32 ((((((a.getD x 0)*(b.getD k 0))+(((mU (a.getD x 0) x b (kZ a b x) k).1).getD (x+k) 0))+(mU (a.getD x 0) x b (kZ a b x) k).2)%4294967296:Nat):Int)))),.a (aC:0<=(32:Int)/\(32:Int)<=((64:Nat):Int)),.o 54 (.int (XZ _):aj (.v (.int .u64 ((((((a.getD x 0)*(b.getD k 0))+(((mU (a.getD x 0) x b (kZ a b x) k).1).getD (x+k) 0))+(mU (a.getD x 0) x b (kZ a b x) k).2:Nat):Int)/2^32))) (.v (.int .u64 ((((((a.getD x 0)*(b.getD k 0))+(((mU (a.getD x 0) x b (kZ a b x) k).1).getD (x+k) 0))+(mU (a.getD x 0) x b (kZ a b x) k).2)/4294967296:Nat):Int)))),
     iX ((x+k:Nat):Int) (a.length+b.length) aC,.a (aC:(x+k)<(a.length+b.length)),ij ((k:Int)+1) aC]<|.e (af [.o 8 (.int aO:aj (.v (.int .u64 ((((((a.getD x 0)*(b.getD k 0))+(((mU (a.getD x 0) x b (kZ a b x) k).1).getD (x+k) 0))+(mU (a.getD x 0) x b (kZ a b x) k).2)/4294967296:Nat):Int))) (.v (.int .u64 (((mU (a.getD x 0) x b (kZ a b x) (k+1)).2:Nat):Int)))),.b 17 (ON rfl aC:Bx.le (.row false 96 (a.length+b.length) 1 (λi' j'=>if i'=(x+k)/\0<=j'/\j'<0+1 then[.v (.int .u32 ((((((a.getD x 0)*(b.getD k 0))+(((mU (a.getD x 0) x b (kZ a b x) k).1).getD (x+k) 0))+(mU (a.getD x 0) x b (kZ a b x) k).2)%4294967296:Nat):Int))].getD (j'-0) .any else(pG ((mU (a.getD x 0) x b (kZ a b x) k).1)) i' j')) (.row false 96 (a.length+b.length) 1 (pG ((mU (a.getD x 0) x b (kZ a b x) (k+1)).1))))])) aF)
  (λhk=>by
    exact iA (af [tF 28 ((b.length:Int)<b.length) aC]) aF) aI:jB 7 f158 (VP a b x 0) (.exit 2) ⟨67,false,[(8,.e (.v (.int .u64 (((mU (a.getD x 0) x b (kZ a b x) b.length).2:Nat):Int)))),(6,.e (iP x)),(20,.e (iP x)),(19,.e (iP a.length)),(18,.e (gV a)),(5,.own 17),(1,.e (gV b))],[(17,.row false 96 (a.length+b.length) 1 (pG ((mU (a.getD x 0) x b (kZ a b x) b.length).1)))]⟩) (af [.o 8 (.int aO:aj (.v (.int .u64 0)) (.v (.int .u64 (((mU (a.getD x 0) x b (kZ a b x) 0).2:Nat):Int)))),.b 17 (.iL rfl:Bx.le (.row false 96 (a.length+b.length) 1 (pG (kZ a b x))) (.row false 96 (a.length+b.length) 1 (pG ((mU (a.getD x 0) x b (kZ a b x) 0).1))))]),
     ij ((x:Int)+b.length) aC,.o 63 (.int (Ea _):aj (.v (.int .u32 (IntKind.u32.wrap (((mU (a.getD x 0) x b (kZ a b x) b.length).2:Nat):Int)))) (.v (.int .u32 (((mU (a.getD x 0) x b (kZ a b x) b.length).2%4294967296:Nat):Int)))),
     iX ((x+b.length:Nat):Int) (a.length+b.length) aC,.a (aC:(x+b.length)<(a.length+b.length)),ij ((x:Int)+1) aC]<|.e (af [.b 17 (ON rfl aC:Bx.le (.row false 96 (a.length+b.length) 1 (λi' j'=>if i'=(x+b.length)/\0<=j'/\j'<0+1 then[.v (.int .u32 (((mU (a.getD x 0) x b (kZ a b x) b.length).2%4294967296:Nat):Int))].getD (j'-0) .any else(pG ((mU (a.getD x 0) x b (kZ a b x) b.length).1)) i' j')) (.row false 96 (a.length+b.length) 1 (pG (kZ a b (x+1)))))])) aF)
  (λhx=>by
    exact iA (af [tF 21 ((a.length:Int)<a.length) aC]) aF) aI:jB 3 f158 (VO a b 0) (.exit 0) ⟨67,false,[(5,.own 17)],[(17,.row false 96 (a.length+b.length) 1 (pG (kZ a b a.length)))]⟩) (af [.b 17 (Xe rfl (λi=>by simp[kZ,bd,eE];split<;>rfl):Bx.le (.row false 96 (a.length+b.length) 1 (λ_ j_=>[.v (.int .u32 0)].getD j_ .any)) (.row false 96 (a.length+b.length) 1 (pG (kZ a b 0))))])]<|rR (gV (kZ a b a.length)) (X6 (by rw[(FY ha hb a.length aC).len]):E.le (.sl false (a.length+b.length) 1 (pG (kZ a b a.length))) (gV (kZ a b a.length)))) 
def NO(L:List Nat)(h:L.length<=256):gQ 144 [gV L] (bP false):=
 ak call144 func144 (af [tF 5 (256<(L.length:Int)) aC]) 
def ahg(L:List Nat)(h1:L.length<=256):gQ 93 [(.sl true 1 1 λi_ j_=>[gV L].getD (i_*1+j_) (.v (.bool false)))] (bP false):=
 ak call93 func93 (af [.c (Vj true 1 _ 144 [] (λ_=>false) (λi hi=>(match i,hi with|0,_=>NO _ h1|n+1,hi=>absurd hi aC)) aC (λ_ _=>rfl):gQ 143 [(.sl true 1 1 λi_ j_=>[gV L].getD (i_*1+j_) (.v (.bool false))),.fn 144 []] _)]) 
def V7(L:List Nat)(M:List Nat)(h1:L.length<=256)(h2:M.length<=256):gQ 93 [(.sl true 2 1 λi_ j_=>[gV L,gV M].getD (i_*1+j_) (.v (.bool false)))] (bP false):=
 ak call93 func93 (af [.c (Vj true 2 _ 144 [] (λ_=>false) (λi hi=>(match i,hi with|0,_=>NO _ h1|1,_=>NO _ h2|n+2,hi=>absurd hi aC)) aC (λ_ _=>rfl):gQ 143 [(.sl true 2 1 λi_ j_=>[gV L,gV M].getD (i_*1+j_) (.v (.bool false))),.fn 144 []] _)]) 
def ahi(L M:List Nat)(hL:iD L)(hM:iD M)(h1:L.length<=256)(h2:M.length<=256)(hf:(gR (val L*val M)).length<=256):gQ 115 [gV L,gV M] (.ie [gV (gR (val L*val M)),iP 0]):=by
 have ka:=hL.iz;have kb:=hM.iz;have ta:=pj L;have tb:=pj M;unfold mr at ta tb;have km:=(FY ka kb _ (bc _)).ok;have he:iz (kZ (iz L) (iz M) (iz L).length)=gR (val L*val M):=by rw[sc km,alb ka kb,pJ,pJ]
 have hd:(iz (kZ (iz L) (iz M) (iz L).length)).length<=256:=by rw[he];exact hf
 exact ak call115 func115 (ae [.c (V7 L M aD aD),ag [gV L] (ua _ hL),ag [gV M] (ua _ hM),ag [gV (iz L),gV (iz M)] (ahh _ _ ka kb aC aC),ag [gV (kZ (iz L) (iz M) (iz L).length)] (V6 _ km hd)]<|rQ (.ie [gV (iz (kZ (iz L) (iz M) (iz L).length)),iP 0]) (.ie [gV (gR (val L*val M)),iP 0]) (by rw[he])) 
def xK(m n:Nat)(h1:(gR m).length<=256)(h2:(gR n).length<=256)(hf:(gR (m*n)).length<=256):gQ 115 [gV (gR m),gV (gR n)] (.ie [gV (gR (m*n)),iP 0]):=by
 have:=ahi (gR m) (gR n) (mB m) (mB n) h1 h2 (by rw[jY,jY];exact hf);rwa[jY,jY]at this
def vX(m n:Nat)(h1:(gR m).length<=256)(h2:n<=65536)(h3:(gR (m*2^n)).length<=256):gQ 213 [gV (gR m),iP n] (gV (gR (m*2^n))):=
 ak call213 func213 (af [ag [gV (gR m),iP n] (V9 _ _ aC aC aC)]) 
def Oy(m n:Nat)(h1:(gR m).length<=256)(h2:n<=65536):gQ 247 [gV (gR m),iP n] (.ie [gV (gR (m/2^n)),bP (decide (m%2^n≠0))]):=by
 have hb:=Eu h1;have hq:(gR (m/2^n)).length<=256:=pd (by have:=wm (bT m (2^n));omega);have wM:(gR (m/2^n*2^n)).length<=256:=pd (by have:=wm (cU m (2^n));omega);have hr:(gR (m/2^gZ m)).length<=256:=pd (by have:=wm (bT m (2^gZ m));omega);have nk:(gR (m/2^gZ m*2^gZ m)).length<=256:=pd (by have:=wm (cU m (2^gZ m));omega);by_cases hn:gZ m<n
 .have q1:=RE (dt hn);have q2:=RE (bc (gZ m));exact ak call247 func247 (ae [ag [gV (gR m)] (r8 _ aC),tT 11 ((gZ m:Int)<n) aC,ag [gV (gR m)] (r8 _ aC),ag [gV (gR m),iP (gZ m:Int)] (JC _ _ aC aC),.c (vX (m/2^(gZ m)) (gZ m) aC aC aC),ag [gV (gR ((m/2^(gZ m))*2^(gZ m))),gV (gR m)] (yX _ _ aC aC)]<|rQ (.ie [gV (gR (m/2^(gZ m))),bP ((kq ((m/2^(gZ m))*2^(gZ m)) m) != 0)]) (.ie [gV (gR (m/2^n)),bP (decide (m%2^n≠0))]) (by rw[Vt,q1.1,q1.2,q2.1,q2.2])) 
 .exact ak call247 func247 (ae [ag [gV (gR m)] (r8 _ aC),tF 11 ((gZ m:Int)<n) aC,ag [gV (gR m),iP n] (JC _ _ aC aC),.c (vX (m/2^n) n aC aC aC),ag [gV (gR ((m/2^n)*2^n)),gV (gR m)] (yX _ _ aC aC)]<|rQ (.ie [gV (gR (m/2^n)),bP ((kq ((m/2^n)*2^n) m) != 0)]) (.ie [gV (gR (m/2^n)),bP (decide (m%2^n≠0))]) (by rw[Vt])) 
abbrev Pm:E:=.sl false 1 1 λi_ j_=>[.v (.int .u32 1)].getD (i_*1+j_) (.v (.bool false))
abbrev Ks(p):=gV (gR (0*2^((0-(iV 0 0 p)).toNat)))
def nV(m:Nat)(e:Int)(p:Nat):Nat:=if iV m e p<=e then m*2^(e-iV m e p).toNat else m/2^(iV m e p-e).toNat
def rV(m:Nat)(e:Int)(more:Bool)(p:Nat):Bool:=if iV m e p<=e then more else(more||decide (m%2^(iV m e p-e).toNat≠0))
def acj(m:Nat)(e:Int)(more:Bool)(p:Nat):nC m e more p false=nV m e p:=by unfold nC nV;simp
def Lj{m:Nat}{e:Int}{more:Bool}{p:Nat}(hm:more=true->p<gZ m):nC m e more p true=nV m e p+if rV m e more p=true then 1 else 0:=by
 unfold nC nV rV;by_cases hU:iV m e p<=e
 .have hmo:more=false:=by
   cases MI:more with
   |false=>rfl
   |true=>have:=hm MI;unfold iV at hU;omega
  simp[hU,hmo]
 .simp [hU]
def aim(m:Nat)(e:Int)(more up:Bool)(p:Nat)(h1:(gR m).length<=256)(h0:m≠0)(ib:8<=p)(gW:p<=512)(mh:-45000<=e)(lf:e<=45000)(hm:more=true->p<gZ m):gQ 237 [.agg [gV (gR m),iP e,bP more],iP (p:Int),bP up] (.ie [gU (jU false m e more p up),iP (jJ false m e more p up)]):=by
 have Ua:=Ro (e:=e) true h0 hm (aC:1<=p);have vK:=Ro (e:=e) false h0 hm (aC:1<=p);have hb:=Eu h1;have IK:=nM h0;have hqb:=Rn (e:=e) (more:=more) (p:=p) (up:=true) h0;have hqa:=Rn (e:=e) (more:=more) (p:=p) (up:=false) h0;rw[acj]at vK hqa;have hu1:-16384<=(iV m e p):=by unfold iV;omega
 have hu2:(iV m e p)<=60000:=by unfold iV;omega
 have hu3:(iV m e p)<=max (e+8192) (-16384):=by unfold iV;omega
 have fa:(gR (nV m e p)).length<=256:=pd aC;have fb:(gR (nC m e more p true)).length<=256:=pd aC;have f1:(gR 1).length<=256:=pd aE;cases up with
 |true=>
  exact ak call237 func237 (ae [ag [gV (gR m)] (r8 _ aC),ij (e+(gZ m:Int)) aC,ij ((e+(gZ m:Int))-(p:Int)) aC,.o 21 (aq (if(-16384)>((e+(gZ m:Int))-(p:Int))then(-16384)else((e+(gZ m:Int))-(p:Int))) (iV m e p) (by unfold iV;split<;>omega)),.j 58 ⟨84,true,[(9,.e (gV (gR (nV m e p)))),(10,.e (bP (rV m e more p))),(8,.e (iP (iV m e p))),(6,.box 6 0),(1,.e (iP p)),(2,.e (bP true))],[(6,.cells 31 ar)]⟩
   (.w ((iV m e p)<=e)
    (λm1=>by
     have fx:(gR (m*2^(e-(iV m e p)).toNat)).length<=256:=by have:=fa;rwa[show nV m e p=_ from aZ m1]at this
     exact ae [.v 29 (.bool (a6 m1)),ij (e-(iV m e p)) aC,.o 35 (aq (e-(iV m e p)) ((e-(iV m e p)).toNat:Int) aC),.c (vX m ((e-(iV m e p)).toNat:Nat) aC aC aC)]<|.e (af [.o 9 (.e (.iL (by rw[show nV m e p=_ from aZ m1])):aj (gV (gR (m*2^((e-(iV m e p)).toNat)))) (gV (gR (nV m e p)))),tB 10 (by simp[rV,m1]:more=(rV m e more p))]))
    (λm1=>ae [.v 29 (.bool (a7 m1)),ij ((iV m e p)-e) aC,.o 43 (aq ((iV m e p)-e) (((iV m e p)-e).toNat:Int) aC),.c (Oy m (((iV m e p)-e).toNat:Nat) aC aC)]<|.w (more=true)
     (λm2=>ae [tB 48 m2]<|.e (af [.o 9 (.e (.iL (by rw[show nV m e p=_ from aY m1])):aj (gV (gR (m/2^(((iV m e p)-e).toNat)))) (gV (gR (nV m e p)))),tB 10 (by simp[rV,m1,m2]:true=(rV m e more p))]))
     (λm2=>ae [tB 48 (aV m2)]<|.e (af [.o 9 (.e (.iL (by rw[show nV m e p=_ from aY m1])):aj (gV (gR (m/2^(((iV m e p)-e).toNat)))) (gV (gR (nV m e p)))),tB 10 (by simp[rV,m1,m2]:(decide (m%2^(((iV m e p)-e).toNat)≠0))=(rV m e more p))])))),.j 110 ⟨84,true,[(9,.e (gV (gR (nC m e more p true)))),(8,.e (iP (iV m e p))),(6,.box 6 0),(1,.e (iP p)),(2,.e (bP true))],[(6,.cells 31 ar)]⟩
   (.w (rV m e more p=true)
    (λm1=>by
     have fx:(gR (nV m e p+1)).length<=256:=by have:=fb;rwa[Lj hm,aZ m1]at this
     exact ae [.v 55 (.bool m1),.o 58 (.e wU:aj Pm (gV (gR 1))),ag [gV (gR (nV m e p)),gV (gR 1)] (JB _ _ aC aC aC)]<|.e (af [.o 9 (.e (.iL (by rw[Lj hm,aZ m1])):aj (gV (gR ((nV m e p)+1))) (gV (gR (nC m e more p true))))]))
    (λm1=>ae [.v 55 (.bool (aV m1))]<|.e (af [.o 9 (.e (.iL (by rw[Lj hm,aY m1,bR])):aj (gV (gR (nV m e p))) (gV (gR (nC m e more p true))))]))),ag [gV (gR (nC m e more p true))] (r8 _ aC),ij ((gZ (nC m e more p true):Int)+(iV m e p)) aC]<|.w (16384<((gZ (nC m e more p true):Int)+(iV m e p)))
   (λk1=>by
    have w1:=(Ua.resolve_left (λh=>absurd k1 aC)).2.resolve_right (λh=>absurd h.1 aE);exact ae [tB 66 (a6 k1),.o 68 (.e qH:aj (.agg ar) (gU il))]<|rQ (.ie [gU il,iP 9]) (.ie [gU (jU false m e more p true),iP (jJ false m e more p true)]) (by rw[w1.2.1,w1.2.2]))
   (λk1=>by
    have w1:=Ua.resolve_right (λh=>k1 h.1);have hd:mv (canon false (nC m e more p true) (iV m e p)):=by rw[<-w1.2.1];exact(sV false m e more p true aC aC).range
    exact ae [tB 66 (a7 k1),ag [bP false,gV (gR (nC m e more p true)),iP (iV m e p)] (xr _ _ _ aC aC aC aD)]<|rQ (.ie [gU (canon false (nC m e more p true) (iV m e p)),iP 0]) (.ie [gU (jU false m e more p true),iP (jJ false m e more p true)]) (by rw[w1.2.1,w1.2.2]))) 
 |false=>
  exact ak call237 func237 (ae [ag [gV (gR m)] (r8 _ aC),ij (e+(gZ m:Int)) aC,ij ((e+(gZ m:Int))-(p:Int)) aC,.o 21 (aq (if(-16384)>((e+(gZ m:Int))-(p:Int))then(-16384)else((e+(gZ m:Int))-(p:Int))) (iV m e p) (by unfold iV;split<;>omega)),.j 58 ⟨84,true,[(9,.e (gV (gR (nV m e p)))),(10,.e (bP (rV m e more p))),(8,.e (iP (iV m e p))),(6,.box 6 0),(1,.e (iP p)),(2,.e (bP false))],[(6,.cells 31 ar)]⟩
   (.w ((iV m e p)<=e)
    (λm1=>by
     have fx:(gR (m*2^(e-(iV m e p)).toNat)).length<=256:=by have:=fa;rwa[show nV m e p=_ from aZ m1]at this
     exact ae [.v 29 (.bool (a6 m1)),ij (e-(iV m e p)) aC,.o 35 (aq (e-(iV m e p)) ((e-(iV m e p)).toNat:Int) aC),.c (vX m ((e-(iV m e p)).toNat:Nat) aC aC aC)]<|.e (af [.o 9 (.e (.iL (by rw[show nV m e p=_ from aZ m1])):aj (gV (gR (m*2^((e-(iV m e p)).toNat)))) (gV (gR (nV m e p)))),tB 10 (by simp[rV,m1]:more=(rV m e more p))]))
    (λm1=>ae [.v 29 (.bool (a7 m1)),ij ((iV m e p)-e) aC,.o 43 (aq ((iV m e p)-e) (((iV m e p)-e).toNat:Int) aC),.c (Oy m (((iV m e p)-e).toNat:Nat) aC aC)]<|.w (more=true)
     (λm2=>ae [tB 48 m2]<|.e (af [.o 9 (.e (.iL (by rw[show nV m e p=_ from aY m1])):aj (gV (gR (m/2^(((iV m e p)-e).toNat)))) (gV (gR (nV m e p)))),tB 10 (by simp[rV,m1,m2]:true=(rV m e more p))]))
     (λm2=>ae [tB 48 (aV m2)]<|.e (af [.o 9 (.e (.iL (by rw[show nV m e p=_ from aY m1])):aj (gV (gR (m/2^(((iV m e p)-e).toNat)))) (gV (gR (nV m e p)))),tB 10 (by simp[rV,m1,m2]:(decide (m%2^(((iV m e p)-e).toNat)≠0))=(rV m e more p))])))),ag [gV (gR (nV m e p))] (r8 _ aC),ij ((gZ (nV m e p):Int)+(iV m e p)) aC]<|.w (16384<((gZ (nV m e p):Int)+(iV m e p)))
   (λk1=>by
    have w1:=(vK.resolve_left (λh=>absurd k1 aC)).2.resolve_left (λh=>absurd h.1 aE);have hd:mv (canon false ((1*2^p)-1) (16384-(p:Int))):=by rw[bU,<-w1.2.1];exact(sV false m e more p false aC aC).range
    have g0:gZ (1*2^p)=p+1:=by rw[bU];exact xZ (bc _) (gy aE aC)
    have g1:(gR 1).length<=256:=pd aE;have g2:(gR (1*2^p)).length<=256:=pd aC;have g4:1<=1*2^p:=by rw[bU];exact bn aE 
    have g3:(gR ((1*2^p)-1)).length<=256:=pd (by have:=wm (eD (1*2^p) 1);omega);exact ae [tB 66 (a6 k1),.o 70 (.e wU:aj Pm (gV (gR 1))),.c (vX 1 p aC aC aC),.o 73 (.e wU:aj Pm (gV (gR 1))),ag [gV (gR (1*2^p)),gV (gR 1)] (F4 _ _ aC aC aC),ij (16384-(p:Int)) aC,ag [bP false,gV (gR ((1*2^p)-1)),iP (16384-(p:Int))] (xr _ _ _ aC aC aC aD)]<|rQ (.ie [gU (canon false ((1*2^p)-1) (16384-(p:Int))),iP 0]) (.ie [gU (jU false m e more p false),iP (jJ false m e more p false)]) (by rw[w1.2.1,w1.2.2,bU]))
   (λk1=>by
    have w1:=vK.resolve_right (λh=>k1 h.1);have hd:mv (canon false (nV m e p) (iV m e p)):=by rw[<-w1.2.1];exact(sV false m e more p false aC aC).range
    exact ae [tB 66 (a7 k1),ag [bP false,gV (gR (nV m e p)),iP (iV m e p)] (xr _ _ _ aC aC aC aD)]<|rQ (.ie [gU (canon false (nV m e p) (iV m e p)),iP 0]) (.ie [gU (jU false m e more p false),iP (jJ false m e more p false)]) (by rw[w1.2.1,w1.2.2]))) 
def ain(up:Bool)(p:Nat)(ib:8<=p)(gW:p<=512):gQ 237 [.agg [gV (gR 0),iP 0,bP false],iP (p:Int),bP up] (.ie [gU (jU false 0 0 false p up),iP (jJ false 0 0 false p up)]):=by
 have hU:iV 0 0 p = -(p:Int):=by unfold iV;rw[rH];omega
 have hK:jI 0 0 p=0:=by unfold jI;rw[rH];omega
 have hQ:kR 0 0 false p up=0:=by unfold kR;rw[hK];simp
 have hO:lZ 0 0 false p up=false:=by unfold lZ;rw[hQ];simp
 have pr:(false != up)=up:=by cases up<;>rfl
 have k2:jU false 0 0 false p up=il:=by unfold jU;rw[pr,hO,aY aE,hQ];rfl
 have k3:jJ false 0 0 false p up=0:=by unfold jJ;rw[pr,hO];rfl
 have lz:gZ 0=0:=rfl;have l0:(gR 0).length<=256:=by rw[nP];decide
 have l1:(gR (0*2^(0-iV 0 0 p).toNat)).length<=256:=by rw[cC];exact l0
 have lb:gZ (0*2^(0-iV 0 0 p).toNat)=0:=by rw[cC];rfl
 have hd:mv (canon false (0*2^(0-iV 0 0 p).toNat) (iV 0 0 p)):=by rw[cC];exact .inl rfl
 by_cases Uh:up=true
 .exact ak call237 func237 (ae [ag [gV (gR 0)] (r8 _ aC),ij (0+(gZ 0:Int)) aC,ij ((0+(gZ 0:Int))-(p:Int)) aC,.o 21 (aq (if(-16384)>((0+(gZ 0:Int))-(p:Int))then(-16384)else((0+(gZ 0:Int))-(p:Int))) (iV 0 0 p) (by unfold iV;rw[rH];split<;>omega)),tT 29 ((iV 0 0 p)<=0) aC,ij (0-(iV 0 0 p)) aC,.o 35 (aq (0-(iV 0 0 p)) ((0-(iV 0 0 p)).toNat:Int) aC),.c (vX 0 ((0-(iV 0 0 p)).toNat:Nat) aC aC aC),ah 52 up Uh,ag [Ks p] (r8 _ aC),
   ij ((gZ (0*2^((0-(iV 0 0 p)).toNat)):Int)+(iV 0 0 p)) aC,tF 66 (16384<((gZ (0*2^((0-(iV 0 0 p)).toNat)):Int)+(iV 0 0 p))) aC,ag [bP false,Ks p,iP (iV 0 0 p)] (xr _ _ _ aC aC aC aD)]<|rQ (.ie [gU (canon false (0*2^((0-(iV 0 0 p)).toNat)) (iV 0 0 p)),iP 0]) (.ie [gU (jU false 0 0 false p up),iP (jJ false 0 0 false p up)]) (by rw[k2,k3,cC];rfl)) 
 .exact ak call237 func237 (ae [ag [gV (gR 0)] (r8 _ aC),ij (0+(gZ 0:Int)) aC,ij ((0+(gZ 0:Int))-(p:Int)) aC,.o 21 (aq (if(-16384)>((0+(gZ 0:Int))-(p:Int))then(-16384)else((0+(gZ 0:Int))-(p:Int))) (iV 0 0 p) (by unfold iV;rw[rH];split<;>omega)),tT 29 ((iV 0 0 p)<=0) aC,ij (0-(iV 0 0 p)) aC,.o 35 (aq (0-(iV 0 0 p)) ((0-(iV 0 0 p)).toNat:Int) aC),.c (vX 0 ((0-(iV 0 0 p)).toNat:Nat) aC aC aC),ai 52 up (by simpa using Uh),ag [Ks p] (r8 _ aC),
   ij ((gZ (0*2^((0-(iV 0 0 p)).toNat)):Int)+(iV 0 0 p)) aC,tF 66 (16384<((gZ (0*2^((0-(iV 0 0 p)).toNat)):Int)+(iV 0 0 p))) aC,ag [bP false,Ks p,iP (iV 0 0 p)] (xr _ _ _ aC aC aC aD)]<|rQ (.ie [gU (canon false (0*2^((0-(iV 0 0 p)).toNat)) (iV 0 0 p)),iP 0]) (.ie [gU (jU false 0 0 false p up),iP (jJ false 0 0 false p up)]) (by rw[k2,k3,cC];rfl)) 
def DX(m:Nat)(e:Int)(more up:Bool)(p:Nat)(h1:(gR m).length<=256)(h0:m≠0\/m=0/\e=0/\more=false)(ib:8<=p)(gW:p<=512)(mh:-45000<=e)(lf:e<=45000)(hm:more=true->p<gZ m):gQ 237 [.agg [gV (gR m),iP e,bP more],iP (p:Int),bP up] (.ie [gU (jU false m e more p up),iP (jJ false m e more p up)]):=by
 rcases h0 with h0|⟨rfl,rfl,rfl⟩
 .exact aim m e more up p h1 h0 ib gW mh lf hm
 .exact ain up p ib gW
def mC(p:Int):Bool:=decide (8<=p)&&decide (p<=512)
def rO{p:Int}:mC p=true↔8<=p/\p<=512:=by simp[mC]
def vP(p:Int):gQ 122 [iP p] (bP (mC p)):=by
 by_cases h:8<=p
 .exact ak call122 func122 (ae [tB 4 (a6 h)]<|rQ (bP (decide (p<=512))) (bP (mC p)) (by simp[mC,h])) 
 .exact ak call122 func122 (ae [tB 4 (a7 h)]<|rQ (bP false) (bP (mC p)) (by simp[mC,h])) 
def aip(p:Int):gQ 235 [iP p] (bP (mC p)):=by
 by_cases h:8<=p
 .exact ak call235 func235 (ae [tB 4 (a6 h)]<|rQ (bP (decide (p<=512))) (bP (mC p)) (by simp[mC,h])) 
 .exact ak call235 func235 (ae [tB 4 (a7 h)]<|rQ (bP false) (bP (mC p)) (by simp[mC,h])) 
def WV(l:List Dy)(p:Nat)(i:Nat):PS:=⟨20,true,[(9,.e (iP i)),(8,.e (iP l.length)),(7,.e (jZ l)),(0,.e (iP p))],[]⟩
def Gl(neg:Bool)(m:Nat)(e:Int)(more up:Bool)(p:Nat)(h1:(gR m).length<=256)(h0:m≠0\/m=0/\e=0/\more=false)(ib:8<=p)(gW:p<=512)(mh:-45000<=e)(lf:e<=45000)(hm:more=true->p<gZ m):gQ 214 [bP neg,.agg [gV (gR m),iP e,bP more],iP p,bP up] (.ie [gU (jU neg m e more p up),iP (jJ neg m e more p up)]):=by
 cases neg with
 |true=>
  have hs:=Rs true m e more p up;change _/\(jJ false m e more p (!(up==true))=0->_->jl (jU false m e more p (!(up==true)))=_)/\((jJ false m e more p (!(up==true))≠0\/_)->jU false m e more p (!(up==true))=_)at hs;have hE:jJ true m e more p up=jJ false m e more p (!(up==true)):=hs.1;have hv:=sV false m e more p (!(up==true)) (aC:1<=p) aC;by_cases hz:jJ false m e more p (!(up==true))=0
  .exact ak call214 func214 (ae [ag [.agg [gV (gR m),iP e,bP more],iP p,bP (!(up==true))] (DX _ _ _ _ _ aC aD aC aC aC aC aD),ah 22 ((jJ false m e more p (!(up==true)))==0) (by rw[hz];rfl),ag [gU (jU false m e more p (!(up==true)))] (yi _ aD)]<|rQ (.ie [gU (jl (jU false m e more p (!(up==true)))),iP (jJ false m e more p (!(up==true)))]) (.ie [gU (jU true m e more p up),iP (jJ true m e more p up)]) (by rw[hs.2.1 hz rfl,hE])) 
  .exact ak call214 func214 (ae [ag [.agg [gV (gR m),iP e,bP more],iP p,bP (!(up==true))] (DX _ _ _ _ _ aC aD aC aC aC aC aD),ai 22 ((jJ false m e more p (!(up==true)))==0) (by simpa using hz)]<|rQ (.ie [gU (jU false m e more p (!(up==true))),iP (jJ false m e more p (!(up==true)))]) (.ie [gU (jU true m e more p up),iP (jJ true m e more p up)]) (by rw[hs.2.2 (.inl hz),hE])) 
 |false=>
  have hs:=Rs false m e more p up;change _/\(jJ false m e more p (!(up==false))=0->_->jl (jU false m e more p (!(up==false)))=_)/\((jJ false m e more p (!(up==false))≠0\/_)->jU false m e more p (!(up==false))=_)at hs;have hE:jJ false m e more p up=jJ false m e more p (!(up==false)):=hs.1;have hv:=sV false m e more p (!(up==false)) (aC:1<=p) aC;by_cases hz:jJ false m e more p (!(up==false))=0
  .exact ak call214 func214 (ae [ag [.agg [gV (gR m),iP e,bP more],iP p,bP (!(up==false))] (DX _ _ _ _ _ aC aD aC aC aC aC aD),ah 22 ((jJ false m e more p (!(up==false)))==0) (by rw[hz];rfl)]<|rQ (.ie [gU (jU false m e more p (!(up==false))),iP (jJ false m e more p (!(up==false)))]) (.ie [gU (jU false m e more p up),iP (jJ false m e more p up)]) (by rw[hs.2.2 (.inr rfl),hE])) 
  .exact ak call214 func214 (ae [ag [.agg [gV (gR m),iP e,bP more],iP p,bP (!(up==false))] (DX _ _ _ _ _ aC aD aC aC aC aC aD),ai 22 ((jJ false m e more p (!(up==false)))==0) (by simpa using hz)]<|rQ (.ie [gU (jU false m e more p (!(up==false))),iP (jJ false m e more p (!(up==false)))]) (.ie [gU (jU false m e more p up),iP (jJ false m e more p up)]) (by rw[hs.2.2 (.inl hz),hE])) 
def aio(d:Dy):gQ 246 [gU d] (.agg [gV (gR d.m),iP d.e,bP false]):=
 ak call246 func246 (.nil) 
def WW(p:Nat)(l:List Dy)(hl:l.length<=1000)(hv:∀ i,i<l.length->(l.getD i il).gX)(ib:8<=p)(gW:p<=512):gQ 211 [iP p,jZ l] (iP 0):=
 ak call211 func211 (af [.s (Sp.jE (WV l p) 0 l.length aC (λi hi oM=>by
    have Uk:=hv i oM;exact iA (af [tT 10 ((i:Int)<l.length) aC,iX (i:Int) (l.length) aC,ag [gU (l.getD i il)] (mZ _ aD),ij ((i:Int)+1) aC]) aF)
  (λhi=>by
    exact iA (af [tF 10 ((l.length:Int)<l.length) aC]) aF) aI:jB 2 f211 (WV l p 0) (.exit 0) ⟨20,true,[(0,.e (iP p))],[]⟩) .nil,ag [iP p] (aip _),ah 18 (mC (p:Int)) (rO.2 ⟨aC,aC⟩)]) 
def Ox(p:Nat)(a:Dy)(ha:a.gX)(ib:8<=p)(gW:p<=512):gQ 211 [iP (p:Int),jZ [a]] (iP 0):=
 WW p [a] aH (λi hi=>(match i,hi with
  | 0,_=>ha
  |n+1,hi=>absurd hi aH)) ib gW
def wW(p:Nat)(a b:Dy)(ha:a.gX)(hb:b.gX)(ib:8<=p)(gW:p<=512):gQ 211 [iP (p:Int),jZ [a,b]] (iP 0):=
 WW p [a,b] aH (λi hi=>(match i,hi with
  | 0,_=>ha
  | 1,_=>hb
  |n+2,hi=>absurd hi aH)) ib gW
def JX(d:Dy)(p:Nat)(up:Bool)(hd:d.gX)(ib:8<=p)(gW:p<=512):gQ 223 [gU d,iP p,bP up] (.ie [gU (jV d p up),iP (jL d p up)]):=by
 have hl:=hd.gR;have hz:d.m≠0\/d.m=0/\d.e=0/\false=false:=by
  by_cases h:d.m=0
  .rcases hd.canon with q|q
   .exact .inr ⟨h,q.2.2,rfl⟩
   .omega
  .exact .inl h
 have As:-45000<=d.e:=by have:=hd.exp;omega
 have tc:d.e<=45000:=by have:=hd.exp;omega
 have hm:false=true->p<gZ d.m:=λh=>by cases h
 exact ak call223 func223 (af [.o 11 (.e (EN _):aj (.sl true 1 3 λi_ j_=>(iq d).getD (i_*3+j_) (.v (.bool false))) (jZ [d])),ag [iP p,jZ [d]] (Ox _ _ aD aC aC),ai 14 ((0:Int) != 0) aE,.c (aio d),.c (Gl d.neg d.m d.e false up p aC aD aC aC aC aC aD)]) 
def C2{a b:Nat}:kq a b<0↔a<b:=by
 unfold kq;split
 .simp_all
 .split<;>simp_all
def JY(a b:Dy)(p:Nat)(ha:a.gX)(hb:b.gX)(a0:a.m≠0)(b0:b.m≠0)(ht:b.ig<=a.ig)(ib:8<=p)(gW:p<=512):gQ 224 [gU a,gU b,iP p] (.ie [.agg [gV (gR (lM a b p)),iP (iZ a b p),bP (na a b p)],bP (pg a b p)]):=by
 have sz:=Kj ha hb a0 b0 ht gW;have sp:=Pa ha hb a0 b0 ht gW;obtain⟨l1,l2,l3,l4,l5,l6,l7,l8,l9⟩:=sz;obtain⟨l10,l11,l12⟩:=sp;obtain⟨r1,r2,r3⟩:=OK a b p;have va:=ha.gR;have vb:=hb.gR;have xa:=ha.exp;have xb:=hb.exp;have ta:=GH a0;have tb:=GH b0;have ba:=Eu va;have bb:=Eu vb;have z1:(gR (a.m*2^((a.e-(iZ a b p)).toNat))).length<=256:=pd (aC:gZ (nJ a b p)<=_);have zy:(gR (mE b (iZ a b p))).length<=256:=pd aC;have z3:(gR (mD a b p)).length<=256:=pd aC;have zm:(gR (lM a b p)).length<=256:=pd aC;have z5:(gR 1).length<=256:=pd aE;exact ak call224 func224 (ae [ag [gU a] (mK _ aD),ij ((Dy.ig a)-(p:Int)) aC,ij (((Dy.ig a)-(p:Int))-8) aC,ag [gU a] (mK _ aD),ag [gU b] (mK _ aD),ij ((Dy.ig a)-(Dy.ig b)) aC,.j 62 ⟨109,true,[(8,.e (iP (iZ a b p))),(6,.box 6 0),(4,.box 4 0),(3,.box 3 0)],[(6,.cells 174 [.v (.slice none 0 0),iP 0,bP false]),(4,.cells 31 (iq b)),(3,.cells 31 (iq a))]⟩
   (.w (((Dy.ig a)-(Dy.ig b))<=2)
    (λm1=>ae [.v 31 (.bool (a6 m1))]<|.e (af [.o 8 (aq (if b.e<(if(((Dy.ig a)-(p:Int))-8)<a.e then(((Dy.ig a)-(p:Int))-8)else a.e)then b.e else(if(((Dy.ig a)-(p:Int))-8)<a.e then(((Dy.ig a)-(p:Int))-8)else a.e)) (iZ a b p) (by unfold iZ;rw[aZ m1];split<;>split<;>omega))]))
    (λm1=>ae [.v 31 (.bool (a7 m1))]<|.e (af [.o 8 (aq (if(((Dy.ig a)-(p:Int))-8)<a.e then(((Dy.ig a)-(p:Int))-8)else a.e) (iZ a b p) (by unfold iZ;rw[aY m1];split<;>omega))]))),
  ij (a.e-(iZ a b p)) aC,.o 41 (aq (a.e-(iZ a b p)) ((a.e-(iZ a b p)).toNat:Int) aC),.c (vX a.m ((a.e-(iZ a b p)).toNat) aC aC aC),.j 92 ⟨109,true,[(10,.e (gV (gR (mE b (iZ a b p))))),(11,.e (bP (np b (iZ a b p)))),(9,.e (gV (gR (a.m*2^((a.e-(iZ a b p)).toNat))))),(8,.e (iP (iZ a b p))),(6,.box 6 0),(4,.box 4 0),(3,.box 3 0)],[(6,.cells 174 [.v (.slice none 0 0),iP 0,bP false]),(4,.cells 31 (iq b)),(3,.cells 31 (iq a))]⟩
   (.w ((iZ a b p)<=b.e)
    (λm1=>by
     have z2:(gR (b.m*2^((b.e-(iZ a b p)).toNat))).length<=256:=by have:=zy;rwa[show mE b (iZ a b p)=_ from aZ m1]at this
     exact ae [.v 46 (.bool (a6 m1)),ij (b.e-(iZ a b p)) aC,.o 52 (aq (b.e-(iZ a b p)) ((b.e-(iZ a b p)).toNat:Int) aC),.c (vX b.m ((b.e-(iZ a b p)).toNat) aC aC aC)]<|.e (af [.o 10 (.e (.iL (by rw[show mE b (iZ a b p)=_ from aZ m1])):aj (gV (gR (b.m*2^((b.e-(iZ a b p)).toNat)))) (gV (gR (mE b (iZ a b p))))),tB 11 (by simp[np,m1]:false=(np b (iZ a b p)))]))
    (λm1=>ae [.v 46 (.bool (a7 m1)),ij ((iZ a b p)-b.e) aC,.o 60 (aq ((iZ a b p)-b.e) (((iZ a b p)-b.e).toNat:Int) aC),.c (Oy b.m (((iZ a b p)-b.e).toNat) aC aC)]<|.e (af [.o 10 (.e (.iL (by rw[show mE b (iZ a b p)=_ from aY m1])):aj (gV (gR (b.m/2^(((iZ a b p)-b.e).toNat)))) (gV (gR (mE b (iZ a b p))))),tB 11 (by simp[np,m1]:(decide (b.m%2^(((iZ a b p)-b.e).toNat)≠0))=(np b (iZ a b p)))])))]<|.w (a.neg=b.neg)
  (λk1=>by
   have eT:pg a b p=false:=by unfold pg;simp[k1]
   have eY:mD a b p=mE b (iZ a b p):=by unfold mD;simp[k1]
   have eM:lM a b p=nJ a b p+mE b (iZ a b p):=by unfold lM;rw[aZ k1,eY]
   have eS:na a b p=np b (iZ a b p):=by unfold na;rw[eT];simp
   have z4:(gR ((a.m*2^((a.e-(iZ a b p)).toNat))+mE b (iZ a b p))).length<=256:=by have:=zm;rwa[eM]at this
   exact ae [tB 68 (aU k1),ag [gV (gR (a.m*2^((a.e-(iZ a b p)).toNat))),gV (gR (mE b (iZ a b p)))] (JB _ _ aC aC aC)]<|rQ (.ie [.agg [gV (gR ((a.m*2^((a.e-(iZ a b p)).toNat))+(mE b (iZ a b p)))),iP (iZ a b p),bP (np b (iZ a b p))],bP false]) (.ie [.agg [gV (gR (lM a b p)),iP (iZ a b p),bP (na a b p)],bP (pg a b p)]) (by rw[eM,eS,eT];rfl))
  (λk1=>ae [tB 68 (aT k1),.j 158 ⟨109,true,[(10,.e (gV (gR (mD a b p)))),(11,.e (bP (np b (iZ a b p)))),(9,.e (gV (gR (a.m*2^((a.e-(iZ a b p)).toNat))))),(8,.e (iP (iZ a b p))),(6,.box 6 0)],[(6,.cells 174 [.v (.slice none 0 0),iP 0,bP false])]⟩
   (.w (np b (iZ a b p)=true)
    (λm1=>by
     have z6:(gR ((mE b (iZ a b p))+1)).length<=256:=pd (by rw[show(mE b (iZ a b p))+1=mD a b p by(unfold mD;simp[k1,m1])];omega);exact ae [.v 79 (.bool m1),.o 82 (.e wU:aj (.sl false 1 1 λi_ j_=>[.v (.int .u32 1)].getD (i_*1+j_) (.v (.bool false))) (gV (gR 1))),ag [gV (gR (mE b (iZ a b p))),gV (gR 1)] (JB _ _ aC aC aC)]<|.e (af [.o 10 (.e (.iL (by unfold mD;simp[k1,m1])):aj (gV (gR ((mE b (iZ a b p))+1))) (gV (gR (mD a b p))))]))
    (λm1=>ae [.v 79 (.bool (aV m1))]<|.e (af [.o 10 (.e (.iL (by unfold mD;simp[k1,m1])):aj (gV (gR (mE b (iZ a b p)))) (gV (gR (mD a b p))))]))),ag [gV (gR (a.m*2^((a.e-(iZ a b p)).toNat))),gV (gR (mD a b p))] (yX _ _ aC aC)]<|.w ((kq (a.m*2^((a.e-(iZ a b p)).toNat)) (mD a b p))<0)
   (λk2=>by
    have hc:nJ a b p<mD a b p:=C2.1 k2;have eT:pg a b p=true:=by unfold pg;simp[k1,hc]
    have eM:lM a b p=mD a b p-nJ a b p:=by unfold lM;rw[aY k1,aZ hc]
    have eS:na a b p=false:=by unfold na;rw[eT];simp
    have z4:(gR (mD a b p-(a.m*2^((a.e-(iZ a b p)).toNat)))).length<=256:=by have:=zm;rwa[eM]at this
    have z7:(a.m*2^((a.e-(iZ a b p)).toNat))<=mD a b p:=dt hc;exact ae [tB 89 (a6 k2),ag [gV (gR (mD a b p)),gV (gR (a.m*2^((a.e-(iZ a b p)).toNat)))] (F4 _ _ aC aC aC)]<|rQ (.ie [.agg [gV (gR ((mD a b p)-(a.m*2^((a.e-(iZ a b p)).toNat)))),iP (iZ a b p),bP false],bP true]) (.ie [.agg [gV (gR (lM a b p)),iP (iZ a b p),bP (na a b p)],bP (pg a b p)]) (by rw[eM,eS,eT];rfl))
   (λk2=>by
    have hc:¬nJ a b p<mD a b p:=λh=>k2 (C2.2 h)
    have eT:pg a b p=false:=by unfold pg;simp[hc]
    have eM:lM a b p=nJ a b p-mD a b p:=by unfold lM;rw[aY k1,aY hc]
    have eS:na a b p=np b (iZ a b p):=by unfold na;rw[eT];simp
    have z4:(gR ((a.m*2^((a.e-(iZ a b p)).toNat))-mD a b p)).length<=256:=by have:=zm;rwa[eM]at this
    have z7:mD a b p<=(a.m*2^((a.e-(iZ a b p)).toNat)):=Nat.le_of_not_lt hc;exact ae [tB 89 (a7 k2),ag [gV (gR (a.m*2^((a.e-(iZ a b p)).toNat))),gV (gR (mD a b p))] (F4 _ _ aC aC aC)]<|rQ (.ie [.agg [gV (gR ((a.m*2^((a.e-(iZ a b p)).toNat))-(mD a b p))),iP (iZ a b p),bP (np b (iZ a b p))],bP false]) (.ie [.agg [gV (gR (lM a b p)),iP (iZ a b p),bP (na a b p)],bP (pg a b p)]) (by rw[eM,eS,eT];rfl)))) 
def AT(p:Nat)(up:Bool):jV il p up=il/\jL il p up=0:=by
 have hK:jI 0 0 p=0:=by unfold jI;rw[rH];omega
 have hQ:∀ o,kR 0 0 false p o=0:=by intro o;unfold kR;rw[hK];simp
 have hO:∀ o,lZ 0 0 false p o=false:=by intro o;unfold lZ;rw[hQ];simp
 unfold jV jL jU jJ;simp only[il,hO,hQ];exact⟨rfl,rfl⟩
def WR(a b:Dy)(p:Nat)(up:Bool)(ha:a.gX)(hb:b.gX)(ib:8<=p)(gW:p<=512):gQ 185 [gU a,gU b,iP p,bP up] (.ie [gU (jV (iI a b) p up),iP (jL (iI a b) p up)]):=by
 by_cases a0:a.m=0
 .have e1:iI a b=b:=by unfold iI;rw[aZ a0]
  exact ak call185 func185 (ae [.o 16 (.e (wA _ _):aj (.sl true 2 3 λi_ j_=>(iq a++iq b).getD (i_*3+j_) (.v (.bool false))) (jZ [a,b])),ag [iP p,jZ [a,b]] (wW _ _ _ aD aD aC aC),ai 19 ((0:Int) != 0) aE,ah 26 (((gR a.m).length:Int)==0) (r9 (tW.2 a0)),.c (JX b p up aD aC aC)]<|rQ (.ie [gU (jV b p up),iP (jL b p up)]) (.ie [gU (jV (iI a b) p up),iP (jL (iI a b) p up)]) (by rw[e1])) 
 .by_cases b0:b.m=0
  .have e1:iI a b=a:=by unfold iI;rw[aY a0,aZ b0]
   exact ak call185 func185 (ae [.o 16 (.e (wA _ _):aj (.sl true 2 3 λi_ j_=>(iq a++iq b).getD (i_*3+j_) (.v (.bool false))) (jZ [a,b])),ag [iP p,jZ [a,b]] (wW _ _ _ aD aD aC aC),ai 19 ((0:Int) != 0) aE,ai 26 (((gR a.m).length:Int)==0) (ns (o9 a0)),ah 37 (((gR b.m).length:Int)==0) (r9 (tW.2 b0)),.c (JX a p up aD aC aC)]<|rQ (.ie [gU (jV a p up),iP (jL a p up)]) (.ie [gU (jV (iI a b) p up),iP (jL (iI a b) p up)]) (by rw[e1])) 
  .by_cases ht:a.ig<b.ig
   .have sC:a.ig<=b.ig:= aC ;have law:=Yk (p:=p) hb ha b0 a0 up;have siz:=Kj hb ha b0 a0 sC gW;have prt:=Pa hb ha b0 a0 sC gW;obtain⟨l1,l2,_,_,_,_,_,_,_⟩:=siz;have z1:(gR (lM b a p)).length<=256:=pd aC;have sx:=prt.2.2;have y1:-45000<=iZ b a p:= aC ;have y2:iZ b a p<=45000:= aC ;by_cases hz:lM b a p=0
    .by_cases hl:na b a p=true
     .have h0:lM b a p≠0:=by intro q;have:=sx hl;rw[q,rH]at this;omega
      exact absurd hz h0
     .replace hz:lM b a p=0/\na b a p=false:=⟨hz,by simpa using hl⟩
      have yJ:iI a b=il:=by rw[O9 a0 b0];exact law.1 hz
      exact ak call185 func185 (ae [.o 16 (.e (wA _ _):aj (.sl true 2 3 λi_ j_=>(iq a++iq b).getD (i_*3+j_) (.v (.bool false))) (jZ [a,b])),ag [iP p,jZ [a,b]] (wW _ _ _ aD aD aC aC),ai 19 ((0:Int) != 0) aE,ai 26 (((gR a.m).length:Int)==0) (ns (o9 a0)),ai 37 (((gR b.m).length:Int)==0) (ns (o9 b0)),ag [gU a] (mK _ aD),ag [gU b] (mK _ aD),tB 48 (a6 ht),.c (JY b a p aD aD aD aD aD aC aC),ah 61 (((gR (lM b a p)).length:Int)==0) (r9 (tW.2 hz.1)),ai 64 (na b a p) hz.2,.o 67 (.e qH:aj (.agg ar) (gU il))]<|rQ (.ie [gU il,iP 0]) (.ie [gU (jV (iI a b) p up),iP (jL (iI a b) p up)]) (by rw[yJ,(AT p up).1,(AT p up).2])) 
    .have h0:lM b a p≠0\/lM b a p=0/\iZ b a p=0/\na b a p=false:=.inl hz;obtain⟨q1,q2⟩:=law.2 (λq=>hz q.1);rw[<-O9 a0 b0]at q1 q2;exact ak call185 func185 (ae [.o 16 (.e (wA _ _):aj (.sl true 2 3 λi_ j_=>(iq a++iq b).getD (i_*3+j_) (.v (.bool false))) (jZ [a,b])),ag [iP p,jZ [a,b]] (wW _ _ _ aD aD aC aC),ai 19 ((0:Int) != 0) aE,ai 26 (((gR a.m).length:Int)==0) (ns (o9 a0)),ai 37 (((gR b.m).length:Int)==0) (ns (o9 b0)),ag [gU a] (mK _ aD),ag [gU b] (mK _ aD),tB 48 (a6 ht),.c (JY b a p aD aD aD aD aD aC aC),ai 61 (((gR (lM b a p)).length:Int)==0) (ns (o9 hz)),.c (Gl (! (b.neg==(pg b a p))) (lM b a p) (iZ b a p) (na b a p) up p aC aD aC aC aC aC aD)]<|rQ (.ie [gU (jU (!(b.neg==(pg b a p))) (lM b a p) (iZ b a p) (na b a p) p up),iP (jJ (!(b.neg==(pg b a p))) (lM b a p) (iZ b a p) (na b a p) p up)]) (.ie [gU (jV (iI a b) p up),iP (jL (iI a b) p up)]) (by rw[<-q1,<-q2];rfl)) 
   .have sC:b.ig<=a.ig:= aC ;have law:=Yk (p:=p) ha hb a0 b0 up;have siz:=Kj ha hb a0 b0 sC gW;have prt:=Pa ha hb a0 b0 sC gW;obtain⟨l1,l2,_,_,_,_,_,_,_⟩:=siz;have z1:(gR (lM a b p)).length<=256:=pd aC;have sx:=prt.2.2;have y1:-45000<=iZ a b p:= aC ;have y2:iZ a b p<=45000:= aC ;by_cases hz:lM a b p=0
    .by_cases hl:na a b p=true
     .have h0:lM a b p≠0:=by intro q;have:=sx hl;rw[q,rH]at this;omega
      exact absurd hz h0
     .replace hz:lM a b p=0/\na a b p=false:=⟨hz,by simpa using hl⟩
      have yJ:iI a b=il:=by exact law.1 hz
      exact ak call185 func185 (ae [.o 16 (.e (wA _ _):aj (.sl true 2 3 λi_ j_=>(iq a++iq b).getD (i_*3+j_) (.v (.bool false))) (jZ [a,b])),ag [iP p,jZ [a,b]] (wW _ _ _ aD aD aC aC),ai 19 ((0:Int) != 0) aE,ai 26 (((gR a.m).length:Int)==0) (ns (o9 a0)),ai 37 (((gR b.m).length:Int)==0) (ns (o9 b0)),ag [gU a] (mK _ aD),ag [gU b] (mK _ aD),tB 48 (a7 ht),.c (JY a b p aD aD aD aD aD aC aC),ah 61 (((gR (lM a b p)).length:Int)==0) (r9 (tW.2 hz.1)),ai 64 (na a b p) hz.2,.o 67 (.e qH:aj (.agg ar) (gU il))]<|rQ (.ie [gU il,iP 0]) (.ie [gU (jV (iI a b) p up),iP (jL (iI a b) p up)]) (by rw[yJ,(AT p up).1,(AT p up).2])) 
    .have h0:lM a b p≠0\/lM a b p=0/\iZ a b p=0/\na a b p=false:=.inl hz;obtain⟨q1,q2⟩:=law.2 (λq=>hz q.1);exact ak call185 func185 (ae [.o 16 (.e (wA _ _):aj (.sl true 2 3 λi_ j_=>(iq a++iq b).getD (i_*3+j_) (.v (.bool false))) (jZ [a,b])),ag [iP p,jZ [a,b]] (wW _ _ _ aD aD aC aC),ai 19 ((0:Int) != 0) aE,ai 26 (((gR a.m).length:Int)==0) (ns (o9 a0)),ai 37 (((gR b.m).length:Int)==0) (ns (o9 b0)),ag [gU a] (mK _ aD),ag [gU b] (mK _ aD),tB 48 (a7 ht),.c (JY a b p aD aD aD aD aD aC aC),ai 61 (((gR (lM a b p)).length:Int)==0) (ns (o9 hz)),.c (Gl (! (a.neg==(pg a b p))) (lM a b p) (iZ a b p) (na a b p) up p aC aD aC aC aC aC aD)]<|rQ (.ie [gU (jU (!(a.neg==(pg a b p))) (lM a b p) (iZ a b p) (na a b p) p up),iP (jJ (!(a.neg==(pg a b p))) (lM a b p) (iZ a b p) (na a b p) p up)]) (.ie [gU (jV (iI a b) p up),iP (jL (iI a b) p up)]) (by rw[<-q1,<-q2];rfl)) 
def WY(a b:Dy)(p:Nat)(up:Bool)(ha:a.gX)(hb:b.gX)(ib:8<=p)(gW:p<=512):gQ 186 [gU a,gU b,iP p,bP up] (.ie [gU (jV (jq a b) p up),iP (jL (jq a b) p up)]):=by
 by_cases a0:a.m=0
 .have e1:jq a b=il:=by unfold jq;rw[a0,cC];rfl
  exact ak call186 func186 (ae [.o 16 (.e (wA _ _):aj (.sl true 2 3 λi_ j_=>(iq a++iq b).getD (i_*3+j_) (.v (.bool false))) (jZ [a,b])),ag [iP p,jZ [a,b]] (wW _ _ _ aD aD aC aC),ai 19 ((0:Int) != 0) aE,ah 25 (((gR a.m).length:Int)==0) (r9 (tW.2 a0)),.o 32 (.e qH:aj (.agg ar) (gU il))]<|rQ (.ie [gU il,iP 0]) (.ie [gU (jV (jq a b) p up),iP (jL (jq a b) p up)]) (by rw[e1,(AT p up).1,(AT p up).2])) 
 .by_cases b0:b.m=0
  .have e1:jq a b=il:=by unfold jq;rw[b0,cH];rfl
   exact ak call186 func186 (ae [.o 16 (.e (wA _ _):aj (.sl true 2 3 λi_ j_=>(iq a++iq b).getD (i_*3+j_) (.v (.bool false))) (jZ [a,b])),ag [iP p,jZ [a,b]] (wW _ _ _ aD aD aC aC),ai 19 ((0:Int) != 0) aE,ai 25 (((gR a.m).length:Int)==0) (ns (o9 a0)),ah 30 (((gR b.m).length:Int)==0) (r9 (tW.2 b0)),.o 32 (.e qH:aj (.agg ar) (gU il))]<|rQ (.ie [gU il,iP 0]) (.ie [gU (jV (jq a b) p up),iP (jL (jq a b) p up)]) (by rw[e1,(AT p up).1,(AT p up).2])) 
  .have va:=ha.gR;have vb:=hb.gR;have xa:=ha.exp;have xb:=hb.exp;have ra:=ha.range.resolve_left a0;have rb:=hb.range.resolve_left b0;have bm:=Qz a.m b.m;have z1:(gR (a.m*b.m)).length<=256:=pd aC;have m0:a.m*b.m≠0:=df a0 b0;have h0:a.m*b.m≠0\/a.m*b.m=0/\a.e+b.e=0/\false=false:=.inl m0;have hm:false=true->p<gZ (a.m*b.m):=λh=>by cases h
   obtain⟨q1,q2⟩:=W7 (a.neg != b.neg) up (a.m*b.m) (a.e+b.e) p m0;change jV (jq a b) p up=_ at q1;change jL (jq a b) p up=_ at q2;exact ak call186 func186 (ae [.o 16 (.e (wA _ _):aj (.sl true 2 3 λi_ j_=>(iq a++iq b).getD (i_*3+j_) (.v (.bool false))) (jZ [a,b])),ag [iP p,jZ [a,b]] (wW _ _ _ aD aD aC aC),ai 19 ((0:Int) != 0) aE,ai 25 (((gR a.m).length:Int)==0) (ns (o9 a0)),ai 30 (((gR b.m).length:Int)==0) (ns (o9 b0)),ag [gV (gR a.m),gV (gR b.m)] (xK _ _ aC aC aC),ij (a.e+b.e) aC,.c (Gl (! (a.neg==b.neg)) (a.m*b.m) (a.e+b.e) false up p aC aD aC aC aC aC aD)]<|rQ (.ie [gU (jU (!(a.neg==b.neg)) (a.m*b.m) (a.e+b.e) false p up),iP (jJ (!(a.neg==b.neg)) (a.m*b.m) (a.e+b.e) false p up)]) (.ie [gU (jV (jq a b) p up),iP (jL (jq a b) p up)]) (by rw[q1,q2];rfl)) 
def ail(a b:Dy)(p:Nat)(ha:a.gX)(hb:b.gX)(ib:8<=p)(gW:p<=512):gQ 151 [gU a,gU b,iP p] (.ie [gU (jV (iI a b) p false),iP (jL (iI a b) p false)]):=
 ak call151 func151 (af [.c (WR a b p false aD aD aC aC)]) 
def WQ(a b:Dy)(p:Nat)(ha:a.gX)(hb:b.gX)(ib:8<=p)(gW:p<=512):gQ 152 [gU a,gU b,iP p] (.ie [gU (jV (iI a b) p true),iP (jL (iI a b) p true)]):=
 ak call152 func152 (af [.c (WR a b p true aD aD aC aC)]) 
def JV(a b:Dy)(p:Nat)(ha:a.gX)(hb:b.gX)(ib:8<=p)(gW:p<=512):gQ 154 [gU a,gU b,iP p] (.ie [gU (jV (jq a b) p false),iP (jL (jq a b) p false)]):=
 ak call154 func154 (af [.c (WY a b p false aD aD aC aC)]) 
def JW(a b:Dy)(p:Nat)(ha:a.gX)(hb:b.gX)(ib:8<=p)(gW:p<=512):gQ 155 [gU a,gU b,iP p] (.ie [gU (jV (jq a b) p true),iP (jL (jq a b) p true)]):=
 ak call155 func155 (af [.c (WY a b p true aD aD aC aC)]) 
end Go.Proofs.YtkdddbdjilcofaaGreatDoor
namespace Go.Proofs.YtkdddbdjilcofaaGreatDoor.Fp
def agj{U V P q:Nat}(hP:0<P)(hV:9223372036854775808<=V/P)(hUV:U<4294967296*V)(h1:q<=4294967295)(h2:q<=U/P/(V/P))(h3:q=4294967295\/U/P/(V/P)<=q):
 U/V<=q/\q<=U/V+1:=by
 have Mf:0<V/P:= aC ;have wD:0<V:=by
  apply bM;intro h;have:V=0:= aC ;rw[this,Nat.zero_div]at Mf;omega
 have hVm:=cB V P;have hVr:=bF V hP;have hUm:=cB U P;have hUr:=bF U hP;constructor
 .
  rcases h3 with h3|h3
  .have:U/V<4294967296:=by rw[cv wD];exact hUV
   omega
  .refine bg ?_ h3;rw[cT Mf,cT hP,bA];have h4:V/P*P<=V:=cU V P;exact bg (cD _ h4) (cU U V)
 .
  have h4:q*(V/P)<=U/P:=(cT Mf).1 h2;have h5:q*V<=q*(V/P)*P+q*P:=by
   have:V<=V/P*P+P:=by rw[bD];omega
   have:=cD q this;rw[bO,<-bA]at this;exact this
  have h6:q*(V/P)*P<=U:=bg (bK P h4) (cU U P);have h7:(q+1)*P<=V/P*P:=bK P aC;have h8:V/P*P<=V:=cU V P;have h9:q*V<U+V:=by
   rw[bS,bU]at h7;omega
  apply bM;intro h;have pM:(U/V+2)*V<=q*V:=bK V aC;have rJ:=cB U V;have h12:=bF U wD;rw[bS,bD (U/V)]at pM;omega
def aco{x v w third q rest:Nat}(hx:q*v+rest=x)(hq:q<=4294967295)(hw:w<4294967296)(hv:0<v)
 (h:4294967296<=rest\/q*w<=rest*4294967296+third):q<=(x*4294967296+third)/(v*4294967296+w):=by
 rw[cT aC,bO,<-hx];have e:q*(v*4294967296)=q*v*4294967296:=by rw[bA]
 rw[e,bS];rcases h with h|h
 .have h1:q*w<=4294967295*4294967295:=dj hq aC ;omega
 .omega
def Ry{x v w third q rest:Nat}(hx:q*v+rest=x)(hv:0<v)(h:rest*4294967296+third<q*w):
 (x*4294967296+third)/(v*4294967296+w)<=q-1/\0<q/\(q-1)*v+(rest+v)=x:=by
 have hq:0<q:=by
  apply bM;intro h';have:q=0:= aC ;subst this;rw[cC]at h;omega
 obtain⟨r,rfl⟩:∃ r,q=r+1:=⟨q-1,aC⟩
 refine⟨?_,hq,?_⟩
 .have e1:(r+1)*(v*4294967296+w)=(r+1)*v*4294967296+(r+1)*w:=by rw[bO,<-bA]
  have e2:((r+1)*v+rest)*4294967296=(r+1)*v*4294967296+rest*4294967296:=bS _ _ _;have:(x*4294967296+third)/(v*4294967296+w)<r+1:=by
   have hd:0<v*4294967296+w:= aC ;have e4:x*4294967296=(r+1)*v*4294967296+rest*4294967296:=hx▸e2;refine(cv hd).2 ?_;rw[e1,e4];clear e1 e2 e4 hd hx hq;generalize (r+1)*v=a at *
   generalize (r+1)*w=z at *
   exact Nat.add_lt_add_left h _|>λh=>by rw[<-cQ]at h;exact h
  omega
 .have e3:(r+1)*v=r*v+v:=gH r v;rw[ep];rw[e3]at hx;clear e3 h hq;generalize r*v=a at *
  omega
def acq{x v w third:Nat}(hv:0<v)(ht:third<4294967296):(x*4294967296+third)/(v*4294967296+w)<=x/v:=by
 have h1:(x*4294967296+third)/(v*4294967296+w)<=(x*4294967296+third)/(v*4294967296):=gI aC aC;refine bg h1 ?_;rw[bD v,<-dm];have:(x*4294967296+third)/4294967296=x:= aC ;rw[this];exact bc _
structure xh(O0:List Nat)(j q:Nat)(V:List Nat)(k:Nat)(O:List Nat)(c b:Nat):Prop where
 len:O.length=O0.length
 ok:iD O
 vl:val O+q*(4294967296^j*val (V.take k))=val O0+4294967296^(j+k)*(c+b)
 pR:∀ i,j+k<=i->O.getD i 0=O0.getD i 0
 QL:c<4294967296
 Qw:b<=1
def xh.start{O0:List Nat}(h:iD O0)(j q:Nat)(V:List Nat):xh O0 j q V 0 O0 0 0:=
 ⟨rfl,h,by simp[val],λ_ _=>rfl,aE,aE⟩
def akI{q y c b u:Nat}(hq:q<=4294967295)(hy:y<4294967296)(hc:c<4294967296)(hb:b<=1)(hu:u<4294967296):
 q*y+c<18446744073709551616/\(q*y+c)/4294967296<4294967296 /\
 ((u+18446744073709551616-(q*y+c)%4294967296-b)%18446744073709551616)/9223372036854775808<=1 /\
 ((u+18446744073709551616-(q*y+c)%4294967296-b)%18446744073709551616)%4294967296+(q*y+c)%4294967296+b =
  u+4294967296*(((u+18446744073709551616-(q*y+c)%4294967296-b)%18446744073709551616)/9223372036854775808):=by
 have h1:q*y<=4294967295*4294967295:=dj hq aC;generalize q*y=z at *
 omega
def xh.step{O0 V O:List Nat}{j q k c b:Nat}(h:xh O0 j q V k O c b){u' b':Nat}(hk:k<V.length)(hj:j+V.length<O0.length)(hu:u'<4294967296)(hc:(q*V.getD k 0+c)/4294967296<4294967296)(hb:b'<=1)
 (hd:u'+(q*V.getD k 0+c)%4294967296+b=O.getD (j+k) 0+4294967296*b'):
 xh O0 j q V (k+1) (O.set (j+k) u') ((q*V.getD k 0+c)/4294967296) b':=by
 have pO:j+k<O.length:=by rw[h.len];omega
 refine⟨by rw[cY];exact h.len,h.ok.set _ hu,?_,λi hi=>?_,hc,hb⟩
 .have e:=er (q*V.getD k 0+c) 4294967296;have h1:=CF (x:=u') pO;have h2:=h.vl;have h3:u'+(q*V.getD k 0+c)+b=O.getD (j+k) 0+4294967296*((q*V.getD k 0+c)/4294967296+b'):= aC ;have h4:=congrArg (4294967296^(j+k) * ·) h3;simp only[bO]at h4;rw[Ba,bO (4294967296^j),bO q,<-bA (4294967296^j),<-bh,show q*(4294967296^(j+k)*V.getD k 0)=4294967296^(j+k)*(q*V.getD k 0)from dK _ _ _,
   show j+(k+1)=j+k+1 from rfl,bC,bA,bO 4294967296,bO (4294967296^(j+k))]
  rw[bO]at h2;omega
 .rw [Ac aC];exact h.pR i aC 
def xh.Np{O0 V O:List Nat}{j q c b:Nat}(h:xh O0 j q V V.length O c b)(hj:j+V.length<O0.length){t:Nat}
 (ht:t=(O.getD (j+V.length) 0+18446744073709551616-c-b)%18446744073709551616):
 (O.set (j+V.length) (t%4294967296)).length=O0.length/\iD (O.set (j+V.length) (t%4294967296))/\t/9223372036854775808<=1 /\
 val (O.set (j+V.length) (t%4294967296))+q*(4294967296^j*val V)=val O0+4294967296^(j+V.length+1)*(t/9223372036854775808) /\
 ∀ i,j+V.length<i->(O.set (j+V.length) (t%4294967296)).getD i 0=O0.getD i 0:=by
 have pO:j+V.length<O.length:=by rw[h.len];omega
 have hc:=h.QL;have hb:=h.Qw;have hu:=h.ok.getD (j+V.length);have hd:t%4294967296+c+b=O.getD (j+V.length) 0+4294967296*(t/9223372036854775808):= aC ;refine⟨by rw[cY];exact h.len,h.ok.set _ (bF _ aE),aC,?_,λi hi=>by rw[Ac aC];exact h.pR i aC⟩;have h1:=CF (x:=t%4294967296) pO;have h2:=h.vl;rw[eG]at h2;have h4:=congrArg (4294967296^(j+V.length) * ·) hd;simp only[bO]at h4;rw[bC,bA];rw[bO]at h2;omega
structure xf(O0:List Nat)(j:Nat)(V:List Nat)(k:Nat)(O:List Nat)(c:Nat):Prop where
 len:O.length=O0.length
 ok:iD O
 vl:val O+4294967296^(j+k)*c=val O0+4294967296^j*val (V.take k)
 pR:∀ i,j+k<=i->O.getD i 0=O0.getD i 0
 K6:c<=1
def xf.start{O0:List Nat}(h:iD O0)(j:Nat)(V:List Nat):xf O0 j V 0 O0 0:=
 ⟨rfl,h,by simp[val],λ_ _=>rfl,aE⟩
def xf.step{O0 V O:List Nat}{j k c:Nat}(h:xf O0 j V k O c)(hV:iD V)(hk:k<V.length)(hj:j+V.length<O0.length):
 xf O0 j V (k+1) (O.set (j+k) ((O.getD (j+k) 0+V.getD k 0+c)%4294967296)) ((O.getD (j+k) 0+V.getD k 0+c)/4294967296):=by
 have pO:j+k<O.length:=by rw[h.len];omega
 have hu:=h.ok.getD (j+k);have hy:=hV.getD k;have hc:=h.K6;refine⟨by rw[cY];exact h.len,h.ok.set _ (bF _ aE),?_,λi hi=>by rw[Ac aC];exact h.pR i aC,aC⟩;have h1:=CF (x:=(O.getD (j+k) 0+V.getD k 0+c)%4294967296) pO;have h2:=h.vl;have h4:=congrArg (4294967296^(j+k) * ·) (er (O.getD (j+k) 0+V.getD k 0+c) 4294967296);simp only[bO]at h4;rw[Ba,bO (4294967296^j),<-bA (4294967296^j),<-bh,show j+(k+1)=j+k+1 from rfl,bC,bA];omega
def xf.Np{O0 V O:List Nat}{j c:Nat}(h:xf O0 j V V.length O c)(hj:j+V.length<O0.length):
 (O.set (j+V.length) ((O.getD (j+V.length) 0+c)%4294967296)).length=O0.length/\iD (O.set (j+V.length) ((O.getD (j+V.length) 0+c)%4294967296)) /\
 (∃ κ,κ<=1/\val (O.set (j+V.length) ((O.getD (j+V.length) 0+c)%4294967296))+4294967296^(j+V.length+1)*κ=val O0+4294967296^j*val V) /\
 ∀ i,j+V.length<i->(O.set (j+V.length) ((O.getD (j+V.length) 0+c)%4294967296)).getD i 0=O0.getD i 0:=by
 have pO:j+V.length<O.length:=by rw[h.len];omega
 have hu:=h.ok.getD (j+V.length);have hc:=h.K6;refine⟨by rw[cY];exact h.len,h.ok.set _ (bF _ aE),⟨(O.getD (j+V.length) 0+c)/4294967296,aC,?_⟩,λi hi=>by rw[Ac aC];exact h.pR i aC⟩;have h1:=CF (x:=(O.getD (j+V.length) 0+c)%4294967296) pO;have h2:=h.vl;rw[eG]at h2;have h4:=congrArg (4294967296^(j+V.length) * ·) (er (O.getD (j+V.length) 0+c) 4294967296);simp only[bO]at h4;rw[bC,bA];omega
def YI{O:List Nat}(h:iD O){k:Nat}(hz:∀ i,k<=i->O.getD i 0=0):val O<4294967296^k:=by
 by_cases hk:O.length<=k
 .exact bJ (oo h) (bH aE hk)
 .rw [Ec O k aC];have:val (O.drop k)=0:=by
   rw[GL];intro x hx;obtain⟨i,hi⟩:=dp.1 hx;rw[ez]at hi;have:=hz (k+i) aC;rw[bd,hi]at this;exact this
  rw[this,cH,bR];have h1:=oo (h.take k);rw[b8,dc aC]at h1;exact h1
def akR{O:List Nat}(h:iD O){k:Nat}(hv:val O<4294967296^k){i:Nat}(hi:k<=i):O.getD i 0=0:=by
 have h1:val (O.drop k)=0:=by rw[GK h,cO hv]
 rw[GL]at h1;rw[bd];cases hg:O[i]? with
 |none=>rfl
 |some x=>exact h1 x (dp.2 ⟨i-k,by rw[ez,(aC:k+(i-k)=i)];exact hg⟩)
def Rz{u u' V P x:Nat}(hP:0<P)(hV:0<V)(h:u'+x*(P*V)=u)(hx:u/P/V<=x):x=u/P/V/\u'<V*P:=by
 have h1:x*V<=u/P:=by
  rw[cT hP,bA,bD V P];omega
 have h2:x<=u/P/V:=(cT hV).2 h1;have h3:x=u/P/V:= aC ;refine⟨h3,?_⟩;have e1:=cB u P;have e2:=bF u hP;have e3:=cB (u/P) V;have e4:=bF (u/P) hV;rw[<-h3]at e3;have e5:P*(u/P)=x*(P*V)+P*(u/P%V):=by
  rw[<-e3,bO,e3,bD V x,dK]
 have e6:P*(u/P%V)+P<=V*P:=by
  rw[bD V P,<-Nat.mul_succ];exact cD P e4
 omega
def acp{u u' u'' V P R x κ:Nat}(hP:0<P)(hV:0<V)(h:u'+x*(P*V)=u+R)(h':u'<R)(hx:x<=u/P/V+1)
 (hk:κ<=1) (h2:u''+R*κ=u'+P*V) (h3:u''<R):0<x/\x-1=u/P/V/\u''+(x-1)*(P*V)=u/\u''<V*P:=by
 have nN:u/P<x*V:=by
  rw[cv hP,bA,bD V P];omega
 have As:u/P/V<x:=by rw[cv hV];exact nN
 have tc:x=u/P/V+1:=Nat.le_antisymm hx As;obtain⟨y,hy⟩:∃ y,y=u/P/V:=⟨_,rfl⟩
 rw[<-hy]at tc;subst tc;rw[ep];have e0:(y+1)*(P*V)=y*(P*V)+P*V:=gH _ _;have e1:y*(P*V)<=u:=by
  have:y*V<=u/P:=by rw[hy];exact cU _ _
  have:=(cT hP).1 this;rw[bA,bD V P]at this;exact this
 have hκ:κ=1:=by
  apply bM;intro q;obtain rfl:κ=0:= aC ;omega
 subst hκ;have e2:u''+y*(P*V)=u:= aC ;exact⟨aC,hy,e2,(Rz hP hV e2 aC).2⟩
def sW(q rest third v w x:Nat):Prop:=rest+x*v<4294967296/\(rest+x*v)*4294967296+third<(q-x)*w
def Ru{X q rest third v w:Nat}(hx:q*v+rest=X)(hq:q<=4294967295)(hv:2147483648<=v)(hw:w<4294967296):
 ∃ N,N<=2/\N<=q/\(∀ x,x<N->sW q rest third v w x)/\¬sW q rest third v w N/\q-N<=(X*4294967296+third)/(v*4294967296+w)/\(N=0\/(X*4294967296+third)/(v*4294967296+w)<=q-N):=by
 have stop:∀ {q' r':Nat},q'*v+r'=X->q'<=4294967295->¬(r'<4294967296/\r'*4294967296+third<q'*w)->q'<=(X*4294967296+third)/(v*4294967296+w):=fun {q' r'} h1 h2 h3=>
  aco h1 h2 hw aC (by
   by_cases hr:4294967296<=r'
   .exact .inl hr
   .refine .inr (Nat.le_of_not_lt λhn=>h3 ⟨Nat.lt_of_not_le hr,hn⟩))
 by_cases h0:sW q rest third v w 0
 .have g0:=h0;unfold sW at g0;rw[cC,bR,dr]at g0;obtain⟨k1,k2,k3⟩:=Ry hx aC g0.2;by_cases h1:sW q rest third v w 1
  .have g1:=h1;unfold sW at g1;rw[bU]at g1;obtain⟨l1,l2,l3⟩:=Ry k3 aC g1.2;have h2:¬sW q rest third v w 2:=λh=>by unfold sW at h;omega
   refine⟨2,bc _,aC,λx hx=>?_,h2,?_,.inr l1⟩
   .obtain rfl|rfl:x=0\/x=1:= aC 
    .exact h0
    .exact h1
   .refine stop (r':=rest+v+v) l3 aC λh=> aC 
  .refine ⟨1,aE,k2,λx hx=>?_,h1,?_,.inr k1⟩
   .obtain rfl:x=0:= aC ;exact h0
   .unfold sW at h1;rw[bU]at h1;exact stop k3 aC h1
 .refine ⟨0,aE,bV _,λx hx=>absurd hx (bk x),h0,?_,.inl rfl⟩;unfold sW at h0;rw[cC,bR,dr]at h0;exact stop hx hq h0
def acB{a b s q r:Nat}(hb:0<b)(h:r+b*2^s*q=a*2^s)(hr:r<b*2^s):q=a/b/\r=a%b*2^s:=by
 have hp:0<2^s:=bn aE;have h1:r%2^s=0:=by
  have:=congrArg (· % 2^s) h;simp only[fC]at this;rw[bA,dK,dP]at this;exact this
 obtain⟨t,ht⟩:∃ t,r=t*2^s:=⟨r/2^s,by rw[Nat.div_mul_cancel (Nat.dvd_of_mod_eq_zero h1)]⟩
 subst ht;have h2:(t+b*q)*2^s=a*2^s:=by rw[bS,<-h,fX]
 have h3:=amN hp h2;have h4:t<b:=amO hr;constructor
 .rw [<-h3,eN _ _ hb,cO h4,bY]
 .rw [<-h3,dP,bX h4]
def Yt{O:List Nat}(h:iD O){j n:Nat}(hn:2<=n)(hz:∀ i,j+n<i->O.getD i 0=0):
 val O/4294967296^j/4294967296^(n-2)=(O.getD (j+n) 0*4294967296+O.getD (j+n-1) 0)*4294967296+O.getD (j+n-2) 0:=by
 rw[dm,<-bh,<-GK h];have e:∀ (l:List Nat),iD l->(∀ i,2<i->l.getD i 0=0)->val l=(l.getD 2 0*4294967296+l.getD 1 0)*4294967296+l.getD 0 0:=by
  intro l hl hz;rcases l with _|⟨a,_|⟨b,_|⟨c,l⟩⟩⟩
  .rfl
  .simp [val]
  .simp [val];omega
  .have:val l=0:=by
    rw[GL];intro x hx;obtain⟨i,hi⟩:=dp.1 hx;have:=hz (i+3) aC;rw[bd]at this;simp only[amj,hi]at this;exact this
   simp[val,this];omega
 have g:∀ i,(O.drop (j+(n-2))).getD i 0=O.getD (j+(n-2)+i) 0:=λi=>by
  rw[bd,ez,bd]
 rw[e _ (h.drop _) (λi hi=>by rw[g];exact hz _ aC),g,g,g];rw[(aC:j+(n-2)+2=j+n),(aC:j+(n-2)+1=j+n-1),(aC:j+(n-2)+0=j+n-2)]
def akP{V:List Nat}(h:iD V){n:Nat}(hn:2<=n)(hl:V.length=n):val V/4294967296^(n-2)=V.getD (n-1) 0*4294967296+V.getD (n-2) 0:=by
 have:=Yt (O:=V) h (j:=0) (n:=n) hn (λi hi=>by rw[bd,b7 aC];rfl);rw[cw,eI,bY]at this;rw[this,show V.getD n 0=0 by rw[bd,b7 aC];rfl];omega
end Go.Proofs.YtkdddbdjilcofaaGreatDoor.Fp
namespace Go.Proofs.YtkdddbdjilcofaaGreatDoor
open Go.RowKit Fp
def Rx(w:World)(b:Nat)(L:List Nat)(R:List Value):Prop:=w.heap[b]? = some (.cells (oe L++R).toArray 96 (0,0))
section
variable {w w':World} {b:Nat} {L:List Nat} {R:List Value}
def Rx.lt(h:Rx w b L R):b<w.heap.size:=(cR.1 h).1
def Rx.cell(h:Rx w b L R){i:Nat}(hi:i<L.length):w.cell? ⟨b,i,none⟩=some (.int .u32 (L.getD i 0:Int)):=by
 unfold Rx at h;simp only[World.cell?,h];simp[oe,hi,eA]
def Rx.frozen(h:Rx w b L R)(i:Nat):w.frozen? ⟨b,i,none⟩=false:=by
 unfold Rx at h;simp[World.frozen?,h]
def Rx.set(h:Rx w b L R){i:Nat}(hi:i<L.length)(x:Nat):Rx (w.setCell ⟨b,i,none⟩ (.int .u32 (x:Int))) b (L.set i x) R:=by
 unfold Rx at h ⊢;simp only[World.setCell,eP,h];simp[oe,List.map_set,List.set_append,hi]
def Rx.pR(h:Rx w b L R)(hb:w'.heap[b]? = w.heap[b]?):Rx w' b L R:=by unfold Rx at h ⊢;rw[hb];exact h
end
structure sS(b:Nat)(w w':World):Prop where
 below:Below b w w'
 size:w'.heap.size=w.heap.size
 oE:∀ x,x≠b->w'.heap[x]? = w.heap[x]?
def sS.refl(b:Nat)(w:World):sS b w w:=⟨Below.refl _ _,rfl,λ_ _=>rfl⟩
def sS.Gx{b:Nat}{w w':World}(h:sS b w w')(i:Nat)(v:Value):sS b w (w'.setCell ⟨b,i,none⟩ v):=
 ⟨h.below.setCell (p:=⟨b,i,none⟩) (bc _) v,by
  have:(w'.setCell ⟨b,i,none⟩ v).heap.size=w'.heap.size:=by simp[World.setCell]
  rw[this,h.size],λx hx=>by
  rw[<-h.oE x hx];simp only[World.setCell,eP];rw[aY (λe=>hx e.symm)]⟩
def Px(b:Nat)(A:Option Addr):Prop:=∀ b' o s,A=some ⟨b',o,s⟩->b'≠b
def Sl.oE{w w':World}{A:Option Addr}{c b:Nat}{L:List Nat}(h:Sl w A c L)(ha:Px b A)(ho:sS b w w'):Sl w' A c L:=
 ⟨h.cap,h.qW,h.ok,h.xL,λi x hx=>by
  obtain⟨b',o,e,h1,h2⟩:=h.cell i x hx;refine⟨b',o,e,by rw[ho.size];exact h1,?_⟩;rw[<-h2];exact(World.cell?_of_block (w:=w) (w':=w') (ho.oE b' (ha _ _ _ e)))⟩
def YT{u m b:Nat}(hm:m<4294967296)(hb:b<=4294967296):
 IntKind.u64.wrap (IntKind.u64.wrap ((u:Int)-m)-(b:Int))=(((u+18446744073709551616-m-b)%18446744073709551616:Nat):Int):=by
 rw[IntKind.wrap_u64,IntKind.wrap_u64];omega
def akG(b j cu c q:Nat)(O V:List Nat)(R:List Value)(A:Option Addr)(w:World)(hu:Rx w b O R)(hv:Sl w A c V)(hA:Px b A)(me:iD O)(hj:j+V.length<O.length)(hq:q<=4294967295)(hl:O.length<=1000000):
 Calls prog 270 #[.slice (some ⟨b,j,none⟩) (V.length+1) cu,.slice A V.length c,.int .u64 q] w λe w'=>∃ (O':List Nat) (δ:Nat),e = .returned (.bool (decide (δ=1)))/\Rx w' b O' R/\O'.length=O.length/\iD O'/\δ<=1 /\
  val O'+q*(4294967296^j*val V)=val O+4294967296^(j+V.length+1)*δ/\(∀ i,j+V.length<i->O'.getD i 0=O.getD i 0)/\sS b w w':=by
 obtain⟨n,hn⟩:∃ n,n=V.length:=⟨_,rfl⟩
 rw[<-hn]at hj ⊢;have HN:=amW hn;have HJ:=amW hj;clear hn;have jx:n<=1000000:= aC ;have My:j<=1000000:= aC ;clear hj;have HT0:=amW (xh.start me j q V);clear me;have HO:=amW (sS.refl b w);have HU:=amW hu;clear hu;go_enter func270,ntmps270;go_wp2;go_loopw [7,8,9,10,11,12,16] (λcy bo _ _ _ _ i wr=>∃ (k c' b':Nat) (O':List Nat),k<=n/\i = .int .i64 k/\cy = .int .u64 c'/\bo = .int .u64 b'/\xh O j q V k O' c' b'/\Rx wr b O' R/\sS b w wr) (λ_ _ _ _ _ _ i _=>n-(intOf i).toNat)
 case atStart=>
  exact⟨0,0,0,O,bV _,rfl,rfl,rfl,HT0.out,HU.out,HO.out⟩
 case round=>
  obtain⟨k,c',b',O',hk,rfl,rfl,rfl,ht,hR,ho⟩:=hrel;clear HT0 HO HU;have HTk:=amW ht;have iO:=ht.Qw;have Aj:=ht.QL;have HOl:=amW ht.len;clear ht;have MV:=hv.oE hA ho;by_cases im:k<n
  .have yF:k<V.length:=by rw[<-HN.out];exact im
   obtain⟨ab,ao,e1,_,c1⟩:=MV.mu yF;have qU:V.getD k 0<4294967296:=hv.ok.getD k;have Us:V[k]=V.getD k 0:=by simp[bd,yF]
   rw[Us]at c1;have pO:j+k<O'.length:=by rw[HOl.out];have:=HJ.out;omega
   have c2:=hR.cell pO;have c3:=hR.frozen (j+k);have Fy:O'.getD (j+k) 0<4294967296:=HTk.out.ok.getD _;obtain⟨uI,kB,Fv,T8⟩:=akI hq qU Aj iO Fy;have HST:=amW (HTk.out.step (b':=((O'.getD (j+k) 0+18446744073709551616-(q*V.getD k 0+c')%4294967296-b')%18446744073709551616)/9223372036854775808) yF (by rw[<-HN.out];exact HJ.out) (bF _ aE) kB Fv T8);have HRS:=amW (λx:Nat=>hR.set pO x);have HOS:=amW (λ(v:Value)=>ho.Gx (j+k) v);clear hR ho HTk pO Us yF T8 HOl MV;subst e1;have I3:q*V.getD k 0<=4294967295*4294967295:=dj hq aC;have B2:IntKind.u64.wrap ((q:Int)*(V.getD k 0:Int))=((q*V.getD k 0:Nat):Int):=by rw[<-ej];exact sd _ aC 
   generalize V.getD k 0=y at *
   generalize q*y=z at *
   have MW:IntKind.u64.wrap ((z:Int)+c')=((z+c':Nat):Int):=by rw[<-Int.natCast_add];exact sd _ aC 
   generalize O'.getD (j+k) 0=u at *
   generalize z+c'=s at *
   have al3:bits .and .u64 (s:Int) 4294967295=((s%4294967296:Nat):Int):=by rw[El s aC];omega
   have al2:s%4294967296<4294967296:=bF _ aE;have hd:(s:Int)/4294967296=((s/4294967296:Nat):Int):= aC ;generalize s%4294967296=m at *
   generalize s/4294967296=s2 at *
   have hsb:=YT (u:=u) (m:=m) (b:=b') aC aC;generalize (u+18446744073709551616-m-b')%18446744073709551616=t at *
   have yB:(j:Int)+k=((j+k:Nat):Int):= aC ;go_wp2;go_roundw
   case rel=>
    have e1:((t:Int)%4294967296)=((t%4294967296:Nat):Int):= aC ;exact⟨k+1,s2,t/9223372036854775808,O'.set (j+k) (t%4294967296),aC,by go_num,by go_num,by go_num,HST.out,by rw[e1];exact HRS.out _,HOS.out _⟩
   case measure=>simp[intOf];omega
  .obtain rfl:k=n:= aC ;have Mx:j+k<O.length:=HJ.out;have HTk':=amW (show xh O j q V V.length O' c' b' by rw[<-HN.out];exact HTk.out);have HL:=HTk'.out.Np (t:=(O'.getD (j+k) 0+18446744073709551616-c'-b')%18446744073709551616) (by rw[<-HN.out];exact Mx) (by rw[<-HN.out]);rw[<-HN.out]at HL;have HT:=amW HL;clear HL;have pO:j+k<O'.length:=by rw[HOl.out];exact Mx
   have c2:=hR.cell pO;have c3:=hR.frozen (j+k);have Fy:O'.getD (j+k) 0<4294967296:=HTk.out.ok.getD _;have HRS:=amW (λx:Nat=>hR.set pO x);have HOS:=amW (λ(v:Value)=>ho.Gx (j+k) v);clear hR ho HTk HTk' pO Mx HOl MV;generalize O'.getD (j+k) 0=u at *
   have hsb:=YT (u:=u) (m:=c') (b:=b') Aj aC;have htl:(u+18446744073709551616-c'-b')%18446744073709551616<18446744073709551616:=bF _ aE;generalize (u+18446744073709551616-c'-b')%18446744073709551616=t at *
   have yB:(j:Int)+k=((j+k:Nat):Int):= aC ;go_wp2;go_ret;have e1:((t:Int)%4294967296)=((t%4294967296:Nat):Int):= aC ;obtain⟨t1,t2,t3,t4,t5⟩:=HT.out;exact⟨O'.set (j+k) (t%4294967296),t/9223372036854775808,J1 (a:=(((t:Int)/9223372036854775808)==1)) (by rw[dz,fP,gz];omega),by rw[e1];exact HRS.out _,t1,t2,t3,t4,t5,HOS.out _⟩
def Wg(A:Option Addr)(c:Nat)(L:List Nat)(n:Nat)(w:World)(hs:Sl w A c L)(hlen:L.length<=100000000)(hn:n<=65536):
 Calls prog 178 #[.slice A L.length c,.int .i64 n] w (λe w'=>∃ T v,e = .returned v/\val T=val L*2^n/\T.length=n/32+(iz L).length+1/\Ow w' w.heap.size v T/\iB w w'):=by
 have hT:=amW (uT A c L w hs);have kB:=hs.ud;have nj:=pj L;have hC:=kB.cap;have hL:=hs.qW;unfold mr at nj;have hv:=amW (pJ L);generalize iz L=M at *
 obtain⟨m,hm⟩:∃ m,m=M.length:=⟨_,rfl⟩
 rw[<-hm]at hT nj hC;have HM:=amW hm;clear hm;have vH:=VC (n/32) (n/32+m+1) aC aC;rw[show((n/32:Nat):Int)=n/32 by omega,show((n/32+m+1:Nat):Int)=n/32+m+1 by omega]at vH;have L7:=amW (Ow.AE w w.heap.size (n/32) (n/32+m+1) (bc _) aC aC);go_enter func178,ntmps178;go_wp2_with fail;refine hT.out.mono ?_;rintro e w' ⟨rfl,rfl⟩;go_wp2;go_loopw [5,6,23] (λv cy i wr=>∃ (k q:Nat) (O:List Nat),k<=m/\i = .int .i64 k/\cy = .int .u64 q/\q<2^(n%32)/\O.length=n/32+k/\val O+4294967296^(n/32+k)*q=val (M.take k)*2^(n%32)*4294967296^(n/32)/\Ow wr w.heap.size v O/\iB w wr) (λ_ _ i _=>m-(intOf i).toNat)
 case atStart=>
  exact⟨0,0,List.replicate (n/32) 0,bV _,rfl,rfl,bn aE,aH,by simp[CE],L7.out,iB.alloc _ _⟩
 case round=>
  obtain⟨k,q,O,hk,rfl,rfl,hq,hO,kF,oi,hb⟩:=hrel;have HV:=amW kF;have HO:=amW hO;have Ta:O.length<=200000000:= aC ;have wM:=amW hq;clear kF hO hq;obtain⟨OA,Oc,rfl,BP⟩:=oi.sl;by_cases im:k<m
  .have BH:k<M.length:=by have:=HM.out;omega
   obtain⟨ab,ao,rfl,_,c1⟩:=(kB.below hb).mu BH;have ng:M[k]<4294967296:=kB.ok.get BH;have HX:=amW (XV (c:=q) (s:=n%32) (n0:=n/32) BH HO.out HV.out);generalize M[k]=x at *
   obtain⟨hw,Av,yL⟩:=XW x q (n%32) ng (bF _ aE) wM.out;generalize x*2^(n%32)+q=z at *
   have FB:=amW yL;clear yL;have mo:O.length+[z%4294967296].length<=10000000000:= aN ;go_wp2_with (at_builtin;go_must (refine zD aG _ _ aG w.heap.size _ O aG (oi.alloc _) _ _ _ [z%4294967296] aG aG (Sl.DN _ _ (z%4294967296) aC aC) mo (wS hb.size _) ?_);intro v' w1 wK hg ss)
   go_roundw
   case rel=>
    exact⟨k+1,z/4294967296,O++[z%4294967296],aC,by go_num,by go_num,FB.out,by rw[cA,HO.out];rfl,HX.out,wK,(hb.trans (iB.alloc _ _)).own _ _ (oi.alloc _) hg⟩
   case measure=>simp[intOf];omega
  .obtain rfl:k=m:= aC ;have mo:O.length+[q].length<=10000000000:= aN ;have afl:q<4294967296:=by
    have:=wM.out;have hp:2^(n%32)<=2^31:=bH aE aC;have e31:(2:Nat)^31=2147483648:= aE ;omega
   have hqm:(q:Int)%4294967296=q:= aC ;go_wp2_with (at_builtin;go_must (refine zD aG _ _ aG w.heap.size _ O aG (oi.alloc _) _ _ _ [q] aG aG (Sl.DN _ _ q aC aC) mo (wS hb.size _) ?_);intro v' w1 wK hg ss)
   go_ret;refine⟨O++[q],v',rfl,?_,by rw[cA,HO.out,<-HM.out];rfl,wK,(hb.trans (iB.alloc _ _)).own _ _ (oi.alloc _) hg⟩;have h:=HV.out;rw[cN (by rw[HM.out];exact bc _)]at h;rw[A9,HO.out,se,Ku,cH,bR,h,<-hv.out,tn,bA,<-bh];congr 2;omega
end Go.Proofs.YtkdddbdjilcofaaGreatDoor
namespace Go.Proofs.YtkdddbdjilcofaaGreatDoor.Fp
def oK(n k:Nat):Nat:=n/4294967296^k%4294967296
def Ll(n k:Nat):oK n k<4294967296:=bF _ aE 
def acn(k:Nat):oK 0 k=0:=by unfold oK;rw[Nat.zero_div]
def pw(k:Nat):0<4294967296^k:=bn aE 
def Iy{L:List Nat}(h:iD L)(k:Nat):L.getD k 0=oK (val L) k:=by
 unfold oK;rw[<-GK h];by_cases hk:k<L.length
 .rw [eO hk,show val (L[k]::L.drop (k+1))=L[k]+4294967296*val (L.drop (k+1))from rfl,dP,bX (h.get hk)];simp[bd,hk]
 .rw [dQ aC,bd,b7 aC];rfl
def mod_succ(n k:Nat):n%4294967296^(k+1)=n%4294967296^k+4294967296^k*oK n k:=by
 rw[bC,Nat.mod_mul];rfl
def oL(n m:Nat):List Nat:=(List.range m).map (oK n)
def zV(n m:Nat):(oL n m).length=m:=by simp[oL]
def EK(n m:Nat):iD (oL n m):=λx hx=>by
 obtain⟨k,_,rfl⟩:=dg.1 hx;exact Ll n k
def acs{n m k:Nat}(h:k<m):(oL n m).getD k 0=oK n k:=by
 simp[oL,bd,h]
def acr(m i:Nat):(oL 0 m).getD i 0=0:=by
 by_cases h:i<m
 .rw [acs h,acn]
 .rw [bd,b7 (by rw[zV];omega)];rfl
def acu(n m:Nat):oL n (m+1)=oL n m++[oK n m]:=by simp[oL,amC]
def GJ(n m:Nat):val (oL n m)=n%4294967296^m:=by
 induction m with
 |zero=>simp[oL,val];omega
 |succ m ih=>
  rw[acu,A9,ih,zV,mod_succ];rfl
def ak9{L M:List Nat}(hL:iD L)(hM:iD M)(hl:L.length=M.length)(hv:val L=val M):L=M:=by
 apply fR hl;intro i h1 h2;have e1:=Iy hL i;have e2:=Iy hM i;rw[hv,<-e2]at e1;simpa[bd,h1,h2]using e1
def acv{L:List Nat}(h:iD L):oL (val L) L.length=L:=
 ak9 (EK _ _) h (zV _ _) (by rw[GJ,bX (oo h)])
def Lm{L:List Nat}{n m:Nat}(h:iD L)(hl:L.length=m)(hv:val L=n):oL n m=L:=by subst hl hv;exact acv h
def pe(a b k m:Nat):List Nat:=(List.range m).map λj=>if j<k then oK a j else oK b j
def ag1(a b k m:Nat):(pe a b k m).length=m:=by simp[pe]
def ag3(a b m:Nat):pe a b 0 m=oL b m:=by simp[pe,oL]
def ag0{a b k m:Nat}(h:m<=k):pe a b k m=oL a m:=by
 unfold pe oL;exact fe λj hj=>aZ (bJ (bW.1 hj) h)
def amg{a b k m:Nat}:(pe a b k m).set k (oK a k)=pe a b (k+1) m:=by
 apply fR
 .simp [pe]
 .intro j h1 h2;have hj:j<m:=by simpa[pe]using h2
  rw[List.getElem_set];by_cases h:k=j
  .subst h;simp[pe]
  .rw [aY h];simp only[pe,List.getElem_map,List.getElem_range];by_cases q:j<k
   .rw [aZ q,aZ aC]
   .rw [aY q,aY aC]
def ag2{a b k m:Nat}:(pe a b (k+1) m).set k (oK b k)=pe a b k m:=by
 apply fR
 .simp [pe]
 .intro j h1 h2;have hj:j<m:=by simpa[pe]using h2
  rw[List.getElem_set];by_cases h:k=j
  .subst h;simp[pe]
  .rw [aY h];simp only[pe,List.getElem_map,List.getElem_range];by_cases q:j<k
   .rw [aZ q,aZ aC]
   .rw [aY q,aY aC]
def acD(a k:Nat):a/4294967296^k=4294967296*(a/4294967296^(k+1))+oK a k:=by
 rw[bC,<-dm];unfold oK;omega
def ajS{a d k:Nat}(hd:0<d)(Al:d<4294967296):(a/4294967296^(k+1)%d*4294967296+oK a k)/d=oK (a/d) k/\(a/4294967296^(k+1)%d*4294967296+oK a k)%d=a/4294967296^k%d:=by
 have e1:=acD a k;have e2:=cB (a/4294967296^(k+1)) d;have e3:=bF (a/4294967296^(k+1)) hd;have e4:=Ll a k;have e5:a/4294967296^k=d*(4294967296*(a/4294967296^(k+1)/d))+(a/4294967296^(k+1)%d*4294967296+oK a k):=by
  rw[e1,dK];omega
 have e6:(a/4294967296^(k+1)%d*4294967296+oK a k)/d<4294967296:=by
  rw[cv hd];have:=bK 4294967296 (show a/4294967296^(k+1)%d+1<=d from e3);omega
 constructor
 .conv=>rhs;unfold oK
  rw[dm,bD d,<-dm,e5,amk hd,fH,bX e6]
 .rw [e5,fH]
structure sf(U0:Nat)(V:List Nat)(k m:Nat)(O Q:List Nat):Prop where
 Vc:O.length=m
 FL:Q.length=m-V.length
 y6:iD O
 Cq:iD Q
 eq:val O+val V*val Q=U0
 lt:val O<val V*4294967296^k
 qz:∀ i,i<k->Q.getD i 0=0
def sf.step{U0 k m x:Nat}{V O Q O2:List Nat}(h:sf U0 V (k+1) m O Q)(hk:k<m-V.length)(hl:O2.length=m)(me:iD O2)(hx:x<4294967296)
 (he:val O2+x*(4294967296^k*val V)=val O) (im:val O2<val V*4294967296^k):sf U0 V k m O2 (Q.set k x):=by
 have yE:k<Q.length:=by rw[h.FL];exact hk
 have hv:=CF (x:=x) yE;rw[h.qz k (eh k),cH,bR]at hv;refine⟨hl,by rw[cY];exact h.FL,me,h.Cq.set _ hx,?_,im,λi hi=>by rw[Ac aC];exact h.qz i aC⟩;rw[hv,bO,show val V*(4294967296^k*x)=x*(4294967296^k*val V)by simp only[bD,dK,bA]];have:=h.eq;omega
def sf.zero{U0 k m:Nat}{V O Q:List Nat}(h:sf U0 V (k+1) m O Q)(hV:iD V){i:Nat}(hi:k+V.length<i):O.getD i 0=0:=by
 refine akR h.y6 (k:=k+V.length+1) ?_ hi;refine eZ h.lt ?_;have:=de (oo hV) (pw (k+1));rw[<-bh,(aC:V.length+(k+1)=k+V.length+1)]at this;exact this
def sf.aeH{U0 k m:Nat}{V O Q:List Nat}(h:sf U0 V (k+1) m O Q)(hV:iD V)(hn:2<=V.length)(hN:2147483648<=V.getD (V.length-1) 0):
 O.getD (k+V.length) 0<=V.getD (V.length-1) 0/\∀ g,g<=4294967295 ->
  g<=((O.getD (k+V.length) 0*4294967296+O.getD (k+V.length-1) 0)*4294967296+O.getD (k+V.length-2) 0)/(V.getD (V.length-1) 0*4294967296+V.getD (V.length-2) 0) ->
  (g=4294967295\/((O.getD (k+V.length) 0*4294967296+O.getD (k+V.length-1) 0)*4294967296+O.getD (k+V.length-2) 0)/(V.getD (V.length-1) 0*4294967296+V.getD (V.length-2) 0)<=g) ->
  val O/4294967296^k/val V<=g/\g<=val O/4294967296^k/val V+1:=by
 have t3:=Yt h.y6 (j:=k) hn (λi hi=>h.zero hV hi);have t2:=akP hV hn rfl;have hU:val O/4294967296^k<4294967296*val V:=by
  rw[cv (pw k)];have:=h.lt;rw[bC]at this;rw[show 4294967296*val V*4294967296^k=val V*(4294967296^k*4294967296)by simp only[bD,dK,bA]];exact this
 have w1:=h.y6.getD (k+V.length-1);have w2:=h.y6.getD (k+V.length-2);have w3:=hV.getD (V.length-2);refine⟨?_,λg g1 g2 g3=>?_⟩
 .have hP:=pw (V.length-2);have h1:val V<(V.getD (V.length-1) 0*4294967296+V.getD (V.length-2) 0+1)*4294967296^(V.length-2):=by
   rw[<-t2,<-cv hP];omega
  have h2:val O/4294967296^k/4294967296^(V.length-2)<4294967296*(V.getD (V.length-1) 0*4294967296+V.getD (V.length-2) 0+1):=by
   rw[cv hP];refine bJ hU ?_;rw[bA];exact cD _ (dt h1)
  rw[t3]at h2;omega
 .rw [<-t3,<-t2]at g2 g3;exact agj (pw _) (by rw[t2];omega) hU g1 g2 g3
def sf.WC{U0 k m x:Nat}{V O Q O':List Nat}(h:sf U0 V (k+1) m O Q)(hV:iD V)(me:iD O')(hv:val O'+x*(4294967296^k*val V)=val O+4294967296^(k+V.length+1)*1)
 (hs:∀ i,k+V.length<i->O'.getD i 0=O.getD i 0):val O'<4294967296^(k+V.length+1)/\0<x:=by
 have h1:val O'<4294967296^(k+V.length+1):=YI me λi hi=>by rw[hs i aC];exact h.zero hV aC 
 refine⟨h1,?_⟩;rcases dY x with h0|h0
 .subst h0;rw[cC]at hv;omega
 .exact h0
def sf.aae{U0 k m x κ:Nat}{V O Q O' O2:List Nat}(h:sf U0 V (k+1) m O Q)(hV:iD V)(hk:k<m-V.length)(me:iD O')(hv:val O'+x*(4294967296^k*val V)=val O+4294967296^(k+V.length+1)*1)
 (hs:∀ i,k+V.length<i->O'.getD i 0=O.getD i 0) (hx:x<=4294967295) (tc:x<=val O/4294967296^k/val V+1) (wD:0<val V) (nj:O2.length=m) (T4:iD O2) (hκ:κ<=1)
 (h2:val O2+4294967296^(k+V.length+1)*κ=val O'+4294967296^k*val V) (kB:∀ i,k+V.length<i->O2.getD i 0=O'.getD i 0):sf U0 V k m O2 (Q.set k (x-1)):=by
 obtain⟨h1,h0⟩:=h.WC hV me hv hs;have h3:val O2<4294967296^(k+V.length+1):=YI T4 λi hi=>by rw[kB i aC,hs i aC];exact h.zero hV aC 
 rw[bZ]at hv;obtain⟨_,_,e,l⟩:=acp (pw k) wD hv h1 tc hκ h2 h3;exact h.step (x:=x-1) hk nj T4 aC e l
def ahA{L:List Nat}{x s l:Nat}(hk:iD L)(hl:L.length=l+1)(hx:L.getD l 0=x)(nN:x≠0)(hs:s=32-gZ x):
 s<32/\(gR (val L*2^s)).length=l+1/\2147483648<=(gR (val L*2^s)).getD l 0/\4294967296^l*2147483648<=val L*2^s/\val L*2^s<4294967296^(l+1):=by
 have ng:x<4294967296:=by rw[<-hx];exact hk.getD l
 have iO:=nM nN;have lL:gZ x<=32:=lR.2 ng;have h1:=rS nN;have h2:=qw x;have e1:2^(gZ x-1)*2^s=2147483648:=by rw[<-bh,(aC:gZ x-1+s=31)]
 have e2:2^gZ x*2^s=4294967296:=by rw[<-bh,(aC:gZ x+s=32)]
 have hp:0<2^s:=bn aE;have hv:val L=val (L.take l)+4294967296^l*x:=by
  have:=Ba L l;rw[cN aC,hx]at this;exact this
 have Dh:val (L.take l)<4294967296^l:=by
  have:=oo (hk.take l);rw[b8,dc aC]at this;exact this
 have g1:4294967296^l*2147483648<=val L*2^s:=by
  rw[<-e1,<-bA];refine bK _ ?_;rw[hv];exact bg (cD _ h1) (Nat.le_add_left _ _)
 have g2:val L*2^s<4294967296^(l+1):=by
  have e3:4294967296^(l+1)=4294967296^l*(2^gZ x*2^s):=by rw[bC,e2]
  rw[e3,<-bA];refine de ?_ hp;rw[hv];have:=cD (4294967296^l) (show x+1<=2^gZ x from h2);rw[bO,bZ]at this;omega
 have hlen:(gR (val L*2^s)).length=l+1:=by
  have u1:=uO g2;have u2:¬(gR (val L*2^s)).length<=l:=λh=>by
   have:=Jv h;have:=pw l;omega
  omega
 refine⟨aC,hlen,?_,g1,g2⟩;rw[Iy (mB _),jY];unfold oK;rw[bX (by rw[cv (pw l),bD 4294967296,<-bC];exact g2),cT (pw l),bD];exact g1
def sf.start{A s:Nat}{V O:List Nat}(hO:iD O)(hv:val O=A*2^s){la:Nat}(hA:A<4294967296^la)(hl:O.length=la+1)(hs:s<32)(hn:1<=V.length)(jx:V.length<=la)(hV:4294967296^(V.length-1)*2147483648<=val V):
 sf (A*2^s) V (la+1-V.length) (la+1) O (List.replicate (la+1-V.length) 0):=by
 refine⟨hl,aH,hO,iD.DY _,by rw[CE,cH,bR,hv],?_,λi _=>?_⟩
 .rw [hv];have E6:2^s<=2^31:=bH aE aC;have aeL:(2:Nat)^31=2147483648:= aE ;rw[aeL]at E6;have h1:A*2^s<4294967296^la*2^s:=de hA (bn aE);have h2:=cD (4294967296^la) E6;have h3:=bK (4294967296^(la+1-V.length)) hV;rw[fX,<-bh,(aC:V.length-1+(la+1-V.length)=la)]at h3;omega
 .rw [bd,eE];split<;>rfl
end Go.Proofs.YtkdddbdjilcofaaGreatDoor.Fp
namespace Go.Proofs.YtkdddbdjilcofaaGreatDoor
open Go.RowKit Fp Pu
def Gy(n:Nat)(h:n<4294967296):IntKind.u64.wrap ((n:Int)*2^32)=((n*4294967296:Nat):Int):=by rw[IntKind.wrap_u64];omega
def Gb(a b:Nat)(ha:a<4294967296)(hb:b<4294967296):bits .or .u64 ((a*4294967296:Nat):Int) (b:Int)=((a*4294967296+b:Nat):Int):=by
 rw[Kp _ _ aC aC,Nat.or_comm,show a*4294967296=a*2^32 by rfl,JO b a 32 (by simpa using hb),Nat.add_comm]
def ajf{T n n' p:Nat}{L L':List Nat}{z:Nat}(hn:n=n')(hp:p<L.length)(hs:L.set p z=L'):Bx.le (.row false T n 1 λi' j'=>if i'=p/\0<=j'/\j'<0+1 then[.v (.int .u32 (z:Int))].getD (j'-0) .any else(pG L) i' j') (.row false T n' 1 (pG L')):=hs▸ON hn hp
def Rt(q rest third v w:Nat)(x:Nat):PS:=⟨32,true,[(0,.e (.v (.int .u64 ((q-x:Nat):Int)))),(1,.e (.v (.int .u64 ((rest+(x*v):Nat):Int)))),(2,.e (.v (.int .u32 (third:Int)))),(3,.e (.v (.int .u32 (v:Int)))),(4,.e (.v (.int .u32 (w:Int))))],[]⟩
def XX(L:List Nat)(d:Nat)(x:Nat):PS:=⟨34,false,[(8,.e (iP ((L.length:Int)-1-(x:Int)))),(7,.e (.v (.int .u32 ((val L/4294967296^(L.length-x)%d:Nat):Int)))),(6,.own 11),(0,.e (gV L)),(1,.e (.v (.int .u32 (d:Int))))],[(11,.row false 96 L.length 1 (pG (pe 0 (val L/d) (L.length-x) L.length)))]⟩
def acw(h l d:Nat)(h1:h<d)(h2:l<4294967296)(h3:d<4294967296):gQ 305 [.v (.int .u32 (h:Int)),.v (.int .u32 (l:Int)),.v (.int .u32 (d:Int))] (.ie [.v (.int .u32 (((h*4294967296+l)/d:Nat):Int)),.v (.int .u32 (((h*4294967296+l)%d:Nat):Int))]):=by
 have e1:(h*4294967296+l)/d<4294967296:=by rw[cv aC];omega
 have e2:(h*4294967296+l)%d<4294967296:=eZ (bF _ aC) h3;exact ak call305 func305 (ae [ah 10 ((d:Int) != 0) aN,tF 14 ((d:Int)<=h) aC,.o 18 (.int (sd _ aC):aj (.v (.int .u64 (IntKind.u64.wrap (h:Int)))) (.v (.int .u64 (h:Int)))),.a (aC:0<=(32:Int)/\(32:Int)<=((64:Nat):Int)),.o 19 (.int (Gy _ aC):aj (.v (.int .u64 (IntKind.u64.wrap ((h:Int)*2^32)))) (.v (.int .u64 ((h*4294967296:Nat):Int)))),.o 21 (.int (sd _ aC):aj (.v (.int .u64 (IntKind.u64.wrap (l:Int)))) (.v (.int .u64 (l:Int)))),.o 22 (.int (Gb _ _ aC aC):aj (.v (.int .u64 (bits .or .u64 ((h*4294967296:Nat):Int) (l:Int)))) (.v (.int .u64 ((h*4294967296+l:Nat):Int)))),.o 25 (.int (sd _ aC):aj (.v (.int .u64 (IntKind.u64.wrap (d:Int)))) (.v (.int .u64 (d:Int)))),.a (aC:0<((d:Int):Int)),
  CA ((h*4294967296+l:Nat):Int) aC,.o 27 (.int (Ea _):aj (.v (.int .u32 (IntKind.u32.wrap (((h*4294967296+l)/d:Nat):Int)))) (.v (.int .u32 ((((h*4294967296+l)/d)%4294967296:Nat):Int)))),.o 30 (.int (sd _ aC):aj (.v (.int .u64 (IntKind.u64.wrap (d:Int)))) (.v (.int .u64 (d:Int)))),.a (aC:0<((d:Int):Int)),.o 32 (.int (Ea _):aj (.v (.int .u32 (IntKind.u32.wrap (((h*4294967296+l)%d:Nat):Int)))) (.v (.int .u32 ((((h*4294967296+l)%d)%4294967296:Nat):Int))))]<|rQ (.ie [.v (.int .u32 ((((h*4294967296+l)/d)%4294967296:Nat):Int)),.v (.int .u32 ((((h*4294967296+l)%d)%4294967296:Nat):Int))]) (.ie [.v (.int .u32 (((h*4294967296+l)/d:Nat):Int)),.v (.int .u32 (((h*4294967296+l)%d:Nat):Int))]) (by rw[bX e1,bX e2])) 
def amh(q rest third v w N:Nat)(hq:q<=4294967295)(hr:rest<9223372036854775808)(ht:third<4294967296)(hv:v<4294967296)(hw:w<4294967296)(hNq:N<=q)(jG:∀ x,x<N->sW q rest third v w x)(g1:¬rest+N*v<4294967296):gQ 306 [.v (.int .u64 (q:Int)),.v (.int .u64 (rest:Int)),.v (.int .u32 (third:Int)),.v (.int .u32 (v:Int)),.v (.int .u32 (w:Int))] (.v (.int .u64 ((q-N:Nat):Int))):=
 ak call306 func306 (af [.s (Sp.jE (Rt q rest third v w) 0 N aC (λx hx mn=>by
    obtain⟨g1,g2⟩:=jG x aC;have m1:(q-x)*w<=4294967295*4294967295:=dj aC aC;have g3:0<q-x:=by
     rcases dY (q-x)with h|h
     .rw [h,cC]at g2;omega
     .exact h
    exact iA (ae [tT 12 (((rest+(x*v):Nat):Int)<4294967296) aC,.o 16 (.int (sd _ aC):aj (.v (.int .u64 (IntKind.u64.wrap (w:Int)))) (.v (.int .u64 (w:Int)))),
     CA (((q-x:Nat):Int)*(w:Int)) aC,.a (aC:0<=(32:Int)/\(32:Int)<=((64:Nat):Int)),.o 19 (.int (Gy _ aC):aj (.v (.int .u64 (IntKind.u64.wrap (((rest+(x*v):Nat):Int)*2^32)))) (.v (.int .u64 (((rest+(x*v))*4294967296:Nat):Int)))),.o 21 (.int (sd _ aC):aj (.v (.int .u64 (IntKind.u64.wrap (third:Int)))) (.v (.int .u64 (third:Int)))),.o 22 (.int (Gb _ _ aC aC):aj (.v (.int .u64 (bits .or .u64 (((rest+(x*v))*4294967296:Nat):Int) (third:Int)))) (.v (.int .u64 ((((rest+(x*v))*4294967296)+third:Nat):Int)))),tT 23 (((((rest+(x*v))*4294967296)+third:Nat):Int)<(((q-x)*w:Nat):Int)) (Int.ofNat_lt.2 g2),CA (((q-x:Nat):Int)-1) aC,.o 29 (.int (sd _ aC):aj (.v (.int .u64 (IntKind.u64.wrap (v:Int)))) (.v (.int .u64 (v:Int)))),CA (((rest+(x*v):Nat):Int)+v) aC]<|.e (af [.o 0 (.int aO:aj (.v (.int .u64 (((q-x:Nat):Int)-1))) (.v (.int .u64 ((q-(x+1):Nat):Int)))),.o 1 (.int aO:aj (.v (.int .u64 (((rest+(x*v))+v:Nat):Int))) (.v (.int .u64 ((rest+((x+1)*v):Nat):Int))))])) aF)
  (λhx=>by
    have m1:(q-N)*w<=4294967295*4294967295:=dj aC aC;exact iA (af [tF 12 (((rest+(N*v):Nat):Int)<4294967296) aC]) aF) aI:jB 1 f306 (Rt q rest third v w 0) (.exit 0) ⟨32,true,[(0,.e (.v (.int .u64 ((q-N:Nat):Int))))],[]⟩) (af [.o 0 (.int aO:aj (.v (.int .u64 (q:Int))) (.v (.int .u64 ((q-0:Nat):Int)))),.o 1 (.int aO:aj (.v (.int .u64 (rest:Int))) (.v (.int .u64 ((rest+(0*v):Nat):Int))))])]) 
def ahm(L:List Nat)(d:Nat)(hk:iD L)(hl:L.length<=1000000)(Ak:0<d)(Al:d<4294967296):gQ 267 [gV L,.v (.int .u32 (d:Int))] (.ie [gV (oL (val L/d) L.length),.v (.int .u32 ((val L%d:Nat):Int))]):=
 an call267 func267 (ae [.a (aC:0<=((L.length:Int):Int)/\((L.length:Int):Int)<=((L.length:Int):Int)),.a (aC:((4:Nat):Int)*(L.length:Int)<=281474976710656/\((L.length:Int):Int)<=9223372036854775807),ij ((L.length:Int)-1) aC,.s (Sp.jE (XX L d) 0 L.length aC (λx hx mn=>by
    have TM:((L.length:Int)-1-(x:Int)).toNat=L.length-1-x:= aC ;have hld:((L.getD ((L.length:Int)-1-(x:Int)).toNat 0:Nat):Int)=(oK (val L) (L.length-1-x):Int):=by rw[TM,Iy hk]
    have vK:=ajS (a:=val L) (k:=L.length-1-x) Ak Al;have rK:L.length-1-x+1=L.length-x:= aC ;have mc:L.length-(x+1)=L.length-1-x:= aC ;rw[rK]at vK;have Dk:=bF (val L/4294967296^(L.length-x)) Ak;have Mn:=Ll (val L) (L.length-1-x);have BW:(pe 0 (val L/d) (L.length-x) L.length).set ((L.length:Int)-1-(x:Int)).toNat ((val L/4294967296^(L.length-x)%d*4294967296+oK (val L) (L.length-1-x))/d)=pe 0 (val L/d) (L.length-(x+1)) L.length:=by
     rw[TM,vK.1,<-rK,ag2,mc]
    exact iA (ae [tT 16 (0<=((L.length:Int)-1-(x:Int))) aC,iX ((L.length:Int)-1-(x:Int)) (L.length) aC,.o 26 (.int hld:aj (.v (.int .u32 ((L.getD ((L.length:Int)-1-(x:Int)).toNat 0:Nat):Int))) (.v (.int .u32 (oK (val L) (L.length-1-x):Int)))),.c (acw (val L/4294967296^(L.length-x)%d) (oK (val L) (L.length-1-x)) d aC aC aC),iX ((L.length:Int)-1-(x:Int)) (L.length) aC,.a (aC:(((L.length:Int)-1-(x:Int))).toNat<L.length),ij (((L.length:Int)-1-(x:Int))-1) aC]<|.e (af [.o 8 (aq (((L.length:Int)-1-(x:Int))-1) ((L.length:Int)-1-((x+1:Nat):Int)) aO),.o 7 (.int (by rw[vK.2,mc]):aj (.v (.int .u32 ((((val L/4294967296^(L.length-x)%d)*4294967296+(oK (val L) (L.length-1-x)))%d:Nat):Int))) (.v (.int .u32 ((val L/4294967296^(L.length-(x+1))%d:Nat):Int)))),.b 11 (ajf rfl (by rw[ag1];omega) BW:Bx.le (.row false 96 L.length 1 (λi' j'=>if i'=(((L.length:Int)-1-(x:Int))).toNat/\0<=j'/\j'<0+1 then[.v (.int .u32 ((((val L/4294967296^(L.length-x)%d)*4294967296+(oK (val L) (L.length-1-x)))/d:Nat):Int))].getD (j'-0) .any else(pG (pe 0 (val L/d) (L.length-x) L.length)) i' j')) (.row false 96 L.length 1 (pG (pe 0 (val L/d) (L.length-(x+1)) L.length))))])) aF)
  (λhx=>by
    exact iA (af [tF 16 (0<=((L.length:Int)-1-(L.length:Int))) aC]) aF) aI:jB 4 f267 (XX L d 0) (.exit 0) ⟨34,false,[(7,.e (.v (.int .u32 ((val L/4294967296^(L.length-L.length)%d:Nat):Int)))),(6,.own 11)],[(11,.row false 96 L.length 1 (pG (pe 0 (val L/d) (L.length-L.length) L.length)))]⟩) (af [.o 8 (aq ((L.length:Int)-1) ((L.length:Int)-1-((0:Nat):Int)) aO),.o 7 (.int (by rw[dr,cO (oo hk),Nat.zero_mod];rfl):aj (.v (.int .u32 0)) (.v (.int .u32 ((val L/4294967296^(L.length-0)%d:Nat):Int)))),.b 11 (Xe rfl (λi=>by rw[dr,ag0 (bc _),acr]):Bx.le (.row false 96 L.length 1 (λ_ j_=>[.v (.int .u32 0)].getD j_ .any)) (.row false 96 L.length 1 (pG (pe 0 (val L/d) (L.length-0) L.length))))])]<|rR (.ie [gV (oL (val L/d) L.length),.v (.int .u32 ((val L%d:Nat):Int))]) (.ie (.cons (by rw[cX,ag3];exact X6 (zV _ _).symm) (.cons (.iL (by rw[cX,cw,eI])) .nil)):E.le (.ie [.sl false L.length 1 (pG (pe 0 (val L/d) (L.length-L.length) L.length)),.v (.int .u32 ((val L/4294967296^(L.length-L.length)%d:Nat):Int))]) (.ie [gV (oL (val L/d) L.length),.v (.int .u32 ((val L%d:Nat):Int))]))) 
def Zf(w:World)(T S:List Nat)(e:Ending)(w':World):Prop:=∃ A c B d,e = .returned (.tuple #[.slice A T.length c,.slice B S.length d])/\Sl w' A c T/\Sl w' B d S/\iB w w'
def Ow.rx{w:World}{base:Nat}{v:Value}{L:List Nat}(h:Ow w base v L)(hl:L≠[]):∃ g cap R,v = .slice (some ⟨g,0,none⟩) L.length cap/\base<=g/\g<w.heap.size/\Rx w g L R/\L.length<=cap/\cap<=maxLen:=by
 rcases h.row.2 with⟨_,h0⟩|⟨g,cap,cur,rfl,hb,hg,oB,nG,mL,Fx⟩
 .exact absurd (dh h0) hl
 .refine ⟨g,cap,cur.toList.drop L.length,rfl,hb,(cR.1 hg).1,?_,oB,nG⟩;unfold Rx;rw[hg];rw[bZ]at Fx;rw[<-Fx,gP]
def Rx.sl{w:World}{b cap:Nat}{L:List Nat}{R:List Value}(h:Rx w b L R)(hk:iD L)(hc:L.length<=cap)(hm:cap<=maxLen)(n:Nat):Sl w (some ⟨b,0,none⟩) cap (L.take n):=
 ⟨by rw[b8];omega,by unfold maxLen at hm;omega,hk.take n,(λh=>by cases h),λi x hx=>by
  rw[dV]at hx;split at hx
  .obtain ⟨hi,Ar⟩:=b5.1 hx;refine⟨_,_,rfl,h.lt,?_⟩;rw[bY,h.cell hi];simp[bd,hx]
  .cases hx⟩
def agN(x:Nat)(hx:x<4294967296)(w:World):
 Calls prog 268 #[.int .u32 x] w λe w'=>e = .returned (.int .i64 ((32-gZ x:Nat):Int))/\w=w':=by
 have lL:gZ x<=32:=lR.2 hx;have H:=amW (λw=>Vb x hx w);go_enter func268,ntmps268;go_wp2_with fail;refine(H.out _).mono ?_;rintro e w' ⟨rfl,rfl⟩;go_wp2;go_ret;exact⟨oV aC,rfl⟩
def Rv(q rest third v w0 N:Nat)(w:World)(hq:q<=4294967295)(hr:rest<9223372036854775808)(ht:third<4294967296)(hv:v<4294967296)(hw:w0<4294967296)(hNq:N<=q)(jG:∀ x,x<N->sW q rest third v w0 x)(hN:¬sW q rest third v w0 N):
 Calls prog 306 #[.int .u64 q,.int .u64 rest,.int .u32 third,.int .u32 v,.int .u32 w0] w λe w'=>e = .returned (.int .u64 ((q-N:Nat):Int))/\w=w':=by
 have HLO:=amW jG;have HNN:=amW hN;clear jG hN;go_enter func306,ntmps306;go_wp2;go_loop [0,1] (λa b=>∃ k:Nat,k<=N/\a = .int .u64 ((q-k:Nat):Int)/\b = .int .u64 ((rest+k*v:Nat):Int)) (λa _=>(intOf a).toNat+0*N)
 case atStart=>exact⟨0,bV _,by go_num,by go_num⟩
 case round=>
  obtain⟨k,hk,rfl,rfl⟩:=hrel;have m1:(q-k)*w0<=4294967295*4294967295:=dj aC aC;have m2:(q-k)*w0=(q-k)*w0:=rfl;by_cases im:k<N
  .have hc:=HLO.out k im;have tS:0<q-k:= aC ;have TZ:rest+(k+1)*v=rest+k*v+v:=by rw[bS,bU];omega
   have HX:=amW TZ;clear TZ;unfold sW at hc;have B2:IntKind.u64.wrap (((q-k:Nat):Int)*(w0:Int))=(((q-k)*w0:Nat):Int):=by rw[<-ej];exact sd _ aC 
   generalize rest+k*v=y at *
   generalize hz:(q-k)*w0=z at *
   have BT:q-k=q-(k+1)+1:= aC ;have HQ:=amW BT;obtain⟨p,hp⟩:∃ p,p=q-k:=⟨_,rfl⟩
   rw[<-hp]at B2 tS BT HQ ⊢;have HP:=amW hp;have BR:p<=4294967295:= aC ;clear hp hz BT;have Fw:=Gy y hc.1;have vI:=Gb y third hc.1 ht;have g2:=hc.2;have g1:=hc.1;clear hc;rw[show((y*4294967296:Nat):Int)=y*4294967296 by omega]at vI Fw;have d1:decide ((y:Int)<4294967296)=true:=a6 aC;have d2:decide ((y:Int)*4294967296+(third:Int)<z)=true:=a6 aC;have I3:IntKind.u64.wrap ((p:Int)-1)=((p-1:Nat):Int):=by rw[IntKind.wrap_u64];omega
   go_wp2;go_round
   case rel=>
    have e1:=HP.out;exact⟨k+1,aC,by go_num,by rw[HX.out];go_num⟩
   case measure=>simp[intOf];omega
  .obtain rfl:k=N:= aC ;have hn:=HNN.out;clear HNN HLO;unfold sW at hn;have B2:IntKind.u64.wrap (((q-k:Nat):Int)*(w0:Int))=(((q-k)*w0:Nat):Int):=by rw[<-ej];exact sd _ aC 
   generalize rest+k*v=y at *
   generalize (q-k)*w0=z at *
   obtain⟨p,hp⟩:∃ p,p=q-k:=⟨_,rfl⟩
   rw[<-hp]at B2 ⊢;have HP:=amW hp;clear hp;by_cases g1:y<4294967296
   .have Fw:=Gy y g1;have vI:=Gb y third g1 ht;rw[show((y*4294967296:Nat):Int)=y*4294967296 by omega]at vI Fw;have d1:decide ((y:Int)<4294967296)=true:=a6 aC;have d2:decide ((y:Int)*4294967296+(third:Int)<z)=false:=a7 aC;clear hn;go_wp2;go_ret;exact⟨oV (by rw[<-HP.out]),rfl⟩
   .have d1:decide ((y:Int)<4294967296)=false:=a7 aC ;clear hn B2;go_wp2;go_ret;exact⟨oV (by rw[<-HP.out]),rfl⟩
def aeI(ig next third v w0:Nat)(hv:2147483648<=v)(qT:v<4294967296)(hn:next<4294967296)(ht:third<4294967296)(hw:w0<4294967296)(htv:ig<=v):
 ∃ g,g<=4294967295/\g<=((ig*4294967296+next)*4294967296+third)/(v*4294967296+w0)/\(g=4294967295\/((ig*4294967296+next)*4294967296+third)/(v*4294967296+w0)<=g) /\
  ∀ w,Calls prog 269 #[.int .u32 ig,.int .u32 next,.int .u32 third,.int .u32 v,.int .u32 w0] w λe w'=>e = .returned (.int .u64 (g:Int))/\∃ m,w'=w.drewN m:=by
 by_cases k1:v<=ig
 .obtain ⟨N,hN3,pN,xy,sr,g1,g2⟩:=Ru (X:=ig*4294967296+next) (q:=4294967295) (rest:=(ig-v)*4294967296+next+v) (third:=third) (v:=v) (w:=w0) aC (bc _) hv hw;refine⟨4294967295-N,aC,g1,g2.elim (λh=>.inl (by rw[h])) .inr,λw=>?_⟩;clear g1 g2;have H:=λw=>Rv 4294967295 ((ig-v)*4294967296+next+v) third v w0 N w aC aC ht qT hw pN xy sr
  clear xy sr;obtain rfl:v=ig:= aC ;have s7:(v-v)*4294967296+next+v=next+v:= aC 
  rw[s7,Int.natCast_add]at H;have HD:=amW H;clear H;have d1:decide ((v:Int)<=v)=true:=a6 aC;go_enter func269,ntmps269;go_wp2_with fail;refine(HD.out _).mono ?_;rintro e w' ⟨rfl,rfl⟩;go_wp2;go_ret;exact⟨rfl,0,rfl⟩
 .have d1:=cB (ig*4294967296+next) v;have d2:=bF (ig*4294967296+next) (aC:0<v);have d3:(ig*4294967296+next)/v<4294967296:=by rw[cv aC];omega
  obtain⟨N,hN3,pN,xy,sr,g1,g2⟩:=Ru (X:=ig*4294967296+next) (q:=(ig*4294967296+next)/v) (rest:=(ig*4294967296+next)%v) (third:=third) (v:=v) (w:=w0) (by rw[bD];exact d1) aC hv hw;have g3:=acq (x:=ig*4294967296+next) (v:=v) (w:=w0) (third:=third) aC ht;refine⟨(ig*4294967296+next)/v-N,aC,g1,.inr ?_,λw=>?_⟩
  .rcases g2 with rfl|g2
   .exact g3
   .exact g2
  have H:=λw=>Rv ((ig*4294967296+next)/v) ((ig*4294967296+next)%v) third v w0 N w (Nat.le_of_lt_succ d3) (eZ d2 aC) ht qT hw pN xy sr
  rw[Int.natCast_ediv,Int.natCast_emod]at H;have HD:=amW H;clear H g1 g2 g3 pN xy sr d1 d2 d3;have d1:decide ((v:Int)<=ig)=false:=a7 aC;have Fw:=Gy ig aC;have vI:=Gb ig next aC hn
  rw[show((ig*4294967296:Nat):Int)=ig*4294967296 by omega]at vI Fw;have nN:((ig*4294967296+next:Nat):Int)<18446744073709551616:= aC ;rw[show((ig*4294967296+next:Nat):Int)=ig*4294967296+(next:Int)by omega]at vI nN;have Dt:((v:Int)==0)=false:= aN ;go_enter func269,ntmps269;go_wp2;go_quiet (exact Calls.quiet_of_same ((HD.out _).mono λ_ _ ⟨h1,h2⟩=>⟨h1,h2.symm⟩));go_wp2;go_ret;exact⟨rfl,_,rfl⟩
def Fp.iB.akT{w0 w w':World}{g n:Nat}(h:iB w0 w)(k:sS g (w.drewN n) w')(hg:w0.heap.size<=g):iB w0 w':=
 (below_drewN h n).trans (k.below.mono hg)
def Fp.iB.only{w0 w w':World}{g:Nat}(h:iB w0 w)(k:sS g w w')(hg:w0.heap.size<=g):iB w0 w':=
 Below.trans h (k.below.mono hg)
def Sl.So{w:World}{g cap:Nat}{L:List Nat}(h:Sl w (some ⟨g,0,none⟩) cap L){b:Nat}(hb:g≠b)(i:Nat)(v:Value):Sl (w.setCell ⟨b,i,none⟩ v) (some ⟨g,0,none⟩) cap L:=
 h.oE (λb' o _ e=>by cases e;exact hb) (sS.Gx (sS.refl b w) i v)
def Sl.drewN{w:World}{A:Option Addr}{c:Nat}{L:List Nat}(h:Sl w A c L)(n:Nat):Sl (w.drewN n) A c L:=h.below (below_drewN (Below.refl _ _) n)
def aik{P:Program}{f:FuncId}{args:Array Value}{w:World}{n:Nat}{v:Value}
 (h:Calls P f args (w.drewN n) λe w'=>e = .returned v/\∃ m,w'=(w.drewN n).drewN m):Calls P f args (w.drewN n) λe w''=>e = .returned v/\∃ m,w''=w.drewN m:=
 h.mono λ_ _ ⟨he,m,hm⟩=>⟨he,n+m,by rw[hm,World.drewN_drewN]⟩
set_option maxRecDepth 100000 in
set_option maxHeartbeats 8000000 in
def acE(A B:Option Addr)(c d:Nat)(L M:List Nat)(w:World)(lx ly s:Nat)(yG:lx=(iz L).length)(I2:ly=(iz M).length)(vK:s=32-gZ ((iz M).getD (ly-1) 0))(hs:Sl w A c L)(hr:Sl w B d M)(ki:Tb w)(h1:L.length<=100000)(h2:M.length<=100000)(qS:val M<=val L)(hlen:2<=ly):
 Calls prog 236 #[.slice A L.length c,.slice B M.length d] w (Zf w (oL (val L/val M) (lx+1-ly)) (qh (s%32) ((gR (val L%val M*2^s)).drop (s/32)))):=by
 have H1:=uT A c L w hs;have H2:=uT B d M w hr;have S8:=pj L;unfold mr at S8;have vC:=pj M;unfold mr at vC;have eL:=pJ L;have eM:=pJ M;rw[<-eL,<-eM]at qS ⊢;have kB:=hs.ud;have nk:=hr.ud;have L6:=zz M;have Tp:iz (iz L)=iz L:=zz L;have Tv:iz (iz M)=iz M:=zz M;have H3:=F2 A B c d (iz L) (iz M) w kB nk aC aC;generalize iz L=X at *
 generalize iz M=Y at *
 have o0:0<=kq (val X) (val Y):=by unfold kq;split<;>(try split)<;>omega
 generalize kq (val X) (val Y)=cm at *
 have Tu:Y.length<=X.length:=by
  apply bM;intro h;have:=Kt kB.ok L6 (aC:X.length<Y.length);omega
 clear eL eM hs hr qS;rw[<-yG]at Tu H1 H3 S8;rw[<-I2]at Tu H2 H3 vC;have nN:Y.getD (ly-1) 0≠0:=by
  have:=(A7 Y).1 L6 aC;have e:Y.getD (ly-1) 0=Y[Y.length-1]'(aC):=by
   rw[bd,(aC:ly-1=Y.length-1)];simp[(aC:Y.length-1<Y.length)]
  rw[e];exact this
 have HN:=ahA nk.ok (l:=ly-1) aC rfl nN vK;rw[(aC:ly-1+1=ly)]at HN;obtain⟨x,hx⟩:∃ x,x=Y.getD (ly-1) 0:=⟨_,rfl⟩
 have ng:x<4294967296:=by rw[hx];exact nk.ok.getD _
 have H4:=amW (λw=>agN x ng w);rw[<-hx]at vK;rw[<-vK]at H4;obtain⟨ab,ao,rfl,hab,c1⟩:=nk.mu (i:=ly-1) aC;have Dw:Y[ly-1]'(aC)=x:=by rw[hx];simp[bd,(aC:ly-1<Y.length)]
 rw[Dw]at c1;have afo:s<32:=HN.1;have HNh:=amW HN;have H5:=λw (h:Sl w A c X)=>Wg A c X s w h aC aC 
 have H6:=λw (h:Sl w (some ⟨ab,ao,none⟩) d Y)=>Wg (some ⟨ab,ao,none⟩) d Y s w h aC aC 
 rw[Tp,<-yG,(aC:s/32+lx+1=lx+1)]at H5;rw[Tv,<-I2,(aC:s/32+ly+1=ly+1)]at H6;have H5h:=amW H5;have H6h:=amW H6;have HX:=amW yG;have HY:=amW I2;have HS2:=amW kB;have HR2:=amW nk;have H1h:=amW H1;have H2h:=amW H2;have H3h:=amW H3;clear H1 H2 H3 H5 H6 Tp Tv HN yG I2 hx Dw vK nN kB nk L6;have B2:(ly:Int)-1=((ly-1:Nat):Int):= aC ;have d0:decide (cm<0)=false:=a7 aC;have d2:decide ((lx:Int)+1<=(lx:Int))=false:=a7 aC;have vH:=FT (lx+1-ly) aC;rw[show((lx+1-ly:Nat):Int)=lx+1-(ly:Int)by omega]at vH;have d1:((ly:Int)==1)=false:= aN ;go_enter func236,ntmps236;go_wp2_with fail;refine H1h.out.mono ?_;rintro e w' ⟨rfl,rfl⟩;go_wp2_with fail;refine H2h.out.mono ?_;rintro e w' ⟨rfl,rfl⟩;go_wp2_with fail;refine H3h.out.mono ?_;rintro e w1 ⟨rfl,iO⟩;have c2:=c1;rw[<-(iO.cell (p:=⟨ab,ao+(ly-1),none⟩) hab)]at c2;go_wp2_with fail;refine(H4.out _).mono ?_;rintro e w2 ⟨rfl,rfl⟩;go_wp2_with fail;refine(H5h.out _ (HS2.out.below iO)).mono ?_;rintro e w2 ⟨T,v1,he,Da,E7,oi,lL⟩;obtain⟨g,cap,R,Fz,TG,TH,Tg,Dc,ae0⟩:=oi.rx (by intro h;rw[h]at E7;simp at E7);have Tl:=amW oi.ok;rw[E7]at Fz Dc;subst Fz;subst he;clear oi;have HTv:=amW Da;have HTl:=amW E7;clear Da E7;go_wp2_with fail;refine(H6h.out _ ((HR2.out.below iO).below lL)).mono ?_;rintro e w3 ⟨S,v2,he,Tk,BA,oi,qQ⟩;have IE:=Tg.pR (qQ.block g TH);obtain⟨g',cap',R',qT,ae6,alX,_,alU,_⟩:=oi.rx (by intro h;rw[h]at BA;simp at BA);obtain⟨_,_,e2,Ma⟩:=oi.sl;rw[qT]at e2;cases e2;have IQ:g'≠g:= aC 
 have H7:=uT (some ⟨g',0,none⟩) cap' S w3 Ma;have hV:iz S=gR (val Y*2^s):=by rw[sc oi.ok,Tk]
 have yx:=Ma.ud;rw[hV]at H7 yx;rw[HNh.out.2.1,BA]at H7;rw[BA]at qT;have aeW:iB w w3:=(iO.trans lL).trans qQ;subst qT;subst he;have H7h:=amW H7;clear oi Ma hV Tk BA H7 Tg lL qQ;go_wp2_with fail;refine H7h.out.mono ?_;rintro e w4 ⟨rfl,rfl⟩;go_wp2;go_loop [9] (λu=>u = .slice (some ⟨g,0,none⟩) (lx+1) cap) (λ_=>0)
 case atStart=>rfl
 case round=>
  subst hrel;go_wp2;have xB:=Rw.AE w3 (lx+1-ly);have I5:=HNh.out.2.1;have xy:=HNh.out.2.2.1;have sr:=HNh.out.2.2.2.1;have Tn:=mB (val Y*2^s);have Mg:=jY (val Y*2^s);rw[<-Mg]at sr;generalize gR (val Y*2^s)=V at *
  have xx:=sf.start (A:=val X) (s:=s) (V:=V) (O:=T) Tl.out HTv.out (la:=lx) (by rw[HX.out];exact oo HS2.out.ok) HTl.out afo aC aC (by rw[I5];exact sr);have Tj:=yx.alloc (.cells (oe (List.replicate (lx+1-ly) 0)).toArray 96);have Th:Rx (w3.alloc (.cells (oe (List.replicate (lx+1-ly) 0)).toArray 96)) g T R:=IE.pR ((iB.alloc w3 _).block g (by have:=IE.lt;omega));rw[I5]at xx;have HD0:=amW xx;have HR0:=amW xB;have HRx:=amW Th;have HSV:=amW Tj;have HE0:=amW (aeW.trans (iB.alloc w3 (.cells (oe (List.replicate (lx+1-ly) 0)).toArray 96)));have HnV:=amW I5;have HVok:=amW Tn;have HVv:=amW Mg;have HN1:=amW xy;have hgq:g<w3.heap.size:=IE.lt;have TJ:w.heap.size<=g:=bg iO.size TG;clear xx xB Th Tj yx IE I5 Tn Mg xy sr HTv HTl Tl H1h H2h H3h H4 H5h H6h H7h c1 c2 d2 vH iO TG ae6 TH HNh HS2 HR2;go_loopw [13] (λj wr=>∃ (k:Nat) (O Q:List Nat),k<=lx+1-ly/\j = .int .i64 ((k:Int)-1)/\sf (val X*2^s) V k (lx+1) O Q/\Rx wr g O R/\Rw wr w3.heap.size Q/\Sl wr (some ⟨g',0,none⟩) cap' V/\iB w wr) (λj _=>(intOf j+1).toNat)
  case atStart=>
   exact⟨lx+1-ly,T,_,bc _,by go_num,HD0.out,HRx.out,HR0.out,HSV.out,HE0.out⟩
  case round=>
   clear HD0 HRx HR0 HSV HE0;obtain⟨k,O,Q,hk,rfl,hD,C9,L9,yx,Tz⟩:=hrel;have HE:=amW Tz;have HSV:=amW yx;have HRQ:=amW L9;have HRO:=amW C9;have HD:=amW hD;clear hD Tz;rcases k with _|t
   .have hO:=HD.out.Vc;have T9:=HRO.out.sl HD.out.y6 (cap:=cap) aC ae0 ly;have HZ:=NQ (some ⟨g,0,none⟩) cap (O.take ly) s wr T9 aQ aC;have e1:(O.take ly).length=ly:=by rw[b8];omega
    rw[e1]at HZ;have HZh:=amW HZ;have HQs:=amW (HRQ.out.sl HD.out.Cq (by rw[HD.out.FL];omega));have wD:0<val V:=by
     have:=HD.out.lt;rcases dY (val V)with h|h
     .rw [h,cC]at this;omega
     .exact h
    have Ts:0<val Y:=by
     rw[HVv.out]at wD;exact Nat.pos_of_mul_pos_right wD
    have Mq:=acB (a:=val X) (b:=val Y) (s:=s) (q:=val Q) (r:=val O) Ts (by rw[<-HVv.out];exact HD.out.eq) (by rw[<-HVv.out];have:=HD.out.lt;rw[cw,bZ]at this;exact this);have Dh:val (O.take ly)=val O:=by
     rw[ale HD.out.y6,bX];have:=HD.out.lt;rw[cw,bZ]at this;refine eZ this ?_;have h:=oo HVok.out;rw[HnV.out]at h;exact h
    have S9:iz (O.take ly)=gR (val X%val Y*2^s):=by rw[sc (HD.out.y6.take ly),Dh,Mq.2]
    rw[S9]at HZh;have IC:=HD.out.FL;rw[HnV.out]at IC;have Te:oL (val X/val Y) (lx+1-ly)=Q:=Lm HD.out.Cq IC Mq.1;have HQd:=amW Te;generalize qh (s%32) ((gR (val X%val Y*2^s)).drop (s/32))=Z at *
    have HQl:=amW IC;clear Mq Dh S9 Te T9 HZ e1 IC hO wD Ts yx C9 L9;go_wp2_with fail;refine HZh.out.mono ?_;rintro e w5 ⟨AZ,cZ,rfl,hZs,Tw⟩;go_wp2;go_ret2;have hq:=HQs.out.below Tw;rw[HQl.out]at hq;exact⟨_,_,_,_,by rw[zV];rfl,by rw[HQd.out];exact hq,hZs,HE.out.trans Tw⟩
   .have hO:=HD.out.Vc;have c4:=C9.cell (i:=t+ly) aC;have c5:=C9.cell (i:=t+ly-1) aC;have c6:=C9.cell (i:=t+ly-2) aC;obtain⟨_,_,e1,_,c7⟩:=yx.mu (i:=ly-1) (by rw[HnV.out];omega);obtain⟨_,_,e2,_,c8⟩:=yx.mu (i:=ly-2) (by rw[HnV.out];omega);cases e1;cases e2;rw[bY]at c7 c8;have v7:V[ly-1]'(by rw[HnV.out];omega)=V.getD (ly-1) 0:=by simp[bd,HnV.out,(aC:ly-1<ly)]
    have v8:V[ly-2]'(by rw[HnV.out];omega)=V.getD (ly-2) 0:=by simp[bd,HnV.out,(aC:ly-2<ly)]
    rw[v7]at c7;rw[v8]at c8;clear v7 v8;have me:=HD.out.y6;have o4:=me.getD (t+ly);have o5:=me.getD (t+ly-1);have o6:=me.getD (t+ly-2);have o7:=HVok.out.getD (ly-1);have o8:=HVok.out.getD (ly-2);have hG:=HD.out.aeH HVok.out (by rw[HnV.out];omega) (by rw[HnV.out];exact HN1.out);rw[HnV.out]at hG;obtain⟨gd,g1,g2,g3,g4⟩:=aeI (O.getD (t+ly) 0) (O.getD (t+ly-1) 0) (O.getD (t+ly-2) 0) (V.getD (ly-1) 0) (V.getD (ly-2) 0) HN1.out o7 o5 o6 o8 hG.1;have HGq:=amW (hG.2 gd g1 g2 g3);have HG:=amW g4;clear hG g2 g3 g4 me yx C9 L9;generalize O.getD (t+ly) 0=x4 at *
    generalize O.getD (t+ly-1) 0=x5 at *
    generalize O.getD (t+ly-2) 0=x6 at *
    have HV1:=amW (rfl:V.getD (ly-1) 0=V.getD (ly-1) 0);generalize hx7:V.getD (ly-1) 0=x7 at *
    generalize V.getD (ly-2) 0=x8 at *
    clear hx7 HV1;have i1:(((t+1:Nat):Int)-1)=(t:Int):= aC ;have i2:((t:Int)+ly).toNat=t+ly:= aC ;have i3:((t:Int)+ly-1).toNat=t+ly-1:= aC ;have i4:((t:Int)+ly-2).toNat=t+ly-2:= aC ;have i6:((ly:Int)-2)=((ly-2:Nat):Int):= aC ;have p1:IntKind.i64.wrap ((t:Int)+ly)=(t:Int)+ly:=i64_in _ aC aC;have p2:IntKind.i64.wrap ((t:Int)+ly-1)=(t:Int)+ly-1:=i64_in _ aC aC;have p3:IntKind.i64.wrap ((t:Int)+ly-2)=(t:Int)+ly-2:=i64_in _ aC aC;have p4:IntKind.i64.wrap ((ly-1:Nat):Int)=((ly-1:Nat):Int):=i64_in _ aC aC;have p5:IntKind.i64.wrap ((ly-2:Nat):Int)=((ly-2:Nat):Int):=i64_in _ aC aC;have j6:((ly-1:Nat):Int)<ly:= aC ;have j7:((ly-2:Nat):Int)<ly:= aC ;have j0:0<=(t:Int)+ly:= aC ;have j1:0<=(t:Int)+ly-1:= aC ;have j2:0<=(t:Int)+ly-2:= aC ;have j3:(t:Int)+ly<lx+1:= aC ;have j4:(t:Int)+ly-1<(lx:Int)+1:= aC ;have j5:(t:Int)+ly-2<(lx:Int)+1:= aC ;rw[i1];clear i1;go_wp2;go_quiet (exact aik (HG.out _));go_wp2_with fail;have HTk:=akG g t (cap-t) cap' gd O V R (some ⟨g',0,none⟩) (wr.drewN nq) (HRO.out.pR rfl) (HSV.out.drewN nq) (λb' o _ e=>by cases e;exact IQ) HD.out.y6 (by rw[HnV.out];omega) g1 aC;rw[HnV.out,(aC:ly+1=t+ly+1-t)]at HTk;refine HTk.mono ?_;rintro e w5 ⟨O',δ,rfl,Tf,pZ,Dm,hδ,kF,Jb,Dq⟩;have HRO':=amW Tf;have HON:=amW Dq;have HSV5:=amW ((HSV.out.drewN nq).oE (λb' o _ e=>by cases e;exact IQ) Dq);have HRQ5:=amW (show Rw w5 w3.heap.size Q from(Dq.oE _ aC).trans HRQ.out);have HE5:=amW (show iB w w5 from Fp.iB.akT HE.out Dq TJ);have hPt:=pw t;have To:0<val V:=by
     have:=HD.out.lt;rcases dY (val V)with h|h
     .rw [h,cC]at this;omega
     .exact h
    have wg:IntKind.u32.wrap (gd:Int)=gd:=by rw[IntKind.wrap_u32];omega
    have htm:(t:Int)<lx+1-(ly:Int):= aC ;have Ue:t<Q.length:=by rw[HD.out.FL,HnV.out];omega
    have L8:=bt Ue;have cq:=HRQ5.out.cell L8;have fq:=HRQ5.out.frozen t;generalize Q[t]=q0 at *
    have HQG:=amW L8;clear L8 Ue c4 c5 c6 c7 c8 HRO HRQ HSV HE HTk Tf Dq;rcases fB δ 1 with Uy|hδ1
    .obtain rfl:δ=0:= aC ;have S7:=Rz hPt To (by rw[kF,cH,bR]) HGq.out.1;have HDS:=amW (HD.out.step (x:=gd) (by rw[HnV.out];omega) (by rw[pZ,hO]) Dm aC (by rw[kF,cH,bR]) S7.2);clear S7 kF Jb Dm pZ HD HGq;have HRQ6:=amW (λx:Nat=>HRQ5.out.set t x);have HRO6:=amW (λv:Value=>HRO'.out.pR (w':=w5.setCell ⟨w3.heap.size,t,none⟩ v) (by simp only[World.setCell,eP];rw[aY aC]));have HSV6:=amW (λv:Value=>HSV5.out.So (b:=w3.heap.size) aC t v);have HE6:=amW (λv:Value=>HE5.out.setCell (p:=⟨w3.heap.size,t,none⟩) (by show w.heap.size<=w3.heap.size;omega) v);go_wp2;go_roundw
     case rel=>exact⟨t,O',Q.set t gd,aC,by go_num,HDS.out,HRO6.out _,HRQ6.out _,HSV6.out _,HE6.out _⟩
     case measure=>simp[intOf]
    .obtain rfl:δ=1:= aC ;have tR:=HD.out.WC (x:=gd) HVok.out Dm (by rw[HnV.out];exact kF) (by rw[HnV.out];exact Jb);have BF:=tR.2;have HB:=amW (λ(κ:Nat) (O2:List Nat)=>HD.out.aae (x:=gd) (κ:=κ) (O2:=O2) HVok.out (by rw[HnV.out];omega) Dm (by rw[HnV.out];exact kF) (by rw[HnV.out];exact Jb) g1 HGq.out.2 To);have HP0:=amW (xf.start Dm t V);have TS:O'.length=lx+1:=by rw[pZ,hO]
     have HL':=amW TS;have hxm:IntKind.u64.wrap ((gd:Int)-1)=((gd-1:Nat):Int):=by rw[IntKind.wrap_u64];omega
     have wg1:IntKind.u32.wrap ((gd-1:Nat):Int)=((gd-1:Nat):Int):=by rw[IntKind.wrap_u32];omega
     clear tR kF Jb Dm pZ TS HD HGq wg cq fq;go_wp2;go_loopw [15,125] (λcy i wr2=>∃ (k c':Nat) (O2:List Nat),k<=ly/\i = .int .i64 k/\cy = .int .u32 c'/\xf O' t V k O2 c'/\Rx wr2 g O2 R/\sS g w5 wr2) (λ_ i _=>ly-(intOf i).toNat)
     case atStart=>exact⟨0,0,O',bV _,rfl,rfl,HP0.out,HRO'.out,sS.refl _ _⟩
     case round=>
      clear HP0 HRO';obtain⟨k,c',O2,vE,rfl,rfl,hP,Ae,Fq⟩:=hrel;have HP:=amW hP;have Aj:=hP.K6;have nj:O2.length=lx+1:=by rw[hP.len];exact HL'.out
      have HL2:=amW nj;clear hP;by_cases im:k<ly
      .have yF:k<V.length:=by rw[HnV.out];exact im
       obtain⟨_,_,e1,_,c1⟩:=(HSV5.out.oE (λb' o _ e=>by cases e;exact IQ) Fq).mu yF;cases e1;rw[bY]at c1;have v7:V[k]=V.getD k 0:=by simp[bd,yF]
       rw[v7]at c1;have pO:t+k<O2.length:= aC ;have c2:=Ae.cell pO;have c3:=Ae.frozen (t+k);have qU:V.getD k 0<4294967296:=HVok.out.getD k;have Fy:O2.getD (t+k) 0<4294967296:=HP.out.ok.getD _;have HST:=amW (HP.out.step HVok.out yF (by rw[HL'.out,HnV.out];omega));have HRS:=amW (λx:Nat=>Ae.set pO x);have HOS:=amW (λ(v:Value)=>Fq.Gx (t+k) v);have HA:=amW (λw=>Ek (O2.getD (t+k) 0) (V.getD k 0) c' w Fy qU Aj);clear Ae Fq HP v7 yF pO nj HL2;generalize O2.getD (t+k) 0=u at *
       generalize V.getD k 0=y at *
       have yB:((t:Int)+k).toNat=t+k:= aC ;have Dd:0<=(t:Int)+k:= aC ;have hi3:(t:Int)+k<lx+1:= aC ;go_wp2_with fail;refine(HA.out _).mono ?_;rintro e w6 ⟨rfl,rfl⟩;go_wp2;go_roundw
       case rel=>
        exact⟨k+1,(u+y+c')/4294967296,O2.set (t+k) ((u+y+c')%4294967296),aC,by go_num,rfl,HST.out,HRS.out _,HOS.out _⟩
       case measure=>simp[intOf];omega
      .obtain rfl:k=ly:= aC ;have Td:=(show xf O' t V V.length O2 c' by rw[HnV.out];exact HP.out).Np (by rw[HL'.out,HnV.out];omega);rw[HnV.out]at Td;obtain⟨q1,q2,⟨κ,q3,q4⟩,q5⟩:=Td;have pO:t+k<O2.length:= aC ;have c2:=Ae.cell pO;have c3:=Ae.frozen (t+k);have Fy:O2.getD (t+k) 0<4294967296:=HP.out.ok.getD _;have HDS:=amW (HB.out κ _ (by rw[q1];exact HL'.out) q2 q3 (by rw[HnV.out];exact q4) (by rw[HnV.out];exact q5));have HRS:=amW (λx:Nat=>Ae.set pO x);have HOS:=amW (λ(v:Value)=>Fq.Gx (t+k) v);have ID:∀ v:Value,Rw (wr.setCell ⟨g,t+k,none⟩ v) w3.heap.size Q:=λv=>((HOS.out v).oE _ aC).trans HRQ5.out
       have hcq:∀ v:Value,(wr.setCell ⟨g,t+k,none⟩ v).cell? ⟨w3.heap.size,t,none⟩=some (.int .u32 (q0:Int)):=λv=>(ID v).cell HQG.out
       have hfq:∀ v:Value,(wr.setCell ⟨g,t+k,none⟩ v).frozen? ⟨w3.heap.size,t,none⟩=false:=λv=>(ID v).frozen t
       have HRQ8:=amW (λ(v:Value) (x:Nat)=>(ID v).set t x);have HRO8:=amW (λ(x:Nat) (v:Value)=>(HRS.out x).pR (w':=(wr.setCell ⟨g,t+k,none⟩ (.int .u32 (x:Int))).setCell ⟨w3.heap.size,t,none⟩ v) (by simp only[World.setCell,eP];rw[aY aC]));have HSV8:=amW (λ(v v2:Value)=>(HSV5.out.oE (λb' o _ e=>by cases e;exact IQ) (HOS.out v)).So (b:=w3.heap.size) aC t v2);have HE8:=amW (λ(v v2:Value)=>(Fp.iB.only HE5.out (HOS.out v) TJ).setCell (p:=⟨w3.heap.size,t,none⟩) (by show w.heap.size<=w3.heap.size;omega) v2);clear ID HRS HOS Ae Fq HP q1 q2 q3 q4 q5 pO nj HL2;generalize O2.getD (t+k) 0=u at *
       have yB:((t:Int)+k).toNat=t+k:= aC ;have Dd:0<=(t:Int)+k:= aC ;have hi3:(t:Int)+k<lx+1:= aC ;have hi4:IntKind.u32.wrap ((u:Int)+c')=(((u+c')%4294967296:Nat):Int):=by rw[IntKind.wrap_u32];omega
       generalize (u+c')%4294967296=uu at *
       go_wp2;go_roundw
       case rel=>exact⟨t,O2.set (t+k) uu,Q.set t (gd-1),aC,by go_num,HDS.out,HRO8.out _ _,HRQ8.out _ _,HSV8.out _ _,HE8.out _ _⟩
       case measure=>simp[intOf]
def aj2:E.le (.v (.slice none 0 0)) (gV []):=λbs br w v h=>by
 obtain rfl:=ix.ku h;exact .sl false 0 1 _ none 0 (λ_ _=>undef) (bc _) aE (λ_=>rfl) (λi j hi=>absurd hi (bk i)) (λi j hi=>absurd hi (bk i)) (λi j hi=>absurd hi (bk i)) (λi j hi=>absurd hi (bk i))
def aj3{x:Nat}:E.le (.sl false 1 1 λi_ j_=>[.v (.int .u32 (x:Int))].getD (i_*1+j_) (.v (.bool false))) (gV [x]):=.sl λi j hi hj=>by
 obtain rfl:i=0:= aC ;obtain rfl:j=0:= aC ;exact⟨.refl _,rfl⟩
def Ra(L:List Nat)(hk:iD L):gQ 146 [gV L] (gV L):=Gc hk call146 (λA c w h _=>Lf A c L w h) λA c B w e w' h hB ⟨h1,h2⟩=>by
 subst h2;exact⟨_,h1,Below.refl _ _,A4 hB (Below.refl _ _) ⟨bc _,h.len,h.ok,λhn=>by have:=h.xL hn;have:=h.cap;omega,h.cell⟩⟩
def Rb(L:List Nat)(hk:iD L)(hl:L.length<=1000000):gQ 92 [gV L] (gV L):=Gc hk call92 (λA c w h _=>Lg A c L w h aC) λA c B w e w' h hB r=>rl B w e w' hB r
def ahd(L M:List Nat)(hL:iD L)(hM:iD M)(h1:L.length<=100000)(h2:M.length<=100000)(hc:kq (val (iz L)) (val (iz M))<0):gQ 236 [gV L,gV M] (.ie [gV [],gV (iz L)]):=by
 have ta:=pj L;have tb:=pj M;unfold mr at ta tb;exact ak call236 func236 (ae [ag [gV L] (ua _ aD),ag [gV M] (ua _ aD),ag [gV (iz L),gV (iz M)] (NL _ _ (iD.iz aD) (iD.iz aD) aC aC),tB 25 (a6 hc),ag [gV (iz L)] (Rb _ (iD.iz aD) aC)]<|rR (.ie [gV [],gV (iz L)]) (.ie (.cons aj2 (.cons (.refl _) .nil)):E.le (.ie [.v (.slice none 0 0),gV (iz L)]) (.ie [gV [],gV (iz L)]))) 
def ahe(L M:List Nat)(hL:iD L)(hM:iD M)(h1:L.length<=100000)(h2:M.length<=100000)(hc:¬kq (val (iz L)) (val (iz M))<0)(hl:(iz M).length=1)(Ak:0<(iz M).getD 0 0)(Al:(iz M).getD 0 0<4294967296):gQ 236 [gV L,gV M] (.ie [gV (oL (val (iz L)/(iz M).getD 0 0) (iz L).length),gV [val (iz L)%(iz M).getD 0 0]]):=by
 have ta:=pj L;have tb:=pj M;unfold mr at ta tb;exact ak call236 func236 (ae [ag [gV L] (ua _ aD),ag [gV M] (ua _ aD),ag [gV (iz L),gV (iz M)] (NL _ _ (iD.iz aD) (iD.iz aD) aC aC),tB 25 (a7 hc),ah 30 (((iz M).length:Int)==1) (by rw[hl];rfl),iX 0 ((iz M).length) aC,.c (ahm (iz L) ((iz M).getD 0 0) (iD.iz aD) aC Ak Al)]<|rR (.ie [gV (oL (val (iz L)/(iz M).getD 0 0) (iz L).length),gV [val (iz L)%(iz M).getD 0 0]]) (.ie (.cons (.refl _) (.cons aj3 .nil)):E.le (.ie [gV (oL (val (iz L)/((iz M).getD 0 0)) (iz L).length),(.sl false 1 1 λi_ j_=>[.v (.int .u32 ((val (iz L)%((iz M).getD 0 0):Nat):Int))].getD (i_*1+j_) (.v (.bool false)))]) (.ie [gV (oL (val (iz L)/(iz M).getD 0 0) (iz L).length),gV [val (iz L)%(iz M).getD 0 0]]))) 
def NM(L M:List Nat)(hL:iD L)(hM:iD M)(h1:L.length<=100000)(h2:M.length<=100000)(h0:val M≠0):∃ T S:List Nat,gQ 236 [gV L,gV M] (.ie [gV T,gV S])/\val T=val L/val M/\val S=val L%val M/\iD T/\iD S/\T.length<=L.length/\S.length<=L.length+1:=by
 have ta:=pj L;have tb:=pj M;unfold mr at ta tb;have e1:=pJ L;have e2:=pJ M;by_cases hc:kq (val (iz L)) (val (iz M))<0
 .refine ⟨[],iz L,ahd L M hL hM h1 h2 hc,?_,?_,iD.nil,hL.iz,bV _,aC⟩
  .rw [e1,e2]at hc;have:val L<val M:=by unfold kq at hc;split at hc<;>(try split at hc)<;>omega
   rw[cO this];rfl
  .rw [e1,e2]at hc;have:val L<val M:=by unfold kq at hc;split at hc<;>(try split at hc)<;>omega
   rw[bX this,e1]
 .have qS:val M<=val L:=by rw[e1,e2]at hc;unfold kq at hc;split at hc<;>(try split at hc)<;>omega
  have jf:iz M≠[]:=by intro h;rw[h]at e2;exact h0 e2.symm
  have hlen:(iz M).length≠0:=by simpa using jf
  by_cases hl:(iz M).length=1
  .obtain ⟨x,hx⟩:=List.length_eq_one_iff.1 hl;have me:=hM.iz;rw[hx]at me;have Ur:x=val M:=by rw[<-e2,hx];simp[val]
   have hg:(iz M).getD 0 0=x:=by rw[hx];rfl
   have:=ahe L M hL hM h1 h2 hc hl (by rw[hg];omega) (by rw[hg];exact me.head);rw[hg]at this;refine⟨_,_,this,?_,?_,EK _ _,iD.cons (eZ (bF _ aC) me.head) iD.nil,by rw[zV];exact ta,aH⟩
   .rw [GJ,bX,e1,Ur];exact ck (bT _ _) (oo hL.iz)
   .simp [val,e1,Ur]
  .refine ⟨_,_,Ge hL hM call236 (λA c B d w h k hT=>acE A B c d L M w _ _ _ rfl rfl rfl h k hT h1 h2 qS aC) (λB w e w' hB ⟨A1,c1,B1,d1,q1,q2,q3,q4⟩=>⟨_,q1,q4,jX.ie (.cons (A4 hB q4 q2) (.cons (A4 hB q4 q3) (.nil _ _ _)))⟩),?_,?_,EK _ _,AK _ _,?_,?_⟩
   .rw [GJ,bX];rw[cv aC];have g1:=oo hL.iz;rw[e1]at g1;refine bJ g1 ?_;obtain⟨l,pZ⟩:∃ l,(iz M).length=l+1:=⟨(iz M).length-1,aC⟩
    have g2:4294967296^l<=val M:=by
     apply bM;intro q;have q2:(gR (val M)).length<=l:=uO aC;rw[<-sc hM]at q2;omega
    have g3:=cD (4294967296^((iz L).length+1-(iz M).length)) g2;rw[<-bh]at g3;refine bg ?_ g3;exact bH aE aC 
   .rw [Kv (mB _),jY,dD _ (bn aE)]
   .rw [zV];omega
   .rw [Kb,eB];have hb:32-gZ ((iz M).getD ((iz M).length-1) 0)<33:= aC ;have:=agw (mB (val L%val M)) (32-gZ ((iz M).getD ((iz M).length-1) 0));rw[jY]at this;have h3:(gR (val L%val M)).length<=(gR (val L)).length:=mw (ek _ _);rw[<-sc hL]at h3;omega
def yY(m n:Nat)(h1:(gR m).length<=256)(h2:(gR n).length<=256)(h0:n≠0):gQ 212 [gV (gR m),gV (gR n)] (.ie [gV (gR (m/n)),gV (gR (m%n)),iP 0]):=by
 obtain⟨T,S,Fb,hT,hS,oT,oS,_,_⟩:=NM (gR m) (gR n) (mB m) (mB n) aC aC (by rw[jY];exact h0);rw[jY,jY]at hT hS;have hz:iz (gR n)=gR n:=A8 n;have hl:=o9 h0;have nj:(((iz (gR n)).length:Int)==0)=false:=by rw[hz];exact ns hl
 exact ak call212 func212 (ae [.c (V7 (gR m) (gR n) aD aD),ag [gV (gR n)] (ua _ (mB _)),ai 18 (((iz (gR n)).length:Int)==0) nj,ag [gV (gR m),gV (gR n)] Fb,ag [gV T] (ua _ aD),ag [gV (iz T)] (Ra _ (iD.iz aD)),ag [gV S] (ua _ aD),ag [gV (iz S)] (Ra _ (iD.iz aD))]<|rQ (.ie [gV (iz T),gV (iz S),iP 0]) (.ie [gV (gR (m/n)),gV (gR (m%n)),iP 0]) (by rw[sc oT,sc oS,hT,hS])) 
def WU(a b:Dy)(p:Nat)(up:Bool)(ha:a.gX)(hb:b.gX)(b0:b.m≠0)(ib:8<=p)(gW:p<=512):gQ 171 [gU a,gU b,iP p,bP up] (.ie [gU (oW a b p up),iP (qn a b p up)]):=by
 by_cases a0:a.m=0
 .have e1:oW a b p up=il/\qn a b p up=0:=by unfold oW qn;rw[aZ a0,aZ a0];exact⟨rfl,rfl⟩
  exact ak call171 func171 (ae [.o 18 (.e (wA _ _):aj (.sl true 2 3 λi_ j_=>(iq a++iq b).getD (i_*3+j_) (.v (.bool false))) (jZ [a,b])),ag [iP p,jZ [a,b]] (wW _ _ _ aD aD aC aC),ai 21 ((0:Int) != 0) aE,ai 28 (((gR b.m).length:Int)==0) (ns (o9 b0)),ah 34 (((gR a.m).length:Int)==0) (r9 (tW.2 a0)),.o 35 (.e qH:aj (.agg ar) (gU il))]<|rQ (.ie [gU il,iP 0]) (.ie [gU (oW a b p up),iP (qn a b p up)]) (by rw[e1.1,e1.2])) 
 .have va:=ha.gR;have vb:=hb.gR;have xa:=ha.exp;have xb:=hb.exp;have ra:=ha.range.resolve_left a0;have rb:=hb.range.resolve_left b0;have pa:=nM a0;have pb:=nM b0;have hK:kT a b p 3=p+3+gZ b.m-gZ a.m:=rfl;have bs:=rG a0 (kT a b p 3);have z1:(gR (a.m*2^kT a b p 3)).length<=256:=pd aC;have hq:=Ln a0 b0 p 3 aE;have q0:a.m*2^kT a b p 3/b.m≠0:=by intro q;rw[q,rH]at hq;omega
  have z2:(gR (a.m*2^kT a b p 3/b.m)).length<=256:=pd (by have:=wm (bT (a.m*2^kT a b p 3) b.m);omega);have z3:(gR (a.m*2^kT a b p 3%b.m)).length<=256:=pd (by have:=wm (dt (bF (a.m*2^kT a b p 3) (dL b0)));omega);have jt:decide (0<(gZ (a.m*2^kT a b p 3%b.m):Int))=decide (a.m*2^kT a b p 3%b.m≠0):=by
   by_cases h:a.m*2^kT a b p 3%b.m=0
   .rw [h,rH];rfl
   .have:=nM h;rw[a6 h,a6 aC]
  obtain⟨d1,d2⟩:=acC a0 b0 p up;have h0:a.m*2^kT a b p 3/b.m≠0\/a.m*2^kT a b p 3/b.m=0/\a.e-(kT a b p 3:Int)-b.e=0/\decide (0<(gZ (a.m*2^kT a b p 3%b.m):Int))=false:=.inl q0;have hm:decide (0<(gZ (a.m*2^kT a b p 3%b.m):Int))=true->p<gZ (a.m*2^kT a b p 3/b.m):=λ_=>hq
  exact ak call171 func171 (ae [.o 18 (.e (wA _ _):aj (.sl true 2 3 λi_ j_=>(iq a++iq b).getD (i_*3+j_) (.v (.bool false))) (jZ [a,b])),ag [iP p,jZ [a,b]] (wW _ _ _ aD aD aC aC),ai 21 ((0:Int) != 0) aE,ai 28 (((gR b.m).length:Int)==0) (ns (o9 b0)),ai 34 (((gR a.m).length:Int)==0) (ns (o9 a0)),ij ((p:Int)+3) aC,ag [gU b] (C5 _ aD),ij (((p:Int)+3)+(gZ (Dy.m b):Int)) aC,ag [gU a] (C5 _ aD),
   ij ((((p:Int)+3)+(gZ (Dy.m b):Int))-(gZ (Dy.m a):Int)) aC,.o 44 (aq (if((((p:Int)+3)+(gZ (Dy.m b):Int))-(gZ (Dy.m a):Int))>0 then((((p:Int)+3)+(gZ (Dy.m b):Int))-(gZ (Dy.m a):Int))else 0) (kT a b p 3:Int) aM),.c (vX a.m (kT a b p 3) aC aC aC),ag [gV (gR (a.m*2^(kT a b p 3))),gV (gR b.m)] (yY _ _ aC aC aD),
   ij (a.e-(kT a b p 3:Int)) aC,ij ((a.e-(kT a b p 3:Int))-b.e) aC,ag [gV (gR ((a.m*2^(kT a b p 3))%b.m))] (r8 _ aC),.c (Gl (! (a.neg==b.neg)) ((a.m*2^(kT a b p 3))/b.m) ((a.e-(kT a b p 3:Int))-b.e) (decide (0<(gZ ((a.m*2^(kT a b p 3))%b.m):Int))) up p aC aD aC aC aC aC aD)]<|rQ (.ie [gU (jU (!(a.neg==b.neg)) ((a.m*2^(kT a b p 3))/b.m) ((a.e-(kT a b p 3:Int))-b.e) (decide (0<(gZ ((a.m*2^(kT a b p 3))%b.m):Int))) p up),iP (jJ (!(a.neg==b.neg)) ((a.m*2^(kT a b p 3))/b.m) ((a.e-(kT a b p 3:Int))-b.e) (decide (0<(gZ ((a.m*2^(kT a b p 3))%b.m):Int))) p up)]) (.ie [gU (oW a b p up),iP (qn a b p up)]) (by rw[<-d1,<-d2,<-jt];rfl)) 
def WS(a b:Dy)(p:Nat)(ha:a.gX)(hb:b.gX)(b0:b.m≠0)(ib:8<=p)(gW:p<=512):gQ 125 [gU a,gU b,iP p] (.ie [gU (oW a b p false),iP (qn a b p false)]):=
 ak call125 func125 (af [.c (WU a b p false aD aD aD aC aC)]) 
def WT(a b:Dy)(p:Nat)(ha:a.gX)(hb:b.gX)(b0:b.m≠0)(ib:8<=p)(gW:p<=512):gQ 126 [gU a,gU b,iP p] (.ie [gU (oW a b p true),iP (qn a b p true)]):=
 ak call126 func126 (af [.c (WU a b p true aD aD aD aC aC)]) 
def UM(l:List Iv)(i:Nat):PS:=⟨19,true,[(7,.e (iP i)),(6,.e (iP l.length)),(5,.e (gY l))],[]⟩
def UL(l:List Iv)(N:Nat)(i:Nat):PS:=⟨19,true,[(7,.e (iP i)),(6,.e (iP l.length)),(5,.e (gY l))],[]⟩
def lq(a:Iv):E.le (.sl true 1 7 λi j=>(iE a).getD (i*7+j) (.v (.bool false))) (gY [a]):=.sl λi j hi hj=>by
 obtain rfl:i=0:= aC ;rcases j with _|_|_|_|_|_|_|j
 all_goals first|exact⟨.refl _,rfl⟩|omega
def yS(a b:Iv):E.le (.sl true 2 7 λi j=>(iE a++iE b).getD (i*7+j) (.v (.bool false))) (gY [a,b]):=.sl λi j hi hj=>by
 obtain rfl|rfl:i=0\/i=1:= aC 
 all_goals
  rcases j with _|_|_|_|_|_|_|j
  all_goals first|exact⟨.refl _,rfl⟩|omega
def tV{x:Iv}(h:x.gX)(ha:x.all=false):x.lo.gX/\x.hi.gX/\iN x.lo x.hi<=0:=by
 rcases h with⟨h1,_⟩|⟨_,h⟩
 .rw [ha]at h1;cases h1
 .exact h
def UO{x:Iv}(h:x.gX)(ha:x.all=true):x.lo=il/\x.hi=il:=by
 rcases h with⟨_,h⟩|⟨h1,_⟩
 .exact h
 .rw [ha]at h1;cases h1
def nm : gQ 121 [] (ia gT):=
 ak call121 func121 (af [.o 1 (.e KA:aj (.agg [bP false,.v (.slice none 0 0),iP 0,bP false,.v (.slice none 0 0),iP 0,bP true]) (ia gT))]) 
def Ca(lo hi:Dy)(e f:Int):gQ 153 [gU lo,iP e,gU hi,iP f] (ia (lr lo e hi f)):=by
 by_cases he:e=0
 .by_cases hf:f=0
  .exact ak call153 func153 (ae [ai 10 (e != 0) (by rw[he];rfl),ai 13 (f != 0) (by rw[hf];rfl)]<|rQ (ia (Iv.mk lo hi false)) (ia (lr lo e hi f)) (by rw[show lr lo e hi f=⟨lo,hi,false⟩by unfold lr;rw[aY (by simp[he,hf])]];try rfl)) 
  .exact ak call153 func153 (ae [ai 10 (e != 0) (by rw[he];rfl),ah 13 (f != 0) (by simpa using hf),.c nm]<|rQ (ia gT) (ia (lr lo e hi f)) (by rw[show lr lo e hi f=gT by unfold lr;rw[aZ (.inr hf)]])) 
 .exact ak call153 func153 (ae [ah 10 (e != 0) (by simpa using he),.c nm]<|rQ (ia gT) (ia (lr lo e hi f)) (by rw[show lr lo e hi f=gT by unfold lr;rw[aZ (.inl he)]])) 
def UQ : gQ 112 [gU il] (bP true):=
 ak call112 func112 (af [ai 4 il.neg rfl,ah 10 (((gR il.m).length:Int)==0) (r9 (tW.2 rfl)),ah 15 (il.e==0) rfl]) 
def qV(x:Iv)(hx:x.gX):gQ 64 [ia x] (bP true):=by
 by_cases kJ:x.all=true
 .obtain ⟨h1,h2⟩:=UO hx kJ;exact ak call64 func64 (af [ah 5 x.all kJ,.c (by rw[h1];exact UQ:gQ 112 [gU x.lo] (bP true)),.c (by rw[h2];exact UQ:gQ 112 [gU x.hi] (bP true))]) 
 .replace kJ:x.all=false:=by simpa using kJ
  obtain⟨h1,h2,h3⟩:=tV hx kJ;exact ak call64 func64 (af [ai 5 x.all kJ,ag [gU x.lo] (mZ _ aD),ag [gU x.hi] (mZ _ aD),ag [gU x.lo,gU x.hi] (kH _ _ aD aD),tB 30 (a6 h3)]) 
def UN(l:List Iv)(hl:l.length<=1000)(hv:∀ i,i<l.length->(l.getD i gT).gX)(ha:∀ i,i<l.length->(l.getD i gT).all=false):gQ 113 [gY l] (bP true):=
 ak call113 func113 (af [.s (Sp.jE (UM l) 0 l.length aC (λi hi oM=>by
    have Uk:=hv i aC;have Mh:=ha i aC;exact iA (af [tT 8 ((i:Int)<l.length) aC,iX (i:Int) (l.length) aC,ai 12 ((l.getD i gT).all) Mh,.c (qV (l.getD i gT) aD),
     ij ((i:Int)+1) aC]) aF)
  (λhi=>by
    exact iA (af [tF 8 ((l.length:Int)<l.length) aC]) aF) aI:jB 2 f113 (UM l 0) (.exit 0) ⟨19,true,[],[]⟩) .nil]) 
def Ng(l:List Iv)(hl:l.length<=1000)(hv:∀ i,i<l.length->(l.getD i gT).gX)(N:Nat)(hN:N<l.length)(ha:∀ i,i<N->(l.getD i gT).all=false)(sr:(l.getD N gT).all=true):gQ 113 [gY l] (bP false):=
 ak call113 func113 (af [.s (Sp.jE (UL l N) 0 N aC (λi hi oM=>by
    have Uk:=hv i aC;have Mh:=ha i aC;exact iA (af [tT 8 ((i:Int)<l.length) aC,iX (i:Int) (l.length) aC,ai 12 ((l.getD i gT).all) Mh,.c (qV (l.getD i gT) aD),
     ij ((i:Int)+1) aC]) aF)
  (λhi=>by
    exact iA (af [tT 8 ((N:Int)<l.length) aC,iX (N:Int) (l.length) aC,ah 12 ((l.getD N gT).all) sr]) aF) aI:jB 2 f113 (UL l N 0) .ret ⟨19,true,[(2,.e (bP false))],[]⟩) .nil]) 
def pF(x:Iv)(hx:x.gX):gQ 113 [gY [x]] (bP (!x.all)):=by
 have hv:∀ i,i<[x].length->([x].getD i gT).gX:=λi hi=>(match i,hi with
  | 0,_=>hx
  |n+1,hi=>absurd hi aH)
 cases kJ:x.all with
 |true=>exact Ng [x] aH hv 0 aH (λi hi=>absurd hi (bk i)) kJ
 |false=>exact UN [x] aH hv (λi hi=>(match i,hi with
  | 0,_=>kJ
  |n+1,hi=>absurd hi aH))
def yR(x y:Iv)(hx:x.gX)(hy:y.gX):gQ 113 [gY [x,y]] (bP (!(x.all||y.all))):=by
 have hv:∀ i,i<[x,y].length->([x,y].getD i gT).gX:=λi hi=>(match i,hi with
  | 0,_=>hx
  | 1,_=>hy
  |n+2,hi=>absurd hi aH)
 cases kJ:x.all with
 |true=>exact Ng [x,y] aH hv 0 aH (λi hi=>absurd hi (bk i)) kJ
 |false=>cases Au:y.all with
  |true=>exact Ng [x,y] aH hv 1 aH (λi hi=>(match i,hi with
   | 0,_=>kJ
   |n+1,hi=>absurd hi aC)) Au
  |false=>exact UN [x,y] aH hv (λi hi=>(match i,hi with
   | 0,_=>kJ
   | 1,_=>Au
   |n+2,hi=>absurd hi aH))
def yP(x y:Iv)(p:Nat)(hx:x.gX)(hy:y.gX)(ib:8<=p)(gW:p<=512):gQ 102 [ia x,ia y,iP p] (ia (jC x y p)):=by
 by_cases hk:(x.all||y.all)=true
 .exact ak call102 func102 (ae [.o 13 (.e (yS _ _):aj (.sl true 2 7 λi_ j_=>(iE x++iE y).getD (i_*7+j_) (.v (.bool false))) (gY [x,y])),ag [gY [x,y]] (yR _ _ aD aD),ai 14 (!(x.all||y.all)) (by rw[hk];rfl),.c nm]<|rQ (ia gT) (ia (jC x y p)) (by rw[show jC x y p=gT by unfold jC;rw[aZ hk]])) 
 .replace hk:(x.all||y.all)=false:=by simpa using hk
  have kJ:x.all=false:=by cases h:x.all;rfl;rw[h]at hk;simp at hk
  have Au:y.all=false:=by cases h:y.all;rfl;rw[h]at hk;simp at hk
  obtain⟨v1,v2,v3⟩:=tV hx kJ;obtain⟨v4,v5,v6⟩:=tV hy Au;exact ak call102 func102 (ae [.o 13 (.e (yS _ _):aj (.sl true 2 7 λi_ j_=>(iE x++iE y).getD (i_*7+j_) (.v (.bool false))) (gY [x,y])),ag [gY [x,y]] (yR _ _ aD aD),ah 14 (!(x.all||y.all)) (by rw[hk];rfl),ag [iP p] (vP _),ah 18 (mC (p:Int)) (rO.2 ⟨aC,aC⟩),.c (ail x.lo y.lo p aD aD aC aC),.c (WQ x.hi y.hi p aD aD aC aC),.c (Ca (jV (iI x.lo y.lo) p false) (jV (iI x.hi y.hi) p true) (jL (iI x.lo y.lo) p false) (jL (iI x.hi y.hi) p true))]<|rQ (ia (lr (jV (iI x.lo y.lo) p false) (jL (iI x.lo y.lo) p false) (jV (iI x.hi y.hi) p true) (jL (iI x.hi y.hi) p true))) (ia (jC x y p)) (by rw[show jC x y p=_ by unfold jC;rw[aY (by rw[hk];decide)]])) 
def Jl(x:Iv)(hx:x.gX):gQ 197 [ia x] (ia (pz x)):=by
 by_cases kJ:x.all=true
 .exact ak call197 func197 (ae [.o 4 (.e (lq _):aj (.sl true 1 7 λi_ j_=>(iE x).getD (i_*7+j_) (.v (.bool false))) (gY [x])),ag [gY [x]] (pF _ aD),ai 5 (!x.all) (by rw[kJ];rfl),.c nm]<|rQ (ia gT) (ia (pz x)) (by rw[show pz x=gT by unfold pz;rw[aZ kJ]])) 
 .replace kJ:x.all=false:=by simpa using kJ
  obtain⟨v1,v2,v3⟩:=tV hx kJ;exact ak call197 func197 (ae [.o 4 (.e (lq _):aj (.sl true 1 7 λi_ j_=>(iE x).getD (i_*7+j_) (.v (.bool false))) (gY [x])),ag [gY [x]] (pF _ aD),ah 5 (!x.all) (by rw[kJ];rfl),ag [gU x.hi] (yi _ aD),ag [gU x.lo] (yi _ aD)]<|rQ (ia (Iv.mk (jl x.hi) (jl x.lo) false)) (ia (pz x)) (by rw[show pz x=⟨jl x.hi,jl x.lo,false⟩by unfold pz;rw[aY (by rw[kJ];decide)]];try rfl)) 
def Jn(x y:Iv)(p:Nat)(hx:x.gX)(hy:y.gX)(ib:8<=p)(gW:p<=512):gQ 190 [ia x,ia y,iP p] (ia (rD x y p)):=by
 have hn:=Cl hy;exact ak call190 func190 (af [.c (Jl y aD),.c (yP x (pz y) p aD aD aC aC)]) 
def AA(d:Dy)(hd:d.gX):gQ 73 [gU d] (ia (mg d)):=
 ak call73 func73 (af [ag [gU d] (mZ _ aD)]) 
def C4(d:Dy)(hd:d.gX):gQ 48 [gU d] (gU (lI d)):=by
 have hl:=hd.gR;by_cases h0:d.m=0
 .have e1:lI d=il:=by
   rcases hd.canon with q|q
   .unfold lI il;rw[q.1,q.2.2]
   .omega
  exact ak call48 func48 (ae [ag [gU d] (mZ _ aD),ah 10 (((gR d.m).length:Int)==0) (r9 (tW.2 h0)),.o 12 (.e qH:aj (.agg ar) (gU il))]<|rQ (gU il) (gU (lI d)) (by rw[e1])) 
 .exact ak call48 func48 (af [ag [gU d] (mZ _ aD),ai 10 (((gR d.m).length:Int)==0) (ns (o9 h0)),ag [gV (gR d.m)] (Rb _ (mB _) aC)]) 
def Jj(a b:Dy)(ha:a.gX)(hb:b.gX):gQ 174 [gU a,gU b] (gU (ja a b)):=by
 have hc:=C1 a b;by_cases h:(iN a b<=0)
 .exact ak call174 func174 (ae [ag [gU a,gU b] (kH _ _ aD aD),tB 8 (a6 h)]<|rQ (gU a) (gU (ja a b)) (by unfold ja;rw[aY aC])) 
 .exact ak call174 func174 (ae [ag [gU a,gU b] (kH _ _ aD aD),tB 8 (a7 h)]<|rQ (gU b) (gU (ja a b)) (by unfold ja;rw[aZ aC])) 
def Jk(a b:Dy)(ha:a.gX)(hb:b.gX):gQ 114 [gU a,gU b] (gU (iW a b)):=by
 have hc:=C1 a b;by_cases h:(0<=iN a b)
 .exact ak call114 func114 (ae [ag [gU a,gU b] (kH _ _ aD aD),tB 8 (a6 h)]<|rQ (gU a) (gU (iW a b)) (by unfold iW;rw[aY aC])) 
 .exact ak call114 func114 (ae [ag [gU a,gU b] (kH _ _ aD aD),tB 8 (a7 h)]<|rQ (gU b) (gU (iW a b)) (by unfold iW;rw[aZ aC])) 
def Jm(x:Iv)(hx:x.gX):gQ 123 [ia x] (iP (nh x)):=by
 by_cases kJ:x.all=true
 .exact ak call123 func123 (ae [.o 5 (.e (lq _):aj (.sl true 1 7 λi_ j_=>(iE x).getD (i_*7+j_) (.v (.bool false))) (gY [x])),ag [gY [x]] (pF _ aD),ai 6 (!x.all) (by rw[kJ];rfl)]<|rQ (iP 0) (iP (nh x)) (by rw[show nh x=0 by unfold nh;rw[aZ kJ]])) 
 .replace kJ:x.all=false:=by simpa using kJ
  obtain⟨v1,v2,v3⟩:=tV hx kJ;by_cases h1:0<x.lo.iJ
  .exact ak call123 func123 (ae [.o 5 (.e (lq _):aj (.sl true 1 7 λi_ j_=>(iE x).getD (i_*7+j_) (.v (.bool false))) (gY [x])),ag [gY [x]] (pF _ aD),ah 6 (!x.all) (by rw[kJ];rfl),ag [gU x.lo] (mJ _ aD),tB 12 (a6 h1)]<|rQ (iP 1) (iP (nh x)) (by rw[show nh x=1 by unfold nh;rw[aY (by rw[kJ];decide)];simp[h1]])) 
  .by_cases h2:x.hi.iJ<0
   .exact ak call123 func123 (ae [.o 5 (.e (lq _):aj (.sl true 1 7 λi_ j_=>(iE x).getD (i_*7+j_) (.v (.bool false))) (gY [x])),ag [gY [x]] (pF _ aD),ah 6 (!x.all) (by rw[kJ];rfl),ag [gU x.lo] (mJ _ aD),tB 12 (a7 h1),ag [gU x.hi] (mJ _ aD),tB 17 (a6 h2)]<|rQ (iP (-1)) (iP (nh x)) (by rw[show nh x = -1 by unfold nh;rw[aY (by rw[kJ];decide)];simp[h1,h2]])) 
   .exact ak call123 func123 (ae [.o 5 (.e (lq _):aj (.sl true 1 7 λi_ j_=>(iE x).getD (i_*7+j_) (.v (.bool false))) (gY [x])),ag [gY [x]] (pF _ aD),ah 6 (!x.all) (by rw[kJ];rfl),ag [gU x.lo] (mJ _ aD),tB 12 (a7 h1),ag [gU x.hi] (mJ _ aD),tB 17 (a7 h2)]<|rQ (iP 0) (iP (nh x)) (by rw[show nh x=0 by unfold nh;rw[aY (by rw[kJ];decide)];simp[h1,h2]])) 
def FH(x:Iv)(hx:x.gX)(kJ:x.all=false):gQ 65 [ia x] (.ie [gU (kt x),bP true]):=by
 obtain⟨v1,v2,v3⟩:=tV hx kJ;have w1:=xX v1;have w2:=xX v2;exact ak call65 func65 (af [.o 5 (.e (lq _):aj (.sl true 1 7 λi_ j_=>(iE x).getD (i_*7+j_) (.v (.bool false))) (gY [x])),ag [gY [x]] (pF _ aD),ah 6 (!x.all) (by rw[kJ];rfl),.c (C4 x.lo aD),.c (C4 x.hi aD),.c (Jk (lI x.lo) (lI x.hi) aD aD)]) 
def afS(x:Iv)(hx:x.gX)(kJ:x.all=false):gQ 248 [ia x] (.ie [gU (oF x),bP true]):=by
 obtain⟨v1,v2,v3⟩:=tV hx kJ;have w1:=xX v1;have w2:=xX v2;by_cases hs:nh x=0
 .exact ak call248 func248 (ae [.o 5 (.e (lq _):aj (.sl true 1 7 λi_ j_=>(iE x).getD (i_*7+j_) (.v (.bool false))) (gY [x])),ag [gY [x]] (pF _ aD),ah 6 (!x.all) (by rw[kJ];rfl),.c (Jm x aD),ah 11 ((nh x)==0) (by rw[hs];rfl),.o 12 (.e qH:aj (.agg ar) (gU il))]<|rQ (.ie [gU il,bP true]) (.ie [gU (oF x),bP true]) (by rw[show oF x=il by unfold oF;rw[aZ hs]])) 
 .exact ak call248 func248 (ae [.o 5 (.e (lq _):aj (.sl true 1 7 λi_ j_=>(iE x).getD (i_*7+j_) (.v (.bool false))) (gY [x])),ag [gY [x]] (pF _ aD),ah 6 (!x.all) (by rw[kJ];rfl),.c (Jm x aD),ai 11 ((nh x)==0) (by simpa using hs),.c (C4 x.lo aD),.c (C4 x.hi aD),.c (Jj (lI x.lo) (lI x.hi) aD aD)]<|rQ (.ie [gU (ja (lI x.lo) (lI x.hi)),bP true]) (.ie [gU (oF x),bP true]) (by rw[show oF x=ja (lI x.lo) (lI x.hi)by unfold oF;rw[aY hs]])) 
def Nf(x:Iv)(hx:x.gX):gQ 225 [ia x] (ia (jN x)):=by
 by_cases kJ:x.all=true
 .exact ak call225 func225 (ae [.o 8 (.e (lq _):aj (.sl true 1 7 λi_ j_=>(iE x).getD (i_*7+j_) (.v (.bool false))) (gY [x])),ag [gY [x]] (pF _ aD),ai 9 (!x.all) (by rw[kJ];rfl),.c nm]<|rQ (ia gT) (ia (jN x)) (by rw[show jN x=gT by unfold jN;rw[aZ kJ]])) 
 .replace kJ:x.all=false:=by simpa using kJ
  obtain⟨v1,v2,v3⟩:=tV hx kJ;exact ak call225 func225 (ae [.o 8 (.e (lq _):aj (.sl true 1 7 λi_ j_=>(iE x).getD (i_*7+j_) (.v (.bool false))) (gY [x])),ag [gY [x]] (pF _ aD),ah 9 (!x.all) (by rw[kJ];rfl),.c (afS x aD kJ),.c (FH x aD kJ)]<|rQ (ia (Iv.mk (oF x) (kt x) false)) (ia (jN x)) (by rw[show jN x=⟨oF x,kt x,false⟩by unfold jN;rw[aY (by rw[kJ];decide)]];try rfl)) 
def afN(x y:Iv)(p:Nat)(gd gu:FuncId)(DD:Dy->Dy->Bool->Dy)(EE:Dy->Dy->Bool->Int):PS:=⟨96,true,[(41,.e (iP 0)),(40,.e (.agg (iE (Iv.mk x.lo y.lo x.lo.neg)++[gV (gR x.lo.m),iP x.lo.e]++iE (Iv.mk y.hi x.hi y.lo.neg)++[gV (gR y.lo.m),iP y.lo.e]++iq x.hi++iq y.hi))),(12,.box 12 0),(10,.box 10 0),(2,.e (iP p)),(3,.e (.fn gd [])),(4,.e (.fn gu []))],[(12,.cells 44 (iE (Iv.mk (DD x.lo y.lo false) (DD x.lo y.lo true) false))),(10,.cells 44 au)]⟩
def afO(x y:Iv)(p:Nat)(gd gu:FuncId)(DD:Dy->Dy->Bool->Dy)(EE:Dy->Dy->Bool->Int):PS:=⟨96,true,[(41,.e (iP (0+1))),(40,.e (.agg (iE (Iv.mk x.lo y.lo x.lo.neg)++[gV (gR x.lo.m),iP x.lo.e]++iE (Iv.mk y.hi x.hi y.lo.neg)++[gV (gR y.lo.m),iP y.lo.e]++iq x.hi++iq y.hi))),(12,.box 12 0),(10,.box 10 0),(2,.e (iP p)),(3,.e (.fn gd [])),(4,.e (.fn gu []))],[(12,.cells 44 (iE (Iv.mk (ja (DD x.lo y.lo false) (DD x.lo y.hi false)) (iW (DD x.lo y.lo true) (DD x.lo y.hi true)) false))),(10,.cells 44 au)]⟩
def afP(x y:Iv)(p:Nat)(gd gu:FuncId)(DD:Dy->Dy->Bool->Dy)(EE:Dy->Dy->Bool->Int):PS:=⟨96,true,[(41,.e (iP ((0+1)+1))),(40,.e (.agg (iE (Iv.mk x.lo y.lo x.lo.neg)++[gV (gR x.lo.m),iP x.lo.e]++iE (Iv.mk y.hi x.hi y.lo.neg)++[gV (gR y.lo.m),iP y.lo.e]++iq x.hi++iq y.hi))),(12,.box 12 0),(10,.box 10 0),(2,.e (iP p)),(3,.e (.fn gd [])),(4,.e (.fn gu []))],[(12,.cells 44 (iE (Iv.mk (ja (ja (DD x.lo y.lo false) (DD x.lo y.hi false)) (DD x.hi y.lo false)) (iW (iW (DD x.lo y.lo true) (DD x.lo y.hi true)) (DD x.hi y.lo true)) false))),(10,.cells 44 au)]⟩
def afQ(x y:Iv)(p:Nat)(gd gu:FuncId)(DD:Dy->Dy->Bool->Dy)(EE:Dy->Dy->Bool->Int):PS:=⟨96,true,[(41,.e (iP (((0+1)+1)+1))),(40,.e (.agg (iE (Iv.mk x.lo y.lo x.lo.neg)++[gV (gR x.lo.m),iP x.lo.e]++iE (Iv.mk y.hi x.hi y.lo.neg)++[gV (gR y.lo.m),iP y.lo.e]++iq x.hi++iq y.hi))),(12,.box 12 0),(10,.box 10 0),(2,.e (iP p)),(3,.e (.fn gd [])),(4,.e (.fn gu []))],[(12,.cells 44 (iE (Iv.mk (ja (ja (ja (DD x.lo y.lo false) (DD x.lo y.hi false)) (DD x.hi y.lo false)) (DD x.hi y.hi false)) (iW (iW (iW (DD x.lo y.lo true) (DD x.lo y.hi true)) (DD x.hi y.lo true)) (DD x.hi y.hi true)) false))),(10,.cells 44 au)]⟩
def UK(x y:Iv)(p:Nat)(gd gu:FuncId)(DD:Dy->Dy->Bool->Dy)(EE:Dy->Dy->Bool->Int)(hd:∀ a b,(a=x.lo\/a=x.hi)->(b=y.lo\/b=y.hi)->gQ gd [gU a,gU b,iP (p:Int)] (.ie [gU (DD a b false),iP (EE a b false)]))
  (hu:∀ a b,(a=x.lo\/a=x.hi)->(b=y.lo\/b=y.hi)->gQ gu [gU a,gU b,iP (p:Int)] (.ie [gU (DD a b true),iP (EE a b true)])) (hv:∀ a b up,(DD a b up).gX):gQ 124 [ia x,ia y,iP p,.fn gd [],.fn gu []] (ia (oQ DD EE x y)):=by
 exact ak call124 func124 (ae [.u 5,ah 42 (decide ((0:Int)<4)) aE]<|.w ((EE x.lo y.lo false)=0)
  (λk1=>.w ((EE x.lo y.lo true)=0)
   (λk2=>ae [.j 3 (afN x y p gd gu DD EE)
   (af [iX 0 4 aC,iX 0 2 aC,iX 1 2 aC,.c (hd _ _ (.inl rfl) (.inl rfl):gQ gd ((gU x.lo)::(gU y.lo)::(iP p)::[]) _),iX 0 2 aC,iX 1 2 aC,.c (hu _ _ (.inl rfl) (.inl rfl):gQ gu ((gU x.lo)::(gU y.lo)::(iP p)::[]) _),tB 66 (aW k1),tB 69 (aW k2),ah 73 ((0:Int)==0) aE,ah 84 ((0:Int)==0) aE]),
    ij (0+1) aC,ah 42 (decide (((0+1):Int)<4)) aE]<|.w ((EE x.lo y.hi false)=0)
    (λk3=>.w ((EE x.lo y.hi true)=0)
     (λk4=>ae [.j 3 (afO x y p gd gu DD EE)
   (ae [iX (0+1) 4 aC,iX 0 2 aC,iX 1 2 aC,.c (hd _ _ (.inl rfl) (.inr rfl):gQ gd ((gU x.lo)::(gU y.hi)::(iP p)::[]) _),iX 0 2 aC,iX 1 2 aC,.c (hu _ _ (.inl rfl) (.inr rfl):gQ gu ((gU x.lo)::(gU y.hi)::(iP p)::[]) _),tB 66 (aW k3),tB 69 (aW k4),ai 73 (((0+1):Int)==0) aE,ag [gU (DD x.lo y.hi false),gU (DD x.lo y.lo false)] (kH _ _ (hv _ _ _) (hv _ _ _))]<|.w ((iN (DD x.lo y.hi false) (DD x.lo y.lo false))<0)
    (λm1=>ae [tB 79 (a6 m1),ai 84 (((0+1):Int)==0) aE,ag [gU (DD x.lo y.hi true),gU (DD x.lo y.lo true)] (kH _ _ (hv _ _ _) (hv _ _ _))]<|.w (0<(iN (DD x.lo y.hi true) (DD x.lo y.lo true)))
     (λm2=>ae [tB 90 (a6 m2)]<|.e (af [.b 12 (.iL (by rw[show ja (DD x.lo y.lo false) (DD x.lo y.hi false)=(DD x.lo y.hi false)from aZ m1,show iW (DD x.lo y.lo true) (DD x.lo y.hi true)=(DD x.lo y.hi true)from aZ m2]):Bx.le (.cells 44 (iE (Iv.mk (DD x.lo y.hi false) (DD x.lo y.hi true) false))) (.cells 44 (iE (Iv.mk (ja (DD x.lo y.lo false) (DD x.lo y.hi false)) (iW (DD x.lo y.lo true) (DD x.lo y.hi true)) false))))]))
     (λm2=>ae [tB 90 (a7 m2)]<|.e (af [.b 12 (.iL (by rw[show ja (DD x.lo y.lo false) (DD x.lo y.hi false)=(DD x.lo y.hi false)from aZ m1,show iW (DD x.lo y.lo true) (DD x.lo y.hi true)=(DD x.lo y.lo true)from aY m2]):Bx.le (.cells 44 (iE (Iv.mk (DD x.lo y.hi false) (DD x.lo y.lo true) false))) (.cells 44 (iE (Iv.mk (ja (DD x.lo y.lo false) (DD x.lo y.hi false)) (iW (DD x.lo y.lo true) (DD x.lo y.hi true)) false))))])))
    (λm1=>ae [tB 79 (a7 m1),ai 84 (((0+1):Int)==0) aE,ag [gU (DD x.lo y.hi true),gU (DD x.lo y.lo true)] (kH _ _ (hv _ _ _) (hv _ _ _))]<|.w (0<(iN (DD x.lo y.hi true) (DD x.lo y.lo true)))
     (λm2=>ae [tB 90 (a6 m2)]<|.e (af [.b 12 (.iL (by rw[show ja (DD x.lo y.lo false) (DD x.lo y.hi false)=(DD x.lo y.lo false)from aY m1,show iW (DD x.lo y.lo true) (DD x.lo y.hi true)=(DD x.lo y.hi true)from aZ m2]):Bx.le (.cells 44 (iE (Iv.mk (DD x.lo y.lo false) (DD x.lo y.hi true) false))) (.cells 44 (iE (Iv.mk (ja (DD x.lo y.lo false) (DD x.lo y.hi false)) (iW (DD x.lo y.lo true) (DD x.lo y.hi true)) false))))]))
     (λm2=>ae [tB 90 (a7 m2)]<|.e (af [.b 12 (.iL (by rw[show ja (DD x.lo y.lo false) (DD x.lo y.hi false)=(DD x.lo y.lo false)from aY m1,show iW (DD x.lo y.lo true) (DD x.lo y.hi true)=(DD x.lo y.lo true)from aY m2]):Bx.le (.cells 44 (iE (Iv.mk (DD x.lo y.lo false) (DD x.lo y.lo true) false))) (.cells 44 (iE (Iv.mk (ja (DD x.lo y.lo false) (DD x.lo y.hi false)) (iW (DD x.lo y.lo true) (DD x.lo y.hi true)) false))))])))),
      ij ((0+1)+1) aC,ah 42 (decide ((((0+1)+1):Int)<4)) aE]<|.w ((EE x.hi y.lo false)=0)
      (λk5=>.w ((EE x.hi y.lo true)=0)
       (λk6=>ae [.j 3 (afP x y p gd gu DD EE)
   (ae [iX ((0+1)+1) 4 aC,iX 0 2 aC,iX 1 2 aC,.c (hd _ _ (.inr rfl) (.inl rfl):gQ gd ((gU x.hi)::(gU y.lo)::(iP p)::[]) _),iX 0 2 aC,iX 1 2 aC,.c (hu _ _ (.inr rfl) (.inl rfl):gQ gu ((gU x.hi)::(gU y.lo)::(iP p)::[]) _),tB 66 (aW k5),tB 69 (aW k6),ai 73 ((((0+1)+1):Int)==0) aE,ag [gU (DD x.hi y.lo false),gU (ja (DD x.lo y.lo false) (DD x.lo y.hi false))] (kH _ _ (hv _ _ _) (wT (hv _ _ _) (hv _ _ _)))]<|.w ((iN (DD x.hi y.lo false) (ja (DD x.lo y.lo false) (DD x.lo y.hi false)))<0)
    (λm1=>ae [tB 79 (a6 m1),ai 84 ((((0+1)+1):Int)==0) aE,ag [gU (DD x.hi y.lo true),gU (iW (DD x.lo y.lo true) (DD x.lo y.hi true))] (kH _ _ (hv _ _ _) (tZ (hv _ _ _) (hv _ _ _)))]<|.w (0<(iN (DD x.hi y.lo true) (iW (DD x.lo y.lo true) (DD x.lo y.hi true))))
     (λm2=>ae [tB 90 (a6 m2)]<|.e (af [.b 12 (.iL (by rw[show ja (ja (DD x.lo y.lo false) (DD x.lo y.hi false)) (DD x.hi y.lo false)=(DD x.hi y.lo false)from aZ m1,show iW (iW (DD x.lo y.lo true) (DD x.lo y.hi true)) (DD x.hi y.lo true)=(DD x.hi y.lo true)from aZ m2]):Bx.le (.cells 44 (iE (Iv.mk (DD x.hi y.lo false) (DD x.hi y.lo true) false))) (.cells 44 (iE (Iv.mk (ja (ja (DD x.lo y.lo false) (DD x.lo y.hi false)) (DD x.hi y.lo false)) (iW (iW (DD x.lo y.lo true) (DD x.lo y.hi true)) (DD x.hi y.lo true)) false))))]))
     (λm2=>ae [tB 90 (a7 m2)]<|.e (af [.b 12 (.iL (by rw[show ja (ja (DD x.lo y.lo false) (DD x.lo y.hi false)) (DD x.hi y.lo false)=(DD x.hi y.lo false)from aZ m1,show iW (iW (DD x.lo y.lo true) (DD x.lo y.hi true)) (DD x.hi y.lo true)=(iW (DD x.lo y.lo true) (DD x.lo y.hi true))from aY m2]):Bx.le (.cells 44 (iE (Iv.mk (DD x.hi y.lo false) (iW (DD x.lo y.lo true) (DD x.lo y.hi true)) false))) (.cells 44 (iE (Iv.mk (ja (ja (DD x.lo y.lo false) (DD x.lo y.hi false)) (DD x.hi y.lo false)) (iW (iW (DD x.lo y.lo true) (DD x.lo y.hi true)) (DD x.hi y.lo true)) false))))])))
    (λm1=>ae [tB 79 (a7 m1),ai 84 ((((0+1)+1):Int)==0) aE,ag [gU (DD x.hi y.lo true),gU (iW (DD x.lo y.lo true) (DD x.lo y.hi true))] (kH _ _ (hv _ _ _) (tZ (hv _ _ _) (hv _ _ _)))]<|.w (0<(iN (DD x.hi y.lo true) (iW (DD x.lo y.lo true) (DD x.lo y.hi true))))
     (λm2=>ae [tB 90 (a6 m2)]<|.e (af [.b 12 (.iL (by rw[show ja (ja (DD x.lo y.lo false) (DD x.lo y.hi false)) (DD x.hi y.lo false)=(ja (DD x.lo y.lo false) (DD x.lo y.hi false))from aY m1,show iW (iW (DD x.lo y.lo true) (DD x.lo y.hi true)) (DD x.hi y.lo true)=(DD x.hi y.lo true)from aZ m2]):Bx.le (.cells 44 (iE (Iv.mk (ja (DD x.lo y.lo false) (DD x.lo y.hi false)) (DD x.hi y.lo true) false))) (.cells 44 (iE (Iv.mk (ja (ja (DD x.lo y.lo false) (DD x.lo y.hi false)) (DD x.hi y.lo false)) (iW (iW (DD x.lo y.lo true) (DD x.lo y.hi true)) (DD x.hi y.lo true)) false))))]))
     (λm2=>ae [tB 90 (a7 m2)]<|.e (af [.b 12 (.iL (by rw[show ja (ja (DD x.lo y.lo false) (DD x.lo y.hi false)) (DD x.hi y.lo false)=(ja (DD x.lo y.lo false) (DD x.lo y.hi false))from aY m1,show iW (iW (DD x.lo y.lo true) (DD x.lo y.hi true)) (DD x.hi y.lo true)=(iW (DD x.lo y.lo true) (DD x.lo y.hi true))from aY m2]):Bx.le (.cells 44 (iE (Iv.mk (ja (DD x.lo y.lo false) (DD x.lo y.hi false)) (iW (DD x.lo y.lo true) (DD x.lo y.hi true)) false))) (.cells 44 (iE (Iv.mk (ja (ja (DD x.lo y.lo false) (DD x.lo y.hi false)) (DD x.hi y.lo false)) (iW (iW (DD x.lo y.lo true) (DD x.lo y.hi true)) (DD x.hi y.lo true)) false))))])))),
        ij (((0+1)+1)+1) aC,ah 42 (decide (((((0+1)+1)+1):Int)<4)) aE]<|.w ((EE x.hi y.hi false)=0)
        (λk7=>.w ((EE x.hi y.hi true)=0)
         (λk8=>ae [.j 3 (afQ x y p gd gu DD EE)
   (ae [iX (((0+1)+1)+1) 4 aC,iX 0 2 aC,iX 1 2 aC,.c (hd _ _ (.inr rfl) (.inr rfl):gQ gd ((gU x.hi)::(gU y.hi)::(iP p)::[]) _),iX 0 2 aC,iX 1 2 aC,.c (hu _ _ (.inr rfl) (.inr rfl):gQ gu ((gU x.hi)::(gU y.hi)::(iP p)::[]) _),tB 66 (aW k7),tB 69 (aW k8),ai 73 (((((0+1)+1)+1):Int)==0) aE,ag [gU (DD x.hi y.hi false),gU (ja (ja (DD x.lo y.lo false) (DD x.lo y.hi false)) (DD x.hi y.lo false))] (kH _ _ (hv _ _ _) (wT (wT (hv _ _ _) (hv _ _ _)) (hv _ _ _)))]<|.w ((iN (DD x.hi y.hi false) (ja (ja (DD x.lo y.lo false) (DD x.lo y.hi false)) (DD x.hi y.lo false)))<0)
    (λm1=>ae [tB 79 (a6 m1),ai 84 (((((0+1)+1)+1):Int)==0) aE,ag [gU (DD x.hi y.hi true),gU (iW (iW (DD x.lo y.lo true) (DD x.lo y.hi true)) (DD x.hi y.lo true))] (kH _ _ (hv _ _ _) (tZ (tZ (hv _ _ _) (hv _ _ _)) (hv _ _ _)))]<|.w (0<(iN (DD x.hi y.hi true) (iW (iW (DD x.lo y.lo true) (DD x.lo y.hi true)) (DD x.hi y.lo true))))
     (λm2=>ae [tB 90 (a6 m2)]<|.e (af [.b 12 (.iL (by rw[show ja (ja (ja (DD x.lo y.lo false) (DD x.lo y.hi false)) (DD x.hi y.lo false)) (DD x.hi y.hi false)=(DD x.hi y.hi false)from aZ m1,show iW (iW (iW (DD x.lo y.lo true) (DD x.lo y.hi true)) (DD x.hi y.lo true)) (DD x.hi y.hi true)=(DD x.hi y.hi true)from aZ m2]):Bx.le (.cells 44 (iE (Iv.mk (DD x.hi y.hi false) (DD x.hi y.hi true) false))) (.cells 44 (iE (Iv.mk (ja (ja (ja (DD x.lo y.lo false) (DD x.lo y.hi false)) (DD x.hi y.lo false)) (DD x.hi y.hi false)) (iW (iW (iW (DD x.lo y.lo true) (DD x.lo y.hi true)) (DD x.hi y.lo true)) (DD x.hi y.hi true)) false))))]))
     (λm2=>ae [tB 90 (a7 m2)]<|.e (af [.b 12 (.iL (by rw[show ja (ja (ja (DD x.lo y.lo false) (DD x.lo y.hi false)) (DD x.hi y.lo false)) (DD x.hi y.hi false)=(DD x.hi y.hi false)from aZ m1,show iW (iW (iW (DD x.lo y.lo true) (DD x.lo y.hi true)) (DD x.hi y.lo true)) (DD x.hi y.hi true)=(iW (iW (DD x.lo y.lo true) (DD x.lo y.hi true)) (DD x.hi y.lo true))from aY m2]):Bx.le (.cells 44 (iE (Iv.mk (DD x.hi y.hi false) (iW (iW (DD x.lo y.lo true) (DD x.lo y.hi true)) (DD x.hi y.lo true)) false))) (.cells 44 (iE (Iv.mk (ja (ja (ja (DD x.lo y.lo false) (DD x.lo y.hi false)) (DD x.hi y.lo false)) (DD x.hi y.hi false)) (iW (iW (iW (DD x.lo y.lo true) (DD x.lo y.hi true)) (DD x.hi y.lo true)) (DD x.hi y.hi true)) false))))])))
    (λm1=>ae [tB 79 (a7 m1),ai 84 (((((0+1)+1)+1):Int)==0) aE,ag [gU (DD x.hi y.hi true),gU (iW (iW (DD x.lo y.lo true) (DD x.lo y.hi true)) (DD x.hi y.lo true))] (kH _ _ (hv _ _ _) (tZ (tZ (hv _ _ _) (hv _ _ _)) (hv _ _ _)))]<|.w (0<(iN (DD x.hi y.hi true) (iW (iW (DD x.lo y.lo true) (DD x.lo y.hi true)) (DD x.hi y.lo true))))
     (λm2=>ae [tB 90 (a6 m2)]<|.e (af [.b 12 (.iL (by rw[show ja (ja (ja (DD x.lo y.lo false) (DD x.lo y.hi false)) (DD x.hi y.lo false)) (DD x.hi y.hi false)=(ja (ja (DD x.lo y.lo false) (DD x.lo y.hi false)) (DD x.hi y.lo false))from aY m1,show iW (iW (iW (DD x.lo y.lo true) (DD x.lo y.hi true)) (DD x.hi y.lo true)) (DD x.hi y.hi true)=(DD x.hi y.hi true)from aZ m2]):Bx.le (.cells 44 (iE (Iv.mk (ja (ja (DD x.lo y.lo false) (DD x.lo y.hi false)) (DD x.hi y.lo false)) (DD x.hi y.hi true) false))) (.cells 44 (iE (Iv.mk (ja (ja (ja (DD x.lo y.lo false) (DD x.lo y.hi false)) (DD x.hi y.lo false)) (DD x.hi y.hi false)) (iW (iW (iW (DD x.lo y.lo true) (DD x.lo y.hi true)) (DD x.hi y.lo true)) (DD x.hi y.hi true)) false))))]))
     (λm2=>ae [tB 90 (a7 m2)]<|.e (af [.b 12 (.iL (by rw[show ja (ja (ja (DD x.lo y.lo false) (DD x.lo y.hi false)) (DD x.hi y.lo false)) (DD x.hi y.hi false)=(ja (ja (DD x.lo y.lo false) (DD x.lo y.hi false)) (DD x.hi y.lo false))from aY m1,show iW (iW (iW (DD x.lo y.lo true) (DD x.lo y.hi true)) (DD x.hi y.lo true)) (DD x.hi y.hi true)=(iW (iW (DD x.lo y.lo true) (DD x.lo y.hi true)) (DD x.hi y.lo true))from aY m2]):Bx.le (.cells 44 (iE (Iv.mk (ja (ja (DD x.lo y.lo false) (DD x.lo y.hi false)) (DD x.hi y.lo false)) (iW (iW (DD x.lo y.lo true) (DD x.lo y.hi true)) (DD x.hi y.lo true)) false))) (.cells 44 (iE (Iv.mk (ja (ja (ja (DD x.lo y.lo false) (DD x.lo y.hi false)) (DD x.hi y.lo false)) (DD x.hi y.hi false)) (iW (iW (iW (DD x.lo y.lo true) (DD x.lo y.hi true)) (DD x.hi y.lo true)) (DD x.hi y.hi true)) false))))])))),
          ij ((((0+1)+1)+1)+1) aC,ai 42 (decide ((((((0+1)+1)+1)+1):Int)<4)) aE]<|rQ (ia (Iv.mk (ja (ja (ja (DD x.lo y.lo false) (DD x.lo y.hi false)) (DD x.hi y.lo false)) (DD x.hi y.hi false)) (iW (iW (iW (DD x.lo y.lo true) (DD x.lo y.hi true)) (DD x.hi y.lo true)) (DD x.hi y.hi true)) false)) (ia (oQ DD EE x y)) (by rw[show oQ DD EE x y=⟨ja (ja (ja (DD x.lo y.lo false) (DD x.lo y.hi false)) (DD x.hi y.lo false)) (DD x.hi y.hi false),iW (iW (iW (DD x.lo y.lo true) (DD x.lo y.hi true)) (DD x.hi y.lo true)) (DD x.hi y.hi true),false⟩from aZ ⟨⟨k1,k2⟩,⟨k3,k4⟩,⟨k5,k6⟩,⟨k7,k8⟩⟩];try rfl))
         (λk8=>ae [iX (((0+1)+1)+1) 4 aC,iX 0 2 aC,iX 1 2 aC,.c (hd _ _ (.inr rfl) (.inr rfl):gQ gd ((gU x.hi)::(gU y.hi)::(iP p)::[]) _),iX 0 2 aC,iX 1 2 aC,.c (hu _ _ (.inr rfl) (.inr rfl):gQ gu ((gU x.hi)::(gU y.hi)::(iP p)::[]) _),tB 66 (aW k7),tB 69 (aX k8),.c nm]<|rQ (ia gT) (ia (oQ DD EE x y)) (by rw[show oQ DD EE x y=gT from aY (by rintro⟨⟨q0,r0⟩,⟨q1,r1⟩,⟨q2,r2⟩,⟨q3,r3⟩⟩;exact k8 r3)])))
        (λk7=>ae [iX (((0+1)+1)+1) 4 aC,iX 0 2 aC,iX 1 2 aC,.c (hd _ _ (.inr rfl) (.inr rfl):gQ gd ((gU x.hi)::(gU y.hi)::(iP p)::[]) _),iX 0 2 aC,iX 1 2 aC,.c (hu _ _ (.inr rfl) (.inr rfl):gQ gu ((gU x.hi)::(gU y.hi)::(iP p)::[]) _),tB 66 (aX k7),.c nm]<|rQ (ia gT) (ia (oQ DD EE x y)) (by rw[show oQ DD EE x y=gT from aY (by rintro⟨⟨q0,r0⟩,⟨q1,r1⟩,⟨q2,r2⟩,⟨q3,r3⟩⟩;exact k7 q3)])))
       (λk6=>ae [iX ((0+1)+1) 4 aC,iX 0 2 aC,iX 1 2 aC,.c (hd _ _ (.inr rfl) (.inl rfl):gQ gd ((gU x.hi)::(gU y.lo)::(iP p)::[]) _),iX 0 2 aC,iX 1 2 aC,.c (hu _ _ (.inr rfl) (.inl rfl):gQ gu ((gU x.hi)::(gU y.lo)::(iP p)::[]) _),tB 66 (aW k5),tB 69 (aX k6),.c nm]<|rQ (ia gT) (ia (oQ DD EE x y)) (by rw[show oQ DD EE x y=gT from aY (by rintro⟨⟨q0,r0⟩,⟨q1,r1⟩,⟨q2,r2⟩,⟨q3,r3⟩⟩;exact k6 r2)])))
      (λk5=>ae [iX ((0+1)+1) 4 aC,iX 0 2 aC,iX 1 2 aC,.c (hd _ _ (.inr rfl) (.inl rfl):gQ gd ((gU x.hi)::(gU y.lo)::(iP p)::[]) _),iX 0 2 aC,iX 1 2 aC,.c (hu _ _ (.inr rfl) (.inl rfl):gQ gu ((gU x.hi)::(gU y.lo)::(iP p)::[]) _),tB 66 (aX k5),.c nm]<|rQ (ia gT) (ia (oQ DD EE x y)) (by rw[show oQ DD EE x y=gT from aY (by rintro⟨⟨q0,r0⟩,⟨q1,r1⟩,⟨q2,r2⟩,⟨q3,r3⟩⟩;exact k5 q2)])))
     (λk4=>ae [iX (0+1) 4 aC,iX 0 2 aC,iX 1 2 aC,.c (hd _ _ (.inl rfl) (.inr rfl):gQ gd ((gU x.lo)::(gU y.hi)::(iP p)::[]) _),iX 0 2 aC,iX 1 2 aC,.c (hu _ _ (.inl rfl) (.inr rfl):gQ gu ((gU x.lo)::(gU y.hi)::(iP p)::[]) _),tB 66 (aW k3),tB 69 (aX k4),.c nm]<|rQ (ia gT) (ia (oQ DD EE x y)) (by rw[show oQ DD EE x y=gT from aY (by rintro⟨⟨q0,r0⟩,⟨q1,r1⟩,⟨q2,r2⟩,⟨q3,r3⟩⟩;exact k4 r1)])))
    (λk3=>ae [iX (0+1) 4 aC,iX 0 2 aC,iX 1 2 aC,.c (hd _ _ (.inl rfl) (.inr rfl):gQ gd ((gU x.lo)::(gU y.hi)::(iP p)::[]) _),iX 0 2 aC,iX 1 2 aC,.c (hu _ _ (.inl rfl) (.inr rfl):gQ gu ((gU x.lo)::(gU y.hi)::(iP p)::[]) _),tB 66 (aX k3),.c nm]<|rQ (ia gT) (ia (oQ DD EE x y)) (by rw[show oQ DD EE x y=gT from aY (by rintro⟨⟨q0,r0⟩,⟨q1,r1⟩,⟨q2,r2⟩,⟨q3,r3⟩⟩;exact k3 q1)])))
   (λk2=>ae [iX 0 4 aC,iX 0 2 aC,iX 1 2 aC,.c (hd _ _ (.inl rfl) (.inl rfl):gQ gd ((gU x.lo)::(gU y.lo)::(iP p)::[]) _),iX 0 2 aC,iX 1 2 aC,.c (hu _ _ (.inl rfl) (.inl rfl):gQ gu ((gU x.lo)::(gU y.lo)::(iP p)::[]) _),tB 66 (aW k1),tB 69 (aX k2),.c nm]<|rQ (ia gT) (ia (oQ DD EE x y)) (by rw[show oQ DD EE x y=gT from aY (by rintro⟨⟨q0,r0⟩,⟨q1,r1⟩,⟨q2,r2⟩,⟨q3,r3⟩⟩;exact k2 r0)])))
  (λk1=>ae [iX 0 4 aC,iX 0 2 aC,iX 1 2 aC,.c (hd _ _ (.inl rfl) (.inl rfl):gQ gd ((gU x.lo)::(gU y.lo)::(iP p)::[]) _),iX 0 2 aC,iX 1 2 aC,.c (hu _ _ (.inl rfl) (.inl rfl):gQ gu ((gU x.lo)::(gU y.lo)::(iP p)::[]) _),tB 66 (aX k1),.c nm]<|rQ (ia gT) (ia (oQ DD EE x y)) (by rw[show oQ DD EE x y=gT from aY (by rintro⟨⟨q0,r0⟩,⟨q1,r1⟩,⟨q2,r2⟩,⟨q3,r3⟩⟩;exact k1 q0)]))) 
def ajY{y:Iv}(hy:y.gX)(hs:nh y≠0):y.lo.m≠0/\y.hi.m≠0:=by
 unfold nh at hs;have ha:y.all=false:=by
  cases h:y.all with
  |false=>rfl
  |true=>rw[h]at hs;exact absurd rfl hs
 obtain⟨v1,v2,v3⟩:=tV hy ha;rw[ha]at hs;simp only[bB,bj]at hs;have z:∀ d:Dy,d.m=0->d.iJ=0:=λd h=>by unfold Dy.iJ;rw[aZ h]
 have hc:=Rd y.lo y.hi;rw[hc]at v3;constructor
 .intro h0;have:=z _ h0;rw[this]at hs v3;split at hs
  .omega
  .split at hs
   .split at v3<;>omega
   .exact hs rfl
 .intro h0;have:=z _ h0;rw[this]at hs v3;split at hs
  .split at v3<;>omega
  .split at hs
   .omega
   .exact hs rfl
def acx(a b:Dy){p:Nat}(up:Bool)(hp:1<=p)(gW:p<=4096):(oW a b p up).gX:=by
 unfold oW;split
 .exact rf
 .exact sV _ _ _ _ _ _ hp gW
def tg(x y:Iv)(p:Nat)(hx:x.gX)(hy:y.gX)(ib:8<=p)(gW:p<=512):gQ 103 [ia x,ia y,iP p] (ia (iy x y p)):=by
 by_cases hk:(x.all||y.all)=true
 .exact ak call103 func103 (ae [.o 9 (.e (yS _ _):aj (.sl true 2 7 λi_ j_=>(iE x++iE y).getD (i_*7+j_) (.v (.bool false))) (gY [x,y])),ag [gY [x,y]] (yR _ _ aD aD),ai 10 (!(x.all||y.all)) (by rw[hk];rfl),.c nm]<|rQ (ia gT) (ia (iy x y p)) (by rw[show iy x y p=gT by unfold iy;rw[aZ hk]])) 
 .replace hk:(x.all||y.all)=false:=by simpa using hk
  have kJ:x.all=false:=by cases h:x.all;rfl;rw[h]at hk;simp at hk
  have Au:y.all=false:=by cases h:y.all;rfl;rw[h]at hk;simp at hk
  obtain⟨v1,v2,v3⟩:=tV hx kJ;obtain⟨v4,v5,v6⟩:=tV hy Au;exact ak call103 func103 (ae [.o 9 (.e (yS _ _):aj (.sl true 2 7 λi_ j_=>(iE x++iE y).getD (i_*7+j_) (.v (.bool false))) (gY [x,y])),ag [gY [x,y]] (yR _ _ aD aD),ah 10 (!(x.all||y.all)) (by rw[hk];rfl),ag [iP p] (vP _),ah 14 (mC (p:Int)) (rO.2 ⟨aC,aC⟩),.c (UK x y p 154 155 (λa b up=>jV (jq a b) p up) (λa b up=>jL (jq a b) p up) (λa b ha hb=>JV a b p (by rcases ha with rfl|rfl;exact v1;exact v2) (by rcases hb with rfl|rfl;exact v4;exact v5) ib gW) (λa b ha hb=>JW a b p (by rcases ha with rfl|rfl;exact v1;exact v2) (by rcases hb with rfl|rfl;exact v4;exact v5) ib gW) (λa b up=>sV _ _ _ _ _ _ aC aC))]<|rQ (ia (oQ (λa b up=>jV (jq a b) p up) (λa b up=>jL (jq a b) p up) x y)) (ia (iy x y p)) (by rw[show iy x y p=_ by unfold iy;rw[aY (by rw[hk];decide)]];rfl)) 
def yQ(x y:Iv)(p:Nat)(hx:x.gX)(hy:y.gX)(ib:8<=p)(gW:p<=512):gQ 75 [ia x,ia y,iP p] (ia (jh x y p)):=by
 by_cases hk:(x.all||y.all)=true
 .exact ak call75 func75 (ae [.o 9 (.e (yS _ _):aj (.sl true 2 7 λi_ j_=>(iE x++iE y).getD (i_*7+j_) (.v (.bool false))) (gY [x,y])),ag [gY [x,y]] (yR _ _ aD aD),ai 10 (!(x.all||y.all)) (by rw[hk];rfl),.c nm]<|rQ (ia gT) (ia (jh x y p)) (by rw[show jh x y p=gT by unfold jh;rw[aZ (by rw[hk];rfl)]])) 
 .replace hk:(x.all||y.all)=false:=by simpa using hk
  have kJ:x.all=false:=by cases h:x.all;rfl;rw[h]at hk;simp at hk
  have Au:y.all=false:=by cases h:y.all;rfl;rw[h]at hk;simp at hk
  obtain⟨v1,v2,v3⟩:=tV hx kJ;obtain⟨v4,v5,v6⟩:=tV hy Au;by_cases hs:nh y=0
  .exact ak call75 func75 (ae [.o 9 (.e (yS _ _):aj (.sl true 2 7 λi_ j_=>(iE x++iE y).getD (i_*7+j_) (.v (.bool false))) (gY [x,y])),ag [gY [x,y]] (yR _ _ aD aD),ah 10 (!(x.all||y.all)) (by rw[hk];rfl),ag [iP p] (vP _),ah 14 (mC (p:Int)) (rO.2 ⟨aC,aC⟩),.c (Jm y aD),ah 20 ((nh y)==0) (by rw[hs];rfl),.c nm]<|rQ (ia gT) (ia (jh x y p)) (by rw[show jh x y p=gT by unfold jh;rw[aZ (by rw[hk,a6 hs];rfl)]])) 
  .obtain ⟨n1,n2⟩:=ajY hy hs;exact ak call75 func75 (ae [.o 9 (.e (yS _ _):aj (.sl true 2 7 λi_ j_=>(iE x++iE y).getD (i_*7+j_) (.v (.bool false))) (gY [x,y])),ag [gY [x,y]] (yR _ _ aD aD),ah 10 (!(x.all||y.all)) (by rw[hk];rfl),ag [iP p] (vP _),ah 14 (mC (p:Int)) (rO.2 ⟨aC,aC⟩),.c (Jm y aD),ai 20 ((nh y)==0) (by simpa using hs),.c (UK x y p 125 126 (λa b up=>oW a b p up) (λa b up=>qn a b p up) (λa b ha hb=>WS a b p (by rcases ha with rfl|rfl;exact v1;exact v2) (by rcases hb with rfl|rfl;exact v4;exact v5) (by rcases hb with rfl|rfl;exact n1;exact n2) ib gW) (λa b ha hb=>WT a b p (by rcases ha with rfl|rfl;exact v1;exact v2) (by rcases hb with rfl|rfl;exact v4;exact v5) (by rcases hb with rfl|rfl;exact n1;exact n2) ib gW) (λa b up=>acx a b up aC aC))]<|rQ (ia (oQ (λa b up=>oW a b p up) (λa b up=>qn a b p up) x y)) (ia (jh x y p)) (by rw[show jh x y p=_ by unfold jh;rw[aY (by rw[hk,a7 hs];decide)]])) 
def af0(d:RD)(h:d.Zero):gQ 112 [sM d] (bP true):=by
 obtain⟨h1,h2,h3⟩:=h;exact ak call112 func112 (af [ai 4 d.neg h1,ah 10 ((d.L.length:Int)==0) (r9 (by rw[h2];rfl)),ah 15 (d.e==0) (by rw[h3];rfl)]) 
def UP(d:RD)(h:¬d.Zero):gQ 112 [sM d] (bP false):=by
 by_cases h1:d.neg=true
 .exact ak call112 func112 (af [ah 4 d.neg h1]) 
 .replace h1:d.neg=false:=by simpa using h1
  by_cases h2:d.L=[]
  .have h3:¬d.e=0:=λq=>h ⟨h1,h2,q⟩
   exact ak call112 func112 (af [ai 4 d.neg h1,ah 10 ((d.L.length:Int)==0) (r9 (by rw[h2];rfl)),ai 15 (d.e==0) (by simpa using h3)]) 
  .exact ak call112 func112 (af [ai 4 d.neg h1,ai 10 ((d.L.length:Int)==0) (ns (λq=>h2 (amA.1 q)))]) 
def afZ(x:RI)(g:x.ko)(h:x.Ok):gQ 64 [wX x] (bP true):=by
 have:=qV x.iv h.valid;rwa[<-Nh,h.eq g]at this
def afX(x:RI)(g:x.ko)(h:¬x.Ok):gQ 64 [wX x] (bP false):=by
 have ga:=g.lo;have gb:=g.hi;by_cases ha:x.all=true
 .by_cases h1:x.lo.Zero
  .have h2:¬x.hi.Zero:=λq=>h (.inl ⟨ha,h1,q⟩)
   exact ak call64 func64 (af [ah 5 x.all ha,.c (af0 x.lo h1),.c (UP x.hi h2)]) 
  .exact ak call64 func64 (af [ah 5 x.all ha,.c (UP x.lo h1)]) 
 .replace ha:x.all=false:=by simpa using ha
  by_cases h1:x.lo.Ok
  .by_cases h2:x.hi.Ok
   .have h3:¬iN x.lo.dy x.hi.dy<=0:=λq=>h (.inr ⟨ha,h1,h2,q⟩)
    have v1:=h1.valid;have v2:=h2.valid;have e1:wX x=ia x.iv:=by rw[<-Nh,show x.iv.raw=x by show RI.mk x.lo.dy.raw x.hi.dy.raw x.all=x;rw[h1.eq ga,h2.eq gb]]
    rw[e1];exact ak call64 func64 (af [ai 5 x.iv.all ha,ag [gU x.iv.lo] (mZ _ aD),ag [gU x.iv.hi] (mZ _ aD),ag [gU x.iv.lo,gU x.iv.hi] (kH _ _ aD aD),tB 30 (a7 h3)]) 
   .exact ak call64 func64 (af [ai 5 x.all ha,ag [sM x.lo] (yj _ aD true (by simp[h1])),ag [sM x.hi] (yj _ aD false (by simp[h2]))]) 
  .exact ak call64 func64 (af [ai 5 x.all ha,ag [sM x.lo] (yj _ aD false (by simp[h1]))]) 
def afY(x:RI)(g:x.ko):gQ 64 [wX x] (bP (y5 x)):=by
 by_cases h:x.Ok
 .rw [AI.2 h];exact afZ x g h
 .rw [show y5 x=false by simpa using λq=>h (AI.1 q)];exact afX x g h
abbrev iF(xs:List Iv):Nat->Nat->E:=λi j=>(iE (xs.getD i gT)).getD j .any
abbrev lV(M:List (List Iv)):Nat->Nat->E:=λi _=>gY (M.getD i [])
abbrev mH(M:List (List Iv)):Nat->Nat:=λq=>(M.getD q []).length
abbrev oc(M:List (List Iv)):Nat->Nat->Nat->E:=λq i j=>(iE ((M.getD q []).getD i gT)).getD j .any
def tf(x:Iv)(j:Nat)(hj:j<7):((iE x).getD j .any).nr 2=true:=by
 rcases j with _|_|_|_|_|_|_|j
 all_goals first|rfl|omega
def UT(xs:List Iv):(gY xs).nr 2=true:=rfl
def Jo{T n:Nat}{xs:List Iv}{y:Iv}(hn:n=xs.length):
 Bx.le (.row true T (n+[y].length) 7 λi j=>if i<n then iF xs i j else(E.kE (gY [y])) (i-n) j) (.row true T (xs++[y]).length 7 (iF (xs++[y]))):=by
 subst hn;refine .row aH λi j hi hj=>⟨.iL ?_,tf _ _ hj⟩
 by_cases h:i<xs.length
 .rw [aZ h];show(iE (xs.getD i gT)).getD j .any=(iE ((xs++[y]).getD i gT)).getD j .any;congr 2;simp[bd,dw h]
 .have mi:i=xs.length:=by simp at hi;omega
  subst mi;rw[aY h,cX];show(iE y).getD j .any=(iE ((xs++[y]).getD xs.length gT)).getD j .any;congr 2;simp[bd]
def agY{T n:Nat}{M:List (List Iv)}{r:List Iv}{p:E}{m:Nat}(hn:n=M.length)(hm:m=1)(hp:∀ j,j<1->p.kE 0 j=gY r):
 Bx.le (.row true T (n+m) 1 λi j=>if i<n then lV M i j else(E.kE p) (i-n) j) (.row true T (M++[r]).length 1 (lV (M++[r]))):=by
 subst hn hm;refine .row aH λi j hi hj=>⟨.iL ?_,UT _⟩
 by_cases h:i<M.length
 .rw [aZ h];show gY (M.getD i [])=gY ((M++[r]).getD i []);congr 1;simp[bd,dw h]
 .have mi:i=M.length:= aC ;subst mi;rw[aY h,cX,hp j hj];show gY r=gY ((M++[r]).getD M.length []);congr 1;simp[bd]
def pA{α:Type}(y:α):[y].length=1:=rfl
def Oq{n i:Nat}{F:Nat->Iv}(h:i<n):((List.range n).map F).getD i gT=F i:=by
 simp[bd,h]
def agX{n:Nat}{M:List (List Iv)}(hn:n=M.length):E.le (.sl true n 1 λk _=>.sl true (mH M k) 7 (oc M k)) (kK M):=by subst hn;exact .refl _
end Go.Proofs.YtkdddbdjilcofaaGreatDoor
namespace Go.Proofs.YtkdddbdjilcofaaGreatDoor.Fp
section
variable {a b:Dy} {k:Int}
end
def aeB{m gm p:Nat}{e ge K:Int}(hp:1<=p)(hg:gZ gm<=p)(qS:-16384<=ge)(k1:K<=e)(k2:K<=ge)
 (h:gm*2^(ge-K).toNat<=m*2^(e-K).toNat):gm*2^(ge-K).toNat<=kR m e false p false*2^(e+jI m e p-K).toNat:=by
 have hq:kR m e false p false=m/2^jI m e p:=by unfold kR;simp
 rw[hq];have hm:=cB m (2^jI m e p);have hr:=bF m (bn (n:=jI m e p) (aE:0<2));obtain⟨k,hk⟩:∃ k,k=jI m e p:=⟨_,rfl⟩
 rw[<-hk]at hm hr ⊢;have e1:(e+(k:Int)-K).toNat=k+(e-K).toNat:= aC ;rw[e1,bh];generalize hE:2^(e-K).toNat=E at *
 have L4:0<E:=by rw[<-hE];exact bn aE 
 have hmE:m*E<(m/2^k+1)*(2^k*E):=by
  rw[<-bA];refine de ?_ L4;rw[bS,bU,bD];omega
 by_cases hc:e+k<=ge
 .
  have e2:(ge-K).toNat=(ge-(e+k)).toNat+(k+(e-K).toNat):= aC ;rw[e2,bh,bh 2 k,hE]at h ⊢;rw[<-bA]at h ⊢;generalize gm*2^(ge-(e+k)).toNat=g at *
  have:g<m/2^k+1:=by
   apply bM;intro h';have:=bK (2^k*E) (aC:m/2^k+1<=g);omega
  exact bK _ aC 
 .by_cases nI:k=0
  .subst nI;rw[cw,eI,bU];exact h
  .
   have hb:(gZ m:Int)-p=k:=by unfold jI at hk;omega
   have BK:m≠0:=by intro h0;rw[h0]at hb;simp[gZ]at hb;omega
   have h1:=rS BK;have h2:2^(gZ m-1-k)<=m/2^k:=by
    rw[cT (bn aE),<-bh];exact bg (bH aE (by have:=nM BK;omega)) h1
   have h3:gm<2^p:=lR.1 hg;refine bg (bK _ (dt h3)) (bg ?_ (bK _ h2));rw[<-hE,<-bh,<-bh,<-bh];exact bH aE aC 
def SZ{m gm p:Nat}{e ge K:Int}(hp:1<=p)(hg:gZ gm<=p)(qS:-16384<=ge)(k1:K<=e)(k2:K<=ge)
 (h:m*2^(e-K).toNat<=gm*2^(ge-K).toNat):kR m e false p true*2^(e+jI m e p-K).toNat<=gm*2^(ge-K).toNat:=by
 have T7:kR m e false p false=m/2^jI m e p:=by unfold kR;simp
 have BT:kR m e false p true=m/2^jI m e p+if m%2^jI m e p≠0 then 1 else 0:=by unfold kR;simp
 have hm:=cB m (2^jI m e p);obtain⟨k,hk⟩:∃ k,k=jI m e p:=⟨_,rfl⟩
 rw[BT];rw[<-hk]at hm ⊢;have e1:(e+(k:Int)-K).toNat=k+(e-K).toNat:= aC ;rw[e1,bh];generalize hE:2^(e-K).toNat=E at *
 have L4:0<E:=by rw[<-hE];exact bn aE 
 by_cases hr:m%2^k=0
 .rw [aY aC,bR,<-bA];refine bg (gF ?_) h;congr 1;rw[bD];omega
 .rw [aZ hr];have nI:k≠0:=by intro h0;rw[h0,cw,dE]at hr;exact hr rfl
  have im:m/2^k*(2^k*E)<gm*2^(ge-K).toNat:=by
   refine bJ ?_ h;rw[<-bA];refine de ?_ L4;rw[bD];omega
  by_cases hc:e+k<=ge
  .have e2:(ge-K).toNat=(ge-(e+k)).toNat+(k+(e-K).toNat):= aC ;have e3:gm*2^(ge-K).toNat=gm*2^(ge-(e+k)).toNat*(2^k*E):=by rw[e2,bh,bh 2 k,hE,bA]
   rw[e3]at im ⊢;generalize gm*2^(ge-(e+k)).toNat=g at *
   have:m/2^k<g:=amO im;exact bK _ this
  .
   exfalso;have hb:(gZ m:Int)-p=k:=by unfold jI at hk;omega
   have BK:m≠0:=by intro h0;rw[h0]at hr;simp at hr
   have h1:=rS BK;have IK:=nM BK;have h3:gm<2^p:=lR.1 hg;have h4:gm*2^(ge-K).toNat<=2^(gZ m-1)*E:=by
    refine bg (bK _ (dt h3)) ?_;rw[<-hE,<-bh,<-bh];exact bH aE aC 
   have h5:2^(gZ m-1-k)<=m/2^k:=by
    rw[cT (bn aE),<-bh];exact bg (bH aE aC) h1
   have h6:2^(gZ m-1)*E<=m/2^k*(2^k*E):=by
    rw[<-bA];refine bK _ ?_;have:=bK (2^k) h5;rw[<-bh]at this;exact bg (bH aE aC) this
   omega
def P2(k:Int):Rat:=(2:Rat)^k
def mW(k:Int):0<P2 k:=Rat.zpow_pos aE 
def pV(a b:Int):P2 (a+b)=P2 a*P2 b:=Rat.zpow_add aE a b
def we(n:Nat):P2 (n:Int)=((2^n:Nat):Rat):=by unfold P2;rw[Rat.zpow_natCast];simp
def KK:P2 0=1:=by have:=we 0;simpa using this
def Ei{e k:Int}(h:k<=e):P2 e=((2^(e-k).toNat:Nat):Rat)*P2 k:=by
 rw[<-we,<-pV];congr 1;omega
def uQ{x y:Rat}(k:Int):x*P2 k<=y*P2 k↔x<=y:=
 ⟨λh=>fi h (mW k),λh=>cj h (bG (mW k))⟩
def uP{m n:Nat}{e f K:Int}(h1:K<=e)(h2:K<=f):(m:Rat)*P2 e<=(n:Rat)*P2 f↔m*2^(e-K).toNat<=n*2^(f-K).toNat:=by
 rw[Ei h1,Ei h2,<-en,<-en,uQ,<-c9,<-c9,du]
def Dy.q(d:Dy):Rat:=((d.num d.e:Int):Rat)*P2 d.e
def xO{d:Dy}{k:Int}(h:qI d k):d.q=((d.num k:Int):Rat)*P2 k:=by
 unfold Dy.q;rcases h with h|h
 .rw [vV h,vV h];simp
 .rw [JH h (ch _),Ei h,<-en,Rat.intCast_mul,dM]
def oO(a b:Dy):iN a b<=0↔a.q<=b.q:=by
 obtain⟨k,ka,kb⟩:∃ k:Int,k<=a.e/\k<=b.e:=⟨min a.e b.e,aC,aC⟩
 rw[sF (.inr ka) (.inr kb),xO (.inr ka),xO (.inr kb),uQ,fS]
def aii(a b:Dy):iN a b<0↔a.q<b.q:=by
 have h:=oO b a;rw[C1 b a]at h;constructor
 .intro h1;apply gJ.1;intro h2;have:=h.2 h2;omega
 .intro h1;apply bM;intro h2;exact gJ.2 h1 (h.1 aC)
def On(a b:Dy):(iI a b).q=a.q+b.q:=by
 obtain⟨k,ka,kb⟩:∃ k:Int,k<=a.e/\k<=b.e:=⟨min a.e b.e,aC,aC⟩
 rw[xO (G5 (.inr ka) (.inr kb)),xO (.inr ka),xO (.inr kb),Kh (.inr ka) (.inr kb),Rat.intCast_add,Rat.add_mul]
def qD(a:Dy):(jl a).q = -a.q:=by
 rw[xO (KQ (.inr (ch a.e))),NX,gK,gL];rfl
def qC(s:Bool)(m:Nat)(e:Int):(canon s m e).q=if s then -((m:Rat)*P2 e)else(m:Rat)*P2 e:=by
 rw[xO (zJ (ch e)),Cp (ch e)];have:(e-e).toNat=0:= aC ;rw[this];cases s<;>simp[gK,gL,dM]
def pQ(a:Dy):a.q=if a.neg then -((a.m:Rat)*P2 a.e)else(a.m:Rat)*P2 a.e:=by
 unfold Dy.q Dy.num Dy.jH;have:(a.e-a.e).toNat=0:= aC ;rw[this];cases a.neg<;>simp[gK,gL,dM]
def DW(a b:Dy):(wV a b).q=a.q*b.q:=by
 unfold wV;rw[qC,pQ a,pQ b,pV,c9];cases a.neg<;>cases b.neg<;>simp<;>grind
def tp:il.q=0:=by rw[pQ];simp[il]
def aih{a b:Dy}(ha:a.mV)(hb:b.mV)(h:a.q=b.q):a=b:=by
 obtain⟨k,ka,kb⟩:∃ k:Int,k<=a.e/\k<=b.e:=⟨min a.e b.e,aC,aC⟩
 refine RR ha hb (.inr ka) (.inr kb) ?_;rw[xO (.inr ka),xO (.inr kb)]at h;have h1:=(uQ (x:=((a.num k:Int):Rat)) (y:=((b.num k:Int):Rat)) k).1 (by rw[h];exact b6);have h2:=(uQ (x:=((b.num k:Int):Rat)) (y:=((a.num k:Int):Rat)) k).1 (by rw[h];exact b6);rw[fS]at h1 h2;omega
def AO(n:Int):(iR n).q=(n:Rat):=by
 unfold iR;rw[xO (k:=0) (KP (ch 0)),NW (ch 0),KK];simp
def y8(d:Dy):0<=(lI d).q/\d.q<=(lI d).q /\ -d.q<=(lI d).q/\((lI d).q=d.q\/(lI d).q = -d.q):=by
 have h:(lI d).q=(d.m:Rat)*P2 d.e:=by rw[pQ];rfl
 have h0:0<=(d.m:Rat)*P2 d.e:=bQ cP (bG (mW _));rw[h,pQ d];cases d.neg<;>simp<;>grind
def rB(d:Dy):(0<d.iJ↔0<d.q)/\(d.iJ<0↔d.q<0):=by
 have h:=mW d.e;have hm:d.m≠0->0<(d.m:Rat)*P2 d.e:=λh0=>dN (fT.2 aC) h
 rw[pQ];unfold Dy.iJ;by_cases h0:d.m=0
 .simp [h0]
 .have:=hm h0;rw[aY h0];cases d.neg<;>simp<;>grind
def Gj(a b:Dy):a.q<=(iW a b).q/\b.q<=(iW a b).q/\((iW a b).q=a.q\/(iW a b).q=b.q):=
 ⟨(oO _ _).1 (DI a b),(oO _ _).1 (VF a b),by unfold iW;split;exact .inr rfl;exact .inl rfl⟩
def Ct(a b:Dy):(ja a b).q<=a.q/\(ja a b).q<=b.q/\((ja a b).q=a.q\/(ja a b).q=b.q):=
 ⟨(oO _ _).1 (FU a b),(oO _ _).1 (VG a b),by unfold ja;split;exact .inr rfl;exact .inl rfl⟩
def GM(p:Nat)(g:Rat):Prop:=∃ (m:Nat) (e:Int),gZ m<=p /\ -16384<=e/\(gZ m:Int)+e<=16384/\g=(m:Rat)*P2 e
def G(p:Nat)(g:Rat):Prop:=GM p g\/GM p (-g)
def GM.F6{p:Nat}{g:Rat}(h:GM p g):0<=g:=by
 obtain⟨m,e,_,_,_,rfl⟩:=h;exact bQ cP (bG (mW _))
def zF(p:Nat):GM p 0:=⟨0,0,by simp[rH],aC,by simp[rH],aH⟩
def G.neg{p:Nat}{g:Rat}(h:G p g):G p (-g):=by
 rcases h with h|h
 .exact .inr (by rw[fj];exact h)
 .exact .inl h
def G.pos{p:Nat}{g:Rat}(h:G p g)(h0:0<=g):GM p g:=by
 rcases h with h|h
 .exact h
 .have:=h.F6;have:g=0:= aK ;rw[this];exact zF p
def QA(k:Nat):gZ (2^k)=k+1:=xZ (bc _) (gy aE aC)
def xm:gZ 1=1:=QA 0
section
variable {m p:Nat} {e:Int}
def YC(hp:1<=p)(gW:p<=4096)(ho:lZ m e false p false=true):
 GM p (((2^p-1:Nat):Rat)*P2 (16384-p))/\((2^p-1:Nat):Rat)*P2 (16384-p)<=(m:Rat)*P2 e/\∀ g,GM p g->g<=((2^p-1:Nat):Rat)*P2 (16384-p):=by
 have wL:2<=2^p:=by
  have:=bH (n:=2) aE hp;omega
 have hb:gZ (2^p-1)=p:=by
  obtain⟨j,rfl⟩:∃ j,p=j+1:=⟨p-1,aC⟩
  have h2:2^(j+1)=2^j*2:=bC _ _;have h3:=bn (n:=j) (aE:0<2);exact xZ aC aC 
 refine⟨⟨_,_,gF hb,aC,aC,rfl⟩,?_,?_⟩
 .obtain ⟨c1,c2⟩:=H8 m e p;unfold lZ at ho;simp only[bE,b9]at ho;obtain⟨o1,o2⟩:=ho;have hq:=rS o1;have IK:=nM o1;obtain⟨K,k1,k2⟩:∃ K:Int,K<=e/\K<=16384-p:=⟨min e (16384-p),aC,aC⟩
  rw[uP k2 k1];have h1:2^(gZ (kR m e false p false)-1)*2^jI m e p<=m:=bg (bK _ hq) c1;have h2:=bK (2^(e-K).toNat) h1;rw[<-bh,<-bh]at h2;refine bg (bK _ (eD _ _)) (bg ?_ h2);rw[<-bh];exact bH aE aC 
 .rintro g ⟨gm,ge,b1,b2,b3,rfl⟩;by_cases hc:ge<=16384-p
  .have:gm<2^p:=lR.1 b1;rw[uP (K:=ge) (ch _) hc];have e0:(ge-ge).toNat=0:= aC ;rw[e0,cw,bZ];exact bg (aC:gm<=2^p-1) (fZ _ (bn aE))
  .rw [uP (K:=16384-p) aC (ch _)];have e0:((16384:Int)-p-(16384-p)).toNat=0:= aC ;rw[e0,cw,bZ];have h1:gm<2^(16384-ge).toNat:=by
    by_cases h0:gm=0
    .rw [h0];exact bn aE 
    .exact lR.1 aC 
   have h2:=de h1 (bn (n:=(ge-(16384-p)).toNat) (aE:0<2));by_cases hg:ge<=16384
   .rw [<-bh,show(16384-ge).toNat+(ge-(16384-(p:Int))).toNat=p by omega]at h2;omega
   .have:gm=0:=by
     rw[show(16384-ge).toNat=0 by omega]at h1;simpa using h1
    rw[this,cC];omega
def YB(hp:1<=p)(ho:¬lZ m e false p false=true):
 GM p (((kR m e false p false:Nat):Rat)*P2 (e+jI m e p))/\((kR m e false p false:Nat):Rat)*P2 (e+jI m e p)<=(m:Rat)*P2 e /\
 ∀ g,GM p g->g<=(m:Rat)*P2 e->g<=((kR m e false p false:Nat):Rat)*P2 (e+jI m e p):=by
 obtain⟨c1,c2⟩:=H8 m e p;have hk:-16384<=e+(jI m e p:Int):=by unfold jI;omega
 refine⟨?_,?_,?_⟩
 .by_cases h0:kR m e false p false=0
  .rw [h0];simpa using zF p
  .have hq:kR m e false p false<2^p:=by
    have:=RB m e p;unfold kR;simpa using this
   unfold lZ at ho;simp only[cS,h0,ef,fg,e9,b9]at ho;exact⟨_,_,lR.2 hq,hk,aC,rfl⟩
 .rw [uP (K:=e) aC (ch _)];rw[show(e-e).toNat=0 by omega,show(e+(jI m e p:Int)-e).toNat=jI m e p by omega,cw,bZ];exact c1
 .rintro g ⟨gm,ge,b1,b2,b3,rfl⟩ h;obtain⟨K,k1,k2⟩:∃ K:Int,K<=e/\K<=ge:=⟨min e ge,aC,aC⟩
  rw[uP k2 k1]at h;rw[uP (K:=K) k2 aC];exact aeB hp b1 b2 k1 k2 h
def QT(hp:1<=p)(ho:lZ m e false p true=true)(g:Rat)(hg:GM p g):¬(m:Rat)*P2 e<=g:=by
 obtain⟨gm,ge,b1,b2,b3,rfl⟩:=hg;intro h;obtain⟨K,k1,k2⟩:∃ K:Int,K<=e/\K<=ge:=⟨min e ge,aC,aC⟩
 rw[uP k1 k2]at h;have h:=SZ hp b1 b2 k1 k2 h;unfold lZ at ho;simp only[bE,b9]at ho;obtain⟨o1,o2⟩:=ho;have hq:=rS o1;have IK:=nM o1;have h3:gm<2^gZ gm:=qw gm;have h4:=de h3 (bn (n:=(ge-K).toNat) (aE:0<2));have h5:=bK (2^(e+(jI m e p:Int)-K).toNat) hq;rw[<-bh]at h4 h5;have h6:2^(gZ gm+(ge-K).toNat)<=2^(gZ (kR m e false p true)-1+(e+(jI m e p:Int)-K).toNat):=bH aE aC;omega
def QS(hp:1<=p)(ho:¬lZ m e false p true=true):
 GM p (((kR m e false p true:Nat):Rat)*P2 (e+jI m e p))/\(m:Rat)*P2 e<=((kR m e false p true:Nat):Rat)*P2 (e+jI m e p) /\
 ∀ g,GM p g->(m:Rat)*P2 e<=g->((kR m e false p true:Nat):Rat)*P2 (e+jI m e p)<=g:=by
 obtain⟨c1,c2⟩:=H8 m e p;have hk:-16384<=e+(jI m e p:Int):=by unfold jI;omega
 refine⟨?_,?_,?_⟩
 .by_cases h0:kR m e false p true=0
  .rw [h0];simpa using zF p
  .unfold lZ at ho;simp only[cS,h0,ef,fg,e9,b9]at ho;rcases Nat.lt_or_eq_of_le (Rp m e false p true)with hq|hq
   .exact ⟨_,_,lR.2 hq,hk,aC,rfl⟩
   .rw [hq]at ho ⊢;rw[QA]at ho;refine⟨1,p+(e+jI m e p),by rw[xm];exact hp,aC,by rw[xm];omega,?_⟩;rw[pV (p:Int),we p,show((1:Nat):Rat)=1 from rfl,fk]
 .rw [uP (K:=e) (ch _) aC];rw[show(e-e).toNat=0 by omega,show(e+(jI m e p:Int)-e).toNat=jI m e p by omega,cw,bZ];exact c2
 .rintro g ⟨gm,ge,b1,b2,b3,rfl⟩ h;obtain⟨K,k1,k2⟩:∃ K:Int,K<=e/\K<=ge:=⟨min e ge,aC,aC⟩
  rw[uP k1 k2]at h;rw[uP (K:=K) aC k2];exact SZ hp b1 b2 k1 k2 h
end
def Dn(p:Nat)(v:Rat)(D:Dy)(E:Int):Prop:=(E=0->G p D.q/\D.q<=v)/\∀ g,G p g->g<=v->E=0/\g<=D.q
def Up(p:Nat)(v:Rat)(D:Dy)(E:Int):Prop:=(E=0->G p D.q/\v<=D.q)/\∀ g,G p g->v<=g->E=0/\D.q<=g
def Dn.of{p:Nat}{v w:Rat}{D:Dy}{E:Int}(h:Dn p v D E)(k:∀ g,G p g->(g<=v↔g<=w)):Dn p w D E:=
 ⟨λe=>⟨(h.1 e).1,(k _ (h.1 e).1).1 (h.1 e).2⟩,λg hg hw=>h.2 g hg ((k g hg).2 hw)⟩
def Up.of{p:Nat}{v w:Rat}{D:Dy}{E:Int}(h:Up p v D E)(k:∀ g,G p g->(v<=g↔w<=g)):Up p w D E:=
 ⟨λe=>⟨(h.1 e).1,(k _ (h.1 e).1).1 (h.1 e).2⟩,λg hg hw=>h.2 g hg ((k g hg).2 hw)⟩
def EH(neg:Bool)(m:Nat)(e:Int){p:Nat}(hp:1<=p)(gW:p<=4096):Dn p (canon neg m e).q (jU neg m e false p false) (jJ neg m e false p false):=by
 have hv:0<=(m:Rat)*P2 e:=bQ cP (bG (mW _));rw[qC];cases neg
 .
  have hE:jJ false m e false p false=0:=by unfold jJ;simp
  rw[hE];unfold jU;simp only[bne_self_eq_false,bB,bj];by_cases ho:lZ m e false p false=true
  .obtain ⟨t1,t2,t3⟩:=YC hp gW ho;rw[aZ ho];(first|unfold Dn|unfold Up);rw[qC];simp only[bB,bj];refine⟨λ_=>⟨.inl t1,t2⟩,λg hg hle=>⟨trivial,?_⟩⟩;by_cases h0:0<=g
   .exact t3 g (hg.pos h0)
   .have:=t1.F6;grind
  .obtain ⟨t1,t2,t3⟩:=YB hp ho;rw[aY ho];(first|unfold Dn|unfold Up);rw[qC];simp only[bB,bj];refine⟨λ_=>⟨.inl t1,t2⟩,λg hg hle=>⟨trivial,?_⟩⟩;by_cases h0:0<=g
   .exact t3 g (hg.pos h0) hle
   .have:=t1.F6;grind
 .unfold jU jJ;simp only[Bool.bne_false,Bool.and_true,bw];by_cases ho:lZ m e false p true=true
  .rw [aZ ho,aZ ho];refine⟨λh=>by simp at h,λg hg hle=>?_⟩;exact absurd (show(m:Rat)*P2 e <= -g by grind) (QT hp ho _ (hg.neg.pos aK))
  .obtain ⟨t1,t2,t3⟩:=QS hp ho;rw[aY ho,aY ho];(first|unfold Dn|unfold Up);rw[qC];simp only[bw];refine⟨λ_=>⟨.inr (by rw[fj];exact t1),aK⟩,λg hg hle=>⟨trivial,?_⟩⟩;have:=t3 (-g) (hg.neg.pos aK) aK 
   grind
def EI(neg:Bool)(m:Nat)(e:Int){p:Nat}(hp:1<=p)(gW:p<=4096):Up p (canon neg m e).q (jU neg m e false p true) (jJ neg m e false p true):=by
 have hv:0<=(m:Rat)*P2 e:=bQ cP (bG (mW _));rw[qC];cases neg
 .unfold jU jJ;simp only[Bool.bne_true,dW,Bool.and_true,bw,bB,bj];by_cases ho:lZ m e false p true=true
  .rw [aZ ho,aZ ho];refine⟨λh=>by simp at h,λg hg hle=>?_⟩;exact absurd hle (QT hp ho _ (hg.pos aK))
  .obtain ⟨t1,t2,t3⟩:=QS hp ho;rw[aY ho,aY ho];(first|unfold Dn|unfold Up);rw[qC];simp only[bB,bj];exact⟨λ_=>⟨.inl t1,t2⟩,λg hg hle=>⟨trivial,t3 g (hg.pos aK) hle⟩⟩
 .have hE:jJ true m e false p true=0:=by unfold jJ;simp
  rw[hE];unfold jU;simp only[bne_self_eq_false,bB,bj,bw];by_cases ho:lZ m e false p false=true
  .obtain ⟨t1,t2,t3⟩:=YC hp gW ho;rw[aZ ho];(first|unfold Dn|unfold Up);rw[qC];simp only[bw];refine⟨λ_=>⟨.inr (by rw[fj];exact t1),aK⟩,λg hg hle=>⟨trivial,?_⟩⟩;by_cases h0:0 <= -g
   .have:=t3 (-g) (hg.neg.pos h0);grind
   .have:=t1.F6;grind
  .obtain ⟨t1,t2,t3⟩:=YB hp ho;rw[aY ho];(first|unfold Dn|unfold Up);rw[qC];simp only[bw];refine⟨λ_=>⟨.inr (by rw[fj];exact t1),aK⟩,λg hg hle=>⟨trivial,?_⟩⟩;by_cases h0:0 <= -g
   .have:=t3 (-g) (hg.neg.pos h0) aK;grind
   .have:=t1.F6;grind
def wY{d:Dy}(hd:d.mV){p:Nat}(hp:1<=p)(gW:p<=4096):Dn p d.q (jV d p false) (jL d p false):=by
 have:=EH d.neg d.m d.e hp gW;rwa[hd.CZ]at this
def wZ{d:Dy}(hd:d.mV){p:Nat}(hp:1<=p)(gW:p<=4096):Up p d.q (jV d p true) (jL d p true):=by
 have:=EI d.neg d.m d.e hp gW;rwa[hd.CZ]at this
def LP{N p:Nat}{e:Int}(hb:p<gZ N){g:Rat}(hg:GM p g):g<=(N:Rat)*P2 e\/((N+1:Nat):Rat)*P2 e<=g:=by
 obtain⟨gm,ge,b1,b2,b3,rfl⟩:=hg;by_cases hc:e<=ge
 .rw [uP (K:=e) hc (ch _),uP (K:=e) (ch _) hc,show(e-e).toNat=0 by omega];omega
 .left;rw[uP (K:=ge) (ch _) aC,show(ge-ge).toNat=0 by omega,cw,bZ];have h1:gm<2^p:=lR.1 b1;have h2:2^p<=N:=vQ.1 hb;exact bg (dt (bJ h1 h2)) (fZ _ (bn aE))
def Qy{N p:Nat}{e:Int}(hb:p<gZ N){x y:Rat}(x1:(N:Rat)*P2 e<x)(x2:x<((N+1:Nat):Rat)*P2 e)(y1:(N:Rat)*P2 e<y)(y2:y<((N+1:Nat):Rat)*P2 e){g:Rat}(hg:G p g):
 (g<=x↔g<=y)/\(x<=g↔y<=g)/\(g <= -x↔g <= -y)/\(-x<=g ↔ -y<=g):=by
 have hv:0<=(N:Rat)*P2 e:=bQ cP (bG (mW _));have hG:∀ g,G p g->g<=(N:Rat)*P2 e\/((N+1:Nat):Rat)*P2 e<=g:=by
  intro g hg;by_cases h0:0<=g
  .exact LP hb (hg.pos h0)
  .left;grind
 have h1:=hG g hg;have h2:=hG (-g) hg.neg;generalize (N:Rat)*P2 e=A at *
 generalize ((N+1:Nat):Rat)*P2 e=B at *
 refine⟨?_,?_,?_,?_⟩<;>constructor<;>intro h<;>grind
def C3{N p:Nat}(E:Int)(hb:p<gZ N)(neg up:Bool):jU neg N E true p up=jU neg (2*N+1) (E-1) false p up/\jJ neg N E true p up=jJ neg (2*N+1) (E-1) false p up:=by
 have h1:(2*N+1)/2^1=N:= aC ;have h:=HW (N:=2*N+1) (E:=E-1) (more:=false) (d:=1) (p:=p) neg up (by rw[h1];exact hb);have h2:decide ((2*N+1)%2^1≠0)=true:= aH ;rw[h1,h2,(aC:E-1+((1:Nat):Int)=E)]at h;exact h
def RA{a b:Dy}(b0:b.m≠0){p:Nat}(hp:1<=p)(gW:p<=4096):Dn p (a.q/b.q) (oW a b p false) (qn a b p false)/\Up p (a.q/b.q) (oW a b p true) (qn a b p true):=by
 by_cases a0:a.m=0
 .have hq:a.q=0:=by rw[pQ,a0];simp
  have h0:(0:Rat)/b.q=0:=by rw[cL,Rat.zero_mul]
  unfold oW qn;rw[hq,h0,aZ a0,aZ a0,aZ a0,aZ a0];have hz:G p 0:=.inl (zF p);exact⟨⟨λ_=>⟨by rw[tp];exact hz,by rw[tp];exact b6⟩,λg _ h=>⟨rfl,by rw[tp];exact h⟩⟩,⟨λ_=>⟨by rw[tp];exact hz,by rw[tp];exact b6⟩,λg _ h=>⟨rfl,by rw[tp];exact h⟩⟩⟩
 .have hb:=Ln a0 b0 p 2 aE ;unfold oW qn;rw[aY a0,aY a0,aY a0,aY a0];generalize hk:kT a b p 2=k at *
  generalize hs:(a.neg != b.neg)=s;generalize hE:a.e-b.e-(k:Int)=E0;have hB:(0:Rat)<(b.m:Rat):=fT.2 aC;have Tc:=mW b.e;have hP:=mW E0;obtain⟨w,hw⟩:∃ w:Rat,w=(a.m:Rat)*P2 a.e/((b.m:Rat)*P2 b.e):=⟨_,rfl⟩
  have Um:w*((b.m:Rat)*P2 b.e)=(a.m:Rat)*P2 a.e:=by
   have:(b.m:Rat)*P2 b.e≠0:=by have:=dN hB Tc;grind
   rw[hw];exact dA this
  have kF:a.q/b.q=if s then -w else w:=by
   have uC:b.q≠0:=by
    have:=dN hB Tc;rw[pQ b];cases b.neg<;>simp<;>grind
   have hq:(if s then -w else w)*b.q=a.q:=by
    rw[pQ a,pQ b,<-hs,<-Um];cases a.neg<;>cases b.neg<;>simp<;>grind
   rw[<-hq,amD uC]
  have Mo:=cB (a.m*2^k) b.m;have hr:=bF (a.m*2^k) (aC:0<b.m);generalize hN:a.m*2^k/b.m=N at *
  generalize hR:a.m*2^k%b.m=R at *
  have ae3:(b.m:Rat)*(N:Rat)+(R:Rat)=(a.m:Rat)*((2^k:Nat):Rat):=by rw[<-c9,<-c9,<-dO,Mo]
  have hae:P2 a.e=((2^k:Nat):Rat)*P2 b.e*P2 E0:=by rw[<-we,<-pV,<-pV];congr 1;omega
  have Jd:w*(b.m:Rat)=((b.m:Rat)*(N:Rat)+(R:Rat))*P2 E0:=by
   have:w*(b.m:Rat)*P2 b.e=((b.m:Rat)*(N:Rat)+(R:Rat))*P2 E0*P2 b.e:=by
    rw[ae3,en,Um,hae];grind
   have jf:P2 b.e≠0:= aK ;have h2:=congrArg (· / P2 b.e) this;simp only[amD jf]at h2;exact h2
  by_cases h0:R=0
  .have MW:w=(N:Rat)*P2 E0:=by
    rw[h0]at Jd;have jf:(b.m:Rat)≠0:= aK ;have h2:w*(b.m:Rat)=((N:Rat)*P2 E0)*(b.m:Rat):=by rw[Jd];simp;grind
    have h3:=congrArg (· / (b.m:Rat)) h2;simp only[amD jf]at h3;exact h3
   have hc:a.q/b.q=(canon s N E0).q:=by rw[kF,qC,MW]
   rw[hc,a7 (by simpa using h0)];exact⟨EH _ _ _ hp gW,EI _ _ _ hp gW⟩
  .have xB:(0:Rat)<(R:Rat):=fT.2 aC ;have hRb:(R:Rat)<(b.m:Rat):=Rat.natCast_lt_natCast.2 hr;have w1:(N:Rat)*P2 E0<w:=by
    apply amP (c:=(b.m:Rat)) _ (bG hB);rw[Jd];have:=dN xB hP
    grind
   have w2:w<((N+1:Nat):Rat)*P2 E0:=by
    apply amP (c:=(b.m:Rat)) _ (bG hB);rw[Jd,dO];have:=dN (show(0:Rat)<(b.m:Rat)-(R:Rat)by grind) hP;simp
    grind
   have hh:P2 E0=2*P2 (E0-1):=by
    rw[Ei (aC:E0-1<=E0),show(E0-(E0-1)).toNat=1 by omega];simp
   have v1:(N:Rat)*P2 E0<((2*N+1:Nat):Rat)*P2 (E0-1):=by
    have:=mW (E0-1);rw[hh,dO,c9];simp;grind
   have v2:((2*N+1:Nat):Rat)*P2 (E0-1)<((N+1:Nat):Rat)*P2 E0:=by
    have:=mW (E0-1);rw[hh,dO,c9,dO];simp;grind
   rw[a6 (by simpa using h0),(C3 E0 hb s false).1,(C3 E0 hb s false).2,(C3 E0 hb s true).1,(C3 E0 hb s true).2,kF];have A:=EH s (2*N+1) (E0-1) hp gW;have B:=EI s (2*N+1) (E0-1) hp gW;rw[qC]at A B;refine⟨A.of λg hg=>?_,B.of λg hg=>?_⟩
   .obtain ⟨k1,k2,k3,k4⟩:=Qy hb v1 v2 w1 w2 hg;cases s
    .exact k1
    .exact k3
   .obtain ⟨k1,k2,k3,k4⟩:=Qy hb v1 v2 w1 w2 hg;cases s
    .exact k2
    .exact k4
def Iv.jO(x:Iv)(r:Rat):Prop:=x.all=true\/(x.lo.q<=r/\r<=x.hi.q)
def Sub(x y:Iv):Prop:=y.all=true\/(x.all=false/\y.lo.q<=x.lo.q/\x.hi.q<=y.hi.q)
def Sub.jO{x y:Iv}(h:Sub x y){r:Rat}(k:x.jO r):y.jO r:=by
 rcases h with h|⟨h1,h2,h3⟩
 .exact .inl h
 .rcases k with k|⟨k1,k2⟩
  .rw [h1]at k;cases k
  .exact .inr ⟨aK,aK⟩
def Sub.wR{x y:Iv}(h:Sub x y)(k:y.all=false):x.all=false/\y.lo.q<=x.lo.q/\x.hi.q<=y.hi.q:=by
 rcases h with h|h
 .rw [h]at k;cases k
 .exact h
def Iv.gX.q{x:Iv}(h:x.gX):x.lo.q<=x.hi.q:=by
 rcases h with⟨_,h2,h3⟩|⟨_,_,_,h⟩
 .rw [h2,h3];exact b6
 .exact (oO _ _).1 h
def Iv.gX.yg{x:Iv}(h:x.gX):x.lo.mV/\x.hi.mV:=by
 rcases h with⟨_,h2,h3⟩|⟨_,h2,h3,_⟩
 .rw [h2,h3];exact⟨rf.canon,rf.canon⟩
 .exact ⟨h2.canon,h3.canon⟩
def Iv.gX.Af{x:Iv}(h:x.gX):x.jO x.lo.q:=.inr ⟨b6,h.q⟩
def Iv.gX.Db{x:Iv}(h:x.gX):x.jO x.hi.q:=.inr ⟨h.q,b6⟩
structure Ef(p:Nat)(S:Rat->Prop)(X:Iv):Prop where
 jO:∀ r,S r->X.jO r
 on:X.all=false->G p X.lo.q/\G p X.hi.q
 xH:∀ L U,G p L->G p U->(∀ r,S r->L<=r/\r<=U)->X.all=false/\L<=X.lo.q/\X.hi.q<=U
def KS{x y:Iv}(hx:x.gX)(hy:y.gX)(xa:x.all=false)(ya:y.all=false){p:Nat}(hp:1<=p)(gW:p<=4096):
 Ef p (λr=>∃ a b,x.jO a/\y.jO b/\r=a+b) (jC x y p):=by
 have A:=wY (Bm hx.yg.1 hy.yg.1) hp gW;have B:=wZ (Bm hx.yg.2 hy.yg.2) hp gW;rw[On]at A B;unfold jC lr;rw[xa,ya];simp only[gG,bB,bj];have jO:∀ r,(∃ a b,x.jO a/\y.jO b/\r=a+b)->x.lo.q+y.lo.q<=r/\r<=x.hi.q+y.hi.q:=by
  rintro r ⟨a,b,ha,hb,rfl⟩;rcases ha with ha|ha
  .rw [xa]at ha;cases ha
  .rcases hb with hb|hb
   .rw [ya]at hb;cases hb
   .grind
 have xH:∀ L U,G p L->G p U->(∀ r,(∃ a b,x.jO a/\y.jO b/\r=a+b)->L<=r/\r<=U) ->
  (jL (iI x.lo y.lo) p false=0/\L<=(jV (iI x.lo y.lo) p false).q)/\jL (iI x.hi y.hi) p true=0/\(jV (iI x.hi y.hi) p true).q<=U:=λL U hL hU h=>
  ⟨A.2 L hL (h _ ⟨_,_,hx.Af,hy.Af,rfl⟩).1,B.2 U hU (h _ ⟨_,_,hx.Db,hy.Db,rfl⟩).2⟩
 split
 .rename_i he;refine⟨λ_ _=>.inl rfl,λh=>absurd h aE,λL U hL hU h=>?_⟩;obtain⟨⟨e1,_⟩,e2,_⟩:=xH L U hL hU h;rcases he with he|he
  .exact absurd e1 he
  .exact absurd e2 he
 .rename_i he;obtain⟨a1,a2⟩:=A.1 aC;obtain⟨b1,b2⟩:=B.1 aC;refine⟨λr hr=>.inr ?_,λ_=>⟨a1,b1⟩,λL U hL hU h=>?_⟩
  .obtain ⟨h1,h2⟩:=jO r hr;exact⟨bI a2 h1,bI h2 b2⟩
  .obtain ⟨⟨_,e1⟩,_,e2⟩:=xH L U hL hU h;exact⟨rfl,e1,e2⟩
def G9{x y:Iv}(p:Nat)(h:x.all=true\/y.all=true):jC x y p=gT:=by
 unfold jC;rw[aZ (by rcases h with h|h<;>rw[h]<;>simp)]
def Bd{x y:Iv}(hx:x.gX)(hy:y.gX){p:Nat}(hp:1<=p)(gW:p<=4096){a b:Rat}(ha:x.jO a)(hb:y.jO b):(jC x y p).jO (a+b):=by
 cases xa:x.all
 .cases ya:y.all
  .exact (KS hx hy xa ya hp gW).jO _ ⟨a,b,ha,hb,rfl⟩
  .rw [G9 p (.inr ya)];exact .inl rfl
 .rw [G9 p (.inl xa)];exact .inl rfl
def SL{p:Nat}{D:Dy->Dy->Bool->Dy}{E:Dy->Dy->Bool->Int}{f:Rat->Rat->Rat}{x y:Iv}{S:Rat->Prop}
 (hD:∀ a b,(a=x.lo\/a=x.hi)->(b=y.lo\/b=y.hi)->Dn p (f a.q b.q) (D a b false) (E a b false)/\Up p (f a.q b.q) (D a b true) (E a b true)/\S (f a.q b.q))
 (hS:∀ r,S r->(f x.lo.q y.lo.q<=r\/f x.lo.q y.hi.q<=r\/f x.hi.q y.lo.q<=r\/f x.hi.q y.hi.q<=r)/\(r<=f x.lo.q y.lo.q\/r<=f x.lo.q y.hi.q\/r<=f x.hi.q y.lo.q\/r<=f x.hi.q y.hi.q)):
 Ef p S (oQ D E x y):=by
 obtain⟨a1,a2,a3⟩:=hD x.lo y.lo (.inl rfl) (.inl rfl);obtain⟨b1,b2,b3⟩:=hD x.lo y.hi (.inl rfl) (.inr rfl);obtain⟨c1,c2,c3⟩:=hD x.hi y.lo (.inr rfl) (.inl rfl);obtain⟨d1,d2,d3⟩:=hD x.hi y.hi (.inr rfl) (.inr rfl);have xH:∀ L U,G p L->G p U->(∀ r,S r->L<=r/\r<=U) ->
  ((E x.lo y.lo false=0/\L<=(D x.lo y.lo false).q)/\E x.lo y.lo true=0/\(D x.lo y.lo true).q<=U)/\((E x.lo y.hi false=0/\L<=(D x.lo y.hi false).q)/\E x.lo y.hi true=0/\(D x.lo y.hi true).q<=U) /\
  ((E x.hi y.lo false=0/\L<=(D x.hi y.lo false).q)/\E x.hi y.lo true=0/\(D x.hi y.lo true).q<=U)/\((E x.hi y.hi false=0/\L<=(D x.hi y.hi false).q)/\E x.hi y.hi true=0/\(D x.hi y.hi true).q<=U):=λL U hL hU h=>
  ⟨⟨a1.2 L hL (h _ a3).1,a2.2 U hU (h _ a3).2⟩,⟨b1.2 L hL (h _ b3).1,b2.2 U hU (h _ b3).2⟩,⟨c1.2 L hL (h _ c3).1,c2.2 U hU (h _ c3).2⟩,⟨d1.2 L hL (h _ d3).1,d2.2 U hU (h _ d3).2⟩⟩
 unfold oQ;split
 .rename_i he;obtain⟨⟨e1,e2⟩,⟨e3,e4⟩,⟨e5,e6⟩,⟨e7,e8⟩⟩:=he;obtain⟨ga,la⟩:=a1.1 e1;obtain⟨gA,lA⟩:=a2.1 e2;obtain⟨gb,lb⟩:=b1.1 e3;obtain⟨gB,lB⟩:=b2.1 e4;obtain⟨gc,lc⟩:=c1.1 e5;obtain⟨gC,lC⟩:=c2.1 e6;obtain⟨gd,ld⟩:=d1.1 e7;obtain⟨gD,lD⟩:=d2.1 e8;obtain⟨m1,m2,m3⟩:=Ct (D x.lo y.lo false) (D x.lo y.hi false);obtain⟨m4,m5,m6⟩:=Ct (ja (D x.lo y.lo false) (D x.lo y.hi false)) (D x.hi y.lo false);obtain⟨m7,m8,m9⟩:=Ct (ja (ja (D x.lo y.lo false) (D x.lo y.hi false)) (D x.hi y.lo false)) (D x.hi y.hi false);obtain⟨n1,n2,n3⟩:=Gj (D x.lo y.lo true) (D x.lo y.hi true);obtain⟨n4,n5,n6⟩:=Gj (iW (D x.lo y.lo true) (D x.lo y.hi true)) (D x.hi y.lo true);obtain⟨n7,n8,n9⟩:=Gj (iW (iW (D x.lo y.lo true) (D x.lo y.hi true)) (D x.hi y.lo true)) (D x.hi y.hi true);generalize (ja (D x.lo y.lo false) (D x.lo y.hi false))=u1 at *
  generalize (ja u1 (D x.hi y.lo false))=u2 at *
  generalize (ja u2 (D x.hi y.hi false))=u3 at *
  generalize (iW (D x.lo y.lo true) (D x.lo y.hi true))=v1 at *
  generalize (iW v1 (D x.hi y.lo true))=v2 at *
  generalize (iW v2 (D x.hi y.hi true))=v3 at *
  refine⟨λr hr=>.inr ?_,λ_=>⟨?_,?_⟩,λL U hL hU h=>⟨rfl,?_,?_⟩⟩
  .obtain ⟨h1,h2⟩:=hS r hr;constructor
   .show u3.q<=r;rcases h1 with h1|h1|h1|h1<;>grind
   .show r<=v3.q;rcases h2 with h1|h1|h1|h1<;>grind
  .show G p u3.q;rcases m9 with h|h
   .rw [h];rcases m6 with h|h
    .rw [h];rcases m3 with h|h<;>rw[h]<;>assumption
    .rw [h];assumption
   .rw [h];assumption
  .show G p v3.q;rcases n9 with h|h
   .rw [h];rcases n6 with h|h
    .rw [h];rcases n3 with h|h<;>rw[h]<;>assumption
    .rw [h];assumption
   .rw [h];assumption
  .obtain ⟨⟨⟨_,k1⟩,_,k2⟩,⟨⟨_,k3⟩,_,k4⟩,⟨⟨_,k5⟩,_,k6⟩,⟨⟨_,k7⟩,_,k8⟩⟩:=xH L U hL hU h;show L<=u3.q;rcases m9 with h|h
   .rw [h];rcases m6 with h|h
    .rw [h];rcases m3 with h|h<;>rw[h]<;>assumption
    .rw [h];assumption
   .rw [h];assumption
  .obtain ⟨⟨⟨_,k1⟩,_,k2⟩,⟨⟨_,k3⟩,_,k4⟩,⟨⟨_,k5⟩,_,k6⟩,⟨⟨_,k7⟩,_,k8⟩⟩:=xH L U hL hU h;show v3.q<=U;rcases n9 with h|h
   .rw [h];rcases n6 with h|h
    .rw [h];rcases n3 with h|h<;>rw[h]<;>assumption
    .rw [h];assumption
   .rw [h];assumption
 .rename_i he;refine⟨λ_ _=>.inl rfl,λh=>absurd h aE,λL U hL hU h=>?_⟩;obtain⟨⟨⟨k1,_⟩,k2,_⟩,⟨⟨k3,_⟩,k4,_⟩,⟨⟨k5,_⟩,k6,_⟩,⟨⟨k7,_⟩,k8,_⟩⟩:=xH L U hL hU h;exact absurd ⟨⟨k1,k2⟩,⟨k3,k4⟩,⟨k5,k6⟩,k7,k8⟩ he
def Rk{a b c d x y:Rat}(h1:a<=x)(h2:x<=b)(h3:c<=y)(h4:y<=d):
 (a*c<=x*y\/a*d<=x*y\/b*c<=x*y\/b*d<=x*y)/\(x*y<=a*c\/x*y<=a*d\/x*y<=b*c\/x*y<=b*d):=by
 have mono:∀ {u v w:Rat},u<=v->0<=w->u*w<=v*w:=λh k=>cj h k
 have anti:∀ {u v w:Rat},u<=v->w<=0->v*w<=u*w:=by
  intro u v w h k;have:=mono h (show 0 <= -w by grind)
  grind
 have side:∀ t:Rat,(t*c<=t*y\/t*d<=t*y)/\(t*y<=t*c\/t*y<=t*d):=by
  intro t;rw[fm t c,fm t d,fm t y];rcases Rat.le_total (a:=0) (b:=t)with h|h
  .exact ⟨.inl (mono h3 h),.inr (mono h4 h)⟩
  .exact ⟨.inr (anti h4 h),.inl (anti h3 h)⟩
 have sa:=side a;have sb:=side b;rcases Rat.le_total (a:=0) (b:=y)with h|h
 .have m1:=mono h1 h;have m2:=mono h2 h;clear mono anti side;constructor
  .rcases sa.1 with k|k<;>grind
  .rcases sb.2 with k|k<;>grind
 .have m1:=anti h1 h;have m2:=anti h2 h;clear mono anti side;constructor
  .rcases sb.1 with k|k<;>grind
  .rcases sa.2 with k|k<;>grind
def Iv.jO.jW{x:Iv}{r:Rat}(h:x.jO r)(k:x.all=false):x.lo.q<=r/\r<=x.hi.q:=by
 rcases h with h|h
 .rw [k]at h;cases h
 .exact h
def zS(a b:Dy):(wV a b).mV:=ri _ _ _
def NB{x y:Iv}(hx:x.gX)(hy:y.gX)(xa:x.all=false)(ya:y.all=false){p:Nat}(hp:1<=p)(gW:p<=4096):
 Ef p (λr=>∃ a b,x.jO a/\y.jO b/\r=a*b) (iy x y p):=by
 unfold iy;rw[xa,ya];simp only[gG,bB,bj];refine SL (f:=λa b=>a*b) (λa b ha hb=>⟨?_,?_,a.q,b.q,?_,?_,rfl⟩) (λr ⟨a,b,ha,hb,e⟩=>?_)
 .have:=wY (zS a b) hp gW;rwa[DW]at this
 .have:=wZ (zS a b) hp gW;rwa[DW]at this
 .rcases ha with rfl|rfl;exact hx.Af;exact hx.Db
 .rcases hb with rfl|rfl;exact hy.Af;exact hy.Db
 .obtain ⟨h1,h2⟩:=ha.jW xa;obtain⟨h3,h4⟩:=hb.jW ya;rw[e];exact Rk h1 h2 h3 h4
def Jx{x y:Iv}(p:Nat)(h:x.all=true\/y.all=true):iy x y p=gT:=by
 unfold iy;rw[aZ (by rcases h with h|h<;>rw[h]<;>simp)]
def NC{x y:Iv}(hx:x.gX)(hy:y.gX){p:Nat}(hp:1<=p)(gW:p<=4096){a b:Rat}(ha:x.jO a)(hb:y.jO b):(iy x y p).jO (a*b):=by
 cases xa:x.all
 .cases ya:y.all
  .exact (NB hx hy xa ya hp gW).jO _ ⟨a,b,ha,hb,rfl⟩
  .rw [Jx p (.inr ya)];exact .inl rfl
 .rw [Jx p (.inl xa)];exact .inl rfl
def Nc{b c:Rat}(h0:0<c)(h:c<=b):b⁻¹<=c⁻¹:=by
 have hb:0<b:= aK ;apply fi (c:=b*c) _ (dN hb h0);have e1:b⁻¹*(b*c)=c:=by rw[<-en,gM _ aK,fk]
 have e2:c⁻¹*(b*c)=b:=by rw[fm b c,<-en,gM _ aK,fk]
 rw[e1,e2];exact h
def Wh(b:Rat):(-b)⁻¹ = -b⁻¹:=by
 by_cases h:b=0
 .rw [h];simp
 .have h1:(-b)⁻¹*(-b)=1:=gM _ aK ;have h2:b⁻¹*b=1:=gM _ h;have h3:(-b)⁻¹*(-b)*b⁻¹=b⁻¹:=by rw[h1,fk]
  grind
def UJ{b c:Rat}(h0:b<0)(h:c<=b):b⁻¹<=c⁻¹:=by
 have:=Nc (b:=-c) (c:=-b) aK aK;rw[Wh,Wh]at this
 grind
def X3{y:Iv}(_hy:y.gX)(h:nh y≠0):y.all=false/\(0<y.lo.q\/y.hi.q<0):=by
 unfold nh at h;cases ya:y.all
 .rw [ya]at h;simp only[bB,bj]at h;refine⟨rfl,?_⟩;split at h
  .rename_i h1;exact .inl ((rB _).1.1 h1)
  .split at h
   .rename_i h1;exact .inr ((rB _).2.1 h1)
   .exact absurd rfl h
 .rw [ya]at h;simp at h
def O4{y:Iv}(ya:y.all=false)(h:0<y.lo.q\/y.hi.q<0):nh y≠0:=by
 unfold nh;rw[ya];simp only[bB,bj];rcases h with h|h
 .rw [aZ ((rB _).1.2 h)];decide
 .split
  .decide
  .rw [aZ ((rB _).2.2 h)];decide
def agO{d:Dy}(h:d.q≠0):d.m≠0:=by
 intro h0;apply h;rw[pQ,h0];simp
def H9{x y:Iv}(hx:x.gX)(hy:y.gX)(xa:x.all=false)(hs:nh y≠0){p:Nat}(hp:1<=p)(gW:p<=4096):
 Ef p (λr=>∃ a b,x.jO a/\y.jO b/\r=a/b) (jh x y p):=by
 obtain⟨ya,h0⟩:=X3 hy hs;have hle:=hy.q;unfold jh;rw[xa,ya,a7 hs];simp only[gG,bB,bj];refine SL (f:=λa b=>a/b) (λa b ha hb=>?_) (λr ⟨a,b,ha,hb,e⟩=>?_)
 .have b0:b.m≠0:=agO (by rcases hb with rfl|rfl<;>grind);obtain⟨h1,h2⟩:=RA (a:=a) b0 hp gW;refine⟨h1,h2,a.q,b.q,?_,?_,rfl⟩
  .rcases ha with rfl|rfl;exact hx.Af;exact hx.Db
  .rcases hb with rfl|rfl;exact hy.Af;exact hy.Db
 .obtain ⟨h1,h2⟩:=ha.jW xa;obtain⟨h3,h4⟩:=hb.jW ya;have i1:y.hi.q⁻¹<=b⁻¹:=by
   rcases h0 with h0|h0
   .exact Nc aK h4
   .exact UJ aK h4
  have i2:b⁻¹<=y.lo.q⁻¹:=by
   rcases h0 with h0|h0
   .exact Nc h0 h3
   .exact UJ aK h3
  obtain⟨k1,k2⟩:=Rk h1 h2 i1 i2;rw[e];simp only[cL];exact⟨aK,aK⟩
def EL{x y:Iv}(p:Nat)(h:x.all=true\/nh y=0):jh x y p=gT:=by
 unfold jh;rw[aZ (by rcases h with h|h<;>rw[h]<;>simp)]
def Ia{x y:Iv}(hx:x.gX)(hy:y.gX){p:Nat}(hp:1<=p)(gW:p<=4096){a b:Rat}(ha:x.jO a)(hb:y.jO b):(jh x y p).jO (a/b):=by
 cases xa:x.all
 .by_cases hs:nh y=0
  .rw [EL p (.inr hs)];exact .inl rfl
  .exact (H9 hx hy xa hs hp gW).jO _ ⟨a,b,ha,hb,rfl⟩
 .rw [EL p (.inl xa)];exact .inl rfl
def Ch{x:Iv}(h:x.lo.q<=x.hi.q):x.hi.q<=(kt x).q /\ -x.lo.q<=(kt x).q/\((kt x).q=x.hi.q\/(kt x).q = -x.lo.q):=by
 obtain⟨a1,a2,a3,a4⟩:=y8 x.lo;obtain⟨b1,b2,b3,b4⟩:=y8 x.hi;obtain⟨c1,c2,c3⟩:=Gj (lI x.lo) (lI x.hi);unfold kt;generalize (iW (lI x.lo) (lI x.hi)).q=M at *
 refine⟨aK,aK,?_⟩;rcases c3 with c3|c3
 .rcases a4 with a4|a4
  .grind
  .grind
 .rcases b4 with b4|b4
  .grind
  .grind
def agR{x x':Iv}(hx:x.gX)(Ar:x'.gX)(h:Sub x x')(xa:x'.all=false):(kt x).q<=(kt x').q:=by
 obtain⟨h1,h2,h3⟩:=h.wR xa;obtain⟨a1,a2,a3⟩:=Ch hx.q;obtain⟨b1,b2,b3⟩:=Ch Ar.q
 grind
def Nx{x:Iv}(hx:x.gX)(xa:x.all=false):0<=(oF x).q/\(x.lo.q<=0->0<=x.hi.q->(oF x).q=0)/\(0<x.lo.q->(oF x).q=x.lo.q)/\(x.hi.q<0->(oF x).q = -x.hi.q):=by
 have hle:=hx.q;obtain⟨a1,a2,a3,a4⟩:=y8 x.lo;obtain⟨b1,b2,b3,b4⟩:=y8 x.hi;obtain⟨c1,c2,c3⟩:=Ct (lI x.lo) (lI x.hi);by_cases hs:nh x=0
 .have hn:¬(0<x.lo.q\/x.hi.q<0):=λh=>O4 xa h hs
  have:oF x=il:=by unfold oF;rw[aZ hs]
  rw[this,tp];refine⟨b6,λ_ _=>rfl,λh=>absurd (.inl h) hn,λh=>absurd (.inr h) hn⟩
 .obtain ⟨_,h0⟩:=X3 hx hs;have:oF x=ja (lI x.lo) (lI x.hi):=by unfold oF;rw[aY hs]
  rw[this];generalize (ja (lI x.lo) (lI x.hi)).q=M at *
  generalize (lI x.lo).q=u at *
  generalize (lI x.hi).q=v at *
  refine⟨aK,aK,aK,aK⟩
def alQ{x x':Iv}(hx:x.gX)(Ar:x'.gX)(h:Sub x x'):Sub (jN x) (jN x'):=by
 cases xa:x'.all
 .obtain ⟨h1,h2,h3⟩:=h.wR xa;unfold jN;rw[h1,xa];refine .inr ⟨rfl,?_,agR hx Ar h xa⟩;show(oF x').q<=(oF x).q;obtain⟨a1,a2,a3,a4⟩:=Nx hx h1;obtain⟨b1,b2,b3,b4⟩:=Nx Ar xa;have:=hx.q;by_cases c1:0<x'.lo.q
  .rw [b3 c1,a3 aK];exact h2
  .by_cases c2:x'.hi.q<0
   .rw [b4 c2,a4 aK];grind
   .rw [b2 aK aK];exact a1
 .refine .inl ?_;unfold jN;rw[aZ xa];rfl
def G6{x:Iv}(hx:x.gX){r s:Rat}(h:x.jO r)(hs:s=r/\0<=r\/s = -r/\r<=0):(jN x).jO s:=by
 unfold jN;cases xa:x.all
 .obtain ⟨h1,h2⟩:=h.jW xa;obtain⟨a1,a2,a3⟩:=Ch hx.q;obtain⟨b1,b2,b3,b4⟩:=Nx hx xa;refine .inr ⟨?_,?_⟩
  .show (oF x).q<=s;by_cases c1:0<x.lo.q
   .rw [b3 c1];grind
   .by_cases c2:x.hi.q<0
    .rw [b4 c2];grind
    .rw [b2 aK aK];grind
  .show s<=(kt x).q
   grind
 .exact .inl rfl
def Oi(d:Dy):(mg d).jO d.q:=.inr ⟨b6,b6⟩
def y4(n:Int):(ji n).jO (n:Rat):=by have:=Oi (iR n);rwa[AO]at this
def jb(d:Dy)(p:Nat)(up:Bool):Nat->Dy×Int
 | 0=>(jV d p up,jL d p up)
 |k+1=>if(jb d p up k).2≠0 then jb d p up k else(jV (wV (jb d p up k).1 d) p up,jL (wV (jb d p up k).1 d) p up)
def kU(d:Dy)(n p:Nat)(up:Bool):Dy×Int:=if d.iJ<0 then(jl (jb (jl d) p (!up) (n-1)).1,(jb (jl d) p (!up) (n-1)).2)else jb d p up (n-1)
def uc(x:Iv)(n:Nat):Iv:=if n%2=0 then jN x else x
def my(x:Iv)(n p:Nat):Iv:=
 if x.all then gT else if n=0 then mg ⟨false,1,0⟩
 else lr (kU (uc x n).lo n p false).1 (kU (uc x n).lo n p false).2 (kU (uc x n).hi n p true).1 (kU (uc x n).hi n p true).2
def nu(r:Rat):Nat->Rat
 | 0=>1
 |n+1=>nu r n*r
def Cz{r:Rat}(h:0<=r):∀ n,0<=nu r n
 | 0=>by show(0:Rat)<=1;decide
 |n+1=>bQ (Cz h n) h
def Gs{a b:Rat}(h0:0<=a)(h:a<=b):∀ n,nu a n<=nu b n
 | 0=>b6
 |n+1=>by
  have ih:=Gs h0 h n;have m1:=cj ih h0;have m2:=cF h (Cz (bI h0 h) n);exact bI m1 m2
def Cy(r:Rat):∀ n,nu (-r) n=if n%2=0 then nu r n else -nu r n
 | 0=>rfl
 |n+1=>by
  have ih:=Cy r n;simp only[nu,ih];have:n%2=0\/n%2=1:= aC ;rcases this with h|h
  .have h':(n+1)%2=1:= aC ;rw[h,h'];simp;grind
  .have h':(n+1)%2=0:= aC ;rw[h,h'];simp;grind
def OO{a b:Rat}{n:Nat}(hn:n%2=1)(h:a<=b):nu a n<=nu b n:=by
 by_cases h0:0<=a
 .exact Gs h0 h n
 .have ea:=Cy (-a) n;rw[fj,hn]at ea;simp only[gN,bj]at ea;by_cases hb:0<=b
  .have h1:=Cz (show 0 <= -a by grind) n;have h2:=Cz hb n
   grind
  .have eb:=Cy (-b) n;rw[fj,hn]at eb;simp only[gN,bj]at eb;have:=Gs (show 0 <= -b by grind) (show -b <= -a by grind) n
   grind
def Oj{d:Dy}(hd:d.mV)(h0:0<=d.q){p:Nat}(hp:1<=p)(gW:p<=4096):∀ k,(jb d p false k).2=0->0<=(jb d p false k).1.q/\(jb d p false k).1.q<=nu d.q (k+1)
 | 0,he=>by
  have A:=wY hd hp gW;refine⟨(A.2 0 (.inl (zF p)) h0).2,?_⟩;have:=(A.1 he).2;simp only[nu,fk];exact this
 |k+1,he=>by
  by_cases hk:(jb d p false k).2≠0
  .exfalso;simp only[jb,aZ hk]at he;exact hk he
  .have nI:(jb d p false k).2=0:= aC ;obtain⟨i1,i2⟩:=Oj hd h0 hp gW k nI;have A:=wY (zS (jb d p false k).1 d) hp gW;rw[DW]at A;simp only[jb,aY hk]at he ⊢;refine⟨(A.2 0 (.inl (zF p)) (bQ i1 h0)).2,?_⟩;have h1:=(A.1 he).2;have h2:=cj i2 h0;exact bI h1 h2
def Om{d:Dy}(hd:d.mV)(h0:0<=d.q){p:Nat}(hp:1<=p)(gW:p<=4096):∀ k,(jb d p true k).2=0->nu d.q (k+1)<=(jb d p true k).1.q
 | 0,he=>by
  have A:=wZ hd hp gW;have:=(A.1 he).2;simp only[nu,fk];exact this
 |k+1,he=>by
  by_cases hk:(jb d p true k).2≠0
  .exfalso;simp only[jb,aZ hk]at he;exact hk he
  .have nI:(jb d p true k).2=0:= aC ;have i2:=Om hd h0 hp gW k nI;have A:=wZ (zS (jb d p true k).1 d) hp gW;rw[DW]at A;simp only[jb,aY hk]at he ⊢;have h1:=(A.1 he).2;have h2:=cj i2 h0;exact bI h2 h1
def ac3{d:Dy}(hd:d.mV){n p:Nat}(hn:1<=n)(hs:0<=d.q\/n%2=1)(hp:1<=p)(gW:p<=4096)(he:(kU d n p false).2=0):(kU d n p false).1.q<=nu d.q n:=by
 unfold kU at he ⊢;by_cases h:d.iJ<0
 .rw [aZ h]at he ⊢;have hq:=(rB d).2.1 h;have Ap:=hs.resolve_left aK;have:=Om (NR hd) (by rw[qD];grind) hp gW (n-1) he;rw[(aC:n-1+1=n),qD,Cy,Ap]at this;simp only[gN,bj]at this;show(jl _).q<=_;rw[qD];simp only[dW]
  grind
 .rw [aY h]at he ⊢;have h0:0<=d.q:=by
   apply dk.1;intro im;exact h ((rB d).2.2 im)
  have:=(Oj hd h0 hp gW (n-1) he).2;rwa[(aC:n-1+1=n)]at this
def ac4{d:Dy}(hd:d.mV){n p:Nat}(hn:1<=n)(hs:0<=d.q\/n%2=1)(hp:1<=p)(gW:p<=4096)(he:(kU d n p true).2=0):nu d.q n<=(kU d n p true).1.q:=by
 unfold kU at he ⊢;by_cases h:d.iJ<0
 .rw [aZ h]at he ⊢;have hq:=(rB d).2.1 h;have Ap:=hs.resolve_left aK;have:=(Oj (NR hd) (by rw[qD];grind) hp gW (n-1) he).2;rw[(aC:n-1+1=n),qD,Cy,Ap]at this;simp only[gN,bj]at this;show _<=(jl _).q;rw[qD];simp only[eR]
  grind
 .rw [aY h]at he ⊢;have h0:0<=d.q:=by
   apply dk.1;intro im;exact h ((rB d).2.2 im)
  have:=Om hd h0 hp gW (n-1) he;rwa[(aC:n-1+1=n)]at this
def aif{x:Iv}(hx:x.gX){n p:Nat}(hp:1<=p)(gW:p<=4096){r:Rat}(h:x.jO r):(my x n p).jO (nu r n):=by
 unfold my;cases xa:x.all
 .simp only[bB,bj];by_cases hn:n=0
  .rw [aZ hn];subst hn;have e:(⟨false,1,0⟩:Dy).q=1:= aL ;refine .inr ⟨?_,?_⟩
   .show (⟨false,1,0⟩:Dy).q<=1;rw[e];exact b6
   .show 1<=(⟨false,1,0⟩:Dy).q;rw[e];exact b6
  .rw [aY hn];obtain⟨s,hs,s7,hsn⟩:∃ s,(uc x n).jO s/\(n%2=0->0<=(uc x n).lo.q/\0<=s)/\nu r n=nu s n:=by
    unfold uc;by_cases pY:n%2=0
    .rw [aZ pY];have hl:0<=(jN x).lo.q:=by
      unfold jN;rw[xa];show 0<=(oF x).q;unfold oF;split
      .rw [tp];exact b6
      .obtain ⟨_,_,m⟩:=Ct (lI x.lo) (lI x.hi);rcases m with m|m<;>rw[m]
       .exact (y8 x.lo).1
       .exact (y8 x.hi).1
     by_cases hr:0<=r
     .exact ⟨r,G6 hx h (.inl ⟨rfl,hr⟩),λ_=>⟨hl,hr⟩,rfl⟩
     .refine ⟨-r,G6 hx h (.inr ⟨rfl,aK⟩),λ_=>⟨hl,aK⟩,?_⟩;rw[Cy,aZ pY]
    .rw [aY pY];exact⟨r,h,λq=>absurd q pY,rfl⟩
   have B4:(uc x n).gX:=by unfold uc;split;exact G7 hx;exact hx
   have ya:(uc x n).all=false:=by
    unfold uc;split
    .unfold jN;rw[xa];rfl
    .exact xa
   rw[hsn];generalize uc x n=y at *
   obtain⟨s1,s2⟩:=hs.jW ya;obtain⟨c1,c2⟩:=B4.yg;unfold lr;split
   .exact .inl rfl
   .rename_i he;have Ap:¬n%2=0->n%2=1:=λq=> aC 
    refine .inr ⟨?_,?_⟩
    .refine bI (ac3 c1 aC ?_ hp gW aC) ?_
     .by_cases pY:n%2=0
      .exact .inl (s7 pY).1
      .exact .inr (Ap pY)
     .by_cases pY:n%2=0
      .exact Gs (s7 pY).1 s1 n
      .exact OO (Ap pY) s1
    .refine bI ?_ (ac4 c2 aC ?_ hp gW aC)
     .by_cases pY:n%2=0
      .exact Gs (s7 pY).2 s2 n
      .exact OO (Ap pY) s2
     .by_cases pY:n%2=0
      .exact .inl (bI (s7 pY).2 s2)
      .exact .inr (Ap pY)
 .rw [aZ rfl];exact .inl rfl
end Go.Proofs.YtkdddbdjilcofaaGreatDoor.Fp
namespace Go.Proofs.YtkdddbdjilcofaaGreatDoor
open Go.RowKit Fp Pu
structure mF where
 kind:Nat
 a:Nat
 b:Nat
 n:Nat
 cn:Int
 cd:Int
structure pn where
 ic:Nat
 gS:List mF
 iu:List Nat
structure jz where
 tape:pn
 iH:Nat
 params:List Iv
def iw:mF:=⟨0,0,0,0,0,0⟩
def JN(o:mF):List E:=[iP (o.kind:Int),iP (o.a:Int),iP (o.b:Int),iP (o.n:Int),iP o.cn,iP o.cd]
def vW(o:mF):E:=.agg (JN o)
def kD(l:List mF):E:=.sl true l.length 6 λi j=>(JN (l.getD i iw)).getD j .any
def kC(l:List Nat):E:=.sl true l.length 1 λi _=>iP (l.getD i 0:Int)
def akK(t:pn):List E:=[iP (t.ic:Int),kD t.gS,kC t.iu]
def GD(t:pn):E:=.agg (akK t)
def akn(s:jz):List E:=[iP (s.tape.ic:Int),kD s.tape.gS,kC s.tape.iu,iP (s.iH:Int),gY s.params]
def kQ(s:jz):E:=.agg (akn s)
def pB(n d:Int):Bool:=decide (1<=d)&&(decide (d<=1073741824)&&(decide (-1073741824<=n)&&(decide (n<=1073741824)&&decide (Nat.gcd n.natAbs d.natAbs=1))))
def Ot{n d:Int}(h:pB n d=true):1<=d/\d<=1073741824 /\ -1073741824<=n/\n<=1073741824:=by
 unfold pB at h;simp only[bE,b9]at h;exact⟨h.1,h.2.1,h.2.2.1,h.2.2.2.1⟩
def EY(f:FuncId)(x:Iv)(p:Nat):Prop:=∃ y:Iv,y.gX/\gQ f [ia x,iP (p:Int)] (ia y)
def ue:Prop:=∀ (x:Iv) (p:Nat),x.gX->8<=p->p<=512->EY 201 x p/\EY 203 x p/\EY 204 x p/\EY 205 x p/\EY 208 x p
structure nx(o:mF)(m:Nat):Prop where
 k3:o.kind=1\/3<=o.kind
 wQ:o.kind<=13
 a:if o.kind=1 then o.a=0 else o.a<m
 b:if 3<=o.kind/\o.kind<=6 then o.b<m else o.b=0
 n:if o.kind=8 then o.n<=16 else o.n=0
 c:if o.kind=1 then pB o.cn o.cd=true else o.cn=0/\o.cd=0
 f:o.kind<=8\/ue
structure xW(t:pn):Prop where
 ic:t.ic<=8
 gS:t.gS.length<=200
 iu:t.iu.length<=200
 op:∀ i,i<t.gS.length->nx (t.gS.getD i iw) (t.ic+i)
 out:∀ i,i<t.iu.length->t.iu.getD i 0<t.ic+t.gS.length
def pU(l:List Iv):Prop:=∀ i,i<l.length->(l.getD i gT).gX/\(l.getD i gT).all=false
structure lH(s:jz):Prop where
 tape:xW s.tape
 s1:1<=s.iH
 s4:s.iH<=4
 iu:s.tape.iu.length=s.iH
 ic:s.tape.ic=s.iH+s.params.length
 p4:s.params.length<=4
 params:pU s.params
structure kf(n:Nat)(b:List Iv):Prop where
 len:b.length=n
 ok:pU b
def qp(l:List Iv):Bool:=(List.range l.length).any λi=>(l.getD i gT).all
def lX(h:Dy):Iv:=⟨il,h,false⟩
def M8(x f:List Iv)(h:Dy)(p i:Nat):Iv:=jC (x.getD i gT) (iy (lX h) (f.getD i gT) p) p
def yN(x f:List Iv)(h:Dy)(p:Nat):List Iv:=(List.range x.length).map (M8 x f h p)
def Ye{h:Dy}(hv:h.gX)(h0:0<=h.q):(lX h).gX:=.inr ⟨rfl,rf,hv,by show iN il h<=0;rw[oO,tp];exact h0⟩
def vY(d:Dy){p:Nat}(hp:1<=p)(gW:p<=4096)(up:Bool):(jV d p up).gX:=sV _ _ _ _ _ _ hp gW
def y7(d:Dy){p:Nat}(hp:1<=p)(gW:p<=4096)(up:Bool):∀ k,(jb d p up k).1.gX
 | 0=>vY _ hp gW _
 |k+1=>by
  unfold jb;split
  .exact y7 d hp gW up k
  .exact vY _ hp gW _
def R6(d:Dy)(n:Nat){p:Nat}(hp:1<=p)(gW:p<=4096)(up:Bool):(kU d n p up).1.gX:=by
 unfold kU;split
 .exact yZ (y7 _ hp gW _ _)
 .exact y7 _ hp gW _ _
def Wu:canon false 1 0=⟨false,1,0⟩:=by
 have h1:(canon false 1 0).neg=false:= aL ;have h2:(canon false 1 0).m=1:= aL ;have h3:(canon false 1 0).e=0:= aL ;generalize canon false 1 0=d at *
 cases d;simp_all
def DO:(⟨false,1,0⟩:Dy).gX:=by
 have h2:mv (canon false 1 0):= aL ;rw[<-Wu];exact⟨ri _ _ _,h2⟩
def WL{x:Iv}(hx:x.gX)(n:Nat){p:Nat}(hp:1<=p)(gW:p<=4096):(my x n p).gX:=by
 have hh:=aif hx (n:=n) hp gW hx.Af;revert hh;unfold my;split
 .intro _;exact lG
 .split
  .intro _;exact uV DO
  .unfold lr;split
   .intro _;exact lG
   .intro hh;obtain⟨h1,h2⟩:=hh.jW rfl;exact .inr ⟨rfl,R6 _ _ hp gW _,R6 _ _ hp gW _,(oO _ _).2 (bI h1 h2)⟩
def lQ(l:List Iv):Prop:=∀ i,(l.getD i gT).gX
def lQ.push{l:List Iv}(h:lQ l){y:Iv}(hy:y.gX):lQ (l++[y]):=λi=>by
 rw[bd,eA];split
 .have:=h i;rwa[bd]at this
 .rcases i-l.length with _|j
  .exact hy
  .exact lG
def pU.Po{l:List Iv}(h:pU l):lQ l:=λi=>by
 by_cases hi:i<l.length
 .exact (h i hi).1
 .rw [bd,b7 aC];exact lG
def lQ.append{l r:List Iv}(h:lQ l)(k:lQ r):lQ (l++r):=λi=>by
 rw[bd,eA];split
 .have:=h i;rwa[bd]at this
 .have:=k (i-l.length);rwa[bd]at this
def aeU{l:List Iv}(h:qp l=false)(v:lQ l):pU l:=λi hi=>⟨v i,by simpa using List.any_eq_false.1 h i (bW.2 hi)⟩
def afw{x f:List Iv}{h:Dy}(hx:lQ x){p:Nat}(hp:1<=p)(gW:p<=4096)(i:Nat):(M8 x f h p i).gX:=qJ (hx i) (nY _ _ hp gW) hp gW
def Ji(x f:List Iv)(h:Dy)(p:Nat):(yN x f h p).length=x.length:=by simp[yN]
def Jh{x f:List Iv}{h:Dy}{p i:Nat}(hi:i<x.length):(yN x f h p).getD i gT=M8 x f h p i:=by
 simp[yN,bd,hi]
def afx{x f:List Iv}{h:Dy}(hx:lQ x){p:Nat}(hp:1<=p)(gW:p<=4096):lQ (yN x f h p):=λi=>by
 by_cases hi:i<x.length
 .rw [Jh hi];exact afw hx hp gW i
 .rw [bd,b7 (by rw[Ji];omega)];exact lG
def uK(a b:List Iv):Bool:=(List.range a.length).all λi=>Az (a.getD i gT) (b.getD i gT)
def vv(x:Iv)(d:Dy):Bool:=decide (kg (iI x.lo (jl d))=0)&&decide (kg (iI x.hi d)=0)
def qo(x:Iv)(d:Dy):Iv:=⟨jm (iI x.lo (jl d)),jm (iI x.hi d),false⟩
def rm(x:List Iv)(d:Dy):Bool:=(List.range x.length).all λi=>vv (x.getD i gT) d
def rI(x:List Iv)(d:Dy):List Iv:=if rm x d then(List.range x.length).map λi=>qo (x.getD i gT) d else[]
def pP(x y:Iv):Iv:=if x.all||y.all then gT else⟨ja x.lo y.lo,iW x.hi y.hi,false⟩
def mT(x y:List Iv):List Iv:=(List.range x.length).map λi=>pP (x.getD i gT) (y.getD i gT)
def oq(x:Iv)(p:Nat):Dy:=jV (iI x.hi (jl x.lo)) p true
def ve(x:Iv)(p:Nat):Int:=jL (iI x.hi (jl x.lo)) p true
def nv(x:List Iv)(p:Nat):Nat->Dy
 | 0=>il
 |k+1=>if 0<iN (oq (x.getD k gT) p) (nv x p k)then oq (x.getD k gT) p else nv x p k
def GO(x:List Iv)(p:Nat):Bool:=(List.range x.length).all λi=>decide (ve (x.getD i gT) p=0)
def Ug{x y:Iv}(hx:x.gX)(hy:y.gX):(pP x y).gX:=by
 unfold pP;cases xa:x.all
 .cases ya:y.all
  .obtain ⟨x1,x2⟩:x.lo.gX/\x.hi.gX:=hx.jW;obtain⟨y1,y2⟩:y.lo.gX/\y.hi.gX:=hy.jW;refine .inr ⟨rfl,wT x1 y1,tZ x2 y2,?_⟩;rw[oO];have hq:=hx.q;obtain⟨a1,a2,_⟩:=Ct x.lo y.lo;obtain⟨b1,b2,_⟩:=Gj x.hi y.hi
   grind
  .exact lG
 .exact lG
def Uf{x y:List Iv}{n:Nat}(hx:kf n x)(hy:kf n y):kf n (mT x y):=by
 refine⟨by simp[mT,hx.len],λi hi=>?_⟩;have mi:i<x.length:=by simpa[mT]using hi
 have e:(mT x y).getD i gT=pP (x.getD i gT) (y.getD i gT):=by simp[mT,bd,mi]
 obtain⟨v1,a1⟩:=hx.ok i mi;obtain⟨v2,a2⟩:=hy.ok i (by rw[hy.len,<-hx.len];exact mi);rw[e];refine⟨Ug v1 v2,?_⟩;unfold pP;rw[a1,a2];rfl
def aeG{x:Iv}(hx:x.gX){d:Dy}(hd:d.gX)(h0:0<=d.q)(h:vv x d=true):(qo x d).gX:=by
 unfold vv at h;rw[bE,b9,b9]at h;obtain⟨h1,h2⟩:=h;have r1:mv (iI x.lo (jl d)):=bM λq=>by rw[Ey q]at h1;cases h1
 have r2:mv (iI x.hi d):=bM λq=>by rw[Ey q]at h2;cases h2
 obtain⟨c1,c2⟩:=hx.yg;unfold qo;refine .inr ⟨rfl,EA (Bm c1 (yZ hd).canon),EA (Bm c2 hd.canon),?_⟩;show iN (jm _) (jm _)<=0;rw[zT r1,zT r2,oO,On,On,qD];have:=hx.q
 grind
def LX{x:List Iv}{n:Nat}(hx:kf n x){d:Dy}(hd:d.gX)(h0:0<=d.q)(h:rm x d=true):kf n (rI x d):=by
 unfold rI;rw[aZ h];refine⟨by simp[hx.len],λi hi=>?_⟩;have mi:i<x.length:=by simpa using hi
 have e:((List.range x.length).map λi=>qo (x.getD i gT) d).getD i gT=qo (x.getD i gT) d:=by simp[bd,mi]
 rw[e];exact⟨aeG (hx.ok i mi).1 hd h0 (bN.1 h i (bW.2 mi)),rfl⟩
def acI(s:Bool)(L:List Nat)(e:Int)(hk:iD L)(hl:L.length<=256)(mh:-1000000<=e)(lf:e<=1000000):gQ 98 [bP s,gV L,iP e] (gU (canon s (val L) e)):=by
 refine⟨call98,λw B vs hK hB hr=>?_⟩;obtain⟨v1,vs,rfl,h1,hr⟩:=hr.nc;obtain⟨v2,vs,rfl,h2,hr⟩:=hr.nc;obtain⟨v3,vs,rfl,h3,hr⟩:=hr.nc;obtain rfl:=hr.rM;obtain rfl:=ix.ku h1;obtain rfl:=ix.ku h3;obtain⟨A,c,rfl,s1⟩:=zo hk h2;exact(Ib s A c L e w s1 aC (by have:=pj L;unfold mr at this;omega) mh lf hK).mono λe w' h=>rd B w e w' hB h
def akW(x y:Nat):E.le (.sl false 2 1 λi j=>[E.v (.int .u32 (x:Int)),.v (.int .u32 (y:Int))].getD (i*1+j) (.v (.bool false))) (gV [x,y]):=.sl λi j hi hj=>by
 obtain rfl:j=0:= aC ;obtain rfl|rfl:i=0\/i=1:= aC 
 .exact ⟨.refl _,rfl⟩
 .exact ⟨.refl _,rfl⟩
def B7(n:Nat):iR (n:Int)=canon false n 0:=by
 unfold iR jS;rw[a7 aC,fQ]
def DA(n:Nat)(h:n<4294967296):(iR (n:Int)).gX:=by
 rw[B7];refine⟨ri _ _ _,?_⟩;by_cases h0:n=0
 .subst h0;exact .inl rfl
 .have:=CY (s:=false) (e:=0) h0;have hb:gZ n<=32:=lR.2 h;refine .inr ⟨aC,aC,?_,aC⟩;obtain⟨h1,h2,h3,h4⟩:=this;have:=nM h3;omega
def alf(x y:Nat):val [x,y]=x+4294967296*y:=by simp[val]
def Qp(d:Dy)(n p:Nat)(x:Nat):PS:=⟨41,true,[(14,.e (iP ((x+1:Nat):Int))),(13,.e (iP ((jb d p false x).2))),(12,.box 12 0),(10,.box 10 0),(5,.box 5 0),(1,.e (iP n)),(2,.e (iP p)),(4,.e (.fn 154 []))],[(12,.cells 31 (iq ((jb d p false x).1))),(10,.cells 31 ar),(5,.cells 31 (iq d))]⟩
def Qq(d:Dy)(n N p:Nat)(x:Nat):PS:=⟨41,true,[(14,.e (iP ((x+1:Nat):Int))),(13,.e (iP ((jb d p false x).2))),(12,.box 12 0),(10,.box 10 0),(5,.box 5 0),(1,.e (iP n)),(2,.e (iP p)),(4,.e (.fn 154 []))],[(12,.cells 31 (iq ((jb d p false x).1))),(10,.cells 31 ar),(5,.cells 31 (iq d))]⟩
def Qr(d:Dy)(n p:Nat)(x:Nat):PS:=⟨41,true,[(14,.e (iP ((x+1:Nat):Int))),(13,.e (iP ((jb d p true x).2))),(12,.box 12 0),(10,.box 10 0),(5,.box 5 0),(1,.e (iP n)),(2,.e (iP p)),(4,.e (.fn 155 []))],[(12,.cells 31 (iq ((jb d p true x).1))),(10,.cells 31 ar),(5,.cells 31 (iq d))]⟩
def Qs(d:Dy)(n N p:Nat)(x:Nat):PS:=⟨41,true,[(14,.e (iP ((x+1:Nat):Int))),(13,.e (iP ((jb d p true x).2))),(12,.box 12 0),(10,.box 10 0),(5,.box 5 0),(1,.e (iP n)),(2,.e (iP p)),(4,.e (.fn 155 []))],[(12,.cells 31 (iq ((jb d p true x).1))),(10,.cells 31 ar),(5,.cells 31 (iq d))]⟩
def aad(a b:Dy)(ha:a.gX)(hb:b.gX):gQ 172 [gU a,gU b] (.ie [gU (jm (iI a b)),iP (kg (iI a b))]):=JP call172 (λA c A' c' w h k hT=>RQ a b A A' c c' w h k hT ha hb) Gm
def Es(a b:Dy)(ha:a.gX)(hb:b.gX):gQ 137 [gU a,gU b] (.ie [gU (jm (iI a (jl b))),iP (kg (iI a (jl b)))]):=JP call137 (λA c A' c' w h k hT=>acR a b A A' c c' w h k hT ha hb) Gm
def Eo(a b:Dy)(ha:a.gX)(hb:b.gX):gQ 138 [gU a,gU b] (.ie [gU (jm (iI a b)),iP (kg (iI a b))]):=
 ak call138 func138 (af [ag [gU a] (mZ _ aD),ag [gU b] (mZ _ aD),ag [gU a,gU b] (aad _ _ aD aD)]) 
def Qb(s:Bool)(m:Nat)(e:Int)(hl:(gR m).length<=256)(mh:-1000000<=e)(lf:e<=1000000):gQ 98 [bP s,gV (gR m),iP e] (gU (canon s m e)):=by
 refine⟨call98,λw B vs hK hB hr=>?_⟩;obtain⟨v1,vs,rfl,h1,hr⟩:=hr.nc;obtain⟨v2,vs,rfl,h2,hr⟩:=hr.nc;obtain⟨v3,vs,rfl,h3,hr⟩:=hr.nc;obtain rfl:=hr.rM;obtain rfl:=ix.ku h1;obtain rfl:=ix.ku h3;obtain⟨A,c,rfl,s1⟩:=zo (mB m) h2;exact(C0 s m e A c w s1 hl mh lf hK).mono λe w' h=>rd B w e w' hB h
def Qc(d:Dy)(hl:(gR d.m).length<=100000000)(mh:-10000000<=d.e)(lf:d.e<=10000000):gQ 97 [gU d] (.ie [gU (jm d),iP (kg d)]):=
 DS call97 (λA c w h _=>Hv d A c w h aC aC aC) Gm
def ZI(k:Int)(h1:-32768<=k)(h2:k<=32768):gQ 96 [iP k] (bP true):=
 ak call96 func96 (af [tT 4 ((-32768)<=k) aC,tT 7 (k<=32768) aC]) 
def CU(d:Dy)(k:Int)(hv:d.gX)(h1:-32768<=k)(h2:k<=32768):gQ 57 [gU d,iP k] (.ie [gU (jm (canon d.neg d.m (d.e+k))),iP (kg (canon d.neg d.m (d.e+k)))]):=by
 have hl:=hv.gR;have he:=hv.exp;have iO:=La (mB d.m) hl d.neg (d.e+k);obtain⟨lL,qQ⟩:=K7 (mB d.m) hl d.neg (d.e+k) aC aC;rw[jY]at iO lL qQ;exact ak call57 func57 (af [ag [gU d] (mZ _ aD),.c (ZI k aC aC),ij (d.e+k) aC,ag [bP d.neg,gV (gR d.m),iP (d.e+k)] (Qb _ _ _ aC aC aC),ag [gU (canon d.neg d.m (d.e+k))] (Qc _ aC aC aC)]) 
def Ep(n:Nat)(h:n<4294967296):gQ 74 [iP n] (gU (iR (n:Int))):=by
 have ok2:iD [n%4294967296,n/4294967296%4294967296]:=iD.cons (bF _ aE) (iD.cons (bF _ aE) iD.nil);exact ak call74 func74 (ae [.o 5 (.int (sd _ aC):aj (.v (.int .u64 (IntKind.u64.wrap (n:Int)))) (.v (.int .u64 (n:Int)))),tF 7 ((n:Int)<0) aC,tF 11 ((n:Int)<0) aC,.o 13 (.int (Ea _):aj (.v (.int .u32 (IntKind.u32.wrap (n:Int)))) (.v (.int .u32 ((n%4294967296:Nat):Int)))),.a (aC:0<=(32:Int)/\(32:Int)<=((64:Nat):Int)),.o 15 (.int (XZ _):aj (.v (.int .u64 ((n:Int)/2^32))) (.v (.int .u64 ((n/4294967296:Nat):Int)))),.o 16 (.int (Ea _):aj (.v (.int .u32 (IntKind.u32.wrap ((n/4294967296:Nat):Int)))) (.v (.int .u32 (((n/4294967296)%4294967296:Nat):Int)))),.o 17 (.e (akW _ _):aj (.sl false 2 1 λi_ j_=>[.v (.int .u32 ((n%4294967296:Nat):Int)),.v (.int .u32 (((n/4294967296)%4294967296:Nat):Int))].getD (i_*1+j_) (.v (.bool false))) (gV [n%4294967296,(n/4294967296)%4294967296])),ag [bP false,gV [n%4294967296,(n/4294967296)%4294967296],iP 0] (acI _ _ _ ok2 aH aE aE)]<|rQ (gU (canon false (val [n%4294967296,(n/4294967296)%4294967296]) 0)) (gU (iR (n:Int))) (by rw[alf,(aC:n%4294967296+4294967296*(n/4294967296%4294967296)=n),B7])) 
def afK:iR 1=⟨false,1,0⟩:=by rw[show(1:Int)=((1:Nat):Int)from rfl,B7];exact Wu
def KW:gQ 74 [iP 1] (gU ⟨false,1,0⟩):=by
 have:=Ep 1 aE;rwa[show((1:Nat):Int)=1 from rfl,afK]at this
def Hj(d:Dy)(p:Nat)(hd:d.gX)(ib:8<=p)(gW:p<=512):gQ 251 [gU d,iP p] (.ie [gU (jV d p false),iP (jL d p false)]):=
 ak call251 func251 (af [.c (JX d p false aD aC aC)]) 
def Hk(d:Dy)(p:Nat)(hd:d.gX)(ib:8<=p)(gW:p<=512):gQ 250 [gU d,iP p] (.ie [gU (jV d p true),iP (jL d p true)]):=
 ak call250 func250 (af [.c (JX d p true aD aC aC)]) 
def Ol(d:Dy)(p:Nat)(up:Bool)(N:Nat)(h:(jb d p up N).2≠0):∀ k,jb d p up (N+k)=jb d p up N
 | 0=>rfl
 |k+1=>by
  have ih:=Ol d p up N h k;show(if(jb d p up (N+k)).2≠0 then jb d p up (N+k)else _)=_;rw[ih,aZ h]
def AN{d:Dy}{p:Nat}{up:Bool}{k:Nat}(h:(jb d p up k).2=0):jb d p up (k+1)=(jV (jq (jb d p up k).1 d) p up,jL (jq (jb d p up k).1 d) p up):=by
 show(if(jb d p up k).2≠0 then _ else _)=_;rw[aY (not_not_intro h)];rfl
def Z0(d:Dy)(n p:Nat)(hd:d.gX)(hn:1<=n)(mc:n<=16)(ib:8<=p)(gW:p<=512)(jG:∀ x,x<n-1->(jb d p false x).2=0):gQ 249 [gU d,iP n,iP p,.fn 251 [],.fn 154 []] (.ie [gU (jb d p false (n-1)).1,iP (jb d p false (n-1)).2]):=
 ak call249 func249 (af [.c (Hj d p aD aC aC),.s (Sp.jE (Qp d n p) 0 (n-1) aC (λx hx mn=>by
    have nN:=jG x aC;have hv:=y7 d (aC:1<=p) (aC:p<=4096) false x;exact iA (ae [tT 24 (((x+1:Nat):Int)<n) aC,ah 27 (((jb d p false x).2)==0) (by rw[nN];rfl),.c (JV ((jb d p false x).1) d p aD aD aC aC),
     ij (((x+1:Nat):Int)+1) aC]<|.e (af [.o 13 (aq (jL (jq ((jb d p false x).1) d) p false) ((jb d p false (x+1)).2) (by rw[AN nN])),.b 12 (.iL (by rw[AN nN]):Bx.le (.cells 31 (iq (jV (jq ((jb d p false x).1) d) p false))) (.cells 31 (iq ((jb d p false (x+1)).1))))])) aF)
  (λhx=>by
    exact iA (af [tF 24 ((((n-1)+1:Nat):Int)<n) aC]) aF) aI:jB 3 f249 (Qp d n p 0) (.exit 0) ⟨41,true,[(13,.e (iP ((jb d p false (n-1)).2))),(12,.box 12 0),(10,.box 10 0)],[(12,.cells 31 (iq ((jb d p false (n-1)).1))),(10,.cells 31 ar)]⟩) (af [.o 14 (aq 1 ((0+1:Nat):Int) rfl),.o 13 (aq (jL d p false) ((jb d p false 0).2) rfl),.b 12 (.iL rfl:Bx.le (.cells 31 (iq (jV d p false))) (.cells 31 (iq ((jb d p false 0).1))))])]) 
def Z3(d:Dy)(n N p:Nat)(hd:d.gX)(hn:1<=n)(mc:n<=16)(ib:8<=p)(gW:p<=512)(pN:N<n-1)(jG:∀ x,x<N->(jb d p false x).2=0)(hN:(jb d p false N).2≠0):gQ 249 [gU d,iP n,iP p,.fn 251 [],.fn 154 []] (.ie [gU (jb d p false N).1,iP (jb d p false N).2]):=
 ak call249 func249 (af [.c (Hj d p aD aC aC),.s (Sp.jE (Qq d n N p) 0 N aC (λx hx mn=>by
    have nN:=jG x aC;have hv:=y7 d (aC:1<=p) (aC:p<=4096) false x;exact iA (ae [tT 24 (((x+1:Nat):Int)<n) aC,ah 27 (((jb d p false x).2)==0) (by rw[nN];rfl),.c (JV ((jb d p false x).1) d p aD aD aC aC),
     ij (((x+1:Nat):Int)+1) aC]<|.e (af [.o 13 (aq (jL (jq ((jb d p false x).1) d) p false) ((jb d p false (x+1)).2) (by rw[AN nN])),.b 12 (.iL (by rw[AN nN]):Bx.le (.cells 31 (iq (jV (jq ((jb d p false x).1) d) p false))) (.cells 31 (iq ((jb d p false (x+1)).1))))])) aF)
  (λhx=>by
    exact iA (af [tT 24 (((N+1:Nat):Int)<n) aC,ai 27 (((jb d p false N).2)==0) (by simpa using hN)]) aF) aI:jB 3 f249 (Qq d n N p 0) (.exit 0) ⟨41,true,[(13,.e (iP ((jb d p false N).2))),(12,.box 12 0),(10,.box 10 0)],[(12,.cells 31 (iq ((jb d p false N).1))),(10,.cells 31 ar)]⟩) (af [.o 14 (aq 1 ((0+1:Nat):Int) rfl),.o 13 (aq (jL d p false) ((jb d p false 0).2) rfl),.b 12 (.iL rfl:Bx.le (.cells 31 (iq (jV d p false))) (.cells 31 (iq ((jb d p false 0).1))))])]) 
def Z4(d:Dy)(n p:Nat)(hd:d.gX)(hn:1<=n)(mc:n<=16)(ib:8<=p)(gW:p<=512):gQ 249 [gU d,iP n,iP p,.fn 251 [],.fn 154 []] (.ie [gU (jb d p false (n-1)).1,iP (jb d p false (n-1)).2]):=by
 by_cases h:∃ x,x<n-1/\decide ((jb d p false x).2≠0)=true
 .obtain ⟨N,h1,h2,h3⟩:=sG h;have hN:(jb d p false N).2≠0:=cJ h2;have:=Z3 d n N p hd hn mc ib gW h1 (λx hx=>by simpa using h3 x hx) hN;have e:=Ol d p false N hN (n-1-N);rw[(aC:N+(n-1-N)=n-1)]at e;rw[e];exact this
 .exact Z0 d n p hd hn mc ib gW λx hx=>bM λq=>h ⟨x,hx,a6 q⟩
def Z5(d:Dy)(n p:Nat)(hd:d.gX)(hn:1<=n)(mc:n<=16)(ib:8<=p)(gW:p<=512)(jG:∀ x,x<n-1->(jb d p true x).2=0):gQ 249 [gU d,iP n,iP p,.fn 250 [],.fn 155 []] (.ie [gU (jb d p true (n-1)).1,iP (jb d p true (n-1)).2]):=
 ak call249 func249 (af [.c (Hk d p aD aC aC),.s (Sp.jE (Qr d n p) 0 (n-1) aC (λx hx mn=>by
    have nN:=jG x aC;have hv:=y7 d (aC:1<=p) (aC:p<=4096) true x;exact iA (ae [tT 24 (((x+1:Nat):Int)<n) aC,ah 27 (((jb d p true x).2)==0) (by rw[nN];rfl),.c (JW ((jb d p true x).1) d p aD aD aC aC),
     ij (((x+1:Nat):Int)+1) aC]<|.e (af [.o 13 (aq (jL (jq ((jb d p true x).1) d) p true) ((jb d p true (x+1)).2) (by rw[AN nN])),.b 12 (.iL (by rw[AN nN]):Bx.le (.cells 31 (iq (jV (jq ((jb d p true x).1) d) p true))) (.cells 31 (iq ((jb d p true (x+1)).1))))])) aF)
  (λhx=>by
    exact iA (af [tF 24 ((((n-1)+1:Nat):Int)<n) aC]) aF) aI:jB 3 f249 (Qr d n p 0) (.exit 0) ⟨41,true,[(13,.e (iP ((jb d p true (n-1)).2))),(12,.box 12 0),(10,.box 10 0)],[(12,.cells 31 (iq ((jb d p true (n-1)).1))),(10,.cells 31 ar)]⟩) (af [.o 14 (aq 1 ((0+1:Nat):Int) rfl),.o 13 (aq (jL d p true) ((jb d p true 0).2) rfl),.b 12 (.iL rfl:Bx.le (.cells 31 (iq (jV d p true))) (.cells 31 (iq ((jb d p true 0).1))))])]) 
def Z6(d:Dy)(n N p:Nat)(hd:d.gX)(hn:1<=n)(mc:n<=16)(ib:8<=p)(gW:p<=512)(pN:N<n-1)(jG:∀ x,x<N->(jb d p true x).2=0)(hN:(jb d p true N).2≠0):gQ 249 [gU d,iP n,iP p,.fn 250 [],.fn 155 []] (.ie [gU (jb d p true N).1,iP (jb d p true N).2]):=
 ak call249 func249 (af [.c (Hk d p aD aC aC),.s (Sp.jE (Qs d n N p) 0 N aC (λx hx mn=>by
    have nN:=jG x aC;have hv:=y7 d (aC:1<=p) (aC:p<=4096) true x;exact iA (ae [tT 24 (((x+1:Nat):Int)<n) aC,ah 27 (((jb d p true x).2)==0) (by rw[nN];rfl),.c (JW ((jb d p true x).1) d p aD aD aC aC),
     ij (((x+1:Nat):Int)+1) aC]<|.e (af [.o 13 (aq (jL (jq ((jb d p true x).1) d) p true) ((jb d p true (x+1)).2) (by rw[AN nN])),.b 12 (.iL (by rw[AN nN]):Bx.le (.cells 31 (iq (jV (jq ((jb d p true x).1) d) p true))) (.cells 31 (iq ((jb d p true (x+1)).1))))])) aF)
  (λhx=>by
    exact iA (af [tT 24 (((N+1:Nat):Int)<n) aC,ai 27 (((jb d p true N).2)==0) (by simpa using hN)]) aF) aI:jB 3 f249 (Qs d n N p 0) (.exit 0) ⟨41,true,[(13,.e (iP ((jb d p true N).2))),(12,.box 12 0),(10,.box 10 0)],[(12,.cells 31 (iq ((jb d p true N).1))),(10,.cells 31 ar)]⟩) (af [.o 14 (aq 1 ((0+1:Nat):Int) rfl),.o 13 (aq (jL d p true) ((jb d p true 0).2) rfl),.b 12 (.iL rfl:Bx.le (.cells 31 (iq (jV d p true))) (.cells 31 (iq ((jb d p true 0).1))))])]) 
def Z7(d:Dy)(n p:Nat)(hd:d.gX)(hn:1<=n)(mc:n<=16)(ib:8<=p)(gW:p<=512):gQ 249 [gU d,iP n,iP p,.fn 250 [],.fn 155 []] (.ie [gU (jb d p true (n-1)).1,iP (jb d p true (n-1)).2]):=by
 by_cases h:∃ x,x<n-1/\decide ((jb d p true x).2≠0)=true
 .obtain ⟨N,h1,h2,h3⟩:=sG h;have hN:(jb d p true N).2≠0:=cJ h2;have:=Z6 d n N p hd hn mc ib gW h1 (λx hx=>by simpa using h3 x hx) hN;have e:=Ol d p true N hN (n-1-N);rw[(aC:N+(n-1-N)=n-1)]at e;rw[e];exact this
 .exact Z5 d n p hd hn mc ib gW λx hx=>bM λq=>h ⟨x,hx,a6 q⟩
def Qd(d:Dy)(n p:Nat)(hd:d.gX)(h0:¬d.iJ<0)(hn:1<=n)(mc:n<=16)(ib:8<=p)(gW:p<=512):gQ 226 [gU d,iP n,iP p,bP false] (.ie [gU (kU d n p false).1,iP (kU d n p false).2]):=
 ak call226 func226 (ae [ag [gU d] (mJ _ aD),tB 14 (a7 h0),.c (Z4 d n p aD aC aC aC aC)]<|rQ (.ie [gU ((jb d p false (n-1)).1),iP ((jb d p false (n-1)).2)]) (.ie [gU (kU d n p false).1,iP (kU d n p false).2]) (by unfold kU;rw[aY h0])) 
def Qe(d:Dy)(n p:Nat)(hd:d.gX)(h0:¬d.iJ<0)(hn:1<=n)(mc:n<=16)(ib:8<=p)(gW:p<=512):gQ 226 [gU d,iP n,iP p,bP true] (.ie [gU (kU d n p true).1,iP (kU d n p true).2]):=
 ak call226 func226 (ae [ag [gU d] (mJ _ aD),tB 14 (a7 h0),.c (Z7 d n p aD aC aC aC aC)]<|rQ (.ie [gU ((jb d p true (n-1)).1),iP ((jb d p true (n-1)).2)]) (.ie [gU (kU d n p true).1,iP (kU d n p true).2]) (by unfold kU;rw[aY h0])) 
def X1{d:Dy}(h:d.iJ<0):¬(jl d).iJ<0:=by
 rw[(rB _).2,qD];have:=(rB d).2.1 h
 grind
def ZC(d:Dy)(n p:Nat)(hd:d.gX)(h0:¬d.iJ<0)(hn:1<=n)(mc:n<=16)(ib:8<=p)(gW:p<=512):gQ 226 [gU d,iP (n:Int),iP (p:Int),bP false] (.ie [gU (jb d p false (n-1)).1,iP (jb d p false (n-1)).2]):=by
 have:=Qd d n p hd h0 hn mc ib gW;unfold kU at this;rwa[aY h0]at this
def ZD(d:Dy)(n p:Nat)(hd:d.gX)(h0:¬d.iJ<0)(hn:1<=n)(mc:n<=16)(ib:8<=p)(gW:p<=512):gQ 226 [gU d,iP (n:Int),iP (p:Int),bP true] (.ie [gU (jb d p true (n-1)).1,iP (jb d p true (n-1)).2]):=by
 have:=Qe d n p hd h0 hn mc ib gW;unfold kU at this;rwa[aY h0]at this
def ZA(d:Dy)(n p:Nat)(hd:d.gX)(h0:d.iJ<0)(hn:1<=n)(mc:n<=16)(ib:8<=p)(gW:p<=512):gQ 226 [gU d,iP n,iP p,bP false] (.ie [gU (kU d n p false).1,iP (kU d n p false).2]):=by
 have Fm:=yZ hd;have h1:=X1 h0;have hv:=y7 (jl d) (aC:1<=p) (aC:p<=4096) true (n-1);exact ak call226 func226 (ae [ag [gU d] (mJ _ aD),tB 14 (a6 h0),ag [gU d] (yi _ aD),ag [gU (jl d),iP n,iP p,bP true] (ZD _ _ _ Fm h1 hn mc ib gW),ag [gU ((jb (jl d) p true (n-1)).1)] (yi _ aD)]<|rQ (.ie [gU (jl ((jb (jl d) p true (n-1)).1)),iP ((jb (jl d) p true (n-1)).2)]) (.ie [gU (kU d n p false).1,iP (kU d n p false).2]) (by unfold kU;rw[aZ h0];rfl)) 
def Qf(d:Dy)(n p:Nat)(hd:d.gX)(hn:1<=n)(mc:n<=16)(ib:8<=p)(gW:p<=512):gQ 226 [gU d,iP (n:Int),iP (p:Int),bP false] (.ie [gU (kU d n p false).1,iP (kU d n p false).2]):=by
 by_cases h0:d.iJ<0
 .exact ZA d n p hd h0 hn mc ib gW
 .exact Qd d n p hd h0 hn mc ib gW
def ZB(d:Dy)(n p:Nat)(hd:d.gX)(h0:d.iJ<0)(hn:1<=n)(mc:n<=16)(ib:8<=p)(gW:p<=512):gQ 226 [gU d,iP n,iP p,bP true] (.ie [gU (kU d n p true).1,iP (kU d n p true).2]):=by
 have Fm:=yZ hd;have h1:=X1 h0;have hv:=y7 (jl d) (aC:1<=p) (aC:p<=4096) false (n-1);exact ak call226 func226 (ae [ag [gU d] (mJ _ aD),tB 14 (a6 h0),ag [gU d] (yi _ aD),ag [gU (jl d),iP n,iP p,bP false] (ZC _ _ _ Fm h1 hn mc ib gW),ag [gU ((jb (jl d) p false (n-1)).1)] (yi _ aD)]<|rQ (.ie [gU (jl ((jb (jl d) p false (n-1)).1)),iP ((jb (jl d) p false (n-1)).2)]) (.ie [gU (kU d n p true).1,iP (kU d n p true).2]) (by unfold kU;rw[aZ h0];rfl)) 
def Qg(d:Dy)(n p:Nat)(hd:d.gX)(hn:1<=n)(mc:n<=16)(ib:8<=p)(gW:p<=512):gQ 226 [gU d,iP (n:Int),iP (p:Int),bP true] (.ie [gU (kU d n p true).1,iP (kU d n p true).2]):=by
 by_cases h0:d.iJ<0
 .exact ZB d n p hd h0 hn mc ib gW
 .exact Qe d n p hd h0 hn mc ib gW
def Z8(x:Iv)(n p:Nat)(hx:x.gX)(ha:x.all=true)(hn:n<=16)(ib:8<=p)(gW:p<=512):gQ 200 [ia x,iP n,iP p] (ia (my x n p)):=
 ak call200 func200 (ae [.o 12 (.e (lq _):aj (.sl true 1 7 λi_ j_=>(iE x).getD (i_*7+j_) (.v (.bool false))) (gY [x])),ag [gY [x]] (pF _ aD),ai 13 (!x.all) (by rw[ha];rfl),.c nm]<|rQ (ia gT) (ia (my x n p)) (by unfold my;rw[aZ ha])) 
def aab(x:Iv)(n p:Nat)(hx:x.gX)(ha:x.all=false)(h0:n=0)(ib:8<=p)(gW:p<=512):gQ 200 [ia x,iP n,iP p] (ia (my x n p)):=by
 have v1:=DO;exact ak call200 func200 (ae [.o 12 (.e (lq _):aj (.sl true 1 7 λi_ j_=>(iE x).getD (i_*7+j_) (.v (.bool false))) (gY [x])),ag [gY [x]] (pF _ aD),ah 13 (!x.all) (by rw[ha];rfl),ag [iP p] (vP _),ah 17 (mC (p:Int)) (rO.2 ⟨aC,aC⟩),tF 22 ((n:Int)<0) aC,tF 26 (16<(n:Int)) aC,ah 30 ((n:Int)==0) (r9 h0),ag [iP 1] KW,.c (AA (Dy.mk false 1 0) aD)]<|rQ (ia (mg (Dy.mk false 1 0))) (ia (my x n p)) (by unfold my;rw[aY (by rw[ha];decide),aZ h0])) 
def Z9(x:Iv)(n p:Nat)(hx:x.gX)(ha:x.all=false)(h0:n≠0)(hn:n<=16)(he:n%2=0)(ib:8<=p)(gW:p<=512):gQ 200 [ia x,iP n,iP p] (ia (my x n p)):=by
 have va:=G7 hx;obtain⟨w1,w2⟩:=va.jW;exact ak call200 func200 (ae [.o 12 (.e (lq _):aj (.sl true 1 7 λi_ j_=>(iE x).getD (i_*7+j_) (.v (.bool false))) (gY [x])),ag [gY [x]] (pF _ aD),ah 13 (!x.all) (by rw[ha];rfl),ag [iP p] (vP _),ah 17 (mC (p:Int)) (rO.2 ⟨aC,aC⟩),tF 22 ((n:Int)<0) aC,tF 26 (16<(n:Int)) aC,ai 30 ((n:Int)==0) (ns h0),.a (aC:0<(2:Int)),.o 34 (aq (Int.tmod (n:Int) 2) ((n%2:Nat):Int) (by rw[amQ aC];omega)),ah 35 (((n%2:Nat):Int)==0) (r9 he),.c (Nf x aD),ag [gU ((jN x).lo),iP n,iP p,bP false] (Qf _ _ _ aD aC aC aC aC),ag [gU ((jN x).hi),iP n,iP p,bP true] (Qg _ _ _ aD aC aC aC aC),.c (Ca ((kU ((jN x).lo) n p false).1) ((kU ((jN x).hi) n p true).1) ((kU ((jN x).lo) n p false).2) ((kU ((jN x).hi) n p true).2))]<|rQ (ia (lr ((kU ((jN x).lo) n p false).1) ((kU ((jN x).lo) n p false).2) ((kU ((jN x).hi) n p true).1) ((kU ((jN x).hi) n p true).2))) (ia (my x n p)) (by unfold my uc;rw[aY (by rw[ha];decide),aY h0,aZ he])) 
def aaa(x:Iv)(n p:Nat)(hx:x.gX)(ha:x.all=false)(h0:n≠0)(hn:n<=16)(he:¬n%2=0)(ib:8<=p)(gW:p<=512):gQ 200 [ia x,iP n,iP p] (ia (my x n p)):=by
 have va:=hx;obtain⟨w1,w2⟩:=va.jW;exact ak call200 func200 (ae [.o 12 (.e (lq _):aj (.sl true 1 7 λi_ j_=>(iE x).getD (i_*7+j_) (.v (.bool false))) (gY [x])),ag [gY [x]] (pF _ aD),ah 13 (!x.all) (by rw[ha];rfl),ag [iP p] (vP _),ah 17 (mC (p:Int)) (rO.2 ⟨aC,aC⟩),tF 22 ((n:Int)<0) aC,tF 26 (16<(n:Int)) aC,ai 30 ((n:Int)==0) (ns h0),.a (aC:0<(2:Int)),.o 34 (aq (Int.tmod (n:Int) 2) ((n%2:Nat):Int) (by rw[amQ aC];omega)),ai 35 (((n%2:Nat):Int)==0) (ns he),ag [gU x.lo,iP n,iP p,bP false] (Qf _ _ _ aD aC aC aC aC),ag [gU x.hi,iP n,iP p,bP true] (Qg _ _ _ aD aC aC aC aC),.c (Ca ((kU x.lo n p false).1) ((kU x.hi n p true).1) ((kU x.lo n p false).2) ((kU x.hi n p true).2))]<|rQ (ia (lr ((kU x.lo n p false).1) ((kU x.lo n p false).2) ((kU x.hi n p true).1) ((kU x.hi n p true).2))) (ia (my x n p)) (by unfold my uc;rw[aY (by rw[ha];decide),aY h0,aY he])) 
def Hh(x:Iv)(n p:Nat)(hx:x.gX)(hn:n<=16)(ib:8<=p)(gW:p<=512):gQ 200 [ia x,iP (n:Int),iP (p:Int)] (ia (my x n p)):=by
 cases ha:x.all with
 |true=>exact Z8 x n p hx ha hn ib gW
 |false=>
  by_cases h0:n=0
  .exact aab x n p hx ha h0 ib gW
  .by_cases he:n%2=0
   .exact Z9 x n p hx ha h0 hn he ib gW
   .exact aaa x n p hx ha h0 hn he ib gW
def Qn(x y:Iv)(hx:x.gX)(hy:y.gX)(xa:x.all=false)(ya:y.all=false):gQ 139 [ia x,ia y] (ia (pP x y)):=by
 obtain⟨v1,v2⟩:=hx.jW;obtain⟨v3,v4⟩:=hy.jW;exact ak call139 func139 (ae [.o 7 (.e (yS _ _):aj (.sl true 2 7 λi_ j_=>(iE x++iE y).getD (i_*7+j_) (.v (.bool false))) (gY [x,y])),ag [gY [x,y]] (yR _ _ aD aD),ah 8 (!(x.all||y.all)) (by rw[xa,ya];rfl),.c (Jj x.lo y.lo aD aD),.c (Jk x.hi y.hi aD aD)]<|rQ (ia (Iv.mk (ja x.lo y.lo) (iW x.hi y.hi) false)) (ia (pP x y)) (by unfold pP;rw[xa,ya];rfl)) 
def Qx(z:Int):(z==0)=decide (z=0):=by by_cases h:z=0<;>simp[h]
def CW(x:Iv)(p:Nat)(hx:x.gX)(xa:x.all=false)(ib:8<=p)(gW:p<=512):gQ 141 [ia x,iP p] (.ie [gU (oq x p),bP (decide (ve x p=0))]):=by
 obtain⟨v1,v2⟩:=hx.jW;have v3:=yZ v1;exact ak call141 func141 (ae [.o 9 (.e (lq _):aj (.sl true 1 7 λi_ j_=>(iE x).getD (i_*7+j_) (.v (.bool false))) (gY [x])),ag [gY [x]] (pF _ aD),ah 10 (!x.all) (by rw[xa];rfl),ag [iP p] (vP _),ah 14 (mC (p:Int)) (rO.2 ⟨aC,aC⟩),ag [gU x.lo] (yi _ aD),.c (WQ x.hi (jl x.lo) p aD aD aC aC)]<|rQ (.ie [gU (jV (iI x.hi (jl x.lo)) p true),bP ((jL (iI x.hi (jl x.lo)) p true)==0)]) (.ie [gU (oq x p),bP (decide (ve x p=0))]) (by rw[Qx];rfl)) 
def Hf(x y:Iv):Az x y=(y.all||(!x.all&&(decide (iN y.lo x.lo<=0)&&decide (iN x.hi y.hi<=0)))):=rfl
def ZL(x y:Iv)(hx:x.gX)(hy:y.gX):gQ 106 [ia x,ia y] (bP (Az x y)):=by
 obtain⟨v1,v2⟩:=hx.jW;obtain⟨v3,v4⟩:=hy.jW;exact ak call106 func106 (ae [.c (qV x aD),.c (qV y aD)]<|.w (y.all=true)
  (λk1=>ae [tB 14 k1]<|rQ (bP true) (bP (Az x y)) (by rw[Hf];simp[k1]))
  (λk1=>ae [tB 14 (aV k1)]<|.w (x.all=true)
   (λk2=>ae [tB 17 k2]<|rQ (bP false) (bP (Az x y)) (by rw[Hf];simp[k1,k2]))
   (λk2=>ae [tB 17 (aV k2),ag [gU y.lo,gU x.lo] (kH _ _ aD aD)]<|.w ((iN y.lo x.lo)<=0)
    (λk3=>ae [tB 25 (a6 k3),ag [gU x.hi,gU y.hi] (kH _ _ aD aD)]<|rQ (bP (decide ((iN x.hi y.hi)<=0))) (bP (Az x y)) (by rw[Hf];simp[k1,k2,k3]))
    (λk3=>ae [tB 25 (a7 k3)]<|rQ (bP false) (bP (Az x y)) (by rw[Hf];simp[k1,k2,k3]))))) 
def alR{α:Type}{l:List α}{i:Nat}{d:α}(h:i<l.length):l.getD i d=l[i]:=by
 rw[bd,bt h];rfl
def Cc{T n n' k:Nat}{F:Nat->Iv}{y:Iv}(hn:n=k)(uF:n'=k+1)(hy:y=F k):
 Bx.le (.row true T (n+[y].length) 7 λi j=>if i<n then iF ((List.range k).map F) i j else(E.kE (gY [y])) (i-n) j) (.row true T n' 7 (iF ((List.range (k+1)).map F))):=by
 subst hn uF hy;refine .row rfl λi j hi hj=>⟨.iL ?_,tf _ _ hj⟩
 have hi:i<n+1:=hi;by_cases h:i<n
 .rw [aZ h];simp only[iF];rw[Oq h,Oq hi]
 .have mi:i=n:= aC ;subst mi;rw[aY h,cX];simp only[iF];rw[Oq hi];rfl
def VE{n:Nat}{M:List (List Iv)}(hn:n=M.length):E.le (.sl true n 1 (lV M)) (kK M):=by subst hn;exact .refl _
def DB{n:Nat}{M:List Iv}(hn:n=M.length):E.le (.sl true n 7 (iF M)) (gY M):=by subst hn;exact .refl _
def Co(n:Nat)(h:n<4294967296):(ji (n:Int)).gX:=uV (DA n h)
def abD(m:Nat)(e:Int):(canon false m e).neg=false:=by unfold canon;split<;>rfl
def afE{c:Nat}(hc:0<c):(iR (c:Int)).m≠0:=by
 rw[B7];exact(CY (s:=false) (e:=0) aC).2.2.1
def ahB{c:Nat}(hc:0<c):nh (ji (c:Int))=1:=by
 unfold nh ji mg;simp only[bB,bj];rw[aZ];unfold Dy.iJ;rw[aY (afE hc),show(iR (c:Int)).neg=false by rw[B7];exact abD _ _];simp
section
variable {m m':List (List Iv)} {h h':Iv} {n p:Nat}
def NV(j:Nat)(hj:j<4294967296):(ji (j:Int)).gX:=uV (DA j hj)
end
def Wq(c:Nat):(ji (c:Int)).lo.q=(c:Rat)/\(ji (c:Int)).hi.q=(c:Rat)/\(ji (c:Int)).all=false:=by
 refine⟨?_,?_,rfl⟩
 .show (iR _).q=_;rw[AO];exact dM c
 .show (iR _).q=_;rw[AO];exact dM c
def aiK(n:Nat)(hn:n<4294967296):gQ 56 [iP (n:Int)] (gU (canon false n 0)):=by
 refine⟨call56,λw B vs hK hB hr=>?_⟩;obtain⟨v1,vs,rfl,h1,hr⟩:=hr.nc;obtain rfl:=hr.rM;obtain rfl:=ix.ku h1;exact(aiJ n w hn).mono λe w' h=>rd B w e w' hB h
def OE(a b:Dy)(r:Bool)(hr:r=true↔a=b)(ha:(gR a.m).length<=100000)(hb:(gR b.m).length<=100000):gQ 14 [gU a,gU b] (bP r):=
 JP call14 (λA c A' c' w h k _=>aiF a b A A' c c' w _ h k ha hb hr) rv
end Go.Proofs.YtkdddbdjilcofaaGreatDoor
namespace Go.Proofs.YtkdddbdjilcofaaGreatDoor.Fp
end Go.Proofs.YtkdddbdjilcofaaGreatDoor.Fp
namespace Go.Proofs.YtkdddbdjilcofaaGreatDoor
open Go.RowKit Fp Pu
def aiM(d:Dy)(k:Int)(hd:d.gX)(nX:-32768<=k)(vE:k<=32768)(hr:mv (canon d.neg d.m (d.e+k))):gQ 55 [gU d,iP k] (.ie [gU (canon d.neg d.m (d.e+k)),iP 0]):=by
 refine⟨call55,λw B vs hK hB Fu=>?_⟩;obtain⟨v1,vs,rfl,h1,Fu⟩:=Fu.nc;obtain⟨v2,vs,rfl,h2,Fu⟩:=Fu.nc;obtain rfl:=Fu.rM;obtain⟨A,c,rfl,s1⟩:=Ic h1;obtain rfl:=ix.ku h2;have:=aiN d.neg A c (gR d.m) d.e k w s1 hd.xq nX vE (by rw[jY];exact hr);rw[jY]at this;exact this.mono λe w' h=>Gm B w e w' hB h
def QN{n:Int}{e:Int}:canon (iR n).neg (iR n).m ((iR n).e+e)=jS n e:=by
 unfold iR jS;by_cases h:n.natAbs=0
 .rw [h,Ew,Ew];show canon false 0 _=_;rw[Ew]
 .have h1:=EM h;rw[show canon (decide (n<0)) n.natAbs 0=⟨decide (n<0),n.natAbs/2^jj n.natAbs,0+(jj n.natAbs:Int)⟩by unfold canon;rw[aY h]];show canon (decide (n<0)) (n.natAbs/2^jj n.natAbs) (0+(jj n.natAbs:Int)+e)=_;rw[<-Lb _ _ _ (jj n.natAbs),h1];congr 1;omega
def Bl{n e:Int}(h1:n.natAbs<4294967296)(h2:-1000<=e)(h3:e<=1000):(jS n e).gX:=by
 refine⟨ri _ _ _,?_⟩;unfold jS;by_cases h0:n.natAbs=0
 .rw [h0,Ew];exact .inl rfl
 .have:=CY (s:=decide (n<0)) (e:=e) h0;have hb:gZ n.natAbs<=32:=lR.2 h1;obtain⟨h4,h5,h6,_⟩:=this;have:=nM h6;exact .inr ⟨aC,aC,aC,aC⟩
def sE{n:Int}(h1:n.natAbs<4294967296):(iR n).gX:=Bl h1 aE aE 
def aiH(k:Nat)(w:World)(h0:0<k)(hn:k<4294967296):
 Calls prog 56 #[.int .i64 (-(k:Int))] w (xV w (canon true k 0)):=by
 have hm:=El k aC;have vG:(k:Int)%4294967296=k:= aC ;rw[vG]at hm;have hd:(k:Int)/4294967296=0:= aC ;have im:(-(k:Int))<0:= aC ;have Mn:decide ((-(k:Int))<0)=true:=a6 im;have hu:IntKind.u64.wrap (-(k:Int))=18446744073709551616-k:=by rw[IntKind.wrap_u64];omega
 have hs:IntKind.u64.wrap (-(18446744073709551616-(k:Int)))=k:=by rw[IntKind.wrap_u64];omega
 have HC:=amW (λ(A:Option Addr) c w (h:Sl w A c [k,0])=>OF true A c [k,0] 0 w h aH aE aE);have hv:val [k,0]=k:= aH ;rw[hv]at HC;clear hv;generalize canon true k 0=d at *
 generalize hN:(-(k:Int))=N at *
 go_enter func56,ntmps56;go_wp2_with fail;refine(HC.out _ _ _ (Sl.Kn _ _ aH _ _ k 0 rfl rfl hn aE)).mono ?_;rintro r w1 ⟨A1,c1,rfl,uI,iO⟩;have jt:iB (w.alloc (.cells #[.bool false,.slice none 0 0,.int .i64 0] 31)) w1:=(iB.alloc _ _).trans iO;have bx:=(je.new w false none 0 0 0).ext jt;have b0:=bx.c0;have b1:=bx.c1;have b2:=bx.c2;have f0:=bx.fr 0;have f1:=bx.fr 1;have f2:=bx.fr 2;go_wp2;exact yl rfl rfl rfl (bx.set _ _ _ _ _) rfl (bx.re uI _ _ _ _ _) (je.qF ((iB.alloc _ _).trans jt) (bc _) _ _ _ _ _)
def UD(k:Nat)(h0:0<k):iR (-(k:Int))=canon true k 0:=by
 unfold iR jS;rw[a6 (show(-(k:Int))<0 by omega),amx,fQ]
def aiI(n:Int)(h:n.natAbs<4294967296):gQ 56 [iP n] (gU (iR n)):=by
 by_cases h0:0<=n
 .obtain ⟨k,rfl⟩:=eF h0;rw[B7];exact aiK k aC 
 .obtain ⟨k,rfl⟩:∃ k:Nat,n = -(k:Int):=⟨n.natAbs,aC⟩
  rw[UD k aC];refine⟨call56,λw B vs hK hB hr=>?_⟩;obtain⟨v1,vs,rfl,h1,hr⟩:=hr.nc;obtain rfl:=hr.rM;obtain rfl:=ix.ku h1;exact(aiH k w aC aC).mono λe w' h=>rd B w e w' hB h
open Classical in
noncomputable def Fp.tv(d:Dy)(k:Int):Dy:=if mv (canon d.neg d.m (d.e+k))then canon d.neg d.m (d.e+k)else il
open Classical in
noncomputable def Fp.CB(d:Dy)(k:Int):Int:=if mv (canon d.neg d.m (d.e+k))then 0 else 9
def Xq(d:Dy)(k:Int):(tv d k).gX:=by
 unfold tv;split
 .rename_i h;exact⟨ri _ _ _,h⟩
 .exact rf
noncomputable def Fp.lF(x:Iv)(k:Int):Iv:=if x.all then gT else lr (tv x.lo k) (CB x.lo k) (tv x.hi k) (CB x.hi k)
def Fp.qK(x:Iv):Iv:=if x.all then x else⟨jl (kt x),kt x,false⟩
def Fp.pI(n:Int):Dy:=canon false 1 n
def vU{n:Int}(h:n.natAbs<4294967296):(ji n).gX:=uV (sE h)
def CS{x:Iv}(hx:x.gX):(qK x).gX:=by
 unfold qK;cases kJ:x.all
 .have he:=hx.jW;have hm:=FR he.1 he.2;simp only[bB,bj];refine .inr ⟨rfl,yZ hm,hm,?_⟩;show iN (jl (kt x)) (kt x)<=0;rw[oO,qD];obtain⟨a1,a2,_⟩:=Ch hx.q;have:=hx.q
  grind
 .exact hx
def ajt{d:Dy}{k:Int}(h:CB d k=0):tv d k=canon d.neg d.m (d.e+k):=by
 unfold CB at h;unfold tv;split at h
 .rename_i h1;rw[aZ h1]
 .cases h
def AV{d:Dy}{k:Int}(h:CB d k=0):(tv d k).q=d.q*P2 k:=by
 rw[ajt h,qC,pQ d,pV];cases d.neg<;>simp<;>grind
def Gv{x:Iv}(hx:x.gX)(k:Int):(lF x k).gX:=by
 unfold lF;split
 .exact lG
 .unfold lr;split
  .exact lG
  .rename_i h;refine .inr ⟨rfl,Xq _ _,Xq _ _,?_⟩;rw[oO,AV aC,AV aC,uQ];exact hx.q
def OV{x:Iv}{r:Rat}(h:x.jO r)(k:Int):(lF x k).jO (r*P2 k):=by
 unfold lF;split
 .exact .inl rfl
 .rename_i ha;unfold lr;split
  .exact .inl rfl
  .obtain ⟨h1,h2⟩:=h.jW (by simpa using ha);refine .inr ⟨?_,?_⟩
   .show (tv x.lo k).q<=_;rw[AV aC,uQ];exact h1
   .show _<=(tv x.hi k).q;rw[AV aC,uQ];exact h2
def acM(k:Nat)(w:World)(h0:0<k)(hn:k<4294967296)(ki:Tb w):
 Calls prog 74 #[.int .i64 (-(k:Int))] w (xV w (canon true k 0)):=by
 have hd:(k:Int)/4294967296=0:= aC ;have im:(-(k:Int))<0:= aC ;have Mn:decide ((-(k:Int))<0)=true:=a6 im;have hu:IntKind.u64.wrap (-(k:Int))=18446744073709551616-k:=by rw[IntKind.wrap_u64];omega
 have hs:IntKind.u64.wrap (-(18446744073709551616-(k:Int)))=k:=by rw[IntKind.wrap_u64];omega
 have IA:IntKind.u32.wrap (k:Int)=k:=by rw[IntKind.wrap_u32];omega
 have ht:(iz [k,0]).length<=256:=by have:=pj [k,0];unfold mr at this;simp at this;omega
 have HC:=amW (λ(A:Option Addr) c w (h:Sl w A c [k,0]) (hT:Tb w)=>Ib true A c [k,0] 0 w h aH ht aE aE hT);have hv:val [k,0]=k:= aH ;rw[hv]at HC;clear hv ht;generalize canon true k 0=d at *
 generalize hN:(-(k:Int))=N at *
 go_enter func74,ntmps74;go_wp2_with fail;refine(HC.out _ _ _ (Sl.Kn _ _ aH _ _ k 0 rfl rfl hn aE) (ki.below (by first|exact(iB.alloc _ _).trans (iB.alloc _ _)|exact iB.alloc _ _))).mono ?_;rintro r w1 ⟨A1,c1,rfl,uI,iO⟩;have jt:iB (w.alloc (.cells #[.bool false,.slice none 0 0,.int .i64 0] 31)) w1:=(iB.alloc _ _).trans iO;have bx:=(je.new w false none 0 0 0).ext jt;have b0:=bx.c0;have b1:=bx.c1;have b2:=bx.c2;have f0:=bx.fr 0;have f1:=bx.fr 1;have f2:=bx.fr 2;go_wp2;exact yl rfl rfl rfl (bx.set _ _ _ _ _) rfl (bx.re uI _ _ _ _ _) (je.qF ((iB.alloc _ _).trans jt) (bc _) _ _ _ _ _)
def qL(n:Int)(h:n.natAbs<4294967296):gQ 74 [iP n] (gU (iR n)):=by
 by_cases h0:0<=n
 .obtain ⟨k,rfl⟩:=eF h0;exact Ep k aC 
 .obtain ⟨k,rfl⟩:∃ k:Nat,n = -(k:Int):=⟨n.natAbs,aC⟩
  rw[UD k aC];refine⟨call74,λw B vs hK hB hr=>?_⟩;obtain⟨v1,vs,rfl,h1,hr⟩:=hr.nc;obtain rfl:=hr.rM;obtain rfl:=ix.ku h1;exact(acM k w aC aC hK).mono λe w' h=>rd B w e w' hB h
def ajr(d:Dy)(k:Int):jm (canon d.neg d.m (d.e+k))=tv d k:=by unfold jm tv;split<;>simp_all
def ajs(d:Dy)(k:Int):kg (canon d.neg d.m (d.e+k))=CB d k:=by unfold kg CB;split<;>simp_all
def nW(a b:Nat):Nat->Nat×Nat
 | 0=>(a,b)
 |k+1=>((nW a b k).2,(nW a b k).1%(nW a b k).2)
def Lv(a b:Nat):∀ k,nW a b (k+1)=nW b (a%b) k
 | 0=>rfl
 |k+1=>by
  show((nW a b (k+1)).2,(nW a b (k+1)).1%(nW a b (k+1)).2)=_;rw[Lv a b k];rfl
def R8(a b:Nat):∀ k,Nat.gcd (nW a b k).1 (nW a b k).2=Nat.gcd a b
 | 0=>rfl
 |k+1=>by
  show Nat.gcd (nW a b k).2 ((nW a b k).1%(nW a b k).2)=_;rw[<-R8 a b k];exact(Nat.gcd_comm _ _).trans ((Nat.gcd_rec _ _).symm.trans (Nat.gcd_comm _ _))
def ac5:∀ (b a:Nat),∃ N,(∀ k,k<N->(nW a b k).2≠0)/\(nW a b N).2=0:=by
 intro b
 induction b using Nat.strongRecOn with
 |ind b ih=>
  intro a;by_cases h:b=0
  .exact ⟨0,λk hk=>absurd hk (bk k),h⟩
  .obtain ⟨N,h1,h2⟩:=ih (a%b) (bF a (dL h)) b;refine⟨N+1,λk hk=>?_,by rw[Lv];exact h2⟩;rcases k with _|k
   .exact h
   .rw [Lv];exact h1 k aC 
def qE(n d:Int)(p:Nat):Iv:=if pB n d then lr (oW (iR n) (iR d) p false) (qn (iR n) (iR d) p false) (oW (iR n) (iR d) p true) (qn (iR n) (iR d) p true)else gT
def UC{d:Int}(h:d≠0):(iR d).m≠0:=by
 intro q;have hq:=AO d;rw[pQ,q]at hq;have e:(d:Rat)=0:=by
  rw[<-hq];split<;>simp
 rw[show(0:Rat)=((0:Int):Rat)from rfl,Rat.intCast_inj]at e;exact h e
def RF{a b:Dy}(b0:b.m≠0){p:Nat}(hp:1<=p)(gW:p<=4096)(up:Bool):(oW a b p up).gX:=by
 unfold oW;split
 .exact rf
 .exact sV _ _ _ _ _ _ hp gW
def OS(n d:Int){p:Nat}(hp:1<=p)(gW:p<=4096):(qE n d p).gX:=by
 unfold qE;split
 .rename_i h;obtain⟨r1,_⟩:=Ot h;have d0:(iR d).m≠0:=UC aC;unfold lr;split
  .exact lG
  .rename_i he;obtain⟨A,B⟩:=RA (a:=iR n) d0 hp gW;refine .inr ⟨rfl,RF d0 hp gW _,RF d0 hp gW _,?_⟩;rw[oO];exact bI (A.1 aC).2 (B.1 aC).2
 .exact lG
def SX(a b:Nat)(x:Nat):PS:=⟨12,true,[(0,.e (.v (.int .u64 (((nW a b x).1:Nat):Int)))),(1,.e (.v (.int .u64 (((nW a b x).2:Nat):Int))))],[]⟩
def adX(a b N:Nat)(ha:a<18446744073709551616)(hb:b<18446744073709551616)(jG:∀ k,k<N->(nW a b k).2≠0)(hN:(nW a b N).2=0):gQ 156 [.v (.int .u64 (a:Int)),.v (.int .u64 (b:Int))] (.v (.int .u64 (((nW a b N).1:Nat):Int))):=
 ak call156 func156 (af [.s (Sp.jE (SX a b) 0 N aC (λx hx mn=>by
    have jt:=jG x aC;exact iA (ae [ah 6 ((((nW a b x).2:Nat):Int) != 0) (ahk (jG x aC)),.a (aC:0<((((nW a b x).2:Nat):Int):Int))]<|.e (af [.o 0 (.int aO:aj (.v (.int .u64 (((nW a b x).2:Nat):Int))) (.v (.int .u64 (((nW a b (x+1)).1:Nat):Int)))),.o 1 (.int aO:aj (.v (.int .u64 ((((nW a b x).1)%((nW a b x).2):Nat):Int))) (.v (.int .u64 (((nW a b (x+1)).2:Nat):Int))))])) aF)
  (λhx=>by
    exact iA (af [ai 6 ((((nW a b N).2:Nat):Int) != 0) (ahj hN)]) aF) aI:jB 1 f156 (SX a b 0) (.exit 0) ⟨12,true,[(0,.e (.v (.int .u64 (((nW a b N).1:Nat):Int))))],[]⟩) (af [.o 0 (.int aO:aj (.v (.int .u64 (a:Int))) (.v (.int .u64 (((nW a b 0).1:Nat):Int)))),.o 1 (.int aO:aj (.v (.int .u64 (b:Int))) (.v (.int .u64 (((nW a b 0).2:Nat):Int))))])]) 
def adY(a b:Nat)(ha:a<18446744073709551616)(hb:b<18446744073709551616):gQ 156 [.v (.int .u64 (a:Int)),.v (.int .u64 (b:Int))] (.v (.int .u64 (Nat.gcd a b:Int))):=by
 obtain⟨N,h1,h2⟩:=ac5 b a;have hg:=R8 a b N;rw[h2,Nat.gcd_zero_right]at hg;rw[<-hg];exact adX a b N ha hb h1 h2
def aj1(m:Nat)(h:m<=1073741824):gQ 157 [iP m] (.v (.int .u64 (m:Int))):=
 ak call157 func157 (af [tF 4 ((m:Int)<0) aC,.o 9 (.int (sd _ aC):aj (.v (.int .u64 (IntKind.u64.wrap (m:Int)))) (.v (.int .u64 (m:Int))))]) 
def aj0(m:Nat)(h0:0<m)(h:m<=1073741824):gQ 157 [iP (-(m:Int))] (.v (.int .u64 (m:Int))):=
 ak call157 func157 (af [tT 4 ((-(m:Int))<0) aC,ij (0-(-(m:Int))) aC,.o 6 (aq (0-(-(m:Int))) m aC),.o 7 (.int (sd _ aC):aj (.v (.int .u64 (IntKind.u64.wrap (m:Int)))) (.v (.int .u64 (m:Int))))]) 
def X5(n:Int)(h1:-1073741824<=n)(h2:n<=1073741824):gQ 157 [iP n] (.v (.int .u64 (n.natAbs:Int))):=by
 by_cases h:0<=n
 .obtain ⟨m,rfl⟩:=eF h;exact aj1 m aC 
 .obtain ⟨m,rfl⟩:∃ m:Nat,n = -(m:Int):=⟨n.natAbs,aC⟩
  rw[amx,fQ];exact aj0 m aC aC 
def F8(g:Nat):((g:Int)==1)=decide (g=1):=by
 by_cases h:g=1
 .subst h;rfl
 .rw [a7 h];exact aT aC 
def JU(n d:Int):gQ 110 [.agg [iP n,iP d]] (bP (pB n d)):=
 ak call110 func110 (.w (1<=d)
  (λk1=>ae [tB 5 (a6 k1)]<|.w (d<=1073741824)
   (λk2=>ae [tB 9 (a6 k2)]<|.w ((-1073741824)<=n)
    (λk3=>ae [tB 14 (a6 k3)]<|.w (n<=1073741824)
     (λk4=>ae [tB 19 (a6 k4),ag [iP n] (X5 _ aC aC),ag [iP d] (X5 _ aC aC),.c (adY (Int.natAbs n) (Int.natAbs d) aC aC)]<|rQ (bP ((Nat.gcd (Int.natAbs n) (Int.natAbs d):Int)==1)) (bP (pB n d)) (by unfold pB;simp[F8,k1,k2,k3,k4]))
     (λk4=>ae [tB 19 (a7 k4)]<|rQ (bP false) (bP (pB n d)) (by unfold pB;simp[F8,k1,k2,k3,k4])))
    (λk3=>ae [tB 14 (a7 k3)]<|rQ (bP false) (bP (pB n d)) (by unfold pB;simp[F8,k1,k2,k3])))
   (λk2=>ae [tB 9 (a7 k2)]<|rQ (bP false) (bP (pB n d)) (by unfold pB;simp[F8,k1,k2])))
  (λk1=>ae [tB 5 (a7 k1)]<|rQ (bP false) (bP (pB n d)) (by unfold pB;simp[F8,k1]))) 
def Vx{lo hi:Dy}{e f:Int}(h:e≠0\/f≠0):lr lo e hi f=gT:=aZ h
def agQ{lo hi:Dy}{e f:Int}(h:e=0)(k:f=0):lr lo e hi f=⟨lo,hi,false⟩:=aY (by rw[h,k];decide)
def WM(n d:Int)(p:Nat)(h:pB n d=true)(ib:8<=p)(gW:p<=512):gQ 119 [.agg [iP n,iP d],iP p] (ia (qE n d p)):=by
 obtain⟨r1,r2,r3,r4⟩:=Ot h;have v1:=sE (n:=n) aC;have v2:=sE (n:=d) aC;have d0:(iR d).m≠0:=UC aC;exact ak call119 func119 (ae [.c (JU n d),ai 11 (!(pB n d)) (by rw[h];rfl),ag [iP n] (qL _ aC),ag [iP d] (qL _ aC),.c (WS (iR n) (iR d) p aD aD aD aC aC),ag [iP n] (qL _ aC),ag [iP d] (qL _ aC),.c (WT (iR n) (iR d) p aD aD aD aC aC)]<|.w ((qn (iR n) (iR d) p false)=0)
  (λk1=>ae [tB 36 (aW k1)]<|.w ((qn (iR n) (iR d) p true)=0)
   (λk2=>ae [tB 39 (aW k2)]<|rQ (ia (Iv.mk (oW (iR n) (iR d) p false) (oW (iR n) (iR d) p true) false)) (ia (qE n d p)) (by unfold qE;rw[aZ h,agQ k1 k2]))
   (λk2=>ae [tB 39 (aX k2),.o 41 (.e KA:aj (.agg [bP false,.v (.slice none 0 0),iP 0,bP false,.v (.slice none 0 0),iP 0,bP true]) (ia gT))]<|rQ (ia gT) (ia (qE n d p)) (by unfold qE;rw[aZ h,Vx (.inr k2)])))
  (λk1=>ae [tB 36 (aX k1),.o 41 (.e KA:aj (.agg [bP false,.v (.slice none 0 0),iP 0,bP false,.v (.slice none 0 0),iP 0,bP true]) (ia gT))]<|rQ (ia gT) (ia (qE n d p)) (by unfold qE;rw[aZ h,Vx (.inl k1)]))) 
noncomputable def um(x:Iv)(p:Nat):Iv:=@dite Iv (∃ y:Iv,y.gX/\gQ 201 [ia x,iP (p:Int)] (ia y)) (Classical.propDecidable _) Classical.choose (λ_=>gT)
def LG(x:Iv)(p:Nat):(um x p).gX:=by
 unfold um;split
 .rename_i h;exact(cK h).1
 .exact lG
def Si(x:Iv)(hx:x.gX)(p:Nat)(ib:8<=p)(gW:p<=512)(hF:ue):gQ 201 [ia x,iP (p:Int)] (ia (um x p)):=by
 have h:∃ y:Iv,y.gX/\gQ 201 [ia x,iP (p:Int)] (ia y):=(hF x p hx ib gW).1;unfold um;rw[fo h];exact(cK h).2
noncomputable def uq(x:Iv)(p:Nat):Iv:=@dite Iv (∃ y:Iv,y.gX/\gQ 203 [ia x,iP (p:Int)] (ia y)) (Classical.propDecidable _) Classical.choose (λ_=>gT)
def LH(x:Iv)(p:Nat):(uq x p).gX:=by
 unfold uq;split
 .rename_i h;exact(cK h).1
 .exact lG
def Sj(x:Iv)(hx:x.gX)(p:Nat)(ib:8<=p)(gW:p<=512)(hF:ue):gQ 203 [ia x,iP (p:Int)] (ia (uq x p)):=by
 have h:∃ y:Iv,y.gX/\gQ 203 [ia x,iP (p:Int)] (ia y):=(hF x p hx ib gW).2.1;unfold uq;rw[fo h];exact(cK h).2
noncomputable def ur(x:Iv)(p:Nat):Iv:=@dite Iv (∃ y:Iv,y.gX/\gQ 204 [ia x,iP (p:Int)] (ia y)) (Classical.propDecidable _) Classical.choose (λ_=>gT)
def Sm(x:Iv)(p:Nat):(ur x p).gX:=by
 unfold ur;split
 .rename_i h;exact(cK h).1
 .exact lG
def Sk(x:Iv)(hx:x.gX)(p:Nat)(ib:8<=p)(gW:p<=512)(hF:ue):gQ 204 [ia x,iP (p:Int)] (ia (ur x p)):=by
 have h:∃ y:Iv,y.gX/\gQ 204 [ia x,iP (p:Int)] (ia y):=(hF x p hx ib gW).2.2.1;unfold ur;rw[fo h];exact(cK h).2
noncomputable def uk(x:Iv)(p:Nat):Iv:=@dite Iv (∃ y:Iv,y.gX/\gQ 205 [ia x,iP (p:Int)] (ia y)) (Classical.propDecidable _) Classical.choose (λ_=>gT)
def Sh(x:Iv)(p:Nat):(uk x p).gX:=by
 unfold uk;split
 .rename_i h;exact(cK h).1
 .exact lG
def Sg(x:Iv)(hx:x.gX)(p:Nat)(ib:8<=p)(gW:p<=512)(hF:ue):gQ 205 [ia x,iP (p:Int)] (ia (uk x p)):=by
 have h:∃ y:Iv,y.gX/\gQ 205 [ia x,iP (p:Int)] (ia y):=(hF x p hx ib gW).2.2.2.1;unfold uk;rw[fo h];exact(cK h).2
noncomputable def oX(x:Iv)(p:Nat):Iv:=@dite Iv (∃ y:Iv,y.gX/\gQ 208 [ia x,iP (p:Int)] (ia y)) (Classical.propDecidable _) Classical.choose (λ_=>gT)
def EW(x:Iv)(p:Nat):(oX x p).gX:=by
 unfold oX;split
 .rename_i h;exact(cK h).1
 .exact lG
def Sn(x:Iv)(hx:x.gX)(p:Nat)(ib:8<=p)(gW:p<=512)(hF:ue):gQ 208 [ia x,iP (p:Int)] (ia (oX x p)):=by
 have h:∃ y:Iv,y.gX/\gQ 208 [ia x,iP (p:Int)] (ia y):=(hF x p hx ib gW).2.2.2.2;unfold oX;rw[fo h];exact(cK h).2
def xk(o:mF):Bool:=decide (o.kind<=6)
noncomputable def mz(o:mF)(x y:Iv)(p:Nat):Iv:=
 if o.kind=3 then jC x y p else if o.kind=4 then rD x y p else if o.kind=5 then iy x y p else if o.kind=6 then jh x y p
 else if o.kind=7 then pz x else if o.kind=8 then my x o.n p else if o.kind=9 then um x p else if o.kind=10 then uq x p
 else if o.kind=11 then ur x p else if o.kind=12 then uk x p else if o.kind=13 then oX x p else gT
noncomputable def xj(o:mF)(l:List Iv)(p:Nat):Iv:=if o.kind=1 then qE o.cn o.cd p else mz o (l.getD o.a gT) (if xk o then l.getD o.b gT else gT) p
noncomputable def jF(gS:List mF)(xs:List Iv)(p:Nat):Nat->List Iv
 | 0=>xs
 |k+1=>jF gS xs p k++[xj (gS.getD k iw) (jF gS xs p k) p]
noncomputable def ke(t:pn)(xs:List Iv)(p:Nat):List Iv:=t.iu.map λk=>(jF t.gS xs p t.gS.length).getD k gT
noncomputable def kS(s:jz)(x:List Iv)(h:Dy)(b:List Iv)(p:Nat):List Iv:=
 if qp (ke s.tape (b++s.params) p)then[]else if qp (yN x (ke s.tape (b++s.params) p) h p)then[]else yN x (ke s.tape (b++s.params) p) h p
noncomputable def rZ(s:jz)(x:List Iv)(h:Dy)(b:List Iv)(p:Nat):Bool:=!(kS s x h b p).isEmpty&&(uK x b&&uK (kS s x h b p) b)
def Pp(gS:List mF)(xs:List Iv)(p:Nat):∀ k,(jF gS xs p k).length=xs.length+k
 | 0=>rfl
 |k+1=>by simp only[jF,cA,Pp gS xs p k,cM,amo];omega
def Zs(o:mF){x y:Iv}(hx:x.gX)(hy:y.gX){p:Nat}(hp:1<=p)(gW:p<=4096):(mz o x y p).gX:=by
 unfold mz;split
 .exact qJ hx hy hp gW
 split
 .exact qJ hx (Cl hy) hp gW
 split
 .exact nY _ _ hp gW
 split
 .exact pX _ _ hp gW
 split
 .exact Cl hx
 split
 .exact WL hx _ hp gW
 split
 .exact LG _ _
 split
 .exact LH _ _
 split
 .exact Sm _ _
 split
 .exact Sh _ _
 split
 .exact EW _ _
 .exact lG
def Zu(o:mF){l:List Iv}(hl:lQ l){p:Nat}(hp:1<=p)(gW:p<=4096):(xj o l p).gX:=by
 unfold xj;split
 .exact OS _ _ hp gW
 .exact Zs o (hl _) (by split;exact hl _;exact lG) hp gW
def Kw(gS:List mF){xs:List Iv}(h:lQ xs){p:Nat}(hp:1<=p)(gW:p<=4096):∀ k,lQ (jF gS xs p k)
 | 0=>h
 |k+1=>(Kw gS h hp gW k).push (Zu _ (Kw gS h hp gW k) hp gW)
def Sr(t:pn){xs:List Iv}(h:lQ xs){p:Nat}(hp:1<=p)(gW:p<=4096):lQ (ke t xs p):=λi=>by
 unfold ke;rw[bd,cr];cases t.iu[i]? with
 |none=>exact lG
 |some k=>exact Kw t.gS h hp gW _ _
def Iq(t:pn)(xs:List Iv)(p:Nat):(ke t xs p).length=t.iu.length:=by simp[ke]
def M7{s:jz}{x b:List Iv}{h:Dy}{p n:Nat}(hx:kf n x)(hp:1<=p)(gW:p<=4096)(jf:kS s x h b p≠[]):kf n (kS s x h b p):=by
 unfold kS at jf ⊢;split at jf
 .exact absurd rfl jf
 .rename_i h1;rw[aY h1];split at jf
  .exact absurd rfl jf
  .rename_i h2;rw[aY h2];exact⟨by rw[Ji,hx.len],aeU (by simpa using h2) (afx hx.ok.Po hp gW)⟩
def aci:jj 1=0:= aL 
def QO(e:Int):canon false 1 e=⟨false,1,e⟩:=by
 unfold canon;rw[aY aE,aci];simp
def jy(k:Int):Dy:=⟨false,1,k⟩
def Ph{k:Int}(h1:-100<=k)(h2:k<=100):mv (jy k):=.inr ⟨by show gZ 1<=4096;rw[xm];decide,by show -16384<=k;omega,by show k<=16384;omega,by show(gZ 1:Int)+k<=16384;rw[xm];omega⟩
def GI{k:Int}(h1:-100<=k)(h2:k<=100):(jy k).gX:=⟨by have:=ri false 1 k;rwa[QO]at this,Ph h1 h2⟩
def Pj(k:Int):¬(jy k).iJ<0:=by
 rw[(rB _).2,pQ];show ¬(if false=true then _ else((1:Nat):Rat)*P2 k)<0;rw[aY aE];have:=mW k
 grind
def X2{d:Dy}(h:¬d.iJ<0):0<=d.q:=by
 rw[(rB d).2]at h
 grind
noncomputable def rF(s:jz)(x:List Iv)(h:Dy)(p:Nat)(k:Int):Bool:=rm x (jy k)&&rZ s x h (rI x (jy k)) p
def zh(d:Dy):Dy:=jm (canon d.neg d.m (d.e + -3))
def OW(d:Dy):Int:=kg (canon d.neg d.m (d.e + -3))
def rT(x:List Iv)(p:Nat):Dy:=if GO x p then nv x p x.length else il
noncomputable def k0(s:jz)(x:List Iv)(h:Dy)(b:List Iv)(p:Nat):List Iv:=
 if kS s x h b p=[]then[]else
 if GO (mT x (kS s x h b p)) p=false\/(rT (mT x (kS s x h b p)) p).iJ=0 then mT x (kS s x h b p)else
 if OW (rT (mT x (kS s x h b p)) p)≠0 then mT x (kS s x h b p)else
 if rm (mT x (kS s x h b p)) (zh (rT (mT x (kS s x h b p)) p))then rI (mT x (kS s x h b p)) (zh (rT (mT x (kS s x h b p)) p))else mT x (kS s x h b p)
noncomputable def kW(s:jz)(x:List Iv)(h:Dy)(p:Nat):Nat->List Iv
 | 0=>x
 |j+1=>k0 s x h (kW s x h p j) p
def Xs(d:Dy):(zh d).gX:=EA (ri _ _ _)
def Xr{d:Dy}(h:0<=d.q):0<=(zh d).q:=by
 unfold zh jm;split
 .rw [qC];rw[pQ]at h;have p1:=mW d.e;have p2:=mW (d.e + -3);have m0:(0:Rat)<=(d.m:Rat):=by exact_mod_cast bV d.m
  split
  .rename_i hn;rw[aZ hn]at h;have hm:(d.m:Rat)*P2 d.e=0:=by
    have:=bQ m0 (bG p1)
    grind
   have BK:(d.m:Rat)=0:=by
    rcases Rat.mul_eq_zero.1 hm with q|q
    .exact q
    .grind
   rw[BK]
   grind
  .exact bQ m0 (bG p2)
 .rw [tp];exact b6
def YR(x:List Iv)(p:Nat):∀ k,0<=(nv x p k).q
 | 0=>by show 0<=il.q;rw[tp];exact b6
 |k+1=>by
  have ih:=YR x p k;show 0<=(if 0<iN (oq (x.getD k gT) p) (nv x p k)then oq (x.getD k gT) p else nv x p k).q;split
  .rename_i h;have:¬iN (oq (x.getD k gT) p) (nv x p k)<=0:= aC ;rw[oO]at this
   grind
  .exact ih
def YS(x:List Iv)(p:Nat):0<=(rT x p).q:=by
 unfold rT;split
 .exact YR x p _
 .rw [tp];exact b6
def aij{d:Dy}(h:0<=d.q):¬d.iJ<0:=by
 rw[(rB d).2]
 grind
def CI{s:jz}{x b:List Iv}{h:Dy}{p n:Nat}(hx:kf n x)(hp:1<=p)(gW:p<=4096)(jf:k0 s x h b p≠[]):kf n (k0 s x h b p):=by
 unfold k0 at jf ⊢;split at jf
 .exact absurd rfl jf
 .rename_i h1;rw[aY h1];have hh:=Uf hx (M7 hx hp gW h1);split
  .exact hh
  .split
   .exact hh
   .split
    .rename_i hg;exact LX hh (Xs _) (Xr (YS _ _)) hg
    .exact hh
end Go.Proofs.YtkdddbdjilcofaaGreatDoor
