/- Texts: Pz Cv Cz Ja Jb Uc Um Ul Ur Us Ua Ut Uv Kn Kq Te Tf Dg Tg Dh Ud Tk Uq Uw Ux Uy Uz Va Px Iz Mo Ma Mb Zb Ba. -/
import Derived.Test.YtdgnpeddgdclhaaGreatDoorM02
import Derived.Deep.Slices
import Derived.Carry
import Derived.Scope
set_option linter.unusedSimpArgs false
set_option linter.unusedVariables false
set_option maxHeartbeats 4000000
namespace Go.Proofs.YtdgnpeddgdclhaaGreatDoor
open Go.RowKit Fp Pu
structure RD where
 neg:Bool
 L:List Nat
 e:Int
structure RI where
 lo:RD
 hi:RD
 all:Bool
def yj(d:RD):List E:=[bP d.neg,ah d.L,iP d.e]
def cO(d:RD):E:=.agg (yj d)
def lH(x:RI):List E:=[bP x.lo.neg,ah x.lo.L,iP x.lo.e,bP x.hi.neg,ah x.hi.L,iP x.hi.e,bP x.all]
def fE(x:RI):E:=.agg (lH x)
def pC:RD:=⟨false,[],0⟩
def aR:RI:=⟨pC,pC,true⟩
def bI(l:List RI):E:=.sl true l.length 7 fun i j=>(lH (l.getD i aR)).getD j .any
structure RD.Good(d:RD):Prop where
 ok:ay d.L
 lo:-9223372036854775808<=d.e
 hi:d.e<=9223372036854775807
structure RI.Good(x:RI):Prop where
 lo:x.lo.Good
 hi:x.hi.Good
theorem FA:pC.Good:=⟨ay.nil,by decide,by decide⟩
theorem ux:aR.Good:=⟨FA,FA⟩
def RD.dy(d:RD):Dy:=⟨d.neg,val d.L,d.e⟩
def RD.Ok(d:RD):Prop:=dL d.neg d.L d.e
def RD.Zero(d:RD):Prop:=d.neg=false/\d.L=[]/\d.e=0
def RI.iv(x:RI):Iv:=⟨x.lo.dy,x.hi.dy,x.all⟩
def RI.Ok(x:RI):Prop:=(x.all=true/\x.lo.Zero/\x.hi.Zero)\/(x.all=false/\x.lo.Ok/\x.hi.Ok/\aD x.lo.dy x.hi.dy<=0)
def Fp.Dy.raw(d:Dy):RD:=⟨d.neg,af d.m,d.e⟩
def Fp.Iv.raw(x:Iv):RI:=⟨x.lo.raw,x.hi.raw,x.all⟩
theorem RD.Ok.valid{d:RD}(h:d.Ok):d.dy.Valid:=h.2.2
theorem RD.Ok.eq{d:RD}(h:d.Ok)(g:d.Good):d.dy.raw=d:=by
 obtain⟨n,L,e⟩:=d;show RD.mk n (af (val L)) e=_;rw[<-dL.oL h g.ok]
theorem RD.Zero.eq{d:RD}(h:d.Zero):d.dy=aT/\d.dy.raw=d:=by
 obtain⟨n,L,e⟩:=d;obtain⟨rfl,rfl,rfl⟩:=h;refine⟨rfl,?_⟩;show RD.mk false (af 0) 0=_;rw[dP]
theorem RI.Ok.valid{x:RI}(h:x.Ok):x.iv.Valid:=by
 rcases h with⟨h1,h2,h3⟩|⟨h1,h2,h3,h4⟩
 .exact .inl ⟨h1,h2.eq.1,h3.eq.1⟩
 .exact .inr ⟨h1,h2.valid,h3.valid,h4⟩
theorem RI.Ok.eq{x:RI}(h:x.Ok)(g:x.Good):x.iv.raw=x:=by
 obtain⟨lo,hi,a⟩:=x;rcases h with⟨h1,h2,h3⟩|⟨h1,h2,h3,h4⟩
 .show RI.mk lo.dy.raw hi.dy.raw a=_
  rw[h2.eq.2,h3.eq.2]
 .show RI.mk lo.dy.raw hi.dy.raw a=_
  rw[h2.eq g.lo,h3.eq g.hi]
theorem Fp.Dy.yh(d:Dy):d.raw.dy=d:=by show Dy.mk d.neg (val (af d.m)) d.e=d;rw[bc]
theorem sP(d:Dy):cO d.raw=ag d:=rfl
theorem qw(x:Iv):fE x.raw=ai x:=rfl
theorem Fp.Dy.Valid.tf{d:Dy}(h:d.Valid):d.raw.Good:=⟨cA _,by have:=h.exp;show -9223372036854775808<=d.e;omega,by have:=h.exp;show d.e<=9223372036854775807;omega⟩
theorem Fp.Dy.Valid.tS{d:Dy}(h:d.Valid):d.raw.Ok:=h.jl
theorem Fp.Iv.Valid.tS{x:Iv}(h:x.Valid):x.raw.Ok:=by
 rcases h with⟨h1,h2,h3⟩|⟨h1,h2,h3,h4⟩
 .refine .inl ⟨h1,?_,?_⟩
  .show x.lo.raw.Zero;rw[h2];exact⟨rfl,dP,rfl⟩
  .show x.hi.raw.Zero;rw[h3];exact⟨rfl,dP,rfl⟩
 .refine .inr ⟨h1,h2.tS,h3.tS,?_⟩
  show aD x.lo.raw.dy x.hi.raw.dy<=0;rw[Dy.yh,Dy.yh];exact h4
theorem Fp.Iv.Valid.ends{x:Iv}(h:x.Valid):x.lo.Valid/\x.hi.Valid:=by
 rcases h with⟨_,h2,h3⟩|⟨_,h2,h3,_⟩
 .rw [h2,h3];exact⟨gL,gL⟩
 .exact ⟨h2,h3⟩
theorem Fp.Iv.Valid.tf{x:Iv}(h:x.Valid):x.raw.Good:=⟨h.ends.1.tf,h.ends.2.tf⟩
theorem Tw:aj.raw=aR:=by
 show RI.mk aT.raw aT.raw true=RI.mk pC pC true;have:aT.raw=pC:=by show RD.mk false (af 0) 0=_;rw[dP];rfl
 rw[this]
def nS(l:List Iv):List RI:=l.map Iv.raw
theorem MA(l:List Iv)(i:Nat):(nS l).getD i aR=(l.getD i aj).raw:=by
 unfold nS;rw[List.getD_eq_getElem?_getD,List.getD_eq_getElem?_getD,List.getElem?_map];cases l[i]? with
 | none=>exact Tw.symm
 | some x=>rfl
theorem Da(l:List Iv):bI (nS l)=an l:=by
 unfold bI an;rw[show(nS l).length=l.length by simp[nS]];congr 1;funext i j;rw[MA];rfl
def zQ(m:List (List RI)):Prop:=∀ r,r ∈ m->∀ x,x ∈ r->x.Good
theorem zQ.at{m:List (List RI)}(h:zQ m)(i j:Nat):((m.getD i []).getD j aR).Good:=by
 by_cases hi:i<m.length
 .rw [List.getD_eq_getElem?_getD (l:=m),List.getElem?_eq_getElem hi]
  show(m[i].getD j aR).Good;by_cases hj:j<m[i].length
  .rw [List.getD_eq_getElem?_getD,List.getElem?_eq_getElem hj]
   exact h _ (List.getElem_mem hi) _ (List.getElem_mem hj)
  .rw [List.getD_eq_getElem?_getD,List.getElem?_eq_none (by omega)];exact ux
 .rw [List.getD_eq_getElem?_getD (l:=m),List.getElem?_eq_none (by omega)]
  exact ux
theorem nm(d:RD)(g:d.Good)(b:Bool)(hb:b=true↔d.Ok):ae 68 [cO d] (bP b):=by
 refine⟨Tryz.call68,fun w B vs hK hB hr=>?_⟩;obtain⟨v1,vs,rfl,h1,hr⟩:=hr.cK;obtain rfl:=hr.fB;obtain⟨us,rfl,q⟩:=ax.ot (show ax _ _ w (.agg _) v1 from h1);obtain⟨u1,us,rfl,k1,q⟩:=q.cK;obtain⟨u2,us,rfl,k2,q⟩:=q.cK;obtain⟨u3,us,rfl,k3,q⟩:=q.cK;obtain rfl:=q.fB;obtain rfl:=ax.bQ k1;obtain rfl:=ax.bQ k3;obtain⟨A,c,rfl,hs⟩:=jZ g.ok k2
 exact(np d.neg A c d.L d.e w b hs g.lo g.hi hb).mono fun e w' h=>rv B w e w' hB h
theorem rp(d:RD)(g:d.Good)(b:Bool)(hb:b=true↔d.Ok):ae 46 [cO d] (bP b):=by
 refine⟨Tryz.call46,fun w B vs hK hB hr=>?_⟩;obtain⟨v1,vs,rfl,h1,hr⟩:=hr.cK;obtain rfl:=hr.fB;obtain⟨us,rfl,q⟩:=ax.ot (show ax _ _ w (.agg _) v1 from h1);obtain⟨u1,us,rfl,k1,q⟩:=q.cK;obtain⟨u2,us,rfl,k2,q⟩:=q.cK;obtain⟨u3,us,rfl,k3,q⟩:=q.cK;obtain rfl:=q.fB;obtain rfl:=ax.bQ k1;obtain rfl:=ax.bQ k3;obtain⟨A,c,rfl,hs⟩:=jZ g.ok k2
 exact(uj d.neg A c d.L d.e w b hs g.lo g.hi hb).mono fun e w' h=>rv B w e w' hB h
theorem nJ{a b:Nat}(h:a=b):(((a:Nat):Int) != ((b:Nat):Int))=false:=by simp[h]
theorem xy{a b:Nat}(h:a=b):(((a:Nat):Int)==((b:Nat):Int))=true:=by simp[h]
open Classical in
noncomputable def okB(x:RI):Bool:=decide x.Ok
theorem gV{x:RI}:okB x=true↔x.Ok:=by unfold okB;simp
open Classical in
open Go.ChangeShapes Go.WideShapes Go.ChangeAt Go.RowKit Fp Pu
abbrev dk:Nat->Prop:=fun _=>False
theorem J5{W:World}{a:Addr}{v:Value}(h:W.cell? a=some v):a.spot=none:=by
 obtain⟨b,o,s⟩:=a;rcases s with _|q
 .rfl
 .exfalso
  unfold World.cell? at h;split at h<;>simp at h
theorem yz{W:World}{a:Addr}{len cap sz:Nat}{nl:Bool}(el:Nat->Nat->E)(hl:len<=cap)(hm:cap<=maxLen)(hsz:0<sz)
  (h1:∀ i j,i<len->j<sz->(el i j).one=true/\(nl=true->(el i j).dv=true)/\(el i j).nr 2=true)
  (hx:∀ i,i<len->∃ cs,W.cells? 0 (a.add (i*sz)) sz=some cs/\∀ j,j<sz->∃ v,cs[j]? = some v/\ax dk dk W (el i j) v) :
  ax dk dk W (.sl nl len sz el) (.slice (some a) len cap):=by
 have hm':cap<=9223372036854775807:=by simpa[maxLen]using hm
 have cellAt:∀ i j,i<len->j<sz->∃ v,W.cell? (a.add (i*sz+j))=some v/\ax dk dk W (el i j) v:=by
  intro i j hi hj;obtain⟨cs,h2,h3⟩:=hx i hi;obtain⟨v,h4,h5⟩:=h3 j hj;refine⟨v,?_,h5⟩;rw[<-Deep.add_add,(World.cells?_some h2).2.2 j hj,h4]
 by_cases h0:len=0
 .subst h0
  exact .sl nl 0 sz el _ cap (fun _ _=>.bool false) (by omega) hm' (fun h=>by cases h) (fun i j hi=>absurd hi (by omega)) (fun i j hi=>absurd hi (by omega)) (fun i j hi=>absurd hi (by omega)) (fun i j hi=>absurd hi (by omega))
 .obtain ⟨b,o,s⟩:=a
  have hs:s=none:=by
   obtain⟨v,h2,_⟩:=cellAt 0 0 (by omega) hsz;rw[Nat.zero_mul,Nat.zero_add,show(⟨b,o,s⟩:Addr).add 0=⟨b,o,s⟩from rfl]at h2;exact J5 h2
  subst hs;have cell2:∀ i j,∃ v:Value,i<len->j<sz->W.cell? ⟨b,o+(i*sz+j),none⟩=some v/\ax dk dk W (el i j) v:=by
   intro i j;by_cases hi:i<len
   .by_cases hj:j<sz
    .obtain ⟨v,h2,h3⟩:=cellAt i j hi hj
     rw[na]at h2;exact⟨v,fun _ _=>⟨h2,h3⟩⟩
    .exact ⟨.bool false,fun _ h=>absurd h hj⟩
   .exact ⟨.bool false,fun h=>absurd h hi⟩
  let f:Nat->Nat->Value:=fun i j=>Classical.choose (cell2 i j)
  have hf:∀ i j,i<len->j<sz->W.cell? ⟨b,o+(i*sz+j),none⟩=some (f i j)/\ax dk dk W (el i j) (f i j):=fun i j=>Classical.choose_spec (cell2 i j)
  refine .sl nl len sz el _ cap f hl hm' (fun h=>by cases h) (fun i j hi hj=>?_) (fun i j hi hj=>(h1 i j hi hj).2.2) (fun i j hi hj=>?_) (fun i j hi hj=>(hf i j hi hj).2)
  .exact ⟨(hf i j hi hj).2.one (h1 i j hi hj).1,fun q=>(hf i j hi hj).2.dv ((h1 i j hi hj).2.1 q)⟩
  .exact ⟨b,o,rfl,id,block_lt_of_cell (hf i j hi hj).1,(hf i j hi hj).1⟩
def zO(W:World)(d:RD)(cs:List Value):Prop:=d.Good/\cs.length=3/\∀ j,j<3->∃ v,cs[j]? = some v/\ax dk dk W ((yj d).getD j .any) v
def u5(W:World)(x:RI)(cs:List Value):Prop:=x.Good/\cs.length=7/\∀ j,j<7->∃ v,cs[j]? = some v/\ax dk dk W ((lH x).getD j .any) v
section
variable {H:Type} {enc:TypeId×Value->H} {W:World} {fuel:Nat} {cs:List Value} {x:DataW H×List MemPlace}
theorem xO(h:DataW.trod enc Tryz.prog W 0 (fun _=>true) true fuel 31 cs=some x)(hlt:∀ p ∈ x.2,p.block<W.heap.size):∃ d,zO W d cs:=by
 obtain⟨s,A,L,cap,e,rfl,hsl,h1,h2⟩:=Pw h hlt;refine⟨⟨s,L,e⟩,⟨hsl.ok,h1,h2⟩,rfl,fun j hj=>?_⟩;rcases j with _|_|_|j
 .exact ⟨_,rfl,.v _⟩
 .exact ⟨_,rfl,mS (w:=W) (fun _ h=>h.elim) (.refl _) hsl⟩
 .exact ⟨_,rfl,.v _⟩
 .omega
theorem PA(h:DataW.trod enc Tryz.prog W 0 (fun _=>true) true fuel 41 cs=some x)(hlt:∀ p ∈ x.2,p.block<W.heap.size):∃ d,u5 W d cs:=by
 obtain⟨xs,n,rfl,rfl,hl,hxl,hf⟩:=DataW.trod_struct Tryz.underlying41 h;have hC:Tryz.prog.cellsOf 41=7:=by kernel_rfl
 have hD:Tryz.prog.cellsOf 31=3:=by kernel_rfl
 have hB:Tryz.prog.cellsOf 4=1:=by kernel_rfl
 rw[hC]at hl;obtain⟨c0,c1,c2,c3,c4,c5,c6,rfl⟩:=OD hl;have h0:=hf 0 _ rfl;have h1:=hf 1 _ rfl;have h2:=hf 2 _ rfl;simp only[List.getElem_toArray,List.getElem_cons_zero,List.getElem_cons_succ]at h0 h1 h2;simp only[hD,hB,List.drop_zero,List.drop_succ_cons,List.take_succ_cons,List.take_zero]at h0 h1 h2;rw[List.getElem?_eq_getElem (by rw[hxl];decide)]at h0 h1 h2
 obtain⟨lo,g1,_,k1⟩:=xO h0 (fun p hp=>hlt p (List.mem_flatMap.2 ⟨_,List.getElem_mem _,hp⟩));obtain⟨hi,g2,_,k2⟩:=xO h1 (fun p hp=>hlt p (List.mem_flatMap.2 ⟨_,List.getElem_mem _,hp⟩));obtain⟨al,e2,_⟩:=DataW.trod_bool Tryz.underlying4 h2;simp at e2;subst e2;refine⟨⟨lo,hi,al⟩,⟨g1,g2⟩,rfl,fun j hj=>?_⟩;rcases j with _|_|_|_|_|_|_|j
 .exact k1 0 (by decide)
 .exact k1 1 (by decide)
 .exact k1 2 (by decide)
 .exact k2 0 (by decide)
 .exact k2 1 (by decide)
 .exact k2 2 (by decide)
 .exact ⟨_,rfl,.v _⟩
 .omega
theorem Rj(x:RI)(j:Nat)(hj:j<7):((lH x).getD j .any).one=true/\(((lH x).getD j .any).dv=true)/\((lH x).getD j .any).nr 2=true:=by
 rcases j with _|_|_|_|_|_|_|j
 all_goals first|exact⟨rfl,rfl,rfl⟩|omega
theorem Ek(h:DataW.trod enc Tryz.prog W 0 (fun _=>true) true fuel 26 cs=some x)(hlt:∀ p ∈ x.2,p.block<W.heap.size) :
  ∃ l v,cs=[v]/\(∀ y,y ∈ l->y.Good)/\ax dk dk W (bI l) v:=by
 have hC:Tryz.prog.cellsOf 41=7:=by kernel_rfl
 rcases Deep.open_slice Tryz.underlying26 h with⟨rfl,_⟩|⟨a,len,cap,m,n,D,Pl,rfl,hb,hl,hm,hmm,rfl,hx⟩
 .exact ⟨[],_,rfl,(fun y hy=>by cases hy),.sl true 0 7 _ none 0 (fun _ _=>.bool false) (Nat.le_refl _) (by decide) (fun _=>rfl) (fun i j hi=>absurd hi (Nat.not_lt_zero i)) (fun i j hi=>absurd hi (Nat.not_lt_zero i)) (fun i j hi=>absurd hi (Nat.not_lt_zero i)) (fun i j hi=>absurd hi (Nat.not_lt_zero i))⟩
 .simp only[if_true]at hmm
  subst hmm;have ex:∀ i,∃ y:RI,i<len->∃ cs',W.cells? 0 (a.add (i*7)) 7=some cs'/\u5 W y cs':=by
   intro i;by_cases hi:i<len
   .obtain ⟨cs',h1,h2⟩:=hx i (by omega)
    rw[hC]at h1;obtain⟨y,hy⟩:=PA h2 (fun p hp=>hlt p (List.mem_append_right _ (List.mem_flatMap.2 ⟨i,List.mem_range.2 (by omega),hp⟩)));exact⟨y,fun _=>⟨cs',h1,hy⟩⟩
   .exact ⟨aR,fun h=>absurd h hi⟩
  let X:Nat->RI:=fun i=>Classical.choose (ex i)
  have hX:∀ i,i<len->∃ cs',W.cells? 0 (a.add (i*7)) 7=some cs'/\u5 W (X i) cs':=fun i=>Classical.choose_spec (ex i)
  have hlen:((List.range len).map X).length=len:=by simp
  refine⟨(List.range len).map X,_,rfl,?_,?_⟩
  .intro y hy
   obtain⟨i,hi,rfl⟩:=List.mem_map.1 hy;obtain⟨cs',_,h2⟩:=hX i (List.mem_range.1 hi);exact h2.1
  .have hget:∀ i,i<len->((List.range len).map X).getD i aR=X i:=by
    intro i hi;rw[List.getD_eq_getElem?_getD,List.getElem?_map,List.getElem?_range hi];rfl
   have:=yz (W:=W) (a:=a) (len:=len) (cap:=m) (nl:=true) (fun i j=>(lH (((List.range len).map X).getD i aR)).getD j .any) hl hm (show 0<7 by decide)
    (fun i j _ hj=>let⟨h1,h2,h3⟩:=Rj (((List.range len).map X).getD i aR) j hj;⟨h1,fun _=>h2,h3⟩)
    (fun i hi=>by
     obtain⟨cs',h1,h2,_,h3⟩:=hX i hi;exact⟨cs',h1,fun j hj=>by rw[hget i hi];exact h3 j hj⟩)
   unfold bI;rw[hlen];exact this
end
open Go.ChangeShapes Go.WideShapes Go.ChangeAt Go.RowKit Fp Pu
theorem M5{P:Program}{c:OpenClaim}(h:P.funcs.any Func.goes=false)(hs:c.start = .entering):false=c.goesBy P:=by
 have h1:∀ g:Nat,(P.funcs[g]?).any Func.goes=false:=by
  intro g;cases hg:P.funcs[g]? with
  | none=>rfl
  | some fn =>
   rw[Option.any_some];rw[Array.any_eq_false]at h;obtain⟨hl,he⟩:=Array.getElem?_eq_some_iff.1 hg;have:=h g hl;rw[he]at this;simpa using this
 have h2:∀ f,P.goes f=false:=by
  intro f;unfold Program.goes;rw[h,Bool.and_false,Bool.or_false,List.any_eq_false];intro g _;rw[h1 g];decide
 unfold OpenClaim.goesBy Program.goesAt Program.goesFrom;rw[hs];cases P.funcNamed c.func with
 | none=>rfl
 | some f=>simp[h2 f]
theorem Ml:Tryz.pinned.checked.prog.funcs.any Func.goes=false:=by kernel_rfl
def CW(k:IntKind)(l:List Int):E:=.sl true l.length 1 fun i _=>.v (.int k (l.getD i 0))
theorem GJ{k:IntKind}{z:Int}(h:(Lit.int k z).wf=true):bG k z:=by
 cases k<;>(simp[Lit.wf,IntKind.min,IntKind.max,IntKind.signed,IntKind.bits]at h;simp only[bG];omega)
theorem Px{H:Type}{enc:TypeId×Value->H}{W:World}{fuel:Nat}{cs:List Value}{x:DataW H×List MemPlace}{t e:TypeId}{k:IntKind}(hk:∀ z,gS (.int k z)=false)(ht:Tryz.prog.underlying t=some (.slice e))(he:Tryz.prog.underlying e=some (.int k))(hC:Tryz.prog.cellsOf e=1)
  (h:DataW.trod enc Tryz.prog W 0 (fun _=>true) true fuel t cs=some x):∃ l v,cs=[v]/\(∀ z,z ∈ l->bG k z)/\ax dk dk W (CW k l) v:=by
 rcases Deep.open_slice ht h with⟨rfl,_⟩|⟨a,len,cap,m,n,D,Pl,rfl,hb,hl,hm,hmm,rfl,hx⟩
 .exact ⟨[],_,rfl,(fun y hy=>by cases hy),.sl true 0 1 _ none 0 (fun _ _=>.bool false) (Nat.le_refl _) (by decide) (fun _=>rfl) (fun i j hi=>absurd hi (Nat.not_lt_zero i)) (fun i j hi=>absurd hi (Nat.not_lt_zero i)) (fun i j hi=>absurd hi (Nat.not_lt_zero i)) (fun i j hi=>absurd hi (Nat.not_lt_zero i))⟩
 .simp only[if_true]at hmm
  subst hmm;have ex:∀ i,∃ z:Int,i<len->W.cells? 0 (a.add (i*1)) 1=some [.int k z]/\bG k z:=by
   intro i;by_cases hi:i<len
   .obtain ⟨cs',h1,h2⟩:=hx i (by omega)
    rw[hC]at h1;obtain⟨z,hz,_,hw⟩:=DataW.trod_int he h2;subst hz;exact⟨z,fun _=>⟨h1,GJ hw⟩⟩
   .exact ⟨0,fun h=>absurd h hi⟩
  let X:Nat->Int:=fun i=>Classical.choose (ex i)
  have hX:∀ i,i<len->W.cells? 0 (a.add (i*1)) 1=some [.int k (X i)]/\bG k (X i):=fun i=>Classical.choose_spec (ex i)
  have hlen:((List.range len).map X).length=len:=by simp
  refine⟨(List.range len).map X,_,rfl,?_,?_⟩
  .intro r hr
   obtain⟨i,hi,rfl⟩:=List.mem_map.1 hr;exact(hX i (List.mem_range.1 hi)).2
  .have hget:∀ i,i<len->((List.range len).map X).getD i 0=X i:=by
    intro i hi;rw[List.getD_eq_getElem?_getD,List.getElem?_map,List.getElem?_range hi];rfl
   have:=yz (W:=W) (a:=a) (len:=len) (cap:=m) (nl:=true) (fun i _=>.v (.int k (((List.range len).map X).getD i 0))) hl hm (show 0<1 by decide)
    (fun i j _ hj=>⟨rfl,fun _=>by show(!gS _)=true;rw[hk];rfl,rfl⟩)
    (fun i hi=>by
     refine⟨[.int k (X i)],(hX i hi).1,fun j hj=>?_⟩;obtain rfl:j=0:=by omega
     exact⟨_,rfl,by rw[hget i hi];exact .v _⟩)
   unfold CW;rw[hlen];exact this
end Go.Proofs.YtdgnpeddgdclhaaGreatDoor
namespace Go.Proofs.YtdgnpeddgdclhaaGreatDoor.Pu
open Go.RowKit
inductive R where
 | nil
 | bad
 | a (p:Prop) (r:R)
 | w (p:Prop) (r1:p->R) (r2:¬p->R)
def R.ok:R->Prop
 | .nil=>True
 | .bad=>False
 | .a p r=>p/\r.ok
 | .w p r1 r2=>(∀ h:p,(r1 h).ok)/\(∀ h:¬p,(r2 h).ok)
inductive Tr(P:Program)(K:World->Prop) where
 | nil
 | c {f:FuncId} {args:List E} {res:E} (h:PC P K f args res) (t:Tr P K)
 | cf {f:FuncId} {args:List E} {res:E} (h:oi P K f args res) (t:Tr P K)
 | cn {f:FuncId} {args:List E} {nl:Bool} {T:TypeId} {n sz:Nat} {el:Nat->Nat->E} (h:ji P K f args nl T n sz el) (t:Tr P K)
 | g {op:BinOp} {ty:TypeId} {x y:E} {v:Value} (h:eJ P op ty x y v) (t:Tr P K)
 | o (d:Nat) {p q:PV} (h:PV.le p q) (t:Tr P K)
 | bo (t:Tr P K)
 | a {p:Prop} (h:p) (t:Tr P K)
 | w (p:Prop) (t1:p->Tr P K) (t2:¬p->Tr P K)
 | s {c:Code} {σ τ:PS} {e:Ex} (h:Sp P K c σ (fun e' τ'=>e'=e/\τ'=τ)) (l t:Tr P K)
 | j (c:Nat) (τ:PS) (tj t:Tr P K)
 | v (d:Nat) {p q:PV} (h:PV.le p q) (t:Tr P K)
 | b (d:Nat) {p q:Bx} (h:Bx.le p q) (t:Tr P K)
 | z (id:Nat) (t:Tr P K)
 | y (s id:Nat) (nl:Bool) (T:TypeId) (sz:Nat) (el:Nat->Nat->E) (t:Tr P K)
 | e (t:Tr P K)
 | k (ts bs:List Nat) (t:Tr P K)
 | u (n:Nat) (t:Tr P K)
 | x (h:False)
 | r {p q:E} (h:E.le p q)
 | rb {p q:Bx} (h:Bx.le p q)
section
variable {P:Program} {K:World->Prop}
def pI:List (Nat×PV)->Tr P K->(Tr P K->R)->R
 | [],t,k=>k t
 | (d,q)::l,t,k=>match t with
  | .o d' (p:=p) (q:=q') _ t'=>if Nat.beq d' d then .a (PV.le p q') (pI l t' k)else .a (PV.le q q) (pI l t k)
  | t=>.a (PV.le q q) (pI l t k)
def oB:List (Nat×Bx)->Tr P K->R->R
 | [],_,r=>r
 | (d,q)::l,t,r=>match t with
  | .b d' (p:=p) (q:=q') _ t'=>if Nat.beq d' d then .a (Bx.le p q') (oB l t' r)else .a (Bx.le q q) (oB l t r)
  | t=>.a (Bx.le q q) (oB l t r)
def pF(σ:PS)(t:Tr P K)(r:R):R:=pI σ.t t fun t=>oB σ.b t r
def Tr.ex:Tr P K->(Tr P K->R)->R
 | .nil,fin=>fin .nil
 | .e t,fin=>fin t
 | @Tr.c _ _ f args res _ t,fin=>.a (PC P K f args res) (t.ex fin)
 | @Tr.cf _ _ f args res _ t,fin=>.a (oi P K f args res) (t.ex fin)
 | @Tr.cn _ _ f args nl T n sz el _ t,fin=>.a (ji P K f args nl T n sz el) (t.ex fin)
 | @Tr.g _ _ op₁ ty₁ xe₁ ye₁ ve₁ _ t,fin=>.a (eJ P op₁ ty₁ xe₁ ye₁ ve₁) (t.ex fin)
 | .o _ (p:=p) (q:=q) _ t,fin=>.a (PV.le p q) (t.ex fin)
 | .bo t,fin=>.a True (t.ex fin)
 | .a (p:=p) _ t,fin=>.a p (t.ex fin)
 | .w p t1 t2,fin=>.w p (fun h=>(t1 h).ex fin) (fun h=>(t2 h).ex fin)
 | @Tr.s _ _ c₁ σ τ e₁ _ l t,fin=>pF σ l (.a (Sp P K c₁ σ (fun e' τ'=>e'=e₁/\τ'=τ)) (t.ex fin))
 | .j _ τ tj t,fin=>.a (tj.ex fun t=>pF τ t .nil).ok (t.ex fin)
 | .v _ (p:=p) (q:=q) _ t,fin=>.a (PV.le p q) (t.ex fin)
 | .b _ _ t,fin=>t.ex fin
 | .z _ t,fin=>t.ex fin
 | .y _ _ _ _ _ _ t,fin=>t.ex fin
 | .k _ _ t,fin=>t.ex fin
 | .u _ t,fin=>t.ex fin
 | .x _,fin=>.a False .nil
 | .r (p:=p) (q:=q) _,fin=>.a (E.le p q) .nil
 | .rb (p:=p) (q:=q) _,fin=>.a (Bx.le p q) .nil
theorem SK{l:List (Nat×PV)}{t:Tr P K}{k:Tr P K->R}(hk:∀ t,(k t).ok):(pI l t k).ok:=by
 induction l generalizing t with
 | nil=>exact hk t
 | cons x l ih =>
  obtain⟨d,q⟩:=x;cases t with
  | o d' h t' =>
   simp only[pI];split
   .exact ⟨h,ih⟩
   .exact ⟨PV.le.refl q,ih⟩
  | _=>exact⟨PV.le.refl q,ih⟩
theorem Ib{l:List (Nat×Bx)}{t:Tr P K}{r:R}(hr:r.ok):(oB l t r).ok:=by
 induction l generalizing t with
 | nil=>exact hr
 | cons x l ih =>
  obtain⟨d,q⟩:=x;cases t with
  | b d' h t' =>
   simp only[oB];split
   .exact ⟨h,ih⟩
   .exact ⟨Bx.le.refl q,ih⟩
  | _=>exact⟨Bx.le.refl q,ih⟩
theorem yX{σ:PS}{t:Tr P K}{r:R}(hr:r.ok):(pF σ t r).ok:=SK fun _=>Ib hr
theorem Tr.wG{fin:Tr P K->R}(hf:∀ t,(fin t).ok)(t:Tr P K):(t.ex fin).ok:=by
 induction t generalizing fin with
 | nil=>exact hf _
 | e t=>exact hf _
 | c h t ih=>exact⟨h,ih hf⟩
 | cf h t ih=>exact⟨h,ih hf⟩
 | cn h t ih=>exact⟨h,ih hf⟩
 | g h t ih=>exact⟨h,ih hf⟩
 | o d h t ih=>exact⟨h,ih hf⟩
 | bo t ih=>exact⟨trivial,ih hf⟩
 | a h t ih=>exact⟨h,ih hf⟩
 | w p t1 t2 ih1 ih2=>exact⟨fun h=>ih1 h hf,fun h=>ih2 h hf⟩
 | s h l t ihl iht=>exact yX ⟨h,iht hf⟩
 | j c τ tj t ihj iht=>exact⟨ihj fun _=>yX trivial,iht hf⟩
 | v d h t ih=>exact⟨h,ih hf⟩
 | b d h t ih=>exact ih hf
 | z id t ih=>exact ih hf
 | y s id nl T sz el t ih=>exact ih hf
 | k ts bs t ih=>exact ih hf
 | u n t ih=>exact ih hf
 | x h=>exact h.elim
 | r h=>exact⟨h,trivial⟩
 | rb h=>exact⟨h,trivial⟩
def y8(υ:PS):List (Nat×PV)->R->R
 | [],r=>r
 | (d,q)::l,r=>.a (PV.le (υ.get d) q) (y8 υ l r)
def sw(υ:PS):List (Nat×Bx)->R->R
 | [],r=>r
 | (d,q)::l,r=>match υ.bo d with
  | some b=>.a (Bx.le b q) (sw υ l r)
  | none=>.bad
def uE(υ σ:PS)(r:R):R:=if Nat.beq υ.n σ.n&&(σ.b.all (fun x=>x.2.nl)||(σ.nl==υ.nl))&&px σ then y8 υ σ.t (sw υ σ.b r)else .bad
def Tr.tail:Tr P K->Tr P K
 | .c _ t=>t
 | .cf _ t=>t
 | .cn _ t=>t
 | .g _ t=>t
 | .bo t=>t
 | .a _ t=>t
 | _=>.nil
def xI:List Prop->Tr P K->(Tr P K->R)->R
 | [],t,k=>k t
 | p::l,t,k=>.a p (xI l t.tail k)
def Bn(d:Option Tmp)(t:Tr P K):eu:=match d with
 | some d=>match t with
  | @Tr.c _ _ _ _ res _ _=>{ cl:=[(d,res)] }
  | @Tr.cf _ _ _ _ res _ _=>{ cl:=[(d,res)] }
  | @Tr.g _ _ _ _ _ _ ve₁ _ _=>{ cl:=[(d,.v ve₁)] }
  | @Tr.cn _ _ _ _ nl T n sz el _ _=>{ nw:=[(d,.row nl T n sz el)] }
  | .bo _=>{ nw:=[(d,.cells 0 [])] }
  | _=>{}
 | none=>{}
def qZ:Tr P K->(Tr P K->R)->R
 | .w p t1 t2,k=>.w p (fun h=>qZ (t1 h) k) (fun h=>qZ (t2 h) k)
 | .x _,_=>.a False .nil
 | t,k=>k t
def xS(o:Oper)(u:Out)(t:Tr P K)(k:Out->Tr P K->R):R:=match o.dst,t with
 | some d,.o d' (q:=q) _ t'=>if Nat.beq d' d then .a (PV.le u.r q) (k { u with r:=q,aM:=PV.le u.r q::u.aM } t')else k u t
 | _,t=>k u t
def xN(T:List TI)(ops:Array Oper)(σ:PS)(o:Oper)(t:Tr P K)(k:Out->Tr P K->R):R :=
 if jv σ o.dst then match lP ops σ o with
  | some false=>k { r:=.e (.v (.tuple #[])),rd:=(looks ops o).map σ.get } t
  | some true=>qZ t fun t=>match aS P K T (Bn o.dst t) σ o with
   | some u=>xI u.aM t fun t=>qZ t fun t=>xS o u t fun u t=>k { u with rd:=(looks ops o).map σ.get } t
   | none=>.bad
  | none=>.bad
 else .bad
def xQ(T:List TI)(ops:Array Oper)(k:List (Oper×Out)->PS->Tr P K->R):List Oper->List (Oper×Out)->PS->Tr P K->R
 | [],us,σ,t=>k us σ t
 | o::l,us,σ,t=>xN T ops σ o t fun u t'=>xQ T ops k l ((o,u)::us) (σ.app o.dst u) t'
def gj(c:Bool):Tr P K->PS->(Tr P K->PS->R)->R
 | .w p t1 t2,σ,k=>.w p (fun h=>gj c (t1 h) σ k) (fun h=>gj c (t2 h) σ k)
 | .x _,_,_=>.a False .nil
 | .v d (q:=q) _ t,σ,k=>match q with
  | .e x=>if jv σ (some d)then .a (PV.le (σ.get d) (.e x)) (gj c t (σ.put (some d) (.e x)) k)else .bad
  | _=>.bad
 | .k ts bs t,σ,k=>if c then k (.k ts bs t) σ else if px (σ.cut ts bs)then gj c t (σ.cut ts bs) k else .bad
 | .z id t,σ,k=>if c then k (.z id t) σ else match σ.bo id with
  | some b=>match b.as with
   | some e=>gj c t (σ.ky id e) k
   | none=>.bad
  | none=>.bad
 | .y s id nl T sz el t,σ,k=>if c then k (.y s id nl T sz el t) σ else match σ.bo id,σ.get s with
  | none,.e (.v (.slice none 0 0))=>if !σ.nl||nl then gj c t (σ.oq s id (.row nl T 0 sz el)) k else .bad
  | _,_=>.bad
 | t,σ,k=>k t σ
def yV(c:Code)(σ:PS)(t:Tr P K)(k:Ex->PS->Tr P K->R):R:=match t with
 | @Tr.s _ _ _ σ' τ e _ _ t=>uE σ σ' (.a (Sp P K c σ' (fun e' τ'=>e'=e/\τ'=τ)) (k e τ t))
 | _=>.bad
def Ex.same:Ex->Ex->Bool
 | .normal,.normal=>true
 | .ret,.ret=>true
 | .exit a,.exit b=>Nat.beq a b
 | _,_=>false
def qn(e:Ex)(τ:PS)(e':Ex)(υ:PS)(_:Tr P K):R:=if Ex.same e' e then uE υ τ .nil else .bad
def Kj:Operand->Nat
 | .tmp t=>2*t
 | _=>1
def jn(c:Nat)(g:PS->Tr P K->(Ex->PS->Tr P K->R)->R)(σ:PS)(t:Tr P K)(k:Ex->PS->Tr P K->R):R:=match t with
 | .j c' τ tj t'=>if Nat.beq c' c then .a (g σ tj (qn .normal τ)).ok (k .normal τ t')else g σ t k
 | t=>g σ t k
def GB(f:PS->Tr P K->(Ex->PS->Tr P K->R)->R):Nat->PS->Tr P K->(Ex->PS->Tr P K->R)->R
 | 0,_,_,_=>.bad
 | n+1,σ,t,k=>gj false t σ fun t σ=>f σ t fun e τ t=>match e with
  | .normal=>GB f n τ t k
  | e=>k e τ t
def jr(T:List TI):Code->PS->Tr P K->(Ex->PS->Tr P K->R)->R
 | .skip,σ,t,k=>k .normal σ t
 | .region _ ops d,σ,t,k=>xQ T ops (fun us τ t=>if !d||nP ops 0 us.reverse then k .normal τ t else .bad) ops.toList [] σ t
 | .seq a b,σ,t,k=>jr T a σ t fun e τ t=>match e with
  | .normal=>jr T b τ t k
  | e=>k e τ t
 | .cond c a b,σ,t,k=>gj true t σ fun t σ=>jn (Kj c) (fun σ t k=>gj true t σ fun t σ=>match σ.op c with
  | .e (.v (.bool true))=>jr T a σ t k
  | .e (.v (.bool false))=>jr T b σ t k
  | _=>.bad) σ t k
 | .block id b,σ,t,k=>gj true t σ fun t σ=>jn (2*id+1) (fun σ t k=>jr T b σ t fun e τ t=>match e with
  | .exit i=>if Nat.beq i id then k .normal τ t else k (.exit i) τ t
  | e=>k e τ t) σ t k
 | .exit id,σ,t,k=>gj false t σ fun t σ=>k (.exit id) σ t
 | .ret,σ,t,k=>gj false t σ fun t σ=>k .ret σ t
 | .loop b,σ,t,k=>gj false t σ fun t σ=>match t with
  | .u n t=>GB (jr T b) n σ t k
  | t=>yV (.loop b) σ t k
 | .label _,σ,t,k=>k .normal σ t
 | .scope b,σ,t,k=>jr T b σ t k
 | _,_,_,_=>.bad
theorem Er{t:Tr P K}{k:Tr P K->R}(h:(qZ t k).ok):∃ t',(k t').ok:=by
 induction t with
 | w p t1 t2 ih1 ih2 =>
  by_cases hp:p
  .exact ih1 hp (h.1 hp)
  .exact ih2 hp (h.2 hp)
 | x hf=>exact hf.elim
 | _=>exact⟨_,h⟩
theorem Po{l:List Prop}{t:Tr P K}{k:Tr P K->R}(h:(xI l t k).ok):(∀ q,q ∈ l->q)/\∃ t',(k t').ok:=by
 induction l generalizing t with
 | nil=>exact⟨fun q hq=>by simp at hq,t,h⟩
 | cons p l ih =>
  obtain⟨h1,h2⟩:=ih h.2;refine⟨fun q hq=>?_,h2⟩;rcases List.mem_cons.1 hq with hq|hq
  .subst hq;exact h.1
  .exact h1 q hq
variable {T:List TI} {ops:Array Oper} {σ:PS} {o:Oper}
theorem PH{O:eu}{u:Out}{t:Tr P K}{k:Out->Tr P K->R}(hO:O.ov=[])(hu:aS P K T O σ o=some u)(ho:∀ q,q ∈ u.aM->q)(h:(xS o u t k).ok) :
  ∃ O' u' t',iQ P K T O' σ o=some u'/\(∀ q,q ∈ u'.aM->q)/\(k u' t').ok:=by
 have plain:(k u t).ok->∃ O' u' t',iQ P K T O' σ o=some u'/\(∀ q,q ∈ u'.aM->q)/\(k u' t').ok:=by
  intro h;refine⟨O,u,t,?_,ho,h⟩;unfold iQ;rw[hu,hO];cases o.dst<;>rfl
 unfold xS at h;split at h
 .rename_i d d' p q hpq t' hd
  split at h
  .obtain ⟨h1,h2⟩:=h
   refine⟨⟨O.cl,[(d,q)],O.nw⟩,_,t',?_,fun x hx=>?_,h2⟩
   .unfold iQ
    have he:aS P K T ⟨O.cl,[(d,q)],O.nw⟩ σ o=aS P K T O σ o:=by cases O;rfl
    rw[he,hu,hd];simp[look]
   .rcases List.mem_cons.1 hx with hx|hx
    .subst hx;exact h1
    .exact ho x hx
  .exact plain h
 .exact plain h
theorem Ps{t:Tr P K}{k:Out->Tr P K->R}(h:(xN T ops σ o t k).ok):∃ u t',(∃ O,fJ P K T O ops σ o=some u)/\(∀ q,q ∈ u.aM->q)/\(k u t').ok:=by
 unfold xN at h;split at h
 .rename_i hi
  split at h
  .rename_i hw
   refine⟨_,t,⟨{},?_⟩,fun q hq=>by simp at hq,h⟩;unfold fJ;rw[if_pos hi,hw]
  .rename_i hw
   obtain⟨t1,h1⟩:=Er h;split at h1
   .rename_i u hu
    obtain⟨ho,t2,h2⟩:=Po h1;obtain⟨t2,h2⟩:=Er h2;obtain⟨O',u',t3,hu',ho',h3⟩:=PH (by
     unfold Bn;cases o.dst with
     | none=>rfl
     | some d=>cases t1<;>rfl) hu ho h2
    refine⟨{ u' with rd:=(looks ops o).map σ.get },t3,⟨O',?_⟩,ho',h3⟩;unfold fJ;rw[if_pos hi,hw,hu']
   .exact h1.elim
  .exact h.elim
 .exact h.elim
theorem PG{k:List (Oper×Out)->PS->Tr P K->R}{l:List Oper}{us:List (Oper×Out)}{t:Tr P K}(h:(xQ T ops k l us σ t).ok) :
  ∃ vs τ t',jj P K T ops vs σ τ/\vs.map (·.1)=l/\(∀ x,x ∈ vs->∀ q,q ∈ x.2.aM->q)/\(k (vs.reverse++us) τ t').ok:=by
 induction l generalizing us σ t with
 | nil=>exact⟨[],σ,t,gh.refl σ,rfl,fun x hx=>by simp at hx,h⟩
 | cons o l ih =>
  obtain⟨u,t1,h1,h2,h3⟩:=Ps h;obtain⟨vs,τ,t',k1,k2,k3,k4⟩:=ih h3;refine⟨(o,u)::vs,τ,t',⟨h1,k1⟩,by simp[k2],fun x hx=>?_,by simpa using k4⟩;rcases List.mem_cons.1 hx with hx|hx
  .subst hx;exact h2
  .exact k3 x hx
theorem PS.le.set{σ:PS}{d:Nat}{x:E}(hd:jv σ (some d)=true)(h:PV.le (σ.get d) (.e x)):PS.le σ (σ.put (some d) (.e x)):=fun w0 B a w L _ r=>by
 have hd':d<σ.n:=by simpa[jv,Nat.blt_eq]using hd
 refine⟨L,r.hd,by rw[PS.xv];exact r.hs,fun t=>?_,fun id b hb=>r.hb id b hb,r.hv,r.hn,r.hw,r.hi,r.he,r.hl⟩;rw[PS.wO];by_cases e:d=t
 .subst e;rw[if_pos rfl];exact h _ _ _ _ _ (r.ht d)
 .rw [if_neg e];exact r.ht t
theorem nQ{c:Bool}{t:Tr P K}{σ:PS}{k:Tr P K->PS->R}(h:(gj c t σ k).ok):∃ t' τ,PS.le σ τ/\(k t' τ).ok:=by
 induction t generalizing σ with
 | w p t1 t2 ih1 ih2 =>
  by_cases hp:p
  .exact ih1 hp (h.1 hp)
  .exact ih2 hp (h.2 hp)
 | k ts bs t ih =>
  simp only[gj]at h;split at h
  .exact ⟨_,σ,PS.le.refl σ,h⟩
  split at h
  .rename_i hr
   obtain⟨t',τ,h1,h2⟩:=ih h;exact⟨t',τ,(PS.le.cut ts bs hr).trans h1,h2⟩
  .exact h.elim
 | v d h0 t ih =>
  simp only[gj]at h;split at h
  .rename_i x
   split at h
   .rename_i hd
    obtain⟨t',τ,h1,h2⟩:=ih h.2;exact⟨t',τ,(PS.le.set hd h.1).trans h1,h2⟩
   .exact h.elim
  .exact h.elim
 | z id t ih =>
  simp only[gj]at h;split at h
  .exact ⟨_,σ,PS.le.refl σ,h⟩
  split at h
  .rename_i b hb
   split at h
   .rename_i e he
    obtain⟨t',τ,h1,h2⟩:=ih h;exact⟨t',τ,(PS.le.freeze id hb he).trans h1,h2⟩
   .exact h.elim
  .exact h.elim
 | y s id nl T sz el t ih =>
  simp only[gj]at h;split at h
  .exact ⟨_,σ,PS.le.refl σ,h⟩
  split at h
  .rename_i hb hg
   split at h
   .rename_i hn
    obtain⟨t',τ,h1,h2⟩:=ih h;exact⟨t',τ,(PS.le.Hm s id hb hg (fun e=>by rw[e]at hn;simpa using hn)).trans h1,h2⟩
   .exact h.elim
  .exact h.elim
 | x hf=>exact hf.elim
 | _=>exact⟨_,σ,PS.le.refl σ,h⟩
theorem SL{υ:PS}{l:List (Nat×PV)}{r:R}(h:(y8 υ l r).ok):kg υ l/\r.ok:=by
 induction l with
 | nil=>exact⟨trivial,h⟩
 | cons x l ih=>obtain⟨d,q⟩:=x;exact⟨⟨h.1,(ih h.2).1⟩,(ih h.2).2⟩
theorem IF{υ:PS}{l:List (Nat×Bx)}{r:R}(h:(sw υ l r).ok):jK υ l/\r.ok:=by
 induction l with
 | nil=>exact⟨trivial,h⟩
 | cons x l ih =>
  obtain⟨d,q⟩:=x;simp only[sw]at h;split at h
  .rename_i b hb
   exact⟨⟨⟨b,hb,h.1⟩,(ih h.2).1⟩,(ih h.2).2⟩
  .exact h.elim
theorem F1{υ σ:PS}{r:R}(h:(uE υ σ r).ok):PS.le υ σ/\r.ok:=by
 unfold uE at h;split at h
 .rename_i hc
  simp only[Bool.and_eq_true,Bool.or_eq_true,beq_iff_eq]at hc;obtain⟨⟨h1,h2⟩,h3⟩:=hc;obtain⟨h4,h5⟩:=SL h;obtain⟨h6,h7⟩:=IF h5;refine⟨?_,h7⟩;rcases h2 with h2|h2
  .exact PS.le.N9 (beq_iff.1 h1) h2 h3 h4 h6
  .exact PS.le.eH (beq_iff.1 h1) h2 h3 h4 h6
 .exact h.elim
theorem RM(hT:cD P T){w0:World}{B:Nat->Prop}{a:Act}{w:World}{L:Lk}(g:Gd P K w0 B){us:List (Oper×Out)}{τ:PS}{Q:Exit->Act->World->Prop}(h:jj P K T ops us σ τ)(ho:∀ x,x ∈ us->∀ q,q ∈ x.2.aM->q)
  (r:Rel w0 B σ a w L) (hq:∀ a' w' L',Rel w0 B τ a' w' L'->Q .normal a' w'):wpList P ops Q (us.map (·.1)) a w:=by
 induction us generalizing σ a w L with
 | nil=>exact hq a w L (r.same h)
 | cons x us ih =>
  obtain⟨⟨O,h1⟩,h2⟩:=h;rw[List.map_cons];unfold wpList;rcases wu hT g r h1 (ho x (by simp)) (wpList P ops Q (us.map (·.1))) Q (fun a' w' L' hr=>ih h2 (fun y hy=>ho y (by simp[hy])) hr)with⟨p1,p2⟩|⟨p1,p2⟩
  .rw [if_pos p1];exact .inl p2
  .rw [if_neg (by rw[p1];simp)];exact p2
theorem Q9(hT:cD P T)(hm:P.follows .mixedOrders=true){w0:World}{B:Nat->Prop}{a:Act}{w:World}{L:Lk}(g:Gd P K w0 B){id:Nat}{draw:Bool}{us:List (Oper×Out)}{τ:PS}{Q:Exit->Act->World->Prop}
  (h:jj P K T ops us σ τ) (hl:us.map (·.1)=ops.toList) (ho:∀ x,x ∈ us->∀ q,q ∈ x.2.aM->q) (hp:(!draw||nP ops 0 us)=true) (r:Rel w0 B σ a w L)
  (hq:∀ a' w' L',Rel w0 B τ a' w' L'->Q .normal a' w'):(Code.region id ops draw).wp P Q a w:=by
 cases draw with
 | false=>exact wp_region_list (by rw[<-hl];exact RM hT g h ho r hq)
 | true =>
  obtain⟨R,r1,r2,r3⟩:=Dc hl (by simpa using hp);refine wp_region_any hm (Ak hT g hq ops.size (Array.replicate ops.size false) R σ a w.drew L r2 (by simp) r3 (fun x hx=>ho x.2 ?_) (by rw[r1];exact h) r.drew);rw[<-r1];exact List.mem_map.2 ⟨x,hx,rfl⟩
theorem Sc{c:Code}{t:Tr P K}{k:Ex->PS->Tr P K->R}(h:(yV c σ t k).ok):Sp P K c σ (fun e τ=>∃ t',(k e τ t').ok):=by
 unfold yV at h;split at h
 .obtain ⟨h1,h2,h3⟩:=F1 h
  exact Sp.pre h1 (h2.mono fun e τ ⟨q1,q2⟩=>by subst q1 q2;exact⟨_,h3⟩)
 .exact h.elim
theorem Ex.RN{a b:Ex}(h:Ex.same a b=true):a=b:=by
 cases a<;>cases b<;>first|rfl|(cases h;done)|exact congrArg Ex.exit (beq_iff.1 h)
theorem Cc{e e':Ex}{τ υ:PS}{t:Tr P K}(h:(qn e τ e' υ t).ok):e'=e/\PS.le υ τ:=by
 unfold qn at h;split at h
 .rename_i he;exact⟨Ex.RN he,(F1 h).1⟩
 .exact h.elim
theorem Db{c:Code}{cb:Nat}{g:PS->Tr P K->(Ex->PS->Tr P K->R)->R}(hg:∀ σ t k,(g σ t k).ok->Sp P K c σ (fun e τ=>∃ t',(k e τ t').ok)){σ:PS}{t:Tr P K}{k:Ex->PS->Tr P K->R}(h:(jn cb g σ t k).ok) :
  Sp P K c σ (fun e τ=>∃ t',(k e τ t').ok):=by
 unfold jn at h;split at h
 .rename_i c' τ tj t
  split at h
  .refine (hg _ _ _ h.1).post fun e υ ⟨t',ht⟩=>?_
   obtain⟨he,hl⟩:=Cc ht;exact⟨τ,hl,t,by rw[he];exact h.2⟩
  .exact hg _ _ _ h
 .exact hg _ _ _ h
def jL(P:Program)(K:World->Prop)(b:Code)(σ:PS)(Q:Ex->PS->Prop):Prop :=
 ∀ (w0:World) (B:Nat->Prop) (a:Act) (w:World) (L:Lk),Gd P K w0 B->Rel w0 B σ a w L->∀ bf k cs,
  ∃ e a' w',(∃ ex τ L',e=Ex.to ex/\Q ex τ/\Rel w0 B τ a' w' L')/\Arrives P (lone (bf.at a (.code b :: .inLoop b::k)) cs w) bf k cs e a' w'
theorem jL.loop{b:Code}{σ:PS}{Q:Ex->PS->Prop}(h:jL P K b σ Q):Sp P K (.loop b) σ Q:=by
 intro w0 B a w L g r bf k cs;obtain⟨e,a',w',hq,harr⟩:=h w0 B a w L g r bf k cs;exact⟨e,a',w',hq,.of_steps (.one step_loop) harr⟩
theorem jL.pre{b:Code}{σ τ:PS}{Q:Ex->PS->Prop}(h:PS.le σ τ)(k:jL P K b τ Q):jL P K b σ Q:=fun w0 B a w L g r =>
 let⟨L',r'⟩:=h w0 B a w L (fun b hb=>(g.hB b hb).1) r;k w0 B a w L' g r'
theorem jL.step{b:Code}{σ:PS}{Q:Ex->PS->Prop}(h:Sp P K b σ (fun e τ=>(e = .normal/\jL P K b τ Q)\/(e ≠ .normal/\Q e τ))):jL P K b σ Q:=by
 intro w0 B a w L g r bf k cs;obtain⟨e,a₁,w₁,⟨ex,υ,L2,rfl,hq,hr2⟩,harr⟩:=h w0 B a w L g r bf (.inLoop b::k) cs;rcases hq with⟨rfl,hs⟩|⟨hne,hq⟩
 .obtain ⟨e₂,a₂,w₂,hq₂,harr₂⟩:=hs w0 B a₁ w₁ L2 g hr2 bf k cs
  exact⟨e₂,a₂,w₂,hq₂,.of_steps (Steps.trans harr (.one step_inLoop)) harr₂⟩
 .cases ex with
  | normal=>exact absurd rfl hne
  | exit i=>exact⟨_,a₁,w₁,⟨.exit i,υ,L2,rfl,hq,hr2⟩,.pass (x:=.inLoop b) rfl (fun _ _=>.inl (by simp[Ex.to])) harr⟩
  | ret=>exact⟨_,a₁,w₁,⟨.ret,υ,L2,rfl,hq,hr2⟩,.pass (x:=.inLoop b) rfl (fun _ _=>.inl (by simp[Ex.to])) harr⟩
theorem wk(hT:cD P T)(hm:P.follows .mixedOrders=true){c:Code}{σ:PS}{t:Tr P K}{k:Ex->PS->Tr P K->R}(h:(jr T c σ t k).ok):Sp P K c σ (fun e τ=>∃ t',(k e τ t').ok):=by
 induction c generalizing σ t k with
 | skip=>exact fun w0 B a w L g r=>wp_skip ⟨.normal,_,L,rfl,⟨t,h⟩,r⟩
 | region id ops d =>
  obtain⟨vs,τ,t',h1,h2,h3,h4⟩:=PG h;split at h4
  .rename_i hp
   simp only[List.append_nil,List.reverse_reverse]at hp;exact fun w0 B a w L g r=>Q9 hT hm g h1 h2 h3 hp r fun a' w' L' hr=>⟨.normal,τ,L',rfl,⟨t',h4⟩,hr⟩
  .exact h4.elim
 | seq x y ihx ihy =>
  intro w0 B a w L g r;refine wp_seq (Code.wp_mono ?_ (ihx h w0 B a w L g r));rintro ex a' w' ⟨e1,τ1,L',rfl,⟨t',ht⟩,hr⟩;cases e1 with
  | normal=>exact ihy ht w0 B a' w' L' g hr
  | exit i=>exact⟨.exit i,τ1,L',rfl,⟨t',ht⟩,hr⟩
  | ret=>exact⟨.ret,τ1,L',rfl,⟨t',ht⟩,hr⟩
 | cond c x y ihx ihy =>
  obtain⟨t1,τ,hle,h1⟩:=nQ h;refine Sp.pre hle (Db (fun σ t k h=>?_) h1);obtain⟨t1,τ,hle,h1⟩:=nQ h;refine Sp.pre hle ?_;split at h1
  .rename_i hc
   intro w0 B a w L g r;have hv:=r.op c;rw[hc]at hv;exact wp_cond_true (ax.bQ hv) (ihx h1 w0 B a w L g r)
  .rename_i hc
   intro w0 B a w L g r;have hv:=r.op c;rw[hc]at hv;exact wp_cond_false (ax.bQ hv) (ihy h1 w0 B a w L g r)
  .exact h1.elim
 | block id b ih =>
  obtain⟨t1,τ,hle,h1⟩:=nQ h;refine Sp.pre hle (Db (fun σ t k h=>?_) h1);intro w0 B a w L g r;refine wp_block (Code.wp_mono ?_ (ih h w0 B a w L g r));rintro ex a' w' ⟨e1,τ1,L',rfl,⟨t',ht⟩,hr⟩;cases e1 with
  | normal=>exact⟨.normal,_,L',rfl,⟨t',ht⟩,hr⟩
  | ret=>exact⟨.ret,_,L',rfl,⟨t',ht⟩,hr⟩
  | exit i =>
   simp only at ht;show Exit.inBlock id _ (.exit i) a' w';split at ht
   .rename_i hi
    have hi:=beq_iff.1 hi;subst hi;simp only[Exit.inBlock,if_true];exact⟨.normal,_,L',rfl,⟨t',ht⟩,hr⟩
   .rename_i hi
    have hi:i≠id:=fun e=>hi (beq_iff.2 e)
    simp only[Exit.inBlock,hi,if_false];exact⟨.exit i,_,L',rfl,⟨t',ht⟩,hr⟩
 | label l=>exact fun w0 B a w L g r=>wp_label ⟨.normal,_,L,rfl,⟨t,h⟩,r⟩
 | scope b ih =>
  intro w0 B a w L g r;refine wp_scope_straight (Code.wp_mono ?_ (ih h w0 B a w L g r));rintro ex a' w' ⟨e1,τ1,L',rfl,⟨t',ht⟩,hr⟩;cases e1 with
  | normal=>exact⟨.normal,τ1,L',rfl,⟨t',ht⟩,hr⟩
  | ret=>exact⟨.ret,τ1,L',rfl,⟨t',ht⟩,hr⟩
  | exit i=>exact⟨.exit i,τ1,L',rfl,⟨t',ht⟩,hr⟩
 | exit id =>
  obtain⟨t1,τ,hle,h1⟩:=nQ h;exact Sp.pre hle fun w0 B a w L g r=>wp_exit ⟨.exit id,_,L,rfl,⟨t1,h1⟩,r⟩
 | ret =>
  obtain⟨t1,τ,hle,h1⟩:=nQ h;exact Sp.pre hle fun w0 B a w L g r=>wp_ret ⟨.ret,_,L,rfl,⟨t1,h1⟩,r⟩
 | loop b ih =>
  obtain⟨t1,τ,hle,h1⟩:=nQ h;refine Sp.pre hle ?_;split at h1
  .rename_i n t
   clear hle h;refine jL.loop ?_
   induction n generalizing τ t with
   | zero=>exact h1.elim
   | succ n ihn =>
    obtain⟨t2,τ2,hle,h1⟩:=nQ h1;refine jL.pre hle (jL.step ((ih h1).mono fun e υ ⟨t',ht⟩=>?_));cases e with
    | normal=>exact .inl ⟨rfl,ihn _ _ ht⟩
    | exit i=>exact .inr ⟨by simp,t',ht⟩
    | ret=>exact .inr ⟨by simp,t',ht⟩
  .exact Sc h1
 | _=>exact h.elim
theorem Sp.tr(hT:cD P T)(hm:P.follows .mixedOrders=true){c:Code}{σ τ:PS}{e:Ex}(t:Tr P K)(h:jr T c σ t (qn e τ)=t.ex fun t=>pF τ t .nil) :
  Sp P K c σ (fun e' τ'=>e'=e/\τ'=τ):=by
 have hk:=Tr.wG (fin:=fun t=>pF τ t .nil) (fun t=>yX trivial) t;rw[<-h]at hk;refine(wk hT hm hk).post fun e' υ ⟨t',ht⟩=>?_
 obtain⟨he,hl⟩:=Cc ht;exact⟨τ,hl,he,rfl⟩
def Cr(T:List TI)(fn:Func)(res:E)(e:Ex)(τ:PS)(_:Tr P K):R:=match e with
 | .exit _=>.bad
 | _=>match rq T fn τ with
  | some r=>.a (E.le r res) .nil
  | none=>.bad
def yp(T:List TI)(fn:Func)(nl:Bool)(args:List E)(res:E)(t:Tr P K):R:=match fn.body with
 | some c=>if Nat.ble args.length fn.ntmps then jr T c (lg fn nl args) t (Cr T fn res)else .bad
 | none=>.bad
theorem PC.zh(hT:cD P T)(hm:P.follows .mixedOrders=true)(hp:∀ w w',K w->Below w.heap.size w w'->K w'){f:FuncId}{fn:Func}{args:List E}{res:E}(hcall:∀ (vs:Array Value) (w:World),(callFunc f vs).run P w = .ok (.enter f vs) w)
  (hf:P.funcs[f]? = some fn) (nl:Bool) (t:Tr P K) (h:yp T fn nl args res t=t.ex fun _=>.a (E.le res res) .nil):PC P K f args res:=by
 have hk:=Tr.wG (fin:=fun _=>.a (E.le res res) .nil) (fun t=>⟨E.le.refl res,trivial⟩) t;rw[<-h]at hk;unfold yp at hk;split at hk
 .rename_i c hb
  split at hk
  .rename_i hn
   refine PC.tE hT hm hp hcall hf hb (Nat.le_of_ble_eq_true hn) nl ((wk hT hm hk).mono fun e τ ⟨t',ht⟩=>?_);unfold Cr at ht;split at ht
   .exact ht.elim
   .rename_i hne
    split at ht
    .rename_i r hr
     refine⟨?_,r,hr,ht.1⟩;cases e with
     | normal=>exact .inr rfl
     | ret=>exact .inl rfl
     | exit i=>exact absurd rfl (hne i)
    .exact ht.elim
  .exact hk.elim
 .exact hk.elim
def Cq(fn:Func)(b:Bx)(e:Ex)(τ:PS)(_:Tr P K):R:=match e with
 | .exit _=>.bad
 | _=>match fn.results.toList with
  | [.tmp t]=>match τ.get t with
   | .own id=>match τ.bo id with
    | some c=>.a (Bx.le c b) .nil
    | none=>.bad
   | _=>.bad
  | _=>.bad
def yo(T:List TI)(fn:Func)(args:List E)(b:Bx)(t:Tr P K):R:=match fn.body with
 | some c=>if Nat.ble args.length fn.ntmps then jr T c (lg fn true args) t (Cq fn b)else .bad
 | none=>.bad
theorem ji.zh(hT:cD P T)(hm:P.follows .mixedOrders=true)(hp:∀ w w',K w->Below w.heap.size w w'->K w'){f:FuncId}{fn:Func}{args:List E}{nl:Bool}{T0:TypeId}{n sz:Nat}{el:Nat->Nat->E}(hcall:∀ (vs:Array Value) (w:World),(callFunc f vs).run P w = .ok (.enter f vs) w)
  (hf:P.funcs[f]? = some fn) (t:Tr P K) (h:yo T fn args (.row nl T0 n sz el) t=t.ex fun _=>.a (Bx.le (.row nl T0 n sz el) (.row nl T0 n sz el)) .nil):ji P K f args nl T0 n sz el:=by
 have hk:=Tr.wG (fin:=fun _=>.a (Bx.le (.row nl T0 n sz el) (.row nl T0 n sz el)) .nil) (fun t=>⟨Bx.le.refl _,trivial⟩) t;rw[<-h]at hk;unfold yo at hk;split at hk
 .rename_i c hb
  split at hk
  .rename_i hn
   refine ji.tE hT hm hp hcall hf hb (Nat.le_of_ble_eq_true hn) true ((wk hT hm hk).mono fun e τ ⟨t',ht⟩=>?_);unfold Cq at ht;split at ht
   .exact ht.elim
   .rename_i hne
    split at ht
    .rename_i t0 hr
     split at ht
     .rename_i id hg
      split at ht
      .rename_i c' hc
       refine⟨?_,t0,id,c',hr,hg,hc,fun bs br L w hk=>ht.1.2 _ _ _ _ _ hk⟩;cases e with
       | normal=>exact .inr rfl
       | ret=>exact .inl rfl
       | exit i=>exact absurd rfl (hne i)
      .exact ht.elim
     .exact ht.elim
    .exact ht.elim
  .exact hk.elim
 .exact hk.elim
theorem Sp.upto{b:Code}{e:Ex}{τ:PS}(f:Nat->PS)(lo hi:Nat)(h0:lo<=hi)(go:∀ x,(lo<=x/\x<=hi)->x<hi->Sp P K b (f x) (fun e' υ=>e' = .normal/\υ=f (x+1)))
  (out:(lo<=hi/\hi<=hi)->Sp P K b (f hi) (fun e' υ=>e'=e/\υ=τ)) (he:e ≠ .normal):Sp P K (.loop b) (f lo) (fun e' υ=>e'=e/\υ=τ):=by
 refine Sp.Ma f (fun x=>lo<=x/\x<=hi) (fun x=>hi-x) (fun x hx=>?_) lo ⟨Nat.le_refl _,h0⟩ (PS.le.refl _);rcases Nat.lt_or_eq_of_le hx.2 with hlt|heq
 .exact Sp.Mb (x+1) (go x hx hlt) ⟨by omega,by omega⟩ (by omega) (PS.le.refl _)
 .subst heq
  exact Sp.Mc (out hx) he (PS.le.refl _)
def ar(z:Int)(h:-9223372036854775808<=z/\z<=9223372036854775807):Tr P K->Tr P K:=.a (p:=bG .i64 z) h
def mN(z:Int)(h:0<=z/\z<=18446744073709551615):Tr P K->Tr P K:=.a (p:=bG .u64 z) h
def iX(z:Int)(n:Nat)(h:0<=z/\z<n):Tr P K->Tr P K:=.a h
def tB(d:Nat){a b:Bool}(h:a=b):Tr P K->Tr P K:=.o d (PV.le.bool h)
def tT(d:Nat)(p:Prop)[Decidable p](h:p):Tr P K->Tr P K:=.o d (PV.le.bool (decide_eq_true h))
def tF(d:Nat)(p:Prop)[Decidable p](h:¬p):Tr P K->Tr P K:=.o d (PV.le.bool (decide_eq_false h))
def rQ(p q:E)(h:p=q):Tr P K:=.r (E.le.of_eq h)
def rR(q:E){p:E}(h:E.le p q):Tr P K:=.r h
def chain(l:List (Tr P K->Tr P K))(t:Tr P K):Tr P K:=l.foldr (fun f t=>f t) t
end
end Go.Proofs.YtdgnpeddgdclhaaGreatDoor.Pu
namespace Go.Proofs.YtdgnpeddgdclhaaGreatDoor
open Go.RowKit Fp Pu
theorem tr(nl:Bool){f:FuncId}{fn:Func}{args:List E}{res:E}(hcall:∀ (vs:Array Value) (w:World),(callFunc f vs).run Tryz.prog w = .ok (.enter f vs) w)
  (hf:Tryz.prog.funcs[f]? = some fn) (t:Tr Tryz.prog Tb) (h:yp TT fn nl args res t=t.ex fun _=>.a (E.le res res) .nil):ae f args res :=
 PC.zh ve mixed Aa hcall hf nl t h
theorem aB{c:Code}{σ τ:PS}{e:Ex}(t:Tr Tryz.prog Tb)(h:jr TT c σ t (qn e τ)=t.ex fun t=>pF τ t .nil) :
  Sp Tryz.prog Tb c σ (fun e' τ'=>e'=e/\τ'=τ):=Sp.tr ve mixed t h
abbrev bD(k:Nat)(fn:Func)(σ:PS)(e:Ex)(τ:PS):Prop:=Sp Tryz.prog Tb (.loop (IZ k fn)) σ (fun e' τ'=>e'=e/\τ'=τ)
open Go.RowKit Fp Pu
def CU(nl:Bool)(n N:Nat)(el:Nat->Nat->E)(g:FuncId)(cap:List E)(i:Nat):PS:=⟨19,false,[(8,.e (iP i)),(7,.e (iP n)),(0,.e (.sl nl n 1 el)),(1,.e (.fn g cap))],[]⟩
def CT(nl:Bool)(n:Nat)(el:Nat->Nat->E)(g:FuncId)(cap:List E)(i:Nat):PS:=⟨19,false,[(8,.e (iP i)),(7,.e (iP n)),(0,.e (.sl nl n 1 el)),(1,.e (.fn g cap))],[]⟩
def Dh(nl:Bool)(n:Nat)(el:Nat->Nat->E)(g:FuncId)(cap:List E)(i:Nat):PS:=⟨19,false,[(8,.e (iP i)),(7,.e (iP n)),(0,.e (.sl nl n 1 el)),(1,.e (.fn g cap))],[]⟩
def C9(nl:Bool)(n N:Nat)(el:Nat->Nat->E)(g:FuncId)(cap:List E)(i:Nat):PS:=⟨19,false,[(8,.e (iP i)),(7,.e (iP n)),(0,.e (.sl nl n 7 el)),(1,.e (.fn g cap))],[]⟩
def C8(nl:Bool)(n:Nat)(el:Nat->Nat->E)(g:FuncId)(cap:List E)(i:Nat):PS:=⟨19,false,[(8,.e (iP i)),(7,.e (iP n)),(0,.e (.sl nl n 7 el)),(1,.e (.fn g cap))],[]⟩
def Fs(nl:Bool)(n:Nat)(el:Nat->Nat->E)(g:FuncId)(cap:List E)(i:Nat):PS:=⟨19,false,[(8,.e (iP i)),(7,.e (iP n)),(0,.e (.sl nl n 1 el)),(1,.e (.fn g cap))],[]⟩
theorem gF{p:Nat->Bool}{n:Nat}(h:∃ i,i<n/\p i=true):∃ N,N<n/\p N=true/\∀ i,i<N->p i=false:=by
 induction n with
 | zero=>obtain⟨i,h1,_⟩:=h;omega
 | succ n ih =>
  by_cases hn:∃ i,i<n/\p i=true
  .obtain ⟨N,h1,h2,h3⟩:=ih hn;exact⟨N,by omega,h2,h3⟩
  .obtain ⟨i,h1,h2⟩:=h
   have:i=n:=by
    by_cases q:i=n
    .exact q
    .exact absurd ⟨i,by omega,h2⟩ hn
   subst this;exact⟨i,h1,h2,fun j hj=>by simpa using fun q=>hn ⟨j,hj,q⟩⟩
theorem NF(nl:Bool)(n:Nat)(el:Nat->Nat->E)(g:FuncId)(cap:List E)(p:Nat->Bool)(hp:∀ i,i<n->ae g ((el i 0)::cap) (bP (p i)))(N:Nat)(hl:n<=1000000)(hN0:N<n)(hlo:∀ i,i<N->p i=false)(hN:p N=true):ae 170 [.sl nl n 1 el,.fn g cap] (iP N):=by
 exact tr false Tryz.call170 Tryz.func170 (chain [.s (Sp.upto (CU nl n N el g cap) 0 N (by omega) (fun i hi hlti=>by
    exact aB (chain [tT 9 ((i:Int)<(n:Int)) (by omega),iX ((i:Int)) (n) (by omega),.c (hp i (by omega):ae g ((el i 0)::cap) _),tB 16 (hlo i (by omega):(p i)=false),ar ((i:Int)+1) (by omega)] <| .nil) (by kernel_rfl))
  (fun hi=>by
    exact aB (chain [tT 9 ((N:Int)<(n:Int)) (by omega),iX ((N:Int)) (n) (by omega),.c (hp N (by omega):ae g ((el N 0)::cap) _),tB 16 (hN:(p N)=true)] <| .nil) (by kernel_rfl)) (by nofun):bD 2 Tryz.f170 (CU nl n N el g cap 0) .ret ⟨19,false,[(4,.e (iP N))],[]⟩) .nil] <| .nil) (by kernel_rfl)
theorem NH(nl:Bool)(n:Nat)(el:Nat->Nat->E)(g:FuncId)(cap:List E)(p:Nat->Bool)(hp:∀ i,i<n->ae g ((el i 0)::cap) (bP (p i)))(hl:n<=1000000)(hlo:∀ i,i<n->p i=false):ae 170 [.sl nl n 1 el,.fn g cap] (iP (-1)):=by
 exact tr false Tryz.call170 Tryz.func170 (chain [.s (Sp.upto (CT nl n el g cap) 0 n (by omega) (fun i hi hlti=>by
    exact aB (chain [tT 9 ((i:Int)<(n:Int)) (by omega),iX ((i:Int)) (n) (by omega),.c (hp i (by omega):ae g ((el i 0)::cap) _),tB 16 (hlo i (by omega):(p i)=false),ar ((i:Int)+1) (by omega)] <| .nil) (by kernel_rfl))
  (fun hi=>by
    exact aB (chain [tF 9 ((n:Int)<(n:Int)) (by omega)] <| .nil) (by kernel_rfl)) (by nofun):bD 2 Tryz.f170 (CT nl n el g cap 0) (.exit 0) ⟨19,false,[],[]⟩) .nil] <| .nil) (by kernel_rfl)
theorem NG(nl:Bool)(n:Nat)(el:Nat->Nat->E)(g:FuncId)(cap:List E)(p:Nat->Bool)(hp:∀ i,i<n->ae g ((el i 0)::cap) (bP (p i)))(N:Nat)(hl:n<=1000000)(hN0:N<n)(hlo:∀ i,i<N->p i=false)(hN:p N=true):ae 134 [.sl nl n 1 el,.fn g cap] (bP true):=by
 exact tr false Tryz.call134 Tryz.func134 (chain [.c (NF nl n el g cap p hp N hl hN0 hlo hN:ae 170 [(.sl nl n 1 el),(.fn g cap)] _),tT 8 (0<=(N:Int)) (by omega)] <| .nil) (by kernel_rfl)
theorem wV(nl:Bool)(n:Nat)(el:Nat->Nat->E)(g:FuncId)(cap:List E)(p:Nat->Bool)(hp:∀ i,i<n->ae g ((el i 0)::cap) (bP (p i)))(hl:n<=1000000)(hlo:∀ i,i<n->p i=false):ae 134 [.sl nl n 1 el,.fn g cap] (bP false):=by
 exact tr false Tryz.call134 Tryz.func134 (chain [.c (NH nl n el g cap p hp hl hlo:ae 170 [(.sl nl n 1 el),(.fn g cap)] _),tB 8 (by decide:(decide ((0:Int)<=(-1)))=false)] <| .nil) (by kernel_rfl)
theorem ND(nl:Bool)(n:Nat)(el:Nat->Nat->E)(g:FuncId)(cap:List E)(p:Nat->Bool)(hp:∀ i,i<n->ae g ((el i 0)::cap) (bP (p i)))(hl:n<=1000000):ae 134 [.sl nl n 1 el,.fn g cap] (bP ((List.range n).any p)):=by
 by_cases h:∃ i,i<n/\p i=true
 .obtain ⟨N,h1,h2,h3⟩:∃ N,N<n/\p N=true/\∀ i,i<N->p i=false:=gF h
  refine(NG nl n el g cap p hp N hl h1 h3 h2).res (.of_eq ?_);rw[List.any_eq_true.2 ⟨N,List.mem_range.2 h1,h2⟩]
 .refine (wV nl n el g cap p hp hl fun i hi=>by simpa using fun q=>h ⟨i,hi,q⟩).res (.of_eq ?_)
  rw[List.any_eq_false.2 fun i hi q=>h ⟨i,List.mem_range.1 hi,q⟩]
theorem Ox(nl:Bool)(n:Nat)(el:Nat->Nat->E)(g:FuncId)(cap:List E)(p:Nat->Bool)(hp:∀ i,i<n->ae g ((el i 0)::cap) (bP (p i)))(hl:n<=1000000)(hlo:∀ i,i<n->p i=false):ae 233 [.sl nl n 1 el,.fn g cap] (iP (-1)):=by
 exact tr false Tryz.call233 Tryz.func233 (chain [.s (Sp.upto (Dh nl n el g cap) 0 n (by omega) (fun i hi hlti=>by
    exact aB (chain [tT 9 ((i:Int)<(n:Int)) (by omega),iX ((i:Int)) (n) (by omega),.c (hp i (by omega):ae g ((el i 0)::cap) _),tB 16 (hlo i (by omega):(p i)=false),ar ((i:Int)+1) (by omega)] <| .nil) (by kernel_rfl))
  (fun hi=>by
    exact aB (chain [tF 9 ((n:Int)<(n:Int)) (by omega)] <| .nil) (by kernel_rfl)) (by nofun):bD 2 Tryz.f233 (Dh nl n el g cap 0) (.exit 0) ⟨19,false,[],[]⟩) .nil] <| .nil) (by kernel_rfl)
theorem Dj(nl:Bool)(n:Nat)(el:Nat->Nat->E)(g:FuncId)(cap:List E)(p:Nat->Bool)(hp:∀ i,i<n->ae g ((el i 0)::cap) (bP (p i)))(hl:n<=1000000)(hlo:∀ i,i<n->p i=false):ae 202 [.sl nl n 1 el,.fn g cap] (bP false):=by
 exact tr false Tryz.call202 Tryz.func202 (chain [.c (Ox nl n el g cap p hp hl hlo:ae 233 [(.sl nl n 1 el),(.fn g cap)] _),tB 8 (by decide:(decide ((0:Int)<=(-1)))=false)] <| .nil) (by kernel_rfl)
theorem N4(nl:Bool)(n:Nat)(el:Nat->Nat->E)(g:FuncId)(cap:List E)(p:Nat->Bool)(hp:∀ i,i<n->ae g ((.agg [(el i 0),(el i 1),(el i 2),(el i 3),(el i 4),(el i 5),(el i 6)])::cap) (bP (p i)))(N:Nat)(hl:n<=1000000)(hN0:N<n)(hlo:∀ i,i<N->p i=false)(hN:p N=true):ae 51 [.sl nl n 7 el,.fn g cap] (iP N):=by
 exact tr false Tryz.call51 Tryz.func51 (chain [.s (Sp.upto (C9 nl n N el g cap) 0 N (by omega) (fun i hi hlti=>by
    exact aB (chain [tT 9 ((i:Int)<(n:Int)) (by omega),iX ((i:Int)) (n) (by omega),.c (hp i (by omega):ae g ((.agg [(el i 0),(el i 1),(el i 2),(el i 3),(el i 4),(el i 5),(el i 6)])::cap) _),
     tB 16 (hlo i (by omega):(p i)=false),ar ((i:Int)+1) (by omega)] <| .nil) (by kernel_rfl))
  (fun hi=>by
    exact aB (chain [tT 9 ((N:Int)<(n:Int)) (by omega),iX ((N:Int)) (n) (by omega),.c (hp N (by omega):ae g ((.agg [(el N 0),(el N 1),(el N 2),(el N 3),(el N 4),(el N 5),(el N 6)])::cap) _),tB 16 (hN:(p N)=true)] <| .nil) (by kernel_rfl)) (by nofun):bD 2 Tryz.f51 (C9 nl n N el g cap 0) .ret ⟨19,false,[(4,.e (iP N))],[]⟩) .nil] <| .nil) (by kernel_rfl)
theorem N6(nl:Bool)(n:Nat)(el:Nat->Nat->E)(g:FuncId)(cap:List E)(p:Nat->Bool)(hp:∀ i,i<n->ae g ((.agg [(el i 0),(el i 1),(el i 2),(el i 3),(el i 4),(el i 5),(el i 6)])::cap) (bP (p i)))(hl:n<=1000000)(hlo:∀ i,i<n->p i=false):ae 51 [.sl nl n 7 el,.fn g cap] (iP (-1)):=by
 exact tr false Tryz.call51 Tryz.func51 (chain [.s (Sp.upto (C8 nl n el g cap) 0 n (by omega) (fun i hi hlti=>by
    exact aB (chain [tT 9 ((i:Int)<(n:Int)) (by omega),iX ((i:Int)) (n) (by omega),.c (hp i (by omega):ae g ((.agg [(el i 0),(el i 1),(el i 2),(el i 3),(el i 4),(el i 5),(el i 6)])::cap) _),
     tB 16 (hlo i (by omega):(p i)=false),ar ((i:Int)+1) (by omega)] <| .nil) (by kernel_rfl))
  (fun hi=>by
    exact aB (chain [tF 9 ((n:Int)<(n:Int)) (by omega)] <| .nil) (by kernel_rfl)) (by nofun):bD 2 Tryz.f51 (C8 nl n el g cap 0) (.exit 0) ⟨19,false,[],[]⟩) .nil] <| .nil) (by kernel_rfl)
theorem N5(nl:Bool)(n:Nat)(el:Nat->Nat->E)(g:FuncId)(cap:List E)(p:Nat->Bool)(hp:∀ i,i<n->ae g ((.agg [(el i 0),(el i 1),(el i 2),(el i 3),(el i 4),(el i 5),(el i 6)])::cap) (bP (p i)))(N:Nat)(hl:n<=1000000)(hN0:N<n)(hlo:∀ i,i<N->p i=false)(hN:p N=true):ae 17 [.sl nl n 7 el,.fn g cap] (bP true):=by
 exact tr false Tryz.call17 Tryz.func17 (chain [.c (N4 nl n el g cap p hp N hl hN0 hlo hN:ae 51 [(.sl nl n 7 el),(.fn g cap)] _),tT 8 (0<=(N:Int)) (by omega)] <| .nil) (by kernel_rfl)
theorem nC(nl:Bool)(n:Nat)(el:Nat->Nat->E)(g:FuncId)(cap:List E)(p:Nat->Bool)(hp:∀ i,i<n->ae g ((.agg [(el i 0),(el i 1),(el i 2),(el i 3),(el i 4),(el i 5),(el i 6)])::cap) (bP (p i)))(hl:n<=1000000)(hlo:∀ i,i<n->p i=false):ae 17 [.sl nl n 7 el,.fn g cap] (bP false):=by
 exact tr false Tryz.call17 Tryz.func17 (chain [.c (N6 nl n el g cap p hp hl hlo:ae 51 [(.sl nl n 7 el),(.fn g cap)] _),tB 8 (by decide:(decide ((0:Int)<=(-1)))=false)] <| .nil) (by kernel_rfl)
theorem w9(nl:Bool)(n:Nat)(el:Nat->Nat->E)(g:FuncId)(cap:List E)(p:Nat->Bool)(hp:∀ i,i<n->ae g ((.agg [(el i 0),(el i 1),(el i 2),(el i 3),(el i 4),(el i 5),(el i 6)])::cap) (bP (p i)))(hl:n<=1000000):ae 17 [.sl nl n 7 el,.fn g cap] (bP ((List.range n).any p)):=by
 by_cases h:∃ i,i<n/\p i=true
 .obtain ⟨N,h1,h2,h3⟩:∃ N,N<n/\p N=true/\∀ i,i<N->p i=false:=gF h
  refine(N5 nl n el g cap p hp N hl h1 h3 h2).res (.of_eq ?_);rw[List.any_eq_true.2 ⟨N,List.mem_range.2 h1,h2⟩]
 .refine (nC nl n el g cap p hp hl fun i hi=>by simpa using fun q=>h ⟨i,hi,q⟩).res (.of_eq ?_)
  rw[List.any_eq_false.2 fun i hi q=>h ⟨i,List.mem_range.1 hi,q⟩]
theorem RA(nl:Bool)(n:Nat)(el:Nat->Nat->E)(g:FuncId)(cap:List E)(p:Nat->Bool)(hp:∀ i,i<n->ae g ((el i 0)::cap) (bP (p i)))(hl:n<=1000000)(hlo:∀ i,i<n->p i=false):ae 176 [.sl nl n 1 el,.fn g cap] (iP (-1)):=by
 exact tr false Tryz.call176 Tryz.func176 (chain [.s (Sp.upto (Fs nl n el g cap) 0 n (by omega) (fun i hi hlti=>by
    exact aB (chain [tT 9 ((i:Int)<(n:Int)) (by omega),iX ((i:Int)) (n) (by omega),.c (hp i (by omega):ae g ((el i 0)::cap) _),tB 16 (hlo i (by omega):(p i)=false),ar ((i:Int)+1) (by omega)] <| .nil) (by kernel_rfl))
  (fun hi=>by
    exact aB (chain [tF 9 ((n:Int)<(n:Int)) (by omega)] <| .nil) (by kernel_rfl)) (by nofun):bD 2 Tryz.f176 (Fs nl n el g cap 0) (.exit 0) ⟨19,false,[],[]⟩) .nil] <| .nil) (by kernel_rfl)
theorem Ry(nl:Bool)(n:Nat)(el:Nat->Nat->E)(g:FuncId)(cap:List E)(p:Nat->Bool)(hp:∀ i,i<n->ae g ((el i 0)::cap) (bP (p i)))(hl:n<=1000000)(hlo:∀ i,i<n->p i=false):ae 143 [.sl nl n 1 el,.fn g cap] (bP false):=by
 exact tr false Tryz.call143 Tryz.func143 (chain [.c (RA nl n el g cap p hp hl hlo:ae 176 [(.sl nl n 1 el),(.fn g cap)] _),tB 8 (by decide:(decide ((0:Int)<=(-1)))=false)] <| .nil) (by kernel_rfl)
open Go.RowKit Fp Pu
def DJ(a b:List Nat)(x:Nat):PS:=⟨67,false,[(20,.e (iP x)),(19,.e (iP a.length)),(18,.e (ah a)),(5,.own 17),(1,.e (ah b))],[(17,.row false 79 (a.length+b.length) 1 (eN (ca a b x)))]⟩
def DK(a b:List Nat)(x:Nat)(k:Nat):PS:=⟨67,false,[(27,.e (iP k)),(26,.e (iP b.length)),(25,.e (ah b)),(8,.e (.v (.int .u64 (((dj (a.getD x 0) x b (ca a b x) k).2:Nat):Int)))),(7,.e (.v (.int .u32 (((a.getD x 0):Nat):Int)))),(6,.e (iP x)),(20,.e (iP x)),(19,.e (iP a.length)),(18,.e (ah a)),(5,.own 17),(1,.e (ah b))],[(17,.row false 79 (a.length+b.length) 1 (eN ((dj (a.getD x 0) x b (ca a b x) k).1)))]⟩
theorem O6(a b:List Nat)(ha:ay a)(hb:ay b)(h1:a.length<=3000)(h2:b.length<=3000):ae 221 [ah a,ah b] (ah (ca a b a.length)):=by
 exact tr false Tryz.call221 Tryz.func221 (chain [ar ((a.length:Int)+(b.length:Int)) (by omega),
  .a (by omega:0<=(((a.length:Int)+(b.length:Int)):Int)/\(((a.length:Int)+(b.length:Int)):Int)<=(((a.length:Int)+(b.length:Int)):Int)),
  .a (by omega:((4:Nat):Int)*((a.length:Int)+(b.length:Int))<=281474976710656/\(((a.length:Int)+(b.length:Int)):Int)<=9223372036854775807),
  .s (Sp.upto (DJ a b) 0 a.length (by omega) (fun x hx hltx=>by
    have f1:=ha.getD x;have so:=qM ha hb x (by omega);have g1:=so.len;have g2:=(qL f1 hb so.ok (i:=x) (by omega) b.length (by omega)).len;have g3:=(qL f1 hb so.ok (i:=x) (by omega) b.length (by omega)).lt;exact aB (chain [tT 21 ((x:Int)<(a.length:Int)) (by omega),iX ((x:Int)) (a.length) (by omega),
     .s (Sp.upto (DK a b x) 0 b.length (by omega) (fun k hk hltk=>by
    have f2:=hb.getD k;have q:=qL f1 hb so.ok (i:=x) (by omega) k (by omega);have f3:=q.ok.getD (x+k);have f4:=q.lt;have f5:=q.len;have f6:=DL f1 f2;exact aB (chain [tT 28 ((k:Int)<(b.length:Int)) (by omega),iX ((k:Int)) (b.length) (by omega),
     .o 33 (.int (fW _ (by omega)):PV.le (.e (.v (.int .u64 (IntKind.u64.wrap (((a.getD x 0):Nat):Int))))) (.e (.v (.int .u64 (((a.getD x 0):Nat):Int))))),
     .o 35 (.int (fW _ (by omega)):PV.le (.e (.v (.int .u64 (IntKind.u64.wrap (((b.getD k 0):Nat):Int))))) (.e (.v (.int .u64 (((b.getD k 0):Nat):Int))))),
     mN ((((a.getD x 0):Nat):Int)*(((b.getD k 0):Nat):Int)) (by omega),ar ((x:Int)+(k:Int)) (by omega),iX ((((x+k):Nat):Int)) ((a.length+b.length)) (by omega),
     .a (by omega:(x+k)<(a.length+b.length)),
     .o 43 (.int (fW _ (by omega)):PV.le (.e (.v (.int .u64 (IntKind.u64.wrap (((((dj (a.getD x 0) x b (ca a b x) k).1).getD (x+k) 0):Nat):Int))))) (.e (.v (.int .u64 (((((dj (a.getD x 0) x b (ca a b x) k).1).getD (x+k) 0):Nat):Int))))),
     mN (((((a.getD x 0)*(b.getD k 0)):Nat):Int)+(((((dj (a.getD x 0) x b (ca a b x) k).1).getD (x+k) 0):Nat):Int)) (by omega),
     mN ((((((a.getD x 0)*(b.getD k 0))+(((dj (a.getD x 0) x b (ca a b x) k).1).getD (x+k) 0)):Nat):Int)+(((dj (a.getD x 0) x b (ca a b x) k).2:Nat):Int)) (by omega),
     ar ((x:Int)+(k:Int)) (by omega),
     .o 52 (.int (pK _):PV.le (.e (.v (.int .u32 (IntKind.u32.wrap ((((((a.getD x 0)*(b.getD k 0))+(((dj (a.getD x 0) x b (ca a b x) k).1).getD (x+k) 0))+(dj (a.getD x 0) x b (ca a b x) k).2):Nat):Int))))) (.e (.v (.int .u32 (((((((a.getD x 0)*(b.getD k 0))+(((dj (a.getD x 0) x b (ca a b x) k).1).getD (x+k) 0))+(dj (a.getD x 0) x b (ca a b x) k).2)%4294967296):Nat):Int))))),
     .a (by omega:0<=(32:Int)/\(32:Int)<=((64:Nat):Int)),
     .o 54 (.int (FP _):PV.le (.e (.v (.int .u64 (((((((a.getD x 0)*(b.getD k 0))+(((dj (a.getD x 0) x b (ca a b x) k).1).getD (x+k) 0))+(dj (a.getD x 0) x b (ca a b x) k).2):Nat):Int)/2^32)))) (.e (.v (.int .u64 (((((((a.getD x 0)*(b.getD k 0))+(((dj (a.getD x 0) x b (ca a b x) k).1).getD (x+k) 0))+(dj (a.getD x 0) x b (ca a b x) k).2)/4294967296):Nat):Int))))),
     iX ((((x+k):Nat):Int)) ((a.length+b.length)) (by omega),.a (by omega:(x+k)<(a.length+b.length)),ar ((k:Int)+1) (by omega)] <| .e (chain [.o 8 (.int (by first|rfl|omega|(simp only[Nat.add_mul,Nat.one_mul];omega)):PV.le (.e (.v (.int .u64 (((((((a.getD x 0)*(b.getD k 0))+(((dj (a.getD x 0) x b (ca a b x) k).1).getD (x+k) 0))+(dj (a.getD x 0) x b (ca a b x) k).2)/4294967296):Nat):Int)))) (.e (.v (.int .u64 (((dj (a.getD x 0) x b (ca a b x) (k+1)).2:Nat):Int))))),
  .b 17 (yF rfl (by omega):Bx.le (.row false 79 (a.length+b.length) 1 (fun i' j'=>if i'=(x+k)/\0<=j'/\j'<0+1 then[(.v (.int .u32 (((((((a.getD x 0)*(b.getD k 0))+(((dj (a.getD x 0) x b (ca a b x) k).1).getD (x+k) 0))+(dj (a.getD x 0) x b (ca a b x) k).2)%4294967296):Nat):Int)))].getD (j'-0) .any else(eN ((dj (a.getD x 0) x b (ca a b x) k).1)) i' j')) (.row false 79 (a.length+b.length) 1 (eN ((dj (a.getD x 0) x b (ca a b x) (k+1)).1))))] <| .nil)) (by kernel_rfl))
  (fun hk=>by
    exact aB (chain [tF 28 ((b.length:Int)<(b.length:Int)) (by omega)] <| .nil) (by kernel_rfl)) (by nofun):bD 7 Tryz.f221 (DK a b x 0) (.exit 2) ⟨67,false,[(8,.e (.v (.int .u64 (((dj (a.getD x 0) x b (ca a b x) b.length).2:Nat):Int)))),(6,.e (iP x)),(20,.e (iP x)),(19,.e (iP a.length)),(18,.e (ah a)),(5,.own 17),(1,.e (ah b))],[(17,.row false 79 (a.length+b.length) 1 (eN ((dj (a.getD x 0) x b (ca a b x) b.length).1)))]⟩) (chain [.o 8 (.int (by first|rfl|omega|(simp only[Nat.add_mul,Nat.one_mul];omega)):PV.le (.e (.v (.int .u64 0))) (.e (.v (.int .u64 (((dj (a.getD x 0) x b (ca a b x) 0).2:Nat):Int))))),
  .b 17 (.of_eq rfl:Bx.le (.row false 79 (a.length+b.length) 1 (eN (ca a b x))) (.row false 79 (a.length+b.length) 1 (eN ((dj (a.getD x 0) x b (ca a b x) 0).1))))] <| .nil),
     ar ((x:Int)+(b.length:Int)) (by omega),
     .o 63 (.int (pK _):PV.le (.e (.v (.int .u32 (IntKind.u32.wrap (((dj (a.getD x 0) x b (ca a b x) b.length).2:Nat):Int))))) (.e (.v (.int .u32 ((((dj (a.getD x 0) x b (ca a b x) b.length).2%4294967296):Nat):Int))))),
     iX ((((x+b.length):Nat):Int)) ((a.length+b.length)) (by omega),.a (by omega:(x+b.length)<(a.length+b.length)),ar ((x:Int)+1) (by omega)] <| .e (chain [.b 17 (yF rfl (by omega):Bx.le (.row false 79 (a.length+b.length) 1 (fun i' j'=>if i'=(x+b.length)/\0<=j'/\j'<0+1 then[(.v (.int .u32 ((((dj (a.getD x 0) x b (ca a b x) b.length).2%4294967296):Nat):Int)))].getD (j'-0) .any else(eN ((dj (a.getD x 0) x b (ca a b x) b.length).1)) i' j')) (.row false 79 (a.length+b.length) 1 (eN (ca a b (x+1)))))] <| .nil)) (by kernel_rfl))
  (fun hx=>by
    exact aB (chain [tF 21 ((a.length:Int)<(a.length:Int)) (by omega)] <| .nil) (by kernel_rfl)) (by nofun):bD 3 Tryz.f221 (DJ a b 0) (.exit 0) ⟨67,false,[(5,.own 17)],[(17,.row false 79 (a.length+b.length) 1 (eN (ca a b a.length)))]⟩) (chain [.b 17 (Ft rfl (fun i=>by simp[ca,List.getD_eq_getElem?_getD,List.getElem?_replicate];split<;>rfl):Bx.le (.row false 79 (a.length+b.length) 1 (fun _ j_=>[(.v (.int .u32 0))].getD j_ .any)) (.row false 79 (a.length+b.length) 1 (eN (ca a b 0))))] <| .nil)]<|rR (ah (ca a b a.length)) (FV (by rw[(qM ha hb a.length (by omega)).len]):E.le (.sl false (a.length+b.length) 1 (eN (ca a b a.length))) (ah (ca a b a.length)))) (by kernel_rfl)
open Go.RowKit Fp Pu
theorem xz(L:List Nat)(h:L.length<=256):ae 203 [ah L] (bP false):=by
 exact tr true Tryz.call203 Tryz.func203 (chain [tF 5 (256<(L.length:Int)) (by omega)] <| .nil) (by kernel_rfl)
theorem O5(L:List Nat)(h1:L.length<=256):ae 164 [(.sl true 1 1 fun i_ j_=>[(ah L)].getD (i_*1+j_) (.v (.bool false)))] (bP false):=by
 exact tr true Tryz.call164 Tryz.func164 (chain [.c (Dj true 1 _ 203 [] (fun _=>false) (fun i hi=>(match i,hi with|0,_=>xz _ h1|n+1,hi=>absurd hi (by omega))) (by omega) (fun _ _=>rfl):ae 202 [(.sl true 1 1 fun i_ j_=>[(ah L)].getD (i_*1+j_) (.v (.bool false))),(.fn 203 [])] _)] <| .nil) (by kernel_rfl)
theorem DS(L:List Nat)(M:List Nat)(h1:L.length<=256)(h2:M.length<=256):ae 164 [(.sl true 2 1 fun i_ j_=>[(ah L),(ah M)].getD (i_*1+j_) (.v (.bool false)))] (bP false):=by
 exact tr true Tryz.call164 Tryz.func164 (chain [.c (Dj true 2 _ 203 [] (fun _=>false) (fun i hi=>(match i,hi with|0,_=>xz _ h1|1,_=>xz _ h2|n+2,hi=>absurd hi (by omega))) (by omega) (fun _ _=>rfl):ae 202 [(.sl true 2 1 fun i_ j_=>[(ah L),(ah M)].getD (i_*1+j_) (.v (.bool false))),(.fn 203 [])] _)] <| .nil) (by kernel_rfl)
theorem O7(L M:List Nat)(hL:ay L)(hM:ay M)(h1:L.length<=256)(h2:M.length<=256)(hf:(af (val L*val M)).length<=256):ae 181 [ah L,ah M] (.aq [ah (af (val L*val M)),iP 0]):=by
 have ka:=hL.aw;have kb:=hM.aw;have ta:=eD L;have tb:=eD M;unfold cN at ta tb;have km:=(qM ka kb _ (Nat.le_refl _)).ok;have he:aw (ca (aw L) (aw M) (aw L).length)=af (val L*val M):=by rw[fN km,Tg ka kb,eP,eP]
 have hd:(aw (ca (aw L) (aw M) (aw L).length)).length<=256:=by rw[he];exact hf
 exact tr true Tryz.call181 Tryz.func181 (chain [.c (DS _ _ ‹_› ‹_›:ae 164 [(.sl true 2 1 fun i_ j_=>[(ah L),(ah M)].getD (i_*1+j_) (.v (.bool false)))] _),.c (iH _ hL:ae 167 [(ah L)] _),
  .c (iH _ hM:ae 167 [(ah M)] _),.c (O6 _ _ ka kb (by omega) (by omega):ae 221 [(ah (aw L)),(ah (aw M))] _),.c (DQ _ km hd:ae 165 [(ah (ca (aw L) (aw M) (aw L).length))] _)]<|rQ (.aq [(ah (aw (ca (aw L) (aw M) (aw L).length))),(iP 0)]) (.aq [ah (af (val L*val M)),iP 0]) (by rw[he])) (by kernel_rfl)
theorem lq(m n:Nat)(h1:(af m).length<=256)(h2:(af n).length<=256)(hf:(af (m*n)).length<=256):ae 181 [ah (af m),ah (af n)] (.aq [ah (af (m*n)),iP 0]):=by
 have:=O7 (af m) (af n) (cA m) (cA n) h1 h2 (by rw[bc,bc];exact hf);rwa[bc,bc]at this
open Go.RowKit Fp Pu
theorem jG(m n:Nat)(h1:(af m).length<=256)(h2:n<=65536)(h3:(af (m*2^n)).length<=256):ae 216 [(ah (af m)),(iP n)] (ah (af (m*2^n))):=by
 exact tr true Tryz.call216 Tryz.func216 (chain [.c (DX _ _ (by omega) (by omega) (by omega):ae 168 [(ah (af m)),(iP n)] _)] <| .nil) (by kernel_rfl)
theorem yl(m n:Nat)(h1:(af m).length<=256)(h2:n<=65536):ae 217 [(ah (af m)),(iP n)] (.aq [(ah (af (m/2^n))),(bP (decide (m%2^n≠0)))]):=by
 have hb:=nc h1;have hq:(af (m/2^n)).length<=256:=en (by have:=jN (Nat.div_le_self m (2^n));omega);have hq2:(af (m/2^n*2^n)).length<=256:=en (by have:=jN (Nat.div_mul_le_self m (2^n));omega);have hr:(af (m/2^ak m)).length<=256:=en (by have:=jN (Nat.div_le_self m (2^ak m));omega)
 have hr2:(af (m/2^ak m*2^ak m)).length<=256:=en (by have:=jN (Nat.div_mul_le_self m (2^ak m));omega);by_cases hn:ak m<n
 .have q1:=BO (Nat.le_of_lt hn)
  have q2:=BO (Nat.le_refl (ak m));exact tr true Tryz.call217 Tryz.func217 (chain [.c (gT _ (by omega):ae 194 [(ah (af m))] _),tT 11 ((((ak m):Nat):Int)<(n:Int)) (by omega),.c (gT _ (by omega):ae 194 [(ah (af m))] _),
   .c (xA _ _ (by omega) (by omega):ae 127 [(ah (af m)),(iP (((ak m):Nat):Int))] _),.c (jG _ _ (by omega) (by omega) (by omega):ae 216 [(ah (af (m/2^(ak m)))),(iP (((ak m):Nat):Int))] _),
   .c (ln _ _ (by omega) (by omega):ae 131 [(ah (af ((m/2^(ak m))*2^(ak m)))),(ah (af m))] _)]<|rQ (.aq [(ah (af (m/2^(ak m)))),(bP ((bH ((m/2^(ak m))*2^(ak m)) m) != 0))]) (.aq [(ah (af (m/2^n))),(bP (decide (m%2^n≠0)))]) (by rw[Dt,q1.1,q1.2,q2.1,q2.2])) (by kernel_rfl)
 .exact tr true Tryz.call217 Tryz.func217 (chain [.c (gT _ (by omega):ae 194 [(ah (af m))] _),tF 11 ((((ak m):Nat):Int)<(n:Int)) (by omega),.c (xA _ _ (by omega) (by omega):ae 127 [(ah (af m)),(iP n)] _),
   .c (jG _ _ (by omega) (by omega) (by omega):ae 216 [(ah (af (m/2^n))),(iP n)] _),.c (ln _ _ (by omega) (by omega):ae 131 [(ah (af ((m/2^n)*2^n))),(ah (af m))] _)]<|rQ (.aq [(ah (af (m/2^n))),(bP ((bH ((m/2^n)*2^n) m) != 0))]) (.aq [(ah (af (m/2^n))),(bP (decide (m%2^n≠0)))]) (by rw[Dt])) (by kernel_rfl)
open Go.RowKit Fp Pu
abbrev zj:E:=.sl false 1 1 fun i_ j_=>[(.v (.int .u32 1))].getD (i_*1+j_) (.v (.bool false))
abbrev uO(p):=ah (af (0*2^((0-(aG 0 0 p)).toNat)))
def dO(m:Nat)(e:Int)(p:Nat):Nat:=if aG m e p<=e then m*2^(e-aG m e p).toNat else m/2^(aG m e p-e).toNat
def gy(m:Nat)(e:Int)(more:Bool)(p:Nat):Bool:=if aG m e p<=e then more else(more||decide (m%2^(aG m e p-e).toNat≠0))
theorem Kq(m:Nat)(e:Int)(more:Bool)(p:Nat):dC m e more p false=dO m e p:=by unfold dC dO;simp
theorem vR{m:Nat}{e:Int}{more:Bool}{p:Nat}(hm:more=true->p<ak m):dC m e more p true=dO m e p+if gy m e more p=true then 1 else 0:=by
 unfold dC dO gy;by_cases hU:aG m e p<=e
 .have hmo:more=false:=by
   cases hmore:more with
   | false=>rfl
   | true=>have:=hm hmore;unfold aG at hU;omega
  simp[hU,hmo]
 .simp [hU]
theorem Qz(m:Nat)(e:Int)(more up:Bool)(p:Nat)(h1:(af m).length<=256)(h0:m≠0)(hp1:8<=p)(hp2:p<=512)(he1:-45000<=e)(he2:e<=45000)(hm:more=true->p<ak m):ae 220 [(.agg [(ah (af m)),(iP e),(bP more)]),iP (p:Int),bP up] (.aq [ag (bn false m e more p up),iP (bd false m e more p up)]):=by
 have hsu:=BB (e:=e) true h0 hm (show 1<=p by omega);have hsd:=BB (e:=e) false h0 hm (show 1<=p by omega);have hb:=nc h1;have hbp:=dX h0;have hqb:=BA (e:=e) (more:=more) (p:=p) (up:=true) h0;have hqa:=BA (e:=e) (more:=more) (p:=p) (up:=false) h0;rw[Kq]at hsd hqa;have hu1:-16384<=(aG m e p):=by unfold aG;omega
 have hu2:(aG m e p)<=60000:=by unfold aG;omega
 have hu3:(aG m e p)<=max (e+8192) (-16384):=by unfold aG;omega
 have fa:(af (dO m e p)).length<=256:=en (by omega);have fb:(af (dC m e more p true)).length<=256:=en (by omega);have f1:(af 1).length<=256:=en (by decide);cases up with
 | true =>
  exact tr true Tryz.call220 Tryz.func220 (chain [.c (gT _ (by omega):ae 194 [(ah (af m))] _),ar (e+(((ak m):Nat):Int)) (by omega),ar ((e+(((ak m):Nat):Int))-(p:Int)) (by omega),
   .o 21 (.int (by unfold aG;split<;>omega):PV.le (.e (iP (if(-16384)>((e+(((ak m):Nat):Int))-(p:Int))then(-16384)else((e+(((ak m):Nat):Int))-(p:Int))))) (.e (iP (aG m e p)))),
   .j 58 ⟨84,true,[(9,.e (ah (af (dO m e p)))),(10,.e (bP (gy m e more p))),(8,.e (iP (aG m e p))),(6,.box 6 0),(1,.e (iP p)),(2,.e (bP true))],[(6,.cells 31 [(bP false),(.v (.slice none 0 0)),(iP 0)])]⟩
   (.w ((aG m e p)<=e)
    (fun m1=>by
     have fx:(af (m*2^(e-(aG m e p)).toNat)).length<=256:=by have:=fa;rwa[show dO m e p=_ from if_pos m1]at this
     exact chain [.v 29 (.bool (decide_eq_true m1)),ar (e-(aG m e p)) (by omega),.o 35 (.int (by omega):PV.le (.e (iP (e-(aG m e p)))) (.e (iP (((e-(aG m e p)).toNat:Nat):Int)))),
      .c (jG m ((e-(aG m e p)).toNat:Nat) (by omega) (by omega) (by omega))] <| .e (chain [.o 9 (.e (.of_eq (by rw[show dO m e p=_ from if_pos m1])):PV.le (.e (ah (af (m*2^((e-(aG m e p)).toNat))))) (.e (ah (af (dO m e p))))),tB 10 (by simp[gy,m1]:more=(gy m e more p))] <| .nil))
    (fun m1=>chain [.v 29 (.bool (decide_eq_false m1)),ar ((aG m e p)-e) (by omega),.o 43 (.int (by omega):PV.le (.e (iP ((aG m e p)-e))) (.e (iP ((((aG m e p)-e).toNat:Nat):Int)))),
     .c (yl m (((aG m e p)-e).toNat:Nat) (by omega) (by omega))] <| .w (more=true)
     (fun m2=>chain [tB 48 (m2)] <| .e (chain [.o 9 (.e (.of_eq (by rw[show dO m e p=_ from if_neg m1])):PV.le (.e (ah (af (m/2^(((aG m e p)-e).toNat))))) (.e (ah (af (dO m e p))))),tB 10 (by simp[gy,m1,m2]:true=(gy m e more p))] <| .nil))
     (fun m2=>chain [tB 48 (Bool.eq_false_iff.2 m2)] <| .e (chain [.o 9 (.e (.of_eq (by rw[show dO m e p=_ from if_neg m1])):PV.le (.e (ah (af (m/2^(((aG m e p)-e).toNat))))) (.e (ah (af (dO m e p))))),
  tB 10 (by simp[gy,m1,m2]:(decide (m%2^(((aG m e p)-e).toNat)≠0))=(gy m e more p))] <| .nil)))),
   .j 110 ⟨84,true,[(9,.e (ah (af (dC m e more p true)))),(8,.e (iP (aG m e p))),(6,.box 6 0),(1,.e (iP p)),(2,.e (bP true))],[(6,.cells 31 [(bP false),(.v (.slice none 0 0)),(iP 0)])]⟩
   (.w (gy m e more p=true)
    (fun m1=>by
     have fx:(af (dO m e p+1)).length<=256:=by have:=fb;rwa[vR hm,if_pos m1]at this
     exact chain [.v 55 (.bool (m1)),.o 58 (.e one_le:PV.le (.e zj) (.e (ah (af 1)))),
      .c (tH _ _ (by omega) (by omega) (by omega):ae 218 [(ah (af (dO m e p))),(ah (af 1))] _)] <| .e (chain [.o 9 (.e (.of_eq (by rw[vR hm,if_pos m1])):PV.le (.e (ah (af ((dO m e p)+1)))) (.e (ah (af (dC m e more p true)))))] <| .nil))
    (fun m1=>chain [.v 55 (.bool (Bool.eq_false_iff.2 m1))] <| .e (chain [.o 9 (.e (.of_eq (by rw[vR hm,if_neg m1,Nat.add_zero])):PV.le (.e (ah (af (dO m e p)))) (.e (ah (af (dC m e more p true)))))] <| .nil))),
   .c (gT _ (by omega):ae 194 [(ah (af (dC m e more p true)))] _),ar ((((ak (dC m e more p true)):Nat):Int)+(aG m e p)) (by omega)] <| .w (16384<((((ak (dC m e more p true)):Nat):Int)+(aG m e p)))
   (fun k1=>by
    have w1:=(hsu.resolve_left (fun h=>absurd k1 (by omega))).2.resolve_right (fun h=>absurd h.1 (by decide));exact chain [tB 66 (decide_eq_true k1),.o 68 (.e kf:PV.le (.e (.agg [(bP false),(.v (.slice none 0 0)),(iP 0)])) (.e (ag aT)))]<|rQ (.aq [(ag aT),(iP 9)]) (.aq [ag (bn false m e more p true),iP (bd false m e more p true)]) (by rw[w1.2.1,w1.2.2]))
   (fun k1=>by
    have w1:=hsu.resolve_right (fun h=>k1 h.1);have hd:cY (canon false (dC m e more p true) (aG m e p)):=by rw[<-w1.2.1];exact(ia false m e more p true (by omega) (by omega)).range
    exact chain [tB 66 (decide_eq_false k1),.c (nk _ _ _ (by omega) (by omega) (by omega) ‹_›:ae 262 [(bP false),(ah (af (dC m e more p true))),(iP (aG m e p))] _)]<|rQ (.aq [(ag (canon false (dC m e more p true) (aG m e p))),(iP 0)]) (.aq [ag (bn false m e more p true),iP (bd false m e more p true)]) (by rw[w1.2.1,w1.2.2]))) (by kernel_rfl)
 | false =>
  exact tr true Tryz.call220 Tryz.func220 (chain [.c (gT _ (by omega):ae 194 [(ah (af m))] _),ar (e+(((ak m):Nat):Int)) (by omega),ar ((e+(((ak m):Nat):Int))-(p:Int)) (by omega),
   .o 21 (.int (by unfold aG;split<;>omega):PV.le (.e (iP (if(-16384)>((e+(((ak m):Nat):Int))-(p:Int))then(-16384)else((e+(((ak m):Nat):Int))-(p:Int))))) (.e (iP (aG m e p)))),
   .j 58 ⟨84,true,[(9,.e (ah (af (dO m e p)))),(10,.e (bP (gy m e more p))),(8,.e (iP (aG m e p))),(6,.box 6 0),(1,.e (iP p)),(2,.e (bP false))],[(6,.cells 31 [(bP false),(.v (.slice none 0 0)),(iP 0)])]⟩
   (.w ((aG m e p)<=e)
    (fun m1=>by
     have fx:(af (m*2^(e-(aG m e p)).toNat)).length<=256:=by have:=fa;rwa[show dO m e p=_ from if_pos m1]at this
     exact chain [.v 29 (.bool (decide_eq_true m1)),ar (e-(aG m e p)) (by omega),.o 35 (.int (by omega):PV.le (.e (iP (e-(aG m e p)))) (.e (iP (((e-(aG m e p)).toNat:Nat):Int)))),
      .c (jG m ((e-(aG m e p)).toNat:Nat) (by omega) (by omega) (by omega))] <| .e (chain [.o 9 (.e (.of_eq (by rw[show dO m e p=_ from if_pos m1])):PV.le (.e (ah (af (m*2^((e-(aG m e p)).toNat))))) (.e (ah (af (dO m e p))))),tB 10 (by simp[gy,m1]:more=(gy m e more p))] <| .nil))
    (fun m1=>chain [.v 29 (.bool (decide_eq_false m1)),ar ((aG m e p)-e) (by omega),.o 43 (.int (by omega):PV.le (.e (iP ((aG m e p)-e))) (.e (iP ((((aG m e p)-e).toNat:Nat):Int)))),
     .c (yl m (((aG m e p)-e).toNat:Nat) (by omega) (by omega))] <| .w (more=true)
     (fun m2=>chain [tB 48 (m2)] <| .e (chain [.o 9 (.e (.of_eq (by rw[show dO m e p=_ from if_neg m1])):PV.le (.e (ah (af (m/2^(((aG m e p)-e).toNat))))) (.e (ah (af (dO m e p))))),tB 10 (by simp[gy,m1,m2]:true=(gy m e more p))] <| .nil))
     (fun m2=>chain [tB 48 (Bool.eq_false_iff.2 m2)] <| .e (chain [.o 9 (.e (.of_eq (by rw[show dO m e p=_ from if_neg m1])):PV.le (.e (ah (af (m/2^(((aG m e p)-e).toNat))))) (.e (ah (af (dO m e p))))),
  tB 10 (by simp[gy,m1,m2]:(decide (m%2^(((aG m e p)-e).toNat)≠0))=(gy m e more p))] <| .nil)))),
   .c (gT _ (by omega):ae 194 [(ah (af (dO m e p)))] _),ar ((((ak (dO m e p)):Nat):Int)+(aG m e p)) (by omega)] <| .w (16384<((((ak (dO m e p)):Nat):Int)+(aG m e p)))
   (fun k1=>by
    have w1:=(hsd.resolve_left (fun h=>absurd k1 (by omega))).2.resolve_left (fun h=>absurd h.1 (by decide));have hd:cY (canon false ((1*2^p)-1) (16384-(p:Int))):=by rw[Nat.one_mul,<-w1.2.1];exact(ia false m e more p false (by omega) (by omega)).range
    have g0:ak (1*2^p)=p+1:=by rw[Nat.one_mul];exact kR (Nat.le_refl _) (Nat.pow_lt_pow_right (by decide) (by omega))
    have g1:(af 1).length<=256:=en (by decide);have g2:(af (1*2^p)).length<=256:=en (by omega);have g4:1<=1*2^p:=by rw[Nat.one_mul];exact Nat.pow_pos (by decide)
    have g3:(af ((1*2^p)-1)).length<=256:=en (by have:=jN (Nat.sub_le (1*2^p) 1);omega);exact chain [tB 66 (decide_eq_true k1),.o 70 (.e one_le:PV.le (.e zj) (.e (ah (af 1)))),.c (jG 1 p (by omega) (by omega) (by omega)),
     .o 73 (.e one_le:PV.le (.e zj) (.e (ah (af 1)))),
     .c (qQ _ _ (by omega) (by omega) (by omega):ae 219 [(ah (af (1*2^p))),(ah (af 1))] _),ar (16384-(p:Int)) (by omega),
     .c (nk _ _ _ (by omega) (by omega) (by omega) ‹_›:ae 262 [(bP false),(ah (af ((1*2^p)-1))),(iP (16384-(p:Int)))] _)]<|rQ (.aq [(ag (canon false ((1*2^p)-1) (16384-(p:Int)))),(iP 0)]) (.aq [ag (bn false m e more p false),iP (bd false m e more p false)]) (by rw[w1.2.1,w1.2.2,Nat.one_mul]))
   (fun k1=>by
    have w1:=hsd.resolve_right (fun h=>k1 h.1);have hd:cY (canon false (dO m e p) (aG m e p)):=by rw[<-w1.2.1];exact(ia false m e more p false (by omega) (by omega)).range
    exact chain [tB 66 (decide_eq_false k1),.c (nk _ _ _ (by omega) (by omega) (by omega) ‹_›:ae 262 [(bP false),(ah (af (dO m e p))),(iP (aG m e p))] _)]<|rQ (.aq [(ag (canon false (dO m e p) (aG m e p))),(iP 0)]) (.aq [ag (bn false m e more p false),iP (bd false m e more p false)]) (by rw[w1.2.1,w1.2.2]))) (by kernel_rfl)
theorem QA(up:Bool)(p:Nat)(hp1:8<=p)(hp2:p<=512):ae 220 [(.agg [(ah (af 0)),(iP 0),(bP false)]),iP (p:Int),bP up] (.aq [ag (bn false 0 0 false p up),iP (bd false 0 0 false p up)]):=by
 have hU:aG 0 0 p = -(p:Int):=by unfold aG;rw[gQ];omega
 have hK:a7 0 0 p=0:=by unfold a7;rw[gQ];omega
 have hQ:bX 0 0 false p up=0:=by unfold bX;rw[hK];simp
 have hO:cH 0 0 false p up=false:=by unfold cH;rw[hQ];simp
 have hout:(false != up)=up:=by cases up<;>rfl
 have k2:bn false 0 0 false p up=aT:=by unfold bn;rw[hout,hO,if_neg (by decide),hQ];rfl
 have k3:bd false 0 0 false p up=0:=by unfold bd;rw[hout,hO];rfl
 have lz:ak 0=0:=rfl;have l0:(af 0).length<=256:=by rw[dP];decide
 have l1:(af (0*2^(0-aG 0 0 p).toNat)).length<=256:=by rw[Nat.zero_mul];exact l0
 have lb:ak (0*2^(0-aG 0 0 p).toNat)=0:=by rw[Nat.zero_mul];rfl
 have hd:cY (canon false (0*2^(0-aG 0 0 p).toNat) (aG 0 0 p)):=by rw[Nat.zero_mul];exact .inl rfl
 by_cases hup:up=true
 .exact tr true Tryz.call220 Tryz.func220 (chain [.c (gT _ (by omega):ae 194 [(ah (af 0))] _),ar (0+(((ak 0):Nat):Int)) (by omega),ar ((0+(((ak 0):Nat):Int))-(p:Int)) (by omega),
   .o 21 (.int (by unfold aG;rw[gQ];split<;>omega):PV.le (.e (iP (if(-16384)>((0+(((ak 0):Nat):Int))-(p:Int))then(-16384)else((0+(((ak 0):Nat):Int))-(p:Int))))) (.e (iP (aG 0 0 p)))),
   tT 29 ((aG 0 0 p)<=0) (by omega),ar (0-(aG 0 0 p)) (by omega),.o 35 (.int (by omega):PV.le (.e (iP (0-(aG 0 0 p)))) (.e (iP (((0-(aG 0 0 p)).toNat:Nat):Int)))),
   .c (jG 0 ((0-(aG 0 0 p)).toNat:Nat) (by omega) (by omega) (by omega)),tB 52 (hup:up=true),.c (gT _ (by omega):ae 194 [(uO p)] _),
   ar ((((ak (0*2^((0-(aG 0 0 p)).toNat))):Nat):Int)+(aG 0 0 p)) (by omega),tF 66 (16384<((((ak (0*2^((0-(aG 0 0 p)).toNat))):Nat):Int)+(aG 0 0 p))) (by omega),
   .c (nk _ _ _ (by omega) (by omega) (by omega) ‹_›:ae 262 [(bP false),(uO p),(iP (aG 0 0 p))] _)]<|rQ (.aq [(ag (canon false (0*2^((0-(aG 0 0 p)).toNat)) (aG 0 0 p))),(iP 0)]) (.aq [ag (bn false 0 0 false p up),iP (bd false 0 0 false p up)]) (by rw[k2,k3,Nat.zero_mul];rfl)) (by kernel_rfl)
 .exact tr true Tryz.call220 Tryz.func220 (chain [.c (gT _ (by omega):ae 194 [(ah (af 0))] _),ar (0+(((ak 0):Nat):Int)) (by omega),ar ((0+(((ak 0):Nat):Int))-(p:Int)) (by omega),
   .o 21 (.int (by unfold aG;rw[gQ];split<;>omega):PV.le (.e (iP (if(-16384)>((0+(((ak 0):Nat):Int))-(p:Int))then(-16384)else((0+(((ak 0):Nat):Int))-(p:Int))))) (.e (iP (aG 0 0 p)))),
   tT 29 ((aG 0 0 p)<=0) (by omega),ar (0-(aG 0 0 p)) (by omega),.o 35 (.int (by omega):PV.le (.e (iP (0-(aG 0 0 p)))) (.e (iP (((0-(aG 0 0 p)).toNat:Nat):Int)))),
   .c (jG 0 ((0-(aG 0 0 p)).toNat:Nat) (by omega) (by omega) (by omega)),tB 52 (by simpa using hup:up=false),.c (gT _ (by omega):ae 194 [(uO p)] _),
   ar ((((ak (0*2^((0-(aG 0 0 p)).toNat))):Nat):Int)+(aG 0 0 p)) (by omega),tF 66 (16384<((((ak (0*2^((0-(aG 0 0 p)).toNat))):Nat):Int)+(aG 0 0 p))) (by omega),
   .c (nk _ _ _ (by omega) (by omega) (by omega) ‹_›:ae 262 [(bP false),(uO p),(iP (aG 0 0 p))] _)]<|rQ (.aq [(ag (canon false (0*2^((0-(aG 0 0 p)).toNat)) (aG 0 0 p))),(iP 0)]) (.aq [ag (bn false 0 0 false p up),iP (bd false 0 0 false p up)]) (by rw[k2,k3,Nat.zero_mul];rfl)) (by kernel_rfl)
theorem pt(m:Nat)(e:Int)(more up:Bool)(p:Nat)(h1:(af m).length<=256)(h0:m≠0\/m=0/\e=0/\more=false)(hp1:8<=p)(hp2:p<=512)(he1:-45000<=e)(he2:e<=45000)(hm:more=true->p<ak m):ae 220 [(.agg [(ah (af m)),(iP e),(bP more)]),iP (p:Int),bP up] (.aq [ag (bn false m e more p up),iP (bd false m e more p up)]):=by
 rcases h0 with h0|⟨rfl,rfl,rfl⟩
 .exact Qz m e more up p h1 h0 hp1 hp2 he1 he2 hm
 .exact QA up p hp1 hp2
open Go.RowKit Fp Pu
def cB(p:Int):Bool:=decide (8<=p)&&decide (p<=512)
theorem fS{p:Int}:cB p=true↔8<=p/\p<=512:=by simp[cB]
theorem jx(p:Int):ae 87 [iP p] (bP (cB p)):=by
 by_cases h:8<=p
 .exact tr true Tryz.call87 Tryz.func87 (chain [tB 4 (decide_eq_true h)]<|rQ (bP (decide (p<=512))) (bP (cB p)) (by simp[cB,h])) (by kernel_rfl)
 .exact tr true Tryz.call87 Tryz.func87 (chain [tB 4 (decide_eq_false h)]<|rQ (bP false) (bP (cB p)) (by simp[cB,h])) (by kernel_rfl)
theorem QZ(p:Int):ae 48 [iP p] (bP (cB p)):=by
 by_cases h:8<=p
 .exact tr true Tryz.call48 Tryz.func48 (chain [tB 4 (decide_eq_true h)]<|rQ (bP (decide (p<=512))) (bP (cB p)) (by simp[cB,h])) (by kernel_rfl)
 .exact tr true Tryz.call48 Tryz.func48 (chain [tB 4 (decide_eq_false h)]<|rQ (bP false) (bP (cB p)) (by simp[cB,h])) (by kernel_rfl)
theorem QC(p:Int):ae 214 [iP p] (bP (cB p)):=by
 by_cases h:8<=p
 .exact tr true Tryz.call214 Tryz.func214 (chain [tB 4 (decide_eq_true h)]<|rQ (bP (decide (p<=512))) (bP (cB p)) (by simp[cB,h])) (by kernel_rfl)
 .exact tr true Tryz.call214 Tryz.func214 (chain [tB 4 (decide_eq_false h)]<|rQ (bP false) (bP (cB p)) (by simp[cB,h])) (by kernel_rfl)
open Go.RowKit Fp Pu
def ER(l:List Dy)(p:Nat)(i:Nat):PS:=⟨20,true,[(9,.e (iP i)),(8,.e (iP l.length)),(7,.e (dx l)),(0,.e (iP p))],[]⟩
theorem rm(neg:Bool)(m:Nat)(e:Int)(more up:Bool)(p:Nat)(h1:(af m).length<=256)(h0:m≠0\/m=0/\e=0/\more=false)(hp1:8<=p)(hp2:p<=512)(he1:-45000<=e)(he2:e<=45000)(hm:more=true->p<ak m):ae 180 [(bP neg),(.agg [(ah (af m)),(iP e),(bP more)]),(iP p),(bP up)] (.aq [ag (bn neg m e more p up),iP (bd neg m e more p up)]):=by
 cases neg with
 | true =>
  have hs:=BF true m e more p up;change _/\(bd false m e more p (!(up==true))=0->_->aC (bn false m e more p (!(up==true)))=_)/\((bd false m e more p (!(up==true))≠0\/_)->bn false m e more p (!(up==true))=_)at hs;have hE:bd true m e more p up=bd false m e more p (!(up==true)):=hs.1;have hv:=ia false m e more p (!(up==true)) (show 1<=p by omega) (by omega)
  by_cases hz:bd false m e more p (!(up==true))=0
  .exact tr true Tryz.call180 Tryz.func180 (chain [.c (pt _ _ _ _ _ (by omega) ‹_› (by omega) (by omega) (by omega) (by omega) ‹_›:ae 220 [(.agg [(ah (af m)),(iP e),(bP more)]),(iP p),(bP (!(up==true)))] _),
    tB 22 (by rw[hz];rfl:((bd false m e more p (!(up==true)))==0)=true),.c (kX _ ‹_›:ae 191 [(ag (bn false m e more p (!(up==true))))] _)]<|rQ (.aq [(ag (aC (bn false m e more p (!(up==true))))),(iP (bd false m e more p (!(up==true))))]) (.aq [ag (bn true m e more p up),iP (bd true m e more p up)]) (by rw[hs.2.1 hz rfl,hE])) (by kernel_rfl)
  .exact tr true Tryz.call180 Tryz.func180 (chain [.c (pt _ _ _ _ _ (by omega) ‹_› (by omega) (by omega) (by omega) (by omega) ‹_›:ae 220 [(.agg [(ah (af m)),(iP e),(bP more)]),(iP p),(bP (!(up==true)))] _),
    tB 22 (by simpa using hz:((bd false m e more p (!(up==true)))==0)=false)]<|rQ (.aq [(ag (bn false m e more p (!(up==true)))),(iP (bd false m e more p (!(up==true))))]) (.aq [ag (bn true m e more p up),iP (bd true m e more p up)]) (by rw[hs.2.2 (.inl hz),hE])) (by kernel_rfl)
 | false =>
  have hs:=BF false m e more p up;change _/\(bd false m e more p (!(up==false))=0->_->aC (bn false m e more p (!(up==false)))=_)/\((bd false m e more p (!(up==false))≠0\/_)->bn false m e more p (!(up==false))=_)at hs;have hE:bd false m e more p up=bd false m e more p (!(up==false)):=hs.1;have hv:=ia false m e more p (!(up==false)) (show 1<=p by omega) (by omega)
  by_cases hz:bd false m e more p (!(up==false))=0
  .exact tr true Tryz.call180 Tryz.func180 (chain [.c (pt _ _ _ _ _ (by omega) ‹_› (by omega) (by omega) (by omega) (by omega) ‹_›:ae 220 [(.agg [(ah (af m)),(iP e),(bP more)]),(iP p),(bP (!(up==false)))] _),
    tB 22 (by rw[hz];rfl:((bd false m e more p (!(up==false)))==0)=true)]<|rQ (.aq [(ag (bn false m e more p (!(up==false)))),(iP (bd false m e more p (!(up==false))))]) (.aq [ag (bn false m e more p up),iP (bd false m e more p up)]) (by rw[hs.2.2 (.inr rfl),hE])) (by kernel_rfl)
  .exact tr true Tryz.call180 Tryz.func180 (chain [.c (pt _ _ _ _ _ (by omega) ‹_› (by omega) (by omega) (by omega) (by omega) ‹_›:ae 220 [(.agg [(ah (af m)),(iP e),(bP more)]),(iP p),(bP (!(up==false)))] _),
    tB 22 (by simpa using hz:((bd false m e more p (!(up==false)))==0)=false)]<|rQ (.aq [(ag (bn false m e more p (!(up==false)))),(iP (bd false m e more p (!(up==false))))]) (.aq [ag (bn false m e more p up),iP (bd false m e more p up)]) (by rw[hs.2.2 (.inl hz),hE])) (by kernel_rfl)
theorem QB(d:Dy):ae 215 [(ag d)] (.agg [(ah (af d.m)),(iP d.e),(bP false)]):=by
 exact tr true Tryz.call215 Tryz.func215 (.nil) (by kernel_rfl)
theorem ES(p:Nat)(l:List Dy)(hl:l.length<=1000)(hv:∀ i,i<l.length->(l.getD i aT).Valid)(hp1:8<=p)(hp2:p<=512):ae 177 [(iP p),(dx l)] (iP 0):=by
 exact tr true Tryz.call177 Tryz.func177 (chain [.s (Sp.upto (ER l p) 0 l.length (by omega) (fun i hi hlti=>by
    have hvi:=hv i hlti;exact aB (chain [tT 10 ((i:Int)<(l.length:Int)) (by omega),iX ((i:Int)) (l.length) (by omega),.c (fg _ ‹_›:ae 68 [(ag (l.getD i aT))] _),ar ((i:Int)+1) (by omega)] <| .nil) (by kernel_rfl))
  (fun hi=>by
    exact aB (chain [tF 10 ((l.length:Int)<(l.length:Int)) (by omega)] <| .nil) (by kernel_rfl)) (by nofun):bD 2 Tryz.f177 (ER l p 0) (.exit 0) ⟨20,true,[(0,.e (iP p))],[]⟩) .nil,
  .c (QC _:ae 214 [(iP p)] _),tB 18 (fS.2 ⟨by omega,by omega⟩:(cB (p:Int))=true)] <| .nil) (by kernel_rfl)
theorem yi(p:Nat)(a:Dy)(ha:a.Valid)(hp1:8<=p)(hp2:p<=512):ae 177 [iP (p:Int),dx [a]] (iP 0) :=
 ES p [a] (by simp) (fun i hi=>(match i,hi with
  | 0,_=>ha
  | n+1,hi=>absurd hi (by simp))) hp1 hp2
theorem jV(p:Nat)(a b:Dy)(ha:a.Valid)(hb:b.Valid)(hp1:8<=p)(hp2:p<=512):ae 177 [iP (p:Int),dx [a,b]] (iP 0) :=
 ES p [a,b] (by simp) (fun i hi=>(match i,hi with
  | 0,_=>ha
  | 1,_=>hb
  | n+2,hi=>absurd hi (by simp))) hp1 hp2
theorem ue(d:Dy)(p:Nat)(up:Bool)(hd:d.Valid)(hp1:8<=p)(hp2:p<=512):ae 178 [(ag d),(iP p),(bP up)] (.aq [ag (bq d p up),iP (bg d p up)]):=by
 have hl:=hd.af;have hz:d.m≠0\/d.m=0/\d.e=0/\false=false:=by
  by_cases h:d.m=0
  .rcases hd.canon with q|q
   .exact .inr ⟨h,q.2.2,rfl⟩
   .omega
  .exact .inl h
 have hx1:-45000<=d.e:=by have:=hd.exp;omega
 have hx2:d.e<=45000:=by have:=hd.exp;omega
 have hm:false=true->p<ak d.m:=fun h=>by cases h
 exact tr true Tryz.call178 Tryz.func178 (chain [.o 11 (.e (wa _):PV.le (.e (.sl true 1 3 fun i_ j_=>(aQ d).getD (i_*3+j_) (.v (.bool false)))) (.e (dx [d]))),.c (yi _ _ ‹_› (by omega) (by omega):ae 177 [(iP p),(dx [d])] _),
  tB 14 (by decide:((0:Int) != 0)=false),.c (QB _:ae 215 [(ag d)] _),
  .c (rm _ _ _ _ _ _ (by omega) ‹_› (by omega) (by omega) (by omega) (by omega) ‹_›:ae 180 [(bP d.neg),(.agg [(ah (af d.m)),(iP d.e),(bP false)]),(iP p),(bP up)] _)] <| .nil) (by kernel_rfl)
theorem oI{a b:Nat}:bH a b<0↔a<b:=by
 unfold bH;split
 .simp_all
 .split<;>simp_all
theorem uf(a b:Dy)(p:Nat)(ha:a.Valid)(hb:b.Valid)(a0:a.m≠0)(b0:b.m≠0)(ht:b.top<=a.top)(hp1:8<=p)(hp2:p<=512):ae 179 [(ag a),(ag b),(iP p)] (.aq [(.agg [(ah (af (cw a b p))),(iP (aH a b p)),(bP (dq a b p))]),bP (eB a b p)]):=by
 have sz:=uH ha hb a0 b0 ht hp2;have sp:=y4 ha hb a0 b0 ht hp2;obtain⟨l1,l2,l3,l4,l5,l6,l7,l8,l9⟩:=sz;obtain⟨l10,l11,l12⟩:=sp;obtain⟨r1,r2,r3⟩:=yC a b p;have va:=ha.af;have vb:=hb.af;have xa:=ha.exp;have xb:=hb.exp;have ta:=rI a0;have tb:=rI b0;have ba:=nc va;have bb:=nc vb
 have z1:(af (a.m*2^((a.e-(aH a b p)).toNat))).length<=256:=en (show ak (dF a b p)<=_ by omega);have zy:(af (cX b (aH a b p))).length<=256:=en (by omega);have z3:(af (cV a b p)).length<=256:=en (by omega);have zm:(af (cw a b p)).length<=256:=en (by omega);have z5:(af 1).length<=256:=en (by decide)
 exact tr true Tryz.call179 Tryz.func179 (chain [.c (bR _ ‹_›:ae 130 [(ag a)] _),ar ((Dy.top a)-(p:Int)) (by omega),ar (((Dy.top a)-(p:Int))-8) (by omega),.c (bR _ ‹_›:ae 130 [(ag a)] _),
  .c (bR _ ‹_›:ae 130 [(ag b)] _),ar ((Dy.top a)-(Dy.top b)) (by omega),
  .j 62 ⟨109,true,[(8,.e (iP (aH a b p))),(6,.box 6 0),(4,.box 4 0),(3,.box 3 0)],[(6,.cells 148 [(.v (.slice none 0 0)),(iP 0),(bP false)]),(4,.cells 31 (aQ b)),(3,.cells 31 (aQ a))]⟩
   (.w (((Dy.top a)-(Dy.top b))<=2)
    (fun m1=>chain [.v 31 (.bool (decide_eq_true m1))] <| .e (chain [.o 8 (.int (by unfold aH;rw[if_pos m1];split<;>split<;>omega):PV.le (.e (iP (if b.e<(if(((Dy.top a)-(p:Int))-8)<a.e then(((Dy.top a)-(p:Int))-8)else a.e)then b.e else(if(((Dy.top a)-(p:Int))-8)<a.e then(((Dy.top a)-(p:Int))-8)else a.e)))) (.e (iP (aH a b p))))] <| .nil))
    (fun m1=>chain [.v 31 (.bool (decide_eq_false m1))] <| .e (chain [.o 8 (.int (by unfold aH;rw[if_neg m1];split<;>omega):PV.le (.e (iP (if(((Dy.top a)-(p:Int))-8)<a.e then(((Dy.top a)-(p:Int))-8)else a.e))) (.e (iP (aH a b p))))] <| .nil))),
  ar (a.e-(aH a b p)) (by omega),.o 41 (.int (by omega):PV.le (.e (iP (a.e-(aH a b p)))) (.e (iP ((((a.e-(aH a b p)).toNat):Nat):Int)))),.c (jG a.m ((a.e-(aH a b p)).toNat) (by omega) (by omega) (by omega)),
  .j 92 ⟨109,true,[(10,.e (ah (af (cX b (aH a b p))))),(11,.e (bP (dz b (aH a b p)))),(9,.e (ah (af (a.m*2^((a.e-(aH a b p)).toNat))))),(8,.e (iP (aH a b p))),(6,.box 6 0),(4,.box 4 0),(3,.box 3 0)],[(6,.cells 148 [(.v (.slice none 0 0)),(iP 0),(bP false)]),(4,.cells 31 (aQ b)),(3,.cells 31 (aQ a))]⟩
   (.w ((aH a b p)<=b.e)
    (fun m1=>by
     have z2:(af (b.m*2^((b.e-(aH a b p)).toNat))).length<=256:=by have:=zy;rwa[show cX b (aH a b p)=_ from if_pos m1]at this
     exact chain [.v 46 (.bool (decide_eq_true m1)),ar (b.e-(aH a b p)) (by omega),.o 52 (.int (by omega):PV.le (.e (iP (b.e-(aH a b p)))) (.e (iP ((((b.e-(aH a b p)).toNat):Nat):Int)))),
      .c (jG b.m ((b.e-(aH a b p)).toNat) (by omega) (by omega) (by omega))] <| .e (chain [.o 10 (.e (.of_eq (by rw[show cX b (aH a b p)=_ from if_pos m1])):PV.le (.e (ah (af (b.m*2^((b.e-(aH a b p)).toNat))))) (.e (ah (af (cX b (aH a b p)))))),
  tB 11 (by simp[dz,m1]:false=(dz b (aH a b p)))] <| .nil))
    (fun m1=>chain [.v 46 (.bool (decide_eq_false m1)),ar ((aH a b p)-b.e) (by omega),.o 60 (.int (by omega):PV.le (.e (iP ((aH a b p)-b.e))) (.e (iP (((((aH a b p)-b.e).toNat):Nat):Int)))),
     .c (yl b.m (((aH a b p)-b.e).toNat) (by omega) (by omega))] <| .e (chain [.o 10 (.e (.of_eq (by rw[show cX b (aH a b p)=_ from if_neg m1])):PV.le (.e (ah (af (b.m/2^(((aH a b p)-b.e).toNat))))) (.e (ah (af (cX b (aH a b p)))))),
  tB 11 (by simp[dz,m1]:(decide (b.m%2^(((aH a b p)-b.e).toNat)≠0))=(dz b (aH a b p)))] <| .nil)))] <| .w (a.neg=b.neg)
  (fun k1=>by
   have eT:eB a b p=false:=by unfold eB;simp[k1]
   have eY:cV a b p=cX b (aH a b p):=by unfold cV;simp[k1]
   have eM:cw a b p=dF a b p+cX b (aH a b p):=by unfold cw;rw[if_pos k1,eY]
   have eS:dq a b p=dz b (aH a b p):=by unfold dq;rw[eT];simp
   have z4:(af ((a.m*2^((a.e-(aH a b p)).toNat))+cX b (aH a b p))).length<=256:=by have:=zm;rwa[eM]at this
   exact chain [tB 68 (beq_iff_eq.2 k1),.c (tH _ _ (by omega) (by omega) (by omega):ae 218 [(ah (af (a.m*2^((a.e-(aH a b p)).toNat)))),(ah (af (cX b (aH a b p))))] _)]<|rQ (.aq [(.agg [(ah (af ((a.m*2^((a.e-(aH a b p)).toNat))+(cX b (aH a b p))))),(iP (aH a b p)),(bP (dz b (aH a b p)))]),(bP false)]) (.aq [(.agg [(ah (af (cw a b p))),(iP (aH a b p)),(bP (dq a b p))]),bP (eB a b p)]) (by rw[eM,eS,eT];rfl))
  (fun k1=>chain [tB 68 (beq_eq_false_iff_ne.2 k1),
   .j 158 ⟨109,true,[(10,.e (ah (af (cV a b p)))),(11,.e (bP (dz b (aH a b p)))),(9,.e (ah (af (a.m*2^((a.e-(aH a b p)).toNat))))),(8,.e (iP (aH a b p))),(6,.box 6 0)],[(6,.cells 148 [(.v (.slice none 0 0)),(iP 0),(bP false)])]⟩
   (.w (dz b (aH a b p)=true)
    (fun m1=>by
     have z6:(af ((cX b (aH a b p))+1)).length<=256:=en (by rw[show(cX b (aH a b p))+1=cV a b p by(unfold cV;simp[k1,m1])];omega);exact chain [.v 79 (.bool (m1)),.o 82 (.e one_le:PV.le (.e (.sl false 1 1 fun i_ j_=>[(.v (.int .u32 1))].getD (i_*1+j_) (.v (.bool false)))) (.e (ah (af 1)))),
      .c (tH _ _ (by omega) (by omega) (by omega):ae 218 [(ah (af (cX b (aH a b p)))),(ah (af 1))] _)] <| .e (chain [.o 10 (.e (.of_eq (by unfold cV;simp[k1,m1])):PV.le (.e (ah (af ((cX b (aH a b p))+1)))) (.e (ah (af (cV a b p)))))] <| .nil))
    (fun m1=>chain [.v 79 (.bool (Bool.eq_false_iff.2 m1))] <| .e (chain [.o 10 (.e (.of_eq (by unfold cV;simp[k1,m1])):PV.le (.e (ah (af (cX b (aH a b p))))) (.e (ah (af (cV a b p)))))] <| .nil))),
   .c (ln _ _ (by omega) (by omega):ae 131 [(ah (af (a.m*2^((a.e-(aH a b p)).toNat)))),(ah (af (cV a b p)))] _)] <| .w ((bH (a.m*2^((a.e-(aH a b p)).toNat)) (cV a b p))<0)
   (fun k2=>by
    have hc:dF a b p<cV a b p:=oI.1 k2;have eT:eB a b p=true:=by unfold eB;simp[k1,hc]
    have eM:cw a b p=cV a b p-dF a b p:=by unfold cw;rw[if_neg k1,if_pos hc]
    have eS:dq a b p=false:=by unfold dq;rw[eT];simp
    have z4:(af (cV a b p-(a.m*2^((a.e-(aH a b p)).toNat)))).length<=256:=by have:=zm;rwa[eM]at this
    have z7:(a.m*2^((a.e-(aH a b p)).toNat))<=cV a b p:=Nat.le_of_lt hc
    exact chain [tB 89 (decide_eq_true k2),.c (qQ _ _ (by omega) (by omega) (by omega):ae 219 [(ah (af (cV a b p))),(ah (af (a.m*2^((a.e-(aH a b p)).toNat))))] _)]<|rQ (.aq [(.agg [(ah (af ((cV a b p)-(a.m*2^((a.e-(aH a b p)).toNat))))),(iP (aH a b p)),(bP false)]),(bP true)]) (.aq [(.agg [(ah (af (cw a b p))),(iP (aH a b p)),(bP (dq a b p))]),bP (eB a b p)]) (by rw[eM,eS,eT];rfl))
   (fun k2=>by
    have hc:¬dF a b p<cV a b p:=fun h=>k2 (oI.2 h)
    have eT:eB a b p=false:=by unfold eB;simp[hc]
    have eM:cw a b p=dF a b p-cV a b p:=by unfold cw;rw[if_neg k1,if_neg hc]
    have eS:dq a b p=dz b (aH a b p):=by unfold dq;rw[eT];simp
    have z4:(af ((a.m*2^((a.e-(aH a b p)).toNat))-cV a b p)).length<=256:=by have:=zm;rwa[eM]at this
    have z7:cV a b p<=(a.m*2^((a.e-(aH a b p)).toNat)):=Nat.le_of_not_lt hc
    exact chain [tB 89 (decide_eq_false k2),.c (qQ _ _ (by omega) (by omega) (by omega):ae 219 [(ah (af (a.m*2^((a.e-(aH a b p)).toNat)))),(ah (af (cV a b p)))] _)]<|rQ (.aq [(.agg [(ah (af ((a.m*2^((a.e-(aH a b p)).toNat))-(cV a b p)))),(iP (aH a b p)),(bP (dz b (aH a b p)))]),(bP false)]) (.aq [(.agg [(ah (af (cw a b p))),(iP (aH a b p)),(bP (dq a b p))]),bP (eB a b p)]) (by rw[eM,eS,eT];rfl)))) (by kernel_rfl)
open Go.RowKit Fp Pu
theorem mL(p:Nat)(up:Bool):bq aT p up=aT/\bg aT p up=0:=by
 have hK:a7 0 0 p=0:=by unfold a7;rw[gQ];omega
 have hQ:∀ o,bX 0 0 false p o=0:=by intro o;unfold bX;rw[hK];simp
 have hO:∀ o,cH 0 0 false p o=false:=by intro o;unfold cH;rw[hQ];simp
 unfold bq bg bn bd;simp only[aT,hO,hQ];exact⟨rfl,rfl⟩
theorem EM(a b:Dy)(p:Nat)(up:Bool)(ha:a.Valid)(hb:b.Valid)(hp1:8<=p)(hp2:p<=512):ae 144 [(ag a),(ag b),(iP p),(bP up)] (.aq [ag (bq (av a b) p up),iP (bg (av a b) p up)]):=by
 by_cases a0:a.m=0
 .have e1:av a b=b:=by unfold av;rw[if_pos a0]
  exact tr true Tryz.call144 Tryz.func144 (chain [.o 16 (.e (jQ _ _):PV.le (.e (.sl true 2 3 fun i_ j_=>(aQ a++aQ b).getD (i_*3+j_) (.v (.bool false)))) (.e (dx [a,b]))),
   .c (jV _ _ _ ‹_› ‹_› (by omega) (by omega):ae 177 [(iP p),(dx [a,b])] _),tB 19 (by decide:((0:Int) != 0)=false),
   tB 26 (iW (iC.2 a0):((((af a.m).length:Nat):Int)==0)=true),.c (ue b p up ‹_› (by omega) (by omega))]<|rQ (.aq [(ag (bq b p up)),(iP (bg b p up))]) (.aq [ag (bq (av a b) p up),iP (bg (av a b) p up)]) (by rw[e1])) (by kernel_rfl)
 .by_cases b0:b.m=0
  .have e1:av a b=a:=by unfold av;rw[if_neg a0,if_pos b0]
   exact tr true Tryz.call144 Tryz.func144 (chain [.o 16 (.e (jQ _ _):PV.le (.e (.sl true 2 3 fun i_ j_=>(aQ a++aQ b).getD (i_*3+j_) (.v (.bool false)))) (.e (dx [a,b]))),
    .c (jV _ _ _ ‹_› ‹_› (by omega) (by omega):ae 177 [(iP p),(dx [a,b])] _),tB 19 (by decide:((0:Int) != 0)=false),
    tB 26 (dZ (fA a0):((((af a.m).length:Nat):Int)==0)=false),tB 37 (iW (iC.2 b0):((((af b.m).length:Nat):Int)==0)=true),.c (ue a p up ‹_› (by omega) (by omega))]<|rQ (.aq [(ag (bq a p up)),(iP (bg a p up))]) (.aq [ag (bq (av a b) p up),iP (bg (av a b) p up)]) (by rw[e1])) (by kernel_rfl)
  .by_cases ht:a.top<b.top
   .have ht2:a.top<=b.top:=by omega
    have law:=Ge (p:=p) hb ha b0 a0 up;have siz:=uH hb ha b0 a0 ht2 hp2;have prt:=y4 hb ha b0 a0 ht2 hp2;obtain⟨l1,l2,_,_,_,_,_,_,_⟩:=siz;have z1:(af (cw b a p)).length<=256:=en (by omega);have hmm:=prt.2.2;have y1:-45000<=aH b a p:=by omega
    have y2:aH b a p<=45000:=by omega
    by_cases hz:cw b a p=0
    .by_cases hl:dq b a p=true
     .have h0:cw b a p≠0:=by intro q;have:=hmm hl;rw[q,gQ]at this;omega
      exact absurd hz h0
     .replace hz:cw b a p=0/\dq b a p=false:=⟨hz,by simpa using hl⟩
      have hsum:av a b=aT:=by rw[y3 a0 b0];exact law.1 hz
      exact tr true Tryz.call144 Tryz.func144 (chain [.o 16 (.e (jQ _ _):PV.le (.e (.sl true 2 3 fun i_ j_=>(aQ a++aQ b).getD (i_*3+j_) (.v (.bool false)))) (.e (dx [a,b]))),
       .c (jV _ _ _ ‹_› ‹_› (by omega) (by omega):ae 177 [(iP p),(dx [a,b])] _),tB 19 (by decide:((0:Int) != 0)=false),
       tB 26 (dZ (fA a0):((((af a.m).length:Nat):Int)==0)=false),tB 37 (dZ (fA b0):((((af b.m).length:Nat):Int)==0)=false),.c (bR _ ‹_›:ae 130 [(ag a)] _),
       .c (bR _ ‹_›:ae 130 [(ag b)] _),tB 48 (decide_eq_true ht),.c (uf b a p ‹_› ‹_› ‹_› ‹_› ‹_› (by omega) (by omega)),
       tB 61 (iW (iC.2 hz.1):((((af (cw b a p)).length:Nat):Int)==0)=true),tB 64 (hz.2:(dq b a p)=false),.o 67 (.e kf:PV.le (.e (.agg [(bP false),(.v (.slice none 0 0)),(iP 0)])) (.e (ag aT)))]<|rQ (.aq [(ag aT),(iP 0)]) (.aq [ag (bq (av a b) p up),iP (bg (av a b) p up)]) (by rw[hsum,(mL p up).1,(mL p up).2])) (by kernel_rfl)
    .have h0:cw b a p≠0\/cw b a p=0/\aH b a p=0/\dq b a p=false:=.inl hz
     obtain⟨q1,q2⟩:=law.2 (fun q=>hz q.1);rw[<-y3 a0 b0]at q1 q2;exact tr true Tryz.call144 Tryz.func144 (chain [.o 16 (.e (jQ _ _):PV.le (.e (.sl true 2 3 fun i_ j_=>(aQ a++aQ b).getD (i_*3+j_) (.v (.bool false)))) (.e (dx [a,b]))),
      .c (jV _ _ _ ‹_› ‹_› (by omega) (by omega):ae 177 [(iP p),(dx [a,b])] _),tB 19 (by decide:((0:Int) != 0)=false),
      tB 26 (dZ (fA a0):((((af a.m).length:Nat):Int)==0)=false),tB 37 (dZ (fA b0):((((af b.m).length:Nat):Int)==0)=false),.c (bR _ ‹_›:ae 130 [(ag a)] _),
      .c (bR _ ‹_›:ae 130 [(ag b)] _),tB 48 (decide_eq_true ht),.c (uf b a p ‹_› ‹_› ‹_› ‹_› ‹_› (by omega) (by omega)),
      tB 61 (dZ (fA hz):((((af (cw b a p)).length:Nat):Int)==0)=false),
      .c (rm (! (b.neg==(eB b a p))) (cw b a p) (aH b a p) (dq b a p) up p (by omega) ‹_› (by omega) (by omega) (by omega) (by omega) ‹_›)]<|rQ (.aq [(ag (bn (!(b.neg==(eB b a p))) (cw b a p) (aH b a p) (dq b a p) p up)),(iP (bd (!(b.neg==(eB b a p))) (cw b a p) (aH b a p) (dq b a p) p up))]) (.aq [ag (bq (av a b) p up),iP (bg (av a b) p up)]) (by rw[<-q1,<-q2];rfl)) (by kernel_rfl)
   .have ht2:b.top<=a.top:=by omega
    have law:=Ge (p:=p) ha hb a0 b0 up;have siz:=uH ha hb a0 b0 ht2 hp2;have prt:=y4 ha hb a0 b0 ht2 hp2;obtain⟨l1,l2,_,_,_,_,_,_,_⟩:=siz;have z1:(af (cw a b p)).length<=256:=en (by omega);have hmm:=prt.2.2;have y1:-45000<=aH a b p:=by omega
    have y2:aH a b p<=45000:=by omega
    by_cases hz:cw a b p=0
    .by_cases hl:dq a b p=true
     .have h0:cw a b p≠0:=by intro q;have:=hmm hl;rw[q,gQ]at this;omega
      exact absurd hz h0
     .replace hz:cw a b p=0/\dq a b p=false:=⟨hz,by simpa using hl⟩
      have hsum:av a b=aT:=by exact law.1 hz
      exact tr true Tryz.call144 Tryz.func144 (chain [.o 16 (.e (jQ _ _):PV.le (.e (.sl true 2 3 fun i_ j_=>(aQ a++aQ b).getD (i_*3+j_) (.v (.bool false)))) (.e (dx [a,b]))),
       .c (jV _ _ _ ‹_› ‹_› (by omega) (by omega):ae 177 [(iP p),(dx [a,b])] _),tB 19 (by decide:((0:Int) != 0)=false),
       tB 26 (dZ (fA a0):((((af a.m).length:Nat):Int)==0)=false),tB 37 (dZ (fA b0):((((af b.m).length:Nat):Int)==0)=false),.c (bR _ ‹_›:ae 130 [(ag a)] _),
       .c (bR _ ‹_›:ae 130 [(ag b)] _),tB 48 (decide_eq_false ht),.c (uf a b p ‹_› ‹_› ‹_› ‹_› ‹_› (by omega) (by omega)),
       tB 61 (iW (iC.2 hz.1):((((af (cw a b p)).length:Nat):Int)==0)=true),tB 64 (hz.2:(dq a b p)=false),.o 67 (.e kf:PV.le (.e (.agg [(bP false),(.v (.slice none 0 0)),(iP 0)])) (.e (ag aT)))]<|rQ (.aq [(ag aT),(iP 0)]) (.aq [ag (bq (av a b) p up),iP (bg (av a b) p up)]) (by rw[hsum,(mL p up).1,(mL p up).2])) (by kernel_rfl)
    .have h0:cw a b p≠0\/cw a b p=0/\aH a b p=0/\dq a b p=false:=.inl hz
     obtain⟨q1,q2⟩:=law.2 (fun q=>hz q.1);exact tr true Tryz.call144 Tryz.func144 (chain [.o 16 (.e (jQ _ _):PV.le (.e (.sl true 2 3 fun i_ j_=>(aQ a++aQ b).getD (i_*3+j_) (.v (.bool false)))) (.e (dx [a,b]))),
      .c (jV _ _ _ ‹_› ‹_› (by omega) (by omega):ae 177 [(iP p),(dx [a,b])] _),tB 19 (by decide:((0:Int) != 0)=false),
      tB 26 (dZ (fA a0):((((af a.m).length:Nat):Int)==0)=false),tB 37 (dZ (fA b0):((((af b.m).length:Nat):Int)==0)=false),.c (bR _ ‹_›:ae 130 [(ag a)] _),
      .c (bR _ ‹_›:ae 130 [(ag b)] _),tB 48 (decide_eq_false ht),.c (uf a b p ‹_› ‹_› ‹_› ‹_› ‹_› (by omega) (by omega)),
      tB 61 (dZ (fA hz):((((af (cw a b p)).length:Nat):Int)==0)=false),
      .c (rm (! (a.neg==(eB a b p))) (cw a b p) (aH a b p) (dq a b p) up p (by omega) ‹_› (by omega) (by omega) (by omega) (by omega) ‹_›)]<|rQ (.aq [(ag (bn (!(a.neg==(eB a b p))) (cw a b p) (aH a b p) (dq a b p) p up)),(iP (bd (!(a.neg==(eB a b p))) (cw a b p) (aH a b p) (dq a b p) p up))]) (.aq [ag (bq (av a b) p up),iP (bg (av a b) p up)]) (by rw[<-q1,<-q2];rfl)) (by kernel_rfl)
theorem ET(a b:Dy)(p:Nat)(up:Bool)(ha:a.Valid)(hb:b.Valid)(hp1:8<=p)(hp2:p<=512):ae 145 [(ag a),(ag b),(iP p),(bP up)] (.aq [ag (bq (cS a b) p up),iP (bg (cS a b) p up)]):=by
 by_cases a0:a.m=0
 .have e1:cS a b=aT:=by unfold cS;rw[a0,Nat.zero_mul];rfl
  exact tr true Tryz.call145 Tryz.func145 (chain [.o 16 (.e (jQ _ _):PV.le (.e (.sl true 2 3 fun i_ j_=>(aQ a++aQ b).getD (i_*3+j_) (.v (.bool false)))) (.e (dx [a,b]))),
   .c (jV _ _ _ ‹_› ‹_› (by omega) (by omega):ae 177 [(iP p),(dx [a,b])] _),tB 19 (by decide:((0:Int) != 0)=false),
   tB 25 (iW (iC.2 a0):((((af a.m).length:Nat):Int)==0)=true),.o 32 (.e kf:PV.le (.e (.agg [(bP false),(.v (.slice none 0 0)),(iP 0)])) (.e (ag aT)))]<|rQ (.aq [(ag aT),(iP 0)]) (.aq [ag (bq (cS a b) p up),iP (bg (cS a b) p up)]) (by rw[e1,(mL p up).1,(mL p up).2])) (by kernel_rfl)
 .by_cases b0:b.m=0
  .have e1:cS a b=aT:=by unfold cS;rw[b0,Nat.mul_zero];rfl
   exact tr true Tryz.call145 Tryz.func145 (chain [.o 16 (.e (jQ _ _):PV.le (.e (.sl true 2 3 fun i_ j_=>(aQ a++aQ b).getD (i_*3+j_) (.v (.bool false)))) (.e (dx [a,b]))),
    .c (jV _ _ _ ‹_› ‹_› (by omega) (by omega):ae 177 [(iP p),(dx [a,b])] _),tB 19 (by decide:((0:Int) != 0)=false),
    tB 25 (dZ (fA a0):((((af a.m).length:Nat):Int)==0)=false),tB 30 (iW (iC.2 b0):((((af b.m).length:Nat):Int)==0)=true),
    .o 32 (.e kf:PV.le (.e (.agg [(bP false),(.v (.slice none 0 0)),(iP 0)])) (.e (ag aT)))]<|rQ (.aq [(ag aT),(iP 0)]) (.aq [ag (bq (cS a b) p up),iP (bg (cS a b) p up)]) (by rw[e1,(mL p up).1,(mL p up).2])) (by kernel_rfl)
  .have va:=ha.af
   have vb:=hb.af;have xa:=ha.exp;have xb:=hb.exp;have ra:=ha.range.resolve_left a0;have rb:=hb.range.resolve_left b0;have bm:=IT a.m b.m;have z1:(af (a.m*b.m)).length<=256:=en (by omega);have m0:a.m*b.m≠0:=Nat.mul_ne_zero a0 b0;have h0:a.m*b.m≠0\/a.m*b.m=0/\a.e+b.e=0/\false=false:=.inl m0;have hm:false=true->p<ak (a.m*b.m):=fun h=>by cases h
   obtain⟨q1,q2⟩:=Fl (a.neg != b.neg) up (a.m*b.m) (a.e+b.e) p m0;change bq (cS a b) p up=_ at q1;change bg (cS a b) p up=_ at q2;exact tr true Tryz.call145 Tryz.func145 (chain [.o 16 (.e (jQ _ _):PV.le (.e (.sl true 2 3 fun i_ j_=>(aQ a++aQ b).getD (i_*3+j_) (.v (.bool false)))) (.e (dx [a,b]))),
    .c (jV _ _ _ ‹_› ‹_› (by omega) (by omega):ae 177 [(iP p),(dx [a,b])] _),tB 19 (by decide:((0:Int) != 0)=false),
    tB 25 (dZ (fA a0):((((af a.m).length:Nat):Int)==0)=false),tB 30 (dZ (fA b0):((((af b.m).length:Nat):Int)==0)=false),
    .c (lq _ _ (by omega) (by omega) (by omega):ae 181 [(ah (af a.m)),(ah (af b.m))] _),ar (a.e+b.e) (by omega),
    .c (rm (! (a.neg==b.neg)) (a.m*b.m) (a.e+b.e) false up p (by omega) ‹_› (by omega) (by omega) (by omega) (by omega) ‹_›)]<|rQ (.aq [(ag (bn (!(a.neg==b.neg)) (a.m*b.m) (a.e+b.e) false p up)),(iP (bd (!(a.neg==b.neg)) (a.m*b.m) (a.e+b.e) false p up))]) (.aq [ag (bq (cS a b) p up),iP (bg (cS a b) p up)]) (by rw[q1,q2];rfl)) (by kernel_rfl)
theorem Qy(a b:Dy)(p:Nat)(ha:a.Valid)(hb:b.Valid)(hp1:8<=p)(hp2:p<=512):ae 88 [(ag a),(ag b),(iP p)] (.aq [ag (bq (av a b) p false),iP (bg (av a b) p false)]):=by
 exact tr true Tryz.call88 Tryz.func88 (chain [.c (EM _ _ _ _ ‹_› ‹_› (by omega) (by omega):ae 144 [(ag a),(ag b),(iP p),(bP false)] _)] <| .nil) (by kernel_rfl)
theorem EL(a b:Dy)(p:Nat)(ha:a.Valid)(hb:b.Valid)(hp1:8<=p)(hp2:p<=512):ae 89 [(ag a),(ag b),(iP p)] (.aq [ag (bq (av a b) p true),iP (bg (av a b) p true)]):=by
 exact tr true Tryz.call89 Tryz.func89 (chain [.c (EM _ _ _ _ ‹_› ‹_› (by omega) (by omega):ae 144 [(ag a),(ag b),(iP p),(bP true)] _)] <| .nil) (by kernel_rfl)
theorem uc(a b:Dy)(p:Nat)(ha:a.Valid)(hb:b.Valid)(hp1:8<=p)(hp2:p<=512):ae 92 [(ag a),(ag b),(iP p)] (.aq [ag (bq (cS a b) p false),iP (bg (cS a b) p false)]):=by
 exact tr true Tryz.call92 Tryz.func92 (chain [.c (ET _ _ _ _ ‹_› ‹_› (by omega) (by omega):ae 145 [(ag a),(ag b),(iP p),(bP false)] _)] <| .nil) (by kernel_rfl)
theorem ud(a b:Dy)(p:Nat)(ha:a.Valid)(hb:b.Valid)(hp1:8<=p)(hp2:p<=512):ae 93 [(ag a),(ag b),(iP p)] (.aq [ag (bq (cS a b) p true),iP (bg (cS a b) p true)]):=by
 exact tr true Tryz.call93 Tryz.func93 (chain [.c (ET _ _ _ _ ‹_› ‹_› (by omega) (by omega):ae 145 [(ag a),(ag b),(iP p),(bP true)] _)] <| .nil) (by kernel_rfl)
end Go.Proofs.YtdgnpeddgdclhaaGreatDoor
namespace Go.Proofs.YtdgnpeddgdclhaaGreatDoor.Fp
theorem Ob{U V P q:Nat}(hP:0<P)(hV:9223372036854775808<=V/P)(hUV:U<4294967296*V)(h1:q<=4294967295)(h2:q<=U/P/(V/P))(h3:q=4294967295\/U/P/(V/P)<=q) :
  U/V<=q/\q<=U/V+1:=by
 have hV2:0<V/P:=by omega
 have hV0:0<V:=by
  apply Classical.byContradiction;intro h;have:V=0:=by omega
  rw[this,Nat.zero_div]at hV2;omega
 have hVm:=Nat.div_add_mod V P;have hVr:=Nat.mod_lt V hP;have hUm:=Nat.div_add_mod U P;have hUr:=Nat.mod_lt U hP;constructor
 .
  rcases h3 with h3|h3
  .have:U/V<4294967296:=by rw[Nat.div_lt_iff_lt_mul hV0];exact hUV
   omega
  .refine Nat.le_trans ?_ h3
   rw[Nat.le_div_iff_mul_le hV2,Nat.le_div_iff_mul_le hP,Nat.mul_assoc];have h4:V/P*P<=V:=Nat.div_mul_le_self V P;exact Nat.le_trans (Nat.mul_le_mul_left _ h4) (Nat.div_mul_le_self U V)
 .
  have h4:q*(V/P)<=U/P:=(Nat.le_div_iff_mul_le hV2).1 h2;have h5:q*V<=q*(V/P)*P+q*P:=by
   have:V<=V/P*P+P:=by rw[Nat.mul_comm];omega
   have:=Nat.mul_le_mul_left q this;rw[Nat.mul_add,<-Nat.mul_assoc]at this;exact this
  have h6:q*(V/P)*P<=U:=Nat.le_trans (Nat.mul_le_mul_right P h4) (Nat.div_mul_le_self U P);have h7:(q+1)*P<=V/P*P:=Nat.mul_le_mul_right P (by omega);have h8:V/P*P<=V:=Nat.div_mul_le_self V P;have h9:q*V<U+V:=by
   rw[Nat.add_mul,Nat.one_mul]at h7;omega
  apply Classical.byContradiction;intro h;have h10:(U/V+2)*V<=q*V:=Nat.mul_le_mul_right V (by omega);have h11:=Nat.div_add_mod U V;have h12:=Nat.mod_lt U hV0;rw[Nat.add_mul,Nat.mul_comm (U/V)]at h10;omega
theorem Ku{x v w third q rest:Nat}(hx:q*v+rest=x)(hq:q<=4294967295)(hw:w<4294967296)(hv:0<v)
  (h:4294967296<=rest\/q*w<=rest*4294967296+third):q<=(x*4294967296+third)/(v*4294967296+w):=by
 rw[Nat.le_div_iff_mul_le (by omega),Nat.mul_add,<-hx];have e:q*(v*4294967296)=q*v*4294967296:=by rw[Nat.mul_assoc]
 rw[e,Nat.add_mul];rcases h with h|h
 .have h1:q*w<=4294967295*4294967295:=Nat.mul_le_mul hq (by omega)
  omega
 .omega
theorem BJ{x v w third q rest:Nat}(hx:q*v+rest=x)(hv:0<v)(h:rest*4294967296+third<q*w) :
  (x*4294967296+third)/(v*4294967296+w)<=q-1/\0<q/\(q-1)*v+(rest+v)=x:=by
 have hq:0<q:=by
  apply Classical.byContradiction;intro h';have:q=0:=by omega
  subst this;rw[Nat.zero_mul]at h;omega
 obtain⟨r,rfl⟩:∃ r,q=r+1:=⟨q-1,by omega⟩
 refine⟨?_,hq,?_⟩
 .have e1:(r+1)*(v*4294967296+w)=(r+1)*v*4294967296+(r+1)*w:=by rw[Nat.mul_add,<-Nat.mul_assoc]
  have e2:((r+1)*v+rest)*4294967296=(r+1)*v*4294967296+rest*4294967296:=Nat.add_mul _ _ _;have:(x*4294967296+third)/(v*4294967296+w)<r+1:=by
   have hd:0<v*4294967296+w:=by omega
   have e4:x*4294967296=(r+1)*v*4294967296+rest*4294967296:=hx▸e2;refine(Nat.div_lt_iff_lt_mul hd).2 ?_;rw[e1,e4];clear e1 e2 e4 hd hx hq;generalize (r+1)*v=a at *
   generalize (r+1)*w=z at *
   exact Nat.add_lt_add_left h _|>fun h=>by rw[<-Nat.add_assoc]at h;exact h
  omega
 .have e3:(r+1)*v=r*v+v:=Nat.succ_mul r v
  rw[Nat.add_sub_cancel];rw[e3]at hx;clear e3 h hq;generalize r*v=a at *
  omega
theorem Kw{x v w third:Nat}(hv:0<v)(ht:third<4294967296):(x*4294967296+third)/(v*4294967296+w)<=x/v:=by
 have h1:(x*4294967296+third)/(v*4294967296+w)<=(x*4294967296+third)/(v*4294967296):=Nat.div_le_div_left (by omega) (by omega);refine Nat.le_trans h1 ?_;rw[Nat.mul_comm v,<-Nat.div_div_eq_div_mul];have:(x*4294967296+third)/4294967296=x:=by omega
 rw[this];exact Nat.le_refl _
structure kn(O0:List Nat)(j q:Nat)(V:List Nat)(k:Nat)(O:List Nat)(c b:Nat):Prop where
 len:O.length=O0.length
 ok:ay O
 vl:val O+q*(4294967296^j*val (V.take k))=val O0+4294967296^(j+k)*(c+b)
 same:∀ i,j+k<=i->O.getD i 0=O0.getD i 0
 Bb:c<4294967296
 AR:b<=1
theorem kn.start{O0:List Nat}(h:ay O0)(j q:Nat)(V:List Nat):kn O0 j q V 0 O0 0 0 :=
 ⟨rfl,h,by simp[val],fun _ _=>rfl,by decide,by decide⟩
theorem SN{q y c b u:Nat}(hq:q<=4294967295)(hy:y<4294967296)(hc:c<4294967296)(hb:b<=1)(hu:u<4294967296) :
  q*y+c<18446744073709551616/\(q*y+c)/4294967296<4294967296 /\
  ((u+18446744073709551616-(q*y+c)%4294967296-b)%18446744073709551616)/9223372036854775808<=1 /\
  ((u+18446744073709551616-(q*y+c)%4294967296-b)%18446744073709551616)%4294967296+(q*y+c)%4294967296+b =
   u+4294967296*(((u+18446744073709551616-(q*y+c)%4294967296-b)%18446744073709551616)/9223372036854775808):=by
 have h1:q*y<=4294967295*4294967295:=Nat.mul_le_mul hq (by omega);generalize q*y=z at *
 omega
theorem kn.step{O0 V O:List Nat}{j q k c b:Nat}(h:kn O0 j q V k O c b){u' b':Nat}(hk:k<V.length)(hj:j+V.length<O0.length)(hu:u'<4294967296)(hc:(q*V.getD k 0+c)/4294967296<4294967296)(hb:b'<=1)
  (hd:u'+(q*V.getD k 0+c)%4294967296+b=O.getD (j+k) 0+4294967296*b') :
  kn O0 j q V (k+1) (O.set (j+k) u') ((q*V.getD k 0+c)/4294967296) b':=by
 have hkO:j+k<O.length:=by rw[h.len];omega
 refine⟨by rw[List.length_set];exact h.len,h.ok.set _ hu,?_,fun i hi=>?_,hc,hb⟩
 .have e:=Nat.mod_add_div (q*V.getD k 0+c) 4294967296
  have h1:=od (x:=u') hkO;have h2:=h.vl;have h3:u'+(q*V.getD k 0+c)+b=O.getD (j+k) 0+4294967296*((q*V.getD k 0+c)/4294967296+b'):=by omega
  have h4:=congrArg (4294967296^(j+k) * ·) h3;simp only[Nat.mul_add]at h4;rw[jJ,Nat.mul_add (4294967296^j),Nat.mul_add q,<-Nat.mul_assoc (4294967296^j),<-Nat.pow_add,show q*(4294967296^(j+k)*V.getD k 0)=4294967296^(j+k)*(q*V.getD k 0)from Nat.mul_left_comm _ _ _,
   show j+(k+1)=j+k+1 from rfl,Nat.pow_succ,Nat.mul_assoc,Nat.mul_add 4294967296,Nat.mul_add (4294967296^(j+k))]
  rw[Nat.mul_add]at h2;omega
 .rw [getD_set_ne (by omega)];exact h.same i (by omega)
theorem kn.last{O0 V O:List Nat}{j q c b:Nat}(h:kn O0 j q V V.length O c b)(hj:j+V.length<O0.length){t:Nat}
  (ht:t=(O.getD (j+V.length) 0+18446744073709551616-c-b)%18446744073709551616) :
  (O.set (j+V.length) (t%4294967296)).length=O0.length/\ay (O.set (j+V.length) (t%4294967296))/\t/9223372036854775808<=1 /\
  val (O.set (j+V.length) (t%4294967296))+q*(4294967296^j*val V)=val O0+4294967296^(j+V.length+1)*(t/9223372036854775808) /\
  ∀ i,j+V.length<i->(O.set (j+V.length) (t%4294967296)).getD i 0=O0.getD i 0:=by
 have hkO:j+V.length<O.length:=by rw[h.len];omega
 have hc:=h.Bb;have hb:=h.AR;have hu:=h.ok.getD (j+V.length);have hd:t%4294967296+c+b=O.getD (j+V.length) 0+4294967296*(t/9223372036854775808):=by omega
 refine⟨by rw[List.length_set];exact h.len,h.ok.set _ (Nat.mod_lt _ (by decide)),by omega,?_,fun i hi=>by rw[getD_set_ne (by omega)];exact h.same i (by omega)⟩;have h1:=od (x:=t%4294967296) hkO;have h2:=h.vl;rw[List.take_length]at h2;have h4:=congrArg (4294967296^(j+V.length) * ·) hd;simp only[Nat.mul_add]at h4;rw[Nat.pow_succ,Nat.mul_assoc];rw[Nat.mul_add]at h2;omega
structure ki(O0:List Nat)(j:Nat)(V:List Nat)(k:Nat)(O:List Nat)(c:Nat):Prop where
 len:O.length=O0.length
 ok:ay O
 vl:val O+4294967296^(j+k)*c=val O0+4294967296^j*val (V.take k)
 same:∀ i,j+k<=i->O.getD i 0=O0.getD i 0
 vF:c<=1
theorem ki.start{O0:List Nat}(h:ay O0)(j:Nat)(V:List Nat):ki O0 j V 0 O0 0 :=
 ⟨rfl,h,by simp[val],fun _ _=>rfl,by decide⟩
theorem ki.step{O0 V O:List Nat}{j k c:Nat}(h:ki O0 j V k O c)(hV:ay V)(hk:k<V.length)(hj:j+V.length<O0.length) :
  ki O0 j V (k+1) (O.set (j+k) ((O.getD (j+k) 0+V.getD k 0+c)%4294967296)) ((O.getD (j+k) 0+V.getD k 0+c)/4294967296):=by
 have hkO:j+k<O.length:=by rw[h.len];omega
 have hu:=h.ok.getD (j+k);have hy:=hV.getD k;have hc:=h.vF;refine⟨by rw[List.length_set];exact h.len,h.ok.set _ (Nat.mod_lt _ (by decide)),?_,fun i hi=>by rw[getD_set_ne (by omega)];exact h.same i (by omega),by omega⟩;have h1:=od (x:=(O.getD (j+k) 0+V.getD k 0+c)%4294967296) hkO;have h2:=h.vl
 have h4:=congrArg (4294967296^(j+k) * ·) (Nat.mod_add_div (O.getD (j+k) 0+V.getD k 0+c) 4294967296);simp only[Nat.mul_add]at h4;rw[jJ,Nat.mul_add (4294967296^j),<-Nat.mul_assoc (4294967296^j),<-Nat.pow_add,show j+(k+1)=j+k+1 from rfl,Nat.pow_succ,Nat.mul_assoc];omega
theorem ki.last{O0 V O:List Nat}{j c:Nat}(h:ki O0 j V V.length O c)(hj:j+V.length<O0.length) :
  (O.set (j+V.length) ((O.getD (j+V.length) 0+c)%4294967296)).length=O0.length/\ay (O.set (j+V.length) ((O.getD (j+V.length) 0+c)%4294967296)) /\
  (∃ κ,κ<=1/\val (O.set (j+V.length) ((O.getD (j+V.length) 0+c)%4294967296))+4294967296^(j+V.length+1)*κ=val O0+4294967296^j*val V) /\
  ∀ i,j+V.length<i->(O.set (j+V.length) ((O.getD (j+V.length) 0+c)%4294967296)).getD i 0=O0.getD i 0:=by
 have hkO:j+V.length<O.length:=by rw[h.len];omega
 have hu:=h.ok.getD (j+V.length);have hc:=h.vF;refine⟨by rw[List.length_set];exact h.len,h.ok.set _ (Nat.mod_lt _ (by decide)),⟨(O.getD (j+V.length) 0+c)/4294967296,by omega,?_⟩,fun i hi=>by rw[getD_set_ne (by omega)];exact h.same i (by omega)⟩;have h1:=od (x:=(O.getD (j+V.length) 0+c)%4294967296) hkO;have h2:=h.vl;rw[List.take_length]at h2
 have h4:=congrArg (4294967296^(j+V.length) * ·) (Nat.mod_add_div (O.getD (j+V.length) 0+c) 4294967296);simp only[Nat.mul_add]at h4;rw[Nat.pow_succ,Nat.mul_assoc];omega
theorem GC{O:List Nat}(h:ay O){k:Nat}(hz:∀ i,k<=i->O.getD i 0=0):val O<4294967296^k:=by
 by_cases hk:O.length<=k
 .exact Nat.lt_of_lt_of_le (dR h) (Nat.pow_le_pow_right (by decide) hk)
 .rw [pL O k (by omega)]
  have:val (O.drop k)=0:=by
   rw[val_eq_zero_iff];intro x hx;obtain⟨i,hi⟩:=List.mem_iff_getElem?.1 hx;rw[List.getElem?_drop]at hi;have:=hz (k+i) (by omega);rw[List.getD_eq_getElem?_getD,hi]at this;exact this
  rw[this,Nat.mul_zero,Nat.add_zero];have h1:=dR (h.take k);rw[List.length_take,Nat.min_eq_left (by omega)]at h1;exact h1
theorem SY{O:List Nat}(h:ay O){k:Nat}(hv:val O<4294967296^k){i:Nat}(hi:k<=i):O.getD i 0=0:=by
 have h1:val (O.drop k)=0:=by rw[rK h,Nat.div_eq_of_lt hv]
 rw[val_eq_zero_iff]at h1;rw[List.getD_eq_getElem?_getD];cases hg:O[i]? with
 | none=>rfl
 | some x=>exact h1 x (List.mem_iff_getElem?.2 ⟨i-k,by rw[List.getElem?_drop,show k+(i-k)=i by omega];exact hg⟩)
theorem BK{u u' V P x:Nat}(hP:0<P)(hV:0<V)(h:u'+x*(P*V)=u)(hx:u/P/V<=x):x=u/P/V/\u'<V*P:=by
 have h1:x*V<=u/P:=by
  rw[Nat.le_div_iff_mul_le hP,Nat.mul_assoc,Nat.mul_comm V P];omega
 have h2:x<=u/P/V:=(Nat.le_div_iff_mul_le hV).2 h1;have h3:x=u/P/V:=by omega
 refine⟨h3,?_⟩;have e1:=Nat.div_add_mod u P;have e2:=Nat.mod_lt u hP;have e3:=Nat.div_add_mod (u/P) V;have e4:=Nat.mod_lt (u/P) hV;rw[<-h3]at e3;have e5:P*(u/P)=x*(P*V)+P*(u/P%V):=by
  rw[<-e3,Nat.mul_add,e3,Nat.mul_comm V x,Nat.mul_left_comm]
 have e6:P*(u/P%V)+P<=V*P:=by
  rw[Nat.mul_comm V P,<-Nat.mul_succ];exact Nat.mul_le_mul_left P e4
 omega
theorem Kv{u u' u'' V P R x κ:Nat}(hP:0<P)(hV:0<V)(h:u'+x*(P*V)=u+R)(h':u'<R)(hx:x<=u/P/V+1)
  (hk:κ<=1) (h2:u''+R*κ=u'+P*V) (h3:u''<R):0<x/\x-1=u/P/V/\u''+(x-1)*(P*V)=u/\u''<V*P:=by
 have hx0:u/P<x*V:=by
  rw[Nat.div_lt_iff_lt_mul hP,Nat.mul_assoc,Nat.mul_comm V P];omega
 have hx1:u/P/V<x:=by rw[Nat.div_lt_iff_lt_mul hV];exact hx0
 have hx2:x=u/P/V+1:=Nat.le_antisymm hx hx1;obtain⟨y,hy⟩:∃ y,y=u/P/V:=⟨_,rfl⟩
 rw[<-hy]at hx2;subst hx2;rw[Nat.add_sub_cancel];have e0:(y+1)*(P*V)=y*(P*V)+P*V:=Nat.succ_mul _ _;have e1:y*(P*V)<=u:=by
  have:y*V<=u/P:=by rw[hy];exact Nat.div_mul_le_self _ _
  have:=(Nat.le_div_iff_mul_le hP).1 this;rw[Nat.mul_assoc,Nat.mul_comm V P]at this;exact this
 have hκ:κ=1:=by
  apply Classical.byContradiction;intro q;obtain rfl:κ=0:=by omega
  omega
 subst hκ;have e2:u''+y*(P*V)=u:=by omega
 exact⟨by omega,hy,e2,(BK hP hV e2 (by omega)).2⟩
def dcond(q rest third v w x:Nat):Prop:=rest+x*v<4294967296/\(rest+x*v)*4294967296+third<(q-x)*w
theorem BH{X q rest third v w:Nat}(hx:q*v+rest=X)(hq:q<=4294967295)(hv:2147483648<=v)(hw:w<4294967296) :
  ∃ N,N<=2/\N<=q/\(∀ x,x<N->dcond q rest third v w x)/\¬dcond q rest third v w N/\q-N<=(X*4294967296+third)/(v*4294967296+w)/\(N=0\/(X*4294967296+third)/(v*4294967296+w)<=q-N):=by
 have stop:∀ {q' r':Nat},q'*v+r'=X->q'<=4294967295->¬(r'<4294967296/\r'*4294967296+third<q'*w)->q'<=(X*4294967296+third)/(v*4294967296+w):=fun {q' r'} h1 h2 h3 =>
  Ku h1 h2 hw (by omega) (by
   by_cases hr:4294967296<=r'
   .exact .inl hr
   .refine .inr (Nat.le_of_not_lt fun hn=>h3 ⟨Nat.lt_of_not_le hr,hn⟩))
 by_cases h0:dcond q rest third v w 0
 .have g0:=h0
  unfold dcond at g0;rw[Nat.zero_mul,Nat.add_zero,Nat.sub_zero]at g0;obtain⟨k1,k2,k3⟩:=BJ hx (by omega) g0.2;by_cases h1:dcond q rest third v w 1
  .have g1:=h1
   unfold dcond at g1;rw[Nat.one_mul]at g1;obtain⟨l1,l2,l3⟩:=BJ k3 (by omega) g1.2;have h2:¬dcond q rest third v w 2:=fun h=>by unfold dcond at h;omega
   refine⟨2,Nat.le_refl _,by omega,fun x hx=>?_,h2,?_,.inr l1⟩
   .obtain rfl|rfl:x=0\/x=1:=by omega
    .exact h0
    .exact h1
   .refine stop (r':=rest+v+v) l3 (by omega) fun h=>by omega
  .refine ⟨1,by decide,k2,fun x hx=>?_,h1,?_,.inr k1⟩
   .obtain rfl:x=0:=by omega
    exact h0
   .unfold dcond at h1
    rw[Nat.one_mul]at h1;exact stop k3 (by omega) h1
 .refine ⟨0,by decide,Nat.zero_le _,fun x hx=>absurd hx (Nat.not_lt_zero x),h0,?_,.inl rfl⟩
  unfold dcond at h0;rw[Nat.zero_mul,Nat.add_zero,Nat.sub_zero]at h0;exact stop hx hq h0
theorem KF{a b s q r:Nat}(hb:0<b)(h:r+b*2^s*q=a*2^s)(hr:r<b*2^s):q=a/b/\r=a%b*2^s:=by
 have hp:0<2^s:=Nat.pow_pos (by decide);have h1:r%2^s=0:=by
  have:=congrArg (· % 2^s) h;simp only[Nat.mul_mod_left]at this;rw[Nat.mul_assoc,Nat.mul_left_comm,Nat.add_mul_mod_self_left]at this;exact this
 obtain⟨t,ht⟩:∃ t,r=t*2^s:=⟨r/2^s,by rw[Nat.div_mul_cancel (Nat.dvd_of_mod_eq_zero h1)]⟩
 subst ht;have h2:(t+b*q)*2^s=a*2^s:=by rw[Nat.add_mul,<-h,Nat.mul_right_comm]
 have h3:=Nat.eq_of_mul_eq_mul_right hp h2;have h4:t<b:=Nat.lt_of_mul_lt_mul_right hr;constructor
 .rw [<-h3,Nat.add_mul_div_left _ _ hb,Nat.div_eq_of_lt h4,Nat.zero_add]
 .rw [<-h3,Nat.add_mul_mod_self_left,Nat.mod_eq_of_lt h4]
theorem Gp{O:List Nat}(h:ay O){j n:Nat}(hn:2<=n)(hz:∀ i,j+n<i->O.getD i 0=0) :
  val O/4294967296^j/4294967296^(n-2)=(O.getD (j+n) 0*4294967296+O.getD (j+n-1) 0)*4294967296+O.getD (j+n-2) 0:=by
 rw[Nat.div_div_eq_div_mul,<-Nat.pow_add,<-rK h];have e:∀ (l:List Nat),ay l->(∀ i,2<i->l.getD i 0=0)->val l=(l.getD 2 0*4294967296+l.getD 1 0)*4294967296+l.getD 0 0:=by
  intro l hl hz;rcases l with _|⟨a,_|⟨b,_|⟨c,l⟩⟩⟩
  .rfl
  .simp [val]
  .simp [val];omega
  .have:val l=0:=by
    rw[val_eq_zero_iff];intro x hx;obtain⟨i,hi⟩:=List.mem_iff_getElem?.1 hx;have:=hz (i+3) (by omega);rw[List.getD_eq_getElem?_getD]at this;simp only[List.getElem?_cons_succ,hi]at this;exact this
   simp[val,this];omega
 have g:∀ i,(O.drop (j+(n-2))).getD i 0=O.getD (j+(n-2)+i) 0:=fun i=>by
  rw[List.getD_eq_getElem?_getD,List.getElem?_drop,List.getD_eq_getElem?_getD]
 rw[e _ (h.drop _) (fun i hi=>by rw[g];exact hz _ (by omega)),g,g,g];rw[show j+(n-2)+2=j+n by omega,show j+(n-2)+1=j+n-1 by omega,show j+(n-2)+0=j+n-2 by omega]
theorem SW{V:List Nat}(h:ay V){n:Nat}(hn:2<=n)(hl:V.length=n):val V/4294967296^(n-2)=V.getD (n-1) 0*4294967296+V.getD (n-2) 0:=by
 have:=Gp (O:=V) h (j:=0) (n:=n) hn (fun i hi=>by rw[List.getD_eq_getElem?_getD,List.getElem?_eq_none (by omega)];rfl);rw[Nat.pow_zero,Nat.div_one,Nat.zero_add]at this;rw[this,show V.getD n 0=0 by rw[List.getD_eq_getElem?_getD,List.getElem?_eq_none (by omega)];rfl];omega
end Go.Proofs.YtdgnpeddgdclhaaGreatDoor.Fp
namespace Go.Proofs.YtdgnpeddgdclhaaGreatDoor
open Go.RowKit Fp
def Rx(w:World)(b:Nat)(L:List Nat)(R:List Value):Prop:=w.heap[b]? = some (.cells (dQ L++R).toArray 79 (0,0))
section
variable {w w':World} {b:Nat} {L:List Nat} {R:List Value}
theorem Rx.lt(h:Rx w b L R):b<w.heap.size:=(Array.getElem?_eq_some_iff.1 h).1
theorem Rx.cell(h:Rx w b L R){i:Nat}(hi:i<L.length):w.cell? ⟨b,i,none⟩=some (.int .u32 ((L.getD i 0:Nat):Int)):=by
 unfold Rx at h;simp only[World.cell?,h];simp[dQ,hi,List.getElem?_append]
theorem Rx.frozen(h:Rx w b L R)(i:Nat):w.frozen? ⟨b,i,none⟩=false:=by
 unfold Rx at h;simp[World.frozen?,h]
theorem Rx.set(h:Rx w b L R){i:Nat}(hi:i<L.length)(x:Nat):Rx (w.setCell ⟨b,i,none⟩ (.int .u32 (x:Int))) b (L.set i x) R:=by
 unfold Rx at h ⊢;simp only[World.setCell,Array.getElem?_modify,h];simp[dQ,List.map_set,List.set_append,hi]
theorem Rx.same(h:Rx w b L R)(hb:w'.heap[b]? = w.heap[b]?):Rx w' b L R:=by unfold Rx at h ⊢;rw[hb];exact h
end
structure fZ(b:Nat)(w w':World):Prop where
 below:Below b w w'
 size:w'.heap.size=w.heap.size
 eH:∀ x,x≠b->w'.heap[x]? = w.heap[x]?
theorem fZ.refl(b:Nat)(w:World):fZ b w w:=⟨Below.refl _ _,rfl,fun _ _=>rfl⟩
theorem fZ.set{b:Nat}{w w':World}(h:fZ b w w')(n i:Nat)(v:Value):fZ b w ((w'.drewN n).setCell ⟨b,i,none⟩ v) :=
 ⟨(below_drewN h.below n).setCell (p:=⟨b,i,none⟩) (Nat.le_refl _) v,by
  have:((w'.drewN n).setCell ⟨b,i,none⟩ v).heap.size=w'.heap.size:=by simp[World.setCell]
  rw[this,h.size],fun x hx=>by
  rw[<-h.eH x hx];simp only[World.setCell,Array.getElem?_modify];rw[if_neg (fun e=>hx e.symm)];rfl⟩
theorem fZ.rB{b:Nat}{w w':World}(h:fZ b w w')(i:Nat)(v:Value):fZ b w (w'.setCell ⟨b,i,none⟩ v) :=
 ⟨h.below.setCell (p:=⟨b,i,none⟩) (Nat.le_refl _) v,by
  have:(w'.setCell ⟨b,i,none⟩ v).heap.size=w'.heap.size:=by simp[World.setCell]
  rw[this,h.size],fun x hx=>by
  rw[<-h.eH x hx];simp only[World.setCell,Array.getElem?_modify];rw[if_neg (fun e=>hx e.symm)]⟩
def zK(b:Nat)(A:Option Addr):Prop:=∀ b' o s,A=some ⟨b',o,s⟩->b'≠b
theorem Sl.eH{w w':World}{A:Option Addr}{c b:Nat}{L:List Nat}(h:Sl w A c L)(ha:zK b A)(ho:fZ b w w'):Sl w' A c L :=
 ⟨h.cap,h.fz,h.ok,h.none_,fun i x hx=>by
  obtain⟨b',o,e,h1,h2⟩:=h.cell i x hx;refine⟨b',o,e,by rw[ho.size];exact h1,?_⟩;rw[<-h2];exact(World.cell?_of_block (w:=w) (w':=w') (ho.eH b' (ha _ _ _ e)))⟩
theorem GN{u m b:Nat}(hm:m<4294967296)(hb:b<=4294967296) :
  IntKind.u64.wrap (IntKind.u64.wrap ((u:Int)-(m:Int))-(b:Int))=(((u+18446744073709551616-m-b)%18446744073709551616:Nat):Int):=by
 rw[IntKind.wrap_u64,IntKind.wrap_u64];omega
theorem SM(b j cu c q:Nat)(O V:List Nat)(R:List Value)(A:Option Addr)(w:World)(hu:Rx w b O R)(hv:Sl w A c V)(hA:zK b A)(hok:ay O)(hj:j+V.length<O.length)(hq:q<=4294967295)(hl:O.length<=1000000) :
  Calls Tryz.prog 341 #[.slice (some ⟨b,j,none⟩) (V.length+1) cu,.slice A V.length c,.int .u64 q] w fun e w'=>∃ (O':List Nat) (δ:Nat),e = .returned (.bool (decide (δ=1)))/\Rx w' b O' R/\O'.length=O.length/\ay O'/\δ<=1 /\
   val O'+q*(4294967296^j*val V)=val O+4294967296^(j+V.length+1)*δ/\(∀ i,j+V.length<i->O'.getD i 0=O.getD i 0)/\fZ b w w':=by
 obtain⟨n,hn⟩:∃ n,n=V.length:=⟨_,rfl⟩
 rw[<-hn]at hj ⊢;have HN:=Lib.hid hn;have HJ:=Lib.hid hj;clear hn;have hnl:n<=1000000:=by omega
 have hjl:j<=1000000:=by omega
 clear hj;have HT0:=Lib.hid (kn.start hok j q V);clear hok;have HO:=Lib.hid (fZ.refl b w);have HU:=Lib.hid hu;clear hu;go_enter Tryz.func341,Tryz.ntmps341;go_wp2
 go_loopw [7,8,9,10,11,12,16] (fun cy bo _ _ _ _ i wr=>∃ (k c' b':Nat) (O':List Nat),k<=n/\i = .int .i64 k/\cy = .int .u64 c'/\bo = .int .u64 b'/\kn O j q V k O' c' b'/\Rx wr b O' R/\fZ b w wr) (fun _ _ _ _ _ _ i _=>n-(intOf i).toNat)
 case atStart =>
  exact⟨0,0,0,O,Nat.zero_le _,rfl,rfl,rfl,HT0.out,HU.out,HO.out⟩
 case round =>
  obtain⟨k,c',b',O',hk,rfl,rfl,rfl,ht,hR,ho⟩:=hrel;clear HT0 HO HU;have HTk:=Lib.hid ht;have hb1:=ht.AR;have hc1:=ht.Bb;have HOl:=Lib.hid ht.len;clear ht;have hvw:=hv.eH hA ho;by_cases hlt:k<n
  .have hkV:k<V.length:=by rw[<-HN.out];exact hlt
   obtain⟨ab,ao,e1,_,c1⟩:=hvw.at_ hkV;have hy32:V.getD k 0<4294967296:=hv.ok.getD k;have hyg:V[k]=V.getD k 0:=by simp[List.getD_eq_getElem?_getD,hkV]
   rw[hyg]at c1;have hkO:j+k<O'.length:=by rw[HOl.out];have:=HJ.out;omega
   have c2:=hR.cell hkO;have c3:=hR.frozen (j+k);have hu32:O'.getD (j+k) 0<4294967296:=HTk.out.ok.getD _;obtain⟨hs1,hs2,hs3,hs4⟩:=SN hq hy32 hc1 hb1 hu32;have HST:=Lib.hid (HTk.out.step (b':=((O'.getD (j+k) 0+18446744073709551616-(q*V.getD k 0+c')%4294967296-b')%18446744073709551616)/9223372036854775808) hkV (by rw[<-HN.out];exact HJ.out) (Nat.mod_lt _ (by decide)) hs2 hs3 hs4)
   have HRS:=Lib.hid (fun x:Nat=>hR.set hkO x);have HOS:=Lib.hid (fun(v:Value)=>ho.rB (j+k) v);clear hR ho HTk hkO hyg hkV hs4 HOl hvw;subst e1;have hm1:q*V.getD k 0<=4294967295*4294967295:=Nat.mul_le_mul hq (by omega);have hw1:IntKind.u64.wrap ((q:Int)*((V.getD k 0:Nat):Int))=((q*V.getD k 0:Nat):Int):=by rw[<-Int.natCast_mul];exact fW _ (by omega)
   generalize V.getD k 0=y at *
   generalize q*y=z at *
   have hw2:IntKind.u64.wrap ((z:Int)+(c':Int))=((z+c':Nat):Int):=by rw[<-Int.natCast_add];exact fW _ (by omega)
   generalize O'.getD (j+k) 0=u at *
   generalize z+c'=s at *
   have hmask:bits .and .u64 (s:Int) 4294967295=((s%4294967296:Nat):Int):=by rw[kQ s (by omega)];omega
   have hm32:s%4294967296<4294967296:=Nat.mod_lt _ (by decide);have hd:(s:Int)/4294967296=((s/4294967296:Nat):Int):=by omega
   generalize s%4294967296=m at *
   generalize s/4294967296=s2 at *
   have hsb:=GN (u:=u) (m:=m) (b:=b') (by omega) (by omega);generalize (u+18446744073709551616-m-b')%18446744073709551616=t at *
   have hi1:(j:Int)+(k:Int)=((j+k:Nat):Int):=by omega
   go_wp2;go_roundw
   case rel =>
    have e1:((t:Int)%4294967296)=((t%4294967296:Nat):Int):=by omega
    exact⟨k+1,s2,t/9223372036854775808,O'.set (j+k) (t%4294967296),by omega,by go_num,by go_num,by go_num,HST.out,by rw[e1];exact HRS.out _,HOS.out _⟩
   case measure=>simp[intOf];omega
  .obtain rfl:k=n:=by omega
   have hjk:j+k<O.length:=HJ.out;have HTk':=Lib.hid (show kn O j q V V.length O' c' b' by rw[<-HN.out];exact HTk.out);have HL:=HTk'.out.last (t:=(O'.getD (j+k) 0+18446744073709551616-c'-b')%18446744073709551616) (by rw[<-HN.out];exact hjk) (by rw[<-HN.out]);rw[<-HN.out]at HL;have HT:=Lib.hid HL;clear HL;have hkO:j+k<O'.length:=by rw[HOl.out];exact hjk
   have c2:=hR.cell hkO;have c3:=hR.frozen (j+k);have hu32:O'.getD (j+k) 0<4294967296:=HTk.out.ok.getD _;have HRS:=Lib.hid (fun x:Nat=>hR.set hkO x);have HOS:=Lib.hid (fun(v:Value)=>ho.rB (j+k) v);clear hR ho HTk HTk' hkO hjk HOl hvw;generalize O'.getD (j+k) 0=u at *
   have hsb:=GN (u:=u) (m:=c') (b:=b') hc1 (by omega);have htl:(u+18446744073709551616-c'-b')%18446744073709551616<18446744073709551616:=Nat.mod_lt _ (by decide);generalize (u+18446744073709551616-c'-b')%18446744073709551616=t at *
   have hi1:(j:Int)+(k:Int)=((j+k:Nat):Int):=by omega
   go_wp2;go_ret;have e1:((t:Int)%4294967296)=((t%4294967296:Nat):Int):=by omega
   obtain⟨t1,t2,t3,t4,t5⟩:=HT.out;exact⟨O'.set (j+k) (t%4294967296),t/9223372036854775808,um (a:=(((t:Int)/9223372036854775808)==1)) (by rw[Bool.eq_iff_iff,beq_iff_eq,decide_eq_true_iff];omega),by rw[e1];exact HRS.out _,t1,t2,t3,t4,t5,HOS.out _⟩
open Go.RowKit Fp
theorem D4(A:Option Addr)(c:Nat)(L:List Nat)(n:Nat)(w:World)(hs:Sl w A c L)(hlen:L.length<=100000000)(hn:n<=65536) :
  Calls Tryz.prog 204 #[.slice A L.length c,.int .i64 n] w (fun e w'=>∃ T v,e = .returned v/\val T=val L*2^n/\T.length=n/32+(aw L).length+1/\Ow w' w.heap.size v T/\Ext w w'):=by
 have hT:=Lib.hid (iV A c L w hs);have hs2:=hs.trim;have hl2:=eD L;have hC:=hs2.cap;have hL:=hs.fz;unfold cN at hl2;have hv:=Lib.hid (eP L);generalize aw L=M at *
 obtain⟨m,hm⟩:∃ m,m=M.length:=⟨_,rfl⟩
 rw[<-hm]at hT hl2 hC;have HM:=Lib.hid hm;clear hm;have hmk:=xq (n/32) (n/32+m+1) (by omega) (by omega);rw[show((n/32:Nat):Int)=(n:Int)/32 by omega,show((n/32+m+1:Nat):Int)=(n:Int)/32+m+1 by omega]at hmk;have hOw:=Lib.hid (Ow.made w w.heap.size (n/32) (n/32+m+1) (Nat.le_refl _) (by omega) (by omega));go_enter Tryz.func204,Tryz.ntmps204;go_wp2_with fail
 refine hT.out.mono ?_;rintro e w' ⟨rfl,rfl⟩;go_wp2;go_loopw [5,6,23] (fun v cy i wr=>∃ (k q:Nat) (O:List Nat),k<=m/\i = .int .i64 k/\cy = .int .u64 q/\q<2^(n%32)/\O.length=n/32+k/\val O+4294967296^(n/32+k)*q=val (M.take k)*2^(n%32)*4294967296^(n/32)/\Ow wr w.heap.size v O/\Ext w wr) (fun _ _ i _=>m-(intOf i).toNat)
 case atStart =>
  exact⟨0,0,List.replicate (n/32) 0,Nat.zero_le _,rfl,rfl,Nat.pow_pos (by decide),by simp,by simp[mW],hOw.out,Ext.alloc _ _⟩
 case round =>
  obtain⟨k,q,O,hk,rfl,rfl,hq,hO,hval,how,hb⟩:=hrel;have HV:=Lib.hid hval;have HO:=Lib.hid hO;have hOl:O.length<=200000000:=by omega
  have hq2:=Lib.hid hq;clear hval hO hq;obtain⟨OA,Oc,rfl,hos⟩:=how.sl;by_cases hlt:k<m
  .have hkM:k<M.length:=by have:=HM.out;omega
   obtain⟨ab,ao,rfl,_,c1⟩:=(hs2.below hb).at_ hkM;have hx32:M[k]<4294967296:=hs2.ok.get hkM;have HX:=Lib.hid (yQ (c:=q) (s:=n%32) (n0:=n/32) hkM HO.out HV.out);generalize M[k]=x at *
   obtain⟨hw,hz1,hz2⟩:=yR x q (n%32) hx32 (Nat.mod_lt _ (by decide)) hq2.out;generalize x*2^(n%32)+q=z at *
   have hz3:=Lib.hid hz2;clear hz2;have hsz:O.length+[z%4294967296].length<=10000000000:=by simp;omega
   go_wp2_with (at_builtin;go_must (refine gK (by rfl) _ _ (by rfl) w.heap.size _ O (by rfl) (how.alloc _) _ _ _ [z%4294967296] (by rfl) (by rfl) (Sl.iJ _ _ (z%4294967296) (by omega) (by omega)) hsz (fR hb.size _) ?_);intro v' w1 how1 hg hat)
   go_roundw
   case rel =>
    exact⟨k+1,z/4294967296,O++[z%4294967296],by omega,by go_num,by go_num,hz3.out,by rw[List.length_append,HO.out];rfl,HX.out,how1,(hb.trans (Ext.alloc _ _)).own _ _ (how.alloc _) hg⟩
   case measure=>simp[intOf];omega
  .obtain rfl:k=m:=by omega
   have hsz:O.length+[q].length<=10000000000:=by simp;omega
   have hq32:q<4294967296:=by
    have:=hq2.out;have hp:2^(n%32)<=2^31:=Nat.pow_le_pow_right (by decide) (by omega);have e31:(2:Nat)^31=2147483648:=by decide
    omega
   have hqm:(q:Int)%4294967296=q:=by omega
   go_wp2_with (at_builtin;go_must (refine gK (by rfl) _ _ (by rfl) w.heap.size _ O (by rfl) (how.alloc _) _ _ _ [q] (by rfl) (by rfl) (Sl.iJ _ _ q (by omega) (by omega)) hsz (fR hb.size _) ?_);intro v' w1 how1 hg hat)
   go_ret;refine⟨O++[q],v',rfl,?_,by rw[List.length_append,HO.out,<-HM.out];rfl,how1,(hb.trans (Ext.alloc _ _)).own _ _ (how.alloc _) hg⟩;have h:=HV.out;rw[List.take_of_length_le (by rw[HM.out];exact Nat.le_refl _)]at h;rw[jh,HO.out,fk,lN,Nat.mul_zero,Nat.add_zero,h,<-hv.out,gG,Nat.mul_assoc,<-Nat.pow_add];congr 2;omega
end Go.Proofs.YtdgnpeddgdclhaaGreatDoor
namespace Go.Proofs.YtdgnpeddgdclhaaGreatDoor.Fp
def ej(n k:Nat):Nat:=n/4294967296^k%4294967296
theorem vS(n k:Nat):ej n k<4294967296:=Nat.mod_lt _ (by decide)
theorem Kt(k:Nat):ej 0 k=0:=by unfold ej;rw[Nat.zero_div]
theorem pw(k:Nat):0<4294967296^k:=Nat.pow_pos (by decide)
theorem s9{L:List Nat}(h:ay L)(k:Nat):L.getD k 0=ej (val L) k:=by
 unfold ej;rw[<-rK h];by_cases hk:k<L.length
 .rw [List.drop_eq_getElem_cons hk,show val (L[k]::L.drop (k+1))=L[k]+4294967296*val (L.drop (k+1))from rfl,Nat.add_mul_mod_self_left,Nat.mod_eq_of_lt (h.get hk)]
  simp[List.getD_eq_getElem?_getD,hk]
 .rw [List.drop_eq_nil_of_le (by omega),List.getD_eq_getElem?_getD,List.getElem?_eq_none (by omega)];rfl
theorem mod_succ(n k:Nat):n%4294967296^(k+1)=n%4294967296^k+4294967296^k*ej n k:=by
 rw[Nat.pow_succ,Nat.mod_mul];rfl
def ek(n m:Nat):List Nat:=(List.range m).map (ej n)
theorem ml(n m:Nat):(ek n m).length=m:=by simp[ek]
theorem qi(n m:Nat):ay (ek n m):=fun x hx=>by
 obtain⟨k,_,rfl⟩:=List.mem_map.1 hx;exact vS n k
theorem Ky{n m k:Nat}(h:k<m):(ek n m).getD k 0=ej n k:=by
 simp[ek,List.getD_eq_getElem?_getD,h]
theorem Kx(m i:Nat):(ek 0 m).getD i 0=0:=by
 by_cases h:i<m
 .rw [Ky h,Kt]
 .rw [List.getD_eq_getElem?_getD,List.getElem?_eq_none (by rw[ml];omega)];rfl
theorem Kz(n m:Nat):ek n (m+1)=ek n m++[ej n m]:=by simp[ek,List.range_succ]
theorem rJ(n m:Nat):val (ek n m)=n%4294967296^m:=by
 induction m with
 | zero=>simp[ek,val];omega
 | succ m ih =>
  rw[Kz,jh,ih,ml,mod_succ];rfl
theorem val_inj{L M:List Nat}(hL:ay L)(hM:ay M)(hl:L.length=M.length)(hv:val L=val M):L=M:=by
 apply List.ext_getElem hl;intro i h1 h2;have e1:=s9 hL i;have e2:=s9 hM i;rw[hv,<-e2]at e1;simpa[List.getD_eq_getElem?_getD,h1,h2]using e1
theorem KA{L:List Nat}(h:ay L):ek (val L) L.length=L :=
 val_inj (qi _ _) h (ml _ _) (by rw[rJ,Nat.mod_eq_of_lt (dR h)])
theorem vU{L:List Nat}{n m:Nat}(h:ay L)(hl:L.length=m)(hv:val L=n):ek n m=L:=by subst hl hv;exact KA h
def ez(a b k m:Nat):List Nat:=(List.range m).map fun j=>if j<k then ej a j else ej b j
theorem OT(a b k m:Nat):(ez a b k m).length=m:=by simp[ez]
theorem OV(a b m:Nat):ez a b 0 m=ek b m:=by simp[ez,ek]
theorem OS{a b k m:Nat}(h:m<=k):ez a b k m=ek a m:=by
 unfold ez ek;exact List.map_congr_left fun j hj=>if_pos (Nat.lt_of_lt_of_le (List.mem_range.1 hj) h)
theorem TX{a b k m:Nat}:(ez a b k m).set k (ej a k)=ez a b (k+1) m:=by
 apply List.ext_getElem
 .simp [ez]
 .intro j h1 h2
  have hj:j<m:=by simpa[ez]using h2
  rw[List.getElem_set];by_cases h:k=j
  .subst h;simp[ez]
  .rw [if_neg h]
   simp only[ez,List.getElem_map,List.getElem_range];by_cases q:j<k
   .rw [if_pos q,if_pos (by omega)]
   .rw [if_neg q,if_neg (by omega)]
theorem OU{a b k m:Nat}:(ez a b (k+1) m).set k (ej b k)=ez a b k m:=by
 apply List.ext_getElem
 .simp [ez]
 .intro j h1 h2
  have hj:j<m:=by simpa[ez]using h2
  rw[List.getElem_set];by_cases h:k=j
  .subst h;simp[ez]
  .rw [if_neg h]
   simp only[ez,List.getElem_map,List.getElem_range];by_cases q:j<k
   .rw [if_pos q,if_pos (by omega)]
   .rw [if_neg q,if_neg (by omega)]
theorem KH(a k:Nat):a/4294967296^k=4294967296*(a/4294967296^(k+1))+ej a k:=by
 rw[Nat.pow_succ,<-Nat.div_div_eq_div_mul];unfold ej;omega
theorem RV{a d k:Nat}(hd:0<d)(hd2:d<4294967296):(a/4294967296^(k+1)%d*4294967296+ej a k)/d=ej (a/d) k/\(a/4294967296^(k+1)%d*4294967296+ej a k)%d=a/4294967296^k%d:=by
 have e1:=KH a k;have e2:=Nat.div_add_mod (a/4294967296^(k+1)) d;have e3:=Nat.mod_lt (a/4294967296^(k+1)) hd;have e4:=vS a k;have e5:a/4294967296^k=d*(4294967296*(a/4294967296^(k+1)/d))+(a/4294967296^(k+1)%d*4294967296+ej a k):=by
  rw[e1,Nat.mul_left_comm];omega
 have e6:(a/4294967296^(k+1)%d*4294967296+ej a k)/d<4294967296:=by
  rw[Nat.div_lt_iff_lt_mul hd];have:=Nat.mul_le_mul_right 4294967296 (show a/4294967296^(k+1)%d+1<=d from e3);omega
 constructor
 .conv=>rhs;unfold ej
  rw[Nat.div_div_eq_div_mul,Nat.mul_comm d,<-Nat.div_div_eq_div_mul,e5,Nat.mul_add_div hd,Nat.mul_add_mod,Nat.mod_eq_of_lt e6]
 .rw [e5,Nat.mul_add_mod]
structure gM(U0:Nat)(V:List Nat)(k m:Nat)(O Q:List Nat):Prop where
 De:O.length=m
 qB:Q.length=m-V.length
 lv:ay O
 nN:ay Q
 eq:val O+val V*val Q=U0
 lt:val O<val V*4294967296^k
 qz:∀ i,i<k->Q.getD i 0=0
theorem gM.step{U0 k m x:Nat}{V O Q O2:List Nat}(h:gM U0 V (k+1) m O Q)(hk:k<m-V.length)(hl:O2.length=m)(hok:ay O2)(hx:x<4294967296)
  (he:val O2+x*(4294967296^k*val V)=val O) (hlt:val O2<val V*4294967296^k):gM U0 V k m O2 (Q.set k x):=by
 have hkQ:k<Q.length:=by rw[h.qB];exact hk
 have hv:=od (x:=x) hkQ;rw[h.qz k (Nat.lt_succ_self k),Nat.mul_zero,Nat.add_zero]at hv;refine⟨hl,by rw[List.length_set];exact h.qB,hok,h.nN.set _ hx,?_,hlt,fun i hi=>by rw[getD_set_ne (by omega)];exact h.qz i (by omega)⟩;rw[hv,Nat.mul_add,show val V*(4294967296^k*x)=x*(4294967296^k*val V)by simp only[Nat.mul_comm,Nat.mul_left_comm,Nat.mul_assoc]];have:=h.eq;omega
theorem gM.zero{U0 k m:Nat}{V O Q:List Nat}(h:gM U0 V (k+1) m O Q)(hV:ay V){i:Nat}(hi:k+V.length<i):O.getD i 0=0:=by
 refine SY h.lv (k:=k+V.length+1) ?_ hi;refine Nat.lt_trans h.lt ?_;have:=Nat.mul_lt_mul_of_pos_right (dR hV) (pw (k+1));rw[<-Nat.pow_add,show V.length+(k+1)=k+V.length+1 by omega]at this;exact this
theorem gM.Nf{U0 k m:Nat}{V O Q:List Nat}(h:gM U0 V (k+1) m O Q)(hV:ay V)(hn:2<=V.length)(hN:2147483648<=V.getD (V.length-1) 0) :
  O.getD (k+V.length) 0<=V.getD (V.length-1) 0/\∀ g,g<=4294967295 ->
   g<=((O.getD (k+V.length) 0*4294967296+O.getD (k+V.length-1) 0)*4294967296+O.getD (k+V.length-2) 0)/(V.getD (V.length-1) 0*4294967296+V.getD (V.length-2) 0) ->
   (g=4294967295\/((O.getD (k+V.length) 0*4294967296+O.getD (k+V.length-1) 0)*4294967296+O.getD (k+V.length-2) 0)/(V.getD (V.length-1) 0*4294967296+V.getD (V.length-2) 0)<=g) ->
   val O/4294967296^k/val V<=g/\g<=val O/4294967296^k/val V+1:=by
 have t3:=Gp h.lv (j:=k) hn (fun i hi=>h.zero hV hi);have t2:=SW hV hn rfl;have hU:val O/4294967296^k<4294967296*val V:=by
  rw[Nat.div_lt_iff_lt_mul (pw k)];have:=h.lt;rw[Nat.pow_succ]at this;rw[show 4294967296*val V*4294967296^k=val V*(4294967296^k*4294967296)by simp only[Nat.mul_comm,Nat.mul_left_comm,Nat.mul_assoc]];exact this
 have w1:=h.lv.getD (k+V.length-1);have w2:=h.lv.getD (k+V.length-2);have w3:=hV.getD (V.length-2);refine⟨?_,fun g g1 g2 g3=>?_⟩
 .have hP:=pw (V.length-2)
  have h1:val V<(V.getD (V.length-1) 0*4294967296+V.getD (V.length-2) 0+1)*4294967296^(V.length-2):=by
   rw[<-t2,<-Nat.div_lt_iff_lt_mul hP];omega
  have h2:val O/4294967296^k/4294967296^(V.length-2)<4294967296*(V.getD (V.length-1) 0*4294967296+V.getD (V.length-2) 0+1):=by
   rw[Nat.div_lt_iff_lt_mul hP];refine Nat.lt_of_lt_of_le hU ?_;rw[Nat.mul_assoc];exact Nat.mul_le_mul_left _ (Nat.le_of_lt h1)
  rw[t3]at h2;omega
 .rw [<-t3,<-t2]at g2 g3
  exact Ob (pw _) (by rw[t2];omega) hU g1 g2 g3
theorem gM.over{U0 k m x:Nat}{V O Q O':List Nat}(h:gM U0 V (k+1) m O Q)(hV:ay V)(hok:ay O')(hv:val O'+x*(4294967296^k*val V)=val O+4294967296^(k+V.length+1)*1)
  (hs:∀ i,k+V.length<i->O'.getD i 0=O.getD i 0):val O'<4294967296^(k+V.length+1)/\0<x:=by
 have h1:val O'<4294967296^(k+V.length+1):=GC hok fun i hi=>by rw[hs i (by omega)];exact h.zero hV (by omega)
 refine⟨h1,?_⟩;rcases Nat.eq_zero_or_pos x with h0|h0
 .subst h0;rw[Nat.zero_mul]at hv;omega
 .exact h0
theorem gM.back{U0 k m x κ:Nat}{V O Q O' O2:List Nat}(h:gM U0 V (k+1) m O Q)(hV:ay V)(hk:k<m-V.length)(hok:ay O')(hv:val O'+x*(4294967296^k*val V)=val O+4294967296^(k+V.length+1)*1)
  (hs:∀ i,k+V.length<i->O'.getD i 0=O.getD i 0) (hx:x<=4294967295) (hx2:x<=val O/4294967296^k/val V+1) (hV0:0<val V) (hl2:O2.length=m) (hok2:ay O2) (hκ:κ<=1)
  (h2:val O2+4294967296^(k+V.length+1)*κ=val O'+4294967296^k*val V) (hs2:∀ i,k+V.length<i->O2.getD i 0=O'.getD i 0):gM U0 V k m O2 (Q.set k (x-1)):=by
 obtain⟨h1,h0⟩:=h.over hV hok hv hs;have h3:val O2<4294967296^(k+V.length+1):=GC hok2 fun i hi=>by rw[hs2 i (by omega),hs i (by omega)];exact h.zero hV (by omega)
 rw[Nat.mul_one]at hv;obtain⟨_,_,e,l⟩:=Kv (pw k) hV0 hv h1 hx2 hκ h2 h3;exact h.step (x:=x-1) hk hl2 hok2 (by omega) e l
theorem Pm{L:List Nat}{x s l:Nat}(hk:ay L)(hl:L.length=l+1)(hx:L.getD l 0=x)(hx0:x≠0)(hs:s=32-ak x) :
  s<32/\(af (val L*2^s)).length=l+1/\2147483648<=(af (val L*2^s)).getD l 0/\4294967296^l*2147483648<=val L*2^s/\val L*2^s<4294967296^(l+1):=by
 have hx32:x<4294967296:=by rw[<-hx];exact hk.getD l
 have hb1:=dX hx0;have hb2:ak x<=32:=cv.2 hx32;have h1:=iq hx0;have h2:=gi x;have e1:2^(ak x-1)*2^s=2147483648:=by rw[<-Nat.pow_add,show ak x-1+s=31 by omega]
 have e2:2^ak x*2^s=4294967296:=by rw[<-Nat.pow_add,show ak x+s=32 by omega]
 have hp:0<2^s:=Nat.pow_pos (by decide);have hv:val L=val (L.take l)+4294967296^l*x:=by
  have:=jJ L l;rw[List.take_of_length_le (by omega),hx]at this;exact this
 have hlow:val (L.take l)<4294967296^l:=by
  have:=dR (hk.take l);rw[List.length_take,Nat.min_eq_left (by omega)]at this;exact this
 have g1:4294967296^l*2147483648<=val L*2^s:=by
  rw[<-e1,<-Nat.mul_assoc];refine Nat.mul_le_mul_right _ ?_;rw[hv];exact Nat.le_trans (Nat.mul_le_mul_left _ h1) (Nat.le_add_left _ _)
 have g2:val L*2^s<4294967296^(l+1):=by
  have e3:4294967296^(l+1)=4294967296^l*(2^ak x*2^s):=by rw[Nat.pow_succ,e2]
  rw[e3,<-Nat.mul_assoc];refine Nat.mul_lt_mul_of_pos_right ?_ hp;rw[hv];have:=Nat.mul_le_mul_left (4294967296^l) (show x+1<=2^ak x from h2);rw[Nat.mul_add,Nat.mul_one]at this;omega
 have hlen:(af (val L*2^s)).length=l+1:=by
  have u1:=jy g2;have u2:¬(af (val L*2^s)).length<=l:=fun h=>by
   have:=pg h;have:=pw l;omega
  omega
 refine⟨by omega,hlen,?_,g1,g2⟩;rw[s9 (cA _),bc];unfold ej;rw[Nat.mod_eq_of_lt (by rw[Nat.div_lt_iff_lt_mul (pw l),Nat.mul_comm 4294967296,<-Nat.pow_succ];exact g2),Nat.le_div_iff_mul_le (pw l),Nat.mul_comm];exact g1
theorem gM.start{A s:Nat}{V O:List Nat}(hO:ay O)(hv:val O=A*2^s){la:Nat}(hA:A<4294967296^la)(hl:O.length=la+1)(hs:s<32)(hn:1<=V.length)(hnl:V.length<=la)(hV:4294967296^(V.length-1)*2147483648<=val V) :
  gM (A*2^s) V (la+1-V.length) (la+1) O (List.replicate (la+1-V.length) 0):=by
 refine⟨hl,by simp,hO,ay.py _,by rw[mW,Nat.mul_zero,Nat.add_zero,hv],?_,fun i _=>?_⟩
 .rw [hv]
  have h31:2^s<=2^31:=Nat.pow_le_pow_right (by decide) (by omega);have h31':(2:Nat)^31=2147483648:=by decide
  rw[h31']at h31;have h1:A*2^s<4294967296^la*2^s:=Nat.mul_lt_mul_of_pos_right hA (Nat.pow_pos (by decide));have h2:=Nat.mul_le_mul_left (4294967296^la) h31;have h3:=Nat.mul_le_mul_right (4294967296^(la+1-V.length)) hV;rw[Nat.mul_right_comm,<-Nat.pow_add,show V.length-1+(la+1-V.length)=la by omega]at h3;omega
 .rw [List.getD_eq_getElem?_getD,List.getElem?_replicate];split<;>rfl
end Go.Proofs.YtdgnpeddgdclhaaGreatDoor.Fp
namespace Go.Proofs.YtdgnpeddgdclhaaGreatDoor
open Go.RowKit Fp Pu
theorem rD(n:Nat)(h:n<4294967296):IntKind.u64.wrap ((n:Int)*2^32)=((n*4294967296:Nat):Int):=by rw[IntKind.wrap_u64];omega
theorem qW(a b:Nat)(ha:a<4294967296)(hb:b<4294967296):bits .or .u64 ((a*4294967296:Nat):Int) (b:Int)=((a*4294967296+b:Nat):Int):=by
 rw[u64_or_nat _ _ (by omega) (by omega),Nat.or_comm,show a*4294967296=a*2^32 by rfl,tX b a 32 (by simpa using hb),Nat.add_comm]
theorem RB{T n n' p:Nat}{L L':List Nat}{z:Nat}(hn:n=n')(hp:p<L.length)(hs:L.set p z=L'):Bx.le (.row false T n 1 fun i' j'=>if i'=p/\0<=j'/\j'<0+1 then[.v (.int .u32 ((z:Nat):Int))].getD (j'-0) .any else(eN L) i' j') (.row false T n' 1 (eN L')):=hs▸yF hn hp
open Go.RowKit Fp Pu
def BG(q rest third v w:Nat)(x:Nat):PS:=⟨32,true,[(0,.e (.v (.int .u64 (((q-x):Nat):Int)))),(1,.e (.v (.int .u64 (((rest+(x*v)):Nat):Int)))),(2,.e (.v (.int .u32 (third:Int)))),(3,.e (.v (.int .u32 (v:Int)))),(4,.e (.v (.int .u32 (w:Int))))],[]⟩
def FN(L:List Nat)(d:Nat)(x:Nat):PS:=⟨34,false,[(8,.e (iP ((L.length:Int)-1-(x:Int)))),(7,.e (.v (.int .u32 (((val L/4294967296^(L.length-x)%d):Nat):Int)))),(6,.own 11),(0,.e (ah L)),(1,.e (.v (.int .u32 (d:Int))))],[(11,.row false 79 L.length 1 (eN (ez 0 (val L/d) (L.length-x) L.length)))]⟩
theorem KB(h l d:Nat)(h1:h<d)(h2:l<4294967296)(h3:d<4294967296):ae 344 [(.v (.int .u32 (h:Int))),(.v (.int .u32 (l:Int))),(.v (.int .u32 (d:Int)))] (.aq [.v (.int .u32 ((((h*4294967296+l)/d:Nat)):Int)),.v (.int .u32 ((((h*4294967296+l)%d:Nat)):Int))]):=by
 have e1:(h*4294967296+l)/d<4294967296:=by rw[Nat.div_lt_iff_lt_mul (by omega)];omega
 have e2:(h*4294967296+l)%d<4294967296:=Nat.lt_trans (Nat.mod_lt _ (by omega)) h3;exact tr true Tryz.call344 Tryz.func344 (chain [tB 10 (by simp;omega:((d:Int) != 0)=true),tF 14 ((d:Int)<=(h:Int)) (by omega),
  .o 18 (.int (fW _ (by omega)):PV.le (.e (.v (.int .u64 (IntKind.u64.wrap (h:Int))))) (.e (.v (.int .u64 (h:Int))))),.a (by omega:0<=(32:Int)/\(32:Int)<=((64:Nat):Int)),
  .o 19 (.int (rD _ (by omega)):PV.le (.e (.v (.int .u64 (IntKind.u64.wrap ((h:Int)*2^32))))) (.e (.v (.int .u64 (((h*4294967296):Nat):Int))))),
  .o 21 (.int (fW _ (by omega)):PV.le (.e (.v (.int .u64 (IntKind.u64.wrap (l:Int))))) (.e (.v (.int .u64 (l:Int))))),
  .o 22 (.int (qW _ _ (by omega) (by omega)):PV.le (.e (.v (.int .u64 (bits .or .u64 (((h*4294967296):Nat):Int) (l:Int))))) (.e (.v (.int .u64 (((h*4294967296+l):Nat):Int))))),
  .o 25 (.int (fW _ (by omega)):PV.le (.e (.v (.int .u64 (IntKind.u64.wrap (d:Int))))) (.e (.v (.int .u64 (d:Int))))),.a (by omega:0<((d:Int):Int)),
  mN ((((h*4294967296+l):Nat):Int)) (by omega),
  .o 27 (.int (pK _):PV.le (.e (.v (.int .u32 (IntKind.u32.wrap ((((h*4294967296+l)/d):Nat):Int))))) (.e (.v (.int .u32 (((((h*4294967296+l)/d)%4294967296):Nat):Int))))),
  .o 30 (.int (fW _ (by omega)):PV.le (.e (.v (.int .u64 (IntKind.u64.wrap (d:Int))))) (.e (.v (.int .u64 (d:Int))))),.a (by omega:0<((d:Int):Int)),
  .o 32 (.int (pK _):PV.le (.e (.v (.int .u32 (IntKind.u32.wrap ((((h*4294967296+l)%d):Nat):Int))))) (.e (.v (.int .u32 (((((h*4294967296+l)%d)%4294967296):Nat):Int)))))]<|rQ (.aq [(.v (.int .u32 (((((h*4294967296+l)/d)%4294967296):Nat):Int))),(.v (.int .u32 (((((h*4294967296+l)%d)%4294967296):Nat):Int)))]) (.aq [.v (.int .u32 ((((h*4294967296+l)/d:Nat)):Int)),.v (.int .u32 ((((h*4294967296+l)%d:Nat)):Int))]) (by rw[Nat.mod_eq_of_lt e1,Nat.mod_eq_of_lt e2])) (by kernel_rfl)
theorem TY(q rest third v w N:Nat)(hq:q<=4294967295)(hr:rest<9223372036854775808)(ht:third<4294967296)(hv:v<4294967296)(hw:w<4294967296)(hNq:N<=q)(hlo:∀ x,x<N->dcond q rest third v w x)(g1:¬rest+N*v<4294967296):ae 345 [(.v (.int .u64 (q:Int))),(.v (.int .u64 (rest:Int))),(.v (.int .u32 (third:Int))),(.v (.int .u32 (v:Int))),(.v (.int .u32 (w:Int)))] (.v (.int .u64 (((q-N:Nat)):Int))):=by
 exact tr true Tryz.call345 Tryz.func345 (chain [.s (Sp.upto (BG q rest third v w) 0 N (by omega) (fun x hx hltx=>by
    obtain⟨g1,g2⟩:=hlo x (by omega);have m1:(q-x)*w<=4294967295*4294967295:=Nat.mul_le_mul (by omega) (by omega);have g3:0<q-x:=by
     rcases Nat.eq_zero_or_pos (q-x)with h|h
     .rw [h,Nat.zero_mul]at g2;omega
     .exact h
    exact aB (chain [tT 12 ((((rest+(x*v)):Nat):Int)<4294967296) (by omega),.o 16 (.int (fW _ (by omega)):PV.le (.e (.v (.int .u64 (IntKind.u64.wrap (w:Int))))) (.e (.v (.int .u64 (w:Int))))),
     mN ((((q-x):Nat):Int)*(w:Int)) (by omega),.a (by omega:0<=(32:Int)/\(32:Int)<=((64:Nat):Int)),
     .o 19 (.int (rD _ (by omega)):PV.le (.e (.v (.int .u64 (IntKind.u64.wrap ((((rest+(x*v)):Nat):Int)*2^32))))) (.e (.v (.int .u64 ((((rest+(x*v))*4294967296):Nat):Int))))),
     .o 21 (.int (fW _ (by omega)):PV.le (.e (.v (.int .u64 (IntKind.u64.wrap (third:Int))))) (.e (.v (.int .u64 (third:Int))))),
     .o 22 (.int (qW _ _ (by omega) (by omega)):PV.le (.e (.v (.int .u64 (bits .or .u64 ((((rest+(x*v))*4294967296):Nat):Int) (third:Int))))) (.e (.v (.int .u64 (((((rest+(x*v))*4294967296)+third):Nat):Int))))),
     tT 23 ((((((rest+(x*v))*4294967296)+third):Nat):Int)<((((q-x)*w):Nat):Int)) (Int.ofNat_lt.2 g2),mN ((((q-x):Nat):Int)-1) (by omega),
     .o 29 (.int (fW _ (by omega)):PV.le (.e (.v (.int .u64 (IntKind.u64.wrap (v:Int))))) (.e (.v (.int .u64 (v:Int))))),mN ((((rest+(x*v)):Nat):Int)+(v:Int)) (by omega)] <| .e (chain [.o 0 (.int (by first|rfl|omega|(simp only[Nat.add_mul,Nat.one_mul];omega)):PV.le (.e (.v (.int .u64 ((((q-x):Nat):Int)-1)))) (.e (.v (.int .u64 (((q-(x+1)):Nat):Int))))),
  .o 1 (.int (by first|rfl|omega|(simp only[Nat.add_mul,Nat.one_mul];omega)):PV.le (.e (.v (.int .u64 ((((rest+(x*v))+v):Nat):Int)))) (.e (.v (.int .u64 (((rest+((x+1)*v)):Nat):Int)))))] <| .nil)) (by kernel_rfl))
  (fun hx=>by
    have m1:(q-N)*w<=4294967295*4294967295:=Nat.mul_le_mul (by omega) (by omega)
    exact aB (chain [tF 12 ((((rest+(N*v)):Nat):Int)<4294967296) (by omega)] <| .nil) (by kernel_rfl)) (by nofun):bD 1 Tryz.f345 (BG q rest third v w 0) (.exit 0) ⟨32,true,[(0,.e (.v (.int .u64 (((q-N):Nat):Int))))],[]⟩) (chain [.o 0 (.int (by first|rfl|omega|(simp only[Nat.add_mul,Nat.one_mul];omega)):PV.le (.e (.v (.int .u64 (q:Int)))) (.e (.v (.int .u64 (((q-0):Nat):Int))))),
  .o 1 (.int (by first|rfl|omega|(simp only[Nat.add_mul,Nat.one_mul];omega)):PV.le (.e (.v (.int .u64 (rest:Int)))) (.e (.v (.int .u64 (((rest+(0*v)):Nat):Int)))))] <| .nil)] <| .nil) (by kernel_rfl)
theorem O9(L:List Nat)(d:Nat)(hk:ay L)(hl:L.length<=1000000)(hd1:0<d)(hd2:d<4294967296):ae 338 [(ah L),(.v (.int .u32 (d:Int)))] (.aq [ah (ek (val L/d) L.length),.v (.int .u32 (((val L%d:Nat)):Int))]):=by
 exact tr false Tryz.call338 Tryz.func338 (chain [.a (by omega:0<=((L.length:Int):Int)/\((L.length:Int):Int)<=((L.length:Int):Int)),
  .a (by omega:((4:Nat):Int)*(L.length:Int)<=281474976710656/\((L.length:Int):Int)<=9223372036854775807),ar ((L.length:Int)-1) (by omega),
  .s (Sp.upto (FN L d) 0 L.length (by omega) (fun x hx hltx=>by
    have hix:((L.length:Int)-1-(x:Int)).toNat=L.length-1-x:=by omega
    have hld:((L.getD ((L.length:Int)-1-(x:Int)).toNat 0:Nat):Int)=((ej (val L) (L.length-1-x):Nat):Int):=by rw[hix,s9 hk]
    have hsd:=RV (a:=val L) (k:=L.length-1-x) hd1 hd2;have hn1:L.length-1-x+1=L.length-x:=by omega
    have hn2:L.length-(x+1)=L.length-1-x:=by omega
    rw[hn1]at hsd;have hml:=Nat.mod_lt (val L/4294967296^(L.length-x)) hd1;have hdl:=vS (val L) (L.length-1-x);have hset:(ez 0 (val L/d) (L.length-x) L.length).set ((L.length:Int)-1-(x:Int)).toNat ((val L/4294967296^(L.length-x)%d*4294967296+ej (val L) (L.length-1-x))/d)=ez 0 (val L/d) (L.length-(x+1)) L.length:=by
     rw[hix,hsd.1,<-hn1,OU,hn2]
    exact aB (chain [tT 16 (0<=((L.length:Int)-1-(x:Int))) (by omega),iX (((L.length:Int)-1-(x:Int))) (L.length) (by omega),
     .o 26 (.int hld:PV.le (.e (.v (.int .u32 (((L.getD (((L.length:Int)-1-(x:Int))).toNat 0):Nat):Int)))) (.e (.v (.int .u32 (((ej (val L) (L.length-1-x)):Nat):Int))))),
     .c (KB _ _ _ (by omega) (by omega) (by omega):ae 344 [(.v (.int .u32 (((val L/4294967296^(L.length-x)%d):Nat):Int))),(.v (.int .u32 (((ej (val L) (L.length-1-x)):Nat):Int))),(.v (.int .u32 (d:Int)))] _),
     iX (((L.length:Int)-1-(x:Int))) (L.length) (by omega),.a (by omega:(((L.length:Int)-1-(x:Int))).toNat<L.length),ar (((L.length:Int)-1-(x:Int))-1) (by omega)] <| .e (chain [.o 8 (.int (by first|rfl|omega|(simp only[Nat.add_mul,Nat.one_mul];omega)):PV.le (.e (iP (((L.length:Int)-1-(x:Int))-1))) (.e (iP ((L.length:Int)-1-(((x+1):Nat):Int))))),
  .o 7 (.int (by rw[hsd.2,hn2]):PV.le (.e (.v (.int .u32 (((((val L/4294967296^(L.length-x)%d)*4294967296+(ej (val L) (L.length-1-x)))%d):Nat):Int)))) (.e (.v (.int .u32 (((val L/4294967296^(L.length-(x+1))%d):Nat):Int))))),
  .b 11 (RB rfl (by rw[OT];omega) hset:Bx.le (.row false 79 L.length 1 (fun i' j'=>if i'=(((L.length:Int)-1-(x:Int))).toNat/\0<=j'/\j'<0+1 then[(.v (.int .u32 (((((val L/4294967296^(L.length-x)%d)*4294967296+(ej (val L) (L.length-1-x)))/d):Nat):Int)))].getD (j'-0) .any else(eN (ez 0 (val L/d) (L.length-x) L.length)) i' j')) (.row false 79 L.length 1 (eN (ez 0 (val L/d) (L.length-(x+1)) L.length))))] <| .nil)) (by kernel_rfl))
  (fun hx=>by
    exact aB (chain [tF 16 (0<=((L.length:Int)-1-(L.length:Int))) (by omega)] <| .nil) (by kernel_rfl)) (by nofun):bD 4 Tryz.f338 (FN L d 0) (.exit 0) ⟨34,false,[(7,.e (.v (.int .u32 (((val L/4294967296^(L.length-L.length)%d):Nat):Int)))),(6,.own 11)],[(11,.row false 79 L.length 1 (eN (ez 0 (val L/d) (L.length-L.length) L.length)))]⟩) (chain [.o 8 (.int (by first|rfl|omega|(simp only[Nat.add_mul,Nat.one_mul];omega)):PV.le (.e (iP ((L.length:Int)-1))) (.e (iP ((L.length:Int)-1-((0:Nat):Int))))),
  .o 7 (.int (by rw[Nat.sub_zero,Nat.div_eq_of_lt (dR hk),Nat.zero_mod];rfl):PV.le (.e (.v (.int .u32 0))) (.e (.v (.int .u32 (((val L/4294967296^(L.length-0)%d):Nat):Int))))),
  .b 11 (Ft rfl (fun i=>by rw[Nat.sub_zero,OS (Nat.le_refl _),Kx]):Bx.le (.row false 79 L.length 1 (fun _ j_=>[(.v (.int .u32 0))].getD j_ .any)) (.row false 79 L.length 1 (eN (ez 0 (val L/d) (L.length-0) L.length))))] <| .nil)]<|rR (.aq [ah (ek (val L/d) L.length),.v (.int .u32 (((val L%d:Nat)):Int))]) (.aq (.cons (by rw[Nat.sub_self,OV];exact FV (ml _ _).symm) (.cons (.of_eq (by rw[Nat.sub_self,Nat.pow_zero,Nat.div_one])) .nil)):E.le (.aq [(.sl false L.length 1 (eN (ez 0 (val L/d) (L.length-L.length) L.length))),(.v (.int .u32 (((val L/4294967296^(L.length-L.length)%d):Nat):Int)))]) (.aq [ah (ek (val L/d) L.length),.v (.int .u32 (((val L%d:Nat)):Int))]))) (by kernel_rfl)
open Go.RowKit Fp
def Hc(w:World)(T S:List Nat)(e:Ending)(w':World):Prop:=∃ A c B d,e = .returned (.tuple #[.slice A T.length c,.slice B S.length d])/\Sl w' A c T/\Sl w' B d S/\Ext w w'
theorem Ow.rx{w:World}{base:Nat}{v:Value}{L:List Nat}(h:Ow w base v L)(hl:L≠[]):∃ g cap R,v = .slice (some ⟨g,0,none⟩) L.length cap/\base<=g/\g<w.heap.size/\Rx w g L R/\L.length<=cap/\cap<=maxLen:=by
 rcases h.row.2 with⟨_,h0⟩|⟨g,cap,cur,rfl,hb,hg,hnc,hcm,hcs,htake⟩
 .exact absurd (List.eq_nil_of_length_eq_zero h0) hl
 .refine ⟨g,cap,cur.toList.drop L.length,rfl,hb,(Array.getElem?_eq_some_iff.1 hg).1,?_,hnc,hcm⟩
  unfold Rx;rw[hg];rw[Nat.mul_one]at htake;rw[<-htake,List.take_append_drop]
theorem Rx.sl{w:World}{b cap:Nat}{L:List Nat}{R:List Value}(h:Rx w b L R)(hk:ay L)(hc:L.length<=cap)(hm:cap<=maxLen)(n:Nat):Sl w (some ⟨b,0,none⟩) cap (L.take n) :=
 ⟨by rw[List.length_take];omega,by unfold maxLen at hm;omega,hk.take n,(fun h=>by cases h),fun i x hx=>by
  rw[List.getElem?_take]at hx;split at hx
  .obtain ⟨hi,hx'⟩:=List.getElem?_eq_some_iff.1 hx
   refine⟨_,_,rfl,h.lt,?_⟩;rw[Nat.zero_add,h.cell hi];simp[List.getD_eq_getElem?_getD,hx]
  .cases hx⟩
theorem OJ(x:Nat)(hx:x<4294967296)(w:World) :
  Calls Tryz.prog 339 #[.int .u32 x] w fun e w'=>e = .returned (.int .i64 ((32-ak x:Nat):Int))/\w=w':=by
 have hb2:ak x<=32:=cv.2 hx;have H:=Lib.hid (fun w=>Dd x hx w);go_enter Tryz.func339,Tryz.ntmps339;go_wp2_with fail;refine(H.out _).mono ?_;rintro e w' ⟨rfl,rfl⟩;go_wp2;go_ret;exact⟨dU (by omega),rfl⟩
theorem BI(q rest third v w0 N:Nat)(w:World)(hq:q<=4294967295)(hr:rest<9223372036854775808)(ht:third<4294967296)(hv:v<4294967296)(hw:w0<4294967296)(hNq:N<=q)(hlo:∀ x,x<N->dcond q rest third v w0 x)(hN:¬dcond q rest third v w0 N) :
  Calls Tryz.prog 345 #[.int .u64 q,.int .u64 rest,.int .u32 third,.int .u32 v,.int .u32 w0] w fun e w'=>e = .returned (.int .u64 ((q-N:Nat):Int))/\w=w':=by
 have HLO:=Lib.hid hlo;have HNN:=Lib.hid hN;clear hlo hN;go_enter Tryz.func345,Tryz.ntmps345;go_wp2;go_loop [0,1] (fun a b=>∃ k:Nat,k<=N/\a = .int .u64 ((q-k:Nat):Int)/\b = .int .u64 ((rest+k*v:Nat):Int)) (fun a _=>(intOf a).toNat+0*N)
 case atStart=>exact⟨0,Nat.zero_le _,by go_num,by go_num⟩
 case round =>
  obtain⟨k,hk,rfl,rfl⟩:=hrel;have m1:(q-k)*w0<=4294967295*4294967295:=Nat.mul_le_mul (by omega) (by omega);have m2:(q-k)*w0=(q-k)*w0:=rfl;by_cases hlt:k<N
  .have hc:=HLO.out k hlt
   have hqk:0<q-k:=by omega
   have hnext:rest+(k+1)*v=rest+k*v+v:=by rw[Nat.add_mul,Nat.one_mul];omega
   have HX:=Lib.hid hnext;clear hnext;unfold dcond at hc;have hw1:IntKind.u64.wrap (((q-k:Nat):Int)*(w0:Int))=(((q-k)*w0:Nat):Int):=by rw[<-Int.natCast_mul];exact fW _ (by omega)
   generalize rest+k*v=y at *
   generalize hz:(q-k)*w0=z at *
   have hq1:q-k=q-(k+1)+1:=by omega
   have HQ:=Lib.hid hq1;obtain⟨p,hp⟩:∃ p,p=q-k:=⟨_,rfl⟩
   rw[<-hp]at hw1 hqk hq1 HQ ⊢;have HP:=Lib.hid hp;have hpl:p<=4294967295:=by omega
   clear hp hz hq1;have hsh:=rD y hc.1;have hor:=qW y third hc.1 ht;have g2:=hc.2;have g1:=hc.1;clear hc;rw[show((y*4294967296:Nat):Int)=(y:Int)*4294967296 by omega]at hor hsh;have d1:decide ((y:Int)<4294967296)=true:=decide_eq_true (by omega);have d2:decide ((y:Int)*4294967296+(third:Int)<(z:Int))=true:=decide_eq_true (by omega)
   have hm1:IntKind.u64.wrap ((p:Int)-1)=((p-1:Nat):Int):=by rw[IntKind.wrap_u64];omega
   go_wp2;go_round
   case rel =>
    have e1:=HP.out;exact⟨k+1,by omega,by go_num,by rw[HX.out];go_num⟩
   case measure=>simp[intOf];omega
  .obtain rfl:k=N:=by omega
   have hn:=HNN.out;clear HNN HLO;unfold dcond at hn;have hw1:IntKind.u64.wrap (((q-k:Nat):Int)*(w0:Int))=(((q-k)*w0:Nat):Int):=by rw[<-Int.natCast_mul];exact fW _ (by omega)
   generalize rest+k*v=y at *
   generalize (q-k)*w0=z at *
   obtain⟨p,hp⟩:∃ p,p=q-k:=⟨_,rfl⟩
   rw[<-hp]at hw1 ⊢;have HP:=Lib.hid hp;clear hp;by_cases g1:y<4294967296
   .have hsh:=rD y g1
    have hor:=qW y third g1 ht;rw[show((y*4294967296:Nat):Int)=(y:Int)*4294967296 by omega]at hor hsh;have d1:decide ((y:Int)<4294967296)=true:=decide_eq_true (by omega);have d2:decide ((y:Int)*4294967296+(third:Int)<(z:Int))=false:=decide_eq_false (by omega);clear hn;go_wp2;go_ret;exact⟨dU (by rw[<-HP.out]),rfl⟩
   .have d1:decide ((y:Int)<4294967296)=false:=decide_eq_false (by omega)
    clear hn hw1;go_wp2;go_ret;exact⟨dU (by rw[<-HP.out]),rfl⟩
theorem Ng(top next third v w0:Nat)(hv:2147483648<=v)(hv2:v<4294967296)(hn:next<4294967296)(ht:third<4294967296)(hw:w0<4294967296)(htv:top<=v) :
  ∃ g,g<=4294967295/\g<=((top*4294967296+next)*4294967296+third)/(v*4294967296+w0)/\(g=4294967295\/((top*4294967296+next)*4294967296+third)/(v*4294967296+w0)<=g) /\
   ∀ w,Calls Tryz.prog 340 #[.int .u32 top,.int .u32 next,.int .u32 third,.int .u32 v,.int .u32 w0] w fun e w'=>e = .returned (.int .u64 ((g:Nat):Int))/\∃ m,w'=w.drewN m:=by
 by_cases k1:v<=top
 .obtain ⟨N,hN3,hN0,hN1,hN2,g1,g2⟩:=BH (X:=top*4294967296+next) (q:=4294967295) (rest:=(top-v)*4294967296+next+v) (third:=third) (v:=v) (w:=w0) (by omega) (Nat.le_refl _) hv hw
  refine⟨4294967295-N,by omega,g1,g2.elim (fun h=>.inl (by rw[h])) .inr,fun w=>?_⟩;clear g1 g2;have H:=fun w=>BI 4294967295 ((top-v)*4294967296+next+v) third v w0 N w (by omega) (by omega) ht hv2 hw hN0 hN1 hN2
  clear hN1 hN2;obtain rfl:v=top:=by omega
  have hs0:(v-v)*4294967296+next+v=next+v:=by omega
  rw[hs0,Int.natCast_add]at H;have HD:=Lib.hid H;clear H;have d1:decide ((v:Int)<=(v:Int))=true:=decide_eq_true (by omega);go_enter Tryz.func340,Tryz.ntmps340;go_wp2_with fail;refine(HD.out _).mono ?_;rintro e w' ⟨rfl,rfl⟩;go_wp2;go_ret;exact⟨rfl,0,rfl⟩
 .have d1:=Nat.div_add_mod (top*4294967296+next) v
  have d2:=Nat.mod_lt (top*4294967296+next) (show 0<v by omega);have d3:(top*4294967296+next)/v<4294967296:=by rw[Nat.div_lt_iff_lt_mul (by omega)];omega
  obtain⟨N,hN3,hN0,hN1,hN2,g1,g2⟩:=BH (X:=top*4294967296+next) (q:=(top*4294967296+next)/v) (rest:=(top*4294967296+next)%v) (third:=third) (v:=v) (w:=w0) (by rw[Nat.mul_comm];exact d1) (by omega) hv hw;have g3:=Kw (x:=top*4294967296+next) (v:=v) (w:=w0) (third:=third) (by omega) ht;refine⟨(top*4294967296+next)/v-N,by omega,g1,.inr ?_,fun w=>?_⟩
  .rcases g2 with rfl|g2
   .exact g3
   .exact g2
  have H:=fun w=>BI ((top*4294967296+next)/v) ((top*4294967296+next)%v) third v w0 N w (Nat.le_of_lt_succ d3) (Nat.lt_trans d2 (by omega)) ht hv2 hw hN0 hN1 hN2
  rw[Int.natCast_ediv,Int.natCast_emod]at H;have HD:=Lib.hid H;clear H g1 g2 g3 hN0 hN1 hN2 d1 d2 d3;have d1:decide ((v:Int)<=(top:Int))=false:=decide_eq_false (by omega);have hsh:=rD top (by omega);have hor:=qW top next (by omega) hn
  rw[show((top*4294967296:Nat):Int)=(top:Int)*4294967296 by omega]at hor hsh;have hx0:((top*4294967296+next:Nat):Int)<18446744073709551616:=by omega
  rw[show((top*4294967296+next:Nat):Int)=(top:Int)*4294967296+(next:Int)by omega]at hor hx0;have hv0:((v:Int)==0)=false:=by simp;omega
  go_enter Tryz.func340,Tryz.ntmps340;go_wp2;go_quiet (exact Calls.quiet_of_same ((HD.out _).mono fun _ _ ⟨h1,h2⟩=>⟨h1,h2.symm⟩));go_wp2;go_ret;exact⟨rfl,_,rfl⟩
theorem Fp.Ext.trans'{w0 w w':World}{g n:Nat}(h:Ext w0 w)(k:fZ g (w.drewN n) w')(hg:w0.heap.size<=g):Ext w0 w' :=
 (below_drewN h n).trans (k.below.mono hg)
theorem Fp.Ext.only{w0 w w':World}{g:Nat}(h:Ext w0 w)(k:fZ g w w')(hg:w0.heap.size<=g):Ext w0 w' :=
 Below.trans h (k.below.mono hg)
theorem Sl.Cm{w:World}{g cap:Nat}{L:List Nat}(h:Sl w (some ⟨g,0,none⟩) cap L){b:Nat}(hb:g≠b)(i:Nat)(v:Value):Sl (w.setCell ⟨b,i,none⟩ v) (some ⟨g,0,none⟩) cap L :=
 h.eH (fun b' o _ e=>by cases e;exact hb) (fZ.rB (fZ.refl b w) i v)
theorem Sl.drewN{w:World}{A:Option Addr}{c:Nat}{L:List Nat}(h:Sl w A c L)(n:Nat):Sl (w.drewN n) A c L:=h.below (below_drewN (Below.refl _ _) n)
theorem P6{P:Program}{f:FuncId}{args:Array Value}{w:World}{n:Nat}{v:Value}
  (h:Calls P f args (w.drewN n) fun e w'=>e = .returned v/\∃ m,w'=(w.drewN n).drewN m):Calls P f args (w.drewN n) fun e w''=>e = .returned v/\∃ m,w''=w.drewN m :=
 h.mono fun _ _ ⟨he,m,hm⟩=>⟨he,n+m,by rw[hm,World.drewN_drewN]⟩
set_option maxRecDepth 100000 in
set_option maxHeartbeats 8000000 in
theorem KI(A B:Option Addr)(c d:Nat)(L M:List Nat)(w:World)(lx ly s:Nat)(hlx:lx=(aw L).length)(hly:ly=(aw M).length)(hsd:s=32-ak ((aw M).getD (ly-1) 0))(hs:Sl w A c L)(hr:Sl w B d M)(hTb:Tb w)(h1:L.length<=100000)(h2:M.length<=100000)(hge:val M<=val L)(hlen:2<=ly) :
  Calls Tryz.prog 319 #[.slice A L.length c,.slice B M.length d] w (Hc w (ek (val L/val M) (lx+1-ly)) (fj (s%32) ((af (val L%val M*2^s)).drop (s/32)))):=by
 have H1:=iV A c L w hs;have H2:=iV B d M w hr;have hLt:=eD L;unfold cN at hLt;have hMt:=eD M;unfold cN at hMt;have eL:=eP L;have eM:=eP M;rw[<-eL,<-eM]at hge ⊢;have hs2:=hs.trim;have hr2:=hr.trim;have hMtrim:=lM M;have hXt:aw (aw L)=aw L:=lM L;have hYt:aw (aw M)=aw M:=lM M
 have H3:=qO A B c d (aw L) (aw M) w hs2 hr2 (by omega) (by omega);generalize aw L=X at *
 generalize aw M=Y at *
 have hc0:0<=bH (val X) (val Y):=by unfold bH;split<;>(try split)<;>omega
 generalize bH (val X) (val Y)=cm at *
 have hYX:Y.length<=X.length:=by
  apply Classical.byContradiction;intro h;have:=uP hs2.ok hMtrim (by omega:X.length<Y.length);omega
 clear eL eM hs hr hge;rw[<-hlx]at hYX H1 H3 hLt;rw[<-hly]at hYX H2 H3 hMt;have hx0:Y.getD (ly-1) 0≠0:=by
  have:=(mV Y).1 hMtrim (by omega);have e:Y.getD (ly-1) 0=Y[Y.length-1]'(by omega):=by
   rw[List.getD_eq_getElem?_getD,show ly-1=Y.length-1 by omega];simp[show Y.length-1<Y.length by omega]
  rw[e];exact this
 have HN:=Pm hr2.ok (l:=ly-1) (by omega) rfl hx0 hsd;rw[show ly-1+1=ly by omega]at HN;obtain⟨x,hx⟩:∃ x,x=Y.getD (ly-1) 0:=⟨_,rfl⟩
 have hx32:x<4294967296:=by rw[hx];exact hr2.ok.getD _
 have H4:=Lib.hid (fun w=>OJ x hx32 w);rw[<-hx]at hsd;rw[<-hsd]at H4;obtain⟨ab,ao,rfl,hab,c1⟩:=hr2.at_ (i:=ly-1) (by omega);have hxe:Y[ly-1]'(by omega)=x:=by rw[hx];simp[List.getD_eq_getElem?_getD,show ly-1<Y.length by omega]
 rw[hxe]at c1;have hs32:s<32:=HN.1;have HNh:=Lib.hid HN;have H5:=fun w (h:Sl w A c X)=>D4 A c X s w h (by omega) (by omega)
 have H6:=fun w (h:Sl w (some ⟨ab,ao,none⟩) d Y)=>D4 (some ⟨ab,ao,none⟩) d Y s w h (by omega) (by omega)
 rw[hXt,<-hlx,show s/32+lx+1=lx+1 by omega]at H5;rw[hYt,<-hly,show s/32+ly+1=ly+1 by omega]at H6;have H5h:=Lib.hid H5;have H6h:=Lib.hid H6;have HX:=Lib.hid hlx;have HY:=Lib.hid hly;have HS2:=Lib.hid hs2;have HR2:=Lib.hid hr2;have H1h:=Lib.hid H1;have H2h:=Lib.hid H2;have H3h:=Lib.hid H3;clear H1 H2 H3 H5 H6 hXt hYt HN hlx hly hx hxe hsd hx0 hs2 hr2 hMtrim
 have hw1:(ly:Int)-1=((ly-1:Nat):Int):=by omega
 have d0:decide (cm<0)=false:=decide_eq_false (by omega);have d2:decide ((lx:Int)+1<=(lx:Int))=false:=decide_eq_false (by omega);have hmk:=qG (lx+1-ly) (by omega);rw[show((lx+1-ly:Nat):Int)=(lx:Int)+1-(ly:Int)by omega]at hmk;have d1:((ly:Int)==1)=false:=by simp;omega
 go_enter Tryz.func319,Tryz.ntmps319;go_wp2_with fail;refine H1h.out.mono ?_;rintro e w' ⟨rfl,rfl⟩;go_wp2_with fail;refine H2h.out.mono ?_;rintro e w' ⟨rfl,rfl⟩;go_wp2_with fail;refine H3h.out.mono ?_;rintro e w1 ⟨rfl,hb1⟩;have c2:=c1;rw[<-(hb1.cell (p:=⟨ab,ao+(ly-1),none⟩) hab)]at c2;go_wp2_with fail;refine(H4.out _).mono ?_;rintro e w2 ⟨rfl,rfl⟩;go_wp2_with fail
 refine(H5h.out _ (HS2.out.below hb1)).mono ?_;rintro e w2 ⟨T,v1,he,hTv,hTl,how,hb2⟩;obtain⟨g,cap,R,hv1,hg1,hg2,hRx,hcap,hcapm⟩:=how.rx (by intro h;rw[h]at hTl;simp at hTl);have hTok:=Lib.hid how.ok;rw[hTl]at hv1 hcap;subst hv1;subst he;clear how;have HTv:=Lib.hid hTv;have HTl:=Lib.hid hTl;clear hTv hTl;go_wp2_with fail;refine(H6h.out _ ((HR2.out.below hb1).below hb2)).mono ?_
 rintro e w3 ⟨S,v2,he,hSv,hSl,how,hb3⟩;have hRx3:=hRx.same (hb3.block g hg2);obtain⟨g',cap',R',hv2,hg1',hg2',_,hcap',_⟩:=how.rx (by intro h;rw[h]at hSl;simp at hSl);obtain⟨_,_,e2,hSs⟩:=how.sl;rw[hv2]at e2;cases e2;have hgg:g'≠g:=by omega
 have H7:=iV (some ⟨g',0,none⟩) cap' S w3 hSs;have hV:aw S=af (val Y*2^s):=by rw[fN how.ok,hSv]
 have hSV:=hSs.trim;rw[hV]at H7 hSV;rw[HNh.out.2.1,hSl]at H7;rw[hSl]at hv2;have hb13:Ext w w3:=(hb1.trans hb2).trans hb3;subst hv2;subst he;have H7h:=Lib.hid H7;clear how hSs hV hSv hSl H7 hRx hb2 hb3;go_wp2_with fail;refine H7h.out.mono ?_;rintro e w4 ⟨rfl,rfl⟩;go_wp2;go_loop [9] (fun u=>u = .slice (some ⟨g,0,none⟩) (lx+1) cap) (fun _=>0)
 case atStart=>rfl
 case round =>
  subst hrel;go_wp2;have hR0:=Rw.made w3 (lx+1-ly);have hnV:=HNh.out.2.1;have hN1:=HNh.out.2.2.1;have hN2:=HNh.out.2.2.2.1;have hVok:=cA (val Y*2^s);have hVv:=bc (val Y*2^s);rw[<-hVv]at hN2;generalize af (val Y*2^s)=V at *
  have hD0:=gM.start (A:=val X) (s:=s) (V:=V) (O:=T) hTok.out HTv.out (la:=lx) (by rw[HX.out];exact dR HS2.out.ok) HTl.out hs32 (by omega) (by omega) (by rw[hnV];exact hN2);have hSV1:=hSV.alloc (.cells (dQ (List.replicate (lx+1-ly) 0)).toArray 79)
  have hRx4:Rx (w3.alloc (.cells (dQ (List.replicate (lx+1-ly) 0)).toArray 79)) g T R:=hRx3.same ((Ext.alloc w3 _).block g (by have:=hRx3.lt;omega));rw[hnV]at hD0;have HD0:=Lib.hid hD0;have HR0:=Lib.hid hR0;have HRx:=Lib.hid hRx4;have HSV:=Lib.hid hSV1;have HE0:=Lib.hid (hb13.trans (Ext.alloc w3 (.cells (dQ (List.replicate (lx+1-ly) 0)).toArray 79)));have HnV:=Lib.hid hnV
  have HVok:=Lib.hid hVok;have HVv:=Lib.hid hVv;have HN1:=Lib.hid hN1;have hgq:g<w3.heap.size:=hRx3.lt;have hgb:w.heap.size<=g:=Nat.le_trans hb1.size hg1;clear hD0 hR0 hRx4 hSV1 hSV hRx3 hnV hVok hVv hN1 hN2 HTv HTl hTok H1h H2h H3h H4 H5h H6h H7h c1 c2 d2 hmk hb1 hg1 hg1' hg2 HNh HS2 HR2
  go_loopw [13] (fun j wr=>∃ (k:Nat) (O Q:List Nat),k<=lx+1-ly/\j = .int .i64 ((k:Int)-1)/\gM (val X*2^s) V k (lx+1) O Q/\Rx wr g O R/\Rw wr w3.heap.size Q/\Sl wr (some ⟨g',0,none⟩) cap' V/\Ext w wr) (fun j _=>(intOf j+1).toNat)
  case atStart =>
   exact⟨lx+1-ly,T,_,Nat.le_refl _,by go_num,HD0.out,HRx.out,HR0.out,HSV.out,HE0.out⟩
  case round =>
   clear HD0 HRx HR0 HSV HE0;obtain⟨k,O,Q,hk,rfl,hD,hRO,hRQ,hSV,hbw⟩:=hrel;have HE:=Lib.hid hbw;have HSV:=Lib.hid hSV;have HRQ:=Lib.hid hRQ;have HRO:=Lib.hid hRO;have HD:=Lib.hid hD;clear hD hbw;rcases k with _|t
   .have hO:=HD.out.De
    have hslO:=HRO.out.sl HD.out.lv (cap:=cap) (by omega) hcapm ly;have HZ:=xC (some ⟨g,0,none⟩) cap (O.take ly) s wr hslO (by rw[List.length_take];omega) (by omega);have e1:(O.take ly).length=ly:=by rw[List.length_take];omega
    rw[e1]at HZ;have HZh:=Lib.hid HZ;have HQs:=Lib.hid (HRQ.out.sl HD.out.nN (by rw[HD.out.qB];omega));have hV0:0<val V:=by
     have:=HD.out.lt;rcases Nat.eq_zero_or_pos (val V)with h|h
     .rw [h,Nat.zero_mul]at this;omega
     .exact h
    have hY0:0<val Y:=by
     rw[HVv.out]at hV0;exact Nat.pos_of_mul_pos_right hV0
    have hend:=KF (a:=val X) (b:=val Y) (s:=s) (q:=val Q) (r:=val O) hY0 (by rw[<-HVv.out];exact HD.out.eq) (by rw[<-HVv.out];have:=HD.out.lt;rw[Nat.pow_zero,Nat.mul_one]at this;exact this);have hlow:val (O.take ly)=val O:=by
     rw[Tj HD.out.lv,Nat.mod_eq_of_lt];have:=HD.out.lt;rw[Nat.pow_zero,Nat.mul_one]at this;refine Nat.lt_trans this ?_;have h:=dR HVok.out;rw[HnV.out]at h;exact h
    have hO2:aw (O.take ly)=af (val X%val Y*2^s):=by rw[fN (HD.out.lv.take ly),hlow,hend.2]
    rw[hO2]at HZh;have hQl:=HD.out.qB;rw[HnV.out]at hQl;have hQd:ek (val X/val Y) (lx+1-ly)=Q:=vU HD.out.nN hQl hend.1;have HQd:=Lib.hid hQd;generalize fj (s%32) ((af (val X%val Y*2^s)).drop (s/32))=Z at *
    have HQl:=Lib.hid hQl;clear hend hlow hO2 hQd hslO HZ e1 hQl hO hV0 hY0 hSV hRO hRQ;go_wp2_with fail;refine HZh.out.mono ?_;rintro e w5 ⟨AZ,cZ,rfl,hZs,hZb⟩;go_wp2;go_ret2;have hq:=HQs.out.below hZb;rw[HQl.out]at hq;exact⟨_,_,_,_,by rw[ml];rfl,by rw[HQd.out];exact hq,hZs,HE.out.trans hZb⟩
   .have hO:=HD.out.De
    have c4:=hRO.cell (i:=t+ly) (by omega);have c5:=hRO.cell (i:=t+ly-1) (by omega);have c6:=hRO.cell (i:=t+ly-2) (by omega);obtain⟨_,_,e1,_,c7⟩:=hSV.at_ (i:=ly-1) (by rw[HnV.out];omega);obtain⟨_,_,e2,_,c8⟩:=hSV.at_ (i:=ly-2) (by rw[HnV.out];omega);cases e1;cases e2;rw[Nat.zero_add]at c7 c8
    have v7:V[ly-1]'(by rw[HnV.out];omega)=V.getD (ly-1) 0:=by simp[List.getD_eq_getElem?_getD,HnV.out,show ly-1<ly by omega]
    have v8:V[ly-2]'(by rw[HnV.out];omega)=V.getD (ly-2) 0:=by simp[List.getD_eq_getElem?_getD,HnV.out,show ly-2<ly by omega]
    rw[v7]at c7;rw[v8]at c8;clear v7 v8;have hok:=HD.out.lv;have o4:=hok.getD (t+ly);have o5:=hok.getD (t+ly-1);have o6:=hok.getD (t+ly-2);have o7:=HVok.out.getD (ly-1);have o8:=HVok.out.getD (ly-2);have hG:=HD.out.Nf HVok.out (by rw[HnV.out];omega) (by rw[HnV.out];exact HN1.out);rw[HnV.out]at hG
    obtain⟨gd,g1,g2,g3,g4⟩:=Ng (O.getD (t+ly) 0) (O.getD (t+ly-1) 0) (O.getD (t+ly-2) 0) (V.getD (ly-1) 0) (V.getD (ly-2) 0) HN1.out o7 o5 o6 o8 hG.1;have HGq:=Lib.hid (hG.2 gd g1 g2 g3);have HG:=Lib.hid g4;clear hG g2 g3 g4 hok hSV hRO hRQ;generalize O.getD (t+ly) 0=x4 at *
    generalize O.getD (t+ly-1) 0=x5 at *
    generalize O.getD (t+ly-2) 0=x6 at *
    have HV1:=Lib.hid (rfl:V.getD (ly-1) 0=V.getD (ly-1) 0);generalize hx7:V.getD (ly-1) 0=x7 at *
    generalize V.getD (ly-2) 0=x8 at *
    clear hx7 HV1;have i1:(((t+1:Nat):Int)-1)=(t:Int):=by omega
    have i2:((t:Int)+(ly:Int)).toNat=t+ly:=by omega
    have i3:((t:Int)+(ly:Int)-1).toNat=t+ly-1:=by omega
    have i4:((t:Int)+(ly:Int)-2).toNat=t+ly-2:=by omega
    have i6:((ly:Int)-2)=((ly-2:Nat):Int):=by omega
    have p1:IntKind.i64.wrap ((t:Int)+(ly:Int))=(t:Int)+(ly:Int):=i64_in _ (by omega) (by omega);have p2:IntKind.i64.wrap ((t:Int)+(ly:Int)-1)=(t:Int)+(ly:Int)-1:=i64_in _ (by omega) (by omega);have p3:IntKind.i64.wrap ((t:Int)+(ly:Int)-2)=(t:Int)+(ly:Int)-2:=i64_in _ (by omega) (by omega);have p4:IntKind.i64.wrap ((ly-1:Nat):Int)=((ly-1:Nat):Int):=i64_in _ (by omega) (by omega)
    have p5:IntKind.i64.wrap ((ly-2:Nat):Int)=((ly-2:Nat):Int):=i64_in _ (by omega) (by omega);have j6:((ly-1:Nat):Int)<(ly:Int):=by omega
    have j7:((ly-2:Nat):Int)<(ly:Int):=by omega
    have j0:0<=(t:Int)+(ly:Int):=by omega
    have j1:0<=(t:Int)+(ly:Int)-1:=by omega
    have j2:0<=(t:Int)+(ly:Int)-2:=by omega
    have j3:(t:Int)+(ly:Int)<(lx:Int)+1:=by omega
    have j4:(t:Int)+(ly:Int)-1<(lx:Int)+1:=by omega
    have j5:(t:Int)+(ly:Int)-2<(lx:Int)+1:=by omega
    rw[i1];clear i1;go_wp2;go_quiet (exact P6 (HG.out _));go_wp2_with fail;have HTk:=SM g t (cap-t) cap' gd O V R (some ⟨g',0,none⟩) (wr.drewN nq) (HRO.out.same rfl) (HSV.out.drewN nq) (fun b' o _ e=>by cases e;exact hgg) HD.out.lv (by rw[HnV.out];omega) g1 (by omega);rw[HnV.out,show ly+1=t+ly+1-t by omega]at HTk;refine HTk.mono ?_
    rintro e w5 ⟨O',δ,rfl,hRO',hl',hok',hδ,hval,hsame,hon⟩;have HRO':=Lib.hid hRO';have HON:=Lib.hid hon;have HSV5:=Lib.hid ((HSV.out.drewN nq).eH (fun b' o _ e=>by cases e;exact hgg) hon);have HRQ5:=Lib.hid (show Rw w5 w3.heap.size Q from(hon.eH _ (by omega)).trans HRQ.out);have HE5:=Lib.hid (show Ext w w5 from Fp.Ext.trans' HE.out hon hgb);have hPt:=pw t;have hVp:0<val V:=by
     have:=HD.out.lt;rcases Nat.eq_zero_or_pos (val V)with h|h
     .rw [h,Nat.zero_mul]at this;omega
     .exact h
    have wg:IntKind.u32.wrap (gd:Int)=(gd:Int):=by rw[IntKind.wrap_u32];omega
    have htm:(t:Int)<(lx:Int)+1-(ly:Int):=by omega
    have htQ:t<Q.length:=by rw[HD.out.qB,HnV.out];omega
    have hQg:=List.getElem?_eq_getElem htQ;have cq:=HRQ5.out.cell hQg;have fq:=HRQ5.out.frozen t;generalize Q[t]=q0 at *
    have HQG:=Lib.hid hQg;clear hQg htQ c4 c5 c6 c7 c8 HRO HRQ HSV HE HTk hRO' hon;rcases Nat.lt_or_ge δ 1 with hδ0|hδ1
    .obtain rfl:δ=0:=by omega
     have hDR:=BK hPt hVp (by rw[hval,Nat.mul_zero,Nat.add_zero]) HGq.out.1;have HDS:=Lib.hid (HD.out.step (x:=gd) (by rw[HnV.out];omega) (by rw[hl',hO]) hok' (by omega) (by rw[hval,Nat.mul_zero,Nat.add_zero]) hDR.2);clear hDR hval hsame hok' hl' HD HGq;have HRQ6:=Lib.hid (fun x:Nat=>HRQ5.out.set t x)
     have HRO6:=Lib.hid (fun v:Value=>HRO'.out.same (w':=w5.setCell ⟨w3.heap.size,t,none⟩ v) (by simp only[World.setCell,Array.getElem?_modify];rw[if_neg (by omega)]));have HSV6:=Lib.hid (fun v:Value=>HSV5.out.Cm (b:=w3.heap.size) (by omega) t v);have HE6:=Lib.hid (fun v:Value=>HE5.out.setCell (p:=⟨w3.heap.size,t,none⟩) (by show w.heap.size<=w3.heap.size;omega) v);go_wp2;go_roundw
     case rel=>exact⟨t,O',Q.set t gd,by omega,by go_num,HDS.out,HRO6.out _,HRQ6.out _,HSV6.out _,HE6.out _⟩
     case measure=>simp[intOf]
    .obtain rfl:δ=1:=by omega
     have hov:=HD.out.over (x:=gd) HVok.out hok' (by rw[HnV.out];exact hval) (by rw[HnV.out];exact hsame);have hgd:=hov.2;have HB:=Lib.hid (fun(κ:Nat) (O2:List Nat)=>HD.out.back (x:=gd) (κ:=κ) (O2:=O2) HVok.out (by rw[HnV.out];omega) hok' (by rw[HnV.out];exact hval) (by rw[HnV.out];exact hsame) g1 HGq.out.2 hVp);have HP0:=Lib.hid (ki.start hok' t V);have hlO':O'.length=lx+1:=by rw[hl',hO]
     have HL':=Lib.hid hlO';have hxm:IntKind.u64.wrap ((gd:Int)-1)=((gd-1:Nat):Int):=by rw[IntKind.wrap_u64];omega
     have wg1:IntKind.u32.wrap ((gd-1:Nat):Int)=((gd-1:Nat):Int):=by rw[IntKind.wrap_u32];omega
     clear hov hval hsame hok' hl' hlO' HD HGq wg cq fq;go_wp2;go_loopw [15,125] (fun cy i wr2=>∃ (k c':Nat) (O2:List Nat),k<=ly/\i = .int .i64 k/\cy = .int .u32 c'/\ki O' t V k O2 c'/\Rx wr2 g O2 R/\fZ g w5 wr2) (fun _ i _=>ly-(intOf i).toNat)
     case atStart=>exact⟨0,0,O',Nat.zero_le _,rfl,rfl,HP0.out,HRO'.out,fZ.refl _ _⟩
     case round =>
      clear HP0 HRO';obtain⟨k,c',O2,hk2,rfl,rfl,hP,hR2,ho2⟩:=hrel;have HP:=Lib.hid hP;have hc1:=hP.vF;have hl2:O2.length=lx+1:=by rw[hP.len];exact HL'.out
      have HL2:=Lib.hid hl2;clear hP;by_cases hlt:k<ly
      .have hkV:k<V.length:=by rw[HnV.out];exact hlt
       obtain⟨_,_,e1,_,c1⟩:=(HSV5.out.eH (fun b' o _ e=>by cases e;exact hgg) ho2).at_ hkV;cases e1;rw[Nat.zero_add]at c1;have v7:V[k]=V.getD k 0:=by simp[List.getD_eq_getElem?_getD,hkV]
       rw[v7]at c1;have hkO:t+k<O2.length:=by omega
       have c2:=hR2.cell hkO;have c3:=hR2.frozen (t+k);have hy32:V.getD k 0<4294967296:=HVok.out.getD k;have hu32:O2.getD (t+k) 0<4294967296:=HP.out.ok.getD _;have HST:=Lib.hid (HP.out.step HVok.out hkV (by rw[HL'.out,HnV.out];omega));have HRS:=Lib.hid (fun x:Nat=>hR2.set hkO x);have HOS:=Lib.hid (fun(v:Value)=>ho2.rB (t+k) v)
       have HA:=Lib.hid (fun w=>pP (O2.getD (t+k) 0) (V.getD k 0) c' w hu32 hy32 hc1);clear hR2 ho2 HP v7 hkV hkO hl2 HL2;generalize O2.getD (t+k) 0=u at *
       generalize V.getD k 0=y at *
       have hi1:((t:Int)+(k:Int)).toNat=t+k:=by omega
       have hi2:0<=(t:Int)+(k:Int):=by omega
       have hi3:(t:Int)+(k:Int)<(lx:Int)+1:=by omega
       go_wp2_with fail;refine(HA.out _).mono ?_;rintro e w6 ⟨rfl,rfl⟩;go_wp2;go_roundw
       case rel =>
        exact⟨k+1,(u+y+c')/4294967296,O2.set (t+k) ((u+y+c')%4294967296),by omega,by go_num,rfl,HST.out,HRS.out _,HOS.out _⟩
       case measure=>simp[intOf];omega
      .obtain rfl:k=ly:=by omega
       have hPl:=(show ki O' t V V.length O2 c' by rw[HnV.out];exact HP.out).last (by rw[HL'.out,HnV.out];omega);rw[HnV.out]at hPl;obtain⟨q1,q2,⟨κ,q3,q4⟩,q5⟩:=hPl;have hkO:t+k<O2.length:=by omega
       have c2:=hR2.cell hkO;have c3:=hR2.frozen (t+k);have hu32:O2.getD (t+k) 0<4294967296:=HP.out.ok.getD _;have HDS:=Lib.hid (HB.out κ _ (by rw[q1];exact HL'.out) q2 q3 (by rw[HnV.out];exact q4) (by rw[HnV.out];exact q5));have HRS:=Lib.hid (fun x:Nat=>hR2.set hkO x);have HOS:=Lib.hid (fun(v:Value)=>ho2.rB (t+k) v)
       have hRQ7:∀ v:Value,Rw (wr.setCell ⟨g,t+k,none⟩ v) w3.heap.size Q:=fun v=>((HOS.out v).eH _ (by omega)).trans HRQ5.out
       have hcq:∀ v:Value,(wr.setCell ⟨g,t+k,none⟩ v).cell? ⟨w3.heap.size,t,none⟩=some (.int .u32 (q0:Int)):=fun v=>(hRQ7 v).cell HQG.out
       have hfq:∀ v:Value,(wr.setCell ⟨g,t+k,none⟩ v).frozen? ⟨w3.heap.size,t,none⟩=false:=fun v=>(hRQ7 v).frozen t
       have HRQ8:=Lib.hid (fun(v:Value) (x:Nat)=>(hRQ7 v).set t x);have HRO8:=Lib.hid (fun(x:Nat) (v:Value)=>(HRS.out x).same (w':=(wr.setCell ⟨g,t+k,none⟩ (.int .u32 (x:Int))).setCell ⟨w3.heap.size,t,none⟩ v) (by simp only[World.setCell,Array.getElem?_modify];rw[if_neg (by omega)]))
       have HSV8:=Lib.hid (fun(v v2:Value)=>(HSV5.out.eH (fun b' o _ e=>by cases e;exact hgg) (HOS.out v)).Cm (b:=w3.heap.size) (by omega) t v2);have HE8:=Lib.hid (fun(v v2:Value)=>(Fp.Ext.only HE5.out (HOS.out v) hgb).setCell (p:=⟨w3.heap.size,t,none⟩) (by show w.heap.size<=w3.heap.size;omega) v2);clear hRQ7 HRS HOS hR2 ho2 HP q1 q2 q3 q4 q5 hkO hl2 HL2;generalize O2.getD (t+k) 0=u at *
       have hi1:((t:Int)+(k:Int)).toNat=t+k:=by omega
       have hi2:0<=(t:Int)+(k:Int):=by omega
       have hi3:(t:Int)+(k:Int)<(lx:Int)+1:=by omega
       have hi4:IntKind.u32.wrap ((u:Int)+(c':Int))=(((u+c')%4294967296:Nat):Int):=by rw[IntKind.wrap_u32];omega
       generalize (u+c')%4294967296=uu at *
       go_wp2;go_roundw
       case rel=>exact⟨t,O2.set (t+k) uu,Q.set t (gd-1),by omega,by go_num,HDS.out,HRO8.out _ _,HRQ8.out _ _,HSV8.out _ _,HE8.out _ _⟩
       case measure=>simp[intOf]
open Go.RowKit Fp Pu
theorem Sa:E.le (.v (.slice none 0 0)) (ah []):=fun bs br w v h=>by
 obtain rfl:=ax.bQ h;exact .sl false 0 1 _ none 0 (fun _ _=>undef) (Nat.le_refl _) (by decide) (fun _=>rfl) (fun i j hi=>absurd hi (Nat.not_lt_zero i)) (fun i j hi=>absurd hi (Nat.not_lt_zero i)) (fun i j hi=>absurd hi (Nat.not_lt_zero i)) (fun i j hi=>absurd hi (Nat.not_lt_zero i))
theorem Sb{x:Nat}:E.le (.sl false 1 1 fun i_ j_=>[(.v (.int .u32 (x:Int)))].getD (i_*1+j_) (.v (.bool false))) (ah [x]):=.sl fun i j hi hj=>by
 obtain rfl:i=0:=by omega
 obtain rfl:j=0:=by omega
 exact⟨.refl _,rfl⟩
theorem Bo(L:List Nat)(hk:ay L):ae 128 [ah L] (ah L):=qX hk Tryz.call128 (fun A c w h _=>vL A c L w h) fun A c B w e w' h hB ⟨h1,h2⟩=>by
 subst h2;exact⟨_,h1,Below.refl _ _,mS hB (Below.refl _ _) ⟨Nat.le_refl _,h.len,h.ok,fun hn=>by have:=h.none_ hn;have:=h.cap;omega,h.cell⟩⟩
theorem Bp(L:List Nat)(hk:ay L)(hl:L.length<=1000000):ae 129 [ah L] (ah L):=qX hk Tryz.call129 (fun A c w h _=>vN A c L w h (by omega)) fun A c B w e w' h hB r=>rl B w e w' hB r
theorem OZ(L M:List Nat)(hL:ay L)(hM:ay M)(h1:L.length<=100000)(h2:M.length<=100000)(hc:bH (val (aw L)) (val (aw M))<0):ae 319 [(ah L),(ah M)] (.aq [ah [],ah (aw L)]):=by
 have ta:=eD L;have tb:=eD M;unfold cN at ta tb;exact tr true Tryz.call319 Tryz.func319 (chain [.c (iH _ ‹_›:ae 167 [(ah L)] _),.c (iH _ ‹_›:ae 167 [(ah M)] _),
  .c (xw _ _ (ay.aw ‹_›) (ay.aw ‹_›) (by omega) (by omega):ae 131 [(ah (aw L)),(ah (aw M))] _),tB 25 (decide_eq_true hc),
  .c (Bp _ (ay.aw ‹_›) (by omega):ae 129 [(ah (aw L))] _)]<|rR (.aq [ah [],ah (aw L)]) (.aq (.cons Sa (.cons (.refl _) .nil)):E.le (.aq [(.v (.slice none 0 0)),(ah (aw L))]) (.aq [ah [],ah (aw L)]))) (by kernel_rfl)
theorem O3(L M:List Nat)(hL:ay L)(hM:ay M)(h1:L.length<=100000)(h2:M.length<=100000)(hc:¬bH (val (aw L)) (val (aw M))<0)(hl:(aw M).length=1)(hd1:0<(aw M).getD 0 0)(hd2:(aw M).getD 0 0<4294967296):ae 319 [(ah L),(ah M)] (.aq [ah (ek (val (aw L)/(aw M).getD 0 0) (aw L).length),ah [val (aw L)%(aw M).getD 0 0]]):=by
 have ta:=eD L;have tb:=eD M;unfold cN at ta tb;exact tr true Tryz.call319 Tryz.func319 (chain [.c (iH _ ‹_›:ae 167 [(ah L)] _),.c (iH _ ‹_›:ae 167 [(ah M)] _),
  .c (xw _ _ (ay.aw ‹_›) (ay.aw ‹_›) (by omega) (by omega):ae 131 [(ah (aw L)),(ah (aw M))] _),tB 25 (decide_eq_false hc),
  tB 30 (by rw[hl];rfl:((((aw M).length:Nat):Int)==1)=true),iX (0) ((aw M).length) (by omega),.c (O9 (aw L) ((aw M).getD 0 0) (ay.aw ‹_›) (by omega) hd1 hd2)]<|rR (.aq [ah (ek (val (aw L)/(aw M).getD 0 0) (aw L).length),ah [val (aw L)%(aw M).getD 0 0]]) (.aq (.cons (.refl _) (.cons Sb .nil)):E.le (.aq [(ah (ek (val (aw L)/((aw M).getD 0 0)) (aw L).length)),(.sl false 1 1 fun i_ j_=>[(.v (.int .u32 (((val (aw L)%((aw M).getD 0 0)):Nat):Int)))].getD (i_*1+j_) (.v (.bool false)))]) (.aq [ah (ek (val (aw L)/(aw M).getD 0 0) (aw L).length),ah [val (aw L)%(aw M).getD 0 0]]))) (by kernel_rfl)
theorem xx(L M:List Nat)(hL:ay L)(hM:ay M)(h1:L.length<=100000)(h2:M.length<=100000)(h0:val M≠0):∃ T S:List Nat,ae 319 [ah L,ah M] (.aq [ah T,ah S])/\val T=val L/val M/\val S=val L%val M/\ay T/\ay S/\T.length<=L.length/\S.length<=L.length+1:=by
 have ta:=eD L;have tb:=eD M;unfold cN at ta tb;have e1:=eP L;have e2:=eP M;by_cases hc:bH (val (aw L)) (val (aw M))<0
 .refine ⟨[],aw L,OZ L M hL hM h1 h2 hc,?_,?_,ay.nil,hL.aw,Nat.zero_le _,by omega⟩
  .rw [e1,e2]at hc
   have:val L<val M:=by unfold bH at hc;split at hc<;>(try split at hc)<;>omega
   rw[Nat.div_eq_of_lt this];rfl
  .rw [e1,e2]at hc
   have:val L<val M:=by unfold bH at hc;split at hc<;>(try split at hc)<;>omega
   rw[Nat.mod_eq_of_lt this,e1]
 .have hge:val M<=val L:=by rw[e1,e2]at hc;unfold bH at hc;split at hc<;>(try split at hc)<;>omega
  have hne:aw M≠[]:=by intro h;rw[h]at e2;exact h0 e2.symm
  have hlen:(aw M).length≠0:=by simpa using hne
  by_cases hl:(aw M).length=1
  .obtain ⟨x,hx⟩:=List.length_eq_one_iff.1 hl
   have hok:=hM.aw;rw[hx]at hok;have hxv:x=val M:=by rw[<-e2,hx];simp[val]
   have hg:(aw M).getD 0 0=x:=by rw[hx];rfl
   have:=O3 L M hL hM h1 h2 hc hl (by rw[hg];omega) (by rw[hg];exact hok.head);rw[hg]at this;refine⟨_,_,this,?_,?_,qi _ _,ay.cons (Nat.lt_trans (Nat.mod_lt _ (by omega)) hok.head) ay.nil,by rw[ml];exact ta,by simp⟩
   .rw [rJ,Nat.mod_eq_of_lt,e1,hxv]
    exact Nat.lt_of_le_of_lt (Nat.div_le_self _ _) (dR hL.aw)
   .simp [val,e1,hxv]
  .refine ⟨_,_,mH hL hM Tryz.call319 (fun A c B d w h k hT=>KI A B c d L M w _ _ _ rfl rfl rfl h k hT h1 h2 hge (by omega)) (fun B w e w' hB ⟨A1,c1,B1,d1,q1,q2,q3,q4⟩=>⟨_,q1,q4,bE.aq (.cons (mS hB q4 q2) (.cons (mS hB q4 q3) (.nil _ _ _)))⟩),?_,?_,qi _ _,mF _ _,?_,?_⟩
   .rw [rJ,Nat.mod_eq_of_lt]
    rw[Nat.div_lt_iff_lt_mul (by omega)];have g1:=dR hL.aw;rw[e1]at g1;refine Nat.lt_of_lt_of_le g1 ?_;obtain⟨l,hl'⟩:∃ l,(aw M).length=l+1:=⟨(aw M).length-1,by omega⟩
    have g2:4294967296^l<=val M:=by
     apply Classical.byContradiction;intro q;have q2:(af (val M)).length<=l:=jy (by omega);rw[<-fN hM]at q2;omega
    have g3:=Nat.mul_le_mul_left (4294967296^((aw L).length+1-(aw M).length)) g2;rw[<-Nat.pow_add]at g3;refine Nat.le_trans ?_ g3;exact Nat.pow_le_pow_right (by decide) (by omega)
   .rw [uQ (cA _),bc,Nat.mul_div_cancel _ (Nat.pow_pos (by decide))]
   .rw [ml];omega
   .rw [uB,List.length_drop]
    have hb:32-ak ((aw M).getD ((aw M).length-1) 0)<33:=by omega
    have:=Ov (cA (val L%val M)) (32-ak ((aw M).getD ((aw M).length-1) 0));rw[bc]at this;have h3:(af (val L%val M)).length<=(af (val L)).length:=cJ (Nat.mod_le _ _);rw[<-fN hL]at h3;omega
theorem lp(m n:Nat)(h1:(af m).length<=256)(h2:(af n).length<=256)(h0:n≠0):ae 296 [ah (af m),ah (af n)] (.aq [ah (af (m/n)),ah (af (m%n)),iP 0]):=by
 obtain⟨T,S,hdv,hT,hS,oT,oS,_,_⟩:=xx (af m) (af n) (cA m) (cA n) (by omega) (by omega) (by rw[bc];exact h0);rw[bc,bc]at hT hS;have hz:aw (af n)=af n:=jf n;have hl:=fA h0;have hl2:((((aw (af n)).length:Nat):Int)==0)=false:=by rw[hz];exact dZ hl
 exact tr true Tryz.call296 Tryz.func296 (chain [.c (DS (af m) (af n) ‹_› ‹_›),.c (iH _ (cA _):ae 167 [(ah (af n))] _),tB 18 (hl2:((((aw (af n)).length:Nat):Int)==0)=false),
  .c (hdv:ae 319 [(ah (af m)),(ah (af n))] _),.c (iH _ ‹_›:ae 167 [(ah T)] _),.c (Bo _ (ay.aw ‹_›):ae 128 [(ah (aw T))] _),
  .c (iH _ ‹_›:ae 167 [(ah S)] _),.c (Bo _ (ay.aw ‹_›):ae 128 [(ah (aw S))] _)]<|rQ (.aq [(ah (aw T)),(ah (aw S)),(iP 0)]) (.aq [ah (af (m/n)),ah (af (m%n)),iP 0]) (by rw[fN oT,fN oS,hT,hS])) (by kernel_rfl)
open Go.RowKit Fp Pu
theorem EP(a b:Dy)(p:Nat)(up:Bool)(ha:a.Valid)(hb:b.Valid)(b0:b.m≠0)(hp1:8<=p)(hp2:p<=512):ae 275 [(ag a),(ag b),(iP p),(bP up)] (.aq [ag (ev a b p up),iP (fw a b p up)]):=by
 by_cases a0:a.m=0
 .have e1:ev a b p up=aT/\fw a b p up=0:=by unfold ev fw;rw[if_pos a0,if_pos a0];exact⟨rfl,rfl⟩
  exact tr true Tryz.call275 Tryz.func275 (chain [.o 18 (.e (jQ _ _):PV.le (.e (.sl true 2 3 fun i_ j_=>(aQ a++aQ b).getD (i_*3+j_) (.v (.bool false)))) (.e (dx [a,b]))),
   .c (jV _ _ _ ‹_› ‹_› (by omega) (by omega):ae 177 [(iP p),(dx [a,b])] _),tB 21 (by decide:((0:Int) != 0)=false),
   tB 28 (dZ (fA b0):((((af b.m).length:Nat):Int)==0)=false),tB 34 (iW (iC.2 a0):((((af a.m).length:Nat):Int)==0)=true),
   .o 35 (.e kf:PV.le (.e (.agg [(bP false),(.v (.slice none 0 0)),(iP 0)])) (.e (ag aT)))]<|rQ (.aq [(ag aT),(iP 0)]) (.aq [ag (ev a b p up),iP (fw a b p up)]) (by rw[e1.1,e1.2])) (by kernel_rfl)
 .have va:=ha.af
  have vb:=hb.af;have xa:=ha.exp;have xb:=hb.exp;have ra:=ha.range.resolve_left a0;have rb:=hb.range.resolve_left b0;have pa:=dX a0;have pb:=dX b0;have hK:bZ a b p 3=p+3+ak b.m-ak a.m:=rfl;have bs:=fu a0 (bZ a b p 3);have z1:(af (a.m*2^bZ a b p 3)).length<=256:=en (by omega);have hq:=vV a0 b0 p 3 (by decide)
  have q0:a.m*2^bZ a b p 3/b.m≠0:=by intro q;rw[q,gQ]at hq;omega
  have z2:(af (a.m*2^bZ a b p 3/b.m)).length<=256:=en (by have:=jN (Nat.div_le_self (a.m*2^bZ a b p 3) b.m);omega);have z3:(af (a.m*2^bZ a b p 3%b.m)).length<=256:=en (by have:=jN (Nat.le_of_lt (Nat.mod_lt (a.m*2^bZ a b p 3) (Nat.pos_of_ne_zero b0)));omega)
  have hb0:decide (0<((ak (a.m*2^bZ a b p 3%b.m):Nat):Int))=decide (a.m*2^bZ a b p 3%b.m≠0):=by
   by_cases h:a.m*2^bZ a b p 3%b.m=0
   .rw [h,gQ];rfl
   .have:=dX h
    rw[decide_eq_true h,decide_eq_true (by omega)]
  obtain⟨d1,d2⟩:=KG a0 b0 p up;have h0:a.m*2^bZ a b p 3/b.m≠0\/a.m*2^bZ a b p 3/b.m=0/\a.e-((bZ a b p 3:Nat):Int)-b.e=0/\decide (0<((ak (a.m*2^bZ a b p 3%b.m):Nat):Int))=false:=.inl q0;have hm:decide (0<((ak (a.m*2^bZ a b p 3%b.m):Nat):Int))=true->p<ak (a.m*2^bZ a b p 3/b.m):=fun _=>hq
  exact tr true Tryz.call275 Tryz.func275 (chain [.o 18 (.e (jQ _ _):PV.le (.e (.sl true 2 3 fun i_ j_=>(aQ a++aQ b).getD (i_*3+j_) (.v (.bool false)))) (.e (dx [a,b]))),
   .c (jV _ _ _ ‹_› ‹_› (by omega) (by omega):ae 177 [(iP p),(dx [a,b])] _),tB 21 (by decide:((0:Int) != 0)=false),
   tB 28 (dZ (fA b0):((((af b.m).length:Nat):Int)==0)=false),tB 34 (dZ (fA a0):((((af a.m).length:Nat):Int)==0)=false),ar ((p:Int)+3) (by omega),
   .c (sM _ ‹_›:ae 295 [(ag b)] _),ar (((p:Int)+3)+(((ak (Dy.m b)):Nat):Int)) (by omega),.c (sM _ ‹_›:ae 295 [(ag a)] _),
   ar ((((p:Int)+3)+(((ak (Dy.m b)):Nat):Int))-(((ak (Dy.m a)):Nat):Int)) (by omega),
   .o 44 (.int (by split<;>omega):PV.le (.e (iP (if((((p:Int)+3)+(((ak (Dy.m b)):Nat):Int))-(((ak (Dy.m a)):Nat):Int))>0 then((((p:Int)+3)+(((ak (Dy.m b)):Nat):Int))-(((ak (Dy.m a)):Nat):Int))else 0))) (.e (iP (((bZ a b p 3):Nat):Int)))),
   .c (jG a.m (bZ a b p 3) (by omega) (by omega) (by omega)),.c (lp _ _ (by omega) (by omega) ‹_›:ae 296 [(ah (af (a.m*2^(bZ a b p 3)))),(ah (af b.m))] _),
   ar (a.e-(((bZ a b p 3):Nat):Int)) (by omega),ar ((a.e-(((bZ a b p 3):Nat):Int))-b.e) (by omega),.c (gT _ (by omega):ae 194 [(ah (af ((a.m*2^(bZ a b p 3))%b.m)))] _),
   .c (rm (! (a.neg==b.neg)) ((a.m*2^(bZ a b p 3))/b.m) ((a.e-(((bZ a b p 3):Nat):Int))-b.e) (decide (0<(((ak ((a.m*2^(bZ a b p 3))%b.m)):Nat):Int))) up p (by omega) ‹_› (by omega) (by omega) (by omega) (by omega) ‹_›)]<|rQ (.aq [(ag (bn (!(a.neg==b.neg)) ((a.m*2^(bZ a b p 3))/b.m) ((a.e-(((bZ a b p 3):Nat):Int))-b.e) (decide (0<(((ak ((a.m*2^(bZ a b p 3))%b.m)):Nat):Int))) p up)),(iP (bd (!(a.neg==b.neg)) ((a.m*2^(bZ a b p 3))/b.m) ((a.e-(((bZ a b p 3):Nat):Int))-b.e) (decide (0<(((ak ((a.m*2^(bZ a b p 3))%b.m)):Nat):Int))) p up))]) (.aq [ag (ev a b p up),iP (fw a b p up)]) (by rw[<-d1,<-d2,<-hb0];rfl)) (by kernel_rfl)
theorem EN(a b:Dy)(p:Nat)(ha:a.Valid)(hb:b.Valid)(b0:b.m≠0)(hp1:8<=p)(hp2:p<=512):ae 236 [(ag a),(ag b),(iP p)] (.aq [ag (ev a b p false),iP (fw a b p false)]):=by
 exact tr true Tryz.call236 Tryz.func236 (chain [.c (EP _ _ _ _ ‹_› ‹_› ‹_› (by omega) (by omega):ae 275 [(ag a),(ag b),(iP p),(bP false)] _)] <| .nil) (by kernel_rfl)
theorem EO(a b:Dy)(p:Nat)(ha:a.Valid)(hb:b.Valid)(b0:b.m≠0)(hp1:8<=p)(hp2:p<=512):ae 237 [(ag a),(ag b),(iP p)] (.aq [ag (ev a b p true),iP (fw a b p true)]):=by
 exact tr true Tryz.call237 Tryz.func237 (chain [.c (EP _ _ _ _ ‹_› ‹_› ‹_› (by omega) (by omega):ae 275 [(ag a),(ag b),(iP p),(bP true)] _)] <| .nil) (by kernel_rfl)
open Go.RowKit Fp Pu
def C2(l:List Iv)(i:Nat):PS:=⟨19,true,[(7,.e (iP i)),(6,.e (iP l.length)),(5,.e (an l))],[]⟩
def C1(l:List Iv)(N:Nat)(i:Nat):PS:=⟨19,true,[(7,.e (iP i)),(6,.e (iP l.length)),(5,.e (an l))],[]⟩
theorem cR(a:Iv):E.le (.sl true 1 7 fun i j=>(aF a).getD (i*7+j) (.v (.bool false))) (an [a]):=.sl fun i j hi hj=>by
 obtain rfl:i=0:=by omega
 rcases j with _|_|_|_|_|_|_|j
 all_goals first|exact⟨.refl _,rfl⟩|omega
theorem lj(a b:Iv):E.le (.sl true 2 7 fun i j=>(aF a++aF b).getD (i*7+j) (.v (.bool false))) (an [a,b]):=.sl fun i j hi hj=>by
 obtain rfl|rfl:i=0\/i=1:=by omega
 all_goals
  rcases j with _|_|_|_|_|_|_|j
  all_goals first|exact⟨.refl _,rfl⟩|omega
theorem iB{x:Iv}(h:x.Valid)(ha:x.all=false):x.lo.Valid/\x.hi.Valid/\aD x.lo x.hi<=0:=by
 rcases h with⟨h1,_⟩|⟨_,h⟩
 .rw [ha]at h1;cases h1
 .exact h
theorem C5{x:Iv}(h:x.Valid)(ha:x.all=true):x.lo=aT/\x.hi=aT:=by
 rcases h with⟨_,h⟩|⟨h1,_⟩
 .exact h
 .rw [ha]at h1;cases h1
theorem du  : ae 69 [] (ai aj):=by
 exact tr true Tryz.call69 Tryz.func69 (chain [.o 1 (.e uV:PV.le (.e (.agg [(bP false),(.v (.slice none 0 0)),(iP 0),(bP false),(.v (.slice none 0 0)),(iP 0),(bP true)])) (.e (ai aj)))] <| .nil) (by kernel_rfl)
theorem nB(lo hi:Dy)(e f:Int):ae 90 [(ag lo),(iP e),(ag hi),(iP f)] (ai (ck lo e hi f)):=by
 by_cases he:e=0
 .by_cases hf:f=0
  .exact tr true Tryz.call90 Tryz.func90 (chain [tB 10 (by rw[he];rfl:(e != 0)=false),tB 13 (by rw[hf];rfl:(f != 0)=false)]<|rQ (ai (Iv.mk lo hi false)) (ai (ck lo e hi f)) (by rw[show ck lo e hi f=⟨lo,hi,false⟩by unfold ck;rw[if_neg (by simp[he,hf])]];try rfl)) (by kernel_rfl)
  .exact tr true Tryz.call90 Tryz.func90 (chain [tB 10 (by rw[he];rfl:(e != 0)=false),tB 13 (by simpa using hf:(f != 0)=true),.c (du:ae 69 [] _)]<|rQ (ai aj) (ai (ck lo e hi f)) (by rw[show ck lo e hi f=aj by unfold ck;rw[if_pos (.inr hf)]])) (by kernel_rfl)
 .exact tr true Tryz.call90 Tryz.func90 (chain [tB 10 (by simpa using he:(e != 0)=true),.c (du:ae 69 [] _)]<|rQ (ai aj) (ai (ck lo e hi f)) (by rw[show ck lo e hi f=aj by unfold ck;rw[if_pos (.inl he)]])) (by kernel_rfl)
theorem C7  : ae 137 [(ag aT)] (bP true):=by
 exact tr true Tryz.call137 Tryz.func137 (chain [tB 4 (rfl:aT.neg=false),tB 10 (iW (iC.2 rfl):((((af aT.m).length:Nat):Int)==0)=true),tB 15 (rfl:(aT.e==0)=true)] <| .nil) (by kernel_rfl)
theorem dc(x:Iv)(hx:x.Valid):ae 84 [(ai x)] (bP true):=by
 by_cases hxa:x.all=true
 .obtain ⟨h1,h2⟩:=C5 hx hxa
  exact tr true Tryz.call84 Tryz.func84 (chain [tB 5 (hxa:x.all=true),.c (by rw[h1];exact C7:ae 137 [(ag x.lo)] (bP true)),.c (by rw[h2];exact C7:ae 137 [(ag x.hi)] (bP true))] <| .nil) (by kernel_rfl)
 .replace hxa:x.all=false:=by simpa using hxa
  obtain⟨h1,h2,h3⟩:=iB hx hxa;exact tr true Tryz.call84 Tryz.func84 (chain [tB 5 (hxa:x.all=false),.c (fg _ ‹_›:ae 68 [(ag x.lo)] _),.c (fg _ ‹_›:ae 68 [(ag x.hi)] _),.c (b9 _ _ ‹_› ‹_›:ae 37 [(ag x.lo),(ag x.hi)] _),
   tB 30 (decide_eq_true h3)] <| .nil) (by kernel_rfl)
theorem C3(l:List Iv)(hl:l.length<=1000)(hv:∀ i,i<l.length->(l.getD i aj).Valid)(ha:∀ i,i<l.length->(l.getD i aj).all=false):ae 86 [(an l)] (bP true):=by
 exact tr true Tryz.call86 Tryz.func86 (chain [.s (Sp.upto (C2 l) 0 l.length (by omega) (fun i hi hlti=>by
    have hvi:=hv i (by omega);have hai:=ha i (by omega);exact aB (chain [tT 8 ((i:Int)<(l.length:Int)) (by omega),iX ((i:Int)) (l.length) (by omega),tB 12 (hai:(l.getD i aj).all=false),.c (dc _ ‹_›:ae 84 [(ai (l.getD i aj))] _),
     ar ((i:Int)+1) (by omega)] <| .nil) (by kernel_rfl))
  (fun hi=>by
    exact aB (chain [tF 8 ((l.length:Int)<(l.length:Int)) (by omega)] <| .nil) (by kernel_rfl)) (by nofun):bD 2 Tryz.f86 (C2 l 0) (.exit 0) ⟨19,true,[],[]⟩) .nil] <| .nil) (by kernel_rfl)
theorem wZ(l:List Iv)(hl:l.length<=1000)(hv:∀ i,i<l.length->(l.getD i aj).Valid)(N:Nat)(hN:N<l.length)(ha:∀ i,i<N->(l.getD i aj).all=false)(hN2:(l.getD N aj).all=true):ae 86 [(an l)] (bP false):=by
 exact tr true Tryz.call86 Tryz.func86 (chain [.s (Sp.upto (C1 l N) 0 N (by omega) (fun i hi hlti=>by
    have hvi:=hv i (by omega);have hai:=ha i (by omega);exact aB (chain [tT 8 ((i:Int)<(l.length:Int)) (by omega),iX ((i:Int)) (l.length) (by omega),tB 12 (hai:(l.getD i aj).all=false),.c (dc _ ‹_›:ae 84 [(ai (l.getD i aj))] _),
     ar ((i:Int)+1) (by omega)] <| .nil) (by kernel_rfl))
  (fun hi=>by
    exact aB (chain [tT 8 ((N:Int)<(l.length:Int)) (by omega),iX ((N:Int)) (l.length) (by omega),tB 12 (hN2:(l.getD N aj).all=true)] <| .nil) (by kernel_rfl)) (by nofun):bD 2 Tryz.f86 (C1 l N 0) .ret ⟨19,true,[(2,.e (bP false))],[]⟩) .nil] <| .nil) (by kernel_rfl)
theorem eK(x:Iv)(hx:x.Valid):ae 86 [an [x]] (bP (!x.all)):=by
 have hv:∀ i,i<[x].length->([x].getD i aj).Valid:=fun i hi=>(match i,hi with
  | 0,_=>hx
  | n+1,hi=>absurd hi (by simp))
 cases hxa:x.all with
 | true=>exact wZ [x] (by simp) hv 0 (by simp) (fun i hi=>absurd hi (Nat.not_lt_zero i)) hxa
 | false=>exact C3 [x] (by simp) hv (fun i hi=>(match i,hi with
  | 0,_=>hxa
  | n+1,hi=>absurd hi (by simp)))
theorem lh(x y:Iv)(hx:x.Valid)(hy:y.Valid):ae 86 [an [x,y]] (bP (!(x.all||y.all))):=by
 have hv:∀ i,i<[x,y].length->([x,y].getD i aj).Valid:=fun i hi=>(match i,hi with
  | 0,_=>hx
  | 1,_=>hy
  | n+2,hi=>absurd hi (by simp))
 cases hxa:x.all with
 | true=>exact wZ [x,y] (by simp) hv 0 (by simp) (fun i hi=>absurd hi (Nat.not_lt_zero i)) hxa
 | false=>cases hya:y.all with
  | true=>exact wZ [x,y] (by simp) hv 1 (by simp) (fun i hi=>(match i,hi with
   | 0,_=>hxa
   | n+1,hi=>absurd hi (by omega))) hya
  | false=>exact C3 [x,y] (by simp) hv (fun i hi=>(match i,hi with
   | 0,_=>hxa
   | 1,_=>hya
   | n+2,hi=>absurd hi (by simp)))
theorem o0(x y:Iv)(p:Nat)(hx:x.Valid)(hy:y.Valid)(hp1:8<=p)(hp2:p<=512):ae 44 [(ai x),(ai y),(iP p)] (ai (bj x y p)):=by
 by_cases hk:(x.all||y.all)=true
 .exact tr true Tryz.call44 Tryz.func44 (chain [.o 13 (.e (lj _ _):PV.le (.e (.sl true 2 7 fun i_ j_=>(aF x++aF y).getD (i_*7+j_) (.v (.bool false)))) (.e (an [x,y]))),.c (lh _ _ ‹_› ‹_›:ae 86 [(an [x,y])] _),
   tB 14 (by rw[hk];rfl:(!(x.all||y.all))=false),.c (du:ae 69 [] _)]<|rQ (ai aj) (ai (bj x y p)) (by rw[show bj x y p=aj by unfold bj;rw[if_pos hk]])) (by kernel_rfl)
 .replace hk:(x.all||y.all)=false:=by simpa using hk
  have hxa:x.all=false:=by cases h:x.all;rfl;rw[h]at hk;simp at hk
  have hya:y.all=false:=by cases h:y.all;rfl;rw[h]at hk;simp at hk
  obtain⟨v1,v2,v3⟩:=iB hx hxa;obtain⟨v4,v5,v6⟩:=iB hy hya;exact tr true Tryz.call44 Tryz.func44 (chain [.o 13 (.e (lj _ _):PV.le (.e (.sl true 2 7 fun i_ j_=>(aF x++aF y).getD (i_*7+j_) (.v (.bool false)))) (.e (an [x,y]))),.c (lh _ _ ‹_› ‹_›:ae 86 [(an [x,y])] _),
   tB 14 (by rw[hk];rfl:(!(x.all||y.all))=true),.c (jx _:ae 87 [(iP p)] _),tB 18 (fS.2 ⟨by omega,by omega⟩:(cB (p:Int))=true),
   .c (Qy x.lo y.lo p ‹_› ‹_› (by omega) (by omega)),.c (EL x.hi y.hi p ‹_› ‹_› (by omega) (by omega)),
   .c (nB _ _ _ _:ae 90 [(ag (bq (av x.lo y.lo) p false)),(iP (bg (av x.lo y.lo) p false)),(ag (bq (av x.hi y.hi) p true)),(iP (bg (av x.hi y.hi) p true))] _)]<|rQ (ai (ck (bq (av x.lo y.lo) p false) (bg (av x.lo y.lo) p false) (bq (av x.hi y.hi) p true) (bg (av x.hi y.hi) p true))) (ai (bj x y p)) (by rw[show bj x y p=_ by unfold bj;rw[if_neg (by rw[hk];decide)]])) (by kernel_rfl)
theorem C4(x:Iv)(hx:x.Valid):ae 240 [(ai x)] (ai (iI x)):=by
 by_cases hxa:x.all=true
 .exact tr true Tryz.call240 Tryz.func240 (chain [.o 4 (.e (cR _):PV.le (.e (.sl true 1 7 fun i_ j_=>(aF x).getD (i_*7+j_) (.v (.bool false)))) (.e (an [x]))),.c (eK _ ‹_›:ae 86 [(an [x])] _),tB 5 (by rw[hxa];rfl:(!x.all)=false),
   .c (du:ae 69 [] _)]<|rQ (ai aj) (ai (iI x)) (by rw[show iI x=aj by unfold iI;rw[if_pos hxa]])) (by kernel_rfl)
 .replace hxa:x.all=false:=by simpa using hxa
  obtain⟨v1,v2,v3⟩:=iB hx hxa;exact tr true Tryz.call240 Tryz.func240 (chain [.o 4 (.e (cR _):PV.le (.e (.sl true 1 7 fun i_ j_=>(aF x).getD (i_*7+j_) (.v (.bool false)))) (.e (an [x]))),.c (eK _ ‹_›:ae 86 [(an [x])] _),tB 5 (by rw[hxa];rfl:(!x.all)=true),
   .c (kX _ ‹_›:ae 191 [(ag x.hi)] _),.c (kX _ ‹_›:ae 191 [(ag x.lo)] _)]<|rQ (ai (Iv.mk (aC x.hi) (aC x.lo) false)) (ai (iI x)) (by rw[show iI x=⟨aC x.hi,aC x.lo,false⟩by unfold iI;rw[if_neg (by rw[hxa];decide)]];try rfl)) (by kernel_rfl)
theorem NT(x y:Iv)(p:Nat)(hx:x.Valid)(hy:y.Valid)(hp1:8<=p)(hp2:p<=512):ae 238 [(ai x),(ai y),(iP p)] (ai (yZ x y p)):=by
 have hn:=tI hy;exact tr true Tryz.call238 Tryz.func238 (chain [.c (C4 _ ‹_›:ae 240 [(ai y)] _),.c (o0 _ _ _ ‹_› ‹_› (by omega) (by omega):ae 44 [(ai x),(ai (iI y)),(iP p)] _)] <| .nil) (by kernel_rfl)
theorem o9(d:Dy)(hd:d.Valid):ae 29 [(ag d)] (ai (cF d)):=by
 exact tr true Tryz.call29 Tryz.func29 (chain [.c (fg _ ‹_›:ae 68 [(ag d)] _)] <| .nil) (by kernel_rfl)
theorem ql(d:Dy)(hd:d.Valid):ae 302 [(ag d)] (ag (cE d)):=by
 have hl:=hd.af;by_cases h0:d.m=0
 .have e1:cE d=aT:=by
   rcases hd.canon with q|q
   .unfold cE aT;rw[q.1,q.2.2]
   .omega
  exact tr true Tryz.call302 Tryz.func302 (chain [.c (fg _ ‹_›:ae 68 [(ag d)] _),tB 10 (iW (iC.2 h0):((((af d.m).length:Nat):Int)==0)=true),
   .o 12 (.e kf:PV.le (.e (.agg [(bP false),(.v (.slice none 0 0)),(iP 0)])) (.e (ag aT)))]<|rQ (ag aT) (ag (cE d)) (by rw[e1])) (by kernel_rfl)
 .exact tr true Tryz.call302 Tryz.func302 (chain [.c (fg _ ‹_›:ae 68 [(ag d)] _),tB 10 (dZ (fA h0):((((af d.m).length:Nat):Int)==0)=false),.c (Bp _ (cA _) (by omega):ae 129 [(ah (af d.m))] _)] <| .nil) (by kernel_rfl)
theorem tp(a b:Dy)(ha:a.Valid)(hb:b.Valid):ae 192 [(ag a),(ag b)] (ag (minD a b)):=by
 have hc:=qb a b;by_cases h:(aD a b<=0)
 .exact tr true Tryz.call192 Tryz.func192 (chain [.c (b9 _ _ ‹_› ‹_›:ae 37 [(ag a),(ag b)] _),tB 8 (decide_eq_true h)]<|rQ (ag a) (ag (minD a b)) (by unfold minD;rw[if_neg (by omega)])) (by kernel_rfl)
 .exact tr true Tryz.call192 Tryz.func192 (chain [.c (b9 _ _ ‹_› ‹_›:ae 37 [(ag a),(ag b)] _),tB 8 (decide_eq_false h)]<|rQ (ag b) (ag (minD a b)) (by unfold minD;rw[if_pos (by omega)])) (by kernel_rfl)
theorem tu(a b:Dy)(ha:a.Valid)(hb:b.Valid):ae 193 [(ag a),(ag b)] (ag (maxD a b)):=by
 have hc:=qb a b;by_cases h:(0<=aD a b)
 .exact tr true Tryz.call193 Tryz.func193 (chain [.c (b9 _ _ ‹_› ‹_›:ae 37 [(ag a),(ag b)] _),tB 8 (decide_eq_true h)]<|rQ (ag a) (ag (maxD a b)) (by unfold maxD;rw[if_neg (by omega)])) (by kernel_rfl)
 .exact tr true Tryz.call193 Tryz.func193 (chain [.c (b9 _ _ ‹_› ‹_›:ae 37 [(ag a),(ag b)] _),tB 8 (decide_eq_false h)]<|rQ (ag b) (ag (maxD a b)) (by unfold maxD;rw[if_pos (by omega)])) (by kernel_rfl)
theorem tv(x:Iv)(hx:x.Valid):ae 276 [(ai x)] (iP (dw x)):=by
 by_cases hxa:x.all=true
 .exact tr true Tryz.call276 Tryz.func276 (chain [.o 5 (.e (cR _):PV.le (.e (.sl true 1 7 fun i_ j_=>(aF x).getD (i_*7+j_) (.v (.bool false)))) (.e (an [x]))),.c (eK _ ‹_›:ae 86 [(an [x])] _),tB 6 (by rw[hxa];rfl:(!x.all)=false)]<|rQ (iP 0) (iP (dw x)) (by rw[show dw x=0 by unfold dw;rw[if_pos hxa]])) (by kernel_rfl)
 .replace hxa:x.all=false:=by simpa using hxa
  obtain⟨v1,v2,v3⟩:=iB hx hxa;by_cases h1:0<x.lo.sign
  .exact tr true Tryz.call276 Tryz.func276 (chain [.o 5 (.e (cR _):PV.le (.e (.sl true 1 7 fun i_ j_=>(aF x).getD (i_*7+j_) (.v (.bool false)))) (.e (an [x]))),.c (eK _ ‹_›:ae 86 [(an [x])] _),tB 6 (by rw[hxa];rfl:(!x.all)=true),
    .c (dJ _ ‹_›:ae 35 [(ag x.lo)] _),tB 12 (decide_eq_true h1)]<|rQ (iP 1) (iP (dw x)) (by rw[show dw x=1 by unfold dw;rw[if_neg (by rw[hxa];decide)];simp[h1]])) (by kernel_rfl)
  .by_cases h2:x.hi.sign<0
   .exact tr true Tryz.call276 Tryz.func276 (chain [.o 5 (.e (cR _):PV.le (.e (.sl true 1 7 fun i_ j_=>(aF x).getD (i_*7+j_) (.v (.bool false)))) (.e (an [x]))),.c (eK _ ‹_›:ae 86 [(an [x])] _),tB 6 (by rw[hxa];rfl:(!x.all)=true),
     .c (dJ _ ‹_›:ae 35 [(ag x.lo)] _),tB 12 (decide_eq_false h1),.c (dJ _ ‹_›:ae 35 [(ag x.hi)] _),tB 17 (decide_eq_true h2)]<|rQ (iP (-1)) (iP (dw x)) (by rw[show dw x = -1 by unfold dw;rw[if_neg (by rw[hxa];decide)];simp[h1,h2]])) (by kernel_rfl)
   .exact tr true Tryz.call276 Tryz.func276 (chain [.o 5 (.e (cR _):PV.le (.e (.sl true 1 7 fun i_ j_=>(aF x).getD (i_*7+j_) (.v (.bool false)))) (.e (an [x]))),.c (eK _ ‹_›:ae 86 [(an [x])] _),tB 6 (by rw[hxa];rfl:(!x.all)=true),
     .c (dJ _ ‹_›:ae 35 [(ag x.lo)] _),tB 12 (decide_eq_false h1),.c (dJ _ ‹_›:ae 35 [(ag x.hi)] _),tB 17 (decide_eq_false h2)]<|rQ (iP 0) (iP (dw x)) (by rw[show dw x=0 by unfold dw;rw[if_neg (by rw[hxa];decide)];simp[h1,h2]])) (by kernel_rfl)
theorem w7(x:Iv)(hx:x.Valid)(hxa:x.all=false):ae 298 [(ai x)] (.aq [ag (di x),bP true]):=by
 obtain⟨v1,v2,v3⟩:=iB hx hxa;have w1:=kP v1;have w2:=kP v2;exact tr true Tryz.call298 Tryz.func298 (chain [.o 5 (.e (cR _):PV.le (.e (.sl true 1 7 fun i_ j_=>(aF x).getD (i_*7+j_) (.v (.bool false)))) (.e (an [x]))),.c (eK _ ‹_›:ae 86 [(an [x])] _),tB 6 (by rw[hxa];rfl:(!x.all)=true),
  .c (ql _ ‹_›:ae 302 [(ag x.lo)] _),.c (ql _ ‹_›:ae 302 [(ag x.hi)] _),.c (tu _ _ ‹_› ‹_›:ae 193 [(ag (cE x.lo)),(ag (cE x.hi))] _)] <| .nil) (by kernel_rfl)
theorem NP(x:Iv)(hx:x.Valid)(hxa:x.all=false):ae 297 [(ai x)] (.aq [ag (dY x),bP true]):=by
 obtain⟨v1,v2,v3⟩:=iB hx hxa;have w1:=kP v1;have w2:=kP v2;by_cases hs:dw x=0
 .exact tr true Tryz.call297 Tryz.func297 (chain [.o 5 (.e (cR _):PV.le (.e (.sl true 1 7 fun i_ j_=>(aF x).getD (i_*7+j_) (.v (.bool false)))) (.e (an [x]))),.c (eK _ ‹_›:ae 86 [(an [x])] _),tB 6 (by rw[hxa];rfl:(!x.all)=true),
   .c (tv _ ‹_›:ae 276 [(ai x)] _),tB 11 (by rw[hs];rfl:((dw x)==0)=true),.o 12 (.e kf:PV.le (.e (.agg [(bP false),(.v (.slice none 0 0)),(iP 0)])) (.e (ag aT)))]<|rQ (.aq [(ag aT),(bP true)]) (.aq [ag (dY x),bP true]) (by rw[show dY x=aT by unfold dY;rw[if_pos hs]])) (by kernel_rfl)
 .exact tr true Tryz.call297 Tryz.func297 (chain [.o 5 (.e (cR _):PV.le (.e (.sl true 1 7 fun i_ j_=>(aF x).getD (i_*7+j_) (.v (.bool false)))) (.e (an [x]))),.c (eK _ ‹_›:ae 86 [(an [x])] _),tB 6 (by rw[hxa];rfl:(!x.all)=true),
   .c (tv _ ‹_›:ae 276 [(ai x)] _),tB 11 (by simpa using hs:((dw x)==0)=false),.c (ql _ ‹_›:ae 302 [(ag x.lo)] _),.c (ql _ ‹_›:ae 302 [(ag x.hi)] _),
   .c (tp _ _ ‹_› ‹_›:ae 192 [(ag (cE x.lo)),(ag (cE x.hi))] _)]<|rQ (.aq [(ag (minD (cE x.lo) (cE x.hi))),(bP true)]) (.aq [ag (dY x),bP true]) (by rw[show dY x=minD (cE x.lo) (cE x.hi)by unfold dY;rw[if_neg hs]])) (by kernel_rfl)
theorem wY(x:Iv)(hx:x.Valid):ae 277 [(ai x)] (ai (bh x)):=by
 by_cases hxa:x.all=true
 .exact tr true Tryz.call277 Tryz.func277 (chain [.o 8 (.e (cR _):PV.le (.e (.sl true 1 7 fun i_ j_=>(aF x).getD (i_*7+j_) (.v (.bool false)))) (.e (an [x]))),.c (eK _ ‹_›:ae 86 [(an [x])] _),tB 9 (by rw[hxa];rfl:(!x.all)=false),
   .c (du:ae 69 [] _)]<|rQ (ai aj) (ai (bh x)) (by rw[show bh x=aj by unfold bh;rw[if_pos hxa]])) (by kernel_rfl)
 .replace hxa:x.all=false:=by simpa using hxa
  obtain⟨v1,v2,v3⟩:=iB hx hxa;exact tr true Tryz.call277 Tryz.func277 (chain [.o 8 (.e (cR _):PV.le (.e (.sl true 1 7 fun i_ j_=>(aF x).getD (i_*7+j_) (.v (.bool false)))) (.e (an [x]))),.c (eK _ ‹_›:ae 86 [(an [x])] _),tB 9 (by rw[hxa];rfl:(!x.all)=true),
   .c (NP _ ‹_› hxa:ae 297 [(ai x)] _),.c (w7 _ ‹_› hxa:ae 298 [(ai x)] _)]<|rQ (ai (Iv.mk (dY x) (di x) false)) (ai (bh x)) (by rw[show bh x=⟨dY x,di x,false⟩by unfold bh;rw[if_neg (by rw[hxa];decide)]];try rfl)) (by kernel_rfl)
open Go.RowKit Fp Pu
def NK(x y:Iv)(p:Nat)(gd gu:FuncId)(DD:Dy->Dy->Bool->Dy)(EE:Dy->Dy->Bool->Int):PS:=⟨96,true,[(41,.e (iP 0)),(40,.e (.agg (aF (Iv.mk x.lo y.lo x.lo.neg)++[(ah (af x.lo.m)),(iP x.lo.e)]++aF (Iv.mk y.hi x.hi y.lo.neg)++[(ah (af y.lo.m)),(iP y.lo.e)]++aQ x.hi++aQ y.hi))),(12,.box 12 0),(10,.box 10 0),(2,.e (iP p)),(3,.e (.fn gd [])),(4,.e (.fn gu []))],[(12,.cells 41 (aF (Iv.mk (DD x.lo y.lo false) (DD x.lo y.lo true) false))),(10,.cells 41 [(bP false),(.v (.slice none 0 0)),(iP 0),(bP false),(.v (.slice none 0 0)),(iP 0),(bP false)])]⟩
def NL(x y:Iv)(p:Nat)(gd gu:FuncId)(DD:Dy->Dy->Bool->Dy)(EE:Dy->Dy->Bool->Int):PS:=⟨96,true,[(41,.e (iP (0+1))),(40,.e (.agg (aF (Iv.mk x.lo y.lo x.lo.neg)++[(ah (af x.lo.m)),(iP x.lo.e)]++aF (Iv.mk y.hi x.hi y.lo.neg)++[(ah (af y.lo.m)),(iP y.lo.e)]++aQ x.hi++aQ y.hi))),(12,.box 12 0),(10,.box 10 0),(2,.e (iP p)),(3,.e (.fn gd [])),(4,.e (.fn gu []))],[(12,.cells 41 (aF (Iv.mk (minD (DD x.lo y.lo false) (DD x.lo y.hi false)) (maxD (DD x.lo y.lo true) (DD x.lo y.hi true)) false))),(10,.cells 41 [(bP false),(.v (.slice none 0 0)),(iP 0),(bP false),(.v (.slice none 0 0)),(iP 0),(bP false)])]⟩
def NM(x y:Iv)(p:Nat)(gd gu:FuncId)(DD:Dy->Dy->Bool->Dy)(EE:Dy->Dy->Bool->Int):PS:=⟨96,true,[(41,.e (iP ((0+1)+1))),(40,.e (.agg (aF (Iv.mk x.lo y.lo x.lo.neg)++[(ah (af x.lo.m)),(iP x.lo.e)]++aF (Iv.mk y.hi x.hi y.lo.neg)++[(ah (af y.lo.m)),(iP y.lo.e)]++aQ x.hi++aQ y.hi))),(12,.box 12 0),(10,.box 10 0),(2,.e (iP p)),(3,.e (.fn gd [])),(4,.e (.fn gu []))],[(12,.cells 41 (aF (Iv.mk (minD (minD (DD x.lo y.lo false) (DD x.lo y.hi false)) (DD x.hi y.lo false)) (maxD (maxD (DD x.lo y.lo true) (DD x.lo y.hi true)) (DD x.hi y.lo true)) false))),(10,.cells 41 [(bP false),(.v (.slice none 0 0)),(iP 0),(bP false),(.v (.slice none 0 0)),(iP 0),(bP false)])]⟩
def NO(x y:Iv)(p:Nat)(gd gu:FuncId)(DD:Dy->Dy->Bool->Dy)(EE:Dy->Dy->Bool->Int):PS:=⟨96,true,[(41,.e (iP (((0+1)+1)+1))),(40,.e (.agg (aF (Iv.mk x.lo y.lo x.lo.neg)++[(ah (af x.lo.m)),(iP x.lo.e)]++aF (Iv.mk y.hi x.hi y.lo.neg)++[(ah (af y.lo.m)),(iP y.lo.e)]++aQ x.hi++aQ y.hi))),(12,.box 12 0),(10,.box 10 0),(2,.e (iP p)),(3,.e (.fn gd [])),(4,.e (.fn gu []))],[(12,.cells 41 (aF (Iv.mk (minD (minD (minD (DD x.lo y.lo false) (DD x.lo y.hi false)) (DD x.hi y.lo false)) (DD x.hi y.hi false)) (maxD (maxD (maxD (DD x.lo y.lo true) (DD x.lo y.hi true)) (DD x.hi y.lo true)) (DD x.hi y.hi true)) false))),(10,.cells 41 [(bP false),(.v (.slice none 0 0)),(iP 0),(bP false),(.v (.slice none 0 0)),(iP 0),(bP false)])]⟩
theorem C0(x y:Iv)(p:Nat)(gd gu:FuncId)(DD:Dy->Dy->Bool->Dy)(EE:Dy->Dy->Bool->Int)(hd:∀ a b,(a=x.lo\/a=x.hi)->(b=y.lo\/b=y.hi)->ae gd [ag a,ag b,iP (p:Int)] (.aq [ag (DD a b false),iP (EE a b false)]))
  (hu:∀ a b,(a=x.lo\/a=x.hi)->(b=y.lo\/b=y.hi)->ae gu [ag a,ag b,iP (p:Int)] (.aq [ag (DD a b true),iP (EE a b true)])) (hv:∀ a b up,(DD a b up).Valid):ae 91 [(ai x),(ai y),(iP p),(.fn gd []),(.fn gu [])] (ai (et DD EE x y)):=by
 exact tr true Tryz.call91 Tryz.func91 (chain [.u 5,tB 42 (by decide:(decide ((0:Int)<4))=true)] <| .w ((EE x.lo y.lo false)=0)
  (fun k1=>.w ((EE x.lo y.lo true)=0)
   (fun k2=>chain [.j 3 (NK x y p gd gu DD EE)
   (chain [iX (0) (4) (by omega),iX (0) (2) (by omega),iX (1) (2) (by omega),.c (hd _ _ (.inl rfl) (.inl rfl):ae gd ((ag x.lo)::(ag y.lo)::(iP p)::[]) _),iX (0) (2) (by omega),iX (1) (2) (by omega),
    .c (hu _ _ (.inl rfl) (.inl rfl):ae gu ((ag x.lo)::(ag y.lo)::(iP p)::[]) _),tB 66 (bne_eq_false_iff_eq.2 k1),tB 69 (bne_eq_false_iff_eq.2 k2),tB 73 (by decide:((0:Int)==0)=true),
    tB 84 (by decide:((0:Int)==0)=true)] <| .nil),
    ar (0+1) (by omega),tB 42 (by decide:(decide (((0+1):Int)<4))=true)] <| .w ((EE x.lo y.hi false)=0)
    (fun k3=>.w ((EE x.lo y.hi true)=0)
     (fun k4=>chain [.j 3 (NL x y p gd gu DD EE)
   (chain [iX ((0+1)) (4) (by omega),iX (0) (2) (by omega),iX (1) (2) (by omega),.c (hd _ _ (.inl rfl) (.inr rfl):ae gd ((ag x.lo)::(ag y.hi)::(iP p)::[]) _),iX (0) (2) (by omega),iX (1) (2) (by omega),
    .c (hu _ _ (.inl rfl) (.inr rfl):ae gu ((ag x.lo)::(ag y.hi)::(iP p)::[]) _),tB 66 (bne_eq_false_iff_eq.2 k3),tB 69 (bne_eq_false_iff_eq.2 k4),tB 73 (by decide:(((0+1):Int)==0)=false),
    .c (b9 _ _ (hv _ _ _) (hv _ _ _):ae 37 [(ag (DD x.lo y.hi false)),(ag (DD x.lo y.lo false))] _)] <| .w ((aD (DD x.lo y.hi false) (DD x.lo y.lo false))<0)
    (fun m1=>chain [tB 79 (decide_eq_true m1),tB 84 (by decide:(((0+1):Int)==0)=false),.c (b9 _ _ (hv _ _ _) (hv _ _ _):ae 37 [(ag (DD x.lo y.hi true)),(ag (DD x.lo y.lo true))] _)] <| .w (0<(aD (DD x.lo y.hi true) (DD x.lo y.lo true)))
     (fun m2=>chain [tB 90 (decide_eq_true m2)] <| .e (chain [.b 12 (.of_eq (by rw[show minD (DD x.lo y.lo false) (DD x.lo y.hi false)=(DD x.lo y.hi false)from if_pos m1,show maxD (DD x.lo y.lo true) (DD x.lo y.hi true)=(DD x.lo y.hi true)from if_pos m2]):Bx.le (.cells 41 (aF (Iv.mk (DD x.lo y.hi false) (DD x.lo y.hi true) false))) (.cells 41 (aF (Iv.mk (minD (DD x.lo y.lo false) (DD x.lo y.hi false)) (maxD (DD x.lo y.lo true) (DD x.lo y.hi true)) false))))] <| .nil))
     (fun m2=>chain [tB 90 (decide_eq_false m2)] <| .e (chain [.b 12 (.of_eq (by rw[show minD (DD x.lo y.lo false) (DD x.lo y.hi false)=(DD x.lo y.hi false)from if_pos m1,show maxD (DD x.lo y.lo true) (DD x.lo y.hi true)=(DD x.lo y.lo true)from if_neg m2]):Bx.le (.cells 41 (aF (Iv.mk (DD x.lo y.hi false) (DD x.lo y.lo true) false))) (.cells 41 (aF (Iv.mk (minD (DD x.lo y.lo false) (DD x.lo y.hi false)) (maxD (DD x.lo y.lo true) (DD x.lo y.hi true)) false))))] <| .nil)))
    (fun m1=>chain [tB 79 (decide_eq_false m1),tB 84 (by decide:(((0+1):Int)==0)=false),.c (b9 _ _ (hv _ _ _) (hv _ _ _):ae 37 [(ag (DD x.lo y.hi true)),(ag (DD x.lo y.lo true))] _)] <| .w (0<(aD (DD x.lo y.hi true) (DD x.lo y.lo true)))
     (fun m2=>chain [tB 90 (decide_eq_true m2)] <| .e (chain [.b 12 (.of_eq (by rw[show minD (DD x.lo y.lo false) (DD x.lo y.hi false)=(DD x.lo y.lo false)from if_neg m1,show maxD (DD x.lo y.lo true) (DD x.lo y.hi true)=(DD x.lo y.hi true)from if_pos m2]):Bx.le (.cells 41 (aF (Iv.mk (DD x.lo y.lo false) (DD x.lo y.hi true) false))) (.cells 41 (aF (Iv.mk (minD (DD x.lo y.lo false) (DD x.lo y.hi false)) (maxD (DD x.lo y.lo true) (DD x.lo y.hi true)) false))))] <| .nil))
     (fun m2=>chain [tB 90 (decide_eq_false m2)] <| .e (chain [.b 12 (.of_eq (by rw[show minD (DD x.lo y.lo false) (DD x.lo y.hi false)=(DD x.lo y.lo false)from if_neg m1,show maxD (DD x.lo y.lo true) (DD x.lo y.hi true)=(DD x.lo y.lo true)from if_neg m2]):Bx.le (.cells 41 (aF (Iv.mk (DD x.lo y.lo false) (DD x.lo y.lo true) false))) (.cells 41 (aF (Iv.mk (minD (DD x.lo y.lo false) (DD x.lo y.hi false)) (maxD (DD x.lo y.lo true) (DD x.lo y.hi true)) false))))] <| .nil)))),
      ar ((0+1)+1) (by omega),tB 42 (by decide:(decide ((((0+1)+1):Int)<4))=true)] <| .w ((EE x.hi y.lo false)=0)
      (fun k5=>.w ((EE x.hi y.lo true)=0)
       (fun k6=>chain [.j 3 (NM x y p gd gu DD EE)
   (chain [iX (((0+1)+1)) (4) (by omega),iX (0) (2) (by omega),iX (1) (2) (by omega),.c (hd _ _ (.inr rfl) (.inl rfl):ae gd ((ag x.hi)::(ag y.lo)::(iP p)::[]) _),iX (0) (2) (by omega),iX (1) (2) (by omega),
    .c (hu _ _ (.inr rfl) (.inl rfl):ae gu ((ag x.hi)::(ag y.lo)::(iP p)::[]) _),tB 66 (bne_eq_false_iff_eq.2 k5),tB 69 (bne_eq_false_iff_eq.2 k6),tB 73 (by decide:((((0+1)+1):Int)==0)=false),
    .c (b9 _ _ (hv _ _ _) (jS (hv _ _ _) (hv _ _ _)):ae 37 [(ag (DD x.hi y.lo false)),(ag (minD (DD x.lo y.lo false) (DD x.lo y.hi false)))] _)] <| .w ((aD (DD x.hi y.lo false) (minD (DD x.lo y.lo false) (DD x.lo y.hi false)))<0)
    (fun m1=>chain [tB 79 (decide_eq_true m1),tB 84 (by decide:((((0+1)+1):Int)==0)=false),
     .c (b9 _ _ (hv _ _ _) (iF (hv _ _ _) (hv _ _ _)):ae 37 [(ag (DD x.hi y.lo true)),(ag (maxD (DD x.lo y.lo true) (DD x.lo y.hi true)))] _)] <| .w (0<(aD (DD x.hi y.lo true) (maxD (DD x.lo y.lo true) (DD x.lo y.hi true))))
     (fun m2=>chain [tB 90 (decide_eq_true m2)] <| .e (chain [.b 12 (.of_eq (by rw[show minD (minD (DD x.lo y.lo false) (DD x.lo y.hi false)) (DD x.hi y.lo false)=(DD x.hi y.lo false)from if_pos m1,show maxD (maxD (DD x.lo y.lo true) (DD x.lo y.hi true)) (DD x.hi y.lo true)=(DD x.hi y.lo true)from if_pos m2]):Bx.le (.cells 41 (aF (Iv.mk (DD x.hi y.lo false) (DD x.hi y.lo true) false))) (.cells 41 (aF (Iv.mk (minD (minD (DD x.lo y.lo false) (DD x.lo y.hi false)) (DD x.hi y.lo false)) (maxD (maxD (DD x.lo y.lo true) (DD x.lo y.hi true)) (DD x.hi y.lo true)) false))))] <| .nil))
     (fun m2=>chain [tB 90 (decide_eq_false m2)] <| .e (chain [.b 12 (.of_eq (by rw[show minD (minD (DD x.lo y.lo false) (DD x.lo y.hi false)) (DD x.hi y.lo false)=(DD x.hi y.lo false)from if_pos m1,show maxD (maxD (DD x.lo y.lo true) (DD x.lo y.hi true)) (DD x.hi y.lo true)=(maxD (DD x.lo y.lo true) (DD x.lo y.hi true))from if_neg m2]):Bx.le (.cells 41 (aF (Iv.mk (DD x.hi y.lo false) (maxD (DD x.lo y.lo true) (DD x.lo y.hi true)) false))) (.cells 41 (aF (Iv.mk (minD (minD (DD x.lo y.lo false) (DD x.lo y.hi false)) (DD x.hi y.lo false)) (maxD (maxD (DD x.lo y.lo true) (DD x.lo y.hi true)) (DD x.hi y.lo true)) false))))] <| .nil)))
    (fun m1=>chain [tB 79 (decide_eq_false m1),tB 84 (by decide:((((0+1)+1):Int)==0)=false),
     .c (b9 _ _ (hv _ _ _) (iF (hv _ _ _) (hv _ _ _)):ae 37 [(ag (DD x.hi y.lo true)),(ag (maxD (DD x.lo y.lo true) (DD x.lo y.hi true)))] _)] <| .w (0<(aD (DD x.hi y.lo true) (maxD (DD x.lo y.lo true) (DD x.lo y.hi true))))
     (fun m2=>chain [tB 90 (decide_eq_true m2)] <| .e (chain [.b 12 (.of_eq (by rw[show minD (minD (DD x.lo y.lo false) (DD x.lo y.hi false)) (DD x.hi y.lo false)=(minD (DD x.lo y.lo false) (DD x.lo y.hi false))from if_neg m1,show maxD (maxD (DD x.lo y.lo true) (DD x.lo y.hi true)) (DD x.hi y.lo true)=(DD x.hi y.lo true)from if_pos m2]):Bx.le (.cells 41 (aF (Iv.mk (minD (DD x.lo y.lo false) (DD x.lo y.hi false)) (DD x.hi y.lo true) false))) (.cells 41 (aF (Iv.mk (minD (minD (DD x.lo y.lo false) (DD x.lo y.hi false)) (DD x.hi y.lo false)) (maxD (maxD (DD x.lo y.lo true) (DD x.lo y.hi true)) (DD x.hi y.lo true)) false))))] <| .nil))
     (fun m2=>chain [tB 90 (decide_eq_false m2)] <| .e (chain [.b 12 (.of_eq (by rw[show minD (minD (DD x.lo y.lo false) (DD x.lo y.hi false)) (DD x.hi y.lo false)=(minD (DD x.lo y.lo false) (DD x.lo y.hi false))from if_neg m1,show maxD (maxD (DD x.lo y.lo true) (DD x.lo y.hi true)) (DD x.hi y.lo true)=(maxD (DD x.lo y.lo true) (DD x.lo y.hi true))from if_neg m2]):Bx.le (.cells 41 (aF (Iv.mk (minD (DD x.lo y.lo false) (DD x.lo y.hi false)) (maxD (DD x.lo y.lo true) (DD x.lo y.hi true)) false))) (.cells 41 (aF (Iv.mk (minD (minD (DD x.lo y.lo false) (DD x.lo y.hi false)) (DD x.hi y.lo false)) (maxD (maxD (DD x.lo y.lo true) (DD x.lo y.hi true)) (DD x.hi y.lo true)) false))))] <| .nil)))),
        ar (((0+1)+1)+1) (by omega),tB 42 (by decide:(decide (((((0+1)+1)+1):Int)<4))=true)] <| .w ((EE x.hi y.hi false)=0)
        (fun k7=>.w ((EE x.hi y.hi true)=0)
         (fun k8=>chain [.j 3 (NO x y p gd gu DD EE)
   (chain [iX ((((0+1)+1)+1)) (4) (by omega),iX (0) (2) (by omega),iX (1) (2) (by omega),.c (hd _ _ (.inr rfl) (.inr rfl):ae gd ((ag x.hi)::(ag y.hi)::(iP p)::[]) _),iX (0) (2) (by omega),iX (1) (2) (by omega),
    .c (hu _ _ (.inr rfl) (.inr rfl):ae gu ((ag x.hi)::(ag y.hi)::(iP p)::[]) _),tB 66 (bne_eq_false_iff_eq.2 k7),tB 69 (bne_eq_false_iff_eq.2 k8),tB 73 (by decide:(((((0+1)+1)+1):Int)==0)=false),
    .c (b9 _ _ (hv _ _ _) (jS (jS (hv _ _ _) (hv _ _ _)) (hv _ _ _)):ae 37 [(ag (DD x.hi y.hi false)),(ag (minD (minD (DD x.lo y.lo false) (DD x.lo y.hi false)) (DD x.hi y.lo false)))] _)] <| .w ((aD (DD x.hi y.hi false) (minD (minD (DD x.lo y.lo false) (DD x.lo y.hi false)) (DD x.hi y.lo false)))<0)
    (fun m1=>chain [tB 79 (decide_eq_true m1),tB 84 (by decide:(((((0+1)+1)+1):Int)==0)=false),
     .c (b9 _ _ (hv _ _ _) (iF (iF (hv _ _ _) (hv _ _ _)) (hv _ _ _)):ae 37 [(ag (DD x.hi y.hi true)),(ag (maxD (maxD (DD x.lo y.lo true) (DD x.lo y.hi true)) (DD x.hi y.lo true)))] _)] <| .w (0<(aD (DD x.hi y.hi true) (maxD (maxD (DD x.lo y.lo true) (DD x.lo y.hi true)) (DD x.hi y.lo true))))
     (fun m2=>chain [tB 90 (decide_eq_true m2)] <| .e (chain [.b 12 (.of_eq (by rw[show minD (minD (minD (DD x.lo y.lo false) (DD x.lo y.hi false)) (DD x.hi y.lo false)) (DD x.hi y.hi false)=(DD x.hi y.hi false)from if_pos m1,show maxD (maxD (maxD (DD x.lo y.lo true) (DD x.lo y.hi true)) (DD x.hi y.lo true)) (DD x.hi y.hi true)=(DD x.hi y.hi true)from if_pos m2]):Bx.le (.cells 41 (aF (Iv.mk (DD x.hi y.hi false) (DD x.hi y.hi true) false))) (.cells 41 (aF (Iv.mk (minD (minD (minD (DD x.lo y.lo false) (DD x.lo y.hi false)) (DD x.hi y.lo false)) (DD x.hi y.hi false)) (maxD (maxD (maxD (DD x.lo y.lo true) (DD x.lo y.hi true)) (DD x.hi y.lo true)) (DD x.hi y.hi true)) false))))] <| .nil))
     (fun m2=>chain [tB 90 (decide_eq_false m2)] <| .e (chain [.b 12 (.of_eq (by rw[show minD (minD (minD (DD x.lo y.lo false) (DD x.lo y.hi false)) (DD x.hi y.lo false)) (DD x.hi y.hi false)=(DD x.hi y.hi false)from if_pos m1,show maxD (maxD (maxD (DD x.lo y.lo true) (DD x.lo y.hi true)) (DD x.hi y.lo true)) (DD x.hi y.hi true)=(maxD (maxD (DD x.lo y.lo true) (DD x.lo y.hi true)) (DD x.hi y.lo true))from if_neg m2]):Bx.le (.cells 41 (aF (Iv.mk (DD x.hi y.hi false) (maxD (maxD (DD x.lo y.lo true) (DD x.lo y.hi true)) (DD x.hi y.lo true)) false))) (.cells 41 (aF (Iv.mk (minD (minD (minD (DD x.lo y.lo false) (DD x.lo y.hi false)) (DD x.hi y.lo false)) (DD x.hi y.hi false)) (maxD (maxD (maxD (DD x.lo y.lo true) (DD x.lo y.hi true)) (DD x.hi y.lo true)) (DD x.hi y.hi true)) false))))] <| .nil)))
    (fun m1=>chain [tB 79 (decide_eq_false m1),tB 84 (by decide:(((((0+1)+1)+1):Int)==0)=false),
     .c (b9 _ _ (hv _ _ _) (iF (iF (hv _ _ _) (hv _ _ _)) (hv _ _ _)):ae 37 [(ag (DD x.hi y.hi true)),(ag (maxD (maxD (DD x.lo y.lo true) (DD x.lo y.hi true)) (DD x.hi y.lo true)))] _)] <| .w (0<(aD (DD x.hi y.hi true) (maxD (maxD (DD x.lo y.lo true) (DD x.lo y.hi true)) (DD x.hi y.lo true))))
     (fun m2=>chain [tB 90 (decide_eq_true m2)] <| .e (chain [.b 12 (.of_eq (by rw[show minD (minD (minD (DD x.lo y.lo false) (DD x.lo y.hi false)) (DD x.hi y.lo false)) (DD x.hi y.hi false)=(minD (minD (DD x.lo y.lo false) (DD x.lo y.hi false)) (DD x.hi y.lo false))from if_neg m1,show maxD (maxD (maxD (DD x.lo y.lo true) (DD x.lo y.hi true)) (DD x.hi y.lo true)) (DD x.hi y.hi true)=(DD x.hi y.hi true)from if_pos m2]):Bx.le (.cells 41 (aF (Iv.mk (minD (minD (DD x.lo y.lo false) (DD x.lo y.hi false)) (DD x.hi y.lo false)) (DD x.hi y.hi true) false))) (.cells 41 (aF (Iv.mk (minD (minD (minD (DD x.lo y.lo false) (DD x.lo y.hi false)) (DD x.hi y.lo false)) (DD x.hi y.hi false)) (maxD (maxD (maxD (DD x.lo y.lo true) (DD x.lo y.hi true)) (DD x.hi y.lo true)) (DD x.hi y.hi true)) false))))] <| .nil))
     (fun m2=>chain [tB 90 (decide_eq_false m2)] <| .e (chain [.b 12 (.of_eq (by rw[show minD (minD (minD (DD x.lo y.lo false) (DD x.lo y.hi false)) (DD x.hi y.lo false)) (DD x.hi y.hi false)=(minD (minD (DD x.lo y.lo false) (DD x.lo y.hi false)) (DD x.hi y.lo false))from if_neg m1,show maxD (maxD (maxD (DD x.lo y.lo true) (DD x.lo y.hi true)) (DD x.hi y.lo true)) (DD x.hi y.hi true)=(maxD (maxD (DD x.lo y.lo true) (DD x.lo y.hi true)) (DD x.hi y.lo true))from if_neg m2]):Bx.le (.cells 41 (aF (Iv.mk (minD (minD (DD x.lo y.lo false) (DD x.lo y.hi false)) (DD x.hi y.lo false)) (maxD (maxD (DD x.lo y.lo true) (DD x.lo y.hi true)) (DD x.hi y.lo true)) false))) (.cells 41 (aF (Iv.mk (minD (minD (minD (DD x.lo y.lo false) (DD x.lo y.hi false)) (DD x.hi y.lo false)) (DD x.hi y.hi false)) (maxD (maxD (maxD (DD x.lo y.lo true) (DD x.lo y.hi true)) (DD x.hi y.lo true)) (DD x.hi y.hi true)) false))))] <| .nil)))),
          ar ((((0+1)+1)+1)+1) (by omega),tB 42 (by decide:(decide ((((((0+1)+1)+1)+1):Int)<4))=false)]<|rQ (ai (Iv.mk (minD (minD (minD (DD x.lo y.lo false) (DD x.lo y.hi false)) (DD x.hi y.lo false)) (DD x.hi y.hi false)) (maxD (maxD (maxD (DD x.lo y.lo true) (DD x.lo y.hi true)) (DD x.hi y.lo true)) (DD x.hi y.hi true)) false)) (ai (et DD EE x y)) (by rw[show et DD EE x y=⟨(minD (minD (minD (DD x.lo y.lo false) (DD x.lo y.hi false)) (DD x.hi y.lo false)) (DD x.hi y.hi false)),(maxD (maxD (maxD (DD x.lo y.lo true) (DD x.lo y.hi true)) (DD x.hi y.lo true)) (DD x.hi y.hi true)),false⟩from if_pos ⟨⟨k1,k2⟩,⟨k3,k4⟩,⟨k5,k6⟩,⟨k7,k8⟩⟩];try rfl))
         (fun k8=>chain [iX ((((0+1)+1)+1)) (4) (by omega),iX (0) (2) (by omega),iX (1) (2) (by omega),.c (hd _ _ (.inr rfl) (.inr rfl):ae gd ((ag x.hi)::(ag y.hi)::(iP p)::[]) _),iX (0) (2) (by omega),iX (1) (2) (by omega),
          .c (hu _ _ (.inr rfl) (.inr rfl):ae gu ((ag x.hi)::(ag y.hi)::(iP p)::[]) _),tB 66 (bne_eq_false_iff_eq.2 k7),tB 69 (bne_iff_ne.2 k8),.c du]<|rQ (ai aj) (ai (et DD EE x y)) (by rw[show et DD EE x y=aj from if_neg (by rintro⟨⟨q0,r0⟩,⟨q1,r1⟩,⟨q2,r2⟩,⟨q3,r3⟩⟩;exact k8 r3)])))
        (fun k7=>chain [iX ((((0+1)+1)+1)) (4) (by omega),iX (0) (2) (by omega),iX (1) (2) (by omega),.c (hd _ _ (.inr rfl) (.inr rfl):ae gd ((ag x.hi)::(ag y.hi)::(iP p)::[]) _),iX (0) (2) (by omega),iX (1) (2) (by omega),
         .c (hu _ _ (.inr rfl) (.inr rfl):ae gu ((ag x.hi)::(ag y.hi)::(iP p)::[]) _),tB 66 (bne_iff_ne.2 k7),.c du]<|rQ (ai aj) (ai (et DD EE x y)) (by rw[show et DD EE x y=aj from if_neg (by rintro⟨⟨q0,r0⟩,⟨q1,r1⟩,⟨q2,r2⟩,⟨q3,r3⟩⟩;exact k7 q3)])))
       (fun k6=>chain [iX (((0+1)+1)) (4) (by omega),iX (0) (2) (by omega),iX (1) (2) (by omega),.c (hd _ _ (.inr rfl) (.inl rfl):ae gd ((ag x.hi)::(ag y.lo)::(iP p)::[]) _),iX (0) (2) (by omega),iX (1) (2) (by omega),
        .c (hu _ _ (.inr rfl) (.inl rfl):ae gu ((ag x.hi)::(ag y.lo)::(iP p)::[]) _),tB 66 (bne_eq_false_iff_eq.2 k5),tB 69 (bne_iff_ne.2 k6),.c du]<|rQ (ai aj) (ai (et DD EE x y)) (by rw[show et DD EE x y=aj from if_neg (by rintro⟨⟨q0,r0⟩,⟨q1,r1⟩,⟨q2,r2⟩,⟨q3,r3⟩⟩;exact k6 r2)])))
      (fun k5=>chain [iX (((0+1)+1)) (4) (by omega),iX (0) (2) (by omega),iX (1) (2) (by omega),.c (hd _ _ (.inr rfl) (.inl rfl):ae gd ((ag x.hi)::(ag y.lo)::(iP p)::[]) _),iX (0) (2) (by omega),iX (1) (2) (by omega),
       .c (hu _ _ (.inr rfl) (.inl rfl):ae gu ((ag x.hi)::(ag y.lo)::(iP p)::[]) _),tB 66 (bne_iff_ne.2 k5),.c du]<|rQ (ai aj) (ai (et DD EE x y)) (by rw[show et DD EE x y=aj from if_neg (by rintro⟨⟨q0,r0⟩,⟨q1,r1⟩,⟨q2,r2⟩,⟨q3,r3⟩⟩;exact k5 q2)])))
     (fun k4=>chain [iX ((0+1)) (4) (by omega),iX (0) (2) (by omega),iX (1) (2) (by omega),.c (hd _ _ (.inl rfl) (.inr rfl):ae gd ((ag x.lo)::(ag y.hi)::(iP p)::[]) _),iX (0) (2) (by omega),iX (1) (2) (by omega),
      .c (hu _ _ (.inl rfl) (.inr rfl):ae gu ((ag x.lo)::(ag y.hi)::(iP p)::[]) _),tB 66 (bne_eq_false_iff_eq.2 k3),tB 69 (bne_iff_ne.2 k4),.c du]<|rQ (ai aj) (ai (et DD EE x y)) (by rw[show et DD EE x y=aj from if_neg (by rintro⟨⟨q0,r0⟩,⟨q1,r1⟩,⟨q2,r2⟩,⟨q3,r3⟩⟩;exact k4 r1)])))
    (fun k3=>chain [iX ((0+1)) (4) (by omega),iX (0) (2) (by omega),iX (1) (2) (by omega),.c (hd _ _ (.inl rfl) (.inr rfl):ae gd ((ag x.lo)::(ag y.hi)::(iP p)::[]) _),iX (0) (2) (by omega),iX (1) (2) (by omega),
     .c (hu _ _ (.inl rfl) (.inr rfl):ae gu ((ag x.lo)::(ag y.hi)::(iP p)::[]) _),tB 66 (bne_iff_ne.2 k3),.c du]<|rQ (ai aj) (ai (et DD EE x y)) (by rw[show et DD EE x y=aj from if_neg (by rintro⟨⟨q0,r0⟩,⟨q1,r1⟩,⟨q2,r2⟩,⟨q3,r3⟩⟩;exact k3 q1)])))
   (fun k2=>chain [iX (0) (4) (by omega),iX (0) (2) (by omega),iX (1) (2) (by omega),.c (hd _ _ (.inl rfl) (.inl rfl):ae gd ((ag x.lo)::(ag y.lo)::(iP p)::[]) _),iX (0) (2) (by omega),iX (1) (2) (by omega),
    .c (hu _ _ (.inl rfl) (.inl rfl):ae gu ((ag x.lo)::(ag y.lo)::(iP p)::[]) _),tB 66 (bne_eq_false_iff_eq.2 k1),tB 69 (bne_iff_ne.2 k2),.c du]<|rQ (ai aj) (ai (et DD EE x y)) (by rw[show et DD EE x y=aj from if_neg (by rintro⟨⟨q0,r0⟩,⟨q1,r1⟩,⟨q2,r2⟩,⟨q3,r3⟩⟩;exact k2 r0)])))
  (fun k1=>chain [iX (0) (4) (by omega),iX (0) (2) (by omega),iX (1) (2) (by omega),.c (hd _ _ (.inl rfl) (.inl rfl):ae gd ((ag x.lo)::(ag y.lo)::(iP p)::[]) _),iX (0) (2) (by omega),iX (1) (2) (by omega),
   .c (hu _ _ (.inl rfl) (.inl rfl):ae gu ((ag x.lo)::(ag y.lo)::(iP p)::[]) _),tB 66 (bne_iff_ne.2 k1),.c du]<|rQ (ai aj) (ai (et DD EE x y)) (by rw[show et DD EE x y=aj from if_neg (by rintro⟨⟨q0,r0⟩,⟨q1,r1⟩,⟨q2,r2⟩,⟨q3,r3⟩⟩;exact k1 q0)]))) (by kernel_rfl)
open Go.RowKit Fp Pu
theorem R3{y:Iv}(hy:y.Valid)(hs:dw y≠0):y.lo.m≠0/\y.hi.m≠0:=by
 unfold dw at hs;have ha:y.all=false:=by
  cases h:y.all with
  | false=>rfl
  | true=>rw[h]at hs;exact absurd rfl hs
 obtain⟨v1,v2,v3⟩:=iB hy ha;rw[ha]at hs;simp only[Bool.false_eq_true,if_false]at hs;have z:∀ d:Dy,d.m=0->d.sign=0:=fun d h=>by unfold Dy.sign;rw[if_pos h]
 have hc:=oG y.lo y.hi;rw[hc]at v3;constructor
 .intro h0
  have:=z _ h0;rw[this]at hs v3;split at hs
  .omega
  .split at hs
   .split at v3<;>omega
   .exact hs rfl
 .intro h0
  have:=z _ h0;rw[this]at hs v3;split at hs
  .split at v3<;>omega
  .split at hs
   .omega
   .exact hs rfl
theorem KC(a b:Dy){p:Nat}(up:Bool)(hp:1<=p)(hp2:p<=4096):(ev a b p up).Valid:=by
 unfold ev;split
 .exact gL
 .exact ia _ _ _ _ _ _ hp hp2
theorem qv(x y:Iv)(p:Nat)(hx:x.Valid)(hy:y.Valid)(hp1:8<=p)(hp2:p<=512):ae 45 [(ai x),(ai y),(iP p)] (ai (aV x y p)):=by
 by_cases hk:(x.all||y.all)=true
 .exact tr true Tryz.call45 Tryz.func45 (chain [.o 9 (.e (lj _ _):PV.le (.e (.sl true 2 7 fun i_ j_=>(aF x++aF y).getD (i_*7+j_) (.v (.bool false)))) (.e (an [x,y]))),.c (lh _ _ ‹_› ‹_›:ae 86 [(an [x,y])] _),
   tB 10 (by rw[hk];rfl:(!(x.all||y.all))=false),.c du]<|rQ (ai aj) (ai (aV x y p)) (by rw[show aV x y p=aj by unfold aV;rw[if_pos hk]])) (by kernel_rfl)
 .replace hk:(x.all||y.all)=false:=by simpa using hk
  have hxa:x.all=false:=by cases h:x.all;rfl;rw[h]at hk;simp at hk
  have hya:y.all=false:=by cases h:y.all;rfl;rw[h]at hk;simp at hk
  obtain⟨v1,v2,v3⟩:=iB hx hxa;obtain⟨v4,v5,v6⟩:=iB hy hya;exact tr true Tryz.call45 Tryz.func45 (chain [.o 9 (.e (lj _ _):PV.le (.e (.sl true 2 7 fun i_ j_=>(aF x++aF y).getD (i_*7+j_) (.v (.bool false)))) (.e (an [x,y]))),.c (lh _ _ ‹_› ‹_›:ae 86 [(an [x,y])] _),
   tB 10 (by rw[hk];rfl:(!(x.all||y.all))=true),.c (jx _:ae 87 [(iP p)] _),tB 14 (fS.2 ⟨by omega,by omega⟩:(cB (p:Int))=true),
   .c (C0 x y p 92 93 (fun a b up=>bq (cS a b) p up) (fun a b up=>bg (cS a b) p up) (fun a b ha hb=>uc a b p (by rcases ha with rfl|rfl;exact v1;exact v2) (by rcases hb with rfl|rfl;exact v4;exact v5) hp1 hp2) (fun a b ha hb=>ud a b p (by rcases ha with rfl|rfl;exact v1;exact v2) (by rcases hb with rfl|rfl;exact v4;exact v5) hp1 hp2) (fun a b up=>ia _ _ _ _ _ _ (by omega) (by omega)))]<|rQ (ai (et (fun a b up=>bq (cS a b) p up) (fun a b up=>bg (cS a b) p up) x y)) (ai (aV x y p)) (by rw[show aV x y p=_ by unfold aV;rw[if_neg (by rw[hk];decide)]];rfl)) (by kernel_rfl)
theorem CZ(x y:Iv)(p:Nat)(hx:x.Valid)(hy:y.Valid)(hp1:8<=p)(hp2:p<=512):ae 239 [(ai x),(ai y),(iP p)] (ai (bT x y p)):=by
 by_cases hk:(x.all||y.all)=true
 .exact tr true Tryz.call239 Tryz.func239 (chain [.o 9 (.e (lj _ _):PV.le (.e (.sl true 2 7 fun i_ j_=>(aF x++aF y).getD (i_*7+j_) (.v (.bool false)))) (.e (an [x,y]))),.c (lh _ _ ‹_› ‹_›:ae 86 [(an [x,y])] _),
   tB 10 (by rw[hk];rfl:(!(x.all||y.all))=false),.c du]<|rQ (ai aj) (ai (bT x y p)) (by rw[show bT x y p=aj by unfold bT;rw[if_pos (by rw[hk];rfl)]])) (by kernel_rfl)
 .replace hk:(x.all||y.all)=false:=by simpa using hk
  have hxa:x.all=false:=by cases h:x.all;rfl;rw[h]at hk;simp at hk
  have hya:y.all=false:=by cases h:y.all;rfl;rw[h]at hk;simp at hk
  obtain⟨v1,v2,v3⟩:=iB hx hxa;obtain⟨v4,v5,v6⟩:=iB hy hya;by_cases hs:dw y=0
  .exact tr true Tryz.call239 Tryz.func239 (chain [.o 9 (.e (lj _ _):PV.le (.e (.sl true 2 7 fun i_ j_=>(aF x++aF y).getD (i_*7+j_) (.v (.bool false)))) (.e (an [x,y]))),.c (lh _ _ ‹_› ‹_›:ae 86 [(an [x,y])] _),
    tB 10 (by rw[hk];rfl:(!(x.all||y.all))=true),.c (jx _:ae 87 [(iP p)] _),tB 14 (fS.2 ⟨by omega,by omega⟩:(cB (p:Int))=true),.c (tv y ‹_›),
    tB 20 (by rw[hs];rfl:((dw y)==0)=true),.c du]<|rQ (ai aj) (ai (bT x y p)) (by rw[show bT x y p=aj by unfold bT;rw[if_pos (by rw[hk,decide_eq_true hs];rfl)]])) (by kernel_rfl)
  .obtain ⟨n1,n2⟩:=R3 hy hs
   exact tr true Tryz.call239 Tryz.func239 (chain [.o 9 (.e (lj _ _):PV.le (.e (.sl true 2 7 fun i_ j_=>(aF x++aF y).getD (i_*7+j_) (.v (.bool false)))) (.e (an [x,y]))),.c (lh _ _ ‹_› ‹_›:ae 86 [(an [x,y])] _),
    tB 10 (by rw[hk];rfl:(!(x.all||y.all))=true),.c (jx _:ae 87 [(iP p)] _),tB 14 (fS.2 ⟨by omega,by omega⟩:(cB (p:Int))=true),.c (tv y ‹_›),
    tB 20 (by simpa using hs:((dw y)==0)=false),
    .c (C0 x y p 236 237 (fun a b up=>ev a b p up) (fun a b up=>fw a b p up) (fun a b ha hb=>EN a b p (by rcases ha with rfl|rfl;exact v1;exact v2) (by rcases hb with rfl|rfl;exact v4;exact v5) (by rcases hb with rfl|rfl;exact n1;exact n2) hp1 hp2) (fun a b ha hb=>EO a b p (by rcases ha with rfl|rfl;exact v1;exact v2) (by rcases hb with rfl|rfl;exact v4;exact v5) (by rcases hb with rfl|rfl;exact n1;exact n2) hp1 hp2) (fun a b up=>KC a b up (by omega) (by omega)))]<|rQ (ai (et (fun a b up=>ev a b p up) (fun a b up=>fw a b p up) x y)) (ai (bT x y p)) (by rw[show bT x y p=_ by unfold bT;rw[if_neg (by rw[hk,decide_eq_false hs];decide)]])) (by kernel_rfl)
open Go.RowKit Fp Pu
theorem NY(d:RD)(h:d.Zero):ae 137 [(cO d)] (bP true):=by
 obtain⟨h1,h2,h3⟩:=h;exact tr true Tryz.call137 Tryz.func137 (chain [tB 4 (h1:d.neg=false),tB 10 (iW (by rw[h2];rfl):((d.L.length:Int)==0)=true),tB 15 (by rw[h3];rfl:(d.e==0)=true)] <| .nil) (by kernel_rfl)
theorem C6(d:RD)(h:¬d.Zero):ae 137 [(cO d)] (bP false):=by
 by_cases h1:d.neg=true
 .exact tr true Tryz.call137 Tryz.func137 (chain [tB 4 (h1:d.neg=true)] <| .nil) (by kernel_rfl)
 .replace h1:d.neg=false:=by simpa using h1
  by_cases h2:d.L=[]
  .have h3:¬d.e=0:=fun q=>h ⟨h1,h2,q⟩
   exact tr true Tryz.call137 Tryz.func137 (chain [tB 4 (h1:d.neg=false),tB 10 (iW (by rw[h2];rfl):((d.L.length:Int)==0)=true),tB 15 (by simpa using h3:(d.e==0)=false)] <| .nil) (by kernel_rfl)
  .exact tr true Tryz.call137 Tryz.func137 (chain [tB 4 (h1:d.neg=false),tB 10 (dZ (fun q=>h2 (List.length_eq_zero_iff.1 q)):((d.L.length:Int)==0)=false)] <| .nil) (by kernel_rfl)
theorem NW(x:RI)(g:x.Good)(h:x.Ok):ae 84 [fE x] (bP true):=by
 have:=dc x.iv h.valid;rwa[<-qw,h.eq g]at this
theorem NU(x:RI)(g:x.Good)(h:¬x.Ok):ae 84 [(fE x)] (bP false):=by
 have ga:=g.lo;have gb:=g.hi;by_cases ha:x.all=true
 .by_cases h1:x.lo.Zero
  .have h2:¬x.hi.Zero:=fun q=>h (.inl ⟨ha,h1,q⟩)
   exact tr true Tryz.call84 Tryz.func84 (chain [tB 5 (ha:x.all=true),.c (NY _ h1:ae 137 [(cO x.lo)] _),.c (C6 _ h2:ae 137 [(cO x.hi)] _)] <| .nil) (by kernel_rfl)
  .exact tr true Tryz.call84 Tryz.func84 (chain [tB 5 (ha:x.all=true),.c (C6 _ h1:ae 137 [(cO x.lo)] _)] <| .nil) (by kernel_rfl)
 .replace ha:x.all=false:=by simpa using ha
  by_cases h1:x.lo.Ok
  .by_cases h2:x.hi.Ok
   .have h3:¬aD x.lo.dy x.hi.dy<=0:=fun q=>h (.inr ⟨ha,h1,h2,q⟩)
    have v1:=h1.valid;have v2:=h2.valid;have e1:fE x=ai x.iv:=by rw[<-qw,show x.iv.raw=x by show RI.mk x.lo.dy.raw x.hi.dy.raw x.all=x;rw[h1.eq ga,h2.eq gb]]
    rw[e1];exact tr true Tryz.call84 Tryz.func84 (chain [tB 5 (ha:x.iv.all=false),.c (fg _ ‹_›:ae 68 [(ag x.iv.lo)] _),.c (fg _ ‹_›:ae 68 [(ag x.iv.hi)] _),
     .c (b9 _ _ ‹_› ‹_›:ae 37 [(ag x.iv.lo),(ag x.iv.hi)] _),tB 30 (decide_eq_false h3)] <| .nil) (by kernel_rfl)
   .exact tr true Tryz.call84 Tryz.func84 (chain [tB 5 (ha:x.all=false),.c (nm _ ‹_› true (by simp[h1]):ae 68 [(cO x.lo)] _),.c (nm _ ‹_› false (by simp[h2]):ae 68 [(cO x.hi)] _)] <| .nil) (by kernel_rfl)
  .exact tr true Tryz.call84 Tryz.func84 (chain [tB 5 (ha:x.all=false),.c (nm _ ‹_› false (by simp[h1]):ae 68 [(cO x.lo)] _)] <| .nil) (by kernel_rfl)
theorem NV(x:RI)(g:x.Good):ae 84 [fE x] (bP (okB x)):=by
 by_cases h:x.Ok
 .rw [gV.2 h];exact NW x g h
 .rw [show okB x=false by simpa using fun q=>h (gV.1 q)];exact NU x g h
open Go.RowKit Fp Pu
abbrev bA(xs:List Iv):Nat->Nat->E:=fun i j=>(aF (xs.getD i aj)).getD j .any
theorem tn(x:Iv)(j:Nat)(hj:j<7):((aF x).getD j .any).nr 2=true:=by
 rcases j with _|_|_|_|_|_|_|j
 all_goals first|rfl|omega
theorem N8{T n:Nat}{xs:List Iv}{y:Iv}(hn:n=xs.length) :
  Bx.le (.row true T (n+[y].length) 7 fun i j=>if i<n then bA xs i j else(E.fP (an [y])) (i-n) j) (.row true T (xs++[y]).length 7 (bA (xs++[y]))):=by
 subst hn;refine .row (by simp) fun i j hi hj=>⟨.of_eq ?_,tn _ _ hj⟩
 by_cases h:i<xs.length
 .rw [if_pos h]
  show(aF (xs.getD i aj)).getD j .any=(aF ((xs++[y]).getD i aj)).getD j .any;congr 2;simp[List.getD_eq_getElem?_getD,List.getElem?_append_left h]
 .have hi':i=xs.length:=by simp at hi;omega
  subst hi';rw[if_neg h,Nat.sub_self];show(aF y).getD j .any=(aF ((xs++[y]).getD xs.length aj)).getD j .any;congr 2;simp[List.getD_eq_getElem?_getD]
theorem iY{α:Type}(y:α):[y].length=1:=rfl
theorem yd{n i:Nat}{F:Nat->Iv}(h:i<n):((List.range n).map F).getD i aj=F i:=by
 simp[List.getD_eq_getElem?_getD,h]
end Go.Proofs.YtdgnpeddgdclhaaGreatDoor
namespace Go.Proofs.YtdgnpeddgdclhaaGreatDoor.Fp
section
variable {a b:Dy} {k:Int}
end
theorem M6{m gm p:Nat}{e ge K:Int}(hp:1<=p)(hg:ak gm<=p)(hge:-16384<=ge)(k1:K<=e)(k2:K<=ge)
  (h:gm*2^(ge-K).toNat<=m*2^(e-K).toNat):gm*2^(ge-K).toNat<=bX m e false p false*2^(e+a7 m e p-K).toNat:=by
 have hq:bX m e false p false=m/2^a7 m e p:=by unfold bX;simp
 rw[hq];have hm:=Nat.div_add_mod m (2^a7 m e p);have hr:=Nat.mod_lt m (Nat.pow_pos (n:=a7 m e p) (by decide:0<2));obtain⟨k,hk⟩:∃ k,k=a7 m e p:=⟨_,rfl⟩
 rw[<-hk]at hm hr ⊢;have e1:(e+(k:Int)-K).toNat=k+(e-K).toNat:=by omega
 rw[e1,Nat.pow_add];generalize hE:2^(e-K).toNat=E at *
 have hE0:0<E:=by rw[<-hE];exact Nat.pow_pos (by decide)
 have hmE:m*E<(m/2^k+1)*(2^k*E):=by
  rw[<-Nat.mul_assoc];refine Nat.mul_lt_mul_of_pos_right ?_ hE0;rw[Nat.add_mul,Nat.one_mul,Nat.mul_comm];omega
 by_cases hc:e+k<=ge
 .
  have e2:(ge-K).toNat=(ge-(e+k)).toNat+(k+(e-K).toNat):=by omega
  rw[e2,Nat.pow_add,Nat.pow_add 2 k,hE]at h ⊢;rw[<-Nat.mul_assoc]at h ⊢;generalize gm*2^(ge-(e+k)).toNat=g at *
  have:g<m/2^k+1:=by
   apply Classical.byContradiction;intro h';have:=Nat.mul_le_mul_right (2^k*E) (show m/2^k+1<=g by omega);omega
  exact Nat.mul_le_mul_right _ (by omega)
 .by_cases hk0:k=0
  .subst hk0
   rw[Nat.pow_zero,Nat.div_one,Nat.one_mul];exact h
  .
   have hb:(ak m:Int)-p=k:=by unfold a7 at hk;omega
   have hm0:m≠0:=by intro h0;rw[h0]at hb;simp[ak]at hb;omega
   have h1:=iq hm0;have h2:2^(ak m-1-k)<=m/2^k:=by
    rw[Nat.le_div_iff_mul_le (Nat.pow_pos (by decide)),<-Nat.pow_add];exact Nat.le_trans (Nat.pow_le_pow_right (by decide) (by have:=dX hm0;omega)) h1
   have h3:gm<2^p:=cv.1 hg;refine Nat.le_trans (Nat.mul_le_mul_right _ (Nat.le_of_lt h3)) (Nat.le_trans ?_ (Nat.mul_le_mul_right _ h2));rw[<-hE,<-Nat.pow_add,<-Nat.pow_add,<-Nat.pow_add];exact Nat.pow_le_pow_right (by decide) (by omega)
theorem CI{m gm p:Nat}{e ge K:Int}(hp:1<=p)(hg:ak gm<=p)(hge:-16384<=ge)(k1:K<=e)(k2:K<=ge)
  (h:m*2^(e-K).toNat<=gm*2^(ge-K).toNat):bX m e false p true*2^(e+a7 m e p-K).toNat<=gm*2^(ge-K).toNat:=by
 have hq0:bX m e false p false=m/2^a7 m e p:=by unfold bX;simp
 have hq1:bX m e false p true=m/2^a7 m e p+if m%2^a7 m e p≠0 then 1 else 0:=by unfold bX;simp
 have hm:=Nat.div_add_mod m (2^a7 m e p);obtain⟨k,hk⟩:∃ k,k=a7 m e p:=⟨_,rfl⟩
 rw[hq1];rw[<-hk]at hm ⊢;have e1:(e+(k:Int)-K).toNat=k+(e-K).toNat:=by omega
 rw[e1,Nat.pow_add];generalize hE:2^(e-K).toNat=E at *
 have hE0:0<E:=by rw[<-hE];exact Nat.pow_pos (by decide)
 by_cases hr:m%2^k=0
 .rw [if_neg (by omega),Nat.add_zero,<-Nat.mul_assoc]
  refine Nat.le_trans (Nat.le_of_eq ?_) h;congr 1;rw[Nat.mul_comm];omega
 .rw [if_pos hr]
  have hk0:k≠0:=by intro h0;rw[h0,Nat.pow_zero,Nat.mod_one]at hr;exact hr rfl
  have hlt:m/2^k*(2^k*E)<gm*2^(ge-K).toNat:=by
   refine Nat.lt_of_lt_of_le ?_ h;rw[<-Nat.mul_assoc];refine Nat.mul_lt_mul_of_pos_right ?_ hE0;rw[Nat.mul_comm];omega
  by_cases hc:e+k<=ge
  .have e2:(ge-K).toNat=(ge-(e+k)).toNat+(k+(e-K).toNat):=by omega
   have e3:gm*2^(ge-K).toNat=gm*2^(ge-(e+k)).toNat*(2^k*E):=by rw[e2,Nat.pow_add,Nat.pow_add 2 k,hE,Nat.mul_assoc]
   rw[e3]at hlt ⊢;generalize gm*2^(ge-(e+k)).toNat=g at *
   have:m/2^k<g:=Nat.lt_of_mul_lt_mul_right hlt;exact Nat.mul_le_mul_right _ this
  .
   exfalso;have hb:(ak m:Int)-p=k:=by unfold a7 at hk;omega
   have hm0:m≠0:=by intro h0;rw[h0]at hr;simp at hr
   have h1:=iq hm0;have hbp:=dX hm0;have h3:gm<2^p:=cv.1 hg;have h4:gm*2^(ge-K).toNat<=2^(ak m-1)*E:=by
    refine Nat.le_trans (Nat.mul_le_mul_right _ (Nat.le_of_lt h3)) ?_;rw[<-hE,<-Nat.pow_add,<-Nat.pow_add];exact Nat.pow_le_pow_right (by decide) (by omega)
   have h5:2^(ak m-1-k)<=m/2^k:=by
    rw[Nat.le_div_iff_mul_le (Nat.pow_pos (by decide)),<-Nat.pow_add];exact Nat.le_trans (Nat.pow_le_pow_right (by decide) (by omega)) h1
   have h6:2^(ak m-1)*E<=m/2^k*(2^k*E):=by
    rw[<-Nat.mul_assoc];refine Nat.mul_le_mul_right _ ?_;have:=Nat.mul_le_mul_right (2^k) h5;rw[<-Nat.pow_add]at this;exact Nat.le_trans (Nat.pow_le_pow_right (by decide) (by omega)) this
   omega
def P2(k:Int):Rat:=(2:Rat)^k
theorem dt(k:Int):0<P2 k:=Rat.zpow_pos (by decide)
theorem fG(a b:Int):P2 (a+b)=P2 a*P2 b:=Rat.zpow_add (by decide) a b
theorem kN(n:Nat):P2 (n:Int)=((2^n:Nat):Rat):=by unfold P2;rw[Rat.zpow_natCast];simp
theorem u7:P2 0=1:=by have:=kN 0;simpa using this
theorem pN{e k:Int}(h:k<=e):P2 e=((2^(e-k).toNat:Nat):Rat)*P2 k:=by
 rw[<-kN,<-fG];congr 1;omega
theorem jB{x y:Rat}(k:Int):x*P2 k<=y*P2 k↔x<=y :=
 ⟨fun h=>Rat.le_of_mul_le_mul_right h (dt k),fun h=>Rat.mul_le_mul_of_nonneg_right h (Rat.le_of_lt (dt k))⟩
theorem iU{m n:Nat}{e f K:Int}(h1:K<=e)(h2:K<=f):(m:Rat)*P2 e<=(n:Rat)*P2 f↔m*2^(e-K).toNat<=n*2^(f-K).toNat:=by
 rw[pN h1,pN h2,<-Rat.mul_assoc,<-Rat.mul_assoc,jB,<-Rat.natCast_mul,<-Rat.natCast_mul,Rat.natCast_le_natCast]
def Dy.q(d:Dy):Rat:=((d.num d.e:Int):Rat)*P2 d.e
theorem kH{d:Dy}{k:Int}(h:eU d k):d.q=((d.num k:Int):Rat)*P2 k:=by
 unfold Dy.q;rcases h with h|h
 .rw [jD h,jD h];simp
 .rw [tO h (Int.le_refl _),pN h,<-Rat.mul_assoc,Rat.intCast_mul,Rat.intCast_natCast]
theorem eI(a b:Dy):aD a b<=0↔a.q<=b.q:=by
 obtain⟨k,ka,kb⟩:∃ k:Int,k<=a.e/\k<=b.e:=⟨min a.e b.e,by omega,by omega⟩
 rw[le_iff (.inr ka) (.inr kb),kH (.inr ka),kH (.inr kb),jB,Rat.intCast_le_intCast]
theorem xY(a b:Dy):(av a b).q=a.q+b.q:=by
 obtain⟨k,ka,kb⟩:∃ k:Int,k<=a.e/\k<=b.e:=⟨min a.e b.e,by omega,by omega⟩
 rw[kH (r8 (.inr ka) (.inr kb)),kH (.inr ka),kH (.inr kb),uF (.inr ka) (.inr kb),Rat.intCast_add,Rat.add_mul]
theorem fD(a:Dy):(aC a).q = -a.q:=by
 rw[kH (vg (.inr (Int.le_refl a.e))),xH,Rat.intCast_neg,Rat.neg_mul];rfl
theorem fU(s:Bool)(m:Nat)(e:Int):(canon s m e).q=if s then -((m:Rat)*P2 e)else(m:Rat)*P2 e:=by
 rw[kH (mc (Int.le_refl e)),nM (Int.le_refl e)];have:(e-e).toNat=0:=by omega
 rw[this];cases s<;>simp[Rat.intCast_neg,Rat.neg_mul,Rat.intCast_natCast]
theorem e9(a:Dy):a.q=if a.neg then -((a.m:Rat)*P2 a.e)else(a.m:Rat)*P2 a.e:=by
 unfold Dy.q Dy.num Dy.aZ;have:(a.e-a.e).toNat=0:=by omega
 rw[this];cases a.neg<;>simp[Rat.intCast_neg,Rat.neg_mul,Rat.intCast_natCast]
theorem pr(a b:Dy):(jU a b).q=a.q*b.q:=by
 unfold jU;rw[fU,e9 a,e9 b,fG,Rat.natCast_mul];cases a.neg<;>cases b.neg<;>simp<;>grind
theorem ik:aT.q=0:=by rw[e9];simp[aT]
theorem P3{a b:Dy}(ha:a.Canon)(hb:b.Canon)(h:a.q=b.q):a=b:=by
 obtain⟨k,ka,kb⟩:∃ k:Int,k<=a.e/\k<=b.e:=⟨min a.e b.e,by omega,by omega⟩
 refine BY ha hb (.inr ka) (.inr kb) ?_;rw[kH (.inr ka),kH (.inr kb)]at h;have h1:=(jB (x:=((a.num k:Int):Rat)) (y:=((b.num k:Int):Rat)) k).1 (by rw[h];exact Rat.le_refl);have h2:=(jB (x:=((b.num k:Int):Rat)) (y:=((a.num k:Int):Rat)) k).1 (by rw[h];exact Rat.le_refl);rw[Rat.intCast_le_intCast]at h1 h2;omega
theorem mK(n:Int):(az n).q=(n:Rat):=by
 unfold az;rw[kH (k:=0) (vf (Int.le_refl 0)),xG (Int.le_refl 0),u7];simp
theorem lF(d:Dy):0<=(cE d).q/\d.q<=(cE d).q /\ -d.q<=(cE d).q/\((cE d).q=d.q\/(cE d).q = -d.q):=by
 have h:(cE d).q=(d.m:Rat)*P2 d.e:=by rw[e9];rfl
 have h0:0<=(d.m:Rat)*P2 d.e:=Rat.mul_nonneg (Rat.natCast_nonneg) (Rat.le_of_lt (dt _));rw[h,e9 d];cases d.neg<;>simp<;>grind
theorem gl(d:Dy):(0<d.sign↔0<d.q)/\(d.sign<0↔d.q<0):=by
 have h:=dt d.e;have hm:d.m≠0->0<(d.m:Rat)*P2 d.e:=fun h0=>Rat.mul_pos (Rat.natCast_pos.2 (by omega)) h
 rw[e9];unfold Dy.sign;by_cases h0:d.m=0
 .simp [h0]
 .have:=hm h0
  rw[if_neg h0];cases d.neg<;>simp<;>grind
theorem re(a b:Dy):a.q<=(maxD a b).q/\b.q<=(maxD a b).q/\((maxD a b).q=a.q\/(maxD a b).q=b.q) :=
 ⟨(eI _ _).1 (ph a b),(eI _ _).1 (DC a b),by unfold maxD;split;exact .inr rfl;exact .inl rfl⟩
theorem nR(a b:Dy):(minD a b).q<=a.q/\(minD a b).q<=b.q/\((minD a b).q=a.q\/(minD a b).q=b.q) :=
 ⟨(eI _ _).1 (qH a b),(eI _ _).1 (DE a b),by unfold minD;split;exact .inr rfl;exact .inl rfl⟩
def GM(p:Nat)(g:Rat):Prop:=∃ (m:Nat) (e:Int),ak m<=p /\ -16384<=e/\(ak m:Int)+e<=16384/\g=(m:Rat)*P2 e
def G(p:Nat)(g:Rat):Prop:=GM p g\/GM p (-g)
theorem GM.qS{p:Nat}{g:Rat}(h:GM p g):0<=g:=by
 obtain⟨m,e,_,_,_,rfl⟩:=h;exact Rat.mul_nonneg (Rat.natCast_nonneg) (Rat.le_of_lt (dt _))
theorem lW(p:Nat):GM p 0:=⟨0,0,by simp[gQ],by omega,by simp[gQ],by simp⟩
theorem G.neg{p:Nat}{g:Rat}(h:G p g):G p (-g):=by
 rcases h with h|h
 .exact .inr (by rw[Rat.neg_neg];exact h)
 .exact .inl h
theorem G.pos{p:Nat}{g:Rat}(h:G p g)(h0:0<=g):GM p g:=by
 rcases h with h|h
 .exact h
 .have:=h.qS
  have:g=0:=by grind
  rw[this];exact lW p
theorem AV(k:Nat):ak (2^k)=k+1:=kR (Nat.le_refl _) (Nat.pow_lt_pow_right (by decide) (by omega))
theorem kq:ak 1=1:=AV 0
section
variable {m p:Nat} {e:Int}
theorem Gx(hp:1<=p)(hp2:p<=4096)(ho:cH m e false p false=true) :
  GM p (((2^p-1:Nat):Rat)*P2 (16384-p))/\((2^p-1:Nat):Rat)*P2 (16384-p)<=(m:Rat)*P2 e/\∀ g,GM p g->g<=((2^p-1:Nat):Rat)*P2 (16384-p):=by
 have hpp:2<=2^p:=by
  have:=Nat.pow_le_pow_right (n:=2) (by decide) hp;omega
 have hb:ak (2^p-1)=p:=by
  obtain⟨j,rfl⟩:∃ j,p=j+1:=⟨p-1,by omega⟩
  have h2:2^(j+1)=2^j*2:=Nat.pow_succ _ _;have h3:=Nat.pow_pos (n:=j) (by decide:0<2);exact kR (by omega) (by omega)
 refine⟨⟨_,_,Nat.le_of_eq hb,by omega,by omega,rfl⟩,?_,?_⟩
 .obtain ⟨c1,c2⟩:=sJ m e p
  unfold cH at ho;simp only[Bool.and_eq_true,decide_eq_true_eq]at ho;obtain⟨o1,o2⟩:=ho;have hq:=iq o1;have hbp:=dX o1;obtain⟨K,k1,k2⟩:∃ K:Int,K<=e/\K<=16384-p:=⟨min e (16384-p),by omega,by omega⟩
  rw[iU k2 k1];have h1:2^(ak (bX m e false p false)-1)*2^a7 m e p<=m:=Nat.le_trans (Nat.mul_le_mul_right _ hq) c1;have h2:=Nat.mul_le_mul_right (2^(e-K).toNat) h1;rw[<-Nat.pow_add,<-Nat.pow_add]at h2;refine Nat.le_trans (Nat.mul_le_mul_right _ (Nat.sub_le _ _)) (Nat.le_trans ?_ h2);rw[<-Nat.pow_add];exact Nat.pow_le_pow_right (by decide) (by omega)
 .rintro g ⟨gm,ge,b1,b2,b3,rfl⟩
  by_cases hc:ge<=16384-p
  .have:gm<2^p:=cv.1 b1
   rw[iU (K:=ge) (Int.le_refl _) hc];have e0:(ge-ge).toNat=0:=by omega
   rw[e0,Nat.pow_zero,Nat.mul_one];exact Nat.le_trans (show gm<=2^p-1 by omega) (Nat.le_mul_of_pos_right _ (Nat.pow_pos (by decide)))
  .rw [iU (K:=16384-p) (by omega) (Int.le_refl _)]
   have e0:((16384:Int)-p-(16384-p)).toNat=0:=by omega
   rw[e0,Nat.pow_zero,Nat.mul_one];have h1:gm<2^(16384-ge).toNat:=by
    by_cases h0:gm=0
    .rw [h0];exact Nat.pow_pos (by decide)
    .exact cv.1 (by omega)
   have h2:=Nat.mul_lt_mul_of_pos_right h1 (Nat.pow_pos (n:=(ge-(16384-p)).toNat) (by decide:0<2));by_cases hg:ge<=16384
   .rw [<-Nat.pow_add,show(16384-ge).toNat+(ge-(16384-(p:Int))).toNat=p by omega]at h2
    omega
   .have:gm=0:=by
     rw[show(16384-ge).toNat=0 by omega]at h1;simpa using h1
    rw[this,Nat.zero_mul];omega
theorem Gw(hp:1<=p)(ho:¬cH m e false p false=true) :
  GM p (((bX m e false p false:Nat):Rat)*P2 (e+a7 m e p))/\((bX m e false p false:Nat):Rat)*P2 (e+a7 m e p)<=(m:Rat)*P2 e /\
  ∀ g,GM p g->g<=(m:Rat)*P2 e->g<=((bX m e false p false:Nat):Rat)*P2 (e+a7 m e p):=by
 obtain⟨c1,c2⟩:=sJ m e p;have hk:-16384<=e+(a7 m e p:Int):=by unfold a7;omega
 refine⟨?_,?_,?_⟩
 .by_cases h0:bX m e false p false=0
  .rw [h0];simpa using lW p
  .have hq:bX m e false p false<2^p:=by
    have:=BM m e p;unfold bX;simpa using this
   unfold cH at ho;simp only[ne_eq,h0,not_false_eq_true,decide_true,Bool.true_and,decide_eq_true_eq]at ho;exact⟨_,_,cv.2 hq,hk,by omega,rfl⟩
 .rw [iU (K:=e) (by omega) (Int.le_refl _)]
  rw[show(e-e).toNat=0 by omega,show(e+(a7 m e p:Int)-e).toNat=a7 m e p by omega,Nat.pow_zero,Nat.mul_one];exact c1
 .rintro g ⟨gm,ge,b1,b2,b3,rfl⟩ h
  obtain⟨K,k1,k2⟩:∃ K:Int,K<=e/\K<=ge:=⟨min e ge,by omega,by omega⟩
  rw[iU k2 k1]at h;rw[iU (K:=K) k2 (by omega)];exact M6 hp b1 b2 k1 k2 h
theorem Bl(hp:1<=p)(ho:cH m e false p true=true)(g:Rat)(hg:GM p g):¬(m:Rat)*P2 e<=g:=by
 obtain⟨gm,ge,b1,b2,b3,rfl⟩:=hg;intro h;obtain⟨K,k1,k2⟩:∃ K:Int,K<=e/\K<=ge:=⟨min e ge,by omega,by omega⟩
 rw[iU k1 k2]at h;have h:=CI hp b1 b2 k1 k2 h;unfold cH at ho;simp only[Bool.and_eq_true,decide_eq_true_eq]at ho;obtain⟨o1,o2⟩:=ho;have hq:=iq o1;have hbp:=dX o1;have h3:gm<2^ak gm:=gi gm;have h4:=Nat.mul_lt_mul_of_pos_right h3 (Nat.pow_pos (n:=(ge-K).toNat) (by decide:0<2));have h5:=Nat.mul_le_mul_right (2^(e+(a7 m e p:Int)-K).toNat) hq
 rw[<-Nat.pow_add]at h4 h5;have h6:2^(ak gm+(ge-K).toNat)<=2^(ak (bX m e false p true)-1+(e+(a7 m e p:Int)-K).toNat):=Nat.pow_le_pow_right (by decide) (by omega);omega
theorem Bk(hp:1<=p)(ho:¬cH m e false p true=true) :
  GM p (((bX m e false p true:Nat):Rat)*P2 (e+a7 m e p))/\(m:Rat)*P2 e<=((bX m e false p true:Nat):Rat)*P2 (e+a7 m e p) /\
  ∀ g,GM p g->(m:Rat)*P2 e<=g->((bX m e false p true:Nat):Rat)*P2 (e+a7 m e p)<=g:=by
 obtain⟨c1,c2⟩:=sJ m e p;have hk:-16384<=e+(a7 m e p:Int):=by unfold a7;omega
 refine⟨?_,?_,?_⟩
 .by_cases h0:bX m e false p true=0
  .rw [h0];simpa using lW p
  .unfold cH at ho
   simp only[ne_eq,h0,not_false_eq_true,decide_true,Bool.true_and,decide_eq_true_eq]at ho;rcases Nat.lt_or_eq_of_le (BC m e false p true)with hq|hq
   .exact ⟨_,_,cv.2 hq,hk,by omega,rfl⟩
   .rw [hq]at ho ⊢
    rw[AV]at ho;refine⟨1,p+(e+a7 m e p),by rw[kq];exact hp,by omega,by rw[kq];omega,?_⟩;rw[fG (p:Int),kN p,show((1:Nat):Rat)=1 from rfl,Rat.one_mul]
 .rw [iU (K:=e) (Int.le_refl _) (by omega)]
  rw[show(e-e).toNat=0 by omega,show(e+(a7 m e p:Int)-e).toNat=a7 m e p by omega,Nat.pow_zero,Nat.mul_one];exact c2
 .rintro g ⟨gm,ge,b1,b2,b3,rfl⟩ h
  obtain⟨K,k1,k2⟩:∃ K:Int,K<=e/\K<=ge:=⟨min e ge,by omega,by omega⟩
  rw[iU k1 k2]at h;rw[iU (K:=K) (by omega) k2];exact CI hp b1 b2 k1 k2 h
end
def Dn(p:Nat)(v:Rat)(D:Dy)(E:Int):Prop:=(E=0->G p D.q/\D.q<=v)/\∀ g,G p g->g<=v->E=0/\g<=D.q
def Up(p:Nat)(v:Rat)(D:Dy)(E:Int):Prop:=(E=0->G p D.q/\v<=D.q)/\∀ g,G p g->v<=g->E=0/\D.q<=g
theorem Dn.of{p:Nat}{v w:Rat}{D:Dy}{E:Int}(h:Dn p v D E)(k:∀ g,G p g->(g<=v↔g<=w)):Dn p w D E :=
 ⟨fun e=>⟨(h.1 e).1,(k _ (h.1 e).1).1 (h.1 e).2⟩,fun g hg hw=>h.2 g hg ((k g hg).2 hw)⟩
theorem Up.of{p:Nat}{v w:Rat}{D:Dy}{E:Int}(h:Up p v D E)(k:∀ g,G p g->(v<=g↔w<=g)):Up p w D E :=
 ⟨fun e=>⟨(h.1 e).1,(k _ (h.1 e).1).1 (h.1 e).2⟩,fun g hg hw=>h.2 g hg ((k g hg).2 hw)⟩
theorem qf(neg:Bool)(m:Nat)(e:Int){p:Nat}(hp:1<=p)(hp2:p<=4096):Dn p (canon neg m e).q (bn neg m e false p false) (bd neg m e false p false):=by
 have hv:0<=(m:Rat)*P2 e:=Rat.mul_nonneg (Rat.natCast_nonneg) (Rat.le_of_lt (dt _));rw[fU];cases neg
 .
  have hE:bd false m e false p false=0:=by unfold bd;simp
  rw[hE];unfold bn;simp only[bne_self_eq_false,Bool.false_eq_true,if_false];by_cases ho:cH m e false p false=true
  .obtain ⟨t1,t2,t3⟩:=Gx hp hp2 ho
   rw[if_pos ho];(first|unfold Dn|unfold Up);rw[fU];simp only[Bool.false_eq_true,if_false];refine⟨fun _=>⟨.inl t1,t2⟩,fun g hg hle=>⟨trivial,?_⟩⟩;by_cases h0:0<=g
   .exact t3 g (hg.pos h0)
   .have:=t1.qS;grind
  .obtain ⟨t1,t2,t3⟩:=Gw hp ho
   rw[if_neg ho];(first|unfold Dn|unfold Up);rw[fU];simp only[Bool.false_eq_true,if_false];refine⟨fun _=>⟨.inl t1,t2⟩,fun g hg hle=>⟨trivial,?_⟩⟩;by_cases h0:0<=g
   .exact t3 g (hg.pos h0) hle
   .have:=t1.qS;grind
 .unfold bn bd
  simp only[Bool.bne_false,Bool.and_true,if_true];by_cases ho:cH m e false p true=true
  .rw [if_pos ho,if_pos ho]
   refine⟨fun h=>by simp at h,fun g hg hle=>?_⟩;exact absurd (show(m:Rat)*P2 e <= -g by grind) (Bl hp ho _ (hg.neg.pos (by grind)))
  .obtain ⟨t1,t2,t3⟩:=Bk hp ho
   rw[if_neg ho,if_neg ho];(first|unfold Dn|unfold Up);rw[fU];simp only[if_true];refine⟨fun _=>⟨.inr (by rw[Rat.neg_neg];exact t1),by grind⟩,fun g hg hle=>⟨trivial,?_⟩⟩;have:=t3 (-g) (hg.neg.pos (by grind)) (by grind)
   grind
theorem qg(neg:Bool)(m:Nat)(e:Int){p:Nat}(hp:1<=p)(hp2:p<=4096):Up p (canon neg m e).q (bn neg m e false p true) (bd neg m e false p true):=by
 have hv:0<=(m:Rat)*P2 e:=Rat.mul_nonneg (Rat.natCast_nonneg) (Rat.le_of_lt (dt _));rw[fU];cases neg
 .unfold bn bd
  simp only[Bool.bne_true,Bool.not_false,Bool.and_true,if_true,Bool.false_eq_true,if_false];by_cases ho:cH m e false p true=true
  .rw [if_pos ho,if_pos ho]
   refine⟨fun h=>by simp at h,fun g hg hle=>?_⟩;exact absurd hle (Bl hp ho _ (hg.pos (by grind)))
  .obtain ⟨t1,t2,t3⟩:=Bk hp ho
   rw[if_neg ho,if_neg ho];(first|unfold Dn|unfold Up);rw[fU];simp only[Bool.false_eq_true,if_false];exact⟨fun _=>⟨.inl t1,t2⟩,fun g hg hle=>⟨trivial,t3 g (hg.pos (by grind)) hle⟩⟩
 .have hE:bd true m e false p true=0:=by unfold bd;simp
  rw[hE];unfold bn;simp only[bne_self_eq_false,Bool.false_eq_true,if_false,if_true];by_cases ho:cH m e false p false=true
  .obtain ⟨t1,t2,t3⟩:=Gx hp hp2 ho
   rw[if_pos ho];(first|unfold Dn|unfold Up);rw[fU];simp only[if_true];refine⟨fun _=>⟨.inr (by rw[Rat.neg_neg];exact t1),by grind⟩,fun g hg hle=>⟨trivial,?_⟩⟩;by_cases h0:0 <= -g
   .have:=t3 (-g) (hg.neg.pos h0);grind
   .have:=t1.qS;grind
  .obtain ⟨t1,t2,t3⟩:=Gw hp ho
   rw[if_neg ho];(first|unfold Dn|unfold Up);rw[fU];simp only[if_true];refine⟨fun _=>⟨.inr (by rw[Rat.neg_neg];exact t1),by grind⟩,fun g hg hle=>⟨trivial,?_⟩⟩;by_cases h0:0 <= -g
   .have:=t3 (-g) (hg.neg.pos h0) (by grind);grind
   .have:=t1.qS;grind
theorem jW{d:Dy}(hd:d.Canon){p:Nat}(hp:1<=p)(hp2:p<=4096):Dn p d.q (bq d p false) (bg d p false):=by
 have:=qf d.neg d.m d.e hp hp2;rwa[hd.oD]at this
theorem jX{d:Dy}(hd:d.Canon){p:Nat}(hp:1<=p)(hp2:p<=4096):Up p d.q (bq d p true) (bg d p true):=by
 have:=qg d.neg d.m d.e hp hp2;rwa[hd.oD]at this
theorem wM{N p:Nat}{e:Int}(hb:p<ak N){g:Rat}(hg:GM p g):g<=(N:Rat)*P2 e\/((N+1:Nat):Rat)*P2 e<=g:=by
 obtain⟨gm,ge,b1,b2,b3,rfl⟩:=hg;by_cases hc:e<=ge
 .rw [iU (K:=e) hc (Int.le_refl _),iU (K:=e) (Int.le_refl _) hc,show(e-e).toNat=0 by omega]
  omega
 .left
  rw[iU (K:=ge) (Int.le_refl _) (by omega),show(ge-ge).toNat=0 by omega,Nat.pow_zero,Nat.mul_one];have h1:gm<2^p:=cv.1 b1;have h2:2^p<=N:=jz.1 hb;exact Nat.le_trans (Nat.le_of_lt (Nat.lt_of_lt_of_le h1 h2)) (Nat.le_mul_of_pos_right _ (Nat.pow_pos (by decide)))
theorem AU{N p:Nat}{e:Int}(hb:p<ak N){x y:Rat}(x1:(N:Rat)*P2 e<x)(x2:x<((N+1:Nat):Rat)*P2 e)(y1:(N:Rat)*P2 e<y)(y2:y<((N+1:Nat):Rat)*P2 e){g:Rat}(hg:G p g) :
  (g<=x↔g<=y)/\(x<=g↔y<=g)/\(g <= -x↔g <= -y)/\(-x<=g ↔ -y<=g):=by
 have hv:0<=(N:Rat)*P2 e:=Rat.mul_nonneg (Rat.natCast_nonneg) (Rat.le_of_lt (dt _));have hG:∀ g,G p g->g<=(N:Rat)*P2 e\/((N+1:Nat):Rat)*P2 e<=g:=by
  intro g hg;by_cases h0:0<=g
  .exact wM hb (hg.pos h0)
  .left;grind
 have h1:=hG g hg;have h2:=hG (-g) hg.neg;generalize (N:Rat)*P2 e=A at *
 generalize ((N+1:Nat):Rat)*P2 e=B at *
 refine⟨?_,?_,?_,?_⟩<;>constructor<;>intro h<;>grind
theorem oJ{N p:Nat}(E:Int)(hb:p<ak N)(neg up:Bool):bn neg N E true p up=bn neg (2*N+1) (E-1) false p up/\bd neg N E true p up=bd neg (2*N+1) (E-1) false p up:=by
 have h1:(2*N+1)/2^1=N:=by omega
 have h:=sI (N:=2*N+1) (E:=E-1) (more:=false) (d:=1) (p:=p) neg up (by rw[h1];exact hb);have h2:decide ((2*N+1)%2^1≠0)=true:=by simp
 rw[h1,h2,show E-1+((1:Nat):Int)=E by omega]at h;exact h
theorem BL{a b:Dy}(b0:b.m≠0){p:Nat}(hp:1<=p)(hp2:p<=4096):Dn p (a.q/b.q) (ev a b p false) (fw a b p false)/\Up p (a.q/b.q) (ev a b p true) (fw a b p true):=by
 by_cases a0:a.m=0
 .have hq:a.q=0:=by rw[e9,a0];simp
  have h0:(0:Rat)/b.q=0:=by rw[Rat.div_def,Rat.zero_mul]
  unfold ev fw;rw[hq,h0,if_pos a0,if_pos a0,if_pos a0,if_pos a0];have hz:G p 0:=.inl (lW p);exact⟨⟨fun _=>⟨by rw[ik];exact hz,by rw[ik];exact Rat.le_refl⟩,fun g _ h=>⟨rfl,by rw[ik];exact h⟩⟩,⟨fun _=>⟨by rw[ik];exact hz,by rw[ik];exact Rat.le_refl⟩,fun g _ h=>⟨rfl,by rw[ik];exact h⟩⟩⟩
 .have hb:=vV a0 b0 p 2 (by decide)
  unfold ev fw;rw[if_neg a0,if_neg a0,if_neg a0,if_neg a0];generalize hk:bZ a b p 2=k at *
  generalize hs:(a.neg != b.neg)=s;generalize hE:a.e-b.e-(k:Int)=E0;have hB:(0:Rat)<(b.m:Rat):=Rat.natCast_pos.2 (by omega);have hPb:=dt b.e;have hP:=dt E0;obtain⟨w,hw⟩:∃ w:Rat,w=(a.m:Rat)*P2 a.e/((b.m:Rat)*P2 b.e):=⟨_,rfl⟩
  have hwb:w*((b.m:Rat)*P2 b.e)=(a.m:Rat)*P2 a.e:=by
   have:(b.m:Rat)*P2 b.e≠0:=by have:=Rat.mul_pos hB hPb;grind
   rw[hw];exact Rat.div_mul_cancel this
  have hval:a.q/b.q=if s then -w else w:=by
   have hbq:b.q≠0:=by
    have:=Rat.mul_pos hB hPb;rw[e9 b];cases b.neg<;>simp<;>grind
   have hq:(if s then -w else w)*b.q=a.q:=by
    rw[e9 a,e9 b,<-hs,<-hwb];cases a.neg<;>cases b.neg<;>simp<;>grind
   rw[<-hq,Rat.mul_div_cancel hbq]
  have hdm:=Nat.div_add_mod (a.m*2^k) b.m;have hr:=Nat.mod_lt (a.m*2^k) (show 0<b.m by omega);generalize hN:a.m*2^k/b.m=N at *
  generalize hR:a.m*2^k%b.m=R at *
  have hdm':(b.m:Rat)*(N:Rat)+(R:Rat)=(a.m:Rat)*((2^k:Nat):Rat):=by rw[<-Rat.natCast_mul,<-Rat.natCast_mul,<-Rat.natCast_add,hdm]
  have hae:P2 a.e=((2^k:Nat):Rat)*P2 b.e*P2 E0:=by rw[<-kN,<-fG,<-fG];congr 1;omega
  have hwm:w*(b.m:Rat)=((b.m:Rat)*(N:Rat)+(R:Rat))*P2 E0:=by
   have:w*(b.m:Rat)*P2 b.e=((b.m:Rat)*(N:Rat)+(R:Rat))*P2 E0*P2 b.e:=by
    rw[hdm',Rat.mul_assoc,hwb,hae];grind
   have hne:P2 b.e≠0:=by grind
   have h2:=congrArg (· / P2 b.e) this;simp only[Rat.mul_div_cancel hne]at h2;exact h2
  by_cases h0:R=0
  .have hw2:w=(N:Rat)*P2 E0:=by
    rw[h0]at hwm;have hne:(b.m:Rat)≠0:=by grind
    have h2:w*(b.m:Rat)=((N:Rat)*P2 E0)*(b.m:Rat):=by rw[hwm];simp;grind
    have h3:=congrArg (· / (b.m:Rat)) h2;simp only[Rat.mul_div_cancel hne]at h3;exact h3
   have hc:a.q/b.q=(canon s N E0).q:=by rw[hval,fU,hw2]
   rw[hc,decide_eq_false (by simpa using h0)];exact⟨qf _ _ _ hp hp2,qg _ _ _ hp hp2⟩
  .have hR0:(0:Rat)<(R:Rat):=Rat.natCast_pos.2 (by omega)
   have hRb:(R:Rat)<(b.m:Rat):=Rat.natCast_lt_natCast.2 hr;have w1:(N:Rat)*P2 E0<w:=by
    apply Rat.lt_of_mul_lt_mul_right (c:=(b.m:Rat)) _ (Rat.le_of_lt hB);rw[hwm];have:=Rat.mul_pos hR0 hP
    grind
   have w2:w<((N+1:Nat):Rat)*P2 E0:=by
    apply Rat.lt_of_mul_lt_mul_right (c:=(b.m:Rat)) _ (Rat.le_of_lt hB);rw[hwm,Rat.natCast_add];have:=Rat.mul_pos (show(0:Rat)<(b.m:Rat)-(R:Rat)by grind) hP;simp
    grind
   have hh:P2 E0=2*P2 (E0-1):=by
    rw[pN (show E0-1<=E0 by omega),show(E0-(E0-1)).toNat=1 by omega];simp
   have v1:(N:Rat)*P2 E0<((2*N+1:Nat):Rat)*P2 (E0-1):=by
    have:=dt (E0-1);rw[hh,Rat.natCast_add,Rat.natCast_mul];simp;grind
   have v2:((2*N+1:Nat):Rat)*P2 (E0-1)<((N+1:Nat):Rat)*P2 E0:=by
    have:=dt (E0-1);rw[hh,Rat.natCast_add,Rat.natCast_mul,Rat.natCast_add];simp;grind
   rw[decide_eq_true (by simpa using h0),(oJ E0 hb s false).1,(oJ E0 hb s false).2,(oJ E0 hb s true).1,(oJ E0 hb s true).2,hval];have A:=qf s (2*N+1) (E0-1) hp hp2;have B:=qg s (2*N+1) (E0-1) hp hp2;rw[fU]at A B;refine⟨A.of fun g hg=>?_,B.of fun g hg=>?_⟩
   .obtain ⟨k1,k2,k3,k4⟩:=AU hb v1 v2 w1 w2 hg
    cases s
    .exact k1
    .exact k3
   .obtain ⟨k1,k2,k3,k4⟩:=AU hb v1 v2 w1 w2 hg
    cases s
    .exact k2
    .exact k4
def Iv.has(x:Iv)(r:Rat):Prop:=x.all=true\/(x.lo.q<=r/\r<=x.hi.q)
def Sub(x y:Iv):Prop:=y.all=true\/(x.all=false/\y.lo.q<=x.lo.q/\x.hi.q<=y.hi.q)
theorem Sub.refl(x:Iv):Sub x x:=by
 cases h:x.all
 .exact .inr ⟨h,Rat.le_refl,Rat.le_refl⟩
 .exact .inl h
theorem Sub.has{x y:Iv}(h:Sub x y){r:Rat}(k:x.has r):y.has r:=by
 rcases h with h|⟨h1,h2,h3⟩
 .exact .inl h
 .rcases k with k|⟨k1,k2⟩
  .rw [h1]at k;cases k
  .exact .inr ⟨by grind,by grind⟩
theorem Sub.known{x y:Iv}(h:Sub x y)(k:y.all=false):x.all=false/\y.lo.q<=x.lo.q/\x.hi.q<=y.hi.q:=by
 rcases h with h|h
 .rw [h]at k;cases k
 .exact h
theorem Iv.Valid.q{x:Iv}(h:x.Valid):x.lo.q<=x.hi.q:=by
 rcases h with⟨_,h2,h3⟩|⟨_,_,_,h⟩
 .rw [h2,h3];exact Rat.le_refl
 .exact (eI _ _).1 h
theorem Iv.Valid.kU{x:Iv}(h:x.Valid):x.lo.Canon/\x.hi.Canon:=by
 rcases h with⟨_,h2,h3⟩|⟨_,h2,h3,_⟩
 .rw [h2,h3];exact⟨gL.canon,gL.canon⟩
 .exact ⟨h2.canon,h3.canon⟩
theorem Iv.Valid.my{x:Iv}(h:x.Valid):x.has x.lo.q:=.inr ⟨Rat.le_refl,h.q⟩
theorem Iv.Valid.oZ{x:Iv}(h:x.Valid):x.has x.hi.q:=.inr ⟨h.q,Rat.le_refl⟩
structure lV(p:Nat)(S:Rat->Prop)(X:Iv):Prop where
 has:∀ r,S r->X.has r
 on:X.all=false->G p X.lo.q/\G p X.hi.q
 least:∀ L U,G p L->G p U->(∀ r,S r->L<=r/\r<=U)->X.all=false/\L<=X.lo.q/\X.hi.q<=U
theorem lV.sub{p:Nat}{S T:Rat->Prop}{X Y:Iv}(h:lV p S X)(k:lV p T Y)(hs:∀ r,S r->T r):Sub X Y:=by
 cases hy:Y.all
 .right
  obtain⟨k1,k2⟩:=k.on hy;refine h.least _ _ k1 k2 fun r hr=>?_
  rcases k.has r (hs r hr)with h1|h1
  .rw [hy]at h1;cases h1
  .exact h1
 .exact .inl hy
theorem vi{x y:Iv}(hx:x.Valid)(hy:y.Valid)(xa:x.all=false)(ya:y.all=false){p:Nat}(hp:1<=p)(hp2:p<=4096) :
  lV p (fun r=>∃ a b,x.has a/\y.has b/\r=a+b) (bj x y p):=by
 have A:=jW (kT hx.kU.1 hy.kU.1) hp hp2;have B:=jX (kT hx.kU.2 hy.kU.2) hp hp2;rw[xY]at A B;unfold bj ck;rw[xa,ya];simp only[Bool.or_self,Bool.false_eq_true,if_false];have has:∀ r,(∃ a b,x.has a/\y.has b/\r=a+b)->x.lo.q+y.lo.q<=r/\r<=x.hi.q+y.hi.q:=by
  rintro r ⟨a,b,ha,hb,rfl⟩;rcases ha with ha|ha
  .rw [xa]at ha;cases ha
  .rcases hb with hb|hb
   .rw [ya]at hb;cases hb
   .grind
 have least:∀ L U,G p L->G p U->(∀ r,(∃ a b,x.has a/\y.has b/\r=a+b)->L<=r/\r<=U) ->
   (bg (av x.lo y.lo) p false=0/\L<=(bq (av x.lo y.lo) p false).q)/\bg (av x.hi y.hi) p true=0/\(bq (av x.hi y.hi) p true).q<=U:=fun L U hL hU h =>
  ⟨A.2 L hL (h _ ⟨_,_,hx.my,hy.my,rfl⟩).1,B.2 U hU (h _ ⟨_,_,hx.oZ,hy.oZ,rfl⟩).2⟩
 split
 .rename_i he
  refine⟨fun _ _=>.inl rfl,fun h=>absurd h (by decide),fun L U hL hU h=>?_⟩;obtain⟨⟨e1,_⟩,e2,_⟩:=least L U hL hU h;rcases he with he|he
  .exact absurd e1 he
  .exact absurd e2 he
 .rename_i he
  obtain⟨a1,a2⟩:=A.1 (by omega);obtain⟨b1,b2⟩:=B.1 (by omega);refine⟨fun r hr=>.inr ?_,fun _=>⟨a1,b1⟩,fun L U hL hU h=>?_⟩
  .obtain ⟨h1,h2⟩:=has r hr
   exact⟨Rat.le_trans a2 h1,Rat.le_trans h2 b2⟩
  .obtain ⟨⟨_,e1⟩,_,e2⟩:=least L U hL hU h
   exact⟨rfl,e1,e2⟩
theorem sf{x y:Iv}(p:Nat)(h:x.all=true\/y.all=true):bj x y p=aj:=by
 unfold bj;rw[if_pos (by rcases h with h|h<;>rw[h]<;>simp)]
theorem mZ{x y:Iv}(hx:x.Valid)(hy:y.Valid){p:Nat}(hp:1<=p)(hp2:p<=4096){a b:Rat}(ha:x.has a)(hb:y.has b):(bj x y p).has (a+b):=by
 cases xa:x.all
 .cases ya:y.all
  .exact (vi hx hy xa ya hp hp2).has _ ⟨a,b,ha,hb,rfl⟩
  .rw [sf p (.inr ya)];exact .inl rfl
 .rw [sf p (.inl xa)];exact .inl rfl
theorem Cv{p:Nat}{D:Dy->Dy->Bool->Dy}{E:Dy->Dy->Bool->Int}{f:Rat->Rat->Rat}{x y:Iv}{S:Rat->Prop}
  (hD:∀ a b,(a=x.lo\/a=x.hi)->(b=y.lo\/b=y.hi)->Dn p (f a.q b.q) (D a b false) (E a b false)/\Up p (f a.q b.q) (D a b true) (E a b true)/\S (f a.q b.q))
  (hS:∀ r,S r->(f x.lo.q y.lo.q<=r\/f x.lo.q y.hi.q<=r\/f x.hi.q y.lo.q<=r\/f x.hi.q y.hi.q<=r)/\(r<=f x.lo.q y.lo.q\/r<=f x.lo.q y.hi.q\/r<=f x.hi.q y.lo.q\/r<=f x.hi.q y.hi.q)) :
  lV p S (et D E x y):=by
 obtain⟨a1,a2,a3⟩:=hD x.lo y.lo (.inl rfl) (.inl rfl);obtain⟨b1,b2,b3⟩:=hD x.lo y.hi (.inl rfl) (.inr rfl);obtain⟨c1,c2,c3⟩:=hD x.hi y.lo (.inr rfl) (.inl rfl);obtain⟨d1,d2,d3⟩:=hD x.hi y.hi (.inr rfl) (.inr rfl);have least:∀ L U,G p L->G p U->(∀ r,S r->L<=r/\r<=U) ->
   ((E x.lo y.lo false=0/\L<=(D x.lo y.lo false).q)/\E x.lo y.lo true=0/\(D x.lo y.lo true).q<=U)/\((E x.lo y.hi false=0/\L<=(D x.lo y.hi false).q)/\E x.lo y.hi true=0/\(D x.lo y.hi true).q<=U) /\
   ((E x.hi y.lo false=0/\L<=(D x.hi y.lo false).q)/\E x.hi y.lo true=0/\(D x.hi y.lo true).q<=U)/\((E x.hi y.hi false=0/\L<=(D x.hi y.hi false).q)/\E x.hi y.hi true=0/\(D x.hi y.hi true).q<=U):=fun L U hL hU h =>
  ⟨⟨a1.2 L hL (h _ a3).1,a2.2 U hU (h _ a3).2⟩,⟨b1.2 L hL (h _ b3).1,b2.2 U hU (h _ b3).2⟩,⟨c1.2 L hL (h _ c3).1,c2.2 U hU (h _ c3).2⟩,⟨d1.2 L hL (h _ d3).1,d2.2 U hU (h _ d3).2⟩⟩
 unfold et;split
 .rename_i he
  obtain⟨⟨e1,e2⟩,⟨e3,e4⟩,⟨e5,e6⟩,⟨e7,e8⟩⟩:=he;obtain⟨ga,la⟩:=a1.1 e1;obtain⟨gA,lA⟩:=a2.1 e2;obtain⟨gb,lb⟩:=b1.1 e3;obtain⟨gB,lB⟩:=b2.1 e4;obtain⟨gc,lc⟩:=c1.1 e5;obtain⟨gC,lC⟩:=c2.1 e6;obtain⟨gd,ld⟩:=d1.1 e7;obtain⟨gD,lD⟩:=d2.1 e8;obtain⟨m1,m2,m3⟩:=nR (D x.lo y.lo false) (D x.lo y.hi false);obtain⟨m4,m5,m6⟩:=nR (minD (D x.lo y.lo false) (D x.lo y.hi false)) (D x.hi y.lo false)
  obtain⟨m7,m8,m9⟩:=nR (minD (minD (D x.lo y.lo false) (D x.lo y.hi false)) (D x.hi y.lo false)) (D x.hi y.hi false);obtain⟨n1,n2,n3⟩:=re (D x.lo y.lo true) (D x.lo y.hi true);obtain⟨n4,n5,n6⟩:=re (maxD (D x.lo y.lo true) (D x.lo y.hi true)) (D x.hi y.lo true);obtain⟨n7,n8,n9⟩:=re (maxD (maxD (D x.lo y.lo true) (D x.lo y.hi true)) (D x.hi y.lo true)) (D x.hi y.hi true)
  generalize (minD (D x.lo y.lo false) (D x.lo y.hi false))=u1 at *
  generalize (minD u1 (D x.hi y.lo false))=u2 at *
  generalize (minD u2 (D x.hi y.hi false))=u3 at *
  generalize (maxD (D x.lo y.lo true) (D x.lo y.hi true))=v1 at *
  generalize (maxD v1 (D x.hi y.lo true))=v2 at *
  generalize (maxD v2 (D x.hi y.hi true))=v3 at *
  refine⟨fun r hr=>.inr ?_,fun _=>⟨?_,?_⟩,fun L U hL hU h=>⟨rfl,?_,?_⟩⟩
  .obtain ⟨h1,h2⟩:=hS r hr
   constructor
   .show u3.q<=r
    rcases h1 with h1|h1|h1|h1<;>grind
   .show r<=v3.q
    rcases h2 with h1|h1|h1|h1<;>grind
  .show G p u3.q
   rcases m9 with h|h
   .rw [h];rcases m6 with h|h
    .rw [h];rcases m3 with h|h<;>rw[h]<;>assumption
    .rw [h];assumption
   .rw [h];assumption
  .show G p v3.q
   rcases n9 with h|h
   .rw [h];rcases n6 with h|h
    .rw [h];rcases n3 with h|h<;>rw[h]<;>assumption
    .rw [h];assumption
   .rw [h];assumption
  .obtain ⟨⟨⟨_,k1⟩,_,k2⟩,⟨⟨_,k3⟩,_,k4⟩,⟨⟨_,k5⟩,_,k6⟩,⟨⟨_,k7⟩,_,k8⟩⟩:=least L U hL hU h
   show L<=u3.q;rcases m9 with h|h
   .rw [h];rcases m6 with h|h
    .rw [h];rcases m3 with h|h<;>rw[h]<;>assumption
    .rw [h];assumption
   .rw [h];assumption
  .obtain ⟨⟨⟨_,k1⟩,_,k2⟩,⟨⟨_,k3⟩,_,k4⟩,⟨⟨_,k5⟩,_,k6⟩,⟨⟨_,k7⟩,_,k8⟩⟩:=least L U hL hU h
   show v3.q<=U;rcases n9 with h|h
   .rw [h];rcases n6 with h|h
    .rw [h];rcases n3 with h|h<;>rw[h]<;>assumption
    .rw [h];assumption
   .rw [h];assumption
 .rename_i he
  refine⟨fun _ _=>.inl rfl,fun h=>absurd h (by decide),fun L U hL hU h=>?_⟩;obtain⟨⟨⟨k1,_⟩,k2,_⟩,⟨⟨k3,_⟩,k4,_⟩,⟨⟨k5,_⟩,k6,_⟩,⟨⟨k7,_⟩,k8,_⟩⟩:=least L U hL hU h;exact absurd ⟨⟨k1,k2⟩,⟨k3,k4⟩,⟨k5,k6⟩,k7,k8⟩ he
theorem By{a b c d x y:Rat}(h1:a<=x)(h2:x<=b)(h3:c<=y)(h4:y<=d) :
  (a*c<=x*y\/a*d<=x*y\/b*c<=x*y\/b*d<=x*y)/\(x*y<=a*c\/x*y<=a*d\/x*y<=b*c\/x*y<=b*d):=by
 have mono:∀ {u v w:Rat},u<=v->0<=w->u*w<=v*w:=fun h k=>Rat.mul_le_mul_of_nonneg_right h k
 have anti:∀ {u v w:Rat},u<=v->w<=0->v*w<=u*w:=by
  intro u v w h k;have:=mono h (show 0 <= -w by grind)
  grind
 have side:∀ t:Rat,(t*c<=t*y\/t*d<=t*y)/\(t*y<=t*c\/t*y<=t*d):=by
  intro t;rw[Rat.mul_comm t c,Rat.mul_comm t d,Rat.mul_comm t y];rcases Rat.le_total (a:=0) (b:=t)with h|h
  .exact ⟨.inl (mono h3 h),.inr (mono h4 h)⟩
  .exact ⟨.inr (anti h4 h),.inl (anti h3 h)⟩
 have sa:=side a;have sb:=side b;rcases Rat.le_total (a:=0) (b:=y)with h|h
 .have m1:=mono h1 h
  have m2:=mono h2 h;clear mono anti side;constructor
  .rcases sa.1 with k|k<;>grind
  .rcases sb.2 with k|k<;>grind
 .have m1:=anti h1 h
  have m2:=anti h2 h;clear mono anti side;constructor
  .rcases sb.1 with k|k<;>grind
  .rcases sa.2 with k|k<;>grind
theorem Iv.has.ends{x:Iv}{r:Rat}(h:x.has r)(k:x.all=false):x.lo.q<=r/\r<=x.hi.q:=by
 rcases h with h|h
 .rw [k]at h;cases h
 .exact h
theorem mi(a b:Dy):(jU a b).Canon:=gY _ _ _
theorem xt{x y:Iv}(hx:x.Valid)(hy:y.Valid)(xa:x.all=false)(ya:y.all=false){p:Nat}(hp:1<=p)(hp2:p<=4096) :
  lV p (fun r=>∃ a b,x.has a/\y.has b/\r=a*b) (aV x y p):=by
 unfold aV;rw[xa,ya];simp only[Bool.or_self,Bool.false_eq_true,if_false];refine Cv (f:=fun a b=>a*b) (fun a b ha hb=>⟨?_,?_,a.q,b.q,?_,?_,rfl⟩) (fun r ⟨a,b,ha,hb,e⟩=>?_)
 .have:=jW (mi a b) hp hp2;rwa[pr]at this
 .have:=jX (mi a b) hp hp2;rwa[pr]at this
 .rcases ha with rfl|rfl;exact hx.my;exact hx.oZ
 .rcases hb with rfl|rfl;exact hy.my;exact hy.oZ
 .obtain ⟨h1,h2⟩:=ha.ends xa
  obtain⟨h3,h4⟩:=hb.ends ya;rw[e];exact By h1 h2 h3 h4
theorem qK{x y:Iv}(p:Nat)(h:x.all=true\/y.all=true):aV x y p=aj:=by
 unfold aV;rw[if_pos (by rcases h with h|h<;>rw[h]<;>simp)]
theorem tG{x y:Iv}(hx:x.Valid)(hy:y.Valid){p:Nat}(hp:1<=p)(hp2:p<=4096){a b:Rat}(ha:x.has a)(hb:y.has b):(aV x y p).has (a*b):=by
 cases xa:x.all
 .cases ya:y.all
  .exact (xt hx hy xa ya hp hp2).has _ ⟨a,b,ha,hb,rfl⟩
  .rw [qK p (.inr ya)];exact .inl rfl
 .rw [qK p (.inl xa)];exact .inl rfl
theorem wW{b c:Rat}(h0:0<c)(h:c<=b):b⁻¹<=c⁻¹:=by
 have hb:0<b:=by grind
 apply Rat.le_of_mul_le_mul_right (c:=b*c) _ (Rat.mul_pos hb h0);have e1:b⁻¹*(b*c)=c:=by rw[<-Rat.mul_assoc,Rat.inv_mul_cancel _ (by grind),Rat.one_mul]
 have e2:c⁻¹*(b*c)=b:=by rw[Rat.mul_comm b c,<-Rat.mul_assoc,Rat.inv_mul_cancel _ (by grind),Rat.one_mul]
 rw[e1,e2];exact h
theorem D5(b:Rat):(-b)⁻¹ = -b⁻¹:=by
 by_cases h:b=0
 .rw [h];simp
 .have h1:(-b)⁻¹*(-b)=1:=Rat.inv_mul_cancel _ (by grind)
  have h2:b⁻¹*b=1:=Rat.inv_mul_cancel _ h;have h3:(-b)⁻¹*(-b)*b⁻¹=b⁻¹:=by rw[h1,Rat.one_mul]
  grind
theorem CY{b c:Rat}(h0:b<0)(h:c<=b):b⁻¹<=c⁻¹:=by
 have:=wW (b:=-c) (c:=-b) (by grind) (by grind);rw[D5,D5]at this
 grind
theorem FR{y:Iv}(_hy:y.Valid)(h:dw y≠0):y.all=false/\(0<y.lo.q\/y.hi.q<0):=by
 unfold dw at h;cases ya:y.all
 .rw [ya]at h
  simp only[Bool.false_eq_true,if_false]at h;refine⟨rfl,?_⟩;split at h
  .rename_i h1;exact .inl ((gl _).1.1 h1)
  .split at h
   .rename_i h1;exact .inr ((gl _).2.1 h1)
   .exact absurd rfl h
 .rw [ya]at h;simp at h
theorem yT{y:Iv}(ya:y.all=false)(h:0<y.lo.q\/y.hi.q<0):dw y≠0:=by
 unfold dw;rw[ya];simp only[Bool.false_eq_true,if_false];rcases h with h|h
 .rw [if_pos ((gl _).1.2 h)];decide
 .split
  .decide
  .rw [if_pos ((gl _).2.2 h)];decide
theorem OK{d:Dy}(h:d.q≠0):d.m≠0:=by
 intro h0;apply h;rw[e9,h0];simp
theorem sK{x y:Iv}(hx:x.Valid)(hy:y.Valid)(xa:x.all=false)(hs:dw y≠0){p:Nat}(hp:1<=p)(hp2:p<=4096) :
  lV p (fun r=>∃ a b,x.has a/\y.has b/\r=a/b) (bT x y p):=by
 obtain⟨ya,h0⟩:=FR hy hs;have hle:=hy.q;unfold bT;rw[xa,ya,decide_eq_false hs];simp only[Bool.or_self,Bool.false_eq_true,if_false];refine Cv (f:=fun a b=>a/b) (fun a b ha hb=>?_) (fun r ⟨a,b,ha,hb,e⟩=>?_)
 .have b0:b.m≠0:=OK (by rcases hb with rfl|rfl<;>grind)
  obtain⟨h1,h2⟩:=BL (a:=a) b0 hp hp2;refine⟨h1,h2,a.q,b.q,?_,?_,rfl⟩
  .rcases ha with rfl|rfl;exact hx.my;exact hx.oZ
  .rcases hb with rfl|rfl;exact hy.my;exact hy.oZ
 .obtain ⟨h1,h2⟩:=ha.ends xa
  obtain⟨h3,h4⟩:=hb.ends ya;have i1:y.hi.q⁻¹<=b⁻¹:=by
   rcases h0 with h0|h0
   .exact wW (by grind) h4
   .exact CY (by grind) h4
  have i2:b⁻¹<=y.lo.q⁻¹:=by
   rcases h0 with h0|h0
   .exact wW h0 h3
   .exact CY (by grind) h3
  obtain⟨k1,k2⟩:=By h1 h2 i1 i2;rw[e];simp only[Rat.div_def];exact⟨by grind,by grind⟩
theorem qj{x y:Iv}(p:Nat)(h:x.all=true\/dw y=0):bT x y p=aj:=by
 unfold bT;rw[if_pos (by rcases h with h|h<;>rw[h]<;>simp)]
theorem sL{x y:Iv}(hx:x.Valid)(hy:y.Valid){p:Nat}(hp:1<=p)(hp2:p<=4096){a b:Rat}(ha:x.has a)(hb:y.has b):(bT x y p).has (a/b):=by
 cases xa:x.all
 .by_cases hs:dw y=0
  .rw [qj p (.inr hs)];exact .inl rfl
  .exact (sK hx hy xa hs hp hp2).has _ ⟨a,b,ha,hb,rfl⟩
 .rw [qj p (.inl xa)];exact .inl rfl
theorem nG{x:Iv}(h:x.lo.q<=x.hi.q):x.hi.q<=(di x).q /\ -x.lo.q<=(di x).q/\((di x).q=x.hi.q\/(di x).q = -x.lo.q):=by
 obtain⟨a1,a2,a3,a4⟩:=lF x.lo;obtain⟨b1,b2,b3,b4⟩:=lF x.hi;obtain⟨c1,c2,c3⟩:=re (cE x.lo) (cE x.hi);unfold di;generalize (maxD (cE x.lo) (cE x.hi)).q=M at *
 refine⟨by grind,by grind,?_⟩;rcases c3 with c3|c3
 .rcases a4 with a4|a4
  .grind
  .grind
 .rcases b4 with b4|b4
  .grind
  .grind
theorem ON{x x':Iv}(hx:x.Valid)(hx':x'.Valid)(h:Sub x x')(xa:x'.all=false):(di x).q<=(di x').q:=by
 obtain⟨h1,h2,h3⟩:=h.known xa;obtain⟨a1,a2,a3⟩:=nG hx.q;obtain⟨b1,b2,b3⟩:=nG hx'.q
 grind
theorem xr{x:Iv}(hx:x.Valid)(xa:x.all=false):0<=(dY x).q/\(x.lo.q<=0->0<=x.hi.q->(dY x).q=0)/\(0<x.lo.q->(dY x).q=x.lo.q)/\(x.hi.q<0->(dY x).q = -x.hi.q):=by
 have hle:=hx.q;obtain⟨a1,a2,a3,a4⟩:=lF x.lo;obtain⟨b1,b2,b3,b4⟩:=lF x.hi;obtain⟨c1,c2,c3⟩:=nR (cE x.lo) (cE x.hi);by_cases hs:dw x=0
 .have hn:¬(0<x.lo.q\/x.hi.q<0):=fun h=>yT xa h hs
  have:dY x=aT:=by unfold dY;rw[if_pos hs]
  rw[this,ik];refine⟨Rat.le_refl,fun _ _=>rfl,fun h=>absurd (.inl h) hn,fun h=>absurd (.inr h) hn⟩
 .obtain ⟨_,h0⟩:=FR hx hs
  have:dY x=minD (cE x.lo) (cE x.hi):=by unfold dY;rw[if_neg hs]
  rw[this];generalize (minD (cE x.lo) (cE x.hi)).q=M at *
  generalize (cE x.lo).q=u at *
  generalize (cE x.hi).q=v at *
  refine⟨by grind,by grind,by grind,by grind⟩
theorem TV{x x':Iv}(hx:x.Valid)(hx':x'.Valid)(h:Sub x x'):Sub (bh x) (bh x'):=by
 cases xa:x'.all
 .obtain ⟨h1,h2,h3⟩:=h.known xa
  unfold bh;rw[h1,xa];refine .inr ⟨rfl,?_,ON hx hx' h xa⟩;show(dY x').q<=(dY x).q;obtain⟨a1,a2,a3,a4⟩:=xr hx h1;obtain⟨b1,b2,b3,b4⟩:=xr hx' xa;have:=hx.q;by_cases c1:0<x'.lo.q
  .rw [b3 c1,a3 (by grind)];exact h2
  .by_cases c2:x'.hi.q<0
   .rw [b4 c2,a4 (by grind)];grind
   .rw [b2 (by grind) (by grind)];exact a1
 .refine .inl ?_
  unfold bh;rw[if_pos xa];rfl
theorem r9{x:Iv}(hx:x.Valid){r s:Rat}(h:x.has r)(hs:s=r/\0<=r\/s = -r/\r<=0):(bh x).has s:=by
 unfold bh;cases xa:x.all
 .obtain ⟨h1,h2⟩:=h.ends xa
  obtain⟨a1,a2,a3⟩:=nG hx.q;obtain⟨b1,b2,b3,b4⟩:=xr hx xa;refine .inr ⟨?_,?_⟩
  .show (dY x).q<=s
   by_cases c1:0<x.lo.q
   .rw [b3 c1];grind
   .by_cases c2:x.hi.q<0
    .rw [b4 c2];grind
    .rw [b2 (by grind) (by grind)];grind
  .show s<=(di x).q
   grind
 .exact .inl rfl
theorem xU(d:Dy):(cF d).has d.q:=.inr ⟨Rat.le_refl,Rat.le_refl⟩
theorem lr(n:Int):(aN n).has (n:Rat):=by have:=xU (az n);rwa[mK]at this
def aI(d:Dy)(p:Nat)(up:Bool):Nat->Dy×Int
 | 0=>(bq d p up,bg d p up)
 | k+1=>if(aI d p up k).2≠0 then aI d p up k else(bq (jU (aI d p up k).1 d) p up,bg (jU (aI d p up k).1 d) p up)
def b5(d:Dy)(n p:Nat)(up:Bool):Dy×Int:=if d.sign<0 then(aC (aI (aC d) p (!up) (n-1)).1,(aI (aC d) p (!up) (n-1)).2)else aI d p up (n-1)
def iK(x:Iv)(n:Nat):Iv:=if n%2=0 then bh x else x
def fT(x:Iv)(n p:Nat):Iv :=
 if x.all then aj else if n=0 then cF ⟨false,1,0⟩
 else ck (b5 (iK x n).lo n p false).1 (b5 (iK x n).lo n p false).2 (b5 (iK x n).hi n p true).1 (b5 (iK x n).hi n p true).2
def dA(r:Rat):Nat->Rat
 | 0=>1
 | n+1=>dA r n*r
theorem nX{r:Rat}(h:0<=r):∀ n,0<=dA r n
 | 0=>by show(0:Rat)<=1;decide
 | n+1=>Rat.mul_nonneg (nX h n) h
theorem rA{a b:Rat}(h0:0<=a)(h:a<=b):∀ n,dA a n<=dA b n
 | 0=>Rat.le_refl
 | n+1=>by
  have ih:=rA h0 h n;have m1:=Rat.mul_le_mul_of_nonneg_right ih h0;have m2:=Rat.mul_le_mul_of_nonneg_left h (nX (Rat.le_trans h0 h) n);exact Rat.le_trans m1 m2
theorem nW(r:Rat):∀ n,dA (-r) n=if n%2=0 then dA r n else -dA r n
 | 0=>rfl
 | n+1=>by
  have ih:=nW r n;simp only[dA,ih];have:n%2=0\/n%2=1:=by omega
  rcases this with h|h
  .have h':(n+1)%2=1:=by omega
   rw[h,h'];simp;grind
  .have h':(n+1)%2=0:=by omega
   rw[h,h'];simp;grind
theorem yG{a b:Rat}{n:Nat}(hn:n%2=1)(h:a<=b):dA a n<=dA b n:=by
 by_cases h0:0<=a
 .exact rA h0 h n
 .have ea:=nW (-a) n
  rw[Rat.neg_neg,hn]at ea;simp only[Nat.one_ne_zero,if_false]at ea;by_cases hb:0<=b
  .have h1:=nX (show 0 <= -a by grind) n
   have h2:=nX hb n
   grind
  .have eb:=nW (-b) n
   rw[Rat.neg_neg,hn]at eb;simp only[Nat.one_ne_zero,if_false]at eb;have:=rA (show 0 <= -b by grind) (show -b <= -a by grind) n
   grind
theorem xV{d:Dy}(hd:d.Canon)(h0:0<=d.q){p:Nat}(hp:1<=p)(hp2:p<=4096):∀ k,(aI d p false k).2=0->0<=(aI d p false k).1.q/\(aI d p false k).1.q<=dA d.q (k+1)
 | 0,he=>by
  have A:=jW hd hp hp2;refine⟨(A.2 0 (.inl (lW p)) h0).2,?_⟩;have:=(A.1 he).2;simp only[dA,Rat.one_mul];exact this
 | k+1,he=>by
  by_cases hk:(aI d p false k).2≠0
  .exfalso;simp only[aI,if_pos hk]at he;exact hk he
  .have hk0:(aI d p false k).2=0:=by omega
   obtain⟨i1,i2⟩:=xV hd h0 hp hp2 k hk0;have A:=jW (mi (aI d p false k).1 d) hp hp2;rw[pr]at A;simp only[aI,if_neg hk]at he ⊢;refine⟨(A.2 0 (.inl (lW p)) (Rat.mul_nonneg i1 h0)).2,?_⟩;have h1:=(A.1 he).2;have h2:=Rat.mul_le_mul_of_nonneg_right i2 h0;exact Rat.le_trans h1 h2
theorem xX{d:Dy}(hd:d.Canon)(h0:0<=d.q){p:Nat}(hp:1<=p)(hp2:p<=4096):∀ k,(aI d p true k).2=0->dA d.q (k+1)<=(aI d p true k).1.q
 | 0,he=>by
  have A:=jX hd hp hp2;have:=(A.1 he).2;simp only[dA,Rat.one_mul];exact this
 | k+1,he=>by
  by_cases hk:(aI d p true k).2≠0
  .exfalso;simp only[aI,if_pos hk]at he;exact hk he
  .have hk0:(aI d p true k).2=0:=by omega
   have i2:=xX hd h0 hp hp2 k hk0;have A:=jX (mi (aI d p true k).1 d) hp hp2;rw[pr]at A;simp only[aI,if_neg hk]at he ⊢;have h1:=(A.1 he).2;have h2:=Rat.mul_le_mul_of_nonneg_right i2 h0;exact Rat.le_trans h2 h1
theorem Le{d:Dy}(hd:d.Canon){n p:Nat}(hn:1<=n)(hs:0<=d.q\/n%2=1)(hp:1<=p)(hp2:p<=4096)(he:(b5 d n p false).2=0):(b5 d n p false).1.q<=dA d.q n:=by
 unfold b5 at he ⊢;by_cases h:d.sign<0
 .rw [if_pos h]at he ⊢
  have hq:=(gl d).2.1 h;have hodd:=hs.resolve_left (by grind);have:=xX (xD hd) (by rw[fD];grind) hp hp2 (n-1) he;rw[show n-1+1=n by omega,fD,nW,hodd]at this;simp only[Nat.one_ne_zero,if_false]at this;show(aC _).q<=_;rw[fD];simp only[Bool.not_false]
  grind
 .rw [if_neg h]at he ⊢
  have h0:0<=d.q:=by
   apply Rat.not_lt.1;intro hlt;exact h ((gl d).2.2 hlt)
  have:=(xV hd h0 hp hp2 (n-1) he).2;rwa[show n-1+1=n by omega]at this
theorem Lf{d:Dy}(hd:d.Canon){n p:Nat}(hn:1<=n)(hs:0<=d.q\/n%2=1)(hp:1<=p)(hp2:p<=4096)(he:(b5 d n p true).2=0):dA d.q n<=(b5 d n p true).1.q:=by
 unfold b5 at he ⊢;by_cases h:d.sign<0
 .rw [if_pos h]at he ⊢
  have hq:=(gl d).2.1 h;have hodd:=hs.resolve_left (by grind);have:=(xV (xD hd) (by rw[fD];grind) hp hp2 (n-1) he).2;rw[show n-1+1=n by omega,fD,nW,hodd]at this;simp only[Nat.one_ne_zero,if_false]at this;show _<=(aC _).q;rw[fD];simp only[Bool.not_true]
  grind
 .rw [if_neg h]at he ⊢
  have h0:0<=d.q:=by
   apply Rat.not_lt.1;intro hlt;exact h ((gl d).2.2 hlt)
  have:=xX hd h0 hp hp2 (n-1) he;rwa[show n-1+1=n by omega]at this
theorem PZ{x:Iv}(hx:x.Valid){n p:Nat}(hp:1<=p)(hp2:p<=4096){r:Rat}(h:x.has r):(fT x n p).has (dA r n):=by
 unfold fT;cases xa:x.all
 .simp only[Bool.false_eq_true,if_false]
  by_cases hn:n=0
  .rw [if_pos hn]
   subst hn;have e:(⟨false,1,0⟩:Dy).q=1:=by decide +kernel
   refine .inr ⟨?_,?_⟩
   .show (⟨false,1,0⟩:Dy).q<=1
    rw[e];exact Rat.le_refl
   .show 1<=(⟨false,1,0⟩:Dy).q
    rw[e];exact Rat.le_refl
  .rw [if_neg hn]
   obtain⟨s,hs,hs0,hsn⟩:∃ s,(iK x n).has s/\(n%2=0->0<=(iK x n).lo.q/\0<=s)/\dA r n=dA s n:=by
    unfold iK;by_cases hev:n%2=0
    .rw [if_pos hev]
     have hl:0<=(bh x).lo.q:=by
      unfold bh;rw[xa];show 0<=(dY x).q;unfold dY;split
      .rw [ik];exact Rat.le_refl
      .obtain ⟨_,_,m⟩:=nR (cE x.lo) (cE x.hi)
       rcases m with m|m<;>rw[m]
       .exact (lF x.lo).1
       .exact (lF x.hi).1
     by_cases hr:0<=r
     .exact ⟨r,r9 hx h (.inl ⟨rfl,hr⟩),fun _=>⟨hl,hr⟩,rfl⟩
     .refine ⟨-r,r9 hx h (.inr ⟨rfl,by grind⟩),fun _=>⟨hl,by grind⟩,?_⟩
      rw[nW,if_pos hev]
    .rw [if_neg hev]
     exact⟨r,h,fun q=>absurd q hev,rfl⟩
   have hyv:(iK x n).Valid:=by unfold iK;split;exact sc hx;exact hx
   have ya:(iK x n).all=false:=by
    unfold iK;split
    .unfold bh;rw[xa];rfl
    .exact xa
   rw[hsn];generalize iK x n=y at *
   obtain⟨s1,s2⟩:=hs.ends ya;obtain⟨c1,c2⟩:=hyv.kU;unfold ck;split
   .exact .inl rfl
   .rename_i he
    have hodd:¬n%2=0->n%2=1:=fun q=>by omega
    refine .inr ⟨?_,?_⟩
    .refine Rat.le_trans (Le c1 (by omega) ?_ hp hp2 (by omega)) ?_
     .by_cases hev:n%2=0
      .exact .inl (hs0 hev).1
      .exact .inr (hodd hev)
     .by_cases hev:n%2=0
      .exact rA (hs0 hev).1 s1 n
      .exact yG (hodd hev) s1
    .refine Rat.le_trans ?_ (Lf c2 (by omega) ?_ hp hp2 (by omega))
     .by_cases hev:n%2=0
      .exact rA (hs0 hev).2 s2 n
      .exact yG (hodd hev) s2
     .by_cases hev:n%2=0
      .exact .inl (Rat.le_trans (hs0 hev).2 s2)
      .exact .inr (hodd hev)
 .rw [if_pos rfl];exact .inl rfl
end Go.Proofs.YtdgnpeddgdclhaaGreatDoor.Fp
namespace Go.Proofs.YtdgnpeddgdclhaaGreatDoor
open Go.RowKit Fp Pu
structure dH where
 kind:Nat
 a:Nat
 b:Nat
 n:Nat
 cn:Int
 cd:Int
structure fO where
 ins:Nat
 ops:List dH
 outs:List Nat
structure bU where
 tape:fO
 au:Nat
 params:List Iv
def a6:dH:=⟨0,0,0,0,0,0⟩
def tW(o:dH):List E:=[iP ((o.kind:Nat):Int),iP ((o.a:Nat):Int),iP ((o.b:Nat):Int),iP ((o.n:Nat):Int),iP o.cn,iP o.cd]
def jE(o:dH):E:=.agg (tW o)
def cU(l:List dH):E:=.sl true l.length 6 fun i j=>(tW (l.getD i a6)).getD j .any
def cT(l:List Nat):E:=.sl true l.length 1 fun i _=>iP ((l.getD i 0:Nat):Int)
def SP(t:fO):List E:=[iP ((t.ins:Nat):Int),cU t.ops,cT t.outs]
def mU(t:fO):E:=.agg (SP t)
def St(s:bU):List E:=[iP ((s.tape.ins:Nat):Int),cU s.tape.ops,cT s.tape.outs,iP ((s.au:Nat):Int),an s.params]
def bw(s:bU):E:=.agg (St s)
def dm(n d:Int):Bool:=decide (1<=d)&&(decide (d<=1073741824)&&(decide (-1073741824<=n)&&(decide (n<=1073741824)&&decide (Nat.gcd n.natAbs d.natAbs=1))))
theorem yg{n d:Int}(h:dm n d=true):1<=d/\d<=1073741824 /\ -1073741824<=n/\n<=1073741824:=by
 unfold dm at h;simp only[Bool.and_eq_true,decide_eq_true_eq]at h;exact⟨h.1,h.2.1,h.2.2.1,h.2.2.2.1⟩
structure dG(o:dH)(m:Nat):Prop where
 k3:o.kind=1\/3<=o.kind
 qx:o.kind<=13
 a:if o.kind=1 then o.a=0 else o.a<m
 b:if 3<=o.kind/\o.kind<=6 then o.b<m else o.b=0
 n:if o.kind=8 then o.n<=16 else o.n=0
 c:if o.kind=1 then dm o.cn o.cd=true else o.cn=0/\o.cd=0
structure om(t:fO):Prop where
 ins:t.ins<=8
 ops:t.ops.length<=200
 outs:t.outs.length<=200
 op:∀ i,i<t.ops.length->dG (t.ops.getD i a6) (t.ins+i)
 out:∀ i,i<t.outs.length->t.outs.getD i 0<t.ins+t.ops.length
def dM(l:List Iv):Prop:=∀ i,i<l.length->(l.getD i aj).Valid/\(l.getD i aj).all=false
structure dp(s:bU):Prop where
 tape:om s.tape
 s1:1<=s.au
 s4:s.au<=4
 outs:s.tape.outs.length=s.au
 ins:s.tape.ins=s.au+s.params.length
 p4:s.params.length<=4
 params:dM s.params
structure bO(n:Nat)(b:List Iv):Prop where
 len:b.length=n
 ok:dM b
def hasAll(l:List Iv):Bool:=(List.range l.length).any fun i=>(l.getD i aj).all
def cG(h:Dy):Iv:=⟨aT,h,false⟩
def wR(x f:List Iv)(h:Dy)(p i:Nat):Iv:=bj (x.getD i aj) (aV (cG h) (f.getD i aj) p) p
def lf(x f:List Iv)(h:Dy)(p:Nat):List Iv:=(List.range x.length).map (wR x f h p)
theorem F2{h:Dy}(hv:h.Valid)(h0:0<=h.q):(cG h).Valid:=.inr ⟨rfl,gL,hv,by show aD aT h<=0;rw[eI,ik];exact h0⟩
theorem ef(d:Dy){p:Nat}(hp:1<=p)(hp2:p<=4096)(up:Bool):(bq d p up).Valid:=ia _ _ _ _ _ _ hp hp2
theorem lE(d:Dy){p:Nat}(hp:1<=p)(hp2:p<=4096)(up:Bool):∀ k,(aI d p up k).1.Valid
 | 0=>ef _ hp hp2 _
 | k+1=>by
  unfold aI;split
  .exact lE d hp hp2 up k
  .exact ef _ hp hp2 _
theorem Cd(d:Dy)(n:Nat){p:Nat}(hp:1<=p)(hp2:p<=4096)(up:Bool):(b5 d n p up).1.Valid:=by
 unfold b5;split
 .exact kC (lE _ hp hp2 _ _)
 .exact lE _ hp hp2 _ _
theorem Eg:canon false 1 0=⟨false,1,0⟩:=by
 have h1:(canon false 1 0).neg=false:=by decide +kernel
 have h2:(canon false 1 0).m=1:=by decide +kernel
 have h3:(canon false 1 0).e=0:=by decide +kernel
 generalize canon false 1 0=d at *
 cases d;simp_all
theorem po:(⟨false,1,0⟩:Dy).Valid:=by
 have h2:cY (canon false 1 0):=by decide +kernel
 rw[<-Eg];exact⟨gY _ _ _,h2⟩
theorem P0{x:Iv}(hx:x.Valid)(n:Nat){p:Nat}(hp:1<=p)(hp2:p<=4096):(fT x n p).Valid:=by
 have hh:=PZ hx (n:=n) hp hp2 hx.my;revert hh;unfold fT;split
 .intro _;exact cC
 .split
  .intro _;exact jF po
  .unfold ck
   split
   .intro _;exact cC
   .intro hh
    obtain⟨h1,h2⟩:=hh.ends rfl;exact .inr ⟨rfl,Cd _ _ hp hp2 _,Cd _ _ hp hp2 _,(eI _ _).2 (Rat.le_trans h1 h2)⟩
def fm(l:List Iv):Prop:=∀ i,(l.getD i aj).Valid
theorem fm.push{l:List Iv}(h:fm l){y:Iv}(hy:y.Valid):fm (l++[y]):=fun i=>by
 rw[List.getD_eq_getElem?_getD,List.getElem?_append];split
 .have:=h i;rwa[List.getD_eq_getElem?_getD]at this
 .rcases i-l.length with _|j
  .exact hy
  .exact cC
theorem dM.zp{l:List Iv}(h:dM l):fm l:=fun i=>by
 by_cases hi:i<l.length
 .exact (h i hi).1
 .rw [List.getD_eq_getElem?_getD,List.getElem?_eq_none (by omega)];exact cC
theorem fm.append{l r:List Iv}(h:fm l)(k:fm r):fm (l++r):=fun i=>by
 rw[List.getD_eq_getElem?_getD,List.getElem?_append];split
 .have:=h i;rwa[List.getD_eq_getElem?_getD]at this
 .have:=k (i-l.length);rwa[List.getD_eq_getElem?_getD]at this
theorem Nj{l:List Iv}(h:hasAll l=false)(v:fm l):dM l:=fun i hi=>⟨v i,by simpa using List.any_eq_false.1 h i (List.mem_range.2 hi)⟩
theorem Nu{x f:List Iv}{h:Dy}(hx:fm x){p:Nat}(hp:1<=p)(hp2:p<=4096)(i:Nat):(wR x f h p i).Valid:=gO (hx i) (iG _ _ hp hp2) hp hp2
theorem tl(x f:List Iv)(h:Dy)(p:Nat):(lf x f h p).length=x.length:=by simp[lf]
theorem tk{x f:List Iv}{h:Dy}{p i:Nat}(hi:i<x.length):(lf x f h p).getD i aj=wR x f h p i:=by
 simp[lf,List.getD_eq_getElem?_getD,hi]
theorem Nv{x f:List Iv}{h:Dy}(hx:fm x){p:Nat}(hp:1<=p)(hp2:p<=4096):fm (lf x f h p):=fun i=>by
 by_cases hi:i<x.length
 .rw [tk hi];exact Nu hx hp hp2 i
 .rw [List.getD_eq_getElem?_getD,List.getElem?_eq_none (by rw[tl];omega)];exact cC
def iS(a b:List Iv):Bool:=(List.range a.length).all fun i=>mz (a.getD i aj) (b.getD i aj)
def fQ(x:Iv)(d:Dy):Bool:=decide (bV (av x.lo (aC d))=0)&&decide (bV (av x.hi d)=0)
def dg(x:Iv)(d:Dy):Iv:=⟨aO (av x.lo (aC d)),aO (av x.hi d),false⟩
def eG(x:List Iv)(d:Dy):Bool:=(List.range x.length).all fun i=>fQ (x.getD i aj) d
def ey(x:List Iv)(d:Dy):List Iv:=if eG x d then(List.range x.length).map fun i=>dg (x.getD i aj) d else[]
def eW(x y:Iv):Iv:=if x.all||y.all then aj else⟨minD x.lo y.lo,maxD x.hi y.hi,false⟩
def dh(x y:List Iv):List Iv:=(List.range x.length).map fun i=>eW (x.getD i aj) (y.getD i aj)
def bL(x:Iv)(p:Nat):Dy:=bq (av x.hi (aC x.lo)) p true
def eR(x:Iv)(p:Nat):Int:=bg (av x.hi (aC x.lo)) p true
def dr(x:List Iv)(p:Nat):Nat->Dy
 | 0=>aT
 | k+1=>if 0<aD (bL (x.getD k aj) p) (dr x p k)then bL (x.getD k aj) p else dr x p k
def rN(x:List Iv)(p:Nat):Bool:=(List.range x.length).all fun i=>decide (eR (x.getD i aj) p=0)
theorem CN{x y:Iv}(hx:x.Valid)(hy:y.Valid):(eW x y).Valid:=by
 unfold eW;cases xa:x.all
 .cases ya:y.all
  .obtain ⟨x1,x2⟩:x.lo.Valid/\x.hi.Valid:=hx.ends
   obtain⟨y1,y2⟩:y.lo.Valid/\y.hi.Valid:=hy.ends;refine .inr ⟨rfl,jS x1 y1,iF x2 y2,?_⟩;rw[eI];have hq:=hx.q;obtain⟨a1,a2,_⟩:=nR x.lo y.lo;obtain⟨b1,b2,_⟩:=re x.hi y.hi
   grind
  .exact cC
 .exact cC
theorem CM{x y:List Iv}{n:Nat}(hx:bO n x)(hy:bO n y):bO n (dh x y):=by
 refine⟨by simp[dh,hx.len],fun i hi=>?_⟩;have hi':i<x.length:=by simpa[dh]using hi
 have e:(dh x y).getD i aj=eW (x.getD i aj) (y.getD i aj):=by simp[dh,List.getD_eq_getElem?_getD,hi']
 obtain⟨v1,a1⟩:=hx.ok i hi';obtain⟨v2,a2⟩:=hy.ok i (by rw[hy.len,<-hx.len];exact hi');rw[e];refine⟨CN v1 v2,?_⟩;unfold eW;rw[a1,a2];rfl
theorem Nb{x:Iv}(hx:x.Valid){d:Dy}(hd:d.Valid)(h0:0<=d.q)(h:fQ x d=true):(dg x d).Valid:=by
 unfold fQ at h;rw[Bool.and_eq_true,decide_eq_true_eq,decide_eq_true_eq]at h;obtain⟨h1,h2⟩:=h;have r1:cY (av x.lo (aC d)):=Classical.byContradiction fun q=>by rw[pY q]at h1;cases h1
 have r2:cY (av x.hi d):=Classical.byContradiction fun q=>by rw[pY q]at h2;cases h2
 obtain⟨c1,c2⟩:=hx.kU;unfold dg;refine .inr ⟨rfl,vK (kT c1 (kC hd).canon),vK (kT c2 hd.canon),?_⟩;show aD (aO _) (aO _)<=0;rw[mj r1,mj r2,eI,xY,xY,fD];have:=hx.q
 grind
theorem tg{x:List Iv}{n:Nat}(hx:bO n x){d:Dy}(hd:d.Valid)(h0:0<=d.q)(h:eG x d=true):bO n (ey x d):=by
 unfold ey;rw[if_pos h];refine⟨by simp[hx.len],fun i hi=>?_⟩;have hi':i<x.length:=by simpa using hi
 have e:((List.range x.length).map fun i=>dg (x.getD i aj) d).getD i aj=dg (x.getD i aj) d:=by simp[List.getD_eq_getElem?_getD,hi']
 rw[e];exact⟨Nb (hx.ok i hi').1 hd h0 (List.all_eq_true.1 h i (List.mem_range.2 hi')),rfl⟩
end Go.Proofs.YtdgnpeddgdclhaaGreatDoor
